/- For every number, every text and every eye of the document's: what the document's layer 3 answers; the conditions stand in each theorem. -/
import Derived.Test.YtamkffjmggbekaaPen2
import Derived.Test.YtamkffjmggbekaaVcPenR
set_option linter.unusedVariables false
set_option linter.unusedSimpArgs false
namespace Go.Proofs.Ytamkffjmggbekaa.Pen
open Go Go.Proofs Go.Proofs.Ytamkffjmggbekaa.V Go.Proofs.Ytamkffjmggbekaa.Vc Go.RowKit

def EyeF (w : World) (e : Nat) (st : St) : Prop := Blk w e [.string (str st.1), .bool st.2] t_coadjutorref03_Eye
theorem numI_out {n : Int} (h : outN n = true) : numI n = [0, 0, 0, 0] := by unfold numI normN; rw [if_pos h]; rfl
theorem u8_of {x : Int} {m : Nat} (h : x = m) : Value.int .u8 (IntKind.u8.wrap x) = u8v (UInt8.ofNat m) := by
  have hw : ∀ x : Int, IntKind.u8.wrap x = x % 256 := fun _ => rfl
  unfold u8v
  rw [hw, h, UInt8.toNat_ofNat']
  congr 1
theorem str_app (a b : List UInt8) : str a ++ str b = str (a ++ b) := by
  apply str_ext
  rw [str_data]
  simp [str]
theorem num_cells (m : Nat) (hm : m < 4294967296) : [Value.int .u8 (IntKind.u8.wrap (Int.tmod (m : Int) 256)), .int .u8 (IntKind.u8.wrap (Int.tmod (IntKind.i64.wrap (Int.tdiv (m : Int) 256)) 256)), .int .u8 (IntKind.u8.wrap (Int.tmod (IntKind.i64.wrap (Int.tdiv (m : Int) 65536)) 256)), .int .u8 (IntKind.u8.wrap (IntKind.i64.wrap (Int.tdiv (m : Int) 16777216)))] = (numB m).map u8v := by
  have d1 : IntKind.i64.wrap (Int.tdiv (m : Int) 256) = (m : Int) / 256 := by rw [Int.tdiv_eq_ediv_of_nonneg (by omega), wrap_id (by omega) (by omega)]
  have d2 : IntKind.i64.wrap (Int.tdiv (m : Int) 65536) = (m : Int) / 65536 := by rw [Int.tdiv_eq_ediv_of_nonneg (by omega), wrap_id (by omega) (by omega)]
  have d3 : IntKind.i64.wrap (Int.tdiv (m : Int) 16777216) = (m : Int) / 16777216 := by rw [Int.tdiv_eq_ediv_of_nonneg (by omega), wrap_id (by omega) (by omega)]
  unfold numB
  simp only [List.map_cons, List.map_nil]
  rw [d1, d2, d3]
  rw [tmod_pos (by omega), tmod_pos (by omega), tmod_pos (by omega)]
  have a0 := u8_of (x := (m : Int) % 256) (m := m % 256) (by omega)
  have a1 := u8_of (x := (m : Int) / 256 % 256) (m := m / 256 % 256) (by omega)
  have a2 := u8_of (x := (m : Int) / 65536 % 256) (m := m / 65536 % 256) (by omega)
  have a3 := u8_of (x := (m : Int) / 16777216) (m := m / 16777216 % 256) (by omega)
  rw [a0, a1, a2, a3]
theorem RefNum_spec (w : World) (n : Int) : Calls Try.prog i_coadjutorref03_Num #[.int .i64 n] w (Ret fun v w' => v = .tuple #[.string (str (numI n)), .bool (!outN n)] ∧ Ch Non w w') := by
  refine coadjutorref03_Num.calls _ ?_
  unfold coadjutorref03_Num.vc
  refine ⟨fun h => ?_, fun h => ⟨fun h2 => ?_, fun h2 => ⟨by decide, by decide, by decide, by decide, by decide, by decide, fun w1 e1 => ?_⟩⟩⟩
  · have h := of_decide_eq_true h
    have ho : outN n = true := by unfold outN; simp; omega
    rw [numI_out ho, ho]
    exact ⟨rfl, Ch.refl _ _⟩
  · have h2 := of_decide_eq_true h2
    have ho : outN n = true := by unfold outN; simp; omega
    rw [numI_out ho, ho]
    exact ⟨rfl, Ch.refl _ _⟩
  · have h := of_decide_eq_false h
    have h2 := of_decide_eq_false h2
    have ho : outN n = false := by unfold outN; simp; omega
    obtain ⟨m, rfl⟩ := Int.eq_ofNat_of_zero_le (by omega : 0 ≤ n)
    have hI : numI (m : Int) = numB m := by unfold numI normN; rw [ho]; simp
    rw [hI, ho]
    have hrd : Rd w1 (some ⟨w.heap.size, 0, none⟩) ((numB m).map u8v) (· = w.heap.size) := by
      rw [← num_cells m (by omega)]
      exact (Blk.new e1).rd
    have hout := conv_out (P := Try.prog) (src := t_S_uint8) (dst := t_string) (e := t_uint8) (c := 4) hrd (by kernel_rfl) (by kernel_rfl) (by kernel_rfl)
    have hlen : (numB m).length = 4 := rfl
    rw [hlen] at hout
    exact ⟨_, _, hout, rfl, Ch.alloc e1⟩
theorem RefText_spec (w : World) (s : ByteArray) (hs : s.size < 4294967296) : Calls Try.prog i_coadjutorref03_Text #[.string s] w (Ret fun v w' => v = .string (str (textB s)) ∧ Ch Non w w') := by
  refine coadjutorref03_Text.calls _ ?_
  unfold coadjutorref03_Text.vc
  refine step_call (RefNum_spec w _) ?_
  rintro v w1 ⟨rfl, hc⟩
  refine ⟨_, _, rfl, by rw [str_size, numI_len]; omega, ?_, hc⟩
  have h := str_app (numI (s.size : Int)) s.data.toList
  rw [str_of] at h
  rw [h]
  rfl
theorem takeE_bad {st : St} {n : Nat} : ((takeE st n).2.2 = true → (takeE st n) = (none, ([], true))) ∧ ((takeE st n).2.2 = false → ∃ t, (takeE st n).1 = some t ∧ t.length = n) := by
  unfold takeE
  split
  · exact ⟨fun _ => rfl, fun h => by cases h⟩
  · rename_i h
    exact ⟨fun h => (by cases h), fun _ => ⟨_, rfl, by rw [List.length_take]; omega⟩⟩
theorem numE_bad {st : St} {most : Int} (h : (numE st most).2.2 = true) : numE st most = (0, ([], true)) := by
  unfold numE at h ⊢
  cases ht : (takeE st 4).1 with
  | none =>
    rw [ht] at h
    rw [takeE_bad.1 h]
  | some t =>
    rw [ht] at h
    dsimp only at h ⊢
    split at h
    · rename_i hv; rw [if_pos hv]
    · rename_i hv
      have := (takeE_bad.1 h)
      rw [this] at ht; cases ht
section
variable {w : World} {e : Nat} {st : St}
theorem RefFail_spec (h : EyeF w e st) : Calls Try.prog i_coadjutorref03_Eye_fail #[.pointer (some ⟨e, 0, none⟩)] w (Ret fun v w' => v = .tuple #[] ∧ EyeF w' e ([], true) ∧ Ch (· = e) w w') := by
  refine coadjutorref03_Eye_fail.calls _ ?_
  unfold coadjutorref03_Eye_fail.vc
  refine ⟨h.ok 1 rfl, fun w1 e1 => ?_⟩
  have h1 := h.set e1
  exact ⟨h1.ok 0 rfl, fun w2 e2 => ⟨rfl, h1.set e2, (Ch.set (F := (· = e)) e1 rfl).same (Ch.set e2 rfl)⟩⟩
theorem RefTake_spec (h : EyeF w e st) (n : Nat) : Calls Try.prog i_coadjutorref03_Eye_Take #[.pointer (some ⟨e, 0, none⟩), .int .i64 n] w (Ret fun v w' => v = .string (str ((takeE st n).1.getD [])) ∧ EyeF w' e (takeE st n).2 ∧ Ch (· = e) w w') := by
  refine coadjutorref03_Eye_Take.calls _ _ ?_
  unfold coadjutorref03_Eye_Take.vc takeE
  refine ⟨st.2, h.cell 1 rfl, fun hb => ?_, fun hb => ⟨fun h0 => ?_, fun h0 => ⟨_, h.cell 0 rfl, fun hl => ?_, fun hl => ?_⟩⟩⟩
  · rw [if_pos (.inl hb)]
    refine step_call (RefFail_spec h) ?_
    rintro v w1 ⟨rfl, h1, hc⟩
    exact ⟨rfl, rfl, h1, hc⟩
  · have := of_decide_eq_true h0; omega
  · have hl := of_decide_eq_true hl
    rw [str_size] at hl
    rw [if_pos (.inr (by omega))]
    refine step_call (RefFail_spec h) ?_
    rintro v w1 ⟨rfl, h1, hc⟩
    exact ⟨rfl, rfl, h1, hc⟩
  · have hl := of_decide_eq_false hl
    rw [str_size] at hl
    rw [if_neg (by rintro (h | h); · rw [hb] at h; cases h
                   · omega)]
    refine ⟨_, h.cell 0 rfl, ⟨by omega, by rw [str_size]; omega⟩, _, h.cell 0 rfl, ⟨by omega, by rw [str_size]; omega⟩, h.ok 0 rfl, fun w3 e3 => ⟨?_, ?_, Ch.set e3 rfl⟩⟩
    · rw [Int.toNat_natCast, str_extract]; simp
    · have h3 := h.set e3
      rw [Int.toNat_natCast, str_size, str_extract, List.take_length] at h3
      rw [hb] at h3
      exact h3
theorem RefEyeNum_spec (h : EyeF w e st) (most : Int) : Calls Try.prog i_coadjutorref03_Eye_Num #[.pointer (some ⟨e, 0, none⟩), .int .i64 most] w (Ret fun v w' => v = .int .i64 (numE st most).1 ∧ EyeF w' e (numE st most).2 ∧ Ch (· = e) w w') := by
  refine coadjutorref03_Eye_Num.calls _ _ ?_
  unfold coadjutorref03_Eye_Num.vc
  refine step_call (RefTake_spec h 4) ?_
  rintro v w1 ⟨rfl, h1, hc⟩
  refine ⟨_, rfl, _, h1.cell 1 rfl, fun hb => ?_, fun hb => ⟨fun _ => True, fun w2 e2 => ?_⟩⟩
  · have hn := takeE_bad.1 hb
    have hE : numE st most = (0, ([], true)) := by unfold numE; rw [hn]
    rw [hn] at h1
    rw [hE]
    exact ⟨rfl, h1, hc⟩
  · obtain ⟨t, ht, htl⟩ := takeE_bad.2 hb
    have hE : numE st most = if (valB t : Int) > most then (0, ([], true)) else (valB t, (takeE st 4).2) := by unfold numE; rw [ht]
    rw [ht]
    match t, htl with
    | [a, b, c, d], _ =>
      have ha := a.toNat_lt
      have hb := b.toNat_lt
      have hcc := c.toNat_lt
      have hd := d.toNat_lt
      have hsz : (str ((some [a, b, c, d]).getD [])).size = 4 := by rw [str_size]; rfl
      rw [hsz]
      have b0 : bt (str ((some [a, b, c, d]).getD [])) 0 = a.toNat := by simp [bt, str]
      have b1 : bt (str ((some [a, b, c, d]).getD [])) 1 = b.toNat := by simp [bt, str]
      have b2 : bt (str ((some [a, b, c, d]).getD [])) 2 = c.toNat := by simp [bt, str]
      have b3 : bt (str ((some [a, b, c, d]).getD [])) 3 = d.toNat := by simp [bt, str]
      rw [b0, b1, b2, b3]
      have hv : (IntKind.i64.wrap ((IntKind.i64.wrap ((IntKind.i64.wrap ((IntKind.i64.wrap (a.toNat : Int)) + (IntKind.i64.wrap ((IntKind.i64.wrap (b.toNat : Int)) * 256)))) + (IntKind.i64.wrap ((IntKind.i64.wrap (c.toNat : Int)) * 65536)))) + (IntKind.i64.wrap ((IntKind.i64.wrap (d.toNat : Int)) * 16777216)))) = (valB [a, b, c, d] : Int) := by
        rw [wrap_id (x := (a.toNat : Int)) (by omega) (by omega), wrap_id (x := (b.toNat : Int)) (by omega) (by omega), wrap_id (x := (c.toNat : Int)) (by omega) (by omega), wrap_id (x := (d.toNat : Int)) (by omega) (by omega)]
        rw [wrap_id (x := (b.toNat : Int) * 256) (by omega) (by omega), wrap_id (x := (c.toNat : Int) * 65536) (by omega) (by omega), wrap_id (x := (d.toNat : Int) * 16777216) (by omega) (by omega)]
        rw [wrap_id (x := (a.toNat : Int) + (b.toNat : Int) * 256) (by omega) (by omega)]
        rw [wrap_id (x := (a.toNat : Int) + (b.toNat : Int) * 256 + (c.toNat : Int) * 65536) (by omega) (by omega)]
        rw [wrap_id (by omega) (by omega)]
        simp only [valB]
        omega
      rw [hv, hE]
      have h2 : EyeF w2 e (takeE st 4).2 := h1.drew e2
      refine ⟨trivial, by decide, by decide, by decide, by decide, fun hgt => ?_, fun hle => ?_⟩
      · have hgt := of_decide_eq_true hgt
        rw [if_pos hgt]
        refine step_call (RefFail_spec h2) ?_
        rintro v w4 ⟨rfl, h4, hc4⟩
        exact ⟨rfl, rfl, h4, (hc.andN (Ch.drew e2)).same hc4⟩
      · have hle := of_decide_eq_false hle
        rw [if_neg hle]
        exact ⟨rfl, h2, hc.andN (Ch.drew e2)⟩
theorem RefEyeText_spec (h : EyeF w e st) (most : Int) : Calls Try.prog i_coadjutorref03_Eye_Text #[.pointer (some ⟨e, 0, none⟩), .int .i64 most] w (Ret fun v w' => v = .string (str (textE st most).1) ∧ EyeF w' e (textE st most).2 ∧ Ch (· = e) w w') := by
  refine coadjutorref03_Eye_Text.calls _ _ ?_
  unfold coadjutorref03_Eye_Text.vc
  refine step_call (RefEyeNum_spec h most) ?_
  rintro v w1 ⟨rfl, h1, hc1⟩
  refine ⟨_, rfl, _, h1.cell 1 rfl, fun hb => ?_, fun hb => ?_⟩
  · have hE := numE_bad hb
    have hT : textE st most = ([], ([], true)) := by unfold textE; rw [hE]; rfl
    rw [hE] at h1
    rw [hT]
    exact ⟨rfl, h1, hc1⟩
  · refine step_call (RefTake_spec h1 _) ?_
    rintro v w2 ⟨rfl, h2, hc2⟩
    exact ⟨_, rfl, rfl, h2, hc1.same hc2⟩
end
end Go.Proofs.Ytamkffjmggbekaa.Pen
