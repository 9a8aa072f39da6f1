/- For every eye in memory: what layer 3's functions read; the conditions stand in each theorem. -/
import Derived.Test.YtamkffjmggbekaaPen
set_option linter.unusedVariables false
set_option linter.unusedSimpArgs false
namespace Go.Proofs.Ytamkffjmggbekaa.Pen
open Go Go.Proofs Go.Proofs.Ytamkffjmggbekaa.V Go.Proofs.Ytamkffjmggbekaa.Vc Go.RowKit

def str (l : List UInt8) : ByteArray := ⟨l.toArray⟩
theorem str_size (l : List UInt8) : (str l).size = l.length := by simp [str, ByteArray.size]
theorem str_data (l : List UInt8) : (str l).data.toList = l := by simp [str]
theorem str_of (s : ByteArray) : str s.data.toList = s := str_ext (by simp [str])
theorem str_inj {a b : List UInt8} (h : str a = str b) : a = b := by rw [← str_data a, h, str_data]
theorem str_beq (a b : List UInt8) : ((str a).toList == (str b).toList) = decide (a = b) := by
  rw [str_toList, str_toList, str_data, str_data]
  by_cases h : a = b
  · subst h; simp
  · rw [decide_eq_false h]; simpa using h
theorem str_extract (l : List UInt8) (a b : Nat) : (str l).extract a b = str ((l.take b).drop a) := by
  apply str_ext
  rw [str_data]
  simp only [str, ByteArray.data_extract, Array.toList_extract, List.extract]
  rw [List.drop_take]
/-- What is left, and whether something was wrong. -/
abbrev St := List UInt8 × Bool
def EyeR (w : World) (e : Nat) (st : St) : Prop := Blk w e [.string (str st.1), .bool st.2] t_pen_Eye
def takeE (st : St) (n : Nat) : Option (List UInt8) × St := if st.2 = true ∨ st.1.length < n then (none, ([], true)) else (some (st.1.take n), (st.1.drop n, false))
def valB : List UInt8 → Nat
  | [] => 0
  | b :: r => b.toNat + 256 * valB r
theorem valB_lt : ∀ l : List UInt8, valB l < 256 ^ l.length
  | [] => by simp [valB]
  | b :: r => by
    have := valB_lt r
    have hb := b.toNat_lt
    simp only [valB, List.length_cons, Nat.pow_succ]
    have h2 : valB r + 1 ≤ 256 ^ r.length := this
    have := Nat.mul_le_mul_left 256 h2
    omega
theorem valB_snoc : ∀ (l : List UInt8) (b : UInt8), valB (l ++ [b]) = valB l + b.toNat * 256 ^ l.length
  | [], b => by simp [valB]
  | x :: r, b => by
    simp only [List.cons_append, valB, valB_snoc r b, List.length_cons, Nat.pow_succ, Nat.mul_add]
    rw [Nat.mul_left_comm 256, Nat.mul_comm 256 (256 ^ r.length)]
    omega
theorem valB_num (n : Nat) (h : n < 4294967296) : valB (numB n) = n := by
  simp [numB, valB]; omega
def byteE (st : St) : UInt8 × St := ((((takeE st 1).1.getD []).head?).getD 0, (takeE st 1).2)
def numE (st : St) (most : Int) : Nat × St := match (takeE st 4).1 with
  | none => (0, (takeE st 4).2)
  | some t => if (valB t : Int) > most then (0, ([], true)) else (valB t, (takeE st 4).2)
def textE (st : St) (most : Int) : List UInt8 × St := ((takeE (numE st most).2 (numE st most).1).1.getD [], (takeE (numE st most).2 (numE st most).1).2)
def errE (st : St) : Int := if st.2 then 5 else 0
def endE (st : St) : Int := if st.2 then 5 else if st.1.length = 0 then 0 else 5
theorem or_i64 (a b k : Nat) (ha : a < 2 ^ (8 * k)) (hk : k < 4) (hb : b < 256) : Go.bits .or .i64 (a : Int) (IntKind.i64.wrap ((IntKind.i64.wrap (b : Int)) * 2 ^ (min (IntKind.i64.wrap (8 * (k : Int))).toNat IntKind.i64.bits))) = ((a + b * 2 ^ (8 * k) : Nat) : Int) := by
  have h1 : IntKind.i64.wrap (8 * (k : Int)) = ((8 * k : Nat) : Int) := by rw [wrap_id (by omega) (by omega)]; omega
  have h2 : min ((8 * k : Nat) : Int).toNat IntKind.i64.bits = 8 * k := by show min ((8 * k : Nat) : Int).toNat 64 = _; rw [Int.toNat_natCast]; omega
  have hp : 2 ^ (8 * k) ≤ 2 ^ 24 := Nat.pow_le_pow_right (by omega) (by omega)
  have hm : b * 2 ^ (8 * k) ≤ 255 * 2 ^ 24 := Nat.mul_le_mul (by omega) hp
  have hc : (b : Int) * 2 ^ (8 * k) = ((b * 2 ^ (8 * k) : Nat) : Int) := by rw [Int.natCast_mul, Int.natCast_pow]; rfl
  rw [h1, h2, wrap_id (x := (b : Int)) (by omega) (by omega), hc, wrap_id (by omega) (by omega)]
  have hor : a ||| (b * 2 ^ (8 * k)) = a + b * 2 ^ (8 * k) := by
    rw [Nat.or_comm, ← Nat.shiftLeft_eq, ← Nat.shiftLeft_add_eq_or_of_lt ha]; omega
  generalize b * 2 ^ (8 * k) = m at hm hor ⊢
  have ha2 : a < 2 ^ 24 := Nat.lt_of_lt_of_le ha hp
  have e1 : (BitVec.ofInt 64 (a : Int)).toNat = a := by
    rw [BitVec.ofInt_natCast, BitVec.toNat_ofNat]; exact Nat.mod_eq_of_lt (by omega)
  have e2 : (BitVec.ofInt 64 (m : Int)).toNat = m := by
    rw [BitVec.ofInt_natCast, BitVec.toNat_ofNat]; exact Nat.mod_eq_of_lt (by omega)
  show IntKind.i64.wrap ((BitVec.ofInt 64 (a : Int) ||| BitVec.ofInt 64 (m : Int)).toNat : Int) = _
  rw [BitVec.toNat_or, e1, e2, hor, wrap_id (by omega) (by omega)]
section
variable {w : World} {e : Nat} {st : St}
theorem Of_spec (w : World) (l : List UInt8) : Calls Try.prog i_pen_Of #[.string (str l)] w (Ret fun v w' => ∃ e, v = .pointer (some ⟨e, 0, none⟩) ∧ e = w.heap.size ∧ EyeR w' e (l, false) ∧ Ch Non w w') := by
  refine pen_Of.calls _ ?_
  unfold pen_Of.vc
  exact fun w1 e1 => ⟨_, rfl, rfl, Blk.new e1, Ch.alloc e1⟩
theorem fail_spec (h : EyeR w e st) : Calls Try.prog i_pen_Eye_fail #[.pointer (some ⟨e, 0, none⟩)] w (Ret fun v w' => v = .tuple #[] ∧ EyeR w' e ([], true) ∧ Ch (· = e) w w') := by
  refine pen_Eye_fail.calls _ ?_
  unfold pen_Eye_fail.vc
  refine ⟨h.ok 0 rfl, fun w1 e1 => ?_⟩
  have h1 := h.set e1
  exact ⟨h1.ok 1 rfl, fun w2 e2 => ⟨rfl, h1.set e2, (Ch.set (F := (· = e)) e1 rfl).same (Ch.set e2 rfl)⟩⟩
theorem take_spec (h : EyeR w e st) (n : Nat) : Calls Try.prog i_pen_Eye_take #[.pointer (some ⟨e, 0, none⟩), .int .i64 n] w (Ret fun v w' => v = .tuple #[.string (str ((takeE st n).1.getD [])), .bool (takeE st n).1.isSome] ∧ EyeR w' e (takeE st n).2 ∧ Ch (· = e) w w') := by
  refine pen_Eye_take.calls _ _ ?_
  unfold pen_Eye_take.vc takeE
  refine ⟨st.2, h.cell 1 rfl, fun hb => ?_, fun hb => ⟨_, h.cell 0 rfl, fun hl => ?_, fun hl => ?_⟩⟩
  · rw [if_pos (.inl hb)]
    refine step_call (fail_spec h) ?_
    rintro v w1 ⟨rfl, h1, hc⟩
    exact ⟨rfl, rfl, h1, hc⟩
  · have hl := of_decide_eq_true hl
    rw [str_size] at hl
    rw [if_pos (.inr (by omega))]
    refine step_call (fail_spec h) ?_
    rintro v w1 ⟨rfl, h1, hc⟩
    exact ⟨rfl, rfl, h1, hc⟩
  · have hl := of_decide_eq_false hl
    rw [str_size] at hl
    rw [if_neg (by rintro (h | h); · rw [hb] at h; cases h
                   · omega)]
    refine ⟨_, h.cell 0 rfl, ⟨by omega, by rw [str_size]; omega⟩, _, h.cell 0 rfl, ⟨by omega, by rw [str_size]; omega⟩, h.ok 0 rfl, fun w3 e3 => ⟨?_, ?_, Ch.set e3 rfl⟩⟩
    · rw [Int.toNat_natCast, str_extract]; simp
    · have h3 := h.set e3
      rw [Int.toNat_natCast, str_size, str_extract, List.take_length] at h3
      rw [hb] at h3
      exact h3
theorem EyeByte_spec (h : EyeR w e st) : Calls Try.prog i_pen_Eye_Byte #[.pointer (some ⟨e, 0, none⟩)] w (Ret fun v w' => v = u8v (byteE st).1 ∧ EyeR w' e (byteE st).2 ∧ Ch (· = e) w w') := by
  refine pen_Eye_Byte.calls _ ?_
  unfold pen_Eye_Byte.vc
  refine step_call (take_spec h 1) ?_
  rintro v w1 ⟨rfl, h1, hc⟩
  refine ⟨_, _, rfl, fun hn => ?_, fun hs => ?_⟩
  · have hn : (takeE st 1).1 = none := by simpa using hn
    refine ⟨?_, h1, hc⟩
    unfold byteE; rw [hn]; rfl
  · have hs : (takeE st 1).1.isSome = true := by simpa using hs
    have hle : ∃ x r, st.1 = x :: r ∧ (takeE st 1).1 = some [x] := by
      unfold takeE at hs ⊢
      split at hs
      · simp at hs
      · rename_i hno
        cases hst : st.1 with
        | nil => exfalso; apply hno; right; rw [hst]; simp
        | cons x r => exact ⟨x, r, rfl, by rw [if_neg (by rw [hst] at hno; exact hno)]; simp⟩
    obtain ⟨x, r, _, hx⟩ := hle
    unfold byteE
    rw [hx]
    refine ⟨⟨by omega, by rw [str_size]; simp⟩, ?_, h1, hc⟩
    simp [bt, str, u8v]
theorem EyeNum_spec (h : EyeR w e st) (most : Int) : Calls Try.prog i_pen_Eye_Num #[.pointer (some ⟨e, 0, none⟩), .int .i64 most] w (Ret fun v w' => v = .int .i64 (numE st most).1 ∧ EyeR w' e (numE st most).2 ∧ Ch (· = e) w w') := by
  refine pen_Eye_Num.calls _ _ ?_
  unfold pen_Eye_Num.vc
  refine step_call (take_spec h 4) ?_
  rintro v w1 ⟨rfl, h1, hc⟩
  refine ⟨_, _, rfl, fun hn => ?_, fun hs => ?_⟩
  · have hn : (takeE st 4).1 = none := by simpa using hn
    refine ⟨?_, ?_, hc⟩ <;> unfold numE <;> rw [hn]
    · rfl
    · exact h1
  · have hs : (takeE st 4).1.isSome = true := by simpa using hs
    obtain ⟨t, ht⟩ := Option.isSome_iff_exists.1 hs
    have htl : t.length = 4 := by
      unfold takeE at ht
      split at ht
      · cases ht
      · rename_i hno
        injection ht with ht
        subst ht
        simp only [List.length_take]
        omega
    have hE : numE st most = if (valB t : Int) > most then (0, ([], true)) else (valB t, (takeE st 4).2) := by unfold numE; rw [ht]
    rw [ht]
    obtain ⟨c4, w2, hr2, hrd2, hc2, _⟩ := conv_in (P := Try.prog) (src := t_string) (dst := t_S_uint8) (e := t_uint8) (w := w1) (str t) (by kernel_rfl) (by kernel_rfl) (by kernel_rfl)
    rw [str_data] at hrd2
    have h2 : EyeR w2 e (takeE st 4).2 := h1.keepN hc2
    have hvt := valB_lt t
    rw [htl] at hvt
    refine ⟨_, _, _, w2, hr2, fun n i k w' => w' = w2 ∧ ∃ j : Nat, i = j ∧ j ≤ 4 ∧ k = 4 - j ∧ n = (valB (t.take j) : Int), ⟨_, rfl, 0, rfl, Nat.zero_le _, rfl, rfl⟩, ?_⟩
    rintro jk n i k w3 ⟨rfl, j, rfl, hj, rfl, rfl⟩
    have hsz : (str t).size = 4 := by rw [str_size, htl]
    refine ⟨fun hlt => ?_, fun hge => ?_⟩
    · have hlt : j < 4 := by have := of_decide_eq_true hlt; omega
      have hlt2 : j < t.length := by omega
      have hb := t[j].toNat_lt
      have hlo := valB_lt (t.take j)
      have hjl : (t.take j).length = j := by simp; omega
      rw [hjl] at hlo
      have h8 : (256 : Nat) ^ j = 2 ^ (8 * j) := by rw [show (256 : Nat) = 2 ^ 8 by decide, ← Nat.pow_mul]
      rw [h8] at hlo
      refine ⟨⟨by omega, by omega⟩, hrd2.at (j := (j : Int).toNat * 1) (v := u8v t[j]) (by rw [toNat_mul_one, List.getElem?_map, List.getElem?_eq_getElem hlt2]; rfl) fun p hp => ⟨_, hp, by rw [wrap_id (by omega) (by omega)]; omega, 4 - (j + 1), by omega, rfl, j + 1, by rw [wrap_id (by omega) (by omega)]; rfl, hlt, rfl, ?_⟩⟩
      rw [or_i64 _ _ _ hlo hlt (by omega), take_snoc t j hlt2, valB_snoc, hjl, h8]
    · have hj4 : j = 4 := by have := of_decide_eq_false hge; omega
      subst hj4
      rw [List.take_of_length_le (by omega), hE]
      refine ⟨fun hgt => ?_, fun hle => ?_⟩
      · have hgt := of_decide_eq_true hgt
        rw [if_pos hgt]
        refine step_call (fail_spec h2) ?_
        rintro v w4 ⟨rfl, h4, hc4⟩
        exact ⟨rfl, rfl, h4, (hc.andN hc2).same hc4⟩
      · have hle := of_decide_eq_false hle
        rw [if_neg hle]
        exact ⟨rfl, h2, hc.andN hc2⟩
theorem EyeText_spec (h : EyeR w e st) (most : Int) : Calls Try.prog i_pen_Eye_Text #[.pointer (some ⟨e, 0, none⟩), .int .i64 most] w (Ret fun v w' => v = .string (str (textE st most).1) ∧ EyeR w' e (textE st most).2 ∧ Ch (· = e) w w') := by
  refine pen_Eye_Text.calls _ _ ?_
  unfold pen_Eye_Text.vc
  refine step_call (EyeNum_spec h most) ?_
  rintro v w1 ⟨rfl, h1, hc1⟩
  refine ⟨_, rfl, ?_⟩
  refine step_call (take_spec h1 _) ?_
  rintro v w2 ⟨rfl, h2, hc2⟩
  exact ⟨_, _, rfl, rfl, h2, hc1.same hc2⟩
theorem Left_spec (h : EyeR w e st) : Calls Try.prog i_pen_Eye_Left #[.pointer (some ⟨e, 0, none⟩)] w (Ret fun v w' => v = .int .i64 st.1.length ∧ w' = w) := by
  refine pen_Eye_Left.calls _ ?_
  unfold pen_Eye_Left.vc
  exact ⟨_, h.cell 0 rfl, by rw [str_size], rfl⟩
theorem Err_spec (h : EyeR w e st) : Calls Try.prog i_pen_Eye_Err #[.pointer (some ⟨e, 0, none⟩)] w (Ret fun v w' => v = .int .i64 (errE st) ∧ w' = w) := by
  refine pen_Eye_Err.calls _ ?_
  unfold pen_Eye_Err.vc errE
  exact ⟨_, h.cell 1 rfl, fun h => ⟨by rw [h]; rfl, rfl⟩, fun h => ⟨by rw [h]; rfl, rfl⟩⟩
theorem End_spec (h : EyeR w e st) : Calls Try.prog i_pen_Eye_End #[.pointer (some ⟨e, 0, none⟩)] w (Ret fun v w' => v = .int .i64 (endE st) ∧ w' = w) := by
  refine pen_Eye_End.calls _ ?_
  unfold pen_Eye_End.vc
  refine step_call (Err_spec h) ?_
  rintro v w1 ⟨rfl, rfl⟩
  unfold endE errE
  refine ⟨_, rfl, fun h1 => ?_, fun h1 => ?_⟩
  · cases hb : st.2 with
    | true => exact ⟨rfl, rfl⟩
    | false => rw [hb] at h1; simp at h1
  · cases hb : st.2 with
    | true => rw [hb] at h1; simp at h1
    | false =>
      refine step_call (Left_spec h) ?_
      rintro v w2 ⟨rfl, rfl⟩
      refine ⟨_, rfl, fun h2 => ⟨?_, rfl⟩, fun h2 => ⟨?_, rfl⟩⟩
      · have hl : st.1.length = 0 := by have := beq_iff_eq.1 h2; omega
        simp [hl]
      · have hl : st.1.length ≠ 0 := by have := beq_eq_false_iff_ne.1 h2; omega
        simp [hl]
end
end Go.Proofs.Ytamkffjmggbekaa.Pen
