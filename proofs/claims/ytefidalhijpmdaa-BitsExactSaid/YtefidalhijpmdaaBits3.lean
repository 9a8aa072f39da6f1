/- For every set in memory, and all bytes: what layer 8's Parse and Same answer, and the document's functions; the conditions stand in each theorem. -/
import Derived.Test.YtefidalhijpmdaaBitsLaw1
set_option linter.unusedVariables false
namespace Go.Proofs.Ytefidalhijpmdaa.Bits
open Go Go.Proofs Go.Proofs.Ytefidalhijpmdaa.V Go.Proofs.Ytefidalhijpmdaa.Vc Go.RowKit

theorem and_bit_all : ∀ (x : Fin 256) (k : Fin 8), Go.bits .and .u8 (Int.fdiv (x.val : Int) (2 ^ k.val)) 1 = ((x.val / 2 ^ k.val % 2 : Nat) : Int) := by decide +kernel
theorem and_bit {x k : Nat} (hx : x < 256) (hk : k < 8) : Go.bits .and .u8 (Int.fdiv (x : Int) (2 ^ k)) 1 = ((x / 2 ^ k % 2 : Nat) : Int) := and_bit_all ⟨x, hx⟩ ⟨k, hk⟩
/-- A bit of a text. -/
def tbit (t : ByteArray) (m : Nat) : Bool := decide ((t.data.toList.getD (m / 8) 0).toNat / 2 ^ (m % 8) % 2 = 1)
def curL (t : ByteArray) (n m : Nat) : List Bool := (List.range n).map fun i => decide (i < m) && tbit t i
def bitsOf (t : ByteArray) (n : Nat) : List Bool := (List.range n).map (tbit t)
theorem curL_len (t : ByteArray) (n m : Nat) : (curL t n m).length = n := by simp [curL]
theorem curL_zero (t : ByteArray) (n : Nat) : curL t n 0 = List.replicate n false := by
  apply List.ext_getElem?
  intro i
  unfold curL
  by_cases h : i < n
  · rw [List.getElem?_map, List.getElem?_range h, List.getElem?_replicate, if_pos h]; rfl
  · rw [List.getElem?_eq_none (by simp; omega), List.getElem?_eq_none (by simp; omega)]
theorem curL_set {t : ByteArray} {n m : Nat} (h : m < n) (hb : tbit t m = true) : (curL t n m).set m true = curL t n (m + 1) := by
  apply List.ext_getElem?
  intro i
  by_cases hi : i < n
  · by_cases he : i = m
    · subst he
      rw [List.getElem?_set_self (by rw [curL_len]; exact h)]
      unfold curL
      rw [List.getElem?_map, List.getElem?_range hi]
      simp [hb]
    · rw [List.getElem?_set_ne (by omega)]
      unfold curL
      rw [List.getElem?_map, List.getElem?_range hi, List.getElem?_map, List.getElem?_range hi]
      simp only [Option.map_some, Option.some.injEq]
      congr 1
      exact decide_eq_decide.2 (by omega)
  · rw [List.getElem?_eq_none (by simp [curL_len]; omega), List.getElem?_eq_none (by simp [curL_len]; omega)]
theorem curL_skip {t : ByteArray} {n m : Nat} (hb : tbit t m = false) : curL t n m = curL t n (m + 1) := by
  unfold curL
  apply List.map_congr_left
  intro i hi
  by_cases he : i = m
  · subst he; rw [hb]; simp
  · congr 1
    exact decide_eq_decide.2 (by omega)
theorem curL_all {t : ByteArray} {n m : Nat} (h : n ≤ m) : curL t n m = bitsOf t n := by
  unfold curL bitsOf
  apply List.map_congr_left
  intro i hi
  rw [decide_eq_true (by have := List.mem_range.1 hi; omega)]; rfl
/-- Whether a text is one of a set of so many. -/
def parseOk (t : ByteArray) (n : Nat) : Prop := t.size = (n + 7) / 8 ∧ ∀ m, m < 8 * t.size → tbit t m = true → m < n
section
variable {w w' w1 : World} {b : Nat} {l : List Bool} {F G : Nat → Prop} {o : Option Addr} {c : Nat}
theorem Add1_bad (h : SetR w b l F) (hF : ∀ i, F i → i < w.heap.size) {x : Int} (e1 : w1 = w.alloc (.cells #[.int .i64 x] t_int (0, 0))) (h2 : (l.length : Int) ≤ x) :
    Calls Try.prog i_bits_Set_Add #[.pointer (some ⟨b, 0, none⟩), .slice (some ⟨w.heap.size, 0, none⟩) 1 1] w1 (Ret fun v w' => v = .int .i64 3 ∧ SetR w' b l F ∧ Ch F w w') := by
  have o1 := mk_ints (xs := [x]) (n := 1) e1 rfl rfl (by simp)
  have hc : Ch Non w w1 := Ch.alloc e1
  have hin : inAll l.length [x] = false := by unfold inAll; simp; omega
  have sp := Add_spec (xs := [x]) (c := 1) (h.keepN hc) o1.rd (fun i hi hF' => absurd (hF i hF') (Nat.not_lt.2 hi.1)) (by simp)
  rw [hin, if_neg (by simp), if_neg (by simp)] at sp
  refine step_call sp ?_
  rintro v w2 ⟨rfl, h3, h4⟩
  exact ⟨rfl, h3, (hc.any (F := F)).same h4⟩
theorem Parse_spec (w : World) {n : Int} (h1 : 1 ≤ n) (h2 : n ≤ 1024) (t : ByteArray) (ht : t.size ≤ 1000000) :
    Calls Try.prog i_bits_Parse #[.int .i64 n, .string t] w (Ret fun v w' => ((parseOk t n.toNat ∧ ∃ b, v = .tuple #[.pointer (some ⟨b, 0, none⟩), .int .i64 0] ∧ SetR w' b (bitsOf t n.toNat) (New w w')) ∨ (¬ parseOk t n.toNat ∧ v = .tuple #[.pointer none, .int .i64 5])) ∧ Ch Non w w') := by
  refine bits_Parse.calls _ _ ?_
  unfold bits_Parse.vc
  refine step_call (New_ok w h1 h2) ?_
  rintro v w1 ⟨b, rfl, hS, hc1⟩
  obtain ⟨c, w2, hcv, hrd, hc2, hsz⟩ := conv_in (P := Try.prog) (w := w1) (src := t_string) (dst := t_S_uint8) (e := t_uint8) t (by kernel_rfl) (by kernel_rfl) (by kernel_rfl)
  refine ⟨_, rfl, iteF rfl ⟨_, _, c, w2, hcv, ?_⟩⟩
  have hS2 := hS.keepN hc2
  have hF1 : Foot w w1 (New w w1) := Foot.new (Ch.refl _ _)
  have hF2 := hF1.le hc2.size
  have hC2 := hc1.andN hc2
  have hd : ∀ i, New w1 w2 i → ¬ New w w1 i := fun i h1 h2 => absurd h2.2 (Nat.not_lt.2 h1.1)
  rw [← curL_zero t n.toNat] at hS2
  refine ⟨fun i k w' => ∃ j : Nat, i = j ∧ j ≤ t.size ∧ k = t.size - j ∧ (∀ m, m < 8 * j → tbit t m = true → m < n.toNat) ∧ SetR w' b (curL t n.toNat (8 * j)) (New w w1) ∧ Ch Non w w' ∧ Ch (New w w1) w2 w', ⟨_, 0, rfl, Nat.zero_le _, rfl, fun m hm => by omega, hS2, hC2, Ch.refl _ _⟩, ?_⟩
  rintro jk i k w3 ⟨j, rfl, hj, rfl, hok, hS3, hC3, hD3⟩
  refine ⟨fun hlt => ?_, fun hge => ?_⟩
  · have hlt : j < t.size := by simpa using hlt
    have hlt' : j < t.data.toList.length := by simpa using hlt
    have hrd3 := hrd.keep hD3 (fun i _ h => hd i h)
    refine ⟨⟨by omega, by omega⟩, hrd3.at (j := (j : Int).toNat * 1) (v := u8v (t.data.toList[j]'hlt')) (by rw [List.getElem?_map, show (j : Int).toNat * 1 = j by simp, List.getElem?_eq_getElem hlt']; rfl) fun p hp => ⟨_, hp, ?_⟩⟩
    refine ⟨fun k vk w' => ∃ q : Nat, k = q ∧ q ≤ 8 ∧ vk = 8 - q ∧ (∀ m, m < 8 * j + q → tbit t m = true → m < n.toNat) ∧ SetR w' b (curL t n.toNat (8 * j + q)) (New w w1) ∧ Ch Non w w' ∧ Ch (New w w1) w2 w', ⟨_, 0, rfl, Nat.zero_le _, rfl, hok, hS3, hC3, hD3⟩, ?_⟩
    rintro jk k vk w4 ⟨q, rfl, hq, rfl, hok4, hS4, hC4, hD4⟩
    refine ⟨fun hq8 => ⟨by omega, ?_⟩, fun hq8 => ?_⟩
    · have hq8 : q < 8 := by simp at hq8; omega
      have hmin : min (q : Int).toNat IntKind.u8.bits = q := by show min (q : Int).toNat 8 = q; omega
      have hbyte : (t.data.toList[j]'hlt').toNat < 256 := UInt8.toNat_lt _
      have htb : tbit t (8 * j + q) = decide ((t.data.toList[j]'hlt').toNat / 2 ^ q % 2 = 1) := by
        unfold tbit
        rw [show (8 * j + q) / 8 = j by omega, show (8 * j + q) % 8 = q by omega, List.getD_eq_getElem?_getD, List.getElem?_eq_getElem hlt']; rfl
      rw [hmin, and_bit hbyte hq8]
      generalize (t.data.toList[j]'hlt').toNat / 2 ^ q % 2 = r at htb ⊢
      have hwr : IntKind.i64.wrap ((q : Int) + 1) = ((q + 1 : Nat) : Int) := by rw [wrap_id (by omega) (by omega)]; rfl
      have hpos : IntKind.i64.wrap (IntKind.i64.wrap ((j : Int) * 8) + (q : Int)) = ((8 * j + q : Nat) : Int) := by rw [wrap_id (x := (j : Int) * 8) (by omega) (by omega), wrap_id (by omega) (by omega)]; omega
      have hF4 : ∀ i, New w w1 i → i < w4.heap.size := fun i hi => by have := hi.2; have := hc2.size; have := hD4.size; omega
      rw [hpos]
      refine ⟨fun hbit => fun w5 e5 => ?_, fun hbit => ?_⟩
      · have hb : tbit t (8 * j + q) = true := by rw [htb]; have := beq_iff_eq.1 hbit; exact decide_eq_true (by omega)
        by_cases hn : 8 * j + q < n.toNat
        · refine step_call (Add1_spec hS4 hF4 e5 (by omega) (by rw [curL_len]; omega)) ?_
          rintro v w6 ⟨rfl, hS6, hc6⟩
          rw [Int.toNat_natCast, curL_set hn hb] at hS6
          refine ⟨_, rfl, iteF rfl ⟨8 - (q + 1), by omega, q + 1, hwr, hq8, rfl, fun m hm htm => ?_, hS6, hC4.trans hc6 (fun i hi h => absurd hi (Nat.not_lt.2 h.1)), hD4.same hc6⟩⟩
          rcases Nat.lt_or_ge m (8 * j + q) with h | h
          · exact hok4 m h htm
          · omega
        · refine step_call (Add1_bad hS4 hF4 e5 (by rw [curL_len]; omega)) ?_
          rintro v w6 ⟨rfl, hS6, hc6⟩
          exact ⟨_, rfl, iteT rfl ⟨.inr ⟨fun hp => hn (hp.2 _ (by omega) hb), rfl⟩, hC4.trans hc6 (fun i hi h => absurd hi (Nat.not_lt.2 h.1))⟩⟩
      · have hb : tbit t (8 * j + q) = false := by
          rw [htb]; have := beq_eq_false_iff_ne.1 hbit; exact decide_eq_false (by omega)
        refine ⟨8 - (q + 1), by omega, q + 1, hwr, hq8, rfl, fun m hm htm => ?_, ?_, hC4, hD4⟩
        · rcases Nat.lt_or_ge m (8 * j + q) with h | h
          · exact hok4 m h htm
          · have : m = 8 * j + q := by omega
            subst this
            rw [hb] at htm; cases htm
        · rw [show 8 * j + (q + 1) = 8 * j + q + 1 by omega, ← curL_skip hb]; exact hS4
    · have : q = 8 := by simp at hq8; omega
      subst this
      exact ⟨t.size - (j + 1), by omega, j + 1, by rw [wrap_id (by omega) (by omega)]; rfl, hlt, rfl, hok4, hS4, hC4, hD4⟩
  · have : j = t.size := by simp at hge; omega
    subst this
    refine step_call (Text_spec hS3) ?_
    rintro v w4 ⟨rfl, hc4⟩
    have hS4 := hS3.keepN hc4
    have hC4 := hC3.andN hc4
    have hlen : (⟨(textOf (curL t n.toNat (8 * t.size))).toArray⟩ : ByteArray).size = (n.toNat + 7) / 8 := by
      show (textOf _).toArray.size = _
      unfold textOf
      simp [textL_len, curL_len]
    refine ⟨_, rfl, ?_⟩
    rw [hlen]
    refine ⟨fun hne => ?_, fun heq => ?_⟩
    · have hne : t.size ≠ (n.toNat + 7) / 8 := by simp at hne; omega
      exact ⟨.inr ⟨fun hp => hne hp.1, rfl⟩, hC4⟩
    · have heq : t.size = (n.toNat + 7) / 8 := by simp at heq; omega
      rw [curL_all (by omega)] at hS4
      exact ⟨.inl ⟨⟨heq, hok⟩, b, rfl, hS4.mono (fun i hi h => ⟨h.1, hi⟩)⟩, hC4⟩
end
end Go.Proofs.Ytefidalhijpmdaa.Bits
