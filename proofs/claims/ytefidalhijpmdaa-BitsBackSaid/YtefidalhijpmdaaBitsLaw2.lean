/- BitsParse's contract: of every number and all bytes the Go function answers true and leaves what was there; the conditions stand in each theorem. -/
import Derived.Test.YtefidalhijpmdaaBits4
set_option linter.unusedVariables false
namespace Go.Proofs.Ytefidalhijpmdaa.Bits
open Go Go.Proofs Go.Proofs.Ytefidalhijpmdaa.V Go.Proofs.Ytefidalhijpmdaa.Vc Go.RowKit

theorem bsum_byte {S : Nat → Bool} {i x : Nat} : ∀ m, (∀ q, q < m → S (8 * i + q) = decide (x / 2 ^ q % 2 = 1)) → bsum S i m = x % 2 ^ m
  | 0, _ => by rw [bsum, Nat.pow_zero, Nat.mod_one]
  | m + 1, h => by
    rw [bsum, bsum_byte m (fun q hq => h q (by omega)), h m (by omega), Nat.mod_pow_succ, Nat.mul_comm]
    congr 1
    have : x / 2 ^ m % 2 = 0 ∨ x / 2 ^ m % 2 = 1 := by omega
    rcases this with h | h <;> simp [h]
theorem bitsOf_getD (t : ByteArray) {n k : Nat} (h : k < n) (d : Bool) : (bitsOf t n).getD k d = tbit t k := by
  unfold bitsOf; simp [List.getD, h]
theorem textL_get (S : Nat → Bool) {m i : Nat} (h : i < (textL S m).length) : (textL S m)[i] = UInt8.ofNat (byteN S i) := by simp [textL]
theorem textOf_bits {t : ByteArray} {n : Nat} (h : parseOk t n) : textOf (bitsOf t n) = t.data.toList := by
  obtain ⟨h1, h2⟩ := h
  unfold textOf
  have hl : (bitsOf t n).length = n := by simp [bitsOf]
  rw [hl, ← h1]
  have hsz : t.data.toList.length = t.size := by simp
  apply List.ext_getElem
  · rw [textL_len, hsz]
  · intro i hi1 hi2
    rw [textL_get]
    rw [textL_len] at hi1
    have hx : (t.data.toList[i]).toNat < 256 := UInt8.toNat_lt _
    have : byteN (fun k => (bitsOf t n).getD k false) i = (t.data.toList[i]).toNat := by
      unfold byteN
      rw [bsum_byte (x := (t.data.toList[i]).toNat) 8 (fun q hq => ?_), Nat.mod_eq_of_lt (by omega)]
      have htb : tbit t (8 * i + q) = decide ((t.data.toList[i]).toNat / 2 ^ q % 2 = 1) := by
        unfold tbit
        rw [show (8 * i + q) / 8 = i by omega, show (8 * i + q) % 8 = q by omega, List.getD_eq_getElem?_getD, List.getElem?_eq_getElem hi2]; rfl
      rw [← htb]
      by_cases hn : 8 * i + q < n
      · rw [bitsOf_getD t hn]
      · have hf : tbit t (8 * i + q) = false := by
          cases hc : tbit t (8 * i + q) with
          | false => rfl
          | true => exact absurd (h2 _ (by omega) hc) hn
        rw [hf, List.getD_eq_getElem?_getD, List.getElem?_eq_none (by omega)]; rfl
    rw [this, UInt8.ofNat_toNat]
theorem bt_at {t : ByteArray} {i : Nat} (h : i < t.size) : bt t (i : Int) = ((t.data.toList.getD i 0).toNat : Int) := by
  unfold bt
  rw [Int.toNat_natCast]
  congr 2
  have : i < t.data.size := h
  simp only [Array.getD, List.getD, Array.getElem?_toList]
  rw [dif_pos this, Array.getElem?_eq_getElem this]; rfl
section
variable {w w' w1 : World}
theorem rParse_spec (w : World) {n : Nat} (h1 : 1 ≤ n) (h2 : n ≤ 1024) (t : ByteArray) (ht : t.size ≤ 1000000) :
    Calls Try.prog i_coadjutorref08_Parse #[.int .i64 n, .string t] w (Ret fun v w' => ((parseOk t n ∧ ∃ o c, v = .tuple #[.slice o (bitsOf t n).length c, .bool true] ∧ Rd w' o ((bitsOf t n).map .bool) (New w w')) ∨ (¬ parseOk t n ∧ v = .tuple #[.slice none 0 0, .bool false])) ∧ Ch Non w w') := by
  refine coadjutorref08_Parse.calls _ _ ?_
  unfold coadjutorref08_Parse.vc
  have hm : (IntKind.i64.wrap (Int.tdiv (IntKind.i64.wrap ((n : Int) + 7)) 8)) = (((n + 7) / 8 : Nat) : Int) := by
    rw [wrap_id (x := (n : Int) + 7) (by omega) (by omega), tdiv8 (by omega), wrap_id (by omega) (by omega)]
    omega
  rw [hm]
  refine ⟨by decide, fun hne => ?_, fun heq => fun w1 e1 => ?_⟩
  · have hne : t.size ≠ (n + 7) / 8 := by simp at hne; omega
    exact ⟨.inr ⟨fun hp => hne hp.1, rfl⟩, Ch.refl _ _⟩
  have heq : t.size = (n + 7) / 8 := by simp at heq; omega
  have ho1 : Own w1 t_bool 1 (some ⟨w.heap.size, 0, none⟩) 0 0 (([] : List Bool).map .bool) (New w w1) := Own.made e1 rfl (by decide) ⟨Nat.le_refl _, (Blk.new e1).lt⟩
  have h8 : IntKind.i64.wrap (8 * (t.size : Int)) = ((8 * t.size : Nat) : Int) := by rw [wrap_id (by omega) (by omega)]; omega
  rw [h8]
  refine ⟨fun o m c i k w' => ∃ j : Nat, i = j ∧ j ≤ 8 * t.size ∧ k = 8 * t.size - j ∧ m = min j n ∧ (∀ q, q < j → tbit t q = true → q < n) ∧ Own w' t_bool 1 o m c ((bitsOf t (min j n)).map .bool) (New w w') ∧ Ch Non w w', ⟨_, 0, rfl, Nat.zero_le _, rfl, by simp, fun q hq => by omega, by simpa [bitsOf] using ho1, Ch.alloc e1⟩, ?_⟩
  rintro jk o m c i k w2 ⟨j, rfl, hj, rfl, rfl, hok, ho, hc⟩
  refine ⟨fun hlt => ?_, fun hge => ?_⟩
  · have hlt : j < 8 * t.size := by simp at hlt; omega
    have e8 : IntKind.i64.wrap (Int.tdiv (j : Int) 8) = ((j / 8 : Nat) : Int) := by rw [tdiv8 (by omega), wrap_id (by omega) (by omega)]; rfl
    have e9 : Int.tmod (j : Int) 8 = ((j % 8 : Nat) : Int) := by rw [tmod_pos (by omega)]; rfl
    have hmin : min ((j % 8 : Nat) : Int).toNat IntKind.u8.bits = j % 8 := by show min ((j % 8 : Nat) : Int).toNat 8 = j % 8; rw [Int.toNat_natCast]; omega
    have hbit : ((Go.bits .and .u8 (Int.fdiv (bt t (IntKind.i64.wrap (Int.tdiv (j : Int) 8))) (2 ^ (min (Int.tmod (j : Int) 8).toNat IntKind.u8.bits))) 1) == (1 : Int)) = tbit t j := by
      rw [e9, hmin, e8, bt_at (by omega), and_bit (UInt8.toNat_lt _) (by omega)]
      unfold tbit
      generalize (t.data.toList.getD (j / 8) 0).toNat / 2 ^ (j % 8) % 2 = r
      by_cases h : r = 1
      · subst h; rfl
      · rw [decide_eq_false h]; simp; omega
    rw [hbit, e8, e9]
    have hwr : IntKind.i64.wrap ((j : Int) + 1) = ((j + 1 : Nat) : Int) := by rw [wrap_id (by omega) (by omega)]; rfl
    have hokn : tbit t j = false → ∀ q, q < j + 1 → tbit t q = true → q < n := by
      intro hb q hq htq
      rcases Nat.lt_or_ge q j with h | h
      · exact hok q h htq
      · have : q = j := by omega
        subst this; rw [hb] at htq; cases htq
    have skip : n ≤ j → tbit t j = false → ∃ vk_1 : Nat, vk_1 < 8 * t.size - j ∧ ∃ j' : Nat, IntKind.i64.wrap ((j : Int) + 1) = j' ∧ j' ≤ 8 * t.size ∧ vk_1 = 8 * t.size - j' ∧ min j n = min j' n ∧ (∀ q, q < j' → tbit t q = true → q < n) ∧ Own w2 t_bool 1 o (min j n) c ((bitsOf t (min j' n)).map .bool) (New w w2) ∧ Ch Non w w2 := fun hn hb =>
      ⟨8 * t.size - (j + 1), by omega, j + 1, hwr, hlt, rfl, by omega, hokn hb, by rw [show min (j + 1) n = min j n by omega]; exact ho, hc⟩
    have push : j < n → ∀ w3 : World, w3 = w2.alloc (.cells #[(.bool (tbit t j))] 4 (0, 0)) → ∃ (x44A : Option Addr), ∃ (x44N : Nat), ∃ (x44C : Nat), ∃ w4 : World, (Builtin.append_ #[t_S_bool, t_S_bool] t_S_bool #[(.slice o (min j n) c), (.slice (some (⟨w2.heap.size, 0, none⟩ : Addr)) 1 1)]).run Try.prog w3 = .ok (.slice x44A x44N x44C) w4 ∧
        ∃ vk_1 : Nat, vk_1 < 8 * t.size - j ∧ ∃ j' : Nat, IntKind.i64.wrap ((j : Int) + 1) = j' ∧ j' ≤ 8 * t.size ∧ vk_1 = 8 * t.size - j' ∧ x44N = min j' n ∧ (∀ q, q < j' → tbit t q = true → q < n) ∧ Own w4 t_bool 1 x44A x44N x44C ((bitsOf t (min j' n)).map .bool) (New w w4) ∧ Ch Non w w4 := fun hn w3 e3 => by
      obtain ⟨o', c', w4, hr, ho4, hc4⟩ := Own.pushT el_S_bool ho t_S_bool _ e3 rfl (by unfold maxLen; omega) (by omega)
      have hs : bitsOf t (min j n) ++ [tbit t j] = bitsOf t (min (j + 1) n) := by
        rw [show min j n = j by omega, show min (j + 1) n = j + 1 by omega]
        unfold bitsOf; rw [List.range_succ, List.map_append]; rfl
      rw [hs] at ho4
      have hmn : min j n + 1 = min (j + 1) n := by omega
      rw [hmn] at hr ho4
      exact ⟨o', _, c', w4, hr, 8 * t.size - (j + 1), by omega, j + 1, hwr, hlt, rfl, rfl, fun q hq htq => by omega, ho4.mono (fun i _ hi => New.ext hi hc.size hc4.size), Ch.newN hc hc4⟩
    refine ⟨by decide, ⟨by omega, by omega⟩, by decide, by omega, fun hn => ⟨fun hb => ?_, fun hb => ⟨fun hn2 => ?_, fun hn2 => ?_⟩⟩, fun hn => ⟨fun hn2 => ?_, fun hn2 => ?_⟩⟩
    · have hn : n ≤ j := by simp at hn; omega
      exact ⟨.inr ⟨fun hp => by have := hp.2 j hlt hb; omega, rfl⟩, hc⟩
    · have hn : n ≤ j := by simp at hn; omega
      simp at hn2; omega
    · exact skip (by simp at hn; omega) hb
    · exact push (by simp at hn2; omega)
    · simp at hn hn2; omega
  · have : j = 8 * t.size := by simp at hge; omega
    subst this
    have hmn : min (8 * t.size) n = n := by omega
    rw [hmn] at ho ⊢
    have hl : (bitsOf t n).length = n := by simp [bitsOf]
    exact ⟨.inl ⟨⟨heq, hok⟩, o, c, by rw [hl], ho.rd⟩, hc⟩
end
theorem Parse_bad (w : World) {n : Int} (h : n < 1 ∨ n > 1024) (t : ByteArray) : Calls Try.prog i_bits_Parse #[.int .i64 n, .string t] w (Ret fun v w' => v = .tuple #[.pointer none, .int .i64 1] ∧ w' = w) := by
  refine bits_Parse.calls _ _ ?_
  unfold bits_Parse.vc
  refine step_call (New_bad w h) ?_
  rintro v w1 ⟨rfl, rfl⟩
  exact ⟨_, rfl, iteT rfl ⟨rfl, rfl⟩⟩
theorem BitsParse_true (W : World) (n : Int) (wn : (Lit.int .i64 n).wf = true) (t : ByteArray) (_ : t.size ≤ 140737488351232) :
    Calls Try.prog i_coadjutorlaw08_BitsParse #[.int .i64 n, .string t] W (Ret fun v w' => v = .bool true ∧ Ch Non W w') := by
  refine coadjutorlaw08_BitsParse.calls _ _ ?_
  unfold coadjutorlaw08_BitsParse.vc
  refine step_call (awake_spec W) ?_
  rintro v w1 ⟨rfl, hc1⟩
  refine ⟨_, rfl, iteF rfl ⟨fun _ => ⟨rfl, hc1⟩, fun h140 => ?_⟩⟩
  have h140 : t.size ≤ 140 := by simp at h140; omega
  by_cases hbad : n < 1 ∨ n > 1024
  · refine step_call (Parse_bad w1 hbad t) ?_
    rintro v w2 ⟨rfl, rfl⟩
    refine ⟨_, _, rfl, ?_⟩
    by_cases h1 : n < 1
    · exact iteT (by simpa using h1) (iteT rfl ⟨rfl, hc1⟩)
    · exact iteF (by simpa using h1) (iteT (by simp; omega) (iteT rfl ⟨rfl, hc1⟩))
  refine step_call (Parse_spec w1 (n := n) (by omega) (by omega) t (by omega)) ?_
  obtain ⟨N, hN⟩ : ∃ N : Nat, n = N := ⟨n.toNat, by omega⟩
  subst hN
  rintro v w2 ⟨hv, hc2⟩
  have hc2 := hc1.andN hc2
  have sp := rParse_spec w2 (n := N) (by omega) (by omega) t (by omega)
  rw [Int.toNat_natCast] at hv
  rcases hv with ⟨hok, b, rfl, hS⟩ | ⟨hno, rfl⟩
  · refine ⟨_, _, rfl, iteF (by simp; omega) (iteF (by simp; omega) ?_)⟩
    refine step_call sp ?_
    rintro v w3 ⟨hv, hc3⟩
    rcases hv with ⟨_, o, c, rfl, hr⟩ | ⟨hno, _⟩
    · have hS3 := hS.keepN hc3
      have hc3 := hc2.andN hc3
      refine ⟨_, _, _, _, rfl, iteF rfl (iteF rfl (iteF rfl ?_))⟩
      refine step_call (Text_spec hS3) ?_
      rintro v w4 ⟨rfl, hc4⟩
      have hS4 := hS3.keepN hc4
      have hr4 := hr.keepN hc4
      have hc4 := hc3.andN hc4
      have hl : (bitsOf t N).length = N := by simp [bitsOf]
      refine ⟨_, rfl, iteF (by rw [textOf_bits hok]; simp) ?_⟩
      refine step_call (Len_spec hS4) ?_
      rintro v w5 ⟨rfl, rfl⟩
      refine ⟨_, rfl, iteF (by rw [hl]; simp) ?_⟩
      refine ⟨fun i k w' => ∃ j : Nat, i = j ∧ j ≤ N ∧ k = N - j ∧ Ch Non w5 w', ⟨_, 0, rfl, Nat.zero_le _, rfl, Ch.refl _ _⟩, ?_⟩
      rintro jk i k w6 ⟨j, rfl, hj, rfl, hc6⟩
      refine ⟨fun hlt => ?_, fun _ => ⟨rfl, hc4.andN hc6⟩⟩
      have hlt : j < N := by simp at hlt; omega
      refine ⟨fun w' => Ch Non w5 w', fun w7 e7 => ⟨hc6.andN (Ch.drew e7), ⟨by omega, by rw [hl]; omega⟩, Rd.keeps (j := (j : Int).toNat * 1) (S := fun w' => Ch Non w5 w') (fun w h => hr4.keepN h) hc6 (by simp [hl]; omega) fun p hp => ⟨_, hp, fun w9 e9 => ⟨(hc6.andN (Ch.drew e7)).andN (Ch.alloc e9), ?_⟩⟩⟩⟩
      have hc7 := hc6.andN (Ch.drew (F := Non) e7)
      refine step_call (Has1_spec (hS4.keepN hc7) e9) ?_
      rintro v w10 ⟨rfl, hc10⟩
      have hc10 := hc7.andN hc10
      have hho : hasOne (bitsOf t N) (j : Int) = (bitsOf t N)[(j : Int).toNat * 1]'(by simp [hl]; omega) := by
        unfold hasOne
        simp only [Int.toNat_natCast, Nat.mul_one]
        rw [decide_eq_true (by omega), decide_eq_true (by omega), getD_at (by omega)]; rfl
      exact ⟨_, rfl, hc10, iteF (by rw [hho]; simp) ⟨N - (j + 1), by omega, j + 1, by rw [wrap_id (by omega) (by omega)]; rfl, hlt, rfl, hc10⟩⟩
    · exact absurd hok hno
  · refine ⟨_, _, rfl, iteF (by simp; omega) (iteF (by simp; omega) ?_)⟩
    refine step_call sp ?_
    rintro v w3 ⟨hv, hc3⟩
    rcases hv with ⟨hok, _⟩ | ⟨_, rfl⟩
    · exact absurd hok hno
    · exact ⟨_, _, _, _, rfl, iteT rfl (iteT rfl ⟨rfl, hc2.andN hc3⟩)⟩
end Go.Proofs.Ytefidalhijpmdaa.Bits
