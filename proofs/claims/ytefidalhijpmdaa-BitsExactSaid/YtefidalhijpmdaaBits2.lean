/- For every set in memory: its bytes, and what the document's are; the conditions stand in each theorem. -/
import Derived.Test.YtefidalhijpmdaaBits
set_option linter.unusedVariables false
namespace Go.Proofs.Ytefidalhijpmdaa.Bits
open Go Go.Proofs Go.Proofs.Ytefidalhijpmdaa.V Go.Proofs.Ytefidalhijpmdaa.Vc Go.RowKit

/-- So many bits of a byte of a set of numbers. -/
def bsum (S : Nat → Bool) (i : Nat) : Nat → Nat
  | 0 => 0
  | m + 1 => bsum S i m + (S (8 * i + m)).toNat * 2 ^ m
theorem bsum_lt (S : Nat → Bool) (i : Nat) : ∀ m, bsum S i m < 2 ^ m
  | 0 => by show 0 < 1; omega
  | m + 1 => by
    have h := bsum_lt S i m
    have hb := Bool.toNat_le (S (8 * i + m))
    have := Nat.mul_le_mul_right (2 ^ m) hb
    rw [bsum, Nat.pow_succ]; omega
theorem bsum_bit (S : Nat → Bool) (i : Nat) : ∀ (m k : Nat), k < m → bsum S i m / 2 ^ k % 2 = (S (8 * i + k)).toNat
  | 0, k, h => by omega
  | m + 1, k, h => by
    rw [bsum]
    have hp : 0 < 2 ^ k := Nat.two_pow_pos k
    by_cases hk : k < m
    · obtain ⟨d, rfl⟩ : ∃ d, m = k + 1 + d := ⟨m - k - 1, by omega⟩
      have e : (S (8 * i + (k + 1 + d))).toNat * 2 ^ (k + 1 + d) = 2 ^ k * (2 * ((S (8 * i + (k + 1 + d))).toNat * 2 ^ d)) := by
        rw [Nat.pow_add, Nat.pow_succ]
        generalize (S (8 * i + (k + 1 + d))).toNat = b
        generalize 2 ^ k = p
        generalize 2 ^ d = q
        rw [Nat.mul_assoc p 2 q, Nat.mul_left_comm b p, Nat.mul_left_comm b 2 q]
      rw [e, Nat.add_mul_div_left _ _ hp, Nat.add_mul_mod_self_left]
      exact bsum_bit S i _ k hk
    · have : k = m := by omega
      subst this
      rw [Nat.add_mul_div_right _ _ hp, Nat.div_eq_of_lt (bsum_lt S i k), Nat.zero_add]
      have hb := Bool.toNat_le (S (8 * i + k))
      omega
/-- A byte of a set of numbers. -/
def byteN (S : Nat → Bool) (i : Nat) : Nat := bsum S i 8
theorem byteN_lt (S : Nat → Bool) (i : Nat) : byteN S i < 256 := bsum_lt S i 8
theorem byteN_bit (S : Nat → Bool) (i k : Nat) (hk : k < 8) : byteN S i / 2 ^ k % 2 = (S (8 * i + k)).toNat := bsum_bit S i 8 k hk
/-- A number more. -/
def ins (S : Nat → Bool) (n : Nat) : Nat → Bool := fun m => S m || m == n
theorem ins_eq {S : Nat → Bool} {n : Nat} : ins S n n = true := by simp [ins]
theorem ins_ne {S : Nat → Bool} {n m : Nat} (h : m ≠ n) : ins S n m = S m := by simp [ins, h]
theorem bsum_ins_ne {S : Nat → Bool} {n i : Nat} : ∀ {m : Nat}, (∀ k, k < m → 8 * i + k ≠ n) → bsum (ins S n) i m = bsum S i m
  | 0, _ => rfl
  | m + 1, h => by rw [bsum, bsum, bsum_ins_ne (fun k hk => h k (by omega)), ins_ne (h m (by omega))]
theorem bsum_ins {S : Nat → Bool} {i k : Nat} (h : S (8 * i + k) = false) : ∀ {m : Nat}, k < m → bsum (ins S (8 * i + k)) i m = bsum S i m + 2 ^ k
  | 0, hk => by omega
  | m + 1, hk => by
    rw [bsum, bsum]
    by_cases hm : k < m
    · rw [bsum_ins h hm, ins_ne (by omega)]; omega
    · have : k = m := by omega
      subst this
      rw [bsum_ins_ne (fun j hj => by omega), ins_eq, h]
      simp
theorem byteN_ins {S : Nat → Bool} {n : Nat} (h : S n = false) : byteN (ins S n) (n / 8) = byteN S (n / 8) + 2 ^ (n % 8) := by
  have e : 8 * (n / 8) + n % 8 = n := by omega
  have := bsum_ins (S := S) (i := n / 8) (k := n % 8) (by rw [e]; exact h) (m := 8) (by omega)
  rw [e] at this; exact this
theorem byteN_ins_ne {S : Nat → Bool} {n i : Nat} (h : i ≠ n / 8) : byteN (ins S n) i = byteN S i := bsum_ins_ne (fun k hk => by omega)
/-- So many bytes. -/
def textL (S : Nat → Bool) (m : Nat) : List UInt8 := (List.range m).map fun i => UInt8.ofNat (byteN S i)
theorem textL_len (S : Nat → Bool) (m : Nat) : (textL S m).length = m := by simp [textL]
theorem u8v_byte (S : Nat → Bool) (i : Nat) : u8v (UInt8.ofNat (byteN S i)) = .int .u8 (byteN S i : Int) := by
  unfold u8v
  have h := byteN_lt S i
  have : (UInt8.ofNat (byteN S i)).toNat = byteN S i := by simp [UInt8.toNat_ofNat']; omega
  rw [this]
theorem textL_at (S : Nat → Bool) {m i : Nat} (h : i < m) : ((textL S m).map u8v)[i]? = some (.int .u8 (byteN S i : Int)) := by
  unfold textL
  rw [List.map_map, List.getElem?_map, List.getElem?_range h]
  exact congrArg some (u8v_byte S i)
theorem textL_zero (m : Nat) : (textL (fun _ => false) m).map u8v = List.replicate m (.int .u8 0) := by
  apply List.ext_getElem?
  intro i
  by_cases h : i < m
  · rw [textL_at _ h, List.getElem?_replicate, if_pos h]; rfl
  · rw [List.getElem?_eq_none (by simp [textL_len]; omega), List.getElem?_eq_none (by simp; omega)]
theorem textL_ins {S : Nat → Bool} {n m : Nat} (h : S n = false) (hm : n / 8 < m) : ((textL S m).map u8v).set (n / 8) (.int .u8 ((byteN S (n / 8) + 2 ^ (n % 8) : Nat) : Int)) = (textL (ins S n) m).map u8v := by
  apply List.ext_getElem?
  intro i
  by_cases hi : i < m
  · rw [textL_at _ hi]
    by_cases he : i = n / 8
    · subst he
      rw [List.getElem?_set_self (by simp [textL_len]; exact hi), byteN_ins h]
    · rw [List.getElem?_set_ne (by omega), textL_at _ hi, byteN_ins_ne he]
  · rw [List.getElem?_eq_none (by simp [textL_len]; omega), List.getElem?_eq_none (by simp [textL_len]; omega)]
/-- A bit that isn't there is put in by 'or', and by '+'. -/
theorem or_bit_all : ∀ (x : Fin 256) (k : Fin 8), x.val / 2 ^ k.val % 2 = 0 → Go.bits .or .u8 (x.val : Int) (IntKind.u8.wrap (1 * 2 ^ k.val)) = ((x.val + 2 ^ k.val : Nat) : Int) ∧ IntKind.u8.wrap ((x.val : Int) + IntKind.u8.wrap (1 * 2 ^ k.val)) = ((x.val + 2 ^ k.val : Nat) : Int) := by decide +kernel
theorem or_bit {x k : Nat} (hx : x < 256) (hk : k < 8) (h : x / 2 ^ k % 2 = 0) : Go.bits .or .u8 (x : Int) (IntKind.u8.wrap (1 * 2 ^ k)) = ((x + 2 ^ k : Nat) : Int) := (or_bit_all ⟨x, hx⟩ ⟨k, hk⟩ h).1
theorem add_bit {x k : Nat} (hx : x < 256) (hk : k < 8) (h : x / 2 ^ k % 2 = 0) : IntKind.u8.wrap ((x : Int) + IntKind.u8.wrap (1 * 2 ^ k)) = ((x + 2 ^ k : Nat) : Int) := (or_bit_all ⟨x, hx⟩ ⟨k, hk⟩ h).2
theorem byteN_free {S : Nat → Bool} {n : Nat} (h : S n = false) : byteN S (n / 8) / 2 ^ (n % 8) % 2 = 0 := by
  rw [byteN_bit S _ _ (by omega), show 8 * (n / 8) + n % 8 = n by omega, h]; rfl
/-- A row's numbers rise. -/
theorem rowTo_lt (l : List Bool) (j : Nat) : (rowTo l j).Pairwise (· < ·) := by
  unfold rowTo
  rw [List.pairwise_map]
  refine List.Pairwise.imp ?_ (List.Pairwise.filter _ List.pairwise_lt_range)
  intro a b h
  exact Int.ofNat_lt.2 h
def textOf (l : List Bool) : List UInt8 := textL (fun k => l.getD k false) ((l.length + 7) / 8)
section
variable {w w' : World} {b : Nat} {l : List Bool} {F G : Nat → Prop} {o : Option Addr} {c : Nat}
theorem tdiv8 {n : Int} (h : 0 ≤ n) : Int.tdiv n 8 = n / 8 := Int.tdiv_eq_ediv_of_nonneg h
theorem Text_spec (h : SetR w b l F) : Calls Try.prog i_bits_Set_Text #[.pointer (some ⟨b, 0, none⟩)] w (Ret fun v w' => v = .string ⟨(textOf l).toArray⟩ ∧ Ch Non w w') := by
  have hle := h.le
  refine bits_Set_Text.calls _ ?_
  unfold bits_Set_Text.vc
  refine step_call (Len_spec h) ?_
  rintro v w1 ⟨rfl, rfl⟩
  have hm : (IntKind.i64.wrap (Int.tdiv (IntKind.i64.wrap ((IntKind.i64.wrap ((l.length : Int) + 8)) - 1)) 8)) = (((l.length + 7) / 8 : Nat) : Int) := by
    rw [wrap_id (x := (l.length : Int) + 8) (by omega) (by omega), wrap_id (x := (l.length : Int) + 8 - 1) (by omega) (by omega), tdiv8 (by omega), wrap_id (by omega) (by omega)]
    omega
  refine ⟨_, rfl, ?_⟩
  rw [hm]
  generalize hM : (l.length + 7) / 8 = m
  refine ⟨by decide, ⟨rfl, by omega, by omega⟩, fun w2 e2 => ?_⟩
  rw [zeroRow_one, Int.toNat_natCast] at e2
  have hb2 := Blk.new e2
  have hc2 : Ch Non w1 w2 := Ch.alloc e2
  refine step_call (Row_spec (h.keepN hc2)) ?_
  rintro v w3 ⟨ro, rc, rfl, hr, hc3⟩
  have hb3 := hb2.keepN hc3
  have hc3' := hc3
  have hc3 := hc2.andN hc3
  refine ⟨_, _, _, rfl, fun i k w' => ∃ j : Nat, i = j ∧ j ≤ (rowL l).length ∧ k = (rowL l).length - j ∧ Blk w' w1.heap.size ((textL (fun k => decide ((k : Int) ∈ (rowL l).take j)) m).map u8v) t_uint8 ∧ Ch (· = w1.heap.size) w3 w', ⟨_, 0, rfl, Nat.zero_le _, rfl, ?_, Ch.refl _ _⟩, ?_⟩
  · have hz : (fun k : Nat => decide ((k : Int) ∈ (rowL l).take 0)) = fun _ => false := by funext k; simp
    rw [hz, textL_zero]; simpa using hb3
  rintro jk i k w4 ⟨j, rfl, hj, rfl, hb4, hc4⟩
  have fin : Ch Non w1 w4 := hc3.trans hc4 (fun i hi he => by omega)
  refine ⟨fun hlt => ?_, fun hge => ?_⟩
  · have hlt : j < (rowL l).length := by simpa using hlt
    obtain ⟨r, hr0, hr1, hr2⟩ := mem_rowTo.1 (List.getElem_mem hlt)
    have hlen : (rowL l).length ≤ l.length := rowTo_len l l.length
    have hnot : (fun k : Nat => decide ((k : Int) ∈ (rowL l).take j)) r = false := by
      show decide _ = false
      rw [decide_eq_false_iff_not, List.mem_take_iff_getElem]
      rintro ⟨i, hi, he⟩
      have := List.pairwise_iff_getElem.1 (rowTo_lt l l.length) i j (by show i < (rowL l).length; omega) hlt (by omega)
      have e1 : (rowTo l l.length)[i]'(by show i < (rowL l).length; omega) = (r : Int) := he
      have e2 : (rowTo l l.length)[j]'hlt = (r : Int) := hr0
      omega
    have hins : (fun k : Nat => decide ((k : Int) ∈ (rowL l).take (j + 1))) = ins (fun k : Nat => decide ((k : Int) ∈ (rowL l).take j)) r := by
      funext k
      rw [take_snoc _ j hlt]
      have : (rowL l)[j] = (r : Int) := hr0
      rw [this]
      unfold ins
      by_cases hk : k = r
      · subst hk; simp
      · have : ¬ (k : Int) = (r : Int) := by omega
        simp [hk, this]
    have hr8 : r / 8 < m := by omega
    have hro : Ch Non w1 w4 := fin
    have hrd : Rd w4 ro ((rowL l).map (.int .i64)) (New w2 w3) := hr.rd.keep hc4 (fun i _ hN he => by have := hN.1; have := hb2.lt; omega)
    refine ⟨⟨by omega, by omega⟩, hrd.at (j := (j : Int).toNat * 1) (v := .int .i64 (r : Int)) (by rw [List.getElem?_map, show (j : Int).toNat * 1 = j by simp, List.getElem?_eq_getElem hlt]; exact congrArg (fun x => some (Value.int .i64 x)) hr0) fun p hp => ⟨(r : Int), hp, ?_⟩⟩
    have e8 : IntKind.i64.wrap (Int.tdiv (r : Int) 8) = ((r / 8 : Nat) : Int) := by rw [tdiv8 (by omega), wrap_id (by omega) (by omega)]; rfl
    have e9 : Int.tmod (r : Int) 8 = ((r % 8 : Nat) : Int) := by rw [tmod_pos (by omega)]; rfl
    rw [e8, e9]
    have hmin : min ((r % 8 : Nat) : Int).toNat IntKind.u8.bits = r % 8 := by show min ((r % 8 : Nat) : Int).toNat 8 = r % 8; rw [Int.toNat_natCast]; omega
    rw [hmin]
    have hidx : 0 + ((r / 8 : Nat) : Int).toNat * 1 = r / 8 := by omega
    refine ⟨fun w => True, fun w5 e5 => ⟨trivial, by decide, ⟨by omega, by omega⟩, by decide, by omega, ?_⟩⟩
    have hb5 := hb4.drew e5
    have hold := byteN_free (S := fun k : Nat => decide ((k : Int) ∈ (rowL l).take j)) hnot
    have hcell := textL_at (fun k : Nat => decide ((k : Int) ∈ (rowL l).take j)) hr8
    rw [add_at, hidx]
    refine ⟨_, hb5.cell (r / 8) hcell, trivial, ⟨by omega, by omega⟩, hb5.ok (r / 8) hcell, fun w6 e6 => ⟨trivial, (rowL l).length - (j + 1), by omega, j + 1, by rw [wrap_id (by omega) (by omega)]; rfl, hlt, rfl, ?_, (hc4.same (Ch.drew e5)).same (Ch.set e6 rfl)⟩⟩
    have hb6 := hb5.set e6
    rw [or_bit (byteN_lt _ _) (by omega) hold, textL_ins (S := fun k : Nat => decide ((k : Int) ∈ (rowL l).take j)) hnot hr8, ← hins] at hb6
    exact hb6
  · have : j = (rowL l).length := by simp at hge; omega
    subst this
    have hS : (fun k : Nat => decide ((k : Int) ∈ (rowL l).take (rowL l).length)) = fun k => l.getD k false := by
      funext k
      rw [List.take_length]
      by_cases h : l.getD k false = true
      · have hk : k < l.length := by
          apply Nat.lt_of_not_ge; intro hk
          rw [List.getD_eq_getElem?_getD, List.getElem?_eq_none hk] at h; cases h
        rw [h, decide_eq_true (show (k : Int) ∈ rowL l from mem_rowTo.2 ⟨k, rfl, hk, h⟩)]
      · rw [decide_eq_false (fun hm => by obtain ⟨i, hi, _, h3⟩ := mem_rowTo.1 hm; have : k = i := by omega
                                          subst this; exact h h3)]
        simpa using h
    rw [hS] at hb4
    have hrd : Rd w4 (some ⟨w1.heap.size, 0, none⟩) ((textL (fun k => l.getD k false) m).map u8v) (· = w1.heap.size) := fun j v hj => ⟨_, rfl, rfl, hb4.lt, by rw [add_at, Nat.zero_add]; exact hb4.cell j hj⟩
    have hout := conv_out (P := Try.prog) (src := t_S_uint8) (dst := t_string) (e := t_uint8) (c := m) hrd (by kernel_rfl) (by kernel_rfl) (by kernel_rfl)
    rw [textL_len] at hout
    rw [Int.toNat_natCast]
    exact ⟨_, _, hout, by unfold textOf; rw [hM], fin⟩
end
end Go.Proofs.Ytefidalhijpmdaa.Bits
