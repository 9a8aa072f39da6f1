/- For every part and block: the words of a place, as the program and as the law tell them; the conditions stand in each theorem. -/
import Derived.Lib.LaidTab
import Derived.Stop.LaidErr
import Derived.Test.YtbadkcnemcnhfaaGreatDoorLensG
import Derived.Test.YtbadkcnemcnhfaaGreatDoorRefM
import Derived.Test.YtbadkcnemcnhfaaGreatDoorVcLawX
set_option linter.unusedVariables false
set_option linter.unusedSimpArgs false
namespace Go.Proofs.YtbadkcnemcnhfaaGreatDoor.Lens
open Go Go.Proofs Go.Proofs.YtbadkcnemcnhfaaGreatDoor.V Go.Proofs.YtbadkcnemcnhfaaGreatDoor.Vc Go.Proofs.YtbadkcnemcnhfaaGreatDoor.Conf Go.Proofs.YtbadkcnemcnhfaaGreatDoor.Brain Go.Proofs.YtbadkcnemcnhfaaGreatDoor.Num Go.Proofs.YtbadkcnemcnhfaaGreatDoor.RefM Go.RowKit Go.Shelf

shelf_lay LaysM.n171 Nm 171 at Tryz as laysItoaM
theorem fItoaM : laysItoaM_ren.f 171 = 20 := by kernel_rfl
abbrev TabOk (w : World) : Prop := Lib.TabIs Tryz.prog w "internal/strconv.uint64pow10" .u64 Lib.pow10Tab
theorem tab_keep {w w' : World} (h : TabOk w) (hc : Ch Non w w') : TabOk w' := by
  unfold TabOk Lib.TabIs World.var? at h ⊢
  rw [Option.bind_eq_some_iff] at h ⊢
  obtain ⟨g, hg, h⟩ := h
  refine ⟨g, hg, ?_⟩
  have hlt : g < w.heap.size := by
    rcases Nat.lt_or_ge g w.heap.size with k | k
    · exact k
    · rw [Array.getElem?_eq_none k] at h; cases h
  rw [hc.block g hlt id]
  exact h
theorem ItoaM_spec (w : World) {n : Int} (h0 : -9223372036854775808 ≤ n) (h1 : n ≤ 9223372036854775807) (ht : TabOk w) : Calls Tryz.prog 20 #[.int .i64 n] w (Ret fun v w' => v = .string ⟨(Lib.itoa n).toArray⟩ ∧ Ch Non w w') := by
  have h := Any.strconv_Itoa laysItoaM n h0 h1 w ht
  rw [fItoaM] at h
  refine h.mono ?_
  rintro e w' ⟨rfl, k, os, rfl⟩
  refine ⟨rfl, ⟨rfl, rfl, rfl, ?_, fun i hi _ => ?_⟩⟩
  · show w.heap.size ≤ (w.heap ++ os).size
    rw [Array.size_append]; omega
  · show (w.heap ++ os)[i]? = w.heap[i]?
    rw [Array.getElem?_append_left hi]
theorem dig_le {b : Nat} (hb : b < 10000000000000000000) : (Lib.decDigits b).length ≤ 19 := by
  rw [Lib.decDigits_length]
  have key : ∀ k b : Nat, b < 10 ^ (k + 1) → Lib.nDigits b ≤ k + 1 := by
    intro k
    induction k with
    | zero => intro b h; rw [Lib.nDigits_small (by simpa using h)]; exact Nat.le_refl _
    | succ k ih =>
      intro b h
      rw [Lib.nDigits]
      split
      · omega
      · have := ih (b / 10) (by rw [Nat.pow_succ] at h; omega)
        omega
  exact key 18 b hb
/-- The words of any part and block. -/
def nameA (p b : Int) : ByteArray := if p < 0 ∨ p > 11 ∨ b < 0 then ByteArray.mk #[] else nameS p.toNat b.toNat
theorem nameA_no {p b : Int} (h : p < 0 ∨ p > 11 ∨ b < 0) : nameA p b = ByteArray.mk #[] := by unfold nameA; rw [if_pos h]
theorem pName_spec (w : World) (p b : Int) (hb : b ≤ 9223372036854775807) (ht : TabOk w) : Calls Tryz.prog i_lens_Place_Name #[.agg #[.int .i64 p, .int .i64 b]] w (Ret fun v w' => v = .string (nameA p b) ∧ Ch Non w w') := by
  refine lens_Place_Name.calls _ _ ?_
  unfold lens_Place_Name.vc
  intro w1 e1 w2 e2
  have hP := (Blk.new e1).keepN (Ch.alloc e2)
  have hW : Blk w2 w1.heap.size (wordsL.map .string) t_string := Blk.new e2
  have hc02 : Ch Non w w2 := (Ch.alloc e1).andN (Ch.alloc e2)
  have no : (p < 0 ∨ p > 11 ∨ b < 0) → Value.string (ByteArray.mk #[]) = .string (nameA p b) ∧ Ch Non w w2 := fun h => ⟨by rw [nameA_no h], hc02⟩
  refine ⟨_, hP.cell 0 rfl, dT fun h1 => no (.inl h1), dF fun h1 => ⟨_, hP.cell 0 rfl, dT fun h2 => no (.inr (.inl (by omega))), dF fun h2 => ⟨_, hP.cell 1 rfl, dT fun h3 => no (.inr (.inr h3)), dF fun h3 => ?_⟩⟩⟩
  have hA : nameA p b = nameS p.toNat b.toNat := by unfold nameA; rw [if_neg (by omega)]
  rw [hA]
  obtain ⟨P, rfl⟩ := Int.eq_ofNat_of_zero_le (show 0 ≤ p by omega)
  obtain ⟨B, rfl⟩ := Int.eq_ofNat_of_zero_le (show 0 ≤ b by omega)
  rw [Int.toNat_natCast, Int.toNat_natCast]
  have hp : P < 12 := by omega
  have hwl := words_len P hp
  have hcw : ∀ w', Ch Non w2 w' → w'.cell? ((⟨w1.heap.size, 0, none⟩ : Addr).add ((P : Int).toNat * 1)) = some (.string (wordsL.getD P ByteArray.empty)) := fun w' k => by
    rw [add_at, Int.toNat_natCast]
    refine (hW.keepN k).cell _ ?_
    have hpw : P < wordsL.length := hp
    rw [show 0 + P * 1 = P by omega, List.getElem?_map, List.getD_eq_getElem?_getD, List.getElem?_eq_getElem hpw]
    rfl
  refine ⟨_, hP.cell 0 rfl, step_call (isAlone_spec w2 P) ?_⟩
  rintro v w3 ⟨rfl, rfl⟩
  unfold nameS
  refine ⟨_, rfl, fun ha => ?_, fun ha => ?_⟩
  · have ha := of_decide_eq_true ha
    rw [if_pos (by omega)]
    exact ⟨_, hP.cell 0 rfl, ⟨by omega, by omega⟩, _, hcw w3 (Ch.refl _ _), rfl, hc02⟩
  · have ha := of_decide_eq_false ha
    rw [if_neg (by omega)]
    have hi : Lib.itoa (B : Int) = Lib.decDigits B := by unfold Lib.itoa; rw [if_neg (by omega), Int.toNat_natCast]
    refine ⟨fun w' => Ch Non w3 w', fun w4 e4 => ⟨Ch.drew e4, _, fun w' k => (hP.keepN k).cell 0 rfl, ⟨by omega, by omega⟩, _, fun w' k => hcw w' k, ?_, _, fun w' k => (hP.keepN k).cell 1 rfl, step_call (ItoaM_spec w4 (n := (B : Int)) (by omega) hb (tab_keep (tab_keep ht hc02) (Ch.drew e4))) ?_⟩⟩
    · show ((_ + 1 : Nat) : Int) ≤ _; omega
    rintro v w8 ⟨rfl, hc8⟩
    have hd4 : Ch Non w3 w8 := (Ch.drew (F := Non) e4).andN hc8
    rw [hi]
    have hdl := dig_le (b := B) (by omega)
    refine ⟨_, rfl, hd4, ?_, rfl, hc02.andN hd4⟩
    have h1 : (wordsL.getD P ByteArray.empty ++ ByteArray.mk #[32]).size = (wordsL.getD P ByteArray.empty).size + 1 := ByteArray.size_append
    have h2 : (ByteArray.mk (Lib.decDigits B).toArray).size = (Lib.decDigits B).length := by simp [ByteArray.size]
    rw [h1, h2]; omega
theorem dig_val (m : Nat) : Value.int .u8 (IntKind.u8.wrap (IntKind.i64.wrap (48 + Int.tmod (m : Int) 10))) = u8v (UInt8.ofNat (48 + m % 10)) := by
  have h : Int.tmod (m : Int) 10 = ((m % 10 : Nat) : Int) := by
    rw [Int.tmod_eq_emod_of_nonneg (by omega)]; omega
  have hm := Nat.mod_lt m (show 0 < 10 by omega)
  rw [h, wrap_id (by omega) (by omega)]
  have h2 : IntKind.u8.wrap (48 + ((m % 10 : Nat) : Int)) = (48 + ((m % 10 : Nat) : Int)) % 256 := by simp [IntKind.wrap, IntKind.bits, IntKind.signed]
  have h3 : (UInt8.ofNat (48 + m % 10)).toNat = (48 + m % 10) % 256 := by simp
  have h4 : IntKind.u8.wrap (48 + ((m % 10 : Nat) : Int)) = ((UInt8.ofNat (48 + m % 10)).toNat : Int) := by rw [h2, h3]; omega
  exact congrArg (Value.int .u8) h4
theorem bytes_app (xs ys : List UInt8) : ByteArray.mk xs.toArray ++ ByteArray.mk ys.toArray = ByteArray.mk (xs ++ ys).toArray := by
  apply ByteArray.ext
  rw [ByteArray.data_append]
  simp
theorem bytes_size (xs : List UInt8) : (ByteArray.mk xs.toArray).size = xs.length := by simp [ByteArray.size]
theorem rName_spec (w : World) (p b : Int) (hb : b ≤ 9223372036854775807) : Calls Tryz.prog i_coadjutorlaw39_name #[.int .i64 p, .int .i64 b] w (Ret fun v w' => v = .string (nameA p b) ∧ Ch Non w w') := by
  refine coadjutorlaw39_name.calls _ _ ?_
  unfold coadjutorlaw39_name.vc
  intro w1 e1
  have hA := Blk.new e1
  refine ⟨⟨hA.ok 0 rfl, hA.ok 1 rfl, hA.ok 2 rfl, hA.ok 3 rfl, hA.ok 4 rfl, hA.ok 5 rfl, hA.ok 6 rfl, hA.ok 7 rfl, hA.ok 8 rfl, hA.ok 9 rfl, hA.ok 10 rfl, hA.ok 11 rfl⟩, fun w2 e2 => ?_⟩
  have e2' : w2 = w1.setCells w.heap.size 0 (wordsL.map .string) := e2
  have hA2 := hA.all (wordsL.map .string) rfl e2'
  have hc02 : Ch Non w w2 := (Ch.alloc (F := Non) e1).trans (Ch.sets (F := (· = w.heap.size)) e2' rfl) (fun i hi he => by omega)
  have no : (p < 0 ∨ p > 11 ∨ b < 0) → Value.string (ByteArray.mk #[]) = .string (nameA p b) ∧ Ch Non w w2 := fun h => ⟨by rw [nameA_no h], hc02⟩
  refine ⟨dT fun h1 => no (.inl h1), dF fun h1 => ⟨dT fun h2 => no (.inr (.inl h2)), dF fun h2 => ⟨dT fun h3 => no (.inr (.inr h3)), dF fun h3 => ?_⟩⟩⟩
  have hA : nameA p b = nameS p.toNat b.toNat := by unfold nameA; rw [if_neg (by omega)]
  rw [hA]
  obtain ⟨P, rfl⟩ := Int.eq_ofNat_of_zero_le (show 0 ≤ p by omega)
  obtain ⟨B, rfl⟩ := Int.eq_ofNat_of_zero_le (show 0 ≤ b by omega)
  rw [Int.toNat_natCast, Int.toNat_natCast]
  have hp : P < 12 := by omega
  have hwl := words_len P hp
  have hcw : w2.cell? ((⟨w.heap.size, 0, none⟩ : Addr).add (P * 1)) = some (.string (wordsL.getD P ByteArray.empty)) := by
    rw [add_at]
    refine hA2.cell _ ?_
    have hpw : P < wordsL.length := hp
    rw [show 0 + P * 1 = P by omega, List.getElem?_map, List.getD_eq_getElem?_getD, List.getElem?_eq_getElem hpw]
    rfl
  unfold nameS
  refine ⟨⟨by omega, by omega⟩, _, hcw, dT fun h4 => ⟨by rw [if_pos (by omega)], hc02⟩, dF fun h4 => ⟨bT fun h5 => ⟨by rw [if_pos (by omega)], hc02⟩, bF fun h5 => ?_⟩⟩
  rw [if_neg (by omega)]
  have hdl := dig_le (b := B) (by omega)
  refine ⟨fun dg n k w' => ∃ (m : Nat) (ds : List UInt8), dg = ⟨ds.toArray⟩ ∧ n = m ∧ k = m + (if ds = [] then 1 else 0) ∧ m ≤ B ∧ (0 < m ∨ ds = [] → Lib.decDigits B = Lib.decDigits m ++ ds) ∧ (m = 0 → ds ≠ [] → Lib.decDigits B = ds) ∧ Ch Non w2 w', ⟨_, B, [], rfl, rfl, rfl, Nat.le_refl _, fun _ => by rw [List.append_nil], fun _ h => absurd rfl h, Ch.refl _ _⟩, ?_⟩
  rintro jk dg n k w3 ⟨m, ds, rfl, rfl, rfl, hm, hi1, hi2, hc3⟩
  -- one digit more
  have step : (0 < m ∨ ds = []) → ∀ w4 : World, w4 = w3.alloc (.cells #[.int .u8 (IntKind.u8.wrap (IntKind.i64.wrap (48 + Int.tmod (m : Int) 10)))] t_uint8 (0, 0)) →
      ∃ (x : ByteArray) (w5 : World), (convert (64) (9) (.slice (some ⟨w3.heap.size, 0, none⟩) 1 1)).run Tryz.prog w4 = .ok (.string x) w5 ∧ ((x.size + (ByteArray.mk ds.toArray).size : Nat) : Int) ≤ 9223372036854775807 ∧ (10 : Int) ≠ 0 ∧ ∃ k2 : Nat, k2 < m + (if ds = [] then 1 else 0) ∧ ∃ (m' : Nat) (ds' : List UInt8), x ++ ByteArray.mk ds.toArray = ⟨ds'.toArray⟩ ∧ IntKind.i64.wrap (Int.tdiv (m : Int) 10) = m' ∧ k2 = m' + (if ds' = [] then 1 else 0) ∧ m' ≤ B ∧ (0 < m' ∨ ds' = [] → Lib.decDigits B = Lib.decDigits m' ++ ds') ∧ (m' = 0 → ds' ≠ [] → Lib.decDigits B = ds') ∧ Ch Non w2 w5 := fun hms w4 e4 => by
    rw [dig_val] at e4
    have hB : Blk w4 w3.heap.size ([UInt8.ofNat (48 + m % 10)].map u8v) t_uint8 := Blk.new e4
    have hcv := conv_out (P := Tryz.prog) (src := 64) (dst := 9) (e := 5) (c := 1) hB.rd (by kernel_rfl) (by kernel_rfl) (by kernel_rfl)
    have hd := hi1 hms
    have hdsl : ds.length ≤ 19 := by rw [hd, List.length_append] at hdl; omega
    have hdiv : IntKind.i64.wrap (Int.tdiv (m : Int) 10) = ((m / 10 : Nat) : Int) := by
      rw [Int.tdiv_eq_ediv_of_nonneg (by omega), wrap_id (by omega) (by omega)]; omega
    refine ⟨_, w4, hcv, ?_, by omega, m / 10, ?_, m / 10, UInt8.ofNat (48 + m % 10) :: ds, ?_, hdiv, by rw [if_neg (by simp)]; rfl, by omega, fun h => ?_, fun h _ => ?_, hc3.andN (Ch.alloc e4)⟩
    · rw [bytes_size, bytes_size]; simp; omega
    · rcases hms with h | h
      · omega
      · rw [if_pos h]; omega
    · rw [bytes_app]; rfl
    · have hm10 : ¬ m < 10 := by
        rcases h with h | h
        · omega
        · cases h
      rw [hd]
      conv => lhs; rw [Lib.decDigits, dif_neg hm10]
      rw [List.append_assoc]; rfl
    · have hm10 : m < 10 := by omega
      rw [hd, Lib.decDigits_one hm10, Nat.mod_eq_of_lt hm10]; rfl
  refine ⟨dT fun hpos => ⟨by omega, fun w4 e4 => step (.inl (by omega)) w4 e4⟩, dF fun hz => ⟨fun hnil => ⟨by omega, fun w4 e4 => step (.inr ?_) w4 e4⟩, fun hne => ?_⟩⟩
  · cases ds with
    | nil => rfl
    | cons a r => simp at hnil
  · have hm0 : m = 0 := by omega
    have hds : ds ≠ [] := fun h => by subst h; simp at hne
    have hd := hi2 hm0 hds
    rw [hd]
    have hdsl : ds.length ≤ 19 := by rw [hd] at hdl; exact hdl
    refine ⟨?_, ?_, rfl, hc02.andN hc3⟩
    · show ((_ + 1 : Nat) : Int) ≤ _; omega
    · have h1 : (wordsL.getD P ByteArray.empty ++ ByteArray.mk #[32]).size = (wordsL.getD P ByteArray.empty).size + 1 := ByteArray.size_append
      rw [h1, show (ByteArray.mk ds.toArray).size = ds.length from bytes_size ds]; omega
theorem check_no (w : World) (b : Option Addr) : Calls Tryz.prog i_lens_check #[.pointer none, .pointer b] w (Ret fun v w' => v = .int .i64 2 ∧ w' = w) := lens_check.calls_no _ ⟨rfl, rfl⟩
theorem check_on (w : World) (a : Nat) : Calls Tryz.prog i_lens_check #[.pointer (some ⟨a, 0, none⟩), .pointer none] w (Ret fun v w' => v = .int .i64 2 ∧ w' = w) := lens_check.calls_on _ ⟨rfl, rfl⟩
theorem Changes_no (w : World) (b : Option Addr) : Calls Tryz.prog i_lens_Changes #[.pointer none, .pointer b] w (Ret fun v w' => v = .tuple #[.slice none 0 0, .int .i64 2] ∧ w' = w) := by
  refine lens_Changes.calls_no _ ?_
  unfold lens_Changes.vc_no
  refine step_call (check_no w b) ?_
  rintro v w1 ⟨rfl, rfl⟩
  exact ⟨_, rfl, iteT rfl ⟨rfl, rfl⟩⟩
theorem Distance_on (w : World) (a : Nat) : Calls Tryz.prog i_lens_Distance #[.pointer (some ⟨a, 0, none⟩), .pointer none] w (Ret fun v w' => v = .tuple #[.int .i64 0, .int .i64 2] ∧ w' = w) := by
  refine lens_Distance.calls_on _ ?_
  unfold lens_Distance.vc_on
  refine step_call (check_on w a) ?_
  rintro v w1 ⟨rfl, rfl⟩
  exact ⟨_, rfl, iteT rfl ⟨rfl, rfl⟩⟩
theorem Blend_nn (w : World) (num den : Int) : Calls Tryz.prog i_lens_Blend #[.pointer none, .pointer none, .int .i64 num, .int .i64 den] w (Ret fun v w' => v = .tuple #[.pointer none, .int .i64 2] ∧ w' = w) := by
  refine lens_Blend.calls_nn _ _ ?_
  unfold lens_Blend.vc_nn
  refine step_call (check_no w none) ?_
  rintro v w1 ⟨rfl, rfl⟩
  exact ⟨_, rfl, iteT rfl ⟨rfl, rfl⟩⟩
theorem Agree_no (w : World) (b : Option Addr) (most : Int) (o : Option Addr) (n c : Nat) : Calls Tryz.prog i_lens_Agree #[.pointer none, .pointer b, .int .i64 most, .slice o n c] w (Ret fun v w' => v = .tuple #[.int .i64 0, .int .i64 2] ∧ w' = w) := lens_Agree.calls_no _ _ _ _ _ ⟨rfl, rfl⟩
end Go.Proofs.YtbadkcnemcnhfaaGreatDoor.Lens
