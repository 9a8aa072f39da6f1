/- BitsBack's contract: of all numbers the Go function answers true and leaves what was there; the conditions stand in each theorem. -/
import Derived.Test.YtefidalhijpmdaaBitsLaw2
set_option linter.unusedVariables false
namespace Go.Proofs.Ytefidalhijpmdaa.Bits
open Go Go.Proofs Go.Proofs.Ytefidalhijpmdaa.V Go.Proofs.Ytefidalhijpmdaa.Vc Go.RowKit

def txt (l : List Bool) : ByteArray := ⟨(textOf l).toArray⟩
theorem txt_size (l : List Bool) : (txt l).size = (l.length + 7) / 8 := by
  show (textOf l).toArray.size = _
  unfold textOf; simp [textL_len]
theorem txt_bit (l : List Bool) {m : Nat} (h : m < 8 * ((l.length + 7) / 8)) : tbit (txt l) m = l.getD m false := by
  have h1 : m / 8 < (textOf l).length := by unfold textOf; rw [textL_len]; omega
  have h2 : (txt l).data.toList = textOf l := by simp [txt]
  unfold tbit
  rw [h2, List.getD_eq_getElem?_getD, List.getElem?_eq_getElem h1]
  show decide ((textOf l)[m / 8].toNat / 2 ^ (m % 8) % 2 = 1) = _
  have h3 : (textOf l)[m / 8].toNat = byteN (fun k => l.getD k false) (m / 8) := by
    have := textL_get (fun k => l.getD k false) (m := (l.length + 7) / 8) (i := m / 8) (by rw [textL_len]; omega)
    have e : (textOf l)[m / 8] = UInt8.ofNat (byteN (fun k => l.getD k false) (m / 8)) := this
    rw [e]
    have hb := byteN_lt (fun k => l.getD k false) (m / 8)
    generalize byteN (fun k => l.getD k false) (m / 8) = x at hb
    rw [UInt8.toNat_ofNat']; omega
  rw [h3, byteN_bit _ _ _ (by omega), show 8 * (m / 8) + m % 8 = m by omega]
  cases l.getD m false <;> rfl
theorem txt_ok (l : List Bool) : parseOk (txt l) l.length := by
  refine ⟨txt_size l, fun m hm ht => ?_⟩
  rw [txt_size] at hm
  rw [txt_bit l hm] at ht
  apply Nat.lt_of_not_ge; intro hn
  rw [List.getD_eq_getElem?_getD, List.getElem?_eq_none hn] at ht; cases ht
theorem txt_bits (l : List Bool) : bitsOf (txt l) l.length = l := by
  apply List.ext_getElem
  · simp [bitsOf]
  · intro i h1 h2
    have h3 : i < 8 * ((l.length + 7) / 8) := by omega
    have := txt_bit l h3
    have e : (bitsOf (txt l) l.length)[i] = tbit (txt l) i := by simp [bitsOf]
    rw [e, this, getD_at h2]
theorem txt_eq {l m : List Bool} (h : l.length = m.length) : ((txt l).toList == (txt m).toList) = decide (l = m) := by
  by_cases he : l = m
  · subst he; simp
  · rw [decide_eq_false he]
    cases hc : ((txt l).toList == (txt m).toList) with
    | false => rfl
    | true =>
      have h1 : (txt l).toList = (txt m).toList := by simpa using hc
      rw [str_toList, str_toList] at h1
      have h2 := str_ext h1
      have h3 := txt_bits l
      rw [h2, h, txt_bits m] at h3
      exact absurd h3.symm he
theorem hasOne_at {l : List Bool} {x : Int} (h1 : 0 ≤ x) (h2 : x < l.length) : hasOne l x = l[x.toNat]'(by omega) := by
  unfold hasOne
  rw [decide_eq_true h1, decide_eq_true h2, getD_at (by omega)]; rfl
/-- One number that has just been laid is dropped. -/
theorem Drop1_spec {w w1 : World} {b : Nat} {l : List Bool} {F : Nat → Prop} (h : SetR w b l F) (hF : ∀ i, F i → i < w.heap.size) {x : Int} (e1 : w1 = w.alloc (.cells #[.int .i64 x] t_int (0, 0))) (h1 : 0 ≤ x) (h2 : x < l.length) :
    Calls Try.prog i_bits_Set_Drop #[.pointer (some ⟨b, 0, none⟩), .slice (some ⟨w.heap.size, 0, none⟩) 1 1] w1 (Ret fun v w' => v = .int .i64 0 ∧ SetR w' b (l.set x.toNat false) F ∧ Ch F w w') := by
  have o1 := mk_ints (xs := [x]) (n := 1) e1 rfl rfl (by simp)
  have hc : Ch Non w w1 := Ch.alloc e1
  have sp := Drop_spec (xs := [x]) (c := 1) (h.keepN hc) o1.rd (fun i hi hF' => absurd (hF i hF') (Nat.not_lt.2 hi.1)) (by simp)
  rw [inAll_one h1 h2, if_pos rfl, if_pos rfl, putL_one] at sp
  refine step_call sp ?_
  rintro v w2 ⟨rfl, h3, h4⟩
  exact ⟨rfl, h3, (hc.any (F := F)).same h4⟩
theorem set_same {l : List Bool} {i : Nat} (h : i < l.length) {b : Bool} (hb : l[i] = b) : l.set i b = l := by
  subst hb; simp
theorem BitsBack_true (W : World) (n : Int) (_ : (Lit.int .i64 n).wf = true) (o2 : Option Addr) (n2 c2 : Nat) (h2 : DatC Try.prog W t_S_int [.slice o2 n2 c2]) (more : Int) (_ : (Lit.int .i64 more).wf = true) :
    Calls Try.prog i_coadjutorlaw08_BitsBack #[.int .i64 n, .slice o2 n2 c2, .int .i64 more] W (Ret fun v w' => v = .bool true ∧ Ch Non W w') := by
  obtain ⟨o2', c2', xs, hcs, hm1, hm2, hm3, ix, hx⟩ := h2.ints (e := t_int) (k := .i64) (by kernel_rfl) (by kernel_rfl)
  injection hcs with hcs
  injection hcs with e1 e2 e3
  subst e1; subst e2; subst e3
  refine coadjutorlaw08_BitsBack.calls _ _ _ _ _ ?_
  unfold coadjutorlaw08_BitsBack.vc
  refine step_call (awake_spec W) ?_
  rintro v w1 ⟨rfl, hc1⟩
  have hK : 1 ≤ IntKind.i64.wrap (1 + IntKind.i64.wrap (Int.tmod (IntKind.u64.wrap n) 1024)) ∧ IntKind.i64.wrap (1 + IntKind.i64.wrap (Int.tmod (IntKind.u64.wrap n) 1024)) ≤ 1024 := by
    have h0 : 0 ≤ IntKind.u64.wrap n := by rw [wrap_u64]; omega
    rw [tmod_pos h0]
    have h3 : 0 ≤ IntKind.u64.wrap n % 1024 := Int.emod_nonneg _ (by omega)
    have h4 : IntKind.u64.wrap n % 1024 < 1024 := Int.emod_lt_of_pos _ (by omega)
    rw [wrap_id (x := IntKind.u64.wrap n % 1024) (by omega) (by omega), wrap_id (by omega) (by omega)]
    omega
  generalize IntKind.i64.wrap (1 + IntKind.i64.wrap (Int.tmod (IntKind.u64.wrap n) 1024)) = K at hK ⊢
  obtain ⟨hK1, hK2⟩ := hK
  refine ⟨_, rfl, iteF rfl ⟨by decide, fun _ => ⟨rfl, hc1⟩, fun hx40 => ?_⟩⟩
  have hx40 : xs.length ≤ 40 := by simp at hx40; omega
  refine step_call (New_ok w1 hK1 hK2) ?_
  rintro v w2 ⟨a, rfl, hS2, hc2⟩
  have hF2 : Foot W w2 (New w1 w2) := Foot.new hc1
  generalize New w1 w2 = F at hS2 hF2
  refine ⟨_, rfl, fun i k w => ∃ (j : Nat) (l : List Bool), i = j ∧ j ≤ xs.length ∧ k = xs.length - j ∧ l.length = K.toNat ∧ SetR w a l F ∧ Foot W w F ∧ Ch Non W w, ⟨_, 0, _, rfl, Nat.zero_le _, rfl, by simp, hS2, hF2, hc1.andN hc2⟩, ?_⟩
  clear hS2 hF2 hc2
  rintro jk i k w3 ⟨j, l, rfl, hj, rfl, hl, hS, hF, hC⟩
  refine ⟨fun hlt => ?_, fun _ => ?_⟩
  · have hlt : j < xs.length := by simpa using hlt
    obtain ⟨u1, u2, u3⟩ := unwrap xs[j] hK1 (by omega)
    refine ⟨⟨by omega, by omega⟩, (hx.keepN hC).at (j := (j : Int).toNat * 1) (v := .int .i64 xs[j]) (by simp [hlt]) fun p hp => ⟨xs[j], hp, u1, fun w4 e4 => ?_⟩⟩
    refine step_call (Add1_spec hS (fun i hi => (hF i hi).2) e4 u2 (by omega)) ?_
    rintro v w5 ⟨rfl, hS5, hc5⟩
    exact ⟨_, rfl, iteF rfl ⟨xs.length - (j + 1), by omega, j + 1, _, by rw [wrap_id (by omega) (by omega)]; rfl, hlt, rfl, by simpa using hl, hS5, hF.le hc5.size, hF.hi hC hc5⟩⟩
  clear hx hm3 hm2 hm1 ix h2
  refine step_call (Text_spec hS) ?_
  rintro v w6 ⟨rfl, hc6⟩
  have hs := hS.keepN hc6
  have hC := hC.andN hc6
  have hF := hF.le hc6.size
  refine ⟨_, rfl, ?_⟩
  have hts : (txt l).size ≤ 1000000 := by rw [txt_size]; omega
  refine step_call (Parse_spec w6 (n := K) (by omega) (by omega) (txt l) hts) ?_
  rintro v w7 ⟨hv, hc7⟩
  rw [← hl, txt_bits] at hv
  rcases hv with ⟨_, b, rfl, ht⟩ | ⟨hno, _⟩
  rotate_left
  · exact absurd (txt_ok l) hno
  have hs := hs.keepN hc7
  have hG : Foot W w7 (New w6 w7) := Foot.new hC
  have hFG : Apart F (New w6 w7) := Apart.new hF
  have hC := hC.andN hc7
  have hF := hF.le hc7.size
  generalize New w6 w7 = G at ht hG hFG
  refine ⟨_, _, rfl, iteF rfl ?_⟩
  refine step_call (Same_spec hs ht) ?_
  rintro v w8 ⟨rfl, hc8⟩
  refine ⟨_, rfl, iteF (by simp) ?_⟩
  refine step_call (Same_spec (ht.keepN hc8) (hs.keepN hc8)) ?_
  rintro v w9 ⟨rfl, hc9⟩
  have hc79 := hc8.andN hc9
  have hs := hs.keepN hc79
  have ht := ht.keepN hc79
  have hC := hC.andN hc79
  have hF := hF.le hc79.size
  have hG := hG.le hc79.size
  obtain ⟨u1, u2, u3⟩ := unwrap more hK1 (by omega)
  generalize IntKind.i64.wrap (Int.tmod (IntKind.u64.wrap more) (IntKind.u64.wrap K)) = m at u2 u3 ⊢
  obtain ⟨M, hM⟩ : ∃ M : Nat, m = M := ⟨m.toNat, by omega⟩
  subst hM
  have hMl : M < l.length := by omega
  refine ⟨_, rfl, iteF (by simp) ⟨u1, fun w10 e10 => ?_⟩⟩
  refine step_call (Has1_spec hs e10) ?_
  rintro v w11 ⟨rfl, hc11⟩
  rw [hasOne_at u2 (by omega)]
  have hs := hs.keepN hc11
  have ht := ht.keepN hc11
  have hC := hC.andN hc11
  have hF := hF.le hc11.size
  have hG := hG.le hc11.size
  refine ⟨_, rfl, ?_⟩
  refine step_call (Count_spec hs) ?_
  rintro v w12 ⟨rfl, hc12⟩
  have hs := hs.keepN hc12
  have ht := ht.keepN hc12
  have hC := hC.andN hc12
  have hF := hF.le hc12.size
  have hG := hG.le hc12.size
  refine ⟨_, rfl, fun w13 e13 => ?_⟩
  refine step_call (Add1_spec ht (fun i hi => (hG i hi).2) e13 u2 (by omega)) ?_
  rintro v w14 ⟨rfl, ht, hc14⟩
  have hs := hs.keep hc14 (fun i _ p q => hFG i p q)
  have hC := hG.hi hC hc14
  have hF := hF.le hc14.size
  have hG := hG.le hc14.size
  rw [Int.toNat_natCast] at ht
  refine ⟨_, rfl, iteF rfl ?_⟩
  have hsame : decide (l = l.set M true) = l[((M : Nat) : Int).toNat] := by
    have hidx : ((M : Nat) : Int).toNat = M := Int.toNat_natCast M
    cases hb : l[M] with
    | true => rw [set_same hMl hb]; simp [hb]
    | false =>
      rw [decide_eq_false]
      · simp [hb]
      · intro hq
        have := congrArg (fun x : List Bool => x.getD M false) hq
        simp only [List.getD_eq_getElem?_getD, List.getElem?_set_self hMl, List.getElem?_eq_getElem hMl, hb] at this
        cases this
  refine step_call (Same_spec hs ht) ?_
  rintro v w15 ⟨rfl, hc15⟩
  rw [hsame]
  have hs := hs.keepN hc15
  have ht := ht.keepN hc15
  have hC := hC.andN hc15
  have hF := hF.le hc15.size
  have hG := hG.le hc15.size
  refine ⟨_, rfl, iteF (by simp) ?_⟩
  refine step_call (Text_spec hs) ?_
  rintro v w16 ⟨rfl, hc16⟩
  have hs := hs.keepN hc16
  have ht := ht.keepN hc16
  have hC := hC.andN hc16
  have hF := hF.le hc16.size
  have hG := hG.le hc16.size
  refine ⟨_, rfl, ?_⟩
  refine step_call (Text_spec ht) ?_
  rintro v w17 ⟨rfl, hc17⟩
  have hs := hs.keepN hc17
  have ht := ht.keepN hc17
  have hC := hC.andN hc17
  have hF := hF.le hc17.size
  have hG := hG.le hc17.size
  have htx := txt_eq (l := l) (m := l.set M true) (by simp)
  unfold txt at htx
  refine ⟨_, rfl, iteF (by rw [htx, hsame]; simp) fun w18 e18 => ?_⟩
  refine step_call (Drop1_spec ht (fun i hi => (hG i hi).2) e18 u2 (by simp; omega)) ?_
  rintro v w19 ⟨rfl, ht, hc19⟩
  have hs := hs.keep hc19 (fun i _ p q => hFG i p q)
  have hC := hG.hi hC hc19
  have hF := hF.le hc19.size
  have hG := hG.le hc19.size
  rw [Int.toNat_natCast, List.set_set] at ht
  refine ⟨_, rfl, iteF rfl fun w20 e20 => ?_⟩
  refine step_call (Has1_spec ht e20) ?_
  rintro v w21 ⟨rfl, hc21⟩
  have hs := hs.keepN hc21
  have ht := ht.keepN hc21
  have hC := hC.andN hc21
  refine ⟨_, rfl, iteF (by rw [hasOne_at u2 (by simp; omega)]; simp) ?_⟩
  refine step_call (Count_spec ht) ?_
  rintro v w22 ⟨rfl, hc22⟩
  have hs := hs.keepN hc22
  have hC := hC.andN hc22
  refine ⟨_, rfl, ?_⟩
  refine step_call (Count_spec hs) ?_
  rintro v w23 ⟨rfl, hc23⟩
  have hs := hs.keepN hc23
  have hC := hC.andN hc23
  refine ⟨_, rfl, fun hne => ?_, fun _ => ?_⟩
  · refine iteF ?_ ?_
    · cases hb : l[M] with
      | true => simp [hb]
      | false =>
        rw [set_same hMl hb] at hne
        simp at hne
    refine step_call (Count_spec hs) ?_
    rintro v w24 ⟨rfl, hc24⟩
    have hs := hs.keepN hc24
    have hC := hC.andN hc24
    refine ⟨_, rfl, iteT (by simp) ?_⟩
    refine step_call (Same_nn w24) ?_
    rintro v w25 ⟨rfl, rfl⟩
    refine ⟨_, rfl, iteT rfl ?_⟩
    refine step_call (Same_xn _ a) ?_
    rintro v w26 ⟨rfl, rfl⟩
    refine ⟨_, rfl, iteT rfl ⟨by decide, ?_⟩⟩
    have hk : 1 ≤ IntKind.i64.wrap (Int.tmod K 1024 + 1) ∧ IntKind.i64.wrap (Int.tmod K 1024 + 1) ≤ 1024 ∧ IntKind.i64.wrap (Int.tmod K 1024 + 1) ≠ K := by
      rw [tmod_pos (by omega), wrap_id (by omega) (by omega)]; omega
    refine step_call (New_ok w26 hk.1 hk.2.1) ?_
    rintro v w27 ⟨e, rfl, he, hc27⟩
    have hs := hs.keepN hc27
    refine ⟨_, rfl, ?_⟩
    refine step_call (Same_spec hs he) ?_
    rintro v w28 ⟨rfl, hc28⟩
    refine ⟨_, rfl, ?_, (hC.andN hc27).andN hc28⟩
    rw [decide_eq_false]
    · rfl
    · intro hq
      have := congrArg List.length hq
      rw [List.length_replicate] at this
      omega
  ·
    refine step_call (Count_spec hs) ?_
    rintro v w24 ⟨rfl, hc24⟩
    have hs := hs.keepN hc24
    have hC := hC.andN hc24
    refine ⟨_, rfl, iteT (by simp) ?_⟩
    refine step_call (Same_nn w24) ?_
    rintro v w25 ⟨rfl, rfl⟩
    refine ⟨_, rfl, iteT rfl ?_⟩
    refine step_call (Same_xn _ a) ?_
    rintro v w26 ⟨rfl, rfl⟩
    refine ⟨_, rfl, iteT rfl ⟨by decide, ?_⟩⟩
    have hk : 1 ≤ IntKind.i64.wrap (Int.tmod K 1024 + 1) ∧ IntKind.i64.wrap (Int.tmod K 1024 + 1) ≤ 1024 ∧ IntKind.i64.wrap (Int.tmod K 1024 + 1) ≠ K := by
      rw [tmod_pos (by omega), wrap_id (by omega) (by omega)]; omega
    refine step_call (New_ok w26 hk.1 hk.2.1) ?_
    rintro v w27 ⟨e, rfl, he, hc27⟩
    have hs := hs.keepN hc27
    refine ⟨_, rfl, ?_⟩
    refine step_call (Same_spec hs he) ?_
    rintro v w28 ⟨rfl, hc28⟩
    refine ⟨_, rfl, ?_, (hC.andN hc27).andN hc28⟩
    rw [decide_eq_false]
    · rfl
    · intro hq
      have := congrArg List.length hq
      rw [List.length_replicate] at this
      omega
end Go.Proofs.Ytefidalhijpmdaa.Bits
