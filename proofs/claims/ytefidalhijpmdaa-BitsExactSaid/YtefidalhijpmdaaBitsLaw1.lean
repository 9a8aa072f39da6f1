/- BitsFill's contract: of every number and row of numbers the Go function answers true and leaves what was there; the conditions stand in each theorem. -/
import Derived.Test.YtefidalhijpmdaaBits2
import Derived.Test.YtefidalhijpmdaaVcBits2
set_option linter.unusedVariables false
namespace Go.Proofs.Ytefidalhijpmdaa.Bits
open Go Go.Proofs Go.Proofs.Ytefidalhijpmdaa.V Go.Proofs.Ytefidalhijpmdaa.Vc Go.RowKit

/-- A row of whole numbers that has just been laid. -/
theorem mk_ints {w w1 : World} {xs : List Int} {n : Nat} {cs : Array Value} (e1 : w1 = w.alloc (.cells cs t_int (0, 0))) (hcs : cs = (xs.map (.int .i64)).toArray) (hn : n = xs.length) (hl : xs.length ≤ 1000000) :
    Own w1 t_int 1 (some ⟨w.heap.size, 0, none⟩) n n (xs.map (.int .i64)) (New w w1) := by
  subst hcs; subst hn
  have := Own.made (e := t_int) (sz := 1) (n := xs.length) (F := New w w1) e1 (by simp) (by unfold maxLen; omega) ⟨Nat.le_refl _, (Blk.new e1).lt⟩
  simpa using this
def L0 : List Bool := [true, false, false, false, false, false, false, false, false, true]
theorem awake_spec (w : World) : Calls Try.prog i_coadjutorlaw08_awake #[] w (Ret fun v w' => v = .bool true ∧ Ch Non w w') := by
  refine coadjutorlaw08_awake.calls ?_
  unfold coadjutorlaw08_awake.vc
  refine step_call (New_ok w (n := 10) (by omega) (by omega)) ?_
  rintro v w1 ⟨b, rfl, h1, hc1⟩
  refine ⟨_, rfl, iteF rfl ?_⟩
  refine step_call (New_bad w1 (n := 0) (.inl (by omega))) ?_
  rintro v w2 ⟨rfl, rfl⟩
  refine ⟨_, rfl, iteF rfl fun w3 e3 => ?_⟩
  have f1 : Foot w w2 (New w w2) := Foot.new (Ch.refl _ _)
  generalize New w w2 = F at h1 f1
  have o3 := mk_ints (xs := [0, 9]) (n := 2) e3 rfl rfl (by decide)
  have h3 := h1.keepN (Ch.alloc e3)
  have hc3 : Ch Non w w3 := hc1.andN (Ch.alloc e3)
  have p1 : inAll (List.replicate (10 : Int).toNat false).length [0, 9] = true := by decide
  have p2 : putL true (List.replicate (10 : Int).toNat false) [0, 9] = L0 := by decide
  have sp := Add_spec (xs := [0, 9]) (c := 2) h3 o3.rd (fun i hi hF => absurd (f1 i hF).2 (Nat.not_lt.2 hi.1)) (by decide)
  rw [p1, if_pos rfl, if_pos rfl, p2] at sp
  refine step_call sp ?_
  rintro v w4 ⟨rfl, h4, hc4⟩
  have f4 := f1.le (w' := w4) (by have := (Ch.alloc (F := Non) e3).size; have := hc4.size; omega)
  have hc4 := f1.le (Ch.alloc (F := Non) e3).size |>.hi hc3 hc4
  refine ⟨_, rfl, fun w5 e5 => ?_⟩
  have o5 := mk_ints (xs := [1, 10]) (n := 2) e5 rfl rfl (by decide)
  have h5 := h4.keepN (Ch.alloc e5)
  have hc5 : Ch Non w w5 := hc4.andN (Ch.alloc e5)
  have p3 : inAll L0.length [1, 10] = false := by decide
  have sp := Add_spec (xs := [1, 10]) (c := 2) h5 o5.rd (fun i hi hF => absurd (f4 i hF).2 (Nat.not_lt.2 hi.1)) (by decide)
  rw [p3, if_neg (by simp), if_neg (by simp)] at sp
  refine step_call sp ?_
  rintro v w6 ⟨rfl, h6, hc6⟩
  have hc6 := f4.le (Ch.alloc (F := Non) e5).size |>.hi hc5 hc6
  refine ⟨_, rfl, ?_⟩
  refine step_call (Row_spec h6) ?_
  rintro v w7 ⟨o7, c7, rfl, hr7, hc7⟩
  have p4 : rowL L0 = [0, 9] := by decide
  rw [p4] at hr7 ⊢
  have h7 := h6.keepN hc7
  have hc7 := hc6.andN hc7
  refine ⟨_, _, _, rfl, iteT rfl (iteT rfl ?_)⟩
  refine step_call (Text_spec h7) ?_
  rintro v w8 ⟨rfl, hc8⟩
  have p5 : textOf L0 = [1, 2] := by decide
  have h8 := h7.keepN hc8
  have hr8 := hr7.keepN hc8
  have hc8 := hc7.andN hc8
  obtain ⟨p, hp, _, _, hcell⟩ := hr8.rd.getT (j := 1) (by simp)
  subst hp
  refine ⟨_, rfl, iteT (by rw [p5]; simp) (iteT rfl ⟨⟨by omega, by simp⟩, 9, hcell, iteT rfl ?_⟩)⟩
  refine step_call (First_spec h8) ?_
  rintro v w9 ⟨f, rfl, hf, rfl⟩
  have hf1 : FirstR L0 1 := .inr ⟨1, rfl, by decide, by decide, by decide⟩
  have hf := hf.uniq hf1
  subst hf
  refine ⟨_, rfl, iteT rfl ?_⟩
  refine step_call (Count_spec h8) ?_
  rintro v w10 ⟨rfl, hc10⟩
  have h10 := h8.keepN hc10
  have hc10 := hc8.andN hc10
  refine ⟨_, rfl, iteT (by rw [p4]; rfl) fun w11 e11 => ?_⟩
  have o11 := mk_ints (xs := [0, 9]) (n := 2) e11 rfl rfl (by decide)
  have hc11 : Ch Non w w11 := hc10.andN (Ch.alloc e11)
  refine step_call (Has_spec (xs := [0, 9]) (h10.keepN (Ch.alloc e11)) o11.rd (by decide)) ?_
  rintro v w12 ⟨rfl, hc12⟩
  have h12 := (h10.keepN (Ch.alloc e11)).keepN hc12
  have hc12 := hc11.andN hc12
  refine ⟨_, rfl, iteT (by decide) fun w13 e13 => ?_⟩
  have o13 := mk_ints (xs := [0, 1]) (n := 2) e13 rfl rfl (by decide)
  have hc13 : Ch Non w w13 := hc12.andN (Ch.alloc e13)
  have h13 := h12.keepN (Ch.alloc e13)
  refine step_call (Has_spec (xs := [0, 1]) h13 o13.rd (by decide)) ?_
  rintro v w14 ⟨rfl, hc14⟩
  have h14 := h13.keepN hc14
  have hc14 := hc13.andN hc14
  refine ⟨_, rfl, iteT (by decide) ?_⟩
  refine step_call (Has_spec (xs := []) (c := 0) h14 (Rd.nil _ none Non) (by decide)) ?_
  rintro v w15 ⟨rfl, hc15⟩
  exact ⟨_, rfl, rfl, hc14.andN hc15⟩
theorem rowTo_cnt (l : List Bool) : ∀ j, j ≤ l.length → (rowTo l j).length = (l.take j).countP (fun b => b)
  | 0, _ => rfl
  | j + 1, h => by
    rw [rowTo_succ l j (by omega), take_snoc l j (by omega), List.countP_append, List.length_append, rowTo_cnt l j (by omega)]
    congr 1
    cases l[j] <;> rfl
theorem rowL_cnt (l : List Bool) : (rowL l).length = l.countP (fun b => b) := by
  have := rowTo_cnt l l.length (Nat.le_refl _)
  rwa [List.take_length] at this
theorem cnt_le (l : List Bool) : l.countP (fun b => b) ≤ l.length := List.countP_le_length
theorem cnt_set {l : List Bool} {f : Nat} (h : f < l.length) (hf : l[f] = false) : (l.set f true).countP (fun b => b) = l.countP (fun b => b) + 1 := by
  rw [List.countP_set (h := h), hf]; simp
theorem cnt_lt {l : List Bool} {f : Nat} (h : f < l.length) (hf : l[f] = false) : l.countP (fun b => b) < l.length := by
  have h1 := cnt_set h hf
  have h2 := cnt_le (l.set f true)
  simp at h2; omega
theorem cnt_all {l : List Bool} (h : ∀ i, i < l.length → l.getD i true = true) : l.countP (fun b => b) = l.length := by
  rw [List.countP_eq_length]
  intro b hb
  obtain ⟨i, hi, rfl⟩ := List.getElem_of_mem hb
  have := h i hi
  simpa [List.getD, List.getElem?_eq_getElem hi] using this
theorem getD_at {l : List Bool} {i : Nat} (h : i < l.length) (d : Bool) : l.getD i d = l[i] := by simp [List.getD, List.getElem?_eq_getElem h]
theorem unwrap (x : Int) {K : Int} (h1 : 1 ≤ K) (h2 : K ≤ 100000) : IntKind.u64.wrap K ≠ 0 ∧ 0 ≤ IntKind.i64.wrap (Int.tmod (IntKind.u64.wrap x) (IntKind.u64.wrap K)) ∧ IntKind.i64.wrap (Int.tmod (IntKind.u64.wrap x) (IntKind.u64.wrap K)) < K := by
  have h0 : 0 ≤ IntKind.u64.wrap x := by rw [wrap_u64]; omega
  have hk : IntKind.u64.wrap K = K := by rw [wrap_u64]; omega
  have h3 : 0 ≤ IntKind.u64.wrap x % K := Int.emod_nonneg _ (by omega)
  have h4 : IntKind.u64.wrap x % K < K := Int.emod_lt_of_pos _ (by omega)
  rw [hk, tmod_pos h0, wrap_id (x := IntKind.u64.wrap x % K) (by omega) (by omega)]
  omega
theorem inAll_one {n : Nat} {x : Int} (h1 : 0 ≤ x) (h2 : x < n) : inAll n [x] = true := by
  unfold inAll; simp; omega
theorem putL_one (is : Bool) (l : List Bool) (x : Int) : putL is l [x] = l.set x.toNat is := rfl
/-- One number that has just been laid is added. -/
theorem Add1_spec {w w1 : World} {b : Nat} {l : List Bool} {F : Nat → Prop} (h : SetR w b l F) (hF : ∀ i, F i → i < w.heap.size) {x : Int} (e1 : w1 = w.alloc (.cells #[.int .i64 x] t_int (0, 0))) (h1 : 0 ≤ x) (h2 : x < l.length) :
    Calls Try.prog i_bits_Set_Add #[.pointer (some ⟨b, 0, none⟩), .slice (some ⟨w.heap.size, 0, none⟩) 1 1] w1 (Ret fun v w' => v = .int .i64 0 ∧ SetR w' b (l.set x.toNat true) F ∧ Ch F w w') := by
  have o1 := mk_ints (xs := [x]) (n := 1) e1 rfl rfl (by simp)
  have hc : Ch Non w w1 := Ch.alloc e1
  have sp := Add_spec (xs := [x]) (c := 1) (h.keepN hc) o1.rd (fun i hi hF' => absurd (hF i hF') (Nat.not_lt.2 hi.1)) (by simp)
  rw [inAll_one h1 h2, if_pos rfl, if_pos rfl, putL_one] at sp
  refine step_call sp ?_
  rintro v w2 ⟨rfl, h3, h4⟩
  exact ⟨rfl, h3, (hc.any (F := F)).same h4⟩
theorem Has1_spec {w w1 : World} {b : Nat} {l : List Bool} {F : Nat → Prop} (h : SetR w b l F) {x : Int} (e1 : w1 = w.alloc (.cells #[.int .i64 x] t_int (0, 0))) :
    Calls Try.prog i_bits_Set_Has #[.pointer (some ⟨b, 0, none⟩), .slice (some ⟨w.heap.size, 0, none⟩) 1 1] w1 (Ret fun v w' => v = .bool (hasOne l x) ∧ Ch Non w w') := by
  have o1 := mk_ints (xs := [x]) (n := 1) e1 rfl rfl (by simp)
  have hc : Ch Non w w1 := Ch.alloc e1
  refine step_call (Has_spec (xs := [x]) (c := 1) (h.keepN hc) o1.rd (by simp)) ?_
  rintro v w2 ⟨rfl, h4⟩
  exact ⟨by simp [hasL], hc.andN h4⟩
theorem BitsFill_true (W : World) (n : Int) (_ : (Lit.int .i64 n).wf = true) (o2 : Option Addr) (n2 c2 : Nat) (h2 : DatC Try.prog W t_S_int [.slice o2 n2 c2]) :
    Calls Try.prog i_coadjutorlaw08_BitsFill #[.int .i64 n, .slice o2 n2 c2] W (Ret fun v w' => v = .bool true ∧ Ch Non W w') := by
  obtain ⟨o2', c2', xs, hcs, hm1, hm2, hm3, ix, hx⟩ := h2.ints (e := t_int) (k := .i64) (by kernel_rfl) (by kernel_rfl)
  injection hcs with hcs
  injection hcs with e1 e2 e3
  subst e1; subst e2; subst e3
  refine coadjutorlaw08_BitsFill.calls _ _ _ _ ?_
  unfold coadjutorlaw08_BitsFill.vc
  refine step_call (awake_spec W) ?_
  rintro v w1 ⟨rfl, hc1⟩
  refine ⟨_, rfl, iteF rfl ⟨by decide, ?_⟩⟩
  have hK : 1 ≤ IntKind.i64.wrap (1 + IntKind.i64.wrap (Int.tmod (IntKind.u64.wrap n) 200)) ∧ IntKind.i64.wrap (1 + IntKind.i64.wrap (Int.tmod (IntKind.u64.wrap n) 200)) ≤ 200 := by
    have h0 : 0 ≤ IntKind.u64.wrap n := by rw [wrap_u64]; omega
    rw [tmod_pos h0]
    have h3 : 0 ≤ IntKind.u64.wrap n % 200 := Int.emod_nonneg _ (by omega)
    have h4 : IntKind.u64.wrap n % 200 < 200 := Int.emod_lt_of_pos _ (by omega)
    rw [wrap_id (x := IntKind.u64.wrap n % 200) (by omega) (by omega), wrap_id (by omega) (by omega)]
    omega
  generalize IntKind.i64.wrap (1 + IntKind.i64.wrap (Int.tmod (IntKind.u64.wrap n) 200)) = K at hK ⊢
  obtain ⟨hK1, hK2⟩ := hK
  refine step_call (New_ok w1 hK1 (by omega)) ?_
  rintro v w2 ⟨b, rfl, hS2, hc2⟩
  have hF2 : Foot W w2 (New w1 w2) := Foot.new hc1
  generalize New w1 w2 = F at hS2 hF2
  refine ⟨_, rfl, fun i k w => ∃ (j : Nat) (l : List Bool), i = j ∧ j ≤ xs.length ∧ j ≤ 40 ∧ k = xs.length - j ∧ l.length = K.toNat ∧ SetR w b l F ∧ Foot W w F ∧ Ch Non W w, ⟨_, 0, _, rfl, Nat.zero_le _, Nat.zero_le _, rfl, by simp, hS2, hF2, hc1.andN hc2⟩, ?_⟩
  clear hS2 hF2 hc2
  rintro jk i k w3 ⟨j, l, rfl, hj, hj40, rfl, hl, hS, hF, hC⟩
  refine ⟨fun hlt => ⟨fun hlt40 => ?_, fun _ => ?_⟩, fun _ => ?_⟩
  · have hlt : j < xs.length := by simpa using hlt
    have hlt40 : j < 40 := by simp at hlt40; omega
    obtain ⟨u1, u2, u3⟩ := unwrap xs[j] hK1 (by omega)
    refine ⟨⟨by omega, by omega⟩, (hx.keepN hC).at (j := (j : Int).toNat * 1) (v := .int .i64 xs[j]) (by simp [hlt]) fun p hp => ⟨xs[j], hp, u1, fun w4 e4 => ?_⟩⟩
    refine step_call (Add1_spec hS (fun i hi => (hF i hi).2) e4 u2 (by omega)) ?_
    rintro v w5 ⟨rfl, hS5, hc5⟩
    exact ⟨_, rfl, xs.length - (j + 1), by omega, j + 1, _, by rw [wrap_id (by omega) (by omega)]; rfl, hlt, hlt40, rfl, by simpa using hl, hS5, hF.le hc5.size, hF.hi hC hc5⟩
  ·
    refine step_call (Count_spec hS) ?_
    rintro v w4 ⟨rfl, hc4⟩
    have hS := hS.keepN hc4
    have hC := hC.andN hc4
    have hF := hF.le hc4.size
    refine ⟨_, rfl, ?_⟩
    rw [rowL_cnt]
    have hcl := cnt_le l
    have hsl := hS.le
    rw [wrap_id (x := K - _) (by omega) (by omega)]
    refine ⟨fun left last k w => ∃ l : List Bool, l.length = K.toNat ∧ left = K - (l.countP fun b => b) ∧ k = (K - (l.countP fun b => b)).toNat ∧ -1 ≤ last ∧ (∀ m : Nat, m < l.length → (m : Int) ≤ last → l.getD m true = true) ∧ SetR w b l F ∧ Foot W w F ∧ Ch Non W w,
      ⟨_, l, hl, rfl, rfl, by omega, fun m _ h => by omega, hS, hF, hC⟩, ?_⟩
    clear hS hF hC hcl hl hc4 hsl
    rintro jk left last k w5 ⟨l, hl, rfl, rfl, hla, hlast, hS, hF, hC⟩
    have hcl := cnt_le l
    refine step_call (First_spec hS) ?_
    rintro v w6 ⟨f, rfl, hf, rfl⟩
    refine ⟨_, rfl, fun hge => ?_, fun hlt => ?_⟩
    · have hge : 0 ≤ f := by simpa using hge
      refine step_call (First_spec hS) ?_
      rintro v w7 ⟨f', rfl, hf', rfl⟩
      have := hf.uniq hf'
      subst this
      rcases hf with ⟨hfm, _⟩ | ⟨i, rfl, hi, hif, hall⟩
      · omega
      have hli : l[i] = false := by rw [← getD_at hi true]; exact hif
      have hcs := cnt_set hi hli
      have hct := cnt_lt hi hli
      refine ⟨_, rfl, iteF (decide_eq_false fun hle => ?_) (iteF (by simp; omega) fun w8 e8 => ?_)⟩
      · rw [hlast i hi hle] at hif; cases hif
      refine step_call (Has1_spec hS e8) ?_
      rintro v w9 ⟨rfl, hc9⟩
      have hS9 := hS.keepN hc9
      have hF9 := hF.le hc9.size
      have hho : hasOne l (i : Int) = false := by
        unfold hasOne
        rw [Int.toNat_natCast, getD_at hi, hli, Bool.and_false]
      refine ⟨_, rfl, iteF hho fun w10 e10 => ?_⟩
      refine step_call (Add1_spec hS9 (fun j hj => (hF9 j hj).2) e10 (by omega) (by omega)) ?_
      rintro v w11 ⟨rfl, hS11, hc11⟩
      rw [Int.toNat_natCast] at hS11
      have hcs2 : ((l.set i true).countP fun b => b) = (l.countP fun b => b) + 1 := hcs
      refine ⟨_, rfl, iteF rfl ⟨(K - ((l.set i true).countP fun b => b)).toNat, by omega, l.set i true, by simpa using hl, ?_, rfl, by omega, fun m hm hmi => ?_, hS11, hF9.le hc11.size, hF9.hi (hC.andN hc9) hc11⟩⟩
      · rw [wrap_id (by omega) (by omega)]; omega
      · have hm' : m < l.length := by simpa using hm
        rw [getD_at hm]
        by_cases he : m = i
        · subst he; simp
        · rw [List.getElem_set_ne (by omega), ← getD_at hm' true]; exact hall m (by omega)
    · have hlt : f < 0 := by simpa using hlt
      rcases hf with ⟨hfm, hall⟩ | ⟨i, rfl, _⟩
      · have hca := cnt_all hall
        refine iteT (by simp; omega) ?_
        refine step_call (Count_spec hS) ?_
        rintro v w7 ⟨rfl, hc7⟩
        have hS7 := hS.keepN hc7
        refine ⟨_, rfl, iteT (by rw [rowL_cnt]; simp; omega) ?_⟩
        refine step_call (Row_spec hS7) ?_
        rintro v w8 ⟨o8, c8, rfl, _, hc8⟩
        exact ⟨_, _, _, rfl, by rw [rowL_cnt]; simp; omega, (hC.andN hc7).andN hc8⟩
      · omega
  ·
    refine step_call (Count_spec hS) ?_
    rintro v w4 ⟨rfl, hc4⟩
    have hS := hS.keepN hc4
    have hC := hC.andN hc4
    have hF := hF.le hc4.size
    refine ⟨_, rfl, ?_⟩
    rw [rowL_cnt]
    have hcl := cnt_le l
    have hsl := hS.le
    rw [wrap_id (x := K - _) (by omega) (by omega)]
    refine ⟨fun left last k w => ∃ l : List Bool, l.length = K.toNat ∧ left = K - (l.countP fun b => b) ∧ k = (K - (l.countP fun b => b)).toNat ∧ -1 ≤ last ∧ (∀ m : Nat, m < l.length → (m : Int) ≤ last → l.getD m true = true) ∧ SetR w b l F ∧ Foot W w F ∧ Ch Non W w,
      ⟨_, l, hl, rfl, rfl, by omega, fun m _ h => by omega, hS, hF, hC⟩, ?_⟩
    clear hS hF hC hcl hl hc4 hsl
    rintro jk left last k w5 ⟨l, hl, rfl, rfl, hla, hlast, hS, hF, hC⟩
    have hcl := cnt_le l
    refine step_call (First_spec hS) ?_
    rintro v w6 ⟨f, rfl, hf, rfl⟩
    refine ⟨_, rfl, fun hge => ?_, fun hlt => ?_⟩
    · have hge : 0 ≤ f := by simpa using hge
      refine step_call (First_spec hS) ?_
      rintro v w7 ⟨f', rfl, hf', rfl⟩
      have := hf.uniq hf'
      subst this
      rcases hf with ⟨hfm, _⟩ | ⟨i, rfl, hi, hif, hall⟩
      · omega
      have hli : l[i] = false := by rw [← getD_at hi true]; exact hif
      have hcs := cnt_set hi hli
      have hct := cnt_lt hi hli
      refine ⟨_, rfl, iteF (decide_eq_false fun hle => ?_) (iteF (by simp; omega) fun w8 e8 => ?_)⟩
      · rw [hlast i hi hle] at hif; cases hif
      refine step_call (Has1_spec hS e8) ?_
      rintro v w9 ⟨rfl, hc9⟩
      have hS9 := hS.keepN hc9
      have hF9 := hF.le hc9.size
      have hho : hasOne l (i : Int) = false := by
        unfold hasOne
        rw [Int.toNat_natCast, getD_at hi, hli, Bool.and_false]
      refine ⟨_, rfl, iteF hho fun w10 e10 => ?_⟩
      refine step_call (Add1_spec hS9 (fun j hj => (hF9 j hj).2) e10 (by omega) (by omega)) ?_
      rintro v w11 ⟨rfl, hS11, hc11⟩
      rw [Int.toNat_natCast] at hS11
      have hcs2 : ((l.set i true).countP fun b => b) = (l.countP fun b => b) + 1 := hcs
      refine ⟨_, rfl, iteF rfl ⟨(K - ((l.set i true).countP fun b => b)).toNat, by omega, l.set i true, by simpa using hl, ?_, rfl, by omega, fun m hm hmi => ?_, hS11, hF9.le hc11.size, hF9.hi (hC.andN hc9) hc11⟩⟩
      · rw [wrap_id (by omega) (by omega)]; omega
      · have hm' : m < l.length := by simpa using hm
        rw [getD_at hm]
        by_cases he : m = i
        · subst he; simp
        · rw [List.getElem_set_ne (by omega), ← getD_at hm' true]; exact hall m (by omega)
    · have hlt : f < 0 := by simpa using hlt
      rcases hf with ⟨hfm, hall⟩ | ⟨i, rfl, _⟩
      · have hca := cnt_all hall
        refine iteT (by simp; omega) ?_
        refine step_call (Count_spec hS) ?_
        rintro v w7 ⟨rfl, hc7⟩
        have hS7 := hS.keepN hc7
        refine ⟨_, rfl, iteT (by rw [rowL_cnt]; simp; omega) ?_⟩
        refine step_call (Row_spec hS7) ?_
        rintro v w8 ⟨o8, c8, rfl, _, hc8⟩
        exact ⟨_, _, _, rfl, by rw [rowL_cnt]; simp; omega, (hC.andN hc7).andN hc8⟩
      · omega
end Go.Proofs.Ytefidalhijpmdaa.Bits
