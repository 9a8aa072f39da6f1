/- For every zone of a disk whose power is there: what its methods do; the conditions stand in each theorem. -/
import Derived.Test.YtpefegcdcojokaaDiskK
import Derived.Test.YtpefegcdcojokaaBldS
import Derived.Test.YtpefegcdcojokaaVcZone
set_option linter.unusedVariables false
set_option linter.unusedSimpArgs false
namespace Go.Proofs.Ytpefegcdcojokaa.Zone
open Go Go.Proofs Go.Proofs.Ytpefegcdcojokaa.V Go.Proofs.Ytpefegcdcojokaa.Vc Go.Proofs.Ytpefegcdcojokaa.Disk Go.RowKit

theorem isPart_spec (w : World) {f n a : Int} (h : 0 ≤ f ∧ f ≤ 1000000 ∧ 0 ≤ a ∧ a ≤ 1000000) : Calls Try.prog i_zone_isPart #[.int .i64 f, .int .i64 n, .int .i64 a] w (Ret fun v w' => v = .bool (decide (1 ≤ n ∧ f < a ∧ n ≤ a - f)) ∧ w' = w) := by
  refine zone_isPart.calls _ _ _ ?_
  unfold zone_isPart.vc
  rw [wrap_id (by omega) (by omega)]
  refine ⟨fun h1 => ⟨fun h2 => ⟨fun h3 => ⟨?_, rfl⟩, fun h3 => ⟨?_, rfl⟩⟩, fun h2 => ?_⟩, fun h1 => ⟨?_, rfl⟩⟩
  · have h1 := of_decide_eq_true h1
    have h3 := of_decide_eq_true h3
    congr 1
    exact decide_eq_decide.2 ⟨fun h => ⟨h1, h3, h⟩, fun h => h.2.2⟩
  · have h3 := of_decide_eq_false h3
    rw [decide_eq_false (fun h => h3 h.2.1)]
  · have h2 := of_decide_eq_false h2; omega
  · have h1 := of_decide_eq_false h1
    rw [decide_eq_false (fun h => h1 h.1)]
theorem nbZ {p : Prop} [Decidable p] (h : (!decide p) = true) : ¬ p := by simpa using h
theorem nbZ2 {p : Prop} [Decidable p] (h : (!decide p) = false) : p := by simpa using h
theorem rep_one (u : UInt8) (k : Nat) : Lib.repeatL [u] k = List.replicate k u := by
  have := Lib.repeatL_replicate u 1 k
  simpa using this
/-- What a disk has at each place, as it is read; nothing goes wrong. -/
structure LI (m : Nat) (c : Nat → List UInt8) (B : Nat) (x : DkD) : Prop where
  aw : x.away = false
  fu : x.fuse = -1
  sl : x.safe.length = m
  rd : ∀ q : Nat, q < m → readC x q = c q
  dn : x.done ≤ B
  ll : x.loose.length ≤ B
def updN (c : Nat → List UInt8) (q : Nat) (l : List UInt8) : Nat → List UInt8 := fun p => if p = q then l else c p
theorem readC_write (x : DkD) (f dn : Int) (q : Int) (l : List UInt8) (p : Int) : readC { x with fuse := f, done := dn, loose := x.loose ++ [(q, l)] } p = if p = q then l else readC x p := by
  unfold readC
  show (((x.loose ++ [(q, l)]).reverse.find? _).map _).getD _ = _
  rw [List.reverse_append, List.reverse_singleton, List.singleton_append, List.find?_cons]
  by_cases h : p = q
  · subst h; simp
  · rw [if_neg h, decide_eq_false (show ¬ (q, l).1 = p from fun e => h e.symm)]
theorem LI.chk {m B : Nat} {c : Nat → List UInt8} {x : DkD} (h : LI m c B x) {q : Nat} (hq : q < m) : chk x q = 0 := by
  have := h.sl
  unfold Disk.chk; rw [if_neg (by omega), h.aw]; rfl
theorem LI.write {m B : Nat} {c : Nat → List UInt8} {x : DkD} (h : LI m c B x) {q : Nat} (hq : q < m) {l : List UInt8} (hl : l.length = 32) :
    (writeC x q l).1 = 0 ∧ LI m (updN c q l) (B + 1) (writeC x q l).2 ∧ (writeC x q l).2.done = x.done + 1 ∧ (writeC x q l).2.loose.length = x.loose.length + 1 := by
  have hs := h.sl
  have hd := h.dn
  have hll := h.ll
  rw [writeC_ok h.aw h.fu (by omega) hl]
  refine ⟨rfl, ⟨h.aw, rfl, h.sl, fun p hp => ?_, by show x.done + 1 ≤ _; omega, by show (x.loose ++ [((q : Int), l)]).length ≤ _; rw [List.length_append]; simp; omega⟩, rfl, by show (x.loose ++ [((q : Int), l)]).length = _; rw [List.length_append]; rfl⟩
  show readC { x with fuse := -1, done := x.done + 1, loose := x.loose ++ [((q : Int), l)] } p = _
  rw [readC_write, h.rd p hp]
  unfold updN
  by_cases e : p = q
  · subst e; rw [if_pos rfl, if_pos rfl]
  · rw [if_neg (by omega), if_neg e]
/-- A zone's block. -/
def Zn (W w : World) (zb d f n : Nat) (F : Nat → Prop) : Prop := Blk w zb [.pointer (some ⟨d, 0, none⟩), .int .i64 f, .int .i64 n] t_zone_Zone ∧ ¬ F zb ∧ W.heap.size ≤ zb
section
variable {W w w' w1 : World} {d zb f n m B : Nat} {x x' : DkD} {F F' G : Nat → Prop} {c : Nat → List UInt8}
theorem Zn.keepN (h : Zn W w zb d f n F) (hc : Ch Non w w') : Zn W w' zb d f n F := ⟨h.1.keepN hc, h.2⟩
theorem Zn.step (h : Zn W w zb d f n F) (hc : Ch F w w') (hF : ∀ i, F' i → Ext F w w' i) : Zn W w' zb d f n F' :=
  ⟨h.1.keep hc h.2.1, fun h2 => by
    rcases hF _ h2 with h2 | h2
    · exact h.2.1 h2
    · exact absurd h.1.lt (Nat.not_lt.2 h2.1), h.2.2⟩
theorem New_zspec (h : DkS W w d x F) (hl : x.safe.length ≤ 4096) {f n : Nat} (hf : f ≤ 100000) : Calls Try.prog i_zone_New #[.pointer (some ⟨d, 0, none⟩), .int .i64 f, .int .i64 n] w (Ret fun v w' => Ch Non w w' ∧
    ((1 ≤ n ∧ f < x.safe.length ∧ (n : Int) ≤ (x.safe.length : Int) - f) → ∃ zb, v = .tuple #[.pointer (some ⟨zb, 0, none⟩), .int .i64 0] ∧ Zn W w' zb d f n F) ∧ (¬ (1 ≤ n ∧ f < x.safe.length ∧ (n : Int) ≤ (x.safe.length : Int) - f) → v = .tuple #[.pointer none, .int .i64 1])) := by
  refine zone_New.calls _ _ _ ?_
  unfold zone_New.vc
  refine step_call (S_len h) ?_
  rintro v w1 ⟨rfl, rfl⟩
  refine ⟨_, rfl, step_call (isPart_spec w1 (by omega)) ?_⟩
  rintro v w2 ⟨rfl, rfl⟩
  refine ⟨_, rfl, fun h1 => ?_, fun h1 => ?_⟩
  · have h1 : ¬ (1 ≤ (n : Int) ∧ (f : Int) < (x.safe.length : Int) ∧ (n : Int) ≤ (x.safe.length : Int) - f) := nbZ h1
    exact ⟨Ch.refl _ _, fun h2 => absurd (by omega) h1, fun _ => rfl⟩
  · have h1 : (1 ≤ (n : Int) ∧ (f : Int) < (x.safe.length : Int) ∧ (n : Int) ≤ (x.safe.length : Int) - f) := nbZ2 h1
    intro w3 e3
    refine ⟨Ch.alloc e3, fun _ => ⟨_, rfl, Blk.new e3, fun hf => ?_, h.c.size⟩, fun h2 => absurd (by omega) h2⟩
    have := (h.f _ hf).2; omega
theorem Len_zspec (hz : Zn W w zb d f n F) : Calls Try.prog i_zone_Zone_Len #[.pointer (some ⟨zb, 0, none⟩)] w (Ret fun v w' => v = .int .i64 n ∧ w' = w) := by
  refine zone_Zone_Len.calls _ ?_
  unfold zone_Zone_Len.vc
  exact ⟨_, hz.1.cell 2 rfl, rfl, rfl⟩
theorem isIn_spec (hz : Zn W w zb d f n F) (q : Int) : Calls Try.prog i_zone_Zone_isIn #[.pointer (some ⟨zb, 0, none⟩), .int .i64 q] w (Ret fun v w' => v = .bool (decide (0 ≤ q ∧ q < n)) ∧ w' = w) := by
  refine zone_Zone_isIn.calls _ _ ?_
  unfold zone_Zone_isIn.vc
  refine ⟨fun h1 => ⟨_, hz.1.cell 2 rfl, ?_, rfl⟩, fun h1 => ⟨?_, rfl⟩⟩
  · have h1 := of_decide_eq_true h1
    congr 1
    exact decide_eq_decide.2 ⟨fun h => ⟨h1, h⟩, fun h => h.2⟩
  · have h1 := of_decide_eq_false h1
    rw [decide_eq_false (fun h => h1 h.1)]
theorem Read_zspec (h : DkS W w d x F) (hz : Zn W w zb d f n F) (hf : f ≤ 100000) (hn : n ≤ 100000) (q : Int) : Calls Try.prog i_zone_Zone_Read #[.pointer (some ⟨zb, 0, none⟩), .int .i64 q] w (Ret fun v w' => Ch Non w w' ∧
    ((0 ≤ q ∧ q < n) → v = .tuple #[.string (str (if chk x (f + q) = 0 then readC x (f + q) else [])), .int .i64 (chk x (f + q))]) ∧ (¬ (0 ≤ q ∧ q < n) → v = .tuple #[.string (str []), .int .i64 3])) := by
  refine zone_Zone_Read.calls _ _ ?_
  unfold zone_Zone_Read.vc
  refine step_call (isIn_spec hz q) ?_
  rintro v w1 ⟨rfl, rfl⟩
  refine ⟨_, rfl, fun h1 => ?_, fun h1 => ?_⟩
  · have h1 : ¬ (0 ≤ q ∧ q < (n : Int)) := nbZ h1
    exact ⟨Ch.refl _ _, fun h2 => absurd h2 h1, fun _ => rfl⟩
  · have h1 : (0 ≤ q ∧ q < (n : Int)) := nbZ2 h1
    refine ⟨fun w' => Ch Non w1 w', fun w2 e2 => ⟨Ch.drew e2, _, fun w' hc => (hz.1.keepN hc).cell 0 rfl, _, fun w' hc => (hz.1.keepN hc).cell 1 rfl, ?_⟩⟩
    rw [wrap_id (by omega) (by omega)]
    refine step_call (S_read (h.keepN (Ch.drew e2)) _) ?_
    rintro v w3 ⟨rfl, hc3⟩
    have hc : Ch Non w1 w3 := (Ch.drew e2).andN hc3
    exact ⟨_, _, rfl, hc, hc, fun _ => rfl, fun h2 => absurd h1 h2⟩
theorem Write_zspec (h : DkS W w d x F) (hI : LI m c B x) (hB : B ≤ 90000) (hz : Zn W w zb d f n F) (hf : f ≤ 100000) (hn : n ≤ 100000) {q : Nat} (hq : q < n) (hm : f + q < m) {l : List UInt8} (hl : l.length = 32) : Calls Try.prog i_zone_Zone_Write #[.pointer (some ⟨zb, 0, none⟩), .int .i64 q, .string (str l)] w (Ret fun v w' =>
    v = .int .i64 0 ∧ ∃ x', DkT W w w' d x' F ∧ LI m (updN c (f + q) l) (B + 1) x' ∧ x'.done = x.done + 1 ∧ x'.loose.length = x.loose.length + 1) := by
  refine zone_Zone_Write.calls _ _ _ ?_
  unfold zone_Zone_Write.vc
  rw [str_size, hl]
  refine iteF (by decide) (step_call (isIn_spec hz q) ?_)
  rintro v w1 ⟨rfl, rfl⟩
  have hin : decide (0 ≤ (q : Int) ∧ (q : Int) < n) = true := decide_eq_true (by omega)
  rw [hin]
  have hS : ∀ w', Ch F w1 w' → Blk w' zb [.pointer (some ⟨d, 0, none⟩), .int .i64 f, .int .i64 n] t_zone_Zone := fun w' hc => hz.1.keep hc hz.2.1
  refine ⟨_, rfl, iteF rfl ⟨fun w' => Ch F w1 w', fun w2 e2 => ⟨Ch.drew e2, _, fun w' hc => (hS w' hc).cell 0 rfl, _, fun w' hc => (hS w' hc).cell 1 rfl, ?_⟩⟩⟩
  rw [wrap_id (by omega) (by omega)]
  have hd := hI.dn
  have hll := hI.ll
  have e : ((f : Int) + (q : Int)) = ((f + q : Nat) : Int) := by omega
  rw [e]
  obtain ⟨i1, i2, i3, i4⟩ := hI.write hm hl
  refine step_call (S_write (h.keepN (Ch.drew e2)) (by omega) (by omega) ((f + q : Nat) : Int) l) ?_
  rw [i1]
  rintro v w3 ⟨rfl, F', hS', hE, hc3⟩
  have hs12 : w1.heap.size = w2.heap.size := by subst e2; rfl
  have hc : Ch F w1 w3 := (Ch.drew e2).any.same hc3
  exact ⟨_, rfl, hc, rfl, _, ⟨F', hS', fun i hi => by rcases hE i hi with h | h; exact .inl h; exact .inr ⟨by omega, h.2⟩, hc⟩, i2, i3, i4⟩
/-- What is behind a fill of so many places. -/
def fillC (c : Nat → List UInt8) (f j : Nat) (want : List UInt8) : Nat → List UInt8 := fun p => if f ≤ p ∧ p < f + j then want else c p
theorem fillC_zero (c : Nat → List UInt8) (f : Nat) (want : List UInt8) : fillC c f 0 want = c := by funext p; unfold fillC; rw [if_neg (by omega)]
theorem fillC_upd (c : Nat → List UInt8) (f j : Nat) (want : List UInt8) : updN (fillC c f j want) (f + j) want = fillC c f (j + 1) want := by
  funext p; unfold updN fillC
  by_cases h : p = f + j
  · rw [if_pos h, if_pos (by omega)]
  · rw [if_neg h]
    by_cases h2 : f ≤ p ∧ p < f + j
    · rw [if_pos h2, if_pos (by omega)]
    · rw [if_neg h2, if_neg (by omega)]
theorem fillC_same {c : Nat → List UInt8} {f j : Nat} {want : List UInt8} (h : c (f + j) = want) : fillC c f j want = fillC c f (j + 1) want := by
  funext p; unfold fillC
  by_cases h2 : f ≤ p ∧ p < f + j
  · rw [if_pos h2, if_pos (by omega)]
  · rw [if_neg h2]
    by_cases h3 : p = f + j
    · rw [if_pos (by omega), h3, h]
    · rw [if_neg (by omega)]
theorem fillC_at {c : Nat → List UInt8} {f j : Nat} {want : List UInt8} : fillC c f j want (f + j) = c (f + j) := by unfold fillC; rw [if_neg (by omega)]
def want32 (b : Int) : List UInt8 := List.replicate 32 (UInt8.ofNat b.toNat)
theorem want_len (b : Int) : (want32 b).length = 32 := List.length_replicate
theorem u8v_of {b : Int} (hb : 0 ≤ b ∧ b < 256) : Value.int .u8 b = u8v (UInt8.ofNat b.toNat) := by
  unfold u8v
  rw [UInt8.toNat_ofNat']
  congr 1; omega
set_option maxHeartbeats 1000000 in
theorem Fill_spec (h : DkS W w d x F) (hI : LI m c B x) (hz : Zn W w zb d f n F) (hB : B + n ≤ 80000) (hf : f + n ≤ m) (hm : m ≤ 4096) {b : Int} (hb : 0 ≤ b ∧ b < 256) : Calls Try.prog i_zone_Zone_Fill #[.pointer (some ⟨zb, 0, none⟩), .int .u8 b] w (Ret fun v w' =>
    v = .int .i64 0 ∧ ∃ x', DkT W w w' d x' F ∧ LI m (fillC c f n (want32 b)) (B + n) x' ∧ x'.done ≤ x.done + n ∧ ((∀ q, q < n → c (f + q) = want32 b) → x' = x)) := by
  refine zone_Zone_Fill.calls _ _ ?_
  unfold zone_Zone_Fill.vc
  rw [u8v_of hb]
  intro w1 e1
  have hb1 : Blk w1 w.heap.size ([UInt8.ofNat b.toNat].map u8v) 5 := Blk.new e1
  have hout := conv_out (P := Try.prog) (src := t_S_uint8) (dst := t_string) (e := t_uint8) (c := 1) hb1.rd (by kernel_rfl) (by kernel_rfl) (by kernel_rfl)
  refine ⟨_, _, hout, ?_⟩
  refine step_call (Repeat_spec w1 [UInt8.ofNat b.toNat] 32 (by omega) (by simp)) ?_
  rintro v w3 ⟨rfl, hc3⟩
  have er : Lib.repeatL [UInt8.ofNat b.toNat] 32 = want32 b := rep_one _ 32
  rw [er]
  have hc13 : Ch Non w w3 := Ch.andN (Ch.alloc e1) hc3
  have hz3 := hz.keepN hc13
  refine ⟨_, rfl, _, hz3.1.cell 2 rfl, ?_⟩
  refine ⟨fun i k w' => ∃ (j : Nat) (x' : DkD) (F' : Nat → Prop), i = j ∧ j ≤ n ∧ k = n - j ∧ DkS W w' d x' F' ∧ (∀ i, F' i → Ext F w w' i) ∧ Ch F w w' ∧ LI m (fillC c f j (want32 b)) (B + j) x' ∧ x'.done ≤ x.done + j ∧ ((∀ q, q < n → c (f + q) = want32 b) → x' = x),
    ⟨_, 0, x, F, rfl, Nat.zero_le _, rfl, h.keepN hc13, fun i hi => .inl hi, hc13.any, by rw [fillC_zero]; exact hI, by omega, fun _ => rfl⟩, ?_⟩
  rintro jk i k w4 ⟨j, x', F', rfl, hj, rfl, hS, hE, hc4, hI4, hd4, hq4⟩
  have hz4 : Zn W w4 zb d f n F' := hz.step hc4 hE
  refine ⟨fun hlt => ?_, fun hge => ?_⟩
  · have hlt : j < n := by have := of_decide_eq_true hlt; omega
    refine step_call (Read_zspec hS hz4 (by omega) (by omega) j) ?_
    rintro v w5 ⟨hc5, hy, _⟩
    have e : ((f : Int) + (j : Int)) = ((f + j : Nat) : Int) := by omega
    have hv := hy ⟨by omega, by omega⟩
    rw [e, hI4.chk (by omega), if_pos rfl, hI4.rd _ (by omega), fillC_at] at hv
    subst hv
    have hS5 := hS.keepN hc5
    have hz5 := hz4.keepN hc5
    have hs45 := hc5.size
    refine ⟨_, _, rfl, iteT rfl ⟨fun hne => ?_, fun heq => iteF rfl ?_⟩⟩
    · rw [str_beq] at hne
      have hne : ¬ c (f + j) = want32 b := by simpa using hne
      refine step_call (Write_zspec hS5 hI4 (by omega) hz5 (by omega) (by omega) hlt (by omega) (want_len b)) ?_
      rintro v w6 ⟨rfl, x6, ⟨F6, hS6, hE6, hc6⟩, hI6, hd6, _⟩
      have hs56 := hc6.size
      have hs04 := hc4.size
      rw [fillC_upd] at hI6
      have hX : ∀ i, F6 i → Ext F w w6 i := fun i hi => by
        rcases hE6 i hi with hi | hi
        · rcases hE i hi with hi | hi
          · exact .inl hi
          · exact .inr ⟨hi.1, by have := hi.2; omega⟩
        · exact .inr ⟨by have := hi.1; omega, hi.2⟩
      refine ⟨_, rfl, iteF rfl ⟨n - (j + 1), by omega, j + 1, x6, F6, by rw [wrap_id (by omega) (by omega)]; rfl, hlt, rfl, hS6, hX, ?_, hI6, by omega, fun hall => absurd (hall j hlt) hne⟩⟩
      exact (hc4.andN hc5).trans hc6 (fun i hi hF => by
        rcases hE i hF with h | h
        · exact h
        · exact absurd hi (Nat.not_lt.2 h.1))
    · rw [str_beq] at heq
      have heq : c (f + j) = want32 b := by simpa using heq
      have hI5 := hI4
      rw [fillC_same heq] at hI5
      exact ⟨n - (j + 1), by omega, j + 1, x', F', by rw [wrap_id (by omega) (by omega)]; rfl, hlt, rfl, hS5, fun i hi => by
        rcases hE i hi with h | h
        · exact .inl h
        · exact .inr ⟨h.1, by have := h.2; omega⟩, hc4.andN hc5, ⟨hI5.aw, hI5.fu, hI5.sl, hI5.rd, by have := hI5.dn; omega, by have := hI5.ll; omega⟩, by omega, hq4⟩
  · have hge : j = n := by have := of_decide_eq_false hge; omega
    subst hge
    exact ⟨rfl, x', ⟨F', hS, hE, hc4⟩, hI4, hd4, hq4⟩
/-- All of a zone. -/
def allC (c : Nat → List UInt8) (f n : Nat) : List UInt8 := ((List.range n).map fun i => c (f + i)).flatten
theorem allC_succ (c : Nat → List UInt8) (f j : Nat) : allC c f (j + 1) = allC c f j ++ c (f + j) := by unfold allC; rw [List.range_succ, List.map_append, List.flatten_append]; simp
theorem allC_len {c : Nat → List UInt8} {f : Nat} : ∀ j, (∀ q, q < j → (c (f + q)).length = 32) → (allC c f j).length = 32 * j
  | 0, _ => rfl
  | j + 1, h => by rw [allC_succ, List.length_append, allC_len j (fun q hq => h q (by omega)), h j (by omega)]; omega
theorem readC_len (ok : DkOk x) {q : Nat} (hq : q < x.safe.length) : (readC x q).length = 32 := by
  unfold readC
  cases hf : x.loose.reverse.find? (fun y => decide (y.1 = (q : Int))) with
  | none =>
    show (x.safe.getD (q : Int).toNat []).length = 32
    rw [Int.toNat_natCast, getD_at [] hq]
    exact ok.s32 _ (List.getElem_mem hq)
  | some y =>
    show y.2.length = 32
    exact ok.l32 _ (List.mem_reverse.1 (List.mem_of_find?_eq_some hf))
theorem LI.len (hI : LI m c B x) (ok : DkOk x) {q : Nat} (hq : q < m) : (c q).length = 32 := by
  rw [← hI.rd q hq]
  exact readC_len ok (by rw [hI.sl]; exact hq)
set_option maxHeartbeats 1000000 in
theorem All_spec (h : DkS W w d x F) (hI : LI m c B x) (hz : Zn W w zb d f n F) (hf : f + n ≤ m) (hm : m ≤ 4096) : Calls Try.prog i_zone_Zone_All #[.pointer (some ⟨zb, 0, none⟩)] w (Ret fun v w' =>
    v = .tuple #[.string (str (allC c f n)), .int .i64 0] ∧ Ch Non w w') := by
  refine zone_Zone_All.calls _ ?_
  unfold zone_Zone_All.vc
  intro w1 e1
  have hB1 : Bld w1 w.heap.size t_strings_Builder [] [] (New w w1) := Bld.made (tail := []) e1 (by unfold BType; kernel_rfl)
  have hc1 : Ch Non w w1 := Ch.alloc e1
  refine ⟨_, (hz.keepN hc1).1.cell 2 rfl, ?_⟩
  refine ⟨fun i k w' => ∃ j : Nat, i = j ∧ j ≤ n ∧ k = n - j ∧ Bld w' w.heap.size t_strings_Builder [] (allC c f j) (New w w') ∧ Ch Non w w', ⟨_, 0, rfl, Nat.zero_le _, rfl, hB1, hc1⟩, ?_⟩
  rintro jk i k w2 ⟨j, rfl, hj, rfl, hB2, hc2⟩
  have hS2 := h.keepN hc2
  have hz2 := hz.keepN hc2
  have hlenj := allC_len (c := c) (f := f) j (fun q hq => hI.len h.ok (by omega))
  refine ⟨fun hlt => ?_, fun hge => ?_⟩
  · have hlt : j < n := by have := of_decide_eq_true hlt; omega
    refine step_call (Read_zspec hS2 hz2 (by omega) (by omega) j) ?_
    rintro v w3 ⟨hc3, hy, _⟩
    have e : ((f : Int) + (j : Int)) = ((f + j : Nat) : Int) := by omega
    have hv := hy ⟨by omega, by omega⟩
    rw [e, hI.chk (by omega), if_pos rfl, hI.rd _ (by omega)] at hv
    subst hv
    have hl32 := hI.len h.ok (q := f + j) (by omega)
    have hs3 := hc3.size
    refine ⟨_, _, rfl, iteF rfl (step_call (WriteString_spec (hB2.keepN hc3) (str (c (f + j))) (by rw [str_size]; omega)) ?_)⟩
    rintro v w4 ⟨rfl, hB4, hc4⟩
    rw [str_data, ← allC_succ] at hB4
    have hs4 := hc4.size
    have hs2 := hc2.size
    refine ⟨_, _, rfl, n - (j + 1), by omega, j + 1, by rw [wrap_id (by omega) (by omega)]; rfl, hlt, rfl, hB4.mono (fun i hi hF => ?_), (hc2.andN hc3).trans hc4 (fun i hi hN => by have := hN.1; omega)⟩
    rcases hF with hF | hF
    · exact ⟨hF.1, by have := hF.2; omega⟩
    · exact ⟨by have := hF.1; omega, hF.2⟩
  · have hge : j = n := by have := of_decide_eq_false hge; omega
    subst hge
    refine step_call (String_spec hB2 (by rw [hlenj]; omega)) ?_
    rintro v w5 ⟨rfl, _, hc5⟩
    exact ⟨_, rfl, rfl, hc2.trans hc5 (fun i hi hN => by have := hN.1.1; omega)⟩
theorem Part_spec (h : DkS W w d x F) (hz : Zn W w zb d f n F) (hl : x.safe.length ≤ 4096) (hf : f ≤ 10000) (hn : n ≤ 10000) {a k : Nat} (ha : a ≤ 10000) : Calls Try.prog i_zone_Zone_Part #[.pointer (some ⟨zb, 0, none⟩), .int .i64 a, .int .i64 k] w (Ret fun v w' => Ch Non w w' ∧
    ((1 ≤ k ∧ a + k ≤ n ∧ f + n ≤ x.safe.length) → ∃ zc, v = .tuple #[.pointer (some ⟨zc, 0, none⟩), .int .i64 0] ∧ Zn W w' zc d (f + a) k F) ∧ (¬ (1 ≤ k ∧ a + k ≤ n) → v = .tuple #[.pointer none, .int .i64 1])) := by
  refine zone_Zone_Part.calls _ _ _ ?_
  unfold zone_Zone_Part.vc
  refine ⟨_, hz.1.cell 2 rfl, step_call (isPart_spec w (by omega)) ?_⟩
  rintro v w1 ⟨rfl, rfl⟩
  refine ⟨_, rfl, fun h1 => ?_, fun h1 => ?_⟩
  · have h1 : ¬ (1 ≤ (k : Int) ∧ (a : Int) < (n : Int) ∧ (k : Int) ≤ (n : Int) - a) := nbZ h1
    exact ⟨Ch.refl _ _, fun h2 => absurd (by omega) h1, fun _ => rfl⟩
  · have h1 : (1 ≤ (k : Int) ∧ (a : Int) < (n : Int) ∧ (k : Int) ≤ (n : Int) - a) := nbZ2 h1
    refine ⟨fun w' => Ch Non w1 w', fun w2 e2 => ⟨Ch.drew e2, _, fun w' hc => (hz.1.keepN hc).cell 0 rfl, _, fun w' hc => (hz.1.keepN hc).cell 1 rfl, ?_⟩⟩
    rw [wrap_id (by omega) (by omega)]
    have e : ((f : Int) + (a : Int)) = ((f + a : Nat) : Int) := by omega
    rw [e]
    refine step_call (New_zspec (h.keepN (Ch.drew e2)) hl (f := f + a) (n := k) (by omega)) ?_
    rintro v w3 ⟨hc3, hy, hno⟩
    have hc : Ch Non w1 w3 := (Ch.drew e2).andN hc3
    by_cases hx : 1 ≤ k ∧ f + a < x.safe.length ∧ (k : Int) ≤ (x.safe.length : Int) - ((f + a : Nat) : Int)
    · obtain ⟨zc, rfl, hzc⟩ := hy hx
      exact ⟨_, _, rfl, hc, hc, fun _ => ⟨zc, rfl, hzc⟩, fun h2 => absurd (by omega) h2⟩
    · rw [hno hx]
      exact ⟨_, _, rfl, hc, hc, fun h2 => absurd (by omega) hx, fun h2 => absurd (by omega) h2⟩
end
end Go.Proofs.Ytpefegcdcojokaa.Zone
