/- PenBack's contract: of all numbers and texts the Go function answers true and leaves what was there; the conditions stand in each theorem. -/
import Derived.Test.YtfecfdhigkehgaaPen2
import Derived.Test.YtfecfdhigkehgaaVcPen2
set_option linter.unusedVariables false
set_option linter.unusedSimpArgs false
namespace Go.Proofs.Ytfecfdhigkehgaa.Pen
open Go Go.Proofs Go.Proofs.Ytfecfdhigkehgaa.V Go.Proofs.Ytfecfdhigkehgaa.Vc Go.RowKit

theorem Bad_spec {w : World} {b : Nat} {bad : Bool} {bs : List UInt8} {F : Nat → Prop} (h : PenR w b bad bs F) : Calls Try.prog i_pen_Pen_Bad #[.pointer (some ⟨b, 0, none⟩)] w (Ret fun v w' => v = .bool bad ∧ w' = w) := by
  obtain ⟨p, o, c, h1, h2, h3, h4, h5⟩ := h
  refine pen_Pen_Bad.calls _ ?_
  unfold pen_Pen_Bad.vc
  exact ⟨_, h2.cell 2 rfl, rfl, rfl⟩
/-- A new pen. -/
theorem new_pen {w w1 : World} (e : w1 = w.alloc (.cells #[.pointer none, .slice none 0 0, .bool false] t_pen_Pen (0, 0))) : PenR w1 w.heap.size false [] (New w w1) := Bld.made e pen_type
theorem awake_spec (w : World) : Calls Try.prog i_coadjutorlaw03_awake #[] w (Ret fun v w' => v = .bool true ∧ Ch Non w w') := by
  refine coadjutorlaw03_awake.calls ?_
  unfold coadjutorlaw03_awake.vc
  intro w1 e1 w2 e2
  have hP := new_pen e1
  have hF : Foot w w1 (New w w1) := Foot.new (Ch.refl _ _)
  have hC : Ch Non w w1 := Ch.alloc e1
  generalize New w w1 = F at hP hF
  generalize w.heap.size = pb at hP ⊢
  have hc2 : Ch Non w1 w2 := Ch.alloc e2
  have hs2 : w1.heap.size < w2.heap.size := (Blk.new e2).lt
  have r2 : Rd w2 (some ⟨w1.heap.size, 0, none⟩) (([258, -1] : List Int).map (.int .i64)) (· = w1.heap.size) := (Blk.new e2).rd
  refine step_call (PenNum_spec (hP.keepN hc2) (fun i hi => by have := (hF i hi).2; omega) r2 (fun i hi => by subst hi; exact ⟨hs2, fun hx => absurd (hF _ hx).2 (Nat.lt_irrefl _)⟩) (by simp) 2) ?_
  rintro v w3 ⟨rfl, hP, hc3⟩
  have hF2 := hF.le hc2.size
  have hC2 := hC.andN hc2
  have hF := hF2.ext hC2 hc3.size
  have hC := hF2.hi hC2 hc3
  generalize Ext F w2 w3 = F3 at hP hF
  have p1 : (false || ([258, -1] : List Int).any outN) = true := by decide
  have p2 : ([] : List UInt8) ++ numsL [258, -1] = [2, 1, 0, 0, 0, 0, 0, 0] := by decide
  rw [p1, p2] at hP
  refine ⟨rfl, fun w4 e4 => ?_⟩
  have hc4 : Ch Non w3 w4 := Ch.alloc e4
  have hs4 : w3.heap.size < w4.heap.size := (Blk.new e4).lt
  have r4 : Rd w4 (some ⟨w3.heap.size, 0, none⟩) (([ByteArray.mk #[97, 98], ByteArray.mk #[]] : List ByteArray).map .string) (· = w3.heap.size) := (Blk.new e4).rd
  have p3 : textsL [ByteArray.mk #[97, 98], ByteArray.mk #[]] = [2, 0, 0, 0, 97, 98, 0, 0, 0, 0] := by decide
  refine step_call (PenText_spec (hP.keepN hc4) (fun i hi => by have := (hF i hi).2; omega) r4 (fun i hi => by subst hi; exact ⟨hs4, fun hx => absurd (hF _ hx).2 (Nat.lt_irrefl _)⟩) (by rw [p3]; decide) (by decide) (by decide) 2) ?_
  rintro v w5 ⟨rfl, hP, hc5⟩
  have hF4 := hF.le hc4.size
  have hC4 := hC.andN hc4
  have hF := hF4.ext hC4 hc5.size
  have hC := hF4.hi hC4 hc5
  generalize Ext F3 w4 w5 = F5 at hP hF
  rw [p3] at hP
  refine ⟨rfl, fun w6 e6 => ?_⟩
  have hc6 : Ch Non w5 w6 := Ch.alloc e6
  have r6 : Rd w6 (some ⟨w5.heap.size, 0, none⟩) (([7] : List UInt8).map u8v) (· = w5.heap.size) := (Blk.new e6).rd
  have hp5 := hP.lt
  refine step_call (PenByte_spec (news := [7]) (hP.keepN hc6) r6 (fun i hi => by omega) (by simp) 1) ?_
  rintro v w7 ⟨rfl, hP, hc7⟩
  have hF6 := hF.le hc6.size
  have hC6 := hC.andN hc6
  have hF := hF6.ext hC6 hc7.size
  have hC := hF6.hi hC6 hc7
  generalize Ext F5 w6 w7 = F7 at hP hF
  refine ⟨rfl, ?_⟩
  refine step_call (Of_spec w7 [2, 1, 0, 0, 2, 0, 0, 0, 97, 98, 33]) ?_
  rintro v w8 ⟨e, rfl, he, hE, hc8⟩
  have heF : ¬ F7 e := fun h => by have := (hF _ h).2; omega
  have hW7 : w.heap.size ≤ e := by have := hC.size; omega
  have hP := hP.keepN hc8
  have hC := hC.andN hc8
  have hF := hF.le hc8.size
  refine ⟨_, rfl, iteF rfl ?_⟩
  refine step_call (Bad_spec hP) ?_
  rintro v w9 ⟨rfl, rfl⟩
  refine ⟨_, rfl, iteT rfl ?_⟩
  refine step_call (PenBytes_spec hP (by simp)) ?_
  rintro v w10 ⟨rfl, hP, hc10⟩
  have hE := hE.keep hc10 heF
  have hC := hF.hi hC hc10
  have eye : ∀ {a b : World}, Ch Non w a → Ch (· = e) a b → Ch Non w b := fun h k => h.trans k (fun i hi hx => by omega)
  refine ⟨_, rfl, iteT (str_beq _ _) ?_⟩
  refine step_call (EyeNum_spec hE 300) ?_
  rintro v w11 ⟨rfl, hE, hc⟩
  have hC := eye hC hc
  have q1 : numE ([2, 1, 0, 0, 2, 0, 0, 0, 97, 98, 33], false) 300 = (258, ([2, 0, 0, 0, 97, 98, 33], false)) := by decide +kernel
  rw [q1] at hE ⊢
  refine ⟨_, rfl, iteT rfl ?_⟩
  refine step_call (EyeText_spec hE 2) ?_
  rintro v w12 ⟨rfl, hE, hc⟩
  have hC := eye hC hc
  have q2 : textE ([2, 0, 0, 0, 97, 98, 33], false) 2 = ([97, 98], ([33], false)) := by decide +kernel
  rw [q2] at hE ⊢
  refine ⟨_, rfl, iteT (str_beq _ _) ?_⟩
  refine step_call (Left_spec hE) ?_
  rintro v w13 ⟨rfl, rfl⟩
  refine ⟨_, rfl, iteT rfl ?_⟩
  refine step_call (End_spec hE) ?_
  rintro v w14 ⟨rfl, rfl⟩
  refine ⟨_, rfl, iteT (by decide) ?_⟩
  refine step_call (EyeByte_spec hE) ?_
  rintro v w15 ⟨rfl, hE, hc⟩
  have hC := eye hC hc
  have q3 : byteE ([33], false) = (33, ([], false)) := by decide +kernel
  rw [q3] at hE ⊢
  refine ⟨33, rfl, iteT rfl ?_⟩
  refine step_call (End_spec hE) ?_
  rintro v w16 ⟨rfl, rfl⟩
  exact ⟨_, rfl, rfl, hC⟩
/-- Regions apart, all of them new since W. -/
def Dis (W w : World) (R : Nat → Nat → Prop) : Prop := (∀ k, Foot W w (R k)) ∧ ∀ i j, i ≠ j → Apart (R i) (R j)
def updR (R : Nat → Nat → Prop) (k : Nat) (w w' : World) : Nat → Nat → Prop := fun i => if i = k then Ext (R k) w w' else R i
theorem Dis.upd {W w w' : World} {R : Nat → Nat → Prop} (h : Dis W w R) (hC : Ch Non W w) (hs : w.heap.size ≤ w'.heap.size) (k : Nat) : Dis W w' (updR R k w w') := by
  refine ⟨fun j => ?_, fun i j hne => ?_⟩
  · unfold updR
    split
    · exact (h.1 k).ext hC hs
    · exact (h.1 j).le hs
  · unfold updR
    split
    · rename_i hi
      rw [if_neg (by omega)]
      exact (h.2 k j (by omega)).extL (h.1 j)
    · split
      · exact (h.2 i k (by omega)).extR (h.1 i)
      · exact h.2 i j hne
theorem Dis.le {W w w' : World} {R : Nat → Nat → Prop} (h : Dis W w R) (hs : w.heap.size ≤ w'.heap.size) : Dis W w' R := ⟨fun k => (h.1 k).le hs, h.2⟩
def m32 (x : Int) : Int := x % 4294967296
theorem m32_wrap (x : Int) : IntKind.i64.wrap (IntKind.u32.wrap x) = m32 x := by
  have hw : IntKind.u32.wrap x = x % 4294967296 := rfl
  rw [hw, wrap_id (by omega) (by omega)]; rfl
theorem m32_in (x : Int) : 0 ≤ m32 x ∧ m32 x < 4294967296 := by unfold m32; omega
theorem m32_out (x : Int) : outN (m32 x) = false := by have := m32_in x; unfold outN; simp; omega
theorem numI_val {x : Int} (h : 0 ≤ x ∧ x < 4294967296) : (valB (numI x) : Int) = x := by
  have ho : outN x = false := by unfold outN; simp; omega
  unfold numI normN
  rw [ho, if_neg Bool.false_ne_true, valB_num _ (by omega)]; omega
theorem numsL_cons (x : Int) (r : List Int) : numsL (x :: r) = numI x ++ numsL r := by simp [numsL]
theorem numsL_inj : ∀ {a b : List Int}, (∀ x ∈ a, 0 ≤ x ∧ x < 4294967296) → (∀ x ∈ b, 0 ≤ x ∧ x < 4294967296) → numsL a = numsL b → a = b
  | [], [], _, _, _ => rfl
  | [], y :: r, _, _, h => by have := congrArg List.length h; rw [numsL_len, numsL_len] at this; simp at this
  | x :: r, [], _, _, h => by have := congrArg List.length h; rw [numsL_len, numsL_len] at this; simp at this
  | x :: r, y :: s, ha, hb, h => by
    rw [numsL_cons, numsL_cons] at h
    have hl : (numI x).length = (numI y).length := rfl
    obtain ⟨h1, h2⟩ := List.append_inj h hl
    have h3 := numI_val (ha x (by simp))
    have h4 := numI_val (hb y (by simp))
    rw [h1] at h3
    have : x = y := by omega
    rw [this, numsL_inj (fun z hz => ha z (by simp [hz])) (fun z hz => hb z (by simp [hz])) h2]
theorem numE_num {x : Int} (h : 0 ≤ x ∧ x < 4294967296) (r : List UInt8) {most : Int} (hm : x ≤ most) : ((numE (numI x ++ r, false) most).1 : Int) = x ∧ (numE (numI x ++ r, false) most).2 = (r, false) := by
  have ht : takeE (numI x ++ r, false) 4 = (some (numI x), (r, false)) := by
    unfold takeE
    rw [if_neg (by simp [numI_len])]
    rw [List.take_left' (numI_len x), List.drop_left' (numI_len x)]
  have hv := numI_val h
  have hE : numE (numI x ++ r, false) most = (valB (numI x), (r, false)) := by
    unfold numE
    rw [ht]
    simp only
    rw [if_neg (by omega)]
  rw [hE]
  exact ⟨hv, rfl⟩
theorem textE_text (s : ByteArray) (hs : s.size < 4294967296) (r : List UInt8) : textE (textB s ++ r, false) s.size = (s.data.toList, (r, false)) := by
  have hsl : s.data.toList.length = s.size := by simp
  have e : textB s ++ r = numI s.size ++ (s.data.toList ++ r) := by unfold textB; rw [List.append_assoc]
  obtain ⟨h1, h2⟩ := numE_num (x := (s.size : Int)) (by omega) (s.data.toList ++ r) (most := s.size) (Int.le_refl _)
  unfold textE
  rw [e, h2, show (numE (numI (s.size : Int) ++ (s.data.toList ++ r), false) (s.size : Int)).1 = s.size by omega]
  unfold takeE
  rw [if_neg (by simp)]
  rw [List.take_left' hsl, List.drop_left' hsl]
  rfl
theorem PenBack_true (W : World) (o0 : Option Addr) (n0 c0 : Nat) (h0 : DatC Try.prog W t_S_int [.slice o0 n0 c0]) (o1 : Option Addr) (n1 c1 : Nat) (h1 : DatC Try.prog W t_S_int [.slice o1 n1 c1]) (o2 : Option Addr) (n2 c2 : Nat) (h2 : DatC Try.prog W t_S_string [.slice o2 n2 c2]) :
    Calls Try.prog i_coadjutorlaw03_PenBack #[.slice o0 n0 c0, .slice o1 n1 c1, .slice o2 n2 c2] W (Ret fun v w' => v = .bool true ∧ Ch Non W w') := by
  obtain ⟨o0', c0', xs, hcs0, _, _, _, _, hx⟩ := h0.ints (e := t_int) (k := .i64) (by kernel_rfl) (by kernel_rfl)
  obtain ⟨o1', c1', ys, hcs1, _, _, _, _, hy⟩ := h1.ints (e := t_int) (k := .i64) (by kernel_rfl) (by kernel_rfl)
  obtain ⟨o2', c2', ts, hcs2, _, _, _, _, ht⟩ := h2.strings (e := t_string) (by kernel_rfl) (by kernel_rfl)
  injection hcs0 with hcs0
  injection hcs0 with q1 q2 q3
  subst q1; subst q2; subst q3
  injection hcs1 with hcs1
  injection hcs1 with q1 q2 q3
  subst q1; subst q2; subst q3
  injection hcs2 with hcs2
  injection hcs2 with q1 q2 q3
  subst q1; subst q2; subst q3
  clear h0 h1 h2
  refine coadjutorlaw03_PenBack.calls _ _ _ _ _ _ _ _ _ ?_
  unfold coadjutorlaw03_PenBack.vc
  refine step_call (awake_spec W) ?_
  rintro v w1 ⟨rfl, hC1⟩
  refine ⟨_, rfl, iteF rfl ⟨fun _ => ⟨rfl, hC1⟩, fun hl0 => ⟨fun _ => ⟨rfl, hC1⟩, fun hl1 => ⟨fun _ => ⟨rfl, hC1⟩, fun hl2 => ⟨fun _ => ⟨rfl, hC1⟩, fun hne => ?_⟩⟩⟩⟩⟩
  have hl0 := of_decide_eq_false hl0
  have hl1 := of_decide_eq_false hl1
  have hl2 := of_decide_eq_false hl2
  have hne : 0 < xs.length := by simp at hne; exact List.length_pos_iff.2 hne
  intro w2 e2 w3 e3 w4 e4 w5 e5 w6 e6
  -- what there is
  have P2 := new_pen e2
  have Q3 := new_pen e3
  have O4 := new_pen e4
  have A5 : Own w5 t_int 1 (some ⟨w4.heap.size, 0, none⟩) 0 0 (([] : List Int).map (.int .i64)) (New w4 w5) := Own.made e5 rfl (by decide) ⟨Nat.le_refl _, (Blk.new e5).lt⟩
  have B6 : Own w6 t_int 1 (some ⟨w5.heap.size, 0, none⟩) 0 0 (([] : List Int).map (.int .i64)) (New w5 w6) := Own.made e6 rfl (by decide) ⟨Nat.le_refl _, (Blk.new e6).lt⟩
  have k12 : Ch Non w1 w2 := Ch.alloc e2
  have k23 : Ch Non w2 w3 := Ch.alloc e3
  have k34 : Ch Non w3 w4 := Ch.alloc e4
  have k45 : Ch Non w4 w5 := Ch.alloc e5
  have k56 : Ch Non w5 w6 := Ch.alloc e6
  have hC6 : Ch Non W w6 := ((((hC1.andN k12).andN k23).andN k34).andN k45).andN k56
  have hPall := (((P2.keepN k23).keepN k34).keepN k45).keepN k56
  have hQall := ((Q3.keepN k34).keepN k45).keepN k56
  have hOall := (O4.keepN k45).keepN k56
  have hAall := A5.keepN k56
  obtain ⟨R, hR0, hR1, hR2, hR3, hR4, hDis⟩ : ∃ R : Nat → Nat → Prop, R 0 = New w4 w5 ∧ R 1 = New w1 w2 ∧ R 2 = New w2 w3 ∧ R 3 = New w3 w4 ∧ R 4 = New w5 w6 ∧ Dis W w6 R := by
    refine ⟨fun k => if k = 0 then New w4 w5 else if k = 1 then New w1 w2 else if k = 2 then New w2 w3 else if k = 3 then New w3 w4 else if k = 4 then New w5 w6 else Non, rfl, rfl, rfl, rfl, rfl, fun k x hx => ?_, fun i j hij x hx hy => ?_⟩
    · have s0 := hC1.size
      have s1 := k12.size
      have s2 := k23.size
      have s3 := k34.size
      have s4 := k45.size
      have s5 := k56.size
      simp only at hx
      repeat' split at hx
      all_goals first
        | exact hx.elim
        | (have a := hx.1; have b := hx.2; omega)
    · have s1 := k12.size
      have s2 := k23.size
      have s3 := k34.size
      have s4 := k45.size
      have s5 := k56.size
      simp only at hx hy
      repeat' split at hx
      all_goals repeat' split at hy
      all_goals first
        | exact hx.elim
        | exact hy.elim
        | (have a := hx.1; have b := hx.2; have c := hy.1; have d := hy.2; omega)
  rw [← hR1] at hPall
  rw [← hR2] at hQall
  rw [← hR3] at hOall
  rw [← hR0] at hAall
  rw [← hR4] at B6
  clear hR0 hR1 hR2 hR3 hR4 P2 Q3 O4 A5 k12 k23 k34 k45 k56 e2 e3 e4 e5 e6
  generalize w1.heap.size = pb at hPall ⊢
  generalize w2.heap.size = qb at hQall ⊢
  generalize w3.heap.size = ob at hOall ⊢
  generalize (some (⟨w4.heap.size, 0, none⟩ : Addr)) = aA0 at hAall ⊢
  generalize (some (⟨w5.heap.size, 0, none⟩ : Addr)) = bA0 at B6 ⊢
  clear hC1 w1 w2 w3 w4 w5
  have hML : (xs.map m32).length = xs.length := by simp
  have hNL : (ys.map m32).length = ys.length := by simp
  have hMi : ∀ (j : Nat) (h : j < (xs.map m32).length) (h2 : j < xs.length), (xs.map m32)[j] = m32 xs[j] := fun j h h2 => by simp
  have hNi : ∀ (j : Nat) (h : j < (ys.map m32).length) (h2 : j < ys.length), (ys.map m32)[j] = m32 ys[j] := fun j h h2 => by simp
  have hMin : ∀ x ∈ xs.map m32, 0 ≤ x ∧ x < 4294967296 := fun x hx => by obtain ⟨y, _, rfl⟩ := List.mem_map.1 hx; exact m32_in y
  have hNin : ∀ x ∈ ys.map m32, 0 ≤ x ∧ x < 4294967296 := fun x hx => by obtain ⟨y, _, rfl⟩ := List.mem_map.1 hx; exact m32_in y
  have hno : ∀ {l : List Int}, (∀ x ∈ l, 0 ≤ x ∧ x < 4294967296) → l.any outN = false := fun {l} h => by
    rw [List.any_eq_false]; intro x hx; have := h x hx; unfold outN; simp; omega
  generalize xs.map m32 = M at hML hMi hMin
  generalize ys.map m32 = N at hNL hNi hNin
  refine ⟨fun aA j aC i k w => i = j ∧ j ≤ M.length ∧ k = M.length - j ∧ ∃ R, Dis W w R ∧ Ch Non W w ∧ Own w t_int 1 aA j aC ((M.take j).map (.int .i64)) (R 0) ∧ PenR w pb false [] (R 1) ∧ PenR w qb false (numsL (M.take j)) (R 2) ∧ PenR w ob false [] (R 3) ∧ Own w t_int 1 bA0 0 0 (([] : List Int).map (.int .i64)) (R 4), ⟨_, rfl, Nat.zero_le _, rfl, R, hDis, hC6, hAall, hPall, hQall, hOall, B6⟩, ?_⟩
  clear hDis hC6 hAall hPall hQall hOall B6
  clear R w6
  rintro jk aA j aC i k w7 ⟨rfl, hj, rfl, R, hD, hC, hA, hP, hQ, hO, hB⟩
  refine ⟨fun hlt => ?_, fun hge => ?_⟩
  · have hlt : j < M.length := by have := of_decide_eq_true hlt; omega
    have hltx : j < xs.length := by omega
    refine ⟨⟨by omega, by omega⟩, (hx.keepN hC).at (j := (j : Int).toNat * 1) (v := .int .i64 xs[j]) (by simp [hltx]) fun p hp => ⟨_, hp, fun w8 e8 => ?_⟩⟩
    rw [m32_wrap, ← hMi j hlt hltx] at e8
    obtain ⟨A9, C9, w9, hr9, hA9, hc9⟩ := Own.pushT el_S_int hA t_S_int _ e8 rfl (by unfold maxLen; omega) (by omega)
    rw [← take_snoc M j hlt] at hA9
    have hC9 := (hD.1 0).hi hC hc9
    have hD9 := hD.upd hC hc9.size 0
    have hP9 := hP.keep hc9 (fun i _ a b => hD.2 1 0 (by decide) i a b)
    have hQ9 := hQ.keep hc9 (fun i _ a b => hD.2 2 0 (by decide) i a b)
    have hO9 := hO.keep hc9 (fun i _ a b => hD.2 3 0 (by decide) i a b)
    have hB9 := hB.keep hc9 (fun i _ a b => hD.2 4 0 (by decide) i a b)
    refine ⟨A9, _, C9, w9, hr9, ⟨by omega, by omega⟩, (hx.keepN hC9).at (j := (j : Int).toNat * 1) (v := .int .i64 xs[j]) (by simp [hltx]) fun p hp => ⟨_, hp, fun w10 e10 => ?_⟩⟩
    rw [m32_wrap, ← hMi j hlt hltx] at e10
    have hc10 : Ch Non w9 w10 := Ch.alloc e10
    have hs10 : w9.heap.size < w10.heap.size := (Blk.new e10).lt
    have r10 : Rd w10 (some ⟨w9.heap.size, 0, none⟩) (([M[j]] : List Int).map (.int .i64)) (· = w9.heap.size) := (Blk.new e10).rd
    change Own w9 _ _ _ _ _ _ (updR R 0 w7 w9 0) at hA9
    have hP9 : PenR w9 pb false [] (updR R 0 w7 w9 1) := hP9
    have hQ9 : PenR w9 qb false (numsL (M.take j)) (updR R 0 w7 w9 2) := hQ9
    have hO9 : PenR w9 ob false [] (updR R 0 w7 w9 3) := hO9
    have hB9 : Own w9 t_int 1 bA0 0 0 (([] : List Int).map (.int .i64)) (updR R 0 w7 w9 4) := hB9
    generalize updR R 0 w7 w9 = R9 at hD9 hA9 hP9 hQ9 hO9 hB9
    have hnl : (numsL (M.take j)).length ≤ 200 := by rw [numsL_len]; simp; omega
    refine step_call (PenNum_spec (hQ9.keepN hc10) (fun i hi => by have := (hD9.1 2 i hi).2; omega) r10 (fun i hi => by subst hi; exact ⟨hs10, fun hx => absurd (hD9.1 2 _ hx).2 (Nat.lt_irrefl _)⟩) (by simp only [List.length_singleton]; omega) 1) ?_
    rintro v w11 ⟨rfl, hQ11, hc11⟩
    have y1 : [M[j]].any outN = false := hno (fun x hx => by rw [List.mem_singleton] at hx; subst hx; exact hMin _ (List.getElem_mem hlt))
    rw [y1, Bool.or_false, show numsL [M[j]] = numI M[j] by simp [numsL], ← numsL_snoc, ← take_snoc M j hlt] at hQ11
    have hD10 := hD9.le hc10.size
    have hC10 := hC9.andN hc10
    refine ⟨rfl, M.length - (j + 1), by omega, by rw [wrap_id (by omega) (by omega)]; rfl, hlt, rfl, updR R9 2 w10 w11, hD10.upd hC10 hc11.size 2, (hD10.1 2).hi hC10 hc11, ?_, ?_, hQ11, ?_, ?_⟩
    · exact (hA9.keepN hc10).keep hc11 (fun i _ a b => hD9.2 0 2 (by decide) i a b)
    · exact (hP9.keepN hc10).keep hc11 (fun i _ a b => hD9.2 1 2 (by decide) i a b)
    · exact (hO9.keepN hc10).keep hc11 (fun i _ a b => hD9.2 3 2 (by decide) i a b)
    · exact (hB9.keepN hc10).keep hc11 (fun i _ a b => hD9.2 4 2 (by decide) i a b)
  have hjl : j = M.length := by have := of_decide_eq_false hge; omega
  subst hjl
  rw [List.take_length] at hA hQ
  refine ⟨fun same bA j bC i k w => i = j ∧ j ≤ N.length ∧ k = N.length - j ∧ same = (decide (M.length = N.length) && decide (M.take j = N.take j)) ∧ ∃ R, Dis W w R ∧ Ch Non W w ∧ Own w t_int 1 aA M.length aC (M.map (.int .i64)) (R 0) ∧ PenR w pb false [] (R 1) ∧ PenR w qb false (numsL M) (R 2) ∧ PenR w ob false [] (R 3) ∧ Own w t_int 1 bA j bC ((N.take j).map (.int .i64)) (R 4), ⟨_, rfl, Nat.zero_le _, rfl, ?_, R, hD, hC, hA, hP, hQ, hO, hB⟩, ?_⟩
  · by_cases h : M.length = N.length
    · rw [decide_eq_true h]
      have : ((xs.length : Nat) : Int) = ((ys.length : Nat) : Int) := by omega
      simp [this]
    · rw [decide_eq_false h]
      have : ((xs.length : Nat) : Int) ≠ ((ys.length : Nat) : Int) := by omega
      simp [this]
  clear hA hP hQ hO hB hD hC hge hj
  clear R w7
  rintro jk same bA j bC i k w12 ⟨rfl, hj, rfl, rfl, R, hD, hC, hA, hP, hQ, hO, hB⟩
  refine ⟨fun hlt => ?_, fun hge => ?_⟩
  · have hlt : j < N.length := by have := of_decide_eq_true hlt; omega
    have hlty : j < ys.length := by omega
    refine ⟨⟨by omega, by omega⟩, (hy.keepN hC).at (j := (j : Int).toNat * 1) (v := .int .i64 ys[j]) (by simp [hlty]) fun p hp => ⟨_, hp, fun w13 e13 => ?_⟩⟩
    rw [m32_wrap, ← hNi j hlt hlty] at e13
    obtain ⟨B14, C14, w14, hr14, hB14, hc14⟩ := Own.pushT el_S_int hB t_S_int _ e13 rfl (by unfold maxLen; omega) (by omega)
    rw [← take_snoc N j hlt] at hB14
    have hC14 := (hD.1 4).hi hC hc14
    have hD14 := hD.upd hC hc14.size 4
    have hP14 := hP.keep hc14 (fun i _ a b => hD.2 1 4 (by decide) i a b)
    have hQ14 := hQ.keep hc14 (fun i _ a b => hD.2 2 4 (by decide) i a b)
    have hO14 := hO.keep hc14 (fun i _ a b => hD.2 3 4 (by decide) i a b)
    have hA14 := hA.keep hc14 (fun i _ a b => hD.2 0 4 (by decide) i a b)
    have hwj : IntKind.i64.wrap ((j : Int) + 1) = ((j + 1 : Nat) : Int) := by rw [wrap_id (by omega) (by omega)]; rfl
    refine ⟨B14, _, C14, w14, hr14, fun w' => Ch Non w14 w', fun w15 e15 => ?_⟩
    have hc15 : Ch Non w14 w15 := Ch.drew e15
    have nxt : ∀ same, same = (decide (M.length = N.length) && decide (M.take (j + 1) = N.take (j + 1))) → ∃ vk_4, vk_4 < N.length - j ∧ (fun same bA j bC i k w => i = ((j : Nat) : Int) ∧ j ≤ N.length ∧ k = N.length - j ∧ same = (decide (M.length = N.length) && decide (M.take j = N.take j)) ∧ ∃ R, Dis W w R ∧ Ch Non W w ∧ Own w t_int 1 aA M.length aC (M.map (.int .i64)) (R 0) ∧ PenR w pb false [] (R 1) ∧ PenR w qb false (numsL M) (R 2) ∧ PenR w ob false [] (R 3) ∧ Own w t_int 1 bA j bC ((N.take j).map (.int .i64)) (R 4)) same B14 (j + 1) C14 (IntKind.i64.wrap ((j : Int) + 1)) vk_4 w15 := fun same hs =>
      ⟨N.length - (j + 1), by omega, hwj, hlt, rfl, hs, updR R 4 w12 w14, (hD14.le hc15.size), hC14.andN hc15, hA14.keepN hc15, hP14.keepN hc15, hQ14.keepN hc15, hO14.keepN hc15, hB14.keepN hc15⟩
    refine ⟨hc15, fun hsm => ?_, fun hsm => nxt _ ?_⟩
    · have hsm2 : M.length = N.length ∧ M.take j = N.take j := by simpa using hsm
      have hltM : j < M.length := by omega
      have hidx : (if (IntKind.i64.wrap (((M.length : Nat) : Int) - 1)) < (j : Int) then (IntKind.i64.wrap (((M.length : Nat) : Int) - 1)) else (j : Int)) = (j : Int) := by
        rw [wrap_id (by omega) (by omega), if_neg (by omega)]
      rw [hidx]
      have hltB : j < (N.take (j + 1)).length := by simp; omega
      refine ⟨⟨by omega, by omega⟩, Rd.keeps (j := j) (S := fun w' => Ch Non w14 w') (fun w2 h2 => hA14.rd.keepN h2) hc15 hltM fun p3 hp3 => ⟨_, fun w' h => by rw [toNat_mul_one]; exact hp3 w' h, ⟨by omega, by omega⟩,
        Rd.keeps (j := j) (S := fun w' => Ch Non w14 w') (fun w2 h2 => hB14.rd.keepN h2) hc15 hltB fun p4 hp4 => ⟨_, fun w' h => by rw [toNat_mul_one]; exact hp4 w' h, nxt _ ?_⟩⟩⟩
      have hb : (N.take (j + 1))[j]'hltB = N[j] := by simp
      rw [hb, take_snoc M j hltM, take_snoc N j hlt, decide_eq_true hsm2.1, hsm2.2, Bool.true_and]
      by_cases h : M[j] = N[j]
      · rw [h]; simp
      · have h2 : ¬ (N.take j ++ [M[j]] = N.take j ++ [N[j]]) := fun h3 => by
          have := List.append_cancel_left h3
          injection this with this _
          exact h this
        rw [decide_eq_false h2]
        simpa using h
    · by_cases h : M.length = N.length
      · rw [decide_eq_true h, Bool.true_and] at hsm ⊢
        have hne : M.take j ≠ N.take j := of_decide_eq_false hsm
        rw [decide_eq_false]
        intro h2
        apply hne
        have := congrArg (List.take j) h2
        rw [List.take_take, List.take_take, Nat.min_eq_left (by omega)] at this
        exact this
      · rw [decide_eq_false h]; rfl
  have hjl : j = N.length := by have := of_decide_eq_false hge; omega
  subst hjl
  have hsame : (decide (M.length = N.length) && decide (M.take N.length = N.take N.length)) = decide (M = N) := by
    by_cases h : M = N
    · subst h; simp
    · rw [decide_eq_false h]
      by_cases hl : M.length = N.length
      · rw [decide_eq_true hl, Bool.true_and, ← hl, List.take_length, hl, List.take_length]
        exact decide_eq_false h
      · rw [decide_eq_false hl]; rfl
  rw [hsame]
  rw [List.take_length] at hB
  clear hsame hge hj
  have hnM : (numsL M).length ≤ 200 := by rw [numsL_len]; omega
  have hnN : (numsL N).length ≤ 200 := by rw [numsL_len]; omega
  -- p.Num(a...)
  refine step_call (PenNum_spec hP (fun i hi => (hD.1 1 i hi).2) hA.rd (fun i hi => ⟨(hD.1 0 i hi).2, hD.2 0 1 (by decide) i hi⟩) (by simp; omega) aC) ?_
  rintro v w18 ⟨rfl, hP18, hc18⟩
  rw [hno hMin, Bool.or_false, List.nil_append] at hP18
  have hC18 := (hD.1 1).hi hC hc18
  have hD18 := hD.upd hC hc18.size 1
  have hA18 : Own w18 t_int 1 aA M.length aC (M.map (.int .i64)) (updR R 1 w12 w18 0) := hA.keep hc18 (fun i _ a b => hD.2 0 1 (by decide) i a b)
  have hQ18 : PenR w18 qb false (numsL M) (updR R 1 w12 w18 2) := hQ.keep hc18 (fun i _ a b => hD.2 2 1 (by decide) i a b)
  have hO18 : PenR w18 ob false [] (updR R 1 w12 w18 3) := hO.keep hc18 (fun i _ a b => hD.2 3 1 (by decide) i a b)
  have hB18 : Own w18 t_int 1 bA N.length bC (N.map (.int .i64)) (updR R 1 w12 w18 4) := hB.keep hc18 (fun i _ a b => hD.2 4 1 (by decide) i a b)
  change PenR w18 pb false (numsL M) (updR R 1 w12 w18 1) at hP18
  generalize updR R 1 w12 w18 = R18 at hD18 hA18 hQ18 hO18 hB18 hP18
  clear hA hB hP hQ hO hD hC hc18
  refine ⟨rfl, ?_⟩
  -- o.Num(b...)
  refine step_call (PenNum_spec hO18 (fun i hi => (hD18.1 3 i hi).2) hB18.rd (fun i hi => ⟨(hD18.1 4 i hi).2, hD18.2 4 3 (by decide) i hi⟩) (by simp; omega) bC) ?_
  rintro v w19 ⟨rfl, hO19, hc19⟩
  rw [hno hNin, Bool.or_false, List.nil_append] at hO19
  have hC19 := (hD18.1 3).hi hC18 hc19
  have hD19 := hD18.upd hC18 hc19.size 3
  have hA19 : Own w19 t_int 1 aA M.length aC (M.map (.int .i64)) (updR R18 3 w18 w19 0) := hA18.keep hc19 (fun i _ a b => hD18.2 0 3 (by decide) i a b)
  have hQ19 : PenR w19 qb false (numsL M) (updR R18 3 w18 w19 2) := hQ18.keep hc19 (fun i _ a b => hD18.2 2 3 (by decide) i a b)
  have hP19 : PenR w19 pb false (numsL M) (updR R18 3 w18 w19 1) := hP18.keep hc19 (fun i _ a b => hD18.2 1 3 (by decide) i a b)
  change PenR w19 ob false (numsL N) (updR R18 3 w18 w19 3) at hO19
  generalize updR R18 3 w18 w19 = R at hD19 hA19 hQ19 hP19 hO19
  clear hA18 hB18 hP18 hQ18 hO18 hD18 hC18 hc19
  refine ⟨rfl, ?_⟩
  have hcat : ∀ {w' w'' : World} {k : Nat}, Ch Non W w' → Ch (R k) w' w'' → (∀ i, R k i → W.heap.size ≤ i) → Ch Non W w'' := by
    intro w' w'' k hC hc hR
    exact hC.trans hc (fun i hi hx => absurd hi (Nat.not_lt.2 (hR i hx)))
  have hRW : ∀ k i, R k i → W.heap.size ≤ i := fun k i h => (hD19.1 k i h).1
  refine step_call (PenBytes_spec hP19 (by omega)) ?_
  rintro v w20 ⟨rfl, hP20, hc20⟩
  have hC20 := hcat hC19 hc20 (hRW 1)
  have hA20 := hA19.keep hc20 (fun i _ a b => hD19.2 0 1 (by decide) i a b)
  have hQ20 := hQ19.keep hc20 (fun i _ a b => hD19.2 2 1 (by decide) i a b)
  have hO20 := hO19.keep hc20 (fun i _ a b => hD19.2 3 1 (by decide) i a b)
  refine ⟨_, rfl, ?_⟩
  refine step_call (PenBytes_spec hQ20 (by omega)) ?_
  rintro v w21 ⟨rfl, hQ21, hc21⟩
  have hC21 := hcat hC20 hc21 (hRW 2)
  have hA21 := hA20.keep hc21 (fun i _ a b => hD19.2 0 2 (by decide) i a b)
  have hP21 := hP20.keep hc21 (fun i _ a b => hD19.2 1 2 (by decide) i a b)
  have hO21 := hO20.keep hc21 (fun i _ a b => hD19.2 3 2 (by decide) i a b)
  refine ⟨_, rfl, iteF (by simp) ?_⟩
  refine step_call (Bad_spec hP21) ?_
  rintro v w22 ⟨rfl, rfl⟩
  refine ⟨_, rfl, iteF rfl ?_⟩
  refine step_call (PenBytes_spec hP21 (by omega)) ?_
  rintro v w23 ⟨rfl, hP23, hc23⟩
  have hC23 := hcat hC21 hc23 (hRW 1)
  have hA23 := hA21.keep hc23 (fun i _ a b => hD19.2 0 1 (by decide) i a b)
  have hO23 := hO21.keep hc23 (fun i _ a b => hD19.2 3 1 (by decide) i a b)
  refine ⟨_, rfl, ?_⟩
  refine step_call (PenBytes_spec hO23 (by omega)) ?_
  rintro v w24 ⟨rfl, hO24, hc24⟩
  have hC24 := hcat hC23 hc24 (hRW 3)
  have hA24 := hA23.keep hc24 (fun i _ a b => hD19.2 0 3 (by decide) i a b)
  have hP24 := hP23.keep hc24 (fun i _ a b => hD19.2 1 3 (by decide) i a b)
  have hs24 : w19.heap.size ≤ w24.heap.size := by have := hc20.size; have := hc21.size; have := hc23.size; have := hc24.size; omega
  have hD24 := hD19.le hs24
  clear hA19 hA20 hA21 hA23 hQ19 hQ20 hQ21 hO19 hO20 hO21 hO23 hO24 hP19 hP20 hP21 hP23 hc20 hc21 hc23 hc24 hC19 hC20 hC21 hC23 hD19 hcat hRW hs24
  have hbq : ((str (numsL M)).toList == (str (numsL N)).toList) = decide (M = N) := by
    rw [str_beq]
    by_cases h : M = N
    · subst h; simp
    · rw [decide_eq_false h, decide_eq_false (fun h2 => h (numsL_inj hMin hNin h2))]
  change ∃ x126, Value.string (str (numsL N)) = Value.string x126 ∧ _
  refine ⟨_, rfl, iteF (by rw [show (({ data := (numsL M).toArray } : ByteArray).toList == (str (numsL N)).toList) = decide (M = N) from hbq]; simp) ?_⟩
  refine ⟨fun i k w' => w' = w24 ∧ ∃ j : Nat, i = j ∧ j ≤ ts.length ∧ k = ts.length - j ∧ ∀ s ∈ ts.take j, s.size ≤ 200, ⟨_, rfl, 0, rfl, Nat.zero_le _, rfl, fun s hs => by simp at hs⟩, ?_⟩
  rintro jk i k w25 ⟨rfl, j, rfl, hj, rfl, hall⟩
  refine ⟨fun hlt => ?_, fun hge => ?_⟩
  · have hlt : j < ts.length := by have := of_decide_eq_true hlt; omega
    refine ⟨⟨by omega, by omega⟩, (ht.keepN hC24).at (j := (j : Int).toNat * 1) (v := .string ts[j]) (by simp [hlt]) fun p hp => ⟨_, hp, fun _ => ⟨rfl, hC24⟩, fun h200 => ?_⟩⟩
    have h200 := of_decide_eq_false h200
    refine ⟨ts.length - (j + 1), by omega, rfl, j + 1, by rw [wrap_id (by omega) (by omega)]; rfl, hlt, rfl, fun s hs => ?_⟩
    rw [take_snoc ts j hlt, List.mem_append, List.mem_singleton] at hs
    rcases hs with hs | rfl
    · exact hall s hs
    · omega
  have hjl : j = ts.length := by have := of_decide_eq_false hge; omega
  subst hjl
  rw [List.take_length] at hall
  clear hge hj
  have htl : ∀ {l : List ByteArray}, (∀ s ∈ l, s.size ≤ 200) → (textsL l).length ≤ 204 * l.length := fun {l} => by
    induction l with
    | nil => intro _; simp [textsL]
    | cons s r ih =>
      intro h
      have h1 := ih (fun x hx => h x (by simp [hx]))
      have h2 := h s (by simp)
      rw [textsL_cons, List.length_append, List.length_cons]
      have : (textB s).length = 4 + s.size := by simp [textB, numI_len]
      omega
  have htlen := htl hall
  have hGW : ∀ i, (fun i => i < W.heap.size) i → i < w25.heap.size ∧ ¬ R 1 i := fun i hi => ⟨Nat.lt_of_lt_of_le hi hC24.size, fun h => absurd hi (Nat.not_lt.2 (hD24.1 1 i h).1)⟩
  have hrt : Rd w25 o2 (ts.map .string) (fun i => i < W.heap.size) := (ht.mono (fun i hi _ => hi)).keepN hC24
  refine step_call (PenText_spec hP24 (fun i hi => (hD24.1 1 i hi).2) hrt hGW (by omega) (fun s hs => by have := hall s hs; omega) (by omega) c2) ?_
  rintro v w26 ⟨rfl, hP26, hc26⟩
  have hC26 := (hD24.1 1).hi hC24 hc26
  have hA26 := hA24.keep hc26 (fun i _ a b => hD24.2 0 1 (by decide) i a b)
  have hFP : Foot W w26 (Ext (R 1) w25 w26) := (hD24.1 1).ext hC24 hc26.size
  have hAP : Apart (R 0) (Ext (R 1) w25 w26) := (hD24.2 0 1 (by decide)).extR (hD24.1 0)
  have hFA : Foot W w26 (R 0) := (hD24.1 0).le hc26.size
  refine ⟨rfl, ?_⟩
  refine step_call (PenBytes_spec hP26 (by rw [List.length_append]; omega)) ?_
  rintro v w27 ⟨rfl, hP27, hc27⟩
  have hC27 := hFP.hi hC26 hc27
  have hA27 := hA26.keep hc27 (fun i _ a b => hAP i a b)
  have hFA := hFA.le hc27.size
  generalize R 0 = F at hA27 hFA
  refine ⟨_, rfl, ?_⟩
  refine step_call (Of_spec w27 (numsL M ++ textsL ts)) ?_
  rintro v w28 ⟨e, rfl, he, hE, hc28⟩
  have hC28 := hC27.andN hc28
  have hA28 := hA27.keepN hc28
  have heF : ¬ F e := fun h => by have := (hFA _ h).2; omega
  have heW : W.heap.size ≤ e := by have := hC27.size; omega
  have eye : ∀ {a b : World}, Ch Non W a → Ch (· = e) a b → Ch Non W b := fun h k => h.trans k (fun i hi hx => by omega)
  clear hP27 hc27 hC27 hA27 hFA hAP hFP hP26 hA26 hC26 hc26 hP24 hA24 hC24 hD24 hGW hrt hc28 he
  refine ⟨_, rfl, fun i k w' => ∃ j : Nat, i = j ∧ j ≤ M.length ∧ k = M.length - j ∧ EyeR w' e (numsL (M.drop j) ++ textsL ts, false) ∧ Ch (· = e) w28 w', ⟨_, 0, rfl, Nat.zero_le _, rfl, hE, Ch.refl _ _⟩, ?_⟩
  rintro jk i k w29 ⟨j, rfl, hj, rfl, hE, hc⟩
  refine ⟨fun hlt => ?_, fun hge => ?_⟩
  · have hlt : j < M.length := by have := of_decide_eq_true hlt; omega
    rw [List.drop_eq_getElem_cons hlt, numsL_cons, List.append_assoc] at hE
    have hin := hMin _ (List.getElem_mem hlt)
    obtain ⟨z1, z2⟩ := numE_num hin (numsL (M.drop (j + 1)) ++ textsL ts) (most := 4294967296) (by omega)
    refine ⟨fun w' => Ch (· = e) w28 w', fun w30 e30 => ?_⟩
    have hc30 : Ch Non w29 w30 := Ch.drew e30
    refine ⟨hc.andN hc30, ⟨by omega, by omega⟩, Rd.keeps (j := j) (S := fun w' => Ch (· = e) w28 w') (fun w2 h2 => hA28.rd.keep h2 (fun i _ hF hx => heF (hx ▸ hF))) (hc.andN hc30) hlt fun p hp => ⟨_, fun w' h => by rw [toNat_mul_one]; exact hp w' h, ?_⟩⟩
    refine step_call (EyeNum_spec (Blk.keepN hE hc30) 4294967296) ?_
    rintro v w32 ⟨rfl, hE32, hc32⟩
    rw [z2] at hE32
    have hc32 := (hc.andN hc30).same hc32
    rw [z1]
    exact ⟨_, rfl, hc32, iteF (by simp) ⟨M.length - (j + 1), by omega, j + 1, by rw [wrap_id (by omega) (by omega)]; rfl, hlt, rfl, hE32, hc32⟩⟩
  have hjl : j = M.length := by have := of_decide_eq_false hge; omega
  subst hjl
  rw [List.drop_length, show numsL [] = [] from rfl, List.nil_append] at hE
  have hC29 := eye hC28 hc
  clear hge hj hA28
  refine ⟨fun i k w' => ∃ j : Nat, i = j ∧ j ≤ ts.length ∧ k = ts.length - j ∧ EyeR w' e (textsL (ts.drop j), false) ∧ Ch (· = e) w29 w', ⟨_, 0, rfl, Nat.zero_le _, rfl, hE, Ch.refl _ _⟩, ?_⟩
  rintro jk i k w33 ⟨j, rfl, hj, rfl, hE, hc⟩
  have ht29 : ∀ {w'}, Ch (· = e) w29 w' → Rd w' o2 (ts.map .string) (fun _ => True) := fun h => ht.keepN (eye hC29 h)
  refine ⟨fun hlt => ?_, fun hge => ?_⟩
  · have hlt : j < ts.length := by have := of_decide_eq_true hlt; omega
    rw [List.drop_eq_getElem_cons hlt, textsL_cons] at hE
    have h200 := hall _ (List.getElem_mem hlt)
    have z := textE_text ts[j] (by omega) (textsL (ts.drop (j + 1)))
    refine ⟨fun w' => Ch (· = e) w29 w', fun w34 e34 => ?_⟩
    have hc34 : Ch Non w33 w34 := Ch.drew e34
    refine ⟨hc.andN hc34, ⟨by omega, by omega⟩, Rd.keeps (j := j) (S := fun w' => Ch (· = e) w29 w') (fun w2 h2 => ht29 h2) (hc.andN hc34) hlt fun p hp => ⟨_, fun w' h => by rw [toNat_mul_one]; exact hp w' h, ⟨by omega, by omega⟩,
      Rd.keeps (j := j) (S := fun w' => Ch (· = e) w29 w') (fun w2 h2 => ht29 h2) (hc.andN hc34) hlt fun p hp => ⟨_, fun w' h => by rw [toNat_mul_one]; exact hp w' h, ?_⟩⟩⟩
    refine step_call (EyeText_spec (Blk.keepN hE hc34) _) ?_
    rintro v w37 ⟨rfl, hE37, hc37⟩
    rw [z] at hE37 ⊢
    have hc37 := (hc.andN hc34).same hc37
    refine ⟨_, rfl, hc37, iteF ?_ ⟨ts.length - (j + 1), by omega, j + 1, by rw [wrap_id (by omega) (by omega)]; rfl, hlt, rfl, hE37, hc37⟩⟩
    rw [str_of]; simp
  have hjl : j = ts.length := by have := of_decide_eq_false hge; omega
  subst hjl
  rw [List.drop_length] at hE
  have hC33 := eye hC29 hc
  refine step_call (End_spec hE) ?_
  rintro v w38 ⟨rfl, rfl⟩
  refine ⟨_, rfl, iteT rfl ?_⟩
  refine step_call (Left_spec hE) ?_
  rintro v w39 ⟨rfl, rfl⟩
  exact ⟨_, rfl, rfl, hC33⟩
end Go.Proofs.Ytfecfdhigkehgaa.Pen
