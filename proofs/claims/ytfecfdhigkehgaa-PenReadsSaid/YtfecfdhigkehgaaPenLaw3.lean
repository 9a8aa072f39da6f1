/- PenReads's contract: of all bytes and every row of deeds the Go function answers true and leaves what was there; the conditions stand in each theorem. -/
import Derived.Test.YtfecfdhigkehgaaPenLaw2
set_option linter.unusedVariables false
set_option linter.unusedSimpArgs false
set_option maxRecDepth 100000
namespace Go.Proofs.Ytfecfdhigkehgaa.Pen
open Go Go.Proofs Go.Proofs.Ytfecfdhigkehgaa.V Go.Proofs.Ytfecfdhigkehgaa.Vc Go.RowKit

theorem fill_step (t : List UInt8) {q n : Nat} (hq : q < t.length) (hn : t.length ≤ n) : ((t.take q ++ List.replicate (n - q) 0).map u8v).set q (u8v t[q]) = (t.take (q + 1) ++ List.replicate (n - (q + 1)) 0).map u8v := by
  rw [← List.map_set]
  congr 1
  rw [List.set_append_right _ _ (by simp; omega), take_snoc t q hq]
  have : n - q = (n - (q + 1)) + 1 := by omega
  rw [this, List.replicate_succ]
  simp only [List.length_take, Nat.min_eq_left (Nat.le_of_lt hq), Nat.sub_self, List.set_cons_zero, List.append_assoc, List.singleton_append]
theorem bt_str (t : List UInt8) {q : Nat} (hq : q < t.length) : bt (str t) (q : Int) = (t[q].toNat : Int) := by
  simp [bt, str, Array.getD_eq_getD_getElem?, List.getElem?_eq_getElem hq]
theorem PenReads_true (W : World) (s : ByteArray) (_ : s.size ≤ 140737488351232) (o1 : Option Addr) (n1 c1 : Nat) (h1 : DatC Try.prog W t_S_coadjutorlaw03_Act [.slice o1 n1 c1]) :
    Calls Try.prog i_coadjutorlaw03_PenReads #[.string s, .slice o1 n1 c1] W (Ret fun v w' => v = .bool true ∧ Ch Non W w') := by
  obtain ⟨o1', c1', av, hcs1, _, _, hm1, _, ha⟩ := h1.sliceOf (e := t_coadjutorlaw03_Act) (enc := actE) (Q := fun _ => True) (by kernel_rfl) (fun x hl hd => act_dat hl hd)
  injection hcs1 with hcs1
  injection hcs1 with q1 q2 q3
  subst q1; subst q2; subst q3
  refine coadjutorlaw03_PenReads.calls _ _ _ _ ?_
  unfold coadjutorlaw03_PenReads.vc
  refine step_call (awake_spec W) ?_
  rintro v w1 ⟨rfl, hC1⟩
  refine ⟨_, rfl, iteF rfl ⟨fun _ => ⟨rfl, hC1⟩, fun hs => ?_⟩⟩
  have sp := Of_spec w1 s.data.toList
  rw [str_of] at sp
  refine step_call sp ?_
  rintro v w2 ⟨eb, rfl, heb, hE2, hc2⟩
  have hC2 := hC1.andN hc2
  refine ⟨_, rfl, fun w3 e3 => ?_⟩
  have hU3 : EyeF w3 w2.heap.size (s.data.toList, false) := by
    have := Blk.new e3
    unfold EyeF
    rw [str_of]; exact this
  have hE3 : EyeR w3 eb (s.data.toList, false) := Blk.alloc hE2 e3
  have hC3 := hC2.andN (Ch.alloc e3)
  have hWe : W.heap.size ≤ eb := by have := hC1.size; omega
  have heu : eb < w2.heap.size := Blk.lt hE2
  clear e3 hE2 heb hc2 hC2 hC1
  generalize w2.heap.size = ub at hU3 heu ⊢
  have eye : ∀ {a b : World}, Ch Non W a → Ch (· = eb) a b → Ch Non W b := fun h k => h.trans k (fun i hi hx => by omega)
  have eyf : ∀ {a b : World}, Ch Non W a → Ch (· = ub) a b → Ch Non W b := fun h k => h.trans k (fun i hi hx => by omega)
  generalize (s.data.toList, false) = st0 at hU3 hE3
  refine ⟨fun w' => Ch Non W w', ⟨fun i k w' => ∃ (j : Nat) (st : St), i = j ∧ j ≤ av.length ∧ k = av.length - j ∧ EyeR w' eb st ∧ EyeF w' ub st ∧ Ch Non W w', ⟨_, 0, st0, rfl, Nat.zero_le _, rfl, hE3, hU3, hC3⟩, ?_⟩, ?_⟩
  · clear hE3 hU3 hC3
    rintro jk i k w3 ⟨j, st, rfl, hj, rfl, hE, hU, hC⟩
    refine ⟨fun hlt => ⟨fun h40 => ?_, fun _ => hC⟩, fun hge => hC⟩
    have hlt : j < av.length := by have := of_decide_eq_true hlt; omega
    obtain ⟨p, hp, _, _, hcell⟩ := (ha.keepN hC).elem (sz := 37) actE_len (by omega) hlt
    generalize av[j] = x at hcell
    obtain ⟨d0, d1, d2, d3, d4, d5, d6, d7, d8, d9, d10, d11, d12, d13, d14, d15, d16, d17, d18, d19, d20, d21, d22, d23, d24, d25, d26, d27, d28, d29, d30, d31, hd⟩ := dig32 x.d.2
    have hde : actE x = [.int .i64 x.k, .int .i64 x.n, .int .i64 x.m, .string x.s, u8v x.b, u8v d0, u8v d1, u8v d2, u8v d3, u8v d4, u8v d5, u8v d6, u8v d7, u8v d8, u8v d9, u8v d10, u8v d11, u8v d12, u8v d13, u8v d14, u8v d15, u8v d16, u8v d17, u8v d18, u8v d19, u8v d20, u8v d21, u8v d22, u8v d23, u8v d24, u8v d25, u8v d26, u8v d27, u8v d28, u8v d29, u8v d30, u8v d31] := by unfold actE digE; rw [hd]; rfl
    rw [hde] at hcell
    rw [← Int.toNat_natCast j] at hcell
    have h0 := hcell 0 _ rfl
    rw [add_none] at h0
    subst hp
    refine ⟨⟨by omega, by omega⟩, ?_⟩
    show ∃ _, _
    refine ⟨_, _, _, _, _, _, _, _, _, _, _, _, _, _, _, _, _, _, _, _, _, _, _, _, _, _, _, _, _, _, _, _, _, _, _, _, _, ⟨h0, hcell 1 _ rfl, hcell 2 _ rfl, hcell 3 _ rfl, hcell 4 _ rfl, hcell 5 _ rfl, hcell 6 _ rfl, hcell 7 _ rfl, hcell 8 _ rfl, hcell 9 _ rfl, hcell 10 _ rfl, hcell 11 _ rfl, hcell 12 _ rfl, hcell 13 _ rfl, hcell 14 _ rfl, hcell 15 _ rfl, hcell 16 _ rfl, hcell 17 _ rfl, hcell 18 _ rfl, hcell 19 _ rfl, hcell 20 _ rfl, hcell 21 _ rfl, hcell 22 _ rfl, hcell 23 _ rfl, hcell 24 _ rfl, hcell 25 _ rfl, hcell 26 _ rfl, hcell 27 _ rfl, hcell 28 _ rfl, hcell 29 _ rfl, hcell 30 _ rfl, hcell 31 _ rfl, hcell 32 _ rfl, hcell 33 _ rfl, hcell 34 _ rfl, hcell 35 _ rfl, hcell 36 _ rfl⟩, fun w4 e4 => ?_⟩
    have hX4 := Blk.new e4
    refine ⟨⟨hX4.ok 0 rfl, hX4.ok 1 rfl, hX4.ok 2 rfl, hX4.ok 3 rfl, hX4.ok 4 rfl, hX4.ok 5 rfl, hX4.ok 6 rfl, hX4.ok 7 rfl, hX4.ok 8 rfl, hX4.ok 9 rfl, hX4.ok 10 rfl, hX4.ok 11 rfl, hX4.ok 12 rfl, hX4.ok 13 rfl, hX4.ok 14 rfl, hX4.ok 15 rfl, hX4.ok 16 rfl, hX4.ok 17 rfl, hX4.ok 18 rfl, hX4.ok 19 rfl, hX4.ok 20 rfl, hX4.ok 21 rfl, hX4.ok 22 rfl, hX4.ok 23 rfl, hX4.ok 24 rfl, hX4.ok 25 rfl, hX4.ok 26 rfl, hX4.ok 27 rfl, hX4.ok 28 rfl, hX4.ok 29 rfl, hX4.ok 30 rfl, hX4.ok 31 rfl, hX4.ok 32 rfl, hX4.ok 33 rfl, hX4.ok 34 rfl, hX4.ok 35 rfl, hX4.ok 36 rfl⟩, fun w5 e5 => ?_⟩
    have e6 : w5 = w4.setCells w3.heap.size 0 [.int .i64 x.k, .int .i64 x.n, .int .i64 x.m, .string x.s, u8v x.b, u8v d0, u8v d1, u8v d2, u8v d3, u8v d4, u8v d5, u8v d6, u8v d7, u8v d8, u8v d9, u8v d10, u8v d11, u8v d12, u8v d13, u8v d14, u8v d15, u8v d16, u8v d17, u8v d18, u8v d19, u8v d20, u8v d21, u8v d22, u8v d23, u8v d24, u8v d25, u8v d26, u8v d27, u8v d28, u8v d29, u8v d30, u8v d31] := e5
    have hX5 := hX4.all [.int .i64 x.k, .int .i64 x.n, .int .i64 x.m, .string x.s, u8v x.b, u8v d0, u8v d1, u8v d2, u8v d3, u8v d4, u8v d5, u8v d6, u8v d7, u8v d8, u8v d9, u8v d10, u8v d11, u8v d12, u8v d13, u8v d14, u8v d15, u8v d16, u8v d17, u8v d18, u8v d19, u8v d20, u8v d21, u8v d22, u8v d23, u8v d24, u8v d25, u8v d26, u8v d27, u8v d28, u8v d29, u8v d30, u8v d31] rfl e6
    have hc35 : Ch Non w3 w5 := (Ch.alloc (F := Non) e4).trans (Ch.sets (F := (· = w3.heap.size)) e6 rfl) (fun i hi he => by omega)
    clear e4 e5 e6 hX4 hcell h0 hde hd
    have hux : ub < w3.heap.size := Blk.lt hU
    have hX5 : Blk w5 w3.heap.size [.int .i64 x.k, .int .i64 x.n, .int .i64 x.m, .string x.s, u8v x.b, u8v d0, u8v d1, u8v d2, u8v d3, u8v d4, u8v d5, u8v d6, u8v d7, u8v d8, u8v d9, u8v d10, u8v d11, u8v d12, u8v d13, u8v d14, u8v d15, u8v d16, u8v d17, u8v d18, u8v d19, u8v d20, u8v d21, u8v d22, u8v d23, u8v d24, u8v d25, u8v d26, u8v d27, u8v d28, u8v d29, u8v d30, u8v d31] 61 := hX5
    generalize w3.heap.size = xb at hX5 hux ⊢
    have hE5 : EyeR w5 eb st := Blk.keepN hE hc35
    have hU5 : EyeF w5 ub st := Blk.keepN hU hc35
    have hC5 := hC.andN hc35
    clear hE hU hC hc35
    refine ⟨fun w' => ∃ st' : St, EyeR w' eb st' ∧ EyeF w' ub st' ∧ Ch Non W w', ⟨_, hX5.cell 0 rfl, fun hk => ?_, fun hk => ⟨fun hk2 => ?_, fun hk2 => ⟨fun hk3 => ?_, fun hk3 => ?_⟩⟩⟩, ?_⟩
    · refine step_call (RefTake_spec hU5 1) ?_
      rintro v w6 ⟨rfl, hU6, hc6⟩
      have hE6 : EyeR w6 eb st := Blk.keep hE5 hc6 (by omega)
      have hC6 := eyf hC5 hc6
      have hbyte : byteE st = ((((takeE st 1).1.getD []).head?).getD 0, (takeE st 1).2) := rfl
      have htl : ((takeE st 1).1.getD []).length ≤ 1 := by
        unfold takeE; split
        · simp
        · simp; omega
      generalize (takeE st 1).1.getD [] = t at hbyte htl ⊢
      refine ⟨_, rfl, fun he => ?_, fun he => ?_⟩
      · have ht : t = [] := by
          have := str_beq t []
          have h2 : (str t).toList == (str []).toList := he
          rw [this] at h2
          exact of_decide_eq_true h2
        subst ht
        refine ⟨fun _ => True, fun w7 e7 => ⟨trivial, by decide, ?_⟩⟩
        have hE7 : EyeR w7 eb st := Blk.drew hE6 e7
        have hU7 : EyeF w7 ub _ := Blk.drew hU6 e7
        refine step_call (EyeByte_spec hE7) ?_
        rintro v w8 ⟨rfl, hE8, hc8⟩
        rw [hbyte] at hE8 ⊢
        exact ⟨_, rfl, trivial, iteF (by simp [bt]) ⟨_, hE8, Blk.keep hU7 hc8 (by omega), eye (hC6.andN (Ch.drew e7)) hc8⟩⟩
      · match t, htl with
        | [], _ => exact absurd he (by simp [str])
        | [b], _ =>
          refine ⟨fun _ => True, fun w7 e7 => ⟨trivial, ⟨by omega, by rw [str_size]; simp⟩, ?_⟩⟩
          have hE7 : EyeR w7 eb st := Blk.drew hE6 e7
          have hU7 : EyeF w7 ub _ := Blk.drew hU6 e7
          refine step_call (EyeByte_spec hE7) ?_
          rintro v w8 ⟨rfl, hE8, hc8⟩
          rw [hbyte] at hE8 ⊢
          have hbt : bt (str [b]) 0 = b.toNat := by simp [bt, str]
          refine ⟨_, rfl, trivial, iteF ?_ ⟨_, hE8, Blk.keep hU7 hc8 (by omega), eye (hC6.andN (Ch.drew e7)) hc8⟩⟩
          rw [hbt]; simp
    · refine ⟨fun w' => Blk w' xb [.int .i64 x.k, .int .i64 x.n, .int .i64 x.m, .string x.s, u8v x.b, u8v d0, u8v d1, u8v d2, u8v d3, u8v d4, u8v d5, u8v d6, u8v d7, u8v d8, u8v d9, u8v d10, u8v d11, u8v d12, u8v d13, u8v d14, u8v d15, u8v d16, u8v d17, u8v d18, u8v d19, u8v d20, u8v d21, u8v d22, u8v d23, u8v d24, u8v d25, u8v d26, u8v d27, u8v d28, u8v d29, u8v d30, u8v d31] 61, fun w6 e6 => ⟨hX5.drew e6, _, fun w' h => h.cell 1 rfl, _, fun w' h => h.cell 1 rfl, ?_⟩⟩
      have hE6 : EyeR w6 eb st := Blk.drew hE5 e6
      have hU6 : EyeF w6 ub st := Blk.drew hU5 e6
      have hX6 := hX5.drew e6
      refine step_call (EyeNum_spec hE6 _) ?_
      rintro v w7 ⟨rfl, hE7, hc7⟩
      have hX7 := hX6.keep hc7 (by omega)
      have hU7 : EyeF w7 ub st := Blk.keep hU6 hc7 (by omega)
      refine ⟨_, rfl, hX7, ?_⟩
      refine step_call (RefEyeNum_spec hU7 _) ?_
      rintro v w8 ⟨rfl, hU8, hc8⟩
      have hX8 := hX7.keep hc8 (by omega)
      have hE8 : EyeR w8 eb _ := Blk.keep hE7 hc8 (by omega)
      exact ⟨_, rfl, hX8, iteF (by simp) ⟨_, hE8, hU8, eyf (eye (hC5.andN (Ch.drew e6)) hc7) hc8⟩⟩
    · refine ⟨fun w' => Blk w' xb [.int .i64 x.k, .int .i64 x.n, .int .i64 x.m, .string x.s, u8v x.b, u8v d0, u8v d1, u8v d2, u8v d3, u8v d4, u8v d5, u8v d6, u8v d7, u8v d8, u8v d9, u8v d10, u8v d11, u8v d12, u8v d13, u8v d14, u8v d15, u8v d16, u8v d17, u8v d18, u8v d19, u8v d20, u8v d21, u8v d22, u8v d23, u8v d24, u8v d25, u8v d26, u8v d27, u8v d28, u8v d29, u8v d30, u8v d31] 61, fun w6 e6 => ⟨hX5.drew e6, _, fun w' h => h.cell 1 rfl, _, fun w' h => h.cell 1 rfl, ?_⟩⟩
      have hE6 : EyeR w6 eb st := Blk.drew hE5 e6
      have hU6 : EyeF w6 ub st := Blk.drew hU5 e6
      have hX6 := hX5.drew e6
      refine step_call (EyeText_spec hE6 _) ?_
      rintro v w7 ⟨rfl, hE7, hc7⟩
      have hX7 := hX6.keep hc7 (by omega)
      have hU7 : EyeF w7 ub st := Blk.keep hU6 hc7 (by omega)
      refine ⟨_, rfl, hX7, ?_⟩
      refine step_call (RefEyeText_spec hU7 _) ?_
      rintro v w8 ⟨rfl, hU8, hc8⟩
      have hX8 := hX7.keep hc8 (by omega)
      have hE8 : EyeR w8 eb _ := Blk.keep hE7 hc8 (by omega)
      exact ⟨_, rfl, hX8, iteF (by simp) ⟨_, hE8, hU8, eyf (eye (hC5.andN (Ch.drew e6)) hc7) hc8⟩⟩
    · intro w6 e6
      have hD6 := Blk.new e6
      have hE6 : EyeR w6 eb st := Blk.alloc hE5 e6
      have hU6 : EyeF w6 ub st := Blk.alloc hU5 e6
      have hC6 := hC5.andN (Ch.alloc e6)
      have hud : ub < w5.heap.size := Blk.lt hU5
      have hWd : W.heap.size ≤ w5.heap.size := hC5.size
      clear e6
      generalize w5.heap.size = db at hD6 hud hWd ⊢
      have hD7 := hD6
      refine ⟨⟨hD7.ok 0 rfl, hD7.ok 1 rfl, hD7.ok 2 rfl, hD7.ok 3 rfl, hD7.ok 4 rfl, hD7.ok 5 rfl, hD7.ok 6 rfl, hD7.ok 7 rfl, hD7.ok 8 rfl, hD7.ok 9 rfl, hD7.ok 10 rfl, hD7.ok 11 rfl, hD7.ok 12 rfl, hD7.ok 13 rfl, hD7.ok 14 rfl, hD7.ok 15 rfl, hD7.ok 16 rfl, hD7.ok 17 rfl, hD7.ok 18 rfl, hD7.ok 19 rfl, hD7.ok 20 rfl, hD7.ok 21 rfl, hD7.ok 22 rfl, hD7.ok 23 rfl, hD7.ok 24 rfl, hD7.ok 25 rfl, hD7.ok 26 rfl, hD7.ok 27 rfl, hD7.ok 28 rfl, hD7.ok 29 rfl, hD7.ok 30 rfl, hD7.ok 31 rfl⟩, fun w7 e7 => ?_⟩
      have e8 : w7 = w6.setCells db 0 [.int .u8 0, .int .u8 0, .int .u8 0, .int .u8 0, .int .u8 0, .int .u8 0, .int .u8 0, .int .u8 0, .int .u8 0, .int .u8 0, .int .u8 0, .int .u8 0, .int .u8 0, .int .u8 0, .int .u8 0, .int .u8 0, .int .u8 0, .int .u8 0, .int .u8 0, .int .u8 0, .int .u8 0, .int .u8 0, .int .u8 0, .int .u8 0, .int .u8 0, .int .u8 0, .int .u8 0, .int .u8 0, .int .u8 0, .int .u8 0, .int .u8 0, .int .u8 0] := e7
      have hD7 := hD6.all [.int .u8 0, .int .u8 0, .int .u8 0, .int .u8 0, .int .u8 0, .int .u8 0, .int .u8 0, .int .u8 0, .int .u8 0, .int .u8 0, .int .u8 0, .int .u8 0, .int .u8 0, .int .u8 0, .int .u8 0, .int .u8 0, .int .u8 0, .int .u8 0, .int .u8 0, .int .u8 0, .int .u8 0, .int .u8 0, .int .u8 0, .int .u8 0, .int .u8 0, .int .u8 0, .int .u8 0, .int .u8 0, .int .u8 0, .int .u8 0, .int .u8 0, .int .u8 0] rfl e8
      have hc7 : Ch (· = db) w6 w7 := Ch.sets e8 rfl
      have hE7 : EyeR w7 eb st := Blk.keep hE6 hc7 (by omega)
      have hU7 : EyeF w7 ub st := Blk.keep hU6 hc7 (by omega)
      have dig : ∀ {a b : World}, Ch Non W a → Ch (· = db) a b → Ch Non W b := fun h k => h.trans k (fun i hi hx => by omega)
      have hC7 := dig hC6 hc7
      have hz : ([.int .u8 0, .int .u8 0, .int .u8 0, .int .u8 0, .int .u8 0, .int .u8 0, .int .u8 0, .int .u8 0, .int .u8 0, .int .u8 0, .int .u8 0, .int .u8 0, .int .u8 0, .int .u8 0, .int .u8 0, .int .u8 0, .int .u8 0, .int .u8 0, .int .u8 0, .int .u8 0, .int .u8 0, .int .u8 0, .int .u8 0, .int .u8 0, .int .u8 0, .int .u8 0, .int .u8 0, .int .u8 0, .int .u8 0, .int .u8 0, .int .u8 0, .int .u8 0] : List Value) = (List.replicate 32 (0 : UInt8)).map u8v := rfl
      rw [hz] at hD7
      clear e7 e8 hD6 hE6 hU6 hC6 hc7 hE5 hU5 hC5 hX5 hz
      refine step_call (RefTake_spec hU7 32) ?_
      rintro v w8 ⟨rfl, hU8, hc8⟩
      have hE8 : EyeR w8 eb st := Blk.keep hE7 hc8 (by omega)
      have hD8 : Blk w8 db ((List.replicate 32 (0 : UInt8)).map u8v) 59 := Blk.keep hD7 hc8 (by omega)
      have hC8 := eyf hC7 hc8
      obtain ⟨hdl, htl⟩ := digL_of st
      have hlen := digL_len st
      have hE8s := EyeDigest_spec (w := w8) (e := eb) (st := st)
      generalize hQ : (takeE st 32).2 = st2 at hU8
      have hspec : ∀ w, EyeR w eb st → Calls Try.prog i_pen_Eye_Digest #[.pointer (some ⟨eb, 0, none⟩)] w (Ret fun v w' => v = .agg ((digL st).map u8v).toArray ∧ EyeR w' eb st2 ∧ Ch (· = eb) w w') := fun w h => by rw [← hQ]; exact EyeDigest_spec h
      clear hE8s
      generalize digL st = D at hdl hlen hspec
      generalize (takeE st 32).1.getD [] = t at hdl htl ⊢
      refine ⟨_, rfl, fun w' => Blk w' db (D.map u8v) 59 ∧ EyeF w' ub st2 ∧ EyeR w' eb st ∧ Ch Non W w', ⟨fun i k w' => ∃ q : Nat, i = q ∧ q ≤ t.length ∧ k = t.length - q ∧ Blk w' db ((t.take q ++ List.replicate (32 - q) 0).map u8v) 59 ∧ EyeF w' ub st2 ∧ EyeR w' eb st ∧ Ch Non W w', ⟨_, 0, rfl, Nat.zero_le _, rfl, hD8, hU8, hE8, hC8⟩, ?_⟩, ?_⟩
      · rintro jk i k w9 ⟨q, rfl, hq, rfl, hD9, hU9, hE9, hC9⟩
        rw [str_size]
        refine ⟨fun hlt2 => ?_, fun hge2 => ?_⟩
        · have hlt2 : q < t.length := by have := of_decide_eq_true hlt2; omega
          rw [add_at, Nat.zero_add, toNat_mul_one, bt_str t hlt2]
          have hin : q < ((t.take q ++ List.replicate (32 - q) 0).map u8v).length := by simp; omega
          refine ⟨⟨by omega, by omega⟩, ⟨by omega, by omega⟩, hD9.ok q (List.getElem?_eq_getElem hin), fun w10 e10 => ?_⟩
          have hD10 := hD9.set e10
          have hv : Value.int .u8 (t[q].toNat : Int) = u8v t[q] := rfl
          rw [hv, fill_step t hlt2 htl] at hD10
          have hc10 : Ch (· = db) w9 w10 := Ch.set e10 rfl
          exact ⟨t.length - (q + 1), by omega, q + 1, by rw [wrap_id (by omega) (by omega)]; rfl, hlt2, rfl, hD10, Blk.keep hU9 hc10 (by omega), Blk.keep hE9 hc10 (by omega), dig hC9 hc10⟩
        · have : q = t.length := by have := of_decide_eq_false hge2; omega
          subst this
          rw [List.take_length, ← hdl] at hD9
          exact ⟨hD9, hU9, hE9, hC9⟩
      rintro jk w9 ⟨hD9, hU9, hE9, hC9⟩
      obtain ⟨e0, e1, e2, e3, e4, e5, e6, e7, e8, e9, e10, e11, e12, e13, e14, e15, e16, e17, e18, e19, e20, e21, e22, e23, e24, e25, e26, e27, e28, e29, e30, e31, hD⟩ := dig32 hlen
      subst hD
      refine ⟨fun w' => Blk w' db (([e0, e1, e2, e3, e4, e5, e6, e7, e8, e9, e10, e11, e12, e13, e14, e15, e16, e17, e18, e19, e20, e21, e22, e23, e24, e25, e26, e27, e28, e29, e30, e31] : List UInt8).map u8v) 59, fun w10 e10 => ⟨hD9.drew e10, ?_⟩⟩
      refine ⟨_, _, _, _, _, _, _, _, _, _, _, _, _, _, _, _, _, _, _, _, _, _, _, _, _, _, _, _, _, _, _, _, ⟨fun w' h => Blk.cell h 0 rfl, fun w' h => Blk.cell h 1 rfl, fun w' h => Blk.cell h 2 rfl, fun w' h => Blk.cell h 3 rfl, fun w' h => Blk.cell h 4 rfl, fun w' h => Blk.cell h 5 rfl, fun w' h => Blk.cell h 6 rfl, fun w' h => Blk.cell h 7 rfl, fun w' h => Blk.cell h 8 rfl, fun w' h => Blk.cell h 9 rfl, fun w' h => Blk.cell h 10 rfl, fun w' h => Blk.cell h 11 rfl, fun w' h => Blk.cell h 12 rfl, fun w' h => Blk.cell h 13 rfl, fun w' h => Blk.cell h 14 rfl, fun w' h => Blk.cell h 15 rfl, fun w' h => Blk.cell h 16 rfl, fun w' h => Blk.cell h 17 rfl, fun w' h => Blk.cell h 18 rfl, fun w' h => Blk.cell h 19 rfl, fun w' h => Blk.cell h 20 rfl, fun w' h => Blk.cell h 21 rfl, fun w' h => Blk.cell h 22 rfl, fun w' h => Blk.cell h 23 rfl, fun w' h => Blk.cell h 24 rfl, fun w' h => Blk.cell h 25 rfl, fun w' h => Blk.cell h 26 rfl, fun w' h => Blk.cell h 27 rfl, fun w' h => Blk.cell h 28 rfl, fun w' h => Blk.cell h 29 rfl, fun w' h => Blk.cell h 30 rfl, fun w' h => Blk.cell h 31 rfl⟩, ?_⟩
      have hE10 : EyeR w10 eb st := Blk.drew hE9 e10
      have hU10 : EyeF w10 ub st2 := Blk.drew hU9 e10
      refine step_call (hspec w10 hE10) ?_
      rintro v w11 ⟨rfl, hE11, hc11⟩
      refine ⟨_, _, _, _, _, _, _, _, _, _, _, _, _, _, _, _, _, _, _, _, _, _, _, _, _, _, _, _, _, _, _, _, rfl, (hD9.drew e10).keep hc11 (by omega), iteF (by simp) ⟨_, hE11, Blk.keep hU10 hc11 (by omega), eye (hC9.andN (Ch.drew e10)) hc11⟩⟩
    clear hX5 hE5 hU5 hC5
    rintro jk w6 ⟨st', hE6, hU6, hC6⟩
    have hend : ∀ w', Ch Non W w' → EyeR w' eb st' → EyeF w' ub st' → ∃ vk_1 : Nat, vk_1 < av.length - j ∧ ∃ (j' : Nat) (st : St), IntKind.i64.wrap ((j : Int) + 1) = j' ∧ j' ≤ av.length ∧ vk_1 = av.length - j' ∧ EyeR w' eb st ∧ EyeF w' ub st ∧ Ch Non W w' := fun w' h a b =>
      ⟨av.length - (j + 1), by omega, j + 1, st', by rw [wrap_id (by have := of_decide_eq_true h40; omega) (by have := of_decide_eq_true h40; omega)]; rfl, hlt, rfl, a, b, h⟩
    refine ⟨_, hU6.cell 1 rfl, fun hb => ?_, fun hb => ?_⟩
    · refine ⟨fun v w' => v = 5 ∧ w' = w6, ⟨_, hU6.cell 0 rfl, fun _ => ⟨rfl, rfl⟩, fun _ => ⟨rfl, rfl⟩⟩, ?_⟩
      rintro jk v w7 ⟨rfl, rfl⟩
      refine ⟨fun w' => EyeF w' ub st', fun w8 e8 => ?_⟩
      have hE8 : EyeR w8 eb st' := Blk.drew hE6 e8
      have hU8 : EyeF w8 ub st' := Blk.drew hU6 e8
      have hC8 := hC6.andN (Ch.drew e8)
      refine ⟨hU8, _, fun w' h => Blk.cell h 0 rfl, ?_⟩
      refine step_call (Left_spec hE8) ?_
      rintro v w9 ⟨rfl, rfl⟩
      refine ⟨_, rfl, hU8, iteF (by rw [str_size]; simp) ?_⟩
      refine step_call (Err_spec hE8) ?_
      rintro v w10 ⟨rfl, rfl⟩
      refine ⟨_, rfl, hU8, iteF (by unfold errE; rw [hb]; rfl) ?_⟩
      refine step_call (End_spec hE8) ?_
      rintro v w11 ⟨rfl, rfl⟩
      exact ⟨_, rfl, hU8, iteF (by unfold endE; rw [hb]; rfl) (hend _ hC8 hE8 hU8)⟩
    · refine ⟨fun v w' => v = endE st' ∧ w' = w6, ⟨_, hU6.cell 0 rfl, fun h => ⟨?_, rfl⟩, fun h => ⟨?_, rfl⟩⟩, ?_⟩
      · have h := of_decide_eq_true h
        rw [str_size] at h
        unfold endE; rw [hb, if_neg (by decide), if_neg (by omega)]
      · have h := of_decide_eq_false h
        rw [str_size] at h
        unfold endE; rw [hb, if_neg (by decide), if_pos (by omega)]
      rintro jk v w7 ⟨rfl, rfl⟩
      refine ⟨fun w' => EyeF w' ub st', fun w8 e8 => ?_⟩
      have hE8 : EyeR w8 eb st' := Blk.drew hE6 e8
      have hU8 : EyeF w8 ub st' := Blk.drew hU6 e8
      have hC8 := hC6.andN (Ch.drew e8)
      refine ⟨hU8, _, fun w' h => Blk.cell h 0 rfl, ?_⟩
      refine step_call (Left_spec hE8) ?_
      rintro v w9 ⟨rfl, rfl⟩
      refine ⟨_, rfl, hU8, iteF (by rw [str_size]; simp) ?_⟩
      refine step_call (Err_spec hE8) ?_
      rintro v w10 ⟨rfl, rfl⟩
      refine ⟨_, rfl, hU8, iteF (by unfold errE; rw [hb]; rfl) ?_⟩
      refine step_call (End_spec hE8) ?_
      rintro v w11 ⟨rfl, rfl⟩
      exact ⟨_, rfl, hU8, iteF (by simp) (hend _ hC8 hE8 hU8)⟩
  rintro jk w4 hC4
  refine step_call (EyeByteNil_spec _) ?_
  rintro v w5 ⟨rfl, rfl⟩
  refine ⟨_, rfl, iteT rfl ?_⟩
  refine step_call (EyeNumNil_spec _ _) ?_
  rintro v w6 ⟨rfl, rfl⟩
  refine ⟨_, rfl, iteT rfl ?_⟩
  refine step_call (EyeTextNil_spec _ _) ?_
  rintro v w7 ⟨rfl, rfl⟩
  refine ⟨_, rfl, iteT (by simp) ?_⟩
  refine step_call (EyeDigestNil_spec _) ?_
  rintro v w8 ⟨rfl, hc8⟩
  refine ⟨_, _, _, _, _, _, _, _, _, _, _, _, _, _, _, _, _, _, _, _, _, _, _, _, _, _, _, _, _, _, _, _, rfl, iteT (by decide) ?_⟩
  refine step_call (LeftNil_spec _) ?_
  rintro v w9 ⟨rfl, rfl⟩
  refine ⟨_, rfl, iteT rfl ?_⟩
  refine step_call (ErrNil_spec _) ?_
  rintro v w10 ⟨rfl, rfl⟩
  refine ⟨_, rfl, iteT rfl ?_⟩
  refine step_call (EndNil_spec _) ?_
  rintro v w11 ⟨rfl, rfl⟩
  exact ⟨_, rfl, rfl, hC4.andN hc8⟩
end Go.Proofs.Ytfecfdhigkehgaa.Pen
