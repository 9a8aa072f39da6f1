/- HealthAnew's and HealthHeals' contracts: of every window and limit, and lists that are noted, the Go functions answer true and leave what was there; the conditions stand in each theorem. -/
import Derived.Test.YtddgcdlljkooiaaHealthLaw1
set_option linter.unusedVariables false
namespace Go.Proofs.Ytddgcdlljkooiaa.Health
open Go Go.Proofs Go.Proofs.Ytddgcdlljkooiaa.V Go.Proofs.Ytddgcdlljkooiaa.Vc Go.RowKit

theorem HealthAnew_true (W : World) (window : Int) (_ : (Lit.int .i64 window).wf = true) (limit : Int) (_ : (Lit.int .i64 limit).wf = true) (o1 : Option Addr) (n1 c1 : Nat) (h1 : DatC Try.prog W t_S_bool [.slice o1 n1 c1])
    (o2 : Option Addr) (n2 c2 : Nat) (h2 : DatC Try.prog W t_S_bool [.slice o2 n2 c2]) :
    Calls Try.prog i_coadjutorlaw27_HealthAnew #[.int .i64 window, .int .i64 limit, .slice o1 n1 c1, .slice o2 n2 c2] W (Ret fun v w' => v = .bool true ∧ Ch Non W w') := by
  obtain ⟨o1', c1', xs, hcs, hl1, hl2, hl3, hx⟩ := h1.bools (e := t_bool) (by kernel_rfl) (by kernel_rfl)
  injection hcs with hcs
  injection hcs with e1 e2 e3
  subst e1; subst e2; subst e3
  obtain ⟨o2', c2', ys, hcs, hm1, hm2, hm3, hy⟩ := h2.bools (e := t_bool) (by kernel_rfl) (by kernel_rfl)
  injection hcs with hcs
  injection hcs with e1 e2 e3
  subst e1; subst e2; subst e3
  refine coadjutorlaw27_HealthAnew.calls _ _ _ _ _ _ _ _ ?_
  unfold coadjutorlaw27_HealthAnew.vc
  refine step_call (awake_spec W) ?_
  rintro v w1 ⟨rfl, hc1⟩
  refine ⟨_, rfl, iteF rfl ⟨fun _ => ⟨rfl, hc1⟩, fun hx40 => ⟨fun _ => ⟨rfl, hc1⟩, fun hy40 => ?_⟩⟩⟩
  have hx40 : xs.length ≤ 40 := by simp at hx40; omega
  have hy40 : ys.length ≤ 40 := by simp at hy40; omega
  obtain ⟨hN1, hN2⟩ := mod100 window
  generalize IntKind.i64.wrap (1 + IntKind.i64.wrap (Int.tmod (IntKind.u64.wrap window) 100)) = N at hN1 hN2 ⊢
  obtain ⟨hK0, hK1, hK2⟩ := modN limit hN1 (by omega)
  generalize IntKind.i64.wrap (1 + IntKind.i64.wrap (Int.tmod (IntKind.u64.wrap limit) (IntKind.u64.wrap N))) = K at hK1 hK2 ⊢
  refine ⟨by decide, hK0, ?_⟩
  refine step_call (New_ok w1 hN1 hN2 hK1 hK2) ?_
  rintro v w2 ⟨rfl, hA2, hc2⟩
  refine ⟨_, _, rfl, ?_⟩
  refine step_call (New_ok w2 hN1 hN2 hK1 hK2) ?_
  rintro v w3 ⟨rfl, hB3, hc3⟩
  refine ⟨_, _, rfl, iteF rfl (iteF rfl ?_)⟩
  have hA3 := hA2.keepN hc3
  have f2 : Foot W w2 (New w1 w2) := Foot.new hc1
  have f3 : Foot W w3 (New w2 w3) := Foot.new (hc1.andN hc2)
  have a3 : Apart (New w1 w2) (New w2 w3) := Apart.new f2
  have f2 := f2.le hc3.size
  have C3 := (hc1.andN hc2).andN hc3
  generalize New w1 w2 = F at hA3 f2 a3
  generalize New w2 w3 = G at hB3 f3 a3
  generalize w1.heap.size = a at hA3 ⊢
  generalize w2.heap.size = b at hB3 ⊢
  clear hA2
  have rdx : ∀ {w : World} {H : Nat → Prop}, Ch Non W w → Rd w o1 (xs.map .bool) (fun i => i < W.heap.size) := fun hc => (hx.mono (G := fun i => i < W.heap.size) (fun i hi _ => hi)).keepN hc
  have rdy : ∀ {w : World} {H : Nat → Prop}, Ch Non W w → Rd w o2 (ys.map .bool) (fun i => i < W.heap.size) := fun hc => (hy.mono (G := fun i => i < W.heap.size) (fun i hi _ => hi)).keepN hc
  refine step_call (Note_spec hA3 (rdx (H := F) C3) (fun i p q => absurd p (Nat.not_lt.2 (f2 i q).1)) (by omega) (by omega) (by omega) ⟨by simp; omega, by omega⟩) ?_
  rintro v w4 ⟨rfl, hA4, hc4⟩
  refine ⟨_, _, rfl, ?_⟩
  have hB4 := hB3.keep hc4 (fun i _ p q => a3 i q p)
  have C4 := f2.hi C3 hc4
  have f4 := f2.ext C3 hc4.size
  have g4 := f3.le hc4.size
  have a4 := a3.extL f3 (w' := w4)
  refine step_call (Reset_spec hA4) ?_
  rintro v w5 ⟨rfl, hA5, hc5⟩
  have hB5 := hB4.keep hc5 (fun i _ p q => a4 i q p)
  have C5 := f4.hi C4 hc5
  have f5 := f4.le hc5.size
  have g5 := g4.le hc5.size
  clear hA3 hB3 hA4 hB4 f2 f3 a3 f4 g4
  generalize Ext F w3 w4 = F at hA5 f5 a4
  obtain ⟨o, n, c, hb, hF, ho⟩ := id hA5
  refine ⟨rfl, 0, 0, ⟨hb.cell 0 rfl, hb.cell 1 rfl⟩, ?_⟩
  refine step_call (Total_spec w5 0 0 (by omega) (by omega)) ?_
  rintro v w6 ⟨rfl, hc6⟩
  refine ⟨_, rfl, iteF rfl ?_⟩
  have hA6 := hA5.keepN hc6
  refine step_call (Late_spec hA6) ?_
  rintro v w6 ⟨rfl, rfl⟩
  refine ⟨_, rfl, iteF rfl ?_⟩
  refine step_call (Over_spec hA6) ?_
  rintro v w7 ⟨rfl, hc7⟩
  refine ⟨_, rfl, iteF (decide_eq_false (by simp [bads]; omega)) ?_⟩
  have hA7 := hA6.keepN hc7
  have hc57 := hc6.andN hc7
  have hB7 := hB5.keepN hc57
  have C7 := C5.andN hc57
  have f7 := f5.le hc57.size
  have g7 := g5.le hc57.size
  clear hb ho hA5 hA6 hB5 f5 g5
  refine step_call (Note_spec hA7 (rdy (H := F) C7) (fun i p q => absurd p (Nat.not_lt.2 (f7 i q).1)) (by omega) (by omega) (by omega) ⟨by simp; omega, by omega⟩) ?_
  rintro v w8 ⟨rfl, hA8, hc8⟩
  refine ⟨_, _, rfl, ?_⟩
  have hB8 := hB7.keep hc8 (fun i _ p q => a4 i q p)
  have C8 := f7.hi C7 hc8
  have f8 := f7.ext C7 hc8.size
  have g8 := g7.le hc8.size
  have a8 := a4.extL g7 (w' := w8)
  refine step_call (Note_spec hB8 (rdy (H := F) C8) (fun i p q => absurd p (Nat.not_lt.2 (g8 i q).1)) (by omega) (by omega) (by omega) ⟨by simp; omega, by omega⟩) ?_
  rintro v w9 ⟨rfl, hB9, hc9⟩
  have hA9 := hA8.keep hc9 (fun i _ p q => a8 i p q)
  have C9 := g8.hi C8 hc9
  obtain ⟨oa, na, ca, hba, hFa, hoa⟩ := id hA9
  obtain ⟨ob, nb, cb, hbb, hFb, hob⟩ := id hB9
  refine ⟨_, _, rfl, fun w => Ch Non w9 w, fun w10 e10 => ⟨Ch.drew e10, iteT rfl (iteT rfl (iteT (by simp) ?_))⟩⟩
  have hd : Ch Non w9 w10 := Ch.drew e10
  refine ⟨_, _, ⟨fun w hw => (hba.keepN hw).cell 0 rfl, fun w hw => (hba.keepN hw).cell 1 rfl⟩, ?_⟩
  refine ⟨_, _, ⟨fun w hw => (hbb.keepN hw).cell 0 rfl, fun w hw => (hbb.keepN hw).cell 1 rfl⟩, iteT (by simp) ?_⟩
  refine step_call (Late_spec (hA9.keepN hd)) ?_
  rintro v w11 ⟨rfl, rfl⟩
  refine ⟨_, rfl, hd, ?_⟩
  refine step_call (Late_spec (hB9.keepN hd)) ?_
  rintro v w11 ⟨rfl, rfl⟩
  refine ⟨_, rfl, hd, iteT (by simp) ?_⟩
  refine step_call (Over_spec (hA9.keepN hd)) ?_
  rintro v w12 ⟨rfl, hc12⟩
  have hd := hd.andN hc12
  refine ⟨_, rfl, hd, ?_⟩
  refine step_call (Over_spec (hB9.keepN hd)) ?_
  rintro v w13 ⟨rfl, hc13⟩
  have hd := hd.andN hc13
  exact ⟨_, rfl, hd, by simp, C9.andN hd⟩
/-- One alone. -/
theorem Note1_spec {w w1 : World} {b : Nat} {good bad window limit : Int} {late : List Bool} {F : Nat → Prop} (h : WatchR w b good bad window limit late F) (hF : ∀ i, F i → i < w.heap.size) (g : Bool)
    (e1 : w1 = w.alloc (.cells #[.bool g] 4 (0, 0))) (hg : 0 ≤ good ∧ good ≤ 1000000) (hb : 0 ≤ bad ∧ bad ≤ 1000000) (hw : (late.length : Int) ≤ window ∧ window ≤ 1000) :
    Calls Try.prog i_health_Watch_Note #[.pointer (some ⟨b, 0, none⟩), .slice (some ⟨w.heap.size, 0, none⟩) 1 1] w1 (Ret fun v w' => v = .tuple #[.bool (decide (bads (pushL window late g) ≥ limit)), .int .i64 0] ∧
      WatchR w' b (good + if g then 1 else 0) (bad + if g then 0 else 1) window limit (pushL window late g) (Ext F w w') ∧ Ch F w w') := by
  have hc1 : Ch Non w w1 := Ch.alloc e1
  have ho : Own w1 t_bool 1 (some ⟨w.heap.size, 0, none⟩) 1 1 ([g].map Value.bool) (New w w1) := Own.made e1 rfl (by decide) ⟨Nat.le_refl _, (Blk.new e1).lt⟩
  refine step_call (Note_spec (xs := [g]) (h.keepN hc1) ho.rd (fun i p q => absurd (hF i q) (Nat.not_lt.2 p.1)) (by simp) (by simp; omega) (by simp; omega) hw) ?_
  rintro v w2 ⟨hv, hW, hc⟩
  refine ⟨by simpa [overs] using hv, ?_, (hc1.any (F := F)).same hc⟩
  have hW := hW.mono (G := Ext F w w2) (fun i hi hE => by
    rcases hE with hE | hE
    · exact .inl hE
    · exact .inr ⟨Nat.le_trans hc1.size hE.1, hE.2⟩)
  cases g <;> simpa [goods, bads, pushes] using hW
theorem bads_lastN_true {N : Int} (l : List Bool) (m : Nat) (h : N ≤ m) : bads (lastN N (l ++ List.replicate m true)) = 0 := by
  unfold lastN
  rw [List.length_append, List.length_replicate]
  have : l.length + m - N.toNat = l.length + (m - N.toNat) := by omega
  rw [this, List.drop_append, List.drop_of_length_le (by omega), Nat.add_sub_cancel_left, List.drop_replicate, List.nil_append]
  unfold bads
  rw [List.countP_replicate]
  simp
theorem HealthHeals_true (W : World) (window : Int) (_ : (Lit.int .i64 window).wf = true) (limit : Int) (_ : (Lit.int .i64 limit).wf = true) (o2 : Option Addr) (n2 c2 : Nat) (h2 : DatC Try.prog W t_S_bool [.slice o2 n2 c2]) :
    Calls Try.prog i_coadjutorlaw27_HealthHeals #[.int .i64 window, .int .i64 limit, .slice o2 n2 c2] W (Ret fun v w' => v = .bool true ∧ Ch Non W w') := by
  obtain ⟨o2', c2', ys, hcs, hm1, hm2, hm3, hy⟩ := h2.bools (e := t_bool) (by kernel_rfl) (by kernel_rfl)
  injection hcs with hcs
  injection hcs with e1 e2 e3
  subst e1; subst e2; subst e3
  refine coadjutorlaw27_HealthHeals.calls _ _ _ _ _ ?_
  unfold coadjutorlaw27_HealthHeals.vc
  refine step_call (awake_spec W) ?_
  rintro v w1 ⟨rfl, hc1⟩
  refine ⟨_, rfl, iteF rfl ⟨fun _ => ⟨rfl, hc1⟩, fun hy40 => ?_⟩⟩
  have hy40 : ys.length ≤ 60 := by simp at hy40; omega
  obtain ⟨hN1, hN2⟩ := mod100 window
  generalize IntKind.i64.wrap (1 + IntKind.i64.wrap (Int.tmod (IntKind.u64.wrap window) 100)) = N at hN1 hN2 ⊢
  obtain ⟨hK0, hK1, hK2⟩ := modN limit hN1 (by omega)
  generalize IntKind.i64.wrap (1 + IntKind.i64.wrap (Int.tmod (IntKind.u64.wrap limit) (IntKind.u64.wrap N))) = K at hK1 hK2 ⊢
  refine ⟨by decide, hK0, ?_⟩
  refine step_call (New_ok w1 hN1 hN2 hK1 hK2) ?_
  rintro v w2 ⟨rfl, hA2, hc2⟩
  refine ⟨_, _, rfl, ?_⟩
  refine step_call (New_ok w2 hN1 hN2 hK1 hK2) ?_
  rintro v w3 ⟨rfl, hB3, hc3⟩
  refine ⟨_, _, rfl, iteF rfl (iteF rfl ?_)⟩
  have hA3 := hA2.keepN hc3
  have f2 : Foot W w2 (New w1 w2) := Foot.new hc1
  have f3 : Foot W w3 (New w2 w3) := Foot.new (hc1.andN hc2)
  have a3 : Apart (New w1 w2) (New w2 w3) := Apart.new f2
  have f2 := f2.le hc3.size
  have C3 := (hc1.andN hc2).andN hc3
  generalize New w1 w2 = F at hA3 f2 a3
  generalize New w2 w3 = G at hB3 f3 a3
  generalize w1.heap.size = a at hA3 ⊢
  generalize w2.heap.size = b at hB3 ⊢
  clear hA2 hc2 hc3 hc1
  have rdy : ∀ {w : World}, Ch Non W w → Rd w o2 (ys.map .bool) (fun i => i < W.heap.size) := fun hc => (hy.mono (G := fun i => i < W.heap.size) (fun i hi _ => hi)).keepN hc
  have lastLe : ∀ l, ((lastN N l).length : Int) ≤ N ∧ N ≤ 1000 := fun l => ⟨lastN_le N l (by omega), by omega⟩
  refine ⟨fun over i k w => ∃ (j : Nat) (F : Nat → Prop), i = j ∧ j ≤ ys.length ∧ k = ys.length - j ∧ over = overs N K [] (ys.take j) ∧ WatchR w a (goods (ys.take j)) (bads (ys.take j)) N K (lastN N (ys.take j)) F ∧
    WatchR w b 0 0 N K [] G ∧ Foot W w F ∧ Foot W w G ∧ Apart F G ∧ Ch Non W w, ⟨_, 0, F, rfl, Nat.zero_le _, rfl, rfl, ?_, hB3, f2, f3, a3, C3⟩, ?_⟩
  · simpa [goods, bads, lastN] using hA3
  clear hA3 hB3 f2 f3 a3 C3
  rintro jk over i k w4 ⟨j, F, rfl, hj, rfl, rfl, hA, hB, hF, hG, hFG, hc⟩
  refine ⟨fun hlt => ?_, fun hge => ?_⟩
  · have hlt : j < ys.length := by simpa using hlt
    have g1 := goods_le (ys.take j)
    have b1 := bads_le (ys.take j)
    have hl : (ys.take j).length = j := by simp; omega
    refine ⟨⟨by omega, by omega⟩, (rdy hc).at (j := (j : Int).toNat * 1) (v := .bool ys[j]) (by simp [hlt]) fun p hp => ⟨ys[j], hp, fun w5 e5 => ?_⟩⟩
    refine step_call (Note1_spec hA (fun i hi => (hF i hi).2) ys[j] e5 (by omega) (by omega) (lastLe _)) ?_
    rintro v w6 ⟨rfl, hA6, hc6⟩
    have hts := take_snoc ys j hlt
    have hB6 := hB.keep hc6 (fun i _ p q => hFG i q p)
    have C6 := hF.hi hc hc6
    have F6 := hF.ext hc hc6.size
    have G6 := hG.le hc6.size
    have A6 := hFG.extL hG (w' := w6)
    have e1 : goods (ys.take (j + 1)) = goods (ys.take j) + (if ys[j] then 1 else 0) := by rw [hts, goods_snoc]
    have e2 : bads (ys.take (j + 1)) = bads (ys.take j) + (if ys[j] then 0 else 1) := by rw [hts, bads_snoc]
    have e3 : lastN N (ys.take (j + 1)) = pushL N (lastN N (ys.take j)) ys[j] := by rw [hts, pushL_lastN hN1]
    have e4 : overs N K [] (ys.take (j + 1)) = (overs N K [] (ys.take j) || decide (bads (lastN N (ys.take (j + 1))) ≥ K)) := by
      have h := pushes_lastN hN1 (ys.take (j + 1)) []
      rw [lastN_nil, List.nil_append] at h
      rw [← h, hts, overs_snoc]
    rw [← e1, ← e2, ← e3] at hA6
    rw [← e3]
    have hwr : IntKind.i64.wrap ((j : Int) + 1) = ((j + 1 : Nat) : Int) := by rw [wrap_id (by omega) (by omega)]; rfl
    refine ⟨_, _, rfl, iteF rfl ?_⟩
    refine step_call (Over_spec hA6) ?_
    rintro v w7 ⟨rfl, hc7⟩
    have hA7 := hA6.keepN hc7
    have hB7 := hB6.keepN hc7
    have C7 := C6.andN hc7
    have F7 := F6.le hc7.size
    have G7 := G6.le hc7.size
    have fin : ∀ w8 : World, w8 = w7 → ∀ ov, ov = overs N K [] (ys.take (j + 1)) → ∃ vk_1 : Nat, vk_1 < ys.length - j ∧ ∃ (j' : Nat) (F : Nat → Prop), IntKind.i64.wrap ((j : Int) + 1) = j' ∧ j' ≤ ys.length ∧ vk_1 = ys.length - j' ∧ ov = overs N K [] (ys.take j') ∧ WatchR w8 a (goods (ys.take j')) (bads (ys.take j')) N K (lastN N (ys.take j')) F ∧
        WatchR w8 b 0 0 N K [] G ∧ Foot W w8 F ∧ Foot W w8 G ∧ Apart F G ∧ Ch Non W w8 := by
      rintro w8 rfl ov rfl
      exact ⟨ys.length - (j + 1), by omega, j + 1, _, hwr, hlt, rfl, rfl, hA7, hB7, F7, G7, A6, C7⟩
    refine ⟨_, rfl, iteF (by simp) ⟨fun his => ?_, fun his => ⟨fun ho => ?_, fun ho => ?_⟩⟩⟩
    · refine step_call (Late_spec hA7) ?_
      rintro v w8 ⟨rfl, rfl⟩
      refine ⟨_, rfl, iteF ?_ ⟨fun ho => ?_, fun ho => ?_⟩⟩
      · simp at his; simp; omega
      · exact fin _ rfl _ (by rw [e4, ho, Bool.true_or])
      · exact fin _ rfl _ (by rw [e4, ho, Bool.false_or])
    · exact fin _ rfl _ (by rw [e4, ho, Bool.true_or])
    · exact fin _ rfl _ (by rw [e4, ho, Bool.false_or])
  have : j = ys.length := by simp at hge; omega
  subst this
  rw [List.take_length] at *
  have g1 := goods_le ys
  have b1 := bads_le ys
  refine step_call (Note_spec hB (rdy hc) (fun i p q => absurd p (Nat.not_lt.2 (hG i q).1)) (by omega) (by omega) (by omega) ⟨by simp; omega, by omega⟩) ?_
  rintro v w5 ⟨rfl, hB5, hc5⟩
  have hp := pushes_lastN hN1 ys []
  rw [lastN_nil, List.nil_append] at hp
  rw [hp, Int.zero_add, Int.zero_add] at hB5
  have hA5 := hA.keep hc5 (fun i _ p q => hFG i p q)
  have C5 := hG.hi hc hc5
  have F5 := hF.le hc5.size
  have G5 := hG.ext hc hc5.size
  have A5 := hFG.extR hF (w' := w5)
  clear hA hB hF hG hFG hc
  generalize Ext G w4 w5 = G at hB5 G5 A5
  obtain ⟨oa, na, ca, hba, hFa, hoa⟩ := id hA5
  obtain ⟨ob, nb, cb, hbb, hFb, hob⟩ := id hB5
  refine ⟨_, _, rfl, fun w => Ch Non w5 w, fun w6 e6 => ⟨Ch.drew e6, iteF rfl (iteF (by simp) ?_)⟩⟩
  have hd : Ch Non w5 w6 := Ch.drew e6
  refine step_call (Late_spec (hA5.keepN hd)) ?_
  rintro v w7 ⟨rfl, rfl⟩
  refine ⟨_, rfl, hd, ?_⟩
  refine step_call (Late_spec (hB5.keepN hd)) ?_
  rintro v w7 ⟨rfl, rfl⟩
  refine ⟨_, rfl, hd, iteF (by simp) ?_⟩
  refine ⟨_, _, ⟨fun w hw => (hba.keepN hw).cell 0 rfl, fun w hw => (hba.keepN hw).cell 1 rfl⟩, ?_⟩
  refine ⟨_, _, ⟨(hbb.keepN hd).cell 0 rfl, (hbb.keepN hd).cell 1 rfl⟩, hd, iteF (by simp) ?_⟩
  have hA7 := hA5.keepN hd
  have hB7 := hB5.keepN hd
  have C7 := C5.andN hd
  have F7 := F5.le hd.size
  have G7 := G5.le hd.size
  clear hba hbb hoa hob hd hA5 hB5 C5 F5 G5
  refine ⟨fun i k w => ∃ (j : Nat) (G : Nat → Prop), i = j ∧ j ≤ N.toNat ∧ k = N.toNat - j ∧ WatchR w a (goods ys) (bads ys) N K (lastN N ys) F ∧
    WatchR w b (goods ys + j) (bads ys) N K (lastN N (ys ++ List.replicate j true)) G ∧ Foot W w F ∧ Foot W w G ∧ Apart F G ∧ Ch Non W w, ⟨_, 0, G, rfl, Nat.zero_le _, rfl, hA7, ?_, F7, G7, A5, C7⟩, ?_⟩
  · simpa using hB7
  clear hA7 hB7 F7 G7 A5 C7
  rintro jk i k w6 ⟨j, G, rfl, hj, rfl, hA, hB, hF, hG, hFG, hc⟩
  refine ⟨fun hlt => fun w7 e7 => ?_, fun hge => ?_⟩
  · have hlt : j < N.toNat := by simp at hlt; omega
    have hwr : IntKind.i64.wrap ((j : Int) + 1) = ((j + 1 : Nat) : Int) := by rw [wrap_id (by omega) (by omega)]; rfl
    refine step_call (Note1_spec hB (fun i hi => (hG i hi).2) true e7 (by omega) (by omega) (lastLe _)) ?_
    rintro v w8 ⟨rfl, hB8, hc8⟩
    refine ⟨_, _, rfl, N.toNat - (j + 1), by omega, j + 1, _, hwr, hlt, rfl, hA.keep hc8 (fun i _ p q => hFG i p q), ?_, hF.le hc8.size, hG.ext hc hc8.size, hFG.extR hF, hG.hi hc hc8⟩
    rw [pushL_lastN hN1, List.append_assoc, ← List.replicate_succ'] at hB8
    have e1 : goods ys + ((j + 1 : Nat) : Int) = goods ys + j + 1 := by omega
    rw [e1]
    simpa using hB8
  have : j = N.toNat := by simp at hge; omega
  subst this
  have hz : bads (lastN N (ys ++ List.replicate N.toNat true)) = 0 := bads_lastN_true ys _ (by omega)
  obtain ⟨oa, na, ca, hba, hFa, hoa⟩ := id hA
  obtain ⟨ob, nb, cb, hbb, hFb, hob⟩ := id hB
  refine ⟨fun w => Ch Non w6 w, fun w7 e7 => ⟨Ch.drew e7, ?_⟩⟩
  have hd : Ch Non w6 w7 := Ch.drew e7
  refine step_call (Late_spec (hB.keepN hd)) ?_
  rintro v w8 ⟨rfl, rfl⟩
  refine ⟨_, rfl, hd, iteT (by rw [hz]; rfl) ?_⟩
  refine step_call (Over_spec (hB.keepN hd)) ?_
  rintro v w9 ⟨rfl, hc9⟩
  have hd := hd.andN hc9
  refine ⟨_, rfl, hd, iteT (by rw [hz]; simp; omega) ?_⟩
  refine ⟨_, fun w hw => (hbb.keepN hw).cell 1 rfl, _, (hba.keepN hd).cell 1 rfl, hd, iteT (by simp) ?_⟩
  refine ⟨_, fun w hw => (hbb.keepN hw).cell 0 rfl, _, fun w hw => (hba.keepN hw).cell 0 rfl, ?_, hc.andN hd⟩
  rw [wrap_id (by omega) (by omega)]
  simp; omega
end Go.Proofs.Ytddgcdlljkooiaa.Health
