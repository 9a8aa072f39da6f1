/- HealthExact's contract: of every window and limit, and rows that are noted, the Go function answers true and leaves what was there; the conditions stand in the theorem. -/
import Derived.Test.YtddgcdlljkooiaaHealth2
set_option linter.unusedVariables false
namespace Go.Proofs.Ytddgcdlljkooiaa.Health
open Go Go.Proofs Go.Proofs.Ytddgcdlljkooiaa.V Go.Proofs.Ytddgcdlljkooiaa.Vc Go.RowKit

theorem awake_spec (w : World) : Calls Try.prog i_coadjutorlaw27_awake #[] w (Ret fun v w' => v = .bool true ∧ Ch Non w w') := by
  refine coadjutorlaw27_awake.calls ?_
  unfold coadjutorlaw27_awake.vc
  refine step_call (New_ok w (window := 3) (limit := 2) (by omega) (by omega) (by omega) (by omega)) ?_
  rintro v w1 ⟨rfl, hW, hc1⟩
  refine ⟨_, _, rfl, ?_⟩
  refine step_call (New_bad w1 (window := 3) (limit := 4) (by omega)) ?_
  rintro v w2 ⟨rfl, rfl⟩
  refine ⟨_, _, rfl, iteF rfl (iteF rfl fun w3 e3 => ?_)⟩
  have hf : Foot w w2 (New w w2) := Foot.new (Ch.refl _ _)
  have ho : Own w3 t_bool 1 _ 3 3 ([false, true, false].map Value.bool) (New w2 w3) := Own.made e3 rfl (by decide) ⟨Nat.le_refl _, (Blk.new e3).lt⟩
  have hr := ho.rd
  have hW3 := hW.keepN (Ch.alloc e3)
  refine step_call (Note_spec (xs := [false, true, false]) hW3 hr (fun i h1 h2 => absurd h2.2 (Nat.not_lt.2 h1.1)) (by decide) (by decide) (by decide) (by decide)) ?_
  rintro v w4 ⟨rfl, hW4, hc4⟩
  have e1 : overs 3 2 [] [false, true, false] = true := by decide
  have e2 : pushes 3 [] [false, true, false] = [false, true, false] := by decide
  have e3 : (0 : Int) + goods [false, true, false] = 1 := by decide
  have e4 : (0 : Int) + bads [false, true, false] = 2 := by decide
  rw [e2, e3, e4] at hW4
  rw [e1]
  refine ⟨_, _, rfl, iteT rfl (iteT rfl (iteT rfl ?_))⟩
  refine step_call (Late_spec hW4) ?_
  rintro v w5 ⟨rfl, rfl⟩
  obtain ⟨o, n, c, hb, hF, ho5⟩ := hW4
  refine ⟨_, rfl, iteT (by decide) ⟨2, hb.cell 1 rfl, iteT rfl ⟨1, hb.cell 0 rfl, iteT rfl ⟨1, 2, ⟨hb.cell 0 rfl, hb.cell 1 rfl⟩, ?_⟩⟩⟩⟩
  refine step_call (Total_spec _ 1 2 (by decide) (by decide)) ?_
  rintro v w6 ⟨rfl, hc6⟩
  refine ⟨_, rfl, rfl, ?_⟩
  have h13 : Ch Non w w2 := hc1
  have hc3 : Ch Non w w3 := h13.andN (Ch.alloc (by assumption))
  refine (hc3.trans hc4 (fun i hi h => ?_)).andN hc6
  exact absurd h.1 (Nat.not_le.2 hi)

theorem HealthExact_true (W : World) (window : Int) (_ : (Lit.int .i64 window).wf = true) (limit : Int) (_ : (Lit.int .i64 limit).wf = true) (o : Option Addr) (n c : Nat) (h : DatC Try.prog W t_S_S_bool [.slice o n c]) :
    Calls Try.prog i_coadjutorlaw27_HealthExact #[.int .i64 window, .int .i64 limit, .slice o n c] W (Ret fun v w' => v = .bool true ∧ Ch Non W w') := by
  obtain ⟨o', c', rows, hcs, hl1, hl2, hl3, hrows, hrd⟩ := h.boolRows (e := t_S_bool) (g := t_bool) (by kernel_rfl) (by kernel_rfl) (by kernel_rfl)
  injection hcs with hcs
  injection hcs with e1 e2 e3
  subst e1; subst e2; subst e3
  unfold maxLen at hl2
  refine coadjutorlaw27_HealthExact.calls _ _ _ _ _ ?_
  unfold coadjutorlaw27_HealthExact.vc
  refine step_call (awake_spec W) ?_
  rintro v w1 ⟨rfl, hc1⟩
  refine ⟨_, rfl, iteF rfl ?_⟩
  by_cases hbad : window < 1 ∨ window > 100 ∨ limit < 1 ∨ limit > window
  · refine step_call (New_bad w1 hbad) ?_
    rintro v w2 ⟨rfl, rfl⟩
    refine ⟨_, _, rfl, ?_⟩
    refine ⟨fun _ => iteT rfl ⟨rfl, hc1⟩, fun a1 => ⟨fun _ => iteT rfl ⟨rfl, hc1⟩, fun a2 => ⟨fun _ => iteT rfl ⟨rfl, hc1⟩, fun a3 => ⟨fun _ => iteT rfl ⟨rfl, hc1⟩, fun a4 => ?_⟩⟩⟩⟩
    simp only [decide_eq_false_iff_not] at a1 a2 a3 a4
    exact absurd hbad (by omega)
  have hw1 : 1 ≤ window := by omega
  have hw2 : window ≤ 100 := by omega
  refine step_call (New_ok w1 hw1 hw2 (by omega) (by omega)) ?_
  rintro v w2 ⟨rfl, hW2, hc2⟩
  refine ⟨_, _, rfl, iteF (decide_eq_false (by omega)) (iteF (decide_eq_false (by omega)) (iteF (decide_eq_false (by omega)) (iteF (decide_eq_false (by omega)) (iteF rfl fun w3 e3 => ?_))))⟩
  have hc02 := hc1.andN hc2
  have hc03 := hc02.andN (Ch.alloc (F := Non) e3)
  have hF2 : Foot W w2 (New w1 w2) := Foot.new hc1
  have ho3 : Own w3 t_bool 1 (some ⟨w2.heap.size, 0, none⟩) 0 0 (([] : List Bool).map Value.bool) (New w2 w3) := Own.made e3 rfl (by decide) ⟨Nat.le_refl _, (Blk.new e3).lt⟩
  -- behind the loop
  have last : ∀ w4 : World, Ch Non W w4 →
      Calls Try.prog 21 #[(.pointer none)] w4 (Ret fun v_15 w27 => v_15 = .tuple #[] ∧
      ∀ w28 : World, w28 = w27.alloc (.cells #[(.bool true)] 4 (0, 0)) →
      Calls Try.prog 17 #[(.pointer none), (.slice (some (⟨w27.heap.size, 0, none⟩ : Addr)) 1 1)] w28 (Ret fun v_16 w29 => ∃ (x168_0_1 : Bool), ∃ (x168_1_1 : Int), v_16 = (.tuple #[(.bool x168_0_1), (.int .i64 x168_1_1)]) ∧
      ((x168_1_1 == (2 : Int)) = true →
      Calls Try.prog 19 #[(.pointer none)] w29 (Ret fun v_17 w30 => ∃ (x175_1 : Int), v_17 = (.int .i64 x175_1) ∧
      ((x175_1 == (0 : Int)) = true →
      Calls Try.prog 18 #[(.pointer none)] w30 (Ret fun v_18 w31 => ∃ (x180_1 : Bool), v_18 = (.bool x180_1) ∧
      (Value.bool (!x180_1) = .bool true ∧ Ch Non W w31))) ∧
      ((x175_1 == (0 : Int)) = false →
      (Value.bool false = .bool true ∧ Ch Non W w30)))) ∧
      ((x168_1_1 == (2 : Int)) = false →
      (Value.bool false = .bool true ∧ Ch Non W w29)))) := by
    intro w4 hc4
    refine step_call (Reset_nil w4) ?_
    rintro v w5 ⟨rfl, rfl⟩
    refine ⟨rfl, fun w6 e6 => ?_⟩
    refine step_call (Note_nil w6 _ _ _) ?_
    rintro v w7 ⟨rfl, rfl⟩
    refine ⟨_, _, rfl, iteT rfl ?_⟩
    refine step_call (Late_nil _) ?_
    rintro v w8 ⟨rfl, rfl⟩
    refine ⟨_, rfl, iteT rfl ?_⟩
    refine step_call (Over_nil _) ?_
    rintro v w9 ⟨rfl, hc9⟩
    exact ⟨_, rfl, rfl, (hc4.andN (Ch.alloc (F := Non) e6)).andN hc9⟩
  refine ⟨fun allA allN allC i k w4 => ∃ (j : Nat) (xs : List Bool) (F G : Nat → Prop), i = j ∧ j ≤ rows.length ∧ j ≤ 40 ∧ k = rows.length - j ∧ xs.length ≤ 20 * j ∧ allN = xs.length ∧
    Own w4 t_bool 1 allA allN allC (xs.map .bool) G ∧ WatchR w4 w1.heap.size (goods xs) (bads xs) window limit (lastN window xs) F ∧ Foot W w4 F ∧ Foot W w4 G ∧ Apart F G ∧ Ch Non W w4,
    ⟨_, 0, [], New w1 w2, New w2 w3, rfl, Nat.zero_le _, Nat.zero_le _, rfl, Nat.zero_le _, rfl, ho3, ?_, hF2.le (by rw [e3]; simp), Foot.new hc02, Apart.new hF2, hc03⟩, ?_⟩
  · have := hW2.keepN (Ch.alloc e3)
    simpa [goods, bads, lastN] using this
  rintro jk allA allN allC i k w4 ⟨j, xs, F, G, rfl, hj, hj40, rfl, hxs, rfl, ho, hWt, hF, hG, hFG, hc4⟩
  refine ⟨fun hlt => ?_, fun hge => last w4 hc4⟩
  have hlt : j < rows.length := by simpa using hlt
  refine ⟨fun hlt40 => ?_, fun _ => last w4 hc4⟩
  have hlt40 : j < 40 := by simp at hlt40; omega
  -- the row
  obtain ⟨⟨ro, rc, row⟩, hrow⟩ : ∃ r, rows[j] = r := ⟨_, rfl⟩
  obtain ⟨hr1, hr2, hr3, hrr⟩ : row.length ≤ rc ∧ rc ≤ maxLen ∧ _ ∧ Rd W ro (row.map .bool) (fun _ => True) := by have := hrows rows[j] (List.getElem_mem _); rw [hrow] at this; exact this
  have rdrow : ∀ {w : World}, Ch Non W w → ∀ {K : Addr → Prop}, (∀ p : Addr, w.cell? (p.add ((j : Int).toNat * 1)) = some (.slice ro row.length rc) → K p) → someV o K := fun hc _ hk =>
    (hrd.keepN hc).at (j := (j : Int).toNat * 1) (v := .slice ro row.length rc) (by rw [Int.toNat_natCast, Nat.mul_one, List.getElem?_map, List.getElem?_eq_getElem hlt, hrow]; rfl) hk
  refine ⟨⟨by omega, by omega⟩, rdrow hc4 fun p hp => ⟨ro, row.length, rc, hp, fun _ => ⟨rfl, hc4⟩, fun hle => ?_⟩⟩
  have hle : row.length ≤ 20 := by simp at hle; omega
  clear hp
  refine ⟨fun allA allN allC over x k w5 => ∃ (m : Nat) (G : Nat → Prop), x = m ∧ m ≤ row.length ∧ k = row.length - m ∧ over = overs window limit (lastN window xs) (row.take m) ∧ allN = xs.length + m ∧
    Own w5 t_bool 1 allA allN allC ((xs ++ row.take m).map .bool) G ∧ WatchR w5 w1.heap.size (goods xs) (bads xs) window limit (lastN window xs) F ∧ Foot W w5 F ∧ Foot W w5 G ∧ Apart F G ∧ Ch Non W w5,
    ⟨_, 0, G, rfl, Nat.zero_le _, rfl, rfl, rfl, by simpa using ho, hWt, hF, hG, hFG, hc4⟩, ?_⟩
  clear ho hWt hF hG hFG hc4
  rintro jk allA allN allC over x k w5 ⟨m, G, rfl, hm, rfl, rfl, rfl, ho, hWt, hF, hG, hFG, hc5⟩
  refine ⟨⟨by omega, by omega⟩, rdrow hc5 fun p hp => ⟨ro, row.length, rc, hp, fun hlt2 => ?_, fun hge => ?_⟩⟩
  · have hlt2 : m < row.length := by simpa using hlt2
    refine ⟨⟨by omega, by omega⟩, rdrow hc5 fun p hp => ⟨ro, row.length, rc, hp, ⟨by omega, by omega⟩, (hrr.keepN hc5).at (j := (m : Int).toNat * 1) (v := .bool row[m]) (by simp [hlt2]) fun p3 hp3 => ⟨row[m], hp3, fun w6 e6 => ?_⟩⟩⟩
    obtain ⟨o', c', w7, hr, ho7, hc7⟩ := Own.push el_S_bool ho t_S_bool e6 rfl rfl (by unfold maxLen; omega) (by omega)
    refine ⟨o', _, c', w7, hr, ?_⟩
    have hall : (xs ++ row.take m).map Value.bool ++ [.bool row[m]] = (xs ++ row.take (m + 1)).map .bool := by rw [take_snoc row m hlt2]; simp only [List.map_append, List.map_cons, List.map_nil, List.append_assoc]
    have ho7' : Own w7 t_bool 1 o' (xs.length + m + 1) c' ((xs ++ row.take (m + 1)).map .bool) (Ext G w5 w7) := by rw [← hall]; exact ho7
    have hlen : (xs ++ row.take (m + 1)).length = xs.length + m + 1 := by simp; omega
    have hWt7 := hWt.keep hc7 (fun i _ hi => hFG i hi)
    have hc07 := hG.hi hc5 hc7
    have hF7 := hF.le hc7.size
    have hG7 := hG.ext hc5 hc7.size
    have hFG7 := hFG.extR hF (w' := w7)
    have hts := take_snoc row m hlt2
    have hov := overs_snoc window limit (lastN window xs) (row.take m) row[m]
    rw [← hts, pushes_lastN hw1] at hov
    have hwr : IntKind.i64.wrap ((m : Int) + 1) = ((m + 1 : Nat) : Int) := by rw [wrap_id (by omega) (by omega)]; rfl
    refine ⟨fun hover => ?_, fun hover => ?_⟩
    · exact ⟨row.length - (m + 1), by omega, m + 1, Ext G w5 w7, hwr, hlt2, rfl, by rw [hov, hover, Bool.true_or], by omega, ho7', hWt7, hF7, hG7, hFG7, hc07⟩
    · have hsp := rLate_spec (window := window) ho7'.rd (by omega) ⟨hw1, by omega⟩ (c := c')
      rw [hlen] at hsp
      refine step_call hsp ?_
      rintro v w8 ⟨rfl, rfl⟩
      exact ⟨_, rfl, row.length - (m + 1), by omega, m + 1, Ext G w5 w8, hwr, hlt2, rfl, by rw [hov, hover, Bool.false_or], by omega, ho7', hWt7, hF7, hG7, hFG7, hc07⟩
  have : m = row.length := by simp at hge; omega
  subst this
  clear hp
  rw [List.take_length] at *
  have hxl : (xs ++ row).length = xs.length + row.length := by simp
  refine ⟨⟨by omega, by omega⟩, rdrow hc5 fun p hp => ⟨ro, row.length, rc, hp, ?_⟩⟩
  have hgx := goods_le xs
  have hbx := bads_le xs
  refine step_call (Note_spec hWt ((hrr.mono (G := fun i => i < W.heap.size) (fun i hi _ => hi)).keepN hc5) (fun i h1 h2 => absurd h1 (Nat.not_lt.2 (hF i h2).1)) (by omega) (by omega) (by omega) ⟨lastN_le window xs (by omega), by omega⟩) ?_
  rintro v w9 ⟨rfl, hW9, hc9⟩
  refine ⟨_, _, rfl, iteF (by simp) (iteF rfl ?_)⟩
  rw [pushes_lastN hw1] at hW9
  have eg : goods xs + goods row = goods (xs ++ row) := by unfold goods; rw [List.countP_append]; omega
  have eb : bads xs + bads row = bads (xs ++ row) := by unfold bads; rw [List.countP_append]; omega
  rw [eg, eb] at hW9
  have hc09 := hF.hi hc5 hc9
  have hF9 := hF.ext hc5 hc9.size
  have hG9 := hG.le hc9.size
  have hFG9 := hFG.extL hG (w' := w9)
  have ho9 := ho.keepA hc9 hFG.symm
  -- the slice as it goes on, and the watch
  refine ⟨fun allA allN allC w => ∃ (ys : List Bool) (F G : Nat → Prop), ys.length ≤ 20 * (j + 1) ∧ allN = ys.length ∧ Own w t_bool 1 allA allN allC (ys.map .bool) G ∧
    WatchR w w1.heap.size (goods ys) (bads ys) window limit (lastN window ys) F ∧ Foot W w F ∧ Foot W w G ∧ Apart F G ∧ Ch Non W w, ?_, ?_⟩
  · refine ⟨⟨by omega, by omega⟩, rdrow hc09 fun p hp => ⟨ro, row.length, rc, hp, fun _ => ?_, fun _ => ⟨xs ++ row, _, _, by rw [hxl]; omega, hxl.symm, ho9, hW9, hF9, hG9, hFG9, hc09⟩⟩⟩
    refine step_call (Reset_spec hW9) ?_
    rintro v w10 ⟨rfl, hW10, hc10⟩
    refine ⟨rfl, [], _, Non, Nat.zero_le _, rfl, Own.nil _ _ _ _, ?_, hF9.le hc10.size, fun i h => h.elim, Apart.non _, hF9.hi hc09 hc10⟩
    simpa [goods, bads, lastN] using hW10
  clear hW9 hF9 hG9 hFG9 ho9 hc09 hc9 ho hWt hF hG hFG hc5 hp
  rintro jk allA allN allC w11 ⟨ys, F, G, hys, rfl, ho, hWt, hF, hG, hFG, hc⟩
  refine step_call (rLate_spec ho.rd (by omega) ⟨hw1, by omega⟩) ?_
  rintro v w12 ⟨rfl, rfl⟩
  refine ⟨_, rfl, fun w => Ch Non w12 w, fun w13 e13 => ⟨Ch.drew e13, ?_⟩⟩
  have hd : Ch Non w12 w13 := Ch.drew e13
  refine step_call (Late_spec (hWt.keepN hd)) ?_
  rintro v w14 ⟨rfl, rfl⟩
  refine ⟨_, rfl, hd, iteF (by simp) ?_⟩
  refine step_call (Over_spec (hWt.keepN hd)) ?_
  rintro v w15 ⟨rfl, h15⟩
  have h15 := hd.andN h15
  have hb := hWt
  obtain ⟨wo, wn, wc, hbk, _, _⟩ := hb
  refine ⟨_, rfl, h15, iteF (by simp) ⟨goods ys, fun w hw => (hbk.keepN hw).cell 0 rfl, ?_⟩⟩
  refine step_call (rCount_spec (ho.keepN h15).rd (by omega) true) ?_
  rintro v w17 ⟨rfl, rfl⟩
  refine ⟨_, rfl, h15, iteF (by simp [many]) ⟨bads ys, fun w hw => by rw [add_at]; exact (hbk.keepN hw).cell 1 rfl, ?_⟩⟩
  refine step_call (rCount_spec (ho.keepN h15).rd (by omega) false) ?_
  rintro v w19 ⟨rfl, rfl⟩
  have hgy := goods_le ys
  have hby := bads_le ys
  refine ⟨_, rfl, h15, iteF (by simp [many]) ⟨goods ys, bads ys, ⟨fun w hw => (hbk.keepN hw).cell 0 rfl, fun w hw => by rw [add_at]; exact (hbk.keepN hw).cell 1 rfl⟩, ?_⟩⟩
  refine step_call (Total_spec _ _ _ (by omega) (by omega)) ?_
  rintro v w21 ⟨rfl, h21⟩
  have h21 := h15.andN h21
  refine ⟨_, rfl, h21, iteF (by rw [bads_goods]; simp) ?_⟩
  exact ⟨rows.length - (j + 1), by omega, j + 1, ys, F, G, by rw [wrap_id (by omega) (by omega)]; rfl, hlt, by omega, rfl, hys, rfl, ho.keepN h21, hWt.keepN h21, hF.le h21.size, hG.le h21.size, hFG, hc.andN h21⟩
end Go.Proofs.Ytddgcdlljkooiaa.Health
