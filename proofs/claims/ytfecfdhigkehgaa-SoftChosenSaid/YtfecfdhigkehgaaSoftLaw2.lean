/- SoftWithin's and SoftChosen's contracts: of all weights, rows and draws the Go functions answer true and leave what was there; the conditions stand in each theorem. -/
import Derived.Test.YtfecfdhigkehgaaSoftLaw1
set_option linter.unusedVariables false
set_option linter.unusedSimpArgs false
namespace Go.Proofs.Ytfecfdhigkehgaa.Soft
open Go Go.Proofs Go.Proofs.Ytfecfdhigkehgaa.V Go.Proofs.Ytfecfdhigkehgaa.Vc Go.Proofs.Ytfecfdhigkehgaa.Num Go.RowKit

/-- Whole quotients, towards 0, lie between what bounds the fraction. -/
theorem tdiv_between {S s low high : Int} (hs : 0 < s) (h1 : low * s ≤ S) (h2 : S ≤ high * s) : low ≤ Int.tdiv S s ∧ Int.tdiv S s ≤ high := by
  by_cases h : 0 ≤ S
  · rw [Int.tdiv_eq_ediv_of_nonneg h]
    exact ⟨(Int.le_ediv_iff_mul_le hs).2 h1, Int.ediv_le_of_le_mul hs h2⟩
  · have e : Int.tdiv S s = -((-S) / s) := by
      rw [← Int.tdiv_eq_ediv_of_nonneg (show 0 ≤ -S by omega), Int.neg_tdiv]; omega
    rw [e]
    have a : (-S) / s ≤ -low := Int.ediv_le_of_le_mul hs (by rw [Int.neg_mul]; omega)
    have b : -high ≤ (-S) / s := (Int.le_ediv_iff_mul_le hs).2 (by rw [Int.neg_mul]; omega)
    omega
theorem zip_bd {β : Type} {f : β → Int} {low high : Int} : ∀ (ws : List Int) (zs : List β), ws.length = zs.length → (∀ n ∈ ws, 0 ≤ n) → (∀ z ∈ zs, low ≤ f z ∧ f z ≤ high) → low * ws.sum ≤ (List.zipWith (fun a z => a * f z) ws zs).sum ∧ (List.zipWith (fun a z => a * f z) ws zs).sum ≤ high * ws.sum
  | [], [], _, _, _ => by simp
  | n :: ws, z :: zs, h, h1, h2 => by
    have ih := zip_bd (f := f) (low := low) (high := high) ws zs (by simpa using h) (fun m hm => h1 m (by simp [hm])) (fun m hm => h2 m (by simp [hm]))
    have hn := h1 n (by simp)
    have hz := h2 z (by simp)
    have a := Int.mul_le_mul_of_nonneg_left hz.1 hn
    have b := Int.mul_le_mul_of_nonneg_left hz.2 hn
    rw [Int.mul_comm n low] at a
    rw [Int.mul_comm n high] at b
    simp only [List.zipWith_cons_cons, List.sum_cons, Int.mul_add]
    omega
  | [], _ :: _, h, _, _ => by simp at h
  | _ :: _, [], h, _, _ => by simp at h
theorem sum_dbl : ∀ l : List Int, (l.map fun x => 2 * x).sum = 2 * l.sum
  | [] => by simp
  | x :: r => by simp only [List.map_cons, List.sum_cons, sum_dbl r, Int.mul_add]
theorem mix_dbl {ws : List Int} {zs : List RowD} (h : ∀ n ∈ ws, 0 ≤ n ∧ n ≤ 32768) : mixT (ws.map fun x => 2 * x) zs = mixT ws zs := by
  have hb : ∀ {l : List Int}, (∀ n ∈ l, 0 ≤ n ∧ n ≤ 65536) → l.any badW = false := fun {l} hl => by
    rw [List.any_eq_false]; intro n hn; have := hl n hn; unfold badW; simp; omega
  have b1 := hb (l := ws) (fun n hn => by have := h n hn; omega)
  have b2 := hb (l := ws.map fun x => 2 * x) (fun n hn => by
    obtain ⟨m, hm, rfl⟩ := List.mem_map.1 hn
    have := h m hm; omega)
  have hok : mixOk (ws.map fun x => 2 * x) zs = mixOk ws zs := by
    unfold mixOk
    rw [b1, b2, sum_dbl, List.length_map]
    rw [decide_eq_decide.2 (show 2 * ws.sum ≠ 0 ↔ ws.sum ≠ 0 by omega)]
  unfold mixT
  rw [hok]
  split
  · unfold mixL
    apply List.map_congr_left
    intro k _
    have e : mixTerm (ws.map fun x => 2 * x) zs k = (mixTerm ws zs k).map fun x => 2 * x := by
      unfold mixTerm
      rw [List.zipWith_map_left, List.map_zipWith]
      congr 1
      funext a z
      rw [Int.mul_assoc]
    rw [e, sum_dbl, sum_dbl, Int.mul_tdiv_mul_of_pos _ _ (by omega)]
  · rfl
theorem cl_id {x : Int} (h1 : -32767 ≤ x) (h2 : x ≤ 32767) : cl x = x := clamp_id (by omega) (by omega)
theorem mix_one {z : RowD} (h : ∀ x ∈ z.2.2, -32767 ≤ x ∧ x ≤ 32767) : mixT [5] [z] = z.2.2 := by
  have hw : wid [z] = z.2.2.length := rfl
  have hok : mixOk [5] [z] = true := by
    unfold mixOk sameL
    rw [hw]; simp [badW]
  unfold mixT
  rw [hok, if_pos rfl]
  unfold mixL
  rw [hw]
  apply List.ext_getElem
  · simp
  · intro i h1 h2
    have hx := h _ (List.getElem_mem h2)
    have e : mixTerm [5] [z] i = [5 * cl z.2.2[i]] := by simp [mixTerm, List.getD_eq_getElem?_getD, List.getElem?_eq_getElem h2]
    rw [List.getElem_map, List.getElem_range, e, cl_id hx.1 hx.2]
    have : [5 * z.2.2[i]].sum = 5 * z.2.2[i] := by simp
    have h5 : ([5] : List Int).sum = 5 := by simp
    rw [this, h5, Int.mul_tdiv_cancel_left _ (by omega)]
    exact sat_id hx.1 hx.2
theorem mix_within {ws : List Int} {zs : List RowD} {k : Nat} {low high : Int} (hact : ∀ z ∈ zs, ∀ x ∈ z.2.2, -32767 ≤ x ∧ x ≤ 32767) (hk : k < (mixT ws zs).length)
    (hb : ∀ (i : Nat) (h : i < zs.length), low ≤ zs[i].2.2.getD k 0 ∧ zs[i].2.2.getD k 0 ≤ high) : low ≤ (mixT ws zs)[k] ∧ (mixT ws zs)[k] ≤ high := by
  have hok : mixOk ws zs = true := by
    cases h : mixOk ws zs with
    | true => rfl
    | false => unfold mixT at hk; rw [h] at hk; simp at hk
  obtain ⟨h0, h1, hgood, hs0, hall⟩ := mixOk_parts hok
  have e : mixT ws zs = mixL ws zs := by unfold mixT; rw [hok]; rfl
  have hval : (mixT ws zs)[k] = sat (Int.tdiv (mixTerm ws zs k).sum ws.sum) := by
    simp only [e]; simp [mixL]
  have hkw : k < wid zs := by rw [e] at hk; simpa [mixL] using hk
  have hs : 0 ≤ ws.sum := by
    have := zip_bd (f := fun _ : Int => (0 : Int)) (low := 0) (high := 0) ws ws rfl (fun n hn => (hgood n hn).1) (fun z _ => ⟨Int.le_refl _, Int.le_refl _⟩)
    clear this hs0 hval e hk hok hb h1 h0 hall
    induction ws with
    | nil => simp
    | cons x r ih => rw [List.sum_cons]; have := hgood x (by simp); have := ih (fun n hn => hgood n (by simp [hn])); omega
  have act : ∀ z ∈ zs, -32767 ≤ z.2.2.getD k 0 ∧ z.2.2.getD k 0 ≤ 32767 := fun z hz => by
    have hkz : k < z.2.2.length := by rw [hall z hz]; exact hkw
    rw [List.getD_eq_getElem?_getD, List.getElem?_eq_getElem hkz]
    exact hact z hz _ (List.getElem_mem hkz)
  have hterm : mixTerm ws zs k = List.zipWith (fun a z => a * (fun z : RowD => cl (z.2.2.getD k 0)) z) ws zs := rfl
  have cle : ∀ z ∈ zs, cl (z.2.2.getD k 0) = z.2.2.getD k 0 := fun z hz => cl_id (act z hz).1 (act z hz).2
  have b1 := zip_bd (f := fun z : RowD => cl (z.2.2.getD k 0)) (low := low) (high := high) ws zs h1 (fun n hn => (hgood n hn).1) (fun z hz => by
    obtain ⟨i, hi, rfl⟩ := List.getElem_of_mem hz
    rw [cle _ (List.getElem_mem hi)]; exact hb i hi)
  have b2 := zip_bd (f := fun z : RowD => cl (z.2.2.getD k 0)) (low := -32767) (high := 32767) ws zs h1 (fun n hn => (hgood n hn).1) (fun z hz => by
    rw [cle z hz]; exact act z hz)
  rw [← hterm] at b1 b2
  have c1 := tdiv_between (s := ws.sum) (by omega) b1.1 b1.2
  have c2 := tdiv_between (s := ws.sum) (by omega) b2.1 b2.2
  rw [hval, sat_id c2.1 c2.2]
  exact c1
theorem SoftWithin_true (W : World) (o0 : Option Addr) (n0 c0 : Nat) (h0 : DatC Try.prog W t_S_int [.slice o0 n0 c0]) (o1 : Option Addr) (n1 c1 : Nat) (h1 : DatC Try.prog W t_S_S_int [.slice o1 n1 c1]) :
    Calls Try.prog i_coadjutorlaw12_SoftWithin #[.slice o0 n0 c0, .slice o1 n1 c1] W (Ret fun v w' => v = .bool true ∧ Ch Non W w') := by
  obtain ⟨o0', c0', ws, hcs0, _, _, _, _, hw⟩ := h0.ints (e := t_int) (k := .i64) (by kernel_rfl) (by kernel_rfl)
  injection hcs0 with hcs0
  injection hcs0 with q1 q2 q3
  subst q1; subst q2; subst q3
  obtain ⟨o1', c1', zs, hcs, hm1, hm2, hm3, hzs, hz⟩ := h1.intRows (e := t_S_int) (g := t_int) (k := .i64) (by kernel_rfl) (by kernel_rfl) (by kernel_rfl)
  injection hcs with hcs
  injection hcs with q1 q2 q3
  subst q1; subst q2; subst q3
  have hz : Rd W o1 (zs.map encR) (fun _ => True) := hz
  refine coadjutorlaw12_SoftWithin.calls _ _ _ _ _ _ ?_
  unfold coadjutorlaw12_SoftWithin.vc
  refine step_call (awake_spec W) ?_
  rintro v w1 ⟨rfl, hC⟩
  refine ⟨_, rfl, iteF rfl ⟨fun _ => ⟨rfl, hC⟩, fun hl => ⟨fun _ => ⟨rfl, hC⟩, fun hp => ⟨fun _ => ⟨rfl, hC⟩, fun heq => ?_⟩⟩⟩⟩
  have hl := of_decide_eq_false hl
  have hp : 0 < zs.length := by simp at hp; exact List.length_pos_iff.2 hp
  have heq : ws.length = zs.length := by simp at heq; omega
  have hz0 : ∀ {w'}, Ch Non W w' → ∀ {K : Addr → Prop}, (∀ p : Addr, w'.cell? p = some (encR zs[0]) → K p) → someV o1 K := by
    intro w' h K hk
    exact (hz.keepN h).at0 (v := encR zs[0]) (by rw [List.getElem?_map, List.getElem?_eq_getElem hp]; rfl) hk
  refine ⟨⟨by omega, by omega⟩, hz0 hC fun p hp' => ⟨_, _, _, hp', fun _ => ⟨rfl, hC⟩, fun h10 w2 e2 => ?_⟩⟩
  have h10 := of_decide_eq_false h10
  have h10 : zs[0].2.2.length ≤ 10 := by omega
  rw [← wid_pos hp] at h10
  have hD : (ws.map fun x => 2 * x).length = ws.length := by simp
  have hDi : ∀ (j : Nat) (h : j < (ws.map fun x => 2 * x).length) (h2 : j < ws.length), (ws.map fun x => 2 * x)[j] = 2 * ws[j] := fun j h h2 => by simp
  have hdbl := mix_dbl (ws := ws) (zs := zs)
  generalize (ws.map fun x => 2 * x) = D at hD hDi hdbl
  refine ⟨fun A j CC k x w' => k = j ∧ j ≤ D.length ∧ x = D.length - j ∧ Gr Non w1 w' t_int 1 A j CC ((D.take j).map (.int .i64)) ∧ (∀ n ∈ ws.take j, 0 ≤ n ∧ n ≤ 32768) ∧ (∀ z ∈ zs.take j, z.2.2.length = wid zs) ∧ ∀ z ∈ zs.take j, ∀ x ∈ z.2.2, -32767 ≤ x ∧ x ≤ 32767, ⟨_, rfl, Nat.zero_le _, rfl, Gr.made0 (Ch.refl _ _) e2, fun n hn => by simp at hn, fun n hn => by simp at hn, fun n hn => by simp at hn⟩, ?_⟩
  rintro jk A j CC k x w3 ⟨rfl, hj, rfl, hg, hgood, hall, hact⟩
  refine ⟨fun hlt => ?_, fun hge => ?_⟩
  · have hlt : j < zs.length := by have := of_decide_eq_true hlt; omega
    have hltw : j < ws.length := by omega
    have hltD : j < D.length := by omega
    have hC3 := hC.andN hg.2
    refine ⟨fun w' => Ch Non w3 w', fun w4 e4 => ?_⟩
    have hc4 : Ch Non w3 w4 := Ch.drew e4
    have hC4 := hC3.andN hc4
    have rw4 : ∀ {K : Addr → Prop}, (∀ p : Addr, (∀ w', Ch Non w3 w' → w'.cell? (p.add ((j : Int).toNat * 1)) = some (.int .i64 ws[j])) → K p) → someV o0 K := fun hk =>
      Rd.keeps (j := j) (S := fun w' => Ch Non w3 w') (fun w2 h2 => (hw.keepN hC3).keepN h2) hc4 hltw fun p hp => hk p (fun w' h => by rw [toNat_mul_one]; exact hp w' h)
    refine ⟨hc4, ⟨by omega, by omega⟩, Rd.keeps (j := j) (S := fun w' => Ch Non w3 w') (fun w2 h2 => (hz.keepN hC3).keepN h2) hc4 hlt fun p hp' => ⟨_, _, _, fun w' h => by rw [toNat_mul_one]; exact hp' w' h, ⟨by omega, by omega⟩,
      Rd.keeps (j := 0) (S := fun w' => Ch Non w3 w') (fun w2 h2 => (hz.keepN hC3).keepN h2) hc4 hp fun p2 hp2 => ⟨_, _, _, fun w' h => by have := hp2 w' h; rw [add_none] at this; exact this, fun _ => ⟨rfl, hC4⟩, fun heq2 => ⟨⟨by omega, by omega⟩,
      rw4 fun p3 hp3 => ⟨_, hp3, fun _ => ⟨rfl, hC4⟩, fun g1 => ⟨⟨by omega, by omega⟩, rw4 fun p4 hp4 => ⟨_, hp4, fun _ => ⟨rfl, hC4⟩, fun g2 => ⟨⟨by omega, by omega⟩, rw4 fun p5 hp5 => ⟨_, hp5 w4 hc4, fun w9 e9 => ?_⟩⟩⟩⟩⟩⟩⟩⟩⟩
    have heq2 : zs[j].2.2.length = zs[0].2.2.length := by simp at heq2; omega
    rw [← wid_pos hp] at heq2
    have g1 := of_decide_eq_false g1
    have g2 := of_decide_eq_false g2
    rw [wrap_id (by omega) (by omega), ← hDi j hltD hltw] at e9
    obtain ⟨A', C', w10, hr, hg10, _⟩ := (hg.keepN hc4).next el_S_int t_S_int hltD (by omega) e9 rfl rfl (by omega)
    have hC10 := hC.andN hg10.2
    have hzj := hz.keepN hC10
    have hej := (hzs _ (List.getElem_mem hlt)).2.2.2.2.keepN hC10
    have rz : ∀ {K : Addr → Prop}, (∀ p : Addr, w10.cell? (p.add ((j : Int).toNat * 1)) = some (encR zs[j]) → K p) → someV o1 K := fun hk => hzj.at (j := (j : Int).toNat * 1) (v := encR zs[j]) (by simp [hlt]) hk
    refine ⟨A', _, C', w10, hr, fun i k w' => w' = w10 ∧ ∃ m : Nat, i = m ∧ m ≤ zs[j].2.2.length ∧ k = zs[j].2.2.length - m ∧ ∀ x ∈ zs[j].2.2.take m, -32767 ≤ x ∧ x ≤ 32767, ⟨_, rfl, 0, rfl, Nat.zero_le _, rfl, fun x hx => by simp at hx⟩, ?_⟩
    rintro jk i k w' ⟨rfl, m, rfl, hm, rfl, hall2⟩
    refine ⟨⟨by omega, by omega⟩, rz fun p hp' => ⟨_, _, _, hp', fun hlt2 => ?_, fun hge2 => ?_⟩⟩
    · have hlt2 : m < zs[j].2.2.length := by have := of_decide_eq_true hlt2; omega
      have re : ∀ {K : Addr → Prop}, (∀ p : Addr, w'.cell? (p.add ((m : Int).toNat * 1)) = some (.int .i64 zs[j].2.2[m]) → K p) → someV zs[j].1 K := fun hk => hej.at (j := (m : Int).toNat * 1) (v := .int .i64 zs[j].2.2[m]) (by simp [hlt2]) hk
      refine ⟨⟨by omega, by omega⟩, rz fun p hp' => ⟨_, _, _, hp', ⟨by omega, by omega⟩, re fun p hp' => ⟨_, hp', fun _ => ⟨rfl, hC10⟩, fun q1 => ⟨⟨by omega, by omega⟩, rz fun p hp' => ⟨_, _, _, hp', ⟨by omega, by omega⟩, re fun p hp' => ⟨_, hp', fun _ => ⟨rfl, hC10⟩, fun q2 => ?_⟩⟩⟩⟩⟩⟩
      have q1 := of_decide_eq_false q1
      have q2 := of_decide_eq_false q2
      refine ⟨zs[j].2.2.length - (m + 1), by omega, rfl, m + 1, by rw [wrap_id (by omega) (by omega)]; rfl, hlt2, rfl, fun x hx => ?_⟩
      rw [take_snoc _ m hlt2, List.mem_append, List.mem_singleton] at hx
      rcases hx with hx | rfl
      · exact hall2 x hx
      · omega
    · have : m = zs[j].2.2.length := by have := of_decide_eq_false hge2; omega
      rw [this, List.take_length] at hall2
      refine ⟨D.length - (j + 1), by omega, by rw [wrap_id (by omega) (by omega)]; rfl, hltD, rfl, hg10, fun n hn => ?_, fun z hzm => ?_, fun z hzm => ?_⟩
      · rw [take_snoc ws j hltw, List.mem_append, List.mem_singleton] at hn
        rcases hn with hn | rfl
        · exact hgood n hn
        · omega
      · rw [take_snoc zs j hlt, List.mem_append, List.mem_singleton] at hzm
        rcases hzm with hzm | rfl
        · exact hall z hzm
        · exact heq2
      · rw [take_snoc zs j hlt, List.mem_append, List.mem_singleton] at hzm
        rcases hzm with hzm | rfl
        · exact hact z hzm
        · exact hall2
  have hjl : j = D.length := by have := of_decide_eq_false hge; omega
  subst hjl
  rw [List.take_length] at hg
  rw [List.take_of_length_le (by omega)] at hgood hall hact
  have hdbl := hdbl hgood
  have hzz : ∀ z ∈ zs, Rd W z.1 (z.2.2.map (.int .i64)) (fun _ => True) ∧ z.2.2.length ≤ 1000000 := fun z hzm => ⟨(hzs z hzm).2.2.2.2, by have := hall z hzm; omega⟩
  have hC := hC.andN hg.2
  refine step_call (Mix_spec (hw.keepN hC) (hz.keepN hC) (fun z hzm => ⟨(hzz z hzm).1.keepN hC, (hzz z hzm).2⟩) (by omega) (by omega) c0 c1) ?_
  rintro v w12 ⟨Am, Cm, rfl, hgm⟩
  have hC := hC.andN hgm.2
  have hg := hg.keepN hgm.2
  have hml := mixT_len (ws := ws) (zs := zs) (by omega)
  have hone := mix_one (z := zs[0]) (hact _ (List.getElem_mem hp))
  have hr0 := (hzz _ (List.getElem_mem hp)).1
  have hl0 : zs[0].2.2.length ≤ 10 := by rw [← wid_pos hp]; exact h10
  refine ⟨_, _, _, rfl, fun w' => Ch Non w12 w', ⟨fun w' => Ch Non w12 w', fun w13 e13 => ?_⟩, ?_⟩
  · have hc13 : Ch Non w12 w13 := Ch.drew e13
    refine ⟨hc13, ?_⟩
    have sp := Mix_spec (hg.keepN hc13).rd ((hz.keepN hC).keepN hc13) (fun z hzm => ⟨((hzz z hzm).1.keepN hC).keepN hc13, (hzz z hzm).2⟩) (by omega) (by omega) CC c1
    rw [hdbl] at sp
    refine step_call sp ?_
    rintro v w14 ⟨An, Cn, rfl, hgn⟩
    have hc14 := hc13.andN hgn.2
    have hgm' := hgm.keepN hc14
    refine ⟨_, _, _, rfl, hc14, ?_⟩
    refine step_call (ints_spec (xs := mixT ws zs) (ys := mixT ws zs) hgm'.rd hgn.rd hml) ?_
    rintro v w15 ⟨rfl, hc15⟩
    have hc15 := hc14.andN hc15
    have k0 : ∀ {K : Addr → Prop}, (∀ p : Addr, (∀ w', Ch Non w12 w' → w'.cell? p = some (encR zs[0])) → K p) → someV o1 K := fun hk =>
      Rd.keeps (j := 0) (S := fun w' => Ch Non w12 w') (fun w2 h2 => (hz.keepN hC).keepN h2) hc15 hp fun p2 hp2 => hk p2 (fun w' h => by have := hp2 w' h; rw [add_none] at this; exact this)
    refine ⟨_, rfl, hc15, iteF (by simp) ⟨⟨by omega, by omega⟩, k0 fun p hp1 => ⟨_, _, _, hp1, ⟨by omega, by omega⟩, k0 fun p hp2 => ⟨_, _, _, hp2, ⟨fun w18 e18 => ?_, fun w18 e18 => ?_, trivial⟩⟩⟩⟩⟩
    · have hc18 : Ch Non w15 w18 := Ch.alloc e18
      refine ⟨hc15.andN hc18, fun w19 e19 => ?_⟩
      have hc1819 : Ch Non w18 w19 := Ch.alloc e19
      have hc19 := (hc15.andN hc18).andN hc1819
      refine ⟨hc19, ?_⟩
      have r5 : Rd w18 (some ⟨w15.heap.size, 0, none⟩) (([5] : List Int).map (.int .i64)) (· = w15.heap.size) := (Blk.new e18).rd
      have r6 : Rd w19 (some ⟨w18.heap.size, 0, none⟩) (([zs[0]] : List RowD).map encR) (· = w18.heap.size) := (Blk.new e19).rd
      have sp := Mix_spec (ws := [5]) (zs := [zs[0]]) (K := fun _ => True) (r5.keepN hc1819) r6 (fun z hzm => by
        rw [List.mem_singleton] at hzm; subst hzm
        exact ⟨(hr0.keepN hC).keepN hc19, by omega⟩) (by simp) (by simp) 1 1
      rw [hone] at sp
      refine step_call sp ?_
      rintro v w20 ⟨Ao, Co, rfl, hgo⟩
      have hc20 := hc19.andN hgo.2
      refine ⟨_, _, _, rfl, hc20, ?_⟩
      refine step_call (ints_spec (xs := zs[0].2.2) (ys := zs[0].2.2) hgo.rd ((hr0.keepN hC).keepN hc20) (by omega)) ?_
      rintro v w21 ⟨rfl, hc21⟩
      have hc21 := hc20.andN hc21
      exact ⟨_, rfl, hc21, iteF (by simp) hc21⟩
    · have hc18 : Ch Non w15 w18 := Ch.alloc e18
      refine ⟨hc15.andN hc18, fun w19 e19 => ?_⟩
      have hc1819 : Ch Non w18 w19 := Ch.alloc e19
      have hc19 := (hc15.andN hc18).andN hc1819
      refine ⟨hc19, ?_⟩
      have r5 : Rd w19 (some ⟨w18.heap.size, 0, none⟩) (([5] : List Int).map (.int .i64)) (· = w18.heap.size) := (Blk.new e19).rd
      have r6 : Rd w18 (some ⟨w15.heap.size, 0, none⟩) (([zs[0]] : List RowD).map encR) (· = w15.heap.size) := (Blk.new e18).rd
      have sp := Mix_spec (ws := [5]) (zs := [zs[0]]) (K := fun _ => True) r5 (r6.keepN hc1819) (fun z hzm => by
        rw [List.mem_singleton] at hzm; subst hzm
        exact ⟨(hr0.keepN hC).keepN hc19, by omega⟩) (by simp) (by simp) 1 1
      rw [hone] at sp
      refine step_call sp ?_
      rintro v w20 ⟨Ao, Co, rfl, hgo⟩
      have hc20 := hc19.andN hgo.2
      refine ⟨_, _, _, rfl, hc20, ?_⟩
      refine step_call (ints_spec (xs := zs[0].2.2) (ys := zs[0].2.2) hgo.rd ((hr0.keepN hC).keepN hc20) (by omega)) ?_
      rintro v w21 ⟨rfl, hc21⟩
      have hc21 := hc20.andN hc21
      exact ⟨_, rfl, hc21, iteF (by simp) hc21⟩
  rintro jk w21 hc21
  have hmw : (mixT ws zs).length ≤ wid zs := by
    unfold mixT; split
    · simp [mixL]
    · simp
  refine ⟨fun i k w' => w' = w21 ∧ ∃ m : Nat, i = m ∧ m ≤ (mixT ws zs).length ∧ k = (mixT ws zs).length - m, ⟨_, rfl, 0, rfl, Nat.zero_le _, rfl⟩, ?_⟩
  rintro jk i k w22 ⟨rfl, m, rfl, hm, rfl⟩
  have hC := hC.andN hc21
  have hgm := hgm.keepN hc21
  refine ⟨fun hlt => ?_, fun _ => ⟨rfl, hC⟩⟩
  have hlt : m < (mixT ws zs).length := by have := of_decide_eq_true hlt; omega
  have hlen : ∀ (i : Nat) (h : i < zs.length), m < zs[i].2.2.length := fun i h => by rw [hall _ (List.getElem_mem h)]; omega
  have rz : ∀ {i : Nat} (hi : i < zs.length) {K : Addr → Prop}, (∀ p : Addr, w22.cell? (p.add ((i : Int).toNat * 1)) = some (encR zs[i]) → K p) → someV o1 K := by
    intro i hi K hk
    exact (hz.keepN hC).at (j := (i : Int).toNat * 1) (v := encR zs[i]) (by simp [hi]) hk
  have re : ∀ {i : Nat} (hi : i < zs.length) {K : Addr → Prop}, (∀ p : Addr, w22.cell? (p.add ((m : Int).toNat * 1)) = some (.int .i64 (zs[i].2.2[m]'(hlen i hi))) → K p) → someV zs[i].1 K := by
    intro i hi K hk
    exact ((hzz _ (List.getElem_mem hi)).1.keepN hC).at (j := (m : Int).toNat * 1) (v := .int .i64 (zs[i].2.2[m]'(hlen i hi))) (by simp [hlen i hi]) hk
  have gd : ∀ {i : Nat} (hi : i < zs.length), zs[i].2.2.getD m 0 = zs[i].2.2[m]'(hlen i hi) := by
    intro i hi
    rw [List.getD_eq_getElem?_getD, List.getElem?_eq_getElem (hlen i hi)]; rfl
  have b0 := hlen 0 hp
  refine ⟨⟨by omega, by omega⟩, hz0 hC fun p hp1 => ⟨_, _, _, hp1, ⟨by omega, by omega⟩, re hp fun p hp1 => ⟨_, hp1, ⟨by omega, by omega⟩, hz0 hC fun p hp1 => ⟨_, _, _, hp1, ⟨by omega, by omega⟩, re hp fun p hp1 => ⟨_, hp1, ?_⟩⟩⟩⟩⟩
  refine ⟨fun low high i k w' => w' = w22 ∧ ∃ n : Nat, i = n ∧ n ≤ zs.length ∧ k = zs.length - n ∧ ∀ (i : Nat) (h : i < zs.length), i < n → low ≤ zs[i].2.2.getD m 0 ∧ zs[i].2.2.getD m 0 ≤ high, ⟨_, rfl, 0, rfl, Nat.zero_le _, rfl, fun i h h2 => by omega⟩, ?_⟩
  rintro jk low high i k w' ⟨rfl, n, rfl, hn, rfl, hb⟩
  refine ⟨fun hlt2 => ?_, fun hge2 => ?_⟩
  · have hlt2 : n < zs.length := by have := of_decide_eq_true hlt2; omega
    have bn := hlen n hlt2
    refine ⟨⟨by omega, by omega⟩, rz hlt2 fun p hp1 => ⟨_, _, _, hp1, ⟨by omega, by omega⟩, re hlt2 fun p hp1 => ⟨_, hp1, ⟨by omega, by omega⟩, rz hlt2 fun p hp1 => ⟨_, _, _, hp1, ⟨by omega, by omega⟩, re hlt2 fun p hp1 => ⟨_, hp1, zs.length - (n + 1), by omega, rfl, n + 1, by rw [wrap_id (by omega) (by omega)]; rfl, hlt2, rfl, fun i h h2 => ?_⟩⟩⟩⟩⟩
    by_cases hi : i = n
    · subst hi
      rw [gd h]
      constructor <;> split <;> omega
    · have := hb i h (by omega)
      constructor <;> split <;> omega
  have hnz : n = zs.length := by have := of_decide_eq_false hge2; omega
  have hw := mix_within hact hlt (fun i h => hb i h (by omega))
  have rm : ∀ {K : Addr → Prop}, (∀ p : Addr, w'.cell? (p.add ((m : Int).toNat * 1)) = some (.int .i64 (mixT ws zs)[m]) → K p) → someV Am K := fun hk => hgm.rd.at (j := (m : Int).toNat * 1) (v := .int .i64 (mixT ws zs)[m]) (by simp [hlt]) hk
  exact ⟨⟨by omega, by omega⟩, rm fun p hp1 => ⟨_, hp1, iteF (decide_eq_false (by omega)) ⟨⟨by omega, by omega⟩, rm fun p hp1 => ⟨_, hp1, iteF (decide_eq_false (by omega)) ⟨(mixT ws zs).length - (m + 1), by omega, rfl, m + 1, by rw [wrap_id (by omega) (by omega)]; rfl, hlt, rfl⟩⟩⟩⟩⟩
/-- What comes ahead of the i-th. -/
def pre (ws : List Int) (i : Nat) : Int := (ws.take i).sum
theorem pre_succ {ws : List Int} {i : Nat} (h : i < ws.length) : pre ws (i + 1) = pre ws i + ws[i] := by
  unfold pre; rw [take_snoc ws i h, sum_snoc]
theorem pre_mono {ws : List Int} (h : ∀ n ∈ ws, 0 ≤ n) {i j : Nat} (hij : i ≤ j) (hj : j ≤ ws.length) : pre ws i ≤ pre ws j := by
  induction j with
  | zero => obtain rfl : i = 0 := by omega
            exact Int.le_refl _
  | succ j ih =>
    by_cases he : i = j + 1
    · rw [he]; exact Int.le_refl _
    · have := ih (by omega) (by omega)
      rw [pre_succ (by omega)]
      have := h _ (List.getElem_mem (show j < ws.length by omega))
      omega
theorem pick_spec : ∀ (ws : List Int) (d : Int) (i0 : Nat), (∀ n ∈ ws, 0 ≤ n) → 0 ≤ d → d < ws.sum → ∃ i, i < ws.length ∧ pick d ws i0 = ((i0 + i : Nat) : Int) ∧ pre ws i ≤ d ∧ d < pre ws (i + 1)
  | [], d, i0, _, h1, h2 => by simp at h2; omega
  | n :: r, d, i0, h, h1, h2 => by
    unfold pick
    split
    · rename_i hlt
      exact ⟨0, by simp, by simp, by simpa [pre] using h1, by simpa [pre] using hlt⟩
    · rename_i hge
      rw [List.sum_cons] at h2
      obtain ⟨i, a, b, c, e⟩ := pick_spec r (d - n) (i0 + 1) (fun m hm => h m (by simp [hm])) (by omega) (by omega)
      refine ⟨i + 1, by simp; omega, by rw [b]; congr 1; omega, ?_, ?_⟩
      · have : pre (n :: r) (i + 1) = n + pre r i := by simp [pre]
        omega
      · have : pre (n :: r) (i + 1 + 1) = n + pre r (i + 1) := by simp [pre]
        omega
/-- How often each was chosen by the draws below d. -/
def cnt (ws : List Int) (d : Int) (i : Nat) : Int := if d ≤ pre ws i then 0 else if pre ws (i + 1) ≤ d then pre ws (i + 1) - pre ws i else d - pre ws i
def cntL (ws : List Int) (d : Int) : List Int := (List.range ws.length).map (cnt ws d)
theorem cntL_len (ws : List Int) (d : Int) : (cntL ws d).length = ws.length := by simp [cntL]
theorem cntL_at {ws : List Int} {d : Int} {i : Nat} (h : i < (cntL ws d).length) : (cntL ws d)[i] = cnt ws d i := by simp [cntL]
theorem cntL_set {ws : List Int} (h : ∀ n ∈ ws, 0 ≤ n) {d : Int} {i : Nat} (hi : i < ws.length) (h1 : pre ws i ≤ d) (h2 : d < pre ws (i + 1)) : (cntL ws d).set i (cnt ws d i + 1) = cntL ws (d + 1) ∧ 0 ≤ cnt ws d i ∧ cnt ws d i ≤ pre ws (i + 1) - pre ws i := by
  have key : cnt ws d i + 1 = cnt ws (d + 1) i := by
    unfold cnt
    repeat' split
    all_goals omega
  refine ⟨?_, ?_, ?_⟩
  · apply List.ext_getElem
    · simp [cntL_len]
    · intro j a b
      rw [cntL_len] at b
      by_cases hj : i = j
      · subst hj
        rw [List.getElem_set_self, cntL_at, key]
      · rw [List.getElem_set_ne hj, cntL_at, cntL_at]
        have m1 := pre_mono h (show j ≤ j + 1 by omega) (by omega)
        unfold cnt
        rcases Nat.lt_or_ge i j with hlt | hge
        · have := pre_mono h (show i + 1 ≤ j by omega) (by omega)
          repeat' split
          all_goals omega
        · have := pre_mono h (show j + 1 ≤ i by omega) (by omega)
          repeat' split
          all_goals omega
  · unfold cnt
    repeat' split
    all_goals omega
  · unfold cnt
    repeat' split
    all_goals omega
theorem cntL_zero {ws : List Int} (h : ∀ n ∈ ws, 0 ≤ n) : cntL ws 0 = List.replicate ws.length 0 := by
  apply List.ext_getElem
  · simp [cntL]
  · intro i a b
    rw [cntL_at, List.getElem_replicate]
    rw [cntL_len] at a
    have := pre_mono h (show 0 ≤ i by omega) (by omega)
    have e : pre ws 0 = 0 := rfl
    unfold cnt
    rw [if_pos (by omega)]
theorem cntL_all {ws : List Int} (h : ∀ n ∈ ws, 0 ≤ n) : cntL ws ws.sum = ws := by
  apply List.ext_getElem
  · simp [cntL]
  · intro i a b
    rw [cntL_at]
    have e : pre ws ws.length = ws.sum := by unfold pre; rw [List.take_length]
    have m := pre_mono h (show i + 1 ≤ ws.length by omega) (Nat.le_refl _)
    have s := pre_succ b
    have hp := h _ (List.getElem_mem b)
    unfold cnt
    repeat' split
    all_goals omega
theorem choose_pick {ws : List Int} (h : ∀ n ∈ ws, 0 ≤ n ∧ n ≤ 9) (hl : ws.length ≤ 10) (draw : Int) : (ws.sum = 0 → chooseI draw ws = -1) ∧ (ws.sum ≠ 0 → chooseI draw ws = pick (draw % ws.sum) ws 0) := by
  have hb : ws.any badC = false := by
    rw [List.any_eq_false]; intro n hn; have := h n hn; unfold badC; simp; omega
  unfold chooseI
  rw [if_neg (by rw [hb]; simp; omega)]
  exact ⟨fun h => by rw [if_pos h], fun h => by rw [if_neg h]⟩
theorem SoftChosen_true (W : World) (o0 : Option Addr) (n0 c0 : Nat) (h0 : DatC Try.prog W t_S_int [.slice o0 n0 c0]) (draw : Int) (_ : (Lit.int .i64 draw).wf = true) :
    Calls Try.prog i_coadjutorlaw12_SoftChosen #[.slice o0 n0 c0, .int .i64 draw] W (Ret fun v w' => v = .bool true ∧ Ch Non W w') := by
  obtain ⟨o0', c0', ws, hcs0, _, _, _, _, hw⟩ := h0.ints (e := t_int) (k := .i64) (by kernel_rfl) (by kernel_rfl)
  injection hcs0 with hcs0
  injection hcs0 with q1 q2 q3
  subst q1; subst q2; subst q3
  refine coadjutorlaw12_SoftChosen.calls _ _ _ _ ?_
  unfold coadjutorlaw12_SoftChosen.vc
  refine step_call (awake_spec W) ?_
  rintro v w1 ⟨rfl, hC⟩
  refine ⟨_, rfl, iteF rfl ⟨fun _ => ⟨rfl, hC⟩, fun hl => ?_⟩⟩
  have hl := of_decide_eq_false hl
  have hl : ws.length ≤ 10 := by omega
  refine ⟨fun s i k w' => w' = w1 ∧ ∃ j : Nat, i = j ∧ j ≤ ws.length ∧ k = ws.length - j ∧ s = (ws.take j).sum ∧ ∀ n ∈ ws.take j, 0 ≤ n ∧ n ≤ 9, ⟨_, rfl, 0, rfl, Nat.zero_le _, rfl, rfl, fun n hn => by simp at hn⟩, ?_⟩
  rintro jk s i k w2 ⟨rfl, j, rfl, hj, rfl, rfl, hgood⟩
  have hbd : ∀ {l : List Int}, (∀ n ∈ l, 0 ≤ n ∧ n ≤ 9) → l.length ≤ 10 → -90 ≤ l.sum ∧ l.sum ≤ 90 := by
    intro l h1 h2
    have := sum_bd (b := 9) (l := l) (fun x hx => by have := h1 x hx; omega)
    omega
  refine ⟨fun hlt => ?_, fun hge => ?_⟩
  · have hlt : j < ws.length := by have := of_decide_eq_true hlt; omega
    have rd : ∀ {K : Addr → Prop}, (∀ p : Addr, w2.cell? (p.add ((j : Int).toNat * 1)) = some (.int .i64 ws[j]) → K p) → someV o0 K := fun hk => (hw.keepN hC).at (j := (j : Int).toNat * 1) (v := .int .i64 ws[j]) (by simp [hlt]) hk
    refine ⟨⟨by omega, by omega⟩, rd fun p hp => ⟨_, hp, fun _ => ⟨rfl, hC⟩, fun g1 => ⟨⟨by omega, by omega⟩, rd fun p hp => ⟨_, hp, fun _ => ⟨rfl, hC⟩, fun g2 => ⟨⟨by omega, by omega⟩, rd fun p hp => ⟨_, hp, ?_⟩⟩⟩⟩⟩⟩
    have g1 := of_decide_eq_false g1
    have g2 := of_decide_eq_false g2
    have hb := hbd hgood (by simp; omega)
    refine ⟨ws.length - (j + 1), by omega, rfl, j + 1, by rw [wrap_id (by omega) (by omega)]; rfl, hlt, rfl, ?_, fun n hn => ?_⟩
    · rw [take_snoc ws j hlt, sum_snoc, wrap_id (by omega) (by omega)]
    · rw [take_snoc ws j hlt, List.mem_append, List.mem_singleton] at hn
      rcases hn with hn | rfl
      · exact hgood n hn
      · omega
  have hjl : j = ws.length := by have := of_decide_eq_false hge; omega
  subst hjl
  rw [List.take_length] at hgood ⊢
  have hpos : ∀ n ∈ ws, 0 ≤ n := fun n hn => (hgood n hn).1
  have hb := hbd hgood hl
  have hsum0 : 0 ≤ ws.sum := by
    have := pre_mono hpos (show 0 ≤ ws.length by omega) (Nat.le_refl _)
    unfold pre at this
    rw [List.take_length] at this
    simpa using this
  refine ⟨fun hz => ?_, fun hz => ?_⟩
  · have hz : ws.sum = 0 := by simpa using hz
    refine step_call (Choose_spec (hw.keepN hC) (by omega) draw c0) ?_
    rintro v w3 ⟨rfl, rfl⟩
    exact ⟨_, rfl, by rw [(choose_pick hgood hl draw).1 hz]; rfl, hC⟩
  have hz : ws.sum ≠ 0 := by simpa using hz
  refine ⟨⟨rfl, by omega, by omega⟩, fun w4 e4 => ?_⟩
  rw [zeroRow_rep, Int.toNat_natCast] at e4
  have hB := Blk.new e4
  have hC4 : Ch Non w2 w4 := Ch.alloc e4
  have hub : W.heap.size ≤ w2.heap.size := hC.size
  have hub2 : w2.heap.size < w4.heap.size := hB.lt
  have hB : Blk w4 w2.heap.size ((cntL ws 0).map (.int .i64)) t_int := by rw [cntL_zero hpos]; simpa using hB
  have hC := hC.andN hC4
  clear hC4 e4
  generalize w2.heap.size = ub at hB hub hub2 ⊢
  refine ⟨fun d k w' => ∃ j : Nat, d = j ∧ d ≤ ws.sum ∧ k = (ws.sum - d).toNat ∧ Blk w' ub ((cntL ws d).map (.int .i64)) t_int ∧ Ch (· = ub) w4 w', ⟨_, 0, rfl, hsum0, rfl, hB, Ch.refl _ _⟩, ?_⟩
  rintro jk d k w5 ⟨d, rfl, hd, rfl, hB, hc5⟩
  have hC5 : Ch Non W w5 := hC.trans hc5 (fun i hi he => by omega)
  refine ⟨fun hlt => ?_, fun hge => ?_⟩
  · have hlt := of_decide_eq_true hlt
    refine step_call (Choose_spec (hw.keepN hC5) (by omega) d c0) ?_
    rintro v w6 ⟨rfl, rfl⟩
    rw [(choose_pick hgood hl d).2 hz, Int.emod_eq_of_lt (by omega) hlt]
    obtain ⟨i, hi, hp, p1, p2⟩ := pick_spec ws d 0 hpos (by omega) hlt
    rw [hp, Nat.zero_add]
    obtain ⟨s1, s2, s3⟩ := cntL_set hpos hi p1 p2
    have hs := pre_succ hi
    have h9 := hgood _ (List.getElem_mem hi)
    have hcl := cntL_len ws d
    have hci : i < (cntL ws d).length := by omega
    rw [Int.toNat_natCast]
    have hcell : ((cntL ws d).map (Value.int IntKind.i64))[i]? = some (.int .i64 (cnt ws d i)) := by rw [List.getElem?_map, List.getElem?_eq_getElem hci, cntL_at]; rfl
    refine ⟨_, rfl, ?_⟩
    rw [add_at, show 0 + (i : Int).toNat * 1 = i by omega]
    refine iteF (decide_eq_false (by omega)) (iteF (decide_eq_false (by omega)) ⟨⟨by omega, by omega⟩, _, hB.cell i hcell, ⟨by omega, by omega⟩, hB.ok i hcell, fun w7 e7 => ⟨(ws.sum - (d + 1)).toNat, by omega, d + 1, by rw [wrap_id (by omega) (by omega)]; rfl, ?_, ?_, ?_, hc5.same (Ch.set e7 rfl)⟩⟩)
    · rw [wrap_id (by omega) (by omega)]; omega
    · rw [wrap_id (by omega) (by omega)]
    · have hB7 := hB.set e7
      rw [wrap_id (by omega) (by omega), ← List.map_set, s1] at hB7
      rw [wrap_id (by omega) (by omega)]; exact hB7
  · have hds : (d : Int) = ws.sum := by have := of_decide_eq_false hge; omega
    rw [hds, cntL_all hpos] at hB
    refine step_call (Choose_spec (hw.keepN hC5) (by omega) draw c0) ?_
    rintro v w8 ⟨rfl, rfl⟩
    refine ⟨_, rfl, ?_⟩
    rw [Int.toNat_natCast]
    refine step_call (ints_spec (xs := ws) (ys := ws) hB.rd (hw.keepN hC5) (by omega)) ?_
    rintro v w9 ⟨rfl, hc9⟩
    have hC9 := hC5.andN hc9
    rw [(choose_pick hgood hl draw).2 hz]
    have hm1 := Int.emod_nonneg draw hz
    have hm2 := Int.emod_lt_of_pos draw (show 0 < ws.sum by omega)
    obtain ⟨i, hi, hp, p1, p2⟩ := pick_spec ws (draw % ws.sum) 0 hpos hm1 hm2
    rw [hp, Nat.zero_add]
    have hs := pre_succ hi
    refine ⟨_, rfl, iteT (by simp) (iteT (decide_eq_true (by omega)) (iteT (decide_eq_true (by omega)) ⟨⟨by omega, by omega⟩, (hw.keepN hC9).at (j := (i : Int).toNat * 1) (v := .int .i64 ws[i]) (by simp [hi]) fun p hpp => ⟨_, hpp, ?_, hC9⟩⟩))⟩
    rw [decide_eq_true (show ws[i] > 0 by omega)]
end Go.Proofs.Ytfecfdhigkehgaa.Soft
