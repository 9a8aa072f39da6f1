/- LensCounts's contract: of all shapes, weights and places the Go function answers true and leaves what was there; the conditions stand in each theorem. -/
import Derived.Test.YtbadkcnemcnhfaaDoorLensG
import Derived.Test.YtbadkcnemcnhfaaDoorLensF
import Derived.Test.YtbadkcnemcnhfaaDoorFb
import Derived.Test.YtbadkcnemcnhfaaDoorConfD
set_option linter.unusedVariables false
set_option linter.unusedSimpArgs false
namespace Go.Proofs.YtbadkcnemcnhfaaDoor.Lens
open Go Go.Proofs Go.Proofs.YtbadkcnemcnhfaaDoor.V Go.Proofs.YtbadkcnemcnhfaaDoor.Vc Go.Proofs.YtbadkcnemcnhfaaDoor.Conf Go.Proofs.YtbadkcnemcnhfaaDoor.Brain Go.Proofs.YtbadkcnemcnhfaaDoor.Num Go.RowKit

theorem sum_mem {α : Type} {f : α → Int} : ∀ {l : List α}, (∀ x ∈ l, 0 ≤ f x) → ∀ x ∈ l, f x ≤ (l.map f).sum
  | y :: r, h, x, hx => by
    have hr : 0 ≤ (r.map f).sum := by
      have : ∀ l : List α, (∀ x ∈ l, 0 ≤ f x) → 0 ≤ (l.map f).sum := by
        intro l
        induction l with
        | nil => intro _; simp
        | cons z l ih => intro h; rw [List.map_cons, List.sum_cons]; have := h z List.mem_cons_self; have := ih (fun u hu => h u (List.mem_cons_of_mem _ hu)); omega
      exact this r (fun u hu => h u (List.mem_cons_of_mem _ hu))
    rw [List.map_cons, List.sum_cons]
    rcases List.mem_cons.1 hx with rfl | hx
    · omega
    · have := sum_mem (fun u hu => h u (List.mem_cons_of_mem _ hu)) x hx
      have := h y List.mem_cons_self
      omega
theorem filter_sum : ∀ (l : List ChD), (∀ x ∈ l, 0 ≤ x.2.2.1) → ((l.filter isCh).map (·.2.2.1)).sum = (l.map (·.2.2.1)).sum
  | [], _ => rfl
  | x :: l, h => by
    have ih := filter_sum l (fun u hu => h u (List.mem_cons_of_mem _ hu))
    have h0 := h x List.mem_cons_self
    rw [List.filter_cons]
    by_cases hx : isCh x = true
    · rw [if_pos hx, List.map_cons, List.sum_cons, List.map_cons, List.sum_cons, ih]
    · rw [if_neg hx, List.map_cons, List.sum_cons, ih]
      unfold isCh at hx
      have : ¬ x.2.2.1 > 0 := by simpa using hx
      omega
section
variable {c : CfD} {wa wb : ByteArray}
theorem chL_facts (hc : okC c) (ha : (wa.size : Int) = allN c) (hb : (wb.size : Int) = allN c) :
    ((chL c wa wb).map (·.2.2.1)).sum = countD (Vecs.numsB wa) (Vecs.numsB wb) ∧ ∀ x ∈ chL c wa wb, 1 ≤ x.2.2.1 ∧ 1 ≤ x.2.2.2 ∧ x.2.2.2 ≤ 255 ∧ x.2.2.2 ≤ sumD (Vecs.numsB wa) (Vecs.numsB wb) := by
  have h8 : ∀ (wt : ByteArray) (p b : Nat), bytesOk (tabP c wt p b) := fun _ _ _ => numsB_8 _
  have key := fun pl : Nat × Nat => count_sum_le (tabP c wa pl.1 pl.2) (tabP c wb pl.1 pl.2) (numsB_8 _) (numsB_8 _)
  constructor
  · unfold chL chOf
    rw [filter_sum _ (fun x hx => by
      obtain ⟨pl, _, rfl⟩ := List.mem_map.1 hx
      exact (countD_le _ _).1), List.map_map, ← places_sum (wa := wa) (wb := wb) countD_add hc ha hb]
    generalize placesL c.blocks.toNat = P
    exact congrArg List.sum (List.map_congr_left fun x _ => rfl)
  · intro x hx
    unfold chL chOf at hx
    obtain ⟨hx, hi⟩ := List.mem_filter.1 hx
    obtain ⟨pl, hpl, rfl⟩ := List.mem_map.1 hx
    unfold isCh chAt at hi
    have hi := of_decide_eq_true hi
    dsimp only at hi
    obtain ⟨k1, k2, k3, k4, k5⟩ := key pl
    unfold chAt
    dsimp only
    have hi1 : 1 ≤ countD (tabP c wa pl.1 pl.2) (tabP c wb pl.1 pl.2) := by omega
    refine ⟨hi1, k5 hi, k4, ?_⟩
    have hs := places_sum sumD_add hc ha hb
    rw [← hs]
    clear hs
    generalize placesL c.blocks.toNat = P at hpl
    exact Int.le_trans k3 (sum_mem (l := P) (f := fun x : Nat × Nat => sumD (tabP c wa x.1 x.2) (tabP c wb x.1 x.2)) (fun y _ => (sumD_le (tabP c wa y.1 y.2) (tabP c wb y.1 y.2) (h8 wa y.1 y.2) (h8 wb y.1 y.2)).1) pl hpl)
theorem all_pos (hc : okC c) : 1 ≤ allN c := by
  have hle := from_le hc.small (p := 11) (b := 0) ⟨by omega, by simp⟩
  have e : spanN c 11 1 = 1 * c.dim := span1 c 11
  have := hc.2.1
  omega
end
theorem u8_wrap (z : Int) : ∃ u : UInt8, Value.int .u8 (IntKind.u8.wrap z) = u8v u := by
  have h0 := Int.emod_nonneg z (show (256 : Int) ≠ 0 by omega)
  have h1 := Int.emod_lt_of_pos z (show (0 : Int) < 256 by omega)
  refine ⟨UInt8.ofNat (z % 256).toNat, ?_⟩
  unfold u8v
  congr 1
  show z % 256 = _
  simp
  omega
theorem xor_u8 (a b : Int) : ∃ u : UInt8, Value.int .u8 (Go.bits .xor .u8 a b) = u8v u := u8_wrap _
theorem u64_id {z : Int} (h : 0 ≤ z ∧ z < 18446744073709551616) : IntKind.u64.wrap z = z := by
  have : IntKind.u64.wrap z = z % 18446744073709551616 := by simp [IntKind.wrap, IntKind.bits, IntKind.signed]
  rw [this]; omega
theorem u64_ge (z : Int) : 0 ≤ IntKind.u64.wrap z ∧ IntKind.u64.wrap z < 18446744073709551616 := by
  have : IntKind.u64.wrap z = z % 18446744073709551616 := by simp [IntKind.wrap, IntKind.bits, IntKind.signed]
  rw [this]; omega
/-- Bytes differ as their weights do. -/
theorem apart_byte {x y : Int} (hx : 0 ≤ x ∧ x < 256) (hy : 0 ≤ y ∧ y < 256) : isD (apartI (IntKind.i8.wrap x) (IntKind.i8.wrap y)) = if y = x then 0 else 1 := by
  have hw : ∀ z : Int, 0 ≤ z ∧ z < 256 → IntKind.i8.wrap z = if z < 128 then z else z - 256 := fun z hz => by
    unfold IntKind.wrap
    simp [IntKind.bits, IntKind.signed]
    split <;> (try split) <;> omega
  rw [hw x hx, hw y hy]
  unfold isD apartI
  split <;> split <;> split <;> (try split) <;> (try split) <;> omega
theorem numsB_bt (s : ByteArray) {j : Nat} (h : j < (Vecs.numsB s).length) : (Vecs.numsB s)[j] = IntKind.i8.wrap (bt s (j : Int)) := by
  have hs : j < s.data.size := by rw [Vecs.numsB_len] at h; exact h
  have := numsB_at s hs
  rw [List.getElem?_eq_getElem h] at this
  injection this
theorem bt_lt (s : ByteArray) (i : Int) : 0 ≤ bt s i ∧ bt s i < 256 := by
  unfold bt
  have := (s.data.getD i.toNat 0).toNat_lt
  omega
theorem bt_mk (l : List UInt8) {j : Nat} (h : j < l.length) : bt ⟨l.toArray⟩ (j : Int) = (l[j].toNat : Int) := by
  unfold bt
  rw [Int.toNat_natCast]
  unfold Array.getD
  rw [dif_pos (by simpa using h)]
  simp
set_option maxRecDepth 100000 in
set_option maxHeartbeats 2000000 in
theorem LensCounts_true (W : World) (cs : List Value) (h0 : DatC Tryd.prog W t_api_Config cs) (wt : ByteArray) (hwt : wt.size ≤ 140737488351232) (o : Option Addr) (n cp : Nat) (h1 : DatC Tryd.prog W t_S_int [.slice o n cp]) (by' : Int) (hb0 : (Lit.int .i64 by').wf = true) :
    Calls Tryd.prog i_coadjutorlaw39_LensCounts #[.agg cs.toArray, .string wt, .slice o n cp, .int .i64 by'] W (Ret fun v w' => v = .bool true ∧ Ch Non W w') := by
  obtain ⟨c, rfl⟩ := conf_dat h0
  obtain ⟨o', c', at', hcs, hm1, hm2, _, _, hr0⟩ := h1.ints (k := .i64) (e := t_int) (by kernel_rfl) (by kernel_rfl)
  injection hcs with hcs
  injection hcs with q1 q2 q3
  subst q1; subst q2; subst q3
  refine coadjutorlaw39_LensCounts.calls _ _ _ _ _ _ _ _ _ _ _ ?_
  unfold coadjutorlaw39_LensCounts.vc
  intro w1 e1
  have hC : Blk w1 W.heap.size (cfE c) t_api_Config := Blk.new e1
  have hc1 : Ch Non W w1 := Ch.alloc e1
  refine step_call (awake_spec w1) ?_
  rintro v w2 ⟨rfl, hc2⟩
  have hC2 := hC.keepN hc2
  have hc02 := hc1.andN hc2
  refine ⟨_, rfl, iteF rfl ⟨fun _ => ⟨rfl, hc02⟩, fun hs => ⟨fun _ => ⟨rfl, hc02⟩, fun hn => ?_⟩⟩⟩
  have hs := of_decide_eq_false hs
  have hn := of_decide_eq_false hn
  refine ⟨_, _, _, _, _, _, ⟨hC2.cell 0 rfl, hC2.cell 1 rfl, hC2.cell 2 rfl, hC2.cell 3 rfl, hC2.cell 4 rfl, hC2.cell 5 rfl⟩, step_call (brOf_spec w2 c wt) ?_⟩
  rintro v w3 ⟨hc3, k1, k2, k3⟩
  have hc03 := hc02.andN hc3
  by_cases hmd : okC c ∧ (wt.size : Int) = allN c
  case neg =>
    by_cases ok : okC c
    · rw [k2 ⟨ok, fun h => hmd ⟨ok, h⟩⟩]
      exact ⟨_, _, rfl, fun _ => ⟨rfl, hc03⟩, fun hf => by simp at hf⟩
    · rw [k3 ok]
      exact ⟨_, _, rfl, fun _ => ⟨rfl, hc03⟩, fun hf => by simp at hf⟩
  obtain ⟨ok, sz⟩ := hmd
  obtain ⟨xb, rfl, hxb, hbr⟩ := k1 ⟨ok, sz⟩
  have hX : BrK w3 xb c wt := ⟨hbr, ok, sz⟩
  have hC3 := hC2.keepN hc3
  have hap := all_pos ok
  obtain ⟨l, rfl⟩ : ∃ l : List UInt8, wt = ⟨l.toArray⟩ := ⟨wt.data.toList, by cases wt; simp⟩
  have hlz : (ByteArray.mk l.toArray).size = l.length := by simp [ByteArray.size]
  obtain ⟨cc, w4, zs, hi, hcv, hFB, hc4, hs4, hlc⟩ := conv_inF (P := Tryd.prog) (w := w3) (src := 9) (dst := 51) (e := 5) l (by kernel_rfl) (by kernel_rfl) (by kernel_rfl)
  have hWB : W.heap.size < w3.heap.size := hC3.lt
  have hC4 := hC3.keepN hc4
  have hX4 := hX.keepN hc4
  have hXl := hX.lt
  refine ⟨_, _, rfl, iteF rfl ⟨_, _, _, w4, hcv, fun i k w' => ∃ (j : Nat) (ws : List UInt8), i = j ∧ j ≤ at'.length ∧ k = at'.length - j ∧ FB w' w3.heap.size (ws.map u8v ++ zs) (5) (l.map u8v ++ zs).length hi ∧ ws.length = l.length ∧ Ch (· = w3.heap.size) w4 w', ⟨_, 0, l, rfl, Nat.zero_le _, rfl, hFB, rfl, Ch.refl _ _⟩, ?_⟩⟩
  rintro jk i k w5 ⟨j, ws, rfl, hj, rfl, hF, hwl, hc5⟩
  have hc05 : Ch Non W w5 := (hc03.andN hc4).trans hc5 (fun i hi h => by omega)
  refine ⟨fun hlt => ?_, fun hge => ?_⟩
  · have hlt : j < at'.length := by have := of_decide_eq_true hlt; omega
    refine ⟨⟨by omega, by omega⟩, (hr0.keepN hc05).at (j := (j : Int).toNat * 1) (v := .int .i64 at'[j]) (by simp [hlt]) fun p hp => ⟨_, hp, ?_⟩⟩
    rw [u64_id (z := ((l.length : Nat) : Int)) (by omega)]
    have hu := u64_ge at'[j]
    generalize IntKind.u64.wrap at'[j] = u at hu
    have ht1 := Int.tmod_nonneg (a := u) ((l.length : Nat) : Int) hu.1
    have ht2 := Int.tmod_lt_of_pos u (show (0 : Int) < ((l.length : Nat) : Int) by omega)
    generalize Int.tmod u ((l.length : Nat) : Int) = z at ht1 ht2
    obtain ⟨q, rfl⟩ : ∃ q : Nat, z = q := ⟨z.toNat, by omega⟩
    rw [wrap_id (x := (q : Int)) (by omega) (by omega), Int.toNat_natCast, Nat.mul_one]
    have hq : q < ws.length := by omega
    have hcell : (ws.map u8v ++ zs)[q]? = some (u8v ws[q]) := by rw [List.getElem?_append_left (by rw [List.length_map]; omega), List.getElem?_map, List.getElem?_eq_getElem hq]; rfl
    have hok := hF.ok q hcell (by rw [List.length_append, List.length_map]; omega)
    refine ⟨by omega, ⟨by omega, by omega⟩, (ws[q].toNat : Int), ?_, by omega, ⟨by omega, by omega⟩, ?_⟩
    · rw [add_at, Nat.zero_add]; exact hF.cell q hcell
    · show ((∃ u, w5.cell? ((⟨w3.heap.size, 0, none⟩ : Addr).add q) = some u) ∧ w5.frozen? ((⟨w3.heap.size, 0, none⟩ : Addr).add q) = false) ∧ _
      rw [add_at, Nat.zero_add]
      refine ⟨hok, fun w6 e6 => ?_⟩
      obtain ⟨nb, hnb⟩ := xor_u8 (ws[q].toNat : Int) (IntKind.u8.wrap (IntKind.i64.wrap (1 + IntKind.i64.wrap (Int.tmod (IntKind.u64.wrap by') 255))))
      rw [hnb] at e6
      have hF6 := hF.set e6
      have hset : (ws.map u8v ++ zs).set q (u8v nb) = (ws.set q nb).map u8v ++ zs := by rw [List.set_append_left _ _ (by rw [List.length_map]; omega), List.map_set]
      rw [hset] at hF6
      exact ⟨at'.length - (j + 1), by omega, j + 1, ws.set q nb, by rw [wrap_id (by omega) (by omega)]; rfl, hlt, rfl, hF6, by rw [List.length_set]; exact hwl, hc5.same (Ch.set e6 rfl)⟩
  have hC5 := hC4.keep hc5 (by omega)
  have hX5 := hX4.keep hc5 (by omega)
  have hrd : Rd w5 (some ⟨w3.heap.size, 0, none⟩) (ws.map u8v) (· = w3.heap.size) := hF.rd (fun j v hv => by rw [List.getElem?_append_left (List.getElem?_eq_some_iff.1 hv).1]; exact hv)
  have hout := conv_out (P := Tryd.prog) (src := 51) (dst := 9) (e := 5) (c := cc) hrd (by kernel_rfl) (by kernel_rfl) (by kernel_rfl)
  rw [hwl] at hout
  have hwz : (ByteArray.mk ws.toArray).size = l.length := by simp [ByteArray.size, hwl]
  have szb : ((ByteArray.mk ws.toArray).size : Int) = allN c := by rw [hwz, ← sz, hlz]
  refine ⟨_, _, _, _, _, _, ⟨hC5.cell 0 rfl, hC5.cell 1 rfl, hC5.cell 2 rfl, hC5.cell 3 rfl, hC5.cell 4 rfl, hC5.cell 5 rfl⟩, _, w5, hout, step_call (Of_spec w5 (wt := ⟨ws.toArray⟩) ok szb) ?_⟩
  rintro v w8 ⟨hc8, yb, rfl, hY⟩
  have hX8 := hX5.keepN hc8
  have hc08 := hc05.andN hc8
  have hrd8 := hrd.keepN hc8
  obtain ⟨A, hA⟩ : ∃ A, Vecs.numsB ⟨l.toArray⟩ = A := ⟨_, rfl⟩
  obtain ⟨B, hB⟩ : ∃ B, Vecs.numsB ⟨ws.toArray⟩ = B := ⟨_, rfl⟩
  have hAl : A.length = l.length := by rw [← hA, Vecs.numsB_len, hlz]
  have hBl : B.length = l.length := by rw [← hB, Vecs.numsB_len, hwz]
  refine ⟨_, _, rfl, iteF rfl ⟨fun d i k w' => Ch Non w8 w' ∧ ∃ j : Nat, i = j ∧ j ≤ l.length ∧ k = l.length - j ∧ d = countD (A.take j) (B.take j), ⟨_, Ch.refl _ _, 0, rfl, Nat.zero_le _, rfl, rfl⟩, ?_⟩⟩
  rintro jk d i k w9 ⟨hc9, j2, rfl, hj2, rfl, rfl⟩
  have hc09 := hc08.andN hc9
  refine ⟨fun hlt => ?_, fun hge2 => ?_⟩
  · have hlt : j2 < l.length := by have := of_decide_eq_true hlt; omega
    have hltw : j2 < ws.length := by omega
    have hcl := countD_le (A.take j2) (B.take j2)
    rw [List.length_take] at hcl
    obtain ⟨ad, had, _, _, _⟩ := (hrd8.keepN hc9) j2 (u8v ws[j2]) (by simp [hltw])
    have hcel : ∀ w', Ch Non w9 w' → w'.cell? (ad.add ((j2 : Int).toNat * 1)) = some (u8v ws[j2]) := fun w' k => by
      obtain ⟨ad2, had2, _, _, hcc⟩ := ((hrd8.keepN hc9).keepN k) j2 (u8v ws[j2]) (by simp [hltw])
      rw [had] at had2; injection had2 with had2; subst had2
      rw [Int.toNat_natCast, Nat.mul_one]; exact hcc
    have had : ad = ⟨w3.heap.size, 0, none⟩ := (Option.some.inj had).symm
    subst had
    have hstep := countD_snoc A B (j := j2) (by omega) (by omega)
    have hAj : A[j2]'(by omega) = IntKind.i8.wrap (bt ⟨l.toArray⟩ (j2 : Int)) := by subst hA; exact numsB_bt _ _
    have hBj : B[j2]'(by omega) = IntKind.i8.wrap (bt ⟨ws.toArray⟩ (j2 : Int)) := by subst hB; exact numsB_bt _ _
    rw [hAj, hBj, apart_byte (bt_lt _ _) (bt_lt _ _), bt_mk ws hltw] at hstep
    refine ⟨fun w' => Ch Non w9 w', fun w10 e10 => ⟨Ch.drew e10, ⟨by omega, by omega⟩, _, fun w' k => hcel w' k, ⟨by omega, by rw [hlz]; omega⟩, fun hne => ?_, fun heq => ?_⟩⟩
    · have hne : ¬ (ws[j2].toNat : Int) = bt ⟨l.toArray⟩ (j2 : Int) := by simpa using hne
      rw [if_neg hne] at hstep
      exact ⟨l.length - (j2 + 1), by omega, hc9.andN (Ch.drew e10), j2 + 1, by rw [wrap_id (by omega) (by omega)]; rfl, hlt, rfl, by rw [hstep, wrap_id (by omega) (by omega)]⟩
    · have heq : (ws[j2].toNat : Int) = bt ⟨l.toArray⟩ (j2 : Int) := by simpa using heq
      rw [if_pos heq] at hstep
      exact ⟨l.length - (j2 + 1), by omega, hc9.andN (Ch.drew e10), j2 + 1, by rw [wrap_id (by omega) (by omega)]; rfl, hlt, rfl, by rw [hstep]; omega⟩
  have hje2 : j2 = l.length := by have := of_decide_eq_false hge2; omega
  rw [List.take_of_length_le (by omega), List.take_of_length_le (by omega)]
  have hX9 := hX8.keepN hc9
  have hY9 := hY.keepN hc9
  obtain ⟨f1, f2⟩ := chL_facts ok sz szb
  obtain ⟨g1, g2, _, _, _⟩ := count_sum_le A B (by subst hA; exact numsB_8 _) (by subst hB; exact numsB_8 _)
  have g3 := countD_le A B
  refine step_call (Changes_spec hX9 hY9) ?_
  rintro v w12 ⟨hc12, _, hy⟩
  obtain ⟨co, cc2, rfl, hcr⟩ := hy rfl
  have hcl2 : (chL c ⟨l.toArray⟩ ⟨ws.toArray⟩).length ≤ 100 := by
    have := chOf_len c ⟨l.toArray⟩ ⟨ws.toArray⟩ (placesL c.blocks.toNat)
    have hb := ok.2.2.2.1
    have hpl : (placesL c.blocks.toNat).length ≤ 100 := by unfold placesL; rw [List.length_append, placesTo_len]; simp; omega
    exact Nat.le_trans this hpl
  rw [hA, hB] at f1 f2
  generalize chL c ⟨l.toArray⟩ ⟨ws.toArray⟩ = L at hcr f1 f2 hcl2 ⊢
  refine ⟨_, _, _, _, rfl, step_call (Distance_spec (hX9.keepN hc12) (hY9.keepN hc12)) ?_⟩
  rintro v w13 ⟨hc13, _, hy⟩
  rw [hy rfl, hA, hB]
  have hcr13 := hcr.keepN hc13
  have hc013 := (hc09.andN hc12).andN hc13
  obtain ⟨S, hS⟩ : ∃ S, sumD A B = S := ⟨_, rfl⟩
  rw [hS] at f2 g1 g2 ⊢
  obtain ⟨D, hD⟩ : ∃ D, countD A B = D := ⟨_, rfl⟩
  rw [hD] at f1 g1 g2 g3 ⊢
  refine ⟨_, _, rfl, fun cnt most i k w' => w' = w13 ∧ ∃ j : Nat, i = j ∧ j ≤ L.length ∧ k = L.length - j ∧ cnt = ((L.take j).map (·.2.2.1)).sum ∧ 0 ≤ cnt ∧ cnt ≤ D ∧ 0 ≤ most ∧ most ≤ S, ⟨_, rfl, 0, rfl, Nat.zero_le _, rfl, rfl, Int.le_refl _, g3.1, Int.le_refl _, by omega⟩, ?_⟩
  rintro jk cnt most i k w14 ⟨rfl, j3, rfl, hj3, rfl, hcnt, hc0, hcD, hm0, hmS⟩
  refine ⟨fun hlt => ?_, fun hge3 => ?_⟩
  · have hlt : j3 < L.length := by have := of_decide_eq_true hlt; omega
    obtain ⟨ad, had, _, _, hcell⟩ := Rd.elem (sz := 4) (enc := chE) hcr13 (fun _ => rfl) (by omega) hlt
    subst had
    obtain ⟨a1, a2, a3, a4⟩ := f2 _ (List.getElem_mem hlt)
    have hs1 : ((L.take (j3 + 1)).map (·.2.2.1)).sum = ((L.take j3).map (·.2.2.1)).sum + L[j3].2.2.1 := by rw [take_snoc L j3 hlt, List.map_append, List.sum_append]; simp
    have hle : ((L.take (j3 + 1)).map (·.2.2.1)).sum ≤ D := by
      rw [← f1]
      have e : L = L.take (j3 + 1) ++ L.drop (j3 + 1) := (List.take_append_drop _ _).symm
      have hn : 0 ≤ ((L.drop (j3 + 1)).map (·.2.2.1)).sum := by
        have : ∀ l : List ChD, (∀ x ∈ l, 0 ≤ x.2.2.1) → 0 ≤ (l.map (·.2.2.1)).sum := by
          intro l
          induction l with
          | nil => intro _; simp
          | cons z l ih => intro h; rw [List.map_cons, List.sum_cons]; have := h z List.mem_cons_self; have := ih (fun u hu => h u (List.mem_cons_of_mem _ hu)); omega
        exact this _ (fun x hx => by have := (f2 x (List.mem_of_mem_drop hx)).1; omega)
      have : (L.map (·.2.2.1)).sum = ((L.take (j3 + 1)).map (·.2.2.1)).sum + ((L.drop (j3 + 1)).map (·.2.2.1)).sum := by rw [← List.sum_append, ← List.map_append, List.take_append_drop]
      omega
    have h2 := hcell 2 _ rfl
    have h3 := hcell 3 _ rfl
    refine ⟨⟨by omega, by omega⟩, _, h2, ⟨by omega, by omega⟩, _, h3, ⟨by omega, by omega⟩, _, h2, iteF (decide_eq_false (by omega)) ⟨⟨by omega, by omega⟩, _, h3, iteF (decide_eq_false (by omega)) ⟨⟨by omega, by omega⟩, _, h3, iteF (decide_eq_false (by omega)) ?_⟩⟩⟩
    refine ⟨L.length - (j3 + 1), by omega, rfl, j3 + 1, by rw [wrap_id (by omega) (by omega)]; rfl, hlt, rfl, ?_, ?_, ?_, ?_, ?_⟩
    · rw [hs1, hcnt, wrap_id (by omega) (by omega)]
    · rw [wrap_id (by omega) (by omega)]; omega
    · rw [wrap_id (by omega) (by omega)]; omega
    · split <;> omega
    · split <;> omega
  · have hje3 : j3 = L.length := by have := of_decide_eq_false hge3; omega
    subst hje3
    rw [List.take_length, f1] at hcnt
    subst hcnt
    refine iteT rfl (iteT rfl (iteT (by simp) (iteT (decide_eq_true (by omega)) (iteT (decide_eq_true (by omega)) ⟨?_, hc013⟩))))
    rw [wrap_id (by omega) (by omega), decide_eq_true (by omega)]
end Go.Proofs.YtbadkcnemcnhfaaDoor.Lens
