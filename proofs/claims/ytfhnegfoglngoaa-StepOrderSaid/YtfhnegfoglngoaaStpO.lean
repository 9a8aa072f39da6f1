/- StepOrder's contract: of all shapes, weights and tokens the Go function answers true and leaves what was there; the conditions stand in each theorem. -/
import Derived.Test.YtfhnegfoglngoaaStpL
import Derived.Test.YtfhnegfoglngoaaVcStpO
set_option linter.unusedVariables false
set_option linter.unusedSimpArgs false
namespace Go.Proofs.Ytfhnegfoglngoaa.Stp
open Go Go.Proofs Go.Proofs.Ytfhnegfoglngoaa.V Go.Proofs.Ytfhnegfoglngoaa.Vc Go.Proofs.Ytfhnegfoglngoaa.Conf Go.Proofs.Ytfhnegfoglngoaa.Brain Go.Proofs.Ytfhnegfoglngoaa.Num Go.Proofs.Ytfhnegfoglngoaa.IntsT Go.RowKit

/-! The order of what is behind one plays no part. -/
theorem perm_sum {l m : List Int} (h : l.Perm m) : l.sum = m.sum := by
  induction h with
  | nil => rfl
  | cons x _ ih => rw [List.sum_cons, List.sum_cons, ih]
  | swap x y l => rw [List.sum_cons, List.sum_cons, List.sum_cons, List.sum_cons]; omega
  | trans _ _ h1 h2 => rw [h1, h2]
theorem perm_maxL {l m : List Int} (h : l.Perm m) : maxL l = maxL m := by
  by_cases h0 : l = []
  · subst h0
    rw [List.nil_perm.1 h]
  · have hm : m ≠ [] := fun e => by subst e; exact h0 (List.perm_nil.1 h)
    obtain ⟨a1, a2⟩ := maxL_is h0
    refine maxL_uniq (h.mem_iff.1 a1) (fun x hx => a2 x (h.mem_iff.2 hx))
theorem zip_maps {α : Type} (f : Int → List Int → Int) (g1 : α → Int) (g2 : α → List Int) (l : List α) : List.zipWith f (l.map g1) (l.map g2) = l.map fun e => f (g1 e) (g2 e) := by
  induction l with
  | nil => rfl
  | cons x r ih => simp [ih]
theorem head_perm {es fs : List Ent} {b a n : Nat} {q : List Int} (h : es.Perm fs) (hn : ∀ e ∈ es, (valP b a n e).length = n) : headP es b a n q = headP fs b a n q := by
  by_cases h0 : es = []
  · subst h0
    rw [List.nil_perm.1 h]
  have hf0 : fs ≠ [] := fun e => by subst e; exact h0 (List.perm_nil.1 h)
  have hm : maxL (es.map (scoreP b a n q)) = maxL (fs.map (scoreP b a n q)) := perm_maxL (h.map _)
  have hw : ∀ l : List Ent, Soft.weightsL (l.map (scoreP b a n q)) = l.map fun e => Soft.expI (Soft.cl (maxL (l.map (scoreP b a n q))) - Soft.cl (scoreP b a n q e)) := fun l => by unfold Soft.weightsL; rw [List.map_map]; rfl
  have hnf : ∀ e ∈ fs, (valP b a n e).length = n := fun e he => hn e (h.mem_iff.2 he)
  have hfin : ∀ l : List Ent, l ≠ [] → (∀ e ∈ l, (valP b a n e).length = n) → headP l b a n q = (List.range n).map fun k => sat (Int.tdiv ((l.map fun e => Soft.expI (Soft.cl (maxL (l.map (scoreP b a n q))) - Soft.cl (scoreP b a n q e)) * Soft.cl ((valP b a n e).getD k 0)).sum) ((l.map fun e => Soft.expI (Soft.cl (maxL (l.map (scoreP b a n q))) - Soft.cl (scoreP b a n q e))).sum)) := fun l hl0 hl => by
    have hx0 : l.map (scoreP b a n q) ≠ [] := by simpa using hl0
    have hwg := weights_good hx0
    have hwid : wid ((l.map (valP b a n)).map noA) = n := by
      rw [wid_pos (by rw [List.length_map, List.length_map]; exact List.length_pos_iff.2 hl0), List.getElem_map, List.getElem_map]
      exact hl _ (List.getElem_mem _)
    have hs : sameL ((l.map (valP b a n)).map noA) = true := same_yes (fun z hz => by
      obtain ⟨r, hr', rfl⟩ := List.mem_map.1 hz
      obtain ⟨e, he, rfl⟩ := List.mem_map.1 hr'
      rw [hwid]; exact hl e he)
    have hlp : 0 < l.length := List.length_pos_iff.2 hl0
    have hok : Soft.mixOk (Soft.weightsL (l.map (scoreP b a n q))) ((l.map (valP b a n)).map noA) = true := by
      unfold Soft.mixOk
      rw [hwg.1, hs, List.length_map, List.length_map, decide_eq_true (show l.length ≠ 0 by omega), decide_eq_true (show (Soft.weightsL (l.map (scoreP b a n q))).length = l.length by unfold Soft.weightsL; rw [List.length_map, List.length_map]), decide_eq_true (show (Soft.weightsL (l.map (scoreP b a n q))).sum ≠ 0 by omega)]; rfl
    unfold headP mixP Soft.mixT
    rw [hok, if_pos rfl]
    unfold Soft.mixL Soft.mixTerm
    rw [hwid, hw l, List.map_map]
    have hz : ∀ k, List.zipWith (fun a z => a * Soft.cl (z.2.2.getD k 0)) (l.map fun e => Soft.expI (Soft.cl (maxL (l.map (scoreP b a n q))) - Soft.cl (scoreP b a n q e))) (l.map (noA ∘ valP b a n)) = l.map fun e => Soft.expI (Soft.cl (maxL (l.map (scoreP b a n q))) - Soft.cl (scoreP b a n q e)) * Soft.cl ((valP b a n e).getD k 0) := fun k => by
      generalize maxL (l.map (scoreP b a n q)) = mx
      clear hok hs hwid hwg hx0 hl hl0 hlp hw
      induction l with
      | nil => rfl
      | cons x r ih => simp only [List.map_cons, List.zipWith_cons_cons, ih]; rfl
    exact List.map_congr_left (fun k _ => by rw [hz k])
  rw [hfin es h0 hn, hfin fs hf0 hnf, hm]
  refine List.map_congr_left (fun k _ => ?_)
  rw [perm_sum (h.map _), perm_sum (h.map fun e => Soft.expI (Soft.cl (maxL (fs.map (scoreP b a n q))) - Soft.cl (scoreP b a n q e)))]
theorem seen_perm {c : CfD} {es fs : List Ent} {b : Nat} {q : List Int} (ok : okC c) (h : es.Perm fs) (hh : ∀ e ∈ es, hasB c b e) : ∀ j, j ≤ c.heads.toNat → seenTo c es b q j = seenTo c fs b q j
  | 0, _ => rfl
  | j + 1, hj => by
    have hle : (j + 1) * hdim c ≤ c.heads.toNat * hdim c := Nat.mul_le_mul_right _ hj
    have hs : (j + 1) * hdim c = j * hdim c + hdim c := Nat.succ_mul _ _
    have hd := heads_dim ok
    rw [seenTo, seenTo, seen_perm ok h hh j (by omega), head_perm h (fun e he => by unfold valP; exact cut_len (by rw [(hh e he).2.2.2]; omega))]
theorem step_perm {c : CfD} {wt : ByteArray} (m : Md c wt) (h1 : c.blocks = 1) {past other : List Ent} (h : past.Perm other) (hg : ∀ e ∈ past, goodE c e) (hk : (past.length : Int) < c.context) {t : Int} (ht : tokOk c t) : stepS c wt past t = stepS c wt other t := by
  unfold stepS
  rw [h1, ← h.length_eq]
  show thinkP c wt 0 (lookP c wt past 0 ⟨beginP c wt past.length t, [], []⟩) = thinkP c wt 0 (lookP c wt other 0 ⟨beginP c wt past.length t, [], []⟩)
  have ok0 : WkOk c 0 ⟨beginP c wt past.length t, [], []⟩ := ⟨(begin_len m hk ht).2.2, ⟨rfl, fun r hr => (by cases hr)⟩, ⟨rfl, fun r hr => (by cases hr)⟩⟩
  generalize (⟨beginP c wt past.length t, [], []⟩ : WkD) = s at ok0
  congr 1
  unfold lookP lookX
  rw [seen_perm m.ok (h.append_right _) (look_has m (by omega) ok0 hg) _ (Nat.le_refl _)]
set_option maxRecDepth 100000 in
set_option maxHeartbeats 1000000 in
theorem StepOrder_true (W : World) (cs : List Value) (h0 : DatC Try.prog W t_api_Config cs) (wt : ByteArray) (hwt : wt.size ≤ 140737488351232) (o : Option Addr) (n cp : Nat) (h1 : DatC Try.prog W t_S_int [.slice o n cp]) (turn : Int) (hs0 : (Lit.int .i64 turn).wf = true) :
    Calls Try.prog i_coadjutorlaw17_StepOrder #[.agg cs.toArray, .string wt, .slice o n cp, .int .i64 turn] W (Ret fun v w' => v = .bool true ∧ Ch Non W w') := by
  obtain ⟨c, rfl⟩ := conf_dat h0
  obtain ⟨o', c', ts, hcs, hm1, hm2, _, _, hr0⟩ := h1.ints (k := .i64) (e := t_int) (by kernel_rfl) (by kernel_rfl)
  injection hcs with hcs
  injection hcs with q1 q2 q3
  subst q1; subst q2; subst q3
  have hts : IV W (.slice o ts.length cp) ts (fun _ => True) := ⟨o, cp, rfl, hm1, hm2, hr0⟩
  have htl := Nat.le_trans hm1 hm2
  unfold maxLen at htl
  refine coadjutorlaw17_StepOrder.calls _ _ _ _ _ _ _ _ _ _ _ ?_
  unfold coadjutorlaw17_StepOrder.vc
  intro w1 e1
  have hC : Blk w1 W.heap.size (cfE c) t_api_Config := Blk.new e1
  have hc1 : Ch Non W w1 := Ch.alloc e1
  refine step_call (awake17_spec w1) ?_
  rintro v w2 ⟨rfl, hc2⟩
  have hC2 := hC.keepN hc2
  have hc02 := hc1.andN hc2
  rw [wrap_id (x := (ts.length : Int) - 1) (by omega) (by omega)]
  refine ⟨_, rfl, iteF rfl ⟨fun _ => ⟨rfl, hc02⟩, fun hn6 => ⟨fun _ => ⟨rfl, hc02⟩, fun hn1 => ?_⟩⟩⟩
  have hn6 : ts.length ≤ 6 := by have := of_decide_eq_false hn6; omega
  have hn1 : 2 ≤ ts.length := by have := of_decide_eq_false hn1; omega
  refine ⟨_, _, _, _, _, _, ⟨hC2.cell 0 rfl, hC2.cell 1 rfl, hC2.cell 2 rfl, hC2.cell 3 rfl, hC2.cell 4 rfl, hC2.cell 5 rfl⟩, step_call (small17_spec w2 c) ?_⟩
  rintro v w3 ⟨rfl, hc3⟩
  have hc03 := hc02.andN hc3
  have hC3 := hC2.keepN hc3
  refine ⟨_, rfl, fun _ => ⟨rfl, hc03⟩, fun hsm => ⟨_, hC3.cell 3 rfl, fun _ => ⟨rfl, hc03⟩, fun hb1 => ⟨fun _ => ⟨rfl, hc03⟩, fun hw => ?_⟩⟩⟩
  have hb1 : c.blocks = 1 := by simpa using hb1
  obtain ⟨l, rfl⟩ : ∃ l : List UInt8, wt = ⟨l.toArray⟩ := ⟨wt.data.toList, by cases wt; simp⟩
  obtain ⟨cc, w4, zs, hi, hcv, hFB, hc4, hs4, hlc⟩ := conv_inF (P := Try.prog) (w := w3) (src := 9) (dst := 43) (e := 5) l (by kernel_rfl) (by kernel_rfl) (by kernel_rfl)
  have hl2 : l.length ≤ 2048 := by have := of_decide_eq_false hw; rw [str_size2] at this; omega
  have hC4 := hC3.keepN hc4
  have hWB : W.heap.size < w3.heap.size := hC3.lt
  let Inv : World → Prop := fun w' => ∃ ws : List UInt8, FB w' w3.heap.size (ws.map u8v ++ zs) (5) (l.map u8v ++ zs).length hi ∧ ws.length = l.length ∧ Ch (· = w3.heap.size) w4 w'
  have hI0 : Inv w4 := ⟨l, hFB, rfl, Ch.refl _ _⟩
  refine ⟨_, _, _, w4, hcv, Inv, ⟨_, hC4.cell 0 rfl, _, hC4.cell 1 rfl, fun i k w' => Inv w' ∧ (i ≤ l.length → k = ((l.length : Int) - i).toNat), ⟨_, hI0, fun _ => rfl⟩, ?_⟩, ?_⟩
  · rintro jk i k w5 ⟨hI, hk⟩
    obtain ⟨ws, hF, hwl, hc5⟩ := hI
    have hC5 := hC4.keep hc5 (by omega)
    refine ⟨_, hC5.cell 0 rfl, _, hC5.cell 5 rfl, _, hC5.cell 1 rfl, fun hlt => ⟨fun hln => ⟨fun hi0 => ?_, fun _ => ⟨ws, hF, hwl, hc5⟩⟩, fun _ => ⟨ws, hF, hwl, hc5⟩⟩, fun _ => ⟨ws, hF, hwl, hc5⟩⟩
    have hln := of_decide_eq_true hln
    have hi0 := of_decide_eq_true hi0
    obtain ⟨j, rfl⟩ : ∃ j : Nat, i = j := ⟨i.toNat, by omega⟩
    have hk := hk (by omega)
    subst hk
    have hjl : j < l.length := by omega
    rw [Int.toNat_natCast, Nat.mul_one]
    have hcell : (ws.map u8v ++ zs)[j]? = some (u8v (ws[j]'(by omega))) := by rw [List.getElem?_append_left (by rw [List.length_map]; omega), List.getElem?_map, List.getElem?_eq_getElem (by omega)]; rfl
    have hok := hF.ok j hcell (by rw [List.length_append, List.length_map]; omega)
    refine ⟨⟨by omega, by omega⟩, ?_⟩
    show ((∃ u, w5.cell? ((⟨w3.heap.size, 0, none⟩ : Addr).add j) = some u) ∧ w5.frozen? ((⟨w3.heap.size, 0, none⟩ : Addr).add j) = false) ∧ _
    rw [add_at, Nat.zero_add]
    refine ⟨hok, fun w6 e6 => ?_⟩
    have hF6 := hF.set e6
    have hset : (ws.map u8v ++ zs).set j (.int .u8 0) = (ws.set j 0).map u8v ++ zs := by rw [List.set_append_left _ _ (by rw [List.length_map]; omega), List.map_set]; rfl
    rw [hset] at hF6
    exact ⟨l.length - (j + 1), by omega, ⟨ws.set j 0, hF6, by rw [List.length_set]; exact hwl, hc5.same (Ch.set e6 rfl)⟩, fun _ => by rw [wrap_id (by omega) (by omega)]; omega⟩
  rintro jk w5 ⟨ws, hF, hwl, hc5⟩
  have hC5 := hC4.keep hc5 (by omega)
  have hc05 : Ch Non W w5 := (hc03.andN hc4).trans hc5 (fun i hi h => by omega)
  have hrd : Rd w5 (some ⟨w3.heap.size, 0, none⟩) (ws.map u8v) (· = w3.heap.size) := hF.rd (fun j v hv => by rw [List.getElem?_append_left (List.getElem?_eq_some_iff.1 hv).1]; exact hv)
  have hout := conv_out (P := Try.prog) (src := 43) (dst := 9) (e := 5) (c := cc) hrd (by kernel_rfl) (by kernel_rfl) (by kernel_rfl)
  rw [hwl] at hout
  refine ⟨_, _, _, _, _, _, ⟨hC5.cell 0 rfl, hC5.cell 1 rfl, hC5.cell 2 rfl, hC5.cell 3 rfl, hC5.cell 4 rfl, hC5.cell 5 rfl⟩, _, w5, hout, step_call (brOf_law w5 c ⟨ws.toArray⟩) ?_⟩
  rintro v w8 ⟨hc8, hy⟩
  have hc08 := hc05.andN hc8
  rcases hy with ⟨b, rfl, hb, hK⟩ | ⟨hno, e, rfl, he⟩
  case inr => exact ⟨_, _, rfl, fun _ => ⟨rfl, hc08⟩, fun hf => by simp at hf; exact absurd hf he⟩
  have m : Md c ⟨ws.toArray⟩ := ⟨hK.ok, hK.sz⟩
  obtain ⟨wt, hwt'⟩ : ∃ wt : ByteArray, wt = ⟨ws.toArray⟩ := ⟨_, rfl⟩
  rw [← hwt'] at m hK
  have hctx := m.ok.2.2.2.2.2.1
  obtain ⟨N, hN⟩ : ∃ N : Nat, ts.length = N + 1 := ⟨ts.length - 1, by omega⟩
  have eN : (ts.length : Int) - 1 = (N : Int) := by omega
  rw [eN, Int.toNat_natCast]
  have hg0 : ∀ e ∈ ([] : List Ent), goodE c e := fun e he => by cases he
  have htl' : (ts.take N).length = N := by rw [List.length_take]; omega
  have htk : IV w8 (.slice (if cp = 0 then o else o.map (·.add (0 * 1))) (N - 0) (cp - 0)) (ts.take N) (fun _ => True) := by
    have := (hts.keepN hc08).cut rfl (a := 0) (b := N) (by omega) (by omega)
    rwa [List.drop_zero, Nat.sub_zero] at this
  refine ⟨_, _, rfl, iteF rfl ⟨⟨by omega, by omega⟩, step_call (Run_spec hK (PV.nil w8 Non) htk (by omega) (by simp)) ?_⟩⟩
  rintro v w9 hR
  have hc9 := hR.ch
  have hc09 := hc08.andN hc9
  have hne : ts.take N ≠ [] := fun e => by rw [e] at htl'; simp at htl'; omega
  by_cases hyes : (∀ t ∈ ts.take N, tokOk c t) ∧ (N : Int) ≤ c.context
  case neg =>
    have hv : ∃ en : Int, v = nilR en ∧ en ≠ 0 := by
      by_cases k2 : ∀ t ∈ ts.take N, tokOk c t
      · exact ⟨12, hR.long hg0 hne k2 (fun k => hyes ⟨k2, by rw [htl'] at k; simpa using k⟩), by decide⟩
      · exact ⟨3, hR.rng hg0 hne k2, by decide⟩
    obtain ⟨en, rfl, hen⟩ := hv
    unfold nilR
    exact ⟨_, _, _, _, _, _, _, rfl, fun _ => ⟨rfl, hc09⟩, fun hf => by simp at hf; exact absurd hf hen⟩
  obtain ⟨htok, hlen⟩ := hyes
  obtain ⟨oa, na, ca, u, A, rfl, hPB, hIU⟩ := hR.yes hg0 hne htok (by rw [htl']; simpa using hlen)
  have hPV := hPB.pv
  have hna : na = N := by rw [hPB.len, newE_len, htl']
  have hgood : ∀ e ∈ newE c wt [] (ts.take N), goodE c e := runE_good m _ hg0 htok (by rw [htl']; simpa using hlen)
  obtain ⟨ou, cu, rfl, _⟩ := hIU
  have hu64 : IntKind.u64.wrap (N : Int) = N := by rw [wrap_u64]; omega
  rw [hu64]
  obtain ⟨k, hk, hk8⟩ : ∃ k : Nat, IntKind.i64.wrap (Int.tmod (IntKind.u64.wrap turn) (N : Int)) = k ∧ k < N := by
    have h0 : 0 ≤ IntKind.u64.wrap turn := by rw [wrap_u64]; omega
    have h1 := Int.emod_nonneg (IntKind.u64.wrap turn) (b := (N : Int)) (by omega)
    have h2 := Int.emod_lt_of_pos (IntKind.u64.wrap turn) (b := (N : Int)) (by omega)
    refine ⟨(IntKind.u64.wrap turn % (N : Int)).toNat, ?_, by omega⟩
    rw [tmod_pos h0, wrap_id (by omega) (by omega)]; omega
  rw [hk, Int.toNat_natCast]
  obtain ⟨past, hpast⟩ : ∃ past : List Ent, newE c wt [] (ts.take N) = past := ⟨_, rfl⟩
  rw [hpast] at hPV hgood
  have hplen : past.length = N := by rw [← hpast, newE_len, htl']
  obtain ⟨ps, hpsO, _, hpa, hA, _⟩ := hPB
  rw [hpast] at hpa
  have hpsl : ps.length = N := by rw [hpa.length, hplen]
  subst hna
  have hone := pairs_one hpa
  refine ⟨_, _, _, _, _, _, _, rfl, iteF rfl ⟨by omega, fun w' => Ch Non w9 w', fun w10 e10 => ⟨Ch.drew e10, ⟨by omega, by omega⟩, ⟨by omega, by have := hpsO.2.1; omega⟩, fun w11 e11 => ?_⟩⟩⟩
  have hd10 : Ch Non w9 w10 := Ch.drew e10
  have hc911 := hd10.andN (Ch.alloc e11)
  have hs10 := hd10.size
  -- past[k:]
  have hA0 : V.Own w11 t_step_Entry 2 (some ⟨w10.heap.size, 0, none⟩) 0 0 [] (· = w10.heap.size) := V.Own.made e11 rfl (Nat.zero_le _) rfl
  have hdrop : (((ps.map pairE).flatten.drop (k * 2)).take ((na - k) * 2)) = ((ps.drop k).map pairE).flatten := by
    have h1 : (ps.map pairE).flatten = ((ps.take k).map pairE).flatten ++ ((ps.drop k).map pairE).flatten := by rw [← List.flatten_append, ← List.map_append, List.take_append_drop]
    rw [h1, List.drop_left' (by rw [pairs_len, List.length_take]; omega), List.take_of_length_le (by rw [pairs_len, List.length_drop]; omega)]
  have htake : (((ps.map pairE).flatten.drop (0 * 2)).take ((k - 0) * 2)) = ((ps.take k).map pairE).flatten := by
    have h1 : (ps.map pairE).flatten = ((ps.take k).map pairE).flatten ++ ((ps.drop k).map pairE).flatten := by rw [← List.flatten_append, ← List.map_append, List.take_append_drop]
    rw [h1, Nat.zero_mul, List.drop_zero, List.take_left' (by rw [pairs_len, List.length_take]; omega)]
  have hsl1 := (hpsO.keepN hc911).slice (lo := k) (hi := na) (by omega) (Nat.le_refl _)
  rw [hdrop] at hsl1
  have hsl2 := (hpsO.keepN hc911).slice (lo := 0) (hi := k) (by omega) (by omega)
  rw [htake] at hsl2
  have hone1 : ∀ u ∈ ((ps.drop k).map pairE).flatten, u.oneCell' = true := fun u hu => hone u (by
    rw [← hdrop] at hu
    exact List.mem_of_mem_drop (List.mem_of_mem_take hu))
  have hone2 : ∀ u ∈ ((ps.take k).map pairE).flatten, u.oneCell' = true := fun u hu => hone u (by
    rw [← htake] at hu
    exact List.mem_of_mem_drop (List.mem_of_mem_take hu))
  obtain ⟨o12, c12, w12, r12, hO12, hc12⟩ := V.Own.appendRd (c2 := ca - k) (m := na - k) el_S_step_Entry hA0 t_S_step_Entry hsl1.rd (by rw [pairs_len, List.length_drop]; omega) hone1 (by unfold maxLen; omega) (by omega)
  rw [Nat.zero_add, List.nil_append] at hO12
  rw [Nat.zero_add] at r12
  have hcN12 : Ch Non w10 w12 := (Ch.alloc (F := Non) e11).trans hc12 (fun i hi h => by omega)
  have hc912 := hd10.andN hcN12
  have hs12 := hc12.size
  have hs1011 : w10.heap.size < w11.heap.size := (Blk.new e11).lt
  have hAlt : ∀ i, A i → i < w9.heap.size := fun i hi => (hA i hi).2
  refine ⟨hc911, o12, _, c12, w12, r12, hc912, ?_⟩
  have hsl2' := hsl2.rd.keep hc12 (fun i _ hi h => by have := hAlt i hi; omega)
  obtain ⟨o13, c13, w13, r13, hO13, hc13⟩ := V.Own.appendRd (c2 := ca - 0) (m := k - 0) el_S_step_Entry hO12 t_S_step_Entry hsl2' (by rw [pairs_len, List.length_take]; omega) hone2 (by unfold maxLen; omega) (by omega)
  have hc913 : Ch Non w9 w13 := hc912.trans hc13 (fun i hi h => by
    rcases h with h | h
    · omega
    · have := h.1; omega)
  have hsum : na - k + (k - 0) = na := by omega
  rw [hsum] at hO13 r13
  have hflat : ((ps.drop k).map pairE).flatten ++ ((ps.take k).map pairE).flatten = ((ps.drop k ++ ps.take k).map pairE).flatten := by rw [List.map_append, List.flatten_append]
  rw [hflat] at hO13
  obtain ⟨other, hother⟩ : ∃ other : List Ent, past.drop k ++ past.take k = other := ⟨_, rfl⟩
  have hperm : past.Perm other := by
    rw [← hother]
    have : (past.drop k ++ past.take k).Perm (past.take k ++ past.drop k) := List.perm_append_comm
    rw [List.take_append_drop] at this
    exact this.symm
  have hol : other.length = na := by rw [← hperm.length_eq, hplen]
  have hall2 : All2 (fun p e => EV w13 p e (fun _ => True)) (ps.drop k ++ ps.take k) other := by
    rw [← hother]
    have hh : All2 (fun p e => EV w13 p e (fun _ => True)) ps past := hpa.imp fun p e q => (q.keepN hc913).mono (fun _ _ _ => trivial)
    have h1 : ∀ k, All2 (fun p e => EV w13 p e (fun _ => True)) (ps.drop k) (past.drop k) ∧ All2 (fun p e => EV w13 p e (fun _ => True)) (ps.take k) (past.take k) := fun k => by
      refine ⟨All2.of (by rw [List.length_drop, List.length_drop]; omega) (fun i h1 h2 => ?_), All2.of (by rw [List.length_take, List.length_take]; omega) (fun i h1 h2 => ?_)⟩
      · rw [List.getElem_drop, List.getElem_drop]
        exact hh.get _ _ _
      · rw [List.getElem_take, List.getElem_take]
        exact hh.get _ _ _
    exact (h1 k).1.append (h1 k).2
  have hPV2 : PV w13 (.slice o13 na c13) other (fun _ => True) := ⟨_, _, _, by rw [hol], by rw [hol]; exact hO13.2.1, hO13.2.2.1, hO13.rd.mono (fun _ _ _ => trivial), hall2⟩
  have hPV1 := hPV.keepN hc913
  have hNt : na < ts.length := by omega
  have hrN : ∀ {w' : World}, Ch Non W w' → Rd w' o (ts.map (.int .i64)) (fun _ => True) := fun k => hr0.keepN k
  obtain ⟨t, ht⟩ : ∃ t : Int, ts[na] = t := ⟨_, rfl⟩
  have hc013 := hc09.andN hc913
  have hK13 := (hK.keepN hc9).keepN hc913
  refine ⟨o13, _, c13, w13, r13, hc913, ⟨by omega, by omega⟩, (hrN hc013).at (j := (na : Int).toNat * 1) (v := .int .i64 ts[na]) (by simp [hNt]) fun p hp => ⟨_, hp, ?_⟩⟩
  rw [ht]
  refine step_call (Step_spec hK13 hPV1 t) ?_
  rintro v w14 hS1
  have hc14 := hS1.ch
  have hgood2 : ∀ e ∈ other, goodE c e := fun e he => hgood e (hperm.mem_iff.2 he)
  by_cases hst : (0 ≤ t ∧ t < c.vocab) ∧ (past.length : Int) < c.context
  case neg =>
    -- both are refused alike
    have hv : ∃ en : Int, v = nilE en ∧ ∀ {w' : World} {v' : Value} {w'' : World}, StepR c wt other t w' v' w'' → v' = nilE en := by
      by_cases k1 : 0 ≤ t ∧ t < c.vocab
      · have k2 : ¬ (past.length : Int) < c.context := fun k => hst ⟨k1, k⟩
        exact ⟨12, hS1.long hgood k1 k2, fun h => h.long hgood2 k1 (by rw [hol]; rw [hplen] at k2; exact k2)⟩
      · exact ⟨3, hS1.rng hgood k1, fun h => h.rng hgood2 k1⟩
    obtain ⟨en, rfl, hv2⟩ := hv
    unfold nilE
    refine ⟨_, _, _, _, _, _, _, _, _, _, rfl, fun w15 e15 => ?_⟩
    have hU15 := Blk.new e15
    refine ⟨⟨hU15.ok 0 rfl, hU15.ok 1 rfl⟩, fun w16 e16 => ⟨⟨by omega, by omega⟩, ?_⟩⟩
    have hU16 := (hU15.set (o := 0) rfl).set e16
    have hc1416 : Ch Non w14 w16 := (Ch.alloc (F := Non) e15).trans (Ch.set2 (F := (· = w14.heap.size)) e16 rfl rfl) (fun i hi he => by omega)
    have hc1316 := hc14.andN hc1416
    refine (hrN (hc013.andN hc1316)).at (j := (na : Int).toNat * 1) (v := .int .i64 ts[na]) (by simp [hNt]) fun p hp => ⟨_, hp, ?_⟩
    rw [ht]
    refine step_call (Step_spec (hK13.keepN hc1316) (hPV2.keepN hc1316) t) ?_
    rintro v w17 hS2
    have hc17 := hS2.ch
    rw [hv2 hS2]
    unfold nilE
    refine ⟨_, _, _, _, _, _, _, _, _, _, rfl, fun w18 e18 => ?_⟩
    have hU18 := Blk.new e18
    refine ⟨⟨hU18.ok 0 rfl, hU18.ok 1 rfl⟩, fun w19 e19 => iteT (by simp) ?_⟩
    have hU19 := (hU18.set (o := 0) rfl).set e19
    have hc1719 : Ch Non w17 w19 := (Ch.alloc (F := Non) e18).trans (Ch.set2 (F := (· = w17.heap.size)) e19 rfl rfl) (fun i hi he => by omega)
    have hU1619 := hU16.keepN (hc17.andN hc1719)
    refine ⟨_, _, _, _, _, _, ⟨hU1619.cell 0 rfl, hU1619.cell 1 rfl⟩, _, _, _, _, _, _, ⟨hU19.cell 0 rfl, hU19.cell 1 rfl⟩, ?_⟩
    refine step_call (Step.Same_spec (p := (.slice none 0 0, .slice none 0 0)) (q := (.slice none 0 0, .slice none 0 0)) (e := ([], [])) (f := ([], [])) (F := Non) (G := Non) ⟨RowsV.nil _ _, RowsV.nil _ _⟩ ⟨RowsV.nil _ _, RowsV.nil _ _⟩ ⟨⟨Nat.zero_le _, fun x hx => (by cases hx)⟩, ⟨Nat.zero_le _, fun x hx => (by cases hx)⟩⟩) ?_
    rintro v w20 ⟨rfl, hc20⟩
    refine ⟨_, rfl, iteT (by simp) (step_call (ints17_spec (IV.nil w20 Non) (IV.nil w20 Non)) ?_)⟩
    rintro v w21 ⟨rfl, hc21⟩
    exact ⟨_, rfl, by simp, (((hc013.andN hc1316).andN (hc17.andN hc1719)).andN hc20).andN hc21⟩
  obtain ⟨k1, k2⟩ := hst
  obtain ⟨p14, u14, rfl, hE14, hL14⟩ := hS1.yes hgood k1 k2
  have hstep : stepS c wt past t = stepS c wt other t := step_perm m hb1 hperm hgood k2 k1
  have hEe : stepE c wt other t = stepE c wt past t := by unfold stepE; rw [hstep]
  have hLe : stepL c wt other t = stepL c wt past t := by unfold stepL; rw [hstep]
  have hge := (step_ok m hgood k2 k1).2
  obtain ⟨e, he⟩ : ∃ e : Ent, stepE c wt past t = e := ⟨_, rfl⟩
  obtain ⟨sc, hsc⟩ : ∃ sc : List Int, stepL c wt past t = sc := ⟨_, rfl⟩
  rw [he] at hE14 hge hEe
  rw [hsc] at hL14 hLe
  obtain ⟨o1, c1, o2, c2, rfl⟩ := ents_of hE14
  have hL14' := hL14
  obtain ⟨o3, c3, rfl, _⟩ := hL14
  refine ⟨_, _, _, _, _, _, _, _, _, _, rfl, fun w15 e15 => ?_⟩
  have hU15 := Blk.new e15
  refine ⟨⟨hU15.ok 0 rfl, hU15.ok 1 rfl⟩, fun w16 e16 => ⟨⟨by omega, by omega⟩, ?_⟩⟩
  have e16' : w16 = w15.setCells w14.heap.size 0 [.slice o1 e.1.length c1, .slice o2 e.2.length c2] := e16
  have hU16 := hU15.all [.slice o1 e.1.length c1, .slice o2 e.2.length c2] rfl e16'
  have hc1416 : Ch Non w14 w16 := (Ch.alloc (F := Non) e15).trans (Ch.sets (F := (· = w14.heap.size)) e16' rfl) (fun i hi he => by omega)
  have hc1316 := hc14.andN hc1416
  refine (hrN (hc013.andN hc1316)).at (j := (na : Int).toNat * 1) (v := .int .i64 ts[na]) (by simp [hNt]) fun p hp => ⟨_, hp, ?_⟩
  rw [ht]
  refine step_call (Step_spec (hK13.keepN hc1316) (hPV2.keepN hc1316) t) ?_
  rintro v w17 hS2
  have hc17 := hS2.ch
  obtain ⟨p17, u17, rfl, hE17, hL17⟩ := hS2.yes hgood2 k1 (by rw [hol]; rw [hplen] at k2; exact k2)
  rw [hEe] at hE17
  rw [hLe] at hL17
  obtain ⟨o4, c4, o5, c5, rfl⟩ := ents_of hE17
  have hL17' := hL17
  obtain ⟨o6, c6, rfl, _⟩ := hL17
  refine ⟨_, _, _, _, _, _, _, _, _, _, rfl, fun w18 e18 => ?_⟩
  have hU18 := Blk.new e18
  refine ⟨⟨hU18.ok 0 rfl, hU18.ok 1 rfl⟩, fun w19 e19 => iteT rfl ?_⟩
  have e19' : w19 = w18.setCells w17.heap.size 0 [.slice o4 e.1.length c4, .slice o5 e.2.length c5] := e19
  have hU19 := hU18.all [.slice o4 e.1.length c4, .slice o5 e.2.length c5] rfl e19'
  have hc1719 : Ch Non w17 w19 := (Ch.alloc (F := Non) e18).trans (Ch.sets (F := (· = w17.heap.size)) e19' rfl) (fun i hi he => by omega)
  have hU1619 := hU16.keepN (hc17.andN hc1719)
  refine ⟨_, _, _, _, _, _, ⟨hU1619.cell 0 rfl, hU1619.cell 1 rfl⟩, _, _, _, _, _, _, ⟨hU19.cell 0 rfl, hU19.cell 1 rfl⟩, ?_⟩
  have hsm2 : Step.small e.1 ∧ Step.small e.2 := by
    have h1 := m.ok.2.1
    have h2 := m.ok.2.2.2.1
    exact ⟨⟨by rw [hge.1.1]; omega, fun r hr => by rw [(hge.1.2 r hr).1]; omega⟩, ⟨by rw [hge.2.1]; omega, fun r hr => by rw [(hge.2.2 r hr).1]; omega⟩⟩
  refine step_call (Step.Same_spec (p := (.slice o1 e.1.length c1, .slice o2 e.2.length c2)) (q := (.slice o4 e.1.length c4, .slice o5 e.2.length c5)) ((hE14.keepN (hc1416.andN (hc17.andN hc1719))).ent) ((hE17.keepN hc1719).ent) hsm2) ?_
  rintro v w20 ⟨rfl, hc20⟩
  refine ⟨_, rfl, iteT (by simp) (step_call (ints17_spec (hL14'.keepN ((hc1416.andN (hc17.andN hc1719)).andN hc20)) (hL17'.keepN (hc1719.andN hc20))) ?_)⟩
  rintro v w21 ⟨rfl, hc21⟩
  exact ⟨_, rfl, by simp, (((hc013.andN hc1316).andN (hc17.andN hc1719)).andN hc20).andN hc21⟩
end Go.Proofs.Ytfhnegfoglngoaa.Stp
