/- For several commands, and for all bytes: what the document's layer 29 answers; the conditions stand in each theorem. -/
import Derived.Test.YtamkffjmggbekaaOrd6
set_option linter.unusedVariables false
set_option linter.unusedSimpArgs false
namespace Go.Proofs.Ytamkffjmggbekaa.Ord
open Go Go.Proofs Go.Proofs.Ytamkffjmggbekaa.V Go.Proofs.Ytamkffjmggbekaa.Vc Go.Proofs.Ytamkffjmggbekaa.Pen Go.RowKit

section
variable {w w' : World} {q : CmD × RwP} {D G : Nat → Prop} {o : Option Addr}
theorem RAll_spec {qs : List (CmD × RwP)} (hr : Rd w o (qs.map cmE).flatten G) (hq : ∀ q ∈ qs, CmR w q D) (hg : ∀ q ∈ qs, GoodP q.1) (hl : qs.length ≤ 400) (c : Nat) :
    Calls Try.prog i_coadjutorref29_All #[.slice o qs.length c] w (Ret fun v w' => v = .string (str (allB (qs.map (·.1)))) ∧ Ch Non w w') := by
  refine coadjutorref29_All.calls _ _ _ ?_
  unfold coadjutorref29_All.vc
  refine step_call (RefNum_spec w _) ?_
  rintro v w1 ⟨rfl, hc1⟩
  refine ⟨_, _, rfl, fun s i k w' => ∃ j : Nat, i = j ∧ j ≤ qs.length ∧ k = qs.length - j ∧ Ch Non w w' ∧ s = str (numI qs.length ++ (((qs.take j).map (·.1)).map fun c => textB (str (bytesC c))).flatten), ⟨_, 0, rfl, Nat.zero_le _, rfl, hc1, by simp⟩, ?_⟩
  rintro jk s i k w2 ⟨j, rfl, hj, rfl, hc, rfl⟩
  have hjj : (j : Int).toNat = j := Int.toNat_natCast j
  refine ⟨fun hlt => ?_, fun hge => ?_⟩
  · have hlt : j < qs.length := by have := of_decide_eq_true hlt; omega
    obtain ⟨p, hp, _, _, hcell⟩ := (hr.keepN hc).elem (sz := 7) (enc := cmE) (fun _ => rfl) (by omega) hlt
    have hqj := hq _ (List.getElem_mem hlt)
    have hgj := hg _ (List.getElem_mem hlt)
    have hsn : qs.take (j + 1) = qs.take j ++ [qs[j]] := Pen.take_snoc qs j hlt
    have hpl : (numI qs.length ++ (((qs.take j).map (·.1)).map fun c => textB (str (bytesC c))).flatten).length ≤ 4000000 := by
      have h1 := fl_len (cs := (qs.take j).map (·.1)) (fun a ha => by
        obtain ⟨q, hq, rfl⟩ := List.mem_map.1 ha
        exact hg q (List.mem_of_mem_take hq))
      rw [List.length_map, List.length_take] at h1
      rw [List.length_append, numI_len]; omega
    generalize qs[j] = q at hcell hqj hgj hsn
    have h0 := hcell 0 _ rfl
    rw [add_none] at h0
    subst hp
    rw [hjj]
    refine ⟨⟨by omega, by omega⟩, _, _, _, _, _, _, _, _, _, _, _, ⟨h0, hcell 1 _ rfl, hcell 2 _ rfl, hcell 3 _ rfl, hcell 4 _ rfl, hcell 5 _ rfl, hcell 6 _ rfl⟩, ?_⟩
    refine step_call (RBytes_spec (hqj.keepN hc) hgj) ?_
    rintro v w3 ⟨rfl, hc3⟩
    have hbl := bytesC_len hgj
    refine ⟨_, rfl, ?_⟩
    refine step_call (RefText_spec w3 _ (by rw [str_size]; omega)) ?_
    rintro v w4 ⟨rfl, hc4⟩
    have htl : (textB (str (bytesC q.1))).length ≤ 9000 := by simp [textB, numI_len, str]; omega
    refine ⟨_, rfl, ?_, qs.length - (j + 1), by omega, j + 1, by rw [wrap_id (by omega) (by omega)]; rfl, hlt, rfl, (hc.andN hc3).andN hc4, ?_⟩
    · rw [str_size, str_size]; omega
    · rw [str_app, hsn, List.map_append, List.map_append, List.flatten_append]
      have : (List.map (fun c => textB (str (bytesC c))) (List.map (fun x : CmD × RwP => x.1) [q])).flatten = textB (str (bytesC q.1)) := by simp
      rw [this, ← List.append_assoc]
  · have hjn : j = qs.length := by have := of_decide_eq_false hge; omega
    subst hjn
    rw [List.take_length]
    refine ⟨?_, hc⟩
    unfold allB
    rw [List.length_map]
theorem parse_nil : parseC [] = none := parse_stuck (foldl_stuck _ (.inl rfl))
set_option maxHeartbeats 1000000 in
theorem RSplit_spec (w : World) (l : List UInt8) (hl : l.length ≤ 1000000) : Calls Try.prog i_coadjutorref29_Split #[.string (str l)] w (Ret fun v w' => Ch Non w w' ∧
    (splitC l = none → ∃ (o : Option Addr) (n c : Nat), v = .tuple #[.slice o n c, .bool false]) ∧ ∀ cs, splitC l = some cs → ∃ (o : Option Addr) (c : Nat) (qs : List (CmD × RwP)), v = .tuple #[.slice o qs.length c, .bool true] ∧ qs.map (·.1) = cs ∧ qs.length ≤ 400 ∧ Rd w' o (qs.map cmE).flatten (New w w') ∧ ∀ q ∈ qs, CmR w' q (New w w')) := by
  refine coadjutorref29_Split.calls _ ?_
  unfold coadjutorref29_Split.vc
  intro w1 e1
  have hE1 : EyeF w1 w.heap.size (l, false) := Blk.new e1
  have hc1 : Ch Non w w1 := Ch.alloc e1
  refine step_call (RefEyeNum_spec hE1 400) ?_
  rintro v w2 ⟨rfl, hE2, hc2⟩
  have hel := Blk.lt hE1
  have hs2 := hc2.size
  have hc02 : Ch Non w w2 := hc1.trans hc2 (fun i hi h => by omega)
  have hle := numE_le (st := (l, false)) (most := 400) (by omega)
  have hb2 := numE_bad2 (st := (l, false)) (most := 400)
  have hS : splitC l = (splitL l.length (numE (l, false) 400).1 (numE (l, false) 400).2 []).bind fun p => if endE p.2 = 0 then some p.1 else none := rfl
  rw [hS]
  generalize (numE (l, false) 400).1 = n at hle ⊢
  generalize (numE (l, false) 400).2 = s0 at hE2 hb2 ⊢
  have hsz : (str l).size = l.length := str_size l
  rw [hsz]
  refine ⟨_, rfl, fun w3 e3 => ?_⟩
  have hO : Own w3 t_coadjutorref29_Command 7 (some ⟨w2.heap.size, 0, none⟩) 0 0 ([] : List Value) (· = w2.heap.size) := Own.made (n := 0) (sz := 7) (F := (· = w2.heap.size)) e3 rfl (Nat.zero_le _) rfl
  have hE3 : EyeF w3 w.heap.size s0 := Blk.alloc hE2 e3
  have hs3 := (Blk.new e3).lt
  have hc03 : Ch Non w w3 := hc02.andN (Ch.alloc e3)
  generalize he : w.heap.size = e at hE3 ⊢
  refine ⟨fun oA oN oC k f w' => ∃ (qs : List (CmD × RwP)) (st : St) (FO D : Nat → Prop), oN = qs.length ∧ k = qs.length ∧ qs.length ≤ n ∧ f = n - qs.length ∧ splitL l.length n s0 [] = splitL l.length (n - qs.length) st (qs.map (·.1)) ∧ EyeF w' e st ∧ (st.2 = true → st = ([], true)) ∧ Own w' t_coadjutorref29_Command 7 oA qs.length oC (qs.map cmE).flatten FO ∧ (∀ q ∈ qs, CmR w' q D) ∧ (∀ i, FO i → New w w' i ∧ i ≠ e) ∧ (∀ i, D i → New w w' i ∧ i ≠ e ∧ ¬ FO i) ∧ Ch Non w w',
    ⟨_, [], s0, _, Non, rfl, rfl, Nat.zero_le _, rfl, rfl, hE3, hb2, hO, fun q hq => (by cases hq), fun i h => (by have h : i = w2.heap.size := h; exact ⟨⟨by omega, by omega⟩, by omega⟩), fun i h => h.elim, hc03⟩, ?_⟩
  clear hE1 hE2 hE3 hc2 hS hc02 hc03 hO e3 e1 hb2
  rintro jk oA oN oC k f w4 ⟨qs, st, FO, D, rfl, rfl, hqn, rfl, heq, hE, hb, hO, hQ, hFO, hD, hc⟩
  have hs4 := hc.size
  have hel4 := Blk.lt hE
  have hend : st.2 = true → ((splitL l.length n s0 []).bind fun p => if endE p.2 = 0 then some p.1 else none) = none := fun h => by
    rw [heq, hb h]
    cases n - qs.length with
    | zero => rfl
    | succ m => rw [splitL_succ, textE_stuck, parse_nil]; rfl
  have bad : ∀ {w'}, st.2 = true → Ch Non w w' → Ch Non w w' ∧ (((splitL l.length n s0 []).bind fun p => if endE p.2 = 0 then some p.1 else none) = none → ∃ (o : Option Addr) (n c : Nat), Value.tuple #[.slice oA qs.length oC, .bool false] = .tuple #[.slice o n c, .bool false]) ∧ ∀ cs, ((splitL l.length n s0 []).bind fun p => if endE p.2 = 0 then some p.1 else none) = some cs → ∃ (o : Option Addr) (c : Nat) (qs' : List (CmD × RwP)), Value.tuple #[.slice oA qs.length oC, .bool false] = .tuple #[.slice o qs'.length c, .bool true] ∧ qs'.map (·.1) = cs ∧ qs'.length ≤ 400 ∧ Rd w' o (qs'.map cmE).flatten (New w w') ∧ ∀ q ∈ qs', CmR w' q (New w w') := fun h hc => ⟨hc, fun _ => ⟨_, _, _, rfl⟩, fun cs hcs => by rw [hend h] at hcs; cases hcs⟩
  refine ⟨fun hlt => ⟨_, hE.cell 1 rfl, fun hbad => ?_, fun hbad => ?_⟩, fun hge => ?_⟩
  · have hlt : qs.length < n := by have := of_decide_eq_true hlt; omega
    refine step_call (RefEyeText_spec hE l.length) ?_
    rintro v w5 ⟨rfl, hE5, hc5⟩
    have hs5 := hc5.size
    refine ⟨_, rfl, ?_⟩
    refine step_call (RParse_spec w5 (textE st l.length).1) ?_
    rintro v w6 ⟨p, rfl, hR6, hc6⟩
    have hs6 := hc6.size
    unfold parseRV
    have hn1 : n - qs.length = (n - (qs.length + 1)) + 1 := by omega
    rw [hn1, splitL_succ] at heq
    have hc06 : Ch Non w w6 := (hc.trans hc5 (fun i hi h => by omega)).andN hc6
    refine ⟨_, _, _, _, _, _, _, _, _, _, _, _, rfl, fun w7 e7 => ?_⟩
    have hB7 := Blk.new e7
    refine ⟨⟨hB7.ok 0 rfl, hB7.ok 1 rfl, hB7.ok 2 rfl, hB7.ok 3 rfl, hB7.ok 4 rfl, hB7.ok 5 rfl, hB7.ok 6 rfl⟩, fun w8 e8 => ?_⟩
    obtain ⟨hB8, hc68⟩ := cmNew ((parseC (textE st l.length).1).getD (cm0 0), p) e7 e8
    have hc08 := hc06.andN hc68
    have hs8 := hc68.size
    have hb5 : (textE st l.length).2.2 = true → (textE st l.length).2 = ([], true) := fun h => by rw [textE_bad h]
    generalize hpc : parseC (textE st l.length).1 = pc at hR6 hB8 heq ⊢
    cases pc with
    | none =>
      refine iteT rfl ⟨hc08, fun _ => ⟨_, _, _, rfl⟩, fun cs h => ?_⟩
      rw [heq] at h; cases h
    | some c =>
      refine iteF rfl ⟨_, _, _, _, _, _, _, _, _, _, _, ⟨hB8.cell 0 rfl, hB8.cell 1 rfl, hB8.cell 2 rfl, hB8.cell 3 rfl, hB8.cell 4 rfl, hB8.cell 5 rfl, hB8.cell 6 rfl⟩, fun w9 e9 => ?_⟩
      have hb9 : Blk w9 w8.heap.size (cmE (c, p)) t_coadjutorref29_Command := Blk.new e9
      have hc69 : Ch Non w6 w9 := hc68.andN (Ch.alloc e9)
      have hc59 := hc6.andN hc69
      have hO9 := (hO.keep hc5 (fun i _ hf he => (hFO i hf).2 he)).keepN hc59
      obtain ⟨o10, c10, w10, r10, hO10, hc10⟩ := Own.appendRd (c2 := 1) (m := 1) el_S_coadjutorref29_Command hO9 t_S_coadjutorref29_Command hb9.rd rfl (cm_one (c, p)) (by unfold maxLen; omega) (by omega)
      have hs9 := hc59.size
      have hs10 := hc10.size
      have hb9l := hb9.lt
      have hFOe : ¬ FO e := fun h => (hFO e h).2 rfl
      have hE10 : EyeF w10 e (textE st l.length).2 := Blk.keep (Blk.keepN hE5 hc59) hc10 hFOe
      have hQ10 : ∀ q ∈ qs, CmR w10 q D := fun q hq => (((hQ q hq).keep hc5 (fun i _ hi he => (hD i hi).2.1 he)).keepN hc59).keep hc10 (fun i _ hi hf => (hD i hi).2.2 hf)
      have hR10 : CmR w10 (c, p) (New w5 w6) := (hR6.keepN hc69).keep hc10 (fun i _ hi hf => by have := hi.1; have := (hFO i hf).1.2; omega)
      have hx : ∀ i, Ext FO w9 w10 i → New w w10 i ∧ i ≠ e := fun i hi => by
        rcases hi with hi | hi
        · exact ⟨⟨(hFO i hi).1.1, by have := (hFO i hi).1.2; omega⟩, (hFO i hi).2⟩
        · exact ⟨⟨by have := hi.1; omega, hi.2⟩, by have := hi.1; omega⟩
      have e1 : (qs ++ [(c, p)]).length = qs.length + 1 := by simp
      have e2 : ((qs ++ [(c, p)]).map cmE).flatten = (qs.map cmE).flatten ++ cmE (c, p) := by simp
      have e3 : (qs ++ [(c, p)]).map (·.1) = qs.map (·.1) ++ [c] := by simp
      refine ⟨o10, _, c10, w10, r10, n - (qs.length + 1), by omega, qs ++ [(c, p)], (textE st l.length).2, Ext FO w9 w10, fun i => D i ∨ New w5 w6 i, e1.symm, by rw [wrap_id (by omega) (by omega), e1]; rfl, by omega, by omega, by rw [heq, e1, e3], hE10, hb5, by rw [e1, e2]; exact hO10, fun q hq => ?_, hx, fun i hi => ?_, ((hc.trans hc5 (fun i hi h => by omega)).andN hc59).trans hc10 (fun i hi hf => by have := (hFO i hf).1.1; omega)⟩
      · rcases List.mem_append.1 hq with hq | hq
        · exact (hQ10 q hq).mono' (fun i _ hi => .inl hi)
        · rw [List.mem_singleton] at hq; subst hq; exact hR10.mono' (fun i _ hi => .inr hi)
      · rcases hi with hi | hi
        · exact ⟨⟨(hD i hi).1.1, by have := (hD i hi).1.2; omega⟩, (hD i hi).2.1, fun hx => (hD i hi).2.2 (hx.old (by have := (hD i hi).1.2; omega))⟩
        · refine ⟨⟨by have := hi.1; omega, by have := hi.2; omega⟩, by have := hi.1; omega, fun hx => ?_⟩
          rcases hx with hx | hx
          · have := (hFO i hx).1.2; have := hi.1; omega
          · have := hx.1; have := hi.2; have := hc69.size; omega
  · have hbad : st.2 = true := by simpa using hbad
    refine ⟨fun w' => Ch Non w4 w', fun w11 e11 => ⟨Ch.drew e11, _, fun w' hc => (Blk.keepN hE hc).cell 1 rfl, fun h => ?_, fun h => ?_⟩⟩
    · rw [hbad] at h; cases h
    · exact bad hbad (hc.andN (Ch.drew e11))
  · have hqe : qs.length = n := by have := of_decide_eq_false hge; omega
    have hz : n - qs.length = 0 := by omega
    refine ⟨fun w' => Ch Non w4 w', fun w14 e14 => ⟨Ch.drew e14, _, fun w' hc => (Blk.keepN hE hc).cell 1 rfl, fun h => ?_, fun h => ?_⟩⟩
    · have h : st.2 = false := by simpa using h
      refine ⟨_, fun w' hc => (Blk.keepN hE hc).cell 0 rfl, ?_⟩
      have hc14 := hc.andN (Ch.drew (F := Non) e14)
      rw [heq, hz, splitL_zero]
      have hb : ((some (qs.map (·.1), st)).bind fun p : List CmD × St => if endE p.2 = 0 then some p.1 else none) = if endE st = 0 then some (qs.map (·.1)) else none := rfl
      rw [hb, str_size]
      unfold endE
      rw [h]
      by_cases h0 : st.1.length = 0
      · rw [h0]
        refine ⟨hc14, fun h => (by cases h), fun cs h => ?_⟩
        injection h with h
        exact ⟨oA, oC, qs, rfl, h, by omega, (hO.keepN (Ch.drew e14)).rd.mono (fun i _ hi => ⟨(hFO i hi).1.1, by have := (hFO i hi).1.2; subst e14; exact this⟩), fun q hq => ((hQ q hq).keepN (Ch.drew e14)).mono' (fun i _ hi => ⟨(hD i hi).1.1, by have := (hD i hi).1.2; subst e14; exact this⟩)⟩
      · have h2 : ((st.1.length : Int) == 0) = false := beq_eq_false_iff_ne.2 (by omega)
        rw [h2, if_neg h0]
        exact ⟨hc14, fun _ => ⟨_, _, _, rfl⟩, fun cs h => (by cases h)⟩
    · have h : st.2 = true := by simpa using h
      exact bad h (hc.andN (Ch.drew e14))
end
end Go.Proofs.Ytamkffjmggbekaa.Ord
