/- WardFirst's contract: of every prompts and every number the Go function answers true and leaves what was there; the conditions stand in each theorem. -/
import Derived.Test.YtamkffjmggbekaaWardL2
set_option linter.unusedVariables false
set_option linter.unusedSimpArgs false
namespace Go.Proofs.Ytamkffjmggbekaa.Ward
open Go Go.Proofs Go.Proofs.Ytamkffjmggbekaa.V Go.Proofs.Ytamkffjmggbekaa.Vc Go.Proofs.Ytamkffjmggbekaa.Conf Go.RowKit

/-- The ward, its model, and the row of those who came. -/
structure SF (W w : World) (wb b : Nat) (al : List AskD) (o : Option Addr) (c : Nat) (qs : List (AskD × AskP)) (F FC Fa D : Nat → Prop) : Prop where
  ws : WB W w wb b 64 al F
  own : Own w t_ward_Ask 5 o qs.length c (qs.map askE).flatten Fa
  dat : ∀ q ∈ qs, AskR w q D
  fa : ∀ i, Fa i → FC i
  fd : ∀ i, D i → FC i ∧ ¬ Fa i
  fc : ∀ i, FC i → W.heap.size ≤ i ∧ i < w.heap.size ∧ ¬ F i ∧ i ≠ b
section
variable {W w w' : World} {wb b c : Nat} {al al' : List AskD} {o : Option Addr} {q : AskD × AskP} {qs : List (AskD × AskP)} {F F' FC Fa D Dq G : Nat → Prop}
theorem SF.far (h : SF W w wb b al o c qs F FC Fa D) (hc : Ch G w w') (hG : ∀ i, i < w.heap.size → G i → W.heap.size ≤ i ∧ ¬ F i ∧ ¬ FC i ∧ i ≠ b) : SF W w' wb b al o c qs F FC Fa D :=
  ⟨h.ws.far hc (fun i hi hg => ⟨(hG i hi hg).1, (hG i hi hg).2.1, (hG i hi hg).2.2.2⟩), h.own.keep hc (fun i hi hf hg => (hG i hi hg).2.2.1 (h.fa i hf)), fun q hq => (h.dat q hq).keep hc (fun i hi hf hg => (hG i hi hg).2.2.1 (h.fd i hf).1), h.fa, h.fd,
    fun i hi => ⟨(h.fc i hi).1, Nat.lt_of_lt_of_le (h.fc i hi).2.1 hc.size, (h.fc i hi).2.2⟩⟩
theorem SF.keepN (h : SF W w wb b al o c qs F FC Fa D) (hc : Ch Non w w') : SF W w' wb b al o c qs F FC Fa D := h.far hc (fun _ _ h => h.elim)
theorem SF.sub (h : SF W w wb b al o c qs F FC Fa D) (hs : WS W w' wb 64 al' F') (hE : ∀ i, F' i → Ext F w w' i) (hc : Ch F w w') : SF W w' wb b al' o c qs F' FC Fa D :=
  ⟨h.ws.step hs hE hc, h.own.keep hc (fun i _ hf hg => (h.fc i (h.fa i hf)).2.2.1 hg), fun q hq => (h.dat q hq).keep hc (fun i _ hf hg => (h.fc i (h.fd i hf).1).2.2.1 hg), h.fa, h.fd,
    fun i hi => ⟨(h.fc i hi).1, Nat.lt_of_lt_of_le (h.fc i hi).2.1 hc.size, ext_not hE (h.fc i hi).2.1 (h.fc i hi).2.2.1, (h.fc i hi).2.2.2⟩⟩
set_option maxRecDepth 100000 in
theorem SF.push (h : SF W w wb b al o c qs F FC Fa D) (hq : AskR w q Dq) (hD : ∀ i, Dq i → W.heap.size ≤ i ∧ i < w.heap.size ∧ ¬ F i ∧ i ≠ b ∧ ¬ FC i) {nb : Nat} (hb : Blk w nb (askE q) 32) (hn : qs.length < 1000) :
    ∃ (o' : Option Addr) (c' : Nat) (w' : World), (Builtin.append_ #[t_S_ward_Ask, t_S_ward_Ask] t_S_ward_Ask #[.slice o qs.length c, .slice (some ⟨nb, 0, none⟩) 1 1]).run Try.prog w = .ok (.slice o' (qs.length + 1) c') w' ∧
      SF W w' wb b al o' c' (qs ++ [q]) F (fun i => FC i ∨ Dq i ∨ New w w' i) (Ext Fa w w') (fun i => D i ∨ Dq i) ∧ Ch Fa w w' := by
  obtain ⟨o', c', w', hr, ho, hc⟩ := Own.appendRd (c2 := 1) (m := 1) el_S_ward_Ask h.own t_S_ward_Ask hb.rd rfl (ask_one q) (by unfold maxLen; omega) (by omega)
  refine ⟨o', c', w', hr, ⟨h.ws.far hc (fun i hi hg => ⟨(h.fc i (h.fa i hg)).1, (h.fc i (h.fa i hg)).2.2.1, (h.fc i (h.fa i hg)).2.2.2⟩), ?_, fun q' hq' => ?_, fun i hi => ?_, fun i hi => ?_, fun i hi => ?_⟩, hc⟩
  · have e : (qs ++ [q]).length = qs.length + 1 := by simp
    have e2 : ((qs ++ [q]).map askE).flatten = (qs.map askE).flatten ++ askE q := by simp
    rw [e, e2]; exact ho
  · rcases List.mem_append.1 hq' with hq' | hq'
    · exact ((h.dat q' hq').keep hc (fun i _ hi hg => (h.fd i hi).2 hg)).mono (fun i _ hi => .inl hi)
    · rw [List.mem_singleton] at hq'
      subst hq'
      exact (hq.keep hc (fun i _ hi hg => (hD i hi).2.2.2.2 (h.fa i hg))).mono (fun i _ hi => .inr hi)
  · rcases hi with hi | hi
    · exact .inl (h.fa i hi)
    · exact .inr (.inr hi)
  · rcases hi with hi | hi
    · exact ⟨.inl (h.fd i hi).1, fun hx => (h.fd i hi).2 (hx.old (h.fc i (h.fd i hi).1).2.1)⟩
    · exact ⟨.inr (.inl hi), fun hx => (hD i hi).2.2.2.2 (h.fa i (hx.old (hD i hi).2.1))⟩
  · have hs := hc.size
    rcases hi with hi | hi | hi
    · exact ⟨(h.fc i hi).1, by have := (h.fc i hi).2.1; omega, (h.fc i hi).2.2⟩
    · exact ⟨(hD i hi).1, by have := (hD i hi).2.1; omega, (hD i hi).2.2.1, (hD i hi).2.2.2.1⟩
    · have h1 := hi.1
      have h2 := h.ws.s.c.size
      exact ⟨by omega, hi.2, fun hf => by have := (h.ws.s.f i hf).2; omega, fun hb => by have := Blk.lt h.ws.r; omega⟩
end
theorem sub_first {al : List AskD} {i v : Int} {p : List Int} (hal : ∀ a ∈ al, a.id < 10 + i) (hl : al.length < 16) (hp : ∀ y ∈ p, 0 ≤ y ∧ y < 3) (h8 : p.length ≤ 8) (hi : 0 ≤ i ∧ i < 100) {d : Int} : subL c24 64 al ⟨10 + i, v, p, 3, [d]⟩ = if p.length = 0 then 1 else 0 := by
  unfold subL
  rw [if_neg (by simp; omega), if_neg (findL_no (fun a ha => by have := hal a ha; show a.id ≠ 10 + i; omega))]
  have hany : ¬ p.any (badT c24.vocab) = true := by
    rw [List.any_eq_true]
    rintro ⟨y, hy, hb⟩
    have := hp y hy
    have e : c24.vocab = 3 := rfl
    unfold badT at hb
    rw [e] at hb
    simp at hb
    omega
  have hc : checkV c24 3 p = if p.length = 0 then 1 else 0 := by
    unfold checkV
    by_cases h : p.length = 0
    · rw [if_pos (.inl h), if_pos h]
    · rw [if_neg (by omega), if_neg hany, if_neg (show ¬ ((p.length : Int) + 3 > c24.context) by show ¬ ((p.length : Int) + 3 > 12); omega), if_neg h]
  dsimp only
  rw [hc]
  by_cases h : p.length = 0
  · rw [if_pos h]; rfl
  · rw [if_neg h, if_neg (by decide)]
    have hn : ¬ needN ⟨10 + i, v, p, 3, [d]⟩ > 64 := by
      unfold needN
      rw [if_neg (by simp)]
      dsimp only
      rw [Int.tdiv_eq_ediv_of_nonneg (by omega)]
      omega
    rw [if_neg hn, if_neg (by omega)]
/-- What is known of those who came. -/
def Facts (j : Nat) (al : List AskD) : Prop := (∀ a ∈ al, a.id < 10 + (j : Int)) ∧ al.length ≤ j ∧ al.Pairwise (fun a b => a.id < b.id)
theorem Facts.next {j : Nat} {al : List AskD} (h : Facts j al) : Facts (j + 1) al := ⟨fun a ha => by have := h.1 a ha; omega, by have := h.2.1; omega, h.2.2⟩
theorem Facts.push {j : Nat} {al : List AskD} (h : Facts j al) {a : AskD} (ha : a.id = 10 + (j : Int)) : Facts (j + 1) (al ++ [a]) := by
  refine ⟨fun x hx => ?_, by have := h.2.1; simp; omega, ?_⟩
  · rcases List.mem_append.1 hx with hx | hx
    · have := h.1 x hx; omega
    · rw [List.mem_singleton] at hx; subst hx; omega
  · rw [List.pairwise_append]
    refine ⟨h.2.2, List.pairwise_singleton _ _, fun x hx y hy => ?_⟩
    rw [List.mem_singleton] at hy
    subst hy
    have := h.1 x hx; omega
theorem cancel_filter {g : Int} : ∀ {al : List AskD}, al.Pairwise (fun a b => a.id < b.id) → (if findL al g ≥ 0 then al.eraseIdx (al.findIdx fun a => a.id == g) else al) = al.filter (fun a => a.id != g)
  | [], _ => by simp
  | a :: r, h => by
    rw [List.pairwise_cons] at h
    have ih := cancel_filter (g := g) h.2
    by_cases ha : a.id = g
    · have h0 : (a :: r).findIdx (fun a => a.id == g) = 0 := by rw [List.findIdx_cons]; simp [ha]
      have hge : findL (a :: r) g ≥ 0 := by
        unfold findL
        rw [h0, if_pos (by simp)]; exact Int.le_refl _
      have hb : ¬ (a.id != g) = true := by rw [ha]; simp
      rw [if_pos hge, h0, List.eraseIdx_zero, List.tail_cons, List.filter_cons, if_neg hb]
      symm
      rw [List.filter_eq_self]
      intro x hx
      have := h.1 x hx
      exact bne_iff_ne.2 (by omega)
    · have he : (a.id == g) = false := by simpa using ha
      have hs : (a :: r).findIdx (fun a => a.id == g) = r.findIdx (fun a => a.id == g) + 1 := by rw [List.findIdx_cons, he]; rfl
      have hf : findL (a :: r) g ≥ 0 ↔ findL r g ≥ 0 := by
        unfold findL
        rw [hs, List.length_cons]
        by_cases hlt : r.findIdx (fun a => a.id == g) < r.length
        · rw [if_pos hlt, if_pos (by omega)]; omega
        · rw [if_neg hlt, if_neg (by omega)]
      have hb : (a.id != g) = true := bne_iff_ne.2 ha
      rw [List.filter_cons, if_pos hb, ← ih, hs, List.eraseIdx_cons_succ]
      by_cases hge : findL r g ≥ 0
      · rw [if_pos hge, if_pos (hf.2 hge)]
      · rw [if_neg hge, if_neg (fun h => hge (hf.1 h))]
theorem cancel_in {al : List AskD} {g : Int} {a : AskD} (ha : a ∈ al) (hg : a.id = g) : findL al g ≥ 0 := by
  unfold findL
  have hlt : al.findIdx (fun a => a.id == g) < al.length := List.findIdx_lt_length.2 ⟨a, ha, by simpa using hg⟩
  rw [if_pos hlt]; omega
theorem mod20 (x : Int) : True := trivial
set_option maxRecDepth 100000 in
set_option maxHeartbeats 1000000 in
theorem WardFirst_true (W : World) (o1 : Option Addr) (n1 c1 : Nat) (h1 : DatC Try.prog W t_S_S_int [.slice o1 n1 c1]) (cancel : Int) (h0 : (Lit.int .i64 cancel).wf = true) :
    Calls Try.prog i_coadjutorlaw24_WardFirst #[.slice o1 n1 c1, .int .i64 cancel] W (Ret fun v w' => v = .bool true ∧ Ch Non W w') := by
  obtain ⟨o1', c1', xs, hcs1, _, _, _, hrows, hr⟩ := h1.intRows (e := t_S_int) (g := t_int) (k := .i64) (by kernel_rfl) (by kernel_rfl) (by kernel_rfl)
  injection hcs1 with hcs1
  injection hcs1 with q1 q2 q3
  subst q1; subst q2; subst q3
  refine coadjutorlaw24_WardFirst.calls _ _ _ _ ?_
  unfold coadjutorlaw24_WardFirst.vc
  refine step_call (awake_spec W) ?_
  rintro v w1 ⟨rfl, hC1⟩
  refine ⟨_, rfl, iteF rfl ⟨fun _ => ⟨rfl, hC1⟩, fun h16 => ?_⟩⟩
  have h16 : xs.length ≤ 16 := by have := of_decide_eq_false h16; omega
  refine step_call (wNew_spec hC1 64 (by omega) (by omega)) ?_
  rintro v w2 ⟨wb, F2, rfl, hS2, hF2, hc2⟩
  refine ⟨_, rfl, ?_⟩
  refine step_call (zeros_spec w2) ?_
  rintro v w3 ⟨b, rfl, hb0, hb1, hc3⟩
  have hB3 : WB W w3 wb b 64 [] F2 := ⟨hS2.keepN hc3, hb1, fun h => by have := (hS2.f _ h).2; omega⟩
  refine ⟨_, rfl, fun w4 e4 => ?_⟩
  have hw3 := hB3.s.c.size
  have s4 : w3.heap.size < w4.heap.size := (Blk.new e4).lt
  have hS4 : SF W w4 wb b [] (some ⟨w3.heap.size, 0, none⟩) 0 [] F2 (· = w3.heap.size) (· = w3.heap.size) Non :=
    ⟨hB3.keepN (Ch.alloc e4), Own.made (n := 0) e4 rfl (Nat.zero_le _) rfl, fun q hq => (by cases hq), fun i hi => hi, fun i hi => hi.elim, fun i (hi : i = w3.heap.size) => ⟨by omega, by omega, fun hf => (by have := (hB3.s.f i hf).2; omega), fun hb => (by have := Blk.lt hB3.r; omega)⟩⟩
  clear hB3 hS2 hF2 hb0 hb1 hc2 hc3 e4
  refine ⟨fun oA oN oC i f w' => ∃ (j : Nat) (qs : List (AskD × AskP)) (F FC Fa D : Nat → Prop), oN = qs.length ∧ i = j ∧ j ≤ xs.length ∧ f = xs.length - j ∧ SF W w' wb b (qs.map (·.1)) oA oC qs F FC Fa D ∧ Facts j (qs.map (·.1)),
    ⟨_, 0, [], F2, _, _, _, rfl, rfl, Nat.zero_le _, rfl, hS4, ⟨fun a ha => (by cases ha), Nat.le_refl _, List.Pairwise.nil⟩⟩, ?_⟩
  clear hS4 s4 hw3
  rintro jk oA oN oC i f w5 ⟨j, qs, F, FC, Fa, D, rfl, rfl, hj, rfl, hS, hFa⟩
  refine ⟨fun hlt => ?_, fun hge => ?_⟩
  · have hlt : j < xs.length := by have := of_decide_eq_true hlt; omega
    have hql : qs.length ≤ j := by have := hFa.2.1; rwa [List.length_map] at this
    refine ⟨fun oA oN oC w' => ∃ (qs : List (AskD × AskP)) (F FC Fa D : Nat → Prop), oN = qs.length ∧ SF W w' wb b (qs.map (·.1)) oA oC qs F FC Fa D ∧ Facts (j + 1) (qs.map (·.1)), fun w6 e6 => ?_, ?_⟩
    rotate_left
    · rintro jk oA oN oC w28 ⟨qs', F', FC', Fa', D', rfl, hS', hFa'⟩
      exact ⟨xs.length - (j + 1), by omega, j + 1, qs', F', FC', Fa', D', rfl, by rw [wrap_id (by omega) (by omega)]; rfl, hlt, rfl, hS', hFa'⟩
    refine ⟨fun pA pN pC k f w' => ∃ pl : List Int, pN = pl.length ∧ k = pl.length ∧ pl.length ≤ 8 ∧ f = 8 - pl.length ∧ (∀ y ∈ pl, 0 ≤ y ∧ y < 3) ∧ Gr Non w5 w' t_int 1 pA pl.length pC (pl.map (.int .i64)), ⟨_, [], rfl, rfl, by simp, rfl, by simp, Gr.made0 (Ch.refl _ _) e6⟩, ?_⟩
    clear e6
    rintro jk pA pN pC k f w7 ⟨pl, rfl, rfl, hp8, rfl, hp3, hG7⟩
    have hCW7 : Ch Non W w7 := hS.ws.s.c.andN hG7.2
    have hjj : (j : Int).toNat * 1 = j := by omega
    rw [hjj]
    obtain ⟨p, hp, _, _, hcell⟩ := (hr.keepN hCW7).getT (enc := fun x : Option Addr × Nat × List Int => Value.slice x.1 x.2.2.length x.2.1) hlt
    obtain ⟨_, _, _, _, hrow⟩ := hrows _ (List.getElem_mem hlt)
    generalize xs[j] = x at hcell hrow
    subst hp
    refine ⟨⟨by omega, by omega⟩, _, _, _, hcell, fun hlt2 => ⟨fun hk8 => ?_, fun hk8 => ?_⟩, fun hge2 => ?_⟩
    · have hlt2 : pl.length < x.2.2.length := by have := of_decide_eq_true hlt2; omega
      have hk8 : pl.length < 8 := by have := of_decide_eq_true hk8; omega
      obtain ⟨p2, hp2, _, _, hc2⟩ := (hrow.keepN hCW7).getT hlt2
      have hkk : (pl.length : Int).toNat * 1 = pl.length := by omega
      rw [hkk]
      refine ⟨⟨by omega, by omega⟩, _, _, _, hcell, ⟨by omega, by omega⟩, ?_⟩
      rw [hp2]
      refine ⟨_, hc2, by decide, fun w8 e8 => ?_⟩
      generalize x.2.2[pl.length] = y at e8 hc2
      have hy : 0 ≤ IntKind.i64.wrap (Int.tmod (IntKind.u64.wrap y) 3) ∧ IntKind.i64.wrap (Int.tmod (IntKind.u64.wrap y) 3) < 3 := by
        have h0 : 0 ≤ IntKind.u64.wrap y := by rw [wrap_u64]; omega
        rw [tmod_pos h0]
        have h1 : 0 ≤ IntKind.u64.wrap y % 3 := Int.emod_nonneg _ (by omega)
        have h2 : IntKind.u64.wrap y % 3 < 3 := Int.emod_lt_of_pos _ (by omega)
        rw [wrap_id (by omega) (by omega)]
        exact ⟨h1, h2⟩
      obtain ⟨o9, c9, w9, r9, hG9, _⟩ := hG7.push el_S_int t_S_int e8 rfl rfl (by omega) (by omega)
      refine ⟨o9, _, c9, w9, r9, 8 - (pl.length + 1), by omega, pl ++ [IntKind.i64.wrap (Int.tmod (IntKind.u64.wrap y) 3)], by simp, by rw [wrap_id (by omega) (by omega)]; simp, by simp; omega, by simp, fun z hz => ?_, by simpa using hG9⟩
      rcases List.mem_append.1 hz with hz | hz
      · exact hp3 z hz
      · rw [List.mem_singleton] at hz; subst hz; exact hy
    ·
      refine ⟨by decide, fun w10 e10 w11 e11 => ?_⟩
      have hA11 := Blk.new e11
      have s10 : w7.heap.size < w10.heap.size := (Blk.new e10).lt
      have s7 := hG7.2.size
      refine ⟨⟨hA11.ok 0 rfl, hA11.ok 1 rfl, hA11.ok 2 rfl, hA11.ok 3 rfl, hA11.ok 4 rfl⟩, fun w12 e12 => ?_⟩
      obtain ⟨hA12, hc1012⟩ := askNew (⟨IntKind.i64.wrap (10 + (j : Int)), IntKind.i64.wrap (1 + Int.tmod (j : Int) 2), pl, 3, [(j : Int)]⟩, ⟨pA, pC, some ⟨w7.heap.size, 0, none⟩, 1⟩) e11 e12
      have hid : IntKind.i64.wrap (10 + (j : Int)) = 10 + (j : Int) := wrap_id (by omega) (by omega)
      rw [hid] at hA12
      generalize IntKind.i64.wrap (1 + Int.tmod (j : Int) 2) = ver at hA12
      have s12 := hA12.lt
      have hc712 : Ch Non w7 w12 := (Ch.alloc e10).andN hc1012
      have hG12 := hG7.keepN hc712
      have hq12 : AskR w12 (⟨10 + (j : Int), ver, pl, 3, [(j : Int)]⟩, ⟨pA, pC, some ⟨w7.heap.size, 0, none⟩, 1⟩) (fun i => i = w7.heap.size ∨ New w5 w7 i) :=
        ⟨(hG7.rd.keepN hc712).mono (fun i _ hi => .inr hi), ((blkRd (xs := [(j : Int)]) (Blk.new e10)).keepN hc1012).mono (fun i _ hi => .inl hi), by show pl.length ≤ 1000; omega, by show [(j : Int)].length ≤ 1000; simp⟩
      have hD12 : Blk w12 w7.heap.size [.int .i64 (j : Int)] 3 := (Blk.new e10).keepN hc1012
      clear e10 e11 e12 hA11
      have hS12 := (hS.keepN hG7.2).keepN hc712
      have hflt : ∀ i, F i → i < w5.heap.size := fun i hi => (hS.ws.s.f i hi).2
      have hblt : b < w5.heap.size := Blk.lt hS.ws.r
      have hclt : ∀ i, FC i → i < w5.heap.size := fun i hi => (hS.fc i hi).2.1
      have hWs := hS.ws.s.c.size
      refine ⟨_, _, _, _, _, _, _, _, _, ⟨hA12.cell 0 rfl, hA12.cell 1 rfl, hA12.cell 2 rfl, hA12.cell 3 rfl, hA12.cell 4 rfl⟩, ?_⟩
      refine step_call (wSubmit_spec hS12.ws.s hS12.ws.r hq12 (by rw [List.length_map]; omega)) ?_
      rintro v w13 ⟨rfl, F13, hS13, hE13, hc13⟩
      have hv := sub_first (al := qs.map (·.1)) (i := (j : Int)) (v := ver) (d := (j : Int)) (p := pl) hFa.1 (by rw [List.length_map]; omega) hp3 hp8 (by omega)
      dsimp only at hS13 ⊢
      rw [hv] at hS13 ⊢
      have hA13 := hA12.keep hc13 (fun h => by have := hflt _ h; omega)
      have hS13' := hS12.sub hS13 hE13 hc13
      have s13 := hc13.size
      have hf13 : ∀ i, w5.heap.size ≤ i → i < w12.heap.size → ¬ F13 i := fun i h1 h2 h => ext_not hE13 h2 (fun h => by have := hflt _ h; omega) h
      refine ⟨_, rfl, ?_⟩
      by_cases hz : pl.length = 0
      · rw [if_pos hz] at hS13' ⊢
        rw [if_neg (by decide)] at hS13'
        exact iteF (by simp [hz]) (iteF (by decide) ⟨qs, F13, FC, Fa, D, rfl, hS13', hFa.next⟩)
      rw [if_neg hz] at hS13' ⊢
      rw [if_pos rfl] at hS13'
      refine iteF (by simp; omega) (iteT rfl ?_)
      refine ⟨_, _, _, _, _, _, _, _, _, ⟨hA13.cell 0 rfl, hA13.cell 1 rfl, hA13.cell 2 rfl, hA13.cell 3 rfl, hA13.cell 4 rfl⟩, ?_⟩
      refine step_call (Copy_spec (hq12.keep hc13 (fun i _ hi hf => by
        have := hflt _ hf
        rcases hi with hi | hi
        · omega
        · have := hi.1; omega))) ?_
      rintro v w14 ⟨pn, rfl, hq14, hc14⟩
      refine ⟨_, _, _, _, _, _, _, _, _, rfl, fun w15 e15 => ?_⟩
      have hN15 : Blk w15 w14.heap.size (askE (⟨10 + (j : Int), ver, pl, 3, [(j : Int)]⟩, pn)) 32 := Blk.new e15
      have hc1315 : Ch Non w13 w15 := hc14.andN (Ch.alloc e15)
      have s14 := hc14.size
      have s15 : w14.heap.size < w15.heap.size := hN15.lt
      have hS15 := hS13'.keepN hc1315
      obtain ⟨o16, c16, w16, hr16, hS16, hc16⟩ := hS15.push (hq14.keepN (Ch.alloc e15)) (fun i hi => by
        have h1 := hi.1
        have h2 := hi.2
        refine ⟨by omega, by omega, fun hf => ?_, by omega, fun hf => by have := hclt _ hf; omega⟩
        have := (hS13'.ws.s.f i hf).2; omega) hN15 (by omega)
      have s16 := hc16.size
      have hA16 := (hA13.keepN hc1315).keep hc16 (fun h => by have := hclt _ (hS.fa _ h); omega)
      have hD16 := ((hD12.keep hc13 (fun h => by have := hflt _ h; omega)).keepN hc1315).keep hc16 (fun h => by have := hclt _ (hS.fa _ h); omega)
      have hO16 := ((hG7.1.keepN hc712).keep hc13 (fun i _ hi hf => by have := hflt _ hf; have := hi.1; omega) |>.keepN hc1315).keep hc16 (fun i _ hi h => by have := hclt _ (hS.fa _ h); have := hi.1; omega)
      refine ⟨o16, _, c16, w16, hr16, _, _, _, hA16.cell 4 rfl, ⟨by omega, by simp⟩, hD16.ok 0 rfl, fun w17 e17 => ⟨⟨by omega, by omega⟩, ?_⟩⟩
      have hc1617 : Ch (fun i => i = w7.heap.size ∨ New w5 w7 i) w16 w17 := Ch.set (F := fun i => i = w7.heap.size ∨ New w5 w7 i) (p := ⟨w7.heap.size, 0, none⟩) e17 (.inl rfl)
      have hO17 := hO16.keep (Ch.set (F := (· = w7.heap.size)) (p := ⟨w7.heap.size, 0, none⟩) e17 rfl) (fun i _ hi he => by have := hi.2; omega)
      have hpl0 : (pl.map (Value.int .i64))[0]? = some (.int .i64 (pl[0]'(by omega))) := by simp [show 0 < pl.length by omega]
      obtain ⟨ad, had, hadF, _, _⟩ := hO17.rd 0 _ hpl0
      have hok := hO17.ok hpl0 had
      rw [add_none] at hok
      rw [had]
      refine ⟨hok, fun w18 e18 => ?_⟩
      have hc1618 := hc1617.same (Ch.set (F := fun i => i = w7.heap.size ∨ New w5 w7 i) e18 (.inr hadF))
      have hS18 := hS16.far hc1618 (fun i hi hg => by
        have h1 : w5.heap.size ≤ i ∧ i < w12.heap.size := by
          rcases hg with hg | hg
          · omega
          · have := hg.1; have := hg.2; omega
        refine ⟨by omega, hf13 i h1.1 h1.2, fun hc => ?_, by omega⟩
        rcases hc with hc | hc | hc
        · have := hclt _ hc; omega
        · have := hc.1; omega
        · have := hc.1; omega)
      have hmp : (qs ++ [((⟨10 + (j : Int), ver, pl, 3, [(j : Int)]⟩ : AskD), pn)]).map (·.1) = qs.map (·.1) ++ [(⟨10 + (j : Int), ver, pl, 3, [(j : Int)]⟩ : AskD)] := by simp
      rw [← hmp] at hS18
      exact ⟨qs ++ [((⟨10 + (j : Int), ver, pl, 3, [(j : Int)]⟩ : AskD), pn)], F13, _, _, _, by simp, hS18, by rw [hmp]; exact hFa.push rfl⟩
    ·
      refine ⟨by decide, fun w10 e10 w11 e11 => ?_⟩
      have hA11 := Blk.new e11
      have s10 : w7.heap.size < w10.heap.size := (Blk.new e10).lt
      have s7 := hG7.2.size
      refine ⟨⟨hA11.ok 0 rfl, hA11.ok 1 rfl, hA11.ok 2 rfl, hA11.ok 3 rfl, hA11.ok 4 rfl⟩, fun w12 e12 => ?_⟩
      obtain ⟨hA12, hc1012⟩ := askNew (⟨IntKind.i64.wrap (10 + (j : Int)), IntKind.i64.wrap (1 + Int.tmod (j : Int) 2), pl, 3, [(j : Int)]⟩, ⟨pA, pC, some ⟨w7.heap.size, 0, none⟩, 1⟩) e11 e12
      have hid : IntKind.i64.wrap (10 + (j : Int)) = 10 + (j : Int) := wrap_id (by omega) (by omega)
      rw [hid] at hA12
      generalize IntKind.i64.wrap (1 + Int.tmod (j : Int) 2) = ver at hA12
      have s12 := hA12.lt
      have hc712 : Ch Non w7 w12 := (Ch.alloc e10).andN hc1012
      have hG12 := hG7.keepN hc712
      have hq12 : AskR w12 (⟨10 + (j : Int), ver, pl, 3, [(j : Int)]⟩, ⟨pA, pC, some ⟨w7.heap.size, 0, none⟩, 1⟩) (fun i => i = w7.heap.size ∨ New w5 w7 i) :=
        ⟨(hG7.rd.keepN hc712).mono (fun i _ hi => .inr hi), ((blkRd (xs := [(j : Int)]) (Blk.new e10)).keepN hc1012).mono (fun i _ hi => .inl hi), by show pl.length ≤ 1000; omega, by show [(j : Int)].length ≤ 1000; simp⟩
      have hD12 : Blk w12 w7.heap.size [.int .i64 (j : Int)] 3 := (Blk.new e10).keepN hc1012
      clear e10 e11 e12 hA11
      have hS12 := (hS.keepN hG7.2).keepN hc712
      have hflt : ∀ i, F i → i < w5.heap.size := fun i hi => (hS.ws.s.f i hi).2
      have hblt : b < w5.heap.size := Blk.lt hS.ws.r
      have hclt : ∀ i, FC i → i < w5.heap.size := fun i hi => (hS.fc i hi).2.1
      have hWs := hS.ws.s.c.size
      refine ⟨_, _, _, _, _, _, _, _, _, ⟨hA12.cell 0 rfl, hA12.cell 1 rfl, hA12.cell 2 rfl, hA12.cell 3 rfl, hA12.cell 4 rfl⟩, ?_⟩
      refine step_call (wSubmit_spec hS12.ws.s hS12.ws.r hq12 (by rw [List.length_map]; omega)) ?_
      rintro v w13 ⟨rfl, F13, hS13, hE13, hc13⟩
      have hv := sub_first (al := qs.map (·.1)) (i := (j : Int)) (v := ver) (d := (j : Int)) (p := pl) hFa.1 (by rw [List.length_map]; omega) hp3 hp8 (by omega)
      dsimp only at hS13 ⊢
      rw [hv] at hS13 ⊢
      have hA13 := hA12.keep hc13 (fun h => by have := hflt _ h; omega)
      have hS13' := hS12.sub hS13 hE13 hc13
      have s13 := hc13.size
      have hf13 : ∀ i, w5.heap.size ≤ i → i < w12.heap.size → ¬ F13 i := fun i h1 h2 h => ext_not hE13 h2 (fun h => by have := hflt _ h; omega) h
      refine ⟨_, rfl, ?_⟩
      by_cases hz : pl.length = 0
      · rw [if_pos hz] at hS13' ⊢
        rw [if_neg (by decide)] at hS13'
        exact iteF (by simp [hz]) (iteF (by decide) ⟨qs, F13, FC, Fa, D, rfl, hS13', hFa.next⟩)
      rw [if_neg hz] at hS13' ⊢
      rw [if_pos rfl] at hS13'
      refine iteF (by simp; omega) (iteT rfl ?_)
      refine ⟨_, _, _, _, _, _, _, _, _, ⟨hA13.cell 0 rfl, hA13.cell 1 rfl, hA13.cell 2 rfl, hA13.cell 3 rfl, hA13.cell 4 rfl⟩, ?_⟩
      refine step_call (Copy_spec (hq12.keep hc13 (fun i _ hi hf => by
        have := hflt _ hf
        rcases hi with hi | hi
        · omega
        · have := hi.1; omega))) ?_
      rintro v w14 ⟨pn, rfl, hq14, hc14⟩
      refine ⟨_, _, _, _, _, _, _, _, _, rfl, fun w15 e15 => ?_⟩
      have hN15 : Blk w15 w14.heap.size (askE (⟨10 + (j : Int), ver, pl, 3, [(j : Int)]⟩, pn)) 32 := Blk.new e15
      have hc1315 : Ch Non w13 w15 := hc14.andN (Ch.alloc e15)
      have s14 := hc14.size
      have s15 : w14.heap.size < w15.heap.size := hN15.lt
      have hS15 := hS13'.keepN hc1315
      obtain ⟨o16, c16, w16, hr16, hS16, hc16⟩ := hS15.push (hq14.keepN (Ch.alloc e15)) (fun i hi => by
        have h1 := hi.1
        have h2 := hi.2
        refine ⟨by omega, by omega, fun hf => ?_, by omega, fun hf => by have := hclt _ hf; omega⟩
        have := (hS13'.ws.s.f i hf).2; omega) hN15 (by omega)
      have s16 := hc16.size
      have hA16 := (hA13.keepN hc1315).keep hc16 (fun h => by have := hclt _ (hS.fa _ h); omega)
      have hD16 := ((hD12.keep hc13 (fun h => by have := hflt _ h; omega)).keepN hc1315).keep hc16 (fun h => by have := hclt _ (hS.fa _ h); omega)
      have hO16 := ((hG7.1.keepN hc712).keep hc13 (fun i _ hi hf => by have := hflt _ hf; have := hi.1; omega) |>.keepN hc1315).keep hc16 (fun i _ hi h => by have := hclt _ (hS.fa _ h); have := hi.1; omega)
      refine ⟨o16, _, c16, w16, hr16, _, _, _, hA16.cell 4 rfl, ⟨by omega, by simp⟩, hD16.ok 0 rfl, fun w17 e17 => ⟨⟨by omega, by omega⟩, ?_⟩⟩
      have hc1617 : Ch (fun i => i = w7.heap.size ∨ New w5 w7 i) w16 w17 := Ch.set (F := fun i => i = w7.heap.size ∨ New w5 w7 i) (p := ⟨w7.heap.size, 0, none⟩) e17 (.inl rfl)
      have hO17 := hO16.keep (Ch.set (F := (· = w7.heap.size)) (p := ⟨w7.heap.size, 0, none⟩) e17 rfl) (fun i _ hi he => by have := hi.2; omega)
      have hpl0 : (pl.map (Value.int .i64))[0]? = some (.int .i64 (pl[0]'(by omega))) := by simp [show 0 < pl.length by omega]
      obtain ⟨ad, had, hadF, _, _⟩ := hO17.rd 0 _ hpl0
      have hok := hO17.ok hpl0 had
      rw [add_none] at hok
      rw [had]
      refine ⟨hok, fun w18 e18 => ?_⟩
      have hc1618 := hc1617.same (Ch.set (F := fun i => i = w7.heap.size ∨ New w5 w7 i) e18 (.inr hadF))
      have hS18 := hS16.far hc1618 (fun i hi hg => by
        have h1 : w5.heap.size ≤ i ∧ i < w12.heap.size := by
          rcases hg with hg | hg
          · omega
          · have := hg.1; have := hg.2; omega
        refine ⟨by omega, hf13 i h1.1 h1.2, fun hc => ?_, by omega⟩
        rcases hc with hc | hc | hc
        · have := hclt _ hc; omega
        · have := hc.1; omega
        · have := hc.1; omega)
      have hmp : (qs ++ [((⟨10 + (j : Int), ver, pl, 3, [(j : Int)]⟩ : AskD), pn)]).map (·.1) = qs.map (·.1) ++ [(⟨10 + (j : Int), ver, pl, 3, [(j : Int)]⟩ : AskD)] := by simp
      rw [← hmp] at hS18
      exact ⟨qs ++ [((⟨10 + (j : Int), ver, pl, 3, [(j : Int)]⟩ : AskD), pn)], F13, _, _, _, by simp, hS18, by rw [hmp]; exact hFa.push rfl⟩
  · have hjn : j = xs.length := by have := of_decide_eq_false hge; omega
    have hql : qs.length ≤ j := by have := hFa.2.1; rwa [List.length_map] at this
    refine ⟨fun g w' => w' = w5 ∧ True, ⟨by decide, rfl, trivial⟩, ?_⟩
    rintro jk gone w29 ⟨rfl, _⟩
    refine step_call (wCancel_spec hS.ws.s (by rw [List.length_map]; omega) gone) ?_
    rintro v w30 ⟨rfl, F30, hS30, hE30, hc30⟩
    rw [cancel_filter hFa.2.2] at hS30
    have hS30 := hS.sub hS30 hE30 hc30
    refine ⟨_, rfl, fun k f w' => ∃ (m : Nat) (F : Nat → Prop), k = m ∧ m ≤ qs.length ∧ f = qs.length - m ∧ SF W w' wb b (((qs.map (·.1)).drop m).filter fun a => a.id != gone) oA oC qs F FC Fa D, ⟨_, 0, F30, rfl, Nat.zero_le _, rfl, by rw [List.drop_zero]; exact hS30⟩, ?_⟩
    clear hS30 hE30 hc30 hS
    rintro jk k f w31 ⟨m, F, rfl, hm, rfl, hS⟩
    have hmm : (m : Int).toNat = m := Int.toNat_natCast m
    refine ⟨fun hlt => ?_, fun hge => ?_⟩
    · have hlt : m < qs.length := by have := of_decide_eq_true hlt; omega
      obtain ⟨p, hp, _, hpF, hcell⟩ := hS.own.rd.elem (sz := 5) (enc := askE) (fun _ => rfl) (by omega) hlt
      have hdr : (qs.map (·.1)).drop m = qs[m].1 :: (qs.map (·.1)).drop (m + 1) := by
        rw [List.drop_eq_getElem_cons (by rw [List.length_map]; exact hlt), List.getElem_map]
      have hm1 : IntKind.i64.wrap ((m : Int) + 1) = ((m + 1 : Nat) : Int) := by rw [wrap_id (by omega) (by omega)]; rfl
      have hin : qs[m].1 ∈ qs.map (·.1) := List.mem_map.2 ⟨_, List.getElem_mem hlt, rfl⟩
      have h0 := hcell 0 _ rfl
      rw [add_none] at h0
      subst hp
      rw [hmm]
      refine ⟨⟨by omega, by omega⟩, ?_⟩
      refine ⟨_, h0, fun he => ?_, fun hne => ?_⟩
      · have he : qs[m].1.id = gone := eq_of_beq he
        rw [if_pos (cancel_in hin he)]
        rw [hdr, List.filter_cons, if_neg (by simp [he])] at hS
        exact iteF (by decide) ⟨qs.length - (m + 1), by omega, m + 1, F, hm1, hlt, rfl, hS⟩
      · have hne : ¬ qs[m].1.id = gone := fun h => by rw [h] at hne; simp at hne
        rw [hdr, List.filter_cons, if_pos (by simpa using hne)] at hS
        refine step_call (wTake_spec hS.ws.s (by rw [List.length_cons]; have := List.length_filter_le (fun a : AskD => a.id != gone) ((qs.map (·.1)).drop (m + 1)); rw [List.length_drop, List.length_map] at this; omega)) ?_
        rintro v w32 ⟨p32, F32, rfl, hq32, hS32, hE32, hc32⟩
        refine ⟨_, _, _, _, _, _, _, _, _, _, rfl, fun w33 e33 => ?_⟩
        have hA33 := Blk.new e33
        refine ⟨⟨hA33.ok 0 rfl, hA33.ok 1 rfl, hA33.ok 2 rfl, hA33.ok 3 rfl, hA33.ok 4 rfl⟩, fun w34 e34 => ?_⟩
        obtain ⟨hA34, hc34⟩ := askNew (qs[m].1, p32) e33 e34
        have hS34 := (hS.sub hS32 hE32 hc32).keepN hc34
        rw [List.tail_cons] at hS34
        have hq34 := hq32.keepN hc34
        have hdm := hS34.dat _ (List.getElem_mem hlt)
        refine ⟨fun w' => Ch Non w34 w', fun w35 e35 => ⟨Ch.drew e35, iteF (by simp) ?_⟩⟩
        obtain ⟨p8, hp8, _, _, hcell8⟩ := hS34.own.rd.elem (sz := 5) (enc := askE) (fun _ => rfl) (by omega) hlt
        have hk8 : ∀ q v, (askE qs[m])[q]? = some v → ∀ w', Ch Non w34 w' → w'.cell? ((p8.add (m * 5)).add q) = some v := fun q v hv w' hc => by
          obtain ⟨p9, hp9, _, _, hcell9⟩ := (hS34.own.keepN hc).rd.elem (sz := 5) (enc := askE) (fun _ => rfl) (by omega) hlt
          rw [hp8] at hp9
          injection hp9 with hp9
          rw [hp9]
          exact hcell9 q v hv
        have k0 := hk8 0 _ rfl
        rw [add_none] at k0
        injection hp8 with hpp
        subst hpp
        refine ⟨_, _, _, _, _, _, _, _, _, ⟨fun w' hc => (hA34.keepN hc).cell 0 rfl, fun w' hc => (hA34.keepN hc).cell 1 rfl, fun w' hc => (hA34.keepN hc).cell 2 rfl, fun w' hc => (hA34.keepN hc).cell 3 rfl, fun w' hc => (hA34.keepN hc).cell 4 rfl⟩, ⟨by omega, by omega⟩, ?_⟩
        refine ⟨_, _, _, _, _, _, _, _, _, ⟨k0, hk8 1 _ rfl, hk8 2 _ rfl, hk8 3 _ rfl, hk8 4 _ rfl⟩, ?_⟩
        refine step_call (Same_spec (hq34.keepN (Ch.drew e35)) (hdm.keepN (Ch.drew e35))) ?_
        rintro v w38 ⟨rfl, hc38⟩
        have hc3438 := (Ch.drew (F := Non) e35).andN hc38
        exact ⟨_, rfl, hc3438, iteF (by simp) ⟨qs.length - (m + 1), by omega, m + 1, F32, hm1, hlt, rfl, hS34.keepN hc3438⟩⟩
    · have hmq : m = qs.length := by have := of_decide_eq_false hge; omega
      subst hmq
      rw [List.drop_of_length_le (by simp), List.filter_nil] at hS
      refine ⟨fun is w' => is = false ∧ ∃ F', WS W w' wb 64 [] F', ?_, ?_⟩
      · refine step_call (wTake_spec hS.ws.s (by simp)) ?_
        rintro v w39 ⟨p39, F39, rfl, hq39, hS39, hE39, hc39⟩
        refine ⟨_, _, _, _, _, _, _, _, _, _, rfl, fun w40 e40 => ?_⟩
        have hA40 := Blk.new e40
        refine ⟨⟨hA40.ok 0 rfl, hA40.ok 1 rfl, hA40.ok 2 rfl, hA40.ok 3 rfl, hA40.ok 4 rfl⟩, fun w41 e41 => ?_⟩
        obtain ⟨_, hc41⟩ := askNew (ask0.1, p39) e40 e41
        exact ⟨rfl, F39, hS39.keepN hc41⟩
      · rintro jk is w42 ⟨rfl, F42, hS42⟩
        refine iteT rfl ?_
        refine step_call (wIds_spec hS42 (by simp)) ?_
        rintro v w43 ⟨o, c, rfl, _, hc43⟩
        exact ⟨_, _, _, rfl, rfl, hS42.c.andN hc43⟩
end Go.Proofs.Ytamkffjmggbekaa.Ward
