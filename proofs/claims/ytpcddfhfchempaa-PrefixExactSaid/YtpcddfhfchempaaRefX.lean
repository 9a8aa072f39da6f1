/- For every index of the document: what beginning, place and cut answer and leave; the conditions stand in each theorem. -/
import Derived.Test.YtpcddfhfchempaaPrefixL5
import Derived.Test.YtpcddfhfchempaaVcPrefixR
set_option linter.unusedVariables false
set_option linter.unusedSimpArgs false
namespace Go.Proofs.Ytpcddfhfchempaa.Prefix
open Go Go.Proofs Go.Proofs.Ytpcddfhfchempaa.V Go.Proofs.Ytpcddfhfchempaa.Vc Go.Proofs.Ytpcddfhfchempaa.Step Go.Proofs.Ytpcddfhfchempaa.Pages Go.RowKit

theorem begins_spec {w : World} {o ob : Option Addr} {xs ys : List Int} {F G : Nat → Prop} (ha : Rd w o (xs.map (.int .i64)) F) (hb : Rd w ob (ys.map (.int .i64)) G) (h : xs.length = ys.length) (hl : xs.length ≤ 1000000000) (c cb : Nat) :
    Calls Try.prog i_coadjutorref23_begins #[.slice o xs.length c, .slice ob ys.length cb] w (Ret fun v w' => v = .bool (decide (xs = ys)) ∧ Ch Non w w') := by
  refine coadjutorref23_begins.calls _ _ _ _ _ _ ?_
  unfold coadjutorref23_begins.vc
  refine iteF (decide_eq_false (by omega)) ?_
  refine ⟨fun i k w' => ∃ j : Nat, i = j ∧ j ≤ xs.length ∧ k = xs.length - j ∧ xs.take j = ys.take j ∧ Ch Non w w', ⟨_, 0, rfl, Nat.zero_le _, rfl, rfl, Ch.refl _ _⟩, ?_⟩
  rintro jk i k w1 ⟨j, rfl, hj, rfl, he, hc⟩
  refine ⟨fun hlt => ?_, fun hge => ?_⟩
  · have hlt : j < xs.length := by simpa using hlt
    have hlt2 : j < ys.length := by omega
    refine ⟨fun w2 => Ch Non w w2, fun w2 e2 => ⟨hc.andN (Ch.drew e2), ⟨by omega, by omega⟩, Rd.keeps (j := (j : Int).toNat * 1) (S := fun w2 => Ch Non w w2) (fun w2 h2 => ha.keepN h2) hc (by simpa using hlt) fun p hp => ⟨_, hp, ⟨by omega, by omega⟩,
      Rd.keeps (j := (j : Int).toNat * 1) (S := fun w2 => Ch Non w w2) (fun w2 h2 => hb.keepN h2) hc (by simpa using hlt2) fun p2 hp2 => ⟨_, hp2, fun hne => ?_, fun heq => ?_⟩⟩⟩⟩
    · refine ⟨?_, hc.andN (Ch.drew e2)⟩
      rw [decide_eq_false]
      intro e
      subst e
      simp at hne
    · have heq : xs[j] = ys[j] := by simpa using heq
      refine ⟨xs.length - (j + 1), by omega, j + 1, by rw [wrap_id (by omega) (by omega)]; rfl, hlt, rfl, ?_, hc.andN (Ch.drew e2)⟩
      rw [take_snoc xs j hlt, take_snoc ys j hlt2, he, heq]
  · have : j = xs.length := by simp at hge; omega
    subst this
    rw [List.take_length, h, List.take_length] at he
    exact ⟨by rw [decide_eq_true he], hc⟩
/-- An index of the document's: its block, its row, its data's place. -/
structure FIdxC (w : World) (xb ub : Nat) (o : Option Addr) (c : Nat) (gs : List EcC) (n : Nat) (Fa F D : Nat → Prop) : Prop where
  blk : Blk w xb [.pointer (some ⟨ub, 0, none⟩), .slice o n c] t_coadjutorref23_Index
  own : Own w t_coadjutorref23_Entry 3 o n c (gs.map ecE).flatten Fa
  len : gs.length = n
  fx : F xb
  fa : ∀ i, Fa i → F i ∧ i ≠ xb
  fd : ∀ i, D i → F i ∧ i ≠ xb ∧ ¬ Fa i
  lt : ∀ i, F i → i < w.heap.size
def FIdxR (w : World) (xb ub : Nat) (es : List EntD) (F D : Nat → Prop) : Prop :=
  ∃ (o : Option Addr) (c : Nat) (gs : List EcC) (Fa : Nat → Prop), FIdxC w xb ub o c gs es.length Fa F D ∧ All2 (fun g e => EcR w g e D) gs es
section
variable {w w' : World} {xb ub n c : Nat} {o : Option Addr} {gs : List EcC} {es : List EntD} {Fa F D G : Nat → Prop}
theorem FIdxC.keep (h : FIdxC w xb ub o c gs n Fa F D) (hc : Ch G w w') (hd : ∀ i, F i → ¬ G i) : FIdxC w' xb ub o c gs n Fa F D :=
  ⟨h.blk.keep hc (hd _ h.fx), h.own.keep hc (fun i _ hi => hd i (h.fa i hi).1), h.len, h.fx, h.fa, h.fd, fun i hi => Nat.lt_of_lt_of_le (h.lt i hi) hc.size⟩
theorem FIdxC.keepN (h : FIdxC w xb ub o c gs n Fa F D) (hc : Ch Non w w') : FIdxC w' xb ub o c gs n Fa F D := h.keep hc (fun _ _ => id)
theorem FIdxR.keep (h : FIdxR w xb ub es F D) (hc : Ch G w w') (hd : ∀ i, F i → ¬ G i) : FIdxR w' xb ub es F D := by
  obtain ⟨o, c, gs, Fa, hC, hA⟩ := h
  exact ⟨o, c, gs, Fa, hC.keep hc hd, hA.imp (fun _ _ k => k.keep hc (fun i _ hi => hd i (hC.fd i hi).1))⟩
theorem FIdxR.keepN (h : FIdxR w xb ub es F D) (hc : Ch Non w w') : FIdxR w' xb ub es F D := h.keep hc (fun _ _ => id)
theorem FIdxC.grow (h : FIdxC w xb ub o c gs n Fa F D) {F' D' : Nat → Prop} (h1 : ∀ i, F i → F' i) (h2 : ∀ i, D' i → F' i ∧ i ≠ xb ∧ ¬ Fa i) (h3 : ∀ i, F' i → i < w.heap.size) : FIdxC w xb ub o c gs n Fa F' D' :=
  ⟨h.blk, h.own, h.len, h1 _ h.fx, fun i hi => ⟨h1 i (h.fa i hi).1, (h.fa i hi).2⟩, h2, h3⟩
theorem FIdxC.cap (h : FIdxC w xb ub o c gs n Fa F D) : n ≤ c := h.own.2.1
theorem FIdxC.push (h : FIdxC w xb ub o c gs n Fa F D) (hn : n < 1000) {nb : Nat} {g : EcC} (hb : Blk w nb (ecE g) t_coadjutorref23_Entry) :
    ∃ (o' : Option Addr) (c' : Nat) (w' : World), (Builtin.append_ #[t_S_coadjutorref23_Entry, t_S_coadjutorref23_Entry] t_S_coadjutorref23_Entry #[.slice o n c, .slice (some ⟨nb, 0, none⟩) 1 1]).run Try.prog w = .ok (.slice o' (n + 1) c') w' ∧ Ch Fa w w' ∧
      ((∃ u, w'.cell? ⟨xb, 1, none⟩ = some u) ∧ w'.frozen? ⟨xb, 1, none⟩ = false) ∧
      ∀ w'' : World, w'' = w'.setCell ⟨xb, 1, none⟩ (.slice o' (n + 1) c') → FIdxC w'' xb ub o' c' (gs ++ [g]) (n + 1) (Ext Fa w w') (Ext F w w') D ∧ Ch (· = xb) w' w'' := by
  obtain ⟨o', c', w', hr, ho, hc⟩ := Own.appendRd (c2 := 1) (m := 1) el_S_coadjutorref23_Entry h.own t_S_coadjutorref23_Entry hb.rd rfl (fun u hu => by
    simp only [ecE, List.mem_cons, List.not_mem_nil, or_false] at hu
    rcases hu with rfl | rfl | rfl <;> rfl) (by unfold maxLen; omega) (by omega)
  have hB := h.blk.keep hc (fun hx => (h.fa xb hx).2 rfl)
  have hxl := h.lt _ h.fx
  refine ⟨o', c', w', hr, hc, hB.ok 1 rfl, fun w'' e2 => ?_⟩
  have hc2 : Ch (· = xb) w' w'' := Ch.set e2 rfl
  have hx : ∀ i, Ext Fa w w' i → i ≠ xb := fun i hi he => by
    subst he
    rcases hi with hi | hi
    · exact (h.fa _ hi).2 rfl
    · have := hi.1; omega
  refine ⟨⟨hB.set e2, ?_, by simp [h.len], .inl h.fx, fun i hi => ⟨hi.imp (fun k => (h.fa i k).1) id, hx i hi⟩, fun i hi => ⟨.inl (h.fd i hi).1, (h.fd i hi).2.1, fun hE => ?_⟩, fun i hi => ?_⟩, hc2⟩
  · rw [List.map_append, List.flatten_append]
    have h2 := ho.keep hc2 (fun i _ hi he => hx i hi he)
    simpa using h2
  · rcases hE with hE | hE
    · exact (h.fd i hi).2.2 hE
    · have := h.lt i (h.fd i hi).1; have := hE.1; omega
  · have := hc2.size
    have := hc.size
    rcases hi with hi | hi
    · have := h.lt i hi; omega
    · have := hi.2; omega
end
theorem findI_at {es : List EntD} {v : Int} {t : List Int} {j : Nat} (hj : j < es.length) (hno : ∀ m (hm : m < es.length), m < j → hasB v t es[m] = false) (hb : hasB v t es[j] = true) : findI es v t = j := by
  unfold findI
  have : es.findIdx (hasB v t) = j := (List.findIdx_eq hj).2 ⟨hb, fun m hm => hno m (by omega) hm⟩
  rw [this, if_pos hj]
theorem findI_no {es : List EntD} {v : Int} {t : List Int} (hno : ∀ m (hm : m < es.length), hasB v t es[m] = false) : findI es v t = -1 := by
  unfold findI
  rw [if_neg]
  intro h
  have := hno _ h
  rw [List.findIdx_getElem (w := h)] at this
  cases this
section
variable {w : World} {xb ub : Nat} {es : List EntD} {F D G : Nat → Prop} {t : List Int}
theorem At_spec (h : FIdxR w xb ub es F D) (hn : es.length < 1000) {to : Option Addr} (ht : Rd w to (t.map (.int .i64)) G) (v : Int) (tc : Nat) :
    Calls Try.prog i_coadjutorref23_Index_At #[.pointer (some ⟨xb, 0, none⟩), .int .i64 v, .slice to t.length tc] w (Ret fun x w' => x = .int .i64 (findI es v t) ∧ Ch Non w w') := by
  obtain ⟨o, c, gs, Fa, hC, hA⟩ := h
  refine coadjutorref23_Index_At.calls _ _ _ _ _ ?_
  unfold coadjutorref23_Index_At.vc
  have hl := hA.length
  refine ⟨fun i k w' => ∃ j : Nat, i = j ∧ j ≤ es.length ∧ k = es.length - j ∧ Ch Non w w' ∧ ∀ m (hm : m < es.length), m < j → hasB v t es[m] = false, ⟨_, 0, rfl, Nat.zero_le _, rfl, Ch.refl _ _, fun m _ h => absurd h (Nat.not_lt_zero _)⟩, ?_⟩
  rintro jk i k w1 ⟨j, rfl, hj, rfl, hc, hno⟩
  have hC1 := hC.keepN hc
  refine ⟨_, _, _, hC1.blk.cell 1 rfl, fun hlt => ?_, fun hge => ?_⟩
  · have hlt : j < es.length := by have := of_decide_eq_true hlt; omega
    obtain ⟨p, hp, _, _, hcell⟩ := hC1.own.rd.elem (sz := 3) (enc := ecE) (fun _ => rfl) (by omega) (show j < gs.length by omega)
    have hE := EcR.keepN (hA.get j (by omega) hlt) hc
    have hnx : ∀ {w'}, Ch Non w w' → hasB v t es[j] = false → ∃ vk_1 : Nat, vk_1 < es.length - j ∧ ∃ j' : Nat, IntKind.i64.wrap ((j : Int) + 1) = j' ∧ j' ≤ es.length ∧ vk_1 = es.length - j' ∧ Ch Non w w' ∧ ∀ m (hm : m < es.length), m < j' → hasB v t es[m] = false := fun hc' hf =>
      ⟨es.length - (j + 1), by omega, j + 1, by rw [wrap_id (by omega) (by omega)]; rfl, hlt, rfl, hc', fun m hm hmj => by
        by_cases he : m = j
        · subst he; exact hf
        · exact hno m hm (by omega)⟩
    have hfound : hasB v t es[j] = true → findI es v t = j := fun hb => findI_at hlt hno hb
    rw [hE.ec] at hcell
    obtain ⟨_, _, _, hrd, htl⟩ := hE
    generalize es[j] = e at hcell hrd htl hnx hfound
    generalize gs[j] = g at hcell hrd
    subst hp
    have hjj : (j : Int).toNat = j := Int.toNat_natCast j
    have h0 := hcell 0 _ rfl
    rw [add_none] at h0
    have h1 := hcell 1 _ rfl
    rw [hjj]
    refine ⟨_, _, _, hC1.blk.cell 1 rfl, ⟨by omega, by omega⟩, _, h0, fun hv => ?_, fun hv => hnx hc (by unfold hasB; rw [hv]; rfl)⟩
    refine ⟨_, _, _, hC1.blk.cell 1 rfl, ⟨by omega, by omega⟩, _, _, _, h1, fun hlen => ?_, fun hlen => hnx hc ?_⟩
    · have hlen : e.toks.length = t.length := by have : (e.toks.length : Int) = t.length := by simpa using hlen
                                                 omega
      refine ⟨_, _, _, hC1.blk.cell 1 rfl, ⟨by omega, by omega⟩, _, _, _, h1, ?_⟩
      refine step_call (begins_spec hrd (ht.keepN hc) hlen (by omega) _ _) ?_
      rintro x w2 ⟨rfl, hc2⟩
      refine ⟨_, rfl, fun hb => ?_, fun hb => hnx (hc.andN hc2) (by unfold hasB; rw [hv, hb]; rfl)⟩
      exact ⟨by rw [hfound (by unfold hasB; rw [hv, hb]; rfl)], hc.andN hc2⟩
    · have hlen : ¬ e.toks = t := fun he => by rw [he] at hlen; simp at hlen
      unfold hasB
      rw [decide_eq_false hlen, Bool.and_false]
  · have hjn : j = es.length := by have := of_decide_eq_false hge; omega
    subst hjn
    exact ⟨by rw [findI_no (fun m hm => hno m hm hm)], hc⟩
set_option maxHeartbeats 1000000 in
theorem cut_spec (h : FIdxR w xb ub es F D) (hn : es.length < 1000) {i : Nat} (hi : i < es.length) :
    Calls Try.prog i_coadjutorref23_Index_cut #[.pointer (some ⟨xb, 0, none⟩), .int .i64 i] w (Ret fun v w' => ∃ g : EcC, v = .agg (ecE g).toArray ∧ EcR w' g es[i] D ∧ FIdxR w' xb ub (es.eraseIdx i) (Ext F w w') D ∧ Ch (· = xb) w w') := by
  obtain ⟨o, c, gs, Fa, hC, hA⟩ := h
  refine coadjutorref23_Index_cut.calls _ _ ?_
  unfold coadjutorref23_Index_cut.vc
  have hl := hA.length
  have hig : i < gs.length := by omega
  have hxl := hC.lt _ hC.fx
  have hcap := hC.cap
  intro w1 e1
  have hR1 := Blk.new e1
  have hc1 : Ch Non w w1 := Ch.alloc e1
  have hC1 := hC.keepN hc1
  have s1 : w.heap.size < w1.heap.size := hR1.lt
  have hii : (i : Int).toNat = i := Int.toNat_natCast i
  have hwi : IntKind.i64.wrap ((i : Int) + 1) = ((i + 1 : Nat) : Int) := by rw [wrap_id (by omega) (by omega)]; rfl
  simp only [hwi, Int.toNat_natCast]
  obtain ⟨p, hp, _, _, hcell⟩ := hC1.own.rd.elem (sz := 3) (enc := ecE) (fun _ => rfl) (by omega) hig
  have h0 := hcell 0 _ rfl
  rw [add_none] at h0
  have h1 := hcell 1 _ rfl
  have h2 := hcell 2 _ rfl
  clear hcell
  refine ⟨_, _, _, hC1.blk.cell 1 rfl, ⟨by omega, by omega⟩, ?_⟩
  subst hp
  refine ⟨_, _, _, _, _, ⟨h0, h1, h2⟩, fun w2 e2 => ?_⟩
  clear h0 h1 h2
  have hB2 := Blk.new e2
  refine ⟨⟨hB2.ok 0 rfl, hB2.ok 1 rfl, hB2.ok 2 rfl⟩, fun w3 e3 => ?_⟩
  have e3' : w3 = w2.setCells w1.heap.size 0 (ecE gs[i]) := e3
  have hB3 := hB2.all (ecE gs[i]) rfl e3'
  have hB3 : Blk w3 w1.heap.size (ecE gs[i]) 81 := hB3
  have hc13 : Ch Non w1 w3 := (Ch.alloc (F := Non) e2).trans (Ch.sets (F := (· = w1.heap.size)) e3' rfl) (fun i hi he => by omega)
  have s3 : w1.heap.size < w3.heap.size := hB3.lt
  clear e2 e3 e3' hB2
  intro w4 e4
  have hG4 := Gr.made0 (G := Non) (T := t_coadjutorref23_Entry) (sz := 3) (Ch.refl _ w3) e4
  have hc34 : Ch Non w3 w4 := Ch.alloc e4
  have hC4 := (hC1.keepN hc13).keepN hc34
  have hone := ec_one gs
  have hfl := flatten_take (enc := ecE) (sz := 3) (fun _ => rfl) gs i
  have hfd := flatten_drop (enc := ecE) (sz := 3) (fun _ => rfl) gs (i + 1)
  have hflen : (gs.map ecE).flatten.length = es.length * 3 := hC.own.len
  refine ⟨_, _, _, hC4.blk.cell 1 rfl, ⟨by omega, by omega⟩, ?_⟩
  have hr4 := hC4.own.rd.slice (c := c) (sz := 3) (by rw [hflen]; omega) 0 i
  obtain ⟨o5, c5, w5, r5, hG5, hc5⟩ := hG4.app (m := i - 0) el_S_coadjutorref23_Entry t_S_coadjutorref23_Entry (c2 := c - 0) hr4 (by rw [List.length_take, List.length_drop, hflen]; omega) (fun u hu => hone u (List.mem_of_mem_drop (List.mem_of_mem_take hu))) (by omega) (by omega)
  have hnew : ∀ {wa wb : World}, w.heap.size ≤ wa.heap.size → ∀ i, F i → ¬ New wa wb i := fun hle i hi hN => by have := hC.lt i hi; have := hN.1; omega
  have hC5 := hC4.keep hc5 (hnew (by have := hc34.size; omega))
  refine ⟨o5, _, c5, w5, r5, _, _, _, hC5.blk.cell 1 rfl, ⟨by omega, by omega⟩, ?_⟩
  have hr5 := hC5.own.rd.slice (c := c) (sz := 3) (by rw [hflen]; omega) (i + 1) (es.length - (i + 1))
  obtain ⟨o6, c6, w6, r6, hG6, hc6⟩ := hG5.app (m := es.length - (i + 1)) el_S_coadjutorref23_Entry t_S_coadjutorref23_Entry (c2 := c - (i + 1)) hr5 (by rw [List.length_take, List.length_drop, hflen]; omega) (fun u hu => hone u (List.mem_of_mem_drop (List.mem_of_mem_take hu))) (by omega) (by omega)
  have hs5 := hc5.size
  have hs34 := hc34.size
  have hC6 := hC5.keep hc6 (hnew (by omega))
  refine ⟨o6, _, c6, w6, r6, hC6.blk.ok 1 rfl, fun w7 e7 => ?_⟩
  have hc67 : Ch (· = xb) w6 w7 := Ch.set e7 rfl
  have hX7 := hC6.blk.set e7
  have hs6 := hc6.size
  have hs7 := hc67.size
  -- what is between
  have hc36 : Ch (New w3 w6) w3 w6 := ((hc34.any (F := New w3 w6)).trans hc5 (fun i _ hN => ⟨hN.1, by have := hN.2; omega⟩)).trans hc6 (fun i _ hN => ⟨hN.1, by have := hN.2; omega⟩)
  have hc36' : Ch Non w3 w6 := hc36.trans (Ch.refl Non w6) (fun _ _ h => h.elim) |>.mono (fun i hi hN => absurd hi (Nat.not_lt.2 hN.1))
  have hB7 := (hB3.keepN hc36').keep hc67 (by omega)
  have hR7 := (((hR1.keepN hc13).keepN hc36').keep hc67 (by omega))
  refine ⟨_, _, _, _, _, ⟨hB7.cell 0 rfl, hB7.cell 1 rfl, hB7.cell 2 rfl⟩, ⟨hR7.ok 0 rfl, hR7.ok 1 rfl, hR7.ok 2 rfl⟩, fun w8 e8 => ?_⟩
  have e8' : w8 = w7.setCells w.heap.size 0 (ecE gs[i]) := e8
  have hR8 := hR7.all (ecE gs[i]) rfl e8'
  have hc78 : Ch (· = w.heap.size) w7 w8 := Ch.sets e8' rfl
  refine ⟨_, _, _, _, _, ⟨hR8.cell 0 rfl, hR8.cell 1 rfl, hR8.cell 2 rfl⟩, gs[i], rfl, ?_, ?_, ?_⟩
  · have hx : ∀ i, D i → ¬ i = xb := fun i hi => (hC.fd i hi).2.1
    exact (((EcR.keepN (EcR.keepN (EcR.keepN (hA.get i hig hi) hc1) hc13) hc36').keep hc67 (fun j _ hj => hx j hj)).keep hc78 (fun j _ hj he => by have := hC.lt j (hC.fd j hj).1; omega))
  · have hs8 := hc78.size
    refine ⟨o6, c6, gs.eraseIdx i, New w3 w6, ⟨?_, ?_, ?_, .inl hC.fx, fun j hj => ⟨.inr ⟨by have := hj.1; omega, by have := hj.2; omega⟩, by have := hj.1; omega⟩, fun j hj => ⟨.inl (hC.fd j hj).1, (hC.fd j hj).2.1, hnew (by omega) j (hC.fd j hj).1⟩, fun j hj => ?_⟩, ?_⟩
    · have hln : 0 + (i - 0) + (es.length - (i + 1)) = (es.eraseIdx i).length := by rw [List.length_eraseIdx, if_pos hi]; omega
      have := hX7.keep hc78 (by omega)
      rw [hln] at this
      exact this
    · have hln : 0 + (i - 0) + (es.length - (i + 1)) = (es.eraseIdx i).length := by rw [List.length_eraseIdx, if_pos hi]; omega
      have h6 := ((hG6.1.keep hc67 (fun j _ hj he => by have := hj.1; omega)).keep hc78 (fun j _ hj he => by have := hj.1; omega))
      rw [hln, Nat.zero_mul, List.drop_zero, hfl, hfd, List.nil_append, List.take_of_length_le (l := ((gs.drop (i + 1)).map ecE).flatten) (by rw [← hfd, List.length_drop, hflen]; omega), ← List.flatten_append, ← List.map_append, ← eraseIdx_td] at h6
      exact h6
    · rw [List.length_eraseIdx, if_pos hig, List.length_eraseIdx, if_pos hi, hl]
    · rcases hj with hj | hj
      · have := hC.lt j hj; omega
      · exact hj.2
    · refine All2.eraseIdx ?_ i
      have hx : ∀ i, D i → ¬ i = xb := fun i hi => (hC.fd i hi).2.1
      exact hA.imp (fun _ _ k => (((EcR.keepN (EcR.keepN (EcR.keepN k hc1) hc13) hc36').keep hc67 (fun j _ hj => hx j hj)).keep hc78 (fun j _ hj he => by have := hC.lt j (hC.fd j hj).1; omega)))
  · have hc68 : Ch (fun j => j = xb ∨ j = w.heap.size) w6 w8 := (hc67.mono (fun _ _ h => .inl h)).same (hc78.mono (fun _ _ h => .inr h))
    exact (((hc1.andN hc13).andN hc36').any (F := (· = xb))).trans hc68 (fun j hj he => he.elim id (fun h => by omega))
end
end Go.Proofs.Ytpcddfhfchempaa.Prefix
