/- For every pool of pages: what is got, and an entry that a number tells, may be written by whoever has it; the conditions stand in each theorem. -/
import Derived.Test.YtpcddfhfchempaaPagesLaw2
import Derived.Test.YtpcddfhfchempaaStepW
set_option linter.unusedVariables false
set_option linter.unusedSimpArgs false
namespace Go.Proofs.Ytpcddfhfchempaa.Pages
open Go Go.Proofs Go.Proofs.Ytpcddfhfchempaa.V Go.Proofs.Ytpcddfhfchempaa.Vc Go.Proofs.Ytpcddfhfchempaa.Step Go.RowKit

/-- Entries, each in its own blocks; from n on. -/
def Each (w : World) (n : Nat) (qs : List (Value × Value)) (es : List Ent) (F : Nat → Prop) : Prop :=
  ∃ Rs : Nat → Nat → Prop, (∀ j i, Rs j i → F i) ∧ (∀ j k, j ≠ k → Apart (Rs j) (Rs k)) ∧ (∀ j, qs.length ≤ j → ∀ i, ¬ Rs j i) ∧ qs.length = es.length ∧ ∀ j (h1 : j < qs.length) (h2 : j < es.length), n ≤ j → EntW w qs[j] es[j] (Rs j)
section
variable {w w' : World} {n : Nat} {qs : List (Value × Value)} {es : List Ent} {F G : Nat → Prop} {q : Value × Value} {e : Ent}
theorem Each.nil (w : World) (n : Nat) (F : Nat → Prop) : Each w n [] [] F := ⟨fun _ _ => False, fun _ _ h => h.elim, fun _ _ _ _ h => h.elim, fun _ _ _ h => h, rfl, fun j h1 => absurd h1 (by simp)⟩
theorem Each.keep (h : Each w n qs es F) (hc : Ch G w w') (hd : ∀ i, i < w.heap.size → F i → ¬ G i) : Each w' n qs es F := by
  obtain ⟨Rs, a, b, c, d, e⟩ := h
  exact ⟨Rs, a, b, c, d, fun j h1 h2 hn => (e j h1 h2 hn).keep hc (fun i hi hR => hd i hi (a j i hR))⟩
theorem Each.keepN (h : Each w n qs es F) (hc : Ch Non w w') : Each w' n qs es F := h.keep hc (fun _ _ _ => id)
theorem Each.mono (h : Each w n qs es F) (hg : ∀ i, F i → G i) : Each w n qs es G := by
  obtain ⟨Rs, a, b, c, d, e⟩ := h
  exact ⟨Rs, fun j i hi => hg i (a j i hi), b, c, d, e⟩
theorem Each.len (h : Each w n qs es F) : qs.length = es.length := by
  obtain ⟨Rs, a, b, c, d, e⟩ := h
  exact d
theorem Each.snoc (h : Each w n qs es F) (hq : EntW w q e G) (hF : Apart F G) : Each w n (qs ++ [q]) (es ++ [e]) (fun i => F i ∨ G i) := by
  obtain ⟨Rs, a, b, c, d, f⟩ := h
  refine ⟨fun j => if j = qs.length then G else Rs j, fun j i hi => ?_, fun j k hjk i h1 h2 => ?_, fun j hj i hi => ?_, by simp [d], fun j h1 h2 hn => ?_⟩
  · try dsimp only at hi
    split at hi
    · exact .inr hi
    · exact .inl (a j i hi)
  · try dsimp only at h1 h2
    split at h1
    · split at h2
      · omega
      · exact hF i (a k i h2) h1
    · split at h2
      · exact hF i (a j i h1) h2
      · exact b j k hjk i h1 h2
  · rw [List.length_append, List.length_singleton] at hj
    try dsimp only at hi
    rw [if_neg (by omega)] at hi
    exact c j (by omega) i hi
  · try dsimp only
    by_cases hj : j = qs.length
    · subst hj
      rw [if_pos rfl, List.getElem_append_right (Nat.le_refl _), List.getElem_append_right (by omega)]
      simp only [List.getElem_singleton]; exact hq
    · rw [List.length_append, List.length_singleton] at h1 h2
      rw [if_neg hj, List.getElem_append_left (by omega), List.getElem_append_left (by omega)]
      exact f j (by omega) (by omega) hn
theorem Each.get (h : Each w n qs es F) {j : Nat} (h1 : j < qs.length) (h2 : j < es.length) (hn : n ≤ j) : ∃ G : Nat → Prop, EntW w qs[j] es[j] G := by
  obtain ⟨Rs, a, b, c, d, e⟩ := h
  exact ⟨_, e j h1 h2 hn⟩
/-- The next one. -/
theorem Each.at (h : Each w n qs es F) (h1 : n < qs.length) (h2 : n < es.length) : ∃ G : Nat → Prop, EntW w qs[n] es[n] G ∧ (∀ i, G i → F i) ∧ ∀ {w' : World}, Ch G w w' → Each w' (n + 1) qs es F := by
  obtain ⟨Rs, a, b, c, d, e⟩ := h
  exact ⟨Rs n, e n h1 h2 (Nat.le_refl _), a n, fun {w'} hc => ⟨Rs, a, b, c, d, fun j j1 j2 hn => (e j j1 j2 (by omega)).keep hc (fun i _ hi => b j n (by omega) i hi)⟩⟩
end
section
variable {w : World} {pb : Nat} {ps : List PageD} {F G : Nat → Prop} {o : Option Addr} {l : List Int}
theorem Get_specW (h : PoolR w pb ps F) (hr : Rd w o (l.map (.int .i64)) G) (hes : ∀ p ∈ ps, p.es.length ≤ 4) (hl : l.length ≤ 10000) (c : Nat) :
    Calls Try.prog i_pages_Pool_Get #[.pointer (some ⟨pb, 0, none⟩), .slice o l.length c] w (Ret fun v w' => ∃ (o' : Option Addr) (c' : Nat) (qs : List (Value × Value)) (F1 F2 : Nat → Prop), v = .slice o' (getL ps l).length c' ∧ Build w w' t_step_Entry 2 o' (getL ps l).length c' (qs.map pairE).flatten F1 F2 ∧ Each w' 0 qs (getL ps l) F2) := by
  refine pages_Pool_Get.calls _ _ _ _ ?_
  unfold pages_Pool_Get.vc
  refine ⟨fun oA oN oC i k w' => ∃ (j : Nat) (qs : List (Value × Value)) (F1 F2 : Nat → Prop), i = j ∧ j ≤ l.length ∧ k = l.length - j ∧ oN = (getL ps (l.take j)).length ∧ Build w w' t_step_Entry 2 oA oN oC (qs.map pairE).flatten F1 F2 ∧ Each w' 0 qs (getL ps (l.take j)) F2, ⟨_, 0, [], _, _, rfl, Nat.zero_le _, rfl, rfl, Build.nil (Ch.refl _ _), Each.nil _ _ _⟩, ?_⟩
  rintro jk oA oN oC i k w1 ⟨j, qs, F1, F2, rfl, hj, rfl, rfl, hB, hA⟩
  refine ⟨fun hlt => ?_, fun hge => ?_⟩
  · have hlt : j < l.length := by have := of_decide_eq_true hlt; omega
    have hsn := getL_snoc ps (l.take j) l[j]
    rw [← take_snoc l j hlt] at hsn
    have hll := getL_len hes (l.take j)
    have hlj : (l.take j).length ≤ 10000 := by rw [List.length_take]; omega
    refine ⟨⟨by omega, by omega⟩, (hr.keepN hB.ch).at (j := (j : Int).toNat * 1) (v := .int .i64 l[j]) (by simp [hlt]) fun p hp => ⟨_, hp, ?_⟩⟩
    generalize l[j] = id at hsn
    have hP1 := h.keepN hB.ch
    refine step_call (is_spec hP1 id) ?_
    rintro v w2 ⟨rfl, rfl⟩
    refine ⟨_, rfl, fun hb => ?_, fun hb => ?_⟩
    · have hb : isB ps id = false := by simpa using hb
      rw [hb, if_neg Bool.false_ne_true, List.append_nil] at hsn
      refine ⟨l.length - (j + 1), by omega, j + 1, qs, F1, F2, by rw [wrap_id (by omega) (by omega)]; rfl, hlt, rfl, by rw [hsn], hB, by rw [hsn]; exact hA⟩
    have hb : isB ps id = true := by simpa using hb
    obtain ⟨h0, h1⟩ := isB_lt hb
    rw [hb, if_pos rfl] at hsn
    have hw := h
    obtain ⟨o', c', gs, R, hC0, hF, hP⟩ := hw
    have hC : PoolC w2 pb o' c' gs R ps.length := hC0.keep hB.ch (fun _ _ _ hN => hN)
    have hjg : id.toNat < gs.length := by rw [hC.len]; exact h1
    obtain ⟨q, hq, _, _, _, a2, _⟩ := hC.at hjg
    obtain ⟨_, _, g3, us, hOw, hUs, hSm⟩ := hP _ hjg h1
    have hel : ps[id.toNat].es.length ≤ 4 := hes _ (List.getElem_mem h1)
    rw [← pgAt_lt h0 h1] at g3 hUs hSm hel
    rw [g3] at a2
    subst hq
    refine ⟨_, _, _, hC.blk.cell 0 rfl, ⟨by omega, by omega⟩, _, _, _, a2, ?_⟩
    have hOr := hOw.rd
    generalize (pgAt ps id).es = es at hsn hUs hSm hel
    generalize gs[id.toNat].eo = eo at hOr
    clear hOw a2 hP hF hC hC0
    refine ⟨fun oA oN oC i k w' => ∃ (m : Nat) (qs : List (Value × Value)) (F1 F2 : Nat → Prop), i = m ∧ m ≤ es.length ∧ k = es.length - m ∧ oN = (getL ps (l.take j) ++ es.take m).length ∧ Build w w' t_step_Entry 2 oA oN oC (qs.map pairE).flatten F1 F2 ∧ Each w' 0 qs (getL ps (l.take j) ++ es.take m) F2, ⟨_, 0, qs, F1, F2, rfl, Nat.zero_le _, rfl, by simp, hB, by simpa using hA⟩, ?_⟩
    clear hA hB
    rintro jk oA oN oC i k w3 ⟨m, qs, F1, F2, rfl, hm, rfl, rfl, hB, hA⟩
    refine ⟨fun hlt2 => ?_, fun hge2 => ?_⟩
    · have hlt2 : m < es.length := by have := of_decide_eq_true hlt2; omega
      have hmu : m < us.length := by rw [hUs.length]; exact hlt2
      obtain ⟨hp1, hp2⟩ := pairs_at us hmu
      have hE := hUs.get m hmu hlt2
      obtain ⟨p, hp, _, _, hcell⟩ := (hOr.keepN hB.ch).elem (sz := 2) (enc := pairE) (fun _ => rfl) (by omega) hmu
      have c0 := hcell 0 _ rfl
      have c1 := hcell 1 _ rfl
      rw [add_none] at c0
      have hE3 := hE.keepN hB.ch
      have hsm := hSm _ (List.getElem_mem hlt2)
      have htk := take_snoc es m hlt2
      generalize us[m] = u at hE3 c0 c1
      generalize es[m] = e at hE3 hsm htk
      obtain ⟨ua, ub⟩ := u
      have hE30 := hE3
      obtain ⟨⟨o1, c1', vs1, hua, _, _⟩, ⟨o2, c2', vs2, hub, _, _⟩⟩ := hE3
      dsimp only at hua hub c0 c1
      subst hua; subst hub
      subst hp
      refine ⟨⟨by omega, by omega⟩, ?_⟩
      refine ⟨o1, _, c1', o2, _, c2', ⟨c0, c1⟩, fun w4 e4 => ?_⟩
      have hV := Blk.new e4
      refine ⟨⟨hV.ok 0 rfl, hV.ok 1 rfl⟩, fun w5 e5 => ?_⟩
      have e6 : w5 = w4.setCells w3.heap.size 0 [.slice o1 e.1.length c1', .slice o2 e.2.length c2'] := e5
      have hV5 := hV.all [.slice o1 e.1.length c1', .slice o2 e.2.length c2'] rfl e6
      have hc35 : Ch Non w3 w5 := (Ch.alloc (F := Non) e4).trans (Ch.sets (F := (· = w3.heap.size)) e6 rfl) (fun i hi he => by omega)
      clear e4 e5 e6 hV
      refine ⟨o1, _, c1', o2, _, c2', ⟨hV5.cell 0 rfl, hV5.cell 1 rfl⟩, ?_⟩
      refine step_call (Copy_specW (p := (.slice o1 e.1.length c1', .slice o2 e.2.length c2')) (hE30.keepN hc35) hsm) ?_
      rintro v w6 ⟨⟨qa, qb⟩, rfl, hQ, hc6⟩
      have hQ0 := hQ
      obtain ⟨⟨oa, ca, va, hqa, _, _⟩, ⟨ob, cb, vb, hqb, _, _⟩⟩ := hQ
      dsimp only at hqa hqb
      subst hqa; subst hqb
      refine ⟨oa, _, ca, ob, _, cb, rfl, fun w7 e7 => ?_⟩
      have hB5 := hB.keepN hc35
      have hB6 := hB5.more hc6
      have hlen : (getL ps (l.take j) ++ es.take m).length < 1000000 := by rw [List.length_append, List.length_take]; omega
      obtain ⟨o8, c8, w8, F8, hr8, hB8, hc8⟩ := hB6.push el_S_step_Entry t_S_step_Entry e7 rfl rfl hlen (by omega)
      have hnl : (getL ps (l.take j) ++ es.take m).length + 1 = (getL ps (l.take j) ++ es.take (m + 1)).length := by rw [htk, ← List.append_assoc, List.length_append (bs := [e])]; rfl
      rw [hnl] at hB8 hr8
      refine ⟨o8, _, c8, w8, hr8, es.length - (m + 1), by omega, m + 1, qs ++ [(.slice oa e.1.length ca, .slice ob e.2.length cb)], F8, _, by rw [wrap_id (by omega) (by omega)]; rfl, hlt2, rfl, rfl, by rw [← pairs_snoc]; exact hB8, ?_⟩
      rw [htk, ← List.append_assoc]
      exact (((hA.keepN hc35).keepN hc6).snoc hQ0 (Apart.new hB5.f2)).keep hc8 (fun i _ hi h => hB6.ap i h hi)
    · have : m = es.length := by have := of_decide_eq_false hge2; omega
      subst this
      rw [List.take_length, ← hsn] at hA hB
      exact ⟨l.length - (j + 1), by omega, j + 1, qs, F1, F2, by rw [wrap_id (by omega) (by omega)]; rfl, hlt, rfl, by rw [hsn, List.take_length], by rw [List.take_length, ← hsn]; exact hB, hA⟩
  · have : j = l.length := by have := of_decide_eq_false hge; omega
    subst this
    rw [List.take_length] at hB hA
    exact ⟨oA, oC, qs, F1, F2, by rw [List.take_length], hB, hA⟩
end
theorem entry_specW (w : World) (n : Int) : Calls Try.prog i_coadjutorlaw22_entry #[.int .i64 n] w (Ret fun v w' => ∃ q : Value × Value, v = .agg #[q.1, q.2] ∧ EntW w' q (entE n) (New w w') ∧ Ch Non w w') := by
  refine coadjutorlaw22_entry.calls _ ?_
  unfold coadjutorlaw22_entry.vc
  intro w1 e1 w2 e2 w3 e3 w4 e4 w5 e5
  have hc1 : Ch Non w w1 := Ch.alloc e1
  have hc2 : Ch Non w1 w2 := Ch.alloc e2
  have hc3 : Ch Non w2 w3 := Ch.alloc e3
  have hc4 : Ch Non w3 w4 := Ch.alloc e4
  have hc5 : Ch Non w4 w5 := Ch.alloc e5
  have hA := ((((Blk.new e1).alloc e2).alloc e3).alloc e4).alloc e5
  have hB := (((Blk.new e2).alloc e3).alloc e4).alloc e5
  have hC := ((Blk.new e3).alloc e4).alloc e5
  have hD := (Blk.new e4).alloc e5
  have hE := Blk.new e5
  have s1 : w.heap.size < w1.heap.size := (Blk.new e1).lt
  have s2 : w1.heap.size < w2.heap.size := (Blk.new e2).lt
  have s3 : w2.heap.size < w3.heap.size := (Blk.new e3).lt
  have s4 : w3.heap.size < w4.heap.size := (Blk.new e4).lt
  have s5 : w4.heap.size < w5.heap.size := (Blk.new e5).lt
  refine ⟨⟨hA.ok 0 rfl, hA.ok 1 rfl⟩, fun w6 e6 => ?_⟩
  have e7 : w6 = w5.setCells w.heap.size 0 [.slice (some ⟨w2.heap.size, 0, none⟩) 1 1, .slice (some ⟨w4.heap.size, 0, none⟩) 1 1] := e6
  have hA6 := hA.all [.slice (some ⟨w2.heap.size, 0, none⟩) 1 1, .slice (some ⟨w4.heap.size, 0, none⟩) 1 1] rfl e7
  have hc6 : Ch (· = w.heap.size) w5 w6 := Ch.sets e7 rfl
  have s6 := hc6.size
  refine ⟨_, _, _, _, _, _, ⟨hA6.cell 0 rfl, hA6.cell 1 rfl⟩, (_, _), rfl, ⟨?_, ?_⟩, ((((hc1.andN hc2).andN hc3).andN hc4).andN hc5).trans hc6 (fun i hi h => by omega)⟩
  · have hb : Own w5 t_int 1 (some ⟨w1.heap.size, 0, none⟩) 1 1 (([n] : List Int).map (.int .i64)) (· = w1.heap.size) := Blk.own hB rfl (by decide)
    have hcr : Rd w5 (some ⟨w2.heap.size, 0, none⟩) [.slice (some ⟨w1.heap.size, 0, none⟩) 1 1] (· = w2.heap.size) := hC.rd
    exact ⟨_, _, [.slice (some ⟨w1.heap.size, 0, none⟩) 1 1], rfl, (hcr.keep hc6 (fun i _ a b => by omega)).mono (fun i _ hi => ⟨by omega, by omega⟩), .cons ⟨_, _, rfl, (hb.keep hc6 (fun i _ a b => by omega)).mono (fun i _ hi => ⟨by omega, by omega⟩)⟩ .nil⟩
  · have hb : Own w5 t_int 1 (some ⟨w3.heap.size, 0, none⟩) 2 2 (([IntKind.i64.wrap (0 - n), n] : List Int).map (.int .i64)) (· = w3.heap.size) := Blk.own hD rfl (by decide)
    have hcr : Rd w5 (some ⟨w4.heap.size, 0, none⟩) [.slice (some ⟨w3.heap.size, 0, none⟩) 2 2] (· = w4.heap.size) := hE.rd
    exact ⟨_, _, [.slice (some ⟨w3.heap.size, 0, none⟩) 2 2], rfl, (hcr.keep hc6 (fun i _ a b => by omega)).mono (fun i _ hi => ⟨by omega, by omega⟩), .cons ⟨_, _, rfl, (hb.keep hc6 (fun i _ a b => by omega)).mono (fun i _ hi => ⟨by omega, by omega⟩)⟩ .nil⟩
end Go.Proofs.Ytpcddfhfchempaa.Pages
