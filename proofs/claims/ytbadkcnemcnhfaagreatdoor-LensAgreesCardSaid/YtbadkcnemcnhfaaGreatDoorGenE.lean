/- GenExact's contract: of all shapes, weights, prompts and draws the Go function answers true and leaves what was there; what the document's Check and Gen answer; the conditions stand in each theorem. -/
import Derived.Test.YtbadkcnemcnhfaaGreatDoorRefU
import Derived.Test.YtbadkcnemcnhfaaGreatDoorGenL
import Derived.Test.YtbadkcnemcnhfaaGreatDoorVcGenE
set_option linter.unusedVariables false
set_option linter.unusedSimpArgs false
namespace Go.Proofs.YtbadkcnemcnhfaaGreatDoor.Gen
open Go Go.Proofs Go.Proofs.YtbadkcnemcnhfaaGreatDoor.V Go.Proofs.YtbadkcnemcnhfaaGreatDoor.Vc Go.Proofs.YtbadkcnemcnhfaaGreatDoor.Conf Go.Proofs.YtbadkcnemcnhfaaGreatDoor.Brain Go.Proofs.YtbadkcnemcnhfaaGreatDoor.Num Go.Proofs.YtbadkcnemcnhfaaGreatDoor.Stp Go.Proofs.YtbadkcnemcnhfaaGreatDoor.IntsT Go.Proofs.YtbadkcnemcnhfaaGreatDoor.RefM Go.Proofs.YtbadkcnemcnhfaaGreatDoor.RefS Go.RowKit

section
variable {c : CfD} {wt : ByteArray} {w w' : World} {bb : Nat} {v pv sv dv : Value} {F G : Nat → Prop} {ts sc draws : List Int} {tk : Nat → List Int → Int}
theorem rCheck_spec (m : Md c wt) (ht : IV w pv ts F) (hl : ts.length ≤ 1000000) (most : Int) : Calls Tryz.prog i_coadjutorref18_Check #[mdE c wt, .int .i64 most, pv] w (Ret fun v w' => v = .int .i64 (checkP c most ts) ∧ Ch Non w w') := by
  have ht' := ht
  obtain ⟨o, cc, rfl, _⟩ := ht
  have hctx := m.ok.2.2.2.2.2.1
  refine coadjutorref18_Check.calls _ _ _ _ _ _ _ _ _ _ _ ?_
  unfold coadjutorref18_Check.vc
  intro w1 e1
  have hM1 := Blk.new e1
  have hc1 : Ch Non w w1 := Ch.alloc e1
  unfold checkP
  refine ⟨fun h0 => ?_, fun h0 => ⟨dT fun m1 => ?_, dF fun m1 => ⟨dT fun m2 => ?_, dF fun m2 => ?_⟩⟩⟩
  · have h0 : ts = [] := List.eq_nil_of_length_eq_zero (by have := eq_of_beq h0; omega)
    rw [if_pos (.inl h0)]; exact ⟨rfl, hc1⟩
  · rw [if_pos (.inr (.inl m1))]; exact ⟨rfl, hc1⟩
  · rw [if_pos (.inr (.inr m2))]; exact ⟨rfl, hc1⟩
  have h0 : ts ≠ [] := fun e => by subst e; simp at h0
  rw [if_neg (fun k => by rcases k with k | k | k; exact h0 k; exact m1 k; exact m2 k)]
  refine ⟨fun i k w' => Ch Non w1 w' ∧ ∃ j : Nat, i = j ∧ j ≤ ts.length ∧ k = ts.length - j ∧ ∀ t ∈ ts.take j, 0 ≤ t ∧ t < c.vocab, ⟨_, Ch.refl _ _, 0, rfl, Nat.zero_le _, rfl, fun x hx => by simp at hx⟩, ?_⟩
  rintro jk i k w2 ⟨hc2, j, rfl, hj, rfl, hs⟩
  have hM2 := hM1.keepN hc2
  have hc02 := hc1.andN hc2
  refine ⟨dT fun hlt => ?_, dF fun hge => ⟨_, hM2.cell 5 rfl, ?_⟩⟩
  · have hlt : j < ts.length := by omega
    obtain ⟨a, rfl, _, hcell⟩ := IV.get (ht'.keepN hc02) hlt
    have hmem := List.getElem_mem hlt
    have bad : ¬ (0 ≤ ts[j] ∧ ts[j] < c.vocab) → ¬ ∀ t ∈ ts, 0 ≤ t ∧ t < c.vocab := fun h k => h (k _ hmem)
    refine ⟨fun w' => Ch Non w2 w', fun w3 e3 => ⟨Ch.drew e3, ⟨by omega, by omega⟩, _, fun w' k => hcell _ w' k (fun _ _ _ => id), dT fun hneg => ?_, dF fun hneg => ⟨⟨by omega, by omega⟩, _, fun w' k => hcell _ w' k (fun _ _ _ => id), _, fun w' k => (hM2.keepN k).cell 0 rfl, dT fun hbig => ?_, dF fun hbig => ?_⟩⟩⟩
    · rw [if_pos (bad (by omega))]; exact ⟨rfl, hc02.andN (Ch.drew e3)⟩
    · rw [if_pos (bad (by omega))]; exact ⟨rfl, hc02.andN (Ch.drew e3)⟩
    · refine ⟨ts.length - (j + 1), by omega, hc2.andN (Ch.drew e3), j + 1, by rw [wrap_id (by omega) (by omega)]; rfl, hlt, rfl, fun x hx => ?_⟩
      rw [take_snoc ts j hlt] at hx
      rcases List.mem_append.1 hx with hx | hx
      · exact hs x hx
      · rw [List.mem_singleton] at hx; subst hx; exact ⟨by omega, by omega⟩
  · have hje : j = ts.length := by omega
    subst hje
    rw [List.take_length] at hs
    rw [if_neg (fun k => k hs), wrap_id (by omega) (by omega)]
    refine ⟨dT fun hgt => ?_, dF fun hgt => ?_⟩
    · rw [if_pos (by omega)]; exact ⟨rfl, hc02⟩
    · rw [if_neg (by omega)]; exact ⟨rfl, hc02⟩
theorem rBest_specI (hs : IV w sv sc F) (hl : sc.length ≤ 1000000) : Calls Tryz.prog i_coadjutorref12_Best #[sv] w (Ret fun v w' => v = .int .i64 (bestI sc) ∧ Ch Non w w') := by
  obtain ⟨o, cc, rfl, h1, h2, hr⟩ := hs
  refine step_call (Soft.rBest_spec hr hl cc) ?_
  rintro v w1 ⟨b, rfl, hb, hc⟩
  exact ⟨by rw [hb.uniq best_R], hc⟩
/-- Entries of one's own that grow, apart from B. -/
def PBY (W w : World) (o : Option Addr) (n cp : Nat) (es : List Ent) (A B : Nat → Prop) : Prop :=
  ∃ nps : List (Value × Value), V.Own w t_coadjutorref17_Entry 2 o n cp (nps.map pairE).flatten A ∧ n = es.length ∧ All2 (fun p e => EV w p e (fun i => New W w i ∧ ¬ A i ∧ ¬ B i)) nps es ∧ (∀ i, A i → New W w i ∧ ¬ B i) ∧ (∀ i, B i → New W w i) ∧ Ch Non W w
section
variable {W w1 : World} {o : Option Addr} {n cp : Nat} {es : List Ent} {A B B' : Nat → Prop} {p : Value × Value} {e : Ent}
theorem PBY.ch (h : PBY W w o n cp es A B) : Ch Non W w := by obtain ⟨_, _, _, _, _, _, h⟩ := h; exact h
theorem PBY.len (h : PBY W w o n cp es A B) : n = es.length := by obtain ⟨_, _, h, _⟩ := h; exact h
theorem PBY.toP (h : PBY W w o n cp es A B) : PV w (.slice o n cp) es (New W w) := by
  obtain ⟨nps, h1, rfl, h3, h4, _, h5⟩ := h
  exact ⟨o, cp, nps, rfl, h1.2.1, h1.2.2.1, h1.rd.mono (fun i _ hi => (h4 i hi).1), h3.imp fun p e k => k.mono (fun i _ hi => hi.1)⟩
theorem PBY.keepB (h : PBY W w o n cp es A B) (hc : Ch B w w') (hB : ∀ i, B' i → Ext B w w' i) : PBY W w' o n cp es A B' := by
  obtain ⟨nps, h1, h2, h3, h4, h6, h5⟩ := h
  have hs := hc.size
  have hWs := h5.size
  have hAB : ∀ i, i < w.heap.size → ¬ B i → ¬ B' i := fun i hi h k => by
    rcases hB i k with k | k
    · exact h k
    · have := k.1; omega
  refine ⟨nps, h1.keep hc (fun i _ ha hb => (h4 i ha).2 hb), h2, h3.imp fun p e k => ?_, fun i hi => ⟨⟨(h4 i hi).1.1, by have := (h4 i hi).1.2; omega⟩, hAB i (h4 i hi).1.2 (h4 i hi).2⟩, fun i hi => ?_, h5.trans hc (fun i hi k => by have := (h6 i k).1; omega)⟩
  · exact ((k.mono (fun i hi h => (⟨⟨⟨h.1.1, by omega⟩, h.2.1, hAB i hi h.2.2⟩, h⟩ : (New W w' i ∧ ¬ A i ∧ ¬ B' i) ∧ (New W w i ∧ ¬ A i ∧ ¬ B i)))).keep hc (fun i _ h k => h.2.2.2 k)).mono (fun i _ h => h.1)
  · rcases hB i hi with hi | hi
    · exact ⟨(h6 i hi).1, by have := (h6 i hi).2; omega⟩
    · exact ⟨by have := hi.1; omega, hi.2⟩
theorem PBY.keepN (h : PBY W w o n cp es A B) (hc : Ch Non w w') : PBY W w' o n cp es A B := h.keepB hc.any (fun i hi => .inl hi)
theorem PBY.push (h : PBY W w o n cp es A B) (hE : EV w p e (fun i => New W w i ∧ ¬ A i ∧ ¬ B i)) (e1 : w1 = w.alloc (.cells #[p.1, p.2] t_coadjutorref17_Entry (0, 0))) (hn : n < 1000000) :
    ∃ (o' : Option Addr) (c' : Nat) (w' : World), (Builtin.append_ #[t_S_coadjutorref17_Entry, t_S_coadjutorref17_Entry] t_S_coadjutorref17_Entry #[.slice o n cp, .slice (some ⟨w.heap.size, 0, none⟩) 1 1]).run Tryz.prog w1 = .ok (.slice o' (n + 1) c') w' ∧ PBY W w' o' (n + 1) c' (es ++ [e]) (Ext A w w') B ∧ Ch A w w' := by
  obtain ⟨nps, h1, rfl, h3, h4, h6, h5⟩ := h
  obtain ⟨o', c', w', hr, hO, hc⟩ := V.Own.push el_S_coadjutorref17_Entry h1 t_S_coadjutorref17_Entry e1 rfl (by simp [RV.one hE.1, RV.one hE.2]) (by unfold maxLen; omega) (by omega)
  have hs := hc.size
  have hWs := h5.size
  have hreg : ∀ i, i < w.heap.size → (New W w i ∧ ¬ A i ∧ ¬ B i) → New W w' i ∧ ¬ Ext A w w' i ∧ ¬ B i := fun i hi h => ⟨⟨h.1.1, by omega⟩, fun k => by
    rcases k with k | k
    · exact h.2.1 k
    · have := k.1; omega, h.2.2⟩
  refine ⟨o', c', w', hr, ⟨nps ++ [p], by rw [show ((nps ++ [p]).map pairE).flatten = (nps.map pairE).flatten ++ [p.1, p.2] by simp [pairE]]; exact hO, by simp, ?_, fun i hi => ?_, fun i hi => ⟨(h6 i hi).1, by have := (h6 i hi).2; omega⟩, h5.trans hc (fun i hi k => by have := (h4 i k).1.1; omega)⟩, hc⟩
  · have step : ∀ {p : Value × Value} {e : Ent}, EV w p e (fun i => New W w i ∧ ¬ A i ∧ ¬ B i) → EV w' p e (fun i => New W w' i ∧ ¬ Ext A w w' i ∧ ¬ B i) := fun k => ((k.mono (fun i hi h => (⟨hreg i hi h, h⟩ : (New W w' i ∧ ¬ Ext A w w' i ∧ ¬ B i) ∧ (New W w i ∧ ¬ A i ∧ ¬ B i)))).keep hc (fun i _ h k => h.2.2.1 k)).mono (fun i _ h => h.1)
    exact (h3.imp fun p e k => step k).snoc (step hE)
  · rcases hi with hi | hi
    · exact ⟨⟨(h4 i hi).1.1, by have := (h4 i hi).1.2; omega⟩, (h4 i hi).2⟩
    · exact ⟨⟨by have := hi.1; omega, hi.2⟩, fun k => by have := (h6 i k).2; have := hi.1; omega⟩
theorem PBY.far (h : PBY W w o n cp es A B) {w2 w3 : World} (hs : w.heap.size ≤ w2.heap.size) (hW : w3.heap.size ≤ w'.heap.size) {i : Nat} (hi : New w2 w3 i) : New W w' i ∧ ¬ A i ∧ ¬ B i := by
  obtain ⟨nps, h1, rfl, h3, h4, h6, h5⟩ := h
  have := h5.size
  exact ⟨⟨by have := hi.1; omega, by have := hi.2; omega⟩, fun k => by have := (h4 i k).1.2; have := hi.1; omega, fun k => by have := (h6 i k).2; have := hi.1; omega⟩
end
theorem PBYB {W : World} {o : Option Addr} {n cp : Nat} {es : List Ent} {A B : Nat → Prop} (h : PBY W w o n cp es A B) : ∀ i, B i → New W w i := by obtain ⟨_, _, _, _, _, h, _⟩ := h; exact h
theorem PBYA {W : World} {o : Option Addr} {n cp : Nat} {es : List Ent} {A B : Nat → Prop} (h : PBY W w o n cp es A B) : ∀ i, A i → ¬ B i := by obtain ⟨_, _, _, _, h, _⟩ := h; exact fun i hi => (h i hi).2
/-- An entry and scores that are new come to it. -/
theorem PBY.add {W w1 w2 : World} {o : Option Addr} {n cp : Nat} {es : List Ent} {A B : Nat → Prop} {p : Value × Value} {e : Ent} {u : Value} {ns : List Int} (h : PBY W w o n cp es A B) (hc : Ch Non w w1) (hE : EV w1 p e (fun i => w.heap.size ≤ i)) (hS : IV w1 u ns (fun i => w.heap.size ≤ i)) (e2 : w2 = w1.alloc (.cells #[p.1, p.2] t_coadjutorref17_Entry (0, 0))) (hn : n < 1000000) :
    ∃ (o' : Option Addr) (c' : Nat) (w' : World), (Builtin.append_ #[t_S_coadjutorref17_Entry, t_S_coadjutorref17_Entry] t_S_coadjutorref17_Entry #[.slice o n cp, .slice (some ⟨w1.heap.size, 0, none⟩) 1 1]).run Tryz.prog w2 = .ok (.slice o' (n + 1) c') w' ∧ PBY W w' o' (n + 1) c' (es ++ [e]) (Ext A w1 w') B ∧ IV w' u ns (fun i => New W w' i ∧ ¬ Ext A w1 w' i ∧ ¬ B i) ∧ Ch A w1 w' := by
  have hfar : ∀ i, i < w1.heap.size → w.heap.size ≤ i → New W w1 i ∧ ¬ A i ∧ ¬ B i := fun i hi hw => h.far (w2 := w) (w3 := w1) (Nat.le_refl _) (Nat.le_refl _) ⟨hw, hi⟩
  obtain ⟨o', c', w', hr, hP, hch⟩ := (h.keepN hc).push (hE.mono hfar) e2 hn
  have hs := hch.size
  refine ⟨o', c', w', hr, hP, ?_, hch⟩
  exact ((hS.mono (G := fun i => (New W w1 i ∧ ¬ A i ∧ ¬ B i) ∧ i < w1.heap.size) (fun i hi h => ⟨hfar i hi h, hi⟩)).keep hch (fun i _ h k => h.1.2.1 k)).mono (fun i _ h => ⟨⟨h.1.1.1, by have := h.2; omega⟩, fun k => by
    rcases k with k | k
    · exact h.1.2.1 k
    · have := k.1; have := h.2; omega, h.1.2.2⟩)
def tkB (greedy : Bool) (draws : List Int) : Nat → List Int → Int := if greedy then bestT else drawT draws
theorem tkB_ok (greedy : Bool) (draws : List Int) : tkOk (tkB greedy draws) := by
  cases greedy
  · exact drawT_ok draws
  · exact bestT_ok
set_option maxHeartbeats 2000000 in
theorem rGen_spec (m : Md c wt) (ht : IV w pv ts F) (hd : IV w dv draws G) (hl : ts.length ≤ 1000000) (hdl : draws.length ≤ 1000000) (most : Int) (greedy : Bool) : Calls Tryz.prog i_coadjutorref18_Gen #[mdE c wt, pv, .int .i64 most, dv, .bool greedy] w (Ret (GenR c wt (tkB greedy draws) most ts w)) := by
  have ht' := ht
  have hd' := hd
  obtain ⟨po, pc, rfl, _⟩ := ht
  obtain ⟨dq, dc, rfl, _⟩ := hd
  have hctx := m.ok.2.2.2.2.2.1
  have hvoc := m.ok.1
  refine coadjutorref18_Gen.calls _ _ _ _ _ _ _ _ _ _ _ _ _ _ _ ?_
  unfold coadjutorref18_Gen.vc
  intro w1 e1
  have hM1 := Blk.new e1
  have hc1 : Ch Non w w1 := Ch.alloc e1
  refine ⟨_, _, _, _, _, _, _, ⟨hM1.cell 0 rfl, hM1.cell 1 rfl, hM1.cell 2 rfl, hM1.cell 3 rfl, hM1.cell 4 rfl, hM1.cell 5 rfl, hM1.cell 6 rfl⟩, step_call (rCheck_spec m (ht'.keepN hc1) hl most) ?_⟩
  rintro v w2 ⟨rfl, hc2⟩
  have hc02 := hc1.andN hc2
  by_cases hk : checkP c most ts = 0
  case neg => exact ⟨_, rfl, fun _ => ⟨hc02, fun _ => rfl, fun k => absurd k hk⟩, fun hf => by simp at hf; exact absurd hf hk⟩
  have hk' := hk
  obtain ⟨hne, hm1, hm2, htok, hlen⟩ := checkP_ok hk
  rw [hk]
  have hg0 : ∀ e ∈ ([] : List Ent), goodE c e := fun e he => by cases he
  have hM2 := hM1.keepN hc2
  refine ⟨_, rfl, iteF rfl (fun w3 e3 w4 e4 => ?_)⟩
  have hc3 : Ch Non w2 w3 := Ch.alloc e3
  have hc4 : Ch Non w3 w4 := Ch.alloc e4
  have hs3 : w3.heap.size = w2.heap.size + 1 := by subst e3; simp
  have hs4 : w4.heap.size = w3.heap.size + 1 := by subst e4; simp
  have hO3 : V.Own w3 t_coadjutorref17_Entry 2 (some ⟨w2.heap.size, 0, none⟩) 0 0 [] (· = w2.heap.size) := V.Own.made e3 rfl (Nat.zero_le _) rfl
  have hP0 : PBY w2 w4 (some ⟨w2.heap.size, 0, none⟩) 0 0 [] (· = w2.heap.size) Non := ⟨[], hO3.keepN hc4, rfl, .nil, fun i h => ⟨⟨by omega, by omega⟩, id⟩, fun i h => h.elim, hc3.andN hc4⟩
  obtain ⟨M, hM⟩ : ∃ M : Nat, most = M := ⟨most.toNat, by omega⟩
  subst hM
  obtain ⟨tk, htk⟩ : ∃ tk, tkB greedy draws = tk := ⟨_, rfl⟩
  have hto := tkB_ok greedy draws
  rw [htk] at hto ⊢
  obtain ⟨res, hres⟩ : ∃ res : List Int, sayP c wt tk M ts = res := ⟨_, rfl⟩
  have hfin : sayP c wt tk M ts = sayG c wt tk M 0 (runE c wt [] ts) (Stp.runS c wt [] [] ts) := by unfold sayP; rw [Int.toNat_natCast]
  refine ⟨fun pA pN pC sA sN sC i k w' => ∃ (j : Nat) (A : Nat → Prop), i = j ∧ j ≤ ts.length ∧ k = ts.length - j ∧ PBY w2 w' pA pN pC (runE c wt [] (ts.take j)) A Non ∧ IV w' (.slice sA sN sC) (Stp.runS c wt [] [] (ts.take j)) (fun i => New w2 w' i ∧ ¬ A i ∧ ¬ Non i), ⟨_, 0, _, rfl, Nat.zero_le _, rfl, hP0, ⟨_, 0, rfl, Nat.le_refl _, Nat.zero_le _, Rd.nil _ _ _⟩⟩, ?_⟩
  clear hO3 hP0
  rintro jk pA pN pC sA sN sC i k w5 ⟨j, A, rfl, hj, rfl, hP, hS⟩
  have hM5 := hM2.keepN hP.ch
  have hc05 := hc02.andN hP.ch
  refine ⟨dT fun hlt => ?_, dF fun hge => ?_⟩
  · have hlt : j < ts.length := by omega
    obtain ⟨a, rfl, _, hcell⟩ := IV.get (ht'.keepN hc05) hlt
    have htj := htok _ (List.getElem_mem hlt)
    have hsn := take_snoc ts j hlt
    generalize ts[j] = t at hcell htj hsn
    obtain ⟨past, hpast⟩ : ∃ past, runE c wt [] (ts.take j) = past := ⟨_, rfl⟩
    have hpl : past.length = j := by rw [← hpast, runE_len, List.length_take]; simp; omega
    have hgp : ∀ e ∈ past, goodE c e := by
      rw [← hpast]
      exact runE_good m _ hg0 (fun t ht => htok t (List.mem_of_mem_take ht)) (by rw [List.length_take]; simp; omega)
    have hcl : (past.length : Int) < c.context := by omega
    have hE1 : runE c wt [] (ts.take (j + 1)) = past ++ [stepE c wt past t] := by rw [hsn, runE_app, hpast]; rfl
    have hS1 : Stp.runS c wt [] [] (ts.take (j + 1)) = stepL c wt past t := by rw [hsn, runS_app, hpast]; rfl
    rw [hpast] at hP
    have hpn := hP.len
    obtain ⟨e, he⟩ : ∃ e : Ent, stepE c wt past t = e := ⟨_, rfl⟩
    obtain ⟨ns, hns⟩ : ∃ ns : List Int, stepL c wt past t = ns := ⟨_, rfl⟩
    rw [he] at hE1
    rw [hns] at hS1
    refine ⟨fun w' => Ch Non w5 w', fun w6 e6 => ⟨Ch.drew e6, _, _, _, _, _, _, _, ⟨fun w' k => (hM5.keepN k).cell 0 rfl, fun w' k => (hM5.keepN k).cell 1 rfl, fun w' k => (hM5.keepN k).cell 2 rfl, fun w' k => (hM5.keepN k).cell 3 rfl, fun w' k => (hM5.keepN k).cell 4 rfl, fun w' k => (hM5.keepN k).cell 5 rfl, fun w' k => (hM5.keepN k).cell 6 rfl⟩, ⟨by omega, by omega⟩, _, fun w' k => hcell _ w' k (fun _ _ _ => id), ?_⟩⟩
    have hd6 : Ch Non w5 w6 := Ch.drew e6
    have hs6 : w6.heap.size = w5.heap.size := by subst e6; rfl
    refine ⟨step_call (rStep_spec m (hP.toP.keepN hd6) t (by omega)) ?_, fun w14 e14 => ⟨hd6.andN (Ch.alloc e14), step_call (rStep_spec m (hP.toP.keepN (hd6.andN (Ch.alloc e14))) t (by omega)) ?_⟩, trivial⟩
    · rintro v w9 hR
      have hc9 := hR.ch
      obtain ⟨p7, u7, rfl, hE7, hL7⟩ := hR.yes hgp htj hcl
      rw [he] at hE7
      rw [hns] at hL7
      obtain ⟨o1, c1, o2, c2, rfl⟩ := ents_of hE7
      have hL7' := hL7
      obtain ⟨o3, c3, rfl, _⟩ := hL7
      have hc59 := hd6.andN hc9
      refine ⟨_, _, _, _, _, _, _, _, _, _, rfl, hc59, fun w10 e10 => ⟨hc59.andN (Ch.alloc e10), ?_⟩⟩
      have hU := Blk.new e10
      refine ⟨⟨hU.ok 0 rfl, hU.ok 1 rfl⟩, fun w11 e11 => ?_⟩
      have e11' : w11 = w10.setCells w9.heap.size 0 [.slice o1 e.1.length c1, .slice o2 e.2.length c2] := e11
      have hU11 := hU.all [.slice o1 e.1.length c1, .slice o2 e.2.length c2] rfl e11'
      have hc911 : Ch Non w9 w11 := (Ch.alloc (F := Non) e10).trans (Ch.sets (F := (· = w9.heap.size)) e11' rfl) (fun i hi he => by omega)
      have hc511 := hc59.andN hc911
      refine ⟨hc511, _, _, _, _, _, _, ⟨hU11.cell 0 rfl, hU11.cell 1 rfl⟩, fun w12 e12 => ?_⟩
      obtain ⟨o', c', w13, hr, hP13, hS13, _⟩ := hP.add hc511 ((hE7.keepN hc911).mono (fun i _ h => by have := h.1; omega)) ((hL7'.keepN hc911).mono (fun i _ h => by have := h.1; omega)) e12 (by omega)
      exact ⟨o', _, c', w13, hr, ts.length - (j + 1), by omega, j + 1, _, by rw [wrap_id (by omega) (by omega)]; rfl, hlt, rfl, by rw [hE1]; exact hP13, by rw [hS1]; exact hS13⟩
    · rintro v w15 hR
      have hc15 := hR.ch
      have hc614 : Ch Non w6 w14 := Ch.alloc e14
      have hs14 : w14.heap.size = w6.heap.size + 1 := by subst e14; simp
      obtain ⟨p7, u7, rfl, hE7, hL7⟩ := hR.yes hgp htj hcl
      rw [he] at hE7
      rw [hns] at hL7
      obtain ⟨o1, c1, o2, c2, rfl⟩ := ents_of hE7
      have hL7' := hL7
      obtain ⟨o3, c3, rfl, _⟩ := hL7
      have hc515 := (hd6.andN hc614).andN hc15
      have hU := (Blk.new e14).keepN hc15
      refine ⟨_, _, _, _, _, _, _, _, _, _, rfl, hc515, ⟨hU.ok 0 rfl, hU.ok 1 rfl⟩, fun w16 e16 => ?_⟩
      have e16' : w16 = w15.setCells w6.heap.size 0 [.slice o1 e.1.length c1, .slice o2 e.2.length c2] := e16
      have hU16 := hU.all [.slice o1 e.1.length c1, .slice o2 e.2.length c2] rfl e16'
      have hch16 : Ch (· = w6.heap.size) w15 w16 := Ch.sets e16' rfl
      have hc516 : Ch Non w5 w16 := hc515.trans hch16 (fun i hi he => by omega)
      refine ⟨hc516, _, _, _, _, _, _, ⟨hU16.cell 0 rfl, hU16.cell 1 rfl⟩, fun w17 e17 => ?_⟩
      obtain ⟨o', c', w18, hr, hP18, hS18, _⟩ := hP.add hc516 ((hE7.keep hch16 (fun i _ h k => by have := h.1; omega)).mono (fun i _ h => by have := h.1; omega)) ((hL7'.keep hch16 (fun i _ h k => by have := h.1; omega)).mono (fun i _ h => by have := h.1; omega)) e17 (by omega)
      exact ⟨o', _, c', w18, hr, ts.length - (j + 1), by omega, j + 1, _, by rw [wrap_id (by omega) (by omega)]; rfl, hlt, rfl, by rw [hE1]; exact hP18, by rw [hS1]; exact hS18⟩
  have hje : j = ts.length := by omega
  subst hje
  rw [List.take_length] at hP hS
  intro w19 e19
  have hc19 : Ch Non w5 w19 := Ch.alloc e19
  have hs19 : w19.heap.size = w5.heap.size + 1 := by subst e19; simp
  have hs25 := hP.ch.size
  have hOut : V.Own w19 t_int 1 (some ⟨w5.heap.size, 0, none⟩) 0 0 (([] : List Int).map (.int .i64)) (· = w5.heap.size) := V.Own.made e19 rfl (Nat.zero_le _) rfl
  have hP19 : PBY w2 w19 pA pN pC (runE c wt [] ts) A (· = w5.heap.size) := hP.keepB hc19 (fun i hi => .inr ⟨by omega, by omega⟩)
  have hS19 : IV w19 (.slice sA sN sC) (Stp.runS c wt [] [] ts) (fun i => New w2 w19 i ∧ ¬ A i ∧ ¬ i = w5.heap.size) := ((hS.mono (G := fun i => (New w2 w5 i ∧ ¬ A i) ∧ i < w5.heap.size) (fun i hi h => ⟨⟨h.1, h.2.1⟩, hi⟩)).keepN hc19).mono (fun i _ h => ⟨⟨h.1.1.1, by have := h.2; omega⟩, h.1.2, by have := h.2; omega⟩)
  refine ⟨fun pA pN pC sA sN sC oA oN oC k w' => ∃ (j : Nat) (A B : Nat → Prop) (past : List Ent) (scs out : List Int), j + k = M ∧ 1 ≤ k ∧ oN = j ∧ out.length = j ∧ PBY w2 w' pA pN pC past A B ∧ (∀ e ∈ past, goodE c e) ∧ past.length = ts.length + j ∧ IV w' (.slice sA sN sC) scs (fun i => New w2 w' i ∧ ¬ A i ∧ ¬ B i) ∧ scs.length = c.vocab.toNat ∧ V.Own w' t_int 1 oA oN oC (out.map (.int .i64)) B ∧
    out ++ sayG c wt tk k j past scs = res, ⟨M, 0, A, _, _, _, [], by omega, by omega, rfl, rfl, hP19, runE_good m _ hg0 htok (by simp; omega), by rw [runE_len]; simp, hS19, runS_len hne, hOut, by rw [← hres, hfin]; rfl⟩, ?_⟩
  clear hOut hP19 hS19 hP hS hM5 hc05
  rintro jk pA pN pC sA sN sC oA oN oC k w20 ⟨j, A3, B3, past, scs, out, hjk, hk1, rfl, hol, hPX, hgp, hpl, hS, hsl, hO, hinv⟩
  have hc220 := hPX.ch
  have hc020 := hc02.andN hc220
  obtain ⟨k, rfl⟩ : ∃ k', k = k' + 1 := ⟨k - 1, by omega⟩
  have hsn : scs ≠ [] := fun e => by rw [e] at hsl; simp at hsl; omega
  refine ⟨fun d w' => w' = w20 ∧ d = draws.getD oN 0, ⟨dT fun hlt => ?_, dF fun hge => ⟨rfl, ?_⟩⟩, ?_⟩
  · have hlt : oN < draws.length := by omega
    obtain ⟨a, rfl, _, hcell⟩ := IV.get (hd'.keepN hc020) hlt
    exact ⟨⟨by omega, by omega⟩, _, hcell Non w20 (Ch.refl _ _) (fun _ _ _ => id), rfl, by rw [List.getD_eq_getElem?_getD, List.getElem?_eq_getElem hlt]; rfl⟩
  · rw [List.getD_eq_getElem?_getD, List.getElem?_eq_none (by omega)]; rfl
  rintro jk d w21 ⟨rfl, rfl⟩
  refine step_call (rNext_spec hS (by omega) _) ?_
  rintro v w22 ⟨rfl, hc22⟩
  obtain ⟨t, ht⟩ : ∃ t : Int, tk oN scs = t := ⟨_, rfl⟩
  have htb := hto oN scs hsn
  rw [ht] at htb
  rw [sayG, ht] at hinv
  refine ⟨_, rfl, fun t' w' => Ch Non w21 w' ∧ t' = t, ⟨fun hgr => step_call (rBest_specI (hS.keepN hc22) (by omega)) ?_, fun hgr => ⟨hc22, ?_⟩⟩, ?_⟩
  · rintro v w23 ⟨rfl, hc23⟩
    exact ⟨_, rfl, hc22.andN hc23, by rw [← ht, ← htk, hgr]; rfl⟩
  · rw [← ht, ← htk, hgr]; rfl
  rintro jk t' w24 ⟨hc24, rfl⟩
  have hPX4 := hPX.keepN hc24
  have hO4 := hO.keepN hc24
  have hs2 := hc02.size
  refine ⟨fun h0 => ?_, fun h0 => ?_⟩
  · have h0 : t' = 0 := eq_of_beq h0
    rw [if_pos h0, List.append_nil] at hinv
    subst hinv
    refine ⟨hc020.andN hc24, fun k => absurd hk' k, fun _ => ⟨_, rfl, ?_⟩⟩
    rw [hres]
    have hiv : IV w24 (.slice oA oN oC) out B3 := by
      rw [← hol] at hO4 ⊢
      exact Own.iv hO4
    exact hiv.mono (fun i _ hi => by
      have h1 := PBYB hPX4 i hi
      exact ⟨by have := h1.1; omega, h1.2⟩)
  have h0 : ¬ t' = 0 := by simpa using h0
  rw [if_neg h0] at hinv
  intro w25 e25
  obtain ⟨o6, c6, w26, r6, hO6, hc6⟩ := V.Own.pushT (enc := fun x : Int => Value.int .i64 x) (xs := out) el_S_int hO4 t_S_int t' e25 rfl (by unfold maxLen; omega) (by omega)
  have hPX6 := hPX4.keepB hc6 (fun i hi => hi)
  have hc026 : Ch Non w w26 := hc02.andN hPX6.ch
  refine ⟨o6, _, c6, w26, r6, fun hlast => ?_, fun hnl => ?_⟩
  · have hlast : oN + 1 = M := by have := eq_of_beq hlast; omega
    have hk0 : k = 0 := by omega
    subst hk0
    have hinv : out ++ [t'] = res := hinv
    refine ⟨hc026, fun k => absurd hk' k, fun _ => ⟨_, rfl, ?_⟩⟩
    rw [hres, ← hinv]
    have hiv : IV w26 (.slice o6 (oN + 1) c6) (out ++ [t']) (Ext B3 w24 w26) := by
      have e : oN + 1 = (out ++ [t']).length := by rw [List.length_append, hol]; rfl
      rw [e] at hO6 ⊢
      exact Own.iv hO6
    exact hiv.mono (fun i _ hi => by
      have h1 := PBYB hPX6 i hi
      exact ⟨by have := h1.1; omega, h1.2⟩)
  have hnl : ¬ oN + 1 = M := fun k => by rw [show ((oN + 1 : Nat) : Int) = (M : Int) by omega] at hnl; simp at hnl
  have hk2 : 1 ≤ k := by omega
  have hM26 := hM2.keepN hPX6.ch
  refine ⟨_, _, _, _, _, _, _, ⟨hM26.cell 0 rfl, hM26.cell 1 rfl, hM26.cell 2 rfl, hM26.cell 3 rfl, hM26.cell 4 rfl, hM26.cell 5 rfl, hM26.cell 6 rfl⟩, step_call (rStep_spec m hPX6.toP t' (by omega)) ?_⟩
  rintro v w27 hS7
  have hc7 := hS7.ch
  have hcl : (past.length : Int) < c.context := by omega
  have htv : 0 ≤ t' ∧ t' < c.vocab := by omega
  obtain ⟨p7, u7, rfl, hE7, hL7⟩ := hS7.yes hgp htv hcl
  have hge := (step_ok m hgp hcl htv).2
  have hlL := stepL_len (c := c) (wt := wt) past t'
  obtain ⟨e, he⟩ : ∃ e : Ent, stepE c wt past t' = e := ⟨_, rfl⟩
  obtain ⟨ns, hns⟩ : ∃ ns : List Int, stepL c wt past t' = ns := ⟨_, rfl⟩
  rw [he] at hE7 hge hinv
  rw [hns] at hL7 hlL hinv
  obtain ⟨o1, c1, o2, c2, rfl⟩ := ents_of hE7
  have hL7' := hL7
  obtain ⟨o3, c3, rfl, _⟩ := hL7
  refine ⟨_, _, _, _, _, _, _, _, _, _, rfl, fun w28 e28 => ?_⟩
  have hU8 := Blk.new e28
  refine ⟨⟨hU8.ok 0 rfl, hU8.ok 1 rfl⟩, fun w29 e29 => ?_⟩
  have e29' : w29 = w28.setCells w27.heap.size 0 [.slice o1 e.1.length c1, .slice o2 e.2.length c2] := e29
  have hU9 := hU8.all [.slice o1 e.1.length c1, .slice o2 e.2.length c2] rfl e29'
  have hc79 : Ch Non w27 w29 := (Ch.alloc (F := Non) e28).trans (Ch.sets (F := (· = w27.heap.size)) e29' rfl) (fun i hi he => by omega)
  refine ⟨_, _, _, _, _, _, ⟨hU9.cell 0 rfl, hU9.cell 1 rfl⟩, fun w30 e30 => ?_⟩
  have hc69 := hc7.andN hc79
  have hpn := hPX6.len
  obtain ⟨o11, c11, w31, r11, hP11, hS11, hc11⟩ := hPX6.add hc69 ((hE7.keepN hc79).mono (fun i _ h => by have := h.1; omega)) ((hL7'.keepN hc79).mono (fun i _ h => by have := h.1; omega)) e30 (by omega)
  refine ⟨o11, _, c11, w31, r11, k, by omega, oN + 1, _, _, past ++ [e], ns, out ++ [t'], by omega, hk2, rfl, by rw [List.length_append, hol]; rfl, hP11, fun x hx => ?_, by rw [List.length_append, hpl]; rfl, hS11, hlL, (hO6.keepN hc69).keep hc11 (fun i _ hb k => PBYA hPX6 i k hb), by rw [List.append_assoc]; exact hinv⟩
  rcases List.mem_append.1 hx with hx | hx
  · exact hgp x hx
  · rw [List.mem_singleton] at hx; subst hx; exact hge
theorem GenR.say {most : Int} (h : GenR c wt tk most ts w v w') : ∃ u : Value, v = .tuple #[u, .int .i64 (checkP c most ts)] ∧ IV w' u (if checkP c most ts = 0 then sayP c wt tk most ts else []) (fun _ => True) := by
  by_cases hk : checkP c most ts = 0
  · obtain ⟨u, hv, hu⟩ := h.yes hk
    rw [if_pos hk]
    exact ⟨u, by rw [hv, hk], hu.mono (fun _ _ _ => trivial)⟩
  · rw [if_neg hk]
    exact ⟨_, h.no hk, IV.nil _ _⟩
end
end Go.Proofs.YtbadkcnemcnhfaaGreatDoor.Gen
