/- For every model, entries and tokens: what the document's Step answers; the conditions stand in each theorem. -/
import Derived.Test.YtbadkcnemcnhfaaGreatDoorRefT
set_option linter.unusedVariables false
set_option linter.unusedSimpArgs false
namespace Go.Proofs.YtbadkcnemcnhfaaGreatDoor.RefS
open Go Go.Proofs Go.Proofs.YtbadkcnemcnhfaaGreatDoor.V Go.Proofs.YtbadkcnemcnhfaaGreatDoor.Vc Go.Proofs.YtbadkcnemcnhfaaGreatDoor.Conf Go.Proofs.YtbadkcnemcnhfaaGreatDoor.Brain Go.Proofs.YtbadkcnemcnhfaaGreatDoor.Num Go.Proofs.YtbadkcnemcnhfaaGreatDoor.Stp Go.Proofs.YtbadkcnemcnhfaaGreatDoor.RefM Go.RowKit

section
variable {w w' : World} {c : CfD} {wt : ByteArray} {v : Value} {F G : Nat → Prop} {past : List Ent}
theorem IV.get {o : Option Addr} {n cp : Nat} {xs : List Int} (h : IV w (.slice o n cp) xs F) {j : Nat} (hj : j < xs.length) : ∃ a : Addr, o = some a ∧ n = xs.length ∧ ∀ (G : Nat → Prop) (w' : World), Ch G w w' → (∀ i, i < w.heap.size → F i → ¬ G i) → w'.cell? (a.add (j * 1)) = some (.int .i64 xs[j]) := by
  obtain ⟨o2, c2, he, h1, h2, hr⟩ := h
  injection he with e1 e2 e3
  subst e1; subst e3
  have hx : (xs.map (.int .i64))[j]? = some (Value.int .i64 xs[j]) := by simp [hj]
  obtain ⟨a, ha, _, _, _⟩ := hr j _ hx
  refine ⟨a, ha, e2, fun G w' hc hd => ?_⟩
  obtain ⟨a2, ha2, _, _, hcc⟩ := (hr.keep hc hd) j _ hx
  rw [ha] at ha2; injection ha2 with ha2; subst ha2
  rw [Nat.mul_one]; exact hcc
theorem rOf_iv {u g : Value} {xs gs : List Int} (hg : IV w g gs G) (hx : IV w u xs F) (hl : xs.length ≤ 1000000) : Calls Tryz.prog i_coadjutorref13_Of #[g, u] w (Ret fun v w' => IV w' v (Norm.ofL gs xs) (New w w') ∧ Ch Non w w') := by
  obtain ⟨o, cx, rfl, _, _, hg⟩ := hg
  obtain ⟨o2, cy, rfl, _, _, hx⟩ := hx
  refine step_call (Norm.rOf_spec hg hx hl) ?_
  rintro v w1 ⟨o5, c5, rfl, hO, hc5⟩
  exact ⟨Own.iv hO, hc5⟩
theorem rPairs_iv {u g : Value} {xs gs : List Int} (hg : IV w g gs G) (hx : IV w u xs F) (ig : ∀ x ∈ gs, inI x) (hl : xs.length ≤ 1000000) : Calls Tryz.prog i_coadjutorref14_Pairs #[g, u] w (Ret fun v w' => IV w' v (Act.pairsL gs xs) (New w w') ∧ Ch Non w w') := by
  obtain ⟨o, cx, rfl, _, _, hg⟩ := hg
  obtain ⟨o2, cy, rfl, _, _, hx⟩ := hx
  refine step_call (Act.rPairs_spec hg hx ig hl) ?_
  rintro v w1 ⟨o5, c5, rfl, hO, hc5⟩
  exact ⟨Own.iv hO, hc5⟩
/-- Rows that are not of a growing entry. -/
def RX (eb : Nat) (A B : Nat → Prop) : Nat → Prop := fun i => i ≠ eb ∧ ¬ A i ∧ ¬ B i
theorem SkR.far {W : World} {eb : Nat} {Ks Vs : List (List Int)} {A B : Nat → Prop} (h : SkR W w eb Ks Vs A B) {i : Nat} (h1 : w.heap.size ≤ i) (h2 : i < w'.heap.size) : RR W w' eb A B i ∧ RX eb A B i := by
  have hs := h.ch.size
  have hn := h.n.2
  have hA : ¬ A i := fun k => by have := (h.a i k).1.2; omega
  have hB : ¬ B i := fun k => by have := (h.b i k).1.2; omega
  exact ⟨⟨⟨by omega, h2⟩, by omega, hA, hB⟩, by omega, hA, hB⟩
theorem SkR.rv {W : World} {eb : Nat} {Ks Vs : List (List Int)} {A B : Nat → Prop} (h : SkR W w eb Ks Vs A B) : ∃ (oK : Option Addr) (cK : Nat) (oV : Option Addr) (cV : Nat), Blk w eb [.slice oK Ks.length cK, .slice oV Vs.length cV] t_coadjutorref17_Entry ∧ RV w (.slice oK Ks.length cK) Ks (New W w) ∧ RV w (.slice oV Vs.length cV) Vs (New W w) := by
  obtain ⟨⟨oK, cK, uK, oV, cV, uV, h1, h3, h4, h5, h6⟩, ha, hb, hn, hch⟩ := h
  exact ⟨oK, cK, oV, cV, h1, ⟨_, _, _, rfl, h3.2.1, h3.2.2.1, h3.rd.mono (fun i _ h => (ha i h).1), h4.imp (fun u xs k => k.mono (fun i _ h => h.1))⟩, ⟨_, _, _, rfl, h5.2.1, h5.2.2.1, h5.rd.mono (fun i _ h => (hb i h).1), h6.imp (fun u xs k => k.mono (fun i _ h => h.1))⟩⟩
theorem IV.rxK {eb : Nat} {A A' B : Nat → Prop} {xs : List Int} (hx : IV w v xs (RX eb A B)) (hch : Ch (fun i => A i ∨ i = eb) w w') (hA : ∀ i, A' i → A i ∨ w.heap.size ≤ i) : IV w' v xs (RX eb A' B) :=
  ((hx.mono (fun i hi h => (⟨h, hi⟩ : RX eb A B i ∧ i < w.heap.size))).keep hch (fun i _ h k => k.elim h.1.2.1 h.1.1)).mono (fun i _ h => ⟨h.1.1, fun k => by
    rcases hA i k with k | k
    · exact h.1.2.1 k
    · have := h.2; omega, h.1.2.2⟩)
theorem IV.rxV {eb : Nat} {A B B' : Nat → Prop} {xs : List Int} (hx : IV w v xs (RX eb A B)) (hch : Ch (fun i => B i ∨ i = eb) w w') (hB : ∀ i, B' i → B i ∨ w.heap.size ≤ i) : IV w' v xs (RX eb A B') :=
  ((hx.mono (fun i hi h => (⟨h, hi⟩ : RX eb A B i ∧ i < w.heap.size))).keep hch (fun i _ h k => k.elim h.1.2.2 h.1.1)).mono (fun i _ h => ⟨h.1.1, h.1.2.1, fun k => by
    rcases hB i k with k | k
    · exact h.1.2.2 k
    · have := h.2; omega⟩)
set_option maxHeartbeats 2000000 in
theorem rStep_spec (m : Md c wt) (hp : PV w v past F) (token : Int) (hpl : past.length ≤ 1000000) : Calls Tryz.prog i_coadjutorref17_Step #[mdE c wt, v, .int .i64 token] w (Ret (StepR c wt past token w)) := by
  have hp' := hp
  obtain ⟨po, pc, ps, rfl, _⟩ := hp
  have hctx := m.ok.2.2.2.2.2.1
  have hbl := m.ok.2.2.2.1
  have hdm := m.ok.2.1
  have hvc := m.ok.1
  have hhd := m.ok.2.2.2.2.1
  refine coadjutorref17_Step.calls _ _ _ _ _ _ _ _ _ _ _ ?_
  unfold coadjutorref17_Step.vc
  intro w1 e1 w2 e2
  have hM1 := Blk.new e1
  have hE2 := Blk.new e2
  have hc1 : Ch Non w w1 := Ch.alloc e1
  have hc12 : Ch Non w1 w2 := Ch.alloc e2
  have hs1 := hM1.lt
  have hs2 := hE2.lt
  have hM2 := hM1.keepN hc12
  have hc02 := hc1.andN hc12
  have hp2 := hp'.keepN hc02
  refine ⟨fun i k w' => Ch Non w2 w' ∧ ∃ j : Nat, i = j ∧ j ≤ past.length ∧ k = past.length - j ∧ ∀ e ∈ past.take j, goodE c e, ⟨_, Ch.refl _ _, 0, rfl, Nat.zero_le _, rfl, fun e he => by simp at he⟩, ?_⟩
  rintro jk i k w3 ⟨hc3, j, rfl, hj, rfl, hgd⟩
  have hM3 := hM2.keepN hc3
  refine ⟨dT fun hlt => ?_, dF fun hge => ?_⟩
  · have hlt : j < past.length := by omega
    obtain ⟨a, o1, c1', o2, c2', rfl, _, hE, hcell⟩ := PV.get (hp2.keepN hc3) hlt
    have hmem := List.getElem_mem hlt
    have hsn := take_snoc past j hlt
    refine ⟨fun w' => Ch Non w3 w', fun w4 e4 => ⟨Ch.drew e4, _, _, _, _, _, _, _, ⟨fun w' k => (hM3.keepN k).cell 0 rfl, fun w' k => (hM3.keepN k).cell 1 rfl, fun w' k => (hM3.keepN k).cell 2 rfl, fun w' k => (hM3.keepN k).cell 3 rfl, fun w' k => (hM3.keepN k).cell 4 rfl, fun w' k => (hM3.keepN k).cell 5 rfl, fun w' k => (hM3.keepN k).cell 6 rfl⟩, ⟨by omega, by omega⟩, _, _, _, _, _, _, ⟨fun w' k => (hcell w' k).1, fun w' k => (hcell w' k).2⟩, ?_⟩⟩
    generalize past[j] = e at hE hcell hmem hsn
    have hd4 : Ch Non w3 w4 := Ch.drew e4
    refine step_call (rGoodE_spec (pr := (.slice o1 e.1.length c1', .slice o2 e.2.length c2')) (e := e) m (hE.keepN hd4)) ?_
    rintro v w7 ⟨bv, rfl, hb, hc7⟩
    have hcx := (hc3.andN hd4).andN hc7
    refine ⟨_, rfl, hd4.andN hc7, fun hn => ?_, fun hy => ?_⟩
    · have hbad : ¬ (∀ e ∈ past, goodE c e) := fun k => by rw [hb.2 (k e hmem)] at hn; cases hn
      have hE9 := hE2.keepN hcx
      refine ⟨⟨hE9.ok 0 rfl, hE9.ok 1 rfl⟩, fun w8 e8 => ?_⟩
      have e8' : w8 = _ := e8
      have hE8 := (hE9.set (o := 0) rfl).set e8'
      have hc8 : Ch (· = w1.heap.size) _ w8 := Ch.set2 (F := (· = w1.heap.size)) e8 rfl rfl
      have hcf : Ch Non w w8 := (hc02.andN hcx).trans hc8 (fun i hi he => by omega)
      refine ⟨_, _, _, _, _, _, ⟨hE8.cell 0 rfl, hE8.cell 1 rfl⟩, ?_⟩
      exact ⟨hcf, fun _ => rfl, fun k => absurd k hbad, fun k => absurd k hbad, fun k => absurd k hbad⟩
    · have hy : bv = true := by simpa using hy
      exact ⟨past.length - (j + 1), by omega, hcx, j + 1, by rw [wrap_id (by omega) (by omega)]; rfl, by omega, rfl, fun e' he => by
        rw [hsn] at he
        rcases List.mem_append.1 he with he | he
        · exact hgd e' he
        · rw [List.mem_singleton] at he; subst he; exact hb.1 hy⟩
  have hje : j = past.length := by omega
  subst hje
  rw [List.take_length] at hgd
  have hgood := hgd
  have hcx := hc3
  refine ⟨dT fun htn => ?_, dF fun htn => ⟨_, hM3.cell 0 rfl, dT fun htv => ?_, dF fun htv => ⟨_, hM3.cell 5 rfl, dT fun hlong => ?_, dF fun hlong => ?_⟩⟩⟩
  · have htok : ¬ (0 ≤ token ∧ token < c.vocab) := by omega
    have hE9 := hE2.keepN hcx
    refine ⟨⟨hE9.ok 0 rfl, hE9.ok 1 rfl⟩, fun w8 e8 => ?_⟩
    have e8' : w8 = _ := e8
    have hE8 := (hE9.set (o := 0) rfl).set e8'
    have hc8 : Ch (· = w1.heap.size) _ w8 := Ch.set2 (F := (· = w1.heap.size)) e8 rfl rfl
    have hcf : Ch Non w w8 := (hc02.andN hcx).trans hc8 (fun i hi he => by omega)
    refine ⟨_, _, _, _, _, _, ⟨hE8.cell 0 rfl, hE8.cell 1 rfl⟩, ?_⟩
    exact ⟨hcf, fun k => absurd hgood k, fun _ _ => rfl, fun _ k => absurd k htok, fun _ k => absurd k htok⟩
  · have htok : ¬ (0 ≤ token ∧ token < c.vocab) := by omega
    have hE9 := hE2.keepN hcx
    refine ⟨⟨hE9.ok 0 rfl, hE9.ok 1 rfl⟩, fun w8 e8 => ?_⟩
    have e8' : w8 = _ := e8
    have hE8 := (hE9.set (o := 0) rfl).set e8'
    have hc8 : Ch (· = w1.heap.size) _ w8 := Ch.set2 (F := (· = w1.heap.size)) e8 rfl rfl
    have hcf : Ch Non w w8 := (hc02.andN hcx).trans hc8 (fun i hi he => by omega)
    refine ⟨_, _, _, _, _, _, ⟨hE8.cell 0 rfl, hE8.cell 1 rfl⟩, ?_⟩
    exact ⟨hcf, fun k => absurd hgood k, fun _ _ => rfl, fun _ k => absurd k htok, fun _ k => absurd k htok⟩
  · have htok : 0 ≤ token ∧ token < c.vocab := by omega
    have hlong : ¬ (past.length : Int) < c.context := by omega
    have hE9 := hE2.keepN hcx
    refine ⟨⟨hE9.ok 0 rfl, hE9.ok 1 rfl⟩, fun w8 e8 => ?_⟩
    have e8' : w8 = _ := e8
    have hE8 := (hE9.set (o := 0) rfl).set e8'
    have hc8 : Ch (· = w1.heap.size) _ w8 := Ch.set2 (F := (· = w1.heap.size)) e8 rfl rfl
    have hcf : Ch Non w w8 := (hc02.andN hcx).trans hc8 (fun i hi he => by omega)
    refine ⟨_, _, _, _, _, _, ⟨hE8.cell 0 rfl, hE8.cell 1 rfl⟩, ?_⟩
    exact ⟨hcf, fun k => absurd hgood k, fun _ k => absurd htok k, fun _ _ _ => rfl, fun _ _ k => absurd k hlong⟩
  have htok : 0 ≤ token ∧ token < c.vocab := by omega
  have hlong : (past.length : Int) < c.context := by omega
  obtain ⟨tok, rfl⟩ : ∃ t : Nat, token = t := ⟨token.toNat, by omega⟩
  have hc03 := hc02.andN hc3
  have hsd0 : (side c ((0 : Nat) : Int)).1 = c.vocab := rfl
  have hsd1 : (side c ((1 : Nat) : Int)).1 = c.context := rfl
  refine ⟨_, _, _, _, _, _, _, ⟨hM3.cell 0 rfl, hM3.cell 1 rfl, hM3.cell 2 rfl, hM3.cell 3 rfl, hM3.cell 4 rfl, hM3.cell 5 rfl, hM3.cell 6 rfl⟩, step_call (rRow_spec w3 m.ok m.sz (okPB_0 c) (q := tok) (by rw [hsd0]; omega)) ?_⟩
  rintro v w12 ⟨o12, c12, rfl, hg12⟩
  have hM12 := hM3.keepN hg12.2
  refine ⟨_, _, _, _, rfl, _, _, _, _, _, _, _, ⟨hM12.cell 0 rfl, hM12.cell 1 rfl, hM12.cell 2 rfl, hM12.cell 3 rfl, hM12.cell 4 rfl, hM12.cell 5 rfl, hM12.cell 6 rfl⟩, step_call (rRow_spec w12 m.ok m.sz (okPB_1 c) (q := past.length) (by rw [hsd1]; omega)) ?_⟩
  rintro v w13 ⟨o13, c13, rfl, hg13⟩
  have hM13 := hM12.keepN hg13.2
  have hc313 : Ch Non w3 w13 := hg12.2.andN hg13.2
  refine ⟨_, _, _, _, rfl, fun w14 e14 => ?_⟩
  have g0 : Gr Non w13 w14 t_int 1 (some ⟨w13.heap.size, 0, none⟩) 0 0 [] := Gr.made0 (Ch.refl _ _) e14
  have hbeg := begin_len m (k := past.length) hlong htok
  obtain ⟨L, hL⟩ : ∃ L : List Int, beginP c wt past.length (tok : Int) = L := ⟨_, rfl⟩
  have hivt := (Gr.iv hg12).keepN hg13.2
  have hivp := Gr.iv hg13
  have hr8t : ∀ x ∈ rowP c wt 0 0 (tok : Int), -128 ≤ x ∧ x ≤ 127 := row_8
  have hr8p : ∀ x ∈ rowP c wt 1 0 (past.length : Int), -128 ≤ x ∧ x ≤ 127 := row_8
  have hLd : L = List.zipWith beginE (rowP c wt 0 0 (tok : Int)) (rowP c wt 1 0 (past.length : Int)) := hL.symm
  have hs13 := hc313.size
  have hivt := hivt.mono (G := fun i => i < w13.heap.size) (fun i hi _ => hi)
  have hivp := hivp.mono (G := fun i => i < w13.heap.size) (fun i hi _ => hi)
  rw [hL] at hbeg
  obtain ⟨hb1, hb2, hb3⟩ := hbeg
  clear hg12 hg13
  generalize rowP c wt 0 0 (tok : Int) = tr at hivt hr8t hLd hb1 ⊢
  generalize rowP c wt 1 0 (past.length : Int) = pr at hivp hr8p hLd hb2 ⊢
  refine ⟨fun A n C i k w' => ∃ j : Nat, i = j ∧ n = j ∧ j ≤ L.length ∧ k = L.length - j ∧ Gr Non w13 w' t_int 1 A j C ((L.take j).map (.int .i64)), ⟨_, 0, rfl, rfl, Nat.zero_le _, rfl, g0⟩, ?_⟩
  rintro jk xA xN xC i k w15 ⟨j, rfl, rfl, hj, rfl, hg⟩
  have hM15 := hM13.keepN hg.2
  refine ⟨_, hM15.cell 1 rfl, dT fun hlt => ?_, dF fun hge => ?_⟩
  · have hlt : xN < L.length := by omega
    have h1 : xN < tr.length := by omega
    have h2 : xN < pr.length := by omega
    obtain ⟨a1, rfl, _, hcell1⟩ := IV.get (hivt.keepN hg.2) h1
    obtain ⟨a2, rfl, _, hcell2⟩ := IV.get (hivp.keepN hg.2) h2
    have hLa : L[xN] = beginE tr[xN] pr[xN] := by subst hLd; simp
    have b1 := hr8t _ (List.getElem_mem h1)
    have b2 := hr8p _ (List.getElem_mem h2)
    refine ⟨fun w' => Ch (fun i => w13.heap.size ≤ i) w15 w', fun w16 e16 => ⟨Ch.drew e16, ⟨by omega, by omega⟩, _, fun w' k => hcell1 _ w' k (fun i _ hi hk => by omega), ⟨by omega, by omega⟩, _, fun w' k => hcell2 _ w' k (fun i _ hi hk => by omega), ?_⟩⟩
    rw [wrap_id (x := tr[xN] + pr[xN]) (by omega) (by omega), wrap_id (x := 16 * (tr[xN] + pr[xN])) (by omega) (by omega)]
    have hd16 : Ch Non w15 w16 := Ch.drew e16
    refine step_call (Num.rSat_spec w16 _) ?_
    rintro v w19 ⟨rfl, rfl⟩
    refine ⟨_, rfl, Ch.drew e16, fun w20 e20 => ⟨(Ch.drew e16).andN (Ch.alloc e20), ?_⟩⟩
    obtain ⟨A', C', w21, hr, hg21, hch21⟩ := (hg.keepN hd16).next el_S_int t_S_int hlt (by omega) e20 (by rw [hLa]; rfl) rfl (by omega)
    exact ⟨A', _, C', w21, hr, hd16.any.same (hch21.mono (fun i _ h => h.1)), L.length - (xN + 1), by omega, xN + 1, by rw [wrap_id (by omega) (by omega)]; rfl, rfl, hlt, rfl, hg21⟩
  have hxe : xN = L.length := by omega
  subst hxe
  rw [List.take_length] at hg
  clear hivt hivp hLd g0
  have hc015 : Ch Non w w15 := (hc03.andN hc313).andN hg.2
  have hp15 := hp'.keepN hc015
  have hE15 : Blk w15 w1.heap.size [.slice none 0 0, .slice none 0 0] t_coadjutorref17_Entry := ((hE2.keepN hc3).keepN hc313).keepN hg.2
  have hx15 : IV w15 (.slice xA L.length xC) L (fun i => i < w15.heap.size) := (Gr.iv hg).mono (fun i hi _ => hi)
  intro w22 e22
  have hEb := Blk.new e22
  have hEbl := hEb.lt
  refine ⟨⟨hEb.ok 0 rfl, hEb.ok 1 rfl⟩, fun w23 e23 => ?_⟩
  have e23' : w23 = _ := e23
  have hE23 := (hEb.set (o := 0) rfl).set e23'
  have hc2223 : Ch (· = w15.heap.size) w22 w23 := Ch.set2 (F := (· = w15.heap.size)) e23 rfl rfl
  have hc1523 : Ch Non w15 w23 := (Ch.alloc (F := Non) e22).trans hc2223 (fun i hi he => by omega)
  have hs23 : w23.heap.size = w22.heap.size := by subst e23; simp [World.setCell]
  have hsk0 : SkR w15 w23 w15.heap.size [] [] Non Non := ⟨⟨none, 0, [], none, 0, [], hE23, V.Own.nil _ _ _ _, .nil, V.Own.nil _ _ _ _, .nil⟩, fun i h => h.elim, fun i h => h.elim, ⟨Nat.le_refl _, by omega⟩, hc1523⟩
  have hm15 := hM15.lt
  have hr15 := hE15.lt
  have hs15 := hc015.size
  have hmlt : w.heap.size < w1.heap.size := hs1
  have hW115 : w1.heap.size < w15.heap.size := hr15
  obtain ⟨mb, hmb⟩ : ∃ mb : Nat, mb = w.heap.size := ⟨_, rfl⟩
  obtain ⟨rb, hrb⟩ : ∃ rb : Nat, rb = w1.heap.size := ⟨_, rfl⟩
  obtain ⟨eb, heb⟩ : ∃ eb : Nat, eb = w15.heap.size := ⟨_, rfl⟩
  have hwk0 : WkOk c 0 ⟨L, [], []⟩ := ⟨hb3, ⟨rfl, fun r hr => (by cases hr)⟩, ⟨rfl, fun r hr => (by cases hr)⟩⟩
  have hstS : stepS c wt past (tok : Int) = blocksTo c wt past ⟨L, [], []⟩ c.blocks.toNat := by unfold stepS; rw [hL]
  have hall := blocks_ok m hgood hwk0
  rw [← hmb] at hM15 hm15 hs15 hmlt ⊢
  rw [← hrb] at hE15 hr15 hW115 hmlt ⊢
  rw [← heb] at hsk0 ⊢
  have hx23 : IV w23 (.slice xA L.length xC) L (RX eb Non Non) := (hx15.keepN hc1523).mono (fun i _ hi => ⟨by omega, id, id⟩)
  clear hE23 hc2223 e23' e23 hEb e22 hM1 hM2 hM3 hM12 hM13 hE2 hx15 hg hgd hp2 hp' hc03 hc12 hc1 hcx e1 e2 e14
  refine ⟨fun xA xN xC b k w' => ∃ (j : Nat) (A B : Nat → Prop), b = j ∧ (j : Int) ≤ c.blocks ∧ k = c.blocks.toNat - j ∧ SkR w15 w' eb (blocksTo c wt past ⟨L, [], []⟩ j).K (blocksTo c wt past ⟨L, [], []⟩ j).V A B ∧ IV w' (.slice xA xN xC) (blocksTo c wt past ⟨L, [], []⟩ j).x (RX eb A B), ⟨_, 0, Non, Non, rfl, by omega, rfl, hsk0, hx23⟩, ?_⟩
  clear hsk0 hx23
  rintro jk xA xN xC b k w24 ⟨j, A, B, rfl, hj, rfl, hsk, hx⟩
  have hM24 := hM15.keepN hsk.ch
  refine ⟨_, hM24.cell 3 rfl, dT fun hlt => ?_, dF fun hge => ?_⟩
  · have hlt : (j : Int) < c.blocks := by omega
    have hwk := hall j hj
    obtain ⟨s, hsd⟩ : ∃ s, blocksTo c wt past ⟨L, [], []⟩ j = s := ⟨_, rfl⟩
    have hsn : blocksTo c wt past ⟨L, [], []⟩ (j + 1) = thinkP c wt j (lookP c wt past j s) := by rw [← hsd]; rfl
    rw [hsd] at hsk hx hwk
    refine ⟨_, _, _, _, _, _, _, ⟨hM24.cell 0 rfl, hM24.cell 1 rfl, hM24.cell 2 rfl, hM24.cell 3 rfl, hM24.cell 4 rfl, hM24.cell 5 rfl, hM24.cell 6 rfl⟩, step_call (rgains_spec m (okPB_b (p := 2) (b := j) (by omega) (by omega) hlt)) ?_⟩
    rintro v w25 ⟨hv25, hc25⟩
    have hv25' := hv25
    obtain ⟨o25, c25, rfl, _⟩ := hv25
    have hxl : s.x.length ≤ 1000000 := by rw [hwk.x]; omega
    refine ⟨_, _, _, rfl, step_call (rOf_iv hv25' (hx.keepN hc25) hxl) ?_⟩
    rintro v w26 ⟨hv26, hc26⟩
    have hv26' : IV w26 v (normP c wt 2 j s.x) (New w25 w26) := hv26
    have hn2 := norm2_len m hlt (p := 2) (.inl rfl) hwk.x
    clear hv26
    obtain ⟨hN, hhN⟩ : ∃ l, normP c wt 2 j s.x = l := ⟨_, rfl⟩
    rw [hhN] at hv26' hn2
    have hv26 := hv26'
    obtain ⟨o26, c26, rfl, _⟩ := hv26
    have hc2426 := hc25.andN hc26
    have hs25 := hc25.size
    have hs26 := hc26.size
    have hsk26 := hsk.keepN hc2426
    have hx26 := hx.keepN hc2426
    have hvh26 := hv26'.mono (G := RX eb A B) (fun i hi h => (hsk.far (w' := w26) (by have := h.1; omega) hi).2)
    have hM26 := hM24.keepN hc2426
    have hmA : ¬ A mb := fun k => by have := (hsk.a _ k).1.1; omega
    have hmB : ¬ B mb := fun k => by have := (hsk.b _ k).1.1; omega
    have hmE : ¬ mb = eb := by omega
    have hebA : ¬ A eb := fun k => (hsk.a _ k).2.1 rfl
    have hebB : ¬ B eb := fun k => (hsk.b _ k).2 rfl
    obtain ⟨oK, cK, oV, cV, hEb26, _, _⟩ := hsk26.rv
    have hKl : s.K.length = j := hwk.K.1
    have hVl : s.V.length = j := hwk.V.1
    have hdl : ∀ p : Nat, (p = 3 ∨ p = 4 ∨ p = 5 ∨ p = 6) → ((hN.length : Nat) : Int) = (side c (p : Nat)).2 := fun p hp => by
      rw [hn2]; rcases hp with rfl | rfl | rfl | rfl <;> (show ((c.dim.toNat : Nat) : Int) = c.dim; omega)
    refine ⟨_, _, _, rfl, fun w' => Ch A w26 w', fun w27 e27 => ⟨Ch.drew e27, _, _, _, fun w' k => (hEb26.keep k hebA).cell 0 rfl, _, _, _, _, _, _, _, ⟨fun w' k => (hM26.keep k hmA).cell 0 rfl, fun w' k => (hM26.keep k hmA).cell 1 rfl, fun w' k => (hM26.keep k hmA).cell 2 rfl, fun w' k => (hM26.keep k hmA).cell 3 rfl, fun w' k => (hM26.keep k hmA).cell 4 rfl, fun w' k => (hM26.keep k hmA).cell 5 rfl, fun w' k => (hM26.keep k hmA).cell 6 rfl⟩, ?_⟩⟩
    have hd27 : Ch Non w26 w27 := Ch.drew e27
    refine step_call (rtimes_spec m (okPB_b (p := 4) (b := j) (by omega) (by omega) hlt) (hv26'.keepN hd27) (hdl 4 (by omega))) ?_
    rintro v w30 ⟨hv30, hc30⟩
    have hv30' := hv30
    obtain ⟨o30, c30, rfl, _⟩ := hv30
    have hc2630 := hd27.andN hc30
    have hsk30 := hsk26.keepN hc2630
    have hs27 := hd27.size
    refine ⟨_, _, _, rfl, hc2630.any, fun w31 e31 => ⟨(hc2630.andN (Ch.alloc e31)).any, ?_⟩⟩
    obtain ⟨o32, c32, w32, r32, hch32, hEb32, hset⟩ := hsk30.pushK (hv30'.mono (fun i hi h => (hsk26.far (w' := w30) (by have := h.1; omega) hi).1)) (by omega) (hEb26.keepN hc2630) e31
    refine ⟨o32, _, c32, w32, r32, hc2630.any.same hch32, hEb32.ok 0 rfl, fun w33 e33 => ?_⟩
    obtain ⟨A2, hsk33, hch33, hA2⟩ := hset w33 e33
    have hx33 := IV.rxK (hx26.keepN hc2630) hch33 hA2
    have hvh33 := IV.rxK (hvh26.keepN hc2630) hch33 hA2
    have hM33 := (hM26.keepN hc2630).keep hch33 (fun k => k.elim hmA hmE)
    obtain ⟨oK2, cK2, oV2, cV2, hEb33, _, _⟩ := hsk33.rv
    clear r32 hset e33 e31 hEb32 hch32 hv30' hx26 hvh26 hv26' hEb26
    refine ⟨fun w' => Ch B w33 w', fun w34 e34 => ⟨Ch.drew e34, _, _, _, fun w' k => (hEb33.keep k hebB).cell 1 rfl, _, _, _, _, _, _, _, ⟨fun w' k => (hM33.keep k hmB).cell 0 rfl, fun w' k => (hM33.keep k hmB).cell 1 rfl, fun w' k => (hM33.keep k hmB).cell 2 rfl, fun w' k => (hM33.keep k hmB).cell 3 rfl, fun w' k => (hM33.keep k hmB).cell 4 rfl, fun w' k => (hM33.keep k hmB).cell 5 rfl, fun w' k => (hM33.keep k hmB).cell 6 rfl⟩, ?_⟩⟩
    have hd34 : Ch Non w33 w34 := Ch.drew e34
    refine step_call (rtimes_spec m (okPB_b (p := 5) (b := j) (by omega) (by omega) hlt) (hvh33.keepN hd34) (hdl 5 (by omega))) ?_
    rintro v w37 ⟨hv37, hc37⟩
    have hv37' := hv37
    obtain ⟨o37, c37, rfl, _⟩ := hv37
    have hc3337 := hd34.andN hc37
    have hsk37 := hsk33.keepN hc3337
    have hs34 := hd34.size
    refine ⟨_, _, _, rfl, hc3337.any, fun w38 e38 => ⟨(hc3337.andN (Ch.alloc e38)).any, ?_⟩⟩
    obtain ⟨o39, c39, w39, r39, hch39, hEb39, hset⟩ := hsk37.pushV (hv37'.mono (fun i hi h => (hsk33.far (w' := w37) (by have := h.1; omega) hi).1)) (by omega) (hEb33.keepN hc3337) e38
    refine ⟨o39, _, c39, w39, r39, hc3337.any.same hch39, hEb39.ok 1 rfl, fun w40 e40 => ?_⟩
    obtain ⟨B2, hsk40', hch40, hB2⟩ := hset w40 e40
    have hx40 := IV.rxV (hx33.keepN hc3337) hch40 hB2
    have hvh40 := IV.rxV (hvh33.keepN hc3337) hch40 hB2
    have hM40 := (hM33.keepN hc3337).keep hch40 (fun k => k.elim hmB hmE)
    have hsk40 : SkR w15 w40 eb (lookK c wt j s) (lookV c wt j s) A2 B2 := by unfold lookK lookV; rw [hhN]; exact hsk40'
    have hp40 := hp15.keepN hsk40.ch
    obtain ⟨oK3, cK3, oV3, cV3, hEb40, hRK, hRV⟩ := hsk40.rv
    have hlok := lookK_ok m hlt hwk
    clear r39 hset e40 e38 hEb39 hch39 hv37' hx33 hvh33 hsk40' hEb33 hsk33 hsk37 hsk30 hsk26 hM33 hM26
    intro w41 e41 w42 e42
    have hc41 : Ch Non w40 w41 := Ch.alloc e41
    have hc42 : Ch Non w41 w42 := Ch.alloc e42
    have hs41 : w41.heap.size = w40.heap.size + 1 := by subst e41; simp
    have hs42 : w42.heap.size = w41.heap.size + 1 := by subst e42; simp
    have hK41 : V.Own w41 t_S_int 1 (some ⟨w40.heap.size, 0, none⟩) 0 0 [] (· = w40.heap.size) := V.Own.made e41 rfl (Nat.zero_le _) rfl
    have hV42 : V.Own w42 t_S_int 1 (some ⟨w41.heap.size, 0, none⟩) 0 0 [] (· = w41.heap.size) := V.Own.made e42 rfl (Nat.zero_le _) rfl
    obtain ⟨kss, hkss⟩ : ∃ l, l = past.map (fun e => e.1.getD j []) := ⟨_, rfl⟩
    obtain ⟨vss, hvss⟩ : ∃ l, l = past.map (fun e => e.2.getD j []) := ⟨_, rfl⟩
    have hkl : kss.length = past.length := by rw [hkss, List.length_map]
    have hvl : vss.length = past.length := by rw [hvss, List.length_map]
    refine ⟨fun kA kN kC vA vN vC i k w' => ∃ (t : Nat) (AK AV : Nat → Prop), i = t ∧ kN = t ∧ vN = t ∧ t ≤ past.length ∧ k = past.length - t ∧ KV w40 w' kA kC (kss.take t) vA vC (vss.take t) AK AV, ⟨_, 0, (· = w40.heap.size), (· = w41.heap.size), rfl, rfl, rfl, Nat.zero_le _, rfl, ⟨[], hK41.keepN hc42, .nil⟩, ⟨[], hV42, .nil⟩, fun i h => ⟨⟨by omega, by omega⟩, by omega⟩, fun i h => ⟨by omega, by omega⟩, hc41.andN hc42⟩, ?_⟩
    clear hK41 hV42
    rintro jk kA kN kC vA vN vC i k w43 ⟨t, AK, AV, rfl, rfl, rfl, ht, rfl, hkv⟩
    refine ⟨dT fun hlt3 => ?_, dF fun hge3 => ?_⟩
    · have hlt3 : vN < past.length := by omega
      have hlk : (kss.take vN).length = vN := by rw [List.length_take]; omega
      have hlv : (vss.take vN).length = vN := by rw [List.length_take]; omega
      obtain ⟨a, o1, c1', o2, c2', rfl, _, hE, hcell⟩ := PV.get hp40 hlt3
      have hhas := good_has (hgood _ (List.getElem_mem hlt3)) (b := j) (by omega)
      have hks : kss[vN]'(by omega) = past[vN].1[j]'hhas.1 := by subst hkss; simp [hhas.1]
      have hvs : vss[vN]'(by omega) = past[vN].2[j]'hhas.2.1 := by subst hvss; simp [hhas.2.1]
      obtain ⟨ra, ro, rc, rfl, _, hri, hrc⟩ := RV.get hE.1 hhas.1
      obtain ⟨va, vo, vc, rfl, _, hvi, hvc2⟩ := RV.get hE.2 hhas.2.1
      have hsk1 := take_snoc kss vN (by omega)
      have hsv1 := take_snoc vss vN (by omega)
      rw [hks] at hsk1
      rw [hvs] at hsv1
      have hb1 := hhas.1
      have hb2 := hhas.2.1
      refine ⟨⟨by omega, by omega⟩, _, _, _, (hcell w43 hkv.ch).1, ⟨by omega, by omega⟩, _, _, _, hrc Non w43 hkv.ch (fun _ _ _ => id), fun w44 e44 => ?_⟩
      obtain ⟨o', c', w45, r45, hkv45, _⟩ := (hkv.keepN (Ch.alloc e44)).pushK (hri.mono (fun _ _ _ => trivial)) (Blk.new e44) (by omega)
      rw [hlk] at r45
      refine ⟨o', _, c', w45, r45, ⟨by omega, by omega⟩, _, _, _, (hcell w45 hkv45.ch).2, ⟨by omega, by omega⟩, _, _, _, hvc2 Non w45 hkv45.ch (fun _ _ _ => id), fun w46 e46 => ?_⟩
      obtain ⟨o2', c2'', w47, r47, hkv47, _⟩ := (hkv45.keepN (Ch.alloc e46)).pushV (hvi.mono (fun _ _ _ => trivial)) (Blk.new e46) (by omega)
      rw [hlv] at r47
      rw [← hsk1, ← hsv1] at hkv47
      exact ⟨o2', _, c2'', w47, r47, past.length - (vN + 1), by omega, vN + 1, _, _, by rw [wrap_id (by omega) (by omega)]; rfl, rfl, rfl, hlt3, rfl, hkv47⟩
    have hte : vN = past.length := by omega
    subst hte
    rw [List.take_of_length_le (by omega), List.take_of_length_le (by omega)] at hkv
    obtain ⟨rk, hrk⟩ : ∃ l, l = times c wt 4 j hN := ⟨_, rfl⟩
    obtain ⟨rv, hrv⟩ : ∃ l, l = times c wt 5 j hN := ⟨_, rfl⟩
    obtain ⟨q, hq⟩ : ∃ l, l = times c wt 3 j hN := ⟨_, rfl⟩
    have hKj : (lookK c wt j s).length = j + 1 := hlok.1.1
    have hVj : (lookV c wt j s).length = j + 1 := hlok.2.1
    have hKg : (lookK c wt j s).getD j [] = rk := by rw [hrk, ← hhN]; exact snoc_getD _ _ hKl
    have hVg : (lookV c wt j s).getD j [] = rv := by rw [hrv, ← hhN]; exact snoc_getD _ _ hVl
    have hKe : (lookK c wt j s)[j]'(by omega) = rk := by rw [← hKg]; simp [hKj]
    have hVe : (lookV c wt j s)[j]'(by omega) = rv := by rw [← hVg]; simp [hVj]
    have hok : LkOk c kss vss rk rv q := ⟨by omega, by omega, fun x hx => by
      rcases List.mem_append.1 hx with hx | hx
      · subst hkss
        obtain ⟨e, he, rfl⟩ := List.mem_map.1 hx
        exact (good_has (hgood e he) (b := j) (by omega)).2.2.1
      · rw [List.mem_singleton] at hx; subst hx; rw [← hKe]; exact (hlok.1.2 _ (List.getElem_mem _)).1, fun x hx => by
      rcases List.mem_append.1 hx with hx | hx
      · subst hvss
        obtain ⟨e, he, rfl⟩ := List.mem_map.1 hx
        exact (good_has (hgood e he) (b := j) (by omega)).2.2.2
      · rw [List.mem_singleton] at hx; subst hx; rw [← hVe]; exact (hlok.2.2 _ (List.getElem_mem _)).1, by rw [hq]; exact (timesD_len m hlt (p := 3) (by omega) hn2).1⟩
    have hlook : lookR c (kss ++ [rk]) (vss ++ [rv]) q c.heads.toNat = seenTo c (past ++ [(lookK c wt j s, lookV c wt j s)]) j q c.heads.toNat := by
      rw [← look_seen, hkss, hvss, List.map_append, List.map_append, ← hKg, ← hVg]; rfl
    obtain ⟨ka, ko, kc, rfl, _, hki, hkc⟩ := RV.get hRK (j := j) (by omega)
    obtain ⟨va, vo, vc, rfl, _, hvi, hvc2⟩ := RV.get hRV (j := j) (by omega)
    rw [hKe] at hki hkc
    rw [hVe] at hvi hvc2
    have hki := hki.mono (G := fun _ => True) (fun _ _ _ => trivial)
    have hvi := hvi.mono (G := fun _ => True) (fun _ _ _ => trivial)
    have hs43 := hkv.ch.size
    refine ⟨fun sA sN sC w' => LkJ c kss vss rk rv q w40 (.slice sA sN sC) w', ⟨fun w' => Ch Non w40 w', fun w48 e48 => ⟨hkv.ch.andN (Ch.drew e48), _, _, _, _, _, _, _, ⟨fun w' k => (hM40.keepN k).cell 0 rfl, fun w' k => (hM40.keepN k).cell 1 rfl, fun w' k => (hM40.keepN k).cell 2 rfl, fun w' k => (hM40.keepN k).cell 3 rfl, fun w' k => (hM40.keepN k).cell 4 rfl, fun w' k => (hM40.keepN k).cell 5 rfl, fun w' k => (hM40.keepN k).cell 6 rfl⟩, _, _, _, _, _, _, _, ⟨fun w' k => (hM40.keepN k).cell 0 rfl, fun w' k => (hM40.keepN k).cell 1 rfl, fun w' k => (hM40.keepN k).cell 2 rfl, fun w' k => (hM40.keepN k).cell 3 rfl, fun w' k => (hM40.keepN k).cell 4 rfl, fun w' k => (hM40.keepN k).cell 5 rfl, fun w' k => (hM40.keepN k).cell 6 rfl⟩, _, _, _, fun w' k => (hEb40.keepN k).cell 0 rfl, ⟨by omega, by omega⟩, _, _, _, fun w' k => hkc Non w' k (fun _ _ _ => id), _, _, _, fun w' k => (hEb40.keepN k).cell 1 rfl, ⟨by omega, by omega⟩, _, _, _, fun w' k => hvc2 Non w' k (fun _ _ _ => id), ?_⟩⟩, ?_⟩
    · have hkv48 := hkv.keepN (Ch.drew e48)
      have hB1 : ∀ i, w48.heap.size ≤ i → ¬ AK i ∧ ¬ AV i := fun i hi => ⟨fun k => by have := (hkv48.ka i k).1.2; omega, fun k => by have := (hkv48.va i k).2; omega⟩
      have tq : ∀ wq, Ch Non w48 wq → Calls Tryz.prog i_coadjutorref17_times #[mdE c wt, .int .i64 (3 : Nat), .int .i64 j, .slice o26 hN.length c26, .int .i64 6] wq (Ret fun u w' => (∃ (o : Option Addr) (cp : Nat), u = .slice o q.length cp) ∧ IV w' u q (fun i => w48.heap.size ≤ i) ∧ Ch Non wq w') := fun wq hcq => by
        refine step_call (rtimes_spec m (okPB_b (p := 3) (b := j) (by omega) (by omega) hlt) (hvh40.keepN (hkv48.ch.andN hcq)) (hdl 3 (by omega))) ?_
        rintro u w' ⟨hi, hc⟩
        have hi' := hi
        obtain ⟨o, cp, rfl, _⟩ := hi
        have := hcq.size
        rw [hq]
        exact ⟨⟨o, cp, rfl⟩, hi'.mono (fun i _ h => by have := h.1; omega), hc⟩
      have h40 := hkv48.ch
      have hR : ∀ (o : Option Addr) (n cp : Nat) (w' : World), LkJ c kss vss rk rv q w40 (.slice o n cp) w' → ∃ (A : Option Addr) (N C : Nat), Value.slice o n cp = .slice A N C ∧ Ch Non w40 w' ∧ LkJ c kss vss rk rv q w40 (.slice A N C) w' := fun o n cp w' h => ⟨_, _, _, rfl, h.2, h⟩
      have nV : ∀ w', Ch Non w48 w' → ¬ AK w'.heap.size := fun w' h => (hB1 _ h.size).1
      rw [← hkl]
      refine ⟨step_call (tq w48 (Ch.refl _ _)) ?_, fun w70 e70 => ⟨h40.andN (Ch.alloc e70), step_call (tq w70 (Ch.alloc e70)) ?_, fun w80 e80 => ⟨(h40.andN (Ch.alloc e70)).andN (Ch.alloc e80), step_call (tq w80 ((Ch.alloc e70).andN (Ch.alloc e80))) ?_⟩, trivial⟩, fun w85 e85 => ⟨h40.andN (Ch.alloc e85), step_call (tq w85 (Ch.alloc e85)) ?_, fun w91 e91 => ⟨(h40.andN (Ch.alloc e85)).andN (Ch.alloc e91), step_call (tq w91 ((Ch.alloc e85).andN (Ch.alloc e91))) ?_⟩, trivial⟩, trivial⟩
      · rintro v w55 ⟨⟨oq, cq, rfl⟩, hqi, hc55⟩
        have hc := h40.andN hc55
        refine ⟨_, _, _, rfl, hc, fun w56 e56 => ⟨hc.andN (Ch.alloc e56), ?_, fun w61 e61 => ⟨(hc.andN (Ch.alloc e56)).andN (Ch.alloc e61), ?_⟩, trivial⟩, fun w65 e65 => ⟨hc.andN (Ch.alloc e65), fun w66 e66 => ⟨(hc.andN (Ch.alloc e65)).andN (Ch.alloc e66), ?_⟩⟩, trivial⟩
        · exact leaf1 m (hkv48.keepN (hc55.andN (Ch.alloc e56))) hok (hqi.keepN (Ch.alloc e56)) (fun i _ h => hB1 i h) hki hvi (Blk.new e56) hR
        · exact leaf2 m (hkv48.keepN ((hc55.andN (Ch.alloc e56)).andN (Ch.alloc e61))) hok ((hqi.keepN (Ch.alloc e56)).keepN (Ch.alloc e61)) (fun i _ h => hB1 i h) hki hvi ((Blk.new e56).keepN (Ch.alloc e61)) (Blk.new e61) (nV _ (hc55.andN (Ch.alloc e56))) hR
        · exact leaf2 m (hkv48.keepN ((hc55.andN (Ch.alloc e65)).andN (Ch.alloc e66))) hok ((hqi.keepN (Ch.alloc e65)).keepN (Ch.alloc e66)) (fun i _ h => hB1 i h) hki hvi (Blk.new e66) ((Blk.new e65).keepN (Ch.alloc e66)) (nV _ hc55) hR
      · rintro v w71 ⟨⟨oq, cq, rfl⟩, hqi, hc71⟩
        have hc4871 := (Ch.alloc (F := Non) e70).andN hc71
        have hc := h40.andN hc4871
        refine ⟨_, _, _, rfl, hc, ?_, fun w76 e76 => ⟨hc.andN (Ch.alloc e76), ?_⟩, trivial⟩
        · exact leaf1 m (hkv48.keepN hc4871) hok hqi (fun i _ h => hB1 i h) hki hvi ((Blk.new e70).keepN hc71) hR
        · exact leaf2 m (hkv48.keepN (hc4871.andN (Ch.alloc e76))) hok (hqi.keepN (Ch.alloc e76)) (fun i _ h => hB1 i h) hki hvi (((Blk.new e70).keepN hc71).keepN (Ch.alloc e76)) (Blk.new e76) (nV _ hc4871) hR
      · rintro v w81 ⟨⟨oq, cq, rfl⟩, hqi, hc81⟩
        have hc4880 := (Ch.alloc (F := Non) e70).andN (Ch.alloc e80)
        have hc4881 := hc4880.andN hc81
        exact ⟨_, _, _, rfl, h40.andN hc4881, leaf2 m (hkv48.keepN hc4881) hok hqi (fun i _ h => hB1 i h) hki hvi (((Blk.new e70).keepN (Ch.alloc e80)).keepN hc81) ((Blk.new e80).keepN hc81) (nV _ (Ch.alloc e70)) hR⟩
      · rintro v w86 ⟨⟨oq, cq, rfl⟩, hqi, hc86⟩
        have hc4886 := (Ch.alloc (F := Non) e85).andN hc86
        have hc := h40.andN hc4886
        exact ⟨_, _, _, rfl, hc, fun w87 e87 => ⟨hc.andN (Ch.alloc e87), leaf2 m (hkv48.keepN (hc4886.andN (Ch.alloc e87))) hok (hqi.keepN (Ch.alloc e87)) (fun i _ h => hB1 i h) hki hvi (Blk.new e87) (((Blk.new e85).keepN hc86).keepN (Ch.alloc e87)) (nV _ (Ch.refl _ _)) hR⟩⟩
      · rintro v w92 ⟨⟨oq, cq, rfl⟩, hqi, hc92⟩
        have hc4891 := (Ch.alloc (F := Non) e85).andN (Ch.alloc e91)
        have hc4892 := hc4891.andN hc92
        exact ⟨_, _, _, rfl, h40.andN hc4892, leaf2 m (hkv48.keepN hc4892) hok hqi (fun i _ h => hB1 i h) hki hvi ((Blk.new e91).keepN hc92) (((Blk.new e85).keepN (Ch.alloc e91)).keepN hc92) (nV _ (Ch.refl _ _)) hR⟩
    · rintro jk sA sN sC w96 ⟨hse, hc96⟩
      rw [hlook] at hse
      have hlx := look_ok m hlt hwk hgood
      have hsl := seenAll_len m hlt hwk hgood (q := q)
      have h6l := timesD_len m hlt (p := 6) (by omega) hsl
      have hxd : (lookP c wt past j s).x = plusP s.x (times c wt 6 j (seenTo c (past ++ [(lookK c wt j s, lookV c wt j s)]) j q c.heads.toNat)) := by
        rw [hq, ← hhN]; rfl
      have hM96 := hM40.keepN hc96
      refine ⟨_, _, _, _, _, _, _, ⟨hM96.cell 0 rfl, hM96.cell 1 rfl, hM96.cell 2 rfl, hM96.cell 3 rfl, hM96.cell 4 rfl, hM96.cell 5 rfl, hM96.cell 6 rfl⟩, step_call (rtimes_spec m (okPB_b (p := 6) (b := j) (by omega) (by omega) hlt) hse (by rw [hsl]; show ((c.dim.toNat : Nat) : Int) = c.dim; omega)) ?_⟩
      rintro v w97 ⟨hv97, hc97⟩
      have hv97' := hv97
      obtain ⟨o97, c97, rfl, _⟩ := hv97
      have hc4097 := hc96.andN hc97
      refine ⟨_, _, _, rfl, step_call (rplus_spec (hx40.keepN hc4097) hv97' hxl (by rw [h6l.1]; omega)) ?_⟩
      rintro v w98 ⟨hv98, hc98⟩
      rw [← hxd] at hv98
      have hx98 := hv98
      obtain ⟨o98, c98, rfl, _⟩ := hv98
      have hc4098 := hc4097.andN hc98
      have hM98 := hM40.keepN hc4098
      obtain ⟨s2, hs2d⟩ : ∃ s2, lookP c wt past j s = s2 := ⟨_, rfl⟩
      have hs2K : s2.K = lookK c wt j s := by rw [← hs2d]; rfl
      have hs2V : s2.V = lookV c wt j s := by rw [← hs2d]; rfl
      rw [hs2d] at hlx hx98 hsn ⊢
      have hx2l : s2.x.length ≤ 1000000 := by rw [hlx.x]; omega
      have hn7 := norm2_len m hlt (p := 7) (.inr rfl) hlx.x
      obtain ⟨hu8, hu9, hus, hup⟩ := thinkU_len m hlt hlx.x
      have h10 := thinkD_len m hlt hup
      refine ⟨_, _, _, rfl, _, _, _, _, _, _, _, ⟨hM98.cell 0 rfl, hM98.cell 1 rfl, hM98.cell 2 rfl, hM98.cell 3 rfl, hM98.cell 4 rfl, hM98.cell 5 rfl, hM98.cell 6 rfl⟩, step_call (rgains_spec m (okPB_b (p := 7) (b := j) (by omega) (by omega) hlt)) ?_⟩
      rintro v w99 ⟨hv99, hc99⟩
      have hv99' := hv99
      obtain ⟨o99, c99, rfl, _⟩ := hv99
      refine ⟨_, _, _, rfl, step_call (rOf_iv hv99' (hx98.keepN hc99) hx2l) ?_⟩
      rintro v w100 ⟨hv100, hc100⟩
      have hv100' : IV w100 v (normP c wt 7 j s2.x) (New w99 w100) := hv100
      obtain ⟨o100, c100, rfl, _⟩ := hv100
      have hc40100 := (hc4098.andN hc99).andN hc100
      have hM100 := hM40.keepN hc40100
      refine ⟨_, _, _, rfl, fun w' => Ch Non w100 w', fun w101 e101 => ⟨Ch.drew e101, _, _, _, _, _, _, _, ⟨fun w' k => (hM100.keepN k).cell 0 rfl, fun w' k => (hM100.keepN k).cell 1 rfl, fun w' k => (hM100.keepN k).cell 2 rfl, fun w' k => (hM100.keepN k).cell 3 rfl, fun w' k => (hM100.keepN k).cell 4 rfl, fun w' k => (hM100.keepN k).cell 5 rfl, fun w' k => (hM100.keepN k).cell 6 rfl⟩, _, _, _, _, _, _, _, ⟨fun w' k => (hM100.keepN k).cell 0 rfl, fun w' k => (hM100.keepN k).cell 1 rfl, fun w' k => (hM100.keepN k).cell 2 rfl, fun w' k => (hM100.keepN k).cell 3 rfl, fun w' k => (hM100.keepN k).cell 4 rfl, fun w' k => (hM100.keepN k).cell 5 rfl, fun w' k => (hM100.keepN k).cell 6 rfl⟩, ?_⟩⟩
      have hd101 : Ch Non w100 w101 := Ch.drew e101
      have hdl8 : ((normP c wt 7 j s2.x).length : Int) = c.dim := by rw [hn7]; omega
      refine step_call (rtimes_spec m (okPB_b (p := 8) (b := j) (by omega) (by omega) hlt) (hv100'.keepN hd101) hdl8) ?_
      rintro v w104 ⟨hv104, hc104⟩
      have hv104' := hv104
      obtain ⟨o104, c104, rfl, _⟩ := hv104
      have hc100104 := hd101.andN hc104
      refine ⟨_, _, _, rfl, hc100104, step_call (rtimes_spec m (okPB_b (p := 9) (b := j) (by omega) (by omega) hlt) (hv100'.keepN hc100104) hdl8) ?_⟩
      rintro v w105 ⟨hv105, hc105⟩
      have hv105' := hv105
      obtain ⟨o105, c105, rfl, _⟩ := hv105
      have hc100105 := hc100104.andN hc105
      refine ⟨_, _, _, rfl, hc100105, step_call (rPairs_iv (hv104'.keepN hc105) hv105' (fun x hx => by have := hus x hx; exact ⟨by omega, by omega⟩) (by rw [hu9]; omega)) ?_⟩
      rintro v w106 ⟨hv106, hc106⟩
      have hv106' := hv106
      obtain ⟨o106, c106, rfl, _⟩ := hv106
      have hc100106 := hc100105.andN hc106
      have hM106 := hM100.keepN hc100106
      refine ⟨_, _, _, rfl, hc100106, _, _, _, _, _, _, _, ⟨hM106.cell 0 rfl, hM106.cell 1 rfl, hM106.cell 2 rfl, hM106.cell 3 rfl, hM106.cell 4 rfl, hM106.cell 5 rfl, hM106.cell 6 rfl⟩, step_call (rtimes_spec m (okPB_b (p := 10) (b := j) (by omega) (by omega) hlt) hv106' (by rw [hup]; show ((c.hidden.toNat : Nat) : Int) = c.hidden; omega)) ?_⟩
      rintro v w107 ⟨hv107, hc107⟩
      have hv107' := hv107
      obtain ⟨o107, c107, rfl, _⟩ := hv107
      have hc98107 := ((hc99.andN hc100).andN hc100106).andN hc107
      refine ⟨_, _, _, rfl, step_call (rplus_spec (hx98.keepN hc98107) hv107' hx2l (by rw [h10]; omega)) ?_⟩
      rintro v w108 ⟨hv108, hc108⟩
      have hv108' : IV w108 v (thinkP c wt j s2).x (New w107 w108) := hv108
      obtain ⟨o108, c108, rfl, _⟩ := hv108
      have hc40107 := hc4098.andN hc98107
      have hs107 := hc40107.size
      refine ⟨_, _, _, rfl, c.blocks.toNat - (j + 1), by omega, j + 1, A2, B2, by rw [wrap_id (by omega) (by omega)]; rfl, by omega, rfl, ?_, ?_⟩
      · rw [hsn]
        show SkR w15 w108 eb s2.K s2.V A2 B2
        rw [hs2K, hs2V]
        exact hsk40.keepN (hc40107.andN hc108)
      · rw [hsn]
        exact hv108'.mono (fun i hi h => (hsk40.far (w' := w108) (by have := h.1; omega) hi).2)
  · have hje : j = c.blocks.toNat := by omega
    have hwk := hall j hj
    have hfin : blocksTo c wt past ⟨L, [], []⟩ j = stepS c wt past (tok : Int) := by rw [hje]; exact hstS.symm
    rw [hfin] at hsk hx hwk
    obtain ⟨s, hsd⟩ : ∃ s, stepS c wt past (tok : Int) = s := ⟨_, rfl⟩
    rw [hsd] at hsk hx hwk
    have hxl : s.x.length ≤ 1000000 := by rw [hwk.x]; omega
    refine ⟨_, _, _, _, _, _, _, ⟨hM24.cell 0 rfl, hM24.cell 1 rfl, hM24.cell 2 rfl, hM24.cell 3 rfl, hM24.cell 4 rfl, hM24.cell 5 rfl, hM24.cell 6 rfl⟩, step_call (rgains_spec m (okPB_11 c)) ?_⟩
    rintro v w109 ⟨hv109, hc109⟩
    have hv109' := hv109
    obtain ⟨o109, c109, rfl, _⟩ := hv109
    refine ⟨_, _, _, rfl, step_call (rOf_iv hv109' (hx.keepN hc109) hxl) ?_⟩
    rintro v w110 ⟨hv110, hc110⟩
    have hv110' : IV w110 v (normP c wt 11 0 s.x) (New w109 w110) := hv110
    obtain ⟨o110, c110, rfl, _⟩ := hv110
    have hc24110 := hc109.andN hc110
    refine ⟨_, _, _, rfl, fun w111 e111 => ?_⟩
    have g1 : Gr Non w110 w111 t_int 1 (some ⟨w110.heap.size, 0, none⟩) 0 0 [] := Gr.made0 (Ch.refl _ _) e111
    obtain ⟨S, hS⟩ : ∃ S : List Int, scoresP c wt s.x = S := ⟨_, rfl⟩
    have hSl : S.length = c.vocab.toNat := by rw [← hS]; unfold scoresP; rw [List.length_map, List.length_range]
    have hSa : ∀ (t : Nat) (ht : t < S.length), S[t] = shift (dotC (rowP c wt 0 0 (t : Nat)) (normP c wt 11 0 s.x)) 5 := fun t ht => by subst hS; simp [scoresP]
    have hM110 := hM24.keepN hc24110
    refine ⟨fun A n C i k w' => ∃ t : Nat, i = t ∧ n = t ∧ t ≤ S.length ∧ k = S.length - t ∧ Gr Non w110 w' t_int 1 A t C ((S.take t).map (.int .i64)), ⟨_, 0, rfl, rfl, Nat.zero_le _, rfl, g1⟩, ?_⟩
    rintro jk sA sN sC i k w112 ⟨t, rfl, rfl, ht, rfl, hg⟩
    have hM112 := hM110.keepN hg.2
    refine ⟨_, hM112.cell 0 rfl, dT fun hlt => ?_, dF fun hge2 => ?_⟩
    · have hlt : sN < S.length := by omega
      refine ⟨_, _, _, _, _, _, _, ⟨hM112.cell 0 rfl, hM112.cell 1 rfl, hM112.cell 2 rfl, hM112.cell 3 rfl, hM112.cell 4 rfl, hM112.cell 5 rfl, hM112.cell 6 rfl⟩, step_call (rRow_spec w112 m.ok m.sz (okPB_0 c) (q := sN) (by rw [hsd0]; omega)) ?_⟩
      rintro v w113 ⟨o113, c113, rfl, hg113⟩
      have hrl := row_len m.ok m.sz (okPB_0 c) (q := sN) (by rw [hsd0]; omega)
      have hsd0' : (side c ((0 : Nat) : Int)).2 = c.dim := rfl
      rw [hsd0'] at hrl
      refine ⟨_, _, _, _, rfl, step_call (rDot_iv (Gr.iv hg113) (hv110'.keepN (hg.2.andN hg113.2)) (by omega)) ?_⟩
      rintro v w114 ⟨rfl, hc114⟩
      refine ⟨_, rfl, step_call (rShift_spec w114 (Vecs.dot_in _ _) 5) ?_⟩
      rintro v w115 ⟨rfl, hc115⟩
      refine ⟨_, rfl, fun w116 e116 => ?_⟩
      obtain ⟨A', C', w117, hr, hg117, _⟩ := (hg.keepN ((hg113.2.andN hc114).andN hc115)).next el_S_int t_S_int hlt (by omega) e116 (by rw [hSa sN hlt]) rfl (by omega)
      exact ⟨A', _, C', w117, hr, S.length - (sN + 1), by omega, sN + 1, by rw [wrap_id (by omega) (by omega)]; rfl, rfl, hlt, rfl, hg117⟩
    · have hne : sN = S.length := by omega
      subst hne
      rw [List.take_length] at hg
      have hc24112 := hc24110.andN hg.2
      have hsk112 := hsk.keepN hc24112
      obtain ⟨oK, cK, oV, cV, hEb, hRK, hRV⟩ := hsk112.rv
      have hE112 := hE15.keepN hsk112.ch
      refine ⟨_, _, _, _, _, _, ⟨hEb.cell 0 rfl, hEb.cell 1 rfl⟩, ⟨hE112.ok 0 rfl, hE112.ok 1 rfl⟩, fun w118 e118 => ?_⟩
      have e118' : w118 = _ := e118
      have hE118 := (hE112.set (o := 0) rfl).set e118'
      have hc118 : Ch (· = rb) w112 w118 := Ch.set2 (F := (· = rb)) e118 rfl rfl
      have hs118 : w118.heap.size = w112.heap.size := by subst e118; simp [World.setCell]
      have hc15118 : Ch Non w w118 := (hc015.andN hsk112.ch).trans hc118 (fun i hi he => by omega)
      have hs24 := hsk.ch.size
      have hs110 := hc24110.size
      refine ⟨_, _, _, _, _, _, ⟨hE118.cell 0 rfl, hE118.cell 1 rfl⟩, hc15118, fun k => absurd hgood k, fun _ k => absurd htok k, fun _ _ k => absurd hlong k, fun _ _ _ => ⟨(.slice oK s.K.length cK, .slice oV s.V.length cV), .slice sA S.length sC, rfl, ⟨?_, ?_⟩, ?_⟩⟩
      · unfold stepE; rw [hsd]
        exact (hRK.keep hc118 (fun i _ h k => by have := h.1; omega)).mono (fun i _ h => ⟨by have := h.1; omega, by have := h.2; omega⟩)
      · unfold stepE; rw [hsd]
        exact (hRV.keep hc118 (fun i _ h k => by have := h.1; omega)).mono (fun i _ h => ⟨by have := h.1; omega, by have := h.2; omega⟩)
      · unfold stepL; rw [hsd, hS]
        exact ((Gr.iv hg).keep hc118 (fun i _ h k => by have := h.1; omega)).mono (fun i _ h => ⟨by have := h.1; omega, by have := h.2; omega⟩)
end
end Go.Proofs.YtbadkcnemcnhfaaGreatDoor.RefS
