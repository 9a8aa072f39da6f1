import Derived.Test.YtkbikekbaboclaaGreatRefT
set_option linter.unusedVariables false
set_option linter.unusedSimpArgs false
namespace Go.Proofs.YtkbikekbaboclaaGreat.Nb
open Go Go.Proofs V Vc fv ee qX qn PI Go.RowKit
section
variable {w w':World} {c:ep} {wt:ByteArray} {v:Value} {F G:Nat→Prop} {past:List gr}
theorem IV.get {o:OA} {n cp:Nat} {xs:List Int} (h:IV w (.slice o n cp) xs F) {j:Nat} (hj:j<xs.length):∃ a:Addr,o=some a∧n=xs.length∧∀ (G:Nat→Prop) (w':World),Ch G w w'→(∀ i,i<w.heap.size→F i→¬ G i)→w'.cell? (a.add (j*1))=some (.int .i64 xs[j]):=by
 obtain ⟨o2,c2,he,h1,h2,hr⟩:=h
 injection he with e1 e2 e3
 subst e1;subst e3
 have hx:(xs.map (.int .i64))[j]?=some (Value.int .i64 xs[j]):=by simp [hj]
 obtain ⟨a,ha,_,_,_⟩:=hr j _ hx
 refine ⟨a,ha,e2,fun G w' hc hd=>?_⟩
 obtain ⟨a2,a0,_,_,a1⟩:=(hr.af hc hd) j _ hx
 rw [ha] at a0;injection a0 with a0;subst a0
 rw [Nat.mul_one];exact a1
theorem Kt {u g:Value} {xs gs:List Int} (hg:IV w g gs G) (hx:IV w u xs F) (hl:xs.length≤1000000):Calls Tryz.prog qN #[g,u] w (bc fun v w'=>IV w' v (Norm.Av gs xs) (db w w')∧Ch ah w w'):=by
 obtain ⟨o,cx,rfl,_,_,hg⟩:=hg
 obtain ⟨o2,cy,rfl,_,_,hx⟩:=hx
 refine ab (Norm.NU hg hx hl) ?_
 rintro v w1 ⟨o5,c5,rfl,hO,a0⟩
 exact ⟨Own.iv hO,a0⟩
theorem Nu {u g:Value} {xs gs:List Int} (hg:IV w g gs G) (hx:IV w u xs F) (ig:∀ x∈gs,DE x) (hl:xs.length≤1000000):Calls Tryz.prog oQ #[g,u] w (bc fun v w'=>IV w' v (Act.jl gs xs) (db w w')∧Ch ah w w'):=by
 obtain ⟨o,cx,rfl,_,_,hg⟩:=hg
 obtain ⟨o2,cy,rfl,_,_,hx⟩:=hx
 refine ab (Act.JT hg hx ig hl) ?_
 rintro v w1 ⟨o5,c5,rfl,hO,a0⟩
 exact ⟨Own.iv hO,a0⟩
def RX (eb:Nat) (A B:Nat→Prop):Nat→Prop:=fun i=>i≠eb∧¬ A i∧¬ B i
theorem IC.ze {W:World} {eb:Nat} {Ks Vs:List (List Int)} {A B:Nat→Prop} (h:IC W w eb Ks Vs A B) {i:Nat} (h1:w.heap.size≤i) (h2:i<w'.heap.size):RR W w' eb A B i∧RX eb A B i:=by
 have hs:=h.ch.size
 have hn:=h.n.2
 have hA:¬ A i:=fun k=>by have:=(h.a i k).1.2;omega
 have hB:¬ B i:=fun k=>by have:=(h.b i k).1.2;omega
 exact ⟨⟨⟨by omega,h2⟩,by omega,hA,hB⟩,by omega,hA,hB⟩
theorem IC.rv {W:World} {eb:Nat} {Ks Vs:List (List Int)} {A B:Nat→Prop} (h:IC W w eb Ks Vs A B):∃ (oK:OA) (cK:Nat) (oV:OA) (cV:Nat),ba w eb [.slice oK Ks.length cK,.slice oV Vs.length cV] az∧RV w (.slice oK Ks.length cK) Ks (db W w)∧RV w (.slice oV Vs.length cV) Vs (db W w):=by
 obtain ⟨⟨oK,cK,uK,oV,cV,uV,h1,h3,h4,h5,h6⟩,ha,hb,hn,a0⟩:=h
 exact ⟨oK,cK,oV,cV,h1,⟨_,_,_,rfl,h3.2.1,h3.2.2.1,h3.rd.mono (fun i _ h=>(ha i h).1),h4.imp (fun u xs k=>k.mono (fun i _ h=>h.1))⟩,⟨_,_,_,rfl,h5.2.1,h5.2.2.1,h5.rd.mono (fun i _ h=>(hb i h).1),h6.imp (fun u xs k=>k.mono (fun i _ h=>h.1))⟩⟩
theorem IV.To {eb:Nat} {A A' B:Nat→Prop} {xs:List Int} (hx:IV w v xs (RX eb A B)) (a0:Ch (fun i=>A i∨i=eb) w w') (hA:∀ i,A' i→A i∨w.heap.size≤i):IV w' v xs (RX eb A' B) :=
 ((hx.mono (fun i hi h=>(⟨h,hi⟩:RX eb A B i∧i<w.heap.size))).af a0 (fun i _ h k=>k.elim h.1.2.1 h.1.1)).mono (fun i _ h=>⟨h.1.1,fun k=>by
  rcases hA i k with k|k
  ·exact h.1.2.1 k
  ·have:=h.2;omega,h.1.2.2⟩)
theorem IV.Tr {eb:Nat} {A B B':Nat→Prop} {xs:List Int} (hx:IV w v xs (RX eb A B)) (a0:Ch (fun i=>B i∨i=eb) w w') (hB:∀ i,B' i→B i∨w.heap.size≤i):IV w' v xs (RX eb A B') :=
 ((hx.mono (fun i hi h=>(⟨h,hi⟩:RX eb A B i∧i<w.heap.size))).af a0 (fun i _ h k=>k.elim h.1.2.2 h.1.1)).mono (fun i _ h=>⟨h.1.1,h.1.2.1,fun k=>by
  rcases hB i k with k|k
  ·exact h.1.2.2 k
  ·have:=h.2;omega⟩)
set_option maxHeartbeats 2000000 in
theorem zR (m : Md c wt) (hp : PV w v past F) (token : Int) (hpl : past.length ≤ 1000000) : Calls Tryz.prog vD #[sg c wt, v, .int .i64 token] w (bc (Rc c wt past token w)) := by
  have hp' := hp
  obtain ⟨po, pc, ps, rfl, _⟩ := hp
  have hctx := m.ok.2.2.2.2.2.1
  have hbl := m.ok.2.2.2.1
  have hdm := m.ok.2.1
  have hvc := m.ok.1
  have hhd := m.ok.2.2.2.2.1
  refine yu.calls _ _ _ _ _ _ _ _ _ _ _ ?_
  intro w1 e1 w2 e2
  have hM1 := ba.new e1
  have hE2 := ba.new e2
  have hc1 : Ch ah w w1 := Ch.alloc e1
  have hc12 : Ch ah w1 w2 := Ch.alloc e2
  have hs1 := hM1.lt
  have hs2 := hE2.lt
  have hM2 := hM1.aa hc12
  have hc02 := hc1.ag hc12
  have hp2 := hp'.aa hc02
  refine ⟨fun i k w' => Ch ah w2 w' ∧ ∃ j : Nat, i = j ∧ j ≤ past.length ∧ k = past.length - j ∧ ∀ e ∈ past.take j, fy c e, ⟨_, Ch.refl _ _, 0, rfl, Nat.zero_le _, rfl, fun e he => by simp at he⟩, ?_⟩
  rintro jk i k w3 ⟨hc3, j, rfl, hj, rfl, hgd⟩
  have hM3 := hM2.aa hc3
  refine ⟨dT fun hlt => ?_, dF fun hge => ?_⟩
  · have hlt : j < past.length := by omega
    obtain ⟨a, o1, c1', o2, c2', rfl, _, hE, hcell⟩ := PV.get (hp2.aa hc3) hlt
    have hmem := List.getElem_mem hlt
    have hsn := au past j hlt
    refine ⟨fun w' => Ch ah w3 w', fun w4 e4 => ⟨Ch.drew e4, _, _, _, _, _, _, _, ⟨fun w' k => (hM3.aa k).cell 0 rfl, fun w' k => (hM3.aa k).cell 1 rfl, fun w' k => (hM3.aa k).cell 2 rfl, fun w' k => (hM3.aa k).cell 3 rfl, fun w' k => (hM3.aa k).cell 4 rfl, fun w' k => (hM3.aa k).cell 5 rfl, fun w' k => (hM3.aa k).cell 6 rfl⟩, ⟨by omega, by omega⟩, _, _, _, _, _, _, ⟨fun w' k => (hcell w' k).1, fun w' k => (hcell w' k).2⟩, ?_⟩⟩
    generalize past[j] = e at hE hcell hmem hsn
    have hd4 : Ch ah w3 w4 := Ch.drew e4
    refine ab (JN (pr := (.slice o1 e.1.length c1', .slice o2 e.2.length c2')) (e := e) m (hE.aa hd4)) ?_
    rintro v w7 ⟨bv, rfl, hb, hc7⟩
    have hcx := (hc3.ag hd4).ag hc7
    refine ⟨_, rfl, hd4.ag hc7, fun hn => ?_, fun hy => ?_⟩
    · have hbad : ¬ (∀ e ∈ past, fy c e) := fun k => by rw [hb.2 (k e hmem)] at hn; cases hn
      have hE9 := hE2.aa hcx
      refine ⟨⟨hE9.ok 0 rfl, hE9.ok 1 rfl⟩, fun w8 e8 => ?_⟩
      have e8' : w8 = _ := e8
      have hE8 := (hE9.set (o := 0) rfl).set e8'
      have hc8 : Ch (· = w1.heap.size) _ w8 := Ch.Dd (F := (· = w1.heap.size)) e8 rfl rfl
      have hcf : Ch ah w w8 := (hc02.ag hcx).trans hc8 (fun i hi he => by omega)
      refine ⟨_, _, _, _, _, _, ⟨hE8.cell 0 rfl, hE8.cell 1 rfl⟩, ?_⟩
      exact ⟨hcf, fun _ => rfl, fun k => absurd k hbad, fun k => absurd k hbad, fun k => absurd k hbad⟩
    · have hy : bv = true := by simpa using hy
      exact ⟨past.length - (j + 1), by omega, hcx, j + 1, by rw [ae (by omega) (by omega)]; rfl, by omega, rfl, fun e' he => by
        rw [hsn] at he
        rcases List.mem_append.1 he with he | he
        · exact hgd e' he
        · rw [List.mem_singleton] at he; subst he; exact hb.1 hy⟩
  have hje : j = past.length := by omega
  subst hje
  rw [List.take_length] at hgd
  have hgood := hgd
  have hcx := hc3
  refine ⟨dT fun htn => ?_, dF fun htn => ⟨_, hM3.cell 0 rfl, dT fun htv => ?_, dF fun htv => ⟨_, hM3.cell 5 rfl, dT fun hlong => ?_, dF fun hlong => ?_⟩⟩⟩
  · have htok : ¬ (0 ≤ token ∧ token < c.vocab) := by omega
    have hE9 := hE2.aa hcx
    refine ⟨⟨hE9.ok 0 rfl, hE9.ok 1 rfl⟩, fun w8 e8 => ?_⟩
    have e8' : w8 = _ := e8
    have hE8 := (hE9.set (o := 0) rfl).set e8'
    have hc8 : Ch (· = w1.heap.size) _ w8 := Ch.Dd (F := (· = w1.heap.size)) e8 rfl rfl
    have hcf : Ch ah w w8 := (hc02.ag hcx).trans hc8 (fun i hi he => by omega)
    refine ⟨_, _, _, _, _, _, ⟨hE8.cell 0 rfl, hE8.cell 1 rfl⟩, ?_⟩
    exact ⟨hcf, fun k => absurd hgood k, fun _ _ => rfl, fun _ k => absurd k htok, fun _ k => absurd k htok⟩
  · have htok : ¬ (0 ≤ token ∧ token < c.vocab) := by omega
    have hE9 := hE2.aa hcx
    refine ⟨⟨hE9.ok 0 rfl, hE9.ok 1 rfl⟩, fun w8 e8 => ?_⟩
    have e8' : w8 = _ := e8
    have hE8 := (hE9.set (o := 0) rfl).set e8'
    have hc8 : Ch (· = w1.heap.size) _ w8 := Ch.Dd (F := (· = w1.heap.size)) e8 rfl rfl
    have hcf : Ch ah w w8 := (hc02.ag hcx).trans hc8 (fun i hi he => by omega)
    refine ⟨_, _, _, _, _, _, ⟨hE8.cell 0 rfl, hE8.cell 1 rfl⟩, ?_⟩
    exact ⟨hcf, fun k => absurd hgood k, fun _ _ => rfl, fun _ k => absurd k htok, fun _ k => absurd k htok⟩
  · have htok : 0 ≤ token ∧ token < c.vocab := by omega
    have hlong : ¬ (past.length : Int) < c.context := by omega
    have hE9 := hE2.aa hcx
    refine ⟨⟨hE9.ok 0 rfl, hE9.ok 1 rfl⟩, fun w8 e8 => ?_⟩
    have e8' : w8 = _ := e8
    have hE8 := (hE9.set (o := 0) rfl).set e8'
    have hc8 : Ch (· = w1.heap.size) _ w8 := Ch.Dd (F := (· = w1.heap.size)) e8 rfl rfl
    have hcf : Ch ah w w8 := (hc02.ag hcx).trans hc8 (fun i hi he => by omega)
    refine ⟨_, _, _, _, _, _, ⟨hE8.cell 0 rfl, hE8.cell 1 rfl⟩, ?_⟩
    exact ⟨hcf, fun k => absurd hgood k, fun _ k => absurd htok k, fun _ _ _ => rfl, fun _ _ k => absurd k hlong⟩
  have htok : 0 ≤ token ∧ token < c.vocab := by omega
  have hlong : (past.length : Int) < c.context := by omega
  obtain ⟨tok, rfl⟩ : ∃ t : Nat, token = t := ⟨token.toNat, by omega⟩
  have hc03 := hc02.ag hc3
  have hsd0 : (side c ((0 : Nat) : Int)).1 = c.vocab := rfl
  have hsd1 : (side c ((1 : Nat) : Int)).1 = c.context := rfl
  refine ⟨_, _, _, _, _, _, _, ⟨hM3.cell 0 rfl, hM3.cell 1 rfl, hM3.cell 2 rfl, hM3.cell 3 rfl, hM3.cell 4 rfl, hM3.cell 5 rfl, hM3.cell 6 rfl⟩, ab (tm w3 m.ok m.sz (tS c) (q := tok) (by rw [hsd0]; omega)) ?_⟩
  rintro v w12 ⟨o12, c12, rfl, hg12⟩
  have hM12 := hM3.aa hg12.2
  refine ⟨_, _, _, _, rfl, _, _, _, _, _, _, _, ⟨hM12.cell 0 rfl, hM12.cell 1 rfl, hM12.cell 2 rfl, hM12.cell 3 rfl, hM12.cell 4 rfl, hM12.cell 5 rfl, hM12.cell 6 rfl⟩, ab (tm w12 m.ok m.sz (KD c) (q := past.length) (by rw [hsd1]; omega)) ?_⟩
  rintro v w13 ⟨o13, c13, rfl, hg13⟩
  have hM13 := hM12.aa hg13.2
  have hc313 : Ch ah w3 w13 := hg12.2.ag hg13.2
  refine ⟨_, _, _, _, rfl, fun w14 e14 => ?_⟩
  have g0 : Gr ah w13 w14 bd 1 (some ⟨w13.heap.size, 0, none⟩) 0 0 [] := Gr.nG (Ch.refl _ _) e14
  have hbeg := Bx m (k := past.length) hlong htok
  obtain ⟨L, hL⟩ : ∃ L : List Int, xF c wt past.length (tok : Int) = L := ⟨_, rfl⟩
  have hivt := (Gr.iv hg12).aa hg13.2
  have hivp := Gr.iv hg13
  have hr8t : ∀ x ∈ ks c wt 0 0 (tok : Int), -128 ≤ x ∧ x ≤ 127 := Ma
  have hr8p : ∀ x ∈ ks c wt 1 0 (past.length : Int), -128 ≤ x ∧ x ≤ 127 := Ma
  have hLd : L = List.zipWith Fb (ks c wt 0 0 (tok : Int)) (ks c wt 1 0 (past.length : Int)) := hL.symm
  have hs13 := hc313.size
  have hivt := hivt.mono (G := fun i => i < w13.heap.size) (fun i hi _ => hi)
  have hivp := hivp.mono (G := fun i => i < w13.heap.size) (fun i hi _ => hi)
  rw [hL] at hbeg
  obtain ⟨hb1, hb2, hb3⟩ := hbeg
  clear hg12 hg13
  generalize ks c wt 0 0 (tok : Int) = tr at hivt hr8t hLd hb1 ⊢
  generalize ks c wt 1 0 (past.length : Int) = pr at hivp hr8p hLd hb2 ⊢
  refine ⟨fun A n C i k w' => ∃ j : Nat, i = j ∧ n = j ∧ j ≤ L.length ∧ k = L.length - j ∧ Gr ah w13 w' bd 1 A j C ((L.take j).map (.int .i64)), ⟨_, 0, rfl, rfl, Nat.zero_le _, rfl, g0⟩, ?_⟩
  rintro jk xA xN xC i k w15 ⟨j, rfl, rfl, hj, rfl, hg⟩
  have hM15 := hM13.aa hg.2
  refine ⟨_, hM15.cell 1 rfl, dT fun hlt => ?_, dF fun hge => ?_⟩
  · have hlt : xN < L.length := by omega
    have h1 : xN < tr.length := by omega
    have h2 : xN < pr.length := by omega
    obtain ⟨a1, rfl, _, hcell1⟩ := IV.get (hivt.aa hg.2) h1
    obtain ⟨a2, rfl, _, hcell2⟩ := IV.get (hivp.aa hg.2) h2
    have hLa : L[xN] = Fb tr[xN] pr[xN] := by subst hLd; simp
    have b1 := hr8t _ (List.getElem_mem h1)
    have b2 := hr8p _ (List.getElem_mem h2)
    refine ⟨fun w' => Ch (fun i => w13.heap.size ≤ i) w15 w', fun w16 e16 => ⟨Ch.drew e16, ⟨by omega, by omega⟩, _, fun w' k => hcell1 _ w' k (fun i _ hi hk => by omega), ⟨by omega, by omega⟩, _, fun w' k => hcell2 _ w' k (fun i _ hi hk => by omega), ?_⟩⟩
    dsimp only
    rw [ae (x := tr[xN] + pr[xN]) (by omega) (by omega), ae (x := 16 * (tr[xN] + pr[xN])) (by omega) (by omega)]
    have hd16 : Ch ah w15 w16 := Ch.drew e16
    refine ab (qX.ni w16 _) ?_
    rintro v w19 ⟨rfl, rfl⟩
    refine ⟨_, rfl, Ch.drew e16, fun w20 e20 => ⟨(Ch.drew e16).ag (Ch.alloc e20), ?_⟩⟩
    obtain ⟨A', C', w21, hr, hg21, hch21⟩ := (hg.aa hd16).next bi ay hlt (by omega) e20 (by rw [hLa]; rfl) rfl (by omega)
    exact ⟨A', _, C', w21, hr, hd16.any.same (hch21.mono (fun i _ h => h.1)), L.length - (xN + 1), by omega, xN + 1, by rw [ae (by omega) (by omega)]; rfl, rfl, hlt, rfl, hg21⟩
  have hxe : xN = L.length := by omega
  subst hxe
  rw [List.take_length] at hg
  clear hivt hivp hLd g0
  have hc015 : Ch ah w w15 := (hc03.ag hc313).ag hg.2
  have hp15 := hp'.aa hc015
  have hE15 : ba w15 w1.heap.size [.slice none 0 0, .slice none 0 0] az := ((hE2.aa hc3).aa hc313).aa hg.2
  have hx15 : IV w15 (.slice xA L.length xC) L (fun i => i < w15.heap.size) := (Gr.iv hg).mono (fun i hi _ => hi)
  intro w22 e22
  have hEb := ba.new e22
  have hEbl := hEb.lt
  refine ⟨⟨hEb.ok 0 rfl, hEb.ok 1 rfl⟩, fun w23 e23 => ?_⟩
  have e23' : w23 = _ := e23
  have hE23 := (hEb.set (o := 0) rfl).set e23'
  have hc2223 : Ch (· = w15.heap.size) w22 w23 := Ch.Dd (F := (· = w15.heap.size)) e23 rfl rfl
  have hc1523 : Ch ah w15 w23 := (Ch.alloc (F := ah) e22).trans hc2223 (fun i hi he => by omega)
  have hs23 : w23.heap.size = w22.heap.size := by subst e23; simp [World.setCell]
  have hsk0 : IC w15 w23 w15.heap.size [] [] ah ah := ⟨⟨none, 0, [], none, 0, [], hE23, V.Own.nil _ _ _ _, .nil, V.Own.nil _ _ _ _, .nil⟩, fun i h => h.elim, fun i h => h.elim, ⟨Nat.le_refl _, by omega⟩, hc1523⟩
  have hm15 := hM15.lt
  have hr15 := hE15.lt
  have hs15 := hc015.size
  have hmlt : w.heap.size < w1.heap.size := hs1
  have hW115 : w1.heap.size < w15.heap.size := hr15
  obtain ⟨mb, hmb⟩ : ∃ mb : Nat, mb = w.heap.size := ⟨_, rfl⟩
  obtain ⟨rb, hrb⟩ : ∃ rb : Nat, rb = w1.heap.size := ⟨_, rfl⟩
  obtain ⟨eb, heb⟩ : ∃ eb : Nat, eb = w15.heap.size := ⟨_, rfl⟩
  have hwk0 : vY c 0 ⟨L, [], []⟩ := ⟨hb3, ⟨rfl, fun r hr => (by cases hr)⟩, ⟨rfl, fun r hr => (by cases hr)⟩⟩
  have hstS : si c wt past (tok : Int) = lj c wt past ⟨L, [], []⟩ c.blocks.toNat := by unfold si; rw [hL]
  have hall := ye m hgood hwk0
  rw [← hmb] at hM15 hm15 hs15 hmlt ⊢
  rw [← hrb] at hE15 hr15 hW115 hmlt ⊢
  rw [← heb] at hsk0 ⊢
  have hx23 : IV w23 (.slice xA L.length xC) L (RX eb ah ah) := (hx15.aa hc1523).mono (fun i _ hi => ⟨by omega, id, id⟩)
  clear hE23 hc2223 e23' e23 hEb e22 hM1 hM2 hM3 hM12 hM13 hE2 hx15 hg hgd hp2 hp' hc03 hc12 hc1 hcx e1 e2 e14
  refine ⟨fun xA xN xC b k w' => ∃ (j : Nat) (A B : Nat → Prop), b = j ∧ (j : Int) ≤ c.blocks ∧ k = c.blocks.toNat - j ∧ IC w15 w' eb (lj c wt past ⟨L, [], []⟩ j).K (lj c wt past ⟨L, [], []⟩ j).V A B ∧ IV w' (.slice xA xN xC) (lj c wt past ⟨L, [], []⟩ j).x (RX eb A B), ⟨_, 0, ah, ah, rfl, by omega, rfl, hsk0, hx23⟩, ?_⟩
  clear hsk0 hx23
  rintro jk xA xN xC b k w24 ⟨j, A, B, rfl, hj, rfl, hsk, hx⟩
  have hM24 := hM15.aa hsk.ch
  refine ⟨_, hM24.cell 3 rfl, dT fun hlt => ?_, dF fun hge => ?_⟩
  · have hlt : (j : Int) < c.blocks := by omega
    have hwk := hall j hj
    obtain ⟨s, hsd⟩ : ∃ s, lj c wt past ⟨L, [], []⟩ j = s := ⟨_, rfl⟩
    have hsn : lj c wt past ⟨L, [], []⟩ (j + 1) = EW c wt j (Gm c wt past j s) := by rw [← hsd]; rfl
    rw [hsd] at hsk hx hwk
    refine ⟨_, _, _, _, _, _, _, ⟨hM24.cell 0 rfl, hM24.cell 1 rfl, hM24.cell 2 rfl, hM24.cell 3 rfl, hM24.cell 4 rfl, hM24.cell 5 rfl, hM24.cell 6 rfl⟩, ab (wB m (ib (p := 2) (b := j) (by omega) (by omega) hlt)) ?_⟩
    rintro v w25 ⟨hv25, hc25⟩
    have hv25' := hv25
    obtain ⟨o25, ey, rfl, _⟩ := hv25
    have hxl : s.x.length ≤ 1000000 := by rw [hwk.x]; omega
    refine ⟨_, _, _, rfl, ab (Kt hv25' (hx.aa hc25) hxl) ?_⟩
    rintro v w26 ⟨hv26, hc26⟩
    have hv26' : IV w26 v (ej c wt 2 j s.x) (db w25 w26) := hv26
    have hn2 := tF m hlt (p := 2) (.inl rfl) hwk.x
    clear hv26
    obtain ⟨hN, hhN⟩ : ∃ l, ej c wt 2 j s.x = l := ⟨_, rfl⟩
    rw [hhN] at hv26' hn2
    have hv26 := hv26'
    obtain ⟨o26, c26, rfl, _⟩ := hv26
    have hc2426 := hc25.ag hc26
    have hs25 := hc25.size
    have hs26 := hc26.size
    have hsk26 := hsk.aa hc2426
    have hx26 := hx.aa hc2426
    have hvh26 := hv26'.mono (G := RX eb A B) (fun i hi h => (hsk.ze (w' := w26) (by have := h.1; omega) hi).2)
    have hM26 := hM24.aa hc2426
    have hmA : ¬ A mb := fun k => by have := (hsk.a _ k).1.1; omega
    have hmB : ¬ B mb := fun k => by have := (hsk.b _ k).1.1; omega
    have hmE : ¬ mb = eb := by omega
    have hebA : ¬ A eb := fun k => (hsk.a _ k).2.1 rfl
    have hebB : ¬ B eb := fun k => (hsk.b _ k).2 rfl
    obtain ⟨oK, cK, oV, cV, hEb26, _, _⟩ := hsk26.rv
    have hKl : s.K.length = j := hwk.K.1
    have hVl : s.V.length = j := hwk.V.1
    have hdl : ∀ p : Nat, (p = 3 ∨ p = 4 ∨ p = 5 ∨ p = 6) → ((hN.length : Nat) : Int) = (side c (p : Nat)).2 := fun p hp => by
      rw [hn2]; rcases hp with rfl | rfl | rfl | rfl <;> (show ((c.dim.toNat : Nat) : Int) = c.dim; omega)
    refine ⟨_, _, _, rfl, fun w' => Ch A w26 w', fun w27 e27 => ⟨Ch.drew e27, _, _, _, fun w' k => (hEb26.af k hebA).cell 0 rfl, _, _, _, _, _, _, _, ⟨fun w' k => (hM26.af k hmA).cell 0 rfl, fun w' k => (hM26.af k hmA).cell 1 rfl, fun w' k => (hM26.af k hmA).cell 2 rfl, fun w' k => (hM26.af k hmA).cell 3 rfl, fun w' k => (hM26.af k hmA).cell 4 rfl, fun w' k => (hM26.af k hmA).cell 5 rfl, fun w' k => (hM26.af k hmA).cell 6 rfl⟩, ?_⟩⟩
    have hd27 : Ch ah w26 w27 := Ch.drew e27
    refine ab (mj m (ib (p := 4) (b := j) (by omega) (by omega) hlt) (hv26'.aa hd27) (hdl 4 (by omega))) ?_
    rintro v w30 ⟨hv30, hc30⟩
    have hv30' := hv30
    obtain ⟨o30, c30, rfl, _⟩ := hv30
    have hc2630 := hd27.ag hc30
    have hsk30 := hsk26.aa hc2630
    have hs27 := hd27.size
    refine ⟨_, _, _, rfl, hc2630.any, fun w31 e31 => ⟨(hc2630.ag (Ch.alloc e31)).any, ?_⟩⟩
    obtain ⟨o32, c32, w32, r32, hch32, hEb32, hset⟩ := hsk30.IZ (hv30'.mono (fun i hi h => (hsk26.ze (w' := w30) (by have := h.1; omega) hi).1)) (by omega) (hEb26.aa hc2630) e31
    refine ⟨o32, _, c32, w32, r32, hc2630.any.same hch32, hEb32.ok 0 rfl, fun w33 e33 => ?_⟩
    obtain ⟨A2, hsk33, hch33, hA2⟩ := hset w33 e33
    have hx33 := IV.To (hx26.aa hc2630) hch33 hA2
    have hvh33 := IV.To (hvh26.aa hc2630) hch33 hA2
    have hM33 := (hM26.aa hc2630).af hch33 (fun k => k.elim hmA hmE)
    obtain ⟨oK2, cK2, oV2, cV2, hEb33, _, _⟩ := hsk33.rv
    clear r32 hset e33 e31 hEb32 hch32 hv30' hx26 hvh26 hv26' hEb26
    refine ⟨fun w' => Ch B w33 w', fun w34 e34 => ⟨Ch.drew e34, _, _, _, fun w' k => (hEb33.af k hebB).cell 1 rfl, _, _, _, _, _, _, _, ⟨fun w' k => (hM33.af k hmB).cell 0 rfl, fun w' k => (hM33.af k hmB).cell 1 rfl, fun w' k => (hM33.af k hmB).cell 2 rfl, fun w' k => (hM33.af k hmB).cell 3 rfl, fun w' k => (hM33.af k hmB).cell 4 rfl, fun w' k => (hM33.af k hmB).cell 5 rfl, fun w' k => (hM33.af k hmB).cell 6 rfl⟩, ?_⟩⟩
    have hd34 : Ch ah w33 w34 := Ch.drew e34
    refine ab (mj m (ib (p := 5) (b := j) (by omega) (by omega) hlt) (hvh33.aa hd34) (hdl 5 (by omega))) ?_
    rintro v w37 ⟨hv37, hc37⟩
    have hv37' := hv37
    obtain ⟨o37, c37, rfl, _⟩ := hv37
    have hc3337 := hd34.ag hc37
    have hsk37 := hsk33.aa hc3337
    have hs34 := hd34.size
    refine ⟨_, _, _, rfl, hc3337.any, fun w38 e38 => ⟨(hc3337.ag (Ch.alloc e38)).any, ?_⟩⟩
    obtain ⟨o39, c39, w39, r39, hch39, hEb39, hset⟩ := hsk37.JV (hv37'.mono (fun i hi h => (hsk33.ze (w' := w37) (by have := h.1; omega) hi).1)) (by omega) (hEb33.aa hc3337) e38
    refine ⟨o39, _, c39, w39, r39, hc3337.any.same hch39, hEb39.ok 1 rfl, fun w40 e40 => ?_⟩
    obtain ⟨B2, hsk40', hch40, hB2⟩ := hset w40 e40
    have hx40 := IV.Tr (hx33.aa hc3337) hch40 hB2
    have hvh40 := IV.Tr (hvh33.aa hc3337) hch40 hB2
    have hM40 := (hM33.aa hc3337).af hch40 (fun k => k.elim hmB hmE)
    have hsk40 : IC w15 w40 eb (iq c wt j s) (la c wt j s) A2 B2 := by unfold iq la; rw [hhN]; exact hsk40'
    have hp40 := hp15.aa hsk40.ch
    obtain ⟨oK3, cK3, oV3, cV3, hEb40, hRK, hRV⟩ := hsk40.rv
    have hlok := DT m hlt hwk
    clear r39 hset e40 e38 hEb39 hch39 hv37' hx33 hvh33 hsk40' hEb33 hsk33 hsk37 hsk30 hsk26 hM33 hM26
    intro w41 e41 w42 e42
    have hc41 : Ch ah w40 w41 := Ch.alloc e41
    have hc42 : Ch ah w41 w42 := Ch.alloc e42
    have hs41 : w41.heap.size = w40.heap.size + 1 := by subst e41; simp
    have hs42 : w42.heap.size = w41.heap.size + 1 := by subst e42; simp
    have hK41 : V.Own w41 ay 1 (some ⟨w40.heap.size, 0, none⟩) 0 0 [] (· = w40.heap.size) := V.Own.made e41 rfl (Nat.zero_le _) rfl
    have hV42 : V.Own w42 ay 1 (some ⟨w41.heap.size, 0, none⟩) 0 0 [] (· = w41.heap.size) := V.Own.made e42 rfl (Nat.zero_le _) rfl
    obtain ⟨kss, hkss⟩ : ∃ l, l = past.map (fun e => e.1.getD j []) := ⟨_, rfl⟩
    obtain ⟨vss, hvss⟩ : ∃ l, l = past.map (fun e => e.2.getD j []) := ⟨_, rfl⟩
    have hkl : kss.length = past.length := by rw [hkss, List.length_map]
    have hvl : vss.length = past.length := by rw [hvss, List.length_map]
    refine ⟨fun kA kN kC vA vN vC i k w' => ∃ (t : Nat) (AK AV : Nat → Prop), i = t ∧ kN = t ∧ vN = t ∧ t ≤ past.length ∧ k = past.length - t ∧ KV w40 w' kA kC (kss.take t) vA vC (vss.take t) AK AV, ⟨_, 0, (· = w40.heap.size), (· = w41.heap.size), rfl, rfl, rfl, Nat.zero_le _, rfl, ⟨[], hK41.aa hc42, .nil⟩, ⟨[], hV42, .nil⟩, fun i h => ⟨⟨by omega, by omega⟩, by omega⟩, fun i h => ⟨by omega, by omega⟩, hc41.ag hc42⟩, ?_⟩
    clear hK41 hV42
    rintro jk kA kN kC vA vN vC i k w43 ⟨t, AK, AV, rfl, rfl, rfl, ht, rfl, hkv⟩
    refine ⟨dT fun hlt3 => ?_, dF fun hge3 => ?_⟩
    · have hlt3 : vN < past.length := by omega
      have hlk : (kss.take vN).length = vN := by rw [List.length_take]; omega
      have hlv : (vss.take vN).length = vN := by rw [List.length_take]; omega
      obtain ⟨a, o1, c1', o2, c2', rfl, _, hE, hcell⟩ := PV.get hp40 hlt3
      have hhas := AO (hgood _ (List.getElem_mem hlt3)) (b := j) (by omega)
      have hks : kss[vN]'(by omega) = past[vN].1[j]'hhas.1 := by subst hkss; simp [hhas.1]
      have hvs : vss[vN]'(by omega) = past[vN].2[j]'hhas.2.1 := by subst hvss; simp [hhas.2.1]
      obtain ⟨ra, ro, rc, rfl, _, hri, hrc⟩ := RV.get hE.1 hhas.1
      obtain ⟨va, vo, vc, rfl, _, hvi, hvc2⟩ := RV.get hE.2 hhas.2.1
      have hsk1 := au kss vN (by omega)
      have hsv1 := au vss vN (by omega)
      rw [hks] at hsk1
      rw [hvs] at hsv1
      have hb1 := hhas.1
      have hb2 := hhas.2.1
      refine ⟨⟨by omega, by omega⟩, _, _, _, (hcell w43 hkv.ch).1, ⟨by omega, by omega⟩, _, _, _, hrc ah w43 hkv.ch (fun _ _ _ => id), fun w44 e44 => ?_⟩
      obtain ⟨o', c', w45, r45, hkv45, _⟩ := (hkv.aa (Ch.alloc e44)).IZ (hri.mono (fun _ _ _ => trivial)) (ba.new e44) (by omega)
      rw [hlk] at r45
      refine ⟨o', _, c', w45, r45, ⟨by omega, by omega⟩, _, _, _, (hcell w45 hkv45.ch).2, ⟨by omega, by omega⟩, _, _, _, hvc2 ah w45 hkv45.ch (fun _ _ _ => id), fun w46 e46 => ?_⟩
      obtain ⟨o2', c2'', w47, r47, hkv47, _⟩ := (hkv45.aa (Ch.alloc e46)).JV (hvi.mono (fun _ _ _ => trivial)) (ba.new e46) (by omega)
      rw [hlv] at r47
      rw [← hsk1, ← hsv1] at hkv47
      exact ⟨o2', _, c2'', w47, r47, past.length - (vN + 1), by omega, vN + 1, _, _, by rw [ae (by omega) (by omega)]; rfl, rfl, rfl, hlt3, rfl, hkv47⟩
    have hte : vN = past.length := by omega
    subst hte
    rw [List.take_of_length_le (by omega), List.take_of_length_le (by omega)] at hkv
    obtain ⟨rk, hrk⟩ : ∃ l, l = times c wt 4 j hN := ⟨_, rfl⟩
    obtain ⟨rv, hrv⟩ : ∃ l, l = times c wt 5 j hN := ⟨_, rfl⟩
    obtain ⟨q, hq⟩ : ∃ l, l = times c wt 3 j hN := ⟨_, rfl⟩
    have hKj : (iq c wt j s).length = j + 1 := hlok.1.1
    have hVj : (la c wt j s).length = j + 1 := hlok.2.1
    have hKg : (iq c wt j s).getD j [] = rk := by rw [hrk, ← hhN]; exact GR _ _ hKl
    have hVg : (la c wt j s).getD j [] = rv := by rw [hrv, ← hhN]; exact GR _ _ hVl
    have hKe : (iq c wt j s)[j]'(by omega) = rk := by rw [← hKg]; simp [hKj]
    have hVe : (la c wt j s)[j]'(by omega) = rv := by rw [← hVg]; simp [hVj]
    have hok : QE c kss vss rk rv q := ⟨by omega, by omega, fun x hx => by
      rcases List.mem_append.1 hx with hx | hx
      · subst hkss
        obtain ⟨e, he, rfl⟩ := List.mem_map.1 hx
        exact (AO (hgood e he) (b := j) (by omega)).2.2.1
      · rw [List.mem_singleton] at hx; subst hx; rw [← hKe]; exact (hlok.1.2 _ (List.getElem_mem _)).1, fun x hx => by
      rcases List.mem_append.1 hx with hx | hx
      · subst hvss
        obtain ⟨e, he, rfl⟩ := List.mem_map.1 hx
        exact (AO (hgood e he) (b := j) (by omega)).2.2.2
      · rw [List.mem_singleton] at hx; subst hx; rw [← hVe]; exact (hlok.2.2 _ (List.getElem_mem _)).1, by rw [hq]; exact (nO m hlt (p := 3) (by omega) hn2).1⟩
    have hlook : uW c (kss ++ [rk]) (vss ++ [rv]) q c.heads.toNat = nU c (past ++ [(iq c wt j s, la c wt j s)]) j q c.heads.toNat := by
      rw [← GJ, hkss, hvss, List.map_append, List.map_append, ← hKg, ← hVg]; rfl
    obtain ⟨ka, ko, kc, rfl, _, hki, hkc⟩ := RV.get hRK (j := j) (by omega)
    obtain ⟨va, vo, vc, rfl, _, hvi, hvc2⟩ := RV.get hRV (j := j) (by omega)
    rw [hKe] at hki hkc
    rw [hVe] at hvi hvc2
    have hki := hki.mono (G := fun _ => True) (fun _ _ _ => trivial)
    have hvi := hvi.mono (G := fun _ => True) (fun _ _ _ => trivial)
    have hs43 := hkv.ch.size
    refine ⟨fun sA sN sC w' => Ss c kss vss rk rv q w40 (.slice sA sN sC) w', ⟨fun w' => Ch ah w40 w', fun w48 e48 => ⟨hkv.ch.ag (Ch.drew e48), _, _, _, _, _, _, _, ⟨fun w' k => (hM40.aa k).cell 0 rfl, fun w' k => (hM40.aa k).cell 1 rfl, fun w' k => (hM40.aa k).cell 2 rfl, fun w' k => (hM40.aa k).cell 3 rfl, fun w' k => (hM40.aa k).cell 4 rfl, fun w' k => (hM40.aa k).cell 5 rfl, fun w' k => (hM40.aa k).cell 6 rfl⟩, _, _, _, _, _, _, _, ⟨fun w' k => (hM40.aa k).cell 0 rfl, fun w' k => (hM40.aa k).cell 1 rfl, fun w' k => (hM40.aa k).cell 2 rfl, fun w' k => (hM40.aa k).cell 3 rfl, fun w' k => (hM40.aa k).cell 4 rfl, fun w' k => (hM40.aa k).cell 5 rfl, fun w' k => (hM40.aa k).cell 6 rfl⟩, _, _, _, fun w' k => (hEb40.aa k).cell 0 rfl, ⟨by omega, by omega⟩, _, _, _, fun w' k => hkc ah w' k (fun _ _ _ => id), _, _, _, fun w' k => (hEb40.aa k).cell 1 rfl, ⟨by omega, by omega⟩, _, _, _, fun w' k => hvc2 ah w' k (fun _ _ _ => id), ?_⟩⟩, ?_⟩
    · have hkv48 := hkv.aa (Ch.drew e48)
      have hB1 : ∀ i, w48.heap.size ≤ i → ¬ AK i ∧ ¬ AV i := fun i hi => ⟨fun k => by have := (hkv48.ka i k).1.2; omega, fun k => by have := (hkv48.va i k).2; omega⟩
      have tq : ∀ wq, Ch ah w48 wq → Calls Tryz.prog oT #[sg c wt, .int .i64 (3 : Nat), .int .i64 j, .slice o26 hN.length c26, .int .i64 6] wq (bc fun u w' => (∃ (o : Option Addr) (cp : Nat), u = .slice o q.length cp) ∧ IV w' u q (fun i => w48.heap.size ≤ i) ∧ Ch ah wq w') := fun wq hcq => by
        refine ab (mj m (ib (p := 3) (b := j) (by omega) (by omega) hlt) (hvh40.aa (hkv48.ch.ag hcq)) (hdl 3 (by omega))) ?_
        rintro u w' ⟨hi, hc⟩
        have hi' := hi
        obtain ⟨o, cp, rfl, _⟩ := hi
        have := hcq.size
        rw [hq]
        exact ⟨⟨o, cp, rfl⟩, hi'.mono (fun i _ h => by have := h.1; omega), hc⟩
      have h40 := hkv48.ch
      have hR : ∀ (o : Option Addr) (n cp : Nat) (w' : World), Ss c kss vss rk rv q w40 (.slice o n cp) w' → ∃ (A : Option Addr) (N C : Nat), Value.slice o n cp = .slice A N C ∧ Ch ah w40 w' ∧ Ss c kss vss rk rv q w40 (.slice A N C) w' := fun o n cp w' h => ⟨_, _, _, rfl, h.2, h⟩
      have nV : ∀ w', Ch ah w48 w' → ¬ AK w'.heap.size := fun w' h => (hB1 _ h.size).1
      rw [← hkl]
      refine ⟨ab (tq w48 (Ch.refl _ _)) ?_, fun w70 e70 => ⟨h40.ag (Ch.alloc e70), ab (tq w70 (Ch.alloc e70)) ?_, fun w80 e80 => ⟨(h40.ag (Ch.alloc e70)).ag (Ch.alloc e80), ab (tq w80 ((Ch.alloc e70).ag (Ch.alloc e80))) ?_⟩, trivial⟩, fun w85 e85 => ⟨h40.ag (Ch.alloc e85), ab (tq w85 (Ch.alloc e85)) ?_, fun w91 e91 => ⟨(h40.ag (Ch.alloc e85)).ag (Ch.alloc e91), ab (tq w91 ((Ch.alloc e85).ag (Ch.alloc e91))) ?_⟩, trivial⟩, trivial⟩
      · rintro v w55 ⟨⟨oq, cq, rfl⟩, hqi, hc55⟩
        have hc := h40.ag hc55
        refine ⟨_, _, _, rfl, hc, fun w56 e56 => ⟨hc.ag (Ch.alloc e56), ?_, fun w61 e61 => ⟨(hc.ag (Ch.alloc e56)).ag (Ch.alloc e61), ?_⟩, trivial⟩, fun w65 e65 => ⟨hc.ag (Ch.alloc e65), fun w66 e66 => ⟨(hc.ag (Ch.alloc e65)).ag (Ch.alloc e66), ?_⟩⟩, trivial⟩
        · exact Rh m (hkv48.aa (hc55.ag (Ch.alloc e56))) hok (hqi.aa (Ch.alloc e56)) (fun i _ h => hB1 i h) hki hvi (ba.new e56) hR
        · exact Gl m (hkv48.aa ((hc55.ag (Ch.alloc e56)).ag (Ch.alloc e61))) hok ((hqi.aa (Ch.alloc e56)).aa (Ch.alloc e61)) (fun i _ h => hB1 i h) hki hvi ((ba.new e56).aa (Ch.alloc e61)) (ba.new e61) (nV _ (hc55.ag (Ch.alloc e56))) hR
        · exact Gl m (hkv48.aa ((hc55.ag (Ch.alloc e65)).ag (Ch.alloc e66))) hok ((hqi.aa (Ch.alloc e65)).aa (Ch.alloc e66)) (fun i _ h => hB1 i h) hki hvi (ba.new e66) ((ba.new e65).aa (Ch.alloc e66)) (nV _ hc55) hR
      · rintro v w71 ⟨⟨oq, cq, rfl⟩, hqi, hc71⟩
        have hc4871 := (Ch.alloc (F := ah) e70).ag hc71
        have hc := h40.ag hc4871
        refine ⟨_, _, _, rfl, hc, ?_, fun w76 e76 => ⟨hc.ag (Ch.alloc e76), ?_⟩, trivial⟩
        · exact Rh m (hkv48.aa hc4871) hok hqi (fun i _ h => hB1 i h) hki hvi ((ba.new e70).aa hc71) hR
        · exact Gl m (hkv48.aa (hc4871.ag (Ch.alloc e76))) hok (hqi.aa (Ch.alloc e76)) (fun i _ h => hB1 i h) hki hvi (((ba.new e70).aa hc71).aa (Ch.alloc e76)) (ba.new e76) (nV _ hc4871) hR
      · rintro v w81 ⟨⟨oq, cq, rfl⟩, hqi, hc81⟩
        have hc4880 := (Ch.alloc (F := ah) e70).ag (Ch.alloc e80)
        have hc4881 := hc4880.ag hc81
        exact ⟨_, _, _, rfl, h40.ag hc4881, Gl m (hkv48.aa hc4881) hok hqi (fun i _ h => hB1 i h) hki hvi (((ba.new e70).aa (Ch.alloc e80)).aa hc81) ((ba.new e80).aa hc81) (nV _ (Ch.alloc e70)) hR⟩
      · rintro v w86 ⟨⟨oq, cq, rfl⟩, hqi, hc86⟩
        have hc4886 := (Ch.alloc (F := ah) e85).ag hc86
        have hc := h40.ag hc4886
        exact ⟨_, _, _, rfl, hc, fun w87 e87 => ⟨hc.ag (Ch.alloc e87), Gl m (hkv48.aa (hc4886.ag (Ch.alloc e87))) hok (hqi.aa (Ch.alloc e87)) (fun i _ h => hB1 i h) hki hvi (ba.new e87) (((ba.new e85).aa hc86).aa (Ch.alloc e87)) (nV _ (Ch.refl _ _)) hR⟩⟩
      · rintro v w92 ⟨⟨oq, cq, rfl⟩, hqi, hc92⟩
        have hc4891 := (Ch.alloc (F := ah) e85).ag (Ch.alloc e91)
        have hc4892 := hc4891.ag hc92
        exact ⟨_, _, _, rfl, h40.ag hc4892, Gl m (hkv48.aa hc4892) hok hqi (fun i _ h => hB1 i h) hki hvi ((ba.new e91).aa hc92) (((ba.new e85).aa (Ch.alloc e91)).aa hc92) (nV _ (Ch.refl _ _)) hR⟩
    · rintro jk sA sN sC w96 ⟨hse, hc96⟩
      rw [hlook] at hse
      have hlx := Hv m hlt hwk hgood
      have hsl := vZ m hlt hwk hgood (q := q)
      have h6l := nO m hlt (p := 6) (by omega) hsl
      have hxd : (Gm c wt past j s).x = zt s.x (times c wt 6 j (nU c (past ++ [(iq c wt j s, la c wt j s)]) j q c.heads.toNat)) := by
        rw [hq, ← hhN]; rfl
      have hM96 := hM40.aa hc96
      refine ⟨_, _, _, _, _, _, _, ⟨hM96.cell 0 rfl, hM96.cell 1 rfl, hM96.cell 2 rfl, hM96.cell 3 rfl, hM96.cell 4 rfl, hM96.cell 5 rfl, hM96.cell 6 rfl⟩, ab (mj m (ib (p := 6) (b := j) (by omega) (by omega) hlt) hse (by rw [hsl]; show ((c.dim.toNat : Nat) : Int) = c.dim; omega)) ?_⟩
      rintro v w97 ⟨hv97, hc97⟩
      have hv97' := hv97
      obtain ⟨o97, c97, rfl, _⟩ := hv97
      have hc4097 := hc96.ag hc97
      refine ⟨_, _, _, rfl, ab (Ew (hx40.aa hc4097) hv97' hxl (by rw [h6l.1]; omega)) ?_⟩
      rintro v w98 ⟨hv98, hc98⟩
      rw [← hxd] at hv98
      have hx98 := hv98
      obtain ⟨o98, c98, rfl, _⟩ := hv98
      have hc4098 := hc4097.ag hc98
      have hM98 := hM40.aa hc4098
      obtain ⟨s2, hs2d⟩ : ∃ s2, Gm c wt past j s = s2 := ⟨_, rfl⟩
      have hs2K : s2.K = iq c wt j s := by rw [← hs2d]; rfl
      have hs2V : s2.V = la c wt j s := by rw [← hs2d]; rfl
      rw [hs2d] at hlx hx98 hsn ⊢
      have hx2l : s2.x.length ≤ 1000000 := by rw [hlx.x]; omega
      have hn7 := tF m hlt (p := 7) (.inr rfl) hlx.x
      obtain ⟨hu8, hu9, hus, hup⟩ := Ah m hlt hlx.x
      have h10 := Ar m hlt hup
      refine ⟨_, _, _, rfl, _, _, _, _, _, _, _, ⟨hM98.cell 0 rfl, hM98.cell 1 rfl, hM98.cell 2 rfl, hM98.cell 3 rfl, hM98.cell 4 rfl, hM98.cell 5 rfl, hM98.cell 6 rfl⟩, ab (wB m (ib (p := 7) (b := j) (by omega) (by omega) hlt)) ?_⟩
      rintro v w99 ⟨hv99, hc99⟩
      have hv99' := hv99
      obtain ⟨o99, c99, rfl, _⟩ := hv99
      refine ⟨_, _, _, rfl, ab (Kt hv99' (hx98.aa hc99) hx2l) ?_⟩
      rintro v w100 ⟨hv100, hc100⟩
      have hv100' : IV w100 v (ej c wt 7 j s2.x) (db w99 w100) := hv100
      obtain ⟨o100, c100, rfl, _⟩ := hv100
      have hc40100 := (hc4098.ag hc99).ag hc100
      have hM100 := hM40.aa hc40100
      refine ⟨_, _, _, rfl, fun w' => Ch ah w100 w', fun w101 e101 => ⟨Ch.drew e101, _, _, _, _, _, _, _, ⟨fun w' k => (hM100.aa k).cell 0 rfl, fun w' k => (hM100.aa k).cell 1 rfl, fun w' k => (hM100.aa k).cell 2 rfl, fun w' k => (hM100.aa k).cell 3 rfl, fun w' k => (hM100.aa k).cell 4 rfl, fun w' k => (hM100.aa k).cell 5 rfl, fun w' k => (hM100.aa k).cell 6 rfl⟩, _, _, _, _, _, _, _, ⟨fun w' k => (hM100.aa k).cell 0 rfl, fun w' k => (hM100.aa k).cell 1 rfl, fun w' k => (hM100.aa k).cell 2 rfl, fun w' k => (hM100.aa k).cell 3 rfl, fun w' k => (hM100.aa k).cell 4 rfl, fun w' k => (hM100.aa k).cell 5 rfl, fun w' k => (hM100.aa k).cell 6 rfl⟩, ?_⟩⟩
      have hd101 : Ch ah w100 w101 := Ch.drew e101
      have hdl8 : ((ej c wt 7 j s2.x).length : Int) = c.dim := by rw [hn7]; omega
      refine ab (mj m (ib (p := 8) (b := j) (by omega) (by omega) hlt) (hv100'.aa hd101) hdl8) ?_
      rintro v w104 ⟨hv104, hc104⟩
      have hv104' := hv104
      obtain ⟨o104, c104, rfl, _⟩ := hv104
      have hc100104 := hd101.ag hc104
      refine ⟨_, _, _, rfl, hc100104, ab (mj m (ib (p := 9) (b := j) (by omega) (by omega) hlt) (hv100'.aa hc100104) hdl8) ?_⟩
      rintro v w105 ⟨hv105, hc105⟩
      have hv105' := hv105
      obtain ⟨o105, c105, rfl, _⟩ := hv105
      have hc100105 := hc100104.ag hc105
      refine ⟨_, _, _, rfl, hc100105, ab (Nu (hv104'.aa hc105) hv105' (fun x hx => by have := hus x hx; exact ⟨by omega, by omega⟩) (by rw [hu9]; omega)) ?_⟩
      rintro v w106 ⟨hv106, hc106⟩
      have hv106' := hv106
      obtain ⟨o106, c106, rfl, _⟩ := hv106
      have hc100106 := hc100105.ag hc106
      have hM106 := hM100.aa hc100106
      refine ⟨_, _, _, rfl, hc100106, _, _, _, _, _, _, _, ⟨hM106.cell 0 rfl, hM106.cell 1 rfl, hM106.cell 2 rfl, hM106.cell 3 rfl, hM106.cell 4 rfl, hM106.cell 5 rfl, hM106.cell 6 rfl⟩, ab (mj m (ib (p := 10) (b := j) (by omega) (by omega) hlt) hv106' (by rw [hup]; show ((c.hidden.toNat : Nat) : Int) = c.hidden; omega)) ?_⟩
      rintro v w107 ⟨hv107, hc107⟩
      have hv107' := hv107
      obtain ⟨o107, c107, rfl, _⟩ := hv107
      have hc98107 := ((hc99.ag hc100).ag hc100106).ag hc107
      refine ⟨_, _, _, rfl, ab (Ew (hx98.aa hc98107) hv107' hx2l (by rw [h10]; omega)) ?_⟩
      rintro v w108 ⟨hv108, hc108⟩
      have hv108' : IV w108 v (EW c wt j s2).x (db w107 w108) := hv108
      obtain ⟨o108, c108, rfl, _⟩ := hv108
      have hc40107 := hc4098.ag hc98107
      have hs107 := hc40107.size
      refine ⟨_, _, _, rfl, c.blocks.toNat - (j + 1), by omega, j + 1, A2, B2, by rw [ae (by omega) (by omega)]; rfl, by omega, rfl, ?_, ?_⟩
      · rw [hsn]
        show IC w15 w108 eb s2.K s2.V A2 B2
        rw [hs2K, hs2V]
        exact hsk40.aa (hc40107.ag hc108)
      · rw [hsn]
        exact hv108'.mono (fun i hi h => (hsk40.ze (w' := w108) (by have := h.1; omega) hi).2)
  · have hje : j = c.blocks.toNat := by omega
    have hwk := hall j hj
    have hfin : lj c wt past ⟨L, [], []⟩ j = si c wt past (tok : Int) := by rw [hje]; exact hstS.symm
    rw [hfin] at hsk hx hwk
    obtain ⟨s, hsd⟩ : ∃ s, si c wt past (tok : Int) = s := ⟨_, rfl⟩
    rw [hsd] at hsk hx hwk
    have hxl : s.x.length ≤ 1000000 := by rw [hwk.x]; omega
    refine ⟨_, _, _, _, _, _, _, ⟨hM24.cell 0 rfl, hM24.cell 1 rfl, hM24.cell 2 rfl, hM24.cell 3 rfl, hM24.cell 4 rfl, hM24.cell 5 rfl, hM24.cell 6 rfl⟩, ab (wB m (Mh c)) ?_⟩
    rintro v w109 ⟨hv109, hc109⟩
    have hv109' := hv109
    obtain ⟨o109, c109, rfl, _⟩ := hv109
    refine ⟨_, _, _, rfl, ab (Kt hv109' (hx.aa hc109) hxl) ?_⟩
    rintro v w110 ⟨hv110, hc110⟩
    have hv110' : IV w110 v (ej c wt 11 0 s.x) (db w109 w110) := hv110
    obtain ⟨o110, c110, rfl, _⟩ := hv110
    have hc24110 := hc109.ag hc110
    refine ⟨_, _, _, rfl, fun w111 e111 => ?_⟩
    have g1 : Gr ah w110 w111 bd 1 (some ⟨w110.heap.size, 0, none⟩) 0 0 [] := Gr.nG (Ch.refl _ _) e111
    obtain ⟨S, hS⟩ : ∃ S : List Int, qV c wt s.x = S := ⟨_, rfl⟩
    have hSl : S.length = c.vocab.toNat := by rw [← hS]; unfold qV; rw [List.length_map, List.length_range]
    have hSa : ∀ (t : Nat) (ht : t < S.length), S[t] = shift (se (ks c wt 0 0 (t : Nat)) (ej c wt 11 0 s.x)) 5 := fun t ht => by subst hS; simp [qV]
    have hM110 := hM24.aa hc24110
    refine ⟨fun A n C i k w' => ∃ t : Nat, i = t ∧ n = t ∧ t ≤ S.length ∧ k = S.length - t ∧ Gr ah w110 w' bd 1 A t C ((S.take t).map (.int .i64)), ⟨_, 0, rfl, rfl, Nat.zero_le _, rfl, g1⟩, ?_⟩
    rintro jk sA sN sC i k w112 ⟨t, rfl, rfl, ht, rfl, hg⟩
    have hM112 := hM110.aa hg.2
    refine ⟨_, hM112.cell 0 rfl, dT fun hlt => ?_, dF fun hge2 => ?_⟩
    · have hlt : sN < S.length := by omega
      refine ⟨_, _, _, _, _, _, _, ⟨hM112.cell 0 rfl, hM112.cell 1 rfl, hM112.cell 2 rfl, hM112.cell 3 rfl, hM112.cell 4 rfl, hM112.cell 5 rfl, hM112.cell 6 rfl⟩, ab (tm w112 m.ok m.sz (tS c) (q := sN) (by rw [hsd0]; omega)) ?_⟩
      rintro v w113 ⟨o113, c113, rfl, hg113⟩
      have hrl := uC m.ok m.sz (tS c) (q := sN) (by rw [hsd0]; omega)
      have hsd0' : (side c ((0 : Nat) : Int)).2 = c.dim := rfl
      rw [hsd0'] at hrl
      refine ⟨_, _, _, _, rfl, ab (HN (Gr.iv hg113) (hv110'.aa (hg.2.ag hg113.2)) (by omega)) ?_⟩
      rintro v w114 ⟨rfl, hc114⟩
      refine ⟨_, rfl, ab (sI w114 (ft.Ap _ _) 5) ?_⟩
      rintro v w115 ⟨rfl, hc115⟩
      refine ⟨_, rfl, fun w116 e116 => ?_⟩
      obtain ⟨A', C', w117, hr, hg117, _⟩ := (hg.aa ((hg113.2.ag hc114).ag hc115)).next bi ay hlt (by omega) e116 (by rw [hSa sN hlt]) rfl (by omega)
      exact ⟨A', _, C', w117, hr, S.length - (sN + 1), by omega, sN + 1, by rw [ae (by omega) (by omega)]; rfl, rfl, hlt, rfl, hg117⟩
    · have hne : sN = S.length := by omega
      subst hne
      rw [List.take_length] at hg
      have hc24112 := hc24110.ag hg.2
      have hsk112 := hsk.aa hc24112
      obtain ⟨oK, cK, oV, cV, hEb, hRK, hRV⟩ := hsk112.rv
      have hE112 := hE15.aa hsk112.ch
      refine ⟨_, _, _, _, _, _, ⟨hEb.cell 0 rfl, hEb.cell 1 rfl⟩, ⟨hE112.ok 0 rfl, hE112.ok 1 rfl⟩, fun w118 e118 => ?_⟩
      have e118' : w118 = _ := e118
      have hE118 := (hE112.set (o := 0) rfl).set e118'
      have hc118 : Ch (· = rb) w112 w118 := Ch.Dd (F := (· = rb)) e118 rfl rfl
      have hs118 : w118.heap.size = w112.heap.size := by subst e118; simp [World.setCell]
      have hc15118 : Ch ah w w118 := (hc015.ag hsk112.ch).trans hc118 (fun i hi he => by omega)
      have hs24 := hsk.ch.size
      have hs110 := hc24110.size
      refine ⟨_, _, _, _, _, _, ⟨hE118.cell 0 rfl, hE118.cell 1 rfl⟩, hc15118, fun k => absurd hgood k, fun _ k => absurd htok k, fun _ _ k => absurd hlong k, fun _ _ _ => ⟨(.slice oK s.K.length cK, .slice oV s.V.length cV), .slice sA S.length sC, rfl, ⟨?_, ?_⟩, ?_⟩⟩
      · unfold nL; rw [hsd]
        exact (hRK.af hc118 (fun i _ h k => by have := h.1; omega)).mono (fun i _ h => ⟨by have := h.1; omega, by have := h.2; omega⟩)
      · unfold nL; rw [hsd]
        exact (hRV.af hc118 (fun i _ h k => by have := h.1; omega)).mono (fun i _ h => ⟨by have := h.1; omega, by have := h.2; omega⟩)
      · unfold uR; rw [hsd, hS]
        exact ((Gr.iv hg).af hc118 (fun i _ h k => by have := h.1; omega)).mono (fun i _ h => ⟨by have := h.1; omega, by have := h.2; omega⟩)
end
end Go.Proofs.YtkbikekbaboclaaGreat.Nb
