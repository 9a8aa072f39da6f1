/- WardExact's contract: of every row of deeds the Go function answers true and leaves what was there; the conditions stand in each theorem. -/
import Derived.Test.YtamkffjmggbekaaWardX
import Derived.Test.YtamkffjmggbekaaVcWardX
set_option linter.unusedVariables false
set_option linter.unusedSimpArgs false
namespace Go.Proofs.Ytamkffjmggbekaa.Ward
open Go Go.Proofs Go.Proofs.Ytamkffjmggbekaa.V Go.Proofs.Ytamkffjmggbekaa.Vc Go.Proofs.Ytamkffjmggbekaa.Conf Go.RowKit

/-- A deed. -/
structure ActW where
  kind : Int
  q : AskD × AskP
def actW (x : ActW) : List Value := [.int .i64 x.kind] ++ askE x.q
set_option maxRecDepth 100000 in
theorem actW_dat {w : World} {x : List Value} (hl : x.length = Try.prog.cellsOf t_coadjutorlaw24_Act) (h : DatC Try.prog w t_coadjutorlaw24_Act x) : ∃ y : ActW, x = actW y ∧ Rd w y.q.2.po (y.q.1.prompt.map (.int .i64)) (fun _ => True) ∧ Rd w y.q.2.qo (y.q.1.draws.map (.int .i64)) (fun _ => True) := by
  obtain ⟨_, hf⟩ := h.struct Try.underlying56
  have h2 : Try.prog.cellsOf t_coadjutorlaw24_Act = 6 := by kernel_rfl
  have h3 : Try.prog.cellsOf t_ward_Ask = 5 := by kernel_rfl
  rw [h2] at hl
  match x, hl with
  | [a, b, c, d, e, f], _ =>
    have h0 : DatC Try.prog w t_int [a] := hf 0 _ rfl
    have h1 : DatC Try.prog w t_ward_Ask [b, c, d, e, f] := hf 1 _ rfl
    obtain ⟨_, hg⟩ := h1.struct Try.underlying32
    have g0 : DatC Try.prog w t_int [b] := hg 0 _ rfl
    have g1 : DatC Try.prog w t_int [c] := hg 1 _ rfl
    have g2 : DatC Try.prog w t_S_int [d] := hg 2 _ rfl
    have g3 : DatC Try.prog w t_int [e] := hg 3 _ rfl
    have g4 : DatC Try.prog w t_S_int [f] := hg 4 _ rfl
    obtain ⟨n0, e0, _⟩ := h0.int (k := .i64) (by kernel_rfl)
    obtain ⟨n1, e1, _⟩ := g0.int (k := .i64) (by kernel_rfl)
    obtain ⟨n2, e2, _⟩ := g1.int (k := .i64) (by kernel_rfl)
    obtain ⟨o3, c3, xs3, e3, _, _, _, _, hr3⟩ := g2.ints (k := .i64) (e := t_int) (by kernel_rfl) (by kernel_rfl)
    obtain ⟨n4, e4, _⟩ := g3.int (k := .i64) (by kernel_rfl)
    obtain ⟨o5, c5, xs5, e5, _, _, _, _, hr5⟩ := g4.ints (k := .i64) (e := t_int) (by kernel_rfl) (by kernel_rfl)
    injection e0 with e0 _
    injection e1 with e1 _
    injection e2 with e2 _
    injection e3 with e3 _
    injection e4 with e4 _
    injection e5 with e5 _
    subst e0; subst e1; subst e2; subst e3; subst e4; subst e5
    exact ⟨⟨n0, ⟨n1, n2, xs3, n4, xs5⟩, ⟨o3, c3, o5, c5⟩⟩, rfl, hr3, hr5⟩
/-- Both wards. -/
structure SX (W w : World) (wb b ub mb : Nat) (pages : Int) (al ar : List AskD) (F FU : Nat → Prop) : Prop where
  l : WB W w wb b pages al F
  r : RW W w ub pages ar FU
  m : Blk w mb (mdE c24 w24) 50
  nf : ∀ i, F i → ¬ FU i
  mf : ¬ F mb ∧ ¬ FU mb
  bf : ¬ FU b
section
variable {W w w' : World} {wb b ub mb : Nat} {pages : Int} {al ar al' ar' : List AskD} {F F' FU FU' G : Nat → Prop}
theorem SX.far (h : SX W w wb b ub mb pages al ar F FU) (hc : Ch G w w') (hG : ∀ i, i < w.heap.size → G i → W.heap.size ≤ i ∧ ¬ F i ∧ ¬ FU i ∧ i ≠ b ∧ i ≠ mb) : SX W w' wb b ub mb pages al ar F FU :=
  ⟨h.l.far hc (fun i hi hg => ⟨(hG i hi hg).1, (hG i hi hg).2.1, (hG i hi hg).2.2.2.1⟩), h.r.far hc (fun i hi hg => ⟨(hG i hi hg).1, (hG i hi hg).2.2.1⟩), h.m.keep hc (fun hg => (hG mb h.m.lt hg).2.2.2.2 rfl), h.nf, h.mf, h.bf⟩
theorem SX.keepN (h : SX W w wb b ub mb pages al ar F FU) (hc : Ch Non w w') : SX W w' wb b ub mb pages al ar F FU := h.far hc (fun _ _ h => h.elim)
theorem SX.left (h : SX W w wb b ub mb pages al ar F FU) (hs : WS W w' wb pages al' F') (hE : ∀ i, F' i → Ext F w w' i) (hc : Ch F w w') : SX W w' wb b ub mb pages al' ar F' FU :=
  ⟨h.l.step hs hE hc, h.r.far hc (fun i _ hi => ⟨(h.l.s.f i hi).1, h.nf i hi⟩), h.m.keep hc h.mf.1, fun i hi hu => by
    rcases hE i hi with hi | hi
    · exact h.nf i hi hu
    · have := hi.1; have := (h.r.foot i hu).2; omega, ⟨ext_not hE h.m.lt h.mf.1, h.mf.2⟩, h.bf⟩
theorem SX.right (h : SX W w wb b ub mb pages al ar F FU) (hr : RW W w' ub pages ar' FU') (hE : ∀ i, FU' i → Ext FU w w' i) (hc : Ch FU w w') : SX W w' wb b ub mb pages al ar' F FU' :=
  ⟨h.l.far hc (fun i _ hi => ⟨(h.r.foot i hi).1, fun hf => h.nf i hf hi, fun he => h.bf (he ▸ hi)⟩), hr, h.m.keep hc h.mf.2, fun i hi hu => by
    rcases hE i hu with hu | hu
    · exact h.nf i hi hu
    · have := hu.1; have := (h.l.s.f i hi).2; omega, ⟨h.mf.1, ext_not hE h.m.lt h.mf.2⟩, ext_not hE (Blk.lt h.l.r) h.bf⟩
theorem RW.row (h : RW W w ub pages al F) : ∃ (o : Option Addr) (c : Nat), (∀ w', Ch Non w w' → w'.cell? ⟨ub, 1, none⟩ = some (.slice o al.length c)) ∧
    ∀ m (hm : m < al.length), ∃ p, o = some p ∧ ∀ w', Ch Non w w' → w'.cell? (p.add (m * 5)) = some (.int .i64 al[m].id) ∧ w'.cell? ((p.add (m * 5)).add 1) = some (.int .i64 al[m].ver) := by
  obtain ⟨o, c, qs, Fa, hC, rfl⟩ := h
  refine ⟨o, c, fun w' hc => by rw [List.length_map]; exact (hC.keepN hc).blk.cell 1 rfl, fun m hm => ?_⟩
  rw [List.length_map] at hm
  obtain ⟨p, hp, _, _, _⟩ := hC.own.rd.elem (sz := 5) (enc := askE) (fun _ => rfl) (by omega) hm
  refine ⟨p, hp, fun w' hc => ?_⟩
  obtain ⟨p', hp', _, _, hcell⟩ := (hC.own.keepN hc).rd.elem (sz := 5) (enc := askE) (fun _ => rfl) (by omega) hm
  rw [hp] at hp'
  injection hp' with hp'
  subst hp'
  rw [List.getElem_map]
  have h0 := hcell 0 _ rfl
  rw [add_none] at h0
  exact ⟨h0, hcell 1 _ rfl⟩
/-- One more ahead of all. -/
theorem RW.ahead {q : AskD × AskP} (h : RW W w ub pages al F) (hq : AskR w q (fun i => i < W.heap.size)) (hn : al.length < 900) {w2 : World} (e1 : w2 = w.alloc (.cells (askE q).toArray t_coadjutorref24_Ask (0, 0))) {o : Option Addr} {n c : Nat} (hrow : w.cell? ⟨ub, 1, none⟩ = some (.slice o n c)) :
    ∃ (o' : Option Addr) (c' : Nat) (w3 : World), (Builtin.append_ #[t_S_coadjutorref24_Ask, t_S_coadjutorref24_Ask] t_S_coadjutorref24_Ask #[.slice (some ⟨w.heap.size, 0, none⟩) 1 1, .slice o n c]).run Try.prog w2 = .ok (.slice o' (1 + n) c') w3 ∧ Ch Non w w3 ∧
      ((∃ u, w3.cell? ⟨ub, 1, none⟩ = some u) ∧ w3.frozen? ⟨ub, 1, none⟩ = false) ∧ ∀ w4 : World, w4 = w3.setCell ⟨ub, 1, none⟩ (.slice o' (1 + n) c') → ∃ F', RW W w4 ub pages (q.1 :: al) F' ∧ (∀ i, F' i → Ext F w w4 i) ∧ Ch F w w4 := by
  obtain ⟨o1, c1, qs, Fa, hC, rfl⟩ := h
  rw [List.length_map] at hn
  rw [hC.blk.cell 1 rfl] at hrow
  injection hrow with hrow
  injection hrow with r1 r2 r3
  subst r1; subst r2; subst r3
  have hG := Gr.made (G := Non) (n := 1) (sz := 5) (Ch.refl _ w) e1 rfl (by omega)
  have hc12 : Ch Non w w2 := Ch.alloc e1
  have hC2 := hC.keepN hc12
  obtain ⟨o', c', w3, hr, hG3, _⟩ := hG.app (m := qs.length) el_S_coadjutorref24_Ask t_S_coadjutorref24_Ask (c2 := c1) hC2.own.rd hC2.own.len (asks_one qs) (by omega) (by omega)
  have hc13 : Ch Non w w3 := hG3.2
  have hv : askE q ++ (qs.map askE).flatten = ((q :: qs).map askE).flatten := by simp
  have ho : Own w3 t_coadjutorref24_Ask 5 o' (1 + qs.length) c' ((q :: qs).map askE).flatten (Ext Fa w w3) := hv ▸ hG3.1.mono (fun i _ hi => .inr hi)
  obtain ⟨hok, hst⟩ := hC.store (qs' := q :: qs) hc13 (fun _ _ h => h.elim) ho (by rw [List.length_cons]; omega) (fun q' hq' => by
    rcases List.mem_cons.1 hq' with rfl | hq'
    · exact hq
    · exact hC.dat q' hq')
  refine ⟨o', c', w3, hr, hc13, hok, fun w4 e4 => ?_⟩
  obtain ⟨hC4, hc4⟩ := hst w4 e4
  exact ⟨_, ⟨o', c', q :: qs, _, hC4, rfl⟩, fun i hi => hi, hc4⟩
end
theorem ofL_snoc (vs : List Int) (l : List AskD) (a : AskD) : ofL vs (l ++ [a]) = ofL vs l ++ (if decide (a.ver ∈ vs) = true then [a.id] else []) := by
  unfold ofL
  rw [List.filter_append, List.map_append, List.filter_cons]
  split <;> simp
theorem findL_lt {al : List AskD} {id : Int} (h : findL al id ≥ 0) : ∃ i : Nat, findL al id = i ∧ i < al.length ∧ (al.findIdx fun a => a.id == id) = i := by
  unfold findL at h ⊢
  split
  · rename_i hlt; exact ⟨_, rfl, hlt, rfl⟩
  · rename_i hlt; rw [if_neg hlt] at h; omega
theorem hcf24 : -1000 ≤ c24.context ∧ c24.context ≤ 1000 := by decide
set_option maxRecDepth 100000 in
set_option maxHeartbeats 4000000 in
theorem WardExact_true (W : World) (pages : Int) (hp0 : (Lit.int .i64 pages).wf = true) (o1 : Option Addr) (n1 c1 : Nat) (h1 : DatC Try.prog W t_S_coadjutorlaw24_Act [.slice o1 n1 c1]) (version : Int) (hv0 : (Lit.int .i64 version).wf = true) :
    Calls Try.prog i_coadjutorlaw24_WardExact #[.int .i64 pages, .slice o1 n1 c1, .int .i64 version] W (Ret fun v w' => v = .bool true ∧ Ch Non W w') := by
  obtain ⟨o1', c1', av, hcs1, _, hc1m, hm1, hQ, ha⟩ := h1.sliceOf (e := t_coadjutorlaw24_Act) (enc := actW) (Q := fun y => Rd W y.q.2.po (y.q.1.prompt.map (.int .i64)) (fun _ => True) ∧ Rd W y.q.2.qo (y.q.1.draws.map (.int .i64)) (fun _ => True)) (by kernel_rfl) (fun x hl hd => actW_dat hl hd)
  injection hcs1 with hcs1
  injection hcs1 with q1 q2 q3
  subst q1; subst q2; subst q3
  refine coadjutorlaw24_WardExact.calls _ _ _ _ _ ?_
  unfold coadjutorlaw24_WardExact.vc
  refine step_call (awake_spec W) ?_
  rintro v w1 ⟨rfl, hC1⟩
  refine ⟨_, rfl, iteF rfl ?_⟩
  by_cases hpg : 1 ≤ pages ∧ pages ≤ 64
  rotate_left
  · refine step_call (New_spec w1 pages) ?_
    rintro v w2 ⟨_, hN, hc2⟩
    obtain rfl := hN hpg
    exact ⟨_, rfl, fun _ => ⟨rfl, hC1.andN hc2⟩, fun h => ⟨fun _ => ⟨rfl, hC1.andN hc2⟩, fun h2 => absurd ⟨by have := of_decide_eq_false h; omega, by have := of_decide_eq_false h2; omega⟩ hpg⟩⟩
  refine step_call (wNew_spec hC1 pages hpg.1 hpg.2) ?_
  rintro v w2 ⟨wb, F2, rfl, hS2, hF2, hc2⟩
  refine ⟨_, rfl, iteF (decide_eq_false (by omega)) (iteF (decide_eq_false (by omega)) ?_)⟩
  refine step_call (zeros_spec w2) ?_
  rintro v w3 ⟨b, rfl, hb0, hb1, hc3⟩
  have hB3 : WB W w3 wb b pages [] F2 := ⟨hS2.keepN hc3, hb1, fun h => by have := (hS2.f _ h).2; omega⟩
  clear hS2 hF2 hb0 hb1 hc2 hc3
  refine ⟨_, rfl, ?_⟩
  refine step_call (shape_spec w3) ?_
  rintro v w4 ⟨rfl, hc4⟩
  have hB4 := hB3.keepN hc4
  refine ⟨_, _, _, _, _, _, rfl, ?_⟩
  refine step_call (Weights_spec hB4.r) ?_
  rintro v w5 ⟨rfl, rfl⟩
  refine ⟨_, rfl, fun w6 e6 => ?_⟩
  have hM6 := Blk.new e6
  refine ⟨⟨hM6.ok 0 rfl, hM6.ok 1 rfl, hM6.ok 2 rfl, hM6.ok 3 rfl, hM6.ok 4 rfl, hM6.ok 5 rfl, hM6.ok 6 rfl⟩, fun w7 e7 w8 e8 => ?_⟩
  have e7' : w7 = w6.setCells w5.heap.size 0 (mdE c24 w24) := e7
  have hM7 := hM6.all (mdE c24 w24) rfl e7'
  have hc57 : Ch Non w5 w7 := (Ch.alloc (F := Non) e6).trans (Ch.sets (F := (· = w5.heap.size)) e7' rfl) (fun i hi he => by omega)
  have hU8 := Blk.new e8
  have s5 := hM7.lt
  have s7 : w7.heap.size < w8.heap.size := hU8.lt
  have hw5 := hB4.s.c.size
  have hB7 := hB4.keepN hc57
  have hS8 : SX W w8 wb b w7.heap.size w5.heap.size pages [] [] F2 (· = w7.heap.size) :=
    ⟨hB7.keepN (Ch.alloc e8), ⟨none, 0, [], Non, ⟨hU8, Own.nil _ _ _ _, fun q hq => (by cases hq), rfl, fun i hi => hi.elim, (hB7.s.c).andN (Ch.alloc e8), fun i hi => ⟨by omega, by omega⟩⟩, rfl⟩, hM7.alloc e8, fun i hi he => by have := (hB7.s.f i hi).2; omega,
      ⟨fun h => by have := (hB4.s.f _ h).2; omega, by omega⟩, fun he => by have := Blk.lt hB7.r; omega⟩
  clear e6 e7 e7' e8 hM6 hM7 hU8 hB3 hB4 hB7 hc57 hc4
  generalize w7.heap.size = ub at hS8 ⊢
  generalize w5.heap.size = mb at hS8 hw5 ⊢
  clear s5 s7
  have hmW : W.heap.size ≤ mb := hw5
  clear hw5
  refine ⟨fun w' => ∃ al F FU, SX W w' wb b ub mb pages al al F FU, ⟨fun i f w' => ∃ (j : Nat) (al : List AskD) (F FU : Nat → Prop), i = j ∧ j ≤ av.length ∧ j ≤ 60 ∧ f = av.length - j ∧ SX W w' wb b ub mb pages al al F FU ∧ al.length ≤ j, ⟨_, 0, [], F2, _, rfl, Nat.zero_le _, by omega, rfl, hS8, Nat.le_refl _⟩, ?_⟩, ?_⟩
  · clear hS8
    rintro jk i f w9 ⟨j, al, F, FU, rfl, hj, hj60, rfl, hS, hal⟩
    have hfin : ∃ al F FU, SX W w9 wb b ub mb pages al al F FU := ⟨al, F, FU, hS⟩
    refine ⟨fun hlt => ⟨fun h60 => ?_, fun _ => hfin⟩, fun _ => hfin⟩
    clear hfin
    have hlt : j < av.length := by have := of_decide_eq_true hlt; omega
    have h60 : j < 60 := by have := of_decide_eq_true h60; omega
    obtain ⟨p, hp, _, _, hcell⟩ := (ha.keepN hS.l.s.c).elem (sz := 6) (enc := actW) (fun _ => rfl) (by omega) hlt
    obtain ⟨hq1, hq2⟩ := hQ _ (List.getElem_mem hlt)
    generalize av[j] = x at hcell hq1 hq2
    rw [← Int.toNat_natCast j] at hcell
    have h0 := hcell 0 _ rfl
    rw [add_none] at h0
    subst hp
    refine ⟨⟨by omega, by omega⟩, _, _, _, _, _, _, _, _, _, _, ⟨h0, hcell 1 _ rfl, hcell 2 _ rfl, hcell 3 _ rfl, hcell 4 _ rfl, hcell 5 _ rfl⟩, fun w10 e10 => ?_⟩
    have hA10 := Blk.new e10
    refine ⟨⟨hA10.ok 0 rfl, hA10.ok 1 rfl, hA10.ok 2 rfl, hA10.ok 3 rfl, hA10.ok 4 rfl, hA10.ok 5 rfl⟩, fun w11 e11 => ?_⟩
    have e11' : w11 = w10.setCells w9.heap.size 0 (actW x) := e11
    have hA11 := hA10.all (actW x) rfl e11'
    have hc911 : Ch Non w9 w11 := (Ch.alloc (F := Non) e10).trans (Ch.sets (F := (· = w9.heap.size)) e11' rfl) (fun i hi he => by omega)
    have hA11 : Blk w11 w9.heap.size (actW x) 56 := hA11
    clear e10 e11 e11' hA10 hcell h0
    have hab : ¬ (F w9.heap.size ∨ FU w9.heap.size) := by
      rintro (h | h)
      · have := (hS.l.s.f _ h).2; omega
      · have := (hS.r.foot _ h).2; omega
    have hsa := hA11.lt
    have hS := hS.keepN hc911
    have hmlt := hS.m.lt
    have hblt := Blk.lt hS.l.r
    generalize w9.heap.size = ab at hA11 hab hsa ⊢
    clear hc911
    refine ⟨_, _, _, hA11.cell 3 rfl, fun _ => ⟨rfl, hS.l.s.c⟩, fun h40 => ?_⟩
    refine ⟨_, _, _, hA11.cell 5 rfl, fun _ => ⟨rfl, hS.l.s.c⟩, fun h41 => ?_⟩
    have h40 : x.q.1.prompt.length ≤ 40 := by have := of_decide_eq_false h40; omega
    have h41 : x.q.1.draws.length ≤ 40 := by have := of_decide_eq_false h41; omega
    have hq : ∀ {w'}, Ch Non W w' → AskR w' x.q (fun i => i < W.heap.size) := fun hc => ⟨(hq1.mono (fun i hi _ => hi)).keepN hc, (hq2.mono (fun i hi _ => hi)).keepN hc, by omega, by omega⟩
    have ac : ∀ {w'}, Blk w' ab (actW x) 56 → w'.cell? ⟨ab, 1, none⟩ = some (.int .i64 x.q.1.id) ∧ w'.cell? ⟨ab, 2, none⟩ = some (.int .i64 x.q.1.ver) ∧ w'.cell? ⟨ab, 3, none⟩ = some (.slice x.q.2.po x.q.1.prompt.length x.q.2.pc) ∧ w'.cell? ⟨ab, 4, none⟩ = some (.int .i64 x.q.1.most) ∧ w'.cell? ⟨ab, 5, none⟩ = some (.slice x.q.2.qo x.q.1.draws.length x.q.2.qc) := fun h => ⟨h.cell 1 rfl, h.cell 2 rfl, h.cell 3 rfl, h.cell 4 rfl, h.cell 5 rfl⟩
    have as_ : ∀ {G : Nat → Prop} {w : World}, Blk w ab (actW x) 56 → ¬ G ab → (∀ w', Ch G w w' → w'.cell? ⟨ab, 1, none⟩ = some (.int .i64 x.q.1.id)) ∧ (∀ w', Ch G w w' → w'.cell? ⟨ab, 2, none⟩ = some (.int .i64 x.q.1.ver)) ∧ (∀ w', Ch G w w' → w'.cell? ⟨ab, 3, none⟩ = some (.slice x.q.2.po x.q.1.prompt.length x.q.2.pc)) ∧ (∀ w', Ch G w w' → w'.cell? ⟨ab, 4, none⟩ = some (.int .i64 x.q.1.most)) ∧ (∀ w', Ch G w w' → w'.cell? ⟨ab, 5, none⟩ = some (.slice x.q.2.qo x.q.1.draws.length x.q.2.qc)) := fun h hg =>
      ⟨fun w' hc => (h.keep hc hg).cell 1 rfl, fun w' hc => (h.keep hc hg).cell 2 rfl, fun w' hc => (h.keep hc hg).cell 3 rfl, fun w' hc => (h.keep hc hg).cell 4 rfl, fun w' hc => (h.keep hc hg).cell 5 rfl⟩
    refine ⟨fun w' => Ch Non w11 w', fun w12 e12 => ⟨Ch.drew e12, _, _, _, _, _, _, _, _, _, as_ hA11 id, _, _, _, _, _, _, _, _, _, as_ hA11 id, ?_⟩⟩
    have hc12 : Ch Non w11 w12 := Ch.drew e12
    refine step_call (Need_spec w12 x.q (by omega)) ?_
    rintro v w15 ⟨rfl, hc15⟩
    have hc1115 := hc12.andN hc15
    refine ⟨_, rfl, hc1115, ?_⟩
    refine step_call (form_spec w15 x.q) ?_
    rintro v w16 ⟨rfl, hc16⟩
    have hc1116 := hc1115.andN hc16
    refine ⟨_, _, _, _, _, _, _, _, _, rfl, hc1116, ?_⟩
    refine step_call (RNeed_spec w16 x.q (by omega)) ?_
    rintro v w17 ⟨rfl, hc17⟩
    have hc1117 := hc1116.andN hc17
    refine ⟨_, rfl, hc1117, iteF (by simp) ⟨_, _, _, _, _, _, _, _, _, as_ hA11 id, _, _, _, _, _, _, _, _, _, as_ hA11 id, ?_⟩⟩
    have hC17 := hS.l.s.c.andN hc1117
    refine step_call (Copy_spec (hq hC17)) ?_
    rintro v w20 ⟨p20, rfl, hq20, hc20⟩
    have hc1120 := hc1117.andN hc20
    refine ⟨_, _, _, _, _, _, _, _, _, rfl, hc1120, ?_⟩
    refine step_call (form_spec w20 x.q) ?_
    rintro v w21 ⟨rfl, hc21⟩
    have hc1121 := hc1120.andN hc21
    have hC21 := hS.l.s.c.andN hc1121
    refine ⟨_, _, _, _, _, _, _, _, _, rfl, hc1121, ?_⟩
    refine step_call (alike_spec (hq20.keepN hc21) (hq hC21)) ?_
    rintro v w22 ⟨rfl, hc22⟩
    have hc1122 := hc1121.andN hc22
    have hC22 := hS.l.s.c.andN hc1122
    refine ⟨_, rfl, hc1122, iteF (by simp) ⟨_, _, _, _, _, _, _, _, _, as_ hA11 id, _, _, _, _, _, _, _, _, _, ac (hA11.keepN hc1122), hc1122, ?_⟩⟩
    refine step_call (Copy_spec (hq hC22)) ?_
    rintro v w24 ⟨p24, rfl, hq24, hc24⟩
    have hc1124 := hc1122.andN hc24
    have hC24 := hS.l.s.c.andN hc1124
    refine ⟨_, _, _, _, _, _, _, _, _, rfl, hc1124, ?_⟩
    refine step_call (Same_spec (hq hC24) hq24) ?_
    rintro v w25 ⟨rfl, hc25⟩
    have hc1125 := hc1124.andN hc25
    refine ⟨_, rfl, hc1125, iteF (by simp) ?_⟩
    have hS := hS.keepN hc1125
    have hA := hA11.keepN hc1125
    have hs1125 := hc1125.size
    clear hc12 hc15 hc1115 hc16 hc1116 hc17 hc1117 hC17 hq20 hc20 hc1120 hc21 hc1121 hC21 hc22 hc1122 hC22 hq24 hc24 hc1124 hC24 hc25 hc1125 e12 hA11
    have hsa : ab < w25.heap.size := hA.lt
    refine ⟨fun w' => (∃ al F FU, SX W w' wb b ub mb pages al al F FU ∧ al.length ≤ j + 1) ∧ Blk w' ab (actW x) 56, ?_, ?_⟩
    · refine ⟨_, hA.cell 0 rfl, fun k5 => ?_, fun k5 => ⟨fun k6 => ?_, fun k6 => ⟨fun k7 => ?_, fun k7 => ?_⟩⟩⟩
      · refine ⟨_, hA.cell 1 rfl, ?_⟩
        refine step_call (RAt_spec hS.r (by omega) _) ?_
        rintro v w26 ⟨rfl, rfl⟩
        refine ⟨_, rfl, fun hf => ?_, fun hf => ?_⟩
        · have hf := of_decide_eq_true hf
          refine ⟨_, _, _, _, _, _, _, _, _, ac hA, ?_⟩
          refine step_call (wBack_spec hS.l.s (hq hS.l.s.c) (by omega)) ?_
          rintro v w27 ⟨rfl, F27, hS27, hE27, hc27⟩
          rw [if_pos hf] at hS27 ⊢
          exact ⟨_, rfl, iteF rfl ⟨⟨al, F27, FU, hS.left hS27 hE27 hc27, by omega⟩, hA.keep hc27 (fun h => hab (.inl h))⟩⟩
        · have hf := of_decide_eq_false hf
          obtain ⟨oR, cR, hrow, _⟩ := hS.r.row
          refine ⟨fun w' => Ch Non w26 w', fun w28 e28 => ⟨Ch.drew e28, _, _, _, _, _, _, _, _, _, as_ hA id, _, _, _, hrow, ?_⟩⟩
          have hc28 : Ch Non w26 w28 := Ch.drew e28
          refine step_call (form_spec w28 x.q) ?_
          rintro v w31 ⟨rfl, hc31⟩
          have hc2631 := hc28.andN hc31
          refine ⟨_, _, _, _, _, _, _, _, _, rfl, hc2631, fun w32 e32 => ?_⟩
          have hS31 := hS.keepN hc2631
          obtain ⟨o', c', w33, hr33, hc33, hok, hst⟩ := hS31.r.ahead (hq hS31.l.s.c) (by omega) e32 (hrow _ hc2631)
          refine ⟨hc2631.andN (Ch.alloc e32), o', _, c', w33, hr33, hc2631.andN hc33, hok, fun w34 e34 => ?_⟩
          obtain ⟨FU', hR34, hE34, hc34⟩ := hst w34 e34
          have hS34 := hS31.right hR34 hE34 hc34
          have hA34 := (hA.keepN hc2631).keep hc34 (fun h => hab (.inr h))
          refine ⟨_, _, _, _, _, _, _, _, _, ac hA34, ?_⟩
          refine step_call (wBack_spec hS34.l.s (hq hS34.l.s.c) (by omega)) ?_
          rintro v w35 ⟨rfl, F35, hS35, hE35, hc35⟩
          rw [if_neg hf] at hS35 ⊢
          exact ⟨_, rfl, iteF rfl ⟨⟨_, F35, FU', hS34.left hS35 hE35 hc35, by rw [List.length_cons]; omega⟩, hA34.keep hc35 (fun h => hab (.inl h))⟩⟩
      · refine step_call (wTake_spec hS.l.s (by omega)) ?_
        rintro v w36 ⟨p36, F36, rfl, hq36, hS36, hE36, hc36⟩
        have hS36 := hS.left hS36 hE36 hc36
        have hA36 := hA.keep hc36 (fun h => hab (.inl h))
        refine ⟨_, _, _, _, _, _, _, _, _, _, rfl, fun w37 e37 => ?_⟩
        have hB37 := Blk.new e37
        refine ⟨⟨hB37.ok 0 rfl, hB37.ok 1 rfl, hB37.ok 2 rfl, hB37.ok 3 rfl, hB37.ok 4 rfl⟩, fun w38 e38 => ?_⟩
        obtain ⟨hB38, hc38⟩ := askNew (al.headD ask0.1, p36) e37 e38
        have hS38 := hS36.keepN hc38
        have hA38 := hA36.keepN hc38
        have hq38 := hq36.keepN hc38
        have hU38 : ¬ FU w36.heap.size := fun h => by have := (hS36.r.foot _ h).2; omega
        obtain ⟨oR, cR, hrow, _⟩ := hS38.r.row
        refine ⟨fun w' => Ch FU w38 w', fun w39 e39 => ⟨Ch.drew e39, _, _, _, hrow _ (Ch.drew e39), Ch.drew e39, iteF (by
          have e : decide (0 < al.length) = decide ((al.length : Int) > 0) := decide_eq_decide.2 (by omega)
          rw [e, beq_self_eq_true]; rfl) ?_⟩⟩
        have hc39 : Ch Non w38 w39 := Ch.drew e39
        refine ⟨fun hT => ?_, fun hT => iteT (by rw [hT]; rfl) ?_⟩
        · have hpos : 0 < al.length := of_decide_eq_true hT
          refine ⟨_, _, _, _, _, _, _, _, _, ⟨fun w' hc => (hB38.keep hc hU38).cell 0 rfl, fun w' hc => (hB38.keep hc hU38).cell 1 rfl, fun w' hc => (hB38.keep hc hU38).cell 2 rfl, fun w' hc => (hB38.keep hc hU38).cell 3 rfl, fun w' hc => (hB38.keep hc hU38).cell 4 rfl⟩, ?_⟩
          have hS39 := hS38.keepN hc39
          refine step_call (RCut_spec hS39.r (i := 0) (by omega) hpos) ?_
          rintro v w42 ⟨p42, FU42, rfl, hq42, hR42, hE42, hc42⟩
          have hc3842 := hc39.any.same hc42
          have hS42 := hS39.right hR42 hE42 hc42
          refine ⟨_, _, _, _, _, _, _, _, _, rfl, hc3842, ?_⟩
          refine step_call (alike_spec (q := (al.headD ask0.1, p36)) (q' := (al[0], p42)) (hq38.keep hc3842 (fun i _ hi hu => hS.nf i hi hu)) hq42) ?_
          rintro v w43 ⟨rfl, hc43⟩
          have hhd : al.headD ask0.1 = al[0] := by
            cases al with
            | nil => exact absurd hpos (by simp)
            | cons a r => rfl
          refine ⟨_, rfl, hc3842.andN hc43, iteF (by dsimp only; rw [decide_eq_true hhd]; rfl) (iteF (by rw [hT]; rfl) ?_)⟩
          have htl : al.eraseIdx 0 = al.tail := by
            cases al with
            | nil => rfl
            | cons a r => rfl
          rw [htl] at hS42
          exact ⟨⟨_, F36, FU42, hS42.keepN hc43, by rw [List.length_tail]; omega⟩, (hA38.keep hc3842 (fun h => hab (.inr h))).keepN hc43⟩
        · have hz : al = [] := List.eq_nil_of_length_eq_zero (by have := of_decide_eq_false hT; omega)
          subst hz
          refine ⟨_, (hB38.keepN hc39).cell 0 rfl, hc39.any, iteF rfl ⟨⟨[], F36, FU, hS38.keepN hc39, by simp⟩, hA38.keepN hc39⟩⟩
      · refine ⟨_, hA.cell 1 rfl, ?_⟩
        refine step_call (RAt_spec hS.r (by omega) _) ?_
        rintro v w44 ⟨rfl, rfl⟩
        refine ⟨_, rfl, fun hf => ?_, fun hf => ?_⟩
        · have hf := of_decide_eq_true hf
          obtain ⟨i, f1, f2, f3⟩ := findL_lt hf
          rw [f1]
          refine step_call (RCut_spec hS.r (i := i) (by omega) f2) ?_
          rintro v w45 ⟨p45, FU45, rfl, hq45, hR45, hE45, hc45⟩
          have hS45 := hS.right hR45 hE45 hc45
          have hA45 := hA.keep hc45 (fun h => hab (.inr h))
          refine ⟨_, _, _, _, _, _, _, _, _, rfl, _, hA45.cell 1 rfl, ?_⟩
          refine step_call (wCancel_spec hS45.l.s (by omega) _) ?_
          rintro v w46 ⟨rfl, F46, hS46, hE46, hc46⟩
          rw [if_pos hf, f3] at hS46
          rw [if_pos hf]
          refine ⟨_, rfl, iteF rfl ⟨⟨_, F46, FU45, hS45.left hS46 hE46 hc46, ?_⟩, hA45.keep hc46 (fun h => hab (.inl h))⟩⟩
          have := List.length_eraseIdx_le al i
          omega
        · have hf := of_decide_eq_false hf
          refine ⟨_, hA.cell 1 rfl, ?_⟩
          refine step_call (wCancel_spec hS.l.s (by omega) _) ?_
          rintro v w47 ⟨rfl, F47, hS47, hE47, hc47⟩
          rw [if_neg hf] at hS47 ⊢
          exact ⟨_, rfl, iteF rfl ⟨⟨al, F47, FU, hS.left hS47 hE47 hc47, by omega⟩, hA.keep hc47 (fun h => hab (.inl h))⟩⟩
      · have hmg : ¬ (F mb ∨ FU mb) := fun h => h.elim hS.mf.1 hS.mf.2
        refine ⟨fun w' => Ch (fun i => F i ∨ FU i) w25 w', fun w48 e48 => ⟨Ch.drew e48, _, _, _, _, _, _, _, _, _, as_ hA hab, _, _, _, _, _, _, _, ⟨fun w' hc => (hS.m.keep hc hmg).cell 0 rfl, fun w' hc => (hS.m.keep hc hmg).cell 1 rfl, fun w' hc => (hS.m.keep hc hmg).cell 2 rfl, fun w' hc => (hS.m.keep hc hmg).cell 3 rfl, fun w' hc => (hS.m.keep hc hmg).cell 4 rfl, fun w' hc => (hS.m.keep hc hmg).cell 5 rfl, fun w' hc => (hS.m.keep hc hmg).cell 6 rfl⟩, _, _, _, _, _, _, _, _, _, as_ hA hab, ?_⟩⟩
        have hc48 : Ch Non w25 w48 := Ch.drew e48
        have hS48 := hS.keepN hc48
        refine step_call (wSubmit_spec hS48.l.s hS48.l.r (hq hS48.l.s.c) (by omega)) ?_
        rintro v w52 ⟨rfl, F52, hS52, hE52, hc52⟩
        have hS52 := hS48.left hS52 hE52 hc52
        have hc2552 : Ch (fun i => F i ∨ FU i) w25 w52 := hc48.any.same (hc52.mono (fun i _ hi => .inl hi))
        refine ⟨_, rfl, hc2552, ?_⟩
        refine step_call (form_spec w52 x.q) ?_
        rintro v w53 ⟨rfl, hc53⟩
        have hS53 := hS52.keepN hc53
        have hc2553 := hc2552.andN hc53
        refine ⟨_, _, _, _, _, _, _, _, _, rfl, hc2553, ?_⟩
        refine step_call (RSubmit_spec hS53.r hcf24 (hq hS53.l.s.c) (by omega)) ?_
        rintro v w54 ⟨rfl, FU54, hR54, hE54, hc54⟩
        have hS54 := hS53.right hR54 hE54 hc54
        have hc2554 := hc2553.same (hc54.mono (fun i _ hi => .inr hi))
        refine ⟨_, rfl, hc2554, iteF (by simp) ⟨⟨_, F52, FU54, hS54, ?_⟩, hA.keep hc2554 hab⟩⟩
        split
        · rw [List.length_append]; simp; omega
        · omega
    · clear hS hA hal
      rintro jk w55 ⟨⟨al, F, FU, hS, hal⟩, hA⟩ w56 e56 w57 e57
      obtain ⟨oR, cR, hrow, hent⟩ := hS.r.row
      have s56 : w55.heap.size < w56.heap.size := (Blk.new e56).lt
      have s57 : w56.heap.size < w57.heap.size := (Blk.new e57).lt
      have hI57 : Own w57 t_int 1 (some ⟨w55.heap.size, 0, none⟩) 0 0 [] (· = w55.heap.size) := (Own.made (n := 0) (sz := 1) (F := (· = w55.heap.size)) e56 rfl (Nat.zero_le _) rfl).keepN (Ch.alloc e57)
      have hO57 : Own w57 t_int 1 (some ⟨w56.heap.size, 0, none⟩) 0 0 [] (· = w56.heap.size) := Own.made (n := 0) (sz := 1) (F := (· = w56.heap.size)) e57 rfl (Nat.zero_le _) rfl
      refine ⟨fun iA iN iC oA oN oC k f w' => ∃ (m : Nat) (FI FO : Nat → Prop), k = m ∧ iN = m ∧ oN = (ofL [version, x.q.1.ver] (al.take m)).length ∧ m ≤ al.length ∧ f = al.length - m ∧ Own w' t_int 1 iA m iC (((al.take m).map (·.id)).map (.int .i64)) FI ∧
        Own w' t_int 1 oA (ofL [version, x.q.1.ver] (al.take m)).length oC ((ofL [version, x.q.1.ver] (al.take m)).map (.int .i64)) FO ∧ Foot w55 w' FI ∧ Foot w55 w' FO ∧ Apart FI FO ∧ Ch Non w55 w',
        ⟨_, 0, _, _, rfl, rfl, rfl, Nat.zero_le _, rfl, hI57, hO57, fun i hi => ⟨by omega, by omega⟩, fun i hi => ⟨by omega, by omega⟩, fun i hi ho => by omega, (Ch.alloc e56).andN (Ch.alloc e57)⟩, ?_⟩
      clear hI57 hO57 e56 e57 s56 s57
      rintro jk iA iN iC oA oN oC k f w58 ⟨m, FI, FO, rfl, rfl, rfl, hm, rfl, hI, hO, hfI, hfO, hap, hc⟩
      have hmm : (iN : Int).toNat = iN := Int.toNat_natCast iN
      rw [hmm]
      refine ⟨_, _, _, hrow _ hc, fun hltm => ?_, fun hgem => ?_⟩
      · have hltm : iN < al.length := by have := of_decide_eq_true hltm; omega
        obtain ⟨pm, hpm, hpc⟩ := hent iN hltm
        have htk : al.take (iN + 1) = al.take iN ++ [al[iN]] := take_snoc al iN hltm
        have hsn := ofL_snoc [version, x.q.1.ver] (al.take iN) al[iN]
        have hofl : (ofL [version, x.q.1.ver] (al.take iN)).length ≤ iN := by
          unfold ofL
          rw [List.length_map]
          refine Nat.le_trans (List.length_filter_le _ _) ?_
          rw [List.length_take]; omega
        subst hpm
        refine ⟨fun iA' iN' iC' oA' oN' oC' w' => ∃ (FI FO : Nat → Prop), iN' = iN + 1 ∧ oN' = (ofL [version, x.q.1.ver] (al.take (iN + 1))).length ∧ Own w' t_int 1 iA' (iN + 1) iC' (((al.take (iN + 1)).map (·.id)).map (.int .i64)) FI ∧
          Own w' t_int 1 oA' (ofL [version, x.q.1.ver] (al.take (iN + 1))).length oC' ((ofL [version, x.q.1.ver] (al.take (iN + 1))).map (.int .i64)) FO ∧ Foot w55 w' FI ∧ Foot w55 w' FO ∧ Apart FI FO ∧ Ch Non w55 w', ?_, ?_⟩
        rotate_left
        · rintro jk iA' iN' iC' oA' oN' oC' w71 ⟨FI', FO', rfl, rfl, g1, g2, g3, g4, g5, g6⟩
          exact ⟨al.length - (iN + 1), by omega, iN + 1, FI', FO', by rw [wrap_id (by omega) (by omega)]; rfl, rfl, rfl, hltm, rfl, g1, g2, g3, g4, g5, g6⟩
        refine ⟨_, _, _, hrow _ hc, ⟨by omega, by omega⟩, _, (hpc _ hc).1, fun w59 e59 => ?_⟩
        obtain ⟨o60, c60, w60, r60, hI60, hc60⟩ := Own.push el_S_int hI t_S_int e59 rfl rfl (by unfold maxLen; omega) (by omega)
        have hO60 := hO.keep hc60 (fun i _ ho hi => hap i hi ho)
        have hc5560 := hfI.hi hc hc60
        have hfI60 := hfI.ext hc hc60.size
        have hfO60 := hfO.le hc60.size
        have hap60 : Apart (Ext FI w58 w60) FO := hap.extL hfO
        have hI60' : Own w60 t_int 1 o60 (iN + 1) c60 (((al.take (iN + 1)).map (·.id)).map (.int .i64)) (Ext FI w58 w60) := by
          rw [htk, List.map_append, List.map_append]; exact hI60
        refine ⟨o60, _, c60, w60, r60, fun w' => Ch Non w60 w', fun w61 e61 => ⟨Ch.drew e61, _, _, _, fun w' h => hrow _ (hc5560.andN h), ⟨by omega, by omega⟩, _, fun w' h => (hpc _ (hc5560.andN h)).2, ?_⟩⟩
        have hc61 : Ch Non w60 w61 := Ch.drew e61
        have hc5561 := hc5560.andN hc61
        have add : decide (al[iN].ver ∈ [version, x.q.1.ver]) = true → ∃ (a : Option Addr) (n c : Nat), w61.cell? ⟨ub, 1, none⟩ = some (.slice a n c) ∧ (0 ≤ (iN : Int) ∧ (iN : Int) < (n : Int)) ∧ someV a fun p_3 => ∃ x244 : Int, w61.cell? (p_3.add (iN * 5)) = some (.int .i64 x244) ∧ ∀ w64 : World, w64 = w61.alloc (.cells #[.int .i64 x244] 3 (0, 0)) →
            ∃ (oo : Option Addr) (nn cc : Nat), ∃ w65 : World, (Builtin.append_ #[t_S_int, t_S_int] t_S_int #[.slice oA (ofL [version, x.q.1.ver] (al.take iN)).length oC, .slice (some ⟨w61.heap.size, 0, none⟩) 1 1]).run Try.prog w64 = .ok (.slice oo nn cc) w65 ∧
              (∃ (FI FO : Nat → Prop), iN + 1 = iN + 1 ∧ nn = (ofL [version, x.q.1.ver] (al.take (iN + 1))).length ∧ Own w65 t_int 1 o60 (iN + 1) c60 (((al.take (iN + 1)).map (·.id)).map (.int .i64)) FI ∧
          Own w65 t_int 1 oo (ofL [version, x.q.1.ver] (al.take (iN + 1))).length cc ((ofL [version, x.q.1.ver] (al.take (iN + 1))).map (.int .i64)) FO ∧ Foot w55 w65 FI ∧ Foot w55 w65 FO ∧ Apart FI FO ∧ Ch Non w55 w65) := fun hin => by
          rw [if_pos hin, ← htk] at hsn
          refine ⟨_, _, _, hrow _ hc5561, ⟨by omega, by omega⟩, _, (hpc _ hc5561).1, fun w64 e64 => ?_⟩
          obtain ⟨o65, c65, w65, r65, hO65, hc65⟩ := Own.push el_S_int (hO60.keepN hc61) t_S_int e64 rfl rfl (by unfold maxLen; omega) (by omega)
          have hfO61 := hfO60.le hc61.size
          have hfI61 := hfI60.le hc61.size
          refine ⟨o65, _, c65, w65, r65, _, _, rfl, by rw [hsn, List.length_append]; rfl, (hI60'.keepN hc61).keep hc65 (fun i _ hi ho => hap60 i hi ho), by rw [hsn, List.length_append, List.map_append]; exact hO65, hfI61.le hc65.size, hfO61.ext hc5561 hc65.size, hap60.extR hfI61, hfO61.hi hc5561 hc65⟩
        refine ⟨fun hv => ?_, fun hv => ⟨_, _, _, fun w' h => hrow _ (hc5560.andN h), ⟨by omega, by omega⟩, _, fun w' h => (hpc _ (hc5560.andN h)).2, _, fun w' h => ((hA.keepN hc5560).keepN h).cell 2 rfl, fun hv2 => ?_, fun hv2 => ?_⟩⟩
        · exact add (decide_eq_true (by rw [eq_of_beq hv]; simp))
        · exact add (decide_eq_true (by rw [eq_of_beq hv2]; simp))
        · have hout : ¬ decide (al[iN].ver ∈ [version, x.q.1.ver]) = true := by
            intro h
            have h := of_decide_eq_true h
            simp at h hv hv2
            rcases h with h | h
            · exact hv h
            · exact hv2 h
          rw [if_neg hout, List.append_nil, ← htk] at hsn
          exact ⟨_, FO, rfl, by rw [hsn], hI60'.keepN hc61, by rw [hsn]; exact hO60.keepN hc61, hfI60.le hc61.size, hfO60.le hc61.size, hap60, hc5561⟩
      · have hmn : iN = al.length := by have := of_decide_eq_false hgem; omega
        subst hmn
        rw [List.take_length] at hI hO
        rw [List.take_length]
        have hS58 := hS.keepN hc
        refine step_call (wIds_spec hS58.l.s (by omega)) ?_
        rintro v w72 ⟨o72, c72, rfl, hr72, hc72⟩
        refine ⟨_, _, _, rfl, ?_⟩
        have hll : al.length = (al.map (·.id)).length := by rw [List.length_map]
        rw [hll]
        refine step_call (ints_spec hr72 (hI.rd.keepN hc72) (by rw [List.length_map]; omega) _ _) ?_
        rintro v w73 ⟨rfl, hc73⟩
        have hc5873 := hc72.andN hc73
        refine ⟨_, rfl, iteF (by simp) ⟨_, ((hA.keepN hc).keepN hc5873).cell 2 rfl, fun w74 e74 => ?_⟩⟩
        have hv74 : Rd w74 (some ⟨w73.heap.size, 0, none⟩) (([version, x.q.1.ver] : List Int).map (.int .i64)) (· = w73.heap.size) := blkRd (xs := [version, x.q.1.ver]) (Blk.new e74)
        have hc5874 := hc5873.andN (Ch.alloc e74)
        have hS74 := hS58.keepN hc5874
        refine step_call (wOf_spec (vs := [version, x.q.1.ver]) hS74.l.s (by omega) hv74 (by simp) 2) ?_
        rintro v w75 ⟨o75, c75, rfl, hr75, hc75⟩
        refine ⟨_, _, _, rfl, ?_⟩
        have hofl : (ofL [version, x.q.1.ver] al).length ≤ al.length := by
          unfold ofL
          rw [List.length_map]
          exact List.length_filter_le _ _
        refine step_call (ints_spec hr75 ((hO.rd.keepN hc5874).keepN hc75) (by omega) _ _) ?_
        rintro v w76 ⟨rfl, hc76⟩
        have hS76 := (hS74.keepN hc75).keepN hc76
        refine ⟨_, rfl, iteF (by simp) ?_⟩
        refine step_call (wOf_spec (vs := []) (G := Non) hS76.l.s (by omega) (Rd.nil _ _ _) (by simp) 0) ?_
        rintro v w77 ⟨o77, c77, rfl, hr77, hc77⟩
        have hz : (ofL [] al).length = 0 := by
          unfold ofL
          rw [List.length_map, List.length_eq_zero_iff, List.filter_eq_nil_iff]
          intro a _; simp
        exact ⟨_, _, _, rfl, iteF (by rw [hz]; rfl) ⟨av.length - (j + 1), by omega, j + 1, al, F, FU, by rw [wrap_id (by omega) (by omega)]; rfl, hlt, h60, rfl, hS76.keepN hc77, hal⟩⟩
  · clear hS8
    rintro jk w78 ⟨al, F, FU, hS⟩
    refine step_call (Take_nil (w := w78)) ?_
    rintro v w79 ⟨rfl, hc79⟩
    refine ⟨_, _, _, _, _, _, _, _, _, _, rfl, fun w80 e80 => ?_⟩
    have hB80 := Blk.new e80
    refine ⟨⟨hB80.ok 0 rfl, hB80.ok 1 rfl, hB80.ok 2 rfl, hB80.ok 3 rfl, hB80.ok 4 rfl⟩, fun w81 e81 => ?_⟩
    obtain ⟨_, hc81⟩ := askNew ask0 e80 e81
    refine step_call (Submit_nil (w := w81) ask0 b) ?_
    rintro v w82 ⟨rfl, hc82⟩
    refine ⟨_, rfl, iteT rfl ?_⟩
    refine step_call (Submit_nb (w := w82) ask0 wb) ?_
    rintro v w83 ⟨rfl, hc83⟩
    refine ⟨_, rfl, iteT rfl ?_⟩
    refine step_call (Back_nil (w := w83) ask0) ?_
    rintro v w84 ⟨rfl, hc84⟩
    refine ⟨_, rfl, iteT rfl (iteT rfl ?_)⟩
    refine step_call (Cancel_nil (w := w84) 1) ?_
    rintro v w85 ⟨rfl, rfl⟩
    refine ⟨_, rfl, iteT rfl ?_⟩
    refine step_call (Ids_nil (w := w85)) ?_
    rintro v w86 ⟨rfl, rfl⟩
    refine ⟨_, _, _, rfl, fun w87 e87 => ?_⟩
    refine step_call (Of_nil (w := w87) _ _ _) ?_
    rintro v w88 ⟨rfl, rfl⟩
    exact ⟨_, _, _, rfl, rfl, (((((hS.l.s.c.andN hc79).andN hc81).andN hc82).andN hc83).andN hc84).andN (Ch.alloc e87)⟩
end Go.Proofs.Ytamkffjmggbekaa.Ward
