/- For every index and every pool of the document: what finding, evicting and forgetting answer and leave; the conditions stand in each theorem. -/
import Derived.Test.YtpcddfhfchempaaRefX2
set_option linter.unusedVariables false
set_option linter.unusedSimpArgs false
namespace Go.Proofs.Ytpcddfhfchempaa.Prefix
open Go Go.Proofs Go.Proofs.Ytpcddfhfchempaa.V Go.Proofs.Ytpcddfhfchempaa.Vc Go.Proofs.Ytpcddfhfchempaa.Step Go.Proofs.Ytpcddfhfchempaa.Pages Go.RowKit

section
variable {W w w1 w2 w' : World} {ub yb k : Nat} {B : Int} {ps ps' : List PageD} {es es' : List EntD} {FU F D FU' F' G : Nat → Prop}
/-- A cut entry, laid anew. -/
theorem ecBlk {w w6 w7 : World} {g : EcC} (e6 : w6 = w.alloc (.cells #[.int .i64 0, .slice none 0 0, .int .i64 0] 81 (0, 0)))
    (e7 : w7 = ((w6.setCell ⟨w.heap.size, 0, none⟩ (.int .i64 g.ver)).setCell ⟨w.heap.size, 1, none⟩ (.slice g.to g.tn g.tc)).setCell ⟨w.heap.size, 2, none⟩ (.int .i64 g.page)) :
    Blk w7 w.heap.size (ecE g) 81 ∧ Ch Non w w7 := by
  have e7' : w7 = w6.setCells w.heap.size 0 (ecE g) := e7
  have h6 := Blk.new e6
  exact ⟨h6.all (ecE g) rfl e7', (Ch.alloc (F := Non) e6).trans (Ch.sets (F := (· = w.heap.size)) e7' rfl) (fun i hi he => by omega)⟩
/-- The index meanwhile, and what was found. -/
def RFX (W w w1 : World) (ub yb : Nat) (ps : List PageD) (es : List EntD) (FU F : Nat → Prop) (oA : Option Addr) (oC : Nat) (out : List Int) : Prop :=
  ∃ F' D' FO : Nat → Prop, RX W w1 ub yb ps es FU F' D' ∧ (∀ i, F' i → Ext F w w1 i) ∧ Own w1 t_int 1 oA out.length oC (out.map (.int .i64)) FO ∧ (∀ i, FO i → New w w1 i) ∧ Apart FO F' ∧ Ch F w w1
theorem RFX.keepN {oA : Option Addr} {oC : Nat} {out : List Int} (h : RFX W w w1 ub yb ps es FU F oA oC out) (hc : Ch Non w1 w') : RFX W w w' ub yb ps es FU F oA oC out := by
  obtain ⟨F', D', FO, a, b, c, d, e, f⟩ := h
  exact ⟨F', D', FO, a.keepN hc, fun i hi => (b i hi).imp id (fun h => ⟨h.1, by have := h.2; have := hc.size; omega⟩), c.keepN hc, fun i hi => New.le (d i hi) hc.size, e, f.andN hc⟩
set_option maxHeartbeats 2000000 in
theorem RefFind_spec {to : Option Addr} {t : List Int} {tc : Nat} (h : RX W w ub yb ps es FU F D) (hg : Pages.Good k B ps) (hk : k ≤ 1000) (hB : 0 ≤ B ∧ B ≤ 1000000000) (hn : es.length < 1000) (ht : Rd W to (t.map (.int .i64)) (fun i => i < W.heap.size)) (htl : t.length ≤ 1000) (htc : t.length ≤ tc) (v : Int) :
    Calls Try.prog i_coadjutorref23_Index_Find #[.pointer (some ⟨yb, 0, none⟩), .int .i64 v, .slice to t.length tc] w (Ret fun x w' => ∃ FO : Nat → Prop, IntsV w' x (findR es v t).2 FO ∧ (∀ i, FO i → New w w' i) ∧ RXs W w w' ub yb (if allB ps (findR es v t).2 then shareL ps (findR es v t).2 else ps) (findR es v t).1 FU F) := by
  have hrl := findG_len v t t.length 4 es []
  rw [List.length_nil, Nat.zero_add] at hrl
  have hrl2 : (findR es v t).2.length ≤ t.length := hrl.2
  refine coadjutorref23_Index_Find.calls _ _ _ _ _ ?_
  unfold coadjutorref23_Index_Find.vc
  intro w0 e0
  have hO0 : Own w0 t_int 1 (some ⟨w.heap.size, 0, none⟩) 0 0 (([] : List Int).map (.int .i64)) (· = w.heap.size) := Own.made e0 rfl (Nat.zero_le _) rfl
  have hs0 : w.heap.size < w0.heap.size := (Blk.new e0).lt
  refine ⟨fun oA oN oC n f w' => ∃ (m : Nat) (es' : List EntD) (out : List Int), n = m ∧ 4 ≤ m ∧ t.length ≤ m + f ∧ findG v t f m es' out = findR es v t ∧ out.length + f ≤ t.length ∧ es'.length = es.length ∧ oN = out.length ∧ RFX W w w' ub yb ps es' FU F oA oC out,
    ⟨t.length, 4, es, [], rfl, Nat.le_refl _, by omega, rfl, by simp, rfl, rfl, F, D, (· = w.heap.size), h.keepN (Ch.alloc e0), fun i hi => .inl hi, hO0, fun i hi => ⟨by omega, by omega⟩, fun i hi hf => by have := (h.f i hf).2; omega, Ch.alloc e0⟩, ?_⟩
  rintro jk oA oN oA_C n f w1 ⟨m, es', out, rfl, hm4, hmf, hfin, hol, hel, rfl, hX⟩
  refine ⟨fun hlt => ?_, fun hge => ?_⟩
  rotate_left
  · have hge : t.length ≤ m := by have := of_decide_eq_false hge; omega
    rw [findG_stop hge] at hfin
    rw [← hfin] at hrl2 ⊢
    dsimp only at hrl2 ⊢
    obtain ⟨F', D', FO, hX9, hF', hO9, hO', hap, hcw9⟩ := hX
    generalize hw9 : w1 = w9 at hX9 hF' hO9 hO' hcw9 ⊢
    refine ⟨_, hX9.ptr, ?_⟩
    refine step_call (RefShare_spec hX9.u hg hO9.rd (by omega) (by rw [hg.len]; omega) (by omega) oA_C) ?_
    rintro x w10 ⟨rfl, hu10, hc10⟩
    have hOU : ∀ i, FO i → ¬ FU i := fun i hi hf => absurd (h.fu i hf).2 (Nat.not_lt.2 (hO' i hi).1)
    refine ⟨_, rfl, FO, ⟨_, _, rfl, hO9.rd.keep hc10 (fun i _ hi hf => hOU i hi hf)⟩, fun i hi => New.le (hO' i hi) hc10.size, RXs.then (w1 := w9) (FU' := FU) hX9 (fun _ h => .inl h) hF' (hcw9.mono (fun i _ hi => .inl hi)) ⟨_, _, _, hX9.use hu10 hc10, fun i hi => hi, fun i hi => .inl hi, hc10.mono (fun i _ hi => .inr hi)⟩⟩
  have hlt : m < t.length := by have := of_decide_eq_true hlt; omega
  refine ⟨⟨by omega, by omega⟩, ?_⟩
  have hX0 := hX
  obtain ⟨F', D', FO, hP, hF', hO, hO', hap, hcw⟩ := hX
  have ht1 : Rd w1 (if tc = 0 then to else to.map (·.add (0 * 1))) ((t.take m).map (.int .i64)) (fun i => i < W.heap.size) := by
    have := (ht.keepN hP.c).slice (c := tc) (sz := 1) (by simp; omega) 0 m
    simpa [List.map_take] using this
  have hml : ((m : Int).toNat - 0) = (t.take m).length := by rw [List.length_take]; omega
  rw [hml]
  refine step_call (At_spec hP.x (by omega) ht1 v _) ?_
  rintro x w2 ⟨rfl, hc2⟩
  refine ⟨_, rfl, ?_⟩
  have hX2 := hX0.keepN hc2
  by_cases hidx : es'.findIdx (hasB v (t.take m)) < es'.length
  rotate_left
  · have hfi : findI es' v (t.take m) = -1 := by unfold findI; rw [if_neg hidx]
    rw [hfi]
    refine iteT (by decide) ?_
    rw [findG_none hidx] at hfin
    rw [← hfin] at hrl2 ⊢
    dsimp only at hrl2 ⊢
    obtain ⟨F', D', FO, hX9, hF', hO9, hO', hap, hcw9⟩ := hX2
    generalize hw9 : w2 = w9 at hX9 hF' hO9 hO' hcw9 ⊢
    refine ⟨_, hX9.ptr, ?_⟩
    refine step_call (RefShare_spec hX9.u hg hO9.rd (by omega) (by rw [hg.len]; omega) (by omega) oA_C) ?_
    rintro x w10 ⟨rfl, hu10, hc10⟩
    have hOU : ∀ i, FO i → ¬ FU i := fun i hi hf => absurd (h.fu i hf).2 (Nat.not_lt.2 (hO' i hi).1)
    refine ⟨_, rfl, FO, ⟨_, _, rfl, hO9.rd.keep hc10 (fun i _ hi hf => hOU i hi hf)⟩, fun i hi => New.le (hO' i hi) hc10.size, RXs.then (w1 := w9) (FU' := FU) hX9 (fun _ h => .inl h) hF' (hcw9.mono (fun i _ hi => .inl hi)) ⟨_, _, _, hX9.use hu10 hc10, fun i hi => hi, fun i hi => .inl hi, hc10.mono (fun i _ hi => .inr hi)⟩⟩
  have hfi : findI es' v (t.take m) = (es'.findIdx (hasB v (t.take m)) : Int) := by unfold findI; rw [if_pos hidx]
  rw [hfi]
  obtain ⟨f, rfl⟩ : ∃ f', f = f' + 1 := ⟨f - 1, by omega⟩
  rw [findG_some hlt hidx] at hfin
  generalize es'.findIdx (hasB v (t.take m)) = j at hidx hfin
  refine iteF (decide_eq_false (by omega)) ?_
  clear hX0 hP hF' hO hO' hap hcw ht1
  obtain ⟨F', D', FO, hP, hF', hO, hO', hap, hcw⟩ := hX2
  refine step_call (hP.cutS (by omega) hidx) ?_
  rintro x w5 ⟨g, rfl, hgE, hP5, hc5⟩
  refine ⟨_, _, _, _, _, rfl, fun w6 e6 => ⟨⟨(Blk.new e6).ok 0 rfl, (Blk.new e6).ok 1 rfl, (Blk.new e6).ok 2 rfl⟩, fun w7 e7 => ?_⟩⟩
  obtain ⟨hE7, hc57⟩ := ecBlk e6 e7
  have hX7 := hP5.keepN hc57
  have hg7 := EcR.keepN hgE hc57
  have hs5 := hc5.size
  have hs7 : w5.heap.size < w7.heap.size := hE7.lt
  have h5lt : ∀ i, Ext F' w2 w5 i → i < w5.heap.size := fun i hi => (hP5.f i hi).2
  clear e6 e7
  have hO7 : Own w7 t_int 1 oA out.length oA_C (out.map (.int .i64)) FO := (hO.keep hc5 (fun i _ hi hf => hap i hi hf)).keepN hc57
  have hcw7 : Ch F w w7 := (hcw.trans hc5 (fun i hi hf => (hF' i hf).old hi)).andN hc57
  have hF5 : ∀ i, Ext F' w2 w5 i → Ext F w w7 i := fun i hi => by
    rcases hi with hi | hi
    · rcases hF' i hi with hi | hi
      · exact .inl hi
      · exact .inr ⟨hi.1, by have := hi.2; omega⟩
    · exact .inr ⟨by have := hi.1; have := hcw.size; omega, by have := hi.2; omega⟩
  have hap5 : Apart FO (Ext F' w2 w5) := fun i hi hf => by
    rcases hf with hf | hf
    · exact hap i hi hf
    · have := (hO' i hi).2; have := hf.1; omega
  have hO5 : ∀ i, FO i → New w w7 i := fun i hi => New.le (hO' i hi) (by omega)
  have hOE : ∀ i, FO i → i < w5.heap.size := fun i hi => by have := (hO' i hi).2; omega
  have hFOU : ∀ i, FO i → W.heap.size ≤ i ∧ ¬ FU i := fun i hi => ⟨by have := (hO' i hi).1; have := h.c.size; omega, fun hf => by have := (h.fu i hf).2; have := (hO' i hi).1; omega⟩
  clear hP hO hcw hF' hap hO' hc5 hP5 hgE
  have hlen5 : (es'.eraseIdx j).length = es'.length - 1 := by rw [List.length_eraseIdx, if_pos hidx]
  generalize hej : es'[j] = e at hfin hg7
  generalize w5.heap.size = eb at hE7 hs7 h5lt hOE ⊢
  generalize hF1 : Ext F' w2 w5 = F1 at hX7 h5lt hF5 hap5
  obtain ⟨o, c, gs, Fa, hC, hA⟩ := hX7.x
  have hFay : ¬ Fa yb := fun hx => (hC.fa _ hx).2 rfl
  have hFae : ¬ Fa eb := fun hx => by have := h5lt _ (hC.fa _ hx).1; omega
  refine ⟨fun w' => Ch Fa w7 w', fun w8 e8 => ⟨Ch.drew e8, _, _, _, fun w' hc => (hC.blk.keep hc hFay).cell 1 rfl, _, _, _, _, _, ⟨fun w' hc => (hE7.keep hc hFae).cell 0 rfl, fun w' hc => (hE7.keep hc hFae).cell 1 rfl, fun w' hc => (hE7.keep hc hFae).cell 2 rfl⟩, fun w11 e11 => ?_⟩⟩
  have hc711 : Ch Non w7 w11 := (Ch.drew (F := Non) e8).andN (Ch.alloc e11)
  refine ⟨hc711.any, ?_⟩
  have hX11 := hX7.keepN hc711
  obtain ⟨o12, c12, w12, r12, hc12, hok12, hst⟩ := hX11.push (e := e) (g := g) (D' := Non) (hC.keepN hc711) (hA.imp (fun _ _ k => EcR.keepN k hc711)) (by omega) (fun _ h => h.elim) (Blk.new e11) (EcR.keepN hg7 hc711)
  refine ⟨o12, _, c12, w12, r12, (hc711.any).same hc12, hok12, fun w13 e13 => ?_⟩
  obtain ⟨hX13, hc13⟩ := hst w13 e13
  have hF1e : ¬ F1 eb := fun hx => by have := h5lt _ hx; omega
  have hE13 := (hE7.keepN hc711).keep hc13 hF1e
  refine ⟨_, hE13.cell 2 rfl, fun w14 e14 => ?_⟩
  have hO13 := (hO7.keepN hc711).keep hc13 (fun i _ hi hf => hap5 i hi hf)
  obtain ⟨o15, c15, w15, r15, hO15, hc15⟩ := Own.pushT (enc := .int .i64) el_S_int hO13 t_S_int g.page e14 rfl (by unfold maxLen; omega) (by omega)
  have hs11 := hc711.size
  have hs13 := hc13.size
  have hs15 := hc15.size
  have hFO1 : ∀ i, FO i → ¬ Ext F1 w11 w13 i := fun i hi hf => by
    rcases hf with hf | hf
    · exact hap5 i hi hf
    · have := hOE i hi; have := hf.1; omega
  have hX15 := hX13.far hc15 (fun i hi => ⟨(hFOU i hi).1, (hFOU i hi).2, hFO1 i hi⟩)
  have hpg : g.page = e.page := hg7.2.1
  have hlA : out.length + 1 = (out ++ [g.page]).length := by simp
  refine ⟨o15, _, c15, w15, r15, f, by omega, m + 4, es'.eraseIdx j ++ [e], out ++ [g.page], by rw [wrap_id (by omega) (by omega)]; rfl, by omega, by omega, by rw [hpg, ← hej] at *; exact hfin, by rw [← hlA]; omega, by rw [List.length_append, hlen5, List.length_singleton]; omega, hlA, Ext F1 w11 w13, D', Ext FO w13 w15, hX15, ?_, by rw [← hlA]; exact hO15, ?_, ?_, ?_⟩
  · intro i hi
    rcases hi with hi | hi
    · exact (hF5 i hi).imp id (fun k => ⟨k.1, by have := k.2; omega⟩)
    · exact .inr ⟨by have := hi.1; have := hcw7.size; omega, by have := hi.2; omega⟩
  · intro i hi
    rcases hi with hi | hi
    · exact New.le (hO5 i hi) (by omega)
    · exact ⟨by have := hi.1; have := hcw7.size; omega, hi.2⟩
  · intro i hi hf
    rcases hi with hi | hi
    · exact hFO1 i hi hf
    · have hi1 := hi.1
      rcases hf with hf | hf
      · have := h5lt i hf; omega
      · have := hf.2; omega
  · have h13 : Ch F w w13 := (hcw7.andN hc711).trans hc13 (fun i hi hf => (hF5 i hf).old hi)
    exact h13.trans hc15 (fun i hi hf => by have := (hO5 i hf).1; omega)
/-- The entry's page in a pool. -/
theorem FPoolR.user (h : FPoolR w ub ps FU) {id : Int} (h0 : 0 ≤ id) (h1 : id.toNat < ps.length) : ∃ (p : Addr) (c : Nat), ∀ w', Ch Non w w' → w'.cell? ⟨ub, 0, none⟩ = some (.slice (some p) ps.length c) ∧ w'.cell? ((p.add (id.toNat * 3)).add 1) = some (.int .i64 (pgAt ps id).users) := by
  obtain ⟨p, c, hp⟩ := h.look h1
  exact ⟨p, c, fun w' hc => ⟨(hp w' hc).1, by rw [pgAt_lt h0 h1]; exact (hp w' hc).2.2⟩⟩
theorem RX.row (h : RX W w ub yb ps es FU F D) : ∃ (o : Option Addr) (c : Nat), (∀ w', Ch Non w w' → w'.cell? ⟨yb, 1, none⟩ = some (.slice o es.length c)) ∧ ∀ i (hi : i < es.length), ∃ p, o = some p ∧ ∀ w', Ch Non w w' → w'.cell? (p.add (i * 3)) = some (.int .i64 es[i].ver) ∧ w'.cell? ((p.add (i * 3)).add 2) = some (.int .i64 es[i].page) := by
  obtain ⟨o, c, gs, Fa, hC, hA⟩ := h.x
  refine ⟨o, c, fun w' hc => (hC.keepN hc).blk.cell 1 rfl, fun i hi => ?_⟩
  have hig : i < gs.length := by rw [hA.length]; exact hi
  obtain ⟨p, hp, _, _, _⟩ := hC.own.rd.elem (sz := 3) (enc := ecE) (fun _ => rfl) (by omega) hig
  refine ⟨p, hp, fun w' hc => ?_⟩
  obtain ⟨p', hp', _, _, hcell⟩ := (hC.keepN hc).own.rd.elem (sz := 3) (enc := ecE) (fun _ => rfl) (by omega) hig
  rw [hp] at hp'
  have hpp : p = p' := Option.some.inj hp'
  subst hpp
  rw [EcR.ec (hA.get i hig hi)] at hcell
  have h0 := hcell 0 _ rfl
  rw [add_none] at h0
  exact ⟨h0, hcell 2 _ rfl⟩
set_option maxHeartbeats 1000000 in
theorem RefEvict_spec (h : RX W w ub yb ps es FU F D) (hg : Pages.Good k B ps) (hk : k ≤ 1000) (hB : 0 ≤ B ∧ B ≤ 1000000000) (hn : es.length < 1000) (hlive : ∀ e ∈ es, isB ps e.page = true) :
    Calls Try.prog i_coadjutorref23_Index_Evict #[.pointer (some ⟨yb, 0, none⟩)] w (Ret fun x w' => x = .bool (decide (evI ps es < es.length)) ∧ RXs W w w' ub yb (evP ps es) (es.eraseIdx (evI ps es)) FU F) := by
  refine coadjutorref23_Index_Evict.calls _ ?_
  unfold coadjutorref23_Index_Evict.vc
  refine ⟨fun i f w' => ∃ j : Nat, i = j ∧ j ≤ es.length ∧ f = es.length - j ∧ Ch Non w w' ∧ ∀ m (hm : m < es.length), m < j → (usersV ps es[m].page == 1) = false, ⟨_, 0, rfl, Nat.zero_le _, rfl, Ch.refl _ _, fun m _ h => absurd h (Nat.not_lt_zero _)⟩, ?_⟩
  rintro jk i f w1 ⟨j, rfl, hj, rfl, hc, hno⟩
  have hX1 := h.keepN hc
  obtain ⟨o, c, hrow, hent⟩ := hX1.row
  refine ⟨_, _, _, hrow _ (Ch.refl _ _), fun hlt => ?_, fun hge => ?_⟩
  rotate_left
  · have hjn : j = es.length := by have := of_decide_eq_false hge; omega
    subst hjn
    have hev : ¬ evI ps es < es.length := fun hlt => by
      have h1 := hno (evI ps es) hlt hlt
      have h2 := List.findIdx_getElem (w := hlt)
      unfold evI at h1
      rw [h2] at h1
      cases h1
    rw [decide_eq_false hev]
    have h1 : evP ps es = ps := by unfold evP; rw [List.getElem?_eq_none (by omega)]
    rw [h1, List.eraseIdx_of_length_le (by omega)]
    exact ⟨rfl, h.same hc⟩
  have hlt : j < es.length := by have := of_decide_eq_true hlt; omega
  obtain ⟨p, hp, hcell⟩ := hent j hlt
  subst hp
  have hl := hlive es[j] (List.getElem_mem hlt)
  obtain ⟨i0, i1⟩ := isB_lt hl
  obtain ⟨pu, cu, hpu⟩ := FPoolR.user hX1.u i0 i1
  have hjj : (j : Int).toNat = j := Int.toNat_natCast j
  rw [hjj]
  have huv : usersV ps es[j].page = (pgAt ps es[j].page).users := by unfold usersV; rw [hl, if_pos rfl]
  have hptr : ∀ w', Ch Non w1 w' → w'.cell? ⟨yb, 0, none⟩ = some (.pointer (some ⟨ub, 0, none⟩)) := fun w' hc => (hX1.keepN hc).ptr
  refine ⟨fun w' => Ch Non w1 w', fun w2 e2 => ⟨Ch.drew e2, _, hptr, _, _, _, fun w' hc => (hpu w' hc).1, _, _, _, hrow, ⟨by omega, by omega⟩, _, fun w' hc => (hcell w' hc).2, ⟨i0, by omega⟩, _, fun w' hc => (hpu w' hc).2, fun h1 => ?_, fun h1 => ?_⟩⟩
  rotate_left
  · refine ⟨es.length - (j + 1), by omega, j + 1, by rw [wrap_id (by omega) (by omega)]; rfl, hlt, rfl, hc.andN (Ch.drew e2), fun m hm hmj => ?_⟩
    by_cases he : m = j
    · subst he; rw [huv]; exact h1
    · exact hno m hm (by omega)
  have hev : evI ps es = j := (List.findIdx_eq hlt).2 ⟨by rw [huv]; exact h1, fun m hm => hno m (by omega) hm⟩
  have hevP : evP ps es = dropQ ps es[j].page := by unfold evP; rw [hev, List.getElem?_eq_getElem hlt]
  rw [hev, hevP, decide_eq_true hlt]
  have hX := hX1.keepN (Ch.drew e2)
  have hlen := hn
  have hg1 := hg
  obtain ⟨i, hij⟩ : ∃ i, i = j := ⟨j, rfl⟩
  subst hij
  have hi := hlt
  obtain ⟨es1, hes1⟩ : ∃ l, l = es := ⟨es, rfl⟩
  subst hes1
  obtain ⟨FU1, hFU1⟩ : ∃ l, l = FU := ⟨FU, rfl⟩
  subst hFU1
  refine step_call (hX.cutS hlen hi) ?_
  rintro v w2 ⟨g, rfl, hgE, hX2, hc2⟩
  refine ⟨_, _, _, _, _, rfl, fun w6 e6 => ⟨⟨(Blk.new e6).ok 0 rfl, (Blk.new e6).ok 1 rfl, (Blk.new e6).ok 2 rfl⟩, fun w7 e7 => ?_⟩⟩
  obtain ⟨hE7, hc27⟩ := ecBlk e6 e7
  have hX7 := hX2.keepN hc27
  have hpg : g.page = es1[i].page := hgE.2.1
  clear e6 e7
  have heU : ∀ i, FU1 i → i < w2.heap.size := fun i hi => (hX2.fu i hi).2
  have hsE := hE7.lt
  generalize w2.heap.size = eb at hE7 heU hsE ⊢
  have hUy : ¬ FU1 yb := hX7.lt.2
  have hUe : ¬ FU1 eb := fun hx => Nat.lt_irrefl _ (heU _ hx)
  have hyb := hX7.ptr
  have hyB : ∀ w', Ch FU1 w7 w' → w'.cell? ⟨yb, 0, none⟩ = some (.pointer (some ⟨ub, 0, none⟩)) := fun w' hc => by
    obtain ⟨o, c, gs, Fa, hC, _⟩ := hX7.x
    exact (hC.blk.keep hc hUy).cell 0 rfl
  refine ⟨fun w' => Ch FU1 w7 w', fun w8 e8 => ⟨Ch.drew e8, _, hyB, _, fun w' hc => (hE7.keep hc hUe).cell 2 rfl, fun w9 e9 => ⟨(Ch.drew e8).andN (Ch.alloc e9), ?_⟩⟩⟩
  have hc79 : Ch Non w7 w9 := (Ch.drew (F := Non) e8).andN (Ch.alloc e9)
  rw [hpg] at e9
  refine step_call ((hX7.keepN hc79).drop1 hg1 hk hB (Blk.new e9)) ?_
  rintro x w10 ⟨rfl, hX10, hc10⟩
  refine ⟨_, rfl, (hc79.any).same hc10, rfl, RXs.then (FU' := FU1) (F' := F) hX (fun _ hi => .inl hi) (fun _ hi => .inl hi) ((hc.andN (Ch.drew e2)).any) ⟨_, _, _, hX10, fun i hi => ?_, fun i hi => ?_, ?_⟩⟩
  · have := hc2.size
    have := hc27.size
    have := hc79.size
    rcases hi with hi | hi
    · exact .inl hi
    · exact .inr ⟨by have := hi.1; omega, hi.2⟩
  · have := hc27.size
    have := hc79.size
    have := hc10.size
    rcases hi with hi | hi
    · exact .inl hi
    · exact .inr ⟨hi.1, by have := hi.2; omega⟩
  · exact (((hc2.andN hc27).andN hc79).mono (fun i _ hi => .inl hi)).trans hc10 (fun i _ hi => .inr hi)
theorem fgP_rev (v : Int) (ps : List PageD) (es : List EntD) {q : Nat} (hq : q < es.length) : fgP v ps (es.drop q).reverse = fgS v (fgP v ps (es.drop (q + 1)).reverse) es[q] := by
  rw [List.drop_eq_getElem_cons hq, List.reverse_cons, fgP_snoc]
set_option maxHeartbeats 1000000 in
theorem RefForget_spec (h : RX W w ub yb ps es FU F D) (hg : Pages.Good k B ps) (hk : k ≤ 1000) (hB : 0 ≤ B ∧ B ≤ 1000000000) (hn : es.length < 1000) (v : Int) :
    Calls Try.prog i_coadjutorref23_Index_Forget #[.pointer (some ⟨yb, 0, none⟩), .int .i64 v] w (Ret fun x w' => x = .int .i64 ((es.length : Int) - (es.filter (keepE v)).length) ∧ RXs W w w' ub yb (fgP v ps es.reverse) (es.filter (keepE v)) FU F) := by
  refine coadjutorref23_Index_Forget.calls _ _ ?_
  unfold coadjutorref23_Index_Forget.vc
  obtain ⟨o, c, hrow, _⟩ := h.row
  refine ⟨_, _, _, hrow _ (Ch.refl _ _), fun n i f w' => ∃ q : Nat, i = (q : Int) - 1 ∧ q ≤ es.length ∧ f = q ∧ n = ((es.drop q).length : Int) - ((es.drop q).filter (keepE v)).length ∧ RXs W w w' ub yb (fgP v ps (es.drop q).reverse) (es.take q ++ (es.drop q).filter (keepE v)) FU F,
    ⟨_, es.length, by rw [wrap_id (by omega) (by omega)], Nat.le_refl _, rfl, by simp, by simpa [fgP] using h.same (Ch.refl _ w)⟩, ?_⟩
  clear hrow
  rintro jk n i q w1 ⟨q', rfl, hq, rfl, rfl, FU1, F1, D1, hX, hU1, hF1, hcw⟩
  refine ⟨fun hge => ?_, fun hlt => ?_⟩
  rotate_left
  · have hq0 : q = 0 := by have := of_decide_eq_false hlt; omega
    subst hq0
    rw [List.drop_zero, List.take_zero, List.nil_append] at *
    exact ⟨rfl, FU1, F1, D1, hX, hU1, hF1, hcw⟩
  have hq1 : 1 ≤ q := by have := of_decide_eq_true hge; omega
  obtain ⟨i, rfl⟩ : ∃ i, q = i + 1 := ⟨q - 1, by omega⟩
  have hie : ((i + 1 : Nat) : Int) - 1 = (i : Int) := by omega
  rw [hie]
  have hiE : i < es.length := by omega
  have hdr : es.drop i = es[i] :: es.drop (i + 1) := List.drop_eq_getElem_cons hiE
  have htk : es.take (i + 1) = es.take i ++ [es[i]] := List.take_succ_eq_append_getElem hiE
  have hfl : ((es.drop (i + 1)).filter (keepE v)).length ≤ (es.drop (i + 1)).length := List.length_filter_le _ _
  have hdl : (es.drop (i + 1)).length = es.length - (i + 1) := List.length_drop
  have hfr := fgP_rev v ps es hiE
  have hg1 : Pages.Good k B (fgP v ps (es.drop (i + 1)).reverse) := fgP_good hg hB.1 v _
  generalize hes1 : es.take (i + 1) ++ (es.drop (i + 1)).filter (keepE v) = es1 at hX
  have hl1 : es1.length = (i + 1) + ((es.drop (i + 1)).filter (keepE v)).length := by rw [← hes1, List.length_append, List.length_take]; omega
  have hi : i < es1.length := by omega
  have hei : es1[i] = es[i] := by
    subst hes1
    rw [List.getElem_append_left (by rw [List.length_take]; omega), List.getElem_take]
  have her : es1.eraseIdx i = es.take i ++ (es.drop (i + 1)).filter (keepE v) := by
    subst hes1
    rw [List.eraseIdx_append_of_lt_length (by rw [List.length_take]; omega), htk, List.eraseIdx_append_of_length_le (by rw [List.length_take]; omega)]
    congr 1
    have : i - (es.take i).length = 0 := by rw [List.length_take]; omega
    rw [this]; simp
  obtain ⟨o, c, hrow, hent⟩ := hX.row
  obtain ⟨p, hp, hcell⟩ := hent i hi
  subst hp
  have hcl := hcell _ (Ch.refl _ _)
  rw [hei] at hcl
  have hjj : (i : Int).toNat = i := Int.toNat_natCast i
  rw [hjj]
  refine ⟨_, _, _, hrow _ (Ch.refl _ _), ⟨by omega, by omega⟩, _, hcl.1, fun hv => ?_, fun hv => ?_⟩
  · have hlen : es1.length < 1000 := by omega
    have hk2 : keepE v es[i] = false := by unfold keepE; rw [hv]; rfl
    generalize fgP v ps (es.drop (i + 1)).reverse = ps1 at hX hg1 hfr
    have hfr2 : fgP v ps (es.drop i).reverse = dropQ ps1 es[i].page := by rw [hfr]; unfold fgS; rw [hv, if_pos rfl]
    refine step_call (hX.cutS hlen hi) ?_
    rintro v w2 ⟨g, rfl, hgE, hX2, hc2⟩
    refine ⟨_, _, _, _, _, rfl, fun w6 e6 => ⟨⟨(Blk.new e6).ok 0 rfl, (Blk.new e6).ok 1 rfl, (Blk.new e6).ok 2 rfl⟩, fun w7 e7 => ?_⟩⟩
    obtain ⟨hE7, hc27⟩ := ecBlk e6 e7
    have hX7 := hX2.keepN hc27
    have hpg : g.page = es1[i].page := hgE.2.1
    clear e6 e7
    have heU : ∀ i, FU1 i → i < w2.heap.size := fun i hi => (hX2.fu i hi).2
    have hsE := hE7.lt
    generalize w2.heap.size = eb at hE7 heU hsE ⊢
    have hUy : ¬ FU1 yb := hX7.lt.2
    have hUe : ¬ FU1 eb := fun hx => Nat.lt_irrefl _ (heU _ hx)
    have hyb := hX7.ptr
    have hyB : ∀ w', Ch FU1 w7 w' → w'.cell? ⟨yb, 0, none⟩ = some (.pointer (some ⟨ub, 0, none⟩)) := fun w' hc => by
      obtain ⟨o, c, gs, Fa, hC, _⟩ := hX7.x
      exact (hC.blk.keep hc hUy).cell 0 rfl
    refine ⟨fun w' => Ch FU1 w7 w', fun w8 e8 => ⟨Ch.drew e8, _, hyB, _, fun w' hc => (hE7.keep hc hUe).cell 2 rfl, fun w9 e9 => ⟨(Ch.drew e8).andN (Ch.alloc e9), ?_⟩⟩⟩
    have hc79 : Ch Non w7 w9 := (Ch.drew (F := Non) e8).andN (Ch.alloc e9)
    rw [hpg] at e9
    refine step_call ((hX7.keepN hc79).drop1 hg1 hk hB (Blk.new e9)) ?_
    rintro x w10 ⟨rfl, hX10, hc10⟩
    refine ⟨_, rfl, (hc79.any).same hc10, i, by omega, i, by rw [wrap_id (by omega) (by omega)], by omega, rfl, ?_, ?_⟩
    · rw [hdr, List.filter_cons, hk2, if_neg (by decide), List.length_cons, wrap_id (by omega) (by omega)]
      omega
    · rw [hfr2, hdr, List.filter_cons, hk2, if_neg (by decide), ← her]
      rw [hei] at hX10
      refine RXs.then (FU' := FU1) (F' := F1) hX hU1 hF1 hcw ⟨_, _, _, hX10, fun i hi => ?_, fun i hi => ?_, ?_⟩
      · have := hc2.size
        have := hc27.size
        have := hc79.size
        rcases hi with hi | hi
        · exact .inl hi
        · exact .inr ⟨by have := hi.1; omega, hi.2⟩
      · have := hc27.size
        have := hc79.size
        have := hc10.size
        rcases hi with hi | hi
        · exact .inl hi
        · exact .inr ⟨hi.1, by have := hi.2; omega⟩
      · exact (((hc2.andN hc27).andN hc79).mono (fun i _ hi => .inl hi)).trans hc10 (fun i _ hi => .inr hi)
  · have hk2 : keepE v es[i] = true := by unfold keepE; rw [hv]; rfl
    refine ⟨i, by omega, i, by rw [wrap_id (by omega) (by omega)], by omega, rfl, ?_, ?_⟩
    · rw [hdr, List.filter_cons, hk2, if_pos rfl, List.length_cons, List.length_cons]; omega
    · have h1 : fgP v ps (es.drop i).reverse = fgP v ps (es.drop (i + 1)).reverse := by rw [hfr]; unfold fgS; rw [hv, if_neg Bool.false_ne_true]
      have h2 : es.take i ++ (es.drop i).filter (keepE v) = es1 := by
        rw [hdr, List.filter_cons, hk2, if_pos rfl, ← hes1, htk, List.append_assoc]; rfl
      rw [h1, h2]
      exact ⟨FU1, F1, D1, hX, hU1, hF1, hcw⟩
end
end Go.Proofs.Ytpcddfhfchempaa.Prefix
