import Derived.Test.YtkbikekbaboclaaGreatPkC
set_option linter.unusedVariables false
set_option linter.unusedSimpArgs false
namespace Go.Proofs.YtkbikekbaboclaaGreat.Crew
open Go Go.Proofs V Vc Step Pages Prefix Brain Conf Stp Go.RowKit
open Ward (AskD AskP askE AskR ask_one asks_one)
def pastR (ps : List PageD) (r : RunD) : List Ent := getL ps r.pages
def tokR (r : RunD) : Int := r.toks.getD r.done 0
def entR (ps : List PageD) (r : RunD) : Ent := stepE r.c r.wt (pastR ps r) (tokR r)
def scR (ps : List PageD) (r : RunD) : List Int := stepL r.c r.wt (pastR ps r) (tokR r)
def lastR (r : RunD) : Int := r.pages.getD (r.pages.length - 1) 0
def recP (ps : List PageD) (es : List EntD) (r : RunD) : List PageD := if (r.done + 1) % 4 = 0 then addP (putP ps (lastR r) (entR ps r)) es (lastR r) r.ask.ver (r.toks.take (r.done + 1)) else putP ps (lastR r) (entR ps r)
def recX (ps : List PageD) (es : List EntD) (r : RunD) : List EntD := if (r.done + 1) % 4 = 0 then addX (putP ps (lastR r) (entR ps r)) es (lastR r) r.ask.ver (r.toks.take (r.done + 1)) else es
section
variable {W w w' w0 : World} {cb pb xb k tb : Nat} {B B' : Int} {ps ps' : List PageD} {es es' : List EntD} {o : Option Addr} {c n : Nat} {qs : List (RunC × RunD)} {q : RunC × RunD} {R R' R0 : Nat → Nat → Prop} {F G FP FI Fa TA : Nat → Prop} {xs ys : List Int}
theorem PX.poolE (h : PX W w pb xb k B ps es FP FI) {B' : Int} (hr : PoolR w' pb ps' (Ext FP w w')) (hc : Ch FP w w') (hg : Pages.Good k B' ps') : PX W w' pb xb k B' ps' es (Ext FP w w') FI :=
 ⟨h.p.ext hr hc, h.x.keep hc (fun i _ hi hf => h.ap i hi hf), hg, h.f.le hc.size, h.ap.extR h.f⟩
theorem good_small {cf : CfD} {e : Ent} (ok : okC cf) (h : goodE cf e) : smallE e := by
 obtain ⟨⟨a1, a2⟩, b1, b2⟩ := h
 have h4 := ok.2.2.2.1
 have h2 := ok.2.1
 exact ⟨⟨by omega, fun r hr => by have := (a2 r hr).1; omega⟩, ⟨by omega, fun r hr => by have := (b2 r hr).1; omega⟩⟩
set_option maxHeartbeats 4000000 in
theorem reckon_spec {i : Nat} (h : CrewC W w cb pb xb k B ps es o c qs R) (hk : k ≤ 1000) (hB : 0 ≤ B ∧ B ≤ 100000000) (hn : qs.length ≤ 900) (hes : es.length < 900) (hi : i < qs.length) (hpl : 0 < qs[i].2.pages.length ∧ qs[i].2.pages.length ≤ 900) (htl : qs[i].2.toks.length ≤ 900)
  (hd : qs[i].2.done < qs[i].2.toks.length) (hgood : ∀ e ∈ pastR ps qs[i].2, goodE qs[i].2.c e) (htok : Stp.tokOk qs[i].2.c (tokR qs[i].2)) (hlong : ((pastR ps qs[i].2).length : Int) < qs[i].2.c.context) :
  Calls Tryz.prog i_crew_Crew_reckon #[.pointer (some ⟨cb, 0, none⟩), .pointer (some ⟨qs[i].1.rb, 0, none⟩)] w (Ret fun v w' => ∃ R' : Nat → Nat → Prop, IV w' v (scR ps qs[i].2) (fun j => w.heap.size ≤ j ∧ j < w'.heap.size ∧ ∀ m, ¬ R' m j) ∧
   CrewC W w' cb pb xb k (B + 1) (recP ps es qs[i].2) (recX ps es qs[i].2) o c (qs.set i (qs[i].1, { qs[i].2 with done := qs[i].2.done + 1 })) R' ∧ (∀ j, AllF R' j → Ext (AllF R) w w' j) ∧ R' 2 = R 2 ∧ Ch (MutF R) w w') := by
 obtain ⟨rb, hrb⟩ : ∃ rb, qs[i].1.rb = rb := ⟨_, rfl⟩
 have hrn := h.rn _ (List.getElem_mem hi)
 have hbr := h.br hrn
 have ok := hrn.br.ok
 have hBl := hrn.blk
 rw [hrb] at hBl
 have hpr := h.rn _ (List.getElem_mem hi)
 rw [hrb]
 refine crew_Crew_reckon.calls _ _ ?_
 unfold crew_Crew_reckon.vc
 have hwl : IntKind.i64.wrap ((qs[i].2.pages.length : Int) - 1) = ((qs[i].2.pages.length - 1 : Nat) : Int) := by rw [wrap_id (by omega) (by omega)]; omega
 have hL : qs[i].2.pages.length - 1 < qs[i].2.pages.length := by omega
 have hlast : lastR qs[i].2 = qs[i].2.pages[qs[i].2.pages.length - 1] := by unfold lastR; rw [List.getD_eq_getElem?_getD, List.getElem?_eq_getElem hL]; rfl
 refine ⟨fun w' => Ch Non w w', fun w1 e1 => ⟨Ch.drew e1, _, _, _, fun w' k => (hBl.keepN k).cell 6 rfl, _, _, _, fun w' k => (hBl.keepN k).cell 6 rfl, ?_⟩⟩
 rw [hwl]
 refine ⟨⟨by omega, by omega⟩, Rd.keeps (S := fun w' => Ch Non w w') (enc := Value.int .i64) (xs := qs[i].2.pages) (fun w' k => hrn.pg.rd.keepN k) (Ch.refl _ _) (j := qs[i].2.pages.length - 1) hL fun pp hpp => ⟨_, fun w' k => by rw [Int.toNat_natCast, Nat.mul_one]; exact hpp w' k, ?_⟩⟩
 rw [← hlast]
 have hc1 : Ch Non w w1 := Ch.drew e1
 have hq1 := hrn.keepN hc1
 have hsd : qs[i].2.said.length ≤ 900 := by unfold RunD.toks at htl; rw [List.length_append] at htl; omega
 have htk := tokens_spec hq1 (by omega)
 rw [hrb] at htk
 refine step_call htk ?_
 rintro v w5 ⟨hT5, hc5⟩
 have hT5' := hT5
 obtain ⟨to, tc, rfl, ht1, ht2, htr⟩ := hT5
 have hc05 := hc1.andN hc5
 have h5 := h.keepN hc05
 have hB5 := hBl.keepN hc05
 have hs5 := hc05.size
 refine ⟨_, _, _, rfl, ?_⟩
 have htokv : tokR qs[i].2 = qs[i].2.toks[qs[i].2.done] := by unfold tokR; rw [List.getD_eq_getElem?_getD, List.getElem?_eq_getElem hd]; rfl
 have hee := (step_ok ⟨ok, hrn.br.sz⟩ hgood hlong htok).2
 have hsm : smallE (entR ps qs[i].2) := good_small ok hee
 -- behind the step
 refine ⟨fun e so sn sc w' => ∃ (eb : Nat) (p : Value × Value), e = ⟨eb, 0, none⟩ ∧ Blk w' eb [p.1, p.2] t_step_Entry ∧ EV w' p (entR ps qs[i].2) (New w w') ∧ IV w' (.slice so sn sc) (scR ps qs[i].2) (New w w') ∧ w.heap.size ≤ eb ∧ Ch Non w w' ∧ Ch Non w5 w', ⟨fun w' => Ch Non w5 w', fun w6 e6 => ⟨Ch.drew e6, _, fun w' k => (hB5.keepN k).cell 0 rfl, _, fun w' k => (h5.blk.keepN k).cell 0 rfl, _, _, _, fun w' k => (hB5.keepN k).cell 6 rfl, _, fun w' k => (hB5.keepN k).cell 7 rfl, ⟨by omega, by omega⟩, ?_⟩⟩, ?_⟩
 ·refine Rd.keeps (S := fun w' => Ch Non w5 w') (enc := Value.int .i64) (xs := qs[i].2.toks) (fun w' k => htr.keepN k) (Ch.refl _ _) (j := qs[i].2.done) hd fun tp htp => ⟨_, fun w' k => by rw [Int.toNat_natCast, Nat.mul_one]; exact htp w' k, ?_⟩
  rw [← htokv]
  have hd6 : Ch Non w5 w6 := Ch.drew e6
  have hg4 : ∀ p ∈ ps, p.es.length ≤ 4 := fun p hp => (h.px.g.pg p hp).2.2.2
  -- the step, wherever its entry's block is laid
  have stp : ∀ (wa : World) (po : Option Addr) (pn pc : Nat), Ch Non w5 wa → PV wa (.slice po pn pc) (pastR ps qs[i].2) (New w wa) → Calls Tryz.prog i_step_Step #[.pointer (some ⟨qs[i].1.bb, 0, none⟩), .slice po pn pc, .int .i64 (tokR qs[i].2)] wa (Ret fun v w' => ∃ (o1 : Option Addr) (c1 : Nat) (o2 : Option Addr) (c2 : Nat) (so : Option Addr) (sc : Nat), v = .tuple #[.agg #[.slice o1 (entR ps qs[i].2).1.length c1, .slice o2 (entR ps qs[i].2).2.length c2], .slice so (scR ps qs[i].2).length sc, .int .i64 0] ∧ EV w' (.slice o1 (entR ps qs[i].2).1.length c1, .slice o2 (entR ps qs[i].2).2.length c2) (entR ps qs[i].2) (New wa w') ∧ IV w' (.slice so (scR ps qs[i].2).length sc) (scR ps qs[i].2) (New wa w') ∧ Ch Non wa w') := fun wa po pn pc hca hpv => by
   refine step_call (Step_spec (hbr.keepN (hc05.andN hca)) hpv (tokR qs[i].2)) ?_
   rintro v w' hR
   obtain ⟨p, sv, rfl, hE, hS⟩ := hR.yes hgood htok hlong
   obtain ⟨o1, c1, o2, c2, rfl⟩ := Gen.ents_of hE
   have hS' := hS
   obtain ⟨so, sc, rfl, _⟩ := hS
   exact ⟨o1, c1, o2, c2, so, sc, rfl, hE, hS', hR.ch⟩
  have fin : ∀ (wz : World) (eb : Nat) (o1 : Option Addr) (c1 : Nat) (o2 : Option Addr) (c2 : Nat) (so : Option Addr) (sc : Nat) (G1 : Nat → Prop), Ch Non w5 wz → w5.heap.size ≤ eb → Blk wz eb [.slice none 0 0, .slice none 0 0] t_step_Entry →
    EV wz (.slice o1 (entR ps qs[i].2).1.length c1, .slice o2 (entR ps qs[i].2).2.length c2) (entR ps qs[i].2) G1 → IV wz (.slice so (scR ps qs[i].2).length sc) (scR ps qs[i].2) G1 → (∀ j, j < wz.heap.size → G1 j → w.heap.size ≤ j ∧ j ≠ eb) →
    (Okc wz ⟨eb, 0, none⟩ ∧ Okc wz ⟨eb, 1, none⟩) ∧ ∀ w' : World, w' = (wz.setCell ⟨eb, 0, none⟩ (.slice o1 (entR ps qs[i].2).1.length c1)).setCell ⟨eb, 1, none⟩ (.slice o2 (entR ps qs[i].2).2.length c2) → Ch Non w5 w' ∧
     ∃ (eb' : Nat) (p : Value × Value), (⟨eb, 0, none⟩ : Addr) = ⟨eb', 0, none⟩ ∧ Blk w' eb' [p.1, p.2] t_step_Entry ∧ EV w' p (entR ps qs[i].2) (New w w') ∧ IV w' (.slice so (scR ps qs[i].2).length sc) (scR ps qs[i].2) (New w w') ∧ w.heap.size ≤ eb' ∧ Ch Non w w' ∧ Ch Non w5 w' := fun wz eb o1 c1 o2 c2 so sc G1 hcz hge hBz hE hS hG => by
   refine ⟨⟨hBz.ok 0 rfl, hBz.ok 1 rfl⟩, fun w' e' => ?_⟩
   have hB' := (hBz.set (o := 0) rfl).set e'
   have hc' : Ch (· = eb) wz w' := Ch.set2 (F := (· = eb)) e' rfl rfl
   have hsz := hc'.size
   have hsz' : w'.heap.size = wz.heap.size := by subst e'; simp [World.setCell]
   have hEe := hBz.lt
   have hcw : Ch Non w5 w' := hcz.trans hc' (fun j hj he => by omega)
   refine ⟨hcw, eb, (_, _), rfl, hB', ?_, ?_, by omega, hc05.andN hcw, hcw⟩
   ·exact (hE.keep hc' (fun j hj hg he => (hG j hj hg).2 he)).mono (fun j hj hg => ⟨(hG j (by omega) hg).1, hj⟩)
   ·exact (hS.keep hc' (fun j hj hg he => (hG j hj hg).2 he)).mono (fun j hj hg => ⟨(hG j (by omega) hg).1, hj⟩)
  have hpl5 := (h.keepN (hc05.andN hd6)).px.p.r
  have hrn6 := hrn.keepN (hc05.andN hd6)
  have hs6 : w5.heap.size = w6.heap.size := by subst e6; rfl
  have getS : ∀ (wa : World), Ch Non w6 wa → Calls Tryz.prog i_pages_Pool_Get #[.pointer (some ⟨pb, 0, none⟩), .slice qs[i].1.po qs[i].2.pages.length qs[i].1.pc] wa (Ret fun v w' => PV w' v (pastR ps qs[i].2) (New wa w') ∧ Ch Non wa w') := fun wa hca => Get_pv (hpl5.keepN hca) (hrn6.keepN hca).pg.rd hg4 (by omega) _
  refine ⟨?_, fun w19 e19 => ⟨hd6.andN (Ch.alloc e19), ?_⟩, trivial⟩
  ·refine step_call (getS w6 (Ch.refl _ _)) ?_
   rintro v w12 ⟨hv, hc12⟩
   have hv' := hv
   obtain ⟨o12, c12, ps12, rfl, _⟩ := hv
   have hc512 := hd6.andN hc12
   have hs12 := hc12.size
   have hv2 := hv'.mono (G := New w w12) (fun j _ hj => ⟨by have := hj.1; omega, hj.2⟩)
   refine ⟨_, _, _, rfl, hc512, ?_, fun w16 e16 => ⟨hc512.andN (Ch.alloc e16), ?_⟩, trivial⟩
   ·refine step_call (stp w12 _ _ _ hc512 hv2) ?_
    rintro v w13 ⟨o1, c1, o2, c2, so, sc, rfl, hE, hS, hc13⟩
    have hs13 := hc13.size
    refine ⟨_, _, _, _, _, _, _, _, _, _, rfl, hc512.andN hc13, fun w14 e14 => ⟨(hc512.andN hc13).andN (Ch.alloc e14), ?_⟩⟩
    exact fin w14 w13.heap.size o1 c1 o2 c2 so sc (New w12 w13) ((hc512.andN hc13).andN (Ch.alloc e14)) (by omega) (Blk.new e14) (hE.keepN (Ch.alloc e14)) (hS.keepN (Ch.alloc e14)) (fun j _ hj => ⟨by have := hj.1; omega, by have := hj.2; omega⟩)
   ·have hB16 := Blk.new e16
    have hc16 : Ch Non w12 w16 := Ch.alloc e16
    have hs16 := hB16.lt
    refine step_call (stp w16 _ _ _ (hc512.andN hc16) ((hv2.keepN hc16).mono (fun j _ hj => ⟨hj.1, by have := hj.2; omega⟩))) ?_
    rintro v w17 ⟨o1, c1, o2, c2, so, sc, rfl, hE, hS, hc17⟩
    refine ⟨_, _, _, _, _, _, _, _, _, _, rfl, (hc512.andN hc16).andN hc17, ?_⟩
    exact fin w17 w12.heap.size o1 c1 o2 c2 so sc (New w16 w17) ((hc512.andN hc16).andN hc17) (by omega) (hB16.keepN hc17) hE hS (fun j _ hj => ⟨by have := hj.1; omega, by have := hj.1; omega⟩)
  ·have hB19 := Blk.new e19
   have hc19 : Ch Non w6 w19 := Ch.alloc e19
   have hs19 := hB19.lt
   refine step_call (getS w19 hc19) ?_
   rintro v w20 ⟨hv, hc20⟩
   have hv' := hv
   obtain ⟨o12, c12, ps12, rfl, _⟩ := hv
   have hc520 := (hd6.andN hc19).andN hc20
   have hs20 := hc20.size
   refine ⟨_, _, _, rfl, hc520, ?_⟩
   refine step_call (stp w20 _ _ _ hc520 (hv'.mono (fun j _ hj => ⟨by have := hj.1; omega, hj.2⟩))) ?_
   rintro v w21 ⟨o1, c1, o2, c2, so, sc, rfl, hE, hS, hc21⟩
   refine ⟨_, _, _, _, _, _, _, _, _, _, rfl, hc520.andN hc21, ?_⟩
   exact fin w21 w6.heap.size o1 c1 o2 c2 so sc (New w20 w21) (hc520.andN hc21) (by omega) ((hB19.keepN hc20).keepN hc21) hE hS (fun j _ hj => ⟨by have := hj.1; omega, by have := hj.1; omega⟩)
 ·rintro jk e so sn sc w23 ⟨eb, p, rfl, hB23, hE23, hS23, hge, hc23, hc523⟩
  have h23 := h.keepN hc23
  obtain ⟨o1, c1, o2, c2, rfl⟩ := Gen.ents_of hE23
  have hs23 := hc23.size
  have hRlt : ∀ m j, R m j → j < w.heap.size := h.fam.1
  have neb : ¬ R 3 eb := fun hx => by have := hRlt 3 eb hx; omega
  have hcb3 : ¬ R 3 cb := h.fam.2 0 3 (by omega) cb h.z
  refine ⟨fun w' => Ch (R 3) w23 w', fun w24 e24 => ⟨Ch.drew e24, _, fun w' k => (h23.blk.keep k hcb3).cell 0 rfl, _, _, _, _, _, _, ⟨fun w' k => (hB23.keep k neb).cell 0 rfl, fun w' k => by rw [add_at]; exact (hB23.keep k neb).cell 1 rfl⟩, ?_⟩⟩
  have hd24 : Ch Non w23 w24 := Ch.drew e24
  have h24 := h23.keepN hd24
  have hs24 : w23.heap.size = w24.heap.size := by subst e24; rfl
  refine step_call (Pages.Put_spec (p := (_, _)) h24.px.p.r (lastR qs[i].2) (hE23.keepN hd24).ent hsm) ?_
  rintro v w27 ⟨rfl, hP27, hc27⟩
  have hg27 := h24.px.g.put hB.1 (lastR qs[i].2) (entR ps qs[i].2)
  obtain ⟨hC27, hA27, hm27⟩ := h24.pool (PX.poolE h24.px hP27 hc27 hg27) (fun _ hj => hj) (fun _ hj => .inl hj) (hc27.mono (fun _ _ hj => .inr hj))
  obtain ⟨R1, hR1⟩ : ∃ R1, upR R (Ext (R 3) w24 w27) (R 4) = R1 := ⟨_, rfl⟩
  have hR12 : R1 2 = R 2 := by rw [← hR1]; exact upR_at (by omega) (by omega)
  rw [hR1] at hC27 hA27
  have hs27 := hc27.size
  have hrn27 := hC27.rn _ (List.getElem_mem hi)
  have hB27 := hrn27.blk
  rw [hrb] at hB27
  have hw1 : IntKind.i64.wrap ((qs[i].2.done : Int) + 1) = ((qs[i].2.done + 1 : Nat) : Int) := by rw [wrap_id (by omega) (by omega)]; rfl
  refine ⟨_, rfl, hd24.any.same hc27, _, hB27.cell 7 rfl, hB27.ok 7 rfl, fun w28 e28 => ?_⟩
  rw [hw1] at e28
  obtain ⟨R2, hC28, hA28, hR22, hm28⟩ := hC27.donePut (w' := w28) hi (by rw [hrb]; exact e28)
  have hi2 : i < (qs.set i (qs[i].1, { qs[i].2 with done := qs[i].2.done + 1 })).length := by rw [List.length_set]; exact hi
  have hB28 := hB27.set e28
  have hs28 := hm28.size
  -- what is the call's own stays
  have loc : ∀ (Rx : Nat → Nat → Prop) (wx : World), (∀ j, AllF Rx j → Ext (AllF R) w24 wx j) → ∀ j, New w w23 j → ¬ AllF Rx j := fun Rx wx hx j hj hm => by
   rcases hx j hm with ⟨m, hm⟩ | hn
   ·have := hRlt m j hm; have := hj.1; omega
   ·have := hn.1; have := hj.2; omega
  have hA2 : ∀ j, AllF R2 j → Ext (AllF R) w24 w28 j := fun j hj => by
   rcases hA28 j hj with hj | hj
   ·exact (hA27 j hj).imp (fun x => x) (fun k => ⟨k.1, by have := k.2; omega⟩)
   ·exact .inr ⟨by have := hj.1; omega, hj.2⟩
  have l0 := loc R w24 (fun j hj => .inl hj)
  have l1 := loc R1 w27 hA27
  have l2 := loc R2 w28 hA2
  have hT23 : IV w23 (.slice to qs[i].2.toks.length tc) qs[i].2.toks (New w w23) := by
   have hx : IV w5 (.slice to qs[i].2.toks.length tc) qs[i].2.toks (New w w5) := hT5'.mono (fun j _ hj => ⟨by have := hj.1; have := hc1.size; omega, hj.2⟩)
   exact (hx.keepN hc523).mono (fun j _ hj => ⟨hj.1, by have := hj.2; have := hc523.size; omega⟩)
  have hT28 : IV w28 (.slice to qs[i].2.toks.length tc) qs[i].2.toks (New w w23) := ((hT23.keepN hd24).keep hm27 (fun j _ hj hm => l0 j hj (mut_all j hm))).keep hm28 (fun j _ hj hm => l1 j hj (mut_all j hm))
  have hS28 : IV w28 (.slice so sn sc) (scR ps qs[i].2) (New w w23) := ((hS23.keepN hd24).keep hm27 (fun j _ hj hm => l0 j hj (mut_all j hm))).keep hm28 (fun j _ hj hm => l1 j hj (mut_all j hm))
  have hc028 : Ch (MutF R) w w28 := by
   refine (((hc23.andN hd24).any.same hm27)).trans hm28 (fun j hj hm => ?_)
   rcases hA27 j (mut_all j hm) with hx | hn
   ·obtain ⟨m, hm2, hm1⟩ := hm
    obtain ⟨m', hx⟩ := hx
    by_cases h2 : m' = 2
    ·subst h2
     rw [← hR12] at hx
     exact absurd hm1 (hC27.fam.2 2 m (by omega) j hx)
    ·exact ⟨m', h2, hx⟩
   ·have := hn.1; omega
  have hgr28 : ∀ j, AllF R2 j → Ext (AllF R) w w28 j := fun j hj => (hA2 j hj).imp (fun x => x) (fun k => ⟨by have := k.1; omega, k.2⟩)
  have hR2' : R2 2 = R 2 := by rw [hR22, hR12]
  have ht4 : Int.tmod ((qs[i].2.done + 1 : Nat) : Int) 4 = (((qs[i].2.done + 1) % 4 : Nat) : Int) := rfl
  have hd' : qs[i].2.done + 1 ≤ qs[i].2.toks.length := hd
  refine ⟨fun w' => ∃ R' : Nat → Nat → Prop, IV w' (.slice so sn sc) (scR ps qs[i].2) (fun j => w.heap.size ≤ j ∧ j < w'.heap.size ∧ ∀ m, ¬ R' m j) ∧ CrewC W w' cb pb xb k (B + 1) (recP ps es qs[i].2) (recX ps es qs[i].2) o c (qs.set i (qs[i].1, { qs[i].2 with done := qs[i].2.done + 1 })) R' ∧ (∀ j, AllF R' j → Ext (AllF R) w w' j) ∧ R' 2 = R 2 ∧ Ch (MutF R) w w',
   ⟨_, hB28.cell 7 rfl, by omega, fun hy => ?_, fun hno => ?_⟩, ?_⟩
  ·have hm4 : (qs[i].2.done + 1) % 4 = 0 := by
    rw [ht4] at hy
    have := eq_of_beq hy
    omega
   have hz5 : R2 (5 + 3 * rb) rb := by
    have := (hC28.rn _ (List.getElem_mem hi2)).z
    rw [List.getElem_set_self] at this
    rwa [← hrb]
   have nb : ¬ (R2 4 rb ∨ R2 3 rb) := fun hx => hx.elim (hC28.fam.2 _ 4 (by omega) rb hz5) (hC28.fam.2 _ 3 (by omega) rb hz5)
   have nc : ¬ (R2 4 cb ∨ R2 3 cb) := fun hx => hx.elim (hC28.fam.2 0 4 (by omega) cb hC28.z) (hC28.fam.2 0 3 (by omega) cb hC28.z)
   refine ⟨fun w' => Ch (fun j => R2 4 j ∨ R2 3 j) w28 w', fun w29 e29 => ⟨Ch.drew e29, _, fun w' k => (hC28.blk.keep k nc).cell 1 rfl, _, fun w' k => (hB28.keep k nb).cell 2 rfl, _, fun w' k => (hB28.keep k nb).cell 7 rfl, ⟨by omega, by omega⟩, ?_⟩⟩
   have hd29 : Ch Non w28 w29 := Ch.drew e29
   have hC29 := hC28.keepN hd29
   obtain ⟨oX, cX, eX, _, _, hrX⟩ := (hT28.keepN hd29).cut rfl (Nat.zero_le _) hd'
   injection eX with eX1 eX2 eX3
   subst eX1
   rw [List.drop_zero, Nat.sub_zero] at hrX
   rw [Nat.zero_mul, Int.toNat_natCast, Nat.sub_zero]
   have htk : (qs[i].2.toks.take (qs[i].2.done + 1)).length = qs[i].2.done + 1 := by rw [List.length_take]; omega
   have hA := Prefix.Add_spec hC29.px ⟨hB.1, by omega⟩ (by omega) hrX (by omega) (lastR qs[i].2) qs[i].2.ask.ver (tc - 0)
   rw [htk] at hA
   refine step_call hA ?_
   rintro v w33 ⟨rfl, hX33, hc33⟩
   obtain ⟨hC33, hA33, hm33⟩ := hC29.pool hX33 (fun _ hj => .inl hj) (fun _ hj => hj) hc33
   have hs29 : w28.heap.size = w29.heap.size := by subst e29; rfl
   have hs33 := hc33.size
   have hA3 : ∀ j, AllF (upR R2 (R2 3) (Ext (R2 4) w29 w33)) j → Ext (AllF R) w24 w33 j := fun j hj => by
    rcases hA33 j hj with hj | hj
    ·exact (hA2 j hj).imp (fun x => x) (fun k => ⟨k.1, by have := k.2; omega⟩)
    ·exact .inr ⟨by have := hj.1; omega, hj.2⟩
   have l3 := loc _ w33 hA3
   have hS33 := (hS28.keepN hd29).keep hm33 (fun j _ hj hm => l2 j hj (mut_all j hm))
   refine ⟨_, rfl, hd29.any.same hc33, upR R2 (R2 3) (Ext (R2 4) w29 w33), hS33.mono (fun j hj hn => ⟨hn.1, hj, fun m hm => l3 j hn ⟨m, hm⟩⟩), ?_, fun j hj => (hA3 j hj).imp (fun x => x) (fun k => ⟨by have := k.1; omega, k.2⟩), ?_, ?_⟩
   ·unfold recP recX
    rw [if_pos hm4, if_pos hm4]
    exact hC33
   ·rw [upR_at (by omega) (by omega), hR2']
   ·refine (hc028.andN hd29).trans hm33 (fun j hj hm => ?_)
    obtain ⟨m, hm2, hm⟩ := hm
    rcases hA2 j ⟨m, hm⟩ with ⟨m', hx⟩ | hn
    ·by_cases h2 : m' = 2
     ·subst h2
      rw [← hR2'] at hx
      exact absurd hm (hC28.fam.2 2 m (by omega) j hx)
     ·exact ⟨m', h2, hx⟩
    ·have := hn.1; omega
  ·have hm4 : ¬ (qs[i].2.done + 1) % 4 = 0 := fun he => by
    rw [ht4, he] at hno
    simp at hno
   refine ⟨R2, hS28.mono (fun j hj hn => ⟨hn.1, hj, fun m hm => l2 j hn ⟨m, hm⟩⟩), ?_, hgr28, hR2', hc028⟩
   ·unfold recP recX
    rw [if_neg hm4, if_neg hm4]
    exact ⟨hC28.fam, hC28.f, hC28.z, hC28.blk, hC28.own, hC28.px.le (by omega), hC28.nd, hC28.rn⟩
  ·rintro jk w34 ⟨R', h1, h2, h3, h4, h5⟩
   exact ⟨R', h1, h2, h3, h4, h5⟩
end
end Go.Proofs.YtkbikekbaboclaaGreat.Crew
set_option linter.unusedVariables false
set_option linter.unusedSimpArgs false
namespace Go.Proofs.YtkbikekbaboclaaGreat.Crew
open Go Go.Proofs V Vc Step Pages Prefix Brain Conf Stp Go.RowKit
open Ward (AskD AskP askE AskR ask_one asks_one)
def nextT (r : RunD) (sc : List Int) : Int := Gen.nextI (r.ask.draws.getD r.said.length 0) sc
def sayR (r : RunD) (sc : List Int) : RunD := if r.done < r.toks.length ∨ nextT r sc = 0 then r else { r with said := r.said ++ [nextT r sc] }
def sayB (r : RunD) (sc : List Int) : Bool := if r.done < r.toks.length then false else if nextT r sc = 0 then true else ((r.said.length + 1 : Nat) : Int) == r.ask.most
section
variable {W w w' w0 : World} {cb pb xb k tb : Nat} {B B' : Int} {ps ps' : List PageD} {es es' : List EntD} {o : Option Addr} {c n : Nat} {qs : List (RunC × RunD)} {q : RunC × RunD} {R R' R0 : Nat → Nat → Prop} {F G FP FI Fa TA : Nat → Prop} {xs ys : List Int}
theorem say_spec {i : Nat} {sv : Value} {sc : List Int} (h : CrewC W w cb pb xb k B ps es o c qs R) (hi : i < qs.length) (hs : IV w sv sc G) (hsl : sc.length ≤ 1000000) (hsd : qs[i].2.said.length ≤ 900) :
  Calls Tryz.prog i_crew_run_say #[.pointer (some ⟨qs[i].1.rb, 0, none⟩), sv] w (Ret fun v w' => v = .bool (sayB qs[i].2 sc) ∧ ∃ (g : RunC) (R' : Nat → Nat → Prop), g.rb = qs[i].1.rb ∧ CrewC W w' cb pb xb k B ps es o c (qs.set i (g, sayR qs[i].2 sc)) R' ∧ (∀ j, AllF R' j → Ext (AllF R) w w' j) ∧ R' 2 = R 2 ∧ Ch (MutF R) w w') := by
 have hrn := h.rn _ (List.getElem_mem hi)
 have hself : qs.set i (qs[i].1, qs[i].2) = qs := List.set_getElem_self hi
 have hs' := hs
 obtain ⟨so, sn, rfl, _⟩ := hs'
 refine crew_run_say.calls _ _ _ _ ?_
 unfold crew_run_say.vc
 refine ⟨fun w' => Ch Non w w', fun w1 e1 => ⟨Ch.drew e1, _, fun w' k => (hrn.blk.keepN k).cell 7 rfl, step_call (tokens_spec (hrn.keepN (Ch.drew e1)) (by omega)) ?_⟩⟩
 rintro v w3 ⟨⟨to, tc, rfl, _⟩, hc3⟩
 have hc03 : Ch Non w w3 := (Ch.drew (F := Non) e1).andN hc3
 have same : ∀ w', Ch Non w w' → sayR qs[i].2 sc = qs[i].2 → ∃ (g : RunC) (R' : Nat → Nat → Prop), g.rb = qs[i].1.rb ∧ CrewC W w' cb pb xb k B ps es o c (qs.set i (g, sayR qs[i].2 sc)) R' ∧ (∀ j, AllF R' j → Ext (AllF R) w w' j) ∧ R' 2 = R 2 ∧ Ch (MutF R) w w' := fun w' hc e => ⟨qs[i].1, R, rfl, by rw [e, hself]; exact h.keepN hc, fun j hj => .inl hj, rfl, hc.any⟩
 refine ⟨_, _, _, rfl, hc03, fun hy => ?_, fun hn => ?_⟩
 ·have hlt : qs[i].2.done < qs[i].2.toks.length := by have := of_decide_eq_true hy; omega
  exact ⟨by unfold sayB; rw [if_pos hlt], same w3 hc03 (by unfold sayR; rw [if_pos (.inl hlt)])⟩
 have hge : ¬ qs[i].2.done < qs[i].2.toks.length := by have := of_decide_eq_false hn; omega
 have hB3 := hrn.blk.keepN hc03
 have h3r := hrn.keepN hc03
 refine ⟨fun draw w' => draw = qs[i].2.ask.draws.getD qs[i].2.said.length 0 ∧ Ch Non w w', ⟨_, _, _, hB3.cell 8 rfl, _, _, _, hB3.cell 5 rfl, fun hl => ?_, fun hl => ?_⟩, ?_⟩
 ·have hl := of_decide_eq_true hl
  have hl2 : qs[i].2.said.length < qs[i].2.ask.draws.length := by omega
  refine ⟨_, _, _, hB3.cell 5 rfl, ⟨by omega, by omega⟩, Rd.typed (enc := Value.int .i64) h3r.ask.1.2.1 hl2 fun p hp => ⟨_, by rw [Int.toNat_natCast, Nat.mul_one]; exact hp, ?_, hc03⟩⟩
  rw [List.getD_eq_getElem?_getD, List.getElem?_eq_getElem hl2]; rfl
 ·have hl := of_decide_eq_false hl
  exact ⟨by rw [List.getD_eq_getElem?_getD, List.getElem?_eq_none (by omega)]; rfl, hc03⟩
 rintro jk draw w4 ⟨rfl, hc04⟩
 refine step_call (Gen.Next_spec (hs.keepN hc04) hsl _) ?_
 rintro v w5 ⟨rfl, hc5⟩
 have hc05 := hc04.andN hc5
 refine ⟨_, rfl, fun hy => ?_, fun hn => ?_⟩
 ·have ht : nextT qs[i].2 sc = 0 := eq_of_beq hy
  exact ⟨by unfold sayB; rw [if_neg hge, if_pos ht], same w5 hc05 (by unfold sayR; rw [if_pos (.inr ht)])⟩
 have ht : ¬ nextT qs[i].2 sc = 0 := fun he => by
  have he' : Gen.nextI (qs[i].2.ask.draws.getD qs[i].2.said.length 0) sc = 0 := he
  rw [he'] at hn; simp at hn
 have h5 := h.keepN hc05
 have hrn5 := h5.rn _ (List.getElem_mem hi)
 refine ⟨_, _, _, hrn5.blk.cell 8 rfl, fun w6 e6 => ?_⟩
 obtain ⟨po, pc, w7, hr7, hO7, hc7⟩ := Own.pushT (enc := Value.int .i64) (xs := qs[i].2.said) el_S_int hrn5.sd t_S_int (nextT qs[i].2 sc) e6 rfl (by unfold maxLen; omega) (by omega)
 have n7 : ¬ R (7 + 3 * qs[i].1.rb) qs[i].1.rb := h.fam.2 (5 + 3 * qs[i].1.rb) _ (by omega) _ hrn.z
 have hB7 := hrn5.blk.keep hc7 n7
 refine ⟨po, _, pc, w7, hr7, hB7.ok 8 rfl, fun w8 e8 => ?_⟩
 have hpl : (qs[i].2.said ++ [nextT qs[i].2 sc]).length = qs[i].2.said.length + 1 := by simp
 obtain ⟨R', hC8, hR8, h28, hm8⟩ := h5.saidPut (w' := w8) hi (sd := qs[i].2.said ++ [nextT qs[i].2 sc]) hc7 (by rw [hpl]; exact hO7) (by rw [hpl]; exact e8)
 have hB8 := hB7.set e8
 have hs05 := hc05.size
 have hs8 := hm8.size
 refine ⟨fun w' => Ch Non w8 w', fun w9 e9 => ⟨Ch.drew e9, _, _, _, fun w' k => (hB8.keepN k).cell 8 rfl, _, fun w' k => (hB8.keepN k).cell 4 rfl, ?_, { qs[i].1 with so := po, sc := pc }, R', rfl, ?_, fun j hj => ?_, h28, (hc05.any.same hm8).andN (Ch.drew e9)⟩⟩
 ·unfold sayB; rw [if_neg hge, if_neg ht]
 ·have e : sayR qs[i].2 sc = { qs[i].2 with said := qs[i].2.said ++ [nextT qs[i].2 sc] } := by unfold sayR; rw [if_neg (fun hx => hx.elim hge ht)]
  rw [e]
  exact hC8.keepN (Ch.drew e9)
 ·have hs9 : w9.heap.size = w8.heap.size := by subst e9; rfl
  exact (hR8 j hj).imp (fun x => x) (fun k => ⟨by have := k.1; omega, by have := k.2; omega⟩)
structure TurnD where
 id : Int
 done : Bool
 gave : Bool
 out : List Int
 away : List AskD
structure Cr where
 ps : List PageD
 es : List EntD
 rs : List RunD
def goR (ps : List PageD) (r : RunD) : RunD := sayR { r with done := r.done + 1 } (scR ps r)
def goB (ps : List PageD) (r : RunD) : Bool := sayB { r with done := r.done + 1 } (scR ps r)
def goS (i : Nat) (s : PgS) (r : RunD) : Cr := ⟨recP s.ps s.es r, recX s.ps s.es r, s.rs.set i (goR s.ps r)⟩
def cutS (i : Nat) (s : Cr) (r : RunD) : Cr := ⟨dropQL s.ps r.pages, s.es, s.rs.eraseIdx i⟩
def pickF (id : Int) (i : Nat) (s : PgS) : Cr × TurnD :=
 if s.ok = false then (⟨s.ps, s.es, s.rs⟩, ⟨id, false, true, [], s.aw⟩) else match s.rs[i]? with
  | none => (⟨s.ps, s.es, s.rs⟩, ⟨id, false, false, [], s.aw⟩)
  | some r => if goB s.ps r = true then (cutS i (goS i s r) (goR s.ps r), ⟨id, true, false, (goR s.ps r).said, s.aw⟩) else (goS i s r, ⟨id, false, false, [], s.aw⟩)
def pickI (n : Int) (l : Nat) : Nat := (n % (l : Int)).toNat
def RecOk (ps : List PageD) (r : RunD) : Prop := (0 < r.pages.length ∧ r.pages.length ≤ 900) ∧ r.toks.length ≤ 900 ∧ r.done < r.toks.length ∧ (∀ e ∈ pastR ps r, goodE r.c e) ∧ Stp.tokOk r.c (tokR r) ∧ ((pastR ps r).length : Int) < r.c.context
def PickO (W w0 : World) (cb pb xb k : Nat) (B : Int) (R0 : Nat → Nat → Prop) (cr : Cr) (t : TurnD) (w : World) (oo : Option Addr) (oc : Nat) (ao : Option Addr) (an ac : Nat) (M : Nat → Prop) : Prop :=
 ∃ (o : Option Addr) (c : Nat) (qs : List (RunC × RunD)) (R : Nat → Nat → Prop) (aq : List (AskD × AskP)) (TA : Nat → Prop), an = aq.length ∧ CrewC W w cb pb xb k B cr.ps cr.es o c qs R ∧ qs.map (·.2) = cr.rs ∧ IV w (.slice oo t.out.length oc) t.out (AllF R) ∧ aq.map (·.1) = t.away ∧
  Rd w ao (aq.map askE).flatten TA ∧ (∀ i, TA i → w0.heap.size ≤ i ∧ ¬ M i ∧ ∀ k, ¬ R k i) ∧ (∀ k i, M i → ¬ R k i) ∧ (∀ q ∈ aq, AskC w q (R 2)) ∧ (∀ i, AllF R i → Ext (AllF R0) w0 w i) ∧ R 2 = R0 2 ∧ Ch (fun i => MutF R0 i ∨ M i) w0 w
def turnV (t : TurnD) (oo : Option Addr) (oc : Nat) (ao : Option Addr) (an ac : Nat) : List Value := turnE t.id t.done t.gave oo t.out.length oc ao an ac
theorem PgI.pick {id : Int} {s : PgS} {ao : Option Addr} {ac : Nat} {aq : List (AskD × AskP)} (h : PgI W w0 tb cb pb xb k B id R0 s w o c qs R ao ac aq TA) : PickO W w0 cb pb xb k B R0 ⟨s.ps, s.es, s.rs⟩ ⟨id, false, false, [], s.aw⟩ w none 0 ao aq.length ac (· = tb) :=
 ⟨o, c, qs, R, aq, TA, rfl, h.crew, h.rs, IV.nil _ _, h.aws, h.aw.own.rd, fun i hi => ⟨(h.aw.ta i hi).1, (h.aw.ta i hi).2.2.1, (h.aw.ta i hi).2.2.2⟩, fun k i hi => hi ▸ h.aw.tb k, h.aw.ask, h.grow, h.two, h.ch⟩
theorem AwR.turn {ao : Option Addr} {ac : Nat} {aq : List (AskD × AskP)} (h : AwR w0 w R tb ao ac aq TA) (hc : Ch (· = tb) w w') : AwR w0 w' R tb ao ac aq TA :=
 ⟨h.own.keep hc (fun i _ hi he => (h.ta i hi).2.2.1 he), fun i hi => ⟨(h.ta i hi).1, Nat.lt_of_lt_of_le (h.ta i hi).2.1 hc.size, (h.ta i hi).2.2⟩, h.tb, fun q hq => (h.ask q hq).keep hc (fun i _ hi he => h.tb 2 (he ▸ hi))⟩
theorem pickI_tmod (n : Int) {l : Nat} (hl : 0 < l) : (Int.tmod n l < 0 → Int.tmod n l + l = pickI n l) ∧ (¬ Int.tmod n l < 0 → Int.tmod n l = pickI n l) ∧ - (l : Int) < Int.tmod n l ∧ Int.tmod n l < l ∧ pickI n l < l := by
 have h1 := Int.emod_nonneg n (show (l : Int) ≠ 0 by omega)
 have h2 := Int.emod_lt_of_pos n (show (0 : Int) < l by omega)
 have h3 := Int.tmod_eq_emod (a := n) (b := l)
 unfold pickI
 by_cases hc : 0 ≤ n ∨ (l : Int) ∣ n
 ·rw [if_pos hc] at h3
  omega
 ·rw [if_neg hc] at h3
  have h4 : n % (l : Int) ≠ 0 := fun he => hc (.inr (Int.dvd_of_emod_eq_zero he))
  have h5 : ((l : Int).natAbs : Int) = l := by omega
  omega
set_option maxHeartbeats 4000000 in
theorem Pick_spec {n : Int} {s : PgS} {cr : Cr} {t : TurnD} {i : Nat} (h : CrewC W w cb pb xb k B ps es o c qs R) (hk : k ≤ 1000) (hB : 1 ≤ B ∧ B ≤ 100000000) (hn : 0 < qs.length ∧ qs.length ≤ 900) (hes : es.length < 900) (hl : ∀ q ∈ qs, q.2.pages.length ≤ 900 ∧ q.2.done ≤ 1000000) (hi : pickI n qs.length = i)
  (hs : pageF i (es.length + qs.length + 1) ⟨ps, es, qs.map (·.2), [], true⟩ = s) (hes' : s.es.length < 900 ∧ s.rs.length ≤ 900) (hok : s.ok = true → ∀ r, s.rs[i]? = some r → RecOk s.ps r) (hid : ∀ q, qs[i]? = some q → pickF q.2.ask.id i s = (cr, t)) :
  Calls Tryz.prog i_crew_Crew_Pick #[.pointer (some ⟨cb, 0, none⟩), .int .i64 n] w (Ret fun v w' => ∃ (oo : Option Addr) (oc : Nat) (ao : Option Addr) (an ac : Nat), v = .tuple #[.agg (turnV t oo oc ao an ac).toArray, .int .i64 0] ∧ PickO W w cb pb xb k (B + 1) R cr t w' oo oc ao an ac Non) := by
 obtain ⟨t1, t2, t3, t4, t5⟩ := pickI_tmod n hn.1
 rw [hi] at t1 t2 t5
 have hpf := hid _ (List.getElem?_eq_getElem t5)
 refine crew_Crew_Pick.calls _ _ ?_
 unfold crew_Crew_Pick.vc
 intro w1 e1
 have hT1 : Blk w1 w.heap.size _ t_crew_Turn := Blk.new e1
 have hc1 : Ch Non w w1 := Ch.alloc e1
 have h1 := h.keepN hc1
 obtain ⟨p, hp, hcell⟩ := h1.at t5
 subst hp
 have hr1 := h1.rn _ (List.getElem_mem t5)
 refine ⟨_, _, _, h1.blk.cell 2 rfl, fun hy => absurd (eq_of_beq hy) (by omega), fun hno => ⟨_, _, _, h1.blk.cell 2 rfl, by omega, fun v w' => v = (i : Int) ∧ w' = w1, ⟨fun hy => ?_, fun hy => ?_⟩, ?_⟩⟩
 ·have hy := of_decide_eq_true hy
  exact ⟨_, _, _, h1.blk.cell 2 rfl, by rw [wrap_id (by omega) (by omega)]; exact t1 hy, rfl⟩
 ·exact ⟨t2 (of_decide_eq_false hy), rfl⟩
 rintro jk vat w3 ⟨rfl, e3⟩
 subst e3
 refine ⟨_, _, _, h1.blk.cell 2 rfl, ⟨by omega, by omega⟩, some ⟨qs[i].1.rb, 0, none⟩, by rw [Int.toNat_natCast, Nat.mul_one]; exact hcell, _, by rw [add_at, Nat.zero_add]; exact hr1.blk.cell 1 rfl, fun w4 e4 => ?_⟩
 have hT4 := Blk.new e4
 have hc4 : Ch Non w3 w4 := Ch.alloc e4
 have hbl := hT1.lt
 obtain ⟨tb, htb⟩ : ∃ tb, w3.heap.size = tb := ⟨_, rfl⟩
 rw [htb] at hT4 hbl ⊢
 refine ⟨⟨hT4.ok 0 rfl, hT4.ok 1 rfl, hT4.ok 2 rfl, hT4.ok 3 rfl, hT4.ok 4 rfl⟩, fun w5 e5 => ?_⟩
 have e5' : w5 = w4.setCells tb 0 (turnE qs[i].2.ask.id false false none 0 0 none 0 0) := e5
 have hT5 := hT4.all (turnE qs[i].2.ask.id false false none 0 0 none 0 0) rfl e5'
 have hc5 : Ch (· = tb) w4 w5 := Ch.sets e5' rfl
 have hc35 : Ch Non w3 w5 := hc4.trans hc5 (fun j hj he => by omega)
 have hc05 := hc1.andN hc35
 have h5 := h.keepN hc05
 have hs1 := hc1.size
 have hs35 := hc35.size
 have hRlt : ∀ m j, R m j → j < w.heap.size := h.fam.1
 have hWs := h.ch.size
 have hT15 := hT1.keepN hc35
 refine ⟨fun w' => ∃ (oo : Option Addr) (oc : Nat) (ao : Option Addr) (an ac : Nat), Blk w' tb (turnV t oo oc ao an ac) t_crew_Turn ∧ PickO W w5 cb pb xb k (B + 1) R cr t w' oo oc ao an ac (· = tb), step_call (page_spec h5 hk ⟨hB.1, by omega⟩ hn.2 (by omega) hl t5 hT5 (fun m hm => by have := hRlt m tb hm; omega) (by omega)) ?_, ?_⟩
 ·rintro v w6 ⟨s', hs', rfl, hO⟩
  rw [hs] at hs'
  subst hs'
  obtain ⟨o6, c6, qs6, R6, ao, ac, aq, TA, hC6, hrs6, hat, hT6, haws, haw, hgr, htwo, hch6⟩ := hO
  refine ⟨_, rfl, fun hy => ?_, fun hno2 => ?_⟩
  rotate_left
  ·unfold pickF at hpf
   rw [if_pos hno2] at hpf
   injection hpf with p1 p2
   subst p1; subst p2
   refine ⟨none, 0, ao, aq.length, ac, ?_, o6, c6, qs6, R6, aq, TA, rfl, hC6.le (by omega), hrs6, IV.nil _ _, haws, haw.own.rd, fun i hi => ⟨(haw.ta i hi).1, (haw.ta i hi).2.2.1, (haw.ta i hi).2.2.2⟩, fun k i hi => hi ▸ haw.tb k, haw.ask, hgr, htwo, hch6⟩
   rw [hno2] at hT6
   exact hT6
  obtain ⟨hi6, hrb6⟩ := hat hy
  have hri : s.rs[i]? = some qs6[i].2 := by rw [← hrs6]; simp [hi6]
  have hlen6 : qs6.length = s.rs.length := by rw [← hrs6]; simp
  obtain ⟨r1, r2, r3, r4, r5, r6⟩ := hok hy _ hri
  unfold pickF at hpf
  rw [if_neg (by rw [hy]; decide), hri] at hpf
  dsimp only at hpf
  rw [hy] at hT6
  have hI6 : PgI W w5 tb cb pb xb k (B + 1) qs[i].2.ask.id R s w6 o6 c6 qs6 R6 ao ac aq TA := ⟨hC6.le (by omega), hrs6, hT6, haws, haw, hgr, htwo, hch6, by omega, by omega⟩
  have hRk := reckon_spec hC6 hk ⟨by omega, hB.2⟩ (by omega) hes'.1 hi6 r1 r2 r3 r4 r5 r6
  rw [hrb6] at hRk
  refine step_call hRk ?_
  rintro v w7 ⟨R7, hS7, hC7, hR7, h27, hm7⟩
  have hS7' := hS7
  obtain ⟨so, sc, rfl, _⟩ := hS7
  have hi7 : i < (qs6.set i (qs6[i].1, { qs6[i].2 with done := qs6[i].2.done + 1 })).length := by rw [List.length_set]; exact hi6
  have hI7 := hI6.step (s' := { s with ps := recP s.ps s.es qs6[i].2, es := recX s.ps s.es qs6[i].2, rs := s.rs.set i { qs6[i].2 with done := qs6[i].2.done + 1 } }) hm7 hC7 (by rw [List.map_set, hrs6]) rfl hR7 h27
  have hsc : (scR s.ps qs6[i].2).length ≤ 1000000 := by
   unfold scR
   rw [Gen.stepL_len]
   have := (hC6.rn _ (List.getElem_mem hi6)).br.ok.1
   omega
  have hSy := say_spec hC7 hi7 hS7' hsc (by
   rw [List.getElem_set_self]
   unfold RunD.toks at r2; rw [List.length_append] at r2; dsimp only; omega)
  simp only [List.getElem_set_self, List.set_set] at hSy
  rw [hrb6] at hSy
  refine ⟨_, _, _, rfl, step_call hSy ?_⟩
  rintro v w8 ⟨rfl, g, R8, hg, hC8, hR8, h28, hm8⟩
  have hI8 := hI7.step (s' := { s with ps := recP s.ps s.es qs6[i].2, es := recX s.ps s.es qs6[i].2, rs := s.rs.set i (goR s.ps qs6[i].2) }) hm8 hC8 (by rw [List.map_set, hrs6]; rfl) rfl hR8 h28
  refine ⟨_, rfl, fun hy2 => ?_, fun hno2 => ?_⟩
  rotate_left
  ·have hno2 : ¬ goB s.ps qs6[i].2 = true := by rw [show goB s.ps qs6[i].2 = false from hno2]; decide
   rw [if_neg hno2] at hpf
   injection hpf with p1 p2
   subst p1; subst p2
   exact ⟨none, 0, ao, aq.length, ac, hI8.turn, hI8.pick⟩
  ·have hy2 : goB s.ps qs6[i].2 = true := hy2
   rw [if_pos hy2] at hpf
   injection hpf with p1 p2
   subst p1; subst p2
   have hC8 : CrewC W w8 cb pb xb k (B + 1) (recP s.ps s.es qs6[i].2) (recX s.ps s.es qs6[i].2) o6 c6 (qs6.set i (g, goR s.ps qs6[i].2)) R8 := hC8
   have hi8 : i < (qs6.set i (g, goR s.ps qs6[i].2)).length := by rw [List.length_set]; exact hi6
   have hrn8 := hC8.rn _ (List.getElem_mem hi8)
   rw [List.getElem_set_self] at hrn8
   have hB8 := hrn8.blk
   rw [show (g, goR s.ps qs6[i].2).1.rb = qs[i].1.rb from hg] at hB8
   have hT8 := hI8.turn
   refine ⟨_, _, _, by rw [add_at, Nat.zero_add]; exact hB8.cell 8 rfl, hT8.ok 1 rfl, fun w9 e9 => ?_⟩
   have hT9 := hT8.set e9
   refine ⟨hT9.ok 3 rfl, fun w10 e10 => ?_⟩
   have hT10 := hT9.set e10
   have hc10 : Ch (· = tb) w8 w10 := (Ch.set (F := (· = tb)) e9 rfl).same (Ch.set e10 rfl)
   have nR : ∀ m j, R8 m j → ¬ j = tb := fun m j hm he => hI8.aw.tb m (he ▸ hm)
   have hC10 := hC8.far hc10 nR (fun j hj he => by omega)
   have hpg : (goR s.ps qs6[i].2).pages = qs6[i].2.pages := by unfold goR sayR; split <;> rfl
   have hCut := cut_spec hC10 hk ⟨by omega, by omega⟩ (by rw [List.length_set]; omega) hi8 (by rw [List.getElem_set_self]; dsimp only; rw [hpg]; omega)
   simp only [List.getElem_set_self] at hCut
   refine step_call hCut ?_
   rintro v w11 ⟨rfl, hC11, hrn11, hc11⟩
   have hm11 : Ch (MutF R8) w10 w11 := hc11.mono (fun j _ hj => low_all j hj)
   have haw11 := ((hI8.aw.turn hc10).step hm11 (fun _ h => h) (R' := R8) (fun _ h => .inl h) rfl hC10.fam hT10.lt)
   have hs10 := hc10.size
   have hs11 := hm11.size
   have hs8 := hI8.ch.size
   refine ⟨_, rfl, _, _, ao, aq.length, ac, hT10.keep hm11 (fun ⟨m, _, hm⟩ => nR m tb hm rfl), o6, c6, _, R8, aq, TA, rfl, hC11, ?_, (Own.iv hrn11.sd).mono (fun j _ hj => ⟨_, hj⟩), hI8.aws, haw11.own.rd, fun j hj => ⟨(haw11.ta j hj).1, (haw11.ta j hj).2.2.1, (haw11.ta j hj).2.2.2⟩, fun m j hj => hj ▸ haw11.tb m, haw11.ask, fun j hj => (hI8.grow j hj).imp (fun x => x) (fun k => ⟨k.1, by have := k.2; omega⟩), hI8.two, ?_⟩
   ·rw [map_eraseIdx, List.map_set, hrs6]; rfl
   ·refine (hI8.ch.trans hc10 (fun j _ he => .inr he)).trans hm11 (fun j hj hm => ?_)
    obtain ⟨m, hm2, hm⟩ := hm
    rcases hI8.grow j ⟨m, hm⟩ with ⟨m', hx⟩ | hx
    ·by_cases h2 : m' = 2
     ·subst h2
      rw [← hI8.two] at hx
      exact absurd hm (hC8.fam.2 2 m (by omega) j hx)
     ·exact .inl ⟨m', h2, hx⟩
    ·have := hx.1; omega
 ·rintro jk w12 ⟨oo, oc, ao, an, ac, hT12, hO⟩
  obtain ⟨o', c', qs', R', aq, TA, rfl, hC, hrs, hout, haw, hrd, hta, hM, hask, hgr, htwo, hch⟩ := hO
  obtain ⟨rT, hrT⟩ : ∃ rT, w.heap.size = rT := ⟨_, rfl⟩
  rw [hrT] at hT15 hT1 ⊢
  have hR12 := hT15.keep hch (fun hx => by
   rcases hx with ⟨m, _, hm⟩ | hx
   ·have := hRlt m rT hm; omega
   ·omega)
  refine ⟨_, _, _, _, _, _, _, _, _, ⟨hT12.cell 0 rfl, hT12.cell 1 rfl, hT12.cell 2 rfl, hT12.cell 3 rfl, hT12.cell 4 rfl⟩, ⟨hR12.ok 0 rfl, hR12.ok 1 rfl, hR12.ok 2 rfl, hR12.ok 3 rfl, hR12.ok 4 rfl⟩, fun w13 e13 => ?_⟩
  have e13' : w13 = w12.setCells rT 0 (turnV t oo oc ao aq.length ac) := e13
  have hR13 := hR12.all (turnV t oo oc ao aq.length ac) rfl e13'
  have hc13 : Ch (· = rT) w12 w13 := Ch.sets e13' rfl
  have hs13 := hc13.size
  have hs12 := hch.size
  have nR : ∀ m j, R' m j → ¬ j = rT := fun m j hm he => by
   rcases hgr j ⟨m, hm⟩ with ⟨m', hx⟩ | hx
   ·have := hRlt m' j hx; omega
   ·have := hx.1; omega
  refine ⟨_, _, _, _, _, _, _, _, _, ⟨hR13.cell 0 rfl, hR13.cell 1 rfl, hR13.cell 2 rfl, hR13.cell 3 rfl, hR13.cell 4 rfl⟩, oo, oc, ao, aq.length, ac, rfl, o', c', qs', R', aq, TA, rfl, hC.far hc13 nR (fun j hj he => by omega), hrs, hout.keep hc13 (fun j _ ⟨m, hm⟩ => nR m j hm), haw, hrd.keep hc13 (fun j _ hj he => by have := (hta j hj).1; omega), fun j hj => ⟨by have := (hta j hj).1; omega, id, (hta j hj).2.2⟩, fun m j hj => hj.elim, fun q hq => (hask q hq).keep hc13 (fun j _ hj => nR 2 j hj), fun j hj => (hgr j hj).imp (fun x => x) (fun k => ⟨by have := k.1; omega, by have := k.2; omega⟩), htwo, ?_⟩
  refine (hc05.any.trans hch (fun j hj hx => ?_)).trans hc13 (fun j hj he => by omega)
  rcases hx with hx | hx
  ·exact .inl hx
  ·omega
end
end Go.Proofs.YtkbikekbaboclaaGreat.Crew
set_option linter.unusedVariables false
set_option linter.unusedSimpArgs false
namespace Go.Proofs.YtkbikekbaboclaaGreat.Crew
open Go Go.Proofs V Vc Step Pages Prefix Brain Conf Stp Go.RowKit
open Ward (AskD AskP askE AskR)
def cE (es : List EntD) (p : Int) : Nat := (es.map (·.page)).count p
def cR : List RunD → Int → Nat
 | [], _ => 0
 | r :: l, p => r.pages.count p + cR l p
section
variable {ps ps' : List PageD} {es es' : List EntD} {rs rs' : List RunD} {r r' : RunD} {p x : Int} {i j k : Nat} {l : List Int} {g : PageD}
theorem cR_app : ∀ (a b : List RunD), cR (a ++ b) p = cR a p + cR b p
 | [], b => by simp [cR]
 | r :: a, b => by rw [List.cons_append, cR, cR, cR_app a b]; omega
theorem cR_erase : ∀ {rs : List RunD} {i : Nat} (h : i < rs.length), cR (rs.eraseIdx i) p + rs[i].pages.count p = cR rs p
 | [], i, h => by simp at h
 | r :: a, 0, h => by rw [List.eraseIdx_cons_zero, List.getElem_cons_zero, cR]; omega
 | r :: a, i + 1, h => by
  have := cR_erase (rs := a) (i := i) (by simpa using h)
  rw [List.eraseIdx_cons_succ, List.getElem_cons_succ, cR, cR]; omega
theorem cR_set : ∀ {rs : List RunD} {i : Nat} (h : i < rs.length) (r : RunD), cR (rs.set i r) p + rs[i].pages.count p = cR rs p + r.pages.count p
 | [], i, h, r => by simp at h
 | q :: a, 0, h, r => by rw [List.set_cons_zero, List.getElem_cons_zero, cR, cR]; omega
 | q :: a, i + 1, h, r => by
  have := cR_set (rs := a) (i := i) (by simpa using h) r
  rw [List.set_cons_succ, List.getElem_cons_succ, cR, cR]; omega
theorem cR_mem : ∀ {rs : List RunD}, r ∈ rs → r.pages.count p ≤ cR rs p
 | [], h => by cases h
 | q :: a, h => by
  rw [cR]
  rcases List.mem_cons.1 h with rfl | h
  ·omega
  ·have := cR_mem h; omega
theorem eraseIdx_perm {α : Type} {es : List α} {i : Nat} (h : i < es.length) : (es.eraseIdx i ++ [es[i]]).Perm es := by
 rw [eraseIdx_td]
 have h1 : es = es.take i ++ es[i] :: es.drop (i + 1) := by
  rw [List.getElem_cons_drop, List.take_append_drop]
 have h2 : (es.take i ++ es.drop (i + 1) ++ [es[i]]).Perm (es.take i ++ es[i] :: es.drop (i + 1)) := by
  rw [List.append_assoc]
  refine List.Perm.append_left _ ?_
  exact (List.perm_append_singleton _ _)
 rw [← h1] at h2; exact h2
theorem mem_erase_set : ∀ {rs : List RunD} {i : Nat} {x q : RunD}, q ∈ rs.set i x → q = x ∨ q ∈ rs.eraseIdx i
 | [], i, x, q, h => by simp at h
 | y :: a, 0, x, q, h => by
  rw [List.set_cons_zero] at h
  exact List.mem_cons.1 h
 | y :: a, i + 1, x, q, h => by
  rw [List.set_cons_succ] at h
  rw [List.eraseIdx_cons_succ]
  rcases List.mem_cons.1 h with rfl | h
  ·exact .inr (List.mem_cons_self ..)
  ·exact (mem_erase_set h).imp id (List.mem_cons_of_mem _)
theorem pgAt_out (h : ¬ (0 ≤ p ∧ p.toNat < ps.length)) : pgAt ps p = pg0 := by
 unfold pgAt
 split
 ·rw [List.getD_eq_getElem?_getD, List.getElem?_eq_none (by omega)]; rfl
 ·rfl
theorem pgAt_put (h0 : 0 ≤ x) (h1 : x.toNat < ps.length) (p : Int) : pgAt (ps.set x.toNat g) p = if p = x then g else pgAt ps p := by
 by_cases hp : 0 ≤ p
 ·rw [pgAt_set hp h1]
  by_cases e : p = x
  ·rw [if_pos e, if_pos (by omega)]
  ·rw [if_neg e, if_neg (by omega)]
 ·rw [if_neg (by omega), pgAt_out (by omega), pgAt_out (by omega)]
theorem use_in (h : (pgAt ps p).users ≠ 0) : 0 ≤ p ∧ p.toNat < ps.length := by
 apply Classical.byContradiction
 intro hn
 rw [pgAt_out hn] at h
 exact h rfl
theorem dropL_at : ∀ {l : List Int} {ps : List PageD}, (∀ p, (l.count p : Int) ≤ (pgAt ps p).users) → ∀ p, (pgAt (dropL ps l) p).users = (pgAt ps p).users - l.count p ∧ ((pgAt (dropL ps l) p).users ≠ 0 → (pgAt (dropL ps l) p).ver = (pgAt ps p).ver ∧ (pgAt (dropL ps l) p).es = (pgAt ps p).es)
 | [], ps, h, p => ⟨by simp [dropL], fun _ => ⟨rfl, rfl⟩⟩
 | x :: l, ps, h, p => by
  have hx := h x
  rw [List.count_cons_self] at hx
  obtain ⟨h0, h1⟩ := use_in (ps := ps) (p := x) (by omega)
  have hd : ∀ q, pgAt (dropU ps x) q = if q = x then (if (pgAt ps x).users - 1 = 0 then pg0 else { pgAt ps x with users := (pgAt ps x).users + -1 }) else pgAt ps q := fun q => by
   unfold dropU
   split
   ·rw [pgAt_put h0 h1]
   ·unfold addU; rw [pgAt_put h0 h1]
  have hu : ∀ q, (pgAt (dropU ps x) q).users = (pgAt ps q).users - (if q = x then 1 else 0) ∧ ((pgAt (dropU ps x) q).users ≠ 0 → (pgAt (dropU ps x) q).ver = (pgAt ps q).ver ∧ (pgAt (dropU ps x) q).es = (pgAt ps q).es) := fun q => by
   rw [hd]
   by_cases e : q = x
   ·subst e
    rw [if_pos rfl, if_pos rfl]
    split
    ·rename_i hz; exact ⟨by show (0 : Int) = _; omega, fun hn => absurd rfl hn⟩
    ·exact ⟨rfl, fun _ => ⟨rfl, rfl⟩⟩
   ·rw [if_neg e, if_neg e]
    exact ⟨by omega, fun _ => ⟨rfl, rfl⟩⟩
  have hc : ∀ q, ((x :: l).count q : Int) = l.count q + (if q = x then 1 else 0) := fun q => by
   rw [List.count_cons]
   by_cases e : q = x
   ·subst e; simp
   ·rw [if_neg e, if_neg (by simpa using fun h => e h.symm)]; simp
  obtain ⟨ih1, ih2⟩ := dropL_at (l := l) (ps := dropU ps x) (fun q => by
   have := h q
   rw [hc] at this
   rw [(hu q).1]; omega) p
  have he : dropL ps (x :: l) = dropL (dropU ps x) l := rfl
  rw [he]
  refine ⟨by rw [ih1, (hu p).1, hc]; omega, fun hn => ?_⟩
  obtain ⟨a1, a2⟩ := ih2 hn
  have hn2 : (pgAt (dropU ps x) p).users ≠ 0 := fun hz => hn (by
   have := h p
   rw [hc] at this
   have := (hu p).1
   have hb : 0 ≤ (l.count p : Int) := by omega
   omega)
  obtain ⟨b1, b2⟩ := (hu p).2 hn2
  exact ⟨a1.trans b1, a2.trans b2⟩
theorem dropQL_eq (h : ∀ p, (l.count p : Int) ≤ (pgAt ps p).users) : dropQL ps l = dropL ps l := by
 unfold dropQL
 rw [if_pos]
 rw [Bool.and_eq_true]
 refine ⟨?_, ?_⟩
 ·unfold allB
  rw [List.all_eq_true]
  intro x hx
  have h1 := h x
  have h2 := List.count_pos_iff.2 hx
  exact decide_eq_true (by omega)
 ·unfold overB
  rw [Bool.not_eq_true', List.any_eq_false]
  intro x hx
  have h1 := h x
  simp; omega
theorem dropQL_at (h : ∀ p, (l.count p : Int) ≤ (pgAt ps p).users) (p : Int) : (pgAt (dropQL ps l) p).users = (pgAt ps p).users - l.count p ∧ ((pgAt (dropQL ps l) p).users ≠ 0 → (pgAt (dropQL ps l) p).ver = (pgAt ps p).ver ∧ (pgAt (dropQL ps l) p).es = (pgAt ps p).es) := by
 rw [dropQL_eq h]; exact dropL_at h p
theorem addU_at (h0 : 0 ≤ x) (h1 : x.toNat < ps.length) (d p : Int) : (pgAt (addU d ps x) p).users = (pgAt ps p).users + (if p = x then d else 0) ∧ (pgAt (addU d ps x) p).ver = (pgAt ps p).ver ∧ (pgAt (addU d ps x) p).es = (pgAt ps p).es := by
 unfold addU
 rw [pgAt_put h0 h1]
 by_cases e : p = x
 ·subst e; rw [if_pos rfl, if_pos rfl]; exact ⟨rfl, rfl, rfl⟩
 ·rw [if_neg e, if_neg e]; exact ⟨by omega, rfl, rfl⟩
theorem shareL_at : ∀ {l : List Int} {ps : List PageD}, (∀ x ∈ l, 0 ≤ x ∧ x.toNat < ps.length) → ∀ p, (pgAt (shareL ps l) p).users = (pgAt ps p).users + l.count p ∧ (pgAt (shareL ps l) p).ver = (pgAt ps p).ver ∧ (pgAt (shareL ps l) p).es = (pgAt ps p).es
 | [], ps, h, p => ⟨by simp [shareL], rfl, rfl⟩
 | x :: l, ps, h, p => by
  obtain ⟨h0, h1⟩ := h x List.mem_cons_self
  obtain ⟨a1, a2, a3⟩ := addU_at h0 h1 1 p
  obtain ⟨b1, b2, b3⟩ := shareL_at (l := l) (ps := addU 1 ps x) (fun y hy => by rw [addU_len]; exact h y (List.mem_cons_of_mem _ hy)) p
  have he : shareL ps (x :: l) = shareL (addU 1 ps x) l := rfl
  rw [he]
  refine ⟨?_, b2.trans a2, b3.trans a3⟩
  rw [b1, a1, List.count_cons]
  by_cases e : p = x
  ·subst e; simp; omega
  ·rw [if_neg e, if_neg (by simpa using fun h => e h.symm)]; simp
end
structure Mds where
 f : Int → ByteArray
 vm : Int
instance : CoeFun Mds (fun _ => Int → ByteArray) := ⟨Mds.f⟩
structure EntOk (cf : CfD) (md : Mds) (ps : List PageD) (e : EntD) : Prop where
 m4 : e.toks.length % 4 = 0
 ln : 0 < e.toks.length ∧ e.toks.length ≤ 32
 vr : 1 ≤ e.ver ∧ e.ver ≤ md.vm
 ver : (pgAt ps e.page).ver = e.ver
 es : (pgAt ps e.page).es = (runE cf (md e.ver) [] e.toks).drop (e.toks.length - 4)
structure RunSt (cf : CfD) (md : Mds) (k : Nat) (r : RunD) : Prop where
 c : r.c = cf
 wt : r.wt = md r.ask.ver
 ver : 1 ≤ r.ask.ver ∧ r.ask.ver ≤ md.vm
 ok : Gen.checkP cf r.ask.most r.ask.prompt = 0
 need : Ward.needN r.ask ≤ k
 sd : r.said = (Gen.sayP cf (md r.ask.ver) (Gen.drawT r.ask.draws) r.ask.most r.ask.prompt).take r.said.length
 sl : r.said.length = r.done + 1 - r.ask.prompt.length
 sm : (r.said.length : Int) < r.ask.most
 dn : r.done < r.toks.length
def pastT (cf : CfD) (md : Mds) (r : RunD) : List Ent := runE cf (md r.ask.ver) [] (r.toks.take r.done)
structure RunPg (cf : CfD) (md : Mds) (ps : List PageD) (r : RunD) : Prop where
 lo : r.done ≤ 4 * r.pages.length
 hi : 4 * r.pages.length ≤ r.done + 4
 nd : r.pages.Nodup
 co : ∀ j (h : j < r.pages.length), (pgAt ps r.pages[j]).ver = r.ask.ver ∧ (pgAt ps r.pages[j]).es = ((pastT cf md r).drop (4 * j)).take 4
 pt : r.done ≠ 4 * r.pages.length → (pgAt ps (lastR r)).users = 1
structure PInv (cf : CfD) (md : Mds) (k : Nat) (ps : List PageD) (es : List EntD) (rs : List RunD) : Prop where
 len : ps.length = k
 us : ∀ p, (pgAt ps p).users = (cE es p + cR rs p : Nat)
 nd : (es.map (·.page)).Nodup
 en : ∀ e ∈ es, EntOk cf md ps e
section
variable {cf : CfD} {md : Mds} {ps ps' : List PageD} {es es' : List EntD} {rs rs' : List RunD} {r r' : RunD} {e : EntD} {p x v : Int} {i j k : Nat} {l : List Int} {g : PageD}
theorem lastR_mem (h : r.pages ≠ []) : lastR r ∈ r.pages := by
 have hl := List.length_pos_iff.2 h
 unfold lastR
 rw [List.getD_eq_getElem?_getD, List.getElem?_eq_getElem (by omega)]
 exact List.getElem_mem _
theorem RunPg.ne (h : RunPg cf md ps r) (hn : r.done ≠ 4 * r.pages.length) : r.pages ≠ [] := fun e => by
 have h1 := h.lo
 rw [e] at h1 hn
 simp only [List.length_nil] at h1 hn
 omega
theorem RunPg.keep (h : RunPg cf md ps r) (hk : ∀ p ∈ r.pages, (pgAt ps' p).ver = (pgAt ps p).ver ∧ (pgAt ps' p).es = (pgAt ps p).es) (hp : lastR r ∈ r.pages → (pgAt ps (lastR r)).users = 1 → (pgAt ps' (lastR r)).users = 1) : RunPg cf md ps' r :=
 ⟨h.lo, h.hi, h.nd, fun j hj => by
  obtain ⟨a, b⟩ := hk _ (List.getElem_mem hj)
  rw [a, b]; exact h.co j hj, fun hn => hp (lastR_mem (h.ne hn)) (h.pt hn)⟩
theorem cE_mem (h : e ∈ es) : 1 ≤ cE es e.page := List.count_pos_iff.2 (List.mem_map.2 ⟨e, h, rfl⟩)
theorem cE_page (h : 1 ≤ cE es p) : ∃ e ∈ es, e.page = p := List.mem_map.1 (List.count_pos_iff.1 h)
theorem PInv.drop (h : PInv cf md k ps es rs) (hc : ∀ p, cE es' p + cR rs' p + l.count p = cE es p + cR rs p) (hn : (es'.map (·.page)).Nodup) (hs : ∀ e ∈ es', e ∈ es) :
  PInv cf md k (dropQL ps l) es' rs' ∧ ∀ r ∈ rs', RunPg cf md ps r → RunPg cf md (dropQL ps l) r := by
 have hle : ∀ p, (l.count p : Int) ≤ (pgAt ps p).users := fun p => by have := h.us p; have := hc p; omega
 have hat := dropQL_at hle
 have hus : ∀ p, (pgAt (dropQL ps l) p).users = (cE es' p + cR rs' p : Nat) := fun p => by
  have := h.us p; have := hc p
  rw [(hat p).1]; omega
 refine ⟨⟨?_, hus, hn, fun e he => ?_⟩, fun r hr hp => ?_⟩
 ·rw [dropQL_eq hle, dropL_len]; exact h.len
 ·have h1 := cE_mem he
  obtain ⟨a, b⟩ := (hat e.page).2 (by rw [hus]; omega)
  have hE := h.en e (hs e he)
  exact ⟨hE.m4, hE.ln, hE.vr, a.trans hE.ver, b.trans hE.es⟩
 ·have hpos : ∀ p ∈ r.pages, 1 ≤ cR rs' p := fun p hp => Nat.le_trans (List.count_pos_iff.2 hp) (cR_mem hr)
  refine hp.keep (fun p hp => (hat p).2 (by have := hpos p hp; rw [hus]; omega)) (fun hm h1 => ?_)
  have := hpos _ hm
  have h2 := h.us (lastR r)
  have h3 := hc (lastR r)
  rw [hus]
  omega
theorem PInv.evict (h : PInv cf md k ps es rs) (hi : i < es.length) : PInv cf md k (dropQ ps es[i].page) (es.eraseIdx i) rs ∧ ∀ r ∈ rs, RunPg cf md ps r → RunPg cf md (dropQ ps es[i].page) r := by
 refine h.drop (l := [es[i].page]) (fun p => ?_) (List.Nodup.sublist ((List.eraseIdx_sublist es i).map _) h.nd) (fun e he => List.mem_of_mem_eraseIdx he)
 have hp := ((eraseIdx_perm hi).map (·.page)).count_eq p
 rw [List.map_append, List.count_append] at hp
 unfold cE
 simp only [List.map_cons, List.map_nil] at hp
 omega
theorem PInv.cut (h : PInv cf md k ps es rs) (hi : i < rs.length) : PInv cf md k (dropQL ps rs[i].pages) es (rs.eraseIdx i) ∧ ∀ r ∈ rs.eraseIdx i, RunPg cf md ps r → RunPg cf md (dropQL ps rs[i].pages) r :=
 h.drop (fun p => by have := cR_erase (p := p) hi; omega) h.nd (fun e he => he)
theorem PInv.take (h : PInv cf md k ps es rs) (hi : i < rs.length) (hv : 1 ≤ rs[i].ask.ver ∧ rs[i].ask.ver ≤ 2147483647) (ht : (takeV ps rs[i].ask.ver).2 = 0) (hr : RunPg cf md ps rs[i]) (hd : rs[i].done = 4 * rs[i].pages.length) :
  PInv cf md k (takeP ps rs[i].ask.ver) es (rs.set i (addPg rs[i] (takeV ps rs[i].ask.ver).1)) ∧ (∀ r ∈ rs, RunPg cf md ps r → RunPg cf md (takeP ps rs[i].ask.ver) r) ∧ RunPg cf md (takeP ps rs[i].ask.ver) (addPg rs[i] (takeV ps rs[i].ask.ver).1) := by
 have hnv : ¬ (rs[i].ask.ver < 1 ∨ rs[i].ask.ver > 2147483647) := by omega
 unfold takeV at ht ⊢
 unfold takeP
 rw [if_neg hnv] at ht ⊢
 rw [if_neg hnv]
 split at ht
 ·rename_i hlt
  rw [if_pos hlt]
  dsimp only
  have hz : ps[takeI ps].users = 0 := by
   have := List.findIdx_getElem (w := hlt)
   exact eq_of_beq this
  obtain ⟨x, hx⟩ : ∃ x : Int, ((takeI ps : Nat) : Int) = x := ⟨_, rfl⟩
  have h0 : 0 ≤ x := by omega
  have hxt : takeI ps = x.toNat := by omega
  have h1 : x.toNat < ps.length := by omega
  have hux : (pgAt ps x).users = 0 := by rw [pgAt_lt h0 h1]; simpa [← hxt] using hz
  rw [hx, hxt]
  have hat : ∀ p, pgAt (ps.set x.toNat ⟨rs[i].ask.ver, 1, []⟩) p = if p = x then ⟨rs[i].ask.ver, 1, []⟩ else pgAt ps p := fun p => pgAt_put h0 h1 p
  have hnc := h.us x
  rw [hux] at hnc
  have nr : ∀ r ∈ rs, x ∉ r.pages := fun r hr hm => by
   have := cR_mem (p := x) hr
   have := List.count_pos_iff.2 hm
   omega
  refine ⟨⟨by rw [List.length_set]; exact h.len, fun p => ?_, h.nd, fun e he => ?_⟩, fun r hr hp => hp.keep (fun p hp => ?_) (fun hm h1 => ?_), ?_⟩
  ·have hcs : cR (rs.set i (addPg rs[i] x)) p = cR rs p + [x].count p := by
    have := cR_set (p := p) hi (addPg rs[i] x)
    rw [show (addPg rs[i] x).pages = rs[i].pages ++ [x] from rfl, List.count_append] at this
    omega
   rw [hat, hcs]
   by_cases e : p = x
   ·subst e
    rw [if_pos rfl, List.count_cons_self, List.count_nil]
    show (1 : Int) = _
    omega
   ·rw [if_neg e, h.us, List.count_cons_of_ne (fun h => e h.symm), List.count_nil]; rfl
  ·have hE := h.en e he
   have hne : e.page ≠ x := fun hx => by have := cE_mem he; rw [hx] at this; omega
   refine ⟨hE.m4, hE.ln, hE.vr, ?_, ?_⟩ <;> rw [hat, if_neg hne]
   ·exact hE.ver
   ·exact hE.es
  ·rw [hat, if_neg (fun hx : p = x => nr r hr (hx ▸ hp))]; exact ⟨rfl, rfl⟩
  ·rw [hat, if_neg (fun hx : lastR r = x => nr r hr (hx ▸ hm))]; exact h1
  ·have hlen : (addPg rs[i] x).pages.length = rs[i].pages.length + 1 := by simp [addPg]
   have hpt : pastT cf md (addPg rs[i] x) = pastT cf md rs[i] := rfl
   have hdn : (addPg rs[i] x).done = rs[i].done := rfl
   refine ⟨by rw [hlen, hdn]; omega, by rw [hlen, hdn]; omega, ?_, fun j hj => ?_, fun _ => ?_⟩
   ·show (rs[i].pages ++ [x]).Nodup
    rw [List.nodup_append]
    exact ⟨hr.nd, by simp, fun a ha b hb => by
     rw [List.mem_singleton] at hb
     subst hb
     exact fun he => nr _ (List.getElem_mem hi) (he ▸ ha)⟩
   ·rw [hpt]
    by_cases hjl : j < rs[i].pages.length
    ·have e1 : (addPg rs[i] x).pages[j] = rs[i].pages[j] := List.getElem_append_left hjl
     rw [e1, hat, if_neg (fun hx : rs[i].pages[j] = x => nr _ (List.getElem_mem hi) (hx ▸ List.getElem_mem hjl))]
     exact hr.co j hjl
    ·have hje : j = rs[i].pages.length := by omega
     have e1 : (addPg rs[i] x).pages[j] = x := by
      rw [List.getElem_of_eq (show (addPg rs[i] x).pages = rs[i].pages ++ [x] from rfl) hj, List.getElem_append_right (by omega)]; simp
     rw [e1, hat, if_pos rfl]
     refine ⟨rfl, ?_⟩
     rw [List.drop_of_length_le]
     ·rfl
     ·unfold pastT
      rw [runE_len, List.length_take]
      simp only [List.length_nil]
      omega
   ·have : lastR (addPg rs[i] x) = x := by
     unfold lastR
     rw [hlen]
     show (rs[i].pages ++ [x]).getD _ 0 = x
     rw [List.getD_eq_getElem?_getD, List.getElem?_append_right (by omega)]; simp
    rw [this, hat, if_pos rfl]
 ·cases ht
end
end Go.Proofs.YtkbikekbaboclaaGreat.Crew
set_option linter.unusedVariables false
set_option linter.unusedSimpArgs false
namespace Go.Proofs.YtkbikekbaboclaaGreat.Crew
open Go Go.Proofs V Vc Step Pages Prefix Brain Conf Stp Go.RowKit
open Ward (AskD AskP askE AskR)
section
variable {cf : CfD} {md : Mds} {ps ps' : List PageD} {es es' : List EntD} {rs rs' : List RunD} {r r' : RunD} {e : EntD} {p x v : Int} {i j k : Nat} {l : List Int} {g : PageD}
theorem PInv.live (h : PInv cf md k ps es rs) (hr : r ∈ rs) (hp : p ∈ r.pages) : isB ps p = true := by
 have := cR_mem (p := p) hr
 have := List.count_pos_iff.2 hp
 have := h.us p
 exact decide_eq_true (by omega)
theorem pastT_len : (pastT cf md r).length = min r.done r.toks.length := by
 unfold pastT; rw [runE_len, List.length_take]; simp
theorem RunPg.past (h : RunPg cf md ps r) (hd : r.done ≤ r.toks.length) (hu : ∀ p ∈ r.pages, isB ps p = true) : pastR ps r = pastT cf md r := by
 have main : ∀ n, n ≤ r.pages.length → getL ps (r.pages.take n) = (pastT cf md r).take (4 * n) := by
  intro n
  induction n with
  | zero => intro _; simp [getL]
  | succ n ih =>
   intro hn
   rw [Step.take_snoc _ _ (show n < r.pages.length by omega), getL_snoc, ih (by omega), hu _ (List.getElem_mem _), if_pos rfl, (h.co n (by omega)).2, show 4 * (n + 1) = 4 * n + 4 by omega, List.take_add]
 have := main _ (Nat.le_refl _)
 rw [List.take_length, List.take_of_length_le (by rw [pastT_len]; have := h.lo; omega)] at this
 exact this
theorem PInv.past (h : PInv cf md k ps es rs) (hr : r ∈ rs) (hp : RunPg cf md ps r) (hd : r.done ≤ r.toks.length) : pastR ps r = pastT cf md r := hp.past hd (fun p hp => h.live hr hp)
theorem lastR_get (h : 0 < r.pages.length) : lastR r = r.pages[r.pages.length - 1] := by
 unfold lastR; rw [List.getD_eq_getElem?_getD, List.getElem?_eq_getElem (by omega)]; rfl
theorem PInv.own (h : PInv cf md k ps es rs) (hi : i < rs.length) (hx : x ∈ rs[i].pages) (hu : (pgAt ps x).users = 1) : cE es x = 0 ∧ cR (rs.eraseIdx i) x = 0 := by
 have h1 := h.us x
 have h2 := List.count_pos_iff.2 hx
 have h3 := cR_erase (p := x) hi
 omega
theorem not_mem_cR (h : cR rs x = 0) (hr : r ∈ rs) : x ∉ r.pages := fun hx => by
 have := List.count_pos_iff.2 hx
 have := cR_mem (p := x) hr
 omega
theorem PInv.put (h : PInv cf md k ps es rs) (hi : i < rs.length) (hp : RunPg cf md ps rs[i]) (hlt : rs[i].done < 4 * rs[i].pages.length) (hd : rs[i].done < rs[i].toks.length)
  {r2 : RunD} (h1 : r2.pages = rs[i].pages) (h2 : r2.done = rs[i].done + 1) (h3 : r2.ask = rs[i].ask) (h4 : r2.toks.take (rs[i].done + 1) = rs[i].toks.take (rs[i].done + 1)) :
  PInv cf md k (putP ps (lastR rs[i]) (stepE cf (md rs[i].ask.ver) (pastT cf md rs[i]) (tokR rs[i]))) es (rs.set i r2) ∧ (∀ r ∈ rs.eraseIdx i, RunPg cf md ps r → RunPg cf md (putP ps (lastR rs[i]) (stepE cf (md rs[i].ask.ver) (pastT cf md rs[i]) (tokR rs[i]))) r) ∧
   RunPg cf md (putP ps (lastR rs[i]) (stepE cf (md rs[i].ask.ver) (pastT cf md rs[i]) (tokR rs[i]))) r2 ∧ (pgAt (putP ps (lastR rs[i]) (stepE cf (md rs[i].ask.ver) (pastT cf md rs[i]) (tokR rs[i]))) (lastR rs[i])).users = 1 := by
 have hlo := hp.lo
 have hhi := hp.hi
 have hne := hp.ne (by omega)
 have hpos := List.length_pos_iff.2 hne
 have hu := hp.pt (by omega)
 have hm := lastR_mem hne
 obtain ⟨o1, o2⟩ := h.own hi hm hu
 have hlg := lastR_get hpos
 obtain ⟨c1, c2⟩ := hp.co (rs[i].pages.length - 1) (by omega)
 rw [← hlg] at c1 c2
 have hpl : (pastT cf md rs[i]).length = rs[i].done := by rw [pastT_len]; omega
 obtain ⟨E, hE⟩ : ∃ E, stepE cf (md rs[i].ask.ver) (pastT cf md rs[i]) (tokR rs[i]) = E := ⟨_, rfl⟩
 have hpe : pastT cf md r2 = pastT cf md rs[i] ++ [E] := by
  unfold pastT
  rw [h3, h2, h4, Step.take_snoc _ _ hd, runE_app]
  show runE cf _ _ [_] = _
  rw [runE, runE, ← hE]
  unfold pastT tokR
  rw [List.getD_eq_getElem?_getD, List.getElem?_eq_getElem hd]; rfl
 rw [hE]
 generalize lastR rs[i] = x at hlg c1 c2 o1 o2 hm hu ⊢
 obtain ⟨x0, x1⟩ := use_in (ps := ps) (p := x) (by omega)
 have hel : (pgAt ps x).es.length < 4 := by rw [c2, List.length_take, List.length_drop, hpl]; omega
 have hpv : putV ps x = 0 := by
  unfold putV
  rw [if_pos (show isB ps x = true from decide_eq_true (by omega)), if_neg (by omega), if_neg (by omega)]
 have hput : putP ps x E = ps.set x.toNat { pgAt ps x with es := (pgAt ps x).es ++ [E] } := by unfold putP; rw [if_pos hpv]
 rw [hput]
 have hat : ∀ p, pgAt (ps.set x.toNat { pgAt ps x with es := (pgAt ps x).es ++ [E] }) p = if p = x then { pgAt ps x with es := (pgAt ps x).es ++ [E] } else pgAt ps p := fun p => pgAt_put x0 x1 p
 have hatU : ∀ p, (pgAt (ps.set x.toNat { pgAt ps x with es := (pgAt ps x).es ++ [E] }) p).users = (pgAt ps p).users := fun p => by
  rw [hat]
  by_cases e : p = x
  ·subst e; rw [if_pos rfl]
  ·rw [if_neg e]
 refine ⟨⟨by rw [List.length_set]; exact h.len, fun p => ?_, h.nd, fun e he => ?_⟩, fun r hr hp => hp.keep (fun p hp => ?_) (fun hm h1 => ?_), ⟨by rw [h1, h2]; omega, by rw [h1, h2]; omega, by rw [h1]; exact hp.nd, fun j hj => ?_, fun _ => ?_⟩, by rw [hatU]; exact hu⟩
 ·have := cR_set (p := p) hi r2
  rw [h1] at this
  rw [hatU, h.us]; omega
 ·have hE := h.en e he
  have hne : e.page ≠ x := fun hx => by have := cE_mem he; rw [hx] at this; omega
  refine ⟨hE.m4, hE.ln, hE.vr, ?_, ?_⟩ <;> rw [hat, if_neg hne]
  ·exact hE.ver
  ·exact hE.es
 ·rw [hat, if_neg (fun hx : p = x => not_mem_cR o2 hr (hx ▸ hp))]; exact ⟨rfl, rfl⟩
 ·rw [hatU]; exact h1
 ·rw [hpe, h3]
  have hj' : j < rs[i].pages.length := by rw [← h1]; exact hj
  have e1 : r2.pages[j] = rs[i].pages[j] := List.getElem_of_eq h1 hj
  rw [e1, hat]
  by_cases hjl : j = rs[i].pages.length - 1
  ·subst hjl
   rw [if_pos hlg.symm]
   refine ⟨c1, ?_⟩
   show (pgAt ps x).es ++ [E] = _
   rw [c2, List.drop_append_of_le_length (by omega), List.take_append, List.length_drop, hpl, List.take_of_length_le (l := [E]) (by simp; omega)]
  ·rw [if_neg (fun hx => by
    have hx : rs[i].pages[j] = x := hx
    rw [hlg] at hx
    exact hjl ((List.getElem_inj hp.nd).1 hx))]
   obtain ⟨d1, d2⟩ := hp.co j hj'
   refine ⟨d1, ?_⟩
   rw [d2, List.drop_append_of_le_length (by omega), List.take_append_of_le_length (by rw [List.length_drop]; omega)]
 ·have : lastR r2 = x := by
   rw [lastR_get (by rw [h1]; exact hpos), hlg]
   simp only [h1]
  rw [this, hatU]; exact hu
theorem PInv.add (h : PInv cf md k ps es rs) (hi : i < rs.length) (hp : RunPg cf md ps rs[i]) (hd : rs[i].done = 4 * rs[i].pages.length) (h0 : 0 < rs[i].pages.length) (h32 : rs[i].done ≤ 32) (hdt : rs[i].done ≤ rs[i].toks.length) (hu : (pgAt ps (lastR rs[i])).users = 1) (hv : 1 ≤ rs[i].ask.ver ∧ rs[i].ask.ver ≤ md.vm) :
  PInv cf md k (addP ps es (lastR rs[i]) rs[i].ask.ver (rs[i].toks.take rs[i].done)) (addX ps es (lastR rs[i]) rs[i].ask.ver (rs[i].toks.take rs[i].done)) rs ∧
   (∀ r ∈ rs.eraseIdx i, RunPg cf md ps r → RunPg cf md (addP ps es (lastR rs[i]) rs[i].ask.ver (rs[i].toks.take rs[i].done)) r) ∧ RunPg cf md (addP ps es (lastR rs[i]) rs[i].ask.ver (rs[i].toks.take rs[i].done)) rs[i] := by
 obtain ⟨t, ht⟩ : ∃ t, rs[i].toks.take rs[i].done = t := ⟨_, rfl⟩
 have htl : t.length = rs[i].done := by rw [← ht, List.length_take]; omega
 have hpt : pastT cf md rs[i] = runE cf (md rs[i].ask.ver) [] t := by unfold pastT; rw [ht]
 have hm := lastR_mem (List.length_pos_iff.1 h0)
 have hlg := lastR_get h0
 obtain ⟨c1, c2⟩ := hp.co (rs[i].pages.length - 1) (by omega)
 rw [← hlg] at c1 c2
 obtain ⟨o1, o2⟩ := h.own hi hm hu
 rw [ht]
 unfold addP addX
 by_cases he : addE ps es (lastR rs[i]) rs[i].ask.ver t = 0
 ·rw [if_pos he, if_pos he]
  generalize lastR rs[i] = x at hlg c1 c2 o1 o2 hm hu ⊢
  obtain ⟨x0, x1⟩ := use_in (ps := ps) (p := x) (by omega)
  have hat := fun p => addU_at x0 x1 1 p
  have hcE : ∀ p, cE (es ++ [⟨rs[i].ask.ver, t, x⟩]) p = cE es p + if p = x then 1 else 0 := fun p => by
   unfold cE
   rw [List.map_append, List.count_append]
   by_cases e : p = x
   ·subst e; simp
   ·rw [if_neg e]
    simp [List.count_cons_of_ne (fun h => e h.symm)]
  refine ⟨⟨by rw [addU_len]; exact h.len, fun p => ?_, ?_, fun e he => ?_⟩, fun r hr hpr => hpr.keep (fun p _ => (hat p).2) (fun hm2 h1 => ?_), ?_⟩
  ·rw [(hat p).1, hcE, h.us]
   split <;> omega
  ·rw [List.map_append, List.nodup_append]
   refine ⟨h.nd, by simp, fun a ha b hb => ?_⟩
   simp only [List.map_cons, List.map_nil, List.mem_singleton] at hb
   subst hb
   exact fun hx => by
    have := List.count_pos_iff.2 (hx ▸ ha)
    unfold cE at o1; omega
  ·rcases List.mem_append.1 he with he | he
   ·have hE := h.en e he
    exact ⟨hE.m4, hE.ln, hE.vr, (hat _).2.1.trans hE.ver, (hat _).2.2.trans hE.es⟩
   ·rw [List.mem_singleton] at he
    subst he
    refine ⟨by show t.length % 4 = 0; omega, ⟨by show 0 < t.length; omega, by show t.length ≤ 32; omega⟩, hv, (hat _).2.1.trans c1, (hat _).2.2.trans ?_⟩
    rw [c2, hpt]
    show List.take 4 (List.drop _ _) = List.drop (t.length - 4) _
    rw [show t.length - 4 = 4 * (rs[i].pages.length - 1) by omega, List.take_of_length_le]
    rw [List.length_drop, runE_len]; simp; omega
  ·have hne : lastR r ≠ x := fun hx => not_mem_cR o2 hr (hx ▸ hm2)
   rw [(hat _).1, if_neg hne]; omega
  ·exact ⟨hp.lo, hp.hi, hp.nd, fun j hj => by rw [(hat _).2.1, (hat _).2.2]; exact hp.co j hj, fun hn => absurd hd hn⟩
 ·rw [if_neg he, if_neg he]
  exact ⟨h, fun r hr hpr => hpr, hp⟩
theorem goR_is (ps : List PageD) (r : RunD) : (goR ps r).pages = r.pages ∧ (goR ps r).done = r.done + 1 ∧ (goR ps r).ask = r.ask ∧ (goR ps r).c = r.c ∧ (goR ps r).wt = r.wt ∧ ∃ l, (goR ps r).said = r.said ++ l := by
 unfold goR sayR
 split
 ·exact ⟨rfl, rfl, rfl, rfl, rfl, [], by simp⟩
 ·exact ⟨rfl, rfl, rfl, rfl, rfl, _, rfl⟩
theorem goR_toks (ps : List PageD) (r : RunD) {n : Nat} (h : n ≤ r.toks.length) : (goR ps r).toks.take n = r.toks.take n := by
 obtain ⟨_, _, h3, _, _, l, hl⟩ := goR_is ps r
 unfold RunD.toks at h ⊢
 rw [h3, hl, ← List.append_assoc, List.take_append_of_le_length h]
theorem PInv.go (h : PInv cf md k ps es rs) (hi : i < rs.length) (hp : RunPg cf md ps rs[i]) (hc : rs[i].c = cf ∧ rs[i].wt = md rs[i].ask.ver) (hlt : rs[i].done < 4 * rs[i].pages.length) (hd : rs[i].done < rs[i].toks.length) (h32 : rs[i].toks.length ≤ 32) (hv : 1 ≤ rs[i].ask.ver ∧ rs[i].ask.ver ≤ md.vm) :
  PInv cf md k (recP ps es rs[i]) (recX ps es rs[i]) (rs.set i (goR ps rs[i])) ∧ (∀ r ∈ rs.eraseIdx i, RunPg cf md ps r → RunPg cf md (recP ps es rs[i]) r) ∧ RunPg cf md (recP ps es rs[i]) (goR ps rs[i]) := by
 obtain ⟨g1, g2, g3, g4, g5, _⟩ := goR_is ps rs[i]
 have hpast := h.past (List.getElem_mem hi) hp (by omega)
 have hent : entR ps rs[i] = stepE cf (md rs[i].ask.ver) (pastT cf md rs[i]) (tokR rs[i]) := by unfold entR; rw [hc.1, hc.2, hpast]
 obtain ⟨a1, a2, a3, a4⟩ := h.put hi hp hlt hd g1 g2 g3 (goR_toks ps rs[i] (by omega))
 rw [← hent] at a1 a2 a3 a4
 unfold recP recX
 by_cases h4 : (rs[i].done + 1) % 4 = 0
 ·rw [if_pos h4, if_pos h4]
  have hi' : i < (rs.set i (goR ps rs[i])).length := by rw [List.length_set]; exact hi
  have hgt : (goR ps rs[i]).toks.take (rs[i].done + 1) = rs[i].toks.take (rs[i].done + 1) := goR_toks ps rs[i] (by omega)
  have hgl : rs[i].done + 1 ≤ (goR ps rs[i]).toks.length := by
   have := congrArg List.length hgt
   rw [List.length_take, List.length_take] at this; omega
  have hla : lastR (goR ps rs[i]) = lastR rs[i] := by unfold lastR; rw [g1]
  have hhi := hp.hi
  have hA := PInv.add a1 hi' (by rw [List.getElem_set_self]; exact a3) (by rw [List.getElem_set_self, g1, g2]; omega) (by rw [List.getElem_set_self, g1]; omega) (by rw [List.getElem_set_self, g2]; omega) (by rw [List.getElem_set_self, g2]; exact hgl) (by rw [List.getElem_set_self, hla]; exact a4) (by rw [List.getElem_set_self, g3]; exact hv)
  simp only [List.getElem_set_self, hla, g3, g2, hgt] at hA
  obtain ⟨b1, b2, b3⟩ := hA
  refine ⟨b1, fun r hr hpr => b2 r ?_ (a2 r hr hpr), b3⟩
  rw [eraseIdx_td] at hr ⊢
  rw [List.take_set_of_le (by omega), List.drop_set_of_lt (by omega)]
  exact hr
 ·rw [if_neg h4, if_neg h4]
  exact ⟨a1, a2, a3⟩
end
end Go.Proofs.YtkbikekbaboclaaGreat.Crew
set_option linter.unusedVariables false
set_option linter.unusedSimpArgs false
namespace Go.Proofs.YtkbikekbaboclaaGreat.Crew
open Go Go.Proofs V Vc Step Pages Prefix Brain Conf Stp Go.RowKit
open Ward (AskD AskP askE AskR)
def sayA (cf : CfD) (md : Mds) (a : AskD) : List Int := Gen.sayP cf (md a.ver) (Gen.drawT a.draws) a.most a.prompt
section
variable {cf : CfD} {md : Mds} {ps ps' : List PageD} {es es' : List EntD} {rs rs' : List RunD} {r r' : RunD} {e : EntD} {p x v : Int} {i j k : Nat} {l : List Int} {g : PageD}
theorem RunSt.prompt (h : RunSt cf md k r) : r.ask.prompt ≠ [] ∧ 1 ≤ r.ask.most ∧ r.ask.most ≤ 32 ∧ (∀ t ∈ r.ask.prompt, tokOk cf t) ∧ (r.ask.prompt.length : Int) + r.ask.most ≤ cf.context := Gen.checkP_ok h.ok
theorem RunSt.le (h : RunSt cf md k r) : r.said.length ≤ (sayA cf md r.ask).length := by
 have := congrArg List.length h.sd
 rw [List.length_take] at this
 unfold sayA; omega
theorem RunSt.len (h : RunSt cf md k r) : (r.toks.length : Int) < cf.context := by
 obtain ⟨_, _, _, _, h5⟩ := h.prompt
 have := h.sm
 unfold RunD.toks
 rw [List.length_append]; omega
theorem RunSt.tok (h : RunSt cf md k r) (hv : 0 < cf.vocab) : ∀ t ∈ r.toks, tokOk cf t := fun t ht => by
 obtain ⟨h1, _, _, h4, _⟩ := h.prompt
 unfold RunD.toks at ht
 rcases List.mem_append.1 ht with ht | ht
 ·exact h4 t ht
 ·rw [h.sd] at ht
  have := Gen.sayG_tok hv (Gen.drawT_ok _) _ _ _ _ (Gen.runS_len h1) t (List.mem_of_mem_take ht)
  exact ⟨by omega, this.2⟩
theorem RunSt.recOk (h : RunSt cf md k r) (m : Md cf (md r.ask.ver)) (hp : RunPg cf md ps r) (hpast : pastR ps r = pastT cf md r) (hlt : r.done < 4 * r.pages.length) : RecOk ps r := by
 have hl := h.len
 have hd := h.dn
 have hhi := hp.hi
 have hctx := m.ok.2.2.2.2.2.1
 have ht := h.tok (by have := m.ok.1; omega)
 have hpl : (pastT cf md r).length = r.done := by rw [pastT_len]; omega
 refine ⟨⟨by omega, by omega⟩, by omega, hd, ?_, ?_, by rw [hpast, hpl, h.c]; omega⟩
 ·rw [hpast, h.c]
  exact runE_good m _ (fun e he => by cases he) (fun t hx => ht t (List.mem_of_mem_take hx)) (by rw [List.length_take]; simp; omega)
 ·rw [h.c]
  refine ht _ ?_
  unfold tokR
  rw [List.getD_eq_getElem?_getD, List.getElem?_eq_getElem hd]
  exact List.getElem_mem _
theorem RunSt.go (h : RunSt cf md k r) (hpast : pastR ps r = pastT cf md r) : (goB ps r = false → RunSt cf md k (goR ps r)) ∧ (goB ps r = true → (goR ps r).said = sayA cf md r.ask ∧ r.ask.prompt.length ≤ r.done + 1) := by
 have hd := h.dn
 have hsl := h.sl
 have htl : r.toks.length = r.ask.prompt.length + r.said.length := by unfold RunD.toks; rw [List.length_append]
 have hpp := List.length_pos_iff.2 h.prompt.1
 by_cases hA : r.done + 1 < r.toks.length
 ·have e1 : goR ps r = { r with done := r.done + 1 } := by
   unfold goR sayR
   rw [if_pos (.inl hA)]
  have e2 : goB ps r = false := by
   unfold goB sayB
   exact if_pos hA
  rw [e1, e2]
  refine ⟨fun _ => ⟨h.c, h.wt, h.ver, h.ok, h.need, h.sd, ?_, h.sm, hA⟩, fun hx => by cases hx⟩
  show r.said.length = r.done + 1 + 1 - r.ask.prompt.length
  omega
 ·have hdt : r.done + 1 = r.toks.length := by omega
  have hk := h.le
  have hD := Gen.sayG_drop (c := cf) (wt := md r.ask.ver) (tk := Gen.drawT r.ask.draws) r.said.length r.ask.most.toNat 0 (runE cf (md r.ask.ver) [] r.ask.prompt) (runS cf (md r.ask.ver) [] [] r.ask.prompt) hk
  have hsaid : List.take r.said.length (Gen.sayG cf (md r.ask.ver) (Gen.drawT r.ask.draws) r.ask.most.toNat 0 (runE cf (md r.ask.ver) [] r.ask.prompt) (runS cf (md r.ask.ver) [] [] r.ask.prompt)) = r.said := h.sd.symm
  rw [hsaid, ← runE_app, ← runS_app] at hD
  have hsc : runS cf (md r.ask.ver) [] [] (r.ask.prompt ++ r.said) = scR ps r := by
   have ht : r.ask.prompt ++ r.said = r.toks.take r.done ++ [tokR r] := by
    have : tokR r = r.toks[r.done] := by unfold tokR; rw [List.getD_eq_getElem?_getD, List.getElem?_eq_getElem hd]; rfl
    rw [this, ← Step.take_snoc _ _ hd, hdt, List.take_length]; rfl
   rw [ht, runS_app, Stp.runS, Stp.runS]
   unfold scR
   rw [hpast, h.c, h.wt]; rfl
  rw [hsc] at hD
  have hsm := h.sm
  obtain ⟨f, hf⟩ : ∃ f, r.ask.most.toNat - r.said.length = f + 1 := ⟨r.ask.most.toNat - r.said.length - 1, by omega⟩
  have hnT : Gen.drawT r.ask.draws (0 + r.said.length) (scR ps r) = nextT { r with done := r.done + 1 } (scR ps r) := by rw [Nat.zero_add]; rfl
  rw [hf, Gen.sayG, hnT] at hD
  have hnA : ¬ ({ r with done := r.done + 1 } : RunD).done < ({ r with done := r.done + 1 } : RunD).toks.length := hA
  unfold goB goR sayB sayR
  simp only [if_neg hnA]
  by_cases h0 : nextT { r with done := r.done + 1 } (scR ps r) = 0
  ·rw [if_pos h0] at hD ⊢
   rw [if_pos (.inr h0)]
   refine ⟨fun hx => (by cases hx), fun _ => ⟨?_, by omega⟩⟩
   have hle : (sayA cf md r.ask).length ≤ r.said.length := List.drop_eq_nil_iff.1 hD.symm
   show r.said = _
   rw [h.sd]
   exact List.take_of_length_le hle
  ·rw [if_neg h0] at hD ⊢
   rw [if_neg (fun hx => hx.elim hnA h0)]
   generalize nextT { r with done := r.done + 1 } (scR ps r) = t at h0 hD ⊢
   have htake : (sayA cf md r.ask).take (r.said.length + 1) = r.said ++ [t] := by
    rw [List.take_add, show (sayA cf md r.ask).drop r.said.length = _ from hD.symm]
    rw [show (sayA cf md r.ask).take r.said.length = r.said from h.sd.symm]; rfl
   have hsl2 : (r.said ++ [t]).length = r.said.length + 1 := by simp
   refine ⟨fun hx => ⟨h.c, h.wt, h.ver, h.ok, h.need, ?_, ?_, ?_, ?_⟩, fun hx => ⟨?_, by omega⟩⟩
   ·show r.said ++ [t] = _
    rw [hsl2]; exact htake.symm
   ·show (r.said ++ [t]).length = r.done + 1 + 1 - r.ask.prompt.length
    rw [hsl2]; omega
   ·show ((r.said ++ [t]).length : Int) < r.ask.most
    rw [hsl2]
    have hx : (((r.said.length + 1 : Nat) : Int) == r.ask.most) = false := hx
    have : ((r.said.length + 1 : Nat) : Int) ≠ r.ask.most := by simpa using hx
    omega
   ·show r.done + 1 < (r.ask.prompt ++ (r.said ++ [t])).length
    rw [List.length_append, hsl2]; omega
   ·show r.said ++ [t] = _
    rw [← htake, List.take_of_length_le]
    have hx : ((r.said.length + 1 : Nat) : Int) = r.ask.most := eq_of_beq hx
    have := Gen.sayG_len (c := cf) (wt := md r.ask.ver) (tk := Gen.drawT r.ask.draws) r.ask.most.toNat 0 (runE cf (md r.ask.ver) [] r.ask.prompt) (runS cf (md r.ask.ver) [] [] r.ask.prompt)
    show (Gen.sayG _ _ _ _ _ _ _).length ≤ _
    omega
theorem findG_pages {v : Int} {t : List Int} : ∀ (f i : Nat) (es : List EntD) (out : List Int), out.length = i → (∀ a (h : a < out.length), ∃ e ∈ es, hasB v (t.take (4 * a + 4)) e = true ∧ e.page = out[a]) → (i = 0 ∨ 4 * i < t.length) →
  ((findG v t f (4 * i + 4) es out).1.Perm es ∧ (∀ a (h : a < (findG v t f (4 * i + 4) es out).2.length), ∃ e ∈ es, hasB v (t.take (4 * a + 4)) e = true ∧ e.page = (findG v t f (4 * i + 4) es out).2[a]) ∧ ((findG v t f (4 * i + 4) es out).2.length = 0 ∨ 4 * (findG v t f (4 * i + 4) es out).2.length < t.length))
 | 0, i, es, out, hl, h1, h2 => by
  subst hl
  exact ⟨List.Perm.refl _, h1, h2⟩
 | f + 1, i, es, out, hl, h1, h2 => by
  by_cases hlt : 4 * i + 4 < t.length
  ·by_cases hidx : es.findIdx (hasB v (t.take (4 * i + 4))) < es.length
   ·rw [findG_some hlt hidx]
    have hp := List.findIdx_getElem (w := hidx)
    generalize es.findIdx (hasB v (t.take (4 * i + 4))) = q at hidx hp
    have hperm := eraseIdx_perm hidx
    have hm : es[q] ∈ es := List.getElem_mem hidx
    have h4 : 4 * i + 4 + 4 = 4 * (i + 1) + 4 := by omega
    rw [h4]
    obtain ⟨r1, r2, r3⟩ := findG_pages f (i + 1) (es.eraseIdx q ++ [es[q]]) (out ++ [es[q].page]) (by simp [hl]) (fun a ha => by
     by_cases hai : a < out.length
     ·obtain ⟨e, he, hh, hp⟩ := h1 a hai
      exact ⟨e, hperm.mem_iff.2 he, hh, by rw [List.getElem_append_left hai]; exact hp⟩
     ·rw [List.length_append, List.length_singleton] at ha
      have hae : a = i := by omega
      subst hae
      exact ⟨_, hperm.mem_iff.2 hm, hp, by rw [List.getElem_append_right (by omega)]; simp⟩) (.inr (by omega))
    refine ⟨r1.trans hperm, fun a ha => ?_, r3⟩
    obtain ⟨e, he, hh⟩ := r2 a ha
    exact ⟨e, hperm.mem_iff.1 he, hh⟩
   ·rw [findG_none hidx]
    subst hl
    exact ⟨List.Perm.refl _, h1, h2⟩
  ·rw [findG_stop (by omega)]
   subst hl
   exact ⟨List.Perm.refl _, h1, h2⟩
theorem findR_pages (es : List EntD) (v : Int) (t : List Int) : (findR es v t).1.Perm es ∧ (∀ a (h : a < (findR es v t).2.length), ∃ e ∈ es, hasB v (t.take (4 * a + 4)) e = true ∧ e.page = (findR es v t).2[a]) ∧ ((findR es v t).2.length = 0 ∨ 4 * (findR es v t).2.length < t.length) :=
 findG_pages t.length 0 es [] rfl (fun a ha => by simp at ha) (.inl rfl)
theorem hasB_is {t : List Int} (h : hasB v t e = true) : e.ver = v ∧ e.toks = t := by
 unfold Prefix.hasB at h
 rw [Bool.and_eq_true] at h
 exact ⟨eq_of_beq h.1, of_decide_eq_true h.2⟩
theorem runE_pref (c : CfD) (wt : ByteArray) (past : List Ent) (t : List Int) (n : Nat) : runE c wt past (t.take n) = (runE c wt past t).take (past.length + (t.take n).length) := by
 obtain ⟨l, hl⟩ := runE_pre (c := c) (wt := wt) (t.drop n) (runE c wt past (t.take n))
 rw [← runE_app, List.take_append_drop] at hl
 rw [hl, ← runE_len (c := c) (wt := wt) (t.take n) (past := past), List.take_left]
theorem PInv.join (h : PInv cf md k ps es rs) (wt : ByteArray) {a : AskD} (hp : a.prompt ≠ []) :
  PInv cf md k (shareQ ps (findR es a.ver a.prompt).2) (findR es a.ver a.prompt).1 (rs ++ [newRun cf wt a (findR es a.ver a.prompt).2]) ∧ (∀ r ∈ rs, RunPg cf md ps r → RunPg cf md (shareQ ps (findR es a.ver a.prompt).2) r) ∧
   RunPg cf md (shareQ ps (findR es a.ver a.prompt).2) (newRun cf wt a (findR es a.ver a.prompt).2) ∧ 4 * (findR es a.ver a.prompt).2.length < a.prompt.length := by
 obtain ⟨h1, h2, h3⟩ := findR_pages es a.ver a.prompt
 have hpos := List.length_pos_iff.2 hp
 generalize (findR es a.ver a.prompt).1 = es1 at h1 ⊢
 generalize (findR es a.ver a.prompt).2 = l at h2 h3 ⊢
 have h3 : 4 * l.length < a.prompt.length := by omega
 have hin : ∀ x ∈ l, ∃ e ∈ es, e.page = x := fun x hx => by
  obtain ⟨n, hn, rfl⟩ := List.getElem_of_mem hx
  obtain ⟨e, he, _, hp⟩ := h2 n hn
  exact ⟨e, he, hp⟩
 have hu : ∀ x ∈ l, 1 ≤ cE es x := fun x hx => by
  obtain ⟨e, he, rfl⟩ := hin x hx
  exact cE_mem he
 have hb : allB ps l = true := by
  unfold allB
  rw [List.all_eq_true]
  exact fun x hx => decide_eq_true (by have := hu x hx; have := h.us x; omega)
 have hsq : shareQ ps l = shareL ps l := by unfold shareQ; rw [if_pos hb]
 have hat := shareL_at (l := l) (ps := ps) (fun x hx => use_in (by have := hu x hx; have := h.us x; omega))
 have hcE : ∀ p, cE es1 p = cE es p := fun p => by unfold cE; exact (h1.map (·.page)).count_eq p
 rw [hsq]
 refine ⟨⟨by rw [shareL_len]; exact h.len, fun p => ?_, (h1.map (·.page)).nodup_iff.2 h.nd, fun e he => ?_⟩, fun r hr hpr => hpr.keep (fun p _ => (hat p).2) (fun hm h1 => ?_), ⟨?_, ?_, ?_, fun j hj => ?_, fun hn => ?_⟩, h3⟩
 ·rw [(hat p).1, hcE, cR_app, h.us]
  unfold newRun
  simp only [cR]
  omega
 ·have hE := h.en e (h1.mem_iff.1 he)
  exact ⟨hE.m4, hE.ln, hE.vr, (hat _).2.1.trans hE.ver, (hat _).2.2.trans hE.es⟩
 ·have : l.count (lastR r) = 0 := List.count_eq_zero.2 fun hx => by
   have a1 := hu _ hx
   have a2 := cR_mem (p := lastR r) hr
   have a3 := List.count_pos_iff.2 hm
   have a4 := h.us (lastR r)
   omega
  rw [(hat _).1, this]; omega
 ·exact Nat.le_refl _
 ·show 4 * l.length ≤ 4 * l.length + 4
  omega
 ·show l.Nodup
  rw [List.nodup_iff_pairwise_ne, List.pairwise_iff_getElem]
  intro m n hm hn hmn he
  obtain ⟨e1, he1, hb1, hp1⟩ := h2 m hm
  obtain ⟨e2, he2, hb2, hp2⟩ := h2 n hn
  have heq : e1 = e2 := by
   obtain ⟨i1, hi1, rfl⟩ := List.getElem_of_mem he1
   obtain ⟨i2, hi2, rfl⟩ := List.getElem_of_mem he2
   have : (es.map (·.page))[i1]'(by simpa using hi1) = (es.map (·.page))[i2]'(by simpa using hi2) := by simp only [List.getElem_map]; rw [hp1, hp2, he]
   have := (List.getElem_inj h.nd).1 this
   subst this; rfl
  have t1 := (hasB_is hb1).2
  have t2 := (hasB_is hb2).2
  rw [heq, t2] at t1
  have := congrArg List.length t1
  rw [List.length_take, List.length_take] at this
  omega
 ·obtain ⟨e, he, hb, hp⟩ := h2 j hj
  obtain ⟨b1, b2⟩ := hasB_is hb
  have hE := h.en e he
  have hj' : j < l.length := hj
  have hpg : (newRun cf wt a l).pages[j]'hj = e.page := hp.symm
  rw [hpg, (hat _).2.1, (hat _).2.2]
  refine ⟨hE.ver.trans b1, ?_⟩
  rw [hE.es, b1, b2]
  have hpt : pastT cf md (newRun cf wt a l) = runE cf (md a.ver) [] (a.prompt.take (4 * l.length)) := by
   unfold pastT newRun RunD.toks
   dsimp only
   rw [List.append_nil]
  rw [hpt, runE_pref, runE_pref, List.length_take, List.length_take, List.length_nil, Nat.zero_add, Nat.zero_add, show min (4 * j + 4) a.prompt.length - 4 = 4 * j by omega, show min (4 * j + 4) a.prompt.length = 4 * j + 4 by omega, show min (4 * l.length) a.prompt.length = 4 * l.length by omega]
  generalize runE cf (md a.ver) [] a.prompt = X
  refine List.ext_getElem? fun n => ?_
  simp only [List.getElem?_take, List.getElem?_drop]
  by_cases hn : n < 4
  ·rw [if_pos (by omega), if_pos hn, if_pos (by omega)]
  ·rw [if_neg (by omega), if_neg hn]
 ·exact absurd rfl hn
theorem RunSt.new {wt : ByteArray} {a : AskD} (hp : a.prompt ≠ []) (hl : 4 * l.length < a.prompt.length) (hw : wt = md a.ver) (hv : 1 ≤ a.ver ∧ a.ver ≤ md.vm) (ok : Gen.checkP cf a.most a.prompt = 0) (need : Ward.needN a ≤ k) : RunSt cf md k (newRun cf wt a l) := by
 have := Gen.checkP_ok ok
 refine ⟨rfl, hw, hv, ok, need, rfl, ?_, ?_, ?_⟩
 ·show 0 = 4 * l.length + 1 - a.prompt.length
  omega
 ·show ((0 : Nat) : Int) < a.most
  omega
 ·show 4 * l.length < (a.prompt ++ []).length
  rw [List.append_nil]; exact hl
end
end Go.Proofs.YtkbikekbaboclaaGreat.Crew
set_option linter.unusedVariables false
set_option linter.unusedSimpArgs false
namespace Go.Proofs.YtkbikekbaboclaaGreat.Crew
open Go Go.Proofs V Vc Step Pages Prefix Brain Conf Stp Go.RowKit
open Ward (AskD AskP askE AskR)
theorem len_subset : ∀ {a b : List Int}, a.Nodup → (∀ x ∈ a, x ∈ b) → a.length ≤ b.length
 | [], b, _, _ => Nat.zero_le _
 | x :: a, b, hn, hs => by
  have hx := hs x List.mem_cons_self
  obtain ⟨h1, h2⟩ := List.nodup_cons.1 hn
  have := len_subset (a := a) (b := b.erase x) h2 (fun y hy => (List.mem_erase_of_ne (fun e : y = x => h1 (e ▸ hy))).2 (hs y (List.mem_cons_of_mem _ hy)))
  rw [List.length_erase_of_mem hx] at this
  have := List.length_pos_of_mem hx
  rw [List.length_cons]; omega
def usedL (ps : List PageD) : List Int := ((List.range ps.length).filter fun j : Nat => isB ps (j : Int)).map fun j : Nat => (j : Int)
section
variable {cf : CfD} {md : Mds} {ps ps' : List PageD} {es es' : List EntD} {rs rs' : List RunD} {r r' : RunD} {e : EntD} {p x v : Int} {i j k : Nat} {l : List Int} {g : PageD}
theorem usedL_mem : x ∈ usedL ps ↔ (pgAt ps x).users > 0 := by
 unfold usedL
 simp only [List.mem_map, List.mem_filter, List.mem_range]
 constructor
 ·rintro ⟨j, ⟨_, h⟩, rfl⟩; exact of_decide_eq_true h
 ·intro h
  obtain ⟨h0, h1⟩ := use_in (ps := ps) (p := x) (by omega)
  have e : ((x.toNat : Nat) : Int) = x := by omega
  exact ⟨x.toNat, ⟨h1, by rw [e]; exact decide_eq_true h⟩, e⟩
theorem nodup_ints : ∀ {l : List Nat}, l.Nodup → (l.map fun j : Nat => (j : Int)).Nodup
 | [], _ => List.nodup_nil
 | x :: l, h => by
  obtain ⟨h1, h2⟩ := List.nodup_cons.1 h
  rw [List.map_cons, List.nodup_cons]
  refine ⟨fun hx => ?_, nodup_ints h2⟩
  obtain ⟨y, hy, he⟩ := List.mem_map.1 hx
  have : y = x := by omega
  exact h1 (this ▸ hy)
theorem usedL_nodup : (usedL ps).Nodup := nodup_ints (List.Nodup.sublist List.filter_sublist List.nodup_range)
theorem usedL_len : (usedL ps).length + freeN ps = ps.length := by
 have main : ∀ j, j ≤ ps.length → ((List.range j).filter fun j : Nat => isB ps (j : Int)).length + freeN (ps.take j) = j := by
  intro j
  induction j with
  | zero => intro _; rfl
  | succ j ih =>
   intro hj
   have ih := ih (by omega)
   have hlt : j < ps.length := by omega
   have hs : freeN (ps.take (j + 1)) = freeN (ps.take j) + (if isB ps (j : Int) then 0 else 1) := by
    unfold freeN
    rw [Step.take_snoc ps j hlt, List.filter_append, List.length_append, isB_nat hlt, List.filter_cons]
    by_cases hu : ps[j].users > 0
    ·rw [decide_eq_true hu]; simp
    ·rw [decide_eq_false hu]; simp
   rw [hs, List.range_succ, List.filter_append, List.length_append, List.filter_cons]
   cases isB ps (j : Int) <;> simp <;> omega
 have := main _ (Nat.le_refl _)
 rw [List.take_length] at this
 unfold usedL
 rw [List.length_map]; exact this
theorem PInv.free_le (h : PInv cf md k ps es rs) : freeN ps + es.length ≤ k := by
 have h1 := len_subset h.nd (b := usedL ps) (fun x hx => usedL_mem.2 (by
  have := List.count_pos_iff.2 hx
  have := h.us x
  unfold cE at this; omega))
 have h2 := usedL_len (ps := ps)
 rw [List.length_map] at h1
 have := h.len; omega
theorem PInv.free_eq (h : PInv cf md k ps es []) : freeN ps + es.length = k := by
 have h0 := h.free_le
 have h1 := len_subset (usedL_nodup (ps := ps)) (b := es.map (·.page)) (fun x hx => by
  have := usedL_mem.1 hx
  have := h.us x
  simp only [cR, Nat.add_zero] at this
  exact List.count_pos_iff.1 (by unfold cE at this; omega))
 have h2 := usedL_len (ps := ps)
 rw [List.length_map] at h1
 have := h.len; omega
theorem PInv.room (h : PInv cf md k ps es [r]) (hs : RunSt cf md k r) (hvm : md.vm ≤ 2147483647) (hd : r.done = 4 * r.pages.length) (ht : ¬ (takeV ps r.ask.ver).2 = 0) (he : ¬ evI ps es < es.length) : False := by
 have hv := hs.ver
 have hall : ∀ x : Int, 0 ≤ x → x.toNat < k → 1 ≤ cE es x + r.pages.count x := fun x h0 h1 => by
  unfold takeV at ht
  rw [if_neg (by omega)] at ht
  split at ht
  ·exact absurd rfl ht
  ·rename_i hlt
   have h1' : x.toNat < ps.length := by rw [h.len]; exact h1
   have hn := List.not_of_lt_findIdx (xs := ps) (p := fun p => p.users == 0) (i := x.toNat) (by unfold takeI at hlt; omega)
   have hu : ¬ (pgAt ps x).users = 0 := by rw [pgAt_lt h0 h1']; simpa using hn
   have := h.us x
   simp only [cR, Nat.add_zero] at this
   omega
 have hin : ∀ x : Int, 0 ≤ x → x.toNat < k → x ∈ r.pages := fun x h0 h1 => by
  apply Classical.byContradiction
  intro hx
  have hc := List.count_eq_zero.2 hx
  have ha := hall x h0 h1
  obtain ⟨e, hem, hp⟩ := cE_page (es := es) (p := x) (by omega)
  have hle : cE es x ≤ 1 := List.nodup_iff_count.1 h.nd x
  have hu := h.us x
  simp only [cR, Nat.add_zero] at hu
  refine he ?_
  unfold evI
  refine List.findIdx_lt_length.2 ⟨e, hem, ?_⟩
  rw [hp]
  unfold usersV
  rw [if_pos (show isB ps x = true from decide_eq_true (by omega))]
  have : (pgAt ps x).users = 1 := by omega
  rw [this]; rfl
 have hk : k ≤ r.pages.length := by
  have := len_subset (nodup_ints (List.nodup_range (n := k))) (b := r.pages) (fun x hx => by
   obtain ⟨j, hj, rfl⟩ := List.mem_map.1 hx
   exact hin _ (by omega) (by have := List.mem_range.1 hj; omega))
  simpa using this
 have hneed := hs.need
 obtain ⟨_, m1, m2, _, _⟩ := hs.prompt
 unfold Ward.needN at hneed
 rw [if_neg (by omega), Int.tdiv_eq_ediv_of_nonneg (by omega)] at hneed
 have hdn := hs.dn
 have hsm := hs.sm
 unfold RunD.toks at hdn
 rw [List.length_append] at hdn
 omega
structure PgL (cf : CfD) (md : Mds) (k i : Nat) (s s' : PgS) (m : Nat) : Prop where
 inv : PInv cf md k s'.ps s'.es s'.rs
 es : s'.es.length ≤ s.es.length
 le : m ≤ s.rs.length ∧ i ≤ m ∧ 0 < m
 aw : s'.aw = s.aw ++ ((s.rs.drop m).map (·.ask)).reverse
 yes : s'.ok = true → i < m ∧ ∃ (r : RunD) (pg : List Int), s.rs[i]? = some r ∧ s'.rs = (s.rs.take m).set i { r with pages := pg } ∧ RunPg cf md s'.ps { r with pages := pg } ∧ r.done < 4 * pg.length ∧ ∀ r ∈ (s.rs.take m).eraseIdx i, RunPg cf md s'.ps r
 no : s'.ok = false → m = i ∧ s'.rs = s.rs.take m ∧ ∀ r ∈ s'.rs, RunPg cf md s'.ps r
theorem pageF_law (hvm : md.vm ≤ 2147483647) : ∀ (f : Nat) (s : PgS), PInv cf md k s.ps s.es s.rs → (∀ r ∈ s.rs, RunPg cf md s.ps r ∧ RunSt cf md k r) → i < s.rs.length → s.ok = true → s.es.length + s.rs.length + 1 ≤ f → ∃ m, PgL cf md k i s (pageF i f s) m
 | 0, s, _, _, _, _, hf => by omega
 | f + 1, s, hI, hR, hi, hok, hf => by
  have hri : s.rs[i]? = some s.rs[i] := List.getElem?_eq_getElem hi
  obtain ⟨hp, hs⟩ := hR _ (List.getElem_mem hi)
  have hv := hs.ver
  by_cases hd : s.rs[i].done ≠ 4 * s.rs[i].pages.length
  ·rw [pageF_ready hri hd]
   refine ⟨s.rs.length, hI, Nat.le_refl _, ⟨Nat.le_refl _, by omega, by omega⟩, by simp, fun _ => ⟨hi, s.rs[i], s.rs[i].pages, hri, by rw [List.take_length]; exact (List.set_getElem_self hi).symm, hp, by have := hp.lo; omega, fun r hr => ?_⟩, fun hn => by rw [hok] at hn; cases hn⟩
   rw [List.take_length] at hr
   exact (hR r (List.mem_of_mem_eraseIdx hr)).1
  ·by_cases ht : (takeV s.ps s.rs[i].ask.ver).2 = 0
   ·rw [pageF_take hri hd ht]
    obtain ⟨a1, a2, a3⟩ := hI.take hi ⟨hv.1, by omega⟩ ht hp (by omega)
    refine ⟨s.rs.length, a1, Nat.le_refl _, ⟨Nat.le_refl _, by omega, by omega⟩, by simp, fun _ => ⟨hi, s.rs[i], _, hri, by rw [List.take_length]; rfl, a3, by rw [List.length_append]; have := hp.lo; simp; omega, fun r hr => ?_⟩, fun hn => by rw [show ({ s with ps := takeP s.ps s.rs[i].ask.ver, rs := s.rs.set i (addPg s.rs[i] (takeV s.ps s.rs[i].ask.ver).1) } : PgS).ok = s.ok from rfl, hok] at hn; cases hn⟩
    rw [List.take_length] at hr
    exact a2 r (List.mem_of_mem_eraseIdx hr) (hR r (List.mem_of_mem_eraseIdx hr)).1
   ·by_cases he : evI s.ps s.es < s.es.length
    ·rw [pageF_evict hri hd ht he]
     obtain ⟨a1, a2⟩ := hI.evict he
     have hev : evP s.ps s.es = dropQ s.ps s.es[evI s.ps s.es].page := by unfold evP; rw [List.getElem?_eq_getElem he]
     rw [← hev] at a1 a2
     have hel : (s.es.eraseIdx (evI s.ps s.es)).length = s.es.length - 1 := by rw [List.length_eraseIdx, if_pos he]
     obtain ⟨m, h⟩ := pageF_law hvm f { s with ps := evP s.ps s.es, es := s.es.eraseIdx (evI s.ps s.es) } a1 (fun r hr => ⟨a2 r hr (hR r hr).1, (hR r hr).2⟩) hi hok (by dsimp only; rw [hel]; omega)
     exact ⟨m, h.inv, Nat.le_trans h.es (by dsimp only; rw [hel]; omega), h.le, h.aw, h.yes, h.no⟩
    ·have hL : s.rs.length - 1 < s.rs.length := by omega
     have hyl := List.getElem?_eq_getElem hL
     rw [pageF_cut hri hd ht he hyl]
     have hte : s.rs.eraseIdx (s.rs.length - 1) = s.rs.take (s.rs.length - 1) := by
      rw [eraseIdx_td, List.drop_of_length_le (by omega), List.append_nil]
     have hdr : s.rs.drop (s.rs.length - 1) = [s.rs[s.rs.length - 1]] := by
      rw [List.drop_eq_getElem_cons hL, List.drop_of_length_le (by omega)]
     obtain ⟨a1, a2⟩ := hI.cut hL
     rw [hte] at a1 a2 ⊢
     have hsub : ∀ r ∈ s.rs.take (s.rs.length - 1), r ∈ s.rs := fun r hr => List.mem_of_mem_take hr
     by_cases hl : s.rs.length - 1 = i
     ·rw [if_pos hl]
      have h0 : i ≠ 0 := fun h0 => by
       have h1 : s.rs.length = 1 := by omega
       obtain ⟨y, hy⟩ := List.length_eq_one_iff.1 h1
       have hyi : s.rs[i] = y := by simp [hy]
       rw [hyi] at hs hd ht
       rw [hy] at hI
       exact hI.room hs hvm (by omega) ht he
      refine ⟨i, a1, Nat.le_refl _, ⟨by omega, Nat.le_refl _, by omega⟩, by rw [← hl, hdr]; rfl, fun hn => (by cases hn), fun _ => ⟨rfl, by show s.rs.take (s.rs.length - 1) = s.rs.take i; rw [hl], fun r hr => a2 r hr (hR r (hsub r hr)).1⟩⟩
     ·rw [if_neg hl]
      have hlen : (s.rs.take (s.rs.length - 1)).length = s.rs.length - 1 := by rw [List.length_take]; omega
      obtain ⟨m, h⟩ := pageF_law hvm f ⟨dropQL s.ps s.rs[s.rs.length - 1].pages, s.es, s.rs.take (s.rs.length - 1), s.aw ++ [s.rs[s.rs.length - 1].ask], s.ok⟩ a1 (fun r hr => ⟨a2 r hr (hR r (hsub r hr)).1, (hR r (hsub r hr)).2⟩) (by dsimp only; rw [hlen]; omega) hok (by dsimp only; rw [hlen]; omega)
      have hm := h.le
      dsimp only at hm
      rw [hlen] at hm
      have htt : (s.rs.take (s.rs.length - 1)).take m = s.rs.take m := by rw [List.take_take, Nat.min_eq_left (by omega)]
      have hget : (s.rs.take (s.rs.length - 1))[i]? = s.rs[i]? := by rw [List.getElem?_take, if_pos (by omega)]
      refine ⟨m, h.inv, h.es, ⟨by omega, hm.2⟩, ?_, fun hy => ?_, fun hn => ?_⟩
      ·have hsp : s.rs.drop m = (s.rs.take (s.rs.length - 1)).drop m ++ [s.rs[s.rs.length - 1]] := by
        have h1 := (List.take_append_drop (s.rs.length - 1 - m) (s.rs.drop m)).symm
        rw [List.drop_drop, show m + (s.rs.length - 1 - m) = s.rs.length - 1 by omega] at h1
        rw [← hdr, List.drop_take]
        exact h1
       have := h.aw
       dsimp only at this
       rw [this, hsp, List.map_append, List.reverse_append]
       simp
      ·obtain ⟨b1, r, pg, b2, b3, b4⟩ := h.yes hy
       dsimp only at b2 b3 b4
       rw [hget] at b2
       rw [htt] at b3 b4
       exact ⟨b1, r, pg, b2, b3, b4⟩
      ·obtain ⟨b1, b2, b3⟩ := h.no hn
       dsimp only at b2
       rw [htt] at b2
       exact ⟨b1, b2, b3⟩
end
end Go.Proofs.YtkbikekbaboclaaGreat.Crew
set_option linter.unusedVariables false
set_option linter.unusedSimpArgs false
namespace Go.Proofs.YtkbikekbaboclaaGreat.Crew
open Go Go.Proofs V Vc Step Pages Prefix Brain Conf Stp Go.RowKit
open Ward (AskD AskP askE AskR)
structure CInv (cf : CfD) (md : Mds) (k : Nat) (ps : List PageD) (es : List EntD) (rs : List RunD) : Prop where
 inv : PInv cf md k ps es rs
 run : ∀ r ∈ rs, RunPg cf md ps r ∧ RunSt cf md k r ∧ 4 * r.pages.length < r.done + 4
 ids : (rs.map (·.ask.id)).Nodup
structure PickL (cf : CfD) (md : Mds) (i : Nat) (rs : List RunD) (cr : Cr) (t : TurnD) (m : Nat) : Prop where
 le : m ≤ rs.length ∧ i ≤ m ∧ 0 < m
 id : ∀ r, rs[i]? = some r → t.id = r.ask.id
 aw : t.away = ((rs.drop m).map (·.ask)).reverse
 gave : t.gave = true → t.done = false ∧ m = i ∧ cr.rs = rs.take m
 dn : t.done = true → ∀ r, rs[i]? = some r → r.ask.prompt.length ≤ r.done + 1
 done : t.done = true → i < m ∧ t.gave = false ∧ (∀ r, rs[i]? = some r → t.out = sayA cf md r.ask) ∧ cr.rs = (rs.take m).eraseIdx i
 goes : t.gave = false → t.done = false → i < m ∧ t.out = [] ∧ ∃ r r', rs[i]? = some r ∧ r'.ask = r.ask ∧ r'.done = r.done + 1 ∧ cr.rs = (rs.take m).set i r'
section
variable {cf : CfD} {md : Mds} {ps ps' : List PageD} {es es' : List EntD} {rs rs' : List RunD} {r r' : RunD} {e : EntD} {p x v : Int} {i j k : Nat} {l : List Int} {g : PageD}
theorem CInv.users (h : CInv cf md k ps es rs) (p : Int) : 0 ≤ (pgAt ps p).users ∧ (pgAt ps p).users ≤ 1 + rs.length := by
 have h1 := h.inv.us p
 have h2 : cE es p ≤ 1 := List.nodup_iff_count.1 h.inv.nd p
 have h3 : ∀ rs : List RunD, (∀ r ∈ rs, r.pages.Nodup) → cR rs p ≤ rs.length := fun rs => by
  induction rs with
  | nil => intro _; simp [cR]
  | cons q l ih =>
   intro hq
   have a1 := List.nodup_iff_count.1 (hq q List.mem_cons_self) p
   have a2 := ih (fun r hr => hq r (List.mem_cons_of_mem _ hr))
   rw [cR, List.length_cons]; omega
 have h4 := h3 rs (fun r hr => (h.run r hr).1.nd)
 omega
theorem CInv.empty (k : Nat) : CInv cf md k (List.replicate k pg0) [] [] := by
 refine ⟨⟨by simp, fun p => ?_, List.nodup_nil, fun e he => (by cases he)⟩, fun r hr => (by cases hr), List.nodup_nil⟩
 have : (pgAt (List.replicate k pg0) p).users = 0 := by
  unfold pgAt
  split
  ·rw [List.getD_eq_getElem?_getD, List.getElem?_replicate]; split <;> rfl
  ·rfl
 rw [this]; rfl
theorem join_new {a : AskD} (hj : joinV cf k rs a = 0) : ∀ r ∈ rs, r.ask.id ≠ a.id := fun r hr he => by
 unfold joinV at hj
 split at hj
 ·cases hj
 ·split at hj
  ·cases hj
  ·rename_i h1
   refine h1 ?_
   unfold findRn
   rw [if_pos (List.findIdx_lt_length.2 ⟨r, hr, by unfold idB; rw [he]; exact beq_self_eq_true _⟩)]
   omega
theorem CInv.join (h : CInv cf md k ps es rs) {a : AskD} (hj : joinV cf k rs a = 0) (hv : a.ver ≤ md.vm) : CInv cf md k (shareQ ps (findR es a.ver a.prompt).2) (findR es a.ver a.prompt).1 (rs ++ [newRun cf (md a.ver) a (findR es a.ver a.prompt).2]) := by
 have hj' := hj
 unfold joinV at hj
 split at hj
 ·cases hj
 ·rename_i hok
  have hok : askOk cf k a = true := by simpa using hok
  unfold askOk at hok
  rw [Bool.and_eq_true] at hok
  obtain ⟨h1, h2⟩ := hok
  have h1 := of_decide_eq_true h1
  have h2 : Ward.subV cf k [] a = 0 := eq_of_beq h2
  unfold Ward.subV at h2
  split at h2
  ·cases h2
  ·split at h2
   ·cases h2
   ·split at h2
    ·rename_i h3; exact absurd h2 h3
    ·rename_i h3
     split at h2
     ·cases h2
     ·rename_i h4
      have h3 : Gen.checkP cf a.most a.prompt = 0 := by rw [← checkV_eq]; exact Classical.not_not.1 h3
      have hne := (Gen.checkP_ok h3).1
      obtain ⟨a1, a2, a3, a4⟩ := h.inv.join (cf := cf) (md := md) (md a.ver) hne
      refine ⟨a1, fun r hr => ?_, ?_⟩
      rotate_left
      ·rw [List.map_append, List.nodup_append]
       refine ⟨h.ids, by simp, fun x hx y hy => ?_⟩
       simp only [List.map_cons, List.map_nil, List.mem_singleton] at hy
       subst hy
       obtain ⟨r, hr, rfl⟩ := List.mem_map.1 hx
       exact fun he => join_new hj' r hr he
      rcases List.mem_append.1 hr with hr | hr
      ·exact ⟨a2 r hr (h.run r hr).1, (h.run r hr).2⟩
      ·rw [List.mem_singleton] at hr
       subst hr
       exact ⟨a3, RunSt.new hne a4 rfl ⟨h1.1, hv⟩ h3 (by omega), show 4 * (findR es a.ver a.prompt).2.length < 4 * (findR es a.ver a.prompt).2.length + 4 from by omega⟩
theorem ids_set (hi : i < rs.length) (he : r.ask = rs[i].ask) : (rs.set i r).map (·.ask.id) = rs.map (·.ask.id) := by
 rw [List.map_set]
 show (rs.map (·.ask.id)).set i r.ask.id = _
 rw [he]
 have : (rs.map (·.ask.id))[i]'(by simpa using hi) = rs[i].ask.id := by simp
 rw [← this, List.set_getElem_self]
theorem mem_take_erase {m : Nat} (h : r ∈ (rs.take m).eraseIdx i) : r ∈ rs := List.mem_of_mem_take (List.mem_of_mem_eraseIdx h)
theorem CInv.pick (h : CInv cf md k ps es rs) (hm : ∀ v, Md cf (md v)) (hvm : md.vm ≤ 2147483647) (hi : i < rs.length) {s : PgS} (hs : pageF i (es.length + rs.length + 1) ⟨ps, es, rs, [], true⟩ = s) {cr : Cr} {t : TurnD} (ht : pickF rs[i].ask.id i s = (cr, t)) :
  s.es.length ≤ es.length ∧ s.rs.length ≤ rs.length ∧ (s.ok = true → ∀ r, s.rs[i]? = some r → RecOk s.ps r) ∧ CInv cf md k cr.ps cr.es cr.rs ∧ (∀ r, rs[i]? = some r → (r.done + 1) % 4 ≠ 0 → cr.es.length ≤ es.length) ∧ ∃ m, PickL cf md i rs cr t m := by
 have hri : rs[i]? = some rs[i] := List.getElem?_eq_getElem hi
 obtain ⟨m, hL⟩ := pageF_law hvm (es.length + rs.length + 1) ⟨ps, es, rs, [], true⟩ h.inv (fun r hr => ⟨(h.run r hr).1, (h.run r hr).2.1⟩) hi rfl (Nat.le_refl _)
 rw [hs] at hL
 have hle := hL.le
 have haw : s.aw = ((rs.drop m).map (·.ask)).reverse := by have := hL.aw; simpa using this
 have hes := hL.es
 dsimp only at hle hes
 by_cases hok : s.ok = true
 ·obtain ⟨b1, r0, pg, b2, b3, b4, b5, b6⟩ := hL.yes hok
  dsimp only at b2 b3 b6
  rw [hri] at b2
  injection b2 with b2
  subst b2
  have hst := (h.run _ (List.getElem_mem hi)).2.1
  have hst' : RunSt cf md k { rs[i] with pages := pg } := ⟨hst.c, hst.wt, hst.ver, hst.ok, hst.need, hst.sd, hst.sl, hst.sm, hst.dn⟩
  have htm : i < (rs.take m).length := by rw [List.length_take]; omega
  have hsl : s.rs.length = m := by rw [b3, List.length_set, List.length_take]; omega
  have hi2 : i < s.rs.length := by omega
  have hsi : s.rs[i] = { rs[i] with pages := pg } := by simp only [b3]; rw [List.getElem_set_self]
  have hsri : s.rs[i]? = some { rs[i] with pages := pg } := by rw [List.getElem?_eq_getElem hi2, hsi]
  have hpast := hL.inv.past (r := { rs[i] with pages := pg }) (by rw [← hsi]; exact List.getElem_mem hi2) b4 (Nat.le_of_lt hst'.dn)
  have hctx := (hm rs[i].ask.ver).ok.2.2.2.2.2.1
  have hlen := hst'.len
  have hG := hL.inv.go hi2 (by rw [hsi]; exact b4) (by rw [hsi]; exact ⟨hst'.c, hst'.wt⟩) (by rw [hsi]; exact b5) (by rw [hsi]; exact hst'.dn) (by rw [hsi]; omega) (by rw [hsi]; exact hst'.ver)
  rw [hsi] at hG
  obtain ⟨c1, c2, c3⟩ := hG
  obtain ⟨d1, d2⟩ := hst'.go hpast
  have hrx : ∀ r, rs[i]? = some r → (r.done + 1) % 4 ≠ 0 → (recX s.ps s.es { rs[i] with pages := pg }).length ≤ es.length := fun r hr hn => by
   rw [hri] at hr; injection hr with hr; subst hr
   unfold recX
   rw [if_neg hn]; exact hes
  obtain ⟨g1, g2, g3, _⟩ := goR_is s.ps { rs[i] with pages := pg }
  have hers : s.rs.eraseIdx i = (rs.take m).eraseIdx i := by
   rw [b3, eraseIdx_td, eraseIdx_td, List.take_set_of_le (by omega), List.drop_set_of_lt (by omega)]
  have hoth : ∀ r ∈ (rs.take m).eraseIdx i, RunPg cf md (recP s.ps s.es { rs[i] with pages := pg }) r ∧ RunSt cf md k r ∧ 4 * r.pages.length < r.done + 4 := fun r hr =>
   ⟨c2 r (hers ▸ hr) (b6 r hr), (h.run r (mem_take_erase hr)).2⟩
  refine ⟨hes, by omega, fun _ r hr => ?_, ?_⟩
  ·rw [hsri] at hr
   injection hr with hr
   subst hr
   exact hst'.recOk (hm _) b4 hpast b5
  unfold pickF at ht
  rw [if_neg (by rw [hok]; decide), hsri] at ht
  dsimp only at ht
  have hset : s.rs.set i (goR s.ps { rs[i] with pages := pg }) = (rs.take m).set i (goR s.ps { rs[i] with pages := pg }) := by rw [b3, List.set_set]
  by_cases hb : goB s.ps { rs[i] with pages := pg } = true
  ·rw [if_pos hb] at ht
   injection ht with t1 t2
   subst t1; subst t2
   have hi3 : i < (s.rs.set i (goR s.ps { rs[i] with pages := pg })).length := by rw [List.length_set]; exact hi2
   have hC := c1.cut hi3
   rw [List.getElem_set_self] at hC
   have hee : (s.rs.set i (goR s.ps { rs[i] with pages := pg })).eraseIdx i = (rs.take m).eraseIdx i := by
    rw [hset, eraseIdx_td, eraseIdx_td, List.take_set_of_le (by omega), List.drop_set_of_lt (by omega)]
   obtain ⟨f1, f2⟩ := hC
   refine ⟨⟨f1, fun r hr => ?_, by rw [show (cutS i (goS i s { rs[i] with pages := pg }) (goR s.ps { rs[i] with pages := pg })).rs = (rs.take m).eraseIdx i from hee]; exact List.Nodup.sublist (((List.eraseIdx_sublist _ _).trans (List.take_sublist _ _)).map _) h.ids⟩, hrx, m, hle, fun r hr => by rw [hri] at hr; injection hr with hr; subst hr; rfl, haw, fun hg => (by cases hg), fun _ r hr => ?_, fun _ => ⟨b1, rfl, fun r hr => ?_, hee⟩, fun _ hd => (by cases hd)⟩
   ·have hr' : r ∈ (s.rs.set i (goR s.ps { rs[i] with pages := pg })).eraseIdx i := hr
    have hr2 := hr'
    rw [hee] at hr2
    exact ⟨f2 r hr' (hoth r hr2).1, (hoth r hr2).2⟩
   ·rw [hri] at hr; injection hr with hr; subst hr
    exact (d2 hb).2
   ·rw [hri] at hr; injection hr with hr; subst hr
    exact (d2 hb).1
  ·have hb : goB s.ps { rs[i] with pages := pg } = false := by simpa using hb
   rw [hb, if_neg (by decide)] at ht
   injection ht with t1 t2
   subst t1; subst t2
   refine ⟨⟨c1, fun r hr => ?_, by rw [show (goS i s { rs[i] with pages := pg }).rs = (rs.take m).set i (goR s.ps { rs[i] with pages := pg }) from hset, ids_set htm (by rw [g3, List.getElem_take])]; exact List.Nodup.sublist ((List.take_sublist _ _).map _) h.ids⟩, hrx, m, hle, fun r hr => by rw [hri] at hr; injection hr with hr; subst hr; rfl, haw, fun hg => (by cases hg), fun hd => (by cases hd), fun hd => (by cases hd), fun _ _ => ⟨b1, rfl, rs[i], goR s.ps { rs[i] with pages := pg }, hri, g3, g2, hset⟩⟩
   have hr : r ∈ s.rs.set i (goR s.ps { rs[i] with pages := pg }) := hr
   rcases mem_erase_set hr with rfl | hr
   ·refine ⟨c3, d1 hb, ?_⟩
    rw [g1, g2]
    have := b4.hi
    dsimp only at this ⊢
    omega
   ·rw [hers] at hr
    exact hoth r hr
 ·have hok : s.ok = false := by simpa using hok
  obtain ⟨b1, b2, b3⟩ := hL.no hok
  dsimp only at b2
  unfold pickF at ht
  rw [if_pos hok] at ht
  injection ht with t1 t2
  subst t1; subst t2
  refine ⟨hes, by rw [b2, List.length_take]; omega, fun hx => (by rw [hok] at hx; cases hx), ⟨hL.inv, fun r hr => ⟨b3 r hr, (h.run r ?_).2⟩, by rw [show (⟨s.ps, s.es, s.rs⟩ : Cr).rs = rs.take m from b2]; exact List.Nodup.sublist ((List.take_sublist _ _).map _) h.ids⟩, fun _ _ _ => hes, m, hle, fun r hr => by rw [hri] at hr; injection hr with hr; subst hr; rfl, haw, fun _ => ⟨rfl, b1, b2⟩, fun hd => (by cases hd), fun hd => (by cases hd), fun hg => (by cases hg)⟩
  have hr : r ∈ s.rs := hr
  rw [b2] at hr
  exact List.mem_of_mem_take hr
end
end Go.Proofs.YtkbikekbaboclaaGreat.Crew
