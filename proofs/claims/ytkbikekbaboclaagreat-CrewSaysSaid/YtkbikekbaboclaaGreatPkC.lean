import Derived.Test.YtkbikekbaboclaaGreatPkB
import Derived.Test.YtkbikekbaboclaaGreatPkP
import Derived.Test.YtkbikekbaboclaaGreatPrefix5
import Derived.Test.YtkbikekbaboclaaGreatWard3
import Derived.Test.YtkbikekbaboclaaGreatGenC
import Derived.Test.YtkbikekbaboclaaGreatVcCrew
import Derived.Lib.AppendZerosOnto
set_option linter.unusedVariables false
set_option linter.unusedSimpArgs false
namespace Go.Proofs.YtkbikekbaboclaaGreat.Crew
open Go Go.Proofs V Vc Step Pages Brain Go.RowKit
section
variable {w : World} {o ob : Option Addr} {c cb pb : Nat} {xs ys : List Int} {xss yss : List (List Int)} {F G : Nat → Prop} {ps : List PageD} {l : List Int}
theorem Clone_iv (h : Rd w o (xs.map (.int .i64)) G) (hl : xs.length ≤ 17592186043904) (c : Nat) : Calls Tryz.prog 51 #[.slice o xs.length c] w (Ret fun v w' => IV w' v xs (New w w') ∧ Ch Non w w') := by
 refine slices_Clone.calls _ _ _ ?_
 unfold slices_Clone.vc
 refine ⟨fun hn => ?_, fun hn w1 e1 => ?_⟩
 ·have hx : xs = [] := by
   cases xs with
   | nil => rfl
   | cons x r =>
    obtain ⟨a, ha, _⟩ := h 0 (.int .i64 x) rfl
    rw [ha] at hn; cases hn
  subst hx
  exact ⟨IV.nil _ _, Ch.refl _ _⟩
 ·have hg : Gr Non w w1 t_int 1 (some ⟨w.heap.size, 0, none⟩) 0 0 [] := Gr.made0 (Ch.refl _ _) e1
  obtain ⟨o', c', w', hr, hg', hch'⟩ := Own.appendRd (c2 := c) (m := xs.length) el_S_int hg.1 t_S_int (h.keepN (Ch.alloc e1)) (by simp) (fun u hu => by
   obtain ⟨x, _, rfl⟩ := List.mem_map.1 hu
   rfl) (by unfold maxLen; omega) (by omega)
  rw [Nat.zero_add, List.nil_append] at hg'
  rw [Nat.zero_add] at hr
  have hs1 := hg.2.size
  exact ⟨_, _, _, w', hr, ⟨o', c', rfl, hg'.2.1, hg'.2.2.1, hg'.rd.mono (fun i _ hi => by
   rcases hi with hi | hi
   ·exact ⟨hi.1, by have := hi.2; have := hch'.size; omega⟩
   ·exact ⟨by have := hi.1; omega, hi.2⟩)⟩, hg.2.trans hch' (fun i hi h => by have := h.1; omega)⟩
theorem copied_rv (hr : RowsV w (.slice o xss.length c) xss G) (hs : small xss) : Calls Tryz.prog i_step_copied #[.slice o xss.length c] w (Ret fun v w' => RV w' v xss (New w w') ∧ Ch Non w w') := by
 obtain ⟨o', c', vs, e, hrd, ha⟩ := hr
 injection e with e1 _ e2
 subst e1; subst e2
 refine step_copied.calls _ _ _ ?_
 unfold step_copied.vc
 refine ⟨fun oA oN oC i k w' => ∃ (j : Nat) (us : List Value) (F1 F2 : Nat → Prop), i = j ∧ oN = j ∧ j ≤ xss.length ∧ k = xss.length - j ∧ Build w w' t_S_int 1 oA j oC us F1 F2 ∧ All2 (fun u xs => IV w' u xs F2) us (xss.take j), ⟨_, 0, [], _, _, rfl, rfl, Nat.zero_le _, rfl, Build.nil (Ch.refl _ _), .nil⟩, ?_⟩
 rintro jk oA oN oC i k w1 ⟨j, us, F1, F2, rfl, rfl, hj, rfl, hB, hU⟩
 refine ⟨fun hlt => ?_, fun hge => ?_⟩
 ·have hlt : oN < xss.length := by have := of_decide_eq_true hlt; omega
  have hlv : oN < vs.length := by rw [ha.length]; exact hlt
  obtain ⟨o1, c1, hv, hr1⟩ := ha.get oN hlv hlt
  refine ⟨⟨by omega, by omega⟩, (hrd.keepN hB.ch).at (j := (oN : Int).toNat * 1) (v := vs[oN]) (by simp [hlv]) fun p hp => ?_⟩
  rw [hv] at hp
  refine ⟨_, _, _, hp, ?_⟩
  refine step_call (Clone_iv (hr1.keepN hB.ch) (hs.2 _ (List.getElem_mem _)) c1) ?_
  rintro v w2 ⟨⟨o2, c2, rfl, n2, m2, hr2⟩, hc2⟩
  refine ⟨_, _, _, rfl, fun w3 e3 => ?_⟩
  have hB2 := hB.more hc2
  have hl := hs.1
  obtain ⟨o4, c4, w4, F4, hr4, hB4, hc4⟩ := hB2.push el_S_S_int t_S_S_int e3 rfl rfl (by omega) (by omega)
  refine ⟨o4, _, c4, w4, hr4, xss.length - (oN + 1), by omega, oN + 1, _, F4, _, by rw [wrap_id (by omega) (by omega)]; rfl, rfl, hlt, rfl, hB4, ?_⟩
  rw [take_snoc xss oN hlt]
  refine (hU.imp fun u xs h => ((h.keepN hc2).mono (fun i _ hi => .inl hi)).keep hc4 (fun i _ hi h1 => hB2.ap i h1 hi)).snoc ?_
  exact IV.keep (F := Ext F2 w1 w2) ⟨o2, c2, rfl, n2, m2, hr2.mono (fun i _ hi => .inr hi)⟩ hc4 (fun i _ hi h1 => hB2.ap i h1 hi)
 ·have : oN = xss.length := by have := of_decide_eq_false hge; omega
  subst this
  rw [List.take_length] at hU
  exact ⟨⟨oA, oC, us, rfl, hB.own.2.1, hB.own.2.2.1, hB.own.rd.mono (fun i _ hi => hB.f1 i hi), hU.imp (fun u xs h => h.mono (fun i _ hi => hB.f2 i hi))⟩, hB.ch⟩
theorem Copy_ev {p : Value × Value} {e : Ent} (h : EntV w p e G) (hs : small e.1 ∧ small e.2) : Calls Tryz.prog i_step_Copy #[.agg #[p.1, p.2]] w (Ret fun v w' => ∃ q : Value × Value, v = .agg #[q.1, q.2] ∧ EV w' q e (New w w') ∧ Ch Non w w') := by
 obtain ⟨a, b⟩ := p
 obtain ⟨h1, h2⟩ := h
 have k1 := h1
 have k2 := h2
 obtain ⟨o1, c1, vs1, rfl, _, _⟩ := h1
 obtain ⟨o2, c2, vs2, rfl, _, _⟩ := h2
 dsimp only at k1 k2 ⊢
 refine step_Copy.calls _ _ _ _ _ _ ?_
 unfold step_Copy.vc
 intro w1 e1 w2 e2
 have hA := (Blk.new e1).alloc e2
 have hB := Blk.new e2
 have hc2 : Ch Non w w2 := (Ch.alloc e1).andN (Ch.alloc e2)
 have hab : w.heap.size < w1.heap.size := (Blk.new e1).lt
 have hw2 : w1.heap.size < w2.heap.size := hB.lt
 generalize hrb : w1.heap.size = rb at hB hab hw2 ⊢
 have hA : Blk w2 w.heap.size [.slice o1 e.1.length c1, .slice o2 e.2.length c2] t_step_Entry := hA
 clear e1 e2
 refine ⟨fun w' => Blk w' w.heap.size [.slice o1 e.1.length c1, .slice o2 e.2.length c2] t_step_Entry, fun w3 e3 => ⟨hA.drew e3, _, _, _, fun w' h => h.cell 0 rfl, _, _, _, fun w' h => h.cell 1 rfl, ?_⟩⟩
 have hc3 := hc2.andN (Ch.drew e3)
 refine step_call (copied_rv (k1.keepN hc3) hs.1) ?_
 rintro v w4 ⟨⟨o4, c4, us4, rfl, n4, m4, hr4, ha4⟩, hc4⟩
 refine ⟨_, _, _, rfl, (hA.drew e3).keepN hc4, ?_⟩
 refine step_call (copied_rv (k2.keepN (hc3.andN hc4)) hs.2) ?_
 rintro v w5 ⟨⟨o5, c5, us5, rfl, n5, m5, hr5, ha5⟩, hc5⟩
 have hB5 := ((hB.drew e3).keepN hc4).keepN hc5
 have hA5 := ((hA.drew e3).keepN hc4).keepN hc5
 refine ⟨_, _, _, rfl, hA5, ⟨hB5.ok 0 rfl, hB5.ok 1 rfl⟩, fun w6 e6 => ?_⟩
 have e7 : w6 = w5.setCells rb 0 [.slice o4 e.1.length c4, .slice o5 e.2.length c5] := e6
 have hB6 := hB5.all [.slice o4 e.1.length c4, .slice o5 e.2.length c5] rfl e7
 have hc6 : Ch (· = rb) w5 w6 := Ch.sets e7 rfl
 have hs2 : w2.heap.size = w3.heap.size := by subst e3; rfl
 have hs34 := hc4.size
 have hs45 := hc5.size
 have hs56 := hc6.size
 refine ⟨hA5.keep hc6 (by omega), _, _, _, _, _, _, ⟨hB6.cell 0 rfl, hB6.cell 1 rfl⟩, (_, _), rfl, ⟨?_, ?_⟩, ((hc3.andN hc4).andN hc5).trans hc6 (fun i hi h => by omega)⟩
 ·have h4 : RV w4 (.slice o4 e.1.length c4) e.1 (New w3 w4) := ⟨o4, c4, us4, rfl, n4, m4, hr4, ha4⟩
  exact ((h4.keepN hc5).keep hc6 (fun i _ hi h => by have := hi.1; omega)).mono (fun i _ hi => ⟨by have := hi.1; have := hc3.size; omega, by have := hi.2; omega⟩)
 ·have h5 : RV w5 (.slice o5 e.2.length c5) e.2 (New w4 w5) := ⟨o5, c5, us5, rfl, n5, m5, hr5, ha5⟩
  exact (h5.keep hc6 (fun i _ hi h => by have := hi.1; omega)).mono (fun i _ hi => ⟨by have := hi.1; have := hc3.size; omega, by have := hi.2; omega⟩)
theorem Get_ev (h : PoolR w pb ps F) (hr : Rd w o (l.map (.int .i64)) G) (hes : ∀ p ∈ ps, p.es.length ≤ 4) (hl : l.length ≤ 10000) (c : Nat) :
  Calls Tryz.prog i_pages_Pool_Get #[.pointer (some ⟨pb, 0, none⟩), .slice o l.length c] w (Ret fun v w' => ∃ (o' : Option Addr) (c' : Nat) (qs : List (Value × Value)) (F1 F2 : Nat → Prop), v = .slice o' (getL ps l).length c' ∧ Build w w' t_step_Entry 2 o' (getL ps l).length c' (qs.map pairE).flatten F1 F2 ∧ All2 (fun q e => EV w' q e F2) qs (getL ps l)) := by
 refine pages_Pool_Get.calls _ _ _ _ ?_
 unfold pages_Pool_Get.vc
 refine ⟨fun oA oN oC i k w' => ∃ (j : Nat) (qs : List (Value × Value)) (F1 F2 : Nat → Prop), i = j ∧ j ≤ l.length ∧ k = l.length - j ∧ oN = (getL ps (l.take j)).length ∧ Build w w' t_step_Entry 2 oA oN oC (qs.map pairE).flatten F1 F2 ∧ All2 (fun q e => EV w' q e F2) qs (getL ps (l.take j)), ⟨_, 0, [], _, _, rfl, Nat.zero_le _, rfl, rfl, Build.nil (Ch.refl _ _), .nil⟩, ?_⟩
 rintro jk oA oN oC i k w1 ⟨j, qs, F1, F2, rfl, hj, rfl, rfl, hB, hA⟩
 refine ⟨fun hlt => ?_, fun hge => ?_⟩
 ·have hlt : j < l.length := by have := of_decide_eq_true hlt; omega
  have hsn := getL_snoc ps (l.take j) l[j]
  rw [← take_snoc l j hlt] at hsn
  have hll := getL_len hes (l.take j)
  have hlj : (l.take j).length ≤ 10000 := by rw [List.length_take]; omega
  refine ⟨⟨by omega, by omega⟩, (hr.keepN hB.ch).at (j := (j : Int).toNat * 1) (v := .int .i64 l[j]) (by simp [hlt]) fun p hp => ⟨_, hp, ?_⟩⟩
  generalize l[j] = id at hsn
  have hP1 := h.keepN hB.ch
  refine step_call (is_spec hP1 id) ?_
  rintro v w2 ⟨rfl, rfl⟩
  refine ⟨_, rfl, fun hb => ?_, fun hb => ?_⟩
  ·have hb : isB ps id = false := by simpa using hb
   rw [hb, if_neg Bool.false_ne_true, List.append_nil] at hsn
   refine ⟨l.length - (j + 1), by omega, j + 1, qs, F1, F2, by rw [wrap_id (by omega) (by omega)]; rfl, hlt, rfl, by rw [hsn], hB, by rw [hsn]; exact hA⟩
  have hb : isB ps id = true := by simpa using hb
  obtain ⟨h0, h1⟩ := isB_lt hb
  rw [hb, if_pos rfl] at hsn
  have hw := h
  obtain ⟨o', c', gs, R, hC0, hF, hP⟩ := hw
  have hC : PoolC w2 pb o' c' gs R ps.length := hC0.keep hB.ch (fun _ _ _ hN => hN)
  have hjg : id.toNat < gs.length := by rw [hC.len]; exact h1
  obtain ⟨q, hq, _, _, _, a2, _⟩ := hC.at hjg
  obtain ⟨_, _, g3, us, hOw, hUs, hSm⟩ := hP _ hjg h1
  have hel : ps[id.toNat].es.length ≤ 4 := hes _ (List.getElem_mem h1)
  rw [← pgAt_lt h0 h1] at g3 hUs hSm hel
  rw [g3] at a2
  subst hq
  refine ⟨_, _, _, hC.blk.cell 0 rfl, ⟨by omega, by omega⟩, _, _, _, a2, ?_⟩
  have hOr := hOw.rd
  generalize (pgAt ps id).es = es at hsn hUs hSm hel
  generalize gs[id.toNat].eo = eo at hOr
  clear hOw a2 hP hF hC hC0
  refine ⟨fun oA oN oC i k w' => ∃ (m : Nat) (qs : List (Value × Value)) (F1 F2 : Nat → Prop), i = m ∧ m ≤ es.length ∧ k = es.length - m ∧ oN = (getL ps (l.take j) ++ es.take m).length ∧ Build w w' t_step_Entry 2 oA oN oC (qs.map pairE).flatten F1 F2 ∧ All2 (fun q e => EV w' q e F2) qs (getL ps (l.take j) ++ es.take m), ⟨_, 0, qs, F1, F2, rfl, Nat.zero_le _, rfl, by simp, hB, by simpa using hA⟩, ?_⟩
  clear hA hB
  rintro jk oA oN oC i k w3 ⟨m, qs, F1, F2, rfl, hm, rfl, rfl, hB, hA⟩
  refine ⟨fun hlt2 => ?_, fun hge2 => ?_⟩
  ·have hlt2 : m < es.length := by have := of_decide_eq_true hlt2; omega
   have hmu : m < us.length := by rw [hUs.length]; exact hlt2
   obtain ⟨hp1, hp2⟩ := pairs_at us hmu
   have hE := hUs.get m hmu hlt2
   obtain ⟨p, hp, _, _, hcell⟩ := (hOr.keepN hB.ch).elem (sz := 2) (enc := pairE) (fun _ => rfl) (by omega) hmu
   have c0 := hcell 0 _ rfl
   have c1 := hcell 1 _ rfl
   rw [add_none] at c0
   have hE3 := hE.keepN hB.ch
   have hsm := hSm _ (List.getElem_mem hlt2)
   have htk := take_snoc es m hlt2
   generalize us[m] = u at hE3 c0 c1
   generalize es[m] = e at hE3 hsm htk
   obtain ⟨ua, ub⟩ := u
   have hE30 := hE3
   obtain ⟨⟨o1, c1', vs1, hua, _, _⟩, ⟨o2, c2', vs2, hub, _, _⟩⟩ := hE3
   dsimp only at hua hub c0 c1
   subst hua; subst hub
   subst hp
   refine ⟨⟨by omega, by omega⟩, ?_⟩
   refine ⟨o1, _, c1', o2, _, c2', ⟨c0, c1⟩, fun w4 e4 => ?_⟩
   have hV := Blk.new e4
   refine ⟨⟨hV.ok 0 rfl, hV.ok 1 rfl⟩, fun w5 e5 => ?_⟩
   have e6 : w5 = w4.setCells w3.heap.size 0 [.slice o1 e.1.length c1', .slice o2 e.2.length c2'] := e5
   have hV5 := hV.all [.slice o1 e.1.length c1', .slice o2 e.2.length c2'] rfl e6
   have hc35 : Ch Non w3 w5 := (Ch.alloc (F := Non) e4).trans (Ch.sets (F := (· = w3.heap.size)) e6 rfl) (fun i hi he => by omega)
   clear e4 e5 e6 hV
   refine ⟨o1, _, c1', o2, _, c2', ⟨hV5.cell 0 rfl, hV5.cell 1 rfl⟩, ?_⟩
   refine step_call (Copy_ev (p := (.slice o1 e.1.length c1', .slice o2 e.2.length c2')) (hE30.keepN hc35) hsm) ?_
   rintro v w6 ⟨⟨qa, qb⟩, rfl, hQ, hc6⟩
   have hQ0 := hQ
   obtain ⟨⟨oa, ca, va, hqa, _⟩, ⟨ob, cb, vb, hqb, _⟩⟩ := hQ
   dsimp only at hqa hqb
   subst hqa; subst hqb
   refine ⟨oa, _, ca, ob, _, cb, rfl, fun w7 e7 => ?_⟩
   have hB6 := (hB.keepN hc35).more hc6
   have hlen : (getL ps (l.take j) ++ es.take m).length < 1000000 := by rw [List.length_append, List.length_take]; omega
   obtain ⟨o8, c8, w8, F8, hr8, hB8, hc8⟩ := hB6.push el_S_step_Entry t_S_step_Entry e7 rfl rfl hlen (by omega)
   have hnl : (getL ps (l.take j) ++ es.take m).length + 1 = (getL ps (l.take j) ++ es.take (m + 1)).length := by rw [htk, ← List.append_assoc, List.length_append (bs := [e])]; rfl
   rw [hnl] at hB8 hr8
   refine ⟨o8, _, c8, w8, hr8, es.length - (m + 1), by omega, m + 1, qs ++ [(.slice oa e.1.length ca, .slice ob e.2.length cb)], F8, _, by rw [wrap_id (by omega) (by omega)]; rfl, hlt2, rfl, rfl, by rw [← pairs_snoc]; exact hB8, ?_⟩
   rw [htk, ← List.append_assoc]
   refine All2.snoc (hA.imp fun q x k => ?_) ?_
   ·exact (((k.keepN hc35).keepN hc6).mono (fun i _ hi => .inl hi)).keep hc8 (fun i _ hi h => hB6.ap i h hi)
   ·exact EV.keep (F := Ext F2 w5 w6) (hQ0.mono (fun i _ hi => .inr hi)) hc8 (fun i _ hi h => hB6.ap i h hi)
  ·have : m = es.length := by have := of_decide_eq_false hge2; omega
   subst this
   rw [List.take_length, ← hsn] at hA hB
   exact ⟨l.length - (j + 1), by omega, j + 1, qs, F1, F2, by rw [wrap_id (by omega) (by omega)]; rfl, hlt, rfl, by rw [hsn, List.take_length], by rw [List.take_length, ← hsn]; exact hB, hA⟩
 ·have : j = l.length := by have := of_decide_eq_false hge; omega
  subst this
  rw [List.take_length] at hB hA
  exact ⟨oA, oC, qs, F1, F2, by rw [List.take_length], hB, hA⟩
theorem Get_pv (h : PoolR w pb ps F) (hr : Rd w o (l.map (.int .i64)) G) (hes : ∀ p ∈ ps, p.es.length ≤ 4) (hl : l.length ≤ 10000) (c : Nat) :
  Calls Tryz.prog i_pages_Pool_Get #[.pointer (some ⟨pb, 0, none⟩), .slice o l.length c] w (Ret fun v w' => PV w' v (getL ps l) (New w w') ∧ Ch Non w w') := by
 refine step_call (Get_ev h hr hes hl c) ?_
 rintro v w' ⟨o', c', qs, F1, F2, rfl, hB, hA⟩
 exact ⟨⟨o', c', qs, rfl, hB.own.2.1, hB.own.2.2.1, hB.own.rd.mono (fun i _ hi => hB.f1 i hi), hA.imp (fun q e k => k.mono (fun i _ hi => hB.f2 i hi))⟩, hB.ch⟩
end
end Go.Proofs.YtkbikekbaboclaaGreat.Crew
set_option linter.unusedVariables false
set_option linter.unusedSimpArgs false
namespace Go.Proofs.YtkbikekbaboclaaGreat.Crew
open Go Go.Proofs V Vc Step Pages Prefix Brain Conf Go.RowKit
open Ward (AskD AskP askE AskR)
structure RunD where
 ask : AskD
 c : CfD
 wt : ByteArray
 pages : List Int
 done : Nat
 said : List Int
structure RunC where
 rb : Nat
 bb : Nat
 ap : AskP
 po : Option Addr
 pc : Nat
 so : Option Addr
 sc : Nat
def rnE (g : RunC) (r : RunD) : List Value := [.pointer (some ⟨g.bb, 0, none⟩), .int .i64 r.ask.id, .int .i64 r.ask.ver, .slice g.ap.po r.ask.prompt.length g.ap.pc, .int .i64 r.ask.most, .slice g.ap.qo r.ask.draws.length g.ap.qc, .slice g.po r.pages.length g.pc, .int .i64 r.done, .slice g.so r.said.length g.sc]
def ptrE (q : RunC × RunD) : Value := .pointer (some ⟨q.1.rb, 0, none⟩)
def AskC (w : World) (q : AskD × AskP) (D : Nat → Prop) : Prop := AskR w q D ∧ q.1.prompt.length ≤ q.2.pc ∧ q.2.pc ≤ maxLen ∧ q.1.draws.length ≤ q.2.qc ∧ q.2.qc ≤ maxLen
theorem AskC.keep {w w' : World} {q : AskD × AskP} {D G : Nat → Prop} (h : AskC w q D) (hc : Ch G w w') (hd : ∀ i, i < w.heap.size → D i → ¬ G i) : AskC w' q D := ⟨h.1.keep hc hd, h.2⟩
theorem AskC.keepN {w w' : World} {q : AskD × AskP} {D : Nat → Prop} (h : AskC w q D) (hc : Ch Non w w') : AskC w' q D := h.keep hc (fun _ _ _ => id)
theorem AskC.mono {w : World} {q : AskD × AskP} {D D' : Nat → Prop} (h : AskC w q D) (hg : ∀ i, i < w.heap.size → D i → D' i) : AskC w q D' := ⟨h.1.mono hg, h.2⟩
structure RunR (W w : World) (R : Nat → Nat → Prop) (q : RunC × RunD) : Prop where
 blk : Blk w q.1.rb (rnE q.1 q.2) t_crew_run
 z : R (5 + 3 * q.1.rb) q.1.rb
 br : BrK W q.1.bb q.2.c q.2.wt
 ask : AskC w (q.2.ask, q.1.ap) (R 2)
 pg : Own w t_int 1 q.1.po q.2.pages.length q.1.pc (q.2.pages.map (.int .i64)) (R (6 + 3 * q.1.rb))
 sd : Own w t_int 1 q.1.so q.2.said.length q.1.sc (q.2.said.map (.int .i64)) (R (7 + 3 * q.1.rb))
structure CrewC (W w : World) (cb pb xb k : Nat) (B : Int) (ps : List PageD) (es : List EntD) (o : Option Addr) (c : Nat) (qs : List (RunC × RunD)) (R : Nat → Nat → Prop) : Prop where
 fam : Fam w R
 f : ∀ k i, R k i → W.heap.size ≤ i
 z : R 0 cb
 blk : Blk w cb [.pointer (some ⟨pb, 0, none⟩), .pointer (some ⟨xb, 0, none⟩), .slice o qs.length c] t_crew_Crew
 own : Own w t_P_crew_run 1 o qs.length c (qs.map ptrE) (R 1)
 px : PX W w pb xb k B ps es (R 3) (R 4)
 nd : (qs.map (·.1.rb)).Nodup
 rn : ∀ q ∈ qs, RunR W w R q
def AllF (R : Nat → Nat → Prop) : Nat → Prop := fun i => ∃ k, R k i
def MutF (R : Nat → Nat → Prop) : Nat → Prop := fun i => ∃ k, k ≠ 2 ∧ R k i
def upR (R : Nat → Nat → Prop) (FP FI : Nat → Prop) : Nat → Nat → Prop := fun k => if k = 3 then FP else if k = 4 then FI else R k
section
variable {W w w' : World} {cb pb xb k : Nat} {B B' : Int} {ps ps' : List PageD} {es es' : List EntD} {o : Option Addr} {c : Nat} {qs : List (RunC × RunD)} {q : RunC × RunD} {R R' : Nat → Nat → Prop} {F G FP FI : Nat → Prop}
theorem upR_at {k : Nat} (h3 : k ≠ 3) (h4 : k ≠ 4) : upR R FP FI k = R k := by unfold upR; rw [if_neg h3, if_neg h4]
theorem RunR.keep (h : RunR W w R q) (hc : Ch G w w') (h2 : ∀ i, R 2 i → ¬ G i) (h0 : ∀ i, R (5 + 3 * q.1.rb) i → ¬ G i) (h6 : ∀ i, R (6 + 3 * q.1.rb) i → ¬ G i) (h7 : ∀ i, R (7 + 3 * q.1.rb) i → ¬ G i)
  (k2 : ∀ i, R 2 i → R' 2 i) (k0 : R' (5 + 3 * q.1.rb) = R (5 + 3 * q.1.rb)) (k6 : R' (6 + 3 * q.1.rb) = R (6 + 3 * q.1.rb)) (k7 : R' (7 + 3 * q.1.rb) = R (7 + 3 * q.1.rb)) : RunR W w' R' q :=
 ⟨h.blk.keep hc (h0 _ h.z), by rw [k0]; exact h.z, h.br, (h.ask.keep hc (fun i _ hi => h2 i hi)).mono (fun i _ hi => k2 i hi), by rw [k6]; exact h.pg.keep hc (fun i _ hi => h6 i hi), by rw [k7]; exact h.sd.keep hc (fun i _ hi => h7 i hi)⟩
theorem RunR.far (h : RunR W w R q) (hc : Ch G w w') (hG : ∀ k i, R k i → ¬ G i) : RunR W w' R q := h.keep hc (hG _) (hG _) (hG _) (hG _) (fun _ h => h) rfl rfl rfl
theorem RunR.keepN (h : RunR W w R q) (hc : Ch Non w w') : RunR W w' R q := h.far hc (fun _ _ _ => id)
theorem CrewC.far (h : CrewC W w cb pb xb k B ps es o c qs R) (hc : Ch G w w') (hG : ∀ k i, R k i → ¬ G i) (hW : ∀ i, i < W.heap.size → ¬ G i) : CrewC W w' cb pb xb k B ps es o c qs R :=
 ⟨h.fam.le hc.size, h.f, h.z, h.blk.keep hc (hG _ _ h.z), h.own.keep hc (fun i _ hi => hG _ i hi),
  ⟨⟨h.px.p.r.keep hc (fun i _ hi => hG _ i hi), h.px.p.f.le hc.size, h.px.p.c.trans hc (fun i hi hg => hW i hi hg)⟩, h.px.x.keep hc (fun i _ hi => hG _ i hi), h.px.g, h.px.f.le hc.size, h.px.ap⟩,
  h.nd, fun q hq => (h.rn q hq).far hc hG⟩
theorem CrewC.keepN (h : CrewC W w cb pb xb k B ps es o c qs R) (hc : Ch Non w w') : CrewC W w' cb pb xb k B ps es o c qs R := h.far hc (fun _ _ _ => id) (fun _ _ => id)
theorem CrewC.lt (h : CrewC W w cb pb xb k B ps es o c qs R) : ∀ i, AllF R i → i < w.heap.size := fun i ⟨k, hi⟩ => h.fam.1 k i hi
theorem CrewC.ge (h : CrewC W w cb pb xb k B ps es o c qs R) : ∀ i, AllF R i → W.heap.size ≤ i := fun i ⟨k, hi⟩ => h.f k i hi
theorem mut_all : ∀ i, MutF R i → AllF R i := fun i ⟨k, _, h⟩ => ⟨k, h⟩
theorem CrewC.dat (h : CrewC W w cb pb xb k B ps es o c qs R) : ∀ i, R 2 i → ¬ MutF R i := fun i hi ⟨k, hk, hk2⟩ => h.fam.2 2 k (by omega) i hi hk2
theorem CrewC.ch (h : CrewC W w cb pb xb k B ps es o c qs R) : Ch Non W w := h.px.p.c
theorem CrewC.br (h : CrewC W w cb pb xb k B ps es o c qs R) (hr : RunR W w' R' q) : BrK w q.1.bb q.2.c q.2.wt := hr.br.keepN h.ch
theorem CrewC.pool (h : CrewC W w cb pb xb k B ps es o c qs R) (hx : PX W w' pb xb k B' ps' es' FP FI) (hP : ∀ i, FP i → Ext (R 3) w w' i) (hI : ∀ i, FI i → Ext (R 4) w w' i) (hc : Ch (fun i => R 4 i ∨ R 3 i) w w') :
  CrewC W w' cb pb xb k B' ps' es' o c qs (upR R FP FI) ∧ (∀ i, AllF (upR R FP FI) i → Ext (AllF R) w w' i) ∧ Ch (MutF R) w w' := by
 have hs := hc.size
 have ap : ∀ {j}, j ≠ 3 → j ≠ 4 → ∀ i, R j i → ¬ (R 4 i ∨ R 3 i) := fun {j} h3 h4 i hi hg => by
  rcases hg with hg | hg
  ·exact h.fam.2 j 4 h4 i hi hg
  ·exact h.fam.2 j 3 h3 i hi hg
 have up : ∀ j i, upR R FP FI j i → Ext (R j) w w' i := fun j i hi => by
  unfold upR at hi
  split at hi
  ·rename_i e; subst e; exact hP i hi
  ·split at hi
   ·rename_i e; subst e; exact hI i hi
   ·exact .inl hi
 have uq : ∀ j, j ≠ 3 → j ≠ 4 → upR R FP FI j = R j := fun j h3 h4 => upR_at h3 h4
 refine ⟨⟨⟨fun j i hi => ?_, fun j m hjm i hi hm => ?_⟩, fun j i hi => ?_, by rw [uq 0 (by omega) (by omega)]; exact h.z, h.blk.keep hc (ap (by omega) (by omega) _ h.z), by rw [uq 1 (by omega) (by omega)]; exact h.own.keep hc (fun i _ hi => ap (by omega) (by omega) i hi), hx, h.nd, fun q hq => ?_⟩, fun i ⟨j, hi⟩ => ?_, hc.mono (fun i _ hi => by
  rcases hi with hi | hi
  ·exact ⟨4, by omega, hi⟩
  ·exact ⟨3, by omega, hi⟩)⟩
 ·rcases up j i hi with h1 | h1
  ·exact Nat.lt_of_lt_of_le (h.fam.1 j i h1) hs
  ·exact h1.2
 ·by_cases e1 : j = 3 ∨ j = 4
  ·by_cases e2 : m = 3 ∨ m = 4
   ·have hx2 := hx.ap
    unfold upR at hi hm
    rcases e1 with rfl | rfl
    ·rcases e2 with rfl | rfl
     ·exact hjm rfl
     ·simp only [if_true] at hi
      rw [if_neg (by omega), if_pos rfl] at hm
      exact hx.ap i hm hi
    ·rcases e2 with rfl | rfl
     ·simp only [if_true] at hm
      rw [if_neg (by omega), if_pos rfl] at hi
      exact hx.ap i hi hm
     ·exact hjm rfl
   ·rw [uq m (by omega) (by omega)] at hm
    rcases up j i hi with h1 | h1
    ·exact h.fam.2 j m hjm i h1 hm
    ·exact absurd (h.fam.1 m i hm) (Nat.not_lt.2 h1.1)
  ·rw [uq j (by omega) (by omega)] at hi
   rcases up m i hm with h1 | h1
   ·exact h.fam.2 j m hjm i hi h1
   ·exact absurd (h.fam.1 j i hi) (Nat.not_lt.2 h1.1)
 ·rcases up j i hi with h1 | h1
  ·exact h.f j i h1
  ·exact Nat.le_trans h.px.p.c.size h1.1
 ·exact (h.rn q hq).keep hc (ap (by omega) (by omega)) (ap (by omega) (by omega)) (ap (by omega) (by omega)) (ap (by omega) (by omega)) (fun i hi => by rw [uq 2 (by omega) (by omega)]; exact hi) (uq _ (by omega) (by omega)) (uq _ (by omega) (by omega)) (uq _ (by omega) (by omega))
 ·rcases up j i hi with h1 | h1
  ·exact .inl ⟨_, h1⟩
  ·exact .inr h1
theorem CrewC.at (h : CrewC W w cb pb xb k B ps es o c qs R) {i : Nat} (hi : i < qs.length) : ∃ p, o = some p ∧ w.cell? (p.add i) = some (.pointer (some ⟨qs[i].1.rb, 0, none⟩)) := by
 obtain ⟨p, hp, _, _, hc⟩ := Rd.getT (enc := ptrE) h.own.rd hi
 exact ⟨p, hp, hc⟩
def idB (id : Int) (r : RunD) : Bool := r.ask.id == id
def findRn (rs : List RunD) (id : Int) : Int := if rs.findIdx (idB id) < rs.length then (rs.findIdx (idB id) : Int) else -1
theorem at_c1_spec {cb' T : Nat} {id : Int} (h : RunR W w R q) (hb : Blk w cb' [.int .i64 id] T) : Calls Tryz.prog i_crew_Crew_at_c1 #[.pointer (some ⟨q.1.rb, 0, none⟩), .pointer (some ⟨cb', 0, none⟩)] w (Ret fun v w' => v = .bool (idB id q.2) ∧ Ch Non w w') := by
 refine crew_Crew_at_c1.calls _ _ ?_
 unfold crew_Crew_at_c1.vc
 exact ⟨fun w' => Ch Non w w', fun w1 e1 => ⟨Ch.drew e1, _, fun w' k => (h.blk.keepN k).cell 1 rfl, _, fun w' k => (hb.keepN k).cell 0 rfl, rfl, Ch.drew e1⟩⟩
theorem IdxAt_spec {cb' T : Nat} {id : Int} (h : CrewC W w cb pb xb k B ps es o c qs R) (hn : qs.length < 1000) (hb : Blk w cb' [.int .i64 id] T) :
  Calls Tryz.prog 71 #[.slice o qs.length c, .func (.func i_crew_Crew_at_c1) #[] #[.pointer (some ⟨cb', 0, none⟩)]] w (Ret fun v w' => v = .int .i64 (findRn (qs.map (·.2)) id) ∧ Ch Non w w') := by
 refine slices_IndexFunc.calls_ca _ _ _ _ ?_
 unfold slices_IndexFunc.vc_ca
 refine ⟨fun i n w' => ∃ j : Nat, i = j ∧ j ≤ qs.length ∧ n = qs.length - j ∧ (∀ m (hm : m < qs.length), m < j → idB id qs[m].2 = false) ∧ Ch Non w w', ⟨_, 0, rfl, Nat.zero_le _, rfl, fun m hm h => by omega, Ch.refl _ _⟩, ?_⟩
 rintro jk i n w1 ⟨j, rfl, hj, rfl, hno, hc1⟩
 refine ⟨fun hlt => ?_, fun hge => ?_⟩
 ·have hlt : j < qs.length := by have := of_decide_eq_true hlt; omega
  obtain ⟨p, rfl, hp⟩ := (h.keepN hc1).at hlt
  refine ⟨⟨by omega, by omega⟩, _, by rw [Int.toNat_natCast, Nat.mul_one]; exact hp, step_call (at_c1_spec ((h.keepN hc1).rn _ (List.getElem_mem hlt)) (hb.keepN hc1)) ?_⟩
  rintro v w2 ⟨rfl, hc2⟩
  refine ⟨_, rfl, fun hy => ⟨?_, hc1.andN hc2⟩, fun hn' => ⟨qs.length - (j + 1), by omega, j + 1, by rw [wrap_id (by omega) (by omega)]; rfl, hlt, rfl, fun m hm hmj => ?_, hc1.andN hc2⟩⟩
  ·have : (qs.map (·.2)).findIdx (idB id) = j := by
    rw [List.findIdx_eq (by simpa using hlt)]
    exact ⟨by simpa using hy, fun m hm => by
     have := hno m (by omega) hm
     simpa using this⟩
   unfold findRn
   rw [this, if_pos (by simpa using hlt)]
  ·by_cases e : m = j
   ·subst e; exact hn'
   ·exact hno m hm (by omega)
 ·have : j = qs.length := by have := of_decide_eq_false hge; omega
  subst this
  refine ⟨?_, hc1⟩
  unfold findRn
  rw [if_neg (fun hx => ?_)]
  have hy := List.findIdx_getElem (w := hx)
  have hx2 : (qs.map (·.2)).findIdx (idB id) < qs.length := by simpa using hx
  rw [List.getElem_map, hno _ hx2 hx2] at hy
  cases hy
theorem at_spec (h : CrewC W w cb pb xb k B ps es o c qs R) (hn : qs.length < 1000) (id : Int) : Calls Tryz.prog i_crew_Crew_at #[.pointer (some ⟨cb, 0, none⟩), .int .i64 id] w (Ret fun v w' => v = .int .i64 (findRn (qs.map (·.2)) id) ∧ Ch Non w w') := by
 refine crew_Crew_at.calls _ _ ?_
 unfold crew_Crew_at.vc
 intro w1 e1
 have hb := Blk.new e1
 have hc1 : Ch Non w w1 := Ch.alloc e1
 have h1 := h.keepN hc1
 refine ⟨_, _, _, h1.blk.cell 2 rfl, step_call (IdxAt_spec h1 hn hb) ?_⟩
 rintro v w2 ⟨rfl, hc2⟩
 exact ⟨_, rfl, rfl, hc1.andN hc2⟩
theorem Free_specC (h : CrewC W w cb pb xb k B ps es o c qs R) : Calls Tryz.prog i_crew_Crew_Free #[.pointer (some ⟨cb, 0, none⟩)] w (Ret fun v w' => v = .int .i64 (freeN ps) ∧ w' = w) := by
 refine crew_Crew_Free.calls _ ?_
 unfold crew_Crew_Free.vc
 refine ⟨_, h.blk.cell 0 rfl, step_call (Pages.Free_spec h.px.p.r) ?_⟩
 rintro v w1 ⟨rfl, rfl⟩
 exact ⟨_, rfl, rfl, rfl⟩
theorem Kept_spec (h : CrewC W w cb pb xb k B ps es o c qs R) : Calls Tryz.prog i_crew_Crew_Kept #[.pointer (some ⟨cb, 0, none⟩)] w (Ret fun v w' => v = .int .i64 es.length ∧ w' = w) := by
 refine crew_Crew_Kept.calls _ ?_
 unfold crew_Crew_Kept.vc
 refine ⟨_, h.blk.cell 1 rfl, step_call (Prefix.Len_spec h.px.x) ?_⟩
 rintro v w1 ⟨rfl, rfl⟩
 exact ⟨_, rfl, rfl, rfl⟩
theorem Ids_spec (h : CrewC W w cb pb xb k B ps es o c qs R) (hn : qs.length < 1000) : Calls Tryz.prog i_crew_Crew_Ids #[.pointer (some ⟨cb, 0, none⟩)] w (Ret fun v w' => IV w' v (qs.map (·.2.ask.id)) (New w w') ∧ Ch Non w w') := by
 refine crew_Crew_Ids.calls _ ?_
 unfold crew_Crew_Ids.vc
 refine ⟨_, _, _, h.blk.cell 2 rfl, fun oA oN oC i k w' => ∃ j : Nat, i = j ∧ j ≤ qs.length ∧ k = qs.length - j ∧ oN = j ∧ Gr Non w w' t_int 1 oA j oC (((qs.map (·.2.ask.id)).take j).map (.int .i64)), ⟨_, 0, rfl, Nat.zero_le _, rfl, rfl, Gr.nil (Ch.refl _ _)⟩, ?_⟩
 rintro jk oA oN oC i kk w1 ⟨j, rfl, hj, rfl, rfl, hg⟩
 have hc1 := hg.2
 refine ⟨fun hlt => ?_, fun hge => ?_⟩
 ·have hlt : oN < qs.length := by have := of_decide_eq_true hlt; omega
  have h1 := h.keepN hc1
  obtain ⟨p, rfl, hp⟩ := h1.at hlt
  have hr := h1.rn _ (List.getElem_mem hlt)
  refine ⟨⟨by omega, by omega⟩, some ⟨qs[oN].1.rb, 0, none⟩, by rw [Int.toNat_natCast, Nat.mul_one]; exact hp, _, by rw [add_at, Nat.zero_add]; exact hr.blk.cell 1 rfl, fun w2 e2 => ?_⟩
  obtain ⟨o', c', w3, hr3, hg3, _⟩ := Gr.next (enc := Value.int .i64) (L := qs.map (·.2.ask.id)) (v := .int .i64 qs[oN].2.ask.id) el_S_int hg t_S_int (by simpa using hlt) (by rw [List.length_map]; omega) e2 (by simp) rfl (by omega)
  exact ⟨o', _, c', w3, hr3, qs.length - (oN + 1), by omega, oN + 1, by rw [wrap_id (by omega) (by omega)]; rfl, hlt, rfl, rfl, hg3⟩
 ·have : oN = qs.length := by have := of_decide_eq_false hge; omega
  subst this
  rw [List.take_of_length_le (by simp)] at hg
  exact ⟨⟨oA, oC, by simp, by simpa using hg.1.2.1, hg.1.2.2.1, hg.rd⟩, hc1⟩
end
end Go.Proofs.YtkbikekbaboclaaGreat.Crew
set_option linter.unusedVariables false
set_option linter.unusedSimpArgs false
namespace Go.Proofs.YtkbikekbaboclaaGreat.Crew
open Go Go.Proofs V Vc Step Pages Prefix Brain Conf Go.RowKit
open Ward (AskD AskP askE AskR)
section
variable {W w w' : World} {cb pb xb k : Nat} {B B' : Int} {ps ps' : List PageD} {es es' : List EntD} {o : Option Addr} {c n : Nat} {qs : List (RunC × RunD)} {q : RunC × RunD} {R R' : Nat → Nat → Prop} {F G FP FI Fa : Nat → Prop} {xs ys : List Int}
theorem upR_self (R : Nat → Nat → Prop) : upR R (R 3) (R 4) = R := by
 funext k
 unfold upR
 split
 ·rename_i h; rw [h]
 ·split
  ·rename_i h; rw [h]
  ·rfl
theorem DeleteR_spec (hO : Own w t_P_crew_run 1 o qs.length c (qs.map ptrE) Fa) {i : Nat} (hi : i < qs.length) (hn : qs.length ≤ 1000000) :
  Calls Tryz.prog 84 #[.slice o qs.length c, .int .i64 i, .int .i64 (IntKind.i64.wrap ((i : Int) + 1))] w (Ret fun v w' => v = .slice o (qs.length - 1) c ∧ Own w' t_P_crew_run 1 o (qs.length - 1) c ((qs.eraseIdx i).map ptrE) Fa ∧ Ch Fa w w') := by
 refine slices_Delete.calls_run _ _ _ _ _ ?_
 unfold slices_Delete.vc_run
 have hnc := hO.2.1
 rw [wrap_id (by omega) (by omega)]
 refine ⟨⟨by omega, by omega, by omega, by omega⟩, iteF (by simp; omega) ?_⟩
 refine ⟨fun _ => True, fun w1 e1 => ⟨trivial, ⟨by omega, by omega⟩, ⟨by omega, by omega⟩, ?_⟩⟩
 have hO1 := hO.keepN (Ch.drew e1)
 have hi1 : ((i : Int) + 1).toNat = i + 1 := by omega
 have hi0 : (i : Int).toNat = i := by omega
 rw [hi1, hi0]
 obtain ⟨w2, hr2, hO2, hc2⟩ := hO1.cut el_S_P_crew_run (i := i) (j := i + 1) (by omega) (by omega) (fun u hu => by obtain ⟨q, _, rfl⟩ := List.mem_map.1 hu; rfl) t_S_P_crew_run
 refine ⟨_, _, _, w2, hr2, trivial, ⟨by omega, by omega, by omega⟩, ?_⟩
 have hk : i + (qs.length - (i + 1)) = qs.length - 1 := by omega
 rw [hk] at hO2 ⊢
 have hz : zeroB Tryz.prog t_P_crew_run = true := by kernel_rfl
 obtain ⟨x, w3, hr3, hO3, hc3⟩ := hO2.clear el_S_P_crew_run hz (i := qs.length - 1) (by omega) 0
 have e1' : ((qs.length - 1 : Nat) : Int).toNat = qs.length - 1 := Int.toNat_natCast _
 have e2' : ((qs.length : Nat) : Int).toNat = qs.length := Int.toNat_natCast _
 refine ⟨x, w3, by rw [e1', e2']; exact hr3, rfl, ?_, ((Ch.drew (F := Fa) e1).same hc2).same hc3⟩
 simp only [Nat.mul_one] at hO3
 have hlen : ((qs.map ptrE).take i ++ (qs.map ptrE).drop (i + 1)).length = qs.length - 1 := by
  rw [List.length_append, List.length_take, List.length_drop, List.length_map]; omega
 rw [List.take_append, List.take_of_length_le (by omega), hlen, Nat.sub_self, List.take_zero, List.append_nil] at hO3
 rw [eraseIdx_td, List.map_append, List.map_take, List.map_drop]
 exact hO3
def dropQL (ps : List PageD) (l : List Int) : List PageD := if allB ps l && !overB ps l then dropL ps l else ps
theorem dropQL_good (h : Pages.Good k B ps) (hB : 0 ≤ B) (l : List Int) : Pages.Good k B (dropQL ps l) := by
 unfold dropQL
 split
 ·rename_i hg; exact h.drops hB (useGo_drop2.2 hg)
 ·exact h
theorem RunR.low (fam : Fam w R) (h : RunR W w R q) (hc : Ch (fun i => R 0 i ∨ R 1 i ∨ R 3 i ∨ R 4 i) w w') : RunR W w' R q := by
 have ap : ∀ {j}, j ≠ 0 → j ≠ 1 → j ≠ 3 → j ≠ 4 → ∀ i, R j i → ¬ (R 0 i ∨ R 1 i ∨ R 3 i ∨ R 4 i) := fun {j} h0 h1 h3 h4 i hi hg => by
  rcases hg with hg | hg | hg | hg
  ·exact fam.2 j 0 h0 i hi hg
  ·exact fam.2 j 1 h1 i hi hg
  ·exact fam.2 j 3 h3 i hi hg
  ·exact fam.2 j 4 h4 i hi hg
 exact h.keep hc (ap (by omega) (by omega) (by omega) (by omega)) (ap (by omega) (by omega) (by omega) (by omega)) (ap (by omega) (by omega) (by omega) (by omega)) (ap (by omega) (by omega) (by omega) (by omega)) (fun _ h => h) rfl rfl rfl
theorem cut_spec (h : CrewC W w cb pb xb k B ps es o c qs R) (hk : k ≤ 1000) (hB : 0 ≤ B ∧ B ≤ 1000000000) (hn : qs.length ≤ 1000) {i : Nat} (hi : i < qs.length) (hl : qs[i].2.pages.length ≤ 1000) :
  Calls Tryz.prog i_crew_Crew_cut #[.pointer (some ⟨cb, 0, none⟩), .int .i64 i] w (Ret fun v w' => v = .pointer (some ⟨qs[i].1.rb, 0, none⟩) ∧ CrewC W w' cb pb xb k B (dropQL ps qs[i].2.pages) es o c (qs.eraseIdx i) R ∧ RunR W w' R qs[i] ∧ Ch (fun i => R 0 i ∨ R 1 i ∨ R 3 i ∨ R 4 i) w w') := by
 refine crew_Crew_cut.calls _ _ ?_
 unfold crew_Crew_cut.vc
 obtain ⟨p, hp, hcell⟩ := h.at hi
 have hr := h.rn _ (List.getElem_mem hi)
 subst hp
 refine ⟨_, _, _, h.blk.cell 2 rfl, ⟨by omega, by omega⟩, some ⟨qs[i].1.rb, 0, none⟩, by rw [Int.toNat_natCast, Nat.mul_one]; exact hcell, fun w' => Ch (R 3) w w', fun w1 e1 => ⟨Ch.drew e1, ?_⟩⟩
 have h30 : ∀ i, R 0 i → ¬ R 3 i := h.fam.2 0 3 (by omega)
 have hr3 : ∀ m, R (5 + 3 * qs[i].1.rb) m → ¬ R 3 m := h.fam.2 _ 3 (by omega)
 refine ⟨_, fun w' k => (h.blk.keep k (h30 _ h.z)).cell 0 rfl, _, _, _, fun w' k => by rw [add_at, Nat.zero_add]; exact (hr.blk.keep k (hr3 _ hr.z)).cell 6 rfl, ?_⟩
 have hd1 : Ch Non w w1 := Ch.drew e1
 have h1 := h.keepN hd1
 have hlen : ps.length = k := h.px.g.len
 refine step_call (Drop_spec h1.px.p.r h1.px.p.lt (hr.keepN hd1).pg.rd (fun m hm => h1.fam.1 _ m hm) (fun m _ hm hf => h.fam.2 (6 + 3 * qs[i].1.rb) 3 (by omega) m hm hf) (by omega) (by omega) ⟨hB.1, by omega⟩ h.px.g.bnd _) ?_
 rintro v w2 ⟨rfl, hp2, hc2⟩
 have hc02 : Ch (R 3) w w2 := hd1.any.same hc2
 have hg2 := dropQL_good h.px.g hB.1 qs[i].2.pages
 obtain ⟨hC2, _, _⟩ := h1.pool (h1.px.pool hp2 hc2 hg2) (fun _ hi => .inl hi) (fun _ hi => .inl hi) (hc2.mono (fun _ _ hi => .inr hi))
 rw [upR_self] at hC2
 refine ⟨_, rfl, hc02, _, _, _, hC2.blk.cell 2 rfl, ?_⟩
 refine step_call (DeleteR_spec hC2.own hi (by omega)) ?_
 rintro v w3 ⟨rfl, hO3, hc3⟩
 have h10 : ¬ R 1 cb := h.fam.2 0 1 (by omega) cb h.z
 have hB3 := hC2.blk.keep hc3 h10
 refine ⟨_, _, _, rfl, hB3.ok 2 rfl, fun w4 e4 => ?_⟩
 have hB4 := hB3.set e4
 have hc4 : Ch (R 0) w3 w4 := Ch.set e4 h.z
 have hall : Ch (fun i => R 0 i ∨ R 1 i ∨ R 3 i ∨ R 4 i) w w4 := ((hc02.mono (fun _ _ h => .inr (.inr (.inl h)))).same (hc3.mono (fun _ _ h => .inr (.inl h)))).same (hc4.mono (fun _ _ h => .inl h))
 have hc24 : Ch (fun i => R 0 i ∨ R 1 i) w2 w4 := (hc3.mono (fun _ _ h => .inr h)).same (hc4.mono (fun _ _ h => .inl h))
 have ap34 : ∀ j, j = 3 ∨ j = 4 → ∀ i, R j i → ¬ (R 0 i ∨ R 1 i) := fun j hj i hi hg => by
  rcases hg with hg | hg
  ·exact h.fam.2 j 0 (by omega) i hi hg
  ·exact h.fam.2 j 1 (by omega) i hi hg
 have hel : (qs.eraseIdx i).length = qs.length - 1 := by rw [List.length_eraseIdx, if_pos hi]
 refine ⟨rfl, ⟨(h.fam.le hall.size), h.f, h.z, by rw [hel]; exact hB4, by rw [hel]; exact hO3.keep hc4 (fun i _ h1 h0 => h.fam.2 1 0 (by omega) i h1 h0),
  ⟨⟨hC2.px.p.r.keep hc24 (fun i _ hi => ap34 3 (.inl rfl) i hi), hC2.px.p.f.le hc24.size, hC2.px.p.c.trans hc24 (fun i hi hg => by
   rcases hg with hg | hg
   ·exact absurd (h.f 0 i hg) (Nat.not_le.2 hi)
   ·exact absurd (h.f 1 i hg) (Nat.not_le.2 hi))⟩, hC2.px.x.keep hc24 (fun i _ hi => ap34 4 (.inr rfl) i hi), hC2.px.g, hC2.px.f.le hc24.size, hC2.px.ap⟩,
  List.Nodup.sublist ((List.eraseIdx_sublist qs i).map _) h.nd, fun q hq => (h.rn q ((List.eraseIdx_sublist qs i).subset hq)).low h.fam hall⟩, hr.low h.fam hall, hall⟩
theorem low_all : ∀ i, (R 0 i ∨ R 1 i ∨ R 3 i ∨ R 4 i) → MutF R i := fun i h => by
 rcases h with h | h | h | h <;> exact ⟨_, by omega, h⟩
theorem Said_spec (h : CrewC W w cb pb xb k B ps es o c qs R) (hn : qs.length < 1000) (hl : ∀ q ∈ qs, q.2.said.length ≤ 1000) (id : Int) :
  Calls Tryz.prog i_crew_Crew_Said #[.pointer (some ⟨cb, 0, none⟩), .int .i64 id] w (Ret fun v w' => Ch Non w w' ∧ (findRn (qs.map (·.2)) id < 0 → v = .slice none 0 0) ∧ ∀ i (hi : i < qs.length), findRn (qs.map (·.2)) id = i → IV w' v qs[i].2.said (New w w')) := by
 refine crew_Crew_Said.calls _ _ ?_
 unfold crew_Crew_Said.vc
 refine step_call (at_spec h hn id) ?_
 rintro v w1 ⟨rfl, hc1⟩
 refine ⟨_, rfl, fun hlt => ?_, fun hge => ?_⟩
 ·have hlt := of_decide_eq_true hlt
  exact ⟨hc1, fun _ => rfl, fun i hi he => by omega⟩
 ·have hge := of_decide_eq_false hge
  obtain ⟨i, hi, he⟩ : ∃ i, i < qs.length ∧ findRn (qs.map (·.2)) id = (i : Int) := by
   unfold findRn at hge ⊢
   split
   ·rename_i hx; exact ⟨_, by simpa using hx, rfl⟩
   ·rename_i hx; rw [if_neg hx] at hge; omega
  have h1 := h.keepN hc1
  refine ⟨fun w' => Ch Non w1 w', fun w2 e2 => ⟨Ch.drew e2, _, _, _, fun w' k => (h1.blk.keepN k).cell 2 rfl, ?_⟩⟩
  have hd2 : Ch Non w1 w2 := Ch.drew e2
  refine step_call (at_spec (h1.keepN hd2) hn id) ?_
  rintro v w4 ⟨rfl, hc4⟩
  rw [he]
  have hc14 := hd2.andN hc4
  have h4 := h1.keepN hc14
  obtain ⟨p, rfl, hp⟩ := h4.at hi
  have hrn := h4.rn _ (List.getElem_mem hi)
  refine ⟨_, rfl, hc14, ⟨by omega, by omega⟩, some ⟨qs[i].1.rb, 0, none⟩, by rw [Int.toNat_natCast, Nat.mul_one]; exact hp, hc14, _, _, _, by rw [add_at, Nat.zero_add]; exact hrn.blk.cell 8 rfl, hc14, step_call (Clone_iv hrn.sd.rd (by have := hl _ (List.getElem_mem hi); omega) _) ?_⟩
  rintro v w5 ⟨hv, hc5⟩
  have hv' := hv
  obtain ⟨o5, c5, rfl, _⟩ := hv
  have hs := (hc1.andN hc14).size
  refine ⟨_, _, _, rfl, hc14.andN hc5, (hc1.andN hc14).andN hc5, fun hlt => by omega, fun j hj hji => ?_⟩
  obtain rfl : i = j := by omega
  exact hv'.mono (fun i _ hi => ⟨by have := hi.1; omega, hi.2⟩)
end
end Go.Proofs.YtkbikekbaboclaaGreat.Crew
set_option linter.unusedVariables false
set_option linter.unusedSimpArgs false
namespace Go.Proofs.YtkbikekbaboclaaGreat.Crew
open Go Go.Proofs V Vc Step Pages Prefix Brain Conf Go.RowKit
open Ward (AskD AskP askE AskR checkV needN subV)
section
variable {w w' : World} {q : AskD × AskP} {D : Nat → Prop}
def AskW (w : World) (q : AskD × AskP) (D : Nat → Prop) : Prop := Rd w q.2.po (q.1.prompt.map (.int .i64)) D ∧ Rd w q.2.qo (q.1.draws.map (.int .i64)) D ∧ q.1.prompt.length ≤ q.2.pc ∧ q.2.pc ≤ maxLen ∧ q.1.draws.length ≤ q.2.qc ∧ q.2.qc ≤ maxLen
theorem Copy_any (h1 : Rd w q.2.po (q.1.prompt.map (.int .i64)) D) (h2 : Rd w q.2.qo (q.1.draws.map (.int .i64)) D) (h3 : q.1.prompt.length ≤ 17592186043904) (h4 : q.1.draws.length ≤ 17592186043904) : Calls Tryz.prog i_ward_Copy #[.agg (askE q).toArray] w (Ret fun v w' => ∃ p : AskP, v = .agg (askE (q.1, p)).toArray ∧ AskW w' (q.1, p) (New w w') ∧ Ch Non w w') := by
 refine ward_Copy.calls _ _ _ _ _ _ _ _ _ ?_
 unfold ward_Copy.vc
 intro w1 e1 w2 e2
 have hA := (Blk.new e1).alloc e2
 have hB := Blk.new e2
 have hc2 : Ch Non w w2 := (Ch.alloc e1).andN (Ch.alloc e2)
 have s1 : w.heap.size < w1.heap.size := (Blk.new e1).lt
 have s2 : w1.heap.size < w2.heap.size := hB.lt
 clear e1 e2
 refine ⟨fun w' => ∃ (o4 : Option Addr) (c4 : Nat) (o5 : Option Addr) (c5 : Nat), Blk w' w.heap.size [.int .i64 q.1.id, .int .i64 q.1.ver, .slice o4 q.1.prompt.length c4, .int .i64 q.1.most, .slice o5 q.1.draws.length c5] t_ward_Ask ∧ Blk w' w1.heap.size [.int .i64 0, .int .i64 0, .slice none 0 0, .int .i64 0, .slice none 0 0] t_ward_Ask ∧
  Rd w' o4 (q.1.prompt.map (.int .i64)) (New w2 w') ∧ Rd w' o5 (q.1.draws.map (.int .i64)) (New w2 w') ∧ (q.1.prompt.length ≤ c4 ∧ c4 ≤ maxLen ∧ q.1.draws.length ≤ c5 ∧ c5 ≤ maxLen) ∧ Ch Non w w', ⟨fun _ => True, fun w3 e3 => ⟨trivial, ⟨_, _, _, (hA.drew e3).cell 2 rfl, trivial, ?_, ⟨_, _, _, (hA.drew e3).cell 4 rfl, trivial, ?_⟩, trivial⟩, ⟨_, _, _, (hA.drew e3).cell 4 rfl, trivial, _, _, _, (hA.drew e3).cell 2 rfl, trivial, ?_⟩, trivial⟩⟩, ?_⟩
 ·have hc3 : Ch Non w w3 := hc2.andN (Ch.drew e3)
  refine step_call (Clone_iv (h1.keepN hc3) (by omega) _) ?_
  rintro v w4 ⟨⟨o4, c4, rfl, n4, m4, hr4⟩, hc4⟩
  refine ⟨_, _, _, rfl, trivial, _, _, _, ((hA.drew e3).keepN hc4).cell 4 rfl, trivial, ?_⟩
  refine step_call (Clone_iv ((h2.keepN hc3).keepN hc4) (by omega) _) ?_
  rintro v w9 ⟨⟨o5, c5, rfl, n5, m5, hr5⟩, hc5⟩
  have hr4 := hr4.keepN hc5
  have hA9 := ((hA.drew e3).keepN hc4).keepN hc5
  have hB9 := ((hB.drew e3).keepN hc4).keepN hc5
  have hc9 := (hc3.andN hc4).andN hc5
  have hs3 : w2.heap.size = w3.heap.size := by subst e3; rfl
  have hs4 := hc4.size
  have hs5 := hc5.size
  refine ⟨_, _, _, rfl, trivial, hA9.ok 2 rfl, fun w6 e6 => ⟨trivial, ?_⟩⟩
  have hA6 := hA9.set e6
  refine ⟨hA6.ok 4 rfl, fun w7 e7 => ⟨trivial, ?_⟩⟩
  have hA7 := hA6.set e7
  have hcs : Ch (· = w.heap.size) w9 w7 := (Ch.set (F := (· = w.heap.size)) (p := ⟨w.heap.size, 2, none⟩) e6 rfl).same (Ch.set (F := (· = w.heap.size)) (p := ⟨w.heap.size, 4, none⟩) e7 rfl)
  have hs79 := hcs.size
  exact ⟨_, _, _, _, hA7, (hB9.keep hcs (by omega)), (hr4.keep hcs (fun i _ hi he => by have := hi.1; omega)).mono (fun i hi hN => ⟨by have := hN.1; omega, hi⟩), (hr5.keep hcs (fun i _ hi he => by have := hi.1; omega)).mono (fun i hi hN => ⟨by have := hN.1; omega, hi⟩), ⟨n4, m4, n5, m5⟩, hc9.trans hcs (fun i hi he => by omega)⟩
 ·have hc3 : Ch Non w w3 := hc2.andN (Ch.drew e3)
  refine step_call (Clone_iv (h1.keepN hc3) (by omega) _) ?_
  rintro v w4 ⟨⟨o4, c4, rfl, n4, m4, hr4⟩, hc4⟩
  refine ⟨_, _, _, rfl, trivial, ?_⟩
  refine step_call (Clone_iv ((h2.keepN hc3).keepN hc4) (by omega) _) ?_
  rintro v w9 ⟨⟨o5, c5, rfl, n5, m5, hr5⟩, hc5⟩
  have hr4 := hr4.keepN hc5
  have hA9 := ((hA.drew e3).keepN hc4).keepN hc5
  have hB9 := ((hB.drew e3).keepN hc4).keepN hc5
  have hc9 := (hc3.andN hc4).andN hc5
  have hs3 : w2.heap.size = w3.heap.size := by subst e3; rfl
  have hs4 := hc4.size
  have hs5 := hc5.size
  refine ⟨_, _, _, rfl, trivial, hA9.ok 2 rfl, fun w6 e6 => ⟨trivial, ?_⟩⟩
  have hA6 := hA9.set e6
  refine ⟨hA6.ok 4 rfl, fun w7 e7 => ⟨trivial, ?_⟩⟩
  have hA7 := hA6.set e7
  have hcs : Ch (· = w.heap.size) w9 w7 := (Ch.set (F := (· = w.heap.size)) (p := ⟨w.heap.size, 2, none⟩) e6 rfl).same (Ch.set (F := (· = w.heap.size)) (p := ⟨w.heap.size, 4, none⟩) e7 rfl)
  have hs79 := hcs.size
  exact ⟨_, _, _, _, hA7, (hB9.keep hcs (by omega)), (hr4.keep hcs (fun i _ hi he => by have := hi.1; omega)).mono (fun i hi hN => ⟨by have := hN.1; omega, hi⟩), (hr5.keep hcs (fun i _ hi he => by have := hi.1; omega)).mono (fun i hi hN => ⟨by have := hN.1; omega, hi⟩), ⟨n4, m4, n5, m5⟩, hc9.trans hcs (fun i hi he => by omega)⟩
 ·have hc3 : Ch Non w w3 := hc2.andN (Ch.drew e3)
  refine step_call (Clone_iv (h1.keepN hc3) (by omega) _) ?_
  rintro v w4 ⟨⟨o4, c4, rfl, n4, m4, hr4⟩, hc4⟩
  refine ⟨_, _, _, rfl, trivial, ?_⟩
  refine step_call (Clone_iv ((h2.keepN hc3).keepN hc4) (by omega) _) ?_
  rintro v w9 ⟨⟨o5, c5, rfl, n5, m5, hr5⟩, hc5⟩
  have hr4 := hr4.keepN hc5
  have hA9 := ((hA.drew e3).keepN hc4).keepN hc5
  have hB9 := ((hB.drew e3).keepN hc4).keepN hc5
  have hc9 := (hc3.andN hc4).andN hc5
  have hs3 : w2.heap.size = w3.heap.size := by subst e3; rfl
  have hs4 := hc4.size
  have hs5 := hc5.size
  refine ⟨_, _, _, rfl, trivial, hA9.ok 2 rfl, fun w6 e6 => ⟨trivial, ?_⟩⟩
  have hA6 := hA9.set e6
  refine ⟨hA6.ok 4 rfl, fun w7 e7 => ⟨trivial, ?_⟩⟩
  have hA7 := hA6.set e7
  have hcs : Ch (· = w.heap.size) w9 w7 := (Ch.set (F := (· = w.heap.size)) (p := ⟨w.heap.size, 2, none⟩) e6 rfl).same (Ch.set (F := (· = w.heap.size)) (p := ⟨w.heap.size, 4, none⟩) e7 rfl)
  have hs79 := hcs.size
  exact ⟨_, _, _, _, hA7, (hB9.keep hcs (by omega)), (hr4.keep hcs (fun i _ hi he => by have := hi.1; omega)).mono (fun i hi hN => ⟨by have := hN.1; omega, hi⟩), (hr5.keep hcs (fun i _ hi he => by have := hi.1; omega)).mono (fun i hi hN => ⟨by have := hN.1; omega, hi⟩), ⟨n4, m4, n5, m5⟩, hc9.trans hcs (fun i hi he => by omega)⟩
 ·rintro jk w16 ⟨o4, c4, o5, c5, hA16, hB16, hr4, hr5, hcap, hc16⟩
  refine ⟨_, _, _, _, _, _, _, _, _, ⟨hA16.cell 0 rfl, hA16.cell 1 rfl, hA16.cell 2 rfl, hA16.cell 3 rfl, hA16.cell 4 rfl⟩, ⟨hB16.ok 0 rfl, hB16.ok 1 rfl, hB16.ok 2 rfl, hB16.ok 3 rfl, hB16.ok 4 rfl⟩, fun w17 e17 => ?_⟩
  have e18 : w17 = w16.setCells w1.heap.size 0 (askE (q.1, ⟨o4, c4, o5, c5⟩)) := e17
  have hB17 := hB16.all (askE (q.1, ⟨o4, c4, o5, c5⟩)) rfl e18
  have hcs : Ch (· = w1.heap.size) w16 w17 := Ch.sets e18 rfl
  have hs := hcs.size
  refine ⟨_, _, _, _, _, _, _, _, _, ⟨hB17.cell 0 rfl, hB17.cell 1 rfl, hB17.cell 2 rfl, hB17.cell 3 rfl, hB17.cell 4 rfl⟩, ⟨o4, c4, o5, c5⟩, rfl, ⟨?_, ?_, hcap⟩, hc16.trans hcs (fun i hi he => by omega)⟩
  ·exact (hr4.keep hcs (fun i _ hi he => by have := hi.1; omega)).mono (fun i hi hN => ⟨by have := hN.1; omega, hi⟩)
  ·exact (hr5.keep hcs (fun i _ hi he => by have := hi.1; omega)).mono (fun i hi hN => ⟨by have := hN.1; omega, hi⟩)
theorem Copy_iv (h : AskR w q D) : Calls Tryz.prog i_ward_Copy #[.agg (askE q).toArray] w (Ret fun v w' => ∃ p : AskP, v = .agg (askE (q.1, p)).toArray ∧ AskC w' (q.1, p) (New w w') ∧ Ch Non w w') := by
 obtain ⟨h1, h2, h3, h4⟩ := h
 refine step_call (Copy_any h1 h2 (by omega) (by omega)) ?_
 rintro v w1 ⟨p, rfl, ⟨a, b, c⟩, hc⟩
 exact ⟨p, rfl, ⟨⟨a, b, h3, h4⟩, c⟩, hc⟩
end
section
variable {w w' : World} {o : Option Addr} {v : Value} {xs : List Int} {xss : List (List Int)} {F G : Nat → Prop}
theorem RVget {o : Option Addr} {n cp : Nat} (h : RV w (.slice o n cp) xss F) {j : Nat} (hj : j < xss.length) : ∃ (a : Addr) (o' : Option Addr) (c' : Nat), o = some a ∧ n = xss.length ∧ IV w (.slice o' xss[j].length c') xss[j] F ∧ ∀ (G : Nat → Prop) (w' : World), Ch G w w' → (∀ i, i < w.heap.size → F i → ¬ G i) → w'.cell? (a.add (j * 1)) = some (.slice o' xss[j].length c') := by
 obtain ⟨o2, c2, us, he, h1, h2, hr, ha⟩ := h
 injection he with e1 e2 e3
 subst e1; subst e3
 have hbu : j < us.length := by rw [ha.length]; exact hj
 obtain ⟨ad, had, _, _, _⟩ := hr j us[j] (List.getElem?_eq_getElem hbu)
 have hiv := ha.get j hbu hj
 have hiv' := hiv
 obtain ⟨o', c', hu, _⟩ := hiv
 refine ⟨ad, o', c', had, e2, hu ▸ hiv', fun G w' hc hd => ?_⟩
 obtain ⟨ad2, had2, _, _, hcc⟩ := (hr.keep hc hd) j us[j] (List.getElem?_eq_getElem hbu)
 rw [had] at had2; injection had2 with had2; subst had2
 rw [Nat.mul_one, ← hu]; exact hcc
theorem Grow_int (w : World) (n : Nat) (hn : n ≤ 1000000) : Calls Tryz.prog 147 #[.slice none 0 0, .int .i64 n] w (Ret fun v w' => ∃ (o : Option Addr) (c : Nat), v = .slice o 0 c ∧ Gr Non w w' t_int 1 o 0 c []) := by
 refine slices_Grow.calls _ _ _ _ ?_
 unfold slices_Grow.vc
 have hw0 : IntKind.i64.wrap ((0 : Nat) - (0 : Nat) : Int) = 0 := by rw [wrap_id (by omega) (by omega)]; rfl
 have hw1 : IntKind.i64.wrap ((n : Int) - 0) = n := by rw [wrap_id (by omega) (by omega)]; omega
 rw [hw0, hw1]
 refine iteF (decide_eq_false (by omega)) ⟨fun hg => ?_, fun hg => ⟨_, _, rfl, Gr.nil (Ch.refl _ _)⟩⟩
 have hg : 0 < n := by have := of_decide_eq_true hg; omega
 obtain ⟨inf, z, hinf, hz, hs, hbt, hzs⟩ := el_S_int.inf
 have hr := Lib.run_append_grow_zeros w t_S_int t_int t_S_int t_int inf z .i64 .i64 el_S_int.und (by kernel_rfl) hinf hz none 0 0 [] (by rfl) n hg (by omega) (by omega) (by omega) (by rw [hbt]; omega) (growslice_fits (by omega) (by rw [hbt]; omega))
 simp only [Nat.zero_add] at hr
 have hG1 := grownCap_ge w n 0 t_int
 have hG2 := grownCap_le_maxLen w n 0 t_int (by unfold maxLen; omega)
 generalize grownCap w n 0 t_int = G at hr hG1 hG2
 obtain ⟨row, hrow⟩ : ∃ row : Array Value, row = ([] : List Value).toArray ++ Builtin.zeroCells z.cells n ++ Builtin.zeroCells z.cells (G - n) := ⟨_, rfl⟩
 rw [← hrow] at hr
 have hrl : row.toList.length = G * 1 := by
  have a1 := zeroCells_len z.cells n
  have a2 := zeroCells_len z.cells (G - n)
  rw [hzs] at a1 a2
  rw [hrow, Array.toList_append, Array.toList_append, List.length_append, List.length_append, a1, a2]
  simp only [List.length_nil]
  omega
 obtain ⟨w2, hw2e⟩ : ∃ w2, w2 = w.drew.alloc (.cells row t_int) := ⟨_, rfl⟩
 rw [← hw2e] at hr
 have hB2' := Blk.new hw2e
 have hB2 : Blk w2 w.heap.size row.toList t_int := hB2'
 have hc02 : Ch Non w w2 := (Ch.drew rfl).andN (Ch.alloc hw2e)
 refine ⟨⟨by omega, by omega⟩, some ⟨w.heap.size, 0, none⟩, n, G, w2, hr, ⟨by omega, by omega⟩, _, _, rfl, ⟨by simp, Nat.zero_le _, by omega, .inr ⟨w.heap.size, 0, row.toList, ?_, ⟨Nat.le_refl _, hB2.lt⟩, hB2, by omega, by simp⟩⟩, hc02⟩
 rw [if_neg (by omega)]; simp [add_at]
theorem Concat_spec (h : RV w v xss F) (hl : xss.flatten.length ≤ 1000000) (hn : xss.length ≤ 1000000) : Calls Tryz.prog 111 #[v] w (Ret fun u w' => IV w' u xss.flatten (New w w') ∧ Ch Non w w') := by
 have h' := h
 obtain ⟨po, pc, us, rfl, _⟩ := h
 refine slices_Concat.calls _ _ _ ?_
 unfold slices_Concat.vc
 have hpre : ∀ j, j ≤ xss.length → (xss.take j).flatten.length ≤ 1000000 := fun j hj => by
  have e : xss.flatten = (xss.take j).flatten ++ (xss.drop j).flatten := by rw [← List.flatten_append, List.take_append_drop]
  rw [e, List.length_append] at hl; omega
 have hsn : ∀ j (hj : j < xss.length), (xss.take (j + 1)).flatten = (xss.take j).flatten ++ xss[j] := fun j hj => by
  rw [Step.take_snoc _ _ hj, List.flatten_append]; simp
 refine ⟨fun s i k w' => w' = w ∧ ∃ j : Nat, i = j ∧ j ≤ xss.length ∧ k = xss.length - j ∧ s = ((xss.take j).flatten.length : Int), ⟨_, rfl, 0, rfl, Nat.zero_le _, rfl, rfl⟩, ?_⟩
 rintro jk s i k w1 ⟨rfl, j, rfl, hj, rfl, rfl⟩
 refine ⟨fun hlt => ?_, fun hge => ?_⟩
 ·have hlt : j < xss.length := by have := of_decide_eq_true hlt; omega
  obtain ⟨a, o', c', rfl, _, _, hcell⟩ := RVget h' hlt
  have h1 := hpre (j + 1) hlt
  rw [hsn j hlt, List.length_append] at h1
  have hw : IntKind.i64.wrap (((xss.take j).flatten.length : Int) + (xss[j].length : Int)) = ((xss.take (j + 1)).flatten.length : Int) := by
   rw [hsn j hlt, List.length_append, wrap_id (by omega) (by omega)]; omega
  refine ⟨⟨by omega, by omega⟩, _, _, _, by rw [Int.toNat_natCast]; exact hcell Non w1 (Ch.refl _ _) (fun _ _ _ => id), ?_⟩
  rw [hw]
  exact iteF (decide_eq_false (by omega)) ⟨xss.length - (j + 1), by omega, rfl, j + 1, by rw [wrap_id (by omega) (by omega)]; rfl, hlt, rfl, rfl⟩
 ·have hje : j = xss.length := by have := of_decide_eq_false hge; omega
  subst hje
  rw [List.take_length]
  refine step_call (Grow_int w1 _ hl) ?_
  rintro v w2 ⟨o2, c2, rfl, hg2⟩
  refine ⟨_, _, _, rfl, fun oA oN oC i k w' => ∃ j : Nat, i = j ∧ j ≤ xss.length ∧ k = xss.length - j ∧ oN = (xss.take j).flatten.length ∧ Gr Non w1 w' t_int 1 oA oN oC ((xss.take j).flatten.map (.int .i64)), ⟨_, 0, rfl, Nat.zero_le _, rfl, rfl, by simpa using hg2⟩, ?_⟩
  rintro jk oA oN oC i k w3 ⟨j, rfl, hj, rfl, hoN, hg⟩
  refine ⟨fun hlt => ?_, fun hge => ?_⟩
  ·have hlt : j < xss.length := by have := of_decide_eq_true hlt; omega
   obtain ⟨a, o', c', rfl, _, hiv, hcell⟩ := RVget h' hlt
   have h1 := hpre (j + 1) hlt
   rw [hsn j hlt, List.length_append] at h1
   obtain ⟨o3, c3, e3, _, _, hrd⟩ := hiv.keepN hg.2
   injection e3 with e31 e32 e33
   subst e31
   obtain ⟨o4, c4, w4, hr4, hg4, _⟩ := Gr.app (c2 := c') (m := xss[j].length) el_S_int hg t_S_int hrd (by simp) (fun u hu => by
    obtain ⟨x, _, rfl⟩ := List.mem_map.1 hu
    rfl) (by omega) (by omega)
   refine ⟨⟨by omega, by omega⟩, _, _, _, by rw [Int.toNat_natCast]; exact hcell Non w3 hg.2 (fun _ _ _ => id), o4, _, c4, w4, hr4, xss.length - (j + 1), by omega, j + 1, by rw [wrap_id (by omega) (by omega)]; rfl, hlt, rfl, by rw [hsn j hlt, List.length_append, hoN], ?_⟩
   rw [hsn j hlt, List.map_append]
   exact hg4
  ·have hje : j = xss.length := by have := of_decide_eq_false hge; omega
   subst hje
   rw [List.take_length] at hg hoN
   subst hoN
   exact ⟨⟨oA, oC, rfl, by simpa using hg.1.2.1, hg.1.2.2.1, hg.rd⟩, hg.2⟩
end
section
variable {W w w' : World} {cb pb xb k : Nat} {B B' : Int} {ps ps' : List PageD} {es es' : List EntD} {o : Option Addr} {c n : Nat} {qs : List (RunC × RunD)} {q : RunC × RunD} {R R' : Nat → Nat → Prop} {F G FP FI Fa : Nat → Prop} {xs ys : List Int}
def RunD.toks (r : RunD) : List Int := r.ask.prompt ++ r.said
theorem tokens_spec (h : RunR W w R q) (hl : q.2.said.length ≤ 1000) : Calls Tryz.prog i_crew_run_tokens #[.pointer (some ⟨q.1.rb, 0, none⟩)] w (Ret fun v w' => IV w' v q.2.toks (New w w') ∧ Ch Non w w') := by
 refine crew_run_tokens.calls _ ?_
 unfold crew_run_tokens.vc
 refine ⟨fun w' => Ch Non w w', fun w1 e1 => ⟨Ch.drew e1, _, _, _, fun w' k => (h.blk.keepN k).cell 3 rfl, _, _, _, fun w' k => (h.blk.keepN k).cell 8 rfl, fun w4 e4 => ?_⟩⟩
 have hc1 : Ch Non w w1 := Ch.drew e1
 have hc4 : Ch Non w w4 := hc1.andN (Ch.alloc e4)
 have hB := Blk.new e4
 have hs : w.heap.size = w1.heap.size := by subst e1; rfl
 obtain ⟨⟨a1, a2, a3, a4⟩, a5, a6, _⟩ := h.ask
 have hrv : RV w4 (.slice (some ⟨w1.heap.size, 0, none⟩) 2 2) [q.2.ask.prompt, q.2.said] (fun _ => True) := ⟨_, _, [.slice q.1.ap.po q.2.ask.prompt.length q.1.ap.pc, .slice q.1.so q.2.said.length q.1.sc], rfl, Nat.le_refl _, by decide, hB.rd.mono (fun _ _ _ => trivial),
  .cons ⟨_, _, rfl, a5, a6, (a1.keepN hc4).mono (fun _ _ _ => trivial)⟩ (.cons ⟨_, _, rfl, h.sd.2.1, h.sd.2.2.1, (h.sd.rd.keepN hc4).mono (fun _ _ _ => trivial)⟩ .nil)⟩
 have ht : [q.2.ask.prompt, q.2.said].flatten = q.2.toks := by simp [RunD.toks]
 refine ⟨hc4, step_call (Concat_spec hrv (by rw [ht]; unfold RunD.toks; rw [List.length_append]; dsimp only at a3; omega) (by simp)) ?_⟩
 rintro v w5 ⟨hv, hc5⟩
 rw [ht] at hv
 have hv' := hv
 obtain ⟨o5, c5, rfl, _⟩ := hv
 have hs4 := hc4.size
 exact ⟨_, _, _, rfl, hc4.andN hc5, hv'.mono (fun i _ hi => ⟨by have := hi.1; omega, hi.2⟩), hc4.andN hc5⟩
def askOk (cf : CfD) (k : Nat) (a : AskD) : Bool := decide (1 ≤ a.ver ∧ a.ver ≤ 2147483647) && (subV cf k [] a == 0)
theorem isAsk_spec {bb : Nat} {cf : CfD} {wt : ByteArray} {a : AskD × AskP} {D : Nat → Prop} (h : CrewC W w cb pb xb k B ps es o c qs R) (hk : 1 ≤ k ∧ k ≤ 64) (hb : BrK w bb cf wt) (ha : AskR w a D) :
  Calls Tryz.prog i_crew_Crew_isAsk #[.pointer (some ⟨cb, 0, none⟩), .pointer (some ⟨bb, 0, none⟩), .agg (askE a).toArray] w (Ret fun v w' => v = .bool (askOk cf k a.1) ∧ Ch Non w w') := by
 refine crew_Crew_isAsk.calls _ _ _ _ _ _ _ _ _ _ _ ?_
 unfold crew_Crew_isAsk.vc
 intro w1 e1
 have hA : Blk w1 w.heap.size (askE a) t_ward_Ask := Blk.new e1
 have hc1 : Ch Non w w1 := Ch.alloc e1
 have no : ¬ (1 ≤ a.1.ver ∧ a.1.ver ≤ 2147483647) → Value.bool false = .bool (askOk cf k a.1) ∧ Ch Non w w1 := fun hn => ⟨by unfold askOk; rw [decide_eq_false hn]; rfl, hc1⟩
 refine ⟨_, hA.cell 1 rfl, fun h1 => no (by have := of_decide_eq_true h1; omega), fun h1 => ⟨_, hA.cell 1 rfl, fun h2 => no (by have := of_decide_eq_true h2; omega), fun h2 => ?_⟩⟩
 have h1 := of_decide_eq_false h1
 have h2 := of_decide_eq_false h2
 have hC1 := h.keepN hc1
 refine ⟨fun w' => Ch Non w1 w', fun w2 e2 => ⟨Ch.drew e2, _, fun w' k => (hC1.blk.keepN k).cell 0 rfl, _, _, _, _, _, _, _, _, _, ⟨fun w' k => (hA.keepN k).cell 0 rfl, fun w' k => (hA.keepN k).cell 1 rfl, fun w' k => (hA.keepN k).cell 2 rfl, fun w' k => (hA.keepN k).cell 3 rfl, fun w' k => (hA.keepN k).cell 4 rfl⟩, ?_⟩⟩
 have hd2 : Ch Non w1 w2 := Ch.drew e2
 have hC2 := hC1.keepN hd2
 refine step_call (Pages.Len_spec hC2.px.p.r) ?_
 rintro v w5 ⟨rfl, rfl⟩
 have hlen : ps.length = k := h.px.g.len
 rw [hlen]
 refine ⟨_, rfl, hd2, step_call (Ward.New_spec w5 (k : Int)) ?_⟩
 rintro v w6 ⟨hy, _, hc6⟩
 obtain ⟨rfl, hW⟩ := hy ⟨by omega, by omega⟩
 have hlt : w5.heap.size < w6.heap.size := by obtain ⟨_, _, _, hC⟩ := hW; exact hC.blk.lt
 have hc16 := hd2.andN hc6
 have hX : Ward.WX w5 w6 w5.heap.size (k : Int) [] (· = w5.heap.size) Non := ⟨hW, fun i hi => by subst hi; exact ⟨Nat.le_refl _, hlt⟩, hc6⟩
 refine ⟨_, rfl, hc16, step_call (Ward.Submit_spec hX ((hb.keepN hc1).keepN hc16).r ((ha.keepN hc1).keepN hc16) (by simp)) ?_⟩
 rintro v w7 ⟨rfl, qs', F', D', _, _, _, hc7⟩
 have hs := hc16.size
 have hs1 := hc1.size
 have hs25 : w5.heap.size = w1.heap.size := by subst e2; rfl
 have hc17 : Ch Non w1 w7 := hc16.trans hc7 (fun i hi he => by omega)
 refine ⟨_, rfl, hc17, ?_, hc1.andN hc17⟩
 unfold askOk
 rw [decide_eq_true (by omega)]; rfl
theorem checkV_eq (cf : CfD) (most : Int) (xs : List Int) : checkV cf most xs = Gen.checkP cf most xs := by
 unfold checkV Gen.checkP
 have e1 : (xs.length = 0 ∨ most < 1 ∨ most > 32) ↔ (xs = [] ∨ most < 1 ∨ most > 32) := by rw [List.length_eq_zero_iff]
 have e2 : xs.any (Ward.badT cf.vocab) = true ↔ ¬ ∀ t ∈ xs, 0 ≤ t ∧ t < cf.vocab := by
  rw [List.any_eq_true]
  constructor
  ·rintro ⟨x, hx, hb⟩ h
   have := h x hx
   unfold Ward.badT at hb
   simp at hb
   omega
  ·intro h
   apply Classical.byContradiction
   intro hn
   refine h fun t ht => ?_
   apply Classical.byContradiction
   intro h2
   refine hn ⟨t, ht, ?_⟩
   unfold Ward.badT
   simp
   omega
 by_cases h1 : xs = [] ∨ most < 1 ∨ most > 32
 ·rw [if_pos h1, if_pos (e1.2 h1)]
 ·rw [if_neg h1, if_neg (fun k => h1 (e1.1 k))]
  by_cases h2 : ¬ ∀ t ∈ xs, 0 ≤ t ∧ t < cf.vocab
  ·rw [if_pos h2, if_pos (e2.2 h2)]
  ·rw [if_neg h2, if_neg (fun k => h2 (e2.1 k))]
end
end Go.Proofs.YtkbikekbaboclaaGreat.Crew
set_option linter.unusedVariables false
set_option linter.unusedSimpArgs false
namespace Go.Proofs.YtkbikekbaboclaaGreat.Crew
open Go Go.Proofs V Vc Step Pages Prefix Brain Conf Go.RowKit
open Ward (AskD AskP askE AskR)
section
variable {W w w' : World} {cb pb xb k : Nat} {B B' : Int} {ps ps' : List PageD} {es es' : List EntD} {o : Option Addr} {c n : Nat} {qs : List (RunC × RunD)} {q : RunC × RunD} {R R' : Nat → Nat → Prop} {F G FP FI Fa : Nat → Prop} {xs ys : List Int}
theorem Fam.re (h : Fam w R) (hs : w.heap.size ≤ w'.heap.size) (hOld : ∀ k i, R' k i → R k i ∨ New w w' i) (hNew : ∀ j k, j ≠ k → ∀ i, w.heap.size ≤ i → R' j i → ¬ R' k i) : Fam w' R' := by
 refine ⟨fun k i hi => ?_, fun j m hjm i hj hm => ?_⟩
 ·rcases hOld k i hi with h1 | h1
  ·exact Nat.lt_of_lt_of_le (h.1 k i h1) hs
  ·exact h1.2
 ·by_cases hi : i < w.heap.size
  ·rcases hOld j i hj with h1 | h1
   ·rcases hOld m i hm with h2 | h2
    ·exact h.2 j m hjm i h1 h2
    ·have := h2.1; omega
   ·have := h1.1; omega
  ·exact hNew j m hjm i (by omega) hj hm
theorem idx_new {W w : World} {pb k : Nat} {B : Int} {ps : List PageD} {FP : Nat → Prop} (h : Pool W w pb ps FP) (hg : Pages.Good k B ps) : Calls Tryz.prog i_prefix_New #[.pointer (some ⟨pb, 0, none⟩)] w (Ret fun v w' => ∃ xb, v = .pointer (some ⟨xb, 0, none⟩) ∧ PX W w' pb xb k B ps [] FP (New w w') ∧ Ch Non w w') := by
 refine prefix_New.calls _ ?_
 unfold prefix_New.vc
 intro w1 a1
 have hc : Ch Non w w1 := Ch.alloc a1
 have hB := Blk.new a1
 refine ⟨_, rfl, ⟨h.keepN hc, ⟨none, 0, [], fun k i => k = 0 ∧ i = w.heap.size, ⟨⟨fun k i hi => by have := hB.lt; omega, fun j k hjk i h1 h2 => by omega⟩, ⟨rfl, rfl⟩, hB, Own.nil _ _ _ _, rfl⟩, fun k i hi => ⟨by omega, by have := hB.lt; omega⟩, .nil⟩, hg, Foot.new h.c, fun i hi hf => by have := h.lt i hf; have := hi.1; omega⟩, hc⟩
theorem NewC_spec (hW : Ch Non W w) (n : Int) : Calls Tryz.prog i_crew_New #[.int .i64 n] w (Ret fun v w' => Ch Non w w' ∧ (¬ (1 ≤ n ∧ n ≤ 64) → v = .pointer none) ∧ (1 ≤ n ∧ n ≤ 64 → ∃ (cb pb xb : Nat) (R : Nat → Nat → Prop), v = .pointer (some ⟨cb, 0, none⟩) ∧ CrewC W w' cb pb xb n.toNat 0 (List.replicate n.toNat pg0) [] none 0 [] R ∧ ∀ i, AllF R i → New w w' i)) := by
 refine crew_New.calls _ ?_
 unfold crew_New.vc
 by_cases hn : 1 ≤ n ∧ n ≤ 64
 case neg =>
  refine step_call (Pages.New0_spec w n (by omega)) ?_
  rintro v w1 ⟨rfl, rfl⟩
  exact ⟨_, rfl, iteT rfl ⟨Ch.refl _ _, fun _ => rfl, fun k => absurd k hn⟩⟩
 refine step_call (Pages.New_spec w n hn) ?_
 rintro v w1 ⟨pb, rfl, hP, hc1⟩
 have hPl : Pool W w1 pb (List.replicate n.toNat pg0) (New w w1) := ⟨hP, Foot.new hW, hW.andN hc1⟩
 refine ⟨_, rfl, iteF rfl (step_call (idx_new (k := n.toNat) (B := 0) hPl (Pages.Good.new _)) ?_)⟩
 rintro v w2 ⟨xb, rfl, hX, hc2⟩
 refine ⟨_, rfl, fun w3 e3 => ?_⟩
 have hB := Blk.new e3
 have hc3 : Ch Non w2 w3 := Ch.alloc e3
 have hc13 := (hc1.andN hc2).andN hc3
 have hs1 := hc1.size
 have hs2 := hc2.size
 have hs3 := hB.lt
 have hWs := hW.size
 have hX3 := hX.keepN hc3
 obtain ⟨R, hR⟩ : ∃ R : Nat → Nat → Prop, R = fun k => if k = 0 then (· = w2.heap.size) else if k = 3 then New w w1 else if k = 4 then New w1 w2 else Non := ⟨_, rfl⟩
 have r0 : R 0 = (· = w2.heap.size) := by rw [hR]; rfl
 have r3 : R 3 = New w w1 := by rw [hR]; rfl
 have r4 : R 4 = New w1 w2 := by rw [hR]; rfl
 have what : ∀ k i, R k i → (k = 0 ∧ i = w2.heap.size) ∨ (k = 3 ∧ w.heap.size ≤ i ∧ i < w1.heap.size) ∨ (k = 4 ∧ w1.heap.size ≤ i ∧ i < w2.heap.size) := fun k i hi => by
  by_cases h0 : k = 0
  ·subst h0; rw [r0] at hi; exact .inl ⟨rfl, hi⟩
  by_cases h3 : k = 3
  ·subst h3; rw [r3] at hi; exact .inr (.inl ⟨rfl, hi.1, hi.2⟩)
  by_cases h4 : k = 4
  ·subst h4; rw [r4] at hi; exact .inr (.inr ⟨rfl, hi.1, hi.2⟩)
  rw [hR] at hi
  rw [if_neg h0, if_neg h3, if_neg h4] at hi
  exact hi.elim
 refine ⟨hc13, fun k => absurd hn k, fun _ => ⟨w2.heap.size, pb, xb, R, rfl, ⟨⟨fun k i hi => ?_, fun j m hjm i hj hm => ?_⟩, fun k i hi => ?_, by rw [r0], hB, Own.nil _ _ _ _, by rw [r3, r4]; exact hX3, by simp, fun q hq => by cases hq⟩, fun i ⟨k, hi⟩ => ?_⟩⟩
 ·have := what k i hi; omega
 ·have := what j i hj; have := what m i hm; omega
 ·have := what k i hi; omega
 ·have := what k i hi; exact ⟨by omega, by omega⟩
def joinV (cf : CfD) (k : Nat) (rs : List RunD) (a : AskD) : Int := if askOk cf k a = false then 1 else if findRn rs a.id ≥ 0 then 9 else if rs.length ≥ 8 then 10 else 0
def newRun (cf : CfD) (wt : ByteArray) (a : AskD) (pgs : List Int) : RunD := ⟨a, cf, wt, pgs, 4 * pgs.length, []⟩
def shareQ (ps : List PageD) (l : List Int) : List PageD := if allB ps l then shareL ps l else ps
set_option maxHeartbeats 2000000 in
theorem Join_spec {bb : Nat} {cf : CfD} {wt : ByteArray} {a : AskD × AskP} {D : Nat → Prop} (h : CrewC W w cb pb xb k B ps es o c qs R) (hk : 1 ≤ k ∧ k ≤ 64) (hB : 0 ≤ B ∧ B ≤ 1000000000) (hn : qs.length < 1000) (hes : es.length < 1000) (hb : BrK W bb cf wt) (ha : AskC w a D) (hD : ∀ i, i < w.heap.size → D i → ¬ MutF R i) :
  Calls Tryz.prog i_crew_Crew_Join #[.pointer (some ⟨cb, 0, none⟩), .pointer (some ⟨bb, 0, none⟩), .agg (askE a).toArray] w (Ret fun v w' => v = .int .i64 (joinV cf k (qs.map (·.2)) a.1) ∧ Ch (MutF R) w w' ∧ (joinV cf k (qs.map (·.2)) a.1 ≠ 0 → CrewC W w' cb pb xb k B ps es o c qs R) ∧
   (joinV cf k (qs.map (·.2)) a.1 = 0 → ∃ (o' : Option Addr) (c' : Nat) (g : RunC) (R' : Nat → Nat → Prop), CrewC W w' cb pb xb k (B + a.1.prompt.length) (shareQ ps (findR es a.1.ver a.1.prompt).2) (findR es a.1.ver a.1.prompt).1 o' c' (qs ++ [(g, newRun cf wt a.1 (findR es a.1.ver a.1.prompt).2)]) R' ∧ (∀ i, R 2 i → R' 2 i) ∧ ∀ i, AllF R' i → Ext (AllF R) w w' i)) := by
 refine crew_Crew_Join.calls _ _ _ _ _ _ _ _ _ _ _ ?_
 unfold crew_Crew_Join.vc
 intro w1 e1
 have hA : Blk w1 w.heap.size (askE a) t_ward_Ask := Blk.new e1
 have hc1 : Ch Non w w1 := Ch.alloc e1
 have h1 := h.keepN hc1
 have hbK : BrK w1 bb cf wt := hb.keepN (h.ch.andN hc1)
 have no : ∀ {w'} {e : Int}, Ch Non w w' → joinV cf k (qs.map (·.2)) a.1 = e → e ≠ 0 → Value.int IntKind.i64 e = .int .i64 (joinV cf k (qs.map (·.2)) a.1) ∧ Ch (MutF R) w w' ∧ (joinV cf k (qs.map (·.2)) a.1 ≠ 0 → CrewC W w' cb pb xb k B ps es o c qs R) ∧ (joinV cf k (qs.map (·.2)) a.1 = 0 → ∃ (o' : Option Addr) (c' : Nat) (g : RunC) (R' : Nat → Nat → Prop), CrewC W w' cb pb xb k (B + a.1.prompt.length) (shareQ ps (findR es a.1.ver a.1.prompt).2) (findR es a.1.ver a.1.prompt).1 o' c' (qs ++ [(g, newRun cf wt a.1 (findR es a.1.ver a.1.prompt).2)]) R' ∧ (∀ i, R 2 i → R' 2 i) ∧ ∀ i, AllF R' i → Ext (AllF R) w w' i) := fun {w' e} hc he h0 => ⟨by rw [he], hc.any, fun _ => h.keepN hc, fun k => absurd (he ▸ k) h0⟩
 refine ⟨_, _, _, _, _, _, _, _, _, ⟨hA.cell 0 rfl, hA.cell 1 rfl, hA.cell 2 rfl, hA.cell 3 rfl, hA.cell 4 rfl⟩, step_call (isAsk_spec h1 hk hbK (ha.1.keepN hc1)) ?_⟩
 rintro v w2 ⟨rfl, hc2⟩
 have hc02 := hc1.andN hc2
 refine ⟨_, rfl, fun hy => ?_, fun hy => ?_⟩
 ·exact no hc02 (by unfold joinV; rw [if_pos (by simpa using hy)]) (by decide)
 have hy : ¬ askOk cf k a.1 = false := by simpa using hy
 have hA2 := hA.keepN hc2
 refine ⟨_, hA2.cell 0 rfl, step_call (at_spec (h.keepN hc02) hn a.1.id) ?_⟩
 rintro v w3 ⟨rfl, hc3⟩
 have hc03 := hc02.andN hc3
 have hA3 := hA2.keepN hc3
 refine ⟨_, rfl, fun hx => ?_, fun hx => ?_⟩
 ·exact no hc03 (by unfold joinV; rw [if_neg hy, if_pos (of_decide_eq_true hx)]) (by decide)
 have hx := of_decide_eq_false hx
 have h3 := h.keepN hc03
 refine ⟨_, _, _, h3.blk.cell 2 rfl, fun hf => ?_, fun hf => ?_⟩
 ·exact no hc03 (by unfold joinV; rw [if_neg hy, if_neg hx, if_pos (by have := of_decide_eq_true hf; rw [List.length_map]; omega)]) (by decide)
 have hf := of_decide_eq_false hf
 have hz : joinV cf k (qs.map (·.2)) a.1 = 0 := by unfold joinV; rw [if_neg hy, if_neg hx, if_neg (by rw [List.length_map]; omega)]
 rw [hz]
 clear no
 have hs1 : w.heap.size < w1.heap.size := hA.lt
 have hs23 := (hc2.andN hc3).size
 have aR : ∀ m, ¬ R m w.heap.size := fun m hm => Nat.lt_irrefl _ (h.fam.1 m _ hm)
 have hcb : ∀ m, m ≠ 0 → ¬ R m cb := fun m hm0 hm => h.fam.2 0 m (by omega) cb h.z hm
 have n43 : ¬ (R 4 w.heap.size ∨ R 3 w.heap.size) := fun h => h.elim (aR _) (aR _)
 have c43 : ¬ (R 4 cb ∨ R 3 cb) := fun h => h.elim (hcb 4 (by omega)) (hcb 3 (by omega))
 refine ⟨fun w' => Ch (fun i => R 4 i ∨ R 3 i) w3 w', fun w4 e4 => ⟨Ch.drew e4, _, _, _, _, _, _, _, _, _, ⟨fun w' k => (hA3.keep k n43).cell 0 rfl, fun w' k => (hA3.keep k n43).cell 1 rfl, fun w' k => (hA3.keep k n43).cell 2 rfl, fun w' k => (hA3.keep k n43).cell 3 rfl, fun w' k => (hA3.keep k n43).cell 4 rfl⟩, _, fun w' k => (h3.blk.keep k c43).cell 1 rfl, _, fun w' k => (hA3.keep k n43).cell 1 rfl, _, _, _, fun w' k => (hA3.keep k n43).cell 2 rfl, ?_⟩⟩
 have hc4 : Ch Non w3 w4 := Ch.drew e4
 have hc04 := hc03.andN hc4
 have hs4 : w3.heap.size = w4.heap.size := by subst e4; rfl
 refine step_call (Copy_iv (ha.keepN hc04).1) ?_
 rintro v w9 ⟨p, rfl, hP9, hc9⟩
 have hc09 := hc04.andN hc9
 have h9 := h.keepN hc09
 have hs9 := hc9.size
 refine ⟨_, _, _, _, _, _, _, _, _, rfl, (hc4.andN hc9).any, ?_⟩
 refine step_call (Find_own h9.px hB hes ((ha.1.keepN hc09).1) (fun i hi hd h4 => by
  have hlt := h.fam.1 4 i h4
  exact hD i hlt hd ⟨4, by omega, h4⟩) (by have := ha.1.2.2.1; omega) a.1.ver ha.2.1) ?_
 rintro v w10 ⟨FI', FO, oA, oC, rfl, hO10, hOn, hX10, hI', hap, hc10⟩
 obtain ⟨hC10, hA10, _⟩ := h9.pool (FP := R 3) hX10 (fun _ hi => .inl hi) hI' hc10
 have hs10 := hc10.size
 have hc310 : Ch (fun i => R 4 i ∨ R 3 i) w3 w10 := (hc4.andN hc9).any.same hc10
 refine ⟨_, _, _, rfl, hc310, fun w11 e11 => ⟨hc310.andN (Ch.alloc e11), ?_⟩⟩
 have hB11 := Blk.new e11
 have hc11 : Ch Non w10 w11 := Ch.alloc e11
 have hs11 := hB11.lt
 obtain ⟨rb, hrb⟩ : ∃ rb : Nat, rb = w10.heap.size := ⟨_, rfl⟩
 rw [← hrb] at hB11 hs11 ⊢
 refine ⟨_, _, _, hB11.cell 6 rfl, hB11.ok 7 rfl, fun w12 e12 => ?_⟩
 have hpl : (findR es a.1.ver a.1.prompt).2.length ≤ 1000 := by
  have := (findG_len a.1.ver a.1.prompt a.1.prompt.length 4 es []).2
  have h3 := ha.1.2.2.1
  unfold findR
  simp only [List.length_nil, Nat.zero_add] at this
  omega
 have hwr : IntKind.i64.wrap (((findR es a.1.ver a.1.prompt).2.length : Int) * 4) = ((4 * (findR es a.1.ver a.1.prompt).2.length : Nat) : Int) := by rw [wrap_id (by omega) (by omega)]; omega
 rw [hwr] at e12
 generalize hfr : findR es a.1.ver a.1.prompt = f at *
 obtain ⟨g, hg⟩ : ∃ g : RunC, g = ⟨rb, bb, p, oA, oC, none, 0⟩ := ⟨_, rfl⟩
 have hB12 : Blk w12 rb (rnE g (newRun cf wt a.1 f.2)) t_crew_run := by
  have := hB11.set e12
  rw [hg]
  exact this
 have hc12 : Ch (· = rb) w11 w12 := Ch.set e12 rfl
 have hs12 : w12.heap.size = w11.heap.size := by subst e12; simp [World.setCell]
 have hc1012 : Ch Non w10 w12 := hc11.trans hc12 (fun i hi he => by omega)
 have h12 := hC10.keepN hc1012
 refine ⟨_, _, _, h12.blk.cell 2 rfl, fun w13 e13 => ?_⟩
 have hO12 : Own w12 t_P_crew_run 1 o qs.length c (qs.map ptrE) (R 1) := h12.own
 have hgrb : g.rb = rb := by rw [hg]
 obtain ⟨o', c', w14, hr14, hO14, hc14⟩ := Own.pushT (enc := ptrE) (xs := qs) el_S_P_crew_run hO12 t_S_P_crew_run (g, newRun cf wt a.1 f.2) (w1 := w13) (by rw [e13]; unfold ptrE; rw [hgrb]) rfl (by unfold maxLen; omega) (by omega)
 have hs14 := hc14.size
 have hB14 := h12.blk.keep hc14 (hcb 1 (by omega))
 refine ⟨o', _, c', w14, hr14, hB14.ok 2 rfl, fun w15 e15 => ?_⟩
 have hB15 := hB14.set e15
 have hc15 : Ch (R 0) w14 w15 := Ch.set e15 h.z
 have hs15 : w15.heap.size = w14.heap.size := by subst e15; simp [World.setCell]
 have hc1215 : Ch (fun i => R 0 i ∨ R 1 i) w12 w15 := (hc14.mono (fun _ _ h => .inr h)).same (hc15.mono (fun _ _ h => .inl h))
 have hc015 : Ch (MutF R) w w15 := ((hc09.any.trans hc10 (fun i _ hi => by rcases hi with hi | hi <;> exact ⟨_, by omega, hi⟩)).andN hc1012).trans hc1215 (fun i _ hi => by rcases hi with hi | hi <;> exact ⟨_, by omega, hi⟩)
 have hlt : ∀ m i, R m i → i < w.heap.size := h.fam.1
 refine ⟨rfl, hc015, fun hn => absurd rfl hn, fun _ => ?_⟩
 -- the regions
 obtain ⟨R', hR'⟩ : ∃ R' : Nat → Nat → Prop, R' = fun m => if m = 1 then Ext (R 1) w12 w14 else if m = 2 then (fun i => R 2 i ∨ New w4 w9 i) else if m = 4 then FI' else if m = 5 + 3 * rb then (· = rb) else if m = 6 + 3 * rb then FO else if m = 7 + 3 * rb then Non else R m := ⟨_, rfl⟩
 have r1 : R' 1 = Ext (R 1) w12 w14 := by rw [hR']; rfl
 have r2 : R' 2 = fun i => R 2 i ∨ New w4 w9 i := by rw [hR']; rfl
 have r4 : R' 4 = FI' := by rw [hR']; rfl
 have r5 : R' (5 + 3 * rb) = (· = rb) := by
  rw [hR']; show (if _ then _ else _) = _
  rw [if_neg (by omega), if_neg (by omega), if_neg (by omega), if_pos rfl]
 have r6 : R' (6 + 3 * rb) = FO := by
  rw [hR']; show (if _ then _ else _) = _
  rw [if_neg (by omega), if_neg (by omega), if_neg (by omega), if_neg (by omega), if_pos rfl]
 have r7 : R' (7 + 3 * rb) = Non := by
  rw [hR']; show (if _ then _ else _) = _
  rw [if_neg (by omega), if_neg (by omega), if_neg (by omega), if_neg (by omega), if_neg (by omega), if_pos rfl]
 have rk : ∀ m, m ≠ 1 → m ≠ 2 → m ≠ 4 → m ≠ 5 + 3 * rb → m ≠ 6 + 3 * rb → m ≠ 7 + 3 * rb → R' m = R m := fun m h1 h2 h4 h5 h6 h7 => by
  rw [hR']; show (if _ then _ else _) = _
  rw [if_neg h1, if_neg h2, if_neg h4, if_neg h5, if_neg h6, if_neg h7]
 have what : ∀ m i, R' m i → R m i ∨ (m = 1 ∧ w12.heap.size ≤ i ∧ i < w14.heap.size) ∨ (m = 2 ∧ w4.heap.size ≤ i ∧ i < w9.heap.size) ∨ (m = 4 ∧ FI' i ∧ w9.heap.size ≤ i ∧ i < w10.heap.size) ∨ (m = 5 + 3 * rb ∧ i = rb) ∨ (m = 6 + 3 * rb ∧ FO i ∧ w9.heap.size ≤ i ∧ i < w10.heap.size) := fun m i hi => by
  by_cases e1 : m = 1
  ·subst e1; rw [r1] at hi
   rcases hi with hi | hi
   ·exact .inl hi
   ·exact .inr (.inl ⟨rfl, hi.1, hi.2⟩)
  by_cases e2 : m = 2
  ·subst e2; rw [r2] at hi
   rcases hi with hi | hi
   ·exact .inl hi
   ·exact .inr (.inr (.inl ⟨rfl, hi.1, hi.2⟩))
  by_cases e4' : m = 4
  ·subst e4'; rw [r4] at hi
   rcases hI' i hi with h1 | h1
   ·exact .inl h1
   ·exact .inr (.inr (.inr (.inl ⟨rfl, hi, h1.1, h1.2⟩)))
  by_cases e5 : m = 5 + 3 * rb
  ·subst e5; rw [r5] at hi; exact .inr (.inr (.inr (.inr (.inl ⟨rfl, hi⟩))))
  by_cases e6 : m = 6 + 3 * rb
  ·subst e6; rw [r6] at hi; exact .inr (.inr (.inr (.inr (.inr ⟨rfl, hi, (hOn i hi).1, (hOn i hi).2⟩))))
  by_cases e7 : m = 7 + 3 * rb
  ·subst e7; rw [r7] at hi; exact hi.elim
  rw [rk m e1 e2 e4' e5 e6 e7] at hi
  exact .inl hi
 have hOld : ∀ m i, R' m i → R m i ∨ New w w15 i := fun m i hi => by
  rcases what m i hi with h1 | h1 | h1 | h1 | h1 | h1
  ·exact .inl h1
  ·exact .inr ⟨by omega, by omega⟩
  ·exact .inr ⟨by omega, by omega⟩
  ·obtain ⟨_, _, _, _⟩ := h1; exact .inr ⟨by omega, by omega⟩
  ·exact .inr ⟨by omega, by omega⟩
  ·obtain ⟨_, _, _, _⟩ := h1; exact .inr ⟨by omega, by omega⟩
 have hfam : Fam w15 R' := by
  refine Fam.re h.fam (by omega) hOld (fun j m hjm i hi hj hm => ?_)
  rcases what j i hj with h1 | h1 | h1 | h1 | h1 | h1
  ·have := hlt j i h1; omega
  all_goals rcases what m i hm with h2 | h2 | h2 | h2 | h2 | h2
  all_goals first
   | (have := hlt m i h2; omega)
   | (obtain ⟨a1, a2, a3, a4⟩ := h1; obtain ⟨b1, b2, b3, b4⟩ := h2; first | omega | exact hap i b2 a2 | exact hap i a2 b2)
   | (obtain ⟨a1, a2, a3, a4⟩ := h1; omega)
   | (obtain ⟨b1, b2, b3, b4⟩ := h2; omega)
   | omega
 have lowE : ∀ j, j = 3 ∨ j = 4 → ∀ i, R' j i → ¬ (R 0 i ∨ R 1 i) := fun j hj i hi hg => by
  rcases what j i hi with h1 | h1 | h1 | h1 | h1 | h1
  ·rcases hg with hg | hg
   ·exact h.fam.2 j 0 (by omega) i h1 hg
   ·exact h.fam.2 j 1 (by omega) i h1 hg
  ·omega
  ·omega
  ·obtain ⟨_, _, _, _⟩ := h1
   rcases hg with hg | hg
   ·have := hlt 0 i hg; omega
   ·have := hlt 1 i hg; omega
  ·omega
  ·omega
 have newE : ∀ i, w.heap.size ≤ i → ¬ (R 0 i ∨ R 1 i) := fun i hi hg => by
  rcases hg with hg | hg
  ·have := hlt 0 i hg; omega
  ·have := hlt 1 i hg; omega
 refine ⟨o', c', g, R', ⟨hfam, fun m i hi => ?_, by rw [rk 0 (by omega) (by omega) (by omega) (by omega) (by omega) (by omega)]; exact h.z, ?_, ?_, ?_, ?_, fun q hq => ?_⟩, fun i hi => by rw [r2]; exact .inl hi, fun i ⟨m, hi⟩ => ?_⟩
 ·rcases hOld m i hi with h1 | h1
  ·exact h.f m i h1
  ·have := h1.1; have := h.ch.size; omega
 ·rw [List.length_append]; exact hB15
 ·rw [List.length_append, r1]
  refine hO14.keep hc15 (fun i _ hi h0 => ?_)
  rcases hi with hi | hi
  ·exact h.fam.2 1 0 (by omega) i hi h0
  ·have := hlt 0 i h0; have := hi.1; omega
 ·rw [rk 3 (by omega) (by omega) (by omega) (by omega) (by omega) (by omega), r4]
  have hx12 := hX10.keepN hc1012
  have l3 : ∀ i, R 3 i → ¬ (R 0 i ∨ R 1 i) := fun i hi => lowE 3 (.inl rfl) i (by rw [rk 3 (by omega) (by omega) (by omega) (by omega) (by omega) (by omega)]; exact hi)
  have l4 : ∀ i, FI' i → ¬ (R 0 i ∨ R 1 i) := fun i hi => lowE 4 (.inr rfl) i (by rw [r4]; exact hi)
  exact ⟨⟨hx12.p.r.keep hc1215 (fun i _ hi => l3 i hi), hx12.p.f.le hc1215.size, hx12.p.c.trans hc1215 (fun i hi hg => by
   rcases hg with hg | hg
   ·exact absurd (h.f 0 i hg) (Nat.not_le.2 hi)
   ·exact absurd (h.f 1 i hg) (Nat.not_le.2 hi))⟩, hx12.x.keep hc1215 (fun i _ hi => l4 i hi), hx12.g, hx12.f.le hc1215.size, hx12.ap⟩
 ·rw [List.map_append, List.nodup_append]
  refine ⟨h.nd, by simp, fun a' ha' b' hb' => ?_⟩
  obtain ⟨q, hq, rfl⟩ := List.mem_map.1 ha'
  simp only [List.map_cons, List.map_nil, List.mem_singleton] at hb'
  subst hb'
  have := (h.rn q hq).blk.lt
  rw [hgrb]; omega
 ·rcases List.mem_append.1 hq with hq | hq
  ·have hql := (h.rn q hq).blk.lt
   have hrq := hC10.keepN hc1012
   have hr12 := hrq.rn q hq
   have q5 : R' (5 + 3 * q.1.rb) = R (5 + 3 * q.1.rb) := rk _ (by omega) (by omega) (by omega) (by omega) (by omega) (by omega)
   have q6 : R' (6 + 3 * q.1.rb) = R (6 + 3 * q.1.rb) := rk _ (by omega) (by omega) (by omega) (by omega) (by omega) (by omega)
   have q7 : R' (7 + 3 * q.1.rb) = R (7 + 3 * q.1.rb) := rk _ (by omega) (by omega) (by omega) (by omega) (by omega) (by omega)
   have u : ∀ m, m ≠ 3 → m ≠ 4 → upR R (R 3) FI' m = R m := fun m h3 h4 => upR_at h3 h4
   have apk : ∀ m, m ≠ 0 → m ≠ 1 → ∀ i, upR R (R 3) FI' m i → m ≠ 3 → m ≠ 4 → ¬ (R 0 i ∨ R 1 i) := fun m h0 h1 i hi h3 h4 hg => by
    rw [u m h3 h4] at hi
    rcases hg with hg | hg
    ·exact h.fam.2 m 0 h0 i hi hg
    ·exact h.fam.2 m 1 h1 i hi hg
   exact hr12.keep hc1215 (fun i hi => apk 2 (by omega) (by omega) i hi (by omega) (by omega)) (fun i hi => apk _ (by omega) (by omega) i hi (by omega) (by omega)) (fun i hi => apk _ (by omega) (by omega) i hi (by omega) (by omega)) (fun i hi => apk _ (by omega) (by omega) i hi (by omega) (by omega))
    (fun i hi => by rw [u 2 (by omega) (by omega)] at hi; rw [r2]; exact .inl hi) (by rw [q5, u _ (by omega) (by omega)]) (by rw [q6, u _ (by omega) (by omega)]) (by rw [q7, u _ (by omega) (by omega)])
  ·rw [List.mem_singleton] at hq
   subst hq
   have hne : ¬ (R 0 rb ∨ R 1 rb) := newE rb (by omega)
   refine ⟨?_, ?_, ?_, ?_, ?_, ?_⟩
   ·show Blk w15 g.rb _ _
    rw [hgrb]; exact hB12.keep hc1215 hne
   ·show R' (5 + 3 * g.rb) g.rb
    rw [hgrb, r5]
   ·show BrK W g.bb cf wt
    rw [hg]; exact hb
   ·show AskC w15 (a.1, g.ap) (R' 2)
    rw [hg, r2]
    have hp10 := hP9.keep hc10 (fun i _ hi hg => by
     rcases hg with hg | hg
     ·have := hlt 4 i hg; have := hi.1; omega
     ·have := hlt 3 i hg; have := hi.1; omega)
    exact ((hp10.keepN hc1012).keep hc1215 (fun i _ hi => newE i (by have := hi.1; omega))).mono (fun i _ hi => .inr hi)
   ·show Own w15 t_int 1 g.po f.2.length g.pc (f.2.map (.int .i64)) (R' (6 + 3 * g.rb))
    rw [hgrb, r6, hg]
    exact (hO10.keepN hc1012).keep hc1215 (fun i _ hi => newE i (by have := (hOn i hi).1; omega))
   ·show Own w15 t_int 1 g.so 0 g.sc ([].map (.int .i64)) (R' (7 + 3 * g.rb))
    rw [hg]; exact Own.nil _ _ _ _
 ·rcases hOld m i hi with h1 | h1
  ·exact .inl ⟨_, h1⟩
  ·exact .inr h1
end
end Go.Proofs.YtkbikekbaboclaaGreat.Crew
set_option linter.unusedVariables false
set_option linter.unusedSimpArgs false
namespace Go.Proofs.YtkbikekbaboclaaGreat.Crew
open Go Go.Proofs V Vc Step Pages Prefix Brain Conf Go.RowKit
open Ward (AskD AskP askE AskR ask_one asks_one)
structure PgS where
 ps : List PageD
 es : List EntD
 rs : List RunD
 aw : List AskD
 ok : Bool
def addPg (r : RunD) (id : Int) : RunD := { r with pages := r.pages ++ [id] }
def pageF (i : Nat) : Nat → PgS → PgS
 | 0, s => s
 | f + 1, s => match s.rs[i]? with
  | none => s
  | some r =>
   if r.done ≠ 4 * r.pages.length then s
   else if (takeV s.ps r.ask.ver).2 = 0 then { s with ps := takeP s.ps r.ask.ver, rs := s.rs.set i (addPg r (takeV s.ps r.ask.ver).1) }
   else if evI s.ps s.es < s.es.length then pageF i f { s with ps := evP s.ps s.es, es := s.es.eraseIdx (evI s.ps s.es) }
   else match s.rs[s.rs.length - 1]? with
    | none => s
    | some y =>
     if s.rs.length - 1 = i then ⟨dropQL s.ps y.pages, s.es, s.rs.eraseIdx (s.rs.length - 1), s.aw ++ [y.ask], false⟩
     else pageF i f ⟨dropQL s.ps y.pages, s.es, s.rs.eraseIdx (s.rs.length - 1), s.aw ++ [y.ask], s.ok⟩
section
variable {W w w' w0 : World} {cb pb xb k tb : Nat} {B B' : Int} {ps ps' : List PageD} {es es' : List EntD} {o : Option Addr} {c n : Nat} {qs : List (RunC × RunD)} {q : RunC × RunD} {R R' : Nat → Nat → Prop} {F G FP FI Fa : Nat → Prop} {xs ys : List Int}
theorem takeP_no {ps : List PageD} {v : Int} (h : (takeV ps v).2 ≠ 0) : takeP ps v = ps := by
 unfold takeV at h
 unfold takeP
 split
 ·rfl
 ·rename_i hv
  rw [if_neg hv] at h
  split at h
  ·exact absurd rfl h
  ·rename_i hl
   exact List.set_eq_of_length_le (by omega)
theorem evP_no {ps : List PageD} {es : List EntD} (h : ¬ evI ps es < es.length) : evP ps es = ps ∧ es.eraseIdx (evI ps es) = es := by
 refine ⟨?_, List.eraseIdx_of_length_le (by omega)⟩
 unfold evP
 rw [List.getElem?_eq_none (by omega)]
theorem CrewC.runPut (h : CrewC W w cb pb xb k B ps es o c qs R) {i : Nat} (hi : i < qs.length) {rb j : Nat} (hrb : qs[i].1.rb = rb) {g : RunC} {r : RunD} {v : Value} {w1 : World} {PG SD : Nat → Prop} (hg : g.rb = rb ∧ g.bb = qs[i].1.bb ∧ g.ap = qs[i].1.ap) (hr : r.ask = qs[i].2.ask ∧ r.c = qs[i].2.c ∧ r.wt = qs[i].2.wt)
  (hc : Ch (fun m => R (6 + 3 * rb) m ∨ R (7 + 3 * rb) m) w w1) (hp : Own w1 t_int 1 g.po r.pages.length g.pc (r.pages.map (.int .i64)) PG) (hsd : Own w1 t_int 1 g.so r.said.length g.sc (r.said.map (.int .i64)) SD)
  (hPG : ∀ m, PG m → Ext (R (6 + 3 * rb)) w w1 m) (hSD : ∀ m, SD m → Ext (R (7 + 3 * rb)) w w1 m) (hap : ∀ m, PG m → ¬ SD m) (hcs : (rnE qs[i].1 qs[i].2).set j v = rnE g r) (e : w' = w1.setCell ⟨rb, j, none⟩ v) :
  ∃ R', CrewC W w' cb pb xb k B ps es o c (qs.set i (g, r)) R' ∧ (∀ i, AllF R' i → Ext (AllF R) w w' i) ∧ R' 2 = R 2 ∧ Ch (MutF R) w w' := by
 have hrn := h.rn _ (List.getElem_mem hi)
 have h5z : R (5 + 3 * rb) rb := hrb ▸ hrn.z
 have hs := hc.size
 have hc2 : Ch (R (5 + 3 * rb)) w1 w' := Ch.set e h5z
 have hs2 : w'.heap.size = w1.heap.size := by subst e; simp [World.setCell]
 have hcc : Ch (fun m => R (5 + 3 * rb) m ∨ R (6 + 3 * rb) m ∨ R (7 + 3 * rb) m) w w' := (hc.mono (fun _ _ h => .inr h)).same (hc2.mono (fun _ _ h => .inl h))
 have ap : ∀ {j}, j ≠ 5 + 3 * rb → j ≠ 6 + 3 * rb → j ≠ 7 + 3 * rb → ∀ i, R j i → ¬ (R (5 + 3 * rb) i ∨ R (6 + 3 * rb) i ∨ R (7 + 3 * rb) i) := fun {j} h5 h6 h7 i hi hg => by
  rcases hg with hg | hg | hg
  ·exact h.fam.2 j _ h5 i hi hg
  ·exact h.fam.2 j _ h6 i hi hg
  ·exact h.fam.2 j _ h7 i hi hg
 obtain ⟨R', hR'⟩ : ∃ R' : Nat → Nat → Prop, R' = fun m => if m = 6 + 3 * rb then PG else if m = 7 + 3 * rb then SD else R m := ⟨_, rfl⟩
 have r6 : R' (6 + 3 * rb) = PG := by rw [hR']; exact if_pos rfl
 have r7 : R' (7 + 3 * rb) = SD := by
  rw [hR']; show (if _ then _ else _) = _
  rw [if_neg (by omega), if_pos rfl]
 have rk : ∀ m, m ≠ 6 + 3 * rb → m ≠ 7 + 3 * rb → R' m = R m := fun m h6 h7 => by
  rw [hR']; show (if _ then _ else _) = _
  rw [if_neg h6, if_neg h7]
 have hOld : ∀ m i, R' m i → R m i ∨ ((m = 6 + 3 * rb ∧ PG i ∨ m = 7 + 3 * rb ∧ SD i) ∧ New w w' i) := fun m i hi => by
  by_cases h6 : m = 6 + 3 * rb
  ·subst h6; rw [r6] at hi
   exact (hPG i hi).imp id (fun h => ⟨.inl ⟨rfl, hi⟩, h.1, by have := h.2; omega⟩)
  by_cases h7 : m = 7 + 3 * rb
  ·subst h7; rw [r7] at hi
   exact (hSD i hi).imp id (fun h => ⟨.inr ⟨rfl, hi⟩, h.1, by have := h.2; omega⟩)
  rw [rk m h6 h7] at hi; exact .inl hi
 have hlt := h.fam.1
 have hfam : Fam w' R' := Fam.re h.fam (by omega) (fun m i hi => (hOld m i hi).imp id (fun h => h.2)) (fun j m hjm i hi hj hm => by
  rcases hOld j i hj with h1 | ⟨h1, _⟩
  ·have := hlt j i h1; omega
  ·rcases hOld m i hm with h2 | ⟨h2, _⟩
   ·have := hlt m i h2; omega
   ·rcases h1 with ⟨a1, b1⟩ | ⟨a1, b1⟩ <;> rcases h2 with ⟨a2, b2⟩ | ⟨a2, b2⟩
    ·omega
    ·exact hap i b1 b2
    ·exact hap i b2 b1
    ·omega)
 have keepQ : ∀ q ∈ qs, q.1.rb ≠ rb → RunR W w' R' q := fun q hq hne =>
  (h.rn q hq).keep hcc (ap (by omega) (by omega) (by omega)) (ap (by omega) (by omega) (by omega)) (ap (by omega) (by omega) (by omega)) (ap (by omega) (by omega) (by omega)) (fun i hi => by rw [rk 2 (by omega) (by omega)]; exact hi) (rk _ (by omega) (by omega)) (rk _ (by omega) (by omega)) (rk _ (by omega) (by omega))
 refine ⟨R', ⟨hfam, fun m i hi => ?_, by rw [rk 0 (by omega) (by omega)]; exact h.z, ?_, ?_, ?_, ?_, fun q hq => ?_⟩, fun i ⟨m, hi⟩ => ?_, rk 2 (by omega) (by omega), hcc.mono (fun i _ hi => by rcases hi with hi | hi | hi <;> exact ⟨_, by omega, hi⟩)⟩
 ·rcases hOld m i hi with h1 | h1
  ·exact h.f m i h1
  ·have := h1.2.1; have := h.ch.size; omega
 ·rw [List.length_set]; exact h.blk.keep hcc (ap (by omega) (by omega) (by omega) _ h.z)
 ·rw [List.length_set, rk 1 (by omega) (by omega), show (qs.set i (g, r)).map ptrE = qs.map ptrE from by
   rw [List.map_set]
   refine List.ext_getElem? fun m => ?_
   by_cases hm : m = i
   ·subst hm; simp [List.getElem?_set, hi, ptrE, hg.1, hrb]
   ·rw [List.getElem?_set_ne (by omega)]]
  exact h.own.keep hcc (fun i _ hi => ap (by omega) (by omega) (by omega) i hi)
 ·rw [rk 3 (by omega) (by omega), rk 4 (by omega) (by omega)]
  exact ⟨⟨h.px.p.r.keep hcc (fun i _ hi => ap (by omega) (by omega) (by omega) i hi), h.px.p.f.le (by omega), h.px.p.c.trans hcc (fun i hi hg => by
   rcases hg with hg | hg | hg <;> exact absurd (h.f _ i hg) (Nat.not_le.2 hi))⟩, h.px.x.keep hcc (fun i _ hi => ap (by omega) (by omega) (by omega) i hi), h.px.g, h.px.f.le (by omega), h.px.ap⟩
 ·rw [List.map_set]
  show ((qs.map (·.1.rb)).set i g.rb).Nodup
  rw [hg.1, show (qs.map (·.1.rb)).set i rb = qs.map (·.1.rb) from by
   refine List.ext_getElem? fun m => ?_
   by_cases hm : m = i
   ·subst hm; simp [List.getElem?_set, hi, hrb]
   ·rw [List.getElem?_set_ne (by omega)]]
  exact h.nd
 ·obtain ⟨m, hm, hqm⟩ := List.mem_iff_getElem.1 hq
  rw [List.length_set] at hm
  rw [List.getElem_set] at hqm
  split at hqm
  ·subst hqm
   have hb := hrn.blk
   rw [hrb] at hb
   have hb1 := hb.keep hc (fun hx => hx.elim (h.fam.2 (5 + 3 * rb) (6 + 3 * rb) (by omega) _ h5z) (h.fam.2 (5 + 3 * rb) (7 + 3 * rb) (by omega) _ h5z))
   have hb2 := hb1.set e
   rw [hcs] at hb2
   refine ⟨?_, ?_, ?_, ?_, ?_, ?_⟩
   ·show Blk w' g.rb _ _
    rw [hg.1]; exact hb2
   ·show R' (5 + 3 * g.rb) g.rb
    rw [hg.1, rk _ (by omega) (by omega)]; exact h5z
   ·show BrK W g.bb r.c r.wt
    rw [hg.2.1, hr.2.1, hr.2.2]; exact hrn.br
   ·show AskC w' (r.ask, g.ap) (R' 2)
    rw [hr.1, hg.2.2, rk 2 (by omega) (by omega)]
    exact hrn.ask.keep hcc (fun i _ hi => ap (by omega) (by omega) (by omega) i hi)
   ·show Own w' t_int 1 g.po r.pages.length g.pc (r.pages.map (.int .i64)) (R' (6 + 3 * g.rb))
    rw [hg.1, r6]
    refine hp.keep hc2 (fun i _ hi h5 => ?_)
    rcases hPG i hi with hi | hi
    ·exact h.fam.2 (6 + 3 * rb) (5 + 3 * rb) (by omega) i hi h5
    ·have := hlt _ i h5; have := hi.1; omega
   ·show Own w' t_int 1 g.so r.said.length g.sc (r.said.map (.int .i64)) (R' (7 + 3 * g.rb))
    rw [hg.1, r7]
    refine hsd.keep hc2 (fun i _ hi h5 => ?_)
    rcases hSD i hi with hi | hi
    ·exact h.fam.2 (7 + 3 * rb) (5 + 3 * rb) (by omega) i hi h5
    ·have := hlt _ i h5; have := hi.1; omega
  ·subst hqm
   refine keepQ _ (List.getElem_mem hm) (fun he => ?_)
   have e1 : (qs.map (·.1.rb))[i]'(by simpa using hi) = (qs.map (·.1.rb))[m]'(by simpa using hm) := by simp [hrb, he]
   have := (List.getElem_inj (h₀ := by simpa using hi) (h₁ := by simpa using hm) h.nd).1 e1
   omega
 ·rcases hOld m i hi with h1 | h1
  ·exact .inl ⟨_, h1⟩
  ·exact .inr h1.2
theorem CrewC.pagesPut (h : CrewC W w cb pb xb k B ps es o c qs R) {i : Nat} (hi : i < qs.length) {po : Option Addr} {pc : Nat} {pgs : List Int} {w1 : World} (hc : Ch (R (6 + 3 * qs[i].1.rb)) w w1)
  (hO : Own w1 t_int 1 po pgs.length pc (pgs.map (.int .i64)) (Ext (R (6 + 3 * qs[i].1.rb)) w w1)) (e : w' = w1.setCell ⟨qs[i].1.rb, 6, none⟩ (.slice po pgs.length pc)) :
  ∃ R', CrewC W w' cb pb xb k B ps es o c (qs.set i ({ qs[i].1 with po := po, pc := pc }, { qs[i].2 with pages := pgs })) R' ∧ (∀ i, AllF R' i → Ext (AllF R) w w' i) ∧ R' 2 = R 2 ∧ Ch (MutF R) w w' := by
 have hrn := h.rn _ (List.getElem_mem hi)
 have ap67 := h.fam.2 (6 + 3 * qs[i].1.rb) (7 + 3 * qs[i].1.rb) (by omega)
 refine h.runPut hi (rb := qs[i].1.rb) (j := 6) rfl ⟨rfl, rfl, rfl⟩ ⟨rfl, rfl, rfl⟩ (hc.mono (fun _ _ h => .inl h)) hO (hrn.sd.keep hc (fun m _ h7 h6 => ap67 m h6 h7)) (fun _ h => h) (fun _ h => .inl h) (fun m h6 h7 => ?_) rfl e
 rcases h6 with h6 | h6
 ·exact ap67 m h6 h7
 ·have := h.fam.1 _ m h7; have := h6.1; omega
theorem CrewC.donePut (h : CrewC W w cb pb xb k B ps es o c qs R) {i : Nat} (hi : i < qs.length) {d : Nat} (e : w' = w.setCell ⟨qs[i].1.rb, 7, none⟩ (.int .i64 d)) :
  ∃ R', CrewC W w' cb pb xb k B ps es o c (qs.set i (qs[i].1, { qs[i].2 with done := d })) R' ∧ (∀ i, AllF R' i → Ext (AllF R) w w' i) ∧ R' 2 = R 2 ∧ Ch (MutF R) w w' := by
 have hrn := h.rn _ (List.getElem_mem hi)
 exact h.runPut hi (rb := qs[i].1.rb) (j := 7) rfl ⟨rfl, rfl, rfl⟩ ⟨rfl, rfl, rfl⟩ (Ch.refl _ _) hrn.pg hrn.sd (fun _ h => .inl h) (fun _ h => .inl h) (h.fam.2 (6 + 3 * qs[i].1.rb) (7 + 3 * qs[i].1.rb) (by omega)) rfl e
theorem CrewC.saidPut (h : CrewC W w cb pb xb k B ps es o c qs R) {i : Nat} (hi : i < qs.length) {so : Option Addr} {sc : Nat} {sd : List Int} {w1 : World} (hc : Ch (R (7 + 3 * qs[i].1.rb)) w w1)
  (hO : Own w1 t_int 1 so sd.length sc (sd.map (.int .i64)) (Ext (R (7 + 3 * qs[i].1.rb)) w w1)) (e : w' = w1.setCell ⟨qs[i].1.rb, 8, none⟩ (.slice so sd.length sc)) :
  ∃ R', CrewC W w' cb pb xb k B ps es o c (qs.set i ({ qs[i].1 with so := so, sc := sc }, { qs[i].2 with said := sd })) R' ∧ (∀ i, AllF R' i → Ext (AllF R) w w' i) ∧ R' 2 = R 2 ∧ Ch (MutF R) w w' := by
 have hrn := h.rn _ (List.getElem_mem hi)
 have ap67 := h.fam.2 (6 + 3 * qs[i].1.rb) (7 + 3 * qs[i].1.rb) (by omega)
 refine h.runPut hi (rb := qs[i].1.rb) (j := 8) rfl ⟨rfl, rfl, rfl⟩ ⟨rfl, rfl, rfl⟩ (hc.mono (fun _ _ h => .inr h)) (hrn.pg.keep hc (fun m _ h6 h7 => ap67 m h6 h7)) hO (fun _ h => .inl h) (fun _ h => h) (fun m h6 h7 => ?_) rfl e
 rcases h7 with h7 | h7
 ·exact ap67 m h6 h7
 ·have := h.fam.1 _ m h6; have := h7.1; omega
theorem CrewC.le (h : CrewC W w cb pb xb k B ps es o c qs R) (hB : B ≤ B') : CrewC W w cb pb xb k B' ps es o c qs R := ⟨h.fam, h.f, h.z, h.blk, h.own, h.px.le hB, h.nd, h.rn⟩
end
end Go.Proofs.YtkbikekbaboclaaGreat.Crew
set_option linter.unusedVariables false
set_option linter.unusedSimpArgs false
namespace Go.Proofs.YtkbikekbaboclaaGreat.Crew
open Go Go.Proofs V Vc Step Pages Prefix Brain Conf Go.RowKit
open Ward (AskD AskP askE AskR ask_one asks_one)
section
variable {W w w' w0 : World} {cb pb xb k tb : Nat} {B B' : Int} {ps ps' : List PageD} {es es' : List EntD} {o : Option Addr} {c n : Nat} {qs : List (RunC × RunD)} {q : RunC × RunD} {R R' R0 : Nat → Nat → Prop} {F G FP FI Fa TA : Nat → Prop} {xs ys : List Int} {ao : Option Addr} {ac : Nat} {aq : List (AskD × AskP)}
def turnE (id : Int) (dn gv : Bool) (oo : Option Addr) (on oc : Nat) (ao : Option Addr) (an ac : Nat) : List Value := [.int .i64 id, .bool dn, .bool gv, .slice oo on oc, .slice ao an ac]
structure AwR (w0 w : World) (R : Nat → Nat → Prop) (tb : Nat) (ao : Option Addr) (ac : Nat) (aq : List (AskD × AskP)) (TA : Nat → Prop) : Prop where
 own : Own w t_ward_Ask 5 ao aq.length ac (aq.map askE).flatten TA
 ta : ∀ i, TA i → w0.heap.size ≤ i ∧ i < w.heap.size ∧ i ≠ tb ∧ ∀ k, ¬ R k i
 tb : ∀ k, ¬ R k tb
 ask : ∀ q ∈ aq, AskC w q (R 2)
theorem AwR.step (h : AwR w0 w R tb ao ac aq TA) (hc : Ch G w w') (hG : ∀ i, G i → MutF R i) (hR : ∀ i, AllF R' i → Ext (AllF R) w w' i) (h2 : R' 2 = R 2) (hf : Fam w R) (htb : tb < w.heap.size) : AwR w0 w' R' tb ao ac aq TA := by
 have hn : ∀ i, TA i → ¬ G i := fun i hi hg => by
  obtain ⟨k, _, hk⟩ := hG i hg
  exact (h.ta i hi).2.2.2 k hk
 refine ⟨h.own.keep hc (fun i _ hi => hn i hi), fun i hi => ?_, fun k hk => ?_, fun q hq => ?_⟩
 ·obtain ⟨a1, a2, a3, a4⟩ := h.ta i hi
  refine ⟨a1, Nat.lt_of_lt_of_le a2 hc.size, a3, fun k hk => ?_⟩
  rcases hR i ⟨k, hk⟩ with ⟨m, hm⟩ | hm
  ·exact a4 m hm
  ·have := hm.1; omega
 ·rcases hR tb ⟨k, hk⟩ with ⟨m, hm⟩ | hm
  ·exact h.tb m hm
  ·have := hm.1; omega
 ·rw [h2]
  refine (h.ask q hq).keep hc (fun i _ hi hg => ?_)
  obtain ⟨k, hk, hk2⟩ := hG i hg
  exact hf.2 2 k (by omega) i hi hk2
structure PgI (W w0 : World) (tb cb pb xb k : Nat) (B : Int) (id : Int) (R0 : Nat → Nat → Prop) (s : PgS) (w : World) (o : Option Addr) (c : Nat) (qs : List (RunC × RunD)) (R : Nat → Nat → Prop) (ao : Option Addr) (ac : Nat) (aq : List (AskD × AskP)) (TA : Nat → Prop) : Prop where
 crew : CrewC W w cb pb xb k B s.ps s.es o c qs R
 rs : qs.map (·.2) = s.rs
 turn : Blk w tb (turnE id false false none 0 0 ao aq.length ac) t_crew_Turn
 aws : aq.map (·.1) = s.aw
 aw : AwR w0 w R tb ao ac aq TA
 grow : ∀ i, AllF R i → Ext (AllF R0) w0 w i
 two : R 2 = R0 2
 ch : Ch (fun i => MutF R0 i ∨ i = tb) w0 w
 lo : W.heap.size ≤ w0.heap.size ∧ W.heap.size ≤ tb
theorem PgI.step {id : Int} {s s' : PgS}  {o' : Option Addr} {c' : Nat} {qs' : List (RunC × RunD)} (h : PgI W w0 tb cb pb xb k B id R0 s w o c qs R ao ac aq TA) (hc : Ch (MutF R) w w') (hC : CrewC W w' cb pb xb k B s'.ps s'.es o' c' qs' R') (hrs : qs'.map (·.2) = s'.rs) (haw : s'.aw = s.aw)
  (hR : ∀ i, AllF R' i → Ext (AllF R) w w' i) (h2 : R' 2 = R 2) : PgI W w0 tb cb pb xb k B id R0 s' w' o' c' qs' R' ao ac aq TA := by
 have htl := h.turn.lt
 have hs := hc.size
 have hs0 := h.ch.size
 refine ⟨hC, hrs, h.turn.keep hc (fun ⟨m, _, hm⟩ => h.aw.tb m hm), by rw [haw]; exact h.aws, h.aw.step hc (fun _ h => h) hR h2 h.crew.fam htl, fun j hj => ?_, by rw [h2]; exact h.two, ?_, h.lo⟩
 ·rcases hR j hj with hj | hj
  ·exact (h.grow j hj).imp (fun x => x) (fun k => ⟨k.1, by have := k.2; omega⟩)
  ·exact .inr ⟨by have := hj.1; omega, hj.2⟩
 ·refine h.ch.trans hc (fun j hj hm => ?_)
  obtain ⟨m, hm2, hm⟩ := hm
  rcases h.grow j ⟨m, hm⟩ with hx | hx
  ·refine .inl ?_
   obtain ⟨m', hx⟩ := hx
   by_cases hm' : m' = 2
   ·subst hm'
    rw [← h.two] at hx
    exact absurd hm (h.crew.fam.2 2 m (by omega) j hx)
   ·exact ⟨m', hm', hx⟩
  ·have := hx.1; omega
def PgOut (W w0 : World) (tb cb pb xb k : Nat) (B : Int) (id : Int) (i rb : Nat) (R0 : Nat → Nat → Prop) (s : PgS) (w : World) : Prop :=
 ∃ (o : Option Addr) (c : Nat) (qs : List (RunC × RunD)) (R : Nat → Nat → Prop) (ao : Option Addr) (ac : Nat) (aq : List (AskD × AskP)) (TA : Nat → Prop), CrewC W w cb pb xb k B s.ps s.es o c qs R ∧ qs.map (·.2) = s.rs ∧ (s.ok = true → ∃ hi : i < qs.length, qs[i].1.rb = rb) ∧
  Blk w tb (turnE id false (!s.ok) none 0 0 ao aq.length ac) t_crew_Turn ∧ aq.map (·.1) = s.aw ∧ AwR w0 w R tb ao ac aq TA ∧ (∀ i, AllF R i → Ext (AllF R0) w0 w i) ∧ R 2 = R0 2 ∧ Ch (fun i => MutF R0 i ∨ i = tb) w0 w
theorem PgI.out {id : Int} {i rb : Nat} {s : PgS}  (h : PgI W w0 tb cb pb xb k B id R0 s w o c qs R ao ac aq TA) (hat : ∃ hi : i < qs.length, qs[i].1.rb = rb) (hok : s.ok = true) : PgOut W w0 tb cb pb xb k B id i rb R0 s w :=
 ⟨o, c, qs, R, ao, ac, aq, TA, h.crew, h.rs, fun _ => hat, by rw [hok]; exact h.turn, h.aws, h.aw, h.grow, h.two, h.ch⟩
theorem PgI.push {id : Int} {s : PgS}  {a : AskD × AskP} {w1 : World} (h : PgI W w0 tb cb pb xb k B id R0 s w o c qs R ao ac aq TA) (ha : AskC w a (R 2)) (hn : aq.length ≤ 1000)
  (e1 : w1 = w.alloc (.cells (askE a).toArray t_ward_Ask (0, 0))) :
  ∃ (o' : Option Addr) (c' : Nat) (w2 : World), (Builtin.append_ #[t_S_ward_Ask, t_S_ward_Ask] t_S_ward_Ask #[.slice ao aq.length ac, .slice (some ⟨w.heap.size, 0, none⟩) 1 1]).run Tryz.prog w1 = .ok (.slice o' (aq.length + 1) c') w2 ∧ Ch TA w w2 ∧ Okc w2 ⟨tb, 4, none⟩ ∧
   ∀ w3, w3 = w2.setCell ⟨tb, 4, none⟩ (.slice o' (aq.length + 1) c') → ∃ TA' : Nat → Prop, PgI W w0 tb cb pb xb k B id R0 { s with aw := s.aw ++ [a.1] } w3 o c qs R o' c' (aq ++ [a]) TA' := by
 obtain ⟨o', c', w2, hr, ho, hc⟩ := Own.push el_S_ward_Ask h.aw.own t_S_ward_Ask e1 rfl (List.all_eq_true.2 (ask_one a)) (by unfold maxLen; omega) (by omega)
 have htT : ¬ TA tb := fun ht => (h.aw.ta tb ht).2.2.1 rfl
 have hB2 := h.turn.keep hc htT
 have hs := hc.size
 have htl := h.turn.lt
 refine ⟨o', c', w2, hr, hc, hB2.ok 4 rfl, fun w3 e3 => ⟨Ext TA w w2, ?_⟩⟩
 have hc3 : Ch (· = tb) w2 w3 := Ch.set e3 rfl
 have hs3 : w3.heap.size = w2.heap.size := by subst e3; simp [World.setCell]
 have hB3 := hB2.set e3
 have hT : ∀ i, Ext TA w w2 i → i ≠ tb := fun i hi he => by
  subst he
  rcases hi with hi | hi
  ·exact htT hi
  ·have := hi.1; omega
 have hG : Ch (fun i => TA i ∨ i = tb) w w3 := (hc.mono (fun _ _ h => .inl h)).same (hc3.mono (fun _ _ h => .inr h))
 have nR : ∀ k i, R k i → ¬ (TA i ∨ i = tb) := fun k i hk hg => by
  rcases hg with hg | hg
  ·exact (h.aw.ta i hg).2.2.2 k hk
  ·exact h.aw.tb k (hg ▸ hk)
 have hW0 := h.crew.ch.size
 have hs0 := h.ch.size
 refine ⟨h.crew.far hG nR (fun i hi hg => ?_), h.rs, ?_, by simp [h.aws], ⟨?_, fun j hj => ?_, h.aw.tb, fun q hq => ?_⟩, fun j hj => ?_, h.two, ?_, h.lo⟩
 ·have := h.lo
  rcases hg with hg | hg
  ·have := (h.aw.ta i hg).1; omega
  ·omega
 ·rw [List.length_append]; exact hB3
 ·rw [List.length_append, List.map_append, List.flatten_append]
  have := ho.keep hc3 (fun i _ hi he => hT i hi he)
  simpa using this
 ·rcases hj with hj | hj
  ·obtain ⟨a1, a2, a3, a4⟩ := h.aw.ta j hj
   exact ⟨a1, by omega, a3, a4⟩
  ·have h1 := hj.1
   have h2 := hj.2
   exact ⟨by omega, by omega, by omega, fun k hk => by have := h.crew.fam.1 k j hk; omega⟩
 ·rcases List.mem_append.1 hq with hq | hq
  ·exact (h.aw.ask q hq).keep hG (fun i _ hi => nR 2 i hi)
  ·rw [List.mem_singleton] at hq
   subst hq
   exact ha.keep hG (fun i _ hi => nR 2 i hi)
 ·exact (h.grow j hj).imp (fun x => x) (fun k => ⟨k.1, by have := k.2; omega⟩)
 ·refine (h.ch.trans hc (fun j hj ht => ?_)).trans hc3 (fun j hj ht => .inr ht)
  have := (h.aw.ta j ht).1; omega
theorem pageF_ready {i f : Nat} {s : PgS} {r : RunD} (h : s.rs[i]? = some r) (h1 : r.done ≠ 4 * r.pages.length) : pageF i f s = s := by
 cases f with
 | zero => rfl
 | succ f => unfold pageF; rw [h]; dsimp only; rw [if_pos h1]
theorem pageF_take {i f : Nat} {s : PgS} {r : RunD} (h : s.rs[i]? = some r) (h1 : ¬ r.done ≠ 4 * r.pages.length) (h2 : (takeV s.ps r.ask.ver).2 = 0) : pageF i (f + 1) s = { s with ps := takeP s.ps r.ask.ver, rs := s.rs.set i (addPg r (takeV s.ps r.ask.ver).1) } := by
 unfold pageF; rw [h]; dsimp only; rw [if_neg h1, if_pos h2]
theorem pageF_evict {i f : Nat} {s : PgS} {r : RunD} (h : s.rs[i]? = some r) (h1 : ¬ r.done ≠ 4 * r.pages.length) (h2 : ¬ (takeV s.ps r.ask.ver).2 = 0) (h3 : evI s.ps s.es < s.es.length) : pageF i (f + 1) s = pageF i f { s with ps := evP s.ps s.es, es := s.es.eraseIdx (evI s.ps s.es) } := by
 conv => lhs; unfold pageF
 rw [h]; dsimp only; rw [if_neg h1, if_neg h2, if_pos h3]
theorem pageF_cut {i f : Nat} {s : PgS} {r y : RunD} (h : s.rs[i]? = some r) (h1 : ¬ r.done ≠ 4 * r.pages.length) (h2 : ¬ (takeV s.ps r.ask.ver).2 = 0) (h3 : ¬ evI s.ps s.es < s.es.length) (hy : s.rs[s.rs.length - 1]? = some y) :
  pageF i (f + 1) s = if s.rs.length - 1 = i then ⟨dropQL s.ps y.pages, s.es, s.rs.eraseIdx (s.rs.length - 1), s.aw ++ [y.ask], false⟩ else pageF i f ⟨dropQL s.ps y.pages, s.es, s.rs.eraseIdx (s.rs.length - 1), s.aw ++ [y.ask], s.ok⟩ := by
 conv => lhs; unfold pageF
 rw [h]; dsimp only; rw [if_neg h1, if_neg h2, if_neg h3, hy]
theorem map_eraseIdx {α β : Type} (f : α → β) : ∀ (l : List α) (i : Nat), (l.eraseIdx i).map f = (l.map f).eraseIdx i
 | [], _ => rfl
 | x :: l, 0 => rfl
 | x :: l, i + 1 => by rw [List.eraseIdx_cons_succ, List.map_cons, List.map_cons, List.eraseIdx_cons_succ, map_eraseIdx f l i]
theorem nd_eq (h : (qs.map (·.1.rb)).Nodup) {i j : Nat} (hi : i < qs.length) (hj : j < qs.length) : (qs[i].1.rb = qs[j].1.rb) ↔ i = j := by
 have := List.getElem_inj (h₀ := by simpa using hi) (h₁ := by simpa using hj) h
 simpa using this
set_option maxHeartbeats 4000000 in
theorem page_spec {id : Int} {i : Nat} (h : CrewC W w cb pb xb k B ps es o c qs R) (hk : k ≤ 1000) (hB : 1 ≤ B ∧ B ≤ 1000000000) (hn : qs.length ≤ 900) (hes : es.length < 1000) (hl : ∀ q ∈ qs, q.2.pages.length ≤ 900 ∧ q.2.done ≤ 1000000) (hi : i < qs.length)
  (hT : Blk w tb (turnE id false false none 0 0 none 0 0) t_crew_Turn) (htb : ∀ k, ¬ R k tb) (hlo : W.heap.size ≤ tb) :
  Calls Tryz.prog i_crew_Crew_page #[.pointer (some ⟨cb, 0, none⟩), .pointer (some ⟨qs[i].1.rb, 0, none⟩), .pointer (some ⟨tb, 0, none⟩)] w (Ret fun v w' => ∃ s : PgS, pageF i (es.length + qs.length + 1) ⟨ps, es, qs.map (·.2), [], true⟩ = s ∧ v = .bool s.ok ∧ PgOut W w tb cb pb xb k B id i qs[i].1.rb R s w') := by
 obtain ⟨rb, hrb⟩ : ∃ rb, qs[i].1.rb = rb := ⟨_, rfl⟩
 obtain ⟨sF, hsF⟩ : ∃ sF, pageF i (es.length + qs.length + 1) ⟨ps, es, qs.map (·.2), [], true⟩ = sF := ⟨_, rfl⟩
 rw [hrb, hsF]
 have hlo2 := h.ch.size
 refine crew_Crew_page.calls _ _ _ ?_
 unfold crew_Crew_page.vc
 refine ⟨fun vk w' => ∃ (s : PgS) (f : Nat) (o : Option Addr) (c : Nat) (qs : List (RunC × RunD)) (R' : Nat → Nat → Prop) (ao : Option Addr) (ac : Nat) (aq : List (AskD × AskP)) (TA : Nat → Prop), pageF i f s = sF ∧ s.es.length + s.rs.length + 1 ≤ f ∧ vk = s.es.length + s.rs.length ∧ s.ok = true ∧
  PgI W w tb cb pb xb k B id R s w' o c qs R' ao ac aq TA ∧ (∃ hi : i < qs.length, qs[i].1.rb = rb) ∧ aq.length + s.rs.length ≤ 900 ∧ s.es.length < 1000 ∧ ∀ r ∈ s.rs, r.pages.length ≤ 900 ∧ r.done ≤ 1000000,
  ⟨_, ⟨ps, es, qs.map (·.2), [], true⟩, _, o, c, qs, R, none, 0, [], Non, hsF, by simp, rfl, rfl, ⟨h, rfl, hT, rfl, ⟨Own.nil _ _ _ _, fun i hi => hi.elim, htb, fun q hq => by cases hq⟩, fun i hi => .inl hi, rfl, Ch.refl _ _, hlo2, hlo⟩, ⟨hi, hrb⟩, by simpa using hn, hes, fun r hr => by
   obtain ⟨q, hq, rfl⟩ := List.mem_map.1 hr
   exact hl q hq⟩, ?_⟩
 clear h hi hl hT htb hn hes hsF hrb
 rintro jk vk w1 ⟨s, f, o1, c1, qs1, R1, ao, ac, aq, TA, hF, hf, rfl, hok, hI, hat, hla, hles, hlr⟩
 obtain ⟨f, rfl⟩ : ∃ f', f = f' + 1 := ⟨f - 1, by omega⟩
 obtain ⟨hi, hrb⟩ := hat
 have hrn := hI.crew.rn _ (List.getElem_mem hi)
 have hri : s.rs[i]? = some qs1[i].2 := by rw [← hI.rs]; simp [hi]
 have hlen : qs1.length = s.rs.length := by rw [← hI.rs]; simp
 have hlq := hlr qs1[i].2 (List.mem_of_getElem? hri)
 have hBl := hrn.blk
 rw [hrb] at hBl
 refine ⟨fun w' => Ch Non w1 w', fun w2 e2 => ⟨Ch.drew e2, _, fun w' k => (hBl.keepN k).cell 7 rfl, _, _, _, fun w' k => (hBl.keepN k).cell 6 rfl, ?_⟩⟩
 have hd2 : Ch Non w1 w2 := Ch.drew e2
 have hI2 := hI.step (s' := s) (R' := R1) hd2.any (hI.crew.keepN hd2) hI.rs rfl (fun _ h => .inl h) rfl
 rw [wrap_id (x := (qs1[i].2.pages.length : Int) * 4) (by omega) (by omega)]
 refine ⟨fun hy => ?_, fun hno => ?_⟩
 rotate_left
 ·have hne : qs1[i].2.done ≠ 4 * qs1[i].2.pages.length := fun he => by
   rw [he] at hno
   simp at hno
   omega
  rw [pageF_ready hri hne] at hF
  subst hF
  exact ⟨s, rfl, by rw [hok], hI2.out ⟨hi, hrb⟩ hok⟩
 have heq : ¬ qs1[i].2.done ≠ 4 * qs1[i].2.pages.length := fun hne => by
  have hy := eq_of_beq hy
  omega
 have h3 := hI2.crew
 have hB2 := hBl.keepN hd2
 have z5 : R1 (5 + 3 * rb) rb := hrb ▸ hrn.z
 have n3 : ¬ R1 3 rb := h3.fam.2 (5 + 3 * rb) 3 (by omega) rb z5
 have c3 : ¬ R1 3 cb := h3.fam.2 0 3 (by omega) cb h3.z
 refine ⟨fun w' => Ch (R1 3) w2 w', fun w5 e5 => ⟨Ch.drew e5, _, fun w' k => (h3.blk.keep k c3).cell 0 rfl, _, fun w' k => (hB2.keep k n3).cell 2 rfl, ?_⟩⟩
 have hd5 : Ch Non w2 w5 := Ch.drew e5
 have h5 := h3.keepN hd5
 refine step_call (Pages.Take_spec h5.px.p.r qs1[i].2.ask.ver) ?_
 rintro v w8 ⟨rfl, hP8, hc8⟩
 have hc28 : Ch (R1 3) w2 w8 := hd5.any.same hc8
 have hg8 := h5.px.g.take hB.1 qs1[i].2.ask.ver
 obtain ⟨hC8, _, hm8⟩ := h5.pool (h5.px.pool hP8 hc8 hg8) (fun _ hi => .inl hi) (fun _ hi => .inl hi) (hc8.mono (fun _ _ hi => .inr hi))
 rw [upR_self] at hC8
 have hc28m : Ch (MutF R1) w2 w8 := hd5.any.same hm8
 refine ⟨_, _, rfl, hc28, fun hy2 => ?_, fun hno2 => ?_⟩
 ·have hy2 : (takeV s.ps qs1[i].2.ask.ver).2 = 0 := by simpa using hy2
  rw [pageF_take hri heq hy2] at hF
  subst hF
  have hrn8 := hC8.rn _ (List.getElem_mem hi)
  have hB8 := hrn8.blk
  rw [hrb] at hB8
  refine ⟨_, _, _, hB8.cell 6 rfl, fun w9 e9 => ?_⟩
  obtain ⟨po, pc, w10, hr10, hO10, hc10⟩ := Own.pushT (enc := Value.int .i64) (xs := qs1[i].2.pages) el_S_int hrn8.pg t_S_int (takeV s.ps qs1[i].2.ask.ver).1 e9 rfl (by unfold maxLen; omega) (by omega)
  have n6 : ¬ R1 (6 + 3 * qs1[i].1.rb) rb := h3.fam.2 (5 + 3 * rb) _ (by omega) rb z5
  have hB10 := hB8.keep hc10 n6
  refine ⟨po, _, pc, w10, hr10, hB10.ok 6 rfl, fun w11 e11 => ?_⟩
  have hpl : (qs1[i].2.pages ++ [(takeV s.ps qs1[i].2.ask.ver).1]).length = qs1[i].2.pages.length + 1 := by simp
  obtain ⟨R', hC11, hR11, h211, hm11⟩ := hC8.pagesPut (w' := w11) hi (pgs := qs1[i].2.pages ++ [(takeV s.ps qs1[i].2.ask.ver).1]) hc10 (by rw [hpl]; exact hO10) (by rw [hrb, hpl]; exact e11)
  have hI8 := hI2.step (s' := { s with ps := takeP s.ps qs1[i].2.ask.ver }) (R' := R1) hc28m hC8 hI.rs rfl (fun _ h => .inl h) rfl
  have hI11 := hI8.step (s' := { s with ps := takeP s.ps qs1[i].2.ask.ver, rs := s.rs.set i (addPg qs1[i].2 (takeV s.ps qs1[i].2.ask.ver).1) }) hm11 hC11 (by rw [List.map_set, hI.rs]; rfl) rfl hR11 h211
  exact ⟨_, rfl, by rw [hok], hI11.out ⟨by rw [List.length_set]; exact hi, by rw [List.getElem_set_self]; exact hrb⟩ hok⟩
 have hno2 : ¬ (takeV s.ps qs1[i].2.ask.ver).2 = 0 := by simpa using hno2
 rw [takeP_no hno2] at hC8
 have hI8 := hI2.step (s' := s) (R' := R1) hc28m hC8 hI.rs rfl (fun _ h => .inl h) rfl
 refine ⟨_, hC8.blk.cell 1 rfl, step_call (Prefix.Evict_spec hC8.px ⟨by omega, hB.2⟩ hk hles) ?_⟩
 rintro v w12 ⟨rfl, hX12, hc12⟩
 obtain ⟨hC12, _, hm12⟩ := hC8.pool hX12 (fun _ hi => .inl hi) (fun _ hi => .inl hi) hc12
 rw [upR_self] at hC12
 refine ⟨_, rfl, fun hy3 => ?_, fun hno3 => ?_⟩
 ·have hy3 : evI s.ps s.es < s.es.length := of_decide_eq_true hy3
  rw [pageF_evict hri heq hno2 hy3] at hF
  have hI12 := hI8.step (s' := { s with ps := evP s.ps s.es, es := s.es.eraseIdx (evI s.ps s.es) }) (R' := R1) hm12 hC12 hI.rs rfl (fun _ h => .inl h) rfl
  have hel : (s.es.eraseIdx (evI s.ps s.es)).length = s.es.length - 1 := by rw [List.length_eraseIdx, if_pos hy3]
  exact ⟨s.es.length - 1 + s.rs.length, by omega, _, f, _, _, _, _, _, _, _, _, hF, by dsimp only; rw [hel]; omega, by dsimp only; rw [hel], hok, hI12, ⟨hi, hrb⟩, hla, by dsimp only; rw [hel]; omega, hlr⟩
 have hno3 : ¬ evI s.ps s.es < s.es.length := of_decide_eq_false hno3
 obtain ⟨ev1, ev2⟩ := evP_no hno3
 rw [ev1, ev2] at hC12
 have hI12 := hI8.step (s' := s) (R' := R1) hm12 hC12 hI.rs rfl (fun _ h => .inl h) rfl
 have hL : qs1.length - 1 < qs1.length := by omega
 have hwl : IntKind.i64.wrap ((qs1.length : Int) - 1) = ((qs1.length - 1 : Nat) : Int) := by rw [wrap_id (by omega) (by omega)]; omega
 have hyl : s.rs[s.rs.length - 1]? = some qs1[qs1.length - 1].2 := by rw [← hlen, ← hI.rs]; simp [hL]
 have hlY := hlr _ (List.mem_of_getElem? hyl)
 refine ⟨_, _, _, hC12.blk.cell 2 rfl, ?_⟩
 rw [hwl]
 refine step_call (cut_spec hC12 hk ⟨by omega, hB.2⟩ (by omega) hL (by omega)) ?_
 rintro v w13 ⟨rfl, hC13, hrn13, hc13⟩
 have hm13 : Ch (MutF R1) w12 w13 := hc13.mono (fun i _ hi => low_all i hi)
 rw [pageF_cut hri heq hno2 hno3 hyl] at hF
 have hyb := hrn13.blk
 have hyx := hrn13.ask
 obtain ⟨yb, hyb'⟩ : ∃ yb, qs1[qs1.length - 1].1.rb = yb := ⟨_, rfl⟩
 rw [hyb'] at hyb
 have hT12 := hI12.turn
 have htbn : ∀ i, i = tb → ¬ MutF R1 i := fun j hj ⟨m, _, hm⟩ => hI12.aw.tb m (hj ▸ hm)
 have hT13 := hT12.keep hm13 (htbn tb rfl)
 -- the turn, as it is behind the cut
 have hcell : ∀ w', Ch TA w13 w' → w'.cell? ⟨tb, 4, none⟩ = some (.slice ao aq.length ac) := fun w' k => (hT13.keep k (fun ht => (hI12.aw.ta tb ht).2.2.1 rfl)).cell 4 rfl
 have nTy : ¬ TA yb := fun ht => (hI12.aw.ta yb ht).2.2.2 (5 + 3 * yb) (hyb' ▸ hrn13.z)
 have ysel : ∀ w', Ch TA w13 w' → ∀ j v, (rnE qs1[qs1.length - 1].1 qs1[qs1.length - 1].2)[j]? = some v → w'.cell? ⟨yb, j, none⟩ = some v := fun w' k j v hv => (hyb.keep k nTy).cell j hv
 refine ⟨some ⟨yb, 0, none⟩, by rw [hyb'], fun w' => Ch TA w13 w', fun w14 e14 => ⟨Ch.drew e14, _, _, _, fun w' k => hcell w' k, ?_⟩⟩
 show ∃ _, _
 refine ⟨_, _, _, _, _, _, _, _, _, ⟨fun w' k => by rw [add_at]; exact ysel w' k 1 _ rfl, fun w' k => by rw [add_at]; exact ysel w' k 2 _ rfl, fun w' k => by rw [add_at]; exact ysel w' k 3 _ rfl, fun w' k => by rw [add_at]; exact ysel w' k 4 _ rfl, fun w' k => by rw [add_at]; exact ysel w' k 5 _ rfl⟩, fun w17 e17 => ?_⟩
 have hd14 : Ch Non w13 w14 := Ch.drew e14
 obtain ⟨s1, hs1⟩ : ∃ s1 : PgS, s1 = ⟨dropQL s.ps qs1[qs1.length - 1].2.pages, s.es, s.rs.eraseIdx (s.rs.length - 1), s.aw, s.ok⟩ := ⟨_, rfl⟩
 have hI13 := hI12.step (s' := s1) (R' := R1) hm13 (by rw [hs1]; exact hC13) (by rw [hs1, map_eraseIdx, hI.rs]; show s.rs.eraseIdx (qs1.length - 1) = s.rs.eraseIdx (s.rs.length - 1); rw [hlen]) (by rw [hs1]) (fun _ h => .inl h) rfl
 have hI14 := hI13.step (s' := s1) (R' := R1) hd14.any (hI13.crew.keepN hd14) hI13.rs rfl (fun _ h => .inl h) rfl
 have hs14 : w13.heap.size = w14.heap.size := by subst e14; rfl
 obtain ⟨o18, c18, w18, hr18, hc18, hok18, hst⟩ := hI14.push (a := (qs1[qs1.length - 1].2.ask, qs1[qs1.length - 1].1.ap)) (hyx.keepN hd14) (by omega) e17
 have hc1318 : Ch TA w13 w18 := hd14.any.same hc18
 refine ⟨hd14.any.andN (Ch.alloc e17), o18, _, c18, w18, hr18, hc1318, hok18, fun w19 e19 => ?_⟩
 obtain ⟨TA', hI19⟩ := hst w19 e19
 have hyb19 : Blk w19 yb (rnE qs1[qs1.length - 1].1 qs1[qs1.length - 1].2) t_crew_run := by
  have h18 := hyb.keep hc1318 nTy
  exact h18.keep (Ch.set (F := (· = tb)) e19 rfl) (fun he => hI12.aw.tb (5 + 3 * yb) (he ▸ (hyb' ▸ hrn13.z)))
 have hrb19 : Blk w19 rb (rnE qs1[i].1 qs1[i].2) t_crew_run := by
  have h12' := hC12.rn _ (List.getElem_mem hi)
  have hlow := (h12'.low hC12.fam hc13).blk
  rw [hrb] at hlow
  have h18 := hlow.keep hc1318 (fun ht => (hI12.aw.ta rb ht).2.2.2 (5 + 3 * rb) z5)
  exact h18.keep (Ch.set (F := (· = tb)) e19 rfl) (fun he => hI12.aw.tb (5 + 3 * rb) (he ▸ z5))
 have hel : (s.rs.eraseIdx (s.rs.length - 1)).length = s.rs.length - 1 := by rw [List.length_eraseIdx, if_pos (by omega)]
 have hiff := nd_eq hI.crew.nd hL hi
 rw [hyb', hrb] at hiff
 refine ⟨fun a b ha hb _ => ?_, fun hy4 => ?_, fun hno4 => ?_⟩
 ·injection ha with ha
  injection hb with hb
  subst ha; subst hb
  exact ⟨⟨_, _, hyb19⟩, ⟨_, _, hrb19⟩⟩
 ·have hy4 := of_decide_eq_true hy4
  injection hy4 with hy4
  injection hy4 with hy4
  have hli := hiff.1 hy4
  rw [if_pos (by omega)] at hF
  subst hF
  have hT19 := hI19.turn
  refine ⟨hT19.ok 2 rfl, fun w20 e20 => ⟨_, rfl, rfl, ?_⟩⟩
  have hT20 := hT19.set e20
  have hc20 : Ch (· = tb) w19 w20 := Ch.set e20 rfl
  have nR : ∀ m j, R1 m j → ¬ j = tb := fun m j hm he => hI19.aw.tb m (he ▸ hm)
  have hs20 : w20.heap.size = w19.heap.size := by subst e20; simp [World.setCell]
  rw [hs1] at hI19
  refine ⟨o1, c1, qs1.eraseIdx (qs1.length - 1), R1, o18, c18, aq ++ [(qs1[qs1.length - 1].2.ask, qs1[qs1.length - 1].1.ap)], TA', hI19.crew.far hc20 nR (fun j hj he => by have := hI19.lo; omega), hI19.rs, fun hf => absurd hf (by simp), hT20, hI19.aws, ⟨hI19.aw.own.keep hc20 (fun j _ hj he => (hI19.aw.ta j hj).2.2.1 he), fun j hj => ?_, hI19.aw.tb, fun q hq => (hI19.aw.ask q hq).keep hc20 (fun j _ hj => nR 2 j hj)⟩, fun j hj => ?_, hI19.two, hI19.ch.trans hc20 (fun j _ he => .inr he)⟩
  ·obtain ⟨a1, a2, a3, a4⟩ := hI19.aw.ta j hj
   exact ⟨a1, by omega, a3, a4⟩
  ·exact (hI19.grow j hj).imp (fun x => x) (fun k => ⟨k.1, by have := k.2; omega⟩)
 ·have hno4 := of_decide_eq_false hno4
  have hli : ¬ s.rs.length - 1 = i := fun he => hno4 (by rw [hiff.2 (by omega)])
  rw [if_neg hli] at hF
  rw [hs1] at hI19
  refine ⟨s.es.length + (s.rs.length - 1), by omega, _, f, _, _, _, _, _, _, _, _, hF, by dsimp only; rw [hel]; omega, by dsimp only; rw [hel], hok, hI19, ⟨by rw [List.length_eraseIdx, if_pos hL]; omega, ?_⟩, by dsimp only; rw [hel, List.length_append]; simp; omega, hles, fun r hr => hlr r ((List.eraseIdx_sublist _ _).subset hr)⟩
  rw [List.getElem_eraseIdx_of_lt _ (show i < qs1.length - 1 by omega)]
  exact hrb
end
end Go.Proofs.YtkbikekbaboclaaGreat.Crew
