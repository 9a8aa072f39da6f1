import Derived.Test.YtkbikekbaboclaaGreatCrewX0
set_option linter.unusedVariables false
set_option linter.unusedSimpArgs false
namespace Go.Proofs.YtkbikekbaboclaaGreat.Crew
open Go Go.Proofs V Vc Step Pages Prefix Brain Conf Stp Go.RowKit
open Ward (AskD AskP askE AskR ask_one asks_one)
structure OkA (k : Nat) (a : AskD) : Prop where
 ver : 1 ≤ a.ver ∧ a.ver ≤ 2
 id : 1 ≤ a.id ∧ a.id ≤ 8
 dr : a.draws.length ≤ 32
 ck : Gen.checkP c25 a.most a.prompt = 0
 nd : Ward.needN a ≤ k
def OkL (k : Nat) (al : List AskD) : Prop := ∀ (j : Nat) (h : j < al.length), al[j].id = j + 1 ∧ OkA k al[j]
structure SInv (al wa : List AskD) (rs : List RunD) (dn : Nat) : Prop where
 sub : ∀ a ∈ wa ++ rs.map (·.ask), a ∈ al
 nd : ((wa ++ rs.map (·.ask)).map (·.id)).Nodup
 len : wa.length + rs.length + dn = al.length
def headF : List RunD → Nat
 | [] => 0
 | r :: _ => r.done
section
variable {k : Nat} {al wa : List AskD} {rs : List RunD} {dn : Nat} {a : AskD} {r : RunD}
theorem OkL.get (h : OkL k al) (ha : a ∈ al) : OkA k a ∧ ∃ j : Nat, a.id = j + 1 ∧ al[j]? = some a := by
 obtain ⟨j, hj, rfl⟩ := List.getElem_of_mem ha
 exact ⟨(h j hj).2, j, (h j hj).1, List.getElem?_eq_getElem hj⟩
theorem SInv.join (h : SInv al (a :: wa) rs dn) (hr : r.ask = a) : SInv al wa (rs ++ [r]) dn := by
 have hp : (wa ++ (rs ++ [r]).map (·.ask)).Perm (a :: wa ++ rs.map (·.ask)) := by
  rw [List.map_append, List.map_singleton, hr, ← List.append_assoc]
  exact List.perm_append_comm
 refine ⟨fun x hx => h.sub x (hp.mem_iff.1 hx), (hp.map _).nodup_iff.2 h.nd, ?_⟩
 have := h.len
 rw [List.length_append]
 simp only [List.length_cons, List.length_nil] at this ⊢
 omega
theorem SInv.fresh (h : SInv al (a :: wa) rs dn) : findRn rs a.id < 0 := by
 unfold findRn
 rw [if_neg]
 ·decide
 ·intro hx
  obtain ⟨q, hq, he⟩ := List.findIdx_lt_length.1 hx
  have hn := h.nd
  rw [List.cons_append, List.map_cons, List.nodup_cons] at hn
  refine hn.1 ?_
  have he : q.ask.id = a.id := eq_of_beq he
  rw [← he]
  exact List.mem_map.2 ⟨q.ask, List.mem_append_right _ (List.mem_map.2 ⟨q, hq, rfl⟩), rfl⟩
theorem SInv.joinV (h : SInv al (a :: wa) rs dn) (hok : OkL k al) (hn : rs.length < 3) : joinV c25 k rs a = 0 := by
 obtain ⟨ho, _⟩ := hok.get (h.sub a (by simp))
 have hf := h.fresh
 have h1 := ho.ver
 have h2 := ho.id
 unfold Crew.joinV
 rw [if_neg (by rw [ask_ok (by omega) (by omega) ho.dr ho.ck ho.nd]; decide), if_neg (by omega), if_neg (by omega)]
theorem SInv.pick {md : Mds} {i m : Nat} {cr : Cr} {t : TurnD} (h : SInv al wa rs dn) (hi : i < rs.length) (hL : PickL c25 md i rs cr t m) : SInv al (wa ++ t.away) cr.rs (if t.done = true then dn + 1 else dn) ∧ (∀ q l, rs = q :: l → ∀ x ∈ t.away, x.id ≠ q.ask.id) := by
 have hsub : (cr.rs.map (·.ask)).Sublist ((rs.take m).map (·.ask)) ∧ cr.rs.length + (if t.done = true then dn + 1 else dn) = m + dn := by
  have hle := hL.le
  by_cases hg : t.gave = true
  ·obtain ⟨a1, a2, a3⟩ := hL.gave hg
   rw [a3, a1]
   exact ⟨List.Sublist.refl _, by rw [List.length_take, if_neg (by decide)]; omega⟩
  ·have hg : t.gave = false := by simpa using hg
   by_cases hd : t.done = true
   ·obtain ⟨b1, b2, b3, b4⟩ := hL.done hd
    rw [b4, hd]
    refine ⟨(List.eraseIdx_sublist _ _).map _, ?_⟩
    rw [List.length_eraseIdx, List.length_take, if_pos rfl, if_pos (by omega)]; omega
   ·have hd : t.done = false := by simpa using hd
    obtain ⟨b1, b2, r, r', b3, b4, b5, b6⟩ := hL.goes hg hd
    rw [b6, hd]
    refine ⟨?_, by rw [List.length_set, List.length_take, if_neg (by decide)]; omega⟩
    have hlt : i < (rs.take m).length := by rw [List.length_take]; omega
    have he : (rs.take m)[i] = r := by
     rw [List.getElem_take]
     rw [List.getElem?_eq_getElem hi] at b3
     injection b3
    rw [List.map_set, b4, ← he]
    have : ((rs.take m).map (·.ask))[i]'(by simpa using hlt) = (rs.take m)[i].ask := by simp
    rw [← this, List.set_getElem_self]
    exact List.Sublist.refl _
 obtain ⟨hsub, hlen⟩ := hsub
 have hs2 : (wa ++ t.away ++ cr.rs.map (·.ask)).Sublist (wa ++ ((rs.drop m).map (·.ask)).reverse ++ (rs.take m).map (·.ask)) := by
  rw [hL.aw]; exact List.Sublist.append (List.Sublist.refl _) hsub
 have hp : (wa ++ ((rs.drop m).map (·.ask)).reverse ++ (rs.take m).map (·.ask)).Perm (wa ++ rs.map (·.ask)) := by
  rw [List.append_assoc]
  refine List.Perm.append_left _ ?_
  refine ((List.reverse_perm _).append_right _).trans (List.perm_append_comm.trans ?_)
  rw [← List.map_append, List.take_append_drop]
 refine ⟨⟨fun x hx => h.sub x (hp.mem_iff.1 (hs2.subset hx)), ?_, ?_⟩, ?_⟩
 ·have := (hp.map (·.id)).nodup_iff.2 h.nd
  exact List.Nodup.sublist (hs2.map _) this
 ·have := h.len
  have := hL.le
  rw [hL.aw]
  simp only [List.length_append, List.length_reverse, List.length_map, List.length_drop]
  omega
 ·rintro q l rfl x hx he
  rw [hL.aw, List.mem_reverse] at hx
  have hm := hL.le
  obtain ⟨n, rfl⟩ : ∃ n, m = n + 1 := ⟨m - 1, by omega⟩
  rw [List.drop_succ_cons] at hx
  obtain ⟨y, hy, rfl⟩ := List.mem_map.1 hx
  have hn := h.nd
  rw [List.map_append, List.nodup_append] at hn
  have hn2 := hn.2.1
  rw [List.map_cons, List.map_cons, List.nodup_cons] at hn2
  exact hn2.1 (List.mem_map.2 ⟨y.ask, List.mem_map.2 ⟨y, List.mem_of_mem_drop hy, rfl⟩, he⟩)
theorem headF_pick {md : Mds} {m : Nat} {cr : Cr} {t : TurnD} (hL : PickL c25 md 0 rs cr t m) (hi : 0 < rs.length) : (t.done = true) ∨ (t.done = false ∧ headF cr.rs = headF rs + 1) := by
 cases hd : t.done with
 | true => exact .inl rfl
 | false =>
  refine .inr ⟨rfl, ?_⟩
  have hm := hL.le
  have hg : t.gave = false := by
   cases hg : t.gave with
   | false => rfl
   | true => have := (hL.gave hg).2.1; omega
  obtain ⟨_, _, r, r', b3, _, b5, b6⟩ := hL.goes hg hd
  obtain ⟨q, l, rfl⟩ : ∃ q l, rs = q :: l := by
   cases rs with
   | nil => simp at hi
   | cons q l => exact ⟨q, l, rfl⟩
  obtain ⟨n, rfl⟩ : ∃ n, m = n + 1 := ⟨m - 1, by omega⟩
  have b3 : some q = some r := b3
  injection b3 with b3
  subst b3
  rw [b6, List.take_succ_cons, List.set_cons_zero]
  exact b5
theorem headF_join : headF rs ≤ headF (rs ++ [r]) := by
 cases rs with
 | nil => exact Nat.zero_le _
 | cons q l => exact Nat.le_refl _
end
def Dt (T : Nat → Prop) (R : Nat → Nat → Prop) (i : Nat) : Prop := ¬ T i ∧ ¬ MutF R i
theorem AskC.step {w w' : World} {q : AskD × AskP} {D D' G : Nat → Prop} (h : AskC w q D) (hc : Ch G w w') (hG : ∀ i, i < w.heap.size → D i → ¬ G i) (hD : ∀ i, i < w.heap.size → D i → D' i) : AskC w' q D' :=
 ((h.mono (D' := fun i => i < w.heap.size ∧ D i) (fun i a b => ⟨a, b⟩)).keep hc (fun i _ h => hG i h.1 h.2)).mono (fun i _ h => hD i h.1 h.2)
theorem Rd.stepD {w w' : World} {o : Option Addr} {cs : List Value} {D D' G : Nat → Prop} (h : Rd w o cs D) (hc : Ch G w w') (hG : ∀ i, i < w.heap.size → D i → ¬ G i) (hD : ∀ i, i < w.heap.size → D i → D' i) : Rd w' o cs D' :=
 ((h.mono (G := fun i => i < w.heap.size ∧ D i) (fun i a b => ⟨a, b⟩)).keep hc (fun i _ h => hG i h.1 h.2)).mono (fun i _ h => hD i h.1 h.2)
structure WaitR (W w : World) (R : Nat → Nat → Prop) (o : Option Addr) (n c : Nat) (qs : List (AskD × AskP)) (T : Nat → Prop) : Prop where
 ln : n = qs.length
 own : Own w t_ward_Ask 5 o n c (qs.map askE).flatten T
 t : ∀ i, T i → W.heap.size ≤ i ∧ i < w.heap.size ∧ ∀ k, ¬ R k i
 ask : ∀ q ∈ qs, AskC w q (Dt T R)
structure AllR (w : World) (R : Nat → Nat → Prop) (o : Option Addr) (al : List (AskD × AskP)) (T : Nat → Prop) : Prop where
 rd : Rd w o (al.map askE).flatten (Dt T R)
 ask : ∀ q ∈ al, AskC w q (Dt T R)
section
variable {W w w' : World} {R R' : Nat → Nat → Prop} {o : Option Addr} {n c cb pb xb k : Nat} {q : AskD × AskP} {qs al : List (AskD × AskP)} {T T' : Nat → Prop} {md : Mds} {ps ps' : List PageD} {es es' : List EntD} {rs rs' : List RunD}
theorem Grow.dt (hG : Grow w w' R R') (h2 : ∀ i, R' 2 i → ¬ MutF R' i) {i : Nat} (hi : i < w.heap.size) (h : Dt T R i) : Dt T R' i := by
 refine ⟨h.1, fun hm => ?_⟩
 rcases hG.g i (mut_all i hm) with ⟨m, hx⟩ | hx
 ·by_cases hm2 : m = 2
  ·subst hm2
   exact h2 i (hG.two i hx) hm
  ·exact h.2 ⟨m, hm2, hx⟩
 ·have := hx.1; omega
theorem WaitR.keepN (h : WaitR W w R o n c qs T) (hc : Ch Non w w') : WaitR W w' R o n c qs T :=
 ⟨h.ln, h.own.keepN hc, fun i hi => ⟨(h.t i hi).1, Nat.lt_of_lt_of_le (h.t i hi).2.1 hc.size, (h.t i hi).2.2⟩, fun q hq => (h.ask q hq).keepN hc⟩
theorem AllR.keepN (h : AllR w R o al T) (hc : Ch Non w w') : AllR w' R o al T := ⟨h.rd.keepN hc, fun q hq => (h.ask q hq).keepN hc⟩
theorem WaitR.grow (h : WaitR W w R o n c qs T) (hG : Grow w w' R R') (h2 : ∀ i, R' 2 i → ¬ MutF R' i) : WaitR W w' R' o n c qs T := by
 refine ⟨h.ln, h.own.keep hG.ch (fun i _ hi hm => ?_), fun i hi => ⟨(h.t i hi).1, Nat.lt_of_lt_of_le (h.t i hi).2.1 hG.ch.size, fun k hk => ?_⟩, fun q hq => (h.ask q hq).step hG.ch (fun i _ hd => hd.2) (fun i hi hd => hG.dt h2 hi hd)⟩
 ·obtain ⟨k, _, hk⟩ := hm
  exact (h.t i hi).2.2 k hk
 ·rcases hG.g i ⟨k, hk⟩ with ⟨m, hx⟩ | hx
  ·exact (h.t i hi).2.2 m hx
  ·have := hx.1
   have := (h.t i hi).2.1
   omega
theorem AllR.grow (h : AllR w R o al T) (hG : Grow w w' R R') (h2 : ∀ i, R' 2 i → ¬ MutF R' i) : AllR w' R' o al T :=
 ⟨Rd.stepD h.rd hG.ch (fun i _ hd => hd.2) (fun i hi hd => hG.dt h2 hi hd), fun q hq => (h.ask q hq).step hG.ch (fun i _ hd => hd.2) (fun i hi hd => hG.dt h2 hi hd)⟩
theorem AllR.ext (h : AllR w R o al T) (hc : Ch T w w') (hT : ∀ i, T' i → Ext T w w' i) : AllR w' R o al T' :=
 have hD : ∀ i, i < w.heap.size → Dt T R i → Dt T' R i := fun i hi hd => ⟨fun ht => (hT i ht).elim hd.1 (fun hx => by have := hx.1; omega), hd.2⟩
 ⟨Rd.stepD h.rd hc (fun i _ hd => hd.1) hD, fun q hq => (h.ask q hq).step hc (fun i _ hd => hd.1) hD⟩
theorem WaitR.tail (h : WaitR W w R o n c (q :: qs) T) : WaitR W w R (if c = 1 then o else o.map (·.add (1 * 5))) (n - 1) (c - 1) qs T := by
 have hn := h.ln
 have hs := h.own.slice (lo := 1) (hi := n) (by rw [hn]; simp) (Nat.le_refl _)
 have hcs : ((((q :: qs).map askE).flatten.drop (1 * 5)).take ((n - 1) * 5)) = (qs.map askE).flatten := by
  rw [List.map_cons, List.flatten_cons, List.drop_left' (by rfl)]
  refine List.take_of_length_le ?_
  have := h.own.len
  rw [List.map_cons, List.flatten_cons, List.length_append] at this
  have h5 : (askE q).length = 5 := rfl
  omega
 rw [hcs] at hs
 exact ⟨by rw [hn]; simp, hs, h.t, fun x hx => h.ask x (List.mem_cons_of_mem _ hx)⟩
set_option maxRecDepth 100000 in
theorem WaitR.push (h : WaitR W w R o n c qs T) (hW : W.heap.size ≤ w.heap.size) (hR : ∀ i, AllF R i → i < w.heap.size) (hq : AskC w q (Dt T R)) (hl : qs.length < 1000) {w1 : World} (e1 : w1 = w.alloc (.cells (askE q).toArray t_ward_Ask (0, 0))) :
  ∃ (o' : Option Addr) (c' : Nat) (w' : World), (Builtin.append_ #[t_S_ward_Ask, t_S_ward_Ask] t_S_ward_Ask #[.slice o n c, .slice (some ⟨w.heap.size, 0, none⟩) 1 1]).run Tryz.prog w1 = .ok (.slice o' (n + 1) c') w' ∧ WaitR W w' R o' (n + 1) c' (qs ++ [q]) (Ext T w w') ∧ Ch T w w' := by
 have hn := h.ln
 obtain ⟨o', c', w2, hr, ho, hc⟩ := Own.push el_S_ward_Ask h.own t_S_ward_Ask e1 rfl (List.all_eq_true.2 (ask_one q)) (by unfold maxLen; omega) (by omega)
 have hs := hc.size
 have hD : ∀ i, i < w.heap.size → Dt T R i → Dt (Ext T w w2) R i := fun i hi hd => ⟨fun ht => ht.elim hd.1 (fun hx => by have := hx.1; omega), hd.2⟩
 refine ⟨o', c', w2, hr, ⟨by simp [hn], ?_, fun i hi => ?_, fun x hx => ?_⟩, hc⟩
 ·rw [List.map_append, List.flatten_append]
  simpa using ho
 ·rcases hi with hi | hi
  ·exact ⟨(h.t i hi).1, Nat.lt_of_lt_of_le (h.t i hi).2.1 hs, (h.t i hi).2.2⟩
  ·have := hi.1
   exact ⟨by omega, hi.2, fun k hk => by have := hR i ⟨k, hk⟩; omega⟩
 ·rcases List.mem_append.1 hx with hx | hx
  ·exact (h.ask x hx).step hc (fun i _ hd => hd.1) hD
  ·rw [List.mem_singleton] at hx
   subst hx
   exact hq.step hc (fun i _ hd => hd.1) hD
theorem Rd.elemK {al : List (AskD × AskP)} {F : Nat → Prop} (h : Rd w o (al.map askE).flatten F) {j : Nat} (hj : j < al.length) : ∃ p : Addr, o = some p ∧ F p.block ∧ p.block < w.heap.size ∧ ∀ (G : Nat → Prop) (w' : World), Ch G w w' → ¬ G p.block → ∀ q v, (askE al[j])[q]? = some v → w'.cell? ((p.add (j * 5)).add q) = some v := by
 obtain ⟨p, hp, hl, hF, hcell⟩ := Rd.elem h (sz := 5) (enc := askE) (fun _ => rfl) (by omega) hj
 refine ⟨p, hp, hF, hl, fun G w' hc hG q v hv => ?_⟩
 rw [← hcell q v hv]
 exact cell_of_block (w := w) (w' := w') (by rw [add_block, add_block]; exact hc.block _ hl hG)
end
end Go.Proofs.YtkbikekbaboclaaGreat.Crew
