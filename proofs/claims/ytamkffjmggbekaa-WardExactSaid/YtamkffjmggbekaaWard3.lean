/- For every ward: what Submit, Take, Cancel, Ids, Of and Back answer and leave; the conditions stand in each theorem. -/
import Derived.Test.YtamkffjmggbekaaWard2
set_option linter.unusedVariables false
set_option linter.unusedSimpArgs false
namespace Go.Proofs.Ytamkffjmggbekaa.Ward
open Go Go.Proofs Go.Proofs.Ytamkffjmggbekaa.V Go.Proofs.Ytamkffjmggbekaa.Vc Go.Proofs.Ytamkffjmggbekaa.Conf Go.RowKit

/-- A ward of one's own. -/
structure WX (W w : World) (wb : Nat) (pages : Int) (qs : List (AskD × AskP)) (F D : Nat → Prop) : Prop where
  x : WdR w wb pages qs F D
  f : Foot W w F
  c : Ch Non W w
section
variable {W w w' w'' : World} {wb n c n' c' : Nat} {pages : Int} {o o' : Option Addr} {q : AskD × AskP} {qs qs' : List (AskD × AskP)} {Fa F F' D D' G : Nat → Prop}
theorem WX.keepN (h : WX W w wb pages qs F D) (hc : Ch Non w w') : WX W w' wb pages qs F D := ⟨h.x.keepN hc, h.f.le hc.size, h.c.andN hc⟩
theorem WX.far (h : WX W w wb pages qs F D) (hc : Ch G w w') (hG : ∀ i, i < w.heap.size → G i → W.heap.size ≤ i ∧ ¬ F i) : WX W w' wb pages qs F D :=
  ⟨h.x.keep (hc.mono (G := fun i => G i ∧ i < w.heap.size) (fun i hi hg => ⟨hg, hi⟩)) (fun i hF hg => (hG i hg.2 hg.1).2 hF), h.f.le hc.size, h.c.trans hc (fun i hi hg => by
    by_cases hw : i < w.heap.size
    · have := (hG i hw hg).1; omega
    · have := h.c.size; omega)⟩
theorem WdC.store (h : WdC w wb pages o c qs Fa F D) (hc : Ch Fa w w') (ho : Own w' t_ward_Ask 5 o' n' c' (qs'.map askE).flatten (Ext Fa w w')) (hn : n' = qs'.length) (hd : ∀ q ∈ qs', AskR w q D) :
    ((∃ u, w'.cell? ⟨wb, 1, none⟩ = some u) ∧ w'.frozen? ⟨wb, 1, none⟩ = false) ∧ ∀ w'' : World, w'' = w'.setCell ⟨wb, 1, none⟩ (.slice o' n' c') → WdC w'' wb pages o' c' qs' (Ext Fa w w') (Ext F w w'') D ∧ Ch F w w'' := by
  have hxl := h.lt _ h.fx
  have hB := h.blk.keep hc (fun hx => (h.fa wb hx).2 rfl)
  refine ⟨hB.ok 1 rfl, fun w'' e2 => ?_⟩
  have hc2 : Ch (· = wb) w' w'' := Ch.set e2 rfl
  have hx : ∀ i, Ext Fa w w' i → i ≠ wb := fun i hi he => by
    subst he
    rcases hi with hi | hi
    · exact (h.fa _ hi).2 rfl
    · have := hi.1; omega
  have hs := hc.size
  have hs2 := hc2.size
  subst hn
  refine ⟨⟨hB.set e2, ho.keep hc2 (fun i _ hi he => hx i hi he), fun q hq => ((hd q hq).keep hc (fun i _ hi => (h.fd i hi).2.2)).keep hc2 (fun i _ hi => (h.fd i hi).2.1), .inl h.fx, fun i hi => ⟨hi.imp (fun k => (h.fa i k).1) (fun k => ⟨k.1, by have := k.2; omega⟩), hx i hi⟩, fun i hi => ⟨.inl (h.fd i hi).1, (h.fd i hi).2.1, fun hE => ?_⟩, fun i hi => ?_⟩, ?_⟩
  · rcases hE with hE | hE
    · exact (h.fd i hi).2.2 hE
    · have := h.lt i (h.fd i hi).1; have := hE.1; omega
  · rcases hi with hi | hi
    · have := h.lt i hi; omega
    · exact hi.2
  · exact (hc.mono (fun i _ hi => (h.fa i hi).1)).same (hc2.mono (fun i _ hi => hi ▸ h.fx))
theorem WX.of (h : WX W w wb pages qs F D) (hx : WdR w' wb pages qs' (Ext F w w') D') (hc : Ch F w w') : WX W w' wb pages qs' (Ext F w w') D' := ⟨hx, h.f.ext h.c hc.size, h.f.hi h.c hc⟩
/-- What comes of it. -/
def WXs (W w w' : World) (wb : Nat) (pages : Int) (al : List AskD) (F : Nat → Prop) : Prop := ∃ (qs' : List (AskD × AskP)) (F' D' : Nat → Prop), WX W w' wb pages qs' F' D' ∧ qs'.map (·.1) = al ∧ (∀ i, F' i → Ext F w w' i) ∧ Ch F w w'
theorem WX.same (h : WX W w wb pages qs F D) (hc : Ch Non w w') : WXs W w w' wb pages (qs.map (·.1)) F := ⟨qs, F, D, h.keepN hc, rfl, fun _ h => .inl h, hc.any⟩
def subV (cf : CfD) (pages : Int) (qs : List (AskD × AskP)) (a : AskD) : Int :=
  if a.id < 1 ∨ a.id > 2147483647 ∨ (a.draws.length : Int) > 32 then 1 else if findQ qs a.id ≥ 0 then 9 else if checkV cf a.most a.prompt ≠ 0 then checkV cf a.most a.prompt else if needN a > pages then 11 else if (qs.length : Int) ≥ 16 then 10 else 0
set_option maxHeartbeats 1000000 in
theorem Submit_spec {b : Nat} {cf : CfD} {wt : ByteArray} (h : WX W w wb pages qs F D) (hb : BrR w b cf wt) (hq : AskR w q G) (hn : qs.length < 900) :
    Calls Try.prog i_ward_Ward_Submit #[.pointer (some ⟨wb, 0, none⟩), .pointer (some ⟨b, 0, none⟩), .agg (askE q).toArray] w (Ret fun v w' => v = .int .i64 (subV cf pages qs q.1) ∧ WXs W w w' wb pages (if subV cf pages qs q.1 = 0 then qs.map (·.1) ++ [q.1] else qs.map (·.1)) F) := by
  refine ward_Ward_Submit.calls _ _ _ _ _ _ _ _ _ _ _ ?_
  unfold ward_Ward_Submit.vc
  have no : ∀ {w'}, Ch Non w w' → ∀ n, subV cf pages qs q.1 = n → n ≠ 0 → (Value.int IntKind.i64 n = .int .i64 (subV cf pages qs q.1) ∧ WXs W w w' wb pages (if subV cf pages qs q.1 = 0 then qs.map (·.1) ++ [q.1] else qs.map (·.1)) F) := fun hc n he h0 => by
    rw [he, if_neg h0]; exact ⟨rfl, h.same hc⟩
  intro w1 e1
  have hB := Blk.new e1
  have hc1 : Ch Non w w1 := Ch.alloc e1
  have s1 : w.heap.size < w1.heap.size := hB.lt
  have hB : Blk w1 w.heap.size (askE q) 32 := hB
  refine ⟨_, hB.cell 0 rfl, fun k => no hc1 1 (by unfold subV; rw [if_pos (.inl (of_decide_eq_true k))]) (by omega), fun k1 => ?_⟩
  refine ⟨_, hB.cell 0 rfl, fun k => no hc1 1 (by unfold subV; rw [if_pos (.inr (.inl (of_decide_eq_true k)))]) (by omega), fun k2 => ?_⟩
  refine ⟨_, _, _, hB.cell 4 rfl, fun k => no hc1 1 (by unfold subV; rw [if_pos (.inr (.inr (of_decide_eq_true k)))]) (by omega), fun k3 => ?_⟩
  have k1 := of_decide_eq_false k1
  have k2 := of_decide_eq_false k2
  have k3 := of_decide_eq_false k3
  have n1 : ¬ (q.1.id < 1 ∨ q.1.id > 2147483647 ∨ (q.1.draws.length : Int) > 32) := by omega
  refine ⟨_, hB.cell 0 rfl, ?_⟩
  refine step_call (at_spec (h.keepN hc1).x (by omega) q.1.id) ?_
  rintro v w2 ⟨rfl, hc2⟩
  have hc02 := hc1.andN hc2
  refine ⟨_, rfl, fun k => no hc02 9 (by unfold subV; rw [if_neg n1, if_pos (of_decide_eq_true k)]) (by omega), fun k4 => ?_⟩
  have k4 := of_decide_eq_false k4
  have hB2 := hB.keepN hc2
  refine ⟨_, hB2.cell 3 rfl, _, _, _, hB2.cell 2 rfl, ?_⟩
  obtain ⟨q1, q2, q3, q4⟩ := hq
  refine step_call (Check_spec (Blk.keepN hb hc02) (q1.keepN hc02) (by omega) q.1.most _) ?_
  rintro v w3 ⟨rfl, hc3⟩
  have hc03 := hc02.andN hc3
  refine ⟨_, rfl, fun k => no hc03 _ (by unfold subV; rw [if_neg n1, if_neg k4, if_pos (ne_of k)]) (ne_of k), fun k5 => ?_⟩
  have k5 := eq_of k5
  have hB3 := hB2.keepN hc3
  obtain ⟨o, c, Fa, hC⟩ := (h.keepN hc03).x
  refine ⟨fun w' => Ch Non w3 w', fun w4 e4 => ⟨Ch.drew e4, _, _, _, _, _, _, _, _, _, ⟨fun w' hc => (hB3.keepN hc).cell 0 rfl, fun w' hc => (hB3.keepN hc).cell 1 rfl, fun w' hc => (hB3.keepN hc).cell 2 rfl, fun w' hc => (hB3.keepN hc).cell 3 rfl, fun w' hc => (hB3.keepN hc).cell 4 rfl⟩, _, fun w' hc => (hC.keepN hc).blk.cell 0 rfl, ?_⟩⟩
  refine step_call (Need_spec w4 q (by omega)) ?_
  rintro v w7 ⟨rfl, hc7⟩
  have hc37 := (Ch.drew (F := Non) e4).andN hc7
  have hc07 := hc03.andN hc37
  have hC7 := hC.keepN hc37
  refine ⟨_, rfl, hc37, fun k => no hc07 11 (by unfold subV; rw [if_neg n1, if_neg k4, if_neg (by omega), if_pos (of_decide_eq_true k)]) (by omega), fun k6 => ?_⟩
  have k6 := of_decide_eq_false k6
  refine ⟨_, _, _, hC7.blk.cell 1 rfl, fun k => no hc07 10 (by unfold subV; rw [if_neg n1, if_neg k4, if_neg (by omega), if_neg k6, if_pos (of_decide_eq_true k)]) (by omega), fun k7 => ?_⟩
  have k7 := of_decide_eq_false k7
  have hz : subV cf pages qs q.1 = 0 := by unfold subV; rw [if_neg n1, if_neg k4, if_neg (by omega), if_neg k6, if_neg k7]
  have hB7 := hB3.keepN hc37
  have hFay : ¬ Fa wb := fun hx => (hC7.fa _ hx).2 rfl
  have hs07 := hc07.size
  have hFaB : ¬ Fa w.heap.size := fun hx => by
    have h1 := (hC7.fa _ hx).1
    have := (h.f _ h1).2; omega
  refine ⟨fun w' => Ch Fa w7 w', fun w8 e8 => ⟨Ch.drew e8, _, _, _, fun w' hc => (hC7.blk.keep hc hFay).cell 1 rfl, _, _, _, _, _, _, _, _, _, ⟨fun w' hc => (hB7.keep hc hFaB).cell 0 rfl, fun w' hc => (hB7.keep hc hFaB).cell 1 rfl, fun w' hc => (hB7.keep hc hFaB).cell 2 rfl, fun w' hc => (hB7.keep hc hFaB).cell 3 rfl, fun w' hc => (hB7.keep hc hFaB).cell 4 rfl⟩, ?_⟩⟩
  have hc08 := hc07.andN (Ch.drew e8)
  refine step_call (Copy_spec (q := q) ⟨q1.keepN hc08, q2.keepN hc08, q3, q4⟩) ?_
  rintro v w11 ⟨p, rfl, hp, hc11⟩
  have hc711 := (Ch.drew (F := Non) e8).andN hc11
  refine ⟨_, _, _, _, _, _, _, _, _, rfl, hc711.any, fun w12 e12 => ?_⟩
  have hc1112 : Ch Non w11 w12 := Ch.alloc e12
  have hc712 := hc711.andN hc1112
  have hN12 : Blk w12 w11.heap.size (askE (q.1, p)) 32 := Blk.new e12
  have hp12 := hp.keepN hc1112
  refine ⟨hc712.any, ?_⟩
  have hs8 : w7.heap.size = w8.heap.size := by subst e8; rfl
  have hs11 := hc11.size
  have hs12 := hc1112.size
  have hC12 := (hC7.keepN hc712).grow (F' := Ext F w7 w12) (D' := fun i => D i ∨ New w8 w11 i) (fun i hi => .inl hi) (fun i hi => .inl hi) (fun i hi => by
    rcases hi with hi | hi
    · exact ⟨.inl (hC.fd i hi).1, (hC.fd i hi).2⟩
    · have hn1 := hi.1
      have hn2 := hi.2
      exact ⟨.inr ⟨by omega, by omega⟩, fun he => by have := hC7.lt _ hC7.fx; omega, fun hx => by have := hC7.lt i (hC7.fa i hx).1; omega⟩) (fun i hi => by
    rcases hi with hi | hi
    · have := hC7.lt i hi; omega
    · exact hi.2)
  obtain ⟨o', c', w13, hr, ho, hc13⟩ := Own.appendRd (c2 := 1) (m := 1) el_S_ward_Ask hC12.own t_S_ward_Ask hN12.rd rfl (ask_one (q.1, p)) (by unfold maxLen; omega) (by omega)
  have hap : (qs.map askE).flatten ++ askE (q.1, p) = ((qs ++ [(q.1, p)]).map askE).flatten := by simp
  rw [hap] at ho
  obtain ⟨hok, hst⟩ := hC12.store hc13 ho (by simp) (fun q' hq' => by
    rcases List.mem_append.1 hq' with hq' | hq'
    · exact hC12.dat q' hq'
    · rw [List.mem_singleton] at hq'
      subst hq'
      exact hp12.mono (fun i _ hi => .inr hi))
  refine ⟨o', _, c', w13, hr, (hc712.any).same hc13, hok, fun w14 e14 => ?_⟩
  obtain ⟨hC14, hc14⟩ := hst w14 e14
  rw [hz, if_pos rfl]
  have hs14 := hc14.size
  have hc012 := hc07.andN hc712
  have hcF : Ch F w w14 := (hc012.any).trans hc14 (fun i hi hf => by
    rcases hf with hf | hf
    · exact hf
    · have := hf.1; omega)
  have hE : ∀ i, Ext (Ext F w7 w12) w12 w14 i → Ext F w w14 i := fun i hi => by
    rcases hi with (hi | hi) | hi
    · exact .inl hi
    · exact .inr ⟨by have := hi.1; omega, by have := hi.2; omega⟩
    · exact .inr ⟨by have := hi.1; have := hc012.size; omega, hi.2⟩
  exact ⟨rfl, qs ++ [(q.1, p)], _, _, ⟨⟨o', c', _, hC14⟩, fun i hi => h.f.ext h.c hcF.size i (hE i hi), h.f.hi h.c hcF⟩, by simp, hE, hcF⟩
theorem Delete_spec (hO : Own w t_ward_Ask 5 o qs.length c (qs.map askE).flatten Fa) {i : Nat} (hi : i < qs.length) (hn : qs.length ≤ 1000000) :
    Calls Try.prog i_slices_Delete #[.slice o qs.length c, .int .i64 i, .int .i64 (IntKind.i64.wrap ((i : Int) + 1))] w (Ret fun v w' => v = .slice o (qs.length - 1) c ∧ Own w' t_ward_Ask 5 o (qs.length - 1) c ((qs.eraseIdx i).map askE).flatten Fa ∧ Ch Fa w w') := by
  refine slices_Delete.calls _ _ _ _ _ ?_
  unfold slices_Delete.vc
  have hnc := hO.2.1
  rw [wrap_id (by omega) (by omega)]
  refine ⟨⟨by omega, by omega, by omega, by omega⟩, iteF (by simp; omega) ?_⟩
  refine ⟨fun _ => True, fun w1 e1 => ⟨trivial, ⟨by omega, by omega⟩, ⟨by omega, by omega⟩, ?_⟩⟩
  have hO1 := hO.keepN (Ch.drew e1)
  have hi1 : ((i : Int) + 1).toNat = i + 1 := by omega
  have hi0 : (i : Int).toNat = i := by omega
  rw [hi1, hi0]
  obtain ⟨w2, hr2, hO2, hc2⟩ := hO1.cut el_S_ward_Ask (i := i) (j := i + 1) (by omega) (by omega) (asks_one qs) t_S_ward_Ask
  refine ⟨_, _, _, w2, hr2, trivial, ⟨by omega, by omega, by omega⟩, ?_⟩
  have hk : i + (qs.length - (i + 1)) = qs.length - 1 := by omega
  rw [hk] at hO2 ⊢
  have hz : zeroB Try.prog t_ward_Ask = true := by kernel_rfl
  obtain ⟨x, w3, hr3, hO3, hc3⟩ := hO2.clear el_S_ward_Ask hz (i := qs.length - 1) (by omega) 0
  have e1' : ((qs.length - 1 : Nat) : Int).toNat = qs.length - 1 := Int.toNat_natCast _
  have e2' : ((qs.length : Nat) : Int).toNat = qs.length := Int.toNat_natCast _
  refine ⟨x, w3, by rw [e1', e2']; exact hr3, rfl, ?_, ((Ch.drew (F := Fa) e1).same hc2).same hc3⟩
  have hlen : ((qs.map askE).flatten.take (i * 5) ++ (qs.map askE).flatten.drop ((i + 1) * 5)).length = (qs.length - 1) * 5 := by
    have := hO.1
    rw [List.length_append, List.length_take, List.length_drop, this]; omega
  rw [List.take_append, List.take_of_length_le (by omega), hlen, Nat.sub_self, List.take_zero, List.append_nil] at hO3
  rw [eraseIdx_td, List.map_append, List.flatten_append, ← flatten_take (enc := askE) (sz := 5) (fun _ => rfl), ← flatten_drop (enc := askE) (sz := 5) (fun _ => rfl)]
  exact hO3
def ask0 : AskD × AskP := (⟨0, 0, [], 0, []⟩, ⟨none, 0, none, 0⟩)
theorem Own.ext {n : Nat} {cs : List Value} {T sz : Nat} (h : Own w T sz o n c cs Fa) : Own w T sz o n c cs (Ext Fa w' w) := h.mono (fun i _ hi => .inl hi)
set_option maxHeartbeats 1000000 in
theorem Take_spec (h : WX W w wb pages qs F D) (hn : qs.length < 1000) : Calls Try.prog i_ward_Ward_Take #[.pointer (some ⟨wb, 0, none⟩)] w (Ret fun v w' => v = .tuple #[.agg (askE (qs.headD ask0)).toArray, .bool (decide (0 < qs.length))] ∧ (∀ q ∈ qs, AskR w' q D) ∧ ∃ F', WX W w' wb pages qs.tail F' D ∧ (∀ i, F' i → Ext F w w' i) ∧ Ch F w w') := by
  refine ward_Ward_Take.calls _ ?_
  unfold ward_Ward_Take.vc
  intro w1 e1
  have hA1 := Blk.new e1
  have hc1 : Ch Non w w1 := Ch.alloc e1
  have s1 : w.heap.size < w1.heap.size := hA1.lt
  obtain ⟨o, c, Fa, hC⟩ := h.x
  have hC1 := hC.keepN hc1
  refine ⟨_, _, _, hC1.blk.cell 1 rfl, fun hz => ?_, fun hz => ?_⟩
  · have hq : qs = [] := List.eq_nil_of_length_eq_zero (by have := eq_of_beq hz; omega)
    subst hq
    refine ⟨⟨hA1.ok 0 rfl, hA1.ok 1 rfl, hA1.ok 2 rfl, hA1.ok 3 rfl, hA1.ok 4 rfl⟩, fun w2 e2 => ?_⟩
    obtain ⟨hA2, hcs⟩ := askBlk (q := ask0) hA1 rfl e2
    have hc2 : Ch Non w w2 := hc1.trans hcs (fun i hi he => by omega)
    exact ⟨_, _, _, _, _, _, _, _, _, ⟨hA2.cell 0 rfl, hA2.cell 1 rfl, hA2.cell 2 rfl, hA2.cell 3 rfl, hA2.cell 4 rfl⟩, rfl, fun q hq => (by cases hq), F, h.keepN hc2, fun i hi => .inl hi, hc2.any⟩
  cases qs with
  | nil => simp at hz
  | cons q r =>
    obtain ⟨p, hp, _, _, hcell⟩ := hC1.own.rd.elem (sz := 5) (enc := askE) (fun _ => rfl) (by omega) (show 0 < (q :: r).length by simp)
    have h0 := hcell 0 _ rfl
    rw [Nat.zero_mul, add_none, add_none] at h0
    have h1 := hcell 1 _ rfl
    rw [Nat.zero_mul, add_none] at h1
    have h2 := hcell 2 _ rfl
    rw [Nat.zero_mul, add_none] at h2
    have h3 := hcell 3 _ rfl
    rw [Nat.zero_mul, add_none] at h3
    have h4 := hcell 4 _ rfl
    rw [Nat.zero_mul, add_none] at h4
    subst hp
    refine ⟨_, _, _, hC1.blk.cell 1 rfl, ⟨by omega, by simp⟩, _, _, _, _, _, _, _, _, _, ⟨h0, h1, h2, h3, h4⟩, fun w3 e3 => ?_⟩
    have hB3 := Blk.new e3
    have s3 : w1.heap.size < w3.heap.size := hB3.lt
    refine ⟨⟨hB3.ok 0 rfl, hB3.ok 1 rfl, hB3.ok 2 rfl, hB3.ok 3 rfl, hB3.ok 4 rfl⟩, fun w4 e4 => ?_⟩
    obtain ⟨hB4, hcs⟩ := askBlk (q := q) hB3 rfl e4
    have hc14 : Ch Non w1 w4 := (Ch.alloc (F := Non) e3).trans hcs (fun i hi he => by omega)
    have hC4 := hC1.keepN hc14
    have hs4 := hcs.size
    refine ⟨_, _, _, hC4.blk.cell 1 rfl, ?_⟩
    refine step_call (Delete_spec hC4.own (i := 0) (by simp) (by omega)) ?_
    rintro v w5 ⟨rfl, ho5, hc5⟩
    obtain ⟨hok, hst⟩ := hC4.store (qs' := r) hc5 (o' := some p) (c' := c) (n' := (q :: r).length - 1) (Own.ext ho5) (by simp) (fun q' hq' => hC4.dat q' (List.mem_cons_of_mem _ hq'))
    refine ⟨_, _, _, rfl, hok, fun w6 e6 => ?_⟩
    obtain ⟨hC6, hc46⟩ := hst w6 e6
    have hF1 : ¬ F w1.heap.size := fun hx => by have := hC.lt _ hx; omega
    have hF0 : ¬ F w.heap.size := fun hx => by have := hC.lt _ hx; omega
    have hB6 := hB4.keep hc46 hF1
    have hA6 := (hA1.keepN hc14).keep hc46 hF0
    have hs6 := hc46.size
    refine ⟨_, _, _, _, _, _, _, _, _, ⟨hB6.cell 0 rfl, hB6.cell 1 rfl, hB6.cell 2 rfl, hB6.cell 3 rfl, hB6.cell 4 rfl⟩, ⟨hA6.ok 0 rfl, hA6.ok 1 rfl, hA6.ok 2 rfl, hA6.ok 3 rfl, hA6.ok 4 rfl⟩, fun w7 e7 => ?_⟩
    obtain ⟨hA7, hc67⟩ := askBlk (q := q) hA6 rfl e7
    have hs7 := hc67.size
    have hC7 := hC6.keep hc67 (fun i hi he => by
      subst he
      rcases hi with hi | hi
      · exact hF0 hi
      · have := hi.1; omega)
    have hc04 : Ch Non w w4 := hc1.andN hc14
    have hcF : Ch F w w7 := ((hc04.any).same hc46).trans hc67 (fun i hi he => by omega)
    have hE : ∀ i, Ext F w4 w6 i → Ext F w w7 i := fun i hi => by
      rcases hi with hi | hi
      · exact .inl hi
      · exact .inr ⟨by have := hi.1; have := hc04.size; omega, by have := hi.2; omega⟩
    refine ⟨_, _, _, _, _, _, _, _, _, ⟨hA7.cell 0 rfl, hA7.cell 1 rfl, hA7.cell 2 rfl, hA7.cell 3 rfl, hA7.cell 4 rfl⟩, ?_, fun q' hq' => ?_, _, ⟨⟨_, _, _, hC7⟩, fun i hi => h.f.ext h.c hcF.size i (hE i hi), h.f.hi h.c hcF⟩, hE, hcF⟩
    · have : decide (0 < (q :: r).length) = true := by simp
      rw [this]; rfl
    · have hd : ∀ i, D i → i < w.heap.size := fun i hi => hC.lt i (hC.fd i hi).1
      have k4 := hC4.dat q' hq'
      exact (((k4.keep hc5 (fun i _ hi => (hC.fd i hi).2.2)).keep (Ch.set (F := (· = wb)) (p := ⟨wb, 1, none⟩) e6 rfl) (fun i _ hi => (hC.fd i hi).2.1))).keep hc67 (fun i _ hi he => by have := hd i hi; omega)
end
end Go.Proofs.Ytamkffjmggbekaa.Ward
