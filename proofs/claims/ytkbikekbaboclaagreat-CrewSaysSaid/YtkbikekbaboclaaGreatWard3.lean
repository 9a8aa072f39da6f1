import Derived.Test.YtkbikekbaboclaaGreatWard2
set_option linter.unusedVariables false
set_option linter.unusedSimpArgs false
namespace Go.Proofs.YtkbikekbaboclaaGreat.Ward
open Go Go.Proofs V Vc Conf Go.RowKit
structure WX (W w : World) (wb : Nat) (pages : Int) (qs : List (AskD × AskP)) (F D : Nat → Prop) : Prop where
 x : WdR w wb pages qs F D
 f : Foot W w F
 c : Ch Non W w
section
variable {W w w' w'' : World} {wb n c n' c' : Nat} {pages : Int} {o o' : Option Addr} {q : AskD × AskP} {qs qs' : List (AskD × AskP)} {Fa F F' D D' G : Nat → Prop}
theorem WX.keepN (h : WX W w wb pages qs F D) (hc : Ch Non w w') : WX W w' wb pages qs F D := ⟨h.x.keepN hc, h.f.le hc.size, h.c.andN hc⟩
theorem WdC.store (h : WdC w wb pages o c qs Fa F D) (hc : Ch Fa w w') (ho : Own w' t_ward_Ask 5 o' n' c' (qs'.map askE).flatten (Ext Fa w w')) (hn : n' = qs'.length) (hd : ∀ q ∈ qs', AskR w q D) :
  ((∃ u, w'.cell? ⟨wb, 1, none⟩ = some u) ∧ w'.frozen? ⟨wb, 1, none⟩ = false) ∧ ∀ w'' : World, w'' = w'.setCell ⟨wb, 1, none⟩ (.slice o' n' c') → WdC w'' wb pages o' c' qs' (Ext Fa w w') (Ext F w w'') D ∧ Ch F w w'' := by
 have hxl := h.lt _ h.fx
 have hB := h.blk.keep hc (fun hx => (h.fa wb hx).2 rfl)
 refine ⟨hB.ok 1 rfl, fun w'' e2 => ?_⟩
 have hc2 : Ch (· = wb) w' w'' := Ch.set e2 rfl
 have hx : ∀ i, Ext Fa w w' i → i ≠ wb := fun i hi he => by
  subst he
  rcases hi with hi | hi
  ·exact (h.fa _ hi).2 rfl
  ·have := hi.1; omega
 have hs := hc.size
 have hs2 := hc2.size
 subst hn
 refine ⟨⟨hB.set e2, ho.keep hc2 (fun i _ hi he => hx i hi he), fun q hq => ((hd q hq).keep hc (fun i _ hi => (h.fd i hi).2.2)).keep hc2 (fun i _ hi => (h.fd i hi).2.1), .inl h.fx, fun i hi => ⟨hi.imp (fun k => (h.fa i k).1) (fun k => ⟨k.1, by have := k.2; omega⟩), hx i hi⟩, fun i hi => ⟨.inl (h.fd i hi).1, (h.fd i hi).2.1, fun hE => ?_⟩, fun i hi => ?_⟩, ?_⟩
 ·rcases hE with hE | hE
  ·exact (h.fd i hi).2.2 hE
  ·have := h.lt i (h.fd i hi).1; have := hE.1; omega
 ·rcases hi with hi | hi
  ·have := h.lt i hi; omega
  ·exact hi.2
 ·exact (hc.mono (fun i _ hi => (h.fa i hi).1)).same (hc2.mono (fun i _ hi => hi ▸ h.fx))
def WXs (W w w' : World) (wb : Nat) (pages : Int) (al : List AskD) (F : Nat → Prop) : Prop := ∃ (qs' : List (AskD × AskP)) (F' D' : Nat → Prop), WX W w' wb pages qs' F' D' ∧ qs'.map (·.1) = al ∧ (∀ i, F' i → Ext F w w' i) ∧ Ch F w w'
theorem WX.same (h : WX W w wb pages qs F D) (hc : Ch Non w w') : WXs W w w' wb pages (qs.map (·.1)) F := ⟨qs, F, D, h.keepN hc, rfl, fun _ h => .inl h, hc.any⟩
def subV (cf : CfD) (pages : Int) (qs : List (AskD × AskP)) (a : AskD) : Int :=
 if a.id < 1 ∨ a.id > 2147483647 ∨ (a.draws.length : Int) > 32 then 1 else if findQ qs a.id ≥ 0 then 9 else if checkV cf a.most a.prompt ≠ 0 then checkV cf a.most a.prompt else if needN a > pages then 11 else if (qs.length : Int) ≥ 16 then 10 else 0
set_option maxHeartbeats 1000000 in
theorem Submit_spec {b : Nat} {cf : CfD} {wt : ByteArray} (h : WX W w wb pages qs F D) (hb : BrR w b cf wt) (hq : AskR w q G) (hn : qs.length < 900) :
  Calls Tryz.prog i_ward_Ward_Submit #[.pointer (some ⟨wb, 0, none⟩), .pointer (some ⟨b, 0, none⟩), .agg (askE q).toArray] w (Ret fun v w' => v = .int .i64 (subV cf pages qs q.1) ∧ WXs W w w' wb pages (if subV cf pages qs q.1 = 0 then qs.map (·.1) ++ [q.1] else qs.map (·.1)) F) := by
 refine ward_Ward_Submit.calls _ _ _ _ _ _ _ _ _ _ _ ?_
 unfold ward_Ward_Submit.vc
 have no : ∀ {w'}, Ch Non w w' → ∀ n, subV cf pages qs q.1 = n → n ≠ 0 → (Value.int IntKind.i64 n = .int .i64 (subV cf pages qs q.1) ∧ WXs W w w' wb pages (if subV cf pages qs q.1 = 0 then qs.map (·.1) ++ [q.1] else qs.map (·.1)) F) := fun hc n he h0 => by
  rw [he, if_neg h0]; exact ⟨rfl, h.same hc⟩
 intro w1 e1
 have hB := Blk.new e1
 have hc1 : Ch Non w w1 := Ch.alloc e1
 have s1 : w.heap.size < w1.heap.size := hB.lt
 have hB : Blk w1 w.heap.size (askE q) t_ward_Ask := hB
 refine ⟨_, hB.cell 0 rfl, fun k => no hc1 1 (by unfold subV; rw [if_pos (.inl (of_decide_eq_true k))]) (by omega), fun k1 => ?_⟩
 refine ⟨_, hB.cell 0 rfl, fun k => no hc1 1 (by unfold subV; rw [if_pos (.inr (.inl (of_decide_eq_true k)))]) (by omega), fun k2 => ?_⟩
 refine ⟨_, _, _, hB.cell 4 rfl, fun k => no hc1 1 (by unfold subV; rw [if_pos (.inr (.inr (of_decide_eq_true k)))]) (by omega), fun k3 => ?_⟩
 have k1 := of_decide_eq_false k1
 have k2 := of_decide_eq_false k2
 have k3 := of_decide_eq_false k3
 have n1 : ¬ (q.1.id < 1 ∨ q.1.id > 2147483647 ∨ (q.1.draws.length : Int) > 32) := by omega
 refine ⟨_, hB.cell 0 rfl, ?_⟩
 refine step_call (at_spec (h.keepN hc1).x (by omega) q.1.id) ?_
 rintro v w2 ⟨rfl, hc2⟩
 have hc02 := hc1.andN hc2
 refine ⟨_, rfl, fun k => no hc02 9 (by unfold subV; rw [if_neg n1, if_pos (of_decide_eq_true k)]) (by omega), fun k4 => ?_⟩
 have k4 := of_decide_eq_false k4
 have hB2 := hB.keepN hc2
 refine ⟨_, hB2.cell 3 rfl, _, _, _, hB2.cell 2 rfl, ?_⟩
 obtain ⟨q1, q2, q3, q4⟩ := hq
 refine step_call (Check_spec (Blk.keepN hb hc02) (q1.keepN hc02) (by omega) q.1.most _) ?_
 rintro v w3 ⟨rfl, hc3⟩
 have hc03 := hc02.andN hc3
 refine ⟨_, rfl, fun k => no hc03 _ (by unfold subV; rw [if_neg n1, if_neg k4, if_pos (ne_of k)]) (ne_of k), fun k5 => ?_⟩
 have k5 := eq_of k5
 have hB3 := hB2.keepN hc3
 obtain ⟨o, c, Fa, hC⟩ := (h.keepN hc03).x
 refine ⟨fun w' => Ch Non w3 w', fun w4 e4 => ⟨Ch.drew e4, _, _, _, _, _, _, _, _, _, ⟨fun w' hc => (hB3.keepN hc).cell 0 rfl, fun w' hc => (hB3.keepN hc).cell 1 rfl, fun w' hc => (hB3.keepN hc).cell 2 rfl, fun w' hc => (hB3.keepN hc).cell 3 rfl, fun w' hc => (hB3.keepN hc).cell 4 rfl⟩, _, fun w' hc => (hC.keepN hc).blk.cell 0 rfl, ?_⟩⟩
 refine step_call (Need_spec w4 q (by omega)) ?_
 rintro v w7 ⟨rfl, hc7⟩
 have hc37 := (Ch.drew (F := Non) e4).andN hc7
 have hc07 := hc03.andN hc37
 have hC7 := hC.keepN hc37
 refine ⟨_, rfl, hc37, fun k => no hc07 11 (by unfold subV; rw [if_neg n1, if_neg k4, if_neg (by omega), if_pos (of_decide_eq_true k)]) (by omega), fun k6 => ?_⟩
 have k6 := of_decide_eq_false k6
 refine ⟨_, _, _, hC7.blk.cell 1 rfl, fun k => no hc07 10 (by unfold subV; rw [if_neg n1, if_neg k4, if_neg (by omega), if_neg k6, if_pos (of_decide_eq_true k)]) (by omega), fun k7 => ?_⟩
 have k7 := of_decide_eq_false k7
 have hz : subV cf pages qs q.1 = 0 := by unfold subV; rw [if_neg n1, if_neg k4, if_neg (by omega), if_neg k6, if_neg k7]
 have hB7 := hB3.keepN hc37
 have hFay : ¬ Fa wb := fun hx => (hC7.fa _ hx).2 rfl
 have hs07 := hc07.size
 have hFaB : ¬ Fa w.heap.size := fun hx => by
  have h1 := (hC7.fa _ hx).1
  have := (h.f _ h1).2; omega
 refine ⟨fun w' => Ch Fa w7 w', fun w8 e8 => ⟨Ch.drew e8, _, _, _, fun w' hc => (hC7.blk.keep hc hFay).cell 1 rfl, _, _, _, _, _, _, _, _, _, ⟨fun w' hc => (hB7.keep hc hFaB).cell 0 rfl, fun w' hc => (hB7.keep hc hFaB).cell 1 rfl, fun w' hc => (hB7.keep hc hFaB).cell 2 rfl, fun w' hc => (hB7.keep hc hFaB).cell 3 rfl, fun w' hc => (hB7.keep hc hFaB).cell 4 rfl⟩, ?_⟩⟩
 have hc08 := hc07.andN (Ch.drew e8)
 refine step_call (Copy_spec (q := q) ⟨q1.keepN hc08, q2.keepN hc08, q3, q4⟩) ?_
 rintro v w11 ⟨p, rfl, hp, hc11⟩
 have hc711 := (Ch.drew (F := Non) e8).andN hc11
 refine ⟨_, _, _, _, _, _, _, _, _, rfl, hc711.any, fun w12 e12 => ?_⟩
 have hc1112 : Ch Non w11 w12 := Ch.alloc e12
 have hc712 := hc711.andN hc1112
 have hN12 : Blk w12 w11.heap.size (askE (q.1, p)) t_ward_Ask := Blk.new e12
 have hp12 := hp.keepN hc1112
 refine ⟨hc712.any, ?_⟩
 have hs8 : w7.heap.size = w8.heap.size := by subst e8; rfl
 have hs11 := hc11.size
 have hs12 := hc1112.size
 have hC12 := (hC7.keepN hc712).grow (F' := Ext F w7 w12) (D' := fun i => D i ∨ New w8 w11 i) (fun i hi => .inl hi) (fun i hi => .inl hi) (fun i hi => by
  rcases hi with hi | hi
  ·exact ⟨.inl (hC.fd i hi).1, (hC.fd i hi).2⟩
  ·have hn1 := hi.1
   have hn2 := hi.2
   exact ⟨.inr ⟨by omega, by omega⟩, fun he => by have := hC7.lt _ hC7.fx; omega, fun hx => by have := hC7.lt i (hC7.fa i hx).1; omega⟩) (fun i hi => by
  rcases hi with hi | hi
  ·have := hC7.lt i hi; omega
  ·exact hi.2)
 obtain ⟨o', c', w13, hr, ho, hc13⟩ := Own.appendRd (c2 := 1) (m := 1) el_S_ward_Ask hC12.own t_S_ward_Ask hN12.rd rfl (ask_one (q.1, p)) (by unfold maxLen; omega) (by omega)
 have hap : (qs.map askE).flatten ++ askE (q.1, p) = ((qs ++ [(q.1, p)]).map askE).flatten := by simp
 rw [hap] at ho
 obtain ⟨hok, hst⟩ := hC12.store hc13 ho (by simp) (fun q' hq' => by
  rcases List.mem_append.1 hq' with hq' | hq'
  ·exact hC12.dat q' hq'
  ·rw [List.mem_singleton] at hq'
   subst hq'
   exact hp12.mono (fun i _ hi => .inr hi))
 refine ⟨o', _, c', w13, hr, (hc712.any).same hc13, hok, fun w14 e14 => ?_⟩
 obtain ⟨hC14, hc14⟩ := hst w14 e14
 rw [hz, if_pos rfl]
 have hs14 := hc14.size
 have hc012 := hc07.andN hc712
 have hcF : Ch F w w14 := (hc012.any).trans hc14 (fun i hi hf => by
  rcases hf with hf | hf
  ·exact hf
  ·have := hf.1; omega)
 have hE : ∀ i, Ext (Ext F w7 w12) w12 w14 i → Ext F w w14 i := fun i hi => by
  rcases hi with (hi | hi) | hi
  ·exact .inl hi
  ·exact .inr ⟨by have := hi.1; omega, by have := hi.2; omega⟩
  ·exact .inr ⟨by have := hi.1; have := hc012.size; omega, hi.2⟩
 exact ⟨rfl, qs ++ [(q.1, p)], _, _, ⟨⟨o', c', _, hC14⟩, fun i hi => h.f.ext h.c hcF.size i (hE i hi), h.f.hi h.c hcF⟩, by simp, hE, hcF⟩
def ask0 : AskD × AskP := (⟨0, 0, [], 0, []⟩, ⟨none, 0, none, 0⟩)
end
end Go.Proofs.YtkbikekbaboclaaGreat.Ward
