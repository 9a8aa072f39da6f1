/- For every ward: what Cancel, Ids, Of and Back answer and leave, and what all answer where there is none; the conditions stand in each theorem. -/
import Derived.Test.YtamkffjmggbekaaWard3
import Derived.Test.YtamkffjmggbekaaVcWardN
set_option linter.unusedVariables false
set_option linter.unusedSimpArgs false
namespace Go.Proofs.Ytamkffjmggbekaa.Ward
open Go Go.Proofs Go.Proofs.Ytamkffjmggbekaa.V Go.Proofs.Ytamkffjmggbekaa.Vc Go.Proofs.Ytamkffjmggbekaa.Conf Go.RowKit

section
variable {W w w' w'' : World} {wb n c n' c' : Nat} {pages : Int} {o o' : Option Addr} {q : AskD × AskP} {qs qs' : List (AskD × AskP)} {Fa F F' D D' G : Nat → Prop}
theorem findQ_lt {id : Int} (h : findQ qs id ≥ 0) : ∃ i : Nat, findQ qs id = i ∧ i < qs.length ∧ qs.findIdx (idB id) = i := by
  unfold findQ at h ⊢
  split
  · rename_i hlt; exact ⟨_, rfl, hlt, rfl⟩
  · rename_i hlt; rw [if_neg hlt] at h; omega
theorem Cancel_spec (h : WX W w wb pages qs F D) (hn : qs.length < 1000) (id : Int) : Calls Try.prog i_ward_Ward_Cancel #[.pointer (some ⟨wb, 0, none⟩), .int .i64 id] w (Ret fun v w' => v = .int .i64 (if findQ qs id ≥ 0 then 0 else 8) ∧ (∀ q ∈ qs, AskR w' q D) ∧ ∃ F', WX W w' wb pages (if findQ qs id ≥ 0 then qs.eraseIdx (qs.findIdx (idB id)) else qs) F' D ∧ (∀ i, F' i → Ext F w w' i) ∧ Ch F w w') := by
  refine ward_Ward_Cancel.calls _ _ ?_
  unfold ward_Ward_Cancel.vc
  refine step_call (at_spec h.x hn id) ?_
  rintro v w1 ⟨rfl, hc1⟩
  obtain ⟨o, c, Fa, hC⟩ := (h.keepN hc1).x
  refine ⟨_, rfl, fun k => ?_, fun k => ?_⟩
  · have k : ¬ findQ qs id ≥ 0 := by have := of_decide_eq_true k; omega
    rw [if_neg k, if_neg k]
    exact ⟨rfl, hC.dat, F, h.keepN hc1, fun i hi => .inl hi, hc1.any⟩
  · have k : findQ qs id ≥ 0 := by have := of_decide_eq_false k; omega
    rw [if_pos k, if_pos k]
    obtain ⟨i, e1, hi, e2⟩ := findQ_lt k
    rw [e1, e2]
    refine ⟨_, _, _, hC.blk.cell 1 rfl, ?_⟩
    refine step_call (Delete_spec hC.own hi (by omega)) ?_
    rintro v w2 ⟨rfl, ho2, hc2⟩
    obtain ⟨hok, hst⟩ := hC.store (qs' := qs.eraseIdx i) hc2 (o' := o) (c' := c) (n' := qs.length - 1) (Own.ext ho2) (by rw [List.length_eraseIdx, if_pos hi]) (fun q' hq' => hC.dat q' (List.mem_of_mem_eraseIdx hq'))
    refine ⟨_, _, _, rfl, hok, fun w3 e3 => ?_⟩
    obtain ⟨hC3, hc3⟩ := hst w3 e3
    have hcF : Ch F w w3 := (hc1.any).same hc3
    have hs1 := hc1.size
    have hE : ∀ i, Ext F w1 w3 i → Ext F w w3 i := fun i hi => by
      rcases hi with hi | hi
      · exact .inl hi
      · exact .inr ⟨by have := hi.1; omega, hi.2⟩
    refine ⟨rfl, fun q' hq' => ?_, _, ⟨⟨_, _, _, hC3⟩, fun i hi => h.f.ext h.c hcF.size i (hE i hi), h.f.hi h.c hcF⟩, hE, hcF⟩
    exact ((hC.dat q' hq').keep hc2 (fun i _ hi => (hC.fd i hi).2.2)).keep (Ch.set (F := (· = wb)) (p := ⟨wb, 1, none⟩) e3 rfl) (fun i _ hi => (hC.fd i hi).2.1)
set_option maxHeartbeats 1000000 in
theorem Back_spec (h : WX W w wb pages qs F D) (hq : AskR w q G) (hn : qs.length < 900) :
    Calls Try.prog i_ward_Ward_Back #[.pointer (some ⟨wb, 0, none⟩), .agg (askE q).toArray] w (Ret fun v w' => v = .int .i64 (if findQ qs q.1.id ≥ 0 then 9 else 0) ∧ WXs W w w' wb pages (if findQ qs q.1.id ≥ 0 then qs.map (·.1) else q.1 :: qs.map (·.1)) F) := by
  refine ward_Ward_Back.calls _ _ _ _ _ _ _ _ _ _ ?_
  unfold ward_Ward_Back.vc
  intro w1 e1
  have hB := Blk.new e1
  have hc1 : Ch Non w w1 := Ch.alloc e1
  have s1 : w.heap.size < w1.heap.size := hB.lt
  have hB : Blk w1 w.heap.size (askE q) 32 := hB
  refine ⟨_, hB.cell 0 rfl, ?_⟩
  refine step_call (at_spec (h.keepN hc1).x (by omega) q.1.id) ?_
  rintro v w7 ⟨rfl, hc7⟩
  have hc07 := hc1.andN hc7
  refine ⟨_, rfl, fun k => ?_, fun k => ?_⟩
  · have k := of_decide_eq_true k
    rw [if_pos k, if_pos k]
    exact ⟨rfl, h.same hc07⟩
  have k := of_decide_eq_false k
  rw [if_neg k, if_neg k]
  obtain ⟨q1, q2, q3, q4⟩ := hq
  obtain ⟨o, c, Fa, hC7⟩ := (h.keepN hc07).x
  have hB7 := hB.keepN hc7
  have hFay : ¬ Fa wb := fun hx => (hC7.fa _ hx).2 rfl
  have hs07 := hc07.size
  have hFaB : ¬ Fa w.heap.size := fun hx => by
    have h1 := (hC7.fa _ hx).1
    have := (h.f _ h1).2; omega
  refine ⟨fun w' => Ch Fa w7 w', fun w8 e8 => ⟨Ch.drew e8, _, _, _, fun w' hc => (hC7.blk.keep hc hFay).cell 1 rfl, _, _, _, _, _, _, _, _, _, ⟨fun w' hc => (hB7.keep hc hFaB).cell 0 rfl, fun w' hc => (hB7.keep hc hFaB).cell 1 rfl, fun w' hc => (hB7.keep hc hFaB).cell 2 rfl, fun w' hc => (hB7.keep hc hFaB).cell 3 rfl, fun w' hc => (hB7.keep hc hFaB).cell 4 rfl⟩, ?_⟩⟩
  have hc08 := hc07.andN (Ch.drew e8)
  refine step_call (Copy_spec (q := q) ⟨q1.keepN hc08, q2.keepN hc08, q3, q4⟩) ?_
  rintro v w11 ⟨p, rfl, hp, hc11⟩
  have hc711 := (Ch.drew (F := Non) e8).andN hc11
  refine ⟨_, _, _, _, _, _, _, _, _, rfl, hc711.any, fun w12 e12 => ?_⟩
  have hc1112 : Ch Non w11 w12 := Ch.alloc e12
  have hc712 := hc711.andN hc1112
  have hN12 : Blk w12 w11.heap.size (askE (q.1, p)) 32 := Blk.new e12
  have hp12 := hp.keepN hc1112
  refine ⟨hc712.any, ?_⟩
  have hs8 : w7.heap.size = w8.heap.size := by subst e8; rfl
  have hs11 := hc11.size
  have hs12 := hc1112.size
  have hC12 := (hC7.keepN hc712).grow (F' := Ext F w7 w12) (D' := fun i => D i ∨ New w8 w11 i) (fun i hi => .inl hi) (fun i hi => .inl hi) (fun i hi => by
    rcases hi with hi | hi
    · exact ⟨.inl (hC7.fd i hi).1, (hC7.fd i hi).2⟩
    · have hn1 := hi.1
      have hn2 := hi.2
      exact ⟨.inr ⟨by omega, by omega⟩, fun he => by have := hC7.lt _ hC7.fx; omega, fun hx => by have := hC7.lt i (hC7.fa i hx).1; omega⟩) (fun i hi => by
    rcases hi with hi | hi
    · have := hC7.lt i hi; omega
    · exact hi.2)
  refine step_call (Insert_spec hC12.own (asks_one qs) hN12 rfl (ask_one (q.1, p)) (fun hx => by have := hC7.lt _ (hC7.fa _ hx).1; omega) (by omega)) ?_
  rintro v w13 ⟨o', c', rfl, ho, hc13⟩
  have hap : askE (q.1, p) ++ (qs.map askE).flatten = (((q.1, p) :: qs).map askE).flatten := by simp
  rw [hap] at ho
  obtain ⟨hok, hst⟩ := hC12.store hc13 ho rfl (fun q' hq' => by
    rcases List.mem_cons.1 hq' with rfl | hq'
    · exact hp12.mono (fun i _ hi => .inr hi)
    · exact hC12.dat q' hq')
  refine ⟨o', _, c', rfl, (hc712.any).same hc13, hok, fun w14 e14 => ?_⟩
  obtain ⟨hC14, hc14⟩ := hst w14 e14
  have hs14 := hc14.size
  have hc012 := hc07.andN hc712
  have hcF : Ch F w w14 := (hc012.any).trans hc14 (fun i hi hf => by
    rcases hf with hf | hf
    · exact hf
    · have := hf.1; omega)
  have hE : ∀ i, Ext (Ext F w7 w12) w12 w14 i → Ext F w w14 i := fun i hi => by
    rcases hi with (hi | hi) | hi
    · exact .inl hi
    · exact .inr ⟨by have := hi.1; omega, by have := hi.2; omega⟩
    · exact .inr ⟨by have := hi.1; have := hc012.size; omega, hi.2⟩
  exact ⟨rfl, (q.1, p) :: qs, _, _, ⟨⟨o', c', _, hC14⟩, fun i hi => h.f.ext h.c hcF.size i (hE i hi), h.f.hi h.c hcF⟩, rfl, hE, hcF⟩
theorem Ids_spec (h : WX W w wb pages qs F D) (hn : qs.length < 1000) : Calls Try.prog i_ward_Ward_Ids #[.pointer (some ⟨wb, 0, none⟩)] w (Ret fun v w' => ∃ (o : Option Addr) (c : Nat), v = .slice o qs.length c ∧ Rd w' o ((qs.map (·.1.id)).map (.int .i64)) (New w w') ∧ Ch Non w w') := by
  obtain ⟨o, c, Fa, hC⟩ := h.x
  refine ward_Ward_Ids.calls _ ?_
  unfold ward_Ward_Ids.vc
  refine ⟨_, _, _, hC.blk.cell 1 rfl, fun oA oN oC i k w' => ∃ j : Nat, i = j ∧ oN = j ∧ j ≤ qs.length ∧ k = qs.length - j ∧ Gr Non w w' t_int 1 oA j oC (((qs.take j).map (·.1.id)).map (.int .i64)), ⟨_, 0, rfl, rfl, Nat.zero_le _, rfl, Gr.nil (Ch.refl _ _)⟩, ?_⟩
  rintro jk oA oN oC i k w1 ⟨j, rfl, rfl, hj, rfl, hG⟩
  refine ⟨fun hlt => ?_, fun hge => ?_⟩
  · have hlt : oN < qs.length := by have := of_decide_eq_true hlt; omega
    obtain ⟨p, hp, _, _, hcell⟩ := (hC.keepN hG.2).own.rd.elem (sz := 5) (enc := askE) (fun _ => rfl) (by omega) hlt
    have h0 := hcell 0 _ rfl
    rw [add_none] at h0
    subst hp
    have hjj : (oN : Int).toNat = oN := Int.toNat_natCast oN
    rw [hjj]
    refine ⟨⟨by omega, by omega⟩, _, _, _, _, _, _, _, _, _, ⟨h0, hcell 1 _ rfl, hcell 2 _ rfl, hcell 3 _ rfl, hcell 4 _ rfl⟩, fun w2 e2 => ?_⟩
    have hB2 := Blk.new e2
    have s2 : w1.heap.size < w2.heap.size := hB2.lt
    refine ⟨⟨hB2.ok 0 rfl, hB2.ok 1 rfl, hB2.ok 2 rfl, hB2.ok 3 rfl, hB2.ok 4 rfl⟩, fun w3 e3 => ?_⟩
    obtain ⟨hB3, hcs⟩ := askBlk (q := qs[oN]) hB2 rfl e3
    have hc13 : Ch Non w1 w3 := (Ch.alloc (F := Non) e2).trans hcs (fun i hi he => by omega)
    refine ⟨_, hB3.cell 0 rfl, fun w4 e4 => ?_⟩
    have hG3 := hG.keepN hc13
    obtain ⟨o5, c5, w5, r5, hG5, hc5⟩ := hG3.push el_S_int t_S_int e4 rfl rfl (by omega) (by omega)
    refine ⟨o5, _, c5, w5, r5, qs.length - (oN + 1), by omega, oN + 1, by rw [wrap_id (by omega) (by omega)]; rfl, rfl, hlt, rfl, ?_⟩
    rw [take_snoc qs oN hlt, List.map_append, List.map_append]
    exact hG5
  · have hjn : oN = qs.length := by have := of_decide_eq_false hge; omega
    subst hjn
    rw [List.take_length] at hG
    exact ⟨oA, oC, rfl, hG.rd, hG.2⟩
theorem Index_spec {xs : List Int} (hr : Rd w o (xs.map (.int .i64)) G) (hl : xs.length ≤ 1000000) (c : Nat) (x : Int) : Calls Try.prog i_slices_Index #[.slice o xs.length c, .int .i64 x] w (Ret fun v w' => ∃ i : Int, v = .int .i64 i ∧ decide (i ≥ 0) = decide (x ∈ xs) ∧ w' = w) := by
  refine slices_Index.calls _ _ _ _ ?_
  unfold slices_Index.vc
  refine ⟨fun i k w' => ∃ j : Nat, i = j ∧ j ≤ xs.length ∧ k = xs.length - j ∧ w' = w ∧ ¬ x ∈ xs.take j, ⟨_, 0, rfl, Nat.zero_le _, rfl, rfl, by simp⟩, ?_⟩
  rintro jk i k w1 ⟨j, rfl, hj, rfl, rfl, hno⟩
  refine ⟨fun hlt => ?_, fun hge => ?_⟩
  · have hlt : j < xs.length := by have := of_decide_eq_true hlt; omega
    have hjj : (j : Int).toNat * 1 = j := by omega
    rw [hjj]
    refine ⟨⟨by omega, by omega⟩, hr.typed hlt fun p hp => ⟨_, hp, fun h => ⟨_, rfl, ?_, rfl⟩, fun h => ⟨xs.length - (j + 1), by omega, j + 1, by rw [wrap_id (by omega) (by omega)]; rfl, hlt, rfl, rfl, ?_⟩⟩⟩
    · have h := eq_of_beq h
      subst h
      rw [decide_eq_true (by omega), decide_eq_true (List.getElem_mem hlt)]
    · rw [take_snoc xs j hlt, List.mem_append]
      rintro (h1 | h1)
      · exact hno h1
      · rw [List.mem_singleton] at h1
        subst h1
        simp at h
  · have hjn : j = xs.length := by have := of_decide_eq_false hge; omega
    subst hjn
    rw [List.take_length] at hno
    exact ⟨_, rfl, by rw [decide_eq_false hno]; rfl, rfl⟩
theorem Contains_spec {xs : List Int} (hr : Rd w o (xs.map (.int .i64)) G) (hl : xs.length ≤ 1000000) (c : Nat) (x : Int) : Calls Try.prog i_slices_Contains #[.slice o xs.length c, .int .i64 x] w (Ret fun v w' => v = .bool (decide (x ∈ xs)) ∧ w' = w) := by
  refine slices_Contains.calls _ _ _ _ ?_
  unfold slices_Contains.vc
  refine step_call (Index_spec hr hl c x) ?_
  rintro v w1 ⟨i, rfl, hi, rfl⟩
  exact ⟨_, rfl, by rw [hi], rfl⟩
def ofQ (vs : List Int) (qs : List (AskD × AskP)) : List Int := (qs.filter fun q => decide (q.1.ver ∈ vs)).map (·.1.id)
theorem ofQ_snoc (vs : List Int) (qs : List (AskD × AskP)) (q : AskD × AskP) : ofQ vs (qs ++ [q]) = ofQ vs qs ++ (if decide (q.1.ver ∈ vs) = true then [q.1.id] else []) := by
  unfold ofQ
  rw [List.filter_append, List.map_append, List.filter_cons]
  split <;> simp
theorem ofQ_len (vs : List Int) (qs : List (AskD × AskP)) : (ofQ vs qs).length ≤ qs.length := by unfold ofQ; rw [List.length_map]; exact List.length_filter_le _ _
theorem Of_spec {vo : Option Addr} {vs : List Int} (h : WX W w wb pages qs F D) (hn : qs.length < 1000) (hr : Rd w vo (vs.map (.int .i64)) G) (hl : vs.length ≤ 1000000) (vc : Nat) :
    Calls Try.prog i_ward_Ward_Of #[.pointer (some ⟨wb, 0, none⟩), .slice vo vs.length vc] w (Ret fun v w' => ∃ (o : Option Addr) (c : Nat), v = .slice o (ofQ vs qs).length c ∧ Rd w' o ((ofQ vs qs).map (.int .i64)) (New w w') ∧ Ch Non w w') := by
  obtain ⟨o, c, Fa, hC⟩ := h.x
  refine ward_Ward_Of.calls _ _ _ _ ?_
  unfold ward_Ward_Of.vc
  refine ⟨_, _, _, hC.blk.cell 1 rfl, fun oA oN oC i k w' => ∃ j : Nat, i = j ∧ oN = (ofQ vs (qs.take j)).length ∧ j ≤ qs.length ∧ k = qs.length - j ∧ Gr Non w w' t_int 1 oA oN oC ((ofQ vs (qs.take j)).map (.int .i64)), ⟨_, 0, rfl, rfl, Nat.zero_le _, rfl, Gr.nil (Ch.refl _ _)⟩, ?_⟩
  rintro jk oA oN oC i k w1 ⟨j, rfl, hoN, hj, rfl, hG⟩
  refine ⟨fun hlt => ?_, fun hge => ?_⟩
  · have hlt : j < qs.length := by have := of_decide_eq_true hlt; omega
    obtain ⟨p, hp, _, _, hcell⟩ := (hC.keepN hG.2).own.rd.elem (sz := 5) (enc := askE) (fun _ => rfl) (by omega) hlt
    have h0 := hcell 0 _ rfl
    rw [add_none] at h0
    subst hp
    have hjj : (j : Int).toNat = j := Int.toNat_natCast j
    rw [hjj]
    refine ⟨⟨by omega, by omega⟩, _, _, _, _, _, _, _, _, _, ⟨h0, hcell 1 _ rfl, hcell 2 _ rfl, hcell 3 _ rfl, hcell 4 _ rfl⟩, fun w2 e2 => ?_⟩
    have hB2 := Blk.new e2
    have s2 : w1.heap.size < w2.heap.size := hB2.lt
    refine ⟨⟨hB2.ok 0 rfl, hB2.ok 1 rfl, hB2.ok 2 rfl, hB2.ok 3 rfl, hB2.ok 4 rfl⟩, fun w3 e3 => ?_⟩
    obtain ⟨hB3, hcs⟩ := askBlk (q := qs[j]) hB2 rfl e3
    have hc13 : Ch Non w1 w3 := (Ch.alloc (F := Non) e2).trans hcs (fun i hi he => by omega)
    refine ⟨_, hB3.cell 1 rfl, ?_⟩
    refine step_call (Contains_spec ((hr.keepN hG.2).keepN hc13) hl vc _) ?_
    rintro v w4 ⟨rfl, rfl⟩
    have hG3 := hG.keepN hc13
    have hsn := ofQ_snoc vs (qs.take j) qs[j]
    rw [← take_snoc qs j hlt] at hsn
    have hle := ofQ_len vs (qs.take j)
    have hlt2 : (qs.take j).length ≤ j := by rw [List.length_take]; omega
    have hq1 : IntKind.i64.wrap ((j : Int) + 1) = ((j + 1 : Nat) : Int) := by rw [wrap_id (by omega) (by omega)]; rfl
    refine ⟨_, rfl, fun hin => ?_, fun hout => ?_⟩
    · rw [if_pos hin] at hsn
      refine ⟨_, hB3.cell 0 rfl, fun w5 e5 => ?_⟩
      obtain ⟨o6, c6, w6, r6, hG6, hc6⟩ := hG3.push el_S_int t_S_int e5 rfl rfl (by omega) (by omega)
      refine ⟨o6, _, c6, w6, r6, qs.length - (j + 1), by omega, j + 1, hq1, by rw [hsn, List.length_append, hoN]; rfl, hlt, rfl, ?_⟩
      rw [hsn, List.map_append]
      exact hG6
    · have hout2 : ¬ decide (qs[j].1.ver ∈ vs) = true := by rw [hout]; decide
      rw [if_neg hout2, List.append_nil] at hsn
      exact ⟨qs.length - (j + 1), by omega, j + 1, hq1, by rw [hsn]; exact hoN, hlt, rfl, by rw [hsn]; exact hG3⟩
  · have hjn : j = qs.length := by have := of_decide_eq_false hge; omega
    subst hjn
    rw [List.take_length] at hG hoN
    subst hoN
    exact ⟨oA, oC, rfl, hG.rd, hG.2⟩
end
section
variable {w : World}
theorem Submit_nil (q : AskD × AskP) (b : Nat) : Calls Try.prog i_ward_Ward_Submit #[.pointer none, .pointer (some ⟨b, 0, none⟩), .agg (askE q).toArray] w (Ret fun v w' => v = .int .i64 2 ∧ Ch Non w w') :=
  ward_Ward_Submit.calls_nil _ _ _ _ _ _ _ _ _ _ (fun _ e => ⟨rfl, Ch.alloc e⟩)
theorem Submit_nb (q : AskD × AskP) (wb : Nat) : Calls Try.prog i_ward_Ward_Submit #[.pointer (some ⟨wb, 0, none⟩), .pointer none, .agg (askE q).toArray] w (Ret fun v w' => v = .int .i64 2 ∧ Ch Non w w') :=
  ward_Ward_Submit.calls_nb _ _ _ _ _ _ _ _ _ _ (fun _ e => ⟨rfl, Ch.alloc e⟩)
theorem Back_nil (q : AskD × AskP) : Calls Try.prog i_ward_Ward_Back #[.pointer none, .agg (askE q).toArray] w (Ret fun v w' => v = .int .i64 2 ∧ Ch Non w w') :=
  ward_Ward_Back.calls_nil _ _ _ _ _ _ _ _ _ (fun _ e => ⟨rfl, Ch.alloc e⟩)
theorem Cancel_nil (id : Int) : Calls Try.prog i_ward_Ward_Cancel #[.pointer none, .int .i64 id] w (Ret fun v w' => v = .int .i64 2 ∧ w' = w) := ward_Ward_Cancel.calls_nil _ ⟨rfl, rfl⟩
theorem Ids_nil : Calls Try.prog i_ward_Ward_Ids #[.pointer none] w (Ret fun v w' => v = .slice none 0 0 ∧ w' = w) := ward_Ward_Ids.calls_nil ⟨rfl, rfl⟩
theorem Of_nil (o : Option Addr) (n c : Nat) : Calls Try.prog i_ward_Ward_Of #[.pointer none, .slice o n c] w (Ret fun v w' => v = .slice none 0 0 ∧ w' = w) := ward_Ward_Of.calls_nil _ _ _ ⟨rfl, rfl⟩
theorem Take_nil : Calls Try.prog i_ward_Ward_Take #[.pointer none] w (Ret fun v w' => v = .tuple #[.agg (askE ask0).toArray, .bool false] ∧ Ch Non w w') := by
  refine ward_Ward_Take.calls_nil ?_
  unfold ward_Ward_Take.vc_nil
  intro w1 e1
  have hA1 := Blk.new e1
  refine ⟨⟨hA1.ok 0 rfl, hA1.ok 1 rfl, hA1.ok 2 rfl, hA1.ok 3 rfl, hA1.ok 4 rfl⟩, fun w2 e2 => ?_⟩
  obtain ⟨hA2, hcs⟩ := askBlk (q := ask0) hA1 rfl e2
  exact ⟨_, _, _, _, _, _, _, _, _, ⟨hA2.cell 0 rfl, hA2.cell 1 rfl, hA2.cell 2 rfl, hA2.cell 3 rfl, hA2.cell 4 rfl⟩, rfl, (Ch.alloc e1).trans hcs (fun i hi he => by omega)⟩
end
end Go.Proofs.Ytamkffjmggbekaa.Ward
