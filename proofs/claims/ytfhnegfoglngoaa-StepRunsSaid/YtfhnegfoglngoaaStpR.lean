/- StepRuns's contract: of all shapes, weights and tokens the Go function answers true and leaves what was there; the conditions stand in each theorem. -/
import Derived.Test.YtfhnegfoglngoaaStpL
import Derived.Test.YtfhnegfoglngoaaVcStpR
set_option linter.unusedVariables false
set_option linter.unusedSimpArgs false
namespace Go.Proofs.Ytfhnegfoglngoaa.Stp
open Go Go.Proofs Go.Proofs.Ytfhnegfoglngoaa.V Go.Proofs.Ytfhnegfoglngoaa.Vc Go.Proofs.Ytfhnegfoglngoaa.Conf Go.Proofs.Ytfhnegfoglngoaa.Brain Go.Proofs.Ytfhnegfoglngoaa.Num Go.Proofs.Ytfhnegfoglngoaa.IntsT Go.RowKit

section
variable {w w' : World} {o : Option Addr} {n cp : Nat} {es : List Ent} {F : Nat → Prop}
/-- An element of a row of entries, that stays. -/
theorem PV.get (h : PV w (.slice o n cp) es F) {j : Nat} (hj : j < es.length) : ∃ (a : Addr) (o1 : Option Addr) (c1 : Nat) (o2 : Option Addr) (c2 : Nat), o = some a ∧ n = es.length ∧ EV w (.slice o1 es[j].1.length c1, .slice o2 es[j].2.length c2) es[j] F ∧
    (∀ w', Ch Non w w' → w'.cell? (a.add (j * 2)) = some (.slice o1 es[j].1.length c1) ∧ w'.cell? ((a.add (j * 2)).add 1) = some (.slice o2 es[j].2.length c2)) := by
  obtain ⟨o', c', ps, e, h1, h2, hr, ha⟩ := h
  injection e with e1 e2 e3
  subst e1; subst e2; subst e3
  have hp : j < ps.length := by rw [ha.length]; exact hj
  have hE := ha.get j hp hj
  obtain ⟨a, had, _, _, hc⟩ := Rd.elem (sz := 2) (enc := pairE) hr (fun _ => rfl) (by omega) hp
  obtain ⟨o1, c1, o2, c2, heq⟩ := ents_of hE
  have hE' := hE
  rw [heq] at hE'
  refine ⟨a, o1, c1, o2, c2, had, rfl, hE', fun w' k => ?_⟩
  obtain ⟨a', had', _, _, hc'⟩ := Rd.elem (sz := 2) (enc := pairE) (hr.keepN k) (fun _ => rfl) (by omega) hp
  rw [had] at had'
  injection had' with had'
  subst had'
  have h0 := hc' 0 _ rfl
  have h1 := hc' 1 _ rfl
  rw [add_none] at h0
  rw [heq] at h0 h1
  exact ⟨h0, h1⟩
theorem PV.num (h : PV w (.slice o n cp) es F) : n = es.length := by
  obtain ⟨o', c', ps, e, _⟩ := h
  injection e with e1 e2 e3
end
/-- Rows that a comparison can take. -/
theorem rows_small {n d : Nat} {l : List (List Int)} (h : rowsOk n d l) (hn : n ≤ 1000000) (hd : d ≤ 1000000) : Step.small l := ⟨by rw [h.1]; exact hn, fun r hr => by rw [(h.2 r hr).1]; exact hd⟩
theorem good_small {c : CfD} {e : Ent} (ok : okC c) (h : goodE c e) : Step.small e.1 ∧ Step.small e.2 := by
  have h1 := ok.2.1
  have h2 := ok.2.2.2.1
  exact ⟨rows_small h.1 (by omega) (by omega), rows_small h.2 (by omega) (by omega)⟩
def badT (c : CfD) (t : Int) : Bool := decide (t < 0) || decide (t ≥ c.vocab)
theorem badT_iff {c : CfD} {t : Int} : badT c t = false ↔ tokOk c t := by
  unfold badT tokOk
  rw [Bool.or_eq_false_iff, decide_eq_false_iff_not, decide_eq_false_iff_not]
  omega
theorem runE_take {c : CfD} {wt : ByteArray} (ts : List Int) (k : Nat) : newE c wt (newE c wt [] (ts.take k)) (ts.drop k) = (newE c wt [] ts).drop k ∧ (newE c wt [] (ts.take k)).length = min k ts.length ∧ ∀ j, j < (newE c wt [] ts).length → True := by
  refine ⟨?_, by rw [newE_len, List.length_take], fun _ _ => trivial⟩
  have e : ∀ l : List Int, newE c wt [] l = runE c wt [] l := fun l => rfl
  rw [e, e]
  unfold newE
  rw [← runE_app, List.take_append_drop, runE_len, List.length_take, List.length_nil, Nat.zero_add]
  by_cases h : k ≤ ts.length
  · rw [Nat.min_eq_left h]
  · rw [Nat.min_eq_right (by omega), List.drop_of_length_le (by rw [runE_len]; simp), List.drop_of_length_le (by rw [runE_len]; simp; omega)]
theorem newE_at {c : CfD} {wt : ByteArray} (ts : List Int) {j : Nat} (hj : j < ts.length) : (newE c wt [] ts)[j]'(by rw [newE_len]; exact hj) = stepE c wt (newE c wt [] (ts.take j)) ts[j] := by
  have h1 : newE c wt [] ts = newE c wt [] (ts.take (j + 1)) ++ newE c wt (newE c wt [] (ts.take (j + 1))) (ts.drop (j + 1)) := by
    have := runE_app (c := c) (wt := wt) (past := []) (ts.take (j + 1)) (b := ts.drop (j + 1))
    rw [List.take_append_drop] at this
    show runE c wt [] ts = _
    rw [this, runE_new]
    rfl
  have h2 : newE c wt [] (ts.take (j + 1)) = newE c wt [] (ts.take j) ++ [stepE c wt (newE c wt [] (ts.take j)) ts[j]] := by
    rw [take_snoc ts j hj, newE_snoc]; rfl
  have hl : (newE c wt [] (ts.take j)).length = j := by rw [newE_len, List.length_take]; omega
  have h3 : newE c wt [] ts = newE c wt [] (ts.take j) ++ ([stepE c wt (newE c wt [] (ts.take j)) ts[j]] ++ newE c wt (newE c wt [] (ts.take (j + 1))) (ts.drop (j + 1))) := by rw [h1, h2, List.append_assoc, ← h2]
  rw [List.getElem_of_eq h3, List.getElem_append_right (by omega)]
  simp [hl]
set_option maxRecDepth 100000 in
set_option maxHeartbeats 1000000 in
theorem StepRuns_true (W : World) (cs : List Value) (h0 : DatC Try.prog W t_api_Config cs) (wt : ByteArray) (hwt : wt.size ≤ 140737488351232) (o : Option Addr) (n cp : Nat) (h1 : DatC Try.prog W t_S_int [.slice o n cp]) (split : Int) (hs0 : (Lit.int .i64 split).wf = true) :
    Calls Try.prog i_coadjutorlaw17_StepRuns #[.agg cs.toArray, .string wt, .slice o n cp, .int .i64 split] W (Ret fun v w' => v = .bool true ∧ Ch Non W w') := by
  obtain ⟨c, rfl⟩ := conf_dat h0
  obtain ⟨o', c', ts, hcs, hm1, hm2, _, _, hr0⟩ := h1.ints (k := .i64) (e := t_int) (by kernel_rfl) (by kernel_rfl)
  injection hcs with hcs
  injection hcs with q1 q2 q3
  subst q1; subst q2; subst q3
  have hts : IV W (.slice o ts.length cp) ts (fun _ => True) := ⟨o, cp, rfl, hm1, hm2, hr0⟩
  refine coadjutorlaw17_StepRuns.calls _ _ _ _ _ _ _ _ _ _ _ ?_
  unfold coadjutorlaw17_StepRuns.vc
  intro w1 e1
  have hC : Blk w1 W.heap.size (cfE c) t_api_Config := Blk.new e1
  have hc1 : Ch Non W w1 := Ch.alloc e1
  refine step_call (awake17_spec w1) ?_
  rintro v w2 ⟨rfl, hc2⟩
  have hC2 := hC.keepN hc2
  have hc02 := hc1.andN hc2
  refine ⟨_, rfl, iteF rfl ⟨fun _ => ⟨rfl, hc02⟩, fun hn8 => ?_⟩⟩
  have hn8 : ts.length ≤ 8 := by have := of_decide_eq_false hn8; omega
  refine ⟨_, _, _, _, _, _, ⟨hC2.cell 0 rfl, hC2.cell 1 rfl, hC2.cell 2 rfl, hC2.cell 3 rfl, hC2.cell 4 rfl, hC2.cell 5 rfl⟩, step_call (small17_spec w2 c) ?_⟩
  rintro v w3 ⟨rfl, hc3⟩
  have hc03 := hc02.andN hc3
  have hC3 := hC2.keepN hc3
  refine ⟨_, rfl, fun _ => ⟨rfl, hc03⟩, fun hsm => ⟨fun _ => ⟨rfl, hc03⟩, fun hw => ?_⟩⟩
  refine ⟨_, _, _, _, _, _, ⟨hC3.cell 0 rfl, hC3.cell 1 rfl, hC3.cell 2 rfl, hC3.cell 3 rfl, hC3.cell 4 rfl, hC3.cell 5 rfl⟩, step_call (brOf_law w3 c wt) ?_⟩
  rintro v w4 ⟨hc4, hy⟩
  have hc04 := hc03.andN hc4
  rcases hy with ⟨b, rfl, hb, hK⟩ | ⟨hno, e, rfl, he⟩
  case inr => exact ⟨_, _, rfl, fun _ => ⟨rfl, hc04⟩, fun hf => by simp at hf; exact absurd hf he⟩
  have m : Md c wt := ⟨hK.ok, hK.sz⟩
  have hctx := m.ok.2.2.2.2.2.1
  refine ⟨_, _, rfl, iteF rfl (step_call (Run_spec hK (PV.nil w4 Non) (hts.keepN hc04) (by omega) (by simp)) ?_)⟩
  rintro v w5 hR
  have hc5 := hR.ch
  have hc05 := hc04.andN hc5
  have hC5 := (hC3.keepN hc4).keepN hc5
  have hts5 := hr0.keepN hc05
  have hg0 : ∀ e ∈ ([] : List Ent), goodE c e := fun e he => by cases he
  by_cases hyes : ts ≠ [] ∧ (∀ t ∈ ts, tokOk c t) ∧ (ts.length : Int) ≤ c.context
  case neg =>
    have hv : ∃ en : Int, v = nilR en ∧ en ≠ 0 := by
      by_cases k1 : ts = []
      · exact ⟨1, hR.none hg0 k1, by decide⟩
      · by_cases k2 : ∀ t ∈ ts, tokOk c t
        · exact ⟨12, hR.long hg0 k1 k2 (fun k => hyes ⟨k1, k2, by simpa using k⟩), by decide⟩
        · exact ⟨3, hR.rng hg0 k1 k2, by decide⟩
    obtain ⟨en, rfl, hen⟩ := hv
    unfold nilR
    refine ⟨_, _, _, _, _, _, _, rfl, fun _ => ?_, fun hf => by simp at hf; exact absurd hf hen⟩
    refine ⟨fun bad w' => w' = w5 ∧ (bad = true ∨ ¬ ∀ t ∈ ts, tokOk c t), ⟨fun _ => ⟨rfl, .inl rfl⟩, fun hne => ⟨_, hC5.cell 5 rfl, rfl, ?_⟩⟩, ?_⟩
    · have hne : ts ≠ [] := fun e => by subst e; simp at hne
      by_cases k2 : ∀ t ∈ ts, tokOk c t
      · left
        have hl : ¬ (ts.length : Int) ≤ c.context := fun k => hyes ⟨hne, k2, k⟩
        exact decide_eq_true (by omega)
      · exact .inr k2
    rintro jk bad w6 ⟨rfl, hb0⟩
    refine ⟨fun bd i k w' => Ch Non w6 w' ∧ ∃ j : Nat, i = j ∧ j ≤ ts.length ∧ k = ts.length - j ∧ (bd = true ∨ ¬ ∀ t ∈ ts.drop j, tokOk c t), ⟨_, Ch.refl _ _, 0, rfl, Nat.zero_le _, rfl, by rw [List.drop_zero]; exact hb0⟩, ?_⟩
    rintro jk bd i k w7 ⟨hc7, j, rfl, hj, rfl, hbd⟩
    refine ⟨fun hlt => ?_, fun hge => ?_⟩
    · have hlt : j < ts.length := by have := of_decide_eq_true hlt; omega
      have nxt : ∀ {bd' : Bool} {w' : World}, Ch Non w6 w' → (bd' = true ∨ ¬ ∀ t ∈ ts.drop (j + 1), tokOk c t) → ∃ vk_1 : Nat, vk_1 < ts.length - j ∧ Ch Non w6 w' ∧ ∃ j_1 : Nat, IntKind.i64.wrap ((j : Int) + 1) = j_1 ∧ j_1 ≤ ts.length ∧ vk_1 = ts.length - j_1 ∧ (bd' = true ∨ ¬ ∀ t ∈ ts.drop j_1, tokOk c t) := fun h1 h2 => ⟨ts.length - (j + 1), by omega, h1, j + 1, by rw [wrap_id (by omega) (by omega)]; rfl, hlt, rfl, h2⟩
      refine ⟨fun w' => Ch Non w7 w', fun w8 e8 => ⟨Ch.drew e8, fun hb => ?_, fun hb => ?_⟩⟩
      · exact nxt (hc7.andN (Ch.drew e8)) (.inl rfl)
      · have hbd' := hbd.resolve_left (by rw [hb]; decide)
        have hdrop : ts.drop j = ts[j] :: ts.drop (j + 1) := List.drop_eq_getElem_cons hlt
        have hr7 := hts5.keepN hc7
        have hjj : (j : Int).toNat * 1 = j := by omega
        rw [hjj]
        refine ⟨⟨by omega, by omega⟩, Rd.keeps (S := fun w' => Ch Non w7 w') (F := fun _ => True) (enc := Value.int .i64) (xs := ts) (fun w' k => hr7.keepN k) (Ch.refl _ _) hlt fun p hp => ⟨_, hp, fun hneg => ?_, fun hneg => ?_⟩⟩
        · exact nxt (hc7.andN (Ch.drew e8)) (.inl rfl)
        · have hneg := of_decide_eq_false hneg
          refine ⟨⟨by omega, by omega⟩, Rd.keeps (S := fun w' => Ch Non w7 w') (F := fun _ => True) (enc := Value.int .i64) (xs := ts) (fun w' k => hr7.keepN k) (Ch.refl _ _) hlt fun p2 hp2 => ⟨_, hp2, _, fun w' k => ((hC5.keepN hc7).keepN k).cell 0 rfl, nxt (hc7.andN (Ch.drew e8)) ?_⟩⟩
          by_cases hv : ts[j] ≥ c.vocab
          · exact .inl (decide_eq_true hv)
          · right
            intro hall
            refine hbd' (fun t ht => ?_)
            rw [hdrop] at ht
            rcases List.mem_cons.1 ht with rfl | ht
            · exact ⟨by omega, by omega⟩
            · exact hall t ht
    · have hge : j = ts.length := by have := of_decide_eq_false hge; omega
      subst hge
      rw [List.drop_length] at hbd
      have hb : bd = true := hbd.resolve_right (fun k => k (fun t ht => by cases ht))
      exact ⟨fun _ => iteT rfl ⟨rfl, hc05.andN hc7⟩, fun hf => by rw [hb] at hf; cases hf⟩
  obtain ⟨hne, htok, hlen⟩ := hyes
  have hlp : 0 < ts.length := List.length_pos_iff.2 hne
  obtain ⟨oa, na, ca, u, A, rfl, hPB, hIU⟩ := hR.yes hg0 hne htok (by simpa using hlen)
  have hPV := hPB.pv
  have hna : na = ts.length := by rw [hPB.len, newE_len]
  have hIU' := hIU
  obtain ⟨ou, cu, rfl, _⟩ := hIU
  have hK5 := hK.keepN hc5
  have hts' := hts.keepN hc05
  have hgoodA : ∀ k, ∀ e ∈ newE c wt [] (ts.take k), goodE c e := fun k => runE_good m _ hg0 (fun x hx => htok x (List.mem_of_mem_take hx)) (by rw [List.length_take]; simp; omega)
  have hallgood : ∀ e ∈ newE c wt [] ts, goodE c e := runE_good m _ hg0 htok (by simpa using hlen)
  obtain ⟨all, hall⟩ : ∃ all : List Ent, newE c wt [] ts = all := ⟨_, rfl⟩
  obtain ⟨sc, hsc⟩ : ∃ sc : List Int, runS c wt [] [] ts = sc := ⟨_, rfl⟩
  have hat := fun (j : Nat) (hj : j < ts.length) => newE_at (c := c) (wt := wt) ts hj
  have halen : all.length = ts.length := by rw [← hall, newE_len]
  have hat' : ∀ (j : Nat) (hj : j < ts.length), all[j]'(by omega) = stepE c wt (newE c wt [] (ts.take j)) ts[j] := by subst hall; exact hat
  rw [hall] at hPV hallgood
  rw [hsc] at hIU' ⊢
  refine ⟨_, _, _, _, _, _, _, rfl, iteF rfl ?_⟩
  intro w12 e12
  have hPast0 : PB w5 w12 (some ⟨w5.heap.size, 0, none⟩) 0 0 [] (· = w5.heap.size) := PB.made (Ch.refl _ _) e12
  refine ⟨fun pA pN pC i k w' => ∃ (j : Nat) (A : Nat → Prop), i = j ∧ j ≤ ts.length ∧ k = ts.length - j ∧ PB w5 w' pA pN pC (newE c wt [] (ts.take j)) A, ⟨_, 0, _, rfl, Nat.zero_le _, rfl, hPast0⟩, ?_⟩
  rintro jk pA pN pC i k w13 ⟨j, A2, rfl, hj, rfl, hP⟩
  have hc513 := hP.ch
  have hc013 := hc05.andN hc513
  have hK13 := hK5.keepN hc513
  have hPV13 := hPV.keepN hc513
  refine ⟨fun hlt => ?_, fun hge => ?_⟩
  · have hlt : j < ts.length := by have := of_decide_eq_true hlt; omega
    have htj := htok _ (List.getElem_mem hlt)
    have hpn : pN = j := by rw [hP.len, newE_len, List.length_take]; omega
    refine ⟨⟨by omega, by omega⟩, (hr0.keepN hc013).at (j := (j : Int).toNat * 1) (v := .int .i64 ts[j]) (by simp [hlt]) fun p hp => ⟨_, hp, step_call (Step_spec hK13 hP.pv ts[j]) ?_⟩⟩
    rintro v w14 hS
    have hc14 := hS.ch
    obtain ⟨p14, u14, rfl, hE14, hL14⟩ := hS.yes (hgoodA j) htj (by rw [newE_len, List.length_take]; omega)
    have haj := hat' j hlt
    rw [← haj] at hE14
    have hgj := hallgood _ (List.getElem_mem (show j < all.length by omega))
    obtain ⟨o1, c1, o2, c2, rfl⟩ := ents_of hE14
    have hL14' := hL14
    obtain ⟨o3, c3, rfl, _⟩ := hL14
    refine ⟨_, _, _, _, _, _, _, _, _, _, rfl, fun w15 e15 => ?_⟩
    have hU := Blk.new e15
    refine ⟨⟨hU.ok 0 rfl, hU.ok 1 rfl⟩, fun w16 e16 => ?_⟩
    have e16' : w16 = w15.setCells w14.heap.size 0 [.slice o1 (all[j]'(by omega)).1.length c1, .slice o2 (all[j]'(by omega)).2.length c2] := e16
    have hU16 := hU.all [.slice o1 (all[j]'(by omega)).1.length c1, .slice o2 (all[j]'(by omega)).2.length c2] rfl e16'
    have hc1416 : Ch Non w14 w16 := (Ch.alloc (F := Non) e15).trans (Ch.sets (F := (· = w14.heap.size)) e16' rfl) (fun i hi he => by omega)
    have hc1316 := hc14.andN hc1416
    obtain ⟨a, d1, f1, d2, f2, hoa, hnn, hEa, hkeep⟩ := PV.get (hPV13.keepN hc1316) (j := j) (by omega)
    refine ⟨fun w' => Ch Non w16 w', ⟨fun w' => Ch Non w16 w', fun w17 e17 => ⟨Ch.drew e17, iteF rfl ?_⟩⟩, ?_⟩
    · refine ⟨_, _, _, _, _, _, ⟨fun w' k => (hU16.keepN k).cell 0 rfl, fun w' k => (hU16.keepN k).cell 1 rfl⟩, ⟨by omega, by omega⟩, ?_⟩
      rw [Int.toNat_natCast]
      subst hoa
      refine ⟨_, _, _, _, _, _, ⟨fun w' k => (hkeep w' k).1, fun w' k => (hkeep w' k).2⟩, ?_⟩
      have hd : Ch Non w16 w17 := Ch.drew e17
      refine step_call (Step.Same_spec (p := (.slice o1 (all[j]'(by omega)).1.length c1, .slice o2 (all[j]'(by omega)).2.length c2)) (q := (.slice d1 (all[j]'(by omega)).1.length f1, .slice d2 (all[j]'(by omega)).2.length f2)) ((hE14.keepN (hc1416.andN hd)).ent) ((hEa.keepN hd).ent) (good_small m.ok hgj)) ?_
      rintro v w20 ⟨rfl, hc20⟩
      refine ⟨_, rfl, hd.andN hc20, iteF (by simp) ⟨fun hlast => ?_, fun _ => hd.andN hc20⟩⟩
      have hlast : j = ts.length - 1 := by
        have := eq_of_beq hlast
        rw [wrap_id (by omega) (by omega)] at this
        omega
      refine step_call (ints17_spec (hL14'.keepN ((hc1416.andN hd).andN hc20)) (hIU'.keepN ((hc513.andN hc1316).andN (hd.andN hc20)))) ?_
      rintro v w21 ⟨rfl, hc21⟩
      have heq : stepL c wt (newE c wt [] (ts.take j)) ts[j] = sc := by
        have hd : ts = ts.take j ++ [ts[j]] := by
          have := take_snoc ts j hlt
          rw [show j + 1 = ts.length by omega, List.take_length] at this
          exact this
        rw [← hsc]
        conv => rhs; rw [hd]
        rw [runS_app]
        rfl
      exact ⟨_, rfl, (hd.andN hc20).andN hc21, iteF (by rw [heq]; simp) ((hd.andN hc20).andN hc21)⟩
    · intro jk w22 hc22
      have hU22 := hU16.keepN hc22
      refine ⟨_, _, _, _, _, _, ⟨hU22.cell 0 rfl, hU22.cell 1 rfl⟩, fun w23 e23 => ?_⟩
      have hc1322 := hc1316.andN hc22
      have hE22 := ((hE14.keepN hc1416).keepN hc22).mono (G := fun i => New w5 w22 i ∧ ¬ A2 i) (fun i _ hi => hP.far (w2 := w13) (w3 := w14) (Nat.le_refl _) (hc1416.andN hc22).size hi)
      obtain ⟨o24, c24, w24, r24, hP24, _⟩ := (hP.keepN hc1322).push hE22 e23 (by omega)
      refine ⟨o24, _, c24, w24, r24, ts.length - (j + 1), by omega, j + 1, Ext A2 w22 w24, by rw [wrap_id (by omega) (by omega)]; rfl, hlt, rfl, ?_⟩
      rw [haj, show (newE c wt [] (ts.take j) ++ [stepE c wt (newE c wt [] (ts.take j)) ts[j]]) = newE c wt [] (ts.take (j + 1)) from by rw [take_snoc ts j hlt, newE_snoc]; rfl] at hP24
      exact hP24
  · have hge : j = ts.length := by have := of_decide_eq_false hge; omega
    subst hge
    have hu64 : IntKind.u64.wrap (ts.length : Int) = ts.length := by rw [wrap_u64]; omega
    rw [hu64]
    obtain ⟨k, hk, hk8⟩ : ∃ k : Nat, IntKind.i64.wrap (Int.tmod (IntKind.u64.wrap split) (ts.length : Int)) = k ∧ k < ts.length := by
      have h0 : 0 ≤ IntKind.u64.wrap split := by rw [wrap_u64]; omega
      have h1 := Int.emod_nonneg (IntKind.u64.wrap split) (b := (ts.length : Int)) (by omega)
      have h2 := Int.emod_lt_of_pos (IntKind.u64.wrap split) (b := (ts.length : Int)) (by omega)
      refine ⟨(IntKind.u64.wrap split % (ts.length : Int)).toNat, ?_, by omega⟩
      rw [tmod_pos h0, wrap_id (by omega) (by omega)]; omega
    rw [hk, Int.toNat_natCast]
    refine ⟨by omega, fun hk0 => ⟨by rw [hna]; simp, hc013⟩, fun hk0 => ⟨⟨by omega, by omega⟩, ?_⟩⟩
    have hk1 : 1 ≤ k := by
      have : ¬ (k : Int) = 0 := by simpa using hk0
      omega
    have htl : (ts.take k).length = k := by rw [List.length_take]; omega
    have htk : IV w13 (.slice (if cp = 0 then o else o.map (·.add (0 * 1))) (k - 0) (cp - 0)) (ts.take k) (fun _ => True) := by
      have := (hts'.keepN hc513).cut rfl (a := 0) (b := k) (by omega) (by omega)
      rwa [List.drop_zero, Nat.sub_zero] at this
    refine step_call (Run_spec hK13 (PV.nil w13 Non) htk (by omega) (by simp)) ?_
    rintro v w25 hR1
    have hc25 := hR1.ch
    obtain ⟨o25, n25, c25, u25, A25, rfl, hP25, hI25⟩ := hR1.yes hg0 (fun e => by rw [e] at htl; simp at htl; omega) (fun t ht => htok t (List.mem_of_mem_take ht)) (by rw [htl]; simp; omega)
    have hn25 : n25 = k := by rw [hP25.len, newE_len, htl]
    obtain ⟨o26, c26, rfl, _⟩ := hI25
    refine ⟨_, _, _, _, _, _, _, rfl, ⟨by omega, by omega⟩, ?_⟩
    have hdl : (ts.drop k).length = ts.length - k := List.length_drop
    have htd : IV w25 (.slice (if cp = k then o else o.map (·.add (k * 1))) (ts.length - k) (cp - k)) (ts.drop k) (fun _ => True) := by
      have := ((hts'.keepN hc513).keepN hc25).cut rfl (a := k) (b := ts.length) (by omega) (Nat.le_refl _)
      rwa [← hdl, List.take_length, hdl] at this
    refine step_call (Run_spec (hK13.keepN hc25) hP25.pv htd (by omega) (by rw [newE_len]; omega)) ?_
    rintro v w26 hR2
    have hc26 := hR2.ch
    have hne2 : ts.drop k ≠ [] := fun e => by rw [e] at hdl; simp at hdl; omega
    obtain ⟨o27, n27, c27, u27, A27, rfl, hP27, hI27⟩ := hR2.yes (hgoodA k) hne2 (fun t ht => htok t (List.mem_of_mem_drop ht)) (by rw [newE_len, htl, hdl]; omega)
    have hn27 : n27 = ts.length - k := by rw [hP27.len, newE_len, hdl]
    have hrest : newE c wt (newE c wt [] (ts.take k)) (ts.drop k) = all.drop k := by rw [(runE_take ts k).1, hall]
    have hPV27 := hP27.pv
    rw [hrest] at hPV27
    have hscE : runS c wt (newE c wt [] (ts.take k)) [] (ts.drop k) = sc := by
      rw [← hsc]
      conv => rhs; rw [← List.take_append_drop k ts]
      rw [runS_app, runS_acc _ (runS c wt [] [] (ts.take k)) hne2]
      rfl
    rw [hscE] at hI27
    have hI27' := hI27
    obtain ⟨o28, c28, rfl, _⟩ := hI27
    have hc1326 := hc25.andN hc26
    refine ⟨_, _, _, _, _, _, _, rfl, iteF rfl (iteF rfl (step_call (ints17_spec hI27' (hIU'.keepN (hc513.andN hc1326))) ?_))⟩
    rintro v w27 ⟨rfl, hc27⟩
    rw [hn25, hn27, hna]
    refine ⟨_, rfl, iteF (by simp) (iteF (by rw [wrap_id (by omega) (by omega)]; simp; omega) ?_)⟩
    have hc1327 := hc1326.andN hc27
    have hdl2 : (all.drop k).length = ts.length - k := by rw [List.length_drop]; omega
    refine ⟨fun i vk w' => ∃ j : Nat, i = j ∧ j ≤ ts.length - k ∧ vk = ts.length - k - j ∧ Ch Non w27 w', ⟨_, 0, rfl, Nat.zero_le _, rfl, Ch.refl _ _⟩, ?_⟩
    rintro jk i vk w28 ⟨j, rfl, hj, rfl, hc28⟩
    refine ⟨fun hlt => ?_, fun hge => ?_⟩
    · have hlt : j < ts.length - k := by have := of_decide_eq_true hlt; omega
      have hgj := hallgood _ (List.getElem_mem (show k + j < all.length by omega))
      have hgd : (all.drop k)[j]'(by omega) = all[k + j]'(by omega) := List.getElem_drop
      obtain ⟨a1, d1, f1, d2, f2, hoa1, _, hEa, hk1'⟩ := PV.get ((hPV27.keepN hc27).keepN hc28) (j := j) (by omega)
      obtain ⟨a2, d3, f3, d4, f4, hoa2, _, hEb, hk2'⟩ := PV.get ((hPV13.keepN hc1327).keepN hc28) (j := k + j) (by omega)
      rw [hgd] at hEa hk1'
      subst hoa1
      subst hoa2
      refine ⟨fun w' => Ch Non w28 w', fun w29 e29 => ⟨Ch.drew e29, ⟨by omega, by omega⟩, ?_⟩⟩
      have hkj : IntKind.i64.wrap ((k : Int) + (j : Int)) = ((k + j : Nat) : Int) := by rw [wrap_id (by omega) (by omega)]; omega
      rw [hkj, Int.toNat_natCast, Int.toNat_natCast]
      refine ⟨_, _, _, _, _, _, ⟨fun w' k => (hk1' w' k).1, fun w' k => (hk1' w' k).2⟩, ⟨by omega, by omega⟩, _, _, _, _, _, _, ⟨fun w' k => (hk2' w' k).1, fun w' k => (hk2' w' k).2⟩, ?_⟩
      have hd : Ch Non w28 w29 := Ch.drew e29
      refine step_call (Step.Same_spec (p := (.slice d1 (all[k + j]'(by omega)).1.length f1, .slice d2 (all[k + j]'(by omega)).2.length f2)) (q := (.slice d3 (all[k + j]'(by omega)).1.length f3, .slice d4 (all[k + j]'(by omega)).2.length f4)) ((hEa.keepN hd).ent) ((hEb.keepN hd).ent) (good_small m.ok hgj)) ?_
      rintro v w32 ⟨rfl, hc32⟩
      exact ⟨_, rfl, hd.andN hc32, iteF (by simp) ⟨ts.length - k - (j + 1), by omega, j + 1, by rw [wrap_id (by omega) (by omega)]; rfl, hlt, rfl, hc28.andN (hd.andN hc32)⟩⟩
    · intro w33 e33
      have hO : Blk w33 w28.heap.size (([1] : List Int).map (.int .i64)) t_int := Blk.new e33
      refine step_call (Run_nil w33 none 0 0 (some ⟨w28.heap.size, 0, none⟩) 1 1) ?_
      rintro v w34 ⟨rfl, hc34⟩
      have hc1334 := (hc1327.andN hc28).andN ((Ch.alloc e33).andN hc34)
      refine ⟨_, _, _, _, _, _, _, rfl, step_call (Run_spec (hK13.keepN hc1334) (PV.nil w34 Non) (IV.nil w34 Non) (by simp) (by simp)) ?_⟩
      rintro v w35 hR3
      rw [hR3.none hg0 rfl]
      exact ⟨_, _, _, _, _, _, _, rfl, iteT rfl ⟨rfl, (hc013.andN hc1334).andN hR3.ch⟩⟩
end Go.Proofs.Ytfhnegfoglngoaa.Stp
