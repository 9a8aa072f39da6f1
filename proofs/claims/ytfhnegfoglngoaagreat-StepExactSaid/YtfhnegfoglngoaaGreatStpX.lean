/- StepExact's contract: of all shapes, weights, entries and tokens the Go function answers true and leaves what was there; the conditions stand in each theorem. -/
import Derived.Test.YtfhnegfoglngoaaGreatRefU
import Derived.Test.YtfhnegfoglngoaaGreatVcStpX
set_option linter.unusedVariables false
set_option linter.unusedSimpArgs false
namespace Go.Proofs.YtfhnegfoglngoaaGreat.RefS
open Go Go.Proofs Go.Proofs.YtfhnegfoglngoaaGreat.V Go.Proofs.YtfhnegfoglngoaaGreat.Vc Go.Proofs.YtfhnegfoglngoaaGreat.Conf Go.Proofs.YtfhnegfoglngoaaGreat.Brain Go.Proofs.YtfhnegfoglngoaaGreat.Num Go.Proofs.YtfhnegfoglngoaaGreat.Stp Go.Proofs.YtfhnegfoglngoaaGreat.RefM Go.Proofs.YtfhnegfoglngoaaGreat.IntsT Go.RowKit

/-- Rows that can be compared. -/
def wideR (xss : List (List Int)) : Prop := xss.length ≤ maxLen ∧ ∀ r ∈ xss, r.length ≤ maxLen
section
variable {w w' : World} {u v : Value} {xss yss : List (List Int)} {F G : Nat → Prop} {c : CfD} {wt : ByteArray} {past : List Ent} {token : Int}
theorem RV.wide (h : RV w v xss F) : wideR xss := by
  obtain ⟨o, cp, us, rfl, h1, h2, _, ha⟩ := h
  refine ⟨Nat.le_trans h1 h2, fun r hr => ?_⟩
  obtain ⟨j, hj, rfl⟩ := List.getElem_of_mem hr
  obtain ⟨_, _, _, h3, h4, _⟩ := ha.get j (by rw [ha.length]; exact hj) hj
  exact Nat.le_trans h3 h4
theorem RowsV.get {o : Option Addr} {n cp : Nat} (h : RowsV w (.slice o n cp) xss F) {j : Nat} (hj : j < xss.length) : ∃ (a : Addr) (o' : Option Addr) (c' : Nat), o = some a ∧ n = xss.length ∧ IntsV w (.slice o' xss[j].length c') xss[j] F ∧ ∀ w', Ch Non w w' → w'.cell? (a.add (j * 1)) = some (.slice o' xss[j].length c') := by
  obtain ⟨o2, c2, us, he, hr, ha⟩ := h
  injection he with e1 e2 e3
  subst e1; subst e3
  have hbu : j < us.length := by rw [ha.length]; exact hj
  obtain ⟨ad, had, _, _, _⟩ := hr j us[j] (List.getElem?_eq_getElem hbu)
  have hiv := ha.get j hbu hj
  have hiv' := hiv
  obtain ⟨o', c', hu, _⟩ := hiv
  refine ⟨ad, o', c', had, e2, hu ▸ hiv', fun w' hc => ?_⟩
  obtain ⟨ad2, had2, _, _, hcc⟩ := (hr.keepN hc) j us[j] (List.getElem?_eq_getElem hbu)
  rw [had] at had2; injection had2 with had2; subst had2
  rw [Nat.mul_one, ← hu]; exact hcc
theorem table_spec (ha : RowsV w u xss F) (hb : RowsV w v yss G) (hs : wideR xss) : Calls Tryz.prog i_coadjutorlaw17_table #[u, v] w (Ret fun v w' => v = .bool (decide (xss = yss)) ∧ Ch Non w w') := by
  have ha' := ha
  have hb' := hb
  obtain ⟨oa, ca, ua, rfl, _⟩ := ha
  obtain ⟨ob, cb, ub, rfl, _⟩ := hb
  have hl := hs.1
  refine coadjutorlaw17_table.calls _ _ _ _ _ _ ?_
  unfold coadjutorlaw17_table.vc
  refine ⟨fun h => ?_, fun h => ?_⟩
  · have h : xss.length ≠ yss.length := by simp at h; omega
    exact ⟨by rw [decide_eq_false (fun e => h (by rw [e]))], Ch.refl _ _⟩
  have h : xss.length = yss.length := by simp at h; omega
  refine ⟨fun i k w' => ∃ j : Nat, i = j ∧ j ≤ xss.length ∧ k = xss.length - j ∧ xss.take j = yss.take j ∧ Ch Non w w', ⟨_, 0, rfl, Nat.zero_le _, rfl, rfl, Ch.refl _ _⟩, ?_⟩
  rintro jk i k w1 ⟨j, rfl, hj, rfl, he, hc⟩
  refine ⟨dT fun hlt => ?_, dF fun hge => ?_⟩
  · have hlt : j < xss.length := by omega
    have hlt2 : j < yss.length := by omega
    obtain ⟨a, o1, c1, rfl, _, h1, hc1⟩ := RowsV.get ha' hlt
    obtain ⟨b, o2, c2, rfl, _, h2, hc2⟩ := RowsV.get hb' hlt2
    have hw := hs.2 _ (List.getElem_mem hlt)
    refine ⟨fun w' => Ch Non w1 w', fun w2 e2 => ⟨Ch.drew e2, ⟨by omega, by omega⟩, _, _, _, fun w' k => hc1 w' (hc.andN k), ⟨by omega, by omega⟩, _, _, _, fun w' k => hc2 w' (hc.andN k), ?_⟩⟩
    have hd2 : Ch Non w1 w2 := Ch.drew e2
    refine step_call (ints17_w (h1.keepN (hc.andN hd2)) (h2.keepN (hc.andN hd2)) hw) ?_
    rintro v w5 ⟨rfl, hc5⟩
    refine ⟨_, rfl, hd2.andN hc5, fun hne => ?_, fun heq => ?_⟩
    · refine ⟨?_, (hc.andN hd2).andN hc5⟩
      rw [decide_eq_false]
      intro e
      subst e
      simp at hne
    · have heq : xss[j] = yss[j] := by simpa using heq
      refine ⟨xss.length - (j + 1), by omega, j + 1, by rw [wrap_id (by omega) (by unfold maxLen at hl; omega)]; rfl, hlt, rfl, ?_, (hc.andN hd2).andN hc5⟩
      rw [Step.take_snoc xss j hlt, Step.take_snoc yss j hlt2, he, heq]
  · have : j = xss.length := by omega
    subst this
    rw [List.take_length, h, List.take_length] at he
    exact ⟨by rw [decide_eq_true he], hc⟩
theorem forms_spec (hp : PV w v past F) (hl : past.length ≤ 1000) : Calls Tryz.prog i_coadjutorlaw17_forms #[v] w (Ret fun u w' => (∃ (o : Option Addr) (cp : Nat), u = .slice o past.length cp) ∧ PV w' u past (fun _ => True) ∧ Ch Non w w') := by
  have hp' := hp
  obtain ⟨po, pc, ps, rfl, hpc, hpm, hpr, hpa⟩ := hp
  refine coadjutorlaw17_forms.calls _ _ _ ?_
  unfold coadjutorlaw17_forms.vc
  intro w1 e1
  have hO1 : V.Own w1 t_coadjutorref17_Entry 2 (some ⟨w.heap.size, 0, none⟩) 0 0 [] (fun i => w.heap.size ≤ i) := V.Own.made e1 rfl (Nat.zero_le _) (Nat.le_refl _)
  refine ⟨fun o n cp i k w' => ∃ (j : Nat), i = j ∧ n = j ∧ j ≤ past.length ∧ k = past.length - j ∧ V.Own w' t_coadjutorref17_Entry 2 o j cp ((ps.take j).map pairE).flatten (fun i => w.heap.size ≤ i) ∧ Ch Non w w', ⟨_, 0, rfl, rfl, Nat.zero_le _, rfl, hO1, Ch.alloc e1⟩, ?_⟩
  have hpl : ps.length = past.length := hpa.length
  rintro jk o n cp i k w2 ⟨j, rfl, rfl, hj, rfl, hO, hc⟩
  refine ⟨dT fun hlt => ?_, dF fun hge => ?_⟩
  · have hlt : n < past.length := by omega
    obtain ⟨a, had, _, _, _⟩ := Rd.elem (sz := 2) (enc := pairE) hpr (fun _ => rfl) (by omega) (j := n) (by omega)
    subst had
    have hcell : ∀ w', Ch Non w w' → ∀ q v, (pairE (ps[n]'(by omega)))[q]? = some v → w'.cell? ((a.add (n * 2)).add q) = some v := fun w' hc' q v hv => by
      obtain ⟨a', ha', _, _, h⟩ := Rd.elem (sz := 2) (enc := pairE) (hpr.keepN hc') (fun _ => rfl) (by omega) (j := n) (by omega)
      injection ha' with ha'
      subst ha'
      exact h q v hv
    have hE := hpa.get n (by omega) hlt
    have hsn := take_snoc ps n (by omega)
    obtain ⟨o1, c1, o2, c2, heq⟩ := ents_of hE
    rw [heq] at hcell hsn
    refine ⟨fun w' => Ch Non w w', fun w3 e3 => ⟨hc.andN (Ch.drew e3), ⟨by omega, by omega⟩, _, _, _, fun w' k => by have := hcell w' k 0 _ rfl; rwa [add_none] at this, ⟨by omega, by omega⟩, _, _, _, fun w' k => hcell w' k 1 _ rfl, fun w6 e6 => ⟨(hc.andN (Ch.drew e3)).andN (Ch.alloc e6), ?_⟩⟩⟩
    obtain ⟨o', c', w7, r7, hO7, hc7⟩ := V.Own.push el_S_coadjutorref17_Entry (hO.keepN (Ch.drew e3)) t_S_coadjutorref17_Entry e6 rfl rfl (by unfold maxLen; omega) (by omega)
    have hc07 : Ch Non w w7 := (hc.andN (Ch.drew e3)).trans hc7 (fun i hi h => by omega)
    have hs3 := (hc.andN (Ch.drew e3)).size
    refine ⟨o', _, c', w7, r7, hc07, past.length - (n + 1), by omega, n + 1, by rw [wrap_id (by omega) (by omega)]; rfl, rfl, hlt, rfl, ?_, hc07⟩
    rw [hsn, List.map_append, List.flatten_append]
    exact hO7.mono (fun i _ hi => by
      rcases hi with hi | hi
      · exact hi
      · have := hi.1; omega)
  · have hne : n = past.length := by omega
    subst hne
    rw [List.take_of_length_le (by omega)] at hO
    exact ⟨⟨o, cp, rfl⟩, ⟨o, cp, ps, rfl, hO.2.1, hO.2.2.1, hO.rd.mono (fun _ _ _ => trivial), hpa.imp fun p e k => (k.keepN hc).mono (fun _ _ _ => trivial)⟩, hc⟩
theorem GoodNil_spec (w : World) (o1 : Option Addr) (n1 c1 : Nat) (o2 : Option Addr) (n2 c2 : Nat) : Calls Tryz.prog i_step_Good #[.pointer none, .agg #[.slice o1 n1 c1, .slice o2 n2 c2]] w (Ret fun v w' => v = .bool false ∧ Ch Non w w') := by
  refine step_Good.calls_nl _ _ _ _ _ _ ?_
  unfold step_Good.vc_nl
  intro w1 e1
  exact ⟨fun _ => True, fun w2 e2 => ⟨trivial, rfl, (Ch.alloc e1).andN (Ch.drew e2)⟩⟩
/-- What a Step answers is one and the same. -/
theorem StepR.one (c : CfD) (wt : ByteArray) (past : List Ent) (token : Int) : ∃ (n : Int) (e : Ent) (l : List Int), ∀ w v w', StepR c wt past token w v w' → ∃ (p : Value × Value) (u : Value), v = .tuple #[.agg #[p.1, p.2], u, .int .i64 n] ∧ EV w' p e (fun _ => True) ∧ IV w' u l (fun _ => True) := by
  have nil : ∀ n : Int, ∀ w' : World, ∃ (p : Value × Value) (u : Value), nilE n = .tuple #[.agg #[p.1, p.2], u, .int .i64 n] ∧ EV w' p ([], []) (fun _ => True) ∧ IV w' u [] (fun _ => True) := fun n w' => ⟨(.slice none 0 0, .slice none 0 0), .slice none 0 0, rfl, ⟨RV.nil _ _, RV.nil _ _⟩, IV.nil _ _⟩
  by_cases h1 : ∀ e ∈ past, goodE c e
  case neg => exact ⟨1, ([], []), [], fun w v w' h => by rw [h.bad h1]; exact nil 1 w'⟩
  by_cases h2 : 0 ≤ token ∧ token < c.vocab
  case neg => exact ⟨3, ([], []), [], fun w v w' h => by rw [h.rng h1 h2]; exact nil 3 w'⟩
  by_cases h3 : (past.length : Int) < c.context
  case neg => exact ⟨12, ([], []), [], fun w v w' h => by rw [h.long h1 h2 h3]; exact nil 12 w'⟩
  refine ⟨0, stepE c wt past token, stepL c wt past token, fun w v w' h => ?_⟩
  obtain ⟨p, u, hv, hE, hI⟩ := h.yes h1 h2 h3
  exact ⟨p, u, hv, hE.mono (fun _ _ _ => trivial), hI.mono (fun _ _ _ => trivial)⟩
theorem all2_map {α β : Type} {R : α → β → Prop} : ∀ (ys : List (α × β)), (∀ y ∈ ys, R y.1 y.2) → All2 R (ys.map (·.1)) (ys.map (·.2))
  | [], _ => .nil
  | y :: r, h => .cons (h y List.mem_cons_self) (all2_map r fun z hz => h z (List.mem_cons_of_mem _ hz))
set_option maxRecDepth 100000 in
theorem rows_dat {d : Value} (h : DatC Tryz.prog w t_S_S_int [d]) : ∃ xss, RV w d xss (fun _ => True) ∧ ∀ r ∈ xss, r.length ≤ 17592186043904 := by
  obtain ⟨o, cp, ys, hd, h1, h2, _, hq, hr⟩ := DatC.sliceOf (e := t_S_int) (enc := fun y : Value × List Int => [y.1]) (Q := fun y => IV w y.1 y.2 (fun _ => True) ∧ y.2.length ≤ 17592186043904) h (by kernel_rfl) (fun x hx hd => by
    obtain ⟨o, cc, ts, rfl, hm1, hm2, hm3, _, hr0⟩ := hd.ints (k := .i64) (e := t_int) (by kernel_rfl) (by kernel_rfl)
    have hb : Tryz.prog.bytesOf t_int = 8 := by kernel_rfl
    rw [hb] at hm3
    exact ⟨(.slice o ts.length cc, ts), rfl, ⟨o, cc, rfl, hm1, hm2, hr0⟩, by show ts.length ≤ _; omega⟩)
  injection hd with hd _
  subst hd
  have hfl : ∀ l : List (Value × List Int), (l.map fun y : Value × List Int => [y.1]).flatten = l.map (·.1) := fun l => by
    induction l with
    | nil => rfl
    | cons y r ih => rw [List.map_cons, List.flatten_cons, ih]; rfl
  rw [hfl] at hr
  refine ⟨ys.map (·.2), ⟨o, cp, ys.map (·.1), by rw [List.length_map], by rw [List.length_map]; exact h1, h2, hr, ?_⟩, fun r hr => ?_⟩
  · exact all2_map ys fun y hy => (hq y hy).1
  · obtain ⟨y, hy, rfl⟩ := List.mem_map.1 hr
    exact (hq y hy).2
set_option maxRecDepth 100000 in
theorem past_dat {o : Option Addr} {n cp : Nat} (h : DatC Tryz.prog w t_S_step_Entry [.slice o n cp]) : ∃ es : List Ent, n = es.length ∧ PV w (.slice o es.length cp) es (fun _ => True) ∧ ∀ e ∈ es, (∀ r ∈ e.1, r.length ≤ 17592186043904) ∧ ∀ r ∈ e.2, r.length ≤ 17592186043904 := by
  obtain ⟨o', c', ys, hd, h1, h2, _, hq, hr⟩ := DatC.sliceOf (e := t_step_Entry) (enc := fun y : (Value × Value) × Ent => pairE y.1) (Q := fun y => EV w y.1 y.2 (fun _ => True) ∧ (∀ r ∈ y.2.1, r.length ≤ 17592186043904) ∧ ∀ r ∈ y.2.2, r.length ≤ 17592186043904) h (by kernel_rfl) (fun x hx hd => by
    obtain ⟨_, hf⟩ := hd.struct Tryz.underlying29
    have h2 : Tryz.prog.cellsOf t_step_Entry = 2 := by kernel_rfl
    rw [h2] at hx
    match x, hx with
    | [a, b], _ =>
      have h0 : DatC Tryz.prog w t_S_S_int [a] := hf 0 _ rfl
      have h1 : DatC Tryz.prog w t_S_S_int [b] := hf 1 _ rfl
      obtain ⟨k, hk, hk2⟩ := rows_dat h0
      obtain ⟨l, hl, hl2⟩ := rows_dat h1
      exact ⟨((a, b), (k, l)), rfl, ⟨hk, hl⟩, hk2, hl2⟩)
  injection hd with hd _
  injection hd with q1 q2 q3
  subst q1; subst q2; subst q3
  refine ⟨ys.map (·.2), by rw [List.length_map], ⟨o, cp, ys.map (·.1), rfl, by rw [List.length_map]; exact h1, h2, by rw [List.map_map]; exact hr, ?_⟩, fun e he => ?_⟩
  · exact all2_map ys fun y hy => (hq y hy).1
  · obtain ⟨y, hy, rfl⟩ := List.mem_map.1 he
    exact (hq y hy).2
end
/-- A past whose entries are short. -/
def shortE (e : Ent) : Prop := e.1.length ≤ 4 ∧ e.2.length ≤ 4
set_option maxRecDepth 100000 in
set_option maxHeartbeats 2000000 in
theorem StepExact_true (W : World) (cs : List Value) (h0 : DatC Tryz.prog W t_api_Config cs) (wt : ByteArray) (hwt : wt.size ≤ 140737488351232) (o : Option Addr) (n cp : Nat) (h1 : DatC Tryz.prog W t_S_step_Entry [.slice o n cp]) (token : Int) (hs0 : (Lit.int .i64 token).wf = true) :
    Calls Tryz.prog i_coadjutorlaw17_StepExact #[.agg cs.toArray, .string wt, .slice o n cp, .int .i64 token] W (Ret fun v w' => v = .bool true ∧ Ch Non W w') := by
  obtain ⟨c, rfl⟩ := conf_dat h0
  obtain ⟨past, rfl, hpv, hlen⟩ := past_dat h1
  refine coadjutorlaw17_StepExact.calls _ _ _ _ _ _ _ _ _ _ _ ?_
  unfold coadjutorlaw17_StepExact.vc
  intro w1 e1
  have hC : Blk w1 W.heap.size (cfE c) t_api_Config := Blk.new e1
  have hc1 : Ch Non W w1 := Ch.alloc e1
  refine step_call (awake17_spec w1) ?_
  rintro v w2 ⟨rfl, hc2⟩
  have hC2 := hC.keepN hc2
  have hc02 := hc1.andN hc2
  refine ⟨_, rfl, iteF rfl ⟨fun _ => ⟨rfl, hc02⟩, dF fun hn6 => ?_⟩⟩
  refine ⟨_, _, _, _, _, _, ⟨hC2.cell 0 rfl, hC2.cell 1 rfl, hC2.cell 2 rfl, hC2.cell 3 rfl, hC2.cell 4 rfl, hC2.cell 5 rfl⟩, step_call (small17_spec w2 c) ?_⟩
  rintro v w3 ⟨rfl, hc3⟩
  have hc03 := hc02.andN hc3
  have hC3 := hC2.keepN hc3
  have hp6 : past.length ≤ 6 := by omega
  refine ⟨_, rfl, fun _ => ⟨rfl, hc03⟩, fun hsm => ⟨fun _ => ⟨rfl, hc03⟩, fun hw => ?_⟩⟩
  refine ⟨fun i k w' => Ch Non w3 w' ∧ ∃ j : Nat, i = j ∧ j ≤ past.length ∧ k = past.length - j ∧ ∀ e ∈ past.take j, shortE e, ⟨_, Ch.refl _ _, 0, rfl, Nat.zero_le _, rfl, fun e he => by simp at he⟩, ?_⟩
  rintro jk i k w4 ⟨hc34, j, rfl, hj, rfl, hsh⟩
  have hc04 := hc03.andN hc34
  refine ⟨dT fun hlt => ?_, dF fun hge => ?_⟩
  · have hlt : j < past.length := by omega
    obtain ⟨a, o1, c1, o2, c2, rfl, _, hE, hcell⟩ := PV.get hpv hlt
    have hsn := take_snoc past j hlt
    refine ⟨⟨by omega, by omega⟩, _, _, _, (hcell w4 hc04).1, fun _ => ⟨rfl, hc04⟩, dF fun hk => ⟨⟨by omega, by omega⟩, _, _, _, (hcell w4 hc04).2, fun _ => ⟨rfl, hc04⟩, dF fun hv => ?_⟩⟩
    refine ⟨past.length - (j + 1), by omega, hc34, j + 1, by rw [wrap_id (by omega) (by omega)]; rfl, hlt, rfl, fun e he => ?_⟩
    rw [hsn] at he
    rcases List.mem_append.1 he with he | he
    · exact hsh e he
    · rw [List.mem_singleton] at he; subst he; exact ⟨by omega, by omega⟩
  have hje : j = past.length := by omega
  subst hje
  rw [List.take_length] at hsh
  have hC4 := hC3.keepN hc34
  refine ⟨_, _, _, _, _, _, ⟨hC4.cell 0 rfl, hC4.cell 1 rfl, hC4.cell 2 rfl, hC4.cell 3 rfl, hC4.cell 4 rfl, hC4.cell 5 rfl⟩, step_call (brOf_law w4 c wt) ?_⟩
  rintro v w5 ⟨hc5, hy⟩
  have hc05 := hc04.andN hc5
  rcases hy with ⟨b, rfl, hb, hK⟩ | ⟨hno, e, rfl, he⟩
  case inr => exact ⟨_, _, rfl, fun _ => ⟨rfl, hc05⟩, fun hf => by simp at hf; exact absurd hf he⟩
  have m : Md c wt := ⟨hK.ok, hK.sz⟩
  have hC5 := hC4.keepN hc5
  refine ⟨_, _, rfl, iteF rfl ⟨_, _, _, _, _, _, ⟨hC5.cell 0 rfl, hC5.cell 1 rfl, hC5.cell 2 rfl, hC5.cell 3 rfl, hC5.cell 4 rfl, hC5.cell 5 rfl⟩, fun w6 e6 => ?_⟩⟩
  have hA := Blk.new e6
  refine ⟨⟨hA.ok 0 rfl, hA.ok 1 rfl, hA.ok 2 rfl, hA.ok 3 rfl, hA.ok 4 rfl, hA.ok 5 rfl, hA.ok 6 rfl⟩, fun w7 e7 => ?_⟩
  have e7' : w7 = w6.setCells w5.heap.size 0 (cfE c ++ [Value.string wt]) := e7
  have hM7 := hA.all (cfE c ++ [Value.string wt]) rfl e7'
  have hc57 : Ch Non w5 w7 := (Ch.alloc (F := Non) e6).trans (Ch.sets (F := (· = w5.heap.size)) e7' rfl) (fun i hi he => by omega)
  clear e7' e7 hA
  have hc07 := hc05.andN hc57
  refine step_call (forms_spec (hpv.keepN hc07) (by omega)) ?_
  rintro v w8 ⟨⟨uo, uc, rfl⟩, hu, hc8⟩
  have hc08 := hc07.andN hc8
  have hM8 := hM7.keepN hc8
  have hK8 := (hK.keepN hc57).keepN hc8
  refine ⟨_, _, _, rfl, fun i k w' => Ch Non w8 w' ∧ ∃ j : Nat, i = j ∧ j ≤ past.length ∧ k = past.length - j, ⟨_, Ch.refl _ _, 0, rfl, Nat.zero_le _, rfl⟩, ?_⟩
  rintro jk i k w9 ⟨hc89, j, rfl, hj, rfl⟩
  have hc09 := hc08.andN hc89
  have hM9 := hM8.keepN hc89
  have hK9 := hK8.keepN hc89
  have hu9 := hu.keepN hc89
  refine ⟨dT fun hlt => ?_, dF fun hge => ?_⟩
  · have hlt : j < past.length := by omega
    have hlt0 : 0 < past.length := by omega
    obtain ⟨a, o1, c1, o2, c2, rfl, _, hE, hcell⟩ := PV.get hpv hlt
    obtain ⟨a', o3, c3, o4, c4, ha', _, hE0, hcell0⟩ := PV.get hpv hlt0
    have haa : a' = a := (Option.some.inj ha').symm
    subst haa
    have hcell0 : ∀ w', Ch Non W w' → w'.cell? a' = some (.slice o3 past[0].1.length c3) ∧ w'.cell? (a'.add 1) = some (.slice o4 past[0].2.length c4) := fun w' k => by
      have := hcell0 w' k
      rwa [Nat.zero_mul, add_none] at this
    obtain ⟨ua, uo1, uc1, uo2, uc2, rfl, _, hUE, hucell⟩ := PV.get hu9 hlt
    have hshj := hsh _ (List.getElem_mem hlt)
    have hsh0 := hsh _ (List.getElem_mem hlt0)
    have hlj := hlen _ (List.getElem_mem hlt)
    have hl0 := hlen _ (List.getElem_mem hlt0)
    generalize past[j] = e at hE hcell hUE hucell hshj hlj
    generalize past[0] = f at hE0 hcell0 hsh0 hl0
    have hsm1 : Step.small e.1 ∧ Step.small e.2 := ⟨⟨by have := hshj.1; omega, hlj.1⟩, ⟨by have := hshj.2; omega, hlj.2⟩⟩
    have hsm0 : Step.small f.1 ∧ Step.small f.2 := ⟨⟨by have := hsh0.1; omega, hl0.1⟩, ⟨by have := hsh0.2; omega, hl0.2⟩⟩
    have hwe1 := RV.wide hE.1
    have hwe2 := RV.wide hE.2
    have hwf1 := RV.wide hE0.1
    have hwf2 := RV.wide hE0.2
    have hE9 := hE.keepN hc09
    refine ⟨⟨by omega, by omega⟩, _, _, _, _, _, _, ⟨(hcell w9 hc09).1, (hcell w9 hc09).2⟩, step_call (Step.Copy_spec (p := (.slice o1 e.1.length c1, .slice o2 e.2.length c2)) hE9.ent hsm1) ?_⟩
    rintro v w10 ⟨⟨q1, q2⟩, rfl, hQ, hc10⟩
    have hQ' := hQ
    obtain ⟨⟨oq1, cq1, uq1, hq1, _⟩, ⟨oq2, cq2, uq2, hq2, _⟩⟩ := hQ
    dsimp only at hq1 hq2
    subst hq1; subst hq2
    refine ⟨_, _, _, _, _, _, rfl, fun w11 e11 => ?_⟩
    have hX := Blk.new e11
    refine ⟨⟨hX.ok 0 rfl, hX.ok 1 rfl⟩, fun w12 e12 => ?_⟩
    have e12' : w12 = w11.setCells w10.heap.size 0 [.slice oq1 e.1.length cq1, .slice oq2 e.2.length cq2] := e12
    have hX12 := hX.all [.slice oq1 e.1.length cq1, .slice oq2 e.2.length cq2] rfl e12'
    have hc1012 : Ch Non w10 w12 := (Ch.alloc (F := Non) e11).trans (Ch.sets (F := (· = w10.heap.size)) e12' rfl) (fun i hi he => by omega)
    clear e12 e12' hX
    have hc912 := hc10.andN hc1012
    have hc012 := hc09.andN hc912
    have hM12 := hM9.keepN hc912
    refine ⟨fun w' => Ch Non w12 w', fun w13 e13 => ⟨Ch.drew e13, ⟨by omega, by omega⟩, _, _, _, _, _, _, ⟨fun w' k => (hcell w' (hc012.andN k)).1, fun w' k => (hcell w' (hc012.andN k)).2⟩, _, _, _, _, _, _, _, ⟨fun w' k => (hM12.keepN k).cell 0 rfl, fun w' k => (hM12.keepN k).cell 1 rfl, fun w' k => (hM12.keepN k).cell 2 rfl, fun w' k => (hM12.keepN k).cell 3 rfl, fun w' k => (hM12.keepN k).cell 4 rfl, fun w' k => (hM12.keepN k).cell 5 rfl, fun w' k => (hM12.keepN k).cell 6 rfl⟩, ⟨by omega, by omega⟩, _, _, _, _, _, _, ⟨fun w' k => (hucell w' (hc912.andN k)).1, fun w' k => (hucell w' (hc912.andN k)).2⟩, ?_⟩⟩
    have hd13 : Ch Non w12 w13 := Ch.drew e13
    refine step_call (Stp.Good_spec (p := (.slice o1 e.1.length c1, .slice o2 e.2.length c2)) (e := e) (hK9.keepN (hc912.andN hd13)) (hE.keepN (hc012.andN hd13))) ?_
    rintro v w17 ⟨g1, rfl, hg1, hc17⟩
    have hc1217 := hd13.andN hc17
    refine ⟨_, rfl, hc1217, step_call (rGoodE_spec (pr := (.slice uo1 e.1.length uc1, .slice uo2 e.2.length uc2)) (e := e) m (hUE.keepN (hc912.andN hc1217))) ?_⟩
    rintro v w18 ⟨g2, rfl, hg2, hc18⟩
    have hc1218 := hc1217.andN hc18
    have hgg : g1 = g2 := by
      rw [Bool.eq_iff_iff, hg1, hg2]
    subst hgg
    refine ⟨_, rfl, hc1218, iteF (by simp) ⟨_, _, _, _, _, _, ⟨fun w' k => (hX12.keepN k).cell 0 rfl, fun w' k => (hX12.keepN k).cell 1 rfl⟩, ⟨by omega, by omega⟩, _, _, _, _, _, _, ⟨(hcell w18 (hc012.andN hc1218)).1, (hcell w18 (hc012.andN hc1218)).2⟩, hc1218, ?_⟩⟩
    have hQ12 := hQ'.keepN hc1012
    refine step_call (Step.Same_spec (p := (.slice oq1 e.1.length cq1, .slice oq2 e.2.length cq2)) (q := (.slice o1 e.1.length c1, .slice o2 e.2.length c2)) (e := e) (f := e) (hQ12.keepN hc1218) (hE.keepN (hc012.andN hc1218)).ent hsm1) ?_
    rintro v w20 ⟨rfl, hc20⟩
    have hc1220 := hc1218.andN hc20
    refine ⟨_, rfl, hc1220, iteF (by simp) ⟨_, _, _, fun w' k => (hX12.keepN k).cell 0 rfl, ⟨by omega, by omega⟩, _, _, _, (hcell w20 (hc012.andN hc1220)).1, hc1220, ?_⟩⟩
    refine step_call (table_spec (hQ12.keepN hc1220).1 (hE.keepN (hc012.andN hc1220)).ent.1 hwe1) ?_
    rintro v w22 ⟨rfl, hc22⟩
    have hc1222 := hc1220.andN hc22
    refine ⟨_, rfl, hc1222, iteF (by simp) ⟨_, _, _, fun w' k => (hX12.keepN k).cell 1 rfl, ⟨by omega, by omega⟩, _, _, _, (hcell w22 (hc012.andN hc1222)).2, hc1222, ?_⟩⟩
    refine step_call (table_spec (hQ12.keepN hc1222).2 (hE.keepN (hc012.andN hc1222)).ent.2 hwe2) ?_
    rintro v w24 ⟨rfl, hc24⟩
    have hc024 := hc012.andN (hc1222.andN hc24)
    have hc924 := hc912.andN (hc1222.andN hc24)
    refine ⟨_, rfl, hc1222.andN hc24, iteF (by simp) ⟨fun w' => Ch Non w24 w', fun w25 e25 => ⟨Ch.drew e25, ⟨by omega, by omega⟩, _, _, _, _, _, _, ⟨fun w' k => (hcell0 w' (hc024.andN k)).1, fun w' k => (hcell0 w' (hc024.andN k)).2⟩, ⟨by omega, by omega⟩, _, _, _, _, _, _, ⟨fun w' k => (hcell w' (hc024.andN k)).1, fun w' k => (hcell w' (hc024.andN k)).2⟩, ⟨by omega, by omega⟩, _, _, _, fun w' k => (hcell0 w' (hc024.andN k)).1, ⟨by omega, by omega⟩, _, _, _, fun w' k => (hcell w' (hc024.andN k)).1, ?_⟩⟩⟩
    have hd25 : Ch Non w24 w25 := Ch.drew e25
    refine step_call (Step.Same_spec (p := (.slice o3 f.1.length c3, .slice o4 f.2.length c4)) (q := (.slice o1 e.1.length c1, .slice o2 e.2.length c2)) (e := f) (f := e) (hE0.keepN (hc024.andN hd25)).ent (hE.keepN (hc024.andN hd25)).ent hsm0) ?_
    rintro v w30 ⟨rfl, hc30⟩
    have hc2430 := hd25.andN hc30
    refine ⟨_, rfl, hc2430, step_call (table_spec (hE0.keepN (hc024.andN hc2430)).ent.1 (hE.keepN (hc024.andN hc2430)).ent.1 hwf1) ?_⟩
    rintro v w31 ⟨rfl, hc31⟩
    have hc2431 := hc2430.andN hc31
    have hnext : ∀ w', Ch Non w24 w' → ∃ vk_4 : Nat, vk_4 < past.length - j ∧ Ch Non w8 w' ∧ ∃ j' : Nat, IntKind.i64.wrap ((j : Int) + 1) = j' ∧ j' ≤ past.length ∧ vk_4 = past.length - j' := fun w' k => ⟨past.length - (j + 1), by omega, (hc89.andN hc924).andN k, j + 1, by rw [wrap_id (by omega) (by omega)]; rfl, hlt, rfl⟩
    refine ⟨_, rfl, hc2431, fun ht => ⟨⟨by omega, by omega⟩, _, _, _, fun w' k => (hcell0 w' (hc024.andN k)).2, ⟨by omega, by omega⟩, _, _, _, (hcell w31 (hc024.andN hc2431)).2, hc2431, step_call (table_spec (hE0.keepN (hc024.andN hc2431)).ent.2 (hE.keepN (hc024.andN hc2431)).ent.2 hwf2) ?_⟩, fun ht => iteF ?_ (hnext _ hc2431)⟩
    · rintro v w33 ⟨rfl, hc33⟩
      have ht := of_decide_eq_true ht
      refine ⟨_, rfl, hc2431.andN hc33, iteF ?_ (hnext _ (hc2431.andN hc33))⟩
      have : decide (f = e) = decide (f.2 = e.2) := decide_eq_decide.2 ⟨fun h => by rw [h], fun h => Prod.ext ht h⟩
      rw [this]; simp
    · have ht := of_decide_eq_false ht
      rw [decide_eq_false (show ¬ f = e from fun h => ht (by rw [h]))]; rfl
  · obtain ⟨sn, se, sl, hone⟩ := StepR.one c wt past token
    refine step_call (Stp.Step_spec hK9 (hpv.keepN hc09) token) ?_
    rintro v w34 hR1
    have hc34' := hR1.ch
    obtain ⟨⟨p1, p2⟩, u1, rfl, hE1, hI1⟩ := hone _ _ _ hR1
    obtain ⟨o1, c1, o2, c2, hpe⟩ := ents_of hE1
    injection hpe with hpe1 hpe2
    subst hpe1; subst hpe2
    have hI1' := hI1
    obtain ⟨ou, cu, rfl, _⟩ := hI1
    refine ⟨_, _, _, _, _, _, _, _, _, _, rfl, fun w35 e35 => ?_⟩
    have hX := Blk.new e35
    refine ⟨⟨hX.ok 0 rfl, hX.ok 1 rfl⟩, fun w36 e36 => ?_⟩
    have e36' : w36 = w35.setCells w34.heap.size 0 [.slice o1 se.1.length c1, .slice o2 se.2.length c2] := e36
    have hX36 := hX.all [.slice o1 se.1.length c1, .slice o2 se.2.length c2] rfl e36'
    have hc3436 : Ch Non w34 w36 := (Ch.alloc (F := Non) e35).trans (Ch.sets (F := (· = w34.heap.size)) e36' rfl) (fun i hi he => by omega)
    have hc936 := hc34'.andN hc3436
    have hM36 := hM9.keepN hc936
    refine ⟨_, _, _, _, _, _, _, ⟨hM36.cell 0 rfl, hM36.cell 1 rfl, hM36.cell 2 rfl, hM36.cell 3 rfl, hM36.cell 4 rfl, hM36.cell 5 rfl, hM36.cell 6 rfl⟩, step_call (rStep_spec m (hu9.keepN hc936) token (by omega)) ?_⟩
    rintro v w37 hR2
    have hc37 := hR2.ch
    obtain ⟨⟨p3, p4⟩, u2, rfl, hE2, hI2⟩ := hone _ _ _ hR2
    obtain ⟨o3, c3, o4, c4, hpe⟩ := ents_of hE2
    injection hpe with hpe1 hpe2
    subst hpe1; subst hpe2
    have hI2' := hI2
    obtain ⟨ov, cv, rfl, _⟩ := hI2
    refine ⟨_, _, _, _, _, _, _, _, _, _, rfl, fun w38 e38 => ?_⟩
    have hY := Blk.new e38
    refine ⟨⟨hY.ok 0 rfl, hY.ok 1 rfl⟩, fun w39 e39 => ?_⟩
    have e39' : w39 = w38.setCells w37.heap.size 0 [.slice o3 se.1.length c3, .slice o4 se.2.length c4] := e39
    have hY39 := hY.all [.slice o3 se.1.length c3, .slice o4 se.2.length c4] rfl e39'
    have hc3739 : Ch Non w37 w39 := (Ch.alloc (F := Non) e38).trans (Ch.sets (F := (· = w37.heap.size)) e39' rfl) (fun i hi he => by omega)
    have hc3439 := hc3436.andN (hc37.andN hc3739)
    have hX39 := hX36.keepN (hc37.andN hc3739)
    have hE1 := hE1.keepN hc3439
    have hE2 := hE2.keepN hc3739
    have hc039 := (hc09.andN hc34').andN hc3439
    refine iteT (by simp) (step_call (ints17_spec (hI1'.keepN hc3439) (hI2'.keepN hc3739)) ?_)
    rintro v w40 ⟨rfl, hc40⟩
    refine ⟨_, rfl, iteT (by simp) ⟨_, _, _, (hX39.keepN hc40).cell 0 rfl, _, _, _, (hY39.keepN hc40).cell 0 rfl, step_call (table_spec (hE1.keepN hc40).ent.1 (hE2.keepN hc40).ent.1 (RV.wide hE1.1)) ?_⟩⟩
    rintro v w41 ⟨rfl, hc41⟩
    have hc3941 := hc40.andN hc41
    refine ⟨_, rfl, iteT (by simp) ⟨_, _, _, (hX39.keepN hc3941).cell 1 rfl, _, _, _, (hY39.keepN hc3941).cell 1 rfl, step_call (table_spec (hE1.keepN hc3941).ent.2 (hE2.keepN hc3941).ent.2 (RV.wide hE1.2)) ?_⟩⟩
    rintro v w42 ⟨rfl, hc42⟩
    have hX42 := hX39.keepN (hc3941.andN hc42)
    refine ⟨_, rfl, iteT (by simp) ⟨_, _, _, _, _, _, ⟨hX42.cell 0 rfl, hX42.cell 1 rfl⟩, step_call (GoodNil_spec w42 _ _ _ _ _ _) ?_⟩⟩
    rintro v w43 ⟨rfl, hc43⟩
    exact ⟨_, rfl, rfl, (hc039.andN (hc3941.andN hc42)).andN hc43⟩
end Go.Proofs.YtfhnegfoglngoaaGreat.RefS
