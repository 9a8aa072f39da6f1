/- GenNext's, GenBegins', GenGoes' and GenBest's contracts: of all arguments the Go functions answer true and leave what was there; the conditions stand in each theorem. -/
import Derived.Test.YtfhnegfoglngoaaGenL
import Derived.Test.YtfhnegfoglngoaaVcGenX
set_option linter.unusedVariables false
set_option linter.unusedSimpArgs false
namespace Go.Proofs.Ytfhnegfoglngoaa.Gen
open Go Go.Proofs Go.Proofs.Ytfhnegfoglngoaa.V Go.Proofs.Ytfhnegfoglngoaa.Vc Go.Proofs.Ytfhnegfoglngoaa.Conf Go.Proofs.Ytfhnegfoglngoaa.Brain Go.Proofs.Ytfhnegfoglngoaa.Num Go.Proofs.Ytfhnegfoglngoaa.Stp Go.Proofs.Ytfhnegfoglngoaa.IntsT Go.RowKit

theorem ints_iv {W : World} {o : Option Addr} {n cp : Nat} (h1 : DatC Try.prog W t_S_int [.slice o n cp]) : ∃ ts : List Int, n = ts.length ∧ IV W (.slice o ts.length cp) ts (fun _ => True) := by
  obtain ⟨o', c', ts, hcs, hm1, hm2, _, _, hr0⟩ := h1.ints (k := .i64) (e := t_int) (by kernel_rfl) (by kernel_rfl)
  injection hcs with hcs
  injection hcs with q1 q2 q3
  subst q1; subst q2; subst q3
  exact ⟨ts, rfl, o, cp, rfl, hm1, hm2, hr0⟩
theorem GenNext_true (W : World) (draw : Int) (hd0 : (Lit.int .i64 draw).wf = true) (o : Option Addr) (n cp : Nat) (h1 : DatC Try.prog W t_S_int [.slice o n cp]) :
    Calls Try.prog i_coadjutorlaw18_GenNext #[.int .i64 draw, .slice o n cp] W (Ret fun v w' => v = .bool true ∧ Ch Non W w') := by
  obtain ⟨ts, rfl, hts⟩ := ints_iv h1
  refine coadjutorlaw18_GenNext.calls _ _ _ _ ?_
  unfold coadjutorlaw18_GenNext.vc
  refine step_call (awake18_spec W) ?_
  rintro v w1 ⟨rfl, hc1⟩
  refine ⟨_, rfl, iteF rfl ⟨fun _ => ⟨rfl, hc1⟩, fun h40 => ?_⟩⟩
  have h40 : ts.length ≤ 40 := by have := of_decide_eq_false h40; omega
  refine step_call (Next_spec (hts.keepN hc1) (by omega) draw) ?_
  rintro v w2 ⟨rfl, hc2⟩
  refine ⟨_, rfl, step_call (rNext_spec (hts.keepN (hc1.andN hc2)) (by omega) draw) ?_⟩
  rintro v w3 ⟨rfl, hc3⟩
  exact ⟨_, rfl, by simp, (hc1.andN hc2).andN hc3⟩
set_option maxRecDepth 100000 in
set_option maxHeartbeats 2000000 in
theorem GenBegins_true (W : World) (cs : List Value) (h0 : DatC Try.prog W t_api_Config cs) (wt : ByteArray) (hwt : wt.size ≤ 140737488351232) (o : Option Addr) (n cp : Nat) (h1 : DatC Try.prog W t_S_int [.slice o n cp]) (most : Int) (hm0 : (Lit.int .i64 most).wf = true) (o2 : Option Addr) (n2 cp2 : Nat) (h2 : DatC Try.prog W t_S_int [.slice o2 n2 cp2]) (more : Int) (hs0 : (Lit.int .i64 more).wf = true) :
    Calls Try.prog i_coadjutorlaw18_GenBegins #[.agg cs.toArray, .string wt, .slice o n cp, .int .i64 most, .slice o2 n2 cp2, .int .i64 more] W (Ret fun v w' => v = .bool true ∧ Ch Non W w') := by
  obtain ⟨c, rfl⟩ := conf_dat h0
  obtain ⟨ts, rfl, hpr⟩ := ints_iv h1
  obtain ⟨ds, rfl, hdr⟩ := ints_iv h2
  refine coadjutorlaw18_GenBegins.calls _ _ _ _ _ _ _ _ _ _ _ _ _ _ _ ?_
  unfold coadjutorlaw18_GenBegins.vc
  intro w1 e1
  have hC : Blk w1 W.heap.size (cfE c) t_api_Config := Blk.new e1
  have hc1 : Ch Non W w1 := Ch.alloc e1
  refine step_call (awake18_spec w1) ?_
  rintro v w2 ⟨rfl, hc2⟩
  have hC2 := hC.keepN hc2
  have hc02 := hc1.andN hc2
  refine ⟨_, rfl, iteF rfl ⟨fun _ => ⟨rfl, hc02⟩, fun hn8 => ⟨fun _ => ⟨rfl, hc02⟩, fun hd8 => ?_⟩⟩⟩
  have hn8 : ts.length ≤ 8 := by have := of_decide_eq_false hn8; omega
  have hd8 : ds.length ≤ 8 := by have := of_decide_eq_false hd8; omega
  refine ⟨_, _, _, _, _, _, ⟨hC2.cell 0 rfl, hC2.cell 1 rfl, hC2.cell 2 rfl, hC2.cell 3 rfl, hC2.cell 4 rfl, hC2.cell 5 rfl⟩, step_call (small18_spec w2 c) ?_⟩
  rintro v w3 ⟨rfl, hc3⟩
  have hc03 := hc02.andN hc3
  have hC3 := hC2.keepN hc3
  refine ⟨_, rfl, fun _ => ⟨rfl, hc03⟩, fun hsm => ⟨fun _ => ⟨rfl, hc03⟩, fun hw => ?_⟩⟩
  refine ⟨_, _, _, _, _, _, ⟨hC3.cell 0 rfl, hC3.cell 1 rfl, hC3.cell 2 rfl, hC3.cell 3 rfl, hC3.cell 4 rfl, hC3.cell 5 rfl⟩, step_call (brOf_law w3 c wt) ?_⟩
  rintro v w4 ⟨hc4, hy⟩
  have hc04 := hc03.andN hc4
  rcases hy with ⟨b, rfl, hb, hK⟩ | ⟨hno, e, rfl, he⟩
  case inr => exact ⟨_, _, rfl, fun _ => ⟨rfl, hc04⟩, fun hf => by simp at hf; exact absurd hf he⟩
  have m : Md c wt := ⟨hK.ok, hK.sz⟩
  have hctx := m.ok.2.2.2.2.2.1
  have hvoc := m.ok.1
  refine ⟨_, _, rfl, iteF rfl ?_⟩
  have hC4 := hC3.keepN hc4
  have hpr4 := hpr.keepN hc04
  have hdr4 := hdr.keepN hc04
  refine step_call (Gen_spec hK hpr4 (by omega) most hdr4) ?_
  rintro v w5 hR
  have hc5 := hR.ch
  have hc05 := hc04.andN hc5
  by_cases hk : checkP c most ts = 0
  case neg =>
    rw [hR.no hk]
    exact ⟨_, _, _, _, rfl, fun _ => ⟨rfl, hc05⟩, fun hf => by simp at hf; exact absurd hf hk⟩
  obtain ⟨hne, hm1, hm2, htok, hlen⟩ := checkP_ok hk
  obtain ⟨M, hM⟩ : ∃ M : Nat, most = M := ⟨most.toNat, by omega⟩
  subst hM
  obtain ⟨u, rfl, hu⟩ := hR.yes hk
  obtain ⟨past, hpast⟩ : ∃ past : List Ent, runE c wt [] ts = past := ⟨_, rfl⟩
  obtain ⟨s0, hs0'⟩ : ∃ s0 : List Int, Stp.runS c wt [] [] ts = s0 := ⟨_, rfl⟩
  have hsl : s0.length = c.vocab.toNat := by rw [← hs0', runS_len hne]
  have hsay : ∀ (tk : Nat → List Int → Int) (N : Nat), sayP c wt tk N ts = sayG c wt tk N 0 past s0 := fun tk N => by unfold sayP; rw [Int.toNat_natCast, hpast, hs0']
  rw [hsay] at hu
  obtain ⟨x, hx⟩ : ∃ x : List Int, sayG c wt (drawT ds) M 0 past s0 = x := ⟨_, rfl⟩
  have hxl : x.length ≤ M := by rw [← hx]; exact sayG_len _ _ _ _
  have hxt : ∀ t ∈ x, 0 < t ∧ t < c.vocab := by rw [← hx]; exact sayG_tok (by omega) (drawT_ok ds) _ _ _ _ hsl
  rw [hx] at hu
  have hu' := hu
  obtain ⟨ou, cu, rfl, hcu, _, hur⟩ := hu
  have hK5 := hK.keepN hc5
  have hC5 := hC4.keepN hc5
  have hpr5 := hpr4.keepN hc5
  have hdr5 := hdr4.keepN hc5
  refine ⟨_, _, _, _, rfl, iteF rfl (iteF (decide_eq_false (by omega)) ?_)⟩
  refine ⟨fun i k w' => ∃ j : Nat, i = j ∧ 1 ≤ j ∧ j ≤ M ∧ k = M - j ∧ Ch Non w5 w', ⟨_, 1, rfl, Nat.le_refl _, by omega, rfl, Ch.refl _ _⟩, ?_⟩
  rintro jk i k w6 ⟨j, rfl, hj1, hj, rfl, hc6⟩
  refine ⟨fun hlt => ?_, fun hge => ?_⟩
  · have hlt : j < M := by have := of_decide_eq_true hlt; omega
    refine step_call (Gen_spec (hK5.keepN hc6) (hpr5.keepN hc6) (by omega) j (hdr5.keepN hc6)) ?_
    rintro v w7 hR7
    obtain ⟨u7, rfl, hu7⟩ := hR7.yes (checkP_ok' hne (by omega) (by omega) htok (by omega))
    rw [hsay, sayG_take j M 0 past s0 (by omega), hx] at hu7
    have hu7' := hu7
    obtain ⟨o7, c7, rfl, _⟩ := hu7
    have hc67 := hc6.andN hR7.ch
    have htl : (x.take j).length = if x.length < j then x.length else j := by rw [List.length_take]; split <;> omega
    have hmin : (if (x.length : Int) < (j : Int) then (x.length : Int) else (j : Int)) = ((x.take j).length : Int) := by rw [List.length_take]; split <;> omega
    rw [hmin]
    have hle : (x.take j).length ≤ x.length := by rw [List.length_take]; omega
    have hcut : IV w7 (.slice (if cu = 0 then ou else ou.map (·.add (0 * 1))) ((x.take j).length - 0) (cu - 0)) (x.take j) (New w4 w5) := by
      have := (hu'.keepN hc67).cut rfl (a := 0) (b := (x.take j).length) (by omega) hle
      have e : (x.drop 0).take ((x.take j).length - 0) = x.take j := by
        rw [List.drop_zero, Nat.sub_zero, List.length_take]
        by_cases h : j ≤ x.length
        · rw [Nat.min_eq_left h]
        · rw [Nat.min_eq_right (by omega), List.take_length, List.take_of_length_le (by omega)]
      rwa [e] at this
    refine ⟨_, _, _, _, rfl, iteF rfl (iteF (by simp) ⟨⟨by omega, by omega⟩, step_call (ints18_spec hu7' hcut) ?_⟩)⟩
    rintro v w8 ⟨rfl, hc8⟩
    exact ⟨_, rfl, iteF (by simp) ⟨M - (j + 1), by omega, j + 1, by rw [wrap_id (by omega) (by omega)]; rfl, by omega, hlt, rfl, hc67.andN hc8⟩⟩
  · refine ⟨fun i k w' => ∃ j : Nat, i = j ∧ j ≤ x.length ∧ k = x.length - j ∧ Ch Non w6 w', ⟨_, 0, rfl, Nat.zero_le _, rfl, Ch.refl _ _⟩, ?_⟩
    rintro jk i k w9 ⟨j, rfl, hj, rfl, hc9⟩
    have hc59 := hc6.andN hc9
    refine ⟨fun hlt => ?_, fun hge => ?_⟩
    · have hlt : j < x.length := by have := of_decide_eq_true hlt; omega
      have hxj := hxt _ (List.getElem_mem hlt)
      have hjj : (j : Int).toNat * 1 = j := by omega
      rw [hjj]
      have hur9 := hur.keepN hc59
      refine ⟨fun w' => Ch Non w9 w', fun w10 e10 => ⟨Ch.drew e10, ⟨by omega, by omega⟩, Rd.keeps (S := fun w' => Ch Non w9 w') (F := New w4 w5) (enc := Value.int .i64) (xs := x) (fun w' k => hur9.keepN k) (Ch.refl _ _) hlt fun p hp => ⟨_, hp, iteF (decide_eq_false (by omega)) ⟨⟨by omega, by omega⟩,
        Rd.keeps (S := fun w' => Ch Non w9 w') (F := New w4 w5) (enc := Value.int .i64) (xs := x) (fun w' k => hur9.keepN k) (Ch.refl _ _) hlt fun p hp => ⟨_, hp, _, fun w' k => ((hC5.keepN hc59).keepN k).cell 0 rfl, iteF (decide_eq_false (by omega)) ⟨x.length - (j + 1), by omega, j + 1, by rw [wrap_id (by omega) (by omega)]; rfl, hlt, rfl, hc9.andN (Ch.drew e10)⟩⟩⟩⟩⟩⟩
    · have ext : ∀ z : Int, ((M ≤ ds.length) ∨ z = 0) → sayG c wt (drawT (ds ++ [z])) M 0 past s0 = x := fun z hz => by
        rw [← hx]
        refine sayG_congr _ _ _ _ (fun i s _ hi => ?_)
        unfold drawT
        congr 1
        rw [List.getD_eq_getElem?_getD, List.getD_eq_getElem?_getD]
        by_cases h : i < ds.length
        · rw [List.getElem?_append_left h]
        · rcases hz with hz | hz
          · omega
          · subst hz
            rw [List.getElem?_eq_none (show ds.length ≤ i by omega)]
            by_cases h2 : i = ds.length
            · subst h2; simp
            · rw [List.getElem?_eq_none (by rw [List.length_append]; simp; omega)]
      have go : ∀ z : Int, ((M ≤ ds.length) ∨ z = 0) → ∀ w14 : World, w14 = w9.alloc (.cells #[] t_int (0, 0)) →
          ∃ (A : Option Addr) (N C : Nat) (w15 : World), (Builtin.append_ #[t_S_int, t_S_int] t_S_int #[.slice (some ⟨w9.heap.size, 0, none⟩) 0 0, .slice o2 ds.length cp2]).run Try.prog w14 = .ok (.slice A N C) w15 ∧ ∀ w16 : World, w16 = w15.alloc (.cells #[.int .i64 z] t_int (0, 0)) →
          ∃ (A2 : Option Addr) (N2 C2 : Nat) (w17 : World), (Builtin.append_ #[t_S_int, t_S_int] t_S_int #[.slice A N C, .slice (some ⟨w15.heap.size, 0, none⟩) 1 1]).run Try.prog w16 = .ok (.slice A2 N2 C2) w17 ∧
          Calls Try.prog i_gen_Gen #[.pointer (some ⟨b, 0, none⟩), .slice o ts.length cp, .int .i64 M, .slice A2 N2 C2] w17 (Ret fun v w18 => ∃ (A3 : Option Addr) (C3 : Nat), v = .tuple #[.slice A3 x.length C3, .int .i64 0] ∧ Calls Try.prog i_coadjutorlaw18_ints #[.slice ou x.length cu, .slice A3 x.length C3] w18 (Ret fun v w19 => v = .bool true ∧ Ch Non W w19)) := by
        intro z hz w14 e14
        obtain ⟨_, _, hds, _, _, hdr'⟩ := hdr5
        injection hds with q1 q2 q3
        subst q1; subst q3
        have hg : Gr Non w9 w14 t_int 1 (some ⟨w9.heap.size, 0, none⟩) 0 0 [] := Gr.made0 (Ch.refl _ _) e14
        obtain ⟨A, C, w15, r15, hg15, _⟩ := Gr.app (c2 := cp2) (m := ds.length) el_S_int hg t_S_int ((hdr'.keepN hc59).keepN hg.2) (by rw [List.length_map, Nat.mul_one]) (fun u hu => by
          obtain ⟨y, _, rfl⟩ := List.mem_map.1 hu
          rfl) (by omega) (by omega)
        rw [Nat.zero_add, List.nil_append] at hg15
        rw [Nat.zero_add] at r15
        refine ⟨A, _, C, w15, r15, fun w16 e16 => ?_⟩
        obtain ⟨A2, C2, w17, r17, hg17, _⟩ := Gr.push el_S_int hg15 t_S_int e16 rfl rfl (by omega) (by omega)
        have hcl : (ds.map (Value.int .i64)) ++ (#[Value.int .i64 z] : Array Value).toList = (ds ++ [z]).map (.int .i64) := by rw [List.map_append]; rfl
        rw [hcl] at hg17
        have hc917 := hg17.2
        have hIV : IV w17 (.slice A2 (ds.length + 1) C2) (ds ++ [z]) (New w9 w17) := by
          have e : ds.length + 1 = (ds ++ [z]).length := by rw [List.length_append]; rfl
          rw [e] at hg17 ⊢
          exact Gr.iv hg17
        refine ⟨A2, _, C2, w17, r17, ?_⟩
        refine step_call (Gen_spec (hK5.keepN (hc59.andN hc917)) (hpr5.keepN (hc59.andN hc917)) (by omega) M hIV) ?_
        rintro v w18 hR18
        obtain ⟨u18, rfl, hu18⟩ := hR18.yes hk
        rw [hsay, ext z hz] at hu18
        have hu18' := hu18
        obtain ⟨o18, c18, rfl, _⟩ := hu18
        have hc518 := (hc59.andN hc917).andN hR18.ch
        refine ⟨_, _, rfl, step_call (ints18_spec (hu'.keepN hc518) hu18') ?_⟩
        rintro v w19 ⟨rfl, hc19⟩
        exact ⟨by simp, (hc05.andN hc518).andN hc19⟩
      refine ⟨fun hdm => ?_, fun hdm => ?_⟩
      · have hdm : M ≤ ds.length := by have := of_decide_eq_true hdm; omega
        intro w14 e14
        obtain ⟨A, N, C, w15, r15, k15⟩ := go more (.inl hdm) w14 e14
        refine ⟨A, N, C, w15, r15, fun w16 e16 => ?_⟩
        obtain ⟨A2, N2, C2, w17, r17, k17⟩ := k15 w16 e16
        refine ⟨A2, N2, C2, w17, r17, step_call k17 ?_⟩
        rintro v w18 ⟨A3, C3, rfl, k18⟩
        refine ⟨_, _, _, _, rfl, iteT rfl (step_call k18 ?_)⟩
        rintro v w19 ⟨rfl, hc19⟩
        exact ⟨_, rfl, rfl, hc19⟩
      · intro w14 e14
        obtain ⟨A, N, C, w15, r15, k15⟩ := go 0 (.inr rfl) w14 e14
        refine ⟨A, N, C, w15, r15, fun w16 e16 => ?_⟩
        obtain ⟨A2, N2, C2, w17, r17, k17⟩ := k15 w16 e16
        refine ⟨A2, N2, C2, w17, r17, step_call k17 ?_⟩
        rintro v w18 ⟨A3, C3, rfl, k18⟩
        refine ⟨_, _, _, _, rfl, iteT rfl (step_call k18 ?_)⟩
        rintro v w19 ⟨rfl, hc19⟩
        exact ⟨_, rfl, rfl, hc19⟩
set_option maxRecDepth 100000 in
set_option maxHeartbeats 2000000 in
theorem GenGoes_true (W : World) (cs : List Value) (h0 : DatC Try.prog W t_api_Config cs) (wt : ByteArray) (hwt : wt.size ≤ 140737488351232) (o : Option Addr) (n cp : Nat) (h1 : DatC Try.prog W t_S_int [.slice o n cp]) (most : Int) (hm0 : (Lit.int .i64 most).wf = true) (o2 : Option Addr) (n2 cp2 : Nat) (h2 : DatC Try.prog W t_S_int [.slice o2 n2 cp2]) (split : Int) (hs0 : (Lit.int .i64 split).wf = true) :
    Calls Try.prog i_coadjutorlaw18_GenGoes #[.agg cs.toArray, .string wt, .slice o n cp, .int .i64 most, .slice o2 n2 cp2, .int .i64 split] W (Ret fun v w' => v = .bool true ∧ Ch Non W w') := by
  obtain ⟨c, rfl⟩ := conf_dat h0
  obtain ⟨ts, rfl, hpr⟩ := ints_iv h1
  obtain ⟨ds, rfl, hdr⟩ := ints_iv h2
  refine coadjutorlaw18_GenGoes.calls _ _ _ _ _ _ _ _ _ _ _ _ _ _ _ ?_
  unfold coadjutorlaw18_GenGoes.vc
  intro w1 e1
  have hC : Blk w1 W.heap.size (cfE c) t_api_Config := Blk.new e1
  have hc1 : Ch Non W w1 := Ch.alloc e1
  refine step_call (awake18_spec w1) ?_
  rintro v w2 ⟨rfl, hc2⟩
  have hC2 := hC.keepN hc2
  have hc02 := hc1.andN hc2
  refine ⟨_, rfl, iteF rfl ⟨fun _ => ⟨rfl, hc02⟩, fun hn8 => ⟨fun _ => ⟨rfl, hc02⟩, fun hd8 => ?_⟩⟩⟩
  have hn8 : ts.length ≤ 6 := by have := of_decide_eq_false hn8; omega
  have hd8 : ds.length ≤ 6 := by have := of_decide_eq_false hd8; omega
  refine ⟨_, _, _, _, _, _, ⟨hC2.cell 0 rfl, hC2.cell 1 rfl, hC2.cell 2 rfl, hC2.cell 3 rfl, hC2.cell 4 rfl, hC2.cell 5 rfl⟩, step_call (small18_spec w2 c) ?_⟩
  rintro v w3 ⟨rfl, hc3⟩
  have hc03 := hc02.andN hc3
  have hC3 := hC2.keepN hc3
  refine ⟨_, rfl, fun _ => ⟨rfl, hc03⟩, fun hsm => ⟨fun _ => ⟨rfl, hc03⟩, fun hw => ?_⟩⟩
  refine ⟨_, _, _, _, _, _, ⟨hC3.cell 0 rfl, hC3.cell 1 rfl, hC3.cell 2 rfl, hC3.cell 3 rfl, hC3.cell 4 rfl, hC3.cell 5 rfl⟩, step_call (brOf_law w3 c wt) ?_⟩
  rintro v w4 ⟨hc4, hy⟩
  have hc04 := hc03.andN hc4
  rcases hy with ⟨b, rfl, hb, hK⟩ | ⟨hno, e, rfl, he⟩
  case inr => exact ⟨_, _, rfl, fun _ => ⟨rfl, hc04⟩, fun hf => by simp at hf; exact absurd hf he⟩
  have m : Md c wt := ⟨hK.ok, hK.sz⟩
  have hctx := m.ok.2.2.2.2.2.1
  have hvoc := m.ok.1
  refine ⟨_, _, rfl, iteF rfl ?_⟩
  have hC4 := hC3.keepN hc4
  have hpr4 := hpr.keepN hc04
  have hdr4 := hdr.keepN hc04
  refine step_call (Gen_spec hK hpr4 (by omega) most hdr4) ?_
  rintro v w5 hR
  have hc5 := hR.ch
  have hc05 := hc04.andN hc5
  by_cases hk : checkP c most ts = 0
  case neg =>
    rw [hR.no hk]
    exact ⟨_, _, _, _, rfl, fun _ => ⟨rfl, hc05⟩, fun hf => by simp at hf; exact absurd hf hk⟩
  obtain ⟨hne, hm1, hm2, htok, hlen⟩ := checkP_ok hk
  obtain ⟨M, hM⟩ : ∃ M : Nat, most = M := ⟨most.toNat, by omega⟩
  subst hM
  obtain ⟨u, rfl, hu⟩ := hR.yes hk
  obtain ⟨past, hpast⟩ : ∃ past : List Ent, runE c wt [] ts = past := ⟨_, rfl⟩
  obtain ⟨s0, hs0'⟩ : ∃ s0 : List Int, Stp.runS c wt [] [] ts = s0 := ⟨_, rfl⟩
  have hsl : s0.length = c.vocab.toNat := by rw [← hs0', runS_len hne]
  have hsay : sayP c wt (drawT ds) M ts = sayG c wt (drawT ds) M 0 past s0 := by unfold sayP; rw [Int.toNat_natCast, hpast, hs0']
  rw [hsay] at hu
  obtain ⟨x, hx⟩ : ∃ x : List Int, sayG c wt (drawT ds) M 0 past s0 = x := ⟨_, rfl⟩
  have hxl : x.length ≤ M := by rw [← hx]; exact sayG_len _ _ _ _
  have hxt : ∀ t ∈ x, 0 < t ∧ t < c.vocab := by rw [← hx]; exact sayG_tok (by omega) (drawT_ok ds) _ _ _ _ hsl
  rw [hx] at hu
  have hu' := hu
  obtain ⟨ou, cu, rfl, hcu, _, hur⟩ := hu
  have hK5 := hK.keepN hc5
  have hpr5 := hpr4.keepN hc5
  have hdr5 := hdr4.keepN hc5
  refine ⟨_, _, _, _, rfl, iteF rfl ⟨fun _ => ⟨rfl, hc05⟩, fun hx1 => ⟨fun _ => ⟨rfl, hc05⟩, fun hM2 => ?_⟩⟩⟩
  have hx1 : 1 ≤ x.length := by have := of_decide_eq_false hx1; omega
  have hM2 : 2 ≤ M := by have := of_decide_eq_false hM2; omega
  have e1 : IntKind.i64.wrap ((x.length : Int) + 1) = ((x.length + 1 : Nat) : Int) := by rw [wrap_id (by omega) (by omega)]; omega
  have e2 : IntKind.u64.wrap (((x.length + 1 : Nat) : Int)) = ((x.length + 1 : Nat) : Int) := by rw [wrap_u64]; omega
  rw [e1, e2]
  obtain ⟨k0, hk0, hk08⟩ : ∃ k : Nat, IntKind.i64.wrap (Int.tmod (IntKind.u64.wrap split) ((x.length + 1 : Nat) : Int)) = k ∧ k ≤ x.length := by
    have h0 : 0 ≤ IntKind.u64.wrap split := by rw [wrap_u64]; omega
    have h1 := Int.emod_nonneg (IntKind.u64.wrap split) (b := ((x.length + 1 : Nat) : Int)) (by omega)
    have h2 := Int.emod_lt_of_pos (IntKind.u64.wrap split) (b := ((x.length + 1 : Nat) : Int)) (by omega)
    refine ⟨(IntKind.u64.wrap split % ((x.length + 1 : Nat) : Int)).toNat, ?_, by omega⟩
    rw [tmod_pos h0, wrap_id (by omega) (by omega)]; omega
  rw [hk0]
  refine ⟨by omega, fun i w' => (∃ k : Nat, i = k ∧ k ≤ x.length ∧ k < M) ∧ w' = w5, ⟨fun h => ?_, fun h => ?_⟩, ?_⟩
  · have h := eq_of_beq h
    exact ⟨⟨M - 1, by rw [wrap_id (by omega) (by omega)]; omega, by omega, by omega⟩, rfl⟩
  · have h : ¬ (k0 : Int) = (M : Int) := by simpa using h
    exact ⟨⟨k0, rfl, hk08, by omega⟩, rfl⟩
  rintro jk i w6 ⟨⟨k, rfl, hkx, hkM⟩, rfl⟩
  have hmin : (if (ds.length : Int) < (k : Int) then (ds.length : Int) else (k : Int)) = ((min k ds.length : Nat) : Int) := by split <;> omega
  rw [hmin, Int.toNat_natCast, Int.toNat_natCast]
  refine ⟨fun w' => Ch Non w6 w', fun w7 e7 => ⟨Ch.drew e7, ⟨by omega, by omega⟩, ⟨by omega, by omega⟩, fun w8 e8 => ?_⟩⟩
  have hd7 : Ch Non w6 w7 := Ch.drew e7
  have hc68 := hd7.andN (Ch.alloc e8)
  obtain ⟨_, _, hps, _, _, hpr'⟩ := hpr5
  injection hps with q1 q2 q3
  subst q1; subst q3
  have hg : Gr Non w7 w8 t_int 1 (some ⟨w7.heap.size, 0, none⟩) 0 0 [] := Gr.made0 (Ch.refl _ _) e8
  obtain ⟨A, C, w9, r9, hg9, _⟩ := Gr.app (c2 := cp) (m := ts.length) el_S_int hg t_S_int ((hpr'.keepN hd7).keepN hg.2) (by rw [List.length_map, Nat.mul_one]) (fun u hu => by
    obtain ⟨y, _, rfl⟩ := List.mem_map.1 hu
    rfl) (by omega) (by omega)
  rw [Nat.zero_add, List.nil_append] at hg9
  rw [Nat.zero_add] at r9
  refine ⟨hc68, A, _, C, w9, r9, hd7.andN hg9.2, ?_⟩
  have hcut := (hu'.keepN (hd7.andN hg9.2)).cut rfl (a := 0) (b := k) (by omega) hkx
  rw [List.drop_zero] at hcut
  obtain ⟨o10, c10, hq, _, _, hr10⟩ := hcut
  injection hq with hq1 hq2 hq3
  have htkl : (x.take k).length = k := by rw [List.length_take]; omega
  rw [Nat.sub_zero] at hr10
  rw [← hq1] at hr10
  obtain ⟨A2, C2, w11, r11, hg11, _⟩ := Gr.app (c2 := cu - 0) (m := k - 0) el_S_int hg9 t_S_int hr10 (by rw [List.length_map, htkl]; omega) (fun u hu => by
    obtain ⟨y, _, rfl⟩ := List.mem_map.1 hu
    rfl) (by omega) (by omega)
  rw [← List.map_append, Nat.sub_zero] at hg11
  have hc611 := hd7.andN hg11.2
  have hIV : IV w11 (.slice A2 (ts.length + k) C2) (ts ++ x.take k) (New w7 w11) := by
    have e : ts.length + k = (ts ++ x.take k).length := by rw [List.length_append, htkl]
    rw [e] at hg11 ⊢
    exact Gr.iv hg11
  have hdc := (hdr5.keepN hc611).cut rfl (a := min k ds.length) (b := ds.length) (by omega) (Nat.le_refl _)
  have hdl : (ds.drop (min k ds.length)).length = ds.length - min k ds.length := List.length_drop
  rw [← hdl, List.take_length, hdl] at hdc
  have hwm : IntKind.i64.wrap ((M : Int) - (k : Int)) = ((M - k : Nat) : Int) := by rw [wrap_id (by omega) (by omega)]; omega
  rw [hwm]
  rw [Nat.sub_zero] at r11
  refine ⟨A2, _, C2, w11, r11, hc611, step_call (Gen_spec (hK5.keepN hc611) hIV (by rw [List.length_append, htkl]; omega) ((M - k : Nat) : Int) hdc) ?_⟩
  rintro v w12 hR12
  have htok2 : ∀ t ∈ ts ++ x.take k, tokOk c t := fun t ht => by
    rcases List.mem_append.1 ht with ht | ht
    · exact htok t ht
    · have := hxt t (List.mem_of_mem_take ht)
      exact ⟨by omega, this.2⟩
  obtain ⟨u12, rfl, hu12⟩ := hR12.yes (checkP_ok' (by simp [hne]) (by omega) (by omega) htok2 (by rw [List.length_append, htkl]; omega))
  have hfin : sayP c wt (drawT (ds.drop (min k ds.length))) ((M - k : Nat) : Int) (ts ++ x.take k) = x.drop k := by
    unfold sayP
    rw [Int.toNat_natCast, runE_app, runS_app, hpast, hs0']
    have h1 := sayG_drop (c := c) (wt := wt) (tk := drawT ds) k M 0 past s0 (by rw [hx]; exact hkx)
    rw [hx, Nat.zero_add] at h1
    rw [← h1, show k = 0 + k by omega, sayG_shift k]
    refine sayG_congr _ _ _ _ (fun i s _ _ => ?_)
    unfold drawT
    congr 1
    rw [List.getD_eq_getElem?_getD, List.getD_eq_getElem?_getD, List.getElem?_drop]
    by_cases h : k ≤ ds.length
    · rw [show min (0 + k) ds.length = k by omega, Nat.add_comm]
    · rw [List.getElem?_eq_none (by omega), List.getElem?_eq_none (by omega)]
  rw [hfin] at hu12
  have hu12' := hu12
  obtain ⟨o12, c12, rfl, _⟩ := hu12
  have hc612 := hc611.andN hR12.ch
  have hcut2 := (hu'.keepN hc612).cut rfl (a := k) (b := x.length) hkx (Nat.le_refl _)
  have hdl2 : (x.drop k).length = x.length - k := List.length_drop
  rw [← hdl2, List.take_length, hdl2] at hcut2
  refine ⟨_, _, _, _, rfl, hc612, iteT rfl ⟨⟨by omega, by omega⟩, step_call (ints18_spec hu12' hcut2) ?_⟩⟩
  rintro v w13 ⟨rfl, hc13⟩
  exact ⟨_, rfl, by simp, (hc05.andN hc612).andN hc13⟩
set_option maxRecDepth 100000 in
set_option maxHeartbeats 2000000 in
theorem GenBest_true (W : World) (cs : List Value) (h0 : DatC Try.prog W t_api_Config cs) (wt : ByteArray) (hwt : wt.size ≤ 140737488351232) (o : Option Addr) (n cp : Nat) (h1 : DatC Try.prog W t_S_int [.slice o n cp]) (most : Int) (hm0 : (Lit.int .i64 most).wf = true) :
    Calls Try.prog i_coadjutorlaw18_GenBest #[.agg cs.toArray, .string wt, .slice o n cp, .int .i64 most] W (Ret fun v w' => v = .bool true ∧ Ch Non W w') := by
  obtain ⟨c, rfl⟩ := conf_dat h0
  obtain ⟨ts, rfl, hpr⟩ := ints_iv h1
  refine coadjutorlaw18_GenBest.calls _ _ _ _ _ _ _ _ _ _ _ ?_
  unfold coadjutorlaw18_GenBest.vc
  intro w1 e1
  have hC : Blk w1 W.heap.size (cfE c) t_api_Config := Blk.new e1
  have hc1 : Ch Non W w1 := Ch.alloc e1
  refine step_call (awake18_spec w1) ?_
  rintro v w2 ⟨rfl, hc2⟩
  have hC2 := hC.keepN hc2
  have hc02 := hc1.andN hc2
  refine ⟨_, rfl, iteF rfl ⟨fun _ => ⟨rfl, hc02⟩, fun hn8 => ?_⟩⟩
  have hn8 : ts.length ≤ 8 := by have := of_decide_eq_false hn8; omega
  refine ⟨_, _, _, _, _, _, ⟨hC2.cell 0 rfl, hC2.cell 1 rfl, hC2.cell 2 rfl, hC2.cell 3 rfl, hC2.cell 4 rfl, hC2.cell 5 rfl⟩, step_call (small18_spec w2 c) ?_⟩
  rintro v w3 ⟨rfl, hc3⟩
  have hc03 := hc02.andN hc3
  have hC3 := hC2.keepN hc3
  refine ⟨_, rfl, fun _ => ⟨rfl, hc03⟩, fun hsm => ⟨fun _ => ⟨rfl, hc03⟩, fun hw => ?_⟩⟩
  refine ⟨_, _, _, _, _, _, ⟨hC3.cell 0 rfl, hC3.cell 1 rfl, hC3.cell 2 rfl, hC3.cell 3 rfl, hC3.cell 4 rfl, hC3.cell 5 rfl⟩, step_call (brOf_law w3 c wt) ?_⟩
  rintro v w4 ⟨hc4, hy⟩
  have hc04 := hc03.andN hc4
  rcases hy with ⟨b, rfl, hb, hK⟩ | ⟨hno, e, rfl, he⟩
  case inr => exact ⟨_, _, rfl, fun _ => ⟨rfl, hc04⟩, fun hf => by simp at hf; exact absurd hf he⟩
  have m : Md c wt := ⟨hK.ok, hK.sz⟩
  have hctx := m.ok.2.2.2.2.2.1
  have hvoc := m.ok.1
  refine ⟨_, _, rfl, iteF rfl ?_⟩
  have hC4 := hC3.keepN hc4
  have hpr4 := hpr.keepN hc04
  refine step_call (Greedy_spec hK hpr4 (by omega) most) ?_
  rintro v w5 hR
  have hc5 := hR.ch
  have hc05 := hc04.andN hc5
  by_cases hk : checkP c most ts = 0
  case neg =>
    rw [hR.no hk]
    exact ⟨_, _, _, _, rfl, fun _ => ⟨rfl, hc05⟩, fun hf => by simp at hf; exact absurd hf hk⟩
  obtain ⟨hne, hm1, hm2, htok, hlen⟩ := checkP_ok hk
  obtain ⟨M, hM⟩ : ∃ M : Nat, most = M := ⟨most.toNat, by omega⟩
  subst hM
  obtain ⟨u, rfl, hu⟩ := hR.yes hk
  obtain ⟨past, hpast⟩ : ∃ past : List Ent, runE c wt [] ts = past := ⟨_, rfl⟩
  obtain ⟨s0, hs0'⟩ : ∃ s0 : List Int, Stp.runS c wt [] [] ts = s0 := ⟨_, rfl⟩
  have hsl : s0.length = c.vocab.toNat := by rw [← hs0', runS_len hne]
  have hsay : ∀ (N : Nat), sayP c wt bestT N ts = sayG c wt bestT N 0 past s0 := fun N => by unfold sayP; rw [Int.toNat_natCast, hpast, hs0']
  rw [hsay] at hu
  obtain ⟨x, hx⟩ : ∃ x : List Int, sayG c wt bestT M 0 past s0 = x := ⟨_, rfl⟩
  have hxl : x.length ≤ M := by rw [← hx]; exact sayG_len _ _ _ _
  have hx0 : x = if bestI s0 = 0 then [] else bestI s0 :: sayG c wt bestT (M - 1) 1 (past ++ [stepE c wt past (bestI s0)]) (stepL c wt past (bestI s0)) := by
    rw [← hx]
    obtain ⟨N, rfl⟩ : ∃ N, M = N + 1 := ⟨M - 1, by omega⟩
    rw [sayG]
    rfl
  rw [hx] at hu
  have hu' := hu
  obtain ⟨ou, cu, rfl, hcu, _, hur⟩ := hu
  have hK5 := hK.keepN hc5
  have hpr5 := hpr4.keepN hc5
  refine ⟨_, _, _, _, rfl, iteF rfl (step_call (Run_spec hK5 (PV.nil w5 Non) hpr5 (by omega) (by simp)) ?_)⟩
  rintro v w6 hR6
  have hg0 : ∀ e ∈ ([] : List Ent), goodE c e := fun e he => by cases he
  obtain ⟨oa, na, ca, u6, A, rfl, _, hIU⟩ := hR6.yes hg0 hne htok (by simp; omega)
  rw [hs0'] at hIU
  have hIU' := hIU
  obtain ⟨o6, c6, rfl, _⟩ := hIU
  have hc6 := hR6.ch
  refine ⟨_, _, _, _, _, _, _, rfl, iteF rfl (step_call (Best_specI hIU' (by omega)) ?_)⟩
  rintro v w7 ⟨rfl, rfl⟩
  have hur7 := hur.keepN hc6
  refine ⟨_, rfl, fun w' => w' = w7, ⟨fun hb => ?_, fun hb => ?_⟩, ?_⟩
  · have hb : ¬ bestI s0 = 0 := by simpa using hb
    rw [if_neg hb] at hx0
    have hxp : 0 < x.length := by rw [hx0]; simp
    have hh : x[0] = bestI s0 := by simp [hx0]
    refine iteF (by have : ¬ ((x.length : Int) = 0) := by omega
                    simpa using this) ⟨⟨by omega, by omega⟩, hur7.at0 (v := .int .i64 x[0]) (by simp [hxp]) fun p hp => ⟨_, hp, iteF (by rw [hh]; simp) (iteF (by simpa using hb) rfl)⟩⟩
  · have hb : bestI s0 = 0 := by simpa using hb
    rw [if_pos hb] at hx0
    subst hx0
    exact iteT (by rw [hb]; rfl) (iteF rfl rfl)
  rintro jk w8 rfl
  refine ⟨fun i k w' => ∃ j : Nat, i = j ∧ 1 ≤ j ∧ j ≤ M ∧ k = M - j ∧ Ch Non w8 w', ⟨_, 1, rfl, Nat.le_refl _, by omega, rfl, Ch.refl _ _⟩, ?_⟩
  rintro jk i k w9 ⟨j, rfl, hj1, hj, rfl, hc9⟩
  have hc59 := hc6.andN hc9
  refine ⟨fun hlt => ?_, fun hge => ⟨by rw [decide_eq_true (show (x.length : Int) ≤ (M : Int) by omega)], hc05.andN hc59⟩⟩
  have hlt : j < M := by have := of_decide_eq_true hlt; omega
  refine step_call (Greedy_spec (hK5.keepN hc59) (hpr5.keepN hc59) (by omega) j) ?_
  rintro v w10 hR10
  obtain ⟨u7, rfl, hu7⟩ := hR10.yes (checkP_ok' hne (by omega) (by omega) htok (by omega))
  rw [hsay, sayG_take j M 0 past s0 (by omega), hx] at hu7
  have hu7' := hu7
  obtain ⟨o7, c7, rfl, _⟩ := hu7
  have hc510 := hc59.andN hR10.ch
  have hmin : (if (x.length : Int) < (j : Int) then (x.length : Int) else (j : Int)) = ((x.take j).length : Int) := by rw [List.length_take]; split <;> omega
  rw [hmin, Int.toNat_natCast]
  have hle : (x.take j).length ≤ x.length := by rw [List.length_take]; omega
  have hcut : IV w10 (.slice (if cu = 0 then ou else ou.map (·.add (0 * 1))) ((x.take j).length - 0) (cu - 0)) (x.take j) (New w4 w5) := by
    have := (hu'.keepN hc510).cut rfl (a := 0) (b := (x.take j).length) (by omega) hle
    have e : (x.drop 0).take ((x.take j).length - 0) = x.take j := by
      rw [List.drop_zero, Nat.sub_zero, List.length_take]
      by_cases h : j ≤ x.length
      · rw [Nat.min_eq_left h]
      · rw [Nat.min_eq_right (by omega), List.take_length, List.take_of_length_le (by omega)]
    rwa [e] at this
  refine ⟨_, _, _, _, rfl, iteF rfl ⟨⟨by omega, by omega⟩, step_call (ints18_spec hu7' hcut) ?_⟩⟩
  rintro v w11 ⟨rfl, hc11⟩
  exact ⟨_, rfl, iteF (by simp) ⟨M - (j + 1), by omega, j + 1, by rw [wrap_id (by omega) (by omega)]; rfl, by omega, hlt, rfl, (hc9.andN hR10.ch).andN hc11⟩⟩
end Go.Proofs.Ytfhnegfoglngoaa.Gen
