/- OrderRows's and OrderBack's contracts: of all commands and all bytes the Go functions answer true and leave what was there; the conditions stand in each theorem. -/
import Derived.Test.YtamkffjmggbekaaOrdX
import Derived.Test.YtamkffjmggbekaaVcOrdY
set_option linter.unusedVariables false
set_option linter.unusedSimpArgs false
namespace Go.Proofs.Ytamkffjmggbekaa.Ord
open Go Go.Proofs Go.Proofs.Ytamkffjmggbekaa.V Go.Proofs.Ytamkffjmggbekaa.Vc Go.Proofs.Ytamkffjmggbekaa.Pen Go.RowKit

theorem elemAll {w : World} {o : Option Addr} {F : Nat → Prop} {qs : List (CmD × RwP)} (h : Rd w o (qs.map cmE).flatten F) {j : Nat} (hj : j < qs.length) :
    ∃ p, o = some p ∧ ∀ w', Ch Non w w' → w'.cell? (p.add (j * 7)) = some (.int .i64 qs[j].1.kind) ∧ ∀ q v, (cmE qs[j])[q]? = some v → w'.cell? ((p.add (j * 7)).add q) = some v := by
  obtain ⟨p, hp, _, _, _⟩ := h.elem (sz := 7) (enc := cmE) (fun _ => rfl) (by omega) hj
  refine ⟨p, hp, fun w' hc => ?_⟩
  obtain ⟨p', hp', _, _, hcell⟩ := (h.keepN hc).elem (sz := 7) (enc := cmE) (fun _ => rfl) (by omega) hj
  rw [hp] at hp'
  injection hp' with hp'
  subst hp'
  have h0 := hcell 0 _ rfl
  rw [add_none] at h0
  exact ⟨h0, hcell⟩
theorem rd_cell {w : World} {p : Addr} {cs : List Value} {F : Nat → Prop} (h : Rd w (some p) cs F) (k : Nat) {v : Value} (hk : cs[k]? = some v) : w.cell? (p.add k) = some v := by
  obtain ⟨a, ha, _, _, hc⟩ := h k v hk
  injection ha with ha
  subst ha
  exact hc
set_option maxRecDepth 100000 in
set_option maxHeartbeats 4000000 in
theorem OrderRows_true (W : World) (o : Option Addr) (n c : Nat) (h0 : DatC Try.prog W t_S_order_Command [.slice o n c]) (s : ByteArray) (hs0 : s.size ≤ 140737488351232) :
    Calls Try.prog i_coadjutorlaw29_OrderRows #[.slice o n c, .string s] W (Ret fun v w' => v = .bool true ∧ Ch Non W w') := by
  obtain ⟨o', c', qs, hcs, _, hcm, hm, hQ, hr⟩ := h0.sliceOf (e := t_order_Command) (enc := cmE) (Q := fun q => Rd W q.2.po (q.1.prompt.map (.int .i64)) (fun _ => True) ∧ Rd W q.2.qo (q.1.draws.map (.int .i64)) (fun _ => True)) (by kernel_rfl) (fun x hl hd => cm_dat hl hd)
  injection hcs with hcs
  injection hcs with q1 q2 q3
  subst q1; subst q2; subst q3
  obtain ⟨l, rfl⟩ : ∃ l, s = str l := ⟨s.data.toList, (str_of s).symm⟩
  refine coadjutorlaw29_OrderRows.calls _ _ _ _ ?_
  unfold coadjutorlaw29_OrderRows.vc
  refine step_call (Lawake_spec W) ?_
  rintro v w1 ⟨rfl, hc1⟩
  refine ⟨_, rfl, iteF rfl ⟨fun _ => ⟨rfl, hc1⟩, fun hn => ⟨fun _ => ⟨rfl, hc1⟩, fun hsl => ?_⟩⟩⟩
  have hn : qs.length ≤ 10 := by have := of_decide_eq_false hn; omega
  have hll : l.length ≤ 4096 := by
    have := of_decide_eq_false hsl
    rw [str_size] at this; omega
  intro w2 e2
  have hO2 : Own w2 t_coadjutorref29_Command 7 (some ⟨w1.heap.size, 0, none⟩) 0 0 ([] : List Value) (New w1 w2) := Own.made (n := 0) (sz := 7) (F := New w1 w2) e2 rfl (Nat.zero_le _) ⟨Nat.le_refl _, (Blk.new e2).lt⟩
  have hs1 := hc1.size
  refine ⟨fun oA oN oC good i k w' => ∃ (j : Nat) (F : Nat → Prop), i = j ∧ j ≤ qs.length ∧ k = qs.length - j ∧ j = oN ∧ Own w' t_coadjutorref29_Command 7 oA j oC ((qs.take j).map cmE).flatten F ∧ (∀ i, F i → New W w' i) ∧ good = (qs.take j).all (fun q => goodC q.1) ∧ (∀ q ∈ qs.take j, CmR W q (fun i => i < W.heap.size)) ∧ Ch Non W w', ⟨_, 0, _, rfl, Nat.zero_le _, rfl, rfl, hO2, fun i hi => ⟨by have := hi.1; omega, hi.2⟩, rfl, fun q hq => (by cases hq), hc1.andN (Ch.alloc e2)⟩, ?_⟩
  clear hO2 e2 hc1 hs1 hsl hs0 h0
  rintro jk oA oN oC good i k w3 ⟨j, F, rfl, hj, rfl, rfl, hO, hF, rfl, hQs, hc⟩
  have hs3 := hc.size
  have hjj : (j : Int).toNat = j := Int.toNat_natCast j
  refine ⟨fun hlt => ?_, fun hge => ?_⟩
  · have hlt : j < qs.length := by have := of_decide_eq_true hlt; omega
    obtain ⟨p, hp, hpc⟩ := elemAll (hr.keepN hc) hlt
    subst hp
    have hsn : qs.take (j + 1) = qs.take j ++ [qs[j]] := Pen.take_snoc qs j hlt
    obtain ⟨hq1, hq2⟩ := hQ _ (List.getElem_mem hlt)
    generalize qs[j] = q at hpc hsn hq1 hq2
    rw [hjj]
    have hx := hpc w3 (Ch.refl _ _)
    refine ⟨⟨by omega, by omega⟩, _, _, _, _, _, _, _, _, _, _, _, ⟨hx.1, hx.2 1 _ rfl, hx.2 2 _ rfl, hx.2 3 _ rfl, hx.2 4 _ rfl, hx.2 5 _ rfl, hx.2 6 _ rfl⟩, step_call (Lgreat_spec w3 q) ?_⟩
    rintro v w4 ⟨rfl, hc4⟩
    refine ⟨_, rfl, fun _ => ⟨rfl, hc.andN hc4⟩, fun hg => ?_⟩
    have hR := not_great hg hq1 hq2
    have hx := hpc w4 hc4
    refine ⟨⟨by omega, by omega⟩, _, _, _, _, _, _, _, _, _, _, _, ⟨hx.1, hx.2 1 _ rfl, hx.2 2 _ rfl, hx.2 3 _ rfl, hx.2 4 _ rfl, hx.2 5 _ rfl, hx.2 6 _ rfl⟩, step_call (Lform_spec w4 q) ?_⟩
    rintro v w5 ⟨rfl, hc5⟩
    refine ⟨_, _, _, _, _, _, _, _, _, _, _, rfl, fun w6 e6 => ?_⟩
    have hb6 : Blk w6 w5.heap.size (cmE q) t_coadjutorref29_Command := Blk.new e6
    have hc36 := (hc4.andN hc5).andN (Ch.alloc e6)
    have hs6 := hc36.size
    obtain ⟨o7, c7, w7, r7, hO7, hc7⟩ := Own.appendRd (c2 := 1) (m := 1) el_S_coadjutorref29_Command (hO.keepN hc36) t_S_coadjutorref29_Command hb6.rd rfl (cm_one q) (by unfold maxLen; omega) (by omega)
    have hs7 := hc7.size
    have e2 : ((qs.take (j + 1)).map cmE).flatten = ((qs.take j).map cmE).flatten ++ cmE q := by rw [hsn]; simp
    rw [← e2] at hO7
    have hc07 : Ch Non W w7 := (hc.andN hc36).trans hc7 (fun i hi hf => by have := (hF i hf).1; omega)
    have hF7 : ∀ i, Ext F w6 w7 i → New W w7 i := fun i hi => by
      rcases hi with hi | hi
      · exact ⟨(hF i hi).1, by have := (hF i hi).2; omega⟩
      · exact ⟨by have := hi.1; omega, hi.2⟩
    have hQ7 : ∀ q ∈ qs.take (j + 1), CmR W q (fun i => i < W.heap.size) := fun q' hq' => by
      rw [hsn] at hq'
      rcases List.mem_append.1 hq' with hq' | hq'
      · exact hQs q' hq'
      · rw [List.mem_singleton] at hq'; subst hq'; exact hR
    refine ⟨o7, _, c7, w7, r7, fun hgood => ?_, fun hgood => ?_⟩
    · have hrd := hO7.rd
      have hlen : (qs.take (j + 1)).length = j + 1 := by rw [List.length_take]; omega
      obtain ⟨p7, hp7, hpc7⟩ := elemAll hrd (j := j) (by omega)
      have hjq : (qs.take (j + 1))[j]'(by omega) = q := by
        have : (qs.take (j + 1))[j]? = some q := by
          rw [hsn, List.getElem?_append_right (by rw [List.length_take]; omega), List.length_take, show j - min j qs.length = 0 by omega]; rfl
        rw [List.getElem?_eq_getElem (by omega)] at this
        injection this
      rw [hjq] at hpc7
      subst hp7
      have hx := hpc7 w7 (Ch.refl _ _)
      refine ⟨⟨by omega, by omega⟩, _, _, _, _, _, _, _, _, _, _, _, ⟨hx.1, hx.2 1 _ rfl, hx.2 2 _ rfl, hx.2 3 _ rfl, hx.2 4 _ rfl, hx.2 5 _ rfl, hx.2 6 _ rfl⟩, step_call (RGood_spec (hR.keepN hc07)) ?_⟩
      rintro v w8 ⟨rfl, hc8⟩
      refine ⟨_, rfl, qs.length - (j + 1), by omega, j + 1, _, by rw [wrap_id (by omega) (by omega)]; rfl, hlt, rfl, rfl, hO7.keepN hc8, fun i hi => ⟨(hF7 i hi).1, by have := (hF7 i hi).2; have := hc8.size; omega⟩, ?_, hQ7, hc07.andN hc8⟩
      rw [hsn, List.all_append, hgood]
      simp
    · refine ⟨qs.length - (j + 1), by omega, j + 1, _, by rw [wrap_id (by omega) (by omega)]; rfl, hlt, rfl, rfl, hO7, hF7, ?_, hQ7, hc07⟩
      rw [hsn, List.all_append, hgood]; rfl
  · have hjn : j = qs.length := by have := of_decide_eq_false hge; omega
    subst hjn
    rw [List.take_length] at hO hQs ⊢
    refine step_call (All_spec (hr.keepN hc |>.mono (fun i hi _ => hi)) (fun q hq => (hQs q hq).keepN hc) (fun i hi => by omega) (by omega) _) ?_
    rintro v w9 ⟨rfl, hc9⟩
    have hok : allOk (qs.map (·.1)) = qs.all (fun q => goodC q.1) := by
      unfold allOk
      rw [List.length_map, decide_eq_true (by omega), Bool.true_and, List.all_map]; rfl
    rw [hok]
    refine ⟨_, _, rfl, fun hg => ?_, fun hg => ?_⟩
    · rw [hg]
      have hgs : ∀ q ∈ qs, GoodP q.1 := fun q hq => goodC_iff.1 (List.all_eq_true.1 hg q hq)
      refine iteF rfl (step_call (RAll_spec (hO.keepN hc9).rd (fun q hq => ((hQs q hq).keepN hc).keepN hc9) hgs (by omega) _) ?_)
      rintro v wt ⟨rfl, hc10⟩
      have hct := (hc.andN hc9).andN hc10
      refine ⟨_, rfl, iteF (by simp) (iteF rfl ?_)⟩
      refine step_call (Split_spec wt l (by omega)) ?_
      rintro v wu ⟨hcu, hn1, hs1⟩
      have hcase : (splitC l = none ∧ v = .tuple #[.slice none 0 0, .int .i64 5]) ∨ ∃ cs, splitC l = some cs := by
        cases hsp : splitC l with
        | none => exact .inl ⟨rfl, hn1 hsp⟩
        | some cs => exact .inr ⟨cs, rfl⟩
      rcases hcase with ⟨hsp, rfl⟩ | ⟨cs, hsp⟩
      · refine ⟨_, _, _, _, rfl, step_call (RSplit_spec wu l (by omega)) ?_⟩
        rintro v wv ⟨hcv, hn2, hs2⟩
        obtain ⟨o2, n2, c2, rfl⟩ := hn2 hsp
        have hcv0 := (hct.andN hcu).andN hcv
        refine ⟨_, _, _, _, rfl, iteF rfl (iteT rfl (iteF rfl (iteF rfl (iteF rfl ?_))))⟩
        refine ⟨fun i k w' => i = 0 ∧ Ch Non W w', ⟨0, rfl, hcv0⟩, ?_⟩
        rintro jk i k wx ⟨rfl, hcx⟩
        exact iteF rfl ⟨rfl, hcx⟩
      · obtain ⟨o1, c1, qs1, rfl, he1, hl1, hr1, hq1⟩ := hs1 cs hsp
        refine ⟨_, _, _, _, rfl, step_call (RSplit_spec wu l (by omega)) ?_⟩
        rintro v wv ⟨hcv, hn2, hs2⟩
        obtain ⟨o2, c2, qs2, rfl, he2, hl2, hr2, hq2⟩ := hs2 cs hsp
        have hcv0 := (hct.andN hcu).andN hcv
        have hle : qs1.length = qs2.length := by
          have e1 := congrArg List.length he1
          have e2 := congrArg List.length he2
          rw [List.length_map] at e1 e2; omega
        have hr1 := hr1.keepN hcv
        have hq1 : ∀ q ∈ qs1, CmR wv q (New wt wu) := fun q hq => (hq1 q hq).keepN hcv
        have hat : ∀ (j : Nat) (h1 : j < qs1.length) (h2 : j < qs2.length), qs1[j].1 = qs2[j].1 := fun j h1 h2 => by
          have e1 : (qs1.map (·.1))[j]? = (qs2.map (·.1))[j]? := by rw [he1, he2]
          rw [List.getElem?_map, List.getElem?_map, List.getElem?_eq_getElem h1, List.getElem?_eq_getElem h2] at e1
          injection e1
        refine ⟨_, _, _, _, rfl, iteF rfl (iteF rfl (iteT rfl (iteF (by rw [hle]; simp) ?_)))⟩
        refine ⟨fun i k w' => ∃ j : Nat, i = j ∧ j ≤ qs1.length ∧ k = qs1.length - j ∧ Ch Non wv w', ⟨_, 0, rfl, Nat.zero_le _, rfl, Ch.refl _ _⟩, ?_⟩
        rintro jk i k wx ⟨j, rfl, hj, rfl, hcx⟩
        refine ⟨fun hlt => ?_, fun hge => ⟨rfl, hcv0.andN hcx⟩⟩
        have hlt : j < qs1.length := by have := of_decide_eq_true hlt; omega
        have hlt2 : j < qs2.length := by omega
        have hjj : (j : Int).toNat = j := Int.toNat_natCast j
        obtain ⟨p1, rfl, hp1⟩ := elemAll (hr1.keepN hcx) hlt
        obtain ⟨p2, rfl, hp2⟩ := elemAll (hr2.keepN hcx) hlt2
        have hm1 := (hq1 _ (List.getElem_mem hlt)).keepN hcx
        have hm2 := (hq2 _ (List.getElem_mem hlt2)).keepN hcx
        have hee := hat j hlt hlt2
        generalize qs1[j] = u1 at hp1 hm1 hee
        generalize qs2[j] = u2 at hp2 hm2 hee
        rw [hjj]
        refine ⟨fun w' => Ch Non wx w', fun wy ey => ⟨Ch.drew ey, ⟨by omega, by omega⟩, ?_⟩⟩
        have hcy : Ch Non wx wy := Ch.drew ey
        refine ⟨_, _, _, _, _, _, _, _, _, _, _, ⟨fun w' hc => (hp1 w' hc).1, fun w' hc => (hp1 w' hc).2 1 _ rfl, fun w' hc => (hp1 w' hc).2 2 _ rfl, fun w' hc => (hp1 w' hc).2 3 _ rfl, fun w' hc => (hp1 w' hc).2 4 _ rfl, fun w' hc => (hp1 w' hc).2 5 _ rfl, fun w' hc => (hp1 w' hc).2 6 _ rfl⟩, ⟨by omega, by omega⟩, ?_⟩
        refine ⟨_, _, _, _, _, _, _, _, _, _, _, ⟨fun w' hc => (hp2 w' hc).1, fun w' hc => (hp2 w' hc).2 1 _ rfl, fun w' hc => (hp2 w' hc).2 2 _ rfl, fun w' hc => (hp2 w' hc).2 3 _ rfl, fun w' hc => (hp2 w' hc).2 4 _ rfl, fun w' hc => (hp2 w' hc).2 5 _ rfl, fun w' hc => (hp2 w' hc).2 6 _ rfl⟩, step_call (Lalike_spec (hm1.keepN hcy) (hm2.keepN hcy)) ?_⟩
        rintro v wz ⟨rfl, hcz⟩
        rw [decide_eq_true hee]
        exact ⟨_, rfl, hcy.andN hcz, iteF rfl ⟨qs1.length - (j + 1), by omega, j + 1, by rw [wrap_id (by omega) (by omega)]; rfl, hlt, rfl, (hcx.andN hcy).andN hcz⟩⟩
    · rw [hg]
      refine iteT rfl (iteF rfl (iteF (by show (!((str []).toList == (ByteArray.mk #[]).toList)) = false; rw [emp_beq]; rfl) ?_))
      have hct := hc.andN hc9
      generalize w9 = wt at hct ⊢
      refine step_call (Split_spec wt l (by omega)) ?_
      rintro v wu ⟨hcu, hn1, hs1⟩
      have hcase : (splitC l = none ∧ v = .tuple #[.slice none 0 0, .int .i64 5]) ∨ ∃ cs, splitC l = some cs := by
        cases hsp : splitC l with
        | none => exact .inl ⟨rfl, hn1 hsp⟩
        | some cs => exact .inr ⟨cs, rfl⟩
      rcases hcase with ⟨hsp, rfl⟩ | ⟨cs, hsp⟩
      · refine ⟨_, _, _, _, rfl, step_call (RSplit_spec wu l (by omega)) ?_⟩
        rintro v wv ⟨hcv, hn2, hs2⟩
        obtain ⟨o2, n2, c2, rfl⟩ := hn2 hsp
        have hcv0 := (hct.andN hcu).andN hcv
        refine ⟨_, _, _, _, rfl, iteF rfl (iteT rfl (iteF rfl (iteF rfl (iteF rfl ?_))))⟩
        refine ⟨fun i k w' => i = 0 ∧ Ch Non W w', ⟨0, rfl, hcv0⟩, ?_⟩
        rintro jk i k wx ⟨rfl, hcx⟩
        exact iteF rfl ⟨rfl, hcx⟩
      · obtain ⟨o1, c1, qs1, rfl, he1, hl1, hr1, hq1⟩ := hs1 cs hsp
        refine ⟨_, _, _, _, rfl, step_call (RSplit_spec wu l (by omega)) ?_⟩
        rintro v wv ⟨hcv, hn2, hs2⟩
        obtain ⟨o2, c2, qs2, rfl, he2, hl2, hr2, hq2⟩ := hs2 cs hsp
        have hcv0 := (hct.andN hcu).andN hcv
        have hle : qs1.length = qs2.length := by
          have e1 := congrArg List.length he1
          have e2 := congrArg List.length he2
          rw [List.length_map] at e1 e2; omega
        have hr1 := hr1.keepN hcv
        have hq1 : ∀ q ∈ qs1, CmR wv q (New wt wu) := fun q hq => (hq1 q hq).keepN hcv
        have hat : ∀ (j : Nat) (h1 : j < qs1.length) (h2 : j < qs2.length), qs1[j].1 = qs2[j].1 := fun j h1 h2 => by
          have e1 : (qs1.map (·.1))[j]? = (qs2.map (·.1))[j]? := by rw [he1, he2]
          rw [List.getElem?_map, List.getElem?_map, List.getElem?_eq_getElem h1, List.getElem?_eq_getElem h2] at e1
          injection e1
        refine ⟨_, _, _, _, rfl, iteF rfl (iteF rfl (iteT rfl (iteF (by rw [hle]; simp) ?_)))⟩
        refine ⟨fun i k w' => ∃ j : Nat, i = j ∧ j ≤ qs1.length ∧ k = qs1.length - j ∧ Ch Non wv w', ⟨_, 0, rfl, Nat.zero_le _, rfl, Ch.refl _ _⟩, ?_⟩
        rintro jk i k wx ⟨j, rfl, hj, rfl, hcx⟩
        refine ⟨fun hlt => ?_, fun hge => ⟨rfl, hcv0.andN hcx⟩⟩
        have hlt : j < qs1.length := by have := of_decide_eq_true hlt; omega
        have hlt2 : j < qs2.length := by omega
        have hjj : (j : Int).toNat = j := Int.toNat_natCast j
        obtain ⟨p1, rfl, hp1⟩ := elemAll (hr1.keepN hcx) hlt
        obtain ⟨p2, rfl, hp2⟩ := elemAll (hr2.keepN hcx) hlt2
        have hm1 := (hq1 _ (List.getElem_mem hlt)).keepN hcx
        have hm2 := (hq2 _ (List.getElem_mem hlt2)).keepN hcx
        have hee := hat j hlt hlt2
        generalize qs1[j] = u1 at hp1 hm1 hee
        generalize qs2[j] = u2 at hp2 hm2 hee
        rw [hjj]
        refine ⟨fun w' => Ch Non wx w', fun wy ey => ⟨Ch.drew ey, ⟨by omega, by omega⟩, ?_⟩⟩
        have hcy : Ch Non wx wy := Ch.drew ey
        refine ⟨_, _, _, _, _, _, _, _, _, _, _, ⟨fun w' hc => (hp1 w' hc).1, fun w' hc => (hp1 w' hc).2 1 _ rfl, fun w' hc => (hp1 w' hc).2 2 _ rfl, fun w' hc => (hp1 w' hc).2 3 _ rfl, fun w' hc => (hp1 w' hc).2 4 _ rfl, fun w' hc => (hp1 w' hc).2 5 _ rfl, fun w' hc => (hp1 w' hc).2 6 _ rfl⟩, ⟨by omega, by omega⟩, ?_⟩
        refine ⟨_, _, _, _, _, _, _, _, _, _, _, ⟨fun w' hc => (hp2 w' hc).1, fun w' hc => (hp2 w' hc).2 1 _ rfl, fun w' hc => (hp2 w' hc).2 2 _ rfl, fun w' hc => (hp2 w' hc).2 3 _ rfl, fun w' hc => (hp2 w' hc).2 4 _ rfl, fun w' hc => (hp2 w' hc).2 5 _ rfl, fun w' hc => (hp2 w' hc).2 6 _ rfl⟩, step_call (Lalike_spec (hm1.keepN hcy) (hm2.keepN hcy)) ?_⟩
        rintro v wz ⟨rfl, hcz⟩
        rw [decide_eq_true hee]
        exact ⟨_, rfl, hcy.andN hcz, iteF rfl ⟨qs1.length - (j + 1), by omega, j + 1, by rw [wrap_id (by omega) (by omega)]; rfl, hlt, rfl, (hcx.andN hcy).andN hcz⟩⟩
theorem badfit {c : CmD} (h : badK c.kind) : goodC (fitC c) = false := by
  have hk := fit_kind c
  rw [if_pos h] at hk
  unfold goodC
  rw [hk, decide_eq_true (show badK 0 from .inl (by omega))]; rfl
set_option maxRecDepth 100000 in
set_option maxHeartbeats 4000000 in
theorem OrderBack_true (W : World) (cs0 : List Value) (h0 : DatC Try.prog W t_order_Command cs0) (cs1 : List Value) (h1 : DatC Try.prog W t_order_Command cs1) :
    Calls Try.prog i_coadjutorlaw29_OrderBack #[.agg cs0.toArray, .agg cs1.toArray] W (Ret fun v w' => v = .bool true ∧ Ch Non W w') := by
  obtain ⟨a, rfl, ha1, ha2⟩ := cm_dat (cm_len h0) h0
  obtain ⟨b, rfl, hb1, hb2⟩ := cm_dat (cm_len h1) h1
  refine coadjutorlaw29_OrderBack.calls _ _ _ _ _ _ _ _ _ _ _ _ _ _ _ _ _ _ _ _ _ _ ?_
  unfold coadjutorlaw29_OrderBack.vc
  intro w1 e1 w2 e2
  have hA2 : Blk w2 W.heap.size (cmE a) t_order_Command := (Blk.new e1).alloc e2
  have hB2 : Blk w2 w1.heap.size (cmE b) t_order_Command := Blk.new e2
  have hc2 : Ch Non W w2 := (Ch.alloc e1).andN (Ch.alloc e2)
  refine step_call (Lawake_spec w2) ?_
  rintro v w3 ⟨rfl, hc3⟩
  have hA3 := hA2.keepN hc3
  refine ⟨_, rfl, iteF rfl ⟨_, _, _, _, _, _, _, _, _, _, _, ⟨hA3.cell 0 rfl, hA3.cell 1 rfl, hA3.cell 2 rfl, hA3.cell 3 rfl, hA3.cell 4 rfl, hA3.cell 5 rfl, hA3.cell 6 rfl⟩, step_call (Lgreat_spec w3 a) ?_⟩⟩
  rintro v w4 ⟨rfl, hc4⟩
  have hB4 := (hB2.keepN hc3).keepN hc4
  have hc04 := (hc2.andN hc3).andN hc4
  refine ⟨_, rfl, fun _ => ⟨rfl, hc04⟩, fun hga => ⟨_, _, _, _, _, _, _, _, _, _, _, ⟨hB4.cell 0 rfl, hB4.cell 1 rfl, hB4.cell 2 rfl, hB4.cell 3 rfl, hB4.cell 4 rfl, hB4.cell 5 rfl, hB4.cell 6 rfl⟩, step_call (Lgreat_spec w4 b) ?_⟩⟩
  rintro v w5 ⟨rfl, hc5⟩
  have hA5 := (hA3.keepN hc4).keepN hc5
  have hc05 := hc04.andN hc5
  refine ⟨_, rfl, fun _ => ⟨rfl, hc05⟩, fun hgb => ?_⟩
  have hRa := not_great hga ha1 ha2
  have hRb := not_great hgb hb1 hb2
  clear hga hgb ha1 ha2 hb1 hb2 h0 h1
  refine ⟨_, _, _, _, _, _, _, _, _, _, _, ⟨hA5.cell 0 rfl, hA5.cell 1 rfl, hA5.cell 2 rfl, hA5.cell 3 rfl, hA5.cell 4 rfl, hA5.cell 5 rfl, hA5.cell 6 rfl⟩, step_call (Lfit_spec (hRa.keepN hc05)) ?_⟩
  rintro v w6 ⟨px, rfl, hX6, hc6⟩
  refine ⟨_, _, _, _, _, _, _, _, _, _, _, rfl, fun w7 e7 => ?_⟩
  have hB7 := Blk.new e7
  refine ⟨⟨hB7.ok 0 rfl, hB7.ok 1 rfl, hB7.ok 2 rfl, hB7.ok 3 rfl, hB7.ok 4 rfl, hB7.ok 5 rfl, hB7.ok 6 rfl⟩, fun w8 e8 => ?_⟩
  obtain ⟨hXB8, hc68⟩ := cmNew (fitC a.1, px) e7 e8
  have hc58 := hc6.andN hc68
  have hB8 := (hB4.keepN hc5).keepN hc58
  have hc08 := hc05.andN hc58
  have hX8 := hX6.keepN hc68
  refine ⟨_, _, _, _, _, _, _, _, _, _, _, ⟨hB8.cell 0 rfl, hB8.cell 1 rfl, hB8.cell 2 rfl, hB8.cell 3 rfl, hB8.cell 4 rfl, hB8.cell 5 rfl, hB8.cell 6 rfl⟩, step_call (Lfit_spec (hRb.keepN hc08)) ?_⟩
  rintro v w9 ⟨py, rfl, hY9, hc9⟩
  refine ⟨_, _, _, _, _, _, _, _, _, _, _, rfl, fun w10 e10 => ?_⟩
  have hB10 := Blk.new e10
  refine ⟨⟨hB10.ok 0 rfl, hB10.ok 1 rfl, hB10.ok 2 rfl, hB10.ok 3 rfl, hB10.ok 4 rfl, hB10.ok 5 rfl, hB10.ok 6 rfl⟩, fun w11 e11 => ?_⟩
  obtain ⟨hYB11, hc911⟩ := cmNew (fitC b.1, py) e10 e11
  have hc811 := hc9.andN hc911
  have hXB11 := hXB8.keepN hc811
  have hX11 : CmR w11 (fitC a.1, px) (fun i => i < w11.heap.size) := (hX8.keepN hc811).mon (fun i hi _ => hi)
  have hY11 : CmR w11 (fitC b.1, py) (fun i => i < w11.heap.size) := (hY9.keepN hc911).mon (fun i hi _ => hi)
  have hc011 := hc08.andN hc811
  clear hB10 hB8 hB7 hB4 hB2 hA2 hA3 hA5 e1 e2 e7 e8 e10 e11 hX6 hX8 hY9 hc2 hc3 hc4 hc5 hc6 hc9 hc911 hc811 hc58 hc68 hc08 hc04 hc05 hXB8 hRa hRb
  have k0 : ∀ c : CmD, ((fitC c).kind == 0) = true → goodC (fitC c) = false := fun c h => by
    have hk := fit_kind c
    by_cases hb : badK c.kind
    · exact badfit hb
    · rw [if_neg hb, eq_of_beq h] at hk
      exact absurd (.inl (by omega)) hb
  have k1 : ∀ c : CmD, ((fitC c).kind == 0) = false → GoodP (fitC c) := fun c h => by
    have hk := fit_kind c
    by_cases hb : badK c.kind
    · rw [if_pos hb] at hk; rw [hk] at h; cases h
    · exact fit_good hb
  have k0a := k0 a.1
  have k0b := k0 b.1
  have k1a := k1 a.1
  have k1b := k1 b.1
  generalize fitC a.1 = x at hXB11 hX11 k0a k1a
  generalize fitC b.1 = y at hYB11 hY11 k0b k1b
  refine ⟨_, hXB11.cell 0 rfl, fun hz => ?_, fun hz => ⟨_, hYB11.cell 0 rfl, fun hz2 => ?_, fun hz2 => ?_⟩⟩
  · refine ⟨_, _, _, _, _, _, _, _, _, _, _, ⟨hXB11.cell 0 rfl, hXB11.cell 1 rfl, hXB11.cell 2 rfl, hXB11.cell 3 rfl, hXB11.cell 4 rfl, hXB11.cell 5 rfl, hXB11.cell 6 rfl⟩, step_call (Good_spec hX11) ?_⟩
    rintro v w12 ⟨rfl, hc12⟩
    exact ⟨_, rfl, iteT (by rw [show goodC x = false from k0a hz]; rfl) ⟨rfl, hc011.andN hc12⟩⟩
  · refine ⟨_, _, _, _, _, _, _, _, _, _, _, ⟨hXB11.cell 0 rfl, hXB11.cell 1 rfl, hXB11.cell 2 rfl, hXB11.cell 3 rfl, hXB11.cell 4 rfl, hXB11.cell 5 rfl, hXB11.cell 6 rfl⟩, step_call (Good_spec hX11) ?_⟩
    rintro v w12 ⟨rfl, hc12⟩
    have hYB12 := hYB11.keepN hc12
    refine ⟨_, rfl, fun _ => ⟨rfl, hc011.andN hc12⟩, fun _ => ⟨_, _, _, _, _, _, _, _, _, _, _, ⟨hYB12.cell 0 rfl, hYB12.cell 1 rfl, hYB12.cell 2 rfl, hYB12.cell 3 rfl, hYB12.cell 4 rfl, hYB12.cell 5 rfl, hYB12.cell 6 rfl⟩, step_call (Good_spec (hY11.keepN hc12)) ?_⟩⟩
    rintro v w13 ⟨rfl, hc13⟩
    rw [show goodC y = false from k0b hz2]
    exact ⟨_, rfl, rfl, (hc011.andN hc12).andN hc13⟩
  have hGx := k1a hz
  have hGy := k1b hz2
  have hgx := goodC_iff.2 hGx
  have hgy := goodC_iff.2 hGy
  have hlx := bytesC_len hGx
  clear k0a k0b k1a k1b k0 k1 hz hz2
  have hlt : ∀ {w' : World}, Ch Non w11 w' → ∀ i, i < w11.heap.size → i < w'.heap.size := fun hc i hi => Nat.lt_of_lt_of_le hi hc.size
  refine ⟨_, _, _, _, _, _, _, _, _, _, _, ⟨hXB11.cell 0 rfl, hXB11.cell 1 rfl, hXB11.cell 2 rfl, hXB11.cell 3 rfl, hXB11.cell 4 rfl, hXB11.cell 5 rfl, hXB11.cell 6 rfl⟩, step_call (Bytes_spec hX11 (fun i hi => hi)) ?_⟩
  rintro v w16 ⟨rfl, hc16⟩
  have hYB16 := hYB11.keepN hc16
  refine ⟨_, _, rfl, _, _, _, _, _, _, _, _, _, _, _, ⟨hYB16.cell 0 rfl, hYB16.cell 1 rfl, hYB16.cell 2 rfl, hYB16.cell 3 rfl, hYB16.cell 4 rfl, hYB16.cell 5 rfl, hYB16.cell 6 rfl⟩, step_call (Bytes_spec (hY11.keepN hc16) (hlt hc16)) ?_⟩
  rintro v w17 ⟨rfl, hc17⟩
  have hc1117 := hc16.andN hc17
  rw [if_pos hgx, if_pos hgx]
  refine ⟨_, _, rfl, step_call (Parse_spec w17 (bytesC x)) ?_⟩
  rintro v w18 ⟨pc, rfl, hC18, hc18⟩
  unfold parseV
  rw [parse_bytes hGx] at hC18 ⊢
  refine ⟨_, _, _, _, _, _, _, _, _, _, _, _, rfl, fun w19 e19 => ?_⟩
  have hB19 := Blk.new e19
  refine ⟨⟨hB19.ok 0 rfl, hB19.ok 1 rfl, hB19.ok 2 rfl, hB19.ok 3 rfl, hB19.ok 4 rfl, hB19.ok 5 rfl, hB19.ok 6 rfl⟩, fun w20 e20 => ?_⟩
  obtain ⟨hCB20, hc1820⟩ := cmNew (x, pc) e19 e20
  have hc1120 := (hc1117.andN hc18).andN hc1820
  have hXB20 := hXB11.keepN hc1120
  have hC20 : CmR w20 (x, pc) _ := hC18.keepN hc1820
  clear hB19 e19 e20 hC18
  refine iteF rfl (iteF (by rw [if_pos hgy]; rfl) (iteF rfl ⟨_, _, _, _, _, _, _, _, _, _, _, ⟨hCB20.cell 0 rfl, hCB20.cell 1 rfl, hCB20.cell 2 rfl, hCB20.cell 3 rfl, hCB20.cell 4 rfl, hCB20.cell 5 rfl, hCB20.cell 6 rfl⟩, _, _, _, _, _, _, _, _, _, _, _, ⟨hXB20.cell 0 rfl, hXB20.cell 1 rfl, hXB20.cell 2 rfl, hXB20.cell 3 rfl, hXB20.cell 4 rfl, hXB20.cell 5 rfl, hXB20.cell 6 rfl⟩, step_call (Same_spec hC20 (hX11.keepN hc1120)) ?_⟩))
  rintro v w21 ⟨rfl, hc21⟩
  have hc1121 := hc1120.andN hc21
  have hXB21 := hXB11.keepN hc1121
  have hYB21 := hYB11.keepN hc1121
  refine ⟨_, rfl, iteF (by simp) ⟨_, _, _, _, _, _, _, _, _, _, _, ⟨hXB21.cell 0 rfl, hXB21.cell 1 rfl, hXB21.cell 2 rfl, hXB21.cell 3 rfl, hXB21.cell 4 rfl, hXB21.cell 5 rfl, hXB21.cell 6 rfl⟩, _, _, _, _, _, _, _, _, _, _, _, ⟨hYB21.cell 0 rfl, hYB21.cell 1 rfl, hYB21.cell 2 rfl, hYB21.cell 3 rfl, hYB21.cell 4 rfl, hYB21.cell 5 rfl, hYB21.cell 6 rfl⟩, step_call (Same_spec (hX11.keepN hc1121) (hY11.keepN hc1121)) ?_⟩⟩
  rintro v w22 ⟨rfl, hc22⟩
  have hc1122 := hc1121.andN hc22
  have hXB22 := hXB11.keepN hc1122
  have hYB22 := hYB11.keepN hc1122
  have hdd : decide (bytesC x = bytesC y) = decide (x = y) := decide_eq_decide.2 (bytes_inj hGx hGy)
  refine ⟨_, rfl, iteF (by rw [str_beq]; dsimp only; rw [if_pos hgy, hdd]; simp) ⟨_, _, _, _, _, _, _, _, _, _, _, ⟨hXB22.cell 0 rfl, hXB22.cell 1 rfl, hXB22.cell 2 rfl, hXB22.cell 3 rfl, hXB22.cell 4 rfl, hXB22.cell 5 rfl, hXB22.cell 6 rfl⟩, _, _, _, _, _, _, _, _, _, _, _, ⟨hYB22.cell 0 rfl, hYB22.cell 1 rfl, hYB22.cell 2 rfl, hYB22.cell 3 rfl, hYB22.cell 4 rfl, hYB22.cell 5 rfl, hYB22.cell 6 rfl⟩, _, _, _, _, _, _, _, _, _, _, _, ⟨hXB22.cell 0 rfl, hXB22.cell 1 rfl, hXB22.cell 2 rfl, hXB22.cell 3 rfl, hXB22.cell 4 rfl, hXB22.cell 5 rfl, hXB22.cell 6 rfl⟩, fun w23 e23 => ?_⟩⟩
  have hrd : Rd w23 (some ⟨w22.heap.size, 0, none⟩) (([(x, px), (y, py), (x, px)] : List (CmD × RwP)).map cmE).flatten (· = w22.heap.size) := (Blk.new e23).rd
  have hc1123 := hc1122.andN (Ch.alloc (F := Non) e23)
  refine step_call (All_spec (qs := [(x, px), (y, py), (x, px)]) hrd (fun q hq => ?_) (hlt hc1123) (by simp) 3) ?_
  · rcases List.mem_cons.1 hq with rfl | hq
    · exact hX11.keepN hc1123
    rcases List.mem_cons.1 hq with rfl | hq
    · exact hY11.keepN hc1123
    rw [List.mem_singleton] at hq
    subst hq
    exact hX11.keepN hc1123
  rintro v w24 ⟨rfl, hc24⟩
  have hall : ∀ c ∈ [x, y, x], GoodP c := fun c hc => by
    rcases List.mem_cons.1 hc with rfl | hc
    · exact hGx
    rcases List.mem_cons.1 hc with rfl | hc
    · exact hGy
    rw [List.mem_singleton] at hc
    subst hc
    exact hGx
  have hml : List.map (fun q : CmD × RwP => q.1) [(x, px), (y, py), (x, px)] = [x, y, x] := rfl
  have hok : allOk [x, y, x] = true := by
    unfold allOk
    rw [Bool.and_eq_true]
    exact ⟨rfl, List.all_eq_true.2 (fun c hc => goodC_iff.2 (hall c hc))⟩
  rw [hml, if_pos hok, if_pos hok]
  have hal : (allB [x, y, x]).length ≤ 100000 := by
    have := fl_len hall
    unfold allB
    rw [List.length_append, numI_len]
    have h3 : [x, y, x].length = 3 := rfl
    omega
  refine ⟨_, _, rfl, step_call (Split_spec w24 (allB [x, y, x]) (by omega)) ?_⟩
  rintro v w25 ⟨hc25, _, hsp⟩
  obtain ⟨o1, c1, qs, rfl, he, _, hr25, hq25⟩ := hsp _ (split_all hall (by simp))
  have hc1125 := (hc1123.andN hc24).andN hc25
  obtain ⟨u, v, t, rfl⟩ : ∃ u v t, qs = [u, v, t] := by
    have h3 : qs.length = 3 := by have := congrArg List.length he; simpa using this
    match qs, h3 with
    | [u, v, t], _ => exact ⟨u, v, t, rfl⟩
  have hu : u.1 = x := by injection he
  have hv : v.1 = y := by injection he with _ he; injection he
  have ht : t.1 = x := by injection he with _ he; injection he with _ he; injection he
  obtain ⟨p, rfl, _⟩ := hr25 0 _ rfl
  have hp0 : ∀ w', Ch Non w25 w' → w'.cell? p = some (.int .i64 u.1.kind) := fun w' hc => by
    have := rd_cell (hr25.keepN hc) 0 (v := .int .i64 u.1.kind) rfl
    rwa [add_none] at this
  have hXB25 := hXB11.keepN hc1125
  have hYB25 := hYB11.keepN hc1125
  have hX25 := hX11.keepN hc1125
  have hY25 := hY11.keepN hc1125
  have hU25 := hq25 u (by simp)
  have hV25 := hq25 v (by simp)
  have hT25 := hq25 t (by simp)
  refine ⟨_, _, _, _, rfl, fun w' => Ch Non w25 w', fun w26 e26 => ⟨Ch.drew e26, iteT rfl (iteT rfl (iteT rfl ⟨⟨by decide, by show (0 : Int) < 3; decide⟩, ?_⟩))⟩⟩
  have hc26 : Ch Non w25 w26 := Ch.drew e26
  refine ⟨_, _, _, _, _, _, _, _, _, _, _, ⟨fun w' hc => hp0 w' hc, fun w' hc => rd_cell (hr25.keepN hc) 1 rfl, fun w' hc => rd_cell (hr25.keepN hc) 2 rfl, fun w' hc => rd_cell (hr25.keepN hc) 3 rfl, fun w' hc => rd_cell (hr25.keepN hc) 4 rfl, fun w' hc => rd_cell (hr25.keepN hc) 5 rfl, fun w' hc => rd_cell (hr25.keepN hc) 6 rfl⟩, _, _, _, _, _, _, _, _, _, _, _, ⟨fun w' hc => (hXB25.keepN hc).cell 0 rfl, fun w' hc => (hXB25.keepN hc).cell 1 rfl, fun w' hc => (hXB25.keepN hc).cell 2 rfl, fun w' hc => (hXB25.keepN hc).cell 3 rfl, fun w' hc => (hXB25.keepN hc).cell 4 rfl, fun w' hc => (hXB25.keepN hc).cell 5 rfl, fun w' hc => (hXB25.keepN hc).cell 6 rfl⟩, step_call (Same_spec (hU25.keepN hc26) (hX25.keepN hc26)) ?_⟩
  rintro v w29 ⟨rfl, hc29⟩
  have hc2529 := hc26.andN hc29
  have hYB29 := hYB25.keepN hc2529
  rw [decide_eq_true hu]
  refine ⟨_, rfl, hc2529, iteT rfl ⟨⟨by decide, by show (1 : Int) < 3; decide⟩, _, _, _, _, _, _, _, _, _, _, _, ⟨fun w' hc => rd_cell (hr25.keepN hc) 7 rfl, fun w' hc => rd_cell (hr25.keepN hc) 8 rfl, fun w' hc => rd_cell (hr25.keepN hc) 9 rfl, fun w' hc => rd_cell (hr25.keepN hc) 10 rfl, fun w' hc => rd_cell (hr25.keepN hc) 11 rfl, fun w' hc => rd_cell (hr25.keepN hc) 12 rfl, fun w' hc => rd_cell (hr25.keepN hc) 13 rfl⟩, _, _, _, _, _, _, _, _, _, _, _, ⟨hYB29.cell 0 rfl, hYB29.cell 1 rfl, hYB29.cell 2 rfl, hYB29.cell 3 rfl, hYB29.cell 4 rfl, hYB29.cell 5 rfl, hYB29.cell 6 rfl⟩, hc2529, step_call (Same_spec (hV25.keepN hc2529) (hY25.keepN hc2529)) ?_⟩⟩
  rintro v w31 ⟨rfl, hc31⟩
  have hc2531 := hc2529.andN hc31
  have hXB31 := hXB25.keepN hc2531
  rw [decide_eq_true hv]
  refine ⟨_, rfl, hc2531, iteT rfl ⟨⟨by decide, by show (2 : Int) < 3; decide⟩, _, _, _, _, _, _, _, _, _, _, _, ⟨fun w' hc => rd_cell (hr25.keepN hc) 14 rfl, fun w' hc => rd_cell (hr25.keepN hc) 15 rfl, fun w' hc => rd_cell (hr25.keepN hc) 16 rfl, fun w' hc => rd_cell (hr25.keepN hc) 17 rfl, fun w' hc => rd_cell (hr25.keepN hc) 18 rfl, fun w' hc => rd_cell (hr25.keepN hc) 19 rfl, fun w' hc => rd_cell (hr25.keepN hc) 20 rfl⟩, _, _, _, _, _, _, _, _, _, _, _, ⟨hXB31.cell 0 rfl, hXB31.cell 1 rfl, hXB31.cell 2 rfl, hXB31.cell 3 rfl, hXB31.cell 4 rfl, hXB31.cell 5 rfl, hXB31.cell 6 rfl⟩, hc2531, step_call (Same_spec (hT25.keepN hc2531) (hX25.keepN hc2531)) ?_⟩⟩
  rintro v w33 ⟨rfl, hc33⟩
  rw [decide_eq_true ht]
  exact ⟨_, rfl, hc2531.andN hc33, rfl, (hc011.andN hc1125).andN (hc2531.andN hc33)⟩
end Go.Proofs.Ytamkffjmggbekaa.Ord
