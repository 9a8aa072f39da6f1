/- PrefixExact's contract: of every row of deeds the Go function answers true and leaves what was there; the conditions stand in each theorem. -/
import Derived.Test.YtpcddfhfchempaaRefX3
import Derived.Test.YtpcddfhfchempaaVcPrefixX
set_option linter.unusedVariables false
set_option linter.unusedSimpArgs false
namespace Go.Proofs.Ytpcddfhfchempaa.Prefix
open Go Go.Proofs Go.Proofs.Ytpcddfhfchempaa.V Go.Proofs.Ytpcddfhfchempaa.Vc Go.Proofs.Ytpcddfhfchempaa.Step Go.Proofs.Ytpcddfhfchempaa.Pages Go.RowKit

theorem Add_nil (w : World) (a b : Int) (o : Option Addr) (n c : Nat) : Calls Try.prog i_prefix_Index_Add #[.pointer none, .int .i64 a, .int .i64 b, .slice o n c] w (Ret fun v w' => v = .int .i64 2 ∧ w' = w) :=
  prefix_Index_Add.calls_nil _ _ _ _ _ ⟨rfl, rfl⟩
theorem Find_nil (w : World) (b : Int) (o : Option Addr) (n c : Nat) : Calls Try.prog i_prefix_Index_Find #[.pointer none, .int .i64 b, .slice o n c] w (Ret fun v w' => v = .slice none 0 0 ∧ w' = w) :=
  prefix_Index_Find.calls_nil _ _ _ _ ⟨rfl, rfl⟩
theorem Len_nilX (w : World) : Calls Try.prog i_prefix_Index_Len #[.pointer none] w (Ret fun v w' => v = .int .i64 0 ∧ w' = w) :=
  prefix_Index_Len.calls_nil ⟨rfl, rfl⟩
theorem Has_nil (w : World) (b : Int) (o : Option Addr) (n c : Nat) : Calls Try.prog i_prefix_Index_Has #[.pointer none, .int .i64 b, .slice o n c] w (Ret fun v w' => v = .bool false ∧ w' = w) :=
  prefix_Index_Has.calls_nil _ _ _ _ ⟨rfl, rfl⟩
theorem Evict_nil (w : World) : Calls Try.prog i_prefix_Index_Evict #[.pointer none] w (Ret fun v w' => v = .bool false ∧ Ch Non w w') := by
  refine prefix_Index_Evict.calls_nil ?_
  unfold prefix_Index_Evict.vc_nil
  intro w1 e1
  exact ⟨none, (Blk.new e1).cell 0 rfl, iteT rfl ⟨rfl, Ch.alloc e1⟩⟩
theorem Forget_nil (w : World) (b : Int) : Calls Try.prog i_prefix_Index_Forget #[.pointer none, .int .i64 b] w (Ret fun v w' => v = .int .i64 0 ∧ Ch Non w w') := by
  refine prefix_Index_Forget.calls_nil _ ?_
  unfold prefix_Index_Forget.vc_nil
  intro w1 e1 w2 e2
  refine ⟨none, ((Blk.new e1).alloc e2).cell 0 rfl, ?_⟩
  refine step_call (Len_nilX w2) ?_
  rintro v w3 ⟨rfl, rfl⟩
  exact ⟨_, rfl, iteT rfl ⟨rfl, (Ch.alloc e1).andN (Ch.alloc e2)⟩⟩
/-- Both pools and both indexes. -/
structure SX (W w : World) (pb xb ub yb : Nat) (ps qs : List PageD) (es fs : List EntD) (FP FI FU F D : Nat → Prop) : Prop where
  p : PX W w pb xb 10 2000 ps es FP FI
  r : RX W w ub yb qs fs FU F D
  ap : ∀ i, FP i ∨ FI i → ¬ (FU i ∨ F i)
section
variable {W w w' : World} {pb xb ub yb n k : Nat} {B : Int} {ps ps' qs qs' : List PageD} {es es' fs fs' : List EntD} {FP FI FI' FU FU' F F' D D' G : Nat → Prop} {u : Nat → Int}
theorem PX.far' (h : PX W w pb xb k B ps es FP FI) (hc : Ch G w w') (hG : ∀ i, G i → W.heap.size ≤ i ∧ ¬ FP i ∧ ¬ FI i) : PX W w' pb xb k B ps es FP FI :=
  ⟨⟨h.p.r.keep hc (fun i _ hi hg => (hG i hg).2.1 hi), h.p.f.le hc.size, h.p.c.trans hc (fun i hi hg => by have := (hG i hg).1; omega)⟩, h.x.keep hc (fun i _ hi hg => (hG i hg).2.2 hi), h.g, h.f.le hc.size, h.ap⟩
theorem SX.keepN (h : SX W w pb xb ub yb ps qs es fs FP FI FU F D) (hc : Ch Non w w') : SX W w' pb xb ub yb ps qs es fs FP FI FU F D := ⟨h.p.keepN hc, h.r.keepN hc, h.ap⟩
theorem SX.left (h : SX W w pb xb ub yb ps qs es fs FP FI FU F D) (hg : Pages.Good 10 2000 ps') (hp : PX W w' pb xb 10 B ps' es' FP FI') (hE : ∀ i, FI' i → Ext FI w w' i) (hc : Ch (fun i => FI i ∨ FP i) w w') : SX W w' pb xb ub yb ps' qs es' fs FP FI' FU F D :=
  ⟨hp.reg hg, h.r.far hc (fun i hi => ⟨hi.elim (fun k => (h.p.f i k).1) (fun k => (h.p.p.f i k).1), fun hU => h.ap i hi.symm (.inl hU), fun hF => h.ap i hi.symm (.inr hF)⟩), fun i hi hb => by
    rcases hi with hi | hi
    · exact h.ap i (.inl hi) hb
    · rcases hE i hi with hi | hi
      · exact h.ap i (.inr hi) hb
      · have h1 := hi.1
        rcases hb with hb | hb
        · have := (h.r.fu i hb).2; omega
        · have := (h.r.f i hb).2; omega⟩
theorem SX.right (h : SX W w pb xb ub yb ps qs es fs FP FI FU F D) (hr : RX W w' ub yb qs' fs' FU' F' D') (e1 : ∀ i, FU' i → Ext FU w w' i) (e2 : ∀ i, F' i → Ext F w w' i) (hc : Ch (fun i => F i ∨ FU i) w w') : SX W w' pb xb ub yb ps qs' es fs' FP FI FU' F' D' :=
  ⟨h.p.far' hc (fun i hi => ⟨hi.elim (fun k => (h.r.f i k).1) (fun k => (h.r.fu i k).1), fun hP => h.ap i (.inl hP) hi.symm, fun hI => h.ap i (.inr hI) hi.symm⟩), hr, fun i hi hb => by
    have hlt : i < w.heap.size := hi.elim (fun k => (h.p.p.f i k).2) (fun k => (h.p.f i k).2)
    rcases hb with hb | hb
    · rcases e1 i hb with hb | hb
      · exact h.ap i hi (.inl hb)
      · have := hb.1; omega
    · rcases e2 i hb with hb | hb
      · exact h.ap i hi (.inr hb)
      · have := hb.1; omega⟩
theorem SP_drop1 {id : Int} (h0 : 0 ≤ id) (h1 : id < 10) (hu : 1 ≤ u id.toNat) : (allB (SP 10 u) [id] && !overB (SP 10 u) [id]) = true ∧ dropL (SP 10 u) [id] = SP 10 (inc u id (-1)) := by
  have hall : allB (SP 10 u) [id] = true := SP_all fun y hy => by
    rw [List.mem_singleton] at hy
    subst hy
    exact ⟨h0, h1, hu⟩
  have hov : overB (SP 10 u) [id] = false := SP_over fun y hy => by
    rw [List.mem_singleton] at hy
    subst hy
    refine ⟨h0, h1, ?_⟩
    rw [List.count_singleton_self]; exact hu
  exact ⟨by rw [hall, hov]; rfl, SP_dropU h0 h1 hu⟩
theorem SX.pdrop {nb T : Nat} {id : Int} (h : SX W w pb xb ub yb (SP 10 u) qs es fs FP FI FU F D) (hb : Blk w nb [.int .i64 id] T) (hn : ¬ FP nb) (h0 : 0 ≤ id) (h1 : id < 10) (hu : 1 ≤ u id.toNat) (hg : Pages.Good 10 2000 (SP 10 (inc u id (-1)))) :
    Calls Try.prog i_pages_Pool_Drop #[.pointer (some ⟨pb, 0, none⟩), .slice (some ⟨nb, 0, none⟩) 1 1] w (Ret fun v w' => v = .int .i64 0 ∧ SX W w' pb xb ub yb (SP 10 (inc u id (-1))) qs es fs FP FI FU F D ∧ Ch FP w w') := by
  have hr : Rd w (some ⟨nb, 0, none⟩) (([id] : List Int).map (.int .i64)) (· = nb) := hb.rd
  obtain ⟨a1, a2⟩ := SP_drop1 h0 h1 hu
  refine step_call (Drop_spec (l := [id]) h.p.p.r h.p.p.lt hr (fun i hi => hi ▸ hb.lt) (fun i _ hi hf => hn (hi ▸ hf)) (by simp) (by rw [SP_len]; omega) (by omega) h.p.g.bnd 1) ?_
  rintro v w' ⟨rfl, hp, hc⟩
  rw [a1, if_pos rfl, a2] at hp
  rw [a1, if_pos rfl]
  exact ⟨rfl, h.left hg (h.p.pool hp hc hg) (fun i hi => .inl hi) (hc.mono (fun i _ hi => .inr hi)), hc⟩
theorem SX.udrop {nb T : Nat} {id : Int} (h : SX W w pb xb ub yb ps (SP 10 u) es fs FP FI FU F D) (hb : Blk w nb [.int .i64 id] T) (h0 : 0 ≤ id) (h1 : id < 10) (hu : 1 ≤ u id.toNat) (hg : Pages.Good 10 2000 (SP 10 u)) :
    Calls Try.prog i_coadjutorref22_Pool_Use #[.pointer (some ⟨ub, 0, none⟩), .slice (some ⟨nb, 0, none⟩) 1 1, .int .i64 (-1)] w (Ret fun v w' => v = .int .i64 0 ∧ SX W w' pb xb ub yb ps (SP 10 (inc u id (-1))) es fs FP FI (Ext FU w w') F D ∧ Ch FU w w') := by
  obtain ⟨a1, a2⟩ := SP_drop1 h0 h1 hu
  refine step_call (h.r.drop1 hg (by omega) (by omega) hb) ?_
  rintro v w' ⟨rfl, hr, hc⟩
  unfold dropQ at hr
  rw [a1, if_pos rfl, a2] at hr
  rw [a1, if_pos rfl]
  exact ⟨rfl, h.right hr (fun i hi => hi) (fun i hi => .inl hi) (hc.mono (fun i _ hi => .inr hi)), hc⟩
end
/-- What holds after so many deeds. -/
structure Law (n : Nat) (u : Nat → Int) (es : List EntD) : Prop where
  i : InX 10 u es
  b : ∀ j, j < 10 → u j ≤ 1 + 20 * n
  l : es.length ≤ n
section
variable {n : Nat} {u : Nat → Int} {es : List EntD}
theorem Law.nonneg (h : Law n u es) {j : Nat} (hj : j < 10) : 0 ≤ u j := Int.le_trans (cnt_nonneg es j) (h.i.us j hj)
theorem Law.good (h : Law n u es) (hn : n ≤ 51) : Pages.Good 10 2000 (SP 10 u) := SP_good fun j hj => by
  have := h.nonneg hj
  have := h.b j hj
  omega
theorem Law.next (h : Law n u es) : Law (n + 1) u es := ⟨h.i, fun j hj => by have := h.b j hj; omega, Nat.le_succ_of_le h.l⟩
theorem Law.find (h : Law n u es) (v : Int) {t : List Int} (ht : t.length ≤ 40) : allB (SP 10 u) (findR es v t).2 = true ∧ shareL (SP 10 u) (findR es v t).2 = SP 10 (incL u (findR es v t).2 1) ∧ Law (n + 1) (incL u (findR es v t).2 1) (findR es v t).1 := by
  obtain ⟨hperm, _, hlen, hpgs⟩ := findR_law es v t
  have hlive : ∀ y ∈ (findR es v t).2, 0 ≤ y ∧ y < (10 : Nat) ∧ 1 ≤ u y.toNat := fun y hy => by
    obtain ⟨e, he, _, rfl⟩ := hpgs y hy
    exact h.i.live he
  refine ⟨SP_all hlive, SP_shareL hlive, ⟨fun e he => h.i.pg e (hperm.mem_iff.1 he), fun j hj => ?_⟩, fun j hj => ?_, ?_⟩
  · rw [cnt_perm hperm]
    have := h.i.us j hj
    unfold incL; omega
  · have := h.b j hj
    have := List.count_le_length (a := (j : Int)) (l := (findR es v t).2)
    unfold incL; omega
  · have := Perm_len hperm
    have := h.l
    omega
theorem Law.add (h : Law n u es) {id v : Int} {t : List Int} (he : addE (SP 10 u) es id v t = 0) : addP (SP 10 u) es id v t = SP 10 (inc u id 1) ∧ addX (SP 10 u) es id v t = es ++ [⟨v, t, id⟩] ∧ Law (n + 1) (inc u id 1) (es ++ [⟨v, t, id⟩]) := by
  have hok : addOk (SP 10 u) id v = true := by
    unfold addE at he
    split at he
    · cases he
    · split at he
      · cases he
      · split at he
        · assumption
        · cases he
  unfold addOk at hok
  rw [Bool.and_eq_true, Bool.and_eq_true] at hok
  obtain ⟨⟨h1, h2⟩, _⟩ := hok
  rw [SP_is] at h1
  obtain ⟨a, b, c⟩ := of_decide_eq_true h1
  rw [SP_at a b, mkP_ver c] at h2
  have h2 : 1 + (id.toNat : Int) % 2 = v := by simpa using h2
  unfold addP addX
  rw [he, if_pos rfl, if_pos rfl]
  refine ⟨SP_addU a b (by omega) (by omega), rfl, ⟨fun e hx => ?_, fun j hj => ?_⟩, fun j hj => ?_, ?_⟩
  · rcases List.mem_append.1 hx with hx | hx
    · exact h.i.pg e hx
    · rw [List.mem_singleton] at hx
      subst hx
      exact ⟨a, b, by show v = 1 + id % 2; omega⟩
  · have h3 := h.i.us j hj
    rw [cnt_append, cnt_one]
    show cnt es j + (if (j : Int) = id then 1 else 0) ≤ if (j : Int) = id then u j + 1 else u j
    split <;> omega
  · have := h.b j hj
    unfold inc; split <;> omega
  · have := h.l
    rw [List.length_append, List.length_singleton]; omega
theorem Law.evict (h : Law n u es) : ∃ u', evP (SP 10 u) es = SP 10 u' ∧ Law (n + 1) u' (es.eraseIdx (evI (SP 10 u) es)) := by
  by_cases hlt : evI (SP 10 u) es < es.length
  · have hev : evP (SP 10 u) es = dropQ (SP 10 u) es[evI (SP 10 u) es].page := by unfold evP; rw [List.getElem?_eq_getElem hlt]
    rw [hev]
    generalize evI (SP 10 u) es = q at hlt ⊢
    obtain ⟨a, b, c⟩ := h.i.live (List.getElem_mem hlt)
    rw [SP_dropQ a b c]
    refine ⟨_, rfl, h.i.erase hlt, fun j hj => ?_, ?_⟩
    · have := h.b j hj
      unfold inc; split <;> omega
    · have := h.l
      rw [List.length_eraseIdx, if_pos hlt]; omega
  · refine ⟨u, by unfold evP; rw [List.getElem?_eq_none (by omega)], ?_⟩
    rw [List.eraseIdx_of_length_le (by omega)]
    exact h.next
theorem Law.forget (h : Law n u es) (v : Int) : ∃ u', fgP v (SP 10 u) es = SP 10 u' ∧ fgP v (SP 10 u) es.reverse = SP 10 u' ∧ Law (n + 1) u' (es.filter (keepE v)) := by
  obtain ⟨f1, g1⟩ := h.i.forget v
  refine ⟨_, f1, ?_, g1, fun j hj => ?_, ?_⟩
  · have hp : es.reverse.Perm es := List.reverse_perm es
    have hc : ∀ j, cnt (es.reverse.filter (fun e => e.ver == v)) j = cnt (es.filter (fun e => e.ver == v)) j := fun j => cnt_perm (hp.filter _) j
    rw [fgP_law v (fs := es.reverse) (u := u) (fun e he => by have := h.i.pg e (hp.mem_iff.1 he); exact ⟨this.1, this.2.1⟩) (fun j hj => by
      rw [hc]
      have h1 := h.i.us j hj
      have h2 := cnt_filter v es j
      have h3 := cnt_nonneg (es.filter (keepE v)) j
      omega)]
    exact SP_ext fun j _ => by unfold decL; rw [hc]
  · have := h.b j hj
    have := cnt_nonneg (es.filter (fun e => e.ver == v)) j
    unfold decL; omega
  · have := h.l
    have := List.length_filter_le (keepE v) es
    omega
theorem Law.drop (h : Law n u es) {id : Int} (h0 : 0 ≤ id) (hm : cnt es id.toNat < u id.toNat) : Law (n + 1) (inc u id (-1)) es :=
  ⟨⟨h.i.pg, fun j hj => by
    have := h.i.us j hj
    unfold inc
    split
    · rename_i he
      have : j = id.toNat := by omega
      subst this; omega
    · exact this⟩, fun j hj => by
    have := h.b j hj
    unfold inc; split <;> omega, Nat.le_succ_of_le h.l⟩
theorem Law.live (h : Law n u es) : ∀ e ∈ es, isB (SP 10 u) e.page = true := fun e he => by
  obtain ⟨a, b, c⟩ := h.i.live he
  rw [SP_is]; exact decide_eq_true ⟨a, b, by omega⟩
end
def cntI (es : List EntD) (id : Int) : Int := (es.countP (fun e => e.page == id) : Nat)
theorem cntI_snoc (es : List EntD) (e : EntD) (id : Int) : cntI (es ++ [e]) id = cntI es id + if e.page == id then 1 else 0 := by
  unfold cntI
  rw [List.countP_append, List.countP_singleton]
  split <;> simp
/-- The state between two deeds. -/
def StX (W w : World) (pb xb ub yb : Nat) (FP : Nat → Prop) (n : Nat) : Prop :=
  ∃ (u : Nat → Int) (es : List EntD) (FI FU F D : Nat → Prop), SX W w pb xb ub yb (SP 10 u) (SP 10 u) es es FP FI FU F D ∧ Law n u es
set_option maxRecDepth 100000 in
set_option maxHeartbeats 4000000 in
theorem PrefixExact_true (W : World) (o1 : Option Addr) (n1 c1 : Nat) (h1 : DatC Try.prog W t_S_coadjutorlaw23_Act [.slice o1 n1 c1]) :
    Calls Try.prog i_coadjutorlaw23_PrefixExact #[.slice o1 n1 c1] W (Ret fun v w' => v = .bool true ∧ Ch Non W w') := by
  obtain ⟨o1', c1', av, hcs1, _, _, hm1, hQ, ha⟩ := h1.sliceOf (e := t_coadjutorlaw23_Act) (enc := actX) (Q := fun y => Rd W y.o (y.l.map (.int .i64)) (fun _ => True) ∧ y.l.length ≤ y.c) (by kernel_rfl) (fun x hl hd => actX_dat hl hd)
  injection hcs1 with hcs1
  injection hcs1 with q1 q2 q3
  subst q1; subst q2; subst q3
  refine coadjutorlaw23_PrefixExact.calls _ _ _ ?_
  unfold coadjutorlaw23_PrefixExact.vc
  refine step_call (awake_spec W) ?_
  rintro v w1 ⟨rfl, hC1⟩
  refine ⟨_, rfl, iteF rfl ?_⟩
  refine step_call (full_spec hC1 10 (by omega)) ?_
  rintro v w2 ⟨pb, ub, FP, FU, rfl, hB⟩
  have hg := full_good 10
  refine ⟨_, _, rfl, ?_⟩
  refine step_call (New_spec hB.p hg) ?_
  rintro v w3 ⟨xb, rfl, hX, hc3⟩
  rw [fullP_SP] at hX hB
  refine ⟨_, rfl, fun w4 e4 => ?_⟩
  have hY4 := Blk.new e4
  have hs34 : w3.heap.size < w4.heap.size := hY4.lt
  have hs3 := hc3.size
  have hLw0 : Law 0 (uF []) [] := ⟨uF_inX (fun e he => (by cases he)), fun j _ => by simp [uF, cnt], Nat.le_refl _⟩
  have hX4 := (hX.keepN (Ch.alloc e4)).reg (B' := 2000) (hLw0.good (by omega))
  have hr4 : RX W w4 ub w3.heap.size (SP 10 (uF [])) [] FU (· = w3.heap.size) Non :=
    ⟨(hB.r.keepN hc3).keepN (Ch.alloc e4), ⟨none, 0, [], Non, ⟨hY4, Own.nil _ _ _ _, rfl, rfl, fun _ h => h.elim, fun _ h => h.elim, fun i hi => by omega⟩, .nil⟩, hB.f.le (by omega), fun i hi => ⟨by have := hX.p.c.size; omega, by omega⟩, fun i hi hf => by have := (hB.f i hf).2; omega, hX4.p.c⟩
  have hS0 : StX W w4 pb xb ub w3.heap.size FP 0 := ⟨uF [], [], _, FU, _, Non, ⟨hX4, hr4, fun i hi hb => by
    rcases hi with hi | hi
    · have := (hB.p.f i hi).2
      rcases hb with hb | hb
      · exact hB.ap i hi hb
      · omega
    · have h5 := hi.1
      have h6 := hi.2
      rcases hb with hb | hb
      · have := (hB.f i hb).2; omega
      · omega⟩, hLw0⟩
  clear hX hB hX4 hr4 hY4 hLw0 hg e4 hs34 hs3 hc3
  generalize w3.heap.size = yb at hS0 ⊢
  refine ⟨fun w' => Ch Non W w', ⟨fun i f w' => ∃ j : Nat, i = j ∧ j ≤ av.length ∧ j ≤ 50 ∧ f = av.length - j ∧ StX W w' pb xb ub yb FP j, ⟨_, 0, rfl, Nat.zero_le _, by omega, rfl, hS0⟩, ?_⟩, ?_⟩
  · clear hS0
    rintro jk i f w5 ⟨j, rfl, hj, hj50, rfl, u, es, FI, FU, F, D, hS, hLw⟩
    refine ⟨fun hlt => ⟨fun h50 => ?_, fun _ => hS.p.p.c⟩, fun _ => hS.p.p.c⟩
    have hlt : j < av.length := by have := of_decide_eq_true hlt; omega
    have h50 : j < 50 := by have := of_decide_eq_true h50; omega
    obtain ⟨p, hp, _, _, hcell⟩ := (ha.keepN hS.p.p.c).elem (sz := 4) (enc := actX) (fun _ => rfl) (by omega) hlt
    obtain ⟨hl, hlc⟩ := hQ _ (List.getElem_mem hlt)
    generalize av[j] = x at hcell hl hlc
    rw [← Int.toNat_natCast j] at hcell
    have h0 := hcell 0 _ rfl
    rw [add_none] at h0
    subst hp
    have hro : ∀ {w'}, Ch Non W w' → Rd w' x.o (x.l.map (.int .i64)) (fun i => i < W.heap.size) := fun hc => (hl.mono (fun i hi _ => hi)).keepN hc
    have hfar : ∀ {w' : World} {B : Int} {ps : List PageD} {es : List EntD} {FI : Nat → Prop}, PX W w' pb xb 10 B ps es FP FI → ∀ i, i < w'.heap.size → i < W.heap.size → ¬ FI i := fun h i _ hi hf => by have := (h.f i hf).1; omega
    refine ⟨⟨by omega, by omega⟩, _, _, _, _, _, _, ⟨h0, hcell 1 _ rfl, hcell 2 _ rfl, hcell 3 _ rfl⟩, fun w6 e6 => ?_⟩
    have hA6 := Blk.new e6
    refine ⟨⟨hA6.ok 0 rfl, hA6.ok 1 rfl, hA6.ok 2 rfl, hA6.ok 3 rfl⟩, fun w7 e7 => ?_⟩
    have e8 : w7 = w6.setCells w5.heap.size 0 (actX x) := e7
    have hA7 := hA6.all (actX x) rfl e8
    have hA7 : Blk w7 w5.heap.size (actX x) 78 := hA7
    have hc57 : Ch Non w5 w7 := (Ch.alloc (F := Non) e6).trans (Ch.sets (F := (· = w5.heap.size)) e8 rfl) (fun i hi he => by omega)
    obtain ⟨GS, hGS⟩ : ∃ GS : Nat → Prop, GS = fun i => (FI i ∨ FP i) ∨ (F i ∨ FU i) := ⟨_, rfl⟩
    have hab : ¬ GS w5.heap.size := by
      subst hGS
      rintro ((h | h) | (h | h))
      · have := (hS.p.f _ h).2; omega
      · have := (hS.p.p.f _ h).2; omega
      · have := (hS.r.f _ h).2; omega
      · have := (hS.r.fu _ h).2; omega
    clear e6 e7 e8 hA6 hcell h0
    have hsa := hA7.lt
    have hs5 : w5.heap.size < w7.heap.size := hsa
    generalize w5.heap.size = ab at hA7 hab ⊢
    have hS := hS.keepN hc57
    clear hc57
    have gP : ∀ i, (FI i ∨ FP i) → GS i := fun i hi => by rw [hGS]; exact .inl hi
    have gR : ∀ i, (F i ∨ FU i) → GS i := fun i hi => by rw [hGS]; exact .inr hi
    have hmx : ∀ i, FP i → GS i := fun i hi => gP i (.inr hi)
    clear hGS
    refine ⟨_, _, _, hA7.cell 3 rfl, fun _ => ⟨rfl, hS.p.p.c⟩, fun h40' => ?_⟩
    have hx40 : x.l.length ≤ 40 := by have := of_decide_eq_false h40'; omega
    refine ⟨fun w' => StX W w' pb xb ub yb FP (j + 1) ∧ Blk w' ab (actX x) 78, ?_, ?_⟩
    · refine ⟨_, hA7.cell 0 rfl, fun hk4 => ⟨fun _ => ?_, fun hne => absurd (hk4.symm.trans hne) (fun e => nomatch e)⟩, fun hk4 => ⟨fun hk5 => ?_, fun hk5 => ⟨fun hk6 => ?_, fun hk6 => ⟨fun hk7 => ?_, fun hk7 => ⟨fun hk8 => ?_, fun hk8 => ?_⟩⟩⟩⟩⟩
      ·
        refine ⟨fun w' => Ch GS w7 w', fun w8 e8 => ⟨Ch.drew e8, _, fun w' hc => (hA7.keep hc hab).cell 2 rfl, _, _, _, fun w' hc => (hA7.keep hc hab).cell 3 rfl, _, fun w' hc => (hA7.keep hc hab).cell 2 rfl, _, _, _, fun w' hc => (hA7.keep hc hab).cell 3 rfl, ?_⟩⟩
        have hS8 := hS.keepN (Ch.drew e8)
        obtain ⟨l1, l2, l3⟩ := hLw.find x.ver hx40
        refine step_call (Find_spec hS8.p (by omega) (by have := hLw.l; omega) (hro hS8.p.p.c) (hfar hS8.p) (by omega) x.ver hlc) ?_
        rintro v w13 ⟨FI', FO, ⟨o13, c13, rfl, hr13⟩, hO13, hP13, hE13, hap13, hc13⟩
        rw [l1, if_pos rfl, l2] at hP13
        have hS13 := hS8.left (l3.good (by omega)) hP13 hE13 hc13
        have hc713 : Ch GS w7 w13 := (Ch.drew (F := GS) e8).same (hc13.mono (fun i _ hi => gP i hi))
        refine ⟨_, _, _, rfl, hc713, ?_⟩
        refine step_call (RefFind_spec hS13.r (hLw.good (by omega)) (by omega) (by omega) (by have := hLw.l; omega) (hl.mono (fun i hi _ => hi)) (by omega) hlc x.ver) ?_
        rintro v w14 ⟨FO2, ⟨o14, c14, rfl, hr14⟩, hO14, FU2, F2, D2, hR14, z1, z2, hc14⟩
        rw [l1, if_pos rfl, l2] at hR14
        have hS14 := hS13.right hR14 z1 z2 hc14
        have hc714 : Ch GS w7 w14 := hc713.same (hc14.mono (fun i _ hi => gR i hi))
        have hrl := findG_len x.ver x.l x.l.length 4 es []
        have hrl2 : (findR es x.ver x.l).2.length ≤ 0 + x.l.length := hrl.2
        refine ⟨_, _, _, rfl, hc714, ?_⟩
        refine step_call (ints_spec (hr13.keep hc14 (fun i _ hi hf => by
          have h1 := (hO13 i hi).1
          rcases hf with hf | hf
          · have := (hS8.r.f i hf).2; omega
          · have := (hS8.r.fu i hf).2; omega)) hr14 (by omega) _ _) ?_
        rintro v w15 ⟨rfl, hc15⟩
        have hc715 := hc714.andN hc15
        refine ⟨_, rfl, hc715, iteF (by simp) ⟨⟨_, _, _, _, _, _, hS14.keepN hc15, l3⟩, hA7.keep hc715 hab⟩⟩
      ·
        refine ⟨fun w' => Ch GS w7 w', fun w8 e8 => ⟨Ch.drew e8, _, fun w' hc => (hA7.keep hc hab).cell 2 rfl, _, _, _, fun w' hc => (hA7.keep hc hab).cell 3 rfl, _, fun w' hc => (hA7.keep hc hab).cell 2 rfl, _, _, _, fun w' hc => (hA7.keep hc hab).cell 3 rfl, ?_⟩⟩
        have hS8 := hS.keepN (Ch.drew e8)
        obtain ⟨l1, l2, l3⟩ := hLw.find x.ver hx40
        refine step_call (Find_spec hS8.p (by omega) (by have := hLw.l; omega) (hro hS8.p.p.c) (hfar hS8.p) (by omega) x.ver hlc) ?_
        rintro v w13 ⟨FI', FO, ⟨o13, c13, rfl, hr13⟩, hO13, hP13, hE13, hap13, hc13⟩
        rw [l1, if_pos rfl, l2] at hP13
        have hS13 := hS8.left (l3.good (by omega)) hP13 hE13 hc13
        have hc713 : Ch GS w7 w13 := (Ch.drew (F := GS) e8).same (hc13.mono (fun i _ hi => gP i hi))
        refine ⟨_, _, _, rfl, hc713, ?_⟩
        refine step_call (RefFind_spec hS13.r (hLw.good (by omega)) (by omega) (by omega) (by have := hLw.l; omega) (hl.mono (fun i hi _ => hi)) (by omega) hlc x.ver) ?_
        rintro v w14 ⟨FO2, ⟨o14, c14, rfl, hr14⟩, hO14, FU2, F2, D2, hR14, z1, z2, hc14⟩
        rw [l1, if_pos rfl, l2] at hR14
        have hS14 := hS13.right hR14 z1 z2 hc14
        have hc714 : Ch GS w7 w14 := hc713.same (hc14.mono (fun i _ hi => gR i hi))
        have hrl := findG_len x.ver x.l x.l.length 4 es []
        have hrl2 : (findR es x.ver x.l).2.length ≤ 0 + x.l.length := hrl.2
        refine ⟨_, _, _, rfl, hc714, ?_⟩
        refine step_call (ints_spec (hr13.keep hc14 (fun i _ hi hf => by
          have h1 := (hO13 i hi).1
          rcases hf with hf | hf
          · have := (hS8.r.f i hf).2; omega
          · have := (hS8.r.fu i hf).2; omega)) hr14 (by omega) _ _) ?_
        rintro v w15 ⟨rfl, hc15⟩
        have hc715 := hc714.andN hc15
        refine ⟨_, rfl, hc715, iteF (by simp) ⟨⟨_, _, _, _, _, _, hS14.keepN hc15, l3⟩, hA7.keep hc715 hab⟩⟩
      · obtain ⟨u', v1, v2⟩ := hLw.evict
        refine step_call (Evict_spec hS.p (by omega) (by omega) (by have := hLw.l; omega)) ?_
        rintro v w16 ⟨rfl, hP16, hc16⟩
        rw [v1] at hP16
        have hS16 := hS.left (v2.good (by omega)) hP16 (fun i hi => .inl hi) hc16
        refine ⟨_, rfl, ?_⟩
        refine step_call (RefEvict_spec hS16.r (hLw.good (by omega)) (by omega) (by omega) (by have := hLw.l; omega) hLw.live) ?_
        rintro v w17 ⟨rfl, FU2, F2, D2, hR17, z1, z2, hc17⟩
        rw [v1] at hR17
        have hS17 := hS16.right hR17 z1 z2 hc17
        have hc717 : Ch GS w7 w17 := (hc16.mono (fun i _ hi => gP i hi)).same (hc17.mono (fun i _ hi => gR i hi))
        exact ⟨_, rfl, iteF (by simp) ⟨⟨_, _, _, _, _, _, hS17, v2⟩, hA7.keep hc717 hab⟩⟩
      · obtain ⟨u', v1, v2, v3⟩ := hLw.forget x.ver
        refine ⟨fun w' => Ch GS w7 w', fun w8 e8 => ⟨Ch.drew e8, _, fun w' hc => (hA7.keep hc hab).cell 2 rfl, _, fun w' hc => (hA7.keep hc hab).cell 2 rfl, ?_⟩⟩
        have hS8 := hS.keepN (Ch.drew e8)
        refine step_call (Forget_spec hS8.p (by omega) (by omega) (by have := hLw.l; omega) x.ver) ?_
        rintro v w16 ⟨rfl, hP16, hc16⟩
        rw [v1] at hP16
        have hS16 := hS8.left (v3.good (by omega)) hP16 (fun i hi => .inl hi) hc16
        have hc716 : Ch GS w7 w16 := (Ch.drew (F := GS) e8).same (hc16.mono (fun i _ hi => gP i hi))
        refine ⟨_, rfl, hc716, ?_⟩
        refine step_call (RefForget_spec hS16.r (hLw.good (by omega)) (by omega) (by omega) (by have := hLw.l; omega) x.ver) ?_
        rintro v w17 ⟨rfl, FU2, F2, D2, hR17, z1, z2, hc17⟩
        rw [v2] at hR17
        have hS17 := hS16.right hR17 z1 z2 hc17
        have hc717 : Ch GS w7 w17 := hc716.same (hc17.mono (fun i _ hi => gR i hi))
        exact ⟨_, rfl, hc717, iteF (by simp) ⟨⟨_, _, _, _, _, _, hS17, v3⟩, hA7.keep hc717 hab⟩⟩
      · obtain ⟨oR, cR, hrow, hent⟩ := hS.r.row
        refine ⟨fun mine i f w' => ∃ q : Nat, i = q ∧ q ≤ es.length ∧ f = es.length - q ∧ mine = cntI (es.take q) x.id ∧ Ch Non w7 w', ⟨_, 0, rfl, Nat.zero_le _, rfl, rfl, Ch.refl _ _⟩, ?_⟩
        rintro jk mine i f w23 ⟨q, rfl, hq, rfl, rfl, hc23⟩
        have hel := hLw.l
        refine ⟨_, _, _, hrow _ hc23, fun hltq => ?_, fun hgeq => ?_⟩
        · have hltq : q < es.length := by have := of_decide_eq_true hltq; omega
          obtain ⟨p1, hp1, hcl⟩ := hent q hltq
          have hqq : (q : Int).toNat = q := Int.toNat_natCast q
          have hcq : cntI (es.take q) x.id ≤ q := by
            unfold cntI
            have := List.countP_le_length (p := fun e : EntD => e.page == x.id) (l := es.take q)
            rw [List.length_take] at this
            omega
          have hc0 : 0 ≤ cntI (es.take q) x.id := by unfold cntI; omega
          have hsn : cntI (es.take (q + 1)) x.id = cntI (es.take q) x.id + if es[q].page == x.id then 1 else 0 := by rw [List.take_succ_eq_append_getElem hltq, cntI_snoc]
          have hq1 : IntKind.i64.wrap ((q : Int) + 1) = ((q + 1 : Nat) : Int) := by rw [wrap_id (by omega) (by omega)]; rfl
          rw [hqq]
          refine ⟨fun w' => Ch Non w7 w', fun w24 e24 => ⟨hc23.andN (Ch.drew e24), _, _, _, hrow, ⟨by omega, by omega⟩, ?_⟩⟩
          rw [hp1]
          refine ⟨_, fun w' hc => (hcl w' hc).2, _, fun w' hc => (hA7.keepN hc).cell 1 rfl, fun heq => ?_, fun hne => ?_⟩
          · exact ⟨es.length - (q + 1), by omega, q + 1, hq1, hltq, rfl, by rw [hsn, heq, if_pos rfl, wrap_id (by omega) (by omega)], hc23.andN (Ch.drew e24)⟩
          · exact ⟨es.length - (q + 1), by omega, q + 1, hq1, hltq, rfl, by rw [hsn, hne, if_neg (by decide), Int.add_zero], hc23.andN (Ch.drew e24)⟩
        have hqn : q = es.length := by have := of_decide_eq_false hgeq; omega
        subst hqn
        rw [List.take_length]
        have hS23 := hS.keepN hc23
        have hA23 := hA7.keepN hc23
        refine ⟨fun w' => Ch GS w23 w', fun w28 e28 => ⟨Ch.drew e28, _, fun w' hc => (hA23.keep hc hab).cell 1 rfl, ?_⟩⟩
        have hS28 := hS23.keepN (Ch.drew e28)
        refine step_call (RefIs_spec hS28.r.u x.id) ?_
        rintro v w30 ⟨rfl, rfl⟩
        have hc30 : Ch Non w23 w30 := Ch.drew e28
        have hsame : StX W w30 pb xb ub yb FP (j + 1) ∧ Blk w30 ab (actX x) 78 := ⟨⟨_, _, _, _, _, _, hS28, hLw.next⟩, hA23.keepN hc30⟩
        refine ⟨_, rfl, hc30.any, fun his => ?_, fun _ => hsame⟩
        have his2 := his
        rw [SP_is] at his2
        obtain ⟨i0, i1, i2⟩ := of_decide_eq_true his2
        obtain ⟨pu, cu, hpu⟩ := FPoolR.user hS28.r.u i0 (by rw [SP_len]; omega)
        obtain ⟨hp1, hp2⟩ := hpu _ (Ch.refl _ _)
        rw [SP_len] at hp1
        rw [SP_at i0 i1, mkP_users] at hp2
        have hmine : cntI es x.id = cnt es x.id.toNat := by
          unfold cntI cnt
          rw [Int.toNat_of_nonneg i0]
        refine ⟨_, fun w' hc => (hA23.keep hc hab).cell 1 rfl, _, _, _, hp1, hc30.any, ⟨i0, by omega⟩, _, hp2, hc30.any, fun hgt => ?_, fun _ => hsame⟩
        have hgt := of_decide_eq_true hgt
        rw [hmine] at hgt
        have hLd := hLw.drop i0 (by omega)
        have hgd := hLd.good (by omega)
        have hgu := hLw.good (by omega)
        have hu1 : 1 ≤ u x.id.toNat := by omega
        have hsz : ∀ i, GS i → True := fun _ _ => trivial
        have hFPn : ∀ {w'}, Ch Non w30 w' → ∀ nb, w30.heap.size ≤ nb → ¬ FP nb := fun _ nb hnb hf => by have := (hS28.p.p.f nb hf).2; omega
        refine ⟨_, fun w' hc => (hA23.keep hc hab).cell 1 rfl, _, fun w' hc => (hA23.keep hc hab).cell 1 rfl, fun w34 e34 => ⟨(hc30.andN (Ch.alloc e34)).any, ?_, fun w38 e38 => ⟨((hc30.andN (Ch.alloc e34)).andN (Ch.alloc e38)).any, ?_⟩, trivial⟩, fun w41 e41 => ⟨(hc30.andN (Ch.alloc e41)).any, fun w42 e42 => ⟨((hc30.andN (Ch.alloc e41)).andN (Ch.alloc e42)).any, ?_⟩⟩, trivial⟩
        · have hS34 := hS28.keepN (Ch.alloc e34)
          refine step_call (hS34.pdrop (Blk.new e34) (hFPn (Ch.alloc e34) _ (Nat.le_refl _)) i0 (by omega) hu1 hgd) ?_
          rintro v w35 ⟨rfl, hS35, hc35⟩
          have hc2335 : Ch GS w23 w35 := ((hc30.andN (Ch.alloc e34)).any).same (hc35.mono (fun i _ hi => hmx i hi))
          refine ⟨_, rfl, hc2335, fun w36 e36 => ⟨hc2335.andN (Ch.alloc e36), ?_⟩⟩
          refine step_call ((hS35.keepN (Ch.alloc e36)).udrop (Blk.new e36) i0 (by omega) hu1 hgu) ?_
          rintro v w37 ⟨rfl, hS37, hc37⟩
          have hc2337 := (hc2335.andN (Ch.alloc e36)).same (hc37.mono (fun i _ hi => gR i (.inr hi)))
          exact ⟨_, rfl, hc2337, iteF (by simp) ⟨⟨_, _, _, _, _, _, hS37, hLd⟩, hA23.keep hc2337 hab⟩⟩
        · have hS38 := (hS28.keepN (Ch.alloc e34)).keepN (Ch.alloc e38)
          refine step_call (hS38.pdrop ((Blk.new e34).alloc e38) (hFPn (Ch.alloc e34) _ (Nat.le_refl _)) i0 (by omega) hu1 hgd) ?_
          rintro v w39 ⟨rfl, hS39, hc39⟩
          have hc2339 : Ch GS w23 w39 := (((hc30.andN (Ch.alloc e34)).andN (Ch.alloc e38)).any).same (hc39.mono (fun i _ hi => hmx i hi))
          have hs34 : w30.heap.size < w34.heap.size := (Blk.new e34).lt
          refine ⟨_, rfl, hc2339, ?_⟩
          refine step_call (hS39.udrop ((Blk.new e38).keep hc39 (hFPn (Ch.alloc e34) _ (by omega))) i0 (by omega) hu1 hgu) ?_
          rintro v w40 ⟨rfl, hS40, hc40⟩
          have hc2340 := hc2339.same (hc40.mono (fun i _ hi => gR i (.inr hi)))
          exact ⟨_, rfl, hc2340, iteF (by simp) ⟨⟨_, _, _, _, _, _, hS40, hLd⟩, hA23.keep hc2340 hab⟩⟩
        · have hS42 := (hS28.keepN (Ch.alloc e41)).keepN (Ch.alloc e42)
          have hs41 : w30.heap.size < w41.heap.size := (Blk.new e41).lt
          refine step_call (hS42.pdrop (Blk.new e42) (hFPn (Ch.alloc e41) _ (by omega)) i0 (by omega) hu1 hgd) ?_
          rintro v w43 ⟨rfl, hS43, hc43⟩
          have hc2343 : Ch GS w23 w43 := (((hc30.andN (Ch.alloc e41)).andN (Ch.alloc e42)).any).same (hc43.mono (fun i _ hi => hmx i hi))
          refine ⟨_, rfl, hc2343, ?_⟩
          refine step_call (hS43.udrop (((Blk.new e41).alloc e42).keep hc43 (hFPn (Ch.alloc e41) _ (Nat.le_refl _))) i0 (by omega) hu1 hgu) ?_
          rintro v w44 ⟨rfl, hS44, hc44⟩
          have hc2344 := hc2343.same (hc44.mono (fun i _ hi => gR i (.inr hi)))
          exact ⟨_, rfl, hc2344, iteF (by simp) ⟨⟨_, _, _, _, _, _, hS44, hLd⟩, hA23.keep hc2344 hab⟩⟩
      · refine ⟨fun w' => Ch GS w7 w', fun w8 e8 => ⟨Ch.drew e8, _, fun w' hc => (hA7.keep hc hab).cell 1 rfl, _, fun w' hc => (hA7.keep hc hab).cell 2 rfl, _, _, _, fun w' hc => (hA7.keep hc hab).cell 3 rfl, _, fun w' hc => (hA7.keep hc hab).cell 1 rfl, _, fun w' hc => (hA7.keep hc hab).cell 2 rfl, _, _, _, fun w' hc => (hA7.keep hc hab).cell 3 rfl, ?_⟩⟩
        have hS8 := hS.keepN (Ch.drew e8)
        refine step_call (Add_spec hS8.p (by omega) (by have := hLw.l; omega) (hro hS8.p.p.c) (by omega) x.id x.ver x.c) ?_
        rintro v w16 ⟨rfl, hP16, hc16⟩
        have hc716 : Ch GS w7 w16 := (Ch.drew (F := GS) e8).same (hc16.mono (fun i _ hi => gP i hi))
        have hz : ∃ u' es', addP (SP 10 u) es x.id x.ver x.l = SP 10 u' ∧ addX (SP 10 u) es x.id x.ver x.l = es' ∧ Law (j + 1) u' es' := by
          by_cases h0 : addE (SP 10 u) es x.id x.ver x.l = 0
          · obtain ⟨a, b, c⟩ := hLw.add h0
            exact ⟨_, _, a, b, c⟩
          · obtain ⟨a, b⟩ := add_fail h0
            exact ⟨_, _, a, b, hLw.next⟩
        obtain ⟨u', es', v1, v2, v3⟩ := hz
        rw [v1, v2] at hP16
        have hS16 := hS8.left (v3.good (by omega)) hP16 (fun i hi => hi) hc16
        refine ⟨_, rfl, hc716, ?_⟩
        refine step_call (RefAdd_spec hS16.r (hLw.good (by omega)) (by omega) (by omega) (by have := hLw.l; omega) (hl.mono (fun i hi _ => hi)) (by omega) x.id x.ver) ?_
        rintro v w17 ⟨rfl, FU2, F2, D2, hR17, z1, z2, hc17⟩
        rw [v1, v2] at hR17
        have hS17 := hS16.right hR17 z1 z2 hc17
        have hc717 : Ch GS w7 w17 := hc716.same (hc17.mono (fun i _ hi => gR i hi))
        exact ⟨_, rfl, hc717, iteF (by simp) ⟨⟨_, _, _, _, _, _, hS17, v3⟩, hA7.keep hc717 hab⟩⟩
    · clear hS hA7 hLw gP gR hmx hab hsa hs5
      rintro jk w104 ⟨⟨u, es, FI, FU, F, D, hS, hLw⟩, hA⟩
      obtain ⟨oR, cR, hrow, _⟩ := hS.r.row
      have hel := hLw.l
      refine ⟨fun w' => Ch Non w104 w', fun w105 e105 => ⟨Ch.drew e105, _, _, _, hrow, ?_⟩⟩
      have hS105 := hS.keepN (Ch.drew e105)
      refine step_call (Len_spec hS105.p.x) ?_
      rintro v w107 ⟨rfl, rfl⟩
      refine ⟨_, rfl, Ch.drew e105, iteF (by simp) ⟨_, fun w' hc => (hA.keepN hc).cell 2 rfl, _, _, _, fun w' hc => (hA.keepN hc).cell 3 rfl, _, fun w' hc => (hA.keepN hc).cell 2 rfl, _, _, _, fun w' hc => (hA.keepN hc).cell 3 rfl, ?_⟩⟩
      refine step_call (Has_spec hS105.p.x (hro hS105.p.p.c) x.ver x.c) ?_
      rintro v w112 ⟨rfl, hc112⟩
      have hc12 := (Ch.drew (F := Non) e105).andN hc112
      have hS112 := hS105.keepN hc112
      refine ⟨_, rfl, hc12, ?_⟩
      refine step_call (At_spec hS112.r.x (by omega) (hro hS112.p.p.c) x.ver x.c) ?_
      rintro v w113 ⟨rfl, hc113⟩
      have hc13 := hc12.andN hc113
      have hS113 := hS112.keepN hc113
      refine ⟨_, rfl, hc13, iteF (by simp) ?_⟩
      refine step_call (Free_spec hS113.p.p.r) ?_
      rintro v w114 ⟨rfl, rfl⟩
      refine ⟨_, rfl, hc13, ?_⟩
      refine step_call (RefFree_spec hS113.r.u) ?_
      rintro v w115 ⟨rfl, rfl⟩
      rw [freeZ_eq (hLw.good (by omega))]
      refine ⟨_, rfl, hc13, iteF (by simp) ?_⟩
      refine ⟨fun i f w' => ∃ m : Nat, i = m ∧ m ≤ 10 ∧ f = 10 - m ∧ Ch Non w115 w', ⟨_, 0, rfl, by omega, rfl, Ch.refl _ _⟩, ?_⟩
      rintro jk i f w116 ⟨m, rfl, hm, rfl, hc116⟩
      have hS116 := hS113.keepN hc116
      refine ⟨fun hltm => ?_, fun _ => ⟨av.length - (j + 1), by omega, j + 1, by rw [wrap_id (by omega) (by omega)]; rfl, hlt, h50, rfl, _, _, _, _, _, _, hS116, hLw⟩⟩
      have hltm : m < 10 := by have := of_decide_eq_true hltm; omega
      obtain ⟨pu, cu, hpu⟩ := FPoolR.user hS116.r.u (id := (m : Int)) (by omega) (by rw [SP_len]; omega)
      rw [SP_len, SP_at (by omega) (by omega), mkP_users] at hpu
      refine ⟨fun w' => Ch Non w116 w', fun w117 e117 => ⟨Ch.drew e117, _, _, _, fun w' hc => (hpu w' hc).1, ⟨by omega, by omega⟩, _, fun w' hc => (hpu w' hc).2, ?_⟩⟩
      refine step_call (Users_spec ((hS116.keepN (Ch.drew e117)).p.p.r) (m : Int)) ?_
      rintro v w120 ⟨rfl, rfl⟩
      have hus : (if isB (SP 10 u) (m : Int) then (pgAt (SP 10 u) (m : Int)).users else 0) = u (m : Int).toNat := SP_users (by omega) (by omega) (hLw.nonneg (by omega))
      rw [hus]
      exact ⟨_, rfl, Ch.drew e117, iteF (by simp) ⟨10 - (m + 1), by omega, m + 1, by rw [wrap_id (by omega) (by omega)]; rfl, hltm, rfl, hc116.andN (Ch.drew e117)⟩⟩
  clear hS0 ha hQ h1
  rintro jk w121 hc121
  refine step_call (Add_nil w121 _ _ _ _ _) ?_
  rintro v w122 ⟨rfl, rfl⟩
  refine ⟨_, rfl, iteT rfl fun w123 e123 => ?_⟩
  refine step_call (Find_nil w123 _ _ _ _) ?_
  rintro v w124 ⟨rfl, rfl⟩
  refine ⟨_, _, _, rfl, iteT rfl ?_⟩
  refine step_call (Evict_nil w124) ?_
  rintro v w125 ⟨rfl, hc125⟩
  refine ⟨_, rfl, iteT rfl ?_⟩
  refine step_call (Forget_nil w125 _) ?_
  rintro v w126 ⟨rfl, hc126⟩
  refine ⟨_, rfl, ?_⟩
  refine step_call (Len_nilX w126) ?_
  rintro v w127 ⟨rfl, rfl⟩
  refine ⟨_, rfl, iteT rfl fun w128 e128 => ?_⟩
  refine step_call (Has_nil w128 _ _ _ _) ?_
  rintro v w129 ⟨rfl, rfl⟩
  exact ⟨_, rfl, rfl, (((hc121.andN (Ch.alloc e123)).andN hc125).andN hc126).andN (Ch.alloc e128)⟩
end Go.Proofs.Ytpcddfhfchempaa.Prefix
