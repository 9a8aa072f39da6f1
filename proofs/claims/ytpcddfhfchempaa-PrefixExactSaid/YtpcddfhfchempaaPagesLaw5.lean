/- For every pool of pages: what layer 22's functions answer where there is no pool, what the law's own comparison answers, and two pools side by side; the conditions stand in each theorem. -/
import Derived.Test.YtpcddfhfchempaaPagesLaw4
import Derived.Test.YtpcddfhfchempaaVcPagesN
set_option linter.unusedVariables false
set_option linter.unusedSimpArgs false
namespace Go.Proofs.Ytpcddfhfchempaa.Pages
open Go Go.Proofs Go.Proofs.Ytpcddfhfchempaa.V Go.Proofs.Ytpcddfhfchempaa.Vc Go.Proofs.Ytpcddfhfchempaa.Step Go.RowKit

section
variable {w : World} {o : Option Addr} {l : List Int} {F G : Nat → Prop}
theorem is_nil (w : World) (id : Int) : Calls Try.prog i_pages_Pool_is #[.pointer none, .int .i64 id] w (Ret fun v w' => v = .bool false ∧ w' = w) := pages_Pool_is.calls_nil _ ⟨rfl, rfl⟩
theorem Len_nil (w : World) : Calls Try.prog i_pages_Pool_Len #[.pointer none] w (Ret fun v w' => v = .int .i64 0 ∧ w' = w) := pages_Pool_Len.calls_nil ⟨rfl, rfl⟩
theorem Take_nil (w : World) (x : Int) : Calls Try.prog i_pages_Pool_Take #[.pointer none, .int .i64 x] w (Ret fun v w' => v = .tuple #[.int .i64 0, .int .i64 2] ∧ w' = w) := pages_Pool_Take.calls_nil _ ⟨rfl, rfl⟩
theorem check_nil (w : World) (o : Option Addr) (n c : Nat) : Calls Try.prog i_pages_Pool_check #[.pointer none, .slice o n c] w (Ret fun v w' => v = .int .i64 2 ∧ Ch Non w w') := by
  refine pages_Pool_check.calls_nil _ _ _ ?_
  unfold pages_Pool_check.vc_nil
  intro w1 e1
  exact ⟨_, (Blk.new e1).cell 0 rfl, iteT rfl ⟨rfl, Ch.alloc e1⟩⟩
theorem Share_nil (w : World) (o : Option Addr) (n c : Nat) : Calls Try.prog i_pages_Pool_Share #[.pointer none, .slice o n c] w (Ret fun v w' => v = .int .i64 2 ∧ Ch Non w w') := by
  refine pages_Pool_Share.calls_nil _ _ _ ?_
  unfold pages_Pool_Share.vc_nil
  refine step_call (check_nil w o n c) ?_
  rintro v w1 ⟨rfl, hc⟩
  exact ⟨_, rfl, iteT rfl ⟨rfl, hc⟩⟩
theorem Drop_nil (w : World) (o : Option Addr) (n c : Nat) : Calls Try.prog i_pages_Pool_Drop #[.pointer none, .slice o n c] w (Ret fun v w' => v = .int .i64 2 ∧ Ch Non w w') := by
  refine pages_Pool_Drop.calls_nil _ _ _ ?_
  unfold pages_Pool_Drop.vc_nil
  refine step_call (check_nil w o n c) ?_
  rintro v w1 ⟨rfl, hc⟩
  exact ⟨_, rfl, iteT rfl ⟨rfl, hc⟩⟩
theorem Put_nil (w : World) (x : Int) (o1 o2 : Option Addr) (n1 c1 n2 c2 : Nat) : Calls Try.prog i_pages_Pool_Put #[.pointer none, .int .i64 x, .agg #[.slice o1 n1 c1, .slice o2 n2 c2]] w (Ret fun v w' => v = .int .i64 2 ∧ Ch Non w w') := by
  refine pages_Pool_Put.calls_nil _ _ _ _ _ _ _ ?_
  unfold pages_Pool_Put.vc_nil
  intro w1 e1
  exact ⟨rfl, Ch.alloc e1⟩
theorem Version_nil (w : World) (x : Int) : Calls Try.prog i_pages_Pool_Version #[.pointer none, .int .i64 x] w (Ret fun v w' => v = .int .i64 0 ∧ w' = w) := by
  refine pages_Pool_Version.calls_nil _ ?_
  unfold pages_Pool_Version.vc_nil
  refine step_call (is_nil w x) ?_
  rintro v w1 ⟨rfl, rfl⟩
  exact ⟨_, rfl, iteT rfl ⟨rfl, rfl⟩⟩
theorem Users_nil (w : World) (x : Int) : Calls Try.prog i_pages_Pool_Users #[.pointer none, .int .i64 x] w (Ret fun v w' => v = .int .i64 0 ∧ w' = w) := by
  refine pages_Pool_Users.calls_nil _ ?_
  unfold pages_Pool_Users.vc_nil
  refine step_call (is_nil w x) ?_
  rintro v w1 ⟨rfl, rfl⟩
  exact ⟨_, rfl, iteT rfl ⟨rfl, rfl⟩⟩
theorem Free_nil (w : World) : Calls Try.prog i_pages_Pool_Free #[.pointer none] w (Ret fun v w' => v = .int .i64 0 ∧ w' = w) := by
  refine pages_Pool_Free.calls_nil ?_
  unfold pages_Pool_Free.vc_nil
  refine step_call (Len_nil w) ?_
  rintro v w1 ⟨rfl, rfl⟩
  refine ⟨_, rfl, fun n i k w' => n = 0 ∧ i = 0 ∧ w' = w1, ⟨0, rfl, rfl, rfl⟩, ?_⟩
  rintro jk n i k w2 ⟨rfl, rfl, rfl⟩
  exact iteF rfl ⟨rfl, rfl⟩
theorem Of_nil (w : World) (x : Int) : Calls Try.prog i_pages_Pool_Of #[.pointer none, .int .i64 x] w (Ret fun v w' => v = .slice none 0 0 ∧ w' = w) := by
  refine pages_Pool_Of.calls_nil _ ?_
  unfold pages_Pool_Of.vc_nil
  refine step_call (Len_nil w) ?_
  rintro v w1 ⟨rfl, rfl⟩
  refine ⟨_, rfl, fun oA oN oC i k w' => oA = none ∧ oN = 0 ∧ oC = 0 ∧ i = 0 ∧ w' = w1, ⟨0, rfl, rfl, rfl, rfl, rfl⟩, ?_⟩
  rintro jk oA oN oC i k w2 ⟨rfl, rfl, rfl, rfl, rfl⟩
  exact iteF rfl ⟨rfl, rfl⟩
theorem Get_nil (hr : Rd w o (l.map (.int .i64)) G) (hl : l.length ≤ 1000000) (c : Nat) : Calls Try.prog i_pages_Pool_Get #[.pointer none, .slice o l.length c] w (Ret fun v w' => v = .slice none 0 0 ∧ w' = w) := by
  refine pages_Pool_Get.calls_nil _ _ _ ?_
  unfold pages_Pool_Get.vc_nil
  refine ⟨fun oA oN oC i k w' => oA = none ∧ oN = 0 ∧ oC = 0 ∧ w' = w ∧ ∃ j : Nat, i = j ∧ j ≤ l.length ∧ k = l.length - j, ⟨_, rfl, rfl, rfl, rfl, 0, rfl, Nat.zero_le _, rfl⟩, ?_⟩
  rintro jk oA oN oC i k w2 ⟨rfl, rfl, rfl, rfl, j, rfl, hj, rfl⟩
  refine ⟨fun hlt => ?_, fun hge => ⟨rfl, rfl⟩⟩
  have hlt : j < l.length := by have := of_decide_eq_true hlt; omega
  refine ⟨⟨by omega, by omega⟩, hr.at (j := (j : Int).toNat * 1) (v := .int .i64 l[j]) (by simp [hlt]) fun p hp => ⟨_, hp, ?_⟩⟩
  refine step_call (is_nil w2 _) ?_
  rintro v w3 ⟨rfl, rfl⟩
  exact ⟨_, rfl, iteT rfl ⟨l.length - (j + 1), by omega, rfl, rfl, rfl, rfl, j + 1, by rw [wrap_id (by omega) (by omega)]; rfl, hlt, rfl⟩⟩
theorem isE_spec {p q : Value × Value} {e f : Ent} (hp : EntV w p e F) (hq : EntV w q f G) (hs : small e.1 ∧ small e.2) : Calls Try.prog i_coadjutorlaw22_is #[.agg #[p.1, p.2], .agg #[q.1, q.2]] w (Ret fun v w' => v = .bool (decide (e = f)) ∧ Ch Non w w') := by
  obtain ⟨a, b⟩ := p
  obtain ⟨a', b'⟩ := q
  have k1 := hp
  have k2 := hq
  obtain ⟨⟨o1, c1, vs1, r1, _, _⟩, ⟨o2, c2, vs2, r2, _, _⟩⟩ := hp
  obtain ⟨⟨o3, c3, vs3, r3, _, _⟩, ⟨o4, c4, vs4, r4, _, _⟩⟩ := hq
  dsimp only at r1 r2 r3 r4
  subst r1; subst r2; subst r3; subst r4
  refine coadjutorlaw22_is.calls _ _ _ _ _ _ _ _ _ _ _ _ ?_
  unfold coadjutorlaw22_is.vc
  intro w1 x1 w2 x2
  have hA := (Blk.new x1).alloc x2
  have hB := Blk.new x2
  have hc2 : Ch Non w w2 := (Ch.alloc x1).andN (Ch.alloc x2)
  refine ⟨_, _, _, _, _, _, ⟨hA.cell 0 rfl, hA.cell 1 rfl⟩, _, _, _, hB.cell 0 rfl, _, _, _, hB.cell 1 rfl, ?_⟩
  refine step_call (Same_spec (p := (_, _)) (q := (_, _)) (k1.keepN hc2) (k2.keepN hc2) hs) ?_
  rintro v w3 ⟨rfl, hc3⟩
  exact ⟨_, rfl, rfl, hc2.andN hc3⟩
end
theorem ofL_prefix (ps : List PageD) (v : Int) {j m : Nat} (h : j ≤ m) : ofL ps v j <+: ofL ps v m := by
  induction m with
  | zero => obtain rfl : j = 0 := by omega
            exact List.prefix_rfl
  | succ m ih =>
    by_cases e : j = m + 1
    · subst e; exact List.prefix_rfl
    · rw [ofL_succ]
      exact (ih (by omega)).trans (List.prefix_append _ _)
theorem ofL_at {ps : List PageD} {v : Int} {j n : Nat} (hj : j < n) (hb : isB ps (j : Int) = true) (hv : (pgAt ps (j : Int)).ver = v) : (ofL ps v n)[(ofL ps v j).length]? = some (j : Int) := by
  have h := ofL_prefix ps v (show j + 1 ≤ n by omega)
  have hs := ofL_succ ps v j
  rw [hb, hv] at hs
  simp only [Bool.true_and, beq_self_eq_true, if_true] at hs
  obtain ⟨t, ht⟩ := h
  rw [← ht, hs, List.append_assoc, List.getElem?_append_right (Nat.le_refl _), Nat.sub_self]
  rfl
section
variable {w w' : World} {ub : Nat} {ps : List PageD} {F : Nat → Prop}
theorem FPoolR.look (h : FPoolR w ub ps F) {j : Nat} (hj : j < ps.length) : ∃ (p : Addr) (c : Nat), ∀ w', Ch Non w w' → w'.cell? ⟨ub, 0, none⟩ = some (.slice (some p) ps.length c) ∧ w'.cell? (p.add (j * 3)) = some (.int .i64 ps[j].ver) ∧ w'.cell? ((p.add (j * 3)).add 1) = some (.int .i64 ps[j].users) := by
  obtain ⟨o, c, gs, R, hC, hF, hP⟩ := h
  have hjg : j < gs.length := by rw [hC.len]; exact hj
  obtain ⟨p, hp, _⟩ := hC.at hjg
  refine ⟨p, c, fun w' hc => ?_⟩
  have hC' := hC.keep hc (fun _ _ _ hN => hN)
  obtain ⟨p', hp', _, a1, a2, _⟩ := hC'.at hjg
  rw [hp] at hp'
  have hpp : p = p' := Option.some.inj hp'
  subst hpp
  subst hp
  refine ⟨hC'.blk.cell 0 rfl, ?_, ?_⟩
  · rw [← (hP j hjg hj).1]; exact a1
  · rw [← (hP j hjg hj).2.1]; exact a2
end
/-- Two pools side by side, each with its own part of what was laid since W. -/
structure Both (W w : World) (pb ub : Nat) (ps qs : List PageD) (F FU : Nat → Prop) : Prop where
  p : Pool W w pb ps F
  r : FPoolR w ub qs FU
  f : Foot W w FU
  ap : Apart F FU
section
variable {W w w' : World} {pb ub : Nat} {ps qs ps' qs' : List PageD} {F FU G : Nat → Prop}
theorem Both.keepN (h : Both W w pb ub ps qs F FU) (hc : Ch Non w w') : Both W w' pb ub ps qs F FU := ⟨h.p.keepN hc, h.r.keepN hc, h.f.le hc.size, h.ap⟩
theorem Both.fu (h : Both W w pb ub ps qs F FU) : ∀ i, FU i → i < w.heap.size := fun i hi => (h.f i hi).2
theorem Both.far (h : Both W w pb ub ps qs F FU) (hc : Ch G w w') (hG : ∀ i, G i → i < w.heap.size → W.heap.size ≤ i ∧ ¬ F i ∧ ¬ FU i) : Both W w' pb ub ps qs F FU :=
  ⟨⟨h.p.r.keep hc (fun i hi hF hg => (hG i hg hi).2.1 hF), h.p.f.le hc.size, h.p.c.trans hc (fun i hi hg => by
    by_cases hw : i < w.heap.size
    · have := (hG i hg hw).1; omega
    · have := h.p.c.size; omega)⟩, h.r.keep hc (fun i hi hF hg => (hG i hg hi).2.2 hF), h.f.le hc.size, h.ap⟩
theorem Both.stepP (h : Both W w pb ub ps qs F FU) (hr : PoolR w' pb ps' (Ext F w w')) (hc : Ch F w w') : Both W w' pb ub ps' qs (Ext F w w') FU :=
  ⟨h.p.ext hr hc, h.r.keep hc (fun i _ hu hf => h.ap i hf hu), h.f.le hc.size, fun i h1 h2 => by
    rcases h1 with h1 | h1
    · exact h.ap i h1 h2
    · exact absurd (h.fu i h2) (Nat.not_lt.2 h1.1)⟩
theorem Both.stepP0 (h : Both W w pb ub ps qs F FU) (hr : PoolR w' pb ps' F) (hc : Ch F w w') : Both W w' pb ub ps' qs (Ext F w w') FU := h.stepP (hr.mono (fun i _ hi => .inl hi)) hc
theorem Both.stepE (h : Both W w pb ub ps qs F FU) (hr : FPoolR w' ub qs' (fun i => Ext FU w w' i ∨ G i)) (hc : Ch FU w w') (hG : ∀ i, G i → W.heap.size ≤ i ∧ i < w.heap.size ∧ ¬ F i) : Both W w' pb ub ps qs' F (fun i => Ext FU w w' i ∨ G i) := by
  have hs := h.p.c.size
  refine ⟨⟨h.p.r.keep hc (fun i _ hf hu => h.ap i hf hu), h.p.f.le hc.size, h.f.hi h.p.c hc⟩, hr, fun i hi => ?_, fun i h1 h2 => ?_⟩
  · rcases hi with (hi | hi) | hi
    · exact ⟨(h.f i hi).1, Nat.lt_of_lt_of_le (h.f i hi).2 hc.size⟩
    · exact ⟨by have := hi.1; omega, hi.2⟩
    · exact ⟨(hG i hi).1, Nat.lt_of_lt_of_le (hG i hi).2.1 hc.size⟩
  · rcases h2 with (h2 | h2) | h2
    · exact h.ap i h1 h2
    · exact absurd (h.p.lt i h1) (Nat.not_lt.2 h2.1)
    · exact (hG i h2).2.2 h1
theorem Both.stepR (h : Both W w pb ub ps qs F FU) (hr : FPoolR w' ub qs' (Ext FU w w')) (hc : Ch FU w w') : Both W w' pb ub ps qs' F (fun i => Ext FU w w' i ∨ Non i) := h.stepE (hr.mono (fun i _ hi => .inl hi)) hc (fun i hi => hi.elim)
end
end Go.Proofs.Ytpcddfhfchempaa.Pages
