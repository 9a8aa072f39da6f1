/- For every index of beginnings in memory: where one stands, and what is left without one; the conditions stand in each theorem. -/
import Derived.Test.YtpcddfhfchempaaPagesLaw5
import Derived.Test.YtpcddfhfchempaaCut
import Derived.Test.YtpcddfhfchempaaVcPrefix
set_option linter.unusedVariables false
set_option linter.unusedSimpArgs false
namespace Go.Proofs.Ytpcddfhfchempaa.Prefix
open Go Go.Proofs Go.Proofs.Ytpcddfhfchempaa.V Go.Proofs.Ytpcddfhfchempaa.Vc Go.Proofs.Ytpcddfhfchempaa.Step Go.Proofs.Ytpcddfhfchempaa.Pages Go.RowKit

/-- A beginning, and its page. -/
structure EntD where
  ver : Int
  toks : List Int
  page : Int
/-- Its cells. -/
structure EcC where
  ver : Int
  to : Option Addr
  tn : Nat
  tc : Nat
  page : Int
def ecE (g : EcC) : List Value := [.int .i64 g.ver, .slice g.to g.tn g.tc, .int .i64 g.page]
def EcR (w : World) (g : EcC) (e : EntD) (Fd : Nat → Prop) : Prop := g.ver = e.ver ∧ g.page = e.page ∧ g.tn = e.toks.length ∧ Rd w g.to (e.toks.map (.int .i64)) Fd ∧ e.toks.length ≤ 1000
theorem EcR.keep {w w' : World} {g : EcC} {e : EntD} {Fd G : Nat → Prop} (h : EcR w g e Fd) (hc : Ch G w w') (hd : ∀ i, i < w.heap.size → Fd i → ¬ G i) : EcR w' g e Fd := ⟨h.1, h.2.1, h.2.2.1, h.2.2.2.1.keep hc hd, h.2.2.2.2⟩
theorem EcR.keepN {w w' : World} {g : EcC} {e : EntD} {Fd : Nat → Prop} (h : EcR w g e Fd) (hc : Ch Non w w') : EcR w' g e Fd := h.keep hc (fun _ _ _ => id)
theorem EcR.mono {w : World} {g : EcC} {e : EntD} {Fd G : Nat → Prop} (h : EcR w g e Fd) (hg : ∀ i, i < w.heap.size → Fd i → G i) : EcR w g e G := ⟨h.1, h.2.1, h.2.2.1, h.2.2.2.1.mono hg, h.2.2.2.2⟩
structure IdxC (w : World) (xb pb : Nat) (o : Option Addr) (c : Nat) (gs : List EcC) (R : Nat → Nat → Prop) (n : Nat) : Prop where
  fam : Fam w R
  z : R 0 xb
  blk : Blk w xb [.pointer (some ⟨pb, 0, none⟩), .slice o n c] t_prefix_Index
  own : Own w t_prefix_entry 3 o n c (gs.map ecE).flatten (R 1)
  len : gs.length = n
/-- An index, all of it in F. -/
def IdxR (w : World) (xb pb : Nat) (es : List EntD) (F : Nat → Prop) : Prop :=
  ∃ (o : Option Addr) (c : Nat) (gs : List EcC) (R : Nat → Nat → Prop), IdxC w xb pb o c gs R es.length ∧ (∀ k i, R k i → F i) ∧ All2 (fun g e => EcR w g e (R 2)) gs es
def hasB (v : Int) (t : List Int) (e : EntD) : Bool := (e.ver == v) && decide (e.toks = t)
def findI (es : List EntD) (v : Int) (t : List Int) : Int := if es.findIdx (hasB v t) < es.length then (es.findIdx (hasB v t) : Int) else -1
section
variable {w w' : World} {xb pb : Nat} {o : Option Addr} {c n : Nat} {gs : List EcC} {R : Nat → Nat → Prop} {es : List EntD} {F G Fa Fd : Nat → Prop} {t : List Int}
theorem IdxC.keep (h : IdxC w xb pb o c gs R n) (hc : Ch G w w') (hd : ∀ k i, R k i → ¬ G i) : IdxC w' xb pb o c gs R n :=
  ⟨h.fam.le hc.size, h.z, h.blk.keep hc (hd 0 xb h.z), h.own.keep hc (fun i _ hi => hd 1 i hi), h.len⟩
theorem IdxR.keep (h : IdxR w xb pb es F) (hc : Ch G w w') (hd : ∀ i, i < w.heap.size → F i → ¬ G i) : IdxR w' xb pb es F := by
  obtain ⟨o, c, gs, R, hC, hF, hP⟩ := h
  have hd' : ∀ k i, R k i → ¬ G i := fun k i hi => hd i (hC.fam.1 k i hi) (hF k i hi)
  exact ⟨o, c, gs, R, hC.keep hc hd', hF, hP.imp (fun _ _ k => k.keep hc (fun j _ hj => hd' _ j hj))⟩
theorem IdxR.keepN (h : IdxR w xb pb es F) (hc : Ch Non w w') : IdxR w' xb pb es F := h.keep hc (fun _ _ _ => id)
theorem IdxR.mono (h : IdxR w xb pb es F) (hg : ∀ i, i < w.heap.size → F i → G i) : IdxR w xb pb es G := by
  obtain ⟨o, c, gs, R, hC, hF, hP⟩ := h
  exact ⟨o, c, gs, R, hC, fun k i hi => hg i (hC.fam.1 k i hi) (hF k i hi), hP⟩
theorem IdxR.lt (h : IdxR w xb pb es F) : xb < w.heap.size ∧ F xb := by
  obtain ⟨o, c, gs, R, hC, hF, hP⟩ := h
  exact ⟨hC.blk.lt, hF 0 xb hC.z⟩
theorem find_c1_spec {g : EcC} {e : EntD} {c0 c1 T0 T1 tc : Nat} {v : Int} {to : Option Addr} (he : EcR w g e Fd) (h0 : Blk w c0 [.int .i64 v] T0) (h1 : Blk w c1 [.slice to t.length tc] T1) (ht : Rd w to (t.map (.int .i64)) G) :
    Calls Try.prog i_prefix_Index_find_c1 #[.agg #[.int .i64 g.ver, .slice g.to g.tn g.tc, .int .i64 g.page], .pointer (some ⟨c0, 0, none⟩), .pointer (some ⟨c1, 0, none⟩)] w (Ret fun x w' => x = .bool (hasB v t e) ∧ Ch Non w w') := by
  obtain ⟨a1, a2, a3, a4, a5⟩ := he
  refine prefix_Index_find_c1.calls _ _ _ _ _ _ _ ?_
  unfold prefix_Index_find_c1.vc hasB
  intro w1 e1
  have hE := Blk.new e1
  have hc : Ch Non w w1 := Ch.alloc e1
  rw [← a1]
  refine ⟨_, hE.cell 0 rfl, _, (h0.keepN hc).cell 0 rfl, fun hb => ?_, fun hb => ?_⟩
  · refine ⟨_, _, _, hE.cell 1 rfl, _, _, _, (h1.keepN hc).cell 0 rfl, ?_⟩
    rw [a3]
    refine step_call (Equal_spec (a4.keepN hc) (ht.keepN hc) (by omega)) ?_
    rintro x w2 ⟨rfl, hc2⟩
    exact ⟨_, rfl, by rw [hb, Bool.true_and], hc.andN hc2⟩
  · exact ⟨by rw [hb, Bool.false_and], hc⟩
theorem Index_fi_spec {p : EntD → Bool} {c0 c1 : Nat} (hO : Own w t_prefix_entry 3 o n c (gs.map ecE).flatten Fa) (hl : gs.length = n) (hA : All2 (fun g e => EcR w g e Fd) gs es)
    (hcl : ∀ w', Ch Non w w' → ∀ g e, EcR w' g e Fd → Calls Try.prog i_prefix_Index_find_c1 #[.agg #[.int .i64 g.ver, .slice g.to g.tn g.tc, .int .i64 g.page], .pointer (some ⟨c0, 0, none⟩), .pointer (some ⟨c1, 0, none⟩)] w' (Ret fun x w'' => x = .bool (p e) ∧ Ch Non w' w'')) :
    Calls Try.prog 71 #[.slice o n c, .func (.func i_prefix_Index_find_c1) #[] #[.pointer (some ⟨c0, 0, none⟩), .pointer (some ⟨c1, 0, none⟩)]] w
      (Ret fun v w' => v = .int .i64 (if es.findIdx p < es.length then (es.findIdx p : Int) else -1) ∧ Ch Non w w') := by
  refine slices_IndexFunc.calls_fi _ _ _ _ _ ?_
  unfold slices_IndexFunc.vc_fi
  have hml : gs.length ≤ maxLen := by rw [hl]; exact Nat.le_trans hO.2.1 hO.2.2.1
  unfold maxLen at hml
  refine ⟨fun i k w' => Ch Non w w' ∧ ∃ j : Nat, i = j ∧ j ≤ gs.length ∧ k = gs.length - j ∧ ∀ m (hm : m < j) (h : m < es.length), p es[m] = false, ⟨_, Ch.refl _ _, 0, rfl, Nat.zero_le _, rfl, fun m hm => by omega⟩, ?_⟩
  rintro jk i k w1 ⟨hc, j, rfl, hj, rfl, hno⟩
  have hge := hA.length
  subst hl
  refine ⟨fun hlt => ?_, fun hge2 => ?_⟩
  · have hlt : j < gs.length := by have := of_decide_eq_true hlt; omega
    have hlt2 : j < es.length := by omega
    obtain ⟨q, hq, _, _, hcell⟩ := (hO.keepN hc).rd.elem (sz := 3) (enc := ecE) (fun _ => rfl) (by omega) hlt
    subst hq
    have c0 := hcell 0 _ rfl
    rw [add_none] at c0
    refine ⟨⟨by omega, by omega⟩, _, _, _, _, _, ⟨c0, hcell 1 _ rfl, hcell 2 _ rfl⟩, ?_⟩
    refine step_call (hcl w1 hc _ _ ((hA.get j hlt hlt2).keepN hc)) ?_
    rintro v w2 ⟨rfl, hc2⟩
    refine ⟨_, rfl, fun hb => ?_, fun hb => ?_⟩
    · have hidx : es.findIdx p = j := (List.findIdx_eq hlt2).2 ⟨hb, fun m hm => hno m hm (by omega)⟩
      rw [hidx, if_pos hlt2]
      exact ⟨rfl, hc.andN hc2⟩
    · refine ⟨gs.length - (j + 1), by omega, hc.andN hc2, j + 1, by rw [wrap_id (by omega) (by omega)]; rfl, hlt, rfl, fun m hm h => ?_⟩
      by_cases hmj : m = j
      · subst hmj; exact hb
      · exact hno m (by omega) h
  · have : j = gs.length := by have := of_decide_eq_false hge2; omega
    have hidx : es.findIdx p = es.length := List.findIdx_eq_length.2 (fun g hg => by
      obtain ⟨m, hm, rfl⟩ := List.getElem_of_mem hg
      exact hno m (by omega) hm)
    rw [hidx, if_neg (Nat.lt_irrefl _)]
    exact ⟨rfl, hc⟩
theorem Index_ev_spec {p : EntD → Bool} {c0 : Nat} (hO : Own w t_prefix_entry 3 o n c (gs.map ecE).flatten Fa) (hl : gs.length = n) (hA : All2 (fun g e => EcR w g e Fd) gs es)
    (hcl : ∀ w', Ch Non w w' → ∀ g e, EcR w' g e Fd → Calls Try.prog i_prefix_Index_Evict_c1 #[.agg #[.int .i64 g.ver, .slice g.to g.tn g.tc, .int .i64 g.page], .pointer (some ⟨c0, 0, none⟩)] w' (Ret fun x w'' => x = .bool (p e) ∧ Ch Non w' w'')) :
    Calls Try.prog 71 #[.slice o n c, .func (.func i_prefix_Index_Evict_c1) #[] #[.pointer (some ⟨c0, 0, none⟩)]] w
      (Ret fun v w' => v = .int .i64 (if es.findIdx p < es.length then (es.findIdx p : Int) else -1) ∧ Ch Non w w') := by
  refine slices_IndexFunc.calls_ev _ _ _ _ ?_
  unfold slices_IndexFunc.vc_ev
  have hml : gs.length ≤ maxLen := by rw [hl]; exact Nat.le_trans hO.2.1 hO.2.2.1
  unfold maxLen at hml
  refine ⟨fun i k w' => Ch Non w w' ∧ ∃ j : Nat, i = j ∧ j ≤ gs.length ∧ k = gs.length - j ∧ ∀ m (hm : m < j) (h : m < es.length), p es[m] = false, ⟨_, Ch.refl _ _, 0, rfl, Nat.zero_le _, rfl, fun m hm => by omega⟩, ?_⟩
  rintro jk i k w1 ⟨hc, j, rfl, hj, rfl, hno⟩
  have hge := hA.length
  subst hl
  refine ⟨fun hlt => ?_, fun hge2 => ?_⟩
  · have hlt : j < gs.length := by have := of_decide_eq_true hlt; omega
    have hlt2 : j < es.length := by omega
    obtain ⟨q, hq, _, _, hcell⟩ := (hO.keepN hc).rd.elem (sz := 3) (enc := ecE) (fun _ => rfl) (by omega) hlt
    subst hq
    have c0 := hcell 0 _ rfl
    rw [add_none] at c0
    refine ⟨⟨by omega, by omega⟩, _, _, _, _, _, ⟨c0, hcell 1 _ rfl, hcell 2 _ rfl⟩, ?_⟩
    refine step_call (hcl w1 hc _ _ ((hA.get j hlt hlt2).keepN hc)) ?_
    rintro v w2 ⟨rfl, hc2⟩
    refine ⟨_, rfl, fun hb => ?_, fun hb => ?_⟩
    · have hidx : es.findIdx p = j := (List.findIdx_eq hlt2).2 ⟨hb, fun m hm => hno m hm (by omega)⟩
      rw [hidx, if_pos hlt2]
      exact ⟨rfl, hc.andN hc2⟩
    · refine ⟨gs.length - (j + 1), by omega, hc.andN hc2, j + 1, by rw [wrap_id (by omega) (by omega)]; rfl, hlt, rfl, fun m hm h => ?_⟩
      by_cases hmj : m = j
      · subst hmj; exact hb
      · exact hno m (by omega) h
  · have : j = gs.length := by have := of_decide_eq_false hge2; omega
    have hidx : es.findIdx p = es.length := List.findIdx_eq_length.2 (fun g hg => by
      obtain ⟨m, hm, rfl⟩ := List.getElem_of_mem hg
      exact hno m (by omega) hm)
    rw [hidx, if_neg (Nat.lt_irrefl _)]
    exact ⟨rfl, hc⟩
theorem find_spec (h : IdxR w xb pb es F) {to : Option Addr} (ht : Rd w to (t.map (.int .i64)) G) (v : Int) (tc : Nat) :
    Calls Try.prog i_prefix_Index_find #[.pointer (some ⟨xb, 0, none⟩), .int .i64 v, .slice to t.length tc] w (Ret fun x w' => x = .int .i64 (findI es v t) ∧ Ch Non w w') := by
  obtain ⟨o, c, gs, R, hC, hF, hP⟩ := h
  refine prefix_Index_find.calls _ _ _ _ _ ?_
  unfold prefix_Index_find.vc
  intro w1 e1 w2 e2
  have hA := (Blk.new e1).alloc e2
  have hB := Blk.new e2
  have hc2 : Ch Non w w2 := (Ch.alloc e1).andN (Ch.alloc e2)
  have hC2 := hC.keep hc2 (fun _ _ _ hN => hN)
  refine ⟨_, _, _, hC2.blk.cell 1 rfl, ?_⟩
  refine step_call (Index_fi_spec (p := hasB v t) hC2.own hC2.len (hP.imp (fun _ _ k => k.keepN hc2)) (fun w' hc g e he => find_c1_spec he (hA.keepN hc) (hB.keepN hc) ((ht.keepN hc2).keepN hc))) ?_
  rintro x w3 ⟨rfl, hc3⟩
  exact ⟨_, rfl, rfl, hc2.andN hc3⟩
theorem isBeginning_spec (w : World) (n : Int) (h : 0 ≤ n) : Calls Try.prog i_prefix_isBeginning #[.int .i64 n] w (Ret fun v w' => v = .bool (decide (0 < n ∧ n ≤ 32 ∧ n % 4 = 0)) ∧ w' = w) := by
  refine prefix_isBeginning.calls _ ?_
  unfold prefix_isBeginning.vc
  refine ⟨fun h1 => ⟨fun h2 => ⟨by decide, ?_, rfl⟩, fun h2 => ⟨?_, rfl⟩⟩, fun h1 => ⟨?_, rfl⟩⟩
  · have h1 := of_decide_eq_true h1
    have h2 := of_decide_eq_true h2
    rw [tmod_pos h]
    congr 1
    by_cases h3 : n % 4 = 0
    · rw [decide_eq_true ⟨h1, h2, h3⟩]; simp [h3]
    · rw [decide_eq_false (fun k => h3 k.2.2)]; simpa using h3
  · have h2 := of_decide_eq_false h2
    rw [decide_eq_false (fun k => h2 k.2.1)]
  · have h1 := of_decide_eq_false h1
    rw [decide_eq_false (fun k => h1 k.1)]
theorem Len_spec (h : IdxR w xb pb es F) : Calls Try.prog i_prefix_Index_Len #[.pointer (some ⟨xb, 0, none⟩)] w (Ret fun v w' => v = .int .i64 es.length ∧ w' = w) := by
  obtain ⟨o, c, gs, R, hC, hF, hP⟩ := h
  refine prefix_Index_Len.calls _ ?_
  unfold prefix_Index_Len.vc
  exact ⟨_, _, _, hC.blk.cell 1 rfl, rfl, rfl⟩
theorem Has_spec (h : IdxR w xb pb es F) {to : Option Addr} (ht : Rd w to (t.map (.int .i64)) G) (v : Int) (tc : Nat) :
    Calls Try.prog i_prefix_Index_Has #[.pointer (some ⟨xb, 0, none⟩), .int .i64 v, .slice to t.length tc] w (Ret fun x w' => x = .bool (decide (findI es v t ≥ 0)) ∧ Ch Non w w') := by
  refine prefix_Index_Has.calls _ _ _ _ _ ?_
  unfold prefix_Index_Has.vc
  refine step_call (find_spec h ht v tc) ?_
  rintro x w1 ⟨rfl, hc⟩
  exact ⟨_, rfl, rfl, hc⟩
theorem ec_one (gs : List EcC) : ∀ u ∈ (gs.map ecE).flatten, u.oneCell' = true := fun u hu => by
  obtain ⟨l, hl, hu⟩ := List.mem_flatten.1 hu
  obtain ⟨g, _, rfl⟩ := List.mem_map.1 hl
  simp only [ecE, List.mem_cons, List.not_mem_nil, or_false] at hu
  rcases hu with rfl | rfl | rfl <;> rfl
/-- slices.Delete(s, i, i+1) -/
theorem Delete_spec (hO : Own w t_prefix_entry 3 o n c (gs.map ecE).flatten Fa) (hl : gs.length = n) {i : Nat} (hi : i < n) (hn : n ≤ 1000000) :
    Calls Try.prog i_slices_Delete #[.slice o n c, .int .i64 i, .int .i64 (IntKind.i64.wrap ((i : Int) + 1))] w (Ret fun v w' => v = .slice o (n - 1) c ∧ Own w' t_prefix_entry 3 o (n - 1) c ((gs.eraseIdx i).map ecE).flatten Fa ∧ Ch Fa w w') := by
  refine slices_Delete.calls _ _ _ _ _ ?_
  unfold slices_Delete.vc
  have hnc := hO.2.1
  rw [wrap_id (by omega) (by omega)]
  refine ⟨⟨by omega, by omega, by omega, by omega⟩, iteF (by simp; omega) ?_⟩
  refine ⟨fun _ => True, fun w1 e1 => ⟨trivial, ⟨by omega, by omega⟩, ⟨by omega, by omega⟩, ?_⟩⟩
  have hO1 := hO.keepN (Ch.drew e1)
  have hi1 : ((i : Int) + 1).toNat = i + 1 := by omega
  have hi0 : (i : Int).toNat = i := by omega
  rw [hi1, hi0]
  obtain ⟨w2, hr2, hO2, hc2⟩ := hO1.cut el_S_prefix_entry (i := i) (j := i + 1) (by omega) (by omega) (ec_one gs) t_S_prefix_entry
  refine ⟨_, _, _, w2, hr2, trivial, ⟨by omega, by omega, by omega⟩, ?_⟩
  have hk : i + (n - (i + 1)) = n - 1 := by omega
  rw [hk] at hO2 ⊢
  have hz : zeroB Try.prog t_prefix_entry = true := by kernel_rfl
  obtain ⟨x, w3, hr3, hO3, hc3⟩ := hO2.clear el_S_prefix_entry hz (i := n - 1) (by omega) 0
  have e1' : ((n - 1 : Nat) : Int).toNat = n - 1 := Int.toNat_natCast _
  have e2' : ((n : Nat) : Int).toNat = n := Int.toNat_natCast _
  refine ⟨x, w3, by rw [e1', e2']; exact hr3, rfl, ?_, ((Ch.drew (F := Fa) e1).same hc2).same hc3⟩
  have hlen : ((gs.map ecE).flatten.take (i * 3) ++ (gs.map ecE).flatten.drop ((i + 1) * 3)).length = (n - 1) * 3 := by
    have := hO.1
    rw [List.length_append, List.length_take, List.length_drop, this]; omega
  rw [List.take_append, List.take_of_length_le (by omega), hlen, Nat.sub_self, List.take_zero, List.append_nil] at hO3
  rw [eraseIdx_td, List.map_append, List.flatten_append, ← flatten_take (enc := ecE) (sz := 3) (fun _ => rfl), ← flatten_drop (enc := ecE) (sz := 3) (fun _ => rfl)]
  exact hO3
end
end Go.Proofs.Ytpcddfhfchempaa.Prefix
