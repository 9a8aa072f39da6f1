/- For every token's walk in the document's form: what its entry and its rows of keys and values have in their cells as they grow; the conditions stand in each theorem. -/
import Derived.Test.YtbadkcnemcnhfaaGreatDoorRefS
import Derived.Test.YtbadkcnemcnhfaaGreatDoorStpR
set_option linter.unusedVariables false
set_option linter.unusedSimpArgs false
namespace Go.Proofs.YtbadkcnemcnhfaaGreatDoor.RefS
open Go Go.Proofs Go.Proofs.YtbadkcnemcnhfaaGreatDoor.V Go.Proofs.YtbadkcnemcnhfaaGreatDoor.Vc Go.Proofs.YtbadkcnemcnhfaaGreatDoor.Conf Go.Proofs.YtbadkcnemcnhfaaGreatDoor.Brain Go.Proofs.YtbadkcnemcnhfaaGreatDoor.Num Go.Proofs.YtbadkcnemcnhfaaGreatDoor.Stp Go.Proofs.YtbadkcnemcnhfaaGreatDoor.RefM Go.RowKit

/-- An entry that grows. -/
structure SkR (W w : World) (eb : Nat) (Ks Vs : List (List Int)) (A B : Nat → Prop) : Prop where
  ex : ∃ (oK : Option Addr) (cK : Nat) (uK : List Value) (oV : Option Addr) (cV : Nat) (uV : List Value),
    Blk w eb [.slice oK Ks.length cK, .slice oV Vs.length cV] t_coadjutorref17_Entry ∧
    V.Own w t_S_int 1 oK Ks.length cK uK A ∧ All2 (fun u xs => IV w u xs (RR W w eb A B)) uK Ks ∧ V.Own w t_S_int 1 oV Vs.length cV uV B ∧ All2 (fun u xs => IV w u xs (RR W w eb A B)) uV Vs
  a : ∀ i, A i → New W w i ∧ i ≠ eb ∧ ¬ B i
  b : ∀ i, B i → New W w i ∧ i ≠ eb
  n : W.heap.size ≤ eb ∧ eb < w.heap.size
  ch : Ch Non W w
/-- Rows of keys and of values that grow; their rows are of the world W. -/
structure KV (W w : World) (kA : Option Addr) (kC : Nat) (kss : List (List Int)) (vA : Option Addr) (vC : Nat) (vss : List (List Int)) (AK AV : Nat → Prop) : Prop where
  k : ∃ ku, V.Own w t_S_int 1 kA kss.length kC ku AK ∧ All2 (fun u xs => IV W u xs (fun _ => True)) ku kss
  v : ∃ vu, V.Own w t_S_int 1 vA vss.length vC vu AV ∧ All2 (fun u xs => IV W u xs (fun _ => True)) vu vss
  ka : ∀ i, AK i → New W w i ∧ ¬ AV i
  va : ∀ i, AV i → New W w i
  ch : Ch Non W w
section
variable {W w w' : World} {eb : Nat} {Ks Vs kss vss : List (List Int)} {A B AK AV F : Nat → Prop} {u : Value} {r : List Int} {kA vA : Option Addr} {kC vC : Nat} {c : CfD} {wt : ByteArray}
theorem SkR.keepN (h : SkR W w eb Ks Vs A B) (hc : Ch Non w w') : SkR W w' eb Ks Vs A B := by
  obtain ⟨⟨oK, cK, uK, oV, cV, uV, h1, h3, h4, h5, h6⟩, ha, hb, hn, hch⟩ := h
  have hs := hc.size
  have hR : ∀ i, i < w.heap.size → RR W w eb A B i → RR W w' eb A B i := fun i hi h => RR.le hs (fun _ h => .inl h) (fun _ h => .inl h) hi h
  exact ⟨⟨oK, cK, uK, oV, cV, uV, h1.keepN hc, h3.keepN hc, All2.iv h4 hc (fun _ _ _ => id) hR, h5.keepN hc, All2.iv h6 hc (fun _ _ _ => id) hR⟩,
    fun i hi => ⟨⟨(ha i hi).1.1, by have := (ha i hi).1.2; omega⟩, (ha i hi).2⟩, fun i hi => ⟨⟨(hb i hi).1.1, by have := (hb i hi).1.2; omega⟩, (hb i hi).2⟩, ⟨hn.1, by omega⟩, hch.andN hc⟩
theorem SkR.pushK (h : SkR W w eb Ks Vs A B) (hu : IV w u r (RR W w eb A B)) (hl : Ks.length ≤ 1000) {oX : Option Addr} {nX cX : Nat} {ov : Value} (hBl : Blk w eb [.slice oX nX cX, ov] t_coadjutorref17_Entry) {w1 : World} (e1 : w1 = w.alloc (.cells #[u] t_S_int (0, 0))) :
    ∃ (o' : Option Addr) (c' : Nat) (w' : World), (Builtin.append_ #[t_S_S_int, t_S_S_int] t_S_S_int #[.slice oX nX cX, .slice (some ⟨w.heap.size, 0, none⟩) 1 1]).run Tryz.prog w1 = .ok (.slice o' (Ks.length + 1) c') w' ∧ Ch A w w' ∧ Blk w' eb [.slice oX nX cX, ov] t_coadjutorref17_Entry ∧
      ∀ w'', w'' = w'.setCell ⟨eb, 0, none⟩ (.slice o' (Ks.length + 1) c') → ∃ X', SkR W w'' eb (Ks ++ [r]) Vs X' B ∧ Ch (fun i => A i ∨ i = eb) w w'' ∧ (∀ i, X' i → A i ∨ w.heap.size ≤ i) := by
  obtain ⟨⟨oK0, cK0, uK, oV0, cV0, uV, h1, h3, h4, h5, h6⟩, ha, hb, hn, hch⟩ := h
  have he : (Obj.cells #[.slice oK0 Ks.length cK0, .slice oV0 Vs.length cV0] t_coadjutorref17_Entry (0, 0)) = .cells #[.slice oX nX cX, ov] t_coadjutorref17_Entry (0, 0) := Option.some.inj (h1.symm.trans hBl)
  injection he with he
  have he := congrArg Array.toList he
  simp only [List.cons.injEq, Value.slice.injEq, and_true, true_and] at he
  obtain ⟨⟨rfl, rfl, rfl⟩, rfl⟩ := he
  obtain ⟨o', c', w', hr, hO, hc⟩ := V.Own.push el_S_S_int h3 t_S_S_int e1 rfl (by simp [IV.one hu]) (by unfold maxLen; omega) (by omega)
  have hwX : ¬ A eb := fun k => (ha _ k).2.1 rfl
  have hB' := h1.keep hc hwX
  refine ⟨o', c', w', hr, hc, hB', fun w2 e2 => ?_⟩
  have hB2 := hB'.set e2
  have hc2 : Ch (· = eb) w' w2 := Ch.set e2 rfl
  have hs2 : w2.heap.size = w'.heap.size := by subst e2; simp [World.setCell]
  have hs := hc.size
  have hsW := hch.size
  have hn2 := hn.2
  have hc02 : Ch (fun i => A i ∨ i = eb) w w2 := (hc.mono (fun i _ h => .inl h)).same (hc2.mono (fun i _ h => .inr h))
  have hXn : ∀ i, A i → New W w i := fun i h => (ha i h).1
  have hcW : Ch Non W w2 := hch.trans hc02 (fun i hi h => by
    rcases h with h | h
    · have := (hXn i h).1; omega
    · have := hn.1; omega)
  have hR : ∀ i, i < w.heap.size → RR W w eb A B i → RR W w2 eb (Ext A w w') B i := fun i hi h => RR.le (by omega) (fun i h => by
    rcases h with h | h
    · exact .inl h
    · exact .inr ⟨h.1, by have := h.2; omega⟩) (fun _ h => .inl h) hi h
  have hRd : ∀ i, i < w.heap.size → RR W w eb A B i → ¬ (A i ∨ i = eb) := fun i hi h k => k.elim h.2.2.1 h.2.1
  have hK4 := All2.iv h4 hc02 hRd hR
  have hV4 := All2.iv h6 hc02 hRd hR
  have hu2 : IV w2 u r (RR W w2 eb (Ext A w w') B) := ((hu.mono (fun i hi h => (⟨hR i hi h, h⟩ : _ ∧ RR W w eb A B i))).keep hc02 (fun i hi h => hRd i hi h.2)).mono (fun i _ h => h.1)
  have hO2 : V.Own w2 t_S_int 1 o' (Ks.length + 1) c' (uK ++ [u]) (Ext A w w') := hO.keep hc2 (fun i _ h k => by
    rcases h with h | h
    · exact hwX (k ▸ h)
    · have := h.1; omega)
  refine ⟨Ext A w w', ⟨⟨_, _, _, _, _, _, ?_, by rw [List.length_append]; exact hO2, hK4.snoc hu2, h5.keep hc02 (fun i _ h k => by
    rcases k with k | k
    · exact (ha i k).2.2 h
    · exact (hb i h).2 k), hV4⟩, ?_, ?_, ⟨hn.1, by omega⟩, hcW⟩, hc02, fun i hi => hi.imp id (fun h => h.1)⟩
  · rw [List.length_append]; exact hB2
  · intro i hi
    rcases hi with hi | hi
    · exact ⟨⟨(ha i hi).1.1, by have := (ha i hi).1.2; omega⟩, (ha i hi).2⟩
    · exact ⟨⟨by have := hi.1; omega, by have := hi.2; omega⟩, by have := hi.1; omega, fun k => by have := (hb i k).1.2; have := hi.1; omega⟩
  · intro i hi
    exact ⟨⟨(hb i hi).1.1, by have := (hb i hi).1.2; omega⟩, (hb i hi).2⟩
theorem SkR.pushV (h : SkR W w eb Ks Vs A B) (hu : IV w u r (RR W w eb A B)) (hl : Vs.length ≤ 1000) {oX : Option Addr} {nX cX : Nat} {ov : Value} (hBl : Blk w eb [ov, .slice oX nX cX] t_coadjutorref17_Entry) {w1 : World} (e1 : w1 = w.alloc (.cells #[u] t_S_int (0, 0))) :
    ∃ (o' : Option Addr) (c' : Nat) (w' : World), (Builtin.append_ #[t_S_S_int, t_S_S_int] t_S_S_int #[.slice oX nX cX, .slice (some ⟨w.heap.size, 0, none⟩) 1 1]).run Tryz.prog w1 = .ok (.slice o' (Vs.length + 1) c') w' ∧ Ch B w w' ∧ Blk w' eb [ov, .slice oX nX cX] t_coadjutorref17_Entry ∧
      ∀ w'', w'' = w'.setCell ⟨eb, 1, none⟩ (.slice o' (Vs.length + 1) c') → ∃ X', SkR W w'' eb Ks (Vs ++ [r]) A X' ∧ Ch (fun i => B i ∨ i = eb) w w'' ∧ (∀ i, X' i → B i ∨ w.heap.size ≤ i) := by
  obtain ⟨⟨oK0, cK0, uK, oV0, cV0, uV, h1, h3, h4, h5, h6⟩, ha, hb, hn, hch⟩ := h
  have he : (Obj.cells #[.slice oK0 Ks.length cK0, .slice oV0 Vs.length cV0] t_coadjutorref17_Entry (0, 0)) = .cells #[ov, .slice oX nX cX] t_coadjutorref17_Entry (0, 0) := Option.some.inj (h1.symm.trans hBl)
  injection he with he
  have he := congrArg Array.toList he
  simp only [List.cons.injEq, Value.slice.injEq, and_true, true_and] at he
  obtain ⟨rfl, rfl, rfl, rfl⟩ := he
  obtain ⟨o', c', w', hr, hO, hc⟩ := V.Own.push el_S_S_int h5 t_S_S_int e1 rfl (by simp [IV.one hu]) (by unfold maxLen; omega) (by omega)
  have hwX : ¬ B eb := fun k => (hb _ k).2 rfl
  have hB' := h1.keep hc hwX
  refine ⟨o', c', w', hr, hc, hB', fun w2 e2 => ?_⟩
  have hB2 := hB'.set e2
  have hc2 : Ch (· = eb) w' w2 := Ch.set e2 rfl
  have hs2 : w2.heap.size = w'.heap.size := by subst e2; simp [World.setCell]
  have hs := hc.size
  have hsW := hch.size
  have hn2 := hn.2
  have hc02 : Ch (fun i => B i ∨ i = eb) w w2 := (hc.mono (fun i _ h => .inl h)).same (hc2.mono (fun i _ h => .inr h))
  have hXn : ∀ i, B i → New W w i := fun i h => (hb i h).1
  have hcW : Ch Non W w2 := hch.trans hc02 (fun i hi h => by
    rcases h with h | h
    · have := (hXn i h).1; omega
    · have := hn.1; omega)
  have hR : ∀ i, i < w.heap.size → RR W w eb A B i → RR W w2 eb A (Ext B w w') i := fun i hi h => RR.le (by omega) (fun _ h => .inl h) (fun i h => by
    rcases h with h | h
    · exact .inl h
    · exact .inr ⟨h.1, by have := h.2; omega⟩) hi h
  have hRd : ∀ i, i < w.heap.size → RR W w eb A B i → ¬ (B i ∨ i = eb) := fun i hi h k => k.elim h.2.2.2 h.2.1
  have hK4 := All2.iv h4 hc02 hRd hR
  have hV4 := All2.iv h6 hc02 hRd hR
  have hu2 : IV w2 u r (RR W w2 eb A (Ext B w w')) := ((hu.mono (fun i hi h => (⟨hR i hi h, h⟩ : _ ∧ RR W w eb A B i))).keep hc02 (fun i hi h => hRd i hi h.2)).mono (fun i _ h => h.1)
  have hO2 : V.Own w2 t_S_int 1 o' (Vs.length + 1) c' (uV ++ [u]) (Ext B w w') := hO.keep hc2 (fun i _ h k => by
    rcases h with h | h
    · exact hwX (k ▸ h)
    · have := h.1; omega)
  refine ⟨Ext B w w', ⟨⟨_, _, _, _, _, _, ?_, h3.keep hc02 (fun i _ h k => by
    rcases k with k | k
    · exact (ha i h).2.2 k
    · exact (ha i h).2.1 k), hK4, by rw [List.length_append]; exact hO2, hV4.snoc hu2⟩, ?_, ?_, ⟨hn.1, by omega⟩, hcW⟩, hc02, fun i hi => hi.imp id (fun h => h.1)⟩
  · rw [List.length_append]; exact hB2
  · intro i hi
    exact ⟨⟨(ha i hi).1.1, by have := (ha i hi).1.2; omega⟩, (ha i hi).2.1, fun k => by
      rcases k with k | k
      · exact (ha i hi).2.2 k
      · have := (ha i hi).1.2; have := k.1; omega⟩
  · intro i hi
    rcases hi with hi | hi
    · exact ⟨⟨(hb i hi).1.1, by have := (hb i hi).1.2; omega⟩, (hb i hi).2⟩
    · exact ⟨⟨by have := hi.1; omega, by have := hi.2; omega⟩, by have := hi.1; omega⟩
theorem KV.keepN (h : KV W w kA kC kss vA vC vss AK AV) (hc : Ch Non w w') : KV W w' kA kC kss vA vC vss AK AV := by
  obtain ⟨⟨ku, hk1, hk2⟩, ⟨vu, hv1, hv2⟩, ha, hb, hch⟩ := h
  have hs := hc.size
  exact ⟨⟨ku, hk1.keepN hc, hk2⟩, ⟨vu, hv1.keepN hc, hv2⟩, fun i hi => ⟨⟨(ha i hi).1.1, by have := (ha i hi).1.2; omega⟩, (ha i hi).2⟩, fun i hi => ⟨(hb i hi).1, by have := (hb i hi).2; omega⟩, hch.andN hc⟩
theorem KV.rv (h : KV W w kA kC kss vA vC vss AK AV) : RV w (.slice kA kss.length kC) kss (fun _ => True) ∧ RV w (.slice vA vss.length vC) vss (fun _ => True) := by
  obtain ⟨⟨ku, hk1, hk2⟩, ⟨vu, hv1, hv2⟩, ha, hb, hch⟩ := h
  exact ⟨⟨_, _, _, rfl, hk1.2.1, hk1.2.2.1, hk1.rd.mono (fun _ _ _ => trivial), hk2.imp fun u xs k => k.keepN hch⟩, ⟨_, _, _, rfl, hv1.2.1, hv1.2.2.1, hv1.rd.mono (fun _ _ _ => trivial), hv2.imp fun u xs k => k.keepN hch⟩⟩
theorem KV.pushK (h : KV W w kA kC kss vA vC vss AK AV) (hr : IV W u r (fun _ => True)) {g : Nat} (hg : Blk w g [u] t_S_int) (hn : kss.length ≤ 1000) :
    ∃ (o' : Option Addr) (c' : Nat) (w' : World), (Builtin.append_ #[t_S_S_int, t_S_S_int] t_S_S_int #[.slice kA kss.length kC, .slice (some ⟨g, 0, none⟩) 1 1]).run Tryz.prog w = .ok (.slice o' (kss.length + 1) c') w' ∧ KV W w' o' c' (kss ++ [r]) vA vC vss (Ext AK w w') AV ∧ Ch AK w w' := by
  obtain ⟨⟨ku, hk1, hk2⟩, ⟨vu, hv1, hv2⟩, ha, hb, hch⟩ := h
  obtain ⟨o', c', w', hrn, hO, hc⟩ := hk1.appendE el_S_S_int t_S_S_int (m := 1) (mc := 1) (ad := ⟨g, 0, none⟩) (news := [u]) rfl (fun j x hx => by
    have : j = 0 := by have := (List.getElem?_eq_some_iff.1 hx).1; simpa using this
    subst this
    rw [add_none]
    exact hg.cell 0 hx) (fun x hx => by rw [List.mem_singleton] at hx; subst hx; exact IV.one hr) (by omega) (by unfold maxLen; omega) (by omega)
  have hs := hc.size
  have hsW := hch.size
  have hcW : Ch Non W w' := hch.trans hc (fun i hi h => by have := (ha i h).1.1; omega)
  refine ⟨o', c', w', hrn, ⟨⟨ku ++ [u], by rw [List.length_append]; exact hO, hk2.snoc hr⟩, ⟨vu, hv1.keep hc (fun i _ h k => (ha i k).2 h), hv2⟩, ?_, ?_, hcW⟩, hc⟩
  · intro i hi
    rcases hi with hi | hi
    · exact ⟨⟨(ha i hi).1.1, by have := (ha i hi).1.2; omega⟩, (ha i hi).2⟩
    · exact ⟨⟨by have := hi.1; omega, hi.2⟩, fun k => by have := (hb i k).2; have := hi.1; omega⟩
  · intro i hi
    exact ⟨(hb i hi).1, by have := (hb i hi).2; omega⟩
theorem KV.pushV (h : KV W w kA kC kss vA vC vss AK AV) (hr : IV W u r (fun _ => True)) {g : Nat} (hg : Blk w g [u] t_S_int) (hn : vss.length ≤ 1000) :
    ∃ (o' : Option Addr) (c' : Nat) (w' : World), (Builtin.append_ #[t_S_S_int, t_S_S_int] t_S_S_int #[.slice vA vss.length vC, .slice (some ⟨g, 0, none⟩) 1 1]).run Tryz.prog w = .ok (.slice o' (vss.length + 1) c') w' ∧ KV W w' kA kC kss o' c' (vss ++ [r]) AK (Ext AV w w') ∧ Ch AV w w' := by
  obtain ⟨⟨ku, hk1, hk2⟩, ⟨vu, hv1, hv2⟩, ha, hb, hch⟩ := h
  obtain ⟨o', c', w', hrn, hO, hc⟩ := hv1.appendE el_S_S_int t_S_S_int (m := 1) (mc := 1) (ad := ⟨g, 0, none⟩) (news := [u]) rfl (fun j x hx => by
    have : j = 0 := by have := (List.getElem?_eq_some_iff.1 hx).1; simpa using this
    subst this
    rw [add_none]
    exact hg.cell 0 hx) (fun x hx => by rw [List.mem_singleton] at hx; subst hx; exact IV.one hr) (by omega) (by unfold maxLen; omega) (by omega)
  have hs := hc.size
  have hsW := hch.size
  have hcW : Ch Non W w' := hch.trans hc (fun i hi h => by have := (hb i h).1; omega)
  refine ⟨o', c', w', hrn, ⟨⟨ku, hk1.keep hc (fun i _ h k => (ha i h).2 k), hk2⟩, ⟨vu ++ [u], by rw [List.length_append]; exact hO, hv2.snoc hr⟩, ?_, ?_, hcW⟩, hc⟩
  · intro i hi
    exact ⟨⟨(ha i hi).1.1, by have := (ha i hi).1.2; omega⟩, fun k => by
      rcases k with k | k
      · exact (ha i hi).2 k
      · have := (ha i hi).1.2; have := k.1; omega⟩
  · intro i hi
    rcases hi with hi | hi
    · exact ⟨(hb i hi).1, by have := (hb i hi).2; omega⟩
    · exact ⟨by have := hi.1; omega, hi.2⟩
/-- What attention has to look at. -/
structure LkOk (c : CfD) (kss vss : List (List Int)) (rk rv q : List Int) : Prop where
  n : kss.length ≤ 60
  l : vss.length = kss.length
  k : ∀ x ∈ kss ++ [rk], x.length = c.dim.toNat
  v : ∀ x ∈ vss ++ [rv], x.length = c.dim.toNat
  q : q.length = c.dim.toNat
def LkJ (c : CfD) (kss vss : List (List Int)) (rk rv q : List Int) (W : World) (u : Value) (w' : World) : Prop := IV w' u (lookR c (kss ++ [rk]) (vss ++ [rv]) q c.heads.toNat) (fun i => W.heap.size ≤ i) ∧ Ch Non W w'
theorem leafL {rk rv q : List Int} {qv : Value} {Q : Nat → Prop} (m : Md c wt) (h : KV W w kA kC (kss ++ [rk]) vA vC (vss ++ [rv]) AK AV) (ok : LkOk c kss vss rk rv q) (hq : IV w qv q Q) {R : Value → World → Prop} (hR : ∀ (o : Option Addr) (n cp : Nat) (w' : World), LkJ c kss vss rk rv q W (.slice o n cp) w' → R (.slice o n cp) w') :
    Calls Tryz.prog i_coadjutorref17_look #[mdE c wt, qv, .slice kA (kss.length + 1) kC, .slice vA (kss.length + 1) vC] w (Ret R) := by
  obtain ⟨hk, hv⟩ := h.rv
  have h1 : (kss ++ [rk]).length = kss.length + 1 := by rw [List.length_append]; rfl
  have h2 : (vss ++ [rv]).length = vss.length + 1 := by rw [List.length_append]; rfl
  rw [h1] at hk
  rw [h2, ok.l] at hv
  refine step_call (rlook_spec m hq hk hv ok.q (by simp) (by rw [h1, h2, ok.l]) (by rw [h1]; have := ok.n; omega) ok.k ok.v) ?_
  rintro u w' ⟨hi, hc⟩
  have hi' := hi
  obtain ⟨o, cp, rfl, _⟩ := hi
  have := h.ch.size
  exact hR _ _ _ _ ⟨hi'.mono (fun i _ hi => by have := hi.1; omega), h.ch.andN hc⟩
section
variable {rk rv q : List Int} {qv ku vu : Value} {Q : Nat → Prop} {gK gV : Nat} {R : Value → World → Prop}
theorem leaf2 (m : Md c wt) (h : KV W w kA kC kss vA vC vss AK AV) (ok : LkOk c kss vss rk rv q) (hq : IV w qv q Q) (hQ : ∀ i, i < w.heap.size → Q i → ¬ AK i ∧ ¬ AV i) (hk : IV W ku rk (fun _ => True)) (hv : IV W vu rv (fun _ => True)) (hgK : Blk w gK [ku] t_S_int) (hgV : Blk w gV [vu] t_S_int) (hnV : ¬ AK gV) (hR : ∀ (o : Option Addr) (n cp : Nat) (w' : World), LkJ c kss vss rk rv q W (.slice o n cp) w' → R (.slice o n cp) w') :
    ∃ (A1 : Option Addr) (N1 C1 : Nat) (w1 : World), (Builtin.append_ #[t_S_S_int, t_S_S_int] t_S_S_int #[.slice kA kss.length kC, .slice (some ⟨gK, 0, none⟩) 1 1]).run Tryz.prog w = .ok (.slice A1 N1 C1) w1 ∧ Ch Non W w1 ∧
    ∃ (A2 : Option Addr) (N2 C2 : Nat) (w2 : World), (Builtin.append_ #[t_S_S_int, t_S_S_int] t_S_S_int #[.slice vA kss.length vC, .slice (some ⟨gV, 0, none⟩) 1 1]).run Tryz.prog w1 = .ok (.slice A2 N2 C2) w2 ∧ Ch Non W w2 ∧
    Calls Tryz.prog i_coadjutorref17_look #[mdE c wt, qv, .slice A1 N1 C1, .slice A2 N2 C2] w2 (Ret R) := by
  have hn := ok.n
  have hl := ok.l
  obtain ⟨o1, c1, w1, r1, h1, hc1⟩ := h.pushK hk hgK (by omega)
  obtain ⟨o2, c2, w2, r2, h2, hc2⟩ := h1.pushV hv (hgV.keep hc1 hnV) (by omega)
  rw [hl] at r2
  refine ⟨o1, _, c1, w1, r1, h1.ch, o2, _, c2, w2, r2, h2.ch, leafL m h2 ok (((hq.mono (fun i hi h => (⟨hQ i hi h, hi⟩ : (¬ AK i ∧ ¬ AV i) ∧ i < w.heap.size))).keep hc1 (fun i _ h k => h.1.1 k)).keep hc2 (fun i _ h k => h.1.2 k)) hR⟩
theorem leaf1 (m : Md c wt) (h : KV W w kA kC kss vA vC vss AK AV) (ok : LkOk c kss vss rk rv q) (hq : IV w qv q Q) (hQ : ∀ i, i < w.heap.size → Q i → ¬ AK i ∧ ¬ AV i) (hk : IV W ku rk (fun _ => True)) (hv : IV W vu rv (fun _ => True)) (hgK : Blk w gK [ku] t_S_int) (hR : ∀ (o : Option Addr) (n cp : Nat) (w' : World), LkJ c kss vss rk rv q W (.slice o n cp) w' → R (.slice o n cp) w') :
    ∃ (A1 : Option Addr) (N1 C1 : Nat) (w1 : World), (Builtin.append_ #[t_S_S_int, t_S_S_int] t_S_S_int #[.slice kA kss.length kC, .slice (some ⟨gK, 0, none⟩) 1 1]).run Tryz.prog w = .ok (.slice A1 N1 C1) w1 ∧ Ch Non W w1 ∧
    ∀ wa, wa = w1.alloc (.cells #[vu] t_S_int (0, 0)) → Ch Non W wa ∧
    ∃ (A2 : Option Addr) (N2 C2 : Nat) (w2 : World), (Builtin.append_ #[t_S_S_int, t_S_S_int] t_S_S_int #[.slice vA kss.length vC, .slice (some ⟨w1.heap.size, 0, none⟩) 1 1]).run Tryz.prog wa = .ok (.slice A2 N2 C2) w2 ∧ Ch Non W w2 ∧
    Calls Tryz.prog i_coadjutorref17_look #[mdE c wt, qv, .slice A1 N1 C1, .slice A2 N2 C2] w2 (Ret R) := by
  have hn := ok.n
  have hl := ok.l
  obtain ⟨o1, c1, w1, r1, h1, hc1⟩ := h.pushK hk hgK (by omega)
  refine ⟨o1, _, c1, w1, r1, h1.ch, fun wa ea => ⟨h1.ch.andN (Ch.alloc ea), ?_⟩⟩
  obtain ⟨o2, c2, w2, r2, h2, hc2⟩ := (h1.keepN (Ch.alloc ea)).pushV hv (Blk.new ea) (by omega)
  rw [hl] at r2
  refine ⟨o2, _, c2, w2, r2, h2.ch, leafL m h2 ok ((((hq.mono (fun i hi h => (⟨hQ i hi h, hi⟩ : (¬ AK i ∧ ¬ AV i) ∧ i < w.heap.size))).keep hc1 (fun i _ h k => h.1.1 k)).keepN (Ch.alloc ea)).keep hc2 (fun i _ h k => h.1.2 k)) hR⟩
end
end
end Go.Proofs.YtbadkcnemcnhfaaGreatDoor.RefS
