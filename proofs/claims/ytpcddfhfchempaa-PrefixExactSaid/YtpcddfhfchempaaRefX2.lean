/- For every index and every pool of the document: what adding, finding, evicting and forgetting answer and leave; the conditions stand in each theorem. -/
import Derived.Test.YtpcddfhfchempaaRefX
set_option linter.unusedVariables false
set_option linter.unusedSimpArgs false
namespace Go.Proofs.Ytpcddfhfchempaa.Prefix
open Go Go.Proofs Go.Proofs.Ytpcddfhfchempaa.V Go.Proofs.Ytpcddfhfchempaa.Vc Go.Proofs.Ytpcddfhfchempaa.Step Go.Proofs.Ytpcddfhfchempaa.Pages Go.RowKit

/-- The document's pool and index. -/
structure RX (W w : World) (ub yb : Nat) (ps : List PageD) (es : List EntD) (FU F D : Nat → Prop) : Prop where
  u : FPoolR w ub ps FU
  x : FIdxR w yb ub es F D
  fu : Foot W w FU
  f : Foot W w F
  ap : Apart F FU
  c : Ch Non W w
section
variable {W w w1 w2 w' : World} {ub yb k : Nat} {B : Int} {ps ps' : List PageD} {es es' : List EntD} {FU F D FU' F' G : Nat → Prop}
theorem RX.far (h : RX W w ub yb ps es FU F D) (hc : Ch G w w') (hG : ∀ i, G i → W.heap.size ≤ i ∧ ¬ FU i ∧ ¬ F i) : RX W w' ub yb ps es FU F D :=
  ⟨h.u.keep hc (fun i _ hi hg => (hG i hg).2.1 hi), h.x.keep hc (fun i hi hg => (hG i hg).2.2 hi), h.fu.le hc.size, h.f.le hc.size, h.ap, h.c.trans hc (fun i hi hg => by have := (hG i hg).1; omega)⟩
theorem RX.keepN (h : RX W w ub yb ps es FU F D) (hc : Ch Non w w') : RX W w' ub yb ps es FU F D := h.far hc (fun _ k => k.elim)
theorem RX.use (h : RX W w ub yb ps es FU F D) (hu : FPoolR w' ub ps' (Ext FU w w')) (hc : Ch FU w w') : RX W w' ub yb ps' es (Ext FU w w') F D :=
  ⟨hu, h.x.keep hc (fun i hi hg => h.ap i hi hg), h.fu.ext h.c hc.size, h.f.le hc.size, fun i hi hg => by
    rcases hg with hg | hg
    · exact h.ap i hi hg
    · have := (h.f i hi).2; have := hg.1; omega, h.fu.hi h.c hc⟩
theorem RX.idx {D' : Nat → Prop} (h : RX W w ub yb ps es FU F D) (hx : FIdxR w' yb ub es' (Ext F w w') D') (hc : Ch F w w') : RX W w' ub yb ps es' FU (Ext F w w') D' :=
  ⟨h.u.keep hc (fun i _ hi hg => h.ap i hg hi), hx, h.fu.le hc.size, h.f.ext h.c hc.size, fun i hi hg => by
    rcases hi with hi | hi
    · exact h.ap i hi hg
    · have := (h.fu i hg).2; have := hi.1; omega, h.f.hi h.c hc⟩
/-- What comes of them. -/
def RXs (W w w' : World) (ub yb : Nat) (ps : List PageD) (es : List EntD) (FU F : Nat → Prop) : Prop :=
  ∃ FU' F' D' : Nat → Prop, RX W w' ub yb ps es FU' F' D' ∧ (∀ i, FU' i → Ext FU w w' i) ∧ (∀ i, F' i → Ext F w w' i) ∧ Ch (fun i => F i ∨ FU i) w w'
theorem RX.same (h : RX W w ub yb ps es FU F D) (hc : Ch Non w w') : RXs W w w' ub yb ps es FU F := ⟨FU, F, D, h.keepN hc, fun _ h => .inl h, fun _ h => .inl h, hc.any⟩
theorem ext_le {i : Nat} (h1 : w.heap.size ≤ w1.heap.size) (h2 : w1.heap.size ≤ w2.heap.size) (h : Ext FU' w1 w2 i) (hs : ∀ i, FU' i → Ext FU w w1 i) : Ext FU w w2 i := by
  rcases h with h | h
  · rcases hs i h with h | h
    · exact .inl h
    · exact .inr ⟨h.1, by have := h.2; omega⟩
  · exact .inr ⟨by have := h.1; omega, h.2⟩
theorem RXs.then (h : RX W w1 ub yb ps es FU' F' D) (s1 : ∀ i, FU' i → Ext FU w w1 i) (s2 : ∀ i, F' i → Ext F w w1 i) (hc : Ch (fun i => F i ∨ FU i) w w1) (k : RXs W w1 w2 ub yb ps' es' FU' F') : RXs W w w2 ub yb ps' es' FU F := by
  obtain ⟨a, b, c, d, e, f, g⟩ := k
  refine ⟨a, b, c, d, fun i hi => ext_le hc.size g.size (e i hi) s1, fun i hi => ext_le hc.size g.size (f i hi) s2, hc.trans g (fun i hi hg => ?_)⟩
  rcases hg with hg | hg
  · rcases s2 i hg with hg | hg
    · exact .inl hg
    · have := hg.1; omega
  · rcases s1 i hg with hg | hg
    · exact .inr hg
    · have := hg.1; omega
theorem RXs.one (h : RX W w1 ub yb ps es FU' F' D) (s1 : ∀ i, FU' i → Ext FU w w1 i) (s2 : ∀ i, F' i → Ext F w w1 i) (hc : Ch (fun i => F i ∨ FU i) w w1) : RXs W w w1 ub yb ps es FU F := ⟨FU', F', D, h, s1, s2, hc⟩
theorem FIdxR.grow (h : FIdxR w yb ub es F D) (h1 : ∀ i, F i → F' i) (h3 : ∀ i, F' i → i < w.heap.size) : FIdxR w yb ub es F' D := by
  obtain ⟨o, c, gs, Fa, hC, hA⟩ := h
  exact ⟨o, c, gs, Fa, hC.grow h1 (fun i hi => ⟨h1 i (hC.fd i hi).1, (hC.fd i hi).2⟩) h3, hA⟩
theorem RX.cutS (h : RX W w ub yb ps es FU F D) (hn : es.length < 1000) {i : Nat} (hi : i < es.length) :
    Calls Try.prog i_coadjutorref23_Index_cut #[.pointer (some ⟨yb, 0, none⟩), .int .i64 i] w (Ret fun v w' => ∃ g : EcC, v = .agg (ecE g).toArray ∧ EcR w' g es[i] D ∧ RX W w' ub yb ps (es.eraseIdx i) FU (Ext F w w') D ∧ Ch F w w') := by
  refine step_call (cut_spec h.x hn hi) ?_
  rintro v w' ⟨g, rfl, hg, hx, hc⟩
  have hF : F yb := by obtain ⟨o, c, gs, Fa, hC, _⟩ := h.x; exact hC.fx
  have hc2 : Ch F w w' := hc.mono (fun i _ hi => hi ▸ hF)
  exact ⟨g, rfl, hg, h.idx hx hc2, hc2⟩
theorem RX.ptr (h : RX W w ub yb ps es FU F D) : w.cell? ⟨yb, 0, none⟩ = some (.pointer (some ⟨ub, 0, none⟩)) := by
  obtain ⟨o, c, gs, Fa, hC, _⟩ := h.x
  exact hC.blk.cell 0 rfl
theorem RX.lt (h : RX W w ub yb ps es FU F D) : yb < w.heap.size ∧ ¬ FU yb := by
  obtain ⟨o, c, gs, Fa, hC, _⟩ := h.x
  exact ⟨hC.lt _ hC.fx, h.ap _ hC.fx⟩
/-- Pages have one user less. -/
theorem RX.drop1 {nb T : Nat} (h : RX W w ub yb ps es FU F D) (hg : Pages.Good k B ps) (hk : k ≤ 1000) (hB : 0 ≤ B ∧ B ≤ 1000000000) {id : Int} (hb : Blk w nb [.int .i64 id] T) :
    Calls Try.prog i_coadjutorref22_Pool_Use #[.pointer (some ⟨ub, 0, none⟩), .slice (some ⟨nb, 0, none⟩) 1 1, .int .i64 (-1)] w (Ret fun v w' => v = .int .i64 (if allB ps [id] && !overB ps [id] then 0 else 8) ∧ RX W w' ub yb (dropQ ps id) es (Ext FU w w') F D ∧ Ch FU w w') := by
  have hr : Rd w (some ⟨nb, 0, none⟩) (([id] : List Int).map (.int .i64)) (· = nb) := hb.rd
  refine step_call (RefDrop_spec (l := [id]) h.u hg hr (by simp) (by rw [hg.len]; omega) (by omega) 1) ?_
  rintro v w' ⟨rfl, hu, hc⟩
  exact ⟨rfl, h.use hu hc, hc⟩
theorem RX.share1 {nb T : Nat} (h : RX W w ub yb ps es FU F D) (hg : Pages.Good k B ps) (hk : k ≤ 1000) (hB : 0 ≤ B ∧ B ≤ 1000000000) {id : Int} (his : isB ps id = true) (hb : Blk w nb [.int .i64 id] T) :
    Calls Try.prog i_coadjutorref22_Pool_Use #[.pointer (some ⟨ub, 0, none⟩), .slice (some ⟨nb, 0, none⟩) 1 1, .int .i64 1] w (Ret fun v w' => v = .int .i64 0 ∧ RX W w' ub yb (addU 1 ps id) es (Ext FU w w') F D ∧ Ch FU w w') := by
  have hr : Rd w (some ⟨nb, 0, none⟩) (([id] : List Int).map (.int .i64)) (· = nb) := hb.rd
  refine step_call (RefShare_spec (l := [id]) h.u hg hr (by simp) (by rw [hg.len]; omega) (by omega) 1) ?_
  rintro v w' ⟨rfl, hu, hc⟩
  have ha : allB ps [id] = true := by unfold allB; simp [his]
  rw [ha, if_pos rfl] at hu ⊢
  exact ⟨rfl, h.use hu hc, hc⟩
/-- An index's row, an entry more. -/
theorem RX.push {nb : Nat} {g : EcC} {e : EntD} {o : Option Addr} {c : Nat} {gs : List EcC} {Fa D' : Nat → Prop} (h : RX W w ub yb ps es FU F D) (hC : FIdxC w yb ub o c gs es.length Fa F D) (hA : All2 (fun g e => EcR w g e D) gs es) (hn : es.length < 1000)
    (hD : ∀ i, D' i → Ext F W w i) (hb : Blk w nb (ecE g) t_coadjutorref23_Entry) (hg : EcR w g e D) :
    ∃ (o' : Option Addr) (c' : Nat) (w' : World), (Builtin.append_ #[t_S_coadjutorref23_Entry, t_S_coadjutorref23_Entry] t_S_coadjutorref23_Entry #[.slice o es.length c, .slice (some ⟨nb, 0, none⟩) 1 1]).run Try.prog w = .ok (.slice o' (es.length + 1) c') w' ∧ Ch Fa w w' ∧
      ((∃ u, w'.cell? ⟨yb, 1, none⟩ = some u) ∧ w'.frozen? ⟨yb, 1, none⟩ = false) ∧
      ∀ w'' : World, w'' = w'.setCell ⟨yb, 1, none⟩ (.slice o' (es.length + 1) c') → RX W w'' ub yb ps (es ++ [e]) FU (Ext F w w'') D ∧ Ch F w w'' := by
  obtain ⟨o', c', w', hr, hc, hok, hst⟩ := hC.push hn hb
  refine ⟨o', c', w', hr, hc, hok, fun w'' e2 => ?_⟩
  obtain ⟨hC2, hc2⟩ := hst w'' e2
  have hcF : Ch F w w'' := (hc.mono (fun i _ hi => (hC.fa i hi).1)).same (hc2.mono (fun i _ hi => hi ▸ hC.fx))
  refine ⟨h.idx ?_ hcF, hcF⟩
  have hs2 := hc2.size
  have hs := hc.size
  have hC3 : FIdxC w'' yb ub o' c' (gs ++ [g]) (es.length + 1) (Ext Fa w w') (Ext F w w'') D := hC2.grow (fun i hi => hi.imp id (fun k => ⟨k.1, by have := k.2; omega⟩)) (fun i hi => ⟨.inl (hC.fd i hi).1, (hC2.fd i hi).2⟩) (fun i hi => by
    rcases hi with hi | hi
    · have := hC.lt i hi; omega
    · exact hi.2)
  have kE : ∀ {g e}, EcR w g e D → EcR w'' g e D := fun k => (k.keep hc (fun i _ hi => (hC.fd i hi).2.2)).keep hc2 (fun i _ hi => (hC.fd i hi).2.1)
  refine ⟨o', c', gs ++ [g], Ext Fa w w', ?_, (hA.imp (fun _ _ k => kE k)).snoc (kE hg)⟩
  rw [List.length_append]
  exact hC3
set_option maxHeartbeats 1000000 in
theorem RefAdd_spec {to : Option Addr} {t : List Int} {tc : Nat} (h : RX W w ub yb ps es FU F D) (hg : Pages.Good k B ps) (hk : k ≤ 1000) (hB : 0 ≤ B ∧ B ≤ 1000000000) (hn : es.length < 1000) (ht : Rd W to (t.map (.int .i64)) (fun i => i < W.heap.size)) (htl : t.length ≤ 1000) (id v : Int) :
    Calls Try.prog i_coadjutorref23_Index_Add #[.pointer (some ⟨yb, 0, none⟩), .int .i64 id, .int .i64 v, .slice to t.length tc] w (Ret fun x w' => x = .int .i64 (addE ps es id v t) ∧ RXs W w w' ub yb (addP ps es id v t) (addX ps es id v t) FU F) := by
  have hfail : ∀ {w'}, Ch Non w w' → ∀ n : Int, addE ps es id v t = n → n ≠ 0 → (Value.int IntKind.i64 n = .int .i64 (addE ps es id v t) ∧ RXs W w w' ub yb (addP ps es id v t) (addX ps es id v t) FU F) := fun hc n he h0 => by
    unfold addP addX
    rw [he, if_neg h0, if_neg h0]
    exact ⟨rfl, h.same hc⟩
  have hto : ∀ {w'}, Ch Non W w' → Rd w' to (t.map (.int .i64)) (fun i => i < W.heap.size) := fun hc => ht.keepN hc
  refine coadjutorref23_Index_Add.calls _ _ _ _ _ _ ?_
  unfold coadjutorref23_Index_Add.vc
  refine ⟨fun h0 => hfail (Ch.refl _ _) 1 (by unfold addE; rw [if_pos (by have : (t.length : Int) = 0 := by simpa using h0
                                                                          omega)]) (by omega), fun h0 => ?_⟩
  have h0 : ¬ (t.length : Int) = 0 := by simpa using h0
  refine ⟨fun h1 => hfail (Ch.refl _ _) 1 (by unfold addE; rw [if_pos (by have := of_decide_eq_true h1; omega)]) (by omega), fun h1 => ⟨by omega, ?_⟩⟩
  have h1 := of_decide_eq_false h1
  have htm : Int.tmod (t.length : Int) 4 = (t.length : Int) % 4 := by rw [Int.tmod_eq_emod_of_nonneg (by omega)]
  rw [htm]
  refine ⟨fun h2 => hfail (Ch.refl _ _) 1 (by unfold addE; rw [if_pos (by have : ¬ (t.length : Int) % 4 = 0 := by simpa using h2
                                                                          omega)]) (by omega), fun h2 => ?_⟩
  have h2 : (t.length : Int) % 4 = 0 := by simpa using h2
  have hlen : ¬ ¬ (0 < (t.length : Int) ∧ (t.length : Int) ≤ 32 ∧ (t.length : Int) % 4 = 0) := by omega
  refine step_call (At_spec h.x hn (hto h.c) v tc) ?_
  rintro x w1 ⟨rfl, hc1⟩
  refine ⟨_, rfl, fun h3 => hfail hc1 9 (by unfold addE; rw [if_neg hlen, if_pos (of_decide_eq_true h3)]) (by omega), fun h3 => ?_⟩
  have h3 := of_decide_eq_false h3
  have hX1 := h.keepN hc1
  refine ⟨_, hX1.ptr, ?_⟩
  refine step_call (RefIs_spec hX1.u id) ?_
  rintro x w2 ⟨rfl, rfl⟩
  have h8 : addOk ps id v = false → addE ps es id v t = 8 := fun ho => by unfold addE; rw [if_neg hlen, if_neg h3, if_neg (by rw [ho]; decide)]
  refine ⟨_, rfl, fun h4 => hfail hc1 8 (h8 (by unfold addOk; have : isB ps id = false := by simpa using h4
                                                rw [this]; rfl)) (by omega), fun h4 => ?_⟩
  have h4 : isB ps id = true := by simpa using h4
  obtain ⟨i0, i1⟩ := isB_lt h4
  obtain ⟨oU, cU, gsU, RU, hCU, _, hPU⟩ := hX1.u
  have hgl : id.toNat < gsU.length := by rw [hCU.len]; exact i1
  obtain ⟨p, hp, _, a0, _, a2, _⟩ := hCU.at hgl
  obtain ⟨g1, _, g3, _⟩ := hPU id.toNat hgl i1
  rw [← pgAt_lt i0 i1] at g1 g3
  have hpb := hCU.blk.cell 0 rfl
  subst hp
  refine ⟨_, hX1.ptr, _, _, _, hpb, ⟨i0, by omega⟩, _, a0, fun h5 => hfail hc1 8 (h8 ?_) (by omega), fun h5 => ?_⟩
  · unfold addOk
    have h5 : ¬ (pgAt ps id).ver = v := by rw [← g1]; simpa using h5
    rw [show ((pgAt ps id).ver == v) = false by simpa using h5, Bool.and_false, Bool.false_and]
  have h5 : (pgAt ps id).ver = v := by rw [← g1]; simpa using h5
  refine ⟨_, hX1.ptr, _, _, _, hpb, ⟨i0, by omega⟩, _, _, _, a2, fun h6 => hfail hc1 8 (h8 ?_) (by omega), fun h6 => ?_⟩
  · unfold addOk
    have h6 : ¬ ((pgAt ps id).es.length : Int) = 4 := by rw [← g3]; simpa using h6
    rw [show ((pgAt ps id).es.length == 4) = false by simpa using (by omega : ¬ (pgAt ps id).es.length = 4), Bool.and_false]
  have h6 : (pgAt ps id).es.length = 4 := by
    rw [← g3]
    have : ((gsU[id.toNat].en : Nat) : Int) = 4 := by simpa using h6
    omega
  have hok : addE ps es id v t = 0 := by
    unfold addE addOk
    rw [if_neg hlen, if_neg h3, h4, h5, h6]; simp
  refine ⟨_, hX1.ptr, fun w3 e3 => ?_⟩
  have hX3 := hX1.keepN (Ch.alloc e3)
  refine step_call (hX3.share1 hg hk hB h4 (Blk.new e3)) ?_
  rintro x w4 ⟨rfl, hX4, hc4⟩
  have hc14 : Ch (fun i => F i ∨ FU i) w w4 := ((hc1.andN (Ch.alloc e3)).any).same (hc4.mono (fun i _ hi => .inr hi))
  obtain ⟨o, c, gs, Fa, hC, hA⟩ := hX4.x
  have hFa : ¬ Fa yb := fun hx => (hC.fa _ hx).2 rfl
  refine ⟨_, rfl, fun w' => Ch Fa w4 w', fun w5 e5 => ⟨Ch.drew e5, _, _, _, fun w' hc => (hC.blk.keep hc hFa).cell 1 rfl, fun w7 e7 => ⟨(Ch.drew e5).andN (Ch.alloc e7), ?_⟩⟩⟩
  have hX5 := hX4.keepN (Ch.drew e5)
  have hG7 := Gr.made0 (G := Non) (T := t_int) (sz := 1) (Ch.refl _ w5) e7
  have hs7 : w5.heap.size < w7.heap.size := (Blk.new e7).lt
  obtain ⟨o8, c8, w8, r8, hG8, hc8⟩ := hG7.app (m := t.length) el_S_int t_S_int (c2 := tc) (hto (hX5.c.andN (Ch.alloc e7))) (by simp) (fun u hu => by
    obtain ⟨x, _, rfl⟩ := List.mem_map.1 hu; rfl) (by omega) (by omega)
  have hc58 : Ch Non w5 w8 := hG8.2
  refine ⟨o8, _, c8, w8, r8, (Ch.drew e5).andN hc58, fun w9 e9 => ?_⟩
  have hc59 : Ch Non w5 w9 := hc58.andN (Ch.alloc e9)
  have hc49 : Ch Non w4 w9 := (Ch.drew (F := Non) e5).andN hc59
  refine ⟨hc49.any, ?_⟩
  have hs59 := hc59.size
  have hs49 := hc49.size
  have hs8 := hc58.size
  have hs89 : w8.heap.size < w9.heap.size := (Blk.new e9).lt
  have hs45 : w4.heap.size = w5.heap.size := by subst e5; rfl
  have hC9 := hC.keepN hc49
  have hF1 : ∀ i, D i ∨ New w5 w8 i → Ext F w4 w9 i ∧ i ≠ yb ∧ ¬ Fa i := fun i hi => by
    rcases hi with hi | hi
    · exact ⟨.inl (hC.fd i hi).1, (hC.fd i hi).2⟩
    · have hn1 := hi.1
      have hn2 := hi.2
      exact ⟨.inr ⟨by omega, by omega⟩, fun he => by have := hC.lt _ hC.fx; omega, fun hx => by have := hC.lt i (hC.fa i hx).1; omega⟩
  have hlt9 : ∀ i, Ext F w4 w9 i → i < w9.heap.size := fun i hi => by
    rcases hi with hi | hi
    · have := hC.lt i hi; omega
    · exact hi.2
  have hC9' := hC9.grow (F' := Ext F w4 w9) (fun i hi => .inl hi) hF1 hlt9
  have hA9 : All2 (fun g e => EcR w9 g e (fun i => D i ∨ New w5 w8 i)) gs es := hA.imp (fun _ _ k => (EcR.keepN k hc49).mono (fun i _ hi => .inl hi))
  have hX9 : RX W w9 ub yb (addU 1 ps id) es (Ext FU w3 w4) (Ext F w4 w9) (fun i => D i ∨ New w5 w8 i) := hX4.idx ⟨o, c, gs, Fa, hC9', hA9⟩ hc49.any
  have hrow : Rd w9 o8 (t.map (.int .i64)) (New w5 w8) := by
    have := hG8.rd
    rw [List.nil_append] at this
    exact this.keepN (Ch.alloc e9)
  obtain ⟨o10, c10, w10, r10, hc10, hok10, hst⟩ := hX9.push (e := ⟨v, t, id⟩) (g := ⟨v, o8, t.length, c8, id⟩) (D' := Non) hC9' hA9 hn (fun _ h => h.elim) (by
    have := Blk.new e9
    rw [Nat.zero_add] at this
    exact this) ⟨rfl, rfl, rfl, hrow.mono (fun i _ hi => .inr hi), htl⟩
  refine ⟨o10, _, c10, w10, r10, (hc49.any).same hc10, hok10, fun w11 e11 => ?_⟩
  obtain ⟨hX11, hc11⟩ := hst w11 e11
  unfold addP addX
  rw [hok, if_pos rfl, if_pos rfl]
  refine ⟨rfl, RXs.one hX11 (fun i hi => ?_) (fun i hi => ?_) ?_⟩
  · have h13 : w.heap.size ≤ w3.heap.size := ((hc1.andN (Ch.alloc (F := Non) e3))).size
    have := hc11.size
    rcases hi with hi | hi
    · exact .inl hi
    · exact .inr ⟨by have := hi.1; omega, by have := hi.2; omega⟩
  · have := hc14.size
    have := hc11.size
    rcases hi with hi | hi
    · rcases hi with hi | hi
      · exact .inl hi
      · exact .inr ⟨by have := hi.1; omega, by have := hi.2; omega⟩
    · exact .inr ⟨by have := hi.1; omega, hi.2⟩
  · have := hc14.size
    exact (hc14.andN hc49).trans hc11 (fun i hi hg => by
      rcases hg with hg | hg
      · exact .inl hg
      · have := hg.1; omega)
end
end Go.Proofs.Ytpcddfhfchempaa.Prefix
