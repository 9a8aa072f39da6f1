/- For every pool of the document's in memory: what the document's layer 22 answers, and what it leaves; the conditions stand in each theorem. -/
import Derived.Test.YtpcddfhfchempaaPagesLaw2
import Derived.Test.YtpcddfhfchempaaVcRefP
set_option linter.unusedVariables false
set_option linter.unusedSimpArgs false
namespace Go.Proofs.Ytpcddfhfchempaa.Pages
open Go Go.Proofs Go.Proofs.Ytpcddfhfchempaa.V Go.Proofs.Ytpcddfhfchempaa.Vc Go.Proofs.Ytpcddfhfchempaa.Step Go.RowKit

/-- A page of the document's: its entries are only read. -/
def FPgR (w : World) (g : PgC) (p : PageD) (Fd : Nat → Prop) : Prop :=
  g.ver = p.ver ∧ g.users = p.users ∧ g.en = p.es.length ∧ ∃ qs : List (Value × Value), Rd w g.eo (qs.map pairE).flatten Fd ∧ All2 (fun q e => EntV w q e Fd) qs p.es ∧ (∀ e ∈ p.es, smallE e)
theorem FPgR.keep {w w' : World} {g : PgC} {p : PageD} {Fd G : Nat → Prop} (h : FPgR w g p Fd) (hc : Ch G w w') (h2 : ∀ i, i < w.heap.size → Fd i → ¬ G i) : FPgR w' g p Fd := by
  obtain ⟨a, b, c, qs, d, e, f⟩ := h
  exact ⟨a, b, c, qs, d.keep hc h2, e.imp (fun _ _ k => k.keep hc h2), f⟩
theorem FPgR.mono {w : World} {g : PgC} {p : PageD} {Fd G : Nat → Prop} (h : FPgR w g p Fd) (h2 : ∀ i, i < w.heap.size → Fd i → G i) : FPgR w g p G := by
  obtain ⟨a, b, c, qs, d, e, f⟩ := h
  exact ⟨a, b, c, qs, d.mono h2, e.imp (fun _ _ k => k.mono h2), f⟩
structure FPoolC (w : World) (pb : Nat) (o : Option Addr) (c : Nat) (gs : List PgC) (R : Nat → Nat → Prop) (n : Nat) : Prop where
  fam : Fam w R
  z : R 0 pb
  blk : Blk w pb [.slice o n c] t_coadjutorref22_Pool
  own : Own w t_coadjutorref22_Page 3 o n c (gs.map pgE).flatten (R 1)
  len : gs.length = n
/-- A pool, all of it in F. -/
def FPoolR (w : World) (pb : Nat) (ps : List PageD) (F : Nat → Prop) : Prop :=
  ∃ (o : Option Addr) (c : Nat) (gs : List PgC) (R : Nat → Nat → Prop), FPoolC w pb o c gs R ps.length ∧ (∀ k i, R k i → F i) ∧ ∀ (i : Nat) (h1 : i < gs.length) (h2 : i < ps.length), FPgR w gs[i] ps[i] (R 2)
section
variable {w w' : World} {pb : Nat} {o : Option Addr} {c n : Nat} {gs : List PgC} {R : Nat → Nat → Prop} {ps : List PageD} {F G : Nat → Prop}
theorem FPoolC.keep (h : FPoolC w pb o c gs R n) (hc : Ch G w w') (hd : ∀ k i, R k i → ¬ G i) : FPoolC w' pb o c gs R n :=
  ⟨h.fam.le hc.size, h.z, h.blk.keep hc (hd 0 pb h.z), h.own.keep hc (fun i _ hi => hd 1 i hi), h.len⟩
theorem FPoolR.keep (h : FPoolR w pb ps F) (hc : Ch G w w') (hd : ∀ i, i < w.heap.size → F i → ¬ G i) : FPoolR w' pb ps F := by
  obtain ⟨o, c, gs, R, hC, hF, hP⟩ := h
  have hd' : ∀ k i, R k i → ¬ G i := fun k i hi => hd i (hC.fam.1 k i hi) (hF k i hi)
  exact ⟨o, c, gs, R, hC.keep hc hd', hF, fun i h1 h2 => (hP i h1 h2).keep hc (fun j _ hj => hd' _ j hj)⟩
theorem FPoolR.keepN (h : FPoolR w pb ps F) (hc : Ch Non w w') : FPoolR w' pb ps F := h.keep hc (fun _ _ _ => id)
theorem FPoolR.mono (h : FPoolR w pb ps F) (hg : ∀ i, i < w.heap.size → F i → G i) : FPoolR w pb ps G := by
  obtain ⟨o, c, gs, R, hC, hF, hP⟩ := h
  exact ⟨o, c, gs, R, hC, fun k i hi => hg i (hC.fam.1 k i hi) (hF k i hi), hP⟩
theorem FPoolR.lt (h : FPoolR w pb ps F) : pb < w.heap.size ∧ F pb := by
  obtain ⟨o, c, gs, R, hC, hF, hP⟩ := h
  exact ⟨hC.blk.lt, hF 0 pb hC.z⟩
theorem FPoolR.len (h : FPoolR w pb ps F) : ps.length ≤ maxLen := by
  obtain ⟨o, c, gs, R, hC, hF, hP⟩ := h
  exact Nat.le_trans hC.own.2.1 hC.own.2.2.1
/-- A page's cells. -/
theorem FPoolC.at (h : FPoolC w pb o c gs R n) {j : Nat} (hj : j < gs.length) : ∃ p, o = some p ∧ R 1 p.block ∧ w.cell? (p.add (j * 3)) = some (.int .i64 gs[j].ver) ∧ w.cell? ((p.add (j * 3)).add 1) = some (.int .i64 gs[j].users) ∧ w.cell? ((p.add (j * 3)).add 2) = some (.slice gs[j].eo gs[j].en gs[j].ec) ∧
    ((∃ u, w.cell? (p.add (j * 3)) = some u) ∧ w.frozen? (p.add (j * 3)) = false) ∧ ((∃ u, w.cell? ((p.add (j * 3)).add 1) = some u) ∧ w.frozen? ((p.add (j * 3)).add 1) = false) ∧ ((∃ u, w.cell? ((p.add (j * 3)).add 2) = some u) ∧ w.frozen? ((p.add (j * 3)).add 2) = false) := by
  obtain ⟨p, hp, _, hF, hc⟩ := h.own.rd.elem (sz := 3) (fun _ => rfl) (by omega) hj
  have h0 := hc 0 _ rfl
  rw [add_none] at h0
  have f0 := flatten_at (enc := pgE) (sz := 3) (q := 0) gs (fun _ => rfl) hj (by omega)
  have f1 := flatten_at (enc := pgE) (sz := 3) (q := 1) gs (fun _ => rfl) hj (by omega)
  have f2 := flatten_at (enc := pgE) (sz := 3) (q := 2) gs (fun _ => rfl) hj (by omega)
  rw [Nat.add_zero] at f0
  refine ⟨p, hp, hF, h0, hc 1 _ rfl, hc 2 _ rfl, h.own.ok f0 hp, ?_, ?_⟩
  · rw [add_add]; exact h.own.ok f1 hp
  · rw [add_add]; exact h.own.ok f2 hp
/-- One field of a page is laid anew. -/
theorem FPoolC.put (h : FPoolC w pb o c gs R n) {j q : Nat} (hj : j < gs.length) {p : Addr} (hp : o = some p) (hq : q < 3) {v : Value} (ew : w' = w.setCell ((p.add (j * 3)).add q) v) {g : PgC} (hg : pgE g = (pgE gs[j]).set q v) :
    FPoolC w' pb o c (gs.set j g) R n ∧ Ch (R 1) w w' := by
  rw [add_add] at ew
  have hlt : j * 3 + q < (gs.map pgE).flatten.length := by
    have := h.own.len
    rw [this, ← h.len]; omega
  obtain ⟨h1, h2⟩ := h.own.set hlt hp ew
  rw [flatten_set (enc := pgE) gs (fun _ => rfl) hj hg hq] at h1
  exact ⟨⟨h.fam.le h2.size, h.z, h.blk.keep h2 (fun hx => h.fam.2 0 1 (by omega) pb h.z hx), h1, by rw [List.length_set]; exact h.len⟩, h2⟩
/-- All of a page is laid anew. -/
theorem FPoolC.put3 (h : FPoolC w pb o c gs R n) {j : Nat} (hj : j < gs.length) {p : Addr} (hp : o = some p) {g : PgC} (ew : w' = ((w.setCell (p.add (j * 3)) (.int .i64 g.ver)).setCell ((p.add (j * 3)).add 1) (.int .i64 g.users)).setCell ((p.add (j * 3)).add 2) (.slice g.eo g.en g.ec)) :
    FPoolC w' pb o c (gs.set j g) R n ∧ Ch (R 1) w w' := by
  have h0 : w.setCell (p.add (j * 3)) (.int .i64 g.ver) = w.setCell ((p.add (j * 3)).add 0) (.int .i64 g.ver) := by rw [add_none]
  rw [h0] at ew
  obtain ⟨a1, b1⟩ := h.put hj hp (q := 0) (by omega) rfl (g := ⟨g.ver, gs[j].users, gs[j].eo, gs[j].en, gs[j].ec⟩) rfl
  have hj1 : j < (gs.set j ⟨g.ver, gs[j].users, gs[j].eo, gs[j].en, gs[j].ec⟩).length := by rw [List.length_set]; exact hj
  obtain ⟨a2, b2⟩ := a1.put hj1 hp (q := 1) (by omega) rfl (g := ⟨g.ver, g.users, gs[j].eo, gs[j].en, gs[j].ec⟩) (by rw [List.getElem_set_self]; rfl)
  rw [List.set_set] at a2
  have hj2 : j < (gs.set j ⟨g.ver, g.users, gs[j].eo, gs[j].en, gs[j].ec⟩).length := by rw [List.length_set]; exact hj
  obtain ⟨a3, b3⟩ := a2.put hj2 hp (q := 2) (by omega) ew (g := g) (by rw [List.getElem_set_self]; rfl)
  rw [List.set_set] at a3
  exact ⟨a3, (b1.same b2).same b3⟩
/-- Pages laid anew in the pages' own row. -/
theorem FPoolR.write {gs' : List PgC} {ps' : List PageD} (hC : FPoolC w' pb o c gs' R n) (hc : Ch (R 1) w w') (hF : ∀ k i, R k i → F i) (hn : ps'.length = n) (hP : ∀ (i : Nat) (h1 : i < gs'.length) (h2 : i < ps'.length), FPgR w gs'[i] ps'[i] (R 2)) : FPoolR w' pb ps' F := by
  subst hn
  exact ⟨o, c, gs', R, hC, hF, fun i h1 h2 => (hP i h1 h2).keep hc (fun j _ a b => hC.fam.2 2 1 (by omega) j a b)⟩
end
section
variable {w : World} {pb : Nat} {ps : List PageD} {F G : Nat → Prop} {o : Option Addr} {l : List Int}
theorem RefIs_spec (h : FPoolR w pb ps F) (id : Int) : Calls Try.prog i_coadjutorref22_Pool_Is #[.pointer (some ⟨pb, 0, none⟩), .int .i64 id] w (Ret fun v w' => v = .bool (isB ps id) ∧ w' = w) := by
  obtain ⟨o, c, gs, R, hC, hF, hP⟩ := h
  refine coadjutorref22_Pool_Is.calls _ _ ?_
  unfold coadjutorref22_Pool_Is.vc
  refine ⟨fun h0 => ⟨_, _, _, hC.blk.cell 0 rfl, fun h1 => ?_, fun h1 => ?_⟩, fun h0 => ?_⟩
  · have h0 := of_decide_eq_true h0
    have h1 := of_decide_eq_true h1
    have hj : id.toNat < gs.length := by rw [hC.len]; omega
    have hj2 : id.toNat < ps.length := by rw [← hC.len]; exact hj
    obtain ⟨p, rfl, _, _, a1, _⟩ := hC.at hj
    refine ⟨_, _, _, hC.blk.cell 0 rfl, ⟨by omega, by omega⟩, _, a1, ?_, rfl⟩
    unfold isB
    rw [pgAt_lt h0 hj2, (hP _ hj hj2).2.1]
  · have h0 := of_decide_eq_true h0
    have h1 := of_decide_eq_false h1
    cases hb : isB ps id with
    | true => have := isB_lt hb; omega
    | false => exact ⟨rfl, rfl⟩
  · have h0 := of_decide_eq_false h0
    cases hb : isB ps id with
    | true => have := isB_lt hb; omega
    | false => exact ⟨rfl, rfl⟩
/-- One page laid anew. -/
theorem FPgR.set {gs : List PgC} {Fd : Nat → Prop} (hP : ∀ (i : Nat) (h1 : i < gs.length) (h2 : i < ps.length), FPgR w gs[i] ps[i] Fd) {j : Nat} {g : PgC} {p : PageD} (hg : FPgR w g p Fd) :
    ∀ (i : Nat) (h1 : i < (gs.set j g).length) (h2 : i < (ps.set j p).length), FPgR w (gs.set j g)[i] (ps.set j p)[i] Fd := fun i h1 h2 => by
  rw [List.getElem_set, List.getElem_set]
  split
  · exact hg
  · exact hP i (by simpa using h1) (by simpa using h2)
theorem FPgR.zero (w : World) (v u : Int) (Fd : Nat → Prop) : FPgR w ⟨v, u, none, 0, 0⟩ ⟨v, u, []⟩ Fd := ⟨rfl, rfl, rfl, [], Rd.nil _ _ _, .nil, fun e he => by cases he⟩
theorem RefNew_spec (w : World) (n : Int) (h : 1 ≤ n ∧ n ≤ 64) : Calls Try.prog i_coadjutorref22_New #[.int .i64 n] w (Ret fun v w' => ∃ pb, v = .pointer (some ⟨pb, 0, none⟩) ∧ FPoolR w' pb (List.replicate n.toNat pg0) (New w w') ∧ Ch Non w w') := by
  refine coadjutorref22_New.calls _ ?_
  unfold coadjutorref22_New.vc
  refine ⟨⟨rfl, by omega, by omega⟩, fun w1 e1 w2 e2 => ?_⟩
  obtain ⟨m, rfl⟩ := Int.eq_ofNat_of_zero_le (by omega : 0 ≤ n)
  rw [Int.toNat_natCast] at e1 ⊢
  have hz : zeroRow [.int .i64 0, .int .i64 0, .slice none 0 0] m = ((List.replicate m (⟨0, 0, none, 0, 0⟩ : PgC)).map pgE).flatten := by
    rw [List.map_replicate, rep_flat]; rfl
  rw [hz] at e1
  have hg : w.heap.size < w1.heap.size := (Blk.new e1).lt
  have hcells : (((List.replicate m (⟨0, 0, none, 0, 0⟩ : PgC)).map pgE).flatten.toArray).size = m * 3 := by
    rw [← hz]
    simp only [List.size_toArray]
    rw [hz, List.map_replicate, List.length_flatten]
    simp [pgE]
  have hO : Own w1 t_coadjutorref22_Page 3 (some ⟨w.heap.size, 0, none⟩) m m ((List.replicate m (⟨0, 0, none, 0, 0⟩ : PgC)).map pgE).flatten (· = w.heap.size) := Own.made (F := (· = w.heap.size)) e1 hcells (by unfold maxLen; omega) rfl
  have hB2 := Blk.new e2
  have hc2 : Ch Non w1 w2 := Ch.alloc e2
  have hs2 : w1.heap.size < w2.heap.size := hB2.lt
  refine ⟨w1.heap.size, rfl, ⟨some ⟨w.heap.size, 0, none⟩, m, List.replicate m ⟨0, 0, none, 0, 0⟩, fun k i => (k = 0 ∧ i = w1.heap.size) ∨ (k = 1 ∧ i = w.heap.size), ⟨⟨fun k i hi => by omega, fun j k hjk i h1 h2 => by omega⟩, .inl ⟨rfl, rfl⟩, ?_, ?_, by simp⟩, fun k i hi => ⟨by omega, by omega⟩, fun i h1 h2 => ?_⟩, (Ch.alloc e1).andN hc2⟩
  · rw [List.length_replicate]; exact hB2
  · rw [List.length_replicate]
    exact (hO.keepN hc2).mono (fun i _ hi => .inr ⟨rfl, hi⟩)
  · rw [List.getElem_replicate, List.getElem_replicate]
    exact FPgR.zero _ _ _ _
theorem RefTake_spec (h : FPoolR w pb ps F) (v : Int) : Calls Try.prog i_coadjutorref22_Pool_Take #[.pointer (some ⟨pb, 0, none⟩), .int .i64 v] w (Ret fun x w' => x = .tuple #[.int .i64 (takeV ps v).1, .int .i64 (takeV ps v).2] ∧ FPoolR w' pb (takeP ps v) F ∧ Ch F w w') := by
  refine coadjutorref22_Pool_Take.calls _ _ ?_
  unfold coadjutorref22_Pool_Take.vc takeV takeP
  refine ⟨fun h1 => ?_, fun h1 => ⟨fun h2 => ?_, fun h2 => ?_⟩⟩
  · have h1 := of_decide_eq_true h1
    rw [if_pos (.inl h1), if_pos (.inl h1)]
    exact ⟨rfl, h, Ch.refl _ _⟩
  · have h2 := of_decide_eq_true h2
    rw [if_pos (.inr h2), if_pos (.inr h2)]
    exact ⟨rfl, h, Ch.refl _ _⟩
  · have h1 := of_decide_eq_false h1
    have h2 := of_decide_eq_false h2
    have hv : ¬ (v < 1 ∨ v > 2147483647) := by omega
    rw [if_neg hv, if_neg hv]
    have hml := h.len
    unfold maxLen at hml
    obtain ⟨o, c, gs, R, hC, hF, hP⟩ := h
    have hl := hC.len
    refine ⟨fun i k w' => w' = w ∧ ∃ j : Nat, i = j ∧ j ≤ ps.length ∧ k = ps.length - j ∧ ∀ m (hm : m < j) (h : m < ps.length), (ps[m].users == 0) = false, ⟨_, rfl, 0, rfl, Nat.zero_le _, rfl, fun m hm => by omega⟩, ?_⟩
    rintro jk i k w1 ⟨rfl, j, rfl, hj, rfl, hno⟩
    refine ⟨_, _, _, hC.blk.cell 0 rfl, fun hlt => ?_, fun hge => ?_⟩
    · have hlt : j < ps.length := by have := of_decide_eq_true hlt; omega
      have hjg : j < gs.length := by omega
      obtain ⟨p, hp, _, _, a1, _, k0, k1, k2⟩ := hC.at hjg
      have hu := (hP j hjg hlt).2.1
      subst hp
      refine ⟨_, _, _, hC.blk.cell 0 rfl, ⟨by omega, by omega⟩, _, a1, fun hz => ?_, fun hz => ?_⟩
      · rw [hu] at hz
        have hidx : takeI ps = j := (List.findIdx_eq hlt).2 ⟨hz, fun m hm => hno m hm (by omega)⟩
        rw [hidx, if_pos hlt]
        refine ⟨_, _, _, hC.blk.cell 0 rfl, ⟨by omega, by omega⟩, ⟨k0, k1, k2⟩, fun w2 e2 => ?_⟩
        obtain ⟨hC2, hc2⟩ := hC.put3 hjg rfl (g := ⟨v, 1, none, 0, 0⟩) e2
        exact ⟨rfl, FPoolR.write hC2 hc2 hF (by rw [List.length_set]) (FPgR.set hP (FPgR.zero _ _ _ _)), hc2.mono (fun i _ hi => hF 1 i hi)⟩
      · rw [hu] at hz
        refine ⟨ps.length - (j + 1), by omega, rfl, j + 1, by rw [wrap_id (by omega) (by omega)]; rfl, hlt, rfl, fun m hm h => ?_⟩
        by_cases hmj : m = j
        · subst hmj; exact hz
        · exact hno m (by omega) h
    · have hjl : j = ps.length := by have := of_decide_eq_false hge; omega
      subst hjl
      have hidx : takeI ps = ps.length := List.findIdx_eq_length.2 (fun p hp => by
        obtain ⟨m, hm, rfl⟩ := List.getElem_of_mem hp
        exact hno m hm hm)
      rw [hidx, if_neg (Nat.lt_irrefl _), List.set_eq_of_length_le (Nat.le_refl _)]
      exact ⟨rfl, ⟨o, c, gs, R, hC, hF, hP⟩, Ch.refl _ _⟩
def freeZ (ps : List PageD) : Nat := (ps.filter fun p => p.users == 0).length
theorem RefFree_spec (h : FPoolR w pb ps F) : Calls Try.prog i_coadjutorref22_Pool_Free #[.pointer (some ⟨pb, 0, none⟩)] w (Ret fun v w' => v = .int .i64 (freeZ ps) ∧ w' = w) := by
  refine coadjutorref22_Pool_Free.calls _ ?_
  unfold coadjutorref22_Pool_Free.vc
  have hml : ps.length ≤ maxLen := h.len
  unfold maxLen at hml
  obtain ⟨o, c, gs, R, hC, hF, hP⟩ := h
  have hl := hC.len
  refine ⟨fun n i k w' => w' = w ∧ ∃ j : Nat, i = j ∧ j ≤ ps.length ∧ k = ps.length - j ∧ n = freeZ (ps.take j), ⟨_, rfl, 0, rfl, Nat.zero_le _, rfl, rfl⟩, ?_⟩
  rintro jk n i k w' ⟨rfl, j, rfl, hj, rfl, rfl⟩
  refine ⟨_, _, _, hC.blk.cell 0 rfl, fun hlt => ?_, fun hge => ?_⟩
  · have hlt : j < ps.length := by have := of_decide_eq_true hlt; omega
    have hjg : j < gs.length := by omega
    obtain ⟨p, hp, _, _, a1, _⟩ := hC.at hjg
    have hu := (hP j hjg hlt).2.1
    subst hp
    have hle : freeZ (ps.take j) ≤ j := by
      unfold freeZ
      exact Nat.le_trans (List.length_filter_le _ _) (by simp; omega)
    have hs : freeZ (ps.take (j + 1)) = freeZ (ps.take j) + (if ps[j].users == 0 then 1 else 0) := by
      unfold freeZ
      rw [take_snoc ps j hlt, List.filter_append, List.length_append, List.filter_cons]
      split <;> simp
    refine ⟨_, _, _, hC.blk.cell 0 rfl, ⟨by omega, by omega⟩, _, a1, fun hz => ?_, fun hz => ?_⟩
    · rw [hu] at hz
      rw [hz] at hs
      refine ⟨ps.length - (j + 1), by omega, rfl, j + 1, by rw [wrap_id (by omega) (by omega)]; rfl, hlt, rfl, ?_⟩
      rw [wrap_id (by omega) (by omega), hs]; rfl
    · rw [hu] at hz
      rw [hz] at hs
      exact ⟨ps.length - (j + 1), by omega, rfl, j + 1, by rw [wrap_id (by omega) (by omega)]; rfl, hlt, rfl, by rw [hs]; rfl⟩
  · have : j = ps.length := by have := of_decide_eq_false hge; omega
    subst this
    rw [List.take_length]
    exact ⟨rfl, rfl⟩
end
end Go.Proofs.Ytpcddfhfchempaa.Pages
