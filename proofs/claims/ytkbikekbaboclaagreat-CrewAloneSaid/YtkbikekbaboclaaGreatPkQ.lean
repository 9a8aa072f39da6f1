/- For every pool of the document's in memory: what the document's layer 22 answers, and what it leaves; the conditions stand in each theorem. For every pool of the document's in memory: what the document's Put and Get of layer 22 leave and answer; the conditions stand in each theorem. For every pool of the document's in memory: what the document's Use of layer 22 leaves and answers; the conditions stand in each theorem. -/
import Derived.Test.YtkbikekbaboclaaGreatPagesLaw2
import Derived.Test.YtkbikekbaboclaaGreatVcRefP
set_option linter.unusedVariables false
set_option linter.unusedSimpArgs false
namespace Go.Proofs.YtkbikekbaboclaaGreat.Pages
open Go Go.Proofs Go.Proofs.YtkbikekbaboclaaGreat.V Go.Proofs.YtkbikekbaboclaaGreat.Vc Go.Proofs.YtkbikekbaboclaaGreat.Step Go.RowKit

/-- A page of the document's: its entries are only read. -/
def FPgR (w : World) (g : PgC) (p : PageD) (Fd : Nat → Prop) : Prop :=
  g.ver = p.ver ∧ g.users = p.users ∧ g.en = p.es.length ∧ ∃ qs : List (Value × Value), Rd w g.eo (qs.map pairE).flatten Fd ∧ All2 (fun q e => EntV w q e Fd) qs p.es ∧ (∀ e ∈ p.es, smallE e)
theorem FPgR.keep {w w' : World} {g : PgC} {p : PageD} {Fd G : Nat → Prop} (h : FPgR w g p Fd) (hc : Ch G w w') (h2 : ∀ i, i < w.heap.size → Fd i → ¬ G i) : FPgR w' g p Fd := by
  obtain ⟨a, b, c, qs, d, e, f⟩ := h
  exact ⟨a, b, c, qs, d.keep hc h2, e.imp (fun _ _ k => k.keep hc h2), f⟩
theorem FPgR.mono {w : World} {g : PgC} {p : PageD} {Fd G : Nat → Prop} (h : FPgR w g p Fd) (h2 : ∀ i, i < w.heap.size → Fd i → G i) : FPgR w g p G := by
  obtain ⟨a, b, c, qs, d, e, f⟩ := h
  exact ⟨a, b, c, qs, d.mono h2, e.imp (fun _ _ k => k.mono h2), f⟩
structure FPoolC (w : World) (pb : Nat) (o : Option Addr) (c : Nat) (gs : List PgC) (R : Nat → Nat → Prop) (n : Nat) : Prop where
  fam : Fam w R
  z : R 0 pb
  blk : Blk w pb [.slice o n c] t_coadjutorref22_Pool
  own : Own w t_coadjutorref22_Page 3 o n c (gs.map pgE).flatten (R 1)
  len : gs.length = n
/-- A pool, all of it in F. -/
def FPoolR (w : World) (pb : Nat) (ps : List PageD) (F : Nat → Prop) : Prop :=
  ∃ (o : Option Addr) (c : Nat) (gs : List PgC) (R : Nat → Nat → Prop), FPoolC w pb o c gs R ps.length ∧ (∀ k i, R k i → F i) ∧ ∀ (i : Nat) (h1 : i < gs.length) (h2 : i < ps.length), FPgR w gs[i] ps[i] (R 2)
section
variable {w w' : World} {pb : Nat} {o : Option Addr} {c n : Nat} {gs : List PgC} {R : Nat → Nat → Prop} {ps : List PageD} {F G : Nat → Prop}
theorem FPoolC.keep (h : FPoolC w pb o c gs R n) (hc : Ch G w w') (hd : ∀ k i, R k i → ¬ G i) : FPoolC w' pb o c gs R n :=
  ⟨h.fam.le hc.size, h.z, h.blk.keep hc (hd 0 pb h.z), h.own.keep hc (fun i _ hi => hd 1 i hi), h.len⟩
theorem FPoolR.keep (h : FPoolR w pb ps F) (hc : Ch G w w') (hd : ∀ i, i < w.heap.size → F i → ¬ G i) : FPoolR w' pb ps F := by
  obtain ⟨o, c, gs, R, hC, hF, hP⟩ := h
  have hd' : ∀ k i, R k i → ¬ G i := fun k i hi => hd i (hC.fam.1 k i hi) (hF k i hi)
  exact ⟨o, c, gs, R, hC.keep hc hd', hF, fun i h1 h2 => (hP i h1 h2).keep hc (fun j _ hj => hd' _ j hj)⟩
theorem FPoolR.keepN (h : FPoolR w pb ps F) (hc : Ch Non w w') : FPoolR w' pb ps F := h.keep hc (fun _ _ _ => id)
theorem FPoolR.mono (h : FPoolR w pb ps F) (hg : ∀ i, i < w.heap.size → F i → G i) : FPoolR w pb ps G := by
  obtain ⟨o, c, gs, R, hC, hF, hP⟩ := h
  exact ⟨o, c, gs, R, hC, fun k i hi => hg i (hC.fam.1 k i hi) (hF k i hi), hP⟩
theorem FPoolR.lt (h : FPoolR w pb ps F) : pb < w.heap.size ∧ F pb := by
  obtain ⟨o, c, gs, R, hC, hF, hP⟩ := h
  exact ⟨hC.blk.lt, hF 0 pb hC.z⟩
theorem FPoolR.len (h : FPoolR w pb ps F) : ps.length ≤ maxLen := by
  obtain ⟨o, c, gs, R, hC, hF, hP⟩ := h
  exact Nat.le_trans hC.own.2.1 hC.own.2.2.1
/-- A page's cells. -/
theorem FPoolC.at (h : FPoolC w pb o c gs R n) {j : Nat} (hj : j < gs.length) : ∃ p, o = some p ∧ R 1 p.block ∧ w.cell? (p.add (j * 3)) = some (.int .i64 gs[j].ver) ∧ w.cell? ((p.add (j * 3)).add 1) = some (.int .i64 gs[j].users) ∧ w.cell? ((p.add (j * 3)).add 2) = some (.slice gs[j].eo gs[j].en gs[j].ec) ∧
    ((∃ u, w.cell? (p.add (j * 3)) = some u) ∧ w.frozen? (p.add (j * 3)) = false) ∧ ((∃ u, w.cell? ((p.add (j * 3)).add 1) = some u) ∧ w.frozen? ((p.add (j * 3)).add 1) = false) ∧ ((∃ u, w.cell? ((p.add (j * 3)).add 2) = some u) ∧ w.frozen? ((p.add (j * 3)).add 2) = false) := by
  obtain ⟨p, hp, _, hF, hc⟩ := h.own.rd.elem (sz := 3) (fun _ => rfl) (by omega) hj
  have h0 := hc 0 _ rfl
  rw [add_none] at h0
  have f0 := flatten_at (enc := pgE) (sz := 3) (q := 0) gs (fun _ => rfl) hj (by omega)
  have f1 := flatten_at (enc := pgE) (sz := 3) (q := 1) gs (fun _ => rfl) hj (by omega)
  have f2 := flatten_at (enc := pgE) (sz := 3) (q := 2) gs (fun _ => rfl) hj (by omega)
  rw [Nat.add_zero] at f0
  refine ⟨p, hp, hF, h0, hc 1 _ rfl, hc 2 _ rfl, h.own.ok f0 hp, ?_, ?_⟩
  · rw [add_add]; exact h.own.ok f1 hp
  · rw [add_add]; exact h.own.ok f2 hp
/-- One field of a page is laid anew. -/
theorem FPoolC.put (h : FPoolC w pb o c gs R n) {j q : Nat} (hj : j < gs.length) {p : Addr} (hp : o = some p) (hq : q < 3) {v : Value} (ew : w' = w.setCell ((p.add (j * 3)).add q) v) {g : PgC} (hg : pgE g = (pgE gs[j]).set q v) :
    FPoolC w' pb o c (gs.set j g) R n ∧ Ch (R 1) w w' := by
  rw [add_add] at ew
  have hlt : j * 3 + q < (gs.map pgE).flatten.length := by
    have := h.own.len
    rw [this, ← h.len]; omega
  obtain ⟨h1, h2⟩ := h.own.set hlt hp ew
  rw [flatten_set (enc := pgE) gs (fun _ => rfl) hj hg hq] at h1
  exact ⟨⟨h.fam.le h2.size, h.z, h.blk.keep h2 (fun hx => h.fam.2 0 1 (by omega) pb h.z hx), h1, by rw [List.length_set]; exact h.len⟩, h2⟩
/-- All of a page is laid anew. -/
theorem FPoolC.put3 (h : FPoolC w pb o c gs R n) {j : Nat} (hj : j < gs.length) {p : Addr} (hp : o = some p) {g : PgC} (ew : w' = ((w.setCell (p.add (j * 3)) (.int .i64 g.ver)).setCell ((p.add (j * 3)).add 1) (.int .i64 g.users)).setCell ((p.add (j * 3)).add 2) (.slice g.eo g.en g.ec)) :
    FPoolC w' pb o c (gs.set j g) R n ∧ Ch (R 1) w w' := by
  have h0 : w.setCell (p.add (j * 3)) (.int .i64 g.ver) = w.setCell ((p.add (j * 3)).add 0) (.int .i64 g.ver) := by rw [add_none]
  rw [h0] at ew
  obtain ⟨a1, b1⟩ := h.put hj hp (q := 0) (by omega) rfl (g := ⟨g.ver, gs[j].users, gs[j].eo, gs[j].en, gs[j].ec⟩) rfl
  have hj1 : j < (gs.set j ⟨g.ver, gs[j].users, gs[j].eo, gs[j].en, gs[j].ec⟩).length := by rw [List.length_set]; exact hj
  obtain ⟨a2, b2⟩ := a1.put hj1 hp (q := 1) (by omega) rfl (g := ⟨g.ver, g.users, gs[j].eo, gs[j].en, gs[j].ec⟩) (by rw [List.getElem_set_self]; rfl)
  rw [List.set_set] at a2
  have hj2 : j < (gs.set j ⟨g.ver, g.users, gs[j].eo, gs[j].en, gs[j].ec⟩).length := by rw [List.length_set]; exact hj
  obtain ⟨a3, b3⟩ := a2.put hj2 hp (q := 2) (by omega) ew (g := g) (by rw [List.getElem_set_self]; rfl)
  rw [List.set_set] at a3
  exact ⟨a3, (b1.same b2).same b3⟩
/-- Pages laid anew in the pages' own row. -/
theorem FPoolR.write {gs' : List PgC} {ps' : List PageD} (hC : FPoolC w' pb o c gs' R n) (hc : Ch (R 1) w w') (hF : ∀ k i, R k i → F i) (hn : ps'.length = n) (hP : ∀ (i : Nat) (h1 : i < gs'.length) (h2 : i < ps'.length), FPgR w gs'[i] ps'[i] (R 2)) : FPoolR w' pb ps' F := by
  subst hn
  exact ⟨o, c, gs', R, hC, hF, fun i h1 h2 => (hP i h1 h2).keep hc (fun j _ a b => hC.fam.2 2 1 (by omega) j a b)⟩
end
section
variable {w : World} {pb : Nat} {ps : List PageD} {F G : Nat → Prop} {o : Option Addr} {l : List Int}
/-- One page laid anew. -/
theorem FPgR.set {gs : List PgC} {Fd : Nat → Prop} (hP : ∀ (i : Nat) (h1 : i < gs.length) (h2 : i < ps.length), FPgR w gs[i] ps[i] Fd) {j : Nat} {g : PgC} {p : PageD} (hg : FPgR w g p Fd) :
    ∀ (i : Nat) (h1 : i < (gs.set j g).length) (h2 : i < (ps.set j p).length), FPgR w (gs.set j g)[i] (ps.set j p)[i] Fd := fun i h1 h2 => by
  rw [List.getElem_set, List.getElem_set]
  split
  · exact hg
  · exact hP i (by simpa using h1) (by simpa using h2)
theorem FPgR.zero (w : World) (v u : Int) (Fd : Nat → Prop) : FPgR w ⟨v, u, none, 0, 0⟩ ⟨v, u, []⟩ Fd := ⟨rfl, rfl, rfl, [], Rd.nil _ _ _, .nil, fun e he => by cases he⟩
end
end Go.Proofs.YtkbikekbaboclaaGreat.Pages

set_option linter.unusedVariables false
set_option linter.unusedSimpArgs false
namespace Go.Proofs.YtkbikekbaboclaaGreat.Pages
open Go Go.Proofs Go.Proofs.YtkbikekbaboclaaGreat.V Go.Proofs.YtkbikekbaboclaaGreat.Vc Go.Proofs.YtkbikekbaboclaaGreat.Step Go.RowKit

theorem pairs_len (qs : List (Value × Value)) : (qs.map pairE).flatten.length = qs.length * 2 := by
  induction qs with
  | nil => rfl
  | cons q r ih => rw [List.map_cons, List.flatten_cons, List.length_append, ih, List.length_cons]; simp [pairE]; omega
theorem EntV.one {w : World} {q : Value × Value} {e : Ent} {F : Nat → Prop} (h : EntV w q e F) : q.1.oneCell' = true ∧ q.2.oneCell' = true := by
  obtain ⟨⟨o1, c1, v1, h1, _, _⟩, ⟨o2, c2, v2, h2, _, _⟩⟩ := h
  rw [h1, h2]; exact ⟨rfl, rfl⟩
theorem pairs_one {w : World} {F : Nat → Prop} : ∀ {qs : List (Value × Value)} {es : List Ent}, All2 (fun q e => EntV w q e F) qs es → ∀ u ∈ (qs.map pairE).flatten, u.oneCell' = true
  | _, _, .nil, u, hu => by simp at hu
  | _, _, .cons (x := q) a b, u, hu => by
    rw [List.map_cons, List.flatten_cons, List.mem_append] at hu
    rcases hu with hu | hu
    · simp only [pairE, List.mem_cons, List.not_mem_nil, or_false] at hu
      rcases hu with rfl | rfl
      · exact (EntV.one a).1
      · exact (EntV.one a).2
    · exact pairs_one b u hu
section
variable {w : World} {pb : Nat} {ps : List PageD} {F G : Nat → Prop} {o : Option Addr} {l : List Int}
end
end Go.Proofs.YtkbikekbaboclaaGreat.Pages

set_option linter.unusedVariables false
set_option linter.unusedSimpArgs false
namespace Go.Proofs.YtkbikekbaboclaaGreat.Pages
open Go Go.Proofs Go.Proofs.YtkbikekbaboclaaGreat.V Go.Proofs.YtkbikekbaboclaaGreat.Vc Go.Proofs.YtkbikekbaboclaaGreat.Step Go.RowKit

def useQ (d : Int) (ps : List PageD) (l : List Int) : List PageD := l.foldl (addU d) ps
def zeroP (p : PageD) : PageD := if p.users = 0 then pg0 else p
def UseGo (ps : List PageD) (d : Int) : List PageD → List Int → Prop
  | _, [] => True
  | q, x :: r => isB ps x = true ∧ 0 ≤ (pgAt q x).users + d ∧ UseGo ps d (addU d q x) r
theorem UseGo.left {ps : List PageD} {d : Int} {b : List Int} : ∀ {a : List Int} {q : List PageD}, UseGo ps d q (a ++ b) → UseGo ps d q a
  | [], _, _ => trivial
  | _ :: _, _, h => ⟨h.1, h.2.1, UseGo.left h.2.2⟩
theorem UseGo.snoc {ps : List PageD} {d x : Int} : ∀ {a : List Int} {q : List PageD}, UseGo ps d q (a ++ [x]) ↔ (UseGo ps d q a ∧ isB ps x = true ∧ 0 ≤ (pgAt (useQ d q a) x).users + d)
  | [], q => ⟨fun h => ⟨trivial, h.1, h.2.1⟩, fun h => ⟨h.2.1, h.2.2, trivial⟩⟩
  | y :: r, q => by
    have ih := UseGo.snoc (ps := ps) (d := d) (x := x) (a := r) (q := addU d q y)
    exact ⟨fun h => ⟨⟨h.1, h.2.1, (ih.1 h.2.2).1⟩, (ih.1 h.2.2).2⟩, fun h => ⟨h.1.1, h.1.2.1, ih.2 ⟨h.1.2.2, h.2⟩⟩⟩
/-- The row that is made anew. -/
def NextR (W w : World) (qs : List PageD) (o : Option Addr) (c : Nat) (Fd : Nat → Prop) : Prop :=
  ∃ gs : List PgC, gs.length = qs.length ∧ Gr Non W w t_coadjutorref22_Page 3 o qs.length c (gs.map pgE).flatten ∧ ∀ (i : Nat) (h1 : i < gs.length) (h2 : i < qs.length), FPgR w gs[i] qs[i] Fd
section
variable {W w w' : World} {qs ps : List PageD} {o : Option Addr} {c : Nat} {Fd F G : Nat → Prop}
theorem NextR.keepN (h : NextR W w qs o c Fd) (hc : Ch Non w w') : NextR W w' qs o c Fd := by
  obtain ⟨gs, hl, hg, hP⟩ := h
  exact ⟨gs, hl, hg.keepN hc, fun i h1 h2 => (hP i h1 h2).keep hc (fun _ _ _ h => h)⟩
theorem NextR.at (h : NextR W w qs o c Fd) {j : Nat} (hj : j < qs.length) : ∃ p, o = some p ∧ w.cell? ((p.add (j * 3)).add 1) = some (.int .i64 qs[j].users) ∧
    ((∃ u, w.cell? (p.add (j * 3)) = some u) ∧ w.frozen? (p.add (j * 3)) = false) ∧ ((∃ u, w.cell? ((p.add (j * 3)).add 1) = some u) ∧ w.frozen? ((p.add (j * 3)).add 1) = false) ∧ ((∃ u, w.cell? ((p.add (j * 3)).add 2) = some u) ∧ w.frozen? ((p.add (j * 3)).add 2) = false) := by
  obtain ⟨gs, hl, hg, hP⟩ := h
  have hjg : j < gs.length := by omega
  obtain ⟨p, hp, _, hF, hc⟩ := hg.1.rd.elem (sz := 3) (enc := pgE) (fun _ => rfl) (by omega) hjg
  have f0 := flatten_at (enc := pgE) (sz := 3) (q := 0) gs (fun _ => rfl) hjg (by omega)
  have f1 := flatten_at (enc := pgE) (sz := 3) (q := 1) gs (fun _ => rfl) hjg (by omega)
  have f2 := flatten_at (enc := pgE) (sz := 3) (q := 2) gs (fun _ => rfl) hjg (by omega)
  rw [Nat.add_zero] at f0
  refine ⟨p, hp, ?_, hg.1.ok f0 hp, ?_, ?_⟩
  · rw [← (hP j hjg hj).2.1]; exact hc 1 _ rfl
  · rw [add_add]; exact hg.1.ok f1 hp
  · rw [add_add]; exact hg.1.ok f2 hp
theorem Gr.setP {gs : List PgC} {n : Nat} (h : Gr Non W w t_coadjutorref22_Page 3 o n c (gs.map pgE).flatten) (hn : gs.length = n) {j q : Nat} (hj : j < gs.length) {p : Addr} (hp : o = some p) (hq : q < 3) {v : Value} (ew : w' = w.setCell ((p.add (j * 3)).add q) v) {g : PgC} (hg : pgE g = (pgE gs[j]).set q v) :
    Gr Non W w' t_coadjutorref22_Page 3 o n c ((gs.set j g).map pgE).flatten ∧ Ch (New W w) w w' := by
  rw [add_add] at ew
  have hlt : j * 3 + q < (gs.map pgE).flatten.length := by
    have := h.1.len
    rw [this, ← hn]; omega
  obtain ⟨h1, h2⟩ := h.1.set hlt hp ew
  rw [flatten_set (enc := pgE) gs (fun _ => rfl) hj hg hq] at h1
  exact ⟨⟨h1.mono (fun i _ hi => New.le hi h2.size), h.2.trans h2 (fun i hi hN => absurd hi (Nat.not_lt.2 hN.1))⟩, h2⟩
theorem FPgR.sets {gs : List PgC} (hP : ∀ (i : Nat) (h1 : i < gs.length) (h2 : i < ps.length), FPgR w gs[i] ps[i] Fd) {j : Nat} {g : PgC} {p : PageD} (hg : FPgR w g p Fd) (hc : Ch G w w') (hd : ∀ i, i < w.heap.size → Fd i → ¬ G i) :
    ∀ (i : Nat) (h1 : i < (gs.set j g).length) (h2 : i < (ps.set j p).length), FPgR w' (gs.set j g)[i] (ps.set j p)[i] Fd := fun i h1 h2 => (FPgR.set hP hg i h1 h2).keep hc hd
theorem NextR.users (h : NextR W w qs o c Fd) (hd : ∀ i, Fd i → i < W.heap.size) {x : Int} (h0 : 0 ≤ x) (h1 : x.toNat < qs.length) {p : Addr} (hp : o = some p) {d : Int} (ew : w' = w.setCell ((p.add (x.toNat * 3)).add 1) (.int .i64 ((pgAt qs x).users + d))) :
    NextR W w' (addU d qs x) o c Fd ∧ Ch (New W w) w w' := by
  obtain ⟨gs, hl, hg, hP⟩ := h
  have hjg : x.toNat < gs.length := by omega
  obtain ⟨h2, h3⟩ := Gr.setP hg hl hjg hp (q := 1) (by omega) ew (g := ⟨gs[x.toNat].ver, (pgAt qs x).users + d, gs[x.toNat].eo, gs[x.toNat].en, gs[x.toNat].ec⟩) rfl
  obtain ⟨x1, x2, x3, x4⟩ := hP _ hjg h1
  rw [← pgAt_lt h0 h1] at x1 x3 x4
  unfold addU
  exact ⟨⟨_, by rw [List.length_set, List.length_set]; exact hl, by rw [List.length_set]; exact h2, FPgR.sets (g := ⟨gs[x.toNat].ver, (pgAt qs x).users + d, gs[x.toNat].eo, gs[x.toNat].en, gs[x.toNat].ec⟩) hP ⟨x1, rfl, x3, x4⟩ h3 (fun i _ hi hN => absurd (hd i hi) (Nat.not_lt.2 hN.1))⟩, h3⟩
theorem NextR.zero (h : NextR W w qs o c Fd) (hd : ∀ i, Fd i → i < W.heap.size) {j : Nat} (h1 : j < qs.length) {p : Addr} (hp : o = some p) (ew : w' = ((w.setCell (p.add (j * 3)) (.int .i64 0)).setCell ((p.add (j * 3)).add 1) (.int .i64 0)).setCell ((p.add (j * 3)).add 2) (.slice none 0 0)) :
    NextR W w' (qs.set j pg0) o c Fd ∧ Ch (New W w) w w' := by
  obtain ⟨gs, hl, hg, hP⟩ := h
  have hjg : j < gs.length := by omega
  have h0 : w.setCell (p.add (j * 3)) (.int .i64 0) = w.setCell ((p.add (j * 3)).add 0) (.int .i64 0) := by rw [add_none]
  rw [h0] at ew
  obtain ⟨a1, b1⟩ := Gr.setP hg hl hjg hp (q := 0) (by omega) rfl (g := ⟨0, gs[j].users, gs[j].eo, gs[j].en, gs[j].ec⟩) rfl
  obtain ⟨a2, b2⟩ := Gr.setP a1 (by rw [List.length_set]; exact hl) (j := j) (by rw [List.length_set]; exact hjg) hp (q := 1) (by omega) rfl (g := ⟨0, 0, gs[j].eo, gs[j].en, gs[j].ec⟩) (by rw [List.getElem_set_self]; rfl)
  rw [List.set_set] at a2
  obtain ⟨a3, b3⟩ := Gr.setP a2 (by rw [List.length_set]; exact hl) (j := j) (by rw [List.length_set]; exact hjg) hp (q := 2) (by omega) ew (g := ⟨0, 0, none, 0, 0⟩) (by rw [List.getElem_set_self]; rfl)
  rw [List.set_set] at a3
  have hc : Ch (New W w) w w' := (b1.trans b2 (fun i hi hN => ⟨hN.1, hi⟩)).trans b3 (fun i hi hN => ⟨hN.1, hi⟩)
  exact ⟨⟨_, by rw [List.length_set, List.length_set]; exact hl, by rw [List.length_set]; exact a3, FPgR.sets hP (FPgR.zero _ _ _ _) hc (fun i _ hi hN => absurd (hd i hi) (Nat.not_lt.2 hN.1))⟩, hc⟩
end
section
variable {w : World} {pb : Nat} {ps : List PageD} {F G : Nat → Prop} {o : Option Addr} {l : List Int}
end
end Go.Proofs.YtkbikekbaboclaaGreat.Pages
