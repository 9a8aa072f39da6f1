import Derived.Test.YtkbikekbaboclaaGreatPagesLaw2
import Derived.Test.YtkbikekbaboclaaGreatVcRefP
set_option linter.unusedVariables false
set_option linter.unusedSimpArgs false
namespace Go.Proofs.YtkbikekbaboclaaGreat.Pages
open Go Go.Proofs V Vc Step Go.RowKit
def FPgR (w : World) (g : PgC) (p : PageD) (Fd : Nat → Prop) : Prop :=
 g.ver = p.ver ∧ g.users = p.users ∧ g.en = p.es.length ∧ ∃ qs : List (Value × Value), Rd w g.eo (qs.map pairE).flatten Fd ∧ All2 (fun q e => EntV w q e Fd) qs p.es ∧ (∀ e ∈ p.es, smallE e)
structure FPoolC (w : World) (pb : Nat) (o : Option Addr) (c : Nat) (gs : List PgC) (R : Nat → Nat → Prop) (n : Nat) : Prop where
 fam : Fam w R
 z : R 0 pb
 blk : Blk w pb [.slice o n c] t_coadjutorref22_Pool
 own : Own w t_coadjutorref22_Page 3 o n c (gs.map pgE).flatten (R 1)
 len : gs.length = n
section
variable {w w' : World} {pb : Nat} {o : Option Addr} {c n : Nat} {gs : List PgC} {R : Nat → Nat → Prop} {ps : List PageD} {F G : Nat → Prop}
theorem FPoolC.at (h : FPoolC w pb o c gs R n) {j : Nat} (hj : j < gs.length) : ∃ p, o = some p ∧ R 1 p.block ∧ w.cell? (p.add (j * 3)) = some (.int .i64 gs[j].ver) ∧ w.cell? ((p.add (j * 3)).add 1) = some (.int .i64 gs[j].users) ∧ w.cell? ((p.add (j * 3)).add 2) = some (.slice gs[j].eo gs[j].en gs[j].ec) ∧
  ((∃ u, w.cell? (p.add (j * 3)) = some u) ∧ w.frozen? (p.add (j * 3)) = false) ∧ ((∃ u, w.cell? ((p.add (j * 3)).add 1) = some u) ∧ w.frozen? ((p.add (j * 3)).add 1) = false) ∧ ((∃ u, w.cell? ((p.add (j * 3)).add 2) = some u) ∧ w.frozen? ((p.add (j * 3)).add 2) = false) := by
 obtain ⟨p, hp, _, hF, hc⟩ := h.own.rd.elem (sz := 3) (fun _ => rfl) (by omega) hj
 have h0 := hc 0 _ rfl
 rw [add_none] at h0
 have f0 := flatten_at (enc := pgE) (sz := 3) (q := 0) gs (fun _ => rfl) hj (by omega)
 have f1 := flatten_at (enc := pgE) (sz := 3) (q := 1) gs (fun _ => rfl) hj (by omega)
 have f2 := flatten_at (enc := pgE) (sz := 3) (q := 2) gs (fun _ => rfl) hj (by omega)
 rw [Nat.add_zero] at f0
 refine ⟨p, hp, hF, h0, hc 1 _ rfl, hc 2 _ rfl, h.own.ok f0 hp, ?_, ?_⟩
 ·rw [add_add]; exact h.own.ok f1 hp
 ·rw [add_add]; exact h.own.ok f2 hp
end
section
variable {w : World} {pb : Nat} {ps : List PageD} {F G : Nat → Prop} {o : Option Addr} {l : List Int}
theorem FPgR.set {gs : List PgC} {Fd : Nat → Prop} (hP : ∀ (i : Nat) (h1 : i < gs.length) (h2 : i < ps.length), FPgR w gs[i] ps[i] Fd) {j : Nat} {g : PgC} {p : PageD} (hg : FPgR w g p Fd) :
  ∀ (i : Nat) (h1 : i < (gs.set j g).length) (h2 : i < (ps.set j p).length), FPgR w (gs.set j g)[i] (ps.set j p)[i] Fd := fun i h1 h2 => by
 rw [List.getElem_set, List.getElem_set]
 split
 ·exact hg
 ·exact hP i (by simpa using h1) (by simpa using h2)
end
end Go.Proofs.YtkbikekbaboclaaGreat.Pages
set_option linter.unusedVariables false
set_option linter.unusedSimpArgs false
namespace Go.Proofs.YtkbikekbaboclaaGreat.Pages
open Go Go.Proofs V Vc Step Go.RowKit
section
variable {w : World} {pb : Nat} {ps : List PageD} {F G : Nat → Prop} {o : Option Addr} {l : List Int}
end
end Go.Proofs.YtkbikekbaboclaaGreat.Pages
set_option linter.unusedVariables false
set_option linter.unusedSimpArgs false
namespace Go.Proofs.YtkbikekbaboclaaGreat.Pages
open Go Go.Proofs V Vc Step Go.RowKit
def zeroP (p : PageD) : PageD := if p.users = 0 then pg0 else p
def UseGo (ps : List PageD) (d : Int) : List PageD → List Int → Prop
 | _, [] => True
 | q, x :: r => isB ps x = true ∧ 0 ≤ (pgAt q x).users + d ∧ UseGo ps d (addU d q x) r
def NextR (W w : World) (qs : List PageD) (o : Option Addr) (c : Nat) (Fd : Nat → Prop) : Prop :=
 ∃ gs : List PgC, gs.length = qs.length ∧ Gr Non W w t_coadjutorref22_Page 3 o qs.length c (gs.map pgE).flatten ∧ ∀ (i : Nat) (h1 : i < gs.length) (h2 : i < qs.length), FPgR w gs[i] qs[i] Fd
section
variable {W w w' : World} {qs ps : List PageD} {o : Option Addr} {c : Nat} {Fd F G : Nat → Prop}
theorem NextR.at (h : NextR W w qs o c Fd) {j : Nat} (hj : j < qs.length) : ∃ p, o = some p ∧ w.cell? ((p.add (j * 3)).add 1) = some (.int .i64 qs[j].users) ∧
  ((∃ u, w.cell? (p.add (j * 3)) = some u) ∧ w.frozen? (p.add (j * 3)) = false) ∧ ((∃ u, w.cell? ((p.add (j * 3)).add 1) = some u) ∧ w.frozen? ((p.add (j * 3)).add 1) = false) ∧ ((∃ u, w.cell? ((p.add (j * 3)).add 2) = some u) ∧ w.frozen? ((p.add (j * 3)).add 2) = false) := by
 obtain ⟨gs, hl, hg, hP⟩ := h
 have hjg : j < gs.length := by omega
 obtain ⟨p, hp, _, hF, hc⟩ := hg.1.rd.elem (sz := 3) (enc := pgE) (fun _ => rfl) (by omega) hjg
 have f0 := flatten_at (enc := pgE) (sz := 3) (q := 0) gs (fun _ => rfl) hjg (by omega)
 have f1 := flatten_at (enc := pgE) (sz := 3) (q := 1) gs (fun _ => rfl) hjg (by omega)
 have f2 := flatten_at (enc := pgE) (sz := 3) (q := 2) gs (fun _ => rfl) hjg (by omega)
 rw [Nat.add_zero] at f0
 refine ⟨p, hp, ?_, hg.1.ok f0 hp, ?_, ?_⟩
 ·rw [← (hP j hjg hj).2.1]; exact hc 1 _ rfl
 ·rw [add_add]; exact hg.1.ok f1 hp
 ·rw [add_add]; exact hg.1.ok f2 hp
end
section
variable {w : World} {pb : Nat} {ps : List PageD} {F G : Nat → Prop} {o : Option Addr} {l : List Int}
end
end Go.Proofs.YtkbikekbaboclaaGreat.Pages
