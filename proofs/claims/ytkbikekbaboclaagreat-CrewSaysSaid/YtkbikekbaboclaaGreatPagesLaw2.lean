import Derived.Test.YtkbikekbaboclaaGreatPagesLaw1
set_option linter.unusedVariables false
set_option linter.unusedSimpArgs false
namespace Go.Proofs.YtkbikekbaboclaaGreat.Pages
open Go Go.Proofs V Vc Step Go.RowKit
theorem pgAt_set {ps : List PageD} {i : Nat} {p : PageD} {y : Int} (hy : 0 ≤ y) (hi : i < ps.length) : pgAt (ps.set i p) y = if y.toNat = i then p else pgAt ps y := by
 unfold pgAt
 rw [if_pos hy, if_pos hy, List.getD_eq_getElem?_getD, List.getD_eq_getElem?_getD]
 split
 ·rename_i h; rw [h, List.getElem?_set_self hi]; rfl
 ·rename_i h; rw [List.getElem?_set_ne (fun e => h e.symm)]
structure Inv (k : Nat) (B : Int) (ps : List PageD) : Prop where
 len : ps.length = k
 pg : ∀ p ∈ ps, 0 ≤ p.users ∧ p.users ≤ B ∧ (p.users > 0 → 1 ≤ p.ver ∧ p.ver ≤ 4)
section
variable {k : Nat} {B : Int} {ps : List PageD} {l : List Int}
theorem Inv.set (h : Inv k B ps) {B' : Int} (hB : B ≤ B') {i : Nat} {p : PageD} (hp : 0 ≤ p.users ∧ p.users ≤ B' ∧ (p.users > 0 → 1 ≤ p.ver ∧ p.ver ≤ 4)) : Inv k B' (ps.set i p) :=
 ⟨by rw [List.length_set]; exact h.len, fun q hq => by
  rcases mem_set_of hq with rfl | hq
  ·exact hp
  ·have := h.pg q hq; exact ⟨this.1, by omega, this.2.2⟩⟩
theorem Inv.at (h : Inv k B ps) {id : Int} (h0 : 0 ≤ id) (h1 : id.toNat < ps.length) : 0 ≤ (pgAt ps id).users ∧ (pgAt ps id).users ≤ B ∧ ((pgAt ps id).users > 0 → 1 ≤ (pgAt ps id).ver ∧ (pgAt ps id).ver ≤ 4) := by
 rw [pgAt_lt h0 h1]; exact h.pg _ (List.getElem_mem _)
theorem isB_pos {id : Int} (h : isB ps id = true) : (pgAt ps id).users > 0 := of_decide_eq_true h
theorem Inv.share : ∀ {l : List Int} {B : Int} {ps : List PageD}, Inv k B ps → allB ps l = true → Inv k (B + l.length) (shareL ps l)
 | [], B, ps, h, _ => by simpa [shareL] using h
 | x :: r, B, ps, h, ha => by
  unfold allB at ha
  rw [List.all_cons, Bool.and_eq_true, List.all_eq_true] at ha
  obtain ⟨h0, h1⟩ := isB_lt ha.1
  have hp := isB_pos ha.1
  have hat := h.at h0 h1
  have hs : Inv k (B + 1) (addU 1 ps x) := h.set (by omega) ⟨by show 0 ≤ (pgAt ps x).users + 1; omega, by show (pgAt ps x).users + 1 ≤ B + 1; omega, fun _ => hat.2.2 hp⟩
  have hall : allB (addU 1 ps x) r = true := by
   unfold allB
   rw [List.all_eq_true]
   intro y hy
   have hby := ha.2 y hy
   have hy0 := (isB_lt hby).1
   unfold isB addU
   rw [pgAt_set hy0 h1]
   split
   ·exact decide_eq_true (by show (pgAt ps x).users + 1 > 0; omega)
   ·exact hby
  have ih := Inv.share (l := r) hs hall
  have e1 : shareL ps (x :: r) = shareL (addU 1 ps x) r := rfl
  have e2 : B + ((x :: r).length : Int) = B + 1 + r.length := by rw [List.length_cons]; omega
  rw [e1, e2]; exact ih
theorem Inv.dropL : ∀ {l : List Int} {ps : List PageD}, Inv k B ps → (∀ x ∈ l, 0 ≤ x ∧ x.toNat < ps.length ∧ (l.count x : Int) ≤ (pgAt ps x).users) → Inv k B (Pages.dropL ps l)
 | [], ps, h, _ => h
 | x :: r, ps, h, ha => by
  obtain ⟨h0, h1, h2⟩ := ha x (by simp)
  rw [List.count_cons_self] at h2
  have hat := h.at h0 h1
  have hs : Inv k B (dropU ps x) := by
   unfold dropU
   split
   ·exact h.set (Int.le_refl _) ⟨by simp [pg0], by simp [pg0]; omega, fun h => by simp [pg0] at h⟩
   ·exact h.set (Int.le_refl _) ⟨by show 0 ≤ (pgAt ps x).users + -1; omega, by show (pgAt ps x).users + -1 ≤ B; omega, fun _ => hat.2.2 (by omega)⟩
  have e1 : Pages.dropL ps (x :: r) = Pages.dropL (dropU ps x) r := rfl
  rw [e1]
  refine Inv.dropL (l := r) hs fun y hy => ?_
  obtain ⟨y0, y1, y2⟩ := ha y (by simp [hy])
  refine ⟨y0, by rw [dropU_len]; exact y1, ?_⟩
  have hle : (r.count y : Int) ≤ ((x :: r).count y : Int) := by
   have := List.count_le_count_cons (a := y) (b := x) (l := r); omega
  unfold dropU
  split
  ·rename_i hz
   rw [pgAt_set y0 h1]
   split
   ·rename_i e
    have hxy : y = x := by omega
    subst hxy
    simp only [pg0]; omega
   ·omega
  ·unfold addU
   rw [pgAt_set y0 h1]
   split
   ·rename_i e
    have hxy : y = x := by omega
    subst hxy
    show (r.count y : Int) ≤ (pgAt ps y).users + -1
    omega
   ·omega
end
theorem modP (x : Int) {n : Int} (h : 1 ≤ n ∧ n ≤ 1000) : 1 ≤ IntKind.i64.wrap (1 + IntKind.i64.wrap (Int.tmod (IntKind.u64.wrap x) n)) ∧ IntKind.i64.wrap (1 + IntKind.i64.wrap (Int.tmod (IntKind.u64.wrap x) n)) ≤ n := by
 rw [wrap_u64, tmod_pos (Int.emod_nonneg _ (by omega))]
 have h1 := Int.emod_nonneg (x % 18446744073709551616) (show n ≠ 0 by omega)
 have h2 := Int.emod_lt_of_pos (x % 18446744073709551616) (show 0 < n by omega)
 rw [wrap_id (x := _ % n) (by omega) (by omega), wrap_id (by omega) (by omega)]
 omega
end Go.Proofs.YtkbikekbaboclaaGreat.Pages
