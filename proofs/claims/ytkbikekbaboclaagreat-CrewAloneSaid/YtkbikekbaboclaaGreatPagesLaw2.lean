/- PagesUsers's contract: of every row of deeds the Go function answers true and leaves what was there; the conditions stand in each theorem. -/
import Derived.Test.YtkbikekbaboclaaGreatPagesLaw1
set_option linter.unusedVariables false
set_option linter.unusedSimpArgs false
namespace Go.Proofs.YtkbikekbaboclaaGreat.Pages
open Go Go.Proofs Go.Proofs.YtkbikekbaboclaaGreat.V Go.Proofs.YtkbikekbaboclaaGreat.Vc Go.Proofs.YtkbikekbaboclaaGreat.Step Go.RowKit

theorem pgAt_set {ps : List PageD} {i : Nat} {p : PageD} {y : Int} (hy : 0 ≤ y) (hi : i < ps.length) : pgAt (ps.set i p) y = if y.toNat = i then p else pgAt ps y := by
  unfold pgAt
  rw [if_pos hy, if_pos hy, List.getD_eq_getElem?_getD, List.getD_eq_getElem?_getD]
  split
  · rename_i h; rw [h, List.getElem?_set_self hi]; rfl
  · rename_i h; rw [List.getElem?_set_ne (fun e => h e.symm)]
structure Inv (k : Nat) (B : Int) (ps : List PageD) : Prop where
  len : ps.length = k
  pg : ∀ p ∈ ps, 0 ≤ p.users ∧ p.users ≤ B ∧ (p.users > 0 → 1 ≤ p.ver ∧ p.ver ≤ 4)
section
variable {k : Nat} {B : Int} {ps : List PageD} {l : List Int}
theorem Inv.bnd (h : Inv k B ps) : bnd B ps := fun p hp => by have := h.pg p hp; omega
theorem Inv.set (h : Inv k B ps) {B' : Int} (hB : B ≤ B') {i : Nat} {p : PageD} (hp : 0 ≤ p.users ∧ p.users ≤ B' ∧ (p.users > 0 → 1 ≤ p.ver ∧ p.ver ≤ 4)) : Inv k B' (ps.set i p) :=
  ⟨by rw [List.length_set]; exact h.len, fun q hq => by
    rcases mem_set_of hq with rfl | hq
    · exact hp
    · have := h.pg q hq; exact ⟨this.1, by omega, this.2.2⟩⟩
theorem Inv.le (h : Inv k B ps) {B' : Int} (hB : B ≤ B') : Inv k B' ps := ⟨h.len, fun q hq => by have := h.pg q hq; exact ⟨this.1, by omega, this.2.2⟩⟩
theorem Inv.at (h : Inv k B ps) {id : Int} (h0 : 0 ≤ id) (h1 : id.toNat < ps.length) : 0 ≤ (pgAt ps id).users ∧ (pgAt ps id).users ≤ B ∧ ((pgAt ps id).users > 0 → 1 ≤ (pgAt ps id).ver ∧ (pgAt ps id).ver ≤ 4) := by
  rw [pgAt_lt h0 h1]; exact h.pg _ (List.getElem_mem _)
theorem Inv.take (h : Inv k B ps) (hB : 1 ≤ B) {v : Int} (hv : 1 ≤ v ∧ v ≤ 4) : Inv k B (takeP ps v) := by
  unfold takeP
  rw [if_neg (by omega)]
  exact h.set (Int.le_refl _) ⟨by show (0 : Int) ≤ 1; omega, hB, fun _ => hv⟩
theorem Inv.put (h : Inv k B ps) (id : Int) (e : Ent) : Inv k B (putP ps id e) := by
  unfold putP
  split
  · rename_i hz
    have hb : isB ps id = true := by
      unfold putV at hz
      split at hz
      · assumption
      · cases hz
    obtain ⟨h0, h1⟩ := isB_lt hb
    exact h.set (Int.le_refl _) (h.at h0 h1)
  · exact h
theorem isB_pos {id : Int} (h : isB ps id = true) : (pgAt ps id).users > 0 := of_decide_eq_true h
theorem Inv.share : ∀ {l : List Int} {B : Int} {ps : List PageD}, Inv k B ps → allB ps l = true → Inv k (B + l.length) (shareL ps l)
  | [], B, ps, h, _ => by simpa [shareL] using h
  | x :: r, B, ps, h, ha => by
    unfold allB at ha
    rw [List.all_cons, Bool.and_eq_true, List.all_eq_true] at ha
    obtain ⟨h0, h1⟩ := isB_lt ha.1
    have hp := isB_pos ha.1
    have hat := h.at h0 h1
    have hs : Inv k (B + 1) (addU 1 ps x) := h.set (by omega) ⟨by show 0 ≤ (pgAt ps x).users + 1; omega, by show (pgAt ps x).users + 1 ≤ B + 1; omega, fun _ => hat.2.2 hp⟩
    have hall : allB (addU 1 ps x) r = true := by
      unfold allB
      rw [List.all_eq_true]
      intro y hy
      have hby := ha.2 y hy
      have hy0 := (isB_lt hby).1
      unfold isB addU
      rw [pgAt_set hy0 h1]
      split
      · exact decide_eq_true (by show (pgAt ps x).users + 1 > 0; omega)
      · exact hby
    have ih := Inv.share (l := r) hs hall
    have e1 : shareL ps (x :: r) = shareL (addU 1 ps x) r := rfl
    have e2 : B + ((x :: r).length : Int) = B + 1 + r.length := by rw [List.length_cons]; omega
    rw [e1, e2]; exact ih
theorem Inv.dropL : ∀ {l : List Int} {ps : List PageD}, Inv k B ps → (∀ x ∈ l, 0 ≤ x ∧ x.toNat < ps.length ∧ (l.count x : Int) ≤ (pgAt ps x).users) → Inv k B (Pages.dropL ps l)
  | [], ps, h, _ => h
  | x :: r, ps, h, ha => by
    obtain ⟨h0, h1, h2⟩ := ha x (by simp)
    rw [List.count_cons_self] at h2
    have hat := h.at h0 h1
    have hs : Inv k B (dropU ps x) := by
      unfold dropU
      split
      · exact h.set (Int.le_refl _) ⟨by simp [pg0], by simp [pg0]; omega, fun h => by simp [pg0] at h⟩
      · exact h.set (Int.le_refl _) ⟨by show 0 ≤ (pgAt ps x).users + -1; omega, by show (pgAt ps x).users + -1 ≤ B; omega, fun _ => hat.2.2 (by omega)⟩
    have e1 : Pages.dropL ps (x :: r) = Pages.dropL (dropU ps x) r := rfl
    rw [e1]
    refine Inv.dropL (l := r) hs fun y hy => ?_
    obtain ⟨y0, y1, y2⟩ := ha y (by simp [hy])
    refine ⟨y0, by rw [dropU_len]; exact y1, ?_⟩
    have hle : (r.count y : Int) ≤ ((x :: r).count y : Int) := by
      have := List.count_le_count_cons (a := y) (b := x) (l := r); omega
    unfold dropU
    split
    · rename_i hz
      rw [pgAt_set y0 h1]
      split
      · rename_i e
        have hxy : y = x := by omega
        subst hxy
        simp only [pg0]; omega
      · omega
    · unfold addU
      rw [pgAt_set y0 h1]
      split
      · rename_i e
        have hxy : y = x := by omega
        subst hxy
        show (r.count y : Int) ≤ (pgAt ps y).users + -1
        omega
      · omega
theorem Inv.drop (h : Inv k B ps) (ha : allB ps l = true) (ho : overB ps l = false) : Inv k B (Pages.dropL ps l) := by
  refine Inv.dropL h fun x hx => ?_
  unfold allB at ha
  rw [List.all_eq_true] at ha
  unfold overB at ho
  rw [List.any_eq_false] at ho
  obtain ⟨h0, h1⟩ := isB_lt (ha x hx)
  refine ⟨h0, h1, ?_⟩
  have := ho x hx
  simp only [decide_eq_true_eq] at this
  omega
end
end Go.Proofs.YtkbikekbaboclaaGreat.Pages
