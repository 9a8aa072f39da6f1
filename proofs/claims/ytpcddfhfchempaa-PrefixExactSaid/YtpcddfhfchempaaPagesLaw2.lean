/- PagesUsers's contract: of every row of deeds the Go function answers true and leaves what was there; the conditions stand in each theorem. -/
import Derived.Test.YtpcddfhfchempaaPagesLaw1
set_option linter.unusedVariables false
set_option linter.unusedSimpArgs false
namespace Go.Proofs.Ytpcddfhfchempaa.Pages
open Go Go.Proofs Go.Proofs.Ytpcddfhfchempaa.V Go.Proofs.Ytpcddfhfchempaa.Vc Go.Proofs.Ytpcddfhfchempaa.Step Go.RowKit

theorem pgAt_set {ps : List PageD} {i : Nat} {p : PageD} {y : Int} (hy : 0 ≤ y) (hi : i < ps.length) : pgAt (ps.set i p) y = if y.toNat = i then p else pgAt ps y := by
  unfold pgAt
  rw [if_pos hy, if_pos hy, List.getD_eq_getElem?_getD, List.getD_eq_getElem?_getD]
  split
  · rename_i h; rw [h, List.getElem?_set_self hi]; rfl
  · rename_i h; rw [List.getElem?_set_ne (fun e => h e.symm)]
structure Inv (k : Nat) (B : Int) (ps : List PageD) : Prop where
  len : ps.length = k
  pg : ∀ p ∈ ps, 0 ≤ p.users ∧ p.users ≤ B ∧ (p.users > 0 → 1 ≤ p.ver ∧ p.ver ≤ 4)
section
variable {k : Nat} {B : Int} {ps : List PageD} {l : List Int}
theorem Inv.bnd (h : Inv k B ps) : bnd B ps := fun p hp => by have := h.pg p hp; omega
theorem Inv.set (h : Inv k B ps) {B' : Int} (hB : B ≤ B') {i : Nat} {p : PageD} (hp : 0 ≤ p.users ∧ p.users ≤ B' ∧ (p.users > 0 → 1 ≤ p.ver ∧ p.ver ≤ 4)) : Inv k B' (ps.set i p) :=
  ⟨by rw [List.length_set]; exact h.len, fun q hq => by
    rcases mem_set_of hq with rfl | hq
    · exact hp
    · have := h.pg q hq; exact ⟨this.1, by omega, this.2.2⟩⟩
theorem Inv.le (h : Inv k B ps) {B' : Int} (hB : B ≤ B') : Inv k B' ps := ⟨h.len, fun q hq => by have := h.pg q hq; exact ⟨this.1, by omega, this.2.2⟩⟩
theorem Inv.at (h : Inv k B ps) {id : Int} (h0 : 0 ≤ id) (h1 : id.toNat < ps.length) : 0 ≤ (pgAt ps id).users ∧ (pgAt ps id).users ≤ B ∧ ((pgAt ps id).users > 0 → 1 ≤ (pgAt ps id).ver ∧ (pgAt ps id).ver ≤ 4) := by
  rw [pgAt_lt h0 h1]; exact h.pg _ (List.getElem_mem _)
theorem Inv.take (h : Inv k B ps) (hB : 1 ≤ B) {v : Int} (hv : 1 ≤ v ∧ v ≤ 4) : Inv k B (takeP ps v) := by
  unfold takeP
  rw [if_neg (by omega)]
  exact h.set (Int.le_refl _) ⟨by show (0 : Int) ≤ 1; omega, hB, fun _ => hv⟩
theorem Inv.put (h : Inv k B ps) (id : Int) (e : Ent) : Inv k B (putP ps id e) := by
  unfold putP
  split
  · rename_i hz
    have hb : isB ps id = true := by
      unfold putV at hz
      split at hz
      · assumption
      · cases hz
    obtain ⟨h0, h1⟩ := isB_lt hb
    exact h.set (Int.le_refl _) (h.at h0 h1)
  · exact h
theorem isB_pos {id : Int} (h : isB ps id = true) : (pgAt ps id).users > 0 := of_decide_eq_true h
theorem Inv.share : ∀ {l : List Int} {B : Int} {ps : List PageD}, Inv k B ps → allB ps l = true → Inv k (B + l.length) (shareL ps l)
  | [], B, ps, h, _ => by simpa [shareL] using h
  | x :: r, B, ps, h, ha => by
    unfold allB at ha
    rw [List.all_cons, Bool.and_eq_true, List.all_eq_true] at ha
    obtain ⟨h0, h1⟩ := isB_lt ha.1
    have hp := isB_pos ha.1
    have hat := h.at h0 h1
    have hs : Inv k (B + 1) (addU 1 ps x) := h.set (by omega) ⟨by show 0 ≤ (pgAt ps x).users + 1; omega, by show (pgAt ps x).users + 1 ≤ B + 1; omega, fun _ => hat.2.2 hp⟩
    have hall : allB (addU 1 ps x) r = true := by
      unfold allB
      rw [List.all_eq_true]
      intro y hy
      have hby := ha.2 y hy
      have hy0 := (isB_lt hby).1
      unfold isB addU
      rw [pgAt_set hy0 h1]
      split
      · exact decide_eq_true (by show (pgAt ps x).users + 1 > 0; omega)
      · exact hby
    have ih := Inv.share (l := r) hs hall
    have e1 : shareL ps (x :: r) = shareL (addU 1 ps x) r := rfl
    have e2 : B + ((x :: r).length : Int) = B + 1 + r.length := by rw [List.length_cons]; omega
    rw [e1, e2]; exact ih
theorem Inv.dropL : ∀ {l : List Int} {ps : List PageD}, Inv k B ps → (∀ x ∈ l, 0 ≤ x ∧ x.toNat < ps.length ∧ (l.count x : Int) ≤ (pgAt ps x).users) → Inv k B (Pages.dropL ps l)
  | [], ps, h, _ => h
  | x :: r, ps, h, ha => by
    obtain ⟨h0, h1, h2⟩ := ha x (by simp)
    rw [List.count_cons_self] at h2
    have hat := h.at h0 h1
    have hs : Inv k B (dropU ps x) := by
      unfold dropU
      split
      · exact h.set (Int.le_refl _) ⟨by simp [pg0], by simp [pg0]; omega, fun h => by simp [pg0] at h⟩
      · exact h.set (Int.le_refl _) ⟨by show 0 ≤ (pgAt ps x).users + -1; omega, by show (pgAt ps x).users + -1 ≤ B; omega, fun _ => hat.2.2 (by omega)⟩
    have e1 : Pages.dropL ps (x :: r) = Pages.dropL (dropU ps x) r := rfl
    rw [e1]
    refine Inv.dropL (l := r) hs fun y hy => ?_
    obtain ⟨y0, y1, y2⟩ := ha y (by simp [hy])
    refine ⟨y0, by rw [dropU_len]; exact y1, ?_⟩
    have hle : (r.count y : Int) ≤ ((x :: r).count y : Int) := by
      have := List.count_le_count_cons (a := y) (b := x) (l := r); omega
    unfold dropU
    split
    · rename_i hz
      rw [pgAt_set y0 h1]
      split
      · rename_i e
        have hxy : y = x := by omega
        subst hxy
        simp only [pg0]; omega
      · omega
    · unfold addU
      rw [pgAt_set y0 h1]
      split
      · rename_i e
        have hxy : y = x := by omega
        subst hxy
        show (r.count y : Int) ≤ (pgAt ps y).users + -1
        omega
      · omega
theorem Inv.drop (h : Inv k B ps) (ha : allB ps l = true) (ho : overB ps l = false) : Inv k B (Pages.dropL ps l) := by
  refine Inv.dropL h fun x hx => ?_
  unfold allB at ha
  rw [List.all_eq_true] at ha
  unfold overB at ho
  rw [List.any_eq_false] at ho
  obtain ⟨h0, h1⟩ := isB_lt (ha x hx)
  refine ⟨h0, h1, ?_⟩
  have := ho x hx
  simp only [decide_eq_true_eq] at this
  omega
theorem count_all (h : Inv k B ps) : (ofL ps 1 k).length + (ofL ps 2 k).length + (ofL ps 3 k).length + (ofL ps 4 k).length + freeN ps = k := by
  have main : ∀ j, j ≤ k → (ofL ps 1 j).length + (ofL ps 2 j).length + (ofL ps 3 j).length + (ofL ps 4 j).length + freeN (ps.take j) = j := by
    intro j
    induction j with
    | zero => intro _; rfl
    | succ j ih =>
      intro hj
      have ih := ih (by omega)
      have hlt : j < ps.length := by rw [h.len]; omega
      have hs : freeN (ps.take (j + 1)) = freeN (ps.take j) + (if isB ps (j : Int) then 0 else 1) := by
        unfold freeN
        rw [take_snoc ps j hlt, List.filter_append, List.length_append, isB_nat hlt, List.filter_cons]
        by_cases hu : ps[j].users > 0
        · rw [decide_eq_true hu]; simp
        · rw [decide_eq_false hu]; simp
      have hat := h.at (id := (j : Int)) (by omega) (by simpa using hlt)
      rw [ofL_succ, ofL_succ, ofL_succ, ofL_succ, hs]
      simp only [List.length_append]
      cases hb : isB ps (j : Int) with
      | false => simp; omega
      | true =>
        have hv := hat.2.2 (isB_pos hb)
        generalize (pgAt ps (j : Int)).ver = v at hv
        have : v = 1 ∨ v = 2 ∨ v = 3 ∨ v = 4 := by omega
        rcases this with rfl | rfl | rfl | rfl <;> simp <;> omega
  have := main k (Nat.le_refl _)
  rwa [List.take_of_length_le (by rw [h.len]; exact Nat.le_refl _)] at this
end
theorem modP (x : Int) {n : Int} (h : 1 ≤ n ∧ n ≤ 1000) : 1 ≤ IntKind.i64.wrap (1 + IntKind.i64.wrap (Int.tmod (IntKind.u64.wrap x) n)) ∧ IntKind.i64.wrap (1 + IntKind.i64.wrap (Int.tmod (IntKind.u64.wrap x) n)) ≤ n := by
  rw [wrap_u64, tmod_pos (Int.emod_nonneg _ (by omega))]
  have h1 := Int.emod_nonneg (x % 18446744073709551616) (show n ≠ 0 by omega)
  have h2 := Int.emod_lt_of_pos (x % 18446744073709551616) (show 0 < n by omega)
  rw [wrap_id (x := _ % n) (by omega) (by omega), wrap_id (by omega) (by omega)]
  omega
/-- A deed. -/
structure ActP where
  k : Int
  id : Int
  n : Int
  o : Option Addr
  c : Nat
  l : List Int
def actE (x : ActP) : List Value := [.int .i64 x.k, .int .i64 x.id, .int .i64 x.n, .slice x.o x.l.length x.c]
set_option maxRecDepth 100000 in
theorem act_dat {w : World} {x : List Value} (hl : x.length = Try.prog.cellsOf t_coadjutorlaw22_Act) (h : DatC Try.prog w t_coadjutorlaw22_Act x) : ∃ y : ActP, x = actE y ∧ Rd w y.o (y.l.map (.int .i64)) (fun _ => True) := by
  obtain ⟨_, hf⟩ := h.struct Try.underlying29
  have h2 : Try.prog.cellsOf t_coadjutorlaw22_Act = 4 := by kernel_rfl
  rw [h2] at hl
  match x, hl with
  | [a, b, c, d], _ =>
    have h0 : DatC Try.prog w t_int [a] := hf 0 _ rfl
    have h1 : DatC Try.prog w t_int [b] := hf 1 _ rfl
    have h2 : DatC Try.prog w t_int [c] := hf 2 _ rfl
    have h3 : DatC Try.prog w t_S_int [d] := hf 3 _ rfl
    obtain ⟨n0, e0, _⟩ := h0.int (k := .i64) (by kernel_rfl)
    obtain ⟨n1, e1, _⟩ := h1.int (k := .i64) (by kernel_rfl)
    obtain ⟨n2, e2, _⟩ := h2.int (k := .i64) (by kernel_rfl)
    obtain ⟨o, cc, xs, e3, _, _, _, _, hr⟩ := h3.ints (k := .i64) (e := t_int) (by kernel_rfl) (by kernel_rfl)
    injection e0 with e0 _
    injection e1 with e1 _
    injection e2 with e2 _
    injection e3 with e3 _
    subst e0; subst e1; subst e2; subst e3
    exact ⟨⟨n0, n1, n2, o, cc, xs⟩, rfl, hr⟩
end Go.Proofs.Ytpcddfhfchempaa.Pages
