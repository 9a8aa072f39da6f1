import Derived.Test.YtkbikekbaboclaaGreatPkQ
set_option linter.unusedVariables false
set_option linter.unusedSimpArgs false
namespace Go.Proofs.YtkbikekbaboclaaGreat.Pages
open Go Go.Proofs V Vc Step Go.RowKit
structure Good (k : Nat) (B : Int) (ps : List PageD) : Prop where
 len : ps.length = k
 pg : ∀ p ∈ ps, 0 ≤ p.users ∧ p.users ≤ B ∧ (p.users = 0 → p = pg0) ∧ p.es.length ≤ 4
section
variable {k : Nat} {B : Int} {ps qs : List PageD} {l : List Int}
theorem Good.bnd (h : Good k B ps) : bnd B ps := fun p hp => by have := h.pg p hp; omega
theorem Good.le (h : Good k B ps) {B' : Int} (hB : B ≤ B') : Good k B' ps := ⟨h.len, fun q hq => by have := h.pg q hq; exact ⟨this.1, by omega, this.2.2⟩⟩
theorem Good.set (h : Good k B ps) {B' : Int} (hB : B ≤ B') {i : Nat} {p : PageD} (hp : 0 ≤ p.users ∧ p.users ≤ B' ∧ (p.users = 0 → p = pg0) ∧ p.es.length ≤ 4) : Good k B' (ps.set i p) :=
 ⟨by rw [List.length_set]; exact h.len, fun q hq => by
  rcases mem_set_of hq with rfl | hq
  ·exact hp
  ·have := h.pg q hq; exact ⟨this.1, by omega, this.2.2⟩⟩
theorem Good.at (h : Good k B ps) (hB : 0 ≤ B) (id : Int) : 0 ≤ (pgAt ps id).users ∧ (pgAt ps id).users ≤ B ∧ ((pgAt ps id).users = 0 → pgAt ps id = pg0) ∧ (pgAt ps id).es.length ≤ 4 := by
 have h0 : 0 ≤ pg0.users ∧ pg0.users ≤ B ∧ (pg0.users = 0 → pg0 = pg0) ∧ pg0.es.length ≤ 4 := ⟨by simp [pg0], by simp [pg0]; omega, fun _ => rfl, by simp [pg0]⟩
 by_cases hi : 0 ≤ id ∧ id.toNat < ps.length
 ·rw [pgAt_lt hi.1 hi.2]; exact h.pg _ (List.getElem_mem _)
 ·have : pgAt ps id = pg0 := by
   unfold pgAt
   split
   ·rw [List.getD_eq_getElem?_getD, List.getElem?_eq_none (by omega)]; rfl
   ·rfl
  rw [this]; exact h0
theorem Good.new (n : Nat) : Good n 0 (List.replicate n pg0) := ⟨by simp, fun p hp => by
 obtain rfl := (List.mem_replicate.1 hp).2
 exact ⟨by simp [pg0], by simp [pg0], fun _ => rfl, by simp [pg0]⟩⟩
theorem Good.take (h : Good k B ps) (hB : 1 ≤ B) (v : Int) : Good k B (takeP ps v) := by
 unfold takeP
 split
 ·exact h
 ·exact h.set (Int.le_refl _) ⟨by show (0 : Int) ≤ 1; omega, hB, fun h => by simp at h, by simp⟩
theorem Good.put (h : Good k B ps) (hB : 0 ≤ B) (id : Int) (e : Ent) : Good k B (putP ps id e) := by
 unfold putP
 split
 ·rename_i hz
  have hat := h.at hB id
  have hb : isB ps id = true ∧ ¬ (pgAt ps id).es.length ≥ 4 := by
   unfold putV at hz
   split at hz
   ·rename_i hb
    split at hz
    ·cases hz
    ·split at hz
     ·cases hz
     ·rename_i h4; exact ⟨hb, h4⟩
   ·cases hz
  have hp := isB_pos hb.1
  exact h.set (Int.le_refl _) ⟨hat.1, hat.2.1, fun h => by have h : (pgAt ps id).users = 0 := h; omega, by rw [List.length_append]; simp; omega⟩
 ·exact h
theorem addU_good {d : Int} (h : Good k B ps) (hB : 0 ≤ B) (x : Int) (hp : 0 < (pgAt ps x).users + d) (hd : d ≤ 1) : Good k (B + 1) (addU d ps x) := by
 have hat := h.at hB x
 exact h.set (by omega) ⟨by show 0 ≤ (pgAt ps x).users + d; omega, by show (pgAt ps x).users + d ≤ B + 1; omega, fun h => by have h : (pgAt ps x).users + d = 0 := h; omega, hat.2.2.2⟩
theorem Good.share : ∀ {l : List Int} {B : Int} {ps : List PageD}, 0 ≤ B → Good k B ps → Good k (B + l.length) (shareL ps l)
 | [], B, ps, _, h => by simpa [shareL] using h
 | x :: r, B, ps, hB, h => by
  have hat := h.at hB x
  have ih := Good.share (l := r) (by omega) (addU_good (d := 1) h hB x (by omega) (by omega))
  have e2 : B + ((x :: r).length : Int) = B + 1 + r.length := by rw [List.length_cons]; omega
  rw [e2]; exact ih
theorem zeroP_good (h : Good k B ps) : ps.map zeroP = ps := by
 conv => rhs; rw [← List.map_id ps]
 refine List.map_congr_left fun p hp => ?_
 unfold zeroP
 split
 ·rename_i hz; exact ((h.pg p hp).2.2.1 hz).symm
 ·rfl
theorem users_addU {x y d : Int} (h0 : 0 ≤ x) (h1 : x.toNat < qs.length) (hy : 0 ≤ y) : (pgAt (addU d qs x) y).users = if y = x then (pgAt qs x).users + d else (pgAt qs y).users := by
 unfold addU
 rw [pgAt_set hy h1]
 by_cases e : y = x
 ·rw [if_pos e, if_pos (by omega)]
 ·rw [if_neg e, if_neg (by omega)]
theorem useGo_drop : ∀ {l : List Int} {qs : List PageD}, qs.length = ps.length → (UseGo ps (-1) qs l ↔ (allB ps l = true ∧ ∀ x ∈ l, (l.count x : Int) ≤ (pgAt qs x).users))
 | [], _, _ => ⟨fun _ => ⟨rfl, fun x hx => by simp at hx⟩, fun _ => trivial⟩
 | x :: r, qs, hq => by
  have ih := useGo_drop (l := r) (qs := addU (-1) qs x) (by rw [addU_len]; exact hq)
  have hal : allB ps (x :: r) = true ↔ (isB ps x = true ∧ allB ps r = true) := by unfold allB; rw [List.all_cons, Bool.and_eq_true]
  rw [hal]
  have hnn : ∀ {y}, allB ps r = true → y ∈ r → 0 ≤ y := fun {y} ha hy => by
   unfold allB at ha
   rw [List.all_eq_true] at ha
   exact (isB_lt (ha y hy)).1
  constructor
  ·intro h
   obtain ⟨hb, hu, hr⟩ := h
   obtain ⟨ha, hc⟩ := ih.1 hr
   obtain ⟨h0, h1⟩ := isB_lt hb
   refine ⟨⟨hb, ha⟩, fun y hy => ?_⟩
   by_cases hyr : y ∈ r
   ·have := hc y hyr
    rw [users_addU h0 (by omega) (hnn ha hyr)] at this
    by_cases e : y = x
    ·subst e
     rw [if_pos rfl] at this
     rw [List.count_cons_self]; omega
    ·rw [if_neg e] at this
     rw [List.count_cons_of_ne (fun h => e h.symm)]; exact this
   ·have hyx : y = x := by
     rcases List.mem_cons.1 hy with h | h
     ·exact h
     ·exact absurd h hyr
    subst hyx
    rw [List.count_cons_self, List.count_eq_zero_of_not_mem hyr]; omega
  ·rintro ⟨⟨hb, ha⟩, hc⟩
   obtain ⟨h0, h1⟩ := isB_lt hb
   have hx := hc x (by simp)
   rw [List.count_cons_self] at hx
   refine ⟨hb, by omega, ih.2 ⟨ha, fun y hy => ?_⟩⟩
   have hy2 := hc y (by simp [hy])
   rw [users_addU h0 (by omega) (hnn ha hy)]
   by_cases e : y = x
   ·subst e
    rw [if_pos rfl]; omega
   ·rw [if_neg e]
    rw [List.count_cons_of_ne (fun h => e h.symm)] at hy2; exact hy2
theorem useGo_drop2 : UseGo ps (-1) ps l ↔ (allB ps l && !overB ps l) = true := by
 rw [useGo_drop rfl, Bool.and_eq_true]
 refine and_congr_right fun _ => ?_
 unfold overB
 rw [Bool.not_eq_true', List.any_eq_false]
 refine forall_congr' fun x => forall_congr' fun hx => ?_
 simp
theorem map_pgAt {x : Int} (h0 : 0 ≤ x) (h1 : x.toNat < qs.length) : pgAt (qs.map zeroP) x = zeroP (pgAt qs x) := by
 rw [pgAt_lt h0 h1, pgAt_lt h0 (by simpa using h1), List.getElem_map]
theorem drop_step {x : Int} (h0 : 0 ≤ x) (h1 : x.toNat < qs.length) (hu : 1 ≤ (pgAt qs x).users) : (addU (-1) qs x).map zeroP = dropU (qs.map zeroP) x := by
 have hz : zeroP (pgAt qs x) = pgAt qs x := by unfold zeroP; rw [if_neg (by omega)]
 unfold dropU addU
 rw [map_pgAt h0 h1, hz, List.map_set]
 split
 ·rename_i h
  unfold zeroP
  rw [if_pos (by show (pgAt qs x).users + -1 = 0; omega)]
 ·rename_i h
  congr 1
  unfold zeroP
  rw [if_neg (by show ¬ (pgAt qs x).users + -1 = 0; omega)]
theorem Good.dropU (h : Good k B ps) (hB : 0 ≤ B) {x : Int} (hu : 1 ≤ (pgAt ps x).users) : Good k B (dropU ps x) := by
 have hat := h.at hB x
 unfold Pages.dropU
 split
 ·exact h.set (Int.le_refl _) ⟨by simp [pg0], by simp [pg0]; omega, fun _ => rfl, by simp [pg0]⟩
 ·exact h.set (Int.le_refl _) ⟨by show 0 ≤ (pgAt ps x).users + -1; omega, by show (pgAt ps x).users + -1 ≤ B; omega, fun h => by have h : (pgAt ps x).users + -1 = 0 := h; omega, hat.2.2.2⟩
theorem Good.drop (hB : 0 ≤ B) : ∀ {l : List Int} {qs : List PageD}, qs.length = ps.length → UseGo ps (-1) qs l → Good k B (qs.map zeroP) → Good k B (dropL (qs.map zeroP) l)
 | [], _, _, _, h => h
 | x :: r, qs, hq, hg, h => by
  obtain ⟨h0, h1⟩ := isB_lt hg.1
  have hu : 1 ≤ (pgAt qs x).users := by have := hg.2.1; omega
  have hz : pgAt (qs.map zeroP) x = pgAt qs x := by rw [map_pgAt h0 (by omega)]; unfold zeroP; rw [if_neg (by omega)]
  have hs := drop_step h0 (by omega : x.toNat < qs.length) hu
  have ih := Good.drop hB (l := r) (qs := addU (-1) qs x) (by rw [addU_len]; exact hq) hg.2.2 (by rw [hs]; exact h.dropU hB (by rw [hz]; exact hu))
  rw [hs] at ih
  exact ih
theorem Good.drops (h : Good k B ps) (hB : 0 ≤ B) (hg : UseGo ps (-1) ps l) : Good k B (dropL ps l) := by
 have := Good.drop hB (l := l) (qs := ps) rfl hg (by rw [zeroP_good h]; exact h)
 rwa [zeroP_good h] at this
end
section
variable {w : World} {pb k : Nat} {ps : List PageD} {F G : Nat → Prop} {o : Option Addr} {l : List Int}
end
end Go.Proofs.YtkbikekbaboclaaGreat.Pages
