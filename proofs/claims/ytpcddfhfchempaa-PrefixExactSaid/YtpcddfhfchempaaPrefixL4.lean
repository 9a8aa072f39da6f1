/- What becomes of a pool of full pages under an index, in plain law: users are counted; the conditions stand in each theorem. -/
import Derived.Test.YtpcddfhfchempaaPrefixL2
set_option linter.unusedVariables false
set_option linter.unusedSimpArgs false
namespace Go.Proofs.Ytpcddfhfchempaa.Prefix
open Go Go.Proofs Go.Proofs.Ytpcddfhfchempaa.V Go.Proofs.Ytpcddfhfchempaa.Vc Go.Proofs.Ytpcddfhfchempaa.Step Go.Proofs.Ytpcddfhfchempaa.Pages Go.RowKit

/-- Full pages with so many users each; who has none is free. -/
def mkP (j : Nat) (u : Int) : PageD := if u = 0 then pg0 else ⟨1 + (j : Int) % 2, u, List.replicate 4 (e1 j)⟩
def SP (N : Nat) (u : Nat → Int) : List PageD := (List.range N).map fun j => mkP j (u j)
def cnt (es : List EntD) (j : Nat) : Int := (es.countP (fun e => e.page == (j : Int)) : Nat)
def inc (u : Nat → Int) (i : Int) (d : Int) : Nat → Int := fun j => if (j : Int) = i then u j + d else u j
theorem SP_len (N : Nat) (u : Nat → Int) : (SP N u).length = N := by simp [SP]
theorem SP_get {N j : Nat} {u : Nat → Int} (h : j < (SP N u).length) : (SP N u)[j] = mkP j (u j) := by simp [SP]
theorem mkP_users (j : Nat) (u : Int) : (mkP j u).users = u := by
  unfold mkP; split
  · rename_i h; rw [h]; rfl
  · rfl
theorem SP_at {N : Nat} {u : Nat → Int} {x : Int} (h0 : 0 ≤ x) (h1 : x < N) : pgAt (SP N u) x = mkP x.toNat (u x.toNat) := by
  rw [pgAt_lt h0 (by rw [SP_len]; omega), SP_get]
theorem SP_is {N : Nat} {u : Nat → Int} {x : Int} : isB (SP N u) x = decide (0 ≤ x ∧ x < N ∧ 0 < u x.toNat) := by
  by_cases h : 0 ≤ x ∧ x < N
  · unfold isB
    rw [SP_at h.1 h.2, mkP_users]
    by_cases h2 : 0 < u x.toNat
    · rw [decide_eq_true h2, decide_eq_true ⟨h.1, h.2, h2⟩]
    · rw [decide_eq_false h2, decide_eq_false (fun k => h2 k.2.2)]
  · rw [decide_eq_false (fun k => h ⟨k.1, k.2.1⟩)]
    cases hb : isB (SP N u) x with
    | false => rfl
    | true =>
      obtain ⟨a, b⟩ := isB_lt hb
      rw [SP_len] at b
      exact absurd ⟨a, by omega⟩ h
theorem SP_ext {N : Nat} {u v : Nat → Int} (h : ∀ j, j < N → u j = v j) : SP N u = SP N v := by
  unfold SP
  refine List.map_congr_left fun j hj => ?_
  rw [h j (by simpa using hj)]
theorem SP_set {N : Nat} {u : Nat → Int} {x d : Int} (h0 : 0 ≤ x) (h1 : x < N) : (SP N u).set x.toNat (mkP x.toNat (u x.toNat + d)) = SP N (inc u x d) := by
  apply List.ext_getElem
  · rw [List.length_set, SP_len, SP_len]
  · intro j h2 h3
    rw [List.getElem_set, SP_get (u := inc u x d) h3]
    unfold inc
    by_cases hj : x.toNat = j
    · subst hj
      rw [if_pos rfl, if_pos (by omega)]
    · rw [if_neg hj, SP_get, if_neg (by omega)]
theorem SP_addU {N : Nat} {u : Nat → Int} {x d : Int} (h0 : 0 ≤ x) (h1 : x < N) (h2 : u x.toNat ≠ 0) (h3 : u x.toNat + d ≠ 0) : addU d (SP N u) x = SP N (inc u x d) := by
  unfold addU
  rw [SP_at h0 h1, mkP_users, ← SP_set h0 h1]
  congr 1
  unfold mkP
  rw [if_neg h2, if_neg h3]
theorem SP_dropU {N : Nat} {u : Nat → Int} {x : Int} (h0 : 0 ≤ x) (h1 : x < N) (h2 : 1 ≤ u x.toNat) : dropU (SP N u) x = SP N (inc u x (-1)) := by
  unfold dropU
  rw [SP_at h0 h1, mkP_users]
  split
  · rename_i h
    rw [← SP_set h0 h1]
    congr 1
    unfold mkP
    rw [if_pos (by omega)]
  · exact SP_addU h0 h1 (by omega) (by omega)
theorem SP_good {N : Nat} {u : Nat → Int} {B : Int} (h : ∀ j, j < N → 0 ≤ u j ∧ u j ≤ B) : Pages.Good N B (SP N u) := ⟨SP_len N u, fun p hp => by
  obtain ⟨j, hj, rfl⟩ := List.mem_map.1 hp
  have hj : j < N := by simpa using hj
  have := h j hj
  rw [mkP_users]
  refine ⟨this.1, this.2, fun hz => by unfold mkP; rw [if_pos hz], ?_⟩
  unfold mkP
  split
  · simp [pg0]
  · simp⟩
/-- Users more, for each time that a page is told. -/
def incL (u : Nat → Int) (l : List Int) (d : Int) : Nat → Int := fun j => u j + d * (l.count (j : Int) : Nat)
theorem incL_cons (u : Nat → Int) (x : Int) (l : List Int) (d : Int) : incL (inc u x d) l d = incL u (x :: l) d := by
  funext j
  unfold incL inc
  rw [List.count_cons]
  by_cases h : (j : Int) = x
  · have : (x == (j : Int)) = true := by rw [h]; simp
    rw [if_pos h, this, if_pos rfl, Int.natCast_add, Int.mul_add]
    omega
  · have : (x == (j : Int)) = false := by simpa using fun e => h e.symm
    rw [if_neg h, this]; simp
theorem SP_shareL {N : Nat} : ∀ {l : List Int} {u : Nat → Int}, (∀ x ∈ l, 0 ≤ x ∧ x < N ∧ 1 ≤ u x.toNat) → shareL (SP N u) l = SP N (incL u l 1)
  | [], u, _ => by
    have : incL u [] 1 = u := by funext j; simp [incL]
    rw [this]; rfl
  | x :: l, u, h => by
    obtain ⟨h0, h1, h2⟩ := h x (by simp)
    have e1 : shareL (SP N u) (x :: l) = shareL (addU 1 (SP N u) x) l := rfl
    rw [e1, SP_addU h0 h1 (by omega) (by omega), SP_shareL (fun y hy => ?_), incL_cons]
    obtain ⟨a, b, c⟩ := h y (by simp [hy])
    refine ⟨a, b, ?_⟩
    unfold inc
    split <;> omega
theorem SP_dropL {N : Nat} : ∀ {l : List Int} {u : Nat → Int}, (∀ x ∈ l, 0 ≤ x ∧ x < N ∧ (l.count x : Int) ≤ u x.toNat) → dropL (SP N u) l = SP N (incL u l (-1))
  | [], u, _ => by
    have : incL u [] (-1) = u := by funext j; simp [incL]
    rw [this]; rfl
  | x :: l, u, h => by
    obtain ⟨h0, h1, h2⟩ := h x (by simp)
    rw [List.count_cons_self] at h2
    have e1 : dropL (SP N u) (x :: l) = dropL (dropU (SP N u) x) l := rfl
    rw [e1, SP_dropU h0 h1 (by omega), SP_dropL (fun y hy => ?_), incL_cons]
    obtain ⟨a, b, c⟩ := h y (by simp [hy])
    refine ⟨a, b, ?_⟩
    rw [List.count_cons] at c
    unfold inc
    by_cases hxy : y = x
    · subst hxy
      rw [if_pos (by omega)]
      simp at c; omega
    · have : (x == y) = false := by simpa using fun e => hxy e.symm
      rw [if_neg (by omega)]
      rw [this] at c; simp at c; omega
theorem SP_all {N : Nat} {l : List Int} {u : Nat → Int} (h : ∀ x ∈ l, 0 ≤ x ∧ x < N ∧ 1 ≤ u x.toNat) : allB (SP N u) l = true := by
  unfold allB
  rw [List.all_eq_true]
  intro x hx
  obtain ⟨a, b, c⟩ := h x hx
  rw [SP_is, decide_eq_true ⟨a, b, by omega⟩]
theorem SP_over {N : Nat} {l : List Int} {u : Nat → Int} (h : ∀ x ∈ l, 0 ≤ x ∧ x < N ∧ (l.count x : Int) ≤ u x.toNat) : overB (SP N u) l = false := by
  unfold overB
  rw [List.any_eq_false]
  intro x hx hgt
  obtain ⟨a, b, c⟩ := h x hx
  have hgt := of_decide_eq_true hgt
  rw [SP_at a b, mkP_users] at hgt
  omega
theorem SP_dropQ {N : Nat} {u : Nat → Int} {x : Int} (h0 : 0 ≤ x) (h1 : x < N) (h2 : 1 ≤ u x.toNat) : dropQ (SP N u) x = SP N (inc u x (-1)) := by
  unfold dropQ
  rw [SP_all (l := [x]) (fun y hy => by rw [List.mem_singleton] at hy; subst hy; exact ⟨h0, h1, h2⟩), SP_over (l := [x]) (fun y hy => by rw [List.mem_singleton] at hy; subst hy; exact ⟨h0, h1, by simp; omega⟩)]
  exact SP_dropU h0 h1 h2
theorem SP_users {N : Nat} {u : Nat → Int} {x : Int} (h0 : 0 ≤ x) (h1 : x < N) (hu : 0 ≤ u x.toNat) : usersV (SP N u) x = u x.toNat := by
  unfold usersV
  rw [SP_is, SP_at h0 h1, mkP_users]
  by_cases h : 0 < u x.toNat
  · rw [decide_eq_true ⟨h0, h1, h⟩, if_pos rfl]
  · rw [decide_eq_false (fun k => h k.2.2), if_neg Bool.false_ne_true]; omega
/-- What an index has: pages that there are, of their versions. -/
structure InX (N : Nat) (u : Nat → Int) (es : List EntD) : Prop where
  pg : ∀ e ∈ es, 0 ≤ e.page ∧ e.page < N ∧ e.ver = 1 + e.page % 2
  us : ∀ j, j < N → cnt es j ≤ u j
theorem cnt_nonneg (es : List EntD) (j : Nat) : 0 ≤ cnt es j := by unfold cnt; omega
theorem cnt_append (es fs : List EntD) (j : Nat) : cnt (es ++ fs) j = cnt es j + cnt fs j := by unfold cnt; rw [List.countP_append]; omega
theorem cnt_one (e : EntD) (j : Nat) : cnt [e] j = if (j : Int) = e.page then 1 else 0 := by
  unfold cnt
  rw [List.countP_cons, List.countP_nil]
  by_cases h : (j : Int) = e.page
  · rw [if_pos h, if_pos (by rw [h]; simp)]; rfl
  · rw [if_neg h, if_neg (by simpa using fun e => h e.symm)]; rfl
theorem cnt_perm {es fs : List EntD} (h : es.Perm fs) (j : Nat) : cnt es j = cnt fs j := by unfold cnt; rw [h.countP_eq]
theorem cnt_pos {es : List EntD} {e : EntD} (he : e ∈ es) (h0 : 0 ≤ e.page) : 1 ≤ cnt es e.page.toNat := by
  unfold cnt
  have : 0 < es.countP (fun x => x.page == (e.page.toNat : Int)) := List.countP_pos_iff.2 ⟨e, he, by simp; omega⟩
  omega
theorem eraseIdx_perm {α : Type} {es : List α} {i : Nat} (h : i < es.length) : (es.eraseIdx i ++ [es[i]]).Perm es := by
  rw [eraseIdx_td]
  have h1 : es = es.take i ++ es[i] :: es.drop (i + 1) := by
    rw [List.getElem_cons_drop, List.take_append_drop]
  have h2 : (es.take i ++ es.drop (i + 1) ++ [es[i]]).Perm (es.take i ++ es[i] :: es.drop (i + 1)) := by
    rw [List.append_assoc]
    refine List.Perm.append_left _ ?_
    exact (List.perm_append_singleton _ _)
  rw [← h1] at h2; exact h2
theorem cnt_erase {es : List EntD} {i : Nat} (h : i < es.length) (j : Nat) : cnt (es.eraseIdx i) j + (if (j : Int) = es[i].page then 1 else 0) = cnt es j := by
  rw [← cnt_perm (eraseIdx_perm h) j, cnt_append, cnt_one]
theorem cnt_le (es : List EntD) (j : Nat) : cnt es j ≤ es.length := by
  unfold cnt
  have := List.countP_le_length (p := fun e : EntD => e.page == (j : Int)) (l := es)
  omega
/-- What pages are found: of entries of the version, in order; the entries are the same ones. -/
theorem findG_law {v : Int} {t : List Int} : ∀ (f i : Nat) (es : List EntD) (out : List Int), out.length = i → (∀ a, a < i → ∃ e ∈ es, hasB v (t.take (4 * a + 4)) e = true) → (i = 0 ∨ 4 * i < t.length) → (∀ x ∈ out, ∃ e ∈ es, e.ver = v ∧ e.page = x) →
    ((findG v t f (4 * i + 4) es out).1.Perm es ∧ (∀ a, a < (findG v t f (4 * i + 4) es out).2.length → ∃ e ∈ es, hasB v (t.take (4 * a + 4)) e = true) ∧ ((findG v t f (4 * i + 4) es out).2.length = 0 ∨ 4 * (findG v t f (4 * i + 4) es out).2.length < t.length) ∧
      (∀ x ∈ (findG v t f (4 * i + 4) es out).2, ∃ e ∈ es, e.ver = v ∧ e.page = x))
  | 0, i, es, out, hl, h1, h2, h3 => by
    subst hl
    exact ⟨List.Perm.refl _, h1, h2.imp id (fun h => h), h3⟩
  | f + 1, i, es, out, hl, h1, h2, h3 => by
    by_cases hlt : 4 * i + 4 < t.length
    · by_cases hidx : es.findIdx (hasB v (t.take (4 * i + 4))) < es.length
      · rw [findG_some hlt hidx]
        have hp := List.findIdx_getElem (w := hidx)
        generalize es.findIdx (hasB v (t.take (4 * i + 4))) = q at hidx hp
        have hperm := eraseIdx_perm hidx
        have hm : es[q] ∈ es := List.getElem_mem hidx
        have hv : es[q].ver = v := by
          unfold hasB at hp
          rw [Bool.and_eq_true] at hp
          simpa using hp.1
        have h4 : 4 * i + 4 + 4 = 4 * (i + 1) + 4 := by omega
        rw [h4]
        obtain ⟨r1, r2, r3, r4⟩ := findG_law f (i + 1) (es.eraseIdx q ++ [es[q]]) (out ++ [es[q].page]) (by simp [hl]) (fun a ha => by
          by_cases hai : a = i
          · subst hai; exact ⟨_, hperm.mem_iff.2 hm, hp⟩
          · obtain ⟨e, he, hh⟩ := h1 a (by omega)
            exact ⟨e, hperm.mem_iff.2 he, hh⟩) (.inr (by omega)) (fun x hx => by
          rcases List.mem_append.1 hx with hx | hx
          · obtain ⟨e, he, hh⟩ := h3 x hx
            exact ⟨e, hperm.mem_iff.2 he, hh⟩
          · rw [List.mem_singleton] at hx
            exact ⟨_, hperm.mem_iff.2 hm, hv, hx.symm⟩)
        refine ⟨r1.trans hperm, fun a ha => ?_, r3, fun x hx => ?_⟩
        · obtain ⟨e, he, hh⟩ := r2 a ha
          exact ⟨e, hperm.mem_iff.1 he, hh⟩
        · obtain ⟨e, he, hh⟩ := r4 x hx
          exact ⟨e, hperm.mem_iff.1 he, hh⟩
      · rw [findG_none hidx]
        subst hl
        exact ⟨List.Perm.refl _, h1, h2, h3⟩
    · rw [findG_stop (by omega)]
      subst hl
      exact ⟨List.Perm.refl _, h1, h2, h3⟩
theorem findR_law (es : List EntD) (v : Int) (t : List Int) : (findR es v t).1.Perm es ∧ (∀ a, a < (findR es v t).2.length → ∃ e ∈ es, hasB v (t.take (4 * a + 4)) e = true) ∧ ((findR es v t).2.length = 0 ∨ 4 * (findR es v t).2.length < t.length) ∧
      (∀ x ∈ (findR es v t).2, ∃ e ∈ es, e.ver = v ∧ e.page = x) :=
  findG_law t.length 0 es [] rfl (fun a ha => by omega) (.inl rfl) (fun x hx => by cases hx)
theorem findI_ge {es : List EntD} {v : Int} {t : List Int} : findI es v t ≥ 0 ↔ ∃ e ∈ es, hasB v t e = true := by
  unfold findI
  by_cases h : es.findIdx (hasB v t) < es.length
  · rw [if_pos h]
    exact ⟨fun _ => List.findIdx_lt_length.1 h, fun _ => by omega⟩
  · rw [if_neg h]
    exact ⟨fun hh => by omega, fun hh => absurd (List.findIdx_lt_length.2 hh) h⟩
section
variable {N : Nat} {u : Nat → Int} {es fs : List EntD}
theorem InX.perm (h : InX N u es) (hp : fs.Perm es) : InX N u fs := ⟨fun e he => h.pg e (hp.mem_iff.1 he), fun j hj => by rw [cnt_perm hp]; exact h.us j hj⟩
theorem InX.live (h : InX N u es) {e : EntD} (he : e ∈ es) : 0 ≤ e.page ∧ e.page < N ∧ 1 ≤ u e.page.toNat := by
  obtain ⟨a, b, _⟩ := h.pg e he
  have := h.us e.page.toNat (by omega)
  have := cnt_pos he a
  exact ⟨a, b, by omega⟩
theorem InX.erase (h : InX N u es) {i : Nat} (hi : i < es.length) : InX N (inc u es[i].page (-1)) (es.eraseIdx i) := by
  refine ⟨fun e he => h.pg e (List.mem_of_mem_eraseIdx he), fun j hj => ?_⟩
  have h1 := h.us j hj
  have h2 := cnt_erase hi j
  unfold inc
  split
  · rename_i hh; rw [if_pos hh] at h2; omega
  · rename_i hh; rw [if_neg hh] at h2; omega
/-- Entries that go, one by one. -/
def decL (u : Nat → Int) (fs : List EntD) : Nat → Int := fun j => u j - cnt fs j
theorem fgP_law (v : Int) : ∀ {fs : List EntD} {u : Nat → Int}, (∀ e ∈ fs, 0 ≤ e.page ∧ e.page < N) → (∀ j, j < N → cnt (fs.filter (fun e => e.ver == v)) j ≤ u j) → fgP v (SP N u) fs = SP N (decL u (fs.filter (fun e => e.ver == v)))
  | [], u, _, _ => by
    have : decL u (List.filter (fun e => e.ver == v) []) = u := by funext j; simp [decL, cnt]
    rw [this]; rfl
  | e :: r, u, h1, h2 => by
    have e1 : fgP v (SP N u) (e :: r) = fgP v (fgS v (SP N u) e) r := rfl
    obtain ⟨a, b⟩ := h1 e (by simp)
    rw [e1]
    unfold fgS
    cases hv : (e.ver == v) with
    | false =>
      rw [if_neg Bool.false_ne_true, List.filter_cons, hv, if_neg Bool.false_ne_true]
      rw [List.filter_cons, hv, if_neg Bool.false_ne_true] at h2
      exact fgP_law v (fun x hx => h1 x (by simp [hx])) h2
    | true =>
      rw [List.filter_cons, hv, if_pos rfl] at h2
      rw [if_pos rfl, List.filter_cons, hv, if_pos rfl]
      have hc : ∀ j, cnt (e :: r.filter (fun e => e.ver == v)) j = (if (j : Int) = e.page then 1 else 0) + cnt (r.filter (fun e => e.ver == v)) j := fun j => by
        have := cnt_append [e] (r.filter (fun e => e.ver == v)) j
        rw [cnt_one] at this; exact this
      have hu : 1 ≤ u e.page.toNat := by
        have := h2 e.page.toNat (by omega)
        rw [hc, if_pos (by omega)] at this
        have := cnt_nonneg (r.filter (fun e => e.ver == v)) e.page.toNat
        omega
      rw [SP_dropQ a b hu, fgP_law v (fun x hx => h1 x (by simp [hx])) (fun j hj => ?_)]
      · refine SP_ext fun j _ => ?_
        unfold decL inc
        rw [hc]
        split <;> omega
      · have := h2 j hj
        rw [hc] at this
        unfold inc
        split
        · rename_i hh; rw [if_pos hh] at this; omega
        · rename_i hh; rw [if_neg hh] at this; omega
theorem cnt_filter (v : Int) (es : List EntD) (j : Nat) : cnt (es.filter (fun e => e.ver == v)) j + cnt (es.filter (keepE v)) j = cnt es j := by
  induction es with
  | nil => rfl
  | cons e r ih =>
    have hc := fun (l : List EntD) => cnt_append [e] l j
    have h1 : cnt (e :: r) j = cnt [e] j + cnt r j := hc r
    rw [List.filter_cons, List.filter_cons, h1, ← ih]
    unfold keepE
    cases e.ver == v with
    | true =>
      have := hc (r.filter (fun e => e.ver == v))
      simp only [Bool.not_true, Bool.false_eq_true, if_false, if_true]
      have h2 : cnt (e :: r.filter (fun e => e.ver == v)) j = cnt [e] j + cnt (r.filter (fun e => e.ver == v)) j := this
      rw [h2]; omega
    | false =>
      simp only [Bool.not_false, Bool.false_eq_true, if_false, if_true]
      have h2 : cnt (e :: r.filter (fun e => !(e.ver == v))) j = cnt [e] j + cnt (r.filter (fun e => !(e.ver == v))) j := hc _
      rw [h2]; omega
theorem InX.forget (h : InX N u es) (v : Int) : fgP v (SP N u) es = SP N (decL u (es.filter (fun e => e.ver == v))) ∧ InX N (decL u (es.filter (fun e => e.ver == v))) (es.filter (keepE v)) := by
  have hle : ∀ j, j < N → cnt (es.filter (fun e => e.ver == v)) j ≤ u j := fun j hj => by
    have := h.us j hj
    have := cnt_filter v es j
    have := cnt_nonneg (es.filter (keepE v)) j
    omega
  refine ⟨fgP_law v (fun e he => ⟨(h.pg e he).1, (h.pg e he).2.1⟩) hle, fun e he => h.pg e ((List.mem_filter.1 he).1), fun j hj => ?_⟩
  have := h.us j hj
  have := cnt_filter v es j
  unfold decL
  omega
end
end Go.Proofs.Ytpcddfhfchempaa.Prefix
