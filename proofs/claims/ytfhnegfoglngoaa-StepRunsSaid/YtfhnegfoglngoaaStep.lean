/- For all rows of rows: what copies of them have, and whether two are the same; the conditions stand in each theorem. -/
import Derived.Test.YtfhnegfoglngoaaDeep
import Derived.Test.YtfhnegfoglngoaaVcStep
set_option linter.unusedVariables false
set_option linter.unusedSimpArgs false
namespace Go.Proofs.Ytfhnegfoglngoaa.Step
open Go Go.Proofs Go.Proofs.Ytfhnegfoglngoaa.V Go.Proofs.Ytfhnegfoglngoaa.Vc Go.RowKit

theorem take_snoc {α : Type} (l : List α) (j : Nat) (h : j < l.length) : l.take (j + 1) = l.take j ++ [l[j]] := List.take_succ_eq_append_getElem h
def small (xss : List (List Int)) : Prop := xss.length ≤ 1000000 ∧ ∀ xs ∈ xss, xs.length ≤ 1000000
section
variable {w : World} {o ob : Option Addr} {c cb : Nat} {xs ys : List Int} {xss yss : List (List Int)} {F G : Nat → Prop}
theorem Equal_spec (ha : Rd w o (xs.map (.int .i64)) F) (hb : Rd w ob (ys.map (.int .i64)) G) (hl : xs.length ≤ 1000000000) :
    Calls Try.prog i_slices_Equal #[.slice o xs.length c, .slice ob ys.length cb] w (Ret fun v w' => v = .bool (decide (xs = ys)) ∧ Ch Non w w') := by
  refine slices_Equal.calls _ _ _ _ _ _ ?_
  unfold slices_Equal.vc
  refine ⟨fun h => ?_, fun h => ?_⟩
  · have h : xs.length ≠ ys.length := by simp at h; omega
    exact ⟨by rw [decide_eq_false (fun e => h (by rw [e]))], Ch.refl _ _⟩
  have h : xs.length = ys.length := by simp at h; omega
  refine ⟨fun i k w' => ∃ j : Nat, i = j ∧ j ≤ xs.length ∧ k = xs.length - j ∧ xs.take j = ys.take j ∧ Ch Non w w', ⟨_, 0, rfl, Nat.zero_le _, rfl, rfl, Ch.refl _ _⟩, ?_⟩
  rintro jk i k w1 ⟨j, rfl, hj, rfl, he, hc⟩
  refine ⟨fun hlt => ?_, fun hge => ?_⟩
  · have hlt : j < xs.length := by simpa using hlt
    have hlt2 : j < ys.length := by omega
    refine ⟨fun w2 => Ch Non w w2, fun w2 e2 => ⟨hc.andN (Ch.drew e2), ⟨by omega, by omega⟩, Rd.keeps (j := (j : Int).toNat * 1) (S := fun w2 => Ch Non w w2) (fun w2 h2 => ha.keepN h2) hc (by simpa using hlt) fun p hp => ⟨_, hp, ⟨by omega, by omega⟩,
      Rd.keeps (j := (j : Int).toNat * 1) (S := fun w2 => Ch Non w w2) (fun w2 h2 => hb.keepN h2) hc (by simpa using hlt2) fun p2 hp2 => ⟨_, hp2, fun hne => ?_, fun heq => ?_⟩⟩⟩⟩
    · refine ⟨?_, hc.andN (Ch.drew e2)⟩
      rw [decide_eq_false]
      intro e
      subst e
      simp at hne
    · have heq : xs[j] = ys[j] := by simpa using heq
      refine ⟨xs.length - (j + 1), by omega, j + 1, by rw [wrap_id (by omega) (by omega)]; rfl, hlt, rfl, ?_, hc.andN (Ch.drew e2)⟩
      rw [take_snoc xs j hlt, take_snoc ys j hlt2, he, heq]
  · have : j = xs.length := by simp at hge; omega
    subst this
    rw [List.take_length, h, List.take_length] at he
    exact ⟨by rw [decide_eq_true he], hc⟩
theorem EqualRows_spec (ha : RowsV w (.slice o xss.length c) xss F) (hb : RowsV w (.slice ob yss.length cb) yss G) (hs : small xss) :
    Calls Try.prog i_slices_EqualFunc #[.slice o xss.length c, .slice ob yss.length cb, .func (.func i_slices_Equal) #[] #[]] w (Ret fun v w' => v = .bool (decide (xss = yss)) ∧ Ch Non w w') := by
  obtain ⟨o1, c1, us, e, hra, hA⟩ := ha
  injection e with e1 _ e2
  subst e1; subst e2
  obtain ⟨o2, c2, vs, e, hrb, hB⟩ := hb
  injection e with e1 _ e2
  subst e1; subst e2
  refine slices_EqualFunc.calls_sl _ _ _ _ _ _ ?_
  unfold slices_EqualFunc.vc_sl
  have hl := hs.1
  refine ⟨fun h => ?_, fun h => ?_⟩
  · have h : xss.length ≠ yss.length := by simp at h; omega
    exact ⟨by rw [decide_eq_false (fun e => h (by rw [e]))], Ch.refl _ _⟩
  have h : xss.length = yss.length := by simp at h; omega
  refine ⟨fun i k w' => ∃ j : Nat, i = j ∧ j ≤ xss.length ∧ k = xss.length - j ∧ xss.take j = yss.take j ∧ Ch Non w w', ⟨_, 0, rfl, Nat.zero_le _, rfl, rfl, Ch.refl _ _⟩, ?_⟩
  rintro jk i k w1 ⟨j, rfl, hj, rfl, he, hc⟩
  refine ⟨fun hlt => ?_, fun hge => ?_⟩
  · have hlt : j < xss.length := by have := of_decide_eq_true hlt; omega
    have hlt2 : j < yss.length := by omega
    have hlu : j < us.length := by rw [hA.length]; exact hlt
    have hlv : j < vs.length := by rw [hB.length]; exact hlt2
    obtain ⟨o3, c3, hu, hr3⟩ := hA.get j hlu hlt
    obtain ⟨o4, c4, hv, hr4⟩ := hB.get j hlv hlt2
    refine ⟨⟨by omega, by omega⟩, (hra.keepN hc).at (j := (j : Int).toNat * 1) (v := us[j]) (by simp [hlu]) fun p hp => ?_⟩
    rw [hu] at hp
    refine ⟨_, _, _, hp, ⟨by omega, by omega⟩, (hrb.keepN hc).at (j := (j : Int).toNat * 1) (v := vs[j]) (by simp [hlv]) fun p2 hp2 => ?_⟩
    rw [hv] at hp2
    refine ⟨_, _, _, hp2, ?_⟩
    refine step_call (Equal_spec (hr3.keepN hc) (hr4.keepN hc) (by have := hs.2 _ (List.getElem_mem hlt); omega)) ?_
    rintro v w2 ⟨rfl, hc2⟩
    refine ⟨_, rfl, fun hne => ?_, fun heq => ?_⟩
    · refine ⟨?_, hc.andN hc2⟩
      rw [decide_eq_false]
      intro e
      subst e
      simp at hne
    · have heq : xss[j] = yss[j] := by simpa using heq
      refine ⟨xss.length - (j + 1), by omega, j + 1, by rw [wrap_id (by omega) (by omega)]; rfl, hlt, rfl, ?_, hc.andN hc2⟩
      rw [take_snoc xss j hlt, take_snoc yss j hlt2, he, heq]
  · have : j = xss.length := by have := of_decide_eq_false hge; omega
    subst this
    rw [List.take_length, h, List.take_length] at he
    exact ⟨by rw [decide_eq_true he], hc⟩
theorem Same_spec {p q : Value × Value} {e f : Ent} (hp : EntV w p e F) (hq : EntV w q f G) (hs : small e.1 ∧ small e.2) : Calls Try.prog i_step_Same #[.agg #[p.1, p.2], .agg #[q.1, q.2]] w (Ret fun v w' => v = .bool (decide (e = f)) ∧ Ch Non w w') := by
  obtain ⟨a, b⟩ := p
  obtain ⟨a', b'⟩ := q
  obtain ⟨e1, e2⟩ := e
  obtain ⟨f1, f2⟩ := f
  obtain ⟨h1, h2⟩ := hp
  obtain ⟨h3, h4⟩ := hq
  have k1 := h1
  have k2 := h2
  have k3 := h3
  have k4 := h4
  obtain ⟨o1, c1, vs1, rfl, _, _⟩ := h1
  obtain ⟨o2, c2, vs2, rfl, _, _⟩ := h2
  obtain ⟨o3, c3, vs3, rfl, _, _⟩ := h3
  obtain ⟨o4, c4, vs4, rfl, _, _⟩ := h4
  dsimp only at k1 k2 k3 k4 hs ⊢
  refine step_Same.calls _ _ _ _ _ _ _ _ _ _ _ _ ?_
  unfold step_Same.vc
  intro w1 x1 w2 x2
  have hA := (Blk.new x1).alloc x2
  have hB := Blk.new x2
  have hc2 : Ch Non w w2 := (Ch.alloc x1).andN (Ch.alloc x2)
  refine ⟨_, _, _, hA.cell 0 rfl, _, _, _, hB.cell 0 rfl, ?_⟩
  refine step_call (EqualRows_spec (k1.keepN hc2) (k3.keepN hc2) hs.1) ?_
  rintro v w3 ⟨rfl, hc3⟩
  refine ⟨_, rfl, fun he => ?_, fun hne => ?_⟩
  · have he := of_decide_eq_true he
    refine ⟨_, _, _, (hA.keepN hc3).cell 1 rfl, _, _, _, (hB.keepN hc3).cell 1 rfl, ?_⟩
    have hc := hc2.andN hc3
    refine step_call (EqualRows_spec (k2.keepN hc) (k4.keepN hc) hs.2) ?_
    rintro v w4 ⟨rfl, hc4⟩
    refine ⟨_, rfl, ?_, hc.andN hc4⟩
    subst he
    simp
  · have hne := of_decide_eq_false hne
    refine ⟨?_, hc2.andN hc3⟩
    rw [decide_eq_false (fun h => hne (by injection h))]
end
end Go.Proofs.Ytfhnegfoglngoaa.Step
