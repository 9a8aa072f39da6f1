/- For every world of the model: what copy leaves, and what a row of one's own has when an element is put ahead of all; the conditions stand in each theorem. -/
import Derived.Test.YtamkffjmggbekaaCut
import Derived.Test.YtamkffjmggbekaaVcWardI
import Derived.Lib.Overlaps
import Derived.Lib.AppendZerosOnto
import Derived.Laws.IdiomCopy
set_option linter.unusedVariables false
set_option linter.unusedSimpArgs false
namespace Go.Proofs.Ytamkffjmggbekaa.V
open Go Go.Proofs Go.Proofs.Ytamkffjmggbekaa.Vc Go.RowKit

section
variable {P : Program} {w w' : World} {t T sz n c bytes g : Nat} {o : Option Addr} {cs cur : List Value} {F : Nat → Prop}
/-- copy(d, s) into a block: all is read before anything is written. -/
theorem Blk.copy (el : Elem P t T sz bytes) (h : Blk w g cur T) (ty : TypeId) {off dLen dCap sLen sCap m : Nat} {a : Addr} (hm : m = Nat.min sLen dLen) (hl : cs.length = m * sz)
    (hsrc : ∀ j v, cs[j]? = some v → w.cell? (a.add j) = some v) (hfit : off + cs.length ≤ cur.length) (h1 : ∀ v ∈ cs, v.oneCell' = true) :
    ∃ w', (Builtin.copy_ #[t, t] ty #[.slice (some ⟨g, off, none⟩) dLen dCap, .slice (some a) sLen sCap]).run P w = .ok (.int .i64 m) w' ∧ Blk w' g (cur.take off ++ cs ++ cur.drop (off + cs.length)) T ∧ Ch (· = g) w w' := by
  obtain ⟨inf, z, hinf, hz, hs, hb, hzs⟩ := el.inf
  have hld := run_loadCells_list (P := P) w a cs hsrc
  have hst := run_storeCells_cells (P := P) g off cs 0 w
    (fun j hj => by
      rw [h.cells]; simp only [Nat.add_zero, Option.isSome_iff_ne_none, ne_eq, List.getElem?_eq_none_iff, Nat.not_le]; omega)
    (fun j hj => h.frozen _ rfl) h1
  simp only [Nat.add_zero] at hst
  obtain ⟨b1, b2, b3, b4, b5⟩ := setCells_blk cs off h hfit
  refine ⟨_, ?_, b1, ⟨b2, b3, b4, by rw [b5]; exact Nat.le_refl _, fun k _ hk => setCells_far _ _ k (fun he => hk he)⟩⟩
  have hz0 : (⟨g, off, none⟩ : Addr) = (⟨g, off, none⟩ : Addr).add 0 := by rw [add_none]
  simp [Builtin.copy_, Sem.run_bind, run_underlying el.und, Builtin.lenOf, Builtin.firstCells, sizeOf, typeInfo, hinf, hs, ← hm, ← hl, hld, hst, pure, Sem.run, Result.andThen, goInt, program]
end
set_option maxHeartbeats 1000000 in
theorem Insert_spec {w : World} {o : Option Addr} {n c nb : Nat} {cs xs : List Value} {F : Nat → Prop} (h : Own w t_ward_Ask 5 o n c cs F) (h1 : ∀ u ∈ cs, u.oneCell' = true) (hb : Blk w nb xs t_ward_Ask) (hx : xs.length = 5) (hx1 : ∀ u ∈ xs, u.oneCell' = true) (hnb : ¬ F nb) (hn : n < 1000) :
    Calls Try.prog i_slices_Insert #[.slice o n c, .int .i64 0, .slice (some ⟨nb, 0, none⟩) 1 1] w (Ret fun v w' => ∃ (o' : Option Addr) (c' : Nat), v = .slice o' (n + 1) c' ∧ Own w' t_ward_Ask 5 o' (n + 1) c' (xs ++ cs) (Ext F w w') ∧ Ch F w w') := by
  refine slices_Insert.calls _ _ _ _ _ _ _ ?_
  unfold slices_Insert.vc
  refine ⟨⟨by omega, by omega⟩, iteF (by simp) ⟨fun h0 => ?_, fun h0 => ?_⟩⟩
  · have hn0 : n = 0 := by have := eq_of_beq h0; omega
    subst hn0
    have hcs : cs = [] := List.eq_nil_of_length_eq_zero (by simpa using h.len)
    subst hcs
    obtain ⟨o', c', w', r, ho, hc⟩ := h.appendE el_S_ward_Ask t_S_ward_Ask (m := 1) (mc := 1) (ad := ⟨nb, 0, none⟩) (news := xs) (by omega) (fun j u hu => by rw [add_at, Nat.zero_add]; exact hb.cell j hu) hx1 (by omega) (by unfold maxLen; omega) (by omega)
    refine ⟨o', _, c', w', r, o', c', rfl, ?_, hc⟩
    simpa using ho
  have hn0 : n ≠ 0 := fun he => by subst he; simp at h0
  have hw1 : IntKind.i64.wrap ((n : Int) + ((1 : Nat) : Int)) = ((n + 1 : Nat) : Int) := by rw [wrap_id (by omega) (by omega)]; rfl
  have hw0 : IntKind.i64.wrap ((0 : Int) + ((1 : Nat) : Int)) = ((1 : Nat) : Int) := by rw [wrap_id (by omega) (by omega)]; rfl
  have hw2 : IntKind.i64.wrap (((n + 1 : Nat) : Int) - 0) = ((n + 1 : Nat) : Int) := by rw [wrap_id (by omega) (by omega)]; omega
  simp only [hw1, hw0, hw2, Int.toNat_natCast, Int.toNat_zero, slice0, Nat.sub_zero]
  have hlen := h.len
  have hcap := h.2.1
  have hmax := h.2.2.1
  refine ⟨fun hg => ?_, fun hg => ?_⟩
  · have hg : c < n + 1 := by have := of_decide_eq_true hg; omega
    obtain ⟨inf, z, hinf, hz, hs, hbt, hzs⟩ := el_S_ward_Ask.inf
    have hold : (Builtin.firstCells inf.size 0 (.slice o 0 c)).run Try.prog w.drew = .ok ([] : List Value).toArray w.drew := by
      cases o with
      | none => rfl
      | some a =>
        have := run_loadCells_list (P := Try.prog) w.drew a [] (by simp)
        simpa [Builtin.firstCells] using this
    have hr := Lib.run_append_grow_zeros w t_S_ward_Ask t_int t_S_ward_Ask t_ward_Ask inf z .i64 .i64 el_S_ward_Ask.und (by kernel_rfl) hinf hz o 0 c [] hold (n + 1) (by omega) (by omega) (by omega) (by omega) (by rw [hbt]; omega) (growslice_fits (by omega) (by rw [hbt]; omega))
    simp only [Nat.zero_add] at hr
    have hG1 := grownCap_ge w (n + 1) c t_ward_Ask
    have hG2 := grownCap_le_maxLen w (n + 1) c t_ward_Ask (by unfold maxLen; omega)
    generalize grownCap w (n + 1) c t_ward_Ask = G at hr hG1 hG2
    obtain ⟨row, hrow⟩ : ∃ row : Array Value, row = ([] : List Value).toArray ++ Builtin.zeroCells z.cells (n + 1) ++ Builtin.zeroCells z.cells (G - (n + 1)) := ⟨_, rfl⟩
    rw [← hrow] at hr
    have hrl : row.toList.length = G * 5 := by
      have a1 := zeroCells_len z.cells (n + 1)
      have a2 := zeroCells_len z.cells (G - (n + 1))
      rw [hzs] at a1 a2
      rw [hrow, Array.toList_append, Array.toList_append, List.length_append, List.length_append, a1, a2]
      simp only [List.length_nil]
      omega
    obtain ⟨w2, hw2e⟩ : ∃ w2, w2 = w.drew.alloc (.cells row t_ward_Ask) := ⟨_, rfl⟩
    rw [← hw2e] at hr
    have hB2' := Blk.new hw2e
    have hB2 : Blk w2 w.heap.size row.toList t_ward_Ask := hB2'
    have hc02 : Ch Non w w2 := (Ch.drew rfl).andN (Ch.alloc hw2e)
    have hs2 : w.heap.size < w2.heap.size := hB2.lt
    refine ⟨⟨by omega, by omega⟩, _, _, _, w2, hr, ⟨by omega, by omega⟩, ?_⟩
    have hb2 := hb.keepN hc02
    have hnbl := hb.lt
    obtain ⟨w3, r3, hB3, hc3⟩ := hB2.copy el_S_ward_Ask t_int (off := 0) (dLen := n + 1) (dCap := G) (sLen := 1) (sCap := 1) (m := 1) (a := ⟨nb, 0, none⟩) (cs := xs) (by show 1 = min 1 (n + 1); omega) (by omega) (fun j u hu => by rw [add_at, Nat.zero_add]; exact hb2.cell j hu) (by omega) hx1
    refine ⟨_, w3, r3, fun w' => True, fun w4 e4 => ⟨trivial, ⟨by omega, by omega⟩, ⟨by omega, by omega⟩, ?_⟩⟩
    rw [if_neg (show ¬ G = 1 by omega)]
    have hB4 := hB3.drew e4
    have hc24 : Ch (· = w.heap.size) w2 w4 := hc3.andN (Ch.drew e4)
    have hc04 : Ch Non w w4 := hc02.trans hc24 (fun i hi he => by omega)
    have h4 := h.keepN hc04
    rw [List.take_zero, List.nil_append, Nat.zero_add, hx] at hB4
    have hd : (row.toList.drop 5).length = G * 5 - 5 := by rw [List.length_drop, hrl]
    have h1s : (1 : Nat) * 5 = 5 := rfl
    obtain ⟨p, hp⟩ : ∃ p, o = some p := by
      rcases h.2.2.2 with ⟨_, hcz⟩ | ⟨g, off, cur, ho, _⟩
      · omega
      · exact ⟨_, ho⟩
    subst hp
    obtain ⟨w5, r5, hB5, hc5⟩ := hB4.copy el_S_ward_Ask t_int (off := 5) (dLen := n + 1 - 1) (dCap := G - 1) (sLen := n) (sCap := c) (m := n) (a := p) (cs := cs) (by show n = min n (n + 1 - 1); omega) hlen (fun j u hu => by
      obtain ⟨a', ha', _, _, hcl⟩ := h4.rd j u hu
      have : a' = p := (Option.some.inj ha').symm
      subst this; exact hcl) (by rw [List.length_append, hd, hx]; omega) h1
    have ha5 : ((⟨w.heap.size, 0, none⟩ : Addr).add (1 * 5)) = ⟨w.heap.size, 5, none⟩ := by rw [add_at]
    refine ⟨((n : Nat) : Int), w5, ?_, trivial, some ⟨w.heap.size, 0, none⟩, G, rfl, ?_, ?_⟩
    · simp only [Option.map_some, ha5]
      exact r5
    · rw [List.take_append_of_le_length (by omega), List.take_of_length_le (by omega)] at hB5
      have hs5 := hc5.size
      have hs4 := hc24.size
      refine ⟨by rw [List.length_append, hx, hlen]; omega, by omega, hG2, .inr ⟨w.heap.size, 0, _, rfl, .inr ⟨Nat.le_refl _, by omega⟩, hB5, ?_, ?_⟩⟩
      · rw [List.length_append, List.length_append, List.length_drop, List.length_append, hd, hx, hlen]; omega
      · rw [List.drop_zero]
        exact List.take_left' (by rw [List.length_append, hx, hlen]; omega)
    · exact (hc04.any).trans hc5 (fun i hi he => by omega)
  · have hg : n + 1 ≤ c := by have := of_decide_eq_false hg; omega
    obtain ⟨a1, a2, a3, a4⟩ := h
    rcases a4 with ⟨_, hcz⟩ | ⟨g, off, cur, rfl, hF, hB, hl, ht⟩
    · omega
    have hgn : nb ≠ g := fun he => hnb (he ▸ hF)
    have hcl : (n + 1) * 5 ≤ c * 5 := Nat.mul_le_mul_right _ hg
    obtain ⟨inf, z, hinf, hz, hs, hbt, hzs⟩ := el_S_ward_Ask.inf
    have hsz : ∀ w : World, (Go.sizeOf t_ward_Ask).run Try.prog w = .ok 5 w := fun w => by simp [sizeOf, typeInfo, program, Sem.run_bind, Sem.run, Result.andThen, hinf, hs, pure]
    have hshA : w.shape? nb = some (t_ward_Ask, 5) := by
      unfold World.shape?
      rw [show w.heap[nb]? = _ from hb]
      simp [hx]
    have hshB : w.shape? g = some (t_ward_Ask, cur.length) := by
      unfold World.shape?
      rw [show w.heap[g]? = _ from hB]
      simp
    have hc1 : ¬ c = 1 := by omega
    rw [if_neg hc1]
    have hov := Lib.run_overlaps_apart (P := Try.prog) w t_S_ward_Ask 4 t_ward_Ask el_S_ward_Ask.und 5 hsz ⟨nb, 0, none⟩ ((⟨g, off, none⟩ : Addr).add (1 * 5)) 1 1 (n + 1 - 1) (c - 1) (by rw [add_at]; exact hgn) t_ward_Ask t_ward_Ask 5 cur.length hshA (by rw [add_at]; exact hshB) (by omega) (hb.frozen _ rfl) (hb.frozen _ rfl)
    refine ⟨⟨by omega, by omega⟩, ⟨by omega, by omega⟩, Extern.SlicesOverlaps.overlaps #[t_S_ward_Ask, t_S_ward_Ask] #[4], by kernel_rfl, by kernel_rfl, false, w, hov, iteT rfl ⟨fun w' => True, fun w7 e7 => ⟨trivial, ⟨by omega, by omega⟩, ⟨by omega, by omega⟩, ?_⟩⟩⟩
    have hB7 := hB.drew e7
    obtain ⟨w8, r8, hB8, hc8⟩ := hB7.copy el_S_ward_Ask t_int (off := off + 5) (dLen := n + 1 - 1) (dCap := c - 1) (sLen := n + 1) (sCap := c) (m := n) (a := ⟨g, off, none⟩) (cs := cs) (by show n = min (n + 1) (n + 1 - 1); omega) hlen (fun j u hu => by
      rw [add_at]
      refine hB7.cell _ ?_
      rw [← ht, List.getElem?_take] at hu
      split at hu
      · rw [List.getElem?_drop] at hu; exact hu
      · cases hu) (by omega) h1
    have ha5 : ((⟨g, off, none⟩ : Addr).add (1 * 5)) = ⟨g, off + 5, none⟩ := by rw [add_at]
    have ha0 : ((⟨g, off, none⟩ : Addr).add (0 * 5)) = ⟨g, off, none⟩ := by rw [add_at]; rfl
    have hb8 := (hb.drew e7).keep hc8 hgn
    refine ⟨((n : Nat) : Int), w8, ?_, trivial, ⟨by omega, by omega⟩, ?_⟩
    · simp only [Option.map_some, ha5]
      exact r8
    have hl8 : (cur.take (off + 5) ++ cs ++ cur.drop (off + 5 + cs.length)).length = cur.length := by
      simp only [List.length_append, List.length_take, List.length_drop]; omega
    obtain ⟨w9, r9, hB9, hc9⟩ := hB8.copy el_S_ward_Ask t_int (off := off) (dLen := n + 1) (dCap := c) (sLen := 1) (sCap := 1) (m := 1) (a := ⟨nb, 0, none⟩) (cs := xs) (by show 1 = min 1 (n + 1); omega) (by omega) (fun j u hu => by rw [add_at, Nat.zero_add]; exact hb8.cell j hu) (by omega) hx1
    refine ⟨_, w9, r9, some ⟨g, off, none⟩, c, rfl, ?_, ?_⟩
    · refine ⟨by rw [List.length_append, hx, hlen]; omega, hg, a3, .inr ⟨g, off, _, rfl, .inl hF, hB9, ?_, ?_⟩⟩
      · simp only [List.length_append, List.length_take, List.length_drop, hl8]; omega
      · have e1 : (cur.take (off + 5) ++ cs ++ cur.drop (off + 5 + cs.length)).take off = cur.take off := by
          rw [List.append_assoc, List.take_append_of_le_length (by rw [List.length_take]; omega), List.take_take, Nat.min_eq_left (by omega)]
        have e2 : (cur.take (off + 5) ++ cs ++ cur.drop (off + 5 + cs.length)).drop (off + xs.length) = cs ++ cur.drop (off + 5 + cs.length) := by
          rw [hx, List.append_assoc, List.drop_left' (by rw [List.length_take]; omega)]
        rw [e1, e2, List.append_assoc, List.drop_left' (by rw [List.length_take]; omega), ← List.append_assoc]
        exact List.take_left' (by rw [List.length_append, hx, hlen]; omega)
    · exact ((Ch.drew e7).same (hc8.mono (fun i _ he => he ▸ hF))).same (hc9.mono (fun i _ he => he ▸ hF))
end Go.Proofs.Ytamkffjmggbekaa.V
