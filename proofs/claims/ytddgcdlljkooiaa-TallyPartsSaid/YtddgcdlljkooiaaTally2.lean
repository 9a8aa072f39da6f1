/- For every tally of the model: its numbers one behind the other, sums and differences; the conditions stand in each theorem. -/
import Derived.Test.YtddgcdlljkooiaaTally
set_option linter.unusedVariables false
set_option linter.unusedSimpArgs false
namespace Go.Proofs.Ytddgcdlljkooiaa.Tally
open Go Go.Proofs Go.Proofs.Ytddgcdlljkooiaa.V Go.Proofs.Ytddgcdlljkooiaa.Vc Go.RowKit

/-- The order in which a tally's numbers are told. -/
def perm : List Nat := [28, 29, 30, 31, 0, 1, 2, 3, 4, 5, 6, 7, 8, 9, 10, 11, 12, 13, 14, 15, 16, 17, 18, 19, 20, 21, 22, 23, 24, 25, 26, 27]
def ptr (b i : Nat) : Value := .pointer (some ⟨b, i, none⟩)
theorem perm_two {j : Nat} (h : j < 14) : perm.take (4 + 2 * (j + 1)) = perm.take (4 + 2 * j) ++ [j * 2, j * 2 + 1] := by
  have : j = 0 ∨ j = 1 ∨ j = 2 ∨ j = 3 ∨ j = 4 ∨ j = 5 ∨ j = 6 ∨ j = 7 ∨ j = 8 ∨ j = 9 ∨ j = 10 ∨ j = 11 ∨ j = 12 ∨ j = 13 := by omega
  rcases this with rfl | rfl | rfl | rfl | rfl | rfl | rfl | rfl | rfl | rfl | rfl | rfl | rfl | rfl <;> rfl
theorem numbers_spec (w : World) (tb : Nat) : Calls Try.prog i_tally_Tally_numbers #[.pointer (some ⟨tb, 0, none⟩)] w (Ret fun v w' => ∃ (o : Option Addr) (c : Nat), v = .slice o 32 c ∧ Rd w' o (perm.map (ptr tb)) (New w w') ∧ Ch Non w w') := by
  refine tally_Tally_numbers.calls _ ?_
  unfold tally_Tally_numbers.vc
  refine ⟨fun _ => True, fun w1 e1 => ⟨trivial, fun w2 e2 => ⟨trivial, ?_⟩⟩⟩
  have hg2 : Gr Non w w2 t_P_int 1 (some ⟨w1.heap.size, 0, none⟩) 4 4 ((perm.take (4 + 2 * 0)).map (ptr tb)) := Gr.made (Ch.drew e1) e2 rfl (by omega)
  refine ⟨fun oA oN oC i k w' => ∃ j : Nat, i = j ∧ j ≤ 14 ∧ k = 14 - j ∧ oN = 4 + 2 * j ∧ Gr Non w w' t_P_int 1 oA (4 + 2 * j) oC ((perm.take (4 + 2 * j)).map (ptr tb)), ⟨_, 0, rfl, by omega, rfl, rfl, hg2⟩, ?_⟩
  clear hg2 e1 e2
  rintro jk oA oN oC i k w3 ⟨j, rfl, hj, rfl, rfl, hg⟩
  refine ⟨fun hlt => ?_, fun hge => ?_⟩
  · have hlt : j < 14 := by have := of_decide_eq_true hlt; omega
    refine ⟨fun _ => True, fun w4 e4 => ⟨trivial, ⟨by omega, by omega⟩, ⟨by omega, by omega⟩, fun w5 e5 => ⟨trivial, ?_⟩⟩⟩
    have hjj : (j : Int).toNat = j := Int.toNat_natCast j
    rw [hjj, add_at, add_at, Nat.zero_add] at e5
    have hB5 := Blk.new e5
    have hg5 := (hg.keepN (Ch.drew e4)).keepN (Ch.alloc e5)
    have hr5 : Rd w5 (some ⟨w4.heap.size, 0, none⟩) ([j * 2, j * 2 + 1].map (ptr tb)) (· = w4.heap.size) := hB5.rd
    obtain ⟨o', c', w6, hr, hg6, _⟩ := Gr.app (c2 := 2) (m := 2) el_S_P_int hg5 t_S_P_int hr5 rfl (fun u hu => by
      simp only [List.map_cons, List.map_nil, List.mem_cons, List.not_mem_nil, or_false] at hu
      rcases hu with rfl | rfl <;> rfl) (by omega) (by omega)
    refine ⟨o', _, c', w6, hr, trivial, 14 - (j + 1), by omega, j + 1, by rw [wrap_id (by omega) (by omega)]; rfl, hlt, rfl, by omega, ?_⟩
    rw [perm_two hlt, List.map_append]
    exact hg6
  · have hj14 : j = 14 := by have := of_decide_eq_false hge; omega
    subst hj14
    exact ⟨oA, oC, rfl, hg.rd, hg.2⟩
/-- Some of a tally's numbers are others. -/
def part (t : List Int) (f : Nat → Int) (j : Nat) : List Int := (List.range 32).map fun i => if i ∈ perm.take j then f i else g t i
def allT (f : Nat → Int) : List Int := (List.range 32).map f
theorem part_len (t : List Int) (f : Nat → Int) (j : Nat) : (part t f j).length = 32 := by simp [part]
theorem allT_len (f : Nat → Int) : (allT f).length = 32 := by simp [allT]
theorem g_all {f : Nat → Int} {i : Nat} (h : i < 32) : g (allT f) i = f i := by simp [g, allT, h]
theorem list_g {t : List Int} (h : t.length = 32) : allT (g t) = t := by
  apply List.ext_getElem
  · rw [allT_len, h]
  · intro i h1 h2
    simp [allT, g, List.getD_eq_getElem?_getD, List.getElem?_eq_getElem h2]
theorem part_zero {t : List Int} (h : t.length = 32) (f : Nat → Int) : part t f 0 = t := by
  have : part t f 0 = allT (g t) := by simp [part, allT]
  rw [this, list_g h]
theorem part_all (t : List Int) (f : Nat → Int) : part t f 32 = allT f := by
  unfold part allT
  refine List.map_congr_left fun i hi => ?_
  have : i ∈ perm.take 32 := by
    have hi : i < 32 := by simpa using hi
    revert i
    decide
  rw [if_pos this]
theorem perm_at {j : Nat} (h : j < 32) : ∃ p, perm[j]? = some p ∧ p < 32 ∧ p ∉ perm.take j ∧ perm.take (j + 1) = perm.take j ++ [p] := by
  have hl : j < perm.length := h
  refine ⟨perm[j], List.getElem?_eq_getElem hl, ?_, ?_, List.take_succ_eq_append_getElem hl⟩
  · revert j; decide
  · revert j; decide
theorem part_g {t : List Int} {f : Nat → Int} {j p : Nat} (h : p < 32) (hp : p ∉ perm.take j) : g (part t f j) p = g t p := by
  unfold part
  have := g_all (f := fun i => if i ∈ perm.take j then f i else g t i) h
  rw [show allT (fun i => if i ∈ perm.take j then f i else g t i) = (List.range 32).map (fun i => if i ∈ perm.take j then f i else g t i) from rfl] at this
  rw [this, if_neg hp]
theorem part_set {t : List Int} {f : Nat → Int} {j p : Nat} (hp : perm.take (j + 1) = perm.take j ++ [p]) : (part t f j).set p (f p) = part t f (j + 1) := by
  apply List.ext_getElem
  · rw [List.length_set, part_len, part_len]
  · intro i h1 h2
    rw [List.getElem_set]
    simp only [part, List.getElem_map, List.getElem_range, hp, List.mem_append, List.mem_singleton]
    by_cases h : p = i
    · subst h; rw [if_pos rfl, if_pos (.inr rfl)]
    · rw [if_neg h]
      by_cases h3 : i ∈ perm.take j
      · rw [if_pos h3, if_pos (.inl h3)]
      · rw [if_neg h3, if_neg (fun k => k.elim h3 (fun e => h e.symm))]
def plusT (t s : List Int) : List Int := allT fun i => IntKind.i64.wrap (g t i + g s i)
def minusT (t s : List Int) : List Int := allT fun i => IntKind.i64.wrap (g t i - g s i)
def joinT (l : List (List Int)) : List Int := l.foldl plusT z32
theorem joinT_len (l : List (List Int)) : (joinT l).length = 32 := by
  have : ∀ (l : List (List Int)) (t : List Int), t.length = 32 → (l.foldl plusT t).length = 32 := fun l => by
    induction l with
    | nil => intro t h; exact h
    | cons e r ih => intro t h; exact ih _ (allT_len _)
  exact this l z32 rfl
theorem joinT_snoc (l : List (List Int)) (t : List Int) : joinT (l ++ [t]) = plusT (joinT l) t := by unfold joinT; rw [List.foldl_append]; rfl
def tE (t : List Int) : List Value := (List.range 32).map fun i => iv (g t i)
theorem tE_len (t : List Int) : (tE t).length = 32 := by simp [tE]
theorem tE_eq {t : List Int} (h : t.length = 32) : tE t = t.map iv := by
  conv => rhs; rw [← list_g h]
  unfold tE allT
  rw [List.map_map]; rfl
theorem tE_at (t : List Int) {i : Nat} (h : i < 32) : (tE t)[i]? = some (iv (g t i)) := by simp [tE, h]
theorem Join_spec {w : World} {o : Option Addr} {l : List (List Int)} {F : Nat → Prop} (h : Rd w o (l.map tE).flatten F) (hll : ∀ t ∈ l, t.length = 32) (hl : l.length ≤ 1000000) (c : Nat) :
    Calls Try.prog i_tally_Join #[.slice o l.length c] w (Ret fun v w' => v = .agg ((joinT l).map iv).toArray ∧ Ch Non w w') := by
  refine tally_Join.calls _ _ _ ?_
  unfold tally_Join.vc
  intro w1 e1 w2 e2
  have hR2 := (newz e1).alloc e2
  have hT2 := newz e2
  have hs1 : w.heap.size < w1.heap.size := (newz e1).lt
  have hs2 : w1.heap.size < w2.heap.size := hT2.lt
  have hc2 : Ch Non w w2 := (Ch.alloc e1).andN (Ch.alloc e2)
  clear e1 e2
  generalize hr : w.heap.size = rb at hR2 hs1 ⊢
  generalize ht : w1.heap.size = tb at hT2 hs1 hs2 ⊢
  refine ⟨fun i k w' => ∃ j : Nat, i = j ∧ j ≤ l.length ∧ k = l.length - j ∧ Blk w' rb (z32.map iv) 58 ∧ Blk w' tb ((joinT (l.take j)).map iv) 58 ∧ Ch Non w w', ⟨_, 0, rfl, Nat.zero_le _, rfl, hR2, hT2, hc2⟩, ?_⟩
  clear hR2 hT2 hc2
  rintro jk i k w3 ⟨j, rfl, hj, rfl, hR, hT, hc⟩
  have hTl := joinT_len (l.take j)
  have hRl : z32.length = 32 := rfl
  refine ⟨fun hlt => ?_, fun hge => ?_⟩
  rotate_left
  · have hjn : j = l.length := by have := of_decide_eq_false hge; omega
    subst hjn
    rw [List.take_length] at hT hTl
    refine ⟨_, _, _, _, _, _, _, _, _, _, _, _, _, _, _, _, _, _, _, _, _, _, _, _, _, _, _, _, _, _, _, _, ⟨cT hT 0 (by rw [hTl]; decide), cT hT 1 (by rw [hTl]; decide), cT hT 2 (by rw [hTl]; decide), cT hT 3 (by rw [hTl]; decide), cT hT 4 (by rw [hTl]; decide), cT hT 5 (by rw [hTl]; decide), cT hT 6 (by rw [hTl]; decide), cT hT 7 (by rw [hTl]; decide), cT hT 8 (by rw [hTl]; decide), cT hT 9 (by rw [hTl]; decide), cT hT 10 (by rw [hTl]; decide), cT hT 11 (by rw [hTl]; decide), cT hT 12 (by rw [hTl]; decide), cT hT 13 (by rw [hTl]; decide), cT hT 14 (by rw [hTl]; decide), cT hT 15 (by rw [hTl]; decide), cT hT 16 (by rw [hTl]; decide), cT hT 17 (by rw [hTl]; decide), cT hT 18 (by rw [hTl]; decide), cT hT 19 (by rw [hTl]; decide), cT hT 20 (by rw [hTl]; decide), cT hT 21 (by rw [hTl]; decide), cT hT 22 (by rw [hTl]; decide), cT hT 23 (by rw [hTl]; decide), cT hT 24 (by rw [hTl]; decide), cT hT 25 (by rw [hTl]; decide), cT hT 26 (by rw [hTl]; decide), cT hT 27 (by rw [hTl]; decide), cT hT 28 (by rw [hTl]; decide), cT hT 29 (by rw [hTl]; decide), cT hT 30 (by rw [hTl]; decide), cT hT 31 (by rw [hTl]; decide)⟩, ⟨okT hR 0 (by rw [hRl]; decide), okT hR 1 (by rw [hRl]; decide), okT hR 2 (by rw [hRl]; decide), okT hR 3 (by rw [hRl]; decide), okT hR 4 (by rw [hRl]; decide), okT hR 5 (by rw [hRl]; decide), okT hR 6 (by rw [hRl]; decide), okT hR 7 (by rw [hRl]; decide), okT hR 8 (by rw [hRl]; decide), okT hR 9 (by rw [hRl]; decide), okT hR 10 (by rw [hRl]; decide), okT hR 11 (by rw [hRl]; decide), okT hR 12 (by rw [hRl]; decide), okT hR 13 (by rw [hRl]; decide), okT hR 14 (by rw [hRl]; decide), okT hR 15 (by rw [hRl]; decide), okT hR 16 (by rw [hRl]; decide), okT hR 17 (by rw [hRl]; decide), okT hR 18 (by rw [hRl]; decide), okT hR 19 (by rw [hRl]; decide), okT hR 20 (by rw [hRl]; decide), okT hR 21 (by rw [hRl]; decide), okT hR 22 (by rw [hRl]; decide), okT hR 23 (by rw [hRl]; decide), okT hR 24 (by rw [hRl]; decide), okT hR 25 (by rw [hRl]; decide), okT hR 26 (by rw [hRl]; decide), okT hR 27 (by rw [hRl]; decide), okT hR 28 (by rw [hRl]; decide), okT hR 29 (by rw [hRl]; decide), okT hR 30 (by rw [hRl]; decide), okT hR 31 (by rw [hRl]; decide)⟩, fun wr er => ?_⟩
    obtain ⟨hRt, hcr⟩ := sets32 hR hRl hTl er
    refine ⟨_, _, _, _, _, _, _, _, _, _, _, _, _, _, _, _, _, _, _, _, _, _, _, _, _, _, _, _, _, _, _, _, ⟨cT hRt 0 (by rw [hTl]; decide), cT hRt 1 (by rw [hTl]; decide), cT hRt 2 (by rw [hTl]; decide), cT hRt 3 (by rw [hTl]; decide), cT hRt 4 (by rw [hTl]; decide), cT hRt 5 (by rw [hTl]; decide), cT hRt 6 (by rw [hTl]; decide), cT hRt 7 (by rw [hTl]; decide), cT hRt 8 (by rw [hTl]; decide), cT hRt 9 (by rw [hTl]; decide), cT hRt 10 (by rw [hTl]; decide), cT hRt 11 (by rw [hTl]; decide), cT hRt 12 (by rw [hTl]; decide), cT hRt 13 (by rw [hTl]; decide), cT hRt 14 (by rw [hTl]; decide), cT hRt 15 (by rw [hTl]; decide), cT hRt 16 (by rw [hTl]; decide), cT hRt 17 (by rw [hTl]; decide), cT hRt 18 (by rw [hTl]; decide), cT hRt 19 (by rw [hTl]; decide), cT hRt 20 (by rw [hTl]; decide), cT hRt 21 (by rw [hTl]; decide), cT hRt 22 (by rw [hTl]; decide), cT hRt 23 (by rw [hTl]; decide), cT hRt 24 (by rw [hTl]; decide), cT hRt 25 (by rw [hTl]; decide), cT hRt 26 (by rw [hTl]; decide), cT hRt 27 (by rw [hTl]; decide), cT hRt 28 (by rw [hTl]; decide), cT hRt 29 (by rw [hTl]; decide), cT hRt 30 (by rw [hTl]; decide), cT hRt 31 (by rw [hTl]; decide)⟩, ?_⟩
    rw [agg32 hTl]
    exact ⟨rfl, hc.trans hcr (fun i hi he => by omega)⟩
  have hlt : j < l.length := by have := of_decide_eq_true hlt; omega
  obtain ⟨p, hp, _, _, hcell⟩ := (h.keepN hc).elem (sz := 32) (enc := tE) tE_len (by omega) hlt
  have hol := hll _ (List.getElem_mem hlt)
  have hsn : joinT (l.take (j + 1)) = plusT (joinT (l.take j)) l[j] := by rw [List.take_succ_eq_append_getElem hlt, joinT_snoc]
  generalize l[j] = s at hcell hol hsn
  subst hp
  have hjj : (j : Int).toNat = j := Int.toNat_natCast j
  have h0 := hcell 0 _ (tE_at s (by omega))
  rw [add_none] at h0
  rw [hjj]
  refine ⟨⟨by omega, by omega⟩, _, _, _, _, _, _, _, _, _, _, _, _, _, _, _, _, _, _, _, _, _, _, _, _, _, _, _, _, _, _, _, _, ⟨h0, hcell (0 + 1) _ (tE_at s (by omega)), hcell (1 + 1) _ (tE_at s (by omega)), hcell (2 + 1) _ (tE_at s (by omega)), hcell (3 + 1) _ (tE_at s (by omega)), hcell (4 + 1) _ (tE_at s (by omega)), hcell (5 + 1) _ (tE_at s (by omega)), hcell (6 + 1) _ (tE_at s (by omega)), hcell (7 + 1) _ (tE_at s (by omega)), hcell (8 + 1) _ (tE_at s (by omega)), hcell (9 + 1) _ (tE_at s (by omega)), hcell (10 + 1) _ (tE_at s (by omega)), hcell (11 + 1) _ (tE_at s (by omega)), hcell (12 + 1) _ (tE_at s (by omega)), hcell (13 + 1) _ (tE_at s (by omega)), hcell (14 + 1) _ (tE_at s (by omega)), hcell (15 + 1) _ (tE_at s (by omega)), hcell (16 + 1) _ (tE_at s (by omega)), hcell (17 + 1) _ (tE_at s (by omega)), hcell (18 + 1) _ (tE_at s (by omega)), hcell (19 + 1) _ (tE_at s (by omega)), hcell (20 + 1) _ (tE_at s (by omega)), hcell (21 + 1) _ (tE_at s (by omega)), hcell (22 + 1) _ (tE_at s (by omega)), hcell (23 + 1) _ (tE_at s (by omega)), hcell (24 + 1) _ (tE_at s (by omega)), hcell (25 + 1) _ (tE_at s (by omega)), hcell (26 + 1) _ (tE_at s (by omega)), hcell (27 + 1) _ (tE_at s (by omega)), hcell (28 + 1) _ (tE_at s (by omega)), hcell (29 + 1) _ (tE_at s (by omega)), hcell (30 + 1) _ (tE_at s (by omega))⟩, fun w4 e4 => ?_⟩
  have hE4 := newz e4
  have hs34 : w3.heap.size < w4.heap.size := hE4.lt
  refine ⟨⟨okT hE4 0 (by decide), okT hE4 1 (by decide), okT hE4 2 (by decide), okT hE4 3 (by decide), okT hE4 4 (by decide), okT hE4 5 (by decide), okT hE4 6 (by decide), okT hE4 7 (by decide), okT hE4 8 (by decide), okT hE4 9 (by decide), okT hE4 10 (by decide), okT hE4 11 (by decide), okT hE4 12 (by decide), okT hE4 13 (by decide), okT hE4 14 (by decide), okT hE4 15 (by decide), okT hE4 16 (by decide), okT hE4 17 (by decide), okT hE4 18 (by decide), okT hE4 19 (by decide), okT hE4 20 (by decide), okT hE4 21 (by decide), okT hE4 22 (by decide), okT hE4 23 (by decide), okT hE4 24 (by decide), okT hE4 25 (by decide), okT hE4 26 (by decide), okT hE4 27 (by decide), okT hE4 28 (by decide), okT hE4 29 (by decide), okT hE4 30 (by decide), okT hE4 31 (by decide)⟩, fun w5 e5 => ?_⟩
  obtain ⟨hE5, hc45⟩ := sets32 hE4 rfl hol e5
  have hc35 : Ch Non w3 w5 := (Ch.alloc (F := Non) e4).trans hc45 (fun i hi he => by omega)
  have hs5 := hc35.size
  have hRlt := hR.lt
  have hTlt := hT.lt
  clear e4 e5 hE4 hcell h0 hc45
  generalize hob : w3.heap.size = ob at hE5 hs34 hRlt hTlt ⊢
  refine step_call (numbers_spec w5 ob) ?_
  rintro v w6 ⟨oO, cO, rfl, hrO, hc6⟩
  refine ⟨_, _, _, rfl, ?_⟩
  refine step_call (numbers_spec w6 tb) ?_
  rintro v w7 ⟨oT, cT', rfl, hrT, hc7⟩
  have hc37 := (hc35.andN hc6).andN hc7
  have hR7 := hR.keepN hc37
  have hT7 := hT.keepN hc37
  have hO7 := (hE5.keepN hc6).keepN hc7
  have hrO7 := hrO.keepN hc7
  have hs6 := hc6.size
  have hs7 := hc7.size
  refine ⟨_, _, _, rfl, fun i k w' => ∃ m : Nat, i = m ∧ m ≤ 32 ∧ k = 32 - m ∧ Blk w' tb ((part (joinT (l.take j)) (fun i => IntKind.i64.wrap (g (joinT (l.take j)) i + g s i)) m).map iv) 58 ∧ Ch (· = tb) w7 w', ⟨_, 0, rfl, by omega, rfl, by rw [part_zero hTl]; exact hT7, Ch.refl _ _⟩, ?_⟩
  rintro jk i k w8 ⟨m, rfl, hm, rfl, hT8, hc8⟩
  have hO8 := hO7.keep hc8 (by omega)
  have hrO8 := hrO7.keep hc8 (fun i _ hi he => by have := hi.1; omega)
  have hrT8 := hrT.keep hc8 (fun i _ hi he => by have := hi.1; omega)
  refine ⟨fun hlt2 => ?_, fun hge2 => ?_⟩
  · have hlt2 : m < 32 := by have := of_decide_eq_true hlt2; omega
    obtain ⟨q, hq, hq32, hqn, hqs⟩ := perm_at hlt2
    have hmm : (m : Int).toNat = m := Int.toNat_natCast m
    rw [hmm, Nat.mul_one]
    have hpt : ∀ b, (perm.map (ptr b))[m]? = some (ptr b q) := fun b => by rw [List.getElem?_map, hq]; rfl
    refine ⟨⟨by omega, by omega⟩, hrT8.at (hpt tb) fun p1 hp1 => ⟨_, hp1, fun w' => Ch Non w8 w', fun w9 e9 => ⟨Ch.drew e9, ?_⟩⟩⟩
    have hgp : g (part (joinT (l.take j)) (fun i => IntKind.i64.wrap (g (joinT (l.take j)) i + g s i)) m) q = g (joinT (l.take j)) q := part_g hq32 hqn
    have hpl := part_len (joinT (l.take j)) (fun i => IntKind.i64.wrap (g (joinT (l.take j)) i + g s i)) m
    refine ⟨_, fun w' hc => cT (hT8.keepN hc) q (by omega), ⟨by omega, by omega⟩, ?_⟩
    obtain ⟨p3, hp3, _, _, _⟩ := hrO8 m _ (hpt ob)
    subst hp3
    refine ⟨some ⟨ob, q, none⟩, fun w' hc => by
      obtain ⟨p4, hp4, _, _, h4⟩ := (hrO8.keepN hc) m _ (hpt ob)
      have : p3 = p4 := Option.some.inj hp4
      subst this; exact h4, _, fun w' hc => cT (hO8.keepN hc) q (by omega), okT (hT8.drew e9) q (by omega), fun w13 e13 => ?_⟩
    have hT13 := setT (hT8.drew e9) e13
    rw [hgp, part_set (f := fun i => IntKind.i64.wrap (g (joinT (l.take j)) i + g s i)) hqs] at hT13
    exact ⟨32 - (m + 1), by omega, m + 1, by rw [wrap_id (by omega) (by omega)]; rfl, hlt2, rfl, hT13, (hc8.andN (Ch.drew e9)).same (chT e13)⟩
  · have hm32 : m = 32 := by have := of_decide_eq_false hge2; omega
    subst hm32
    rw [part_all] at hT8
    have hs : allT (fun i => IntKind.i64.wrap (g (joinT (l.take j)) i + g s i)) = joinT (l.take (j + 1)) := hsn.symm
    rw [hs] at hT8
    exact ⟨l.length - (j + 1), by omega, j + 1, by rw [wrap_id (by omega) (by omega)]; rfl, hlt, rfl, hR7.keep hc8 (by omega), hT8, (hc.andN hc37).trans hc8 (fun i hi he => by omega)⟩
theorem g_set {t : List Int} {q : Nat} {v : Int} (h : q < t.length) : g (t.set q v) q = v := by
  unfold g
  rw [List.getD_eq_getElem?_getD, List.getElem?_set_self h]; rfl
/-- The difference is told where no number is below another one. -/
def lessB (t s : List Int) : Bool := (List.range 32).all fun i => decide (0 ≤ IntKind.i64.wrap (g t i - g s i))
theorem Less_spec (w : World) {t s : List Int} (ht : t.length = 32) (hs : s.length = 32) : Calls Try.prog i_tally_Tally_Less #[.agg (t.map iv).toArray, .agg (s.map iv).toArray] w (Ret fun v w' => v = .tuple #[.agg ((if lessB t s then minusT t s else z32).map iv).toArray, .bool (lessB t s)] ∧ Ch Non w w') := by
  rw [← agg32 ht, ← agg32 hs]
  refine tally_Tally_Less.calls _ _ _ _ _ _ _ _ _ _ _ _ _ _ _ _ _ _ _ _ _ _ _ _ _ _ _ _ _ _ _ _ _ _ _ _ _ _ _ _ _ _ _ _ _ _ _ _ _ _ _ _ _ _ _ _ _ _ _ _ _ _ _ _ ?_
  unfold tally_Tally_Less.vc
  intro w1 e1 w2 e2 w3 e3
  have hT := ((new32 ht e1).alloc e2).alloc e3
  have hS := (new32 hs e2).alloc e3
  have hR := newz e3
  have s1 : w.heap.size < w1.heap.size := (new32 ht e1).lt
  have s2 : w1.heap.size < w2.heap.size := (new32 hs e2).lt
  have s3 : w2.heap.size < w3.heap.size := hR.lt
  have hc3 : Ch Non w w3 := ((Ch.alloc e1).andN (Ch.alloc e2)).andN (Ch.alloc e3)
  clear e1 e2 e3
  generalize ht' : w.heap.size = tb at hT s1 ⊢
  generalize hs' : w1.heap.size = sb at hS s1 s2 ⊢
  generalize hr' : w2.heap.size = rb at hR s2 s3 ⊢
  refine step_call (numbers_spec w3 sb) ?_
  rintro v w4 ⟨oO, cO, rfl, hrO, hc4⟩
  refine ⟨_, _, _, rfl, ?_⟩
  refine step_call (numbers_spec w4 tb) ?_
  rintro v w5 ⟨oT, cT', rfl, hrT, hc5⟩
  have hc35 := hc4.andN hc5
  have hT5 := hT.keepN hc35
  have hS5 := hS.keepN hc35
  have hR5 := hR.keepN hc35
  have hrO5 := hrO.keepN hc5
  have s4 := hc4.size
  have s5 := hc5.size
  have hcw : Ch Non w w5 := hc3.andN hc35
  have hRl : z32.length = 32 := rfl
  refine ⟨_, _, _, rfl, fun i k w' => ∃ m : Nat, i = m ∧ m ≤ 32 ∧ k = 32 - m ∧ Blk w' tb ((part t (fun i => IntKind.i64.wrap (g t i - g s i)) m).map iv) 58 ∧ (∀ i ∈ perm.take m, 0 ≤ IntKind.i64.wrap (g t i - g s i)) ∧ Ch (· = tb) w5 w', ⟨_, 0, rfl, by omega, rfl, by rw [part_zero ht]; exact hT5, fun i hi => (by cases hi), Ch.refl _ _⟩, ?_⟩
  rintro jk i k w6 ⟨m, rfl, hm, rfl, hT6, hpos, hc6⟩
  have hS6 := hS5.keep hc6 (by omega)
  have hR6 := hR5.keep hc6 (by omega)
  have hrO6 := hrO5.keep hc6 (fun i _ hi he => by have := hi.1; omega)
  have hrT6 := hrT.keep hc6 (fun i _ hi he => by have := hi.1; omega)
  have hpl := part_len t (fun i => IntKind.i64.wrap (g t i - g s i)) m
  refine ⟨fun hlt2 => ?_, fun hge2 => ?_⟩
  · have hlt2 : m < 32 := by have := of_decide_eq_true hlt2; omega
    obtain ⟨q, hq, hq32, hqn, hqs⟩ := perm_at hlt2
    have hmm : (m : Int).toNat = m := Int.toNat_natCast m
    rw [hmm, Nat.mul_one]
    have hpt : ∀ b, (perm.map (ptr b))[m]? = some (ptr b q) := fun b => by rw [List.getElem?_map, hq]; rfl
    refine ⟨⟨by omega, by omega⟩, hrT6.at (hpt tb) fun p1 hp1 => ⟨_, hp1, fun w' => Ch Non w6 w', fun w7 e7 => ⟨Ch.drew e7, ?_⟩⟩⟩
    have hgp : g (part t (fun i => IntKind.i64.wrap (g t i - g s i)) m) q = g t q := part_g hq32 hqn
    refine ⟨_, fun w' hc => cT (hT6.keepN hc) q (by omega), ⟨by omega, by omega⟩, ?_⟩
    obtain ⟨p3, hp3, _, _, _⟩ := hrO6 m _ (hpt sb)
    subst hp3
    refine ⟨some ⟨sb, q, none⟩, fun w' hc => by
      obtain ⟨p4, hp4, _, _, h4⟩ := (hrO6.keepN hc) m _ (hpt sb)
      have : p3 = p4 := Option.some.inj hp4
      subst this; exact h4, _, fun w' hc => cT (hS6.keepN hc) q (by omega), okT (hT6.drew e7) q (by omega), fun w11 e11 => ?_⟩
    have hT11 := setT (hT6.drew e7) e11
    rw [hgp] at hT11
    have hv : g ((part t (fun i => IntKind.i64.wrap (g t i - g s i)) m).set q (IntKind.i64.wrap (g t q - g s q))) q = IntKind.i64.wrap (g t q - g s q) := g_set (by omega)
    have hcell := cT hT11 q (by rw [List.length_set]; omega)
    rw [hv] at hcell
    have hc11 : Ch (· = tb) w5 w11 := (hc6.andN (Ch.drew e7)).same (chT e11)
    refine ⟨_, hcell, fun hneg => ?_, fun hnn => ?_⟩
    · have hneg := of_decide_eq_true hneg
      have hlb : lessB t s = false := by
        unfold lessB
        rw [List.all_eq_false]
        exact ⟨q, by simpa using hq32, by simp; omega⟩
      have hR11 := (hR6.drew e7).keep (chT (tb := tb) e11) (by omega)
      refine ⟨⟨okT hR11 0 (by rw [hRl]; decide), okT hR11 1 (by rw [hRl]; decide), okT hR11 2 (by rw [hRl]; decide), okT hR11 3 (by rw [hRl]; decide), okT hR11 4 (by rw [hRl]; decide), okT hR11 5 (by rw [hRl]; decide), okT hR11 6 (by rw [hRl]; decide), okT hR11 7 (by rw [hRl]; decide), okT hR11 8 (by rw [hRl]; decide), okT hR11 9 (by rw [hRl]; decide), okT hR11 10 (by rw [hRl]; decide), okT hR11 11 (by rw [hRl]; decide), okT hR11 12 (by rw [hRl]; decide), okT hR11 13 (by rw [hRl]; decide), okT hR11 14 (by rw [hRl]; decide), okT hR11 15 (by rw [hRl]; decide), okT hR11 16 (by rw [hRl]; decide), okT hR11 17 (by rw [hRl]; decide), okT hR11 18 (by rw [hRl]; decide), okT hR11 19 (by rw [hRl]; decide), okT hR11 20 (by rw [hRl]; decide), okT hR11 21 (by rw [hRl]; decide), okT hR11 22 (by rw [hRl]; decide), okT hR11 23 (by rw [hRl]; decide), okT hR11 24 (by rw [hRl]; decide), okT hR11 25 (by rw [hRl]; decide), okT hR11 26 (by rw [hRl]; decide), okT hR11 27 (by rw [hRl]; decide), okT hR11 28 (by rw [hRl]; decide), okT hR11 29 (by rw [hRl]; decide), okT hR11 30 (by rw [hRl]; decide), okT hR11 31 (by rw [hRl]; decide)⟩, fun w12 e12 => ?_⟩
      obtain ⟨hR12, hcr⟩ := sets32 (t := z32) hR11 rfl rfl e12
      refine ⟨_, _, _, _, _, _, _, _, _, _, _, _, _, _, _, _, _, _, _, _, _, _, _, _, _, _, _, _, _, _, _, _, ⟨cT hR12 0 (by rw [hRl]; decide), cT hR12 1 (by rw [hRl]; decide), cT hR12 2 (by rw [hRl]; decide), cT hR12 3 (by rw [hRl]; decide), cT hR12 4 (by rw [hRl]; decide), cT hR12 5 (by rw [hRl]; decide), cT hR12 6 (by rw [hRl]; decide), cT hR12 7 (by rw [hRl]; decide), cT hR12 8 (by rw [hRl]; decide), cT hR12 9 (by rw [hRl]; decide), cT hR12 10 (by rw [hRl]; decide), cT hR12 11 (by rw [hRl]; decide), cT hR12 12 (by rw [hRl]; decide), cT hR12 13 (by rw [hRl]; decide), cT hR12 14 (by rw [hRl]; decide), cT hR12 15 (by rw [hRl]; decide), cT hR12 16 (by rw [hRl]; decide), cT hR12 17 (by rw [hRl]; decide), cT hR12 18 (by rw [hRl]; decide), cT hR12 19 (by rw [hRl]; decide), cT hR12 20 (by rw [hRl]; decide), cT hR12 21 (by rw [hRl]; decide), cT hR12 22 (by rw [hRl]; decide), cT hR12 23 (by rw [hRl]; decide), cT hR12 24 (by rw [hRl]; decide), cT hR12 25 (by rw [hRl]; decide), cT hR12 26 (by rw [hRl]; decide), cT hR12 27 (by rw [hRl]; decide), cT hR12 28 (by rw [hRl]; decide), cT hR12 29 (by rw [hRl]; decide), cT hR12 30 (by rw [hRl]; decide), cT hR12 31 (by rw [hRl]; decide)⟩, ?_⟩
      rw [agg32 hRl, hlb]
      exact ⟨rfl, (hcw.trans hc11 (fun i hi he => by omega)).trans hcr (fun i hi he => by omega)⟩
    · have hnn := of_decide_eq_false hnn
      rw [part_set (f := fun i => IntKind.i64.wrap (g t i - g s i)) hqs] at hT11
      refine ⟨32 - (m + 1), by omega, m + 1, by rw [wrap_id (by omega) (by omega)]; rfl, hlt2, rfl, hT11, fun i hi => ?_, hc11⟩
      rw [hqs, List.mem_append, List.mem_singleton] at hi
      rcases hi with hi | rfl
      · exact hpos i hi
      · omega
  · have hm32 : m = 32 := by have := of_decide_eq_false hge2; omega
    subst hm32
    rw [part_all] at hT6
    have hlb : lessB t s = true := by
      unfold lessB
      rw [List.all_eq_true]
      intro i hi
      have hi : i < 32 := by simpa using hi
      refine decide_eq_true (hpos i ?_)
      clear hpos
      revert i; decide
    have hTl := allT_len (fun i => IntKind.i64.wrap (g t i - g s i))
    have hT := hT6
    have hR := hR6
    refine ⟨_, _, _, _, _, _, _, _, _, _, _, _, _, _, _, _, _, _, _, _, _, _, _, _, _, _, _, _, _, _, _, _, ⟨cT hT 0 (by rw [hTl]; decide), cT hT 1 (by rw [hTl]; decide), cT hT 2 (by rw [hTl]; decide), cT hT 3 (by rw [hTl]; decide), cT hT 4 (by rw [hTl]; decide), cT hT 5 (by rw [hTl]; decide), cT hT 6 (by rw [hTl]; decide), cT hT 7 (by rw [hTl]; decide), cT hT 8 (by rw [hTl]; decide), cT hT 9 (by rw [hTl]; decide), cT hT 10 (by rw [hTl]; decide), cT hT 11 (by rw [hTl]; decide), cT hT 12 (by rw [hTl]; decide), cT hT 13 (by rw [hTl]; decide), cT hT 14 (by rw [hTl]; decide), cT hT 15 (by rw [hTl]; decide), cT hT 16 (by rw [hTl]; decide), cT hT 17 (by rw [hTl]; decide), cT hT 18 (by rw [hTl]; decide), cT hT 19 (by rw [hTl]; decide), cT hT 20 (by rw [hTl]; decide), cT hT 21 (by rw [hTl]; decide), cT hT 22 (by rw [hTl]; decide), cT hT 23 (by rw [hTl]; decide), cT hT 24 (by rw [hTl]; decide), cT hT 25 (by rw [hTl]; decide), cT hT 26 (by rw [hTl]; decide), cT hT 27 (by rw [hTl]; decide), cT hT 28 (by rw [hTl]; decide), cT hT 29 (by rw [hTl]; decide), cT hT 30 (by rw [hTl]; decide), cT hT 31 (by rw [hTl]; decide)⟩, ⟨okT hR 0 (by rw [hRl]; decide), okT hR 1 (by rw [hRl]; decide), okT hR 2 (by rw [hRl]; decide), okT hR 3 (by rw [hRl]; decide), okT hR 4 (by rw [hRl]; decide), okT hR 5 (by rw [hRl]; decide), okT hR 6 (by rw [hRl]; decide), okT hR 7 (by rw [hRl]; decide), okT hR 8 (by rw [hRl]; decide), okT hR 9 (by rw [hRl]; decide), okT hR 10 (by rw [hRl]; decide), okT hR 11 (by rw [hRl]; decide), okT hR 12 (by rw [hRl]; decide), okT hR 13 (by rw [hRl]; decide), okT hR 14 (by rw [hRl]; decide), okT hR 15 (by rw [hRl]; decide), okT hR 16 (by rw [hRl]; decide), okT hR 17 (by rw [hRl]; decide), okT hR 18 (by rw [hRl]; decide), okT hR 19 (by rw [hRl]; decide), okT hR 20 (by rw [hRl]; decide), okT hR 21 (by rw [hRl]; decide), okT hR 22 (by rw [hRl]; decide), okT hR 23 (by rw [hRl]; decide), okT hR 24 (by rw [hRl]; decide), okT hR 25 (by rw [hRl]; decide), okT hR 26 (by rw [hRl]; decide), okT hR 27 (by rw [hRl]; decide), okT hR 28 (by rw [hRl]; decide), okT hR 29 (by rw [hRl]; decide), okT hR 30 (by rw [hRl]; decide), okT hR 31 (by rw [hRl]; decide)⟩, fun wr er => ?_⟩
    obtain ⟨hRt, hcr⟩ := sets32 hR hRl hTl er
    refine ⟨_, _, _, _, _, _, _, _, _, _, _, _, _, _, _, _, _, _, _, _, _, _, _, _, _, _, _, _, _, _, _, _, ⟨cT hRt 0 (by rw [hTl]; decide), cT hRt 1 (by rw [hTl]; decide), cT hRt 2 (by rw [hTl]; decide), cT hRt 3 (by rw [hTl]; decide), cT hRt 4 (by rw [hTl]; decide), cT hRt 5 (by rw [hTl]; decide), cT hRt 6 (by rw [hTl]; decide), cT hRt 7 (by rw [hTl]; decide), cT hRt 8 (by rw [hTl]; decide), cT hRt 9 (by rw [hTl]; decide), cT hRt 10 (by rw [hTl]; decide), cT hRt 11 (by rw [hTl]; decide), cT hRt 12 (by rw [hTl]; decide), cT hRt 13 (by rw [hTl]; decide), cT hRt 14 (by rw [hTl]; decide), cT hRt 15 (by rw [hTl]; decide), cT hRt 16 (by rw [hTl]; decide), cT hRt 17 (by rw [hTl]; decide), cT hRt 18 (by rw [hTl]; decide), cT hRt 19 (by rw [hTl]; decide), cT hRt 20 (by rw [hTl]; decide), cT hRt 21 (by rw [hTl]; decide), cT hRt 22 (by rw [hTl]; decide), cT hRt 23 (by rw [hTl]; decide), cT hRt 24 (by rw [hTl]; decide), cT hRt 25 (by rw [hTl]; decide), cT hRt 26 (by rw [hTl]; decide), cT hRt 27 (by rw [hTl]; decide), cT hRt 28 (by rw [hTl]; decide), cT hRt 29 (by rw [hTl]; decide), cT hRt 30 (by rw [hTl]; decide), cT hRt 31 (by rw [hTl]; decide)⟩, ?_⟩
    rw [agg32 hTl]
    rw [hlb]
    exact ⟨rfl, (hcw.trans hc6 (fun i hi he => by omega)).trans hcr (fun i hi he => by omega)⟩
end Go.Proofs.Ytddgcdlljkooiaa.Tally
