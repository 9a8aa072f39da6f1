/- TallyParts's contract: of every row of events and every cut the Go function answers true and leaves what was there; the conditions stand in each theorem. -/
import Derived.Test.YtddgcdlljkooiaaTallyLaw2
set_option linter.unusedVariables false
set_option linter.unusedSimpArgs false
namespace Go.Proofs.Ytddgcdlljkooiaa.Tally
open Go Go.Proofs Go.Proofs.Ytddgcdlljkooiaa.V Go.Proofs.Ytddgcdlljkooiaa.Vc Go.RowKit

theorem wrap_add1 (x y : Int) : IntKind.i64.wrap (IntKind.i64.wrap x + y) = IntKind.i64.wrap (x + y) := by
  unfold IntKind.wrap; simp [IntKind.bits, IntKind.signed]; omega
theorem wrap_add2 (x y : Int) : IntKind.i64.wrap (x + IntKind.i64.wrap y) = IntKind.i64.wrap (x + y) := by
  rw [Int.add_comm, wrap_add1, Int.add_comm]
theorem wrap_wrap (x : Int) : IntKind.i64.wrap (IntKind.i64.wrap x) = IntKind.i64.wrap x := by
  have := wrap_add1 x 0
  rwa [Int.add_zero, Int.add_zero] at this
theorem wrap_sub12 (x y : Int) : IntKind.i64.wrap (IntKind.i64.wrap x - IntKind.i64.wrap y) = IntKind.i64.wrap (x - y) := by
  unfold IntKind.wrap; simp [IntKind.bits, IntKind.signed]; omega
/-- The sum over events. -/
def sumE (f : EvD → Int) : List EvD → Int
  | [] => 0
  | e :: r => f e + sumE f r
theorem sumE_append (f : EvD → Int) (a b : List EvD) : sumE f (a ++ b) = sumE f a + sumE f b := by
  induction a with
  | nil => simp [sumE]
  | cons e r ih => simp only [List.cons_append, sumE, ih]; omega
theorem sumE_bounds (f : EvD → Int) {B : Int} {l : List EvD} (h : ∀ e ∈ l, 0 ≤ f e ∧ f e ≤ B) : 0 ≤ sumE f l ∧ sumE f l ≤ l.length * B := by
  induction l with
  | nil => simp [sumE]
  | cons e r ih =>
    have h1 := h e List.mem_cons_self
    have h2 := ih (fun e he => h e (List.mem_cons_of_mem _ he))
    have : ((e :: r).length : Int) * B = r.length * B + B := by
      rw [List.length_cons, Int.natCast_add, Int.add_mul]; simp
    simp only [sumE]
    rw [this]
    omega
theorem sumE_add (f f1 f2 : EvD → Int) (hh : ∀ e, f e = f1 e + f2 e) (l : List EvD) : sumE f l = sumE f1 l + sumE f2 l := by
  induction l with
  | nil => rfl
  | cons e r ih => simp only [sumE, hh, ih]; omega
theorem sumE_one (f : EvD → Int) (hh : ∀ e, f e = 1) (l : List EvD) : sumE f l = l.length := by
  induction l with
  | nil => rfl
  | cons e r ih => simp only [sumE, hh, ih, List.length_cons]; omega
theorem sumE_congr (f f1 : EvD → Int) (hh : ∀ e, f e = f1 e) (l : List EvD) : sumE f l = sumE f1 l := by
  induction l with
  | nil => rfl
  | cons e r ih => simp only [sumE, hh, ih]
/-- What an event adds at a place. -/
def kk (e : EvD) : Nat := (kindP e.kind).toNat
theorem kk_lt (e : EvD) : kk e < 14 := by have := kindP_at e.kind; unfold kk; omega
def dE (i : Nat) (e : EvD) : Int :=
  (if i = 2 * kk e then 1 else 0) + (if e.err ≠ 0 then (if i = 2 * kk e + 1 then 1 else 0) else if e.kind = 5 then (if 2 ≤ e.nums.length ∧ e.nums.getD 1 0 = 1 then (if i = 28 then 1 else 0) else 0) + (if e.nums.length = 4 then (if i = 31 then e.nums.getD 3 0 else 0) else 0) else if e.kind = 2 then (if i = 29 then 1 else 0) else if e.kind = 3 then (if i = 30 then (e.on : Int) else 0) else 0)
theorem bump_w {t : List Int} {q i : Nat} {d : Int} (hq : q < t.length) (hw : IntKind.i64.wrap (g t i) = g t i) : g (bump t q d) i = IntKind.i64.wrap (g t i + if i = q then d else 0) := by
  rw [bump_g hq]
  split
  · rename_i h; subst h; rfl
  · rw [Int.add_zero, hw]
theorem pickT_w {t n : List Int} {i : Nat} (ht : t.length = 32) (hw : IntKind.i64.wrap (g t i) = g t i) : g (pickT t n) i = IntKind.i64.wrap (g t i + ((if 2 ≤ n.length ∧ n.getD 1 0 = 1 then (if i = 28 then 1 else 0) else 0) + (if n.length = 4 then (if i = 31 then n.getD 3 0 else 0) else 0))) := by
  have h1 : g (if 2 ≤ n.length ∧ n.getD 1 0 = 1 then bump t 28 1 else t) i = IntKind.i64.wrap (g t i + if 2 ≤ n.length ∧ n.getD 1 0 = 1 then (if i = 28 then 1 else 0) else 0) := by
    split
    · exact bump_w (by omega) hw
    · rw [Int.add_zero, hw]
  have hl : (if 2 ≤ n.length ∧ n.getD 1 0 = 1 then bump t 28 1 else t).length = 32 := by split <;> simp [bump_len, ht]
  unfold pickT
  simp only
  generalize (if 2 ≤ n.length ∧ n.getD 1 0 = 1 then bump t 28 1 else t) = t1 at h1 hl ⊢
  have hw1 : IntKind.i64.wrap (g t1 i) = g t1 i := by rw [h1, wrap_wrap]
  by_cases h4 : n.length = 4
  · rw [if_pos h4, if_pos h4, bump_w (by omega) hw1, h1, wrap_add1, Int.add_assoc]
  · rw [if_neg h4, if_neg h4, h1, Int.add_zero]
theorem addE_w {t : List Int} (e : EvD) {i : Nat} (ht : t.length = 32) (hw : IntKind.i64.wrap (g t i) = g t i) : g (addE t e) i = IntKind.i64.wrap (g t i + dE i e) := by
  have hk := kk_lt e
  have h1 : g (bump t (2 * kk e) 1) i = IntKind.i64.wrap (g t i + if i = 2 * kk e then 1 else 0) := bump_w (by omega) hw
  have hl : (bump t (2 * kk e) 1).length = 32 := by rw [bump_len]; exact ht
  have hadd : addE t e = if e.err ≠ 0 then bump (bump t (2 * kk e) 1) (2 * kk e + 1) 1 else if e.kind = 5 then pickT (bump t (2 * kk e) 1) e.nums else if e.kind = 2 then bump (bump t (2 * kk e) 1) 29 1 else if e.kind = 3 then bump (bump t (2 * kk e) 1) 30 e.on else bump t (2 * kk e) 1 := rfl
  rw [hadd]
  unfold dE
  generalize bump t (2 * kk e) 1 = t1 at h1 hl ⊢
  have hw1 : IntKind.i64.wrap (g t1 i) = g t1 i := by rw [h1, wrap_wrap]
  by_cases c1 : e.err ≠ 0
  · rw [if_pos c1, if_pos c1, bump_w (by omega) hw1, h1, wrap_add1, Int.add_assoc]
  · rw [if_neg c1, if_neg c1]
    by_cases c2 : e.kind = 5
    · rw [if_pos c2, if_pos c2, pickT_w hl hw1, h1, wrap_add1, Int.add_assoc]
    · rw [if_neg c2, if_neg c2]
      by_cases c3 : e.kind = 2
      · rw [if_pos c3, if_pos c3, bump_w (by omega) hw1, h1, wrap_add1, Int.add_assoc]
      · rw [if_neg c3, if_neg c3]
        by_cases c4 : e.kind = 3
        · rw [if_pos c4, if_pos c4, bump_w (by omega) hw1, h1, wrap_add1, Int.add_assoc]
        · rw [if_neg c4, if_neg c4, h1, Int.add_zero]
theorem z32_g {i : Nat} (hi : i < 32) : g z32 i = 0 := by unfold g z32; rw [List.getD_eq_getElem?_getD, List.getElem?_replicate, if_pos (by omega)]; rfl
theorem fold_w (es : List EvD) : ∀ (t : List Int), t.length = 32 → ∀ i, IntKind.i64.wrap (g t i) = g t i → g (es.foldl addE t) i = IntKind.i64.wrap (g t i + sumE (dE i) es) := by
  induction es with
  | nil => intro t ht i hw; simp only [List.foldl_nil, sumE, Int.add_zero, hw]
  | cons e r ih =>
    intro t ht i hw
    have h1 := addE_w e ht hw
    rw [List.foldl_cons, ih _ (by unfold addE; rw [addT_len]; exact ht) i (by rw [h1, wrap_wrap]), h1, wrap_add1]
    simp only [sumE]
    rw [Int.add_assoc]
theorem ofT_w (es : List EvD) {i : Nat} (hi : i < 32) : g (ofT es) i = IntKind.i64.wrap (sumE (dE i) es) := by
  unfold ofT
  rw [fold_w es z32 rfl i (by rw [z32_g hi]; rfl), z32_g hi, Int.zero_add]
theorem allT_congr {f f1 : Nat → Int} (h : ∀ i, i < 32 → f i = f1 i) : allT f = allT f1 := by
  unfold allT
  exact List.map_congr_left fun i hi => h i (List.mem_range.1 hi)
theorem ofT_eq (es : List EvD) : ofT es = allT fun i => IntKind.i64.wrap (sumE (dE i) es) := by
  rw [← list_g (ofT_len es)]
  exact allT_congr fun i hi => ofT_w es hi
theorem plus_of (xs ys : List EvD) : plusT (ofT xs) (ofT ys) = ofT (xs ++ ys) := by
  rw [ofT_eq (xs ++ ys)]
  unfold plusT
  exact allT_congr fun i hi => by rw [ofT_w xs hi, ofT_w ys hi, wrap_add1, wrap_add2, sumE_append]
theorem of_comm (xs ys : List EvD) : ofT (xs ++ ys) = ofT (ys ++ xs) := by
  rw [ofT_eq, ofT_eq]
  exact allT_congr fun i hi => by rw [sumE_append, sumE_append, Int.add_comm]
theorem join_two (xs ys : List EvD) : joinT [ofT xs, ofT ys] = ofT (xs ++ ys) := by
  have h0 : joinT [ofT xs, ofT ys] = plusT (plusT (ofT []) (ofT xs)) (ofT ys) := rfl
  rw [h0, plus_of, plus_of]; rfl
theorem join_three (xs ys : List EvD) : joinT [ofT ys, ofT xs, z32] = ofT (xs ++ ys) := by
  have h0 : joinT [ofT ys, ofT xs, z32] = plusT (plusT (plusT (ofT []) (ofT ys)) (ofT xs)) (ofT []) := rfl
  rw [h0, plus_of, plus_of, plus_of, List.append_nil, List.nil_append, of_comm]
theorem minus_of (xs ys : List EvD) : minusT (ofT (xs ++ ys)) (ofT xs) = ofT ys := by
  rw [ofT_eq ys]
  unfold minusT
  exact allT_congr fun i hi => by
    rw [ofT_w _ hi, ofT_w xs hi, wrap_sub12, sumE_append]
    congr 1; omega
/-- An event that may be counted. -/
def fair (e : EvD) : Prop := wide e = false ∧ ∀ x ∈ e.nums, 0 ≤ x
theorem getD_mem_or (l : List Int) (i : Nat) : l.getD i 0 = 0 ∨ l.getD i 0 ∈ l := by
  by_cases h : i < l.length
  · right; rw [List.getD_eq_getElem?_getD, List.getElem?_eq_getElem h]; exact List.getElem_mem h
  · left; rw [List.getD_eq_getElem?_getD, List.getElem?_eq_none (by omega)]; rfl
theorem dE_fair {e : EvD} (h : fair e) (i : Nat) : 0 ≤ dE i e ∧ dE i e ≤ 2199023255552 := by
  obtain ⟨hw, hn⟩ := h
  unfold wide at hw
  rw [Bool.or_eq_false_iff, Bool.or_eq_false_iff] at hw
  obtain ⟨⟨_, hw2⟩, hw3⟩ := hw
  have h2 := of_decide_eq_false hw2
  rw [List.any_eq_false] at hw3
  have h3 : 0 ≤ e.nums.getD 3 0 ∧ e.nums.getD 3 0 ≤ 1099511627776 := by
    rcases getD_mem_or e.nums 3 with hz | hm
    · omega
    · have := hn _ hm
      have := hw3 _ hm
      simp only [Bool.or_eq_true, decide_eq_true_eq] at this
      omega
  unfold dE
  generalize e.nums.getD 3 0 = v at h3 ⊢
  have a1 : ∀ (p : Prop) [Decidable p], 0 ≤ (if p then (1 : Int) else 0) ∧ (if p then (1 : Int) else 0) ≤ 1 := fun p _ => by split <;> omega
  have b1 := a1 (i = 2 * kk e)
  have b2 := a1 (i = 2 * kk e + 1)
  have b3 := a1 (i = 28)
  have b4 := a1 (i = 29)
  generalize (if i = 2 * kk e then (1 : Int) else 0) = u1 at b1 ⊢
  generalize (if i = 2 * kk e + 1 then (1 : Int) else 0) = u2 at b2 ⊢
  generalize (if i = 28 then (1 : Int) else 0) = u3 at b3 ⊢
  generalize (if i = 29 then (1 : Int) else 0) = u4 at b4 ⊢
  (repeat' split) <;> omega
theorem sum_fair {es : List EvD} (h : ∀ e ∈ es, fair e) (hl : es.length ≤ 60) (i : Nat) : 0 ≤ sumE (dE i) es ∧ sumE (dE i) es ≤ 131941395333120 := by
  have h1 := sumE_bounds (dE i) (B := 2199023255552) (l := es) (fun e he => dE_fair (h e he) i)
  omega
theorem less_of {xs ys : List EvD} (h : ∀ e ∈ ys, fair e) (hl : ys.length ≤ 60) : lessB (ofT (xs ++ ys)) (ofT xs) = true := by
  unfold lessB
  rw [List.all_eq_true]
  intro i hi
  have hi := List.mem_range.1 hi
  have h1 := sum_fair h hl i
  rw [ofT_w _ hi, ofT_w xs hi, wrap_sub12, sumE_append, decide_eq_true_eq, show sumE (dE i) xs + sumE (dE i) ys - sumE (dE i) xs = sumE (dE i) ys by omega, wrap_id (by omega) (by omega)]
  omega
theorem dE_even (e : EvD) {j : Nat} (hj : j < 14) : dE (2 * j) e = if kk e = j then 1 else 0 := by
  unfold dE
  rw [if_neg (show ¬ 2 * j = 2 * kk e + 1 by omega), if_neg (show ¬ 2 * j = 28 by omega), if_neg (show ¬ 2 * j = 29 by omega), if_neg (show ¬ 2 * j = 30 by omega), if_neg (show ¬ 2 * j = 31 by omega)]
  simp only [ite_self, Int.add_zero]
  by_cases h : kk e = j
  · rw [if_pos h, if_pos (by omega)]
  · rw [if_neg h, if_neg (by omega)]
theorem dE_odd (e : EvD) {j : Nat} (hj : j < 14) : dE (2 * j + 1) e = if kk e = j ∧ e.err ≠ 0 then 1 else 0 := by
  unfold dE
  rw [if_neg (show ¬ 2 * j + 1 = 2 * kk e by omega), if_neg (show ¬ 2 * j + 1 = 28 by omega), if_neg (show ¬ 2 * j + 1 = 29 by omega), if_neg (show ¬ 2 * j + 1 = 30 by omega), if_neg (show ¬ 2 * j + 1 = 31 by omega)]
  simp only [ite_self, Int.add_zero, Int.zero_add]
  by_cases h : kk e = j
  · by_cases h2 : e.err ≠ 0
    · rw [if_pos h2, if_pos (by omega), if_pos ⟨h, h2⟩]
    · rw [if_neg h2, if_neg (fun h => h2 h.2)]
  · have hr : ¬ (kk e = j ∧ e.err ≠ 0) := fun hh => h hh.1
    rw [if_neg (show ¬ 2 * j + 1 = 2 * kk e + 1 by omega), if_neg hr]; simp
theorem tot_of (es : List EvD) : ∀ j, j ≤ 14 → totT (ofT es) j = (IntKind.i64.wrap (sumE (fun e => if kk e < j then 1 else 0) es), IntKind.i64.wrap (sumE (fun e => if kk e < j ∧ e.err ≠ 0 then 1 else 0) es)) := fun j => by
  induction j with
  | zero =>
    intro _
    rw [sumE_congr _ (fun _ => 0) (fun e => if_neg (Nat.not_lt_zero _)), sumE_congr (fun e => if kk e < 0 ∧ e.err ≠ 0 then 1 else 0) (fun _ => 0) (fun e => if_neg (fun h => Nat.not_lt_zero _ h.1))]
    have hz : sumE (fun _ => (0 : Int)) es = 0 := by
      have := sumE_bounds (fun _ => (0 : Int)) (B := 0) (l := es) (fun _ _ => by omega)
      omega
    rw [hz]; rfl
  | succ j ih =>
    intro hj
    rw [totT_succ, ih (by omega), ofT_w es (by omega), ofT_w es (by omega), wrap_add1, wrap_add1, wrap_add2, wrap_add2]
    rw [sumE_add (fun e => if kk e < j + 1 then 1 else 0) (fun e => if kk e < j then 1 else 0) (dE (2 * j)) (fun e => by
      rw [dE_even e (by omega)]
      by_cases h : kk e < j
      · rw [if_pos h, if_pos (by omega), if_neg (by omega)]; rfl
      · rw [if_neg h]
        by_cases h2 : kk e = j
        · rw [if_pos h2, if_pos (by omega)]; rfl
        · rw [if_neg h2, if_neg (by omega)]; rfl)]
    rw [sumE_add (fun e => if kk e < j + 1 ∧ e.err ≠ 0 then 1 else 0) (fun e => if kk e < j ∧ e.err ≠ 0 then 1 else 0) (dE (2 * j + 1)) (fun e => by
      rw [dE_odd e (by omega)]
      (repeat' split) <;> omega)]
theorem tot_all (es : List EvD) (hl : es.length ≤ 60) : (totT (ofT es) 14).1 = es.length ∧ (totT (ofT es) 14).2 ≤ es.length := by
  rw [tot_of es 14 (by omega)]
  simp only
  rw [sumE_one _ (fun e => if_pos (kk_lt e)), wrap_id (by omega) (by omega)]
  refine ⟨rfl, ?_⟩
  have := sumE_bounds (fun e => if kk e < 14 ∧ e.err ≠ 0 then 1 else 0) (B := 1) (l := es) (fun e _ => by split <;> omega)
  rw [wrap_id (by omega) (by omega)]
  omega
theorem flat_drop {α : Type} {enc : α → List Value} {sz : Nat} (hsz : ∀ y, (enc y).length = sz) : ∀ (l : List α) (m : Nat), ((l.map enc).flatten).drop (m * sz) = ((l.drop m).map enc).flatten := fun l => by
  induction l with
  | nil => intro m; simp
  | cons a r ih =>
    intro m
    cases m with
    | zero => simp
    | succ m =>
      have h2 : (m + 1) * sz = (enc a).length + m * sz := by rw [Nat.add_mul, hsz]; omega
      rw [List.map_cons, List.flatten_cons, h2, List.drop_append, List.drop_of_length_le (by omega), List.nil_append, Nat.add_sub_cancel_left, ih]; rfl
theorem flat_take {α : Type} {enc : α → List Value} {sz : Nat} (hsz : ∀ y, (enc y).length = sz) : ∀ (l : List α) (m : Nat), ((l.map enc).flatten).take (m * sz) = ((l.take m).map enc).flatten := fun l => by
  induction l with
  | nil => intro m; simp
  | cons a r ih =>
    intro m
    cases m with
    | zero => simp
    | succ m =>
      have h2 : (m + 1) * sz = (enc a).length + m * sz := by rw [Nat.add_mul, hsz]; omega
      rw [List.map_cons, List.flatten_cons, h2, List.take_append, List.take_of_length_le (by omega), Nat.add_sub_cancel_left, ih]; rfl
theorem flat_len {α : Type} {enc : α → List Value} {sz : Nat} (hsz : ∀ y, (enc y).length = sz) (l : List α) : ((l.map enc).flatten).length = l.length * sz := by
  induction l with
  | nil => simp
  | cons a r ih => rw [List.map_cons, List.flatten_cons, List.length_append, ih, hsz, List.length_cons, Nat.add_mul]; omega
theorem Rd.cut {α : Type} {enc : α → List Value} {sz : Nat} {w : World} {o : Option Addr} {F : Nat → Prop} {l : List α} {c : Nat} (h : Rd w o (l.map enc).flatten F) (hsz : ∀ y, (enc y).length = sz) (hc : l.length ≤ c) (lo m : Nat) :
    Rd w (if c = lo then o else o.map (·.add (lo * sz))) (((l.drop lo).take m).map enc).flatten F := by
  have := h.slice (sz := sz) (c := c) (by rw [flat_len hsz]; exact Nat.mul_le_mul_right _ hc) lo m
  rwa [flat_drop hsz, flat_take hsz] at this
theorem evE_len (e : EvD) : (evE e).length = 10 := rfl
theorem agg64 (a b : List Int) : (#[.int .i64 (g a 0), .int .i64 (g a 1), .int .i64 (g a 2), .int .i64 (g a 3), .int .i64 (g a 4), .int .i64 (g a 5), .int .i64 (g a 6), .int .i64 (g a 7), .int .i64 (g a 8), .int .i64 (g a 9), .int .i64 (g a 10), .int .i64 (g a 11), .int .i64 (g a 12), .int .i64 (g a 13), .int .i64 (g a 14), .int .i64 (g a 15), .int .i64 (g a 16), .int .i64 (g a 17), .int .i64 (g a 18), .int .i64 (g a 19), .int .i64 (g a 20), .int .i64 (g a 21), .int .i64 (g a 22), .int .i64 (g a 23), .int .i64 (g a 24), .int .i64 (g a 25), .int .i64 (g a 26), .int .i64 (g a 27), .int .i64 (g a 28), .int .i64 (g a 29), .int .i64 (g a 30), .int .i64 (g a 31), .int .i64 (g b 0), .int .i64 (g b 1), .int .i64 (g b 2), .int .i64 (g b 3), .int .i64 (g b 4), .int .i64 (g b 5), .int .i64 (g b 6), .int .i64 (g b 7), .int .i64 (g b 8), .int .i64 (g b 9), .int .i64 (g b 10), .int .i64 (g b 11), .int .i64 (g b 12), .int .i64 (g b 13), .int .i64 (g b 14), .int .i64 (g b 15), .int .i64 (g b 16), .int .i64 (g b 17), .int .i64 (g b 18), .int .i64 (g b 19), .int .i64 (g b 20), .int .i64 (g b 21), .int .i64 (g b 22), .int .i64 (g b 23), .int .i64 (g b 24), .int .i64 (g b 25), .int .i64 (g b 26), .int .i64 (g b 27), .int .i64 (g b 28), .int .i64 (g b 29), .int .i64 (g b 30), .int .i64 (g b 31)] : Array Value) = ((([a, b] : List (List Int)).map tE).flatten).toArray := rfl
theorem agg96 (a b : List Int) : (#[.int .i64 (g a 0), .int .i64 (g a 1), .int .i64 (g a 2), .int .i64 (g a 3), .int .i64 (g a 4), .int .i64 (g a 5), .int .i64 (g a 6), .int .i64 (g a 7), .int .i64 (g a 8), .int .i64 (g a 9), .int .i64 (g a 10), .int .i64 (g a 11), .int .i64 (g a 12), .int .i64 (g a 13), .int .i64 (g a 14), .int .i64 (g a 15), .int .i64 (g a 16), .int .i64 (g a 17), .int .i64 (g a 18), .int .i64 (g a 19), .int .i64 (g a 20), .int .i64 (g a 21), .int .i64 (g a 22), .int .i64 (g a 23), .int .i64 (g a 24), .int .i64 (g a 25), .int .i64 (g a 26), .int .i64 (g a 27), .int .i64 (g a 28), .int .i64 (g a 29), .int .i64 (g a 30), .int .i64 (g a 31), .int .i64 (g b 0), .int .i64 (g b 1), .int .i64 (g b 2), .int .i64 (g b 3), .int .i64 (g b 4), .int .i64 (g b 5), .int .i64 (g b 6), .int .i64 (g b 7), .int .i64 (g b 8), .int .i64 (g b 9), .int .i64 (g b 10), .int .i64 (g b 11), .int .i64 (g b 12), .int .i64 (g b 13), .int .i64 (g b 14), .int .i64 (g b 15), .int .i64 (g b 16), .int .i64 (g b 17), .int .i64 (g b 18), .int .i64 (g b 19), .int .i64 (g b 20), .int .i64 (g b 21), .int .i64 (g b 22), .int .i64 (g b 23), .int .i64 (g b 24), .int .i64 (g b 25), .int .i64 (g b 26), .int .i64 (g b 27), .int .i64 (g b 28), .int .i64 (g b 29), .int .i64 (g b 30), .int .i64 (g b 31), .int .i64 0, .int .i64 0, .int .i64 0, .int .i64 0, .int .i64 0, .int .i64 0, .int .i64 0, .int .i64 0, .int .i64 0, .int .i64 0, .int .i64 0, .int .i64 0, .int .i64 0, .int .i64 0, .int .i64 0, .int .i64 0, .int .i64 0, .int .i64 0, .int .i64 0, .int .i64 0, .int .i64 0, .int .i64 0, .int .i64 0, .int .i64 0, .int .i64 0, .int .i64 0, .int .i64 0, .int .i64 0, .int .i64 0, .int .i64 0, .int .i64 0, .int .i64 0] : Array Value) = ((([a, b, z32] : List (List Int)).map tE).flatten).toArray := rfl
set_option maxRecDepth 100000 in
set_option maxHeartbeats 4000000 in
theorem TallyParts_true (W : World) (o1 : Option Addr) (n1 c1 : Nat) (h1 : DatC Try.prog W t_S_ghost_Event [.slice o1 n1 c1]) (split : Int) (_ : (Lit.int .i64 split).wf = true) :
    Calls Try.prog i_coadjutorlaw37_TallyParts #[.slice o1 n1 c1, .int .i64 split] W (Ret fun v w' => v = .bool true ∧ Ch Non W w') := by
  obtain ⟨o1', c1', es, hcs1, hlc, hm1, _, hQ, hr⟩ := h1.sliceOf (e := 64) (enc := evE) (Q := fun y => Rd W y.no (y.nums.map iv) (fun _ => True) ∧ y.nums.length ≤ 9223372036854775807) (by kernel_rfl) (fun x hl hd => ev_dat hl hd)
  injection hcs1 with hcs1
  injection hcs1 with q1 q2 q3
  subst q1; subst q2; subst q3
  refine coadjutorlaw37_TallyParts.calls _ _ _ _ ?_
  unfold coadjutorlaw37_TallyParts.vc
  have hro : ∀ {w'}, Ch Non W w' → Rd w' o1 (es.map evE).flatten (fun i => i < W.heap.size) := fun hc => (hr.mono (fun i hi _ => hi)).keepN hc
  have hrn : ∀ {w'}, Ch Non W w' → ∀ e ∈ es, Rd w' e.no (e.nums.map iv) (fun i => i < W.heap.size) := fun hc e he => ((hQ e he).1.mono (fun i hi _ => hi)).keepN hc
  refine step_call (awake_spec W) ?_
  rintro v w1 ⟨rfl, hc1⟩
  refine ⟨_, rfl, iteF rfl ?_⟩
  refine step_call (great_spec (hro hc1) (by unfold maxLen at hm1; omega) (hrn hc1) (fun e he => (hQ e he).2) c1) ?_
  rintro v w2 ⟨rfl, rfl⟩
  refine ⟨_, rfl, fun _ => ⟨rfl, hc1⟩, fun hgr => ?_⟩
  unfold greatB at hgr
  rw [Bool.or_eq_false_iff] at hgr
  have hes : es.length ≤ 60 := by have := of_decide_eq_false hgr.2; omega
  have hwd := List.any_eq_false.1 hgr.1
  refine ⟨fun i k w' => ∃ j : Nat, i = j ∧ j ≤ es.length ∧ k = es.length - j ∧ (∀ (q : Nat) (hq : q < es.length), q < j → ∀ x ∈ es[q].nums, 0 ≤ x) ∧ w' = w2, ⟨_, 0, rfl, Nat.zero_le _, rfl, fun q _ hq => absurd hq (Nat.not_lt_zero _), rfl⟩, ?_⟩
  rintro jk i k w3 ⟨j, rfl, hj, rfl, hpos, rfl⟩
  refine ⟨fun hlt => ?_, fun hge => ?_⟩
  · have hlt : j < es.length := by have := of_decide_eq_true hlt; omega
    obtain ⟨p, hp, _, _, hcell⟩ := (hro hc1).elem (sz := 10) (enc := evE) (fun _ => rfl) (by omega) hlt
    have hnj := hrn hc1 _ (List.getElem_mem hlt)
    have hwj := hwd _ (List.getElem_mem hlt)
    have hnext : (∀ x ∈ es[j].nums, 0 ≤ x) → ∀ (q : Nat) (hq : q < es.length), q < j + 1 → ∀ x ∈ es[q].nums, 0 ≤ x := fun hx q hq hqj => by
      by_cases he : q = j
      · subst he; exact hx
      · exact hpos q hq (by omega)
    have hnl := (hQ _ (List.getElem_mem hlt)).2
    generalize es[j] = e at hcell hnj hwj hnext hnl
    subst hp
    have hjj : (j : Int).toNat = j := Int.toNat_natCast j
    have h8 := hcell 8 _ rfl
    rw [add_add] at h8
    have h8 : w3.cell? (((p.add (j * 10)).add 7).add 1) = some (.slice e.no e.nums.length e.nc) := by rw [add_add, add_add]; exact h8
    rw [hjj]
    refine ⟨fun i k w' => ∃ q : Nat, i = q ∧ q ≤ e.nums.length ∧ k = e.nums.length - q ∧ (∀ x ∈ e.nums.take q, 0 ≤ x) ∧ w' = w3, ⟨_, 0, rfl, Nat.zero_le _, rfl, by simp, rfl⟩, ?_⟩
    rintro jk i k w4 ⟨q, rfl, hq, rfl, hqp, rfl⟩
    refine ⟨⟨by omega, by omega⟩, _, _, _, h8, fun hlt2 => ?_, fun hge2 => ?_⟩
    · have hlt2 : q < e.nums.length := by have := of_decide_eq_true hlt2; omega
      have hqq : (q : Int).toNat * 1 = q := by omega
      rw [hqq]
      refine ⟨⟨by omega, by omega⟩, _, _, _, h8, ⟨by omega, by omega⟩, ?_⟩
      refine hnj.typed hlt2 fun p2 hp2 => ⟨_, hp2, fun _ => ⟨rfl, hc1⟩, fun hneg => ?_⟩
      have hneg := of_decide_eq_false hneg
      refine ⟨e.nums.length - (q + 1), by omega, q + 1, by rw [wrap_id (by omega) (by omega)]; rfl, hlt2, rfl, fun x hx => ?_, rfl⟩
      rw [List.take_succ_eq_append_getElem hlt2, List.mem_append] at hx
      rcases hx with hx | hx
      · exact hqp x hx
      · rw [List.mem_singleton] at hx; subst hx; omega
    · have hqn : q = e.nums.length := by have := of_decide_eq_false hge2; omega
      subst hqn
      rw [List.take_length] at hqp
      exact ⟨es.length - (j + 1), by omega, j + 1, by rw [wrap_id (by omega) (by omega)]; rfl, hlt, rfl, hnext hqp, rfl⟩
  have hjn : j = es.length := by have := of_decide_eq_false hge; omega
  subst hjn
  have hfair : ∀ e ∈ es, fair e := fun e he => by
    obtain ⟨q, hq, rfl⟩ := List.getElem_of_mem he
    exact ⟨by have := hwd _ he; simpa using this, hpos q hq hq⟩
  clear hpos hge hgr hwd hrn
  have hrn : ∀ {w'}, Ch Non W w' → ∀ (l : List EvD), (∀ e ∈ l, e ∈ es) → ∀ e ∈ l, Rd w' e.no (e.nums.map iv) (fun i => i < W.heap.size) := fun hc l hl e he => ((hQ e (hl e he)).1.mono (fun i hi _ => hi)).keepN hc
  obtain ⟨hn0, hk0, hk1⟩ : IntKind.u64.wrap (IntKind.i64.wrap ((es.length : Int) + 1)) ≠ 0 ∧ 0 ≤ IntKind.i64.wrap (Int.tmod (IntKind.u64.wrap split) (IntKind.u64.wrap (IntKind.i64.wrap ((es.length : Int) + 1)))) ∧ IntKind.i64.wrap (Int.tmod (IntKind.u64.wrap split) (IntKind.u64.wrap (IntKind.i64.wrap ((es.length : Int) + 1)))) < (es.length : Int) + 1 := by
    have hn1 : IntKind.i64.wrap ((es.length : Int) + 1) = (es.length : Int) + 1 := wrap_id (by omega) (by omega)
    have h0 : 0 ≤ IntKind.u64.wrap split := by rw [wrap_u64]; omega
    have hn : IntKind.u64.wrap ((es.length : Int) + 1) = (es.length : Int) + 1 := by rw [wrap_u64]; omega
    rw [hn1, hn, tmod_pos h0]
    have h3 : 0 ≤ IntKind.u64.wrap split % ((es.length : Int) + 1) := Int.emod_nonneg _ (by omega)
    have h4 : IntKind.u64.wrap split % ((es.length : Int) + 1) < (es.length : Int) + 1 := Int.emod_lt_of_pos _ (by omega)
    rw [wrap_id (x := IntKind.u64.wrap split % ((es.length : Int) + 1)) (by omega) (by omega)]
    omega
  refine ⟨hn0, ?_⟩
  clear hn0
  generalize IntKind.i64.wrap (Int.tmod (IntKind.u64.wrap split) (IntKind.u64.wrap (IntKind.i64.wrap ((es.length : Int) + 1)))) = ms at hk0 hk1 ⊢
  obtain ⟨m, rfl⟩ : ∃ m : Nat, ms = m := ⟨ms.toNat, by omega⟩
  have hm : m ≤ es.length := by omega
  rw [Int.toNat_natCast]
  have hlow : ∀ {w'}, Ch Non W w' → ∀ i, i < W.heap.size → i < w'.heap.size := fun hc i hi => by have := hc.size; omega
  refine step_call (Of_spec (hro hc1) (by omega) (hrn hc1 es (fun _ h => h)) (hlow hc1) c1) ?_
  rintro v w5 ⟨rfl, hc5⟩
  have hS : es.take m ++ es.drop m = es := List.take_append_drop m es
  have hVt := ofT_len es
  refine ⟨_, _, _, _, _, _, _, _, _, _, _, _, _, _, _, _, _, _, _, _, _, _, _, _, _, _, _, _, _, _, _, _, congrArg Value.agg (agg32 hVt).symm, fun w6 e6 => ?_⟩
  have hZ := newz e6
  refine ⟨⟨okT hZ 0 (by decide), okT hZ 1 (by decide), okT hZ 2 (by decide), okT hZ 3 (by decide), okT hZ 4 (by decide), okT hZ 5 (by decide), okT hZ 6 (by decide), okT hZ 7 (by decide), okT hZ 8 (by decide), okT hZ 9 (by decide), okT hZ 10 (by decide), okT hZ 11 (by decide), okT hZ 12 (by decide), okT hZ 13 (by decide), okT hZ 14 (by decide), okT hZ 15 (by decide), okT hZ 16 (by decide), okT hZ 17 (by decide), okT hZ 18 (by decide), okT hZ 19 (by decide), okT hZ 20 (by decide), okT hZ 21 (by decide), okT hZ 22 (by decide), okT hZ 23 (by decide), okT hZ 24 (by decide), okT hZ 25 (by decide), okT hZ 26 (by decide), okT hZ 27 (by decide), okT hZ 28 (by decide), okT hZ 29 (by decide), okT hZ 30 (by decide), okT hZ 31 (by decide)⟩, fun w7 e7 => ?_⟩
  obtain ⟨hT7, hcx⟩ := sets32 hZ rfl hVt e7
  have s5 : w5.heap.size < w6.heap.size := hZ.lt
  have hcW7 : Ch Non W w7 := (hc1.andN hc5).andN ((Ch.alloc (F := Non) e6).trans hcx (fun i hi he => by omega))
  clear e6 e7 hZ hcx s5
  generalize w5.heap.size = tb at hT7 ⊢
  refine ⟨⟨by omega, by omega⟩, ?_⟩
  have hr1 := Rd.cut (hro hcW7) evE_len hlc 0 m
  rw [List.drop_zero] at hr1
  have hl1 : (es.take m).length = m := by rw [List.length_take]; omega
  have hcall := Of_spec (w := w7) hr1 (by omega) (hrn hcW7 (es.take m) (fun e he => List.mem_of_mem_take he)) (hlow hcW7) (c1 - 0)
  rw [hl1] at hcall
  refine step_call hcall ?_
  clear hcall hr1
  rintro v w8 ⟨rfl, hc8⟩
  have hVa := ofT_len (es.take m)
  refine ⟨_, _, _, _, _, _, _, _, _, _, _, _, _, _, _, _, _, _, _, _, _, _, _, _, _, _, _, _, _, _, _, _, congrArg Value.agg (agg32 hVa).symm, fun w9 e9 => ?_⟩
  have hZ := newz e9
  refine ⟨⟨okT hZ 0 (by decide), okT hZ 1 (by decide), okT hZ 2 (by decide), okT hZ 3 (by decide), okT hZ 4 (by decide), okT hZ 5 (by decide), okT hZ 6 (by decide), okT hZ 7 (by decide), okT hZ 8 (by decide), okT hZ 9 (by decide), okT hZ 10 (by decide), okT hZ 11 (by decide), okT hZ 12 (by decide), okT hZ 13 (by decide), okT hZ 14 (by decide), okT hZ 15 (by decide), okT hZ 16 (by decide), okT hZ 17 (by decide), okT hZ 18 (by decide), okT hZ 19 (by decide), okT hZ 20 (by decide), okT hZ 21 (by decide), okT hZ 22 (by decide), okT hZ 23 (by decide), okT hZ 24 (by decide), okT hZ 25 (by decide), okT hZ 26 (by decide), okT hZ 27 (by decide), okT hZ 28 (by decide), okT hZ 29 (by decide), okT hZ 30 (by decide), okT hZ 31 (by decide)⟩, fun w10 e10 => ?_⟩
  obtain ⟨hA10, hcx⟩ := sets32 hZ rfl hVa e10
  have s8 : w8.heap.size < w9.heap.size := hZ.lt
  have hc710 : Ch Non w7 w10 := hc8.andN ((Ch.alloc (F := Non) e9).trans hcx (fun i hi he => by omega))
  have hT10 := hT7.keepN hc710
  have hcW10 := hcW7.andN hc710
  clear e9 e10 hZ hcx s8 hT7
  generalize w8.heap.size = ab at hA10 ⊢
  refine ⟨⟨by omega, by omega⟩, ?_⟩
  have hr2 := Rd.cut (hro hcW10) evE_len hlc m (es.length - m)
  have hdl : (es.drop m).length = es.length - m := List.length_drop
  rw [List.take_of_length_le (by omega)] at hr2
  have hcall := Of_spec (w := w10) hr2 (by omega) (hrn hcW10 (es.drop m) (fun e he => List.mem_of_mem_drop he)) (hlow hcW10) (c1 - m)
  rw [hdl] at hcall
  refine step_call hcall ?_
  clear hcall hr2
  rintro v w11 ⟨rfl, hc11⟩
  have hVb := ofT_len (es.drop m)
  refine ⟨_, _, _, _, _, _, _, _, _, _, _, _, _, _, _, _, _, _, _, _, _, _, _, _, _, _, _, _, _, _, _, _, congrArg Value.agg (agg32 hVb).symm, fun w12 e12 => ?_⟩
  have hZ := newz e12
  refine ⟨⟨okT hZ 0 (by decide), okT hZ 1 (by decide), okT hZ 2 (by decide), okT hZ 3 (by decide), okT hZ 4 (by decide), okT hZ 5 (by decide), okT hZ 6 (by decide), okT hZ 7 (by decide), okT hZ 8 (by decide), okT hZ 9 (by decide), okT hZ 10 (by decide), okT hZ 11 (by decide), okT hZ 12 (by decide), okT hZ 13 (by decide), okT hZ 14 (by decide), okT hZ 15 (by decide), okT hZ 16 (by decide), okT hZ 17 (by decide), okT hZ 18 (by decide), okT hZ 19 (by decide), okT hZ 20 (by decide), okT hZ 21 (by decide), okT hZ 22 (by decide), okT hZ 23 (by decide), okT hZ 24 (by decide), okT hZ 25 (by decide), okT hZ 26 (by decide), okT hZ 27 (by decide), okT hZ 28 (by decide), okT hZ 29 (by decide), okT hZ 30 (by decide), okT hZ 31 (by decide)⟩, fun w13 e13 => ?_⟩
  obtain ⟨hB13, hcx⟩ := sets32 hZ rfl hVb e13
  have s11 : w11.heap.size < w12.heap.size := hZ.lt
  have hc1013 : Ch Non w10 w13 := hc11.andN ((Ch.alloc (F := Non) e12).trans hcx (fun i hi he => by omega))
  have hT13 := hT10.keepN hc1013
  have hA13 := hA10.keepN hc1013
  have hcW13 := hcW10.andN hc1013
  clear e12 e13 hZ hcx s11 hT10 hA10
  generalize w11.heap.size = bb at hB13 ⊢
  have hJ2 := join_two (es.take m) (es.drop m)
  have hJ3 := join_three (es.take m) (es.drop m)
  have hMi := minus_of (es.take m) (es.drop m)
  have hLe := less_of (xs := es.take m) (ys := es.drop m) (fun e he => hfair e (List.mem_of_mem_drop he)) (by omega)
  have hTo := tot_all es hes
  rw [hS] at hJ2 hJ3 hMi hLe
  have hD : (if lessB (ofT es) (ofT (es.take m)) then minusT (ofT es) (ofT (es.take m)) else z32) = ofT (es.drop m) := by rw [if_pos hLe, hMi]
  clear hMi hS
  generalize ofT es = t at *
  generalize ofT (es.take m) = a at *
  generalize ofT (es.drop m) = b at *
  refine ⟨_, _, _, _, _, _, _, _, _, _, _, _, _, _, _, _, _, _, _, _, _, _, _, _, _, _, _, _, _, _, _, _, ⟨cT hT13 0 (by rw [hVt]; decide), cT hT13 1 (by rw [hVt]; decide), cT hT13 2 (by rw [hVt]; decide), cT hT13 3 (by rw [hVt]; decide), cT hT13 4 (by rw [hVt]; decide), cT hT13 5 (by rw [hVt]; decide), cT hT13 6 (by rw [hVt]; decide), cT hT13 7 (by rw [hVt]; decide), cT hT13 8 (by rw [hVt]; decide), cT hT13 9 (by rw [hVt]; decide), cT hT13 10 (by rw [hVt]; decide), cT hT13 11 (by rw [hVt]; decide), cT hT13 12 (by rw [hVt]; decide), cT hT13 13 (by rw [hVt]; decide), cT hT13 14 (by rw [hVt]; decide), cT hT13 15 (by rw [hVt]; decide), cT hT13 16 (by rw [hVt]; decide), cT hT13 17 (by rw [hVt]; decide), cT hT13 18 (by rw [hVt]; decide), cT hT13 19 (by rw [hVt]; decide), cT hT13 20 (by rw [hVt]; decide), cT hT13 21 (by rw [hVt]; decide), cT hT13 22 (by rw [hVt]; decide), cT hT13 23 (by rw [hVt]; decide), cT hT13 24 (by rw [hVt]; decide), cT hT13 25 (by rw [hVt]; decide), cT hT13 26 (by rw [hVt]; decide), cT hT13 27 (by rw [hVt]; decide), cT hT13 28 (by rw [hVt]; decide), cT hT13 29 (by rw [hVt]; decide), cT hT13 30 (by rw [hVt]; decide), cT hT13 31 (by rw [hVt]; decide)⟩, _, _, _, _, _, _, _, _, _, _, _, _, _, _, _, _, _, _, _, _, _, _, _, _, _, _, _, _, _, _, _, _, ⟨cT hA13 0 (by rw [hVa]; decide), cT hA13 1 (by rw [hVa]; decide), cT hA13 2 (by rw [hVa]; decide), cT hA13 3 (by rw [hVa]; decide), cT hA13 4 (by rw [hVa]; decide), cT hA13 5 (by rw [hVa]; decide), cT hA13 6 (by rw [hVa]; decide), cT hA13 7 (by rw [hVa]; decide), cT hA13 8 (by rw [hVa]; decide), cT hA13 9 (by rw [hVa]; decide), cT hA13 10 (by rw [hVa]; decide), cT hA13 11 (by rw [hVa]; decide), cT hA13 12 (by rw [hVa]; decide), cT hA13 13 (by rw [hVa]; decide), cT hA13 14 (by rw [hVa]; decide), cT hA13 15 (by rw [hVa]; decide), cT hA13 16 (by rw [hVa]; decide), cT hA13 17 (by rw [hVa]; decide), cT hA13 18 (by rw [hVa]; decide), cT hA13 19 (by rw [hVa]; decide), cT hA13 20 (by rw [hVa]; decide), cT hA13 21 (by rw [hVa]; decide), cT hA13 22 (by rw [hVa]; decide), cT hA13 23 (by rw [hVa]; decide), cT hA13 24 (by rw [hVa]; decide), cT hA13 25 (by rw [hVa]; decide), cT hA13 26 (by rw [hVa]; decide), cT hA13 27 (by rw [hVa]; decide), cT hA13 28 (by rw [hVa]; decide), cT hA13 29 (by rw [hVa]; decide), cT hA13 30 (by rw [hVa]; decide), cT hA13 31 (by rw [hVa]; decide)⟩, ?_⟩
  rw [agg32 hVt, agg32 hVa]
  refine step_call (Less_spec w13 hVt hVa) ?_
  rintro v w14 ⟨rfl, hc14⟩
  rw [hD, hLe]
  refine ⟨_, _, _, _, _, _, _, _, _, _, _, _, _, _, _, _, _, _, _, _, _, _, _, _, _, _, _, _, _, _, _, _, _, congrArg (fun x => Value.tuple #[.agg x, .bool true]) (agg32 hVb).symm, fun w15 e15 => ?_⟩
  have hZ := newz e15
  refine ⟨⟨okT hZ 0 (by decide), okT hZ 1 (by decide), okT hZ 2 (by decide), okT hZ 3 (by decide), okT hZ 4 (by decide), okT hZ 5 (by decide), okT hZ 6 (by decide), okT hZ 7 (by decide), okT hZ 8 (by decide), okT hZ 9 (by decide), okT hZ 10 (by decide), okT hZ 11 (by decide), okT hZ 12 (by decide), okT hZ 13 (by decide), okT hZ 14 (by decide), okT hZ 15 (by decide), okT hZ 16 (by decide), okT hZ 17 (by decide), okT hZ 18 (by decide), okT hZ 19 (by decide), okT hZ 20 (by decide), okT hZ 21 (by decide), okT hZ 22 (by decide), okT hZ 23 (by decide), okT hZ 24 (by decide), okT hZ 25 (by decide), okT hZ 26 (by decide), okT hZ 27 (by decide), okT hZ 28 (by decide), okT hZ 29 (by decide), okT hZ 30 (by decide), okT hZ 31 (by decide)⟩, fun w16 e16 => ?_⟩
  obtain ⟨hD16, hcx⟩ := sets32 hZ rfl hVb e16
  have s14 : w14.heap.size < w15.heap.size := hZ.lt
  have hc1316 : Ch Non w13 w16 := hc14.andN ((Ch.alloc (F := Non) e15).trans hcx (fun i hi he => by omega))
  have hT16 := hT13.keepN hc1316
  have hA16 := hA13.keepN hc1316
  have hB16 := hB13.keepN hc1316
  have hcW16 := hcW13.andN hc1316
  clear e15 e16 hZ hcx s14 hT13 hA13 hB13
  generalize w14.heap.size = db at hD16 ⊢
  have cA : ∀ i, i < 32 → ∀ w', Ch Non w16 w' → w'.cell? ⟨ab, i, none⟩ = some (.int .i64 (g a i)) := fun i hi w' hc => cT (hA16.keepN hc) i (by omega)
  have cB : ∀ i, i < 32 → ∀ w', Ch Non w16 w' → w'.cell? ⟨bb, i, none⟩ = some (.int .i64 (g b i)) := fun i hi w' hc => cT (hB16.keepN hc) i (by omega)
  have cAll : ∀ i, i < 32 → ∀ w', Ch Non w16 w' → w'.cell? ⟨tb, i, none⟩ = some (.int .i64 (g t i)) := fun i hi w' hc => cT (hT16.keepN hc) i (by omega)
  have cD : ∀ i, i < 32 → ∀ w', Ch Non w16 w' → w'.cell? ⟨db, i, none⟩ = some (.int .i64 (g b i)) := fun i hi w' hc => cT (hD16.keepN hc) i (by omega)
  refine ⟨fun w' => Ch Non w16 w', fun w17 e17 => ⟨Ch.drew e17, _, _, _, _, _, _, _, _, _, _, _, _, _, _, _, _, _, _, _, _, _, _, _, _, _, _, _, _, _, _, _, _, ⟨cA 0 (by decide), cA 1 (by decide), cA 2 (by decide), cA 3 (by decide), cA 4 (by decide), cA 5 (by decide), cA 6 (by decide), cA 7 (by decide), cA 8 (by decide), cA 9 (by decide), cA 10 (by decide), cA 11 (by decide), cA 12 (by decide), cA 13 (by decide), cA 14 (by decide), cA 15 (by decide), cA 16 (by decide), cA 17 (by decide), cA 18 (by decide), cA 19 (by decide), cA 20 (by decide), cA 21 (by decide), cA 22 (by decide), cA 23 (by decide), cA 24 (by decide), cA 25 (by decide), cA 26 (by decide), cA 27 (by decide), cA 28 (by decide), cA 29 (by decide), cA 30 (by decide), cA 31 (by decide)⟩, _, _, _, _, _, _, _, _, _, _, _, _, _, _, _, _, _, _, _, _, _, _, _, _, _, _, _, _, _, _, _, _, ⟨cB 0 (by decide), cB 1 (by decide), cB 2 (by decide), cB 3 (by decide), cB 4 (by decide), cB 5 (by decide), cB 6 (by decide), cB 7 (by decide), cB 8 (by decide), cB 9 (by decide), cB 10 (by decide), cB 11 (by decide), cB 12 (by decide), cB 13 (by decide), cB 14 (by decide), cB 15 (by decide), cB 16 (by decide), cB 17 (by decide), cB 18 (by decide), cB 19 (by decide), cB 20 (by decide), cB 21 (by decide), cB 22 (by decide), cB 23 (by decide), cB 24 (by decide), cB 25 (by decide), cB 26 (by decide), cB 27 (by decide), cB 28 (by decide), cB 29 (by decide), cB 30 (by decide), cB 31 (by decide)⟩, _, _, _, _, _, _, _, _, _, _, _, _, _, _, _, _, _, _, _, _, _, _, _, _, _, _, _, _, _, _, _, _, ⟨cAll 0 (by decide), cAll 1 (by decide), cAll 2 (by decide), cAll 3 (by decide), cAll 4 (by decide), cAll 5 (by decide), cAll 6 (by decide), cAll 7 (by decide), cAll 8 (by decide), cAll 9 (by decide), cAll 10 (by decide), cAll 11 (by decide), cAll 12 (by decide), cAll 13 (by decide), cAll 14 (by decide), cAll 15 (by decide), cAll 16 (by decide), cAll 17 (by decide), cAll 18 (by decide), cAll 19 (by decide), cAll 20 (by decide), cAll 21 (by decide), cAll 22 (by decide), cAll 23 (by decide), cAll 24 (by decide), cAll 25 (by decide), cAll 26 (by decide), cAll 27 (by decide), cAll 28 (by decide), cAll 29 (by decide), cAll 30 (by decide), cAll 31 (by decide)⟩, fun w21 e21 => ?_⟩⟩
  rw [agg64] at e21
  have hL21 := Blk.new e21
  have hc21 : Ch Non w16 w21 := (Ch.drew e17).andN (Ch.alloc e21)
  refine ⟨hc21, ?_⟩
  refine step_call (Join_spec (l := [a, b]) hL21.rd (fun x hx => by simp at hx; rcases hx with rfl | rfl <;> assumption) (by simp) 2) ?_
  rintro v w22 ⟨rfl, hc22⟩
  have hc1622 := hc21.andN hc22
  rw [hJ2]
  refine ⟨_, _, _, _, _, _, _, _, _, _, _, _, _, _, _, _, _, _, _, _, _, _, _, _, _, _, _, _, _, _, _, _, congrArg Value.agg (agg32 hVt).symm, hc1622, iteT (by simp) ?_⟩
  refine ⟨_, _, _, _, _, _, _, _, _, _, _, _, _, _, _, _, _, _, _, _, _, _, _, _, _, _, _, _, _, _, _, _, ⟨cB 0 (by decide), cB 1 (by decide), cB 2 (by decide), cB 3 (by decide), cB 4 (by decide), cB 5 (by decide), cB 6 (by decide), cB 7 (by decide), cB 8 (by decide), cB 9 (by decide), cB 10 (by decide), cB 11 (by decide), cB 12 (by decide), cB 13 (by decide), cB 14 (by decide), cB 15 (by decide), cB 16 (by decide), cB 17 (by decide), cB 18 (by decide), cB 19 (by decide), cB 20 (by decide), cB 21 (by decide), cB 22 (by decide), cB 23 (by decide), cB 24 (by decide), cB 25 (by decide), cB 26 (by decide), cB 27 (by decide), cB 28 (by decide), cB 29 (by decide), cB 30 (by decide), cB 31 (by decide)⟩, _, _, _, _, _, _, _, _, _, _, _, _, _, _, _, _, _, _, _, _, _, _, _, _, _, _, _, _, _, _, _, _, ⟨cA 0 (by decide), cA 1 (by decide), cA 2 (by decide), cA 3 (by decide), cA 4 (by decide), cA 5 (by decide), cA 6 (by decide), cA 7 (by decide), cA 8 (by decide), cA 9 (by decide), cA 10 (by decide), cA 11 (by decide), cA 12 (by decide), cA 13 (by decide), cA 14 (by decide), cA 15 (by decide), cA 16 (by decide), cA 17 (by decide), cA 18 (by decide), cA 19 (by decide), cA 20 (by decide), cA 21 (by decide), cA 22 (by decide), cA 23 (by decide), cA 24 (by decide), cA 25 (by decide), cA 26 (by decide), cA 27 (by decide), cA 28 (by decide), cA 29 (by decide), cA 30 (by decide), cA 31 (by decide)⟩, _, _, _, _, _, _, _, _, _, _, _, _, _, _, _, _, _, _, _, _, _, _, _, _, _, _, _, _, _, _, _, _, ⟨cAll 0 (by decide), cAll 1 (by decide), cAll 2 (by decide), cAll 3 (by decide), cAll 4 (by decide), cAll 5 (by decide), cAll 6 (by decide), cAll 7 (by decide), cAll 8 (by decide), cAll 9 (by decide), cAll 10 (by decide), cAll 11 (by decide), cAll 12 (by decide), cAll 13 (by decide), cAll 14 (by decide), cAll 15 (by decide), cAll 16 (by decide), cAll 17 (by decide), cAll 18 (by decide), cAll 19 (by decide), cAll 20 (by decide), cAll 21 (by decide), cAll 22 (by decide), cAll 23 (by decide), cAll 24 (by decide), cAll 25 (by decide), cAll 26 (by decide), cAll 27 (by decide), cAll 28 (by decide), cAll 29 (by decide), cAll 30 (by decide), cAll 31 (by decide)⟩, fun w26 e26 => ?_⟩
  rw [agg96] at e26
  have hL26 := Blk.new e26
  have hc26 : Ch Non w16 w26 := hc1622.andN (Ch.alloc e26)
  refine ⟨hc26, ?_⟩
  have hall3 : ∀ x ∈ [b, a, z32], x.length = 32 := fun x hx => by
    simp only [List.mem_cons, List.not_mem_nil, or_false] at hx
    rcases hx with rfl | rfl | rfl
    · exact hVb
    · exact hVa
    · rfl
  refine step_call (Join_spec (l := [b, a, z32]) hL26.rd hall3 (by simp) 3) ?_
  rintro v w27 ⟨rfl, hc27⟩
  have hc1627 := hc26.andN hc27
  rw [hJ3]
  refine ⟨_, _, _, _, _, _, _, _, _, _, _, _, _, _, _, _, _, _, _, _, _, _, _, _, _, _, _, _, _, _, _, _, congrArg Value.agg (agg32 hVt).symm, hc1627, iteT (by simp) (iteT rfl ?_)⟩
  refine ⟨_, _, _, _, _, _, _, _, _, _, _, _, _, _, _, _, _, _, _, _, _, _, _, _, _, _, _, _, _, _, _, _, ⟨cD 0 (by decide), cD 1 (by decide), cD 2 (by decide), cD 3 (by decide), cD 4 (by decide), cD 5 (by decide), cD 6 (by decide), cD 7 (by decide), cD 8 (by decide), cD 9 (by decide), cD 10 (by decide), cD 11 (by decide), cD 12 (by decide), cD 13 (by decide), cD 14 (by decide), cD 15 (by decide), cD 16 (by decide), cD 17 (by decide), cD 18 (by decide), cD 19 (by decide), cD 20 (by decide), cD 21 (by decide), cD 22 (by decide), cD 23 (by decide), cD 24 (by decide), cD 25 (by decide), cD 26 (by decide), cD 27 (by decide), cD 28 (by decide), cD 29 (by decide), cD 30 (by decide), cD 31 (by decide)⟩, _, _, _, _, _, _, _, _, _, _, _, _, _, _, _, _, _, _, _, _, _, _, _, _, _, _, _, _, _, _, _, _, ⟨cB 0 (by decide) w27 hc1627, cB 1 (by decide) w27 hc1627, cB 2 (by decide) w27 hc1627, cB 3 (by decide) w27 hc1627, cB 4 (by decide) w27 hc1627, cB 5 (by decide) w27 hc1627, cB 6 (by decide) w27 hc1627, cB 7 (by decide) w27 hc1627, cB 8 (by decide) w27 hc1627, cB 9 (by decide) w27 hc1627, cB 10 (by decide) w27 hc1627, cB 11 (by decide) w27 hc1627, cB 12 (by decide) w27 hc1627, cB 13 (by decide) w27 hc1627, cB 14 (by decide) w27 hc1627, cB 15 (by decide) w27 hc1627, cB 16 (by decide) w27 hc1627, cB 17 (by decide) w27 hc1627, cB 18 (by decide) w27 hc1627, cB 19 (by decide) w27 hc1627, cB 20 (by decide) w27 hc1627, cB 21 (by decide) w27 hc1627, cB 22 (by decide) w27 hc1627, cB 23 (by decide) w27 hc1627, cB 24 (by decide) w27 hc1627, cB 25 (by decide) w27 hc1627, cB 26 (by decide) w27 hc1627, cB 27 (by decide) w27 hc1627, cB 28 (by decide) w27 hc1627, cB 29 (by decide) w27 hc1627, cB 30 (by decide) w27 hc1627, cB 31 (by decide) w27 hc1627⟩, hc1627, iteT (by simp) ?_⟩
  refine ⟨_, _, _, _, _, _, _, _, _, _, _, _, _, _, _, _, _, _, _, _, _, _, _, _, _, _, _, _, _, _, _, _, ⟨cAll 0 (by decide), cAll 1 (by decide), cAll 2 (by decide), cAll 3 (by decide), cAll 4 (by decide), cAll 5 (by decide), cAll 6 (by decide), cAll 7 (by decide), cAll 8 (by decide), cAll 9 (by decide), cAll 10 (by decide), cAll 11 (by decide), cAll 12 (by decide), cAll 13 (by decide), cAll 14 (by decide), cAll 15 (by decide), cAll 16 (by decide), cAll 17 (by decide), cAll 18 (by decide), cAll 19 (by decide), cAll 20 (by decide), cAll 21 (by decide), cAll 22 (by decide), cAll 23 (by decide), cAll 24 (by decide), cAll 25 (by decide), cAll 26 (by decide), cAll 27 (by decide), cAll 28 (by decide), cAll 29 (by decide), cAll 30 (by decide), cAll 31 (by decide)⟩, ?_⟩
  rw [agg32 hVt]
  refine step_call (Total_spec w27 hVt) ?_
  rintro v w30 ⟨rfl, hc30⟩
  refine ⟨_, _, rfl, hc1627.andN hc30, iteT (by rw [hTo.1]; simp) ?_⟩
  refine ⟨_, _, _, _, _, _, _, _, _, _, _, _, _, _, _, _, _, _, _, _, _, _, _, _, _, _, _, _, _, _, _, _, ⟨cAll 0 (by decide), cAll 1 (by decide), cAll 2 (by decide), cAll 3 (by decide), cAll 4 (by decide), cAll 5 (by decide), cAll 6 (by decide), cAll 7 (by decide), cAll 8 (by decide), cAll 9 (by decide), cAll 10 (by decide), cAll 11 (by decide), cAll 12 (by decide), cAll 13 (by decide), cAll 14 (by decide), cAll 15 (by decide), cAll 16 (by decide), cAll 17 (by decide), cAll 18 (by decide), cAll 19 (by decide), cAll 20 (by decide), cAll 21 (by decide), cAll 22 (by decide), cAll 23 (by decide), cAll 24 (by decide), cAll 25 (by decide), cAll 26 (by decide), cAll 27 (by decide), cAll 28 (by decide), cAll 29 (by decide), cAll 30 (by decide), cAll 31 (by decide)⟩, ?_⟩
  rw [agg32 hVt]
  refine step_call (Total_spec w30 hVt) ?_
  rintro v w32 ⟨rfl, hc32⟩
  refine ⟨_, _, rfl, (hc1627.andN hc30).andN hc32, ?_, hcW16.andN ((hc1627.andN hc30).andN hc32)⟩
  rw [decide_eq_true hTo.2]
end Go.Proofs.Ytddgcdlljkooiaa.Tally
