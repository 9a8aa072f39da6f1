/- For every world of the model: what rows of rows have in their cells, what a row of rows that is built has, what a map of numbers has; the conditions stand in each theorem. -/
import Derived.Test.YtbadkcnemcnhfaaDoorH
import Derived.Test.YtbadkcnemcnhfaaDoorDat
import Derived.Test.YtbadkcnemcnhfaaDoorGrow
import Derived.Maps.Own
import Derived.Maps.Views
import Derived.Maps.Keyed
set_option linter.unusedVariables false
set_option linter.unusedSimpArgs false
namespace Go.Proofs.YtbadkcnemcnhfaaDoor.V
open Go Go.Proofs Go.RowKit

/-- Two lists, element by element. -/
inductive All2 {α β : Type} (R : α → β → Prop) : List α → List β → Prop
  | nil : All2 R [] []
  | cons {x y xs ys} : R x y → All2 R xs ys → All2 R (x :: xs) (y :: ys)
section
variable {α β γ : Type} {R S : α → β → Prop}
theorem All2.length : ∀ {xs : List α} {ys : List β}, All2 R xs ys → xs.length = ys.length
  | _, _, .nil => rfl
  | _, _, .cons _ h => by simp [All2.length h]
theorem All2.imp (h : ∀ x y, R x y → S x y) : ∀ {xs : List α} {ys : List β}, All2 R xs ys → All2 S xs ys
  | _, _, .nil => .nil
  | _, _, .cons a b => .cons (h _ _ a) (All2.imp h b)
theorem All2.get : ∀ {xs : List α} {ys : List β}, All2 R xs ys → ∀ (i : Nat) (h1 : i < xs.length) (h2 : i < ys.length), R xs[i] ys[i]
  | _, _, .cons a b, 0, _, _ => a
  | _, _, .cons a b, i + 1, h1, h2 => All2.get b i (by simpa using h1) (by simpa using h2)
theorem All2.append : ∀ {xs xs' : List α} {ys ys' : List β}, All2 R xs ys → All2 R xs' ys' → All2 R (xs ++ xs') (ys ++ ys')
  | _, _, _, _, .nil, k => k
  | _, _, _, _, .cons a b, k => .cons a (All2.append b k)
theorem All2.snoc {xs : List α} {ys : List β} {x : α} {y : β} (h : All2 R xs ys) (k : R x y) : All2 R (xs ++ [x]) (ys ++ [y]) := h.append (.cons k .nil)
theorem All2.set : ∀ {xs : List α} {ys : List β}, All2 R xs ys → ∀ (i : Nat) {x : α} {y : β}, R x y → All2 R (xs.set i x) (ys.set i y)
  | _, _, .nil, _, _, _, _ => .nil
  | _, _, .cons a b, 0, _, _, k => .cons k b
  | _, _, .cons a b, i + 1, _, _, k => .cons a (All2.set b i k)
theorem All2.of {xs : List α} {ys : List β} (hl : xs.length = ys.length) (h : ∀ (i : Nat) (h1 : i < xs.length) (h2 : i < ys.length), R xs[i] ys[i]) : All2 R xs ys := by
  induction xs generalizing ys with
  | nil => cases ys with
    | nil => exact .nil
    | cons y r => simp at hl
  | cons x xs ih => cases ys with
    | nil => simp at hl
    | cons y ys => exact .cons (h 0 (by simp) (by simp)) (ih (by simpa using hl) (fun i h1 h2 => h (i + 1) (by simpa using h1) (by simpa using h2)))
end
/-- A row of numbers, as a value. -/
def IntsV (w : World) (v : Value) (xs : List Int) (F : Nat → Prop) : Prop := ∃ (o : Option Addr) (c : Nat), v = .slice o xs.length c ∧ Rd w o (xs.map (.int .i64)) F
/-- A row of rows of numbers. -/
def RowsV (w : World) (v : Value) (xss : List (List Int)) (F : Nat → Prop) : Prop :=
  ∃ (o : Option Addr) (c : Nat) (vs : List Value), v = .slice o xss.length c ∧ Rd w o vs F ∧ All2 (fun u xs => IntsV w u xs F) vs xss
/-- An entry: two of them. -/
abbrev Ent := List (List Int) × List (List Int)
def EntV (w : World) (p : Value × Value) (e : Ent) (F : Nat → Prop) : Prop := RowsV w p.1 e.1 F ∧ RowsV w p.2 e.2 F
def pairE (p : Value × Value) : List Value := [p.1, p.2]
section
variable {w w' : World} {v : Value} {p : Value × Value} {e : Ent} {xs : List Int} {xss : List (List Int)} {F G : Nat → Prop}
theorem IntsV.keep (h : IntsV w v xs F) (hc : Ch G w w') (hd : ∀ i, i < w.heap.size → F i → ¬ G i) : IntsV w' v xs F := by
  obtain ⟨o, c, e, hr⟩ := h
  exact ⟨o, c, e, hr.keep hc hd⟩
theorem IntsV.mono (h : IntsV w v xs F) (hg : ∀ i, i < w.heap.size → F i → G i) : IntsV w v xs G := by
  obtain ⟨o, c, e, hr⟩ := h
  exact ⟨o, c, e, hr.mono hg⟩
theorem RowsV.keep (h : RowsV w v xss F) (hc : Ch G w w') (hd : ∀ i, i < w.heap.size → F i → ¬ G i) : RowsV w' v xss F := by
  obtain ⟨o, c, vs, e, hr, ha⟩ := h
  exact ⟨o, c, vs, e, hr.keep hc hd, ha.imp (fun _ _ k => k.keep hc hd)⟩
theorem RowsV.mono (h : RowsV w v xss F) (hg : ∀ i, i < w.heap.size → F i → G i) : RowsV w v xss G := by
  obtain ⟨o, c, vs, e, hr, ha⟩ := h
  exact ⟨o, c, vs, e, hr.mono hg, ha.imp (fun _ _ k => k.mono hg)⟩
theorem EntV.keep (h : EntV w p e F) (hc : Ch G w w') (hd : ∀ i, i < w.heap.size → F i → ¬ G i) : EntV w' p e F := ⟨h.1.keep hc hd, h.2.keep hc hd⟩
theorem EntV.mono (h : EntV w p e F) (hg : ∀ i, i < w.heap.size → F i → G i) : EntV w p e G := ⟨h.1.mono hg, h.2.mono hg⟩
theorem IntsV.keepN (h : IntsV w v xs F) (hc : Ch Non w w') : IntsV w' v xs F := h.keep hc (fun _ _ _ => id)
theorem RowsV.keepN (h : RowsV w v xss F) (hc : Ch Non w w') : RowsV w' v xss F := h.keep hc (fun _ _ _ => id)
theorem EntV.keepN (h : EntV w p e F) (hc : Ch Non w w') : EntV w' p e F := h.keep hc (fun _ _ _ => id)
theorem IntsV.nil (w : World) (F : Nat → Prop) : IntsV w (.slice none 0 0) [] F := ⟨none, 0, rfl, Rd.nil _ _ _⟩
theorem RowsV.nil (w : World) (F : Nat → Prop) : RowsV w (.slice none 0 0) [] F := ⟨none, 0, [], rfl, Rd.nil _ _ _, .nil⟩
theorem pairs_at (ps : List (Value × Value)) {j : Nat} (h : j < ps.length) : (ps.map pairE).flatten[j * 2]? = some ps[j].1 ∧ (ps.map pairE).flatten[j * 2 + 1]? = some ps[j].2 :=
  ⟨flatten_at (sz := 2) (q := 0) ps (fun _ => rfl) h (by omega), flatten_at (sz := 2) (q := 1) ps (fun _ => rfl) h (by omega)⟩
end
/-- What is built step by step since W: a row of one's own in F1, and what its elements point to in F2. -/
structure Build (W w : World) (T sz : Nat) (o : Option Addr) (n c : Nat) (cs : List Value) (F1 F2 : Nat → Prop) : Prop where
  own : Own w T sz o n c cs F1
  f1 : Foot W w F1
  f2 : Foot W w F2
  ap : Apart F1 F2
  ch : Ch Non W w
section
variable {P : Program} {W w w1 w' : World} {T sz n c t bytes : Nat} {o : Option Addr} {cs : List Value} {F1 F2 G : Nat → Prop}
theorem Build.nil (h : Ch Non W w) : Build W w T sz none 0 0 [] Non Non := ⟨Own.nil _ _ _ _, fun _ h => h.elim, fun _ h => h.elim, fun _ h => h.elim, h⟩
theorem Build.made0 (h : Ch Non W w) (e1 : w1 = w.alloc (.cells #[] T (0, 0))) : Build W w1 T sz (some ⟨w.heap.size, 0, none⟩) 0 0 [] (· = w.heap.size) Non :=
  ⟨Own.made e1 (by simp) (Nat.zero_le _) rfl, fun i hi => by subst hi; exact ⟨h.size, (Blk.new e1).lt⟩, fun _ h => h.elim, fun _ _ h => h, h.andN (Ch.alloc e1)⟩
theorem Build.keepN (h : Build W w T sz o n c cs F1 F2) (hc : Ch Non w w') : Build W w' T sz o n c cs F1 F2 :=
  ⟨h.own.keepN hc, h.f1.le hc.size, h.f2.le hc.size, h.ap, h.ch.andN hc⟩
/-- What else is laid meanwhile. -/
theorem Build.more (h : Build W w T sz o n c cs F1 F2) (hc : Ch Non w w') : Build W w' T sz o n c cs F1 (Ext F2 w w') :=
  ⟨h.own.keepN hc, h.f1.le hc.size, h.f2.ext h.ch hc.size, fun i h1 h2 => by
    rcases h2 with h2 | h2
    · exact h.ap i h1 h2
    · exact absurd (h.f1 i h1).2 (Nat.not_lt.2 h2.1), h.ch.andN hc⟩
theorem Build.push (el : Elem P t T sz bytes) (h : Build W w T sz o n c cs F1 F2) (ty : TypeId) {news : Array Value} (e1 : w1 = w.alloc (.cells news T (0, 0))) (hl : news.size = sz) (h1 : news.toList.all (·.oneCell') = true) (hn : n < 1000000) (hb : bytes ≤ 1000) :
    ∃ (o' : Option Addr) (c' : Nat) (w' : World) (F1' : Nat → Prop), (Builtin.append_ #[t, t] ty #[.slice o n c, .slice (some ⟨w.heap.size, 0, none⟩) 1 1]).run P w1 = .ok (.slice o' (n + 1) c') w' ∧ Build W w' T sz o' (n + 1) c' (cs ++ news.toList) F1' F2 ∧ Ch F1 w w' := by
  obtain ⟨o', c', w', hr, ho, hc⟩ := Own.push el h.own ty e1 hl h1 (by unfold maxLen; omega) (Nat.le_trans (Nat.mul_le_mul (show n + 1 ≤ 1000000 by omega) hb) (by omega))
  exact ⟨o', c', w', _, hr, ⟨ho, h.f1.ext h.ch hc.size, h.f2.le hc.size, h.ap.extL h.f2, h.f1.hi h.ch hc⟩, hc⟩
end
/-- A map from numbers to numbers. -/
def MapI (P : Program) (w : World) (mb kt et : Nat) (f : Int → Int) (n : Nat) : Prop :=
  ∃ D : DataW Unit, w.ownsMap P kt (plainElem P et) mb n D ∧ Maps.IsMap D ∧ ∀ k, (Lit.int .i64 k).wf = true → D.atKey (.int .i64 k) (.lit (.int .i64 0)) = .lit (.int .i64 (f k))
def upd (f : Int → Int) (k v : Int) : Int → Int := fun x => if x = k then v else f x
section
variable {P : Program} {w w' : World} {mb t kt et n : Nat} {f : Int → Int} {G : Nat → Prop}
theorem MapI.made (e : w' = w.alloc (.map #[] 0)) : MapI P w' w.heap.size kt et (fun _ => 0) 0 := by
  subst e
  exact ⟨.map [], World.ownsMap_made _ _ _ _, Maps.isMap_empty, fun k _ => WideAt.atKey_none _ (by simp)⟩
theorem MapI.lt (h : MapI P w mb kt et f n) : mb < w.heap.size := by obtain ⟨D, h, _⟩ := h; exact h.lt
theorem MapI.keep (h : MapI P w mb kt et f n) (hc : Ch G w w') (hd : ¬ G mb) : MapI P w' mb kt et f n := by
  have hlt := h.lt
  obtain ⟨D, ⟨es, clock, hb, F, hs, hD⟩, h2, h3⟩ := h
  exact ⟨D, ⟨es, clock, (hc.block mb hlt hd).trans hb, F, hs, hD⟩, h2, h3⟩
theorem MapI.lookup (h : MapI P w mb kt et f n) (ht : P.underlying t = some (.map kt et)) (hk : P.underlying kt = some (.int .i64)) (he : P.underlying et = some (.int .i64)) (hz : ∀ w, (zeroValue et).run P w = .ok (.int .i64 0) w) {k : Int} (hw : (Lit.int .i64 k).wf = true) :
    (Instr.lookup t (.map (some mb)) (.int .i64 k) false).run P w = .ok (.int .i64 (f k)) w := by
  obtain ⟨D, h1, h2, h3⟩ := h
  obtain ⟨c, hr, hat, _⟩ := h1.lookup_int (Maps.int_keyed hk) ht he (hz w) (Maps.keyOf_int_mk hk hw)
  rw [h3 k hw] at hat
  injection hat with hat
  injection hat with _ hat
  rw [hat]; exact hr
theorem MapI.update (h : MapI P w mb kt et f n) (ht : P.underlying t = some (.map kt et)) (hk : P.underlying kt = some (.int .i64)) (he : P.underlying et = some (.int .i64)) (hn : n < maxLen) {k x : Int} (hw : (Lit.int .i64 k).wf = true) (hx : (Lit.int .i64 x).wf = true) :
    ∃ w', (Instr.mapUpdate t (.map (some mb)) (.int .i64 k) (.int .i64 x)).run P w = .ok () w' ∧ MapI P w' mb kt et (upd f k x) (n + 1) ∧ Ch (· = mb) w w' := by
  obtain ⟨D, h1, h2, h3⟩ := h
  obtain ⟨w', hr, ho, hg⟩ := h1.update (Maps.int_keyed hk) ht hn (Maps.keyOf_int_mk hk hw) (plainElem_int he hx)
  refine ⟨w', hr, ⟨_, ho, h2.put _ _, fun j hj => ?_⟩, Ch.grown hg (fun i hi => by injection hi with hi; exact hi.symm)⟩
  unfold upd
  by_cases e : j = k
  · subst e
    rw [if_pos rfl]
    exact Maps.atKey_put_same h2 (by trivial) _ _
  · rw [if_neg e, Maps.atKey_put_other (fun h => e (by injection h)), h3 j hj]
end
theorem wf_i64 {x : Int} (h1 : -9223372036854775808 ≤ x) (h2 : x ≤ 9223372036854775807) : (Lit.int .i64 x).wf = true := by
  simp only [Lit.wf, Bool.and_eq_true, decide_eq_true_eq]
  exact ⟨h1, h2⟩
/-- An element of such a row is changed. -/
theorem flatten_set {α : Type} {enc : α → List Value} {sz q : Nat} {v : Value} {y : α} (ys : List α) (hsz : ∀ y, (enc y).length = sz) {j : Nat} (hj : j < ys.length) (hy : enc y = (enc ys[j]).set q v) (hq : q < sz) :
    (ys.map enc).flatten.set (j * sz + q) v = ((ys.set j y).map enc).flatten := by
  induction ys generalizing j with
  | nil => simp at hj
  | cons x r ih =>
    cases j with
    | zero =>
      rw [Nat.zero_mul, Nat.zero_add, List.map_cons, List.flatten_cons, List.set_append_left _ _ (by rw [hsz]; exact hq)]
      have hy : enc y = (enc x).set q v := hy
      rw [List.set_cons_zero, List.map_cons, List.flatten_cons, hy]
    | succ j =>
      rw [List.map_cons, List.flatten_cons, List.set_append_right _ _ (by rw [hsz, Nat.succ_mul]; omega), hsz, show (j + 1) * sz + q - sz = j * sz + q by rw [Nat.succ_mul]; omega]
      rw [ih (j := j) (by simpa using hj) hy, List.set_cons_succ, List.map_cons, List.flatten_cons]
/-- Regions apart. -/
def Fam (w : World) (R : Nat → Nat → Prop) : Prop := (∀ k i, R k i → i < w.heap.size) ∧ ∀ j k, j ≠ k → Apart (R j) (R k)
def updF (R : Nat → Nat → Prop) (k : Nat) (w w' : World) : Nat → Nat → Prop := fun j => if j = k then Ext (R k) w w' else R j
section
variable {w w' : World} {R : Nat → Nat → Prop}
theorem Fam.le (h : Fam w R) (hs : w.heap.size ≤ w'.heap.size) : Fam w' R := ⟨fun k i hi => Nat.lt_of_lt_of_le (h.1 k i hi) hs, h.2⟩
theorem Fam.upd (h : Fam w R) (hs : w.heap.size ≤ w'.heap.size) (k : Nat) : Fam w' (updF R k w w') := by
  have hx : ∀ i, Ext (R k) w w' i → i < w'.heap.size := fun i hi => by
    rcases hi with hi | hi
    · exact Nat.lt_of_lt_of_le (h.1 k i hi) hs
    · exact hi.2
  refine ⟨fun j i hi => ?_, fun a b hab i h1 h2 => ?_⟩
  · unfold updF at hi
    split at hi
    · exact hx i hi
    · exact Nat.lt_of_lt_of_le (h.1 j i hi) hs
  · unfold updF at h1 h2
    split at h1
    · rename_i ha
      rw [if_neg (by omega)] at h2
      rcases h1 with h1 | h1
      · exact h.2 k b (by omega) i h1 h2
      · exact absurd (h.1 b i h2) (Nat.not_lt.2 h1.1)
    · split at h2
      · rename_i hb
        rcases h2 with h2 | h2
        · exact h.2 a k (by omega) i h1 h2
        · exact absurd (h.1 a i h1) (Nat.not_lt.2 h2.1)
      · exact h.2 a b hab i h1 h2
theorem updF_same (k : Nat) : updF R k w w' k = Ext (R k) w w' := by unfold updF; rw [if_pos rfl]
theorem updF_other {j k : Nat} (h : j ≠ k) : updF R k w w' j = R j := by unfold updF; rw [if_neg h]
end
end Go.Proofs.YtbadkcnemcnhfaaDoor.V
