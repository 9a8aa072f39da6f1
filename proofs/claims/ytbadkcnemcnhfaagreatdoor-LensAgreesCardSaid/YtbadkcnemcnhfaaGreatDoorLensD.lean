/- For every two models: the places, and what changes at them; the conditions stand in each theorem. -/
import Derived.Test.YtbadkcnemcnhfaaGreatDoorLensC
set_option linter.unusedVariables false
set_option linter.unusedSimpArgs false
namespace Go.Proofs.YtbadkcnemcnhfaaGreatDoor.Lens
open Go Go.Proofs Go.Proofs.YtbadkcnemcnhfaaGreatDoor.V Go.Proofs.YtbadkcnemcnhfaaGreatDoor.Vc Go.Proofs.YtbadkcnemcnhfaaGreatDoor.Conf Go.Proofs.YtbadkcnemcnhfaaGreatDoor.Brain Go.Proofs.YtbadkcnemcnhfaaGreatDoor.Num Go.RowKit

def blockPl (b : Nat) : List (Nat × Nat) := (List.range 9).map fun i => (i + 2, b)
def placesTo : Nat → List (Nat × Nat)
  | 0 => [(0, 0), (1, 0)]
  | b + 1 => placesTo b ++ blockPl b
def placesL (n : Nat) : List (Nat × Nat) := placesTo n ++ [(11, 0)]
def plE (x : Nat × Nat) : List Value := [.int .i64 x.1, .int .i64 x.2]
theorem blockPl_len (b : Nat) : (blockPl b).length = 9 := by unfold blockPl; rw [List.length_map, List.length_range]
theorem placesTo_len : ∀ b, (placesTo b).length = 2 + 9 * b
  | 0 => rfl
  | b + 1 => by rw [placesTo, List.length_append, placesTo_len b, blockPl_len]; omega
theorem blockPl_at (b : Nat) {i : Nat} (h : i < (blockPl b).length) : (blockPl b)[i] = (i + 2, b) := by simp [blockPl]
theorem placesTo_ok {c : CfD} : ∀ n : Nat, (n : Int) ≤ c.blocks → ∀ x ∈ placesTo n, okPB c x.1 x.2
  | 0, _, x, hx => by
    rcases List.mem_cons.1 hx with rfl | hx
    · exact ⟨by omega, by simp⟩
    · rw [List.mem_singleton] at hx; subst hx; exact ⟨by omega, by simp⟩
  | n + 1, hn, x, hx => by
    rcases List.mem_append.1 hx with hx | hx
    · exact placesTo_ok n (by omega) x hx
    · unfold blockPl at hx
      obtain ⟨i, hi, rfl⟩ := List.mem_map.1 hx
      rw [List.mem_range] at hi
      exact ⟨by show i + 2 ≤ 11; omega, by rw [if_neg (by show ¬ (i + 2 < 2 ∨ i + 2 = 11); omega)]; show (n : Int) < _; omega⟩
theorem places_ok {c : CfD} (hc : okC c) : ∀ x ∈ placesL c.blocks.toNat, okPB c x.1 x.2 := fun x hx => by
  have hb := hc.2.2.2.1
  rcases List.mem_append.1 hx with hx | hx
  · exact placesTo_ok _ (by omega) x hx
  · rw [List.mem_singleton] at hx; subst hx; exact ⟨by omega, by simp⟩
section
variable {w w' : World} {ba bb : Nat} {c d : CfD} {wa wb : ByteArray} {xs ys : List Int} {F G : Nat → Prop}
theorem places_spec (w : World) (hc : okC c) : Calls Tryz.prog i_lens_places #[.agg (cfE c).toArray] w (Ret fun v w' => ∃ (o : Option Addr) (cp : Nat), v = .slice o (placesL c.blocks.toNat).length cp ∧ Rd w' o ((placesL c.blocks.toNat).map plE).flatten (New w w') ∧ Ch Non w w') := by
  have hb := hc.2.2.2.1
  refine lens_places.calls _ _ _ _ _ _ ?_
  unfold lens_places.vc
  intro w1 e1 w2 e2
  have hC := Blk.new e1
  have hc1 : Ch Non w w1 := Ch.alloc e1
  have g0 : Gr Non w1 w2 t_lens_Place 2 (some ⟨w1.heap.size, 0, none⟩) 2 2 ((placesTo 0).map plE).flatten := Gr.made (n := 2) (Ch.refl _ _) e2 rfl (by omega)
  refine ⟨_, (hC.keepN (Ch.alloc e2)).cell 3 rfl, fun o n cp b k w' => ∃ j : Nat, b = j ∧ (j : Int) ≤ c.blocks ∧ k = c.blocks.toNat - j ∧ n = (placesTo j).length ∧ Gr Non w1 w' t_lens_Place 2 o (placesTo j).length cp ((placesTo j).map plE).flatten, ⟨_, 0, rfl, by omega, rfl, rfl, g0⟩, ?_⟩
  rintro jk o n cp b k w3 ⟨j, rfl, hj, rfl, rfl, hg⟩
  have hpl := placesTo_len j
  refine ⟨fun hlt => ?_, fun hge w7 e7 => ?_⟩
  · have hlt := of_decide_eq_true hlt
    have hbl := blockPl_len j
    refine ⟨fun o n cp p k w' => ∃ i : Nat, p = (i : Int) + 2 ∧ i ≤ 9 ∧ k = 9 - i ∧ n = (placesTo j ++ (blockPl j).take i).length ∧ Gr Non w1 w' t_lens_Place 2 o (placesTo j ++ (blockPl j).take i).length cp ((placesTo j ++ (blockPl j).take i).map plE).flatten, ⟨_, 0, by omega, by omega, rfl, by rw [List.take_zero, List.append_nil], by rw [List.take_zero, List.append_nil]; exact hg⟩, ?_⟩
    clear hg
    rintro jk o n cp p k w4 ⟨i, rfl, hi, rfl, rfl, hg⟩
    refine ⟨fun hlt2 w5 e5 => ?_, fun hge2 => ?_⟩
    · have hlt2 : i < (blockPl j).length := by have := of_decide_eq_true hlt2; omega
      have hat := blockPl_at j hlt2
      have htl : ((blockPl j).take i).length = i := by rw [List.length_take]; omega
      obtain ⟨o', c', w6, hr, hg6, _⟩ := hg.push el_S_lens_Place t_S_lens_Place e5 rfl rfl (by rw [List.length_append, htl]; omega) (by omega)
      refine ⟨o', _, c', w6, hr, 9 - (i + 1), by omega, i + 1, by rw [wrap_id (by omega) (by omega)]; omega, by omega, rfl, ?_, ?_⟩
      · rw [List.take_succ_eq_append_getElem hlt2, ← List.append_assoc]; simp only [List.length_append]; rfl
      · rw [List.take_succ_eq_append_getElem hlt2, ← List.append_assoc, List.length_append, List.map_append, List.flatten_append, hat]
        exact hg6
    · have hie : i = 9 := by have := of_decide_eq_false hge2; omega
      subst hie
      rw [List.take_of_length_le (by omega)] at hg ⊢
      exact ⟨c.blocks.toNat - (j + 1), by omega, j + 1, by rw [wrap_id (by omega) (by omega)]; rfl, by omega, rfl, rfl, hg⟩
  · have hge := of_decide_eq_false hge
    have hje : j = c.blocks.toNat := by omega
    subst hje
    obtain ⟨o', c', w8, hr, hg8, _⟩ := hg.push el_S_lens_Place t_S_lens_Place e7 rfl rfl (by omega) (by omega)
    have hs := hc1.size
    refine ⟨o', _, c', w8, hr, o', c', ?_, ?_, hc1.andN hg8.2⟩
    · unfold placesL; rw [List.length_append]; rfl
    · unfold placesL
      rw [List.map_append, List.flatten_append]
      exact hg8.rd.mono (fun i _ hi => ⟨by have := hi.1; omega, hi.2⟩)
theorem countD_snoc (xs ys : List Int) {j : Nat} (h1 : j < xs.length) (h2 : j < ys.length) : countD (xs.take (j + 1)) (ys.take (j + 1)) = countD (xs.take j) (ys.take j) + isD (apartI xs[j] ys[j]) := by
  unfold countD
  rw [take_snoc xs j h1, take_snoc ys j h2, List.zipWith_append (by rw [List.length_take, List.length_take]; omega), List.map_append, List.sum_append]
  simp
theorem mostD_snoc (xs ys : List Int) {j : Nat} (h1 : j < xs.length) (h2 : j < ys.length) : mostD (xs.take (j + 1)) (ys.take (j + 1)) = max (mostD (xs.take j) (ys.take j)) (apartI xs[j] ys[j]) := by
  unfold mostD
  rw [take_snoc xs j h1, take_snoc ys j h2, List.zipWith_append (by rw [List.length_take, List.length_take]; omega), List.foldl_append]
  rfl
theorem countD_le : ∀ (xs ys : List Int), 0 ≤ countD xs ys ∧ countD xs ys ≤ xs.length
  | [], _ => by simp [countD]
  | _ :: _, [] => by simp [countD]; omega
  | x :: xs, y :: ys => by
    have h := countD_le xs ys
    have e : countD (x :: xs) (y :: ys) = isD (apartI x y) + countD xs ys := by unfold countD; rw [List.zipWith_cons_cons, List.map_cons, List.sum_cons]
    rw [e, List.length_cons]
    unfold isD
    split <;> omega
theorem foldl_max_ge : ∀ (l : List Int) (m : Int), m ≤ l.foldl max m ∧ ∀ x ∈ l, x ≤ l.foldl max m
  | [], m => ⟨Int.le_refl _, fun x hx => by cases hx⟩
  | y :: l, m => by
    obtain ⟨h1, h2⟩ := foldl_max_ge l (max m y)
    refine ⟨by rw [List.foldl_cons]; omega, fun x hx => ?_⟩
    rw [List.foldl_cons]
    rcases List.mem_cons.1 hx with rfl | hx
    · omega
    · exact h2 x hx
theorem mostD_ge (xs ys : List Int) : 0 ≤ mostD xs ys := (foldl_max_ge _ 0).1
theorem change_spec {A B : Option Addr} {CA CB : Nat} {p0 p1 a0 a1 b0 b1 : Int} (ha : Rd w A (xs.map (.int .i8)) F) (hb : Rd w B (ys.map (.int .i8)) G) (h8 : bytesOk xs) (k8 : bytesOk ys) (hl : xs.length = ys.length) (hm : xs.length ≤ 1000000) :
    Calls Tryz.prog i_lens_change #[.agg #[.int .i64 p0, .int .i64 p1], .agg #[.int .i64 a0, .int .i64 a1, .slice A xs.length CA], .agg #[.int .i64 b0, .int .i64 b1, .slice B ys.length CB]] w (Ret fun v w' => v = .agg #[.int .i64 p0, .int .i64 p1, .int .i64 (countD xs ys), .int .i64 (mostD xs ys)] ∧ Ch Non w w') := by
  refine lens_change.calls _ _ _ _ _ _ _ _ _ _ _ _ ?_
  unfold lens_change.vc
  intro w1 e1 w2 e2 w3 e3 w4 e4
  have hP := Blk.new e1
  have hA := Blk.new e2
  have hB := Blk.new e3
  have hR := Blk.new e4
  have hc1 : Ch Non w w1 := Ch.alloc e1
  have hc2 : Ch Non w1 w2 := Ch.alloc e2
  have hc3 : Ch Non w2 w3 := Ch.alloc e3
  have hc4 : Ch Non w3 w4 := Ch.alloc e4
  have hP4 := hP.keepN ((hc2.andN hc3).andN hc4)
  refine ⟨_, _, ⟨hP4.cell 0 rfl, hP4.cell 1 rfl⟩, fun w5 e5 => ?_⟩
  have hD := Blk.new e5
  have hc5 : Ch Non w4 w5 := Ch.alloc e5
  have hs1 := hP.lt
  have hs2 := hA.lt
  have hs3 := hB.lt
  have hs4 := hR.lt
  have hs5 := hD.lt
  refine ⟨⟨hD.ok 0 rfl, hD.ok 1 rfl, hD.ok 2 rfl, hD.ok 3 rfl⟩, fun w6 e6 => ?_⟩
  have e6' : w6 = w5.setCells w4.heap.size 0 [.int .i64 p0, .int .i64 p1, .int .i64 0, .int .i64 0] := e6
  have hD6 := hD.all [.int .i64 p0, .int .i64 p1, .int .i64 0, .int .i64 0] rfl e6'
  have hc56 : Ch (· = w4.heap.size) w5 w6 := Ch.sets e6' rfl
  have hc06 : Ch Non w w6 := ((((hc1.andN hc2).andN hc3).andN hc4).andN hc5).trans hc56 (fun i hi he => by omega)
  have hA6 := (((hA.keepN hc3).keepN hc4).keepN hc5).keep hc56 (by omega)
  have hB6 := ((hB.keepN hc4).keepN hc5).keep hc56 (by omega)
  have hR6 := (hR.keepN hc5).keep hc56 (by omega)
  have hD6l := hD6.lt
  obtain ⟨db, hdb⟩ : ∃ db, db = w4.heap.size := ⟨_, rfl⟩
  rw [← hdb] at hD6 hD6l ⊢
  refine ⟨_, _, _, hA6.cell 2 rfl, fun i k w' => Ch (· = db) w6 w' ∧ ∃ j : Nat, i = j ∧ j ≤ xs.length ∧ k = xs.length - j ∧ Blk w' db [.int .i64 p0, .int .i64 p1, .int .i64 (countD (xs.take j) (ys.take j)), .int .i64 (mostD (xs.take j) (ys.take j))] t_lens_Change, ⟨_, Ch.refl _ _, 0, rfl, Nat.zero_le _, rfl, hD6⟩, ?_⟩
  rintro jk i k w7 ⟨hc7, j, rfl, hj, rfl, hD7⟩
  have hc07 : Ch Non w w7 := hc06.trans hc7 (fun i hi he => by omega)
  refine ⟨fun hlt => ?_, fun hge => ?_⟩
  · have hlt : j < xs.length := by have := of_decide_eq_true hlt; omega
    have hlt2 : j < ys.length := by omega
    have hap := apart_le (h8 _ (List.getElem_mem hlt)) (k8 _ (List.getElem_mem hlt2))
    have hcl := countD_le (xs.take j) (ys.take j)
    rw [List.length_take] at hcl
    have hmg := mostD_ge (xs.take j) (ys.take j)
    refine ⟨⟨by omega, by omega⟩, (ha.keepN hc07).at (j := (j : Int).toNat * 1) (v := .int .i8 xs[j]) (by simp [hlt]) fun p hp => ⟨_, hp, _, _, _, (hB6.keep hc7 (by omega)).cell 2 rfl, ⟨by omega, by omega⟩, (hb.keepN hc07).at (j := (j : Int).toNat * 1) (v := .int .i8 ys[j]) (by simp [hlt2]) fun p2 hp2 => ⟨_, hp2, step_call (apart_spec w7 (h8 _ (List.getElem_mem hlt)) (k8 _ (List.getElem_mem hlt2))) ?_⟩⟩⟩
    rintro v w8 ⟨rfl, rfl⟩
    have hcs := countD_snoc xs ys hlt hlt2
    have hms := mostD_snoc xs ys hlt hlt2
    refine ⟨_, rfl, fun hpos => ?_, fun hz => ?_⟩
    · have hpos := of_decide_eq_true hpos
      refine ⟨_, hD7.cell 2 rfl, hD7.ok 2 rfl, fun w9 e9 => ?_⟩
      have hD9 := hD7.set e9
      refine ⟨_, hD9.cell 3 rfl, hD9.ok 3 rfl, fun w10 e10 => ?_⟩
      have hD10 := hD9.set e10
      refine ⟨xs.length - (j + 1), by omega, (hc7.same (Ch.set e9 rfl)).same (Ch.set e10 rfl), j + 1, by rw [wrap_id (by omega) (by omega)]; rfl, hlt, rfl, ?_⟩
      have e1 : IntKind.i64.wrap (countD (xs.take j) (ys.take j) + 1) = countD (xs.take (j + 1)) (ys.take (j + 1)) := by
        rw [hcs, wrap_id (by omega) (by omega)]; unfold isD; rw [if_pos hpos]
      have e2 : (if apartI xs[j] ys[j] > mostD (xs.take j) (ys.take j) then apartI xs[j] ys[j] else mostD (xs.take j) (ys.take j)) = mostD (xs.take (j + 1)) (ys.take (j + 1)) := by
        rw [hms]; split <;> omega
      rw [e1, e2] at hD10
      exact hD10
    · have hz := of_decide_eq_false hz
      refine ⟨xs.length - (j + 1), by omega, hc7, j + 1, by rw [wrap_id (by omega) (by omega)]; rfl, hlt, rfl, ?_⟩
      have e1 : countD (xs.take (j + 1)) (ys.take (j + 1)) = countD (xs.take j) (ys.take j) := by
        rw [hcs]; unfold isD; rw [if_neg hz]; omega
      have e2 : mostD (xs.take (j + 1)) (ys.take (j + 1)) = mostD (xs.take j) (ys.take j) := by rw [hms]; omega
      rw [e1, e2]
      exact hD7
  · have hje : j = xs.length := by have := of_decide_eq_false hge; omega
    subst hje
    rw [List.take_length, hl, List.take_length] at hD7
    have hR7 := hR6.keep hc7 (by omega)
    refine ⟨_, _, _, _, ⟨hD7.cell 0 rfl, hD7.cell 1 rfl, hD7.cell 2 rfl, hD7.cell 3 rfl⟩, ⟨hR7.ok 0 rfl, hR7.ok 1 rfl, hR7.ok 2 rfl, hR7.ok 3 rfl⟩, fun w11 e11 => ?_⟩
    have e11' : w11 = w7.setCells w3.heap.size 0 [.int .i64 p0, .int .i64 p1, .int .i64 (countD xs ys), .int .i64 (mostD xs ys)] := e11
    have hR11 := hR7.all [.int .i64 p0, .int .i64 p1, .int .i64 (countD xs ys), .int .i64 (mostD xs ys)] rfl e11'
    exact ⟨_, _, _, _, ⟨hR11.cell 0 rfl, hR11.cell 1 rfl, hR11.cell 2 rfl, hR11.cell 3 rfl⟩, rfl, hc07.trans (Ch.sets (F := (· = w3.heap.size)) e11' rfl) (fun i hi he => by omega)⟩
end
end Go.Proofs.YtbadkcnemcnhfaaGreatDoor.Lens
