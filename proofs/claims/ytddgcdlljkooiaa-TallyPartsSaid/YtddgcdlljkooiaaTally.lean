/- For every tally of the model: what an event more, a kind's place, a share and a sum of all kinds come to; the conditions stand in each theorem. -/
import Derived.Test.YtddgcdlljkooiaaGrow
import Derived.Test.YtddgcdlljkooiaaStr
import Derived.Test.YtddgcdlljkooiaaDat
import Derived.Test.YtddgcdlljkooiaaVcTally
set_option linter.unusedVariables false
set_option linter.unusedSimpArgs false
namespace Go.Proofs.Ytddgcdlljkooiaa.Tally
open Go Go.Proofs Go.Proofs.Ytddgcdlljkooiaa.V Go.Proofs.Ytddgcdlljkooiaa.Vc Go.RowKit

abbrev iv (x : Int) : Value := .int .i64 x
/-- The number at a place. -/
def g (t : List Int) (i : Nat) : Int := t.getD i 0
theorem list32 {t : List Int} (h : t.length = 32) : [g t 0, g t 1, g t 2, g t 3, g t 4, g t 5, g t 6, g t 7, g t 8, g t 9, g t 10, g t 11, g t 12, g t 13, g t 14, g t 15, g t 16, g t 17, g t 18, g t 19, g t 20, g t 21, g t 22, g t 23, g t 24, g t 25, g t 26, g t 27, g t 28, g t 29, g t 30, g t 31] = t := by
  match t, h with
  | [a0, a1, a2, a3, a4, a5, a6, a7, a8, a9, a10, a11, a12, a13, a14, a15, a16, a17, a18, a19, a20, a21, a22, a23, a24, a25, a26, a27, a28, a29, a30, a31], _ => rfl
theorem agg32 {t : List Int} (h : t.length = 32) : (#[.int .i64 (g t 0), .int .i64 (g t 1), .int .i64 (g t 2), .int .i64 (g t 3), .int .i64 (g t 4), .int .i64 (g t 5), .int .i64 (g t 6), .int .i64 (g t 7), .int .i64 (g t 8), .int .i64 (g t 9), .int .i64 (g t 10), .int .i64 (g t 11), .int .i64 (g t 12), .int .i64 (g t 13), .int .i64 (g t 14), .int .i64 (g t 15), .int .i64 (g t 16), .int .i64 (g t 17), .int .i64 (g t 18), .int .i64 (g t 19), .int .i64 (g t 20), .int .i64 (g t 21), .int .i64 (g t 22), .int .i64 (g t 23), .int .i64 (g t 24), .int .i64 (g t 25), .int .i64 (g t 26), .int .i64 (g t 27), .int .i64 (g t 28), .int .i64 (g t 29), .int .i64 (g t 30), .int .i64 (g t 31)] : Array Value) = (t.map iv).toArray := by
  have := congrArg (fun l => (l.map iv).toArray) (list32 h)
  exact this
def z32 : List Int := List.replicate 32 0
section
variable {w w' : World} {b rb T T2 : Nat} {t : List Int} {F : Nat → Prop}
theorem cT (h : Blk w b (t.map iv) T) (i : Nat) (hi : i < t.length) : w.cell? ⟨b, i, none⟩ = some (.int .i64 (g t i)) := by
  refine h.cell i ?_
  unfold g
  rw [List.getElem?_map, List.getElem?_eq_getElem hi, List.getD_eq_getElem?_getD, List.getElem?_eq_getElem hi]; rfl
theorem okT (h : Blk w b (t.map iv) T) (i : Nat) (hi : i < t.length) : (∃ u, w.cell? ⟨b, i, none⟩ = some u) ∧ w.frozen? ⟨b, i, none⟩ = false :=
  ⟨⟨_, cT h i hi⟩, h.frozen _ rfl⟩
theorem new32 (ht : t.length = 32) (e : w' = w.alloc (.cells #[.int .i64 (g t 0), .int .i64 (g t 1), .int .i64 (g t 2), .int .i64 (g t 3), .int .i64 (g t 4), .int .i64 (g t 5), .int .i64 (g t 6), .int .i64 (g t 7), .int .i64 (g t 8), .int .i64 (g t 9), .int .i64 (g t 10), .int .i64 (g t 11), .int .i64 (g t 12), .int .i64 (g t 13), .int .i64 (g t 14), .int .i64 (g t 15), .int .i64 (g t 16), .int .i64 (g t 17), .int .i64 (g t 18), .int .i64 (g t 19), .int .i64 (g t 20), .int .i64 (g t 21), .int .i64 (g t 22), .int .i64 (g t 23), .int .i64 (g t 24), .int .i64 (g t 25), .int .i64 (g t 26), .int .i64 (g t 27), .int .i64 (g t 28), .int .i64 (g t 29), .int .i64 (g t 30), .int .i64 (g t 31)] T (0, 0))) : Blk w' w.heap.size (t.map iv) T := by
  rw [agg32 ht] at e
  exact Blk.new e
theorem newz (e : w' = w.alloc (.cells #[.int .i64 0, .int .i64 0, .int .i64 0, .int .i64 0, .int .i64 0, .int .i64 0, .int .i64 0, .int .i64 0, .int .i64 0, .int .i64 0, .int .i64 0, .int .i64 0, .int .i64 0, .int .i64 0, .int .i64 0, .int .i64 0, .int .i64 0, .int .i64 0, .int .i64 0, .int .i64 0, .int .i64 0, .int .i64 0, .int .i64 0, .int .i64 0, .int .i64 0, .int .i64 0, .int .i64 0, .int .i64 0, .int .i64 0, .int .i64 0, .int .i64 0, .int .i64 0] T (0, 0))) : Blk w' w.heap.size (z32.map iv) T := Blk.new e
theorem setT (h : Blk w b (t.map iv) T) {i : Nat} {v : Int} (e : w' = w.setCell ⟨b, i, none⟩ (.int .i64 v)) : Blk w' b ((t.set i v).map iv) T := by
  rw [List.map_set]; exact h.set e
/-- All of a tally is laid over another one. -/
theorem sets32 {s : List Int} (h : Blk w rb (s.map iv) T2) (hs : s.length = 32) (ht : t.length = 32)
    (e : w' = ((((((((((((((((((((((((((((((((w.setCell ⟨rb, 0, none⟩ (.int .i64 (g t 0))).setCell ⟨rb, 1, none⟩ (.int .i64 (g t 1))).setCell ⟨rb, 2, none⟩ (.int .i64 (g t 2))).setCell ⟨rb, 3, none⟩ (.int .i64 (g t 3))).setCell ⟨rb, 4, none⟩ (.int .i64 (g t 4))).setCell ⟨rb, 5, none⟩ (.int .i64 (g t 5))).setCell ⟨rb, 6, none⟩ (.int .i64 (g t 6))).setCell ⟨rb, 7, none⟩ (.int .i64 (g t 7))).setCell ⟨rb, 8, none⟩ (.int .i64 (g t 8))).setCell ⟨rb, 9, none⟩ (.int .i64 (g t 9))).setCell ⟨rb, 10, none⟩ (.int .i64 (g t 10))).setCell ⟨rb, 11, none⟩ (.int .i64 (g t 11))).setCell ⟨rb, 12, none⟩ (.int .i64 (g t 12))).setCell ⟨rb, 13, none⟩ (.int .i64 (g t 13))).setCell ⟨rb, 14, none⟩ (.int .i64 (g t 14))).setCell ⟨rb, 15, none⟩ (.int .i64 (g t 15))).setCell ⟨rb, 16, none⟩ (.int .i64 (g t 16))).setCell ⟨rb, 17, none⟩ (.int .i64 (g t 17))).setCell ⟨rb, 18, none⟩ (.int .i64 (g t 18))).setCell ⟨rb, 19, none⟩ (.int .i64 (g t 19))).setCell ⟨rb, 20, none⟩ (.int .i64 (g t 20))).setCell ⟨rb, 21, none⟩ (.int .i64 (g t 21))).setCell ⟨rb, 22, none⟩ (.int .i64 (g t 22))).setCell ⟨rb, 23, none⟩ (.int .i64 (g t 23))).setCell ⟨rb, 24, none⟩ (.int .i64 (g t 24))).setCell ⟨rb, 25, none⟩ (.int .i64 (g t 25))).setCell ⟨rb, 26, none⟩ (.int .i64 (g t 26))).setCell ⟨rb, 27, none⟩ (.int .i64 (g t 27))).setCell ⟨rb, 28, none⟩ (.int .i64 (g t 28))).setCell ⟨rb, 29, none⟩ (.int .i64 (g t 29))).setCell ⟨rb, 30, none⟩ (.int .i64 (g t 30))).setCell ⟨rb, 31, none⟩ (.int .i64 (g t 31)))) : Blk w' rb (t.map iv) T2 ∧ Ch (· = rb) w w' := by
  have e2 : w' = w.setCells rb 0 [.int .i64 (g t 0), .int .i64 (g t 1), .int .i64 (g t 2), .int .i64 (g t 3), .int .i64 (g t 4), .int .i64 (g t 5), .int .i64 (g t 6), .int .i64 (g t 7), .int .i64 (g t 8), .int .i64 (g t 9), .int .i64 (g t 10), .int .i64 (g t 11), .int .i64 (g t 12), .int .i64 (g t 13), .int .i64 (g t 14), .int .i64 (g t 15), .int .i64 (g t 16), .int .i64 (g t 17), .int .i64 (g t 18), .int .i64 (g t 19), .int .i64 (g t 20), .int .i64 (g t 21), .int .i64 (g t 22), .int .i64 (g t 23), .int .i64 (g t 24), .int .i64 (g t 25), .int .i64 (g t 26), .int .i64 (g t 27), .int .i64 (g t 28), .int .i64 (g t 29), .int .i64 (g t 30), .int .i64 (g t 31)] := e
  have hl : [Value.int .i64 (g t 0), Value.int .i64 (g t 1), Value.int .i64 (g t 2), Value.int .i64 (g t 3), Value.int .i64 (g t 4), Value.int .i64 (g t 5), Value.int .i64 (g t 6), Value.int .i64 (g t 7), Value.int .i64 (g t 8), Value.int .i64 (g t 9), Value.int .i64 (g t 10), Value.int .i64 (g t 11), Value.int .i64 (g t 12), Value.int .i64 (g t 13), Value.int .i64 (g t 14), Value.int .i64 (g t 15), Value.int .i64 (g t 16), Value.int .i64 (g t 17), Value.int .i64 (g t 18), Value.int .i64 (g t 19), Value.int .i64 (g t 20), Value.int .i64 (g t 21), Value.int .i64 (g t 22), Value.int .i64 (g t 23), Value.int .i64 (g t 24), Value.int .i64 (g t 25), Value.int .i64 (g t 26), Value.int .i64 (g t 27), Value.int .i64 (g t 28), Value.int .i64 (g t 29), Value.int .i64 (g t 30), Value.int .i64 (g t 31)] = t.map iv := by
    have := congrArg (List.map iv) (list32 ht)
    exact this
  rw [hl] at e2
  exact ⟨h.all (t.map iv) (by simp [hs, ht]) e2, Ch.sets e2 rfl⟩
end
def kindP (k : Int) : Int := if 1 ≤ k ∧ k ≤ 13 then k else 0
theorem kindP_at (k : Int) : 0 ≤ kindP k ∧ kindP k < 14 := by unfold kindP; split <;> omega
def bump (t : List Int) (i : Nat) (d : Int) : List Int := t.set i (IntKind.i64.wrap (g t i + d))
def pickT (t n : List Int) : List Int :=
  let t1 := if 2 ≤ n.length ∧ n.getD 1 0 = 1 then bump t 28 1 else t
  if n.length = 4 then bump t1 31 (n.getD 3 0) else t1
def addT (t : List Int) (kind err : Int) (n : List Int) (out : Nat) : List Int :=
  let t1 := bump t (2 * (kindP kind).toNat) 1
  if err ≠ 0 then bump t1 (2 * (kindP kind).toNat + 1) 1 else if kind = 5 then pickT t1 n else if kind = 2 then bump t1 29 1 else if kind = 3 then bump t1 30 out else t1
theorem bump_len (t : List Int) (i : Nat) (d : Int) : (bump t i d).length = t.length := by unfold bump; rw [List.length_set]
theorem pickT_len (t n : List Int) : (pickT t n).length = t.length := by
  unfold pickT
  simp only
  split <;> split <;> simp [bump_len]
theorem addT_len (t : List Int) (k e : Int) (n : List Int) (o : Nat) : (addT t k e n o).length = t.length := by
  unfold addT
  simp only
  split
  · simp [bump_len]
  · split
    · simp [pickT_len, bump_len]
    · split
      · simp [bump_len]
      · split <;> simp [bump_len]
theorem emp_beq (s : ByteArray) : (s.toList == (ByteArray.mk #[]).toList) = decide (s.size = 0) := by
  rw [str_toList, str_toList]
  have hs : s.data.toList.length = s.size := by simp
  by_cases h : s.size = 0
  · have : s.data.toList = [] := List.length_eq_zero_iff.1 (by omega)
    rw [this, decide_eq_true h]; rfl
  · rw [decide_eq_false h]
    cases hd : s.data.toList with
    | nil => rw [hd] at hs; simp at hs; omega
    | cons x r => rfl
theorem in13 {k : Int} (h1 : 1 ≤ k) (h2 : k ≤ 13) : ∃ j : Nat, (IntKind.i64.wrap (k - 1)).toNat * 1 = j ∧ (j = 0 ∨ j = 1 ∨ j = 2 ∨ j = 3 ∨ j = 4 ∨ j = 5 ∨ j = 6 ∨ j = 7 ∨ j = 8 ∨ j = 9 ∨ j = 10 ∨ j = 11 ∨ j = 12) := by
  rw [wrap_id (by omega) (by omega)]
  exact ⟨_, rfl, by omega⟩
theorem Name_spec (w : World) (k : Int) : Calls Try.prog i_order_Name #[.int .i64 k] w (Ret fun v w' => ∃ s : ByteArray, v = .string s ∧ decide (s.size = 0) = !decide (1 ≤ k ∧ k ≤ 13) ∧ Ch Non w w') := by
  refine order_Name.calls _ ?_
  unfold order_Name.vc
  intro w1 e1
  have hB := Blk.new e1
  have hc : Ch Non w w1 := Ch.alloc e1
  refine ⟨fun h => ?_, fun h => ⟨fun h2 => ?_, fun h2 => ?_⟩⟩
  · have h := of_decide_eq_true h
    exact ⟨_, rfl, by rw [decide_eq_false (show ¬ (1 ≤ k ∧ k ≤ 13) by omega)]; rfl, hc⟩
  · have h2 := of_decide_eq_true h2
    exact ⟨_, rfl, by rw [decide_eq_false (show ¬ (1 ≤ k ∧ k ≤ 13) by omega)]; rfl, hc⟩
  · have h := of_decide_eq_false h
    have h2 := of_decide_eq_false h2
    obtain ⟨j, hj, hjj⟩ := in13 (k := k) (by omega) (by omega)
    refine ⟨by rw [wrap_id (by omega) (by omega)]; omega, ?_⟩
    rw [hj, add_at, Nat.zero_add, decide_eq_true (show 1 ≤ k ∧ k ≤ 13 by omega)]
    rcases hjj with rfl | rfl | rfl | rfl | rfl | rfl | rfl | rfl | rfl | rfl | rfl | rfl | rfl <;> exact ⟨_, hB.cell _ rfl, _, rfl, rfl, hc⟩
theorem RefName_spec (w : World) (k : Int) : Calls Try.prog i_coadjutorref29_Name #[.int .i64 k] w (Ret fun v w' => ∃ s : ByteArray, v = .string s ∧ decide (s.size = 0) = !decide (1 ≤ k ∧ k ≤ 13) ∧ Ch Non w w') := by
  refine coadjutorref29_Name.calls _ ?_
  unfold coadjutorref29_Name.vc
  intro w1 e1
  have hB1 := Blk.new e1
  have hs : w.heap.size < w1.heap.size := hB1.lt
  refine ⟨⟨hB1.ok 0 rfl, hB1.ok 1 rfl, hB1.ok 2 rfl, hB1.ok 3 rfl, hB1.ok 4 rfl, hB1.ok 5 rfl, hB1.ok 6 rfl, hB1.ok 7 rfl, hB1.ok 8 rfl, hB1.ok 9 rfl, hB1.ok 10 rfl, hB1.ok 11 rfl, hB1.ok 12 rfl⟩, fun w2 e2 => ?_⟩
  have hc1 : Ch Non w w1 := Ch.alloc e1
  obtain ⟨ws, hws, hne, e3⟩ : ∃ ws : List ByteArray, ws.length = 13 ∧ (∀ s ∈ ws, decide (s.size = 0) = false) ∧ w2 = w1.setCells w.heap.size 0 (ws.map .string) := by
    refine ⟨[_, _, _, _, _, _, _, _, _, _, _, _, _], rfl, ?_, e2⟩
    intro s hs
    simp only [List.mem_cons, List.not_mem_nil, or_false] at hs
    rcases hs with rfl | rfl | rfl | rfl | rfl | rfl | rfl | rfl | rfl | rfl | rfl | rfl | rfl <;> rfl
  have hB := hB1.all (ws.map .string) (by simp [hws]) e3
  have hc : Ch Non w w2 := hc1.trans (Ch.sets (F := (· = w.heap.size)) e3 rfl) (fun i hi he => by omega)
  clear e2 e3 e1 hB1 hc1
  refine ⟨fun h => ?_, fun h => ⟨fun h2 => ?_, fun h2 => ?_⟩⟩
  · have h := of_decide_eq_true h
    exact ⟨_, rfl, by rw [decide_eq_false (show ¬ (1 ≤ k ∧ k ≤ 13) by omega)]; rfl, hc⟩
  · have h2 := of_decide_eq_true h2
    exact ⟨_, rfl, by rw [decide_eq_false (show ¬ (1 ≤ k ∧ k ≤ 13) by omega)]; rfl, hc⟩
  · have h := of_decide_eq_false h
    have h2 := of_decide_eq_false h2
    obtain ⟨j, hj, hjj⟩ := in13 (k := k) (by omega) (by omega)
    refine ⟨by rw [wrap_id (by omega) (by omega)]; omega, ?_⟩
    rw [hj, add_at, Nat.zero_add, decide_eq_true (show 1 ≤ k ∧ k ≤ 13 by omega)]
    have hlt : j < ws.length := by omega
    exact ⟨ws[j], hB.cell _ (by rw [List.getElem?_map, List.getElem?_eq_getElem hlt]; rfl), _, rfl, by rw [hne _ (List.getElem_mem hlt)]; rfl, hc⟩
theorem place_spec (w : World) (k : Int) : Calls Try.prog i_tally_place #[.int .i64 k] w (Ret fun v w' => v = .int .i64 (kindP k) ∧ Ch Non w w') := by
  refine tally_place.calls _ ?_
  unfold tally_place.vc
  refine step_call (Name_spec w k) ?_
  rintro v w1 ⟨s, rfl, hs, hc⟩
  refine ⟨_, rfl, fun h => ?_, fun h => ?_⟩
  · rw [emp_beq, hs] at h
    have h : ¬ (1 ≤ k ∧ k ≤ 13) := fun hk => by rw [decide_eq_true hk] at h; cases h
    unfold kindP
    rw [if_neg h]
    exact ⟨rfl, hc⟩
  · rw [emp_beq, hs] at h
    have h : 1 ≤ k ∧ k ≤ 13 := Decidable.byContradiction fun hk => by rw [decide_eq_false hk] at h; cases h
    unfold kindP
    rw [if_pos h]
    exact ⟨rfl, hc⟩
theorem RefKind_spec (w : World) (k : Int) : Calls Try.prog i_coadjutorref37_Kind #[.int .i64 k] w (Ret fun v w' => v = .int .i64 (kindP k) ∧ Ch Non w w') := by
  refine coadjutorref37_Kind.calls _ ?_
  unfold coadjutorref37_Kind.vc
  refine step_call (RefName_spec w k) ?_
  rintro v w1 ⟨s, rfl, hs, hc⟩
  refine ⟨_, rfl, fun h => ?_, fun h => ?_⟩
  · rw [emp_beq, hs] at h
    have h : ¬ (1 ≤ k ∧ k ≤ 13) := fun hk => by rw [decide_eq_true hk] at h; cases h
    unfold kindP
    rw [if_neg h]
    exact ⟨rfl, hc⟩
  · rw [emp_beq, hs] at h
    have h : 1 ≤ k ∧ k ≤ 13 := Decidable.byContradiction fun hk => by rw [decide_eq_false hk] at h; cases h
    unfold kindP
    rw [if_pos h]
    exact ⟨rfl, hc⟩
def shareV (a b : Int) : Int := if a ≤ 0 ∨ b < 0 then 0 else IntKind.i64.wrap (Int.tdiv (IntKind.i64.wrap (100 * b)) a)
theorem Share_spec (w : World) (a b : Int) : Calls Try.prog i_tally_Counts_Share #[.agg #[.int .i64 a, .int .i64 b]] w (Ret fun v w' => v = .int .i64 (shareV a b) ∧ Ch Non w w') := by
  refine tally_Counts_Share.calls _ _ ?_
  unfold tally_Counts_Share.vc shareV
  intro w1 e1
  have hB := Blk.new e1
  have hc : Ch Non w w1 := Ch.alloc e1
  refine ⟨_, hB.cell 0 rfl, fun h => ?_, fun h => ⟨_, hB.cell 1 rfl, fun h2 => ?_, fun h2 => ?_⟩⟩
  · have h := of_decide_eq_true h
    rw [if_pos (.inl h)]; exact ⟨rfl, hc⟩
  · have h2 := of_decide_eq_true h2
    rw [if_pos (.inr h2)]; exact ⟨rfl, hc⟩
  · have h := of_decide_eq_false h
    have h2 := of_decide_eq_false h2
    rw [if_neg (by omega)]
    exact ⟨_, hB.cell 1 rfl, _, hB.cell 0 rfl, by omega, rfl, hc⟩
section
variable {w w' : World} {tb T : Nat} {t n : List Int} {o : Option Addr} {G : Nat → Prop}
theorem chT {v : Value} {i : Nat} (e : w' = w.setCell ⟨tb, i, none⟩ v) : Ch (· = tb) w w' := Ch.set e rfl
theorem pick_spec (hT : Blk w tb (t.map iv) T) (ht : t.length = 32) (hn : Rd w o (n.map iv) G) (hG : ∀ i, G i → ¬ i = tb) (c : Nat) :
    Calls Try.prog i_tally_Tally_pick #[.pointer (some ⟨tb, 0, none⟩), .slice o n.length c] w (Ret fun v w' => v = .tuple #[] ∧ Blk w' tb ((pickT t n).map iv) T ∧ Ch (· = tb) w w') := by
  refine tally_Tally_pick.calls _ _ _ _ ?_
  unfold tally_Tally_pick.vc
  refine ⟨fun w' => ∃ t1, t1 = (if 2 ≤ n.length ∧ n.getD 1 0 = 1 then bump t 28 1 else t) ∧ Blk w' tb (t1.map iv) T ∧ Ch (· = tb) w w', ⟨fun h => ⟨⟨by omega, by have := of_decide_eq_true h; omega⟩, ?_⟩, fun h => ?_⟩, ?_⟩
  · have h : 1 < n.length := by have := of_decide_eq_true h; omega
    refine hn.typed (j := 1) (xs := n) h fun p hp => ⟨_, hp, ?_⟩
    have h1 : n.getD 1 0 = n[1] := by rw [List.getD_eq_getElem?_getD, List.getElem?_eq_getElem h]; rfl
    rw [h1]
    refine ⟨fun h2 => ⟨_, cT hT 28 (by omega), okT hT 28 (by omega), fun w1 e1 => ?_⟩, fun h2 => ?_⟩
    · have h2 : n[1] = 1 := by simpa using h2
      rw [if_pos ⟨h, h2⟩]
      exact ⟨_, rfl, setT hT e1, chT e1⟩
    · have h2 : ¬ n[1] = 1 := by simpa using h2
      rw [if_neg (fun k => h2 k.2)]
      exact ⟨_, rfl, hT, Ch.refl _ _⟩
  · have h : ¬ 2 ≤ n.length := by have := of_decide_eq_false h; omega
    rw [if_neg (fun k => h k.1)]
    exact ⟨_, rfl, hT, Ch.refl _ _⟩
  · rintro jk w1 ⟨t1, ht1, hT1, hc1⟩
    have hl1 : t1.length = 32 := by rw [ht1]; split <;> simp [bump_len, ht]
    have hp : pickT t n = if n.length = 4 then bump t1 31 (n.getD 3 0) else t1 := by rw [ht1]; rfl
    rw [hp]
    refine ⟨fun h => ?_, fun h => ?_⟩
    · have h : n.length = 4 := by have : (n.length : Int) = 4 := by simpa using h
                                  omega
      have hn1 := hn.keep hc1 (fun i _ hi he => hG i hi he)
      refine ⟨fun w' => Ch Non w1 w', fun w2 e2 => ⟨Ch.drew e2, ?_⟩⟩
      have hT2 := hT1.drew e2
      refine ⟨_, fun w' hc => cT (hT1.keepN hc) 31 (by omega), ⟨by omega, by omega⟩, ?_⟩
      refine Rd.keeps (j := 3) (xs := n) (S := fun w' => Ch Non w1 w') (fun w' hc => hn1.keepN hc) (Ch.refl _ _) (by omega) fun p hp => ⟨_, hp, okT hT2 31 (by omega), fun w5 e5 => ?_⟩
      have h3 : n.getD 3 0 = n[3] := by rw [List.getD_eq_getElem?_getD, List.getElem?_eq_getElem (by omega)]; rfl
      rw [if_pos h, h3]
      exact ⟨rfl, setT hT2 e5, (hc1.andN (Ch.drew e2)).same (chT e5)⟩
    · have h : ¬ n.length = 4 := fun k => by rw [k] at h; simp at h
      rw [if_neg h]
      exact ⟨rfl, hT1, hc1⟩
end
/-- An event, as its cells tell. -/
structure EvD where
  kind : Int
  id : Int
  n : Int
  good : Bool
  po : Option Addr
  pn : Nat
  pc : Nat
  d_o : Option Addr
  dn : Nat
  dc : Nat
  data : ByteArray
  err : Int
  no : Option Addr
  nc : Nat
  nums : List Int
  oo : Option Addr
  on : Nat
  oc : Nat
def evE (e : EvD) : List Value := [.int .i64 e.kind, .int .i64 e.id, .int .i64 e.n, .bool e.good, .slice e.po e.pn e.pc, .slice e.d_o e.dn e.dc, .string e.data, .int .i64 e.err, .slice e.no e.nums.length e.nc, .slice e.oo e.on e.oc]
def addE (t : List Int) (e : EvD) : List Int := addT t e.kind e.err e.nums e.on
section
variable {w w' : World} {tb T : Nat} {t : List Int} {G : Nat → Prop} {e : EvD}
theorem add_spec (hT : Blk w tb (t.map iv) T) (ht : t.length = 32) (hn : Rd w e.no (e.nums.map iv) G) (hG : ∀ i, G i → ¬ i = tb) :
    Calls Try.prog i_tally_Tally_add #[.pointer (some ⟨tb, 0, none⟩), .agg (evE e).toArray] w (Ret fun v w' => v = .tuple #[] ∧ Blk w' tb ((addE t e).map iv) T ∧ Ch (· = tb) w w') := by
  refine tally_Tally_add.calls _ _ _ _ _ _ _ _ _ _ _ _ _ _ _ _ _ _ _ ?_
  unfold tally_Tally_add.vc
  intro w1 e1
  have hE1 : Blk w1 w.heap.size (evE e) 64 := Blk.new e1
  have hc1 : Ch Non w w1 := Ch.alloc e1
  have hT1 := hT.keepN hc1
  have hs1 : w.heap.size < w1.heap.size := hE1.lt
  have htb := hT.lt
  clear e1
  refine ⟨fun w' => Ch Non w1 w', fun w2 e2 => ⟨Ch.drew e2, _, fun w' hc => (hE1.keepN hc).cell 0 rfl, ?_⟩⟩
  refine step_call (place_spec w2 _) ?_
  rintro v w4 ⟨rfl, hc4⟩
  have hc14 := (Ch.drew (F := Non) e2).andN hc4
  have hT4 := hT1.keepN hc14
  have hE4 := hE1.keepN hc14
  obtain ⟨k0, k1⟩ := kindP_at e.kind
  have hk : (kindP e.kind).toNat * 2 = 2 * (kindP e.kind).toNat := Nat.mul_comm _ _
  refine ⟨_, rfl, hc14, ⟨k0, k1⟩, ?_⟩
  rw [hk, add_at, Nat.zero_add]
  refine ⟨_, cT hT4 _ (by omega), okT hT4 _ (by omega), fun w5 e5 => ?_⟩
  have hT5 := setT hT4 e5
  have hc5 : Ch (· = tb) w4 w5 := chT e5
  have hE5 := hE4.keep hc5 (by omega)
  have hcw5 : Ch (· = tb) w w5 := ((hc1.andN hc14).any (F := (· = tb))).same hc5
  have hl5 : (t.set (2 * (kindP e.kind).toNat) (IntKind.i64.wrap (g t (2 * (kindP e.kind).toNat) + 1))).length = 32 := by rw [List.length_set]; exact ht
  have hb : t.set (2 * (kindP e.kind).toNat) (IntKind.i64.wrap (g t (2 * (kindP e.kind).toNat) + 1)) = bump t (2 * (kindP e.kind).toNat) 1 := rfl
  rw [hb] at hT5 hl5
  have hadd : addE t e = if e.err ≠ 0 then bump (bump t (2 * (kindP e.kind).toNat) 1) (2 * (kindP e.kind).toNat + 1) 1 else if e.kind = 5 then pickT (bump t (2 * (kindP e.kind).toNat) 1) e.nums else if e.kind = 2 then bump (bump t (2 * (kindP e.kind).toNat) 1) 29 1 else if e.kind = 3 then bump (bump t (2 * (kindP e.kind).toNat) 1) 30 e.on else bump t (2 * (kindP e.kind).toNat) 1 := rfl
  rw [hadd]
  generalize bump t (2 * (kindP e.kind).toNat) 1 = t1 at hT5 hl5
  refine ⟨_, hE5.cell 7 rfl, fun he => ?_, fun he => ?_⟩
  · have he : e.err ≠ 0 := by simpa using he
    rw [if_pos he, add_at]
    refine ⟨_, cT hT5 _ (by omega), okT hT5 _ (by omega), fun w6 e6 => ⟨rfl, setT hT5 e6, hcw5.same (chT e6)⟩⟩
  have he : ¬ e.err ≠ 0 := by simpa using he
  rw [if_neg he]
  refine ⟨_, hE5.cell 0 rfl, fun h5 => ?_, fun h5 => ?_⟩
  · have h5 : e.kind = 5 := by simpa using h5
    rw [if_pos h5]
    refine ⟨_, _, _, hE5.cell 8 rfl, ?_⟩
    refine step_call (pick_spec hT5 hl5 (hn.keep hcw5 (fun i _ hi he => hG i hi he)) hG e.nc) ?_
    rintro v w7 ⟨rfl, hT7, hc7⟩
    exact ⟨rfl, rfl, hT7, hcw5.same hc7⟩
  have h5 : ¬ e.kind = 5 := by simpa using h5
  rw [if_neg h5]
  refine ⟨fun h2 => ?_, fun h2 => ?_⟩
  · have h2 : e.kind = 2 := by simpa using h2
    rw [if_pos h2]
    exact ⟨_, cT hT5 29 (by omega), okT hT5 29 (by omega), fun w8 e8 => ⟨rfl, setT hT5 e8, hcw5.same (chT e8)⟩⟩
  have h2 : ¬ e.kind = 2 := by simpa using h2
  rw [if_neg h2]
  refine ⟨fun h3 => ?_, fun h3 => ?_⟩
  · have h3 : e.kind = 3 := by simpa using h3
    rw [if_pos h3]
    refine ⟨fun w' => Ch Non w5 w', fun w9 e9 => ⟨Ch.drew e9, _, fun w' hc => cT (hT5.keepN hc) 30 (by omega), _, _, _, fun w' hc => (hE5.keepN hc).cell 9 rfl, okT (hT5.drew e9) 30 (by omega), fun w12 e12 => ?_⟩⟩
    exact ⟨rfl, setT (hT5.drew e9) e12, (hcw5.andN (Ch.drew e9)).same (chT e12)⟩
  · have h3 : ¬ e.kind = 3 := by simpa using h3
    rw [if_neg h3]
    exact ⟨rfl, hT5, hcw5⟩
end
/-- Events, counted. -/
def ofT (es : List EvD) : List Int := es.foldl addE z32
theorem ofT_len (es : List EvD) : (ofT es).length = 32 := by
  have : ∀ (l : List EvD) (t : List Int), t.length = 32 → (l.foldl addE t).length = 32 := fun l => by
    induction l with
    | nil => intro t h; exact h
    | cons e r ih => intro t h; exact ih _ (by unfold addE; rw [addT_len]; exact h)
  exact this es z32 rfl
theorem ofT_snoc (es : List EvD) (e : EvD) : ofT (es ++ [e]) = addE (ofT es) e := by unfold ofT; rw [List.foldl_append]; rfl
theorem Of_spec {w : World} {o : Option Addr} {es : List EvD} {F G : Nat → Prop} (h : Rd w o (es.map evE).flatten F) (hl : es.length ≤ 1000000) (hn : ∀ e ∈ es, Rd w e.no (e.nums.map iv) G) (hG : ∀ i, G i → i < w.heap.size) (c : Nat) :
    Calls Try.prog i_tally_Of #[.slice o es.length c] w (Ret fun v w' => v = .agg ((ofT es).map iv).toArray ∧ Ch Non w w') := by
  refine tally_Of.calls _ _ _ ?_
  unfold tally_Of.vc
  intro w1 e1 w2 e2
  have hR2 := (newz e1).alloc e2
  have hT2 := newz e2
  have hs1 : w.heap.size < w1.heap.size := (newz e1).lt
  have hs2 : w1.heap.size < w2.heap.size := hT2.lt
  have hc2 : Ch Non w w2 := (Ch.alloc e1).andN (Ch.alloc e2)
  clear e1 e2
  generalize hr : w.heap.size = rb at hR2 hs1 ⊢
  generalize ht : w1.heap.size = tb at hT2 hs1 hs2 ⊢
  refine ⟨fun i k w' => ∃ j : Nat, i = j ∧ j ≤ es.length ∧ k = es.length - j ∧ Blk w' rb (z32.map iv) 58 ∧ Blk w' tb ((ofT (es.take j)).map iv) 58 ∧ Ch Non w w' ∧ tb < w'.heap.size, ⟨_, 0, rfl, Nat.zero_le _, rfl, hR2, hT2, hc2, hs2⟩, ?_⟩
  clear hR2 hT2 hc2
  rintro jk i k w3 ⟨j, rfl, hj, rfl, hR, hT, hc, hsz⟩
  have hTl := ofT_len (es.take j)
  have hRl : z32.length = 32 := rfl
  refine ⟨fun hlt => ?_, fun hge => ?_⟩
  · have hlt : j < es.length := by have := of_decide_eq_true hlt; omega
    obtain ⟨p, hp, _, _, hcell⟩ := (h.keepN hc).elem (sz := 10) (enc := evE) (fun _ => rfl) (by omega) hlt
    have hnj := (hn _ (List.getElem_mem hlt)).keepN hc
    have hsn : ofT (es.take (j + 1)) = addE (ofT (es.take j)) es[j] := by rw [List.take_succ_eq_append_getElem hlt, ofT_snoc]
    generalize es[j] = e at hcell hnj hsn
    subst hp
    have hjj : (j : Int).toNat = j := Int.toNat_natCast j
    have h0 := hcell 0 _ rfl
    rw [add_none] at h0
    rw [hjj]
    refine ⟨⟨by omega, by omega⟩, _, _, _, _, _, _, _, _, _, _, _, _, _, _, _, _, _, _, ⟨h0, hcell 1 _ rfl, hcell 2 _ rfl, hcell 3 _ rfl, hcell 4 _ rfl, hcell 5 _ rfl, hcell 6 _ rfl, hcell 7 _ rfl, hcell 8 _ rfl, hcell 9 _ rfl⟩, fun w4 e4 => ?_⟩
    have hE4 := Blk.new e4
    refine ⟨⟨hE4.ok 0 rfl, hE4.ok 1 rfl, hE4.ok 2 rfl, hE4.ok 3 rfl, hE4.ok 4 rfl, hE4.ok 5 rfl, hE4.ok 6 rfl, hE4.ok 7 rfl, hE4.ok 8 rfl, hE4.ok 9 rfl⟩, fun w5 e5 => ?_⟩
    have e6 : w5 = w4.setCells w3.heap.size 0 (evE e) := e5
    have hE5 := hE4.all (evE e) rfl e6
    have hE5 : Blk w5 w3.heap.size (evE e) 64 := hE5
    have hc35 : Ch Non w3 w5 := (Ch.alloc (F := Non) e4).trans (Ch.sets (F := (· = w3.heap.size)) e6 rfl) (fun i hi he => by omega)
    have hs5 := hc35.size
    refine ⟨_, _, _, _, _, _, _, _, _, _, _, _, _, _, _, _, _, _, ⟨hE5.cell 0 rfl, hE5.cell 1 rfl, hE5.cell 2 rfl, hE5.cell 3 rfl, hE5.cell 4 rfl, hE5.cell 5 rfl, hE5.cell 6 rfl, hE5.cell 7 rfl, hE5.cell 8 rfl, hE5.cell 9 rfl⟩, ?_⟩
    refine step_call (add_spec (e := e) (hT.keepN hc35) hTl (hnj.keepN hc35) (fun i hi he => by have := hG i hi; omega)) ?_
    rintro v w6 ⟨rfl, hT6, hc6⟩
    rw [← hsn] at hT6
    have hs6 := hc6.size
    refine ⟨rfl, es.length - (j + 1), by omega, j + 1, by rw [wrap_id (by omega) (by omega)]; rfl, hlt, rfl, (hR.keepN hc35).keep hc6 (by omega), hT6, (hc.andN hc35).trans hc6 (fun i hi he => by omega), by omega⟩
  · have hjn : j = es.length := by have := of_decide_eq_false hge; omega
    subst hjn
    rw [List.take_length] at hT hTl
    refine ⟨_, _, _, _, _, _, _, _, _, _, _, _, _, _, _, _, _, _, _, _, _, _, _, _, _, _, _, _, _, _, _, _, ⟨cT hT 0 (by rw [hTl]; decide), cT hT 1 (by rw [hTl]; decide), cT hT 2 (by rw [hTl]; decide), cT hT 3 (by rw [hTl]; decide), cT hT 4 (by rw [hTl]; decide), cT hT 5 (by rw [hTl]; decide), cT hT 6 (by rw [hTl]; decide), cT hT 7 (by rw [hTl]; decide), cT hT 8 (by rw [hTl]; decide), cT hT 9 (by rw [hTl]; decide), cT hT 10 (by rw [hTl]; decide), cT hT 11 (by rw [hTl]; decide), cT hT 12 (by rw [hTl]; decide), cT hT 13 (by rw [hTl]; decide), cT hT 14 (by rw [hTl]; decide), cT hT 15 (by rw [hTl]; decide), cT hT 16 (by rw [hTl]; decide), cT hT 17 (by rw [hTl]; decide), cT hT 18 (by rw [hTl]; decide), cT hT 19 (by rw [hTl]; decide), cT hT 20 (by rw [hTl]; decide), cT hT 21 (by rw [hTl]; decide), cT hT 22 (by rw [hTl]; decide), cT hT 23 (by rw [hTl]; decide), cT hT 24 (by rw [hTl]; decide), cT hT 25 (by rw [hTl]; decide), cT hT 26 (by rw [hTl]; decide), cT hT 27 (by rw [hTl]; decide), cT hT 28 (by rw [hTl]; decide), cT hT 29 (by rw [hTl]; decide), cT hT 30 (by rw [hTl]; decide), cT hT 31 (by rw [hTl]; decide)⟩, ⟨okT hR 0 (by rw [hRl]; decide), okT hR 1 (by rw [hRl]; decide), okT hR 2 (by rw [hRl]; decide), okT hR 3 (by rw [hRl]; decide), okT hR 4 (by rw [hRl]; decide), okT hR 5 (by rw [hRl]; decide), okT hR 6 (by rw [hRl]; decide), okT hR 7 (by rw [hRl]; decide), okT hR 8 (by rw [hRl]; decide), okT hR 9 (by rw [hRl]; decide), okT hR 10 (by rw [hRl]; decide), okT hR 11 (by rw [hRl]; decide), okT hR 12 (by rw [hRl]; decide), okT hR 13 (by rw [hRl]; decide), okT hR 14 (by rw [hRl]; decide), okT hR 15 (by rw [hRl]; decide), okT hR 16 (by rw [hRl]; decide), okT hR 17 (by rw [hRl]; decide), okT hR 18 (by rw [hRl]; decide), okT hR 19 (by rw [hRl]; decide), okT hR 20 (by rw [hRl]; decide), okT hR 21 (by rw [hRl]; decide), okT hR 22 (by rw [hRl]; decide), okT hR 23 (by rw [hRl]; decide), okT hR 24 (by rw [hRl]; decide), okT hR 25 (by rw [hRl]; decide), okT hR 26 (by rw [hRl]; decide), okT hR 27 (by rw [hRl]; decide), okT hR 28 (by rw [hRl]; decide), okT hR 29 (by rw [hRl]; decide), okT hR 30 (by rw [hRl]; decide), okT hR 31 (by rw [hRl]; decide)⟩, fun wr er => ?_⟩
    obtain ⟨hRt, hcr⟩ := sets32 hR hRl hTl er
    refine ⟨_, _, _, _, _, _, _, _, _, _, _, _, _, _, _, _, _, _, _, _, _, _, _, _, _, _, _, _, _, _, _, _, ⟨cT hRt 0 (by rw [hTl]; decide), cT hRt 1 (by rw [hTl]; decide), cT hRt 2 (by rw [hTl]; decide), cT hRt 3 (by rw [hTl]; decide), cT hRt 4 (by rw [hTl]; decide), cT hRt 5 (by rw [hTl]; decide), cT hRt 6 (by rw [hTl]; decide), cT hRt 7 (by rw [hTl]; decide), cT hRt 8 (by rw [hTl]; decide), cT hRt 9 (by rw [hTl]; decide), cT hRt 10 (by rw [hTl]; decide), cT hRt 11 (by rw [hTl]; decide), cT hRt 12 (by rw [hTl]; decide), cT hRt 13 (by rw [hTl]; decide), cT hRt 14 (by rw [hTl]; decide), cT hRt 15 (by rw [hTl]; decide), cT hRt 16 (by rw [hTl]; decide), cT hRt 17 (by rw [hTl]; decide), cT hRt 18 (by rw [hTl]; decide), cT hRt 19 (by rw [hTl]; decide), cT hRt 20 (by rw [hTl]; decide), cT hRt 21 (by rw [hTl]; decide), cT hRt 22 (by rw [hTl]; decide), cT hRt 23 (by rw [hTl]; decide), cT hRt 24 (by rw [hTl]; decide), cT hRt 25 (by rw [hTl]; decide), cT hRt 26 (by rw [hTl]; decide), cT hRt 27 (by rw [hTl]; decide), cT hRt 28 (by rw [hTl]; decide), cT hRt 29 (by rw [hTl]; decide), cT hRt 30 (by rw [hTl]; decide), cT hRt 31 (by rw [hTl]; decide)⟩, ?_⟩
    rw [agg32 hTl]
    exact ⟨rfl, hc.trans hcr (fun i hi he => by omega)⟩
end Go.Proofs.Ytddgcdlljkooiaa.Tally
