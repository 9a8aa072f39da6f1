/- For all tables, rows of whole numbers and bytes: what layer 11's functions answer, and the document's; the conditions stand in each theorem. -/
import Derived.Test.YtfhnegfoglngoaaVecs
set_option linter.unusedVariables false
set_option linter.unusedSimpArgs false
namespace Go.Proofs.Ytfhnegfoglngoaa.Vecs
open Go Go.Proofs Go.Proofs.Ytfhnegfoglngoaa.V Go.Proofs.Ytfhnegfoglngoaa.Vc Go.Proofs.Ytfhnegfoglngoaa.Num Go.RowKit

section
variable {w : World} {r c : Int} {o : Option Addr} {n cap : Nat} {ds vs xs ys : List Int} {F G : Nat → Prop} {ov oa ob : Option Addr} {cv ca cb : Nat}
theorem Row_spec (hd : Rd w o (ds.map (.int .i8)) F) (hcap : ds.length ≤ cap) (h8 : ∀ x ∈ ds, -128 ≤ x ∧ x ≤ 127) (hl : ds.length ≤ 1000000) (r c at' : Int) :
    Calls Try.prog i_vecs_Table_Row #[.agg #[.int .i64 r, .int .i64 c, .slice o ds.length cap], .int .i64 at'] w (Ret fun v w' => ∃ (A : Option Addr) (C : Nat), v = .slice A (rowT ds r c at').length C ∧ Gr Non w w' t_int 1 A (rowT ds r c at').length C ((rowT ds r c at').map (.int .i64))) := by
  refine vecs_Table_Row.calls _ _ _ _ _ _ ?_
  unfold vecs_Table_Row.vc
  intro w1 e1
  have hB1 := Blk.new e1
  have hC1 : Ch Non w w1 := Ch.alloc e1
  refine ⟨_, _, _, _, _, ⟨hB1.cell 0 rfl, hB1.cell 1 rfl, hB1.cell 2 rfl⟩, ?_⟩
  refine step_call (Good_spec w1 r c o ds.length cap) ?_
  rintro v w2 ⟨rfl, hC2⟩
  have hB2 := hB1.keepN hC2
  have hC2 := hC1.andN hC2
  have no : (goodB r c ds.length && decide (0 ≤ at' ∧ at' < r)) = false → ∃ (A : Option Addr) (C : Nat), Value.slice none 0 0 = Value.slice A (rowT ds r c at').length C ∧ Gr Non w w2 t_int 1 A (rowT ds r c at').length C ((rowT ds r c at').map (.int .i64)) := fun h => by
    unfold rowT; rw [h]; exact ⟨none, 0, rfl, Gr.nil hC2⟩
  refine ⟨_, rfl, fun hb => no (by rw [show goodB r c ds.length = false by simpa using hb]; rfl), fun hb => ?_⟩
  have hb : goodB r c ds.length = true := by simpa using hb
  refine ⟨fun h => no (by rw [hb, decide_eq_false (by have := of_decide_eq_true h; omega)]; rfl), fun h1 => ⟨_, hB2.cell 0 rfl, fun h => no (by rw [hb, decide_eq_false (by have := of_decide_eq_true h; omega)]; rfl), fun h2 => ?_⟩⟩
  have h1 := of_decide_eq_false h1
  have h2 := of_decide_eq_false h2
  obtain ⟨R, C, rfl, rfl, r1, r2, c1, c2, hn⟩ := goodB_nat hb
  obtain ⟨i, rfl⟩ : ∃ i : Nat, at' = i := ⟨at'.toNat, by omega⟩
  have hi : i < R := by omega
  have hle : (i + 1) * C ≤ R * C := Nat.mul_le_mul_right _ hi
  have hRC : R * C ≤ 64 * 64 := Nat.mul_le_mul r2 c2
  have hsu : (i + 1) * C = i * C + C := Nat.succ_mul i C
  have e1' : IntKind.i64.wrap ((i : Int) * (C : Int)) = ((i * C : Nat) : Int) := by rw [← Int.natCast_mul, wrap_id (by omega) (by omega)]
  have e2' : IntKind.i64.wrap (IntKind.i64.wrap ((i : Int) + 1) * (C : Int)) = (((i + 1) * C : Nat) : Int) := by
    rw [wrap_id (x := (i : Int) + 1) (by omega) (by omega), show ((i : Int) + 1) = ((i + 1 : Nat) : Int) by omega, ← Int.natCast_mul, wrap_id (by omega) (by omega)]
  refine ⟨_, _, _, hB2.cell 2 rfl, _, hB2.cell 1 rfl, _, hB2.cell 1 rfl, ?_⟩
  rw [e1', e2', Int.toNat_natCast, Int.toNat_natCast, show (i + 1) * C - i * C = C by omega]
  have hrow : rowT ds (R : Int) (C : Int) (i : Int) = rowAt ds C i := by
    unfold rowT; rw [hb, decide_eq_true (by omega)]; rfl
  rw [hrow]
  have hrl : (rowAt ds C i).length = C := rowAt_len hn hi
  have hs : Rd w (if cap = i * C then o else o.map (·.add (i * C * 1))) ((rowAt ds C i).map (.int .i8)) F := by
    have := hd.slice (c := cap) (sz := 1) (by simpa using hcap) (i * C) C
    rw [Nat.mul_one, Nat.mul_one, ← List.map_drop, ← List.map_take] at this
    rw [Nat.mul_one]; exact this
  have hmem : ∀ x ∈ rowAt ds C i, -128 ≤ x ∧ x ≤ 127 := fun x hx => h8 x (List.mem_of_mem_drop (List.mem_of_mem_take hx))
  generalize rowAt ds C i = L at hrl hs hmem ⊢
  refine ⟨⟨by omega, by omega, by omega⟩, fun A j CC k x w' => k = j ∧ j ≤ L.length ∧ x = L.length - j ∧ Gr Non w w' t_int 1 A j CC ((L.take j).map (.int .i64)), ⟨_, rfl, Nat.zero_le _, rfl, Gr.nil hC2⟩, ?_⟩
  rintro jk A j CC k x w3 ⟨rfl, hj, rfl, hg⟩
  refine ⟨fun hlt => ?_, fun hge => ?_⟩
  · have hlt : j < L.length := by simp at hlt; omega
    have hm := hmem _ (List.getElem_mem hlt)
    refine ⟨⟨by omega, by omega⟩, (hs.keepN hg.2).at (j := (j : Int).toNat * 1) (v := .int .i8 L[j]) (by simp [hlt]) fun p hp => ⟨_, hp, fun w4 e4 => ?_⟩⟩
    rw [wrap_id (by omega) (by omega)] at e4
    obtain ⟨A', C', w5, hr, hg5, _⟩ := hg.next el_S_int t_S_int hlt (by omega) e4 rfl rfl (by omega)
    exact ⟨A', _, C', w5, hr, L.length - (j + 1), by omega, by rw [wrap_id (by omega) (by omega)]; rfl, hlt, rfl, hg5⟩
  · have : j = L.length := by simp at hge; omega
    subst this
    rw [List.take_length] at hg
    exact ⟨A, CC, rfl, hg⟩
/-- A table times a row. -/
def timesL (ds : List Int) (R C : Nat) (vs : List Int) (s : Int) : List Int := (List.range R).map fun i => sat (shift (dotC (rowAt ds C i) vs) s)
def timesOk (ds : List Int) (r c : Int) (vs : List Int) : Bool := goodB r c ds.length && decide ((vs.length : Int) = c)
def timesT (ds : List Int) (r c : Int) (vs : List Int) (s : Int) : List Int := if timesOk ds r c vs then timesL ds r.toNat c.toNat vs s else []
theorem dot_in (xs ys : List Int) : inI (dotC xs ys) := by have := dotC_le xs ys; exact ⟨by omega, by omega⟩
theorem Times_spec (hd : Rd w o (ds.map (.int .i8)) F) (hcap : ds.length ≤ cap) (h8 : ∀ x ∈ ds, -128 ≤ x ∧ x ≤ 127) (hl : ds.length ≤ 1000000) (hv : Rd w ov (vs.map (.int .i64)) G) (r c s : Int) :
    Calls Try.prog i_vecs_Table_Times #[.agg #[.int .i64 r, .int .i64 c, .slice o ds.length cap], .slice ov vs.length cv, .int .i64 s] w (Ret fun v w' => ∃ (A : Option Addr) (C : Nat), v = .tuple #[.slice A (timesT ds r c vs s).length C, .int .i64 (if timesOk ds r c vs then 0 else 1)] ∧ Gr Non w w' t_int 1 A (timesT ds r c vs s).length C ((timesT ds r c vs s).map (.int .i64))) := by
  refine vecs_Table_Times.calls _ _ _ _ _ _ _ _ _ ?_
  unfold vecs_Table_Times.vc
  intro w1 e1
  have hB1 := Blk.new e1
  have hC1 : Ch Non w w1 := Ch.alloc e1
  refine ⟨_, _, _, _, _, ⟨hB1.cell 0 rfl, hB1.cell 1 rfl, hB1.cell 2 rfl⟩, ?_⟩
  refine step_call (Good_spec w1 r c o ds.length cap) ?_
  rintro v w2 ⟨rfl, hC2⟩
  have hB2 := hB1.keepN hC2
  have hC2 := hC1.andN hC2
  have no : timesOk ds r c vs = false → ∃ (A : Option Addr) (C : Nat), Value.tuple #[Value.slice none 0 0, .int .i64 1] = .tuple #[.slice A (timesT ds r c vs s).length C, .int .i64 (if timesOk ds r c vs then 0 else 1)] ∧ Gr Non w w2 t_int 1 A (timesT ds r c vs s).length C ((timesT ds r c vs s).map (.int .i64)) := fun h => by
    unfold timesT; rw [h]; exact ⟨none, 0, rfl, Gr.nil hC2⟩
  refine ⟨_, rfl, fun hb => no (by unfold timesOk; rw [show goodB r c ds.length = false by simpa using hb]; rfl), fun hb => ⟨_, hB2.cell 1 rfl, fun h => no (by unfold timesOk; rw [decide_eq_false (by simpa using h), Bool.and_false]), fun h2 => ⟨_, hB2.cell 0 rfl, ?_⟩⟩⟩
  have hb : goodB r c ds.length = true := by simpa using hb
  have hok : timesOk ds r c vs = true := by unfold timesOk; rw [hb, decide_eq_true (by simpa using h2)]; rfl
  have hT : timesT ds r c vs s = timesL ds r.toNat c.toNat vs s := by unfold timesT; rw [hok]; rfl
  rw [hok, hT]
  have hgb := hb
  obtain ⟨R, C, rfl, rfl, r1, r2, c1, c2, hn⟩ := goodB_nat hb
  simp only [Int.toNat_natCast]
  have hL : (timesL ds R C vs s).length = R := by simp [timesL]
  have hLi : ∀ (j : Nat) (h : j < (timesL ds R C vs s).length), (timesL ds R C vs s)[j] = sat (shift (dotC (rowT ds R C j) vs) s) := fun j h => by
    have : rowT ds (R : Int) (C : Int) (j : Int) = rowAt ds C j := by
      unfold rowT; rw [hgb, decide_eq_true (by omega)]; rfl
    rw [this]; simp [timesL]
  generalize timesL ds R C vs s = L at hL hLi ⊢
  refine ⟨fun A j CC k x w' => k = j ∧ j ≤ L.length ∧ x = L.length - j ∧ Gr Non w2 w' t_int 1 A j CC ((L.take j).map (.int .i64)), ⟨_, rfl, Nat.zero_le _, rfl, Gr.nil (Ch.refl _ _)⟩, ?_⟩
  rintro jk A j CC k x w3 ⟨rfl, hj, rfl, hg⟩
  refine ⟨fun hlt => ?_, fun hge => ?_⟩
  · have hlt : j < L.length := by simp at hlt; omega
    have hB3 := hB2.keepN hg.2
    have hC3 := hC2.andN hg.2
    refine ⟨_, _, _, _, _, ⟨hB3.cell 0 rfl, hB3.cell 1 rfl, hB3.cell 2 rfl⟩, ?_⟩
    refine step_call (Row_spec (hd.keepN hC3) hcap h8 hl R C j) ?_
    rintro v w4 ⟨A4, C4, rfl, hg4⟩
    refine ⟨_, _, _, rfl, ?_⟩
    have hC4 := hC3.andN hg4.2
    refine step_call (Dot_spec (xs := rowT ds R C j) (ys := vs) hg4.rd (hv.keepN hC4) ?_) ?_
    · unfold rowT; split
      · unfold rowAt; simp; omega
      · simp
    rintro v w5 ⟨rfl, hc5⟩
    refine ⟨_, rfl, ?_⟩
    refine step_call (Shift_spec w5 (dot_in _ _) s) ?_
    rintro v w6 ⟨rfl, hc6⟩
    refine ⟨_, rfl, ?_⟩
    refine step_call (Sat_spec w6 _) ?_
    rintro v w7 ⟨rfl, rfl⟩
    refine ⟨_, rfl, fun w8 e8 => ?_⟩
    rw [← hLi j hlt] at e8
    obtain ⟨A', C', w9, hr, hg9, _⟩ := (((hg.keepN hg4.2).keepN hc5).keepN hc6).next el_S_int t_S_int hlt (by omega) e8 rfl rfl (by omega)
    exact ⟨A', _, C', w9, hr, L.length - (j + 1), by omega, by rw [wrap_id (by omega) (by omega)]; rfl, hlt, rfl, hg9⟩
  · have : j = L.length := by simp at hge; omega
    subst this
    rw [List.take_length] at hg
    exact ⟨A, CC, rfl, hg.1.mono (fun i _ hN => ⟨Nat.le_trans hC2.size hN.1, hN.2⟩), hC2.andN hg.2⟩
end
end Go.Proofs.Ytfhnegfoglngoaa.Vecs
