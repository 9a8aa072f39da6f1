/- For all whole numbers and rows of them: what layer 14's functions answer, and the document's; the conditions stand in each theorem. -/
import Derived.Test.YtfhnegfoglngoaaNumD
import Derived.Test.YtfhnegfoglngoaaNumR
import Derived.Test.YtfhnegfoglngoaaNumS
import Derived.Test.YtfhnegfoglngoaaVcAct
set_option linter.unusedVariables false
set_option linter.unusedSimpArgs false
namespace Go.Proofs.Ytfhnegfoglngoaa.Act
open Go Go.Proofs Go.Proofs.Ytfhnegfoglngoaa.V Go.Proofs.Ytfhnegfoglngoaa.Vc Go.Proofs.Ytfhnegfoglngoaa.Num Go.RowKit

def tbl : List Int := [5, 8, 12, 19, 31, 47, 69, 97, 128, 159, 187, 209, 225, 237, 244, 248, 251]
theorem tbl_len : tbl.length = 17 := rfl
theorem table_spec (w : World) : Calls Try.prog i_act_table #[] w (Ret fun v w' => v = .agg ((tbl.map (.int .i64)).toArray) ∧ Ch Non w w') := by
  refine act_table.calls ?_
  unfold act_table.vc
  intro w1 e1
  have hb := Blk.new e1
  refine ⟨⟨hb.ok 0 rfl, hb.ok 1 rfl, hb.ok 2 rfl, hb.ok 3 rfl, hb.ok 4 rfl, hb.ok 5 rfl, hb.ok 6 rfl, hb.ok 7 rfl, hb.ok 8 rfl, hb.ok 9 rfl, hb.ok 10 rfl, hb.ok 11 rfl, hb.ok 12 rfl, hb.ok 13 rfl, hb.ok 14 rfl, hb.ok 15 rfl, hb.ok 16 rfl⟩, fun w2 e2 => ?_⟩
  have hc : Blk w2 w.heap.size (tbl.map (.int .i64)) _ := hb.all (tbl.map (.int .i64)) rfl e2
  have hch : Ch Non w w2 := (Ch.alloc (F := (· = w.heap.size)) e1).same (Ch.sets (vs := tbl.map (.int .i64)) e2 rfl) |>.below (Nat.le_refl _) (fun i hi h => by omega) |> Ch.of_below
  exact ⟨_, _, _, _, _, _, _, _, _, _, _, _, _, _, _, _, _, ⟨hc.cell 0 rfl, hc.cell 1 rfl, hc.cell 2 rfl, hc.cell 3 rfl, hc.cell 4 rfl, hc.cell 5 rfl, hc.cell 6 rfl, hc.cell 7 rfl, hc.cell 8 rfl, hc.cell 9 rfl, hc.cell 10 rfl, hc.cell 11 rfl, hc.cell 12 rfl, hc.cell 13 rfl, hc.cell 14 rfl, hc.cell 15 rfl, hc.cell 16 rfl⟩, rfl, hch⟩
/-- A place in the table. -/
def place (n : Int) : Int := clamp (div n 32) (-8) 8 + 8
theorem place_le (n : Int) : 0 ≤ place n ∧ place n < 17 := by
  unfold place; have := clamp_le (x := div n 32) (low := -8) (high := 8) (by omega); omega
def gate (n : Int) : Int := tbl.getD (place n).toNat 0
theorem gate_at {n : Int} {k : Nat} (h : place n = k) (hk : k < tbl.length) : tbl[k] = gate n := by
  unfold gate; rw [h]; simp [List.getD, List.getElem?_eq_getElem hk]
theorem div32 (n : Int) : div n 32 = n / 32 := by
  unfold div; rw [if_neg (by omega), if_neg (by omega), Int.fdiv_eq_ediv_of_nonneg _ (by omega)]
/-- What a block that is new has at a place. -/
theorem tbl_cell {w : World} {b T : Nat} (h : Blk w b (tbl.map (.int .i64)) T) {n k : Int} (hk : k = place n) : ∃ x : Int, x = gate n ∧ w.cell? ((⟨b, 0, none⟩ : Addr).add (k.toNat * 1)) = some (.int .i64 x) := by
  subst hk
  have hp := place_le n
  refine ⟨_, rfl, ?_⟩
  have hl : (place n).toNat < tbl.length := by show (place n).toNat < 17; omega
  have hg := gate_at (n := n) (k := (place n).toNat) (by omega) hl
  rw [add_at, ← hg]
  exact h.cell _ (by rw [List.getElem?_map, List.getElem?_eq_getElem (by omega)]; simp)
theorem Gate_spec (w : World) {n : Int} (hn : inI n) : Calls Try.prog i_act_Gate #[.int .i64 n] w (Ret fun v w' => v = .int .i64 (gate n) ∧ Ch Non w w') := by
  refine act_Gate.calls _ ?_
  unfold act_Gate.vc
  refine step_call (table_spec w) ?_
  rintro v w1 ⟨rfl, hc1⟩
  refine ⟨_, _, _, _, _, _, _, _, _, _, _, _, _, _, _, _, _, rfl, fun w2 e2 => ?_⟩
  have hb := Blk.new e2
  refine ⟨⟨hb.ok 0 rfl, hb.ok 1 rfl, hb.ok 2 rfl, hb.ok 3 rfl, hb.ok 4 rfl, hb.ok 5 rfl, hb.ok 6 rfl, hb.ok 7 rfl, hb.ok 8 rfl, hb.ok 9 rfl, hb.ok 10 rfl, hb.ok 11 rfl, hb.ok 12 rfl, hb.ok 13 rfl, hb.ok 14 rfl, hb.ok 15 rfl, hb.ok 16 rfl⟩, fun w3 e3 => ?_⟩
  have hb3 : Blk w3 w1.heap.size (tbl.map (.int .i64)) _ := hb.all (tbl.map (.int .i64)) rfl e3
  have hch : Ch Non w1 w3 := (Ch.alloc (F := (· = w1.heap.size)) e2).same (Ch.sets (vs := tbl.map (.int .i64)) e3 rfl) |>.below (Nat.le_refl _) (fun i hi h => by omega) |> Ch.of_below
  refine step_call (Div_spec w3 hn 32) ?_
  rintro v w4 ⟨rfl, rfl⟩
  refine ⟨_, rfl, ?_⟩
  refine step_call (Clamp_spec _ _ _ _) ?_
  rintro v w5 ⟨rfl, rfl⟩
  have hp := place_le n
  have hw : IntKind.i64.wrap (clamp (div n 32) (-8) 8 + 8) = place n := wrap_id (by show _ ≤ place n; omega) (by show place n ≤ _; omega)
  refine ⟨_, rfl, ?_, ?_⟩
  · rw [hw]; exact hp
  · obtain ⟨x, hx, hcell⟩ := tbl_cell hb3 hw
    exact ⟨x, hcell, by rw [hx], hc1.andN hch⟩
/-- A number through a gate. -/
def thr (g n : Int) : Int := mul n (gate g) 8
/-- A row through another one's gates. -/
def pairsL (gs xs : List Int) : List Int := if gs.length = xs.length then List.zipWith thr gs xs else []
theorem pairsL_len {gs xs : List Int} (h : gs.length = xs.length) : (pairsL gs xs).length = xs.length := by unfold pairsL; rw [if_pos h]; simp [h]
theorem pairsL_at {gs xs : List Int} (h : gs.length = xs.length) {j : Nat} (hj : j < xs.length) : (pairsL gs xs)[j]'(by rw [pairsL_len h]; exact hj) = thr (gs[j]'(by omega)) xs[j] := by
  unfold pairsL; simp [h]
section
variable {w : World} {og ox : Option Addr} {cg cx : Nat} {gs xs : List Int} {F G : Nat → Prop}
theorem Pairs_spec (hg : Rd w og (gs.map (.int .i64)) F) (hx : Rd w ox (xs.map (.int .i64)) G) (ig : ∀ x ∈ gs, inI x) (hl : xs.length ≤ 1000000) :
    Calls Try.prog i_act_Pairs #[.slice og gs.length cg, .slice ox xs.length cx] w (Ret fun v w' => ∃ (o : Option Addr) (c : Nat), v = .slice o (pairsL gs xs).length c ∧ Own w' t_int 1 o (pairsL gs xs).length c ((pairsL gs xs).map (.int .i64)) (New w w') ∧ Ch Non w w') := by
  refine act_Pairs.calls _ _ _ _ _ _ ?_
  unfold act_Pairs.vc
  refine ⟨fun h => ?_, fun h => ?_⟩
  · have h : gs.length ≠ xs.length := by simp at h; omega
    have : pairsL gs xs = [] := by unfold pairsL; rw [if_neg h]
    rw [this]
    exact ⟨none, 0, rfl, Own.nil _ _ _ _, Ch.refl _ _⟩
  have h : gs.length = xs.length := by simp at h; omega
  have hpl := pairsL_len h
  refine ⟨fun o n c i k w' => ∃ j : Nat, i = j ∧ j ≤ xs.length ∧ k = xs.length - j ∧ n = j ∧ Own w' t_int 1 o n c (((pairsL gs xs).take j).map (.int .i64)) (New w w') ∧ Ch Non w w', ⟨_, 0, rfl, Nat.zero_le _, rfl, rfl, Own.nil _ _ _ _, Ch.refl _ _⟩, ?_⟩
  rintro jk o n c i k w1 ⟨j, rfl, hj, rfl, rfl, ho, hc⟩
  refine ⟨fun hlt => ?_, fun hge => ?_⟩
  · have hlt : n < xs.length := by simpa using hlt
    refine ⟨⟨by omega, by omega⟩, (hx.keepN hc).at (j := (n : Int).toNat * 1) (v := .int .i64 xs[n]) (by simp [hlt]) fun p hp => ⟨xs[n], hp, ⟨by omega, by omega⟩, (hg.keepN hc).at (j := (n : Int).toNat * 1) (v := .int .i64 (gs[n]'(by omega))) (by simp [show n < gs.length by omega]) fun p2 hp2 => ⟨gs[n]'(by omega), hp2, ?_⟩⟩⟩
    refine step_call (Gate_spec w1 (ig _ (List.getElem_mem _))) ?_
    rintro v w2 ⟨rfl, hc2⟩
    refine ⟨_, rfl, ?_⟩
    refine step_call (Mul_spec w2 _ _ _) ?_
    rintro v w3 ⟨rfl, hc3⟩
    refine ⟨_, rfl, fun w4 e4 => ?_⟩
    have hc13 := hc2.andN hc3
    have hv : mul xs[n] (gate (gs[n]'(by omega))) 8 = (pairsL gs xs)[n]'(by omega) := (pairsL_at h hlt).symm
    rw [hv] at e4
    obtain ⟨o', c', w5, hr, ho5, hc5⟩ := Own.pushT el_S_int (ho.keepN hc13) t_S_int _ e4 rfl (by unfold maxLen; omega) (by omega)
    rw [← List.take_succ_eq_append_getElem (by omega)] at ho5
    have hc03 := hc.andN hc13
    refine ⟨o', n + 1, c', w5, hr, xs.length - (n + 1), by omega, n + 1, by rw [wrap_id (by omega) (by omega)]; rfl, hlt, rfl, rfl, ho5.mono (fun i _ hi => ?_), ?_⟩
    · rcases hi with hi | hi
      · exact ⟨hi.1, by have := hi.2; have := hc13.size; have := hc5.size; omega⟩
      · exact ⟨by have := hi.1; have := hc03.size; omega, hi.2⟩
    · exact hc03.trans hc5 (fun i hi hN => absurd hi (Nat.not_lt.2 hN.1))
  · have : n = xs.length := by simp at hge; omega
    subst this
    rw [← hpl, List.take_length] at ho
    exact ⟨o, c, by rw [hpl], ho, hc⟩
end
end Go.Proofs.Ytfhnegfoglngoaa.Act
