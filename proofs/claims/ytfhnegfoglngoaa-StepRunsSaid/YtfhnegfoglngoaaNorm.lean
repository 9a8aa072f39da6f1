/- For all rows of whole numbers: what layer 13's functions answer, and the document's; the conditions stand in each theorem. -/
import Derived.Test.YtfhnegfoglngoaaNumE
import Derived.Test.YtfhnegfoglngoaaNumQ
import Derived.Test.YtfhnegfoglngoaaNumR
import Derived.Test.YtfhnegfoglngoaaNormInts
set_option linter.unusedVariables false
set_option linter.unusedSimpArgs false
namespace Go.Proofs.Ytfhnegfoglngoaa.Norm
open Go Go.Proofs Go.Proofs.Ytfhnegfoglngoaa.V Go.Proofs.Ytfhnegfoglngoaa.Vc Go.Proofs.Ytfhnegfoglngoaa.Num Go.RowKit

/-- The squares of a row. -/
def sqs (xs : List Int) : List Int := xs.map fun x => sat x * sat x
theorem sq_le (x : Int) : 0 ≤ sat x * sat x ∧ sat x * sat x ≤ 1073676289 := by
  have h := sat_le x
  refine ⟨?_, (mul_le_of (m := 32767) (n := 32767) (by omega) h h).2⟩
  rcases Int.le_total 0 (sat x) with h | h
  · exact Int.mul_nonneg h h
  · exact Int.mul_nonneg_of_nonpos_of_nonpos h h
theorem sqs_sum {xs : List Int} (hl : xs.length ≤ 1000000) : sumC (sqs xs) = (sqs xs).sum ∧ 0 ≤ (sqs xs).sum ∧ (sqs xs).sum ≤ 1073741824 * xs.length := by
  have h := sumC_sum (b := 1073741824) (by omega) (sqs xs) (fun x hx => by
    unfold sqs at hx
    obtain ⟨y, _, rfl⟩ := List.mem_map.1 hx
    have := sq_le y; omega) (by simp [sqs]; omega) (by omega)
  have h0 : 0 ≤ (sqs xs).sum := by
    have : ∀ l : List Int, (∀ x ∈ l, 0 ≤ x) → 0 ≤ l.sum := fun l => by
      induction l with
      | nil => intro _; simp
      | cons x r ih => intro h; rw [List.sum_cons]; have := h x (by simp); have := ih (fun y hy => h y (by simp [hy])); omega
    exact this _ (fun x hx => by
      unfold sqs at hx
      obtain ⟨y, _, rfl⟩ := List.mem_map.1 hx
      exact (sq_le y).1)
  have hlen : (sqs xs).length = xs.length := by simp [sqs]
  rw [hlen] at h
  exact ⟨h.1, h0, h.2.2⟩
theorem div_nn {a b : Int} (ha : 0 ≤ a) (hb : 0 ≤ b) : div a b = a / b := by
  unfold div
  by_cases h : b = 0
  · subst h; simp
  · rw [if_neg h, if_neg (by omega), Int.fdiv_eq_ediv_of_nonneg _ hb]
/-- How great the numbers of a row are. -/
def rootL (xs : List Int) : Int := root ((sqs xs).sum / xs.length) + 1
theorem rootL_le {xs : List Int} (hl : xs.length ≤ 1000000) : 1 ≤ rootL xs ∧ rootL xs ≤ 32769 := by
  obtain ⟨h1, h2, h3⟩ := sqs_sum hl
  have hm0 : 0 ≤ (sqs xs).sum / xs.length := Int.ediv_nonneg h2 (by omega)
  have hm : (sqs xs).sum / xs.length ≤ 1073741824 := by
    by_cases h : (xs.length : Int) = 0
    · rw [h]; simp
    · have h4 := Int.ediv_mul_le (sqs xs).sum h
      apply Int.le_of_not_gt; intro hh
      have := Int.mul_le_mul_of_nonneg_right (show (1073741825 : Int) ≤ (sqs xs).sum / xs.length by omega) (show 0 ≤ (xs.length : Int) by omega)
      omega
  obtain ⟨r0, r1, r2⟩ := root_spec hm0
  unfold rootL
  refine ⟨by omega, ?_⟩
  apply Int.le_of_not_gt; intro hh
  have := Int.mul_le_mul (show 32769 ≤ root ((sqs xs).sum / xs.length) by omega) (show 32769 ≤ root ((sqs xs).sum / xs.length) by omega) (by omega) r0
  omega
/-- One of them, of a row of that size. -/
def ofE (r g x : Int) : Int := sat (Int.tdiv (sat x * (64 + clamp g (-128) 127)) r)
def ofL (gs xs : List Int) : List Int := if gs.length = xs.length then List.zipWith (ofE (rootL xs)) gs xs else []
theorem ofL_len {gs xs : List Int} (h : gs.length = xs.length) : (ofL gs xs).length = xs.length := by unfold ofL; rw [if_pos h]; simp [h]
theorem ofL_at {gs xs : List Int} (h : gs.length = xs.length) {j : Nat} (hj : j < xs.length) : (ofL gs xs)[j]'(by rw [ofL_len h]; exact hj) = ofE (rootL xs) (gs[j]'(by omega)) xs[j] := by
  unfold ofL; simp [h]
theorem ofE_wrap {r g x : Int} : IntKind.i64.wrap (Int.tdiv (IntKind.i64.wrap (sat x * IntKind.i64.wrap (64 + clamp g (-128) 127))) r) = Int.tdiv (sat x * (64 + clamp g (-128) 127)) r := by
  have hs := sat_le x
  have hg := clamp_le (x := g) (low := -128) (high := 127) (by omega)
  rw [wrap_id (x := 64 + clamp g (-128) 127) (by omega) (by omega)]
  have hp := mul_le_of (m := 32767) (n := 191) (by omega) hs (show -191 ≤ 64 + clamp g (-128) 127 ∧ 64 + clamp g (-128) 127 ≤ 191 by omega)
  generalize sat x * (64 + clamp g (-128) 127) = m at hp
  rw [wrap_id (x := m) (by omega) (by omega)]
  have hd : (Int.tdiv m r).natAbs ≤ m.natAbs := by rw [Int.natAbs_tdiv]; exact Nat.div_le_self _ _
  rw [wrap_id (by omega) (by omega)]
section
variable {w : World} {og ox : Option Addr} {cg cx : Nat} {gs xs : List Int} {F G : Nat → Prop}
theorem Root_spec (hx : Rd w ox (xs.map (.int .i64)) G) (hl : xs.length ≤ 1000000) :
    Calls Try.prog i_norm_Root #[.slice ox xs.length cx] w (Ret fun v w' => v = .int .i64 (rootL xs) ∧ Ch Non w w') := by
  refine norm_Root.calls _ _ _ ?_
  unfold norm_Root.vc
  refine ⟨fun o n c i k w' => ∃ j : Nat, i = j ∧ j ≤ xs.length ∧ k = xs.length - j ∧ n = j ∧ Own w' t_int 1 o n c ((sqs (xs.take j)).map (.int .i64)) (New w w') ∧ Ch Non w w', ⟨_, 0, rfl, Nat.zero_le _, rfl, rfl, Own.nil _ _ _ _, Ch.refl _ _⟩, ?_⟩
  rintro jk o n c i k w1 ⟨j, rfl, hj, rfl, rfl, ho, hc⟩
  refine ⟨fun hlt => ?_, fun hge => ?_⟩
  · have hlt : n < xs.length := by simpa using hlt
    refine ⟨⟨by omega, by omega⟩, (hx.keepN hc).at (j := (n : Int).toNat * 1) (v := .int .i64 xs[n]) (by simp [hlt]) fun p hp => ⟨xs[n], hp, ?_⟩⟩
    refine step_call (Sat_spec w1 _) ?_
    rintro v w2 ⟨rfl, rfl⟩
    refine ⟨_, rfl, fun w3 e3 => ?_⟩
    have hq := sq_le xs[n]
    rw [wrap_id (by omega) (by omega)] at e3
    obtain ⟨o', c', w4, hr, ho4, hc4⟩ := Own.pushT el_S_int ho t_S_int _ e3 rfl (by unfold maxLen; omega) (by omega)
    have hsn : sqs (xs.take n) ++ [sat xs[n] * sat xs[n]] = sqs (xs.take (n + 1)) := by unfold sqs; rw [take_snoc xs n hlt, List.map_append]; rfl
    rw [hsn] at ho4
    refine ⟨o', n + 1, c', w4, hr, xs.length - (n + 1), by omega, n + 1, by rw [wrap_id (by omega) (by omega)]; rfl, hlt, rfl, rfl, ho4.mono (fun i _ hi => New.ext hi hc.size hc4.size), Ch.newN hc hc4⟩
  · have : n = xs.length := by simp at hge; omega
    subst this
    rw [List.take_length] at ho
    obtain ⟨s1, s2, s3⟩ := sqs_sum hl
    have hlen : (sqs xs).length = xs.length := by simp [sqs]
    have hm := Mean_spec (c := c) ho.rd (by rw [hlen]; omega)
    rw [hlen] at hm
    refine step_call hm ?_
    rintro v w2 ⟨rfl, rfl⟩
    have hd : div (sumC (sqs xs)) xs.length = (sqs xs).sum / xs.length := by rw [s1, div_nn s2 (by omega)]
    have hrt := rootL_le hl
    have hdi : inI ((sqs xs).sum / xs.length) := by
      have h1 := Int.ediv_nonneg s2 (show 0 ≤ (xs.length : Int) by omega)
      have h2 := Int.ediv_le_self (xs.length : Int) s2
      exact ⟨by omega, by omega⟩
    refine ⟨_, rfl, ?_⟩
    rw [hd]
    refine step_call (Sqrt_spec _ hdi) ?_
    rintro v w3 ⟨rfl, rfl⟩
    exact ⟨_, rfl, by rw [wrap_id (by unfold rootL at hrt; omega) (by unfold rootL at hrt; omega)]; rfl, hc⟩
theorem Of_spec (hg : Rd w og (gs.map (.int .i64)) F) (hx : Rd w ox (xs.map (.int .i64)) G) (hl : xs.length ≤ 1000000) :
    Calls Try.prog i_norm_Of #[.slice og gs.length cg, .slice ox xs.length cx] w (Ret fun v w' => ∃ (o : Option Addr) (c : Nat), v = .slice o (ofL gs xs).length c ∧ Own w' t_int 1 o (ofL gs xs).length c ((ofL gs xs).map (.int .i64)) (New w w') ∧ Ch Non w w') := by
  refine norm_Of.calls _ _ _ _ _ _ ?_
  unfold norm_Of.vc
  refine ⟨fun h => ?_, fun h => ?_⟩
  · have h : gs.length ≠ xs.length := by simp at h; omega
    have : ofL gs xs = [] := by unfold ofL; rw [if_neg h]
    rw [this]
    exact ⟨none, 0, rfl, Own.nil _ _ _ _, Ch.refl _ _⟩
  have h : gs.length = xs.length := by simp at h; omega
  have hpl := ofL_len h
  have hrt := rootL_le hl
  refine step_call (Root_spec hx hl) ?_
  rintro v w0 ⟨rfl, hc0⟩
  refine ⟨_, rfl, fun o n c i k w' => ∃ j : Nat, i = j ∧ j ≤ xs.length ∧ k = xs.length - j ∧ n = j ∧ Own w' t_int 1 o n c (((ofL gs xs).take j).map (.int .i64)) (New w w') ∧ Ch Non w w', ⟨_, 0, rfl, Nat.zero_le _, rfl, rfl, Own.nil _ _ _ _, hc0⟩, ?_⟩
  clear hc0
  rintro jk o n c i k w1 ⟨j, rfl, hj, rfl, rfl, ho, hc⟩
  refine ⟨fun hlt => ?_, fun hge => ?_⟩
  · have hlt : n < xs.length := by simpa using hlt
    refine ⟨⟨by omega, by omega⟩, (hx.keepN hc).at (j := (n : Int).toNat * 1) (v := .int .i64 xs[n]) (by simp [hlt]) fun p hp => ⟨xs[n], hp, ⟨by omega, by omega⟩, (hg.keepN hc).at (j := (n : Int).toNat * 1) (v := .int .i64 (gs[n]'(by omega))) (by simp [show n < gs.length by omega]) fun p2 hp2 => ⟨gs[n]'(by omega), hp2, ?_⟩⟩⟩
    refine step_call (Clamp_spec w1 _ _ _) ?_
    rintro v w2 ⟨rfl, rfl⟩
    refine ⟨_, rfl, ?_⟩
    refine step_call (Sat_spec _ _) ?_
    rintro v w3 ⟨rfl, rfl⟩
    refine ⟨_, rfl, by omega, ?_⟩
    refine step_call (Sat_spec _ _) ?_
    rintro v w4 ⟨rfl, rfl⟩
    refine ⟨_, rfl, fun w5 e5 => ?_⟩
    rw [ofE_wrap] at e5
    have hv : sat (Int.tdiv (sat xs[n] * (64 + clamp (gs[n]'(by omega)) (-128) 127)) (rootL xs)) = (ofL gs xs)[n]'(by omega) := (ofL_at h hlt).symm
    rw [hv] at e5
    obtain ⟨o', c', w6, hr, ho6, hc6⟩ := Own.pushT el_S_int ho t_S_int _ e5 rfl (by unfold maxLen; omega) (by omega)
    rw [← List.take_succ_eq_append_getElem (by omega)] at ho6
    exact ⟨o', n + 1, c', w6, hr, xs.length - (n + 1), by omega, n + 1, by rw [wrap_id (by omega) (by omega)]; rfl, hlt, rfl, rfl, ho6.mono (fun i _ hi => New.ext hi hc.size hc6.size), Ch.newN hc hc6⟩
  · have : n = xs.length := by simp at hge; omega
    subst this
    rw [← hpl, List.take_length] at ho
    exact ⟨o, c, by rw [hpl], ho, hc⟩
/-- A row of nothing but zeros that has just been laid. -/
theorem zeros_own {w1 : World} {n : Nat} (e1 : w1 = w.alloc (.cells (zeroRow [(.int .i64 0)] (n : Int).toNat).toArray t_int (0, 0))) (hn : n ≤ 1000000) :
    Own w1 t_int 1 (some ⟨w.heap.size, 0, none⟩) n n ((List.replicate n (0 : Int)).map (.int .i64)) (New w w1) := by
  rw [zeroRow_one] at e1
  have h := Own.made (e := t_int) (sz := 1) (n := n) (F := New w w1) e1 (by simp) (by unfold maxLen; omega) ⟨Nat.le_refl _, (Blk.new e1).lt⟩
  simpa using h
end
end Go.Proofs.Ytfhnegfoglngoaa.Norm
