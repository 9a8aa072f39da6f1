/- For all numbers and rows of whole numbers: what layer 12's Exp, Weights, Choose and Best answer, and the document's functions; the conditions stand in each theorem. -/
import Derived.Test.YtfhnegfoglngoaaNumS
import Derived.Test.YtfhnegfoglngoaaGrow
import Derived.Test.YtfhnegfoglngoaaZRows
import Derived.Test.YtfhnegfoglngoaaSoftInts
set_option linter.unusedVariables false
set_option linter.unusedSimpArgs false
namespace Go.Proofs.Ytfhnegfoglngoaa.Soft
open Go Go.Proofs Go.Proofs.Ytfhnegfoglngoaa.V Go.Proofs.Ytfhnegfoglngoaa.Vc Go.Proofs.Ytfhnegfoglngoaa.Num Go.RowKit

theorem rClamp_spec (w : World) (x low high : Int) : Calls Try.prog i_coadjutorref01_Clamp #[.int .i64 x, .int .i64 low, .int .i64 high] w (Ret fun v w' => v = .int .i64 (clamp x low high) ∧ w' = w) := by
  refine coadjutorref01_Clamp.calls _ _ _ ?_
  unfold coadjutorref01_Clamp.vc clamp
  refine ⟨fun h => ?_, fun h => ⟨fun h2 => ?_, fun h2 => ?_⟩⟩
  · rw [if_pos (by simpa using h)]; exact ⟨rfl, rfl⟩
  · rw [if_neg (by simpa using h), if_pos (by simpa using h2)]; exact ⟨rfl, rfl⟩
  · rw [if_neg (by simpa using h), if_neg (by simpa using h2)]; exact ⟨rfl, rfl⟩
def cl (x : Int) : Int := clamp x (-1073741824) 1073741824
theorem cl_le (x : Int) : -1073741824 ≤ cl x ∧ cl x ≤ 1073741824 := clamp_le (by omega)
theorem cl_mono {x y : Int} (h : x ≤ y) : cl x ≤ cl y := clamp_mono h (by omega)
theorem clamped_spec (w : World) (x : Int) : Calls Try.prog i_soft_clamped #[.int .i64 x] w (Ret fun v w' => v = .int .i64 (cl x) ∧ w' = w) := by
  refine soft_clamped.calls _ ?_
  unfold soft_clamped.vc
  refine step_call (Clamp_spec w _ _ _) ?_
  rintro v w ⟨rfl, rfl⟩
  exact ⟨_, rfl, rfl, rfl⟩
theorem rcl_spec (w : World) (x : Int) : Calls Try.prog i_coadjutorref12_Clamp #[.int .i64 x] w (Ret fun v w' => v = .int .i64 (cl x) ∧ w' = w) := by
  refine coadjutorref12_Clamp.calls _ ?_
  unfold coadjutorref12_Clamp.vc
  refine step_call (rClamp_spec w _ _ _) ?_
  rintro v w ⟨rfl, rfl⟩
  exact ⟨_, rfl, rfl, rfl⟩
/-- 65536 times two to the power of minus so many eighths. -/
def tabL : List Nat := [65536, 60097, 55109, 50535, 46341, 42495, 38968, 35734]
def tabV : List Value := tabL.map fun n : Nat => Value.int .i64 (n : Int)
def expN (d : Nat) : Nat := tabL.getD (d % 8) 0 / 2 ^ (d / 8)
def expI (d : Int) : Int := (expN d.toNat : Int)
theorem tab_le : ∀ r, r < 8 → tabL.getD r 0 ≤ 65536 := by decide
theorem tab_at {r : Nat} (h : r < 8) : tabV[r]? = some (.int .i64 ((tabL.getD r 0 : Nat) : Int)) := by
  unfold tabV
  have : r < tabL.length := h
  rw [List.getElem?_map, List.getD_eq_getElem?_getD, List.getElem?_eq_getElem this]; rfl
theorem max0 (d : Int) : (if (0 : Int) > d then (0 : Int) else d) = (d.toNat : Int) := by split <;> omega
theorem table_spec (w : World) : Calls Try.prog i_soft_table #[] w (Ret fun v w' => v = .agg tabV.toArray ∧ Ch Non w w') := by
  refine soft_table.calls ?_
  unfold soft_table.vc
  intro w1 e1
  have hB := Blk.new e1
  refine ⟨⟨hB.ok 0 rfl, hB.ok 1 rfl, hB.ok 2 rfl, hB.ok 3 rfl, hB.ok 4 rfl, hB.ok 5 rfl, hB.ok 6 rfl, hB.ok 7 rfl⟩, fun w2 e2 => ?_⟩
  have e3 : w2 = w1.setCells w.heap.size 0 tabV := e2
  have hB2 := hB.all tabV rfl e3
  have hC : Ch Non w w2 := (Ch.alloc (F := Non) e1).trans (Ch.sets (F := (· = w.heap.size)) e3 rfl) (fun i hi he => by omega)
  exact ⟨_, _, _, _, _, _, _, _, ⟨hB2.cell 0 rfl, hB2.cell 1 rfl, hB2.cell 2 rfl, hB2.cell 3 rfl, hB2.cell 4 rfl, hB2.cell 5 rfl, hB2.cell 6 rfl, hB2.cell 7 rfl⟩, rfl, hC⟩
theorem tdiv8 {n : Nat} : Int.tdiv (n : Int) 8 = ((n / 8 : Nat) : Int) := by rw [Int.tdiv_eq_ediv_of_nonneg (by omega)]; omega
theorem tmod8 {n : Nat} : Int.tmod (n : Int) 8 = ((n % 8 : Nat) : Int) := by rw [tmod_pos (by omega)]; omega
theorem Exp_spec (w : World) {d : Int} (hd : d ≤ 9223372036854775807) : Calls Try.prog i_soft_Exp #[.int .i64 d] w (Ret fun v w' => v = .int .i64 (expI d) ∧ Ch Non w w') := by
  refine soft_Exp.calls _ ?_
  unfold soft_Exp.vc
  rw [max0]
  unfold expI
  have hn : d.toNat ≤ 9223372036854775807 := by omega
  generalize d.toNat = n at hn ⊢
  refine step_call (table_spec w) ?_
  rintro v w1 ⟨rfl, hc1⟩
  refine ⟨_, _, _, _, _, _, _, _, rfl, fun w2 e2 => ?_⟩
  have hB := Blk.new e2
  refine ⟨⟨hB.ok 0 rfl, hB.ok 1 rfl, hB.ok 2 rfl, hB.ok 3 rfl, hB.ok 4 rfl, hB.ok 5 rfl, hB.ok 6 rfl, hB.ok 7 rfl⟩, fun w3 e3 => ?_⟩
  have e4 : w3 = w2.setCells w1.heap.size 0 tabV := e3
  have hB2 := hB.all tabV rfl e4
  have hC : Ch Non w1 w3 := (Ch.alloc (F := Non) e2).trans (Ch.sets (F := (· = w1.heap.size)) e4 rfl) (fun i hi he => by omega)
  rw [tmod8, tdiv8, wrap_id (by omega) (by omega), add_at, show 0 + ((n % 8 : Nat) : Int).toNat * 1 = n % 8 by omega]
  have hr : n % 8 < 8 := Nat.mod_lt _ (by omega)
  refine ⟨by decide, ⟨by omega, by omega⟩, _, hB2.cell _ (tab_at hr), by decide, by split <;> omega, ?_, hc1.andN hC⟩
  have ht := tab_le _ hr
  unfold expN
  generalize tabL.getD (n % 8) 0 = t at ht ⊢
  generalize n / 8 = q
  by_cases hq : 17 < q
  · rw [if_pos (by omega)]
    have h1 : t / 2 ^ q = 0 := Nat.div_eq_of_lt (Nat.lt_of_le_of_lt ht (Nat.lt_of_lt_of_le (show 65536 < 2 ^ 17 by decide) (Nat.pow_le_pow_right (by omega) (by omega))))
    rw [h1]
    have h2 : min (17 : Int).toNat IntKind.i64.bits = 17 := by decide
    rw [h2, Int.fdiv_eq_ediv_of_nonneg _ (by decide)]
    have : (t : Int) / 2 ^ 17 = 0 := Int.ediv_eq_zero_of_lt (by omega) (by omega)
    rw [this]; rfl
  · rw [if_neg (by omega)]
    have h2 : min ((q : Int).toNat) IntKind.i64.bits = q := by show min ((q : Int).toNat) 64 = q; omega
    rw [h2, Int.fdiv_eq_ediv_of_nonneg _ (Int.le_of_lt (Int.pow_pos (by omega)))]
    congr 1
theorem rExp_spec (w : World) {d : Int} (hd : d ≤ 9223372036854775807) : Calls Try.prog i_coadjutorref12_Exp #[.int .i64 d] w (Ret fun v w' => v = .int .i64 (expI d) ∧ Ch Non w w') := by
  refine coadjutorref12_Exp.calls _ ?_
  unfold coadjutorref12_Exp.vc
  rw [max0]
  unfold expI
  have hn : d.toNat ≤ 9223372036854775807 := by omega
  generalize d.toNat = n at hn ⊢
  intro w2 e2
  have hB := Blk.new e2
  refine ⟨⟨hB.ok 0 rfl, hB.ok 1 rfl, hB.ok 2 rfl, hB.ok 3 rfl, hB.ok 4 rfl, hB.ok 5 rfl, hB.ok 6 rfl, hB.ok 7 rfl⟩, fun w3 e3 => ?_⟩
  have e4 : w3 = w2.setCells w.heap.size 0 tabV := e3
  have hB2 := hB.all tabV rfl e4
  have hC : Ch Non w w3 := (Ch.alloc (F := Non) e2).trans (Ch.sets (F := (· = w.heap.size)) e4 rfl) (fun i hi he => by omega)
  rw [tmod8, tdiv8, wrap_id (by omega) (by omega), add_at, show 0 + ((n % 8 : Nat) : Int).toNat * 1 = n % 8 by omega]
  have hr : n % 8 < 8 := Nat.mod_lt _ (by omega)
  have ht := tab_le _ hr
  refine ⟨by decide, ⟨by omega, by omega⟩, _, hB2.cell _ (tab_at hr), ?_⟩
  unfold expN
  generalize tabL.getD (n % 8) 0 = t at ht ⊢
  have hq : n / 8 ≤ 9223372036854775807 := by omega
  generalize n / 8 = q at hq ⊢
  refine ⟨fun x i k w' => w' = w3 ∧ ∃ j : Nat, i = j ∧ j ≤ q ∧ k = q - j ∧ x = ((t / 2 ^ j : Nat) : Int), ⟨_, rfl, 0, rfl, Nat.zero_le _, rfl, by simp⟩, ?_⟩
  rintro jk x i k w4 ⟨rfl, j, rfl, hj, rfl, rfl⟩
  refine ⟨by decide, fun hlt => ⟨fun hpos => ⟨by decide, q - (j + 1), ?_, rfl, j + 1, ?_, ?_, rfl, ?_⟩, fun hz => ⟨?_, hC⟩⟩, fun hge => ⟨?_, hC⟩⟩
  · have := of_decide_eq_true hlt; omega
  · have := of_decide_eq_true hlt; rw [wrap_id (by omega) (by omega)]; rfl
  · have := of_decide_eq_true hlt; omega
  · have h1 : t / 2 ^ j ≤ 65536 := Nat.le_trans (Nat.div_le_self _ _) ht
    have h2 : t / 2 ^ (j + 1) = t / 2 ^ j / 2 := by rw [Nat.pow_succ, Nat.div_div_eq_div_mul]
    rw [h2]
    generalize t / 2 ^ j = y at h1 ⊢
    rw [Int.tdiv_eq_ediv_of_nonneg (by omega), wrap_id (by omega) (by omega)]; omega
  · have h0 : t / 2 ^ j = 0 := by
      have hz := of_decide_eq_false hz
      generalize t / 2 ^ j = y at hz ⊢
      omega
    have hlt := of_decide_eq_true hlt
    have : t / 2 ^ q = 0 := by
      have hle : t / 2 ^ q ≤ t / 2 ^ j := Nat.div_le_div_left (Nat.pow_le_pow_right (by omega) (by omega)) (Nat.pow_pos (by omega))
      rw [h0] at hle
      exact Nat.le_zero.1 hle
    rw [h0, this]
  · have : j = q := by have := of_decide_eq_false hge; omega
    rw [this]
section
variable {w : World} {o : Option Addr} {c : Nat} {xs : List Int} {F : Nat → Prop}
theorem Max_spec (hr : Rd w o (xs.map (.int .i64)) F) (h0 : xs ≠ []) (hl : xs.length ≤ 1000000) (c : Nat) : Calls Try.prog i_slices_Max #[.slice o xs.length c] w (Ret fun v w' => v = .int .i64 (maxL xs) ∧ w' = w) := by
  have hp : 0 < xs.length := List.length_pos_iff.2 h0
  refine slices_Max.calls _ _ _ ?_
  unfold slices_Max.vc
  refine iteF (decide_eq_false (by omega)) ⟨⟨by omega, by omega⟩, hr.at0 (v := .int .i64 xs[0]) (by simp [hp]) fun p hp' => ⟨_, hp', fun m i k w' => w' = w ∧ ∃ j : Nat, i = j ∧ 1 ≤ j ∧ j ≤ xs.length ∧ k = xs.length - j ∧ m ∈ xs.take j ∧ ∀ x ∈ xs.take j, x ≤ m, ⟨_, rfl, 1, rfl, Nat.le_refl _, hp, rfl, ?_, ?_⟩, ?_⟩⟩
  · rw [take_snoc xs 0 hp]; simp
  · rw [take_snoc xs 0 hp]; simp
  rintro jk m i k w1 ⟨rfl, j, rfl, hj1, hj, rfl, hm, hle⟩
  refine ⟨fun hlt => ?_, fun hge => ?_⟩
  · have hlt : j < xs.length := by have := of_decide_eq_true hlt; omega
    refine ⟨⟨by omega, by omega⟩, hr.at (j := (j : Int).toNat * 1) (v := .int .i64 xs[j]) (by simp [hlt]) fun p hp => ⟨_, hp, xs.length - (j + 1), by omega, rfl, j + 1, by rw [wrap_id (by omega) (by omega)]; rfl, by omega, hlt, rfl, ?_, ?_⟩⟩
    · rw [take_snoc xs j hlt, List.mem_append, List.mem_singleton]
      split
      · exact .inr rfl
      · exact .inl hm
    · intro x hx
      rw [take_snoc xs j hlt, List.mem_append, List.mem_singleton] at hx
      rcases hx with hx | rfl
      · have := hle x hx; split <;> omega
      · split <;> omega
  · have : j = xs.length := by have := of_decide_eq_false hge; omega
    subst this
    rw [List.take_length] at hm hle
    exact ⟨by rw [maxL_uniq hm hle], rfl⟩
/-- What counts of each. -/
def weightsL (xs : List Int) : List Int := xs.map fun x => expI (cl (maxL xs) - cl x)
theorem Weights_spec (hr : Rd w o (xs.map (.int .i64)) F) (hl : xs.length ≤ 1000000) (c : Nat) :
    Calls Try.prog i_soft_Weights #[.slice o xs.length c] w (Ret fun v w' => ∃ (A : Option Addr) (C : Nat), v = .slice A (weightsL xs).length C ∧ Gr Non w w' t_int 1 A (weightsL xs).length C ((weightsL xs).map (.int .i64))) := by
  refine soft_Weights.calls _ _ _ ?_
  unfold soft_Weights.vc
  refine ⟨fun h => ?_, fun h => ?_⟩
  · have h : xs.length = 0 := by simpa using h
    have : xs = [] := List.length_eq_zero_iff.1 h
    subst this
    exact ⟨none, 0, rfl, Gr.nil (Ch.refl _ _)⟩
  have h0 : xs ≠ [] := by rintro rfl; simp at h
  refine step_call (Max_spec hr h0 hl c) ?_
  rintro v w1 ⟨rfl, rfl⟩
  refine ⟨_, rfl, ?_⟩
  refine step_call (clamped_spec w1 _) ?_
  rintro v w2 ⟨rfl, rfl⟩
  have hL : (weightsL xs).length = xs.length := by simp [weightsL]
  have hLi : ∀ (j : Nat) (h : j < (weightsL xs).length) (h2 : j < xs.length), (weightsL xs)[j] = expI (cl (maxL xs) - cl xs[j]) := fun j h h2 => by simp [weightsL]
  generalize weightsL xs = L at hL hLi ⊢
  refine ⟨_, rfl, fun A j CC k x w' => k = j ∧ j ≤ L.length ∧ x = L.length - j ∧ Gr Non w2 w' t_int 1 A j CC ((L.take j).map (.int .i64)), ⟨_, rfl, Nat.zero_le _, rfl, Gr.nil (Ch.refl _ _)⟩, ?_⟩
  rintro jk A j CC k x w3 ⟨rfl, hj, rfl, hg⟩
  refine ⟨fun hlt => ?_, fun hge => ?_⟩
  · have hlt : j < L.length := by have := of_decide_eq_true hlt; omega
    have hlt2 : j < xs.length := by omega
    refine ⟨⟨by omega, by omega⟩, (hr.keepN hg.2).at (j := (j : Int).toNat * 1) (v := .int .i64 xs[j]) (by simp [hlt2]) fun p hp => ⟨_, hp, ?_⟩⟩
    refine step_call (clamped_spec w3 _) ?_
    rintro v w4 ⟨rfl, rfl⟩
    refine ⟨_, rfl, ?_⟩
    have a := cl_le (maxL xs)
    have b := cl_le xs[j]
    rw [wrap_id (by omega) (by omega)]
    refine step_call (Exp_spec w4 (by omega)) ?_
    rintro v w5 ⟨rfl, hc5⟩
    refine ⟨_, rfl, fun w6 e6 => ?_⟩
    rw [← hLi j hlt hlt2] at e6
    obtain ⟨A', C', w9, hr9, hg9, _⟩ := (hg.keepN hc5).next el_S_int t_S_int hlt (by omega) e6 rfl rfl (by omega)
    exact ⟨A', _, C', w9, hr9, L.length - (j + 1), by omega, by rw [wrap_id (by omega) (by omega)]; rfl, hlt, rfl, hg9⟩
  · have : j = L.length := by have := of_decide_eq_false hge; omega
    subst this
    rw [List.take_length] at hg
    exact ⟨A, CC, rfl, hg⟩
theorem rWeights_spec (hr : Rd w o (xs.map (.int .i64)) F) (hl : xs.length ≤ 1000000) (c : Nat) :
    Calls Try.prog i_coadjutorref12_Weights #[.slice o xs.length c] w (Ret fun v w' => ∃ (A : Option Addr) (C : Nat), v = .slice A (weightsL xs).length C ∧ Gr Non w w' t_int 1 A (weightsL xs).length C ((weightsL xs).map (.int .i64))) := by
  refine coadjutorref12_Weights.calls _ _ _ ?_
  unfold coadjutorref12_Weights.vc
  intro w1 e1
  have hL : (weightsL xs).length = xs.length := by simp [weightsL]
  have hLi : ∀ (j : Nat) (h : j < (weightsL xs).length) (h2 : j < xs.length), (weightsL xs)[j] = expI (cl (maxL xs) - cl xs[j]) := fun j h h2 => by simp [weightsL]
  generalize weightsL xs = L at hL hLi ⊢
  refine ⟨fun A j CC k x w' => k = j ∧ j ≤ L.length ∧ x = L.length - j ∧ Gr Non w w' t_int 1 A j CC ((L.take j).map (.int .i64)), ⟨_, rfl, Nat.zero_le _, rfl, Gr.made0 (Ch.refl _ _) e1⟩, ?_⟩
  rintro jk A j CC k x w3 ⟨rfl, hj, rfl, hg⟩
  refine ⟨fun hlt => ?_, fun hge => ?_⟩
  · have hlt : j < L.length := by have := of_decide_eq_true hlt; omega
    have hlt2 : j < xs.length := by omega
    have h0 : xs ≠ [] := by rintro rfl; simp at hlt2
    have hr3 := hr.keepN hg.2
    have rd : ∀ {K : Addr → Prop} {i : Nat} (hi : i < xs.length), (∀ p : Addr, w3.cell? (p.add ((i : Int).toNat * 1)) = some (.int .i64 xs[i]) → K p) → someV o K := fun {K i} hi hk => hr3.at (j := (i : Int).toNat * 1) (v := .int .i64 xs[i]) (by simp [hi]) hk
    refine ⟨⟨by omega, by omega⟩, rd hlt2 fun p hp => ⟨_, hp, ?_⟩⟩
    refine step_call (rcl_spec w3 _) ?_
    rintro v w4 ⟨rfl, rfl⟩
    refine ⟨_, rfl, fun m i k w' => w' = w4 ∧ ∃ n : Nat, i = n ∧ n ≤ xs.length ∧ k = xs.length - n ∧ (∃ y ∈ xs, m = cl y) ∧ ∀ y ∈ xs.take n, cl y ≤ m, ⟨_, rfl, 0, rfl, Nat.zero_le _, rfl, ⟨_, List.getElem_mem hlt2, rfl⟩, fun y hy => by simp at hy⟩, ?_⟩
    rintro jk m i k w' ⟨rfl, n, rfl, hn, rfl, ⟨y0, hy0, rfl⟩, hle⟩
    refine ⟨fun hlt3 => ?_, fun hge3 => ?_⟩
    · have hlt3 : n < xs.length := by have := of_decide_eq_true hlt3; omega
      refine ⟨⟨by omega, by omega⟩, rd hlt3 fun p hp => ⟨_, hp, ?_⟩⟩
      refine step_call (rcl_spec w' _) ?_
      rintro v w4 ⟨rfl, rfl⟩
      refine ⟨_, rfl, xs.length - (n + 1), by omega, rfl, n + 1, by rw [wrap_id (by omega) (by omega)]; rfl, hlt3, rfl, ?_, ?_⟩
      · split
        · exact ⟨_, List.getElem_mem hlt3, rfl⟩
        · exact ⟨_, hy0, rfl⟩
      · intro y hy
        rw [take_snoc xs n hlt3, List.mem_append, List.mem_singleton] at hy
        rcases hy with hy | rfl
        · have := hle y hy; split <;> omega
        · split <;> omega
    have hnx : n = xs.length := by have := of_decide_eq_false hge3; omega
    subst hnx
    rw [List.take_length] at hle
    obtain ⟨m1, m2⟩ := maxL_is h0
    have hhigh : cl y0 = cl (maxL xs) := by
      have h1 := hle _ m1
      have h2 := cl_mono (m2 _ hy0)
      omega
    rw [hhigh]
    refine ⟨⟨by omega, by omega⟩, rd hlt2 fun p hp => ⟨_, hp, ?_⟩⟩
    refine step_call (rcl_spec w' _) ?_
    rintro v w4 ⟨rfl, rfl⟩
    refine ⟨_, rfl, ?_⟩
    have a := cl_le (maxL xs)
    have b := cl_le xs[j]
    rw [wrap_id (by omega) (by omega)]
    refine step_call (rExp_spec w4 (by omega)) ?_
    rintro v w5 ⟨rfl, hc5⟩
    refine ⟨_, rfl, fun w6 e6 => ?_⟩
    rw [← hLi j hlt hlt2] at e6
    obtain ⟨A', C', w9, hr9, hg9, _⟩ := (hg.keepN hc5).next el_S_int t_S_int hlt (by omega) e6 rfl rfl (by omega)
    exact ⟨A', _, C', w9, hr9, L.length - (j + 1), by omega, by rw [wrap_id (by omega) (by omega)]; rfl, hlt, rfl, hg9⟩
  · have : j = L.length := by have := of_decide_eq_false hge; omega
    subst this
    rw [List.take_length] at hg
    exact ⟨A, CC, rfl, hg⟩
/-- The first of the greatest. -/
def BestR (l : List Int) (b : Int) : Prop := (l = [] ∧ b = -1) ∨ ∃ i : Nat, b = i ∧ ∃ h : i < l.length, (∀ x ∈ l, x ≤ l[i]) ∧ ∀ x ∈ l.take i, x < l[i]
theorem BestR.uniq {l : List Int} {a b : Int} (h : BestR l a) (k : BestR l b) : a = b := by
  rcases h with ⟨rfl, rfl⟩ | ⟨i, rfl, hi, h1, h2⟩
  · rcases k with ⟨_, rfl⟩ | ⟨j, rfl, hj, _⟩
    · rfl
    · simp at hj
  · rcases k with ⟨rfl, _⟩ | ⟨j, rfl, hj, k1, k2⟩
    · simp at hi
    · rcases Nat.lt_trichotomy i j with h | h | h
      · have a := k2 l[i] (List.mem_take_iff_getElem.2 ⟨i, by omega, rfl⟩)
        have b := h1 l[j] (List.getElem_mem hj)
        omega
      · rw [h]
      · have a := h2 l[j] (List.mem_take_iff_getElem.2 ⟨j, by omega, rfl⟩)
        have b := k1 l[i] (List.getElem_mem hi)
        omega
theorem Best_spec (hr : Rd w o (xs.map (.int .i64)) F) (hl : xs.length ≤ 1000000) (c : Nat) :
    Calls Try.prog i_soft_Best #[.slice o xs.length c] w (Ret fun v w' => ∃ b : Int, v = .int .i64 b ∧ BestR xs b ∧ w' = w) := by
  refine soft_Best.calls _ _ _ ?_
  unfold soft_Best.vc
  refine ⟨fun h => ?_, fun h => ?_⟩
  · have h : xs.length = 0 := by simpa using h
    have : xs = [] := List.length_eq_zero_iff.1 h
    subst this
    exact ⟨_, rfl, .inl ⟨rfl, rfl⟩, rfl⟩
  have h0 : xs ≠ [] := by rintro rfl; simp at h
  refine step_call (Max_spec hr h0 hl c) ?_
  rintro v w1 ⟨rfl, rfl⟩
  refine ⟨_, rfl, ?_⟩
  obtain ⟨m1, m2⟩ := maxL_is h0
  have hidx : Calls Try.prog i_slices_Index #[.slice o xs.length c, .int .i64 (maxL xs)] w1 (Ret fun v w' => ∃ b : Int, v = .int .i64 b ∧ BestR xs b ∧ w' = w1) := by
    refine slices_Index.calls _ _ _ _ ?_
    unfold slices_Index.vc
    refine ⟨fun i k w' => w' = w1 ∧ ∃ j : Nat, i = j ∧ j ≤ xs.length ∧ k = xs.length - j ∧ ∀ x ∈ xs.take j, x < maxL xs, ⟨_, rfl, 0, rfl, Nat.zero_le _, rfl, fun x hx => by simp at hx⟩, ?_⟩
    rintro jk i k w' ⟨rfl, j, rfl, hj, rfl, hall⟩
    refine ⟨fun hlt => ?_, fun hge => ?_⟩
    · have hlt : j < xs.length := by have := of_decide_eq_true hlt; omega
      refine ⟨⟨by omega, by omega⟩, hr.at (j := (j : Int).toNat * 1) (v := .int .i64 xs[j]) (by simp [hlt]) fun p hp => ⟨_, hp, fun heq => ?_, fun hne => ?_⟩⟩
      · have heq : maxL xs = xs[j] := by simpa using heq
        exact ⟨_, rfl, .inr ⟨j, rfl, hlt, fun x hx => by rw [← heq]; exact m2 x hx, fun x hx => by rw [← heq]; exact hall x hx⟩, rfl⟩
      · have hne : maxL xs ≠ xs[j] := by simpa using hne
        refine ⟨xs.length - (j + 1), by omega, rfl, j + 1, by rw [wrap_id (by omega) (by omega)]; rfl, hlt, rfl, fun x hx => ?_⟩
        rw [take_snoc xs j hlt, List.mem_append, List.mem_singleton] at hx
        rcases hx with hx | rfl
        · exact hall x hx
        · have := m2 _ (List.getElem_mem hlt); omega
    · have : j = xs.length := by have := of_decide_eq_false hge; omega
      subst this
      rw [List.take_length] at hall
      exact absurd (hall _ m1) (Int.lt_irrefl _)
  refine step_call hidx ?_
  rintro v w2 ⟨b, rfl, hb, rfl⟩
  exact ⟨_, rfl, _, rfl, hb, rfl⟩
end
end Go.Proofs.Ytfhnegfoglngoaa.Soft
