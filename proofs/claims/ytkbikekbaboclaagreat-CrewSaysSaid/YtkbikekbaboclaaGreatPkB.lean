import Derived.Test.YtkbikekbaboclaaGreatPkA
import Derived.Test.YtkbikekbaboclaaGreatPkV
set_option linter.unusedVariables false
set_option linter.unusedSimpArgs false
namespace Go.Proofs.YtkbikekbaboclaaGreat.Soft
open Go Go.Proofs V Vc Num Go.RowKit
def cl (x : Int) : Int := clamp x (-1073741824) 1073741824
theorem cl_le (x : Int) : -1073741824 ≤ cl x ∧ cl x ≤ 1073741824 := clamp_le (by omega)
theorem clamped_spec (w : World) (x : Int) : Calls Tryz.prog i_soft_clamped #[.int .i64 x] w (Ret fun v w' => v = .int .i64 (cl x) ∧ w' = w) := by
 refine soft_clamped.calls _ ?_
 unfold soft_clamped.vc
 refine step_call (Clamp_spec w _ _ _) ?_
 rintro v w ⟨rfl, rfl⟩
 exact ⟨_, rfl, rfl, rfl⟩
def tabL : List Nat := [65536, 60097, 55109, 50535, 46341, 42495, 38968, 35734]
def tabV : List Value := tabL.map fun n : Nat => Value.int .i64 (n : Int)
def expN (d : Nat) : Nat := tabL.getD (d % 8) 0 / 2 ^ (d / 8)
def expI (d : Int) : Int := (expN d.toNat : Int)
theorem tab_le : ∀ r, r < 8 → tabL.getD r 0 ≤ 65536 := by decide
theorem tab_at {r : Nat} (h : r < 8) : tabV[r]? = some (.int .i64 ((tabL.getD r 0 : Nat) : Int)) := by
 unfold tabV
 have : r < tabL.length := h
 rw [List.getElem?_map, List.getD_eq_getElem?_getD, List.getElem?_eq_getElem this]; rfl
theorem max0 (d : Int) : (if (0 : Int) > d then (0 : Int) else d) = (d.toNat : Int) := by split <;> omega
theorem table_spec (w : World) : Calls Tryz.prog i_soft_table #[] w (Ret fun v w' => v = .agg tabV.toArray ∧ Ch Non w w') := by
 refine soft_table.calls ?_
 unfold soft_table.vc
 intro w1 e1
 have hB := Blk.new e1
 refine ⟨⟨hB.ok 0 rfl, hB.ok 1 rfl, hB.ok 2 rfl, hB.ok 3 rfl, hB.ok 4 rfl, hB.ok 5 rfl, hB.ok 6 rfl, hB.ok 7 rfl⟩, fun w2 e2 => ?_⟩
 have e3 : w2 = w1.setCells w.heap.size 0 tabV := e2
 have hB2 := hB.all tabV rfl e3
 have hC : Ch Non w w2 := (Ch.alloc (F := Non) e1).trans (Ch.sets (F := (· = w.heap.size)) e3 rfl) (fun i hi he => by omega)
 exact ⟨_, _, _, _, _, _, _, _, ⟨hB2.cell 0 rfl, hB2.cell 1 rfl, hB2.cell 2 rfl, hB2.cell 3 rfl, hB2.cell 4 rfl, hB2.cell 5 rfl, hB2.cell 6 rfl, hB2.cell 7 rfl⟩, rfl, hC⟩
theorem tdiv8 {n : Nat} : Int.tdiv (n : Int) 8 = ((n / 8 : Nat) : Int) := by rw [Int.tdiv_eq_ediv_of_nonneg (by omega)]; omega
theorem tmod8 {n : Nat} : Int.tmod (n : Int) 8 = ((n % 8 : Nat) : Int) := by rw [tmod_pos (by omega)]; omega
theorem Exp_spec (w : World) {d : Int} (hd : d ≤ 9223372036854775807) : Calls Tryz.prog i_soft_Exp #[.int .i64 d] w (Ret fun v w' => v = .int .i64 (expI d) ∧ Ch Non w w') := by
 refine soft_Exp.calls _ ?_
 unfold soft_Exp.vc
 rw [max0]
 unfold expI
 have hn : d.toNat ≤ 9223372036854775807 := by omega
 generalize d.toNat = n at hn ⊢
 refine step_call (table_spec w) ?_
 rintro v w1 ⟨rfl, hc1⟩
 refine ⟨_, _, _, _, _, _, _, _, rfl, fun w2 e2 => ?_⟩
 have hB := Blk.new e2
 refine ⟨⟨hB.ok 0 rfl, hB.ok 1 rfl, hB.ok 2 rfl, hB.ok 3 rfl, hB.ok 4 rfl, hB.ok 5 rfl, hB.ok 6 rfl, hB.ok 7 rfl⟩, fun w3 e3 => ?_⟩
 have e4 : w3 = w2.setCells w1.heap.size 0 tabV := e3
 have hB2 := hB.all tabV rfl e4
 have hC : Ch Non w1 w3 := (Ch.alloc (F := Non) e2).trans (Ch.sets (F := (· = w1.heap.size)) e4 rfl) (fun i hi he => by omega)
 rw [tmod8, tdiv8, wrap_id (by omega) (by omega), add_at, show 0 + ((n % 8 : Nat) : Int).toNat * 1 = n % 8 by omega]
 have hr : n % 8 < 8 := Nat.mod_lt _ (by omega)
 refine ⟨by decide, ⟨by omega, by omega⟩, _, hB2.cell _ (tab_at hr), by decide, by split <;> omega, ?_, hc1.andN hC⟩
 have ht := tab_le _ hr
 unfold expN
 generalize tabL.getD (n % 8) 0 = t at ht ⊢
 generalize n / 8 = q
 by_cases hq : 17 < q
 ·rw [if_pos (by omega)]
  have h1 : t / 2 ^ q = 0 := Nat.div_eq_of_lt (Nat.lt_of_le_of_lt ht (Nat.lt_of_lt_of_le (show 65536 < 2 ^ 17 by decide) (Nat.pow_le_pow_right (by omega) (by omega))))
  rw [h1]
  have h2 : min (17 : Int).toNat IntKind.i64.bits = 17 := by decide
  rw [h2, Int.fdiv_eq_ediv_of_nonneg _ (by decide)]
  have : (t : Int) / 2 ^ 17 = 0 := Int.ediv_eq_zero_of_lt (by omega) (by omega)
  rw [this]; rfl
 ·rw [if_neg (by omega)]
  have h2 : min ((q : Int).toNat) IntKind.i64.bits = q := by show min ((q : Int).toNat) 64 = q; omega
  rw [h2, Int.fdiv_eq_ediv_of_nonneg _ (Int.le_of_lt (Int.pow_pos (by omega)))]
  congr 1
section
variable {w : World} {o : Option Addr} {c : Nat} {xs : List Int} {F : Nat → Prop}
theorem Max_spec (hr : Rd w o (xs.map (.int .i64)) F) (h0 : xs ≠ []) (hl : xs.length ≤ 1000000) (c : Nat) : Calls Tryz.prog i_slices_Max #[.slice o xs.length c] w (Ret fun v w' => v = .int .i64 (maxL xs) ∧ w' = w) := by
 have hp : 0 < xs.length := List.length_pos_iff.2 h0
 refine slices_Max.calls _ _ _ ?_
 unfold slices_Max.vc
 refine iteF (decide_eq_false (by omega)) ⟨⟨by omega, by omega⟩, hr.at0 (v := .int .i64 xs[0]) (by simp [hp]) fun p hp' => ⟨_, hp', fun m i k w' => w' = w ∧ ∃ j : Nat, i = j ∧ 1 ≤ j ∧ j ≤ xs.length ∧ k = xs.length - j ∧ m ∈ xs.take j ∧ ∀ x ∈ xs.take j, x ≤ m, ⟨_, rfl, 1, rfl, Nat.le_refl _, hp, rfl, ?_, ?_⟩, ?_⟩⟩
 ·rw [take_snoc xs 0 hp]; simp
 ·rw [take_snoc xs 0 hp]; simp
 rintro jk m i k w1 ⟨rfl, j, rfl, hj1, hj, rfl, hm, hle⟩
 refine ⟨fun hlt => ?_, fun hge => ?_⟩
 ·have hlt : j < xs.length := by have := of_decide_eq_true hlt; omega
  refine ⟨⟨by omega, by omega⟩, hr.at (j := (j : Int).toNat * 1) (v := .int .i64 xs[j]) (by simp [hlt]) fun p hp => ⟨_, hp, xs.length - (j + 1), by omega, rfl, j + 1, by rw [wrap_id (by omega) (by omega)]; rfl, by omega, hlt, rfl, ?_, ?_⟩⟩
  ·rw [take_snoc xs j hlt, List.mem_append, List.mem_singleton]
   split
   ·exact .inr rfl
   ·exact .inl hm
  ·intro x hx
   rw [take_snoc xs j hlt, List.mem_append, List.mem_singleton] at hx
   rcases hx with hx | rfl
   ·have := hle x hx; split <;> omega
   ·split <;> omega
 ·have : j = xs.length := by have := of_decide_eq_false hge; omega
  subst this
  rw [List.take_length] at hm hle
  exact ⟨by rw [maxL_uniq hm hle], rfl⟩
def weightsL (xs : List Int) : List Int := xs.map fun x => expI (cl (maxL xs) - cl x)
theorem Weights_spec (hr : Rd w o (xs.map (.int .i64)) F) (hl : xs.length ≤ 1000000) (c : Nat) :
  Calls Tryz.prog i_soft_Weights #[.slice o xs.length c] w (Ret fun v w' => ∃ (A : Option Addr) (C : Nat), v = .slice A (weightsL xs).length C ∧ Gr Non w w' t_int 1 A (weightsL xs).length C ((weightsL xs).map (.int .i64))) := by
 refine soft_Weights.calls _ _ _ ?_
 unfold soft_Weights.vc
 refine ⟨fun h => ?_, fun h => ?_⟩
 ·have h : xs.length = 0 := by simpa using h
  have : xs = [] := List.length_eq_zero_iff.1 h
  subst this
  exact ⟨none, 0, rfl, Gr.nil (Ch.refl _ _)⟩
 have h0 : xs ≠ [] := by rintro rfl; simp at h
 refine step_call (Max_spec hr h0 hl c) ?_
 rintro v w1 ⟨rfl, rfl⟩
 refine ⟨_, rfl, ?_⟩
 refine step_call (clamped_spec w1 _) ?_
 rintro v w2 ⟨rfl, rfl⟩
 have hL : (weightsL xs).length = xs.length := by simp [weightsL]
 have hLi : ∀ (j : Nat) (h : j < (weightsL xs).length) (h2 : j < xs.length), (weightsL xs)[j] = expI (cl (maxL xs) - cl xs[j]) := fun j h h2 => by simp [weightsL]
 generalize weightsL xs = L at hL hLi ⊢
 refine ⟨_, rfl, fun A j CC k x w' => k = j ∧ j ≤ L.length ∧ x = L.length - j ∧ Gr Non w2 w' t_int 1 A j CC ((L.take j).map (.int .i64)), ⟨_, rfl, Nat.zero_le _, rfl, Gr.nil (Ch.refl _ _)⟩, ?_⟩
 rintro jk A j CC k x w3 ⟨rfl, hj, rfl, hg⟩
 refine ⟨fun hlt => ?_, fun hge => ?_⟩
 ·have hlt : j < L.length := by have := of_decide_eq_true hlt; omega
  have hlt2 : j < xs.length := by omega
  refine ⟨⟨by omega, by omega⟩, (hr.keepN hg.2).at (j := (j : Int).toNat * 1) (v := .int .i64 xs[j]) (by simp [hlt2]) fun p hp => ⟨_, hp, ?_⟩⟩
  refine step_call (clamped_spec w3 _) ?_
  rintro v w4 ⟨rfl, rfl⟩
  refine ⟨_, rfl, ?_⟩
  have a := cl_le (maxL xs)
  have b := cl_le xs[j]
  rw [wrap_id (by omega) (by omega)]
  refine step_call (Exp_spec w4 (by omega)) ?_
  rintro v w5 ⟨rfl, hc5⟩
  refine ⟨_, rfl, fun w6 e6 => ?_⟩
  rw [← hLi j hlt hlt2] at e6
  obtain ⟨A', C', w9, hr9, hg9, _⟩ := (hg.keepN hc5).next el_S_int t_S_int hlt (by omega) e6 rfl rfl (by omega)
  exact ⟨A', _, C', w9, hr9, L.length - (j + 1), by omega, by rw [wrap_id (by omega) (by omega)]; rfl, hlt, rfl, hg9⟩
 ·have : j = L.length := by have := of_decide_eq_false hge; omega
  subst this
  rw [List.take_length] at hg
  exact ⟨A, CC, rfl, hg⟩
def BestR (l : List Int) (b : Int) : Prop := (l = [] ∧ b = -1) ∨ ∃ i : Nat, b = i ∧ ∃ h : i < l.length, (∀ x ∈ l, x ≤ l[i]) ∧ ∀ x ∈ l.take i, x < l[i]
theorem rBest_spec (hr : Rd w o (xs.map (.int .i64)) F) (hl : xs.length ≤ 1000000) (c : Nat) :
  Calls Tryz.prog i_coadjutorref12_Best #[.slice o xs.length c] w (Ret fun v w' => ∃ b : Int, v = .int .i64 b ∧ BestR xs b ∧ Ch Non w w') := by
 refine coadjutorref12_Best.calls _ _ _ ?_
 unfold coadjutorref12_Best.vc
 refine ⟨fun b i k w' => Ch Non w w' ∧ ∃ j : Nat, i = j ∧ j ≤ xs.length ∧ k = xs.length - j ∧ BestR (xs.take j) b, ⟨_, Ch.refl _ _, 0, rfl, Nat.zero_le _, rfl, .inl ⟨rfl, rfl⟩⟩, ?_⟩
 rintro jk b i k w1 ⟨hc, j, rfl, hj, rfl, hb⟩
 refine ⟨fun hlt => ?_, fun hge => ?_⟩
 ·have hlt : j < xs.length := by have := of_decide_eq_true hlt; omega
  refine ⟨fun w' => Ch Non w w', fun w2 e2 => ⟨hc.andN (Ch.drew e2), ?_⟩⟩
  have hw : IntKind.i64.wrap ((j : Int) + 1) = ((j + 1 : Nat) : Int) := by rw [wrap_id (by omega) (by omega)]; rfl
  have hc2 := hc.andN (Ch.drew (F := Non) e2)
  have hs := take_snoc xs j hlt
  have hgt : ∀ {i : Nat} (h : i < (xs.take j).length) (h2 : i < xs.length), (xs.take j)[i] = xs[i] := fun h h2 => by simp
  rcases hb with ⟨hnil, rfl⟩ | ⟨m, rfl, hm, h1, h2⟩
  ·refine iteT rfl ⟨xs.length - (j + 1), by omega, hc2, j + 1, hw, hlt, rfl, .inr ⟨j, rfl, by simp; omega, ?_⟩⟩
   have hj0 : j = 0 := by have := congrArg List.length hnil; simp at this; rcases this with h | h <;> simp_all
   subst hj0
   refine ⟨fun x hx => ?_, fun x hx => by simp at hx⟩
   rw [hs, hnil, List.nil_append, List.mem_singleton] at hx
   subst hx
   simp
  ·have hmj : m < j := by simp at hm; omega
   have hmx : m < xs.length := by omega
   rw [hgt hm hmx] at h1 h2
   refine iteF (decide_eq_false (by omega)) ⟨⟨by omega, by omega⟩, Rd.keeps (j := j) (S := fun w' => Ch Non w w') (fun w2 h2 => hr.keepN h2) hc hlt fun p hp => ⟨_, fun w' h => by rw [toNat_mul_one]; exact hp w' h, ⟨by omega, by omega⟩, Rd.keeps (j := m) (S := fun w' => Ch Non w w') (fun w2 h2 => hr.keepN h2) hc hmx fun p2 hp2 => ⟨_, fun w' h => by rw [toNat_mul_one]; exact hp2 w' h, fun hgt' => ?_, fun hle => ?_⟩⟩⟩
   ·have hgt' := of_decide_eq_true hgt'
    refine ⟨xs.length - (j + 1), by omega, hc2, j + 1, hw, hlt, rfl, .inr ⟨j, rfl, by simp; omega, ?_⟩⟩
    have e : (xs.take (j + 1))[j]'(by simp; omega) = xs[j] := by simp
    rw [e]
    refine ⟨fun x hx => ?_, fun x hx => ?_⟩
    ·rw [hs, List.mem_append, List.mem_singleton] at hx
     rcases hx with hx | rfl
     ·have := h1 x hx; omega
     ·omega
    ·rw [List.take_take, Nat.min_eq_left (by omega)] at hx
     have := h1 x hx; omega
   ·have hle := of_decide_eq_false hle
    refine ⟨xs.length - (j + 1), by omega, hc2, j + 1, hw, hlt, rfl, .inr ⟨m, rfl, by simp; omega, ?_⟩⟩
    have e : (xs.take (j + 1))[m]'(by simp; omega) = xs[m] := by simp
    rw [e]
    refine ⟨fun x hx => ?_, fun x hx => ?_⟩
    ·rw [hs, List.mem_append, List.mem_singleton] at hx
     rcases hx with hx | rfl
     ·exact h1 x hx
     ·omega
    ·rw [List.take_take, Nat.min_eq_left (by omega)] at hx
     rw [List.take_take, Nat.min_eq_left (by omega)] at h2
     exact h2 x hx
 ·have : j = xs.length := by have := of_decide_eq_false hge; omega
  subst this
  rw [List.take_length] at hb
  exact ⟨_, rfl, hb, hc⟩
end
end Go.Proofs.YtkbikekbaboclaaGreat.Soft
set_option linter.unusedVariables false
set_option linter.unusedSimpArgs false
namespace Go.Proofs.YtkbikekbaboclaaGreat.Soft
open Go Go.Proofs V Vc Num Go.RowKit
def badC (n : Int) : Bool := decide (n < 0) || decide (n > 1048576)
def badW (n : Int) : Bool := decide (n < 0) || decide (n > 65536)
theorem Choose_c1_spec (w : World) (n : Int) : Calls Tryz.prog i_soft_Choose_c1 #[.int .i64 n] w (Ret fun v w' => v = .bool (badC n) ∧ w' = w) := by
 refine soft_Choose_c1.calls _ ?_
 unfold soft_Choose_c1.vc badC
 exact ⟨fun h => ⟨by rw [h]; rfl, rfl⟩, fun h => ⟨by rw [h]; rfl, rfl⟩⟩
theorem isMix_c1_spec (w : World) (n : Int) : Calls Tryz.prog i_soft_isMix_c1 #[.int .i64 n] w (Ret fun v w' => v = .bool (badW n) ∧ w' = w) := by
 refine soft_isMix_c1.calls _ ?_
 unfold soft_isMix_c1.vc badW
 exact ⟨fun h => ⟨by rw [h]; rfl, rfl⟩, fun h => ⟨by rw [h]; rfl, rfl⟩⟩
section
variable {w : World} {o ow : Option Addr} {c cw : Nat} {ws : List Int} {zs : List RowD} {F G : Nat → Prop}
theorem ContainsC_spec {xs : List Int} (hr : Rd w o (xs.map (.int .i64)) F) (hx : xs.length ≤ 1000000) (c : Nat) : Calls Tryz.prog 52 #[.slice o xs.length c, .func (.func i_soft_Choose_c1) #[] #[]] w (Ret fun v w' => v = .bool (xs.any badC) ∧ w' = w) := by
 refine slices_ContainsFunc.calls_ch _ _ _ ?_
 unfold slices_ContainsFunc.vc_ch
 have hi : Calls Tryz.prog 91 #[.slice o xs.length c, .func (.func i_soft_Choose_c1) #[] #[]] w (Ret fun v w' => ∃ i : Int, v = .int .i64 i ∧ decide (i ≥ 0) = xs.any badC ∧ w' = w) := by
  refine slices_IndexFunc.calls_ch _ _ _ ?_
  unfold slices_IndexFunc.vc_ch
  have hf := Choose_c1_spec w
  generalize badC = f at hf ⊢
  refine ⟨fun i k w' => w' = w ∧ ∃ j : Nat, i = j ∧ j ≤ xs.length ∧ k = xs.length - j ∧ (xs.take j).any f = false, ⟨_, rfl, 0, rfl, Nat.zero_le _, rfl, rfl⟩, ?_⟩
  rintro jk i k w' ⟨rfl, j, rfl, hj, rfl, hall⟩
  refine ⟨fun hlt => ?_, fun hge => ?_⟩
  ·have hlt : j < xs.length := by have := of_decide_eq_true hlt; omega
   refine ⟨⟨by omega, by omega⟩, hr.at (j := (j : Int).toNat * 1) (v := .int .i64 xs[j]) (by simp [hlt]) fun p hp => ⟨_, hp, ?_⟩⟩
   refine step_call (hf xs[j]) ?_
   rintro v w1 ⟨rfl, rfl⟩
   refine ⟨_, rfl, fun h => ⟨_, rfl, ?_, rfl⟩, fun h => ⟨xs.length - (j + 1), by omega, rfl, j + 1, by rw [wrap_id (by omega) (by omega)]; rfl, hlt, rfl, ?_⟩⟩
   ·have : xs.any f = true := by rw [List.any_eq_true]; exact ⟨xs[j], List.getElem_mem _, h⟩
    rw [this]; simp
   ·rw [take_snoc xs j hlt, List.any_append, hall]
    simpa using h
  ·have : j = xs.length := by have := of_decide_eq_false hge; omega
   subst this
   rw [List.take_length] at hall
   exact ⟨_, rfl, by rw [hall]; rfl, rfl⟩
 refine step_call hi ?_
 rintro v w1 ⟨i, rfl, h, rfl⟩
 exact ⟨_, rfl, by rw [h], rfl⟩
theorem ContainsW_spec {xs : List Int} (hr : Rd w o (xs.map (.int .i64)) F) (hx : xs.length ≤ 1000000) (c : Nat) : Calls Tryz.prog 52 #[.slice o xs.length c, .func (.func i_soft_isMix_c1) #[] #[]] w (Ret fun v w' => v = .bool (xs.any badW) ∧ w' = w) := by
 refine slices_ContainsFunc.calls_mw _ _ _ ?_
 unfold slices_ContainsFunc.vc_mw
 have hi : Calls Tryz.prog 91 #[.slice o xs.length c, .func (.func i_soft_isMix_c1) #[] #[]] w (Ret fun v w' => ∃ i : Int, v = .int .i64 i ∧ decide (i ≥ 0) = xs.any badW ∧ w' = w) := by
  refine slices_IndexFunc.calls_mw _ _ _ ?_
  unfold slices_IndexFunc.vc_mw
  have hf := isMix_c1_spec w
  generalize badW = f at hf ⊢
  refine ⟨fun i k w' => w' = w ∧ ∃ j : Nat, i = j ∧ j ≤ xs.length ∧ k = xs.length - j ∧ (xs.take j).any f = false, ⟨_, rfl, 0, rfl, Nat.zero_le _, rfl, rfl⟩, ?_⟩
  rintro jk i k w' ⟨rfl, j, rfl, hj, rfl, hall⟩
  refine ⟨fun hlt => ?_, fun hge => ?_⟩
  ·have hlt : j < xs.length := by have := of_decide_eq_true hlt; omega
   refine ⟨⟨by omega, by omega⟩, hr.at (j := (j : Int).toNat * 1) (v := .int .i64 xs[j]) (by simp [hlt]) fun p hp => ⟨_, hp, ?_⟩⟩
   refine step_call (hf xs[j]) ?_
   rintro v w1 ⟨rfl, rfl⟩
   refine ⟨_, rfl, fun h => ⟨_, rfl, ?_, rfl⟩, fun h => ⟨xs.length - (j + 1), by omega, rfl, j + 1, by rw [wrap_id (by omega) (by omega)]; rfl, hlt, rfl, ?_⟩⟩
   ·have : xs.any f = true := by rw [List.any_eq_true]; exact ⟨xs[j], List.getElem_mem _, h⟩
    rw [this]; simp
   ·rw [take_snoc xs j hlt, List.any_append, hall]
    simpa using h
  ·have : j = xs.length := by have := of_decide_eq_false hge; omega
   subst this
   rw [List.take_length] at hall
   exact ⟨_, rfl, by rw [hall]; rfl, rfl⟩
 refine step_call hi ?_
 rintro v w1 ⟨i, rfl, h, rfl⟩
 exact ⟨_, rfl, by rw [h], rfl⟩
def uneven (zs : List RowD) (x : RowD) : Bool := !decide (x.2.2.length = wid zs)
theorem uneven_any (zs : List RowD) : zs.any (uneven zs) = !sameL zs := by
 unfold sameL uneven
 rw [List.all_eq_not_any_not]; simp
theorem isMix_c2_spec {c0 : Nat} (hz : Rd w o (zs.map encR) F) (h0 : 0 < zs.length) (hB : Blk w c0 [.slice o zs.length c] t_S_S_int) (x : RowD) : Calls Tryz.prog i_soft_isMix_c2 #[encR x, .pointer (some ⟨c0, 0, none⟩)] w (Ret fun v w' => v = .bool (uneven zs x) ∧ w' = w) := by
 refine soft_isMix_c2.calls _ _ _ _ ?_
 unfold soft_isMix_c2.vc
 refine ⟨_, _, _, hB.cell 0 rfl, ⟨by omega, by omega⟩, hz.at0 (v := encR zs[0]) (by rw [List.getElem?_map, List.getElem?_eq_getElem h0]; rfl) fun p hp => ⟨_, _, _, hp, ?_, rfl⟩⟩
 unfold uneven
 rw [wid_pos h0]
 congr 1
 by_cases h : x.2.2.length = zs[0].2.2.length
 ·rw [decide_eq_true h, h]; simp
 ·rw [decide_eq_false h]
  have : ((x.2.2.length : Nat) : Int) ≠ ((zs[0].2.2.length : Nat) : Int) := by omega
  simp [bne, this]
theorem ContainsU_spec {c0 : Nat} (hz : Rd w o (zs.map encR) F) (h0 : 0 < zs.length) (hB : Blk w c0 [.slice o zs.length c] t_S_S_int) (hx : zs.length ≤ 1000000) : Calls Tryz.prog 207 #[.slice o zs.length c, .func (.func i_soft_isMix_c2) #[] #[.pointer (some ⟨c0, 0, none⟩)]] w (Ret fun v w' => v = .bool (!sameL zs) ∧ w' = w) := by
 refine slices_ContainsFunc.calls_un _ _ _ _ ?_
 unfold slices_ContainsFunc.vc_un
 have hi : Calls Tryz.prog 208 #[.slice o zs.length c, .func (.func i_soft_isMix_c2) #[] #[.pointer (some ⟨c0, 0, none⟩)]] w (Ret fun v w' => ∃ i : Int, v = .int .i64 i ∧ decide (i ≥ 0) = zs.any (uneven zs) ∧ w' = w) := by
  refine slices_IndexFunc.calls_un _ _ _ _ ?_
  unfold slices_IndexFunc.vc_un
  have hf := fun x => isMix_c2_spec hz h0 hB x
  generalize uneven zs = f at hf ⊢
  have hr := hz
  clear hz hB h0
  revert hr hx hf
  generalize zs = xs
  intro hx hf hr
  refine ⟨fun i k w' => w' = w ∧ ∃ j : Nat, i = j ∧ j ≤ xs.length ∧ k = xs.length - j ∧ (xs.take j).any f = false, ⟨_, rfl, 0, rfl, Nat.zero_le _, rfl, rfl⟩, ?_⟩
  rintro jk i k w' ⟨rfl, j, rfl, hj, rfl, hall⟩
  refine ⟨fun hlt => ?_, fun hge => ?_⟩
  ·have hlt : j < xs.length := by have := of_decide_eq_true hlt; omega
   refine ⟨⟨by omega, by omega⟩, hr.at (j := (j : Int).toNat * 1) (v := encR xs[j]) (by simp [hlt]) fun p hp => ⟨_, _, _, hp, ?_⟩⟩
   refine step_call (hf xs[j]) ?_
   rintro v w1 ⟨rfl, rfl⟩
   refine ⟨_, rfl, fun h => ⟨_, rfl, ?_, rfl⟩, fun h => ⟨xs.length - (j + 1), by omega, rfl, j + 1, by rw [wrap_id (by omega) (by omega)]; rfl, hlt, rfl, ?_⟩⟩
   ·have : xs.any f = true := by rw [List.any_eq_true]; exact ⟨xs[j], List.getElem_mem _, h⟩
    rw [this]; simp
   ·rw [take_snoc xs j hlt, List.any_append, hall]
    simpa using h
  ·have : j = xs.length := by have := of_decide_eq_false hge; omega
   subst this
   rw [List.take_length] at hall
   exact ⟨_, rfl, by rw [hall]; rfl, rfl⟩
 refine step_call hi ?_
 rintro v w1 ⟨i, rfl, h, rfl⟩
 exact ⟨_, rfl, by rw [h, uneven_any], rfl⟩
def pick : Int → List Int → Nat → Int
 | _, [], _ => -1
 | rest, n :: r, i => if rest < n then i else pick (rest - n) r (i + 1)
def chooseI (draw : Int) (ws : List Int) : Int := if ws.length > 64 ∨ ws.any badC = true then -1 else if ws.sum = 0 then -1 else pick (draw % ws.sum) ws 0
theorem good_mem {ws : List Int} (h : ws.any badC = false) : ∀ n ∈ ws, 0 ≤ n ∧ n ≤ 1048576 := fun n hn => by
 have := List.any_eq_false.1 h n hn
 unfold badC at this
 simp at this
 omega
theorem tmod_fix {a s : Int} (hs : 0 < s) : (Int.tmod a s < 0 → a % s = Int.tmod a s + s) ∧ (¬ Int.tmod a s < 0 → a % s = Int.tmod a s) ∧ -s < Int.tmod a s ∧ Int.tmod a s < s := by
 have b1 := Int.tmod_lt_of_pos a hs
 have b2 := Int.lt_tmod_of_pos a hs
 have e : a % s = Int.tmod a s % s := by
  conv => lhs; rw [← Int.mul_tdiv_add_tmod a s]
  rw [Int.add_comm, Int.add_mul_emod_self_left]
 refine ⟨fun h => ?_, fun h => ?_, b2, b1⟩
 ·rw [e, ← Int.add_emod_right, Int.emod_eq_of_lt (by omega) (by omega)]
 ·rw [e, Int.emod_eq_of_lt (by omega) (by omega)]
theorem sum_good (hgood : ∀ n ∈ ws, 0 ≤ n ∧ n ≤ 1048576) (hl : ws.length ≤ 64) : sumC ws = ws.sum ∧ 0 ≤ ws.sum ∧ ws.sum ≤ 67108864 := by
 obtain ⟨s1, s2, s3⟩ := sumC_sum (b := 1048576) (by omega) ws (fun x hx => by have := hgood x hx; omega) (by omega) (by omega)
 have : 0 ≤ ws.sum := by
  clear s1 s2 s3 hl
  induction ws with
  | nil => simp
  | cons x r ih => rw [List.sum_cons]; have := hgood x (by simp); have := ih (fun n hn => hgood n (by simp [hn])); omega
 exact ⟨s1, this, by omega⟩
theorem Choose_spec (hw : Rd w ow (ws.map (.int .i64)) F) (hl : ws.length ≤ 1000000) (draw : Int) (c : Nat) :
  Calls Tryz.prog i_soft_Choose #[.int .i64 draw, .slice ow ws.length c] w (Ret fun v w' => v = .int .i64 (chooseI draw ws) ∧ w' = w) := by
 refine soft_Choose.calls _ _ _ _ ?_
 unfold soft_Choose.vc chooseI
 refine ⟨fun h => ?_, fun h64 => ?_⟩
 ·have := of_decide_eq_true h
  rw [if_pos (.inl (by omega))]; exact ⟨rfl, rfl⟩
 have h64 : ws.length ≤ 64 := by have := of_decide_eq_false h64; omega
 refine step_call (ContainsC_spec hw hl c) ?_
 rintro v w1 ⟨rfl, rfl⟩
 refine ⟨_, rfl, fun h => ?_, fun hg => ?_⟩
 ·rw [if_pos (.inr h)]; exact ⟨rfl, rfl⟩
 rw [if_neg (by rw [hg]; simp; omega)]
 have hgood := good_mem hg
 obtain ⟨s1, s2, s3⟩ := sum_good hgood h64
 refine step_call (Sum_spec (c := c) hw (by omega)) ?_
 rintro v w5 ⟨rfl, rfl⟩
 rw [s1]
 refine ⟨_, rfl, fun h => ?_, fun h => ?_⟩
 ·rw [if_pos (by simpa using h)]; exact ⟨rfl, rfl⟩
 have h : ws.sum ≠ 0 := by simpa using h
 rw [if_neg h]
 obtain ⟨t1, t2, t3, t4⟩ := tmod_fix (a := draw) (s := ws.sum) (by omega)
 have hm := Int.emod_nonneg draw h
 have hm2 := Int.emod_lt_of_pos draw (show 0 < ws.sum by omega)
 refine ⟨h, fun rest w' => w' = w5 ∧ rest = draw % ws.sum, ⟨fun hn => ⟨rfl, ?_⟩, fun hn => ⟨rfl, (t2 (of_decide_eq_false hn)).symm⟩⟩, ?_⟩
 ·have hn := of_decide_eq_true hn
  rw [wrap_id (by omega) (by omega)]; exact (t1 hn).symm
 rintro jk r0 w ⟨rfl, rfl⟩
 have hr0 := hm
 have hr1 : draw % ws.sum ≤ 100000000 := by omega
 refine ⟨fun rest i k w' => w' = w ∧ 0 ≤ rest ∧ rest ≤ 100000000 ∧ ∃ j : Nat, i = j ∧ j ≤ ws.length ∧ k = ws.length - j ∧ pick rest (ws.drop j) j = pick (draw % ws.sum) ws 0, ⟨_, rfl, hr0, hr1, 0, rfl, Nat.zero_le _, rfl, rfl⟩, ?_⟩
 rintro jk rest i k w' ⟨rfl, h1, h2, j, rfl, hj, rfl, hp⟩
 refine ⟨fun hlt => ?_, fun hge => ?_⟩
 ·have hlt : j < ws.length := by have := of_decide_eq_true hlt; omega
  have hn := hgood _ (List.getElem_mem hlt)
  rw [List.drop_eq_getElem_cons hlt, pick] at hp
  have rd : ∀ {K : Addr → Prop}, (∀ p : Addr, w'.cell? (p.add ((j : Int).toNat * 1)) = some (.int .i64 ws[j]) → K p) → someV ow K := fun hk => hw.at (j := (j : Int).toNat * 1) (v := .int .i64 ws[j]) (by simp [hlt]) hk
  refine ⟨⟨by omega, by omega⟩, rd fun p hpp => ⟨_, hpp, fun hh => ?_, fun hh => ?_⟩⟩
  ·rw [if_pos (of_decide_eq_true hh)] at hp
   exact ⟨by rw [← hp], rfl⟩
  ·have hh := of_decide_eq_false hh
   rw [if_neg hh] at hp
   rw [wrap_id (x := rest - ws[j]) (by omega) (by omega)]
   exact ⟨ws.length - (j + 1), by omega, rfl, by omega, by omega, j + 1, by rw [wrap_id (by omega) (by omega)]; rfl, hlt, rfl, hp⟩
 ·have : j = ws.length := by have := of_decide_eq_false hge; omega
  subst this
  rw [List.drop_length, pick] at hp
  exact ⟨by rw [hp], rfl⟩
end
end Go.Proofs.YtkbikekbaboclaaGreat.Soft
set_option linter.unusedVariables false
set_option linter.unusedSimpArgs false
namespace Go.Proofs.YtkbikekbaboclaaGreat.Soft
open Go Go.Proofs V Vc Num Go.RowKit
def mixOk (ws : List Int) (zs : List RowD) : Bool := decide (zs.length ≠ 0) && decide (ws.length = zs.length) && !(ws.any badW) && decide (ws.sum ≠ 0) && sameL zs
def mixTerm (ws : List Int) (zs : List RowD) (k : Nat) : List Int := List.zipWith (fun a z => a * cl (z.2.2.getD k 0)) ws zs
def mixL (ws : List Int) (zs : List RowD) : List Int := (List.range (wid zs)).map fun k => sat (Int.tdiv (mixTerm ws zs k).sum ws.sum)
def mixT (ws : List Int) (zs : List RowD) : List Int := if mixOk ws zs then mixL ws zs else []
theorem goodW_mem {ws : List Int} (h : ws.any badW = false) : ∀ n ∈ ws, 0 ≤ n ∧ n ≤ 65536 := fun n hn => by
 have := List.any_eq_false.1 h n hn
 unfold badW at this
 simp at this
 omega
theorem sum_goodW {ws : List Int} (hgood : ∀ n ∈ ws, 0 ≤ n ∧ n ≤ 65536) (hl : ws.length ≤ 1000) : sumC ws = ws.sum ∧ 0 ≤ ws.sum ∧ ws.sum ≤ 65536000 := by
 obtain ⟨s1, s2, s3⟩ := sumC_sum (b := 65536) (by omega) ws (fun x hx => by have := hgood x hx; omega) (by omega) (by omega)
 have : 0 ≤ ws.sum := by
  clear s1 s2 s3 hl
  induction ws with
  | nil => simp
  | cons x r ih => rw [List.sum_cons]; have := hgood x (by simp); have := ih (fun n hn => hgood n (by simp [hn])); omega
 exact ⟨s1, this, by omega⟩
theorem mixOk_parts {ws : List Int} {zs : List RowD} (h : mixOk ws zs = true) : 0 < zs.length ∧ ws.length = zs.length ∧ (∀ n ∈ ws, 0 ≤ n ∧ n ≤ 65536) ∧ ws.sum ≠ 0 ∧ ∀ z ∈ zs, z.2.2.length = wid zs := by
 unfold mixOk at h
 simp only [Bool.and_eq_true, decide_eq_true_eq, Bool.not_eq_true'] at h
 obtain ⟨⟨⟨⟨h1, h2⟩, h3⟩, h4⟩, h5⟩ := h
 exact ⟨by omega, h2, goodW_mem h3, h4, same_all h5⟩
theorem tdiv_bd {x s B : Int} (h1 : -B ≤ x) (h2 : x ≤ B) : -B ≤ Int.tdiv x s ∧ Int.tdiv x s ≤ B := by
 have h := Int.natAbs_tdiv x s
 have h3 : x.natAbs.div s.natAbs ≤ x.natAbs := Nat.div_le_self _ _
 rw [← h] at h3
 omega
theorem term_bd {ws : List Int} {zs : List RowD} (hgood : ∀ n ∈ ws, 0 ≤ n ∧ n ≤ 65536) (k : Nat) : ∀ x ∈ mixTerm ws zs k, -70368744177664 ≤ x ∧ x ≤ 70368744177664 := by
 intro x hx
 obtain ⟨i, hi, rfl⟩ := List.getElem_of_mem hx
 unfold mixTerm at hi ⊢
 have hi2 := hi
 rw [List.length_zipWith] at hi2
 rw [List.getElem_zipWith]
 have a := hgood _ (List.getElem_mem (show i < ws.length by omega))
 have b := cl_le ((zs[i]'(by omega)).2.2.getD k 0)
 exact mul_bd (A := 65536) (B := 1073741824) (by omega) a.2 b.1 b.2
section
variable {w : World} {o ow : Option Addr} {c cw : Nat} {ws : List Int} {zs : List RowD} {F G K : Nat → Prop}
theorem isMix_spec (hw : Rd w ow (ws.map (.int .i64)) F) (hz : Rd w o (zs.map encR) G) (hl : ws.length ≤ 1000) (hl2 : zs.length ≤ 1000) (cw c : Nat) :
  Calls Tryz.prog i_soft_isMix #[.slice ow ws.length cw, .slice o zs.length c] w (Ret fun v w' => v = .bool (mixOk ws zs) ∧ Ch Non w w') := by
 refine soft_isMix.calls _ _ _ _ _ _ ?_
 unfold soft_isMix.vc
 intro w1 e1
 have hB := Blk.new e1
 have hC : Ch Non w w1 := Ch.alloc e1
 generalize w.heap.size = tb at hB ⊢
 refine ⟨_, _, _, hB.cell 0 rfl, fun h => ⟨?_, hC⟩, fun h0 => ⟨_, _, _, hB.cell 0 rfl, fun h => ⟨?_, hC⟩, fun h1 => ?_⟩⟩
 ·have h : zs.length = 0 := by simp at h; rw [h]; rfl
  unfold mixOk; rw [decide_eq_false (by simpa using h)]; simp
 ·have h : ws.length ≠ zs.length := by simp at h; omega
  unfold mixOk; rw [decide_eq_false h]; simp
 have h0 : zs.length ≠ 0 := by simp at h0; simpa using h0
 have h1 : ws.length = zs.length := by simp at h1; omega
 refine step_call (Sum_spec (c := cw) (hw.keepN hC) (by omega)) ?_
 rintro v w2 ⟨rfl, rfl⟩
 have hsum : ws.any badW = false → sumC ws = ws.sum := fun h => (sum_goodW (goodW_mem h) hl).1
 have hpre : (decide (zs.length ≠ 0) && decide (ws.length = zs.length)) = true := by rw [decide_eq_true h0, decide_eq_true h1]; rfl
 refine ⟨_, rfl, fun h => ⟨?_, hC⟩, fun h2 => ?_⟩
 ·have h : sumC ws = 0 := by simpa using h
  cases hb : ws.any badW with
  | true => unfold mixOk; rw [hb]; simp
  | false => unfold mixOk; rw [← hsum hb, h]; simp
 have h2 : sumC ws ≠ 0 := by simpa using h2
 refine step_call (ContainsW_spec (hw.keepN hC) (by omega) cw) ?_
 rintro v w3 ⟨rfl, rfl⟩
 refine ⟨_, rfl, fun hb => ⟨_, _, _, hB.cell 0 rfl, ?_⟩, fun hb => ⟨?_, hC⟩⟩
 ·have hb : ws.any badW = false := by simpa using hb
  refine step_call (ContainsU_spec (hz.keepN hC) (by omega) hB (by omega)) ?_
  rintro v w4 ⟨rfl, rfl⟩
  refine ⟨_, rfl, ?_, hC⟩
  unfold mixOk
  rw [hpre, hb, decide_eq_true (by rw [← hsum hb]; exact h2)]
  simp
 ·have hb : ws.any badW = true := by simpa using hb
  unfold mixOk; rw [hb]; simp
theorem Mix_spec (hw : Rd w ow (ws.map (.int .i64)) F) (hz : Rd w o (zs.map encR) G) (hzs : ∀ z ∈ zs, Rd w z.1 (z.2.2.map (.int .i64)) K ∧ z.2.2.length ≤ 1000000) (hl : ws.length ≤ 1000) (hl2 : zs.length ≤ 1000) (cw c : Nat) :
  Calls Tryz.prog i_soft_Mix #[.slice ow ws.length cw, .slice o zs.length c] w (Ret fun v w' => ∃ (A : Option Addr) (C : Nat), v = .slice A (mixT ws zs).length C ∧ Gr Non w w' t_int 1 A (mixT ws zs).length C ((mixT ws zs).map (.int .i64))) := by
 refine soft_Mix.calls _ _ _ _ _ _ ?_
 unfold soft_Mix.vc
 refine step_call (isMix_spec hw hz hl hl2 cw c) ?_
 rintro v w1 ⟨rfl, hC⟩
 refine ⟨_, rfl, fun h => ?_, fun h => ?_⟩
 ·have h : mixOk ws zs = false := by simpa using h
  unfold mixT; rw [h]; exact ⟨none, 0, rfl, Gr.nil hC⟩
 have h : mixOk ws zs = true := by simpa using h
 obtain ⟨h0, h1, hgood, hs0, hall⟩ := mixOk_parts h
 unfold mixT
 rw [h, if_pos rfl]
 have hw := hw.keepN hC
 have hz := hz.keepN hC
 obtain ⟨s1, s2, s3⟩ := sum_goodW hgood hl
 refine step_call (Sum_spec (c := cw) hw (by omega)) ?_
 rintro v w2 ⟨rfl, rfl⟩
 rw [s1]
 refine ⟨_, rfl, ⟨by omega, by omega⟩, hz.at0 (v := encR zs[0]) (by rw [List.getElem?_map, List.getElem?_eq_getElem h0]; rfl) fun p hp => ⟨_, _, _, hp, ?_⟩⟩
 rw [← wid_pos h0]
 have hL : (mixL ws zs).length = wid zs := by simp [mixL]
 have hwid : wid zs ≤ 1000000 := by rw [wid_pos h0]; exact (hzs _ (List.getElem_mem h0)).2
 have hLi : ∀ (j : Nat) (h : j < (mixL ws zs).length), (mixL ws zs)[j] = sat (Int.tdiv (mixTerm ws zs j).sum ws.sum) := fun j h => by simp [mixL]
 generalize mixL ws zs = L at hL hLi ⊢
 refine ⟨fun A j CC k x w' => k = j ∧ j ≤ L.length ∧ x = L.length - j ∧ Gr Non w2 w' t_int 1 A j CC ((L.take j).map (.int .i64)), ⟨_, rfl, Nat.zero_le _, rfl, Gr.nil (Ch.refl _ _)⟩, ?_⟩
 rintro jk A j CC k x w3 ⟨rfl, hj, rfl, hg⟩
 refine ⟨fun hlt => ?_, fun hge => ?_⟩
 ·have hlt : j < L.length := by have := of_decide_eq_true hlt; omega
  have hT : (mixTerm ws zs j).length = zs.length := by simp [mixTerm]; omega
  have hTi : ∀ (m : Nat) (h : m < (mixTerm ws zs j).length) (h1 : m < ws.length) (h2 : m < zs.length) (h3 : j < zs[m].2.2.length), (mixTerm ws zs j)[m] = ws[m] * cl zs[m].2.2[j] := fun m h h1 h2 h3 => by simp [mixTerm, List.getD_eq_getElem?_getD, List.getElem?_eq_getElem h3]
  have hbd := term_bd (zs := zs) hgood j
  have hval := hLi j hlt
  generalize mixTerm ws zs j = T at hT hTi hbd hval
  have hpart : ∀ m, -(70368744177664 * ((T.take m).length : Int)) ≤ (T.take m).sum ∧ (T.take m).sum ≤ 70368744177664 * ((T.take m).length : Int) := fun m => sum_bd (fun x hx => hbd x (List.mem_of_mem_take hx))
  have hpl : ∀ m, ((T.take m).length : Int) ≤ 1000 := fun m => by simp; omega
  refine ⟨fun x k g w' => Ch Non w3 w' ∧ ∃ m : Nat, k = m ∧ m ≤ T.length ∧ g = T.length - m ∧ x = (T.take m).sum, ⟨_, Ch.refl _ _, 0, rfl, Nat.zero_le _, rfl, rfl⟩, ?_⟩
  rintro jk x k g w4 ⟨hc4, m, rfl, hm, rfl, rfl⟩
  refine ⟨fun hlt2 => ?_, fun hge2 => ?_⟩
  ·have hlt2 : m < T.length := by have := of_decide_eq_true hlt2; omega
   have hmz : m < zs.length := by omega
   have hmw : m < ws.length := by omega
   have hjz : j < zs[m].2.2.length := by rw [hall _ (List.getElem_mem hmz)]; omega
   have hz4 := (hz.keepN hg.2).keepN hc4
   refine ⟨⟨by omega, by omega⟩, hz4.at (j := (m : Int).toNat * 1) (v := encR zs[m]) (by simp [hmz]) fun p hp => ⟨_, _, _, hp, fun w' => Ch Non w3 w', fun w5 e5 => ?_⟩⟩
   have hc5 := hc4.andN (Ch.drew (F := Non) e5)
   refine ⟨hc5, ⟨by omega, by omega⟩, Rd.keeps (j := m) (S := fun w' => Ch Non w3 w') (fun w2 h2 => (hw.keepN hg.2).keepN h2) hc4 hmw fun p2 hp2 => ⟨_, fun w' h => by rw [toNat_mul_one]; exact hp2 w' h, ⟨by omega, by omega⟩,
    Rd.keeps (j := j) (S := fun w' => Ch Non w3 w') (fun w2 h2 => (((hzs _ (List.getElem_mem hmz)).1.keepN hC).keepN hg.2).keepN h2) hc4 hjz fun p3 hp3 => ⟨_, fun w' h => by rw [toNat_mul_one]; exact hp3 w' h, ?_⟩⟩⟩
   refine step_call (clamped_spec w5 _) ?_
   rintro v w6 ⟨rfl, rfl⟩
   have hb := hbd _ (List.getElem_mem hlt2)
   have h1' := hpart m
   have h2' := hpl m
   rw [hTi m hlt2 hmw hmz hjz] at hb
   refine ⟨_, rfl, hc5, T.length - (m + 1), by omega, hc5, m + 1, by rw [wrap_id (by omega) (by omega)]; rfl, hlt2, rfl, ?_⟩
   rw [take_snoc T m hlt2, sum_snoc, hTi m hlt2 hmw hmz hjz, wrap_id (x := ws[m] * _) (by omega) (by omega), wrap_id (by omega) (by omega)]
  ·have : m = T.length := by have := of_decide_eq_false hge2; omega
   subst this
   have h1' := hpart T.length
   have h2' := hpl T.length
   rw [List.take_length] at h1' h2' ⊢
   have h3 := tdiv_bd (x := T.sum) (s := ws.sum) (B := 70368744177664000) (by omega) (by omega)
   rw [wrap_id (by omega) (by omega)]
   refine ⟨hs0, ?_⟩
   refine step_call (Sat_spec _ _) ?_
   rintro v w7 ⟨rfl, rfl⟩
   refine ⟨_, rfl, fun w8 e8 => ?_⟩
   rw [← hval] at e8
   obtain ⟨A', C', w9, hr, hg9, _⟩ := (hg.keepN hc4).next el_S_int t_S_int hlt (by omega) e8 rfl rfl (by omega)
   exact ⟨A', _, C', w9, hr, L.length - (j + 1), by omega, by rw [wrap_id (by omega) (by omega)]; rfl, hlt, rfl, hg9⟩
 ·have : j = L.length := by have := of_decide_eq_false hge; omega
  subst this
  rw [List.take_length] at hg
  exact ⟨A, CC, rfl, hg.1.mono (fun i _ hN => ⟨Nat.le_trans hC.size hN.1, hN.2⟩), hC.andN hg.2⟩
end
end Go.Proofs.YtkbikekbaboclaaGreat.Soft
set_option linter.unusedVariables false
set_option linter.unusedSimpArgs false
namespace Go.Proofs.YtkbikekbaboclaaGreat.Conf
open Go Go.Proofs V Vc Go.RowKit
structure CfD where
 vocab : Int
 dim : Int
 heads : Int
 blocks : Int
 hidden : Int
 context : Int
def cfE (c : CfD) : List Value := [.int .i64 c.vocab, .int .i64 c.dim, .int .i64 c.heads, .int .i64 c.blocks, .int .i64 c.hidden, .int .i64 c.context]
def side (c : CfD) (p : Int) : Int × Int :=
 if p = 0 then (c.vocab, c.dim) else if p = 1 then (c.context, c.dim) else if p = 2 ∨ p = 7 ∨ p = 11 then (1, c.dim) else if p = 3 ∨ p = 4 ∨ p = 5 ∨ p = 6 then (c.dim, c.dim) else if p = 8 ∨ p = 9 then (c.hidden, c.dim) else if p = 10 then (c.dim, c.hidden) else (0, 0)
theorem side_spec (w : World) (c : CfD) (p : Int) : Calls Tryz.prog i_conf_Shape_side #[.agg (cfE c).toArray, .int .i64 p] w (Ret fun v w' => v = .tuple #[.int .i64 (side c p).1, .int .i64 (side c p).2] ∧ Ch Non w w') := by
 refine conf_Shape_side.calls _ _ _ _ _ _ _ ?_
 unfold conf_Shape_side.vc
 intro w1 e1
 have hB := Blk.new e1
 refine ⟨fun h => ?_, fun n0 => ⟨fun h => ?_, fun n1 => ⟨fun h => ⟨h, ?_⟩, fun n2 => ⟨fun h => ⟨h, ?_⟩, fun n7 => ⟨fun h => ?_, fun n11 => ⟨fun h => ⟨h, ?_⟩, fun n3 => ⟨fun h => ⟨h, ?_⟩, fun n4 => ⟨fun h => ⟨h, ?_⟩, fun n5 => ⟨fun h => ?_, fun n6 => ⟨fun h => ⟨h, ?_⟩, fun n8 => ⟨fun h => ?_, fun n9 => ⟨fun h => ?_, fun n10 => ?_⟩⟩⟩⟩⟩⟩⟩⟩⟩⟩⟩⟩
 ·have h := eq_of_beq h
  subst h
  exact ⟨fun w' => Ch Non w1 w', fun w2 e2 => ⟨Ch.drew e2, _, fun w' hc => (hB.keepN hc).cell 0 rfl, _, fun w' hc => (hB.keepN hc).cell 1 rfl, rfl, (Ch.alloc e1).andN (Ch.drew e2)⟩⟩
 ·have h := eq_of_beq h
  subst h
  exact ⟨fun w' => Ch Non w1 w', fun w2 e2 => ⟨Ch.drew e2, _, fun w' hc => (hB.keepN hc).cell 5 rfl, _, fun w' hc => (hB.keepN hc).cell 1 rfl, rfl, (Ch.alloc e1).andN (Ch.drew e2)⟩⟩
 iterate 3
  ·have h := eq_of_beq h
   subst h
   exact ⟨fun w' => Ch Non w1 w', fun w2 e2 => ⟨Ch.drew e2, _, fun w' hc => (hB.keepN hc).cell 1 rfl, rfl, (Ch.alloc e1).andN (Ch.drew e2)⟩⟩
 iterate 4
  ·have h := eq_of_beq h
   subst h
   exact ⟨fun w' => Ch Non w1 w', fun w2 e2 => ⟨Ch.drew e2, _, fun w' hc => (hB.keepN hc).cell 1 rfl, _, fun w' hc => (hB.keepN hc).cell 1 rfl, rfl, (Ch.alloc e1).andN (Ch.drew e2)⟩⟩
 iterate 2
  ·have h := eq_of_beq h
   subst h
   exact ⟨fun w' => Ch Non w1 w', fun w2 e2 => ⟨Ch.drew e2, _, fun w' hc => (hB.keepN hc).cell 4 rfl, _, fun w' hc => (hB.keepN hc).cell 1 rfl, rfl, (Ch.alloc e1).andN (Ch.drew e2)⟩⟩
 ·have h := eq_of_beq h
  subst h
  exact ⟨fun w' => Ch Non w1 w', fun w2 e2 => ⟨Ch.drew e2, _, fun w' hc => (hB.keepN hc).cell 1 rfl, _, fun w' hc => (hB.keepN hc).cell 4 rfl, rfl, (Ch.alloc e1).andN (Ch.drew e2)⟩⟩
 ·have ne : ∀ {k : Int}, (p == k) = false → ¬ p = k := fun h he => by subst he; simp at h
  have m0 := ne n0
  have m1 := ne n1
  have m2 := ne n2
  have m3 := ne n3
  have m4 := ne n4
  have m5 := ne n5
  have m6 := ne n6
  have m7 := ne n7
  have m8 := ne n8
  have m9 := ne n9
  have m10 := ne n10
  have m11 := ne n11
  have hs : side c p = (0, 0) := by
   unfold side
   rw [if_neg m0, if_neg m1, if_neg (by omega), if_neg (by omega), if_neg (by omega), if_neg m10]
  rw [hs]
  exact ⟨rfl, Ch.alloc e1⟩
def small (c : CfD) : Prop := (0 ≤ c.vocab ∧ c.vocab ≤ 32) ∧ (0 ≤ c.dim ∧ c.dim ≤ 32) ∧ (0 ≤ c.blocks ∧ c.blocks ≤ 32) ∧ (0 ≤ c.hidden ∧ c.hidden ≤ 32) ∧ (0 ≤ c.context ∧ c.context ≤ 32)
theorem side_le {c : CfD} (h : small c) (p : Int) : (0 ≤ (side c p).1 ∧ (side c p).1 ≤ 32) ∧ (0 ≤ (side c p).2 ∧ (side c p).2 ≤ 32) := by
 obtain ⟨h1, h2, h3, h4, h5⟩ := h
 unfold side
 (repeat' split) <;> dsimp only <;> omega
def part (c : CfD) (p : Int) : Int := (side c p).1 * (side c p).2
theorem part_le {c : CfD} (h : small c) (p : Int) : 0 ≤ part c p ∧ part c p ≤ 1024 := by
 obtain ⟨⟨a0, a1⟩, ⟨b0, b1⟩⟩ := side_le h p
 unfold part
 exact ⟨Int.mul_nonneg a0 b0, Int.le_trans (Int.mul_le_mul a1 b1 b0 (by omega)) (by omega)⟩
def spanN (c : CfD) (a : Nat) : Nat → Int
 | 0 => 0
 | n + 1 => spanN c a n + part c ((a : Int) + n)
theorem span_le {c : CfD} (h : small c) (a n : Nat) : 0 ≤ spanN c a n ∧ spanN c a n ≤ 1024 * n := by
 induction n with
 | zero => exact ⟨Int.le_refl _, by simp [spanN]⟩
 | succ n ih =>
  have := part_le h ((a : Int) + n)
  simp only [spanN]
  omega
theorem span_spec (w : World) {c : CfD} (h : small c) {a n : Nat} (hn : a + n ≤ 12) {to : Int} (hto : to = (a : Int) + n - 1) : Calls Tryz.prog i_conf_Shape_span #[.agg (cfE c).toArray, .int .i64 a, .int .i64 to] w (Ret fun v w' => v = .int .i64 (spanN c a n) ∧ Ch Non w w') := by
 refine conf_Shape_span.calls _ _ _ _ _ _ _ _ ?_
 unfold conf_Shape_span.vc
 intro w1 e1
 have hB := Blk.new e1
 refine ⟨fun m p k w' => ∃ j : Nat, p = (a : Int) + j ∧ j ≤ n ∧ k = n - j ∧ m = spanN c a j ∧ Ch Non w1 w', ⟨_, 0, by simp, Nat.zero_le _, rfl, rfl, Ch.refl _ _⟩, ?_⟩
 rintro jk m p k w2 ⟨j, rfl, hj, rfl, rfl, hc⟩
 refine ⟨fun hlt => ?_, fun hge => ?_⟩
 ·have hlt : j < n := by have := of_decide_eq_true hlt; omega
  have hB2 := hB.keepN hc
  refine ⟨_, _, _, _, _, _, ⟨hB2.cell 0 rfl, hB2.cell 1 rfl, hB2.cell 2 rfl, hB2.cell 3 rfl, hB2.cell 4 rfl, hB2.cell 5 rfl⟩, ?_⟩
  refine step_call (side_spec w2 c _) ?_
  rintro v w3 ⟨rfl, hc3⟩
  have h1 := part_le h ((a : Int) + j)
  have h2 := span_le h a j
  have h3 : IntKind.i64.wrap ((side c ((a : Int) + j)).1 * (side c ((a : Int) + j)).2) = part c ((a : Int) + j) := wrap_id (by unfold part at h1; omega) (by unfold part at h1; omega)
  refine ⟨_, _, rfl, n - (j + 1), by omega, j + 1, by rw [wrap_id (by omega) (by omega)]; omega, hlt, rfl, ?_, hc.andN hc3⟩
  rw [h3, wrap_id (by omega) (by omega)]
  rfl
 ·have hjn : j = n := by have := of_decide_eq_false hge; omega
  subst hjn
  exact ⟨rfl, (Ch.alloc e1).andN hc⟩
def allN (c : CfD) : Int := spanN c 0 2 + c.blocks * spanN c 2 9 + spanN c 11 1
theorem all_spec (w : World) {c : CfD} (h : small c) : Calls Tryz.prog i_conf_Shape_all #[.agg (cfE c).toArray] w (Ret fun v w' => v = .int .i64 (allN c) ∧ Ch Non w w') := by
 refine conf_Shape_all.calls _ _ _ _ _ _ ?_
 unfold conf_Shape_all.vc
 intro w1 e1
 have hB := Blk.new e1
 have cl : ∀ {i : Nat} {v : Value}, (cfE c)[i]? = some v → ∀ w', Ch Non w1 w' → w'.cell? ⟨w.heap.size, i, none⟩ = some v := fun hi w' hc => (hB.keepN hc).cell _ hi
 refine ⟨fun w' => Ch Non w1 w', fun w2 e2 => ⟨Ch.drew e2, _, _, _, _, _, _, ⟨cl (i := 0) rfl, cl (i := 1) rfl, cl (i := 2) rfl, cl (i := 3) rfl, cl (i := 4) rfl, cl (i := 5) rfl⟩, _, cl (i := 3) rfl, _, _, _, _, _, _, ⟨cl (i := 0) rfl, cl (i := 1) rfl, cl (i := 2) rfl, cl (i := 3) rfl, cl (i := 4) rfl, cl (i := 5) rfl⟩, _, _, _, _, _, _, ⟨cl (i := 0) rfl, cl (i := 1) rfl, cl (i := 2) rfl, cl (i := 3) rfl, cl (i := 4) rfl, cl (i := 5) rfl⟩, ?_⟩⟩
 refine step_call (span_spec w2 h (a := 0) (n := 2) (by omega) (by decide)) ?_
 rintro v w7 ⟨rfl, hc7⟩
 have hc17 := (Ch.drew (F := Non) e2).andN hc7
 refine ⟨_, rfl, hc17, ?_⟩
 refine step_call (span_spec w7 h (a := 2) (n := 9) (by omega) (by decide)) ?_
 rintro v w8 ⟨rfl, hc8⟩
 refine ⟨_, rfl, hc17.andN hc8, ?_⟩
 refine step_call (span_spec w8 h (a := 11) (n := 1) (by omega) (by decide)) ?_
 rintro v w9 ⟨rfl, hc9⟩
 refine ⟨_, rfl, (hc17.andN hc8).andN hc9, ?_, (Ch.alloc e1).andN ((hc17.andN hc8).andN hc9)⟩
 have a1 := span_le h 0 2
 have a2 := span_le h 2 9
 have a3 := span_le h 11 1
 have hb := h.2.2.1
 have hm : 0 ≤ c.blocks * spanN c 2 9 ∧ c.blocks * spanN c 2 9 ≤ 32 * 9216 := ⟨Int.mul_nonneg hb.1 a2.1, Int.mul_le_mul hb.2 (by omega) a2.1 (by omega)⟩
 unfold allN
 rw [wrap_id (x := c.blocks * spanN c 2 9) (by omega) (by omega), wrap_id (x := spanN c 0 2 + c.blocks * spanN c 2 9) (by omega) (by omega), wrap_id (by omega) (by omega)]
def okC (c : CfD) : Prop := (2 ≤ c.vocab ∧ c.vocab ≤ 32) ∧ (1 ≤ c.dim ∧ c.dim ≤ 16) ∧ (1 ≤ c.heads ∧ c.heads ≤ 4) ∧ (1 ≤ c.blocks ∧ c.blocks ≤ 3) ∧ (1 ≤ c.hidden ∧ c.hidden ≤ 32) ∧ (1 ≤ c.context ∧ c.context ≤ 32) ∧ Int.tmod c.dim c.heads = 0 ∧ allN c ≤ 8192
instance (c : CfD) : Decidable (okC c) := by unfold okC; infer_instance
theorem within_spec (w : World) (n a b : Int) : Calls Tryz.prog i_conf_within #[.int .i64 n, .int .i64 a, .int .i64 b] w (Ret fun v w' => v = .bool (decide (a ≤ n ∧ n ≤ b)) ∧ w' = w) := by
 refine conf_within.calls _ _ _ ?_
 unfold conf_within.vc
 refine ⟨fun h => ⟨?_, rfl⟩, fun h => ⟨?_, rfl⟩⟩
 ·have h := of_decide_eq_true h
  congr 1
  by_cases h2 : n ≤ b
  ·rw [decide_eq_true h2, decide_eq_true ⟨h, h2⟩]
  ·rw [decide_eq_false h2, decide_eq_false (fun k => h2 k.2)]
 ·have h := of_decide_eq_false h
  rw [decide_eq_false (fun k => h k.1)]
theorem nb {p : Prop} [Decidable p] (h : (!decide p) = true) : ¬ p := by simpa using h
theorem nb2 {p : Prop} [Decidable p] (h : (!decide p) = false) : p := by simpa using h
theorem Good_spec (w : World) (c : CfD) : Calls Tryz.prog i_conf_Good #[.agg (cfE c).toArray] w (Ret fun v w' => v = .bool (decide (okC c)) ∧ Ch Non w w') := by
 refine conf_Good.calls _ _ _ _ _ _ ?_
 unfold conf_Good.vc
 intro w1 e1
 have hB := Blk.new e1
 have hc1 : Ch Non w w1 := Ch.alloc e1
 have no : ¬ okC c → Value.bool false = .bool (decide (okC c)) ∧ Ch Non w w1 := fun h => ⟨by rw [decide_eq_false h], hc1⟩
 refine ⟨_, hB.cell 0 rfl, step_call (within_spec w1 _ _ _) ?_⟩
 rintro v w2 ⟨rfl, rfl⟩
 refine ⟨_, rfl, fun h => no (fun k => nb h k.1), fun h1 => ?_⟩
 refine ⟨_, hB.cell 1 rfl, step_call (within_spec w2 _ _ _) ?_⟩
 rintro v w3 ⟨rfl, rfl⟩
 refine ⟨_, rfl, fun h => no (fun k => nb h k.2.1), fun h2 => ?_⟩
 refine ⟨_, hB.cell 2 rfl, step_call (within_spec w3 _ _ _) ?_⟩
 rintro v w4 ⟨rfl, rfl⟩
 refine ⟨_, rfl, fun h => no (fun k => nb h k.2.2.1), fun h3 => ?_⟩
 refine ⟨_, hB.cell 3 rfl, step_call (within_spec w4 _ _ _) ?_⟩
 rintro v w5 ⟨rfl, rfl⟩
 refine ⟨_, rfl, fun h => no (fun k => nb h k.2.2.2.1), fun h4 => ?_⟩
 refine ⟨_, hB.cell 4 rfl, step_call (within_spec w5 _ _ _) ?_⟩
 rintro v w6 ⟨rfl, rfl⟩
 refine ⟨_, rfl, fun h => no (fun k => nb h k.2.2.2.2.1), fun h5 => ?_⟩
 refine ⟨_, hB.cell 5 rfl, step_call (within_spec w6 _ _ _) ?_⟩
 rintro v w7 ⟨rfl, rfl⟩
 refine ⟨_, rfl, fun h => no (fun k => nb h k.2.2.2.2.2.1), fun h6 => ?_⟩
 have h1 := nb2 h1
 have h2 := nb2 h2
 have h3 := nb2 h3
 have h4 := nb2 h4
 have h5 := nb2 h5
 have h6 := nb2 h6
 refine ⟨_, hB.cell 1 rfl, _, hB.cell 2 rfl, by omega, fun h7 => ?_, fun h7 => no (fun k => by have := k.2.2.2.2.2.2.1; rw [this] at h7; simp at h7)⟩
 have h7 := eq_of_beq h7
 refine ⟨_, _, _, _, _, _, ⟨hB.cell 0 rfl, hB.cell 1 rfl, hB.cell 2 rfl, hB.cell 3 rfl, hB.cell 4 rfl, hB.cell 5 rfl⟩, ?_⟩
 refine step_call (all_spec w7 (c := c) ⟨by omega, by omega, by omega, by omega, by omega⟩) ?_
 rintro v w8 ⟨rfl, hc8⟩
 refine ⟨_, rfl, ?_, hc1.andN hc8⟩
 congr 1
 by_cases h8 : allN c ≤ 8192
 ·rw [decide_eq_true h8, decide_eq_true (show okC c from ⟨h1, h2, h3, h4, h5, h6, h7, h8⟩)]
 ·rw [decide_eq_false h8, decide_eq_false (fun k => h8 k.2.2.2.2.2.2.2)]
theorem okC.small {c : CfD} (h : okC c) : small c := by
 obtain ⟨h1, h2, _, h4, h5, h6, _, _⟩ := h
 exact ⟨by omega, by omega, by omega, by omega, by omega⟩
theorem Size_spec (w : World) (c : CfD) : Calls Tryz.prog i_conf_Shape_Size #[.agg (cfE c).toArray] w (Ret fun v w' => v = .int .i64 (if okC c then allN c else 0) ∧ Ch Non w w') := by
 refine conf_Shape_Size.calls _ _ _ _ _ _ ?_
 unfold conf_Shape_Size.vc
 intro w1 e1
 have hB := Blk.new e1
 refine ⟨_, _, _, _, _, _, ⟨hB.cell 0 rfl, hB.cell 1 rfl, hB.cell 2 rfl, hB.cell 3 rfl, hB.cell 4 rfl, hB.cell 5 rfl⟩, ?_⟩
 refine step_call (Good_spec w1 c) ?_
 rintro v w2 ⟨rfl, hc2⟩
 have hB2 := hB.keepN hc2
 refine ⟨_, rfl, fun h => ⟨by rw [if_neg (nb h)], (Ch.alloc e1).andN hc2⟩, fun h => ?_⟩
 refine ⟨_, _, _, _, _, _, ⟨hB2.cell 0 rfl, hB2.cell 1 rfl, hB2.cell 2 rfl, hB2.cell 3 rfl, hB2.cell 4 rfl, hB2.cell 5 rfl⟩, ?_⟩
 refine step_call (all_spec w2 (okC.small (nb2 h))) ?_
 rintro v w3 ⟨rfl, hc3⟩
 exact ⟨_, rfl, by rw [if_pos (nb2 h)], ((Ch.alloc e1).andN hc2).andN hc3⟩
def BrR (w : World) (b : Nat) (c : CfD) (wt : ByteArray) : Prop := Blk w b (cfE c ++ [.string wt]) t_brain_Brain
theorem brOf_spec (w : World) (c : CfD) (wt : ByteArray) : Calls Tryz.prog i_brain_Of #[.agg (cfE c).toArray, .string wt] w (Ret fun v w' => Ch Non w w' ∧
  (okC c ∧ (wt.size : Int) = allN c → ∃ b, v = .tuple #[.pointer (some ⟨b, 0, none⟩), .int .i64 0] ∧ w.heap.size ≤ b ∧ BrR w' b c wt) ∧
  (okC c ∧ ¬ (wt.size : Int) = allN c → v = .tuple #[.pointer none, .int .i64 5]) ∧ (¬ okC c → v = .tuple #[.pointer none, .int .i64 1])) := by
 refine brain_Of.calls _ _ _ _ _ _ _ ?_
 unfold brain_Of.vc
 intro w1 e1
 have hB := Blk.new e1
 refine ⟨_, _, _, _, _, _, ⟨hB.cell 0 rfl, hB.cell 1 rfl, hB.cell 2 rfl, hB.cell 3 rfl, hB.cell 4 rfl, hB.cell 5 rfl⟩, fun w2 e2 => ?_⟩
 have hS2 := Blk.new e2
 have s1 : w.heap.size < w1.heap.size := hB.lt
 have s2 : w1.heap.size < w2.heap.size := hS2.lt
 refine ⟨⟨hS2.ok 0 rfl, hS2.ok 1 rfl, hS2.ok 2 rfl, hS2.ok 3 rfl, hS2.ok 4 rfl, hS2.ok 5 rfl⟩, fun w3 e3 => ?_⟩
 have e3' : w3 = w2.setCells w1.heap.size 0 (cfE c) := e3
 have hS3 := hS2.all (cfE c) rfl e3'
 have hc13 : Ch Non w1 w3 := (Ch.alloc (F := Non) e2).trans (Ch.sets (F := (· = w1.heap.size)) e3' rfl) (fun i hi he => by omega)
 have hB3 := hB.keepN hc13
 refine ⟨_, _, _, _, _, _, ⟨hB3.cell 0 rfl, hB3.cell 1 rfl, hB3.cell 2 rfl, hB3.cell 3 rfl, hB3.cell 4 rfl, hB3.cell 5 rfl⟩, ?_⟩
 refine step_call (Good_spec w3 c) ?_
 rintro v w4 ⟨rfl, hc4⟩
 have hS4 := hS3.keepN hc4
 have hc04 : Ch Non w w4 := ((Ch.alloc e1).andN hc13).andN hc4
 refine ⟨_, rfl, fun h => ⟨hc04, fun k => absurd k.1 (nb h), fun k => absurd k.1 (nb h), fun _ => rfl⟩, fun h => ?_⟩
 have hok := nb2 h
 refine ⟨_, _, _, _, _, _, ⟨hS4.cell 0 rfl, hS4.cell 1 rfl, hS4.cell 2 rfl, hS4.cell 3 rfl, hS4.cell 4 rfl, hS4.cell 5 rfl⟩, ?_⟩
 refine step_call (Size_spec w4 c) ?_
 rintro v w5 ⟨rfl, hc5⟩
 have hS5 := hS4.keepN hc5
 rw [if_pos hok]
 refine ⟨_, rfl, fun h => ?_, fun h => ?_⟩
 ·have h : ¬ (wt.size : Int) = allN c := by simpa using h
  exact ⟨hc04.andN hc5, fun k => absurd k.2 h, fun _ => rfl, fun k => absurd hok k⟩
 ·have h : (wt.size : Int) = allN c := by simpa using h
  refine ⟨_, _, _, _, _, _, ⟨hS5.cell 0 rfl, hS5.cell 1 rfl, hS5.cell 2 rfl, hS5.cell 3 rfl, hS5.cell 4 rfl, hS5.cell 5 rfl⟩, fun w6 e6 => ?_⟩
  exact ⟨(hc04.andN hc5).andN (Ch.alloc e6), fun _ => ⟨_, rfl, (hc04.andN hc5).size, Blk.new e6⟩, fun k => absurd h k.2, fun k => absurd hok k⟩
end Go.Proofs.YtkbikekbaboclaaGreat.Conf
set_option linter.unusedVariables false
set_option linter.unusedSimpArgs false
namespace Go.Proofs.YtkbikekbaboclaaGreat.Brain
open Go Go.Proofs V Vc Conf Num Go.RowKit
def IV (w : World) (v : Value) (xs : List Int) (F : Nat → Prop) : Prop := ∃ (o : Option Addr) (c : Nat), v = .slice o xs.length c ∧ xs.length ≤ c ∧ c ≤ maxLen ∧ Rd w o (xs.map (.int .i64)) F
section
variable {w w' : World} {v : Value} {xs : List Int} {F G : Nat → Prop}
theorem IV.keep (h : IV w v xs F) (hc : Ch G w w') (hd : ∀ i, i < w.heap.size → F i → ¬ G i) : IV w' v xs F := by
 obtain ⟨o, c, e, h1, h2, hr⟩ := h
 exact ⟨o, c, e, h1, h2, hr.keep hc hd⟩
theorem IV.mono (h : IV w v xs F) (hg : ∀ i, i < w.heap.size → F i → G i) : IV w v xs G := by
 obtain ⟨o, c, e, h1, h2, hr⟩ := h
 exact ⟨o, c, e, h1, h2, hr.mono hg⟩
theorem IV.keepN (h : IV w v xs F) (hc : Ch Non w w') : IV w' v xs F := h.keep hc (fun _ _ _ => id)
theorem IV.ints (h : IV w v xs F) : IntsV w v xs F := by
 obtain ⟨o, c, e, h1, h2, hr⟩ := h
 exact ⟨o, c, e, hr⟩
theorem IV.nil (w : World) (F : Nat → Prop) : IV w (.slice none 0 0) [] F := ⟨none, 0, rfl, Nat.le_refl _, Nat.zero_le _, Rd.nil _ _ _⟩
theorem Own.iv {o : Option Addr} {c : Nat} (h : V.Own w t_int 1 o xs.length c (xs.map (.int .i64)) F) : IV w (.slice o xs.length c) xs F := ⟨o, c, rfl, h.2.1, h.2.2.1, h.rd⟩
theorem Gr.iv {o : Option Addr} {c : Nat} (h : Gr Non w w' t_int 1 o xs.length c (xs.map (.int .i64))) : IV w' (.slice o xs.length c) xs (New w w') := Own.iv h.1
theorem IV.cut (h : IV w v xs F) {o : Option Addr} {n c : Nat} (hv : v = .slice o n c) {a b : Nat} (hab : a ≤ b) (hb : b ≤ xs.length) :
  IV w (.slice (if c = a then o else o.map (·.add (a * 1))) (b - a) (c - a)) ((xs.drop a).take (b - a)) F := by
 obtain ⟨o', c', e, h1, h2, hr⟩ := h
 rw [hv] at e
 injection e with e1 e2 e3
 subst e1; subst e2; subst e3
 have hl : ((xs.drop a).take (b - a)).length = b - a := by rw [List.length_take, List.length_drop]; omega
 refine ⟨_, _, by rw [hl], by omega, by omega, ?_⟩
 have := hr.slice (c := c) (sz := 1) (by simpa using h1) a (b - a)
 rw [Nat.mul_one, Nat.mul_one, ← List.map_drop, ← List.map_take] at this
 rw [Nat.mul_one]; exact this
end
def fromP (c : CfD) (p b : Nat) : Int := if p < 2 then spanN c 0 p else if p = 11 then allN c - spanN c 11 1 else spanN c 0 2 + b * spanN c 2 9 + spanN c 2 (p - 2)
def okPB (c : CfD) (p b : Nat) : Prop := p ≤ 11 ∧ (b : Int) < (if p < 2 ∨ p = 11 then 1 else c.blocks)
theorem spanN_mono {c : CfD} (h : small c) (a : Nat) {n m : Nat} (hnm : n ≤ m) : spanN c a n ≤ spanN c a m := by
  induction m with
  | zero => have : n = 0 := by omega
            subst this; exact Int.le_refl _
  | succ m ih =>
    by_cases e : n = m + 1
    · subst e; exact Int.le_refl _
    · have := ih (by omega)
      have := part_le h ((a + m : Nat) : Int)
      show _ ≤ spanN c a m + Conf.part c _
      have e : ((a : Int) + (m : Int)) = ((a + m : Nat) : Int) := by omega
      first | omega | (rw [e]; omega)
theorem span1 (c : CfD) (p : Nat) : spanN c p 1 = Conf.part c p := by
 unfold spanN spanN; simp
theorem from_le {c : CfD} (hs : small c) {p b : Nat} (h : okPB c p b) : 0 ≤ fromP c p b ∧ 0 ≤ spanN c p 1 ∧ spanN c p 1 ≤ 1024 ∧ fromP c p b + spanN c p 1 ≤ allN c ∧ allN c ≤ 1000000 := by
 obtain ⟨h1, h2⟩ := h
 have hp := span_le hs p 1
 have a1 := span_le hs 0 2
 have a2 := span_le hs 2 9
 have a3 := span_le hs 11 1
 have hb := hs.2.2.1
 have hS : c.blocks * spanN c 2 9 ≤ 32 * 9216 := Int.mul_le_mul (by omega) (by omega) (by omega) (by omega)
 have hS0 : 0 ≤ c.blocks * spanN c 2 9 := Int.mul_nonneg (by omega) (by omega)
 have hsucc : ∀ a n : Nat, spanN c a (n + 1) = spanN c a n + Conf.part c ((a + n : Nat) : Int) := fun a n => by
  show spanN c a n + Conf.part c _ = _
  congr 2
 unfold fromP allN
 by_cases hp2 : p < 2
 ·rw [if_pos hp2]
  have a0 := span_le hs 0 p
  have hm := spanN_mono hs 0 (n := p + 1) (m := 2) (by omega)
  rw [hsucc, Nat.zero_add, ← span1] at hm
  exact ⟨a0.1, hp.1, by omega, by omega, by omega⟩
 rw [if_neg hp2]
 by_cases hp11 : p = 11
 ·subst hp11
  rw [if_pos rfl]
  exact ⟨by omega, hp.1, by omega, by omega, by omega⟩
 rw [if_neg hp11]
 rw [if_neg (by omega)] at h2
 have a4 := span_le hs 2 (p - 2)
 have hm := spanN_mono hs 2 (n := (p - 2) + 1) (m := 9) (by omega)
 rw [hsucc, show 2 + (p - 2) = p by omega, ← span1] at hm
 have hbb : ((b : Int) + 1) * spanN c 2 9 ≤ c.blocks * spanN c 2 9 := Int.mul_le_mul_of_nonneg_right (by omega) a2.1
 rw [Int.add_mul, Int.one_mul] at hbb
 have hb0 : 0 ≤ (b : Int) * spanN c 2 9 := Int.mul_nonneg (by omega) a2.1
 exact ⟨by omega, hp.1, by omega, by omega, by omega⟩
theorem Range_spec (w : World) {c : CfD} (hc : okC c) {p b : Nat} (h : okPB c p b) : Calls Tryz.prog i_conf_Shape_Range #[.agg (cfE c).toArray, .int .i64 p, .int .i64 b] w (Ret fun v w' => v = .tuple #[.int .i64 (fromP c p b), .int .i64 (spanN c p 1), .bool true] ∧ Ch Non w w') := by
  have hs := hc.small
  have hle := from_le hs h
  have h' := h
  obtain ⟨h1, h2⟩ := h
  refine conf_Shape_Range.calls _ _ _ _ _ _ _ _ ?_
  unfold conf_Shape_Range.vc
  intro w1 e1
  have hB := Blk.new e1
  have hC1 : Ch Non w w1 := Ch.alloc e1
  generalize w.heap.size = tb at hB ⊢
  refine ⟨_, hB.cell 3 rfl, fun hp2 => ?_, fun hp2 => ⟨fun hp11 => ?_, fun hp11 => ?_⟩⟩
  · have hp2 : p < 2 := by have := of_decide_eq_true hp2; omega
    rw [if_pos (by omega)] at h2
    refine ⟨_, _, _, _, _, _, ⟨hB.cell 0 rfl, hB.cell 1 rfl, hB.cell 2 rfl, hB.cell 3 rfl, hB.cell 4 rfl, hB.cell 5 rfl⟩, ?_⟩
    refine step_call (Good_spec w1 c) ?_
    rintro v w2 ⟨rfl, hc2⟩
    have hB := hB.keepN hc2
    rw [decide_eq_true hc]
    refine ⟨_, rfl, iteF rfl (iteF (decide_eq_false (by omega)) (iteF (decide_eq_false (by omega)) (iteF (decide_eq_false (by omega)) (iteF (decide_eq_false (by omega)) ?_))))⟩
    refine ⟨_, _, _, _, _, _, ⟨hB.cell 0 rfl, hB.cell 1 rfl, hB.cell 2 rfl, hB.cell 3 rfl, hB.cell 4 rfl, hB.cell 5 rfl⟩, ?_⟩
    refine step_call (span_spec w2 hs (a := p) (n := 1) (by omega) (by omega)) ?_
    rintro v w3 ⟨rfl, hc3⟩
    have hB := hB.keepN hc3
    refine ⟨_, rfl, decide_eq_true (by omega), ?_⟩
    refine ⟨_, _, _, _, _, _, ⟨hB.cell 0 rfl, hB.cell 1 rfl, hB.cell 2 rfl, hB.cell 3 rfl, hB.cell 4 rfl, hB.cell 5 rfl⟩, ?_⟩
    rw [wrap_id (by omega) (by omega)]
    refine step_call (span_spec w3 hs (a := 0) (n := p) (by omega) (by omega)) ?_
    rintro v w4 ⟨rfl, hc4⟩
    refine ⟨_, rfl, ?_, ((hC1.andN hc2).andN hc3).andN hc4⟩
    unfold fromP; rw [if_pos hp2]
  · have hp2 : ¬ p < 2 := by have := of_decide_eq_false hp2; omega
    have hp11 : p = 11 := by have := eq_of_beq hp11; omega
    subst hp11
    rw [if_pos (by omega)] at h2
    refine ⟨_, _, _, _, _, _, ⟨hB.cell 0 rfl, hB.cell 1 rfl, hB.cell 2 rfl, hB.cell 3 rfl, hB.cell 4 rfl, hB.cell 5 rfl⟩, ?_⟩
    refine step_call (Good_spec w1 c) ?_
    rintro v w2 ⟨rfl, hc2⟩
    have hB := hB.keepN hc2
    rw [decide_eq_true hc]
    refine ⟨_, rfl, iteF rfl (iteF rfl (iteF rfl (iteF (decide_eq_false (by omega)) (iteF (decide_eq_false (by omega)) ?_))))⟩
    refine ⟨_, _, _, _, _, _, ⟨hB.cell 0 rfl, hB.cell 1 rfl, hB.cell 2 rfl, hB.cell 3 rfl, hB.cell 4 rfl, hB.cell 5 rfl⟩, ?_⟩
    refine step_call (span_spec w2 hs (a := 11) (n := 1) (by omega) (by omega)) ?_
    rintro v w3 ⟨rfl, hc3⟩
    have hB := hB.keepN hc3
    refine ⟨_, rfl, rfl, rfl, ?_⟩
    refine ⟨_, _, _, _, _, _, ⟨hB.cell 0 rfl, hB.cell 1 rfl, hB.cell 2 rfl, hB.cell 3 rfl, hB.cell 4 rfl, hB.cell 5 rfl⟩, ?_⟩
    refine step_call (all_spec w3 hs) ?_
    rintro v w4 ⟨rfl, hc4⟩
    have e : fromP c 11 b = allN c - spanN c 11 1 := by unfold fromP; rw [if_neg (by omega), if_pos rfl]
    rw [e] at hle ⊢
    refine ⟨_, rfl, ?_, ((hC1.andN hc2).andN hc3).andN hc4⟩
    rw [wrap_id (by omega) (by omega)]
  · have hp2 : ¬ p < 2 := by have := of_decide_eq_false hp2; omega
    have hp11' : ¬ p = 11 := by have : ¬ (p : Int) = 11 := by simpa using hp11
                                omega
    rw [if_neg (by omega)] at h2
    refine ⟨_, _, _, _, _, _, ⟨hB.cell 0 rfl, hB.cell 1 rfl, hB.cell 2 rfl, hB.cell 3 rfl, hB.cell 4 rfl, hB.cell 5 rfl⟩, ?_⟩
    refine step_call (Good_spec w1 c) ?_
    rintro v w2 ⟨rfl, hc2⟩
    have hB := hB.keepN hc2
    rw [decide_eq_true hc]
    refine ⟨_, rfl, iteF rfl (iteF (decide_eq_false (by omega)) (iteF (decide_eq_false (by omega)) (iteF (decide_eq_false (by omega)) (iteF (decide_eq_false (by omega)) ?_))))⟩
    refine ⟨_, _, _, _, _, _, ⟨hB.cell 0 rfl, hB.cell 1 rfl, hB.cell 2 rfl, hB.cell 3 rfl, hB.cell 4 rfl, hB.cell 5 rfl⟩, ?_⟩
    refine step_call (span_spec w2 hs (a := p) (n := 1) (by omega) (by omega)) ?_
    rintro v w3 ⟨rfl, hc3⟩
    have hB := hB.keepN hc3
    refine ⟨_, rfl, decide_eq_false (by omega), hp11, fun w' => Ch Non w3 w', fun w4 e4 => ⟨Ch.drew e4, ?_⟩⟩
    refine ⟨_, _, _, _, _, _, ⟨fun w' k => (hB.keepN k).cell 0 rfl, fun w' k => (hB.keepN k).cell 1 rfl, fun w' k => (hB.keepN k).cell 2 rfl, fun w' k => (hB.keepN k).cell 3 rfl, fun w' k => (hB.keepN k).cell 4 rfl, fun w' k => (hB.keepN k).cell 5 rfl⟩, ?_⟩
    refine ⟨_, _, _, _, _, _, ⟨fun w' k => (hB.keepN k).cell 0 rfl, fun w' k => (hB.keepN k).cell 1 rfl, fun w' k => (hB.keepN k).cell 2 rfl, fun w' k => (hB.keepN k).cell 3 rfl, fun w' k => (hB.keepN k).cell 4 rfl, fun w' k => (hB.keepN k).cell 5 rfl⟩, ?_⟩
    refine ⟨_, _, _, _, _, _, ⟨fun w' k => (hB.keepN k).cell 0 rfl, fun w' k => (hB.keepN k).cell 1 rfl, fun w' k => (hB.keepN k).cell 2 rfl, fun w' k => (hB.keepN k).cell 3 rfl, fun w' k => (hB.keepN k).cell 4 rfl, fun w' k => (hB.keepN k).cell 5 rfl⟩, ?_⟩
    have hd4 : Ch Non w3 w4 := Ch.drew e4
    refine step_call (span_spec w4 hs (a := 0) (n := 2) (by omega) (by omega)) ?_
    rintro v w5 ⟨rfl, hc5⟩
    refine ⟨_, rfl, hd4.andN hc5, step_call (span_spec w5 hs (a := 2) (n := 9) (by omega) (by omega)) ?_⟩
    rintro v w6 ⟨rfl, hc6⟩
    rw [wrap_id (x := (p : Int) - 1) (by omega) (by omega)]
    refine ⟨_, rfl, (hd4.andN hc5).andN hc6, step_call (span_spec w6 hs (a := 2) (n := p - 2) (by omega) (by omega)) ?_⟩
    rintro v w7 ⟨rfl, hc7⟩
    have hc37 := ((hd4.andN hc5).andN hc6).andN hc7
    have e : fromP c p b = spanN c 0 2 + b * spanN c 2 9 + spanN c 2 (p - 2) := by unfold fromP; rw [if_neg hp2, if_neg hp11']
    rw [e] at hle ⊢
    have a1 := span_le hs 0 2
    have a2 := span_le hs 2 9
    have a4 := span_le hs 2 (p - 2)
    have hb0 : 0 ≤ (b : Int) * spanN c 2 9 := Int.mul_nonneg (by omega) a2.1
    refine ⟨_, rfl, hc37, ?_, ((hC1.andN hc2).andN hc3).andN hc37⟩
    rw [wrap_id (x := (b : Int) * spanN c 2 9) (by omega) (by omega), wrap_id (x := spanN c 0 2 + (b : Int) * spanN c 2 9) (by omega) (by omega), wrap_id (by omega) (by omega)]
theorem Side_spec (w : World) {c : CfD} (hc : okC c) (p : Int) : Calls Tryz.prog i_conf_Shape_Side #[.agg (cfE c).toArray, .int .i64 p] w (Ret fun v w' => v = .tuple #[.int .i64 (side c p).1, .int .i64 (side c p).2] ∧ Ch Non w w') := by
 refine conf_Shape_Side.calls _ _ _ _ _ _ _ ?_
 unfold conf_Shape_Side.vc
 intro w1 e1
 have hB := Blk.new e1
 have hC1 : Ch Non w w1 := Ch.alloc e1
 generalize w.heap.size = tb at hB ⊢
 refine ⟨_, _, _, _, _, _, ⟨hB.cell 0 rfl, hB.cell 1 rfl, hB.cell 2 rfl, hB.cell 3 rfl, hB.cell 4 rfl, hB.cell 5 rfl⟩, ?_⟩
 refine step_call (Good_spec w1 c) ?_
 rintro v w2 ⟨rfl, hc2⟩
 have hB := hB.keepN hc2
 rw [decide_eq_true hc]
 refine ⟨_, rfl, iteF rfl ?_⟩
 refine ⟨_, _, _, _, _, _, ⟨hB.cell 0 rfl, hB.cell 1 rfl, hB.cell 2 rfl, hB.cell 3 rfl, hB.cell 4 rfl, hB.cell 5 rfl⟩, ?_⟩
 refine step_call (side_spec w2 c p) ?_
 rintro v w3 ⟨rfl, hc3⟩
 exact ⟨_, _, rfl, rfl, (hC1.andN hc2).andN hc3⟩
def hdim (c : CfD) : Nat := (c.dim / c.heads).toNat
theorem hdim_mul {c : CfD} (hc : okC c) : ((hdim c : Nat) : Int) * c.heads = c.dim ∧ 1 ≤ hdim c ∧ hdim c ≤ 16 := by
 obtain ⟨_, h1, h2, _, _, _, hm, _⟩ := hc
 rw [tmod_pos (by omega)] at hm
 have hd := Int.ediv_mul_cancel (Int.dvd_of_emod_eq_zero hm)
 have h0 : 0 ≤ c.dim / c.heads := Int.ediv_nonneg (by omega) (by omega)
 have e : ((hdim c : Nat) : Int) = c.dim / c.heads := by unfold hdim; omega
 rw [e]
 refine ⟨hd, ?_, ?_⟩
 ·by_cases h : 0 < c.dim / c.heads
  ·omega
  ·have : c.dim / c.heads = 0 := by omega
   rw [this] at hd; omega
 ·have : c.dim / c.heads ≤ c.dim := Int.ediv_le_self _ (by omega)
  omega
theorem HeadDim_spec (w : World) {c : CfD} (hc : okC c) : Calls Tryz.prog i_conf_Shape_HeadDim #[.agg (cfE c).toArray] w (Ret fun v w' => v = .int .i64 (hdim c) ∧ Ch Non w w') := by
 refine conf_Shape_HeadDim.calls _ _ _ _ _ _ ?_
 unfold conf_Shape_HeadDim.vc
 intro w1 e1
 have hB := Blk.new e1
 have hC1 : Ch Non w w1 := Ch.alloc e1
 generalize w.heap.size = tb at hB ⊢
 refine ⟨_, _, _, _, _, _, ⟨hB.cell 0 rfl, hB.cell 1 rfl, hB.cell 2 rfl, hB.cell 3 rfl, hB.cell 4 rfl, hB.cell 5 rfl⟩, ?_⟩
 refine step_call (Good_spec w1 c) ?_
 rintro v w2 ⟨rfl, hc2⟩
 have hB := hB.keepN hc2
 rw [decide_eq_true hc]
 have hd := hdim_mul hc
 obtain ⟨_, h1, h2, _⟩ := hc
 refine ⟨_, rfl, iteF rfl ⟨_, hB.cell 1 rfl, _, hB.cell 2 rfl, by omega, ?_, hC1.andN hc2⟩⟩
 rw [Int.tdiv_eq_ediv_of_nonneg (by omega)]
 have h0 : 0 ≤ c.dim / c.heads := Int.ediv_nonneg (by omega) (by omega)
 have e : ((hdim c : Nat) : Int) = c.dim / c.heads := by unfold hdim; omega
 rw [wrap_id (by omega) (by omega), e]
def tabP (c : CfD) (wt : ByteArray) (p b : Nat) : List Int := Vecs.numsB (wt.extract (fromP c p b).toNat (fromP c p b + spanN c p 1).toNat)
theorem numsB_8 (s : ByteArray) : ∀ x ∈ Vecs.numsB s, -128 ≤ x ∧ x ≤ 127 := fun x hx => by
 obtain ⟨b, _, rfl⟩ := List.mem_map.1 hx
 unfold IntKind.wrap
 simp [IntKind.bits, IntKind.signed]
 omega
theorem side_ge {c : CfD} (hc : okC c) {p : Nat} (hp : p ≤ 11) : 1 ≤ (side c p).1 ∧ 1 ≤ (side c p).2 := by
 obtain ⟨h1, h2, h3, h4, h5, h6, _⟩ := hc
 unfold side
 have : p = 0 ∨ p = 1 ∨ p = 2 ∨ p = 3 ∨ p = 4 ∨ p = 5 ∨ p = 6 ∨ p = 7 ∨ p = 8 ∨ p = 9 ∨ p = 10 ∨ p = 11 := by omega
 rcases this with h | h | h | h | h | h | h | h | h | h | h | h <;> subst h <;> simp <;> omega
structure BrK (w : World) (b : Nat) (c : CfD) (wt : ByteArray) : Prop where
 r : BrR w b c wt
 ok : okC c
 sz : (wt.size : Int) = allN c
section
variable {w w' : World} {bb : Nat} {c : CfD} {wt : ByteArray} {G : Nat → Prop}
theorem BrK.keepN (h : BrK w bb c wt) (hc : Ch Non w w') : BrK w' bb c wt := ⟨Blk.keepN h.r hc, h.ok, h.sz⟩
theorem BrK.keep (h : BrK w bb c wt) (hc : Ch G w w') (hd : ¬ G bb) : BrK w' bb c wt := ⟨Blk.keep h.r hc hd, h.ok, h.sz⟩
theorem tab_size (ok : okC c) (sz : (wt.size : Int) = allN c) {p b : Nat} (h : okPB c p b) : (wt.extract (fromP c p b).toNat (fromP c p b + spanN c p 1).toNat).size = (spanN c p 1).toNat ∧ Vecs.goodB (side c p).1 (side c p).2 (wt.extract (fromP c p b).toNat (fromP c p b + spanN c p 1).toNat).size = true := by
 have hle := from_le ok.small h
 have h1 : (wt.extract (fromP c p b).toNat (fromP c p b + spanN c p 1).toNat).size = (spanN c p 1).toNat := by
  rw [ByteArray.size_extract]
  omega
 refine ⟨h1, ?_⟩
 rw [h1]
 have hg := side_ge ok h.1
 have hl := side_le ok.small (p : Int)
 have hsp := span1 c p
 unfold Conf.part at hsp
 unfold Vecs.goodB
 exact decide_eq_true ⟨hg.1, by omega, hg.2, by omega, by omega⟩
theorem tab_len (ok : okC c) (sz : (wt.size : Int) = allN c) {p b : Nat} (h : okPB c p b) : (tabP c wt p b).length = (spanN c p 1).toNat := by
 unfold tabP; rw [Vecs.numsB_len]; exact (tab_size ok sz h).1
theorem tab_good (ok : okC c) (sz : (wt.size : Int) = allN c) {p b : Nat} (h : okPB c p b) : Vecs.goodB (side c p).1 (side c p).2 (tabP c wt p b).length = true := by
 rw [show (tabP c wt p b).length = _ from Vecs.numsB_len _]; exact (tab_size ok sz h).2
def TabR (w : World) (c : CfD) (wt : ByteArray) (p b : Nat) (v : Value) (w' : World) : Prop :=
 ∃ (A : Option Addr) (C : Nat), v = .tuple #[.agg #[.int .i64 (side c p).1, .int .i64 (side c p).2, .slice A (tabP c wt p b).length C], .bool true] ∧ (tabP c wt p b).length ≤ C ∧ Rd w' A ((tabP c wt p b).map (.int .i8)) (New w w') ∧ Ch Non w w'
set_option maxHeartbeats 1000000 in
theorem Table_spec (h : BrK w bb c wt) {p b : Nat} (hpb : okPB c p b) : Calls Tryz.prog i_brain_Brain_Table #[.pointer (some ⟨bb, 0, none⟩), .int .i64 p, .int .i64 b] w (Ret (TabR w c wt p b)) := by
 have ok := h.ok
 have hle := from_le ok.small hpb
 have hts := tab_size ok h.sz hpb
 have hsz := h.sz
 refine brain_Brain_Table.calls _ _ _ ?_
 unfold brain_Brain_Table.vc
 intro w1 e1
 have hT := Blk.new e1
 have hC1 : Ch Non w w1 := Ch.alloc e1
 have hB : Blk w1 bb _ t_brain_Brain := Blk.keepN h.r hC1
 have hs1 := hT.lt
 refine ⟨_, _, _, _, _, _, ⟨hB.cell 0 rfl, hB.cell 1 rfl, hB.cell 2 rfl, hB.cell 3 rfl, hB.cell 4 rfl, hB.cell 5 rfl⟩, ?_⟩
 refine step_call (Range_spec w1 ok hpb) ?_
 rintro v w2 ⟨rfl, hc2⟩
 have hB := hB.keepN hc2
 have hT2 := hT.keepN hc2
 refine ⟨_, _, _, rfl, iteF rfl ?_⟩
 refine ⟨_, _, _, _, _, _, ⟨hB.cell 0 rfl, hB.cell 1 rfl, hB.cell 2 rfl, hB.cell 3 rfl, hB.cell 4 rfl, hB.cell 5 rfl⟩, ?_⟩
 refine step_call (Side_spec w2 ok (p : Int)) ?_
 rintro v w4 ⟨rfl, hc4⟩
 have hB := hB.keepN hc4
 have hT4 := hT2.keepN hc4
 rw [wrap_id (x := fromP c p b + spanN c p 1) (by omega) (by omega)]
 refine ⟨_, _, rfl, _, hB.cell 6 rfl, ⟨by omega, by omega, by omega⟩, ?_⟩
 refine step_call (Vecs.Of_spec w4 (side c p).1 (side c p).2 (wt.extract (fromP c p b).toNat (fromP c p b + spanN c p 1).toNat) (by rw [hts.1]; omega)) ?_
 rintro v w5 ⟨A, C, rfl, hg⟩
 have hL : Vecs.ofL (side c p).1 (side c p).2 (wt.extract (fromP c p b).toNat (fromP c p b + spanN c p 1).toNat) = tabP c wt p b := by unfold Vecs.ofL; rw [hts.2]; rfl
 have hE : Vecs.ofE (side c p).1 (side c p).2 (wt.extract (fromP c p b).toNat (fromP c p b + spanN c p 1).toNat).size = 0 := by unfold Vecs.ofE; rw [hts.2]; rfl
 rw [hL, hE, hts.2, if_pos rfl, if_pos rfl]
 rw [hL] at hg
 have hT5 := hT4.keepN hg.2
 have hrd := hg.rd
 have hcap := hg.1.2.1
 have hs4 := hC1.size
 have hs42 := hc2.size
 have hs44 := hc4.size
 have hs5 := hg.2.size
 have hc05 := ((hC1.andN hc2).andN hc4).andN hg.2
 have hT0 := hT.lt
 refine ⟨_, _, _, _, _, _, rfl, fun w6 e6 => ?_⟩
 have hU := Blk.new e6
 have hT6 := hT5.alloc e6
 have hs6 := hU.lt
 refine ⟨⟨hU.ok 0 rfl, hU.ok 1 rfl, hU.ok 2 rfl⟩, fun w7 e7 => ?_⟩
 have e7' : w7 = w6.setCells w5.heap.size 0 [.int .i64 (side c p).1, .int .i64 (side c p).2, .slice A (tabP c wt p b).length C] := e7
 have hU7 := hU.all [.int .i64 (side c p).1, .int .i64 (side c p).2, .slice A (tabP c wt p b).length C] rfl e7'
 have hc67 : Ch (· = w5.heap.size) w6 w7 := Ch.sets e7' rfl
 have hT7 := hT6.keep hc67 (by omega)
 refine ⟨_, _, _, _, _, ⟨hU7.cell 0 rfl, hU7.cell 1 rfl, hU7.cell 2 rfl⟩, ⟨hT7.ok 0 rfl, hT7.ok 1 rfl, hT7.ok 2 rfl⟩, fun w8 e8 => ?_⟩
 have e8' : w8 = w7.setCells w.heap.size 0 [.int .i64 (side c p).1, .int .i64 (side c p).2, .slice A (tabP c wt p b).length C] := e8
 have hT8 := hT7.all [.int .i64 (side c p).1, .int .i64 (side c p).2, .slice A (tabP c wt p b).length C] rfl e8'
 have hc78 : Ch (· = w.heap.size) w7 w8 := Ch.sets e8' rfl
 refine ⟨_, _, _, _, _, ⟨hT8.cell 0 rfl, hT8.cell 1 rfl, hT8.cell 2 rfl⟩, A, C, rfl, hcap, ?_, ?_⟩
 ·have hc58 : Ch (fun i => i = w5.heap.size ∨ i = w.heap.size) w5 w8 := ((Ch.alloc e6).trans hc67 (fun i hi he => .inl he)).trans hc78 (fun i hi he => .inr he)
  have hs8 := hc58.size
  exact (hrd.keep hc58 (fun i hi hN he => by
   have := hN.1
   rcases he with he | he <;> omega)).mono (fun i _ hN => ⟨by have := hN.1; omega, by have := hN.2; omega⟩)
 ·exact (((hc05.andN (Ch.alloc e6)).trans hc67 (fun i hi he => by omega))).trans hc78 (fun i hi he => by omega)
def rowP (c : CfD) (wt : ByteArray) (p b : Nat) (q : Int) : List Int := Vecs.rowT (tabP c wt p b) (side c p).1 (side c p).2 q
theorem Row_spec (h : BrK w bb c wt) {p b : Nat} (hpb : okPB c p b) (q : Int) : Calls Tryz.prog i_brain_Brain_Row #[.pointer (some ⟨bb, 0, none⟩), .int .i64 p, .int .i64 b, .int .i64 q] w (Ret fun v w' => IV w' v (rowP c wt p b q) (New w w') ∧ Ch Non w w') := by
 refine brain_Brain_Row.calls _ _ _ _ ?_
 unfold brain_Brain_Row.vc
 refine step_call (Table_spec h hpb) ?_
 rintro v w1 ⟨A, C, rfl, hcap, hrd, hc1⟩
 refine ⟨_, _, _, _, _, _, rfl, fun w2 e2 => ?_⟩
 have hU := Blk.new e2
 refine ⟨⟨hU.ok 0 rfl, hU.ok 1 rfl, hU.ok 2 rfl⟩, fun w3 e3 => iteF rfl ?_⟩
 have e3' : w3 = w2.setCells w1.heap.size 0 [.int .i64 (side c p).1, .int .i64 (side c p).2, .slice A (tabP c wt p b).length C] := e3
 have hU3 := hU.all [.int .i64 (side c p).1, .int .i64 (side c p).2, .slice A (tabP c wt p b).length C] rfl e3'
 have hc13 : Ch Non w1 w3 := (Ch.alloc (F := Non) e2).trans (Ch.sets (F := (· = w1.heap.size)) e3' rfl) (fun i hi he => by omega)
 have hl : (tabP c wt p b).length ≤ 1000000 := by
  rw [tab_len h.ok h.sz hpb]
  have := from_le h.ok.small hpb; omega
 refine ⟨_, _, _, _, _, ⟨hU3.cell 0 rfl, hU3.cell 1 rfl, hU3.cell 2 rfl⟩, step_call (Vecs.Row_spec (hrd.keepN hc13) hcap (numsB_8 _) hl (side c p).1 (side c p).2 q) ?_⟩
 rintro v w4 ⟨A4, C4, rfl, hg⟩
 have hs := (hc1.andN hc13).size
 exact ⟨_, _, _, rfl, (Gr.iv hg).mono (fun i _ hi => ⟨by have := hi.1; omega, hi.2⟩), (hc1.andN hc13).andN hg.2⟩
theorem row_len (ok : okC c) (sz : (wt.size : Int) = allN c) {p b : Nat} (hpb : okPB c p b) {q : Nat} (hq : (q : Int) < (side c p).1) : (rowP c wt p b q).length = (side c p).2.toNat := by
 have hg := tab_good ok sz hpb
 unfold rowP Vecs.rowT
 rw [hg, decide_eq_true (by omega)]
 obtain ⟨R, C, e1, e2, _, _, _, _, hn⟩ := Vecs.goodB_nat hg
 rw [e2, Int.toNat_natCast, Int.toNat_natCast]
 exact Vecs.rowAt_len (R := R) hn (by omega)
theorem row_8 {p b : Nat} {q : Int} : ∀ x ∈ rowP c wt p b q, -128 ≤ x ∧ x ≤ 127 := fun x hx => by
 unfold rowP Vecs.rowT at hx
 split at hx
 ·exact numsB_8 _ x (List.mem_of_mem_drop (List.mem_of_mem_take hx))
 ·cases hx
end
end Go.Proofs.YtkbikekbaboclaaGreat.Brain
set_option linter.unusedVariables false
set_option linter.unusedSimpArgs false
namespace Go.Proofs.YtkbikekbaboclaaGreat.Brain
open Go Go.Proofs V Vc Conf Num Go.RowKit
def RV (w : World) (v : Value) (xss : List (List Int)) (F : Nat → Prop) : Prop :=
 ∃ (o : Option Addr) (c : Nat) (vs : List Value), v = .slice o xss.length c ∧ xss.length ≤ c ∧ c ≤ maxLen ∧ Rd w o vs F ∧ All2 (fun u xs => IV w u xs F) vs xss
def EV (w : World) (p : Value × Value) (e : Ent) (F : Nat → Prop) : Prop := RV w p.1 e.1 F ∧ RV w p.2 e.2 F
def PV (w : World) (v : Value) (es : List Ent) (F : Nat → Prop) : Prop :=
 ∃ (o : Option Addr) (c : Nat) (ps : List (Value × Value)), v = .slice o es.length c ∧ es.length ≤ c ∧ c ≤ maxLen ∧ Rd w o (ps.map pairE).flatten F ∧ All2 (fun p e => EV w p e F) ps es
section
variable {o : Option Addr} {n c : Nat} {w w' : World} {v : Value} {p : Value × Value} {xss : List (List Int)} {e : Ent} {es : List Ent} {F G : Nat → Prop}
theorem RV.keep (h : RV w v xss F) (hc : Ch G w w') (hd : ∀ i, i < w.heap.size → F i → ¬ G i) : RV w' v xss F := by
 obtain ⟨o, c, vs, e, h1, h2, hr, ha⟩ := h
 exact ⟨o, c, vs, e, h1, h2, hr.keep hc hd, ha.imp (fun _ _ k => k.keep hc hd)⟩
theorem RV.mono (h : RV w v xss F) (hg : ∀ i, i < w.heap.size → F i → G i) : RV w v xss G := by
 obtain ⟨o, c, vs, e, h1, h2, hr, ha⟩ := h
 exact ⟨o, c, vs, e, h1, h2, hr.mono hg, ha.imp (fun _ _ k => k.mono hg)⟩
theorem RV.keepN (h : RV w v xss F) (hc : Ch Non w w') : RV w' v xss F := h.keep hc (fun _ _ _ => id)
theorem RV.rows (h : RV w v xss F) : RowsV w v xss F := by
 obtain ⟨o, c, vs, e, h1, h2, hr, ha⟩ := h
 exact ⟨o, c, vs, e, hr, ha.imp (fun _ _ k => k.ints)⟩
theorem RV.at (h : RV w (.slice o n c) xss F) {j : Nat} (hj : j < xss.length) {K : Addr → Prop} (hk : ∀ (p : Addr) (u : Value), w.cell? (p.add (j * 1)) = some u → IV w u xss[j] F → K p) : someV o K := by
 obtain ⟨o', c', vs, e, h1, h2, hr, ha⟩ := h
 injection e with e1 e2 e3
 subst e1
 have hv : j < vs.length := by rw [ha.length]; exact hj
 refine hr.at (j := j) (v := vs[j]) (List.getElem?_eq_getElem hv) fun p hp => hk p vs[j] (by rw [Nat.mul_one]; exact hp) (ha.get j hv hj)
theorem EV.keep (h : EV w p e F) (hc : Ch G w w') (hd : ∀ i, i < w.heap.size → F i → ¬ G i) : EV w' p e F := ⟨h.1.keep hc hd, h.2.keep hc hd⟩
theorem EV.mono (h : EV w p e F) (hg : ∀ i, i < w.heap.size → F i → G i) : EV w p e G := ⟨h.1.mono hg, h.2.mono hg⟩
theorem EV.keepN (h : EV w p e F) (hc : Ch Non w w') : EV w' p e F := h.keep hc (fun _ _ _ => id)
theorem EV.ent (h : EV w p e F) : EntV w p e F := ⟨h.1.rows, h.2.rows⟩
theorem PV.keep (h : PV w v es F) (hc : Ch G w w') (hd : ∀ i, i < w.heap.size → F i → ¬ G i) : PV w' v es F := by
 obtain ⟨o, c, vs, e, h1, h2, hr, ha⟩ := h
 exact ⟨o, c, vs, e, h1, h2, hr.keep hc hd, ha.imp (fun _ _ k => k.keep hc hd)⟩
theorem PV.mono (h : PV w v es F) (hg : ∀ i, i < w.heap.size → F i → G i) : PV w v es G := by
 obtain ⟨o, c, vs, e, h1, h2, hr, ha⟩ := h
 exact ⟨o, c, vs, e, h1, h2, hr.mono hg, ha.imp (fun _ _ k => k.mono hg)⟩
theorem PV.keepN (h : PV w v es F) (hc : Ch Non w w') : PV w' v es F := h.keep hc (fun _ _ _ => id)
theorem PV.nil (w : World) (F : Nat → Prop) : PV w (.slice none 0 0) [] F := ⟨none, 0, [], rfl, Nat.le_refl _, Nat.zero_le _, Rd.nil _ _ _, .nil⟩
theorem Rd.pair {o : Option Addr} {ps : List (Value × Value)} (h : Rd w o (ps.map pairE).flatten F) {j : Nat} (hj : j < ps.length) {K : Addr → Prop} (hk : ∀ p : Addr, w.cell? (p.add (j * 2)) = some ps[j].1 → w.cell? ((p.add (j * 2)).add 1) = some ps[j].2 → K p) : someV o K := by
 obtain ⟨a, ha, _, _, hc⟩ := Rd.elem (sz := 2) (enc := pairE) h (fun _ => rfl) (by omega) hj
 subst ha
 have h0 := hc 0 _ rfl
 rw [add_none] at h0
 exact hk a h0 (hc 1 _ rfl)
end
end Go.Proofs.YtkbikekbaboclaaGreat.Brain
set_option linter.unusedVariables false
set_option linter.unusedSimpArgs false
namespace Go.Proofs.YtkbikekbaboclaaGreat.IntsT
open Go Go.Proofs V Vc Brain Num Go.RowKit
section
variable {w : World} {u v : Value} {xs ys : List Int} {F G : Nat → Prop}
theorem ints25_spec (ha : IV w u xs F) (hb : IV w v ys G) : Calls Tryz.prog i_coadjutorlaw25_ints #[u, v] w (Ret fun v w' => v = .bool (decide (xs = ys)) ∧ Ch Non w w') := by
 obtain ⟨oa, ca, rfl, h1, h2, ha⟩ := ha
 obtain ⟨ob, cb, rfl, _, _, hb⟩ := hb
 have hl := Nat.le_trans h1 h2
 refine coadjutorlaw25_ints.calls _ _ _ _ _ _ ?_
 unfold coadjutorlaw25_ints.vc
 refine ⟨fun h => ?_, fun h => ?_⟩
 ·have h : xs.length ≠ ys.length := by simp at h; omega
  exact ⟨by rw [decide_eq_false (fun e => h (by rw [e]))], Ch.refl _ _⟩
 have h : xs.length = ys.length := by simp at h; omega
 refine ⟨fun i k w' => ∃ j : Nat, i = j ∧ j ≤ xs.length ∧ k = xs.length - j ∧ xs.take j = ys.take j ∧ Ch Non w w', ⟨_, 0, rfl, Nat.zero_le _, rfl, rfl, Ch.refl _ _⟩, ?_⟩
 rintro jk i k w1 ⟨j, rfl, hj, rfl, he, hc⟩
 refine ⟨fun hlt => ?_, fun hge => ?_⟩
 ·have hlt : j < xs.length := by have := of_decide_eq_true hlt; omega
  have hlt2 : j < ys.length := by omega
  refine ⟨fun w2 => Ch Non w w2, fun w2 e2 => ⟨hc.andN (Ch.drew e2), ⟨by omega, by omega⟩, Rd.keeps (j := (j : Int).toNat * 1) (S := fun w2 => Ch Non w w2) (fun w2 h2 => ha.keepN h2) hc (by simpa using hlt) fun p hp => ⟨_, hp, ⟨by omega, by omega⟩,
   Rd.keeps (j := (j : Int).toNat * 1) (S := fun w2 => Ch Non w w2) (fun w2 h2 => hb.keepN h2) hc (by simpa using hlt2) fun p2 hp2 => ⟨_, hp2, fun hne => ?_, fun heq => ?_⟩⟩⟩⟩
  ·refine ⟨?_, hc.andN (Ch.drew e2)⟩
   rw [decide_eq_false]
   intro e
   subst e
   simp at hne
  ·have heq : xs[j] = ys[j] := by simpa using heq
   refine ⟨xs.length - (j + 1), by omega, j + 1, by rw [wrap_id (by omega) (by unfold maxLen at hl; omega)]; rfl, hlt, rfl, ?_, hc.andN (Ch.drew e2)⟩
   rw [take_snoc xs j hlt, take_snoc ys j hlt2, he, heq]
 ·have : j = xs.length := by have := of_decide_eq_false hge; omega
  subst this
  rw [List.take_length, h, List.take_length] at he
  exact ⟨by rw [decide_eq_true he], hc⟩
end
end Go.Proofs.YtkbikekbaboclaaGreat.IntsT
set_option linter.unusedVariables false
set_option linter.unusedSimpArgs false
namespace Go.Proofs.YtkbikekbaboclaaGreat.Step
open Go Go.Proofs V Vc Go.RowKit
theorem take_snoc {α : Type} (l : List α) (j : Nat) (h : j < l.length) : l.take (j + 1) = l.take j ++ [l[j]] := List.take_succ_eq_append_getElem h
def small (xss : List (List Int)) : Prop := xss.length ≤ 1000000 ∧ ∀ xs ∈ xss, xs.length ≤ 17592186043904
section
variable {w : World} {o ob : Option Addr} {c cb : Nat} {xs ys : List Int} {xss yss : List (List Int)} {F G : Nat → Prop}
theorem Clone_spec (h : Rd w o (xs.map (.int .i64)) G) (hl : xs.length ≤ 17592186043904) (c : Nat) : Calls Tryz.prog 51 #[.slice o xs.length c] w (Ret fun v w' => IntsV w' v xs (New w w') ∧ Ch Non w w') := by
 refine slices_Clone.calls _ _ _ ?_
 unfold slices_Clone.vc
 refine ⟨fun hn => ?_, fun hn w1 e1 => ?_⟩
 ·have hx : xs = [] := by
   cases xs with
   | nil => rfl
   | cons x r =>
    obtain ⟨a, ha, _⟩ := h 0 (.int .i64 x) rfl
    rw [ha] at hn; cases hn
  subst hx
  exact ⟨IntsV.nil _ _, Ch.refl _ _⟩
 ·have hg : Gr Non w w1 t_int 1 (some ⟨w.heap.size, 0, none⟩) 0 0 [] := Gr.made0 (Ch.refl _ _) e1
  obtain ⟨o', c', w', hr, hg', hch'⟩ := Own.appendRd (c2 := c) (m := xs.length) el_S_int hg.1 t_S_int (h.keepN (Ch.alloc e1)) (by simp) (fun u hu => by
   obtain ⟨x, _, rfl⟩ := List.mem_map.1 hu
   rfl) (by unfold maxLen; omega) (by omega)
  rw [Nat.zero_add, List.nil_append] at hg'
  rw [Nat.zero_add] at hr
  have hs1 := hg.2.size
  exact ⟨_, _, _, w', hr, ⟨o', c', rfl, hg'.rd.mono (fun i _ hi => by
   rcases hi with hi | hi
   ·exact ⟨hi.1, by have := hi.2; have := hch'.size; omega⟩
   ·exact ⟨by have := hi.1; omega, hi.2⟩)⟩, hg.2.trans hch' (fun i hi h => by have := h.1; omega)⟩
theorem copied_spec (hr : RowsV w (.slice o xss.length c) xss G) (hs : small xss) : Calls Tryz.prog i_step_copied #[.slice o xss.length c] w (Ret fun v w' => RowsV w' v xss (New w w') ∧ Ch Non w w') := by
 obtain ⟨o', c', vs, e, hrd, ha⟩ := hr
 injection e with e1 _ e2
 subst e1; subst e2
 refine step_copied.calls _ _ _ ?_
 unfold step_copied.vc
 refine ⟨fun oA oN oC i k w' => ∃ (j : Nat) (us : List Value) (F1 F2 : Nat → Prop), i = j ∧ oN = j ∧ j ≤ xss.length ∧ k = xss.length - j ∧ Build w w' t_S_int 1 oA j oC us F1 F2 ∧ All2 (fun u xs => IntsV w' u xs F2) us (xss.take j), ⟨_, 0, [], _, _, rfl, rfl, Nat.zero_le _, rfl, Build.nil (Ch.refl _ _), .nil⟩, ?_⟩
 rintro jk oA oN oC i k w1 ⟨j, us, F1, F2, rfl, rfl, hj, rfl, hB, hU⟩
 refine ⟨fun hlt => ?_, fun hge => ?_⟩
 ·have hlt : oN < xss.length := by have := of_decide_eq_true hlt; omega
  have hlv : oN < vs.length := by rw [ha.length]; exact hlt
  obtain ⟨o1, c1, hv, hr1⟩ := ha.get oN hlv hlt
  refine ⟨⟨by omega, by omega⟩, (hrd.keepN hB.ch).at (j := (oN : Int).toNat * 1) (v := vs[oN]) (by simp [hlv]) fun p hp => ?_⟩
  rw [hv] at hp
  refine ⟨_, _, _, hp, ?_⟩
  refine step_call (Clone_spec (hr1.keepN hB.ch) (hs.2 _ (List.getElem_mem _)) c1) ?_
  rintro v w2 ⟨⟨o2, c2, rfl, hr2⟩, hc2⟩
  refine ⟨_, _, _, rfl, fun w3 e3 => ?_⟩
  have hB2 := hB.more hc2
  have hl := hs.1
  obtain ⟨o4, c4, w4, F4, hr4, hB4, hc4⟩ := hB2.push el_S_S_int t_S_S_int e3 rfl rfl (by omega) (by omega)
  refine ⟨o4, _, c4, w4, hr4, xss.length - (oN + 1), by omega, oN + 1, _, F4, _, by rw [wrap_id (by omega) (by omega)]; rfl, rfl, hlt, rfl, hB4, ?_⟩
  rw [take_snoc xss oN hlt]
  refine (hU.imp fun u xs h => ((h.keepN hc2).mono (fun i _ hi => .inl hi)).keep hc4 (fun i _ hi h1 => hB2.ap i h1 hi)).snoc ?_
  exact IntsV.keep (F := Ext F2 w1 w2) ⟨o2, c2, rfl, hr2.mono (fun i _ hi => .inr hi)⟩ hc4 (fun i _ hi h1 => hB2.ap i h1 hi)
 ·have : oN = xss.length := by have := of_decide_eq_false hge; omega
  subst this
  rw [List.take_length] at hU
  exact ⟨⟨oA, oC, us, rfl, hB.own.rd.mono (fun i _ hi => hB.f1 i hi), hU.imp (fun u xs h => h.mono (fun i _ hi => hB.f2 i hi))⟩, hB.ch⟩
theorem Copy_spec {p : Value × Value} {e : Ent} (h : EntV w p e G) (hs : small e.1 ∧ small e.2) : Calls Tryz.prog i_step_Copy #[.agg #[p.1, p.2]] w (Ret fun v w' => ∃ q : Value × Value, v = .agg #[q.1, q.2] ∧ EntV w' q e (New w w') ∧ Ch Non w w') := by
 obtain ⟨a, b⟩ := p
 obtain ⟨h1, h2⟩ := h
 have k1 := h1
 have k2 := h2
 obtain ⟨o1, c1, vs1, rfl, _, _⟩ := h1
 obtain ⟨o2, c2, vs2, rfl, _, _⟩ := h2
 dsimp only at k1 k2 ⊢
 refine step_Copy.calls _ _ _ _ _ _ ?_
 unfold step_Copy.vc
 intro w1 e1 w2 e2
 have hA := (Blk.new e1).alloc e2
 have hB := Blk.new e2
 have hc2 : Ch Non w w2 := (Ch.alloc e1).andN (Ch.alloc e2)
 have hab : w.heap.size < w1.heap.size := (Blk.new e1).lt
 have hw2 : w1.heap.size < w2.heap.size := hB.lt
 generalize hrb : w1.heap.size = rb at hB hab hw2 ⊢
 have hA : Blk w2 w.heap.size [.slice o1 e.1.length c1, .slice o2 e.2.length c2] t_step_Entry := hA
 clear e1 e2
 refine ⟨fun w' => Blk w' w.heap.size [.slice o1 e.1.length c1, .slice o2 e.2.length c2] t_step_Entry, fun w3 e3 => ⟨hA.drew e3, _, _, _, fun w' h => h.cell 0 rfl, _, _, _, fun w' h => h.cell 1 rfl, ?_⟩⟩
 have hc3 := hc2.andN (Ch.drew e3)
 refine step_call (copied_spec (k1.keepN hc3) hs.1) ?_
 rintro v w4 ⟨⟨o4, c4, us4, rfl, hr4, ha4⟩, hc4⟩
 refine ⟨_, _, _, rfl, (hA.drew e3).keepN hc4, ?_⟩
 refine step_call (copied_spec (k2.keepN (hc3.andN hc4)) hs.2) ?_
 rintro v w5 ⟨⟨o5, c5, us5, rfl, hr5, ha5⟩, hc5⟩
 have hB5 := ((hB.drew e3).keepN hc4).keepN hc5
 have hA5 := ((hA.drew e3).keepN hc4).keepN hc5
 refine ⟨_, _, _, rfl, hA5, ⟨hB5.ok 0 rfl, hB5.ok 1 rfl⟩, fun w6 e6 => ?_⟩
 have e7 : w6 = w5.setCells rb 0 [.slice o4 e.1.length c4, .slice o5 e.2.length c5] := e6
 have hB6 := hB5.all [.slice o4 e.1.length c4, .slice o5 e.2.length c5] rfl e7
 have hc6 : Ch (· = rb) w5 w6 := Ch.sets e7 rfl
 have hs2 : w2.heap.size = w3.heap.size := by subst e3; rfl
 have hs34 := hc4.size
 have hs45 := hc5.size
 have hs56 := hc6.size
 refine ⟨hA5.keep hc6 (by omega), _, _, _, _, _, _, ⟨hB6.cell 0 rfl, hB6.cell 1 rfl⟩, (_, _), rfl, ⟨?_, ?_⟩, ((hc3.andN hc4).andN hc5).trans hc6 (fun i hi h => by omega)⟩
 ·have h4 : RowsV w4 (.slice o4 e.1.length c4) e.1 (New w3 w4) := ⟨o4, c4, us4, rfl, hr4, ha4⟩
  exact ((h4.keepN hc5).keep hc6 (fun i _ hi h => by have := hi.1; omega)).mono (fun i _ hi => ⟨by have := hi.1; have := hc3.size; omega, by have := hi.2; omega⟩)
 ·have h5 : RowsV w5 (.slice o5 e.2.length c5) e.2 (New w4 w5) := ⟨o5, c5, us5, rfl, hr5, ha5⟩
  exact (h5.keep hc6 (fun i _ hi h => by have := hi.1; omega)).mono (fun i _ hi => ⟨by have := hi.1; have := hc3.size; omega, by have := hi.2; omega⟩)
theorem Equal_spec (ha : Rd w o (xs.map (.int .i64)) F) (hb : Rd w ob (ys.map (.int .i64)) G) (hl : xs.length ≤ 17592186043904) :
  Calls Tryz.prog i_slices_Equal #[.slice o xs.length c, .slice ob ys.length cb] w (Ret fun v w' => v = .bool (decide (xs = ys)) ∧ Ch Non w w') := by
 refine slices_Equal.calls _ _ _ _ _ _ ?_
 unfold slices_Equal.vc
 refine ⟨fun h => ?_, fun h => ?_⟩
 ·have h : xs.length ≠ ys.length := by simp at h; omega
  exact ⟨by rw [decide_eq_false (fun e => h (by rw [e]))], Ch.refl _ _⟩
 have h : xs.length = ys.length := by simp at h; omega
 refine ⟨fun i k w' => ∃ j : Nat, i = j ∧ j ≤ xs.length ∧ k = xs.length - j ∧ xs.take j = ys.take j ∧ Ch Non w w', ⟨_, 0, rfl, Nat.zero_le _, rfl, rfl, Ch.refl _ _⟩, ?_⟩
 rintro jk i k w1 ⟨j, rfl, hj, rfl, he, hc⟩
 refine ⟨fun hlt => ?_, fun hge => ?_⟩
 ·have hlt : j < xs.length := by simpa using hlt
  have hlt2 : j < ys.length := by omega
  refine ⟨fun w2 => Ch Non w w2, fun w2 e2 => ⟨hc.andN (Ch.drew e2), ⟨by omega, by omega⟩, Rd.keeps (j := (j : Int).toNat * 1) (S := fun w2 => Ch Non w w2) (fun w2 h2 => ha.keepN h2) hc (by simpa using hlt) fun p hp => ⟨_, hp, ⟨by omega, by omega⟩,
   Rd.keeps (j := (j : Int).toNat * 1) (S := fun w2 => Ch Non w w2) (fun w2 h2 => hb.keepN h2) hc (by simpa using hlt2) fun p2 hp2 => ⟨_, hp2, fun hne => ?_, fun heq => ?_⟩⟩⟩⟩
  ·refine ⟨?_, hc.andN (Ch.drew e2)⟩
   rw [decide_eq_false]
   intro e
   subst e
   simp at hne
  ·have heq : xs[j] = ys[j] := by simpa using heq
   refine ⟨xs.length - (j + 1), by omega, j + 1, by rw [wrap_id (by omega) (by omega)]; rfl, hlt, rfl, ?_, hc.andN (Ch.drew e2)⟩
   rw [take_snoc xs j hlt, take_snoc ys j hlt2, he, heq]
 ·have : j = xs.length := by simp at hge; omega
  subst this
  rw [List.take_length, h, List.take_length] at he
  exact ⟨by rw [decide_eq_true he], hc⟩
end
end Go.Proofs.YtkbikekbaboclaaGreat.Step
set_option linter.unusedVariables false
set_option linter.unusedSimpArgs false
namespace Go.Proofs.YtkbikekbaboclaaGreat.Stp
open Go Go.Proofs V Vc Conf Brain Num Go.RowKit
structure Md (c : CfD) (wt : ByteArray) : Prop where
 ok : okC c
 sz : (wt.size : Int) = allN c
def times (c : CfD) (wt : ByteArray) (p b : Nat) (vs : List Int) : List Int := Vecs.timesT (tabP c wt p b) (side c p).1 (side c p).2 vs 6
def normP (c : CfD) (wt : ByteArray) (p b : Nat) (xs : List Int) : List Int := Norm.ofL (rowP c wt p b 0) xs
def plusP (xs ys : List Int) : List Int := Vecs.plusT [(none, 0, xs), (none, 0, ys)]
def noA (r : List Int) : Option Addr × Nat × List Int := (none, 0, r)
def mixP (ws : List Int) (rows : List (List Int)) : List Int := Soft.mixT ws (rows.map noA)
def cut (xs : List Int) (a n : Nat) : List Int := (xs.drop a).take n
def scoreP (b a n : Nat) (q : List Int) (e : Ent) : Int := shift (dotC (cut q a n) (cut (e.1.getD b []) a n)) 9
def valP (b a n : Nat) (e : Ent) : List Int := cut (e.2.getD b []) a n
def headP (es : List Ent) (b a n : Nat) (q : List Int) : List Int := mixP (Soft.weightsL (es.map (scoreP b a n q))) (es.map (valP b a n))
def seenTo (c : CfD) (es : List Ent) (b : Nat) (q : List Int) : Nat → List Int
 | 0 => []
 | h + 1 => seenTo c es b q h ++ headP es b (h * hdim c) (hdim c) q
structure WkD where
 x : List Int
 K : List (List Int)
 V : List (List Int)
def lookK (c : CfD) (wt : ByteArray) (b : Nat) (s : WkD) : List (List Int) := s.K ++ [times c wt 4 b (normP c wt 2 b s.x)]
def lookV (c : CfD) (wt : ByteArray) (b : Nat) (s : WkD) : List (List Int) := s.V ++ [times c wt 5 b (normP c wt 2 b s.x)]
def lookX (c : CfD) (wt : ByteArray) (past : List Ent) (b : Nat) (s : WkD) : List Int :=
 plusP s.x (times c wt 6 b (seenTo c (past ++ [(lookK c wt b s, lookV c wt b s)]) b (times c wt 3 b (normP c wt 2 b s.x)) c.heads.toNat))
def lookP (c : CfD) (wt : ByteArray) (past : List Ent) (b : Nat) (s : WkD) : WkD := ⟨lookX c wt past b s, lookK c wt b s, lookV c wt b s⟩
def thinkP (c : CfD) (wt : ByteArray) (b : Nat) (s : WkD) : WkD :=
 ⟨plusP s.x (times c wt 10 b (Act.pairsL (times c wt 8 b (normP c wt 7 b s.x)) (times c wt 9 b (normP c wt 7 b s.x)))), s.K, s.V⟩
def blocksTo (c : CfD) (wt : ByteArray) (past : List Ent) (s : WkD) : Nat → WkD
 | 0 => s
 | j + 1 => thinkP c wt j (lookP c wt past j (blocksTo c wt past s j))
def beginE (n m : Int) : Int := sat (16 * (n + m))
def beginP (c : CfD) (wt : ByteArray) (place : Nat) (token : Int) : List Int := List.zipWith beginE (rowP c wt 0 0 token) (rowP c wt 1 0 place)
def scoresP (c : CfD) (wt : ByteArray) (x : List Int) : List Int := (List.range c.vocab.toNat).map fun t => shift (dotC (rowP c wt 0 0 (t : Nat)) (normP c wt 11 0 x)) 5
def stepS (c : CfD) (wt : ByteArray) (past : List Ent) (token : Int) : WkD := blocksTo c wt past ⟨beginP c wt past.length token, [], []⟩ c.blocks.toNat
def stepE (c : CfD) (wt : ByteArray) (past : List Ent) (token : Int) : Ent := ((stepS c wt past token).K, (stepS c wt past token).V)
def stepL (c : CfD) (wt : ByteArray) (past : List Ent) (token : Int) : List Int := scoresP c wt (stepS c wt past token).x
def satL (xs : List Int) : Prop := ∀ x ∈ xs, -32767 ≤ x ∧ x ≤ 32767
def rowsOk (n d : Nat) (l : List (List Int)) : Prop := l.length = n ∧ ∀ r ∈ l, r.length = d ∧ satL r
def goodE (c : CfD) (e : Ent) : Prop := rowsOk c.blocks.toNat c.dim.toNat e.1 ∧ rowsOk c.blocks.toNat c.dim.toNat e.2
theorem okPB_0 (c : CfD) : okPB c 0 0 := ⟨by omega, by simp⟩
theorem okPB_1 (c : CfD) : okPB c 1 0 := ⟨by omega, by simp⟩
theorem okPB_11 (c : CfD) : okPB c 11 0 := ⟨by omega, by simp⟩
theorem okPB_b {c : CfD} {p b : Nat} (h1 : 2 ≤ p) (h2 : p ≤ 10) (hb : (b : Int) < c.blocks) : okPB c p b := ⟨by omega, by rw [if_neg (by omega)]; exact hb⟩
section
variable {c : CfD} {wt : ByteArray} {p b : Nat} {vs xs ys : List Int}
theorem times_len (m : Md c wt) (h : okPB c p b) (hv : (vs.length : Int) = (side c p).2) : (times c wt p b vs).length = (side c p).1.toNat ∧ satL (times c wt p b vs) := by
 unfold times Vecs.timesT Vecs.timesOk
 rw [tab_good m.ok m.sz h, decide_eq_true hv, Bool.true_and, if_pos rfl]
 unfold Vecs.timesL
 refine ⟨by rw [List.length_map, List.length_range], fun x hx => ?_⟩
 obtain ⟨i, _, rfl⟩ := List.mem_map.1 hx
 exact sat_le _
theorem plus_len (h : xs.length = ys.length) : (plusP xs ys).length = xs.length ∧ satL (plusP xs ys) := by
 have hs : Vecs.sameL [(none, 0, xs), (none, 0, ys)] = true := Vecs.same_yes (fun z hz => by
  rcases List.mem_cons.1 hz with rfl | hz
  ·rfl
  ·rw [List.mem_singleton] at hz; subst hz; exact h.symm)
 unfold plusP Vecs.plusT
 rw [hs, if_pos rfl]
 unfold Vecs.plusL
 refine ⟨by rw [List.length_map, List.length_range]; rfl, fun x hx => ?_⟩
 obtain ⟨i, _, rfl⟩ := List.mem_map.1 hx
 exact sat_le _
theorem norm_len (m : Md c wt) (h : okPB c p b) (hx : xs.length = (side c p).2.toNat) (h1 : 1 ≤ (side c p).1) : (normP c wt p b xs).length = xs.length := by
 unfold normP
 have hr : (rowP c wt p b 0).length = (side c p).2.toNat := row_len m.ok m.sz h (q := 0) (by omega)
 exact Norm.ofL_len (by rw [hr]; exact hx.symm)
theorem expN_le (d : Nat) : Soft.expN d ≤ 65536 := by
 unfold Soft.expN
 exact Nat.le_trans (Nat.div_le_self _ _) (Soft.tab_le _ (Nat.mod_lt _ (by omega)))
theorem weights_good (h0 : xs ≠ []) : (Soft.weightsL xs).any Soft.badW = false ∧ 0 < (Soft.weightsL xs).sum := by
 have hb : ∀ x ∈ Soft.weightsL xs, 0 ≤ x ∧ x ≤ 65536 := fun x hx => by
  obtain ⟨y, _, rfl⟩ := List.mem_map.1 hx
  unfold Soft.expI
  have := expN_le (Soft.cl (maxL xs) - Soft.cl y).toNat
  omega
 refine ⟨?_, ?_⟩
 ·rw [List.any_eq_false]
  intro x hx
  have := hb x hx
  unfold Soft.badW
  simp; omega
 ·have hm : (65536 : Int) ∈ Soft.weightsL xs := List.mem_map.2 ⟨maxL xs, (maxL_is h0).1, by rw [Int.sub_self]; decide⟩
  generalize Soft.weightsL xs = l at hb hm
  clear h0
  induction l with
  | nil => cases hm
  | cons y r ih =>
   rw [List.sum_cons]
   have h1 := hb y (by simp)
   have hnn : ∀ l : List Int, (∀ x ∈ l, 0 ≤ x ∧ x ≤ 65536) → 0 ≤ l.sum := fun l => by
    induction l with
    | nil => intro _; simp
    | cons y r ih => intro h; rw [List.sum_cons]; have := h y (by simp); have := ih (fun x hx => h x (by simp [hx])); omega
   rcases List.mem_cons.1 hm with h | h
   ·have := hnn r (fun x hx => hb x (by simp [hx])); omega
   ·have := ih (fun x hx => hb x (by simp [hx])) h; omega
theorem mixT_data (ws : List Int) (zs : List (Option Addr × Nat × List Int)) : Soft.mixT ws zs = mixP ws (zs.map (·.2.2)) := by
 have h0 : (zs.map (·.2.2)).map noA = zs.map fun z => noA z.2.2 := by rw [List.map_map]; rfl
 have h1 : wid (zs.map fun z => noA z.2.2) = wid zs := by
  unfold wid
  rw [List.getElem?_map]
  cases zs[0]? <;> rfl
 have h2 : sameL (zs.map fun z => noA z.2.2) = sameL zs := by
  unfold sameL
  rw [List.all_map, h1]; rfl
 unfold mixP
 rw [h0]
 unfold Soft.mixT Soft.mixOk Soft.mixL Soft.mixTerm
 rw [h1, h2, List.length_map]
 simp only [List.zipWith_map_right]
 rfl
theorem mix_len {rows : List (List Int)} {n : Nat} (h0 : xs ≠ []) (hl : rows.length = xs.length) (hr : ∀ r ∈ rows, r.length = n) : (mixP (Soft.weightsL xs) rows).length = n ∧ satL (mixP (Soft.weightsL xs) rows) := by
 have hw := weights_good h0
 have hx : 0 < xs.length := List.length_pos_iff.2 h0
 have hwid : wid (rows.map noA) = n := by
  rw [wid_pos (by rw [List.length_map]; omega), List.getElem_map]
  exact hr _ (List.getElem_mem _)
 have hs : sameL (rows.map noA) = true := same_yes (fun z hz => by
  obtain ⟨r, hr', rfl⟩ := List.mem_map.1 hz
  rw [hwid]; exact hr r hr')
 have hwl : (Soft.weightsL xs).length = xs.length := by unfold Soft.weightsL; rw [List.length_map]
 have hok : Soft.mixOk (Soft.weightsL xs) (rows.map noA) = true := by
  unfold Soft.mixOk
  rw [hw.1, hs, List.length_map, decide_eq_true (show rows.length ≠ 0 by omega), decide_eq_true (show (Soft.weightsL xs).length = rows.length by omega), decide_eq_true (show (Soft.weightsL xs).sum ≠ 0 by omega)]; rfl
 unfold mixP Soft.mixT
 rw [hok, if_pos rfl]
 unfold Soft.mixL
 refine ⟨by rw [List.length_map, List.length_range, hwid], fun x hx => ?_⟩
 obtain ⟨i, _, rfl⟩ := List.mem_map.1 hx
 exact sat_le _
theorem cut_len {a n : Nat} (h : a + n ≤ xs.length) : (cut xs a n).length = n := by unfold cut; rw [List.length_take, List.length_drop]; omega
def hasB (c : CfD) (b : Nat) (e : Ent) : Prop := b < e.1.length ∧ b < e.2.length ∧ (e.1.getD b []).length = c.dim.toNat ∧ (e.2.getD b []).length = c.dim.toNat
theorem rows_getD {n d : Nat} {l : List (List Int)} (h : rowsOk n d l) (hb : b < n) : (l.getD b []).length = d := by
 have hb' : b < l.length := by rw [h.1]; exact hb
 rw [List.getD_eq_getElem?_getD, List.getElem?_eq_getElem hb']
 exact (h.2 _ (List.getElem_mem hb')).1
theorem good_has {e : Ent} (h : goodE c e) (hb : b < c.blocks.toNat) : hasB c b e := ⟨by rw [h.1.1]; exact hb, by rw [h.2.1]; exact hb, rows_getD h.1 hb, rows_getD h.2 hb⟩
theorem head_len {es : List Ent} {a n : Nat} {q : List Int} (h0 : es ≠ []) (h : ∀ e ∈ es, hasB c b e) (ha : a + n ≤ c.dim.toNat) : (headP es b a n q).length = n ∧ satL (headP es b a n q) := by
 unfold headP
 refine mix_len (by simpa using h0) (by rw [List.length_map, List.length_map]) (fun r hr => ?_)
 obtain ⟨e, he, rfl⟩ := List.mem_map.1 hr
 unfold valP
 exact cut_len (by rw [(h e he).2.2.2]; exact ha)
theorem seen_len {es : List Ent} {q : List Int} (ok : okC c) (h0 : es ≠ []) (h : ∀ e ∈ es, hasB c b e) : ∀ j, j ≤ c.heads.toNat → (seenTo c es b q j).length = j * hdim c
 | 0, _ => by simp [seenTo]
 | j + 1, hj => by
  have hd := hdim_mul ok
  have hle : (j + 1) * hdim c ≤ c.heads.toNat * hdim c := Nat.mul_le_mul_right _ hj
  have hh : 1 ≤ c.heads := ok.2.2.1.1
  have e : ((c.heads.toNat * hdim c : Nat) : Int) = c.dim := by
   rw [Int.natCast_mul, Int.toNat_of_nonneg (by omega), Int.mul_comm]; exact hd.1
  have hs : (j + 1) * hdim c = j * hdim c + hdim c := Nat.succ_mul _ _
  rw [seenTo, List.length_append, seen_len ok h0 h j (by omega), (head_len h0 h (a := j * hdim c) (n := hdim c) (by omega)).1, Nat.succ_mul]
structure WkOk (c : CfD) (j : Nat) (s : WkD) : Prop where
 x : s.x.length = c.dim.toNat
 K : rowsOk j c.dim.toNat s.K
 V : rowsOk j c.dim.toNat s.V
theorem side_d {p : Nat} (h : p = 3 ∨ p = 4 ∨ p = 5 ∨ p = 6) : side c p = (c.dim, c.dim) := by rcases h with rfl | rfl | rfl | rfl <;> rfl
theorem side_n {p : Nat} (h : p = 2 ∨ p = 7 ∨ p = 11) : side c p = (1, c.dim) := by rcases h with rfl | rfl | rfl <;> rfl
theorem rowsOk.snoc {n d : Nat} {l : List (List Int)} {r : List Int} (h : rowsOk n d l) (h1 : r.length = d) (h2 : satL r) : rowsOk (n + 1) d (l ++ [r]) :=
 ⟨by rw [List.length_append, h.1]; rfl, fun x hx => by
  rcases List.mem_append.1 hx with hx | hx
  ·exact h.2 x hx
  ·rw [List.mem_singleton] at hx; subst hx; exact ⟨h1, h2⟩⟩
theorem norm2_len (m : Md c wt) {j : Nat} (hj : (j : Int) < c.blocks) {p : Nat} (hp : p = 2 ∨ p = 7) (hx : xs.length = c.dim.toNat) : (normP c wt p j xs).length = c.dim.toNat := by
 have hs := side_n (c := c) (p := p) (by omega)
 rw [norm_len m (okPB_b (by omega) (by omega) hj) (by rw [hs]; exact hx) (by rw [hs]; exact Int.le_refl 1), hx]
theorem timesD_len (m : Md c wt) {j : Nat} (hj : (j : Int) < c.blocks) {p : Nat} (hp : p = 3 ∨ p = 4 ∨ p = 5 ∨ p = 6) (hv : vs.length = c.dim.toNat) : (times c wt p j vs).length = c.dim.toNat ∧ satL (times c wt p j vs) := by
 have hs := side_d (c := c) hp
 have hd := m.ok.2.1
 have := times_len m (okPB_b (p := p) (b := j) (by omega) (by omega) hj) (vs := vs) (by rw [hs]; show (vs.length : Int) = c.dim; omega)
 rw [hs] at this; exact this
theorem lookK_ok (m : Md c wt) {j : Nat} (hj : (j : Int) < c.blocks) {s : WkD} (h : WkOk c j s) : rowsOk (j + 1) c.dim.toNat (lookK c wt j s) ∧ rowsOk (j + 1) c.dim.toNat (lookV c wt j s) := by
 have hn := norm2_len m hj (p := 2) (.inl rfl) h.x
 have h4 := timesD_len m hj (p := 4) (by omega) hn
 have h5 := timesD_len m hj (p := 5) (by omega) hn
 exact ⟨h.K.snoc h4.1 h4.2, h.V.snoc h5.1 h5.2⟩
theorem own_has (m : Md c wt) {j : Nat} (hj : (j : Int) < c.blocks) {s : WkD} (h : WkOk c j s) : hasB c j (lookK c wt j s, lookV c wt j s) := by
 obtain ⟨a, b⟩ := lookK_ok m hj h
 exact ⟨by rw [a.1]; omega, by rw [b.1]; omega, rows_getD a (by omega), rows_getD b (by omega)⟩
theorem look_has (m : Md c wt) {j : Nat} (hj : (j : Int) < c.blocks) {s : WkD} (h : WkOk c j s) {past : List Ent} (hp : ∀ e ∈ past, goodE c e) : ∀ e ∈ past ++ [(lookK c wt j s, lookV c wt j s)], hasB c j e := fun e he => by
 rcases List.mem_append.1 he with he | he
 ·exact good_has (hp e he) (by omega)
 ·rw [List.mem_singleton] at he; subst he; exact own_has m hj h
theorem heads_dim (ok : okC c) : c.heads.toNat * hdim c = c.dim.toNat := by
 have hd := hdim_mul ok
 have hh : 1 ≤ c.heads := ok.2.2.1.1
 have e : ((c.heads.toNat * hdim c : Nat) : Int) = c.dim := by
  rw [Int.natCast_mul, Int.toNat_of_nonneg (by omega), Int.mul_comm]; exact hd.1
 omega
theorem seenAll_len (m : Md c wt) {j : Nat} (hj : (j : Int) < c.blocks) {s : WkD} (h : WkOk c j s) {past : List Ent} (hp : ∀ e ∈ past, goodE c e) {q : List Int} : (seenTo c (past ++ [(lookK c wt j s, lookV c wt j s)]) j q c.heads.toNat).length = c.dim.toNat := by
 rw [seen_len m.ok (by simp) (look_has m hj h hp) _ (Nat.le_refl _), heads_dim m.ok]
theorem look_ok (m : Md c wt) {j : Nat} (hj : (j : Int) < c.blocks) {s : WkD} (h : WkOk c j s) {past : List Ent} (hp : ∀ e ∈ past, goodE c e) : WkOk c (j + 1) (lookP c wt past j s) := by
 obtain ⟨a, b⟩ := lookK_ok m hj h
 refine ⟨?_, a, b⟩
 have h6 := timesD_len m hj (p := 6) (by omega) (seenAll_len m hj h hp (q := times c wt 3 j (normP c wt 2 j s.x)))
 show (plusP s.x _).length = _
 rw [(plus_len (by rw [h.x]; exact h6.1.symm)).1, h.x]
theorem thinkU_len (m : Md c wt) {j : Nat} (hj : (j : Int) < c.blocks) (hx : xs.length = c.dim.toNat) :
  (times c wt 8 j (normP c wt 7 j xs)).length = c.hidden.toNat ∧ (times c wt 9 j (normP c wt 7 j xs)).length = c.hidden.toNat ∧ satL (times c wt 8 j (normP c wt 7 j xs)) ∧
  (Act.pairsL (times c wt 8 j (normP c wt 7 j xs)) (times c wt 9 j (normP c wt 7 j xs))).length = c.hidden.toNat := by
 have hn := norm2_len m hj (p := 7) (.inr rfl) hx
 have hd := m.ok.2.1
 have h8 := times_len m (okPB_b (p := 8) (b := j) (by omega) (by omega) hj) (vs := normP c wt 7 j xs) (by show ((normP c wt 7 j xs).length : Int) = c.dim; omega)
 have h9 := times_len m (okPB_b (p := 9) (b := j) (by omega) (by omega) hj) (vs := normP c wt 7 j xs) (by show ((normP c wt 7 j xs).length : Int) = c.dim; omega)
 have h8' : (times c wt 8 j (normP c wt 7 j xs)).length = c.hidden.toNat := h8.1
 have h9' : (times c wt 9 j (normP c wt 7 j xs)).length = c.hidden.toNat := h9.1
 exact ⟨h8', h9', h8.2, by rw [Act.pairsL_len (by omega)]; exact h9'⟩
theorem thinkD_len (m : Md c wt) {j : Nat} (hj : (j : Int) < c.blocks) (hv : vs.length = c.hidden.toNat) : (times c wt 10 j vs).length = c.dim.toNat := by
 have hd := m.ok.2.2.2.2.1
 exact (times_len m (okPB_b (p := 10) (b := j) (by omega) (by omega) hj) (vs := vs) (by show (vs.length : Int) = c.hidden; omega)).1
theorem think_ok (m : Md c wt) {j : Nat} (hj : (j : Int) < c.blocks) {n : Nat} {s : WkD} (h : WkOk c n s) : WkOk c n (thinkP c wt j s) := by
 refine ⟨?_, h.K, h.V⟩
 have hu := thinkU_len m hj h.x
 have h10 := thinkD_len m hj hu.2.2.2
 show (plusP s.x _).length = _
 rw [(plus_len (by rw [h.x]; exact h10.symm)).1, h.x]
theorem begin_len (m : Md c wt) {k : Nat} (hk : (k : Int) < c.context) {t : Int} (ht : 0 ≤ t ∧ t < c.vocab) : (rowP c wt 0 0 t).length = c.dim.toNat ∧ (rowP c wt 1 0 k).length = c.dim.toNat ∧ (beginP c wt k t).length = c.dim.toNat := by
 obtain ⟨n, rfl⟩ : ∃ n : Nat, t = n := ⟨t.toNat, by omega⟩
 have h0 : (rowP c wt 0 0 (n : Int)).length = c.dim.toNat := row_len m.ok m.sz (okPB_0 c) (q := n) ht.2
 have h1 : (rowP c wt 1 0 (k : Int)).length = c.dim.toNat := row_len m.ok m.sz (okPB_1 c) (q := k) hk
 exact ⟨h0, h1, by unfold beginP; rw [List.length_zipWith, h0, h1]; omega⟩
theorem blocks_ok (m : Md c wt) {past : List Ent} (hp : ∀ e ∈ past, goodE c e) {s : WkD} (h : WkOk c 0 s) : ∀ j : Nat, (j : Int) ≤ c.blocks → WkOk c j (blocksTo c wt past s j)
 | 0, _ => h
 | j + 1, hj => think_ok m (by omega) (look_ok m (by omega) (blocks_ok m hp h j (by omega)) hp)
theorem step_ok (m : Md c wt) {past : List Ent} (hp : ∀ e ∈ past, goodE c e) (hk : (past.length : Int) < c.context) {t : Int} (ht : 0 ≤ t ∧ t < c.vocab) : WkOk c c.blocks.toNat (stepS c wt past t) ∧ goodE c (stepE c wt past t) := by
 have hb := m.ok.2.2.2.1
 have h := blocks_ok m hp (s := ⟨beginP c wt past.length t, [], []⟩) ⟨(begin_len m hk ht).2.2, ⟨rfl, fun r hr => (by cases hr)⟩, ⟨rfl, fun r hr => (by cases hr)⟩⟩ c.blocks.toNat (by omega)
 exact ⟨h, h.K, h.V⟩
end
end Go.Proofs.YtkbikekbaboclaaGreat.Stp
