/- Layer 1's statements: of all whole numbers the Go functions NumShift, NumRoot, NumDiv and NumExact answer true and leave what was there; the conditions stand in each theorem. -/
import Derived.Test.YtefidalhijpmdaaNumR
import Derived.Test.YtefidalhijpmdaaNumD
import Derived.Test.YtefidalhijpmdaaNumQ
import Derived.Test.YtefidalhijpmdaaNumS
set_option linter.unusedVariables false
namespace Go.Proofs.Ytefidalhijpmdaa.Num
open Go Go.Proofs Go.Proofs.Ytefidalhijpmdaa.V Go.Proofs.Ytefidalhijpmdaa.Vc Go.RowKit

def maxC (first : Int) (l : List Int) : Int := l.foldl (fun m x => if x > m then x else m) first
section
variable {w : World} {oa ob : Option Addr} {ca cb : Nat} {xs ys : List Int} {F G : Nat → Prop}
theorem Max_spec (hx : Rd w oa (xs.map (.int .i64)) F) (hl : xs.length ≤ 1000000) (first : Int) : Calls Try.prog i_num_Max #[.int .i64 first, .slice oa xs.length ca] w (Ret fun v w' => v = .int .i64 (maxC first xs) ∧ w' = w) := by
  refine num_Max.calls _ _ _ _ ?_
  unfold num_Max.vc
  refine ⟨fun m i k w' => w' = w ∧ ∃ j : Nat, i = j ∧ j ≤ xs.length ∧ k = xs.length - j ∧ m = maxC first (xs.take j), ⟨_, rfl, 0, rfl, Nat.zero_le _, rfl, rfl⟩, ?_⟩
  rintro jk m i k w' ⟨rfl, j, rfl, hj, rfl, rfl⟩
  refine ⟨fun hlt => ?_, fun hge => ?_⟩
  · have hlt : j < xs.length := by simpa using hlt
    refine ⟨⟨by omega, by omega⟩, hx.at (j := (j : Int).toNat * 1) (v := .int .i64 xs[j]) (by simp [hlt]) fun p hp => ⟨xs[j], hp, xs.length - (j + 1), by omega, rfl, j + 1, by rw [wrap_id (by omega) (by omega)]; rfl, hlt, rfl, ?_⟩⟩
    rw [take_snoc xs j hlt]; unfold maxC; rw [List.foldl_append]; rfl
  · have : j = xs.length := by simp at hge; omega
    subst this
    exact ⟨by rw [List.take_length], rfl⟩
theorem Min_one (w : World) (x : Int) : Calls Try.prog i_num_Min #[.int .i64 x, .slice none 0 0] w (Ret fun v w' => v = .int .i64 x ∧ Ch Non w w') := by
  refine num_Min.calls _ _ _ _ ?_
  unfold num_Min.vc
  intro w1 e1
  have ho : Own w1 t_int 1 (some ⟨w.heap.size, 0, none⟩) 1 1 (([x] : List Int).map (.int .i64)) (New w w1) := Own.made e1 rfl (by decide) ⟨Nat.le_refl _, (Blk.new e1).lt⟩
  obtain ⟨i, z, hi, _⟩ := el_S_int.inf
  refine ⟨_, _, _, w1, run_append_empty el_S_int.und hi (by omega) w1 0, ?_⟩
  have hs : Calls Try.prog i_slices_Min #[.slice (some ⟨w.heap.size, 0, none⟩) 1 1] w1 (Ret fun v w' => v = .int .i64 x ∧ w' = w1) := by
    refine slices_Min.calls _ _ _ ?_
    unfold slices_Min.vc
    refine iteF rfl ⟨⟨by omega, by omega⟩, ?_⟩
    refine ⟨x, (Blk.new e1).cell 0 rfl, fun m i k w' => w' = w1 ∧ m = x ∧ i = 1, ⟨0, rfl, rfl, rfl⟩, ?_⟩
    rintro jk m i k w' ⟨rfl, rfl, rfl⟩
    exact ⟨fun h => by simp at h, fun _ => ⟨rfl, rfl⟩⟩
  refine step_call hs ?_
  rintro v w2 ⟨rfl, rfl⟩
  exact ⟨_, rfl, rfl, Ch.alloc e1⟩
def dotC (xs ys : List Int) : Int := (List.zipWith product xs ys).foldl (fun out p => clamp (out + p) (-4611686018427387904) 4611686018427387904) 0
theorem zip_take {xs ys : List Int} {j : Nat} (h1 : j < xs.length) (h2 : j < ys.length) : (List.zipWith product xs ys).take (j + 1) = (List.zipWith product xs ys).take j ++ [product xs[j] ys[j]] := by
  rw [List.take_succ_eq_append_getElem (by simp; omega)]; simp
theorem Dot_spec (hx : Rd w oa (xs.map (.int .i64)) F) (hy : Rd w ob (ys.map (.int .i64)) G) (hl : xs.length ≤ 1000000) : Calls Try.prog i_num_Dot #[.slice oa xs.length ca, .slice ob ys.length cb] w (Ret fun v w' => v = .int .i64 (dotC xs ys) ∧ Ch Non w w') := by
  refine num_Dot.calls _ _ _ _ _ _ ?_
  unfold num_Dot.vc
  have hmin : (if ((ys.length : Nat) : Int) < ((xs.length : Nat) : Int) then ((ys.length : Nat) : Int) else ((xs.length : Nat) : Int)) = ((min xs.length ys.length : Nat) : Int) := by split <;> omega
  rw [hmin]
  refine ⟨fun m i k w' => Ch Non w w' ∧ -4611686018427387904 ≤ m ∧ m ≤ 4611686018427387904 ∧ ∃ j : Nat, i = j ∧ j ≤ min xs.length ys.length ∧ k = min xs.length ys.length - j ∧ m = ((List.zipWith product xs ys).take j).foldl (fun out p => clamp (out + p) (-4611686018427387904) 4611686018427387904) 0, ⟨_, Ch.refl _ _, by omega, by omega, 0, rfl, Nat.zero_le _, rfl, rfl⟩, ?_⟩
  rintro jk m i k w1 ⟨hc, hm1, hm2, j, rfl, hj, rfl, hm⟩
  refine ⟨fun hlt => ?_, fun hge => ?_⟩
  · have hlt : j < min xs.length ys.length := by simp at hlt; omega
    refine ⟨fun w' => Ch Non w w', fun w2 e2 => ⟨hc.andN (Ch.drew e2), ⟨by omega, by omega⟩, Rd.keeps (j := (j : Int).toNat * 1) (S := fun w2 => Ch Non w w2) (fun w2 h2 => hx.keepN h2) hc (by simp; omega) fun p hp => ⟨_, hp, ⟨by omega, by omega⟩,
      Rd.keeps (j := (j : Int).toNat * 1) (S := fun w2 => Ch Non w w2) (fun w2 h2 => hy.keepN h2) hc (by simp; omega) fun p2 hp2 => ⟨_, hp2, ?_⟩⟩⟩⟩
    have hc2 := hc.andN (Ch.drew (F := Non) e2)
    refine step_call (product_spec w2 _ _) ?_
    rintro v w3 ⟨rfl, rfl⟩
    refine ⟨_, rfl, hc2, ?_⟩
    have hp := product_le (xs[(j : Int).toNat * 1]'(by simp; omega)) (ys[(j : Int).toNat * 1]'(by simp; omega))
    rw [wrap_id (x := m + _) (by omega) (by omega)]
    refine step_call (Clamp_spec _ _ _ _) ?_
    rintro v w4 ⟨rfl, rfl⟩
    have hcl := clamp_le (x := m + product (xs[(j : Int).toNat * 1]'(by simp; omega)) (ys[(j : Int).toNat * 1]'(by simp; omega))) (low := -4611686018427387904) (high := 4611686018427387904) (by omega)
    refine ⟨_, rfl, hc2, min xs.length ys.length - (j + 1), by omega, hc2, hcl.1, hcl.2, j + 1, by rw [wrap_id (by omega) (by omega)]; rfl, hlt, rfl, ?_⟩
    rw [zip_take (by omega) (by omega), List.foldl_append, ← hm]; simp
  · have : j = min xs.length ys.length := by simp at hge; omega
    subst this
    rw [List.take_of_length_le (by simp)] at hm
    exact ⟨by rw [hm]; rfl, hc⟩
end
theorem awake_spec (w : World) : Calls Try.prog i_coadjutorlaw01_awake #[] w (Ret fun v w' => v = .bool true ∧ Ch Non w w') := by
  refine coadjutorlaw01_awake.calls ?_
  unfold coadjutorlaw01_awake.vc
  refine step_call (Shift_spec w (x := 3) ⟨by decide, by decide⟩ 1) ?_
  rintro v w1 ⟨rfl, hc1⟩
  refine ⟨_, rfl, iteT (by decide) ?_⟩
  refine step_call (Shift_spec w1 (x := -3) ⟨by decide, by decide⟩ 1) ?_
  rintro v w2 ⟨rfl, hc2⟩
  refine ⟨_, rfl, iteT (by decide) ?_⟩
  refine step_call (Div_spec w2 (a := -3) ⟨by decide, by decide⟩ 2) ?_
  rintro v w3 ⟨rfl, rfl⟩
  refine ⟨_, rfl, iteT (by decide) ?_⟩
  refine step_call (Sqrt_spec _ (n := 15) ⟨by decide, by decide⟩) ?_
  rintro v w4 ⟨rfl, rfl⟩
  refine ⟨_, rfl, iteT (by decide) fun w5 e5 => ?_⟩
  have h5 : Own w5 t_int 1 (some ⟨_, 0, none⟩) 2 2 (([5, 3] : List Int).map (.int .i64)) (fun _ => True) := Own.made e5 rfl (by decide) trivial
  refine step_call (Max_spec (xs := [5, 3]) h5.rd (by decide) 2) ?_
  rintro v w6 ⟨rfl, rfl⟩
  refine ⟨_, rfl, iteT (by decide) ?_⟩
  refine step_call (Min_one _ 2) ?_
  rintro v w7 ⟨rfl, hc7⟩
  refine ⟨_, rfl, iteT (by decide) fun w8 e8 => ?_⟩
  have h8 : Own w8 t_int 1 (some ⟨_, 0, none⟩) 2 2 (([1, 2] : List Int).map (.int .i64)) (fun _ => True) := Own.made e8 rfl (by decide) trivial
  refine step_call (Sum_spec (xs := [1, 2]) h8.rd (by decide)) ?_
  rintro v w9 ⟨rfl, rfl⟩
  refine ⟨_, rfl, iteT (by decide) fun w10 e10 w11 e11 => ?_⟩
  have h10 : Own w10 t_int 1 (some ⟨_, 0, none⟩) 2 2 (([1, 2] : List Int).map (.int .i64)) (fun _ => True) := Own.made e10 rfl (by decide) trivial
  have h11 : Own w11 t_int 1 (some ⟨_, 0, none⟩) 3 3 (([3, 4, 5] : List Int).map (.int .i64)) (fun _ => True) := Own.made e11 rfl (by decide) trivial
  refine step_call (Dot_spec (xs := [1, 2]) (ys := [3, 4, 5]) (h10.keepN (Ch.alloc e11)).rd h11.rd (by decide)) ?_
  rintro v w12 ⟨rfl, hc12⟩
  exact ⟨_, rfl, rfl, (((((((hc1.andN hc2).andN (Ch.alloc e5)).andN hc7).andN (Ch.alloc e8)).andN (Ch.alloc e10)).andN (Ch.alloc e11)).andN hc12)⟩

theorem NumExact_true (W : World) (a : Int) (wa : (Lit.int .i64 a).wf = true) (b : Int) (wb : (Lit.int .i64 b).wf = true) (c : Int) (wc : (Lit.int .i64 c).wf = true) (n : Int) (wn : (Lit.int .i64 n).wf = true) :
    Calls Try.prog i_coadjutorlaw01_NumExact #[.int .i64 a, .int .i64 b, .int .i64 c, .int .i64 n] W (Ret fun v w' => v = .bool true ∧ Ch Non W w') := by
  have ia : inI a := wf_i64 wa
  refine coadjutorlaw01_NumExact.calls _ _ _ _ ?_
  unfold coadjutorlaw01_NumExact.vc
  refine step_call (awake_spec W) ?_
  rintro v w1 ⟨rfl, hc1⟩
  refine ⟨_, rfl, iteF rfl ?_⟩
  refine step_call (Clamp_spec _ _ _ _) ?_
  rintro v w2 ⟨rfl, rfl⟩
  refine ⟨_, rfl, ?_⟩
  refine step_call (rClamp_spec _ _ _ _) ?_
  rintro v w2 ⟨rfl, rfl⟩
  refine ⟨_, rfl, iteT (by simp) ?_⟩
  refine step_call (Sat_spec _ _) ?_
  rintro v w2 ⟨rfl, rfl⟩
  refine ⟨_, rfl, ?_⟩
  refine step_call (rSat_spec _ _) ?_
  rintro v w2 ⟨rfl, rfl⟩
  refine ⟨_, rfl, iteT (by simp) ?_⟩
  refine step_call (Shift_spec _ ia _) ?_
  rintro v w3 ⟨rfl, hc3⟩
  have hc3 := hc1.andN hc3
  refine ⟨_, rfl, ?_⟩
  refine step_call (rShift_spec _ ia _) ?_
  rintro v w4 ⟨rfl, hc4⟩
  have hc4 := hc3.andN hc4
  refine ⟨_, rfl, iteT (by simp) ?_⟩
  refine step_call (Mul_spec _ _ _ _) ?_
  rintro v w5 ⟨rfl, hc5⟩
  have hc5 := hc4.andN hc5
  refine ⟨_, rfl, ?_⟩
  refine step_call (rMul_spec _ _ _ _) ?_
  rintro v w6 ⟨rfl, hc6⟩
  have hc6 := hc5.andN hc6
  refine ⟨_, rfl, iteT (by simp) ?_⟩
  refine step_call (Sqrt_spec _ ia) ?_
  rintro v w7 ⟨rfl, rfl⟩
  refine ⟨_, rfl, ?_⟩
  refine step_call (rSqrt_spec _ ia) ?_
  rintro v w7 ⟨rfl, rfl⟩
  refine ⟨_, rfl, iteT (by simp) ?_⟩
  refine step_call (Div_spec _ ia _) ?_
  rintro v w7 ⟨rfl, rfl⟩
  refine ⟨_, rfl, ?_⟩
  refine step_call (rDiv_spec _ ia _) ?_
  rintro v w7 ⟨rfl, rfl⟩
  exact ⟨_, rfl, by simp, hc6⟩
theorem NumDiv_true (W : World) (a : Int) (wa : (Lit.int .i64 a).wf = true) (b : Int) (wb : (Lit.int .i64 b).wf = true) :
    Calls Try.prog i_coadjutorlaw01_NumDiv #[.int .i64 a, .int .i64 b] W (Ret fun v w' => v = .bool true ∧ Ch Non W w') := by
  have ia : inI a := wf_i64 wa
  refine coadjutorlaw01_NumDiv.calls _ _ ?_
  unfold coadjutorlaw01_NumDiv.vc
  refine step_call (awake_spec W) ?_
  rintro v w1 ⟨rfl, hc1⟩
  have z : Calls Try.prog i_num_Div #[.int .i64 a, .int .i64 0] w1 (Ret fun v_1 w2 => ∃ (x28 : Int), v_1 = (.int .i64 x28) ∧ (Value.bool (x28 == (0 : Int)) = .bool true ∧ Ch Non W w2)) := by
    refine step_call (Div_spec _ ia 0) ?_
    rintro v w2 ⟨rfl, rfl⟩
    exact ⟨_, rfl, rfl, hc1⟩
  refine ⟨_, rfl, iteF rfl ⟨fun _ => z, fun a1 => ⟨fun _ => z, fun a2 => ⟨fun _ => z, fun b1 => ⟨fun _ => z, fun b2 => ⟨fun _ => z, fun b0 => ?_⟩⟩⟩⟩⟩⟩
  simp only [decide_eq_false_iff_not] at a1 a2 b1 b2
  have b0 : b ≠ 0 := by simpa using b0
  refine step_call (Div_spec _ ia b) ?_
  rintro v w2 ⟨rfl, rfl⟩
  have hd : div a b = Int.fdiv a b := by
    unfold div; rw [if_neg b0, if_neg (by omega)]
  have hf := Int.mul_fdiv_add_fmod a b
  have e1 : a - div a b * b = Int.fmod a b := by rw [hd, Int.mul_comm]; omega
  have f1 : 0 < b → 0 ≤ Int.fmod a b ∧ Int.fmod a b < b := fun h => ⟨Int.fmod_nonneg_of_pos a h, Int.fmod_lt_of_pos a h⟩
  have f2 : b < 0 → Int.fmod a b ≤ 0 ∧ b < Int.fmod a b := fun h => by
    have h1 := Int.fmod_nonneg_of_pos (-a) (show 0 < -b by omega)
    have h2 := Int.fmod_lt_of_pos (-a) (show 0 < -b by omega)
    rw [Int.neg_fmod_neg] at h1 h2; omega
  have hqb : div a b * b = a - Int.fmod a b := by omega
  have hw1 : IntKind.i64.wrap (div a b * b) = div a b * b := by
    rw [hqb]
    rcases Int.lt_or_gt_of_ne b0 with h | h
    · have := f2 h; exact wrap_id (by omega) (by omega)
    · have := f1 h; exact wrap_id (by omega) (by omega)
  have hw2 : IntKind.i64.wrap (a - IntKind.i64.wrap (div a b * b)) = Int.fmod a b := by
    rw [hw1, e1]
    rcases Int.lt_or_gt_of_ne b0 with h | h
    · have := f2 h; exact wrap_id (by omega) (by omega)
    · have := f1 h; exact wrap_id (by omega) (by omega)
  refine ⟨_, rfl, ?_⟩
  rw [hw2]
  rcases Int.lt_or_gt_of_ne b0 with h | h
  · obtain ⟨g1, g2⟩ := f2 h
    exact iteF (by simp; omega) (iteT (by simp; omega) (iteT (by simp; omega) ⟨by simp; omega, hc1⟩))
  · obtain ⟨g1, g2⟩ := f1 h
    exact iteT (by simp; omega) (iteT (by simp; omega) (iteT (by simp; omega) ⟨rfl, hc1⟩))
theorem NumRoot_true (W : World) (n : Int) (wn : (Lit.int .i64 n).wf = true) (r : Int) (wr : (Lit.int .i64 r).wf = true) :
    Calls Try.prog i_coadjutorlaw01_NumRoot #[.int .i64 n, .int .i64 r] W (Ret fun v w' => v = .bool true ∧ Ch Non W w') := by
  have iN : inI n := wf_i64 wn
  refine coadjutorlaw01_NumRoot.calls _ _ ?_
  unfold coadjutorlaw01_NumRoot.vc
  refine step_call (awake_spec W) ?_
  rintro v w1 ⟨rfl, hc1⟩
  have h0 : 0 ≤ IntKind.u64.wrap r := by rw [wrap_u64]; omega
  rw [tmod_pos h0]
  have k1 : 0 ≤ IntKind.u64.wrap r % 1073741824 := Int.emod_nonneg _ (by omega)
  have k2 : IntKind.u64.wrap r % 1073741824 < 1073741824 := Int.emod_lt_of_pos _ (by omega)
  rw [wrap_id (x := IntKind.u64.wrap r % 1073741824) (by omega) (by omega)]
  generalize IntKind.u64.wrap r % 1073741824 = k at k1 k2
  have hkk := mul_le_of (m := 1073741824) (n := 1073741824) (a := k) (b := k) (by omega) (by omega) (by omega)
  rw [wrap_id (x := k * k) (by omega) (by omega)]
  have hroot : root (k * k) = k := root_eq k1 (Int.le_refl _) (by
    have : (k + 1) * (k + 1) = k * k + 2 * k + 1 := by rw [Int.mul_add, Int.add_mul]; omega
    omega)
  have ik : inI (k * k) := ⟨by omega, by omega⟩
  have out : (n < 0 ∨ n > 1152921504606846976) → Calls Try.prog i_num_Sqrt #[.int .i64 (k * k)] w1 (Ret fun v_1 w2 => ∃ (x22 : Int), v_1 = (.int .i64 x22) ∧
      ((x22 == k) = true →
      (decide (n > (0 : Int)) = true →
      (Value.bool true = .bool true ∧ Ch Non W w2)) ∧
      (decide (n > (0 : Int)) = false →
      Calls Try.prog i_num_Sqrt #[(.int .i64 n)] w2 (Ret fun v_2 w3 => ∃ (x30 : Int), v_2 = (.int .i64 x30) ∧
      (Value.bool (x30 == (0 : Int)) = .bool true ∧ Ch Non W w3)))) ∧
      ((x22 == k) = false →
      (Value.bool false = .bool true ∧ Ch Non W w2))) := fun _ => by
    refine step_call (Sqrt_spec _ ik) ?_
    rintro v w2 ⟨rfl, rfl⟩
    refine ⟨_, rfl, iteT (by rw [hroot]; simp) ⟨fun _ => ⟨rfl, hc1⟩, fun hn => ?_⟩⟩
    refine step_call (Sqrt_spec _ iN) ?_
    rintro v w3 ⟨rfl, rfl⟩
    have hn : n ≤ 0 := by simpa using hn
    exact ⟨_, rfl, by rw [root_neg hn]; rfl, hc1⟩
  refine ⟨_, rfl, iteF rfl ⟨by decide, fun h => out (.inl (by simpa using h)), fun hn0 => ⟨fun h => out (.inr (by simpa using h)), fun hn1 => ?_⟩⟩⟩
  have hn0 : 0 ≤ n := by simpa using hn0
  have hn1 : n ≤ 1152921504606846976 := by simpa using hn1
  obtain ⟨r0, r1, r2⟩ := root_spec hn0
  have r3 : root n ≤ 1073741824 := by
    apply Int.le_of_not_gt; intro hh
    have := Int.mul_le_mul (show 1073741825 ≤ root n by omega) (show 1073741825 ≤ root n by omega) (by omega) r0
    omega
  refine step_call (Sqrt_spec _ iN) ?_
  rintro v w2 ⟨rfl, rfl⟩
  have hb := mul_le_of (m := 1073741825) (n := 1073741825) (a := root n + 1) (b := root n + 1) (by omega) (by omega) (by omega)
  refine ⟨_, rfl, ?_⟩
  rw [wrap_id (x := root n * root n) (by have := Int.mul_nonneg r0 r0; omega) (by omega), wrap_id (x := root n + 1) (by omega) (by omega), wrap_id (x := (root n + 1) * (root n + 1)) (by omega) (by omega)]
  refine iteT (by simpa using r0) (iteT (by simpa using r1) (iteT (by simpa using r2) ?_))
  refine step_call (Sqrt_spec _ ik) ?_
  rintro v w3 ⟨rfl, rfl⟩
  exact ⟨_, rfl, by rw [hroot]; simp, hc1⟩
end Go.Proofs.Ytefidalhijpmdaa.Num
