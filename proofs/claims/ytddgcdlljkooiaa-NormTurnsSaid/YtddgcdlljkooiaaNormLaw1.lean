/- NormExact's and NormSize's contracts: of all rows of whole numbers the Go functions answer true and leave what was there; the conditions stand in each theorem. -/
import Derived.Test.YtddgcdlljkooiaaNorm
set_option linter.unusedVariables false
namespace Go.Proofs.Ytddgcdlljkooiaa.Norm
open Go Go.Proofs Go.Proofs.Ytddgcdlljkooiaa.V Go.Proofs.Ytddgcdlljkooiaa.Vc Go.Proofs.Ytddgcdlljkooiaa.Num Go.RowKit

theorem r300 : rootL [300, -300] = 301 := by
  have h : (sqs [300, -300]).sum / (([300, -300] : List Int).length : Int) = 90000 := by decide
  unfold rootL
  rw [h, root_eq (s := 300) (by omega) (by omega) (by omega)]; rfl
theorem r34 : rootL [3, 4] = 4 := by
  have h : (sqs [3, 4]).sum / (([3, 4] : List Int).length : Int) = 12 := by decide
  unfold rootL
  rw [h, root_eq (s := 3) (by omega) (by omega) (by omega)]; rfl
theorem r8 : rootL [8] = 9 := by
  have h : (sqs [8]).sum / (([8] : List Int).length : Int) = 64 := by decide
  unfold rootL
  rw [h, root_eq (s := 8) (by omega) (by omega) (by omega)]; rfl
theorem r0 : rootL [] = 1 := by
  have h : (sqs []).sum / (([] : List Int).length : Int) = 0 := by decide
  unfold rootL
  rw [h, root_neg (by omega)]; rfl
theorem q300 : ofL [0, 0] [300, -300] = [63, -63] := by
  unfold ofL; rw [r300]; decide
theorem q8 : ofL (List.replicate [(8 : Int)].length 0) [8] = [56] := by
  unfold ofL; rw [r8]; decide
theorem awake_spec (w : World) : Calls Try.prog i_coadjutorlaw13_awake #[] w (Ret fun v w' => v = .bool true ∧ Ch Non w w') := by
  refine coadjutorlaw13_awake.calls ?_
  unfold coadjutorlaw13_awake.vc
  intro w1 e1 w2 e2
  have h1 : Own w1 t_int 1 (some ⟨w.heap.size, 0, none⟩) 2 2 (([0, 0] : List Int).map (.int .i64)) (New w w1) := Own.made e1 rfl (by decide) ⟨Nat.le_refl _, (Blk.new e1).lt⟩
  have h2 : Own w2 t_int 1 (some ⟨w1.heap.size, 0, none⟩) 2 2 (([300, -300] : List Int).map (.int .i64)) (New w1 w2) := Own.made e2 rfl (by decide) ⟨Nat.le_refl _, (Blk.new e2).lt⟩
  have hc2 : Ch Non w w2 := (Ch.alloc (F := Non) e1).andN (Ch.alloc e2)
  refine step_call (Of_spec (gs := [0, 0]) (xs := [300, -300]) (h1.keepN (Ch.alloc e2)).rd h2.rd (by decide)) ?_
  rintro v w3 ⟨o3, c3, rfl, h3, hc3⟩
  rw [q300] at h3 ⊢
  refine ⟨_, _, _, rfl, fun w4 e4 => ?_⟩
  have h4 : Own w4 t_int 1 (some ⟨w3.heap.size, 0, none⟩) 2 2 (([63, -63] : List Int).map (.int .i64)) (New w3 w4) := Own.made e4 rfl (by decide) ⟨Nat.le_refl _, (Blk.new e4).lt⟩
  have hc4 := (hc2.andN hc3).andN (Ch.alloc e4)
  refine step_call (ints_spec (xs := [63, -63]) (ys := [63, -63]) (h3.keepN (Ch.alloc e4)).rd h4.rd (by simp)) ?_
  rintro v w5 ⟨rfl, hc5⟩
  have hc5 := hc4.andN hc5
  refine ⟨_, rfl, iteT (by decide) ?_⟩
  refine step_call (Root_spec (xs := []) (G := Non) (Rd.nil _ _ _) (by decide)) ?_
  rintro v w6 ⟨rfl, hc6⟩
  refine ⟨_, rfl, iteT (by rw [r0]; rfl) fun w7 e7 => ?_⟩
  have h7 : Own w7 t_int 1 (some ⟨w6.heap.size, 0, none⟩) 2 2 (([3, 4] : List Int).map (.int .i64)) (New w6 w7) := Own.made e7 rfl (by decide) ⟨Nat.le_refl _, (Blk.new e7).lt⟩
  refine step_call (Root_spec (xs := [3, 4]) h7.rd (by decide)) ?_
  rintro v w8 ⟨rfl, hc8⟩
  refine ⟨_, rfl, iteT (by rw [r34]; rfl) fun w9 e9 => ?_⟩
  have h9 : Own w9 t_int 1 (some ⟨w8.heap.size, 0, none⟩) 1 1 (([8] : List Int).map (.int .i64)) (New w8 w9) := Own.made e9 rfl (by decide) ⟨Nat.le_refl _, (Blk.new e9).lt⟩
  refine step_call (Plain_spec (xs := [8]) h9.rd (by decide)) ?_
  rintro v w10 ⟨o10, c10, rfl, h10, hc10⟩
  rw [q8] at h10 ⊢
  refine ⟨_, _, _, rfl, fun w11 e11 => ?_⟩
  have h11 : Own w11 t_int 1 (some ⟨w10.heap.size, 0, none⟩) 1 1 (([56] : List Int).map (.int .i64)) (New w10 w11) := Own.made e11 rfl (by decide) ⟨Nat.le_refl _, (Blk.new e11).lt⟩
  refine step_call (ints_spec (xs := [56]) (ys := [56]) (h10.keepN (Ch.alloc e11)).rd h11.rd (by simp)) ?_
  rintro v w12 ⟨rfl, hc12⟩
  exact ⟨_, rfl, by simp, ((((((hc5.andN hc6).andN (Ch.alloc e7)).andN hc8).andN (Ch.alloc e9)).andN hc10).andN (Ch.alloc e11)).andN hc12⟩

theorem NormExact_true (W : World) (o1 : Option Addr) (n1 c1 : Nat) (h1 : DatC Try.prog W t_S_int [.slice o1 n1 c1]) (o2 : Option Addr) (n2 c2 : Nat) (h2 : DatC Try.prog W t_S_int [.slice o2 n2 c2]) :
    Calls Try.prog i_coadjutorlaw13_NormExact #[.slice o1 n1 c1, .slice o2 n2 c2] W (Ret fun v w' => v = .bool true ∧ Ch Non W w') := by
  obtain ⟨o1', c1', gs, hcs, hl1, hl2, hl3, ig, hg⟩ := h1.ints (e := t_int) (by kernel_rfl) (by kernel_rfl)
  injection hcs with hcs
  injection hcs with e1 e2 e3
  subst e1; subst e2; subst e3
  obtain ⟨o2', c2', xs, hcs, hm1, hm2, hm3, ix, hx⟩ := h2.ints (e := t_int) (by kernel_rfl) (by kernel_rfl)
  injection hcs with hcs
  injection hcs with e1 e2 e3
  subst e1; subst e2; subst e3
  refine coadjutorlaw13_NormExact.calls _ _ _ _ _ _ ?_
  unfold coadjutorlaw13_NormExact.vc
  refine step_call (awake_spec W) ?_
  rintro v w1 ⟨rfl, hc1⟩
  refine ⟨_, rfl, iteF rfl ⟨fun _ => ⟨rfl, hc1⟩, fun hx64 => ⟨fun _ => ⟨rfl, hc1⟩, fun hg64 => ?_⟩⟩⟩
  have hg64 : gs.length ≤ 64 := by simp at hg64; omega
  have hx64 : xs.length ≤ 64 := by simp at hx64; omega
  refine ⟨⟨rfl, by omega, by omega⟩, fun w2 e2 => ?_⟩
  have hz := zeros_own e2 (by omega)
  have hc2 : Ch Non W w2 := hc1.andN (Ch.alloc e2)
  refine step_call (Root_spec (hx.keepN hc2) (by omega)) ?_
  rintro v w3 ⟨rfl, hc3⟩
  have hz := hz.keepN hc3
  have hc3 := hc2.andN hc3
  refine ⟨_, rfl, ?_⟩
  refine step_call (rRoot_spec (hx.keepN hc3) (by omega)) ?_
  rintro v w4 ⟨rfl, rfl⟩
  refine ⟨_, rfl, iteT (by simp) ?_⟩
  refine step_call (Of_spec (hg.keepN hc3) (hx.keepN hc3) (by omega)) ?_
  rintro v w5 ⟨o5, c5, rfl, h5, hc5⟩
  have hz := hz.keepN hc5
  have hc5 := hc3.andN hc5
  refine ⟨_, _, _, rfl, ?_⟩
  refine step_call (rOf_spec (hg.keepN hc5) (hx.keepN hc5) (by omega)) ?_
  rintro v w6 ⟨o6, c6, rfl, h6, hc6⟩
  have hz := hz.keepN hc6
  have h5 := h5.keepN hc6
  have hc6 := hc5.andN hc6
  refine ⟨_, _, _, rfl, ?_⟩
  have hpl : (ofL gs xs).length ≤ 1000 := by unfold ofL; split <;> simp; omega
  refine step_call (ints_spec h5.rd h6.rd (by omega)) ?_
  rintro v w7 ⟨rfl, hc7⟩
  have hz := hz.keepN hc7
  have hc7 := hc6.andN hc7
  refine ⟨_, rfl, iteT (by simp) ?_⟩
  refine step_call (Plain_spec (hx.keepN hc7) (by omega)) ?_
  rintro v w8 ⟨o8, c8, rfl, h8, hc8⟩
  have hz := hz.keepN hc8
  have hc8 := hc7.andN hc8
  refine ⟨_, _, _, rfl, ?_⟩
  have hr := rOf_spec (cg := xs.length) (gs := List.replicate xs.length 0) hz.rd (hx.keepN hc8) (by omega) (cx := c2)
  rw [List.length_replicate] at hr
  refine step_call hr ?_
  rintro v w9 ⟨o9, c9, rfl, h9, hc9⟩
  have h8 := h8.keepN hc9
  have hc9 := hc8.andN hc9
  refine ⟨_, _, _, rfl, ?_⟩
  have hpl : (ofL (List.replicate xs.length 0) xs).length ≤ 1000 := by unfold ofL; split <;> simp; omega
  refine step_call (ints_spec h8.rd h9.rd (by omega)) ?_
  rintro v w10 ⟨rfl, hc10⟩
  exact ⟨_, rfl, by simp, hc9.andN hc10⟩
/-- A number of a plain norm: how great it is at most. -/
theorem ofE0_sq {r x : Int} (hr : 1 ≤ r) : r * r * (ofE r 0 x * ofE r 0 x) ≤ 4096 * (sat x * sat x) := by
  have e : ofE r 0 x = sat (Int.tdiv (sat x * 64) r) := by unfold ofE; rfl
  have hs := sat_le x
  have h1 : (Int.tdiv (sat x * 64) r).natAbs * r.natAbs ≤ (sat x * 64).natAbs := by rw [Int.natAbs_tdiv]; exact Nat.div_mul_le_self _ _
  have h2 : (ofE r 0 x).natAbs ≤ (Int.tdiv (sat x * 64) r).natAbs := by rw [e]; unfold sat clamp; repeat' (first | omega | split)
  have h3 : (ofE r 0 x).natAbs * r.natAbs ≤ (sat x * 64).natAbs := Nat.le_trans (Nat.mul_le_mul_right _ h2) h1
  have h4 := Nat.mul_le_mul h3 h3
  have h5 : ((((ofE r 0 x).natAbs * r.natAbs) * ((ofE r 0 x).natAbs * r.natAbs) : Nat) : Int) = r * r * (ofE r 0 x * ofE r 0 x) := by
    have a1 : (((ofE r 0 x).natAbs * (ofE r 0 x).natAbs : Nat) : Int) = ofE r 0 x * ofE r 0 x := by rw [Int.natCast_mul]; exact Int.natAbs_mul_self' _
    have a2 : ((r.natAbs * r.natAbs : Nat) : Int) = r * r := by rw [Int.natCast_mul]; exact Int.natAbs_mul_self' _
    rw [← a1, ← a2, ← Int.natCast_mul]
    congr 1
    rw [Nat.mul_mul_mul_comm, Nat.mul_comm]
  have h6 : (((sat x * 64).natAbs * (sat x * 64).natAbs : Nat) : Int) = 4096 * (sat x * sat x) := by
    rw [Int.natCast_mul, Int.natAbs_mul_self']
    generalize sat x = s
    have : s * 64 * (s * 64) = (s * s) * (64 * 64) := by rw [Int.mul_assoc, Int.mul_left_comm 64 s 64, ← Int.mul_assoc]
    rw [this]; omega
  omega
theorem sum_le {α : Type} (f g : α → Int) (l : List α) (h : ∀ x ∈ l, f x ≤ g x) : (l.map f).sum ≤ (l.map g).sum := by
  induction l with
  | nil => simp
  | cons x r ih => simp only [List.map_cons, List.sum_cons]; have := h x (by simp); have := ih (fun y hy => h y (by simp [hy])); omega
theorem sum_mul {α : Type} (f : α → Int) (k : Int) (l : List α) : (l.map fun x => k * f x).sum = k * (l.map f).sum := by
  induction l with
  | nil => simp
  | cons x r ih => simp only [List.map_cons, List.sum_cons]; rw [ih, Int.mul_add]
theorem one_le_sum {f : Int → Int} {l : List Int} (h0 : ∀ x ∈ l, 0 ≤ f x) {x : Int} (hx : x ∈ l) : f x ≤ (l.map f).sum := by
  induction l with
  | nil => simp at hx
  | cons y r ih =>
    simp only [List.map_cons, List.sum_cons]
    have hy := h0 y (by simp)
    have hr : 0 ≤ (r.map f).sum := by
      have := sum_le (fun _ => 0) f r (fun z hz => h0 z (by simp [hz]))
      have z : (r.map fun _ => (0 : Int)).sum = 0 := by
        clear ih h0 hx hy this
        induction r with
        | nil => rfl
        | cons a b ih => simp only [List.map_cons, List.sum_cons, ih]; rfl
      omega
    rcases List.mem_cons.1 hx with rfl | hx
    · omega
    · have := ih (fun z hz => h0 z (by simp [hz])) hx; omega
/-- A row's size against its root. -/
theorem sqs_root {xs : List Int} (hl : xs.length ≤ 1000000) (h0 : 0 < xs.length) : (sqs xs).sum < xs.length * (rootL xs * rootL xs) := by
  obtain ⟨s1, s2, s3⟩ := sqs_sum hl
  have h1 := Int.ediv_nonneg s2 (show 0 ≤ (xs.length : Int) by omega)
  obtain ⟨r0, r1, r2⟩ := root_spec h1
  have h2 : (sqs xs).sum < (xs.length : Int) * ((sqs xs).sum / xs.length + 1) := by
    have := Int.mul_ediv_add_emod (sqs xs).sum xs.length
    have := Int.emod_lt_of_pos (sqs xs).sum (show 0 < (xs.length : Int) by omega)
    rw [Int.mul_add]; omega
  have h3 := Int.mul_le_mul_of_nonneg_left (show (sqs xs).sum / xs.length + 1 ≤ rootL xs * rootL xs by unfold rootL; omega) (show 0 ≤ (xs.length : Int) by omega)
  omega
theorem ofL_zero (xs : List Int) : ofL (List.replicate xs.length 0) xs = xs.map (ofE (rootL xs) 0) := by
  unfold ofL
  rw [if_pos (by simp)]
  generalize rootL xs = r
  induction xs with
  | nil => rfl
  | cons x t ih => simp only [List.length_cons, List.replicate_succ, List.zipWith_cons_cons, List.map_cons, ih]
theorem sq_nn (x : Int) : 0 ≤ x * x := by
  rcases Int.le_total 0 x with h | h
  · exact Int.mul_nonneg h h
  · exact Int.mul_nonneg_of_nonpos_of_nonpos h h
theorem plain_sum {xs : List Int} (hl : xs.length ≤ 64) : ((xs.map (ofE (rootL xs) 0)).map fun p => p * p).sum ≤ 4096 * xs.length := by
  by_cases h0 : xs.length = 0
  · have : xs = [] := List.length_eq_zero_iff.1 h0
    subst this; decide
  have hr := rootL_le (xs := xs) (by omega)
  have hs := sqs_root (xs := xs) (by omega) (by omega)
  have h1 := sum_le (fun x => rootL xs * rootL xs * (ofE (rootL xs) 0 x * ofE (rootL xs) 0 x)) (fun x => 4096 * (sat x * sat x)) xs (fun x _ => ofE0_sq hr.1)
  rw [sum_mul, sum_mul] at h1
  have e : (sqs xs).sum = (xs.map fun x => sat x * sat x).sum := rfl
  rw [← e] at h1
  rw [List.map_map]
  show (xs.map fun x => ofE (rootL xs) 0 x * ofE (rootL xs) 0 x).sum ≤ _
  generalize (xs.map fun x => ofE (rootL xs) 0 x * ofE (rootL xs) 0 x).sum = P at h1
  have hrr : 0 < rootL xs * rootL xs := Int.mul_pos (by omega) (by omega)
  generalize rootL xs * rootL xs = q at h1 hs hrr
  apply Int.le_of_not_gt; intro hh
  have h2 := Int.mul_le_mul_of_nonneg_left (show 4096 * (xs.length : Int) ≤ P by omega) (Int.le_of_lt hrr)
  have h3 : q * (4096 * (xs.length : Int)) = 4096 * (xs.length * q) := by rw [Int.mul_left_comm, Int.mul_comm q]
  omega
theorem plain_le {xs : List Int} (hl : xs.length ≤ 64) : ∀ p ∈ xs.map (ofE (rootL xs) 0), -512 ≤ p ∧ p ≤ 512 := by
  intro p hp
  have h1 := one_le_sum (f := fun p => p * p) (fun x _ => sq_nn x) hp
  have h2 := plain_sum hl
  have h3 : p * p ≤ 262144 := by
    have : p * p ≤ 4096 * xs.length := Int.le_trans h1 h2
    omega
  constructor
  · apply Int.le_of_not_gt; intro hh
    have := Int.mul_le_mul (show 513 ≤ -p by omega) (show 513 ≤ -p by omega) (by omega) (by omega)
    rw [Int.neg_mul_neg] at this; omega
  · apply Int.le_of_not_gt; intro hh
    have := Int.mul_le_mul (show 513 ≤ p by omega) (show 513 ≤ p by omega) (by omega) (by omega)
    omega
theorem NormSize_true (W : World) (o2 : Option Addr) (n2 c2 : Nat) (h2 : DatC Try.prog W t_S_int [.slice o2 n2 c2]) :
    Calls Try.prog i_coadjutorlaw13_NormSize #[.slice o2 n2 c2] W (Ret fun v w' => v = .bool true ∧ Ch Non W w') := by
  obtain ⟨o2', c2', xs, hcs, hm1, hm2, hm3, ix, hx⟩ := h2.ints (e := t_int) (by kernel_rfl) (by kernel_rfl)
  injection hcs with hcs
  injection hcs with e1 e2 e3
  subst e1; subst e2; subst e3
  refine coadjutorlaw13_NormSize.calls _ _ _ ?_
  unfold coadjutorlaw13_NormSize.vc
  refine step_call (awake_spec W) ?_
  rintro v w1 ⟨rfl, hc1⟩
  refine ⟨_, rfl, iteF rfl ⟨fun _ => ⟨rfl, hc1⟩, fun hx64 => ?_⟩⟩
  have hx64 : xs.length ≤ 64 := by simp at hx64; omega
  refine step_call (Plain_spec (hx.keepN hc1) (by omega)) ?_
  rintro v w2 ⟨o, c, rfl, ho, hc2⟩
  rw [ofL_zero] at ho ⊢
  have hps := plain_sum hx64
  have hpl := plain_le hx64
  have hlen : (xs.map (ofE (rootL xs) 0)).length = xs.length := by simp
  generalize xs.map (ofE (rootL xs) 0) = ps at *
  have hW2 := hc1.andN hc2
  refine ⟨_, _, _, rfl, fun s i k w' => ∃ j : Nat, i = j ∧ j ≤ ps.length ∧ k = ps.length - j ∧ s = ((ps.take j).map fun p => p * p).sum ∧ 0 ≤ s ∧ s ≤ 262144 * j ∧ Ch Non w2 w', ⟨_, 0, rfl, Nat.zero_le _, rfl, rfl, by omega, by omega, Ch.refl _ _⟩, ?_⟩
  rintro jk s i k w3 ⟨j, rfl, hj, rfl, hs, hs0, hs1, hc3⟩
  refine ⟨fun hlt => ?_, fun hge => ?_⟩
  · have hlt : j < ps.length := by simpa using hlt
    have hp := hpl ps[j] (List.getElem_mem _)
    have rd : ∀ {w : World}, Ch Non w2 w → ∀ {K : Addr → Prop}, (∀ p : Addr, w.cell? (p.add ((j : Int).toNat * 1)) = some (.int .i64 ps[j]) → K p) → someV o K := fun hc _ hk =>
      (ho.keepN hc).rd.at (j := (j : Int).toNat * 1) (v := .int .i64 ps[j]) (by simp [hlt]) hk
    refine ⟨⟨by omega, by omega⟩, rd hc3 fun p hcell => ⟨_, hcell, iteF (by simp; omega) ⟨⟨by omega, by omega⟩, rd hc3 fun p hcell => ⟨_, hcell, iteF (by simp; omega) ⟨fun w => Ch Non w2 w, fun w4 e4 => ?_⟩⟩⟩⟩⟩
    have hc4 := hc3.andN (Ch.drew (F := Non) e4)
    have rk : ∀ {K : Addr → Prop}, (∀ p : Addr, (∀ w, Ch Non w2 w → w.cell? (p.add ((j : Int).toNat * 1)) = some (.int .i64 ps[j])) → K p) → someV o K := fun hk =>
      Rd.keeps (j := j) (S := fun w => Ch Non w2 w) (enc := .int .i64) (fun w h => (ho.keepN h).rd) hc4 hlt (fun p hp => hk p (by simpa using hp))
    refine ⟨hc4, ⟨by omega, by omega⟩, rk fun p hcell => ⟨_, hcell, ⟨by omega, by omega⟩, rk fun p2 hcell2 => ⟨_, hcell2, ps.length - (j + 1), by omega, j + 1, by rw [wrap_id (by omega) (by omega)]; rfl, hlt, rfl, ?_⟩⟩⟩
    have hq : 0 ≤ ps[j] * ps[j] ∧ ps[j] * ps[j] ≤ 262144 := ⟨sq_nn _, (mul_le_of (m := 512) (n := 512) (by omega) hp hp).2⟩
    rw [wrap_id (x := ps[j] * ps[j]) (by omega) (by omega), wrap_id (by omega) (by omega)]
    refine ⟨?_, by omega, by omega, hc4⟩
    rw [take_snoc ps j hlt, List.map_append, List.sum_append, hs]
    simp only [List.map_cons, List.map_nil, List.sum_cons, List.sum_nil, Int.add_zero]
  · have : j = ps.length := by simp at hge; omega
    subst this
    rw [List.take_length] at hs
    refine iteT (by rw [hlen]; simp) ⟨?_, hW2.andN hc3⟩
    rw [wrap_id (by omega) (by omega), hs]
    simpa using hps
end Go.Proofs.Ytddgcdlljkooiaa.Norm
