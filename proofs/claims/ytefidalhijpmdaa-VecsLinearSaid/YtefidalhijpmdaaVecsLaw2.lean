/- VecsExact's and VecsLinear's contracts: of every table, rows and numbers the Go functions answer true and leave what was there; the conditions stand in each theorem. -/
import Derived.Test.YtefidalhijpmdaaVecsLaw1
set_option linter.unusedVariables false
namespace Go.Proofs.Ytefidalhijpmdaa.Vecs
open Go Go.Proofs Go.Proofs.Ytefidalhijpmdaa.V Go.Proofs.Ytefidalhijpmdaa.Vc Go.Proofs.Ytefidalhijpmdaa.Num Go.RowKit

theorem timesT_len (ds : List Int) (r c : Int) (vs : List Int) (s : Int) (h : ds.length ≤ 1000000) : (timesT ds r c vs s).length ≤ 1000000000 := by
  unfold timesT
  split
  · rename_i hok
    have hg : goodB r c ds.length = true := by unfold timesOk at hok; rw [Bool.and_eq_true] at hok; exact hok.1
    obtain ⟨R, C, rfl, rfl, r1, r2, c1, c2, hn⟩ := goodB_nat hg
    simp [timesL]; omega
  · simp
theorem VecsExact_true (W : World) (cs : List Value) (h0 : DatC Try.prog W t_vecs_Table cs) (o1 : Option Addr) (n1 c1 : Nat) (h1 : DatC Try.prog W t_S_S_int [.slice o1 n1 c1]) (n : Int) (_ : (Lit.int .i64 n).wf = true) (shift : Int) (_ : (Lit.int .i64 shift).wf = true) :
    Calls Try.prog i_coadjutorlaw11_VecsExact #[.agg cs.toArray, .slice o1 n1 c1, .int .i64 n, .int .i64 shift] W (Ret fun v w' => v = .bool true ∧ Ch Non W w') := by
  obtain ⟨r, c, o, cap, ds, rfl, hcap, h8, hd⟩ := table_dat h0
  obtain ⟨o1', c1', zs, hcs, hm1, hm2, hm3, hzs, hz⟩ := h1.intRows (e := t_S_int) (g := t_int) (k := .i64) (by kernel_rfl) (by kernel_rfl) (by kernel_rfl)
  injection hcs with hcs
  injection hcs with q1 q2 q3
  subst q1; subst q2; subst q3
  have hz : Rd W o1 (zs.map encR) (fun _ => True) := hz
  clear h0 h1
  refine coadjutorlaw11_VecsExact.calls _ _ _ _ _ _ _ _ _ _ ?_
  unfold coadjutorlaw11_VecsExact.vc
  intro w1 e1
  have hB := Blk.new e1
  have hC : Ch Non W w1 := Ch.alloc e1
  generalize W.heap.size = tb at hB ⊢
  have hB : Blk w1 tb [.int .i64 r, .int .i64 c, .slice o ds.length cap] 55 := hB
  refine step_call (awake_spec w1) ?_
  rintro v w2 ⟨rfl, hc⟩
  have hB := hB.keepN hc
  have hC := hC.andN hc
  refine ⟨_, rfl, iteF rfl ⟨_, _, _, hB.cell 2 rfl, fun _ => ⟨rfl, hC⟩, fun hl => ⟨fun _ => ⟨rfl, hC⟩, fun hl2 => ?_⟩⟩⟩
  have hl := of_decide_eq_false hl
  have hl2 := of_decide_eq_false hl2
  refine ⟨fun i k w' => Ch Non w2 w' ∧ ∃ j : Nat, i = j ∧ j ≤ zs.length ∧ k = zs.length - j ∧ (∀ z ∈ zs.take j, z.2.2.length ≤ 64), ⟨_, Ch.refl _ _, 0, rfl, Nat.zero_le _, rfl, fun z hz => by simp at hz⟩, ?_⟩
  rintro jk i k w3 ⟨hc3, j, rfl, hj, rfl, hall⟩
  have hB := hB.keepN hc3
  have hC := hC.andN hc3
  refine ⟨fun hlt => ?_, fun hge => ?_⟩
  · have hlt : j < zs.length := by simpa using hlt
    refine ⟨⟨by omega, by omega⟩, (hz.keepN hC).at (j := (j : Int).toNat * 1) (v := encR zs[j]) (by simp [hlt]) fun p hp => ⟨_, _, _, hp, fun _ => ⟨rfl, hC⟩, fun h64 => ?_⟩⟩
    have h64 := of_decide_eq_false h64
    have h64 : zs[j].2.2.length ≤ 64 := by omega
    have hall' : ∀ z ∈ zs.take (j + 1), z.2.2.length ≤ 64 := fun z hzm => by
      rw [take_snoc zs j hlt, List.mem_append] at hzm
      rcases hzm with hzm | hzm
      · exact hall z hzm
      · rw [List.mem_singleton] at hzm; subst hzm; exact h64
    have hzj := (hzs _ (List.getElem_mem hlt)).2.2.2.2
    refine ⟨fun w' => Ch Non w3 w', fun w4 e4 => ?_⟩
    have hc4 : Ch Non w3 w4 := Ch.drew e4
    refine ⟨hc4, _, _, _, _, _, ⟨fun w5 h5 => (hB.keepN h5).cell 0 rfl, fun w5 h5 => (hB.keepN h5).cell 1 rfl, fun w5 h5 => (hB.keepN h5).cell 2 rfl⟩, ⟨by omega, by omega⟩, Rd.keeps (j := j) (S := fun w' => Ch Non w3 w') (fun w2 h2 => (hz.keepN hC).keepN h2) hc4 hlt fun p1 hp1 => ⟨_, _, _, fun w' h => by rw [toNat_mul_one]; exact hp1 w' h, ?_⟩⟩
    refine step_call (Times_spec ((hd.keepN hC).keepN hc4) hcap h8 (by omega) ((hzj.keepN hC).keepN hc4) r c shift) ?_
    rintro v w7 ⟨Av, Cv, rfl, hgv⟩
    have hc7 := hc4.andN hgv.2
    refine ⟨_, _, _, _, rfl, hc7, fun w' => Ch Non w3 w', fun w8 e8 => ?_⟩
    have hc78 : Ch Non w7 w8 := Ch.drew e8
    have hc8 := hc7.andN hc78
    refine ⟨hc8, _, fun w5 h5 => (hB.keepN h5).cell 0 rfl, _, fun w5 h5 => (hB.keepN h5).cell 1 rfl, _, _, _, fun w5 h5 => (hB.keepN h5).cell 2 rfl, ⟨by omega, by omega⟩, Rd.keeps (j := j) (S := fun w' => Ch Non w3 w') (fun w2 h2 => (hz.keepN hC).keepN h2) hc8 hlt fun p2 hp2 => ⟨_, _, _, fun w' h => by rw [toNat_mul_one]; exact hp2 w' h, ?_⟩⟩
    refine step_call (rTimes_spec ((hd.keepN hC).keepN hc8) h8 (by omega) ((hzj.keepN hC).keepN hc8) r c shift) ?_
    rintro v w13 ⟨Aw, Cw, rfl, hgw⟩
    have hc13 := hc8.andN hgw.2
    have hgv := (hgv.keepN hc78).keepN hgw.2
    refine ⟨_, _, _, _, rfl, hc13, fun w' => Ch Non w3 w', fun w14 e14 => ?_⟩
    have hc14 : Ch Non w13 w14 := Ch.drew e14
    refine ⟨hc13.andN hc14, ?_⟩
    cases timesOk ds r c zs[j].2.2
    · refine iteF rfl (iteT rfl (iteF rfl ?_))
      refine step_call (ints_spec (xs := timesT ds r c zs[j].2.2 shift) (ys := timesT ds r c zs[j].2.2 shift) (hgv.keepN hc14).rd (hgw.keepN hc14).rd (timesT_len _ _ _ _ _ (by omega))) ?_
      rintro v w15 ⟨rfl, hc15⟩
      have hc15 := hc14.andN hc15
      refine ⟨_, rfl, hc13.andN hc15, iteF (by simp) ⟨⟨by omega, by omega⟩, Rd.keeps (j := j) (S := fun w' => Ch Non w3 w') (fun w2 h2 => (hz.keepN hC).keepN h2) hc13 hlt fun p3 hp3 => ⟨_, _, _, fun w' h => by rw [toNat_mul_one]; exact hp3 w' h, ⟨by omega, by omega⟩, Rd.keeps (j := j) (S := fun w' => Ch Non w3 w') (fun w2 h2 => (hz.keepN hC).keepN h2) hc13 hlt fun p4 hp4 => ⟨_, _, _, fun w' h => by rw [toNat_mul_one]; exact hp4 w' h, ?_⟩⟩⟩⟩
      have hq15 := hc13.andN hc15
      refine step_call (Scale_spec ((hzj.keepN hC).keepN hq15) (by omega) n shift) ?_
      rintro v w18 ⟨A18, C18, rfl, hg18⟩
      refine ⟨_, _, _, rfl, hq15.andN hg18.2, ?_⟩
      refine step_call (rScale_spec ((hzj.keepN hC).keepN (hq15.andN hg18.2)) (by omega) n shift) ?_
      rintro v w19 ⟨A19, C19, rfl, hg19⟩
      refine ⟨_, _, _, rfl, (hq15.andN hg18.2).andN hg19.2, ?_⟩
      refine step_call (ints_spec (xs := zs[j].2.2.map fun x => mul x n shift) (ys := zs[j].2.2.map fun x => mul x n shift) (hg18.keepN hg19.2).rd hg19.rd (by simp; omega)) ?_
      rintro v w20 ⟨rfl, hc20⟩
      have hq20 := ((hq15.andN hg18.2).andN hg19.2).andN hc20
      exact ⟨_, rfl, hq20, iteF (by simp) ⟨zs.length - (j + 1), by omega, hc3.andN hq20, j + 1, by rw [wrap_id (by omega) (by omega)]; rfl, hlt, rfl, hall'⟩⟩
    · refine iteF rfl (iteF rfl ?_)
      refine step_call (ints_spec (xs := timesT ds r c zs[j].2.2 shift) (ys := timesT ds r c zs[j].2.2 shift) (hgv.keepN hc14).rd (hgw.keepN hc14).rd (timesT_len _ _ _ _ _ (by omega))) ?_
      rintro v w15 ⟨rfl, hc15⟩
      have hc15 := hc14.andN hc15
      refine ⟨_, rfl, hc13.andN hc15, iteF (by simp) ⟨⟨by omega, by omega⟩, Rd.keeps (j := j) (S := fun w' => Ch Non w3 w') (fun w2 h2 => (hz.keepN hC).keepN h2) hc13 hlt fun p3 hp3 => ⟨_, _, _, fun w' h => by rw [toNat_mul_one]; exact hp3 w' h, ⟨by omega, by omega⟩, Rd.keeps (j := j) (S := fun w' => Ch Non w3 w') (fun w2 h2 => (hz.keepN hC).keepN h2) hc13 hlt fun p4 hp4 => ⟨_, _, _, fun w' h => by rw [toNat_mul_one]; exact hp4 w' h, ?_⟩⟩⟩⟩
      have hq15 := hc13.andN hc15
      refine step_call (Scale_spec ((hzj.keepN hC).keepN hq15) (by omega) n shift) ?_
      rintro v w18 ⟨A18, C18, rfl, hg18⟩
      refine ⟨_, _, _, rfl, hq15.andN hg18.2, ?_⟩
      refine step_call (rScale_spec ((hzj.keepN hC).keepN (hq15.andN hg18.2)) (by omega) n shift) ?_
      rintro v w19 ⟨A19, C19, rfl, hg19⟩
      refine ⟨_, _, _, rfl, (hq15.andN hg18.2).andN hg19.2, ?_⟩
      refine step_call (ints_spec (xs := zs[j].2.2.map fun x => mul x n shift) (ys := zs[j].2.2.map fun x => mul x n shift) (hg18.keepN hg19.2).rd hg19.rd (by simp; omega)) ?_
      rintro v w20 ⟨rfl, hc20⟩
      have hq20 := ((hq15.andN hg18.2).andN hg19.2).andN hc20
      exact ⟨_, rfl, hq20, iteF (by simp) ⟨zs.length - (j + 1), by omega, hc3.andN hq20, j + 1, by rw [wrap_id (by omega) (by omega)]; rfl, hlt, rfl, hall'⟩⟩
  have hjl : j = zs.length := by simp at hge; omega
  subst hjl
  rw [List.take_length] at hall
  have hzz : ∀ z ∈ zs, Rd W z.1 (z.2.2.map (.int .i64)) (fun _ => True) ∧ z.2.2.length ≤ 1000000 := fun z hzm => ⟨(hzs z hzm).2.2.2.2, by have := hall z hzm; omega⟩
  refine step_call (Plus_spec (hz.keepN hC) (fun z hzm => ⟨(hzz z hzm).1.keepN hC, (hzz z hzm).2⟩) (by omega) c1) ?_
  rintro v w27 ⟨Av, Cv, rfl, hgv⟩
  have hC := hC.andN hgv.2
  refine ⟨_, _, _, _, rfl, ?_⟩
  refine step_call (rPlus_spec (hz.keepN hC) (fun z hzm => ⟨(hzz z hzm).1.keepN hC, (hzz z hzm).2⟩) (by omega) c1) ?_
  rintro v w28 ⟨Aw, Cw, rfl, hgw⟩
  have hC := hC.andN hgw.2
  have hgv := hgv.keepN hgw.2
  have hlen : (plusT zs).length ≤ 1000000000 := by
    unfold plusT
    split
    · simp [plusL]
      by_cases hp : 0 < zs.length
      · rw [wid_pos hp]; have := (hzz _ (List.getElem_mem hp)).2; omega
      · unfold wid; rw [List.getElem?_eq_none (by omega)]; simp
    · simp
  have hfin : Calls Try.prog i_coadjutorlaw11_ints #[.slice Av (plusT zs).length Cv, .slice Aw (plusT zs).length Cw] w28 (Ret fun v w' => ∃ x : Bool, v = .bool x ∧ Value.bool x = .bool true ∧ Ch Non W w') := by
    refine step_call (ints_spec (xs := plusT zs) (ys := plusT zs) hgv.rd hgw.rd hlen) ?_
    rintro v w29 ⟨rfl, hc29⟩
    exact ⟨_, rfl, by simp, hC.andN hc29⟩
  refine ⟨_, _, _, _, rfl, ?_⟩
  cases sameL zs
  · exact iteT rfl (iteF rfl (iteT rfl hfin))
  · exact iteT rfl (iteT rfl hfin)
theorem mul_bd {A B x y : Int} (h1 : -A ≤ x) (h2 : x ≤ A) (h3 : -B ≤ y) (h4 : y ≤ B) : -(A * B) ≤ x * y ∧ x * y ≤ A * B := by
  have a1 := Int.mul_nonneg (show 0 ≤ A - x by omega) (show 0 ≤ B + y by omega)
  have a2 := Int.mul_nonneg (show 0 ≤ A + x by omega) (show 0 ≤ B - y by omega)
  have a3 := Int.mul_nonneg (show 0 ≤ A - x by omega) (show 0 ≤ B - y by omega)
  have a4 := Int.mul_nonneg (show 0 ≤ A + x by omega) (show 0 ≤ B + y by omega)
  simp only [Int.sub_mul, Int.add_mul, Int.mul_sub, Int.mul_add] at a1 a2 a3 a4
  omega
theorem sum_add : ∀ (row a b : List Int), a.length = b.length → (List.zipWith (· * ·) row (List.zipWith (· + ·) a b)).sum = (List.zipWith (· * ·) row a).sum + (List.zipWith (· * ·) row b).sum
  | [], _, _, _ => by simp
  | x :: r, [], [], _ => by simp
  | x :: r, y :: a, z :: b, h => by
    have ih := sum_add r a b (by simpa using h)
    simp only [List.zipWith_cons_cons, List.sum_cons, ih, Int.mul_add]
    omega
  | x :: r, [], _ :: _, h => by simp at h
  | x :: r, _ :: _, [], h => by simp at h
theorem dot_small {row v : List Int} {B : Int} (hrow : ∀ x ∈ row, -128 ≤ x ∧ x ≤ 127) (hv : ∀ y ∈ v, -B ≤ y ∧ y ≤ B) (h0 : 0 ≤ B) (hB : B ≤ 14) (hl : row.length ≤ 16) :
    dotC row v = (List.zipWith (· * ·) row v).sum ∧ -(2048 * B) ≤ dotC row v ∧ dotC row v ≤ 2048 * B := by
  have e : List.zipWith product row v = List.zipWith (· * ·) row v := by
    apply List.ext_getElem
    · simp
    · intro i h1 h2
      rw [List.length_zipWith] at h1
      have a := hrow _ (List.getElem_mem (show i < row.length by omega))
      have b := hv _ (List.getElem_mem (show i < v.length by omega))
      rw [List.getElem_zipWith, List.getElem_zipWith]
      unfold product
      rw [clamp_id (by omega) (by omega), clamp_id (by omega) (by omega)]
  have hb : ∀ p ∈ List.zipWith (· * ·) row v, -(128 * B) ≤ p ∧ p ≤ 128 * B := by
    intro p hp
    obtain ⟨i, hi, rfl⟩ := List.getElem_of_mem hp
    have hi2 := hi
    rw [List.length_zipWith] at hi2
    have a := hrow _ (List.getElem_mem (show i < row.length by omega))
    have b := hv _ (List.getElem_mem (show i < v.length by omega))
    rw [List.getElem_zipWith]
    exact mul_bd (by omega) (by omega) b.1 b.2
  have hlen : (List.zipWith (· * ·) row v).length ≤ 16 := by simp; omega
  have hmul : 128 * B * ((List.zipWith (· * ·) row v).length : Int) ≤ 2048 * B := by
    have := Int.mul_le_mul_of_nonneg_left (show ((List.zipWith (· * ·) row v).length : Int) ≤ 16 by omega) (show 0 ≤ 128 * B by omega)
    omega
  rw [← sumC_dot, e]
  obtain ⟨s1, s2, s3⟩ := sumC_sum (b := 128 * B) (by omega) _ hb (by omega) (by omega)
  rw [s1]
  exact ⟨rfl, by omega, by omega⟩
theorem sum_two (x y : Int) : sumC [x, y] = clamp (clamp (0 + clamp x (-2305843009213693952) 2305843009213693952) (-4611686018427387904) 4611686018427387904 + clamp y (-2305843009213693952) 2305843009213693952) (-4611686018427387904) 4611686018427387904 := rfl
theorem plus_two {xs ys : List Int} (o1 o2 : Option Addr) (k1 k2 : Nat) (h : xs.length = ys.length) (hx : ∀ x ∈ xs, -16383 ≤ x ∧ x ≤ 16383) (hy : ∀ x ∈ ys, -16383 ≤ x ∧ x ≤ 16383) :
    sameL [(o1, k1, xs), (o2, k2, ys)] = true ∧ plusT [(o1, k1, xs), (o2, k2, ys)] = List.zipWith (· + ·) xs ys := by
  have hs : sameL [(o1, k1, xs), (o2, k2, ys)] = true := by
    apply same_yes
    intro z hz
    rcases List.mem_cons.1 hz with rfl | hz
    · rfl
    · rw [List.mem_singleton] at hz; subst hz; exact h.symm
  refine ⟨hs, ?_⟩
  unfold plusT
  rw [hs, if_pos rfl]
  unfold plusL
  have hw : wid [(o1, k1, xs), (o2, k2, ys)] = xs.length := rfl
  rw [hw]
  apply List.ext_getElem
  · simp; omega
  · intro i h1 h2
    have h1 : i < xs.length := by simpa using h1
    have h3 : i < ys.length := by omega
    have a := hx _ (List.getElem_mem h1)
    have b := hy _ (List.getElem_mem h3)
    have hc : colL [(o1, k1, xs), (o2, k2, ys)] i = [xs[i], ys[i]] := by simp [colL, List.getD_eq_getElem?_getD, List.getElem?_eq_getElem h1, List.getElem?_eq_getElem h3]
    rw [List.getElem_map, List.getElem_range, hc, List.getElem_zipWith, sum_two, clamp_id (x := xs[i]) (by omega) (by omega), clamp_id (x := ys[i]) (by omega) (by omega), clamp_id (x := 0 + xs[i]) (by omega) (by omega), clamp_id (by omega) (by omega), sat_id (by omega) (by omega)]
    omega
/-- What a table times a row is, where nothing is cut off. -/
def lin (ds : List Int) (C : Nat) (vs : List Int) (i : Nat) : Int := (List.zipWith (· * ·) (rowAt ds C i) vs).sum
theorem times_small {ds vs : List Int} {R C : Nat} {B : Int} (hg : goodB R C ds.length = true) (h8 : ∀ x ∈ ds, -128 ≤ x ∧ x ≤ 127) (hC : C ≤ 16) (hl : vs.length = C) (hv : ∀ y ∈ vs, -B ≤ y ∧ y ≤ B) (h0 : 0 ≤ B) (hB : B ≤ 14) :
    timesOk ds R C vs = true ∧ timesT ds R C vs 0 = (List.range R).map (lin ds C vs) ∧ ∀ i, i < R → -(2048 * B) ≤ lin ds C vs i ∧ lin ds C vs i ≤ 2048 * B := by
  have hok : timesOk ds R C vs = true := by unfold timesOk; rw [hg, decide_eq_true (by omega)]; rfl
  have hb : ∀ i, lin ds C vs i = dotC (rowAt ds C i) vs ∧ -(2048 * B) ≤ lin ds C vs i ∧ lin ds C vs i ≤ 2048 * B := fun i => by
    have := dot_small (row := rowAt ds C i) (v := vs) (fun x hx => h8 x (List.mem_of_mem_drop (List.mem_of_mem_take hx))) hv h0 hB (by unfold rowAt; simp; omega)
    unfold lin
    rw [← this.1]; exact ⟨rfl, this.2⟩
  refine ⟨hok, ?_, fun i _ => (hb i).2⟩
  unfold timesT
  rw [hok, if_pos rfl, Int.toNat_natCast, Int.toNat_natCast]
  unfold timesL
  apply List.map_congr_left
  intro i _
  have := hb i
  rw [← this.1]
  have hs : shift (lin ds C vs i) 0 = lin ds C vs i := by unfold shift; rw [if_pos (Int.le_refl _)]
  rw [hs, sat_id (by omega) (by omega)]
theorem lin_add {ds xs ys : List Int} {R C : Nat} (h : xs.length = ys.length) : List.zipWith (· + ·) ((List.range R).map (lin ds C xs)) ((List.range R).map (lin ds C ys)) = (List.range R).map (lin ds C (List.zipWith (· + ·) xs ys)) := by
  apply List.ext_getElem
  · simp
  · intro i h1 h2
    simp only [List.getElem_zipWith, List.getElem_map, List.getElem_range]
    exact (sum_add _ _ _ h).symm
theorem VecsLinear_true (W : World) (cs : List Value) (h0 : DatC Try.prog W t_vecs_Table cs) (o1 : Option Addr) (n1 c1 : Nat) (h1 : DatC Try.prog W t_S_int [.slice o1 n1 c1]) (o2 : Option Addr) (n2 c2 : Nat) (h2 : DatC Try.prog W t_S_int [.slice o2 n2 c2]) :
    Calls Try.prog i_coadjutorlaw11_VecsLinear #[.agg cs.toArray, .slice o1 n1 c1, .slice o2 n2 c2] W (Ret fun v w' => v = .bool true ∧ Ch Non W w') := by
  obtain ⟨r, c, o, cap, ds, rfl, hcap, h8, hd⟩ := table_dat h0
  obtain ⟨o1', c1', av, hcs1, _, _, _, _, ha⟩ := h1.ints (e := t_int) (k := .i64) (by kernel_rfl) (by kernel_rfl)
  obtain ⟨o2', c2', bv, hcs2, _, _, _, _, hb⟩ := h2.ints (e := t_int) (k := .i64) (by kernel_rfl) (by kernel_rfl)
  injection hcs1 with hcs1
  injection hcs1 with q1 q2 q3
  subst q1; subst q2; subst q3
  injection hcs2 with hcs2
  injection hcs2 with q1 q2 q3
  subst q1; subst q2; subst q3
  clear h0 h1 h2
  refine coadjutorlaw11_VecsLinear.calls _ _ _ _ _ _ _ _ _ _ _ ?_
  unfold coadjutorlaw11_VecsLinear.vc
  intro w1 e1
  have hB := Blk.new e1
  have hC : Ch Non W w1 := Ch.alloc e1
  generalize W.heap.size = tb at hB ⊢
  have hB : Blk w1 tb [.int .i64 r, .int .i64 c, .slice o ds.length cap] 55 := hB
  refine step_call (awake_spec w1) ?_
  rintro v w2 ⟨rfl, hc⟩
  have hB := hB.keepN hc
  have hC := hC.andN hc
  refine ⟨_, rfl, iteF rfl ⟨_, _, _, _, _, ⟨hB.cell 0 rfl, hB.cell 1 rfl, hB.cell 2 rfl⟩, ?_⟩⟩
  refine step_call (Good_spec w2 r c o ds.length cap) ?_
  rintro v w3 ⟨rfl, hc⟩
  have hB := hB.keepN hc
  have hC := hC.andN hc
  refine ⟨_, rfl, fun _ => ⟨rfl, hC⟩, fun hg => ⟨_, hB.cell 1 rfl, fun _ => ⟨rfl, hC⟩, fun hla => ⟨_, hB.cell 1 rfl, fun _ => ⟨rfl, hC⟩, fun hlb => ⟨_, hB.cell 1 rfl, fun _ => ⟨rfl, hC⟩, fun h16 => ?_⟩⟩⟩⟩
  have hg : goodB r c ds.length = true := by simpa using hg
  have hgb := hg
  obtain ⟨R, C, rfl, rfl, r1, r2, c1', c2', hn⟩ := goodB_nat hg
  have hla : av.length = C := by simp at hla; omega
  have hlb : bv.length = C := by simp at hlb; omega
  have h16 := of_decide_eq_false h16
  have h16 : C ≤ 16 := by omega
  have hRC : R * C ≤ 64 * 64 := Nat.mul_le_mul r2 c2'
  refine ⟨fun i k w' => w' = w3 ∧ ∃ j : Nat, i = j ∧ j ≤ C ∧ k = C - j ∧ (∀ x ∈ av.take j, -7 ≤ x ∧ x ≤ 7) ∧ ∀ x ∈ bv.take j, -7 ≤ x ∧ x ≤ 7, ⟨_, rfl, 0, rfl, Nat.zero_le _, rfl, fun z hz => by simp at hz, fun z hz => by simp at hz⟩, ?_⟩
  rintro jk i k w4 ⟨rfl, j, rfl, hj, rfl, hsa, hsb⟩
  refine ⟨_, hB.cell 1 rfl, fun hlt => ?_, fun hge => ?_⟩
  · have hlt : j < C := by have := of_decide_eq_true hlt; omega
    have hja : j < av.length := by omega
    have hjb : j < bv.length := by omega
    have rda : ∀ {K : Addr → Prop}, (∀ p : Addr, w4.cell? (p.add ((j : Int).toNat * 1)) = some (.int .i64 av[j]) → K p) → someV o1 K := fun hk => (ha.keepN hC).at (j := (j : Int).toNat * 1) (v := .int .i64 av[j]) (by simp [hja]) hk
    have rdb : ∀ {K : Addr → Prop}, (∀ p : Addr, w4.cell? (p.add ((j : Int).toNat * 1)) = some (.int .i64 bv[j]) → K p) → someV o2 K := fun hk => (hb.keepN hC).at (j := (j : Int).toNat * 1) (v := .int .i64 bv[j]) (by simp [hjb]) hk
    refine ⟨⟨by omega, by omega⟩, rda fun p hp => ⟨_, hp, fun _ => ⟨rfl, hC⟩, fun h1 => ⟨⟨by omega, by omega⟩, rda fun p hp => ⟨_, hp, fun _ => ⟨rfl, hC⟩, fun h2 => ⟨⟨by omega, by omega⟩, rdb fun p hp => ⟨_, hp, fun _ => ⟨rfl, hC⟩, fun h3 => ⟨⟨by omega, by omega⟩, rdb fun p hp => ⟨_, hp, fun _ => ⟨rfl, hC⟩, fun h4 => ?_⟩⟩⟩⟩⟩⟩⟩⟩
    have h1 := of_decide_eq_false h1
    have h2 := of_decide_eq_false h2
    have h3 := of_decide_eq_false h3
    have h4 := of_decide_eq_false h4
    refine ⟨C - (j + 1), by omega, rfl, j + 1, by rw [wrap_id (by omega) (by omega)]; rfl, hlt, rfl, fun x hx => ?_, fun x hx => ?_⟩
    · rw [take_snoc av j hja, List.mem_append] at hx
      rcases hx with hx | hx
      · exact hsa x hx
      · rw [List.mem_singleton] at hx; subst hx; omega
    · rw [take_snoc bv j hjb, List.mem_append] at hx
      rcases hx with hx | hx
      · exact hsb x hx
      · rw [List.mem_singleton] at hx; subst hx; omega
  have hjC : j = C := by have := of_decide_eq_false hge; omega
  subst hjC
  rw [List.take_of_length_le (by omega)] at hsa hsb
  intro w5 e5
  have hZ : Rd w5 (some ⟨w4.heap.size, 0, none⟩) (([(o1, c1, av), (o2, c2, bv)] : List RowD).map encR) (· = w4.heap.size) := (Blk.new e5).rd
  have hc5 : Ch Non w4 w5 := Ch.alloc e5
  have hB := hB.keepN hc5
  have hC := hC.andN hc5
  have hab : av.length = bv.length := by omega
  obtain ⟨p1, p2⟩ := plus_two o1 o2 c1 c2 hab (fun x hx => by have := hsa x hx; omega) (fun x hx => by have := hsb x hx; omega)
  have sp := Plus_spec (G := fun _ => True) hZ (fun z hz => by
    rcases List.mem_cons.1 hz with rfl | hz
    · exact ⟨ha.keepN hC, by show av.length ≤ 1000000; omega⟩
    · rw [List.mem_singleton] at hz; subst hz; exact ⟨hb.keepN hC, by show bv.length ≤ 1000000; omega⟩) (by simp) 2
  rw [p1, p2, if_pos rfl] at sp
  refine step_call sp ?_
  rintro v w6 ⟨As, Cs, rfl, hgs⟩
  have hB := hB.keepN hgs.2
  have hC := hC.andN hgs.2
  have hss : ∀ x ∈ List.zipWith (· + ·) av bv, -14 ≤ x ∧ x ≤ 14 := by
    intro x hx
    obtain ⟨i, hi, rfl⟩ := List.getElem_of_mem hx
    have hi2 := hi
    rw [List.length_zipWith] at hi2
    have a := hsa _ (List.getElem_mem (show i < av.length by omega))
    have b := hsb _ (List.getElem_mem (show i < bv.length by omega))
    rw [List.getElem_zipWith]; omega
  have hsl : (List.zipWith (· + ·) av bv).length = j := by simp; omega
  refine ⟨_, _, _, _, rfl, _, _, _, _, _, ⟨hB.cell 0 rfl, hB.cell 1 rfl, hB.cell 2 rfl⟩, ?_⟩
  obtain ⟨a1, a2, a3⟩ := times_small hgb h8 h16 hla hsa (by omega) (by omega)
  obtain ⟨b1, b2, b3⟩ := times_small hgb h8 h16 hlb hsb (by omega) (by omega)
  obtain ⟨s1, s2, s3⟩ := times_small hgb h8 h16 hsl hss (by omega) (by omega)
  have sp := Times_spec (hd.keepN hC) hcap h8 (by omega) (ha.keepN hC) (cv := c1) (R : Int) (j : Int) 0
  rw [a1, a2, if_pos rfl] at sp
  refine step_call sp ?_
  rintro v w7 ⟨Ax, Cx, rfl, hgx⟩
  have hB := hB.keepN hgx.2
  have hC := hC.andN hgx.2
  have hgs := hgs.keepN hgx.2
  refine ⟨_, _, _, _, rfl, _, _, _, _, _, ⟨hB.cell 0 rfl, hB.cell 1 rfl, hB.cell 2 rfl⟩, ?_⟩
  have sp := Times_spec (hd.keepN hC) hcap h8 (by omega) (hb.keepN hC) (cv := c2) (R : Int) (j : Int) 0
  rw [b1, b2, if_pos rfl] at sp
  refine step_call sp ?_
  rintro v w8 ⟨Ay, Cy, rfl, hgy⟩
  have hB := hB.keepN hgy.2
  have hC := hC.andN hgy.2
  have hgs := hgs.keepN hgy.2
  have hgx := hgx.keepN hgy.2
  refine ⟨_, _, _, _, rfl, _, _, _, _, _, ⟨hB.cell 0 rfl, hB.cell 1 rfl, hB.cell 2 rfl⟩, ?_⟩
  have sp := Times_spec (hd.keepN hC) hcap h8 (by omega) hgs.rd (cv := Cs) (R : Int) (j : Int) 0
  rw [s1, s2, if_pos rfl] at sp
  refine step_call sp ?_
  rintro v w9 ⟨Az, Cz, rfl, hgz⟩
  have hC := hC.andN hgz.2
  have hgx := hgx.keepN hgz.2
  have hgy := hgy.keepN hgz.2
  refine ⟨_, _, _, _, rfl, iteF rfl (iteF rfl (iteF rfl (iteF rfl fun w10 e10 => ?_)))⟩
  have hxb : ∀ x ∈ (List.range R).map (lin ds j av), -16383 ≤ x ∧ x ≤ 16383 := by
    intro x hx
    obtain ⟨i, hi, rfl⟩ := List.mem_map.1 hx
    have := a3 i (List.mem_range.1 hi); omega
  have hyb : ∀ x ∈ (List.range R).map (lin ds j bv), -16383 ≤ x ∧ x ≤ 16383 := by
    intro x hx
    obtain ⟨i, hi, rfl⟩ := List.mem_map.1 hx
    have := b3 i (List.mem_range.1 hi); omega
  have hadd := lin_add (ds := ds) (R := R) (C := j) hab
  have hadd2 : List.zipWith (· + ·) ((List.range R).map (lin ds j bv)) ((List.range R).map (lin ds j av)) = (List.range R).map (lin ds j (List.zipWith (· + ·) av bv)) := by
    rw [← hadd]
    apply List.ext_getElem
    · simp
    · intro i h1 h2
      simp only [List.getElem_zipWith]; omega
  have hxl : ((List.range R).map (lin ds j av)).length = R := by simp
  have hyl : ((List.range R).map (lin ds j bv)).length = R := by simp
  have hzl : ((List.range R).map (lin ds j (List.zipWith (· + ·) av bv))).length = R := by simp
  generalize (List.range R).map (lin ds j av) = X at hgx hxb hadd hadd2 hxl e10 ⊢
  generalize (List.range R).map (lin ds j bv) = Y at hgy hyb hadd hadd2 hyl e10 ⊢
  generalize (List.range R).map (lin ds j (List.zipWith (· + ·) av bv)) = Z at hgz hadd hadd2 hzl ⊢
  have hZ : Rd w10 (some ⟨w9.heap.size, 0, none⟩) (([(Ax, Cx, X), (Ay, Cy, Y)] : List RowD).map encR) (· = w9.heap.size) := (Blk.new e10).rd
  have hc10 : Ch Non w9 w10 := Ch.alloc e10
  have hgx := hgx.keepN hc10
  have hgy := hgy.keepN hc10
  have hgz := hgz.keepN hc10
  obtain ⟨p1, p2⟩ := plus_two Ax Ay Cx Cy (by omega) hxb hyb
  rw [hadd] at p2
  have sp := Plus_spec (G := fun _ => True) hZ (fun z hz => by
    rcases List.mem_cons.1 hz with rfl | hz
    · exact ⟨hgx.rd.mono (fun _ _ _ => trivial), by show X.length ≤ 1000000; omega⟩
    · rw [List.mem_singleton] at hz; subst hz; exact ⟨hgy.rd.mono (fun _ _ _ => trivial), by show Y.length ≤ 1000000; omega⟩) (by simp) 2
  rw [p1, p2, if_pos rfl] at sp
  refine step_call sp ?_
  rintro v w11 ⟨Aw, Cw, rfl, hgw⟩
  have hC := (hC.andN hc10).andN hgw.2
  refine ⟨_, _, _, _, rfl, fun w12 e12 => ?_⟩
  have hZ : Rd w12 (some ⟨w11.heap.size, 0, none⟩) (([(Ay, Cy, Y), (Ax, Cx, X)] : List RowD).map encR) (· = w11.heap.size) := (Blk.new e12).rd
  have hc12 : Ch Non w11 w12 := Ch.alloc e12
  have hgx := (hgx.keepN hgw.2).keepN hc12
  have hgy := (hgy.keepN hgw.2).keepN hc12
  have hgz := (hgz.keepN hgw.2).keepN hc12
  have hgw := hgw.keepN hc12
  obtain ⟨p1, p2⟩ := plus_two Ay Ax Cy Cx (by omega) hyb hxb
  rw [hadd2] at p2
  have sp := Plus_spec (G := fun _ => True) hZ (fun z hz => by
    rcases List.mem_cons.1 hz with rfl | hz
    · exact ⟨hgy.rd.mono (fun _ _ _ => trivial), by show Y.length ≤ 1000000; omega⟩
    · rw [List.mem_singleton] at hz; subst hz; exact ⟨hgx.rd.mono (fun _ _ _ => trivial), by show X.length ≤ 1000000; omega⟩) (by simp) 2
  rw [p1, p2, if_pos rfl] at sp
  refine step_call sp ?_
  rintro v w13 ⟨Au, Cu, rfl, hgu⟩
  have hC := (hC.andN hc12).andN hgu.2
  have hgw := hgw.keepN hgu.2
  have hgz := hgz.keepN hgu.2
  refine ⟨_, _, _, _, rfl, iteT rfl (iteT rfl ?_)⟩
  refine step_call (ints_spec (xs := Z) (ys := Z) hgw.rd hgz.rd (by omega)) ?_
  rintro v w14 ⟨rfl, hc14⟩
  refine ⟨_, rfl, iteT (by simp) ?_⟩
  refine step_call (ints_spec (xs := Z) (ys := Z) (hgu.keepN hc14).rd (hgz.keepN hc14).rd (by omega)) ?_
  rintro v w15 ⟨rfl, hc15⟩
  exact ⟨_, rfl, by simp, (hC.andN hc14).andN hc15⟩
end Go.Proofs.Ytefidalhijpmdaa.Vecs
