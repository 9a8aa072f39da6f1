/- TallySums's contract: of every row of tallies and every two tallies the Go function answers true and leaves what was there; the conditions stand in each theorem. -/
import Derived.Test.YtddgcdlljkooiaaTallyLaw1
import Derived.Test.YtddgcdlljkooiaaVcTallyM
set_option linter.unusedVariables false
set_option linter.unusedSimpArgs false
namespace Go.Proofs.Ytddgcdlljkooiaa.Tally
open Go Go.Proofs Go.Proofs.Ytddgcdlljkooiaa.V Go.Proofs.Ytddgcdlljkooiaa.Vc Go.RowKit

/-- The first numbers of one tally, the others of another. -/
def mixT (t s : List Int) (k : Nat) : List Int := allT fun i => if i < k then g s i else g t i
theorem mixT_len (t s : List Int) (k : Nat) : (mixT t s k).length = 32 := allT_len _
theorem mixT_zero {t s : List Int} (h : t.length = 32) : mixT t s 0 = t := by
  have : mixT t s 0 = allT (g t) := by unfold mixT; simp
  rw [this, list_g h]
theorem mixT_all {t s : List Int} (h : s.length = 32) : mixT t s 32 = s := by
  have : mixT t s 32 = allT (g s) := by
    unfold mixT allT
    refine List.map_congr_left fun i hi => ?_
    have : i < 32 := by simpa using hi
    rw [if_pos this]
  rw [this, list_g h]
theorem mixT_set (t s : List Int) (k : Nat) : (mixT t s k).set k (g s k) = mixT t s (k + 1) := by
  apply List.ext_getElem
  · rw [List.length_set, mixT_len, mixT_len]
  · intro i h1 h2
    rw [List.getElem_set]
    simp only [mixT, allT, List.getElem_map, List.getElem_range]
    by_cases h : k = i
    · subst h; rw [if_pos rfl, if_pos (by omega)]
    · rw [if_neg h]
      by_cases h3 : i < k
      · rw [if_pos h3, if_pos (by omega)]
      · rw [if_neg h3, if_neg (by omega)]
theorem mixT_g {t s : List Int} {k : Nat} (hk : k < 32) : g (mixT t s k) k = g t k := by unfold mixT; rw [g_all hk, if_neg (by omega)]
theorem counts_dat {w : World} {x : List Value} (h : DatC Try.prog w 55 x) : ∃ a b : Int, x = [iv a, iv b] := by
  obtain ⟨hl, hf⟩ := h.struct Try.underlying55
  have h2 : Try.prog.cellsOf 55 = 2 := by kernel_rfl
  rw [h2] at hl
  match x, hl with
  | [a0, a1], _ =>
    have h0 : DatC Try.prog w t_int [a0] := hf 0 _ rfl
    have h1 : DatC Try.prog w t_int [a1] := hf 1 _ rfl
    obtain ⟨n0, e0, _⟩ := h0.int (k := .i64) (by kernel_rfl)
    obtain ⟨n1, e1, _⟩ := h1.int (k := .i64) (by kernel_rfl)
    injection e0 with e0 _
    injection e1 with e1 _
    subst e0; subst e1
    exact ⟨_, _, rfl⟩
theorem tally_dat {w : World} {x : List Value} (h : DatC Try.prog w 58 x) : ∃ t : List Int, t.length = 32 ∧ x = t.map iv := by
  obtain ⟨hl, hf⟩ := h.struct Try.underlying58
  have h2 : Try.prog.cellsOf 58 = 32 := by kernel_rfl
  rw [h2] at hl
  have hk : DatC Try.prog w 56 (x.take 28) := hf 0 _ rfl
  have ha := (hk.array (n := 14) (e := 55) (by kernel_rfl)).2
  have h3 : Try.prog.cellsOf 55 = 2 := by kernel_rfl
  rw [h3] at ha
  have j1 : DatC Try.prog w t_int ((x.drop 28).take 1) := hf 1 _ rfl
  have j2 : DatC Try.prog w t_int ((x.drop 29).take 1) := hf 2 _ rfl
  have j3 : DatC Try.prog w t_int ((x.drop 30).take 1) := hf 3 _ rfl
  have j4 : DatC Try.prog w t_int ((x.drop 31).take 1) := hf 4 _ rfl
  have last : ∀ i, i < 32 → DatC Try.prog w t_int ((x.drop i).take 1) → ∃ n, x[i]? = some (iv n) := fun i hi hd => by
    obtain ⟨n, e, _⟩ := hd.int (k := .i64) (by kernel_rfl)
    refine ⟨n, ?_⟩
    have := congrArg (fun l => l[0]?) e
    simpa [List.getElem?_take, List.getElem?_drop] using this
  have all : ∀ i, i < 32 → ∃ n, x[i]? = some (iv n) := fun i hi => by
    by_cases h28 : i < 28
    · obtain ⟨a, b, e⟩ := counts_dat (ha (i / 2) (by omega))
      have h0 := congrArg (fun l => l[0]?) e
      have h1 := congrArg (fun l => l[1]?) e
      simp only [List.getElem?_take, List.getElem?_drop] at h0 h1
      by_cases hm : i % 2 = 0
      · refine ⟨a, ?_⟩
        rw [if_pos (by omega), if_pos (by omega)] at h0
        rw [show i / 2 * 2 + 0 = i by omega] at h0
        exact h0
      · refine ⟨b, ?_⟩
        rw [if_pos (by omega), if_pos (by omega)] at h1
        rw [show i / 2 * 2 + 1 = i by omega] at h1
        exact h1
    · rcases (show i = 28 ∨ i = 29 ∨ i = 30 ∨ i = 31 by omega) with rfl | rfl | rfl | rfl
      · exact last _ (by omega) j1
      · exact last _ (by omega) j2
      · exact last _ (by omega) j3
      · exact last _ (by omega) j4
  obtain ⟨ys, hyl, hy⟩ := all_choose (R := fun (v : Value) (n : Int) => v = iv n) (l := x) (fun v hv => by
    obtain ⟨i, hi⟩ := List.getElem?_of_mem hv
    obtain ⟨n, hn⟩ := all i (by have := (List.getElem?_eq_some_iff.1 hi).1; omega)
    rw [hi] at hn
    exact ⟨n, Option.some.inj hn⟩)
  exact ⟨ys, by omega, eq_map_of hyl (f := iv) hy⟩
theorem lessB_eq {a b : List Int} {bl : Bool} (h : ∀ i, i < 32 → (-1099511627776 ≤ g a i ∧ g a i ≤ 1099511627776) ∧ (-1099511627776 ≤ g b i ∧ g b i ≤ 1099511627776)) (hb : bl = true ↔ ∃ i, i < 32 ∧ g a i < g b i) : lessB a b = !bl := by
  unfold lessB
  cases bl with
  | true =>
    obtain ⟨i, hi, hlt⟩ := hb.1 rfl
    rw [Bool.not_true, List.all_eq_false]
    refine ⟨i, List.mem_range.2 hi, ?_⟩
    have := h i hi
    rw [wrap_id (by omega) (by omega)]
    simp only [decide_eq_true_eq]
    omega
  | false =>
    rw [Bool.not_false, List.all_eq_true]
    intro i hi
    have hi := List.mem_range.1 hi
    have := h i hi
    rw [wrap_id (by omega) (by omega), decide_eq_true_eq]
    have : ¬ g a i < g b i := fun hlt => by have := hb.2 ⟨i, hi, hlt⟩; cases this
    omega
set_option maxRecDepth 100000 in
set_option maxHeartbeats 4000000 in
theorem TallySums_true (W : World) (o1 : Option Addr) (n1 c1 : Nat) (h1 : DatC Try.prog W 70 [.slice o1 n1 c1]) (xs : List Value) (h2 : DatC Try.prog W 58 xs) (ys : List Value) (h3 : DatC Try.prog W 58 ys) :
    Calls Try.prog i_coadjutorlaw37_TallySums #[.slice o1 n1 c1, .agg xs.toArray, .agg ys.toArray] W (Ret fun v w' => v = .bool true ∧ Ch Non W w') := by
  obtain ⟨o1', c1', l, hcs1, hlc, hm1, _, hQ, hr⟩ := h1.sliceOf (e := 58) (enc := tE) (Q := fun t => t.length = 32) (by kernel_rfl) (fun x hl hd => by obtain ⟨t, ht, rfl⟩ := tally_dat hd; exact ⟨t, (tE_eq ht).symm, ht⟩)
  injection hcs1 with hcs1
  injection hcs1 with q1 q2 q3
  subst q1; subst q2; subst q3
  obtain ⟨a, ha, rfl⟩ := tally_dat h2
  obtain ⟨b, hb, rfl⟩ := tally_dat h3
  rw [← agg32 ha, ← agg32 hb]
  refine coadjutorlaw37_TallySums.calls _ _ _ _ _ _ _ _ _ _ _ _ _ _ _ _ _ _ _ _ _ _ _ _ _ _ _ _ _ _ _ _ _ _ _ _ _ _ _ _ _ _ _ _ _ _ _ _ _ _ _ _ _ _ _ _ _ _ _ _ _ _ _ _ _ _ _ ?_
  unfold coadjutorlaw37_TallySums.vc
  intro w1 e1 w2 e2
  have hA := (new32 ha e1).alloc e2
  have hB := new32 hb e2
  have hc2 : Ch Non W w2 := (Ch.alloc e1).andN (Ch.alloc e2)
  have s1 : W.heap.size < w1.heap.size := (new32 ha e1).lt
  clear e1 e2
  refine step_call (awake_spec w2) ?_
  rintro v w3 ⟨rfl, hc3⟩
  refine ⟨_, rfl, iteF rfl ⟨fun _ => ⟨rfl, hc2.andN hc3⟩, fun hle => ?_⟩⟩
  have hl : l.length ≤ 10 := by have := of_decide_eq_false hle; omega
  have hA3 := hA.keepN hc3
  have hB3 := hB.keepN hc3
  have hcW3 := hc2.andN hc3
  clear hA hB hc2 hc3 hle
  intro w4 e4
  have hZ := newz e4
  refine ⟨⟨okT hZ 0 (by decide), okT hZ 1 (by decide), okT hZ 2 (by decide), okT hZ 3 (by decide), okT hZ 4 (by decide), okT hZ 5 (by decide), okT hZ 6 (by decide), okT hZ 7 (by decide), okT hZ 8 (by decide), okT hZ 9 (by decide), okT hZ 10 (by decide), okT hZ 11 (by decide), okT hZ 12 (by decide), okT hZ 13 (by decide), okT hZ 14 (by decide), okT hZ 15 (by decide), okT hZ 16 (by decide), okT hZ 17 (by decide), okT hZ 18 (by decide), okT hZ 19 (by decide), okT hZ 20 (by decide), okT hZ 21 (by decide), okT hZ 22 (by decide), okT hZ 23 (by decide), okT hZ 24 (by decide), okT hZ 25 (by decide), okT hZ 26 (by decide), okT hZ 27 (by decide), okT hZ 28 (by decide), okT hZ 29 (by decide), okT hZ 30 (by decide), okT hZ 31 (by decide)⟩, fun w5 e5 => ?_⟩
  obtain ⟨hU5, hcx⟩ := sets32 (t := z32) hZ rfl rfl e5
  have s3 : w3.heap.size < w4.heap.size := hZ.lt
  have hc35 : Ch Non w3 w5 := (Ch.alloc (F := Non) e4).trans hcx (fun i hi he => by omega)
  have hA5 := hA3.keepN hc35
  have hB5 := hB3.keepN hc35
  have hcW5 := hcW3.andN hc35
  have sB : w1.heap.size < w3.heap.size := hB3.lt
  clear e4 e5 hZ hcx hA3 hB3 hcW3 s3
  generalize hab : W.heap.size = ab at hA5 s1 ⊢
  generalize hbb : w1.heap.size = bb at hB5 s1 sB ⊢
  generalize hub : w3.heap.size = ub at hU5 sB ⊢
  have hro : ∀ {w'}, Ch Non W w' → Rd w' o1 (l.map tE).flatten (fun i => i < W.heap.size) := fun hc => (hr.mono (fun i hi _ => hi)).keepN hc
  refine ⟨fun i k w' => ∃ j : Nat, i = j ∧ j ≤ l.length ∧ k = l.length - j ∧ Blk w' ub ((joinT (l.take j)).map iv) 60 ∧ Ch (· = ub) w5 w', ⟨_, 0, rfl, Nat.zero_le _, rfl, hU5, Ch.refl _ _⟩, ?_⟩
  clear hU5
  rintro jk i k w6 ⟨j, rfl, hj, rfl, hU6, hc6⟩
  have hA6 := hA5.keep hc6 (by omega)
  have hB6 := hB5.keep hc6 (by omega)
  have hcW6 : Ch Non W w6 := hcW5.trans hc6 (fun i hi he => by omega)
  have hUl := joinT_len (l.take j)
  refine ⟨fun hlt => ?_, fun hge => ?_⟩
  · have hlt : j < l.length := by have := of_decide_eq_true hlt; omega
    obtain ⟨p, hp, _, _, hcell⟩ := (hro hcW6).elem (sz := 32) (enc := tE) (fun _ => tE_len _) (by omega) hlt
    have ht := hQ _ (List.getElem_mem hlt)
    have hsn : joinT (l.take (j + 1)) = plusT (joinT (l.take j)) l[j] := by rw [List.take_succ_eq_append_getElem hlt, joinT_snoc]
    generalize l[j] = t at hcell ht hsn
    subst hp
    have hjj : (j : Int).toNat = j := Int.toNat_natCast j
    have h0 := hcell 0 _ (tE_at t (by omega))
    rw [add_none] at h0
    rw [hjj]
    refine ⟨⟨by omega, by omega⟩, _, _, _, _, _, _, _, _, _, _, _, _, _, _, _, _, _, _, _, _, _, _, _, _, _, _, _, _, _, _, _, _, ⟨h0, hcell (0 + 1) _ (tE_at t (by omega)), hcell (1 + 1) _ (tE_at t (by omega)), hcell (2 + 1) _ (tE_at t (by omega)), hcell (3 + 1) _ (tE_at t (by omega)), hcell (4 + 1) _ (tE_at t (by omega)), hcell (5 + 1) _ (tE_at t (by omega)), hcell (6 + 1) _ (tE_at t (by omega)), hcell (7 + 1) _ (tE_at t (by omega)), hcell (8 + 1) _ (tE_at t (by omega)), hcell (9 + 1) _ (tE_at t (by omega)), hcell (10 + 1) _ (tE_at t (by omega)), hcell (11 + 1) _ (tE_at t (by omega)), hcell (12 + 1) _ (tE_at t (by omega)), hcell (13 + 1) _ (tE_at t (by omega)), hcell (14 + 1) _ (tE_at t (by omega)), hcell (15 + 1) _ (tE_at t (by omega)), hcell (16 + 1) _ (tE_at t (by omega)), hcell (17 + 1) _ (tE_at t (by omega)), hcell (18 + 1) _ (tE_at t (by omega)), hcell (19 + 1) _ (tE_at t (by omega)), hcell (20 + 1) _ (tE_at t (by omega)), hcell (21 + 1) _ (tE_at t (by omega)), hcell (22 + 1) _ (tE_at t (by omega)), hcell (23 + 1) _ (tE_at t (by omega)), hcell (24 + 1) _ (tE_at t (by omega)), hcell (25 + 1) _ (tE_at t (by omega)), hcell (26 + 1) _ (tE_at t (by omega)), hcell (27 + 1) _ (tE_at t (by omega)), hcell (28 + 1) _ (tE_at t (by omega)), hcell (29 + 1) _ (tE_at t (by omega)), hcell (30 + 1) _ (tE_at t (by omega))⟩, ?_⟩
    clear h0 hcell
    rw [agg32 ht]
    refine step_call (numsL_spec w6 ht) ?_
    rintro v w7 ⟨rfl, hc7⟩
    refine ⟨_, _, _, _, _, _, _, _, _, _, _, _, _, _, _, _, _, _, _, _, _, _, _, _, _, _, _, _, _, _, _, _, congrArg Value.agg (agg32 ht).symm, fun w8 e8 => ?_⟩
    have hZ := newz e8
    refine ⟨⟨okT hZ 0 (by decide), okT hZ 1 (by decide), okT hZ 2 (by decide), okT hZ 3 (by decide), okT hZ 4 (by decide), okT hZ 5 (by decide), okT hZ 6 (by decide), okT hZ 7 (by decide), okT hZ 8 (by decide), okT hZ 9 (by decide), okT hZ 10 (by decide), okT hZ 11 (by decide), okT hZ 12 (by decide), okT hZ 13 (by decide), okT hZ 14 (by decide), okT hZ 15 (by decide), okT hZ 16 (by decide), okT hZ 17 (by decide), okT hZ 18 (by decide), okT hZ 19 (by decide), okT hZ 20 (by decide), okT hZ 21 (by decide), okT hZ 22 (by decide), okT hZ 23 (by decide), okT hZ 24 (by decide), okT hZ 25 (by decide), okT hZ 26 (by decide), okT hZ 27 (by decide), okT hZ 28 (by decide), okT hZ 29 (by decide), okT hZ 30 (by decide), okT hZ 31 (by decide)⟩, fun w9 e9 => ?_⟩
    obtain ⟨hX9, hcx⟩ := sets32 hZ rfl ht e9
    have s7 : w7.heap.size < w8.heap.size := hZ.lt
    have hc69 : Ch Non w6 w9 := hc7.andN ((Ch.alloc (F := Non) e8).trans hcx (fun i hi he => by omega))
    have hU9 := hU6.keepN hc69
    have sX : ub < w7.heap.size := (hU6.keepN hc7).lt
    have hcW9 := hcW6.andN hc69
    clear e8 e9 hZ hcx
    generalize w7.heap.size = xb at hX9 sX ⊢
    refine ⟨fun i k w' => ∃ q : Nat, i = q ∧ q ≤ 32 ∧ k = 32 - q ∧ Blk w' ub ((mixT (joinT (l.take j)) (joinT (l.take (j + 1))) q).map iv) 60 ∧ Ch (· = ub) w9 w', ⟨_, 0, rfl, by omega, rfl, by rw [mixT_zero hUl]; exact hU9, Ch.refl _ _⟩, ?_⟩
    clear hU9
    rintro jk i k w10 ⟨q, rfl, hq, rfl, hU10, hc10⟩
    have hX10 := hX9.keep hc10 (by omega)
    have hcW10 : Ch Non W w10 := hcW9.trans hc10 (fun i hi he => by omega)
    refine ⟨fun hlt2 => ?_, fun hge2 => ?_⟩
    · have hlt2 : q < 32 := by have := of_decide_eq_true hlt2; omega
      have hqq : (q : Int).toNat * 1 = q := by omega
      have hml := mixT_len (joinT (l.take j)) (joinT (l.take (j + 1))) q
      rw [hqq, add_at, add_at, Nat.zero_add]
      refine ⟨⟨by omega, by omega⟩, _, cT hX10 q (by omega), fun _ => ⟨rfl, hcW10⟩, fun _ => ⟨⟨by omega, by omega⟩, _, cT hX10 q (by omega), fun _ => ⟨rfl, hcW10⟩, fun _ => ?_⟩⟩
      refine ⟨fun w' => Ch Non w10 w', fun w11 e11 => ⟨Ch.drew e11, ⟨by omega, by omega⟩, _, fun w' hc => cT (hU10.keepN hc) q (by omega), ⟨by omega, by omega⟩, _, fun w' hc => cT (hX10.keepN hc) q (by omega), ⟨by omega, by omega⟩, okT (hU10.drew e11) q (by omega), fun w14 e14 => ?_⟩⟩
      have hU14 := setT (hU10.drew e11) e14
      have hv : IntKind.i64.wrap (g (mixT (joinT (l.take j)) (joinT (l.take (j + 1))) q) q + g t q) = g (joinT (l.take (j + 1))) q := by
        rw [mixT_g hlt2, hsn]
        unfold plusT
        rw [g_all hlt2]
      rw [hv, mixT_set] at hU14
      exact ⟨32 - (q + 1), by omega, q + 1, by rw [wrap_id (by omega) (by omega)]; rfl, hlt2, rfl, hU14, (hc10.andN (Ch.drew e11)).same (chT e14)⟩
    · have hq32 : q = 32 := by have := of_decide_eq_false hge2; omega
      subst hq32
      rw [mixT_all (joinT_len _)] at hU10
      exact ⟨l.length - (j + 1), by omega, j + 1, by rw [wrap_id (by omega) (by omega)]; rfl, hlt, rfl, hU10, (hc6.andN hc69).same hc10⟩
  have hjn : j = l.length := by have := of_decide_eq_false hge; omega
  subst hjn
  rw [List.take_length] at hU6 hUl
  clear hge hA5 hB5 hcW5
  refine ⟨_, _, _, _, _, _, _, _, _, _, _, _, _, _, _, _, _, _, _, _, _, _, _, _, _, _, _, _, _, _, _, _, ⟨cT hA6 0 (by rw [ha]; decide), cT hA6 1 (by rw [ha]; decide), cT hA6 2 (by rw [ha]; decide), cT hA6 3 (by rw [ha]; decide), cT hA6 4 (by rw [ha]; decide), cT hA6 5 (by rw [ha]; decide), cT hA6 6 (by rw [ha]; decide), cT hA6 7 (by rw [ha]; decide), cT hA6 8 (by rw [ha]; decide), cT hA6 9 (by rw [ha]; decide), cT hA6 10 (by rw [ha]; decide), cT hA6 11 (by rw [ha]; decide), cT hA6 12 (by rw [ha]; decide), cT hA6 13 (by rw [ha]; decide), cT hA6 14 (by rw [ha]; decide), cT hA6 15 (by rw [ha]; decide), cT hA6 16 (by rw [ha]; decide), cT hA6 17 (by rw [ha]; decide), cT hA6 18 (by rw [ha]; decide), cT hA6 19 (by rw [ha]; decide), cT hA6 20 (by rw [ha]; decide), cT hA6 21 (by rw [ha]; decide), cT hA6 22 (by rw [ha]; decide), cT hA6 23 (by rw [ha]; decide), cT hA6 24 (by rw [ha]; decide), cT hA6 25 (by rw [ha]; decide), cT hA6 26 (by rw [ha]; decide), cT hA6 27 (by rw [ha]; decide), cT hA6 28 (by rw [ha]; decide), cT hA6 29 (by rw [ha]; decide), cT hA6 30 (by rw [ha]; decide), cT hA6 31 (by rw [ha]; decide)⟩, ?_⟩
  rw [agg32 ha]
  refine step_call (numsL_spec w6 ha) ?_
  rintro v w15 ⟨rfl, hc15⟩
  refine ⟨_, _, _, _, _, _, _, _, _, _, _, _, _, _, _, _, _, _, _, _, _, _, _, _, _, _, _, _, _, _, _, _, congrArg Value.agg (agg32 ha).symm, fun w16 e16 => ?_⟩
  have hZ := newz e16
  refine ⟨⟨okT hZ 0 (by decide), okT hZ 1 (by decide), okT hZ 2 (by decide), okT hZ 3 (by decide), okT hZ 4 (by decide), okT hZ 5 (by decide), okT hZ 6 (by decide), okT hZ 7 (by decide), okT hZ 8 (by decide), okT hZ 9 (by decide), okT hZ 10 (by decide), okT hZ 11 (by decide), okT hZ 12 (by decide), okT hZ 13 (by decide), okT hZ 14 (by decide), okT hZ 15 (by decide), okT hZ 16 (by decide), okT hZ 17 (by decide), okT hZ 18 (by decide), okT hZ 19 (by decide), okT hZ 20 (by decide), okT hZ 21 (by decide), okT hZ 22 (by decide), okT hZ 23 (by decide), okT hZ 24 (by decide), okT hZ 25 (by decide), okT hZ 26 (by decide), okT hZ 27 (by decide), okT hZ 28 (by decide), okT hZ 29 (by decide), okT hZ 30 (by decide), okT hZ 31 (by decide)⟩, fun w17 e17 => ?_⟩
  obtain ⟨hX17, hcx⟩ := sets32 hZ rfl ha e17
  have s15 : w15.heap.size < w16.heap.size := hZ.lt
  have hc617 : Ch Non w6 w17 := hc15.andN ((Ch.alloc (F := Non) e16).trans hcx (fun i hi he => by omega))
  have hA17 := hA6.keepN hc617
  have hB17 := hB6.keepN hc617
  have hU17 := hU6.keepN hc617
  have hcW17 := hcW6.andN hc617
  clear e16 e17 hZ hcx hA6 hB6 hU6 s15
  refine ⟨_, _, _, _, _, _, _, _, _, _, _, _, _, _, _, _, _, _, _, _, _, _, _, _, _, _, _, _, _, _, _, _, ⟨cT hB17 0 (by rw [hb]; decide), cT hB17 1 (by rw [hb]; decide), cT hB17 2 (by rw [hb]; decide), cT hB17 3 (by rw [hb]; decide), cT hB17 4 (by rw [hb]; decide), cT hB17 5 (by rw [hb]; decide), cT hB17 6 (by rw [hb]; decide), cT hB17 7 (by rw [hb]; decide), cT hB17 8 (by rw [hb]; decide), cT hB17 9 (by rw [hb]; decide), cT hB17 10 (by rw [hb]; decide), cT hB17 11 (by rw [hb]; decide), cT hB17 12 (by rw [hb]; decide), cT hB17 13 (by rw [hb]; decide), cT hB17 14 (by rw [hb]; decide), cT hB17 15 (by rw [hb]; decide), cT hB17 16 (by rw [hb]; decide), cT hB17 17 (by rw [hb]; decide), cT hB17 18 (by rw [hb]; decide), cT hB17 19 (by rw [hb]; decide), cT hB17 20 (by rw [hb]; decide), cT hB17 21 (by rw [hb]; decide), cT hB17 22 (by rw [hb]; decide), cT hB17 23 (by rw [hb]; decide), cT hB17 24 (by rw [hb]; decide), cT hB17 25 (by rw [hb]; decide), cT hB17 26 (by rw [hb]; decide), cT hB17 27 (by rw [hb]; decide), cT hB17 28 (by rw [hb]; decide), cT hB17 29 (by rw [hb]; decide), cT hB17 30 (by rw [hb]; decide), cT hB17 31 (by rw [hb]; decide)⟩, ?_⟩
  rw [agg32 hb]
  refine step_call (numsL_spec w17 hb) ?_
  rintro v w18 ⟨rfl, hc18⟩
  refine ⟨_, _, _, _, _, _, _, _, _, _, _, _, _, _, _, _, _, _, _, _, _, _, _, _, _, _, _, _, _, _, _, _, congrArg Value.agg (agg32 hb).symm, fun w19 e19 => ?_⟩
  have hZ := newz e19
  refine ⟨⟨okT hZ 0 (by decide), okT hZ 1 (by decide), okT hZ 2 (by decide), okT hZ 3 (by decide), okT hZ 4 (by decide), okT hZ 5 (by decide), okT hZ 6 (by decide), okT hZ 7 (by decide), okT hZ 8 (by decide), okT hZ 9 (by decide), okT hZ 10 (by decide), okT hZ 11 (by decide), okT hZ 12 (by decide), okT hZ 13 (by decide), okT hZ 14 (by decide), okT hZ 15 (by decide), okT hZ 16 (by decide), okT hZ 17 (by decide), okT hZ 18 (by decide), okT hZ 19 (by decide), okT hZ 20 (by decide), okT hZ 21 (by decide), okT hZ 22 (by decide), okT hZ 23 (by decide), okT hZ 24 (by decide), okT hZ 25 (by decide), okT hZ 26 (by decide), okT hZ 27 (by decide), okT hZ 28 (by decide), okT hZ 29 (by decide), okT hZ 30 (by decide), okT hZ 31 (by decide)⟩, fun w20 e20 => ?_⟩
  obtain ⟨hY20, hcx⟩ := sets32 hZ rfl hb e20
  have s18 : w18.heap.size < w19.heap.size := hZ.lt
  have hc1720 : Ch Non w17 w20 := hc18.andN ((Ch.alloc (F := Non) e19).trans hcx (fun i hi he => by omega))
  have hA20 := hA17.keepN hc1720
  have hB20 := hB17.keepN hc1720
  have hU20 := hU17.keepN hc1720
  have hX20 := hX17.keepN hc1720
  have hcW20 := hcW17.andN hc1720
  clear e19 e20 hZ hcx hA17 hB17 hU17 hX17 s18
  generalize w15.heap.size = xb at hX20 ⊢
  generalize w18.heap.size = yb at hY20 ⊢
  refine ⟨fun bl w' => Ch Non w20 w' ∧ (∀ i, i < 32 → (-1099511627776 ≤ g a i ∧ g a i ≤ 1099511627776) ∧ (-1099511627776 ≤ g b i ∧ g b i ≤ 1099511627776)) ∧ (bl = true ↔ ∃ i, i < 32 ∧ g a i < g b i), ⟨fun bl i k w' => ∃ q : Nat, i = q ∧ q ≤ 32 ∧ k = 32 - q ∧ Ch Non w20 w' ∧ (∀ i, i < q → (-1099511627776 ≤ g a i ∧ g a i ≤ 1099511627776) ∧ (-1099511627776 ≤ g b i ∧ g b i ≤ 1099511627776)) ∧ (bl = true ↔ ∃ i, i < q ∧ g a i < g b i), ⟨_, 0, rfl, by omega, rfl, Ch.refl _ _, fun i hi => absurd hi (Nat.not_lt_zero _), by simp⟩, ?_⟩, ?_⟩
  · rintro jk bl i k w21 ⟨q, rfl, hq, rfl, hc21, hbd, hbl⟩
    have hX21 := hX20.keepN hc21
    have hY21 := hY20.keepN hc21
    have hcW21 := hcW20.andN hc21
    refine ⟨fun hlt2 => ?_, fun hge2 => ?_⟩
    · have hlt2 : q < 32 := by have := of_decide_eq_true hlt2; omega
      have hqq : (q : Int).toNat * 1 = q := by omega
      rw [hqq, add_at, add_at, Nat.zero_add]
      refine ⟨⟨by omega, by omega⟩, _, cT hX21 q (by omega), fun _ => ⟨rfl, hcW21⟩, fun g1 => ⟨⟨by omega, by omega⟩, _, cT hX21 q (by omega), fun _ => ⟨rfl, hcW21⟩, fun g2 => ⟨⟨by omega, by omega⟩, _, cT hY21 q (by omega), fun _ => ⟨rfl, hcW21⟩, fun g3 => ⟨⟨by omega, by omega⟩, _, cT hY21 q (by omega), fun _ => ⟨rfl, hcW21⟩, fun g4 => ?_⟩⟩⟩⟩
      have g1 := of_decide_eq_false g1
      have g2 := of_decide_eq_false g2
      have g3 := of_decide_eq_false g3
      have g4 := of_decide_eq_false g4
      have hbd' : ∀ i, i < q + 1 → (-1099511627776 ≤ g a i ∧ g a i ≤ 1099511627776) ∧ (-1099511627776 ≤ g b i ∧ g b i ≤ 1099511627776) := fun i hi => by
        by_cases he : i = q
        · subst he; omega
        · exact hbd i (by omega)
      have hq1 : IntKind.i64.wrap ((q : Int) + 1) = ((q + 1 : Nat) : Int) := by rw [wrap_id (by omega) (by omega)]; rfl
      refine ⟨fun w' => Ch Non w21 w', fun w22 e22 => ⟨Ch.drew e22, fun ht => ?_, fun hf => ?_⟩⟩
      · exact ⟨32 - (q + 1), by omega, q + 1, hq1, hlt2, rfl, hc21.andN (Ch.drew e22), hbd', by
          obtain ⟨i, hi, hl⟩ := hbl.1 ht
          exact ⟨fun _ => ⟨i, by omega, hl⟩, fun _ => rfl⟩⟩
      · refine ⟨⟨by omega, by omega⟩, _, fun w' hc => cT (hX21.keepN hc) q (by omega), ⟨by omega, by omega⟩, _, fun w' hc => cT (hY21.keepN hc) q (by omega), 32 - (q + 1), by omega, q + 1, hq1, hlt2, rfl, hc21.andN (Ch.drew e22), hbd', ?_⟩
        rw [decide_eq_true_eq]
        refine ⟨fun h => ⟨q, by omega, h⟩, fun ⟨i, hi, h⟩ => ?_⟩
        by_cases he : i = q
        · subst he; exact h
        · have := hbl.2 ⟨i, by omega, h⟩
          rw [hf] at this; cases this
    · have hq32 : q = 32 := by have := of_decide_eq_false hge2; omega
      subst hq32
      exact ⟨hc21, hbd, hbl⟩
  rintro jk bl w25 ⟨hc25, hbd, hbl⟩
  have hlb := lessB_eq hbd hbl
  have hA25 := hA20.keepN hc25
  have hB25 := hB20.keepN hc25
  refine ⟨_, _, _, _, _, _, _, _, _, _, _, _, _, _, _, _, _, _, _, _, _, _, _, _, _, _, _, _, _, _, _, _, ⟨cT hA25 0 (by rw [ha]; decide), cT hA25 1 (by rw [ha]; decide), cT hA25 2 (by rw [ha]; decide), cT hA25 3 (by rw [ha]; decide), cT hA25 4 (by rw [ha]; decide), cT hA25 5 (by rw [ha]; decide), cT hA25 6 (by rw [ha]; decide), cT hA25 7 (by rw [ha]; decide), cT hA25 8 (by rw [ha]; decide), cT hA25 9 (by rw [ha]; decide), cT hA25 10 (by rw [ha]; decide), cT hA25 11 (by rw [ha]; decide), cT hA25 12 (by rw [ha]; decide), cT hA25 13 (by rw [ha]; decide), cT hA25 14 (by rw [ha]; decide), cT hA25 15 (by rw [ha]; decide), cT hA25 16 (by rw [ha]; decide), cT hA25 17 (by rw [ha]; decide), cT hA25 18 (by rw [ha]; decide), cT hA25 19 (by rw [ha]; decide), cT hA25 20 (by rw [ha]; decide), cT hA25 21 (by rw [ha]; decide), cT hA25 22 (by rw [ha]; decide), cT hA25 23 (by rw [ha]; decide), cT hA25 24 (by rw [ha]; decide), cT hA25 25 (by rw [ha]; decide), cT hA25 26 (by rw [ha]; decide), cT hA25 27 (by rw [ha]; decide), cT hA25 28 (by rw [ha]; decide), cT hA25 29 (by rw [ha]; decide), cT hA25 30 (by rw [ha]; decide), cT hA25 31 (by rw [ha]; decide)⟩, _, _, _, _, _, _, _, _, _, _, _, _, _, _, _, _, _, _, _, _, _, _, _, _, _, _, _, _, _, _, _, _, ⟨cT hB25 0 (by rw [hb]; decide), cT hB25 1 (by rw [hb]; decide), cT hB25 2 (by rw [hb]; decide), cT hB25 3 (by rw [hb]; decide), cT hB25 4 (by rw [hb]; decide), cT hB25 5 (by rw [hb]; decide), cT hB25 6 (by rw [hb]; decide), cT hB25 7 (by rw [hb]; decide), cT hB25 8 (by rw [hb]; decide), cT hB25 9 (by rw [hb]; decide), cT hB25 10 (by rw [hb]; decide), cT hB25 11 (by rw [hb]; decide), cT hB25 12 (by rw [hb]; decide), cT hB25 13 (by rw [hb]; decide), cT hB25 14 (by rw [hb]; decide), cT hB25 15 (by rw [hb]; decide), cT hB25 16 (by rw [hb]; decide), cT hB25 17 (by rw [hb]; decide), cT hB25 18 (by rw [hb]; decide), cT hB25 19 (by rw [hb]; decide), cT hB25 20 (by rw [hb]; decide), cT hB25 21 (by rw [hb]; decide), cT hB25 22 (by rw [hb]; decide), cT hB25 23 (by rw [hb]; decide), cT hB25 24 (by rw [hb]; decide), cT hB25 25 (by rw [hb]; decide), cT hB25 26 (by rw [hb]; decide), cT hB25 27 (by rw [hb]; decide), cT hB25 28 (by rw [hb]; decide), cT hB25 29 (by rw [hb]; decide), cT hB25 30 (by rw [hb]; decide), cT hB25 31 (by rw [hb]; decide)⟩, ?_⟩
  rw [agg32 ha, agg32 hb]
  refine step_call (Less_spec w25 ha hb) ?_
  rintro v w26 ⟨rfl, hc26⟩
  have hD : (if lessB a b then minusT a b else z32).length = 32 := by split <;> rfl
  have hD1 : lessB a b = true → (if lessB a b then minusT a b else z32) = minusT a b := fun h => if_pos h
  have hD0 : bl = true → (if lessB a b then minusT a b else z32) = z32 := fun h => if_neg (by rw [hlb, h]; decide)
  generalize (if lessB a b then minusT a b else z32) = d at hD hD1 hD0 ⊢
  refine ⟨_, _, _, _, _, _, _, _, _, _, _, _, _, _, _, _, _, _, _, _, _, _, _, _, _, _, _, _, _, _, _, _, _, congrArg (fun x => Value.tuple #[.agg x, .bool (lessB a b)]) (agg32 hD).symm, fun w27 e27 => ?_⟩
  have hZ := newz e27
  refine ⟨⟨okT hZ 0 (by decide), okT hZ 1 (by decide), okT hZ 2 (by decide), okT hZ 3 (by decide), okT hZ 4 (by decide), okT hZ 5 (by decide), okT hZ 6 (by decide), okT hZ 7 (by decide), okT hZ 8 (by decide), okT hZ 9 (by decide), okT hZ 10 (by decide), okT hZ 11 (by decide), okT hZ 12 (by decide), okT hZ 13 (by decide), okT hZ 14 (by decide), okT hZ 15 (by decide), okT hZ 16 (by decide), okT hZ 17 (by decide), okT hZ 18 (by decide), okT hZ 19 (by decide), okT hZ 20 (by decide), okT hZ 21 (by decide), okT hZ 22 (by decide), okT hZ 23 (by decide), okT hZ 24 (by decide), okT hZ 25 (by decide), okT hZ 26 (by decide), okT hZ 27 (by decide), okT hZ 28 (by decide), okT hZ 29 (by decide), okT hZ 30 (by decide), okT hZ 31 (by decide)⟩, fun w28 e28 => ?_⟩
  obtain ⟨hD28, hcx⟩ := sets32 hZ rfl hD e28
  have s26 : w26.heap.size < w27.heap.size := hZ.lt
  have hc2028 : Ch Non w20 w28 := (hc25.andN hc26).andN ((Ch.alloc (F := Non) e27).trans hcx (fun i hi he => by omega))
  have hcW28 := hcW20.andN hc2028
  clear e27 e28 hZ hcx hA25 hB25 s26
  generalize w26.heap.size = db at hD28 ⊢
  refine ⟨fun w' => Ch Non w28 w', ⟨fun h => ?_, fun _ => ⟨fun ht => ?_, fun _ => Ch.refl _ _⟩⟩, ?_⟩
  · rw [hlb] at h
    cases bl <;> simp at h
  · have := hD0 ht
    subst this
    exact ⟨_, _, _, _, _, _, _, _, _, _, _, _, _, _, _, _, _, _, _, _, _, _, _, _, _, _, _, _, _, _, _, _, ⟨cT hD28 0 (by decide), cT hD28 1 (by decide), cT hD28 2 (by decide), cT hD28 3 (by decide), cT hD28 4 (by decide), cT hD28 5 (by decide), cT hD28 6 (by decide), cT hD28 7 (by decide), cT hD28 8 (by decide), cT hD28 9 (by decide), cT hD28 10 (by decide), cT hD28 11 (by decide), cT hD28 12 (by decide), cT hD28 13 (by decide), cT hD28 14 (by decide), cT hD28 15 (by decide), cT hD28 16 (by decide), cT hD28 17 (by decide), cT hD28 18 (by decide), cT hD28 19 (by decide), cT hD28 20 (by decide), cT hD28 21 (by decide), cT hD28 22 (by decide), cT hD28 23 (by decide), cT hD28 24 (by decide), cT hD28 25 (by decide), cT hD28 26 (by decide), cT hD28 27 (by decide), cT hD28 28 (by decide), cT hD28 29 (by decide), cT hD28 30 (by decide), cT hD28 31 (by decide)⟩, fun h => by exact absurd h (by decide), fun _ => Ch.refl _ _⟩
  rintro jk w29 hc29
  have hD29 := hD28.keepN hc29
  refine ⟨_, _, _, _, _, _, _, _, _, _, _, _, _, _, _, _, _, _, _, _, _, _, _, _, _, _, _, _, _, _, _, _, ⟨cT hD29 0 (by rw [hD]; decide), cT hD29 1 (by rw [hD]; decide), cT hD29 2 (by rw [hD]; decide), cT hD29 3 (by rw [hD]; decide), cT hD29 4 (by rw [hD]; decide), cT hD29 5 (by rw [hD]; decide), cT hD29 6 (by rw [hD]; decide), cT hD29 7 (by rw [hD]; decide), cT hD29 8 (by rw [hD]; decide), cT hD29 9 (by rw [hD]; decide), cT hD29 10 (by rw [hD]; decide), cT hD29 11 (by rw [hD]; decide), cT hD29 12 (by rw [hD]; decide), cT hD29 13 (by rw [hD]; decide), cT hD29 14 (by rw [hD]; decide), cT hD29 15 (by rw [hD]; decide), cT hD29 16 (by rw [hD]; decide), cT hD29 17 (by rw [hD]; decide), cT hD29 18 (by rw [hD]; decide), cT hD29 19 (by rw [hD]; decide), cT hD29 20 (by rw [hD]; decide), cT hD29 21 (by rw [hD]; decide), cT hD29 22 (by rw [hD]; decide), cT hD29 23 (by rw [hD]; decide), cT hD29 24 (by rw [hD]; decide), cT hD29 25 (by rw [hD]; decide), cT hD29 26 (by rw [hD]; decide), cT hD29 27 (by rw [hD]; decide), cT hD29 28 (by rw [hD]; decide), cT hD29 29 (by rw [hD]; decide), cT hD29 30 (by rw [hD]; decide), cT hD29 31 (by rw [hD]; decide)⟩, ?_⟩
  rw [agg32 hD]
  refine step_call (numsL_spec w29 hD) ?_
  rintro v w30 ⟨rfl, hc30⟩
  refine ⟨_, _, _, _, _, _, _, _, _, _, _, _, _, _, _, _, _, _, _, _, _, _, _, _, _, _, _, _, _, _, _, _, congrArg Value.agg (agg32 hD).symm, fun w31 e31 => ?_⟩
  have hZ := newz e31
  refine ⟨⟨okT hZ 0 (by decide), okT hZ 1 (by decide), okT hZ 2 (by decide), okT hZ 3 (by decide), okT hZ 4 (by decide), okT hZ 5 (by decide), okT hZ 6 (by decide), okT hZ 7 (by decide), okT hZ 8 (by decide), okT hZ 9 (by decide), okT hZ 10 (by decide), okT hZ 11 (by decide), okT hZ 12 (by decide), okT hZ 13 (by decide), okT hZ 14 (by decide), okT hZ 15 (by decide), okT hZ 16 (by decide), okT hZ 17 (by decide), okT hZ 18 (by decide), okT hZ 19 (by decide), okT hZ 20 (by decide), okT hZ 21 (by decide), okT hZ 22 (by decide), okT hZ 23 (by decide), okT hZ 24 (by decide), okT hZ 25 (by decide), okT hZ 26 (by decide), okT hZ 27 (by decide), okT hZ 28 (by decide), okT hZ 29 (by decide), okT hZ 30 (by decide), okT hZ 31 (by decide)⟩, fun w32 e32 => ?_⟩
  obtain ⟨hZ32, hcx⟩ := sets32 hZ rfl hD e32
  have s30 : w30.heap.size < w31.heap.size := hZ.lt
  have hc2032 : Ch Non w20 w32 := hc2028.andN ((hc29.andN hc30).andN ((Ch.alloc (F := Non) e31).trans hcx (fun i hi he => by omega)))
  have hcW32 := hcW20.andN hc2032
  have hX32 := hX20.keepN hc2032
  have hY32 := hY20.keepN hc2032
  have hU32 := hU20.keepN hc2032
  clear e31 e32 hZ hcx s30
  generalize w30.heap.size = zb at hZ32 ⊢
  refine ⟨fun i k w' => ∃ q : Nat, i = q ∧ q ≤ 32 ∧ k = 32 - q ∧ Ch Non w32 w', ⟨_, 0, rfl, by omega, rfl, Ch.refl _ _⟩, ?_⟩
  rintro jk i k w33 ⟨q, rfl, hq, rfl, hc33⟩
  have hX33 := hX32.keepN hc33
  have hY33 := hY32.keepN hc33
  have hU33 := hU32.keepN hc33
  have hZ33 := hZ32.keepN hc33
  have hcW33 := hcW32.andN hc33
  have hJ := joinT_len l
  refine ⟨fun hlt2 => ⟨fun his => ?_, fun _ => ?_⟩, fun hge2 => ?_⟩
  · have hlt2 : q < 32 := by have := of_decide_eq_true hlt2; omega
    have hqq : (q : Int).toNat * 1 = q := by omega
    rw [hqq, add_at, add_at, add_at, Nat.zero_add]
    have hdm := hD1 his
    refine ⟨fun w' => Ch Non w33 w', fun w34 e34 => ⟨Ch.drew e34, ⟨by omega, by omega⟩, _, fun w' hc => cT (hZ33.keepN hc) q (by omega), ⟨by omega, by omega⟩, _, fun w' hc => cT (hX33.keepN hc) q (by omega), ⟨by omega, by omega⟩, _, fun w' hc => cT (hY33.keepN hc) q (by omega), iteF ?_ ?_⟩⟩
    · rw [hdm]; unfold minusT; rw [g_all hlt2]; simp
    · exact ⟨32 - (q + 1), by omega, q + 1, by rw [wrap_id (by omega) (by omega)]; rfl, hlt2, rfl, hc33.andN (Ch.drew e34)⟩
  ·
    refine ⟨fun w' => Ch Non w33 w', fun w38 e38 => ⟨Ch.drew e38, _, _, _, _, _, _, _, _, _, _, _, _, _, _, _, _, _, _, _, _, _, _, _, _, _, _, _, _, _, _, _, _, ⟨fun w' hc => cT (hU33.keepN hc) 0 (by rw [hJ]; decide), fun w' hc => cT (hU33.keepN hc) 1 (by rw [hJ]; decide), fun w' hc => cT (hU33.keepN hc) 2 (by rw [hJ]; decide), fun w' hc => cT (hU33.keepN hc) 3 (by rw [hJ]; decide), fun w' hc => cT (hU33.keepN hc) 4 (by rw [hJ]; decide), fun w' hc => cT (hU33.keepN hc) 5 (by rw [hJ]; decide), fun w' hc => cT (hU33.keepN hc) 6 (by rw [hJ]; decide), fun w' hc => cT (hU33.keepN hc) 7 (by rw [hJ]; decide), fun w' hc => cT (hU33.keepN hc) 8 (by rw [hJ]; decide), fun w' hc => cT (hU33.keepN hc) 9 (by rw [hJ]; decide), fun w' hc => cT (hU33.keepN hc) 10 (by rw [hJ]; decide), fun w' hc => cT (hU33.keepN hc) 11 (by rw [hJ]; decide), fun w' hc => cT (hU33.keepN hc) 12 (by rw [hJ]; decide), fun w' hc => cT (hU33.keepN hc) 13 (by rw [hJ]; decide), fun w' hc => cT (hU33.keepN hc) 14 (by rw [hJ]; decide), fun w' hc => cT (hU33.keepN hc) 15 (by rw [hJ]; decide), fun w' hc => cT (hU33.keepN hc) 16 (by rw [hJ]; decide), fun w' hc => cT (hU33.keepN hc) 17 (by rw [hJ]; decide), fun w' hc => cT (hU33.keepN hc) 18 (by rw [hJ]; decide), fun w' hc => cT (hU33.keepN hc) 19 (by rw [hJ]; decide), fun w' hc => cT (hU33.keepN hc) 20 (by rw [hJ]; decide), fun w' hc => cT (hU33.keepN hc) 21 (by rw [hJ]; decide), fun w' hc => cT (hU33.keepN hc) 22 (by rw [hJ]; decide), fun w' hc => cT (hU33.keepN hc) 23 (by rw [hJ]; decide), fun w' hc => cT (hU33.keepN hc) 24 (by rw [hJ]; decide), fun w' hc => cT (hU33.keepN hc) 25 (by rw [hJ]; decide), fun w' hc => cT (hU33.keepN hc) 26 (by rw [hJ]; decide), fun w' hc => cT (hU33.keepN hc) 27 (by rw [hJ]; decide), fun w' hc => cT (hU33.keepN hc) 28 (by rw [hJ]; decide), fun w' hc => cT (hU33.keepN hc) 29 (by rw [hJ]; decide), fun w' hc => cT (hU33.keepN hc) 30 (by rw [hJ]; decide), fun w' hc => cT (hU33.keepN hc) 31 (by rw [hJ]; decide)⟩, ?_⟩⟩
    refine step_call (Join_spec (hro (hcW33.andN (Ch.drew e38))) hQ (by omega) c1) ?_
    rintro v w40 ⟨rfl, hc40⟩
    refine ⟨_, _, _, _, _, _, _, _, _, _, _, _, _, _, _, _, _, _, _, _, _, _, _, _, _, _, _, _, _, _, _, _, congrArg Value.agg (agg32 hJ).symm, (Ch.drew (F := Non) e38).andN hc40, ?_⟩
    rw [agg32 hJ]
    refine step_call (numsL_spec w40 hJ) ?_
    rintro v w41 ⟨rfl, hc41⟩
    exact ⟨_, _, _, _, _, _, _, _, _, _, _, _, _, _, _, _, _, _, _, _, _, _, _, _, _, _, _, _, _, _, _, _, congrArg Value.agg (agg32 hJ).symm, ((Ch.drew (F := Non) e38).andN hc40).andN hc41, by simp, hcW33.andN (((Ch.drew (F := Non) e38).andN hc40).andN hc41)⟩
  ·
    refine ⟨fun w' => Ch Non w33 w', fun w38 e38 => ⟨Ch.drew e38, _, _, _, _, _, _, _, _, _, _, _, _, _, _, _, _, _, _, _, _, _, _, _, _, _, _, _, _, _, _, _, _, ⟨fun w' hc => cT (hU33.keepN hc) 0 (by rw [hJ]; decide), fun w' hc => cT (hU33.keepN hc) 1 (by rw [hJ]; decide), fun w' hc => cT (hU33.keepN hc) 2 (by rw [hJ]; decide), fun w' hc => cT (hU33.keepN hc) 3 (by rw [hJ]; decide), fun w' hc => cT (hU33.keepN hc) 4 (by rw [hJ]; decide), fun w' hc => cT (hU33.keepN hc) 5 (by rw [hJ]; decide), fun w' hc => cT (hU33.keepN hc) 6 (by rw [hJ]; decide), fun w' hc => cT (hU33.keepN hc) 7 (by rw [hJ]; decide), fun w' hc => cT (hU33.keepN hc) 8 (by rw [hJ]; decide), fun w' hc => cT (hU33.keepN hc) 9 (by rw [hJ]; decide), fun w' hc => cT (hU33.keepN hc) 10 (by rw [hJ]; decide), fun w' hc => cT (hU33.keepN hc) 11 (by rw [hJ]; decide), fun w' hc => cT (hU33.keepN hc) 12 (by rw [hJ]; decide), fun w' hc => cT (hU33.keepN hc) 13 (by rw [hJ]; decide), fun w' hc => cT (hU33.keepN hc) 14 (by rw [hJ]; decide), fun w' hc => cT (hU33.keepN hc) 15 (by rw [hJ]; decide), fun w' hc => cT (hU33.keepN hc) 16 (by rw [hJ]; decide), fun w' hc => cT (hU33.keepN hc) 17 (by rw [hJ]; decide), fun w' hc => cT (hU33.keepN hc) 18 (by rw [hJ]; decide), fun w' hc => cT (hU33.keepN hc) 19 (by rw [hJ]; decide), fun w' hc => cT (hU33.keepN hc) 20 (by rw [hJ]; decide), fun w' hc => cT (hU33.keepN hc) 21 (by rw [hJ]; decide), fun w' hc => cT (hU33.keepN hc) 22 (by rw [hJ]; decide), fun w' hc => cT (hU33.keepN hc) 23 (by rw [hJ]; decide), fun w' hc => cT (hU33.keepN hc) 24 (by rw [hJ]; decide), fun w' hc => cT (hU33.keepN hc) 25 (by rw [hJ]; decide), fun w' hc => cT (hU33.keepN hc) 26 (by rw [hJ]; decide), fun w' hc => cT (hU33.keepN hc) 27 (by rw [hJ]; decide), fun w' hc => cT (hU33.keepN hc) 28 (by rw [hJ]; decide), fun w' hc => cT (hU33.keepN hc) 29 (by rw [hJ]; decide), fun w' hc => cT (hU33.keepN hc) 30 (by rw [hJ]; decide), fun w' hc => cT (hU33.keepN hc) 31 (by rw [hJ]; decide)⟩, ?_⟩⟩
    refine step_call (Join_spec (hro (hcW33.andN (Ch.drew e38))) hQ (by omega) c1) ?_
    rintro v w40 ⟨rfl, hc40⟩
    refine ⟨_, _, _, _, _, _, _, _, _, _, _, _, _, _, _, _, _, _, _, _, _, _, _, _, _, _, _, _, _, _, _, _, congrArg Value.agg (agg32 hJ).symm, (Ch.drew (F := Non) e38).andN hc40, ?_⟩
    rw [agg32 hJ]
    refine step_call (numsL_spec w40 hJ) ?_
    rintro v w41 ⟨rfl, hc41⟩
    exact ⟨_, _, _, _, _, _, _, _, _, _, _, _, _, _, _, _, _, _, _, _, _, _, _, _, _, _, _, _, _, _, _, _, congrArg Value.agg (agg32 hJ).symm, ((Ch.drew (F := Non) e38).andN hc40).andN hc41, by simp, hcW33.andN (((Ch.drew (F := Non) e38).andN hc40).andN hc41)⟩
end Go.Proofs.Ytddgcdlljkooiaa.Tally
