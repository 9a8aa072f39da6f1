/- NormTurns' contract: of all rows of whole numbers the Go function answers true and leaves what was there; the conditions stand in each theorem. -/
import Derived.Test.YtddgcdlljkooiaaNormLaw1
set_option linter.unusedVariables false
namespace Go.Proofs.Ytddgcdlljkooiaa.Norm
open Go Go.Proofs Go.Proofs.Ytddgcdlljkooiaa.V Go.Proofs.Ytddgcdlljkooiaa.Vc Go.Proofs.Ytddgcdlljkooiaa.Num Go.RowKit

theorem sqs_neg (xs : List Int) : sqs (xs.map fun x => -x) = sqs xs := by
  unfold sqs
  rw [List.map_map]
  apply List.map_congr_left
  intro x _
  show sat (-x) * sat (-x) = _
  rw [sat_neg, Int.neg_mul_neg]
theorem rootL_neg (xs : List Int) : rootL (xs.map fun x => -x) = rootL xs := by unfold rootL; rw [sqs_neg]; simp
theorem ofE_neg (r g x : Int) : ofE r g (-x) = - ofE r g x := by
  unfold ofE
  rw [sat_neg, Int.neg_mul, Int.neg_tdiv, sat_neg]
theorem tdiv_mono {a b r : Int} (h : a ≤ b) (hr : 1 ≤ r) : Int.tdiv a r ≤ Int.tdiv b r := by
  have nn : ∀ {x y : Int}, 0 ≤ x → x ≤ y → Int.tdiv x r ≤ Int.tdiv y r := fun {x y} hx hxy => by
    rw [Int.tdiv_eq_ediv_of_nonneg hx, Int.tdiv_eq_ediv_of_nonneg (by omega)]
    exact Int.ediv_le_ediv (by omega) hxy
  have n0 : ∀ {x : Int}, 0 ≤ x → 0 ≤ Int.tdiv x r := fun {x} hx => Int.tdiv_nonneg hx (by omega)
  have ng : ∀ x : Int, Int.tdiv (-x) r = - Int.tdiv x r := fun x => Int.neg_tdiv ..
  by_cases ha : 0 ≤ a
  · exact nn ha h
  · by_cases hb : 0 ≤ b
    · have h1 := n0 hb
      have h2 := n0 (x := -a) (by omega)
      rw [ng] at h2; omega
    · have h1 := nn (x := -b) (y := -a) (by omega) (by omega)
      rw [ng, ng] at h1; omega
theorem ofE_mono {r x y : Int} (hr : 1 ≤ r) (h : x ≤ y) : ofE r 0 x ≤ ofE r 0 y := by
  have := sat_mono h
  exact sat_mono (tdiv_mono (by show sat x * 64 ≤ sat y * 64; omega) hr)
theorem sqs_append (a b : List Int) : sqs (a ++ b) = sqs a ++ sqs b := by unfold sqs; rw [List.map_append]
theorem rootL_turn (xs : List Int) (k : Nat) : rootL (xs.drop k ++ xs.take k) = rootL xs := by
  have h1 : (sqs (xs.drop k ++ xs.take k)).sum = (sqs xs).sum := by
    have e : sqs xs = sqs (xs.take k) ++ sqs (xs.drop k) := by rw [← sqs_append, List.take_append_drop]
    rw [e, sqs_append, List.sum_append, List.sum_append, Int.add_comm]
  have h2 : (xs.drop k ++ xs.take k).length = xs.length := by simp; omega
  unfold rootL; rw [h1, h2]
theorem NormTurns_true (W : World) (o1 : Option Addr) (n1 c1 : Nat) (h1 : DatC Try.prog W t_S_int [.slice o1 n1 c1]) (o2 : Option Addr) (n2 c2 : Nat) (h2 : DatC Try.prog W t_S_int [.slice o2 n2 c2]) (turn : Int) (_ : (Lit.int .i64 turn).wf = true) :
    Calls Try.prog i_coadjutorlaw13_NormTurns #[.slice o1 n1 c1, .slice o2 n2 c2, .int .i64 turn] W (Ret fun v w' => v = .bool true ∧ Ch Non W w') := by
  obtain ⟨o1', c1', gs, hcs, hl1, hl2, hl3, ig, hg⟩ := h1.ints (e := t_int) (k := .i64) (by kernel_rfl) (by kernel_rfl)
  injection hcs with hcs
  injection hcs with e1 e2 e3
  subst e1; subst e2; subst e3
  obtain ⟨o2', c2', xs, hcs, hm1, hm2, hm3, ix, hx⟩ := h2.ints (e := t_int) (k := .i64) (by kernel_rfl) (by kernel_rfl)
  injection hcs with hcs
  injection hcs with e1 e2 e3
  subst e1; subst e2; subst e3
  refine coadjutorlaw13_NormTurns.calls _ _ _ _ _ _ _ ?_
  unfold coadjutorlaw13_NormTurns.vc
  refine step_call (awake_spec W) ?_
  rintro v w1 ⟨rfl, hc1⟩
  refine ⟨_, rfl, iteF rfl ⟨fun _ => ⟨rfl, hc1⟩, fun hx40 => ⟨fun _ => ⟨rfl, hc1⟩, fun hgx => ⟨fun _ => ⟨rfl, hc1⟩, fun hx0 => fun w2 e2 => ?_⟩⟩⟩⟩
  have hx40 : xs.length ≤ 40 := by simp at hx40; omega
  have hgx : gs.length = xs.length := by simp at hgx; omega
  have hx0 : 0 < xs.length := by
    apply Nat.pos_of_ne_zero; intro he; rw [he] at hx0; simp at hx0
  have ho0 : Own w2 t_int 1 (some ⟨w1.heap.size, 0, none⟩) 0 0 (([] : List Int).map (.int .i64)) (New w1 w2) := Own.made e2 rfl (by decide) ⟨Nat.le_refl _, (Blk.new e2).lt⟩
  have hc2 : Ch Non w1 w2 := Ch.alloc e2
  refine ⟨fun o n c i k w' => ∃ j : Nat, i = j ∧ j ≤ xs.length ∧ k = xs.length - j ∧ n = j ∧ Own w' t_int 1 o n c (((xs.take j).map fun x => -x).map (.int .i64)) (New w1 w') ∧ Ch Non w1 w' ∧ ∀ x ∈ xs.take j, -32767 ≤ x ∧ x ≤ 32767, ⟨_, 0, rfl, Nat.zero_le _, rfl, rfl, ho0, hc2, by simp⟩, ?_⟩
  clear ho0 hc2 e2 w2
  rintro jk o n c i k w3 ⟨j, rfl, hj, rfl, rfl, ho, hc3, hin⟩
  have hW3 := hc1.andN hc3
  refine ⟨fun hlt => ?_, fun hge => ?_⟩
  · have hlt : n < xs.length := by simpa using hlt
    have rd : ∀ {K : Addr → Prop}, (∀ p : Addr, w3.cell? (p.add ((n : Int).toNat * 1)) = some (.int .i64 xs[n]) → K p) → someV o2 K := fun hk =>
      (hx.keepN hW3).at (j := (n : Int).toNat * 1) (v := .int .i64 xs[n]) (by simp [hlt]) hk
    refine ⟨⟨by omega, by omega⟩, rd fun p hp => ⟨_, hp, fun _ => ⟨rfl, hW3⟩, fun a1 => ⟨⟨by omega, by omega⟩, rd fun p2 hp2 => ⟨_, hp2, fun _ => ⟨rfl, hW3⟩, fun a2 => ⟨⟨by omega, by omega⟩, rd fun p3 hp3 => ⟨_, hp3, fun w4 e4 => ?_⟩⟩⟩⟩⟩⟩
    simp only [decide_eq_false_iff_not] at a1 a2
    rw [wrap_id (x := 0 - xs[n]) (by omega) (by omega)] at e4
    obtain ⟨o', c', w5, hr, ho5, hc5⟩ := Own.pushT el_S_int ho t_S_int _ e4 rfl (by unfold maxLen; omega) (by omega)
    have hsn : ((xs.take n).map fun x => -x) ++ [0 - xs[n]] = (xs.take (n + 1)).map fun x => -x := by rw [take_snoc xs n hlt, List.map_append]; simp only [List.map_cons, List.map_nil, Int.zero_sub]
    rw [hsn] at ho5
    refine ⟨o', n + 1, c', w5, hr, xs.length - (n + 1), by omega, n + 1, by rw [wrap_id (by omega) (by omega)]; rfl, hlt, rfl, rfl, ho5.mono (fun i _ hi => New.ext hi hc3.size hc5.size), Ch.newN hc3 hc5, ?_⟩
    intro x hx
    rw [take_snoc xs n hlt, List.mem_append] at hx
    rcases hx with hx | hx
    · exact hin x hx
    · simp at hx; subst hx; omega
  have : n = xs.length := by simp at hge; omega
  subst this
  rw [List.take_length] at ho hin
  have hnl : (xs.map fun x => -x).length = xs.length := by simp
  -- the three norms
  refine step_call (Of_spec (hg.keepN hW3) (hx.keepN hW3) (by omega)) ?_
  rintro v w4 ⟨oa, ca, rfl, ha, hc4⟩
  have ho := ho.keepN hc4
  have hW4 := hW3.andN hc4
  refine ⟨_, _, _, rfl, ?_⟩
  have sb := Of_spec (cx := c) (hg.keepN hW4) ho.rd (by omega) (cg := c1)
  rw [hnl] at sb
  refine step_call sb ?_
  rintro v w5 ⟨ob, cb, rfl, hb, hc5⟩
  have ho := ho.keepN hc5
  have ha := ha.keepN hc5
  have hW5 := hW4.andN hc5
  refine ⟨_, _, _, rfl, ?_⟩
  refine step_call (Plain_spec (hx.keepN hW5) (by omega)) ?_
  rintro v w6 ⟨op, cp, rfl, hp, hc6⟩
  have ho := ho.keepN hc6
  have ha := ha.keepN hc6
  have hb := hb.keepN hc6
  have hW6 := hW5.andN hc6
  rw [ofL_zero] at hp ⊢
  have la := ofL_len hgx
  have lb := ofL_len (gs := gs) (xs := xs.map fun x => -x) (by omega)
  rw [hnl] at lb
  have lp : (xs.map (ofE (rootL xs) 0)).length = xs.length := by simp
  refine ⟨_, _, _, rfl, iteF (by rw [la]; simp) (iteF (by rw [lb]; simp) (iteF (by rw [lp]; simp) ?_))⟩
  have hab : ∀ (j : Nat) (hj : j < xs.length), (ofL gs xs)[j]'(by omega) = - (ofL gs (xs.map fun x => -x))[j]'(by omega) := fun j hj => by
    rw [ofL_at hgx hj, ofL_at (by omega) (by omega), rootL_neg, List.getElem_map, ofE_neg, Int.neg_neg]
  have hbl : ∀ (j : Nat) (hj : j < xs.length), -32767 ≤ (ofL gs (xs.map fun x => -x))[j]'(by omega) ∧ (ofL gs (xs.map fun x => -x))[j]'(by omega) ≤ 32767 := fun j hj => by
    rw [ofL_at (by omega) (by omega)]; exact sat_le _
  have hmo : ∀ (i j : Nat) (hi : i < xs.length) (hj : j < xs.length), xs[i] > xs[j] → ¬ (xs.map (ofE (rootL xs) 0))[i]'(by omega) < (xs.map (ofE (rootL xs) 0))[j]'(by omega) := fun i j hi hj h => by
    rw [List.getElem_map, List.getElem_map]
    have := ofE_mono (r := rootL xs) (x := xs[j]) (y := xs[i]) (rootL_le (by omega)).1 (by omega)
    omega
  have hrt := rootL_neg xs
  have hob := ho.bound
  have rka : ∀ {w : World} (hw : Ch Non w6 w) {j : Nat} (hj : j < xs.length) {K : Addr → Prop}, (∀ p : Addr, (∀ w, Ch Non w6 w → w.cell? (p.add ((j : Int).toNat * 1)) = some (.int .i64 ((ofL gs xs)[j]'(by omega)))) → K p) → someV oa K := by
    intro w hw j hj K hk
    exact Rd.keeps (j := j) (S := fun w => Ch Non w6 w) (enc := .int .i64) (fun w h => (ha.keepN h).rd) hw (by omega) (fun p hp => hk p (by simpa using hp))
  have rkb : ∀ {w : World} (hw : Ch Non w6 w) {j : Nat} (hj : j < xs.length) {K : Addr → Prop}, (∀ p : Addr, (∀ w, Ch Non w6 w → w.cell? (p.add ((j : Int).toNat * 1)) = some (.int .i64 ((ofL gs (xs.map fun x => -x))[j]'(by omega)))) → K p) → someV ob K := by
    intro w hw j hj K hk
    exact Rd.keeps (j := j) (S := fun w => Ch Non w6 w) (enc := .int .i64) (fun w h => (hb.keepN h).rd) hw (by omega) (fun p hp => hk p (by simpa using hp))
  have rkp : ∀ {w : World} (hw : Ch Non w6 w) {j : Nat} (hj : j < xs.length) {K : Addr → Prop}, (∀ p : Addr, (∀ w, Ch Non w6 w → w.cell? (p.add ((j : Int).toNat * 1)) = some (.int .i64 ((xs.map (ofE (rootL xs) 0))[j]'(by omega)))) → K p) → someV op K := by
    intro w hw j hj K hk
    exact Rd.keeps (j := j) (S := fun w => Ch Non w6 w) (enc := .int .i64) (fun w h => (hp.keepN h).rd) hw (by omega) (fun p hp => hk p (by simpa using hp))
  have rkx : ∀ {w : World} (hw : Ch Non w6 w) {j : Nat} (hj : j < xs.length) {K : Addr → Prop}, (∀ p : Addr, (∀ w, Ch Non w6 w → w.cell? (p.add ((j : Int).toNat * 1)) = some (.int .i64 (xs[j]'(by omega)))) → K p) → someV o2 K := by
    intro w hw j hj K hk
    exact Rd.keeps (j := j) (S := fun w => Ch Non w6 w) (enc := .int .i64) (fun w h => hx.keepN (hW6.andN h)) hw (by omega) (fun p hp => hk p (by simpa using hp))
  refine ⟨fun i k w' => ∃ j : Nat, i = j ∧ j ≤ xs.length ∧ k = xs.length - j ∧ Ch Non w6 w', ⟨_, 0, rfl, Nat.zero_le _, rfl, Ch.refl _ _⟩, ?_⟩
  rintro jk i k w7 ⟨j, rfl, hj, rfl, hc7⟩
  refine ⟨fun hlt => ?_, fun hge => ?_⟩
  · have hlt : j < xs.length := by simpa using hlt
    refine ⟨fun w => Ch Non w6 w, fun w8 e8 => ⟨hc7.andN (Ch.drew e8), ⟨by omega, by omega⟩, rka hc7 hlt fun q hq => ⟨_, hq, ⟨by omega, by omega⟩, rkb hc7 hlt fun q2 hq2 => ⟨_, hq2, iteF ?_ ?_⟩⟩⟩⟩
    · have := hbl j hlt
      rw [wrap_id (by omega) (by omega), hab j hlt]; simp
    refine ⟨fun i k w' => ∃ m : Nat, i = m ∧ m ≤ xs.length ∧ k = xs.length - m ∧ Ch Non w6 w', ⟨_, 0, rfl, Nat.zero_le _, rfl, hc7.andN (Ch.drew e8)⟩, ?_⟩
    rintro jk i k w9 ⟨m, rfl, hm, rfl, hc9⟩
    refine ⟨fun hlm => ?_, fun hgm => ⟨xs.length - (j + 1), by omega, j + 1, by rw [wrap_id (by omega) (by omega)]; rfl, hlt, rfl, hc9⟩⟩
    have hlm : m < xs.length := by simpa using hlm
    have next : ∀ w10 : World, Ch Non w6 w10 → ∃ vk_7 : Nat, vk_7 < xs.length - m ∧ ∃ m' : Nat, IntKind.i64.wrap ((m : Int) + 1) = m' ∧ m' ≤ xs.length ∧ vk_7 = xs.length - m' ∧ Ch Non w6 w10 := fun w10 h =>
      ⟨xs.length - (m + 1), by omega, m + 1, by rw [wrap_id (by omega) (by omega)]; rfl, hlm, rfl, h⟩
    refine ⟨fun w => Ch Non w6 w, fun w10 e10 => ⟨hc9.andN (Ch.drew e10), ⟨by omega, by omega⟩, rkx hc9 hlt fun q hq => ⟨_, hq, ⟨by omega, by omega⟩, rkx hc9 hlm fun q2 hq2 => ⟨_, hq2, fun hgt => ?_, fun _ => next _ (hc9.andN (Ch.drew e10))⟩⟩⟩⟩
    have hgt : xs[j] > xs[m] := by simpa using hgt
    exact ⟨⟨by omega, by omega⟩, rkp hc9 hlt fun q3 hq3 => ⟨_, hq3, ⟨by omega, by omega⟩, rkp hc9 hlm fun q4 hq4 => ⟨_, hq4, iteF (decide_eq_false (hmo j m hlt hlm hgt)) (next _ (hc9.andN (Ch.drew e10)))⟩⟩⟩
  · have hun : IntKind.u64.wrap (xs.length : Int) = (xs.length : Int) := by rw [wrap_u64]; omega
    rw [hun]
    have h0 : 0 ≤ IntKind.u64.wrap turn := by rw [wrap_u64]; omega
    have hk1 : 0 ≤ IntKind.u64.wrap turn % (xs.length : Int) := Int.emod_nonneg _ (by omega)
    have hk2 : IntKind.u64.wrap turn % (xs.length : Int) < (xs.length : Int) := Int.emod_lt_of_pos _ (by omega)
    rw [tmod_pos h0, wrap_id (x := IntKind.u64.wrap turn % (xs.length : Int)) (by omega) (by omega)]
    obtain ⟨k, hk⟩ : ∃ k : Nat, IntKind.u64.wrap turn % (xs.length : Int) = k := ⟨_, (Int.toNat_of_nonneg hk1).symm⟩
    rw [hk] at hk2 ⊢
    have hk2 : k < xs.length := by omega
    rw [Int.toNat_natCast, Nat.sub_zero]
    refine ⟨by omega, fun w => Ch Non w6 w, fun w8 e8 => ⟨hc7.andN (Ch.drew e8), ⟨by omega, by omega⟩, ⟨by omega, by omega⟩, fun w9 e9 => ?_⟩⟩
    have hc8 := hc7.andN (Ch.drew (F := Non) e8)
    have hc9 : Ch Non w6 w9 := hc8.andN (Ch.alloc e9)
    have hn : Own w9 t_int 1 (some ⟨w8.heap.size, 0, none⟩) 0 0 (([] : List Int).map (.int .i64)) (New w6 w9) := Own.made e9 rfl (by decide) ⟨hc8.size, (Blk.new e9).lt⟩
    refine ⟨hc9, ?_⟩
    have one : ∀ u ∈ (xs.map (Value.int .i64)), u.oneCell' = true := by intro u hu; obtain ⟨x, _, rfl⟩ := List.mem_map.1 hu; rfl
    have s1 := (hx.keepN (hW6.andN hc9)).slice (sz := 1) (c := c2) (by simp; omega) k (xs.length - k)
    have t1 : ((xs.map (Value.int .i64)).drop (k * 1)).take ((xs.length - k) * 1) = ((xs.drop k).map (.int .i64)) := by rw [Nat.mul_one, Nat.mul_one, ← List.map_drop, List.take_of_length_le (by simp)]
    rw [t1] at s1
    obtain ⟨o10, c10, w10, hr10, h10, hc10⟩ := hn.appendRd el_S_int t_S_int (c2 := c2 - k) s1 (m := xs.length - k) (by simp) (by intro u hu; obtain ⟨x, _, rfl⟩ := List.mem_map.1 hu; rfl) (by unfold maxLen; omega) (by omega)
    rw [Nat.zero_add] at hr10 h10
    have hc910 := hc10
    have hc10 := Ch.newN hc9 hc910
    refine ⟨o10, _, c10, w10, hr10, hc10, ?_⟩
    have h10 := h10.mono (G := New w6 w10) (fun i _ hi => New.ext hi hc9.size hc910.size)
    have s2 := (hx.keepN (hW6.andN hc10)).slice (sz := 1) (c := c2) (by simp; omega) 0 k
    have t2 : ((xs.map (Value.int .i64)).drop (0 * 1)).take (k * 1) = ((xs.take k).map (.int .i64)) := by rw [Nat.zero_mul, List.drop_zero, Nat.mul_one, List.map_take]
    rw [t2] at s2
    obtain ⟨o11, c11, w11, hr11, h11, hc11⟩ := h10.appendRd el_S_int t_S_int (c2 := c2 - 0) s2 (m := k) (by simp; omega) (by intro u hu; obtain ⟨x, _, rfl⟩ := List.mem_map.1 hu; rfl) (by unfold maxLen; omega) (by omega)
    have hc11 := Ch.newN hc10 hc11
    refine ⟨o11, _, c11, w11, hr11, hc11, ?_⟩
    have he : ([] : List Int).map (Value.int .i64) ++ (xs.drop k).map (Value.int .i64) ++ (xs.take k).map (.int .i64) = ((xs.drop k ++ xs.take k).map (.int .i64)) := by simp
    have hll : xs.length - k + k = (xs.drop k ++ xs.take k).length := by simp; omega
    rw [he] at h11
    have ho11 := ho.keepN hc11
    have sr := Root_spec (cx := c11) h11.rd (by simp; omega)
    rw [← hll] at sr
    refine step_call sr ?_
    rintro v w12 ⟨rfl, hc12⟩
    have ho12 := ho11.keepN hc12
    have hc12 := hc11.andN hc12
    refine ⟨_, rfl, hc12, ?_⟩
    refine step_call (Root_spec (hx.keepN (hW6.andN hc12)) (by omega)) ?_
    rintro v w13 ⟨rfl, hc13⟩
    have ho13 := ho12.keepN hc13
    have hc13 := hc12.andN hc13
    refine ⟨_, rfl, hc13, iteT (by rw [rootL_turn]; simp) ?_⟩
    have sr := Root_spec (cx := c) ho13.rd (by omega)
    rw [hnl, hrt] at sr
    refine step_call sr ?_
    rintro v w14 ⟨rfl, hc14⟩
    have hc14 := hc13.andN hc14
    refine ⟨_, rfl, hc14, ?_⟩
    refine step_call (Root_spec (hx.keepN (hW6.andN hc14)) (by omega)) ?_
    rintro v w15 ⟨rfl, hc15⟩
    have hc15 := hc14.andN hc15
    exact ⟨_, rfl, hc15, by simp, hW6.andN hc15⟩
end Go.Proofs.Ytddgcdlljkooiaa.Norm
