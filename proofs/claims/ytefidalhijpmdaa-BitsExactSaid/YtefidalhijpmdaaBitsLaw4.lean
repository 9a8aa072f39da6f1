/- BitsExact's contract: of every number and row of deeds the Go function answers true and leaves what was there; the conditions stand in each theorem. -/
import Derived.Test.YtefidalhijpmdaaBits4
import Derived.Test.YtefidalhijpmdaaDat
import Derived.Test.YtefidalhijpmdaaVcBits3
set_option linter.unusedVariables false
namespace Go.Proofs.Ytefidalhijpmdaa.Bits
open Go Go.Proofs Go.Proofs.Ytefidalhijpmdaa.V Go.Proofs.Ytefidalhijpmdaa.Vc Go.RowKit

structure ActD where
  kind : Int
  o : Option Addr
  c : Nat
  xs : List Int
def actEnc (y : ActD) : List Value := [.int .i64 y.kind, .slice y.o y.xs.length y.c]
theorem act_dat {w : World} {x : List Value} (hl : x.length = Try.prog.cellsOf t_coadjutorlaw08_Act) (h : DatC Try.prog w t_coadjutorlaw08_Act x) : ∃ y : ActD, x = actEnc y ∧ Rd w y.o (y.xs.map (.int .i64)) (fun i => i < w.heap.size) := by
  obtain ⟨_, hf⟩ := h.struct Try.underlying41
  have h2 : Try.prog.cellsOf t_coadjutorlaw08_Act = 2 := by kernel_rfl
  rw [h2] at hl
  match x, hl with
  | [a, b], _ =>
    have h0 : DatC Try.prog w 3 [a] := hf 0 _ rfl
    have h1 : DatC Try.prog w 29 [b] := hf 1 _ rfl
    obtain ⟨n, e0, _⟩ := h0.int (k := .i64) (by kernel_rfl)
    obtain ⟨o, c, xs, e1, _, _, _, _, hr⟩ := h1.ints (e := t_int) (k := .i64) (by kernel_rfl) (by kernel_rfl)
    injection e0 with e0 _
    injection e1 with e1 _
    subst e0; subst e1
    exact ⟨⟨n, o, c, xs⟩, rfl, hr.mono (fun i hi _ => hi)⟩
theorem hasL_in {l : List Bool} {K : Nat} (hl : l.length = K) (xs : List Int) : hasL l xs = (inAll K xs && xs.all fun x => l.getD x.toNat false) := by
  subst hl
  unfold hasL inAll
  induction xs with
  | nil => rfl
  | cons x r ih =>
    simp only [List.all_cons]
    rw [ih]
    unfold hasOne
    generalize (r.all fun x => decide (0 ≤ x) && decide (x < ↑l.length)) = A
    generalize (r.all fun x => l.getD x.toNat false) = B
    generalize decide (0 ≤ x) = a
    generalize decide (x < ↑l.length) = b
    generalize l.getD x.toNat false = c
    cases A <;> cases B <;> cases a <;> cases b <;> cases c <;> rfl
theorem rowTo_pre {l : List Bool} {m : Nat} : ∀ {n : Nat}, m ≤ n → n ≤ l.length → ∃ r, rowTo l n = rowTo l m ++ r := by
  intro n
  induction n with
  | zero => intro h1 _; obtain rfl : m = 0 := by omega
            exact ⟨[], by simp⟩
  | succ n ih =>
    intro h1 h2
    by_cases he : m = n + 1
    · subst he; exact ⟨[], by simp⟩
    · obtain ⟨r, hr⟩ := ih (by omega) (by omega)
      rw [rowTo_succ l n (by omega), hr]
      exact ⟨_, List.append_assoc _ _ _⟩
theorem rowL_at {l : List Bool} {m : Nat} (h : m < l.length) (ht : l[m] = true) : (rowTo l m).length < (rowL l).length ∧ (rowL l)[(rowTo l m).length]? = some (m : Int) := by
  obtain ⟨r, hr⟩ := rowTo_pre (l := l) (m := m + 1) (n := l.length) h (Nat.le_refl _)
  unfold rowL
  rw [hr, rowTo_succ l m h, ht]
  simp
theorem BitsExact_true (W : World) (n : Int) (_ : (Lit.int .i64 n).wf = true) (o2 : Option Addr) (n2 c2 : Nat) (h2 : DatC Try.prog W t_S_coadjutorlaw08_Act [.slice o2 n2 c2]) :
    Calls Try.prog i_coadjutorlaw08_BitsExact #[.int .i64 n, .slice o2 n2 c2] W (Ret fun v w' => v = .bool true ∧ Ch Non W w') := by
  obtain ⟨o2', c2', ys, hcs, hm1, hm2, hm3, hQ, hx⟩ := h2.sliceOf (e := t_coadjutorlaw08_Act) (enc := actEnc) (by kernel_rfl) (fun x hl hd => act_dat hl hd)
  injection hcs with hcs
  injection hcs with e1 e2 e3
  subst e1; subst e2; subst e3
  refine coadjutorlaw08_BitsExact.calls _ _ _ _ ?_
  unfold coadjutorlaw08_BitsExact.vc
  refine step_call (awake_spec W) ?_
  rintro v w1 ⟨rfl, hc1⟩
  refine ⟨_, rfl, iteF rfl ?_⟩
  by_cases hbad : n < 1 ∨ n > 1024
  · refine step_call (New_bad w1 hbad) ?_
    rintro v w2 ⟨rfl, rfl⟩
    refine ⟨_, rfl, fun _ => ⟨rfl, hc1⟩, fun _ => ⟨fun _ => ⟨rfl, hc1⟩, fun h => ?_⟩⟩
    rename_i h0
    simp at h h0
    omega
  have hn1 : 1 ≤ n := by omega
  have hn2 : n ≤ 1024 := by omega
  clear hbad
  obtain ⟨K, rfl⟩ : ∃ K : Nat, n = K := ⟨n.toNat, by omega⟩
  refine step_call (New_ok w1 hn1 hn2) ?_
  rintro v w2 ⟨b, rfl, hS2, hc2⟩
  have hF2 : Foot W w2 (New w1 w2) := Foot.new hc1
  generalize New w1 w2 = F at hS2 hF2
  have hC2 := hc1.andN hc2
  refine ⟨_, rfl, iteF (decide_eq_false (by omega)) (iteF (decide_eq_false (by omega)) ⟨⟨rfl, by omega, by omega⟩, fun w3 e3 => ?_⟩)⟩
  rw [zeroRow_one, Int.toNat_natCast] at e3
  rw [Int.toNat_natCast K]
  have hU3 := Blk.new e3
  have hu : ¬ F w2.heap.size := fun h => absurd (hF2 _ h).2 (Nat.lt_irrefl _)
  have hW : W.heap.size ≤ w2.heap.size := hC2.size
  generalize w2.heap.size = ub at hU3 hu hW ⊢
  have hS3 := hS2.keepN (Ch.alloc e3)
  have hF3 := hF2.le (Ch.alloc (F := Non) e3).size
  have hC3 := hC2.andN (Ch.alloc e3)
  rw [Int.toNat_natCast] at hS3
  have hU3 : Blk w3 ub ((List.replicate K false).map .bool) t_bool := by simpa using hU3
  clear hS2 hF2 hC2 hc2
  refine ⟨fun w => ∃ l : List Bool, l.length = K ∧ SetR w b l F ∧ Foot W w F ∧ Blk w ub (l.map .bool) t_bool ∧ Ch Non W w, ⟨fun i k w => ∃ (j : Nat) (l : List Bool), i = j ∧ j ≤ ys.length ∧ j ≤ 40 ∧ k = ys.length - j ∧ l.length = K ∧ SetR w b l F ∧ Foot W w F ∧ Blk w ub (l.map .bool) t_bool ∧ Ch Non W w, ⟨_, 0, _, rfl, Nat.zero_le _, Nat.zero_le _, rfl, by simp, hS3, hF3, hU3, hC3⟩, ?_⟩, ?_⟩
  · clear hS3 hF3 hU3 hC3
    rintro jk i k w4 ⟨j, l, rfl, hj, hj40, rfl, hl, hS, hF, hU, hC⟩
    refine ⟨fun hlt => ⟨fun hlt40 => ?_, fun _ => ⟨l, hl, hS, hF, hU, hC⟩⟩, fun _ => ⟨l, hl, hS, hF, hU, hC⟩⟩
    have hlt : j < ys.length := by simpa using hlt
    have hlt40 : j < 40 := by simp at hlt40; omega
    obtain ⟨p, rfl, _, _, hcell⟩ := (hx.keepN hC).elem (sz := 2) (fun y => rfl) (by omega) hlt
    have hQj := hQ _ (List.getElem_mem hlt)
    generalize ys[j] = y at hcell hQj
    obtain ⟨kind, oa, ca, xs⟩ := y
    have hc0 := hcell 0 _ rfl
    have hcl := hcell 1 _ rfl
    rw [add_add] at hc0
    refine ⟨⟨by omega, by omega⟩, kind, oa, xs.length, ca, ⟨by rw [Int.toNat_natCast]; exact hc0, by rw [Int.toNat_natCast]; exact hcl⟩, fun w5 e5 => ?_⟩
    have hB5 := Blk.new e5
    have hxb : w4.heap.size < w5.heap.size := hB5.lt
    refine ⟨⟨hB5.ok 0 rfl, hB5.ok 1 rfl⟩, fun w6 e6 => ?_⟩
    have hB6 := (hB5.set rfl).set e6
    have hB6 : Blk w6 w4.heap.size [.int .i64 kind, .slice oa xs.length ca] 41 := hB6
    have hc46 : Ch Non w4 w6 := by
      have h1 : Ch Non w4 w5 := Ch.alloc e5
      have h2 : Ch (· = w4.heap.size) w5 w6 := (Ch.set (F := (· = w4.heap.size)) rfl rfl).same (Ch.set e6 rfl)
      exact h1.trans h2 (fun i hi he => by omega)
    have hub := hU.lt
    have hS := hS.keepN hc46
    have hU := hU.keepN hc46
    have hC := hC.andN hc46
    have hxF : ¬ F w4.heap.size := fun h => absurd (hF _ h).2 (Nat.lt_irrefl _)
    have hF := hF.le hc46.size
    have hxu : w4.heap.size ≠ ub := by
      omega
    generalize w4.heap.size = xb at hB6 hxF hxu ⊢
    refine ⟨_, _, _, hB6.cell 1 rfl, fun _ => ⟨rfl, hC⟩, fun h10 => ?_⟩
    have h10 : xs.length ≤ 10 := by simp at h10; omega
    have hQj : Rd W oa (xs.map (.int .i64)) (fun i => i < W.heap.size) := hQj
    have hR6 := hQj.keepN hC
    have hdis : ∀ i, i < W.heap.size → ¬ F i := fun i hi hFi => absurd hi (Nat.not_lt.2 (hF i hFi).1)
    have hR6 : Rd w6 oa (xs.map (.int .i64)) (fun i => i < W.heap.size) := hR6
    generalize hl' : (if inAll K xs then putL (kind != 3) l xs else l) = l'
    have hll : l'.length = K := by
      subst hl'; split
      · rw [putL_len]; exact hl
      · exact hl
    refine ⟨fun e w => e = (if inAll K xs then 0 else 3) ∧ SetR w b l' F ∧ Ch F w6 w, ⟨kind, hB6.cell 0 rfl, fun h3 => ⟨_, _, _, hB6.cell 1 rfl, ?_⟩, fun h3 => ⟨_, _, _, hB6.cell 1 rfl, ?_⟩⟩, ?_⟩
    · have sp := Drop_spec (c := ca) hS hR6 hdis (by omega)
      have hk : (kind != 3) = false := by simpa using h3
      rw [hk] at hl'
      rw [hl, hl'] at sp
      refine step_call sp ?_
      rintro v w7 ⟨rfl, q1, q2⟩
      exact ⟨_, rfl, rfl, q1, q2⟩
    · have sp := Add_spec (c := ca) hS hR6 hdis (by omega)
      have hk : (kind != 3) = true := by simpa using h3
      rw [hk] at hl'
      rw [hl, hl'] at sp
      refine step_call sp ?_
      rintro v w7 ⟨rfl, q1, q2⟩
      exact ⟨_, rfl, rfl, q1, q2⟩
    rintro jk e w9 ⟨rfl, hS9, hc9⟩
    have hB9 := hB6.keep hc9 hxF
    have hU9 := hU.keep hc9 hu
    have hC9 := hF.hi hC hc9
    have hF9 := hF.le hc9.size
    have hR9 := hQj.keepN hC9
    clear hS hU hC hF hB6 hR6 hc9
    refine ⟨_, _, _, hB9.cell 1 rfl, ?_⟩
    refine step_call (In_spec (c := ca) hR9 (by omega) K) ?_
    rintro v w10 ⟨rfl, rfl⟩
    refine ⟨_, rfl, fun w => w = w10, ?_, ?_⟩
    · cases inAll K xs
      · exact iteF rfl (iteT rfl (iteF rfl rfl))
      · exact iteF rfl (iteF rfl rfl)
    rintro jk w11 rfl
    refine ⟨fun w => Blk w ub (l'.map .bool) t_bool ∧ Ch (· = ub) w11 w, ⟨fun i k w => ∃ m : Nat, i = m ∧ m ≤ xs.length ∧ k = xs.length - m ∧ Blk w ub ((if inAll K xs then putL (kind != 3) l (xs.take m) else l).map .bool) t_bool ∧ Ch (· = ub) w11 w, ⟨_, 0, rfl, Nat.zero_le _, rfl, ?_, Ch.refl _ _⟩, ?_⟩, ?_⟩
    · have : (if inAll K xs then putL (kind != 3) l (xs.take 0) else l) = l := by split <;> rfl
      rw [this]; exact hU9
    · rintro jk i k w12 ⟨m, rfl, hm, rfl, hU, hc⟩
      have hB := hB9.keep hc hxu
      refine ⟨_, _, _, hB.cell 1 rfl, fun hlt => ⟨fun hall => ?_, fun hall => ?_⟩, fun hge => ?_⟩
      · have hlt : m < xs.length := by simpa using hlt
        have hin : 0 ≤ xs[m] ∧ xs[m] < K := by
          have := (List.all_eq_true.1 hall) _ (List.getElem_mem hlt)
          simpa using this
        rw [hall, if_pos rfl] at hU
        have hcW : ∀ {w}, Ch (· = ub) w11 w → Ch Non W w := fun h => hC9.trans h (fun i hi he => by omega)
        refine ⟨fun w => Ch (· = ub) w11 w, fun w13 e13 => ⟨hc.same (Ch.drew e13), _, _, _, fun w14 h14 => (hB9.keep h14 hxu).cell 1 rfl, ⟨by omega, by omega⟩, ?_⟩⟩
        refine Rd.keeps (S := fun w => Ch (· = ub) w11 w) (fun w h => hQj.keepN (hcW h)) (hc.same (Ch.drew e13)) (j := m) hlt fun p hp => ⟨xs[m], fun w h => by rw [toNat_mul_one]; exact hp w h, kind, fun w16 h16 => (hB9.keep h16 hxu).cell 0 rfl, ⟨hin.1, hin.2⟩, ?_⟩
        have hpl : (putL (kind != 3) l (xs.take m)).length = K := by rw [putL_len]; exact hl
        rw [add_at, show 0 + xs[m].toNat * 1 = xs[m].toNat by omega]
        refine ⟨(hU.drew e13).ok _ (v := .bool (putL (kind != 3) l (xs.take m))[xs[m].toNat]) (by rw [List.getElem?_map, List.getElem?_eq_getElem (by omega)]; rfl), fun w17 e17 => ?_⟩
        have hch := (hc.same (Ch.drew e13)).same (Ch.set e17 rfl)
        have hU17 := (hU.drew e13).set e17
        rw [← List.map_set, ← putL_snoc, ← take_snoc xs m hlt] at hU17
        refine ⟨hch, xs.length - (m + 1), by omega, m + 1, by rw [wrap_id (by omega) (by omega)]; rfl, hlt, rfl, ?_, hch⟩
        rw [hall, if_pos rfl]; exact hU17
      · rw [hall] at hU hl'
        rw [← hl']
        exact ⟨hU, hc⟩
      · have : m = xs.length := by simp at hge; omega
        subst this
        rw [List.take_length, hl'] at hU
        exact ⟨hU, hc⟩
    rintro jk w18 ⟨hU18, hc18⟩
    have hB18 := hB9.keep hc18 hxu
    have hS18 := hS9.keep hc18 (fun i _ hFi he => hu (he ▸ hFi))
    have hC18 : Ch Non W w18 := hC9.trans hc18 (fun i hi he => by omega)
    have hF18 := hF9.le hc18.size
    have hR18 := hQj.keepN hC18
    refine ⟨fun all w => all = hasL l' xs ∧ w = w18, ⟨fun all i k w => w = w18 ∧ ∃ m : Nat, i = m ∧ m ≤ xs.length ∧ k = xs.length - m ∧ all = (inAll K xs && (xs.take m).all fun x => l'.getD x.toNat false), ⟨_, rfl, 0, rfl, Nat.zero_le _, rfl, by simp⟩, ?_⟩, ?_⟩
    · rintro jk all i k w ⟨rfl, m, rfl, hm, rfl, rfl⟩
      rw [hasL_in hll]
      refine ⟨_, _, _, hB18.cell 1 rfl, fun hlt => ⟨fun hall => ?_, fun hall => ?_⟩, fun hge => ?_⟩
      · have hlt : m < xs.length := by simpa using hlt
        have hin : 0 ≤ xs[m] ∧ xs[m] < K := by
          have := (List.all_eq_true.1 hall) _ (List.getElem_mem hlt)
          simpa using this
        have hsn : (xs.take (m + 1)).all (fun x => l'.getD x.toNat false) = ((xs.take m).all (fun x => l'.getD x.toNat false) && l'.getD xs[m].toNat false) := by
          rw [take_snoc xs m hlt, List.all_append]; simp
        rw [hall, Bool.true_and]
        have hw : IntKind.i64.wrap ((m : Int) + 1) = ((m + 1 : Nat) : Int) := by rw [wrap_id (by omega) (by omega)]; rfl
        refine ⟨fun ha => ⟨_, _, _, hB18.cell 1 rfl, ⟨by omega, by omega⟩, hR18.at (j := ((m : Nat) : Int).toNat * 1) (v := .int .i64 xs[m]) (by simp [hlt]) fun p hp => ⟨_, hp, ⟨hin.1, hin.2⟩, l'.getD xs[m].toNat false, ?_, xs.length - (m + 1), by omega, rfl, m + 1, hw, hlt, rfl, ?_⟩⟩, fun ha => ⟨xs.length - (m + 1), by omega, rfl, m + 1, hw, hlt, rfl, ?_⟩⟩
        · rw [add_at]
          refine hU18.cell _ ?_
          rw [List.getElem?_map, show 0 + xs[m].toNat * 1 = xs[m].toNat by omega, List.getElem?_eq_getElem (by omega), getD_at (by omega)]; rfl
        · rw [hsn, ha]; rfl
        · rw [hsn, ha]; rfl
      · rw [hall]; exact ⟨rfl, rfl⟩
      · have : m = xs.length := by simp at hge; omega
        subst this
        rw [List.take_length]
        exact ⟨rfl, rfl⟩
    rintro jk all w20 ⟨rfl, rfl⟩
    refine ⟨_, _, _, hB18.cell 1 rfl, ?_⟩
    refine step_call (Has_spec (c := ca) hS18 hR18 (by omega)) ?_
    rintro v w21 ⟨rfl, hc21⟩
    refine ⟨_, rfl, iteF (by simp) ?_⟩
    exact ⟨ys.length - (j + 1), by omega, j + 1, l', by rw [wrap_id (by omega) (by omega)]; rfl, hlt, hlt40, rfl, hll, hS18.keepN hc21, hF18.le hc21.size, hU18.keepN hc21, hC18.andN hc21⟩
  clear hS3 hF3 hU3 hC3 e3 hx hQ hm1 hm2 hm3 h2
  rintro jk w22 ⟨l, hl, hS, hF, hU, hC⟩
  refine step_call (Row_spec hS) ?_
  rintro v w23 ⟨o8, c8, rfl, ho, hc23⟩
  have hS := hS.keepN hc23
  have hU := hU.keepN hc23
  have hC := hC.andN hc23
  have hK : K ≤ 1024 := by omega
  refine ⟨_, _, _, rfl, fun first i m w => w = w23 ∧ i = (m : Int) - 1 ∧ m ≤ K ∧ ((first = -1 ∧ ∀ q, m ≤ q → q < l.length → l.getD q true = true) ∨ ∃ f : Nat, first = f ∧ m ≤ f ∧ f < l.length ∧ l.getD f true = false ∧ ∀ q, m ≤ q → q < f → l.getD q true = true), ⟨K, rfl, by rw [wrap_id (by omega) (by omega)], Nat.le_refl _, .inl ⟨rfl, fun q h1 h2 => by omega⟩⟩, ?_⟩
  rintro jk first i m w24 ⟨rfl, rfl, hm, hfirst⟩
  refine ⟨fun hge => ?_, fun hlt => ?_⟩
  · obtain ⟨m, rfl⟩ : ∃ m', m = m' + 1 := ⟨m - 1, by simp at hge; omega⟩
    have hlt : m < l.length := by omega
    have hi : ((m + 1 : Nat) : Int) - 1 = (m : Int) := by omega
    rw [hi]
    have hw : IntKind.i64.wrap ((m : Int) - 1) = ((m : Nat) : Int) - 1 := wrap_id (by omega) (by omega)
    refine ⟨⟨by omega, by omega⟩, l[m], ?_, fun hf => ⟨m, by omega, rfl, hw, by omega, .inr ⟨m, rfl, Nat.le_refl _, hlt, ?_, fun q h1 h2 => by omega⟩⟩, fun hf => ⟨m, by omega, rfl, hw, by omega, ?_⟩⟩
    · rw [add_at]
      refine hU.cell _ ?_
      rw [List.getElem?_map, show 0 + ((m : Nat) : Int).toNat * 1 = m by omega, List.getElem?_eq_getElem hlt]; rfl
    · rw [List.getD_eq_getElem?_getD, List.getElem?_eq_getElem hlt]; simpa using hf
    · have hmt : l.getD m true = true := by rw [List.getD_eq_getElem?_getD, List.getElem?_eq_getElem hlt]; simpa using hf
      rcases hfirst with ⟨rfl, h⟩ | ⟨f, rfl, h1, h2, h3, h4⟩
      · refine .inl ⟨rfl, fun q h1 h2 => ?_⟩
        by_cases hq : q = m
        · subst hq; exact hmt
        · exact h q (by omega) h2
      · refine .inr ⟨f, rfl, by omega, h2, h3, fun q h5 h6 => ?_⟩
        by_cases hq : q = m
        · subst hq; exact hmt
        · exact h4 q (by omega) h6
  have hm0 : m = 0 := by simp at hlt; omega
  subst hm0
  have hfr : FirstR l first := by
    rcases hfirst with ⟨rfl, h⟩ | ⟨f, rfl, h1, h2, h3, h4⟩
    · exact .inl ⟨rfl, fun q h2 => h q (Nat.zero_le _) h2⟩
    · exact .inr ⟨f, rfl, h2, h3, fun q h5 => h4 q (Nat.zero_le _) h5⟩
  clear hfirst
  refine ⟨fun count i k w => w = w24 ∧ ∃ m : Nat, i = m ∧ m ≤ K ∧ k = K - m ∧ count = (rowTo l m).length, ⟨_, rfl, 0, rfl, Nat.zero_le _, rfl, by rfl⟩, ?_⟩
  rintro jk count i k w25 ⟨rfl, m, rfl, hm, rfl, rfl⟩
  refine ⟨fun hlt => ?_, fun hge => ?_⟩
  · have hlt : m < l.length := by simp at hlt; omega
    have hw : IntKind.i64.wrap ((m : Int) + 1) = ((m + 1 : Nat) : Int) := by rw [wrap_id (by omega) (by omega)]; rfl
    have hcl := rowTo_len l m
    have hs := rowTo_succ l m hlt
    refine ⟨⟨by omega, by omega⟩, l[m], ?_, fun ht => ?_, fun hf => ⟨K - (m + 1), by omega, rfl, m + 1, hw, by omega, rfl, ?_⟩⟩
    · rw [add_at]
      refine hU.cell _ ?_
      rw [List.getElem?_map, show 0 + ((m : Nat) : Int).toNat * 1 = m by omega, List.getElem?_eq_getElem hlt]; rfl
    · obtain ⟨r1, r2⟩ := rowL_at hlt ht
      refine iteF (decide_eq_false (by omega)) ⟨⟨by omega, by omega⟩, ho.rd.at (j := ((rowTo l m).length : Int).toNat * 1) (v := .int .i64 m) (by simp [r2]) fun p hp => ⟨_, hp, iteF (by simp) ⟨K - (m + 1), by omega, rfl, m + 1, hw, by omega, rfl, ?_⟩⟩⟩
      rw [hs, ht, wrap_id (by omega) (by omega)]; simp
    · rw [hs, hf]; simp
  have hmK : m = l.length := by simp at hge; omega
  subst hmK
  refine iteT (by simp [rowL]) ?_
  subst hl
  refine step_call (Count_spec hS) ?_
  rintro v w26 ⟨rfl, hc26⟩
  have hS := hS.keepN hc26
  have hU := hU.keepN hc26
  have hC := hC.andN hc26
  refine ⟨_, rfl, iteT (by simp [rowL]) ?_⟩
  refine step_call (Len_spec hS) ?_
  rintro v w27 ⟨rfl, rfl⟩
  refine ⟨_, rfl, iteT (by simp) ?_⟩
  refine step_call (First_spec hS) ?_
  rintro v w28 ⟨f, rfl, hf, rfl⟩
  refine ⟨_, rfl, iteT (by rw [FirstR.uniq hf hfr]; simp) ?_⟩
  refine step_call (Text_spec hS) ?_
  rintro v w29 ⟨rfl, hc29⟩
  have hU := hU.keepN hc29
  have hC := hC.andN hc29
  refine ⟨_, rfl, ?_⟩
  have hrd : Rd w29 (some ⟨ub, 0, none⟩) (l.map .bool) (· = ub) := fun j v hj => ⟨_, rfl, rfl, hU.lt, by rw [add_at, Nat.zero_add]; exact hU.cell j hj⟩
  refine step_call (rText_spec (c := l.length) hrd (by omega)) ?_
  rintro v w30 ⟨rfl, hc30⟩
  have hC := hC.andN hc30
  refine ⟨_, rfl, iteT (by simp) fun w31 e31 => ?_⟩
  have hC := hC.andN (Ch.alloc e31)
  refine step_call (Add_nil w31 _ _ _) ?_
  rintro v w32 ⟨rfl, h⟩
  have hC := hC.andN h
  refine ⟨_, rfl, iteT rfl ?_⟩
  refine step_call (Drop_nil w32 _ _ _) ?_
  rintro v w33 ⟨rfl, h⟩
  have hC := hC.andN h
  refine ⟨_, rfl, iteT rfl ?_⟩
  refine step_call (Has_nil w33 _ _ _) ?_
  rintro v w34 ⟨rfl, h⟩
  have hC := hC.andN h
  refine ⟨_, rfl, iteT rfl ?_⟩
  refine step_call (Count_nil w34) ?_
  rintro v w35 ⟨rfl, rfl⟩
  refine ⟨_, rfl, ?_⟩
  refine step_call (Len_nil _) ?_
  rintro v w36 ⟨rfl, rfl⟩
  refine ⟨_, rfl, ?_⟩
  refine step_call (Row_nil _) ?_
  rintro v w37 ⟨rfl, rfl⟩
  refine ⟨_, _, _, rfl, iteT (by decide) ?_⟩
  refine step_call (First_nil _) ?_
  rintro v w38 ⟨rfl, rfl⟩
  refine ⟨_, rfl, iteT rfl ?_⟩
  refine step_call (Text_nil _) ?_
  rintro v w39 ⟨rfl, h⟩
  exact ⟨_, rfl, by simp, hC.andN h⟩
end Go.Proofs.Ytefidalhijpmdaa.Bits
