/- PrefixChain's contract: of every row of tokens and every number the Go function answers true and leaves what was there; the conditions stand in each theorem. -/
import Derived.Test.YtpcddfhfchempaaPrefixL2
set_option linter.unusedVariables false
set_option linter.unusedSimpArgs false
namespace Go.Proofs.Ytpcddfhfchempaa.Prefix
open Go Go.Proofs Go.Proofs.Ytpcddfhfchempaa.V Go.Proofs.Ytpcddfhfchempaa.Vc Go.Proofs.Ytpcddfhfchempaa.Step Go.Proofs.Ytpcddfhfchempaa.Pages Go.RowKit

theorem modL (x : Int) {n : Int} (h1 : 1 ≤ n) (h2 : n ≤ 1000000) : IntKind.u64.wrap (IntKind.i64.wrap n) ≠ 0 ∧ 0 ≤ IntKind.i64.wrap (Int.tmod (IntKind.u64.wrap x) (IntKind.u64.wrap (IntKind.i64.wrap n))) ∧ IntKind.i64.wrap (Int.tmod (IntKind.u64.wrap x) (IntKind.u64.wrap (IntKind.i64.wrap n))) < n := by
  have hn0 : IntKind.i64.wrap n = n := wrap_id (by omega) (by omega)
  have h0 : 0 ≤ IntKind.u64.wrap x := by rw [wrap_u64]; omega
  have hn : IntKind.u64.wrap n = n := by rw [wrap_u64]; omega
  rw [hn0, hn, tmod_pos h0]
  have h3 : 0 ≤ IntKind.u64.wrap x % n := Int.emod_nonneg _ (by omega)
  have h4 : IntKind.u64.wrap x % n < n := Int.emod_lt_of_pos _ (by omega)
  rw [wrap_id (x := IntKind.u64.wrap x % n) (by omega) (by omega)]
  omega
theorem tokRd {w : World} {o : Option Addr} {t : List Int} {G : Nat → Prop} (h : Rd w o (t.map (.int .i64)) G) {c : Nat} (hc : t.length ≤ c) (m : Nat) : Rd w (if c = 0 then o else o.map (·.add (0 * 1))) ((t.take m).map (.int .i64)) G := by
  have := h.slice (c := c) (sz := 1) (by simp; omega) 0 m
  simpa [List.map_take] using this
set_option maxRecDepth 100000 in
theorem PrefixChain_true (W : World) (o1 : Option Addr) (n1 c1 : Nat) (h1 : DatC Try.prog W t_S_int [.slice o1 n1 c1]) (n : Int) (_ : (Lit.int .i64 n).wf = true) :
    Calls Try.prog i_coadjutorlaw23_PrefixChain #[.slice o1 n1 c1, .int .i64 n] W (Ret fun v w' => v = .bool true ∧ Ch Non W w') := by
  obtain ⟨o1', c1', t, hcs1, hlc, hm1, _, _, ha⟩ := h1.ints (k := .i64) (e := t_int) (by kernel_rfl) (by kernel_rfl)
  injection hcs1 with hcs1
  injection hcs1 with q1 q2 q3
  subst q1; subst q2; subst q3
  refine coadjutorlaw23_PrefixChain.calls _ _ _ _ ?_
  unfold coadjutorlaw23_PrefixChain.vc
  refine step_call (awake_spec W) ?_
  rintro v w1 ⟨rfl, hC1⟩
  refine ⟨_, rfl, iteF rfl ⟨fun _ => ⟨rfl, hC1⟩, fun h20 => ?_⟩⟩
  have h20 : t.length ≤ 20 := by have := of_decide_eq_false h20; omega
  refine step_call (full_spec hC1 8 (by omega)) ?_
  rintro v w2 ⟨pb, ub, F, FU, rfl, hB⟩
  have hP := hB.p
  have hg := full_good 8
  clear hB
  refine ⟨_, _, rfl, ?_⟩
  refine step_call (New_spec hP hg) ?_
  rintro v w3 ⟨xb, rfl, hX, hc3⟩
  rw [← chP_zero] at hX
  have hX : PX W w3 pb xb 8 1 (chP 0) (chL t 0) F (New w2 w3) := hX
  generalize New w2 w3 = FI at hX
  clear hP hg hc3
  have hro : ∀ {w'}, Ch Non W w' → Rd w' o1 (t.map (.int .i64)) (fun i => i < W.heap.size) := fun hc => (ha.mono (fun i hi _ => hi)).keepN hc
  have hfar : ∀ {w' : World} {B : Int} {ps : List PageD} {es : List EntD} {FI : Nat → Prop}, PX W w' pb xb 8 B ps es F FI → ∀ i, i < w'.heap.size → i < W.heap.size → ¬ FI i := fun h i _ hi hf => by have := (h.f i hf).1; omega
  have h8 : ∀ k : Nat, k ≤ 4 → IntKind.i64.wrap (IntKind.i64.wrap (4 * (k : Int)) + 4) = ((4 * k + 4 : Nat) : Int) := fun k hk => by
    rw [wrap_id (x := 4 * (k : Int)) (by omega) (by omega), wrap_id (by omega) (by omega)]; omega
  refine ⟨_, rfl, fun kk w' => ∃ (k : Nat) (FI : Nat → Prop), kk = k ∧ k ≤ 4 ∧ 4 * k ≤ t.length ∧ (k < 4 → t.length < 4 * k + 4) ∧ PX W w' pb xb 8 (k + 1) (chP k) (chL t k) F FI,
    ⟨fun kk f w' => ∃ (k : Nat) (FI : Nat → Prop), kk = k ∧ k ≤ 4 ∧ f = 4 - k ∧ 4 * k ≤ t.length ∧ PX W w' pb xb 8 (k + 1) (chP k) (chL t k) F FI, ⟨_, 0, FI, rfl, by omega, rfl, by omega, by simpa using hX⟩, ?_⟩, ?_⟩
  · clear hX
    rintro jk kk f w4 ⟨k, FI, rfl, hk, rfl, hkl, hX⟩
    rw [h8 k hk]
    refine ⟨fun hle => ⟨fun hlt => ?_, fun hnl => ⟨k, FI, rfl, hk, hkl, fun h => by have := of_decide_eq_false hnl; omega, hX⟩⟩, fun hnle => ⟨k, FI, rfl, hk, hkl, fun _ => by have := of_decide_eq_false hnle; omega, hX⟩⟩
    have hle : 4 * k + 4 ≤ t.length := by have := of_decide_eq_true hle; omega
    have hlt : k < 4 := by have := of_decide_eq_true hlt; omega
    refine ⟨⟨by omega, by omega⟩, ?_⟩
    have hlen : ((4 * k + 4 : Nat) : Int).toNat - 0 = (t.take (4 * k + 4)).length := by rw [List.length_take]; omega
    rw [hlen, wrap_id (x := 2 * (k : Int)) (by omega) (by omega)]
    have he := ch_add hlt hle
    refine step_call (Add_spec hX (by omega) (by simp [chL]; omega) (tokRd (hro hX.p.c) hlc _) (by rw [List.length_take]; omega) _ 1 _) ?_
    rintro v w5 ⟨rfl, hX5, _⟩
    have hp : addP (chP k) (chL t k) (2 * (k : Int)) 1 (t.take (4 * k + 4)) = chP (k + 1) := by unfold addP; rw [he, if_pos rfl, chP_add hlt]
    have hx : addX (chP k) (chL t k) (2 * (k : Int)) 1 (t.take (4 * k + 4)) = chL t (k + 1) := by
      unfold addX; rw [he, if_pos rfl]; unfold chL; rw [List.range_succ, List.map_append]; rfl
    rw [hp, hx] at hX5
    rw [he]
    have hk1 : (k : Int) + 1 + 1 = ((k + 1 : Nat) : Int) + 1 := by omega
    rw [hk1] at hX5
    exact ⟨0, rfl, iteF rfl ⟨4 - (k + 1), by omega, k + 1, _, by rw [wrap_id (by omega) (by omega)]; rfl, hlt, rfl, hle, hX5⟩⟩
  clear hX
  rintro jk kk w6 ⟨k, FI, rfl, hk, hkl, hk4, hX⟩
  obtain ⟨m0, m1, m2⟩ := modL n (n := (t.length : Int) + 1) (by omega) (by omega)
  refine ⟨m0, ?_⟩
  generalize IntKind.i64.wrap (Int.tmod (IntKind.u64.wrap n) (IntKind.u64.wrap (IntKind.i64.wrap ((t.length : Int) + 1)))) = mm at m1 m2 ⊢
  obtain ⟨m, rfl⟩ := Int.eq_ofNat_of_zero_le m1
  have hm : m ≤ t.length := by omega
  refine ⟨⟨by omega, by omega⟩, ?_⟩
  have hlen : ((m : Nat) : Int).toNat - 0 = (t.take m).length := by rw [List.length_take]; omega
  rw [hlen]
  refine step_call (Find_spec hX (by omega) (by simp [chL]; omega) (tokRd (hro hX.p.c) hlc m) (hfar hX) (by rw [List.length_take]; omega) 1 (by rw [List.length_take]; omega)) ?_
  rintro v w7 ⟨FI7, FO, ⟨o7, c7, rfl, hr7⟩, hO7, hX7, _, hap7, _⟩
  have hfind := ch_find (t := t) (k := k) (m := m) hk hm (t.take m).length 0 (chL t k) [] (by rw [List.length_take]; omega) (fun e he => by
    obtain ⟨j, hj, rfl⟩ := List.mem_map.1 he
    exact ⟨j, by simpa using hj, rfl⟩) (fun j hj => List.mem_map.2 ⟨j, by simpa using hj, rfl⟩) hkl
  have hfr : findG 1 (t.take m) (t.take m).length (4 * 0 + 4) (chL t k) [] = findR (chL t k) 1 (t.take m) := rfl
  rw [hfr] at hfind
  obtain ⟨f2, f1⟩ := hfind
  have hel : (findR (chL t k) 1 (t.take m)).1.length = k := by
    have := (findG_len 1 (t.take m) (t.take m).length 4 (chL t k) []).1
    have e2 : (chL t k).length = k := by simp [chL]
    rw [e2] at this; exact this
  have hB7 : ((t.take m).length : Int) ≤ 20 := by rw [List.length_take]; omega
  generalize findR (chL t k) 1 (t.take m) = r at hr7 hX7 f1 f2 hel ⊢
  obtain ⟨es, out⟩ := r
  dsimp only at hr7 hX7 f1 f2 hel ⊢
  generalize (if allB (chP k) out = true then shareL (chP k) out else chP k) = ps at hX7
  rw [List.nil_append] at f2
  have hcnt : ∀ i, i < out.length ↔ 4 * i + 4 < m ∧ i < k := fun i => by
    rw [f2]; simp; omega
  have hget : out = (List.range out.length).map fun a : Nat => 2 * (a : Int) := by
    have : out.length = min k ((m - 1) / 4) - 0 := by rw [f2]; simp
    rw [this]; exact f2
  generalize hL : out.length = L at hcnt hget
  have hL20 : L ≤ 20 := by
    have h := (hcnt 20).1
    by_cases h2 : 20 < L
    · have := h h2; omega
    · omega
  refine ⟨_, _, _, rfl, fun w8 a8 => ?_⟩
  have hX8 := hX7.keepN (Ch.alloc a8)
  have hr8 := hr7.keepN (Ch.alloc a8)
  have hg8 : Gr Non w7 w8 t_int 1 (some ⟨w7.heap.size, 0, none⟩) 0 0 [] := Gr.made0 (Ch.refl _ _) a8
  clear a8 hr8
  refine ⟨fun wA wN wC w' => wN = L ∧ Gr Non w7 w' t_int 1 wA L wC (out.map (.int .i64)), ⟨fun wA wN wC i f w' => ∃ j : Nat, i = j ∧ wN = j ∧ j ≤ L ∧ f = L - j ∧ Gr Non w7 w' t_int 1 wA j wC (((List.range j).map fun a : Nat => 2 * (a : Int)).map (.int .i64)), ⟨_, 0, rfl, rfl, Nat.zero_le _, rfl, hg8⟩, ?_⟩, ?_⟩
  · rintro jk wA wN wC i f w9 ⟨j, rfl, rfl, hj, rfl, hg9⟩
    have hj5 : wN ≤ 4 := by
      have h := (hcnt (wN - 1)).1
      omega
    rw [h8 wN hj5]
    have hend : ¬ (4 * wN + 4 < m ∧ wN < k) → wN = L ∧ Gr Non w7 w9 t_int 1 wA L wC (out.map (.int .i64)) := fun h => by
      have := mt (hcnt wN).1 h
      have : wN = L := by omega
      subst this
      rw [hget]; exact ⟨rfl, hg9⟩
    refine ⟨fun hlt => ⟨fun hlk w10 a10 => ?_, fun hlk => hend (fun h => by have := of_decide_eq_false hlk; omega)⟩, fun hlt => hend (fun h => by have := of_decide_eq_false hlt; omega)⟩
    have hlt : 4 * wN + 4 < m := by have := of_decide_eq_true hlt; omega
    have hlk : wN < k := by have := of_decide_eq_true hlk; omega
    obtain ⟨o', c', w11, hr, hg11, _⟩ := hg9.push el_S_int t_S_int a10 rfl rfl (by omega) (by omega)
    have hjl := (hcnt wN).2 ⟨hlt, hlk⟩
    refine ⟨o', _, c', w11, hr, L - (wN + 1), by omega, wN + 1, by rw [wrap_id (by omega) (by omega)]; rfl, rfl, hjl, rfl, ?_⟩
    rw [List.range_succ, List.map_append, List.map_append]
    rw [wrap_id (by omega) (by omega)] at hg11
    exact hg11
  rintro jk wA wN wC w12 ⟨rfl, hg12⟩
  have hX12 := hX7.keepN hg12.2
  have hr12 := hr7.keepN hg12.2
  have hw12 := hg12.rd
  clear hg12 hg8 hX7 hX8 hr7
  have hol : out.length ≤ 20 := by omega
  subst hL
  refine step_call (ints_spec hr12 hw12 (by omega) _ _) ?_
  rintro v w13 ⟨rfl, hc13⟩
  have hX13 := hX12.keepN hc13
  refine ⟨_, rfl, iteT (decide_eq_true rfl) ?_⟩
  refine step_call (Find_spec hX13 (by omega) (by omega) (hro hX13.p.c) (hfar hX13) (by omega) 2 hlc) ?_
  rintro v w14 ⟨FI14, FO14, ⟨o14, c14, rfl, _⟩, _, hX14, _, _, _⟩
  rw [ch_none f1] at hX14 ⊢
  have hX14 : PX W w14 pb xb 8 _ (shareL ps []) es F FI14 := hX14
  refine ⟨_, _, _, rfl, iteT rfl ?_⟩
  refine step_call (Len_spec hX14.x) ?_
  rintro v w15 ⟨rfl, rfl⟩
  rw [hel]
  refine ⟨_, rfl, iteT (by simp) ?_⟩
  refine step_call (Forget_spec hX14 (by omega) (by omega) (by omega) 2) ?_
  rintro v w16 ⟨rfl, hX16, _⟩
  have hk2 : es.filter (keepE 2) = es := List.filter_eq_self.2 (fun e he => by
    obtain ⟨j, _, rfl⟩ := f1 e he
    rfl)
  rw [hk2] at hX16 ⊢
  refine ⟨_, rfl, iteT (by simp) ?_⟩
  refine step_call (Forget_spec hX16 (by omega) (by omega) (by omega) 1) ?_
  rintro v w17 ⟨rfl, hX17, _⟩
  have hk1 : es.filter (keepE 1) = [] := List.filter_eq_nil_iff.2 (fun e he => by
    obtain ⟨j, _, rfl⟩ := f1 e he
    show ¬ (keepE 1 (chE t j)) = true
    exact fun h => by cases h)
  rw [hk1, hel]
  exact ⟨_, rfl, by simp, hX17.p.c⟩
end Go.Proofs.Ytpcddfhfchempaa.Prefix
