/- PrefixChain's contract: of every row of tokens and every number the Go function answers true and leaves what was there; the conditions stand in each theorem. -/
import Derived.Test.YtpcddfhfchempaaPrefixL1
import Derived.Test.YtpcddfhfchempaaVcPrefixC
set_option linter.unusedVariables false
set_option linter.unusedSimpArgs false
namespace Go.Proofs.Ytpcddfhfchempaa.Prefix
open Go Go.Proofs Go.Proofs.Ytpcddfhfchempaa.V Go.Proofs.Ytpcddfhfchempaa.Vc Go.Proofs.Ytpcddfhfchempaa.Step Go.Proofs.Ytpcddfhfchempaa.Pages Go.RowKit

def e4 (i : Int) : List Ent := List.replicate 4 (e1 i)
def pA (a b c : Int) : List PageD := [⟨1, a, e4 0⟩, ⟨2, b, e4 1⟩, ⟨1, c, e4 2⟩]
def eA : EntD := ⟨1, [1, 2, 3, 4], 0⟩
def eB : EntD := ⟨1, [1, 2, 3, 4, 5, 6, 7, 8], 2⟩
theorem blkRd {w : World} {b T : Nat} {xs : List Int} (h : Blk w b (xs.map (.int .i64)) T) : Rd w (some ⟨b, 0, none⟩) (xs.map (.int .i64)) (· = b) := h.rd
theorem PX.far {W w : World} {pb xb k : Nat} {B : Int} {ps : List PageD} {es : List EntD} {FP FI : Nat → Prop} (h : PX W w pb xb k B ps es FP FI) {nb : Nat} (hn : w.heap.size ≤ nb) : ∀ {w' : World} (i : Nat), i < w'.heap.size → i = nb → ¬ FI i := fun i _ hi hf => by have := h.lt i hf; omega
set_option maxRecDepth 100000 in
theorem awake_spec (w : World) : Calls Try.prog i_coadjutorlaw23_awake #[] w (Ret fun v w' => v = .bool true ∧ Ch Non w w') := by
  refine coadjutorlaw23_awake.calls ?_
  unfold coadjutorlaw23_awake.vc
  refine step_call (full_spec (Ch.refl _ w) 3 (by omega)) ?_
  rintro v w1 ⟨pb, ub, F, FU, rfl, hB⟩
  have hP := hB.p
  have hf : fullP 3 = pA 1 1 1 := rfl
  have hg := full_good 3
  rw [hf] at hP hg
  clear hB hf
  refine ⟨_, _, rfl, ?_⟩
  refine step_call (New_spec hP hg) ?_
  rintro v w2 ⟨xb, rfl, hX, hc2⟩
  generalize New w1 w2 = FI at hX
  clear hP hg hc2
  refine ⟨_, rfl, iteF rfl (iteF rfl ?_)⟩
  refine step_call (New_nil w2) ?_
  rintro v w3 ⟨rfl, rfl⟩
  refine ⟨_, rfl, iteF rfl (fun w4 a4 => ?_)⟩
  have r4 := blkRd (xs := [1, 2, 3, 4]) (Blk.new a4)
  have hX4 := hX.keepN (Ch.alloc a4)
  clear hX a4
  refine step_call (Add_spec (t := [1, 2, 3, 4]) hX4 (by omega) (by simp) r4 (by simp) 0 1 4) ?_
  rintro v w5 ⟨rfl, hX5, _⟩
  have v1 : addE (pA 1 1 1) [] 0 1 [1, 2, 3, 4] = 0 := by decide
  have v2 : addP (pA 1 1 1) [] 0 1 [1, 2, 3, 4] = pA 2 1 1 := rfl
  have v3 : addX (pA 1 1 1) [] 0 1 [1, 2, 3, 4] = [eA] := rfl
  rw [v2, v3] at hX5
  rw [v1]
  generalize Ext FI w4 w5 = FI at hX5
  clear v1 v2 v3 hX4 r4
  refine ⟨_, rfl, fun w6 a6 => ?_⟩
  have r6 := blkRd (xs := [1, 2, 3, 4, 5, 6, 7, 8]) (Blk.new a6)
  have hX6 := hX5.keepN (Ch.alloc a6)
  clear hX5 a6
  refine step_call (Add_spec (t := [1, 2, 3, 4, 5, 6, 7, 8]) hX6 (by omega) (by simp) r6 (by simp) 2 1 8) ?_
  rintro v w7 ⟨rfl, hX7, _⟩
  have v1 : addE (pA 2 1 1) [eA] 2 1 [1, 2, 3, 4, 5, 6, 7, 8] = 0 := by decide
  have v2 : addP (pA 2 1 1) [eA] 2 1 [1, 2, 3, 4, 5, 6, 7, 8] = pA 2 1 2 := rfl
  have v3 : addX (pA 2 1 1) [eA] 2 1 [1, 2, 3, 4, 5, 6, 7, 8] = [eA, eB] := rfl
  rw [v2, v3] at hX7
  rw [v1]
  generalize Ext FI w6 w7 = FI at hX7
  clear v1 v2 v3 hX6 r6
  refine ⟨_, rfl, fun w8 a8 => ?_⟩
  have r8 := blkRd (xs := [1, 2, 3, 4, 5, 6, 7, 8]) (Blk.new a8)
  have hX8 := hX7.keepN (Ch.alloc a8)
  have hs78 : w7.heap.size < w8.heap.size := (Blk.new a8).lt
  refine step_call (Find_spec (t := [1, 2, 3, 4, 5, 6, 7, 8]) hX8 (by omega) (by simp) r8 (fun i _ hi hf => by have := hX7.lt i hf; omega) (by simp) 1 (tc := 8) (by simp)) ?_
  rintro v w9 ⟨FI2, FO, ⟨o9, c9, rfl, hr9⟩, hO9, hX9, _, hap9, _⟩
  have v1 : findR [eA, eB] 1 [1, 2, 3, 4, 5, 6, 7, 8] = ([eB, eA], [0]) := rfl
  rw [v1] at hX9 hr9 ⊢
  have v2 : (if allB (pA 2 1 2) [0] = true then shareL (pA 2 1 2) [0] else pA 2 1 2) = pA 3 1 2 := rfl
  have hX9 : PX w w9 pb xb 3 _ (if allB (pA 2 1 2) [0] = true then shareL (pA 2 1 2) [0] else pA 2 1 2) [eB, eA] F FI2 := hX9
  rw [v2] at hX9
  clear v1 v2 hX8 r8 a8
  refine ⟨_, _, _, rfl, fun w10 a10 => ?_⟩
  have r10 := blkRd (xs := [1, 2, 3, 4, 5, 6, 7, 8, 9]) (Blk.new a10)
  have hX10 := hX9.keepN (Ch.alloc a10)
  have hr10 := hr9.keepN (Ch.alloc a10)
  refine step_call (Find_spec (t := [1, 2, 3, 4, 5, 6, 7, 8, 9]) hX10 (by simp) (by simp) r10 (fun i _ hi hf => by have := hX9.lt i hf; omega) (by simp) 1 (tc := 9) (by simp)) ?_
  rintro v w11 ⟨FI3, FO3, ⟨o11, c11, rfl, hr11⟩, hO11, hX11, _, _, hc11⟩
  have v1 : findR [eB, eA] 1 [1, 2, 3, 4, 5, 6, 7, 8, 9] = ([eA, eB], [0, 2]) := rfl
  rw [v1] at hX11 hr11 ⊢
  have v2 : (if allB (pA 3 1 2) [0, 2] = true then shareL (pA 3 1 2) [0, 2] else pA 3 1 2) = pA 4 1 3 := rfl
  have hX11 : PX w w11 pb xb 3 _ (if allB (pA 3 1 2) [0, 2] = true then shareL (pA 3 1 2) [0, 2] else pA 3 1 2) [eA, eB] F FI3 := hX11
  rw [v2] at hX11
  have hr11' : Rd w11 o9 (([0] : List Int).map (.int .i64)) FO := hr10.keep hc11 (fun i _ hi hf => by
    rcases hf with hf | hf
    · exact hap9 i hi hf
    · have h1 := (hO9 i hi).1
      have h2 := hX7.p.lt i hf
      omega)
  have hEv : evI (pA 4 1 3) [eA, eB] = 2 := rfl
  clear v1 v2 hr9 hr10 hX10 r10 hX9 hX7
  refine ⟨_, _, _, rfl, iteT rfl (iteT rfl (fun w12 a12 => ?_))⟩
  have r12 := blkRd (xs := [0]) (Blk.new a12)
  have hX12 := hX11.keepN (Ch.alloc a12)
  refine step_call (ints_spec (xs := [0]) (ys := [0]) (hr11'.keepN (Ch.alloc a12)) r12 (by simp) _ _) ?_
  rintro v w13 ⟨rfl, hc13⟩
  refine ⟨_, rfl, iteT rfl (fun w14 a14 => ?_)⟩
  have hX13 := hX12.keepN hc13
  have r14 := blkRd (xs := [0, 2]) (Blk.new a14)
  have hX14 := hX13.keepN (Ch.alloc a14)
  refine step_call (ints_spec (xs := [0, 2]) (ys := [0, 2]) (((hr11.keepN (Ch.alloc a12)).keepN hc13).keepN (Ch.alloc a14)) r14 (by simp) _ _) ?_
  rintro v w15 ⟨rfl, hc15⟩
  have hX15 := hX14.keepN hc15
  clear hX11 hX12 hX13 hX14 hr11 hr11' r12 r14 a12 a14
  refine ⟨_, rfl, iteT rfl ?_⟩
  refine step_call (Users_spec hX15.p.r 0) ?_
  rintro v w16 ⟨rfl, rfl⟩
  refine ⟨4, rfl, iteT rfl ?_⟩
  refine step_call (Len_spec hX15.x) ?_
  rintro v w17 ⟨rfl, rfl⟩
  refine ⟨2, rfl, iteT rfl ?_⟩
  refine step_call (Evict_spec hX15 (by simp) (by omega) (by simp)) ?_
  rintro v w18 ⟨rfl, hX18, _⟩
  rw [hEv] at hX18 ⊢
  have v1 : evP (pA 4 1 3) [eA, eB] = pA 4 1 3 := rfl
  have v2 : [eA, eB].eraseIdx 2 = [eA, eB] := rfl
  rw [v1, v2] at hX18
  refine ⟨false, rfl, iteT rfl (fun w19 a19 => ?_)⟩
  have r19 := blkRd (xs := [9, 9, 9, 9]) (Blk.new a19)
  have hX19 := hX18.keepN (Ch.alloc a19)
  refine step_call (Add_spec (t := [9, 9, 9, 9]) hX19 (by simp) (by simp) r19 (by simp) 1 1 4) ?_
  rintro v w20 ⟨rfl, hX20, _⟩
  have v3 : addE (pA 4 1 3) [eA, eB] 1 1 [9, 9, 9, 9] = 8 := by decide
  have v4 : addP (pA 4 1 3) [eA, eB] 1 1 [9, 9, 9, 9] = pA 4 1 3 := rfl
  have v5 : addX (pA 4 1 3) [eA, eB] 1 1 [9, 9, 9, 9] = [eA, eB] := rfl
  rw [v4, v5] at hX20
  rw [v3]
  refine ⟨8, rfl, iteT rfl (fun w21 a21 => ?_)⟩
  have r21 := blkRd (xs := [1]) (Blk.new a21)
  have hX21 := hX20.keepN (Ch.alloc a21)
  refine step_call (Add_spec (t := [1]) hX21 (by simp) (by simp) r21 (by simp) 0 1 1) ?_
  rintro v w22 ⟨rfl, hX22, _⟩
  have v6 : addE (pA 4 1 3) [eA, eB] 0 1 [1] = 1 := by decide
  rw [v6]
  exact ⟨1, rfl, rfl, hX22.p.c⟩
/-- The beginnings of one row of tokens, and their pages. -/
def chE (t : List Int) (j : Nat) : EntD := ⟨1, t.take (4 * j + 4), 2 * (j : Int)⟩
def chP (i : Nat) : List PageD := (List.range 8).map fun j => if j % 2 = 0 ∧ j < 2 * i then ⟨1 + (j : Int) % 2, 2, List.replicate 4 (e1 j)⟩ else pgK j 4
theorem chP_zero : chP 0 = fullP 8 := by
  unfold chP fullP
  refine List.map_congr_left fun j hj => ?_
  rw [if_neg (by omega)]
theorem chP_len (i : Nat) : (chP i).length = 8 := by simp [chP]
theorem chP_get {i j : Nat} (h : j < (chP i).length) : (chP i)[j] = if j % 2 = 0 ∧ j < 2 * i then ⟨1 + (j : Int) % 2, 2, List.replicate 4 (e1 j)⟩ else pgK j 4 := by simp [chP]
theorem chP_add {i : Nat} (h : i < 4) : addU 1 (chP i) (2 * (i : Int)) = chP (i + 1) := by
  have hn : (2 * (i : Int)).toNat = 2 * i := by omega
  apply List.ext_getElem
  · rw [addU_len, chP_len, chP_len]
  · intro j h1 h2
    rw [chP_get]
    simp only [addU, List.getElem_set, hn]
    have hat : pgAt (chP i) (2 * (i : Int)) = pgK (2 * i) 4 := by
      rw [pgAt_lt (by omega) (by rw [chP_len]; omega), chP_get]
      rw [if_neg (by omega), hn]
    by_cases hj : 2 * i = j
    · subst hj
      rw [if_pos rfl, if_pos ⟨by omega, by omega⟩, hat]
      rfl
    · rw [if_neg hj, chP_get]
      by_cases h3 : j % 2 = 0 ∧ j < 2 * i
      · rw [if_pos h3, if_pos ⟨h3.1, by omega⟩]
      · rw [if_neg h3, if_neg (fun h4 => h3 ⟨h4.1, by omega⟩)]
def chL (t : List Int) (k : Nat) : List EntD := (List.range k).map (chE t)
theorem hasB_ch {t : List Int} {j : Nat} {v : Int} {u : List Int} : hasB v u (chE t j) = ((1 == v) && decide (t.take (4 * j + 4) = u)) := rfl
theorem ch_add {t : List Int} {k : Nat} (hk : k < 4) (hl : 4 * k + 4 ≤ t.length) : addE (chP k) (chL t k) (2 * (k : Int)) 1 (t.take (4 * k + 4)) = 0 := by
  have htl : (t.take (4 * k + 4)).length = 4 * k + 4 := by rw [List.length_take]; omega
  have hf : findI (chL t k) 1 (t.take (4 * k + 4)) = -1 := by
    unfold findI
    have : (chL t k).findIdx (hasB 1 (t.take (4 * k + 4))) = (chL t k).length := List.findIdx_eq_length.2 (fun e he => by
      obtain ⟨j, hj, rfl⟩ := List.mem_map.1 he
      have hj : j < k := by simpa using hj
      rw [hasB_ch, decide_eq_false (fun h => by
        have h2 := congrArg List.length h
        rw [List.length_take, htl] at h2; omega)]
      rfl)
    rw [this, if_neg (Nat.lt_irrefl _)]
  have hat : pgAt (chP k) (2 * (k : Int)) = pgK (2 * k) 4 := by
    have hn : (2 * (k : Int)).toNat = 2 * k := by omega
    rw [pgAt_lt (by omega) (by rw [chP_len]; omega), chP_get, if_neg (by omega), hn]
  have hok : addOk (chP k) (2 * (k : Int)) 1 = true := by
    unfold addOk isB
    rw [hat]
    have : (1 + ((2 * k : Nat) : Int) % 2) = 1 := by omega
    simp [pgK, this]
  unfold addE
  rw [hf, hok, htl, if_neg (fun hn => hn ⟨by omega, by omega, by omega⟩)]
  rfl
/-- What is found of such beginnings, whatever their order. -/
theorem ch_find {t : List Int} {k m : Nat} (hk : k ≤ 4) (hm : m ≤ t.length) : ∀ (f i : Nat) (es : List EntD) (out : List Int), m ≤ 4 * i + 4 + f → (∀ e ∈ es, ∃ j, j < k ∧ e = chE t j) → (∀ j, j < k → chE t j ∈ es) → 4 * k ≤ t.length →
    (findG 1 (t.take m) f (4 * i + 4) es out).2 = out ++ ((List.range (min k ((m - 1) / 4) - i)).map fun a => 2 * ((a + i : Nat) : Int)) ∧ (∀ e ∈ (findG 1 (t.take m) f (4 * i + 4) es out).1, ∃ j, j < k ∧ e = chE t j)
  | 0, i, es, out, hf, ha, hb, hkl => by
    have : min k ((m - 1) / 4) - i = 0 := by omega
    rw [this]
    exact ⟨by simp [findG], ha⟩
  | f + 1, i, es, out, hf, ha, hb, hkl => by
    have hml : (t.take m).length = m := by rw [List.length_take]; omega
    by_cases hlt : 4 * i + 4 < m
    rotate_left
    · rw [findG_stop (by omega)]
      have : min k ((m - 1) / 4) - i = 0 := by omega
      rw [this]
      exact ⟨by simp, ha⟩
    have htt : (t.take m).take (4 * i + 4) = t.take (4 * i + 4) := by rw [List.take_take, Nat.min_eq_left (by omega)]
    by_cases hik : i < k
    · have hidx : es.findIdx (hasB 1 ((t.take m).take (4 * i + 4))) < es.length := by
        rw [htt, List.findIdx_lt_length]
        exact ⟨chE t i, hb i hik, by rw [hasB_ch, decide_eq_true rfl]; rfl⟩
      rw [findG_some (by omega) hidx]
      have hp := List.findIdx_getElem (w := hidx)
      obtain ⟨j, hj, hje⟩ := ha _ (List.getElem_mem hidx)
      rw [hje, hasB_ch, Bool.and_eq_true, htt] at hp
      have hij : j = i := by
        have h2 := congrArg List.length (of_decide_eq_true hp.2)
        rw [List.length_take, List.length_take] at h2
        omega
      subst hij
      rw [hje]
      generalize es.findIdx (hasB 1 ((t.take m).take (4 * j + 4))) = q at hidx hje
      have hmem : ∀ e, e ∈ es.eraseIdx q ++ [chE t j] ↔ e ∈ es := fun e => by
        rw [List.mem_append, List.mem_singleton, List.mem_eraseIdx_iff_getElem]
        constructor
        · rintro (⟨a, h1, _, rfl⟩ | rfl)
          · exact List.getElem_mem _
          · exact hb j hik
        · intro he
          obtain ⟨a, h1, rfl⟩ := List.getElem_of_mem he
          by_cases haq : a = q
          · subst haq; exact .inr hje
          · exact .inl ⟨a, h1, haq, rfl⟩
      have h4 : 4 * j + 4 + 4 = 4 * (j + 1) + 4 := by omega
      rw [h4]
      obtain ⟨r1, r2⟩ := ch_find hk hm f (j + 1) (es.eraseIdx q ++ [chE t j]) (out ++ [(chE t j).page]) (by omega) (fun e he => ha e ((hmem e).1 he)) (fun a h => (hmem _).2 (hb a h)) hkl
      refine ⟨?_, r2⟩
      rw [r1]
      have hc : min k ((m - 1) / 4) - j = (min k ((m - 1) / 4) - (j + 1)) + 1 := by omega
      rw [hc, List.range_succ_eq_map, List.map_cons, List.map_map, List.append_assoc]
      congr 1
      rw [List.singleton_append]
      congr 1
      · show (chE t j).page = 2 * ((0 + j : Nat) : Int)
        rw [Nat.zero_add]; rfl
      · refine List.map_congr_left fun a _ => ?_
        show 2 * ((a + (j + 1) : Nat) : Int) = 2 * ((Nat.succ a + j : Nat) : Int)
        congr 2; omega
    · have hidx : ¬ es.findIdx (hasB 1 ((t.take m).take (4 * i + 4))) < es.length := by
        rw [htt, List.findIdx_lt_length]
        rintro ⟨e, he, hh⟩
        obtain ⟨j, hj, rfl⟩ := ha e he
        rw [hasB_ch, Bool.and_eq_true] at hh
        have h2 := congrArg List.length (of_decide_eq_true hh.2)
        rw [List.length_take, List.length_take] at h2
        omega
      rw [findG_none hidx]
      have : min k ((m - 1) / 4) - i = 0 := by omega
      rw [this]
      exact ⟨by simp, ha⟩
theorem ch_none {t : List Int} {k : Nat} {es : List EntD} (ha : ∀ e ∈ es, ∃ j, j < k ∧ e = chE t j) (u : List Int) : findR es 2 u = (es, []) := by
  unfold findR
  by_cases h : 4 < u.length
  · refine findG_none ?_
    rw [List.findIdx_lt_length]
    rintro ⟨e, he, hh⟩
    obtain ⟨j, hj, rfl⟩ := ha e he
    rw [hasB_ch] at hh
    cases hh
  · exact findG_stop (by omega)
end Go.Proofs.Ytpcddfhfchempaa.Prefix
