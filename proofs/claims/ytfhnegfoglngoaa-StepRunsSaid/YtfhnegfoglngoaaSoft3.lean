/- For all weights and rows of whole numbers: what layer 12's Mix answers, and the document's; the conditions stand in each theorem. -/
import Derived.Test.YtfhnegfoglngoaaSoft2
set_option linter.unusedVariables false
set_option linter.unusedSimpArgs false
namespace Go.Proofs.Ytfhnegfoglngoaa.Soft
open Go Go.Proofs Go.Proofs.Ytfhnegfoglngoaa.V Go.Proofs.Ytfhnegfoglngoaa.Vc Go.Proofs.Ytfhnegfoglngoaa.Num Go.RowKit

/-- Whether weights and rows can be mixed. -/
def mixOk (ws : List Int) (zs : List RowD) : Bool := decide (zs.length ≠ 0) && decide (ws.length = zs.length) && !(ws.any badW) && decide (ws.sum ≠ 0) && sameL zs
def mixTerm (ws : List Int) (zs : List RowD) (k : Nat) : List Int := List.zipWith (fun a z => a * cl (z.2.2.getD k 0)) ws zs
def mixL (ws : List Int) (zs : List RowD) : List Int := (List.range (wid zs)).map fun k => sat (Int.tdiv (mixTerm ws zs k).sum ws.sum)
def mixT (ws : List Int) (zs : List RowD) : List Int := if mixOk ws zs then mixL ws zs else []
theorem goodW_mem {ws : List Int} (h : ws.any badW = false) : ∀ n ∈ ws, 0 ≤ n ∧ n ≤ 65536 := fun n hn => by
  have := List.any_eq_false.1 h n hn
  unfold badW at this
  simp at this
  omega
theorem sum_goodW {ws : List Int} (hgood : ∀ n ∈ ws, 0 ≤ n ∧ n ≤ 65536) (hl : ws.length ≤ 1000) : sumC ws = ws.sum ∧ 0 ≤ ws.sum ∧ ws.sum ≤ 65536000 := by
  obtain ⟨s1, s2, s3⟩ := sumC_sum (b := 65536) (by omega) ws (fun x hx => by have := hgood x hx; omega) (by omega) (by omega)
  have : 0 ≤ ws.sum := by
    clear s1 s2 s3 hl
    induction ws with
    | nil => simp
    | cons x r ih => rw [List.sum_cons]; have := hgood x (by simp); have := ih (fun n hn => hgood n (by simp [hn])); omega
  exact ⟨s1, this, by omega⟩
theorem mixOk_parts {ws : List Int} {zs : List RowD} (h : mixOk ws zs = true) : 0 < zs.length ∧ ws.length = zs.length ∧ (∀ n ∈ ws, 0 ≤ n ∧ n ≤ 65536) ∧ ws.sum ≠ 0 ∧ ∀ z ∈ zs, z.2.2.length = wid zs := by
  unfold mixOk at h
  simp only [Bool.and_eq_true, decide_eq_true_eq, Bool.not_eq_true'] at h
  obtain ⟨⟨⟨⟨h1, h2⟩, h3⟩, h4⟩, h5⟩ := h
  exact ⟨by omega, h2, goodW_mem h3, h4, same_all h5⟩
theorem tdiv_bd {x s B : Int} (h1 : -B ≤ x) (h2 : x ≤ B) : -B ≤ Int.tdiv x s ∧ Int.tdiv x s ≤ B := by
  have h := Int.natAbs_tdiv x s
  have h3 : x.natAbs.div s.natAbs ≤ x.natAbs := Nat.div_le_self _ _
  rw [← h] at h3
  omega
theorem term_bd {ws : List Int} {zs : List RowD} (hgood : ∀ n ∈ ws, 0 ≤ n ∧ n ≤ 65536) (k : Nat) : ∀ x ∈ mixTerm ws zs k, -70368744177664 ≤ x ∧ x ≤ 70368744177664 := by
  intro x hx
  obtain ⟨i, hi, rfl⟩ := List.getElem_of_mem hx
  unfold mixTerm at hi ⊢
  have hi2 := hi
  rw [List.length_zipWith] at hi2
  rw [List.getElem_zipWith]
  have a := hgood _ (List.getElem_mem (show i < ws.length by omega))
  have b := cl_le ((zs[i]'(by omega)).2.2.getD k 0)
  exact mul_bd (A := 65536) (B := 1073741824) (by omega) a.2 b.1 b.2
section
variable {w : World} {o ow : Option Addr} {c cw : Nat} {ws : List Int} {zs : List RowD} {F G K : Nat → Prop}
theorem isMix_spec (hw : Rd w ow (ws.map (.int .i64)) F) (hz : Rd w o (zs.map encR) G) (hl : ws.length ≤ 1000) (hl2 : zs.length ≤ 1000) (cw c : Nat) :
    Calls Try.prog i_soft_isMix #[.slice ow ws.length cw, .slice o zs.length c] w (Ret fun v w' => v = .bool (mixOk ws zs) ∧ Ch Non w w') := by
  refine soft_isMix.calls _ _ _ _ _ _ ?_
  unfold soft_isMix.vc
  intro w1 e1
  have hB := Blk.new e1
  have hC : Ch Non w w1 := Ch.alloc e1
  generalize w.heap.size = tb at hB ⊢
  refine ⟨_, _, _, hB.cell 0 rfl, fun h => ⟨?_, hC⟩, fun h0 => ⟨_, _, _, hB.cell 0 rfl, fun h => ⟨?_, hC⟩, fun h1 => ?_⟩⟩
  · have h : zs.length = 0 := by simp at h; rw [h]; rfl
    unfold mixOk; rw [decide_eq_false (by simpa using h)]; simp
  · have h : ws.length ≠ zs.length := by simp at h; omega
    unfold mixOk; rw [decide_eq_false h]; simp
  have h0 : zs.length ≠ 0 := by simp at h0; simpa using h0
  have h1 : ws.length = zs.length := by simp at h1; omega
  refine step_call (Sum_spec (c := cw) (hw.keepN hC) (by omega)) ?_
  rintro v w2 ⟨rfl, rfl⟩
  have hsum : ws.any badW = false → sumC ws = ws.sum := fun h => (sum_goodW (goodW_mem h) hl).1
  have hpre : (decide (zs.length ≠ 0) && decide (ws.length = zs.length)) = true := by rw [decide_eq_true h0, decide_eq_true h1]; rfl
  refine ⟨_, rfl, fun h => ⟨?_, hC⟩, fun h2 => ?_⟩
  · have h : sumC ws = 0 := by simpa using h
    cases hb : ws.any badW with
    | true => unfold mixOk; rw [hb]; simp
    | false => unfold mixOk; rw [← hsum hb, h]; simp
  have h2 : sumC ws ≠ 0 := by simpa using h2
  refine step_call (ContainsW_spec (hw.keepN hC) (by omega) cw) ?_
  rintro v w3 ⟨rfl, rfl⟩
  refine ⟨_, rfl, fun hb => ⟨_, _, _, hB.cell 0 rfl, ?_⟩, fun hb => ⟨?_, hC⟩⟩
  · have hb : ws.any badW = false := by simpa using hb
    refine step_call (ContainsU_spec (hz.keepN hC) (by omega) hB (by omega)) ?_
    rintro v w4 ⟨rfl, rfl⟩
    refine ⟨_, rfl, ?_, hC⟩
    unfold mixOk
    rw [hpre, hb, decide_eq_true (by rw [← hsum hb]; exact h2)]
    simp
  · have hb : ws.any badW = true := by simpa using hb
    unfold mixOk; rw [hb]; simp
theorem Mix_spec (hw : Rd w ow (ws.map (.int .i64)) F) (hz : Rd w o (zs.map encR) G) (hzs : ∀ z ∈ zs, Rd w z.1 (z.2.2.map (.int .i64)) K ∧ z.2.2.length ≤ 1000000) (hl : ws.length ≤ 1000) (hl2 : zs.length ≤ 1000) (cw c : Nat) :
    Calls Try.prog i_soft_Mix #[.slice ow ws.length cw, .slice o zs.length c] w (Ret fun v w' => ∃ (A : Option Addr) (C : Nat), v = .slice A (mixT ws zs).length C ∧ Gr Non w w' t_int 1 A (mixT ws zs).length C ((mixT ws zs).map (.int .i64))) := by
  refine soft_Mix.calls _ _ _ _ _ _ ?_
  unfold soft_Mix.vc
  refine step_call (isMix_spec hw hz hl hl2 cw c) ?_
  rintro v w1 ⟨rfl, hC⟩
  refine ⟨_, rfl, fun h => ?_, fun h => ?_⟩
  · have h : mixOk ws zs = false := by simpa using h
    unfold mixT; rw [h]; exact ⟨none, 0, rfl, Gr.nil hC⟩
  have h : mixOk ws zs = true := by simpa using h
  obtain ⟨h0, h1, hgood, hs0, hall⟩ := mixOk_parts h
  unfold mixT
  rw [h, if_pos rfl]
  have hw := hw.keepN hC
  have hz := hz.keepN hC
  obtain ⟨s1, s2, s3⟩ := sum_goodW hgood hl
  refine step_call (Sum_spec (c := cw) hw (by omega)) ?_
  rintro v w2 ⟨rfl, rfl⟩
  rw [s1]
  refine ⟨_, rfl, ⟨by omega, by omega⟩, hz.at0 (v := encR zs[0]) (by rw [List.getElem?_map, List.getElem?_eq_getElem h0]; rfl) fun p hp => ⟨_, _, _, hp, ?_⟩⟩
  rw [← wid_pos h0]
  have hL : (mixL ws zs).length = wid zs := by simp [mixL]
  have hwid : wid zs ≤ 1000000 := by rw [wid_pos h0]; exact (hzs _ (List.getElem_mem h0)).2
  have hLi : ∀ (j : Nat) (h : j < (mixL ws zs).length), (mixL ws zs)[j] = sat (Int.tdiv (mixTerm ws zs j).sum ws.sum) := fun j h => by simp [mixL]
  generalize mixL ws zs = L at hL hLi ⊢
  refine ⟨fun A j CC k x w' => k = j ∧ j ≤ L.length ∧ x = L.length - j ∧ Gr Non w2 w' t_int 1 A j CC ((L.take j).map (.int .i64)), ⟨_, rfl, Nat.zero_le _, rfl, Gr.nil (Ch.refl _ _)⟩, ?_⟩
  rintro jk A j CC k x w3 ⟨rfl, hj, rfl, hg⟩
  refine ⟨fun hlt => ?_, fun hge => ?_⟩
  · have hlt : j < L.length := by have := of_decide_eq_true hlt; omega
    have hT : (mixTerm ws zs j).length = zs.length := by simp [mixTerm]; omega
    have hTi : ∀ (m : Nat) (h : m < (mixTerm ws zs j).length) (h1 : m < ws.length) (h2 : m < zs.length) (h3 : j < zs[m].2.2.length), (mixTerm ws zs j)[m] = ws[m] * cl zs[m].2.2[j] := fun m h h1 h2 h3 => by simp [mixTerm, List.getD_eq_getElem?_getD, List.getElem?_eq_getElem h3]
    have hbd := term_bd (zs := zs) hgood j
    have hval := hLi j hlt
    generalize mixTerm ws zs j = T at hT hTi hbd hval
    have hpart : ∀ m, -(70368744177664 * ((T.take m).length : Int)) ≤ (T.take m).sum ∧ (T.take m).sum ≤ 70368744177664 * ((T.take m).length : Int) := fun m => sum_bd (fun x hx => hbd x (List.mem_of_mem_take hx))
    have hpl : ∀ m, ((T.take m).length : Int) ≤ 1000 := fun m => by simp; omega
    refine ⟨fun x k g w' => Ch Non w3 w' ∧ ∃ m : Nat, k = m ∧ m ≤ T.length ∧ g = T.length - m ∧ x = (T.take m).sum, ⟨_, Ch.refl _ _, 0, rfl, Nat.zero_le _, rfl, rfl⟩, ?_⟩
    rintro jk x k g w4 ⟨hc4, m, rfl, hm, rfl, rfl⟩
    refine ⟨fun hlt2 => ?_, fun hge2 => ?_⟩
    · have hlt2 : m < T.length := by have := of_decide_eq_true hlt2; omega
      have hmz : m < zs.length := by omega
      have hmw : m < ws.length := by omega
      have hjz : j < zs[m].2.2.length := by rw [hall _ (List.getElem_mem hmz)]; omega
      have hz4 := (hz.keepN hg.2).keepN hc4
      refine ⟨⟨by omega, by omega⟩, hz4.at (j := (m : Int).toNat * 1) (v := encR zs[m]) (by simp [hmz]) fun p hp => ⟨_, _, _, hp, fun w' => Ch Non w3 w', fun w5 e5 => ?_⟩⟩
      have hc5 := hc4.andN (Ch.drew (F := Non) e5)
      refine ⟨hc5, ⟨by omega, by omega⟩, Rd.keeps (j := m) (S := fun w' => Ch Non w3 w') (fun w2 h2 => (hw.keepN hg.2).keepN h2) hc4 hmw fun p2 hp2 => ⟨_, fun w' h => by rw [toNat_mul_one]; exact hp2 w' h, ⟨by omega, by omega⟩,
        Rd.keeps (j := j) (S := fun w' => Ch Non w3 w') (fun w2 h2 => (((hzs _ (List.getElem_mem hmz)).1.keepN hC).keepN hg.2).keepN h2) hc4 hjz fun p3 hp3 => ⟨_, fun w' h => by rw [toNat_mul_one]; exact hp3 w' h, ?_⟩⟩⟩
      refine step_call (clamped_spec w5 _) ?_
      rintro v w6 ⟨rfl, rfl⟩
      have hb := hbd _ (List.getElem_mem hlt2)
      have h1' := hpart m
      have h2' := hpl m
      rw [hTi m hlt2 hmw hmz hjz] at hb
      refine ⟨_, rfl, hc5, T.length - (m + 1), by omega, hc5, m + 1, by rw [wrap_id (by omega) (by omega)]; rfl, hlt2, rfl, ?_⟩
      rw [take_snoc T m hlt2, sum_snoc, hTi m hlt2 hmw hmz hjz, wrap_id (x := ws[m] * _) (by omega) (by omega), wrap_id (by omega) (by omega)]
    · have : m = T.length := by have := of_decide_eq_false hge2; omega
      subst this
      have h1' := hpart T.length
      have h2' := hpl T.length
      rw [List.take_length] at h1' h2' ⊢
      have h3 := tdiv_bd (x := T.sum) (s := ws.sum) (B := 70368744177664000) (by omega) (by omega)
      rw [wrap_id (by omega) (by omega)]
      refine ⟨hs0, ?_⟩
      refine step_call (Sat_spec _ _) ?_
      rintro v w7 ⟨rfl, rfl⟩
      refine ⟨_, rfl, fun w8 e8 => ?_⟩
      rw [← hval] at e8
      obtain ⟨A', C', w9, hr, hg9, _⟩ := (hg.keepN hc4).next el_S_int t_S_int hlt (by omega) e8 rfl rfl (by omega)
      exact ⟨A', _, C', w9, hr, L.length - (j + 1), by omega, by rw [wrap_id (by omega) (by omega)]; rfl, hlt, rfl, hg9⟩
  · have : j = L.length := by have := of_decide_eq_false hge; omega
    subst this
    rw [List.take_length] at hg
    exact ⟨A, CC, rfl, hg.1.mono (fun i _ hN => ⟨Nat.le_trans hC.size hN.1, hN.2⟩), hC.andN hg.2⟩
end
end Go.Proofs.Ytfhnegfoglngoaa.Soft
