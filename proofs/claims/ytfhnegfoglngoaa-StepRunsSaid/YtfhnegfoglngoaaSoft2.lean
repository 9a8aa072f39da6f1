/- For all numbers, weights and rows of whole numbers: what layer 12's Choose and Mix answer, and the document's functions; the conditions stand in each theorem. -/
import Derived.Test.YtfhnegfoglngoaaSoft
set_option linter.unusedVariables false
set_option linter.unusedSimpArgs false
namespace Go.Proofs.Ytfhnegfoglngoaa.Soft
open Go Go.Proofs Go.Proofs.Ytfhnegfoglngoaa.V Go.Proofs.Ytfhnegfoglngoaa.Vc Go.Proofs.Ytfhnegfoglngoaa.Num Go.RowKit

def badC (n : Int) : Bool := decide (n < 0) || decide (n > 1048576)
def badW (n : Int) : Bool := decide (n < 0) || decide (n > 65536)
theorem Choose_c1_spec (w : World) (n : Int) : Calls Try.prog i_soft_Choose_c1 #[.int .i64 n] w (Ret fun v w' => v = .bool (badC n) ∧ w' = w) := by
  refine soft_Choose_c1.calls _ ?_
  unfold soft_Choose_c1.vc badC
  exact ⟨fun h => ⟨by rw [h]; rfl, rfl⟩, fun h => ⟨by rw [h]; rfl, rfl⟩⟩
theorem isMix_c1_spec (w : World) (n : Int) : Calls Try.prog i_soft_isMix_c1 #[.int .i64 n] w (Ret fun v w' => v = .bool (badW n) ∧ w' = w) := by
  refine soft_isMix_c1.calls _ ?_
  unfold soft_isMix_c1.vc badW
  exact ⟨fun h => ⟨by rw [h]; rfl, rfl⟩, fun h => ⟨by rw [h]; rfl, rfl⟩⟩
section
variable {w : World} {o ow : Option Addr} {c cw : Nat} {ws : List Int} {zs : List RowD} {F G : Nat → Prop}
theorem ContainsC_spec {xs : List Int} (hr : Rd w o (xs.map (.int .i64)) F) (hx : xs.length ≤ 1000000) (c : Nat) : Calls Try.prog i_slices_ContainsFunc #[.slice o xs.length c, .func (.func i_soft_Choose_c1) #[] #[]] w (Ret fun v w' => v = .bool (xs.any badC) ∧ w' = w) := by
  refine slices_ContainsFunc.calls_ch _ _ _ ?_
  unfold slices_ContainsFunc.vc_ch
  have hi : Calls Try.prog i_slices_IndexFunc #[.slice o xs.length c, .func (.func i_soft_Choose_c1) #[] #[]] w (Ret fun v w' => ∃ i : Int, v = .int .i64 i ∧ decide (i ≥ 0) = xs.any badC ∧ w' = w) := by
    refine slices_IndexFunc.calls_ch _ _ _ ?_
    unfold slices_IndexFunc.vc_ch
    have hf := Choose_c1_spec w
    generalize badC = f at hf ⊢
    refine ⟨fun i k w' => w' = w ∧ ∃ j : Nat, i = j ∧ j ≤ xs.length ∧ k = xs.length - j ∧ (xs.take j).any f = false, ⟨_, rfl, 0, rfl, Nat.zero_le _, rfl, rfl⟩, ?_⟩
    rintro jk i k w' ⟨rfl, j, rfl, hj, rfl, hall⟩
    refine ⟨fun hlt => ?_, fun hge => ?_⟩
    · have hlt : j < xs.length := by have := of_decide_eq_true hlt; omega
      refine ⟨⟨by omega, by omega⟩, hr.at (j := (j : Int).toNat * 1) (v := .int .i64 xs[j]) (by simp [hlt]) fun p hp => ⟨_, hp, ?_⟩⟩
      refine step_call (hf xs[j]) ?_
      rintro v w1 ⟨rfl, rfl⟩
      refine ⟨_, rfl, fun h => ⟨_, rfl, ?_, rfl⟩, fun h => ⟨xs.length - (j + 1), by omega, rfl, j + 1, by rw [wrap_id (by omega) (by omega)]; rfl, hlt, rfl, ?_⟩⟩
      · have : xs.any f = true := by rw [List.any_eq_true]; exact ⟨xs[j], List.getElem_mem _, h⟩
        rw [this]; simp
      · rw [take_snoc xs j hlt, List.any_append, hall]
        simpa using h
    · have : j = xs.length := by have := of_decide_eq_false hge; omega
      subst this
      rw [List.take_length] at hall
      exact ⟨_, rfl, by rw [hall]; rfl, rfl⟩
  refine step_call hi ?_
  rintro v w1 ⟨i, rfl, h, rfl⟩
  exact ⟨_, rfl, by rw [h], rfl⟩
theorem ContainsW_spec {xs : List Int} (hr : Rd w o (xs.map (.int .i64)) F) (hx : xs.length ≤ 1000000) (c : Nat) : Calls Try.prog i_slices_ContainsFunc #[.slice o xs.length c, .func (.func i_soft_isMix_c1) #[] #[]] w (Ret fun v w' => v = .bool (xs.any badW) ∧ w' = w) := by
  refine slices_ContainsFunc.calls_mw _ _ _ ?_
  unfold slices_ContainsFunc.vc_mw
  have hi : Calls Try.prog i_slices_IndexFunc #[.slice o xs.length c, .func (.func i_soft_isMix_c1) #[] #[]] w (Ret fun v w' => ∃ i : Int, v = .int .i64 i ∧ decide (i ≥ 0) = xs.any badW ∧ w' = w) := by
    refine slices_IndexFunc.calls_mw _ _ _ ?_
    unfold slices_IndexFunc.vc_mw
    have hf := isMix_c1_spec w
    generalize badW = f at hf ⊢
    refine ⟨fun i k w' => w' = w ∧ ∃ j : Nat, i = j ∧ j ≤ xs.length ∧ k = xs.length - j ∧ (xs.take j).any f = false, ⟨_, rfl, 0, rfl, Nat.zero_le _, rfl, rfl⟩, ?_⟩
    rintro jk i k w' ⟨rfl, j, rfl, hj, rfl, hall⟩
    refine ⟨fun hlt => ?_, fun hge => ?_⟩
    · have hlt : j < xs.length := by have := of_decide_eq_true hlt; omega
      refine ⟨⟨by omega, by omega⟩, hr.at (j := (j : Int).toNat * 1) (v := .int .i64 xs[j]) (by simp [hlt]) fun p hp => ⟨_, hp, ?_⟩⟩
      refine step_call (hf xs[j]) ?_
      rintro v w1 ⟨rfl, rfl⟩
      refine ⟨_, rfl, fun h => ⟨_, rfl, ?_, rfl⟩, fun h => ⟨xs.length - (j + 1), by omega, rfl, j + 1, by rw [wrap_id (by omega) (by omega)]; rfl, hlt, rfl, ?_⟩⟩
      · have : xs.any f = true := by rw [List.any_eq_true]; exact ⟨xs[j], List.getElem_mem _, h⟩
        rw [this]; simp
      · rw [take_snoc xs j hlt, List.any_append, hall]
        simpa using h
    · have : j = xs.length := by have := of_decide_eq_false hge; omega
      subst this
      rw [List.take_length] at hall
      exact ⟨_, rfl, by rw [hall]; rfl, rfl⟩
  refine step_call hi ?_
  rintro v w1 ⟨i, rfl, h, rfl⟩
  exact ⟨_, rfl, by rw [h], rfl⟩
def uneven (zs : List RowD) (x : RowD) : Bool := !decide (x.2.2.length = wid zs)
theorem uneven_any (zs : List RowD) : zs.any (uneven zs) = !sameL zs := by
  unfold sameL uneven
  rw [List.all_eq_not_any_not]; simp
theorem isMix_c2_spec {c0 : Nat} (hz : Rd w o (zs.map encR) F) (h0 : 0 < zs.length) (hB : Blk w c0 [.slice o zs.length c] t_S_S_int) (x : RowD) : Calls Try.prog i_soft_isMix_c2 #[encR x, .pointer (some ⟨c0, 0, none⟩)] w (Ret fun v w' => v = .bool (uneven zs x) ∧ w' = w) := by
  refine soft_isMix_c2.calls _ _ _ _ ?_
  unfold soft_isMix_c2.vc
  refine ⟨_, _, _, hB.cell 0 rfl, ⟨by omega, by omega⟩, hz.at0 (v := encR zs[0]) (by rw [List.getElem?_map, List.getElem?_eq_getElem h0]; rfl) fun p hp => ⟨_, _, _, hp, ?_, rfl⟩⟩
  unfold uneven
  rw [wid_pos h0]
  congr 1
  by_cases h : x.2.2.length = zs[0].2.2.length
  · rw [decide_eq_true h, h]; simp
  · rw [decide_eq_false h]
    have : ((x.2.2.length : Nat) : Int) ≠ ((zs[0].2.2.length : Nat) : Int) := by omega
    simp [bne, this]
theorem ContainsU_spec {c0 : Nat} (hz : Rd w o (zs.map encR) F) (h0 : 0 < zs.length) (hB : Blk w c0 [.slice o zs.length c] t_S_S_int) (hx : zs.length ≤ 1000000) : Calls Try.prog 99 #[.slice o zs.length c, .func (.func i_soft_isMix_c2) #[] #[.pointer (some ⟨c0, 0, none⟩)]] w (Ret fun v w' => v = .bool (!sameL zs) ∧ w' = w) := by
  refine slices_ContainsFunc.calls_un _ _ _ _ ?_
  unfold slices_ContainsFunc.vc_un
  have hi : Calls Try.prog 100 #[.slice o zs.length c, .func (.func i_soft_isMix_c2) #[] #[.pointer (some ⟨c0, 0, none⟩)]] w (Ret fun v w' => ∃ i : Int, v = .int .i64 i ∧ decide (i ≥ 0) = zs.any (uneven zs) ∧ w' = w) := by
    refine slices_IndexFunc.calls_un _ _ _ _ ?_
    unfold slices_IndexFunc.vc_un
    have hf := fun x => isMix_c2_spec hz h0 hB x
    generalize uneven zs = f at hf ⊢
    have hr := hz
    clear hz hB h0
    revert hr hx hf
    generalize zs = xs
    intro hx hf hr
    refine ⟨fun i k w' => w' = w ∧ ∃ j : Nat, i = j ∧ j ≤ xs.length ∧ k = xs.length - j ∧ (xs.take j).any f = false, ⟨_, rfl, 0, rfl, Nat.zero_le _, rfl, rfl⟩, ?_⟩
    rintro jk i k w' ⟨rfl, j, rfl, hj, rfl, hall⟩
    refine ⟨fun hlt => ?_, fun hge => ?_⟩
    · have hlt : j < xs.length := by have := of_decide_eq_true hlt; omega
      refine ⟨⟨by omega, by omega⟩, hr.at (j := (j : Int).toNat * 1) (v := encR xs[j]) (by simp [hlt]) fun p hp => ⟨_, _, _, hp, ?_⟩⟩
      refine step_call (hf xs[j]) ?_
      rintro v w1 ⟨rfl, rfl⟩
      refine ⟨_, rfl, fun h => ⟨_, rfl, ?_, rfl⟩, fun h => ⟨xs.length - (j + 1), by omega, rfl, j + 1, by rw [wrap_id (by omega) (by omega)]; rfl, hlt, rfl, ?_⟩⟩
      · have : xs.any f = true := by rw [List.any_eq_true]; exact ⟨xs[j], List.getElem_mem _, h⟩
        rw [this]; simp
      · rw [take_snoc xs j hlt, List.any_append, hall]
        simpa using h
    · have : j = xs.length := by have := of_decide_eq_false hge; omega
      subst this
      rw [List.take_length] at hall
      exact ⟨_, rfl, by rw [hall]; rfl, rfl⟩
  refine step_call hi ?_
  rintro v w1 ⟨i, rfl, h, rfl⟩
  exact ⟨_, rfl, by rw [h, uneven_any], rfl⟩
/-- Which of several a number below their sum falls to. -/
def pick : Int → List Int → Nat → Int
  | _, [], _ => -1
  | rest, n :: r, i => if rest < n then i else pick (rest - n) r (i + 1)
def chooseI (draw : Int) (ws : List Int) : Int := if ws.length > 64 ∨ ws.any badC = true then -1 else if ws.sum = 0 then -1 else pick (draw % ws.sum) ws 0
theorem good_mem {ws : List Int} (h : ws.any badC = false) : ∀ n ∈ ws, 0 ≤ n ∧ n ≤ 1048576 := fun n hn => by
  have := List.any_eq_false.1 h n hn
  unfold badC at this
  simp at this
  omega
theorem tmod_fix {a s : Int} (hs : 0 < s) : (Int.tmod a s < 0 → a % s = Int.tmod a s + s) ∧ (¬ Int.tmod a s < 0 → a % s = Int.tmod a s) ∧ -s < Int.tmod a s ∧ Int.tmod a s < s := by
  have b1 := Int.tmod_lt_of_pos a hs
  have b2 := Int.lt_tmod_of_pos a hs
  have e : a % s = Int.tmod a s % s := by
    conv => lhs; rw [← Int.mul_tdiv_add_tmod a s]
    rw [Int.add_comm, Int.add_mul_emod_self_left]
  refine ⟨fun h => ?_, fun h => ?_, b2, b1⟩
  · rw [e, ← Int.add_emod_right, Int.emod_eq_of_lt (by omega) (by omega)]
  · rw [e, Int.emod_eq_of_lt (by omega) (by omega)]
theorem sum_good (hgood : ∀ n ∈ ws, 0 ≤ n ∧ n ≤ 1048576) (hl : ws.length ≤ 64) : sumC ws = ws.sum ∧ 0 ≤ ws.sum ∧ ws.sum ≤ 67108864 := by
  obtain ⟨s1, s2, s3⟩ := sumC_sum (b := 1048576) (by omega) ws (fun x hx => by have := hgood x hx; omega) (by omega) (by omega)
  have : 0 ≤ ws.sum := by
    clear s1 s2 s3 hl
    induction ws with
    | nil => simp
    | cons x r ih => rw [List.sum_cons]; have := hgood x (by simp); have := ih (fun n hn => hgood n (by simp [hn])); omega
  exact ⟨s1, this, by omega⟩
theorem Choose_spec (hw : Rd w ow (ws.map (.int .i64)) F) (hl : ws.length ≤ 1000000) (draw : Int) (c : Nat) :
    Calls Try.prog i_soft_Choose #[.int .i64 draw, .slice ow ws.length c] w (Ret fun v w' => v = .int .i64 (chooseI draw ws) ∧ w' = w) := by
  refine soft_Choose.calls _ _ _ _ ?_
  unfold soft_Choose.vc chooseI
  refine ⟨fun h => ?_, fun h64 => ?_⟩
  · have := of_decide_eq_true h
    rw [if_pos (.inl (by omega))]; exact ⟨rfl, rfl⟩
  have h64 : ws.length ≤ 64 := by have := of_decide_eq_false h64; omega
  refine step_call (ContainsC_spec hw hl c) ?_
  rintro v w1 ⟨rfl, rfl⟩
  refine ⟨_, rfl, fun h => ?_, fun hg => ?_⟩
  · rw [if_pos (.inr h)]; exact ⟨rfl, rfl⟩
  rw [if_neg (by rw [hg]; simp; omega)]
  have hgood := good_mem hg
  obtain ⟨s1, s2, s3⟩ := sum_good hgood h64
  refine step_call (Sum_spec (c := c) hw (by omega)) ?_
  rintro v w5 ⟨rfl, rfl⟩
  rw [s1]
  refine ⟨_, rfl, fun h => ?_, fun h => ?_⟩
  · rw [if_pos (by simpa using h)]; exact ⟨rfl, rfl⟩
  have h : ws.sum ≠ 0 := by simpa using h
  rw [if_neg h]
  obtain ⟨t1, t2, t3, t4⟩ := tmod_fix (a := draw) (s := ws.sum) (by omega)
  have hm := Int.emod_nonneg draw h
  have hm2 := Int.emod_lt_of_pos draw (show 0 < ws.sum by omega)
  refine ⟨h, fun rest w' => w' = w5 ∧ rest = draw % ws.sum, ⟨fun hn => ⟨rfl, ?_⟩, fun hn => ⟨rfl, (t2 (of_decide_eq_false hn)).symm⟩⟩, ?_⟩
  · have hn := of_decide_eq_true hn
    rw [wrap_id (by omega) (by omega)]; exact (t1 hn).symm
  rintro jk r0 w ⟨rfl, rfl⟩
  have hr0 := hm
  have hr1 : draw % ws.sum ≤ 100000000 := by omega
  refine ⟨fun rest i k w' => w' = w ∧ 0 ≤ rest ∧ rest ≤ 100000000 ∧ ∃ j : Nat, i = j ∧ j ≤ ws.length ∧ k = ws.length - j ∧ pick rest (ws.drop j) j = pick (draw % ws.sum) ws 0, ⟨_, rfl, hr0, hr1, 0, rfl, Nat.zero_le _, rfl, rfl⟩, ?_⟩
  rintro jk rest i k w' ⟨rfl, h1, h2, j, rfl, hj, rfl, hp⟩
  refine ⟨fun hlt => ?_, fun hge => ?_⟩
  · have hlt : j < ws.length := by have := of_decide_eq_true hlt; omega
    have hn := hgood _ (List.getElem_mem hlt)
    rw [List.drop_eq_getElem_cons hlt, pick] at hp
    have rd : ∀ {K : Addr → Prop}, (∀ p : Addr, w'.cell? (p.add ((j : Int).toNat * 1)) = some (.int .i64 ws[j]) → K p) → someV ow K := fun hk => hw.at (j := (j : Int).toNat * 1) (v := .int .i64 ws[j]) (by simp [hlt]) hk
    refine ⟨⟨by omega, by omega⟩, rd fun p hpp => ⟨_, hpp, fun hh => ?_, fun hh => ?_⟩⟩
    · rw [if_pos (of_decide_eq_true hh)] at hp
      exact ⟨by rw [← hp], rfl⟩
    · have hh := of_decide_eq_false hh
      rw [if_neg hh] at hp
      rw [wrap_id (x := rest - ws[j]) (by omega) (by omega)]
      exact ⟨ws.length - (j + 1), by omega, rfl, by omega, by omega, j + 1, by rw [wrap_id (by omega) (by omega)]; rfl, hlt, rfl, hp⟩
  · have : j = ws.length := by have := of_decide_eq_false hge; omega
    subst this
    rw [List.drop_length, pick] at hp
    exact ⟨by rw [hp], rfl⟩
theorem rChoose_spec (hw : Rd w ow (ws.map (.int .i64)) F) (hl : ws.length ≤ 1000000) (draw : Int) (c : Nat) :
    Calls Try.prog i_coadjutorref12_Choose #[.int .i64 draw, .slice ow ws.length c] w (Ret fun v w' => v = .int .i64 (chooseI draw ws) ∧ w' = w) := by
  refine coadjutorref12_Choose.calls _ _ _ _ ?_
  unfold coadjutorref12_Choose.vc
  refine ⟨fun s i k w' => w' = w ∧ ∃ j : Nat, i = j ∧ j ≤ ws.length ∧ k = ws.length - j ∧ s = (ws.take j).sum ∧ (ws.take j).any badC = false ∧ (j = 0 ∨ ws.length ≤ 64), ⟨_, rfl, 0, rfl, Nat.zero_le _, rfl, rfl, rfl, .inl rfl⟩, ?_⟩
  rintro jk s i k w' ⟨rfl, j, rfl, hj, rfl, rfl, hg, hj0⟩
  refine ⟨fun hlt => ?_, fun hge => ?_⟩
  · have hlt : j < ws.length := by have := of_decide_eq_true hlt; omega
    have rd : ∀ {K : Addr → Prop}, (∀ p : Addr, w'.cell? (p.add ((j : Int).toNat * 1)) = some (.int .i64 ws[j]) → K p) → someV ow K := fun hk => hw.at (j := (j : Int).toNat * 1) (v := .int .i64 ws[j]) (by simp [hlt]) hk
    have bad : badC ws[j] = true → Value.int .i64 (-1) = .int .i64 (chooseI draw ws) := fun h => by
      unfold chooseI; rw [if_pos (.inr (List.any_eq_true.2 ⟨ws[j], List.getElem_mem hlt, h⟩))]
    refine ⟨⟨by omega, by omega⟩, rd fun p hp => ⟨_, hp, fun h => ⟨bad (by unfold badC; rw [h]; rfl), rfl⟩, fun h1 => ⟨⟨by omega, by omega⟩, rd fun p hp => ⟨_, hp, fun h => ⟨bad (by unfold badC; rw [h, Bool.or_true]), rfl⟩, fun h2 => ⟨fun h => ⟨?_, rfl⟩, fun h3 => ⟨⟨by omega, by omega⟩, rd fun p hp => ⟨_, hp, ?_⟩⟩⟩⟩⟩⟩⟩
    · have := of_decide_eq_true h
      unfold chooseI; rw [if_pos (.inl (by omega))]
    · have h3 := of_decide_eq_false h3
      have hb : badC ws[j] = false := by unfold badC; rw [h1, h2]; rfl
      have hgood := good_mem hg
      have hsg := sum_good hgood (by simp; omega)
      have h1 := of_decide_eq_false h1
      have h2 := of_decide_eq_false h2
      refine ⟨ws.length - (j + 1), by omega, rfl, j + 1, by rw [wrap_id (by omega) (by omega)]; rfl, hlt, rfl, ?_, ?_, .inr (by omega)⟩
      · rw [take_snoc ws j hlt, sum_snoc, wrap_id (by omega) (by omega)]
      · rw [take_snoc ws j hlt, List.any_append, hg]; simpa using hb
  have hjl : j = ws.length := by have := of_decide_eq_false hge; omega
  subst hjl
  rw [List.take_length] at hg ⊢
  have h64 : ws.length ≤ 64 := by omega
  have hgood := good_mem hg
  obtain ⟨s1, s2, s3⟩ := sum_good hgood h64
  unfold chooseI
  rw [if_neg (by rw [hg]; simp; omega)]
  refine ⟨fun h => ?_, fun h => ?_⟩
  · rw [if_pos (by simpa using h)]; exact ⟨rfl, rfl⟩
  have h : ws.sum ≠ 0 := by simpa using h
  rw [if_neg h]
  obtain ⟨t1, t2, t3, t4⟩ := tmod_fix (a := draw) (s := ws.sum) (by omega)
  have hm := Int.emod_nonneg draw h
  have hm2 := Int.emod_lt_of_pos draw (show 0 < ws.sum by omega)
  refine ⟨h, fun rest w2 => w2 = w' ∧ rest = draw % ws.sum, ⟨fun hn => ⟨rfl, ?_⟩, fun hn => ⟨rfl, (t2 (of_decide_eq_false hn)).symm⟩⟩, ?_⟩
  · have hn := of_decide_eq_true hn
    rw [wrap_id (by omega) (by omega)]; exact (t1 hn).symm
  clear hj hj0
  rintro jk r0 w ⟨rfl, rfl⟩
  have hr0 := hm
  have hr1 : draw % ws.sum ≤ 100000000 := by omega
  refine ⟨fun rest i k w' => w' = w ∧ 0 ≤ rest ∧ rest ≤ 100000000 ∧ ∃ j : Nat, i = j ∧ j ≤ ws.length ∧ k = ws.length - j ∧ pick rest (ws.drop j) j = pick (draw % ws.sum) ws 0, ⟨_, rfl, hr0, hr1, 0, rfl, Nat.zero_le _, rfl, rfl⟩, ?_⟩
  rintro jk rest i k w' ⟨rfl, h1, h2, j, rfl, hj, rfl, hp⟩
  refine ⟨fun hlt => ?_, fun hge => ?_⟩
  · have hlt : j < ws.length := by have := of_decide_eq_true hlt; omega
    have hn := hgood _ (List.getElem_mem hlt)
    rw [List.drop_eq_getElem_cons hlt, pick] at hp
    have rd : ∀ {K : Addr → Prop}, (∀ p : Addr, w'.cell? (p.add ((j : Int).toNat * 1)) = some (.int .i64 ws[j]) → K p) → someV ow K := fun hk => hw.at (j := (j : Int).toNat * 1) (v := .int .i64 ws[j]) (by simp [hlt]) hk
    refine ⟨⟨by omega, by omega⟩, rd fun p hpp => ⟨_, hpp, fun hh => ?_, fun hh => ⟨⟨by omega, by omega⟩, rd fun p hpp => ⟨_, hpp, ?_⟩⟩⟩⟩
    · rw [if_pos (of_decide_eq_true hh)] at hp
      exact ⟨by rw [← hp], rfl⟩
    · have hh := of_decide_eq_false hh
      rw [if_neg hh] at hp
      rw [wrap_id (x := rest - ws[j]) (by omega) (by omega)]
      exact ⟨ws.length - (j + 1), by omega, rfl, by omega, by omega, j + 1, by rw [wrap_id (by omega) (by omega)]; rfl, hlt, rfl, hp⟩
  · have : j = ws.length := by have := of_decide_eq_false hge; omega
    subst this
    rw [List.drop_length, pick] at hp
    exact ⟨by rw [hp], rfl⟩
end
end Go.Proofs.Ytfhnegfoglngoaa.Soft
