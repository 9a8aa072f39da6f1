/- For all bytes: what the document's layer 29 reads of them; the conditions stand in each theorem. -/
import Derived.Test.YtamkffjmggbekaaOrd5
set_option linter.unusedVariables false
set_option linter.unusedSimpArgs false
namespace Go.Proofs.Ytamkffjmggbekaa.Ord
open Go Go.Proofs Go.Proofs.Ytamkffjmggbekaa.V Go.Proofs.Ytamkffjmggbekaa.Vc Go.Proofs.Ytamkffjmggbekaa.Pen Go.RowKit

theorem numE_stuck (m : Int) : numE ([], true) m = (0, ([], true)) := rfl
theorem textE_stuck (m : Int) : textE ([], true) m = ([], ([], true)) := rfl
theorem byteE_stuck : byteE ([], true) = (0, ([], true)) := rfl
theorem numsE_stuck : ∀ k : Nat, (numsE k ([], true)).2 = ([], true)
  | 0 => rfl
  | k + 1 => by rw [numsE, numE_stuck]; exact numsE_stuck k
theorem rowE_stuck : (rowE ([], true)).2 = ([], true) := rfl
theorem numE_bad2 {st : St} {most : Int} (h : (numE st most).2.2 = true) : (numE st most).2 = ([], true) := by rw [numE_bad h]
theorem textE_bad {st : St} {most : Int} (h : (textE st most).2.2 = true) : textE st most = ([], ([], true)) := by
  unfold textE at h ⊢
  rw [takeE_bad.1 h]; rfl
theorem byteE_bad {st : St} (h : (byteE st).2.2 = true) : (byteE st) = (0, ([], true)) := by
  unfold byteE at h ⊢
  rw [takeE_bad.1 h]; rfl
/-- Once bad. -/
def stuck (x : RSt) : Prop := x.2.1 = ([], true) ∨ x.2.2 = true
theorem readF_stuck {x : RSt} (h : stuck x) (f : Fld) : stuck (readF x f) := by
  rcases h with h | h
  · left
    cases f
    · show (numE x.2.1 maxN).2 = _; rw [h]; rfl
    · show (numE x.2.1 maxN).2 = _; rw [h]; rfl
    · show (byteE x.2.1).2 = _; rw [h]; rfl
    · show (rowE x.2.1).2 = _; rw [h]; rfl
    · show (rowE x.2.1).2 = _; rw [h]; rfl
    · show (textE x.2.1 1024).2 = _; rw [h]; rfl
  · right
    cases f
    · exact h
    · exact h
    · show (x.2.2 || _) = true; rw [h]; rfl
    · exact h
    · exact h
    · exact h
theorem foldl_stuck : ∀ (l : List Fld) {x : RSt}, stuck x → stuck (l.foldl readF x)
  | [], x, h => h
  | f :: r, x, h => by rw [List.foldl_cons]; exact foldl_stuck r (readF_stuck h f)
theorem foldl_split {l : List Fld} (j : Nat) (x : RSt) : l.foldl readF x = (l.drop j).foldl readF ((l.take j).foldl readF x) := by
  rw [← List.foldl_append, List.take_append_drop]
theorem foldl_snoc {l : List Fld} {j : Nat} (h : j < l.length) (x : RSt) : (l.take (j + 1)).foldl readF x = readF ((l.take j).foldl readF x) l[j] := by
  rw [Pen.take_snoc l j h, List.foldl_append]; rfl
theorem parse_stuck {l : List UInt8} (h : stuck (visE (byteE (l, false)).1.toNat (byteE (l, false)).2)) : parseC l = none := by
  unfold parseC
  rw [if_neg]
  rintro ⟨h1, h2, _⟩
  rcases h with h | h
  · rw [h] at h1; simp [endE] at h1
  · rw [h] at h2; cases h2
section
variable {w w' : World} {e : Nat} {st : St}
theorem Rrows_spec (h : EyeF w e st) : Calls Try.prog i_coadjutorref29_rows #[.pointer (some ⟨e, 0, none⟩)] w (Ret fun v w' => ∃ (o : Option Addr) (c : Nat) (xs : List Int), v = .slice o xs.length c ∧ EyeF w' e (rowE st).2 ∧ ((rowE st).2.2 = true → (rowE st).2 = ([], true)) ∧ ((rowE st).2.2 = false → xs = (rowE st).1) ∧ xs.length ≤ 32 ∧ Rd w' o (xs.map (.int .i64)) (New w w') ∧ Ch (· = e) w w') := by
  refine coadjutorref29_rows.calls _ ?_
  unfold coadjutorref29_rows.vc
  refine step_call (RefEyeNum_spec h 32) ?_
  rintro v w1 ⟨rfl, h1, hc1⟩
  have hle := numE_le (st := st) (most := 32) (by omega)
  have hb := numE_bad2 (st := st) (most := 32)
  have hrw : rowE st = numsE (numE st 32).1 (numE st 32).2 := rfl
  rw [hrw]
  generalize (numE st 32).1 = n at hle hrw ⊢
  generalize (numE st 32).2 = s1 at h1 hb hrw ⊢
  refine ⟨_, rfl, fun w2 e2 => ?_⟩
  have hel : e < w1.heap.size := Blk.lt h1
  have hO : Own w2 t_int 1 (some ⟨w1.heap.size, 0, none⟩) 0 0 (([] : List Int).map (.int .i64)) (· = w1.heap.size) := Own.made (n := 0) (sz := 1) (F := (· = w1.heap.size)) e2 rfl (Nat.zero_le _) rfl
  have hb2l := (Blk.new e2).lt
  have h2 : EyeF w2 e s1 := Blk.alloc h1 e2
  have hc2 : Ch (· = e) w w2 := hc1.same (Ch.alloc e2)
  have hs1 := hc1.size
  refine ⟨fun oA oN oC i k w' => ∃ (xs : List Int) (s : St) (F : Nat → Prop), oN = xs.length ∧ i = xs.length ∧ xs.length ≤ n ∧ k = n - xs.length ∧ EyeF w' e s ∧ (s.2 = true → s = ([], true)) ∧ numsE n s1 = (xs ++ (numsE (n - xs.length) s).1, (numsE (n - xs.length) s).2) ∧ Own w' t_int 1 oA xs.length oC (xs.map (.int .i64)) F ∧ (∀ i, F i → New w w' i ∧ i ≠ e) ∧ Ch (· = e) w w',
    ⟨_, [], s1, _, rfl, rfl, Nat.zero_le _, rfl, h2, hb, rfl, hO, fun i hi => ⟨⟨by omega, by omega⟩, by omega⟩, hc2⟩, ?_⟩
  clear hO h1 h2 hc1 hc2 hb2l hb e2
  rintro jk oA oN oC i k w3 ⟨xs, s, F, rfl, rfl, hn, rfl, h3, hb, heq, hO, hF, hc⟩
  have hs3 := hc.size
  refine ⟨fun hlt => ⟨_, h3.cell 1 rfl, fun hbad => ?_, fun hbad => ?_⟩, fun hge => ?_⟩
  · have hlt : xs.length < n := by have := of_decide_eq_true hlt; omega
    have hbad : s.2 = false := by simpa using hbad
    refine step_call (RefEyeNum_spec h3 maxN) ?_
    rintro v w4 ⟨rfl, h4, hc4⟩
    have hs4 := hc4.size
    have hel4 : e < w4.heap.size := Blk.lt h4
    have hle4 := numE_le (st := s) (most := maxN) (by decide)
    have hb4 := numE_bad2 (st := s) (most := maxN)
    have hn1 : n - xs.length = (n - (xs.length + 1)) + 1 := by omega
    rw [hn1, numsE] at heq
    have hw : IntKind.i64.wrap (((numE s maxN).1 : Int) - 2147483648) = ((numE s maxN).1 : Int) - half := by unfold maxN at hle4 ⊢; exact wrap_id (by omega) (by omega)
    refine ⟨_, rfl, fun w5 e5 => ?_⟩
    rw [hw] at e5
    generalize ((numE s maxN).1 : Int) - half = y at e5 heq
    generalize (numE s maxN).2 = s4 at h4 hb4 heq
    have hb5 := blkRd (xs := [y]) (Blk.new e5)
    have hb5l := (Blk.new e5).lt
    have hO5 := (hO.keep hc4 (fun i _ hf he => (hF i hf).2 he)).keepN (Ch.alloc e5)
    obtain ⟨o6, c6, w6, r6, hO6, hc6⟩ := Own.appendRd (c2 := 1) (m := 1) el_S_int hO5 t_S_int hb5 rfl (fun u hu => by rw [List.map_singleton, List.mem_singleton] at hu; subst hu; rfl) (by unfold maxLen; omega) (by omega)
    have hs6 := hc6.size
    have hnF : ¬ F e := fun hf => (hF e hf).2 rfl
    have h6 : EyeF w6 e s4 := Blk.keep (Blk.alloc h4 e5) hc6 hnF
    have e1 : (xs ++ [y]).length = xs.length + 1 := by simp
    refine ⟨o6, _, c6, w6, r6, n - (xs.length + 1), by omega, xs ++ [y], s4, Ext F w5 w6, e1.symm, by rw [wrap_id (by omega) (by omega), e1]; rfl, by omega, by omega, h6, hb4, ?_, ?_, fun i hi => ?_, ((hc.same hc4).same (Ch.alloc e5)).trans hc6 (fun i hi hf => by have := (hF i hf).1.1; omega)⟩
    · rw [e1, heq, List.append_assoc]; rfl
    · rw [e1, List.map_append]; exact hO6
    · rcases hi with hi | hi
      · exact ⟨⟨(hF i hi).1.1, by have := (hF i hi).1.2; omega⟩, (hF i hi).2⟩
      · exact ⟨⟨by have := hi.1; omega, hi.2⟩, by have := hi.1; omega⟩
  · have hbad : s.2 = true := by simpa using hbad
    have hs := hb hbad
    subst hs
    rw [numsE_stuck] at heq
    rw [heq]
    exact ⟨oA, oC, xs, rfl, h3, fun _ => rfl, fun h => (by cases h), by omega, hO.rd.mono (fun i _ hi => (hF i hi).1), hc⟩
  · have hln : xs.length = n := by have := of_decide_eq_false hge; omega
    have hz : n - xs.length = 0 := by omega
    rw [hz] at heq
    have hq : numsE n s1 = (xs, s) := by rw [heq]; simp [numsE]
    rw [hq]
    exact ⟨oA, oC, xs, rfl, h3, hb, fun _ => rfl, by omega, hO.rd.mono (fun i _ hi => (hF i hi).1), hc⟩
def parseRV (l : List UInt8) (p : RwP) : Value := .tuple #[.agg (cmE ((parseC l).getD (cm0 0), p)).toArray, .bool (parseC l).isSome]
/-- Where the document's reader stands. -/
structure RR (W w : World) (zb e cb : Nat) (k : Int) (x : RSt) : Prop where
  ey : EyeF w e x.2.1
  bd : x.2.1.2 = true → x.2.1 = ([], true)
  wr : x.2.2 = false
  z : Blk w zb csB t_coadjutorref29_Command
  cm : ∃ c p, Blk w cb (cmE (c, p)) t_coadjutorref29_Command ∧ (x.2.1.2 = false → c = x.1) ∧ CmR w (c, p) (fun i => cb < i)
  n : zb < e ∧ e < cb ∧ W.heap.size ≤ zb
  c : Ch Non W w
theorem RR.step {W w w1 w2 : World} {zb e cb i : Nat} {k : Int} {x y : RSt} (h : RR W w zb e cb k x) (hE : EyeF w1 e y.2.1) (hb : y.2.1.2 = true → y.2.1 = ([], true)) (hw : y.2.2 = false) (hc : Ch (· = e) w w1) {v : Value} (e2 : w2 = w1.setCell ⟨cb, i, none⟩ v)
    (hv : ∀ c p, (x.2.1.2 = false → c = x.1) → CmR w (c, p) (fun i => cb < i) → ∃ c' p', (cmE (c, p)).set i v = cmE (c', p') ∧ (y.2.1.2 = false → c' = y.1) ∧ CmR w1 (c', p') (fun i => cb < i)) : RR W w2 zb e cb k y := by
  obtain ⟨n1, n2, n3⟩ := h.n
  obtain ⟨c, p, hB, hx, hR⟩ := h.cm
  obtain ⟨c', p', e3, hy, hR'⟩ := hv c p hx hR
  have hc2 : Ch (· = cb) w1 w2 := Ch.set e2 rfl
  have hB2 := (hB.keep hc (by omega)).set e2
  rw [e3] at hB2
  exact ⟨Blk.keep hE hc2 (by omega), hb, hw, (h.z.keep hc (by omega)).keep hc2 (by omega), ⟨c', p', hB2, hy, hR'.keep hc2 (fun i _ hi he => by omega)⟩, h.n, (h.c.trans hc (fun i hi he => by omega)).trans hc2 (fun i hi he => by omega)⟩
theorem sticky {s : St} {f : St → St} (hf : f ([], true) = ([], true)) (hb : s.2 = true → s = ([], true)) : (f s).2 = false → s.2 = false := fun h => by
  cases hs : s.2
  · rfl
  · rw [hb hs, hf] at h; cases h
set_option maxHeartbeats 2000000 in
theorem RParse_spec (w : World) (l : List UInt8) : Calls Try.prog i_coadjutorref29_Parse #[.string (str l)] w (Ret fun v w' => ∃ p : RwP, v = parseRV l p ∧ CmR w' ((parseC l).getD (cm0 0), p) (New w w') ∧ Ch Non w w') := by
  refine coadjutorref29_Parse.calls _ ?_
  unfold coadjutorref29_Parse.vc
  intro w1 e1
  have hZ1 : Blk w1 w.heap.size csB t_coadjutorref29_Command := Blk.new e1
  have hc1 : Ch Non w w1 := Ch.alloc e1
  have s1 := hZ1.lt
  intro w2 e2
  have hE2 : EyeF w2 w1.heap.size (l, false) := Blk.new e2
  have hc2 : Ch Non w1 w2 := Ch.alloc e2
  have s2 := Blk.lt hE2
  refine step_call (RefTake_spec hE2 1) ?_
  rintro v w3 ⟨rfl, hE3, hc3⟩
  have s3 := hc3.size
  have hc03 : Ch Non w w3 := (hc1.andN hc2).trans hc3 (fun i hi he => by omega)
  have hZ3 := (hZ1.keepN hc2).keep hc3 (by omega)
  refine ⟨_, rfl, _, hE3.cell 1 rfl, fun hb => ?_, fun hb => ?_⟩
  · have hby : byteE (l, false) = (0, ([], true)) := byteE_bad hb
    have hno : parseC l = none := parse_stuck (by rw [hby]; exact foldl_stuck _ (.inl rfl))
    have hBx := hZ3
    have hcx := hc03
    have hB := hBx
    refine ⟨⟨hB.ok 0 rfl, hB.ok 1 rfl, hB.ok 2 rfl, hB.ok 3 rfl, hB.ok 4 rfl, hB.ok 5 rfl, hB.ok 6 rfl⟩, fun w9 e9 => ?_⟩
    obtain ⟨hB9, hc9⟩ := cmOver (cm0 0, p0) hB rfl e9
    refine ⟨_, _, _, _, _, _, _, _, _, _, _, ⟨hB9.cell 0 rfl, hB9.cell 1 rfl, hB9.cell 2 rfl, hB9.cell 3 rfl, hB9.cell 4 rfl, hB9.cell 5 rfl, hB9.cell 6 rfl⟩, p0, ?_, ?_, hcx.trans hc9 (fun i hi he => by omega)⟩
    · unfold parseRV; rw [hno]; rfl
    · rw [hno]; exact CmR.empty _ _ _
  obtain ⟨t, ht, htl⟩ := takeE_bad.2 hb
  rw [ht]
  match t, htl with
  | [a], _ =>
    have hby : byteE (l, false) = (a, (takeE (l, false) 1).2) := by unfold byteE; rw [ht]; rfl
    have hb0 : bt (str ((some [a]).getD [])) 0 = a.toNat := by simp [bt, str]
    have halt := a.toNat_lt
    have hwr : IntKind.i64.wrap (a.toNat : Int) = (a.toNat : Int) := wrap_id (by omega) (by omega)
    rw [hb0, hwr]
    refine ⟨⟨by omega, by rw [str_size]; show (0 : Int) < ((1 : Nat) : Int); decide⟩, fun w5 e5 => ?_⟩
    have hC5 := Blk.new e5
    have s5 := hC5.lt
    refine ⟨⟨hC5.ok 0 rfl, hC5.ok 1 rfl, hC5.ok 2 rfl, hC5.ok 3 rfl, hC5.ok 4 rfl, hC5.ok 5 rfl, hC5.ok 6 rfl⟩, fun w6 e6 => ?_⟩
    obtain ⟨hC6, hc36⟩ := cmNew (cm0 (a.toNat : Int), p0) e5 e6
    have hst : (takeE (l, false) 1).2.2 = true → (takeE (l, false) 1).2 = ([], true) := fun h => by rw [takeE_bad.1 h]
    have hpc : parseC l = if endE (visE a.toNat (takeE (l, false) 1).2).2.1 = 0 ∧ (visE a.toNat (takeE (l, false) 1).2).2.2 = false ∧ ¬ badK a.toNat then some (visE a.toNat (takeE (l, false) 1).2).1 else none := by unfold parseC; rw [hby]
    have hps : stuck (visE a.toNat (takeE (l, false) 1).2) → parseC l = none := fun h => parse_stuck (by rw [hby]; exact h)
    generalize (takeE (l, false) 1).2 = st at hE3 hst hpc hps
    generalize (a.toNat : Int) = k at hC6 hpc hps ⊢
    have hR6 : RR w w6 w.heap.size w1.heap.size w3.heap.size k (cm0 k, st, false) := ⟨Blk.keepN hE3 hc36, hst, rfl, hZ3.keepN hc36, ⟨_, _, hC6, fun _ => rfl, CmR.empty _ _ _⟩, ⟨s1, by omega, Nat.le_refl _⟩, hc03.andN hc36⟩
    refine ⟨_, hC6.cell 0 rfl, step_call (RHas_spec w6 k) ?_⟩
    rintro v w7 ⟨rfl, rfl⟩
    generalize hzb : w.heap.size = zb at hR6 ⊢
    generalize w1.heap.size = e at hR6 ⊢
    generalize w3.heap.size = cb at hR6 ⊢
    have hs0 : (hasL k).length = (fldsK k).length := by unfold hasL; rw [List.length_map]
    have hfl4 := fldsK_len k
    clear hC6 hE3 hZ3 hC5 hE2 hZ1 hc36 hc1 hc2 hc3 hc03 e1 e2 e5 e6 s1 s2 s3 s5
    refine ⟨_, rfl, fun i f w' => ∃ j : Nat, i = j ∧ j ≤ (fldsK k).length ∧ f = (fldsK k).length - j ∧ RR w w' zb e cb k (((fldsK k).take j).foldl readF (cm0 k, st, false)), ⟨_, 0, rfl, Nat.zero_le _, rfl, hR6⟩, ?_⟩
    clear hR6
    rintro jk i f w8 ⟨j, rfl, hj, rfl, hR⟩
    rw [str_size, hs0]
    refine ⟨fun hlt => ?_, fun hge => ?_⟩
    · have hlt : j < (fldsK k).length := by have := of_decide_eq_true hlt; omega
      rw [flds_at hlt]
      have hsn := foldl_snoc hlt (cm0 k, st, false)
      have hstk : stuck (readF (((fldsK k).take j).foldl readF (cm0 k, st, false)) (fldsK k)[j]) → parseC l = none := fun h => hps (by
        show stuck ((fldsK k).foldl readF (cm0 k, st, false))
        rw [foldl_split (j + 1), hsn]
        exact foldl_stuck _ h)
      generalize (fldsK k)[j] = fl at hsn hstk ⊢
      generalize ((fldsK k).take j).foldl readF (cm0 k, st, false) = x at hR hsn hstk
      obtain ⟨n1, n2, n3⟩ := hR.n
      have hEl := Blk.lt hR.ey
      refine ⟨fun w' => RR w w' zb e cb k (readF x fl), ⟨⟨by omega, by omega⟩, ?_⟩, fun jk w' hx => ⟨(fldsK k).length - (j + 1), by omega, j + 1, by rw [wrap_id (by omega) (by omega)]; rfl, hlt, rfl, by rw [hsn]; exact hx⟩⟩
      obtain ⟨c, p, hB, hcx, hCR⟩ := hR.cm
      have okB : ∀ {w9}, Ch (· = e) w8 w9 → Blk w9 cb (cmE (c, p)) t_coadjutorref29_Command := fun hc => hB.keep hc (by omega)
      have kR : ∀ {w9} {c : CmD} {p : RwP}, Ch (· = e) w8 w9 → CmR w8 (c, p) (fun i => cb < i) → CmR w9 (c, p) (fun i => cb < i) := fun hc h => h.keep hc (fun i _ hi he => by omega)
      cases fl
      · refine iteT rfl (step_call (RefEyeNum_spec hR.ey maxN) ?_)
        rintro v w9 ⟨rfl, hE9, hc9⟩
        have hle := numE_le (st := x.2.1) (most := maxN) (by decide)
        have hw : IntKind.i64.wrap (((numE x.2.1 maxN).1 : Int) - 2147483648) = ((numE x.2.1 maxN).1 : Int) - half := by unfold maxN at hle ⊢; exact wrap_id (by omega) (by omega)
        refine ⟨_, rfl, (okB hc9).ok 1 rfl, fun w10 e10 => ?_⟩
        rw [hw] at e10
        exact RR.step (y := readF x .id) hR hE9 numE_bad2 hR.wr hc9 e10 fun c p hx hR => ⟨{ c with id := ((numE x.2.1 maxN).1 : Int) - half }, p, rfl, fun hy => by rw [hx (sticky (f := fun s => (numE s maxN).2) rfl ‹RR w w8 zb e cb k x›.bd hy)]; rfl, kR hc9 hR⟩
      · refine iteF rfl (iteT rfl (step_call (RefEyeNum_spec hR.ey maxN) ?_))
        rintro v w9 ⟨rfl, hE9, hc9⟩
        have hle := numE_le (st := x.2.1) (most := maxN) (by decide)
        have hw : IntKind.i64.wrap (((numE x.2.1 maxN).1 : Int) - 2147483648) = ((numE x.2.1 maxN).1 : Int) - half := by unfold maxN at hle ⊢; exact wrap_id (by omega) (by omega)
        refine ⟨_, rfl, (okB hc9).ok 2 rfl, fun w10 e10 => ?_⟩
        rw [hw] at e10
        exact RR.step (y := readF x .n) hR hE9 numE_bad2 hR.wr hc9 e10 fun c p hx hR => ⟨{ c with n := ((numE x.2.1 maxN).1 : Int) - half }, p, rfl, fun hy => by rw [hx (sticky (f := fun s => (numE s maxN).2) rfl ‹RR w w8 zb e cb k x›.bd hy)]; rfl, kR hc9 hR⟩
      · refine iteF rfl (iteF rfl (iteT rfl (step_call (RefTake_spec hR.ey 1) ?_)))
        rintro v w9 ⟨rfl, hE9, hc9⟩
        have e0 : ∀ t : List UInt8, ((str t).toList == (ByteArray.mk #[0]).toList) = decide (t = [0]) := fun t => str_beq t [0]
        have e1 : ∀ t : List UInt8, ((str t).toList == (ByteArray.mk #[1]).toList) = decide (t = [1]) := fun t => str_beq t [1]
        refine ⟨_, rfl, ?_⟩
        rw [e0, e1]
        have hZ9 := hR.z.keep hc9 (by omega)
        have hc09 : Ch Non w w9 := hR.c.trans hc9 (fun i hi he => by omega)
        have hby : byteE x.2.1 = ((((takeE x.2.1 1).1.getD []).head?).getD 0, (takeE x.2.1 1).2) := rfl
        have hyb : (readF x .good).2.1 = (takeE x.2.1 1).2 := rfl
        have hyw : (readF x .good).2.2 = (x.2.2 || decide ((byteE x.2.1).1.toNat > 1)) := rfl
        have hyc : (readF x .good).1 = { x.1 with good := (byteE x.2.1).1 == 1 } := rfl
        have hbs : (takeE x.2.1 1).2.2 = true → (takeE x.2.1 1).2 = ([], true) := fun h => by rw [takeE_bad.1 h]
        have okG : ∀ t : List UInt8, (takeE x.2.1 1).1.getD [] = t → (t = [0] ∨ t = [1]) → ∀ {w10 : World}, w10 = w9.setCell ⟨cb, 3, none⟩ (.bool (decide (t = [1]))) → RR w w10 zb e cb k (readF x .good) := fun t ht h01 w10 e10 => by
          have hb1 : (byteE x.2.1).1 = t.head?.getD 0 := by rw [hby, ht]
          refine RR.step (y := readF x .good) hR (by rw [hyb]; exact hE9) (by rw [hyb]; exact hbs) ?_ hc9 e10 fun c p hx hR' => ⟨{ c with good := decide (t = [1]) }, p, rfl, fun hy => ?_, kR hc9 hR'⟩
          · rw [hyw, hR.wr, hb1]; rcases h01 with h | h <;> subst h <;> rfl
          · have hx2 := hx (sticky (f := fun s => (takeE s 1).2) rfl hR.bd (by rw [hyb] at hy; exact hy))
            rw [hyc, hx2, hb1]; rcases h01 with h | h <;> subst h <;> rfl
        generalize htt : (takeE x.2.1 1).1.getD [] = t at okG hby ⊢
        refine ⟨fun h0 => ⟨fun h1 => ?_, fun h1 => ⟨(okB hc9).ok 3 rfl, fun w10 e10 => okG t rfl (.inr (by simpa using h1)) e10⟩⟩, fun h0 => ⟨(okB hc9).ok 3 rfl, fun w10 e10 => okG t rfl (.inl (by simpa using h0)) e10⟩⟩
        have h0 : ¬ t = [0] := by simpa using h0
        have h1 : ¬ t = [1] := by simpa using h1
        have hno : parseC l = none := hstk (by
          cases hb : (takeE x.2.1 1).2.2
          · right
            obtain ⟨t', ht', hl'⟩ := takeE_bad.2 hb
            rw [ht'] at htt
            match t', hl' with
            | [a], _ =>
              have htt : [a] = t := htt
              rw [hyw, hby, ← htt, hR.wr]
              show (false || decide (a.toNat > 1)) = true
              rw [Bool.false_or, decide_eq_true_iff]
              rw [← htt] at h0 h1
              have h0 : ¬ a = 0 := fun h => h0 (by rw [h])
              have h1 : ¬ a = 1 := fun h => h1 (by rw [h])
              have h0 : a.toNat ≠ 0 := fun h => h0 (UInt8.toNat_inj.1 h)
              have h1 : a.toNat ≠ 1 := fun h => h1 (UInt8.toNat_inj.1 h)
              omega
          · left; rw [hyb]; exact hbs hb)
        have hBx := hZ9
        have hcx := hc09
        have hzz := n3
        have hB := hBx
        refine ⟨⟨hB.ok 0 rfl, hB.ok 1 rfl, hB.ok 2 rfl, hB.ok 3 rfl, hB.ok 4 rfl, hB.ok 5 rfl, hB.ok 6 rfl⟩, fun w9 e9 => ?_⟩
        obtain ⟨hB9, hc9⟩ := cmOver (cm0 0, p0) hB rfl e9
        refine ⟨_, _, _, _, _, _, _, _, _, _, _, ⟨hB9.cell 0 rfl, hB9.cell 1 rfl, hB9.cell 2 rfl, hB9.cell 3 rfl, hB9.cell 4 rfl, hB9.cell 5 rfl, hB9.cell 6 rfl⟩, p0, ?_, ?_, hcx.trans hc9 (fun i hi he => by omega)⟩
        · unfold parseRV; rw [hno]; rfl
        · rw [hno]; exact CmR.empty _ _ _
      · refine iteF rfl (iteF rfl (iteF rfl (iteT rfl (step_call (Rrows_spec hR.ey) ?_))))
        rintro v w9 ⟨o, cc, xs, rfl, hE9, hb9, hx9, hl9, hr9, hc9⟩
        have hcl := hB.lt
        refine ⟨_, _, _, rfl, (okB hc9).ok 4 rfl, fun w10 e10 => ?_⟩
        exact RR.step (y := readF x .prompt) hR hE9 hb9 hR.wr hc9 e10 fun c p hx hR => ⟨{ c with prompt := xs }, { p with po := o, pc := cc }, rfl, fun hy => by rw [hx (sticky (f := fun s => (rowE s).2) rfl ‹RR w w8 zb e cb k x›.bd hy), hx9 hy]; rfl, ⟨hr9.mono (fun i _ hi => by have := hi.1; omega), (kR hc9 hR).2.1, by show xs.length ≤ 1000; omega, (kR hc9 hR).2.2.2⟩⟩
      · refine iteF rfl (iteF rfl (iteF rfl (iteF rfl (iteT rfl (step_call (Rrows_spec hR.ey) ?_)))))
        rintro v w9 ⟨o, cc, xs, rfl, hE9, hb9, hx9, hl9, hr9, hc9⟩
        have hcl := hB.lt
        refine ⟨_, _, _, rfl, (okB hc9).ok 5 rfl, fun w10 e10 => ?_⟩
        exact RR.step (y := readF x .draws) hR hE9 hb9 hR.wr hc9 e10 fun c p hx hR => ⟨{ c with draws := xs }, { p with qo := o, qc := cc }, rfl, fun hy => by rw [hx (sticky (f := fun s => (rowE s).2) rfl ‹RR w w8 zb e cb k x›.bd hy), hx9 hy]; rfl, ⟨(kR hc9 hR).1, hr9.mono (fun i _ hi => by have := hi.1; omega), (kR hc9 hR).2.2.1, by show xs.length ≤ 1000; omega, (kR hc9 hR).2.2.2.2⟩⟩
      · refine iteF rfl (iteF rfl (iteF rfl (iteF rfl (iteF rfl (step_call (RefEyeText_spec hR.ey 1024) ?_)))))
        rintro v w9 ⟨rfl, hE9, hc9⟩
        refine ⟨_, rfl, (okB hc9).ok 6 rfl, fun w10 e10 => ?_⟩
        exact RR.step (y := readF x .data) hR hE9 (fun h => by show (textE x.2.1 1024).2 = _; rw [textE_bad h]) hR.wr hc9 e10 fun c p hx hR => ⟨{ c with data := (textE x.2.1 1024).1 }, p, rfl, fun hy => by rw [hx (sticky (f := fun s => (textE s 1024).2) rfl ‹RR w w8 zb e cb k x›.bd hy)]; rfl, ⟨(kR hc9 hR).1, (kR hc9 hR).2.1, (kR hc9 hR).2.2.1, (kR hc9 hR).2.2.2.1, by have := textE_len x.2.1; show (textE x.2.1 1024).1.length ≤ 100000; omega⟩⟩
    · have hjn : j = (fldsK k).length := by have := of_decide_eq_false hge; omega
      subst hjn
      rw [List.take_length] at hR
      have hvis : visE k st = (fldsK k).foldl readF (cm0 k, st, false) := rfl
      rw [← hvis] at hR
      have hvk := visE_kind k st
      generalize visE k st = x at hR hpc hvk
      obtain ⟨n1, n2, n3⟩ := hR.n
      have hZ8 := hR.z
      have hc08 := hR.c
      refine ⟨_, hR.ey.cell 1 rfl, fun hb => ?_, fun hb => ⟨_, hR.ey.cell 0 rfl, fun h0 => ?_, fun h0 => ?_⟩⟩
      · have hno : parseC l = none := by rw [hpc, if_neg (fun h => by rw [hR.bd hb] at h; simp [endE] at h)]
        have hBx := hZ8
        have hcx := hc08
        have hB := hBx
        refine ⟨⟨hB.ok 0 rfl, hB.ok 1 rfl, hB.ok 2 rfl, hB.ok 3 rfl, hB.ok 4 rfl, hB.ok 5 rfl, hB.ok 6 rfl⟩, fun w9 e9 => ?_⟩
        obtain ⟨hB9, hc9⟩ := cmOver (cm0 0, p0) hB rfl e9
        refine ⟨_, _, _, _, _, _, _, _, _, _, _, ⟨hB9.cell 0 rfl, hB9.cell 1 rfl, hB9.cell 2 rfl, hB9.cell 3 rfl, hB9.cell 4 rfl, hB9.cell 5 rfl, hB9.cell 6 rfl⟩, p0, ?_, ?_, hcx.trans hc9 (fun i hi he => by omega)⟩
        · unfold parseRV; rw [hno]; rfl
        · rw [hno]; exact CmR.empty _ _ _
      · have hb : x.2.1.2 = false := hb
        rw [str_size] at h0
        have h0 := of_decide_eq_true h0
        have hno : parseC l = none := by rw [hpc, if_neg (fun h => by unfold endE at h; rw [hb, if_neg (by decide), if_neg (by omega)] at h; simp at h)]
        have hBx := hZ8
        have hcx := hc08
        have hB := hBx
        refine ⟨⟨hB.ok 0 rfl, hB.ok 1 rfl, hB.ok 2 rfl, hB.ok 3 rfl, hB.ok 4 rfl, hB.ok 5 rfl, hB.ok 6 rfl⟩, fun w9 e9 => ?_⟩
        obtain ⟨hB9, hc9⟩ := cmOver (cm0 0, p0) hB rfl e9
        refine ⟨_, _, _, _, _, _, _, _, _, _, _, ⟨hB9.cell 0 rfl, hB9.cell 1 rfl, hB9.cell 2 rfl, hB9.cell 3 rfl, hB9.cell 4 rfl, hB9.cell 5 rfl, hB9.cell 6 rfl⟩, p0, ?_, ?_, hcx.trans hc9 (fun i hi he => by omega)⟩
        · unfold parseRV; rw [hno]; rfl
        · rw [hno]; exact CmR.empty _ _ _
      · have hb : x.2.1.2 = false := hb
        rw [str_size] at h0
        have h0 := of_decide_eq_false h0
        have hend : endE x.2.1 = 0 := by unfold endE; rw [hb, if_neg (by decide), if_pos (by omega)]
        obtain ⟨c, p, hC8, hcx, hCR⟩ := hR.cm
        have hcx := hcx hb
        subst hcx
        refine ⟨_, hC8.cell 0 rfl, step_call (RName_spec w8 _) ?_⟩
        rintro v w11 ⟨rfl, hc11⟩
        refine ⟨str (nameL x.1.kind), rfl, ?_⟩
        rw [emp_beq, nameL_emp, hvk]
        have hZ11 := hZ8.keepN hc11
        have hc011 := hc08.andN hc11
        have hs11 := hc11.size
        refine ⟨fun hb => ?_, fun hb => ?_⟩
        · have hno : parseC l = none := by rw [hpc, if_neg (fun h => h.2.2 (of_decide_eq_true hb))]
          have hBx := hZ11
          have hcx := hc011
          have hB := hBx
          refine ⟨⟨hB.ok 0 rfl, hB.ok 1 rfl, hB.ok 2 rfl, hB.ok 3 rfl, hB.ok 4 rfl, hB.ok 5 rfl, hB.ok 6 rfl⟩, fun w9 e9 => ?_⟩
          obtain ⟨hB9, hc9⟩ := cmOver (cm0 0, p0) hB rfl e9
          refine ⟨_, _, _, _, _, _, _, _, _, _, _, ⟨hB9.cell 0 rfl, hB9.cell 1 rfl, hB9.cell 2 rfl, hB9.cell 3 rfl, hB9.cell 4 rfl, hB9.cell 5 rfl, hB9.cell 6 rfl⟩, p0, ?_, ?_, hcx.trans hc9 (fun i hi he => by omega)⟩
          · unfold parseRV; rw [hno]; rfl
          · rw [hno]; exact CmR.empty _ _ _
        · have hy : parseC l = some x.1 := by rw [hpc, if_pos ⟨hend, hR.wr, of_decide_eq_false hb⟩]
          have hC11 := hC8.keepN hc11
          refine ⟨_, _, _, _, _, _, _, _, _, _, _, ⟨hC11.cell 0 rfl, hC11.cell 1 rfl, hC11.cell 2 rfl, hC11.cell 3 rfl, hC11.cell 4 rfl, hC11.cell 5 rfl, hC11.cell 6 rfl⟩, ⟨hZ11.ok 0 rfl, hZ11.ok 1 rfl, hZ11.ok 2 rfl, hZ11.ok 3 rfl, hZ11.ok 4 rfl, hZ11.ok 5 rfl, hZ11.ok 6 rfl⟩, fun w13 e13 => ?_⟩
          obtain ⟨hB13, hc13⟩ := cmOver (x.1, p) hZ11 rfl e13
          refine ⟨_, _, _, _, _, _, _, _, _, _, _, ⟨hB13.cell 0 rfl, hB13.cell 1 rfl, hB13.cell 2 rfl, hB13.cell 3 rfl, hB13.cell 4 rfl, hB13.cell 5 rfl, hB13.cell 6 rfl⟩, p, ?_, ?_, hc011.trans hc13 (fun i hi he => by omega)⟩
          · unfold parseRV; rw [hy]; rfl
          · rw [hy]
            exact ((hCR.keepN hc11).keep hc13 (fun i _ hi he => by omega)).mono' (fun i hi hk => ⟨by omega, hi⟩)
end
end Go.Proofs.Ytamkffjmggbekaa.Ord
