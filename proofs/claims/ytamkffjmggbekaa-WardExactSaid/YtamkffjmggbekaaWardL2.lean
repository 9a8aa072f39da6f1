/- WardFull's contract: of every number the Go function answers true and leaves what was there; the conditions stand in each theorem. -/
import Derived.Test.YtamkffjmggbekaaWardL1
import Derived.Test.YtamkffjmggbekaaVcWardC
set_option linter.unusedVariables false
set_option linter.unusedSimpArgs false
namespace Go.Proofs.Ytamkffjmggbekaa.Ward
open Go Go.Proofs Go.Proofs.Ytamkffjmggbekaa.V Go.Proofs.Ytamkffjmggbekaa.Vc Go.Proofs.Ytamkffjmggbekaa.Conf Go.RowKit

theorem blkRd {w : World} {b T : Nat} {xs : List Int} (h : Blk w b (xs.map (.int .i64)) T) : Rd w (some ⟨b, 0, none⟩) (xs.map (.int .i64)) (· = b) := h.rd
section
variable {W w w' : World} {q q' : AskD × AskP} {F F' D G : Nat → Prop} {wb b : Nat} {pages : Int} {al : List AskD} {cf : CfD} {wt : ByteArray}
/-- A ward with its model, apart from it. -/
structure WB (W w : World) (wb b : Nat) (pages : Int) (al : List AskD) (F : Nat → Prop) : Prop where
  s : WS W w wb pages al F
  r : BrR w b c24 w24
  n : ¬ F b
theorem WB.keepN (h : WB W w wb b pages al F) (hc : Ch Non w w') : WB W w' wb b pages al F := ⟨h.s.keepN hc, Blk.keepN h.r hc, h.n⟩
theorem WB.step {al' : List AskD} (h : WB W w wb b pages al F) (hs : WS W w' wb pages al' F') (hE : ∀ i, F' i → Ext F w w' i) (hc : Ch F w w') : WB W w' wb b pages al' F' :=
  ⟨hs, Blk.keep h.r hc h.n, ext_not hE (Blk.lt h.r) h.n⟩
theorem WB.far (h : WB W w wb b pages al F) (hc : Ch G w w') (hG : ∀ i, i < w.heap.size → G i → W.heap.size ≤ i ∧ ¬ F i ∧ i ≠ b) : WB W w' wb b pages al F := 
  ⟨h.s.far hc (fun i hi hg => ⟨(hG i hi hg).1, (hG i hi hg).2.1⟩), Blk.keep h.r hc (fun hg => (hG b (Blk.lt h.r) hg).2.2 rfl), h.n⟩
end
def a5 : AskD := ⟨5, 1, [1, 1, 1, 1], 2, []⟩
def a6 : AskD := ⟨6, 1, [1, 1, 1, 1], 6, []⟩
set_option maxRecDepth 100000 in
theorem awake_spec (w : World) : Calls Try.prog i_coadjutorlaw24_awake #[] w (Ret fun v w' => v = .bool true ∧ Ch Non w w') := by
  refine coadjutorlaw24_awake.calls ?_
  unfold coadjutorlaw24_awake.vc
  refine step_call (zeros_spec w) ?_
  rintro v w1 ⟨b, rfl, hb0, hb1, hc1⟩
  refine ⟨_, rfl, ?_⟩
  refine step_call (wNew_spec hc1 2 (by omega) (by omega)) ?_
  rintro v w2 ⟨wb, F, rfl, hS2, hF2, hc2⟩
  refine ⟨_, rfl, iteF rfl (iteF rfl ?_)⟩
  refine step_call (New_spec w2 0) ?_
  rintro v w3 ⟨_, hN, hc3⟩
  obtain rfl := hN (by omega)
  refine ⟨_, rfl, iteF rfl (fun w4 e4 w5 e5 => ?_)⟩
  have hP4 := Blk.new e4
  have hA5 := Blk.new e5
  have s4 : w3.heap.size < w4.heap.size := hP4.lt
  have s5 : w4.heap.size < w5.heap.size := hA5.lt
  have s3 := hc3.size
  have hB1 : WB w w2 wb b 2 [] F := ⟨hS2, Blk.keepN hb1 hc2, fun h => by have := hF2 _ h; have : b < w1.heap.size := Blk.lt hb1; omega⟩
  have hB5 := ((hB1.keepN hc3).keepN (Ch.alloc e4)).keepN (Ch.alloc e5)
  have hfa : ¬ F w4.heap.size := fun h => by have := (hS2.f _ h).2; omega
  have hfp : ∀ i, i = w3.heap.size → ¬ F i := fun i hi h => by have := (hS2.f _ h).2; omega
  refine ⟨⟨hA5.ok 0 rfl, hA5.ok 1 rfl, hA5.ok 2 rfl, hA5.ok 3 rfl, hA5.ok 4 rfl⟩, fun w6 e6 => ?_⟩
  obtain ⟨hA6, hc46⟩ := askNew (a5, ⟨some ⟨w3.heap.size, 0, none⟩, 4, none, 0⟩) e5 e6
  have hB6 := ((hB1.keepN hc3).keepN (Ch.alloc e4)).keepN hc46
  have hr6 : Rd w6 (some ⟨w3.heap.size, 0, none⟩) ([1, 1, 1, 1].map (.int .i64)) (· = w3.heap.size) := (blkRd (xs := [1, 1, 1, 1]) hP4).keepN hc46
  have s6 : w4.heap.size < w6.heap.size := hA6.lt
  clear e5 e6 e4 hA5 hP4 hB5
  refine ⟨_, _, _, _, _, _, _, _, _, ⟨hA6.cell 0 rfl, hA6.cell 1 rfl, hA6.cell 2 rfl, hA6.cell 3 rfl, hA6.cell 4 rfl⟩, ?_⟩
  refine step_call (wSubmit_spec (q := (a5, ⟨_, 4, none, 0⟩)) hB6.s hB6.r ⟨hr6, Rd.nil _ _ _, by simp [a5, a6], by simp [a5, a6]⟩ (by decide)) ?_
  rintro v w7 ⟨rfl, F7, hS7, hE7, hc7⟩
  have v1 : subL c24 2 [] a5 = 0 := by decide
  simp only [v1, if_true] at hS7 ⊢
  have hB7 := hB6.step hS7 hE7 hc7
  have hA7 := hA6.keep hc7 hfa
  have hr7 := hr6.keep hc7 (fun i _ hi => hfp i hi)
  have hfa7 := ext_not hE7 s6 hfa
  have hfp7 : ∀ i, i = w3.heap.size → ¬ F7 i := fun i hi => ext_not hE7 (by omega) (hfp i hi)
  have s7 := hc7.size
  refine ⟨_, rfl, _, _, _, _, _, _, _, _, _, ⟨hA7.cell 0 rfl, hA7.cell 1 rfl, hA7.cell 2 rfl, hA7.cell 3 rfl, hA7.cell 4 rfl⟩, ?_⟩
  refine step_call (wSubmit_spec (q := (a5, ⟨_, 4, none, 0⟩)) hB7.s hB7.r ⟨hr7, Rd.nil _ _ _, by simp [a5, a6], by simp [a5, a6]⟩ (by decide)) ?_
  rintro v w8 ⟨rfl, F8, hS8, hE8, hc8⟩
  have v2 : subL c24 2 ([] ++ [a5]) a5 = 9 := by decide
  have v2' : ¬ (9 : Int) = 0 := by decide
  simp only [v2, v2', if_false] at hS8 ⊢
  have hB8 := hB7.step hS8 hE8 hc8
  have hA8 := hA7.keep hc8 hfa7
  have hr8 := hr7.keep hc8 (fun i _ hi => hfp7 i hi)
  have hfa8 := ext_not hE8 (by omega) hfa7
  have hfp8 : ∀ i, i = w3.heap.size → ¬ F8 i := fun i hi => ext_not hE8 (by omega) (hfp7 i hi)
  have s8 := hc8.size
  have hw8 := hB8.s.c.size
  refine ⟨_, rfl, hA8.ok 0 rfl, fun w9 e9 => ?_⟩
  have hA9 := hA8.set e9
  refine ⟨hA9.ok 3 rfl, fun w10 e10 => ?_⟩
  have hA10 := hA9.set e10
  have hc810 : Ch (· = w4.heap.size) w8 w10 := (Ch.set (F := (· = w4.heap.size)) (p := ⟨w4.heap.size, 0, none⟩) e9 rfl).same (Ch.set (F := (· = w4.heap.size)) (p := ⟨w4.heap.size, 3, none⟩) e10 rfl)
  have hbl : b < w1.heap.size := Blk.lt hb1
  have s2 := hc2.size
  have s1 := hc1.size
  have hB10 := hB8.far hc810 (fun i hi he => ⟨by omega, fun h => hfa8 (he ▸ h), by omega⟩)
  have hr10 := hr8.keep hc810 (fun i _ hi he => by omega)
  have hA10 : Blk w10 w4.heap.size (askE (a6, ⟨some ⟨w3.heap.size, 0, none⟩, 4, none, 0⟩)) 32 := hA10
  refine ⟨_, _, _, _, _, _, _, _, _, ⟨hA10.cell 0 rfl, hA10.cell 1 rfl, hA10.cell 2 rfl, hA10.cell 3 rfl, hA10.cell 4 rfl⟩, ?_⟩
  refine step_call (wSubmit_spec (q := (a6, ⟨_, 4, none, 0⟩)) hB10.s hB10.r ⟨hr10, Rd.nil _ _ _, by simp [a5, a6], by simp [a5, a6]⟩ (by decide)) ?_
  rintro v w11 ⟨rfl, F11, hS11, hE11, hc11⟩
  have v3 : subL c24 2 ([] ++ [a5]) a6 = 11 := by decide
  have v3' : ¬ (11 : Int) = 0 := by decide
  simp only [v3, v3', if_false] at hS11 ⊢
  refine ⟨_, rfl, ?_⟩
  clear hA10 hr10 hA9 hA8 hA7 hA6 hr8 hr7 hr6 e9 e10
  refine step_call (wTake_spec hS11 (by decide)) ?_
  rintro v w12 ⟨p12, F12, rfl, hq12, hS12, hE12, hc12⟩
  refine ⟨_, _, _, _, _, _, _, _, _, _, rfl, fun w13 e13 => ?_⟩
  have hA13 := Blk.new e13
  refine ⟨⟨hA13.ok 0 rfl, hA13.ok 1 rfl, hA13.ok 2 rfl, hA13.ok 3 rfl, hA13.ok 4 rfl⟩, fun w14 e14 => ?_⟩
  obtain ⟨hA14, hc14⟩ := askNew (a5, p12) e13 e14
  have hS14 := hS12.keepN hc14
  have hfa14 : ¬ F12 w12.heap.size := fun h => by have := (hS12.f _ h).2; omega
  have s14 := hA14.lt
  refine step_call (wTake_spec hS14 (by decide)) ?_
  rintro v w15 ⟨p15, F15, rfl, hq15, hS15, hE15, hc15⟩
  have hA15 := hA14.keep hc15 hfa14
  refine ⟨_, _, _, _, _, _, _, _, _, _, rfl, fun w16 e16 => ?_⟩
  have hA16 := Blk.new e16
  refine ⟨⟨hA16.ok 0 rfl, hA16.ok 1 rfl, hA16.ok 2 rfl, hA16.ok 3 rfl, hA16.ok 4 rfl⟩, fun w17 e17 => ?_⟩
  obtain ⟨_, hc17⟩ := askNew (ask0.1, p15) e16 e17
  have hA17 := hA15.keepN hc17
  refine iteT rfl (iteT rfl (iteT rfl (iteT rfl ⟨_, hA17.cell 0 rfl, iteT rfl ⟨_, _, _, _, _, _, _, _, _, ⟨hA17.cell 0 rfl, hA17.cell 1 rfl, hA17.cell 2 rfl, hA17.cell 3 rfl, hA17.cell 4 rfl⟩, ?_⟩⟩)))
  refine step_call (Need_spec w17 (a5, p12) (by simp [a5])) ?_
  rintro v w18 ⟨rfl, hc18⟩
  have hn : needN a5 = 2 := by decide
  exact ⟨_, rfl, iteT (by dsimp only; rw [hn]; rfl) ⟨rfl, (hS15.c.andN hc17).andN hc18⟩⟩
def af (i : Int) : AskD := ⟨i, 0, [1], 1, []⟩
def afl (n : Nat) : List AskD := (List.range n).map fun j : Nat => af ((j : Int) + 1)
theorem afl_snoc (n : Nat) : afl (n + 1) = afl n ++ [af ((n : Int) + 1)] := by
  unfold afl
  rw [List.range_succ, List.map_append]; rfl
theorem afl_len (n : Nat) : (afl n).length = n := by simp [afl]
theorem findL_no {al : List AskD} {id : Int} (h : ∀ a ∈ al, a.id ≠ id) : ¬ findL al id ≥ 0 := by
  unfold findL
  have : al.findIdx (fun a => a.id == id) = al.length := List.findIdx_eq_length.2 (fun a ha => by simpa using h a ha)
  rw [this, if_neg (Nat.lt_irrefl _)]; omega
theorem afl_id {n : Nat} {a : AskD} (h : a ∈ afl n) : 1 ≤ a.id ∧ a.id ≤ n := by
  obtain ⟨j, hj, rfl⟩ := List.mem_map.1 h
  have : j < n := by simpa using hj
  show 1 ≤ (j : Int) + 1 ∧ (j : Int) + 1 ≤ n
  omega
theorem sub_full {al : List AskD} {k : Int} (h : ∀ a ∈ al, a.id ≠ k) (h1 : 1 ≤ k) (h2 : k ≤ 200) : subL c24 64 al (af k) = if (al.length : Int) ≥ 16 then 10 else 0 := by
  unfold subL
  have hk : (af k).id = k := rfl
  rw [if_neg (by rw [hk]; simp [af]; omega), hk, if_neg (findL_no h), if_neg (show ¬ checkV c24 (af k).most (af k).prompt ≠ 0 from show ¬ checkV c24 1 [1] ≠ 0 by decide), if_neg (show ¬ needN (af k) > 64 by show ¬ (if (1 : Int) < 1 ∨ (1 : Int) > 32 then (0 : Int) else Int.tdiv (1 + 1 + 2) 4) > 64; decide)]
set_option maxRecDepth 100000 in
theorem WardFull_true (W : World) (n : Int) (h0 : (Lit.int .i64 n).wf = true) : Calls Try.prog i_coadjutorlaw24_WardFull #[.int .i64 n] W (Ret fun v w' => v = .bool true ∧ Ch Non W w') := by
  refine coadjutorlaw24_WardFull.calls _ ?_
  unfold coadjutorlaw24_WardFull.vc
  refine step_call (awake_spec W) ?_
  rintro v w1 ⟨rfl, hC1⟩
  refine ⟨_, rfl, iteF rfl ?_⟩
  refine step_call (wNew_spec hC1 64 (by omega) (by omega)) ?_
  rintro v w2 ⟨wb, F2, rfl, hS2, hF2, hc2⟩
  refine ⟨_, rfl, ?_⟩
  refine step_call (zeros_spec w2) ?_
  rintro v w3 ⟨b, rfl, hb0, hb1, hc3⟩
  have hB3 : WB W w3 wb b 64 [] F2 := ⟨hS2.keepN hc3, hb1, fun h => by have := (hS2.f _ h).2; omega⟩
  obtain ⟨k, hk⟩ : ∃ k, k = IntKind.i64.wrap (100 + IntKind.i64.wrap (Int.tmod (IntKind.u64.wrap n) 100)) := ⟨_, rfl⟩
  have hkb : 100 ≤ k ∧ k ≤ 199 := by
    subst hk
    have h0 : 0 ≤ IntKind.u64.wrap n := by rw [wrap_u64]; omega
    rw [tmod_pos h0]
    have h1 : 0 ≤ IntKind.u64.wrap n % 100 := Int.emod_nonneg _ (by omega)
    have h2 : IntKind.u64.wrap n % 100 < 100 := Int.emod_lt_of_pos _ (by omega)
    rw [wrap_id (x := IntKind.u64.wrap n % 100) (by omega) (by omega), wrap_id (by omega) (by omega)]
    omega
  refine ⟨_, rfl, fun i f w' => ∃ (j : Nat) (F : Nat → Prop), i = (j : Int) + 1 ∧ j ≤ 16 ∧ f = 16 - j ∧ WB W w' wb b 64 (afl j) F, ⟨_, 0, F2, rfl, by omega, rfl, hB3⟩, ?_⟩
  clear hB3 hS2 hF2 hb1 hb0 hc2 hc3
  rintro jk i f w4 ⟨j, F, rfl, hj, rfl, hB⟩
  have one : ∀ {w w' : World}, w' = w.alloc (.cells #[.int .i64 1] 3 (0, 0)) → ∀ i : Int, AskR w' (af i, ⟨some ⟨w.heap.size, 0, none⟩, 1, none, 0⟩) (· = w.heap.size) := fun e i => ⟨blkRd (xs := [1]) (Blk.new e), Rd.nil _ _ _, by simp [af], by simp [af]⟩
  refine ⟨fun hle w5 e5 => ?_, fun hgt => ⟨by decide, fun w7 e7 => ?_⟩⟩
  · have hle : j < 16 := by have := of_decide_eq_true hle; omega
    have hB5 := hB.keepN (Ch.alloc e5)
    refine step_call (wSubmit_spec (q := (af ((j : Int) + 1), ⟨some ⟨w4.heap.size, 0, none⟩, 1, none, 0⟩)) hB5.s hB5.r (one e5 _) (by rw [afl_len]; omega)) ?_
    rintro v w6 ⟨rfl, F6, hS6, hE6, hc6⟩
    have hv : subL c24 64 (afl j) (af ((j : Int) + 1)) = 0 := by
      rw [sub_full (fun a ha => by have := (afl_id ha).2; omega) (by omega) (by omega), afl_len, if_neg (by omega)]
    dsimp only at hS6 ⊢
    rw [hv, if_pos rfl, ← afl_snoc] at hS6
    rw [hv]
    exact ⟨_, rfl, iteF rfl ⟨16 - (j + 1), by omega, j + 1, F6, by rw [wrap_id (by omega) (by omega)]; rfl, by omega, rfl, hB5.step hS6 hE6 hc6⟩⟩
  have hj16 : j = 16 := by have := of_decide_eq_false hgt; omega
  subst hj16
  have hkn : ∀ a ∈ afl 16, a.id ≠ k := fun a ha => by have := (afl_id ha).2; omega
  rw [← hk]
  have hB7 := hB.keepN (Ch.alloc e7)
  refine step_call (wSubmit_spec (q := (af k, ⟨some ⟨w4.heap.size, 0, none⟩, 1, none, 0⟩)) hB7.s hB7.r (one e7 _) (by rw [afl_len]; omega)) ?_
  rintro v w8 ⟨rfl, F8, hS8, hE8, hc8⟩
  have hv : subL c24 64 (afl 16) (af k) = 10 := by rw [sub_full hkn (by omega) (by omega), afl_len]; decide
  dsimp only at hS8 ⊢
  rw [hv, if_neg (by decide)] at hS8
  rw [hv]
  refine ⟨_, rfl, iteF rfl (fun w9 e9 => ?_)⟩
  have hS9 := hS8.keepN (Ch.alloc e9)
  refine step_call (wBack_spec (q := (af k, ⟨some ⟨w8.heap.size, 0, none⟩, 1, none, 0⟩)) hS9 (one e9 _) (by rw [afl_len]; omega)) ?_
  rintro v w10 ⟨rfl, F10, hS10, hE10, hc10⟩
  have hv : ¬ findL (afl 16) (af k).id ≥ 0 := findL_no hkn
  dsimp only at hS10 ⊢
  rw [if_neg hv] at hS10
  rw [if_neg hv]
  refine ⟨_, rfl, iteF rfl ?_⟩
  refine step_call (wBack_spec (q := (⟨3, 0, [], 0, []⟩, ⟨none, 0, none, 0⟩)) (G := Non) hS10 ⟨Rd.nil _ _ _, Rd.nil _ _ _, by decide, by decide⟩ (by rw [List.length_cons, afl_len]; omega)) ?_
  rintro v w11 ⟨rfl, F11, hS11, hE11, hc11⟩
  have hv : findL (af k :: afl 16) 3 ≥ 0 := by
    unfold findL
    have hlt : (af k :: afl 16).findIdx (fun a => a.id == 3) < (af k :: afl 16).length := List.findIdx_lt_length.2 ⟨af 3, List.mem_cons_of_mem _ (List.mem_map.2 ⟨2, by decide, rfl⟩), by decide⟩
    rw [if_pos hlt]; omega
  dsimp only at hS11 ⊢
  rw [if_pos hv] at hS11
  rw [if_pos hv]
  refine ⟨_, rfl, iteF rfl ?_⟩
  refine step_call (wTake_spec hS11 (by rw [List.length_cons, afl_len]; omega)) ?_
  rintro v w12 ⟨p12, F12, rfl, hq12, hS12, hE12, hc12⟩
  refine ⟨_, _, _, _, _, _, _, _, _, _, rfl, fun w13 e13 => ?_⟩
  have hA13 := Blk.new e13
  refine ⟨⟨hA13.ok 0 rfl, hA13.ok 1 rfl, hA13.ok 2 rfl, hA13.ok 3 rfl, hA13.ok 4 rfl⟩, fun w14 e14 => ?_⟩
  obtain ⟨hA14, hc14⟩ := askNew (af k, p12) e13 e14
  have hS14 := hS12.keepN hc14
  have hfa14 : ¬ F12 w12.heap.size := fun h => by have := (hS12.f _ h).2; omega
  have s14 := hA14.lt
  have htl : (af k :: afl 16).tail = afl 16 := rfl
  rw [htl] at hS14
  refine step_call (wTake_spec hS14 (by rw [afl_len]; omega)) ?_
  rintro v w15 ⟨p15, F15, rfl, hq15, hS15, hE15, hc15⟩
  have hA15 := hA14.keep hc15 hfa14
  have s15 := hc15.size
  refine ⟨_, _, _, _, _, _, _, _, _, _, rfl, fun w16 e16 => ?_⟩
  have hA16 := Blk.new e16
  refine ⟨⟨hA16.ok 0 rfl, hA16.ok 1 rfl, hA16.ok 2 rfl, hA16.ok 3 rfl, hA16.ok 4 rfl⟩, fun w17 e17 => ?_⟩
  obtain ⟨hB17, hc17⟩ := askNew (af 1, p15) e16 e17
  have hA17 := hA15.keepN hc17
  have hd : decide (0 < (af k :: afl 16).length) = true := by simp
  have hd2 : decide (0 < (afl 16).length) = true := by rw [afl_len]; rfl
  refine iteT hd (iteT hd2 ⟨_, hA17.cell 0 rfl, iteT (by simp [af]) ⟨_, hB17.cell 0 rfl, iteT rfl ?_⟩⟩)
  have hS17 := hS15.keepN hc17
  refine step_call (wIds_spec hS17 (by simp [afl_len])) ?_
  rintro v w18 ⟨o, c, rfl, _, hc18⟩
  exact ⟨_, _, _, rfl, by simp [afl_len], hS17.c.andN hc18⟩
end Go.Proofs.Ytamkffjmggbekaa.Ward
