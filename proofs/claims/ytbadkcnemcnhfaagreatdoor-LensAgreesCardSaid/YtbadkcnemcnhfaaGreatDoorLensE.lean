/- For every two models: what Changes, Blend and Same answer; the conditions stand in each theorem. -/
import Derived.Test.YtbadkcnemcnhfaaGreatDoorLensD
import Derived.Test.YtbadkcnemcnhfaaGreatDoorPen
set_option linter.unusedVariables false
set_option linter.unusedSimpArgs false
namespace Go.Proofs.YtbadkcnemcnhfaaGreatDoor.Lens
open Go Go.Proofs Go.Proofs.YtbadkcnemcnhfaaGreatDoor.V Go.Proofs.YtbadkcnemcnhfaaGreatDoor.Vc Go.Proofs.YtbadkcnemcnhfaaGreatDoor.Conf Go.Proofs.YtbadkcnemcnhfaaGreatDoor.Brain Go.Proofs.YtbadkcnemcnhfaaGreatDoor.Num Go.RowKit

/-- A change: part, block, count, most. -/
abbrev ChD := Nat × Nat × Int × Int
def chE (x : ChD) : List Value := [.int .i64 x.1, .int .i64 x.2.1, .int .i64 x.2.2.1, .int .i64 x.2.2.2]
def chAt (c : CfD) (wa wb : ByteArray) (pl : Nat × Nat) : ChD := (pl.1, pl.2, countD (tabP c wa pl.1 pl.2) (tabP c wb pl.1 pl.2), mostD (tabP c wa pl.1 pl.2) (tabP c wb pl.1 pl.2))
def isCh (x : ChD) : Bool := decide (x.2.2.1 > 0)
def chOf (c : CfD) (wa wb : ByteArray) (l : List (Nat × Nat)) : List ChD := (l.map (chAt c wa wb)).filter isCh
def chL (c : CfD) (wa wb : ByteArray) : List ChD := chOf c wa wb (placesL c.blocks.toNat)
section
variable {w w' : World} {ba bb : Nat} {c d : CfD} {wa wb : ByteArray} {xs ys : List Int} {F G : Nat → Prop}
theorem chOf_snoc (c : CfD) (wa wb : ByteArray) (l : List (Nat × Nat)) (x : Nat × Nat) : chOf c wa wb (l ++ [x]) = chOf c wa wb l ++ (if isCh (chAt c wa wb x) then [chAt c wa wb x] else []) := by
  unfold chOf
  rw [List.map_append, List.filter_append]
  congr 1
  rw [List.map_singleton, List.filter_cons, List.filter_nil]
theorem chOf_len (c : CfD) (wa wb : ByteArray) (l : List (Nat × Nat)) : (chOf c wa wb l).length ≤ l.length := by
  unfold chOf
  exact Nat.le_trans (List.length_filter_le _ _) (by rw [List.length_map]; exact Nat.le_refl _)
set_option maxHeartbeats 1000000 in
theorem Changes_spec (h : BrK w ba c wa) (k : BrK w bb d wb) : Calls Tryz.prog i_lens_Changes #[.pointer (some ⟨ba, 0, none⟩), .pointer (some ⟨bb, 0, none⟩)] w (Ret fun v w' => Ch Non w w' ∧ (c ≠ d → v = .tuple #[.slice none 0 0, .int .i64 1]) ∧ (c = d → ∃ (o : Option Addr) (cp : Nat), v = .tuple #[.slice o (chL c wa wb).length cp, .int .i64 0] ∧ Rd w' o ((chL c wa wb).map chE).flatten (New w w'))) := by
  refine lens_Changes.calls _ _ ?_
  unfold lens_Changes.vc
  refine step_call (check_spec h k) ?_
  rintro v w1 ⟨rfl, hc1⟩
  by_cases hcd : c = d
  case neg =>
    have : sameC c d = false := by rw [← Bool.not_eq_true, sameC_iff]; exact hcd
    rw [this]
    exact ⟨_, rfl, fun _ => ⟨hc1, fun _ => rfl, fun e => absurd e hcd⟩, fun hf => by simp at hf⟩
  subst hcd
  rw [sameC_iff.2 rfl]
  have hA : Blk w ba (cfE c ++ [.string wa]) t_brain_Brain := h.r
  have hA1 := hA.keepN hc1
  refine ⟨_, rfl, iteF rfl ⟨_, _, _, _, _, _, ⟨hA1.cell 0 rfl, hA1.cell 1 rfl, hA1.cell 2 rfl, hA1.cell 3 rfl, hA1.cell 4 rfl, hA1.cell 5 rfl⟩, step_call (places_spec w1 h.ok) ?_⟩⟩
  rintro v w2 ⟨po, pc, rfl, hpr, hc2⟩
  have hpok := places_ok h.ok
  have hpl : (placesL c.blocks.toNat).length ≤ 100 := by
    have := h.ok.2.2.2.1
    unfold placesL
    rw [List.length_append, placesTo_len]; simp; omega
  unfold chL
  generalize placesL c.blocks.toNat = P at hpr hpok hpl ⊢
  have hc02 := hc1.andN hc2
  refine ⟨_, _, _, rfl, fun o n cp i k w' => ∃ j : Nat, i = j ∧ j ≤ P.length ∧ k = P.length - j ∧ n = (chOf c wa wb (P.take j)).length ∧ Gr Non w2 w' t_lens_Change 4 o (chOf c wa wb (P.take j)).length cp ((chOf c wa wb (P.take j)).map chE).flatten, ⟨_, 0, rfl, Nat.zero_le _, rfl, rfl, Gr.nil (Ch.refl _ _)⟩, ?_⟩
  rintro jk o n cp i k w3 ⟨j, rfl, hj, rfl, rfl, hg⟩
  have hc23 := hg.2
  refine ⟨fun hlt => ?_, fun hge => ?_⟩
  · have hlt : j < P.length := by have := of_decide_eq_true hlt; omega
    obtain ⟨a, had, _, _, hcell⟩ := Rd.elem (sz := 2) (enc := plE) (hpr.keepN hc23) (fun _ => rfl) (by omega) hlt
    subst had
    have hc0 := hcell 0 _ rfl
    rw [add_none] at hc0
    have hc1' := hcell 1 _ rfl
    have hok := hpok _ (List.getElem_mem hlt)
    have hsn := take_snoc P j hlt
    have hcl := chOf_len c wa wb (P.take j)
    rw [List.length_take] at hcl
    generalize P[j] = pl at hc0 hc1' hok hsn
    obtain ⟨p, b⟩ := pl
    refine ⟨⟨by omega, by omega⟩, _, _, ⟨hc0, hc1'⟩, fun w4 e4 => ?_⟩
    have hX := Blk.new e4
    refine ⟨⟨hX.ok 0 rfl, hX.ok 1 rfl⟩, fun w5 e5 => ?_⟩
    have e5' : w5 = w4.setCells w3.heap.size 0 [.int .i64 p, .int .i64 b] := e5
    have hX5 := hX.all [.int .i64 p, .int .i64 b] rfl e5'
    have hc35 : Ch Non w3 w5 := (Ch.alloc (F := Non) e4).trans (Ch.sets (F := (· = w3.heap.size)) e5' rfl) (fun i hi he => by omega)
    have hc05 := (hc02.andN hc23).andN hc35
    refine ⟨_, hX5.cell 0 rfl, _, hX5.cell 1 rfl, step_call (Table_spec (h.keepN hc05) hok) ?_⟩
    rintro v w6 ⟨A6, C6, rfl, _, hr6, hc6⟩
    refine ⟨_, _, _, _, _, _, rfl, fun w7 e7 => ?_⟩
    have hY := Blk.new e7
    refine ⟨⟨hY.ok 0 rfl, hY.ok 1 rfl, hY.ok 2 rfl⟩, fun w8 e8 => ?_⟩
    have e8' : w8 = w7.setCells w6.heap.size 0 [.int .i64 (side c p).1, .int .i64 (side c p).2, .slice A6 (tabP c wa p b).length C6] := e8
    have hY8 := hY.all [.int .i64 (side c p).1, .int .i64 (side c p).2, .slice A6 (tabP c wa p b).length C6] rfl e8'
    have hc68 : Ch Non w6 w8 := (Ch.alloc (F := Non) e7).trans (Ch.sets (F := (· = w6.heap.size)) e8' rfl) (fun i hi he => by omega)
    have hc58 := hc6.andN hc68
    have hX8 := hX5.keepN hc58
    refine ⟨_, hX8.cell 0 rfl, _, hX8.cell 1 rfl, step_call (Table_spec ((k.keepN hc05).keepN hc58) hok) ?_⟩
    rintro v w9 ⟨A9, C9, rfl, _, hr9, hc9⟩
    refine ⟨_, _, _, _, _, _, rfl, fun w10 e10 => ?_⟩
    have hZ := Blk.new e10
    refine ⟨⟨hZ.ok 0 rfl, hZ.ok 1 rfl, hZ.ok 2 rfl⟩, fun w11 e11 => ?_⟩
    have e11' : w11 = w10.setCells w9.heap.size 0 [.int .i64 (side c p).1, .int .i64 (side c p).2, .slice A9 (tabP c wb p b).length C9] := e11
    have hZ11 := hZ.all [.int .i64 (side c p).1, .int .i64 (side c p).2, .slice A9 (tabP c wb p b).length C9] rfl e11'
    have hc911 : Ch Non w9 w11 := (Ch.alloc (F := Non) e10).trans (Ch.sets (F := (· = w9.heap.size)) e11' rfl) (fun i hi he => by omega)
    have hX11 := (hX8.keepN hc9).keepN hc911
    have hY11 := (hY8.keepN hc9).keepN hc911
    have hla := tab_len h.ok h.sz hok
    have hlb := tab_len k.ok k.sz hok
    have hle := from_le h.ok.small hok
    refine ⟨_, _, ⟨hX11.cell 0 rfl, hX11.cell 1 rfl⟩, _, _, _, _, _, ⟨hY11.cell 0 rfl, hY11.cell 1 rfl, hY11.cell 2 rfl⟩, _, _, _, _, _, ⟨hZ11.cell 0 rfl, hZ11.cell 1 rfl, hZ11.cell 2 rfl⟩, ?_⟩
    refine step_call (change_spec (xs := tabP c wa p b) (ys := tabP c wb p b) (((hr6.keepN hc68).keepN hc9).keepN hc911) (hr9.keepN hc911) (numsB_8 _) (numsB_8 _) (by rw [hla, hlb]) (by rw [hla]; omega)) ?_
    rintro v w12 ⟨rfl, hc12⟩
    refine ⟨_, _, _, _, rfl, fun w13 e13 => ?_⟩
    have hU := Blk.new e13
    refine ⟨⟨hU.ok 0 rfl, hU.ok 1 rfl, hU.ok 2 rfl, hU.ok 3 rfl⟩, fun w14 e14 => ?_⟩
    have e14' : w14 = w13.setCells w12.heap.size 0 (chE (chAt c wa wb (p, b))) := e14
    have hU14 := hU.all (chE (chAt c wa wb (p, b))) rfl e14'
    have hc1214 : Ch Non w12 w14 := (Ch.alloc (F := Non) e13).trans (Ch.sets (F := (· = w12.heap.size)) e14' rfl) (fun i hi he => by omega)
    have hc314 := hc35.andN (hc58.andN (((hc9.andN hc911).andN hc12).andN hc1214))
    have hstep := chOf_snoc c wa wb (P.take j) (p, b)
    rw [← hsn] at hstep
    refine ⟨_, hU14.cell 2 rfl, fun hpos => ?_, fun hz => ?_⟩
    · have hi : isCh (chAt c wa wb (p, b)) = true := hpos
      rw [hi, if_pos rfl] at hstep
      refine ⟨_, _, _, _, ⟨hU14.cell 0 rfl, hU14.cell 1 rfl, hU14.cell 2 rfl, hU14.cell 3 rfl⟩, fun w15 e15 => ?_⟩
      obtain ⟨o', c', w16, hr, hg16, _⟩ := (hg.keepN hc314).push el_S_lens_Change t_S_lens_Change e15 rfl rfl (by omega) (by omega)
      refine ⟨o', _, c', w16, hr, P.length - (j + 1), by omega, j + 1, by rw [wrap_id (by omega) (by omega)]; rfl, hlt, rfl, ?_, ?_⟩
      · rw [hstep, List.length_append]; rfl
      · rw [hstep, List.length_append, List.map_append, List.flatten_append]; exact hg16
    · have hi : isCh (chAt c wa wb (p, b)) = false := hz
      rw [hi, if_neg (by simp), List.append_nil] at hstep
      refine ⟨P.length - (j + 1), by omega, j + 1, by rw [wrap_id (by omega) (by omega)]; rfl, hlt, rfl, ?_, ?_⟩
      · rw [hstep]
      · rw [hstep]; exact hg.keepN hc314
  · have hje : j = P.length := by have := of_decide_eq_false hge; omega
    subst hje
    rw [List.take_length] at hg ⊢
    have hs := hc02.size
    exact ⟨hc02.andN hc23, fun e => absurd rfl e, fun _ => ⟨o, cp, rfl, hg.rd.mono (fun i _ hi => ⟨by have := hi.1; omega, hi.2⟩)⟩⟩
/-- A weight between two. -/
def blendI (num den a b : Int) : UInt8 := UInt8.ofNat ((a + Int.tdiv (num * (b - a)) den) % 256).toNat
def blendL (num den : Int) (xs ys : List Int) : List UInt8 := List.zipWith (blendI num den) xs ys
def okND (num den : Int) : Prop := 1 ≤ den ∧ den ≤ 1000 ∧ 0 ≤ num ∧ num ≤ den
theorem tdiv_le {a n d : Int} {M : Int} (hd : 1 ≤ d) (hn : 0 ≤ n ∧ n ≤ d) (h : -M ≤ a ∧ a ≤ M) (hM : 0 ≤ M) : -M ≤ Int.tdiv (n * a) d ∧ Int.tdiv (n * a) d ≤ M := by
  have hab : (Int.tdiv (n * a) d).natAbs ≤ M.toNat := by
    rw [Int.natAbs_tdiv, Int.natAbs_mul]
    have h1 : n.natAbs * a.natAbs ≤ d.natAbs * M.toNat := Nat.mul_le_mul (by omega) (by omega)
    exact Nat.div_le_of_le_mul h1
  omega
theorem blend_val {num den a b : Int} (hk : okND num den) (ha : -128 ≤ a ∧ a ≤ 127) (hb : -128 ≤ b ∧ b ≤ 127) :
    Value.int .u8 (IntKind.u8.wrap (IntKind.i64.wrap (IntKind.i64.wrap a + IntKind.i64.wrap (Int.tdiv (IntKind.i64.wrap (num * IntKind.i64.wrap (IntKind.i64.wrap b - IntKind.i64.wrap a))) den)))) = u8v (blendI num den a b) := by
  obtain ⟨h1, h2, h3, h4⟩ := hk
  have hmul : -(1000 * 255) ≤ num * (b - a) ∧ num * (b - a) ≤ 1000 * 255 := by
    have hab : (num * (b - a)).natAbs ≤ 1000 * 255 := by
      rw [Int.natAbs_mul]
      exact Nat.mul_le_mul (by omega) (by omega)
    omega
  have hdv := tdiv_le (a := b - a) (M := 255) h1 ⟨h3, h4⟩ ⟨by omega, by omega⟩ (by omega)
  rw [wrap_id (x := a) (by omega) (by omega), wrap_id (x := b) (by omega) (by omega), wrap_id (x := b - a) (by omega) (by omega), wrap_id (x := num * (b - a)) (by omega) (by omega), wrap_id (x := Int.tdiv (num * (b - a)) den) (by omega) (by omega), wrap_id (by omega) (by omega)]
  unfold blendI u8v
  congr 1
  generalize a + Int.tdiv (num * (b - a)) den = z
  show z % 256 = _
  have h0 := Int.emod_nonneg z (show (256 : Int) ≠ 0 by omega)
  have h1 := Int.emod_lt_of_pos z (show (0 : Int) < 256 by omega)
  simp
  omega
theorem blendL_at (num den : Int) {A B : List Int} (hl : A.length = B.length) {j : Nat} (h1 : j < A.length) : (blendL num den A B)[j]? = some (blendI num den A[j] (B[j]'(by omega))) := by
  unfold blendL
  rw [List.getElem?_eq_getElem (by rw [List.length_zipWith]; omega), List.getElem_zipWith]
set_option maxHeartbeats 1000000 in
theorem Blend_spec (h : BrK w ba c wa) (k : BrK w bb d wb) (num den : Int) : Calls Tryz.prog i_lens_Blend #[.pointer (some ⟨ba, 0, none⟩), .pointer (some ⟨bb, 0, none⟩), .int .i64 num, .int .i64 den] w (Ret fun v w' => Ch Non w w' ∧ (¬ (c = d ∧ okND num den) → v = .tuple #[.pointer none, .int .i64 1]) ∧ (c = d → okND num den → ∃ bz, v = .tuple #[.pointer (some ⟨bz, 0, none⟩), .int .i64 0] ∧ BrK w' bz c ⟨(blendL num den (Vecs.numsB wa) (Vecs.numsB wb)).toArray⟩)) := by
  refine lens_Blend.calls _ _ _ _ ?_
  unfold lens_Blend.vc
  refine step_call (check_spec h k) ?_
  rintro v w1 ⟨rfl, hc1⟩
  by_cases hcd : c = d
  case neg =>
    have : sameC c d = false := by rw [← Bool.not_eq_true, sameC_iff]; exact hcd
    rw [this]
    exact ⟨_, rfl, fun _ => ⟨hc1, fun _ => rfl, fun e => absurd e hcd⟩, fun hf => by simp at hf⟩
  rw [sameC_iff.2 hcd]
  have no : ¬ okND num den → Ch Non w w1 ∧ (¬ (c = d ∧ okND num den) → Value.tuple #[.pointer none, .int .i64 1] = .tuple #[.pointer none, .int .i64 1]) ∧ (c = d → okND num den → ∃ bz, Value.tuple #[.pointer none, .int .i64 1] = .tuple #[.pointer (some ⟨bz, 0, none⟩), .int .i64 0] ∧ BrK w1 bz c ⟨(blendL num den (Vecs.numsB wa) (Vecs.numsB wb)).toArray⟩) := fun hn => ⟨hc1, fun _ => rfl, fun _ k => absurd k hn⟩
  unfold okND at no
  refine ⟨_, rfl, iteF rfl ⟨fun hx => no (by have := of_decide_eq_true hx; omega), fun x1 => ⟨fun hx => no (by have := of_decide_eq_true hx; omega), fun x2 => ⟨fun hx => no (by have := of_decide_eq_true hx; omega), fun x3 => ⟨fun hx => no (by have := of_decide_eq_true hx; omega), fun x4 => ?_⟩⟩⟩⟩⟩
  have x1 := of_decide_eq_false x1
  have x2 := of_decide_eq_false x2
  have x3 := of_decide_eq_false x3
  have x4 := of_decide_eq_false x4
  have hk : okND num den := ⟨by omega, by omega, by omega, by omega⟩
  clear no
  subst hcd
  have hsa := size_le h
  have hsb := size_le k
  have hss : wa.size = wb.size := by have h1 := h.sz; have h2 := k.sz; omega
  refine step_call (weights_spec (k.keepN hc1)) ?_
  rintro v w2 ⟨⟨ob, cb, rfl, hrb⟩, hc2⟩
  have hlb : (Vecs.numsB wb).length = wb.size := Vecs.numsB_len wb
  have hla : (Vecs.numsB wa).length = wa.size := Vecs.numsB_len wa
  refine ⟨_, _, _, rfl, ⟨rfl, by omega, by omega⟩, fun w3 e3 => ?_⟩
  rw [Int.toNat_natCast, zeroRow_rep] at e3
  have hZ3 := Blk.new e3
  have hc3 : Ch Non w2 w3 := Ch.alloc e3
  have hl3 := hZ3.lt
  refine step_call (weights_spec (((h.keepN hc1).keepN hc2).keepN hc3)) ?_
  rintro v w4 ⟨⟨oa, ca, rfl, hra⟩, hc4⟩
  have hrb := (hrb.keepN hc3).keepN hc4
  have hZ4 := hZ3.keepN hc4
  have ha8 := numsB_8 wa
  have hb8 := numsB_8 wb
  have hc04 := ((hc1.andN hc2).andN hc3).andN hc4
  have hs4 := hc4.size
  have hs2 := (hc1.andN hc2).size
  obtain ⟨A, hAd⟩ : ∃ A, Vecs.numsB wa = A := ⟨_, rfl⟩
  obtain ⟨B, hBd⟩ : ∃ B, Vecs.numsB wb = B := ⟨_, rfl⟩
  rw [hAd] at ha8 hla hra ⊢
  rw [hBd] at hb8 hlb hrb hZ4 ⊢
  have hAB : A.length = B.length := by omega
  obtain ⟨L, hL⟩ : ∃ L, blendL num den A B = L := ⟨_, rfl⟩
  have hLl : L.length = A.length := by rw [← hL]; unfold blendL; rw [List.length_zipWith]; omega
  rw [hL]
  refine ⟨_, _, _, rfl, fun i k w' => ∃ j : Nat, i = j ∧ j ≤ L.length ∧ k = L.length - j ∧ Blk w' w2.heap.size ((fillTo L 0 j).map u8v) t_uint8 ∧ Ch (· = w2.heap.size) w4 w', ⟨_, 0, rfl, Nat.zero_le _, rfl, ?_, Ch.refl _ _⟩, ?_⟩
  · rw [fillTo_zero, hLl, hAB]; simpa [u8v] using hZ4
  rintro jk i k w5 ⟨j, rfl, hj, rfl, hZ, hc⟩
  have hW : Ch Non w w5 := hc04.trans hc (fun i hi he => by omega)
  rw [Int.toNat_natCast]
  refine ⟨fun hlt => ?_, fun hge => ?_⟩
  · have hlt : j < L.length := by have := of_decide_eq_true hlt; omega
    have hltA : j < A.length := by omega
    have hltB : j < B.length := by omega
    have hval := blend_val hk (ha8 _ (List.getElem_mem hltA)) (hb8 _ (List.getElem_mem hltB))
    have hLj : L[j] = blendI num den A[j] B[j] := by
      have := blendL_at num den hAB hltA
      rw [hL, List.getElem?_eq_getElem hlt] at this
      injection this
    refine ⟨⟨by omega, by omega⟩, (hra.keep hc (fun i _ hi he => by have := hi.1; omega)).at (j := (j : Int).toNat * 1) (v := .int .i8 A[j]) (by simp [hltA]) fun p hp => ⟨_, hp, ⟨by omega, by omega⟩, (hrb.keep hc (fun i _ hi he => by have := hi.2; omega)).at (j := (j : Int).toNat * 1) (v := .int .i8 B[j]) (by simp [hltB]) fun p2 hp2 => ⟨_, hp2, by omega, ⟨by omega, by omega⟩, ?_⟩⟩⟩
    rw [hval, ← hLj, add_at, show 0 + j * 1 = j by omega]
    refine ⟨hZ.ok j (v := u8v ((fillTo L 0 j)[j]'(by rw [fillTo_len]; exact hlt))) (by rw [List.getElem?_map, List.getElem?_eq_getElem (by rw [fillTo_len]; exact hlt)]; rfl), fun w6 e6 => ⟨L.length - (j + 1), by omega, j + 1, by rw [wrap_id (by omega) (by omega)]; rfl, hlt, rfl, ?_, hc.same (Ch.set e6 rfl)⟩⟩
    have h4 := hZ.set e6
    rw [← List.map_set, fillTo_set hlt] at h4
    exact h4
  · have hje : j = L.length := by have := of_decide_eq_false hge; omega
    subst hje
    rw [fillTo_all] at hZ
    have hA5 : Blk w5 ba (cfE c ++ [.string wa]) t_brain_Brain := Blk.keepN h.r hW
    refine ⟨fun w' => Ch Non w5 w', fun w7 e7 => ⟨Ch.drew e7, _, _, _, _, _, _, ⟨fun w' k => (hA5.keepN k).cell 0 rfl, fun w' k => (hA5.keepN k).cell 1 rfl, fun w' k => (hA5.keepN k).cell 2 rfl, fun w' k => (hA5.keepN k).cell 3 rfl, fun w' k => (hA5.keepN k).cell 4 rfl, fun w' k => (hA5.keepN k).cell 5 rfl⟩, ?_⟩⟩
    have hd7 : Ch Non w5 w7 := Ch.drew e7
    have hout := conv_out (P := Tryz.prog) (src := 64) (dst := 9) (e := 5) (c := L.length) (hZ.keepN hd7).rd (by kernel_rfl) (by kernel_rfl) (by kernel_rfl)
    rw [show B.length = L.length by omega]
    refine ⟨_, _, hout, hd7, step_call (brOf_spec w7 c _) ?_⟩
    rintro v w10 ⟨hc10, hy, _, _⟩
    obtain ⟨bz, rfl, hbz, hbr⟩ := hy ⟨h.ok, by
      show ((ByteArray.mk L.toArray).size : Int) = _
      have hsz := h.sz
      have : (ByteArray.mk L.toArray).size = L.length := by simp [ByteArray.size]
      omega⟩
    have hc57 := hd7.andN hc10
    refine ⟨_, _, rfl, hc57, hW.andN hc57, fun hn => absurd ⟨rfl, hk⟩ hn, fun _ _ => ⟨bz, rfl, hbr, h.ok, ?_⟩⟩
    have hsz := h.sz
    have : (ByteArray.mk L.toArray).size = L.length := by simp [ByteArray.size]
    omega
end
end Go.Proofs.YtbadkcnemcnhfaaGreatDoor.Lens
