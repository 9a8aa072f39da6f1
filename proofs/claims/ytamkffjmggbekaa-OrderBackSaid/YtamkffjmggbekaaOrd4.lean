/- For every command and all bytes: what Bytes, Parse, All and Split answer; the conditions stand in each theorem. -/
import Derived.Test.YtamkffjmggbekaaOrd3
import Derived.Test.YtamkffjmggbekaaDat
set_option linter.unusedVariables false
set_option linter.unusedSimpArgs false
namespace Go.Proofs.Ytamkffjmggbekaa.Ord
open Go Go.Proofs Go.Proofs.Ytamkffjmggbekaa.V Go.Proofs.Ytamkffjmggbekaa.Vc Go.Proofs.Ytamkffjmggbekaa.Pen Go.RowKit

def bytesC (c : CmD) : List UInt8 := UInt8.ofNat c.kind.toNat :: visB c
structure GoodP (c : CmD) : Prop where
  k : ¬ badK c.kind
  r : restC c = cm0 c.kind
  i : numOk c.id
  n : numOk c.n
  p : c.prompt.length ≤ 32 ∧ ∀ x ∈ c.prompt, numOk x
  d : c.draws.length ≤ 32 ∧ ∀ x ∈ c.draws, numOk x
  t : c.data.length ≤ 1024
theorem rowOk_iff {l : List Int} : rowOk l = true ↔ l.length ≤ 32 ∧ ∀ x ∈ l, numOk x := by
  unfold rowOk
  rw [Bool.and_eq_true, decide_eq_true_eq, Bool.not_eq_true', List.any_eq_false]
  simp
theorem goodC_iff {c : CmD} : goodC c = true ↔ GoodP c := by
  unfold goodC
  simp only [Bool.and_eq_true, Bool.not_eq_true', decide_eq_false_iff_not, decide_eq_true_eq, rowOk_iff]
  exact ⟨fun ⟨a, b, c, d, e, f, g⟩ => ⟨a, b, c, d, e, f, g⟩, fun ⟨a, b, c, d, e, f, g⟩ => ⟨a, b, c, d, e, f, g⟩⟩
theorem fldB_len {c : CmD} (h : GoodP c) (f : Fld) : (fldB c f).length ≤ 2000 := by
  cases f
  · show (numI _).length ≤ 2000; rw [numI_len]; omega
  · show (numI _).length ≤ 2000; rw [numI_len]; omega
  · show [_].length ≤ 2000; simp
  · show (rowB _).length ≤ 2000
    have := h.p.1
    unfold rowB; rw [List.length_append, numI_len, numsL_len, List.length_map]; omega
  · show (rowB _).length ≤ 2000
    have := h.d.1
    unfold rowB; rw [List.length_append, numI_len, numsL_len, List.length_map]; omega
  · show (textB _).length ≤ 2000
    have := h.t
    unfold textB; rw [List.length_append, numI_len, str_data]; omega
theorem flat_len {c : CmD} (h : GoodP c) : ∀ l : List Fld, ((l.map (fldB c)).flatten).length ≤ 2000 * l.length
  | [] => by simp
  | f :: r => by
    have := fldB_len h f
    have := flat_len h r
    rw [List.map_cons, List.flatten_cons, List.length_append, List.length_cons]; omega
theorem fldsK_len (k : Int) : (fldsK k).length ≤ 4 := by
  unfold fldsK
  (repeat' split) <;> simp
theorem bytesC_len {c : CmD} (h : GoodP c) : (bytesC c).length ≤ 8001 := by
  have := flat_len h (fldsK c.kind)
  have := fldsK_len c.kind
  unfold bytesC visB
  rw [List.length_cons]; omega
theorem writer_type : BType t_order_writer 3 := by unfold BType; kernel_rfl
section
variable {w w' : World} {q : CmD × RwP} {D G : Nat → Prop} {o : Option Addr}
theorem Bytes_spec (h : CmR w q D) (hDl : ∀ i, D i → i < w.heap.size) : Calls Try.prog i_order_Bytes #[.agg (cmE q).toArray] w (Ret fun v w' => v = .tuple #[.string (str (if goodC q.1 = true then bytesC q.1 else [])), .int .i64 (if goodC q.1 = true then 0 else 1)] ∧ Ch Non w w') := by
  refine order_Bytes.calls _ _ _ _ _ _ _ _ _ _ _ ?_
  unfold order_Bytes.vc
  intro w1 e1
  have hA : Blk w1 w.heap.size (cmE q) t_order_Command := Blk.new e1
  have hc1 : Ch Non w w1 := Ch.alloc e1
  have s1 := hA.lt
  refine ⟨_, _, _, _, _, _, _, _, _, _, _, ⟨hA.cell 0 rfl, hA.cell 1 rfl, hA.cell 2 rfl, hA.cell 3 rfl, hA.cell 4 rfl, hA.cell 5 rfl, hA.cell 6 rfl⟩, ?_⟩
  refine step_call (Good_spec (h.keepN hc1)) ?_
  rintro v w2 ⟨rfl, hc2⟩
  refine ⟨_, rfl, fun hg => ?_, fun hg w3 e3 => ?_⟩
  · have hg : ¬ goodC q.1 = true := by simpa using hg
    rw [if_neg hg, if_neg hg]
    exact ⟨rfl, hc1.andN hc2⟩
  have hg : goodC q.1 = true := by simpa using hg
  have hG := goodC_iff.1 hg
  rw [if_pos hg, if_pos hg]
  have hc02 := hc1.andN hc2
  have hA3 := (hA.keepN hc2).alloc e3
  have hw3 : PW w w3 w2.heap.size [] (New w2 w3) := ⟨Bld.made e3 writer_type, Foot.new hc02, hc02.andN (Ch.alloc e3)⟩
  refine ⟨_, hA3.cell 0 rfl, fun w4 e4 => ?_⟩
  have hk := kinds hG.k
  have hku : Value.int .u8 (IntKind.u8.wrap q.1.kind) = u8v (UInt8.ofNat q.1.kind.toNat) := u8_of (by omega)
  rw [hku] at e4
  have hb4 : Blk w4 w3.heap.size ([UInt8.ofNat q.1.kind.toNat].map u8v) 5 := Blk.new e4
  have s2 := hc2.size
  have s3 : w2.heap.size < w3.heap.size := (Blk.new e3).lt
  refine step_call (PenByte_spec (hw3.p.keepN (Ch.alloc e4)) hb4.rd (fun i hi => by omega) (by simp) 1) ?_
  rintro v w5 ⟨rfl, hp5, hc5⟩
  obtain ⟨F5, hP5, hE5, hc35⟩ := hw3.go (Ch.alloc e4) hp5 hc5
  have hA5 := hA3.keep hc35 (fun hf => by have := hf.1; omega)
  refine ⟨rfl, ?_⟩
  refine step_call (visitW_spec (D := D) hP5 hA5 (fun hf => by
    rcases hE5 _ hf with hf | hf
    · have := hf.1; omega
    · have := hf.1; omega) (h.keepN hP5.c) (fun i hi hf => by
    have := hDl i hi
    have := (hP5.f i hf).1; omega) (fun i hi => by have := hDl i hi; have := hP5.c.size; omega) ⟨hG.i, hG.n, hG.p.2, hG.d.2⟩ (by simp)) ?_
  rintro v w6 ⟨rfl, F6, hP6, _, _⟩
  have hl : ([] ++ [UInt8.ofNat q.1.kind.toNat] ++ visB q.1) = bytesC q.1 := rfl
  rw [hl] at hP6
  refine ⟨rfl, ?_⟩
  have hbl := bytesC_len hG
  refine step_call (PenBytes_spec hP6.p (by omega)) ?_
  rintro v w7 ⟨rfl, _, hc7⟩
  exact ⟨_, rfl, rfl, hP6.f.hi hP6.c hc7⟩
def parseC (l : List UInt8) : Option CmD :=
  if endE (visE (byteE (l, false)).1.toNat (byteE (l, false)).2).2.1 = 0 ∧ (visE (byteE (l, false)).1.toNat (byteE (l, false)).2).2.2 = false ∧ ¬ badK (byteE (l, false)).1.toNat then some (visE (byteE (l, false)).1.toNat (byteE (l, false)).2).1 else none
theorem readFs_kind : ∀ (l : List Fld) (x : RSt), (l.foldl readF x).1.kind = x.1.kind
  | [], x => rfl
  | f :: r, x => by rw [List.foldl_cons, readFs_kind r]; cases f <;> rfl
theorem visE_kind (k : Int) (st : St) : (visE k st).1.kind = k := readFs_kind _ _
def parseV (l : List UInt8) (p : RwP) : Value := .tuple #[.agg (cmE ((parseC l).getD (cm0 0), p)).toArray, .int .i64 (if (parseC l).isSome = true then 0 else 5)]
theorem Parse_spec (w : World) (l : List UInt8) : Calls Try.prog i_order_Parse #[.string (str l)] w (Ret fun v w' => ∃ p : RwP, v = parseV l p ∧ CmR w' ((parseC l).getD (cm0 0), p) (New w w') ∧ Ch Non w w') := by
  refine order_Parse.calls _ ?_
  unfold order_Parse.vc
  intro w1 e1
  have hZ1 : Blk w1 w.heap.size csB t_order_Command := Blk.new e1
  have hc1 : Ch Non w w1 := Ch.alloc e1
  have s1 := hZ1.lt
  refine step_call (Of_spec w1 l) ?_
  rintro v w2 ⟨e, rfl, he, hE2, hc2⟩
  refine ⟨_, rfl, fun w3 e3 => ?_⟩
  have hR3 := Blk.new e3
  have hE3 : EyeR w3 e (l, false) := Blk.alloc hE2 e3
  have hel := Blk.lt hE2
  have s3 := hR3.lt
  refine ⟨_, hR3.cell 0 rfl, ?_⟩
  refine step_call (EyeByte_spec hE3) ?_
  rintro v w4 ⟨rfl, hE4, hc4⟩
  refine ⟨_, rfl, fun w5 e5 => ?_⟩
  have hC5 := Blk.new e5
  have hs4 := hc4.size
  have hs2 := hc2.size
  have s5 := hC5.lt
  have hR4 := hR3.keep hc4 (by omega)
  have hbt := (byteE (l, false)).1.toNat_lt
  have hwr : IntKind.i64.wrap ((byteE (l, false)).1.toNat : Int) = ((byteE (l, false)).1.toNat : Int) := wrap_id (by omega) (by omega)
  rw [hwr]
  refine ⟨⟨hC5.ok 0 rfl, hC5.ok 1 rfl, hC5.ok 2 rfl, hC5.ok 3 rfl, hC5.ok 4 rfl, hC5.ok 5 rfl, hC5.ok 6 rfl⟩, fun w6 e6 => ?_⟩
  obtain ⟨hC6, hc46⟩ := cmNew (cm0 ((byteE (l, false)).1.toNat : Int), p0) e5 e6
  have hc14 : Ch Non w1 w4 := hc2.trans ((Ch.alloc (F := (· = e)) e3).same hc4) (fun i hi h => by omega)
  have hS6 : RS w1 w6 e w2.heap.size w4.heap.size (cm0 ((byteE (l, false)).1.toNat : Int), (byteE (l, false)).2, false) p0 :=
    ⟨Blk.keepN hE4 hc46, hR4.keepN hc46, hC6, CmR.empty _ _ _, by omega, by omega, by omega, ⟨by omega, by omega, by omega⟩, hc14.andN hc46⟩
  have hs6 := hC6.lt
  generalize hkk : ((byteE (l, false)).1.toNat : Int) = k at hS6 ⊢
  have hpc : parseC l = if endE (visE k (byteE (l, false)).2).2.1 = 0 ∧ (visE k (byteE (l, false)).2).2.2 = false ∧ ¬ badK k then some (visE k (byteE (l, false)).2).1 else none := by subst hkk; rfl
  generalize (byteE (l, false)).2 = st at hS6 hpc ⊢
  clear e1 e3 e5 e6 hE2 hE3 hE4 hR3 hR4 hC5 hC6 hc2 hc4 hc14 hc46
  have hvk := visE_kind k st
  refine step_call (visitR_spec hS6) ?_
  rintro v w7 ⟨rfl, p, hS7⟩
  refine ⟨rfl, _, hS7.rd.cell 0 rfl, ?_⟩
  refine step_call (End_spec hS7.ey) ?_
  rintro v w8 ⟨rfl, rfl⟩
  have hc08 : Ch Non w w8 := hc1.andN hS7.c
  have hZ8 := hZ1.keepN hS7.c
  have hs8 := hS7.c.size
  generalize visE k st = x at hS7 hpc hvk ⊢
  refine ⟨_, rfl, fun hend => ?_, fun hend => ⟨_, hS7.rd.cell 1 rfl, fun hwr => ?_, fun hwr => ⟨_, hS7.cm.cell 0 rfl, ?_⟩⟩⟩
  · have hno : parseC l = none := by rw [hpc, if_neg (fun h => by rw [h.1] at hend; simp at hend)]
    have hBx := hZ8
    have hcx := hc08
    have hB := hBx
    refine ⟨⟨hB.ok 0 rfl, hB.ok 1 rfl, hB.ok 2 rfl, hB.ok 3 rfl, hB.ok 4 rfl, hB.ok 5 rfl, hB.ok 6 rfl⟩, fun w9 e9 => ?_⟩
    obtain ⟨hB9, hc9⟩ := cmOver (cm0 0, p0) hB rfl e9
    refine ⟨_, _, _, _, _, _, _, _, _, _, _, ⟨hB9.cell 0 rfl, hB9.cell 1 rfl, hB9.cell 2 rfl, hB9.cell 3 rfl, hB9.cell 4 rfl, hB9.cell 5 rfl, hB9.cell 6 rfl⟩, p0, ?_, ?_, hcx.trans hc9 (fun i hi he => by omega)⟩
    · unfold parseV; rw [hno]; rfl
    · rw [hno]; exact CmR.empty _ _ _
  · have hno : parseC l = none := by rw [hpc, if_neg (fun h => by rw [h.2.1] at hwr; cases hwr)]
    have hBx := hZ8
    have hcx := hc08
    have hB := hBx
    refine ⟨⟨hB.ok 0 rfl, hB.ok 1 rfl, hB.ok 2 rfl, hB.ok 3 rfl, hB.ok 4 rfl, hB.ok 5 rfl, hB.ok 6 rfl⟩, fun w9 e9 => ?_⟩
    obtain ⟨hB9, hc9⟩ := cmOver (cm0 0, p0) hB rfl e9
    refine ⟨_, _, _, _, _, _, _, _, _, _, _, ⟨hB9.cell 0 rfl, hB9.cell 1 rfl, hB9.cell 2 rfl, hB9.cell 3 rfl, hB9.cell 4 rfl, hB9.cell 5 rfl, hB9.cell 6 rfl⟩, p0, ?_, ?_, hcx.trans hc9 (fun i hi he => by omega)⟩
    · unfold parseV; rw [hno]; rfl
    · rw [hno]; exact CmR.empty _ _ _
  refine step_call (Name_spec w8 _) ?_
  rintro v w11 ⟨rfl, hc11⟩
  refine ⟨str (nameL x.1.kind), rfl, ?_⟩
  rw [emp_beq, nameL_emp, hvk]
  have hZ11 := hZ8.keepN hc11
  have hc011 := hc08.andN hc11
  have hs11 := hc11.size
  refine ⟨fun hb => ?_, fun hb => ?_⟩
  · have hno : parseC l = none := by rw [hpc, if_neg (fun h => h.2.2 (of_decide_eq_true hb))]
    have hBx := hZ11
    have hcx := hc011
    have hB := hBx
    refine ⟨⟨hB.ok 0 rfl, hB.ok 1 rfl, hB.ok 2 rfl, hB.ok 3 rfl, hB.ok 4 rfl, hB.ok 5 rfl, hB.ok 6 rfl⟩, fun w9 e9 => ?_⟩
    obtain ⟨hB9, hc9⟩ := cmOver (cm0 0, p0) hB rfl e9
    refine ⟨_, _, _, _, _, _, _, _, _, _, _, ⟨hB9.cell 0 rfl, hB9.cell 1 rfl, hB9.cell 2 rfl, hB9.cell 3 rfl, hB9.cell 4 rfl, hB9.cell 5 rfl, hB9.cell 6 rfl⟩, p0, ?_, ?_, hcx.trans hc9 (fun i hi he => by omega)⟩
    · unfold parseV; rw [hno]; rfl
    · rw [hno]; exact CmR.empty _ _ _
  · have hy : parseC l = some x.1 := by rw [hpc, if_pos ⟨by simpa using hend, hwr, of_decide_eq_false hb⟩]
    have hC11 := hS7.cm.keepN hc11
    refine ⟨_, _, _, _, _, _, _, _, _, _, _, ⟨hC11.cell 0 rfl, hC11.cell 1 rfl, hC11.cell 2 rfl, hC11.cell 3 rfl, hC11.cell 4 rfl, hC11.cell 5 rfl, hC11.cell 6 rfl⟩, ⟨hZ11.ok 0 rfl, hZ11.ok 1 rfl, hZ11.ok 2 rfl, hZ11.ok 3 rfl, hZ11.ok 4 rfl, hZ11.ok 5 rfl, hZ11.ok 6 rfl⟩, fun w13 e13 => ?_⟩
    obtain ⟨hB13, hc13⟩ := cmOver (x.1, p) hZ11 rfl e13
    refine ⟨_, _, _, _, _, _, _, _, _, _, _, ⟨hB13.cell 0 rfl, hB13.cell 1 rfl, hB13.cell 2 rfl, hB13.cell 3 rfl, hB13.cell 4 rfl, hB13.cell 5 rfl, hB13.cell 6 rfl⟩, p, ?_, ?_, hc011.trans hc13 (fun i hi he => by omega)⟩
    · unfold parseV; rw [hy]; rfl
    · rw [hy]
      exact ((hS7.ro.keepN hc11).keep hc13 (fun i _ hi he => by have := hi.1; omega)).mono' (fun i hi hk => ⟨by have := hk.1; omega, hi⟩)
/-! Several. -/
def allB (cs : List CmD) : List UInt8 := numI cs.length ++ (cs.map fun c => textB (str (bytesC c))).flatten
def allOk (cs : List CmD) : Bool := decide (cs.length ≤ 400) && cs.all goodC
theorem cms_one (qs : List (CmD × RwP)) : ∀ u ∈ (qs.map cmE).flatten, u.oneCell' = true := fun u hu => by
  obtain ⟨l, hl, hu⟩ := List.mem_flatten.1 hu
  obtain ⟨q, _, rfl⟩ := List.mem_map.1 hl
  exact cm_one q u hu
theorem fl_len {cs : List CmD} (h : ∀ c ∈ cs, GoodP c) : ((cs.map fun c => textB (str (bytesC c))).flatten).length ≤ 8005 * cs.length := by
  induction cs with
  | nil => simp
  | cons c r ih =>
    have h1 := bytesC_len (h c List.mem_cons_self)
    have h2 := ih (fun x hx => h x (List.mem_cons_of_mem _ hx))
    have h3 : (textB (str (bytesC c))).length ≤ 8005 := by unfold textB; rw [List.length_append, numI_len, str_data]; omega
    rw [List.map_cons, List.flatten_cons, List.length_append, List.length_cons]; omega
set_option maxHeartbeats 1000000 in
theorem All_spec {qs : List (CmD × RwP)} (hr : Rd w o (qs.map cmE).flatten G) (hq : ∀ q ∈ qs, CmR w q D) (hDl : ∀ i, D i → i < w.heap.size) (hl : qs.length ≤ 1000000) (c : Nat) :
    Calls Try.prog i_order_All #[.slice o qs.length c] w (Ret fun v w' => v = .tuple #[.string (str (if allOk (qs.map (·.1)) = true then allB (qs.map (·.1)) else [])), .int .i64 (if allOk (qs.map (·.1)) = true then 0 else 1)] ∧ Ch Non w w') := by
  refine order_All.calls _ _ _ ?_
  unfold order_All.vc
  refine ⟨fun h => ?_, fun h w1 e1 w2 e2 => ?_⟩
  · have h := of_decide_eq_true h
    have hno : ¬ allOk (qs.map (·.1)) = true := by unfold allOk; rw [List.length_map, decide_eq_false (by omega)]; simp
    rw [if_neg hno, if_neg hno]
    exact ⟨rfl, Ch.refl _ _⟩
  have h := of_decide_eq_false h
  have hP1 : PenR w1 w.heap.size false [] (New w w1) := Bld.made e1 pen_type
  have hb2 := blkRd (xs := [(qs.length : Int)]) (Blk.new e2)
  have hb2l := (Blk.new e2).lt
  have hc1 : Ch Non w w1 := Ch.alloc e1
  have s1 : w.heap.size < w1.heap.size := hP1.lt
  refine step_call (PenNum_spec (hP1.keepN (Ch.alloc e2)) (fun i hi => by have := hi.2; omega) hb2 (fun i hi => ⟨by omega, fun hf => by have := hf.2; omega⟩) (by simp) 1) ?_
  rintro v w3 ⟨rfl, hp3, hc3⟩
  have ho : [(qs.length : Int)].any outN = false := by simp [outN]; omega
  have hns : numsL [(qs.length : Int)] = numI qs.length := by simp [numsL]
  rw [ho, Bool.false_or, hns, List.nil_append] at hp3
  have hc03 : Ch Non w w3 := (hc1.andN (Ch.alloc e2)).trans hc3 (fun i hi hf => by have := hf.1; omega)
  refine ⟨rfl, fun k f w' => ∃ (j : Nat) (F : Nat → Prop), k = j ∧ j ≤ qs.length ∧ f = qs.length - j ∧ (∀ a ∈ (qs.take j).map (·.1), GoodP a) ∧ PenR w' w.heap.size false (numI qs.length ++ (((qs.take j).map (·.1)).map fun c => textB (str (bytesC c))).flatten) F ∧ Foot w w' F ∧ Ch Non w w',
    ⟨_, 0, _, rfl, Nat.zero_le _, rfl, by simp, by simpa using hp3, fun i hi => ?_, hc03⟩, ?_⟩
  · rcases hi with hi | hi
    · exact ⟨hi.1, by have := hi.2; have := hc3.size; omega⟩
    · exact ⟨by have := hi.1; omega, hi.2⟩
  clear hp3 hc3 hc03 hP1 hb2 hb2l hc1 s1 e1 e2
  rintro jk k f w4 ⟨j, F, rfl, hj, rfl, hall, hP, hF, hc⟩
  have hjj : (j : Int).toNat = j := Int.toNat_natCast j
  refine ⟨fun hlt => ?_, fun hge => ?_⟩
  · have hlt : j < qs.length := by have := of_decide_eq_true hlt; omega
    obtain ⟨p, hp, _, _, hcell⟩ := (hr.keepN hc).elem (sz := 7) (enc := cmE) (fun _ => rfl) (by omega) hlt
    have hqj := hq _ (List.getElem_mem hlt)
    have hsn : qs.take (j + 1) = qs.take j ++ [qs[j]] := Pen.take_snoc qs j hlt
    have hmem : qs[j].1 ∈ qs.map (·.1) := List.mem_map.2 ⟨_, List.getElem_mem hlt, rfl⟩
    generalize qs[j] = q at hcell hqj hsn hmem
    have h0 := hcell 0 _ rfl
    rw [add_none] at h0
    subst hp
    rw [hjj]
    refine ⟨⟨by omega, by omega⟩, _, _, _, _, _, _, _, _, _, _, _, ⟨h0, hcell 1 _ rfl, hcell 2 _ rfl, hcell 3 _ rfl, hcell 4 _ rfl, hcell 5 _ rfl, hcell 6 _ rfl⟩, fun w5 e5 => ?_⟩
    have hB5 := Blk.new e5
    refine ⟨⟨hB5.ok 0 rfl, hB5.ok 1 rfl, hB5.ok 2 rfl, hB5.ok 3 rfl, hB5.ok 4 rfl, hB5.ok 5 rfl, hB5.ok 6 rfl⟩, fun w6 e6 => ?_⟩
    obtain ⟨hB6, hc46⟩ := cmNew q e5 e6
    have hc06 := hc.andN hc46
    refine ⟨_, _, _, _, _, _, _, _, _, _, _, ⟨hB6.cell 0 rfl, hB6.cell 1 rfl, hB6.cell 2 rfl, hB6.cell 3 rfl, hB6.cell 4 rfl, hB6.cell 5 rfl, hB6.cell 6 rfl⟩, ?_⟩
    refine step_call (Bytes_spec (hqj.keepN hc06) (fun i hi => by have := hDl i hi; have := hc06.size; omega)) ?_
    rintro v w7 ⟨rfl, hc7⟩
    have hc07 := hc06.andN hc7
    refine ⟨_, _, rfl, fun he => ?_, fun he w8 e8 => ?_⟩
    · have hg : ¬ goodC q.1 = true := fun hg => by rw [if_pos hg] at he; simp at he
      have hno : ¬ allOk (qs.map (·.1)) = true := fun ha => by
        unfold allOk at ha
        rw [Bool.and_eq_true, List.all_eq_true] at ha
        exact hg (ha.2 _ hmem)
      rw [if_neg hno, if_neg hno, if_neg hg]
      exact ⟨rfl, hc07⟩
    · have hg : goodC q.1 = true := by
        by_cases hg : goodC q.1 = true
        · exact hg
        · rw [if_neg hg] at he; simp at he
      have hG := goodC_iff.1 hg
      rw [if_pos hg] at e8
      have hb8 : Blk w8 w7.heap.size ([str (bytesC q.1)].map .string) 9 := Blk.new e8
      have hc48 := (hc46.andN hc7).andN (Ch.alloc e8)
      have hb8l := hb8.lt
      have hs47 := (hc46.andN hc7).size
      have hbl := bytesC_len hG
      have hpl : (numI qs.length ++ (((qs.take j).map (·.1)).map fun c => textB (str (bytesC c))).flatten).length ≤ 4000000 := by
        have h1 := fl_len hall
        rw [List.length_map, List.length_take] at h1
        rw [List.length_append, numI_len]; omega
      have htl : (textsL [str (bytesC q.1)]).length ≤ 9000 := by simp [textsL, textB, numI_len, str]; omega
      refine step_call (PenText_spec (hP.keepN hc48) (fun i hi => by have := (hF i hi).2; omega) hb8.rd (fun i hi => ⟨by omega, fun hf => by have := (hF i hf).2; omega⟩) (by omega) (fun s hs => by rw [List.mem_singleton] at hs; subst hs; rw [str_size]; omega) (by simp) 1) ?_
      rintro v w9 ⟨rfl, hp9, hc9⟩
      have hts : textsL [str (bytesC q.1)] = textB (str (bytesC q.1)) := by simp [textsL]
      rw [hts] at hp9
      refine ⟨rfl, qs.length - (j + 1), by omega, j + 1, Ext F w8 w9, by rw [wrap_id (by omega) (by omega)]; rfl, hlt, rfl, fun a ha => ?_, ?_, ?_, (hc.andN hc48).trans hc9 (fun i hi hf => by have := (hF i hf).1; omega)⟩
      · rw [hsn, List.map_append] at ha
        rcases List.mem_append.1 ha with ha | ha
        · exact hall a ha
        · rw [List.map_singleton, List.mem_singleton] at ha; subst ha; exact hG
      · rw [hsn, List.map_append, List.map_append, List.flatten_append]
        have : (List.map (fun c => textB (str (bytesC c))) (List.map (fun x : CmD × RwP => x.1) [q])).flatten = textB (str (bytesC q.1)) := by simp
        rw [this, ← List.append_assoc]
        exact hp9
      · have hs9 := hc9.size
        have hs48 := hc48.size
        have := hc.size
        intro i hi
        rcases hi with hi | hi
        · exact ⟨(hF i hi).1, by have := (hF i hi).2; omega⟩
        · exact ⟨by have := hi.1; omega, hi.2⟩
  · have hjn : j = qs.length := by have := of_decide_eq_false hge; omega
    subst hjn
    rw [List.take_length] at hall hP
    have hpl : (numI qs.length ++ ((qs.map (·.1)).map fun c => textB (str (bytesC c))).flatten).length ≤ 4000000 := by
      have h1 := fl_len hall
      rw [List.length_map] at h1
      rw [List.length_append, numI_len]; omega
    refine step_call (PenBytes_spec hP (by omega)) ?_
    rintro v w10 ⟨rfl, _, hc10⟩
    have hyes : allOk (qs.map (·.1)) = true := by
      unfold allOk
      rw [List.length_map, decide_eq_true (by omega), Bool.true_and, List.all_eq_true]
      exact fun a ha => goodC_iff.2 (hall a ha)
    rw [if_pos hyes, if_pos hyes]
    refine ⟨_, rfl, ?_, hc.trans hc10 (fun i hi hf => by have := (hF i hf).1; omega)⟩
    unfold allB
    rw [List.length_map]; rfl
def splitL (m : Int) : Nat → St → List CmD → Option (List CmD × St)
  | 0, st, acc => some (acc, st)
  | n + 1, st, acc => match parseC (textE st m).1 with
    | none => none
    | some c => splitL m n (textE st m).2 (acc ++ [c])
def splitC (l : List UInt8) : Option (List CmD) := (splitL l.length (numE (l, false) 400).1 (numE (l, false) 400).2 []).bind fun p => if endE p.2 = 0 then some p.1 else none
theorem splitL_zero (m : Int) (st : St) (acc : List CmD) : splitL m 0 st acc = some (acc, st) := rfl
theorem splitL_succ (m : Int) (n : Nat) (st : St) (acc : List CmD) : splitL m (n + 1) st acc = match parseC (textE st m).1 with
    | none => none
    | some c => splitL m n (textE st m).2 (acc ++ [c]) := rfl
theorem splitL_len {m : Int} : ∀ (n : Nat) (st : St) (acc : List CmD) {p : List CmD × St}, splitL m n st acc = some p → p.1.length = acc.length + n
  | 0, st, acc, p, h => by rw [splitL_zero, Option.some.injEq] at h; subst h; rfl
  | n + 1, st, acc, p, h => by
    rw [splitL_succ] at h
    cases hp : parseC (textE st m).1 with
    | none => rw [hp] at h; cases h
    | some c =>
      rw [hp] at h
      have := splitL_len n _ _ h
      rw [this, List.length_append]; simp; omega
set_option maxHeartbeats 1000000 in
theorem Split_spec (w : World) (l : List UInt8) (hl : l.length ≤ 1000000) : Calls Try.prog i_order_Split #[.string (str l)] w (Ret fun v w' => Ch Non w w' ∧
    (splitC l = none → v = .tuple #[.slice none 0 0, .int .i64 5]) ∧ ∀ cs, splitC l = some cs → ∃ (o : Option Addr) (c : Nat) (qs : List (CmD × RwP)), v = .tuple #[.slice o qs.length c, .int .i64 0] ∧ qs.map (·.1) = cs ∧ qs.length ≤ 400 ∧ Rd w' o (qs.map cmE).flatten (New w w') ∧ ∀ q ∈ qs, CmR w' q (New w w')) := by
  refine order_Split.calls _ ?_
  unfold order_Split.vc
  refine step_call (Of_spec w l) ?_
  rintro v w1 ⟨e, rfl, he, hE1, hc1⟩
  refine ⟨_, rfl, ?_⟩
  refine step_call (EyeNum_spec hE1 400) ?_
  rintro v w2 ⟨rfl, hE2, hc2⟩
  have hel := Blk.lt hE1
  have hs1 := hc1.size
  have hs2 := hc2.size
  have hc02 : Ch Non w w2 := hc1.trans hc2 (fun i hi h => by omega)
  have hle := numE_le (st := (l, false)) (most := 400) (by omega)
  have hS : splitC l = (splitL l.length (numE (l, false) 400).1 (numE (l, false) 400).2 []).bind fun p => if endE p.2 = 0 then some p.1 else none := rfl
  rw [hS]
  generalize (numE (l, false) 400).1 = n at hle ⊢
  generalize (numE (l, false) 400).2 = s0 at hE2 ⊢
  have hsz : (str l).size = l.length := str_size l
  rw [hsz]
  refine ⟨_, rfl, fun oA oN oC k f w' => ∃ (qs : List (CmD × RwP)) (st : St) (FO D : Nat → Prop), oN = qs.length ∧ k = qs.length ∧ qs.length ≤ n ∧ f = n - qs.length ∧ splitL l.length n s0 [] = splitL l.length (n - qs.length) st (qs.map (·.1)) ∧ EyeR w' e st ∧ Own w' t_order_Command 7 oA qs.length oC (qs.map cmE).flatten FO ∧ (∀ q ∈ qs, CmR w' q D) ∧ (∀ i, FO i → New w w' i ∧ i ≠ e) ∧ (∀ i, D i → New w w' i ∧ i ≠ e ∧ ¬ FO i) ∧ Ch Non w w',
    ⟨_, [], s0, Non, Non, rfl, rfl, Nat.zero_le _, rfl, rfl, hE2, Own.nil _ _ _ _, fun q hq => (by cases hq), fun i h => h.elim, fun i h => h.elim, hc02⟩, ?_⟩
  clear hE1 hE2 hc2 hS hc02
  rintro jk oA oN oC k f w3 ⟨qs, st, FO, D, rfl, rfl, hqn, rfl, heq, hE, hO, hQ, hFO, hD, hc⟩
  refine ⟨fun hlt => ?_, fun hge => ?_⟩
  · have hlt : qs.length < n := by have := of_decide_eq_true hlt; omega
    refine step_call (EyeText_spec hE l.length) ?_
    rintro v w4 ⟨rfl, hE4, hc4⟩
    have hs3 := hc.size
    have hs4 := hc4.size
    have hel3 := Blk.lt hE
    refine ⟨_, rfl, ?_⟩
    refine step_call (Parse_spec w4 (textE st l.length).1) ?_
    rintro v w5 ⟨p, rfl, hR5, hc5⟩
    have hs5 := hc5.size
    unfold parseV
    have hn1 : n - qs.length = (n - (qs.length + 1)) + 1 := by omega
    rw [hn1, splitL_succ] at heq
    have hc05 : Ch Non w w5 := (hc.trans hc4 (fun i hi h => by omega)).andN hc5
    refine ⟨_, _, _, _, _, _, _, _, _, _, _, _, rfl, fun w6 e6 => ?_⟩
    have hB6 := Blk.new e6
    refine ⟨⟨hB6.ok 0 rfl, hB6.ok 1 rfl, hB6.ok 2 rfl, hB6.ok 3 rfl, hB6.ok 4 rfl, hB6.ok 5 rfl, hB6.ok 6 rfl⟩, fun w7 e7 => ?_⟩
    obtain ⟨hB7, hc57⟩ := cmNew ((parseC (textE st l.length).1).getD (cm0 0), p) e6 e7
    have hc07 := hc05.andN hc57
    have hs7 := hc57.size
    generalize hpc : parseC (textE st l.length).1 = pc at hR5 hB7 heq ⊢
    cases pc with
    | none =>
      refine iteT rfl ⟨hc07, fun _ => rfl, fun cs h => ?_⟩
      rw [heq] at h; cases h
    | some c =>
      refine iteF rfl ⟨_, _, _, _, _, _, _, _, _, _, _, ⟨hB7.cell 0 rfl, hB7.cell 1 rfl, hB7.cell 2 rfl, hB7.cell 3 rfl, hB7.cell 4 rfl, hB7.cell 5 rfl, hB7.cell 6 rfl⟩, fun w8 e8 => ?_⟩
      have hb8 : Blk w8 w7.heap.size (cmE (c, p)) t_order_Command := Blk.new e8
      have hc58 : Ch Non w5 w8 := hc57.andN (Ch.alloc e8)
      have hc48 := hc5.andN hc58
      have hO8 := (hO.keep hc4 (fun i _ hf he => (hFO i hf).2 he)).keepN hc48
      obtain ⟨o9, c9, w9, r9, hO9, hc9⟩ := Own.appendRd (c2 := 1) (m := 1) el_S_order_Command hO8 t_S_order_Command hb8.rd rfl (cm_one (c, p)) (by unfold maxLen; omega) (by omega)
      have hs8 := hc48.size
      have hs9 := hc9.size
      have hb8l := hb8.lt
      have hFOe : ¬ FO e := fun h => (hFO e h).2 rfl
      have hE9 : EyeR w9 e (textE st l.length).2 := Blk.keep (Blk.keepN hE4 hc48) hc9 hFOe
      have hQ8 : ∀ q ∈ qs, CmR w9 q D := fun q hq => (((hQ q hq).keep hc4 (fun i _ hi he => (hD i hi).2.1 he)).keepN hc48).keep hc9 (fun i _ hi hf => (hD i hi).2.2 hf)
      have hR9 : CmR w9 (c, p) (New w4 w5) := (hR5.keepN hc58).keep hc9 (fun i _ hi hf => by have := hi.1; have := (hFO i hf).1.2; omega)
      have hx : ∀ i, Ext FO w8 w9 i → New w w9 i ∧ i ≠ e := fun i hi => by
        rcases hi with hi | hi
        · exact ⟨⟨(hFO i hi).1.1, by have := (hFO i hi).1.2; omega⟩, (hFO i hi).2⟩
        · exact ⟨⟨by have := hi.1; omega, hi.2⟩, by have := hi.1; omega⟩
      have e1 : (qs ++ [(c, p)]).length = qs.length + 1 := by simp
      have e2 : ((qs ++ [(c, p)]).map cmE).flatten = (qs.map cmE).flatten ++ cmE (c, p) := by simp
      have e3 : (qs ++ [(c, p)]).map (·.1) = qs.map (·.1) ++ [c] := by simp
      refine ⟨o9, _, c9, w9, r9, n - (qs.length + 1), by omega, qs ++ [(c, p)], (textE st l.length).2, Ext FO w8 w9, fun i => D i ∨ New w4 w5 i, e1.symm, by rw [wrap_id (by omega) (by omega), e1]; rfl, by omega, by omega, by rw [heq, e1, e3], hE9, by rw [e1, e2]; exact hO9, fun q hq => ?_, hx, fun i hi => ?_, ((hc.trans hc4 (fun i hi h => by omega)).andN hc48).trans hc9 (fun i hi hf => by have := (hFO i hf).1.1; omega)⟩
      · rcases List.mem_append.1 hq with hq | hq
        · exact (hQ8 q hq).mono' (fun i _ hi => .inl hi)
        · rw [List.mem_singleton] at hq; subst hq; exact hR9.mono' (fun i _ hi => .inr hi)
      · rcases hi with hi | hi
        · exact ⟨⟨(hD i hi).1.1, by have := (hD i hi).1.2; omega⟩, (hD i hi).2.1, fun hx => (hD i hi).2.2 (hx.old (by have := (hD i hi).1.2; omega))⟩
        · refine ⟨⟨by have := hi.1; omega, by have := hi.2; omega⟩, by have := hi.1; omega, fun hx => ?_⟩
          rcases hx with hx | hx
          · have := (hFO i hx).1.2; have := hi.1; omega
          · have := hx.1; have := hi.2; have := hc58.size; omega
  · have hqe : qs.length = n := by have := of_decide_eq_false hge; omega
    have hz : n - qs.length = 0 := by omega
    rw [hz, splitL_zero] at heq
    refine step_call (End_spec hE) ?_
    rintro v w10 ⟨rfl, rfl⟩
    rw [heq]
    have hb : ((some (qs.map (·.1), st)).bind fun p : List CmD × St => if endE p.2 = 0 then some p.1 else none) = if endE st = 0 then some (qs.map (·.1)) else none := rfl
    rw [hb]
    refine ⟨_, rfl, fun h => ?_, fun h => ?_⟩
    · have h : ¬ endE st = 0 := by simpa using h
      have h5 : endE st = 5 := by
        unfold endE at h ⊢
        split
        · rfl
        · rename_i hb; rw [if_neg hb] at h; split
          · rename_i h0; rw [if_pos h0] at h; exact absurd rfl h
          · rfl
      rw [if_neg h, h5]
      exact ⟨hc, fun _ => rfl, fun cs h => by cases h⟩
    · have h : endE st = 0 := by simpa using h
      rw [if_pos h]
      refine ⟨hc, fun h => (by cases h), fun cs h => ?_⟩
      injection h with h
      exact ⟨oA, oC, qs, rfl, h, by omega, hO.rd.mono (fun i _ hi => (hFO i hi).1), fun q hq => (hQ q hq).mono' (fun i _ hi => (hD i hi).1)⟩
end
end Go.Proofs.Ytamkffjmggbekaa.Ord
