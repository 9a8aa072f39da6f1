/- For every base and all deeds: what layer 19's Apply, Bytes and Cost answer; the conditions stand in each theorem. -/
import Derived.Test.YtpcddfhfchempaaPatch
set_option linter.unusedVariables false
set_option linter.unusedSimpArgs false
namespace Go.Proofs.Ytpcddfhfchempaa.Patch
open Go Go.Proofs Go.Proofs.Ytpcddfhfchempaa.V Go.Proofs.Ytpcddfhfchempaa.Vc Go.Proofs.Ytpcddfhfchempaa.Pen Go.RowKit

def ofOp (y : OpD) (base : List UInt8) : List UInt8 :=
  if y.k = 1 then (base.take (y.f + y.s).toNat).drop y.f.toNat else if y.k = 2 then y.d.data.toList else addL ((base.take (y.f + y.d.size).toNat).drop y.f.toNat) y.d.data.toList
def sizeOp (y : OpD) : Int := if (y.d.size : Int) > y.s then (y.d.size : Int) else y.s
theorem good_size {base : List UInt8} (hb : base.length ≤ 1000000) {y : OpD} (h : goodOp base.length y = true) : ((ofOp y base).length : Int) = sizeOp y ∧ sizeOp y ≤ 1000000 ∧ (y.k = 1 ∨ y.k = 2 ∨ y.k = 3) ∧ (y.k = 1 → 0 ≤ y.f ∧ 1 ≤ y.s ∧ y.f + y.s ≤ base.length) ∧ (y.k = 3 → 0 ≤ y.f ∧ 1 ≤ y.d.size ∧ y.f + y.d.size ≤ base.length) ∧ y.d.size ≤ 8192 ∧ -1 ≤ y.s := by
  have hd : y.d.data.toList.length = y.d.size := by simp
  unfold goodOp isInB at h
  unfold ofOp sizeOp
  split at h
  · rename_i h1
    rw [if_pos h1]
    simp only [Bool.and_eq_true, decide_eq_true_eq] at h
    obtain ⟨⟨a1, a2, a3, a4⟩, a5⟩ := h
    refine ⟨?_, ?_, .inl h1, fun _ => by omega, fun h3 => by omega, by omega, by omega⟩
    · rw [List.length_drop, List.length_take, if_neg (by omega)]; omega
    · split <;> omega
  · rename_i h1
    split at h
    · rename_i h2
      rw [if_neg h1, if_pos h2]
      simp only [decide_eq_true_eq] at h
      refine ⟨?_, ?_, .inr (.inl h2), fun h => absurd h h1, fun h3 => by omega, by omega, by omega⟩
      · rw [hd]; split <;> omega
      · split <;> omega
    · rename_i h2
      split at h
      · rename_i h3
        rw [if_neg h1, if_neg h2]
        simp only [Bool.and_eq_true, decide_eq_true_eq] at h
        obtain ⟨⟨a1, a2, a3, a4⟩, a5, a6⟩ := h
        refine ⟨?_, ?_, .inr (.inr h3), fun h => absurd h h1, fun _ => by omega, by omega, by omega⟩
        · unfold addL
          rw [List.length_zipWith, List.length_drop, List.length_take, hd]; split <;> omega
        · split <;> omega
      · cases h
theorem of_spec (w : World) {base : ByteArray} (hb : base.size ≤ 1000000) {y : OpD} (h : goodOp base.data.toList.length y = true) : Calls Try.prog i_patch_Op_of #[opAgg y, .string base] w (Ret fun v w' => v = .string (str (ofOp y base.data.toList)) ∧ Ch Non w w') := by
  have hbl : base.data.toList.length = base.size := by simp
  obtain ⟨g1, g2, g3, g4, g5, g6, g7⟩ := good_size (by omega) h
  refine patch_Op_of.calls _ _ _ _ _ ?_
  unfold patch_Op_of.vc
  intro w1 e1
  have hB := Blk.new e1
  have hC : Ch Non w w1 := Ch.alloc e1
  have hext : ∀ a b : Nat, base.extract a b = str ((base.data.toList.take b).drop a) := fun a b => by
    conv => lhs; rw [← str_of base]
    exact str_extract _ _ _
  unfold ofOp
  refine ⟨_, hB.cell 0 rfl, fun h1 => ?_, fun h1 => ⟨fun h2 => ?_, fun h2 => ?_⟩⟩
  · have h1 : y.k = 1 := by simpa using h1
    have a := g4 h1
    rw [if_pos h1]
    refine ⟨_, hB.cell 1 rfl, _, hB.cell 1 rfl, _, hB.cell 2 rfl, ?_⟩
    rw [wrap_id (by omega) (by omega)]
    exact ⟨⟨by omega, by omega, by omega⟩, by rw [hext], hC⟩
  · have h1 : ¬ y.k = 1 := by simpa using h1
    have h2 : y.k = 2 := by simpa using h2
    rw [if_neg h1, if_pos h2]
    exact ⟨_, hB.cell 3 rfl, by rw [str_of], hC⟩
  · have h1 : ¬ y.k = 1 := by simpa using h1
    have h2 : ¬ y.k = 2 := by simpa using h2
    have h3 : y.k = 3 := by omega
    have a := g5 h3
    rw [if_neg h1, if_neg h2]
    refine ⟨fun w' => Ch Non w1 w', fun w2 e2 => ⟨Ch.drew e2, _, fun w' h => (hB.keepN h).cell 1 rfl, _, fun w' h => (hB.keepN h).cell 1 rfl, _, fun w' h => (hB.keepN h).cell 3 rfl, ?_⟩⟩
    rw [wrap_id (by omega) (by omega)]
    refine ⟨⟨by omega, by omega, by omega⟩, _, fun w' h => (hB.keepN h).cell 3 rfl, ?_⟩
    have hsz : (base.extract y.f.toNat (y.f + (y.d.size : Int)).toNat).size = y.d.size := by
      rw [hext, str_size, List.length_drop, List.length_take]; omega
    have sp := added_spec w2 (base.extract y.f.toNat (y.f + (y.d.size : Int)).toNat) y.d (by omega) (by omega)
    rw [hext, str_data] at sp
    rw [hext]
    refine step_call sp ?_
    rintro v w7 ⟨rfl, hc⟩
    exact ⟨_, rfl, (Ch.drew (F := Non) e2).andN hc, rfl, (hC.andN (Ch.drew e2)).andN hc⟩
def applyL (base : List UInt8) : List OpD → List UInt8 → Int × List UInt8
  | [], acc => (0, acc)
  | y :: r, acc => if goodOp base.length y then (if (acc.length : Int) + sizeOp y > 8192 then (12, []) else applyL base r (acc ++ ofOp y base)) else (1, [])
theorem ops_at {w : World} {o : Option Addr} {ys : List OpD} {F : Nat → Prop} (hx : Rd w o (ys.map opEnc).flatten F) {j : Nat} (hj : j < ys.length) {K : Addr → Prop}
    (hk : ∀ p : Addr, (w.cell? (p.add ((j : Int).toNat * 4)) = some (.int .i64 ys[j].k) ∧ w.cell? ((p.add ((j : Int).toNat * 4)).add 1) = some (.int .i64 ys[j].f) ∧ w.cell? ((p.add ((j : Int).toNat * 4)).add 2) = some (.int .i64 ys[j].s) ∧ w.cell? ((p.add ((j : Int).toNat * 4)).add 3) = some (.string ys[j].d)) → K p) : someV o K := by
  obtain ⟨p, rfl, _, _, hc⟩ := hx.elem (sz := 4) (fun y => rfl) (by omega) hj
  have h0 := hc 0 _ rfl
  rw [add_none] at h0
  exact hk p ⟨by rw [Int.toNat_natCast]; exact h0, by rw [Int.toNat_natCast]; exact hc 1 _ rfl, by rw [Int.toNat_natCast]; exact hc 2 _ rfl, by rw [Int.toNat_natCast]; exact hc 3 _ rfl⟩
theorem Apply_spec {w : World} {o : Option Addr} {ys : List OpD} {G : Nat → Prop} (base : ByteArray) (hb : base.size ≤ 1000000) (hx : Rd w o (ys.map opEnc).flatten G) (hl : ys.length ≤ 1000000) (c : Nat) :
    Calls Try.prog i_patch_Apply #[.string base, .slice o ys.length c] w (Ret fun v w' => v = .tuple #[.string (str (applyL base.data.toList ys []).2), .int .i64 (applyL base.data.toList ys []).1] ∧ Ch Non w w') := by
  have hbl : base.data.toList.length = base.size := by simp
  refine patch_Apply.calls _ _ _ _ ?_
  unfold patch_Apply.vc
  intro w1 e1
  have hB0 : Bld w1 w.heap.size t_strings_Builder [] [] (New w w1) := Bld.made e1 (by unfold BType; kernel_rfl)
  have hC1 : Ch Non w w1 := Ch.alloc e1
  generalize w.heap.size = b at hB0 ⊢
  refine ⟨fun i k w' => ∃ (j : Nat) (acc : List UInt8) (F : Nat → Prop), i = j ∧ j ≤ ys.length ∧ k = ys.length - j ∧ acc.length ≤ 8192 ∧ applyL base.data.toList (ys.drop j) acc = applyL base.data.toList ys [] ∧ Bld w' b t_strings_Builder [] acc F ∧ Foot w w' F ∧ Ch Non w w', ⟨_, 0, [], _, rfl, Nat.zero_le _, rfl, by simp, rfl, hB0, Foot.new (Ch.refl _ _), hC1⟩, ?_⟩
  rintro jk i k w2 ⟨j, acc, F, rfl, hj, rfl, hacc, hres, hB, hF, hC⟩
  refine ⟨fun hlt => ?_, fun hge => ?_⟩
  · have hlt : j < ys.length := by have := of_decide_eq_true hlt; omega
    rw [List.drop_eq_getElem_cons hlt, applyL] at hres
    refine ⟨⟨by omega, by omega⟩, ops_at (hx.keepN hC) hlt fun p hp => ⟨_, _, _, _, hp, fun w3 e3 => ?_⟩⟩
    have hO := Blk.new e3
    refine ⟨⟨hO.ok 0 rfl, hO.ok 1 rfl, hO.ok 2 rfl, hO.ok 3 rfl⟩, fun w4 e4 => ?_⟩
    have e5 : w4 = w3.setCells w2.heap.size 0 (opEnc ys[j]) := e4
    have hO4 := hO.all (opEnc ys[j]) rfl e5
    have hc4 : Ch Non w2 w4 := (Ch.alloc (F := Non) e3).trans (Ch.sets (F := (· = w2.heap.size)) e5 rfl) (fun i hi he => by omega)
    generalize w2.heap.size = xb at hO4 ⊢
    generalize ys[j] = y at hres hO4
    refine ⟨_, _, _, _, ⟨hO4.cell 0 rfl, hO4.cell 1 rfl, hO4.cell 2 rfl, hO4.cell 3 rfl⟩, ?_⟩
    refine step_call (Good_spec w4 (base := base.size) (by omega) y) ?_
    rintro v w5 ⟨rfl, hc5⟩
    have hO5 := hO4.keepN hc5
    have hc25 := hc4.andN hc5
    have hB5 := hB.keepN hc25
    have hC5 := hC.andN hc25
    have hF5 := hF.le hc25.size
    rw [hbl] at hres
    refine ⟨_, rfl, fun hn => ?_, fun hg => ?_⟩
    · have hn : goodOp base.size y = false := by simpa using hn
      rw [hn, if_neg Bool.false_ne_true] at hres
      rw [← hres]
      exact ⟨rfl, hC5⟩
    have hg : goodOp base.size y = true := by simpa using hg
    rw [hg, if_pos rfl] at hres
    obtain ⟨g1, g2, g3, g4, g5, g6, g7⟩ := good_size (base := base.data.toList) (by omega) (by rw [hbl]; exact hg)
    refine ⟨fun w' => Ch Non w5 w', fun w6 e6 => ⟨Ch.drew e6, _, fun w' h => (hO5.keepN h).cell 2 rfl, _, fun w' h => (hO5.keepN h).cell 3 rfl, ?_⟩⟩
    have hc6 : Ch Non w5 w6 := Ch.drew e6
    refine step_call (Len_spec (hB5.keepN hc6)) ?_
    rintro v w7 ⟨rfl, rfl⟩
    have hsz : (if ((y.d.size : Nat) : Int) > y.s then ((y.d.size : Nat) : Int) else y.s) = sizeOp y := rfl
    refine ⟨_, rfl, hc6, ?_⟩
    rw [hsz, wrap_id (by omega) (by omega)]
    refine ⟨fun hgt => ?_, fun hle => ?_⟩
    · have hgt := of_decide_eq_true hgt
      rw [if_pos hgt] at hres
      rw [← hres]
      exact ⟨rfl, hC5.andN hc6⟩
    have hle := of_decide_eq_false hle
    rw [if_neg hle] at hres
    have hO6 := hO5.keepN hc6
    refine ⟨_, _, _, _, ⟨hO6.cell 0 rfl, hO6.cell 1 rfl, hO6.cell 2 rfl, hO6.cell 3 rfl⟩, ?_⟩
    refine step_call (of_spec w7 hb (y := y) (by rw [hbl]; exact hg)) ?_
    rintro v w8 ⟨rfl, hc8⟩
    have hc58 := hc6.andN hc8
    have hB8 := hB5.keepN hc58
    have hC8 := hC5.andN hc58
    have hF8 := hF5.le hc58.size
    refine ⟨_, rfl, ?_⟩
    have sp := WriteString_spec hB8 (str (ofOp y base.data.toList)) (by rw [str_size]; omega)
    rw [str_data] at sp
    refine step_call sp ?_
    rintro v w9 ⟨rfl, hB9, hc9⟩
    refine ⟨_, _, rfl, ys.length - (j + 1), by omega, j + 1, acc ++ ofOp y base.data.toList, _, by rw [wrap_id (by omega) (by omega)]; rfl, hlt, rfl, by rw [List.length_append]; omega, hres, hB9, hF8.ext hC8 hc9.size, hF8.hi hC8 hc9⟩
  · have : j = ys.length := by have := of_decide_eq_false hge; omega
    subst this
    rw [List.drop_length, applyL] at hres
    refine step_call (String_spec hB (by omega)) ?_
    rintro v w3 ⟨rfl, _, hc3⟩
    refine ⟨_, rfl, ?_, hF.hi hC (hc3.mono (fun i _ h => h.1))⟩
    rw [← hres]; rfl
def toB8 (x : Int) : UInt8 := UInt8.ofNat (x % 256).toNat
theorem toB8_val (x : Int) : u8v (toB8 x) = .int .u8 (IntKind.u8.wrap x) := by
  have hw : IntKind.u8.wrap x = x % 256 := rfl
  unfold u8v toB8
  rw [hw, UInt8.toNat_ofNat']
  congr 1
  have h1 := Int.emod_nonneg x (show (256 : Int) ≠ 0 by omega)
  have h2 := Int.emod_lt_of_pos x (show (0 : Int) < 256 by omega)
  omega
def opB (y : OpD) : List UInt8 := [toB8 y.k] ++ (if y.k = 2 then [] else numI y.f) ++ (if y.k = 1 then numI y.s else textB y.d)
def opsL (ys : List OpD) : List UInt8 := (ys.map opB).flatten
def badB (y : OpD) : Bool := !goodOp 2147483647 y
def bytesOk (ys : List OpD) : Bool := decide (ys.length ≤ 256) && !(ys.any badB)
def bytesT (ys : List OpD) : List UInt8 := if bytesOk ys then numI ys.length ++ opsL ys else []
theorem opB_len {y : OpD} (h : badB y = false) : (opB y).length ≤ 9000 ∧ y.d.size ≤ 8192 ∧ outN y.f = false ∧ outN y.s = false := by
  have h : goodOp 2147483647 y = true := by unfold badB at h; simpa using h
  have hd : y.d.data.toList.length = y.d.size := by simp
  have hds : y.d.size ≤ 8192 ∧ (0 ≤ y.f ∧ y.f ≤ 2147483647) ∧ 0 ≤ y.s ∧ y.s ≤ 2147483647 := by
    unfold goodOp isInB at h
    split at h
    · simp only [Bool.and_eq_true, decide_eq_true_eq] at h; omega
    · split at h
      · simp only [decide_eq_true_eq] at h; omega
      · split at h
        · simp only [Bool.and_eq_true, decide_eq_true_eq] at h; omega
        · cases h
  refine ⟨?_, hds.1, ?_, ?_⟩
  · unfold opB textB
    split <;> split <;> simp only [List.length_append, List.length_singleton, numI_len, List.length_nil, hd] <;> omega
  · unfold outN; simp; omega
  · unfold outN; simp; omega
theorem opsL_snoc (ys : List OpD) (y : OpD) : opsL (ys ++ [y]) = opsL ys ++ opB y := by simp [opsL]
theorem opsL_len {ys : List OpD} (h : ys.any badB = false) : (opsL ys).length ≤ 9000 * ys.length := by
  induction ys with
  | nil => simp [opsL]
  | cons y r ih =>
    rw [List.any_cons, Bool.or_eq_false_iff] at h
    have := ih h.2
    have hy := opB_len h.1
    have e : opsL (y :: r) = opB y ++ opsL r := by simp [opsL]
    rw [e, List.length_append, List.length_cons]; omega
section
variable {w : World} {o : Option Addr} {ys : List OpD} {G : Nat → Prop}
theorem Bytes_c1_spec (w : World) (y : OpD) : Calls Try.prog i_patch_Bytes_c1 #[opAgg y] w (Ret fun v w' => v = .bool (badB y) ∧ Ch Non w w') := by
  refine patch_Bytes_c1.calls _ _ _ _ ?_
  unfold patch_Bytes_c1.vc
  intro w1 e1
  have hB := Blk.new e1
  refine ⟨_, _, _, _, ⟨hB.cell 0 rfl, hB.cell 1 rfl, hB.cell 2 rfl, hB.cell 3 rfl⟩, ?_⟩
  refine step_call (Good_spec w1 (base := 2147483647) (by omega) y) ?_
  rintro v w2 ⟨rfl, hc⟩
  exact ⟨_, rfl, rfl, (Ch.alloc e1).andN hc⟩
theorem ContainsB_spec (hx : Rd w o (ys.map opEnc).flatten G) (hl : ys.length ≤ 1000000) (c : Nat) : Calls Try.prog 80 #[.slice o ys.length c, .func (.func i_patch_Bytes_c1) #[] #[]] w (Ret fun v w' => v = .bool (ys.any badB) ∧ Ch Non w w') := by
  refine slices_ContainsFunc.calls_pb _ _ _ ?_
  unfold slices_ContainsFunc.vc_pb
  have hi : Calls Try.prog 103 #[.slice o ys.length c, .func (.func i_patch_Bytes_c1) #[] #[]] w (Ret fun v w' => ∃ i : Int, v = .int .i64 i ∧ decide (i ≥ 0) = ys.any badB ∧ Ch Non w w') := by
    refine slices_IndexFunc.calls_pb _ _ _ ?_
    unfold slices_IndexFunc.vc_pb
    refine ⟨fun i k w' => Ch Non w w' ∧ ∃ j : Nat, i = j ∧ j ≤ ys.length ∧ k = ys.length - j ∧ (ys.take j).any badB = false, ⟨_, Ch.refl _ _, 0, rfl, Nat.zero_le _, rfl, rfl⟩, ?_⟩
    rintro jk i k w' ⟨hc, j, rfl, hj, rfl, hall⟩
    refine ⟨fun hlt => ?_, fun hge => ?_⟩
    · have hlt : j < ys.length := by have := of_decide_eq_true hlt; omega
      refine ⟨⟨by omega, by omega⟩, ops_at (hx.keepN hc) hlt fun p hp => ⟨_, _, _, _, hp, ?_⟩⟩
      refine step_call (Bytes_c1_spec w' ys[j]) ?_
      rintro v w1 ⟨rfl, hc1⟩
      refine ⟨_, rfl, fun h => ⟨_, rfl, ?_, hc.andN hc1⟩, fun h => ⟨ys.length - (j + 1), by omega, hc.andN hc1, j + 1, by rw [wrap_id (by omega) (by omega)]; rfl, hlt, rfl, ?_⟩⟩
      · have : ys.any badB = true := by rw [List.any_eq_true]; exact ⟨ys[j], List.getElem_mem _, h⟩
        rw [this]; simp
      · rw [take_snoc ys j hlt, List.any_append, hall]
        simpa using h
    · have : j = ys.length := by have := of_decide_eq_false hge; omega
      subst this
      rw [List.take_length] at hall
      exact ⟨_, rfl, by rw [hall]; rfl, hc⟩
  refine step_call hi ?_
  rintro v w1 ⟨i, rfl, h, hc⟩
  exact ⟨_, rfl, by rw [h], hc⟩
theorem Bytes_spec (hx : Rd w o (ys.map opEnc).flatten G) (hl : ys.length ≤ 1000000) (c : Nat) :
    Calls Try.prog i_patch_Bytes #[.slice o ys.length c] w (Ret fun v w' => v = .tuple #[.string (str (bytesT ys)), .int .i64 (if bytesOk ys then 0 else 1)] ∧ Ch Non w w') := by
  refine patch_Bytes.calls _ _ _ ?_
  unfold patch_Bytes.vc
  refine ⟨fun h => ?_, fun h256 => ?_⟩
  · have := of_decide_eq_true h
    have hno : bytesOk ys = false := by unfold bytesOk; rw [decide_eq_false (by omega)]; rfl
    unfold bytesT; rw [hno]; exact ⟨rfl, Ch.refl _ _⟩
  have h256 := of_decide_eq_false h256
  refine step_call (ContainsB_spec hx hl c) ?_
  rintro v w1 ⟨rfl, hC1⟩
  refine ⟨_, rfl, fun hb => ?_, fun hb => ?_⟩
  · have hno : bytesOk ys = false := by unfold bytesOk; rw [hb]; simp
    unfold bytesT; rw [hno]; exact ⟨rfl, hC1⟩
  have hok : bytesOk ys = true := by unfold bytesOk; rw [hb, decide_eq_true (by omega)]; rfl
  unfold bytesT
  rw [hok, if_pos rfl, if_pos rfl]
  intro w2 e2
  have hP2 : PenR w2 w1.heap.size false [] (New w1 w2) := Bld.made e2 pen_type
  have hC2 : Ch Non w w2 := hC1.andN (Ch.alloc e2)
  have hF2 : Foot w w2 (New w1 w2) := Foot.new hC1
  generalize New w1 w2 = F at hP2 hF2
  generalize w1.heap.size = pb at hP2 ⊢
  intro w3 e3
  have hc3 : Ch Non w2 w3 := Ch.alloc e3
  have hsz : w2.heap.size < w3.heap.size := (Blk.new e3).lt
  have hrd : Rd w3 (some ⟨w2.heap.size, 0, none⟩) (([(ys.length : Int)] : List Int).map (.int .i64)) (· = w2.heap.size) := (Blk.new e3).rd
  refine step_call (PenNum_spec (hP2.keepN hc3) (fun i hi => by have := (hF2 i hi).2; omega) hrd (fun i hi => by subst hi; exact ⟨hsz, fun hx => absurd (hF2 _ hx).2 (Nat.lt_irrefl _)⟩) (by simp) 1) ?_
  rintro v w4 ⟨rfl, hP4, hc4⟩
  have hx1 : [((ys.length : Nat) : Int)].any outN = false := by unfold outN; simp; omega
  have hx2 : numsL [((ys.length : Nat) : Int)] = numI ys.length := by simp [numsL]
  rw [hx1, hx2, Bool.or_false, List.nil_append] at hP4
  have hC3 := hC2.andN hc3
  have hF3 := hF2.le hc3.size
  have hF4 := hF3.ext hC3 hc4.size
  have hC4 := hF3.hi hC3 hc4
  generalize Ext F w3 w4 = F4 at hP4 hF4
  refine ⟨rfl, fun i k w' => ∃ (j : Nat) (F : Nat → Prop), i = j ∧ j ≤ ys.length ∧ k = ys.length - j ∧ PenR w' pb false (numI ys.length ++ opsL (ys.take j)) F ∧ Foot w w' F ∧ Ch Non w w', ⟨_, 0, F4, rfl, Nat.zero_le _, rfl, by simpa [opsL] using hP4, hF4, hC4⟩, ?_⟩
  clear hP4 hF4 hP2 hF2
  rintro jk i k w5 ⟨j, F, rfl, hj, rfl, hP, hF, hC⟩
  have hnl : (numI (ys.length : Int)).length = 4 := numI_len _
  refine ⟨fun hlt => ?_, fun hge => ?_⟩
  · have hlt : j < ys.length := by have := of_decide_eq_true hlt; omega
    have hbj : badB ys[j] = false := by
      have := List.any_eq_false.1 hb ys[j] (List.getElem_mem hlt)
      simpa using this
    have hpre := opsL_len (ys := ys.take j) (by
      rw [List.any_eq_false]; intro y hy
      exact List.any_eq_false.1 hb y (List.mem_of_mem_take hy))
    have hpl : (ys.take j).length = j := by simp; omega
    obtain ⟨b1, b2, b3, b4⟩ := opB_len hbj
    have hsn := take_snoc ys j hlt
    refine ⟨⟨by omega, by omega⟩, ops_at (hx.keepN hC) hlt fun p hp => ⟨_, _, _, _, hp, fun w6 e6 => ?_⟩⟩
    have hO := Blk.new e6
    refine ⟨⟨hO.ok 0 rfl, hO.ok 1 rfl, hO.ok 2 rfl, hO.ok 3 rfl⟩, fun w7 e7 => ?_⟩
    have e7' : w7 = w6.setCells w5.heap.size 0 (opEnc ys[j]) := e7
    have hO7 := hO.all (opEnc ys[j]) rfl e7'
    have hc7 : Ch Non w5 w7 := (Ch.alloc (F := Non) e6).trans (Ch.sets (F := (· = w5.heap.size)) e7' rfl) (fun i hi he => by omega)
    have hxF : ¬ F w5.heap.size := fun h => absurd (hF _ h).2 (Nat.lt_irrefl _)
    generalize w5.heap.size = xb at hO7 hxF ⊢
    generalize ys[j] = y at hO7 hsn hbj b1 b2 b3 b4
    have hopB : opB y = [toB8 y.k] ++ (if y.k = 2 then [] else numI y.f) ++ (if y.k = 1 then numI y.s else textB y.d) := rfl
    refine ⟨_, hO7.cell 0 rfl, fun w8 e8 => ?_⟩
    have hc8 : Ch Non w7 w8 := Ch.alloc e8
    have hc58 := hc7.andN hc8
    have hF8 := hF.le hc58.size
    have hC8 := hC.andN hc58
    have hO8 := hO7.keepN hc8
    rw [← toB8_val] at e8
    have hrd8 : Rd w8 (some ⟨w7.heap.size, 0, none⟩) (([toB8 y.k] : List UInt8).map u8v) (· = w7.heap.size) := (Blk.new e8).rd
    have hpb7 : pb < w7.heap.size := (hP.keepN hc7).lt
    refine step_call (PenByte_spec (hP.keepN hc58) hrd8 (fun i hi => by omega) (by simp only [List.length_append, List.length_singleton]; omega) 1) ?_
    rintro v w9 ⟨rfl, hP9, hc9⟩
    have hF9 := hF8.ext hC8 hc9.size
    have hC9 := hF8.hi hC8 hc9
    have hO9 := hO8.keep hc9 hxF
    have hx9 : ¬ Ext F w8 w9 xb := fun h => by
      rcases h with h | h
      · exact hxF h
      · exact absurd hO8.lt (Nat.not_lt.2 h.1)
    generalize Ext F w8 w9 = F9 at hP9 hF9 hx9
    refine ⟨rfl, fun w' => ∃ F, PenR w' pb false (numI ys.length ++ opsL (ys.take j) ++ [toB8 y.k] ++ (if y.k = 2 then [] else numI y.f)) F ∧ Foot w w' F ∧ ¬ F xb ∧ Blk w' xb (opEnc y) 126 ∧ Ch Non w w', ⟨_, hO9.cell 0 rfl, fun hk => ⟨_, hO9.cell 1 rfl, fun w10 e10 => ?_⟩, fun hk => ?_⟩, ?_⟩
    · have hk : ¬ y.k = 2 := by simpa using hk
      have hc10 : Ch Non w9 w10 := Ch.alloc e10
      have hsz10 : w9.heap.size < w10.heap.size := (Blk.new e10).lt
      have hrd10 : Rd w10 (some ⟨w9.heap.size, 0, none⟩) (([y.f] : List Int).map (.int .i64)) (· = w9.heap.size) := (Blk.new e10).rd
      refine step_call (PenNum_spec (hP9.keepN hc10) (fun i hi => by have := (hF9 i hi).2; omega) hrd10 (fun i hi => by subst hi; exact ⟨hsz10, fun hx => absurd (hF9 _ hx).2 (Nat.lt_irrefl _)⟩) (by simp only [List.length_append, List.length_singleton]; omega) 1) ?_
      rintro v w11 ⟨rfl, hP11, hc11⟩
      have hy1 : [y.f].any outN = false := by simp [b3]
      have hy2 : numsL [y.f] = numI y.f := by simp [numsL]
      rw [hy1, hy2, Bool.or_false] at hP11
      rw [if_neg hk]
      refine ⟨rfl, _, hP11, (hF9.le hc10.size).ext (hC9.andN hc10) hc11.size, fun h => ?_, (hO9.keepN hc10).keep hc11 hx9, (hF9.le hc10.size).hi (hC9.andN hc10) hc11⟩
      rcases h with h | h
      · exact hx9 h
      · exact absurd (hO9.keepN hc10).lt (Nat.not_lt.2 h.1)
    · have hk : y.k = 2 := by simpa using hk
      rw [if_pos hk, List.append_nil]
      exact ⟨F9, hP9, hF9, hx9, hO9, hC9⟩
    clear hP9 hF9 hO9 hx9 hC9
    rintro jk w12 ⟨F12, hP12, hF12, hx12, hO12, hC12⟩
    have hmid : (numI (ys.length : Int) ++ opsL (ys.take j) ++ [toB8 y.k] ++ (if y.k = 2 then [] else numI y.f)).length ≤ 9000 * j + 20 := by
      split <;> simp only [List.length_append, List.length_singleton, numI_len, List.length_nil] <;> omega
    have hassoc : ∀ r, numI (ys.length : Int) ++ opsL (ys.take j) ++ [toB8 y.k] ++ (if y.k = 2 then [] else numI y.f) ++ r = numI (ys.length : Int) ++ (opsL (ys.take j) ++ ([toB8 y.k] ++ (if y.k = 2 then [] else numI y.f) ++ r)) := fun r => by simp only [List.append_assoc]
    refine ⟨_, hO12.cell 0 rfl, fun hk => ⟨_, hO12.cell 2 rfl, fun w13 e13 => ?_⟩, fun hk => ⟨_, hO12.cell 3 rfl, fun w13 e13 => ?_⟩⟩
    · have hk : y.k = 1 := by simpa using hk
      have hc13 : Ch Non w12 w13 := Ch.alloc e13
      have hsz13 : w12.heap.size < w13.heap.size := (Blk.new e13).lt
      have hrd13 : Rd w13 (some ⟨w12.heap.size, 0, none⟩) (([y.s] : List Int).map (.int .i64)) (· = w12.heap.size) := (Blk.new e13).rd
      refine step_call (PenNum_spec (hP12.keepN hc13) (fun i hi => by have := (hF12 i hi).2; omega) hrd13 (fun i hi => by subst hi; exact ⟨hsz13, fun hx => absurd (hF12 _ hx).2 (Nat.lt_irrefl _)⟩) (by simp only [List.length_singleton]; omega) 1) ?_
      rintro v w14 ⟨rfl, hP14, hc14⟩
      have hy1 : [y.s].any outN = false := by simp [b4]
      have hy2 : numsL [y.s] = numI y.s := by simp [numsL]
      rw [hy1, hy2, Bool.or_false, hassoc] at hP14
      rw [if_pos hk] at hopB
      rw [← hopB] at hP14
      exact ⟨rfl, ys.length - (j + 1), by omega, j + 1, _, by rw [wrap_id (by omega) (by omega)]; rfl, hlt, rfl, by rw [hsn, opsL_snoc]; exact hP14, (hF12.le hc13.size).ext (hC12.andN hc13) hc14.size, (hF12.le hc13.size).hi (hC12.andN hc13) hc14⟩
    · have hk : ¬ y.k = 1 := by simpa using hk
      have hc13 : Ch Non w12 w13 := Ch.alloc e13
      have hsz13 : w12.heap.size < w13.heap.size := (Blk.new e13).lt
      have hrd13 : Rd w13 (some ⟨w12.heap.size, 0, none⟩) (([y.d] : List ByteArray).map .string) (· = w12.heap.size) := (Blk.new e13).rd
      have hty : textsL [y.d] = textB y.d := by simp [textsL]
      have htl : (textB y.d).length ≤ 9000 := by simp [textB, numI_len]; omega
      refine step_call (PenText_spec (hP12.keepN hc13) (fun i hi => by have := (hF12 i hi).2; omega) hrd13 (fun i hi => by subst hi; exact ⟨hsz13, fun hx => absurd (hF12 _ hx).2 (Nat.lt_irrefl _)⟩) (by rw [hty]; omega) (fun s hs => by rw [List.mem_singleton] at hs; subst hs; omega) (by simp) 1) ?_
      rintro v w14 ⟨rfl, hP14, hc14⟩
      rw [hty, hassoc] at hP14
      rw [if_neg hk] at hopB
      rw [← hopB] at hP14
      exact ⟨rfl, ys.length - (j + 1), by omega, j + 1, _, by rw [wrap_id (by omega) (by omega)]; rfl, hlt, rfl, by rw [hsn, opsL_snoc]; exact hP14, (hF12.le hc13.size).ext (hC12.andN hc13) hc14.size, (hF12.le hc13.size).hi (hC12.andN hc13) hc14⟩
  · have : j = ys.length := by have := of_decide_eq_false hge; omega
    subst this
    rw [List.take_length] at hP
    have hll := opsL_len hb
    refine step_call (PenBytes_spec hP (by rw [List.length_append]; omega)) ?_
    rintro v w6 ⟨rfl, _, hc6⟩
    exact ⟨_, rfl, rfl, hF.hi hC hc6⟩
theorem Cost_spec (hx : Rd w o (ys.map opEnc).flatten G) (hl : ys.length ≤ 1000000) (c : Nat) :
    Calls Try.prog i_patch_Cost #[.slice o ys.length c] w (Ret fun v w' => v = .int .i64 (bytesT ys).length ∧ Ch Non w w') := by
  refine patch_Cost.calls _ _ _ ?_
  unfold patch_Cost.vc
  refine step_call (Bytes_spec hx hl c) ?_
  rintro v w1 ⟨rfl, hc⟩
  exact ⟨_, _, rfl, by rw [str_size], hc⟩
end
end Go.Proofs.Ytpcddfhfchempaa.Patch
