/- For every base and all deeds: what layer 19's functions answer; the conditions stand in each theorem. -/
import Derived.Test.YtpcddfhfchempaaPen2
import Derived.Test.YtpcddfhfchempaaBldS
import Derived.Test.YtpcddfhfchempaaDat
import Derived.Test.YtpcddfhfchempaaVcPatch
set_option linter.unusedVariables false
set_option linter.unusedSimpArgs false
namespace Go.Proofs.Ytpcddfhfchempaa.Patch
open Go Go.Proofs Go.Proofs.Ytpcddfhfchempaa.V Go.Proofs.Ytpcddfhfchempaa.Vc Go.Proofs.Ytpcddfhfchempaa.Pen Go.RowKit

structure OpD where
  k : Int
  f : Int
  s : Int
  d : ByteArray
def opEnc (y : OpD) : List Value := [.int .i64 y.k, .int .i64 y.f, .int .i64 y.s, .string y.d]
def opAgg (y : OpD) : Value := .agg #[.int .i64 y.k, .int .i64 y.f, .int .i64 y.s, .string y.d]
def isInB (base f s : Int) : Bool := decide (s ≥ 1 ∧ f ≥ 0 ∧ f ≤ base ∧ s ≤ base - f)
def goodOp (base : Int) (y : OpD) : Bool := if y.k = 1 then isInB base y.f y.s && decide (y.d.size = 0) else if y.k = 2 then decide (y.f = 0 ∧ y.s = 0 ∧ y.d.size ≠ 0 ∧ y.d.size ≤ 8192) else if y.k = 3 then isInB base y.f y.d.size && decide (y.s = 0 ∧ y.d.size ≤ 8192) else false
theorem emp_beq (s : ByteArray) : (s.toList == (ByteArray.mk #[]).toList) = decide (s.size = 0) := by
  rw [str_toList, str_toList]
  have hs : s.data.toList.length = s.size := by simp
  by_cases h : s.size = 0
  · have : s.data.toList = [] := List.length_eq_zero_iff.1 (by omega)
    rw [this, decide_eq_true h]; rfl
  · rw [decide_eq_false h]
    cases hd : s.data.toList with
    | nil => rw [hd] at hs; simp at hs; omega
    | cons x r => rfl
theorem isIn_spec (w : World) {base : Int} (hb : 0 ≤ base ∧ base ≤ 2147483648) (f s : Int) : Calls Try.prog i_patch_isIn #[.int .i64 base, .int .i64 f, .int .i64 s] w (Ret fun v w' => v = .bool (isInB base f s) ∧ w' = w) := by
  refine patch_isIn.calls _ _ _ ?_
  unfold patch_isIn.vc isInB
  refine ⟨fun h1 => ⟨fun h2 => ⟨fun h3 => ⟨?_, rfl⟩, fun h3 => ⟨?_, rfl⟩⟩, fun h2 => ⟨?_, rfl⟩⟩, fun h1 => ⟨?_, rfl⟩⟩
  · have h1 := of_decide_eq_true h1
    have h2 := of_decide_eq_true h2
    have h3 := of_decide_eq_true h3
    rw [wrap_id (by omega) (by omega)]
    congr 1
    exact decide_eq_decide.2 ⟨fun h => ⟨h1, h2, h3, h⟩, fun h => h.2.2.2⟩
  · rw [decide_eq_false (fun h => of_decide_eq_false h3 h.2.2.1)]
  · rw [decide_eq_false (fun h => of_decide_eq_false h2 h.2.1)]
  · rw [decide_eq_false (fun h => of_decide_eq_false h1 h.1)]
theorem Good_spec (w : World) {base : Int} (hb : 0 ≤ base ∧ base ≤ 2147483648) (y : OpD) : Calls Try.prog i_patch_Good #[.int .i64 base, opAgg y] w (Ret fun v w' => v = .bool (goodOp base y) ∧ Ch Non w w') := by
  refine patch_Good.calls _ _ _ _ _ ?_
  unfold patch_Good.vc goodOp
  intro w1 e1
  have hB := Blk.new e1
  have hC : Ch Non w w1 := Ch.alloc e1
  refine ⟨_, hB.cell 0 rfl, fun h1 => ?_, fun h1 => ⟨fun h2 => ?_, fun h2 => ⟨fun h3 => ?_, fun h3 => ?_⟩⟩⟩
  · have h1 : y.k = 1 := by simpa using h1
    rw [if_pos h1]
    refine ⟨_, hB.cell 1 rfl, _, hB.cell 2 rfl, ?_⟩
    refine step_call (isIn_spec w1 hb _ _) ?_
    rintro v w2 ⟨rfl, rfl⟩
    refine ⟨_, rfl, fun h => ⟨_, hB.cell 3 rfl, by rw [h, emp_beq]; rfl, hC⟩, fun h => ⟨by rw [h]; rfl, hC⟩⟩
  · have h1 : ¬ y.k = 1 := by simpa using h1
    have h2 : y.k = 2 := by simpa using h2
    rw [if_neg h1, if_pos h2]
    refine ⟨_, hB.cell 1 rfl, fun a => ⟨_, hB.cell 2 rfl, fun b => ⟨_, hB.cell 3 rfl, fun c => ⟨_, hB.cell 3 rfl, ?_, hC⟩, fun c => ⟨?_, hC⟩⟩, fun b => ⟨?_, hC⟩⟩, fun a => ⟨?_, hC⟩⟩
    · have a : y.f = 0 := by simpa using a
      have b : y.s = 0 := by simpa using b
      rw [emp_beq] at c
      have c : ¬ y.d.size = 0 := by simpa using c
      congr 1
      exact decide_eq_decide.2 ⟨fun h => ⟨a, b, c, by omega⟩, fun h => by have := h.2.2.2; omega⟩
    · rw [emp_beq] at c
      have c : y.d.size = 0 := by simpa using c
      rw [decide_eq_false (fun h => h.2.2.1 c)]
    · have b : ¬ y.s = 0 := by simpa using b
      rw [decide_eq_false (fun h => b h.2.1)]
    · have a : ¬ y.f = 0 := by simpa using a
      rw [decide_eq_false (fun h => a h.1)]
  · have h1 : ¬ y.k = 1 := by simpa using h1
    have h2 : ¬ y.k = 2 := by simpa using h2
    have h3 : y.k = 3 := by simpa using h3
    rw [if_neg h1, if_neg h2, if_pos h3]
    refine ⟨_, hB.cell 1 rfl, _, hB.cell 3 rfl, ?_⟩
    refine step_call (isIn_spec w1 hb _ _) ?_
    rintro v w2 ⟨rfl, rfl⟩
    refine ⟨_, rfl, fun h => ⟨_, hB.cell 2 rfl, fun b => ⟨_, hB.cell 3 rfl, ?_, hC⟩, fun b => ⟨?_, hC⟩⟩, fun h => ⟨by rw [h]; rfl, hC⟩⟩
    · have b : y.s = 0 := by simpa using b
      rw [h, Bool.true_and]
      congr 1
      exact decide_eq_decide.2 ⟨fun h => ⟨b, by omega⟩, fun h => by have := h.2; omega⟩
    · have b : ¬ y.s = 0 := by simpa using b
      rw [h, Bool.true_and, decide_eq_false (fun h => b h.1)]
  · have h1 : ¬ y.k = 1 := by simpa using h1
    have h2 : ¬ y.k = 2 := by simpa using h2
    have h3 : ¬ y.k = 3 := by simpa using h3
    rw [if_neg h1, if_neg h2, if_neg h3]
    exact ⟨rfl, hC⟩
/-- Bytes, each more by another one. -/
def addL (a b : List UInt8) : List UInt8 := List.zipWith (fun x y => UInt8.ofNat ((x.toNat + y.toNat) % 256)) a b
theorem setCell_heap {w : World} {g j : Nat} {cur : Array Value} {e : Nat} {fz : Nat × Nat} (hg : w.heap[g]? = some (.cells cur e fz)) (v : Value) : (w.setCell ⟨g, j, none⟩ v).heap[g]? = some (.cells (cur.setIfInBounds j v) e fz) := by
  simp [World.setCell, Array.getElem?_modify, hg]
set_option maxRecDepth 100000 in
theorem added_spec (w : World) (a b : ByteArray) (h : a.size ≤ b.size) (ha : a.size ≤ 1000000) : Calls Try.prog i_patch_added #[.string a, .string b] w (Ret fun v w' => v = .string (str (addL a.data.toList b.data.toList)) ∧ Ch Non w w') := by
  refine patch_added.calls _ _ ?_
  unfold patch_added.vc
  have hal : a.data.toList.length = a.size := by simp
  have hbl : b.data.toList.length = b.size := by simp
  have u1 : Try.prog.underlying t_string = some .string := by kernel_rfl
  have u2 : Try.prog.underlying t_S_uint8 = some (.slice t_uint8) := by kernel_rfl
  have u3 : Try.prog.underlying t_uint8 = some (.int .u8) := by kernel_rfl
  refine ⟨_, _, _, _, Lib.run_convert_string_bytes w t_string t_S_uint8 t_uint8 a u1 u2 u3, ?_⟩
  have hn := Lib.bytesWorld_at_new w t_uint8 a
  have hC1 : Ch Non w (Lib.bytesWorld w t_uint8 a) := Ch.of_below ⟨rfl, rfl, rfl, by rw [Lib.bytesWorld_size]; omega, fun j hj => Lib.bytesWorld_at_old w t_uint8 a j hj⟩
  have hcell : (Lib.bytesCells w t_uint8 a).toList.take a.size = a.data.toList.map u8v ∧ a.size ≤ (Lib.bytesCells w t_uint8 a).size := by
    unfold Lib.bytesCells
    refine ⟨?_, by simp⟩
    rw [Array.toList_append]
    have : a.size = (a.data.toList.map u8v).length := by simp
    rw [List.take_append_of_le_length (by simp)]
    (rw [List.take_of_length_le (by simp)]) <;> simp [u8v]
  generalize Lib.bytesCells w t_uint8 a = C at hn hcell
  generalize Lib.bytesWorld w t_uint8 a = w1 at hn hC1 ⊢
  have hgl : w.heap.size < w1.heap.size := (Array.getElem?_eq_some_iff.1 hn).1
  have hLl : (addL a.data.toList b.data.toList).length = a.size := by simp [addL]; omega
  have hLi : ∀ (j : Nat) (h : j < (addL a.data.toList b.data.toList).length) (h1 : j < a.data.toList.length) (h2 : j < b.data.toList.length), (addL a.data.toList b.data.toList)[j] = UInt8.ofNat ((a.data.toList[j].toNat + b.data.toList[j].toNat) % 256) := fun j h h1 h2 => by simp [addL]
  generalize addL a.data.toList b.data.toList = L at hLl hLi ⊢
  have hgw : w.heap.size ≤ w.heap.size := Nat.le_refl _
  generalize hgd : w.heap.size = g at hn hgl ⊢
  have hbt : ∀ j (h : j < b.data.toList.length), bt b (j : Int) = (b.data.toList[j].toNat : Int) := fun j h => by
    unfold bt
    rw [Int.toNat_natCast]
    simp [Array.getD_eq_getD_getElem?, Array.getElem?_eq_getElem (show j < b.data.size by simpa using h)]
  generalize b.data.toList = B at hbl hLi hbt
  generalize a.data.toList = A at hal hcell hLi
  refine ⟨fun i k w' => ∃ (j : Nat) (cur : Array Value), i = j ∧ j ≤ a.size ∧ k = a.size - j ∧ w'.heap[g]? = some (.cells cur t_uint8 (C.size, C.size + 1)) ∧ cur.size = C.size ∧ cur.toList.take a.size = (L.take j ++ A.drop j).map u8v ∧ Ch (· = g) w1 w', ⟨_, 0, C, rfl, Nat.zero_le _, rfl, hn, rfl, by simpa using hcell.1, Ch.refl _ _⟩, ?_⟩
  rintro jk i k w2 ⟨j, cur, rfl, hj, rfl, hg, hcs, hcur, hc⟩
  have rdj : ∀ {m : Nat} {x : UInt8}, (L.take j ++ A.drop j)[m]? = some x → w2.cell? ⟨g, m, none⟩ = some (u8v x) := fun {m x} hm => by
    have h1 : (cur.toList.take a.size)[m]? = some (u8v x) := by rw [hcur, List.getElem?_map, hm]; rfl
    rw [List.getElem?_take] at h1
    split at h1
    · simp only [World.cell?, hg]
      simpa using h1
    · cases h1
  refine ⟨fun hlt => ?_, fun hge => ?_⟩
  · have hlt : j < a.size := by have := of_decide_eq_true hlt; omega
    have hjA : j < A.length := by omega
    have hjB : j < B.length := by omega
    have hjL : j < L.length := by omega
    have hm : (L.take j ++ A.drop j)[j]? = some A[j] := by
      rw [List.getElem?_append_right (by simp; omega)]
      simp [Nat.min_eq_left (Nat.le_of_lt hjL)]
    have hidx : ∀ w' : World, w'.cell? ((⟨g, 0, none⟩ : Addr).add ((j : Int).toNat * 1)) = w'.cell? ⟨g, j, none⟩ := fun w' => by rw [add_at, show 0 + (j : Int).toNat * 1 = j by omega]
    have hcell2 := rdj hm
    have hg3 : ∀ w3, w3 = w2.drew → w3.heap[g]? = some (.cells cur t_uint8 (C.size, C.size + 1)) := fun w3 e3 => by subst e3; exact hg
    refine ⟨fun w' => True, fun w3 e3 => ⟨trivial, ⟨by omega, by omega⟩, ⟨by omega, by omega⟩, _, by rw [hidx]; subst e3; exact hcell2, trivial, ⟨by omega, by omega⟩, ⟨⟨_, by rw [hidx]; subst e3; exact hcell2⟩, ?_⟩, fun w4 e4 => ⟨trivial, a.size - (j + 1), by omega, j + 1, cur.setIfInBounds j (u8v L[j]), by rw [wrap_id (by omega) (by omega)]; rfl, hlt, rfl, ?_, by simpa using hcs, ?_, (hc.same (Ch.drew e3)).same (Ch.set e4 (by rw [add_block]))⟩⟩⟩
    · rw [add_at, show 0 + (j : Int).toNat * 1 = j by omega]
      simp only [World.frozen?, hg3 w3 e3]
      have : ¬ C.size ≤ j := by omega
      simp [this]
    · rw [add_at, show 0 + (j : Int).toNat * 1 = j by omega, hbt j hjB] at e4
      have hv : (Value.int IntKind.u8 (IntKind.u8.wrap ((A[j].toNat : Int) + (B[j].toNat : Int)))) = u8v L[j] := by
        rw [hLi j hjL hjA hjB]
        have hw : ∀ x : Int, IntKind.u8.wrap x = x % 256 := fun _ => rfl
        unfold u8v
        rw [hw, UInt8.toNat_ofNat']
        congr 1
        omega
      rw [hv] at e4
      rw [e4]
      exact setCell_heap (hg3 w3 e3) _
    · rw [Array.toList_setIfInBounds, List.take_set, hcur, ← List.map_set]
      congr 1
      rw [List.set_append_right _ _ (by simp; omega), take_snoc L j hjL, List.drop_eq_getElem_cons hjA]
      simp only [List.length_take, Nat.min_eq_left (Nat.le_of_lt hjL), Nat.sub_self, List.set_cons_zero, List.append_assoc, List.singleton_append]
  · have hjn : j = a.size := by have := of_decide_eq_false hge; omega
    subst hjn
    rw [List.take_of_length_le (l := L) (by omega), List.drop_of_length_le (l := A) (by omega), List.append_nil] at hcur
    have hrd : Rd w2 (some ⟨g, 0, none⟩) (L.map u8v) (· = g) := fun m v hv => by
      refine ⟨_, rfl, rfl, (Array.getElem?_eq_some_iff.1 hg).1, ?_⟩
      rw [row_cell hg, ← Array.getElem?_toList]
      rw [← hcur, List.getElem?_take] at hv
      split at hv
      · exact hv
      · cases hv
    have hout := conv_out (P := Try.prog) (src := t_S_uint8) (dst := t_string) (e := t_uint8) (c := grownCap w a.size 0 t_uint8) hrd (by kernel_rfl) (by kernel_rfl) (by kernel_rfl)
    rw [hLl] at hout
    exact ⟨_, _, hout, rfl, hC1.trans hc (fun i hi he => by omega)⟩
end Go.Proofs.Ytpcddfhfchempaa.Patch
