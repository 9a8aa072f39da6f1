/- For every command: what the document's layer 29 answers of it; the conditions stand in each theorem. -/
import Derived.Test.YtamkffjmggbekaaOrd4
import Derived.Test.YtamkffjmggbekaaVcOrdR
set_option linter.unusedVariables false
set_option linter.unusedSimpArgs false
namespace Go.Proofs.Ytamkffjmggbekaa.Ord
open Go Go.Proofs Go.Proofs.Ytamkffjmggbekaa.V Go.Proofs.Ytamkffjmggbekaa.Vc Go.Proofs.Ytamkffjmggbekaa.Pen Go.RowKit

def letter : Fld → UInt8 | .id => 105 | .n => 110 | .good => 103 | .prompt => 112 | .draws => 100 | .data => 116
def hasL (k : Int) : List UInt8 := (fldsK k).map letter
def hasB (k : Int) (x : Int) : Bool := (hasL k).any fun b => (b.toNat : Int) == x
theorem bt_strO (t : List UInt8) {q : Nat} (hq : q < t.length) : bt (str t) (q : Int) = (t[q].toNat : Int) := by
  simp [bt, str, hq]
section
variable {w w' : World} {q : CmD × RwP} {D G : Nat → Prop} {o : Option Addr} {xs : List Int}
theorem RHas_spec (w : World) (k : Int) : Calls Try.prog i_coadjutorref29_Has #[.int .i64 k] w (Ret fun v w' => v = .string (str (hasL k)) ∧ w' = w) := by
  refine coadjutorref29_Has.calls _ ?_
  unfold coadjutorref29_Has.vc
  refine ⟨fun hk => ?_, fun k1 => ⟨fun hk => ⟨hk, ?_⟩, fun k2 => ⟨fun hk => ?_, fun k3 => ⟨fun hk => ⟨hk, ?_⟩, fun k5 => ⟨fun hk => ?_, fun k10 => ⟨fun hk => ?_, fun k6 => ⟨fun hk => ?_, fun k7 => ⟨fun hk => ?_, fun k8 => ?_⟩⟩⟩⟩⟩⟩⟩⟩
  · have hk := eq_of_beq hk; subst hk; exact ⟨rfl, rfl⟩
  · have hk := eq_of_beq hk; subst hk; exact ⟨rfl, rfl⟩
  · have hk := eq_of_beq hk; subst hk; exact ⟨rfl, rfl⟩
  · have hk := eq_of_beq hk; subst hk; exact ⟨rfl, rfl⟩
  · have hk := eq_of_beq hk; subst hk; exact ⟨rfl, rfl⟩
  · have hk := eq_of_beq hk; subst hk; exact ⟨rfl, rfl⟩
  · have hk := eq_of_beq hk; subst hk; exact ⟨rfl, rfl⟩
  · have hk := eq_of_beq hk; subst hk; exact ⟨rfl, rfl⟩
  · have ne : ∀ {j : Int}, (k == j) = false → ¬ k = j := fun h he => by rw [he] at h; simp at h
    have hv : hasL k = [] := by
      unfold hasL fldsK
      have := ne k1; have := ne k2; have := ne k3; have := ne k5; have := ne k10; have := ne k6; have := ne k7; have := ne k8
      rw [if_neg (by omega), if_neg (by omega), if_neg (by omega), if_neg (by omega), if_neg (by omega), if_neg (by omega)]; rfl
    rw [hv]
    exact ⟨rfl, rfl⟩
theorem _root_.Go.Proofs.Ytamkffjmggbekaa.V.Blk.set' {w : World} {b T : Nat} {cs : List Value} (h : Blk w b cs T) (i : Nat) (v : Value) : Blk (w.setCell ⟨b, i, none⟩ v) b (cs.set i v) T := h.set rfl
theorem RName_spec (w : World) (k : Int) : Calls Try.prog i_coadjutorref29_Name #[.int .i64 k] w (Ret fun v w' => v = .string (str (nameL k)) ∧ Ch Non w w') := by
  refine coadjutorref29_Name.calls _ ?_
  unfold coadjutorref29_Name.vc
  intro w1 e1
  have h1 := Blk.new e1
  refine ⟨⟨h1.ok 0 rfl, h1.ok 1 rfl, h1.ok 2 rfl, h1.ok 3 rfl, h1.ok 4 rfl, h1.ok 5 rfl, h1.ok 6 rfl, h1.ok 7 rfl, h1.ok 8 rfl, h1.ok 9 rfl, h1.ok 10 rfl, h1.ok 11 rfl, h1.ok 12 rfl⟩, fun w2 e2 => ?_⟩
  have b0 := h1
  have c0 := Ch.refl (· = w.heap.size) w1
  have b1 := b0.set' 0 (.string (ByteArray.mk #[115, 117, 98, 109, 105, 116]))
  have c1 := c0.same (Ch.set (F := (· = w.heap.size)) (p := ⟨w.heap.size, 0, none⟩) (v := (.string (ByteArray.mk #[115, 117, 98, 109, 105, 116]))) rfl rfl)
  have b2 := b1.set' 1 (.string (ByteArray.mk #[99, 97, 110, 99, 101, 108]))
  have c2 := c1.same (Ch.set (F := (· = w.heap.size)) (p := ⟨w.heap.size, 1, none⟩) (v := (.string (ByteArray.mk #[99, 97, 110, 99, 101, 108]))) rfl rfl)
  have b3 := b2.set' 2 (.string (ByteArray.mk #[112, 111, 108, 108]))
  have c3 := c2.same (Ch.set (F := (· = w.heap.size)) (p := ⟨w.heap.size, 2, none⟩) (v := (.string (ByteArray.mk #[112, 111, 108, 108]))) rfl rfl)
  have b4 := b3.set' 3 (.string (ByteArray.mk #[97, 100, 109, 105, 116]))
  have c4 := c3.same (Ch.set (F := (· = w.heap.size)) (p := ⟨w.heap.size, 3, none⟩) (v := (.string (ByteArray.mk #[97, 100, 109, 105, 116]))) rfl rfl)
  have b5 := b4.set' 4 (.string (ByteArray.mk #[112, 105, 99, 107]))
  have c5 := c4.same (Ch.set (F := (· = w.heap.size)) (p := ⟨w.heap.size, 4, none⟩) (v := (.string (ByteArray.mk #[112, 105, 99, 107]))) rfl rfl)
  have b6 := b5.set' 5 (.string (ByteArray.mk #[110, 111, 116, 101]))
  have c6 := c5.same (Ch.set (F := (· = w.heap.size)) (p := ⟨w.heap.size, 5, none⟩) (v := (.string (ByteArray.mk #[110, 111, 116, 101]))) rfl rfl)
  have b7 := b6.set' 6 (.string (ByteArray.mk #[98, 101, 103, 105, 110]))
  have c7 := c6.same (Ch.set (F := (· = w.heap.size)) (p := ⟨w.heap.size, 6, none⟩) (v := (.string (ByteArray.mk #[98, 101, 103, 105, 110]))) rfl rfl)
  have b8 := b7.set' 7 (.string (ByteArray.mk #[99, 104, 117, 110, 107]))
  have c8 := c7.same (Ch.set (F := (· = w.heap.size)) (p := ⟨w.heap.size, 7, none⟩) (v := (.string (ByteArray.mk #[99, 104, 117, 110, 107]))) rfl rfl)
  have b9 := b8.set' 8 (.string (ByteArray.mk #[115, 101, 97, 108]))
  have c9 := c8.same (Ch.set (F := (· = w.heap.size)) (p := ⟨w.heap.size, 8, none⟩) (v := (.string (ByteArray.mk #[115, 101, 97, 108]))) rfl rfl)
  have b10 := b9.set' 9 (.string (ByteArray.mk #[116, 114, 121]))
  have c10 := c9.same (Ch.set (F := (· = w.heap.size)) (p := ⟨w.heap.size, 9, none⟩) (v := (.string (ByteArray.mk #[116, 114, 121]))) rfl rfl)
  have b11 := b10.set' 10 (.string (ByteArray.mk #[112, 114, 111, 109, 111, 116, 101]))
  have c11 := c10.same (Ch.set (F := (· = w.heap.size)) (p := ⟨w.heap.size, 10, none⟩) (v := (.string (ByteArray.mk #[112, 114, 111, 109, 111, 116, 101]))) rfl rfl)
  have b12 := b11.set' 11 (.string (ByteArray.mk #[97, 98, 111, 114, 116]))
  have c12 := c11.same (Ch.set (F := (· = w.heap.size)) (p := ⟨w.heap.size, 11, none⟩) (v := (.string (ByteArray.mk #[97, 98, 111, 114, 116]))) rfl rfl)
  have b13 := b12.set' 12 (.string (ByteArray.mk #[115, 116, 97, 116, 117, 115]))
  have c13 := c12.same (Ch.set (F := (· = w.heap.size)) (p := ⟨w.heap.size, 12, none⟩) (v := (.string (ByteArray.mk #[115, 116, 97, 116, 117, 115]))) rfl rfl)
  rw [← e2] at b13 c13
  have hB : Blk w2 w.heap.size (wordsL.map fun l => Value.string (str l)) 135 := b13
  clear b0 b1 b2 b3 b4 b5 b6 b7 b8 b9 b10 b11 b12 b13 e2
  have hc : Ch Non w w2 := (Ch.alloc (F := Non) e1).trans c13 (fun i hi he => by omega)
  refine ⟨fun h => ⟨by unfold nameL; rw [if_pos (.inl (of_decide_eq_true h))]; rfl, hc⟩, fun h => ⟨fun h2 => ⟨by unfold nameL; rw [if_pos (.inr (of_decide_eq_true h2))]; rfl, hc⟩, fun h2 => ?_⟩⟩
  have h := of_decide_eq_false h
  have h2 := of_decide_eq_false h2
  have hk : ¬ badK k := by unfold badK; omega
  have hw : IntKind.i64.wrap (k - 1) = k - 1 := wrap_id (by omega) (by omega)
  exact ⟨by rw [hw]; exact ⟨by omega, by omega⟩, _, Name_at (w := w) hB hk, rfl, hc⟩
theorem Rnumber_spec (w : World) (x : Int) : Calls Try.prog i_coadjutorref29_number #[.int .i64 x] w (Ret fun v w' => v = .bool (decide (numOk x)) ∧ w' = w) := by
  refine coadjutorref29_number.calls _ ?_
  unfold coadjutorref29_number.vc
  refine ⟨fun h => ⟨?_, rfl⟩, fun h => ⟨?_, rfl⟩⟩
  · have h := of_decide_eq_true h
    congr 1
    exact decide_eq_decide.2 (by unfold numOk; omega)
  · have h := of_decide_eq_false h
    rw [decide_eq_false (by unfold numOk; omega)]
theorem Rlist_spec (hr : Rd w o (xs.map (.int .i64)) G) (hl : xs.length ≤ 1000000) (c : Nat) (is : Bool) : Calls Try.prog i_coadjutorref29_list #[.slice o xs.length c, .bool is] w (Ret fun v w' => v = .bool (rowOk xs && (is || decide (xs = []))) ∧ w' = w) := by
  refine coadjutorref29_list.calls _ _ _ _ ?_
  unfold coadjutorref29_list.vc
  refine ⟨fun i k w' => ∃ j : Nat, i = j ∧ j ≤ xs.length ∧ k = xs.length - j ∧ w' = w ∧ ((xs.take j).any fun x => !decide (numOk x)) = false, ⟨_, 0, rfl, Nat.zero_le _, rfl, rfl, rfl⟩, ?_⟩
  rintro jk i k w1 ⟨j, rfl, hj, rfl, rfl, hno⟩
  refine ⟨fun hlt => ?_, fun hge => ?_⟩
  · have hlt : j < xs.length := by have := of_decide_eq_true hlt; omega
    have hjj : (j : Int).toNat * 1 = j := by omega
    rw [hjj]
    refine ⟨⟨by omega, by omega⟩, hr.typed hlt fun p hp => ⟨_, hp, ?_⟩⟩
    refine step_call (Rnumber_spec w1 xs[j]) ?_
    rintro x w2 ⟨rfl, rfl⟩
    refine ⟨_, rfl, fun h => ⟨?_, rfl⟩, fun h => ⟨xs.length - (j + 1), by omega, j + 1, by rw [wrap_id (by omega) (by omega)]; rfl, hlt, rfl, rfl, ?_⟩⟩
    · have hany : (xs.any fun x => !decide (numOk x)) = true := List.any_eq_true.2 ⟨xs[j], List.getElem_mem hlt, h⟩
      unfold rowOk; rw [hany]; simp
    · rw [Pen.take_snoc xs j hlt, List.any_append, hno]
      show (false || ((!decide (numOk xs[j])) || false)) = false
      rw [h]; rfl
  · have hjn : j = xs.length := by have := of_decide_eq_false hge; omega
    subst hjn
    rw [List.take_length] at hno
    have hro : rowOk xs = decide (xs.length ≤ 32) := by unfold rowOk; rw [hno]; simp
    rw [hro]
    refine ⟨fun h => ⟨fun hi => ⟨?_, rfl⟩, fun hi => ⟨?_, rfl⟩⟩, fun h => ⟨?_, rfl⟩⟩
    · have h := of_decide_eq_true h
      rw [decide_eq_true (by omega), hi]; rfl
    · have h := of_decide_eq_true h
      rw [decide_eq_true (by omega), hi]
      congr 1
      cases xs with
      | nil => rfl
      | cons a r => simp; omega
    · have h := of_decide_eq_false h
      rw [decide_eq_false (by omega)]; rfl
theorem Rhas_spec (w : World) (k x : Int) : Calls Try.prog i_coadjutorref29_has #[.int .i64 k, .int .u8 x] w (Ret fun v w' => v = .bool (hasB k x) ∧ w' = w) := by
  refine coadjutorref29_has.calls _ _ ?_
  unfold coadjutorref29_has.vc
  refine step_call (RHas_spec w k) ?_
  rintro v w1 ⟨rfl, rfl⟩
  unfold hasB
  have hml : (hasL k).length ≤ 4 := by unfold hasL; rw [List.length_map]; exact fldsK_len k
  generalize hasL k = l at hml ⊢
  refine ⟨_, rfl, fun i f w' => ∃ j : Nat, i = j ∧ j ≤ l.length ∧ f = l.length - j ∧ w' = w1 ∧ ((l.take j).any fun b => (b.toNat : Int) == x) = false, ⟨_, 0, rfl, Nat.zero_le _, rfl, rfl, rfl⟩, ?_⟩
  rintro jk i f w2 ⟨j, rfl, hj, rfl, rfl, hno⟩
  rw [str_size]
  refine ⟨fun hlt => ?_, fun hge => ?_⟩
  · have hlt : j < l.length := by have := of_decide_eq_true hlt; omega
    rw [bt_strO l hlt]
    refine ⟨⟨by omega, by omega⟩, fun h => ⟨?_, rfl⟩, fun h => ⟨l.length - (j + 1), by omega, j + 1, by rw [wrap_id (by omega) (by omega)]; rfl, hlt, rfl, rfl, ?_⟩⟩
    · have : (l.any fun b => (b.toNat : Int) == x) = true := List.any_eq_true.2 ⟨l[j], List.getElem_mem hlt, h⟩
      rw [this]
    · rw [Pen.take_snoc l j hlt, List.any_append, hno]
      show (false || ((((l[j]).toNat : Int) == x) || false)) = false
      rw [h]; rfl
  · have hjn : j = l.length := by have := of_decide_eq_false hge; omega
    subst hjn
    rw [List.take_length] at hno
    rw [hno]
    exact ⟨rfl, rfl⟩
theorem rest_has (c : CmD) : decide (restC c = cm0 c.kind) = ((decide (c.id = 0) || hasB c.kind 105) && ((decide (c.n = 0) || hasB c.kind 110) && ((!c.good || hasB c.kind 103) && ((decide (c.prompt = []) || hasB c.kind 112) && ((decide (c.draws = []) || hasB c.kind 100) && (decide (c.data = []) || hasB c.kind 116)))))) := by
  rw [Bool.eq_iff_iff, decide_eq_true_iff]
  unfold restC hasB hasL fldsK
  have e : ∀ {a b : CmD}, a = b ↔ a.kind = b.kind ∧ a.id = b.id ∧ a.n = b.n ∧ a.good = b.good ∧ a.data = b.data ∧ a.prompt = b.prompt ∧ a.draws = b.draws := fun {a b} => cm_eq a b
  rw [e]
  (repeat' split) <;> simp [zeroC, cm0, letter] <;> (intros; constructor <;> (intro h; simp [h]))
theorem goodC_R (c : CmD) : goodC c = (!decide (badK c.kind) && (decide (numOk c.id) && (decide (numOk c.n) && ((decide (c.id = 0) || hasB c.kind 105) && ((decide (c.n = 0) || hasB c.kind 110) && ((!c.good || hasB c.kind 103) && ((rowOk c.prompt && (hasB c.kind 112 || decide (c.prompt = []))) && ((rowOk c.draws && (hasB c.kind 100 || decide (c.draws = []))) && (decide (c.data.length ≤ 1024) && (decide (c.data = []) || hasB c.kind 116)))))))))) := by
  unfold goodC
  rw [rest_has]
  generalize decide (badK c.kind) = b1
  generalize decide (numOk c.id) = b2
  generalize decide (numOk c.n) = b3
  generalize decide (c.id = 0) = b4
  generalize decide (c.n = 0) = b5
  generalize c.good = b6
  generalize rowOk c.prompt = b7
  generalize rowOk c.draws = b8
  generalize decide (c.data.length ≤ 1024) = b9
  generalize decide (c.data = []) = b10
  generalize decide (c.prompt = []) = b11
  generalize decide (c.draws = []) = b12
  generalize hasB c.kind 105 = x1
  generalize hasB c.kind 110 = x2
  generalize hasB c.kind 103 = x3
  generalize hasB c.kind 112 = x4
  generalize hasB c.kind 100 = x5
  generalize hasB c.kind 116 = x6
  rw [Bool.eq_iff_iff]
  simp only [Bool.and_eq_true, Bool.or_eq_true, Bool.not_eq_true']
  constructor
  · rintro ⟨h1, ⟨h2, h3, h4, h5, h6, h7⟩, h8, h9, h10, h11, h12⟩
    exact ⟨h1, h8, h9, h2, h3, h4, ⟨h10, h5.symm⟩, ⟨h11, h6.symm⟩, h12, h7⟩
  · rintro ⟨h1, h8, h9, h2, h3, h4, ⟨h10, h5⟩, ⟨h11, h6⟩, h12, h7⟩
    exact ⟨h1, ⟨h2, h3, h4, h5.symm, h6.symm, h7⟩, h8, h9, h10, h11, h12⟩
set_option maxHeartbeats 1000000 in
theorem RGood_spec (h : CmR w q D) : Calls Try.prog i_coadjutorref29_Good #[.agg (cmE q).toArray] w (Ret fun v w' => v = .bool (goodC q.1) ∧ Ch Non w w') := by
  refine coadjutorref29_Good.calls _ _ _ _ _ _ _ _ _ _ _ ?_
  unfold coadjutorref29_Good.vc
  intro w1 e1
  have hA : Blk w1 w.heap.size (cmE q) t_coadjutorref29_Command := Blk.new e1
  have hc1 : Ch Non w w1 := Ch.alloc e1
  refine ⟨_, hA.cell 0 rfl, step_call (RName_spec w1 _) ?_⟩
  rintro v w2 ⟨rfl, hc12⟩
  have hA2 := hA.keepN hc12
  have hc02 := hc1.andN hc12
  rw [goodC_R]
  refine ⟨str (nameL q.1.kind), rfl, ?_⟩
  rw [emp_beq, nameL_emp]
  refine ⟨fun h1 => ⟨by rw [h1]; rfl, hc02⟩, fun h1 => ?_⟩
  rw [h1]
  simp only [Bool.not_false, Bool.true_and]
  refine ⟨_, hA2.cell 1 rfl, step_call (Rnumber_spec _ _) ?_⟩
  rintro v w3 ⟨rfl, rfl⟩
  refine ⟨_, rfl, fun h2 => ⟨?_, hc02⟩, fun h2 => ?_⟩
  · have h2 : decide (numOk q.1.id) = false := by simpa using h2
    rw [h2]; rfl
  have h2 : decide (numOk q.1.id) = true := by simpa using h2
  rw [h2]
  simp only [Bool.true_and]
  refine ⟨_, hA2.cell 2 rfl, step_call (Rnumber_spec w3 _) ?_⟩
  rintro v w2 ⟨rfl, rfl⟩
  refine ⟨_, rfl, fun h3 => ⟨?_, hc02⟩, fun h3 => ?_⟩
  · have h3 : decide (numOk q.1.n) = false := by simpa using h3
    rw [h3]; rfl
  have h3 : decide (numOk q.1.n) = true := by simpa using h3
  rw [h3]
  simp only [Bool.true_and]
  refine ⟨_, hA2.cell 1 rfl, fun h4 => ?_, fun h4 => ?_⟩
  · have h4 : decide (q.1.id = 0) = false := by simpa using h4
    refine step_call (Rhas_spec _ _ _) ?_
    rintro v w6 ⟨rfl, rfl⟩
    refine ⟨_, rfl, fun h5 => ⟨?_, hc02⟩, fun h5 => ?_⟩
    · have h5 : hasB q.1.kind 105 = false := by simpa using h5
      rw [h4, h5]; simp
    · have h5 : hasB q.1.kind 105 = true := by simpa using h5
      rw [h4, h5]
      simp only [Bool.or_true, Bool.true_and]
      refine ⟨_, hA2.cell 2 rfl, fun h4 => ?_, fun h4 => ?_⟩
      · have h4 : decide (q.1.n = 0) = false := by simpa using h4
        refine step_call (Rhas_spec _ _ _) ?_
        rintro v w6 ⟨rfl, rfl⟩
        refine ⟨_, rfl, fun h5 => ⟨?_, hc02⟩, fun h5 => ?_⟩
        · have h5 : hasB q.1.kind 110 = false := by simpa using h5
          rw [h4, h5]; simp
        · have h5 : hasB q.1.kind 110 = true := by simpa using h5
          rw [h4, h5]
          simp only [Bool.or_true, Bool.true_and]
          refine ⟨_, hA2.cell 3 rfl, fun h4 => ?_, fun h4 => ?_⟩
          · have h4 : q.1.good = true := h4
            refine step_call (Rhas_spec _ _ _) ?_
            rintro v w6 ⟨rfl, rfl⟩
            refine ⟨_, rfl, fun h5 => ⟨?_, hc02⟩, fun h5 => ?_⟩
            · have h5 : hasB q.1.kind 103 = false := by simpa using h5
              rw [h4, h5]; simp
            · have h5 : hasB q.1.kind 103 = true := by simpa using h5
              rw [h4, h5]
              simp only [Bool.not_true, Bool.or_true, Bool.true_and]
              refine ⟨fun w' => Ch Non w1 w', fun w8 e8 => ⟨hc12.andN (Ch.drew e8), _, _, _, fun w' hc => (hA.keepN hc).cell 4 rfl, ?_⟩⟩
              have hc8 : Ch Non w1 w8 := hc12.andN (Ch.drew e8)
              have hc08 := hc1.andN hc8
              have h8 := h.keepN hc08
              have hA8 := hA.keepN hc8
              obtain ⟨r1, r2, l1, l2, l3⟩ := h8
              refine step_call (Rhas_spec w8 _ _) ?_
              rintro v w10 ⟨rfl, rfl⟩
              refine ⟨_, rfl, hc8, step_call (Rlist_spec r1 (by omega) _ _) ?_⟩
              rintro v w11 ⟨rfl, rfl⟩
              refine ⟨_, rfl, hc8, fun h5 => ?_, fun h5 => ⟨by rw [h5]; simp, hc08⟩⟩
              rw [h5, Bool.true_and]
              refine ⟨_, _, _, fun w' hc => (hA.keepN hc).cell 5 rfl, step_call (Rhas_spec w11 _ _) ?_⟩
              rintro v w13 ⟨rfl, rfl⟩
              refine ⟨_, rfl, hc8, step_call (Rlist_spec r2 (by omega) _ _) ?_⟩
              rintro v w14 ⟨rfl, rfl⟩
              refine ⟨_, rfl, hc8, fun h6 => ?_, fun h6 => ⟨by rw [h6]; simp, hc08⟩⟩
              rw [h6, Bool.true_and]
              refine ⟨_, hA8.cell 6 rfl, hc8, fun h7 => ?_, fun h7 => ?_⟩
              · rw [str_size] at h7
                have h7 := of_decide_eq_true h7
                rw [decide_eq_true (show q.1.data.length ≤ 1024 by omega), Bool.true_and]
                refine ⟨_, hA8.cell 6 rfl, hc8, ?_⟩
                rw [emp_beq]
                refine ⟨fun h9 => ⟨by rw [h9]; simp, hc08⟩, fun h9 => ?_⟩
                refine step_call (Rhas_spec w14 _ _) ?_
                rintro v w15 ⟨rfl, rfl⟩
                exact ⟨_, rfl, hc8, by rw [h9]; simp, hc08⟩
              · rw [str_size] at h7
                have h7 := of_decide_eq_false h7
                rw [decide_eq_false (show ¬ q.1.data.length ≤ 1024 by omega)]
                exact ⟨by simp, hc08⟩
          · have h4 : q.1.good = false := h4
            rw [h4]
            simp only [Bool.not_false, Bool.true_or, Bool.true_and]
            refine ⟨fun w' => Ch Non w1 w', fun w8 e8 => ⟨hc12.andN (Ch.drew e8), _, _, _, fun w' hc => (hA.keepN hc).cell 4 rfl, ?_⟩⟩
            have hc8 : Ch Non w1 w8 := hc12.andN (Ch.drew e8)
            have hc08 := hc1.andN hc8
            have h8 := h.keepN hc08
            have hA8 := hA.keepN hc8
            obtain ⟨r1, r2, l1, l2, l3⟩ := h8
            refine step_call (Rhas_spec w8 _ _) ?_
            rintro v w10 ⟨rfl, rfl⟩
            refine ⟨_, rfl, hc8, step_call (Rlist_spec r1 (by omega) _ _) ?_⟩
            rintro v w11 ⟨rfl, rfl⟩
            refine ⟨_, rfl, hc8, fun h5 => ?_, fun h5 => ⟨by rw [h5]; simp, hc08⟩⟩
            rw [h5, Bool.true_and]
            refine ⟨_, _, _, fun w' hc => (hA.keepN hc).cell 5 rfl, step_call (Rhas_spec w11 _ _) ?_⟩
            rintro v w13 ⟨rfl, rfl⟩
            refine ⟨_, rfl, hc8, step_call (Rlist_spec r2 (by omega) _ _) ?_⟩
            rintro v w14 ⟨rfl, rfl⟩
            refine ⟨_, rfl, hc8, fun h6 => ?_, fun h6 => ⟨by rw [h6]; simp, hc08⟩⟩
            rw [h6, Bool.true_and]
            refine ⟨_, hA8.cell 6 rfl, hc8, fun h7 => ?_, fun h7 => ?_⟩
            · rw [str_size] at h7
              have h7 := of_decide_eq_true h7
              rw [decide_eq_true (show q.1.data.length ≤ 1024 by omega), Bool.true_and]
              refine ⟨_, hA8.cell 6 rfl, hc8, ?_⟩
              rw [emp_beq]
              refine ⟨fun h9 => ⟨by rw [h9]; simp, hc08⟩, fun h9 => ?_⟩
              refine step_call (Rhas_spec w14 _ _) ?_
              rintro v w15 ⟨rfl, rfl⟩
              exact ⟨_, rfl, hc8, by rw [h9]; simp, hc08⟩
            · rw [str_size] at h7
              have h7 := of_decide_eq_false h7
              rw [decide_eq_false (show ¬ q.1.data.length ≤ 1024 by omega)]
              exact ⟨by simp, hc08⟩
      · have h4 : decide (q.1.n = 0) = true := by simpa using h4
        rw [h4]
        simp only [Bool.true_or, Bool.true_and]
        refine ⟨_, hA2.cell 3 rfl, fun h4 => ?_, fun h4 => ?_⟩
        · have h4 : q.1.good = true := h4
          refine step_call (Rhas_spec _ _ _) ?_
          rintro v w6 ⟨rfl, rfl⟩
          refine ⟨_, rfl, fun h5 => ⟨?_, hc02⟩, fun h5 => ?_⟩
          · have h5 : hasB q.1.kind 103 = false := by simpa using h5
            rw [h4, h5]; simp
          · have h5 : hasB q.1.kind 103 = true := by simpa using h5
            rw [h4, h5]
            simp only [Bool.not_true, Bool.or_true, Bool.true_and]
            refine ⟨fun w' => Ch Non w1 w', fun w8 e8 => ⟨hc12.andN (Ch.drew e8), _, _, _, fun w' hc => (hA.keepN hc).cell 4 rfl, ?_⟩⟩
            have hc8 : Ch Non w1 w8 := hc12.andN (Ch.drew e8)
            have hc08 := hc1.andN hc8
            have h8 := h.keepN hc08
            have hA8 := hA.keepN hc8
            obtain ⟨r1, r2, l1, l2, l3⟩ := h8
            refine step_call (Rhas_spec w8 _ _) ?_
            rintro v w10 ⟨rfl, rfl⟩
            refine ⟨_, rfl, hc8, step_call (Rlist_spec r1 (by omega) _ _) ?_⟩
            rintro v w11 ⟨rfl, rfl⟩
            refine ⟨_, rfl, hc8, fun h5 => ?_, fun h5 => ⟨by rw [h5]; simp, hc08⟩⟩
            rw [h5, Bool.true_and]
            refine ⟨_, _, _, fun w' hc => (hA.keepN hc).cell 5 rfl, step_call (Rhas_spec w11 _ _) ?_⟩
            rintro v w13 ⟨rfl, rfl⟩
            refine ⟨_, rfl, hc8, step_call (Rlist_spec r2 (by omega) _ _) ?_⟩
            rintro v w14 ⟨rfl, rfl⟩
            refine ⟨_, rfl, hc8, fun h6 => ?_, fun h6 => ⟨by rw [h6]; simp, hc08⟩⟩
            rw [h6, Bool.true_and]
            refine ⟨_, hA8.cell 6 rfl, hc8, fun h7 => ?_, fun h7 => ?_⟩
            · rw [str_size] at h7
              have h7 := of_decide_eq_true h7
              rw [decide_eq_true (show q.1.data.length ≤ 1024 by omega), Bool.true_and]
              refine ⟨_, hA8.cell 6 rfl, hc8, ?_⟩
              rw [emp_beq]
              refine ⟨fun h9 => ⟨by rw [h9]; simp, hc08⟩, fun h9 => ?_⟩
              refine step_call (Rhas_spec w14 _ _) ?_
              rintro v w15 ⟨rfl, rfl⟩
              exact ⟨_, rfl, hc8, by rw [h9]; simp, hc08⟩
            · rw [str_size] at h7
              have h7 := of_decide_eq_false h7
              rw [decide_eq_false (show ¬ q.1.data.length ≤ 1024 by omega)]
              exact ⟨by simp, hc08⟩
        · have h4 : q.1.good = false := h4
          rw [h4]
          simp only [Bool.not_false, Bool.true_or, Bool.true_and]
          refine ⟨fun w' => Ch Non w1 w', fun w8 e8 => ⟨hc12.andN (Ch.drew e8), _, _, _, fun w' hc => (hA.keepN hc).cell 4 rfl, ?_⟩⟩
          have hc8 : Ch Non w1 w8 := hc12.andN (Ch.drew e8)
          have hc08 := hc1.andN hc8
          have h8 := h.keepN hc08
          have hA8 := hA.keepN hc8
          obtain ⟨r1, r2, l1, l2, l3⟩ := h8
          refine step_call (Rhas_spec w8 _ _) ?_
          rintro v w10 ⟨rfl, rfl⟩
          refine ⟨_, rfl, hc8, step_call (Rlist_spec r1 (by omega) _ _) ?_⟩
          rintro v w11 ⟨rfl, rfl⟩
          refine ⟨_, rfl, hc8, fun h5 => ?_, fun h5 => ⟨by rw [h5]; simp, hc08⟩⟩
          rw [h5, Bool.true_and]
          refine ⟨_, _, _, fun w' hc => (hA.keepN hc).cell 5 rfl, step_call (Rhas_spec w11 _ _) ?_⟩
          rintro v w13 ⟨rfl, rfl⟩
          refine ⟨_, rfl, hc8, step_call (Rlist_spec r2 (by omega) _ _) ?_⟩
          rintro v w14 ⟨rfl, rfl⟩
          refine ⟨_, rfl, hc8, fun h6 => ?_, fun h6 => ⟨by rw [h6]; simp, hc08⟩⟩
          rw [h6, Bool.true_and]
          refine ⟨_, hA8.cell 6 rfl, hc8, fun h7 => ?_, fun h7 => ?_⟩
          · rw [str_size] at h7
            have h7 := of_decide_eq_true h7
            rw [decide_eq_true (show q.1.data.length ≤ 1024 by omega), Bool.true_and]
            refine ⟨_, hA8.cell 6 rfl, hc8, ?_⟩
            rw [emp_beq]
            refine ⟨fun h9 => ⟨by rw [h9]; simp, hc08⟩, fun h9 => ?_⟩
            refine step_call (Rhas_spec w14 _ _) ?_
            rintro v w15 ⟨rfl, rfl⟩
            exact ⟨_, rfl, hc8, by rw [h9]; simp, hc08⟩
          · rw [str_size] at h7
            have h7 := of_decide_eq_false h7
            rw [decide_eq_false (show ¬ q.1.data.length ≤ 1024 by omega)]
            exact ⟨by simp, hc08⟩
  · have h4 : decide (q.1.id = 0) = true := by simpa using h4
    rw [h4]
    simp only [Bool.true_or, Bool.true_and]
    refine ⟨_, hA2.cell 2 rfl, fun h4 => ?_, fun h4 => ?_⟩
    · have h4 : decide (q.1.n = 0) = false := by simpa using h4
      refine step_call (Rhas_spec _ _ _) ?_
      rintro v w6 ⟨rfl, rfl⟩
      refine ⟨_, rfl, fun h5 => ⟨?_, hc02⟩, fun h5 => ?_⟩
      · have h5 : hasB q.1.kind 110 = false := by simpa using h5
        rw [h4, h5]; simp
      · have h5 : hasB q.1.kind 110 = true := by simpa using h5
        rw [h4, h5]
        simp only [Bool.or_true, Bool.true_and]
        refine ⟨_, hA2.cell 3 rfl, fun h4 => ?_, fun h4 => ?_⟩
        · have h4 : q.1.good = true := h4
          refine step_call (Rhas_spec _ _ _) ?_
          rintro v w6 ⟨rfl, rfl⟩
          refine ⟨_, rfl, fun h5 => ⟨?_, hc02⟩, fun h5 => ?_⟩
          · have h5 : hasB q.1.kind 103 = false := by simpa using h5
            rw [h4, h5]; simp
          · have h5 : hasB q.1.kind 103 = true := by simpa using h5
            rw [h4, h5]
            simp only [Bool.not_true, Bool.or_true, Bool.true_and]
            refine ⟨fun w' => Ch Non w1 w', fun w8 e8 => ⟨hc12.andN (Ch.drew e8), _, _, _, fun w' hc => (hA.keepN hc).cell 4 rfl, ?_⟩⟩
            have hc8 : Ch Non w1 w8 := hc12.andN (Ch.drew e8)
            have hc08 := hc1.andN hc8
            have h8 := h.keepN hc08
            have hA8 := hA.keepN hc8
            obtain ⟨r1, r2, l1, l2, l3⟩ := h8
            refine step_call (Rhas_spec w8 _ _) ?_
            rintro v w10 ⟨rfl, rfl⟩
            refine ⟨_, rfl, hc8, step_call (Rlist_spec r1 (by omega) _ _) ?_⟩
            rintro v w11 ⟨rfl, rfl⟩
            refine ⟨_, rfl, hc8, fun h5 => ?_, fun h5 => ⟨by rw [h5]; simp, hc08⟩⟩
            rw [h5, Bool.true_and]
            refine ⟨_, _, _, fun w' hc => (hA.keepN hc).cell 5 rfl, step_call (Rhas_spec w11 _ _) ?_⟩
            rintro v w13 ⟨rfl, rfl⟩
            refine ⟨_, rfl, hc8, step_call (Rlist_spec r2 (by omega) _ _) ?_⟩
            rintro v w14 ⟨rfl, rfl⟩
            refine ⟨_, rfl, hc8, fun h6 => ?_, fun h6 => ⟨by rw [h6]; simp, hc08⟩⟩
            rw [h6, Bool.true_and]
            refine ⟨_, hA8.cell 6 rfl, hc8, fun h7 => ?_, fun h7 => ?_⟩
            · rw [str_size] at h7
              have h7 := of_decide_eq_true h7
              rw [decide_eq_true (show q.1.data.length ≤ 1024 by omega), Bool.true_and]
              refine ⟨_, hA8.cell 6 rfl, hc8, ?_⟩
              rw [emp_beq]
              refine ⟨fun h9 => ⟨by rw [h9]; simp, hc08⟩, fun h9 => ?_⟩
              refine step_call (Rhas_spec w14 _ _) ?_
              rintro v w15 ⟨rfl, rfl⟩
              exact ⟨_, rfl, hc8, by rw [h9]; simp, hc08⟩
            · rw [str_size] at h7
              have h7 := of_decide_eq_false h7
              rw [decide_eq_false (show ¬ q.1.data.length ≤ 1024 by omega)]
              exact ⟨by simp, hc08⟩
        · have h4 : q.1.good = false := h4
          rw [h4]
          simp only [Bool.not_false, Bool.true_or, Bool.true_and]
          refine ⟨fun w' => Ch Non w1 w', fun w8 e8 => ⟨hc12.andN (Ch.drew e8), _, _, _, fun w' hc => (hA.keepN hc).cell 4 rfl, ?_⟩⟩
          have hc8 : Ch Non w1 w8 := hc12.andN (Ch.drew e8)
          have hc08 := hc1.andN hc8
          have h8 := h.keepN hc08
          have hA8 := hA.keepN hc8
          obtain ⟨r1, r2, l1, l2, l3⟩ := h8
          refine step_call (Rhas_spec w8 _ _) ?_
          rintro v w10 ⟨rfl, rfl⟩
          refine ⟨_, rfl, hc8, step_call (Rlist_spec r1 (by omega) _ _) ?_⟩
          rintro v w11 ⟨rfl, rfl⟩
          refine ⟨_, rfl, hc8, fun h5 => ?_, fun h5 => ⟨by rw [h5]; simp, hc08⟩⟩
          rw [h5, Bool.true_and]
          refine ⟨_, _, _, fun w' hc => (hA.keepN hc).cell 5 rfl, step_call (Rhas_spec w11 _ _) ?_⟩
          rintro v w13 ⟨rfl, rfl⟩
          refine ⟨_, rfl, hc8, step_call (Rlist_spec r2 (by omega) _ _) ?_⟩
          rintro v w14 ⟨rfl, rfl⟩
          refine ⟨_, rfl, hc8, fun h6 => ?_, fun h6 => ⟨by rw [h6]; simp, hc08⟩⟩
          rw [h6, Bool.true_and]
          refine ⟨_, hA8.cell 6 rfl, hc8, fun h7 => ?_, fun h7 => ?_⟩
          · rw [str_size] at h7
            have h7 := of_decide_eq_true h7
            rw [decide_eq_true (show q.1.data.length ≤ 1024 by omega), Bool.true_and]
            refine ⟨_, hA8.cell 6 rfl, hc8, ?_⟩
            rw [emp_beq]
            refine ⟨fun h9 => ⟨by rw [h9]; simp, hc08⟩, fun h9 => ?_⟩
            refine step_call (Rhas_spec w14 _ _) ?_
            rintro v w15 ⟨rfl, rfl⟩
            exact ⟨_, rfl, hc8, by rw [h9]; simp, hc08⟩
          · rw [str_size] at h7
            have h7 := of_decide_eq_false h7
            rw [decide_eq_false (show ¬ q.1.data.length ≤ 1024 by omega)]
            exact ⟨by simp, hc08⟩
    · have h4 : decide (q.1.n = 0) = true := by simpa using h4
      rw [h4]
      simp only [Bool.true_or, Bool.true_and]
      refine ⟨_, hA2.cell 3 rfl, fun h4 => ?_, fun h4 => ?_⟩
      · have h4 : q.1.good = true := h4
        refine step_call (Rhas_spec _ _ _) ?_
        rintro v w6 ⟨rfl, rfl⟩
        refine ⟨_, rfl, fun h5 => ⟨?_, hc02⟩, fun h5 => ?_⟩
        · have h5 : hasB q.1.kind 103 = false := by simpa using h5
          rw [h4, h5]; simp
        · have h5 : hasB q.1.kind 103 = true := by simpa using h5
          rw [h4, h5]
          simp only [Bool.not_true, Bool.or_true, Bool.true_and]
          refine ⟨fun w' => Ch Non w1 w', fun w8 e8 => ⟨hc12.andN (Ch.drew e8), _, _, _, fun w' hc => (hA.keepN hc).cell 4 rfl, ?_⟩⟩
          have hc8 : Ch Non w1 w8 := hc12.andN (Ch.drew e8)
          have hc08 := hc1.andN hc8
          have h8 := h.keepN hc08
          have hA8 := hA.keepN hc8
          obtain ⟨r1, r2, l1, l2, l3⟩ := h8
          refine step_call (Rhas_spec w8 _ _) ?_
          rintro v w10 ⟨rfl, rfl⟩
          refine ⟨_, rfl, hc8, step_call (Rlist_spec r1 (by omega) _ _) ?_⟩
          rintro v w11 ⟨rfl, rfl⟩
          refine ⟨_, rfl, hc8, fun h5 => ?_, fun h5 => ⟨by rw [h5]; simp, hc08⟩⟩
          rw [h5, Bool.true_and]
          refine ⟨_, _, _, fun w' hc => (hA.keepN hc).cell 5 rfl, step_call (Rhas_spec w11 _ _) ?_⟩
          rintro v w13 ⟨rfl, rfl⟩
          refine ⟨_, rfl, hc8, step_call (Rlist_spec r2 (by omega) _ _) ?_⟩
          rintro v w14 ⟨rfl, rfl⟩
          refine ⟨_, rfl, hc8, fun h6 => ?_, fun h6 => ⟨by rw [h6]; simp, hc08⟩⟩
          rw [h6, Bool.true_and]
          refine ⟨_, hA8.cell 6 rfl, hc8, fun h7 => ?_, fun h7 => ?_⟩
          · rw [str_size] at h7
            have h7 := of_decide_eq_true h7
            rw [decide_eq_true (show q.1.data.length ≤ 1024 by omega), Bool.true_and]
            refine ⟨_, hA8.cell 6 rfl, hc8, ?_⟩
            rw [emp_beq]
            refine ⟨fun h9 => ⟨by rw [h9]; simp, hc08⟩, fun h9 => ?_⟩
            refine step_call (Rhas_spec w14 _ _) ?_
            rintro v w15 ⟨rfl, rfl⟩
            exact ⟨_, rfl, hc8, by rw [h9]; simp, hc08⟩
          · rw [str_size] at h7
            have h7 := of_decide_eq_false h7
            rw [decide_eq_false (show ¬ q.1.data.length ≤ 1024 by omega)]
            exact ⟨by simp, hc08⟩
      · have h4 : q.1.good = false := h4
        rw [h4]
        simp only [Bool.not_false, Bool.true_or, Bool.true_and]
        refine ⟨fun w' => Ch Non w1 w', fun w8 e8 => ⟨hc12.andN (Ch.drew e8), _, _, _, fun w' hc => (hA.keepN hc).cell 4 rfl, ?_⟩⟩
        have hc8 : Ch Non w1 w8 := hc12.andN (Ch.drew e8)
        have hc08 := hc1.andN hc8
        have h8 := h.keepN hc08
        have hA8 := hA.keepN hc8
        obtain ⟨r1, r2, l1, l2, l3⟩ := h8
        refine step_call (Rhas_spec w8 _ _) ?_
        rintro v w10 ⟨rfl, rfl⟩
        refine ⟨_, rfl, hc8, step_call (Rlist_spec r1 (by omega) _ _) ?_⟩
        rintro v w11 ⟨rfl, rfl⟩
        refine ⟨_, rfl, hc8, fun h5 => ?_, fun h5 => ⟨by rw [h5]; simp, hc08⟩⟩
        rw [h5, Bool.true_and]
        refine ⟨_, _, _, fun w' hc => (hA.keepN hc).cell 5 rfl, step_call (Rhas_spec w11 _ _) ?_⟩
        rintro v w13 ⟨rfl, rfl⟩
        refine ⟨_, rfl, hc8, step_call (Rlist_spec r2 (by omega) _ _) ?_⟩
        rintro v w14 ⟨rfl, rfl⟩
        refine ⟨_, rfl, hc8, fun h6 => ?_, fun h6 => ⟨by rw [h6]; simp, hc08⟩⟩
        rw [h6, Bool.true_and]
        refine ⟨_, hA8.cell 6 rfl, hc8, fun h7 => ?_, fun h7 => ?_⟩
        · rw [str_size] at h7
          have h7 := of_decide_eq_true h7
          rw [decide_eq_true (show q.1.data.length ≤ 1024 by omega), Bool.true_and]
          refine ⟨_, hA8.cell 6 rfl, hc8, ?_⟩
          rw [emp_beq]
          refine ⟨fun h9 => ⟨by rw [h9]; simp, hc08⟩, fun h9 => ?_⟩
          refine step_call (Rhas_spec w14 _ _) ?_
          rintro v w15 ⟨rfl, rfl⟩
          exact ⟨_, rfl, hc8, by rw [h9]; simp, hc08⟩
        · rw [str_size] at h7
          have h7 := of_decide_eq_false h7
          rw [decide_eq_false (show ¬ q.1.data.length ≤ 1024 by omega)]
          exact ⟨by simp, hc08⟩
/-! Bytes. -/
theorem Rnum_spec (w : World) {x : Int} (hx : numOk x) : Calls Try.prog i_coadjutorref29_num #[.int .i64 x] w (Ret fun v w' => v = .string (str (numI (x + half))) ∧ Ch Non w w') := by
  refine coadjutorref29_num.calls _ ?_
  unfold coadjutorref29_num.vc
  have hw : IntKind.i64.wrap (x + 2147483648) = x + half := by unfold numOk at hx; exact wrap_id (by omega) (by omega)
  rw [hw]
  refine step_call (RefNum_spec w _) ?_
  rintro v w1 ⟨rfl, hc⟩
  exact ⟨_, _, rfl, rfl, hc⟩
theorem Rrow_spec (hr : Rd w o (xs.map (.int .i64)) G) (hn : ∀ x ∈ xs, numOk x) (hl : xs.length ≤ 1000) (c : Nat) : Calls Try.prog i_coadjutorref29_row #[.slice o xs.length c] w (Ret fun v w' => v = .string (str (rowB xs)) ∧ Ch Non w w') := by
  refine coadjutorref29_row.calls _ _ _ ?_
  unfold coadjutorref29_row.vc
  refine step_call (RefNum_spec w _) ?_
  rintro v w1 ⟨rfl, hc1⟩
  refine ⟨_, _, rfl, fun s i k w' => ∃ j : Nat, i = j ∧ j ≤ xs.length ∧ k = xs.length - j ∧ Ch Non w w' ∧ s = str (numI xs.length ++ numsL ((xs.take j).map (· + half))), ⟨_, 0, rfl, Nat.zero_le _, rfl, hc1, by simp [numsL]⟩, ?_⟩
  rintro jk s i k w2 ⟨j, rfl, hj, rfl, hc, rfl⟩
  refine ⟨fun hlt => ?_, fun hge => ?_⟩
  · have hlt : j < xs.length := by have := of_decide_eq_true hlt; omega
    have hjj : (j : Int).toNat * 1 = j := by omega
    rw [hjj]
    refine ⟨⟨by omega, by omega⟩, (hr.keepN hc).typed hlt fun p hp => ⟨_, hp, ?_⟩⟩
    refine step_call (Rnum_spec w2 (hn _ (List.getElem_mem hlt))) ?_
    rintro v w3 ⟨rfl, hc3⟩
    refine ⟨_, rfl, ?_, xs.length - (j + 1), by omega, j + 1, by rw [wrap_id (by omega) (by omega)]; rfl, hlt, rfl, hc.andN hc3, ?_⟩
    · rw [str_size, str_size, List.length_append, numI_len, numI_len, numsL_len, List.length_map, List.length_take]; omega
    · rw [str_app, take_map_snoc xs j hlt, List.append_assoc]
  · have hjn : j = xs.length := by have := of_decide_eq_false hge; omega
    subst hjn
    rw [List.take_length]
    exact ⟨rfl, hc⟩
theorem flds_at {k : Int} {j : Nat} (h : j < (fldsK k).length) : bt (str (hasL k)) (j : Int) = ((letter (fldsK k)[j]).toNat : Int) := by
  have h' : j < (hasL k).length := by unfold hasL; rw [List.length_map]; exact h
  rw [bt_strO _ h']
  simp [hasL]
theorem vis_snoc (c : CmD) {j : Nat} (h : j < (fldsK c.kind).length) : (((fldsK c.kind).take (j + 1)).map (fldB c)).flatten = (((fldsK c.kind).take j).map (fldB c)).flatten ++ fldB c (fldsK c.kind)[j] := by
  rw [Pen.take_snoc _ j h, List.map_append, List.flatten_append]; simp
set_option maxHeartbeats 1000000 in
theorem RBytes_spec (h : CmR w q D) (hG : GoodP q.1) : Calls Try.prog i_coadjutorref29_Bytes #[.agg (cmE q).toArray] w (Ret fun v w' => v = .string (str (bytesC q.1)) ∧ Ch Non w w') := by
  refine coadjutorref29_Bytes.calls _ _ _ _ _ _ _ _ _ _ _ ?_
  unfold coadjutorref29_Bytes.vc
  intro w1 e1
  have hA : Blk w1 w.heap.size (cmE q) t_coadjutorref29_Command := Blk.new e1
  have hc1 : Ch Non w w1 := Ch.alloc e1
  refine ⟨_, hA.cell 0 rfl, fun w2 e2 => ?_⟩
  have hc2 : Ch Non w1 w2 := Ch.alloc e2
  have hk := kinds hG.k
  have hku : Value.int .u8 (IntKind.u8.wrap q.1.kind) = u8v (UInt8.ofNat q.1.kind.toNat) := u8_of (by omega)
  rw [hku] at e2
  have hrd : Rd w2 (some ⟨w1.heap.size, 0, none⟩) ([UInt8.ofNat q.1.kind.toNat].map u8v) (· = w1.heap.size) := (Blk.new e2).rd
  have hout := conv_out (P := Try.prog) (src := t_S_uint8) (dst := t_string) (e := t_uint8) (c := 1) hrd (by kernel_rfl) (by kernel_rfl) (by kernel_rfl)
  refine ⟨_, _, hout, _, (hA.keepN hc2).cell 0 rfl, ?_⟩
  refine step_call (RHas_spec w2 _) ?_
  rintro v w4 ⟨rfl, rfl⟩
  have hs0 : (hasL q.1.kind).length = (fldsK q.1.kind).length := by unfold hasL; rw [List.length_map]
  have hl4 := fldsK_len q.1.kind
  have hf := flat_len hG (fldsK q.1.kind)
  refine ⟨_, rfl, fun s i f w' => ∃ j : Nat, i = j ∧ j ≤ (fldsK q.1.kind).length ∧ f = (fldsK q.1.kind).length - j ∧ Ch Non w1 w' ∧ s = str (UInt8.ofNat q.1.kind.toNat :: (((fldsK q.1.kind).take j).map (fldB q.1)).flatten), ⟨_, 0, rfl, Nat.zero_le _, rfl, hc2, rfl⟩, ?_⟩
  rintro jk s i f w5 ⟨j, rfl, hj, rfl, hc, rfl⟩
  rw [str_size, hs0]
  have hA5 := hA.keepN hc
  have hR5 := h.keepN (hc1.andN hc)
  refine ⟨fun hlt => ?_, fun hge => ?_⟩
  · have hlt : j < (fldsK q.1.kind).length := by have := of_decide_eq_true hlt; omega
    rw [flds_at hlt]
    have hsn := vis_snoc q.1 hlt
    have hlj : ((((fldsK q.1.kind).take j).map (fldB q.1)).flatten).length ≤ 8000 := by
      have := flat_len hG ((fldsK q.1.kind).take j)
      rw [List.length_take] at this; omega
    have hfb := fldB_len hG (fldsK q.1.kind)[j]
    generalize (fldsK q.1.kind)[j] = fl at hsn hfb ⊢
    generalize hpre : (((fldsK q.1.kind).take j).map (fldB q.1)).flatten = pre at hsn hlj ⊢
    have fin : ∀ {s' : ByteArray} {w' : World}, s' = str (UInt8.ofNat q.1.kind.toNat :: (pre ++ fldB q.1 fl)) → Ch Non w1 w' → ∃ vk_1 : Nat, vk_1 < (fldsK q.1.kind).length - j ∧ ∃ j_1 : Nat, IntKind.i64.wrap ((j : Int) + 1) = j_1 ∧ j_1 ≤ (fldsK q.1.kind).length ∧ vk_1 = (fldsK q.1.kind).length - j_1 ∧ Ch Non w1 w' ∧ s' = str (UInt8.ofNat q.1.kind.toNat :: (((fldsK q.1.kind).take j_1).map (fldB q.1)).flatten) := fun {s' w'} hs hc' =>
      ⟨(fldsK q.1.kind).length - (j + 1), by omega, j + 1, by rw [wrap_id (by omega) (by omega)]; rfl, hlt, rfl, hc', by rw [hs, hsn]⟩
    refine ⟨fun s' w' => s' = str (UInt8.ofNat q.1.kind.toNat :: (pre ++ fldB q.1 fl)) ∧ Ch Non w1 w', ⟨⟨by omega, by omega⟩, ?_⟩, fun jk s' w' hs => fin hs.1 hs.2⟩
    obtain ⟨r1, r2, l1, l2, l3⟩ := hR5
    have sz : ∀ b : List UInt8, b.length ≤ 2000 → (((str (UInt8.ofNat q.1.kind.toNat :: pre)).size + (str b).size : Nat) : Int) ≤ 9223372036854775807 := fun b hb => by
      rw [str_size, str_size, List.length_cons]; omega
    have ap : ∀ b : List UInt8, str (UInt8.ofNat q.1.kind.toNat :: pre) ++ str b = str (UInt8.ofNat q.1.kind.toNat :: (pre ++ b)) := fun b => by rw [str_app]; rfl
    cases fl
    · refine iteT rfl ⟨_, hA5.cell 1 rfl, step_call (Rnum_spec w5 hG.i) ?_⟩
      rintro v w6 ⟨rfl, hc6⟩
      exact ⟨_, rfl, sz _ hfb, ap _, hc.andN hc6⟩
    · refine iteF rfl (iteT rfl ⟨_, hA5.cell 2 rfl, step_call (Rnum_spec w5 hG.n) ?_⟩)
      rintro v w6 ⟨rfl, hc6⟩
      exact ⟨_, rfl, sz _ hfb, ap _, hc.andN hc6⟩
    · refine iteF rfl (iteF rfl (iteT rfl ⟨_, hA5.cell 3 rfl, fun hg => ?_, fun hg => ?_⟩))
      · have hg : q.1.good = true := hg
        have e : fldB q.1 .good = [1] := by unfold fldB; rw [hg]; rfl
        rw [e] at hfb ⊢
        exact ⟨sz [1] hfb, ap [1], hc⟩
      · have hg : q.1.good = false := hg
        have e : fldB q.1 .good = [0] := by unfold fldB; rw [hg]; rfl
        rw [e] at hfb ⊢
        exact ⟨sz [0] hfb, ap [0], hc⟩
    · refine iteF rfl (iteF rfl (iteF rfl (iteT rfl ⟨_, _, _, hA5.cell 4 rfl, step_call (Rrow_spec r1 hG.p.2 l1 _) ?_⟩)))
      rintro v w6 ⟨rfl, hc6⟩
      exact ⟨_, rfl, sz _ hfb, ap _, hc.andN hc6⟩
    · refine iteF rfl (iteF rfl (iteF rfl (iteF rfl (iteT rfl ⟨_, _, _, hA5.cell 5 rfl, step_call (Rrow_spec r2 hG.d.2 l2 _) ?_⟩))))
      rintro v w6 ⟨rfl, hc6⟩
      exact ⟨_, rfl, sz _ hfb, ap _, hc.andN hc6⟩
    · refine iteF rfl (iteF rfl (iteF rfl (iteF rfl (iteF rfl ⟨_, hA5.cell 6 rfl, step_call (RefText_spec w5 _ (by rw [str_size]; omega)) ?_⟩))))
      rintro v w6 ⟨rfl, hc6⟩
      exact ⟨_, rfl, sz _ hfb, ap _, hc.andN hc6⟩
  · have hjn : j = (fldsK q.1.kind).length := by have := of_decide_eq_false hge; omega
    subst hjn
    rw [List.take_length]
    exact ⟨rfl, hc1.andN hc⟩
end
end Go.Proofs.Ytamkffjmggbekaa.Ord
