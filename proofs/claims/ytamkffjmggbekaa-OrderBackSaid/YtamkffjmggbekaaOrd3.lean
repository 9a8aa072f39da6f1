/- For every command: what Copy, Same, rest, Trim and Good answer; the conditions stand in each theorem. -/
import Derived.Test.YtamkffjmggbekaaOrd2
import Derived.Test.YtamkffjmggbekaaPenRef
import Derived.Test.YtamkffjmggbekaaWard
import Derived.Test.YtamkffjmggbekaaVcOrdB
set_option linter.unusedVariables false
set_option linter.unusedSimpArgs false
namespace Go.Proofs.Ytamkffjmggbekaa.Ord
open Go Go.Proofs Go.Proofs.Ytamkffjmggbekaa.V Go.Proofs.Ytamkffjmggbekaa.Vc Go.Proofs.Ytamkffjmggbekaa.Pen Go.RowKit

theorem CmR.empty (w : World) (k : Int) (D : Nat → Prop) : CmR w (cm0 k, p0) D := ⟨Rd.nil _ _ _, Rd.nil _ _ _, Nat.zero_le _, Nat.zero_le _, Nat.zero_le _⟩
theorem cm_eq (a b : CmD) : a = b ↔ a.kind = b.kind ∧ a.id = b.id ∧ a.n = b.n ∧ a.good = b.good ∧ a.data = b.data ∧ a.prompt = b.prompt ∧ a.draws = b.draws := by
  cases a; cases b; simp only [CmD.mk.injEq]; constructor
  · rintro ⟨rfl, rfl, rfl, rfl, rfl, rfl, rfl⟩; exact ⟨rfl, rfl, rfl, rfl, rfl, rfl, rfl⟩
  · rintro ⟨rfl, rfl, rfl, rfl, rfl, rfl, rfl⟩; exact ⟨rfl, rfl, rfl, rfl, rfl, rfl, rfl⟩
section
variable {w w' w1 w2 : World} {q q' : CmD × RwP} {D F G : Nat → Prop}
/-- A command laid in a new block. -/
theorem cmNew {T : Nat} (q : CmD × RwP) (e1 : w1 = w.alloc (.cells #[.int .i64 0, .int .i64 0, .int .i64 0, .bool false, .slice none 0 0, .slice none 0 0, .string ByteArray.empty] T (0, 0))) (e2 : w2 = w1.setCells w.heap.size 0 (cmE q)) : Blk w2 w.heap.size (cmE q) T ∧ Ch Non w w2 :=
  ⟨(Blk.new e1).all (cmE q) rfl e2, (Ch.alloc (F := Non) e1).trans (Ch.sets (F := (· = w.heap.size)) e2 rfl) (fun i hi he => by omega)⟩
/-- .. written over one that was. -/
theorem cmOver {b T : Nat} (q : CmD × RwP) {cs : List Value} (h : Blk w b cs T) (hl : cs.length = 7) (e2 : w2 = w.setCells b 0 (cmE q)) : Blk w2 b (cmE q) T ∧ Ch (· = b) w w2 :=
  ⟨h.all (cmE q) (by rw [hl]; rfl) e2, Ch.sets e2 rfl⟩
theorem Copy_spec (h : CmR w q D) : Calls Try.prog i_order_Copy #[.agg (cmE q).toArray] w (Ret fun v w' => ∃ p : RwP, v = .agg (cmE (q.1, p)).toArray ∧ CmR w' (q.1, p) (New w w') ∧ Ch Non w w') := by
  obtain ⟨h1, h2, h3, h4, h5⟩ := h
  refine order_Copy.calls _ _ _ _ _ _ _ _ _ _ _ ?_
  unfold order_Copy.vc
  intro w1 e1 w2 e2
  have hA : Blk w2 w.heap.size (cmE q) t_order_Command := (Blk.new e1).alloc e2
  have hB := Blk.new e2
  have hc2 : Ch Non w w2 := (Ch.alloc e1).andN (Ch.alloc e2)
  have s1 : w.heap.size < w1.heap.size := (Blk.new e1).lt
  have s2 : w1.heap.size < w2.heap.size := hB.lt
  clear e1 e2
  refine ⟨fun w' => Ch Non w2 w', fun w3 e3 => ⟨Ch.drew e3, _, _, _, fun w' hc => (hA.keepN hc).cell 4 rfl, _, _, _, fun w' hc => (hA.keepN hc).cell 5 rfl, ?_⟩⟩
  have hc23 : Ch Non w2 w3 := Ch.drew e3
  refine step_call (Ward.Clone_spec ((h1.keepN hc2).keepN hc23) (by omega) _) ?_
  rintro v w6 ⟨o4, c4, rfl, hr4, hc6⟩
  have hc26 := hc23.andN hc6
  refine ⟨_, _, _, rfl, hc26, ?_⟩
  refine step_call (Ward.Clone_spec ((h2.keepN hc2).keepN hc26) (by omega) _) ?_
  rintro v w7 ⟨o5, c5, rfl, hr5, hc7⟩
  have hc27 := hc26.andN hc7
  have hA7 := hA.keepN hc27
  have hs27 := hc27.size
  have hs6 := hc6.size
  have hs7 := hc7.size
  have s23 : w2.heap.size = w3.heap.size := by subst e3; rfl
  refine ⟨_, _, _, rfl, hc27, hA7.ok 4 rfl, fun w8 e8 => ?_⟩
  have hA8 := hA7.set e8
  refine ⟨hA8.ok 5 rfl, fun w9 e9 => ?_⟩
  have hA9 := hA8.set e9
  have hc79 : Ch (· = w.heap.size) w7 w9 := (Ch.set (F := (· = w.heap.size)) (p := ⟨w.heap.size, 4, none⟩) e8 rfl).same (Ch.set (F := (· = w.heap.size)) (p := ⟨w.heap.size, 5, none⟩) e9 rfl)
  have hs9 := hc79.size
  have hB9 := (hB.keepN hc27).keep hc79 (by omega)
  have hA9 : Blk w9 w.heap.size (cmE (q.1, ⟨o4, c4, o5, c5⟩)) t_order_Command := hA9
  refine ⟨trivial, _, _, _, _, _, _, _, _, _, _, _, ⟨hA9.cell 0 rfl, hA9.cell 1 rfl, hA9.cell 2 rfl, hA9.cell 3 rfl, hA9.cell 4 rfl, hA9.cell 5 rfl, hA9.cell 6 rfl⟩, ⟨hB9.ok 0 rfl, hB9.ok 1 rfl, hB9.ok 2 rfl, hB9.ok 3 rfl, hB9.ok 4 rfl, hB9.ok 5 rfl, hB9.ok 6 rfl⟩, fun w10 e10 => ?_⟩
  obtain ⟨hB10, hc910⟩ := cmOver (q.1, ⟨o4, c4, o5, c5⟩) hB9 rfl e10
  have hs10 := hc910.size
  refine ⟨_, _, _, _, _, _, _, _, _, _, _, ⟨hB10.cell 0 rfl, hB10.cell 1 rfl, hB10.cell 2 rfl, hB10.cell 3 rfl, hB10.cell 4 rfl, hB10.cell 5 rfl, hB10.cell 6 rfl⟩, ⟨o4, c4, o5, c5⟩, rfl, ⟨?_, ?_, h3, h4, h5⟩, ((hc2.andN hc27).trans hc79 (fun i hi he => by omega)).trans hc910 (fun i hi he => by omega)⟩
  · exact ((((hr4.keepN hc7).keep hc79 (fun i _ hi he => by have := hi.1; omega)).keep hc910 (fun i _ hi he => by have := hi.1; omega))).mono (fun i hi hN => ⟨by have := hN.1; omega, hi⟩)
  · exact ((hr5.keep hc79 (fun i _ hi he => by have := hi.1; omega)).keep hc910 (fun i _ hi he => by have := hi.1; omega)).mono (fun i hi hN => ⟨by have := hN.1; omega, hi⟩)
theorem Same_spec (h : CmR w q F) (h' : CmR w q' G) : Calls Try.prog i_order_Same #[.agg (cmE q).toArray, .agg (cmE q').toArray] w (Ret fun v w' => v = .bool (decide (q.1 = q'.1)) ∧ Ch Non w w') := by
  refine order_Same.calls _ _ _ _ _ _ _ _ _ _ _ _ _ _ _ _ _ _ _ _ _ _ ?_
  unfold order_Same.vc
  intro w1 e1 w2 e2
  have hA : Blk w2 w.heap.size (cmE q) t_order_Command := (Blk.new e1).alloc e2
  have hB : Blk w2 w1.heap.size (cmE q') t_order_Command := Blk.new e2
  have hc : Ch Non w w2 := (Ch.alloc e1).andN (Ch.alloc e2)
  have ne : ∀ {x y : Int}, (x != y) = true → ¬ x = y := fun h => by simpa using h
  have eq : ∀ {x y : Int}, (x != y) = false → x = y := fun h => by simpa using h
  have no : ∀ {w'}, Ch Non w2 w' → (q.1.kind = q'.1.kind ∧ q.1.id = q'.1.id ∧ q.1.n = q'.1.n ∧ q.1.good = q'.1.good ∧ q.1.data = q'.1.data ∧ q.1.prompt = q'.1.prompt ∧ q.1.draws = q'.1.draws → False) → Value.bool false = .bool (decide (q.1 = q'.1)) ∧ Ch Non w w' := fun hc' h => ⟨by rw [decide_eq_false (fun he => h ((cm_eq _ _).1 he))], hc.andN hc'⟩
  refine ⟨_, hA.cell 0 rfl, _, hB.cell 0 rfl, fun h => no (Ch.refl _ _) (fun k => ne h k.1), fun h1 => ?_⟩
  refine ⟨_, hA.cell 1 rfl, _, hB.cell 1 rfl, fun h => no (Ch.refl _ _) (fun k => ne h k.2.1), fun h2 => ?_⟩
  refine ⟨_, hA.cell 2 rfl, _, hB.cell 2 rfl, fun h => no (Ch.refl _ _) (fun k => ne h k.2.2.1), fun h3 => ?_⟩
  refine ⟨_, hA.cell 3 rfl, _, hB.cell 3 rfl, fun h => no (Ch.refl _ _) (fun k => by rw [k.2.2.2.1] at h; simp at h), fun h4 => ?_⟩
  have h4 : q.1.good = q'.1.good := by simpa using h4
  refine ⟨_, hA.cell 6 rfl, _, hB.cell 6 rfl, fun h => no (Ch.refl _ _) (fun k => by rw [str_beq, k.2.2.2.2.1] at h; simp at h), fun h5 => ?_⟩
  have h5 : q.1.data = q'.1.data := by rw [str_beq] at h5; simpa using h5
  refine ⟨_, _, _, hA.cell 4 rfl, _, _, _, hB.cell 4 rfl, ?_⟩
  obtain ⟨r1, r2, l1, l2, _⟩ := h
  obtain ⟨s1, s2, _, _, _⟩ := h'
  refine step_call (Ward.Equal_spec (r1.keepN hc) (s1.keepN hc) (by omega) _ _) ?_
  rintro v w3 ⟨rfl, hc3⟩
  refine ⟨_, rfl, fun h6 => ?_, fun h => no hc3 (fun k => of_decide_eq_false h k.2.2.2.2.2.1)⟩
  refine ⟨_, _, _, (hA.keepN hc3).cell 5 rfl, _, _, _, (hB.keepN hc3).cell 5 rfl, ?_⟩
  refine step_call (Ward.Equal_spec ((r2.keepN hc).keepN hc3) ((s2.keepN hc).keepN hc3) (by omega) _ _) ?_
  rintro v w4 ⟨rfl, hc4⟩
  refine ⟨_, rfl, ?_, (hc.andN hc3).andN hc4⟩
  congr 1
  by_cases h7 : q.1.draws = q'.1.draws
  · rw [decide_eq_true h7, decide_eq_true ((cm_eq _ _).2 ⟨eq h1, eq h2, eq h3, h4, h5, of_decide_eq_true h6, h7⟩)]
  · rw [decide_eq_false h7, decide_eq_false (fun he => h7 ((cm_eq _ _).1 he).2.2.2.2.2.2)]
theorem rest_spec (w : World) (q : CmD × RwP) : Calls Try.prog i_order_rest #[.agg (cmE q).toArray] w (Ret fun v w' => v = .agg (cmE (restQ q)).toArray ∧ Ch Non w w') := by
  refine order_rest.calls _ _ _ _ _ _ _ _ _ _ _ ?_
  unfold order_rest.vc
  intro w1 e1 w2 e2
  have hA : Blk w2 w.heap.size (cmE q) t_order_Command := (Blk.new e1).alloc e2
  have hB := Blk.new e2
  have s1 : w.heap.size < w1.heap.size := (Blk.new e1).lt
  have hc2 : Ch Non w w2 := (Ch.alloc e1).andN (Ch.alloc e2)
  refine step_call (visitC_spec hA) ?_
  rintro v w3 ⟨rfl, hA3, hc3⟩
  have hB3 := hB.keep hc3 (by omega)
  have hs2 := hc2.size
  have hs3 := hc3.size
  refine ⟨rfl, _, _, _, _, _, _, _, _, _, _, _, ⟨hA3.cell 0 rfl, hA3.cell 1 rfl, hA3.cell 2 rfl, hA3.cell 3 rfl, hA3.cell 4 rfl, hA3.cell 5 rfl, hA3.cell 6 rfl⟩, ⟨hB3.ok 0 rfl, hB3.ok 1 rfl, hB3.ok 2 rfl, hB3.ok 3 rfl, hB3.ok 4 rfl, hB3.ok 5 rfl, hB3.ok 6 rfl⟩, fun w4 e4 => ?_⟩
  obtain ⟨hB4, hc4⟩ := cmOver (restQ q) hB3 rfl e4
  exact ⟨_, _, _, _, _, _, _, _, _, _, _, ⟨hB4.cell 0 rfl, hB4.cell 1 rfl, hB4.cell 2 rfl, hB4.cell 3 rfl, hB4.cell 4 rfl, hB4.cell 5 rfl, hB4.cell 6 rfl⟩, rfl, (hc2.trans hc3 (fun i hi he => by omega)).trans hc4 (fun i hi he => by omega)⟩
end
def zeroC (c : CmD) : Fld → CmD
  | .id => { c with id := 0 }
  | .n => { c with n := 0 }
  | .good => { c with good := false }
  | .prompt => { c with prompt := [] }
  | .draws => { c with draws := [] }
  | .data => { c with data := [] }
def restC (c : CmD) : CmD := (fldsK c.kind).foldl zeroC c
theorem foldl_fst : ∀ (l : List Fld) (q : CmD × RwP), (l.foldl zeroF q).1 = l.foldl zeroC q.1
  | [], q => rfl
  | f :: r, q => by
    rw [List.foldl_cons, List.foldl_cons, foldl_fst r]
    cases f <;> rfl
theorem restQ_fst (q : CmD × RwP) : (restQ q).1 = restC q.1 := foldl_fst _ _
theorem restQ_R {w : World} {D : Nat → Prop} : ∀ (l : List Fld) {q : CmD × RwP}, CmR w q D → CmR w (l.foldl zeroF q) D
  | [], q, h => h
  | f :: r, q, h => by
    rw [List.foldl_cons]
    refine restQ_R r ?_
    obtain ⟨h1, h2, h3, h4, h5⟩ := h
    cases f
    · exact ⟨h1, h2, h3, h4, h5⟩
    · exact ⟨h1, h2, h3, h4, h5⟩
    · exact ⟨h1, h2, h3, h4, h5⟩
    · exact ⟨Rd.nil _ _ _, h2, Nat.zero_le _, h4, h5⟩
    · exact ⟨h1, Rd.nil _ _ _, h3, Nat.zero_le _, h5⟩
    · exact ⟨h1, h2, h3, h4, Nat.zero_le _⟩
def rowOk (l : List Int) : Bool := decide (l.length ≤ 32) && !(l.any fun x => !decide (numOk x))
def goodC (c : CmD) : Bool := !decide (badK c.kind) && (decide (restC c = cm0 c.kind) && (decide (numOk c.id) && (decide (numOk c.n) && (rowOk c.prompt && (rowOk c.draws && decide (c.data.length ≤ 1024))))))
section
variable {w w' w1 w2 : World} {q q' : CmD × RwP} {D F G : Nat → Prop} {o : Option Addr} {xs : List Int}
theorem isNumber_spec (w : World) (x : Int) : Calls Try.prog i_order_isNumber #[.int .i64 x] w (Ret fun v w' => v = .bool (decide (numOk x)) ∧ w' = w) := by
  refine order_isNumber.calls _ ?_
  unfold order_isNumber.vc
  refine ⟨fun h => ⟨?_, rfl⟩, fun h => ⟨?_, rfl⟩⟩
  · have h := of_decide_eq_true h
    congr 1
    exact decide_eq_decide.2 (by unfold numOk; omega)
  · have h := of_decide_eq_false h
    rw [decide_eq_false (by unfold numOk; omega)]
theorem isRow_spec (hr : Rd w o (xs.map (.int .i64)) G) (hl : xs.length ≤ 1000000) (c : Nat) : Calls Try.prog i_order_isRow #[.slice o xs.length c] w (Ret fun v w' => v = .bool (rowOk xs) ∧ w' = w) := by
  refine order_isRow.calls _ _ _ ?_
  unfold order_isRow.vc
  refine ⟨fun h => ?_, fun h => ?_⟩
  · have h := of_decide_eq_true h
    refine slices_ContainsFunc.calls_rw _ _ _ ?_
    unfold slices_ContainsFunc.vc_rw
    have hidx : Calls Try.prog 107 #[.slice o xs.length c, .func (.func i_order_isRow_c1) #[] #[]] w (Ret fun v w' => ∃ i : Int, v = .int .i64 i ∧ decide (i ≥ 0) = (xs.any fun x => !decide (numOk x)) ∧ w' = w) := by
      refine slices_IndexFunc.calls_rw _ _ _ ?_
      unfold slices_IndexFunc.vc_rw
      refine ⟨fun i k w' => ∃ j : Nat, i = j ∧ j ≤ xs.length ∧ k = xs.length - j ∧ w' = w ∧ ((xs.take j).any fun x => !decide (numOk x)) = false, ⟨_, 0, rfl, Nat.zero_le _, rfl, rfl, rfl⟩, ?_⟩
      rintro jk i k w1 ⟨j, rfl, hj, rfl, rfl, hno⟩
      refine ⟨fun hlt => ?_, fun hge => ?_⟩
      · have hlt : j < xs.length := by have := of_decide_eq_true hlt; omega
        have hjj : (j : Int).toNat * 1 = j := by omega
        rw [hjj]
        refine ⟨⟨by omega, by omega⟩, hr.typed hlt fun p hp => ⟨_, hp, ?_⟩⟩
        refine order_isRow_c1.calls _ ?_
        unfold order_isRow_c1.vc
        refine step_call (isNumber_spec w1 xs[j]) ?_
        rintro x w2 ⟨rfl, rfl⟩
        refine ⟨_, rfl, _, rfl, fun h => ⟨_, rfl, ?_, rfl⟩, fun h => ⟨xs.length - (j + 1), by omega, j + 1, by rw [wrap_id (by omega) (by omega)]; rfl, hlt, rfl, rfl, ?_⟩⟩
        · rw [decide_eq_true (by omega)]
          exact (List.any_eq_true.2 ⟨xs[j], List.getElem_mem hlt, h⟩).symm
        · rw [Pen.take_snoc xs j hlt, List.any_append, hno]
          show (false || ((!decide (numOk xs[j])) || false)) = false
          rw [h]; rfl
      · have hjn : j = xs.length := by have := of_decide_eq_false hge; omega
        subst hjn
        rw [List.take_length] at hno
        exact ⟨_, rfl, by rw [hno]; rfl, rfl⟩
    refine step_call hidx ?_
    rintro v w2 ⟨i, rfl, hi, rfl⟩
    refine ⟨_, rfl, _, rfl, ?_, rfl⟩
    rw [hi]
    unfold rowOk
    rw [decide_eq_true (by omega), Bool.true_and]
  · have h := of_decide_eq_false h
    refine ⟨?_, rfl⟩
    unfold rowOk
    rw [decide_eq_false (by omega)]; rfl
theorem Good_spec (h : CmR w q D) : Calls Try.prog i_order_Good #[.agg (cmE q).toArray] w (Ret fun v w' => v = .bool (goodC q.1) ∧ Ch Non w w') := by
  refine order_Good.calls _ _ _ _ _ _ _ _ _ _ _ ?_
  unfold order_Good.vc
  intro w1 e1
  have hA : Blk w1 w.heap.size (cmE q) t_order_Command := Blk.new e1
  have hc1 : Ch Non w w1 := Ch.alloc e1
  refine ⟨fun w' => Ch Non w1 w', fun w2 e2 => ⟨Ch.drew e2, _, fun w' hc => (hA.keepN hc).cell 0 rfl, ?_⟩⟩
  have hc2 : Ch Non w1 w2 := Ch.drew e2
  refine step_call (Name_spec w2 _) ?_
  rintro v w4 ⟨rfl, hc4⟩
  have hc14 := hc2.andN hc4
  have hc04 := hc1.andN hc14
  have hg : goodC q.1 = (!decide (badK q.1.kind) && (decide (restC q.1 = cm0 q.1.kind) && (decide (numOk q.1.id) && (decide (numOk q.1.n) && (rowOk q.1.prompt && (rowOk q.1.draws && decide (q.1.data.length ≤ 1024))))))) := rfl
  rw [hg]
  refine ⟨str (nameL q.1.kind), rfl, hc14, ?_⟩
  rw [emp_beq, nameL_emp]
  refine ⟨fun h1 => ⟨by rw [h1]; rfl, hc04⟩, fun h1 => ?_⟩
  rw [h1]
  refine ⟨_, _, _, _, _, _, _, _, _, _, _, ⟨fun w' hc => (hA.keepN hc).cell 0 rfl, fun w' hc => (hA.keepN hc).cell 1 rfl, fun w' hc => (hA.keepN hc).cell 2 rfl, fun w' hc => (hA.keepN hc).cell 3 rfl, fun w' hc => (hA.keepN hc).cell 4 rfl, fun w' hc => (hA.keepN hc).cell 5 rfl, fun w' hc => (hA.keepN hc).cell 6 rfl⟩, _, fun w' hc => (hA.keepN hc).cell 0 rfl, ?_⟩
  refine step_call (rest_spec w4 q) ?_
  rintro v w7 ⟨rfl, hc7⟩
  have hc17 := hc14.andN hc7
  have hc07 := hc1.andN hc17
  refine ⟨_, _, _, _, _, _, _, _, _, _, _, rfl, hc17, ?_⟩
  refine step_call (Same_spec (q' := (cm0 q.1.kind, p0)) (restQ_R _ (h.keepN hc07)) (CmR.empty _ _ D)) ?_
  rintro v w8 ⟨rfl, hc8⟩
  rw [restQ_fst]
  have hc18 := hc17.andN hc8
  have hc08 := hc1.andN hc18
  have hA8 := hA.keepN hc18
  have h8 := h.keepN hc08
  refine ⟨_, rfl, hc18, fun h2 => ⟨?_, hc08⟩, fun h2 => ?_⟩
  · have h2 : decide (restC q.1 = cm0 q.1.kind) = false := by simpa using h2
    rw [h2]; rfl
  have h2 : decide (restC q.1 = cm0 q.1.kind) = true := by simpa using h2
  rw [h2]
  refine ⟨_, hA8.cell 1 rfl, step_call (isNumber_spec w8 _) ?_⟩
  rintro v w9 ⟨rfl, rfl⟩
  refine ⟨_, rfl, fun h3 => ?_, fun h3 => ⟨by rw [h3]; rfl, hc08⟩⟩
  rw [h3]
  refine ⟨_, hA8.cell 2 rfl, step_call (isNumber_spec w9 _) ?_⟩
  rintro v w10 ⟨rfl, rfl⟩
  refine ⟨_, rfl, fun h4 => ?_, fun h4 => ⟨by rw [h4]; rfl, hc08⟩⟩
  rw [h4]
  obtain ⟨r1, r2, l1, l2, l3⟩ := h8
  refine ⟨_, _, _, hA8.cell 4 rfl, step_call (isRow_spec r1 (by omega) _) ?_⟩
  rintro v w11 ⟨rfl, rfl⟩
  refine ⟨_, rfl, fun h5 => ?_, fun h5 => ⟨by rw [h5]; rfl, hc08⟩⟩
  rw [h5]
  refine ⟨_, _, _, hA8.cell 5 rfl, step_call (isRow_spec r2 (by omega) _) ?_⟩
  rintro v w12 ⟨rfl, rfl⟩
  refine ⟨_, rfl, fun h6 => ?_, fun h6 => ⟨by rw [h6]; rfl, hc08⟩⟩
  rw [h6]
  refine ⟨_, hA8.cell 6 rfl, ?_, hc08⟩
  rw [str_size]
  congr 1
  simp only [Bool.not_false, Bool.true_and]
  exact decide_eq_decide.2 (by omega)
end
/-- What is left of a command. -/
def trimC (c : CmD) : CmD := if badK c.kind then cm0 0 else
  ⟨c.kind, if (restC c).id ≠ 0 then 0 else c.id, if (restC c).n ≠ 0 then 0 else c.n, if (restC c).good = true then false else c.good, if (restC c).prompt.length > 0 then [] else c.prompt, if (restC c).draws.length > 0 then [] else c.draws, if (restC c).data = [] then c.data else []⟩
/-- Trim's steps, one by one: of c what the spare one has not. -/
structure TS (w w' : World) (cb sb rb : Nat) (c : CmD) (p : RwP) (q : CmD × RwP) (cs : List Value) : Prop where
  a : Blk w' cb (cmE (c, p)) t_order_Command
  s : Blk w' sb (cmE (restQ q)) t_order_Command
  r : Blk w' rb cs t_order_Command
  c : Ch (· = cb) w w'
section
variable {w w' w1 : World} {cb sb rb : Nat} {c : CmD} {p : RwP} {q : CmD × RwP} {cs : List Value} {D : Nat → Prop}
theorem TS.set (h : TS w w' cb sb rb c p q cs) (n1 : sb ≠ cb) (n2 : rb ≠ cb) {i : Nat} {v : Value} (e : w1 = w'.setCell ⟨cb, i, none⟩ v) {c' : CmD} {p' : RwP} (hv : (cmE (c, p)).set i v = cmE (c', p')) : TS w w1 cb sb rb c' p' q cs := by
  have hc : Ch (· = cb) w' w1 := Ch.set e rfl
  have ha := h.a.set e
  rw [hv] at ha
  exact ⟨ha, h.s.keep hc n1, h.r.keep hc n2, h.c.same hc⟩
def t1 (c : CmD) (r : CmD) : CmD := { c with id := if r.id ≠ 0 then 0 else c.id }
def t2 (c : CmD) (r : CmD) : CmD := { c with n := if r.n ≠ 0 then 0 else c.n }
def t3 (c : CmD) (r : CmD) : CmD := { c with good := if r.good = true then false else c.good }
def t4 (c : CmD) (r : CmD) : CmD := { c with prompt := if r.prompt.length > 0 then [] else c.prompt }
def t5 (c : CmD) (r : CmD) : CmD := { c with draws := if r.draws.length > 0 then [] else c.draws }
def t6 (c : CmD) (r : CmD) : CmD := { c with data := if r.data = [] then c.data else [] }
theorem trim_steps (c : CmD) (h : ¬ badK c.kind) : t6 (t5 (t4 (t3 (t2 (t1 c (restC c)) (restC c)) (restC c)) (restC c)) (restC c)) (restC c) = trimC c := by
  unfold trimC; rw [if_neg h]; rfl
theorem CmR.mono' {D D' : Nat → Prop} (h : CmR w q D) (hg : ∀ i, i < w.heap.size → D i → D' i) : CmR w q D' := ⟨h.1.mono hg, h.2.1.mono hg, h.2.2⟩
def csB : List Value := [.int .i64 0, .int .i64 0, .int .i64 0, .bool false, .slice none 0 0, .slice none 0 0, .string ByteArray.empty]
theorem Trim_spec (h : CmR w q D) : Calls Try.prog i_order_Trim #[.agg (cmE q).toArray] w (Ret fun v w' => ∃ p : RwP, v = .agg (cmE (trimC q.1, p)).toArray ∧ CmR w' (trimC q.1, p) (New w w') ∧ Ch Non w w') := by
  refine order_Trim.calls _ _ _ _ _ _ _ _ _ _ _ ?_
  unfold order_Trim.vc
  intro w1 e1 w2 e2
  have hA : Blk w2 w.heap.size (cmE q) t_order_Command := (Blk.new e1).alloc e2
  have hB : Blk w2 w1.heap.size csB t_order_Command := Blk.new e2
  have s1 : w.heap.size < w1.heap.size := (Blk.new e1).lt
  have s2 : w1.heap.size < w2.heap.size := hB.lt
  have hc2 : Ch Non w w2 := (Ch.alloc e1).andN (Ch.alloc e2)
  clear e1 e2
  refine ⟨_, hA.cell 0 rfl, ?_⟩
  refine step_call (Name_spec w2 _) ?_
  rintro v w3 ⟨rfl, hc3⟩
  have hc03 := hc2.andN hc3
  have hs3 := hc3.size
  refine ⟨str (nameL q.1.kind), rfl, ?_⟩
  rw [emp_beq, nameL_emp]
  refine ⟨fun hb => ?_, fun hb => ?_⟩
  · have hB3 := hB.keepN hc3
    refine ⟨⟨hB3.ok 0 rfl, hB3.ok 1 rfl, hB3.ok 2 rfl, hB3.ok 3 rfl, hB3.ok 4 rfl, hB3.ok 5 rfl, hB3.ok 6 rfl⟩, fun w4 e4 => ?_⟩
    obtain ⟨hB4, hc4⟩ := cmOver (cm0 0, p0) hB3 rfl e4
    have ht : trimC q.1 = cm0 0 := by unfold trimC; rw [if_pos (of_decide_eq_true hb)]
    rw [ht]
    exact ⟨_, _, _, _, _, _, _, _, _, _, _, ⟨hB4.cell 0 rfl, hB4.cell 1 rfl, hB4.cell 2 rfl, hB4.cell 3 rfl, hB4.cell 4 rfl, hB4.cell 5 rfl, hB4.cell 6 rfl⟩, p0, rfl, CmR.empty _ _ _, hc03.trans hc4 (fun i hi he => by omega)⟩
  have hbk := of_decide_eq_false hb
  have hA3 := hA.keepN hc3
  have hB3 := hB.keepN hc3
  refine ⟨fun w' => Ch Non w3 w', fun w5 e5 => ⟨Ch.drew e5, _, _, _, _, _, _, _, _, _, _, _, ⟨fun w' hc => (hA3.keepN hc).cell 0 rfl, fun w' hc => (hA3.keepN hc).cell 1 rfl, fun w' hc => (hA3.keepN hc).cell 2 rfl, fun w' hc => (hA3.keepN hc).cell 3 rfl, fun w' hc => (hA3.keepN hc).cell 4 rfl, fun w' hc => (hA3.keepN hc).cell 5 rfl, fun w' hc => (hA3.keepN hc).cell 6 rfl⟩,
    _, _, _, _, _, _, _, _, _, _, _, ⟨fun w' hc => (hA3.keepN hc).cell 0 rfl, fun w' hc => (hA3.keepN hc).cell 1 rfl, fun w' hc => (hA3.keepN hc).cell 2 rfl, fun w' hc => (hA3.keepN hc).cell 3 rfl, fun w' hc => (hA3.keepN hc).cell 4 rfl, fun w' hc => (hA3.keepN hc).cell 5 rfl, fun w' hc => (hA3.keepN hc).cell 6 rfl⟩, ?_, ?_, trivial⟩⟩
  rotate_left
  · intro w43 e43
    have hc35 : Ch Non w3 w5 := Ch.drew e5
    have hc05 := hc03.andN hc35
    have hs35 := hc35.size
    have hS43 := Blk.new e43
    have s43 := hS43.lt
    have hc343 := hc35.andN (Ch.alloc (F := Non) e43)
    refine ⟨hc343, ?_⟩
    refine step_call (Copy_spec ((h.keepN hc05).keepN (Ch.alloc e43))) ?_
    rintro v w8 ⟨pc, rfl, hq8, hc8⟩
    have hc38 := hc343.andN hc8
    have hs8 := hc8.size
    refine ⟨_, _, _, _, _, _, _, _, _, _, _, rfl, hc38, ?_⟩
    refine step_call (rest_spec w8 q) ?_
    rintro v w27 ⟨rfl, hc27⟩
    have hc327 := hc38.andN hc27
    have hs27 := hc27.size
    have hA27 := hA3.keepN hc327
    refine ⟨_, _, _, _, _, _, _, _, _, _, _, rfl, hc327, ⟨hA27.ok 0 rfl, hA27.ok 1 rfl, hA27.ok 2 rfl, hA27.ok 3 rfl, hA27.ok 4 rfl, hA27.ok 5 rfl, hA27.ok 6 rfl⟩, fun w11 e11 => ?_⟩
    obtain ⟨hA11, hc11⟩ := cmOver (q.1, pc) hA27 rfl e11
    have hS11 := ((hS43.keepN hc8).keepN hc27).keep hc11 (by omega)
    refine ⟨⟨hS11.ok 0 rfl, hS11.ok 1 rfl, hS11.ok 2 rfl, hS11.ok 3 rfl, hS11.ok 4 rfl, hS11.ok 5 rfl, hS11.ok 6 rfl⟩, fun w12 e12 => ?_⟩
    obtain ⟨hS12, hc12⟩ := cmOver (restQ q) hS11 rfl e12
    have hs11 := hc11.size
    have hs12 := hc12.size
    have hT : TS w12 w12 w.heap.size w5.heap.size w1.heap.size q.1 pc q csB := ⟨hA11.keep hc12 (by omega), hS12, ((hB3.keepN hc327).keep hc11 (by omega)).keep hc12 (by omega), Ch.refl _ _⟩
    have hq12 : CmR w12 (q.1, pc) (fun i => w1.heap.size < i) := (((hq8.keepN hc27).keep hc11 (fun i _ hi he => by have := hi.1; omega)).keep hc12 (fun i _ hi he => by have := hi.1; omega)).mono' (fun i _ hi => by have := hi.1; omega)
    have hcW : Ch Non w w12 := ((hc03.andN hc327).trans hc11 (fun i hi he => by omega)).trans hc12 (fun i hi he => by omega)
    have n1 : w5.heap.size ≠ w.heap.size := by omega
    have n2 : w1.heap.size ≠ w.heap.size := by omega
    generalize w5.heap.size = sb at hT n1 ⊢
    generalize hr : (restQ q).1 = r at hT
    have cellS : ∀ {w'} {c : CmD} {p : RwP}, TS w12 w' w.heap.size sb w1.heap.size c p q csB → w'.cell? ⟨sb, 1, none⟩ = some (.int .i64 r.id) ∧ w'.cell? ⟨sb, 2, none⟩ = some (.int .i64 r.n) ∧ w'.cell? ⟨sb, 3, none⟩ = some (.bool r.good) ∧ w'.cell? ⟨sb, 4, none⟩ = some (.slice (restQ q).2.po r.prompt.length (restQ q).2.pc) ∧ w'.cell? ⟨sb, 5, none⟩ = some (.slice (restQ q).2.qo r.draws.length (restQ q).2.qc) ∧ w'.cell? ⟨sb, 6, none⟩ = some (.string (str r.data)) := fun h => by
      subst hr
      exact ⟨h.s.cell 1 rfl, h.s.cell 2 rfl, h.s.cell 3 rfl, h.s.cell 4 rfl, h.s.cell 5 rfl, h.s.cell 6 rfl⟩
    refine ⟨trivial, fun w' => TS w12 w' w.heap.size sb w1.heap.size (t1 q.1 r) pc q csB, ⟨_, (cellS hT).1, fun k => ⟨hT.a.ok 1 rfl, fun w13 e13 => hT.set n1 n2 e13 (by unfold t1; rw [if_pos (by simpa using k)]; rfl)⟩, fun k => ?_⟩, ?_⟩
    · have : t1 q.1 r = q.1 := by unfold t1; rw [if_neg (by simpa using k)]
      rw [this]; exact hT
    rintro jk w14 hT
    refine ⟨fun w' => TS w12 w' w.heap.size sb w1.heap.size (t2 (t1 q.1 r) r) pc q csB, ⟨_, (cellS hT).2.1, fun k => ⟨hT.a.ok 2 rfl, fun w13 e13 => hT.set n1 n2 e13 (by unfold t2; rw [if_pos (by simpa using k)]; rfl)⟩, fun k => ?_⟩, ?_⟩
    · have : t2 (t1 q.1 r) r = t1 q.1 r := by unfold t2; rw [if_neg (by simpa using k)]
      rw [this]; exact hT
    rintro jk w16 hT
    refine ⟨fun w' => TS w12 w' w.heap.size sb w1.heap.size (t3 (t2 (t1 q.1 r) r) r) pc q csB, ⟨_, (cellS hT).2.2.1, fun k => ⟨hT.a.ok 3 rfl, fun w13 e13 => hT.set n1 n2 e13 (by unfold t3; rw [if_pos k]; rfl)⟩, fun k => ?_⟩, ?_⟩
    · have : t3 (t2 (t1 q.1 r) r) r = t2 (t1 q.1 r) r := by unfold t3; rw [if_neg (by rw [k]; decide)]
      rw [this]; exact hT
    rintro jk w18 hT
    generalize hc3 : t3 (t2 (t1 q.1 r) r) r = c3 at hT ⊢
    have hp3 : c3.prompt = q.1.prompt ∧ c3.draws = q.1.draws ∧ c3.data = q.1.data := by subst hc3; exact ⟨rfl, rfl, rfl⟩
    have keep12 : ∀ {w'}, Ch (· = w.heap.size) w12 w' → CmR w' (q.1, pc) (fun i => w1.heap.size < i) := fun hc => hq12.keep hc (fun i _ hi he => by omega)
    refine ⟨fun w' => ∃ p', TS w12 w' w.heap.size sb w1.heap.size (t4 c3 r) p' q csB ∧ p'.qo = pc.qo ∧ p'.qc = pc.qc ∧ (∀ w', Ch (· = w.heap.size) w12 w' → Rd w' p'.po ((t4 c3 r).prompt.map (.int .i64)) (fun i => w1.heap.size < i)) ∧ (t4 c3 r).prompt.length ≤ 1000, ⟨_, _, _, (cellS hT).2.2.2.1, fun k => ⟨hT.a.ok 4 rfl, fun w13 e13 => ?_⟩, fun k => ?_⟩, ?_⟩
    · have k := of_decide_eq_true k
      have e4 : t4 c3 r = { c3 with prompt := [] } := by unfold t4; rw [if_pos (by omega)]
      rw [e4]
      exact ⟨⟨none, 0, pc.qo, pc.qc⟩, hT.set n1 n2 e13 rfl, rfl, rfl, fun _ _ => Rd.nil _ _ _, Nat.zero_le _⟩
    · have k := of_decide_eq_false k
      have e4 : t4 c3 r = c3 := by unfold t4; rw [if_neg (by omega)]
      rw [e4]
      exact ⟨pc, hT, rfl, rfl, fun w' hc => by rw [hp3.1]; exact (keep12 hc).1, by rw [hp3.1]; exact hq12.2.2.1⟩
    rintro jk w20 ⟨p4, hT, hq1, hq2, hR4, hl4⟩
    have hd4 : (t4 c3 r).draws = q.1.draws := hp3.2.1
    refine ⟨fun w' => ∃ p', TS w12 w' w.heap.size sb w1.heap.size (t5 (t4 c3 r) r) p' q csB ∧ (∀ w', Ch (· = w.heap.size) w12 w' → Rd w' p'.po ((t5 (t4 c3 r) r).prompt.map (.int .i64)) (fun i => w1.heap.size < i)) ∧ (∀ w', Ch (· = w.heap.size) w12 w' → Rd w' p'.qo ((t5 (t4 c3 r) r).draws.map (.int .i64)) (fun i => w1.heap.size < i)) ∧ (t5 (t4 c3 r) r).prompt.length ≤ 1000 ∧ (t5 (t4 c3 r) r).draws.length ≤ 1000, ⟨_, _, _, (cellS hT).2.2.2.2.1, fun k => ⟨hT.a.ok 5 rfl, fun w13 e13 => ?_⟩, fun k => ?_⟩, ?_⟩
    · have k := of_decide_eq_true k
      have e5 : t5 (t4 c3 r) r = { t4 c3 r with draws := [] } := by unfold t5; rw [if_pos (by omega)]
      rw [e5]
      exact ⟨⟨p4.po, p4.pc, none, 0⟩, hT.set n1 n2 e13 rfl, hR4, fun _ _ => Rd.nil _ _ _, hl4, Nat.zero_le _⟩
    · have k := of_decide_eq_false k
      have e5 : t5 (t4 c3 r) r = t4 c3 r := by unfold t5; rw [if_neg (by omega)]
      rw [e5]
      exact ⟨p4, hT, hR4, fun w' hc => by rw [hd4, hq1]; exact (keep12 hc).2.1, hl4, by rw [hd4]; exact hq12.2.2.2.1⟩
    rintro jk w22 ⟨p5, hT, hR5, hS5, hl5, hm5⟩
    have hdt : (t5 (t4 c3 r) r).data = q.1.data := hp3.2.2
    refine ⟨fun w' => TS w12 w' w.heap.size sb w1.heap.size (t6 (t5 (t4 c3 r) r) r) p5 q csB, ⟨_, (cellS hT).2.2.2.2.2, fun k => ⟨hT.a.ok 6 rfl, fun w13 e13 => hT.set n1 n2 e13 (by
      rw [emp_beq] at k
      unfold t6; rw [if_neg (by simpa using k)]; rfl)⟩, fun k => ?_⟩, ?_⟩
    · rw [emp_beq] at k
      have : t6 (t5 (t4 c3 r) r) r = t5 (t4 c3 r) r := by unfold t6; rw [if_pos (by simpa using k)]
      rw [this]; exact hT
    rintro jk w24 hT
    have hfin : t6 (t5 (t4 c3 r) r) r = trimC q.1 := by
      subst hc3; subst hr
      rw [restQ_fst]; exact trim_steps q.1 hbk
    have hd6 : (t6 (t5 (t4 c3 r) r) r).data.length ≤ 100000 := by
      have h5 := hq12.2.2.2.2
      unfold t6
      dsimp only
      split
      · rw [hdt]; exact h5
      · exact Nat.zero_le _
    have hC6 : CmR w24 (t6 (t5 (t4 c3 r) r) r, p5) (fun i => w1.heap.size < i) := ⟨hR5 _ hT.c, hS5 _ hT.c, hl5, hm5, hd6⟩
    rw [hfin] at hT hC6
    refine ⟨_, _, _, _, _, _, _, _, _, _, _, ⟨hT.a.cell 0 rfl, hT.a.cell 1 rfl, hT.a.cell 2 rfl, hT.a.cell 3 rfl, hT.a.cell 4 rfl, hT.a.cell 5 rfl, hT.a.cell 6 rfl⟩, ⟨hT.r.ok 0 rfl, hT.r.ok 1 rfl, hT.r.ok 2 rfl, hT.r.ok 3 rfl, hT.r.ok 4 rfl, hT.r.ok 5 rfl, hT.r.ok 6 rfl⟩, fun w25 e25 => ?_⟩
    obtain ⟨hB25, hc25⟩ := cmOver (trimC q.1, p5) hT.r rfl e25
    refine ⟨_, _, _, _, _, _, _, _, _, _, _, ⟨hB25.cell 0 rfl, hB25.cell 1 rfl, hB25.cell 2 rfl, hB25.cell 3 rfl, hB25.cell 4 rfl, hB25.cell 5 rfl, hB25.cell 6 rfl⟩, p5, rfl, (hC6.keep hc25 (fun i _ hi he => by omega)).mono' (fun i hi hk => ⟨by omega, hi⟩), (hcW.trans hT.c (fun i hi he => by omega)).trans hc25 (fun i hi he => by omega)⟩
  have hc35 : Ch Non w3 w5 := Ch.drew e5
  have hc05 := hc03.andN hc35
  refine step_call (Copy_spec (h.keepN hc05)) ?_
  rintro v w8 ⟨pc, rfl, hq8, hc8⟩
  have hc38 := hc35.andN hc8
  have hs35 := hc35.size
  have hs8 := hc8.size
  refine ⟨_, _, _, _, _, _, _, _, _, _, _, rfl, hc38, ?_, ?_⟩
  · refine step_call (rest_spec w8 q) ?_
    rintro v w9 ⟨rfl, hc9⟩
    have hc39 := hc38.andN hc9
    have hs9 := hc9.size
    refine ⟨_, _, _, _, _, _, _, _, _, _, _, rfl, hc39, fun w10 e10 => ⟨hc39.andN (Ch.alloc e10), ?_⟩⟩
    have hS10 := Blk.new e10
    have s10 := hS10.lt
    have hc310 := hc39.andN (Ch.alloc e10)
    have hA10 := hA3.keepN hc310
    refine ⟨⟨hA10.ok 0 rfl, hA10.ok 1 rfl, hA10.ok 2 rfl, hA10.ok 3 rfl, hA10.ok 4 rfl, hA10.ok 5 rfl, hA10.ok 6 rfl⟩, fun w11 e11 => ?_⟩
    obtain ⟨hA11, hc11⟩ := cmOver (q.1, pc) hA10 rfl e11
    have hS11 := hS10.keep hc11 (by omega)
    refine ⟨⟨hS11.ok 0 rfl, hS11.ok 1 rfl, hS11.ok 2 rfl, hS11.ok 3 rfl, hS11.ok 4 rfl, hS11.ok 5 rfl, hS11.ok 6 rfl⟩, fun w12 e12 => ?_⟩
    obtain ⟨hS12, hc12⟩ := cmOver (restQ q) hS11 rfl e12
    have hs11 := hc11.size
    have hs12 := hc12.size
    have hT : TS w12 w12 w.heap.size w9.heap.size w1.heap.size q.1 pc q csB := ⟨hA11.keep hc12 (by omega), hS12, ((hB3.keepN hc310).keep hc11 (by omega)).keep hc12 (by omega), Ch.refl _ _⟩
    have hq12 : CmR w12 (q.1, pc) (fun i => w1.heap.size < i) := ((((hq8.keepN hc9).keepN (Ch.alloc e10)).keep hc11 (fun i _ hi he => by have := hi.1; omega)).keep hc12 (fun i _ hi he => by have := hi.2; omega)).mono' (fun i _ hi => by have := hi.1; omega)
    have hcW : Ch Non w w12 := ((hc03.andN hc310).trans hc11 (fun i hi he => by omega)).trans hc12 (fun i hi he => by omega)
    have n1 : w9.heap.size ≠ w.heap.size := by omega
    have n2 : w1.heap.size ≠ w.heap.size := by omega
    generalize w9.heap.size = sb at hT n1 ⊢
    generalize hr : (restQ q).1 = r at hT
    have cellS : ∀ {w'} {c : CmD} {p : RwP}, TS w12 w' w.heap.size sb w1.heap.size c p q csB → w'.cell? ⟨sb, 1, none⟩ = some (.int .i64 r.id) ∧ w'.cell? ⟨sb, 2, none⟩ = some (.int .i64 r.n) ∧ w'.cell? ⟨sb, 3, none⟩ = some (.bool r.good) ∧ w'.cell? ⟨sb, 4, none⟩ = some (.slice (restQ q).2.po r.prompt.length (restQ q).2.pc) ∧ w'.cell? ⟨sb, 5, none⟩ = some (.slice (restQ q).2.qo r.draws.length (restQ q).2.qc) ∧ w'.cell? ⟨sb, 6, none⟩ = some (.string (str r.data)) := fun h => by
      subst hr
      exact ⟨h.s.cell 1 rfl, h.s.cell 2 rfl, h.s.cell 3 rfl, h.s.cell 4 rfl, h.s.cell 5 rfl, h.s.cell 6 rfl⟩
    refine ⟨trivial, fun w' => TS w12 w' w.heap.size sb w1.heap.size (t1 q.1 r) pc q csB, ⟨_, (cellS hT).1, fun k => ⟨hT.a.ok 1 rfl, fun w13 e13 => hT.set n1 n2 e13 (by unfold t1; rw [if_pos (by simpa using k)]; rfl)⟩, fun k => ?_⟩, ?_⟩
    · have : t1 q.1 r = q.1 := by unfold t1; rw [if_neg (by simpa using k)]
      rw [this]; exact hT
    rintro jk w14 hT
    refine ⟨fun w' => TS w12 w' w.heap.size sb w1.heap.size (t2 (t1 q.1 r) r) pc q csB, ⟨_, (cellS hT).2.1, fun k => ⟨hT.a.ok 2 rfl, fun w13 e13 => hT.set n1 n2 e13 (by unfold t2; rw [if_pos (by simpa using k)]; rfl)⟩, fun k => ?_⟩, ?_⟩
    · have : t2 (t1 q.1 r) r = t1 q.1 r := by unfold t2; rw [if_neg (by simpa using k)]
      rw [this]; exact hT
    rintro jk w16 hT
    refine ⟨fun w' => TS w12 w' w.heap.size sb w1.heap.size (t3 (t2 (t1 q.1 r) r) r) pc q csB, ⟨_, (cellS hT).2.2.1, fun k => ⟨hT.a.ok 3 rfl, fun w13 e13 => hT.set n1 n2 e13 (by unfold t3; rw [if_pos k]; rfl)⟩, fun k => ?_⟩, ?_⟩
    · have : t3 (t2 (t1 q.1 r) r) r = t2 (t1 q.1 r) r := by unfold t3; rw [if_neg (by rw [k]; decide)]
      rw [this]; exact hT
    rintro jk w18 hT
    generalize hc3 : t3 (t2 (t1 q.1 r) r) r = c3 at hT ⊢
    have hp3 : c3.prompt = q.1.prompt ∧ c3.draws = q.1.draws ∧ c3.data = q.1.data := by subst hc3; exact ⟨rfl, rfl, rfl⟩
    have keep12 : ∀ {w'}, Ch (· = w.heap.size) w12 w' → CmR w' (q.1, pc) (fun i => w1.heap.size < i) := fun hc => hq12.keep hc (fun i _ hi he => by omega)
    refine ⟨fun w' => ∃ p', TS w12 w' w.heap.size sb w1.heap.size (t4 c3 r) p' q csB ∧ p'.qo = pc.qo ∧ p'.qc = pc.qc ∧ (∀ w', Ch (· = w.heap.size) w12 w' → Rd w' p'.po ((t4 c3 r).prompt.map (.int .i64)) (fun i => w1.heap.size < i)) ∧ (t4 c3 r).prompt.length ≤ 1000, ⟨_, _, _, (cellS hT).2.2.2.1, fun k => ⟨hT.a.ok 4 rfl, fun w13 e13 => ?_⟩, fun k => ?_⟩, ?_⟩
    · have k := of_decide_eq_true k
      have e4 : t4 c3 r = { c3 with prompt := [] } := by unfold t4; rw [if_pos (by omega)]
      rw [e4]
      exact ⟨⟨none, 0, pc.qo, pc.qc⟩, hT.set n1 n2 e13 rfl, rfl, rfl, fun _ _ => Rd.nil _ _ _, Nat.zero_le _⟩
    · have k := of_decide_eq_false k
      have e4 : t4 c3 r = c3 := by unfold t4; rw [if_neg (by omega)]
      rw [e4]
      exact ⟨pc, hT, rfl, rfl, fun w' hc => by rw [hp3.1]; exact (keep12 hc).1, by rw [hp3.1]; exact hq12.2.2.1⟩
    rintro jk w20 ⟨p4, hT, hq1, hq2, hR4, hl4⟩
    have hd4 : (t4 c3 r).draws = q.1.draws := hp3.2.1
    refine ⟨fun w' => ∃ p', TS w12 w' w.heap.size sb w1.heap.size (t5 (t4 c3 r) r) p' q csB ∧ (∀ w', Ch (· = w.heap.size) w12 w' → Rd w' p'.po ((t5 (t4 c3 r) r).prompt.map (.int .i64)) (fun i => w1.heap.size < i)) ∧ (∀ w', Ch (· = w.heap.size) w12 w' → Rd w' p'.qo ((t5 (t4 c3 r) r).draws.map (.int .i64)) (fun i => w1.heap.size < i)) ∧ (t5 (t4 c3 r) r).prompt.length ≤ 1000 ∧ (t5 (t4 c3 r) r).draws.length ≤ 1000, ⟨_, _, _, (cellS hT).2.2.2.2.1, fun k => ⟨hT.a.ok 5 rfl, fun w13 e13 => ?_⟩, fun k => ?_⟩, ?_⟩
    · have k := of_decide_eq_true k
      have e5 : t5 (t4 c3 r) r = { t4 c3 r with draws := [] } := by unfold t5; rw [if_pos (by omega)]
      rw [e5]
      exact ⟨⟨p4.po, p4.pc, none, 0⟩, hT.set n1 n2 e13 rfl, hR4, fun _ _ => Rd.nil _ _ _, hl4, Nat.zero_le _⟩
    · have k := of_decide_eq_false k
      have e5 : t5 (t4 c3 r) r = t4 c3 r := by unfold t5; rw [if_neg (by omega)]
      rw [e5]
      exact ⟨p4, hT, hR4, fun w' hc => by rw [hd4, hq1]; exact (keep12 hc).2.1, hl4, by rw [hd4]; exact hq12.2.2.2.1⟩
    rintro jk w22 ⟨p5, hT, hR5, hS5, hl5, hm5⟩
    have hdt : (t5 (t4 c3 r) r).data = q.1.data := hp3.2.2
    refine ⟨fun w' => TS w12 w' w.heap.size sb w1.heap.size (t6 (t5 (t4 c3 r) r) r) p5 q csB, ⟨_, (cellS hT).2.2.2.2.2, fun k => ⟨hT.a.ok 6 rfl, fun w13 e13 => hT.set n1 n2 e13 (by
      rw [emp_beq] at k
      unfold t6; rw [if_neg (by simpa using k)]; rfl)⟩, fun k => ?_⟩, ?_⟩
    · rw [emp_beq] at k
      have : t6 (t5 (t4 c3 r) r) r = t5 (t4 c3 r) r := by unfold t6; rw [if_pos (by simpa using k)]
      rw [this]; exact hT
    rintro jk w24 hT
    have hfin : t6 (t5 (t4 c3 r) r) r = trimC q.1 := by
      subst hc3; subst hr
      rw [restQ_fst]; exact trim_steps q.1 hbk
    have hd6 : (t6 (t5 (t4 c3 r) r) r).data.length ≤ 100000 := by
      have h5 := hq12.2.2.2.2
      unfold t6
      dsimp only
      split
      · rw [hdt]; exact h5
      · exact Nat.zero_le _
    have hC6 : CmR w24 (t6 (t5 (t4 c3 r) r) r, p5) (fun i => w1.heap.size < i) := ⟨hR5 _ hT.c, hS5 _ hT.c, hl5, hm5, hd6⟩
    rw [hfin] at hT hC6
    refine ⟨_, _, _, _, _, _, _, _, _, _, _, ⟨hT.a.cell 0 rfl, hT.a.cell 1 rfl, hT.a.cell 2 rfl, hT.a.cell 3 rfl, hT.a.cell 4 rfl, hT.a.cell 5 rfl, hT.a.cell 6 rfl⟩, ⟨hT.r.ok 0 rfl, hT.r.ok 1 rfl, hT.r.ok 2 rfl, hT.r.ok 3 rfl, hT.r.ok 4 rfl, hT.r.ok 5 rfl, hT.r.ok 6 rfl⟩, fun w25 e25 => ?_⟩
    obtain ⟨hB25, hc25⟩ := cmOver (trimC q.1, p5) hT.r rfl e25
    refine ⟨_, _, _, _, _, _, _, _, _, _, _, ⟨hB25.cell 0 rfl, hB25.cell 1 rfl, hB25.cell 2 rfl, hB25.cell 3 rfl, hB25.cell 4 rfl, hB25.cell 5 rfl, hB25.cell 6 rfl⟩, p5, rfl, (hC6.keep hc25 (fun i _ hi he => by omega)).mono' (fun i hi hk => ⟨by omega, hi⟩), (hcW.trans hT.c (fun i hi he => by omega)).trans hc25 (fun i hi he => by omega)⟩
  · refine ⟨fun w26 e26 => ⟨hc38.andN (Ch.alloc e26), ?_⟩, trivial⟩
    have hS26 := Blk.new e26
    have s26 := hS26.lt
    have hc326 := hc38.andN (Ch.alloc e26)
    refine step_call (rest_spec w26 q) ?_
    rintro v w27 ⟨rfl, hc27⟩
    have hc327 := hc326.andN hc27
    have hs27 := hc27.size
    have hA27 := hA3.keepN hc327
    refine ⟨_, _, _, _, _, _, _, _, _, _, _, rfl, hc327, ⟨hA27.ok 0 rfl, hA27.ok 1 rfl, hA27.ok 2 rfl, hA27.ok 3 rfl, hA27.ok 4 rfl, hA27.ok 5 rfl, hA27.ok 6 rfl⟩, fun w11 e11 => ?_⟩
    obtain ⟨hA11, hc11⟩ := cmOver (q.1, pc) hA27 rfl e11
    have hS11 := (hS26.keepN hc27).keep hc11 (by omega)
    refine ⟨⟨hS11.ok 0 rfl, hS11.ok 1 rfl, hS11.ok 2 rfl, hS11.ok 3 rfl, hS11.ok 4 rfl, hS11.ok 5 rfl, hS11.ok 6 rfl⟩, fun w12 e12 => ?_⟩
    obtain ⟨hS12, hc12⟩ := cmOver (restQ q) hS11 rfl e12
    have hs11 := hc11.size
    have hs12 := hc12.size
    have hT : TS w12 w12 w.heap.size w8.heap.size w1.heap.size q.1 pc q csB := ⟨hA11.keep hc12 (by omega), hS12, ((hB3.keepN hc327).keep hc11 (by omega)).keep hc12 (by omega), Ch.refl _ _⟩
    have hq12 : CmR w12 (q.1, pc) (fun i => w1.heap.size < i) := ((((hq8.keepN (Ch.alloc e26)).keepN hc27).keep hc11 (fun i _ hi he => by have := hi.1; omega)).keep hc12 (fun i _ hi he => by have := hi.2; omega)).mono' (fun i _ hi => by have := hi.1; omega)
    have hcW : Ch Non w w12 := ((hc03.andN hc327).trans hc11 (fun i hi he => by omega)).trans hc12 (fun i hi he => by omega)
    have n1 : w8.heap.size ≠ w.heap.size := by omega
    have n2 : w1.heap.size ≠ w.heap.size := by omega
    generalize w8.heap.size = sb at hT n1 ⊢
    generalize hr : (restQ q).1 = r at hT
    have cellS : ∀ {w'} {c : CmD} {p : RwP}, TS w12 w' w.heap.size sb w1.heap.size c p q csB → w'.cell? ⟨sb, 1, none⟩ = some (.int .i64 r.id) ∧ w'.cell? ⟨sb, 2, none⟩ = some (.int .i64 r.n) ∧ w'.cell? ⟨sb, 3, none⟩ = some (.bool r.good) ∧ w'.cell? ⟨sb, 4, none⟩ = some (.slice (restQ q).2.po r.prompt.length (restQ q).2.pc) ∧ w'.cell? ⟨sb, 5, none⟩ = some (.slice (restQ q).2.qo r.draws.length (restQ q).2.qc) ∧ w'.cell? ⟨sb, 6, none⟩ = some (.string (str r.data)) := fun h => by
      subst hr
      exact ⟨h.s.cell 1 rfl, h.s.cell 2 rfl, h.s.cell 3 rfl, h.s.cell 4 rfl, h.s.cell 5 rfl, h.s.cell 6 rfl⟩
    refine ⟨trivial, fun w' => TS w12 w' w.heap.size sb w1.heap.size (t1 q.1 r) pc q csB, ⟨_, (cellS hT).1, fun k => ⟨hT.a.ok 1 rfl, fun w13 e13 => hT.set n1 n2 e13 (by unfold t1; rw [if_pos (by simpa using k)]; rfl)⟩, fun k => ?_⟩, ?_⟩
    · have : t1 q.1 r = q.1 := by unfold t1; rw [if_neg (by simpa using k)]
      rw [this]; exact hT
    rintro jk w14 hT
    refine ⟨fun w' => TS w12 w' w.heap.size sb w1.heap.size (t2 (t1 q.1 r) r) pc q csB, ⟨_, (cellS hT).2.1, fun k => ⟨hT.a.ok 2 rfl, fun w13 e13 => hT.set n1 n2 e13 (by unfold t2; rw [if_pos (by simpa using k)]; rfl)⟩, fun k => ?_⟩, ?_⟩
    · have : t2 (t1 q.1 r) r = t1 q.1 r := by unfold t2; rw [if_neg (by simpa using k)]
      rw [this]; exact hT
    rintro jk w16 hT
    refine ⟨fun w' => TS w12 w' w.heap.size sb w1.heap.size (t3 (t2 (t1 q.1 r) r) r) pc q csB, ⟨_, (cellS hT).2.2.1, fun k => ⟨hT.a.ok 3 rfl, fun w13 e13 => hT.set n1 n2 e13 (by unfold t3; rw [if_pos k]; rfl)⟩, fun k => ?_⟩, ?_⟩
    · have : t3 (t2 (t1 q.1 r) r) r = t2 (t1 q.1 r) r := by unfold t3; rw [if_neg (by rw [k]; decide)]
      rw [this]; exact hT
    rintro jk w18 hT
    generalize hc3 : t3 (t2 (t1 q.1 r) r) r = c3 at hT ⊢
    have hp3 : c3.prompt = q.1.prompt ∧ c3.draws = q.1.draws ∧ c3.data = q.1.data := by subst hc3; exact ⟨rfl, rfl, rfl⟩
    have keep12 : ∀ {w'}, Ch (· = w.heap.size) w12 w' → CmR w' (q.1, pc) (fun i => w1.heap.size < i) := fun hc => hq12.keep hc (fun i _ hi he => by omega)
    refine ⟨fun w' => ∃ p', TS w12 w' w.heap.size sb w1.heap.size (t4 c3 r) p' q csB ∧ p'.qo = pc.qo ∧ p'.qc = pc.qc ∧ (∀ w', Ch (· = w.heap.size) w12 w' → Rd w' p'.po ((t4 c3 r).prompt.map (.int .i64)) (fun i => w1.heap.size < i)) ∧ (t4 c3 r).prompt.length ≤ 1000, ⟨_, _, _, (cellS hT).2.2.2.1, fun k => ⟨hT.a.ok 4 rfl, fun w13 e13 => ?_⟩, fun k => ?_⟩, ?_⟩
    · have k := of_decide_eq_true k
      have e4 : t4 c3 r = { c3 with prompt := [] } := by unfold t4; rw [if_pos (by omega)]
      rw [e4]
      exact ⟨⟨none, 0, pc.qo, pc.qc⟩, hT.set n1 n2 e13 rfl, rfl, rfl, fun _ _ => Rd.nil _ _ _, Nat.zero_le _⟩
    · have k := of_decide_eq_false k
      have e4 : t4 c3 r = c3 := by unfold t4; rw [if_neg (by omega)]
      rw [e4]
      exact ⟨pc, hT, rfl, rfl, fun w' hc => by rw [hp3.1]; exact (keep12 hc).1, by rw [hp3.1]; exact hq12.2.2.1⟩
    rintro jk w20 ⟨p4, hT, hq1, hq2, hR4, hl4⟩
    have hd4 : (t4 c3 r).draws = q.1.draws := hp3.2.1
    refine ⟨fun w' => ∃ p', TS w12 w' w.heap.size sb w1.heap.size (t5 (t4 c3 r) r) p' q csB ∧ (∀ w', Ch (· = w.heap.size) w12 w' → Rd w' p'.po ((t5 (t4 c3 r) r).prompt.map (.int .i64)) (fun i => w1.heap.size < i)) ∧ (∀ w', Ch (· = w.heap.size) w12 w' → Rd w' p'.qo ((t5 (t4 c3 r) r).draws.map (.int .i64)) (fun i => w1.heap.size < i)) ∧ (t5 (t4 c3 r) r).prompt.length ≤ 1000 ∧ (t5 (t4 c3 r) r).draws.length ≤ 1000, ⟨_, _, _, (cellS hT).2.2.2.2.1, fun k => ⟨hT.a.ok 5 rfl, fun w13 e13 => ?_⟩, fun k => ?_⟩, ?_⟩
    · have k := of_decide_eq_true k
      have e5 : t5 (t4 c3 r) r = { t4 c3 r with draws := [] } := by unfold t5; rw [if_pos (by omega)]
      rw [e5]
      exact ⟨⟨p4.po, p4.pc, none, 0⟩, hT.set n1 n2 e13 rfl, hR4, fun _ _ => Rd.nil _ _ _, hl4, Nat.zero_le _⟩
    · have k := of_decide_eq_false k
      have e5 : t5 (t4 c3 r) r = t4 c3 r := by unfold t5; rw [if_neg (by omega)]
      rw [e5]
      exact ⟨p4, hT, hR4, fun w' hc => by rw [hd4, hq1]; exact (keep12 hc).2.1, hl4, by rw [hd4]; exact hq12.2.2.2.1⟩
    rintro jk w22 ⟨p5, hT, hR5, hS5, hl5, hm5⟩
    have hdt : (t5 (t4 c3 r) r).data = q.1.data := hp3.2.2
    refine ⟨fun w' => TS w12 w' w.heap.size sb w1.heap.size (t6 (t5 (t4 c3 r) r) r) p5 q csB, ⟨_, (cellS hT).2.2.2.2.2, fun k => ⟨hT.a.ok 6 rfl, fun w13 e13 => hT.set n1 n2 e13 (by
      rw [emp_beq] at k
      unfold t6; rw [if_neg (by simpa using k)]; rfl)⟩, fun k => ?_⟩, ?_⟩
    · rw [emp_beq] at k
      have : t6 (t5 (t4 c3 r) r) r = t5 (t4 c3 r) r := by unfold t6; rw [if_pos (by simpa using k)]
      rw [this]; exact hT
    rintro jk w24 hT
    have hfin : t6 (t5 (t4 c3 r) r) r = trimC q.1 := by
      subst hc3; subst hr
      rw [restQ_fst]; exact trim_steps q.1 hbk
    have hd6 : (t6 (t5 (t4 c3 r) r) r).data.length ≤ 100000 := by
      have h5 := hq12.2.2.2.2
      unfold t6
      dsimp only
      split
      · rw [hdt]; exact h5
      · exact Nat.zero_le _
    have hC6 : CmR w24 (t6 (t5 (t4 c3 r) r) r, p5) (fun i => w1.heap.size < i) := ⟨hR5 _ hT.c, hS5 _ hT.c, hl5, hm5, hd6⟩
    rw [hfin] at hT hC6
    refine ⟨_, _, _, _, _, _, _, _, _, _, _, ⟨hT.a.cell 0 rfl, hT.a.cell 1 rfl, hT.a.cell 2 rfl, hT.a.cell 3 rfl, hT.a.cell 4 rfl, hT.a.cell 5 rfl, hT.a.cell 6 rfl⟩, ⟨hT.r.ok 0 rfl, hT.r.ok 1 rfl, hT.r.ok 2 rfl, hT.r.ok 3 rfl, hT.r.ok 4 rfl, hT.r.ok 5 rfl, hT.r.ok 6 rfl⟩, fun w25 e25 => ?_⟩
    obtain ⟨hB25, hc25⟩ := cmOver (trimC q.1, p5) hT.r rfl e25
    refine ⟨_, _, _, _, _, _, _, _, _, _, _, ⟨hB25.cell 0 rfl, hB25.cell 1 rfl, hB25.cell 2 rfl, hB25.cell 3 rfl, hB25.cell 4 rfl, hB25.cell 5 rfl, hB25.cell 6 rfl⟩, p5, rfl, (hC6.keep hc25 (fun i _ hi he => by omega)).mono' (fun i hi hk => ⟨by omega, hi⟩), (hcW.trans hT.c (fun i hi he => by omega)).trans hc25 (fun i hi he => by omega)⟩
end
end Go.Proofs.Ytamkffjmggbekaa.Ord
