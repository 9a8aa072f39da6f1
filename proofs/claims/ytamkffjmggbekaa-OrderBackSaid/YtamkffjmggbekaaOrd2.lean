/- For every command: what a reader reads of it, and what a cleaner leaves; the conditions stand in each theorem. -/
import Derived.Test.YtamkffjmggbekaaOrd1
set_option linter.unusedVariables false
set_option linter.unusedSimpArgs false
namespace Go.Proofs.Ytamkffjmggbekaa.Ord
open Go Go.Proofs Go.Proofs.Ytamkffjmggbekaa.V Go.Proofs.Ytamkffjmggbekaa.Vc Go.Proofs.Ytamkffjmggbekaa.Pen Go.RowKit

theorem numE_le {st : St} {most : Int} (h : 0 ≤ most) : ((numE st most).1 : Int) ≤ most := by
  unfold numE
  split
  · exact h
  · split
    · exact h
    · dsimp only; omega
def maxN : Int := 4294967295
def numsE : Nat → St → List Int × St
  | 0, st => ([], st)
  | k + 1, st => ((((numE st maxN).1 : Int) - half) :: (numsE k (numE st maxN).2).1, (numsE k (numE st maxN).2).2)
theorem numsE_len : ∀ (k : Nat) (st : St), (numsE k st).1.length = k
  | 0, _ => rfl
  | k + 1, st => by rw [numsE, List.length_cons, numsE_len k]
def rowE (st : St) : List Int × St := numsE (numE st 32).1 (numE st 32).2
theorem rowE_len (st : St) : (rowE st).1.length ≤ 32 := by
  unfold rowE
  rw [numsE_len]
  have := numE_le (st := st) (most := 32) (by omega)
  omega
theorem takeE_len (st : St) (n : Nat) : ((takeE st n).1.getD []).length ≤ n := by
  unfold takeE
  split
  · simp
  · simp only [Option.getD_some, List.length_take]; omega
theorem textE_len (st : St) : (textE st 1024).1.length ≤ 1024 := by
  unfold textE
  have h1 := takeE_len (numE st 1024).2 (numE st 1024).1
  have := numE_le (st := st) (most := 1024) (by omega)
  dsimp only
  omega
abbrev RSt := CmD × St × Bool
def readF (x : RSt) : Fld → RSt
  | .id => ({ x.1 with id := ((numE x.2.1 maxN).1 : Int) - half }, (numE x.2.1 maxN).2, x.2.2)
  | .n => ({ x.1 with n := ((numE x.2.1 maxN).1 : Int) - half }, (numE x.2.1 maxN).2, x.2.2)
  | .good => ({ x.1 with good := (byteE x.2.1).1 == 1 }, (byteE x.2.1).2, x.2.2 || decide ((byteE x.2.1).1.toNat > 1))
  | .prompt => ({ x.1 with prompt := (rowE x.2.1).1 }, (rowE x.2.1).2, x.2.2)
  | .draws => ({ x.1 with draws := (rowE x.2.1).1 }, (rowE x.2.1).2, x.2.2)
  | .data => ({ x.1 with data := (textE x.2.1 1024).1 }, (textE x.2.1 1024).2, x.2.2)
def cm0 (k : Int) : CmD := ⟨k, 0, 0, false, [], [], []⟩
def p0 : RwP := ⟨none, 0, none, 0⟩
def visE (k : Int) (st : St) : RSt := (fldsK k).foldl readF (cm0 k, st, false)
theorem set_same {α : Type} : ∀ {l : List α} {i : Nat} {v : α}, l[i]? = some v → l.set i v = l
  | [], i, v, h => by simp at h
  | x :: r, 0, v, h => by simp at h; subst h; rfl
  | x :: r, i + 1, v, h => by rw [List.set_cons_succ, set_same (l := r) (by simpa using h)]
section
variable {w : World} {e rb cb i T T' : Nat} {st : St} {wr : Bool} {cs : List Value} {u : Value}
theorem rnum_spec (hE : EyeR w e st) (hr : Blk w rb [.pointer (some ⟨e, 0, none⟩), .bool wr] T) (hC : Blk w cb cs T') (hi : cs[i]? = some u) (n1 : e ≠ rb) (n2 : e ≠ cb) (n3 : rb ≠ cb) :
    Calls Try.prog i_order_reader_num #[.pointer (some ⟨rb, 0, none⟩), .pointer (some ⟨cb, i, none⟩)] w (Ret fun v w' => v = .tuple #[] ∧ EyeR w' e (numE st maxN).2 ∧ Blk w' rb [.pointer (some ⟨e, 0, none⟩), .bool wr] T ∧ Blk w' cb (cs.set i (.int .i64 (((numE st maxN).1 : Int) - half))) T' ∧ Ch (fun j => j = e ∨ j = cb) w w') := by
  refine order_reader_num.calls _ _ ?_
  unfold order_reader_num.vc
  refine ⟨_, hr.cell 0 rfl, ?_⟩
  refine step_call (EyeNum_spec hE maxN) ?_
  rintro v w1 ⟨rfl, hE1, hc1⟩
  have hC1 := hC.keep hc1 (fun h => n2 h.symm)
  have hr1 := hr.keep hc1 (fun h => n1 h.symm)
  refine ⟨_, rfl, hC1.ok i hi, fun w2 e2 => ?_⟩
  have hle := numE_le (st := st) (most := maxN) (by decide)
  have hw : IntKind.i64.wrap (((numE st maxN).1 : Int) - 2147483648) = ((numE st maxN).1 : Int) - half := by unfold maxN at hle ⊢; exact wrap_id (by omega) (by omega)
  rw [hw] at e2
  have hc2 : Ch (· = cb) w1 w2 := Ch.set e2 rfl
  exact ⟨rfl, Blk.keep hE1 hc2 n2, hr1.keep hc2 n3, hC1.set e2, (hc1.mono (fun j _ hj => .inl hj)).same (hc2.mono (fun j _ hj => .inr hj))⟩
theorem rtext_spec (hE : EyeR w e st) (hr : Blk w rb [.pointer (some ⟨e, 0, none⟩), .bool wr] T) (hC : Blk w cb cs T') (hi : cs[i]? = some u) (n1 : e ≠ rb) (n2 : e ≠ cb) (n3 : rb ≠ cb) :
    Calls Try.prog i_order_reader_text #[.pointer (some ⟨rb, 0, none⟩), .pointer (some ⟨cb, i, none⟩)] w (Ret fun v w' => v = .tuple #[] ∧ EyeR w' e (textE st 1024).2 ∧ Blk w' rb [.pointer (some ⟨e, 0, none⟩), .bool wr] T ∧ Blk w' cb (cs.set i (.string (str (textE st 1024).1))) T' ∧ Ch (fun j => j = e ∨ j = cb) w w') := by
  refine order_reader_text.calls _ _ ?_
  unfold order_reader_text.vc
  refine ⟨_, hr.cell 0 rfl, ?_⟩
  refine step_call (EyeText_spec hE 1024) ?_
  rintro v w1 ⟨rfl, hE1, hc1⟩
  have hC1 := hC.keep hc1 (fun h => n2 h.symm)
  have hr1 := hr.keep hc1 (fun h => n1 h.symm)
  refine ⟨_, rfl, hC1.ok i hi, fun w2 e2 => ?_⟩
  have hc2 : Ch (· = cb) w1 w2 := Ch.set e2 rfl
  exact ⟨rfl, Blk.keep hE1 hc2 n2, hr1.keep hc2 n3, hC1.set e2, (hc1.mono (fun j _ hj => .inl hj)).same (hc2.mono (fun j _ hj => .inr hj))⟩
theorem rflag_spec (hE : EyeR w e st) (hr : Blk w rb [.pointer (some ⟨e, 0, none⟩), .bool wr] T) (hC : Blk w cb cs T') (hi : cs[i]? = some u) (n1 : e ≠ rb) (n2 : e ≠ cb) (n3 : rb ≠ cb) :
    Calls Try.prog i_order_reader_flag #[.pointer (some ⟨rb, 0, none⟩), .pointer (some ⟨cb, i, none⟩)] w (Ret fun v w' => v = .tuple #[] ∧ EyeR w' e (byteE st).2 ∧ Blk w' rb [.pointer (some ⟨e, 0, none⟩), .bool (wr || decide ((byteE st).1.toNat > 1))] T ∧ Blk w' cb (cs.set i (.bool ((byteE st).1 == 1))) T' ∧ Ch (fun j => j = e ∨ j = cb ∨ j = rb) w w') := by
  refine order_reader_flag.calls _ _ ?_
  unfold order_reader_flag.vc
  refine ⟨_, hr.cell 0 rfl, ?_⟩
  refine step_call (EyeByte_spec hE) ?_
  rintro v w1 ⟨rfl, hE1, hc1⟩
  have hC1 := hC.keep hc1 (fun h => n2 h.symm)
  have hr1 := hr.keep hc1 (fun h => n1 h.symm)
  refine ⟨_, rfl, hC1.ok i hi, fun w2 e2 => ?_⟩
  have hb : (((byteE st).1.toNat : Int) == 1) = ((byteE st).1 == 1) := by
    rw [Bool.eq_iff_iff, beq_iff_eq, beq_iff_eq, ← UInt8.toNat_inj]
    show ((byteE st).1.toNat : Int) = 1 ↔ (byteE st).1.toNat = 1
    omega
  rw [hb] at e2
  have hc2 : Ch (· = cb) w1 w2 := Ch.set e2 rfl
  have hr2 := hr1.keep hc2 n3
  have hE2 : EyeR w2 e _ := Blk.keep hE1 hc2 n2
  have hC2 := hC1.set e2
  have hc12 : Ch (fun j => j = e ∨ j = cb ∨ j = rb) w w2 := (hc1.mono (fun j _ hj => .inl hj)).same (hc2.mono (fun j _ hj => .inr (.inl hj)))
  have hd : decide (((byteE st).1.toNat : Int) > (1 : Int)) = decide ((byteE st).1.toNat > 1) := decide_eq_decide.2 (by omega)
  have fin : ∀ {w3 : World} {b : Bool}, w3 = w2.setCell ⟨rb, 1, none⟩ (.bool b) → b = (wr || decide ((byteE st).1.toNat > 1)) → Value.tuple #[] = .tuple #[] ∧ EyeR w3 e (byteE st).2 ∧ Blk w3 rb [.pointer (some ⟨e, 0, none⟩), .bool (wr || decide ((byteE st).1.toNat > 1))] T ∧ Blk w3 cb (cs.set i (.bool ((byteE st).1 == 1))) T' ∧ Ch (fun j => j = e ∨ j = cb ∨ j = rb) w w3 := fun {w3 b} e3 hb => by
    subst hb
    have hc3 : Ch (· = rb) w2 w3 := Ch.set e3 rfl
    exact ⟨rfl, Blk.keep hE2 hc3 n1, hr2.set e3, hC2.keep hc3 (fun h => n3 h.symm), hc12.same (hc3.mono (fun j _ hj => .inr (.inr hj)))⟩
  refine ⟨_, hr2.cell 1 rfl, fun hw => ⟨hr2.ok 1 rfl, fun w3 e3 => fin e3 (by rw [hw]; rfl)⟩, fun hw => ⟨hr2.ok 1 rfl, fun w3 e3 => fin e3 (by rw [hw, hd]; rfl)⟩⟩
theorem rrow_spec (hE : EyeR w e st) (hr : Blk w rb [.pointer (some ⟨e, 0, none⟩), .bool wr] T) (hC : Blk w cb cs T') (hi : cs[i]? = some (.slice none 0 0)) (n1 : e ≠ rb) (n2 : e ≠ cb) (n3 : rb ≠ cb) :
    Calls Try.prog i_order_reader_row #[.pointer (some ⟨rb, 0, none⟩), .pointer (some ⟨cb, i, none⟩)] w (Ret fun v w' => ∃ (o : Option Addr) (c : Nat), v = .tuple #[] ∧ EyeR w' e (rowE st).2 ∧ Blk w' rb [.pointer (some ⟨e, 0, none⟩), .bool wr] T ∧ Blk w' cb (cs.set i (.slice o (rowE st).1.length c)) T' ∧
      Rd w' o ((rowE st).1.map (.int .i64)) (New w w') ∧ Ch (fun j => j = e ∨ j = cb) w w') := by
  refine order_reader_row.calls _ _ ?_
  unfold order_reader_row.vc
  refine ⟨_, hr.cell 0 rfl, ?_⟩
  refine step_call (EyeNum_spec hE 32) ?_
  rintro v w1 ⟨rfl, hE1, hc1⟩
  have hC1 := hC.keep hc1 (fun h => n2 h.symm)
  have hr1 := hr.keep hc1 (fun h => n1 h.symm)
  have hle := numE_le (st := st) (most := 32) (by omega)
  have hR : rowE st = numsE (numE st 32).1 (numE st 32).2 := rfl
  rw [hR]
  have hil := (List.getElem?_eq_some_iff.1 hi).1
  have hel := Blk.lt hE
  have hrl := hr.lt
  have hcl := hC.lt
  generalize (numE st 32).1 = n at hle ⊢
  generalize (numE st 32).2 = s1 at hE1 ⊢
  refine ⟨_, rfl, fun k f w' => ∃ (m : Nat) (acc : List Int) (s' : St) (o : Option Addr) (c : Nat) (FI : Nat → Prop), k = m ∧ m ≤ n ∧ f = n - m ∧ acc.length = m ∧ numsE n s1 = (acc ++ (numsE (n - m) s').1, (numsE (n - m) s').2) ∧ EyeR w' e s' ∧ Blk w' rb [.pointer (some ⟨e, 0, none⟩), .bool wr] T ∧
    Blk w' cb (cs.set i (.slice o m c)) T' ∧ Own w' t_int 1 o m c (acc.map (.int .i64)) FI ∧ (∀ j, FI j → New w w' j) ∧ Ch (fun j => j = e ∨ j = cb) w w',
    ⟨_, 0, [], s1, none, 0, Non, rfl, Nat.zero_le _, rfl, rfl, rfl, hE1, hr1, by rw [set_same hi]; exact hC1, Own.nil _ _ _ _, fun j hj => hj.elim, hc1.mono (fun j _ hj => .inl hj)⟩, ?_⟩
  clear hE1 hr1 hC1 hc1
  rintro jk k f w2 ⟨m, acc, s', o, c, FI, rfl, hm, rfl, hal, hns, hE2, hr2, hC2, hO2, hF2, hc2⟩
  refine ⟨fun hlt w3 e3 => ?_, fun hge => ?_⟩
  · have hlt : m < n := by have := of_decide_eq_true hlt; omega
    have hs2 := hc2.size
    have hB3 := Blk.new e3
    refine ⟨hB3.ok 0 rfl, fun w4 e4 => ?_⟩
    have hB4 := hB3.set e4
    have hc24 : Ch Non w2 w4 := (Ch.alloc (F := Non) e3).trans (Ch.set (F := (· = w2.heap.size)) e4 rfl) (fun i hi he => by omega)
    have s4 : w2.heap.size < w4.heap.size := hB4.lt
    have hE4 : EyeR w4 e s' := Blk.keepN hE2 hc24
    refine step_call (rnum_spec (i := 0) hE4 (hr2.keepN hc24) hB4 (by rfl) n1 (by omega) (by omega)) ?_
    rintro v w5 ⟨rfl, hE5, hr5, hB5, hc5⟩
    have hc45 : Ch (fun j => j = e ∨ j = w2.heap.size) w4 w5 := hc5
    have hC5 := (hC2.keepN hc24).keep hc45 (fun h => h.elim (fun h => n2 h.symm) (fun h => by omega))
    have hO5 := (hO2.keepN hc24).keep hc45 (fun j hj hF h => by have := hF2 j hF; have h1 := this.1; have h2 := this.2; rcases h with h | h <;> omega)
    have hFn : ¬ FI w2.heap.size := fun h => by have := (hF2 _ h).2; omega
    have hFc : ¬ FI cb := fun h => by have := (hF2 _ h).1; omega
    have hFe : ¬ FI e := fun h => by have := (hF2 _ h).1; omega
    have hFr : ¬ FI rb := fun h => by have := (hF2 _ h).1; omega
    have s5 := hc5.size
    have hil2 : (cs.set i (.slice o m c))[i]? = some (.slice o m c) := by rw [List.getElem?_set_self hil]
    refine ⟨rfl, fun w' => Ch FI w5 w', fun w6 e6 => ⟨Ch.drew e6, _, _, _, fun w' hc => (hC5.keep hc hFc).cell i hil2, _, fun w' hc => (hB5.keep hc hFn).cell 0 rfl, fun w9 e9 => ?_⟩⟩
    have hc6 : Ch Non w5 w6 := Ch.drew e6
    obtain ⟨o', c', w10, hr10, hO10, hc10⟩ := Own.push el_S_int (hO5.keepN hc6) t_S_int e9 rfl rfl (by unfold maxLen; omega) (by omega)
    have hc510 : Ch FI w5 w10 := hc6.any.same hc10
    refine ⟨(hc6.any (F := FI)).same (Ch.alloc e9), o', _, c', w10, hr10, hc510, ?_, ?_⟩
    · exact (hC5.keep hc510 hFc).ok i hil2
    · intro w11 e11
      have hC10 := hC5.keep hc510 hFc
      have hC11 := hC10.set e11
      have hc11 : Ch (· = cb) w10 w11 := Ch.set e11 rfl
      have s10 := hc10.size
      have s6 : w5.heap.size = w6.heap.size := by subst e6; rfl
      have s11 := hc11.size
      rw [List.set_set] at hC11
      have hfin : Ch (fun j => j = e ∨ j = cb) w w11 := by
        have h1 : Ch (fun j => j = e ∨ j = cb) w w5 := (hc2.andN hc24).trans hc45 (fun j hj h => by rcases h with h | h; exact .inl h; omega)
        exact (h1.trans hc510 (fun j hj h => by have := (hF2 j h).1; omega)).same (hc11.mono (fun j _ hj => .inr hj))
      have hx : ∀ j, Ext FI w6 w10 j → New w w10 j := fun j hj => by
        rcases hj with hj | hj
        · exact ⟨(hF2 j hj).1, by have := (hF2 j hj).2; omega⟩
        · exact ⟨by have := hj.1; omega, hj.2⟩
      have hnn : n - m = (n - (m + 1)) + 1 := by omega
      refine ⟨n - (m + 1), by omega, m + 1, acc ++ [((numE s' maxN).1 : Int) - half], (numE s' maxN).2, o', c', Ext FI w6 w10, by rw [wrap_id (by omega) (by omega)]; rfl, hlt, rfl, by simp [hal], ?_, ?_, ?_, hC11, ?_, fun j hj => ⟨(hx j hj).1, by have := (hx j hj).2; omega⟩, hfin⟩
      · rw [hns, hnn, numsE, List.append_assoc]; rfl
      · exact Blk.keep (Blk.keep hE5 hc510 hFe) hc11 n2
      · exact (hr5.keep hc510 hFr).keep hc11 n3
      · rw [List.map_append]
        exact hO10.keep hc11 (fun j _ hj he => by have := (hx j hj).1; omega)
  · have hmn : m = n := by have := of_decide_eq_false hge; omega
    subst hmn
    rw [Nat.sub_self] at hns
    have hns : numsE m s1 = (acc, s') := by rw [hns]; simp [numsE]
    rw [hns]
    dsimp only
    rw [hal]
    exact ⟨o, c, rfl, hE2, hr2, hC2, hO2.rd.mono (fun j _ hj => hF2 j hj), hc2⟩
end
/-- A reader, its eye, and the command that it fills. -/
structure RS (W w : World) (e rb cb : Nat) (x : RSt) (p : RwP) : Prop where
  ey : EyeR w e x.2.1
  rd : Blk w rb [.pointer (some ⟨e, 0, none⟩), .bool x.2.2] t_order_reader
  cm : Blk w cb (cmE (x.1, p)) t_order_Command
  ro : CmR w (x.1, p) (fun j => W.heap.size ≤ j ∧ j ≠ e ∧ j ≠ rb ∧ j ≠ cb)
  n1 : e ≠ rb
  n2 : e ≠ cb
  n3 : rb ≠ cb
  ge : W.heap.size ≤ e ∧ W.heap.size ≤ rb ∧ W.heap.size ≤ cb
  c : Ch Non W w
section
variable {W w w' : World} {e rb cb : Nat} {x : RSt} {p : RwP} {G : Nat → Prop}
theorem RS.keepN (h : RS W w e rb cb x p) (hc : Ch Non w w') : RS W w' e rb cb x p :=
  ⟨Blk.keepN h.ey hc, h.rd.keepN hc, h.cm.keepN hc, h.ro.keepN hc, h.n1, h.n2, h.n3, h.ge, h.c.andN hc⟩
theorem RS.ch (h : RS W w e rb cb x p) (hc : Ch G w w') (hG : ∀ j, G j → j = e ∨ j = cb ∨ j = rb) : Ch Non W w' :=
  h.c.trans hc (fun j hj hg => by obtain ⟨g1, g2, g3⟩ := h.ge; rcases hG j hg with h | h | h <;> omega)
theorem RS.far (h : RS W w e rb cb x p) (hG : ∀ j, G j → j = e ∨ j = cb ∨ j = rb) : ∀ j, j < w.heap.size → (W.heap.size ≤ j ∧ j ≠ e ∧ j ≠ rb ∧ j ≠ cb) → ¬ G j := fun j _ hj hg => by
  rcases hG j hg with h | h | h
  · exact hj.2.1 h
  · exact hj.2.2.2 h
  · exact hj.2.2.1 h
theorem RS.rid (h : RS W w e rb cb x p) : Calls Try.prog i_order_reader_num #[.pointer (some ⟨rb, 0, none⟩), .pointer (some ⟨cb, 1, none⟩)] w (Ret fun v w' => v = .tuple #[] ∧ RS W w' e rb cb (readF x .id) p) := by
  refine step_call (rnum_spec (i := 1) h.ey h.rd h.cm rfl h.n1 h.n2 h.n3) ?_
  rintro v w' ⟨rfl, hE, hr, hC, hc⟩
  have hG : ∀ j, (j = e ∨ j = cb) → j = e ∨ j = cb ∨ j = rb := fun j hj => hj.imp id .inl
  exact ⟨rfl, hE, hr, hC, h.ro.keep hc (h.far hG), h.n1, h.n2, h.n3, h.ge, h.ch hc hG⟩
theorem RS.rn (h : RS W w e rb cb x p) : Calls Try.prog i_order_reader_num #[.pointer (some ⟨rb, 0, none⟩), .pointer (some ⟨cb, 2, none⟩)] w (Ret fun v w' => v = .tuple #[] ∧ RS W w' e rb cb (readF x .n) p) := by
  refine step_call (rnum_spec (i := 2) h.ey h.rd h.cm rfl h.n1 h.n2 h.n3) ?_
  rintro v w' ⟨rfl, hE, hr, hC, hc⟩
  have hG : ∀ j, (j = e ∨ j = cb) → j = e ∨ j = cb ∨ j = rb := fun j hj => hj.imp id .inl
  exact ⟨rfl, hE, hr, hC, h.ro.keep hc (h.far hG), h.n1, h.n2, h.n3, h.ge, h.ch hc hG⟩
theorem RS.rgood (h : RS W w e rb cb x p) : Calls Try.prog i_order_reader_flag #[.pointer (some ⟨rb, 0, none⟩), .pointer (some ⟨cb, 3, none⟩)] w (Ret fun v w' => v = .tuple #[] ∧ RS W w' e rb cb (readF x .good) p) := by
  refine step_call (rflag_spec (i := 3) h.ey h.rd h.cm rfl h.n1 h.n2 h.n3) ?_
  rintro v w' ⟨rfl, hE, hr, hC, hc⟩
  have hG : ∀ j, (j = e ∨ j = cb ∨ j = rb) → j = e ∨ j = cb ∨ j = rb := fun j hj => hj
  exact ⟨rfl, hE, hr, hC, h.ro.keep hc (h.far hG), h.n1, h.n2, h.n3, h.ge, h.ch hc hG⟩
theorem RS.rdata (h : RS W w e rb cb x p) : Calls Try.prog i_order_reader_text #[.pointer (some ⟨rb, 0, none⟩), .pointer (some ⟨cb, 6, none⟩)] w (Ret fun v w' => v = .tuple #[] ∧ RS W w' e rb cb (readF x .data) p) := by
  refine step_call (rtext_spec (i := 6) h.ey h.rd h.cm rfl h.n1 h.n2 h.n3) ?_
  rintro v w' ⟨rfl, hE, hr, hC, hc⟩
  have hG : ∀ j, (j = e ∨ j = cb) → j = e ∨ j = cb ∨ j = rb := fun j hj => hj.imp id .inl
  have hro := h.ro.keep hc (h.far hG)
  exact ⟨rfl, hE, hr, hC, ⟨hro.1, hro.2.1, hro.2.2.1, hro.2.2.2.1, by have := textE_len x.2.1; show (textE x.2.1 1024).1.length ≤ 100000; omega⟩, h.n1, h.n2, h.n3, h.ge, h.ch hc hG⟩
theorem RS.rprompt (h : RS W w e rb cb x p) (hx : x.1.prompt = []) (hp : p.po = none ∧ p.pc = 0) : Calls Try.prog i_order_reader_row #[.pointer (some ⟨rb, 0, none⟩), .pointer (some ⟨cb, 4, none⟩)] w (Ret fun v w' => ∃ o c, v = .tuple #[] ∧ RS W w' e rb cb (readF x .prompt) ⟨o, c, p.qo, p.qc⟩) := by
  refine step_call (rrow_spec (i := 4) h.ey h.rd h.cm (by show some (Value.slice p.po x.1.prompt.length p.pc) = _; rw [hx, hp.1, hp.2]; rfl) h.n1 h.n2 h.n3) ?_
  rintro v w' ⟨o, c, rfl, hE, hr, hC, hR, hc⟩
  have hG : ∀ j, (j = e ∨ j = cb) → j = e ∨ j = cb ∨ j = rb := fun j hj => hj.imp id .inl
  have hro := h.ro.keep hc (h.far hG)
  have hel := Blk.lt h.ey
  have hrl := h.rd.lt
  have hcl := h.cm.lt
  have hW := h.c.size
  exact ⟨o, c, rfl, hE, hr, hC, ⟨hR.mono (fun j _ hj => ⟨by have := hj.1; omega, by have := hj.1; omega, by have := hj.1; omega, by have := hj.1; omega⟩), hro.2.1, by have := rowE_len x.2.1; show (rowE x.2.1).1.length ≤ 1000; omega, hro.2.2.2⟩, h.n1, h.n2, h.n3, h.ge, h.ch hc hG⟩
theorem RS.rdraws (h : RS W w e rb cb x p) (hx : x.1.draws = []) (hp : p.qo = none ∧ p.qc = 0) : Calls Try.prog i_order_reader_row #[.pointer (some ⟨rb, 0, none⟩), .pointer (some ⟨cb, 5, none⟩)] w (Ret fun v w' => ∃ o c, v = .tuple #[] ∧ RS W w' e rb cb (readF x .draws) ⟨p.po, p.pc, o, c⟩) := by
  refine step_call (rrow_spec (i := 5) h.ey h.rd h.cm (by show some (Value.slice p.qo x.1.draws.length p.qc) = _; rw [hx, hp.1, hp.2]; rfl) h.n1 h.n2 h.n3) ?_
  rintro v w' ⟨o, c, rfl, hE, hr, hC, hR, hc⟩
  have hG : ∀ j, (j = e ∨ j = cb) → j = e ∨ j = cb ∨ j = rb := fun j hj => hj.imp id .inl
  have hro := h.ro.keep hc (h.far hG)
  have hel := Blk.lt h.ey
  have hrl := h.rd.lt
  have hcl := h.cm.lt
  have hW := h.c.size
  exact ⟨o, c, rfl, hE, hr, hC, ⟨hro.1, hR.mono (fun j _ hj => ⟨by have := hj.1; omega, by have := hj.1; omega, by have := hj.1; omega, by have := hj.1; omega⟩), hro.2.2.1, by have := rowE_len x.2.1; show (rowE x.2.1).1.length ≤ 1000; omega, hro.2.2.2.2⟩, h.n1, h.n2, h.n3, h.ge, h.ch hc hG⟩
theorem visitR_spec {k : Int} {st : St} (h : RS W w e rb cb (cm0 k, st, false) p0) : Calls Try.prog i_order_Command_visit #[.pointer (some ⟨cb, 0, none⟩), .iface 137 (.pointer (some ⟨rb, 0, none⟩))] w (Ret fun v w' => v = .tuple #[] ∧ ∃ p, RS W w' e rb cb (visE k st) p) := by
  refine order_Command_visit.calls_r _ _ ?_
  unfold order_Command_visit.vc_r
  have hk0 : w.cell? ⟨cb, 0, none⟩ = some (.int .i64 k) := h.cm.cell 0 rfl
  have one : ∀ {w1 : World}, w1 = w.drew → RS W w1 e rb cb (cm0 k, st, false) p0 := fun e1 => h.keepN (Ch.drew e1)
  refine ⟨_, hk0, fun hk => ?_, fun k1 => ⟨fun hk => ⟨hk, ?_⟩, fun k2 => ⟨fun hk => ?_, fun k3 => ⟨fun hk => ⟨hk, ?_⟩, fun k5 => ⟨fun hk => ?_, fun k10 => ⟨fun hk => ?_, fun k6 => ⟨fun hk => ?_, fun k7 => ⟨fun hk => ?_, fun k8 => ?_⟩⟩⟩⟩⟩⟩⟩⟩
  · have hk := eq_of_beq hk
    subst hk
    refine ⟨fun w' => True, fun w1 e1 => ⟨trivial, step_call (one e1).rid ?_⟩⟩
    rintro v w2 ⟨rfl, h2⟩
    refine ⟨rfl, trivial, fun w' => True, fun w3 e3 => ⟨trivial, step_call (h2.keepN (Ch.drew e3)).rn ?_⟩⟩
    rintro v w4 ⟨rfl, h4⟩
    refine ⟨rfl, trivial, fun w' => True, fun w5 e5 => ⟨trivial, step_call ((h4.keepN (Ch.drew e5)).rprompt rfl ⟨rfl, rfl⟩) ?_⟩⟩
    rintro v w6 ⟨o, c, rfl, h6⟩
    refine ⟨rfl, trivial, fun w' => True, fun w7 e7 => ⟨trivial, step_call ((h6.keepN (Ch.drew e7)).rdraws rfl ⟨rfl, rfl⟩) ?_⟩⟩
    rintro v w8 ⟨o2, c2, rfl, h8⟩
    exact ⟨rfl, trivial, rfl, _, h8⟩
  · have hk := eq_of_beq hk
    subst hk
    refine ⟨fun w' => True, fun w1 e1 => ⟨trivial, step_call (one e1).rid ?_⟩⟩
    rintro v w2 ⟨rfl, h2⟩
    exact ⟨rfl, trivial, rfl, _, h2⟩
  · have hk := eq_of_beq hk
    subst hk
    refine ⟨fun w' => True, fun w1 e1 => ⟨trivial, step_call (one e1).rid ?_⟩⟩
    rintro v w2 ⟨rfl, h2⟩
    exact ⟨rfl, trivial, rfl, _, h2⟩
  · have hk := eq_of_beq hk
    subst hk
    refine ⟨fun w' => True, fun w1 e1 => ⟨trivial, step_call (one e1).rn ?_⟩⟩
    rintro v w2 ⟨rfl, h2⟩
    exact ⟨rfl, trivial, rfl, _, h2⟩
  · have hk := eq_of_beq hk
    subst hk
    refine ⟨fun w' => True, fun w1 e1 => ⟨trivial, step_call (one e1).rn ?_⟩⟩
    rintro v w2 ⟨rfl, h2⟩
    exact ⟨rfl, trivial, rfl, _, h2⟩
  · have hk := eq_of_beq hk
    subst hk
    refine ⟨fun w' => True, fun w1 e1 => ⟨trivial, step_call (one e1).rgood ?_⟩⟩
    rintro v w2 ⟨rfl, h2⟩
    exact ⟨rfl, trivial, rfl, _, h2⟩
  · have hk := eq_of_beq hk
    subst hk
    refine ⟨fun w' => True, fun w1 e1 => ⟨trivial, step_call (one e1).rdata ?_⟩⟩
    rintro v w2 ⟨rfl, h2⟩
    exact ⟨rfl, trivial, rfl, _, h2⟩
  · have hk := eq_of_beq hk
    subst hk
    refine ⟨fun w' => True, fun w1 e1 => ⟨trivial, step_call (one e1).rn ?_⟩⟩
    rintro v w2 ⟨rfl, h2⟩
    refine ⟨rfl, trivial, fun w' => True, fun w3 e3 => ⟨trivial, step_call (h2.keepN (Ch.drew e3)).rdata ?_⟩⟩
    rintro v w4 ⟨rfl, h4⟩
    exact ⟨rfl, trivial, rfl, _, h4⟩
  · have ne : ∀ {j : Int}, (k == j) = false → ¬ k = j := fun h he => by rw [he] at h; simp at h
    have hv : visE k st = (cm0 k, st, false) := by
      unfold visE fldsK
      have := ne k1; have := ne k2; have := ne k3; have := ne k5; have := ne k10; have := ne k6; have := ne k7; have := ne k8
      rw [if_neg (by omega), if_neg (by omega), if_neg (by omega), if_neg (by omega), if_neg (by omega), if_neg (by omega)]; rfl
    rw [hv]
    exact ⟨rfl, _, h⟩
end
/-! The cleaner. -/
def zeroF (q : CmD × RwP) : Fld → CmD × RwP
  | .id => ({ q.1 with id := 0 }, q.2)
  | .n => ({ q.1 with n := 0 }, q.2)
  | .good => ({ q.1 with good := false }, q.2)
  | .prompt => ({ q.1 with prompt := [] }, { q.2 with po := none, pc := 0 })
  | .draws => ({ q.1 with draws := [] }, { q.2 with qo := none, qc := 0 })
  | .data => ({ q.1 with data := [] }, q.2)
def restQ (q : CmD × RwP) : CmD × RwP := (fldsK q.1.kind).foldl zeroF q
section
variable {w w' : World} {cb T : Nat} {q : CmD × RwP}
theorem cid (hB : Blk w cb (cmE q) T) : Calls Try.prog i_order_cleaner_num #[.agg #[], .pointer (some ⟨cb, 1, none⟩)] w (Ret fun v w' => v = .tuple #[] ∧ Blk w' cb (cmE (zeroF q .id)) T ∧ Ch (· = cb) w w') := by
  refine order_cleaner_num.calls _ ?_
  unfold order_cleaner_num.vc
  intro w1 e1
  have hB1 := hB.alloc e1
  refine ⟨hB1.ok _ rfl, fun w2 e2 => ⟨rfl, hB1.set e2, (Ch.alloc e1).same (Ch.set e2 rfl)⟩⟩
theorem cn (hB : Blk w cb (cmE q) T) : Calls Try.prog i_order_cleaner_num #[.agg #[], .pointer (some ⟨cb, 2, none⟩)] w (Ret fun v w' => v = .tuple #[] ∧ Blk w' cb (cmE (zeroF q .n)) T ∧ Ch (· = cb) w w') := by
  refine order_cleaner_num.calls _ ?_
  unfold order_cleaner_num.vc
  intro w1 e1
  have hB1 := hB.alloc e1
  refine ⟨hB1.ok _ rfl, fun w2 e2 => ⟨rfl, hB1.set e2, (Ch.alloc e1).same (Ch.set e2 rfl)⟩⟩
theorem cgood (hB : Blk w cb (cmE q) T) : Calls Try.prog i_order_cleaner_flag #[.agg #[], .pointer (some ⟨cb, 3, none⟩)] w (Ret fun v w' => v = .tuple #[] ∧ Blk w' cb (cmE (zeroF q .good)) T ∧ Ch (· = cb) w w') := by
  refine order_cleaner_flag.calls _ ?_
  unfold order_cleaner_flag.vc
  intro w1 e1
  have hB1 := hB.alloc e1
  refine ⟨hB1.ok _ rfl, fun w2 e2 => ⟨rfl, hB1.set e2, (Ch.alloc e1).same (Ch.set e2 rfl)⟩⟩
theorem cprompt (hB : Blk w cb (cmE q) T) : Calls Try.prog i_order_cleaner_row #[.agg #[], .pointer (some ⟨cb, 4, none⟩)] w (Ret fun v w' => v = .tuple #[] ∧ Blk w' cb (cmE (zeroF q .prompt)) T ∧ Ch (· = cb) w w') := by
  refine order_cleaner_row.calls _ ?_
  unfold order_cleaner_row.vc
  intro w1 e1
  have hB1 := hB.alloc e1
  refine ⟨hB1.ok _ rfl, fun w2 e2 => ⟨rfl, hB1.set e2, (Ch.alloc e1).same (Ch.set e2 rfl)⟩⟩
theorem cdraws (hB : Blk w cb (cmE q) T) : Calls Try.prog i_order_cleaner_row #[.agg #[], .pointer (some ⟨cb, 5, none⟩)] w (Ret fun v w' => v = .tuple #[] ∧ Blk w' cb (cmE (zeroF q .draws)) T ∧ Ch (· = cb) w w') := by
  refine order_cleaner_row.calls _ ?_
  unfold order_cleaner_row.vc
  intro w1 e1
  have hB1 := hB.alloc e1
  refine ⟨hB1.ok _ rfl, fun w2 e2 => ⟨rfl, hB1.set e2, (Ch.alloc e1).same (Ch.set e2 rfl)⟩⟩
theorem cdata (hB : Blk w cb (cmE q) T) : Calls Try.prog i_order_cleaner_text #[.agg #[], .pointer (some ⟨cb, 6, none⟩)] w (Ret fun v w' => v = .tuple #[] ∧ Blk w' cb (cmE (zeroF q .data)) T ∧ Ch (· = cb) w w') := by
  refine order_cleaner_text.calls _ ?_
  unfold order_cleaner_text.vc
  intro w1 e1
  have hB1 := hB.alloc e1
  refine ⟨hB1.ok _ rfl, fun w2 e2 => ⟨rfl, hB1.set e2, (Ch.alloc e1).same (Ch.set e2 rfl)⟩⟩
theorem visitC_spec (hB : Blk w cb (cmE q) T) : Calls Try.prog i_order_Command_visit #[.pointer (some ⟨cb, 0, none⟩), .iface 171 (.agg #[])] w (Ret fun v w' => v = .tuple #[] ∧ Blk w' cb (cmE (restQ q)) T ∧ Ch (· = cb) w w') := by
  refine order_Command_visit.calls_c _ ?_
  unfold order_Command_visit.vc_c
  have dr : ∀ {w w1 : World}, w1 = w.drew → Ch (· = cb) w w1 := fun e1 => Ch.drew e1
  refine ⟨_, hB.cell 0 rfl, fun hk => ?_, fun k1 => ⟨fun hk => ⟨hk, ?_⟩, fun k2 => ⟨fun hk => ?_, fun k3 => ⟨fun hk => ⟨hk, ?_⟩, fun k5 => ⟨fun hk => ?_, fun k10 => ⟨fun hk => ?_, fun k6 => ⟨fun hk => ?_, fun k7 => ⟨fun hk => ?_, fun k8 => ?_⟩⟩⟩⟩⟩⟩⟩⟩
  · have hr : restQ q = zeroF (zeroF (zeroF (zeroF q .id) .n) .prompt) .draws := by unfold restQ; rw [eq_of_beq hk]; rfl
    rw [hr]
    refine ⟨fun w' => True, fun w1 e1 => ⟨trivial, step_call (cid (hB.drew e1)) ?_⟩⟩
    rintro v w2 ⟨rfl, h2, c2⟩
    refine ⟨rfl, trivial, fun w' => True, fun w3 e3 => ⟨trivial, step_call (cn (h2.drew e3)) ?_⟩⟩
    rintro v w4 ⟨rfl, h4, c4⟩
    refine ⟨rfl, trivial, fun w' => True, fun w5 e5 => ⟨trivial, step_call (cprompt (h4.drew e5)) ?_⟩⟩
    rintro v w6 ⟨rfl, h6, c6⟩
    refine ⟨rfl, trivial, fun w' => True, fun w7 e7 => ⟨trivial, step_call (cdraws (h6.drew e7)) ?_⟩⟩
    rintro v w8 ⟨rfl, h8, c8⟩
    exact ⟨rfl, trivial, rfl, h8, ((((((((dr e1).same c2).same (dr e3)).same c4).same (dr e5)).same c6).same (dr e7)).same c8)⟩
  · have hr : restQ q = zeroF q .id := by unfold restQ; rw [eq_of_beq hk]; rfl
    rw [hr]
    refine ⟨fun w' => True, fun w1 e1 => ⟨trivial, step_call (cid (hB.drew e1)) ?_⟩⟩
    rintro v w2 ⟨rfl, h2, c2⟩
    exact ⟨rfl, trivial, rfl, h2, (dr e1).same c2⟩
  · have hr : restQ q = zeroF q .id := by unfold restQ; rw [eq_of_beq hk]; rfl
    rw [hr]
    refine ⟨fun w' => True, fun w1 e1 => ⟨trivial, step_call (cid (hB.drew e1)) ?_⟩⟩
    rintro v w2 ⟨rfl, h2, c2⟩
    exact ⟨rfl, trivial, rfl, h2, (dr e1).same c2⟩
  · have hr : restQ q = zeroF q .n := by unfold restQ; rw [eq_of_beq hk]; rfl
    rw [hr]
    refine ⟨fun w' => True, fun w1 e1 => ⟨trivial, step_call (cn (hB.drew e1)) ?_⟩⟩
    rintro v w2 ⟨rfl, h2, c2⟩
    exact ⟨rfl, trivial, rfl, h2, (dr e1).same c2⟩
  · have hr : restQ q = zeroF q .n := by unfold restQ; rw [eq_of_beq hk]; rfl
    rw [hr]
    refine ⟨fun w' => True, fun w1 e1 => ⟨trivial, step_call (cn (hB.drew e1)) ?_⟩⟩
    rintro v w2 ⟨rfl, h2, c2⟩
    exact ⟨rfl, trivial, rfl, h2, (dr e1).same c2⟩
  · have hr : restQ q = zeroF q .good := by unfold restQ; rw [eq_of_beq hk]; rfl
    rw [hr]
    refine ⟨fun w' => True, fun w1 e1 => ⟨trivial, step_call (cgood (hB.drew e1)) ?_⟩⟩
    rintro v w2 ⟨rfl, h2, c2⟩
    exact ⟨rfl, trivial, rfl, h2, (dr e1).same c2⟩
  · have hr : restQ q = zeroF q .data := by unfold restQ; rw [eq_of_beq hk]; rfl
    rw [hr]
    refine ⟨fun w' => True, fun w1 e1 => ⟨trivial, step_call (cdata (hB.drew e1)) ?_⟩⟩
    rintro v w2 ⟨rfl, h2, c2⟩
    exact ⟨rfl, trivial, rfl, h2, (dr e1).same c2⟩
  · have hr : restQ q = zeroF (zeroF q .n) .data := by unfold restQ; rw [eq_of_beq hk]; rfl
    rw [hr]
    refine ⟨fun w' => True, fun w1 e1 => ⟨trivial, step_call (cn (hB.drew e1)) ?_⟩⟩
    rintro v w2 ⟨rfl, h2, c2⟩
    refine ⟨rfl, trivial, fun w' => True, fun w3 e3 => ⟨trivial, step_call (cdata (h2.drew e3)) ?_⟩⟩
    rintro v w4 ⟨rfl, h4, c4⟩
    exact ⟨rfl, trivial, rfl, h4, (((dr e1).same c2).same (dr e3)).same c4⟩
  · have ne : ∀ {j : Int}, (q.1.kind == j) = false → ¬ q.1.kind = j := fun h he => by rw [he] at h; simp at h
    have hv : restQ q = q := by
      unfold restQ fldsK
      have := ne k1; have := ne k2; have := ne k3; have := ne k5; have := ne k10; have := ne k6; have := ne k7; have := ne k8
      rw [if_neg (by omega), if_neg (by omega), if_neg (by omega), if_neg (by omega), if_neg (by omega), if_neg (by omega)]; rfl
    rw [hv]
    exact ⟨rfl, hB, Ch.refl _ _⟩
end
end Go.Proofs.Ytamkffjmggbekaa.Ord
