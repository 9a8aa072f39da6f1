/- For every command: what the law's own small functions answer; the conditions stand in each theorem. -/
import Derived.Test.YtamkffjmggbekaaOrdP
import Derived.Test.YtamkffjmggbekaaVcOrdL
set_option linter.unusedVariables false
set_option linter.unusedSimpArgs false
namespace Go.Proofs.Ytamkffjmggbekaa.Ord
open Go Go.Proofs Go.Proofs.Ytamkffjmggbekaa.V Go.Proofs.Ytamkffjmggbekaa.Vc Go.Proofs.Ytamkffjmggbekaa.Pen Go.RowKit

section
variable {w w' : World} {q q' : CmD × RwP} {D F G : Nat → Prop} {o o' : Option Addr} {xs ys : List Int}
theorem Lints_spec (h : Rd w o (xs.map (.int .i64)) F) (h' : Rd w o' (ys.map (.int .i64)) G) (hl : xs.length ≤ 1000000) (c c' : Nat) : Calls Try.prog i_coadjutorlaw29_ints #[.slice o xs.length c, .slice o' ys.length c'] w (Ret fun v w' => v = .bool (decide (xs = ys)) ∧ Ch Non w w') := by
  refine coadjutorlaw29_ints.calls _ _ _ _ _ _ ?_
  unfold coadjutorlaw29_ints.vc
  refine ⟨fun hne => ?_, fun heq => ?_⟩
  · have hne : ¬ xs = ys := fun h => by rw [h] at hne; simp at hne
    rw [decide_eq_false hne]
    exact ⟨rfl, Ch.refl _ _⟩
  have heq : xs.length = ys.length := by
    have : ((xs.length : Nat) : Int) = ((ys.length : Nat) : Int) := by simpa using heq
    omega
  refine ⟨fun i k w' => ∃ j : Nat, i = j ∧ j ≤ xs.length ∧ k = xs.length - j ∧ Ch Non w w' ∧ xs.take j = ys.take j, ⟨_, 0, rfl, Nat.zero_le _, rfl, Ch.refl _ _, rfl⟩, ?_⟩
  rintro jk i k w1 ⟨j, rfl, hj, rfl, hc, ht⟩
  have hjj : (j : Int).toNat * 1 = j := by omega
  rw [hjj]
  refine ⟨fun hlt => ?_, fun hge => ?_⟩
  · have hlt : j < xs.length := by have := of_decide_eq_true hlt; omega
    have hx : ∀ w', Ch Non w1 w' → someV o fun p => w'.cell? (p.add j) = some (.int .i64 xs[j]) := fun w' hc' => (h.keepN (hc.andN hc')).typed hlt fun p hp => hp
    have hy : ∀ w', Ch Non w1 w' → someV o' fun p => w'.cell? (p.add j) = some (.int .i64 ys[j]) := fun w' hc' => (h'.keepN (hc.andN hc')).typed (by omega) fun p hp => hp
    refine ⟨fun w' => Ch Non w1 w', fun w2 e2 => ⟨Ch.drew e2, ⟨by omega, by omega⟩, ?_⟩⟩
    cases o with
    | none => exact (hx _ (Ch.refl _ _)).elim
    | some p =>
      refine ⟨_, hx, ⟨by omega, by omega⟩, ?_⟩
      cases o' with
      | none => exact (hy _ (Ch.refl _ _)).elim
      | some p' =>
        refine ⟨_, hy, fun hne => ?_, fun he => ?_⟩
        · have hne : ¬ xs[j] = ys[j] := by simpa using hne
          rw [decide_eq_false (fun h => hne (by subst h; rfl))]
          exact ⟨rfl, hc.andN (Ch.drew e2)⟩
        · have he : xs[j] = ys[j] := by simpa using he
          refine ⟨xs.length - (j + 1), by omega, j + 1, by rw [wrap_id (by omega) (by omega)]; rfl, hlt, rfl, hc.andN (Ch.drew e2), ?_⟩
          rw [Pen.take_snoc xs j hlt, Pen.take_snoc ys j (by omega), ht, he]
  · have hjn : j = xs.length := by have := of_decide_eq_false hge; omega
    subst hjn
    rw [List.take_length, heq, List.take_length] at ht
    rw [decide_eq_true ht]
    exact ⟨rfl, hc⟩
theorem Lform_spec (w : World) (q : CmD × RwP) : Calls Try.prog i_coadjutorlaw29_form #[.agg (cmE q).toArray] w (Ret fun v w' => v = .agg (cmE q).toArray ∧ Ch Non w w') := by
  refine coadjutorlaw29_form.calls _ _ _ _ _ _ _ _ _ _ _ ?_
  unfold coadjutorlaw29_form.vc
  intro w1 e1 w2 e2
  have hA : Blk w2 w.heap.size (cmE q) t_order_Command := (Blk.new e1).alloc e2
  have hB := Blk.new e2
  have s1 := (Blk.new e1).lt
  have hc2 : Ch Non w w2 := (Ch.alloc e1).andN (Ch.alloc e2)
  refine ⟨_, hA.cell 0 rfl, _, hA.cell 1 rfl, _, hA.cell 2 rfl, _, hA.cell 3 rfl, _, _, _, hA.cell 4 rfl, _, _, _, hA.cell 5 rfl, _, hA.cell 6 rfl, ⟨hB.ok 0 rfl, hB.ok 1 rfl, hB.ok 2 rfl, hB.ok 3 rfl, hB.ok 4 rfl, hB.ok 5 rfl, hB.ok 6 rfl⟩, fun w3 e3 => ?_⟩
  obtain ⟨hB3, hc3⟩ := cmOver q hB rfl e3
  exact ⟨_, _, _, _, _, _, _, _, _, _, _, ⟨hB3.cell 0 rfl, hB3.cell 1 rfl, hB3.cell 2 rfl, hB3.cell 3 rfl, hB3.cell 4 rfl, hB3.cell 5 rfl, hB3.cell 6 rfl⟩, rfl, hc2.trans hc3 (fun i hi he => by omega)⟩
theorem Lalike_spec (h : CmR w q F) (h' : CmR w q' G) : Calls Try.prog i_coadjutorlaw29_alike #[.agg (cmE q).toArray, .agg (cmE q').toArray] w (Ret fun v w' => v = .bool (decide (q.1 = q'.1)) ∧ Ch Non w w') := by
  refine coadjutorlaw29_alike.calls _ _ _ _ _ _ _ _ _ _ _ _ _ _ _ _ _ _ _ _ _ _ ?_
  unfold coadjutorlaw29_alike.vc
  intro w1 e1 w2 e2
  have hA : Blk w2 w.heap.size (cmE q) t_order_Command := (Blk.new e1).alloc e2
  have hB : Blk w2 w1.heap.size (cmE q') t_coadjutorref29_Command := Blk.new e2
  have hc : Ch Non w w2 := (Ch.alloc e1).andN (Ch.alloc e2)
  have ne : ∀ {x y : Int}, (x == y) = false → ¬ x = y := fun h => by simpa using h
  have eq : ∀ {x y : Int}, (x == y) = true → x = y := fun h => by simpa using h
  have no : ∀ {w'}, Ch Non w2 w' → (q.1.kind = q'.1.kind ∧ q.1.id = q'.1.id ∧ q.1.n = q'.1.n ∧ q.1.good = q'.1.good ∧ q.1.data = q'.1.data ∧ q.1.prompt = q'.1.prompt ∧ q.1.draws = q'.1.draws → False) → Value.bool false = .bool (decide (q.1 = q'.1)) ∧ Ch Non w w' := fun hc' h => ⟨by rw [decide_eq_false (fun he => h ((cm_eq _ _).1 he))], hc.andN hc'⟩
  obtain ⟨r1, r2, l1, l2, _⟩ := h
  obtain ⟨s1, s2, _, _, _⟩ := h'
  refine ⟨_, hA.cell 0 rfl, _, hB.cell 0 rfl, fun h1 => ?_, fun h => no (Ch.refl _ _) (fun k => ne h k.1)⟩
  refine ⟨_, hA.cell 1 rfl, _, hB.cell 1 rfl, fun h2 => ?_, fun h => no (Ch.refl _ _) (fun k => ne h k.2.1)⟩
  refine ⟨_, hA.cell 2 rfl, _, hB.cell 2 rfl, fun h3 => ?_, fun h => no (Ch.refl _ _) (fun k => ne h k.2.2.1)⟩
  refine ⟨_, hA.cell 3 rfl, _, hB.cell 3 rfl, fun h4 => ?_, fun h => no (Ch.refl _ _) (fun k => by rw [k.2.2.2.1] at h; simp at h)⟩
  have h4 : q.1.good = q'.1.good := by simpa using h4
  refine ⟨_, _, _, hA.cell 4 rfl, _, _, _, hB.cell 4 rfl, ?_⟩
  refine step_call (Lints_spec (r1.keepN hc) (s1.keepN hc) (by omega) _ _) ?_
  rintro v w3 ⟨rfl, hc3⟩
  refine ⟨_, rfl, fun h6 => ?_, fun h => no hc3 (fun k => of_decide_eq_false h k.2.2.2.2.2.1)⟩
  refine ⟨_, _, _, (hA.keepN hc3).cell 5 rfl, _, _, _, (hB.keepN hc3).cell 5 rfl, ?_⟩
  refine step_call (Lints_spec ((r2.keepN hc).keepN hc3) ((s2.keepN hc).keepN hc3) (by omega) _ _) ?_
  rintro v w4 ⟨rfl, hc4⟩
  have hc34 := hc3.andN hc4
  refine ⟨_, rfl, fun h7 => ⟨_, (hA.keepN hc34).cell 6 rfl, _, (hB.keepN hc34).cell 6 rfl, ?_, hc.andN hc34⟩, fun h => no hc34 (fun k => of_decide_eq_false h k.2.2.2.2.2.2)⟩
  rw [str_beq]
  congr 1
  by_cases h5 : q.1.data = q'.1.data
  · rw [decide_eq_true h5, decide_eq_true ((cm_eq _ _).2 ⟨eq h1, eq h2, eq h3, h4, h5, of_decide_eq_true h6, of_decide_eq_true h7⟩)]
  · rw [decide_eq_false h5, decide_eq_false (fun he => h5 ((cm_eq _ _).1 he).2.2.2.2.1)]
def greatC (c : CmD) : Bool := decide (c.prompt.length > 40) || (decide (c.draws.length > 40) || decide (c.data.length > 1100))
def Raw (s : ByteArray) (q : CmD × RwP) : List Value := (cmE q).set 6 (.string s)
theorem Lgreat_spec (w : World) (q : CmD × RwP) : Calls Try.prog i_coadjutorlaw29_great #[.agg (cmE q).toArray] w (Ret fun v w' => v = .bool (greatC q.1) ∧ Ch Non w w') := by
  refine coadjutorlaw29_great.calls _ _ _ _ _ _ _ _ _ _ _ ?_
  unfold coadjutorlaw29_great.vc
  intro w1 e1
  have hA : Blk w1 w.heap.size (cmE q) t_order_Command := Blk.new e1
  have hc : Ch Non w w1 := Ch.alloc e1
  unfold greatC
  refine ⟨_, _, _, hA.cell 4 rfl, fun h => ?_, fun h => ⟨_, _, _, hA.cell 5 rfl, fun h2 => ?_, fun h2 => ⟨_, hA.cell 6 rfl, ?_, hc⟩⟩⟩
  · have h := of_decide_eq_true h
    rw [decide_eq_true (show q.1.prompt.length > 40 by omega)]
    exact ⟨rfl, hc⟩
  · have h := of_decide_eq_false h
    have h2 := of_decide_eq_true h2
    rw [decide_eq_false (show ¬ q.1.prompt.length > 40 by omega), decide_eq_true (show q.1.draws.length > 40 by omega)]
    exact ⟨rfl, hc⟩
  · have h := of_decide_eq_false h
    have h2 := of_decide_eq_false h2
    rw [decide_eq_false (show ¬ q.1.prompt.length > 40 by omega), decide_eq_false (show ¬ q.1.draws.length > 40 by omega), Bool.false_or, Bool.false_or, str_size]
    congr 1
    exact decide_eq_decide.2 (by omega)
theorem Lsmall_spec (w : World) (x : Int) : Calls Try.prog i_coadjutorlaw29_small #[.int .i64 x] w (Ret fun v w' => v = .int .i64 (sm x) ∧ w' = w) := by
  refine coadjutorlaw29_small.calls _ ?_
  unfold coadjutorlaw29_small.vc
  exact ⟨rfl, rfl⟩
theorem cut_i {n : Int} (h : 0 ≤ n) : (if (1024 : Int) < n then (1024 : Int) else n).toNat = min 1024 n.toNat := by split <;> omega
set_option maxHeartbeats 2000000 in
theorem Lfit_spec (h : CmR w q D) : Calls Try.prog i_coadjutorlaw29_fit #[.agg (cmE q).toArray] w (Ret fun v w' => ∃ p : RwP, v = .agg (cmE (fitC q.1, p)).toArray ∧ CmR w' (fitC q.1, p) (New w w') ∧ Ch Non w w') := by
  refine coadjutorlaw29_fit.calls _ _ _ _ _ _ _ _ _ _ _ ?_
  unfold coadjutorlaw29_fit.vc
  intro w1 e1 w2 e2
  have hA : Blk w2 w.heap.size (cmE q) t_order_Command := (Blk.new e1).alloc e2
  have hZ2 : Blk w2 w1.heap.size csB t_order_Command := Blk.new e2
  have s1 := (Blk.new e1).lt
  have hc2 : Ch Non w w2 := (Ch.alloc e1).andN (Ch.alloc e2)
  have s2 := hZ2.lt
  refine ⟨_, _, _, _, _, _, _, _, _, _, _, ⟨hA.cell 0 rfl, hA.cell 1 rfl, hA.cell 2 rfl, hA.cell 3 rfl, hA.cell 4 rfl, hA.cell 5 rfl, hA.cell 6 rfl⟩, ?_⟩
  refine step_call (Trim_spec (h.keepN hc2)) ?_
  rintro v w3 ⟨p, rfl, hT3, hc3⟩
  have s3 := hc3.size
  refine ⟨_, _, _, _, _, _, _, _, _, _, _, rfl, fun w4 e4 => ?_⟩
  have hB4 := Blk.new e4
  refine ⟨⟨hB4.ok 0 rfl, hB4.ok 1 rfl, hB4.ok 2 rfl, hB4.ok 3 rfl, hB4.ok 4 rfl, hB4.ok 5 rfl, hB4.ok 6 rfl⟩, fun w5 e5 => ?_⟩
  obtain ⟨hB5, hc35⟩ := cmNew (trimC q.1, p) e4 e5
  have hs35 := hc35.size
  have hl5 := hB5.lt
  have hf : fitC q.1 = fitX (trimC q.1) := rfl
  rw [hf]
  generalize trimC q.1 = t at hB5 hT3 ⊢
  refine ⟨_, hB5.cell 1 rfl, step_call (Lsmall_spec w5 _) ?_⟩
  rintro v w6 ⟨rfl, rfl⟩
  refine ⟨_, rfl, hB5.ok 1 rfl, fun w7 e7 => ?_⟩
  have hB7 := hB5.set e7
  have hc7 : Ch (· = w3.heap.size) w6 w7 := Ch.set e7 rfl
  refine ⟨_, hB7.cell 2 rfl, step_call (Lsmall_spec w7 _) ?_⟩
  rintro v w8 ⟨rfl, rfl⟩
  refine ⟨_, rfl, hB7.ok 2 rfl, fun w9 e9 => ?_⟩
  have hB9 : Blk w9 w3.heap.size (cmE ({ t with id := sm t.id, n := sm t.n }, p)) t_order_Command := hB7.set e9
  have hc9 : Ch (· = w3.heap.size) w6 w9 := hc7.same (Ch.set e9 rfl)
  have hs9 := hc9.size
  have hl9 := hB9.lt
  obtain ⟨r1, r2, l1, l2, l3⟩ := (hT3.keepN hc35).keep hc9 (fun i _ hi he => by have := hi.2; omega)
  have hZ9 := ((hZ2.keepN hc3).keepN hc35).keep hc9 (by omega)
  have hc09 : Ch Non w w9 := ((hc2.andN hc3).andN hc35).trans hc9 (fun i hi he => by omega)
  clear hB7 hB5 hB4 hA hc7 e1 e2 e4 e5 e7 e9 hc35 hT3
  generalize hcb : w3.heap.size = cb at hB9 hl9
  generalize hzb : w1.heap.size = zb at hZ9 ⊢
  intro w10 e10
  have hO10 : Own w10 t_int 1 (some ⟨w9.heap.size, 0, none⟩) 0 0 (([] : List Int).map (.int .i64)) (New w9 w10) := Own.made (n := 0) (sz := 1) (F := New w9 w10) e10 rfl (Nat.zero_le _) ⟨Nat.le_refl _, (Blk.new e10).lt⟩
  refine ⟨fun oA oN oC w' => ∃ ys : List Int, oN = ys.length ∧ ys = (t.prompt.take 32).map sm ∧ Rd w' oA (ys.map (.int .i64)) (New w9 w') ∧ Ch Non w9 w', ⟨fun oA oN oC i k w' => ∃ (ys : List Int) (F : Nat → Prop), oN = ys.length ∧ i = ys.length ∧ (ys.length ≤ t.prompt.length ∧ ys.length ≤ 32) ∧ k = t.prompt.length - ys.length ∧ ys = (t.prompt.take ys.length).map sm ∧ Own w' t_int 1 oA ys.length oC (ys.map (.int .i64)) F ∧ (∀ i, F i → New w9 w' i) ∧ Ch Non w9 w', ⟨_, [], _, rfl, rfl, ⟨Nat.zero_le _, Nat.zero_le _⟩, rfl, rfl, hO10, fun i hi => hi, Ch.alloc e10⟩, ?_⟩, ?_⟩
  · have hBx := hB9
    have hrx := r1
    rintro jk oA oN oC i k wl ⟨ys, F, rfl, rfl, ⟨hn, hn32⟩, rfl, hys, hO, hF, hc⟩
    have hs := hc.size
    have hBl := hBx.keepN hc
    refine ⟨_, _, _, hBl.cell 4 rfl, fun hlt => ⟨fun h32 => ?_, fun h32 => ?_⟩, fun hge => ?_⟩
    · have hlt : ys.length < t.prompt.length := by have h := of_decide_eq_true hlt; have h : (ys.length : Int) < (t.prompt.length : Int) := h; omega
      have h32 : ys.length < 32 := by have := of_decide_eq_true h32; omega
      have hjj : (ys.length : Int).toNat * 1 = ys.length := by omega
      refine ⟨_, _, _, hBl.cell 4 rfl, ⟨by omega, by show (ys.length : Int) < (t.prompt.length : Int); omega⟩, ?_⟩
      rw [hjj]
      refine (hrx.keepN hc).typed hlt fun pp hpp => ⟨_, hpp, ?_⟩
      refine step_call (Lsmall_spec wl _) ?_
      rintro v wm ⟨rfl, rfl⟩
      refine ⟨_, rfl, fun wn en => ?_⟩
      have hb5 := blkRd (xs := [sm t.prompt[ys.length]]) (Blk.new en)
      obtain ⟨o6, c6, w6, r6, hO6, hc6⟩ := Own.appendRd (c2 := 1) (m := 1) el_S_int (hO.keepN (Ch.alloc en)) t_S_int hb5 rfl (fun u hu => by rw [List.map_singleton, List.mem_singleton] at hu; subst hu; rfl) (by unfold maxLen; omega) (by omega)
      have hs5 := (Blk.new en).lt
      have hs6 := hc6.size
      have e1 : (ys ++ [sm t.prompt[ys.length]]).length = ys.length + 1 := by simp
      refine ⟨o6, _, c6, w6, r6, t.prompt.length - (ys.length + 1), by omega, ys ++ [sm t.prompt[ys.length]], Ext F wn w6, e1.symm, by rw [wrap_id (by omega) (by omega), e1]; rfl, ⟨by omega, by omega⟩, by omega, ?_, ?_, fun i hi => ?_, (hc.andN (Ch.alloc en)).trans hc6 (fun i hi hf => by have := (hF i hf).1; omega)⟩
      · rw [e1, Pen.take_snoc t.prompt _ hlt, List.map_append, ← hys]; rfl
      · rw [e1, List.map_append]; exact hO6
      · rcases hi with hi | hi
        · exact ⟨(hF i hi).1, by have := (hF i hi).2; omega⟩
        · exact ⟨by have := hi.1; omega, hi.2⟩
    · have h32 : ¬ ys.length < 32 := by have := of_decide_eq_false h32; omega
      refine ⟨ys, rfl, ?_, hO.rd.mono (fun i _ hi => hF i hi), hc⟩
      rw [hys, show ys.length = 32 by omega]
    · have hge : ¬ ys.length < t.prompt.length := by have h := of_decide_eq_false hge; have h : ¬ (ys.length : Int) < (t.prompt.length : Int) := h; omega
      refine ⟨ys, rfl, ?_, hO.rd.mono (fun i _ hi => hF i hi), hc⟩
      rw [hys, List.take_of_length_le (show t.prompt.length ≤ ys.length by omega), List.take_of_length_le (show t.prompt.length ≤ 32 by omega)]
  rintro jk pA pN pC w15 ⟨ys, rfl, hys, hrp, hc15⟩
  have hs15 := hc15.size
  have hB15 := hB9.keepN hc15
  have r2' := r2.keepN hc15
  intro w16 e16
  have hO16 : Own w16 t_int 1 (some ⟨w15.heap.size, 0, none⟩) 0 0 (([] : List Int).map (.int .i64)) (New w15 w16) := Own.made (n := 0) (sz := 1) (F := New w15 w16) e16 rfl (Nat.zero_le _) ⟨Nat.le_refl _, (Blk.new e16).lt⟩
  refine ⟨fun oA oN oC w' => ∃ ys : List Int, oN = ys.length ∧ ys = (t.draws.take 32).map sm ∧ Rd w' oA (ys.map (.int .i64)) (New w15 w') ∧ Ch Non w15 w', ⟨fun oA oN oC i k w' => ∃ (ys : List Int) (F : Nat → Prop), oN = ys.length ∧ i = ys.length ∧ (ys.length ≤ t.draws.length ∧ ys.length ≤ 32) ∧ k = t.draws.length - ys.length ∧ ys = (t.draws.take ys.length).map sm ∧ Own w' t_int 1 oA ys.length oC (ys.map (.int .i64)) F ∧ (∀ i, F i → New w15 w' i) ∧ Ch Non w15 w', ⟨_, [], _, rfl, rfl, ⟨Nat.zero_le _, Nat.zero_le _⟩, rfl, rfl, hO16, fun i hi => hi, Ch.alloc e16⟩, ?_⟩, ?_⟩
  · have hBx := hB15
    have hrx := r2'
    rintro jk oA oN oC i k wl ⟨ys, F, rfl, rfl, ⟨hn, hn32⟩, rfl, hys, hO, hF, hc⟩
    have hs := hc.size
    have hBl := hBx.keepN hc
    refine ⟨_, _, _, hBl.cell 5 rfl, fun hlt => ⟨fun h32 => ?_, fun h32 => ?_⟩, fun hge => ?_⟩
    · have hlt : ys.length < t.draws.length := by have h := of_decide_eq_true hlt; have h : (ys.length : Int) < (t.draws.length : Int) := h; omega
      have h32 : ys.length < 32 := by have := of_decide_eq_true h32; omega
      have hjj : (ys.length : Int).toNat * 1 = ys.length := by omega
      refine ⟨_, _, _, hBl.cell 5 rfl, ⟨by omega, by show (ys.length : Int) < (t.draws.length : Int); omega⟩, ?_⟩
      rw [hjj]
      refine (hrx.keepN hc).typed hlt fun pp hpp => ⟨_, hpp, ?_⟩
      refine step_call (Lsmall_spec wl _) ?_
      rintro v wm ⟨rfl, rfl⟩
      refine ⟨_, rfl, fun wn en => ?_⟩
      have hb5 := blkRd (xs := [sm t.draws[ys.length]]) (Blk.new en)
      obtain ⟨o6, c6, w6, r6, hO6, hc6⟩ := Own.appendRd (c2 := 1) (m := 1) el_S_int (hO.keepN (Ch.alloc en)) t_S_int hb5 rfl (fun u hu => by rw [List.map_singleton, List.mem_singleton] at hu; subst hu; rfl) (by unfold maxLen; omega) (by omega)
      have hs5 := (Blk.new en).lt
      have hs6 := hc6.size
      have e1 : (ys ++ [sm t.draws[ys.length]]).length = ys.length + 1 := by simp
      refine ⟨o6, _, c6, w6, r6, t.draws.length - (ys.length + 1), by omega, ys ++ [sm t.draws[ys.length]], Ext F wn w6, e1.symm, by rw [wrap_id (by omega) (by omega), e1]; rfl, ⟨by omega, by omega⟩, by omega, ?_, ?_, fun i hi => ?_, (hc.andN (Ch.alloc en)).trans hc6 (fun i hi hf => by have := (hF i hf).1; omega)⟩
      · rw [e1, Pen.take_snoc t.draws _ hlt, List.map_append, ← hys]; rfl
      · rw [e1, List.map_append]; exact hO6
      · rcases hi with hi | hi
        · exact ⟨(hF i hi).1, by have := (hF i hi).2; omega⟩
        · exact ⟨by have := hi.1; omega, hi.2⟩
    · have h32 : ¬ ys.length < 32 := by have := of_decide_eq_false h32; omega
      refine ⟨ys, rfl, ?_, hO.rd.mono (fun i _ hi => hF i hi), hc⟩
      rw [hys, show ys.length = 32 by omega]
    · have hge : ¬ ys.length < t.draws.length := by have h := of_decide_eq_false hge; have h : ¬ (ys.length : Int) < (t.draws.length : Int) := h; omega
      refine ⟨ys, rfl, ?_, hO.rd.mono (fun i _ hi => hF i hi), hc⟩
      rw [hys, List.take_of_length_le (show t.draws.length ≤ ys.length by omega), List.take_of_length_le (show t.draws.length ≤ 32 by omega)]
  rintro jk dA dN dC w21 ⟨zs, rfl, hzs, hrd, hc21⟩
  have hs21 := hc21.size
  have hB21 := hB15.keepN hc21
  refine ⟨hB21.ok 4 rfl, fun w22 e22 => ?_⟩
  have hB22 := hB21.set e22
  refine ⟨hB22.ok 5 rfl, fun w23 e23 => ?_⟩
  have hB23 : Blk w23 cb (cmE ({ t with id := sm t.id, n := sm t.n, prompt := ys, draws := zs }, ⟨pA, pC, dA, dC⟩)) t_order_Command := hB22.set e23
  have hc23 : Ch (· = cb) w21 w23 := (Ch.set (F := (· = cb)) e22 rfl).same (Ch.set e23 rfl)
  refine ⟨_, hB23.cell 6 rfl, _, hB23.cell 6 rfl, ?_⟩
  rw [cut_i (by omega), Int.toNat_natCast, str_size]
  refine ⟨⟨by split <;> omega, by split <;> omega⟩, hB23.ok 6 rfl, fun w24 e24 => ?_⟩
  have hex : (str t.data).extract 0 (min 1024 t.data.length) = str (t.data.take 1024) := by
    rw [str_extract, List.drop_zero, ← List.take_eq_take_min]
  have hB24 := hB23.set e24
  have hfx : fitX t = ⟨t.kind, sm t.id, sm t.n, t.good, ys, zs, t.data.take 1024⟩ := by rw [hys, hzs]; rfl
  have hB24 : Blk w24 cb (cmE (fitX t, ⟨pA, pC, dA, dC⟩)) t_order_Command := by
    rw [hfx]
    have h24 : Blk w24 cb ((cmE ({ t with id := sm t.id, n := sm t.n, prompt := ys, draws := zs }, ⟨pA, pC, dA, dC⟩)).set 6 (.string ((str t.data).extract 0 (min 1024 t.data.length)))) t_order_Command := hB24
    rw [hex] at h24
    exact h24
  have hc24 : Ch (· = cb) w21 w24 := hc23.same (Ch.set e24 rfl)
  have hs24 := hc24.size
  have hZ24 := ((hZ9.keepN hc15).keepN hc21).keep hc24 (by omega)
  refine ⟨_, _, _, _, _, _, _, _, _, _, _, ⟨hB24.cell 0 rfl, hB24.cell 1 rfl, hB24.cell 2 rfl, hB24.cell 3 rfl, hB24.cell 4 rfl, hB24.cell 5 rfl, hB24.cell 6 rfl⟩, ⟨hZ24.ok 0 rfl, hZ24.ok 1 rfl, hZ24.ok 2 rfl, hZ24.ok 3 rfl, hZ24.ok 4 rfl, hZ24.ok 5 rfl, hZ24.ok 6 rfl⟩, fun w25 e25 => ?_⟩
  obtain ⟨hZ25, hc25⟩ := cmOver (fitX t, ⟨pA, pC, dA, dC⟩) hZ24 rfl e25
  have hs25 := hc25.size
  refine ⟨_, _, _, _, _, _, _, _, _, _, _, ⟨hZ25.cell 0 rfl, hZ25.cell 1 rfl, hZ25.cell 2 rfl, hZ25.cell 3 rfl, hZ25.cell 4 rfl, hZ25.cell 5 rfl, hZ25.cell 6 rfl⟩, ⟨pA, pC, dA, dC⟩, rfl, ⟨?_, ?_, ?_, ?_, ?_⟩, (((hc09.andN hc15).andN hc21).trans hc24 (fun i hi he => by omega)).trans hc25 (fun i hi he => by omega)⟩
  · have hr := ((hrp.keepN hc21).keep hc24 (fun i _ hi he => by have := hi.1; omega)).keep hc25 (fun i _ hi he => by have := hi.1; omega)
    rw [hfx]
    exact hr.mono (fun i hi hN => ⟨by have := hN.1; omega, hi⟩)
  · have hr := (hrd.keep hc24 (fun i _ hi he => by have := hi.1; omega)).keep hc25 (fun i _ hi he => by have := hi.1; omega)
    rw [hfx]
    exact hr.mono (fun i hi hN => ⟨by have := hN.1; omega, hi⟩)
  · show ((t.prompt.take 32).map sm).length ≤ 1000
    rw [List.length_map, List.length_take]; omega
  · show ((t.draws.take 32).map sm).length ≤ 1000
    rw [List.length_map, List.length_take]; omega
  · show (t.data.take 1024).length ≤ 100000
    rw [List.length_take]; omega
end
end Go.Proofs.Ytamkffjmggbekaa.Ord
