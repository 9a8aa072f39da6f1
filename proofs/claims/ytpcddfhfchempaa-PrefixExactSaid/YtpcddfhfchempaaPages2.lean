/- For every pool of pages in memory: what layer 22's functions that change it leave; the conditions stand in each theorem. -/
import Derived.Test.YtpcddfhfchempaaPages
set_option linter.unusedVariables false
set_option linter.unusedSimpArgs false
namespace Go.Proofs.Ytpcddfhfchempaa.Pages
open Go Go.Proofs Go.Proofs.Ytpcddfhfchempaa.V Go.Proofs.Ytpcddfhfchempaa.Vc Go.Proofs.Ytpcddfhfchempaa.Step Go.RowKit

theorem rep_flat (e : List Value) : ∀ n, (List.replicate n e).flatten = zeroRow e n
  | 0 => rfl
  | n + 1 => by rw [List.replicate_succ, List.flatten_cons, rep_flat e n]; rfl
theorem New_spec (w : World) (n : Int) (h : 1 ≤ n ∧ n ≤ 64) : Calls Try.prog i_pages_New #[.int .i64 n] w (Ret fun v w' => ∃ pb, v = .pointer (some ⟨pb, 0, none⟩) ∧ PoolR w' pb (List.replicate n.toNat pg0) (New w w') ∧ Ch Non w w') := by
  refine pages_New.calls _ ?_
  unfold pages_New.vc
  refine ⟨fun h1 => by have := of_decide_eq_true h1; omega, fun _ => ⟨fun h1 => by have := of_decide_eq_true h1; omega, fun _ => ⟨⟨rfl, by omega, by omega⟩, fun w1 e1 w2 e2 => ?_⟩⟩⟩
  obtain ⟨m, rfl⟩ := Int.eq_ofNat_of_zero_le (by omega : 0 ≤ n)
  rw [Int.toNat_natCast] at e1 ⊢
  have hz : zeroRow [.int .i64 0, .int .i64 0, .slice none 0 0] m = ((List.replicate m (⟨0, 0, none, 0, 0⟩ : PgC)).map pgE).flatten := by
    rw [List.map_replicate, rep_flat]; rfl
  rw [hz] at e1
  have hg : w.heap.size < w1.heap.size := (Blk.new e1).lt
  have hcells : (((List.replicate m (⟨0, 0, none, 0, 0⟩ : PgC)).map pgE).flatten.toArray).size = m * 3 := by
    rw [← hz]
    simp only [List.size_toArray]
    rw [hz, List.map_replicate, List.length_flatten]
    simp [pgE]
  have hO : Own w1 t_pages_page 3 (some ⟨w.heap.size, 0, none⟩) m m ((List.replicate m (⟨0, 0, none, 0, 0⟩ : PgC)).map pgE).flatten (· = w.heap.size) := Own.made (F := (· = w.heap.size)) e1 hcells (by unfold maxLen; omega) rfl
  have hB2 := Blk.new e2
  have hc2 : Ch Non w1 w2 := Ch.alloc e2
  have hs2 : w1.heap.size < w2.heap.size := hB2.lt
  refine ⟨w1.heap.size, rfl, ⟨some ⟨w.heap.size, 0, none⟩, m, List.replicate m ⟨0, 0, none, 0, 0⟩, fun k i => (k = 0 ∧ i = w1.heap.size) ∨ (k = 1 ∧ i = w.heap.size), ⟨⟨fun k i hi => by omega, fun j k hjk i h1 h2 => by omega⟩, .inl ⟨rfl, rfl⟩, ?_, ?_, by simp⟩, fun k i hi => ⟨by omega, by omega⟩, fun i h1 h2 => ?_⟩, (Ch.alloc e1).andN hc2⟩
  · rw [List.length_replicate]; exact hB2
  · rw [List.length_replicate]
    exact (hO.keepN hc2).mono (fun i _ hi => .inr ⟨rfl, hi⟩)
  · rw [List.getElem_replicate, List.getElem_replicate]
    exact ⟨rfl, rfl, rfl, [], Own.nil _ _ _ _, .nil, fun e he => by cases he⟩
def takeI (ps : List PageD) : Nat := ps.findIdx fun p => p.users == 0
def takeV (ps : List PageD) (v : Int) : Int × Int := if v < 1 ∨ v > 2147483647 then (0, 1) else if takeI ps < ps.length then ((takeI ps : Int), 0) else (0, 11)
def takeP (ps : List PageD) (v : Int) : List PageD := if v < 1 ∨ v > 2147483647 then ps else ps.set (takeI ps) ⟨v, 1, []⟩
section
variable {w : World} {pb : Nat} {ps : List PageD} {F G : Nat → Prop}
theorem Take_c1_spec (w : World) (a b : Int) (o : Option Addr) (n c : Nat) : Calls Try.prog i_pages_Pool_Take_c1 #[.agg #[.int .i64 a, .int .i64 b, .slice o n c]] w (Ret fun v w' => v = .bool (b == 0) ∧ Ch Non w w') := by
  refine pages_Pool_Take_c1.calls _ _ _ _ _ ?_
  unfold pages_Pool_Take_c1.vc
  intro w1 e1
  exact ⟨_, (Blk.new e1).cell 1 rfl, rfl, Ch.alloc e1⟩
theorem Index_spec {o : Option Addr} {c : Nat} {gs : List PgC} {R : Nat → Nat → Prop} (hC : PoolC w pb o c gs R gs.length) : Calls Try.prog 60 #[.slice o gs.length c, .func (.func i_pages_Pool_Take_c1) #[] #[]] w
    (Ret fun v w' => v = .int .i64 (if gs.findIdx (fun g => g.users == 0) < gs.length then (gs.findIdx (fun g => g.users == 0) : Int) else -1) ∧ Ch Non w w') := by
  refine slices_IndexFunc.calls_tk _ _ _ ?_
  unfold slices_IndexFunc.vc_tk
  have hml : gs.length ≤ maxLen := Nat.le_trans hC.own.2.1 hC.own.2.2.1
  unfold maxLen at hml
  refine ⟨fun i k w' => Ch Non w w' ∧ ∃ j : Nat, i = j ∧ j ≤ gs.length ∧ k = gs.length - j ∧ ∀ m (hm : m < j) (h : m < gs.length), (gs[m].users == 0) = false, ⟨_, Ch.refl _ _, 0, rfl, Nat.zero_le _, rfl, fun m hm => by omega⟩, ?_⟩
  rintro jk i k w1 ⟨hc, j, rfl, hj, rfl, hno⟩
  refine ⟨fun hlt => ?_, fun hge => ?_⟩
  · have hlt : j < gs.length := by have := of_decide_eq_true hlt; omega
    obtain ⟨p, rfl, _, a0, a1, a2, _⟩ := (hC.keep hc (fun _ _ _ => id)).at hlt
    refine ⟨⟨by omega, by omega⟩, _, _, _, _, _, ⟨a0, a1, a2⟩, ?_⟩
    refine step_call (Take_c1_spec w1 _ _ _ _ _) ?_
    rintro v w2 ⟨rfl, hc2⟩
    refine ⟨_, rfl, fun hb => ?_, fun hb => ?_⟩
    · have hidx : gs.findIdx (fun g => g.users == 0) = j := (List.findIdx_eq hlt).2 ⟨hb, fun m hm => hno m hm (by omega)⟩
      rw [hidx, if_pos hlt]
      exact ⟨rfl, hc.andN hc2⟩
    · refine ⟨gs.length - (j + 1), by omega, hc.andN hc2, j + 1, by rw [wrap_id (by omega) (by omega)]; rfl, hlt, rfl, fun m hm h => ?_⟩
      by_cases hmj : m = j
      · subst hmj; exact hb
      · exact hno m (by omega) h
  · have : j = gs.length := by have := of_decide_eq_false hge; omega
    subst this
    have hidx : gs.findIdx (fun g => g.users == 0) = gs.length := List.findIdx_eq_length.2 (fun g hg => by
      obtain ⟨m, hm, rfl⟩ := List.getElem_of_mem hg
      exact hno m hm hm)
    rw [hidx, if_neg (Nat.lt_irrefl _)]
    exact ⟨rfl, hc⟩
theorem findIdx_users {gs : List PgC} {ps : List PageD} (hl : gs.length = ps.length) (h : ∀ (i : Nat) (h1 : i < gs.length) (h2 : i < ps.length), gs[i].users = ps[i].users) : gs.findIdx (fun g => g.users == 0) = ps.findIdx (fun p => p.users == 0) := by
  induction gs generalizing ps with
  | nil => cases ps with
    | nil => rfl
    | cons p r => simp at hl
  | cons g gs ih => cases ps with
    | nil => simp at hl
    | cons p ps =>
      rw [List.findIdx_cons, List.findIdx_cons]
      have h0 : g.users = p.users := h 0 (by simp) (by simp)
      rw [h0, ih (ps := ps) (by simpa using hl) (fun i h1 h2 => h (i + 1) (by simpa using h1) (by simpa using h2))]
/-- One page laid anew. -/
theorem PgR.set {gs : List PgC} {R : Nat → Nat → Prop} (hP : ∀ (i : Nat) (h1 : i < gs.length) (h2 : i < ps.length), PgR w gs[i] ps[i] (R (3 + i)) (R 2)) {j : Nat} {g : PgC} {p : PageD} (hg : PgR w g p (R (3 + j)) (R 2)) :
    ∀ (i : Nat) (h1 : i < (gs.set j g).length) (h2 : i < (ps.set j p).length), PgR w (gs.set j g)[i] (ps.set j p)[i] (R (3 + i)) (R 2) := fun i h1 h2 => by
  rw [List.getElem_set, List.getElem_set]
  split
  · rename_i e; subst e; exact hg
  · exact hP i (by simpa using h1) (by simpa using h2)
theorem Take_spec (h : PoolR w pb ps F) (v : Int) : Calls Try.prog i_pages_Pool_Take #[.pointer (some ⟨pb, 0, none⟩), .int .i64 v] w (Ret fun x w' => x = .tuple #[.int .i64 (takeV ps v).1, .int .i64 (takeV ps v).2] ∧ PoolR w' pb (takeP ps v) F ∧ Ch F w w') := by
  refine pages_Pool_Take.calls _ _ ?_
  unfold pages_Pool_Take.vc takeV takeP
  refine ⟨fun h1 => ?_, fun h1 => ⟨fun h2 => ?_, fun h2 => ?_⟩⟩
  · have h1 := of_decide_eq_true h1
    rw [if_pos (.inl h1), if_pos (.inl h1)]
    exact ⟨rfl, h, Ch.refl _ _⟩
  · have h2 := of_decide_eq_true h2
    rw [if_pos (.inr h2), if_pos (.inr h2)]
    exact ⟨rfl, h, Ch.refl _ _⟩
  · have h1 := of_decide_eq_false h1
    have h2 := of_decide_eq_false h2
    have hv : ¬ (v < 1 ∨ v > 2147483647) := by omega
    rw [if_neg hv, if_neg hv]
    obtain ⟨o, c, gs, R, hC, hF, hP⟩ := h
    have hl := hC.len
    refine ⟨_, _, _, hC.blk.cell 0 rfl, ?_⟩
    have hC0 : PoolC w pb o c gs R gs.length := by rw [hl]; exact hC
    have sp := Index_spec hC0
    have hidx : gs.findIdx (fun g => g.users == 0) = takeI ps := findIdx_users hl (fun i h1 h2 => (hP i h1 h2).2.1)
    rw [hidx, hl] at sp
    refine step_call sp ?_
    rintro x w1 ⟨rfl, hc1⟩
    have hC1 := hC.keep hc1 (fun _ _ _ => id)
    have hP1 : ∀ (i : Nat) (h1 : i < gs.length) (h2 : i < ps.length), PgR w1 gs[i] ps[i] (R (3 + i)) (R 2) := fun i h1 h2 => (hP i h1 h2).keep hc1 (fun _ _ _ => id) (fun _ _ _ => id)
    by_cases hlt : takeI ps < ps.length
    · rw [if_pos hlt, if_pos hlt]
      have hj : takeI ps < gs.length := by omega
      obtain ⟨p, hp, _, _, _, _, k0, k1, k2⟩ := hC1.at hj
      refine ⟨_, rfl, iteF (by simp) ⟨_, _, _, hC1.blk.cell 0 rfl, ⟨by omega, by omega⟩, ?_⟩⟩
      subst hp
      refine ⟨⟨k0, k1, k2⟩, fun w2 e2 => ?_⟩
      obtain ⟨hC2, hc2⟩ := hC1.put3 hj rfl (g := ⟨v, 1, none, 0, 0⟩) e2
      refine ⟨rfl, PoolR.write hC2 hc2 hF (by rw [List.length_set]) (PgR.set hP1 ⟨rfl, rfl, rfl, [], Own.nil _ _ _ _, .nil, fun e he => by cases he⟩), (hc1.any (F := F)).same (hc2.mono (fun i _ hi => hF 1 i hi))⟩
    · rw [if_neg hlt, if_neg hlt]
      refine ⟨_, rfl, iteT (by decide) ⟨rfl, ?_, hc1.any⟩⟩
      rw [List.set_eq_of_length_le (by omega)]
      exact ⟨o, c, gs, R, hC1, hF, hP1⟩
/-- Whether all of a list have users. -/
def allB (ps : List PageD) (l : List Int) : Bool := l.all (isB ps)
theorem check_c1_spec (h : PoolR w pb ps F) {cb T : Nat} (hc : Blk w cb [.pointer (some ⟨pb, 0, none⟩)] T) (id : Int) : Calls Try.prog i_pages_Pool_check_c1 #[.int .i64 id, .pointer (some ⟨cb, 0, none⟩)] w (Ret fun v w' => v = .bool (!isB ps id) ∧ w' = w) := by
  refine pages_Pool_check_c1.calls _ _ ?_
  unfold pages_Pool_check_c1.vc
  refine ⟨_, hc.cell 0 rfl, ?_⟩
  refine step_call (is_spec h id) ?_
  rintro v w1 ⟨rfl, rfl⟩
  exact ⟨_, rfl, rfl, rfl⟩
theorem check_spec {o : Option Addr} {l : List Int} (h : PoolR w pb ps F) (hr : Rd w o (l.map (.int .i64)) G) (hl : l.length ≤ 1000000) (c : Nat) : Calls Try.prog i_pages_Pool_check #[.pointer (some ⟨pb, 0, none⟩), .slice o l.length c] w (Ret fun v w' => v = .int .i64 (if allB ps l then 0 else 8) ∧ Ch Non w w') := by
  refine pages_Pool_check.calls _ _ _ _ ?_
  unfold pages_Pool_check.vc
  intro w1 e1
  have hB := Blk.new e1
  have hc1 : Ch Non w w1 := Ch.alloc e1
  have h1 := h.keepN hc1
  have hr1 := hr.keepN hc1
  refine ⟨_, hB.cell 0 rfl, iteF rfl ?_⟩
  have hi : Calls Try.prog 112 #[.slice o l.length c, .func (.func i_pages_Pool_check_c1) #[] #[.pointer (some ⟨w.heap.size, 0, none⟩)]] w1 (Ret fun v w' => ∃ i : Int, v = .int .i64 i ∧ decide (i ≥ 0) = !allB ps l ∧ w' = w1) := by
    refine slices_IndexFunc.calls_ck _ _ _ _ ?_
    unfold slices_IndexFunc.vc_ck
    refine ⟨fun i k w' => w' = w1 ∧ ∃ j : Nat, i = j ∧ j ≤ l.length ∧ k = l.length - j ∧ (l.take j).all (isB ps) = true, ⟨_, rfl, 0, rfl, Nat.zero_le _, rfl, rfl⟩, ?_⟩
    rintro jk i k w' ⟨rfl, j, rfl, hj, rfl, hall⟩
    refine ⟨fun hlt => ?_, fun hge => ?_⟩
    · have hlt : j < l.length := by have := of_decide_eq_true hlt; omega
      refine ⟨⟨by omega, by omega⟩, hr1.at (j := (j : Int).toNat * 1) (v := .int .i64 l[j]) (by simp [hlt]) fun p hp => ⟨_, hp, ?_⟩⟩
      refine step_call (check_c1_spec h1 hB _) ?_
      rintro v w2 ⟨rfl, rfl⟩
      refine ⟨_, rfl, fun hb => ⟨_, rfl, ?_, rfl⟩, fun hb => ⟨l.length - (j + 1), by omega, rfl, j + 1, by rw [wrap_id (by omega) (by omega)]; rfl, hlt, rfl, ?_⟩⟩
      · have hb : isB ps l[j] = false := by simpa using hb
        have : allB ps l = false := by
          unfold allB
          rw [List.all_eq_false]
          exact ⟨l[j], List.getElem_mem _, by rw [hb]; simp⟩
        rw [this]; simp
      · have hb : isB ps l[j] = true := by simpa using hb
        rw [take_snoc l j hlt, List.all_append, hall]
        simp [hb]
    · have : j = l.length := by have := of_decide_eq_false hge; omega
      subst this
      rw [List.take_length] at hall
      exact ⟨_, rfl, by unfold allB; rw [hall]; rfl, rfl⟩
  have hcf : Calls Try.prog 96 #[.slice o l.length c, .func (.func i_pages_Pool_check_c1) #[] #[.pointer (some ⟨w.heap.size, 0, none⟩)]] w1 (Ret fun v w' => v = .bool (!allB ps l) ∧ w' = w1) := by
    refine slices_ContainsFunc.calls_ck _ _ _ _ ?_
    unfold slices_ContainsFunc.vc_ck
    refine step_call hi ?_
    rintro v w2 ⟨i, rfl, hd, rfl⟩
    exact ⟨_, rfl, by rw [hd], rfl⟩
  refine step_call hcf ?_
  rintro v w2 ⟨rfl, rfl⟩
  refine ⟨_, rfl, fun hb => ⟨?_, hc1⟩, fun hb => ⟨?_, hc1⟩⟩
  · have hb : allB ps l = false := by simpa using hb
    rw [hb]; rfl
  · have hb : allB ps l = true := by simpa using hb
    rw [hb]; rfl
end
end Go.Proofs.Ytpcddfhfchempaa.Pages
