/- For every pool of pages in memory: what sharing and dropping pages, a put and a get leave; the conditions stand in each theorem. -/
import Derived.Test.YtpcddfhfchempaaPages2
set_option linter.unusedVariables false
set_option linter.unusedSimpArgs false
namespace Go.Proofs.Ytpcddfhfchempaa.Pages
open Go Go.Proofs Go.Proofs.Ytpcddfhfchempaa.V Go.Proofs.Ytpcddfhfchempaa.Vc Go.Proofs.Ytpcddfhfchempaa.Step Go.RowKit

def bnd (B : Int) (ps : List PageD) : Prop := ∀ p ∈ ps, -B ≤ p.users ∧ p.users ≤ B
def addU (d : Int) (ps : List PageD) (id : Int) : List PageD := ps.set id.toNat { pgAt ps id with users := (pgAt ps id).users + d }
def shareL (ps : List PageD) (l : List Int) : List PageD := l.foldl (addU 1) ps
def dropU (ps : List PageD) (id : Int) : List PageD := if (pgAt ps id).users - 1 = 0 then ps.set id.toNat pg0 else addU (-1) ps id
def dropL (ps : List PageD) (l : List Int) : List PageD := l.foldl dropU ps
def overB (ps : List PageD) (l : List Int) : Bool := l.any fun id => decide ((l.count id : Int) > (pgAt ps id).users)
theorem addU_len (d : Int) (ps : List PageD) (id : Int) : (addU d ps id).length = ps.length := by unfold addU; rw [List.length_set]
theorem shareL_len (l : List Int) : ∀ ps, (shareL ps l).length = ps.length := by
  unfold shareL
  induction l with
  | nil => intro ps; rfl
  | cons x r ih => intro ps; rw [List.foldl_cons, ih, addU_len]
theorem dropU_len (ps : List PageD) (id : Int) : (dropU ps id).length = ps.length := by
  unfold dropU; split
  · rw [List.length_set]
  · exact addU_len _ _ _
theorem dropL_len (l : List Int) : ∀ ps, (dropL ps l).length = ps.length := by
  unfold dropL
  induction l with
  | nil => intro ps; rfl
  | cons x r ih => intro ps; rw [List.foldl_cons, ih, dropU_len]
theorem shareL_snoc (ps : List PageD) (l : List Int) (x : Int) : shareL ps (l ++ [x]) = addU 1 (shareL ps l) x := by unfold shareL; rw [List.foldl_append]; rfl
theorem dropL_snoc (ps : List PageD) (l : List Int) (x : Int) : dropL ps (l ++ [x]) = dropU (dropL ps l) x := by unfold dropL; rw [List.foldl_append]; rfl
theorem bnd_at {B : Int} {ps : List PageD} (h : bnd B ps) (hB : 0 ≤ B) (id : Int) : -B ≤ (pgAt ps id).users ∧ (pgAt ps id).users ≤ B := by
  unfold pgAt
  split
  · by_cases hl : id.toNat < ps.length
    · rw [List.getD_eq_getElem?_getD, List.getElem?_eq_getElem hl]; exact h _ (List.getElem_mem hl)
    · rw [List.getD_eq_getElem?_getD, List.getElem?_eq_none (by omega)]; simp [pg0]; omega
  · simp [pg0]; omega
theorem mem_set_of {α : Type} {l : List α} {i : Nat} {x y : α} (h : y ∈ l.set i x) : y = x ∨ y ∈ l := by
  obtain ⟨j, hj, rfl⟩ := List.getElem_of_mem h
  rw [List.getElem_set]
  split
  · exact .inl rfl
  · exact .inr (List.getElem_mem _)
theorem addU_bnd {B : Int} {ps : List PageD} (h : bnd B ps) (hB : 0 ≤ B) {d : Int} (hd : -1 ≤ d ∧ d ≤ 1) (id : Int) : bnd (B + 1) (addU d ps id) := fun p hp => by
  have h2 := bnd_at h hB id
  rcases mem_set_of hp with rfl | hp
  · show -(B + 1) ≤ (pgAt ps id).users + d ∧ (pgAt ps id).users + d ≤ B + 1
    omega
  · have := h p hp; omega
theorem dropU_bnd {B : Int} {ps : List PageD} (h : bnd B ps) (hB : 0 ≤ B) (id : Int) : bnd (B + 1) (dropU ps id) := by
  unfold dropU
  split
  · intro p hp
    rcases mem_set_of hp with rfl | hp
    · simp [pg0]; omega
    · have := h p hp; omega
  · exact addU_bnd h hB (by omega) id
theorem shareL_bnd {B : Int} (hB : 0 ≤ B) (l : List Int) : ∀ {ps}, bnd B ps → bnd (B + l.length) (shareL ps l) := by
  induction l generalizing B with
  | nil => intro ps h; simpa [shareL] using h
  | cons x r ih =>
    intro ps h
    have := ih (B := B + 1) (by omega) (addU_bnd h hB (d := 1) (by omega) x)
    rw [List.length_cons]
    have e : B + ((r.length + 1 : Nat) : Int) = B + 1 + r.length := by omega
    rw [e]; exact this
theorem dropL_bnd {B : Int} (hB : 0 ≤ B) (l : List Int) : ∀ {ps}, bnd B ps → bnd (B + l.length) (dropL ps l) := by
  induction l generalizing B with
  | nil => intro ps h; simpa [dropL] using h
  | cons x r ih =>
    intro ps h
    have := ih (B := B + 1) (by omega) (dropU_bnd h hB x)
    rw [List.length_cons]
    have e : B + ((r.length + 1 : Nat) : Int) = B + 1 + r.length := by omega
    rw [e]; exact this
section
variable {w : World} {pb : Nat} {ps : List PageD} {F G : Nat → Prop} {o : Option Addr} {l : List Int}
theorem Share_spec {B : Int} (h : PoolR w pb ps F) (hr : Rd w o (l.map (.int .i64)) G) (hd : ∀ i, i < w.heap.size → G i → ¬ F i) (hl : l.length ≤ 1000000) (hB : 0 ≤ B ∧ B ≤ 1000000000000) (hb : bnd B ps) (c : Nat) :
    Calls Try.prog i_pages_Pool_Share #[.pointer (some ⟨pb, 0, none⟩), .slice o l.length c] w (Ret fun v w' => v = .int .i64 (if allB ps l then 0 else 8) ∧ PoolR w' pb (if allB ps l then shareL ps l else ps) F ∧ Ch F w w') := by
  refine pages_Pool_Share.calls _ _ _ _ ?_
  unfold pages_Pool_Share.vc
  refine step_call (check_spec h hr hl c) ?_
  rintro v w1 ⟨rfl, hc1⟩
  cases hall : allB ps l with
  | false => exact ⟨_, rfl, iteT (by simp) ⟨rfl, h.keepN hc1, hc1.any⟩⟩
  | true =>
    refine ⟨_, rfl, iteF (by simp) ?_⟩
    refine ⟨fun i k w' => ∃ j : Nat, i = j ∧ j ≤ l.length ∧ k = l.length - j ∧ PoolR w' pb (shareL ps (l.take j)) F ∧ Ch F w w', ⟨_, 0, rfl, Nat.zero_le _, rfl, h.keepN hc1, hc1.any⟩, ?_⟩
    rintro jk i k w2 ⟨j, rfl, hj, rfl, hP2, hc2⟩
    refine ⟨fun hlt => ?_, fun hge => ?_⟩
    · have hlt : j < l.length := by have := of_decide_eq_true hlt; omega
      have hr2 := hr.keep hc2 hd
      have hid : isB ps l[j] = true := by
        unfold allB at hall
        rw [List.all_eq_true] at hall
        exact hall _ (List.getElem_mem hlt)
      obtain ⟨h0, h1⟩ := isB_lt hid
      have hlen := shareL_len (l.take j) ps
      have hbj := shareL_bnd hB.1 (l.take j) hb
      have hlj : (l.take j).length ≤ 1000000 := by rw [List.length_take]; omega
      have hsn := shareL_snoc ps (l.take j) l[j]
      rw [← take_snoc l j hlt] at hsn
      refine ⟨⟨by omega, by omega⟩, hr2.at (j := (j : Int).toNat * 1) (v := .int .i64 l[j]) (by simp [hlt]) fun p hp => ⟨_, hp, ?_⟩⟩
      generalize l[j] = id at h0 h1 hsn
      generalize shareL ps (l.take j) = qs at hP2 hlen hbj hsn
      have hub := bnd_at hbj (by omega) id
      obtain ⟨o', c', gs, R, hC, hF, hP⟩ := hP2
      have hjg : id.toNat < gs.length := by rw [hC.len]; omega
      have hjq : id.toNat < qs.length := by omega
      obtain ⟨q, hq, _, _, a1, _, _, k1, _⟩ := hC.at hjg
      subst hq
      refine ⟨_, _, _, hC.blk.cell 0 rfl, ⟨by omega, by omega⟩, _, a1, ⟨by omega, by omega⟩, k1, fun w3 e3 => ?_⟩
      have hgu : gs[id.toNat].users = (pgAt qs id).users := by rw [pgAt_lt h0 hjq]; exact (hP _ hjg hjq).2.1
      rw [hgu, wrap_id (by omega) (by omega)] at e3
      obtain ⟨hC3, hc3⟩ := hC.put hjg rfl (q := 1) (by omega) e3 (g := ⟨gs[id.toNat].ver, (pgAt qs id).users + 1, gs[id.toNat].eo, gs[id.toNat].en, gs[id.toNat].ec⟩) rfl
      refine ⟨l.length - (j + 1), by omega, j + 1, by rw [wrap_id (by omega) (by omega)]; rfl, hlt, rfl, ?_, hc2.same (hc3.mono (fun i _ hi => hF 1 i hi))⟩
      rw [hsn]
      unfold addU
      obtain ⟨x1, x2, x3, x4⟩ := hP _ hjg hjq
      rw [← pgAt_lt h0 hjq] at x1 x3 x4
      exact PoolR.write hC3 hc3 hF (by rw [List.length_set]) (PgR.set hP ⟨x1, rfl, x3, x4⟩)
    · have : j = l.length := by have := of_decide_eq_false hge; omega
      subst this
      rw [List.take_length] at hP2
      exact ⟨rfl, hP2, hc2⟩
theorem count_take_le (l : List Int) (j : Nat) (x : Int) : (l.take j).count x ≤ l.count x := (List.take_sublist j l).count_le x
theorem Drop_spec {B : Int} (h : PoolR w pb ps F) (hFs : ∀ i, F i → i < w.heap.size) (hr : Rd w o (l.map (.int .i64)) G) (hG : ∀ i, G i → i < w.heap.size) (hd : ∀ i, i < w.heap.size → G i → ¬ F i) (hl : l.length ≤ 1000000) (hp : ps.length ≤ 1000000) (hB : 0 ≤ B ∧ B ≤ 1000000000000) (hb : bnd B ps) (c : Nat) :
    Calls Try.prog i_pages_Pool_Drop #[.pointer (some ⟨pb, 0, none⟩), .slice o l.length c] w (Ret fun v w' => v = .int .i64 (if allB ps l && !overB ps l then 0 else 8) ∧ PoolR w' pb (if allB ps l && !overB ps l then dropL ps l else ps) F ∧ Ch F w w') := by
  refine pages_Pool_Drop.calls _ _ _ _ ?_
  unfold pages_Pool_Drop.vc
  refine step_call (check_spec h hr hl c) ?_
  rintro v w1 ⟨rfl, hc1⟩
  cases hall : allB ps l with
  | false => exact ⟨_, rfl, iteT (by simp) ⟨rfl, h.keepN hc1, hc1.any⟩⟩
  | true =>
    rw [Bool.true_and]
    have hids : ∀ (j : Nat) (hj : j < l.length), 0 ≤ l[j] ∧ l[j].toNat < ps.length := fun j hj => by
      unfold allB at hall
      rw [List.all_eq_true] at hall
      exact isB_lt (hall _ (List.getElem_mem hj))
    refine ⟨_, rfl, iteF (by simp) (fun w2 e2 => ?_)⟩
    have hM2 : MapI Try.prog w2 w1.heap.size t_int t_int (fun x => (([] : List Int).count x : Int)) 0 := MapI.made e2
    have hc2 : Ch Non w w2 := hc1.andN (Ch.alloc e2)
    have hmbw : w.heap.size ≤ w1.heap.size := hc1.size
    have ht : Try.prog.underlying 110 = some (.map t_int t_int) := by kernel_rfl
    have hk : Try.prog.underlying t_int = some (.int .i64) := by kernel_rfl
    have hz : ∀ w, (zeroValue t_int).run Try.prog w = .ok (.int .i64 0) w := fun w => by kernel_rfl
    clear e2
    generalize w1.heap.size = mb at hM2 hmbw ⊢
    refine ⟨fun i k w' => ∃ j : Nat, i = j ∧ j ≤ l.length ∧ k = l.length - j ∧ MapI Try.prog w' mb t_int t_int (fun x => ((l.take j).count x : Int)) j ∧ Ch Non w w' ∧ ∀ x ∈ l.take j, ((l.take j).count x : Int) ≤ (pgAt ps x).users, ⟨_, 0, rfl, Nat.zero_le _, rfl, hM2, hc2, fun x hx => by simp at hx⟩, ?_⟩
    rintro jk i k w3 ⟨j, rfl, hj, rfl, hM3, hc3, hle⟩
    have hmb : ∀ {a b : World}, Ch Non w a → Ch (· = mb) a b → Ch Non w b := fun h k => h.trans k (fun i hi hx => by omega)
    refine ⟨fun hlt => ?_, fun hge => ?_⟩
    · have hlt : j < l.length := by have := of_decide_eq_true hlt; omega
      obtain ⟨h0, h1⟩ := hids j hlt
      have hsn := take_snoc l j hlt
      have hcl := count_take_le l (j + 1) l[j]
      have hmem : l[j] ∈ l := List.getElem_mem hlt
      refine ⟨⟨by omega, by omega⟩, (hr.keepN hc3).at (j := (j : Int).toNat * 1) (v := .int .i64 l[j]) (by simp [hlt]) fun p hp => ⟨_, hp, ?_⟩⟩
      generalize l[j] = id at h0 h1 hsn hcl hmem
      have hwf : (Lit.int .i64 id).wf = true := wf_i64 (by omega) (by omega)
      have hcj : (l.take j).count id ≤ 1000000 := Nat.le_trans (List.count_le_length) (by rw [List.length_take]; omega)
      have hcs : (l.take (j + 1)).count id = (l.take j).count id + 1 := by rw [hsn, List.count_append]; simp
      have hco : ∀ x, x ≠ id → (l.take (j + 1)).count x = (l.take j).count x := fun x hx => by
        rw [hsn, List.count_append, List.count_cons, List.count_nil]
        have : (id == x) = false := by simpa using fun h => hx h.symm
        rw [this]; simp
      have hlk := hM3.lookup ht hk hk hz hwf
      obtain ⟨w5, hup, hM5, hc5⟩ := hM3.update ht hk hk (by unfold maxLen; omega) hwf (x := ((l.take j).count id : Int) + 1) (wf_i64 (by omega) (by omega))
      have hM5 : MapI Try.prog w5 mb t_int t_int (fun x => ((l.take (j + 1)).count x : Int)) (j + 1) := by
        have : upd (fun x => ((l.take j).count x : Int)) id (((l.take j).count id : Int) + 1) = fun x => ((l.take (j + 1)).count x : Int) := by
          funext x
          unfold upd
          by_cases hx : x = id
          · rw [if_pos hx, hx, hcs]; rfl
          · rw [if_neg hx, hco x hx]
        rw [this] at hM5; exact hM5
      have hc35 := hmb hc3 hc5
      refine ⟨_, w3, hlk, w5, by rw [wrap_id (by omega) (by omega)]; exact hup, ?_⟩
      obtain ⟨o', c', gs, R, hC, hF, hP⟩ := h.keepN hc35
      have hjg : id.toNat < gs.length := by rw [hC.len]; exact h1
      obtain ⟨q, hq, _, _, a1, _⟩ := hC.at hjg
      have hgu : gs[id.toNat].users = (pgAt ps id).users := by rw [pgAt_lt h0 h1]; exact (hP _ hjg h1).2.1
      refine ⟨fun w' => Ch Non w5 w', fun w6 e6 => ⟨Ch.drew e6, _, _, _, fun w' h => (hC.keep h (fun _ _ _ hN => hN)).blk.cell 0 rfl, ⟨by omega, by omega⟩, ?_⟩⟩
      subst hq
      have hus : ∀ w', Ch Non w5 w' → w'.cell? ((q.add (id.toNat * 3)).add 1) = some (.int .i64 (pgAt ps id).users) := fun w' h => by
        obtain ⟨q', hq', _, _, b1, _⟩ := (hC.keep h (fun _ _ _ hN => hN)).at hjg
        have hqq : q = q' := Option.some.inj hq'
        rw [hqq, ← hgu]; exact b1
      have hM6 := hM5.keep (Ch.drew (F := Non) e6) (fun hN => hN)
      refine ⟨_, hus, _, w6, hM6.lookup ht hk hk hz hwf, Ch.drew e6, fun hgt => ?_, fun hng => ?_⟩
      · have hgt := of_decide_eq_true hgt
        have ho : overB ps l = true := by
          unfold overB
          rw [List.any_eq_true]
          exact ⟨id, hmem, decide_eq_true (by omega)⟩
        rw [ho]
        have hc6 := hc35.andN (Ch.drew e6)
        exact ⟨rfl, h.keepN hc6, hc6.any⟩
      · have hng := of_decide_eq_false hng
        refine ⟨l.length - (j + 1), by omega, j + 1, by rw [wrap_id (by omega) (by omega)]; rfl, hlt, rfl, hM6, hc35.andN (Ch.drew e6), fun x hx => ?_⟩
        by_cases hxi : x = id
        · subst hxi; omega
        · rw [hco x hxi]
          rw [hsn, List.mem_append, List.mem_singleton] at hx
          exact hle x (hx.resolve_right hxi)
    · have : j = l.length := by have := of_decide_eq_false hge; omega
      subst this
      rw [List.take_length] at hle
      have ho : overB ps l = false := by
        unfold overB
        rw [List.any_eq_false]
        intro x hx h
        have h := of_decide_eq_true h
        have := hle x hx
        omega
      rw [ho]
      clear hM3 hle
      refine ⟨fun i k w' => ∃ j : Nat, i = j ∧ j ≤ l.length ∧ k = l.length - j ∧ PoolR w' pb (dropL ps (l.take j)) F ∧ Ch F w w', ⟨_, 0, rfl, Nat.zero_le _, rfl, h.keepN hc3, hc3.any⟩, ?_⟩
      rintro jk i k w4 ⟨j, rfl, hj, rfl, hP4, hc4⟩
      refine ⟨fun hlt => ?_, fun hge => ?_⟩
      · have hlt : j < l.length := by have := of_decide_eq_true hlt; omega
        have hr4 := hr.keep hc4 hd
        obtain ⟨h0, h1⟩ := hids j hlt
        have hlen := dropL_len (l.take j) ps
        have hbj := dropL_bnd hB.1 (l.take j) hb
        have hlj : (l.take j).length ≤ 1000000 := by rw [List.length_take]; omega
        have hsn := dropL_snoc ps (l.take j) l[j]
        rw [← take_snoc l j hlt] at hsn
        refine ⟨⟨by omega, by omega⟩, hr4.at (j := (j : Int).toNat * 1) (v := .int .i64 l[j]) (by simp [hlt]) fun p hp => ⟨_, hp, ?_⟩⟩
        generalize l[j] = id at h0 h1 hsn
        generalize dropL ps (l.take j) = qs at hP4 hlen hbj hsn
        have hub := bnd_at hbj (by omega) id
        obtain ⟨o', c', gs, R, hC, hF, hP⟩ := hP4
        have hjg : id.toNat < gs.length := by rw [hC.len]; omega
        have hjq : id.toNat < qs.length := by omega
        obtain ⟨q, hq, _, _, a1, _, _, k1, _⟩ := hC.at hjg
        subst hq
        have hgu : gs[id.toNat].users = (pgAt qs id).users := by rw [pgAt_lt h0 hjq]; exact (hP _ hjg hjq).2.1
        refine ⟨_, _, _, hC.blk.cell 0 rfl, ⟨by omega, by omega⟩, _, a1, ⟨by omega, by omega⟩, k1, fun w5 e5 => ?_⟩
        rw [hgu, wrap_id (by omega) (by omega)] at e5
        obtain ⟨hC5, hc5⟩ := hC.put hjg rfl (q := 1) (by omega) e5 (g := ⟨gs[id.toNat].ver, (pgAt qs id).users - 1, gs[id.toNat].eo, gs[id.toNat].en, gs[id.toNat].ec⟩) rfl
        have hj5 : id.toNat < (gs.set id.toNat ⟨gs[id.toNat].ver, (pgAt qs id).users - 1, gs[id.toNat].eo, gs[id.toNat].en, gs[id.toNat].ec⟩).length := by rw [List.length_set]; exact hjg
        obtain ⟨q', hq', _, _, b1, _, m0, m1, m2⟩ := hC5.at hj5
        have hqq : q = q' := Option.some.inj hq'
        subst hqq
        rw [List.getElem_set_self] at b1
        have hnx : ∀ {ps'} {w'}, dropU qs id = ps' → PoolR w' pb ps' F → Ch F w w' → ∃ vk : Nat, vk < l.length - j ∧ ∃ j' : Nat, IntKind.i64.wrap ((j : Int) + 1) = j' ∧ j' ≤ l.length ∧ vk = l.length - j' ∧ PoolR w' pb (dropL ps (l.take j')) F ∧ Ch F w w' := fun {ps' w'} he hp hc =>
          ⟨l.length - (j + 1), by omega, j + 1, by rw [wrap_id (by omega) (by omega)]; rfl, hlt, rfl, by rw [hsn, he]; exact hp, hc⟩
        have hc45 : Ch F w w5 := hc4.same (hc5.mono (fun i _ hi => hF 1 i hi))
        obtain ⟨x1, x2, x3, x4⟩ := hP _ hjg hjq
        rw [← pgAt_lt h0 hjq] at x1 x3 x4
        refine ⟨_, _, _, hC5.blk.cell 0 rfl, ⟨by omega, by omega⟩, _, b1, fun hz0 => ?_, fun hnz => ?_⟩
        · have hz0 : (pgAt qs id).users - 1 = 0 := by simpa using hz0
          refine ⟨_, _, _, hC5.blk.cell 0 rfl, ⟨by omega, by omega⟩, ⟨m0, m1, m2⟩, fun w6 e6 => ?_⟩
          obtain ⟨hC6, hc6⟩ := hC5.put3 hj5 rfl (g := ⟨0, 0, none, 0, 0⟩) e6
          rw [List.set_set] at hC6
          refine hnx (ps' := qs.set id.toNat pg0) (by unfold dropU; rw [if_pos hz0]) ?_ (hc45.same (hc6.mono (fun i _ hi => hF 1 i hi)))
          exact PoolR.write hC6 (hc5.same hc6) hF (by rw [List.length_set]) (PgR.set hP ⟨rfl, rfl, rfl, [], Own.nil _ _ _ _, .nil, fun e he => by cases he⟩)
        · have hnz : ¬ (pgAt qs id).users - 1 = 0 := by simpa using hnz
          refine hnx (ps' := addU (-1) qs id) (by unfold dropU; rw [if_neg hnz]) ?_ hc45
          unfold addU
          exact PoolR.write hC5 hc5 hF (by rw [List.length_set]) (PgR.set hP ⟨x1, by show (pgAt qs id).users - 1 = (pgAt qs id).users + -1; omega, x3, x4⟩)
      · have : j = l.length := by have := of_decide_eq_false hge; omega
        subst this
        rw [List.take_length] at hP4
        exact ⟨rfl, hP4, hc4⟩
end
end Go.Proofs.Ytpcddfhfchempaa.Pages
