/- For every disk: what New, Of, Fuse, Image and Read do; the conditions stand in each theorem. -/
import Derived.Test.YtpefegcdcojokaaDisk
import Derived.Test.YtpefegcdcojokaaDiskS
set_option linter.unusedVariables false
set_option linter.unusedSimpArgs false
namespace Go.Proofs.Ytpefegcdcojokaa.Disk
open Go Go.Proofs Go.Proofs.Ytpefegcdcojokaa.V Go.Proofs.Ytpefegcdcojokaa.Vc Go.RowKit

section
variable {w w' : World} {d : Nat} {x : DkD} {p : DkP} {FK FS FL G : Nat → Prop} {o : Option Addr}
theorem Clone_spec {xs : List Bool} (h : Rd w o (xs.map .bool) G) (hl : xs.length ≤ 1000000) (c : Nat) : Calls Try.prog i_slices_Clone #[.slice o xs.length c] w (Ret fun v w' => ∃ (o' : Option Addr) (c' : Nat), v = .slice o' xs.length c' ∧ Rd w' o' (xs.map .bool) (New w w') ∧ Ch Non w w') := by
  refine slices_Clone.calls _ _ _ ?_
  unfold slices_Clone.vc
  refine ⟨fun hn => ?_, fun hn w1 e1 => ?_⟩
  · have hx : xs = [] := by
      cases xs with
      | nil => rfl
      | cons x r =>
        obtain ⟨a, ha, _⟩ := h 0 (.bool x) rfl
        rw [ha] at hn; cases hn
    subst hx
    exact ⟨none, 0, rfl, Rd.nil _ _ _, Ch.refl _ _⟩
  · have hg : Gr Non w w1 t_bool 1 (some ⟨w.heap.size, 0, none⟩) 0 0 [] := Gr.made0 (Ch.refl _ _) e1
    obtain ⟨o', c', w', hr, hg', _⟩ := Gr.app (c2 := c) (m := xs.length) el_S_bool hg t_S_bool (h.keepN (Ch.alloc e1)) (by simp) (fun u hu => by
      obtain ⟨x, _, rfl⟩ := List.mem_map.1 hu
      rfl) (by omega) (by omega)
    rw [Nat.zero_add, List.nil_append] at hg'
    rw [Nat.zero_add] at hr
    exact ⟨o', _, c', w', hr, o', c', rfl, hg'.rd, hg'.2⟩
def fuseC (x : DkD) (n : Int) (ks : List Bool) : DkD := if x.away then x else { x with fuse := max n (-1), keep := ks }
theorem Fuse_spec (h : DkI w d x p FK FS FL) (n : Int) {ks : List Bool} (hk : Rd w o (ks.map .bool) G) (hl : ks.length ≤ 1000000) (c : Nat) : Calls Try.prog i_disk_Disk_Fuse #[.pointer (some ⟨d, 0, none⟩), .int .i64 n, .slice o ks.length c] w (Ret fun v w' => v = .tuple #[] ∧ (∃ p' FK', DkI w' d (fuseC x n ks) p' FK' FS FL ∧ ∀ i, FK' i → FK i ∨ New w w' i) ∧ Ch (· = d) w w') := by
  refine disk_Disk_Fuse.calls _ _ _ _ _ ?_
  unfold disk_Disk_Fuse.vc fuseC
  refine step_call (IsOn_spec h.b) ?_
  rintro v w1 ⟨rfl, rfl⟩
  refine ⟨_, rfl, fun h1 => ?_, fun h1 => ?_⟩
  · have h1 : x.away = false := by simpa using h1
    rw [if_neg (show ¬ x.away = true by rw [h1]; decide)]
    refine step_call (Clone_spec hk hl c) ?_
    rintro v w2 ⟨o2, c2, rfl, hr2, hc2⟩
    have h2 := h.keepN hc2
    refine ⟨_, _, _, rfl, h2.b.ok 1 rfl, fun w3 e3 => ?_⟩
    have e : (if (-1 : Int) > n then (-1 : Int) else n) = max n (-1) := by split <;> omega
    rw [e] at e3
    have b3 := h2.b.set e3
    refine ⟨b3.ok 2 rfl, fun w4 e4 => ?_⟩
    have b4 := b3.set e4
    have hc24 : Ch (· = d) w2 w4 := (Ch.set (F := (· = d)) e3 rfl).same (Ch.set e4 rfl)
    have hs2 := hc2.size
    have hs4 := hc24.size
    have hdl := h.b.lt
    refine ⟨rfl, ⟨⟨o2, c2, p.so, p.sc, p.lo, p.lc⟩, New w1 w2, ⟨b4, hr2.keep hc24 (fun i _ hi he => by have := hi.1; omega), h2.s.keep hc24 (fun i _ hi => (h.ss i hi).1), h2.l.keep hc24 (fun i _ hi => h.ls i hi), fun i hi => ⟨by have := hi.1; omega, fun hf => ?_, fun hf => ?_⟩, h.ss, h.ls, fun i hi => ?_⟩, fun i hi => .inr ⟨hi.1, by have := hi.2; omega⟩⟩, (hc2.any.same hc24)⟩
    · have := h.lt i (.inr (.inl hf)); have := hi.1; omega
    · have := h.lt i (.inr (.inr hf)); have := hi.1; omega
    · rcases hi with hi | hi | hi
      · have := hi.2; omega
      · have := h.lt i (.inr (.inl hi)); omega
      · have := h.lt i (.inr (.inr hi)); omega
  · have h1 : x.away = true := by simpa using h1
    rw [if_pos h1]
    exact ⟨rfl, ⟨p, FK, h, fun i hi => .inl hi⟩, Ch.refl _ _⟩
def diskOf (S : List (List UInt8)) : DkD := ⟨false, -1, [], S, [], 0⟩
theorem flat32 : ∀ {S : List (List UInt8)}, (∀ l ∈ S, l.length = 32) → S.flatten.length = 32 * S.length
  | [], _ => rfl
  | a :: r, h => by
    rw [List.flatten_cons, List.length_append, h a List.mem_cons_self, flat32 (fun l hl => h l (List.mem_cons_of_mem _ hl)), List.length_cons]; omega
theorem Of_spec (w : World) {S : List (List UInt8)} {r : List UInt8} (h32 : ∀ l ∈ S, l.length = 32) (hn : S.length ≤ 4096) (hr : r.length < 32) : Calls Try.prog i_disk_Of #[.string (str (S.flatten ++ r))] w (Ret fun v w' => ∃ (p : DkP) (FS : Nat → Prop), v = .pointer (some ⟨w.heap.size, 0, none⟩) ∧ DkI w' w.heap.size (diskOf S) p Non FS Non ∧ (∀ i, FS i → New w w' i) ∧ Ch Non w w') := by
  refine disk_Of.calls _ ?_
  unfold disk_Of.vc
  intro w1 e1
  have hb1 : Blk w1 w.heap.size (dkE (diskOf []) ⟨none, 0, none, 0, none, 0⟩) t_disk_Disk := Blk.new e1
  have hc1 : Ch Non w w1 := Ch.alloc e1
  have s1 := hb1.lt
  refine ⟨fun img k w' => ∃ (j : Nat) (so : Option Addr) (sc : Nat) (FS : Nat → Prop), j ≤ S.length ∧ k = S.length - j ∧ img = str ((S.drop j).flatten ++ r) ∧ Blk w' w.heap.size (dkE (diskOf (S.take j)) ⟨none, 0, so, sc, none, 0⟩) t_disk_Disk ∧ V.Own w' t_string 1 so j sc ((S.take j).map sv) FS ∧ (∀ i, FS i → New w w' i ∧ i ≠ w.heap.size) ∧ Ch Non w w', ⟨_, 0, none, 0, Non, Nat.zero_le _, rfl, rfl, hb1, V.Own.nil _ _ _ _, fun i hi => hi.elim, hc1⟩, ?_⟩
  clear hb1 hc1 s1 e1
  rintro jk img k w2 ⟨j, so, sc, FS, hj, rfl, rfl, hb, hS, hF, hc⟩
  have hlt2 := hb.lt
  have htl : (diskOf (S.take j)).safe.length = j := by show (S.take j).length = j; rw [List.length_take]; omega
  have hfin : j = S.length → ∃ (p : DkP) (FS : Nat → Prop), Value.pointer (some ⟨w.heap.size, 0, none⟩) = .pointer (some ⟨w.heap.size, 0, none⟩) ∧ DkI w2 w.heap.size (diskOf S) p Non FS Non ∧ (∀ i, FS i → New w w2 i) ∧ Ch Non w w2 := fun h => by
    subst h
    rw [List.take_length] at hb hS
    exact ⟨⟨none, 0, so, sc, none, 0⟩, FS, rfl, ⟨hb, Rd.nil _ _ _, hS, V.Own.nil _ _ _ _, fun i hi => hi.elim, fun i hi => ⟨(hF i hi).2, id⟩, fun i hi => hi.elim, fun i hi => by
      rcases hi with hi | hi | hi
      · exact hi.elim
      · exact (hF i hi).1.2
      · exact hi.elim⟩, fun i hi => (hF i hi).1, hc⟩
  rw [str_size]
  have hdl : (S.drop j).flatten.length = 32 * (S.length - j) := by
    rw [flat32 (fun l hl => h32 l (List.mem_of_mem_drop hl)), List.length_drop]
  refine ⟨fun hge => ⟨_, _, _, hb.cell 3 rfl, fun hlt => ?_, fun hlt => ?_⟩, fun hge => ?_⟩
  · have hge := of_decide_eq_true hge
    rw [List.length_append, hdl] at hge
    have hjl : j < S.length := by omega
    have hdc : S.drop j = S[j] :: S.drop (j + 1) := List.drop_eq_getElem_cons hjl
    have hsj := h32 _ (List.getElem_mem hjl)
    have htk : S.take (j + 1) = S.take j ++ [S[j]] := List.take_succ_eq_append_getElem hjl
    generalize S[j] = a at hdc hsj htk
    have himg : (S.drop j).flatten ++ r = a ++ ((S.drop (j + 1)).flatten ++ r) := by rw [hdc, List.flatten_cons, List.append_assoc]
    rw [himg]
    have hx1 : (str (a ++ ((S.drop (j + 1)).flatten ++ r))).extract 0 (32 : Int).toNat = str a := by
      rw [str_extract, List.drop_zero]
      show str ((a ++ _).take 32) = _
      rw [List.take_left' hsj]
    have hx2 : (str (a ++ ((S.drop (j + 1)).flatten ++ r))).extract (32 : Int).toNat (a ++ ((S.drop (j + 1)).flatten ++ r)).length = str ((S.drop (j + 1)).flatten ++ r) := by
      rw [str_extract, List.take_length]
      show str ((a ++ _).drop 32) = _
      rw [List.drop_left' hsj]
    rw [hx1, hx2]
    have hle : (32 : Int) ≤ (((a ++ ((S.drop (j + 1)).flatten ++ r)).length : Nat) : Int) := by rw [List.length_append, hsj]; omega
    refine ⟨fun w' => Ch FS w2 w', fun w3 e3 => ⟨Ch.drew e3, _, _, _, fun w' hc' => (hb.keep hc' (fun hf => (hF _ hf).2 rfl)).cell 3 rfl, ⟨by omega, hle⟩, fun w5 e5 => ⟨(Ch.drew e3).same (Ch.alloc e5), ?_⟩⟩⟩
    have hc25 : Ch Non w2 w5 := (Ch.drew e3).andN (Ch.alloc e5)
    have s23 : w2.heap.size = w3.heap.size := by subst e3; rfl
    have hb5 : Blk w5 w3.heap.size ([a].map sv) t_string := Blk.new e5
    have hb5l := hb5.lt
    rw [htl]
    obtain ⟨o6, c6, w6, r6, hO6, hc6⟩ := V.Own.appendRd (c2 := 1) (m := 1) el_S_string (hS.keepN hc25) t_S_string hb5.rd rfl (fun u hu => by rw [List.map_singleton, List.mem_singleton] at hu; subst hu; rfl) (by unfold maxLen; omega) (by omega)
    have hs6 := hc6.size
    have hb6 := (hb.keepN hc25).keep hc6 (fun hf => (hF _ hf).2 rfl)
    refine ⟨o6, _, c6, w6, r6, hc25.any.same hc6, hb6.ok 3 rfl, fun w7 e7 => ⟨⟨by omega, hle⟩, ?_⟩⟩
    have hb7 := hb6.set e7
    have hc7 : Ch (· = w.heap.size) w6 w7 := Ch.set e7 rfl
    have hs7 := hc7.size
    have hs25 := hc25.size
    have hwl := hc.size
    have hX : ∀ i, Ext FS w5 w6 i → New w w6 i ∧ i ≠ w.heap.size := fun i hi => by
      rcases hi with hi | hi
      · exact ⟨⟨(hF i hi).1.1, by have := (hF i hi).1.2; omega⟩, (hF i hi).2⟩
      · exact ⟨⟨by have := hi.1; omega, hi.2⟩, by have := hi.1; omega⟩
    have htl1 : (S.take (j + 1)).length = j + 1 := by rw [List.length_take]; omega
    refine ⟨S.length - (j + 1), by omega, j + 1, o6, c6, Ext FS w5 w6, hjl, rfl, rfl, ?_, ?_, fun i hi => ⟨⟨(hX i hi).1.1, by have := (hX i hi).1.2; omega⟩, (hX i hi).2⟩, ?_⟩
    · have e : dkE (diskOf (S.take (j + 1))) ⟨none, 0, o6, c6, none, 0⟩ = (dkE (diskOf (S.take j)) ⟨none, 0, so, sc, none, 0⟩).set 3 (.slice o6 (j + 1) c6) := by
        show [_, _, _, Value.slice o6 (S.take (j + 1)).length c6, _, _] = _
        rw [htl1]; rfl
      rw [e]
      exact hb7
    · rw [htk, List.map_append]
      exact hO6.keep hc7 (fun i _ hi => (hX i hi).2)
    · exact ((hc.andN hc25).trans hc6 (fun i hi hf => by have := (hF i hf).1.1; omega)).trans hc7 (fun i hi he => by omega)
  · have hlt := of_decide_eq_false hlt
    rw [htl] at hlt
    exact hfin (by omega)
  · have hge := of_decide_eq_false hge
    rw [List.length_append, hdl] at hge
    exact hfin (by omega)
def zeros32 : List UInt8 := List.replicate 32 0
def newN (n : Int) : Nat := (min (max n 0) 4096).toNat
theorem flat_rep (m : Nat) : (List.replicate m zeros32).flatten = List.replicate (m * 32) 0 := by
  unfold zeros32
  induction m with
  | zero => rfl
  | succ m ih => rw [List.replicate_succ, List.flatten_cons, ih, List.replicate_append_replicate]; congr 1; omega
theorem New_spec (w : World) (n : Int) : Calls Try.prog i_disk_New #[.int .i64 n] w (Ret fun v w' => ∃ (d : Nat) (p : DkP) (FS : Nat → Prop), v = .pointer (some ⟨d, 0, none⟩) ∧ DkI w' d (diskOf (List.replicate (newN n) zeros32)) p Non FS Non ∧ New w w' d ∧ (∀ i, FS i → New w w' i) ∧ Ch Non w w') := by
  refine disk_New.calls _ ?_
  unfold disk_New.vc
  have hm : newN n ≤ 4096 := by unfold newN; omega
  have e : IntKind.i64.wrap ((if (4096 : Int) < (if (0 : Int) > n then (0 : Int) else n) then (4096 : Int) else (if (0 : Int) > n then (0 : Int) else n)) * 32) = ((newN n * 32 : Nat) : Int) := by
    have : (if (4096 : Int) < (if (0 : Int) > n then (0 : Int) else n) then (4096 : Int) else (if (0 : Int) > n then (0 : Int) else n)) = ((newN n : Nat) : Int) := by unfold newN; (repeat' split) <;> omega
    rw [this, wrap_id (by omega) (by omega)]; omega
  rw [e]
  refine step_call (Repeat_spec w [0] (newN n * 32) (by omega) (by simp)) ?_
  rintro v w1 ⟨rfl, hc1⟩
  have er : Lib.repeatL [0] (newN n * 32) = (List.replicate (newN n) zeros32).flatten ++ [] := by
    have := Lib.repeatL_replicate 0 1 (newN n * 32)
    rw [flat_rep, List.append_nil]
    simpa using this
  rw [er]
  refine ⟨_, rfl, step_call (Of_spec w1 (fun l hl => by rw [List.eq_of_mem_replicate hl]; rfl) (by rw [List.length_replicate]; exact hm) (by decide)) ?_⟩
  rintro v w2 ⟨p, FS, rfl, hI, hF, hc2⟩
  have hs1 := hc1.size
  exact ⟨_, rfl, _, p, FS, rfl, hI, ⟨hs1, hI.b.lt⟩, fun i hi => ⟨by have := (hF i hi).1; omega, (hF i hi).2⟩, hc1.andN hc2⟩
theorem Image_spec (h : DkI w d x p FK FS FL) (ok : DkOk x) : Calls Try.prog i_disk_Disk_Image #[.pointer (some ⟨d, 0, none⟩)] w (Ret fun v w' => v = .string (str x.safe.flatten) ∧ Ch Non w w') := by
  refine disk_Disk_Image.calls _ ?_
  unfold disk_Disk_Image.vc
  have h1 := ok.s
  have h2 := flat32 ok.s32
  refine ⟨_, _, _, h.b.cell 3 rfl, step_call (Join_spec h.s rfl (by omega) (by omega)) ?_⟩
  rintro v w1 ⟨rfl, hc⟩
  exact ⟨_, rfl, rfl, hc⟩
def readC (x : DkD) (q : Int) : List UInt8 := ((x.loose.reverse.find? (fun y => decide (y.1 = q))).map (·.2)).getD (x.safe.getD q.toNat [])
theorem Read_spec (h : DkI w d x p FK FS FL) (ok : DkOk x) (q : Int) : Calls Try.prog i_disk_Disk_Read #[.pointer (some ⟨d, 0, none⟩), .int .i64 q] w (Ret fun v w' => v = .tuple #[.string (str (if chk x q = 0 then readC x q else [])), .int .i64 (chk x q)] ∧ Ch Non w w') := by
  have hdl := h.b.lt
  have hck : ∀ W, Below w.heap.size w W → CallsIn Fence.wide (3 - 1) Try.prog 33 #[.pointer (some ⟨d, 0, none⟩), .int .i64 q] W fun e W' => e = .returned (.int .i64 (chk x q)) ∧ W' = W := fun W hB => by
    refine callsIn_wide.2 ?_
    refine Calls.mono (check_spec (h.b.keepN (Ch.of_below hB)) q) ?_
    intro e W' he
    cases e with
    | panicked c => exact he.elim
    | outgrown => exact he.elim
    | returned v => obtain ⟨rfl, rfl⟩ := he; exact ⟨rfl, rfl⟩
  by_cases hc0 : chk x q = 0
  · rw [hc0] at hck ⊢
    rw [if_pos rfl]
    have hq : 0 ≤ q ∧ q < x.safe.length := by
      unfold chk at hc0
      split at hc0
      · simp at hc0
      · omega
    have hw := ok.w
    obtain ⟨l1, l2, l3, l4⟩ := h.l
    obtain ⟨s1, s2, s3, s4⟩ := h.s
    have hzl : (x.loose.map fun y => (y.1, str y.2)).length = x.loose.length := List.length_map _
    have hzg : ∀ j (hj : j < x.loose.length), ((x.loose.map fun y => (y.1, str y.2))[j]?).getD (0, .empty) = (x.loose[j].1, str x.loose[j].2) := fun j hj => by simp [hj]
    have hI : (x.loose.map fun y => (y.1, str y.2)) = [] ∨ ∃ b off, p.lo = some ⟨b, off, none⟩ ∧ b < w.heap.size ∧ ∀ j, j < (x.loose.map fun y => (y.1, str y.2)).length → w.cell? ⟨b, off + j * 2, none⟩ = some (.int .i64 (((x.loose.map fun y => (y.1, str y.2))[j]?).getD (0, .empty)).1) ∧ w.cell? ⟨b, off + j * 2 + 1, none⟩ = some (.string (((x.loose.map fun y => (y.1, str y.2))[j]?).getD (0, .empty)).2) := by
      rcases l4 with ⟨ho, hc⟩ | ⟨g, off, cur, ho, hF, hb, hl, ht⟩
      · left
        have : x.loose.length = 0 := by omega
        rw [List.eq_nil_of_length_eq_zero this]; rfl
      · right
        refine ⟨g, off, ho, hb.lt, fun j hj => ?_⟩
        rw [hzl] at hj
        obtain ⟨pa, hpa, _, _, hcell⟩ := h.l.rd.elem (sz := 2) (enc := wrE) (fun _ => rfl) (by omega) hj
        rw [ho] at hpa
        injection hpa with hpa
        subst hpa
        rw [hzg j hj]
        have c0 := hcell 0 _ rfl
        have c1 := hcell 1 _ rfl
        rw [add_at, add_at] at c0 c1
        exact ⟨c0, c1⟩
    rcases s4 with ⟨ho, hc⟩ | ⟨sb, so, cur, ho, hF, hb, hl, ht⟩
    · omega
    have hs : w.cell? ⟨d, 3, none⟩ = some (.slice (some ⟨sb, so, none⟩) x.safe.length p.sc) := by rw [← ho]; exact h.b.cell 3 rfl
    have hqn : q.toNat < (x.safe.map sv).length := by rw [List.length_map]; omega
    have hv : w.cell? ⟨sb, so + q.toNat, none⟩ = some (.string (str (x.safe.getD q.toNat []))) := by
      obtain ⟨ad, had, _, _, hcv⟩ := h.s.rd q.toNat _ (List.getElem?_eq_getElem hqn)
      rw [ho] at had
      injection had with had
      subst had
      rw [add_at] at hcv
      rw [hcv, List.getElem_map, getD_at [] (by omega)]; rfl
    have hmain := callsIn_wide.1 (ReadYes_in 3 trivial trivial trivial trivial (by omega) d q w hdl hck p.lo p.lc (x.loose.map fun y => (y.1, str y.2)) (by rw [hzl]; omega) (by rw [hzl]; exact h.b.cell 4 rfl) hI sb so x.safe.length p.sc _ hs hb.lt hq.1 hq.2 hv)
    refine Calls.mono hmain ?_
    have hat : ∀ j, j < x.loose.length → atB (x.loose.map fun y => (y.1, str y.2)) j = (((x.loose.length - 1 - j : Nat) : Int), (x.loose[x.loose.length - 1 - j]!.1), str (x.loose[x.loose.length - 1 - j]!.2)) := fun j hj => by
      unfold atB
      rw [hzl, hzg _ (by omega), getElem!_pos x.loose (x.loose.length - 1 - j) (by omega)]
    rintro e w' ⟨hB, hh⟩
    rw [hzl] at hh
    rcases hh with ⟨k, hk, ha, hno, rfl⟩ | ⟨hno, rfl⟩
    · refine ⟨?_, Ch.of_below hB⟩
      rw [hat k hk] at ha ⊢
      have hf : x.loose.reverse.find? (fun y => decide (y.1 = q)) = some (x.loose[x.loose.length - 1 - k]'(by omega)) := by
        rw [List.find?_eq_some_iff_getElem]
        refine ⟨?_, k, by rw [List.length_reverse]; exact hk, by rw [List.getElem_reverse], fun j hj => ?_⟩
        · rw [getElem!_pos x.loose (x.loose.length - 1 - k) (by omega)] at ha
          exact decide_eq_true ha
        · have := hno j hj
          rw [hat j (by omega), getElem!_pos x.loose (x.loose.length - 1 - j) (by omega)] at this
          rw [List.getElem_reverse]
          simpa using this
      unfold readC
      rw [hf, getElem!_pos x.loose (x.loose.length - 1 - k) (by omega)]
      rfl
    · refine ⟨?_, Ch.of_below hB⟩
      have hf : x.loose.reverse.find? (fun y => decide (y.1 = q)) = none := by
        rw [List.find?_eq_none]
        intro y hy
        rw [List.mem_reverse] at hy
        obtain ⟨j, hj, rfl⟩ := List.getElem_of_mem hy
        have := hno (x.loose.length - 1 - j) (by omega)
        rw [hat _ (by omega), show x.loose.length - 1 - (x.loose.length - 1 - j) = j by omega, getElem!_pos x.loose j hj] at this
        simpa using this
      unfold readC
      rw [hf]
      rfl
  · rw [if_neg hc0]
    have hmain := callsIn_wide.1 (ReadNo_in Fence.wide 3 trivial trivial rfl (by omega) d q (chk x q) hc0 w hck)
    refine Calls.mono hmain ?_
    rintro e w' ⟨rfl, hB⟩
    exact ⟨rfl, Ch.of_below hB⟩
end
end Go.Proofs.Ytpefegcdcojokaa.Disk
