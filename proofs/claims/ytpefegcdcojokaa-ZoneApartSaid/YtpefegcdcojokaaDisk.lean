/- For every disk: what its methods do; the conditions stand in each theorem. -/
import Derived.Test.YtpefegcdcojokaaDiskC
import Derived.Test.YtpefegcdcojokaaStr2
import Derived.Test.YtpefegcdcojokaaGrow
import Derived.Test.YtpefegcdcojokaaDat
import Derived.Test.YtpefegcdcojokaaVcDisk
set_option linter.unusedVariables false
set_option linter.unusedSimpArgs false
namespace Go.Proofs.Ytpefegcdcojokaa.Disk
open Go Go.Proofs Go.Proofs.Ytpefegcdcojokaa.V Go.Proofs.Ytpefegcdcojokaa.Vc Go.RowKit

structure DkD where
  away : Bool
  fuse : Int
  keep : List Bool
  safe : List (List UInt8)
  loose : List (Int × List UInt8)
  done : Int
structure DkP where
  ko : Option Addr
  kc : Nat
  so : Option Addr
  sc : Nat
  lo : Option Addr
  lc : Nat
def sv (l : List UInt8) : Value := .string (str l)
def wrE (x : Int × List UInt8) : List Value := [.int .i64 x.1, sv x.2]
def dkE (x : DkD) (p : DkP) : List Value := [.bool x.away, .int .i64 x.fuse, .slice p.ko x.keep.length p.kc, .slice p.so x.safe.length p.sc, .slice p.lo x.loose.length p.lc, .int .i64 x.done]
structure DkI (w : World) (d : Nat) (x : DkD) (p : DkP) (FK FS FL : Nat → Prop) : Prop where
  b : Blk w d (dkE x p) t_disk_Disk
  k : Rd w p.ko (x.keep.map .bool) FK
  s : V.Own w t_string 1 p.so x.safe.length p.sc (x.safe.map sv) FS
  l : V.Own w t_disk_write 2 p.lo x.loose.length p.lc (x.loose.map wrE).flatten FL
  ks : ∀ i, FK i → i ≠ d ∧ ¬ FS i ∧ ¬ FL i
  ss : ∀ i, FS i → i ≠ d ∧ ¬ FL i
  ls : ∀ i, FL i → i ≠ d
  lt : ∀ i, FK i ∨ FS i ∨ FL i → i < w.heap.size
structure DkOk (x : DkD) : Prop where
  f : -1 ≤ x.fuse ∧ x.fuse ≤ 1000000000000
  n : 0 ≤ x.done ∧ x.done ≤ 1000000000000
  k : x.keep.length ≤ 1000000
  s : x.safe.length ≤ 4096
  w : x.loose.length ≤ 100000
  at_ : ∀ y ∈ x.loose, 0 ≤ y.1 ∧ y.1 < x.safe.length
  s32 : ∀ l ∈ x.safe, l.length = 32
  l32 : ∀ y ∈ x.loose, y.2.length = 32
def layN (loose : List (Int × List UInt8)) (kp : Nat → Bool) (safe : List (List UInt8)) : Nat → List (List UInt8)
  | 0 => safe
  | j + 1 => if kp j then (layN loose kp safe j).set ((loose.getD j (0, [])).1.toNat) (loose.getD j (0, [])).2 else layN loose kp safe j
theorem layN_len (loose : List (Int × List UInt8)) (kp : Nat → Bool) (safe : List (List UInt8)) : ∀ j, (layN loose kp safe j).length = safe.length
  | 0 => rfl
  | j + 1 => by
    unfold layN
    split
    · rw [List.length_set]; exact layN_len loose kp safe j
    · exact layN_len loose kp safe j
def kpOf (ks : List Bool) (j : Nat) : Bool := ks.getD j false
def cutC (x : DkD) (ks : List Bool) : DkD := if x.away then x else { x with away := true, loose := [], safe := layN x.loose (kpOf ks) x.safe x.loose.length }
def useC (x : DkD) : Int × DkD := if x.fuse = 0 then (4, cutC x x.keep) else (0, { x with fuse := max (x.fuse - 1) (-1), done := x.done + 1 })
def chk (x : DkD) (q : Int) : Int := if q < 0 ∨ q ≥ x.safe.length then 3 else if x.away then 4 else 0
def writeC (x : DkD) (q : Int) (l : List UInt8) : Int × DkD :=
  if l.length ≠ 32 then (1, x) else if chk x q ≠ 0 then (chk x q, x) else if (useC x).1 ≠ 0 then useC x else (0, { (useC x).2 with loose := (useC x).2.loose ++ [(q, l)] })
def syncC (x : DkD) : Int × DkD :=
  if x.away then (4, x) else if (useC x).1 ≠ 0 then useC x else (0, { (useC x).2 with loose := [], safe := layN (useC x).2.loose (fun _ => true) (useC x).2.safe (useC x).2.loose.length })
section
variable {w w' : World} {d : Nat} {x : DkD} {p : DkP} {FK FS FL G : Nat → Prop}
theorem DkI.keepN (h : DkI w d x p FK FS FL) (hc : Ch Non w w') : DkI w' d x p FK FS FL :=
  ⟨h.b.keepN hc, h.k.keepN hc, h.s.keepN hc, h.l.keepN hc, h.ks, h.ss, h.ls, fun i hi => Nat.lt_of_lt_of_le (h.lt i hi) hc.size⟩
theorem DkI.keep (h : DkI w d x p FK FS FL) (hc : Ch G w w') (hd : ¬ G d) (hG : ∀ i, FK i ∨ FS i ∨ FL i → ¬ G i) : DkI w' d x p FK FS FL :=
  ⟨h.b.keep hc hd, h.k.keep hc (fun i _ hi => hG i (.inl hi)), h.s.keep hc (fun i _ hi => hG i (.inr (.inl hi))), h.l.keep hc (fun i _ hi => hG i (.inr (.inr hi))), h.ks, h.ss, h.ls, fun i hi => Nat.lt_of_lt_of_le (h.lt i hi) hc.size⟩
theorem pIsOn_spec (h : Blk w d (dkE x p) t_disk_Disk) : Calls Try.prog i_disk_power_IsOn #[.pointer (some ⟨d, 0, none⟩)] w (Ret fun v w' => v = .bool (!x.away) ∧ w' = w) := by
  refine disk_power_IsOn.calls _ ?_
  unfold disk_power_IsOn.vc
  exact ⟨_, h.cell 0 rfl, rfl, rfl⟩
theorem IsOn_spec (h : Blk w d (dkE x p) t_disk_Disk) : Calls Try.prog i_disk_Disk_IsOn #[.pointer (some ⟨d, 0, none⟩)] w (Ret fun v w' => v = .bool (!x.away) ∧ w' = w) := by
  refine disk_Disk_IsOn.calls _ ?_
  unfold disk_Disk_IsOn.vc
  refine step_call (pIsOn_spec h) ?_
  rintro v w1 ⟨rfl, rfl⟩
  exact ⟨_, rfl, rfl, rfl⟩
theorem Len_spec (h : Blk w d (dkE x p) t_disk_Disk) : Calls Try.prog i_disk_Disk_Len #[.pointer (some ⟨d, 0, none⟩)] w (Ret fun v w' => v = .int .i64 x.safe.length ∧ w' = w) := by
  refine disk_Disk_Len.calls _ ?_
  unfold disk_Disk_Len.vc
  exact ⟨_, _, _, h.cell 3 rfl, rfl, rfl⟩
theorem Loose_spec (h : Blk w d (dkE x p) t_disk_Disk) : Calls Try.prog i_disk_Disk_Loose #[.pointer (some ⟨d, 0, none⟩)] w (Ret fun v w' => v = .int .i64 x.loose.length ∧ w' = w) := by
  refine disk_Disk_Loose.calls _ ?_
  unfold disk_Disk_Loose.vc
  exact ⟨_, _, _, h.cell 4 rfl, rfl, rfl⟩
theorem Done_spec (h : Blk w d (dkE x p) t_disk_Disk) : Calls Try.prog i_disk_Disk_Done #[.pointer (some ⟨d, 0, none⟩)] w (Ret fun v w' => v = .int .i64 x.done ∧ w' = w) := by
  refine disk_Disk_Done.calls _ ?_
  unfold disk_Disk_Done.vc
  exact ⟨_, h.cell 5 rfl, rfl, rfl⟩
theorem check_spec (h : Blk w d (dkE x p) t_disk_Disk) (q : Int) : Calls Try.prog i_disk_Disk_check #[.pointer (some ⟨d, 0, none⟩), .int .i64 q] w (Ret fun v w' => v = .int .i64 (chk x q) ∧ w' = w) := by
  refine disk_Disk_check.calls _ _ ?_
  unfold disk_Disk_check.vc chk
  refine ⟨fun h1 => ?_, fun h1 => ⟨_, _, _, h.cell 3 rfl, fun h2 => ?_, fun h2 => ⟨_, h.cell 0 rfl, fun h3 => ?_, fun h3 => ?_⟩⟩⟩
  · rw [if_pos (.inl (of_decide_eq_true h1))]; exact ⟨rfl, rfl⟩
  · rw [if_pos (.inr (of_decide_eq_true h2))]; exact ⟨rfl, rfl⟩
  · have h1 := of_decide_eq_false h1
    have h2 := of_decide_eq_false h2
    rw [if_neg (by omega), if_pos h3]; exact ⟨rfl, rfl⟩
  · have h1 := of_decide_eq_false h1
    have h2 := of_decide_eq_false h2
    have h3 : x.away = false := h3
    rw [if_neg (by omega), h3]; exact ⟨rfl, rfl⟩
theorem Come_spec (h : DkI w d x p FK FS FL) : Calls Try.prog i_disk_Disk_Come #[.pointer (some ⟨d, 0, none⟩)] w (Ret fun v w' => v = .tuple #[] ∧ DkI w' d (if x.away then { x with away := false, fuse := -1 } else x) p FK FS FL ∧ Ch (· = d) w w') := by
  refine disk_Disk_Come.calls _ ?_
  unfold disk_Disk_Come.vc
  refine ⟨_, h.b.cell 0 rfl, fun h1 => ⟨h.b.ok 0 rfl, fun w1 e1 => ?_⟩, fun h1 => ?_⟩
  · have b1 := h.b.set e1
    refine ⟨b1.ok 1 rfl, fun w2 e2 => ?_⟩
    have b2 := b1.set e2
    have hc : Ch (· = d) w w2 := (Ch.set (F := (· = d)) e1 rfl).same (Ch.set e2 rfl)
    rw [if_pos h1]
    have hs := hc.size
    exact ⟨rfl, ⟨b2, h.k.keep hc (fun i _ hi => (h.ks i hi).1), h.s.keep hc (fun i _ hi => (h.ss i hi).1), h.l.keep hc (fun i _ hi => h.ls i hi), h.ks, h.ss, h.ls, fun i hi => Nat.lt_of_lt_of_le (h.lt i hi) hs⟩, hc⟩
  · have h1 : x.away = false := h1
    rw [h1]
    exact ⟨rfl, h, Ch.refl _ _⟩
theorem someV_of {o : Option Addr} {a : Addr} {K : Addr → Prop} (h : o = some a) (k : K a) : someV o K := by subst h; exact k
theorem getD_at {α : Type} {l : List α} {j : Nat} (z : α) (h : j < l.length) : l.getD j z = l[j] := by simp [h]
set_option maxHeartbeats 1000000 in
theorem Cut_spec (h : DkI w d x p FK FS FL) (ok : DkOk x) {ko : Option Addr} {ks : List Bool} (hk : Rd w ko (ks.map .bool) G) (hG : ∀ i, G i → i ≠ d ∧ ¬ FS i) (hkl : ks.length ≤ 1000000) (c : Nat) :
    Calls Try.prog i_disk_Disk_Cut #[.pointer (some ⟨d, 0, none⟩), .slice ko ks.length c] w (Ret fun v w' => v = .tuple #[] ∧ (∃ p', DkI w' d (cutC x ks) p' FK FS FL) ∧ Ch (fun i => i = d ∨ FS i) w w') := by
  refine disk_Disk_Cut.calls _ _ _ _ ?_
  unfold disk_Disk_Cut.vc
  refine step_call (IsOn_spec h.b) ?_
  rintro v w1 ⟨rfl, rfl⟩
  unfold cutC
  refine ⟨_, rfl, fun h1 => ?_, fun h1 => ?_⟩
  · have h1 : x.away = true := by simpa using h1
    rw [if_pos h1]
    exact ⟨rfl, ⟨p, h⟩, Ch.refl _ _⟩
  have h1 : ¬ x.away = true := by simpa using h1
  rw [if_neg h1]
  have hll := ok.w
  refine ⟨_, _, _, h.b.cell 4 rfl, fun i k w' => ∃ j : Nat, i = j ∧ j ≤ x.loose.length ∧ k = x.loose.length - j ∧ Blk w' d (dkE x p) t_disk_Disk ∧ V.Own w' t_string 1 p.so x.safe.length p.sc ((layN x.loose (kpOf ks) x.safe j).map sv) FS ∧ Ch FS w1 w', ⟨_, 0, rfl, Nat.zero_le _, rfl, h.b, h.s, Ch.refl _ _⟩, ?_⟩
  rintro jk i k w2 ⟨j, rfl, hj, rfl, hb, hS, hcj⟩
  refine ⟨fun hlt => ?_, fun hge => ?_⟩
  · have hlt : j < x.loose.length := by have h := of_decide_eq_true hlt; omega
    have hjj : ∀ k : Nat, ((k : Int).toNat) = k := Int.toNat_natCast
    obtain ⟨pa, hpa, _, _, hcell⟩ := (h.l.keep hcj (fun i _ hi hf => (h.ss i hf).2 hi)).rd.elem (sz := 2) (enc := wrE) (fun _ => rfl) (by omega) hlt
    have hget := getD_at (0, []) hlt
    have hat := ok.at_ _ (List.getElem_mem hlt)
    generalize x.loose[j] = y at hcell hget hat
    have h0 := hcell 0 _ rfl
    rw [add_none] at h0
    rw [hjj]
    refine ⟨⟨by omega, by omega⟩, someV_of hpa ?_⟩
    refine ⟨_, _, ⟨h0, hcell 1 _ rfl⟩, fun w3 e3 => ?_⟩
    have hB3 := Blk.new e3
    refine ⟨⟨hB3.ok 0 rfl, hB3.ok 1 rfl⟩, fun w4 e4 => ?_⟩
    have hB4 : Blk w4 w2.heap.size (wrE y) t_disk_write := hB3.all (wrE y) rfl e4
    have hc24 : Ch Non w2 w4 := (Ch.alloc (F := Non) e3).trans (Ch.set2 (F := (· = w2.heap.size)) e4 rfl rfl) (fun i hi he => by omega)
    have hs24 := hc24.size
    have hS4 := hS.keepN hc24
    have hb4 := hb.keepN hc24
    have hcj4 := hcj.andN hc24
    have hnS : ¬ FS w2.heap.size := fun hf => by have := h.lt _ (.inr (.inl hf)); have := hcj.size; omega
    have hnext : ∀ {w9 : World}, Blk w9 d (dkE x p) t_disk_Disk → V.Own w9 t_string 1 p.so x.safe.length p.sc ((layN x.loose (kpOf ks) x.safe (j + 1)).map sv) FS → Ch FS w1 w9 → ∃ vk_1 : Nat, vk_1 < x.loose.length - j ∧ ∃ j_1 : Nat, IntKind.i64.wrap ((j : Int) + 1) = j_1 ∧ j_1 ≤ x.loose.length ∧ vk_1 = x.loose.length - j_1 ∧ Blk w9 d (dkE x p) t_disk_Disk ∧ V.Own w9 t_string 1 p.so x.safe.length p.sc ((layN x.loose (kpOf ks) x.safe j_1).map sv) FS ∧ Ch FS w1 w9 := fun a b c => ⟨x.loose.length - (j + 1), by omega, j + 1, by rw [wrap_id (by omega) (by omega)]; rfl, hlt, rfl, a, b, c⟩
    have hskip : kpOf ks j = false → layN x.loose (kpOf ks) x.safe (j + 1) = layN x.loose (kpOf ks) x.safe j := fun hk => by show (if kpOf ks j = true then _ else _) = _; rw [hk]; rfl
    have hdo : kpOf ks j = true → layN x.loose (kpOf ks) x.safe (j + 1) = (layN x.loose (kpOf ks) x.safe j).set y.1.toNat y.2 := fun hk => by show (if kpOf ks j = true then _ else _) = _; rw [if_pos hk, hget]
    have hlen := layN_len x.loose (kpOf ks) x.safe j
    refine ⟨fun hjk => ?_, fun hjk => ?_⟩
    · have hjk : j < ks.length := by have h := of_decide_eq_true hjk; omega
      refine ⟨⟨by omega, by omega⟩, ?_⟩
      rw [Nat.mul_one]
      refine ((hk.keep hcj (fun i _ hi => (hG i hi).2)).keepN hc24).typed hjk fun pk hpk => ⟨_, hpk, fun hkt => ?_, fun hkf => ?_⟩
      · have hkt : kpOf ks j = true := by unfold kpOf; rw [getD_at false hjk]; exact hkt
        refine ⟨fun w' => Ch FS w4 w', fun w5 e5 => ⟨(Ch.drew e5).any, _, _, _, fun w' hc => (hb4.keep hc (fun hf => (h.ss d hf).1 rfl)).cell 3 rfl, _, fun w' hc => (hB4.keep hc hnS).cell 0 rfl, _, fun w' hc => (hB4.keep hc hnS).cell 1 rfl, ⟨hat.1, by omega⟩, ?_⟩⟩
        obtain ⟨qn, hqn⟩ : ∃ qn : Nat, y.1 = qn := ⟨y.1.toNat, by omega⟩
        have hc45 : Ch Non w4 w5 := Ch.drew e5
        have hS5 := hS4.keepN hc45
        have hq : qn < ((layN x.loose (kpOf ks) x.safe j).map sv).length := by rw [List.length_map, hlen]; omega
        rw [hqn, Int.toNat_natCast, Nat.mul_one]
        obtain ⟨ps, hps, _⟩ := hS5.rd qn _ (List.getElem?_eq_getElem hq)
        refine someV_of hps ?_
        refine ⟨hS5.ok (List.getElem?_eq_getElem hq) hps, fun w9 e9 => ?_⟩
        obtain ⟨hS9, hc59⟩ := hS5.set (v := sv y.2) hq hps e9
        have hc49 : Ch FS w4 w9 := hc45.any.same hc59
        refine ⟨hc49, hnext (hb4.keep hc49 (fun hf => (h.ss d hf).1 rfl)) ?_ (hcj4.same hc49)⟩
        rw [hdo hkt, hqn, Int.toNat_natCast, List.map_set]
        exact hS9
      · have hkf : kpOf ks j = false := by unfold kpOf; rw [getD_at false hjk]; exact hkf
        exact hnext hb4 (by rw [hskip hkf]; exact hS4) hcj4
    · have hjk : ¬ j < ks.length := by have h := of_decide_eq_false hjk; omega
      have hkf : kpOf ks j = false := by unfold kpOf; rw [List.getD_eq_getElem?_getD, List.getElem?_eq_none (by omega)]; rfl
      exact hnext hb4 (by rw [hskip hkf]; exact hS4) hcj4
  · have hjn : j = x.loose.length := by have h := of_decide_eq_false hge; omega
    subst hjn
    have hlen := layN_len x.loose (kpOf ks) x.safe x.loose.length
    refine ⟨hb.ok 4 rfl, fun w10 e10 => ?_⟩
    have b10 := hb.set e10
    refine ⟨b10.ok 0 rfl, fun w11 e11 => ?_⟩
    have b11 := b10.set e11
    have hc211 : Ch (· = d) w2 w11 := (Ch.set (F := (· = d)) e10 rfl).same (Ch.set e11 rfl)
    have hs := hcj.size
    have hs2 := hc211.size
    have hcA : Ch (fun i => i = d ∨ FS i) w1 w11 := (hcj.mono (fun i _ hi => .inr hi)).same (hc211.mono (fun i _ hi => .inl hi))
    refine ⟨rfl, ⟨⟨p.ko, p.kc, p.so, p.sc, none, 0⟩, ?_, h.k.keep hcA (fun i _ hi he => he.elim (h.ks i hi).1 (h.ks i hi).2.1), ?_, V.Own.nil _ _ _ _, h.ks, h.ss, h.ls, fun i hi => by have := h.lt i hi; omega⟩, hcA⟩
    · unfold dkE
      rw [hlen]
      exact b11
    · show V.Own w11 t_string 1 p.so (layN x.loose (kpOf ks) x.safe x.loose.length).length p.sc _ FS
      rw [hlen]
      exact hS.keep hc211 (fun i _ hi => (h.ss i hi).1)
theorem lay_mem {loose : List (Int × List UInt8)} {kp : Nat → Bool} {safe : List (List UInt8)} (h1 : ∀ l ∈ safe, l.length = 32) (h2 : ∀ y ∈ loose, y.2.length = 32) : ∀ j, j ≤ loose.length → ∀ l ∈ layN loose kp safe j, l.length = 32
  | 0, _, l, hl => h1 l hl
  | j + 1, hj, l, hl => by
    unfold layN at hl
    split at hl
    · rcases List.mem_or_eq_of_mem_set hl with hl | hl
      · exact lay_mem h1 h2 j (by omega) l hl
      · subst hl
        rw [getD_at (0, []) (show j < loose.length by omega)]
        exact h2 _ (List.getElem_mem _)
    · exact lay_mem h1 h2 j (by omega) l hl
theorem ok_cut (ok : DkOk x) (ks : List Bool) : DkOk (cutC x ks) := by
  unfold cutC
  split
  · exact ok
  · exact ⟨ok.f, ok.n, ok.k, by show (layN _ _ _ _).length ≤ _; rw [layN_len]; exact ok.s, Nat.zero_le _, fun y hy => (by cases hy), lay_mem ok.s32 ok.l32 _ (Nat.le_refl _), fun y hy => (by cases hy)⟩
theorem ok_use (ok : DkOk x) (hd : x.done ≤ 999999999999) : DkOk (useC x).2 := by
  unfold useC
  split
  · exact ok_cut ok _
  · have := ok.f
    have := ok.n
    exact ⟨⟨by show -1 ≤ max (x.fuse - 1) (-1); omega, by show max (x.fuse - 1) (-1) ≤ _; omega⟩, ⟨by show 0 ≤ x.done + 1; omega, by show x.done + 1 ≤ _; omega⟩, ok.k, ok.s, ok.w, ok.at_, ok.s32, ok.l32⟩
theorem use_spec (h : DkI w d x p FK FS FL) (ok : DkOk x) : Calls Try.prog i_disk_Disk_use #[.pointer (some ⟨d, 0, none⟩)] w (Ret fun v w' => v = .int .i64 (useC x).1 ∧ (∃ p', DkI w' d (useC x).2 p' FK FS FL) ∧ Ch (fun i => i = d ∨ FS i) w w') := by
  refine disk_Disk_use.calls _ ?_
  unfold disk_Disk_use.vc useC
  refine ⟨_, h.b.cell 1 rfl, fun h0 => ?_, fun h0 => ?_⟩
  · rw [if_pos (eq_of_beq h0)]
    refine ⟨_, _, _, h.b.cell 2 rfl, ?_⟩
    refine step_call (Cut_spec h ok h.k (fun i hi => ⟨(h.ks i hi).1, (h.ks i hi).2.1⟩) ok.k _) ?_
    rintro v w1 ⟨rfl, hI, hc⟩
    exact ⟨rfl, rfl, hI, hc⟩
  · have h0 : ¬ x.fuse = 0 := by simpa using h0
    rw [if_neg h0]
    have hf := ok.f
    have hn := ok.n
    refine ⟨_, h.b.cell 1 rfl, h.b.ok 1 rfl, fun w2 e2 => ?_⟩
    have e : (if (-1 : Int) > (IntKind.i64.wrap (x.fuse - 1)) then (-1 : Int) else (IntKind.i64.wrap (x.fuse - 1))) = max (x.fuse - 1) (-1) := by rw [wrap_id (by omega) (by omega)]; split <;> omega
    rw [e] at e2
    have b2 := h.b.set e2
    refine ⟨_, b2.cell 5 rfl, b2.ok 5 rfl, fun w3 e3 => ?_⟩
    rw [wrap_id (by omega) (by omega)] at e3
    have b3 := b2.set e3
    have hc : Ch (· = d) w w3 := (Ch.set (F := (· = d)) e2 rfl).same (Ch.set e3 rfl)
    have hs := hc.size
    exact ⟨rfl, ⟨p, b3, h.k.keep hc (fun i _ hi => (h.ks i hi).1), h.s.keep hc (fun i _ hi => (h.ss i hi).1), h.l.keep hc (fun i _ hi => h.ls i hi), h.ks, h.ss, h.ls, fun i hi => Nat.lt_of_lt_of_le (h.lt i hi) hs⟩, hc.mono (fun i _ hi => .inl hi)⟩
theorem ok_write (ok : DkOk x) (hd : x.done ≤ 999999999999) (hw : x.loose.length ≤ 99999) (q : Int) (l : List UInt8) : DkOk (writeC x q l).2 := by
  unfold writeC
  split
  · exact ok
  · split
    · exact ok
    · split
      · exact ok_use ok hd
      · rename_i h32 hck hu
        have ok1 := ok_use ok hd
        have hck : chk x q = 0 := by simpa using hck
        have h32 : l.length = 32 := by simpa using h32
        have hf : ¬ x.fuse = 0 := fun hf => by unfold useC at hu; rw [if_pos hf] at hu; simp at hu
        have hx1 : (useC x).2 = { x with fuse := max (x.fuse - 1) (-1), done := x.done + 1 } := by unfold useC; rw [if_neg hf]
        rw [hx1] at ok1 ⊢
        have hq : 0 ≤ q ∧ q < x.safe.length := by
          unfold chk at hck
          split at hck
          · simp at hck
          · omega
        refine ⟨ok1.f, ok1.n, ok1.k, ok1.s, by show (x.loose ++ [(q, l)]).length ≤ _; rw [List.length_append]; simp; omega, fun y hy => ?_, ok1.s32, fun y hy => ?_⟩
        · rcases List.mem_append.1 hy with hy | hy
          · exact ok.at_ y hy
          · rw [List.mem_singleton] at hy; subst hy; exact hq
        · rcases List.mem_append.1 hy with hy | hy
          · exact ok.l32 y hy
          · rw [List.mem_singleton] at hy; subst hy; exact h32
theorem ok_sync (ok : DkOk x) (hd : x.done ≤ 999999999999) : DkOk (syncC x).2 := by
  unfold syncC
  split
  · exact ok
  · split
    · exact ok_use ok hd
    · have o := ok_use ok hd
      exact ⟨o.f, o.n, o.k, by show (layN _ _ _ _).length ≤ _; rw [layN_len]; exact o.s, Nat.zero_le _, fun y hy => (by cases hy), lay_mem o.s32 o.l32 _ (Nat.le_refl _), fun y hy => (by cases hy)⟩
theorem Write_spec (h : DkI w d x p FK FS FL) (ok : DkOk x) (hw : x.loose.length ≤ 99999) (q : Int) (l : List UInt8) : Calls Try.prog i_disk_Disk_Write #[.pointer (some ⟨d, 0, none⟩), .int .i64 q, .string (str l)] w (Ret fun v w' => v = .int .i64 (writeC x q l).1 ∧ (∃ p' FL', DkI w' d (writeC x q l).2 p' FK FS FL' ∧ ∀ i, FL' i → Ext FL w w' i) ∧ Ch (fun i => i = d ∨ FS i ∨ FL i) w w') := by
  refine disk_Disk_Write.calls _ _ _ ?_
  unfold disk_Disk_Write.vc writeC
  rw [str_size]
  refine ⟨fun h1 => ?_, fun h1 => ?_⟩
  · have h1 : l.length ≠ 32 := by
      have : ¬ ((l.length : Nat) : Int) = 32 := by simpa using h1
      omega
    rw [if_pos h1]
    exact ⟨rfl, ⟨p, FL, h, fun i hi => .inl hi⟩, Ch.refl _ _⟩
  have h1 : l.length = 32 := by
    have : ((l.length : Nat) : Int) = 32 := by simpa using h1
    omega
  rw [if_neg (by omega)]
  refine step_call (check_spec h.b q) ?_
  rintro v w1 ⟨rfl, rfl⟩
  refine ⟨_, rfl, fun h2 => ?_, fun h2 => ?_⟩
  · rw [if_pos (by simpa using h2)]
    exact ⟨rfl, ⟨p, FL, h, fun i hi => .inl hi⟩, Ch.refl _ _⟩
  rw [if_neg (by simpa using h2)]
  refine step_call (use_spec h ok) ?_
  rintro v w2 ⟨rfl, ⟨p2, h2⟩, hc2⟩
  have hc2' : Ch (fun i => i = d ∨ FS i ∨ FL i) w1 w2 := hc2.mono (fun i _ hi => hi.imp id .inl)
  refine ⟨_, rfl, fun h3 => ?_, fun h3 => ?_⟩
  · rw [if_pos (by simpa using h3)]
    exact ⟨rfl, ⟨p2, FL, h2, fun i hi => .inl hi⟩, hc2'⟩
  have h3 : (useC x).1 = 0 := by simpa using h3
  rw [if_neg (by omega)]
  have hl2 : (useC x).2.loose.length ≤ 99999 := by
    unfold useC at h3 ⊢
    split at h3
    · simp at h3
    · rename_i hf; rw [if_neg hf]; exact hw
  generalize (useC x).2 = x2 at h2 hl2
  refine ⟨_, _, _, h2.b.cell 4 rfl, fun w3 e3 => ?_⟩
  have hb3 : Blk w3 w2.heap.size (wrE (q, l)) t_disk_write := Blk.new e3
  have h3' := h2.keepN (Ch.alloc e3)
  have hs2 := hc2.size
  have hs3 := hb3.lt
  obtain ⟨o4, c4, w4, r4, hO4, hc4⟩ := V.Own.appendRd (c2 := 1) (m := 1) el_S_disk_write h3'.l t_S_disk_write hb3.rd rfl (fun u hu => by simp only [wrE, List.mem_cons, List.not_mem_nil, or_false] at hu; rcases hu with rfl | rfl <;> rfl) (by unfold maxLen; omega) (by omega)
  have hs4 := hc4.size
  have hdl := h2.b.lt
  have hnd : ¬ FL d := fun hf => h2.ls d hf rfl
  have b4 := h3'.b.keep hc4 hnd
  refine ⟨o4, _, c4, w4, r4, b4.ok 4 rfl, fun w5 e5 => ?_⟩
  have b5 := b4.set e5
  have hc5 : Ch (· = d) w4 w5 := Ch.set e5 rfl
  have hs5 := hc5.size
  have hX : ∀ i, Ext FL w3 w4 i → FL i ∨ (w2.heap.size ≤ i ∧ i < w4.heap.size) := fun i hi => hi.imp id (fun hi => ⟨by have := hi.1; omega, hi.2⟩)
  have el : (x2.loose ++ [(q, l)]).length = x2.loose.length + 1 := by simp
  have ef : ((x2.loose ++ [(q, l)]).map wrE).flatten = (x2.loose.map wrE).flatten ++ wrE (q, l) := by simp
  have hxd : ∀ i, Ext FL w3 w4 i → i ≠ d := fun i hi => by
    rcases hX i hi with hi | hi
    · exact h2.ls i hi
    · omega
  refine ⟨rfl, ⟨⟨p2.ko, p2.kc, p2.so, p2.sc, o4, c4⟩, Ext FL w3 w4, ⟨?_, ?_, ?_, ?_, fun i hi => ⟨(h2.ks i hi).1, (h2.ks i hi).2.1, fun hx => ?_⟩, fun i hi => ⟨(h2.ss i hi).1, fun hx => ?_⟩, hxd, fun i hi => ?_⟩, fun i hi => ?_⟩, ?_⟩
  · unfold dkE
    rw [el]
    exact b5
  · exact (h3'.k.keep hc4 (fun i _ hi => (h2.ks i hi).2.2)).keep hc5 (fun i _ hi => (h2.ks i hi).1)
  · exact (h3'.s.keep hc4 (fun i _ hi => (h2.ss i hi).2)).keep hc5 (fun i _ hi => (h2.ss i hi).1)
  · show V.Own w5 t_disk_write 2 o4 (x2.loose ++ [(q, l)]).length c4 _ _
    rw [el, ef]
    exact hO4.keep hc5 (fun i _ hi => hxd i hi)
  · have := h2.lt i (.inl hi)
    rcases hX i hx with hx | hx
    · exact (h2.ks i hi).2.2 hx
    · omega
  · have := h2.lt i (.inr (.inl hi))
    rcases hX i hx with hx | hx
    · exact (h2.ss i hi).2 hx
    · omega
  · rcases hi with hi | hi | hi
    · have := h2.lt i (.inl hi); omega
    · have := h2.lt i (.inr (.inl hi)); omega
    · rcases hX i hi with hi | hi
      · have := h2.lt i (.inr (.inr hi)); omega
      · omega
  · rcases hX i hi with hi | hi
    · exact .inl hi
    · exact .inr ⟨by omega, by omega⟩
  · exact ((hc2'.andN (Ch.alloc e3)).same (hc4.mono (fun i _ hi => .inr (.inr hi)))).same (hc5.mono (fun i _ hi => .inl hi))
set_option maxHeartbeats 1000000 in
theorem Sync_spec (h : DkI w d x p FK FS FL) (ok : DkOk x) (hdn : x.done ≤ 999999999999) : Calls Try.prog i_disk_Disk_Sync #[.pointer (some ⟨d, 0, none⟩)] w (Ret fun v w' => v = .int .i64 (syncC x).1 ∧ (∃ p', DkI w' d (syncC x).2 p' FK FS FL) ∧ Ch (fun i => i = d ∨ FS i) w w') := by
  refine disk_Disk_Sync.calls _ ?_
  unfold disk_Disk_Sync.vc syncC
  refine ⟨_, h.b.cell 0 rfl, fun h1 => ?_, fun h1 => ?_⟩
  · rw [if_pos h1]
    exact ⟨rfl, ⟨p, h⟩, Ch.refl _ _⟩
  have h1 : x.away = false := h1
  rw [if_neg (by rw [h1]; decide)]
  refine step_call (use_spec h ok) ?_
  rintro v w1 ⟨rfl, ⟨p2, h2⟩, hc2⟩
  refine ⟨_, rfl, fun h3 => ?_, fun h3 => ?_⟩
  · rw [if_pos (by simpa using h3)]
    exact ⟨rfl, ⟨p2, h2⟩, hc2⟩
  have h3 : (useC x).1 = 0 := by simpa using h3
  rw [if_neg (by omega)]
  have ok2 := ok_use ok hdn
  generalize (useC x).2 = x2 at h2 ok2
  clear h3 h1 h ok hdn
  have h := h2
  have ok := ok2
  have hll := ok.w
  clear h2 ok2
  revert h ok hll
  generalize p2 = p
  generalize x2 = x
  intro h ok hll
  refine ⟨_, _, _, h.b.cell 4 rfl, fun i k w' => ∃ j : Nat, i = j ∧ j ≤ x.loose.length ∧ k = x.loose.length - j ∧ Blk w' d (dkE x p) t_disk_Disk ∧ V.Own w' t_string 1 p.so x.safe.length p.sc ((layN x.loose (fun _ => true) x.safe j).map sv) FS ∧ Ch FS w1 w', ⟨_, 0, rfl, Nat.zero_le _, rfl, h.b, h.s, Ch.refl _ _⟩, ?_⟩
  rintro jk i k w2 ⟨j, rfl, hj, rfl, hb, hS, hcj⟩
  refine ⟨fun hlt => ?_, fun hge => ?_⟩
  · have hlt : j < x.loose.length := by have h := of_decide_eq_true hlt; omega
    have hjj : ∀ k : Nat, ((k : Int).toNat) = k := Int.toNat_natCast
    obtain ⟨pa, hpa, _, _, hcell⟩ := (h.l.keep hcj (fun i _ hi hf => (h.ss i hf).2 hi)).rd.elem (sz := 2) (enc := wrE) (fun _ => rfl) (by omega) hlt
    have hget := getD_at (0, []) hlt
    have hat := ok.at_ _ (List.getElem_mem hlt)
    generalize x.loose[j] = y at hcell hget hat
    have h0 := hcell 0 _ rfl
    rw [add_none] at h0
    rw [hjj]
    refine ⟨⟨by omega, by omega⟩, someV_of hpa ?_⟩
    refine ⟨_, _, ⟨h0, hcell 1 _ rfl⟩, fun w3 e3 => ?_⟩
    have hB3 := Blk.new e3
    refine ⟨⟨hB3.ok 0 rfl, hB3.ok 1 rfl⟩, fun w4 e4 => ?_⟩
    have hB4 : Blk w4 w2.heap.size (wrE y) t_disk_write := hB3.all (wrE y) rfl e4
    have hc24 : Ch Non w2 w4 := (Ch.alloc (F := Non) e3).trans (Ch.set2 (F := (· = w2.heap.size)) e4 rfl rfl) (fun i hi he => by omega)
    have hs24 := hc24.size
    have hS4 := hS.keepN hc24
    have hb4 := hb.keepN hc24
    have hcj4 := hcj.andN hc24
    have hnS : ¬ FS w2.heap.size := fun hf => by have := h.lt _ (.inr (.inl hf)); have := hcj.size; omega
    have hnext : ∀ {w9 : World}, Blk w9 d (dkE x p) t_disk_Disk → V.Own w9 t_string 1 p.so x.safe.length p.sc ((layN x.loose (fun _ => true) x.safe (j + 1)).map sv) FS → Ch FS w1 w9 → ∃ vk_1 : Nat, vk_1 < x.loose.length - j ∧ ∃ j_1 : Nat, IntKind.i64.wrap ((j : Int) + 1) = j_1 ∧ j_1 ≤ x.loose.length ∧ vk_1 = x.loose.length - j_1 ∧ Blk w9 d (dkE x p) t_disk_Disk ∧ V.Own w9 t_string 1 p.so x.safe.length p.sc ((layN x.loose (fun _ => true) x.safe j_1).map sv) FS ∧ Ch FS w1 w9 := fun a b c => ⟨x.loose.length - (j + 1), by omega, j + 1, by rw [wrap_id (by omega) (by omega)]; rfl, hlt, rfl, a, b, c⟩
    have hdo : layN x.loose (fun _ => true) x.safe (j + 1) = (layN x.loose (fun _ => true) x.safe j).set y.1.toNat y.2 := by show (if true = true then _ else _) = _; rw [if_pos rfl, hget]
    have hlen := layN_len x.loose (fun _ => true) x.safe j
    refine ⟨fun w' => Ch FS w4 w', fun w5 e5 => ⟨(Ch.drew e5).any, _, _, _, fun w' hc => (hb4.keep hc (fun hf => (h.ss d hf).1 rfl)).cell 3 rfl, _, fun w' hc => (hB4.keep hc hnS).cell 0 rfl, _, fun w' hc => (hB4.keep hc hnS).cell 1 rfl, ⟨hat.1, by omega⟩, ?_⟩⟩
    obtain ⟨qn, hqn⟩ : ∃ qn : Nat, y.1 = qn := ⟨y.1.toNat, by omega⟩
    have hc45 : Ch Non w4 w5 := Ch.drew e5
    have hS5 := hS4.keepN hc45
    have hq : qn < ((layN x.loose (fun _ => true) x.safe j).map sv).length := by rw [List.length_map, hlen]; omega
    rw [hqn, Int.toNat_natCast, Nat.mul_one]
    obtain ⟨ps, hps, _⟩ := hS5.rd qn _ (List.getElem?_eq_getElem hq)
    refine someV_of hps ?_
    refine ⟨hS5.ok (List.getElem?_eq_getElem hq) hps, fun w9 e9 => ?_⟩
    obtain ⟨hS9, hc59⟩ := hS5.set (v := sv y.2) hq hps e9
    have hc49 : Ch FS w4 w9 := hc45.any.same hc59
    refine ⟨hc49, hnext (hb4.keep hc49 (fun hf => (h.ss d hf).1 rfl)) ?_ (hcj4.same hc49)⟩
    rw [hdo, hqn, Int.toNat_natCast, List.map_set]
    exact hS9
  · have hjn : j = x.loose.length := by have h := of_decide_eq_false hge; omega
    subst hjn
    have hlen := layN_len x.loose (fun _ => true) x.safe x.loose.length
    refine ⟨hb.ok 4 rfl, fun w10 e10 => ?_⟩
    have b10 := hb.set e10
    have hc211 : Ch (· = d) w2 w10 := Ch.set e10 rfl
    have hs := hcj.size
    have hs2 := hc211.size
    have hcA : Ch (fun i => i = d ∨ FS i) w1 w10 := (hcj.mono (fun i _ hi => .inr hi)).same (hc211.mono (fun i _ hi => .inl hi))
    refine ⟨rfl, ⟨⟨p.ko, p.kc, p.so, p.sc, none, 0⟩, ?_, h.k.keep hcA (fun i _ hi he => he.elim (h.ks i hi).1 (h.ks i hi).2.1), ?_, V.Own.nil _ _ _ _, h.ks, h.ss, h.ls, fun i hi => by have := h.lt i hi; omega⟩, hc2.same hcA⟩
    · unfold dkE
      rw [hlen]
      exact b10
    · show V.Own w10 t_string 1 p.so (layN x.loose (fun _ => true) x.safe x.loose.length).length p.sc _ FS
      rw [hlen]
      exact hS.keep hc211 (fun i _ hi => (h.ss i hi).1)
end
end Go.Proofs.Ytpefegcdcojokaa.Disk
