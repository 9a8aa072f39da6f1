import Derived.Test.YtkbikekbaboclaaGreatPkB
import Derived.Test.YtkbikekbaboclaaGreatVcPages
set_option linter.unusedVariables false
set_option linter.unusedSimpArgs false
namespace Go.Proofs.YtkbikekbaboclaaGreat.Pages
open Go Go.Proofs V Vc Step Go.RowKit
structure PageD where
 ver : Int
 users : Int
 es : List Ent
def pg0 : PageD := ⟨0, 0, []⟩
structure PgC where
 ver : Int
 users : Int
 eo : Option Addr
 en : Nat
 ec : Nat
def pgE (g : PgC) : List Value := [.int .i64 g.ver, .int .i64 g.users, .slice g.eo g.en g.ec]
def smallE (e : Ent) : Prop := small e.1 ∧ small e.2
def PgR (w : World) (g : PgC) (p : PageD) (Fo Fd : Nat → Prop) : Prop :=
 g.ver = p.ver ∧ g.users = p.users ∧ g.en = p.es.length ∧ ∃ qs : List (Value × Value), Own w t_step_Entry 2 g.eo g.en g.ec (qs.map pairE).flatten Fo ∧ All2 (fun q e => EntV w q e Fd) qs p.es ∧ (∀ e ∈ p.es, smallE e)
theorem PgR.keep {w w' : World} {g : PgC} {p : PageD} {Fo Fd G : Nat → Prop} (h : PgR w g p Fo Fd) (hc : Ch G w w') (h1 : ∀ i, i < w.heap.size → Fo i → ¬ G i) (h2 : ∀ i, i < w.heap.size → Fd i → ¬ G i) : PgR w' g p Fo Fd := by
 obtain ⟨a, b, c, qs, d, e, f⟩ := h
 exact ⟨a, b, c, qs, d.keep hc h1, e.imp (fun _ _ k => k.keep hc h2), f⟩
structure PoolC (w : World) (pb : Nat) (o : Option Addr) (c : Nat) (gs : List PgC) (R : Nat → Nat → Prop) (n : Nat) : Prop where
 fam : Fam w R
 z : R 0 pb
 blk : Blk w pb [.slice o n c] t_pages_Pool
 own : Own w t_pages_page 3 o n c (gs.map pgE).flatten (R 1)
 len : gs.length = n
def PoolR (w : World) (pb : Nat) (ps : List PageD) (F : Nat → Prop) : Prop :=
 ∃ (o : Option Addr) (c : Nat) (gs : List PgC) (R : Nat → Nat → Prop), PoolC w pb o c gs R ps.length ∧ (∀ k i, R k i → F i) ∧ ∀ (i : Nat) (h1 : i < gs.length) (h2 : i < ps.length), PgR w gs[i] ps[i] (R (3 + i)) (R 2)
section
variable {w w' : World} {pb : Nat} {o : Option Addr} {c n : Nat} {gs : List PgC} {R : Nat → Nat → Prop} {ps : List PageD} {F G : Nat → Prop}
theorem PoolC.keep (h : PoolC w pb o c gs R n) (hc : Ch G w w') (hd : ∀ k i, R k i → ¬ G i) : PoolC w' pb o c gs R n :=
 ⟨h.fam.le hc.size, h.z, h.blk.keep hc (hd 0 pb h.z), h.own.keep hc (fun i _ hi => hd 1 i hi), h.len⟩
theorem PoolR.keep (h : PoolR w pb ps F) (hc : Ch G w w') (hd : ∀ i, i < w.heap.size → F i → ¬ G i) : PoolR w' pb ps F := by
 obtain ⟨o, c, gs, R, hC, hF, hP⟩ := h
 have hd' : ∀ k i, R k i → ¬ G i := fun k i hi => hd i (hC.fam.1 k i hi) (hF k i hi)
 exact ⟨o, c, gs, R, hC.keep hc hd', hF, fun i h1 h2 => (hP i h1 h2).keep hc (fun j _ hj => hd' _ j hj) (fun j _ hj => hd' _ j hj)⟩
theorem PoolR.keepN (h : PoolR w pb ps F) (hc : Ch Non w w') : PoolR w' pb ps F := h.keep hc (fun _ _ _ => id)
theorem PoolR.mono (h : PoolR w pb ps F) (hg : ∀ i, i < w.heap.size → F i → G i) : PoolR w pb ps G := by
 obtain ⟨o, c, gs, R, hC, hF, hP⟩ := h
 exact ⟨o, c, gs, R, hC, fun k i hi => hg i (hC.fam.1 k i hi) (hF k i hi), hP⟩
theorem PoolR.lt (h : PoolR w pb ps F) : pb < w.heap.size ∧ F pb := by
 obtain ⟨o, c, gs, R, hC, hF, hP⟩ := h
 exact ⟨hC.blk.lt, hF 0 pb hC.z⟩
theorem PoolR.len (h : PoolR w pb ps F) : ps.length ≤ maxLen := by
 obtain ⟨o, c, gs, R, hC, hF, hP⟩ := h
 exact Nat.le_trans hC.own.2.1 hC.own.2.2.1
theorem PoolC.at (h : PoolC w pb o c gs R n) {j : Nat} (hj : j < gs.length) : ∃ p, o = some p ∧ R 1 p.block ∧ w.cell? (p.add (j * 3)) = some (.int .i64 gs[j].ver) ∧ w.cell? ((p.add (j * 3)).add 1) = some (.int .i64 gs[j].users) ∧ w.cell? ((p.add (j * 3)).add 2) = some (.slice gs[j].eo gs[j].en gs[j].ec) ∧
  ((∃ u, w.cell? (p.add (j * 3)) = some u) ∧ w.frozen? (p.add (j * 3)) = false) ∧ ((∃ u, w.cell? ((p.add (j * 3)).add 1) = some u) ∧ w.frozen? ((p.add (j * 3)).add 1) = false) ∧ ((∃ u, w.cell? ((p.add (j * 3)).add 2) = some u) ∧ w.frozen? ((p.add (j * 3)).add 2) = false) := by
 obtain ⟨p, hp, _, hF, hc⟩ := h.own.rd.elem (sz := 3) (fun _ => rfl) (by omega) hj
 have h0 := hc 0 _ rfl
 rw [add_none] at h0
 have f0 := flatten_at (enc := pgE) (sz := 3) (q := 0) gs (fun _ => rfl) hj (by omega)
 have f1 := flatten_at (enc := pgE) (sz := 3) (q := 1) gs (fun _ => rfl) hj (by omega)
 have f2 := flatten_at (enc := pgE) (sz := 3) (q := 2) gs (fun _ => rfl) hj (by omega)
 rw [Nat.add_zero] at f0
 refine ⟨p, hp, hF, h0, hc 1 _ rfl, hc 2 _ rfl, h.own.ok f0 hp, ?_, ?_⟩
 ·rw [add_add]; exact h.own.ok f1 hp
 ·rw [add_add]; exact h.own.ok f2 hp
theorem PoolC.put (h : PoolC w pb o c gs R n) {j q : Nat} (hj : j < gs.length) {p : Addr} (hp : o = some p) (hq : q < 3) {v : Value} (ew : w' = w.setCell ((p.add (j * 3)).add q) v) {g : PgC} (hg : pgE g = (pgE gs[j]).set q v) :
  PoolC w' pb o c (gs.set j g) R n ∧ Ch (R 1) w w' := by
 rw [add_add] at ew
 have hlt : j * 3 + q < (gs.map pgE).flatten.length := by
  have := h.own.len
  rw [this, ← h.len]; omega
 obtain ⟨h1, h2⟩ := h.own.set hlt hp ew
 rw [flatten_set (enc := pgE) gs (fun _ => rfl) hj hg hq] at h1
 exact ⟨⟨h.fam.le h2.size, h.z, h.blk.keep h2 (fun hx => h.fam.2 0 1 (by omega) pb h.z hx), h1, by rw [List.length_set]; exact h.len⟩, h2⟩
theorem PoolC.put3 (h : PoolC w pb o c gs R n) {j : Nat} (hj : j < gs.length) {p : Addr} (hp : o = some p) {g : PgC} (ew : w' = ((w.setCell (p.add (j * 3)) (.int .i64 g.ver)).setCell ((p.add (j * 3)).add 1) (.int .i64 g.users)).setCell ((p.add (j * 3)).add 2) (.slice g.eo g.en g.ec)) :
  PoolC w' pb o c (gs.set j g) R n ∧ Ch (R 1) w w' := by
 have h0 : w.setCell (p.add (j * 3)) (.int .i64 g.ver) = w.setCell ((p.add (j * 3)).add 0) (.int .i64 g.ver) := by rw [add_none]
 rw [h0] at ew
 obtain ⟨a1, b1⟩ := h.put hj hp (q := 0) (by omega) rfl (g := ⟨g.ver, gs[j].users, gs[j].eo, gs[j].en, gs[j].ec⟩) rfl
 have hj1 : j < (gs.set j ⟨g.ver, gs[j].users, gs[j].eo, gs[j].en, gs[j].ec⟩).length := by rw [List.length_set]; exact hj
 obtain ⟨a2, b2⟩ := a1.put hj1 hp (q := 1) (by omega) rfl (g := ⟨g.ver, g.users, gs[j].eo, gs[j].en, gs[j].ec⟩) (by rw [List.getElem_set_self]; rfl)
 rw [List.set_set] at a2
 have hj2 : j < (gs.set j ⟨g.ver, g.users, gs[j].eo, gs[j].en, gs[j].ec⟩).length := by rw [List.length_set]; exact hj
 obtain ⟨a3, b3⟩ := a2.put hj2 hp (q := 2) (by omega) ew (g := g) (by rw [List.getElem_set_self]; rfl)
 rw [List.set_set] at a3
 exact ⟨a3, (b1.same b2).same b3⟩
theorem PoolR.write {gs' : List PgC} {ps' : List PageD} (hC : PoolC w' pb o c gs' R n) (hc : Ch (R 1) w w') (hF : ∀ k i, R k i → F i) (hn : ps'.length = n) (hP : ∀ (i : Nat) (h1 : i < gs'.length) (h2 : i < ps'.length), PgR w gs'[i] ps'[i] (R (3 + i)) (R 2)) : PoolR w' pb ps' F := by
 subst hn
 exact ⟨o, c, gs', R, hC, hF, fun i h1 h2 => (hP i h1 h2).keep hc (fun j _ a b => hC.fam.2 (3 + i) 1 (by omega) j a b) (fun j _ a b => hC.fam.2 2 1 (by omega) j a b)⟩
end
def pgAt (ps : List PageD) (id : Int) : PageD := if 0 ≤ id then ps.getD id.toNat pg0 else pg0
def isB (ps : List PageD) (id : Int) : Bool := decide ((pgAt ps id).users > 0)
theorem pgAt_lt {ps : List PageD} {id : Int} (h0 : 0 ≤ id) (h : id.toNat < ps.length) : pgAt ps id = ps[id.toNat] := by
 unfold pgAt
 rw [if_pos h0, List.getD_eq_getElem?_getD, List.getElem?_eq_getElem h]; rfl
theorem isB_lt {ps : List PageD} {id : Int} (h : isB ps id = true) : 0 ≤ id ∧ id.toNat < ps.length := by
 unfold isB pgAt at h
 split at h
 ·rename_i h0
  refine ⟨h0, Nat.lt_of_not_le fun hle => ?_⟩
  rw [List.getD_eq_getElem?_getD, List.getElem?_eq_none hle] at h
  simp [pg0] at h
 ·simp [pg0] at h
section
variable {w : World} {pb : Nat} {ps : List PageD} {F G : Nat → Prop}
theorem is_spec (h : PoolR w pb ps F) (id : Int) : Calls Tryz.prog i_pages_Pool_is #[.pointer (some ⟨pb, 0, none⟩), .int .i64 id] w (Ret fun v w' => v = .bool (isB ps id) ∧ w' = w) := by
 obtain ⟨o, c, gs, R, hC, hF, hP⟩ := h
 refine pages_Pool_is.calls _ _ ?_
 unfold pages_Pool_is.vc
 refine ⟨fun h0 => ⟨_, _, _, hC.blk.cell 0 rfl, fun h1 => ?_, fun h1 => ?_⟩, fun h0 => ?_⟩
 ·have h0 := of_decide_eq_true h0
  have h1 := of_decide_eq_true h1
  have hj : id.toNat < gs.length := by rw [hC.len]; omega
  have hj2 : id.toNat < ps.length := by rw [← hC.len]; exact hj
  obtain ⟨p, rfl, _, _, a1, _⟩ := hC.at hj
  refine ⟨_, _, _, hC.blk.cell 0 rfl, ⟨by omega, by omega⟩, _, a1, ?_, rfl⟩
  unfold isB
  rw [pgAt_lt h0 hj2, (hP _ hj hj2).2.1]
 ·have h0 := of_decide_eq_true h0
  have h1 := of_decide_eq_false h1
  cases hb : isB ps id with
  | true => have := isB_lt hb; omega
  | false => exact ⟨rfl, rfl⟩
 ·have h0 := of_decide_eq_false h0
  cases hb : isB ps id with
  | true => have := isB_lt hb; omega
  | false => exact ⟨rfl, rfl⟩
theorem Users_spec (h : PoolR w pb ps F) (id : Int) : Calls Tryz.prog i_pages_Pool_Users #[.pointer (some ⟨pb, 0, none⟩), .int .i64 id] w (Ret fun v w' => v = .int .i64 (if isB ps id then (pgAt ps id).users else 0) ∧ w' = w) := by
 refine pages_Pool_Users.calls _ _ ?_
 unfold pages_Pool_Users.vc
 refine step_call (is_spec h id) ?_
 rintro v w' ⟨rfl, rfl⟩
 obtain ⟨o, c, gs, R, hC, hF, hP⟩ := h
 refine ⟨_, rfl, fun hn => ?_, fun hn => ?_⟩
 ·have hb : isB ps id = false := by simpa using hn
  rw [hb]; exact ⟨rfl, rfl⟩
 ·have hb : isB ps id = true := by simpa using hn
  obtain ⟨h0, h1⟩ := isB_lt hb
  have hj : id.toNat < gs.length := by rw [hC.len]; exact h1
  obtain ⟨p, rfl, _, _, a1, _⟩ := hC.at hj
  refine ⟨_, _, _, hC.blk.cell 0 rfl, ⟨by omega, by omega⟩, _, a1, ?_, rfl⟩
  rw [hb, if_pos rfl, pgAt_lt h0 h1, (hP _ hj h1).2.1]
theorem Version_spec (h : PoolR w pb ps F) (id : Int) : Calls Tryz.prog i_pages_Pool_Version #[.pointer (some ⟨pb, 0, none⟩), .int .i64 id] w (Ret fun v w' => v = .int .i64 (if isB ps id then (pgAt ps id).ver else 0) ∧ w' = w) := by
 refine pages_Pool_Version.calls _ _ ?_
 unfold pages_Pool_Version.vc
 refine step_call (is_spec h id) ?_
 rintro v w' ⟨rfl, rfl⟩
 obtain ⟨o, c, gs, R, hC, hF, hP⟩ := h
 refine ⟨_, rfl, fun hn => ?_, fun hn => ?_⟩
 ·have hb : isB ps id = false := by simpa using hn
  rw [hb]; exact ⟨rfl, rfl⟩
 ·have hb : isB ps id = true := by simpa using hn
  obtain ⟨h0, h1⟩ := isB_lt hb
  have hj : id.toNat < gs.length := by rw [hC.len]; exact h1
  obtain ⟨p, rfl, _, a0, _⟩ := hC.at hj
  refine ⟨_, _, _, hC.blk.cell 0 rfl, ⟨by omega, by omega⟩, _, a0, ?_, rfl⟩
  rw [hb, if_pos rfl, pgAt_lt h0 h1, (hP _ hj h1).1]
theorem Len_spec (h : PoolR w pb ps F) : Calls Tryz.prog i_pages_Pool_Len #[.pointer (some ⟨pb, 0, none⟩)] w (Ret fun v w' => v = .int .i64 ps.length ∧ w' = w) := by
 obtain ⟨o, c, gs, R, hC, hF, hP⟩ := h
 refine pages_Pool_Len.calls _ ?_
 unfold pages_Pool_Len.vc
 exact ⟨_, _, _, hC.blk.cell 0 rfl, rfl, rfl⟩
def freeN (ps : List PageD) : Nat := (ps.filter fun p => !decide (p.users > 0)).length
def ofL (ps : List PageD) (v : Int) (j : Nat) : List Int := ((List.range j).filter fun i : Nat => isB ps (i : Int) && ((pgAt ps (i : Int)).ver == v)).map fun i : Nat => (i : Int)
theorem isB_nat {ps : List PageD} {j : Nat} (h : j < ps.length) : isB ps (j : Int) = decide (ps[j].users > 0) := by
 unfold isB
 rw [pgAt_lt (by omega) (by simpa using h)]
 rfl
theorem Free_spec (h : PoolR w pb ps F) : Calls Tryz.prog i_pages_Pool_Free #[.pointer (some ⟨pb, 0, none⟩)] w (Ret fun v w' => v = .int .i64 (freeN ps) ∧ w' = w) := by
 refine pages_Pool_Free.calls _ ?_
 unfold pages_Pool_Free.vc
 have hml : ps.length ≤ maxLen := h.len
 unfold maxLen at hml
 refine step_call (Len_spec h) ?_
 rintro v w1 ⟨rfl, rfl⟩
 refine ⟨_, rfl, fun n i k w' => w' = w1 ∧ ∃ j : Nat, i = j ∧ j ≤ ps.length ∧ k = ps.length - j ∧ n = freeN (ps.take j), ⟨_, rfl, 0, rfl, Nat.zero_le _, rfl, rfl⟩, ?_⟩
 rintro jk n i k w' ⟨rfl, j, rfl, hj, rfl, rfl⟩
 refine ⟨fun hlt => ?_, fun hge => ?_⟩
 ·have hlt : j < ps.length := by have := of_decide_eq_true hlt; omega
  have hle : freeN (ps.take j) ≤ j := by
   unfold freeN
   exact Nat.le_trans (List.length_filter_le _ _) (by simp; omega)
  have hs : freeN (ps.take (j + 1)) = freeN (ps.take j) + (if isB ps (j : Int) then 0 else 1) := by
   unfold freeN
   rw [take_snoc ps j hlt, List.filter_append, List.length_append, isB_nat hlt, List.filter_cons]
   by_cases hu : ps[j].users > 0
   ·rw [decide_eq_true hu]; simp
   ·rw [decide_eq_false hu]; simp
  refine step_call (is_spec h _) ?_
  rintro v w2 ⟨rfl, rfl⟩
  refine ⟨_, rfl, fun hn => ?_, fun hn => ?_⟩
  ·have hb : isB ps (j : Int) = false := by simpa using hn
   rw [hb] at hs
   refine ⟨ps.length - (j + 1), by omega, rfl, j + 1, by rw [wrap_id (by omega) (by omega)]; rfl, hlt, rfl, ?_⟩
   rw [wrap_id (by omega) (by omega), hs]; rfl
  ·have hb : isB ps (j : Int) = true := by simpa using hn
   rw [hb] at hs
   exact ⟨ps.length - (j + 1), by omega, rfl, j + 1, by rw [wrap_id (by omega) (by omega)]; rfl, hlt, rfl, by rw [hs]; rfl⟩
 ·have : j = ps.length := by have := of_decide_eq_false hge; omega
  subst this
  rw [List.take_length]
  exact ⟨rfl, rfl⟩
end
end Go.Proofs.YtkbikekbaboclaaGreat.Pages
set_option linter.unusedVariables false
set_option linter.unusedSimpArgs false
namespace Go.Proofs.YtkbikekbaboclaaGreat.Pages
open Go Go.Proofs V Vc Step Go.RowKit
theorem rep_flat (e : List Value) : ∀ n, (List.replicate n e).flatten = zeroRow e n
 | 0 => rfl
 | n + 1 => by rw [List.replicate_succ, List.flatten_cons, rep_flat e n]; rfl
theorem New_spec (w : World) (n : Int) (h : 1 ≤ n ∧ n ≤ 64) : Calls Tryz.prog i_pages_New #[.int .i64 n] w (Ret fun v w' => ∃ pb, v = .pointer (some ⟨pb, 0, none⟩) ∧ PoolR w' pb (List.replicate n.toNat pg0) (New w w') ∧ Ch Non w w') := by
 refine pages_New.calls _ ?_
 unfold pages_New.vc
 refine ⟨fun h1 => by have := of_decide_eq_true h1; omega, fun _ => ⟨fun h1 => by have := of_decide_eq_true h1; omega, fun _ => ⟨⟨rfl, by omega, by omega⟩, fun w1 e1 w2 e2 => ?_⟩⟩⟩
 obtain ⟨m, rfl⟩ := Int.eq_ofNat_of_zero_le (by omega : 0 ≤ n)
 rw [Int.toNat_natCast] at e1 ⊢
 have hz : zeroRow [.int .i64 0, .int .i64 0, .slice none 0 0] m = ((List.replicate m (⟨0, 0, none, 0, 0⟩ : PgC)).map pgE).flatten := by
  rw [List.map_replicate, rep_flat]; rfl
 rw [hz] at e1
 have hg : w.heap.size < w1.heap.size := (Blk.new e1).lt
 have hcells : (((List.replicate m (⟨0, 0, none, 0, 0⟩ : PgC)).map pgE).flatten.toArray).size = m * 3 := by
  rw [← hz]
  simp only [List.size_toArray]
  rw [hz, List.map_replicate, List.length_flatten]
  simp [pgE]
 have hO : Own w1 t_pages_page 3 (some ⟨w.heap.size, 0, none⟩) m m ((List.replicate m (⟨0, 0, none, 0, 0⟩ : PgC)).map pgE).flatten (· = w.heap.size) := Own.made (F := (· = w.heap.size)) e1 hcells (by unfold maxLen; omega) rfl
 have hB2 := Blk.new e2
 have hc2 : Ch Non w1 w2 := Ch.alloc e2
 have hs2 : w1.heap.size < w2.heap.size := hB2.lt
 refine ⟨w1.heap.size, rfl, ⟨some ⟨w.heap.size, 0, none⟩, m, List.replicate m ⟨0, 0, none, 0, 0⟩, fun k i => (k = 0 ∧ i = w1.heap.size) ∨ (k = 1 ∧ i = w.heap.size), ⟨⟨fun k i hi => by omega, fun j k hjk i h1 h2 => by omega⟩, .inl ⟨rfl, rfl⟩, ?_, ?_, by simp⟩, fun k i hi => ⟨by omega, by omega⟩, fun i h1 h2 => ?_⟩, (Ch.alloc e1).andN hc2⟩
 ·rw [List.length_replicate]; exact hB2
 ·rw [List.length_replicate]
  exact (hO.keepN hc2).mono (fun i _ hi => .inr ⟨rfl, hi⟩)
 ·rw [List.getElem_replicate, List.getElem_replicate]
  exact ⟨rfl, rfl, rfl, [], Own.nil _ _ _ _, .nil, fun e he => by cases he⟩
def takeI (ps : List PageD) : Nat := ps.findIdx fun p => p.users == 0
def takeV (ps : List PageD) (v : Int) : Int × Int := if v < 1 ∨ v > 2147483647 then (0, 1) else if takeI ps < ps.length then ((takeI ps : Int), 0) else (0, 11)
def takeP (ps : List PageD) (v : Int) : List PageD := if v < 1 ∨ v > 2147483647 then ps else ps.set (takeI ps) ⟨v, 1, []⟩
section
variable {w : World} {pb : Nat} {ps : List PageD} {F G : Nat → Prop}
theorem Take_c1_spec (w : World) (a b : Int) (o : Option Addr) (n c : Nat) : Calls Tryz.prog i_pages_Pool_Take_c1 #[.agg #[.int .i64 a, .int .i64 b, .slice o n c]] w (Ret fun v w' => v = .bool (b == 0) ∧ Ch Non w w') := by
 refine pages_Pool_Take_c1.calls _ _ _ _ _ ?_
 unfold pages_Pool_Take_c1.vc
 intro w1 e1
 exact ⟨_, (Blk.new e1).cell 1 rfl, rfl, Ch.alloc e1⟩
theorem Index_spec {o : Option Addr} {c : Nat} {gs : List PgC} {R : Nat → Nat → Prop} (hC : PoolC w pb o c gs R gs.length) : Calls Tryz.prog 107 #[.slice o gs.length c, .func (.func i_pages_Pool_Take_c1) #[] #[]] w
  (Ret fun v w' => v = .int .i64 (if gs.findIdx (fun g => g.users == 0) < gs.length then (gs.findIdx (fun g => g.users == 0) : Int) else -1) ∧ Ch Non w w') := by
 refine slices_IndexFunc.calls_tk _ _ _ ?_
 unfold slices_IndexFunc.vc_tk
 have hml : gs.length ≤ maxLen := Nat.le_trans hC.own.2.1 hC.own.2.2.1
 unfold maxLen at hml
 refine ⟨fun i k w' => Ch Non w w' ∧ ∃ j : Nat, i = j ∧ j ≤ gs.length ∧ k = gs.length - j ∧ ∀ m (hm : m < j) (h : m < gs.length), (gs[m].users == 0) = false, ⟨_, Ch.refl _ _, 0, rfl, Nat.zero_le _, rfl, fun m hm => by omega⟩, ?_⟩
 rintro jk i k w1 ⟨hc, j, rfl, hj, rfl, hno⟩
 refine ⟨fun hlt => ?_, fun hge => ?_⟩
 ·have hlt : j < gs.length := by have := of_decide_eq_true hlt; omega
  obtain ⟨p, rfl, _, a0, a1, a2, _⟩ := (hC.keep hc (fun _ _ _ => id)).at hlt
  refine ⟨⟨by omega, by omega⟩, _, _, _, _, _, ⟨a0, a1, a2⟩, ?_⟩
  refine step_call (Take_c1_spec w1 _ _ _ _ _) ?_
  rintro v w2 ⟨rfl, hc2⟩
  refine ⟨_, rfl, fun hb => ?_, fun hb => ?_⟩
  ·have hidx : gs.findIdx (fun g => g.users == 0) = j := (List.findIdx_eq hlt).2 ⟨hb, fun m hm => hno m hm (by omega)⟩
   rw [hidx, if_pos hlt]
   exact ⟨rfl, hc.andN hc2⟩
  ·refine ⟨gs.length - (j + 1), by omega, hc.andN hc2, j + 1, by rw [wrap_id (by omega) (by omega)]; rfl, hlt, rfl, fun m hm h => ?_⟩
   by_cases hmj : m = j
   ·subst hmj; exact hb
   ·exact hno m (by omega) h
 ·have : j = gs.length := by have := of_decide_eq_false hge; omega
  subst this
  have hidx : gs.findIdx (fun g => g.users == 0) = gs.length := List.findIdx_eq_length.2 (fun g hg => by
   obtain ⟨m, hm, rfl⟩ := List.getElem_of_mem hg
   exact hno m hm hm)
  rw [hidx, if_neg (Nat.lt_irrefl _)]
  exact ⟨rfl, hc⟩
theorem findIdx_users {gs : List PgC} {ps : List PageD} (hl : gs.length = ps.length) (h : ∀ (i : Nat) (h1 : i < gs.length) (h2 : i < ps.length), gs[i].users = ps[i].users) : gs.findIdx (fun g => g.users == 0) = ps.findIdx (fun p => p.users == 0) := by
 induction gs generalizing ps with
 | nil => cases ps with
  | nil => rfl
  | cons p r => simp at hl
 | cons g gs ih => cases ps with
  | nil => simp at hl
  | cons p ps =>
   rw [List.findIdx_cons, List.findIdx_cons]
   have h0 : g.users = p.users := h 0 (by simp) (by simp)
   rw [h0, ih (ps := ps) (by simpa using hl) (fun i h1 h2 => h (i + 1) (by simpa using h1) (by simpa using h2))]
theorem PgR.set {gs : List PgC} {R : Nat → Nat → Prop} (hP : ∀ (i : Nat) (h1 : i < gs.length) (h2 : i < ps.length), PgR w gs[i] ps[i] (R (3 + i)) (R 2)) {j : Nat} {g : PgC} {p : PageD} (hg : PgR w g p (R (3 + j)) (R 2)) :
  ∀ (i : Nat) (h1 : i < (gs.set j g).length) (h2 : i < (ps.set j p).length), PgR w (gs.set j g)[i] (ps.set j p)[i] (R (3 + i)) (R 2) := fun i h1 h2 => by
 rw [List.getElem_set, List.getElem_set]
 split
 ·rename_i e; subst e; exact hg
 ·exact hP i (by simpa using h1) (by simpa using h2)
theorem Take_spec (h : PoolR w pb ps F) (v : Int) : Calls Tryz.prog i_pages_Pool_Take #[.pointer (some ⟨pb, 0, none⟩), .int .i64 v] w (Ret fun x w' => x = .tuple #[.int .i64 (takeV ps v).1, .int .i64 (takeV ps v).2] ∧ PoolR w' pb (takeP ps v) F ∧ Ch F w w') := by
 refine pages_Pool_Take.calls _ _ ?_
 unfold pages_Pool_Take.vc takeV takeP
 refine ⟨fun h1 => ?_, fun h1 => ⟨fun h2 => ?_, fun h2 => ?_⟩⟩
 ·have h1 := of_decide_eq_true h1
  rw [if_pos (.inl h1), if_pos (.inl h1)]
  exact ⟨rfl, h, Ch.refl _ _⟩
 ·have h2 := of_decide_eq_true h2
  rw [if_pos (.inr h2), if_pos (.inr h2)]
  exact ⟨rfl, h, Ch.refl _ _⟩
 ·have h1 := of_decide_eq_false h1
  have h2 := of_decide_eq_false h2
  have hv : ¬ (v < 1 ∨ v > 2147483647) := by omega
  rw [if_neg hv, if_neg hv]
  obtain ⟨o, c, gs, R, hC, hF, hP⟩ := h
  have hl := hC.len
  refine ⟨_, _, _, hC.blk.cell 0 rfl, ?_⟩
  have hC0 : PoolC w pb o c gs R gs.length := by rw [hl]; exact hC
  have sp := Index_spec hC0
  have hidx : gs.findIdx (fun g => g.users == 0) = takeI ps := findIdx_users hl (fun i h1 h2 => (hP i h1 h2).2.1)
  rw [hidx, hl] at sp
  refine step_call sp ?_
  rintro x w1 ⟨rfl, hc1⟩
  have hC1 := hC.keep hc1 (fun _ _ _ => id)
  have hP1 : ∀ (i : Nat) (h1 : i < gs.length) (h2 : i < ps.length), PgR w1 gs[i] ps[i] (R (3 + i)) (R 2) := fun i h1 h2 => (hP i h1 h2).keep hc1 (fun _ _ _ => id) (fun _ _ _ => id)
  by_cases hlt : takeI ps < ps.length
  ·rw [if_pos hlt, if_pos hlt]
   have hj : takeI ps < gs.length := by omega
   obtain ⟨p, hp, _, _, _, _, k0, k1, k2⟩ := hC1.at hj
   refine ⟨_, rfl, iteF (by simp) ⟨_, _, _, hC1.blk.cell 0 rfl, ⟨by omega, by omega⟩, ?_⟩⟩
   subst hp
   refine ⟨⟨k0, k1, k2⟩, fun w2 e2 => ?_⟩
   obtain ⟨hC2, hc2⟩ := hC1.put3 hj rfl (g := ⟨v, 1, none, 0, 0⟩) e2
   refine ⟨rfl, PoolR.write hC2 hc2 hF (by rw [List.length_set]) (PgR.set hP1 ⟨rfl, rfl, rfl, [], Own.nil _ _ _ _, .nil, fun e he => by cases he⟩), (hc1.any (F := F)).same (hc2.mono (fun i _ hi => hF 1 i hi))⟩
  ·rw [if_neg hlt, if_neg hlt]
   refine ⟨_, rfl, iteT (by decide) ⟨rfl, ?_, hc1.any⟩⟩
   rw [List.set_eq_of_length_le (by omega)]
   exact ⟨o, c, gs, R, hC1, hF, hP1⟩
def allB (ps : List PageD) (l : List Int) : Bool := l.all (isB ps)
theorem check_c1_spec (h : PoolR w pb ps F) {cb T : Nat} (hc : Blk w cb [.pointer (some ⟨pb, 0, none⟩)] T) (id : Int) : Calls Tryz.prog i_pages_Pool_check_c1 #[.int .i64 id, .pointer (some ⟨cb, 0, none⟩)] w (Ret fun v w' => v = .bool (!isB ps id) ∧ w' = w) := by
 refine pages_Pool_check_c1.calls _ _ ?_
 unfold pages_Pool_check_c1.vc
 refine ⟨_, hc.cell 0 rfl, ?_⟩
 refine step_call (is_spec h id) ?_
 rintro v w1 ⟨rfl, rfl⟩
 exact ⟨_, rfl, rfl, rfl⟩
theorem check_spec {o : Option Addr} {l : List Int} (h : PoolR w pb ps F) (hr : Rd w o (l.map (.int .i64)) G) (hl : l.length ≤ 1000000) (c : Nat) : Calls Tryz.prog i_pages_Pool_check #[.pointer (some ⟨pb, 0, none⟩), .slice o l.length c] w (Ret fun v w' => v = .int .i64 (if allB ps l then 0 else 8) ∧ Ch Non w w') := by
 refine pages_Pool_check.calls _ _ _ _ ?_
 unfold pages_Pool_check.vc
 intro w1 e1
 have hB := Blk.new e1
 have hc1 : Ch Non w w1 := Ch.alloc e1
 have h1 := h.keepN hc1
 have hr1 := hr.keepN hc1
 refine ⟨_, hB.cell 0 rfl, iteF rfl ?_⟩
 have hi : Calls Tryz.prog 91 #[.slice o l.length c, .func (.func i_pages_Pool_check_c1) #[] #[.pointer (some ⟨w.heap.size, 0, none⟩)]] w1 (Ret fun v w' => ∃ i : Int, v = .int .i64 i ∧ decide (i ≥ 0) = !allB ps l ∧ w' = w1) := by
  refine slices_IndexFunc.calls_pk _ _ _ _ ?_
  unfold slices_IndexFunc.vc_pk
  refine ⟨fun i k w' => w' = w1 ∧ ∃ j : Nat, i = j ∧ j ≤ l.length ∧ k = l.length - j ∧ (l.take j).all (isB ps) = true, ⟨_, rfl, 0, rfl, Nat.zero_le _, rfl, rfl⟩, ?_⟩
  rintro jk i k w' ⟨rfl, j, rfl, hj, rfl, hall⟩
  refine ⟨fun hlt => ?_, fun hge => ?_⟩
  ·have hlt : j < l.length := by have := of_decide_eq_true hlt; omega
   refine ⟨⟨by omega, by omega⟩, hr1.at (j := (j : Int).toNat * 1) (v := .int .i64 l[j]) (by simp [hlt]) fun p hp => ⟨_, hp, ?_⟩⟩
   refine step_call (check_c1_spec h1 hB _) ?_
   rintro v w2 ⟨rfl, rfl⟩
   refine ⟨_, rfl, fun hb => ⟨_, rfl, ?_, rfl⟩, fun hb => ⟨l.length - (j + 1), by omega, rfl, j + 1, by rw [wrap_id (by omega) (by omega)]; rfl, hlt, rfl, ?_⟩⟩
   ·have hb : isB ps l[j] = false := by simpa using hb
    have : allB ps l = false := by
     unfold allB
     rw [List.all_eq_false]
     exact ⟨l[j], List.getElem_mem _, by rw [hb]; simp⟩
    rw [this]; simp
   ·have hb : isB ps l[j] = true := by simpa using hb
    rw [take_snoc l j hlt, List.all_append, hall]
    simp [hb]
  ·have : j = l.length := by have := of_decide_eq_false hge; omega
   subst this
   rw [List.take_length] at hall
   exact ⟨_, rfl, by unfold allB; rw [hall]; rfl, rfl⟩
 have hcf : Calls Tryz.prog 52 #[.slice o l.length c, .func (.func i_pages_Pool_check_c1) #[] #[.pointer (some ⟨w.heap.size, 0, none⟩)]] w1 (Ret fun v w' => v = .bool (!allB ps l) ∧ w' = w1) := by
  refine slices_ContainsFunc.calls_pk _ _ _ _ ?_
  unfold slices_ContainsFunc.vc_pk
  refine step_call hi ?_
  rintro v w2 ⟨i, rfl, hd, rfl⟩
  exact ⟨_, rfl, by rw [hd], rfl⟩
 refine step_call hcf ?_
 rintro v w2 ⟨rfl, rfl⟩
 refine ⟨_, rfl, fun hb => ⟨?_, hc1⟩, fun hb => ⟨?_, hc1⟩⟩
 ·have hb : allB ps l = false := by simpa using hb
  rw [hb]; rfl
 ·have hb : allB ps l = true := by simpa using hb
  rw [hb]; rfl
end
end Go.Proofs.YtkbikekbaboclaaGreat.Pages
set_option linter.unusedVariables false
set_option linter.unusedSimpArgs false
namespace Go.Proofs.YtkbikekbaboclaaGreat.Pages
open Go Go.Proofs V Vc Step Go.RowKit
def bnd (B : Int) (ps : List PageD) : Prop := ∀ p ∈ ps, -B ≤ p.users ∧ p.users ≤ B
def addU (d : Int) (ps : List PageD) (id : Int) : List PageD := ps.set id.toNat { pgAt ps id with users := (pgAt ps id).users + d }
def shareL (ps : List PageD) (l : List Int) : List PageD := l.foldl (addU 1) ps
def dropU (ps : List PageD) (id : Int) : List PageD := if (pgAt ps id).users - 1 = 0 then ps.set id.toNat pg0 else addU (-1) ps id
def dropL (ps : List PageD) (l : List Int) : List PageD := l.foldl dropU ps
def overB (ps : List PageD) (l : List Int) : Bool := l.any fun id => decide ((l.count id : Int) > (pgAt ps id).users)
theorem addU_len (d : Int) (ps : List PageD) (id : Int) : (addU d ps id).length = ps.length := by unfold addU; rw [List.length_set]
theorem shareL_len (l : List Int) : ∀ ps, (shareL ps l).length = ps.length := by
 unfold shareL
 induction l with
 | nil => intro ps; rfl
 | cons x r ih => intro ps; rw [List.foldl_cons, ih, addU_len]
theorem dropU_len (ps : List PageD) (id : Int) : (dropU ps id).length = ps.length := by
 unfold dropU; split
 ·rw [List.length_set]
 ·exact addU_len _ _ _
theorem dropL_len (l : List Int) : ∀ ps, (dropL ps l).length = ps.length := by
 unfold dropL
 induction l with
 | nil => intro ps; rfl
 | cons x r ih => intro ps; rw [List.foldl_cons, ih, dropU_len]
theorem shareL_snoc (ps : List PageD) (l : List Int) (x : Int) : shareL ps (l ++ [x]) = addU 1 (shareL ps l) x := by unfold shareL; rw [List.foldl_append]; rfl
theorem dropL_snoc (ps : List PageD) (l : List Int) (x : Int) : dropL ps (l ++ [x]) = dropU (dropL ps l) x := by unfold dropL; rw [List.foldl_append]; rfl
theorem bnd_at {B : Int} {ps : List PageD} (h : bnd B ps) (hB : 0 ≤ B) (id : Int) : -B ≤ (pgAt ps id).users ∧ (pgAt ps id).users ≤ B := by
 unfold pgAt
 split
 ·by_cases hl : id.toNat < ps.length
  ·rw [List.getD_eq_getElem?_getD, List.getElem?_eq_getElem hl]; exact h _ (List.getElem_mem hl)
  ·rw [List.getD_eq_getElem?_getD, List.getElem?_eq_none (by omega)]; simp [pg0]; omega
 ·simp [pg0]; omega
theorem mem_set_of {α : Type} {l : List α} {i : Nat} {x y : α} (h : y ∈ l.set i x) : y = x ∨ y ∈ l := by
 obtain ⟨j, hj, rfl⟩ := List.getElem_of_mem h
 rw [List.getElem_set]
 split
 ·exact .inl rfl
 ·exact .inr (List.getElem_mem _)
theorem addU_bnd {B : Int} {ps : List PageD} (h : bnd B ps) (hB : 0 ≤ B) {d : Int} (hd : -1 ≤ d ∧ d ≤ 1) (id : Int) : bnd (B + 1) (addU d ps id) := fun p hp => by
 have h2 := bnd_at h hB id
 rcases mem_set_of hp with rfl | hp
 ·show -(B + 1) ≤ (pgAt ps id).users + d ∧ (pgAt ps id).users + d ≤ B + 1
  omega
 ·have := h p hp; omega
theorem dropU_bnd {B : Int} {ps : List PageD} (h : bnd B ps) (hB : 0 ≤ B) (id : Int) : bnd (B + 1) (dropU ps id) := by
 unfold dropU
 split
 ·intro p hp
  rcases mem_set_of hp with rfl | hp
  ·simp [pg0]; omega
  ·have := h p hp; omega
 ·exact addU_bnd h hB (by omega) id
theorem shareL_bnd {B : Int} (hB : 0 ≤ B) (l : List Int) : ∀ {ps}, bnd B ps → bnd (B + l.length) (shareL ps l) := by
 induction l generalizing B with
 | nil => intro ps h; simpa [shareL] using h
 | cons x r ih =>
  intro ps h
  have := ih (B := B + 1) (by omega) (addU_bnd h hB (d := 1) (by omega) x)
  rw [List.length_cons]
  have e : B + ((r.length + 1 : Nat) : Int) = B + 1 + r.length := by omega
  rw [e]; exact this
theorem dropL_bnd {B : Int} (hB : 0 ≤ B) (l : List Int) : ∀ {ps}, bnd B ps → bnd (B + l.length) (dropL ps l) := by
 induction l generalizing B with
 | nil => intro ps h; simpa [dropL] using h
 | cons x r ih =>
  intro ps h
  have := ih (B := B + 1) (by omega) (dropU_bnd h hB x)
  rw [List.length_cons]
  have e : B + ((r.length + 1 : Nat) : Int) = B + 1 + r.length := by omega
  rw [e]; exact this
section
variable {w : World} {pb : Nat} {ps : List PageD} {F G : Nat → Prop} {o : Option Addr} {l : List Int}
theorem Share_spec {B : Int} (h : PoolR w pb ps F) (hr : Rd w o (l.map (.int .i64)) G) (hd : ∀ i, i < w.heap.size → G i → ¬ F i) (hl : l.length ≤ 1000000) (hB : 0 ≤ B ∧ B ≤ 1000000000000) (hb : bnd B ps) (c : Nat) :
  Calls Tryz.prog i_pages_Pool_Share #[.pointer (some ⟨pb, 0, none⟩), .slice o l.length c] w (Ret fun v w' => v = .int .i64 (if allB ps l then 0 else 8) ∧ PoolR w' pb (if allB ps l then shareL ps l else ps) F ∧ Ch F w w') := by
 refine pages_Pool_Share.calls _ _ _ _ ?_
 unfold pages_Pool_Share.vc
 refine step_call (check_spec h hr hl c) ?_
 rintro v w1 ⟨rfl, hc1⟩
 cases hall : allB ps l with
 | false => exact ⟨_, rfl, iteT (by simp) ⟨rfl, h.keepN hc1, hc1.any⟩⟩
 | true =>
  refine ⟨_, rfl, iteF (by simp) ?_⟩
  refine ⟨fun i k w' => ∃ j : Nat, i = j ∧ j ≤ l.length ∧ k = l.length - j ∧ PoolR w' pb (shareL ps (l.take j)) F ∧ Ch F w w', ⟨_, 0, rfl, Nat.zero_le _, rfl, h.keepN hc1, hc1.any⟩, ?_⟩
  rintro jk i k w2 ⟨j, rfl, hj, rfl, hP2, hc2⟩
  refine ⟨fun hlt => ?_, fun hge => ?_⟩
  ·have hlt : j < l.length := by have := of_decide_eq_true hlt; omega
   have hr2 := hr.keep hc2 hd
   have hid : isB ps l[j] = true := by
    unfold allB at hall
    rw [List.all_eq_true] at hall
    exact hall _ (List.getElem_mem hlt)
   obtain ⟨h0, h1⟩ := isB_lt hid
   have hlen := shareL_len (l.take j) ps
   have hbj := shareL_bnd hB.1 (l.take j) hb
   have hlj : (l.take j).length ≤ 1000000 := by rw [List.length_take]; omega
   have hsn := shareL_snoc ps (l.take j) l[j]
   rw [← take_snoc l j hlt] at hsn
   refine ⟨⟨by omega, by omega⟩, hr2.at (j := (j : Int).toNat * 1) (v := .int .i64 l[j]) (by simp [hlt]) fun p hp => ⟨_, hp, ?_⟩⟩
   generalize l[j] = id at h0 h1 hsn
   generalize shareL ps (l.take j) = qs at hP2 hlen hbj hsn
   have hub := bnd_at hbj (by omega) id
   obtain ⟨o', c', gs, R, hC, hF, hP⟩ := hP2
   have hjg : id.toNat < gs.length := by rw [hC.len]; omega
   have hjq : id.toNat < qs.length := by omega
   obtain ⟨q, hq, _, _, a1, _, _, k1, _⟩ := hC.at hjg
   subst hq
   refine ⟨_, _, _, hC.blk.cell 0 rfl, ⟨by omega, by omega⟩, _, a1, ⟨by omega, by omega⟩, k1, fun w3 e3 => ?_⟩
   have hgu : gs[id.toNat].users = (pgAt qs id).users := by rw [pgAt_lt h0 hjq]; exact (hP _ hjg hjq).2.1
   rw [hgu, wrap_id (by omega) (by omega)] at e3
   obtain ⟨hC3, hc3⟩ := hC.put hjg rfl (q := 1) (by omega) e3 (g := ⟨gs[id.toNat].ver, (pgAt qs id).users + 1, gs[id.toNat].eo, gs[id.toNat].en, gs[id.toNat].ec⟩) rfl
   refine ⟨l.length - (j + 1), by omega, j + 1, by rw [wrap_id (by omega) (by omega)]; rfl, hlt, rfl, ?_, hc2.same (hc3.mono (fun i _ hi => hF 1 i hi))⟩
   rw [hsn]
   unfold addU
   obtain ⟨x1, x2, x3, x4⟩ := hP _ hjg hjq
   rw [← pgAt_lt h0 hjq] at x1 x3 x4
   exact PoolR.write hC3 hc3 hF (by rw [List.length_set]) (PgR.set hP ⟨x1, rfl, x3, x4⟩)
  ·have : j = l.length := by have := of_decide_eq_false hge; omega
   subst this
   rw [List.take_length] at hP2
   exact ⟨rfl, hP2, hc2⟩
theorem count_take_le (l : List Int) (j : Nat) (x : Int) : (l.take j).count x ≤ l.count x := (List.take_sublist j l).count_le x
theorem Drop_spec {B : Int} (h : PoolR w pb ps F) (hFs : ∀ i, F i → i < w.heap.size) (hr : Rd w o (l.map (.int .i64)) G) (hG : ∀ i, G i → i < w.heap.size) (hd : ∀ i, i < w.heap.size → G i → ¬ F i) (hl : l.length ≤ 1000000) (hp : ps.length ≤ 1000000) (hB : 0 ≤ B ∧ B ≤ 1000000000000) (hb : bnd B ps) (c : Nat) :
  Calls Tryz.prog i_pages_Pool_Drop #[.pointer (some ⟨pb, 0, none⟩), .slice o l.length c] w (Ret fun v w' => v = .int .i64 (if allB ps l && !overB ps l then 0 else 8) ∧ PoolR w' pb (if allB ps l && !overB ps l then dropL ps l else ps) F ∧ Ch F w w') := by
 refine pages_Pool_Drop.calls _ _ _ _ ?_
 unfold pages_Pool_Drop.vc
 refine step_call (check_spec h hr hl c) ?_
 rintro v w1 ⟨rfl, hc1⟩
 cases hall : allB ps l with
 | false => exact ⟨_, rfl, iteT (by simp) ⟨rfl, h.keepN hc1, hc1.any⟩⟩
 | true =>
  rw [Bool.true_and]
  have hids : ∀ (j : Nat) (hj : j < l.length), 0 ≤ l[j] ∧ l[j].toNat < ps.length := fun j hj => by
   unfold allB at hall
   rw [List.all_eq_true] at hall
   exact isB_lt (hall _ (List.getElem_mem hj))
  refine ⟨_, rfl, iteF (by simp) (fun w2 e2 => ?_)⟩
  have hM2 : MapI Tryz.prog w2 w1.heap.size t_int t_int (fun x => (([] : List Int).count x : Int)) 0 := MapI.made e2
  have hc2 : Ch Non w w2 := hc1.andN (Ch.alloc e2)
  have hmbw : w.heap.size ≤ w1.heap.size := hc1.size
  have ht : Tryz.prog.underlying 193 = some (.map t_int t_int) := by kernel_rfl
  have hk : Tryz.prog.underlying t_int = some (.int .i64) := by kernel_rfl
  have hz : ∀ w, (zeroValue t_int).run Tryz.prog w = .ok (.int .i64 0) w := fun w => by kernel_rfl
  clear e2
  generalize w1.heap.size = mb at hM2 hmbw ⊢
  refine ⟨fun i k w' => ∃ j : Nat, i = j ∧ j ≤ l.length ∧ k = l.length - j ∧ MapI Tryz.prog w' mb t_int t_int (fun x => ((l.take j).count x : Int)) j ∧ Ch Non w w' ∧ ∀ x ∈ l.take j, ((l.take j).count x : Int) ≤ (pgAt ps x).users, ⟨_, 0, rfl, Nat.zero_le _, rfl, hM2, hc2, fun x hx => by simp at hx⟩, ?_⟩
  rintro jk i k w3 ⟨j, rfl, hj, rfl, hM3, hc3, hle⟩
  have hmb : ∀ {a b : World}, Ch Non w a → Ch (· = mb) a b → Ch Non w b := fun h k => h.trans k (fun i hi hx => by omega)
  refine ⟨fun hlt => ?_, fun hge => ?_⟩
  ·have hlt : j < l.length := by have := of_decide_eq_true hlt; omega
   obtain ⟨h0, h1⟩ := hids j hlt
   have hsn := take_snoc l j hlt
   have hcl := count_take_le l (j + 1) l[j]
   have hmem : l[j] ∈ l := List.getElem_mem hlt
   refine ⟨⟨by omega, by omega⟩, (hr.keepN hc3).at (j := (j : Int).toNat * 1) (v := .int .i64 l[j]) (by simp [hlt]) fun p hp => ⟨_, hp, ?_⟩⟩
   generalize l[j] = id at h0 h1 hsn hcl hmem
   have hwf : (Lit.int .i64 id).wf = true := wf_i64 (by omega) (by omega)
   have hcj : (l.take j).count id ≤ 1000000 := Nat.le_trans (List.count_le_length) (by rw [List.length_take]; omega)
   have hcs : (l.take (j + 1)).count id = (l.take j).count id + 1 := by rw [hsn, List.count_append]; simp
   have hco : ∀ x, x ≠ id → (l.take (j + 1)).count x = (l.take j).count x := fun x hx => by
    rw [hsn, List.count_append, List.count_cons, List.count_nil]
    have : (id == x) = false := by simpa using fun h => hx h.symm
    rw [this]; simp
   have hlk := hM3.lookup ht hk hk hz hwf
   obtain ⟨w5, hup, hM5, hc5⟩ := hM3.update ht hk hk (by unfold maxLen; omega) hwf (x := ((l.take j).count id : Int) + 1) (wf_i64 (by omega) (by omega))
   have hM5 : MapI Tryz.prog w5 mb t_int t_int (fun x => ((l.take (j + 1)).count x : Int)) (j + 1) := by
    have : upd (fun x => ((l.take j).count x : Int)) id (((l.take j).count id : Int) + 1) = fun x => ((l.take (j + 1)).count x : Int) := by
     funext x
     unfold upd
     by_cases hx : x = id
     ·rw [if_pos hx, hx, hcs]; rfl
     ·rw [if_neg hx, hco x hx]
    rw [this] at hM5; exact hM5
   have hc35 := hmb hc3 hc5
   refine ⟨_, w3, hlk, w5, by rw [wrap_id (by omega) (by omega)]; exact hup, ?_⟩
   obtain ⟨o', c', gs, R, hC, hF, hP⟩ := h.keepN hc35
   have hjg : id.toNat < gs.length := by rw [hC.len]; exact h1
   obtain ⟨q, hq, _, _, a1, _⟩ := hC.at hjg
   have hgu : gs[id.toNat].users = (pgAt ps id).users := by rw [pgAt_lt h0 h1]; exact (hP _ hjg h1).2.1
   refine ⟨fun w' => Ch Non w5 w', fun w6 e6 => ⟨Ch.drew e6, _, _, _, fun w' h => (hC.keep h (fun _ _ _ hN => hN)).blk.cell 0 rfl, ⟨by omega, by omega⟩, ?_⟩⟩
   subst hq
   have hus : ∀ w', Ch Non w5 w' → w'.cell? ((q.add (id.toNat * 3)).add 1) = some (.int .i64 (pgAt ps id).users) := fun w' h => by
    obtain ⟨q', hq', _, _, b1, _⟩ := (hC.keep h (fun _ _ _ hN => hN)).at hjg
    have hqq : q = q' := Option.some.inj hq'
    rw [hqq, ← hgu]; exact b1
   have hM6 := hM5.keep (Ch.drew (F := Non) e6) (fun hN => hN)
   refine ⟨_, hus, _, w6, hM6.lookup ht hk hk hz hwf, Ch.drew e6, fun hgt => ?_, fun hng => ?_⟩
   ·have hgt := of_decide_eq_true hgt
    have ho : overB ps l = true := by
     unfold overB
     rw [List.any_eq_true]
     exact ⟨id, hmem, decide_eq_true (by omega)⟩
    rw [ho]
    have hc6 := hc35.andN (Ch.drew e6)
    exact ⟨rfl, h.keepN hc6, hc6.any⟩
   ·have hng := of_decide_eq_false hng
    refine ⟨l.length - (j + 1), by omega, j + 1, by rw [wrap_id (by omega) (by omega)]; rfl, hlt, rfl, hM6, hc35.andN (Ch.drew e6), fun x hx => ?_⟩
    by_cases hxi : x = id
    ·subst hxi; omega
    ·rw [hco x hxi]
     rw [hsn, List.mem_append, List.mem_singleton] at hx
     exact hle x (hx.resolve_right hxi)
  ·have : j = l.length := by have := of_decide_eq_false hge; omega
   subst this
   rw [List.take_length] at hle
   have ho : overB ps l = false := by
    unfold overB
    rw [List.any_eq_false]
    intro x hx h
    have h := of_decide_eq_true h
    have := hle x hx
    omega
   rw [ho]
   clear hM3 hle
   refine ⟨fun i k w' => ∃ j : Nat, i = j ∧ j ≤ l.length ∧ k = l.length - j ∧ PoolR w' pb (dropL ps (l.take j)) F ∧ Ch F w w', ⟨_, 0, rfl, Nat.zero_le _, rfl, h.keepN hc3, hc3.any⟩, ?_⟩
   rintro jk i k w4 ⟨j, rfl, hj, rfl, hP4, hc4⟩
   refine ⟨fun hlt => ?_, fun hge => ?_⟩
   ·have hlt : j < l.length := by have := of_decide_eq_true hlt; omega
    have hr4 := hr.keep hc4 hd
    obtain ⟨h0, h1⟩ := hids j hlt
    have hlen := dropL_len (l.take j) ps
    have hbj := dropL_bnd hB.1 (l.take j) hb
    have hlj : (l.take j).length ≤ 1000000 := by rw [List.length_take]; omega
    have hsn := dropL_snoc ps (l.take j) l[j]
    rw [← take_snoc l j hlt] at hsn
    refine ⟨⟨by omega, by omega⟩, hr4.at (j := (j : Int).toNat * 1) (v := .int .i64 l[j]) (by simp [hlt]) fun p hp => ⟨_, hp, ?_⟩⟩
    generalize l[j] = id at h0 h1 hsn
    generalize dropL ps (l.take j) = qs at hP4 hlen hbj hsn
    have hub := bnd_at hbj (by omega) id
    obtain ⟨o', c', gs, R, hC, hF, hP⟩ := hP4
    have hjg : id.toNat < gs.length := by rw [hC.len]; omega
    have hjq : id.toNat < qs.length := by omega
    obtain ⟨q, hq, _, _, a1, _, _, k1, _⟩ := hC.at hjg
    subst hq
    have hgu : gs[id.toNat].users = (pgAt qs id).users := by rw [pgAt_lt h0 hjq]; exact (hP _ hjg hjq).2.1
    refine ⟨_, _, _, hC.blk.cell 0 rfl, ⟨by omega, by omega⟩, _, a1, ⟨by omega, by omega⟩, k1, fun w5 e5 => ?_⟩
    rw [hgu, wrap_id (by omega) (by omega)] at e5
    obtain ⟨hC5, hc5⟩ := hC.put hjg rfl (q := 1) (by omega) e5 (g := ⟨gs[id.toNat].ver, (pgAt qs id).users - 1, gs[id.toNat].eo, gs[id.toNat].en, gs[id.toNat].ec⟩) rfl
    have hj5 : id.toNat < (gs.set id.toNat ⟨gs[id.toNat].ver, (pgAt qs id).users - 1, gs[id.toNat].eo, gs[id.toNat].en, gs[id.toNat].ec⟩).length := by rw [List.length_set]; exact hjg
    obtain ⟨q', hq', _, _, b1, _, m0, m1, m2⟩ := hC5.at hj5
    have hqq : q = q' := Option.some.inj hq'
    subst hqq
    rw [List.getElem_set_self] at b1
    have hnx : ∀ {ps'} {w'}, dropU qs id = ps' → PoolR w' pb ps' F → Ch F w w' → ∃ vk : Nat, vk < l.length - j ∧ ∃ j' : Nat, IntKind.i64.wrap ((j : Int) + 1) = j' ∧ j' ≤ l.length ∧ vk = l.length - j' ∧ PoolR w' pb (dropL ps (l.take j')) F ∧ Ch F w w' := fun {ps' w'} he hp hc =>
     ⟨l.length - (j + 1), by omega, j + 1, by rw [wrap_id (by omega) (by omega)]; rfl, hlt, rfl, by rw [hsn, he]; exact hp, hc⟩
    have hc45 : Ch F w w5 := hc4.same (hc5.mono (fun i _ hi => hF 1 i hi))
    obtain ⟨x1, x2, x3, x4⟩ := hP _ hjg hjq
    rw [← pgAt_lt h0 hjq] at x1 x3 x4
    refine ⟨_, _, _, hC5.blk.cell 0 rfl, ⟨by omega, by omega⟩, _, b1, fun hz0 => ?_, fun hnz => ?_⟩
    ·have hz0 : (pgAt qs id).users - 1 = 0 := by simpa using hz0
     refine ⟨_, _, _, hC5.blk.cell 0 rfl, ⟨by omega, by omega⟩, ⟨m0, m1, m2⟩, fun w6 e6 => ?_⟩
     obtain ⟨hC6, hc6⟩ := hC5.put3 hj5 rfl (g := ⟨0, 0, none, 0, 0⟩) e6
     rw [List.set_set] at hC6
     refine hnx (ps' := qs.set id.toNat pg0) (by unfold dropU; rw [if_pos hz0]) ?_ (hc45.same (hc6.mono (fun i _ hi => hF 1 i hi)))
     exact PoolR.write hC6 (hc5.same hc6) hF (by rw [List.length_set]) (PgR.set hP ⟨rfl, rfl, rfl, [], Own.nil _ _ _ _, .nil, fun e he => by cases he⟩)
    ·have hnz : ¬ (pgAt qs id).users - 1 = 0 := by simpa using hnz
     refine hnx (ps' := addU (-1) qs id) (by unfold dropU; rw [if_neg hnz]) ?_ hc45
     unfold addU
     exact PoolR.write hC5 hc5 hF (by rw [List.length_set]) (PgR.set hP ⟨x1, by show (pgAt qs id).users - 1 = (pgAt qs id).users + -1; omega, x3, x4⟩)
   ·have : j = l.length := by have := of_decide_eq_false hge; omega
    subst this
    rw [List.take_length] at hP4
    exact ⟨rfl, hP4, hc4⟩
end
end Go.Proofs.YtkbikekbaboclaaGreat.Pages
set_option linter.unusedVariables false
set_option linter.unusedSimpArgs false
namespace Go.Proofs.YtkbikekbaboclaaGreat.Pages
open Go Go.Proofs V Vc Step Go.RowKit
def putV (ps : List PageD) (id : Int) : Int := if isB ps id then (if (pgAt ps id).users > 1 then 7 else if (pgAt ps id).es.length ≥ 4 then 10 else 0) else 8
def putP (ps : List PageD) (id : Int) (e : Ent) : List PageD := if putV ps id = 0 then ps.set id.toNat { pgAt ps id with es := (pgAt ps id).es ++ [e] } else ps
def getL (ps : List PageD) (l : List Int) : List Ent := l.flatMap fun id => if isB ps id then (pgAt ps id).es else []
theorem getL_snoc (ps : List PageD) (l : List Int) (x : Int) : getL ps (l ++ [x]) = getL ps l ++ (if isB ps x then (pgAt ps x).es else []) := by
 unfold getL; rw [List.flatMap_append]; simp
theorem pairs_snoc (qs : List (Value × Value)) (q : Value × Value) : (qs.map pairE).flatten ++ [q.1, q.2] = ((qs ++ [q]).map pairE).flatten := by simp [pairE]
section
variable {w : World} {pb : Nat} {ps : List PageD} {F G : Nat → Prop} {o : Option Addr} {l : List Int}
theorem Put_spec (h : PoolR w pb ps F) (id : Int) {p : Value × Value} {e : Ent} (he : EntV w p e G) (hs : smallE e) :
  Calls Tryz.prog i_pages_Pool_Put #[.pointer (some ⟨pb, 0, none⟩), .int .i64 id, .agg #[p.1, p.2]] w (Ret fun v w' => v = .int .i64 (putV ps id) ∧ PoolR w' pb (putP ps id e) (Ext F w w') ∧ Ch F w w') := by
 obtain ⟨a, b⟩ := p
 have he0 := he
 obtain ⟨⟨o1, c1, vs1, hva, _, _⟩, ⟨o2, c2, vs2, hvb, _, _⟩⟩ := he
 dsimp only at hva hvb
 subst hva; subst hvb
 have hkeep : ∀ {w'}, PoolR w' pb ps F → PoolR w' pb ps (Ext F w w') := fun h => h.mono (fun i _ hi => .inl hi)
 have hlt := h.lt.1
 obtain ⟨o', c', gs, R, hC0, hF, hP0⟩ := h
 have h : PoolR w pb ps F := ⟨o', c', gs, R, hC0, hF, hP0⟩
 refine pages_Pool_Put.calls _ _ _ _ _ _ _ _ ?_
 unfold pages_Pool_Put.vc
 intro w1 e1
 have hX1 := Blk.new e1
 have hX1 : Blk w1 w.heap.size [.slice o1 e.1.length c1, .slice o2 e.2.length c2] t_step_Entry := hX1
 have hc1 : Ch Non w w1 := Ch.alloc e1
 have h1 := h.keepN hc1
 have he1 := he0.keepN hc1
 refine step_call (is_spec h1 id) ?_
 rintro v w2 ⟨rfl, rfl⟩
 unfold putP putV
 refine ⟨_, rfl, fun hb => ?_, fun hb => ?_⟩
 ·have hb : isB ps id = false := by simpa using hb
  rw [hb, if_neg Bool.false_ne_true, if_neg (by decide)]
  exact ⟨rfl, hkeep h1, hc1.any⟩
 have hb : isB ps id = true := by simpa using hb
 rw [hb, if_pos rfl]
 obtain ⟨h0, hj⟩ := isB_lt hb
 have hC : PoolC w2 pb o' c' gs R ps.length := hC0.keep hc1 (fun _ _ _ hN => hN)
 have hP : ∀ (i : Nat) (h1 : i < gs.length) (h2 : i < ps.length), PgR w2 gs[i] ps[i] (R (3 + i)) (R 2) := fun i h1 h2 => (hP0 i h1 h2).keep hc1 (fun _ _ _ hN => hN) (fun _ _ _ hN => hN)
 have hjg : id.toNat < gs.length := by rw [hC.len]; exact hj
 obtain ⟨p, hp, _, _, a1, a2, _⟩ := hC.at hjg
 obtain ⟨g1, g2, g3, qs, hOw, hAll, hSm⟩ := hP _ hjg hj
 rw [← pgAt_lt h0 hj] at g1 g2 g3 hAll hSm
 rw [g2] at a1
 rw [g3] at a2
 subst hp
 refine ⟨_, _, _, hC.blk.cell 0 rfl, ⟨by omega, by omega⟩, _, a1, fun hu => ?_, fun hu => ?_⟩
 ·have hu := of_decide_eq_true hu
  rw [if_pos hu, if_neg (by decide)]
  exact ⟨rfl, hkeep h1, hc1.any⟩
 have hu := of_decide_eq_false hu
 rw [if_neg hu]
 refine ⟨_, _, _, hC.blk.cell 0 rfl, ⟨by omega, by omega⟩, _, _, _, a2, fun hf => ?_, fun hf => ?_⟩
 ·have hf := of_decide_eq_true hf
  rw [if_pos (by omega), if_neg (by decide)]
  exact ⟨rfl, hkeep h1, hc1.any⟩
 have hf := of_decide_eq_false hf
 rw [if_neg (by omega), if_pos rfl]
 have hxR : ∀ k, ¬ R k w.heap.size := fun k hk => Nat.lt_irrefl _ (hC0.fam.1 k _ hk)
 have hxb : pb ≠ w.heap.size := fun e => hxR 0 (e ▸ hC0.z)
 clear a1 a2 hP0 hC0
 refine ⟨fun w' => Blk w' w.heap.size [.slice o1 e.1.length c1, .slice o2 e.2.length c2] t_step_Entry ∧ Blk w' pb [.slice (some p) ps.length c'] t_pages_Pool, fun w3 e3 => ⟨⟨hX1.drew e3, hC.blk.drew e3⟩, _, _, _, fun w' h => h.2.cell 0 rfl, _, _, _, fun w' h => h.2.cell 0 rfl, ⟨by omega, by omega⟩, ?_⟩⟩
 have hc3 : Ch Non w2 w3 := Ch.drew e3
 have hC3 : PoolC w3 pb (some p) c' gs R ps.length := hC.keep hc3 (fun _ _ _ hN => hN)
 have hP3 : ∀ (i : Nat) (h1 : i < gs.length) (h2 : i < ps.length), PgR w3 gs[i] ps[i] (R (3 + i)) (R 2) := fun i h1 h2 => (hP i h1 h2).keep hc3 (fun _ _ _ hN => hN) (fun _ _ _ hN => hN)
 have hX3 := hX1.drew e3
 have hOw3 := hOw.keepN hc3
 have he3 := he1.keepN hc3
 have hAll3 : All2 (fun q e => EntV w3 q e (R 2)) qs (pgAt ps id).es := hAll.imp (fun _ _ k => k.keepN hc3)
 have hwc3 : Ch Non w w3 := hc1.andN hc3
 clear e3 e1 hC hP hX1 hOw he1 hAll h1 hc3 hc1
 have hld : ∀ {w'}, Ch Non w3 w' → w'.cell? ((p.add (id.toNat * 3)).add 2) = some (.slice gs[id.toNat].eo (pgAt ps id).es.length gs[id.toNat].ec) := fun {w'} hc => by
  obtain ⟨p', hp', _, _, _, b2, _⟩ := (hC3.keep hc (fun _ _ _ hN => hN)).at hjg
  have hpp : p = p' := Option.some.inj hp'
  rw [hpp, ← g3]; exact b2
 have hS : ∀ {w'}, Ch Non w3 w' → Blk w' w.heap.size [.slice o1 e.1.length c1, .slice o2 e.2.length c2] t_step_Entry ∧ Blk w' pb [.slice (some p) ps.length c'] t_pages_Pool := fun hc => ⟨hX3.keepN hc, hC3.blk.keepN hc⟩
 have tail : ∀ (w7 w8 : World) (q : Value × Value), Ch Non w3 w7 → EntV w7 q e (New w3 w7) → w8 = w7.alloc (.cells #[q.1, q.2] t_step_Entry (0, 0)) →
   ∃ (o9 : Option Addr) (n9 c9 : Nat) (w9 : World), (Builtin.append_ #[t_S_step_Entry, t_S_step_Entry] t_S_step_Entry #[.slice gs[id.toNat].eo (pgAt ps id).es.length gs[id.toNat].ec, .slice (some ⟨w7.heap.size, 0, none⟩) 1 1]).run Tryz.prog w8 = .ok (.slice o9 n9 c9) w9 ∧
    (Blk w9 w.heap.size [.slice o1 e.1.length c1, .slice o2 e.2.length c2] t_step_Entry ∧ Blk w9 pb [.slice (some p) ps.length c'] t_pages_Pool) ∧ (0 ≤ id ∧ id < ((ps.length : Nat) : Int)) ∧ someV (some p) fun p_3 =>
     ((∃ u, w9.cell? ((p_3.add (id.toNat * 3)).add 2) = some u) ∧ w9.frozen? ((p_3.add (id.toNat * 3)).add 2) = false) ∧ ∀ w10 : World, w10 = w9.setCell ((p_3.add (id.toNat * 3)).add 2) (.slice o9 n9 c9) →
      (Blk w10 w.heap.size [.slice o1 e.1.length c1, .slice o2 e.2.length c2] t_step_Entry ∧ Blk w10 pb [.slice (some p) ps.length c'] t_pages_Pool) ∧
      (Value.int .i64 0 = .int .i64 0 ∧ PoolR w10 pb (ps.set id.toNat { pgAt ps id with es := (pgAt ps id).es ++ [e] }) (Ext F w w10) ∧ Ch F w w10) := by
  intro w7 w8 q hc7 hq e8
  obtain ⟨qa, qb⟩ := q
  have hq0 := hq
  obtain ⟨⟨oa, ca, va, hqa, _, _⟩, ⟨ob, cb, vb, hqb, _, _⟩⟩ := hq
  dsimp only at hqa hqb
  subst hqa; subst hqb
  have hOw7 := hOw3.keepN hc7
  rw [g3] at hOw7
  obtain ⟨o9, c9, w9, hr9, hO9, hc9⟩ := Own.push el_S_step_Entry hOw7 t_S_step_Entry e8 rfl rfl (by unfold maxLen; omega) (by omega)
  have hfam := hC3.fam
  have hF7 := hfam.upd hc7.size 2
  have hF9 := hF7.upd hc9.size (3 + id.toNat)
  have r0 : updF (updF R 2 w3 w7) (3 + id.toNat) w7 w9 0 = R 0 := by rw [updF_other (by omega), updF_other (by omega)]
  have r1 : updF (updF R 2 w3 w7) (3 + id.toNat) w7 w9 1 = R 1 := by rw [updF_other (by omega), updF_other (by omega)]
  have r2 : updF (updF R 2 w3 w7) (3 + id.toNat) w7 w9 2 = Ext (R 2) w3 w7 := by rw [updF_other (by omega), updF_same]
  have rj : updF (updF R 2 w3 w7) (3 + id.toNat) w7 w9 (3 + id.toNat) = Ext (R (3 + id.toNat)) w7 w9 := by rw [updF_same, updF_other (by omega)]
  have ri : ∀ i, i ≠ id.toNat → updF (updF R 2 w3 w7) (3 + id.toNat) w7 w9 (3 + i) = R (3 + i) := fun i hi => by rw [updF_other (by omega), updF_other (by omega)]
  generalize updF (updF R 2 w3 w7) (3 + id.toNat) w7 w9 = R9 at hF9 r0 r1 r2 rj ri
  have hs37 := hc7.size
  have hs79 := hc9.size
  have hs03 := hwc3.size
  have hC9 : PoolC w9 pb (some p) c' gs R9 ps.length := ⟨hF9, by rw [r0]; exact hC3.z, (hC3.blk.keepN hc7).keep hc9 (fun hx => hfam.2 0 (3 + id.toNat) (by omega) pb hC3.z hx), by rw [r1]; exact (hC3.own.keepN hc7).keep hc9 (fun i _ a b => hfam.2 1 (3 + id.toNat) (by omega) i a b), hC3.len⟩
  have hX9 : Blk w9 w.heap.size [.slice o1 e.1.length c1, .slice o2 e.2.length c2] t_step_Entry := (hX3.keepN hc7).keep hc9 (hxR _)
  obtain ⟨p', hp', _, _, _, _, _, _, k2⟩ := hC9.at hjg
  have hpp : p = p' := Option.some.inj hp'
  subst hpp
  refine ⟨o9, (pgAt ps id).es.length + 1, c9, w9, hr9, ⟨hX9, hC9.blk⟩, ⟨by omega, by omega⟩, ?_⟩
  refine ⟨k2, fun w10 e10 => ?_⟩
  obtain ⟨hC10, hc10⟩ := hC9.put hjg rfl (q := 2) (by omega) e10 (g := ⟨gs[id.toNat].ver, gs[id.toNat].users, o9, (pgAt ps id).es.length + 1, c9⟩) rfl
  rw [r1] at hc10
  have hs910 := hc10.size
  refine ⟨⟨hX9.keep hc10 (hxR _), hC10.blk⟩, rfl, ?_, ?_⟩
  ·have hw : PoolR w10 pb (ps.set id.toNat { pgAt ps id with es := (pgAt ps id).es ++ [e] }) (Ext F w w9) := by
    refine PoolR.write (w := w9) hC10 (by rw [r1]; exact hc10) (fun k i hi => ?_) (by rw [List.length_set]) (fun i h1 h2 => ?_)
    ·by_cases hk2 : k = 2
     ·subst hk2
      rw [r2] at hi
      rcases hi with hi | hi
      ·exact .inl (hF _ _ hi)
      ·exact .inr ⟨by have := hi.1; omega, by have := hi.2; omega⟩
     by_cases hkj : k = 3 + id.toNat
     ·subst hkj
      rw [rj] at hi
      rcases hi with hi | hi
      ·exact .inl (hF _ _ hi)
      ·exact .inr ⟨by have := hi.1; omega, by have := hi.2; omega⟩
     ·have : R9 k = R k := by
       by_cases hk0 : k = 0
       ·subst hk0; exact r0
       by_cases hk1 : k = 1
       ·subst hk1; exact r1
       obtain ⟨m, rfl⟩ : ∃ m, k = 3 + m := ⟨k - 3, by omega⟩
       exact ri m (by omega)
      rw [this] at hi
      exact .inl (hF _ _ hi)
    ·rw [List.getElem_set, List.getElem_set]
     split
     ·rename_i hij
      subst hij
      rw [rj, r2]
      refine ⟨g1, g2, by simp, qs ++ [(.slice oa e.1.length ca, .slice ob e.2.length cb)], ?_, ?_, fun x hx => ?_⟩
      ·rw [← pairs_snoc]; exact hO9
      ·refine All2.snoc (hAll3.imp fun q x k => ?_) ?_
       ·exact ((k.keepN hc7).keep hc9 (fun i _ a b => hfam.2 2 (3 + id.toNat) (by omega) i a b)).mono (fun i _ hi => .inl hi)
       ·exact (hq0.keep hc9 (fun i _ a b => absurd (hfam.1 _ _ b) (Nat.not_lt.2 a.1))).mono (fun i _ hi => .inr hi)
      ·rcases List.mem_append.1 hx with hx | hx
       ·exact hSm x hx
       ·rw [List.mem_singleton] at hx; subst hx; exact hs
     ·rename_i hij
      rw [ri i (fun h => hij h.symm), r2]
      have h1 : i < gs.length := by simpa using h1
      have h2 : i < ps.length := by simpa using h2
      obtain ⟨x1, x2, x3, qs', x4, x5, x6⟩ := ((hP3 i h1 h2).keep hc7 (fun _ _ _ hN => hN) (fun _ _ _ hN => hN)).keep hc9 (fun m _ a b => hfam.2 (3 + i) (3 + id.toNat) (by omega) m a b) (fun m _ a b => hfam.2 2 (3 + id.toNat) (by omega) m a b)
      exact ⟨x1, x2, x3, qs', x4, x5.imp (fun _ _ k => k.mono (fun m _ hm => .inl hm)), x6⟩
   exact hw.mono (fun i _ hi => hi.imp_right (fun h => ⟨h.1, by have := h.2; omega⟩))
  ·exact (((hwc3.andN hc7).any (F := F)).same (hc9.mono (fun i _ hi => hF _ _ hi))).same (hc10.mono (fun i _ hi => hF _ _ hi))
 have hcopy : Calls Tryz.prog i_step_Copy #[.agg #[.slice o1 e.1.length c1, .slice o2 e.2.length c2]] w3 (Ret fun v w' => ∃ q : Value × Value, v = .agg #[q.1, q.2] ∧ EntV w' q e (New w3 w') ∧ Ch Non w3 w') := Copy_spec (p := (.slice o1 e.1.length c1, .slice o2 e.2.length c2)) he3 hs
 refine ⟨_, _, _, _, _, _, ⟨fun w' h => h.1.cell 0 rfl, fun w' h => h.1.cell 1 rfl⟩, ⟨_, _, _, hld (Ch.refl _ _), hS (Ch.refl _ _), ?_⟩, ?_, trivial⟩
 ·refine step_call hcopy ?_
  rintro v w7 ⟨⟨qa, qb⟩, rfl, hq, hc7⟩
  have hq0 := hq
  obtain ⟨⟨oa, ca, va, hqa, _, _⟩, ⟨ob, cb, vb, hqb, _, _⟩⟩ := hq
  dsimp only at hqa hqb
  subst hqa; subst hqb
  refine ⟨oa, _, ca, ob, _, cb, rfl, hS hc7, fun w8 e8 => ?_⟩
  exact ⟨hS (hc7.andN (Ch.alloc e8)), tail w7 w8 (.slice oa e.1.length ca, .slice ob e.2.length cb) hc7 hq0 e8⟩
 ·refine step_call hcopy ?_
  rintro v w7 ⟨⟨qa, qb⟩, rfl, hq, hc7⟩
  have hq0 := hq
  obtain ⟨⟨oa, ca, va, hqa, _, _⟩, ⟨ob, cb, vb, hqb, _, _⟩⟩ := hq
  dsimp only at hqa hqb
  subst hqa; subst hqb
  refine ⟨oa, _, ca, ob, _, cb, rfl, hS hc7, ?_⟩
  refine ⟨?_, fun w8 e8 => ?_, trivial⟩
  ·refine ⟨_, _, _, hld hc7, hS hc7, fun w8 e8 => ?_⟩
   exact ⟨hS (hc7.andN (Ch.alloc e8)), tail w7 w8 (.slice oa e.1.length ca, .slice ob e.2.length cb) hc7 hq0 e8⟩
  ·have hc8 : Ch Non w3 w8 := hc7.andN (Ch.alloc e8)
   refine ⟨hS hc8, _, _, _, hld hc8, hS hc8, ?_⟩
   exact tail w7 w8 (.slice oa e.1.length ca, .slice ob e.2.length cb) hc7 hq0 e8
theorem getL_len (hes : ∀ p ∈ ps, p.es.length ≤ 4) : ∀ l : List Int, (getL ps l).length ≤ 4 * l.length := fun l => by
 induction l with
 | nil => simp [getL]
 | cons x r ih =>
  have : getL ps (x :: r) = (if isB ps x then (pgAt ps x).es else []) ++ getL ps r := by unfold getL; rw [List.flatMap_cons]
  rw [this, List.length_append, List.length_cons]
  split
  ·rename_i hb
   obtain ⟨h0, h1⟩ := isB_lt hb
   rw [pgAt_lt h0 h1]
   have := hes _ (List.getElem_mem h1)
   omega
  ·simp; omega
theorem Get_spec (h : PoolR w pb ps F) (hr : Rd w o (l.map (.int .i64)) G) (hes : ∀ p ∈ ps, p.es.length ≤ 4) (hl : l.length ≤ 10000) (c : Nat) :
  Calls Tryz.prog i_pages_Pool_Get #[.pointer (some ⟨pb, 0, none⟩), .slice o l.length c] w (Ret fun v w' => ∃ (o' : Option Addr) (c' : Nat) (qs : List (Value × Value)) (F1 F2 : Nat → Prop), v = .slice o' (getL ps l).length c' ∧ Build w w' t_step_Entry 2 o' (getL ps l).length c' (qs.map pairE).flatten F1 F2 ∧ All2 (fun q e => EntV w' q e F2) qs (getL ps l)) := by
 refine pages_Pool_Get.calls _ _ _ _ ?_
 unfold pages_Pool_Get.vc
 refine ⟨fun oA oN oC i k w' => ∃ (j : Nat) (qs : List (Value × Value)) (F1 F2 : Nat → Prop), i = j ∧ j ≤ l.length ∧ k = l.length - j ∧ oN = (getL ps (l.take j)).length ∧ Build w w' t_step_Entry 2 oA oN oC (qs.map pairE).flatten F1 F2 ∧ All2 (fun q e => EntV w' q e F2) qs (getL ps (l.take j)), ⟨_, 0, [], _, _, rfl, Nat.zero_le _, rfl, rfl, Build.nil (Ch.refl _ _), .nil⟩, ?_⟩
 rintro jk oA oN oC i k w1 ⟨j, qs, F1, F2, rfl, hj, rfl, rfl, hB, hA⟩
 refine ⟨fun hlt => ?_, fun hge => ?_⟩
 ·have hlt : j < l.length := by have := of_decide_eq_true hlt; omega
  have hsn := getL_snoc ps (l.take j) l[j]
  rw [← take_snoc l j hlt] at hsn
  have hll := getL_len hes (l.take j)
  have hlj : (l.take j).length ≤ 10000 := by rw [List.length_take]; omega
  refine ⟨⟨by omega, by omega⟩, (hr.keepN hB.ch).at (j := (j : Int).toNat * 1) (v := .int .i64 l[j]) (by simp [hlt]) fun p hp => ⟨_, hp, ?_⟩⟩
  generalize l[j] = id at hsn
  have hP1 := h.keepN hB.ch
  refine step_call (is_spec hP1 id) ?_
  rintro v w2 ⟨rfl, rfl⟩
  refine ⟨_, rfl, fun hb => ?_, fun hb => ?_⟩
  ·have hb : isB ps id = false := by simpa using hb
   rw [hb, if_neg Bool.false_ne_true, List.append_nil] at hsn
   refine ⟨l.length - (j + 1), by omega, j + 1, qs, F1, F2, by rw [wrap_id (by omega) (by omega)]; rfl, hlt, rfl, by rw [hsn], hB, by rw [hsn]; exact hA⟩
  have hb : isB ps id = true := by simpa using hb
  obtain ⟨h0, h1⟩ := isB_lt hb
  rw [hb, if_pos rfl] at hsn
  have hw := h
  obtain ⟨o', c', gs, R, hC0, hF, hP⟩ := hw
  have hC : PoolC w2 pb o' c' gs R ps.length := hC0.keep hB.ch (fun _ _ _ hN => hN)
  have hjg : id.toNat < gs.length := by rw [hC.len]; exact h1
  obtain ⟨q, hq, _, _, _, a2, _⟩ := hC.at hjg
  obtain ⟨_, _, g3, us, hOw, hUs, hSm⟩ := hP _ hjg h1
  have hel : ps[id.toNat].es.length ≤ 4 := hes _ (List.getElem_mem h1)
  rw [← pgAt_lt h0 h1] at g3 hUs hSm hel
  rw [g3] at a2
  subst hq
  refine ⟨_, _, _, hC.blk.cell 0 rfl, ⟨by omega, by omega⟩, _, _, _, a2, ?_⟩
  have hOr := hOw.rd
  generalize (pgAt ps id).es = es at hsn hUs hSm hel
  generalize gs[id.toNat].eo = eo at hOr
  clear hOw a2 hP hF hC hC0
  refine ⟨fun oA oN oC i k w' => ∃ (m : Nat) (qs : List (Value × Value)) (F1 F2 : Nat → Prop), i = m ∧ m ≤ es.length ∧ k = es.length - m ∧ oN = (getL ps (l.take j) ++ es.take m).length ∧ Build w w' t_step_Entry 2 oA oN oC (qs.map pairE).flatten F1 F2 ∧ All2 (fun q e => EntV w' q e F2) qs (getL ps (l.take j) ++ es.take m), ⟨_, 0, qs, F1, F2, rfl, Nat.zero_le _, rfl, by simp, hB, by simpa using hA⟩, ?_⟩
  clear hA hB
  rintro jk oA oN oC i k w3 ⟨m, qs, F1, F2, rfl, hm, rfl, rfl, hB, hA⟩
  refine ⟨fun hlt2 => ?_, fun hge2 => ?_⟩
  ·have hlt2 : m < es.length := by have := of_decide_eq_true hlt2; omega
   have hmu : m < us.length := by rw [hUs.length]; exact hlt2
   obtain ⟨hp1, hp2⟩ := pairs_at us hmu
   have hE := hUs.get m hmu hlt2
   obtain ⟨p, hp, _, _, hcell⟩ := (hOr.keepN hB.ch).elem (sz := 2) (enc := pairE) (fun _ => rfl) (by omega) hmu
   have c0 := hcell 0 _ rfl
   have c1 := hcell 1 _ rfl
   rw [add_none] at c0
   have hE3 := hE.keepN hB.ch
   have hsm := hSm _ (List.getElem_mem hlt2)
   have htk := take_snoc es m hlt2
   generalize us[m] = u at hE3 c0 c1
   generalize es[m] = e at hE3 hsm htk
   obtain ⟨ua, ub⟩ := u
   have hE30 := hE3
   obtain ⟨⟨o1, c1', vs1, hua, _, _⟩, ⟨o2, c2', vs2, hub, _, _⟩⟩ := hE3
   dsimp only at hua hub c0 c1
   subst hua; subst hub
   subst hp
   refine ⟨⟨by omega, by omega⟩, ?_⟩
   refine ⟨o1, _, c1', o2, _, c2', ⟨c0, c1⟩, fun w4 e4 => ?_⟩
   have hV := Blk.new e4
   refine ⟨⟨hV.ok 0 rfl, hV.ok 1 rfl⟩, fun w5 e5 => ?_⟩
   have e6 : w5 = w4.setCells w3.heap.size 0 [.slice o1 e.1.length c1', .slice o2 e.2.length c2'] := e5
   have hV5 := hV.all [.slice o1 e.1.length c1', .slice o2 e.2.length c2'] rfl e6
   have hc35 : Ch Non w3 w5 := (Ch.alloc (F := Non) e4).trans (Ch.sets (F := (· = w3.heap.size)) e6 rfl) (fun i hi he => by omega)
   clear e4 e5 e6 hV
   refine ⟨o1, _, c1', o2, _, c2', ⟨hV5.cell 0 rfl, hV5.cell 1 rfl⟩, ?_⟩
   refine step_call (Copy_spec (p := (.slice o1 e.1.length c1', .slice o2 e.2.length c2')) (hE30.keepN hc35) hsm) ?_
   rintro v w6 ⟨⟨qa, qb⟩, rfl, hQ, hc6⟩
   have hQ0 := hQ
   obtain ⟨⟨oa, ca, va, hqa, _, _⟩, ⟨ob, cb, vb, hqb, _, _⟩⟩ := hQ
   dsimp only at hqa hqb
   subst hqa; subst hqb
   refine ⟨oa, _, ca, ob, _, cb, rfl, fun w7 e7 => ?_⟩
   have hB6 := (hB.keepN hc35).more hc6
   have hlen : (getL ps (l.take j) ++ es.take m).length < 1000000 := by rw [List.length_append, List.length_take]; omega
   obtain ⟨o8, c8, w8, F8, hr8, hB8, hc8⟩ := hB6.push el_S_step_Entry t_S_step_Entry e7 rfl rfl hlen (by omega)
   have hnl : (getL ps (l.take j) ++ es.take m).length + 1 = (getL ps (l.take j) ++ es.take (m + 1)).length := by rw [htk, ← List.append_assoc, List.length_append (bs := [e])]; rfl
   rw [hnl] at hB8 hr8
   refine ⟨o8, _, c8, w8, hr8, es.length - (m + 1), by omega, m + 1, qs ++ [(.slice oa e.1.length ca, .slice ob e.2.length cb)], F8, _, by rw [wrap_id (by omega) (by omega)]; rfl, hlt2, rfl, rfl, by rw [← pairs_snoc]; exact hB8, ?_⟩
   rw [htk, ← List.append_assoc]
   refine All2.snoc (hA.imp fun q x k => ?_) ?_
   ·exact (((k.keepN hc35).keepN hc6).mono (fun i _ hi => .inl hi)).keep hc8 (fun i _ hi h => hB6.ap i h hi)
   ·exact EntV.keep (F := Ext F2 w5 w6) (hQ0.mono (fun i _ hi => .inr hi)) hc8 (fun i _ hi h => hB6.ap i h hi)
  ·have : m = es.length := by have := of_decide_eq_false hge2; omega
   subst this
   rw [List.take_length, ← hsn] at hA hB
   exact ⟨l.length - (j + 1), by omega, j + 1, qs, F1, F2, by rw [wrap_id (by omega) (by omega)]; rfl, hlt, rfl, by rw [hsn, List.take_length], by rw [List.take_length, ← hsn]; exact hB, hA⟩
 ·have : j = l.length := by have := of_decide_eq_false hge; omega
  subst this
  rw [List.take_length] at hB hA
  exact ⟨oA, oC, qs, F1, F2, by rw [List.take_length], hB, hA⟩
end
end Go.Proofs.YtkbikekbaboclaaGreat.Pages
