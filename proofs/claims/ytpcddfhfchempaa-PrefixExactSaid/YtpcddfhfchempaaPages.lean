/- For every pool of pages in memory: what layer 22's functions answer, and what they leave; the conditions stand in each theorem. -/
import Derived.Test.YtpcddfhfchempaaStep
import Derived.Test.YtpcddfhfchempaaVcPages
set_option linter.unusedVariables false
set_option linter.unusedSimpArgs false
namespace Go.Proofs.Ytpcddfhfchempaa.Pages
open Go Go.Proofs Go.Proofs.Ytpcddfhfchempaa.V Go.Proofs.Ytpcddfhfchempaa.Vc Go.Proofs.Ytpcddfhfchempaa.Step Go.RowKit

/-- A page. -/
structure PageD where
  ver : Int
  users : Int
  es : List Ent
def pg0 : PageD := ⟨0, 0, []⟩
/-- Its cells. -/
structure PgC where
  ver : Int
  users : Int
  eo : Option Addr
  en : Nat
  ec : Nat
def pgE (g : PgC) : List Value := [.int .i64 g.ver, .int .i64 g.users, .slice g.eo g.en g.ec]
def smallE (e : Ent) : Prop := small e.1 ∧ small e.2
def PgR (w : World) (g : PgC) (p : PageD) (Fo Fd : Nat → Prop) : Prop :=
  g.ver = p.ver ∧ g.users = p.users ∧ g.en = p.es.length ∧ ∃ qs : List (Value × Value), Own w t_step_Entry 2 g.eo g.en g.ec (qs.map pairE).flatten Fo ∧ All2 (fun q e => EntV w q e Fd) qs p.es ∧ (∀ e ∈ p.es, smallE e)
theorem PgR.keep {w w' : World} {g : PgC} {p : PageD} {Fo Fd G : Nat → Prop} (h : PgR w g p Fo Fd) (hc : Ch G w w') (h1 : ∀ i, i < w.heap.size → Fo i → ¬ G i) (h2 : ∀ i, i < w.heap.size → Fd i → ¬ G i) : PgR w' g p Fo Fd := by
  obtain ⟨a, b, c, qs, d, e, f⟩ := h
  exact ⟨a, b, c, qs, d.keep hc h1, e.imp (fun _ _ k => k.keep hc h2), f⟩
structure PoolC (w : World) (pb : Nat) (o : Option Addr) (c : Nat) (gs : List PgC) (R : Nat → Nat → Prop) (n : Nat) : Prop where
  fam : Fam w R
  z : R 0 pb
  blk : Blk w pb [.slice o n c] t_pages_Pool
  own : Own w t_pages_page 3 o n c (gs.map pgE).flatten (R 1)
  len : gs.length = n
/-- A pool, all of it in F. -/
def PoolR (w : World) (pb : Nat) (ps : List PageD) (F : Nat → Prop) : Prop :=
  ∃ (o : Option Addr) (c : Nat) (gs : List PgC) (R : Nat → Nat → Prop), PoolC w pb o c gs R ps.length ∧ (∀ k i, R k i → F i) ∧ ∀ (i : Nat) (h1 : i < gs.length) (h2 : i < ps.length), PgR w gs[i] ps[i] (R (3 + i)) (R 2)
section
variable {w w' : World} {pb : Nat} {o : Option Addr} {c n : Nat} {gs : List PgC} {R : Nat → Nat → Prop} {ps : List PageD} {F G : Nat → Prop}
theorem PoolC.keep (h : PoolC w pb o c gs R n) (hc : Ch G w w') (hd : ∀ k i, R k i → ¬ G i) : PoolC w' pb o c gs R n :=
  ⟨h.fam.le hc.size, h.z, h.blk.keep hc (hd 0 pb h.z), h.own.keep hc (fun i _ hi => hd 1 i hi), h.len⟩
theorem PoolR.keep (h : PoolR w pb ps F) (hc : Ch G w w') (hd : ∀ i, i < w.heap.size → F i → ¬ G i) : PoolR w' pb ps F := by
  obtain ⟨o, c, gs, R, hC, hF, hP⟩ := h
  have hd' : ∀ k i, R k i → ¬ G i := fun k i hi => hd i (hC.fam.1 k i hi) (hF k i hi)
  exact ⟨o, c, gs, R, hC.keep hc hd', hF, fun i h1 h2 => (hP i h1 h2).keep hc (fun j _ hj => hd' _ j hj) (fun j _ hj => hd' _ j hj)⟩
theorem PoolR.keepN (h : PoolR w pb ps F) (hc : Ch Non w w') : PoolR w' pb ps F := h.keep hc (fun _ _ _ => id)
theorem PoolR.mono (h : PoolR w pb ps F) (hg : ∀ i, i < w.heap.size → F i → G i) : PoolR w pb ps G := by
  obtain ⟨o, c, gs, R, hC, hF, hP⟩ := h
  exact ⟨o, c, gs, R, hC, fun k i hi => hg i (hC.fam.1 k i hi) (hF k i hi), hP⟩
theorem PoolR.lt (h : PoolR w pb ps F) : pb < w.heap.size ∧ F pb := by
  obtain ⟨o, c, gs, R, hC, hF, hP⟩ := h
  exact ⟨hC.blk.lt, hF 0 pb hC.z⟩
theorem PoolR.len (h : PoolR w pb ps F) : ps.length ≤ maxLen := by
  obtain ⟨o, c, gs, R, hC, hF, hP⟩ := h
  exact Nat.le_trans hC.own.2.1 hC.own.2.2.1
/-- A page's cells. -/
theorem PoolC.at (h : PoolC w pb o c gs R n) {j : Nat} (hj : j < gs.length) : ∃ p, o = some p ∧ R 1 p.block ∧ w.cell? (p.add (j * 3)) = some (.int .i64 gs[j].ver) ∧ w.cell? ((p.add (j * 3)).add 1) = some (.int .i64 gs[j].users) ∧ w.cell? ((p.add (j * 3)).add 2) = some (.slice gs[j].eo gs[j].en gs[j].ec) ∧
    ((∃ u, w.cell? (p.add (j * 3)) = some u) ∧ w.frozen? (p.add (j * 3)) = false) ∧ ((∃ u, w.cell? ((p.add (j * 3)).add 1) = some u) ∧ w.frozen? ((p.add (j * 3)).add 1) = false) ∧ ((∃ u, w.cell? ((p.add (j * 3)).add 2) = some u) ∧ w.frozen? ((p.add (j * 3)).add 2) = false) := by
  obtain ⟨p, hp, _, hF, hc⟩ := h.own.rd.elem (sz := 3) (fun _ => rfl) (by omega) hj
  have h0 := hc 0 _ rfl
  rw [add_none] at h0
  have f0 := flatten_at (enc := pgE) (sz := 3) (q := 0) gs (fun _ => rfl) hj (by omega)
  have f1 := flatten_at (enc := pgE) (sz := 3) (q := 1) gs (fun _ => rfl) hj (by omega)
  have f2 := flatten_at (enc := pgE) (sz := 3) (q := 2) gs (fun _ => rfl) hj (by omega)
  rw [Nat.add_zero] at f0
  refine ⟨p, hp, hF, h0, hc 1 _ rfl, hc 2 _ rfl, h.own.ok f0 hp, ?_, ?_⟩
  · rw [add_add]; exact h.own.ok f1 hp
  · rw [add_add]; exact h.own.ok f2 hp
/-- One field of a page is laid anew. -/
theorem PoolC.put (h : PoolC w pb o c gs R n) {j q : Nat} (hj : j < gs.length) {p : Addr} (hp : o = some p) (hq : q < 3) {v : Value} (ew : w' = w.setCell ((p.add (j * 3)).add q) v) {g : PgC} (hg : pgE g = (pgE gs[j]).set q v) :
    PoolC w' pb o c (gs.set j g) R n ∧ Ch (R 1) w w' := by
  rw [add_add] at ew
  have hlt : j * 3 + q < (gs.map pgE).flatten.length := by
    have := h.own.len
    rw [this, ← h.len]; omega
  obtain ⟨h1, h2⟩ := h.own.set hlt hp ew
  rw [flatten_set (enc := pgE) gs (fun _ => rfl) hj hg hq] at h1
  exact ⟨⟨h.fam.le h2.size, h.z, h.blk.keep h2 (fun hx => h.fam.2 0 1 (by omega) pb h.z hx), h1, by rw [List.length_set]; exact h.len⟩, h2⟩
/-- All of a page is laid anew. -/
theorem PoolC.put3 (h : PoolC w pb o c gs R n) {j : Nat} (hj : j < gs.length) {p : Addr} (hp : o = some p) {g : PgC} (ew : w' = ((w.setCell (p.add (j * 3)) (.int .i64 g.ver)).setCell ((p.add (j * 3)).add 1) (.int .i64 g.users)).setCell ((p.add (j * 3)).add 2) (.slice g.eo g.en g.ec)) :
    PoolC w' pb o c (gs.set j g) R n ∧ Ch (R 1) w w' := by
  have h0 : w.setCell (p.add (j * 3)) (.int .i64 g.ver) = w.setCell ((p.add (j * 3)).add 0) (.int .i64 g.ver) := by rw [add_none]
  rw [h0] at ew
  obtain ⟨a1, b1⟩ := h.put hj hp (q := 0) (by omega) rfl (g := ⟨g.ver, gs[j].users, gs[j].eo, gs[j].en, gs[j].ec⟩) rfl
  have hj1 : j < (gs.set j ⟨g.ver, gs[j].users, gs[j].eo, gs[j].en, gs[j].ec⟩).length := by rw [List.length_set]; exact hj
  obtain ⟨a2, b2⟩ := a1.put hj1 hp (q := 1) (by omega) rfl (g := ⟨g.ver, g.users, gs[j].eo, gs[j].en, gs[j].ec⟩) (by rw [List.getElem_set_self]; rfl)
  rw [List.set_set] at a2
  have hj2 : j < (gs.set j ⟨g.ver, g.users, gs[j].eo, gs[j].en, gs[j].ec⟩).length := by rw [List.length_set]; exact hj
  obtain ⟨a3, b3⟩ := a2.put hj2 hp (q := 2) (by omega) ew (g := g) (by rw [List.getElem_set_self]; rfl)
  rw [List.set_set] at a3
  exact ⟨a3, (b1.same b2).same b3⟩
/-- Pages laid anew in the pages' own row. -/
theorem PoolR.write {gs' : List PgC} {ps' : List PageD} (hC : PoolC w' pb o c gs' R n) (hc : Ch (R 1) w w') (hF : ∀ k i, R k i → F i) (hn : ps'.length = n) (hP : ∀ (i : Nat) (h1 : i < gs'.length) (h2 : i < ps'.length), PgR w gs'[i] ps'[i] (R (3 + i)) (R 2)) : PoolR w' pb ps' F := by
  subst hn
  exact ⟨o, c, gs', R, hC, hF, fun i h1 h2 => (hP i h1 h2).keep hc (fun j _ a b => hC.fam.2 (3 + i) 1 (by omega) j a b) (fun j _ a b => hC.fam.2 2 1 (by omega) j a b)⟩
end
def pgAt (ps : List PageD) (id : Int) : PageD := if 0 ≤ id then ps.getD id.toNat pg0 else pg0
def isB (ps : List PageD) (id : Int) : Bool := decide ((pgAt ps id).users > 0)
theorem pgAt_lt {ps : List PageD} {id : Int} (h0 : 0 ≤ id) (h : id.toNat < ps.length) : pgAt ps id = ps[id.toNat] := by
  unfold pgAt
  rw [if_pos h0, List.getD_eq_getElem?_getD, List.getElem?_eq_getElem h]; rfl
theorem isB_lt {ps : List PageD} {id : Int} (h : isB ps id = true) : 0 ≤ id ∧ id.toNat < ps.length := by
  unfold isB pgAt at h
  split at h
  · rename_i h0
    refine ⟨h0, Nat.lt_of_not_le fun hle => ?_⟩
    rw [List.getD_eq_getElem?_getD, List.getElem?_eq_none hle] at h
    simp [pg0] at h
  · simp [pg0] at h
section
variable {w : World} {pb : Nat} {ps : List PageD} {F G : Nat → Prop}
theorem is_spec (h : PoolR w pb ps F) (id : Int) : Calls Try.prog i_pages_Pool_is #[.pointer (some ⟨pb, 0, none⟩), .int .i64 id] w (Ret fun v w' => v = .bool (isB ps id) ∧ w' = w) := by
  obtain ⟨o, c, gs, R, hC, hF, hP⟩ := h
  refine pages_Pool_is.calls _ _ ?_
  unfold pages_Pool_is.vc
  refine ⟨fun h0 => ⟨_, _, _, hC.blk.cell 0 rfl, fun h1 => ?_, fun h1 => ?_⟩, fun h0 => ?_⟩
  · have h0 := of_decide_eq_true h0
    have h1 := of_decide_eq_true h1
    have hj : id.toNat < gs.length := by rw [hC.len]; omega
    have hj2 : id.toNat < ps.length := by rw [← hC.len]; exact hj
    obtain ⟨p, rfl, _, _, a1, _⟩ := hC.at hj
    refine ⟨_, _, _, hC.blk.cell 0 rfl, ⟨by omega, by omega⟩, _, a1, ?_, rfl⟩
    unfold isB
    rw [pgAt_lt h0 hj2, (hP _ hj hj2).2.1]
  · have h0 := of_decide_eq_true h0
    have h1 := of_decide_eq_false h1
    cases hb : isB ps id with
    | true => have := isB_lt hb; omega
    | false => exact ⟨rfl, rfl⟩
  · have h0 := of_decide_eq_false h0
    cases hb : isB ps id with
    | true => have := isB_lt hb; omega
    | false => exact ⟨rfl, rfl⟩
theorem Users_spec (h : PoolR w pb ps F) (id : Int) : Calls Try.prog i_pages_Pool_Users #[.pointer (some ⟨pb, 0, none⟩), .int .i64 id] w (Ret fun v w' => v = .int .i64 (if isB ps id then (pgAt ps id).users else 0) ∧ w' = w) := by
  refine pages_Pool_Users.calls _ _ ?_
  unfold pages_Pool_Users.vc
  refine step_call (is_spec h id) ?_
  rintro v w' ⟨rfl, rfl⟩
  obtain ⟨o, c, gs, R, hC, hF, hP⟩ := h
  refine ⟨_, rfl, fun hn => ?_, fun hn => ?_⟩
  · have hb : isB ps id = false := by simpa using hn
    rw [hb]; exact ⟨rfl, rfl⟩
  · have hb : isB ps id = true := by simpa using hn
    obtain ⟨h0, h1⟩ := isB_lt hb
    have hj : id.toNat < gs.length := by rw [hC.len]; exact h1
    obtain ⟨p, rfl, _, _, a1, _⟩ := hC.at hj
    refine ⟨_, _, _, hC.blk.cell 0 rfl, ⟨by omega, by omega⟩, _, a1, ?_, rfl⟩
    rw [hb, if_pos rfl, pgAt_lt h0 h1, (hP _ hj h1).2.1]
theorem Version_spec (h : PoolR w pb ps F) (id : Int) : Calls Try.prog i_pages_Pool_Version #[.pointer (some ⟨pb, 0, none⟩), .int .i64 id] w (Ret fun v w' => v = .int .i64 (if isB ps id then (pgAt ps id).ver else 0) ∧ w' = w) := by
  refine pages_Pool_Version.calls _ _ ?_
  unfold pages_Pool_Version.vc
  refine step_call (is_spec h id) ?_
  rintro v w' ⟨rfl, rfl⟩
  obtain ⟨o, c, gs, R, hC, hF, hP⟩ := h
  refine ⟨_, rfl, fun hn => ?_, fun hn => ?_⟩
  · have hb : isB ps id = false := by simpa using hn
    rw [hb]; exact ⟨rfl, rfl⟩
  · have hb : isB ps id = true := by simpa using hn
    obtain ⟨h0, h1⟩ := isB_lt hb
    have hj : id.toNat < gs.length := by rw [hC.len]; exact h1
    obtain ⟨p, rfl, _, a0, _⟩ := hC.at hj
    refine ⟨_, _, _, hC.blk.cell 0 rfl, ⟨by omega, by omega⟩, _, a0, ?_, rfl⟩
    rw [hb, if_pos rfl, pgAt_lt h0 h1, (hP _ hj h1).1]
theorem Len_spec (h : PoolR w pb ps F) : Calls Try.prog i_pages_Pool_Len #[.pointer (some ⟨pb, 0, none⟩)] w (Ret fun v w' => v = .int .i64 ps.length ∧ w' = w) := by
  obtain ⟨o, c, gs, R, hC, hF, hP⟩ := h
  refine pages_Pool_Len.calls _ ?_
  unfold pages_Pool_Len.vc
  exact ⟨_, _, _, hC.blk.cell 0 rfl, rfl, rfl⟩
def freeN (ps : List PageD) : Nat := (ps.filter fun p => !decide (p.users > 0)).length
def ofL (ps : List PageD) (v : Int) (j : Nat) : List Int := ((List.range j).filter fun i : Nat => isB ps (i : Int) && ((pgAt ps (i : Int)).ver == v)).map fun i : Nat => (i : Int)
theorem ofL_succ (ps : List PageD) (v : Int) (j : Nat) : ofL ps v (j + 1) = ofL ps v j ++ (if isB ps j && ((pgAt ps j).ver == v) then [(j : Int)] else []) := by
  unfold ofL
  rw [List.range_succ, List.filter_append, List.map_append]
  congr 1
  rw [List.filter_cons]
  split <;> simp
theorem isB_nat {ps : List PageD} {j : Nat} (h : j < ps.length) : isB ps (j : Int) = decide (ps[j].users > 0) := by
  unfold isB
  rw [pgAt_lt (by omega) (by simpa using h)]
  rfl
theorem Free_spec (h : PoolR w pb ps F) : Calls Try.prog i_pages_Pool_Free #[.pointer (some ⟨pb, 0, none⟩)] w (Ret fun v w' => v = .int .i64 (freeN ps) ∧ w' = w) := by
  refine pages_Pool_Free.calls _ ?_
  unfold pages_Pool_Free.vc
  have hml : ps.length ≤ maxLen := h.len
  unfold maxLen at hml
  refine step_call (Len_spec h) ?_
  rintro v w1 ⟨rfl, rfl⟩
  refine ⟨_, rfl, fun n i k w' => w' = w1 ∧ ∃ j : Nat, i = j ∧ j ≤ ps.length ∧ k = ps.length - j ∧ n = freeN (ps.take j), ⟨_, rfl, 0, rfl, Nat.zero_le _, rfl, rfl⟩, ?_⟩
  rintro jk n i k w' ⟨rfl, j, rfl, hj, rfl, rfl⟩
  refine ⟨fun hlt => ?_, fun hge => ?_⟩
  · have hlt : j < ps.length := by have := of_decide_eq_true hlt; omega
    have hle : freeN (ps.take j) ≤ j := by
      unfold freeN
      exact Nat.le_trans (List.length_filter_le _ _) (by simp; omega)
    have hs : freeN (ps.take (j + 1)) = freeN (ps.take j) + (if isB ps (j : Int) then 0 else 1) := by
      unfold freeN
      rw [take_snoc ps j hlt, List.filter_append, List.length_append, isB_nat hlt, List.filter_cons]
      by_cases hu : ps[j].users > 0
      · rw [decide_eq_true hu]; simp
      · rw [decide_eq_false hu]; simp
    refine step_call (is_spec h _) ?_
    rintro v w2 ⟨rfl, rfl⟩
    refine ⟨_, rfl, fun hn => ?_, fun hn => ?_⟩
    · have hb : isB ps (j : Int) = false := by simpa using hn
      rw [hb] at hs
      refine ⟨ps.length - (j + 1), by omega, rfl, j + 1, by rw [wrap_id (by omega) (by omega)]; rfl, hlt, rfl, ?_⟩
      rw [wrap_id (by omega) (by omega), hs]; rfl
    · have hb : isB ps (j : Int) = true := by simpa using hn
      rw [hb] at hs
      exact ⟨ps.length - (j + 1), by omega, rfl, j + 1, by rw [wrap_id (by omega) (by omega)]; rfl, hlt, rfl, by rw [hs]; rfl⟩
  · have : j = ps.length := by have := of_decide_eq_false hge; omega
    subst this
    rw [List.take_length]
    exact ⟨rfl, rfl⟩
theorem Of_spec (h : PoolR w pb ps F) (hl : ps.length ≤ 1000000) (v : Int) : Calls Try.prog i_pages_Pool_Of #[.pointer (some ⟨pb, 0, none⟩), .int .i64 v] w (Ret fun x w' => IntsV w' x (ofL ps v ps.length) (New w w') ∧ Ch Non w w') := by
  refine pages_Pool_Of.calls _ _ ?_
  unfold pages_Pool_Of.vc
  refine step_call (Len_spec h) ?_
  rintro x w1 ⟨rfl, rfl⟩
  refine ⟨_, rfl, fun oA oN oC i k w' => ∃ j : Nat, i = j ∧ j ≤ ps.length ∧ k = ps.length - j ∧ oN = (ofL ps v j).length ∧ Gr Non w1 w' t_int 1 oA (ofL ps v j).length oC ((ofL ps v j).map (.int .i64)), ⟨_, 0, rfl, Nat.zero_le _, rfl, rfl, Gr.nil (Ch.refl _ _)⟩, ?_⟩
  rintro jk oA oN oC i k w' ⟨j, rfl, hj, rfl, rfl, hg⟩
  refine ⟨fun hlt => ?_, fun hge => ?_⟩
  · have hlt : j < ps.length := by have := of_decide_eq_true hlt; omega
    have hle : (ofL ps v j).length ≤ j := by
      unfold ofL
      rw [List.length_map]
      exact Nat.le_trans (List.length_filter_le _ _) (by simp)
    have hs := ofL_succ ps v j
    have h2 := h.keepN hg.2
    refine step_call (is_spec h2 _) ?_
    rintro x w2 ⟨rfl, rfl⟩
    have hend : ofL ps v (j + 1) = ofL ps v j → ∃ vk_1 : Nat, vk_1 < ps.length - j ∧ ∃ j' : Nat, IntKind.i64.wrap ((j : Int) + 1) = j' ∧ j' ≤ ps.length ∧ vk_1 = ps.length - j' ∧ (ofL ps v j).length = (ofL ps v j').length ∧ Gr Non w1 w2 t_int 1 oA (ofL ps v j').length oC ((ofL ps v j').map (.int .i64)) := fun h =>
      ⟨ps.length - (j + 1), by omega, j + 1, by rw [wrap_id (by omega) (by omega)]; rfl, hlt, rfl, by rw [h], by rw [h]; exact hg⟩
    refine ⟨_, rfl, fun hb => ?_, fun hb => hend (by rw [hs, hb]; simp)⟩
    obtain ⟨o, c, gs, R, hC, hF, hP⟩ := h2
    have hj1 : j < gs.length := by rw [hC.len]; exact hlt
    obtain ⟨p, rfl, _, a0, _⟩ := hC.at hj1
    have hv := (hP j hj1 hlt).1
    refine ⟨_, _, _, hC.blk.cell 0 rfl, ⟨by omega, by omega⟩, _, a0, fun hq => ?_, fun hq => hend ?_⟩
    · intro w4 e4
      obtain ⟨o', c', w5, hr, hg5, _⟩ := hg.push el_S_int t_S_int e4 rfl rfl (by omega) (by omega)
      have hs2 : ofL ps v (j + 1) = ofL ps v j ++ [(j : Int)] := by
        rw [hs, hb, pgAt_lt (by omega) (by simpa using hlt)]
        rw [hv] at hq
        have : (ps[(j : Int).toNat].ver == v) = true := hq
        rw [this]; rfl
      refine ⟨o', _, c', w5, hr, ps.length - (j + 1), by omega, j + 1, by rw [wrap_id (by omega) (by omega)]; rfl, hlt, rfl, by rw [hs2]; simp, ?_⟩
      rw [hs2, List.length_append, List.map_append]
      exact hg5
    · rw [hs, hb, pgAt_lt (by omega) (by simpa using hlt)]
      rw [hv] at hq
      have : (ps[(j : Int).toNat].ver == v) = false := hq
      rw [this]; simp
  · have : j = ps.length := by have := of_decide_eq_false hge; omega
    subst this
    exact ⟨⟨oA, oC, rfl, hg.rd⟩, hg.2⟩
end
end Go.Proofs.Ytpcddfhfchempaa.Pages
