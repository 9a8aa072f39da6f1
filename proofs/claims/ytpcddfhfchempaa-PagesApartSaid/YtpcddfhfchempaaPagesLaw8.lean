/- PagesApart's contract: of every row of puts and every page shared the Go function answers true and leaves what was there; the conditions stand in each theorem. -/
import Derived.Test.YtpcddfhfchempaaPagesLaw7
import Derived.Test.YtpcddfhfchempaaVcPagesA
set_option linter.unusedVariables false
set_option linter.unusedSimpArgs false
namespace Go.Proofs.Ytpcddfhfchempaa.Pages
open Go Go.Proofs Go.Proofs.Ytpcddfhfchempaa.V Go.Proofs.Ytpcddfhfchempaa.Vc Go.Proofs.Ytpcddfhfchempaa.Step Go.RowKit

theorem mod0 (x : Int) {n : Int} (h : 1 ≤ n ∧ n ≤ 1000) : 0 ≤ IntKind.i64.wrap (Int.tmod (IntKind.u64.wrap x) n) ∧ IntKind.i64.wrap (Int.tmod (IntKind.u64.wrap x) n) < n := by
  rw [wrap_u64, tmod_pos (Int.emod_nonneg _ (by omega))]
  have h1 := Int.emod_nonneg (x % 18446744073709551616) (show n ≠ 0 by omega)
  have h2 := Int.emod_lt_of_pos (x % 18446744073709551616) (show 0 < n by omega)
  rw [wrap_id (x := _ % n) (by omega) (by omega)]
  omega
/-- So many pages of ten are taken. -/
def tk (i : Nat) : List PageD := (List.range 10).map fun j => if j < i then ⟨(j : Int) + 1, 1, []⟩ else pg0
theorem tk_step {i : Nat} (h : i < 10) : takeV (tk i) ((i : Int) + 1) = ((i : Int), 0) ∧ takeP (tk i) ((i : Int) + 1) = tk (i + 1) := by
  have : i = 0 ∨ i = 1 ∨ i = 2 ∨ i = 3 ∨ i = 4 ∨ i = 5 ∨ i = 6 ∨ i = 7 ∨ i = 8 ∨ i = 9 := by omega
  rcases this with rfl | rfl | rfl | rfl | rfl | rfl | rfl | rfl | rfl | rfl <;> exact ⟨by decide, rfl⟩
/-- Rows of numbers, each in its own blocks; hb has their places. -/
abbrev RowC := Option Addr × Nat × List Int
def rowE (x : RowC) : Value := .slice x.1 x.2.2.length x.2.1
structure HaveR (w : World) (hb : Nat) (xs : List RowC) (H : Nat → Nat → Prop) : Prop where
  blk : Blk w hb (xs.map rowE) 43
  len : xs.length = 10
  own : ∀ j (h : j < xs.length), Own w t_int 1 xs[j].1 xs[j].2.2.length xs[j].2.1 (xs[j].2.2.map (.int .i64)) (H j)
  ap : ∀ j k, j ≠ k → Apart (H j) (H k)
  hb : ∀ j, ¬ H j hb
/-- What the pages have. -/
def PgF (ps : List PageD) (xs : List RowC) (u : Nat → Int) : Prop :=
  ps.length = 10 ∧ ∀ j (h1 : j < ps.length) (h2 : j < xs.length), ps[j].users = u j ∧ ps[j].es = xs[j].2.2.map entE ∧ xs[j].2.2.length ≤ 4
/-- All of it; X: blocks of somebody else. -/
structure StC (W w : World) (pb hb : Nat) (u : Nat → Int) (X : Nat → Prop) (ps : List PageD) (xs : List RowC) (F : Nat → Prop) (H : Nat → Nat → Prop) : Prop where
  p : Pool W w pb ps F
  h : HaveR w hb xs H
  g : PgF ps xs u
  hf : ∀ j, Foot W w (H j)
  ap : ∀ j, Apart (H j) F
  lo : W.heap.size ≤ hb
  nf : ¬ F hb
  x : ∀ i, X i → ¬ F i ∧ (∀ j, ¬ H j i) ∧ i ≠ hb
def St (W w : World) (pb hb : Nat) (u : Nat → Int) (X : Nat → Prop) : Prop := ∃ ps xs F H, StC W w pb hb u X ps xs F H
section
variable {W w w' : World} {pb hb : Nat} {u : Nat → Int} {X Y G F : Nat → Prop} {ps : List PageD} {xs : List RowC} {H : Nat → Nat → Prop}
theorem StC.keep (h : StC W w pb hb u X ps xs F H) (hc : Ch G w w') (hG : ∀ i, G i → X i) (hW : ∀ i, G i → W.heap.size ≤ i) : StC W w' pb hb u X ps xs F H := by
  have hx := fun i hi => h.x i (hG i hi)
  refine ⟨⟨h.p.r.keep hc (fun i _ hf hg => (hx i hg).1 hf), h.p.f.le hc.size, h.p.c.trans hc (fun i hi hg => absurd hi (Nat.not_lt.2 (hW i hg)))⟩,
    ⟨h.h.blk.keep hc (fun hg => (hx hb hg).2.2 rfl), h.h.len, fun j hj => (h.h.own j hj).keep hc (fun i _ hH hg => (hx i hg).2.1 j hH), h.h.ap, h.h.hb⟩, h.g, fun j => (h.hf j).le hc.size, h.ap, h.lo, h.nf, h.x⟩
theorem StC.keepN (h : StC W w pb hb u X ps xs F H) (hc : Ch Non w w') : StC W w' pb hb u X ps xs F H := h.keep hc (fun _ h => h.elim) (fun _ h => h.elim)
theorem StC.lt (h : StC W w pb hb u X ps xs F H) {i : Nat} (hi : w.heap.size ≤ i) : ¬ F i ∧ (∀ j, ¬ H j i) ∧ i ≠ hb :=
  ⟨fun hf => by have := h.p.lt i hf; omega, fun j hj => by have := (h.hf j i hj).2; omega, fun e => by have := h.h.blk.lt; omega⟩
theorem StC.to (h : StC W w pb hb u X ps xs F H) (hY : ∀ i, Y i → X i ∨ w.heap.size ≤ i) : StC W w pb hb u Y ps xs F H :=
  ⟨h.p, h.h, h.g, h.hf, h.ap, h.lo, h.nf, fun i hi => by
    rcases hY i hi with hi | hi
    · exact h.x i hi
    · exact h.lt hi⟩
theorem StC.row (h : StC W w pb hb u X ps xs F H) {j : Nat} (hj : j < 10) : w.cell? ((⟨hb, 0, none⟩ : Addr).add j) = some (rowE (xs[j]'(by rw [h.h.len]; exact hj))) := by
  rw [add_at, Nat.zero_add]
  exact h.h.blk.cell _ (by rw [List.getElem?_map, List.getElem?_eq_getElem (by rw [h.h.len]; exact hj)]; rfl)
theorem PgF.at (h : PgF ps xs u) (hx : xs.length = 10) {id : Int} (h0 : 0 ≤ id) (h1 : id < 10) : (pgAt ps id).users = u id.toNat ∧ (pgAt ps id).es = (xs[id.toNat]'(by omega)).2.2.map entE ∧ (xs[id.toNat]'(by omega)).2.2.length ≤ 4 := by
  have hl := h.1
  rw [pgAt_lt h0 (by omega)]
  exact h.2 _ _ _
end
theorem HaveR.push {w w1 : World} {hb : Nat} {xs : List RowC} {H : Nat → Nat → Prop} (h : HaveR w hb xs H) (hlt : ∀ j i, H j i → i < w.heap.size) {id : Nat} (hid : id < xs.length) (x : Int) (e1 : w1 = w.alloc (.cells #[.int .i64 x] t_int (0, 0))) (hl : xs[id].2.2.length < 1000) :
    ∃ (o' : Option Addr) (c' : Nat) (w2 : World), (Builtin.append_ #[t_S_int, t_S_int] t_S_int #[rowE xs[id], .slice (some ⟨w.heap.size, 0, none⟩) 1 1]).run Try.prog w1 = .ok (.slice o' (xs[id].2.2.length + 1) c') w2 ∧ Ch (H id) w w2 ∧
      ((∃ u, w2.cell? ((⟨hb, 0, none⟩ : Addr).add id) = some u) ∧ w2.frozen? ((⟨hb, 0, none⟩ : Addr).add id) = false) ∧
      ∀ w3 : World, w3 = w2.setCell ((⟨hb, 0, none⟩ : Addr).add id) (.slice o' (xs[id].2.2.length + 1) c') → HaveR w3 hb (xs.set id (o', c', xs[id].2.2 ++ [x])) (updF H id w w2) ∧ Ch (· = hb) w2 w3 := by
  obtain ⟨o', c', w2, hr, ho, hc⟩ := Own.pushT (enc := .int .i64) el_S_int (h.own id hid) t_S_int x e1 rfl (by unfold maxLen; omega) (by omega)
  have hB := h.blk.keep hc (h.hb id)
  have hok := hB.ok id (v := rowE xs[id]) (by rw [List.getElem?_map, List.getElem?_eq_getElem hid]; rfl)
  refine ⟨o', c', w2, hr, hc, by rw [add_at, Nat.zero_add]; exact hok, fun w3 e3 => ?_⟩
  rw [add_at, Nat.zero_add] at e3
  have hB3 := hB.set e3
  have hc3 : Ch (· = hb) w2 w3 := Ch.set e3 rfl
  have hfam := (show Fam w H from ⟨hlt, h.ap⟩).upd hc.size id
  have hnb : ∀ j, ¬ updF H id w w2 j hb := fun j hj => by
    unfold updF at hj
    split at hj
    · rcases hj with hj | hj
      · exact h.hb id hj
      · have := h.blk.lt; omega
    · exact h.hb j hj
  refine ⟨⟨?_, by rw [List.length_set]; exact h.len, fun j hj => ?_, hfam.2, hnb⟩, hc3⟩
  · rw [List.map_set]
    have : rowE (o', c', xs[id].2.2 ++ [x]) = .slice o' (xs[id].2.2.length + 1) c' := by unfold rowE; simp
    rw [this]; exact hB3
  · have hjx : j < xs.length := by simpa using hj
    by_cases hji : j = id
    · subst hji
      rw [List.getElem_set_self, updF_same]
      have := ho.keep hc3 (fun i _ hi he => hnb j (by rw [updF_same, ← he]; exact hi))
      simpa using this
    · rw [List.getElem_set_ne (fun e => hji e.symm), updF_other hji]
      exact ((h.own j hjx).keep hc (fun i _ a b => h.ap j id hji i a b)).keep hc3 (fun i _ hi he => h.hb j (he ▸ hi))
theorem addU_get {ps : List PageD} {d id : Int} {j : Nat} (h : j < (addU d ps id).length) : (addU d ps id)[j] = if j = id.toNat then { pgAt ps id with users := (pgAt ps id).users + d } else ps[j]'(by rwa [addU_len] at h) := by
  simp only [addU, List.getElem_set]
  by_cases hj : j = id.toNat
  · rw [if_pos hj, if_pos hj.symm]
  · rw [if_neg hj, if_neg (fun e => hj e.symm)]
theorem PgF.add {ps : List PageD} {xs : List RowC} {u : Nat → Int} (h : PgF ps xs u) {d id : Int} (h0 : 0 ≤ id) (h1 : id < 10) : PgF (addU d ps id) xs (fun j => if j = id.toNat then u j + d else u j) := by
  refine ⟨by rw [addU_len]; exact h.1, fun j j1 j2 => ?_⟩
  have hl := h.1
  have j3 := j1
  rw [addU_len] at j3
  obtain ⟨a, b, c⟩ := h.2 j j3 j2
  rw [addU_get j1]
  by_cases hj : j = id.toNat
  · subst hj
    rw [if_pos rfl, pgAt_lt h0 j3]
    dsimp only
    rw [if_pos rfl]
    exact ⟨by rw [a], b, c⟩
  · rw [if_neg hj]
    dsimp only
    rw [if_neg hj]
    exact ⟨a, b, c⟩
theorem PgF.put {ps : List PageD} {xs : List RowC} {u : Nat → Int} (h : PgF ps xs u) {id : Int} (h0 : 0 ≤ id) (h1 : id < 10) (hx : xs.length = 10) {o : Option Addr} {c : Nat} {l : List Int} {x : Int} (hl : (xs[id.toNat]'(by omega)).2.2 = l) (h4 : l.length < 4) :
    PgF (ps.set id.toNat { pgAt ps id with es := (pgAt ps id).es ++ [entE x] }) (xs.set id.toNat (o, c, l ++ [x])) u := by
  refine ⟨by rw [List.length_set]; exact h.1, fun j j1 j2 => ?_⟩
  have hpl := h.1
  rw [List.length_set] at j1 j2
  obtain ⟨a, b, d⟩ := h.2 j j1 j2
  by_cases hj : j = id.toNat
  · subst hj
    rw [List.getElem_set_self, List.getElem_set_self, pgAt_lt h0 j1]
    exact ⟨a, by rw [b, hl]; simp, by simp; omega⟩
  · rw [List.getElem_set_ne (fun e => hj e.symm), List.getElem_set_ne (fun e => hj e.symm)]
    exact ⟨a, b, d⟩
set_option maxRecDepth 100000 in
set_option maxHeartbeats 1000000 in
theorem PagesApart_true (W : World) (o1 : Option Addr) (n1 c1 : Nat) (h1 : DatC Try.prog W t_S_int [.slice o1 n1 c1]) (share : Int) (_ : (Lit.int .i64 share).wf = true) :
    Calls Try.prog i_coadjutorlaw22_PagesApart #[.slice o1 n1 c1, .int .i64 share] W (Ret fun v w' => v = .bool true ∧ Ch Non W w') := by
  obtain ⟨o1', c1', puts, hcs1, _, hm1, _, _, ha⟩ := h1.ints (k := .i64) (e := t_int) (by kernel_rfl) (by kernel_rfl)
  injection hcs1 with hcs1
  injection hcs1 with q1 q2 q3
  subst q1; subst q2; subst q3
  have hpl : puts.length ≤ 9223372036854775807 := by unfold maxLen at hm1; omega
  refine coadjutorlaw22_PagesApart.calls _ _ _ _ ?_
  unfold coadjutorlaw22_PagesApart.vc
  refine step_call (awake_spec W) ?_
  rintro v w1 ⟨rfl, hC1⟩
  refine ⟨_, rfl, iteF rfl ?_⟩
  refine step_call (New_spec w1 10 (by omega)) ?_
  rintro v w2 ⟨pb, rfl, hr2, hc2⟩
  have hP2 : Pool W w2 pb (tk 0) (New w1 w2) := ⟨hr2, Foot.new hC1, hC1.andN hc2⟩
  generalize New w1 w2 = F at hP2
  clear hr2 hc2 hC1
  refine ⟨_, rfl, fun i k w' => ∃ j : Nat, i = j ∧ j ≤ 10 ∧ k = 10 - j ∧ Pool W w' pb (tk j) F, ⟨_, 0, rfl, by omega, rfl, hP2⟩, ?_⟩
  clear hP2
  rintro jk i k w3 ⟨j, rfl, hj, rfl, hP3⟩
  refine ⟨fun hlt => ?_, fun hge => ?_⟩
  · have hlt : j < 10 := by have := of_decide_eq_true hlt; omega
    rw [wrap_id (by omega) (by omega)]
    refine step_call (Take_spec hP3.r _) ?_
    rintro v w4 ⟨rfl, hr, hc⟩
    obtain ⟨t1, t2⟩ := tk_step hlt
    rw [t2] at hr
    rw [t1]
    exact ⟨_, _, rfl, iteF rfl (iteF (by simp) ⟨10 - (j + 1), by omega, j + 1, rfl, hlt, rfl, hP3.step hr hc⟩)⟩
  have hj10 : j = 10 := by have := of_decide_eq_false hge; omega
  subst hj10
  refine step_call (Take_spec hP3.r _) ?_
  rintro v w5 ⟨rfl, hr, hc⟩
  have t1 : takeV (tk 10) 1 = (0, 11) := by decide
  have t2 : takeP (tk 10) 1 = tk 10 := rfl
  rw [t2] at hr
  rw [t1]
  have hP5 := hP3.step hr hc
  clear hr hc hP3
  refine ⟨_, _, rfl, iteF rfl (fun w6 e6 => ?_)⟩
  have hB6 := Blk.new e6
  have hc6 : Ch Non w5 w6 := Ch.alloc e6
  have hbF : ¬ F w5.heap.size := fun h => Nat.lt_irrefl _ (hP5.lt _ h)
  have hs5 := hP5.c.size
  refine ⟨⟨hB6.ok 0 rfl, hB6.ok 1 rfl, hB6.ok 2 rfl, hB6.ok 3 rfl, hB6.ok 4 rfl, hB6.ok 5 rfl, hB6.ok 6 rfl, hB6.ok 7 rfl, hB6.ok 8 rfl, hB6.ok 9 rfl⟩, fun w7 e7 => ?_⟩
  have e8 : w7 = w6.setCells w5.heap.size 0 ((List.replicate 10 (none, 0, [])).map rowE) := e7
  have hB7 := hB6.all ((List.replicate 10 (none, 0, [])).map rowE) rfl e8
  have hc7 : Ch Non w5 w7 := hc6.trans (Ch.sets (F := (· = w5.heap.size)) e8 rfl) (fun i hi he => by omega)
  clear e6 e7 e8 hB6
  have hB7 : Blk w7 w5.heap.size ((List.replicate 10 (none, 0, [])).map rowE) 43 := hB7
  generalize w5.heap.size = hb at hB7 hbF hs5 ⊢
  have hS7 : St W w7 pb hb (fun _ => 1) Non := by
    refine ⟨tk 10, List.replicate 10 (none, 0, []), F, fun _ _ => False, hP5.keepN hc7, ⟨hB7, rfl, fun j hj => ?_, fun _ _ _ _ h => h.elim, fun _ h => h⟩, ⟨rfl, fun j h1 h2 => ?_⟩, fun _ _ h => h.elim, fun _ _ h => h.elim, hs5, hbF, fun _ h => h.elim⟩
    · rw [List.getElem_replicate]; exact Own.nil _ _ _ _
    · rw [List.getElem_replicate]
      have hj : j < 10 := h1
      have e : (tk 10)[j]'h1 = ⟨(j : Int) + 1, 1, []⟩ := by
        simp only [tk, List.getElem_map, List.getElem_range, if_pos hj]
      rw [e]
      exact ⟨rfl, rfl, by simp⟩
  clear hP5 hc6 hc7 hB7 hbF hs5
  refine ⟨fun w' => St W w' pb hb (fun _ => 1) Non, ⟨fun i k w' => ∃ j : Nat, i = j ∧ j ≤ puts.length ∧ k = puts.length - j ∧ St W w' pb hb (fun _ => 1) Non, ⟨_, 0, rfl, Nat.zero_le _, rfl, hS7⟩, ?_⟩, ?_⟩
  · clear hS7
    rintro jk i k w8 ⟨j, rfl, hj, rfl, hS8⟩
    refine ⟨fun hlt => ⟨fun h40 => ?_, fun _ => hS8⟩, fun _ => hS8⟩
    have hlt : j < puts.length := by have := of_decide_eq_true hlt; omega
    have h40 : j < 40 := by have := of_decide_eq_true h40; omega
    obtain ⟨ps, xs, F, H, hS⟩ := hS8
    have hput : ∀ {w'}, Ch Non W w' → Rd w' o1 (puts.map (.int .i64)) (fun i => i < W.heap.size) := fun hc => (ha.mono (fun i hi _ => hi)).keepN hc
    refine ⟨⟨by omega, by omega⟩, (hput hS.p.c).typed (j := (j : Int).toNat * 1) (xs := puts) (by simpa using hlt) fun p hp => ⟨_, hp, by decide, ⟨by omega, by omega⟩, (hput hS.p.c).typed (j := (j : Int).toNat * 1) (xs := puts) (by simpa using hlt) fun p2 hp2 => ⟨_, hp2, ?_⟩⟩⟩
    have hxj : puts[(j : Int).toNat * 1]'(by simpa using hlt) = puts[j] := by congr 1; omega
    rw [hxj]
    clear hp hp2 p p2
    have hm := mod0 puts[j] (n := 10) (by omega)
    generalize hid : IntKind.i64.wrap (Int.tmod (IntKind.u64.wrap puts[j]) 10) = id at hm ⊢
    have hx : ∀ (i : Nat) (h : i < puts.length), i = j → puts[i] = puts[j] := fun i h e => by subst e; rfl
    generalize hxx : puts[j] = x at hid hx ⊢
    refine step_call (entry_specW w8 x) ?_
    rintro v w9 ⟨⟨qa, qb⟩, rfl, hq, hc9⟩
    have hS9 := hS.keepN hc9
    have hs9 := hc9.size
    have hq0 := hq
    obtain ⟨⟨oa, ca, va, hqa, hra, hAa⟩, ⟨ob, cb, vb, hqb, _, _⟩⟩ := hq
    dsimp only at hqa hqb hAa
    subst hqa; subst hqb
    refine ⟨oa, _, ca, ob, _, cb, rfl, fun w10 e10 => ?_⟩
    have hX10 := Blk.new e10
    refine ⟨⟨hX10.ok 0 rfl, hX10.ok 1 rfl⟩, fun w11 e11 => ?_⟩
    have e12 : w11 = w10.setCells w9.heap.size 0 [.slice oa (entE x).1.length ca, .slice ob (entE x).2.length cb] := e11
    have hX11 := hX10.all [.slice oa (entE x).1.length ca, .slice ob (entE x).2.length cb] rfl e12
    have hX11 : Blk w11 w9.heap.size [.slice oa (entE x).1.length ca, .slice ob (entE x).2.length cb] 35 := hX11
    have hc11 : Ch Non w9 w11 := (Ch.alloc (F := Non) e10).trans (Ch.sets (F := (· = w9.heap.size)) e12 rfl) (fun i hi he => by omega)
    have hs11 := hX11.lt
    clear e10 e11 e12 hX10
    have hS11 := hS9.keepN hc11
    have hxx9 := hS9.lt (i := w9.heap.size) (Nat.le_refl _)
    generalize w9.heap.size = xb at hX11 hs11 hxx9 hs9 ⊢
    refine ⟨_, _, _, _, _, _, ⟨hX11.cell 0 rfl, hX11.cell 1 rfl⟩, ?_⟩
    have hq11 := hq0.keepN hc11
    have hN8 : ∀ i, New w8 w9 i → ¬ F i ∧ (∀ j, ¬ H j i) ∧ i ≠ hb := fun i hi => hS.lt hi.1
    have hW8 := hS.p.c.size
    refine step_call (Put_spec (p := (_, _)) hS11.p.r id hq11.v (entE_small x)) ?_
    rintro v w12 ⟨rfl, hr12, hc12⟩
    have hgat := hS.g.at hS.h.len hm.1 hm.2
    have hidx : id.toNat < xs.length := by rw [hS.h.len]; omega
    have hb' : isB ps id = true := decide_eq_true (by rw [hgat.1]; decide)
    have hpv : putV ps id = if xs[id.toNat].2.2.length < 4 then 0 else 10 := by
      unfold putV
      rw [hb', if_pos rfl, if_neg (by rw [hgat.1]; decide), hgat.2.1, List.length_map]
      by_cases h4 : xs[id.toNat].2.2.length < 4
      · rw [if_neg (by omega), if_pos h4]
      · rw [if_pos (by omega), if_neg h4]
    have hH12 : HaveR w12 hb xs H := ⟨hS11.h.blk.keep hc12 hS.nf, hS.h.len, fun j hj => (hS11.h.own j hj).keep hc12 (fun i _ a b => hS.ap j i a b), hS.h.ap, hS.h.hb⟩
    have hP12 : Pool W w12 pb (putP ps id (entE x)) (Ext F w11 w12) := hS11.p.ext hr12 hc12
    have hX12 := hX11.keep hc12 hxx9.1
    have hE12 := hq11.keep hc12 (fun i _ hi hf => (hN8 i hi).1 hf)
    have hfoot12 : ∀ j, Foot W w12 (H j) := fun j => (hS11.hf j).le hc12.size
    have hs12 := hc12.size
    have hapF : ∀ j, Apart (H j) (Ext F w11 w12) := fun j i hi hf => by
      rcases hf with hf | hf
      · exact hS.ap j i hi hf
      · exact absurd (hS11.hf j i hi).2 (Nat.not_lt.2 hf.1)
    have hnf12 : ¬ Ext F w11 w12 hb := fun hf => by
      rcases hf with hf | hf
      · exact hS.nf hf
      · have := hS11.h.blk.lt; have := hf.1; omega
    have hxN : ∀ i, New w8 w9 i → ¬ Ext F w11 w12 i ∧ (∀ j, ¬ H j i) ∧ i ≠ hb := fun i hi => ⟨fun hf => by
      rcases hf with hf | hf
      · exact (hN8 i hi).1 hf
      · have := hi.2; have := hf.1; have := hc11.size; omega, (hN8 i hi).2⟩
    have hrow : w12.cell? ((⟨hb, 0, none⟩ : Addr).add (id.toNat * 1)) = some (rowE xs[id.toNat]) := by
      rw [Nat.mul_one, add_at, Nat.zero_add]
      exact hH12.blk.cell _ (by rw [List.getElem?_map, List.getElem?_eq_getElem hidx]; rfl)
    refine ⟨_, rfl, ⟨by omega, by omega⟩, _, _, _, hrow, iteF ?_ ?_⟩
    · rw [hpv]
      by_cases h4 : xs[id.toNat].2.2.length < 4
      · rw [if_pos h4, decide_eq_true (by omega)]; rfl
      · rw [if_neg h4, decide_eq_false (by omega)]; rfl
    refine ⟨fun w' => St W w' pb hb (fun _ => 1) (New w8 w9) ∧ Blk w' xb [.slice oa (entE x).1.length ca, .slice ob (entE x).2.length cb] 35 ∧ EntW w' (.slice oa (entE x).1.length ca, .slice ob (entE x).2.length cb) (entE x) (New w8 w9), ⟨fun h0 => ?_, fun h0 => ?_⟩, ?_⟩
    · have h4 : xs[id.toNat].2.2.length < 4 := by
        rw [hpv] at h0
        by_cases h4 : xs[id.toNat].2.2.length < 4
        · exact h4
        · rw [if_neg h4] at h0; exact absurd h0 (by decide)
      have hpp : putP ps id (entE x) = ps.set id.toNat { pgAt ps id with es := (pgAt ps id).es ++ [entE x] } := by
        unfold putP; rw [hpv, if_pos h4, if_pos rfl]
      refine ⟨fun w' => Ch (H id.toNat) w12 w', fun w13 e13 => ⟨Ch.drew e13, ⟨by omega, by omega⟩, ?_⟩⟩
      have hH13 : HaveR w13 hb xs H := ⟨hH12.blk.drew e13, hH12.len, fun j hj => (hH12.own j hj).keepN (Ch.drew e13), hH12.ap, hH12.hb⟩
      have hlt13 : ∀ j i, H j i → i < w13.heap.size := fun j i hi => by
        have := (hfoot12 j i hi).2
        have : w12.heap.size = w13.heap.size := by subst e13; rfl
        omega
      refine ⟨_, _, _, fun w' hc => by
        rw [Nat.mul_one, add_at, Nat.zero_add]
        exact (hH12.blk.keep hc (hS.h.hb _)).cell _ (by rw [List.getElem?_map, List.getElem?_eq_getElem hidx]; rfl), ⟨by omega, by omega⟩, ?_⟩
      have hold : ∀ i, i < W.heap.size → ¬ H id.toNat i := fun i hi hh => absurd (hfoot12 _ i hh).1 (Nat.not_le.2 hi)
      refine Rd.keeps (j := (j : Int).toNat * 1) (xs := puts) (S := fun w' => Ch (H id.toNat) w12 w') (fun w' hc => (hput hP12.c).keep hc (fun i _ hi hh => hold i hi hh)) (Ch.refl _ _) (by simpa using hlt) fun p hp => ⟨_, hp, fun w16 e16 => ⟨(Ch.drew (F := H id.toNat) e13).andN (Ch.alloc e16), ?_⟩⟩
      rw [hx _ _ (by omega)] at e16
      obtain ⟨o', c', w17, hr17, hc17, hok17, hst⟩ := hH13.push hlt13 hidx x e16 (by omega)
      refine ⟨o', _, c', w17, hr17, (Ch.drew (F := H id.toNat) e13).same hc17, ⟨by omega, by omega⟩, by rw [Nat.mul_one]; exact hok17, fun w18 e18 => ?_⟩
      rw [Nat.mul_one] at e18
      obtain ⟨hH18, hc18⟩ := hst w18 e18
      have hc13 : Ch (H id.toNat) w12 w17 := (Ch.drew (F := H id.toNat) e13).same hc17
      have hcc : Ch (fun i => H id.toNat i ∨ i = hb) w12 w18 := (hc13.mono (fun i _ hi => .inl hi)).same (hc18.mono (fun i _ hi => .inr hi))
      have hs1213 : w12.heap.size = w13.heap.size := by subst e13; rfl
      have hs17 := hc17.size
      have hs18 := hc18.size
      have hup : ∀ j i, updF H id.toNat w13 w17 j i → H j i ∨ (w13.heap.size ≤ i ∧ i < w17.heap.size) := fun j i hi => by
        unfold updF at hi
        split at hi
        · rename_i e; subst e; exact hi
        · exact .inl hi
      refine ⟨⟨putP ps id (entE x), xs.set id.toNat (o', c', xs[id.toNat].2.2 ++ [x]), Ext F w11 w12, updF H id.toNat w13 w17, ⟨⟨hr12.keep hcc ?_, hP12.f.le hcc.size, hP12.c.trans hcc ?_⟩, hH18, ?_, ?_, ?_, hS.lo, hnf12, ?_⟩⟩, ?_, ?_⟩
      · rintro i _ hi (hh | hh)
        · exact hapF _ i hh hi
        · subst hh; exact hnf12 hi
      · rintro i hi (hh | hh)
        · exact hold i hi hh
        · have := hS.lo; omega
      · rw [hpp]; exact hS.g.put hm.1 hm.2 hS.h.len rfl h4
      · intro j i hi
        rcases hup j i hi with hi | hi
        · have := hfoot12 j i hi; exact ⟨this.1, by omega⟩
        · exact ⟨by have := hP12.c.size; omega, by omega⟩
      · intro j i hi hf
        rcases hup j i hi with hi | hi
        · exact hapF j i hi hf
        · have := hP12.lt i hf; omega
      · intro i hi
        refine ⟨(hxN i hi).1, fun j hj => ?_, (hxN i hi).2.2⟩
        rcases hup j i hj with hj | hj
        · exact (hxN i hi).2.1 j hj
        · have := hi.2; have := hc11.size; omega
      · refine hX12.keep hcc ?_
        rintro (hh | hh)
        · exact hxx9.2.1 _ hh
        · exact hxx9.2.2 hh
      · refine hE12.keep hcc ?_
        rintro i _ hi (hh | hh)
        · exact (hxN i hi).2.1 _ hh
        · exact (hxN i hi).2.2 hh
    · have h4 : ¬ xs[id.toNat].2.2.length < 4 := fun h4 => by
        rw [hpv, if_pos h4] at h0; exact absurd h0 (by decide)
      have hpp : putP ps id (entE x) = ps := by
        unfold putP; rw [hpv, if_neg h4, if_neg (by decide)]
      rw [hpp] at hP12
      exact ⟨⟨ps, xs, Ext F w11 w12, H, hP12, hH12, hS.g, hfoot12, hapF, hS.lo, hnf12, hxN⟩, hX12, hE12⟩
    clear hS hS9 hS11 hq0 hq11 hH12 hP12 hX12 hE12 hX11 hr12 hrow hpv hgat hra hAa
    rintro jk w19 ⟨hS19, hX19, hE19⟩
    refine ⟨_, _, _, hX19.cell 0 rfl, ⟨by omega, by simp [entE]⟩, ?_⟩
    obtain ⟨⟨o3, c3, vs3, h3, hr3, hA3⟩, _⟩ := hE19
    dsimp only at h3 hA3
    injection h3 with h3 _ _
    subst h3
    obtain ⟨v3, hv3⟩ : ∃ v3, vs3 = [v3] := by
      have := hA3.length
      simp only [entE, List.length_singleton] at this
      exact List.length_eq_one_iff.1 this
    subst hv3
    obtain ⟨o4, c4, hv4, hO4⟩ := hA3.get 0 (by simp) (by simp [entE])
    simp only [List.getElem_cons_zero] at hv4
    subst hv4
    refine hr3.at0 rfl fun p3 hp3 => ⟨_, _, _, hp3, ⟨by omega, by simp [entE]⟩, ?_⟩
    obtain ⟨p4, hp4, hp4F, _, _⟩ := hO4.rd 0 (.int .i64 x) rfl
    have hok4 := hO4.ok (j := 0) (v := .int .i64 x) rfl hp4
    subst hp4
    rw [add_none] at hok4
    refine ⟨hok4, fun w20 e20 => ?_⟩
    obtain ⟨ps', xs', F', H', hS'⟩ := hS19
    rw [show p4 = p4.add 0 from (add_none p4).symm] at e20
    obtain ⟨_, hc20⟩ := hO4.set (j := 0) (by simp [entE]) rfl e20
    have hS20 := hS'.keep hc20 (fun i hi => hi) (fun i hi => by have := hi.1; omega)
    exact ⟨puts.length - (j + 1), by omega, j + 1, by rw [wrap_id (by omega) (by omega)]; rfl, hlt, rfl, ps', xs', F', H', hS20.to (fun i hi => hi.elim)⟩
  clear hS7 ha
  rintro jk w21 ⟨ps, xs, F, H, hS⟩
  refine ⟨by decide, ?_⟩
  have hm := mod0 share (n := 10) (by omega)
  generalize IntKind.i64.wrap (Int.tmod (IntKind.u64.wrap share) 10) = id at hm ⊢
  have sB : ∀ {ps : List PageD} {xs : List RowC} {u : Nat → Int}, PgF ps xs u → xs.length = 10 → (∀ j, 0 < u j ∧ u j ≤ 3) → ∀ {id : Int}, 0 ≤ id → id < 10 → isB ps id = true := by
    intro ps xs u hg hx hu id h0 h1
    exact decide_eq_true (by rw [(hg.at hx h0 h1).1]; exact (hu _).1)
  have sb : ∀ {ps : List PageD} {xs : List RowC} {u : Nat → Int}, PgF ps xs u → xs.length = 10 → (∀ j, 0 < u j ∧ u j ≤ 3) → bnd 3 ps := by
    intro ps xs u hg hx hu p hp
    obtain ⟨j, hj, rfl⟩ := List.getElem_of_mem hp
    have hl := hg.1
    rw [(hg.2 j hj (by omega)).1]
    have := hu j; omega
  refine ⟨fun w' => St W w' pb hb (fun j => if j = id.toNat then 2 else 1) Non, fun w22 e22 => ?_, ?_⟩
  · have r22 : Rd w22 (some ⟨w21.heap.size, 0, none⟩) (([id, id] : List Int).map (.int .i64)) (· = w21.heap.size) := (Blk.new e22).rd
    have hlt21 := hS.p.lt
    have hs22 : w21.heap.size < w22.heap.size := (Blk.new e22).lt
    have hS22 := hS.keepN (Ch.alloc e22)
    have hu1 : ∀ j : Nat, 0 < (fun _ => 1 : Nat → Int) j ∧ (fun _ => 1 : Nat → Int) j ≤ 3 := fun j => ⟨by show (0 : Int) < 1; decide, by show (1 : Int) ≤ 3; decide⟩
    refine step_call (Share_spec (B := 3) (l := [id, id]) hS22.p.r r22 (fun i _ hi hf => by have := hlt21 i hf; omega) (by simp) (by omega) (sb hS.g hS.h.len hu1) 2) ?_
    rintro v w23 ⟨rfl, hr23, hc23⟩
    have hall : allB ps [id, id] = true := by
      unfold allB
      simp [sB hS.g hS.h.len hu1 hm.1 hm.2]
    rw [hall, if_pos rfl] at hr23
    rw [hall]
    have hr23 : PoolR w23 pb (addU 1 (addU 1 ps id) id) F := hr23
    have hg23 := (hS.g.add (d := 1) hm.1 hm.2).add (d := 1) hm.1 hm.2
    have hS23 : StC W w23 pb hb (fun j => if j = id.toNat then 3 else 1) Non (addU 1 (addU 1 ps id) id) xs F H := by
      refine ⟨hS22.p.step hr23 hc23, ⟨hS22.h.blk.keep hc23 hS.nf, hS.h.len, fun j hj => (hS22.h.own j hj).keep hc23 (fun i _ a b => hS.ap j i a b), hS.h.ap, hS.h.hb⟩, ?_, fun j => (hS22.hf j).le hc23.size, hS.ap, hS.lo, hS.nf, fun _ h => h.elim⟩
      have : (fun j => if j = id.toNat then (if j = id.toNat then (1 : Int) + 1 else 1) + 1 else if j = id.toNat then (1 : Int) + 1 else 1) = (fun j => if j = id.toNat then 3 else 1) := by
        funext j; split <;> rfl
      rw [← this]; exact hg23
    clear hr23 hc23 hg23 r22 hS22
    refine ⟨_, rfl, iteF rfl ?_⟩
    have hu3 : ∀ j : Nat, 0 < (fun j => if j = id.toNat then 3 else 1 : Nat → Int) j ∧ (fun j => if j = id.toNat then 3 else 1 : Nat → Int) j ≤ 3 := fun j => by dsimp only; split <;> decide
    generalize addU 1 (addU 1 ps id) id = ps3 at hS23
    refine step_call (entry_specW w23 1) ?_
    rintro v w24 ⟨⟨qa, qb⟩, rfl, hq, hc24⟩
    have hq0 := hq
    obtain ⟨⟨oa, ca, va, hqa, _, _⟩, ⟨ob, cb, vb, hqb, _, _⟩⟩ := hq
    dsimp only at hqa hqb
    subst hqa; subst hqb
    refine ⟨oa, _, ca, ob, _, cb, rfl, ?_⟩
    have hS24 := hS23.keepN hc24
    refine step_call (Put_spec (p := (_, _)) hS24.p.r id hq0.v (entE_small 1)) ?_
    rintro v w25 ⟨rfl, hr25, hc25⟩
    have hgat := hS24.g.at hS24.h.len hm.1 hm.2
    have hb3 := sB hS24.g hS24.h.len hu3 hm.1 hm.2
    have hpv : putV ps3 id = 7 := by
      unfold putV
      rw [hb3, if_pos rfl, if_pos (by rw [hgat.1, if_pos rfl]; decide)]
    have hpp : putP ps3 id (entE 1) = ps3 := by unfold putP; rw [hpv, if_neg (by decide)]
    rw [hpp] at hr25
    rw [hpv]
    refine ⟨_, rfl, iteF rfl (fun w26 e26 => ?_)⟩
    have hS25 : StC W w25 pb hb (fun j => if j = id.toNat then 3 else 1) Non ps3 xs (Ext F w24 w25) H := by
      refine ⟨hS24.p.ext hr25 hc25, ⟨hS24.h.blk.keep hc25 hS.nf, hS.h.len, fun j hj => (hS24.h.own j hj).keep hc25 (fun i _ a b => hS.ap j i a b), hS.h.ap, hS.h.hb⟩, hS24.g, fun j => (hS24.hf j).le hc25.size, fun j i hi hf => ?_, hS.lo, fun hf => ?_, fun _ h => h.elim⟩
      · rcases hf with hf | hf
        · exact hS.ap j i hi hf
        · exact absurd (hS24.hf j i hi).2 (Nat.not_lt.2 hf.1)
      · rcases hf with hf | hf
        · exact hS.nf hf
        · have := hS24.h.blk.lt; have := hf.1; omega
    clear hr25 hc25 hS24 hS23 hq0 hgat hpp hpv
    have r26 : Rd w26 (some ⟨w25.heap.size, 0, none⟩) (([id] : List Int).map (.int .i64)) (· = w25.heap.size) := (Blk.new e26).rd
    have hs26 : w25.heap.size < w26.heap.size := (Blk.new e26).lt
    have hlt25 := hS25.p.lt
    have hS26 := hS25.keepN (Ch.alloc e26)
    refine step_call (Drop_spec (B := 3) (l := [id]) hS26.p.r hS26.p.lt r26 (fun i hi => by omega) (fun i _ hi hf => by have := hlt25 i hf; omega) (by simp) (by rw [hS26.g.1]; omega) (by omega) (sb hS26.g hS26.h.len hu3) 1) ?_
    rintro v w27 ⟨rfl, hr27, hc27⟩
    have hgat := hS26.g.at hS26.h.len hm.1 hm.2
    rw [if_pos rfl] at hgat
    have hall3 : allB ps3 [id] = true := by unfold allB; simp [hb3]
    have hov3 : overB ps3 [id] = false := by unfold overB; simp [hgat.1]
    rw [hall3, hov3] at hr27 ⊢
    have hr27 : PoolR w27 pb (dropU ps3 id) (Ext F w24 w25) := hr27
    have hdr : dropU ps3 id = addU (-1) ps3 id := by unfold dropU; rw [if_neg (by rw [hgat.1]; decide)]
    rw [hdr] at hr27
    have hg27 := hS26.g.add (d := -1) hm.1 hm.2
    have hS27 : StC W w27 pb hb (fun j => if j = id.toNat then 2 else 1) Non (addU (-1) ps3 id) xs (Ext F w24 w25) H := by
      refine ⟨hS26.p.step hr27 hc27, ⟨hS26.h.blk.keep hc27 hS25.nf, hS.h.len, fun j hj => (hS26.h.own j hj).keep hc27 (fun i _ a b => hS25.ap j i a b), hS.h.ap, hS.h.hb⟩, ?_, fun j => (hS26.hf j).le hc27.size, hS25.ap, hS.lo, hS25.nf, fun _ h => h.elim⟩
      have : (fun j => if j = id.toNat then (if j = id.toNat then (3 : Int) else 1) + -1 else if j = id.toNat then (3 : Int) else 1) = (fun j => if j = id.toNat then 2 else 1) := by
        funext j; split <;> rfl
      rw [← this]; exact hg27
    refine ⟨_, rfl, iteF rfl ?_⟩
    refine step_call (Users_spec hS27.p.r id) ?_
    rintro v w28 ⟨rfl, rfl⟩
    have hgat := hS27.g.at hS27.h.len hm.1 hm.2
    rw [if_pos rfl] at hgat
    have hb4 : isB (addU (-1) ps3 id) id = true := decide_eq_true (by rw [hgat.1]; decide)
    rw [hb4, if_pos rfl, hgat.1]
    exact ⟨_, rfl, iteF rfl ⟨_, _, _, _, hS27⟩⟩
  clear hS sB sb
  rintro jk w29 hS29
  refine ⟨fun i k w' => ∃ j : Nat, i = j ∧ j ≤ 10 ∧ k = 10 - j ∧ St W w' pb hb (fun j => if j = id.toNat then 2 else 1) Non, ⟨_, 0, rfl, by omega, rfl, hS29⟩, ?_⟩
  clear hS29
  rintro jk i k w30 ⟨j, rfl, hj, rfl, ps, xs, F, H, hS⟩
  refine ⟨fun hlt => ?_, fun hge => ⟨rfl, hS.p.c⟩⟩
  have hlt : j < 10 := by have := of_decide_eq_true hlt; omega
  have hxl := hS.h.len
  have hgat := hS.g.at hxl (id := (j : Int)) (by omega) (by omega)
  have hjj : (j : Int).toNat = j := Int.toNat_natCast j
  have hbj : isB ps (j : Int) = true := decide_eq_true (by rw [hgat.1]; split <;> decide)
  have hget : getL ps [(j : Int)] = (xs[j]'(by omega)).2.2.map entE := by
    unfold getL
    rw [List.flatMap_cons, List.flatMap_nil, List.append_nil, hbj, if_pos rfl, hgat.2.1]
    congr 3
  have hx4 : (xs[j]'(by omega)).2.2.length ≤ 4 := by
    have := hgat.2.2
    have e : (xs[(j : Int).toNat]'(by omega)) = xs[j]'(by omega) := by congr 1
    rwa [e] at this
  have hes : ∀ p ∈ ps, p.es.length ≤ 4 := fun p hp => by
    obtain ⟨m, hm, rfl⟩ := List.getElem_of_mem hp
    have hl := hS.g.1
    obtain ⟨_, b, c⟩ := hS.g.2 m hm (by omega)
    rw [b, List.length_map]; exact c
  have hrow : ∀ {w'}, StC W w' pb hb (fun j => if j = id.toNat then 2 else 1) Non ps xs F H → w'.cell? ((⟨hb, 0, none⟩ : Addr).add ((j : Int).toNat * 1)) = some (.slice (xs[j]'(by omega)).1 (xs[j]'(by omega)).2.2.length (xs[j]'(by omega)).2.1) := fun h => by
    rw [hjj, Nat.mul_one]; exact h.row hlt
  intro w31 e31
  have r31 : Rd w31 (some ⟨w30.heap.size, 0, none⟩) (([(j : Int)] : List Int).map (.int .i64)) (· = w30.heap.size) := (Blk.new e31).rd
  have hS31 := hS.keepN (Ch.alloc e31)
  refine step_call (Get_specW (l := [(j : Int)]) hS31.p.r r31 hes (by simp) 1) ?_
  rintro v w32 ⟨oG, cG, qs, F1, F2, rfl, hG, hA⟩
  rw [hget] at hG hA
  rw [hget]
  have hS32 := hS31.keepN hG.ch
  have hW31 := hS31.p.c.size
  refine ⟨_, _, _, rfl, ⟨by omega, by omega⟩, _, _, _, hrow hS32, iteF (by simp) ?_⟩
  have hS32 : StC W w32 pb hb (fun j => if j = id.toNat then 2 else 1) F2 ps xs F H := (hS31.to (Y := F2) (fun i hi => .inr (hG.f2 i hi).1)).keepN hG.ch
  have hql := hA.len
  rw [List.length_map] at hql
  have hrow : ∀ {w'}, StC W w' pb hb (fun j => if j = id.toNat then 2 else 1) F2 ps xs F H → w'.cell? ((⟨hb, 0, none⟩ : Addr).add ((j : Int).toNat * 1)) = some (.slice (xs[j]'(by omega)).1 (xs[j]'(by omega)).2.2.length (xs[j]'(by omega)).2.1) := fun h => by
    rw [hjj, Nat.mul_one]; exact h.row hlt
  have hown : ∀ {w'}, StC W w' pb hb (fun j => if j = id.toNat then 2 else 1) F2 ps xs F H → Rd w' (xs[j]'(by omega)).1 ((xs[j]'(by omega)).2.2.map (.int .i64)) (H j) := fun h => (h.h.own j (by omega)).rd
  have hF2 : ∀ i, F2 i → W.heap.size ≤ i := fun i hi => by have := (hG.f2 i hi).1; omega
  generalize xs[j]'(by omega) = xj at hget hx4 hG hA hrow hown hql ⊢
  obtain ⟨oj, cj, zs⟩ := xj
  dsimp only at hget hx4 hG hA hrow hown hql ⊢
  rw [List.length_map] at hG ⊢
  refine ⟨fun n k w' => ∃ m : Nat, n = m ∧ m ≤ zs.length ∧ k = zs.length - m ∧ StC W w' pb hb (fun j => if j = id.toNat then 2 else 1) F2 ps xs F H ∧ Own w' t_step_Entry 2 oG zs.length cG (qs.map pairE).flatten F1 ∧ Each w' m qs (zs.map entE) F2, ⟨_, 0, rfl, Nat.zero_le _, rfl, hS32, hG.own, hA⟩, ?_⟩
  have hap := hG.ap
  clear hG hA hS32 hS31 hS r31 e31
  rintro jk n k w33 ⟨m, rfl, hm, rfl, hS33, hO33, hE33⟩
  refine ⟨fun hltm => ?_, fun hgem => ⟨10 - (j + 1), by omega, j + 1, by rw [wrap_id (by omega) (by omega)]; rfl, hlt, rfl, ps, xs, F, H, hS33.to (fun i hi => hi.elim)⟩⟩
  have hltm : m < zs.length := by have := of_decide_eq_true hltm; omega
  have hmq : m < qs.length := by omega
  obtain ⟨G, hEn, hGF, hnx⟩ := hE33.at hmq (by simpa using hltm)
  have hen : (zs.map entE)[m]'(by simpa using hltm) = entE zs[m] := by simp
  rw [hen] at hEn
  have hpair : ∃ p, oG = some p ∧ ∀ w', Ch Non w33 w' → w'.cell? (p.add (m * 2)) = some qs[m].1 ∧ w'.cell? ((p.add (m * 2)).add 1) = some qs[m].2 := by
    obtain ⟨p, hp, _⟩ := hO33.rd.elem (sz := 2) (enc := pairE) (fun _ => rfl) (by omega) hmq
    refine ⟨p, hp, fun w' hc => ?_⟩
    obtain ⟨p', hp', _, _, hcell⟩ := (hO33.keepN hc).rd.elem (sz := 2) (enc := pairE) (fun _ => rfl) (by omega) hmq
    rw [hp] at hp'
    have hpp : p = p' := Option.some.inj hp'
    subst hpp
    have h0 := hcell 0 _ rfl
    rw [add_none] at h0
    exact ⟨h0, hcell 1 _ rfl⟩
  obtain ⟨p0, rfl, hp⟩ := hpair
  generalize hqm : qs[m] = qm at hp hEn
  obtain ⟨qa, qb⟩ := qm
  have hEn0 := hEn
  obtain ⟨⟨oa, ca, va, hqa, _, _⟩, ⟨ob, cb, vb, hqb, hrb, hAb⟩⟩ := hEn
  dsimp only at hqa hqb hp hAb
  subst hqa; subst hqb
  have hmm : (m : Int).toNat = m := Int.toNat_natCast m
  refine ⟨fun w' => Ch Non w33 w', fun w34 e34 => ⟨Ch.drew e34, ⟨by omega, by omega⟩, ?_⟩⟩
  refine ⟨_, _, _, _, _, _, ⟨fun w' hc => by rw [hmm]; exact (hp w' hc).1, fun w' hc => by rw [hmm]; exact (hp w' hc).2⟩, ⟨by omega, by omega⟩, _, _, _, fun w' hc => hrow (hS33.keepN hc), ⟨by omega, by omega⟩, ?_⟩
  refine Rd.keeps (j := (m : Int).toNat * 1) (xs := zs) (S := fun w' => Ch Non w33 w') (fun w' hc => hown (hS33.keepN hc)) (Ch.refl _ _) (by simpa using hltm) fun p6 hp6 => ⟨_, hp6, ?_⟩
  have hzm : zs[(m : Int).toNat * 1]'(by simpa using hltm) = zs[m] := by congr 1; omega
  rw [hzm]
  refine step_call (entry_spec w34 _) ?_
  rintro v w38 ⟨⟨ra, rb⟩, rfl, hR, hc38⟩
  have hR0 := hR
  obtain ⟨⟨oc, cc, vc, hra, _, _⟩, ⟨od, cd, vd, hrb', _, _⟩⟩ := hR
  dsimp only at hra hrb'
  subst hra; subst hrb'
  have hc38 := (Ch.drew (F := Non) e34).andN hc38
  refine ⟨oc, _, cc, od, _, cd, rfl, hc38, ?_⟩
  refine step_call (Same_spec (p := (_, _)) (q := (_, _)) (hEn0.keepN hc38).v hR0 (entE_small _)) ?_
  rintro v w39 ⟨rfl, hc39⟩
  have hc39 := hc38.andN hc39
  refine ⟨_, rfl, hc39, iteF (by simp) ⟨⟨by omega, by omega⟩, ?_⟩⟩
  refine ⟨_, _, _, by rw [hmm]; exact (hp w39 hc39).2, ⟨by omega, by simp [entE]⟩, ?_⟩
  obtain ⟨v3, hv3⟩ : ∃ v3, vb = [v3] := by
    have := hAb.length
    simp only [entE, List.length_singleton] at this
    exact List.length_eq_one_iff.1 this
  subst hv3
  obtain ⟨o4, c4, hv4, hO4⟩ := hAb.get 0 (by simp) (by simp [entE])
  simp only [List.getElem_cons_zero] at hv4
  subst hv4
  refine (hrb.keepN hc39).at0 rfl fun p8 hp8 => ⟨_, _, _, hp8, ⟨by omega, by simp [entE]⟩, ?_⟩
  have hO4 := hO4.keepN hc39
  obtain ⟨p9, hp9, _, _, _⟩ := hO4.rd 0 _ rfl
  have hok9 := hO4.ok (j := 0) rfl hp9
  subst hp9
  rw [add_none] at hok9
  refine ⟨hok9, fun w40 e40 => ?_⟩
  rw [show p9 = p9.add 0 from (add_none p9).symm] at e40
  obtain ⟨_, hc40⟩ := hO4.set (j := 0) (by simp [entE]) rfl e40
  have hc3340 : Ch G w33 w40 := (hc39.any (F := G)).same hc40
  have hS40 := hS33.keep hc3340 hGF (fun i hi => hF2 i (hGF i hi))
  have hO40 : Own w40 t_step_Entry 2 (some p0) zs.length cG (qs.map pairE).flatten F1 := hO33.keep hc3340 (fun i _ a b => hap i a (hGF i b))
  have hE40 := hnx hc3340
  clear hS33 hO33 hE33 hEn0 hrb hAb hO4 hR0 e40 hc40 hc39 hc38 hp
  refine ⟨fun w' => Ch Non w40 w', fun w41 e41 => ⟨Ch.drew e41, ⟨by omega, by omega⟩, _, _, _, fun w' hc => hrow (hS40.keepN hc), ⟨by omega, by omega⟩, ?_⟩⟩
  refine Rd.keeps (j := (m : Int).toNat * 1) (xs := zs) (S := fun w' => Ch Non w40 w') (fun w' hc => hown (hS40.keepN hc)) (Ch.refl _ _) (by simpa using hltm) fun p10 hp10 => ⟨_, hp10, fun w44 e44 => ?_⟩
  rw [hzm]
  have hc44 := (Ch.drew (F := Non) e41).andN (Ch.alloc e44)
  refine ⟨hc44, ?_⟩
  have r44 : Rd w44 (some ⟨w41.heap.size, 0, none⟩) (([(j : Int)] : List Int).map (.int .i64)) (· = w41.heap.size) := (Blk.new e44).rd
  have hS44 := hS40.keepN hc44
  refine step_call (Get_specW (l := [(j : Int)]) hS44.p.r r44 hes (by simp) 1) ?_
  rintro v w45 ⟨oK, cK, us, K1, K2, rfl, hK, hU⟩
  rw [hget] at hK hU
  rw [hget, List.length_map]
  have hc45 := hc44.andN hK.ch
  have hul := hU.len
  rw [List.length_map] at hul
  refine ⟨_, _, _, rfl, hc45, ⟨by omega, by omega⟩, ?_⟩
  have hmu : m < us.length := by omega
  obtain ⟨K, hEu⟩ := hU.get hmu (by simpa using hltm) (Nat.zero_le _)
  have hen2 : (zs.map entE)[m]'(by simpa using hltm) = entE zs[m] := by simp
  rw [hen2] at hEu
  obtain ⟨p, hp, _⟩ := hK.own.rd.elem (sz := 2) (enc := pairE) (fun _ => rfl) (by omega) hmu
  have hp45 : ∀ w', Ch Non w45 w' → w'.cell? (p.add (m * 2)) = some us[m].1 ∧ w'.cell? ((p.add (m * 2)).add 1) = some us[m].2 := fun w' hc => by
    obtain ⟨p', hp', _, _, hcell⟩ := (hK.own.keepN hc).rd.elem (sz := 2) (enc := pairE) (fun _ => rfl) (by omega) hmu
    rw [hp] at hp'
    have hpp : p = p' := Option.some.inj hp'
    subst hpp
    have h0 := hcell 0 _ rfl
    rw [add_none] at h0
    exact ⟨h0, hcell 1 _ rfl⟩
  subst hp
  generalize us[m] = um at hp45 hEu
  obtain ⟨ua, ub⟩ := um
  have hEu0 := hEu
  obtain ⟨⟨oa, ca, va, hqa, _, _⟩, ⟨ob, cb, vb, hqb, _, _⟩⟩ := hEu
  dsimp only at hqa hqb hp45
  subst hqa; subst hqb
  have tail : ∀ {w'}, Ch Non w40 w' → ∃ vk : Nat, vk < zs.length - m ∧ ∃ m' : Nat, IntKind.i64.wrap ((m : Int) + 1) = m' ∧ m' ≤ zs.length ∧ vk = zs.length - m' ∧ StC W w' pb hb (fun j => if j = id.toNat then 2 else 1) F2 ps xs F H ∧ Own w' t_step_Entry 2 (some p0) zs.length cG (qs.map pairE).flatten F1 ∧ Each w' m' qs (zs.map entE) F2 := fun {w'} hc =>
    ⟨zs.length - (m + 1), by omega, m + 1, by rw [wrap_id (by omega) (by omega)]; rfl, hltm, rfl, hS40.keepN hc, hO40.keepN hc, hE40.keepN hc⟩
  refine ⟨⟨_, _, _, _, _, _, ⟨by rw [hmm]; exact (hp45 w45 (Ch.refl _ _)).1, by rw [hmm]; exact (hp45 w45 (Ch.refl _ _)).2⟩, hc45, ?_⟩, ?_, trivial⟩
  · refine step_call (entry_spec w45 _) ?_
    rintro v w46 ⟨⟨ra, rb⟩, rfl, hR, hc46⟩
    have hR0 := hR
    obtain ⟨⟨oc, cc, vc, hra, _, _⟩, ⟨od, cd, vd, hrb', _, _⟩⟩ := hR
    dsimp only at hra hrb'
    subst hra; subst hrb'
    refine ⟨oc, _, cc, od, _, cd, rfl, hc45.andN hc46, ?_⟩
    refine step_call (Same_spec (p := (_, _)) (q := (_, _)) (hEu0.keepN hc46).v hR0 (entE_small _)) ?_
    rintro v w47 ⟨rfl, hc47⟩
    have hcc := (hc45.andN hc46).andN hc47
    exact ⟨_, rfl, hcc, iteF (by simp) (tail hcc)⟩
  · refine step_call (entry_spec w45 _) ?_
    rintro v w46 ⟨⟨ra, rb⟩, rfl, hR, hc46⟩
    have hR0 := hR
    obtain ⟨⟨oc, cc, vc, hra, _, _⟩, ⟨od, cd, vd, hrb', _, _⟩⟩ := hR
    dsimp only at hra hrb'
    subst hra; subst hrb'
    refine ⟨oc, _, cc, od, _, cd, rfl, hc45.andN hc46, ?_⟩
    refine ⟨_, _, _, _, _, _, ⟨by rw [hmm]; exact (hp45 w46 hc46).1, by rw [hmm]; exact (hp45 w46 hc46).2⟩, hc45.andN hc46, ?_⟩
    refine step_call (Same_spec (p := (_, _)) (q := (_, _)) (hEu0.keepN hc46).v hR0 (entE_small _)) ?_
    rintro v w47 ⟨rfl, hc47⟩
    have hcc := (hc45.andN hc46).andN hc47
    exact ⟨_, rfl, hcc, iteF (by simp) (tail hcc)⟩
end Go.Proofs.Ytpcddfhfchempaa.Pages
