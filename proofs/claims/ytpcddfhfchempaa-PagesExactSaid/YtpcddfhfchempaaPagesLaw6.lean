/- PagesExact's contract: of every number and row of deeds the Go function answers true and leaves what was there; the conditions stand in each theorem. -/
import Derived.Test.YtpcddfhfchempaaPagesLaw5
import Derived.Test.YtpcddfhfchempaaVcPagesE
set_option linter.unusedVariables false
set_option linter.unusedSimpArgs false
namespace Go.Proofs.Ytpcddfhfchempaa.Pages
open Go Go.Proofs Go.Proofs.Ytpcddfhfchempaa.V Go.Proofs.Ytpcddfhfchempaa.Vc Go.Proofs.Ytpcddfhfchempaa.Step Go.RowKit

/-- A row of pairs: where one lies. -/
theorem Rd.pair {w : World} {o : Option Addr} {F : Nat → Prop} {qs : List (Value × Value)} (h : Rd w o (qs.map pairE).flatten F) {m : Nat} (hm : m < qs.length) : ∃ p, o = some p ∧ ∀ w', Ch Non w w' → w'.cell? (p.add (m * 2)) = some qs[m].1 ∧ w'.cell? ((p.add (m * 2)).add 1) = some qs[m].2 := by
  obtain ⟨p, hp, _⟩ := h.elem (sz := 2) (enc := pairE) (fun _ => rfl) (by omega) hm
  refine ⟨p, hp, fun w' hc => ?_⟩
  obtain ⟨p', hp', _, _, hcell⟩ := (h.keepN hc).elem (sz := 2) (enc := pairE) (fun _ => rfl) (by omega) hm
  rw [hp] at hp'
  have hpp : p = p' := Option.some.inj hp'
  subst hpp
  have h0 := hcell 0 _ rfl
  rw [add_none] at h0
  exact ⟨h0, hcell 1 _ rfl⟩
/-- Both pools, and the deed. -/
structure Sit (W w : World) (pb ub xb : Nat) (x : ActP) (ps qs : List PageD) (F FU : Nat → Prop) : Prop where
  b : Both W w pb ub ps qs F FU
  x : Blk w xb (actE x) 29
  nf : ¬ F xb
  nu : ¬ FU xb
section
variable {W w w' : World} {pb ub xb : Nat} {x : ActP} {ps qs ps' qs' : List PageD} {F FU G : Nat → Prop}
theorem Sit.keepN (h : Sit W w pb ub xb x ps qs F FU) (hc : Ch Non w w') : Sit W w' pb ub xb x ps qs F FU := ⟨h.b.keepN hc, h.x.keepN hc, h.nf, h.nu⟩
theorem Sit.stepP (h : Sit W w pb ub xb x ps qs F FU) (hr : PoolR w' pb ps' (Ext F w w')) (hc : Ch F w w') : Sit W w' pb ub xb x ps' qs (Ext F w w') FU :=
  ⟨h.b.stepP hr hc, h.x.keep hc h.nf, fun hi => by
    rcases hi with hi | hi
    · exact h.nf hi
    · exact absurd h.x.lt (Nat.not_lt.2 hi.1), h.nu⟩
theorem Sit.stepP0 (h : Sit W w pb ub xb x ps qs F FU) (hr : PoolR w' pb ps' F) (hc : Ch F w w') : Sit W w' pb ub xb x ps' qs (Ext F w w') FU := h.stepP (hr.mono (fun i _ hi => .inl hi)) hc
theorem Sit.stepE (h : Sit W w pb ub xb x ps qs F FU) (hr : FPoolR w' ub qs' (fun i => Ext FU w w' i ∨ G i)) (hc : Ch FU w w') (hG : ∀ i, G i → W.heap.size ≤ i ∧ i < w.heap.size ∧ ¬ F i) (hx : ¬ G xb) : Sit W w' pb ub xb x ps qs' F (fun i => Ext FU w w' i ∨ G i) :=
  ⟨h.b.stepE hr hc hG, h.x.keep hc h.nu, h.nf, fun hi => by
    rcases hi with (hi | hi) | hi
    · exact h.nu hi
    · exact absurd h.x.lt (Nat.not_lt.2 hi.1)
    · exact hx hi⟩
theorem Sit.stepR (h : Sit W w pb ub xb x ps qs F FU) (hr : FPoolR w' ub qs' (Ext FU w w')) (hc : Ch FU w w') : Sit W w' pb ub xb x ps qs' F (fun i => Ext FU w w' i ∨ Non i) := h.stepE (hr.mono (fun i _ hi => .inl hi)) hc (fun i hi => hi.elim) (fun h => h)
end
theorem PagesExact_true (W : World) (n : Int) (_ : (Lit.int .i64 n).wf = true) (o1 : Option Addr) (n1 c1 : Nat) (h1 : DatC Try.prog W t_S_coadjutorlaw22_Act [.slice o1 n1 c1]) :
    Calls Try.prog i_coadjutorlaw22_PagesExact #[.int .i64 n, .slice o1 n1 c1] W (Ret fun v w' => v = .bool true ∧ Ch Non W w') := by
  obtain ⟨o1', c1', av, hcs1, _, _, hm1, hQ, ha⟩ := h1.sliceOf (e := t_coadjutorlaw22_Act) (enc := actE) (Q := fun y => Rd W y.o (y.l.map (.int .i64)) (fun _ => True)) (by kernel_rfl) (fun x hl hd => act_dat hl hd)
  injection hcs1 with hcs1
  injection hcs1 with q1 q2 q3
  subst q1; subst q2; subst q3
  refine coadjutorlaw22_PagesExact.calls _ _ _ _ ?_
  unfold coadjutorlaw22_PagesExact.vc
  refine step_call (awake_spec W) ?_
  rintro v w1 ⟨rfl, hC1⟩
  refine ⟨_, rfl, iteF rfl ?_⟩
  by_cases hn : n < 1 ∨ 64 < n
  · refine step_call (New0_spec w1 n hn) ?_
    rintro v w2 ⟨rfl, rfl⟩
    refine ⟨_, rfl, fun h1 => ⟨rfl, hC1⟩, fun h1 => ⟨fun h2 => ⟨rfl, hC1⟩, fun h2 => ?_⟩⟩
    have h1 := of_decide_eq_false h1
    have h2 := of_decide_eq_false h2
    omega
  refine step_call (New_spec w1 n (by omega)) ?_
  rintro v w2 ⟨pb, rfl, hr2, hc2⟩
  refine ⟨_, rfl, iteF (decide_eq_false (by omega)) (iteF (decide_eq_false (by omega)) ?_)⟩
  refine step_call (RefNew_spec w2 n (by omega)) ?_
  rintro v w3 ⟨ub, rfl, hr3, hc3⟩
  have hB3 : Both W w3 pb ub (List.replicate n.toNat pg0) (List.replicate n.toNat pg0) (New w1 w2) (New w2 w3) :=
    ⟨⟨hr2.keepN hc3, (Foot.new hC1).le hc3.size, (hC1.andN hc2).andN hc3⟩, hr3, Foot.new (hC1.andN hc2), fun i h1 h2 => by have := h1.2; have := h2.1; omega⟩
  have hg3 := Good.new n.toNat
  generalize List.replicate n.toNat pg0 = ps3 at hB3 hg3
  generalize New w1 w2 = F3 at hB3
  generalize New w2 w3 = U3 at hB3
  clear hr2 hc2 hr3 hc3 hC1
  refine ⟨_, rfl, fun w' => Ch Non W w', ⟨fun i k w' => ∃ (j : Nat) (ps : List PageD) (F FU : Nat → Prop), i = j ∧ j ≤ av.length ∧ j ≤ 60 ∧ k = av.length - j ∧ Both W w' pb ub ps ps F FU ∧ Good n.toNat (10 * j + 1) ps, ⟨_, 0, ps3, F3, U3, rfl, Nat.zero_le _, by omega, rfl, hB3, hg3.le (by omega)⟩, ?_⟩, ?_⟩
  · clear hB3 hg3
    rintro jk i k w3 ⟨j, ps, F, FU, rfl, hj, hj60, rfl, hB, hg⟩
    refine ⟨fun hlt => ⟨fun h60 => ?_, fun _ => hB.p.c⟩, fun _ => hB.p.c⟩
    have hlt : j < av.length := by have := of_decide_eq_true hlt; omega
    have h60 : j < 60 := by have := of_decide_eq_true h60; omega
    obtain ⟨p, hp, _, _, hcell⟩ := (ha.keepN hB.p.c).elem (sz := 4) (enc := actE) (fun _ => rfl) (by omega) hlt
    have hl := hQ _ (List.getElem_mem hlt)
    generalize av[j] = x at hcell hl
    rw [← Int.toNat_natCast j] at hcell
    have h0 := hcell 0 _ rfl
    rw [add_none] at h0
    subst hp
    refine ⟨⟨by omega, by omega⟩, ?_⟩
    refine ⟨_, _, _, _, _, _, ⟨h0, hcell 1 _ rfl, hcell 2 _ rfl, hcell 3 _ rfl⟩, fun w4 e4 => ?_⟩
    have hX4 := Blk.new e4
    refine ⟨⟨hX4.ok 0 rfl, hX4.ok 1 rfl, hX4.ok 2 rfl, hX4.ok 3 rfl⟩, fun w6 e5 => ?_⟩
    have e6 : w6 = w4.setCells w3.heap.size 0 (actE x) := e5
    have hX6 := hX4.all (actE x) rfl e6
    have hc36 : Ch Non w3 w6 := (Ch.alloc (F := Non) e4).trans (Ch.sets (F := (· = w3.heap.size)) e6 rfl) (fun i hi he => by omega)
    have hxF : ¬ F w3.heap.size := fun h => Nat.lt_irrefl _ (hB.p.lt _ h)
    have hxU : ¬ FU w3.heap.size := fun h => Nat.lt_irrefl _ (hB.fu _ h)
    clear e4 e5 e6 hX4 hcell h0
    have hX6 : Blk w6 w3.heap.size (actE x) 29 := hX6
    generalize w3.heap.size = xb at hX6 hxF hxU ⊢
    have hS : Sit W w6 pb ub xb x ps ps F FU := ⟨hB.keepN hc36, hX6, hxF, hxU⟩
    clear hB hX6 hc36 hxF hxU
    refine ⟨_, _, _, hS.x.cell 3 rfl, fun _ => ⟨rfl, hS.b.p.c⟩, fun h10 => ?_⟩
    have h10 : x.l.length ≤ 10 := by have := of_decide_eq_false h10; omega
    have hro : ∀ {w'}, Ch Non W w' → Rd w' x.o (x.l.map (.int .i64)) (fun i => i < W.heap.size) := fun hc => (hl.mono (fun i hi _ => hi)).keepN hc
    refine ⟨fun w' => ∃ (ps : List PageD) (F FU : Nat → Prop), Sit W w' pb ub xb x ps ps F FU ∧ Good n.toNat (10 * ((j : Int) + 1) + 1) ps, ⟨_, hS.x.cell 0 rfl, fun hk3 => ?_, fun hk3 => ⟨fun hk4 => ?_, fun hk4 => ⟨fun hk5 => ⟨fun _ => ?_, fun _ => ?_⟩, fun hk5 => ⟨fun hk6 => ⟨fun _ => ?_, fun _ => ?_⟩, fun hk6 => ⟨fun hk7 => ?_, fun hk7 => ?_⟩⟩⟩⟩⟩, ?_⟩
    · refine ⟨fun w' => Blk w' xb (actE x) 29, fun w7 e7 => ⟨hS.x.drew e7, _, _, _, fun w' h => h.cell 3 rfl, _, _, _, fun w' h => h.cell 3 rfl, ?_⟩⟩
      have hS7 := hS.keepN (Ch.drew e7)
      refine step_call (Share_spec hS7.b.p.r (hro hS7.b.p.c) (hS7.b.p.old (fun _ h => h)) (by omega) (by omega) hg.bnd x.c) ?_
      rintro v w8 ⟨rfl, hr8, hc8⟩
      have hS8 := hS7.stepP0 hr8 hc8
      refine ⟨_, rfl, hS8.x, ?_⟩
      refine step_call (RefShare_spec hS8.b.r hg (hro hS8.b.p.c) (by omega) (by rw [hg.len]; omega) (by omega) x.c) ?_
      rintro v w9 ⟨rfl, hr9, hc9⟩
      have hS9 := hS8.stepR hr9 hc9
      refine ⟨_, rfl, hS9.x, iteF (by simp) ⟨_, _, _, hS9, ?_⟩⟩
      split
      · exact (Good.share (by omega) hg).le (by omega)
      · exact hg.le (by omega)
    · refine ⟨fun w' => Blk w' xb (actE x) 29, fun w7 e7 => ⟨hS.x.drew e7, _, _, _, fun w' h => h.cell 3 rfl, _, _, _, fun w' h => h.cell 3 rfl, ?_⟩⟩
      have hS7 := hS.keepN (Ch.drew e7)
      refine step_call (Drop_spec hS7.b.p.r hS7.b.p.lt (hro hS7.b.p.c) (fun i hi => Nat.lt_of_lt_of_le hi hS7.b.p.c.size) (hS7.b.p.old (fun _ h => h)) (by omega) (by rw [hg.len]; omega) (by omega) hg.bnd x.c) ?_
      rintro v w8 ⟨rfl, hr8, hc8⟩
      have hS8 := hS7.stepP0 hr8 hc8
      refine ⟨_, rfl, hS8.x, ?_⟩
      refine step_call (RefDrop_spec hS8.b.r hg (hro hS8.b.p.c) (by omega) (by rw [hg.len]; omega) (by omega) x.c) ?_
      rintro v w9 ⟨rfl, hr9, hc9⟩
      have hS9 := hS8.stepR hr9 hc9
      refine ⟨_, rfl, hS9.x, iteF (by simp) ⟨_, _, _, hS9, ?_⟩⟩
      split
      · rename_i h; exact (hg.drops (by omega) (useGo_drop2.2 h)).le (by omega)
      · exact hg.le (by omega)
    ·
      refine ⟨_, hS.x.cell 2 rfl, ?_⟩
      refine step_call (entry_spec w6 _) ?_
      rintro v w17 ⟨⟨qa, qb⟩, rfl, hq, hc17⟩
      have hq0 := hq
      obtain ⟨⟨oa, ca, va, hqa, _, _⟩, ⟨ob, cb, vb, hqb, _, _⟩⟩ := hq
      dsimp only at hqa hqb
      subst hqa; subst hqb
      refine ⟨oa, _, ca, ob, _, cb, rfl, fun w18 e18 => ?_⟩
      have hE18 := Blk.new e18
      refine ⟨⟨hE18.ok 0 rfl, hE18.ok 1 rfl⟩, fun w19 e19 => ?_⟩
      have e19' : w19 = w18.setCells w17.heap.size 0 [.slice oa (entE x.n).1.length ca, .slice ob (entE x.n).2.length cb] := e19
      have hE19 := hE18.all [.slice oa (entE x.n).1.length ca, .slice ob (entE x.n).2.length cb] rfl e19'
      have hE19 : Blk w19 w17.heap.size [.slice oa (entE x.n).1.length ca, .slice ob (entE x.n).2.length cb] 35 := hE19
      have hc19 : Ch Non w17 w19 := (Ch.alloc (F := Non) e18).trans (Ch.sets (F := (· = w17.heap.size)) e19' rfl) (fun i hi he => by omega)
      have hS19 := (hS.keepN hc17).keepN hc19
      have hq19 := hq0.keepN hc19
      have hs17 := hc17.size
      have hs19 := hc19.size
      have hW6 := hS.b.p.c.size
      have hF6 := hS.b.p.lt
      have hU6 := hS.b.fu
      have hx6 := hS.x.lt
      have hef : ¬ F w17.heap.size := fun h => by have := hF6 _ h; omega
      have heu : ¬ FU w17.heap.size := fun h => by have := hU6 _ h; omega
      clear e18 e19 e19' hE18 hq0 hc19
      refine ⟨fun w' => Blk w' xb (actE x) 29 ∧ Blk w' w17.heap.size [.slice oa (entE x.n).1.length ca, .slice ob (entE x.n).2.length cb] 35, fun w20 e20 => ⟨⟨hS19.x.drew e20, hE19.drew e20⟩, _, fun w' h => h.1.cell 1 rfl, ?_⟩⟩
      refine ⟨_, _, _, _, _, _, ⟨fun w' h => h.2.cell 0 rfl, fun w' h => h.2.cell 1 rfl⟩, _, fun w' h => h.1.cell 1 rfl, ?_⟩
      refine ⟨_, _, _, fun w' h => h.2.cell 0 rfl, _, _, _, fun w' h => h.2.cell 1 rfl, ?_⟩
      have hS20 := hS19.keepN (Ch.drew e20)
      have hE20 := hE19.drew e20
      have hs20 : w19.heap.size ≤ w20.heap.size := (Ch.drew (F := Non) e20).size
      have hq20 := hq19.keepN (Ch.drew e20)
      clear e20 hS19 hE19 hq19
      refine step_call (Put_spec (p := (_, _)) hS20.b.p.r _ hq20 (entE_small _)) ?_
      rintro v w26 ⟨rfl, hr26, hc26⟩
      have hs26 := hc26.size
      have hS26 := hS20.stepP hr26 hc26
      have hE26 := hE20.keep hc26 hef
      have hq26 := hq20.keep hc26 (fun i _ hi hF => by have := hF6 i hF; have := hi.1; omega)
      refine ⟨_, rfl, ⟨hS26.x, hE26⟩, ?_⟩
      refine step_call (RefPut_spec (p := (_, _)) hS26.b.r hS26.b.fu x.id hq26 (fun i hi => ⟨by have := hi.2; omega, fun hu => by have := hU6 i hu; have := hi.1; omega⟩) (entE_small _)) ?_
      rintro v w27 ⟨rfl, hr27, hc27⟩
      have hS27 := hS26.stepE hr27 hc27 (fun i hi => ⟨by have := hi.1; omega, by have := hi.2; omega, fun hF => by
        rcases hF with hF | hF
        · have := hF6 i hF; have := hi.1; omega
        · have := hF.1; have := hi.2; omega⟩) (fun h => by have := h.1; omega)
      exact ⟨_, rfl, ⟨hS27.x, hE26.keep hc27 heu⟩, iteF (by simp) ⟨_, _, _, hS27, (hg.put (by omega) _ _).le (by omega)⟩⟩
    ·
      refine ⟨_, hS.x.cell 2 rfl, ?_⟩
      refine step_call (Take_spec hS.b.p.r _) ?_
      rintro v w28 ⟨rfl, hr28, hc28⟩
      have hS28 := hS.stepP0 hr28 hc28
      refine ⟨_, _, rfl, _, hS28.x.cell 2 rfl, ?_⟩
      refine step_call (RefTake_spec hS28.b.r _) ?_
      rintro v w29 ⟨rfl, hr29, hc29⟩
      have hS29 := hS28.stepR (hr29.mono (fun i _ hi => .inl hi)) hc29
      exact ⟨_, _, rfl, iteF (by simp) (iteF (by simp) ⟨_, _, _, hS29, (hg.take (by omega) _).le (by omega)⟩)⟩
    ·
      refine ⟨_, hS.x.cell 2 rfl, ?_⟩
      refine step_call (entry_spec w6 _) ?_
      rintro v w17 ⟨⟨qa, qb⟩, rfl, hq, hc17⟩
      have hq0 := hq
      obtain ⟨⟨oa, ca, va, hqa, _, _⟩, ⟨ob, cb, vb, hqb, _, _⟩⟩ := hq
      dsimp only at hqa hqb
      subst hqa; subst hqb
      refine ⟨oa, _, ca, ob, _, cb, rfl, fun w18 e18 => ?_⟩
      have hE18 := Blk.new e18
      refine ⟨⟨hE18.ok 0 rfl, hE18.ok 1 rfl⟩, fun w19 e19 => ?_⟩
      have e19' : w19 = w18.setCells w17.heap.size 0 [.slice oa (entE x.n).1.length ca, .slice ob (entE x.n).2.length cb] := e19
      have hE19 := hE18.all [.slice oa (entE x.n).1.length ca, .slice ob (entE x.n).2.length cb] rfl e19'
      have hE19 : Blk w19 w17.heap.size [.slice oa (entE x.n).1.length ca, .slice ob (entE x.n).2.length cb] 35 := hE19
      have hc19 : Ch Non w17 w19 := (Ch.alloc (F := Non) e18).trans (Ch.sets (F := (· = w17.heap.size)) e19' rfl) (fun i hi he => by omega)
      have hS19 := (hS.keepN hc17).keepN hc19
      have hq19 := hq0.keepN hc19
      have hs17 := hc17.size
      have hs19 := hc19.size
      have hW6 := hS.b.p.c.size
      have hF6 := hS.b.p.lt
      have hU6 := hS.b.fu
      have hx6 := hS.x.lt
      have hef : ¬ F w17.heap.size := fun h => by have := hF6 _ h; omega
      have heu : ¬ FU w17.heap.size := fun h => by have := hU6 _ h; omega
      clear e18 e19 e19' hE18 hq0 hc19
      refine ⟨fun w' => Blk w' xb (actE x) 29 ∧ Blk w' w17.heap.size [.slice oa (entE x.n).1.length ca, .slice ob (entE x.n).2.length cb] 35, fun w20 e20 => ⟨⟨hS19.x.drew e20, hE19.drew e20⟩, _, fun w' h => h.1.cell 1 rfl, ?_⟩⟩
      refine ⟨_, _, _, _, _, _, ⟨fun w' h => h.2.cell 0 rfl, fun w' h => h.2.cell 1 rfl⟩, _, fun w' h => h.1.cell 1 rfl, ?_⟩
      refine ⟨_, _, _, fun w' h => h.2.cell 0 rfl, _, _, _, fun w' h => h.2.cell 1 rfl, ?_⟩
      have hS20 := hS19.keepN (Ch.drew e20)
      have hE20 := hE19.drew e20
      have hs20 : w19.heap.size ≤ w20.heap.size := (Ch.drew (F := Non) e20).size
      have hq20 := hq19.keepN (Ch.drew e20)
      clear e20 hS19 hE19 hq19
      refine step_call (Put_spec (p := (_, _)) hS20.b.p.r _ hq20 (entE_small _)) ?_
      rintro v w26 ⟨rfl, hr26, hc26⟩
      have hs26 := hc26.size
      have hS26 := hS20.stepP hr26 hc26
      have hE26 := hE20.keep hc26 hef
      have hq26 := hq20.keep hc26 (fun i _ hi hF => by have := hF6 i hF; have := hi.1; omega)
      refine ⟨_, rfl, ⟨hS26.x, hE26⟩, ?_⟩
      refine step_call (RefPut_spec (p := (_, _)) hS26.b.r hS26.b.fu x.id hq26 (fun i hi => ⟨by have := hi.2; omega, fun hu => by have := hU6 i hu; have := hi.1; omega⟩) (entE_small _)) ?_
      rintro v w27 ⟨rfl, hr27, hc27⟩
      have hS27 := hS26.stepE hr27 hc27 (fun i hi => ⟨by have := hi.1; omega, by have := hi.2; omega, fun hF => by
        rcases hF with hF | hF
        · have := hF6 i hF; have := hi.1; omega
        · have := hF.1; have := hi.2; omega⟩) (fun h => by have := h.1; omega)
      exact ⟨_, rfl, ⟨hS27.x, hE26.keep hc27 heu⟩, iteF (by simp) ⟨_, _, _, hS27, (hg.put (by omega) _ _).le (by omega)⟩⟩
    ·
      refine ⟨_, hS.x.cell 2 rfl, ?_⟩
      refine step_call (Take_spec hS.b.p.r _) ?_
      rintro v w28 ⟨rfl, hr28, hc28⟩
      have hS28 := hS.stepP0 hr28 hc28
      refine ⟨_, _, rfl, _, hS28.x.cell 2 rfl, ?_⟩
      refine step_call (RefTake_spec hS28.b.r _) ?_
      rintro v w29 ⟨rfl, hr29, hc29⟩
      have hS29 := hS28.stepR (hr29.mono (fun i _ hi => .inl hi)) hc29
      exact ⟨_, _, rfl, iteF (by simp) (iteF (by simp) ⟨_, _, _, hS29, (hg.take (by omega) _).le (by omega)⟩)⟩
    ·
      refine ⟨_, hS.x.cell 2 rfl, ?_⟩
      refine step_call (entry_spec w6 _) ?_
      rintro v w17 ⟨⟨qa, qb⟩, rfl, hq, hc17⟩
      have hq0 := hq
      obtain ⟨⟨oa, ca, va, hqa, _, _⟩, ⟨ob, cb, vb, hqb, _, _⟩⟩ := hq
      dsimp only at hqa hqb
      subst hqa; subst hqb
      refine ⟨oa, _, ca, ob, _, cb, rfl, fun w18 e18 => ?_⟩
      have hE18 := Blk.new e18
      refine ⟨⟨hE18.ok 0 rfl, hE18.ok 1 rfl⟩, fun w19 e19 => ?_⟩
      have e19' : w19 = w18.setCells w17.heap.size 0 [.slice oa (entE x.n).1.length ca, .slice ob (entE x.n).2.length cb] := e19
      have hE19 := hE18.all [.slice oa (entE x.n).1.length ca, .slice ob (entE x.n).2.length cb] rfl e19'
      have hE19 : Blk w19 w17.heap.size [.slice oa (entE x.n).1.length ca, .slice ob (entE x.n).2.length cb] 35 := hE19
      have hc19 : Ch Non w17 w19 := (Ch.alloc (F := Non) e18).trans (Ch.sets (F := (· = w17.heap.size)) e19' rfl) (fun i hi he => by omega)
      have hS19 := (hS.keepN hc17).keepN hc19
      have hq19 := hq0.keepN hc19
      have hs17 := hc17.size
      have hs19 := hc19.size
      have hW6 := hS.b.p.c.size
      have hF6 := hS.b.p.lt
      have hU6 := hS.b.fu
      have hx6 := hS.x.lt
      have hef : ¬ F w17.heap.size := fun h => by have := hF6 _ h; omega
      have heu : ¬ FU w17.heap.size := fun h => by have := hU6 _ h; omega
      clear e18 e19 e19' hE18 hq0 hc19
      refine ⟨fun w' => Blk w' xb (actE x) 29 ∧ Blk w' w17.heap.size [.slice oa (entE x.n).1.length ca, .slice ob (entE x.n).2.length cb] 35, fun w20 e20 => ⟨⟨hS19.x.drew e20, hE19.drew e20⟩, _, fun w' h => h.1.cell 1 rfl, ?_⟩⟩
      refine ⟨_, _, _, _, _, _, ⟨fun w' h => h.2.cell 0 rfl, fun w' h => h.2.cell 1 rfl⟩, _, fun w' h => h.1.cell 1 rfl, ?_⟩
      refine ⟨_, _, _, fun w' h => h.2.cell 0 rfl, _, _, _, fun w' h => h.2.cell 1 rfl, ?_⟩
      have hS20 := hS19.keepN (Ch.drew e20)
      have hE20 := hE19.drew e20
      have hs20 : w19.heap.size ≤ w20.heap.size := (Ch.drew (F := Non) e20).size
      have hq20 := hq19.keepN (Ch.drew e20)
      clear e20 hS19 hE19 hq19
      refine step_call (Put_spec (p := (_, _)) hS20.b.p.r _ hq20 (entE_small _)) ?_
      rintro v w26 ⟨rfl, hr26, hc26⟩
      have hs26 := hc26.size
      have hS26 := hS20.stepP hr26 hc26
      have hE26 := hE20.keep hc26 hef
      have hq26 := hq20.keep hc26 (fun i _ hi hF => by have := hF6 i hF; have := hi.1; omega)
      refine ⟨_, rfl, ⟨hS26.x, hE26⟩, ?_⟩
      refine step_call (RefPut_spec (p := (_, _)) hS26.b.r hS26.b.fu x.id hq26 (fun i hi => ⟨by have := hi.2; omega, fun hu => by have := hU6 i hu; have := hi.1; omega⟩) (entE_small _)) ?_
      rintro v w27 ⟨rfl, hr27, hc27⟩
      have hS27 := hS26.stepE hr27 hc27 (fun i hi => ⟨by have := hi.1; omega, by have := hi.2; omega, fun hF => by
        rcases hF with hF | hF
        · have := hF6 i hF; have := hi.1; omega
        · have := hF.1; have := hi.2; omega⟩) (fun h => by have := h.1; omega)
      exact ⟨_, rfl, ⟨hS27.x, hE26.keep hc27 heu⟩, iteF (by simp) ⟨_, _, _, hS27, (hg.put (by omega) _ _).le (by omega)⟩⟩
    ·
      refine ⟨_, hS.x.cell 2 rfl, ?_⟩
      refine step_call (Take_spec hS.b.p.r _) ?_
      rintro v w28 ⟨rfl, hr28, hc28⟩
      have hS28 := hS.stepP0 hr28 hc28
      refine ⟨_, _, rfl, _, hS28.x.cell 2 rfl, ?_⟩
      refine step_call (RefTake_spec hS28.b.r _) ?_
      rintro v w29 ⟨rfl, hr29, hc29⟩
      have hS29 := hS28.stepR (hr29.mono (fun i _ hi => .inl hi)) hc29
      exact ⟨_, _, rfl, iteF (by simp) (iteF (by simp) ⟨_, _, _, hS29, (hg.take (by omega) _).le (by omega)⟩)⟩
    clear hS hg
    rintro jk w56 ⟨ps, F, FU, hS, hg⟩
    have hes : ∀ p ∈ ps, p.es.length ≤ 4 := fun p hp => (hg.pg p hp).2.2.2
    refine ⟨fun a b w' => a = (if isB ps x.id then (pgAt ps x.id).ver else 0) ∧ b = (if isB ps x.id then (pgAt ps x.id).users else 0) ∧ Sit W w' pb ub xb x ps ps F FU, ⟨_, hS.x.cell 1 rfl, ?_⟩, ?_⟩
    · refine step_call (RefIs_spec hS.b.r _) ?_
      rintro v w57 ⟨rfl, rfl⟩
      refine ⟨_, rfl, fun hb => ?_, fun hb => ?_⟩
      · obtain ⟨h0, h1⟩ := isB_lt hb
        obtain ⟨p, c, hlk⟩ := hS.b.r.look h1
        refine ⟨fun w' => Ch Non w57 w', fun w58 e58 => ⟨Ch.drew e58, ?_⟩⟩
        refine ⟨_, _, _, fun w' h => (hlk w' h).1, _, fun w' h => (hS.x.keepN h).cell 1 rfl, ⟨by omega, by omega⟩, ?_⟩
        refine ⟨_, fun w' h => (hlk w' h).2.1, ?_⟩
        refine ⟨fun w' => Ch Non w57 w', fun w62 e62 => ⟨(Ch.drew (F := Non) e58).andN (Ch.drew e62), ?_⟩⟩
        refine ⟨_, _, _, fun w' h => (hlk w' h).1, _, fun w' h => (hS.x.keepN h).cell 1 rfl, ⟨by omega, by omega⟩, ?_⟩
        refine ⟨_, fun w' h => (hlk w' h).2.2, ?_⟩
        rw [hb, if_pos rfl, if_pos rfl, pgAt_lt h0 h1]
        exact ⟨rfl, rfl, hS.keepN ((Ch.drew (F := Non) e58).andN (Ch.drew e62))⟩
      · rw [hb]
        exact ⟨rfl, rfl, hS⟩
    clear hS
    rintro jk ver users w66 ⟨rfl, rfl, hS⟩
    refine ⟨_, _, _, hS.x.cell 3 rfl, ?_⟩
    refine step_call (Get_spec hS.b.p.r (hro hS.b.p.c) hes (by omega) x.c) ?_
    rintro v w67 ⟨oG, cG, qs, F1, F2, rfl, hG, hA⟩
    have hS67 := hS.keepN hG.ch
    refine ⟨_, _, _, rfl, _, _, _, hS67.x.cell 3 rfl, ?_⟩
    refine step_call (RefGet_spec hS67.b.r (hro hS67.b.p.c) hes (by omega) x.c) ?_
    rintro v w68 ⟨oH, cH, us, rfl, hH, hU, hc68⟩
    have hS68 := hS67.keepN hc68
    refine ⟨_, _, _, rfl, _, hS68.x.cell 1 rfl, ?_⟩
    refine step_call (Version_spec hS68.b.p.r _) ?_
    rintro v w69 ⟨rfl, rfl⟩
    refine ⟨_, rfl, iteF (by simp) ⟨_, hS68.x.cell 1 rfl, ?_⟩⟩
    refine step_call (Users_spec hS68.b.p.r _) ?_
    rintro v w70 ⟨rfl, rfl⟩
    refine ⟨_, rfl, iteF (by simp) ?_⟩
    refine step_call (Free_spec hS68.b.p.r) ?_
    rintro v w71 ⟨rfl, rfl⟩
    refine ⟨_, rfl, ?_⟩
    refine step_call (RefFree_spec hS68.b.r) ?_
    rintro v w72 ⟨rfl, rfl⟩
    rw [freeZ_eq hg]
    refine ⟨_, rfl, iteF (by simp) ?_⟩
    refine step_call (Len_spec hS68.b.p.r) ?_
    rintro v w73 ⟨rfl, rfl⟩
    refine ⟨_, rfl, iteF (by rw [hg.len]; simp; omega) (iteF (by simp) ?_)⟩
    have hGr := hG.own.rd.keepN hc68
    have hAr := hA.imp (fun _ _ k => k.keepN hc68)
    have hsm : ∀ e ∈ getL ps x.l, smallE e := fun e he => by
      obtain ⟨id, _, he⟩ := List.mem_flatMap.1 he
      split at he
      · rename_i hb
        obtain ⟨h0, h1⟩ := isB_lt hb
        obtain ⟨o, c, gs, R, hC, _, hP⟩ := hS68.b.r
        obtain ⟨_, _, _, _, _, _, hs⟩ := hP id.toNat (by rw [hC.len]; exact h1) h1
        rw [pgAt_lt h0 h1] at he
        exact hs e he
      · simp at he
    have hgl : (getL ps x.l).length ≤ 40 := by have := getL_len hes x.l; omega
    generalize getL ps x.l = es at hGr hAr hU hsm hgl
    clear hG hA hS hS67 hc68
    refine ⟨fun w' => Ch Non w73 w', ⟨fun i k w' => ∃ m : Nat, i = m ∧ m ≤ es.length ∧ k = es.length - m ∧ Ch Non w73 w', ⟨_, 0, rfl, Nat.zero_le _, rfl, Ch.refl _ _⟩, ?_⟩, ?_⟩
    · rintro jk i k w74 ⟨m, rfl, hm, rfl, hc⟩
      refine ⟨fun hlt => ?_, fun _ => hc⟩
      have hlt : m < es.length := by have := of_decide_eq_true hlt; omega
      have hmq : m < qs.length := by rw [hAr.length]; exact hlt
      have hmu : m < us.length := by rw [hU.length]; exact hlt
      obtain ⟨p1, hp1, hl1⟩ := Rd.pair (hGr.keepN hc) hmq
      obtain ⟨p2, hp2, hl2⟩ := Rd.pair (hH.keepN hc) hmu
      have hE1 := (hAr.get m hmq hlt).keepN hc
      have hE2 := (hU.get m hmu hlt).keepN hc
      have hsme := hsm _ (List.getElem_mem hlt)
      generalize qs[m] = q1 at hl1 hE1
      generalize us[m] = q2 at hl2 hE2
      generalize es[m] = e at hE1 hE2 hsme
      obtain ⟨a1, b1⟩ := q1
      obtain ⟨a2, b2⟩ := q2
      have hE10 := hE1
      have hE20 := hE2
      obtain ⟨⟨o1, c1, vs1, r1, _, _⟩, ⟨o2, c2, vs2, r2, _, _⟩⟩ := hE1
      obtain ⟨⟨o3, c3, vs3, r3, _, _⟩, ⟨o4, c4, vs4, r4, _, _⟩⟩ := hE2
      dsimp only at r1 r2 r3 r4 hl1 hl2
      subst r1; subst r2; subst r3; subst r4
      subst hp1; subst hp2
      refine ⟨fun w' => Ch Non w74 w', fun w75 e75 => ⟨Ch.drew e75, ⟨by omega, by omega⟩, ?_⟩⟩
      refine ⟨_, _, _, _, _, _, ⟨fun w' h => (hl1 w' h).1, fun w' h => (hl1 w' h).2⟩, ⟨by omega, by omega⟩, ?_⟩
      refine ⟨_, _, _, _, _, _, ⟨fun w' h => (hl2 w' h).1, fun w' h => (hl2 w' h).2⟩, ?_⟩
      refine step_call (isE_spec (p := (_, _)) (q := (_, _)) (hE10.keepN (Ch.drew e75)) (hE20.keepN (Ch.drew e75)) hsme) ?_
      rintro v w78 ⟨rfl, hc78⟩
      have hc' := (Ch.drew (F := Non) e75).andN hc78
      exact ⟨_, rfl, hc', iteF (by simp) ⟨es.length - (m + 1), by omega, m + 1, by rw [wrap_id (by omega) (by omega)]; rfl, hlt, rfl, hc.andN hc'⟩⟩
    rintro jk w79 hc79
    have hS79 := hS68.keepN hc79
    clear hS68 hGr hAr hU hsm hH hc79
    refine ⟨_, hS79.x.cell 2 rfl, ?_⟩
    have hpl : ps.length = n.toNat := hg.len
    refine step_call (Of_spec hS79.b.p.r (by omega) _) ?_
    rintro v w80 ⟨⟨oO, cO, rfl, hO⟩, hc80⟩
    have hS80 := hS79.keepN hc80
    clear hS79
    refine ⟨_, _, _, rfl, fun k id f w' => ∃ m : Nat, id = m ∧ m ≤ ps.length ∧ f = ps.length - m ∧ k = (ofL ps x.n m).length ∧ Ch Non w80 w', ⟨_, 0, rfl, Nat.zero_le _, rfl, rfl, Ch.refl _ _⟩, ?_⟩
    rintro jk k id f w81 ⟨m, rfl, hm, rfl, rfl, hc81⟩
    have hS81 := hS80.keepN hc81
    have hml : (ofL ps x.n m).length ≤ 64 := by
      unfold ofL
      rw [List.length_map]
      exact Nat.le_trans (List.length_filter_le _ _) (by simp; omega)
    refine ⟨fun hlt => ?_, fun hge => ?_⟩
    · have hlt : m < ps.length := by have := of_decide_eq_true hlt; omega
      have hsn := ofL_succ ps x.n m
      obtain ⟨p, c, hlk⟩ := hS81.b.r.look (j := (m : Int).toNat) (by simpa using hlt)
      have hpm := pgAt_lt (ps := ps) (id := (m : Int)) (by omega) (by simpa using hlt)
      have hbm : isB ps (m : Int) = decide (ps[(m : Int).toNat].users > 0) := by unfold isB; rw [hpm]
      refine ⟨fun w' => Ch Non w81 w', fun w82 e82 => ⟨Ch.drew e82, ?_⟩⟩
      have hc82 := hc81.andN (Ch.drew e82)
      have nx : ∀ {k'}, ofL ps x.n (m + 1) = ofL ps x.n m → k' = ((ofL ps x.n m).length : Int) → ∃ f' : Nat, f' < ps.length - m ∧ ∃ m' : Nat, IntKind.i64.wrap ((m : Int) + 1) = m' ∧ m' ≤ ps.length ∧ f' = ps.length - m' ∧ k' = (ofL ps x.n m').length ∧ Ch Non w80 w82 := fun h hk =>
        ⟨ps.length - (m + 1), by omega, m + 1, by rw [wrap_id (by omega) (by omega)]; rfl, hlt, rfl, by rw [h]; exact hk, hc82⟩
      refine ⟨_, _, _, fun w' h => (hlk w' h).1, ⟨by omega, by omega⟩, ?_⟩
      refine ⟨_, fun w' h => (hlk w' h).2.2, fun hu => ?_, fun hu => ?_⟩
      · have hb : isB ps (m : Int) = true := by rw [hbm]; exact hu
        rw [hb, Bool.true_and] at hsn
        refine ⟨_, _, _, fun w' h => (hlk w' h).1, ⟨by omega, by omega⟩, ?_⟩
        refine ⟨_, fun w' h => (hlk w' h).2.1, _, fun w' h => (hS81.x.keepN h).cell 2 rfl, fun hv => ?_, fun hv => ?_⟩
        · have hv : ps[(m : Int).toNat].ver = x.n := by simpa using hv
          rw [← hpm] at hv
          have hat := ofL_at hlt hb hv
          have hla := (List.getElem?_eq_some_iff.1 hat).1
          rw [hv] at hsn
          simp only [beq_self_eq_true, if_true] at hsn
          refine iteF (decide_eq_false (by omega)) ⟨⟨by omega, by omega⟩, ((hO.keepN hc81).keepN (Ch.drew e82)).at (j := ((ofL ps x.n m).length : Int).toNat * 1) (v := .int .i64 (m : Int)) (by rw [Nat.mul_one, Int.toNat_natCast, List.getElem?_map, hat]; rfl) fun p hp => ⟨_, hp, iteF (by simp) ?_⟩⟩
          refine ⟨ps.length - (m + 1), by omega, m + 1, by rw [wrap_id (by omega) (by omega)]; rfl, hlt, rfl, ?_, hc82⟩
          rw [hsn, List.length_append, wrap_id (by omega) (by omega)]
          rfl
        · have hv : (ps[(m : Int).toNat].ver == x.n) = false := hv
          rw [hpm, hv] at hsn
          exact nx (by rw [hsn]; simp) rfl
      · have hb : isB ps (m : Int) = false := by rw [hbm]; exact hu
        rw [hb] at hsn
        exact nx (by rw [hsn]; simp) rfl
    · have hmn : m = ps.length := by have := of_decide_eq_false hge; omega
      subst hmn
      refine iteF (by simp) ⟨av.length - (j + 1), by omega, j + 1, ps, F, FU, by rw [wrap_id (by omega) (by omega)]; rfl, hlt, h60, rfl, hS81.b, ?_⟩
      have e1 : 10 * ((j : Int) + 1) + 1 = 10 * ((j + 1 : Nat) : Int) + 1 := by omega
      rw [← e1]; exact hg
  clear hB3 hg3 ha hQ h1
  rintro jk w88 hc88
  refine step_call (Take_nil w88 1) ?_
  rintro v w89 ⟨rfl, rfl⟩
  refine ⟨_, _, rfl, iteT rfl (fun w90 e90 => ?_)⟩
  refine step_call (Share_nil w90 _ _ _) ?_
  rintro v w91 ⟨rfl, hc91⟩
  refine ⟨_, rfl, iteT rfl (fun w92 e92 => ?_)⟩
  refine step_call (Drop_nil w92 _ _ _) ?_
  rintro v w93 ⟨rfl, hc93⟩
  refine ⟨_, rfl, iteT rfl ?_⟩
  refine step_call (entry_spec w93 1) ?_
  rintro v w94 ⟨⟨qa, qb⟩, rfl, ⟨⟨oa, ca, va, hqa, _, _⟩, ⟨ob, cb, vb, hqb, _, _⟩⟩, hc94⟩
  dsimp only at hqa hqb
  subst hqa; subst hqb
  refine ⟨oa, _, ca, ob, _, cb, rfl, ?_⟩
  refine step_call (Put_nil w94 0 _ _ _ _ _ _) ?_
  rintro v w95 ⟨rfl, hc95⟩
  refine ⟨_, rfl, iteT rfl (fun w96 e96 => ?_)⟩
  have r96 : Rd w96 (some ⟨w95.heap.size, 0, none⟩) (([0] : List Int).map (.int .i64)) (· = w95.heap.size) := (Blk.new e96).rd
  refine step_call (Get_nil (l := [0]) r96 (by simp) 1) ?_
  rintro v w97 ⟨rfl, rfl⟩
  refine ⟨_, _, _, rfl, ?_⟩
  refine step_call (Version_nil w97 0) ?_
  rintro v w98 ⟨rfl, rfl⟩
  refine ⟨_, rfl, ?_⟩
  refine step_call (Users_nil w98 0) ?_
  rintro v w99 ⟨rfl, rfl⟩
  refine ⟨_, rfl, ?_⟩
  refine step_call (Free_nil w99) ?_
  rintro v w100 ⟨rfl, rfl⟩
  refine ⟨_, rfl, ?_⟩
  refine step_call (Len_nil w100) ?_
  rintro v w101 ⟨rfl, rfl⟩
  refine ⟨_, rfl, ?_⟩
  refine step_call (Of_nil w101 1) ?_
  rintro v w102 ⟨rfl, rfl⟩
  refine ⟨_, _, _, rfl, rfl, ?_⟩
  exact ((((((hc88.andN (Ch.alloc e90)).andN hc91).andN (Ch.alloc e92)).andN hc93).andN hc94).andN hc95).andN (Ch.alloc e96)
end Go.Proofs.Ytpcddfhfchempaa.Pages
