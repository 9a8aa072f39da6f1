import Derived.Test.YtkbikekbaboclaaGreatStp2
set_option linter.unusedVariables false
set_option linter.unusedSimpArgs false
namespace Go.Proofs.YtkbikekbaboclaaGreat.Stp
open Go Go.Proofs V Vc Conf Brain Num Go.RowKit
section
variable {W w w' : World} {wb bb : Nat} {c : CfD} {wt : ByteArray} {v : Value} {vs xs ys : List Int} {xss : List (List Int)} {F G : Nat → Prop} {past : List Ent} {o : Option Addr}
theorem isRows_c1_spec (w : World) (x : Int) : Calls Tryz.prog i_step_isRows_c1 #[.int .i64 x] w (Ret fun v w' => v = .bool (sat x != x) ∧ w' = w) := by
 refine step_isRows_c1.calls _ ?_
 unfold step_isRows_c1.vc
 refine step_call (Sat_spec w x) ?_
 rintro v w1 ⟨rfl, rfl⟩
 exact ⟨_, rfl, rfl, rfl⟩
theorem sat_iff (x : Int) : (sat x != x) = false ↔ (-32767 ≤ x ∧ x ≤ 32767) := by
 constructor
 ·intro h
  have h : sat x = x := by simpa using h
  have := sat_le x
  omega
 ·intro h
  rw [sat_id h.1 h.2]; simp
theorem ContainsR_spec (hr : Rd w o (xs.map (.int .i64)) F) (hl : xs.length ≤ maxLen) (cc : Nat) : Calls Tryz.prog 52 #[.slice o xs.length cc, .func (.func i_step_isRows_c1) #[] #[]] w (Ret fun v w' => ∃ bv : Bool, v = .bool bv ∧ (bv = false ↔ satL xs) ∧ w' = w) := by
 refine slices_ContainsFunc.calls_ir _ _ _ ?_
 unfold slices_ContainsFunc.vc_ir
 have hi : Calls Tryz.prog 91 #[.slice o xs.length cc, .func (.func i_step_isRows_c1) #[] #[]] w (Ret fun v w' => ∃ x : Int, v = .int .i64 x ∧ (x < 0 ↔ satL xs) ∧ w' = w) := by
  refine slices_IndexFunc.calls_ir _ _ _ ?_
  unfold slices_IndexFunc.vc_ir
  refine ⟨fun i k w' => w' = w ∧ ∃ j : Nat, i = j ∧ j ≤ xs.length ∧ k = xs.length - j ∧ satL (xs.take j), ⟨_, rfl, 0, rfl, Nat.zero_le _, rfl, fun x hx => by simp at hx⟩, ?_⟩
  rintro jk i k w1 ⟨rfl, j, rfl, hj, rfl, hs⟩
  refine ⟨fun hlt => ?_, fun hge => ?_⟩
  ·have hlt : j < xs.length := by have := of_decide_eq_true hlt; omega
   refine ⟨⟨by omega, by omega⟩, hr.at (j := (j : Int).toNat * 1) (v := .int .i64 xs[j]) (by simp [hlt]) fun p hp => ⟨_, hp, step_call (isRows_c1_spec w1 _) ?_⟩⟩
   rintro v w2 ⟨rfl, rfl⟩
   refine ⟨_, rfl, fun hb => ⟨_, rfl, ?_, rfl⟩, fun hb => ?_⟩
   ·constructor
    ·intro h; omega
    ·intro h
     have := (sat_iff xs[j]).2 (h _ (List.getElem_mem hlt))
     rw [this] at hb; cases hb
   ·refine ⟨xs.length - (j + 1), by omega, rfl, j + 1, by rw [wrap_id (by omega) (by unfold maxLen at hl; omega)]; rfl, hlt, rfl, fun x hx => ?_⟩
    rw [take_snoc xs j hlt] at hx
    rcases List.mem_append.1 hx with hx | hx
    ·exact hs x hx
    ·rw [List.mem_singleton] at hx; subst hx; exact (sat_iff _).1 hb
  ·have : j = xs.length := by have := of_decide_eq_false hge; omega
   subst this
   rw [List.take_length] at hs
   exact ⟨_, rfl, ⟨fun _ => hs, fun _ => by decide⟩, rfl⟩
 refine step_call hi ?_
 rintro v w1 ⟨x, rfl, hx, rfl⟩
 refine ⟨_, rfl, _, rfl, ?_, rfl⟩
 rw [← hx]
 constructor
 ·intro h; have := of_decide_eq_false h; omega
 ·intro h; exact decide_eq_false (by omega)
def rowsI (n d : Int) (l : List (List Int)) : Prop := (l.length : Int) = n ∧ ∀ r ∈ l, (r.length : Int) = d ∧ satL r
theorem rowsI_nat {n d : Int} {l : List (List Int)} (hn : 0 ≤ n) (hd : 0 ≤ d) : rowsI n d l ↔ rowsOk n.toNat d.toNat l := by
 unfold rowsI rowsOk
 constructor
 ·rintro ⟨h1, h2⟩
  exact ⟨by omega, fun r hr => ⟨by have := (h2 r hr).1; omega, (h2 r hr).2⟩⟩
 ·rintro ⟨h1, h2⟩
  exact ⟨by omega, fun r hr => ⟨by have := (h2 r hr).1; omega, (h2 r hr).2⟩⟩
theorem isRows_spec (h : RV w v xss F) (n d : Int) : Calls Tryz.prog i_step_isRows #[v, .int .i64 n, .int .i64 d] w (Ret fun v w' => ∃ bv : Bool, v = .bool bv ∧ (bv = true ↔ rowsI n d xss) ∧ w' = w) := by
 obtain ⟨o, cc, us, rfl, hcc, hcm, hr, ha⟩ := h
 refine step_isRows.calls _ _ _ _ _ ?_
 unfold step_isRows.vc
 have hml : xss.length ≤ maxLen := Nat.le_trans hcc hcm
 refine ⟨fun i k w' => w' = w ∧ ∃ j : Nat, i = j ∧ j ≤ xss.length ∧ k = xss.length - j ∧ ∀ r ∈ xss.take j, (r.length : Int) = d ∧ satL r, ⟨_, rfl, 0, rfl, Nat.zero_le _, rfl, fun x hx => by simp at hx⟩, ?_⟩
 rintro jk i k w1 ⟨rfl, j, rfl, hj, rfl, hs⟩
 refine ⟨fun hlt => ?_, fun hge => ?_⟩
 ·have hlt : j < xss.length := by have := of_decide_eq_true hlt; omega
  have hlu : j < us.length := by rw [ha.length]; exact hlt
  have hrow := ha.get j hlu hlt
  obtain ⟨o1, c1, hu, hc1, hc2, hr1⟩ := hrow
  have hmem := List.getElem_mem hlt
  refine ⟨⟨by omega, by omega⟩, hr.at (j := (j : Int).toNat * 1) (v := us[j]) (by simp [hlu]) fun p hp => ?_⟩
  rw [hu] at hp
  refine ⟨_, _, _, hp, fun hne => ⟨_, rfl, ⟨(fun e => (by cases e)), fun hall => ?_⟩, rfl⟩, fun heq => step_call (ContainsR_spec hr1 (Nat.le_trans hc1 hc2) c1) ?_⟩
  ·have hne : ¬ ((xss[j].length : Nat) : Int) = d := by simpa using hne
   exact absurd (hall.2 _ hmem).1 hne
  ·have heq : ((xss[j].length : Nat) : Int) = d := by simpa using heq
   rintro v w2 ⟨bv, rfl, hbv, rfl⟩
   refine ⟨_, rfl, fun hb => ⟨_, rfl, ⟨(fun e => (by cases e)), fun hall => ?_⟩, rfl⟩, fun hb => ?_⟩
   ·have := hbv.2 (hall.2 _ hmem).2
    rw [this] at hb; cases hb
   ·refine ⟨xss.length - (j + 1), by omega, rfl, j + 1, by rw [wrap_id (by omega) (by unfold maxLen at hml; omega)]; rfl, hlt, rfl, fun x hx => ?_⟩
    rw [take_snoc xss j hlt] at hx
    rcases List.mem_append.1 hx with hx | hx
    ·exact hs x hx
    ·rw [List.mem_singleton] at hx; subst hx; exact ⟨heq, hbv.1 hb⟩
 ·have : j = xss.length := by have := of_decide_eq_false hge; omega
  subst this
  rw [List.take_length] at hs
  refine ⟨_, rfl, ⟨fun h => ⟨eq_of_beq h, hs⟩, fun h => ?_⟩, rfl⟩
  rw [h.1]; exact beq_self_eq_true _
theorem Good_spec (h : BrK w bb c wt) {p : Value × Value} {e : Ent} (he : EV w p e F) : Calls Tryz.prog i_step_Good #[.pointer (some ⟨bb, 0, none⟩), .agg #[p.1, p.2]] w (Ret fun v w' => ∃ bv : Bool, v = .bool bv ∧ (bv = true ↔ goodE c e) ∧ Ch Non w w') := by
 obtain ⟨a, b⟩ := p
 obtain ⟨h1, h2⟩ := he
 have k1 := h1
 have k2 := h2
 obtain ⟨o1, c1, vs1, rfl, _⟩ := h1
 obtain ⟨o2, c2, vs2, rfl, _⟩ := h2
 dsimp only at k1 k2 ⊢
 have hbl := h.ok.2.2.2.1
 have hdm := h.ok.2.1
 have hbr : Blk w bb (cfE c ++ [.string wt]) t_brain_Brain := h.r
 refine step_Good.calls _ _ _ _ _ _ _ ?_
 unfold step_Good.vc
 intro w1 e1
 have hA : Blk w1 w.heap.size [.slice o1 e.1.length c1, .slice o2 e.2.length c2] t_step_Entry := Blk.new e1
 have hc1 : Ch Non w w1 := Ch.alloc e1
 have hbr1 := hbr.keepN hc1
 refine ⟨fun w' => Ch Non w1 w', fun w2 e2 => ⟨Ch.drew e2, _, _, _, fun w' k => (hA.keepN k).cell 0 rfl, _, fun w' k => (hbr1.keepN k).cell 3 rfl, _, fun w' k => (hbr1.keepN k).cell 1 rfl, ?_⟩⟩
 have hd : Ch Non w1 w2 := Ch.drew e2
 have hc2 := hc1.andN hd
 refine step_call (isRows_spec (k1.keepN hc2) c.blocks c.dim) ?_
 rintro v w6 ⟨b1, rfl, hb1, rfl⟩
 rw [rowsI_nat (by omega) (by omega)] at hb1
 refine ⟨_, rfl, hd, fun hb => ?_, fun hb => ⟨_, rfl, ⟨(fun h => (by cases h)), fun hg => ?_⟩, hc2⟩⟩
 ·refine ⟨_, _, _, fun w' k => (hA.keepN k).cell 1 rfl, _, fun w' k => (hbr1.keepN k).cell 3 rfl, _, (hbr1.keepN hd).cell 1 rfl, hd, step_call (isRows_spec (k2.keepN hc2) c.blocks c.dim) ?_⟩
  rintro v w9 ⟨b2, rfl, hb2, rfl⟩
  rw [rowsI_nat (by omega) (by omega)] at hb2
  exact ⟨_, rfl, hd, _, rfl, ⟨fun h => ⟨hb1.1 hb, hb2.1 h⟩, fun hg => hb2.2 hg.2⟩, hc2⟩
 ·have := hb1.2 hg.1
  rw [this] at hb; cases hb
theorem check_c1_spec {c0 : Nat} {T : Nat} (hC : Blk w c0 [.pointer (some ⟨bb, 0, none⟩)] T) (h : BrK w bb c wt) {p : Value × Value} {e : Ent} (he : EV w p e F) : Calls Tryz.prog i_step_check_c1 #[.agg #[p.1, p.2], .pointer (some ⟨c0, 0, none⟩)] w (Ret fun v w' => ∃ bv : Bool, v = .bool bv ∧ (bv = false ↔ goodE c e) ∧ Ch Non w w') := by
 have he' := he
 obtain ⟨a, b⟩ := p
 obtain ⟨h1, h2⟩ := he
 obtain ⟨o1, c1, vs1, rfl, _⟩ := h1
 obtain ⟨o2, c2, vs2, rfl, _⟩ := h2
 refine step_check_c1.calls _ _ _ _ _ _ _ ?_
 unfold step_check_c1.vc
 intro w1 e1
 have hA : Blk w1 w.heap.size [.slice o1 e.1.length c1, .slice o2 e.2.length c2] t_step_Entry := Blk.new e1
 have hc1 : Ch Non w w1 := Ch.alloc e1
 refine ⟨_, (hC.keepN hc1).cell 0 rfl, _, _, _, _, _, _, ⟨hA.cell 0 rfl, hA.cell 1 rfl⟩, step_call (Good_spec (p := (.slice o1 e.1.length c1, .slice o2 e.2.length c2)) (h.keepN hc1) (he'.keepN hc1)) ?_⟩
 rintro v w2 ⟨bv, rfl, hb, hc2⟩
 refine ⟨_, rfl, _, rfl, ?_, hc1.andN hc2⟩
 rw [← hb]
 cases bv <;> simp
theorem ContainsE_spec {c0 : Nat} {T : Nat} (hC : Blk w c0 [.pointer (some ⟨bb, 0, none⟩)] T) (h : BrK w bb c wt) (hp : PV w v past F) : Calls Tryz.prog 148 #[v, .func (.func i_step_check_c1) #[] #[.pointer (some ⟨c0, 0, none⟩)]] w (Ret fun v w' => ∃ bv : Bool, v = .bool bv ∧ (bv = false ↔ ∀ e ∈ past, goodE c e) ∧ Ch Non w w') := by
 obtain ⟨po, pc, ps, rfl, hpc, hpm, hpr, hpa⟩ := hp
 have hml : past.length ≤ maxLen := Nat.le_trans hpc hpm
 refine slices_ContainsFunc.calls_ck _ _ _ _ ?_
 unfold slices_ContainsFunc.vc_ck
 have hi : Calls Tryz.prog 177 #[.slice po past.length pc, .func (.func i_step_check_c1) #[] #[.pointer (some ⟨c0, 0, none⟩)]] w (Ret fun v w' => ∃ x : Int, v = .int .i64 x ∧ (x < 0 ↔ ∀ e ∈ past, goodE c e) ∧ Ch Non w w') := by
  refine slices_IndexFunc.calls_ck _ _ _ _ ?_
  unfold slices_IndexFunc.vc_ck
  refine ⟨fun i k w' => Ch Non w w' ∧ ∃ j : Nat, i = j ∧ j ≤ past.length ∧ k = past.length - j ∧ ∀ e ∈ past.take j, goodE c e, ⟨_, Ch.refl _ _, 0, rfl, Nat.zero_le _, rfl, fun x hx => by simp at hx⟩, ?_⟩
  rintro jk i k w1 ⟨hc1, j, rfl, hj, rfl, hs⟩
  refine ⟨fun hlt => ?_, fun hge => ?_⟩
  ·have hlt : j < past.length := by have := of_decide_eq_true hlt; omega
   have hlp : j < ps.length := by rw [hpa.length]; exact hlt
   have hE := hpa.get j hlp hlt
   have hmem := List.getElem_mem hlt
   have htk := take_snoc past j hlt
   generalize past[j] = e at hE hmem htk
   refine ⟨⟨by omega, by omega⟩, ?_⟩
   rw [Int.toNat_natCast]
   refine Rd.pair (hpr.keepN hc1) hlp fun p h1 h2 => ?_
   generalize ps[j] = pr at hE h1 h2
   have hE' := hE
   obtain ⟨a, b⟩ := pr
   obtain ⟨g1, g2⟩ := hE
   obtain ⟨o1, c1, vs1, rfl, _⟩ := g1
   obtain ⟨o2, c2, vs2, rfl, _⟩ := g2
   refine ⟨_, _, _, _, _, _, ⟨h1, h2⟩, step_call (check_c1_spec (p := (.slice o1 e.1.length c1, .slice o2 e.2.length c2)) (hC.keepN hc1) (h.keepN hc1) (hE'.keepN hc1)) ?_⟩
   rintro v w2 ⟨bv, rfl, hbv, hc2⟩
   refine ⟨_, rfl, fun hb => ⟨_, rfl, ?_, hc1.andN hc2⟩, fun hb => ?_⟩
   ·constructor
    ·intro h; omega
    ·intro hall
     have := hbv.2 (hall _ hmem)
     rw [this] at hb; cases hb
   ·refine ⟨past.length - (j + 1), by omega, hc1.andN hc2, j + 1, by rw [wrap_id (by omega) (by unfold maxLen at hml; omega)]; rfl, hlt, rfl, fun x hx => ?_⟩
    rw [htk] at hx
    rcases List.mem_append.1 hx with hx | hx
    ·exact hs x hx
    ·rw [List.mem_singleton] at hx; subst hx; exact hbv.1 hb
  ·have : j = past.length := by have := of_decide_eq_false hge; omega
   subst this
   rw [List.take_length] at hs
   exact ⟨_, rfl, ⟨fun _ => hs, fun _ => by decide⟩, hc1⟩
 refine step_call hi ?_
 rintro v w1 ⟨x, rfl, hx, hc1⟩
 refine ⟨_, rfl, _, rfl, ?_, hc1⟩
 rw [← hx]
 constructor
 ·intro h; have := of_decide_eq_false h; omega
 ·intro h; exact decide_eq_false (by omega)
theorem check_spec (h : BrK w bb c wt) (hp : PV w v past F) : Calls Tryz.prog i_step_check #[.pointer (some ⟨bb, 0, none⟩), v] w (Ret fun v w' => Ch Non w w' ∧ ((∀ e ∈ past, goodE c e) → v = .int .i64 0) ∧ (¬ (∀ e ∈ past, goodE c e) → v = .int .i64 1)) := by
 have hp' := hp
 obtain ⟨po, pc, ps, rfl, _⟩ := hp
 refine step_check.calls _ _ _ _ ?_
 unfold step_check.vc
 intro w1 e1
 have hC := Blk.new e1
 have hc1 : Ch Non w w1 := Ch.alloc e1
 refine ⟨_, hC.cell 0 rfl, iteF rfl (step_call (ContainsE_spec hC (h.keepN hc1) (hp'.keepN hc1)) ?_)⟩
 rintro v w2 ⟨bv, rfl, hb, hc2⟩
 refine ⟨_, rfl, fun ht => ⟨hc1.andN hc2, fun hg => ?_, fun _ => rfl⟩, fun hf => ⟨hc1.andN hc2, fun _ => rfl, fun hn => absurd (hb.1 hf) hn⟩⟩
 have := hb.2 hg
 rw [this] at ht; cases ht
theorem isToken_spec (h : BrK w bb c wt) (n : Int) : Calls Tryz.prog i_step_isToken #[.pointer (some ⟨bb, 0, none⟩), .int .i64 n] w (Ret fun v w' => v = .bool (decide (0 ≤ n ∧ n < c.vocab)) ∧ w' = w) := by
 have hbr : Blk w bb (cfE c ++ [.string wt]) t_brain_Brain := h.r
 refine step_isToken.calls _ _ ?_
 unfold step_isToken.vc
 refine ⟨fun h1 => ⟨_, hbr.cell 0 rfl, ?_, rfl⟩, fun h1 => ⟨?_, rfl⟩⟩
 ·have h1 := of_decide_eq_true h1
  congr 1
  exact decide_eq_decide.2 ⟨fun h => ⟨h1, h⟩, fun h => h.2⟩
 ·have h1 := of_decide_eq_false h1
  rw [decide_eq_false (fun h => h1 h.1)]
def nilE (n : Int) : Value := .tuple #[.agg #[.slice none 0 0, .slice none 0 0], .slice none 0 0, .int .i64 n]
structure StepR (c : CfD) (wt : ByteArray) (past : List Ent) (token : Int) (w : World) (v : Value) (w' : World) : Prop where
 ch : Ch Non w w'
 bad : ¬ (∀ e ∈ past, goodE c e) → v = nilE 1
 rng : (∀ e ∈ past, goodE c e) → ¬ (0 ≤ token ∧ token < c.vocab) → v = nilE 3
 long : (∀ e ∈ past, goodE c e) → (0 ≤ token ∧ token < c.vocab) → ¬ (past.length : Int) < c.context → v = nilE 12
 yes : (∀ e ∈ past, goodE c e) → (0 ≤ token ∧ token < c.vocab) → (past.length : Int) < c.context → ∃ (p : Value × Value) (u : Value), v = .tuple #[.agg #[p.1, p.2], u, .int .i64 0] ∧ EV w' p (stepE c wt past token) (New w w') ∧ IV w' u (stepL c wt past token) (New w w')
set_option maxHeartbeats 4000000 in
theorem Step_spec (h : BrK w bb c wt) (hp : PV w v past F) (token : Int) : Calls Tryz.prog i_step_Step #[.pointer (some ⟨bb, 0, none⟩), v, .int .i64 token] w (Ret (StepR c wt past token w)) := by
 have m : Md c wt := ⟨h.ok, h.sz⟩
 have hp' := hp
 obtain ⟨po, pc, ps, rfl, _⟩ := hp
 have hctx := m.ok.2.2.2.2.2.1
 have hbl := m.ok.2.2.2.1
 have hbr : Blk w bb (cfE c ++ [.string wt]) t_brain_Brain := h.r
 refine step_Step.calls _ _ _ _ _ ?_
 unfold step_Step.vc
 intro w1 e1
 have hE1 := Blk.new e1
 have hc1 : Ch Non w w1 := Ch.alloc e1
 have hs1 := hE1.lt
 refine step_call (check_spec (h.keepN hc1) (hp'.keepN hc1)) ?_
 rintro v w2 ⟨hc2, hy, hno⟩
 by_cases hgood : ∀ e ∈ past, goodE c e
 case neg =>
  rw [hno hgood]
  have hcx := hc2
  refine ⟨_, rfl, fun _ => ?_, fun hf => by cases hf⟩
  have hE := hE1.keepN hcx
  refine ⟨⟨hE.ok 0 rfl, hE.ok 1 rfl⟩, fun w3 e3 => ?_⟩
  have e3' : w3 = _ := e3
  have hE3 := (hE.set (o := 0) rfl).set e3'
  have hc3 : Ch (· = w.heap.size) _ w3 := Ch.set2 (F := (· = w.heap.size)) e3 rfl rfl
  refine ⟨_, _, _, _, _, _, ⟨hE3.cell 0 rfl, hE3.cell 1 rfl⟩, ?_⟩
  have hcf : Ch Non w w3 := (hc1.andN hcx).trans hc3 (fun i hi he => by omega)
  exact ⟨hcf, fun _ => rfl, fun k => absurd k hgood, fun k => absurd k hgood, fun k => absurd k hgood⟩
 rw [hy hgood]
 refine ⟨_, rfl, iteF rfl (step_call (isToken_spec ((h.keepN hc1).keepN hc2) token) ?_)⟩
 rintro v w4 ⟨rfl, rfl⟩
 by_cases htok : 0 ≤ token ∧ token < c.vocab
 case neg =>
  rw [decide_eq_false htok]
  have hcx := hc2
  refine ⟨_, rfl, fun _ => ?_, fun hf => by cases hf⟩
  have hE := hE1.keepN hcx
  refine ⟨⟨hE.ok 0 rfl, hE.ok 1 rfl⟩, fun w3 e3 => ?_⟩
  have e3' : w3 = _ := e3
  have hE3 := (hE.set (o := 0) rfl).set e3'
  have hc3 : Ch (· = w.heap.size) _ w3 := Ch.set2 (F := (· = w.heap.size)) e3 rfl rfl
  refine ⟨_, _, _, _, _, _, ⟨hE3.cell 0 rfl, hE3.cell 1 rfl⟩, ?_⟩
  have hcf : Ch Non w w3 := (hc1.andN hcx).trans hc3 (fun i hi he => by omega)
  exact ⟨hcf, fun k => absurd hgood k, fun _ _ => rfl, fun _ k => absurd k htok, fun _ k => absurd k htok⟩
 rw [decide_eq_true htok]
 have hc02 := hc1.andN hc2
 refine ⟨_, rfl, iteF rfl ⟨_, (hbr.keepN hc02).cell 5 rfl, fun hlong => ?_, fun hlong => ?_⟩⟩
 ·have hlong := of_decide_eq_true hlong
  have hcx := hc2
  have hE := hE1.keepN hcx
  refine ⟨⟨hE.ok 0 rfl, hE.ok 1 rfl⟩, fun w3 e3 => ?_⟩
  have e3' : w3 = _ := e3
  have hE3 := (hE.set (o := 0) rfl).set e3'
  have hc3 : Ch (· = w.heap.size) _ w3 := Ch.set2 (F := (· = w.heap.size)) e3 rfl rfl
  refine ⟨_, _, _, _, _, _, ⟨hE3.cell 0 rfl, hE3.cell 1 rfl⟩, ?_⟩
  have hcf : Ch Non w w3 := (hc1.andN hcx).trans hc3 (fun i hi he => by omega)
  exact ⟨hcf, fun k => absurd hgood k, fun _ k => absurd htok k, fun _ _ _ => rfl, fun _ _ k => absurd hlong (by omega)⟩
 have hlong : (past.length : Int) < c.context := by have := of_decide_eq_false hlong; omega
 intro w7 e7
 have hWb : Blk w7 w4.heap.size [.pointer (some ⟨bb, 0, none⟩), .slice po past.length pc, .slice none 0 0, .slice none 0 0, .slice none 0 0] t_step_walk := Blk.new e7
 have hc47 : Ch Non w4 w7 := Ch.alloc e7
 have hbr4 := h.keepN hc02
 have hpv4 := hp'.keepN hc02
 have hb7 := hWb.lt
 obtain ⟨wb, hwbd⟩ : ∃ wb : Nat, wb = w4.heap.size := ⟨_, rfl⟩
 rw [← hwbd] at hWb hb7 ⊢
 have hs02 := hc2.size
 refine step_call (Row_spec (hbr4.keepN hc47) (okPB_1 c) (past.length : Int)) ?_
 rintro v w8 ⟨hv8, hc8⟩
 have hvp := hv8
 obtain ⟨o8, c8, rfl, _⟩ := hv8
 refine ⟨_, _, _, rfl, step_call (Row_spec ((hbr4.keepN hc47).keepN hc8) (okPB_0 c) token) ?_⟩
 rintro v w9 ⟨hv9, hc9⟩
 have hvt := hv9
 obtain ⟨o9, c9, rfl, _⟩ := hv9
 have hvp9 := hvp.keepN hc9
 obtain ⟨ht1, ht2, ht3⟩ := begin_len m (k := past.length) hlong htok
 have hc79 := hc8.andN hc9
 have hWb9 := hWb.keepN hc79
 have hs9 := hc79.size
 have hdm := m.ok.2.1
 obtain ⟨tr, htr⟩ : ∃ tr : List Int, rowP c wt 0 0 token = tr := ⟨_, rfl⟩
 obtain ⟨pr, hpr⟩ : ∃ pr : List Int, rowP c wt 1 0 (past.length : Int) = pr := ⟨_, rfl⟩
 have htr8 : ∀ x ∈ tr, -128 ≤ x ∧ x ≤ 127 := htr ▸ row_8
 have hpr8 : ∀ x ∈ pr, -128 ≤ x ∧ x ≤ 127 := hpr ▸ row_8
 have hbeg : beginP c wt past.length token = List.zipWith beginE tr pr := by unfold beginP; rw [htr, hpr]
 rw [htr] at hvt ht1
 rw [hpr] at hvp9 ht2
 rw [htr]
 rw [hpr]
 obtain ⟨L, hL⟩ : ∃ L : List Int, beginP c wt past.length token = L := ⟨_, rfl⟩
 rw [hL] at hbeg ht3
 have hLa : ∀ (j : Nat) (hj : j < L.length), L[j] = beginE (tr[j]'(by omega)) (pr[j]'(by omega)) := fun j hj => by subst hbeg; rw [List.getElem_zipWith]
 obtain ⟨o9', c9', e9', _, _, hrt⟩ := hvt
 injection e9' with q1 q2 q3
 subst q1
 obtain ⟨o8', c8', e8', _, _, hrp⟩ := hvp9
 injection e8' with q1 q2 q3
 subst q1
 have htl : tr.length = L.length := by omega
 have hplen : pr.length = L.length := by omega
 refine ⟨_, _, _, rfl, fun i k w' => ∃ (j : Nat) (ox : Option Addr) (cx : Nat) (X : Nat → Prop), i = j ∧ j ≤ L.length ∧ k = L.length - j ∧ Blk w' wb [.pointer (some ⟨bb, 0, none⟩), .slice po past.length pc, .slice ox j cx, .slice none 0 0, .slice none 0 0] t_step_walk ∧ V.Own w' t_int 1 ox j cx ((L.take j).map (.int .i64)) X ∧ (∀ i, X i → New w9 w' i) ∧ Ch (· = wb) w9 w', ⟨_, 0, none, 0, Non, rfl, Nat.zero_le _, rfl, hWb9, V.Own.nil _ _ _ _, fun i hi => hi.elim, Ch.refl _ _⟩, ?_⟩
 rintro jk i k w10 ⟨j, ox, cx, X, rfl, hj, rfl, hB10, hX, hXn, hc10⟩
 have hs10 := hc10.size
 refine ⟨fun hlt => ?_, fun hge => ?_⟩
 ·have hlt : j < L.length := by have := of_decide_eq_true hlt; rw [htl] at this; omega
  have hjt : j < tr.length := by omega
  have hjp : j < pr.length := by omega
  have hrt10 := hrt.keep hc10 (fun i _ hi he => by have := hi.1; have := hc8.size; omega)
  have hrp10 := hrp.keep hc10 (fun i _ hi he => by have := hi.1; omega)
  have hwX : ¬ X wb := fun k => by have := (hXn _ k).1; omega
  have hte := htr8 _ (List.getElem_mem hjt)
  have hpe := hpr8 _ (List.getElem_mem hjp)
  have hLj := hLa j hlt
  rw [htl, hplen, Int.toNat_natCast]
  refine ⟨⟨by omega, by omega⟩, hrt10.at (j := j * 1) (v := .int .i64 tr[j]) (by simp [hjt]) fun p hp => ⟨_, hp, fun w' => Ch X w10 w', fun w11 e11 => ⟨Ch.drew e11, _, _, _, fun w' k => (hB10.keep k hwX).cell 2 rfl, ⟨by omega, by omega⟩, ?_⟩⟩⟩
  refine Rd.keeps (S := fun w' => Ch X w10 w') (F := New w7 w8) (enc := Value.int .i64) (xs := pr) (fun w' k => (hrp10.keep k (fun i _ hi hx => by have := (hXn i hx).1; have := hi.2; have := hc9.size; omega))) (Ch.refl _ _) (j := j * 1) (by omega) fun p2 hp2 => ⟨_, hp2, ?_⟩
  simp only [Nat.mul_one]
  rw [wrap_id (x := tr[j] + pr[j]) (by omega) (by omega), wrap_id (x := 16 * (tr[j] + pr[j])) (by omega) (by omega)]
  refine step_call (Sat_spec w11 _) ?_
  rintro v w14 ⟨rfl, rfl⟩
  have hbe : sat (16 * (tr[j] + pr[j])) = L[j] := by rw [hLj]; rfl
  rw [hbe]
  have hd : Ch Non w10 w14 := Ch.drew e11
  refine ⟨_, rfl, hd.any, fun w15 e15 => ⟨(hd.andN (Ch.alloc e15)).any, ?_⟩⟩
  obtain ⟨o16, c16, w16, r16, hX16, hc16⟩ := V.Own.pushT (enc := fun x : Int => Value.int .i64 x) (xs := L.take j) el_S_int (hX.keepN hd) t_S_int L[j] e15 rfl (by unfold maxLen; omega) (by omega)
  rw [← take_snoc L j hlt] at hX16
  have hc1016 : Ch X w10 w16 := hd.any.same hc16
  have hB16 := hB10.keep hc1016 hwX
  have hsd := hd.size
  have hs16 := hc16.size
  refine ⟨o16, _, c16, w16, r16, hc1016, hB16.ok 2 rfl, fun w17 e17 => ?_⟩
  have hB17 := hB16.set e17
  have hs17 : w17.heap.size = w16.heap.size := by subst e17; simp [World.setCell]
  have hX17 : ∀ i, Ext X w14 w16 i → New w9 w17 i := fun i hi => by
   rcases hi with hi | hi
   ·exact ⟨(hXn i hi).1, by have := (hXn i hi).2; omega⟩
   ·exact ⟨by have := hi.1; omega, by have := hi.2; omega⟩
  refine ⟨L.length - (j + 1), by omega, j + 1, o16, c16, _, by rw [wrap_id (by omega) (by omega)]; rfl, hlt, rfl, hB17, hX16.keep (Ch.set (F := (· = wb)) e17 rfl) (fun i _ hi he => by have := (hX17 i hi).1; omega), hX17, ?_⟩
  exact (hc10.trans hc1016 (fun i hi hx => by have := (hXn i hx).1; omega)).same (Ch.set e17 rfl)
 ·have hge : j = L.length := by have := of_decide_eq_false hge; rw [htl] at this; omega
  subst hge
  rw [List.take_length] at hX
  have hc49 := hc47.andN hc79
  have hc410 : Ch Non w4 w10 := hc49.trans hc10 (fun i hi he => by omega)
  have hs49 := hc49.size
  have hs47 := hc47.size
  have hx10 : IV w10 (.slice ox L.length cx) L (RR w4 w10 wb Non Non) := (Own.iv hX).mono (fun i hi h => ⟨⟨by have := (hXn i h).1; omega, hi⟩, by have := (hXn i h).1; omega, id, id⟩)
  have hst0 : WkR w4 w10 wb bb (.slice po past.length pc) ⟨L, [], []⟩ Non Non := ⟨⟨_, none, 0, [], none, 0, [], hB10, hx10, V.Own.nil _ _ _ _, .nil, V.Own.nil _ _ _ _, .nil⟩, fun i hi => hi.elim, fun i hi => hi.elim, ⟨by omega, by omega⟩, hc410⟩
  have ok0 : WkOk c 0 ⟨L, [], []⟩ := ⟨ht3, ⟨rfl, fun r hr => (by cases hr)⟩, ⟨rfl, fun r hr => (by cases hr)⟩⟩
  have hbr10 : Blk w10 bb (cfE c ++ [.string wt]) t_brain_Brain := (hbr4.keepN hc410).r
  refine ⟨_, hbr10.cell 3 rfl, fun i k w' => ∃ (j : Nat) (A B : Nat → Prop), i = j ∧ j ≤ c.blocks.toNat ∧ k = c.blocks.toNat - j ∧ WkR w4 w' wb bb (.slice po past.length pc) (blocksTo c wt past ⟨L, [], []⟩ j) A B, ⟨_, 0, Non, Non, rfl, Nat.zero_le _, rfl, hst0⟩, ?_⟩
  rintro jk i k w18 ⟨j, A, B, rfl, hj, rfl, hst⟩
  have okj := blocks_ok m hgood ok0 j (by omega)
  refine ⟨fun hlt => ?_, fun hge => ?_⟩
  ·have hlt : (j : Int) < c.blocks := of_decide_eq_true hlt
   refine step_call (look_spec m hst hbr4 hpv4 hgood (by omega) okj hlt) ?_
   rintro v w19 ⟨rfl, A', B', hst19⟩
   refine ⟨rfl, step_call (think_spec m hst19 hbr4 (look_ok m hlt okj hgood) hlt) ?_⟩
   rintro v w20 ⟨rfl, hst20⟩
   exact ⟨rfl, c.blocks.toNat - (j + 1), by omega, j + 1, A', B', by rw [wrap_id (by omega) (by omega)]; rfl, by omega, rfl, hst20⟩
  ·have hge : j = c.blocks.toNat := by have := of_decide_eq_false hge; omega
   subst hge
   have hsd : blocksTo c wt past ⟨L, [], []⟩ c.blocks.toNat = stepS c wt past token := by unfold stepS; rw [hL]
   rw [hsd] at hst okj
   have hst' := hst
   obtain ⟨⟨xv, oK, cK, uK, oV, cV, uV, g1, g2, g3, g4, g5, g6⟩, ga, gb, gn, gch⟩ := hst
   have hs418 := gch.size
   have hEb : Blk w18 w.heap.size _ t_step_Entry := ((hE1.keepN hc2)).keepN gch
   have hwne : wb ≠ w.heap.size := by omega
   refine ⟨fun w' => Ch (· = w.heap.size) w18 w', fun w21 e21 => ⟨Ch.drew e21, _, _, _, _, _, _, ⟨fun w' k => (g1.keep k hwne).cell 3 rfl, fun w' k => (g1.keep k hwne).cell 4 rfl⟩, ?_⟩⟩
   have hd : Ch Non w18 w21 := Ch.drew e21
   refine step_call (scores_spec m (hst'.keepN hd) hbr4 okj) ?_
   rintro v w23 ⟨hv23, hc23⟩
   have hsc := hv23
   obtain ⟨o23, c23, rfl, _⟩ := hv23
   have hc1823 := hd.andN hc23
   have hE23 := hEb.keepN hc1823
   refine ⟨_, _, _, rfl, hc1823.any, ⟨hE23.ok 0 rfl, hE23.ok 1 rfl⟩, fun w24 e24 => ?_⟩
   have hE24 := (hE23.set (o := 0) rfl).set e24
   have hc2324 : Ch (· = w.heap.size) w23 w24 := Ch.set2 (F := (· = w.heap.size)) e24 rfl rfl
   have hs24 := hc2324.size
   have hs1823 := hc1823.size
   have hcAll : Ch Non w w24 := ((hc02.andN gch).andN hc1823).trans hc2324 (fun i hi he => by omega)
   refine ⟨_, _, _, _, _, _, ⟨hE24.cell 0 rfl, hE24.cell 1 rfl⟩, hcAll, fun k => absurd hgood k, fun _ k => absurd htok k, fun _ _ k => absurd hlong k, fun _ _ _ => ⟨(_, _), _, rfl, ⟨?_, ?_⟩, ?_⟩⟩
   ·have hrv : RV w18 (.slice oK (stepS c wt past token).K.length cK) (stepS c wt past token).K (fun i => New w4 w18 i) := ⟨_, _, _, rfl, g3.2.1, g3.2.2.1, g3.rd.mono (fun i _ h => (ga i h).1), g4.imp (fun u xs k => k.mono (fun i _ h => h.1))⟩
    exact ((hrv.keepN hc1823).keep hc2324 (fun i _ hi he => by have := hi.1; omega)).mono (fun i _ hi => ⟨by have := hi.1; omega, by have := hi.2; omega⟩)
   ·have hrv : RV w18 (.slice oV (stepS c wt past token).V.length cV) (stepS c wt past token).V (fun i => New w4 w18 i) := ⟨_, _, _, rfl, g5.2.1, g5.2.2.1, g5.rd.mono (fun i _ h => (gb i h).1), g6.imp (fun u xs k => k.mono (fun i _ h => h.1))⟩
    exact ((hrv.keepN hc1823).keep hc2324 (fun i _ hi he => by have := hi.1; omega)).mono (fun i _ hi => ⟨by have := hi.1; omega, by have := hi.2; omega⟩)
   ·exact (hsc.keep hc2324 (fun i _ hi he => by have := hi.1; have := hd.size; omega)).mono (fun i _ hi => ⟨by have := hi.1; have := hd.size; omega, by have := hi.2; omega⟩)
end
end Go.Proofs.YtkbikekbaboclaaGreat.Stp
