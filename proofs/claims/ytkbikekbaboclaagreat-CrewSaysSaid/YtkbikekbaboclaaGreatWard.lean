import Derived.Test.YtkbikekbaboclaaGreatIns
import Derived.Test.YtkbikekbaboclaaGreatPkB
import Derived.Test.YtkbikekbaboclaaGreatVcWard
set_option linter.unusedVariables false
set_option linter.unusedSimpArgs false
namespace Go.Proofs.YtkbikekbaboclaaGreat.Ward
open Go Go.Proofs V Vc Conf Go.RowKit
theorem take_snoc {α : Type} (l : List α) (j : Nat) (h : j < l.length) : l.take (j + 1) = l.take j ++ [l[j]] := List.take_succ_eq_append_getElem h
section
variable {w : World} {o ob : Option Addr} {c cb : Nat} {xs ys : List Int} {F G : Nat → Prop}
theorem Clone_spec (h : Rd w o (xs.map (.int .i64)) G) (hl : xs.length ≤ 1000000) (c : Nat) : Calls Tryz.prog i_slices_Clone #[.slice o xs.length c] w (Ret fun v w' => ∃ (o' : Option Addr) (c' : Nat), v = .slice o' xs.length c' ∧ Rd w' o' (xs.map (.int .i64)) (New w w') ∧ Ch Non w w') := by
 refine slices_Clone.calls _ _ _ ?_
 unfold slices_Clone.vc
 refine ⟨fun hn => ?_, fun hn w1 e1 => ?_⟩
 ·have hx : xs = [] := by
   cases xs with
   | nil => rfl
   | cons x r =>
    obtain ⟨a, ha, _⟩ := h 0 (.int .i64 x) rfl
    rw [ha] at hn; cases hn
  subst hx
  exact ⟨none, 0, rfl, Rd.nil _ _ _, Ch.refl _ _⟩
 ·have hg : Gr Non w w1 t_int 1 (some ⟨w.heap.size, 0, none⟩) 0 0 [] := Gr.made0 (Ch.refl _ _) e1
  obtain ⟨o', c', w', hr, hg', _⟩ := Gr.app (c2 := c) (m := xs.length) el_S_int hg t_S_int (h.keepN (Ch.alloc e1)) (by simp) (fun u hu => by
   obtain ⟨x, _, rfl⟩ := List.mem_map.1 hu
   rfl) (by omega) (by omega)
  rw [Nat.zero_add, List.nil_append] at hg'
  rw [Nat.zero_add] at hr
  exact ⟨_, _, _, w', hr, o', c', rfl, hg'.rd, hg'.2⟩
theorem Equal_spec (ha : Rd w o (xs.map (.int .i64)) F) (hb : Rd w ob (ys.map (.int .i64)) G) (hl : xs.length ≤ 1000000000) (c cb : Nat) :
  Calls Tryz.prog i_slices_Equal #[.slice o xs.length c, .slice ob ys.length cb] w (Ret fun v w' => v = .bool (decide (xs = ys)) ∧ Ch Non w w') := by
 refine slices_Equal.calls _ _ _ _ _ _ ?_
 unfold slices_Equal.vc
 refine ⟨fun h => ?_, fun h => ?_⟩
 ·have h : xs.length ≠ ys.length := by simp at h; omega
  exact ⟨by rw [decide_eq_false (fun e => h (by rw [e]))], Ch.refl _ _⟩
 have h : xs.length = ys.length := by simp at h; omega
 refine ⟨fun i k w' => ∃ j : Nat, i = j ∧ j ≤ xs.length ∧ k = xs.length - j ∧ xs.take j = ys.take j ∧ Ch Non w w', ⟨_, 0, rfl, Nat.zero_le _, rfl, rfl, Ch.refl _ _⟩, ?_⟩
 rintro jk i k w1 ⟨j, rfl, hj, rfl, he, hc⟩
 refine ⟨fun hlt => ?_, fun hge => ?_⟩
 ·have hlt : j < xs.length := by simpa using hlt
  have hlt2 : j < ys.length := by omega
  refine ⟨fun w2 => Ch Non w w2, fun w2 e2 => ⟨hc.andN (Ch.drew e2), ⟨by omega, by omega⟩, Rd.keeps (j := (j : Int).toNat * 1) (S := fun w2 => Ch Non w w2) (fun w2 h2 => ha.keepN h2) hc (by simpa using hlt) fun p hp => ⟨_, hp, ⟨by omega, by omega⟩,
   Rd.keeps (j := (j : Int).toNat * 1) (S := fun w2 => Ch Non w w2) (fun w2 h2 => hb.keepN h2) hc (by simpa using hlt2) fun p2 hp2 => ⟨_, hp2, fun hne => ?_, fun heq => ?_⟩⟩⟩⟩
  ·refine ⟨?_, hc.andN (Ch.drew e2)⟩
   rw [decide_eq_false]
   intro e
   subst e
   simp at hne
  ·have heq : xs[j] = ys[j] := by simpa using heq
   refine ⟨xs.length - (j + 1), by omega, j + 1, by rw [wrap_id (by omega) (by omega)]; rfl, hlt, rfl, ?_, hc.andN (Ch.drew e2)⟩
   rw [take_snoc xs j hlt, take_snoc ys j hlt2, he, heq]
 ·have : j = xs.length := by simp at hge; omega
  subst this
  rw [List.take_length, h, List.take_length] at he
  exact ⟨by rw [decide_eq_true he], hc⟩
end
structure AskD where
 id : Int
 ver : Int
 prompt : List Int
 most : Int
 draws : List Int
deriving DecidableEq
structure AskP where
 po : Option Addr
 pc : Nat
 qo : Option Addr
 qc : Nat
def askE (q : AskD × AskP) : List Value := [.int .i64 q.1.id, .int .i64 q.1.ver, .slice q.2.po q.1.prompt.length q.2.pc, .int .i64 q.1.most, .slice q.2.qo q.1.draws.length q.2.qc]
def AskR (w : World) (q : AskD × AskP) (D : Nat → Prop) : Prop := Rd w q.2.po (q.1.prompt.map (.int .i64)) D ∧ Rd w q.2.qo (q.1.draws.map (.int .i64)) D ∧ q.1.prompt.length ≤ 1000 ∧ q.1.draws.length ≤ 1000
section
variable {w w' : World} {q q' : AskD × AskP} {D D' G : Nat → Prop}
theorem AskR.keep (h : AskR w q D) (hc : Ch G w w') (hd : ∀ i, i < w.heap.size → D i → ¬ G i) : AskR w' q D := ⟨h.1.keep hc hd, h.2.1.keep hc hd, h.2.2⟩
theorem AskR.keepN (h : AskR w q D) (hc : Ch Non w w') : AskR w' q D := h.keep hc (fun _ _ _ => id)
theorem AskR.mono (h : AskR w q D) (hg : ∀ i, i < w.heap.size → D i → D' i) : AskR w q D' := ⟨h.1.mono hg, h.2.1.mono hg, h.2.2⟩
theorem ask_one (q : AskD × AskP) : ∀ u ∈ askE q, u.oneCell' = true := fun u hu => by
 simp only [askE, List.mem_cons, List.not_mem_nil, or_false] at hu
 rcases hu with rfl | rfl | rfl | rfl | rfl <;> rfl
theorem asks_one (qs : List (AskD × AskP)) : ∀ u ∈ (qs.map askE).flatten, u.oneCell' = true := fun u hu => by
 obtain ⟨l, hl, hu⟩ := List.mem_flatten.1 hu
 obtain ⟨q, _, rfl⟩ := List.mem_map.1 hl
 exact ask_one q u hu
def needN (a : AskD) : Int := if a.most < 1 ∨ a.most > 32 then 0 else Int.tdiv ((a.prompt.length : Int) + a.most + 2) 4
theorem Need_spec (w : World) (q : AskD × AskP) (hl : q.1.prompt.length ≤ 1000000) : Calls Tryz.prog i_ward_Need #[.agg (askE q).toArray] w (Ret fun v w' => v = .int .i64 (needN q.1) ∧ Ch Non w w') := by
 refine ward_Need.calls _ _ _ _ _ _ _ _ _ ?_
 unfold ward_Need.vc
 intro w1 e1
 have hB := Blk.new e1
 have hc : Ch Non w w1 := Ch.alloc e1
 refine ⟨_, hB.cell 3 rfl, fun h => ⟨by unfold needN; rw [if_pos (.inl (of_decide_eq_true h))], hc⟩, fun h => ?_⟩
 refine ⟨_, hB.cell 3 rfl, fun h2 => ⟨by unfold needN; rw [if_pos (.inr (of_decide_eq_true h2))], hc⟩, fun h2 => ?_⟩
 have h := of_decide_eq_false h
 have h2 := of_decide_eq_false h2
 refine ⟨_, _, _, hB.cell 2 rfl, _, hB.cell 3 rfl, by omega, ?_, hc⟩
 have e : IntKind.i64.wrap (Int.tdiv (IntKind.i64.wrap (IntKind.i64.wrap (IntKind.i64.wrap (IntKind.i64.wrap ((q.1.prompt.length : Int) + q.1.most) - 1) + 4) - 1)) 4) = needN q.1 := by
  unfold needN
  rw [if_neg (by omega), wrap_id (x := (q.1.prompt.length : Int) + q.1.most) (by omega) (by omega), wrap_id (x := (q.1.prompt.length : Int) + q.1.most - 1) (by omega) (by omega), wrap_id (x := (q.1.prompt.length : Int) + q.1.most - 1 + 4) (by omega) (by omega), wrap_id (x := (q.1.prompt.length : Int) + q.1.most - 1 + 4 - 1) (by omega) (by omega)]
  have e1 : (q.1.prompt.length : Int) + q.1.most - 1 + 4 - 1 = (q.1.prompt.length : Int) + q.1.most + 2 := by omega
  rw [e1, Int.tdiv_eq_ediv_of_nonneg (by omega), wrap_id (by omega) (by omega)]
 rw [e]
theorem Copy_spec (h : AskR w q D) : Calls Tryz.prog i_ward_Copy #[.agg (askE q).toArray] w (Ret fun v w' => ∃ p : AskP, v = .agg (askE (q.1, p)).toArray ∧ AskR w' (q.1, p) (New w w') ∧ Ch Non w w') := by
 obtain ⟨h1, h2, h3, h4⟩ := h
 refine ward_Copy.calls _ _ _ _ _ _ _ _ _ ?_
 unfold ward_Copy.vc
 intro w1 e1 w2 e2
 have hA := (Blk.new e1).alloc e2
 have hB := Blk.new e2
 have hc2 : Ch Non w w2 := (Ch.alloc e1).andN (Ch.alloc e2)
 have s1 : w.heap.size < w1.heap.size := (Blk.new e1).lt
 have s2 : w1.heap.size < w2.heap.size := hB.lt
 clear e1 e2
 refine ⟨fun w' => ∃ (o4 : Option Addr) (c4 : Nat) (o5 : Option Addr) (c5 : Nat), Blk w' w.heap.size [.int .i64 q.1.id, .int .i64 q.1.ver, .slice o4 q.1.prompt.length c4, .int .i64 q.1.most, .slice o5 q.1.draws.length c5] t_ward_Ask ∧ Blk w' w1.heap.size [.int .i64 0, .int .i64 0, .slice none 0 0, .int .i64 0, .slice none 0 0] t_ward_Ask ∧
  Rd w' o4 (q.1.prompt.map (.int .i64)) (New w2 w') ∧ Rd w' o5 (q.1.draws.map (.int .i64)) (New w2 w') ∧ Ch Non w w', ⟨fun _ => True, fun w3 e3 => ⟨trivial, ⟨_, _, _, (hA.drew e3).cell 2 rfl, trivial, ?_, ⟨_, _, _, (hA.drew e3).cell 4 rfl, trivial, ?_⟩, trivial⟩, ⟨_, _, _, (hA.drew e3).cell 4 rfl, trivial, _, _, _, (hA.drew e3).cell 2 rfl, trivial, ?_⟩, trivial⟩⟩, ?_⟩
 ·have hc3 : Ch Non w w3 := hc2.andN (Ch.drew e3)
  refine step_call (Clone_spec (h1.keepN hc3) (by omega) _) ?_
  rintro v w4 ⟨o4, c4, rfl, hr4, hc4⟩
  refine ⟨_, _, _, rfl, trivial, _, _, _, ((hA.drew e3).keepN hc4).cell 4 rfl, trivial, ?_⟩
  refine step_call (Clone_spec ((h2.keepN hc3).keepN hc4) (by omega) _) ?_
  rintro v w9 ⟨o5, c5, rfl, hr5, hc5⟩
  have hr4 := hr4.keepN hc5
  have hA9 := ((hA.drew e3).keepN hc4).keepN hc5
  have hB9 := ((hB.drew e3).keepN hc4).keepN hc5
  have hc9 := (hc3.andN hc4).andN hc5
  have hs3 : w2.heap.size = w3.heap.size := by subst e3; rfl
  have hs4 := hc4.size
  have hs5 := hc5.size
  refine ⟨_, _, _, rfl, trivial, hA9.ok 2 rfl, fun w6 e6 => ⟨trivial, ?_⟩⟩
  have hA6 := hA9.set e6
  refine ⟨hA6.ok 4 rfl, fun w7 e7 => ⟨trivial, ?_⟩⟩
  have hA7 := hA6.set e7
  have hcs : Ch (· = w.heap.size) w9 w7 := (Ch.set (F := (· = w.heap.size)) (p := ⟨w.heap.size, 2, none⟩) e6 rfl).same (Ch.set (F := (· = w.heap.size)) (p := ⟨w.heap.size, 4, none⟩) e7 rfl)
  have hs79 := hcs.size
  exact ⟨_, _, _, _, hA7, (hB9.keep hcs (by omega)), (hr4.keep hcs (fun i _ hi he => by have := hi.1; omega)).mono (fun i hi hN => ⟨by have := hN.1; omega, hi⟩), (hr5.keep hcs (fun i _ hi he => by have := hi.1; omega)).mono (fun i hi hN => ⟨by have := hN.1; omega, hi⟩), hc9.trans hcs (fun i hi he => by omega)⟩
 ·have hc3 : Ch Non w w3 := hc2.andN (Ch.drew e3)
  refine step_call (Clone_spec (h1.keepN hc3) (by omega) _) ?_
  rintro v w4 ⟨o4, c4, rfl, hr4, hc4⟩
  refine ⟨_, _, _, rfl, trivial, ?_⟩
  refine step_call (Clone_spec ((h2.keepN hc3).keepN hc4) (by omega) _) ?_
  rintro v w9 ⟨o5, c5, rfl, hr5, hc5⟩
  have hr4 := hr4.keepN hc5
  have hA9 := ((hA.drew e3).keepN hc4).keepN hc5
  have hB9 := ((hB.drew e3).keepN hc4).keepN hc5
  have hc9 := (hc3.andN hc4).andN hc5
  have hs3 : w2.heap.size = w3.heap.size := by subst e3; rfl
  have hs4 := hc4.size
  have hs5 := hc5.size
  refine ⟨_, _, _, rfl, trivial, hA9.ok 2 rfl, fun w6 e6 => ⟨trivial, ?_⟩⟩
  have hA6 := hA9.set e6
  refine ⟨hA6.ok 4 rfl, fun w7 e7 => ⟨trivial, ?_⟩⟩
  have hA7 := hA6.set e7
  have hcs : Ch (· = w.heap.size) w9 w7 := (Ch.set (F := (· = w.heap.size)) (p := ⟨w.heap.size, 2, none⟩) e6 rfl).same (Ch.set (F := (· = w.heap.size)) (p := ⟨w.heap.size, 4, none⟩) e7 rfl)
  have hs79 := hcs.size
  exact ⟨_, _, _, _, hA7, (hB9.keep hcs (by omega)), (hr4.keep hcs (fun i _ hi he => by have := hi.1; omega)).mono (fun i hi hN => ⟨by have := hN.1; omega, hi⟩), (hr5.keep hcs (fun i _ hi he => by have := hi.1; omega)).mono (fun i hi hN => ⟨by have := hN.1; omega, hi⟩), hc9.trans hcs (fun i hi he => by omega)⟩
 ·have hc3 : Ch Non w w3 := hc2.andN (Ch.drew e3)
  refine step_call (Clone_spec (h1.keepN hc3) (by omega) _) ?_
  rintro v w4 ⟨o4, c4, rfl, hr4, hc4⟩
  refine ⟨_, _, _, rfl, trivial, ?_⟩
  refine step_call (Clone_spec ((h2.keepN hc3).keepN hc4) (by omega) _) ?_
  rintro v w9 ⟨o5, c5, rfl, hr5, hc5⟩
  have hr4 := hr4.keepN hc5
  have hA9 := ((hA.drew e3).keepN hc4).keepN hc5
  have hB9 := ((hB.drew e3).keepN hc4).keepN hc5
  have hc9 := (hc3.andN hc4).andN hc5
  have hs3 : w2.heap.size = w3.heap.size := by subst e3; rfl
  have hs4 := hc4.size
  have hs5 := hc5.size
  refine ⟨_, _, _, rfl, trivial, hA9.ok 2 rfl, fun w6 e6 => ⟨trivial, ?_⟩⟩
  have hA6 := hA9.set e6
  refine ⟨hA6.ok 4 rfl, fun w7 e7 => ⟨trivial, ?_⟩⟩
  have hA7 := hA6.set e7
  have hcs : Ch (· = w.heap.size) w9 w7 := (Ch.set (F := (· = w.heap.size)) (p := ⟨w.heap.size, 2, none⟩) e6 rfl).same (Ch.set (F := (· = w.heap.size)) (p := ⟨w.heap.size, 4, none⟩) e7 rfl)
  have hs79 := hcs.size
  exact ⟨_, _, _, _, hA7, (hB9.keep hcs (by omega)), (hr4.keep hcs (fun i _ hi he => by have := hi.1; omega)).mono (fun i hi hN => ⟨by have := hN.1; omega, hi⟩), (hr5.keep hcs (fun i _ hi he => by have := hi.1; omega)).mono (fun i hi hN => ⟨by have := hN.1; omega, hi⟩), hc9.trans hcs (fun i hi he => by omega)⟩
 ·rintro jk w16 ⟨o4, c4, o5, c5, hA16, hB16, hr4, hr5, hc16⟩
  refine ⟨_, _, _, _, _, _, _, _, _, ⟨hA16.cell 0 rfl, hA16.cell 1 rfl, hA16.cell 2 rfl, hA16.cell 3 rfl, hA16.cell 4 rfl⟩, ⟨hB16.ok 0 rfl, hB16.ok 1 rfl, hB16.ok 2 rfl, hB16.ok 3 rfl, hB16.ok 4 rfl⟩, fun w17 e17 => ?_⟩
  have e18 : w17 = w16.setCells w1.heap.size 0 (askE (q.1, ⟨o4, c4, o5, c5⟩)) := e17
  have hB17 := hB16.all (askE (q.1, ⟨o4, c4, o5, c5⟩)) rfl e18
  have hcs : Ch (· = w1.heap.size) w16 w17 := Ch.sets e18 rfl
  have hs := hcs.size
  refine ⟨_, _, _, _, _, _, _, _, _, ⟨hB17.cell 0 rfl, hB17.cell 1 rfl, hB17.cell 2 rfl, hB17.cell 3 rfl, hB17.cell 4 rfl⟩, ⟨o4, c4, o5, c5⟩, rfl, ⟨?_, ?_, h3, h4⟩, hc16.trans hcs (fun i hi he => by omega)⟩
  ·exact (hr4.keep hcs (fun i _ hi he => by have := hi.1; omega)).mono (fun i hi hN => ⟨by have := hN.1; omega, hi⟩)
  ·exact (hr5.keep hcs (fun i _ hi he => by have := hi.1; omega)).mono (fun i hi hN => ⟨by have := hN.1; omega, hi⟩)
end
end Go.Proofs.YtkbikekbaboclaaGreat.Ward
