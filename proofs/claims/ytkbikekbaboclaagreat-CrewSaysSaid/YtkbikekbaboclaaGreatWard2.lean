import Derived.Test.YtkbikekbaboclaaGreatWard
import Derived.Test.YtkbikekbaboclaaGreatPkA
set_option linter.unusedVariables false
set_option linter.unusedSimpArgs false
namespace Go.Proofs.YtkbikekbaboclaaGreat.Ward
open Go Go.Proofs V Vc Conf Go.RowKit
theorem ne_of {x y : Int} (h : (x != y) = true) : ¬ x = y := by simpa using h
theorem eq_of {x y : Int} (h : (x != y) = false) : x = y := by simpa using h
section
variable {w w' : World} {q q' : AskD × AskP} {F G : Nat → Prop}
end
structure WdC (w : World) (wb : Nat) (pages : Int) (o : Option Addr) (c : Nat) (qs : List (AskD × AskP)) (Fa F D : Nat → Prop) : Prop where
 blk : Blk w wb [.int .i64 pages, .slice o qs.length c] t_ward_Ward
 own : Own w t_ward_Ask 5 o qs.length c (qs.map askE).flatten Fa
 dat : ∀ q ∈ qs, AskR w q D
 fx : F wb
 fa : ∀ i, Fa i → F i ∧ i ≠ wb
 fd : ∀ i, D i → F i ∧ i ≠ wb ∧ ¬ Fa i
 lt : ∀ i, F i → i < w.heap.size
def WdR (w : World) (wb : Nat) (pages : Int) (qs : List (AskD × AskP)) (F D : Nat → Prop) : Prop := ∃ (o : Option Addr) (c : Nat) (Fa : Nat → Prop), WdC w wb pages o c qs Fa F D
def idB (id : Int) (q : AskD × AskP) : Bool := q.1.id == id
def findQ (qs : List (AskD × AskP)) (id : Int) : Int := if qs.findIdx (idB id) < qs.length then (qs.findIdx (idB id) : Int) else -1
section
variable {w w' : World} {wb n c : Nat} {pages : Int} {o : Option Addr} {qs qs' : List (AskD × AskP)} {Fa F F' D D' G : Nat → Prop}
theorem WdC.keep (h : WdC w wb pages o c qs Fa F D) (hc : Ch G w w') (hd : ∀ i, F i → ¬ G i) : WdC w' wb pages o c qs Fa F D :=
 ⟨h.blk.keep hc (hd _ h.fx), h.own.keep hc (fun i _ hi => hd i (h.fa i hi).1), fun q hq => (h.dat q hq).keep hc (fun i _ hi => hd i (h.fd i hi).1), h.fx, h.fa, h.fd, fun i hi => Nat.lt_of_lt_of_le (h.lt i hi) hc.size⟩
theorem WdC.keepN (h : WdC w wb pages o c qs Fa F D) (hc : Ch Non w w') : WdC w' wb pages o c qs Fa F D := h.keep hc (fun _ _ => id)
theorem WdR.keep (h : WdR w wb pages qs F D) (hc : Ch G w w') (hd : ∀ i, F i → ¬ G i) : WdR w' wb pages qs F D := by
 obtain ⟨o, c, Fa, hC⟩ := h
 exact ⟨o, c, Fa, hC.keep hc hd⟩
theorem WdR.keepN (h : WdR w wb pages qs F D) (hc : Ch Non w w') : WdR w' wb pages qs F D := h.keep hc (fun _ _ => id)
theorem WdC.grow (h : WdC w wb pages o c qs Fa F D) (h1 : ∀ i, F i → F' i) (hD : ∀ i, D i → D' i) (h2 : ∀ i, D' i → F' i ∧ i ≠ wb ∧ ¬ Fa i) (h3 : ∀ i, F' i → i < w.heap.size) : WdC w wb pages o c qs Fa F' D' :=
 ⟨h.blk, h.own, fun q hq => (h.dat q hq).mono (fun i _ hi => hD i hi), h1 _ h.fx, fun i hi => ⟨h1 i (h.fa i hi).1, (h.fa i hi).2⟩, h2, h3⟩
theorem New_spec (w : World) (n : Int) : Calls Tryz.prog i_ward_New #[.int .i64 n] w (Ret fun v w' => (1 ≤ n ∧ n ≤ 64 → v = .pointer (some ⟨w.heap.size, 0, none⟩) ∧ WdR w' w.heap.size n [] (· = w.heap.size) Non) ∧ (¬ (1 ≤ n ∧ n ≤ 64) → v = .pointer none) ∧ Ch Non w w') := by
 refine ward_New.calls _ ?_
 unfold ward_New.vc
 refine ⟨fun h => ⟨fun k => by have := of_decide_eq_true h; omega, fun _ => rfl, Ch.refl _ _⟩, fun h => ⟨fun h2 => ⟨fun k => by have := of_decide_eq_true h2; omega, fun _ => rfl, Ch.refl _ _⟩, fun h2 w1 e1 => ?_⟩⟩
 have h := of_decide_eq_false h
 have h2 := of_decide_eq_false h2
 have hB := Blk.new e1
 have hs := hB.lt
 exact ⟨fun _ => ⟨rfl, none, 0, Non, hB, Own.nil _ _ _ _, fun q hq => (by cases hq), rfl, fun _ h => h.elim, fun _ h => h.elim, fun i hi => hi ▸ hs⟩, fun k => absurd ⟨by omega, by omega⟩ k, Ch.alloc e1⟩
theorem at_c1_spec (w : World) (q : AskD × AskP) {cb T : Nat} {id : Int} (hb : Blk w cb [.int .i64 id] T) : Calls Tryz.prog i_ward_Ward_at_c1 #[.agg (askE q).toArray, .pointer (some ⟨cb, 0, none⟩)] w (Ret fun v w' => v = .bool (idB id q) ∧ Ch Non w w') := by
 refine ward_Ward_at_c1.calls _ _ _ _ _ _ _ _ _ _ ?_
 unfold ward_Ward_at_c1.vc
 intro w1 e1
 exact ⟨_, (Blk.new e1).cell 0 rfl, _, (hb.alloc e1).cell 0 rfl, rfl, Ch.alloc e1⟩
theorem IdxAt_spec (hO : Own w t_ward_Ask 5 o qs.length c (qs.map askE).flatten Fa) (hn : qs.length < 1000) {cb T : Nat} {id : Int} (hb : Blk w cb [.int .i64 id] T) :
  Calls Tryz.prog 144 #[.slice o qs.length c, .func (.func i_ward_Ward_at_c1) #[] #[.pointer (some ⟨cb, 0, none⟩)]] w (Ret fun v w' => v = .int .i64 (findQ qs id) ∧ Ch Non w w') := by
 refine slices_IndexFunc.calls_at _ _ _ _ ?_
 unfold slices_IndexFunc.vc_at
 refine ⟨fun i k w' => ∃ j : Nat, i = j ∧ j ≤ qs.length ∧ k = qs.length - j ∧ Ch Non w w' ∧ ∀ m (hm : m < qs.length), m < j → idB id qs[m] = false, ⟨_, 0, rfl, Nat.zero_le _, rfl, Ch.refl _ _, fun m _ h => absurd h (Nat.not_lt_zero _)⟩, ?_⟩
 rintro jk i k w1 ⟨j, rfl, hj, rfl, hc, hno⟩
 refine ⟨fun hlt => ?_, fun hge => ?_⟩
 ·have hlt : j < qs.length := by have := of_decide_eq_true hlt; omega
  obtain ⟨p, hp, _, _, hcell⟩ := (hO.keepN hc).rd.elem (sz := 5) (enc := askE) (fun _ => rfl) (by omega) hlt
  have h0 := hcell 0 _ rfl
  rw [add_none] at h0
  subst hp
  have hjj : (j : Int).toNat = j := Int.toNat_natCast j
  rw [hjj]
  refine ⟨⟨by omega, by omega⟩, _, _, _, _, _, _, _, _, _, ⟨h0, hcell 1 _ rfl, hcell 2 _ rfl, hcell 3 _ rfl, hcell 4 _ rfl⟩, ?_⟩
  refine step_call (at_c1_spec w1 qs[j] (hb.keepN hc)) ?_
  rintro x w2 ⟨rfl, hc2⟩
  refine ⟨_, rfl, fun h => ⟨?_, hc.andN hc2⟩, fun h => ⟨qs.length - (j + 1), by omega, j + 1, by rw [wrap_id (by omega) (by omega)]; rfl, hlt, rfl, hc.andN hc2, fun m hm hmj => ?_⟩⟩
  ·have : qs.findIdx (idB id) = j := (List.findIdx_eq hlt).2 ⟨h, fun m hm => hno m (by omega) hm⟩
   unfold findQ
   rw [this, if_pos hlt]
  ·by_cases he : m = j
   ·subst he; exact h
   ·exact hno m hm (by omega)
 ·have hjn : j = qs.length := by have := of_decide_eq_false hge; omega
  subst hjn
  refine ⟨?_, hc⟩
  unfold findQ
  rw [if_neg]
  intro h
  have h1 := hno _ h h
  rw [List.findIdx_getElem (w := h)] at h1
  cases h1
theorem at_spec (h : WdR w wb pages qs F D) (hn : qs.length < 1000) (id : Int) : Calls Tryz.prog i_ward_Ward_at #[.pointer (some ⟨wb, 0, none⟩), .int .i64 id] w (Ret fun v w' => v = .int .i64 (findQ qs id) ∧ Ch Non w w') := by
 obtain ⟨o, c, Fa, hC⟩ := h
 refine ward_Ward_at.calls _ _ ?_
 unfold ward_Ward_at.vc
 intro w1 e1
 have hC1 := hC.keepN (Ch.alloc e1)
 refine ⟨_, _, _, hC1.blk.cell 1 rfl, ?_⟩
 refine step_call (IdxAt_spec hC1.own hn (Blk.new e1)) ?_
 rintro v w2 ⟨rfl, hc2⟩
 exact ⟨_, rfl, rfl, (Ch.alloc e1).andN hc2⟩
def badT (vocab : Int) (n : Int) : Bool := decide (n < 0) || decide (n ≥ vocab)
theorem Check_c1_spec {b cb T : Nat} {cf : CfD} {wt : ByteArray} (hb : BrR w b cf wt) (hcb : Blk w cb [.pointer (some ⟨b, 0, none⟩)] T) (n : Int) : Calls Tryz.prog i_gen_Check_c1 #[.int .i64 n, .pointer (some ⟨cb, 0, none⟩)] w (Ret fun v w' => v = .bool (badT cf.vocab n) ∧ w' = w) := by
 refine gen_Check_c1.calls _ _ ?_
 unfold gen_Check_c1.vc
 refine ⟨fun h => ⟨by unfold badT; rw [h]; rfl, rfl⟩, fun h => ⟨_, hcb.cell 0 rfl, _, Blk.cell hb 0 rfl, by unfold badT; rw [h]; rfl, rfl⟩⟩
theorem IdxCk_spec {b cb T : Nat} {cf : CfD} {wt : ByteArray} {xs : List Int} (hb : BrR w b cf wt) (hcb : Blk w cb [.pointer (some ⟨b, 0, none⟩)] T) (hr : Rd w o (xs.map (.int .i64)) G) (hl : xs.length ≤ 1000000) (c : Nat) :
  Calls Tryz.prog 91 #[.slice o xs.length c, .func (.func i_gen_Check_c1) #[] #[.pointer (some ⟨cb, 0, none⟩)]] w (Ret fun v w' => ∃ i : Int, v = .int .i64 i ∧ decide (i ≥ 0) = xs.any (badT cf.vocab) ∧ w' = w) := by
 refine slices_IndexFunc.calls_gc _ _ _ _ ?_
 unfold slices_IndexFunc.vc_gc
 refine ⟨fun i k w' => ∃ j : Nat, i = j ∧ j ≤ xs.length ∧ k = xs.length - j ∧ w' = w ∧ (xs.take j).any (badT cf.vocab) = false, ⟨_, 0, rfl, Nat.zero_le _, rfl, rfl, rfl⟩, ?_⟩
 rintro jk i k w1 ⟨j, rfl, hj, rfl, rfl, hno⟩
 refine ⟨fun hlt => ?_, fun hge => ?_⟩
 ·have hlt : j < xs.length := by have := of_decide_eq_true hlt; omega
  have hjj : (j : Int).toNat * 1 = j := by omega
  rw [hjj]
  refine ⟨⟨by omega, by omega⟩, hr.typed hlt fun p hp => ⟨_, hp, ?_⟩⟩
  refine step_call (Check_c1_spec hb hcb xs[j]) ?_
  rintro x w2 ⟨rfl, rfl⟩
  refine ⟨_, rfl, fun h => ⟨_, rfl, ?_, rfl⟩, fun h => ⟨xs.length - (j + 1), by omega, j + 1, by rw [wrap_id (by omega) (by omega)]; rfl, hlt, rfl, rfl, ?_⟩⟩
  ·rw [decide_eq_true (by omega)]
   exact (List.any_eq_true.2 ⟨xs[j], List.getElem_mem hlt, h⟩).symm
  ·rw [take_snoc xs j hlt, List.any_append, hno]; simp [h]
 ·have hjn : j = xs.length := by have := of_decide_eq_false hge; omega
  subst hjn
  rw [List.take_length] at hno
  exact ⟨_, rfl, by rw [hno]; rfl, rfl⟩
def checkV (cf : CfD) (most : Int) (xs : List Int) : Int :=
 if xs.length = 0 ∨ most < 1 ∨ most > 32 then 1 else if xs.any (badT cf.vocab) then 3 else if (xs.length : Int) + most > cf.context then 12 else 0
theorem Check_spec {b : Nat} {cf : CfD} {wt : ByteArray} {xs : List Int} (hb : BrR w b cf wt) (hr : Rd w o (xs.map (.int .i64)) G) (hl : xs.length ≤ 1000000) (most : Int) (c : Nat) :
  Calls Tryz.prog i_gen_Check #[.pointer (some ⟨b, 0, none⟩), .int .i64 most, .slice o xs.length c] w (Ret fun v w' => v = .int .i64 (checkV cf most xs) ∧ Ch Non w w') := by
 refine gen_Check.calls _ _ _ _ _ ?_
 unfold gen_Check.vc
 intro w1 e1
 have hB := Blk.new e1
 have hc : Ch Non w w1 := Ch.alloc e1
 refine ⟨_, hB.cell 0 rfl, iteF rfl ?_⟩
 refine ⟨fun h => ⟨by unfold checkV; rw [if_pos (.inl (by have := eq_of_beq h; omega))], hc⟩, fun h0 => ?_⟩
 have h0 : ¬ xs.length = 0 := fun he => by rw [he] at h0; simp at h0
 refine ⟨fun h => ⟨by unfold checkV; rw [if_pos (.inr (.inl (of_decide_eq_true h)))], hc⟩, fun h1 => ?_⟩
 refine ⟨fun h => ⟨by unfold checkV; rw [if_pos (.inr (.inr (of_decide_eq_true h)))], hc⟩, fun h2 => ?_⟩
 have h1 := of_decide_eq_false h1
 have h2 := of_decide_eq_false h2
 have hb1 : BrR w1 b cf wt := Blk.keepN hb hc
 refine slices_ContainsFunc.calls_gc _ _ _ _ ?_
 unfold slices_ContainsFunc.vc_gc
 refine step_call (IdxCk_spec hb1 hB (hr.keepN hc) hl c) ?_
 rintro v w2 ⟨i, rfl, hi, rfl⟩
 refine ⟨_, rfl, _, rfl, ?_, ?_⟩
 ·intro h
  rw [hi] at h
  exact ⟨by unfold checkV; rw [if_neg (by omega), if_pos h], hc⟩
 ·intro h
  rw [hi] at h
  have hif : ¬ xs.any (badT cf.vocab) = true := by rw [h]; decide
  refine ⟨_, hB.cell 0 rfl, ?_⟩
  show ∃ _, _
  refine ⟨_, Blk.cell hb1 5 rfl, ?_⟩
  have hin : ∀ x, x ∈ xs → True := fun _ _ => trivial
  have hw : IntKind.i64.wrap ((xs.length : Int) + most) = (xs.length : Int) + most := wrap_id (by omega) (by omega)
  rw [hw]
  refine ⟨fun h3 => ⟨by unfold checkV; rw [if_neg (by omega), if_neg hif, if_pos (of_decide_eq_true h3)], hc⟩, fun h3 => ⟨by unfold checkV; rw [if_neg (by omega), if_neg hif, if_neg (of_decide_eq_false h3)], hc⟩⟩
end
end Go.Proofs.YtkbikekbaboclaaGreat.Ward
