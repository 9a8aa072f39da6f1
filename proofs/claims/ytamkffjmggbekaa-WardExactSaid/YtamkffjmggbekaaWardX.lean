/- For every ward of the document: what Need, At, Check, Submit and Cut answer and leave; the conditions stand in each theorem. -/
import Derived.Test.YtamkffjmggbekaaWardL2
import Derived.Test.YtamkffjmggbekaaVcWardR
set_option linter.unusedVariables false
set_option linter.unusedSimpArgs false
namespace Go.Proofs.Ytamkffjmggbekaa.Ward
open Go Go.Proofs Go.Proofs.Ytamkffjmggbekaa.V Go.Proofs.Ytamkffjmggbekaa.Vc Go.Proofs.Ytamkffjmggbekaa.Conf Go.RowKit

theorem RNeed_spec (w : World) (q : AskD × AskP) (hl : q.1.prompt.length ≤ 1000000) : Calls Try.prog i_coadjutorref24_Need #[.agg (askE q).toArray] w (Ret fun v w' => v = .int .i64 (needN q.1) ∧ Ch Non w w') := by
  refine coadjutorref24_Need.calls _ _ _ _ _ _ _ _ _ ?_
  unfold coadjutorref24_Need.vc
  intro w1 e1
  have hB := Blk.new e1
  have hc : Ch Non w w1 := Ch.alloc e1
  refine ⟨_, hB.cell 3 rfl, fun h => ⟨by unfold needN; rw [if_pos (.inl (of_decide_eq_true h))], hc⟩, fun h => ?_⟩
  refine ⟨_, hB.cell 3 rfl, fun h2 => ⟨by unfold needN; rw [if_pos (.inr (of_decide_eq_true h2))], hc⟩, fun h2 => ?_⟩
  have h := of_decide_eq_false h
  have h2 := of_decide_eq_false h2
  refine ⟨_, _, _, hB.cell 2 rfl, _, hB.cell 3 rfl, by omega, ?_, hc⟩
  have e : IntKind.i64.wrap (Int.tdiv (IntKind.i64.wrap (IntKind.i64.wrap (IntKind.i64.wrap ((q.1.prompt.length : Int) + q.1.most) - 1) + 3)) 4) = needN q.1 := by
    unfold needN
    rw [if_neg (by omega), wrap_id (x := (q.1.prompt.length : Int) + q.1.most) (by omega) (by omega), wrap_id (x := (q.1.prompt.length : Int) + q.1.most - 1) (by omega) (by omega), wrap_id (x := (q.1.prompt.length : Int) + q.1.most - 1 + 3) (by omega) (by omega)]
    have e1 : (q.1.prompt.length : Int) + q.1.most - 1 + 3 = (q.1.prompt.length : Int) + q.1.most + 2 := by omega
    rw [e1, Int.tdiv_eq_ediv_of_nonneg (by omega), wrap_id (by omega) (by omega)]
  rw [e]
def mdE (cf : CfD) (wt : ByteArray) : List Value := cfE cf ++ [.string wt]
/-- A ward of the document: its rows' data are the caller's. -/
structure RWC (W w : World) (ub : Nat) (pages : Int) (o : Option Addr) (c : Nat) (qs : List (AskD × AskP)) (Fa F : Nat → Prop) : Prop where
  blk : Blk w ub [.int .i64 pages, .slice o qs.length c] t_coadjutorref24_Ward
  own : Own w t_coadjutorref24_Ask 5 o qs.length c (qs.map askE).flatten Fa
  dat : ∀ q ∈ qs, AskR w q (fun i => i < W.heap.size)
  fx : F ub
  fa : ∀ i, Fa i → F i ∧ i ≠ ub
  c : Ch Non W w
  f : Foot W w F
def RW (W w : World) (ub : Nat) (pages : Int) (al : List AskD) (F : Nat → Prop) : Prop := ∃ (o : Option Addr) (c : Nat) (qs : List (AskD × AskP)) (Fa : Nat → Prop), RWC W w ub pages o c qs Fa F ∧ qs.map (·.1) = al
section
variable {W w w' : World} {ub c n' c' : Nat} {pages : Int} {o o' : Option Addr} {q : AskD × AskP} {qs qs' : List (AskD × AskP)} {al : List AskD} {Fa F F' G : Nat → Prop}
theorem RWC.far (h : RWC W w ub pages o c qs Fa F) (hc : Ch G w w') (hG : ∀ i, i < w.heap.size → G i → W.heap.size ≤ i ∧ ¬ F i) : RWC W w' ub pages o c qs Fa F :=
  ⟨h.blk.keep hc (fun hg => (hG ub h.blk.lt hg).2 h.fx), h.own.keep hc (fun i hi hf hg => (hG i hi hg).2 (h.fa i hf).1), fun q hq => (h.dat q hq).keep hc (fun i hi hf hg => by have := (hG i hi hg).1; omega), h.fx, h.fa,
    h.c.trans hc (fun i hi hg => by have := (hG i (Nat.lt_of_lt_of_le hi h.c.size) hg).1; omega), h.f.le hc.size⟩
theorem RWC.keepN (h : RWC W w ub pages o c qs Fa F) (hc : Ch Non w w') : RWC W w' ub pages o c qs Fa F := h.far hc (fun _ _ h => h.elim)
theorem RW.far (h : RW W w ub pages al F) (hc : Ch G w w') (hG : ∀ i, i < w.heap.size → G i → W.heap.size ≤ i ∧ ¬ F i) : RW W w' ub pages al F := by
  obtain ⟨o, c, qs, Fa, hC, he⟩ := h
  exact ⟨o, c, qs, Fa, hC.far hc hG, he⟩
theorem RW.keepN (h : RW W w ub pages al F) (hc : Ch Non w w') : RW W w' ub pages al F := h.far hc (fun _ _ h => h.elim)
theorem RW.ch (h : RW W w ub pages al F) : Ch Non W w := by obtain ⟨_, _, _, _, hC, _⟩ := h; exact hC.c
theorem RW.foot (h : RW W w ub pages al F) : Foot W w F := by obtain ⟨_, _, _, _, hC, _⟩ := h; exact hC.f
theorem RWC.store (h : RWC W w ub pages o c qs Fa F) (hc : Ch G w w') (hG : ∀ i, i < w.heap.size → G i → Fa i) (ho : Own w' t_coadjutorref24_Ask 5 o' n' c' (qs'.map askE).flatten (Ext Fa w w')) (hn : n' = qs'.length) (hd : ∀ q ∈ qs', AskR w q (fun i => i < W.heap.size)) :
    ((∃ u, w'.cell? ⟨ub, 1, none⟩ = some u) ∧ w'.frozen? ⟨ub, 1, none⟩ = false) ∧ ∀ w'' : World, w'' = w'.setCell ⟨ub, 1, none⟩ (.slice o' n' c') → RWC W w'' ub pages o' c' qs' (Ext Fa w w') (Ext F w w'') ∧ Ch F w w'' := by
  have hxl := h.blk.lt
  have hc := hc.mono hG
  have hB := h.blk.keep hc (fun hx => (h.fa ub hx).2 rfl)
  refine ⟨hB.ok 1 rfl, fun w'' e2 => ?_⟩
  have hc2 : Ch (· = ub) w' w'' := Ch.set e2 rfl
  have hx : ∀ i, Ext Fa w w' i → i ≠ ub := fun i hi he => by
    subst he
    rcases hi with hi | hi
    · exact (h.fa _ hi).2 rfl
    · have := hi.1; omega
  have hs := hc.size
  have hs2 := hc2.size
  have hcF : Ch F w w'' := (hc.mono (fun i _ hi => (h.fa i hi).1)).same (hc2.mono (fun i _ hi => hi ▸ h.fx))
  subst hn
  have hw := h.c.size
  have hub := (h.f _ h.fx).1
  refine ⟨⟨hB.set e2, ho.keep hc2 (fun i _ hi he => hx i hi he), fun q hq => ((hd q hq).keep hc (fun i _ hi hf => by have := (h.f i (h.fa i hf).1).1; omega)).keep hc2 (fun i _ hi he => by omega), .inl h.fx, fun i hi => ⟨hi.imp (fun k => (h.fa i k).1) (fun k => ⟨k.1, by have := k.2; omega⟩), hx i hi⟩, h.f.hi h.c hcF, h.f.ext h.c hcF.size⟩, hcF⟩
theorem RAt_spec (h : RW W w ub pages al F) (hn : al.length < 1000) (id : Int) : Calls Try.prog i_coadjutorref24_Ward_At #[.pointer (some ⟨ub, 0, none⟩), .int .i64 id] w (Ret fun v w' => v = .int .i64 (findL al id) ∧ w' = w) := by
  obtain ⟨o, c, qs, Fa, hC, rfl⟩ := h
  rw [List.length_map] at hn
  rw [← findQ_eq]
  refine coadjutorref24_Ward_At.calls _ _ ?_
  unfold coadjutorref24_Ward_At.vc
  refine ⟨fun i k w' => ∃ j : Nat, i = j ∧ j ≤ qs.length ∧ k = qs.length - j ∧ w' = w ∧ ∀ m (hm : m < qs.length), m < j → idB id qs[m] = false, ⟨_, 0, rfl, Nat.zero_le _, rfl, rfl, fun m _ h => absurd h (Nat.not_lt_zero _)⟩, ?_⟩
  rintro jk i k w1 ⟨j, rfl, hj, rfl, rfl, hno⟩
  refine ⟨_, _, _, hC.blk.cell 1 rfl, fun hlt => ?_, fun hge => ?_⟩
  · have hlt : j < qs.length := by have := of_decide_eq_true hlt; omega
    obtain ⟨p, hp, _, _, hcell⟩ := hC.own.rd.elem (sz := 5) (enc := askE) (fun _ => rfl) (by omega) hlt
    have h0 := hcell 0 _ rfl
    rw [add_none] at h0
    subst hp
    have hjj : (j : Int).toNat = j := Int.toNat_natCast j
    rw [hjj]
    refine ⟨_, _, _, hC.blk.cell 1 rfl, ⟨by omega, by omega⟩, _, h0, fun h => ⟨?_, rfl⟩, fun h => ⟨qs.length - (j + 1), by omega, j + 1, by rw [wrap_id (by omega) (by omega)]; rfl, hlt, rfl, rfl, fun m hm hmj => ?_⟩⟩
    · have : qs.findIdx (idB id) = j := (List.findIdx_eq hlt).2 ⟨h, fun m hm => hno m (by omega) hm⟩
      unfold findQ
      rw [this, if_pos hlt]
    · by_cases he : m = j
      · subst he; exact h
      · exact hno m hm (by omega)
  · have hjn : j = qs.length := by have := of_decide_eq_false hge; omega
    subst hjn
    refine ⟨?_, rfl⟩
    unfold findQ
    rw [if_neg]
    intro h
    have h1 := hno _ h h
    rw [List.findIdx_getElem (w := h)] at h1
    cases h1
theorem RCheck18_spec {cf : CfD} {wt : ByteArray} {xs : List Int} (hcf : -1000 ≤ cf.context ∧ cf.context ≤ 1000) (hr : Rd w o (xs.map (.int .i64)) G) (hl : xs.length ≤ 1000000) (most : Int) (c : Nat) :
    Calls Try.prog i_coadjutorref18_Check #[.agg (mdE cf wt).toArray, .int .i64 most, .slice o xs.length c] w (Ret fun v w' => v = .int .i64 (checkV cf most xs) ∧ Ch Non w w') := by
  refine coadjutorref18_Check.calls _ _ _ _ _ _ _ _ _ _ _ ?_
  unfold coadjutorref18_Check.vc
  intro w1 e1
  have hB := Blk.new e1
  have hc : Ch Non w w1 := Ch.alloc e1
  have hB : Blk w1 w.heap.size (mdE cf wt) 50 := hB
  refine ⟨fun h => ⟨by unfold checkV; rw [if_pos (.inl (by have := eq_of_beq h; omega))], hc⟩, fun h0 => ?_⟩
  have h0 : ¬ xs.length = 0 := fun he => by rw [he] at h0; simp at h0
  refine ⟨fun h => ⟨by unfold checkV; rw [if_pos (.inr (.inl (of_decide_eq_true h)))], hc⟩, fun h1 => ?_⟩
  refine ⟨fun h => ⟨by unfold checkV; rw [if_pos (.inr (.inr (of_decide_eq_true h)))], hc⟩, fun h2 => ?_⟩
  have h1 := of_decide_eq_false h1
  have h2 := of_decide_eq_false h2
  have hbad : xs.any (badT cf.vocab) = true → checkV cf most xs = 3 := fun h => by unfold checkV; rw [if_neg (by omega), if_pos h]
  refine ⟨fun i k w' => ∃ j : Nat, i = j ∧ j ≤ xs.length ∧ k = xs.length - j ∧ Ch Non w1 w' ∧ (xs.take j).any (badT cf.vocab) = false, ⟨_, 0, rfl, Nat.zero_le _, rfl, Ch.refl _ _, rfl⟩, ?_⟩
  rintro jk i k w2 ⟨j, rfl, hj, rfl, hc2, hno⟩
  refine ⟨fun hlt => ?_, fun hge => ?_⟩
  · have hlt : j < xs.length := by have := of_decide_eq_true hlt; omega
    have hjj : (j : Int).toNat * 1 = j := by omega
    rw [hjj]
    have hx : ∀ {K : Addr → Prop}, (∀ p : Addr, (∀ w', Ch Non w1 w' → w'.cell? (p.add j) = some (.int .i64 xs[j])) → K p) → someV o K := fun hk => Rd.keeps (S := fun w' => Ch Non w1 w') (xs := xs) (fun w' h2 => (hr.keepN hc).keepN h2) hc2 hlt hk
    have hcc : Ch Non w1 w2 := hc2
    refine ⟨fun w' => Ch Non w1 w', fun w3 e3 => ⟨hcc.andN (Ch.drew e3), ⟨by omega, by omega⟩, hx fun p hp => ⟨_, hp, fun h3 => ?_, fun h3 => ⟨⟨by omega, by omega⟩, hx fun p2 hp2 => ⟨_, hp2, _, fun w' hc => (hB.keepN hc).cell 0 rfl, fun h4 => ?_, fun h4 => ?_⟩⟩⟩⟩⟩
    · exact ⟨by rw [hbad (List.any_eq_true.2 ⟨xs[j], List.getElem_mem hlt, by unfold badT; rw [h3]; rfl⟩)], hc.andN (hcc.andN (Ch.drew e3))⟩
    · exact ⟨by rw [hbad (List.any_eq_true.2 ⟨xs[j], List.getElem_mem hlt, by unfold badT; rw [h4, Bool.or_true]⟩)], hc.andN (hcc.andN (Ch.drew e3))⟩
    · refine ⟨xs.length - (j + 1), by omega, j + 1, by rw [wrap_id (by omega) (by omega)]; rfl, hlt, rfl, hcc.andN (Ch.drew e3), ?_⟩
      rw [take_snoc xs j hlt, List.any_append, hno]
      show (false || (badT cf.vocab xs[j] || false)) = false
      unfold badT
      rw [h3, h4]; rfl
  · have hjn : j = xs.length := by have := of_decide_eq_false hge; omega
    subst hjn
    rw [List.take_length] at hno
    have hif : ¬ xs.any (badT cf.vocab) = true := by rw [hno]; decide
    refine ⟨_, (hB.keepN hc2).cell 5 rfl, ?_⟩
    rw [wrap_id (by omega) (by omega)]
    refine ⟨fun h3 => ⟨?_, hc.andN hc2⟩, fun h3 => ⟨?_, hc.andN hc2⟩⟩
    · have := of_decide_eq_true h3
      unfold checkV; rw [if_neg (by omega), if_neg hif, if_pos (by omega)]
    · have := of_decide_eq_false h3
      unfold checkV; rw [if_neg (by omega), if_neg hif, if_neg (by omega)]
def chk24 (cf : CfD) (pages : Int) (a : AskD) : Int := if a.id < 1 ∨ a.id > 2147483647 ∨ (a.draws.length : Int) > 32 then 1 else if checkV cf a.most a.prompt ≠ 0 then checkV cf a.most a.prompt else if needN a > pages then 11 else 0
theorem RCheck_spec {cf : CfD} {wt : ByteArray} (hcf : -1000 ≤ cf.context ∧ cf.context ≤ 1000) (hq : AskR w q G) (pages : Int) :
    Calls Try.prog i_coadjutorref24_Check #[.agg (mdE cf wt).toArray, .int .i64 pages, .agg (askE q).toArray] w (Ret fun v w' => v = .int .i64 (chk24 cf pages q.1) ∧ Ch Non w w') := by
  obtain ⟨q1, q2, q3, q4⟩ := hq
  refine coadjutorref24_Check.calls _ _ _ _ _ _ _ _ _ _ _ _ _ _ _ _ _ ?_
  unfold coadjutorref24_Check.vc
  intro w1 e1 w2 e2
  have hA : Blk w2 w.heap.size (mdE cf wt) 50 := (Blk.new e1).alloc e2
  have hB : Blk w2 w1.heap.size (askE q) 59 := Blk.new e2
  have hc : Ch Non w w2 := (Ch.alloc e1).andN (Ch.alloc e2)
  refine ⟨_, hB.cell 0 rfl, fun k => ⟨by unfold chk24; rw [if_pos (.inl (of_decide_eq_true k))], hc⟩, fun k1 => ?_⟩
  refine ⟨_, hB.cell 0 rfl, fun k => ⟨by unfold chk24; rw [if_pos (.inr (.inl (of_decide_eq_true k)))], hc⟩, fun k2 => ?_⟩
  refine ⟨_, _, _, hB.cell 4 rfl, fun k => ⟨by unfold chk24; rw [if_pos (.inr (.inr (of_decide_eq_true k)))], hc⟩, fun k3 => ?_⟩
  have k1 := of_decide_eq_false k1
  have k2 := of_decide_eq_false k2
  have k3 := of_decide_eq_false k3
  have n1 : ¬ (q.1.id < 1 ∨ q.1.id > 2147483647 ∨ (q.1.draws.length : Int) > 32) := by omega
  refine ⟨_, _, _, _, _, _, _, ⟨hA.cell 0 rfl, hA.cell 1 rfl, hA.cell 2 rfl, hA.cell 3 rfl, hA.cell 4 rfl, hA.cell 5 rfl, hA.cell 6 rfl⟩, _, hB.cell 3 rfl, _, _, _, hB.cell 2 rfl, ?_⟩
  refine step_call (RCheck18_spec (cf := cf) (wt := wt) hcf (q1.keepN hc) (by omega) q.1.most _) ?_
  rintro v w3 ⟨rfl, hc3⟩
  refine ⟨_, rfl, fun k => ⟨by unfold chk24; rw [if_neg n1, if_pos (ne_of k)], hc.andN hc3⟩, fun k4 => ?_⟩
  have k4 := eq_of k4
  have hB3 := hB.keepN hc3
  refine ⟨_, _, _, _, _, _, _, _, _, ⟨hB3.cell 0 rfl, hB3.cell 1 rfl, hB3.cell 2 rfl, hB3.cell 3 rfl, hB3.cell 4 rfl⟩, ?_⟩
  refine step_call (RNeed_spec w3 q (by omega)) ?_
  rintro v w4 ⟨rfl, hc4⟩
  refine ⟨_, rfl, fun k => ⟨by unfold chk24; rw [if_neg n1, if_neg (by omega), if_pos (of_decide_eq_true k)], (hc.andN hc3).andN hc4⟩, fun k => ⟨by unfold chk24; rw [if_neg n1, if_neg (by omega), if_neg (of_decide_eq_false k)], (hc.andN hc3).andN hc4⟩⟩
set_option maxHeartbeats 1000000 in
theorem RSubmit_spec {cf : CfD} {wt : ByteArray} (h : RW W w ub pages al F) (hcf : -1000 ≤ cf.context ∧ cf.context ≤ 1000) (hq : AskR w q (fun i => i < W.heap.size)) (hn : al.length < 900) :
    Calls Try.prog i_coadjutorref24_Ward_Submit #[.pointer (some ⟨ub, 0, none⟩), .agg (mdE cf wt).toArray, .agg (askE q).toArray] w (Ret fun v w' => v = .int .i64 (subL cf pages al q.1) ∧ ∃ F', RW W w' ub pages (if subL cf pages al q.1 = 0 then al ++ [q.1] else al) F' ∧ (∀ i, F' i → Ext F w w' i) ∧ Ch F w w') := by
  refine coadjutorref24_Ward_Submit.calls _ _ _ _ _ _ _ _ _ _ _ _ _ _ _ _ _ ?_
  unfold coadjutorref24_Ward_Submit.vc
  intro w1 e1 w2 e2
  have hA : Blk w2 w.heap.size (mdE cf wt) 50 := (Blk.new e1).alloc e2
  have hB : Blk w2 w1.heap.size (askE q) 59 := Blk.new e2
  have hc : Ch Non w w2 := (Ch.alloc e1).andN (Ch.alloc e2)
  have s1 : w.heap.size < w1.heap.size := (Blk.new e1).lt
  have no : ∀ {w'}, Ch Non w w' → ∀ n, subL cf pages al q.1 = n → n ≠ 0 → (Value.int IntKind.i64 n = .int .i64 (subL cf pages al q.1) ∧ ∃ F', RW W w' ub pages (if subL cf pages al q.1 = 0 then al ++ [q.1] else al) F' ∧ (∀ i, F' i → Ext F w w' i) ∧ Ch F w w') := fun hc n he h0 => by
    rw [he, if_neg h0]; exact ⟨rfl, F, h.keepN hc, fun i hi => .inl hi, hc.any⟩
  obtain ⟨o, c, qs, Fa, hC, rfl⟩ := h
  have hC2 := hC.keepN hc
  clear e1 e2
  refine ⟨fun w' => Ch Non w2 w', fun w3 e3 => ⟨Ch.drew e3, _, _, _, _, _, _, _, ⟨fun w' hc => (hA.keepN hc).cell 0 rfl, fun w' hc => (hA.keepN hc).cell 1 rfl, fun w' hc => (hA.keepN hc).cell 2 rfl, fun w' hc => (hA.keepN hc).cell 3 rfl, fun w' hc => (hA.keepN hc).cell 4 rfl, fun w' hc => (hA.keepN hc).cell 5 rfl, fun w' hc => (hA.keepN hc).cell 6 rfl⟩,
    _, fun w' hc => (hC2.keepN hc).blk.cell 0 rfl, _, _, _, _, _, _, _, _, _, ⟨fun w' hc => (hB.keepN hc).cell 0 rfl, fun w' hc => (hB.keepN hc).cell 1 rfl, fun w' hc => (hB.keepN hc).cell 2 rfl, fun w' hc => (hB.keepN hc).cell 3 rfl, fun w' hc => (hB.keepN hc).cell 4 rfl⟩, ?_⟩⟩
  have hc03 := hc.andN (Ch.drew e3)
  refine step_call (RCheck_spec (cf := cf) (wt := wt) hcf (hq.keepN hc03) pages) ?_
  rintro v w7 ⟨rfl, hc7⟩
  have hc27 := (Ch.drew (F := Non) e3).andN hc7
  have hc07 := hc03.andN hc7
  have hB7 := hB.keepN hc27
  have hC7 := hC2.keepN hc27
  have hlen : (qs.map (·.1)).length = qs.length := List.length_map _
  rw [hlen] at hn
  refine ⟨_, rfl, hc27, fun h1 => ?_, fun h1 => ?_⟩
  · have h1 := eq_of_beq h1
    refine ⟨_, hB7.cell 0 rfl, fun k => no hc07 1 (by unfold subL; rw [if_pos (.inl (of_decide_eq_true k))]) (by omega), fun k1 => ?_⟩
    refine ⟨_, hB7.cell 0 rfl, fun k => no hc07 1 (by unfold subL; rw [if_pos (.inr (.inl (of_decide_eq_true k)))]) (by omega), fun k2 => ?_⟩
    refine ⟨_, _, _, hB7.cell 4 rfl, fun k => no hc07 1 (by unfold subL; rw [if_pos (.inr (.inr (of_decide_eq_true k)))]) (by omega), fun k3 => ?_⟩
    have k1 := of_decide_eq_false k1
    have k2 := of_decide_eq_false k2
    have k3 := of_decide_eq_false k3
    have n1 : ¬ (q.1.id < 1 ∨ q.1.id > 2147483647 ∨ (q.1.draws.length : Int) > 32) := by omega
    have hv : checkV cf q.1.most q.1.prompt = 1 := by
      unfold chk24 at h1
      rw [if_neg n1] at h1
      by_cases hz : checkV cf q.1.most q.1.prompt ≠ 0
      · rwa [if_pos hz] at h1
      · rw [if_neg hz] at h1
        by_cases hz2 : needN q.1 > pages
        · rw [if_pos hz2] at h1; omega
        · rw [if_neg hz2] at h1; omega
    refine ⟨_, hB7.cell 0 rfl, ?_⟩
    refine step_call (RAt_spec ⟨o, c, qs, Fa, hC7, rfl⟩ (by rw [hlen]; omega) q.1.id) ?_
    rintro v w8 ⟨rfl, rfl⟩
    refine ⟨_, rfl, fun k => no hc07 9 (by unfold subL; rw [if_neg n1, if_pos (of_decide_eq_true k)]) (by omega), fun k4 => ?_⟩
    have k4 := of_decide_eq_false k4
    rw [h1]
    exact iteT rfl (no hc07 1 (by unfold subL; rw [if_neg n1, if_neg k4, hv, if_pos (by omega)]) (by omega))
  · have h1 : ¬ chk24 cf pages q.1 = 1 := fun he => by rw [he] at h1; simp at h1
    have n1 : ¬ (q.1.id < 1 ∨ q.1.id > 2147483647 ∨ (q.1.draws.length : Int) > 32) := fun hx => h1 (by unfold chk24; rw [if_pos hx])
    refine ⟨_, hB7.cell 0 rfl, ?_⟩
    refine step_call (RAt_spec ⟨o, c, qs, Fa, hC7, rfl⟩ (by rw [hlen]; omega) q.1.id) ?_
    rintro v w8 ⟨rfl, rfl⟩
    refine ⟨_, rfl, fun k => no hc07 9 (by unfold subL; rw [if_neg n1, if_pos (of_decide_eq_true k)]) (by omega), fun k4 => ?_⟩
    have k4 := of_decide_eq_false k4
    have hsub : subL cf pages (qs.map (·.1)) q.1 = if chk24 cf pages q.1 ≠ 0 then chk24 cf pages q.1 else if ((qs.map (·.1)).length : Int) ≥ 16 then 10 else 0 := by
      unfold subL chk24
      rw [if_neg n1, if_neg k4, if_neg n1]
      by_cases hz : checkV cf q.1.most q.1.prompt ≠ 0
      · rw [if_pos hz, if_pos hz, if_pos hz]
      · rw [if_neg hz, if_neg hz]
        by_cases hz2 : needN q.1 > pages
        · rw [if_pos hz2, if_pos hz2, if_pos (show (11 : Int) ≠ 0 by decide)]
        · rw [if_neg hz2, if_neg hz2, if_neg (show ¬ ((0 : Int) ≠ 0) by decide)]
    refine ⟨fun k => no hc07 _ (by rw [hsub, if_pos (ne_of k)]) (ne_of k), fun k5 => ?_⟩
    have k5 := eq_of k5
    refine ⟨_, _, _, hC7.blk.cell 1 rfl, fun k => no hc07 10 (by rw [hsub, if_neg (by omega), hlen, if_pos (of_decide_eq_true k)]) (by omega), fun k6 => ?_⟩
    have k6 := of_decide_eq_false k6
    have hz : subL cf pages (qs.map (·.1)) q.1 = 0 := by rw [hsub, if_neg (by omega), hlen, if_neg k6]
    have hFay : ¬ Fa ub := fun hx => (hC.fa _ hx).2 rfl
    have hFaB : ¬ Fa w1.heap.size := fun hx => by have := (hC.f _ (hC.fa _ hx).1).2; omega
    refine ⟨fun w' => Ch Fa w8 w', fun w9 e9 => ⟨Ch.drew e9, _, _, _, fun w' hc => (hC7.blk.keep hc hFay).cell 1 rfl, _, _, _, _, _, _, _, _, _, ⟨fun w' hc => (hB7.keep hc hFaB).cell 0 rfl, fun w' hc => (hB7.keep hc hFaB).cell 1 rfl, fun w' hc => (hB7.keep hc hFaB).cell 2 rfl, fun w' hc => (hB7.keep hc hFaB).cell 3 rfl, fun w' hc => (hB7.keep hc hFaB).cell 4 rfl⟩, fun w12 e12 => ?_⟩⟩
    have hN12 : Blk w12 w9.heap.size (askE q) 59 := Blk.new e12
    have hc812 : Ch Non w8 w12 := (Ch.drew e9).andN (Ch.alloc e12)
    have hC12 := hC7.keepN hc812
    have hq12 := (hq.keepN hc07).keepN hc812
    obtain ⟨o', c', w13, hr, ho, hc13⟩ := Own.appendRd (c2 := 1) (m := 1) el_S_coadjutorref24_Ask hC12.own t_S_coadjutorref24_Ask hN12.rd rfl (ask_one q) (by unfold maxLen; omega) (by omega)
    have hap : (qs.map askE).flatten ++ askE q = ((qs ++ [q]).map askE).flatten := by simp
    rw [hap] at ho
    obtain ⟨hok, hst⟩ := hC12.store (qs' := qs ++ [q]) hc13 (fun i _ hi => hi) ho (by simp) (fun q' hq' => by
      rcases List.mem_append.1 hq' with hq' | hq'
      · exact hC12.dat q' hq'
      · rw [List.mem_singleton] at hq'
        subst hq'
        exact hq12)
    refine ⟨hc812.any, o', _, c', w13, hr, hc812.any.same hc13, hok, fun w14 e14 => ?_⟩
    obtain ⟨hC14, hc14⟩ := hst w14 e14
    rw [hz, if_pos rfl]
    have hc012 := hc07.andN hc812
    have hs := hc012.size
    refine ⟨rfl, _, ⟨o', c', qs ++ [q], _, hC14, by simp⟩, fun i hi => ?_, hc012.any.same hc14⟩
    rcases hi with hi | hi
    · exact .inl hi
    · exact .inr ⟨by have := hi.1; omega, hi.2⟩
set_option maxHeartbeats 1000000 in
theorem RCut_spec (h : RW W w ub pages al F) (hn : al.length < 900) {i : Nat} (hi : i < al.length) :
    Calls Try.prog i_coadjutorref24_Ward_Cut #[.pointer (some ⟨ub, 0, none⟩), .int .i64 i] w (Ret fun v w' => ∃ (p : AskP) (F' : Nat → Prop), v = .agg (askE (al[i], p)).toArray ∧ AskR w' (al[i], p) (fun i => i < W.heap.size) ∧ RW W w' ub pages (al.eraseIdx i) F' ∧ (∀ i, F' i → Ext F w w' i) ∧ Ch F w w') := by
  obtain ⟨o, c, qs, Fa, hC, rfl⟩ := h
  have hlen : (qs.map (·.1)).length = qs.length := List.length_map _
  rw [hlen] at hn
  have hiq : i < qs.length := by rwa [hlen] at hi
  refine coadjutorref24_Ward_Cut.calls _ _ ?_
  unfold coadjutorref24_Ward_Cut.vc
  intro w1 e1
  have hR1 := Blk.new e1
  have hc1 : Ch Non w w1 := Ch.alloc e1
  have hC1 := hC.keepN hc1
  have s1 : w.heap.size < w1.heap.size := hR1.lt
  have hcap := hC.own.2.1
  have hwi : IntKind.i64.wrap ((i : Int) + 1) = ((i + 1 : Nat) : Int) := by rw [wrap_id (by omega) (by omega)]; rfl
  simp only [hwi, Int.toNat_natCast]
  obtain ⟨p, hp, _, _, hcell⟩ := hC1.own.rd.elem (sz := 5) (enc := askE) (fun _ => rfl) (by omega) hiq
  have h0 := hcell 0 _ rfl
  rw [add_none] at h0
  have h1 := hcell 1 _ rfl
  have h2 := hcell 2 _ rfl
  have h3 := hcell 3 _ rfl
  have h4 := hcell 4 _ rfl
  clear hcell
  refine ⟨_, _, _, hC1.blk.cell 1 rfl, ⟨by omega, by omega⟩, ?_⟩
  subst hp
  refine ⟨_, _, _, _, _, _, _, _, _, ⟨h0, h1, h2, h3, h4⟩, fun w2 e2 => ?_⟩
  clear h0 h1 h2 h3 h4
  have hB2 := Blk.new e2
  refine ⟨⟨hB2.ok 0 rfl, hB2.ok 1 rfl, hB2.ok 2 rfl, hB2.ok 3 rfl, hB2.ok 4 rfl⟩, fun w3 e3 => ?_⟩
  obtain ⟨hB3, hc13⟩ := askNew qs[i] e2 e3
  have s3 : w1.heap.size < w3.heap.size := hB3.lt
  clear e2 e3 hB2
  intro w4 e4
  have hG4 := Gr.made0 (G := Non) (T := t_coadjutorref24_Ask) (sz := 5) (Ch.refl _ w3) e4
  have hc34 : Ch Non w3 w4 := Ch.alloc e4
  have hC4 := (hC1.keepN hc13).keepN hc34
  have hone := asks_one qs
  have hfl := flatten_take (enc := askE) (sz := 5) (fun _ => rfl) qs i
  have hfd := flatten_drop (enc := askE) (sz := 5) (fun _ => rfl) qs (i + 1)
  have hflen : (qs.map askE).flatten.length = qs.length * 5 := hC.own.len
  refine ⟨_, _, _, hC4.blk.cell 1 rfl, ⟨by omega, by omega⟩, ?_⟩
  have hr4 := hC4.own.rd.slice (c := c) (sz := 5) (by rw [hflen]; omega) 0 i
  obtain ⟨o5, c5, w5, r5, hG5, hc5⟩ := hG4.app (m := i - 0) el_S_coadjutorref24_Ask t_S_coadjutorref24_Ask (c2 := c - 0) hr4 (by rw [List.length_take, List.length_drop, hflen]; omega) (fun u hu => hone u (List.mem_of_mem_drop (List.mem_of_mem_take hu))) (by omega) (by omega)
  have hlow := hC.f
  have hW0 := hC.c.size
  have hnew : ∀ {wa wb : World}, w.heap.size ≤ wa.heap.size → ∀ i, i < wa.heap.size → New wa wb i → W.heap.size ≤ i ∧ ¬ F i := fun hle i hi hN => by have := hN.1; omega
  have hnew' : ∀ {w0 wa wb : World}, w.heap.size ≤ w0.heap.size → ∀ i, i < wb.heap.size → New w0 wa i → W.heap.size ≤ i ∧ ¬ F i := fun hle i hi hN => ⟨by have := hN.1; omega, fun hf => by have := hN.1; have := (hlow i hf).2; omega⟩
  have hC5 := hC4.far hc5 (hnew' (by omega))
  refine ⟨o5, _, c5, w5, r5, _, _, _, hC5.blk.cell 1 rfl, ⟨by omega, by omega⟩, ?_⟩
  have hr5 := hC5.own.rd.slice (c := c) (sz := 5) (by rw [hflen]; omega) (i + 1) (qs.length - (i + 1))
  obtain ⟨o6, c6, w6, r6, hG6, hc6⟩ := hG5.app (m := qs.length - (i + 1)) el_S_coadjutorref24_Ask t_S_coadjutorref24_Ask (c2 := c - (i + 1)) hr5 (by rw [List.length_take, List.length_drop, hflen]; omega) (fun u hu => hone u (List.mem_of_mem_drop (List.mem_of_mem_take hu))) (by omega) (by omega)
  have hs5 := hc5.size
  have hs34 := hc34.size
  have hs6 := hc6.size
  have hc36 : Ch Non w3 w6 := hG6.2
  have hc16 : Ch Non w w6 := (hc1.andN hc13).andN hc36
  have hln : 0 + (i - 0) + (qs.length - (i + 1)) = (qs.eraseIdx i).length := by rw [List.length_eraseIdx, if_pos hiq]; omega
  have hvals : ([] ++ ((qs.map askE).flatten.drop (0 * 5)).take (i * 5)) ++ ((qs.map askE).flatten.drop ((i + 1) * 5)).take ((qs.length - (i + 1)) * 5) = ((qs.eraseIdx i).map askE).flatten := by
    have hdl : ((qs.map askE).flatten.drop ((i + 1) * 5)).length ≤ (qs.length - (i + 1)) * 5 := by rw [List.length_drop, hflen, Nat.sub_mul]; omega
    rw [List.nil_append, Nat.zero_mul, List.drop_zero, hfl, List.take_of_length_le hdl, hfd, eraseIdx_td, List.map_append, List.flatten_append]
  have hO6 := hG6.1
  rw [hvals, hln] at hO6
  have hub := hC.blk.lt
  have hubW := (hC.f _ hC.fx).1
  have hX6 := hC.blk.keepN hc16
  rw [hln] at r6
  refine ⟨o6, _, c6, w6, r6, hX6.ok 1 rfl, fun w7 e7 => ?_⟩
  have hc67 : Ch (· = ub) w6 w7 := Ch.set e7 rfl
  have hX7 := hX6.set e7
  have hs7 := hc67.size
  have hB7 := (hB3.keepN hc36).keep hc67 (by omega)
  have hR7 := ((hR1.keepN hc13).keepN hc36).keep hc67 (by omega)
  refine ⟨_, _, _, _, _, _, _, _, _, ⟨hB7.cell 0 rfl, hB7.cell 1 rfl, hB7.cell 2 rfl, hB7.cell 3 rfl, hB7.cell 4 rfl⟩, ⟨hR7.ok 0 rfl, hR7.ok 1 rfl, hR7.ok 2 rfl, hR7.ok 3 rfl, hR7.ok 4 rfl⟩, fun w8 e8 => ?_⟩
  have e8' : w8 = w7.setCells w.heap.size 0 (askE qs[i]) := e8
  have hR8 := hR7.all (askE qs[i]) rfl e8'
  have hc78 : Ch (· = w.heap.size) w7 w8 := Ch.sets e8' rfl
  have hs8 := hc78.size
  have hcF : Ch F w w8 := ((hc16.any (F := F)).same (hc67.mono (fun i _ hi => hi ▸ hC.fx))).trans hc78 (fun i hi he => by omega)
  have hdat : ∀ q ∈ qs, AskR w8 q (fun i => i < W.heap.size) := fun q hq => (((hC.dat q hq).keepN hc16).keep hc67 (fun i _ hi he => by omega)).keep hc78 (fun i _ hi he => by omega)
  refine ⟨_, _, _, _, _, _, _, _, _, ⟨hR8.cell 0 rfl, hR8.cell 1 rfl, hR8.cell 2 rfl, hR8.cell 3 rfl, hR8.cell 4 rfl⟩, qs[i].2, fun i => F i ∨ New w3 w6 i, ?_, ?_, ⟨o6, c6, qs.eraseIdx i, New w3 w6, ⟨hX7.keep hc78 (by omega), (hO6.keep hc67 (fun i _ hi he => by have := hi.1; omega)).keep hc78 (fun i _ hi he => by have := hi.1; omega), fun q' hq' => hdat q' (List.mem_of_mem_eraseIdx hq'), .inl hC.fx, fun i hi => ⟨.inr hi, by have := hi.1; omega⟩, hC.f.hi hC.c hcF, fun i hi => ?_⟩, ?_⟩, fun i hi => ?_, hcF⟩
  · rw [List.getElem_map]; rfl
  · rw [List.getElem_map]; exact hdat _ (List.getElem_mem hiq)
  · rcases hi with hi | hi
    · exact ⟨(hC.f i hi).1, by have := (hC.f i hi).2; omega⟩
    · exact ⟨by have := hi.1; omega, by have := hi.2; omega⟩
  · rw [eraseIdx_td, eraseIdx_td, List.map_append, List.map_take, List.map_drop]
  · rcases hi with hi | hi
    · exact .inl hi
    · exact .inr ⟨by have := hi.1; omega, by have := hi.2; omega⟩
end
end Go.Proofs.Ytamkffjmggbekaa.Ward
