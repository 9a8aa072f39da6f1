/- For every index of beginnings over a pool of pages: what an eviction and a version forgotten leave and answer; the conditions stand in each theorem. -/
import Derived.Test.YtpcddfhfchempaaPrefix3
set_option linter.unusedVariables false
set_option linter.unusedSimpArgs false
namespace Go.Proofs.Ytpcddfhfchempaa.Prefix
open Go Go.Proofs Go.Proofs.Ytpcddfhfchempaa.V Go.Proofs.Ytpcddfhfchempaa.Vc Go.Proofs.Ytpcddfhfchempaa.Step Go.Proofs.Ytpcddfhfchempaa.Pages Go.RowKit

/-- One use less of a page, if it has one. -/
def dropQ (ps : List PageD) (id : Int) : List PageD := if allB ps [id] && !overB ps [id] then dropL ps [id] else ps
def usersV (ps : List PageD) (id : Int) : Int := if isB ps id then (pgAt ps id).users else 0
def evI (ps : List PageD) (es : List EntD) : Nat := es.findIdx (fun e => usersV ps e.page == 1)
def evP (ps : List PageD) (es : List EntD) : List PageD := match es[evI ps es]? with
  | some e => dropQ ps e.page
  | none => ps
def fgS (v : Int) (ps : List PageD) (e : EntD) : List PageD := if e.ver == v then dropQ ps e.page else ps
def fgP (v : Int) (ps : List PageD) (es : List EntD) : List PageD := es.foldl (fgS v) ps
theorem fgP_snoc (v : Int) (ps : List PageD) (es : List EntD) (e : EntD) : fgP v ps (es ++ [e]) = fgS v (fgP v ps es) e := by unfold fgP; rw [List.foldl_append]; rfl
theorem All2.filter {α β : Type} {R : α → β → Prop} {p : α → Bool} {q : β → Bool} (hpq : ∀ x y, R x y → p x = q y) : ∀ {xs : List α} {ys : List β}, All2 R xs ys → All2 R (xs.filter p) (ys.filter q)
  | _, _, .nil => .nil
  | x :: xs, y :: ys, .cons a b => by
    rw [List.filter_cons, List.filter_cons, hpq x y a]
    split
    · exact .cons a (All2.filter hpq b)
    · exact All2.filter hpq b
section
variable {W w w' : World} {pb xb k n : Nat} {B : Int} {ps : List PageD} {es : List EntD} {FP FI Fa Fd F G : Nat → Prop} {o : Option Addr} {c : Nat} {gs : List EcC} {R : Nat → Nat → Prop}
theorem dropQ_good (h : Pages.Good k B ps) (hB : 0 ≤ B) (id : Int) : Pages.Good k B (dropQ ps id) := by
  unfold dropQ
  split
  · rename_i h2; exact h.drops hB (useGo_drop2.2 h2)
  · exact h
theorem fgP_good (h : Pages.Good k B ps) (hB : 0 ≤ B) (v : Int) : ∀ es : List EntD, Pages.Good k B (fgP v ps es) := fun es => by
  induction es generalizing ps with
  | nil => exact h
  | cons e r ih =>
    have : fgP v ps (e :: r) = fgP v (fgS v ps e) r := rfl
    rw [this]
    refine ih ?_
    unfold fgS
    split
    · exact dropQ_good h hB _
    · exact h
theorem Drop1_spec {nb T : Nat} (h : PoolR w pb ps FP) (hF : ∀ i, FP i → i < w.heap.size) (hg : Pages.Good k B ps) (hk : k ≤ 1000) (hB : 0 ≤ B ∧ B ≤ 1000000000) {id : Int} (hb : Blk w nb [.int .i64 id] T) (hn : ¬ FP nb) :
    Calls Try.prog i_pages_Pool_Drop #[.pointer (some ⟨pb, 0, none⟩), .slice (some ⟨nb, 0, none⟩) 1 1] w (Ret fun v w' => (∃ x : Int, v = .int .i64 x) ∧ PoolR w' pb (dropQ ps id) FP ∧ Ch FP w w') := by
  have r : Rd w (some ⟨nb, 0, none⟩) (([id] : List Int).map (.int .i64)) (· = nb) := hb.rd
  refine step_call (Drop_spec (l := [id]) h hF r (fun i hi => by have := hb.lt; omega) (fun i _ hi hf => hn (hi ▸ hf)) (by simp) (by rw [hg.len]; omega) ⟨hB.1, by omega⟩ hg.bnd 1) ?_
  rintro v w' ⟨rfl, hr, hc⟩
  exact ⟨⟨_, rfl⟩, hr, hc⟩
theorem Evict_c1_spec {g : EcC} {e : EntD} {cb T : Nat} {sv : Value} (he : EcR w g e Fd) (hP : PoolR w pb ps FP) (hb : Blk w cb [.pointer (some ⟨xb, 0, none⟩)] T) (hx : Blk w xb [.pointer (some ⟨pb, 0, none⟩), sv] t_prefix_Index) :
    Calls Try.prog i_prefix_Index_Evict_c1 #[.agg #[.int .i64 g.ver, .slice g.to g.tn g.tc, .int .i64 g.page], .pointer (some ⟨cb, 0, none⟩)] w (Ret fun x w' => x = .bool (usersV ps e.page == 1) ∧ Ch Non w w') := by
  refine prefix_Index_Evict_c1.calls _ _ _ _ _ _ ?_
  unfold prefix_Index_Evict_c1.vc
  intro w1 e1
  have hE := Blk.new e1
  have hc1 : Ch Non w w1 := Ch.alloc e1
  have hb1 := hb.keepN hc1
  have hx1 := hx.keepN hc1
  refine ⟨fun w' => Ch Non w1 w', fun w2 e2 => ⟨Ch.drew e2, _, fun w' hc => (hb1.keepN hc).cell 0 rfl, _, fun w' hc => (hx1.keepN hc).cell 0 rfl, _, fun w' hc => (hE.keepN hc).cell 2 rfl, ?_⟩⟩
  have hc2 := hc1.andN (Ch.drew e2)
  refine step_call (Users_spec (hP.keepN hc2) _) ?_
  rintro x w3 ⟨rfl, rfl⟩
  refine ⟨_, rfl, Ch.drew e2, ?_, hc2⟩
  unfold usersV
  rw [he.2.1]
theorem Evict_spec (h : PX W w pb xb k B ps es FP FI) (hB : 0 ≤ B ∧ B ≤ 1000000000) (hk : k ≤ 1000) (hn : es.length < 1000) :
    Calls Try.prog i_prefix_Index_Evict #[.pointer (some ⟨xb, 0, none⟩)] w (Ret fun x w' => x = .bool (decide (evI ps es < es.length)) ∧ PX W w' pb xb k B (evP ps es) (es.eraseIdx (evI ps es)) FP FI ∧ Ch (fun i => FI i ∨ FP i) w w') := by
  refine prefix_Index_Evict.calls _ ?_
  unfold prefix_Index_Evict.vc
  intro w1 e1
  have hX1 := Blk.new e1
  have hc1 : Ch Non w w1 := Ch.alloc e1
  have h1 := h.keepN hc1
  have hxI : ¬ FI w.heap.size := fun hi => Nat.lt_irrefl _ (h.lt _ hi)
  have hxP : ¬ FP w.heap.size := fun hi => Nat.lt_irrefl _ (h.p.lt _ hi)
  have hsx : w.heap.size < w1.heap.size := hX1.lt
  clear e1
  generalize hcb : w.heap.size = cb at hX1 hxI hxP hsx ⊢
  obtain ⟨o, c, gs, R, hC, hF, hA⟩ := h1.x
  refine ⟨_, hX1.cell 0 rfl, iteF rfl ⟨_, hX1.cell 0 rfl, _, _, _, hC.blk.cell 1 rfl, ?_⟩⟩
  refine step_call (Index_ev_spec (p := fun e => usersV ps e.page == 1) hC.own hC.len hA (fun w' hc g e he => Evict_c1_spec he (h1.p.r.keepN hc) (hX1.keepN hc) (hC.blk.keepN hc))) ?_
  rintro x w2 ⟨rfl, hc2⟩
  have hev : es.findIdx (fun e => usersV ps e.page == 1) = evI ps es := rfl
  rw [hev]
  have hxm : ∀ {w'}, Ch Non w w' → Ch (fun i => FI i ∨ FP i) w w' := fun hc => hc.any
  by_cases hlt : evI ps es < es.length
  rotate_left
  · rw [if_neg hlt, decide_eq_false hlt]
    have hc := hc1.andN hc2
    refine ⟨_, rfl, iteT (by decide) ⟨rfl, ?_, hc.any⟩⟩
    have e1 : evP ps es = ps := by unfold evP; rw [List.getElem?_eq_none (by omega)]
    rw [e1, List.eraseIdx_of_length_le (by omega)]
    exact h.keepN hc
  rw [if_pos hlt, decide_eq_true hlt]
  refine ⟨_, rfl, iteF (decide_eq_false (by omega)) ?_⟩
  have hevp : evP ps es = dropQ ps es[evI ps es].page := by unfold evP; rw [List.getElem?_eq_getElem hlt]
  rw [hevp]
  generalize evI ps es = j at hlt ⊢
  have hjj : (j : Int).toNat = j := Int.toNat_natCast j
  have hjg : j < gs.length := by rw [hA.length]; exact hlt
  have h2 := h1.keepN hc2
  have hX2 := hX1.keepN hc2
  have hC2 := hC.keep hc2 (fun _ _ _ hN => hN)
  have hA2 : All2 (fun g e => EcR w2 g e (R 2)) gs es := hA.imp (fun _ _ k => k.keepN hc2)
  have hRP : ∀ k i, R k i → ¬ FP i := fun k i hi => h.ap i (hF k i hi)
  have hxF := hF 0 xb hC.z
  obtain ⟨p, hp, _⟩ := hC2.own.rd.elem (sz := 3) (enc := ecE) (fun _ => rfl) (by omega) hjg
  subst hp
  have hpg := (hA.get j hjg hlt).2.1
  refine ⟨fun w' => Ch FP w2 w', fun w3 e3 => ⟨Ch.drew e3, ?_⟩⟩
  refine ⟨_, fun w' hc => (hX2.keep hc hxP).cell 0 rfl, _, fun w' hc => (hC2.blk.keep hc (fun hx => hRP 0 xb hC.z hx)).cell 0 rfl, _, fun w' hc => (hX2.keep hc hxP).cell 0 rfl, _, _, _, fun w' hc => (hC2.blk.keep hc (fun hx => hRP 0 xb hC.z hx)).cell 1 rfl, ⟨by omega, by omega⟩, ?_⟩
  refine ⟨_, fun w' hc => by
    obtain ⟨p', hp', _, _, hcell⟩ := (hC2.own.keep hc (fun i _ a b => hRP 1 i a b)).rd.elem (sz := 3) (enc := ecE) (fun _ => rfl) (by omega) hjg
    have hpp : p = p' := Option.some.inj hp'
    subst hpp
    rw [hjj]; exact hcell 2 _ rfl, fun w9 e9 => ?_⟩
  have hB9 := Blk.new e9
  have hc29 : Ch Non w2 w9 := (Ch.drew (F := Non) e3).andN (Ch.alloc e9)
  have hs23 : w2.heap.size = w3.heap.size := by subst e3; rfl
  have h9 := h2.keepN hc29
  refine ⟨hc29.any, ?_⟩
  refine step_call (Drop1_spec h9.p.r h9.p.lt h9.g hk hB hB9 (fun hf => by have := h2.p.lt _ hf; omega)) ?_
  rintro x w10 ⟨⟨x27, rfl⟩, hr10, hc10⟩
  rw [hpg] at hr10
  have hc210 : Ch FP w2 w10 := (hc29.any (F := FP)).same hc10
  have h10 := h9.pool hr10 hc10 (dropQ_good h.g hB.1 _)
  refine ⟨_, rfl, hc210, ?_⟩
  have hX10 := hX2.keep hc210 hxP
  have hC10 := hC2.keep hc210 hRP
  have hA10 : All2 (fun g e => EcR w10 g e (R 2)) gs es := hA2.imp (fun _ _ k => k.keep hc210 (fun i _ a b => hRP 2 i a b))
  have hcbR : ∀ k, ¬ R k cb := fun k hi => hxI (hF k _ hi)
  refine ⟨fun w' => Ch (R 1) w10 w', fun w11 e11 => ⟨Ch.drew e11, ?_⟩⟩
  have hxb1 : ¬ R 1 xb := fun hx => hC.fam.2 0 1 (by omega) xb hC.z hx
  refine ⟨_, fun w' hc => (hX10.keep hc (hcbR 1)).cell 0 rfl, _, fun w' hc => (hX10.keep hc (hcbR 1)).cell 0 rfl, _, _, _, fun w' hc => (hC10.blk.keep hc hxb1).cell 1 rfl, ?_⟩
  refine step_call (Delete_spec (hC10.own.keepN (Ch.drew e11)) hC10.len hlt (by omega)) ?_
  rintro x w15 ⟨rfl, hO15, hc15⟩
  have hc1015 : Ch (R 1) w10 w15 := (Ch.drew (F := R 1) e11).same hc15
  have hB15 := hC10.blk.keep hc1015 hxb1
  refine ⟨_, _, _, rfl, hc1015, hB15.ok 1 rfl, fun w16 e16 => ⟨rfl, ?_⟩⟩
  have hc16 : Ch (· = xb) w15 w16 := Ch.set (p := ⟨xb, 1, none⟩) e16 rfl
  have hcI : Ch FI w10 w16 := (hc1015.mono (fun i _ hi => hF 1 i hi)).same (hc16.mono (fun i _ hi => hi ▸ hxF))
  have hB16 := hB15.set e16
  have hel : (es.eraseIdx j).length = es.length - 1 := by rw [List.length_eraseIdx, if_pos hlt]
  have hx16 : IdxR w16 xb pb (es.eraseIdx j) FI := by
    refine ⟨some p, c, gs.eraseIdx j, R, ⟨(hC10.fam.le hc1015.size).le hc16.size, hC.z, ?_, ?_, by rw [List.length_eraseIdx, if_pos hjg, hel, hC.len]⟩, hF, ?_⟩
    · rw [hel]; exact hB16
    · rw [hel]; exact hO15.keep hc16 (fun i _ hi he => hxb1 (he ▸ hi))
    · refine (All2.eraseIdx hA10 j).imp (fun g e hq => (hq.keep hc1015 (fun i _ a b => hC.fam.2 2 1 (by omega) i a b)).keep hc16 (fun i _ a b => hC.fam.2 2 0 (by omega) i a (b ▸ hC.z)))
  refine ⟨⟨⟨h10.p.r.keep hcI (fun i _ a b => h.ap i b a), h10.p.f.le hcI.size, h10.f.hi h10.p.c hcI⟩, hx16, h10.g, h10.f.le hcI.size, h10.ap⟩, ?_⟩
  exact (((hc1.andN hc2).any (F := fun i => FI i ∨ FP i)).trans hc210 (fun i _ hi => .inr hi)).trans hcI (fun i _ hi => .inl hi)
theorem Forget_c1_spec {g : EcC} {e : EntD} {c0 c1 T0 T1 : Nat} {sv : Value} {v : Int} (he : EcR w g e Fd) (hP : PoolR w pb ps FP) (hFP : ∀ i, FP i → i < w.heap.size) (hg : Pages.Good k B ps) (hk : k ≤ 1000) (hB : 0 ≤ B ∧ B ≤ 1000000000)
    (h0 : Blk w c0 [.int .i64 v] T0) (h1 : Blk w c1 [.pointer (some ⟨xb, 0, none⟩)] T1) (hx : Blk w xb [.pointer (some ⟨pb, 0, none⟩), sv] t_prefix_Index) (n0 : ¬ FP c0) (n1 : ¬ FP c1) (nx : ¬ FP xb) :
    Calls Try.prog i_prefix_Index_Forget_c1 #[.agg #[.int .i64 g.ver, .slice g.to g.tn g.tc, .int .i64 g.page], .pointer (some ⟨c0, 0, none⟩), .pointer (some ⟨c1, 0, none⟩)] w
      (Ret fun x w' => x = .bool (e.ver == v) ∧ PoolR w' pb (fgS v ps e) FP ∧ Ch FP w w') := by
  refine prefix_Index_Forget_c1.calls _ _ _ _ _ _ _ ?_
  unfold prefix_Index_Forget_c1.vc fgS
  intro w1 e1
  have hE := Blk.new e1
  have hc1 : Ch Non w w1 := Ch.alloc e1
  have h01 := h0.keepN hc1
  have h11 := h1.keepN hc1
  have hx1 := hx.keepN hc1
  have hs : w.heap.size < w1.heap.size := hE.lt
  have nE : ¬ FP w.heap.size := fun hf => Nat.lt_irrefl _ (hFP _ hf)
  have hv : g.ver = e.ver := he.1
  rw [← hv]
  refine ⟨_, hE.cell 0 rfl, _, h01.cell 0 rfl, fun hb => ?_, fun hb => ?_⟩
  · refine ⟨fun w' => Ch FP w1 w', fun w2 e2 => ⟨Ch.drew e2, ?_⟩⟩
    refine ⟨_, fun w' hc => (h11.keep hc n1).cell 0 rfl, _, fun w' hc => (hx1.keep hc nx).cell 0 rfl, _, fun w' hc => (hE.keep hc nE).cell 2 rfl, fun w6 e6 => ?_⟩
    have hB6 := Blk.new e6
    have hc6 : Ch Non w1 w6 := (Ch.drew (F := Non) e2).andN (Ch.alloc e6)
    have hs2 : w1.heap.size = w2.heap.size := by subst e2; rfl
    refine ⟨hc6.any, ?_⟩
    refine step_call (Drop1_spec (hP.keepN (hc1.andN hc6)) (fun i hi => by have := hFP i hi; have := hc6.size; omega) hg hk hB hB6 (fun hf => by have := hFP _ hf; omega)) ?_
    rintro x w7 ⟨⟨x16, rfl⟩, hr7, hc7⟩
    have hc17 : Ch FP w1 w7 := (hc6.any (F := FP)).same hc7
    refine ⟨_, rfl, hc17, _, (hE.keep hc17 nE).cell 0 rfl, _, (h01.keep hc17 n0).cell 0 rfl, ?_, ?_, (hc1.any (F := FP)).same hc17⟩
    · rfl
    · rw [if_pos hb, ← he.2.1]; exact hr7
  · refine ⟨_, hE.cell 0 rfl, _, h01.cell 0 rfl, rfl, ?_, hc1.any⟩
    rw [if_neg (by rw [hb]; decide)]
    exact hP.keepN hc1
end
end Go.Proofs.Ytpcddfhfchempaa.Prefix
