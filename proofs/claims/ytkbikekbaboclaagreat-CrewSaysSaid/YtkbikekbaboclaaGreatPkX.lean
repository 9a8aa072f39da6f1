import Derived.Test.YtkbikekbaboclaaGreatPagesLaw5
import Derived.Test.YtkbikekbaboclaaGreatCut
import Derived.Test.YtkbikekbaboclaaGreatVcPrefix
set_option linter.unusedVariables false
set_option linter.unusedSimpArgs false
namespace Go.Proofs.YtkbikekbaboclaaGreat.Prefix
open Go Go.Proofs V Vc Step Pages Go.RowKit
structure EntD where
 ver : Int
 toks : List Int
 page : Int
structure EcC where
 ver : Int
 to : Option Addr
 tn : Nat
 tc : Nat
 page : Int
def ecE (g : EcC) : List Value := [.int .i64 g.ver, .slice g.to g.tn g.tc, .int .i64 g.page]
def EcR (w : World) (g : EcC) (e : EntD) (Fd : Nat → Prop) : Prop := g.ver = e.ver ∧ g.page = e.page ∧ g.tn = e.toks.length ∧ Rd w g.to (e.toks.map (.int .i64)) Fd ∧ e.toks.length ≤ 1000
theorem EcR.keep {w w' : World} {g : EcC} {e : EntD} {Fd G : Nat → Prop} (h : EcR w g e Fd) (hc : Ch G w w') (hd : ∀ i, i < w.heap.size → Fd i → ¬ G i) : EcR w' g e Fd := ⟨h.1, h.2.1, h.2.2.1, h.2.2.2.1.keep hc hd, h.2.2.2.2⟩
theorem EcR.keepN {w w' : World} {g : EcC} {e : EntD} {Fd : Nat → Prop} (h : EcR w g e Fd) (hc : Ch Non w w') : EcR w' g e Fd := h.keep hc (fun _ _ _ => id)
theorem EcR.mono {w : World} {g : EcC} {e : EntD} {Fd G : Nat → Prop} (h : EcR w g e Fd) (hg : ∀ i, i < w.heap.size → Fd i → G i) : EcR w g e G := ⟨h.1, h.2.1, h.2.2.1, h.2.2.2.1.mono hg, h.2.2.2.2⟩
structure IdxC (w : World) (xb pb : Nat) (o : Option Addr) (c : Nat) (gs : List EcC) (R : Nat → Nat → Prop) (n : Nat) : Prop where
 fam : Fam w R
 z : R 0 xb
 blk : Blk w xb [.pointer (some ⟨pb, 0, none⟩), .slice o n c] t_prefix_Index
 own : Own w t_prefix_entry 3 o n c (gs.map ecE).flatten (R 1)
 len : gs.length = n
def IdxR (w : World) (xb pb : Nat) (es : List EntD) (F : Nat → Prop) : Prop :=
 ∃ (o : Option Addr) (c : Nat) (gs : List EcC) (R : Nat → Nat → Prop), IdxC w xb pb o c gs R es.length ∧ (∀ k i, R k i → F i) ∧ All2 (fun g e => EcR w g e (R 2)) gs es
def hasB (v : Int) (t : List Int) (e : EntD) : Bool := (e.ver == v) && decide (e.toks = t)
def findI (es : List EntD) (v : Int) (t : List Int) : Int := if es.findIdx (hasB v t) < es.length then (es.findIdx (hasB v t) : Int) else -1
section
variable {w w' : World} {xb pb : Nat} {o : Option Addr} {c n : Nat} {gs : List EcC} {R : Nat → Nat → Prop} {es : List EntD} {F G Fa Fd : Nat → Prop} {t : List Int}
theorem IdxC.keep (h : IdxC w xb pb o c gs R n) (hc : Ch G w w') (hd : ∀ k i, R k i → ¬ G i) : IdxC w' xb pb o c gs R n :=
 ⟨h.fam.le hc.size, h.z, h.blk.keep hc (hd 0 xb h.z), h.own.keep hc (fun i _ hi => hd 1 i hi), h.len⟩
theorem IdxR.keep (h : IdxR w xb pb es F) (hc : Ch G w w') (hd : ∀ i, i < w.heap.size → F i → ¬ G i) : IdxR w' xb pb es F := by
 obtain ⟨o, c, gs, R, hC, hF, hP⟩ := h
 have hd' : ∀ k i, R k i → ¬ G i := fun k i hi => hd i (hC.fam.1 k i hi) (hF k i hi)
 exact ⟨o, c, gs, R, hC.keep hc hd', hF, hP.imp (fun _ _ k => k.keep hc (fun j _ hj => hd' _ j hj))⟩
theorem IdxR.keepN (h : IdxR w xb pb es F) (hc : Ch Non w w') : IdxR w' xb pb es F := h.keep hc (fun _ _ _ => id)
theorem IdxR.mono (h : IdxR w xb pb es F) (hg : ∀ i, i < w.heap.size → F i → G i) : IdxR w xb pb es G := by
 obtain ⟨o, c, gs, R, hC, hF, hP⟩ := h
 exact ⟨o, c, gs, R, hC, fun k i hi => hg i (hC.fam.1 k i hi) (hF k i hi), hP⟩
theorem find_c1_spec {g : EcC} {e : EntD} {c0 c1 T0 T1 tc : Nat} {v : Int} {to : Option Addr} (he : EcR w g e Fd) (h0 : Blk w c0 [.int .i64 v] T0) (h1 : Blk w c1 [.slice to t.length tc] T1) (ht : Rd w to (t.map (.int .i64)) G) :
  Calls Tryz.prog i_prefix_Index_find_c1 #[.agg #[.int .i64 g.ver, .slice g.to g.tn g.tc, .int .i64 g.page], .pointer (some ⟨c0, 0, none⟩), .pointer (some ⟨c1, 0, none⟩)] w (Ret fun x w' => x = .bool (hasB v t e) ∧ Ch Non w w') := by
 obtain ⟨a1, a2, a3, a4, a5⟩ := he
 refine prefix_Index_find_c1.calls _ _ _ _ _ _ _ ?_
 unfold prefix_Index_find_c1.vc hasB
 intro w1 e1
 have hE := Blk.new e1
 have hc : Ch Non w w1 := Ch.alloc e1
 rw [← a1]
 refine ⟨_, hE.cell 0 rfl, _, (h0.keepN hc).cell 0 rfl, fun hb => ?_, fun hb => ?_⟩
 ·refine ⟨_, _, _, hE.cell 1 rfl, _, _, _, (h1.keepN hc).cell 0 rfl, ?_⟩
  rw [a3]
  refine step_call (Equal_spec (a4.keepN hc) (ht.keepN hc) (by omega)) ?_
  rintro x w2 ⟨rfl, hc2⟩
  exact ⟨_, rfl, by rw [hb, Bool.true_and], hc.andN hc2⟩
 ·exact ⟨by rw [hb, Bool.false_and], hc⟩
theorem Index_fi_spec {p : EntD → Bool} {c0 c1 : Nat} (hO : Own w t_prefix_entry 3 o n c (gs.map ecE).flatten Fa) (hl : gs.length = n) (hA : All2 (fun g e => EcR w g e Fd) gs es)
  (hcl : ∀ w', Ch Non w w' → ∀ g e, EcR w' g e Fd → Calls Tryz.prog i_prefix_Index_find_c1 #[.agg #[.int .i64 g.ver, .slice g.to g.tn g.tc, .int .i64 g.page], .pointer (some ⟨c0, 0, none⟩), .pointer (some ⟨c1, 0, none⟩)] w' (Ret fun x w'' => x = .bool (p e) ∧ Ch Non w' w'')) :
  Calls Tryz.prog 103 #[.slice o n c, .func (.func i_prefix_Index_find_c1) #[] #[.pointer (some ⟨c0, 0, none⟩), .pointer (some ⟨c1, 0, none⟩)]] w
   (Ret fun v w' => v = .int .i64 (if es.findIdx p < es.length then (es.findIdx p : Int) else -1) ∧ Ch Non w w') := by
 refine slices_IndexFunc.calls_fi _ _ _ _ _ ?_
 unfold slices_IndexFunc.vc_fi
 have hml : gs.length ≤ maxLen := by rw [hl]; exact Nat.le_trans hO.2.1 hO.2.2.1
 unfold maxLen at hml
 refine ⟨fun i k w' => Ch Non w w' ∧ ∃ j : Nat, i = j ∧ j ≤ gs.length ∧ k = gs.length - j ∧ ∀ m (hm : m < j) (h : m < es.length), p es[m] = false, ⟨_, Ch.refl _ _, 0, rfl, Nat.zero_le _, rfl, fun m hm => by omega⟩, ?_⟩
 rintro jk i k w1 ⟨hc, j, rfl, hj, rfl, hno⟩
 have hge := hA.length
 subst hl
 refine ⟨fun hlt => ?_, fun hge2 => ?_⟩
 ·have hlt : j < gs.length := by have := of_decide_eq_true hlt; omega
  have hlt2 : j < es.length := by omega
  obtain ⟨q, hq, _, _, hcell⟩ := (hO.keepN hc).rd.elem (sz := 3) (enc := ecE) (fun _ => rfl) (by omega) hlt
  subst hq
  have c0 := hcell 0 _ rfl
  rw [add_none] at c0
  refine ⟨⟨by omega, by omega⟩, _, _, _, _, _, ⟨c0, hcell 1 _ rfl, hcell 2 _ rfl⟩, ?_⟩
  refine step_call (hcl w1 hc _ _ ((hA.get j hlt hlt2).keepN hc)) ?_
  rintro v w2 ⟨rfl, hc2⟩
  refine ⟨_, rfl, fun hb => ?_, fun hb => ?_⟩
  ·have hidx : es.findIdx p = j := (List.findIdx_eq hlt2).2 ⟨hb, fun m hm => hno m hm (by omega)⟩
   rw [hidx, if_pos hlt2]
   exact ⟨rfl, hc.andN hc2⟩
  ·refine ⟨gs.length - (j + 1), by omega, hc.andN hc2, j + 1, by rw [wrap_id (by omega) (by omega)]; rfl, hlt, rfl, fun m hm h => ?_⟩
   by_cases hmj : m = j
   ·subst hmj; exact hb
   ·exact hno m (by omega) h
 ·have : j = gs.length := by have := of_decide_eq_false hge2; omega
  have hidx : es.findIdx p = es.length := List.findIdx_eq_length.2 (fun g hg => by
   obtain ⟨m, hm, rfl⟩ := List.getElem_of_mem hg
   exact hno m (by omega) hm)
  rw [hidx, if_neg (Nat.lt_irrefl _)]
  exact ⟨rfl, hc⟩
theorem Index_ev_spec {p : EntD → Bool} {c0 : Nat} (hO : Own w t_prefix_entry 3 o n c (gs.map ecE).flatten Fa) (hl : gs.length = n) (hA : All2 (fun g e => EcR w g e Fd) gs es)
  (hcl : ∀ w', Ch Non w w' → ∀ g e, EcR w' g e Fd → Calls Tryz.prog i_prefix_Index_Evict_c1 #[.agg #[.int .i64 g.ver, .slice g.to g.tn g.tc, .int .i64 g.page], .pointer (some ⟨c0, 0, none⟩)] w' (Ret fun x w'' => x = .bool (p e) ∧ Ch Non w' w'')) :
  Calls Tryz.prog 103 #[.slice o n c, .func (.func i_prefix_Index_Evict_c1) #[] #[.pointer (some ⟨c0, 0, none⟩)]] w
   (Ret fun v w' => v = .int .i64 (if es.findIdx p < es.length then (es.findIdx p : Int) else -1) ∧ Ch Non w w') := by
 refine slices_IndexFunc.calls_ev _ _ _ _ ?_
 unfold slices_IndexFunc.vc_ev
 have hml : gs.length ≤ maxLen := by rw [hl]; exact Nat.le_trans hO.2.1 hO.2.2.1
 unfold maxLen at hml
 refine ⟨fun i k w' => Ch Non w w' ∧ ∃ j : Nat, i = j ∧ j ≤ gs.length ∧ k = gs.length - j ∧ ∀ m (hm : m < j) (h : m < es.length), p es[m] = false, ⟨_, Ch.refl _ _, 0, rfl, Nat.zero_le _, rfl, fun m hm => by omega⟩, ?_⟩
 rintro jk i k w1 ⟨hc, j, rfl, hj, rfl, hno⟩
 have hge := hA.length
 subst hl
 refine ⟨fun hlt => ?_, fun hge2 => ?_⟩
 ·have hlt : j < gs.length := by have := of_decide_eq_true hlt; omega
  have hlt2 : j < es.length := by omega
  obtain ⟨q, hq, _, _, hcell⟩ := (hO.keepN hc).rd.elem (sz := 3) (enc := ecE) (fun _ => rfl) (by omega) hlt
  subst hq
  have c0 := hcell 0 _ rfl
  rw [add_none] at c0
  refine ⟨⟨by omega, by omega⟩, _, _, _, _, _, ⟨c0, hcell 1 _ rfl, hcell 2 _ rfl⟩, ?_⟩
  refine step_call (hcl w1 hc _ _ ((hA.get j hlt hlt2).keepN hc)) ?_
  rintro v w2 ⟨rfl, hc2⟩
  refine ⟨_, rfl, fun hb => ?_, fun hb => ?_⟩
  ·have hidx : es.findIdx p = j := (List.findIdx_eq hlt2).2 ⟨hb, fun m hm => hno m hm (by omega)⟩
   rw [hidx, if_pos hlt2]
   exact ⟨rfl, hc.andN hc2⟩
  ·refine ⟨gs.length - (j + 1), by omega, hc.andN hc2, j + 1, by rw [wrap_id (by omega) (by omega)]; rfl, hlt, rfl, fun m hm h => ?_⟩
   by_cases hmj : m = j
   ·subst hmj; exact hb
   ·exact hno m (by omega) h
 ·have : j = gs.length := by have := of_decide_eq_false hge2; omega
  have hidx : es.findIdx p = es.length := List.findIdx_eq_length.2 (fun g hg => by
   obtain ⟨m, hm, rfl⟩ := List.getElem_of_mem hg
   exact hno m (by omega) hm)
  rw [hidx, if_neg (Nat.lt_irrefl _)]
  exact ⟨rfl, hc⟩
theorem find_spec (h : IdxR w xb pb es F) {to : Option Addr} (ht : Rd w to (t.map (.int .i64)) G) (v : Int) (tc : Nat) :
  Calls Tryz.prog i_prefix_Index_find #[.pointer (some ⟨xb, 0, none⟩), .int .i64 v, .slice to t.length tc] w (Ret fun x w' => x = .int .i64 (findI es v t) ∧ Ch Non w w') := by
 obtain ⟨o, c, gs, R, hC, hF, hP⟩ := h
 refine prefix_Index_find.calls _ _ _ _ _ ?_
 unfold prefix_Index_find.vc
 intro w1 e1 w2 e2
 have hA := (Blk.new e1).alloc e2
 have hB := Blk.new e2
 have hc2 : Ch Non w w2 := (Ch.alloc e1).andN (Ch.alloc e2)
 have hC2 := hC.keep hc2 (fun _ _ _ hN => hN)
 refine ⟨_, _, _, hC2.blk.cell 1 rfl, ?_⟩
 refine step_call (Index_fi_spec (p := hasB v t) hC2.own hC2.len (hP.imp (fun _ _ k => k.keepN hc2)) (fun w' hc g e he => find_c1_spec he (hA.keepN hc) (hB.keepN hc) ((ht.keepN hc2).keepN hc))) ?_
 rintro x w3 ⟨rfl, hc3⟩
 exact ⟨_, rfl, rfl, hc2.andN hc3⟩
theorem isBeginning_spec (w : World) (n : Int) (h : 0 ≤ n) : Calls Tryz.prog i_prefix_isBeginning #[.int .i64 n] w (Ret fun v w' => v = .bool (decide (0 < n ∧ n ≤ 32 ∧ n % 4 = 0)) ∧ w' = w) := by
 refine prefix_isBeginning.calls _ ?_
 unfold prefix_isBeginning.vc
 refine ⟨fun h1 => ⟨fun h2 => ⟨by decide, ?_, rfl⟩, fun h2 => ⟨?_, rfl⟩⟩, fun h1 => ⟨?_, rfl⟩⟩
 ·have h1 := of_decide_eq_true h1
  have h2 := of_decide_eq_true h2
  rw [tmod_pos h]
  congr 1
  by_cases h3 : n % 4 = 0
  ·rw [decide_eq_true ⟨h1, h2, h3⟩]; simp [h3]
  ·rw [decide_eq_false (fun k => h3 k.2.2)]; simpa using h3
 ·have h2 := of_decide_eq_false h2
  rw [decide_eq_false (fun k => h2 k.2.1)]
 ·have h1 := of_decide_eq_false h1
  rw [decide_eq_false (fun k => h1 k.1)]
theorem Len_spec (h : IdxR w xb pb es F) : Calls Tryz.prog i_prefix_Index_Len #[.pointer (some ⟨xb, 0, none⟩)] w (Ret fun v w' => v = .int .i64 es.length ∧ w' = w) := by
 obtain ⟨o, c, gs, R, hC, hF, hP⟩ := h
 refine prefix_Index_Len.calls _ ?_
 unfold prefix_Index_Len.vc
 exact ⟨_, _, _, hC.blk.cell 1 rfl, rfl, rfl⟩
theorem ec_one (gs : List EcC) : ∀ u ∈ (gs.map ecE).flatten, u.oneCell' = true := fun u hu => by
 obtain ⟨l, hl, hu⟩ := List.mem_flatten.1 hu
 obtain ⟨g, _, rfl⟩ := List.mem_map.1 hl
 simp only [ecE, List.mem_cons, List.not_mem_nil, or_false] at hu
 rcases hu with rfl | rfl | rfl <;> rfl
theorem Delete_spec (hO : Own w t_prefix_entry 3 o n c (gs.map ecE).flatten Fa) (hl : gs.length = n) {i : Nat} (hi : i < n) (hn : n ≤ 1000000) :
  Calls Tryz.prog 74 #[.slice o n c, .int .i64 i, .int .i64 (IntKind.i64.wrap ((i : Int) + 1))] w (Ret fun v w' => v = .slice o (n - 1) c ∧ Own w' t_prefix_entry 3 o (n - 1) c ((gs.eraseIdx i).map ecE).flatten Fa ∧ Ch Fa w w') := by
 refine slices_Delete.calls _ _ _ _ _ ?_
 unfold slices_Delete.vc
 have hnc := hO.2.1
 rw [wrap_id (by omega) (by omega)]
 refine ⟨⟨by omega, by omega, by omega, by omega⟩, iteF (by simp; omega) ?_⟩
 refine ⟨fun _ => True, fun w1 e1 => ⟨trivial, ⟨by omega, by omega⟩, ⟨by omega, by omega⟩, ?_⟩⟩
 have hO1 := hO.keepN (Ch.drew e1)
 have hi1 : ((i : Int) + 1).toNat = i + 1 := by omega
 have hi0 : (i : Int).toNat = i := by omega
 rw [hi1, hi0]
 obtain ⟨w2, hr2, hO2, hc2⟩ := hO1.cut el_S_prefix_entry (i := i) (j := i + 1) (by omega) (by omega) (ec_one gs) t_S_prefix_entry
 refine ⟨_, _, _, w2, hr2, trivial, ⟨by omega, by omega, by omega⟩, ?_⟩
 have hk : i + (n - (i + 1)) = n - 1 := by omega
 rw [hk] at hO2 ⊢
 have hz : zeroB Tryz.prog t_prefix_entry = true := by kernel_rfl
 obtain ⟨x, w3, hr3, hO3, hc3⟩ := hO2.clear el_S_prefix_entry hz (i := n - 1) (by omega) 0
 have e1' : ((n - 1 : Nat) : Int).toNat = n - 1 := Int.toNat_natCast _
 have e2' : ((n : Nat) : Int).toNat = n := Int.toNat_natCast _
 refine ⟨x, w3, by rw [e1', e2']; exact hr3, rfl, ?_, ((Ch.drew (F := Fa) e1).same hc2).same hc3⟩
 have hlen : ((gs.map ecE).flatten.take (i * 3) ++ (gs.map ecE).flatten.drop ((i + 1) * 3)).length = (n - 1) * 3 := by
  have := hO.1
  rw [List.length_append, List.length_take, List.length_drop, this]; omega
 rw [List.take_append, List.take_of_length_le (by omega), hlen, Nat.sub_self, List.take_zero, List.append_nil] at hO3
 rw [eraseIdx_td, List.map_append, List.flatten_append, ← flatten_take (enc := ecE) (sz := 3) (fun _ => rfl), ← flatten_drop (enc := ecE) (sz := 3) (fun _ => rfl)]
 exact hO3
end
end Go.Proofs.YtkbikekbaboclaaGreat.Prefix
set_option linter.unusedVariables false
set_option linter.unusedSimpArgs false
namespace Go.Proofs.YtkbikekbaboclaaGreat.Prefix
open Go Go.Proofs V Vc Step Pages Go.RowKit
structure PX (W w : World) (pb xb k : Nat) (B : Int) (ps : List PageD) (es : List EntD) (FP FI : Nat → Prop) : Prop where
 p : Pool W w pb ps FP
 x : IdxR w xb pb es FI
 g : Pages.Good k B ps
 f : Foot W w FI
 ap : Apart FI FP
section
variable {W w w' : World} {pb xb k n : Nat} {B : Int} {ps ps' : List PageD} {es es' : List EntD} {FP FI F G : Nat → Prop} {o : Option Addr} {c : Nat} {gs : List EcC} {R : Nat → Nat → Prop}
theorem PX.keepN (h : PX W w pb xb k B ps es FP FI) (hc : Ch Non w w') : PX W w' pb xb k B ps es FP FI := ⟨h.p.keepN hc, h.x.keepN hc, h.g, h.f.le hc.size, h.ap⟩
theorem PX.lt (h : PX W w pb xb k B ps es FP FI) : ∀ i, FI i → i < w.heap.size := fun i hi => (h.f i hi).2
theorem PX.pool (h : PX W w pb xb k B ps es FP FI) {B' : Int} (hr : PoolR w' pb ps' FP) (hc : Ch FP w w') (hg : Pages.Good k B' ps') : PX W w' pb xb k B' ps' es FP FI :=
 ⟨h.p.step hr hc, h.x.keep hc (fun i _ hi hf => h.ap i hi hf), hg, h.f.le hc.size, h.ap⟩
theorem PX.index (h : PX W w pb xb k B ps es FP FI) (hx : IdxR w' xb pb es' (Ext FI w w')) (hc : Ch FI w w') : PX W w' pb xb k B ps es' FP (Ext FI w w') :=
 ⟨⟨h.p.r.keep hc (fun i _ hi hf => h.ap i hf hi), h.p.f.le hc.size, h.f.hi h.p.c hc⟩, hx, h.g, h.f.ext h.p.c hc.size, h.ap.extL h.p.f⟩
theorem PX.le (h : PX W w pb xb k B ps es FP FI) {B' : Int} (hB : B ≤ B') : PX W w pb xb k B' ps es FP FI := ⟨h.p, h.x, h.g.le hB, h.f, h.ap⟩
theorem push_spec (fam : Fam w R) (z : R 0 xb) {sv : Value} (blk : Blk w xb [.pointer (some ⟨pb, 0, none⟩), sv] t_prefix_Index) (own : Own w t_prefix_entry 3 o n c (gs.map ecE).flatten (R 1)) (len : gs.length = n)
  (hP : All2 (fun g e => EcR w g e (R 2)) gs es) (hF : ∀ k i, R k i → F i) (hn : n < 1000) {nb : Nat} {g : EcC} {e : EntD} (hb : Blk w nb (ecE g) t_prefix_entry) (hg : EcR w g e (R 2)) :
  ∃ (o' : Option Addr) (c' : Nat) (w' : World), (Builtin.append_ #[t_S_prefix_entry, t_S_prefix_entry] t_S_prefix_entry #[.slice o n c, .slice (some ⟨nb, 0, none⟩) 1 1]).run Tryz.prog w = .ok (.slice o' (n + 1) c') w' ∧ Ch (R 1) w w' ∧
   ((∃ u, w'.cell? ⟨xb, 1, none⟩ = some u) ∧ w'.frozen? ⟨xb, 1, none⟩ = false) ∧
   ∀ w'' : World, w'' = w'.setCell ⟨xb, 1, none⟩ (.slice o' (n + 1) c') → IdxR w'' xb pb (es ++ [e]) (Ext F w w') ∧ Ch (· = xb) w' w'' := by
 obtain ⟨o', c', w', hr, ho, hc⟩ := Own.appendRd (c2 := 1) (m := 1) el_S_prefix_entry own t_S_prefix_entry hb.rd rfl (fun u hu => by
  simp only [ecE, List.mem_cons, List.not_mem_nil, or_false] at hu
  rcases hu with rfl | rfl | rfl <;> rfl) (by unfold maxLen; omega) (by omega)
 have hfam := fam.upd hc.size 1
 have r1 : updF R 1 w w' 1 = Ext (R 1) w w' := updF_same 1
 have rk : ∀ k, k ≠ 1 → updF R 1 w w' k = R k := fun k hk => updF_other hk
 have hB := blk.keep hc (fun hx => fam.2 0 1 (by omega) xb z hx)
 refine ⟨o', c', w', hr, hc, hB.ok 1 rfl, fun w'' e2 => ?_⟩
 have hc2 : Ch (· = xb) w' w'' := Ch.set e2 rfl
 have hB2 := hB.set e2
 have hn0 : ∀ k i, k ≠ 0 → updF R 1 w w' k i → ¬ i = xb := fun k i hk hi he => by
  subst he
  exact hfam.2 0 k (fun e => hk e.symm) i (by rw [rk 0 (by omega)]; exact z) hi
 refine ⟨⟨o', c', gs ++ [g], updF R 1 w w', ⟨hfam.le hc2.size, by rw [rk 0 (by omega)]; exact z, ?_, ?_, by simp [hP.length]⟩, fun k i hi => ?_, ?_⟩, hc2⟩
 ·have : (es ++ [e]).length = n + 1 := by rw [List.length_append, ← hP.length, len]; rfl
  rw [this]; exact hB2
 ·have : (es ++ [e]).length = n + 1 := by rw [List.length_append, ← hP.length, len]; rfl
  rw [this, r1, List.map_append, List.flatten_append]
  have h2 := ho.keep hc2 (fun i _ hi he => hn0 1 i (by omega) (by rw [r1]; exact hi) he)
  simpa using h2
 ·unfold updF at hi
  split at hi
  ·rcases hi with hi | hi
   ·exact .inl (hF _ _ hi)
   ·exact .inr hi
  ·exact .inl (hF _ _ hi)
 ·rw [rk 2 (by omega)]
  have hk2 : ∀ {g e}, EcR w g e (R 2) → EcR w'' g e (R 2) := fun h => (h.keep hc (fun i _ a b => fam.2 2 1 (by omega) i a b)).keep hc2 (fun i _ a b => hn0 2 i (by omega) (by rw [rk 2 (by omega)]; exact a) b)
  exact (hP.imp (fun _ _ h => hk2 h)).snoc (hk2 hg)
def addOk (ps : List PageD) (id v : Int) : Bool := isB ps id && ((pgAt ps id).ver == v) && ((pgAt ps id).es.length == 4)
def addE (ps : List PageD) (es : List EntD) (id v : Int) (t : List Int) : Int :=
 if ¬ (0 < (t.length : Int) ∧ (t.length : Int) ≤ 32 ∧ (t.length : Int) % 4 = 0) then 1 else if findI es v t ≥ 0 then 9 else if addOk ps id v then 0 else 8
def addX (ps : List PageD) (es : List EntD) (id v : Int) (t : List Int) : List EntD := if addE ps es id v t = 0 then es ++ [⟨v, t, id⟩] else es
def addP (ps : List PageD) (es : List EntD) (id v : Int) (t : List Int) : List PageD := if addE ps es id v t = 0 then addU 1 ps id else ps
theorem PX.fail (h : PX W w pb xb k B ps es FP FI) {id v : Int} {t : List Int} {e : Int} (hw : Ch Non w w') (he : addE ps es id v t = e) (h0 : e ≠ 0) :
  PX W w' pb xb k (B + 1) (addP ps es id v t) (addX ps es id v t) FP (Ext FI w w') ∧ Ch (fun i => FI i ∨ FP i) w w' := by
 unfold addP addX
 rw [he, if_neg h0, if_neg h0]
 have h2 := (h.keepN hw).le (B' := B + 1) (by omega)
 exact ⟨⟨h2.p, h2.x.mono (fun i _ hi => .inl hi), h2.g, fun i hi => by
  rcases hi with hi | hi
  ·exact h2.f i hi
  ·exact ⟨Nat.le_trans h.p.c.size hi.1, hi.2⟩, h.ap.extL h.p.f⟩, hw.any⟩
theorem Add_spec (h : PX W w pb xb k B ps es FP FI) (hB : 0 ≤ B ∧ B ≤ 1000000000) (hn : es.length < 1000) {to : Option Addr} {t : List Int} (ht : Rd w to (t.map (.int .i64)) G) (htl : t.length ≤ 1000) (id v : Int) (tc : Nat) :
  Calls Tryz.prog i_prefix_Index_Add #[.pointer (some ⟨xb, 0, none⟩), .int .i64 id, .int .i64 v, .slice to t.length tc] w (Ret fun x w' => x = .int .i64 (addE ps es id v t) ∧
   PX W w' pb xb k (B + 1) (addP ps es id v t) (addX ps es id v t) FP (Ext FI w w') ∧ Ch (fun i => FI i ∨ FP i) w w') := by
 refine prefix_Index_Add.calls _ _ _ _ _ _ ?_
 unfold prefix_Index_Add.vc
 refine step_call (isBeginning_spec w _ (by omega)) ?_
 rintro x w1 ⟨rfl, rfl⟩
 by_cases hb : 0 < (t.length : Int) ∧ (t.length : Int) ≤ 32 ∧ (t.length : Int) % 4 = 0
 rotate_left
 ·have he : addE ps es id v t = 1 := by unfold addE; rw [if_pos hb]
  refine ⟨_, rfl, iteT (by rw [decide_eq_false hb]; rfl) ⟨by rw [he], h.fail (Ch.refl _ _) he (by decide)⟩⟩
 refine ⟨_, rfl, iteF (by rw [decide_eq_true hb]; rfl) ?_⟩
 refine step_call (find_spec h.x ht v tc) ?_
 rintro x w2 ⟨rfl, hc2⟩
 by_cases hf : findI es v t ≥ 0
 ·have he : addE ps es id v t = 9 := by unfold addE; rw [if_neg (fun hn => hn hb), if_pos hf]
  exact ⟨_, rfl, iteT (decide_eq_true hf) ⟨by rw [he], h.fail hc2 he (by decide)⟩⟩
 refine ⟨_, rfl, iteF (decide_eq_false hf) ?_⟩
 have he8 : addOk ps id v = false → addE ps es id v t = 8 := fun ha => by unfold addE; rw [if_neg (fun hn => hn hb), if_neg hf, ha]; rfl
 have h2 := h.keepN hc2
 have hxb : w2.cell? ⟨xb, 0, none⟩ = some (.pointer (some ⟨pb, 0, none⟩)) := by
  obtain ⟨o, c, gs, R, hC, _⟩ := h2.x
  exact hC.blk.cell 0 rfl
 refine ⟨_, hxb, ?_⟩
 refine step_call (Users_spec h2.p.r id) ?_
 rintro x w3 ⟨rfl, rfl⟩
 have hat := h.g.at hB.1 id
 refine ⟨_, rfl, fun hu => ?_, fun hu => ?_⟩
 ·have hb0 : isB ps id = false := by
   cases hbb : isB ps id with
   | false => rfl
   | true =>
    rw [hbb, if_pos rfl] at hu
    have hz : (pgAt ps id).users = 0 := by simpa using hu
    have := isB_pos hbb; omega
  have he := he8 (by unfold addOk; rw [hb0]; rfl)
  exact ⟨by rw [he], h.fail hc2 he (by decide)⟩
 have hb1 : isB ps id = true := by
  cases hbb : isB ps id with
  | true => rfl
  | false => rw [hbb] at hu; simp at hu
 refine ⟨_, hxb, ?_⟩
 refine step_call (Version_spec h2.p.r id) ?_
 rintro x w4 ⟨rfl, rfl⟩
 rw [hb1, if_pos rfl]
 refine ⟨_, rfl, fun hv => ?_, fun hv => ?_⟩
 ·have hv : ((pgAt ps id).ver == v) = false := by simpa using hv
  have he := he8 (by unfold addOk; rw [hv, Bool.and_false]; rfl)
  exact ⟨by rw [he], h.fail hc2 he (by decide)⟩
 have hv : ((pgAt ps id).ver == v) = true := by simpa using hv
 refine ⟨_, hxb, fun w5 e5 => ?_⟩
 have r5 : Rd w5 (some ⟨w4.heap.size, 0, none⟩) (([id] : List Int).map (.int .i64)) (· = w4.heap.size) := (Blk.new e5).rd
 have hc5 := hc2.andN (Ch.alloc e5)
 have h5 := h.keepN hc5
 refine step_call (Get_spec (l := [id]) h5.p.r r5 (fun p hp => (h5.g.pg p hp).2.2.2) (by simp) 1) ?_
 rintro x w6 ⟨oG, cG, qs, F1, F2, rfl, hG, _⟩
 have hgl : getL ps [id] = (pgAt ps id).es := by unfold getL; simp [hb1]
 rw [hgl]
 have hc6 := hc5.andN hG.ch
 have h6 := h.keepN hc6
 refine ⟨_, _, _, rfl, fun hl => ?_, fun hl => ?_⟩
 ·have hl : ((pgAt ps id).es.length == 4) = false := by
   cases hq : ((pgAt ps id).es.length == 4) with
   | false => rfl
   | true =>
    have : (pgAt ps id).es.length = 4 := by simpa using hq
    rw [this] at hl; simp at hl
  have he := he8 (by unfold addOk; rw [hl, Bool.and_false])
  exact ⟨by rw [he], h.fail hc6 he (by decide)⟩
 have hl : ((pgAt ps id).es.length == 4) = true := by
  have : ((pgAt ps id).es.length : Int) = 4 := by simpa using hl
  simpa using (by omega : (pgAt ps id).es.length = 4)
 have he : addE ps es id v t = 0 := by
  unfold addE addOk
  rw [if_neg (fun hn => hn hb), if_neg hf, hb1, hv, hl]; rfl
 obtain ⟨o, c, gs, R, hC, hF, hP⟩ := h6.x
 have ht6 := ht.keepN hc6
 refine ⟨fun w' => Ch (R 1) w6 w', fun w7 e7 => ⟨Ch.drew e7, _, _, _, fun w' hc => (hC.blk.keep hc (fun hx => hC.fam.2 0 1 (by omega) xb hC.z hx)).cell 1 rfl, ?_⟩⟩
 have hc67 : Ch Non w6 w7 := Ch.drew e7
 refine step_call (Clone_spec (ht6.keepN hc67) (by omega) tc) ?_
 rintro x w9 ⟨⟨o9, c9, rfl, hr9⟩, hc9⟩
 have hc69 := hc67.andN hc9
 refine ⟨_, _, _, rfl, hc69.any, fun w10 e10 => ⟨(hc69.andN (Ch.alloc e10)).any, ?_⟩⟩
 have hB10 := Blk.new e10
 have hc610 : Ch Non w6 w10 := hc69.andN (Ch.alloc e10)
 have hs6 : w6.heap.size ≤ w7.heap.size := hc67.size
 have hs9 := hc9.size
 have hs10 : w9.heap.size < w10.heap.size := hB10.lt
 have hC10 := hC.keep hc610 (fun _ _ _ hN => hN)
 have hfam := hC.fam.upd hc610.size 2
 have r2 : updF R 2 w6 w10 2 = Ext (R 2) w6 w10 := updF_same 2
 have rk : ∀ k, k ≠ 2 → updF R 2 w6 w10 k = R k := fun k hk => updF_other hk
 have hP10 : All2 (fun g e => EcR w10 g e (updF R 2 w6 w10 2)) gs es := by
  rw [r2]; exact hP.imp (fun _ _ k => (k.keepN hc610).mono (fun i _ hi => .inl hi))
 have hg : EcR w10 ⟨v, o9, t.length, c9, id⟩ ⟨v, t, id⟩ (updF R 2 w6 w10 2) := by
  rw [r2]
  exact ⟨rfl, rfl, rfl, (hr9.keepN (Ch.alloc e10)).mono (fun i hi hN => .inr ⟨by have := hN.1; omega, hi⟩), htl⟩
 obtain ⟨o', c', w11, hr11, hc11, hok11, hst⟩ := push_spec (F := Ext FI w6 w10) hfam (by rw [rk 0 (by omega)]; exact hC.z) hC10.blk (by rw [rk 1 (by omega)]; exact hC10.own) hC.len hP10 (fun k i hi => by
  by_cases hk : k = 2
  ·subst hk; rw [r2] at hi; exact hi.imp (fun h => hF _ _ h) (fun h => h)
  ·rw [rk k hk] at hi; exact .inl (hF _ _ hi)) hn (nb := w9.heap.size) (g := ⟨v, o9, t.length, c9, id⟩) (e := ⟨v, t, id⟩) hB10 hg
 rw [rk 1 (by omega)] at hc11
 refine ⟨o', _, c', w11, hr11, (hc610.any (F := R 1)).same hc11, hok11, fun w12 e12 => ?_⟩
 obtain ⟨hX12, hc12⟩ := hst w12 e12
 have hxF : FI xb := hF 0 xb hC.z
 have hc612 : Ch FI w6 w12 := ((hc610.any (F := FI)).same (hc11.mono (fun i _ hi => hF 1 i hi))).same (hc12.mono (fun i _ hi => hi ▸ hxF))
 have hs11 := hc11.size
 have hs12 := hc12.size
 have h12 := h6.index (hX12.mono (fun i hi hE => by
  rcases hE with (hE | hE) | hE
  ·exact .inl hE
  ·exact .inr ⟨hE.1, by have := hE.2; omega⟩
  ·exact .inr ⟨by have := hE.1; omega, by have := hE.2; omega⟩)) hc612
 have hxb12 : w12.cell? ⟨xb, 0, none⟩ = some (.pointer (some ⟨pb, 0, none⟩)) := by
  obtain ⟨o, c, gs, R, hC, _⟩ := h12.x
  exact hC.blk.cell 0 rfl
 refine ⟨_, hxb12, fun w13 e13 => ?_⟩
 have r13 : Rd w13 (some ⟨w12.heap.size, 0, none⟩) (([id] : List Int).map (.int .i64)) (· = w12.heap.size) := (Blk.new e13).rd
 have h13 := h12.keepN (Ch.alloc e13)
 have hs13 : w12.heap.size < w13.heap.size := (Blk.new e13).lt
 have hlt12 := h12.p.lt
 refine step_call (Share_spec (l := [id]) h13.p.r r13 (fun i _ hi hf => by have := hlt12 i hf; omega) (by simp) (by omega) h.g.bnd 1) ?_
 rintro x w14 ⟨rfl, hr14, hc14⟩
 have hall : allB ps [id] = true := by unfold allB; simp [hb1]
 rw [hall] at hr14 ⊢
 have hr14 : PoolR w14 pb (addU 1 ps id) FP := hr14
 have hg14 : Pages.Good k (B + 1) (addU 1 ps id) := Pages.Good.share (l := [id]) hB.1 h.g
 have h14 := h13.pool hr14 hc14 hg14
 have hs14 := hc14.size
 have hcc : Ch (fun i => FI i ∨ FP i) w1 w14 := (((hc6.any (F := fun i => FI i ∨ FP i)).trans hc612 (fun i _ hi => .inl hi)).andN (Ch.alloc e13)).trans hc14 (fun i _ hi => .inr hi)
 refine ⟨_, rfl, by rw [he]; rfl, ?_, hcc⟩
 unfold addP addX
 rw [he, if_pos rfl, if_pos rfl]
 have hsz6 := hc6.size
 have hN : ∀ i, Ext FI w6 w12 i → Ext FI w1 w14 i := fun i hi => hi.imp (fun h => h) (fun h => ⟨by have := h.1; omega, by have := h.2; omega⟩)
 exact ⟨h14.p, h14.x.mono (fun i _ hi => hN i hi), h14.g, fun i hi => by
  rcases hi with hi | hi
  ·exact ⟨(h.f i hi).1, by have := (h.f i hi).2; have := hc6.size; omega⟩
  ·exact ⟨by have := h.p.c.size; have := hi.1; omega, hi.2⟩, h.ap.extL h.p.f⟩
end
end Go.Proofs.YtkbikekbaboclaaGreat.Prefix
set_option linter.unusedVariables false
set_option linter.unusedSimpArgs false
namespace Go.Proofs.YtkbikekbaboclaaGreat.Prefix
open Go Go.Proofs V Vc Step Pages Go.RowKit
theorem All2.eraseIdx {α β : Type} {R : α → β → Prop} : ∀ {xs : List α} {ys : List β}, All2 R xs ys → ∀ i : Nat, All2 R (xs.eraseIdx i) (ys.eraseIdx i)
 | _, _, .nil, _ => .nil
 | _, _, .cons _ b, 0 => b
 | _, _, .cons a b, i + 1 => .cons a (All2.eraseIdx b i)
def findG (v : Int) (t : List Int) : Nat → Nat → List EntD → List Int → List EntD × List Int
 | 0, _, es, out => (es, out)
 | f + 1, n, es, out => if n < t.length then (if h : es.findIdx (hasB v (t.take n)) < es.length then findG v t f (n + 4) (es.eraseIdx (es.findIdx (hasB v (t.take n))) ++ [es[es.findIdx (hasB v (t.take n))]]) (out ++ [es[es.findIdx (hasB v (t.take n))].page]) else (es, out)) else (es, out)
def findR (es : List EntD) (v : Int) (t : List Int) : List EntD × List Int := findG v t t.length 4 es []
theorem findG_len (v : Int) (t : List Int) : ∀ (f n : Nat) (es : List EntD) (out : List Int), (findG v t f n es out).1.length = es.length ∧ (findG v t f n es out).2.length ≤ out.length + f
 | 0, n, es, out => ⟨rfl, Nat.le_refl _⟩
 | f + 1, n, es, out => by
  unfold findG
  split
  ·split
   ·rename_i h
    obtain ⟨a, b⟩ := findG_len v t f (n + 4) (es.eraseIdx (es.findIdx (hasB v (t.take n))) ++ [es[es.findIdx (hasB v (t.take n))]]) (out ++ [es[es.findIdx (hasB v (t.take n))].page])
    refine ⟨?_, ?_⟩
    ·rw [a, List.length_append, List.length_eraseIdx, if_pos h]; simp; omega
    ·rw [List.length_append] at b
     simp only [List.length_cons, List.length_nil] at b
     omega
   ·exact ⟨rfl, Nat.le_add_right _ _⟩
  ·exact ⟨rfl, Nat.le_add_right _ _⟩
theorem findG_stop {v : Int} {t : List Int} {f n : Nat} {es : List EntD} {out : List Int} (h : t.length ≤ n) : findG v t f n es out = (es, out) := by
 cases f with
 | zero => rfl
 | succ f => unfold findG; rw [if_neg (by omega)]
theorem findG_none {v : Int} {t : List Int} {f n : Nat} {es : List EntD} {out : List Int} (h : ¬ es.findIdx (hasB v (t.take n)) < es.length) : findG v t f n es out = (es, out) := by
 cases f with
 | zero => rfl
 | succ f =>
  unfold findG
  split
  ·first
   | rfl
   | rw [dif_neg h]
  ·rfl
theorem findG_some {v : Int} {t : List Int} {f n : Nat} {es : List EntD} {out : List Int} (hn : n < t.length) (h : es.findIdx (hasB v (t.take n)) < es.length) :
  findG v t (f + 1) n es out = findG v t f (n + 4) (es.eraseIdx (es.findIdx (hasB v (t.take n))) ++ [es[es.findIdx (hasB v (t.take n))]]) (out ++ [es[es.findIdx (hasB v (t.take n))].page]) := by
 conv => lhs; unfold findG
 rw [if_pos hn, dif_pos h]
def FX (W w w1 : World) (pb xb k : Nat) (B : Int) (ps : List PageD) (es : List EntD) (FP FI : Nat → Prop) (oA : Option Addr) (oC : Nat) (out : List Int) : Prop :=
 ∃ FI' FO : Nat → Prop, PX W w1 pb xb k B ps es FP FI' ∧ (∀ i, FI' i → Ext FI w w1 i) ∧ Own w1 t_int 1 oA out.length oC (out.map (.int .i64)) FO ∧ (∀ i, FO i → New w w1 i) ∧ Apart FO FI' ∧ Ch FI w w1
section
variable {W w w1 w' : World} {pb xb k : Nat} {B : Int} {ps : List PageD} {es : List EntD} {FP FI G : Nat → Prop} {oA : Option Addr} {oC : Nat} {out t : List Int}
theorem FX.keepN (h : FX W w w1 pb xb k B ps es FP FI oA oC out) (hc : Ch Non w1 w') : FX W w w' pb xb k B ps es FP FI oA oC out := by
 obtain ⟨FI', FO, a, b, c, d, e, f⟩ := h
 exact ⟨FI', FO, a.keepN hc, fun i hi => (b i hi).imp id (fun h => ⟨h.1, by have := h.2; have := hc.size; omega⟩), c.keepN hc, fun i hi => New.le (d i hi) hc.size, e, f.andN hc⟩
set_option maxHeartbeats 1000000 in
theorem Find_own (h : PX W w pb xb k B ps es FP FI) (hB : 0 ≤ B ∧ B ≤ 1000000000) (hn : es.length < 1000) {to : Option Addr} (ht : Rd w to (t.map (.int .i64)) G) (hG : ∀ i, i < w.heap.size → G i → ¬ FI i) (htl : t.length ≤ 1000) (v : Int) {tc : Nat} (htc : t.length ≤ tc) :
  Calls Tryz.prog i_prefix_Index_Find #[.pointer (some ⟨xb, 0, none⟩), .int .i64 v, .slice to t.length tc] w (Ret fun x w' => ∃ (FI' FO : Nat → Prop) (oA : Option Addr) (oC : Nat), x = .slice oA (findR es v t).2.length oC ∧ Own w' t_int 1 oA (findR es v t).2.length oC ((findR es v t).2.map (.int .i64)) FO ∧ (∀ i, FO i → New w w' i) ∧
   PX W w' pb xb k (B + t.length) (if allB ps (findR es v t).2 then shareL ps (findR es v t).2 else ps) (findR es v t).1 FP FI' ∧ (∀ i, FI' i → Ext FI w w' i) ∧ Apart FO FI' ∧ Ch (fun i => FI i ∨ FP i) w w') := by
 refine prefix_Index_Find.calls _ _ _ _ _ ?_
 unfold prefix_Index_Find.vc
 have hrl := findG_len v t t.length 4 es []
 rw [List.length_nil, Nat.zero_add] at hrl
 refine ⟨fun oA oN oC w' => oN = (findR es v t).2.length ∧ FX W w w' pb xb k B ps (findR es v t).1 FP FI oA oC (findR es v t).2,
  ⟨fun oA oN oC n f w' => ∃ (m : Nat) (es' : List EntD) (out : List Int), n = m ∧ 4 ≤ m ∧ t.length ≤ m + f ∧ findG v t f m es' out = findR es v t ∧ out.length + f ≤ t.length ∧ es'.length = es.length ∧ oN = out.length ∧ FX W w w' pb xb k B ps es' FP FI oA oC out,
   ⟨t.length, 4, es, [], rfl, Nat.le_refl _, by omega, rfl, by simp, rfl, rfl, FI, Non, h, fun i hi => .inl hi, Own.nil _ _ _ _, fun _ hi => hi.elim, fun _ hi => hi.elim, Ch.refl _ _⟩, ?_⟩, ?_⟩
 ·rintro jk oA oN oC n f w1 ⟨m, es', out, rfl, hm4, hmf, hfin, hol, hel, rfl, hX⟩
  refine ⟨fun hlt => ?_, fun hge => ?_⟩
  rotate_left
  ·have hge : t.length ≤ m := by have := of_decide_eq_false hge; omega
   rw [findG_stop hge] at hfin
   rw [← hfin]
   exact ⟨rfl, hX⟩
  have hlt : m < t.length := by have := of_decide_eq_true hlt; omega
  refine ⟨⟨by omega, by omega⟩, ?_⟩
  have hX0 := hX
  obtain ⟨FI', FO, hP, hI', hO, hO', hap, hcw⟩ := hX
  have ht1 : Rd w1 (if tc = 0 then to else to.map (·.add (0 * 1))) ((t.take m).map (.int .i64)) G := by
   have := (ht.keep hcw (fun i hi hg hf => hG i hi hg hf)).slice (c := tc) (sz := 1) (by simp; omega) 0 m
   simpa [List.map_take] using this
  have hml : ((m : Int).toNat - 0) = (t.take m).length := by rw [List.length_take]; omega
  rw [hml]
  refine step_call (find_spec hP.x ht1 v _) ?_
  rintro x w2 ⟨rfl, hc2⟩
  refine ⟨_, rfl, ?_⟩
  have hX2 := hX0.keepN hc2
  by_cases hidx : es'.findIdx (hasB v (t.take m)) < es'.length
  rotate_left
  ·have hfi : findI es' v (t.take m) = -1 := by unfold findI; rw [if_neg hidx]
   rw [hfi]
   refine iteT (by decide) ?_
   rw [findG_none hidx] at hfin
   rw [← hfin]
   exact ⟨rfl, hX2⟩
  have hfi : findI es' v (t.take m) = (es'.findIdx (hasB v (t.take m)) : Int) := by unfold findI; rw [if_pos hidx]
  rw [hfi]
  obtain ⟨f, rfl⟩ : ∃ f', f = f' + 1 := ⟨f - 1, by omega⟩
  rw [findG_some hlt hidx] at hfin
  generalize es'.findIdx (hasB v (t.take m)) = j at hidx hfin
  refine iteF (decide_eq_false (by omega)) ?_
  have hP2 := hP.keepN hc2
  have hO2 := hO.keepN hc2
  have hcw2 := hcw.andN hc2
  have hs12 := hc2.size
  obtain ⟨o, c, gs, R, hC, hF, hA⟩ := hP2.x
  have hjg : j < gs.length := by rw [hA.length]; exact hidx
  obtain ⟨p, hp, _, _, hcell⟩ := hC.own.rd.elem (sz := 3) (enc := ecE) (fun _ => rfl) (by omega) hjg
  have he := hA.get j hjg hidx
  subst hp
  have c0 := hcell 0 _ rfl
  rw [add_none] at c0
  have hjj : (j : Int).toNat = j := Int.toNat_natCast j
  refine ⟨_, _, _, hC.blk.cell 1 rfl, ⟨by omega, by omega⟩, _, _, _, _, _, ⟨by rw [hjj]; exact c0, by rw [hjj]; exact hcell 1 _ rfl, by rw [hjj]; exact hcell 2 _ rfl⟩, fun w3 e3 => ?_⟩
  have hE3 := Blk.new e3
  refine ⟨⟨hE3.ok 0 rfl, hE3.ok 1 rfl, hE3.ok 2 rfl⟩, fun w4 e4 => ?_⟩
  have e5 : w4 = w3.setCells w2.heap.size 0 (ecE gs[j]) := e4
  have hE4 := hE3.all (ecE gs[j]) rfl e5
  have hE4 : Blk w4 w2.heap.size (ecE gs[j]) t_prefix_entry := hE4
  have hc24 : Ch Non w2 w4 := (Ch.alloc (F := Non) e3).trans (Ch.sets (F := (· = w2.heap.size)) e5 rfl) (fun i hi he => by omega)
  have hs4 := hE4.lt
  clear e3 e4 e5 hE3 hcell c0
  have hRlt : ∀ k i, R k i → i < w2.heap.size := hC.fam.1
  have hOlt : ∀ i, FO i → i < w2.heap.size := fun i hi => by have := (hO' i hi).2; omega
  generalize hebe : w2.heap.size = eb at hE4 hs4 hRlt hOlt ⊢
  have hebR : ∀ k, ¬ R k eb := fun k hk => Nat.lt_irrefl _ (hRlt k eb hk)
  have hC4 := hC.keep hc24 (fun _ _ _ hN => hN)
  have hA4 := hA.imp (fun _ _ k => EcR.keepN k hc24)
  have hO4 := hO2.keepN hc24
  have hcw4 := hcw2.andN hc24
  have hP4 := hP2.keepN hc24
  generalize hgj : gs[j] = g at hE4 he
  generalize hej : es'[j] = e at he hfin
  have he4 := he.keepN hc24
  clear hc24 hC hA hP2 hO2 hc2 hX2 hX0 hP hcw2
  refine ⟨fun w' => Ch (R 1) w4 w', fun w5 e5 => ⟨Ch.drew e5, _, _, _, fun w' hc => (hC4.blk.keep hc (fun hx => hC4.fam.2 0 1 (by omega) xb hC4.z hx)).cell 1 rfl, ?_⟩⟩
  refine ⟨_, _, _, _, _, ⟨fun w' hc => (hE4.keep hc (hebR 1)).cell 0 rfl, fun w' hc => (hE4.keep hc (hebR 1)).cell 1 rfl, fun w' hc => (hE4.keep hc (hebR 1)).cell 2 rfl⟩, ?_⟩
  have tail : ∀ (wa : World) (nb : Nat), Ch (R 1) w4 wa → Own wa t_prefix_entry 3 (some p) (es'.length - 1) c ((gs.eraseIdx j).map ecE).flatten (R 1) → Blk wa nb (ecE g) t_prefix_entry →
    ∃ (x44A : Option Addr) (x44N x44C : Nat) (w10 : World), (Builtin.append_ #[t_S_prefix_entry, t_S_prefix_entry] t_S_prefix_entry #[.slice (some p) (es'.length - 1) c, .slice (some ⟨nb, 0, none⟩) 1 1]).run Tryz.prog wa = .ok (.slice x44A x44N x44C) w10 ∧
     Ch (R 1) w4 w10 ∧ ((∃ u, w10.cell? (⟨xb, 1, none⟩ : Addr) = some u) ∧ w10.frozen? (⟨xb, 1, none⟩ : Addr) = false) ∧ ∀ w11 : World, w11 = w10.setCell (⟨xb, 1, none⟩ : Addr) (.slice x44A x44N x44C) →
      ∃ x49 : Int, w11.cell? (⟨eb, 2, none⟩ : Addr) = some (.int .i64 x49) ∧ ∀ w12 : World, w12 = w11.alloc (.cells #[.int .i64 x49] t_int (0, 0)) →
       ∃ (x51A : Option Addr) (x51N x51C : Nat) (w13 : World), (Builtin.append_ #[t_S_int, t_S_int] t_S_int #[.slice oA out.length oC, .slice (some ⟨w11.heap.size, 0, none⟩) 1 1]).run Tryz.prog w12 = .ok (.slice x51A x51N x51C) w13 ∧
        ∃ vk_1 : Nat, vk_1 < f + 1 ∧ ∃ (m' : Nat) (es'' : List EntD) (out' : List Int), IntKind.i64.wrap ((m : Int) + 4) = m' ∧ 4 ≤ m' ∧ t.length ≤ m' + vk_1 ∧ findG v t vk_1 m' es'' out' = findR es v t ∧ out'.length + vk_1 ≤ t.length ∧ es''.length = es.length ∧ x51N = out'.length ∧ FX W w w13 pb xb k B ps es'' FP FI x51A x51C out' := by
   intro wa nb hca hOa hBa
   have hsa := hca.size
   have hfa := hC4.fam.le hca.size
   have hBx := hC4.blk.keep hca (fun hx => hC4.fam.2 0 1 (by omega) xb hC4.z hx)
   have hAa : All2 (fun g e => EcR wa g e (R 2)) gs es' := hA4.imp (fun _ _ k => EcR.keep k hca (fun i _ a b => hC4.fam.2 2 1 (by omega) i a b))
   have hea := he4.keep hca (fun i _ a b => hC4.fam.2 2 1 (by omega) i a b)
   obtain ⟨o', c', w10, hr10, hc10, hok10, hst⟩ := push_spec (F := FI') (es := es'.eraseIdx j) hfa hC4.z hBx hOa (by rw [List.length_eraseIdx, if_pos hjg, hC4.len]) (All2.eraseIdx hAa j) hF (by omega) hBa hea
   refine ⟨o', _, c', w10, hr10, hca.same hc10, hok10, fun w11 e11 => ?_⟩
   obtain ⟨hI11, hc11⟩ := hst w11 e11
   have hxb := hC4.z
   have hc411 : Ch (fun i => R 1 i ∨ i = xb) w4 w11 := ((hca.same hc10).mono (fun i _ hi => .inl hi)).same (hc11.mono (fun i _ hi => .inr hi))
   have hs10 := hc10.size
   have hs11 := hc11.size
   have hE11 := hE4.keep hc411 (fun hx => by
    rcases hx with hx | hx
    ·exact hebR 1 hx
    ·exact hebR 0 (hx ▸ hxb))
   refine ⟨_, hE11.cell 2 rfl, fun w12 e12 => ?_⟩
   have hF4 : ∀ i, (R 1 i ∨ i = xb) → FI' i := fun i hi => by
    rcases hi with hi | hi
    ·exact hF 1 i hi
    ·exact hF 0 i (hi ▸ hxb)
   have hcF : Ch FI' w4 w11 := hc411.mono (fun i _ hi => hF4 i hi)
   have hP11 : PX W w11 pb xb k B ps (es'.eraseIdx j ++ [e]) FP (Ext FI' wa w10) := by
    have h1 := hP4.index (hI11.mono (fun i hi hE => hE.imp id (fun h => ⟨by have := h.1; omega, hi⟩))) hcF
    exact ⟨h1.p, hI11, h1.g, fun i hi => by
     rcases hi with hi | hi
     ·exact ⟨(hP4.f i hi).1, by have := (hP4.f i hi).2; omega⟩
     ·exact ⟨by have := hi.1; have := hP4.p.c.size; omega, by have := hi.2; omega⟩, fun i hi hf => by
     rcases hi with hi | hi
     ·exact hP4.ap i hi hf
     ·have := hP4.p.lt i hf; have := hi.1; omega⟩
   have hO11 := hO4.keep hcF (fun i _ a b => hap i a b)
   obtain ⟨oB, cB, w13, hr13, hO13, hc13⟩ := Own.pushT (enc := .int .i64) el_S_int hO11 t_S_int g.page e12 rfl (by unfold maxLen; omega) (by omega)
   have hs13 := hc13.size
   have hs24 : eb < w4.heap.size := hs4
   have hpg : g.page = e.page := he4.2.1
   refine ⟨oB, _, cB, w13, hr13, f, by omega, m + 4, es'.eraseIdx j ++ [e], out ++ [g.page], by rw [wrap_id (by omega) (by omega)]; rfl, by omega, by omega, by rw [hpg]; exact hfin, by simp; omega, ?_, by simp, ?_⟩
   ·rw [List.length_append, List.length_eraseIdx, if_pos hidx]; simp; omega
   have hcw11 : Ch FI w w11 := hcw4.trans hcF (fun i hi hf => (hI' i hf).old hi)
   have hcw13 : Ch FI w w13 := hcw11.trans hc13 (fun i hi hf => absurd hi (Nat.not_lt.2 (hO' i hf).1))
   have hsw := hcw4.size
   have hd13 : ∀ i, i < w11.heap.size → Ext FI' wa w10 i → ¬ FO i := fun i _ hi hf => by
    rcases hi with hi | hi
    ·exact hap i hf hi
    ·have := hOlt i hf; have := hi.1; omega
   refine ⟨Ext FI' wa w10, Ext FO w11 w13, ⟨⟨hP11.p.r.keep hc13 (fun i _ hi hf => by have := hP4.p.lt i hi; have := hO' i hf; have := this.1; have := h.p.lt; exact absurd (h.p.lt i hi) (Nat.not_lt.2 (hO' i hf).1)), hP11.p.f.le hc13.size, hP11.p.c.trans hc13 (fun i hi hf => by have := (hO' i hf).1; have := h.p.c.size; omega)⟩, hP11.x.keep hc13 hd13, hP11.g, hP11.f.le hc13.size, hP11.ap⟩, ?_, ?_, ?_, ?_, hcw13⟩
   ·intro i hi
    rcases hi with hi | hi
    ·rcases hI' i hi with hi | hi
     ·exact .inl hi
     ·exact .inr ⟨hi.1, by have := hi.2; omega⟩
    ·exact .inr ⟨by have := hi.1; omega, by have := hi.2; omega⟩
   ·simpa using hO13
   ·intro i hi
    rcases hi with hi | hi
    ·exact ⟨(hO' i hi).1, by have := (hO' i hi).2; omega⟩
    ·exact ⟨by have := hi.1; omega, hi.2⟩
   ·intro i hi hf
    rcases hi with hi | hi
    ·exact hd13 i (by have := hOlt i hi; omega) hf hi
    ·rcases hf with hf | hf
     ·have := (hP4.f i hf).2; have := hi.1; omega
     ·have := hf.2; have := hi.1; omega
  have hs5 : w4.heap.size = w5.heap.size := by subst e5; rfl
  have hE' : ∀ {w'}, Ch (R 1) w4 w' → Blk w' eb (ecE g) t_prefix_entry := fun hc => hE4.keep hc (hebR 1)
  refine ⟨?_, fun w14 e14 => ?_, trivial⟩
  ·refine step_call (Delete_spec (hC4.own.keepN (Ch.drew e5)) hC4.len hidx (by omega)) ?_
   rintro x w8 ⟨rfl, hO8, hc8⟩
   have hc48 : Ch (R 1) w4 w8 := (Ch.drew (F := R 1) e5).same hc8
   refine ⟨_, _, _, rfl, hc48, fun w9 e9 => ⟨hc48.andN (Ch.alloc e9), ?_⟩⟩
   exact tail w9 w8.heap.size (hc48.andN (Ch.alloc e9)) (hO8.keepN (Ch.alloc e9)) (Blk.new e9)
  ·have hB14 := Blk.new e14
   have hc14 : Ch (R 1) w4 w14 := (Ch.drew (F := R 1) e5).andN (Ch.alloc e14)
   refine ⟨hc14, ?_⟩
   refine step_call (Delete_spec ((hC4.own.keepN (Ch.drew e5)).keepN (Ch.alloc e14)) hC4.len hidx (by omega)) ?_
   rintro x w15 ⟨rfl, hO15, hc15⟩
   have hc415 := hc14.same hc15
   refine ⟨_, _, _, rfl, hc415, ?_⟩
   exact tail w15 w5.heap.size hc415 hO15 (hB14.keep hc15 (fun hx => by have := hRlt 1 _ hx; omega))
 ·rintro jk oA oN oC w20 ⟨rfl, FI', FO, hP, hI', hO, hO', hap, hcw⟩
  have hxb : w20.cell? ⟨xb, 0, none⟩ = some (.pointer (some ⟨pb, 0, none⟩)) := by
   obtain ⟨o, c, gs, R, hC, _⟩ := hP.x
   exact hC.blk.cell 0 rfl
  have hrl2 : (findR es v t).2.length ≤ t.length := hrl.2
  have hOP : ∀ i, FO i → ¬ FP i := fun i hi hf => absurd (h.p.lt i hf) (Nat.not_lt.2 (hO' i hi).1)
  refine ⟨_, hxb, ?_⟩
  refine step_call (Share_spec hP.p.r hO.rd (fun i _ hi hf => hOP i hi hf) (by omega) (by omega) hP.g.bnd oC) ?_
  rintro x w21 ⟨rfl, hr21, hc21⟩
  refine ⟨_, rfl, FI', FO, oA, oC, rfl, hO.keep hc21 (fun i _ hi hf => hOP i hi hf), fun i hi => New.le (hO' i hi) hc21.size, hP.pool hr21 hc21 ?_, fun i hi => (hI' i hi).imp id (fun h => ⟨h.1, by have := h.2; have := hc21.size; omega⟩), hap, ?_⟩
  ·split
   ·exact (Pages.Good.share hB.1 hP.g).le (by omega)
   ·exact hP.g.le (by omega)
  ·exact (hcw.mono (fun i _ hi => .inl hi)).trans hc21 (fun i _ hi => .inr hi)
end
end Go.Proofs.YtkbikekbaboclaaGreat.Prefix
set_option linter.unusedVariables false
set_option linter.unusedSimpArgs false
namespace Go.Proofs.YtkbikekbaboclaaGreat.Prefix
open Go Go.Proofs V Vc Step Pages Go.RowKit
def dropQ (ps : List PageD) (id : Int) : List PageD := if allB ps [id] && !overB ps [id] then dropL ps [id] else ps
def usersV (ps : List PageD) (id : Int) : Int := if isB ps id then (pgAt ps id).users else 0
def evI (ps : List PageD) (es : List EntD) : Nat := es.findIdx (fun e => usersV ps e.page == 1)
def evP (ps : List PageD) (es : List EntD) : List PageD := match es[evI ps es]? with
 | some e => dropQ ps e.page
 | none => ps
section
variable {W w w' : World} {pb xb k n : Nat} {B : Int} {ps : List PageD} {es : List EntD} {FP FI Fa Fd F G : Nat → Prop} {o : Option Addr} {c : Nat} {gs : List EcC} {R : Nat → Nat → Prop}
theorem dropQ_good (h : Pages.Good k B ps) (hB : 0 ≤ B) (id : Int) : Pages.Good k B (dropQ ps id) := by
 unfold dropQ
 split
 ·rename_i h2; exact h.drops hB (useGo_drop2.2 h2)
 ·exact h
theorem Drop1_spec {nb T : Nat} (h : PoolR w pb ps FP) (hF : ∀ i, FP i → i < w.heap.size) (hg : Pages.Good k B ps) (hk : k ≤ 1000) (hB : 0 ≤ B ∧ B ≤ 1000000000) {id : Int} (hb : Blk w nb [.int .i64 id] T) (hn : ¬ FP nb) :
  Calls Tryz.prog i_pages_Pool_Drop #[.pointer (some ⟨pb, 0, none⟩), .slice (some ⟨nb, 0, none⟩) 1 1] w (Ret fun v w' => (∃ x : Int, v = .int .i64 x) ∧ PoolR w' pb (dropQ ps id) FP ∧ Ch FP w w') := by
 have r : Rd w (some ⟨nb, 0, none⟩) (([id] : List Int).map (.int .i64)) (· = nb) := hb.rd
 refine step_call (Drop_spec (l := [id]) h hF r (fun i hi => by have := hb.lt; omega) (fun i _ hi hf => hn (hi ▸ hf)) (by simp) (by rw [hg.len]; omega) ⟨hB.1, by omega⟩ hg.bnd 1) ?_
 rintro v w' ⟨rfl, hr, hc⟩
 exact ⟨⟨_, rfl⟩, hr, hc⟩
theorem Evict_c1_spec {g : EcC} {e : EntD} {cb T : Nat} {sv : Value} (he : EcR w g e Fd) (hP : PoolR w pb ps FP) (hb : Blk w cb [.pointer (some ⟨xb, 0, none⟩)] T) (hx : Blk w xb [.pointer (some ⟨pb, 0, none⟩), sv] t_prefix_Index) :
  Calls Tryz.prog i_prefix_Index_Evict_c1 #[.agg #[.int .i64 g.ver, .slice g.to g.tn g.tc, .int .i64 g.page], .pointer (some ⟨cb, 0, none⟩)] w (Ret fun x w' => x = .bool (usersV ps e.page == 1) ∧ Ch Non w w') := by
 refine prefix_Index_Evict_c1.calls _ _ _ _ _ _ ?_
 unfold prefix_Index_Evict_c1.vc
 intro w1 e1
 have hE := Blk.new e1
 have hc1 : Ch Non w w1 := Ch.alloc e1
 have hb1 := hb.keepN hc1
 have hx1 := hx.keepN hc1
 refine ⟨fun w' => Ch Non w1 w', fun w2 e2 => ⟨Ch.drew e2, _, fun w' hc => (hb1.keepN hc).cell 0 rfl, _, fun w' hc => (hx1.keepN hc).cell 0 rfl, _, fun w' hc => (hE.keepN hc).cell 2 rfl, ?_⟩⟩
 have hc2 := hc1.andN (Ch.drew e2)
 refine step_call (Users_spec (hP.keepN hc2) _) ?_
 rintro x w3 ⟨rfl, rfl⟩
 refine ⟨_, rfl, Ch.drew e2, ?_, hc2⟩
 unfold usersV
 rw [he.2.1]
theorem Evict_spec (h : PX W w pb xb k B ps es FP FI) (hB : 0 ≤ B ∧ B ≤ 1000000000) (hk : k ≤ 1000) (hn : es.length < 1000) :
  Calls Tryz.prog i_prefix_Index_Evict #[.pointer (some ⟨xb, 0, none⟩)] w (Ret fun x w' => x = .bool (decide (evI ps es < es.length)) ∧ PX W w' pb xb k B (evP ps es) (es.eraseIdx (evI ps es)) FP FI ∧ Ch (fun i => FI i ∨ FP i) w w') := by
 refine prefix_Index_Evict.calls _ ?_
 unfold prefix_Index_Evict.vc
 intro w1 e1
 have hX1 := Blk.new e1
 have hc1 : Ch Non w w1 := Ch.alloc e1
 have h1 := h.keepN hc1
 have hxI : ¬ FI w.heap.size := fun hi => Nat.lt_irrefl _ (h.lt _ hi)
 have hxP : ¬ FP w.heap.size := fun hi => Nat.lt_irrefl _ (h.p.lt _ hi)
 have hsx : w.heap.size < w1.heap.size := hX1.lt
 clear e1
 generalize hcb : w.heap.size = cb at hX1 hxI hxP hsx ⊢
 obtain ⟨o, c, gs, R, hC, hF, hA⟩ := h1.x
 refine ⟨_, hX1.cell 0 rfl, iteF rfl ⟨_, hX1.cell 0 rfl, _, _, _, hC.blk.cell 1 rfl, ?_⟩⟩
 refine step_call (Index_ev_spec (p := fun e => usersV ps e.page == 1) hC.own hC.len hA (fun w' hc g e he => Evict_c1_spec he (h1.p.r.keepN hc) (hX1.keepN hc) (hC.blk.keepN hc))) ?_
 rintro x w2 ⟨rfl, hc2⟩
 have hev : es.findIdx (fun e => usersV ps e.page == 1) = evI ps es := rfl
 rw [hev]
 have hxm : ∀ {w'}, Ch Non w w' → Ch (fun i => FI i ∨ FP i) w w' := fun hc => hc.any
 by_cases hlt : evI ps es < es.length
 rotate_left
 ·rw [if_neg hlt, decide_eq_false hlt]
  have hc := hc1.andN hc2
  refine ⟨_, rfl, iteT (by decide) ⟨rfl, ?_, hc.any⟩⟩
  have e1 : evP ps es = ps := by unfold evP; rw [List.getElem?_eq_none (by omega)]
  rw [e1, List.eraseIdx_of_length_le (by omega)]
  exact h.keepN hc
 rw [if_pos hlt, decide_eq_true hlt]
 refine ⟨_, rfl, iteF (decide_eq_false (by omega)) ?_⟩
 have hevp : evP ps es = dropQ ps es[evI ps es].page := by unfold evP; rw [List.getElem?_eq_getElem hlt]
 rw [hevp]
 generalize evI ps es = j at hlt ⊢
 have hjj : (j : Int).toNat = j := Int.toNat_natCast j
 have hjg : j < gs.length := by rw [hA.length]; exact hlt
 have h2 := h1.keepN hc2
 have hX2 := hX1.keepN hc2
 have hC2 := hC.keep hc2 (fun _ _ _ hN => hN)
 have hA2 : All2 (fun g e => EcR w2 g e (R 2)) gs es := hA.imp (fun _ _ k => k.keepN hc2)
 have hRP : ∀ k i, R k i → ¬ FP i := fun k i hi => h.ap i (hF k i hi)
 have hxF := hF 0 xb hC.z
 obtain ⟨p, hp, _⟩ := hC2.own.rd.elem (sz := 3) (enc := ecE) (fun _ => rfl) (by omega) hjg
 subst hp
 have hpg := (hA.get j hjg hlt).2.1
 refine ⟨fun w' => Ch FP w2 w', fun w3 e3 => ⟨Ch.drew e3, ?_⟩⟩
 refine ⟨_, fun w' hc => (hX2.keep hc hxP).cell 0 rfl, _, fun w' hc => (hC2.blk.keep hc (fun hx => hRP 0 xb hC.z hx)).cell 0 rfl, _, fun w' hc => (hX2.keep hc hxP).cell 0 rfl, _, _, _, fun w' hc => (hC2.blk.keep hc (fun hx => hRP 0 xb hC.z hx)).cell 1 rfl, ⟨by omega, by omega⟩, ?_⟩
 refine ⟨_, fun w' hc => by
  obtain ⟨p', hp', _, _, hcell⟩ := (hC2.own.keep hc (fun i _ a b => hRP 1 i a b)).rd.elem (sz := 3) (enc := ecE) (fun _ => rfl) (by omega) hjg
  have hpp : p = p' := Option.some.inj hp'
  subst hpp
  rw [hjj]; exact hcell 2 _ rfl, fun w9 e9 => ?_⟩
 have hB9 := Blk.new e9
 have hc29 : Ch Non w2 w9 := (Ch.drew (F := Non) e3).andN (Ch.alloc e9)
 have hs23 : w2.heap.size = w3.heap.size := by subst e3; rfl
 have h9 := h2.keepN hc29
 refine ⟨hc29.any, ?_⟩
 refine step_call (Drop1_spec h9.p.r h9.p.lt h9.g hk hB hB9 (fun hf => by have := h2.p.lt _ hf; omega)) ?_
 rintro x w10 ⟨⟨x27, rfl⟩, hr10, hc10⟩
 rw [hpg] at hr10
 have hc210 : Ch FP w2 w10 := (hc29.any (F := FP)).same hc10
 have h10 := h9.pool hr10 hc10 (dropQ_good h.g hB.1 _)
 refine ⟨_, rfl, hc210, ?_⟩
 have hX10 := hX2.keep hc210 hxP
 have hC10 := hC2.keep hc210 hRP
 have hA10 : All2 (fun g e => EcR w10 g e (R 2)) gs es := hA2.imp (fun _ _ k => k.keep hc210 (fun i _ a b => hRP 2 i a b))
 have hcbR : ∀ k, ¬ R k cb := fun k hi => hxI (hF k _ hi)
 refine ⟨fun w' => Ch (R 1) w10 w', fun w11 e11 => ⟨Ch.drew e11, ?_⟩⟩
 have hxb1 : ¬ R 1 xb := fun hx => hC.fam.2 0 1 (by omega) xb hC.z hx
 refine ⟨_, fun w' hc => (hX10.keep hc (hcbR 1)).cell 0 rfl, _, fun w' hc => (hX10.keep hc (hcbR 1)).cell 0 rfl, _, _, _, fun w' hc => (hC10.blk.keep hc hxb1).cell 1 rfl, ?_⟩
 refine step_call (Delete_spec (hC10.own.keepN (Ch.drew e11)) hC10.len hlt (by omega)) ?_
 rintro x w15 ⟨rfl, hO15, hc15⟩
 have hc1015 : Ch (R 1) w10 w15 := (Ch.drew (F := R 1) e11).same hc15
 have hB15 := hC10.blk.keep hc1015 hxb1
 refine ⟨_, _, _, rfl, hc1015, hB15.ok 1 rfl, fun w16 e16 => ⟨rfl, ?_⟩⟩
 have hc16 : Ch (· = xb) w15 w16 := Ch.set (p := ⟨xb, 1, none⟩) e16 rfl
 have hcI : Ch FI w10 w16 := (hc1015.mono (fun i _ hi => hF 1 i hi)).same (hc16.mono (fun i _ hi => hi ▸ hxF))
 have hB16 := hB15.set e16
 have hel : (es.eraseIdx j).length = es.length - 1 := by rw [List.length_eraseIdx, if_pos hlt]
 have hx16 : IdxR w16 xb pb (es.eraseIdx j) FI := by
  refine ⟨some p, c, gs.eraseIdx j, R, ⟨(hC10.fam.le hc1015.size).le hc16.size, hC.z, ?_, ?_, by rw [List.length_eraseIdx, if_pos hjg, hel, hC.len]⟩, hF, ?_⟩
  ·rw [hel]; exact hB16
  ·rw [hel]; exact hO15.keep hc16 (fun i _ hi he => hxb1 (he ▸ hi))
  ·refine (All2.eraseIdx hA10 j).imp (fun g e hq => (hq.keep hc1015 (fun i _ a b => hC.fam.2 2 1 (by omega) i a b)).keep hc16 (fun i _ a b => hC.fam.2 2 0 (by omega) i a (b ▸ hC.z)))
 refine ⟨⟨⟨h10.p.r.keep hcI (fun i _ a b => h.ap i b a), h10.p.f.le hcI.size, h10.f.hi h10.p.c hcI⟩, hx16, h10.g, h10.f.le hcI.size, h10.ap⟩, ?_⟩
 exact (((hc1.andN hc2).any (F := fun i => FI i ∨ FP i)).trans hc210 (fun i _ hi => .inr hi)).trans hcI (fun i _ hi => .inl hi)
end
end Go.Proofs.YtkbikekbaboclaaGreat.Prefix
