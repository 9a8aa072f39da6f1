/- For every index of beginnings over a pool of pages: what a version forgotten leaves and answers; the conditions stand in each theorem. -/
import Derived.Test.YtkbikekbaboclaaGreatPkX
set_option linter.unusedVariables false
set_option linter.unusedSimpArgs false
namespace Go.Proofs.YtkbikekbaboclaaGreat.Prefix
open Go Go.Proofs Go.Proofs.YtkbikekbaboclaaGreat.V Go.Proofs.YtkbikekbaboclaaGreat.Vc Go.Proofs.YtkbikekbaboclaaGreat.Step Go.Proofs.YtkbikekbaboclaaGreat.Pages Go.RowKit

/-- An entry's three cells are laid anew. -/
theorem set3 {w w' : World} {T n c : Nat} {o : Option Addr} {gs : List EcC} {F : Nat → Prop} (h : Own w T 3 o n c (gs.map ecE).flatten F) {a : Nat} (ha : a < gs.length) {p : Addr} (hp : o = some p) {g : EcC}
    (ew : w' = ((w.setCell (p.add (a * 3)) (.int .i64 g.ver)).setCell ((p.add (a * 3)).add 1) (.slice g.to g.tn g.tc)).setCell ((p.add (a * 3)).add 2) (.int .i64 g.page)) :
    Own w' T 3 o n c ((gs.set a g).map ecE).flatten F ∧ Ch F w w' := by
  have put : ∀ {w w' : World} {gs : List EcC}, Own w T 3 o n c (gs.map ecE).flatten F → ∀ {q : Nat} {v : Value} {g : EcC} (ha : a < gs.length), q < 3 → w' = w.setCell ((p.add (a * 3)).add q) v → ecE g = (ecE gs[a]).set q v →
      Own w' T 3 o n c ((gs.set a g).map ecE).flatten F ∧ Ch F w w' := by
    intro w w' gs h q v g ha hq ew hg
    rw [add_add] at ew
    have hfl : (gs.map ecE).flatten.length = gs.length * 3 := by
      rw [List.length_flatten, List.map_map]
      have : (List.length ∘ ecE) = fun _ => 3 := by funext x; rfl
      rw [this, List.map_const']; simp
    obtain ⟨h1, h2⟩ := h.set (by rw [hfl]; omega) hp ew
    rw [flatten_set (enc := ecE) gs (fun _ => rfl) ha hg hq] at h1
    exact ⟨h1, h2⟩
  have h0 : w.setCell (p.add (a * 3)) (.int .i64 g.ver) = w.setCell ((p.add (a * 3)).add 0) (.int .i64 g.ver) := by rw [add_none]
  rw [h0] at ew
  obtain ⟨a1, b1⟩ := put h (g := ⟨g.ver, gs[a].to, gs[a].tn, gs[a].tc, gs[a].page⟩) ha (q := 0) (by omega) rfl rfl
  have hj1 : a < (gs.set a ⟨g.ver, gs[a].to, gs[a].tn, gs[a].tc, gs[a].page⟩).length := by rw [List.length_set]; exact ha
  obtain ⟨a2, b2⟩ := put a1 (g := ⟨g.ver, g.to, g.tn, g.tc, gs[a].page⟩) hj1 (q := 1) (by omega) rfl (by rw [List.getElem_set_self]; rfl)
  rw [List.set_set] at a2
  have hj2 : a < (gs.set a ⟨g.ver, g.to, g.tn, g.tc, gs[a].page⟩).length := by rw [List.length_set]; exact ha
  obtain ⟨a3, b3⟩ := put a2 (g := g) hj2 (q := 2) (by omega) ew (by rw [List.getElem_set_self]; rfl)
  rw [List.set_set] at a3
  exact ⟨a3, (b1.same b2).same b3⟩
/-- What a row in which entries are deleted rests on. -/
structure Del (w : World) (pb xb c0 c1 k : Nat) (B : Int) (v : Int) (ps : List PageD) (FP Fa : Nat → Prop) : Prop where
  p : PoolR w pb ps FP
  lt : ∀ i, FP i → i < w.heap.size
  g : Pages.Good k B ps
  b0 : ∃ T, Blk w c0 [.int .i64 v] T
  b1 : ∃ T, Blk w c1 [.pointer (some ⟨xb, 0, none⟩)] T
  bx : ∃ sv, Blk w xb [.pointer (some ⟨pb, 0, none⟩), sv] t_prefix_Index
  n : ¬ FP c0 ∧ ¬ FP c1 ∧ ¬ FP xb ∧ ¬ Fa c0 ∧ ¬ Fa c1 ∧ ¬ Fa xb
  ap : Apart Fa FP
section
variable {w w' : World} {pb xb c0 c1 k n : Nat} {B v : Int} {ps ps' : List PageD} {es : List EntD} {FP Fa Fd G : Nat → Prop} {o : Option Addr} {c : Nat} {gs : List EcC}
theorem Del.keepG (h : Del w pb xb c0 c1 k B v ps FP Fa) (hc : Ch G w w') (hG : ∀ i, G i → FP i ∨ Fa i) (hp : PoolR w' pb ps' FP) (hg : Pages.Good k B ps') : Del w' pb xb c0 c1 k B v ps' FP Fa := by
  obtain ⟨n1, n2, n3, n4, n5, n6⟩ := h.n
  have no : ∀ i, ¬ FP i → ¬ Fa i → ¬ G i := fun i a b hi => (hG i hi).elim a b
  refine ⟨hp, fun i hi => Nat.lt_of_lt_of_le (h.lt i hi) hc.size, hg, ?_, ?_, ?_, h.n, h.ap⟩
  · obtain ⟨T, hb⟩ := h.b0; exact ⟨T, hb.keep hc (no _ n1 n4)⟩
  · obtain ⟨T, hb⟩ := h.b1; exact ⟨T, hb.keep hc (no _ n2 n5)⟩
  · obtain ⟨T, hb⟩ := h.bx; exact ⟨T, hb.keep hc (no _ n3 n6)⟩
theorem Del.keepA (h : Del w pb xb c0 c1 k B v ps FP Fa) (hc : Ch Fa w w') : Del w' pb xb c0 c1 k B v ps FP Fa :=
  h.keepG hc (fun i hi => .inr hi) (h.p.keep hc (fun i _ a b => h.ap i b a)) h.g
theorem Del.keepN (h : Del w pb xb c0 c1 k B v ps FP Fa) (hc : Ch Non w w') : Del w' pb xb c0 c1 k B v ps FP Fa := h.keepA hc.any
theorem Del.call (h : Del w pb xb c0 c1 k B v ps FP Fa) (hk : k ≤ 1000) (hB : 0 ≤ B ∧ B ≤ 1000000000) {g : EcC} {e : EntD} (he : EcR w g e Fd) :
    Calls Tryz.prog i_prefix_Index_Forget_c1 #[.agg #[.int .i64 g.ver, .slice g.to g.tn g.tc, .int .i64 g.page], .pointer (some ⟨c0, 0, none⟩), .pointer (some ⟨c1, 0, none⟩)] w
      (Ret fun x w' => x = .bool (e.ver == v) ∧ Del w' pb xb c0 c1 k B v (fgS v ps e) FP Fa ∧ Ch FP w w') := by
  obtain ⟨T0, hb0⟩ := h.b0
  obtain ⟨T1, hb1⟩ := h.b1
  obtain ⟨sv, hbx⟩ := h.bx
  refine step_call (Forget_c1_spec he h.p h.lt h.g hk hB hb0 hb1 hbx h.n.1 h.n.2.1 h.n.2.2.1) ?_
  rintro x w1 ⟨rfl, hr, hc⟩
  refine ⟨rfl, h.keepG hc (fun i hi => .inl hi) hr ?_, hc⟩
  unfold fgS
  split
  · exact dropQ_good h.g hB.1 _
  · exact h.g
def keepC (v : Int) (g : EcC) : Bool := !(g.ver == v)
def keepE (v : Int) (e : EntD) : Bool := !(e.ver == v)
theorem fgP_keep (v : Int) (ps : List PageD) : ∀ l : List EntD, (∀ e ∈ l, (e.ver == v) = false) → fgP v ps l = ps
  | [], _ => rfl
  | e :: r, h => by
    have : fgP v ps (e :: r) = fgP v (fgS v ps e) r := rfl
    rw [this]
    have h1 : fgS v ps e = ps := by unfold fgS; rw [h e (by simp), if_neg Bool.false_ne_true]
    rw [h1]; exact fgP_keep v ps r (fun x hx => h x (by simp [hx]))
theorem Index_fo_spec (h : Del w pb xb c0 c1 k B v ps FP Fa) (hk : k ≤ 1000) (hB : 0 ≤ B ∧ B ≤ 1000000000) (hO : Own w t_prefix_entry 3 o n c (gs.map ecE).flatten Fa) (hl : gs.length = n) (hA : All2 (fun g e => EcR w g e Fd) gs es) (hd : Apart Fd FP) :
    Calls Tryz.prog 103 #[.slice o n c, .func (.func i_prefix_Index_Forget_c1) #[] #[.pointer (some ⟨c0, 0, none⟩), .pointer (some ⟨c1, 0, none⟩)]] w
      (Ret fun x w' => (∃ j : Nat, j < n ∧ x = .int .i64 j ∧ (∀ m (hm : m < j) (h2 : m < es.length), (es[m].ver == v) = false) ∧ (∃ h2 : j < es.length, (es[j].ver == v) = true) ∧ Del w' pb xb c0 c1 k B v (fgP v ps (es.take (j + 1))) FP Fa ∧ Ch FP w w') ∨
        (x = .int .i64 (-1) ∧ (∀ e ∈ es, (e.ver == v) = false) ∧ Del w' pb xb c0 c1 k B v ps FP Fa ∧ Ch FP w w')) := by
  refine slices_IndexFunc.calls_fo _ _ _ _ _ ?_
  unfold slices_IndexFunc.vc_fo
  have hml : n ≤ maxLen := Nat.le_trans hO.2.1 hO.2.2.1
  unfold maxLen at hml
  have hle := hA.length
  refine ⟨fun i f w' => ∃ j : Nat, i = j ∧ j ≤ n ∧ f = n - j ∧ (∀ m (hm : m < j) (h2 : m < es.length), (es[m].ver == v) = false) ∧ Del w' pb xb c0 c1 k B v ps FP Fa ∧ Ch FP w w', ⟨_, 0, rfl, Nat.zero_le _, rfl, fun m hm => by omega, h, Ch.refl _ _⟩, ?_⟩
  rintro jk i f w1 ⟨j, rfl, hj, rfl, hno, hD, hc⟩
  have hpre : ∀ e ∈ es.take j, (e.ver == v) = false := fun e he => by
    obtain ⟨m, hm, rfl⟩ := List.getElem_of_mem he
    rw [List.length_take] at hm
    rw [List.getElem_take]
    exact hno m (by omega) (by omega)
  refine ⟨fun hlt => ?_, fun hge => ?_⟩
  · have hlt : j < n := by have := of_decide_eq_true hlt; omega
    have hjg : j < gs.length := by omega
    have hje : j < es.length := by omega
    obtain ⟨q, hq, _, _, hcell⟩ := (hO.keep hc (fun i _ a b => h.ap i a b)).rd.elem (sz := 3) (enc := ecE) (fun _ => rfl) (by omega) hjg
    subst hq
    have k0 := hcell 0 _ rfl
    rw [add_none] at k0
    refine ⟨⟨by omega, by omega⟩, _, _, _, _, _, ⟨k0, hcell 1 _ rfl, hcell 2 _ rfl⟩, ?_⟩
    refine step_call (hD.call hk hB ((hA.get j hjg hje).keep hc (fun i _ a b => hd i a b))) ?_
    rintro x w2 ⟨rfl, hD2, hc2⟩
    refine ⟨_, rfl, fun hb => .inl ⟨j, hlt, rfl, hno, ⟨hje, hb⟩, ?_, hc.same hc2⟩, fun hb => ⟨n - (j + 1), by omega, j + 1, by rw [wrap_id (by omega) (by omega)]; rfl, hlt, rfl, fun m hm h2 => ?_, ?_, hc.same hc2⟩⟩
    · rw [take_snoc es j hje, fgP_snoc, fgP_keep v ps _ hpre]; exact hD2
    · by_cases hmj : m = j
      · subst hmj; exact hb
      · exact hno m (by omega) h2
    · have : fgS v ps es[j] = ps := by unfold fgS; rw [hb, if_neg Bool.false_ne_true]
      rw [this] at hD2; exact hD2
  · have hjn : j = n := by have := of_decide_eq_false hge; omega
    refine .inr ⟨rfl, fun e he => ?_, hD, hc⟩
    obtain ⟨m, hm, rfl⟩ := List.getElem_of_mem he
    exact hno m (by omega) hm
theorem DeleteFunc_spec (h : Del w pb xb c0 c1 k B v ps FP Fa) (hk : k ≤ 1000) (hB : 0 ≤ B ∧ B ≤ 1000000000) (hO : Own w t_prefix_entry 3 o n c (gs.map ecE).flatten Fa) (hl : gs.length = n) (hn : n ≤ 1000) (hA : All2 (fun g e => EcR w g e Fd) gs es) (hd : Apart Fd FP) (hda : Apart Fd Fa) (hdl : ∀ i, Fa i → i < w.heap.size) :
    Calls Tryz.prog 86 #[.slice o n c, .func (.func i_prefix_Index_Forget_c1) #[] #[.pointer (some ⟨c0, 0, none⟩), .pointer (some ⟨c1, 0, none⟩)]] w
      (Ret fun x w' => x = .slice o (gs.filter (keepC v)).length c ∧ Own w' t_prefix_entry 3 o (gs.filter (keepC v)).length c ((gs.filter (keepC v)).map ecE).flatten Fa ∧ Del w' pb xb c0 c1 k B v (fgP v ps es) FP Fa ∧ Ch (fun i => FP i ∨ Fa i) w w') := by
  have hle := hA.length
  have hkeep : ∀ (j : Nat) (h1 : j < gs.length) (h2 : j < es.length), keepC v gs[j] = !(es[j].ver == v) := fun j h1 h2 => by
    have := (hA.get j h1 h2).1
    unfold keepC; rw [this]
  refine slices_DeleteFunc.calls_fo _ _ _ _ _ ?_
  unfold slices_DeleteFunc.vc_fo
  refine step_call (Index_fo_spec h hk hB hO hl hA hd) ?_
  rintro x w1 (⟨j0, hj0, rfl, hno, ⟨hj0e, hyes⟩, hD1, hc1⟩ | ⟨rfl, hno, hD1, hc1⟩)
  rotate_left
  · have hall : gs.filter (keepC v) = gs := List.filter_eq_self.2 (fun g hg => by
      obtain ⟨m, hm, rfl⟩ := List.getElem_of_mem hg
      rw [hkeep m hm (by omega), hno _ (List.getElem_mem _)]; rfl)
    rw [hall]
    refine ⟨_, rfl, iteT (by decide) ⟨by rw [hl], ?_, ?_, hc1.mono (fun i _ hi => .inl hi)⟩⟩
    · rw [hl]; exact hO.keep hc1 (fun i _ a b => h.ap i a b)
    · rw [fgP_keep v ps es hno]; exact hD1
  refine ⟨_, rfl, iteF (by simp) ?_⟩
  have hO1 := hO.keep hc1 (fun i _ a b => h.ap i a b)
  have hpre : (gs.take (j0 + 1)).filter (keepC v) = gs.take j0 := by
    have hlt : j0 < gs.length := by omega
    rw [take_snoc gs j0 hlt, List.filter_append]
    have h2 : (gs.take j0).filter (keepC v) = gs.take j0 := List.filter_eq_self.2 (fun g hg => by
      obtain ⟨m, hm, rfl⟩ := List.getElem_of_mem hg
      rw [List.length_take] at hm
      rw [List.getElem_take, hkeep m (by omega) (by omega), hno m (by omega) (by omega)]; rfl)
    have h3 : keepC v gs[j0] = false := by rw [hkeep j0 hlt hj0e, hyes]; rfl
    rw [h2, List.filter_cons, h3]; simp
  refine ⟨fun i j f w' => ∃ (a b : Nat) (gs' : List EcC), i = a ∧ j = b ∧ a < b ∧ b ≤ n ∧ f = n - b ∧ gs'.length = n ∧ gs'.take a = (gs.take b).filter (keepC v) ∧ gs'.drop b = gs.drop b ∧ Own w' t_prefix_entry 3 o n c (gs'.map ecE).flatten Fa ∧
    Del w' pb xb c0 c1 k B v (fgP v ps (es.take b)) FP Fa ∧ Ch (fun i => FP i ∨ Fa i) w w', ⟨_, j0, j0 + 1, gs, rfl, by rw [wrap_id (by omega) (by omega)]; rfl, by omega, by omega, rfl, hl, hpre.symm, rfl, hO1, hD1, hc1.mono (fun i _ hi => .inl hi)⟩, ?_⟩
  clear hO1 hD1 hc1 hpre hyes hno
  rintro jk i j f w2 ⟨a, b, gs', rfl, rfl, hab, hb, rfl, hgl, htk, hdr, hO2, hD2, hc2⟩
  refine ⟨fun hlt => ?_, fun hge => ?_⟩
  · have hlt : b < n := by have := of_decide_eq_true hlt; omega
    have hbg : b < gs'.length := by omega
    have hbg0 : b < gs.length := by omega
    have hbe : b < es.length := by omega
    have hgb : gs'[b] = gs[b] := by
      have h1 : gs'[b]? = gs[b]? := by
        have := congrArg (fun l => l[0]?) hdr
        simpa using this
      rw [List.getElem?_eq_getElem hbg, List.getElem?_eq_getElem hbg0] at h1
      exact Option.some.inj h1
    obtain ⟨q, hq, _, _, hcell⟩ := hO2.rd.elem (sz := 3) (enc := ecE) (fun _ => rfl) (by omega) hbg
    have hbb : (b : Int).toNat = b := Int.toNat_natCast b
    have haa : (a : Int).toNat = a := Int.toNat_natCast a
    rw [hgb] at hcell
    subst hq
    have k0 := hcell 0 _ rfl
    rw [add_none] at k0
    refine ⟨⟨by omega, by omega⟩, _, _, _, _, _, ⟨by rw [hbb]; exact k0, by rw [hbb]; exact hcell 1 _ rfl, by rw [hbb]; exact hcell 2 _ rfl⟩, fun w3 e3 => ?_⟩
    have hE3 := Blk.new e3
    refine ⟨⟨hE3.ok 0 rfl, hE3.ok 1 rfl, hE3.ok 2 rfl⟩, fun w4 e4 => ?_⟩
    have e5 : w4 = w3.setCells w2.heap.size 0 (ecE gs[b]) := e4
    have hE4 := hE3.all (ecE gs[b]) rfl e5
    have hE4 : Blk w4 w2.heap.size (ecE gs[b]) t_prefix_entry := hE4
    have hc24 : Ch Non w2 w4 := (Ch.alloc (F := Non) e3).trans (Ch.sets (F := (· = w2.heap.size)) e5 rfl) (fun i hi he => by omega)
    have hs4 := hE4.lt
    clear e3 e4 e5 hE3 hcell k0
    have nP : ¬ FP w2.heap.size := fun hf => Nat.lt_irrefl _ (hD2.lt _ hf)
    have nA : ¬ Fa w2.heap.size := fun hf => by have := hdl _ hf; have := hc2.size; omega
    generalize w2.heap.size = eb at hE4 hs4 nP nA ⊢
    have hcc4 : Ch (fun i => FP i ∨ Fa i) w w4 := hc2.andN hc24
    have hee : EcR w4 gs[b] es[b] Fd := (hA.get b hbg0 hbe).keep hcc4 (fun i _ x y => y.elim (hd i x) (hda i x))
    have hver := hkeep b hbg0 hbe
    have htk1 : (gs.take (b + 1)).filter (keepC v) = (gs.take b).filter (keepC v) ++ (if keepC v gs[b] then [gs[b]] else []) := by
      rw [take_snoc gs b hbg0, List.filter_append, List.filter_cons]
      split <;> simp
    have hes1 : es.take (b + 1) = es.take b ++ [es[b]] := take_snoc es b hbe
    have hdr1 : gs'.drop (b + 1) = gs.drop (b + 1) := by
      have := congrArg (List.drop 1) hdr
      simpa [List.drop_drop, Nat.add_comm] using this
    generalize gs[b] = g at hE4 hee hver htk1
    generalize es[b] = e at hee hver hes1
    refine ⟨_, _, _, _, _, ⟨hE4.cell 0 rfl, hE4.cell 1 rfl, hE4.cell 2 rfl⟩, ?_⟩
    refine step_call ((hD2.keepN hc24).call hk hB hee) ?_
    rintro x w5 ⟨rfl, hD5, hc5⟩
    rw [← fgP_snoc, ← hes1] at hD5
    have hE5 := hE4.keep hc5 nP
    have hO5 := (hO2.keepN hc24).keep hc5 (fun i _ x y => h.ap i x y)
    have hcc5 : Ch (fun i => FP i ∨ Fa i) w w5 := hcc4.trans hc5 (fun i _ hi => .inl hi)
    refine ⟨_, rfl, fun hk1 => ?_, fun hk1 => ?_⟩
    · rw [hver, hk1, if_pos rfl] at htk1
      have hag : a < gs'.length := by omega
      obtain ⟨q', hq', _⟩ := hO5.rd.elem (sz := 3) (enc := ecE) (fun _ => rfl) (by omega) hag
      have hqq : q = q' := Option.some.inj hq'
      subst hqq
      have f0 := flatten_at (enc := ecE) (sz := 3) (q := 0) gs' (fun _ => rfl) hag (by omega)
      have f1 := flatten_at (enc := ecE) (sz := 3) (q := 1) gs' (fun _ => rfl) hag (by omega)
      have f2 := flatten_at (enc := ecE) (sz := 3) (q := 2) gs' (fun _ => rfl) hag (by omega)
      rw [Nat.add_zero] at f0
      refine ⟨_, _, _, _, _, ⟨hE5.cell 0 rfl, hE5.cell 1 rfl, hE5.cell 2 rfl⟩, ⟨by omega, by omega⟩, ?_⟩
      rw [haa]
      refine ⟨⟨hO5.ok f0 rfl, by rw [add_add]; exact hO5.ok f1 rfl, by rw [add_add]; exact hO5.ok f2 rfl⟩, fun w6 e6 => ?_⟩
      obtain ⟨hO6, hc6⟩ := set3 hO5 hag rfl (g := g) e6
      refine ⟨n - (b + 1), by omega, a + 1, b + 1, gs'.set a g, by rw [wrap_id (by omega) (by omega)]; rfl, by rw [wrap_id (by omega) (by omega)]; rfl, by omega, hlt, rfl, by rw [List.length_set]; exact hgl, ?_, ?_, hO6, hD5.keepA hc6, hcc5.trans hc6 (fun i _ hi => .inr hi)⟩
      · rw [htk1, ← htk, take_snoc _ a (by rw [List.length_set]; exact hag), List.getElem_set_self, List.take_set_of_le (Nat.le_refl _)]
      · rw [List.drop_set_of_lt (by omega)]; exact hdr1
    · have hk2 : keepC v g = false := by rw [hver]; simpa using hk1
      rw [hk2, if_neg Bool.false_ne_true, List.append_nil] at htk1
      exact ⟨n - (b + 1), by omega, a, b + 1, gs', rfl, by rw [wrap_id (by omega) (by omega)]; rfl, by omega, hlt, rfl, hgl, by rw [htk1]; exact htk, hdr1, hO5, hD5, hcc5⟩
  · have hbn : b = n := by have := of_decide_eq_false hge; omega
    subst hbn
    have hgt : gs.take b = gs := List.take_of_length_le (by omega)
    have het : es.take b = es := List.take_of_length_le (by omega)
    rw [hgt] at htk
    rw [het] at hD2
    have haa : (a : Int).toNat = a := Int.toNat_natCast a
    have hal : a = (gs.filter (keepC v)).length := by rw [← htk, List.length_take]; omega
    have hz : zeroB Tryz.prog t_prefix_entry = true := by kernel_rfl
    obtain ⟨x, w3, hr3, hO3, hc3⟩ := hO2.clear el_S_prefix_entry hz (i := a) (by omega) 0
    have hcap := hO2.2.1
    refine ⟨⟨by omega, by omega⟩, x, w3, by rw [haa]; exact hr3, ⟨by omega, by omega⟩, ?_, ?_, hD2.keepA hc3, hc2.trans hc3 (fun i _ hi => .inr hi)⟩
    · rw [haa, ← hal, Nat.sub_zero, Nat.sub_zero, slice0]
    · rw [flatten_take (enc := ecE) (sz := 3) (fun _ => rfl), htk, hal] at hO3
      exact hO3
end
section
variable {W w : World} {pb xb k : Nat} {B : Int} {ps : List PageD} {es : List EntD} {FP FI : Nat → Prop}
theorem Forget_spec (h : PX W w pb xb k B ps es FP FI) (hB : 0 ≤ B ∧ B ≤ 1000000000) (hk : k ≤ 1000) (hn : es.length < 1000) (v : Int) :
    Calls Tryz.prog i_prefix_Index_Forget #[.pointer (some ⟨xb, 0, none⟩), .int .i64 v] w (Ret fun x w' => x = .int .i64 ((es.length : Int) - (es.filter (keepE v)).length) ∧ PX W w' pb xb k B (fgP v ps es) (es.filter (keepE v)) FP FI ∧ Ch (fun i => FI i ∨ FP i) w w') := by
  refine prefix_Index_Forget.calls _ _ ?_
  unfold prefix_Index_Forget.vc
  intro w1 e1 w2 e2
  have hX2 := (Blk.new e1).alloc e2
  have hV2 := Blk.new e2
  have hs1 : w.heap.size < w1.heap.size := (Blk.new e1).lt
  have hs2 : w1.heap.size < w2.heap.size := hV2.lt
  have hc2 : Ch Non w w2 := (Ch.alloc e1).andN (Ch.alloc e2)
  have h2 := h.keepN hc2
  have nI : ∀ i, w.heap.size ≤ i → ¬ FI i := fun i hi hf => by have := h.lt i hf; omega
  have nP : ∀ i, w.heap.size ≤ i → ¬ FP i := fun i hi hf => by have := h.p.lt i hf; omega
  have hlen : (es.filter (keepE v)).length ≤ es.length := List.length_filter_le _ _
  refine ⟨_, hX2.cell 0 rfl, ?_⟩
  refine step_call (Len_spec h2.x) ?_
  rintro x w3 ⟨rfl, rfl⟩
  refine ⟨_, rfl, fun h0 => ?_, fun h0 => ?_⟩
  · have he : es = [] := List.eq_nil_of_length_eq_zero (by have : (es.length : Int) = 0 := by simpa using h0
                                                           omega)
    subst he
    exact ⟨rfl, h2, hc2.any⟩
  obtain ⟨o, c, gs, R, hC, hF, hA⟩ := h2.x
  have hxF := hF 0 xb hC.z
  have hxb1 : ¬ R 1 xb := fun hx => hC.fam.2 0 1 (by omega) xb hC.z hx
  have hRP : ∀ k i, R k i → ¬ FP i := fun k i hi => h.ap i (hF k i hi)
  have n1x : ¬ R 1 w.heap.size := fun hi => nI _ (Nat.le_refl _) (hF 1 _ hi)
  have n1v : ¬ R 1 w1.heap.size := fun hi => nI _ (by omega) (hF 1 _ hi)
  refine ⟨fun w' => Ch (fun i => FP i ∨ R 1 i) w3 w', fun w4 e4 => ⟨Ch.drew e4, ?_⟩⟩
  have nox : ¬ (FP w.heap.size ∨ R 1 w.heap.size) := fun hh => hh.elim (nP _ (Nat.le_refl _)) n1x
  have nob : ¬ (FP xb ∨ R 1 xb) := fun hh => hh.elim (hRP 0 xb hC.z) hxb1
  refine ⟨_, fun w' hc => (hX2.keep hc nox).cell 0 rfl, _, fun w' hc => (hX2.keep hc nox).cell 0 rfl, _, _, _, fun w' hc => (hC.blk.keep hc nob).cell 1 rfl, ?_⟩
  have hc34 : Ch Non w3 w4 := Ch.drew e4
  have h4 := h2.keepN hc34
  have hD : Del w4 pb xb w1.heap.size w.heap.size k B v ps FP (R 1) := ⟨h4.p.r, h4.p.lt, h4.g, ⟨_, hV2.keepN hc34⟩, ⟨_, hX2.keepN hc34⟩, ⟨_, hC.blk.keepN hc34⟩, ⟨nP _ (by omega), nP _ (Nat.le_refl _), hRP 0 xb hC.z, n1v, n1x, hxb1⟩, fun i hi => hRP 1 i hi⟩
  have hA4 : All2 (fun g e => EcR w4 g e (R 2)) gs es := hA.imp (fun _ _ k => k.keepN hc34)
  refine step_call (DeleteFunc_spec hD hk hB (hC.own.keepN hc34) hC.len (by omega) hA4 (fun i hi => hRP 2 i hi) (hC.fam.2 2 1 (by omega)) (fun i hi => by have := hC.fam.1 1 i hi; have := hc34.size; omega)) ?_
  rintro x w8 ⟨rfl, hO8, hD8, hc8⟩
  have hc38 : Ch (fun i => FP i ∨ R 1 i) w3 w8 := (hc34.any (F := fun i => FP i ∨ R 1 i)).same hc8
  have hX8 := hX2.keep hc38 nox
  have hB8 := hC.blk.keep hc38 nob
  refine ⟨_, _, _, rfl, hc38, hB8.ok 1 rfl, fun w9 e9 => ?_⟩
  have hc9 : Ch (· = xb) w8 w9 := Ch.set (p := ⟨xb, 1, none⟩) e9 rfl
  have hB9 := hB8.set e9
  have hFA : All2 (fun g e => EcR w4 g e (R 2)) (gs.filter (keepC v)) (es.filter (keepE v)) := All2.filter (fun g e hq => by unfold keepC keepE; rw [hq.1]) hA4
  have hfl := hFA.length
  have hx9 : IdxR w9 xb pb (es.filter (keepE v)) FI := by
    refine ⟨o, c, gs.filter (keepC v), R, ⟨(hC.fam.le hc38.size).le hc9.size, hC.z, ?_, ?_, hfl⟩, hF, ?_⟩
    · rw [← hfl]; exact hB9
    · rw [← hfl]; exact hO8.keep hc9 (fun i _ hi he => hxb1 (he ▸ hi))
    · exact hFA.imp (fun g e hq => (hq.keep hc8 (fun i _ a b => b.elim (hRP 2 i a) (fun b => hC.fam.2 2 1 (by omega) i a b))).keep hc9 (fun i _ a b => hC.fam.2 2 0 (by omega) i a (b ▸ hC.z)))
  have hc39 : Ch (fun i => FI i ∨ FP i) w3 w9 := (hc38.mono (fun i _ hi => hi.elim .inr (fun hi => .inl (hF 1 i hi)))).trans hc9 (fun i _ hi => .inl (hi ▸ hxF))
  have hp9 : PoolR w9 pb (fgP v ps es) FP := hD8.p.keep hc9 (fun i _ hi he => hRP 0 xb hC.z (he ▸ hi))
  have h9 : PX W w9 pb xb k B (fgP v ps es) (es.filter (keepE v)) FP FI := ⟨⟨hp9, h2.p.f.le hc39.size, h2.p.c.trans hc39 (fun i hi hf => hf.elim (fun hf => absurd hi (Nat.not_lt.2 (h2.f i hf).1)) (fun hf => absurd hi (Nat.not_lt.2 (h2.p.f i hf).1)))⟩, hx9, hD8.g, h2.f.le hc39.size, h2.ap⟩
  refine ⟨_, (hX8.keep hc9 (fun he => nI _ (Nat.le_refl _) (he ▸ hxF))).cell 0 rfl, ?_⟩
  refine step_call (Len_spec h9.x) ?_
  rintro x w10 ⟨rfl, rfl⟩
  exact ⟨_, rfl, by rw [wrap_id (by omega) (by omega)], h9, (hc2.any (F := fun i => FI i ∨ FP i)).same hc39⟩
end
end Go.Proofs.YtkbikekbaboclaaGreat.Prefix
