/- For every index of beginnings over a pool of pages: what pages found leave and answer; the conditions stand in each theorem. -/
import Derived.Test.YtpcddfhfchempaaPrefix2
set_option linter.unusedVariables false
set_option linter.unusedSimpArgs false
namespace Go.Proofs.Ytpcddfhfchempaa.Prefix
open Go Go.Proofs Go.Proofs.Ytpcddfhfchempaa.V Go.Proofs.Ytpcddfhfchempaa.Vc Go.Proofs.Ytpcddfhfchempaa.Step Go.Proofs.Ytpcddfhfchempaa.Pages Go.RowKit

theorem All2.eraseIdx {α β : Type} {R : α → β → Prop} : ∀ {xs : List α} {ys : List β}, All2 R xs ys → ∀ i : Nat, All2 R (xs.eraseIdx i) (ys.eraseIdx i)
  | _, _, .nil, _ => .nil
  | _, _, .cons _ b, 0 => b
  | _, _, .cons a b, i + 1 => .cons a (All2.eraseIdx b i)
/-- What pages are found: the index behind it, and they. -/
def findG (v : Int) (t : List Int) : Nat → Nat → List EntD → List Int → List EntD × List Int
  | 0, _, es, out => (es, out)
  | f + 1, n, es, out => if n < t.length then (if h : es.findIdx (hasB v (t.take n)) < es.length then findG v t f (n + 4) (es.eraseIdx (es.findIdx (hasB v (t.take n))) ++ [es[es.findIdx (hasB v (t.take n))]]) (out ++ [es[es.findIdx (hasB v (t.take n))].page]) else (es, out)) else (es, out)
def findR (es : List EntD) (v : Int) (t : List Int) : List EntD × List Int := findG v t t.length 4 es []
theorem findG_len (v : Int) (t : List Int) : ∀ (f n : Nat) (es : List EntD) (out : List Int), (findG v t f n es out).1.length = es.length ∧ (findG v t f n es out).2.length ≤ out.length + f
  | 0, n, es, out => ⟨rfl, Nat.le_refl _⟩
  | f + 1, n, es, out => by
    unfold findG
    split
    · split
      · rename_i h
        obtain ⟨a, b⟩ := findG_len v t f (n + 4) (es.eraseIdx (es.findIdx (hasB v (t.take n))) ++ [es[es.findIdx (hasB v (t.take n))]]) (out ++ [es[es.findIdx (hasB v (t.take n))].page])
        refine ⟨?_, ?_⟩
        · rw [a, List.length_append, List.length_eraseIdx, if_pos h]; simp; omega
        · rw [List.length_append] at b
          simp only [List.length_cons, List.length_nil] at b
          omega
      · exact ⟨rfl, Nat.le_add_right _ _⟩
    · exact ⟨rfl, Nat.le_add_right _ _⟩
theorem findG_stop {v : Int} {t : List Int} {f n : Nat} {es : List EntD} {out : List Int} (h : t.length ≤ n) : findG v t f n es out = (es, out) := by
  cases f with
  | zero => rfl
  | succ f => unfold findG; rw [if_neg (by omega)]
theorem findG_none {v : Int} {t : List Int} {f n : Nat} {es : List EntD} {out : List Int} (h : ¬ es.findIdx (hasB v (t.take n)) < es.length) : findG v t f n es out = (es, out) := by
  cases f with
  | zero => rfl
  | succ f =>
    unfold findG
    split
    · first
      | rfl
      | rw [dif_neg h]
    · rfl
theorem findG_some {v : Int} {t : List Int} {f n : Nat} {es : List EntD} {out : List Int} (hn : n < t.length) (h : es.findIdx (hasB v (t.take n)) < es.length) :
    findG v t (f + 1) n es out = findG v t f (n + 4) (es.eraseIdx (es.findIdx (hasB v (t.take n))) ++ [es[es.findIdx (hasB v (t.take n))]]) (out ++ [es[es.findIdx (hasB v (t.take n))].page]) := by
  conv => lhs; unfold findG
  rw [if_pos hn, dif_pos h]
/-- An index, and what was found till now. -/
def FX (W w w1 : World) (pb xb k : Nat) (B : Int) (ps : List PageD) (es : List EntD) (FP FI : Nat → Prop) (oA : Option Addr) (oC : Nat) (out : List Int) : Prop :=
  ∃ FI' FO : Nat → Prop, PX W w1 pb xb k B ps es FP FI' ∧ (∀ i, FI' i → Ext FI w w1 i) ∧ Own w1 t_int 1 oA out.length oC (out.map (.int .i64)) FO ∧ (∀ i, FO i → New w w1 i) ∧ Apart FO FI' ∧ Ch FI w w1
section
variable {W w w1 w' : World} {pb xb k : Nat} {B : Int} {ps : List PageD} {es : List EntD} {FP FI G : Nat → Prop} {oA : Option Addr} {oC : Nat} {out t : List Int}
theorem FX.keepN (h : FX W w w1 pb xb k B ps es FP FI oA oC out) (hc : Ch Non w1 w') : FX W w w' pb xb k B ps es FP FI oA oC out := by
  obtain ⟨FI', FO, a, b, c, d, e, f⟩ := h
  exact ⟨FI', FO, a.keepN hc, fun i hi => (b i hi).imp id (fun h => ⟨h.1, by have := h.2; have := hc.size; omega⟩), c.keepN hc, fun i hi => New.le (d i hi) hc.size, e, f.andN hc⟩
set_option maxHeartbeats 1000000 in
theorem Find_spec (h : PX W w pb xb k B ps es FP FI) (hB : 0 ≤ B ∧ B ≤ 1000000000) (hn : es.length < 1000) {to : Option Addr} (ht : Rd w to (t.map (.int .i64)) G) (hG : ∀ i, i < w.heap.size → G i → ¬ FI i) (htl : t.length ≤ 1000) (v : Int) {tc : Nat} (htc : t.length ≤ tc) :
    Calls Try.prog i_prefix_Index_Find #[.pointer (some ⟨xb, 0, none⟩), .int .i64 v, .slice to t.length tc] w (Ret fun x w' => ∃ FI' FO : Nat → Prop, IntsV w' x (findR es v t).2 FO ∧ (∀ i, FO i → New w w' i) ∧
      PX W w' pb xb k (B + t.length) (if allB ps (findR es v t).2 then shareL ps (findR es v t).2 else ps) (findR es v t).1 FP FI' ∧ (∀ i, FI' i → Ext FI w w' i) ∧ Apart FO FI' ∧ Ch (fun i => FI i ∨ FP i) w w') := by
  refine prefix_Index_Find.calls _ _ _ _ _ ?_
  unfold prefix_Index_Find.vc
  have hrl := findG_len v t t.length 4 es []
  rw [List.length_nil, Nat.zero_add] at hrl
  refine ⟨fun oA oN oC w' => oN = (findR es v t).2.length ∧ FX W w w' pb xb k B ps (findR es v t).1 FP FI oA oC (findR es v t).2,
    ⟨fun oA oN oC n f w' => ∃ (m : Nat) (es' : List EntD) (out : List Int), n = m ∧ 4 ≤ m ∧ t.length ≤ m + f ∧ findG v t f m es' out = findR es v t ∧ out.length + f ≤ t.length ∧ es'.length = es.length ∧ oN = out.length ∧ FX W w w' pb xb k B ps es' FP FI oA oC out,
      ⟨t.length, 4, es, [], rfl, Nat.le_refl _, by omega, rfl, by simp, rfl, rfl, FI, Non, h, fun i hi => .inl hi, Own.nil _ _ _ _, fun _ hi => hi.elim, fun _ hi => hi.elim, Ch.refl _ _⟩, ?_⟩, ?_⟩
  · rintro jk oA oN oC n f w1 ⟨m, es', out, rfl, hm4, hmf, hfin, hol, hel, rfl, hX⟩
    refine ⟨fun hlt => ?_, fun hge => ?_⟩
    rotate_left
    · have hge : t.length ≤ m := by have := of_decide_eq_false hge; omega
      rw [findG_stop hge] at hfin
      rw [← hfin]
      exact ⟨rfl, hX⟩
    have hlt : m < t.length := by have := of_decide_eq_true hlt; omega
    refine ⟨⟨by omega, by omega⟩, ?_⟩
    have hX0 := hX
    obtain ⟨FI', FO, hP, hI', hO, hO', hap, hcw⟩ := hX
    have ht1 : Rd w1 (if tc = 0 then to else to.map (·.add (0 * 1))) ((t.take m).map (.int .i64)) G := by
      have := (ht.keep hcw (fun i hi hg hf => hG i hi hg hf)).slice (c := tc) (sz := 1) (by simp; omega) 0 m
      simpa [List.map_take] using this
    have hml : ((m : Int).toNat - 0) = (t.take m).length := by rw [List.length_take]; omega
    rw [hml]
    refine step_call (find_spec hP.x ht1 v _) ?_
    rintro x w2 ⟨rfl, hc2⟩
    refine ⟨_, rfl, ?_⟩
    have hX2 := hX0.keepN hc2
    by_cases hidx : es'.findIdx (hasB v (t.take m)) < es'.length
    rotate_left
    · have hfi : findI es' v (t.take m) = -1 := by unfold findI; rw [if_neg hidx]
      rw [hfi]
      refine iteT (by decide) ?_
      rw [findG_none hidx] at hfin
      rw [← hfin]
      exact ⟨rfl, hX2⟩
    have hfi : findI es' v (t.take m) = (es'.findIdx (hasB v (t.take m)) : Int) := by unfold findI; rw [if_pos hidx]
    rw [hfi]
    obtain ⟨f, rfl⟩ : ∃ f', f = f' + 1 := ⟨f - 1, by omega⟩
    rw [findG_some hlt hidx] at hfin
    generalize es'.findIdx (hasB v (t.take m)) = j at hidx hfin
    refine iteF (decide_eq_false (by omega)) ?_
    have hP2 := hP.keepN hc2
    have hO2 := hO.keepN hc2
    have hcw2 := hcw.andN hc2
    have hs12 := hc2.size
    obtain ⟨o, c, gs, R, hC, hF, hA⟩ := hP2.x
    have hjg : j < gs.length := by rw [hA.length]; exact hidx
    obtain ⟨p, hp, _, _, hcell⟩ := hC.own.rd.elem (sz := 3) (enc := ecE) (fun _ => rfl) (by omega) hjg
    have he := hA.get j hjg hidx
    subst hp
    have c0 := hcell 0 _ rfl
    rw [add_none] at c0
    have hjj : (j : Int).toNat = j := Int.toNat_natCast j
    refine ⟨_, _, _, hC.blk.cell 1 rfl, ⟨by omega, by omega⟩, _, _, _, _, _, ⟨by rw [hjj]; exact c0, by rw [hjj]; exact hcell 1 _ rfl, by rw [hjj]; exact hcell 2 _ rfl⟩, fun w3 e3 => ?_⟩
    have hE3 := Blk.new e3
    refine ⟨⟨hE3.ok 0 rfl, hE3.ok 1 rfl, hE3.ok 2 rfl⟩, fun w4 e4 => ?_⟩
    have e5 : w4 = w3.setCells w2.heap.size 0 (ecE gs[j]) := e4
    have hE4 := hE3.all (ecE gs[j]) rfl e5
    have hE4 : Blk w4 w2.heap.size (ecE gs[j]) 120 := hE4
    have hc24 : Ch Non w2 w4 := (Ch.alloc (F := Non) e3).trans (Ch.sets (F := (· = w2.heap.size)) e5 rfl) (fun i hi he => by omega)
    have hs4 := hE4.lt
    clear e3 e4 e5 hE3 hcell c0
    have hRlt : ∀ k i, R k i → i < w2.heap.size := hC.fam.1
    have hOlt : ∀ i, FO i → i < w2.heap.size := fun i hi => by have := (hO' i hi).2; omega
    generalize hebe : w2.heap.size = eb at hE4 hs4 hRlt hOlt ⊢
    have hebR : ∀ k, ¬ R k eb := fun k hk => Nat.lt_irrefl _ (hRlt k eb hk)
    have hC4 := hC.keep hc24 (fun _ _ _ hN => hN)
    have hA4 := hA.imp (fun _ _ k => EcR.keepN k hc24)
    have hO4 := hO2.keepN hc24
    have hcw4 := hcw2.andN hc24
    have hP4 := hP2.keepN hc24
    generalize hgj : gs[j] = g at hE4 he
    generalize hej : es'[j] = e at he hfin
    have he4 := he.keepN hc24
    clear hc24 hC hA hP2 hO2 hc2 hX2 hX0 hP hcw2
    refine ⟨fun w' => Ch (R 1) w4 w', fun w5 e5 => ⟨Ch.drew e5, _, _, _, fun w' hc => (hC4.blk.keep hc (fun hx => hC4.fam.2 0 1 (by omega) xb hC4.z hx)).cell 1 rfl, ?_⟩⟩
    refine ⟨_, _, _, _, _, ⟨fun w' hc => (hE4.keep hc (hebR 1)).cell 0 rfl, fun w' hc => (hE4.keep hc (hebR 1)).cell 1 rfl, fun w' hc => (hE4.keep hc (hebR 1)).cell 2 rfl⟩, ?_⟩
    have tail : ∀ (wa : World) (nb : Nat), Ch (R 1) w4 wa → Own wa t_prefix_entry 3 (some p) (es'.length - 1) c ((gs.eraseIdx j).map ecE).flatten (R 1) → Blk wa nb (ecE g) t_prefix_entry →
        ∃ (x44A : Option Addr) (x44N x44C : Nat) (w10 : World), (Builtin.append_ #[115, 115] 115 #[.slice (some p) (es'.length - 1) c, .slice (some ⟨nb, 0, none⟩) 1 1]).run Try.prog wa = .ok (.slice x44A x44N x44C) w10 ∧
          Ch (R 1) w4 w10 ∧ ((∃ u, w10.cell? (⟨xb, 1, none⟩ : Addr) = some u) ∧ w10.frozen? (⟨xb, 1, none⟩ : Addr) = false) ∧ ∀ w11 : World, w11 = w10.setCell (⟨xb, 1, none⟩ : Addr) (.slice x44A x44N x44C) →
            ∃ x49 : Int, w11.cell? (⟨eb, 2, none⟩ : Addr) = some (.int .i64 x49) ∧ ∀ w12 : World, w12 = w11.alloc (.cells #[.int .i64 x49] 3 (0, 0)) →
              ∃ (x51A : Option Addr) (x51N x51C : Nat) (w13 : World), (Builtin.append_ #[27, 27] 27 #[.slice oA out.length oC, .slice (some ⟨w11.heap.size, 0, none⟩) 1 1]).run Try.prog w12 = .ok (.slice x51A x51N x51C) w13 ∧
                ∃ vk_1 : Nat, vk_1 < f + 1 ∧ ∃ (m' : Nat) (es'' : List EntD) (out' : List Int), IntKind.i64.wrap ((m : Int) + 4) = m' ∧ 4 ≤ m' ∧ t.length ≤ m' + vk_1 ∧ findG v t vk_1 m' es'' out' = findR es v t ∧ out'.length + vk_1 ≤ t.length ∧ es''.length = es.length ∧ x51N = out'.length ∧ FX W w w13 pb xb k B ps es'' FP FI x51A x51C out' := by
      intro wa nb hca hOa hBa
      have hsa := hca.size
      have hfa := hC4.fam.le hca.size
      have hBx := hC4.blk.keep hca (fun hx => hC4.fam.2 0 1 (by omega) xb hC4.z hx)
      have hAa : All2 (fun g e => EcR wa g e (R 2)) gs es' := hA4.imp (fun _ _ k => EcR.keep k hca (fun i _ a b => hC4.fam.2 2 1 (by omega) i a b))
      have hea := he4.keep hca (fun i _ a b => hC4.fam.2 2 1 (by omega) i a b)
      obtain ⟨o', c', w10, hr10, hc10, hok10, hst⟩ := push_spec (F := FI') (es := es'.eraseIdx j) hfa hC4.z hBx hOa (by rw [List.length_eraseIdx, if_pos hjg, hC4.len]) (All2.eraseIdx hAa j) hF (by omega) hBa hea
      refine ⟨o', _, c', w10, hr10, hca.same hc10, hok10, fun w11 e11 => ?_⟩
      obtain ⟨hI11, hc11⟩ := hst w11 e11
      have hxb := hC4.z
      have hc411 : Ch (fun i => R 1 i ∨ i = xb) w4 w11 := ((hca.same hc10).mono (fun i _ hi => .inl hi)).same (hc11.mono (fun i _ hi => .inr hi))
      have hs10 := hc10.size
      have hs11 := hc11.size
      have hE11 := hE4.keep hc411 (fun hx => by
        rcases hx with hx | hx
        · exact hebR 1 hx
        · exact hebR 0 (hx ▸ hxb))
      refine ⟨_, hE11.cell 2 rfl, fun w12 e12 => ?_⟩
      have hF4 : ∀ i, (R 1 i ∨ i = xb) → FI' i := fun i hi => by
        rcases hi with hi | hi
        · exact hF 1 i hi
        · exact hF 0 i (hi ▸ hxb)
      have hcF : Ch FI' w4 w11 := hc411.mono (fun i _ hi => hF4 i hi)
      have hP11 : PX W w11 pb xb k B ps (es'.eraseIdx j ++ [e]) FP (Ext FI' wa w10) := by
        have h1 := hP4.index (hI11.mono (fun i hi hE => hE.imp id (fun h => ⟨by have := h.1; omega, hi⟩))) hcF
        exact ⟨h1.p, hI11, h1.g, fun i hi => by
          rcases hi with hi | hi
          · exact ⟨(hP4.f i hi).1, by have := (hP4.f i hi).2; omega⟩
          · exact ⟨by have := hi.1; have := hP4.p.c.size; omega, by have := hi.2; omega⟩, fun i hi hf => by
          rcases hi with hi | hi
          · exact hP4.ap i hi hf
          · have := hP4.p.lt i hf; have := hi.1; omega⟩
      have hO11 := hO4.keep hcF (fun i _ a b => hap i a b)
      obtain ⟨oB, cB, w13, hr13, hO13, hc13⟩ := Own.pushT (enc := .int .i64) el_S_int hO11 27 g.page e12 rfl (by unfold maxLen; omega) (by omega)
      have hs13 := hc13.size
      have hs24 : eb < w4.heap.size := hs4
      have hpg : g.page = e.page := he4.2.1
      refine ⟨oB, _, cB, w13, hr13, f, by omega, m + 4, es'.eraseIdx j ++ [e], out ++ [g.page], by rw [wrap_id (by omega) (by omega)]; rfl, by omega, by omega, by rw [hpg]; exact hfin, by simp; omega, ?_, by simp, ?_⟩
      · rw [List.length_append, List.length_eraseIdx, if_pos hidx]; simp; omega
      have hcw11 : Ch FI w w11 := hcw4.trans hcF (fun i hi hf => (hI' i hf).old hi)
      have hcw13 : Ch FI w w13 := hcw11.trans hc13 (fun i hi hf => absurd hi (Nat.not_lt.2 (hO' i hf).1))
      have hsw := hcw4.size
      have hd13 : ∀ i, i < w11.heap.size → Ext FI' wa w10 i → ¬ FO i := fun i _ hi hf => by
        rcases hi with hi | hi
        · exact hap i hf hi
        · have := hOlt i hf; have := hi.1; omega
      refine ⟨Ext FI' wa w10, Ext FO w11 w13, ⟨⟨hP11.p.r.keep hc13 (fun i _ hi hf => by have := hP4.p.lt i hi; have := hO' i hf; have := this.1; have := h.p.lt; exact absurd (h.p.lt i hi) (Nat.not_lt.2 (hO' i hf).1)), hP11.p.f.le hc13.size, hP11.p.c.trans hc13 (fun i hi hf => by have := (hO' i hf).1; have := h.p.c.size; omega)⟩, hP11.x.keep hc13 hd13, hP11.g, hP11.f.le hc13.size, hP11.ap⟩, ?_, ?_, ?_, ?_, hcw13⟩
      · intro i hi
        rcases hi with hi | hi
        · rcases hI' i hi with hi | hi
          · exact .inl hi
          · exact .inr ⟨hi.1, by have := hi.2; omega⟩
        · exact .inr ⟨by have := hi.1; omega, by have := hi.2; omega⟩
      · simpa using hO13
      · intro i hi
        rcases hi with hi | hi
        · exact ⟨(hO' i hi).1, by have := (hO' i hi).2; omega⟩
        · exact ⟨by have := hi.1; omega, hi.2⟩
      · intro i hi hf
        rcases hi with hi | hi
        · exact hd13 i (by have := hOlt i hi; omega) hf hi
        · rcases hf with hf | hf
          · have := (hP4.f i hf).2; have := hi.1; omega
          · have := hf.2; have := hi.1; omega
    have hs5 : w4.heap.size = w5.heap.size := by subst e5; rfl
    have hE' : ∀ {w'}, Ch (R 1) w4 w' → Blk w' eb (ecE g) 120 := fun hc => hE4.keep hc (hebR 1)
    refine ⟨?_, fun w14 e14 => ?_, trivial⟩
    · refine step_call (Delete_spec (hC4.own.keepN (Ch.drew e5)) hC4.len hidx (by omega)) ?_
      rintro x w8 ⟨rfl, hO8, hc8⟩
      have hc48 : Ch (R 1) w4 w8 := (Ch.drew (F := R 1) e5).same hc8
      refine ⟨_, _, _, rfl, hc48, fun w9 e9 => ⟨hc48.andN (Ch.alloc e9), ?_⟩⟩
      exact tail w9 w8.heap.size (hc48.andN (Ch.alloc e9)) (hO8.keepN (Ch.alloc e9)) (Blk.new e9)
    · have hB14 := Blk.new e14
      have hc14 : Ch (R 1) w4 w14 := (Ch.drew (F := R 1) e5).andN (Ch.alloc e14)
      refine ⟨hc14, ?_⟩
      refine step_call (Delete_spec ((hC4.own.keepN (Ch.drew e5)).keepN (Ch.alloc e14)) hC4.len hidx (by omega)) ?_
      rintro x w15 ⟨rfl, hO15, hc15⟩
      have hc415 := hc14.same hc15
      refine ⟨_, _, _, rfl, hc415, ?_⟩
      exact tail w15 w5.heap.size hc415 hO15 (hB14.keep hc15 (fun hx => by have := hRlt 1 _ hx; omega))
  · rintro jk oA oN oC w20 ⟨rfl, FI', FO, hP, hI', hO, hO', hap, hcw⟩
    have hxb : w20.cell? ⟨xb, 0, none⟩ = some (.pointer (some ⟨pb, 0, none⟩)) := by
      obtain ⟨o, c, gs, R, hC, _⟩ := hP.x
      exact hC.blk.cell 0 rfl
    have hrl2 : (findR es v t).2.length ≤ t.length := hrl.2
    have hOP : ∀ i, FO i → ¬ FP i := fun i hi hf => absurd (h.p.lt i hf) (Nat.not_lt.2 (hO' i hi).1)
    refine ⟨_, hxb, ?_⟩
    refine step_call (Share_spec hP.p.r hO.rd (fun i _ hi hf => hOP i hi hf) (by omega) (by omega) hP.g.bnd oC) ?_
    rintro x w21 ⟨rfl, hr21, hc21⟩
    refine ⟨_, rfl, FI', FO, ⟨oA, oC, rfl, hO.rd.keep hc21 (fun i _ hi hf => hOP i hi hf)⟩, fun i hi => New.le (hO' i hi) hc21.size, hP.pool hr21 hc21 ?_, fun i hi => (hI' i hi).imp id (fun h => ⟨h.1, by have := h.2; have := hc21.size; omega⟩), hap, ?_⟩
    · split
      · exact (Pages.Good.share hB.1 hP.g).le (by omega)
      · exact hP.g.le (by omega)
    · exact (hcw.mono (fun i _ hi => .inl hi)).trans hc21 (fun i _ hi => .inr hi)
end
end Go.Proofs.Ytpcddfhfchempaa.Prefix
