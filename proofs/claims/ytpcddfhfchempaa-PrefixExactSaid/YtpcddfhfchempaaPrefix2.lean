/- For every index of beginnings over a pool of pages: what a page added, pages found, and one evicted leave and answer; the conditions stand in each theorem. -/
import Derived.Test.YtpcddfhfchempaaPrefix
set_option linter.unusedVariables false
set_option linter.unusedSimpArgs false
namespace Go.Proofs.Ytpcddfhfchempaa.Prefix
open Go Go.Proofs Go.Proofs.Ytpcddfhfchempaa.V Go.Proofs.Ytpcddfhfchempaa.Vc Go.Proofs.Ytpcddfhfchempaa.Step Go.Proofs.Ytpcddfhfchempaa.Pages Go.RowKit

/-- An index over a pool, both of the call's own. -/
structure PX (W w : World) (pb xb k : Nat) (B : Int) (ps : List PageD) (es : List EntD) (FP FI : Nat → Prop) : Prop where
  p : Pool W w pb ps FP
  x : IdxR w xb pb es FI
  g : Pages.Good k B ps
  f : Foot W w FI
  ap : Apart FI FP
section
variable {W w w' : World} {pb xb k n : Nat} {B : Int} {ps ps' : List PageD} {es es' : List EntD} {FP FI F G : Nat → Prop} {o : Option Addr} {c : Nat} {gs : List EcC} {R : Nat → Nat → Prop}
theorem PX.keepN (h : PX W w pb xb k B ps es FP FI) (hc : Ch Non w w') : PX W w' pb xb k B ps es FP FI := ⟨h.p.keepN hc, h.x.keepN hc, h.g, h.f.le hc.size, h.ap⟩
theorem PX.lt (h : PX W w pb xb k B ps es FP FI) : ∀ i, FI i → i < w.heap.size := fun i hi => (h.f i hi).2
/-- The pool is changed. -/
theorem PX.pool (h : PX W w pb xb k B ps es FP FI) {B' : Int} (hr : PoolR w' pb ps' FP) (hc : Ch FP w w') (hg : Pages.Good k B' ps') : PX W w' pb xb k B' ps' es FP FI :=
  ⟨h.p.step hr hc, h.x.keep hc (fun i _ hi hf => h.ap i hi hf), hg, h.f.le hc.size, h.ap⟩
/-- The index is changed. -/
theorem PX.index (h : PX W w pb xb k B ps es FP FI) (hx : IdxR w' xb pb es' (Ext FI w w')) (hc : Ch FI w w') : PX W w' pb xb k B ps es' FP (Ext FI w w') :=
  ⟨⟨h.p.r.keep hc (fun i _ hi hf => h.ap i hf hi), h.p.f.le hc.size, h.f.hi h.p.c hc⟩, hx, h.g, h.f.ext h.p.c hc.size, h.ap.extL h.p.f⟩
theorem PX.le (h : PX W w pb xb k B ps es FP FI) {B' : Int} (hB : B ≤ B') : PX W w pb xb k B' ps es FP FI := ⟨h.p, h.x, h.g.le hB, h.f, h.ap⟩
theorem EcR.ec {w : World} {g : EcC} {e : EntD} {Fd : Nat → Prop} (h : EcR w g e Fd) : ecE g = [.int .i64 e.ver, .slice g.to e.toks.length g.tc, .int .i64 e.page] := by
  obtain ⟨a, b, c, _⟩ := h
  unfold ecE; rw [a, b, c]
/-- append(x.entries, e), stored. -/
theorem push_spec (fam : Fam w R) (z : R 0 xb) {sv : Value} (blk : Blk w xb [.pointer (some ⟨pb, 0, none⟩), sv] t_prefix_Index) (own : Own w t_prefix_entry 3 o n c (gs.map ecE).flatten (R 1)) (len : gs.length = n)
    (hP : All2 (fun g e => EcR w g e (R 2)) gs es) (hF : ∀ k i, R k i → F i) (hn : n < 1000) {nb : Nat} {g : EcC} {e : EntD} (hb : Blk w nb (ecE g) t_prefix_entry) (hg : EcR w g e (R 2)) :
    ∃ (o' : Option Addr) (c' : Nat) (w' : World), (Builtin.append_ #[t_S_prefix_entry, t_S_prefix_entry] t_S_prefix_entry #[.slice o n c, .slice (some ⟨nb, 0, none⟩) 1 1]).run Try.prog w = .ok (.slice o' (n + 1) c') w' ∧ Ch (R 1) w w' ∧
      ((∃ u, w'.cell? ⟨xb, 1, none⟩ = some u) ∧ w'.frozen? ⟨xb, 1, none⟩ = false) ∧
      ∀ w'' : World, w'' = w'.setCell ⟨xb, 1, none⟩ (.slice o' (n + 1) c') → IdxR w'' xb pb (es ++ [e]) (Ext F w w') ∧ Ch (· = xb) w' w'' := by
  obtain ⟨o', c', w', hr, ho, hc⟩ := Own.appendRd (c2 := 1) (m := 1) el_S_prefix_entry own t_S_prefix_entry hb.rd rfl (fun u hu => by
    simp only [ecE, List.mem_cons, List.not_mem_nil, or_false] at hu
    rcases hu with rfl | rfl | rfl <;> rfl) (by unfold maxLen; omega) (by omega)
  have hfam := fam.upd hc.size 1
  have r1 : updF R 1 w w' 1 = Ext (R 1) w w' := updF_same 1
  have rk : ∀ k, k ≠ 1 → updF R 1 w w' k = R k := fun k hk => updF_other hk
  have hB := blk.keep hc (fun hx => fam.2 0 1 (by omega) xb z hx)
  refine ⟨o', c', w', hr, hc, hB.ok 1 rfl, fun w'' e2 => ?_⟩
  have hc2 : Ch (· = xb) w' w'' := Ch.set e2 rfl
  have hB2 := hB.set e2
  have hn0 : ∀ k i, k ≠ 0 → updF R 1 w w' k i → ¬ i = xb := fun k i hk hi he => by
    subst he
    exact hfam.2 0 k (fun e => hk e.symm) i (by rw [rk 0 (by omega)]; exact z) hi
  refine ⟨⟨o', c', gs ++ [g], updF R 1 w w', ⟨hfam.le hc2.size, by rw [rk 0 (by omega)]; exact z, ?_, ?_, by simp [hP.length]⟩, fun k i hi => ?_, ?_⟩, hc2⟩
  · have : (es ++ [e]).length = n + 1 := by rw [List.length_append, ← hP.length, len]; rfl
    rw [this]; exact hB2
  · have : (es ++ [e]).length = n + 1 := by rw [List.length_append, ← hP.length, len]; rfl
    rw [this, r1, List.map_append, List.flatten_append]
    have h2 := ho.keep hc2 (fun i _ hi he => hn0 1 i (by omega) (by rw [r1]; exact hi) he)
    simpa using h2
  · unfold updF at hi
    split at hi
    · rcases hi with hi | hi
      · exact .inl (hF _ _ hi)
      · exact .inr hi
    · exact .inl (hF _ _ hi)
  · rw [rk 2 (by omega)]
    have hk2 : ∀ {g e}, EcR w g e (R 2) → EcR w'' g e (R 2) := fun h => (h.keep hc (fun i _ a b => fam.2 2 1 (by omega) i a b)).keep hc2 (fun i _ a b => hn0 2 i (by omega) (by rw [rk 2 (by omega)]; exact a) b)
    exact (hP.imp (fun _ _ h => hk2 h)).snoc (hk2 hg)
def addOk (ps : List PageD) (id v : Int) : Bool := isB ps id && ((pgAt ps id).ver == v) && ((pgAt ps id).es.length == 4)
def addE (ps : List PageD) (es : List EntD) (id v : Int) (t : List Int) : Int :=
  if ¬ (0 < (t.length : Int) ∧ (t.length : Int) ≤ 32 ∧ (t.length : Int) % 4 = 0) then 1 else if findI es v t ≥ 0 then 9 else if addOk ps id v then 0 else 8
def addX (ps : List PageD) (es : List EntD) (id v : Int) (t : List Int) : List EntD := if addE ps es id v t = 0 then es ++ [⟨v, t, id⟩] else es
def addP (ps : List PageD) (es : List EntD) (id v : Int) (t : List Int) : List PageD := if addE ps es id v t = 0 then addU 1 ps id else ps
theorem PX.fail (h : PX W w pb xb k B ps es FP FI) {id v : Int} {t : List Int} {e : Int} (hw : Ch Non w w') (he : addE ps es id v t = e) (h0 : e ≠ 0) :
    PX W w' pb xb k (B + 1) (addP ps es id v t) (addX ps es id v t) FP (Ext FI w w') ∧ Ch (fun i => FI i ∨ FP i) w w' := by
  unfold addP addX
  rw [he, if_neg h0, if_neg h0]
  have h2 := (h.keepN hw).le (B' := B + 1) (by omega)
  exact ⟨⟨h2.p, h2.x.mono (fun i _ hi => .inl hi), h2.g, fun i hi => by
    rcases hi with hi | hi
    · exact h2.f i hi
    · exact ⟨Nat.le_trans h.p.c.size hi.1, hi.2⟩, h.ap.extL h.p.f⟩, hw.any⟩
theorem Add_spec (h : PX W w pb xb k B ps es FP FI) (hB : 0 ≤ B ∧ B ≤ 1000000000) (hn : es.length < 1000) {to : Option Addr} {t : List Int} (ht : Rd w to (t.map (.int .i64)) G) (htl : t.length ≤ 1000) (id v : Int) (tc : Nat) :
    Calls Try.prog i_prefix_Index_Add #[.pointer (some ⟨xb, 0, none⟩), .int .i64 id, .int .i64 v, .slice to t.length tc] w (Ret fun x w' => x = .int .i64 (addE ps es id v t) ∧
      PX W w' pb xb k (B + 1) (addP ps es id v t) (addX ps es id v t) FP (Ext FI w w') ∧ Ch (fun i => FI i ∨ FP i) w w') := by
  refine prefix_Index_Add.calls _ _ _ _ _ _ ?_
  unfold prefix_Index_Add.vc
  refine step_call (isBeginning_spec w _ (by omega)) ?_
  rintro x w1 ⟨rfl, rfl⟩
  by_cases hb : 0 < (t.length : Int) ∧ (t.length : Int) ≤ 32 ∧ (t.length : Int) % 4 = 0
  rotate_left
  · have he : addE ps es id v t = 1 := by unfold addE; rw [if_pos hb]
    refine ⟨_, rfl, iteT (by rw [decide_eq_false hb]; rfl) ⟨by rw [he], h.fail (Ch.refl _ _) he (by decide)⟩⟩
  refine ⟨_, rfl, iteF (by rw [decide_eq_true hb]; rfl) ?_⟩
  refine step_call (find_spec h.x ht v tc) ?_
  rintro x w2 ⟨rfl, hc2⟩
  by_cases hf : findI es v t ≥ 0
  · have he : addE ps es id v t = 9 := by unfold addE; rw [if_neg (fun hn => hn hb), if_pos hf]
    exact ⟨_, rfl, iteT (decide_eq_true hf) ⟨by rw [he], h.fail hc2 he (by decide)⟩⟩
  refine ⟨_, rfl, iteF (decide_eq_false hf) ?_⟩
  have he8 : addOk ps id v = false → addE ps es id v t = 8 := fun ha => by unfold addE; rw [if_neg (fun hn => hn hb), if_neg hf, ha]; rfl
  have h2 := h.keepN hc2
  have hxb : w2.cell? ⟨xb, 0, none⟩ = some (.pointer (some ⟨pb, 0, none⟩)) := by
    obtain ⟨o, c, gs, R, hC, _⟩ := h2.x
    exact hC.blk.cell 0 rfl
  refine ⟨_, hxb, ?_⟩
  refine step_call (Users_spec h2.p.r id) ?_
  rintro x w3 ⟨rfl, rfl⟩
  have hat := h.g.at hB.1 id
  refine ⟨_, rfl, fun hu => ?_, fun hu => ?_⟩
  · have hb0 : isB ps id = false := by
      cases hbb : isB ps id with
      | false => rfl
      | true =>
        rw [hbb, if_pos rfl] at hu
        have hz : (pgAt ps id).users = 0 := by simpa using hu
        have := isB_pos hbb; omega
    have he := he8 (by unfold addOk; rw [hb0]; rfl)
    exact ⟨by rw [he], h.fail hc2 he (by decide)⟩
  have hb1 : isB ps id = true := by
    cases hbb : isB ps id with
    | true => rfl
    | false => rw [hbb] at hu; simp at hu
  refine ⟨_, hxb, ?_⟩
  refine step_call (Version_spec h2.p.r id) ?_
  rintro x w4 ⟨rfl, rfl⟩
  rw [hb1, if_pos rfl]
  refine ⟨_, rfl, fun hv => ?_, fun hv => ?_⟩
  · have hv : ((pgAt ps id).ver == v) = false := by simpa using hv
    have he := he8 (by unfold addOk; rw [hv, Bool.and_false]; rfl)
    exact ⟨by rw [he], h.fail hc2 he (by decide)⟩
  have hv : ((pgAt ps id).ver == v) = true := by simpa using hv
  refine ⟨_, hxb, fun w5 e5 => ?_⟩
  have r5 : Rd w5 (some ⟨w4.heap.size, 0, none⟩) (([id] : List Int).map (.int .i64)) (· = w4.heap.size) := (Blk.new e5).rd
  have hc5 := hc2.andN (Ch.alloc e5)
  have h5 := h.keepN hc5
  refine step_call (Get_spec (l := [id]) h5.p.r r5 (fun p hp => (h5.g.pg p hp).2.2.2) (by simp) 1) ?_
  rintro x w6 ⟨oG, cG, qs, F1, F2, rfl, hG, _⟩
  have hgl : getL ps [id] = (pgAt ps id).es := by unfold getL; simp [hb1]
  rw [hgl]
  have hc6 := hc5.andN hG.ch
  have h6 := h.keepN hc6
  refine ⟨_, _, _, rfl, fun hl => ?_, fun hl => ?_⟩
  · have hl : ((pgAt ps id).es.length == 4) = false := by
      cases hq : ((pgAt ps id).es.length == 4) with
      | false => rfl
      | true =>
        have : (pgAt ps id).es.length = 4 := by simpa using hq
        rw [this] at hl; simp at hl
    have he := he8 (by unfold addOk; rw [hl, Bool.and_false])
    exact ⟨by rw [he], h.fail hc6 he (by decide)⟩
  have hl : ((pgAt ps id).es.length == 4) = true := by
    have : ((pgAt ps id).es.length : Int) = 4 := by simpa using hl
    simpa using (by omega : (pgAt ps id).es.length = 4)
  have he : addE ps es id v t = 0 := by
    unfold addE addOk
    rw [if_neg (fun hn => hn hb), if_neg hf, hb1, hv, hl]; rfl
  obtain ⟨o, c, gs, R, hC, hF, hP⟩ := h6.x
  have ht6 := ht.keepN hc6
  refine ⟨fun w' => Ch (R 1) w6 w', fun w7 e7 => ⟨Ch.drew e7, _, _, _, fun w' hc => (hC.blk.keep hc (fun hx => hC.fam.2 0 1 (by omega) xb hC.z hx)).cell 1 rfl, ?_⟩⟩
  have hc67 : Ch Non w6 w7 := Ch.drew e7
  refine step_call (Clone_spec (ht6.keepN hc67) (by omega) tc) ?_
  rintro x w9 ⟨⟨o9, c9, rfl, hr9⟩, hc9⟩
  have hc69 := hc67.andN hc9
  refine ⟨_, _, _, rfl, hc69.any, fun w10 e10 => ⟨(hc69.andN (Ch.alloc e10)).any, ?_⟩⟩
  have hB10 := Blk.new e10
  have hc610 : Ch Non w6 w10 := hc69.andN (Ch.alloc e10)
  have hs6 : w6.heap.size ≤ w7.heap.size := hc67.size
  have hs9 := hc9.size
  have hs10 : w9.heap.size < w10.heap.size := hB10.lt
  have hC10 := hC.keep hc610 (fun _ _ _ hN => hN)
  have hfam := hC.fam.upd hc610.size 2
  have r2 : updF R 2 w6 w10 2 = Ext (R 2) w6 w10 := updF_same 2
  have rk : ∀ k, k ≠ 2 → updF R 2 w6 w10 k = R k := fun k hk => updF_other hk
  have hP10 : All2 (fun g e => EcR w10 g e (updF R 2 w6 w10 2)) gs es := by
    rw [r2]; exact hP.imp (fun _ _ k => (k.keepN hc610).mono (fun i _ hi => .inl hi))
  have hg : EcR w10 ⟨v, o9, t.length, c9, id⟩ ⟨v, t, id⟩ (updF R 2 w6 w10 2) := by
    rw [r2]
    exact ⟨rfl, rfl, rfl, (hr9.keepN (Ch.alloc e10)).mono (fun i hi hN => .inr ⟨by have := hN.1; omega, hi⟩), htl⟩
  obtain ⟨o', c', w11, hr11, hc11, hok11, hst⟩ := push_spec (F := Ext FI w6 w10) hfam (by rw [rk 0 (by omega)]; exact hC.z) hC10.blk (by rw [rk 1 (by omega)]; exact hC10.own) hC.len hP10 (fun k i hi => by
    by_cases hk : k = 2
    · subst hk; rw [r2] at hi; exact hi.imp (fun h => hF _ _ h) (fun h => h)
    · rw [rk k hk] at hi; exact .inl (hF _ _ hi)) hn (nb := w9.heap.size) (g := ⟨v, o9, t.length, c9, id⟩) (e := ⟨v, t, id⟩) hB10 hg
  rw [rk 1 (by omega)] at hc11
  refine ⟨o', _, c', w11, hr11, (hc610.any (F := R 1)).same hc11, hok11, fun w12 e12 => ?_⟩
  obtain ⟨hX12, hc12⟩ := hst w12 e12
  have hxF : FI xb := hF 0 xb hC.z
  have hc612 : Ch FI w6 w12 := ((hc610.any (F := FI)).same (hc11.mono (fun i _ hi => hF 1 i hi))).same (hc12.mono (fun i _ hi => hi ▸ hxF))
  have hs11 := hc11.size
  have hs12 := hc12.size
  have h12 := h6.index (hX12.mono (fun i hi hE => by
    rcases hE with (hE | hE) | hE
    · exact .inl hE
    · exact .inr ⟨hE.1, by have := hE.2; omega⟩
    · exact .inr ⟨by have := hE.1; omega, by have := hE.2; omega⟩)) hc612
  have hxb12 : w12.cell? ⟨xb, 0, none⟩ = some (.pointer (some ⟨pb, 0, none⟩)) := by
    obtain ⟨o, c, gs, R, hC, _⟩ := h12.x
    exact hC.blk.cell 0 rfl
  refine ⟨_, hxb12, fun w13 e13 => ?_⟩
  have r13 : Rd w13 (some ⟨w12.heap.size, 0, none⟩) (([id] : List Int).map (.int .i64)) (· = w12.heap.size) := (Blk.new e13).rd
  have h13 := h12.keepN (Ch.alloc e13)
  have hs13 : w12.heap.size < w13.heap.size := (Blk.new e13).lt
  have hlt12 := h12.p.lt
  refine step_call (Share_spec (l := [id]) h13.p.r r13 (fun i _ hi hf => by have := hlt12 i hf; omega) (by simp) (by omega) h.g.bnd 1) ?_
  rintro x w14 ⟨rfl, hr14, hc14⟩
  have hall : allB ps [id] = true := by unfold allB; simp [hb1]
  rw [hall] at hr14 ⊢
  have hr14 : PoolR w14 pb (addU 1 ps id) FP := hr14
  have hg14 : Pages.Good k (B + 1) (addU 1 ps id) := Pages.Good.share (l := [id]) hB.1 h.g
  have h14 := h13.pool hr14 hc14 hg14
  have hs14 := hc14.size
  have hcc : Ch (fun i => FI i ∨ FP i) w1 w14 := (((hc6.any (F := fun i => FI i ∨ FP i)).trans hc612 (fun i _ hi => .inl hi)).andN (Ch.alloc e13)).trans hc14 (fun i _ hi => .inr hi)
  refine ⟨_, rfl, by rw [he]; rfl, ?_, hcc⟩
  unfold addP addX
  rw [he, if_pos rfl, if_pos rfl]
  have hsz6 := hc6.size
  have hN : ∀ i, Ext FI w6 w12 i → Ext FI w1 w14 i := fun i hi => hi.imp (fun h => h) (fun h => ⟨by have := h.1; omega, by have := h.2; omega⟩)
  exact ⟨h14.p, h14.x.mono (fun i _ hi => hN i hi), h14.g, fun i hi => by
    rcases hi with hi | hi
    · exact ⟨(h.f i hi).1, by have := (h.f i hi).2; have := hc6.size; omega⟩
    · exact ⟨by have := h.p.c.size; have := hi.1; omega, hi.2⟩, h.ap.extL h.p.f⟩
end
end Go.Proofs.Ytpcddfhfchempaa.Prefix
