/- For every pool of the document's in memory: what the document's Use of layer 22 leaves and answers; the conditions stand in each theorem. -/
import Derived.Test.YtpcddfhfchempaaRefP2
set_option linter.unusedVariables false
set_option linter.unusedSimpArgs false
namespace Go.Proofs.Ytpcddfhfchempaa.Pages
open Go Go.Proofs Go.Proofs.Ytpcddfhfchempaa.V Go.Proofs.Ytpcddfhfchempaa.Vc Go.Proofs.Ytpcddfhfchempaa.Step Go.RowKit

def useQ (d : Int) (ps : List PageD) (l : List Int) : List PageD := l.foldl (addU d) ps
def zeroP (p : PageD) : PageD := if p.users = 0 then pg0 else p
def useP (d : Int) (ps : List PageD) (l : List Int) : List PageD := (useQ d ps l).map zeroP
def UseGo (ps : List PageD) (d : Int) : List PageD → List Int → Prop
  | _, [] => True
  | q, x :: r => isB ps x = true ∧ 0 ≤ (pgAt q x).users + d ∧ UseGo ps d (addU d q x) r
theorem useQ_len (d : Int) (l : List Int) : ∀ ps, (useQ d ps l).length = ps.length := by
  induction l with
  | nil => intro ps; rfl
  | cons x r ih => intro ps; exact (ih (addU d ps x)).trans (addU_len _ _ _)
theorem useQ_snoc (d : Int) (ps : List PageD) (l : List Int) (x : Int) : useQ d ps (l ++ [x]) = addU d (useQ d ps l) x := by unfold useQ; rw [List.foldl_append]; rfl
theorem useQ_bnd {B d : Int} (hd : -1 ≤ d ∧ d ≤ 1) : ∀ (l : List Int) {B : Int} {ps}, 0 ≤ B → bnd B ps → bnd (B + l.length) (useQ d ps l)
  | [], B, ps, _, h => by simpa [useQ] using h
  | x :: r, B, ps, hB, h => by
    have := useQ_bnd (B := 0) hd r (by omega : 0 ≤ B + 1) (addU_bnd h hB hd x)
    have e : B + ((x :: r).length : Int) = B + 1 + r.length := by rw [List.length_cons]; omega
    rw [e]; exact this
theorem UseGo.left {ps : List PageD} {d : Int} {b : List Int} : ∀ {a : List Int} {q : List PageD}, UseGo ps d q (a ++ b) → UseGo ps d q a
  | [], _, _ => trivial
  | _ :: _, _, h => ⟨h.1, h.2.1, UseGo.left h.2.2⟩
theorem UseGo.snoc {ps : List PageD} {d x : Int} : ∀ {a : List Int} {q : List PageD}, UseGo ps d q (a ++ [x]) ↔ (UseGo ps d q a ∧ isB ps x = true ∧ 0 ≤ (pgAt (useQ d q a) x).users + d)
  | [], q => ⟨fun h => ⟨trivial, h.1, h.2.1⟩, fun h => ⟨h.2.1, h.2.2, trivial⟩⟩
  | y :: r, q => by
    have ih := UseGo.snoc (ps := ps) (d := d) (x := x) (a := r) (q := addU d q y)
    exact ⟨fun h => ⟨⟨h.1, h.2.1, (ih.1 h.2.2).1⟩, (ih.1 h.2.2).2⟩, fun h => ⟨h.1.1, h.1.2.1, ih.2 ⟨h.1.2.2, h.2⟩⟩⟩
/-- The row that is made anew. -/
def NextR (W w : World) (qs : List PageD) (o : Option Addr) (c : Nat) (Fd : Nat → Prop) : Prop :=
  ∃ gs : List PgC, gs.length = qs.length ∧ Gr Non W w t_coadjutorref22_Page 3 o qs.length c (gs.map pgE).flatten ∧ ∀ (i : Nat) (h1 : i < gs.length) (h2 : i < qs.length), FPgR w gs[i] qs[i] Fd
section
variable {W w w' : World} {qs ps : List PageD} {o : Option Addr} {c : Nat} {Fd F G : Nat → Prop}
theorem NextR.keepN (h : NextR W w qs o c Fd) (hc : Ch Non w w') : NextR W w' qs o c Fd := by
  obtain ⟨gs, hl, hg, hP⟩ := h
  exact ⟨gs, hl, hg.keepN hc, fun i h1 h2 => (hP i h1 h2).keep hc (fun _ _ _ h => h)⟩
theorem NextR.at (h : NextR W w qs o c Fd) {j : Nat} (hj : j < qs.length) : ∃ p, o = some p ∧ w.cell? ((p.add (j * 3)).add 1) = some (.int .i64 qs[j].users) ∧
    ((∃ u, w.cell? (p.add (j * 3)) = some u) ∧ w.frozen? (p.add (j * 3)) = false) ∧ ((∃ u, w.cell? ((p.add (j * 3)).add 1) = some u) ∧ w.frozen? ((p.add (j * 3)).add 1) = false) ∧ ((∃ u, w.cell? ((p.add (j * 3)).add 2) = some u) ∧ w.frozen? ((p.add (j * 3)).add 2) = false) := by
  obtain ⟨gs, hl, hg, hP⟩ := h
  have hjg : j < gs.length := by omega
  obtain ⟨p, hp, _, hF, hc⟩ := hg.1.rd.elem (sz := 3) (enc := pgE) (fun _ => rfl) (by omega) hjg
  have f0 := flatten_at (enc := pgE) (sz := 3) (q := 0) gs (fun _ => rfl) hjg (by omega)
  have f1 := flatten_at (enc := pgE) (sz := 3) (q := 1) gs (fun _ => rfl) hjg (by omega)
  have f2 := flatten_at (enc := pgE) (sz := 3) (q := 2) gs (fun _ => rfl) hjg (by omega)
  rw [Nat.add_zero] at f0
  refine ⟨p, hp, ?_, hg.1.ok f0 hp, ?_, ?_⟩
  · rw [← (hP j hjg hj).2.1]; exact hc 1 _ rfl
  · rw [add_add]; exact hg.1.ok f1 hp
  · rw [add_add]; exact hg.1.ok f2 hp
theorem Gr.setP {gs : List PgC} {n : Nat} (h : Gr Non W w t_coadjutorref22_Page 3 o n c (gs.map pgE).flatten) (hn : gs.length = n) {j q : Nat} (hj : j < gs.length) {p : Addr} (hp : o = some p) (hq : q < 3) {v : Value} (ew : w' = w.setCell ((p.add (j * 3)).add q) v) {g : PgC} (hg : pgE g = (pgE gs[j]).set q v) :
    Gr Non W w' t_coadjutorref22_Page 3 o n c ((gs.set j g).map pgE).flatten ∧ Ch (New W w) w w' := by
  rw [add_add] at ew
  have hlt : j * 3 + q < (gs.map pgE).flatten.length := by
    have := h.1.len
    rw [this, ← hn]; omega
  obtain ⟨h1, h2⟩ := h.1.set hlt hp ew
  rw [flatten_set (enc := pgE) gs (fun _ => rfl) hj hg hq] at h1
  exact ⟨⟨h1.mono (fun i _ hi => New.le hi h2.size), h.2.trans h2 (fun i hi hN => absurd hi (Nat.not_lt.2 hN.1))⟩, h2⟩
theorem FPgR.sets {gs : List PgC} (hP : ∀ (i : Nat) (h1 : i < gs.length) (h2 : i < ps.length), FPgR w gs[i] ps[i] Fd) {j : Nat} {g : PgC} {p : PageD} (hg : FPgR w g p Fd) (hc : Ch G w w') (hd : ∀ i, i < w.heap.size → Fd i → ¬ G i) :
    ∀ (i : Nat) (h1 : i < (gs.set j g).length) (h2 : i < (ps.set j p).length), FPgR w' (gs.set j g)[i] (ps.set j p)[i] Fd := fun i h1 h2 => (FPgR.set hP hg i h1 h2).keep hc hd
theorem NextR.users (h : NextR W w qs o c Fd) (hd : ∀ i, Fd i → i < W.heap.size) {x : Int} (h0 : 0 ≤ x) (h1 : x.toNat < qs.length) {p : Addr} (hp : o = some p) {d : Int} (ew : w' = w.setCell ((p.add (x.toNat * 3)).add 1) (.int .i64 ((pgAt qs x).users + d))) :
    NextR W w' (addU d qs x) o c Fd ∧ Ch (New W w) w w' := by
  obtain ⟨gs, hl, hg, hP⟩ := h
  have hjg : x.toNat < gs.length := by omega
  obtain ⟨h2, h3⟩ := Gr.setP hg hl hjg hp (q := 1) (by omega) ew (g := ⟨gs[x.toNat].ver, (pgAt qs x).users + d, gs[x.toNat].eo, gs[x.toNat].en, gs[x.toNat].ec⟩) rfl
  obtain ⟨x1, x2, x3, x4⟩ := hP _ hjg h1
  rw [← pgAt_lt h0 h1] at x1 x3 x4
  unfold addU
  exact ⟨⟨_, by rw [List.length_set, List.length_set]; exact hl, by rw [List.length_set]; exact h2, FPgR.sets (g := ⟨gs[x.toNat].ver, (pgAt qs x).users + d, gs[x.toNat].eo, gs[x.toNat].en, gs[x.toNat].ec⟩) hP ⟨x1, rfl, x3, x4⟩ h3 (fun i _ hi hN => absurd (hd i hi) (Nat.not_lt.2 hN.1))⟩, h3⟩
theorem NextR.zero (h : NextR W w qs o c Fd) (hd : ∀ i, Fd i → i < W.heap.size) {j : Nat} (h1 : j < qs.length) {p : Addr} (hp : o = some p) (ew : w' = ((w.setCell (p.add (j * 3)) (.int .i64 0)).setCell ((p.add (j * 3)).add 1) (.int .i64 0)).setCell ((p.add (j * 3)).add 2) (.slice none 0 0)) :
    NextR W w' (qs.set j pg0) o c Fd ∧ Ch (New W w) w w' := by
  obtain ⟨gs, hl, hg, hP⟩ := h
  have hjg : j < gs.length := by omega
  have h0 : w.setCell (p.add (j * 3)) (.int .i64 0) = w.setCell ((p.add (j * 3)).add 0) (.int .i64 0) := by rw [add_none]
  rw [h0] at ew
  obtain ⟨a1, b1⟩ := Gr.setP hg hl hjg hp (q := 0) (by omega) rfl (g := ⟨0, gs[j].users, gs[j].eo, gs[j].en, gs[j].ec⟩) rfl
  obtain ⟨a2, b2⟩ := Gr.setP a1 (by rw [List.length_set]; exact hl) (j := j) (by rw [List.length_set]; exact hjg) hp (q := 1) (by omega) rfl (g := ⟨0, 0, gs[j].eo, gs[j].en, gs[j].ec⟩) (by rw [List.getElem_set_self]; rfl)
  rw [List.set_set] at a2
  obtain ⟨a3, b3⟩ := Gr.setP a2 (by rw [List.length_set]; exact hl) (j := j) (by rw [List.length_set]; exact hjg) hp (q := 2) (by omega) ew (g := ⟨0, 0, none, 0, 0⟩) (by rw [List.getElem_set_self]; rfl)
  rw [List.set_set] at a3
  have hc : Ch (New W w) w w' := (b1.trans b2 (fun i hi hN => ⟨hN.1, hi⟩)).trans b3 (fun i hi hN => ⟨hN.1, hi⟩)
  exact ⟨⟨_, by rw [List.length_set, List.length_set]; exact hl, by rw [List.length_set]; exact a3, FPgR.sets hP (FPgR.zero _ _ _ _) hc (fun i _ hi hN => absurd (hd i hi) (Nat.not_lt.2 hN.1))⟩, hc⟩
end
section
variable {w : World} {pb : Nat} {ps : List PageD} {F G : Nat → Prop} {o : Option Addr} {l : List Int}
theorem RefUse_spec {B : Int} (h : FPoolR w pb ps F) (hr : Rd w o (l.map (.int .i64)) G) (hl : l.length ≤ 1000000) (hps : ps.length ≤ 1000000) (hB : 0 ≤ B ∧ B ≤ 1000000000000) (hb : bnd B ps) (c : Nat) (d : Int) (hd : -1 ≤ d ∧ d ≤ 1) :
    Calls Try.prog i_coadjutorref22_Pool_Use #[.pointer (some ⟨pb, 0, none⟩), .slice o l.length c, .int .i64 d] w (Ret fun v w' => ∃ b : Bool, (b = true ↔ UseGo ps d ps l) ∧ v = .int .i64 (if b then 0 else 8) ∧ FPoolR w' pb (if b then useP d ps l else ps) (Ext F w w') ∧ Ch F w w') := by
  have hkeep : ∀ {w'}, FPoolR w' pb ps F → FPoolR w' pb ps (Ext F w w') := fun h => h.mono (fun i _ hi => .inl hi)
  refine coadjutorref22_Pool_Use.calls _ _ _ _ _ ?_
  unfold coadjutorref22_Pool_Use.vc
  intro w1 e1
  obtain ⟨o', c', gs, R, hC0, hF, hP0⟩ := h
  have h : FPoolR w pb ps F := ⟨o', c', gs, R, hC0, hF, hP0⟩
  have hc1 : Ch Non w w1 := Ch.alloc e1
  have hRw : ∀ k i, R k i → i < w.heap.size := hC0.fam.1
  have hC : ∀ {w'}, Ch Non w w' → FPoolC w' pb o' c' gs R ps.length := fun hc => hC0.keep hc (fun _ _ _ hN => hN)
  have hP : ∀ {w'}, Ch Non w w' → ∀ (i : Nat) (h1 : i < gs.length) (h2 : i < ps.length), FPgR w' gs[i] ps[i] (R 2) := fun hc i h1 h2 => (hP0 i h1 h2).keep hc (fun _ _ _ hN => hN)
  have hgl := hC0.len
  have hcl : (gs.map pgE).flatten.length = ps.length * 3 := hC0.own.len
  obtain ⟨o2, c2, w2, hr2, hg2, hc2⟩ := Gr.app (c2 := c') (m := ps.length) el_S_coadjutorref22_Page (Gr.made0 (G := Non) (sz := 3) (Ch.refl _ w) e1) t_S_coadjutorref22_Page (hC hc1).own.rd hcl (fun u hu => by
    obtain ⟨y, hy, hu⟩ := List.mem_flatten.1 hu
    obtain ⟨g, _, rfl⟩ := List.mem_map.1 hy
    simp only [pgE, List.mem_cons, List.not_mem_nil, or_false] at hu
    rcases hu with rfl | rfl | rfl <;> rfl) (by omega) (by omega)
  rw [Nat.zero_add] at hr2 hg2
  rw [List.nil_append] at hg2
  have hN2 : NextR w w2 ps o2 c2 (R 2) := ⟨gs, hgl, hg2, hP hg2.2⟩
  refine ⟨_, _, _, (hC hc1).blk.cell 0 rfl, o2, _, c2, w2, hr2, fun i k w' => ∃ j : Nat, i = j ∧ j ≤ l.length ∧ k = l.length - j ∧ NextR w w' (useQ d ps (l.take j)) o2 c2 (R 2) ∧ Ch Non w w' ∧ UseGo ps d ps (l.take j), ⟨_, 0, rfl, Nat.zero_le _, rfl, hN2, hg2.2, trivial⟩, ?_⟩
  clear hN2 hr2 hg2 hc2 hc1 e1
  rintro jk i k w3 ⟨j, rfl, hj, rfl, hN, hc3, hgo⟩
  refine ⟨fun hlt => ?_, fun hge => ?_⟩
  · have hlt : j < l.length := by have := of_decide_eq_true hlt; omega
    have hrl : ∀ {w'}, Ch Non w w' → ∃ p, o = some p ∧ w'.cell? (p.add ((j : Int).toNat * 1)) = some (.int .i64 l[j]) := fun {w'} hc => by
      obtain ⟨p, hp, _, _, h⟩ := (hr.keepN hc).getT hlt
      exact ⟨p, hp, by rw [toNat_mul_one]; exact h⟩
    obtain ⟨p, hp, hcell⟩ := hrl hc3
    have hcl : ∀ {w'}, Ch Non w w' → w'.cell? (p.add ((j : Int).toNat * 1)) = some (.int .i64 l[j]) := fun {w'} hc => by
      obtain ⟨p', hp', h⟩ := hrl hc
      rw [hp] at hp'
      have hpp : p = p' := Option.some.inj hp'
      rw [hpp]; exact h
    clear hcell hrl
    subst hp
    have hsn := useQ_snoc d ps (l.take j) l[j]
    rw [← take_snoc l j hlt] at hsn
    have hug := UseGo.snoc (ps := ps) (d := d) (x := l[j]) (a := l.take j) (q := ps)
    rw [← take_snoc l j hlt] at hug
    have hul : UseGo ps d ps l → UseGo ps d ps (l.take (j + 1)) := fun h => by
      rw [← List.take_append_drop (j + 1) l] at h; exact h.left
    have hlj : (l.take j).length ≤ 1000000 := by rw [List.length_take]; omega
    have hbj := useQ_bnd (B := 0) hd (l.take j) hB.1 hb
    have hlen := useQ_len d (l.take j) ps
    refine ⟨⟨by omega, by omega⟩, ?_⟩
    refine ⟨_, hcl hc3, ?_⟩
    generalize l[j] = id at hsn hcl hug
    generalize useQ d ps (l.take j) = qs at hN hsn hug hbj hlen
    refine step_call (RefIs_spec (h.keepN hc3) id) ?_
    rintro v w4 ⟨rfl, rfl⟩
    refine ⟨_, rfl, fun hbb => ?_, fun hbb => ?_⟩
    · have hbb : isB ps id = false := by simpa using hbb
      refine ⟨false, ⟨fun h => by simp at h, fun h => ?_⟩, rfl, hkeep (h.keepN hc3), hc3.any⟩
      have := (hug.1 (hul h)).2.1
      rw [hbb] at this; cases this
    have hbb : isB ps id = true := by simpa using hbb
    obtain ⟨h0, h1⟩ := isB_lt hbb
    have h1q : id.toNat < qs.length := by omega
    have hub := bnd_at hbj (by omega) id
    have hpu := pgAt_lt h0 h1q
    obtain ⟨q, hq, a1, _, k1, _⟩ := hN.at h1q
    rw [← hpu] at a1
    subst hq
    refine ⟨⟨by omega, by omega⟩, ?_⟩
    refine ⟨_, hcl hc3, ⟨by omega, by omega⟩, ?_⟩
    refine ⟨_, a1, fun hn => ?_, fun hn => ?_⟩
    · have hn := of_decide_eq_true hn
      rw [wrap_id (by omega) (by omega)] at hn
      refine ⟨false, ⟨fun h => by simp at h, fun h => ?_⟩, rfl, hkeep (h.keepN hc3), hc3.any⟩
      have := (hug.1 (hul h)).2.2
      omega
    have hn := of_decide_eq_false hn
    rw [wrap_id (by omega) (by omega)] at hn
    refine ⟨fun w' => Ch Non w4 w', fun w5 e5 => ⟨Ch.drew e5, ⟨by omega, by omega⟩, ?_⟩⟩
    refine ⟨_, fun w' h => hcl (hc3.andN h), ⟨by omega, by omega⟩, ?_⟩
    refine ⟨_, fun w' h => hcl (hc3.andN h), ⟨by omega, by omega⟩, ?_⟩
    refine ⟨(pgAt qs id).users, fun w' h => ?_, ⟨by omega, by omega⟩, ?_⟩
    · obtain ⟨q', hq', b1, _⟩ := (hN.keepN h).at h1q
      rw [← hpu] at b1
      have hqq : q = q' := Option.some.inj hq'
      rw [hqq]; exact b1
    obtain ⟨q', hq', _, _, k5, _⟩ := (hN.keepN (Ch.drew e5)).at h1q
    have hqq : q = q' := Option.some.inj hq'
    subst hqq
    refine ⟨k5, fun w6 e6 => ?_⟩
    rw [wrap_id (by omega) (by omega)] at e6
    obtain ⟨hN6, hc6⟩ := (hN.keepN (Ch.drew e5)).users (hRw 2) h0 h1q rfl e6
    refine ⟨l.length - (j + 1), by omega, j + 1, by rw [wrap_id (by omega) (by omega)]; rfl, hlt, rfl, by rw [hsn]; exact hN6, (hc3.andN (Ch.drew e5)).trans hc6 (fun i hi hN => absurd hi (Nat.not_lt.2 hN.1)), hug.2 ⟨hgo, hbb, by omega⟩⟩
  · have : j = l.length := by have := of_decide_eq_false hge; omega
    subst this
    rw [List.take_length] at hN hgo
    have hlen := useQ_len d l ps
    unfold useP
    generalize useQ d ps l = qs at hN hlen ⊢
    refine ⟨fun i k w' => ∃ j : Nat, i = j ∧ j ≤ qs.length ∧ k = qs.length - j ∧ NextR w w' ((qs.take j).map zeroP ++ qs.drop j) o2 c2 (R 2) ∧ Ch Non w w', ⟨_, 0, rfl, Nat.zero_le _, rfl, hN, hc3⟩, ?_⟩
    clear hN hc3
    rintro jk i k w4 ⟨j, rfl, hj, rfl, hN, hc4⟩
    have htl : ((qs.take j).map zeroP ++ qs.drop j).length = qs.length := by simp; omega
    refine ⟨fun hlt => ?_, fun hge => ?_⟩
    · have hlt : j < qs.length := by have := of_decide_eq_true hlt; omega
      have hjt : j < ((qs.take j).map zeroP ++ qs.drop j).length := by omega
      have hat : ((qs.take j).map zeroP ++ qs.drop j)[j] = qs[j] := by
        rw [List.getElem_append_right (by simp; omega)]
        simp [Nat.min_eq_left (Nat.le_of_lt hlt)]
      have hst : ((qs.take j).map zeroP ++ qs.drop j).set j (zeroP qs[j]) = (qs.take (j + 1)).map zeroP ++ qs.drop (j + 1) := by
        have e0 : ((qs.take j).map zeroP).length = j := by simp; omega
        rw [List.set_append_right _ _ (by omega), List.drop_eq_getElem_cons hlt, take_snoc qs j hlt, e0, Nat.sub_self, List.set_cons_zero, List.map_append, List.append_assoc]
        rfl
      generalize (qs.take j).map zeroP ++ qs.drop j = rs at hN htl hjt hat hst
      obtain ⟨q, hq, a1, k0, k1, k2⟩ := hN.at hjt
      rw [hat] at a1
      subst hq
      refine ⟨⟨by omega, by omega⟩, ?_⟩
      refine ⟨_, a1, fun hz => ?_, fun hz => ?_⟩
      · have hz : qs[j].users = 0 := by simpa using hz
        refine ⟨⟨by omega, by omega⟩, ?_⟩
        refine ⟨⟨k0, k1, k2⟩, fun w5 e5 => ?_⟩
        obtain ⟨hN5, hc5⟩ := hN.zero (hRw 2) hjt rfl e5
        have hzp : zeroP qs[j] = pg0 := by unfold zeroP; rw [if_pos hz]
        rw [hzp] at hst
        rw [hst] at hN5
        exact ⟨qs.length - (j + 1), by omega, j + 1, by rw [wrap_id (by omega) (by omega)]; rfl, hlt, rfl, hN5, hc4.trans hc5 (fun i hi hN => absurd hi (Nat.not_lt.2 hN.1))⟩
      · have hz : ¬ qs[j].users = 0 := by simpa using hz
        have hzp : zeroP qs[j] = rs[j] := by unfold zeroP; rw [if_neg hz, hat]
        rw [hzp, List.set_getElem_self] at hst
        rw [hst] at hN
        exact ⟨qs.length - (j + 1), by omega, j + 1, by rw [wrap_id (by omega) (by omega)]; rfl, hlt, rfl, hN, hc4⟩
    · have : j = qs.length := by have := of_decide_eq_false hge; omega
      subst this
      rw [List.take_length, List.drop_length, List.append_nil] at hN
      refine ⟨(hC hc4).blk.ok 0 rfl, fun w5 e5 => ?_⟩
      have hB5 := (hC hc4).blk.set e5
      have hc5 : Ch (· = pb) w4 w5 := Ch.set e5 rfl
      have hpl : pb < w.heap.size := h.lt.1
      have hs4 := hc4.size
      have hs5 := hc5.size
      refine ⟨true, ⟨fun _ => hgo, fun _ => rfl⟩, rfl, ?_, (hc4.any (F := F)).trans hc5 (fun i _ hi => by have hi : i = pb := hi; subst hi; exact h.lt.2)⟩
      rw [if_pos rfl]
      obtain ⟨gs', hl', hg', hP'⟩ := hN
      have hml : (qs.map zeroP).length = qs.length := by simp
      refine ⟨o2, c2, gs', fun k i => if k = 1 then New w w4 i else R k i, ⟨⟨fun k i hi => ?_, fun j k hjk i h1 h2 => ?_⟩, ?_, ?_, ?_, ?_⟩, fun k i hi => ?_, fun i h1 h2 => ?_⟩
      · replace hi : (if k = 1 then New w w4 i else R k i) := hi
        split at hi
        · exact Nat.lt_of_lt_of_le hi.2 hs5
        · have := hRw k i hi; omega
      · replace h1 : (if j = 1 then New w w4 i else R j i) := h1
        replace h2 : (if k = 1 then New w w4 i else R k i) := h2
        split at h1
        · rw [if_neg (by omega)] at h2
          exact absurd (hRw k i h2) (Nat.not_lt.2 h1.1)
        · split at h2
          · exact absurd (hRw j i h1) (Nat.not_lt.2 h2.1)
          · exact hC0.fam.2 j k hjk i h1 h2
      · rw [if_neg (by omega)]; exact hC0.z
      · exact hml ▸ hlen ▸ hB5
      · exact (hg'.1.keep hc5 (fun i _ hN he => by have hi : i = pb := he; have := hN.1; omega)).mono (fun i _ hi => by rw [if_pos rfl]; exact hi)
      · exact hl'
      · replace hi : (if k = 1 then New w w4 i else R k i) := hi
        split at hi
        · exact .inr ⟨hi.1, Nat.lt_of_lt_of_le hi.2 hs5⟩
        · exact .inl (hF k i hi)
      · refine (hP' i h1 h2).keep hc5 (fun m _ hm he => ?_)
        have he : m = pb := he
        subst he
        exact hC0.fam.2 0 2 (by omega) m hC0.z hm
end
end Go.Proofs.Ytpcddfhfchempaa.Pages
