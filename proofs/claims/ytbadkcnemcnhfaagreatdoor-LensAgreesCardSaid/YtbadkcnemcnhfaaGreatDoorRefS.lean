/- For every model and rows: what the document's gains, times, plus, look and Good answer; the conditions stand in each theorem. -/
import Derived.Test.YtbadkcnemcnhfaaGreatDoorRefM
import Derived.Test.YtbadkcnemcnhfaaGreatDoorStp3
import Derived.Test.YtbadkcnemcnhfaaGreatDoorVcRefS
set_option linter.unusedVariables false
set_option linter.unusedSimpArgs false
namespace Go.Proofs.YtbadkcnemcnhfaaGreatDoor.RefS
open Go Go.Proofs Go.Proofs.YtbadkcnemcnhfaaGreatDoor.V Go.Proofs.YtbadkcnemcnhfaaGreatDoor.Vc Go.Proofs.YtbadkcnemcnhfaaGreatDoor.Conf Go.Proofs.YtbadkcnemcnhfaaGreatDoor.Brain Go.Proofs.YtbadkcnemcnhfaaGreatDoor.Num Go.Proofs.YtbadkcnemcnhfaaGreatDoor.Stp Go.Proofs.YtbadkcnemcnhfaaGreatDoor.RefM Go.RowKit

section
variable {w w' : World} {c : CfD} {wt : ByteArray} {p b : Nat} {u v : Value} {vs xs ys : List Int} {xss : List (List Int)} {F G : Nat → Prop}
theorem RV.get {o : Option Addr} {n cp : Nat} (h : RV w (.slice o n cp) xss F) {j : Nat} (hj : j < xss.length) : ∃ (a : Addr) (o' : Option Addr) (c' : Nat), o = some a ∧ n = xss.length ∧ IV w (.slice o' xss[j].length c') xss[j] F ∧ ∀ (G : Nat → Prop) (w' : World), Ch G w w' → (∀ i, i < w.heap.size → F i → ¬ G i) → w'.cell? (a.add (j * 1)) = some (.slice o' xss[j].length c') := by
  obtain ⟨o2, c2, us, he, h1, h2, hr, ha⟩ := h
  injection he with e1 e2 e3
  subst e1; subst e3
  have hbu : j < us.length := by rw [ha.length]; exact hj
  obtain ⟨ad, had, _, _, _⟩ := hr j us[j] (List.getElem?_eq_getElem hbu)
  have hiv := ha.get j hbu hj
  have hiv' := hiv
  obtain ⟨o', c', hu, _⟩ := hiv
  refine ⟨ad, o', c', had, e2, hu ▸ hiv', fun G w' hc hd => ?_⟩
  obtain ⟨ad2, had2, _, _, hcc⟩ := (hr.keep hc hd) j us[j] (List.getElem?_eq_getElem hbu)
  rw [had] at had2; injection had2 with had2; subst had2
  rw [Nat.mul_one, ← hu]; exact hcc
theorem rrows_spec (h : RV w v xss F) (n d : Nat) (hn : n ≤ 1000) (hd : d ≤ 1000) : Calls Tryz.prog i_coadjutorref17_rows #[v, .int .i64 n, .int .i64 d] w (Ret fun u w' => ∃ bv : Bool, u = .bool bv ∧ (bv = true ↔ rowsOk n d xss) ∧ w' = w) := by
  have h' := h
  obtain ⟨o, cp, us, rfl, h1, h2, hr, ha⟩ := h
  refine coadjutorref17_rows.calls _ _ _ _ _ ?_
  unfold coadjutorref17_rows.vc
  refine ⟨fun hne => ⟨_, rfl, ⟨fun k => (by cases k), fun k => ?_⟩, rfl⟩, fun heq => ?_⟩
  · have := k.1; subst this; simp at hne
  have heq : xss.length = n := by
    have : (xss.length : Int) = n := by simpa using heq
    omega
  refine ⟨fun i k w' => w' = w ∧ ∃ j : Nat, i = j ∧ j ≤ n ∧ k = n - j ∧ ∀ r ∈ xss.take j, r.length = d ∧ satL r, ⟨_, rfl, 0, rfl, Nat.zero_le _, rfl, fun r hr => by simp at hr⟩, ?_⟩
  rintro jk i k w1 ⟨rfl, j, rfl, hj, rfl, hgood⟩
  refine ⟨dT fun hlt => ?_, dF fun hge => ?_⟩
  · have hlt : j < xss.length := by omega
    obtain ⟨a, o', c', rfl, _, hiv, hcell⟩ := RV.get h' hlt
    have hc0 := hcell Non w1 (Ch.refl _ _) (fun _ _ _ => id)
    have hmem := List.getElem_mem hlt
    have hsn := take_snoc xss j hlt
    generalize xss[j] = r at hiv hc0 hmem hsn
    obtain ⟨o2, c2, he, hr1, hr2, hrr⟩ := hiv
    injection he with e1 _ e3
    subst e1; subst e3
    refine ⟨⟨by omega, by omega⟩, _, _, _, hc0, fun hne => ⟨_, rfl, ⟨fun k => (by cases k), fun k => ?_⟩, rfl⟩, fun heq2 => ?_⟩
    · have := (k.2 r hmem).1; subst this; simp at hne
    have hrl : r.length = d := by
      have : (r.length : Int) = d := by simpa using heq2
      omega
    refine ⟨fun i k w' => w' = w1 ∧ ∃ t : Nat, i = t ∧ t ≤ d ∧ k = d - t ∧ ∀ x ∈ r.take t, -32767 ≤ x ∧ x ≤ 32767, ⟨_, rfl, 0, rfl, Nat.zero_le _, rfl, fun x hx => by simp at hx⟩, ?_⟩
    rintro jk i k w2 ⟨rfl, t, rfl, ht, rfl, hsat⟩
    refine ⟨dT fun hlt2 => ?_, dF fun hge2 => ?_⟩
    · have hlt2 : t < r.length := by omega
      have bad : ¬ (-32767 ≤ r[t] ∧ r[t] ≤ 32767) → ∃ bv : Bool, Value.bool false = .bool bv ∧ (bv = true ↔ rowsOk n d xss) ∧ w2 = w2 := fun hn => ⟨_, rfl, ⟨fun k => (by cases k), fun k => absurd ((k.2 r hmem).2 _ (List.getElem_mem hlt2)) hn⟩, rfl⟩
      refine ⟨⟨by omega, by omega⟩, _, _, _, hc0, ⟨by omega, by omega⟩, hrr.at (j := (t : Int).toNat * 1) (v := .int .i64 r[t]) (by simp [hlt2]) fun p2 hp2 => ⟨_, hp2, dT fun hg => bad (by omega), dF fun hg => ?_⟩⟩
      refine ⟨⟨by omega, by omega⟩, _, _, _, hc0, ⟨by omega, by omega⟩, hrr.at (j := (t : Int).toNat * 1) (v := .int .i64 r[t]) (by simp [hlt2]) fun p2 hp2 => ⟨_, hp2, dT fun hg => bad (by omega), dF fun hg2 => ?_⟩⟩
      exact ⟨d - (t + 1), by omega, rfl, t + 1, by rw [wrap_id (by omega) (by omega)]; rfl, by omega, rfl, fun x hx => by
        rw [take_snoc r t hlt2] at hx
        rcases List.mem_append.1 hx with hx | hx
        · exact hsat x hx
        · rw [List.mem_singleton] at hx; subst hx; exact ⟨by omega, by omega⟩⟩
    · have htl : t = r.length := by omega
      subst htl
      rw [List.take_length] at hsat
      exact ⟨n - (j + 1), by omega, rfl, j + 1, by rw [wrap_id (by omega) (by omega)]; rfl, by omega, rfl, fun y hy => by
        rw [hsn] at hy
        rcases List.mem_append.1 hy with hy | hy
        · exact hgood y hy
        · rw [List.mem_singleton] at hy; subst hy; exact ⟨hrl, hsat⟩⟩
  · have : j = xss.length := by omega
    subst this
    rw [List.take_length] at hgood
    exact ⟨_, rfl, ⟨fun _ => ⟨heq, hgood⟩, fun _ => rfl⟩, rfl⟩
theorem rGoodE_spec {pr : Value × Value} {e : Ent} (m : Md c wt) (h : EV w pr e F) : Calls Tryz.prog i_coadjutorref17_Good #[mdE c wt, .agg #[pr.1, pr.2]] w (Ret fun u w' => ∃ bv : Bool, u = .bool bv ∧ (bv = true ↔ goodE c e) ∧ Ch Non w w') := by
  obtain ⟨hK, hV⟩ := h
  obtain ⟨v1, v2⟩ := pr
  have hK' := hK
  have hV' := hV
  obtain ⟨o1, c1, us1, rfl, _⟩ := hK
  obtain ⟨o2, c2, us2, rfl, _⟩ := hV
  have hbl := m.ok.2.2.2.1
  have hdm := m.ok.2.1
  have e1 : (c.blocks : Int) = (c.blocks.toNat : Int) := by omega
  have e2 : (c.dim : Int) = (c.dim.toNat : Int) := by omega
  refine coadjutorref17_Good.calls _ _ _ _ _ _ _ _ _ _ _ _ _ ?_
  unfold coadjutorref17_Good.vc
  intro w1 e1w w2 e2w
  have hM := Blk.new e1w
  have hE := Blk.new e2w
  have hc1 : Ch Non w w1 := Ch.alloc e1w
  have hc2 : Ch Non w1 w2 := Ch.alloc e2w
  have hM2 := hM.keepN hc2
  refine ⟨_, _, _, hE.cell 0 rfl, _, hM2.cell 3 rfl, _, hM2.cell 1 rfl, ?_⟩
  rw [e1, e2]
  refine step_call (rrows_spec (hK'.keepN (hc1.andN hc2)) _ _ (by omega) (by omega)) ?_
  rintro v w3 ⟨bv, rfl, hb, rfl⟩
  refine ⟨_, rfl, fun hy => ?_, fun hy => ⟨_, rfl, ⟨fun k => (by cases k), fun k => by rw [hb.2 k.1] at hy; cases hy⟩, hc1.andN hc2⟩⟩
  refine ⟨_, _, _, hE.cell 1 rfl, _, hM2.cell 3 rfl, _, hM2.cell 1 rfl, ?_⟩
  rw [e1, e2]
  refine step_call (rrows_spec (hV'.keepN (hc1.andN hc2)) _ _ (by omega) (by omega)) ?_
  rintro v w4 ⟨bv2, rfl, hb2, rfl⟩
  exact ⟨_, rfl, _, rfl, ⟨fun k => ⟨hb.1 hy, hb2.1 k⟩, fun k => hb2.2 k.2⟩, hc1.andN hc2⟩
theorem rgains_spec (m : Md c wt) (hpb : okPB c p b) : Calls Tryz.prog i_coadjutorref17_gains #[mdE c wt, .int .i64 p, .int .i64 b] w (Ret fun u w' => IV w' u (rowP c wt p b 0) (New w w') ∧ Ch Non w w') := by
  have hsd := side_ge m.ok hpb.1
  refine coadjutorref17_gains.calls _ _ _ _ _ _ _ _ _ ?_
  unfold coadjutorref17_gains.vc
  intro w1 e1
  have hM := Blk.new e1
  have hc1 : Ch Non w w1 := Ch.alloc e1
  have hs := hc1.size
  refine ⟨_, _, _, _, _, _, _, ⟨hM.cell 0 rfl, hM.cell 1 rfl, hM.cell 2 rfl, hM.cell 3 rfl, hM.cell 4 rfl, hM.cell 5 rfl, hM.cell 6 rfl⟩, step_call (rRow_spec w1 m.ok m.sz hpb (q := 0) (by omega)) ?_⟩
  rintro v w2 ⟨o, cp, rfl, hg⟩
  exact ⟨_, _, _, _, rfl, (Gr.iv hg).mono (fun i _ hi => ⟨by have := hi.1; omega, hi.2⟩), hc1.andN hg.2⟩
theorem times_rows (m : Md c wt) (hpb : okPB c p b) (hv : (vs.length : Int) = (side c p).2) : times c wt p b vs = (List.range (side c p).1.toNat).map fun i => sat (shift (dotC (rowP c wt p b (i : Nat)) vs) 6) := by
  have hg := tab_good m.ok m.sz hpb
  unfold times Vecs.timesT Vecs.timesOk
  rw [hg, decide_eq_true hv, Bool.true_and, if_pos rfl]
  unfold Vecs.timesL
  refine List.map_congr_left fun i hi => ?_
  rw [List.mem_range] at hi
  unfold rowP Vecs.rowT
  rw [hg, decide_eq_true (show 0 ≤ (i : Int) ∧ (i : Int) < (side c p).1 by omega)]
  rfl
theorem rDot_iv (hx : IV w u xs F) (hy : IV w v ys G) (hl : xs.length ≤ 1000000) : Calls Tryz.prog i_coadjutorref01_Dot #[u, v] w (Ret fun v w' => v = .int .i64 (dotC xs ys) ∧ Ch Non w w') := by
  obtain ⟨o, cx, rfl, _, _, hx⟩ := hx
  obtain ⟨o2, cy, rfl, _, _, hy⟩ := hy
  exact Vecs.rDot_spec hx hy hl
theorem rtimes_spec (m : Md c wt) (hpb : okPB c p b) (hv : IV w v vs F) (hvl : (vs.length : Int) = (side c p).2) : Calls Tryz.prog i_coadjutorref17_times #[mdE c wt, .int .i64 p, .int .i64 b, v, .int .i64 6] w (Ret fun u w' => IV w' u (times c wt p b vs) (New w w') ∧ Ch Non w w') := by
  have hv' := hv
  obtain ⟨ov, cv, rfl, _, _, _⟩ := hv
  have hsd := side_le m.ok.small p
  have hse := side_ge m.ok hpb.1
  refine coadjutorref17_times.calls _ _ _ _ _ _ _ _ _ _ _ _ _ ?_
  unfold coadjutorref17_times.vc
  intro w1 e1
  have hM := Blk.new e1
  have hc1 : Ch Non w w1 := Ch.alloc e1
  refine ⟨_, _, _, _, _, _, ⟨hM.cell 0 rfl, hM.cell 1 rfl, hM.cell 2 rfl, hM.cell 3 rfl, hM.cell 4 rfl, hM.cell 5 rfl⟩, step_call (rSide_spec w1 m.ok p) ?_⟩
  rintro v w2 ⟨rfl, hc2⟩
  have hM := hM.keepN hc2
  have hc02 := hc1.andN hc2
  refine ⟨_, _, rfl, fun w3 e3 => ?_⟩
  have g0 : Gr Non w2 w3 t_int 1 (some ⟨w2.heap.size, 0, none⟩) 0 0 [] := Gr.made0 (Ch.refl _ _) e3
  obtain ⟨L, hL⟩ : ∃ L : List Int, times c wt p b vs = L := ⟨_, rfl⟩
  have hLe := times_rows m hpb hvl
  rw [hL] at hLe ⊢
  have hLl : L.length = (side c p).1.toNat := by rw [hLe, List.length_map, List.length_range]
  have hLa : ∀ (t : Nat) (ht : t < L.length), L[t] = sat (shift (dotC (rowP c wt p b (t : Nat)) vs) 6) := fun t ht => by subst hLe; simp
  refine ⟨fun o n cp i k w' => ∃ j : Nat, i = j ∧ n = j ∧ j ≤ L.length ∧ k = L.length - j ∧ Gr Non w2 w' t_int 1 o j cp ((L.take j).map (.int .i64)), ⟨_, 0, rfl, rfl, Nat.zero_le _, rfl, g0⟩, ?_⟩
  rintro jk o n cp i k w4 ⟨j, rfl, rfl, hj, rfl, hg⟩
  have hM := hM.keepN hg.2
  refine ⟨dT fun hlt => ?_, dF fun hge => ?_⟩
  · have hlt : n < L.length := by omega
    refine ⟨_, _, _, _, _, _, _, ⟨hM.cell 0 rfl, hM.cell 1 rfl, hM.cell 2 rfl, hM.cell 3 rfl, hM.cell 4 rfl, hM.cell 5 rfl, hM.cell 6 rfl⟩, step_call (rRow_spec w4 m.ok m.sz hpb (q := n) (by omega)) ?_⟩
    rintro v w5 ⟨o5, c5, rfl, hg5⟩
    have hrl := row_len m.ok m.sz hpb (q := n) (by omega)
    refine ⟨_, _, _, _, rfl, step_call (rDot_iv (Gr.iv hg5) (hv'.keepN ((hc02.andN hg.2).andN hg5.2)) (by omega)) ?_⟩
    rintro v w6 ⟨rfl, hc6⟩
    refine ⟨_, rfl, step_call (rShift_spec w6 (Vecs.dot_in _ _) 6) ?_⟩
    rintro v w7 ⟨rfl, hc7⟩
    refine ⟨_, rfl, step_call (Num.rSat_spec w7 _) ?_⟩
    rintro v w8 ⟨rfl, rfl⟩
    refine ⟨_, rfl, fun w9 e9 => ?_⟩
    obtain ⟨A', C', w10, hr, hg10, _⟩ := (hg.keepN ((hg5.2.andN hc6).andN hc7)).next el_S_int t_S_int hlt (by omega) e9 (by rw [hLa n hlt]) rfl (by omega)
    exact ⟨A', _, C', w10, hr, L.length - (n + 1), by omega, n + 1, by rw [wrap_id (by omega) (by omega)]; rfl, rfl, hlt, rfl, hg10⟩
  · have : n = L.length := by omega
    subst this
    rw [List.take_length] at hg
    have hs := hc02.size
    exact ⟨(Gr.iv hg).mono (fun i _ hi => ⟨by have := hi.1; omega, hi.2⟩), hc02.andN hg.2⟩
theorem rplus_spec (hx : IV w u xs F) (hv : IV w v ys G) (hl : xs.length ≤ 1000000) (hl2 : ys.length ≤ 1000000) : Calls Tryz.prog i_coadjutorref17_plus #[u, v] w (Ret fun u w' => IV w' u (plusP xs ys) (New w w') ∧ Ch Non w w') := by
  obtain ⟨ox, cx, rfl, hxc, hxm, hxr⟩ := hx
  obtain ⟨oy, cy, rfl, hyc, hym, hyr⟩ := hv
  refine coadjutorref17_plus.calls _ _ _ _ _ _ ?_
  unfold coadjutorref17_plus.vc
  intro w1 e1
  have hc1 : Ch Non w w1 := Ch.alloc e1
  have hb1 : Blk w1 w.heap.size ([((ox, cx, xs) : Vecs.RowD), (oy, cy, ys)].map Vecs.encR) t_S_int := Blk.new e1
  have hp := Vecs.rPlus_spec (G := fun i => F i ∨ G i) hb1.rd (fun z hz => by
    rcases List.mem_cons.1 hz with rfl | hz
    · exact ⟨(hxr.keepN hc1).mono (fun i _ h => .inl h), hl⟩
    · rw [List.mem_singleton] at hz; subst hz; exact ⟨(hyr.keepN hc1).mono (fun i _ h => .inr h), hl2⟩) (by show 2 ≤ 1000000; decide) 2
  refine step_call hp ?_
  rintro v w2 ⟨A, C, rfl, hg⟩
  have hs := hc1.size
  exact ⟨_, _, _, _, rfl, (Gr.iv hg).mono (fun i _ hi => ⟨by have := hi.1; omega, hi.2⟩), hc1.andN hg.2⟩
/-- What attention mixes, of keys and values that are rows. -/
def scoreR (a n : Nat) (q k : List Int) : Int := shift (dotC (cut q a n) (cut k a n)) 9
def headR (kss vss : List (List Int)) (a n : Nat) (q : List Int) : List Int := mixP (Soft.weightsL (kss.map (scoreR a n q))) (vss.map (fun v => cut v a n))
def lookR (c : CfD) (kss vss : List (List Int)) (q : List Int) : Nat → List Int
  | 0 => []
  | h + 1 => lookR c kss vss q h ++ headR kss vss (h * hdim c) (hdim c) q
theorem look_seen (es : List Ent) (b : Nat) (q : List Int) : ∀ h, lookR c (es.map fun e => e.1.getD b []) (es.map fun e => e.2.getD b []) q h = seenTo c es b q h
  | 0 => rfl
  | h + 1 => by
    rw [lookR, seenTo, look_seen es b q h]
    unfold headR headP
    rw [List.map_map, List.map_map]
    rfl
theorem headR_len {kss vss : List (List Int)} {a n d : Nat} {q : List Int} (h0 : kss ≠ []) (hl : vss.length = kss.length) (hv : ∀ r ∈ vss, r.length = d) (ha : a + n ≤ d) : (headR kss vss a n q).length = n := by
  unfold headR
  refine (mix_len (by simpa using h0) (by rw [List.length_map, List.length_map, hl]) (fun r hr => ?_)).1
  obtain ⟨x, hx, rfl⟩ := List.mem_map.1 hr
  exact cut_len (by rw [hv x hx]; exact ha)
theorem lookR_len {kss vss : List (List Int)} {q : List Int} (ok : okC c) (h0 : kss ≠ []) (hl : vss.length = kss.length) (hv : ∀ r ∈ vss, r.length = c.dim.toNat) : ∀ j, j ≤ c.heads.toNat → (lookR c kss vss q j).length = j * hdim c
  | 0, _ => by rw [Nat.zero_mul]; rfl
  | j + 1, hj => by
    have hmul : (j + 1) * hdim c ≤ c.heads.toNat * hdim c := Nat.mul_le_mul_right _ hj
    rw [heads_dim ok, Nat.add_mul, Nat.one_mul] at hmul
    rw [lookR, List.length_append, lookR_len ok h0 hl hv j (by omega), headR_len h0 hl hv hmul, Nat.add_mul, Nat.one_mul]
structure HrR (w0 w : World) (kss vss : List (List Int)) (a n : Nat) (q : List Int) (j : Nat) (so : Option Addr) (sc : Nat) (vo : Option Addr) (vc : Nat) : Prop where
  ch : Ch Non w0 w
  ex : ∃ (A B : Nat → Prop) (zs : List (Option Addr × Nat × List Int)), V.Own w t_int 1 so j sc (((kss.take j).map (scoreR a n q)).map (.int .i64)) A ∧ V.Own w t_S_int 1 vo j vc (zs.map V.encR) B ∧
    zs.map (·.2.2) = (vss.take j).map (fun v => cut v a n) ∧ (∀ z ∈ zs, Rd w z.1 (z.2.2.map (.int .i64)) (fun i => i < w0.heap.size)) ∧ (∀ i, A i → New w0 w i ∧ ¬ B i) ∧ (∀ i, B i → New w0 w i)
set_option maxHeartbeats 2000000 in
theorem rlook_spec {kss vss : List (List Int)} {q : List Int} {qv kv vv : Value} {F1 F2 F3 : Nat → Prop} (m : Md c wt) (hq : IV w qv q F1) (hk : RV w kv kss F2) (hv : RV w vv vss F3) (hql : q.length = c.dim.toNat) (h0 : kss ≠ []) (hl : vss.length = kss.length) (hn : kss.length ≤ 100) (hkl : ∀ r ∈ kss, r.length = c.dim.toNat) (hvl : ∀ r ∈ vss, r.length = c.dim.toNat) :
    Calls Tryz.prog i_coadjutorref17_look #[mdE c wt, qv, kv, vv] w (Ret fun u w' => IV w' u (lookR c kss vss q c.heads.toNat) (New w w') ∧ Ch Non w w') := by
  have hq0 := hq
  have hk0 := hk
  have hv0 := hv
  obtain ⟨qo, qc, rfl, hqc, hqm, hqr⟩ := hq
  obtain ⟨ko, kc, ku, rfl, _⟩ := hk
  obtain ⟨vo0, vc0, vu, rfl, _⟩ := hv
  have hd16 := hdim_mul m.ok
  have hdm := m.ok.2.1
  have hh := m.ok.2.2.1
  have hhd := heads_dim m.ok
  refine coadjutorref17_look.calls _ _ _ _ _ _ _ _ _ _ _ _ _ _ _ _ ?_
  unfold coadjutorref17_look.vc
  intro w1 e1 w2 e2
  have hM := Blk.new e1
  have hc1 : Ch Non w w1 := Ch.alloc e1
  have hc12 : Ch Non w1 w2 := Ch.alloc e2
  have hM2 := hM.keepN hc12
  have g0 : Gr Non w1 w2 t_int 1 (some ⟨w1.heap.size, 0, none⟩) 0 0 [] := Gr.made0 (Ch.refl _ _) e2
  have htd : IntKind.i64.wrap (Int.tdiv c.dim c.heads) = ((hdim c : Nat) : Int) := by
    have : Int.tdiv c.dim c.heads = ((hdim c : Nat) : Int) := by
      rw [← hd16.1]; exact Int.mul_tdiv_cancel _ (by omega)
    rw [this, wrap_id (by omega) (by omega)]
  refine ⟨_, hM2.cell 1 rfl, _, hM2.cell 2 rfl, by omega, ?_⟩
  rw [htd]
  clear hM2
  refine ⟨fun A n C i k w' => ∃ jj : Nat, i = jj ∧ n = (lookR c kss vss q jj).length ∧ jj ≤ c.heads.toNat ∧ k = c.heads.toNat - jj ∧ Gr Non w1 w' t_int 1 A n C ((lookR c kss vss q jj).map (.int .i64)), ⟨_, 0, rfl, rfl, Nat.zero_le _, rfl, g0⟩, ?_⟩
  rintro jk oA oN oC i k w3 ⟨jj, rfl, rfl, hj, rfl, hg⟩
  have hM3 := hM.keepN hg.2
  refine ⟨_, hM3.cell 2 rfl, dT fun hlt => ?_, dF fun hge => ?_⟩
  · have hlt : jj < c.heads.toNat := by omega
    have hmul : (jj + 1) * hdim c ≤ c.heads.toNat * hdim c := Nat.mul_le_mul_right _ hlt
    rw [hhd, Nat.add_mul, Nat.one_mul] at hmul
    have hkne : 0 < kss.length := List.length_pos_iff.2 h0
    obtain ⟨a, ha⟩ : ∃ a : Nat, a = jj * hdim c := ⟨_, rfl⟩
    rw [← ha] at hmul
    have ewr : IntKind.i64.wrap ((jj : Int) * ((hdim c : Nat) : Int)) = (a : Int) := by rw [← Int.natCast_mul, ← ha, wrap_id (by omega) (by omega)]
    have ewr2 : IntKind.i64.wrap ((a : Int) + ((hdim c : Nat) : Int)) = ((a + hdim c : Nat) : Int) := by rw [wrap_id (by omega) (by omega)]; omega
    rw [ewr, ewr2]
    intro w4 e4 w5 e5
    have hc34 : Ch Non w3 w4 := Ch.alloc e4
    have hc45 : Ch Non w4 w5 := Ch.alloc e5
    have hs34 : w4.heap.size = w3.heap.size + 1 := by subst e4; simp
    have hs45 : w5.heap.size = w4.heap.size + 1 := by subst e5; simp
    have hc03 : Ch Non w w3 := hc1.andN hg.2
    have hq3 := (hq0.keepN hc03).mono (G := fun i => i < w3.heap.size) (fun i hi _ => hi)
    have hk3 := (hk0.keepN hc03).mono (G := fun i => i < w3.heap.size) (fun i hi _ => hi)
    have hv3 := (hv0.keepN hc03).mono (G := fun i => i < w3.heap.size) (fun i hi _ => hi)
    have hS0 : V.Own w4 t_int 1 (some ⟨w3.heap.size, 0, none⟩) 0 0 [] (· = w3.heap.size) := V.Own.made e4 rfl (Nat.zero_le _) rfl
    have hV0 : V.Own w5 t_S_int 1 (some ⟨w4.heap.size, 0, none⟩) 0 0 [] (· = w4.heap.size) := V.Own.made e5 rfl (Nat.zero_le _) rfl
    refine ⟨fun so sn sc vo vn vc i k w' => ∃ j : Nat, i = j ∧ sn = j ∧ vn = j ∧ j ≤ kss.length ∧ k = kss.length - j ∧ HrR w3 w' kss vss a (hdim c) q j so sc vo vc, ⟨_, 0, rfl, rfl, rfl, Nat.zero_le _, rfl, hc34.andN hc45, (· = w3.heap.size), (· = w4.heap.size), [], hS0.keepN hc45, hV0, rfl, fun z hz => (by cases hz), fun i h => ⟨⟨by omega, by omega⟩, by omega⟩, fun i h => ⟨by omega, by omega⟩⟩, ?_⟩
    clear hS0 hV0
    rintro jk so sn sc vo vn vc i k w6 ⟨j, rfl, rfl, rfl, hj6, rfl, hc6, A, B, zs, hS, hV, hzm, hzr, hA, hB'⟩
    have hs6 := hc6.size
    have keepA : ∀ i, i < w6.heap.size → i < w3.heap.size → ¬ A i := fun i _ hi h => by have := (hA i h).1.1; omega
    have hq6 := hq3.keepN hc6
    have hk6 := hk3.keepN hc6
    have hv6 := hv3.keepN hc6
    refine ⟨dT fun hlt2 => ?_, dF fun hge2 => ?_⟩
    · have hlt2 : vn < kss.length := by omega
      have hltv : vn < vss.length := by omega
      obtain ⟨ka, ko', kc', rfl, _, hkiv, hkc⟩ := RV.get hk6 hlt2
      obtain ⟨va, vo', vc', rfl, _, hviv, hvc⟩ := RV.get hv6 hltv
      have hkm := hkl _ (List.getElem_mem hlt2)
      have hvm := hvl _ (List.getElem_mem hltv)
      have hsc : (kss.take (vn + 1)).map (scoreR a (hdim c) q) = (kss.take vn).map (scoreR a (hdim c) q) ++ [scoreR a (hdim c) q kss[vn]] := by rw [take_snoc kss vn hlt2, List.map_append]; rfl
      have hvl' : (vss.take (vn + 1)).map (fun v => cut v a (hdim c)) = (vss.take vn).map (fun v => cut v a (hdim c)) ++ [cut vss[vn] a (hdim c)] := by rw [take_snoc vss vn hltv, List.map_append]; rfl
      generalize kss[vn] = kr at hkiv hkc hkm hsc
      generalize vss[vn] = vr at hviv hvc hvm hvl'
      have hkcap : kr.length ≤ kc' := by
        obtain ⟨_, _, he, h1, _⟩ := hkiv
        injection he with _ _ e
        omega
      have hvcap : vr.length ≤ vc' := by
        obtain ⟨_, _, he, h1, _⟩ := hviv
        injection he with _ _ e
        omega
      refine ⟨fun w' => Ch A w6 w', fun w7 e7 => ⟨Ch.drew e7, ?_⟩⟩
      have hd7 : Ch Non w6 w7 := Ch.drew e7
      rw [Int.toNat_natCast (a + hdim c), Int.toNat_natCast a]
      refine ⟨⟨by omega, by omega, by omega⟩, ⟨by omega, by omega⟩, _, _, _, fun w' k => hkc A w' k keepA, ⟨by omega, by omega, by omega⟩, ?_⟩
      have hqcut := (hq6.keepN hd7).cut rfl (a := a) (b := a + hdim c) (by omega) (by omega)
      have hkcut := (hkiv.keepN hd7).cut rfl (a := a) (b := a + hdim c) (by omega) (by omega)
      rw [Nat.add_sub_cancel_left] at hqcut hkcut ⊢
      refine step_call (rDot_iv hqcut hkcut (by rw [List.length_take]; omega)) ?_
      rintro v w9 ⟨rfl, hc9⟩
      have hc69 := hd7.andN hc9
      refine ⟨_, rfl, hc69.any, step_call (rShift_spec w9 (Vecs.dot_in _ _) 9) ?_⟩
      rintro v w10 ⟨rfl, hc10⟩
      have hc610 := hc69.andN hc10
      have hscore : shift (dotC ((q.drop a).take (hdim c)) ((kr.drop a).take (hdim c))) 9 = scoreR a (hdim c) q kr := rfl
      rw [hscore]
      refine ⟨_, rfl, hc610.any, fun w11 e11 => ⟨(hc610.andN (Ch.alloc e11)).any, ?_⟩⟩
      obtain ⟨o12, c12, w12, r12, hS12, hch12⟩ := V.Own.pushT (enc := fun x : Int => Value.int .i64 x) (xs := (kss.take vn).map (scoreR a (hdim c) q)) el_S_int (hS.keepN hc610) t_S_int (scoreR a (hdim c) q kr) e11 rfl (by unfold maxLen; omega) (by omega)
      rw [← hsc] at hS12
      have hs610 := hc610.size
      have hs12 := hch12.size
      have hc612 : Ch A w6 w12 := hc610.any.same hch12
      have hviv12 := hviv.keep hc612 keepA
      have hcutv := hviv12.cut rfl (a := a) (b := a + hdim c) (by omega) (by omega)
      rw [Nat.add_sub_cancel_left] at hcutv
      have hcl : ((vr.drop a).take (hdim c)).length = hdim c := by rw [List.length_take, List.length_drop]; omega
      have hV12 : V.Own w12 t_S_int 1 vo vn vc (zs.map V.encR) B := (hV.keepN hc610).keep hch12 (fun i _ hb h => (hA i h).2 hb)
      refine ⟨o12, _, c12, w12, r12, hc612, ⟨by omega, by omega⟩, _, _, _, hvc A w12 hc612 keepA, ⟨by omega, by omega, by omega⟩, fun w13 e13 => ?_⟩
      obtain ⟨o14, c14, w14, r14, hV14, hc14⟩ := V.Own.push el_S_S_int hV12 t_S_S_int e13 rfl rfl (by unfold maxLen; omega) (by omega)
      have hs14 := hc14.size
      have hBn : ∀ i, B i → i < w6.heap.size := fun i h => (hB' i h).2
      have hA14 : ∀ i, Ext A w10 w12 i → ¬ B i := fun i h hb => by
        rcases h with h | h
        · exact (hA i h).2 hb
        · have := h.1; have := hBn i hb; omega
      refine ⟨o14, _, c14, w14, r14, kss.length - (vn + 1), by omega, vn + 1, by rw [wrap_id (by omega) (by omega)]; rfl, rfl, rfl, hlt2, rfl, ?_, Ext A w10 w12, Ext B w12 w14, zs ++ [(if vc' = a then vo' else vo'.map (·.add (a * 1)), vc' - a, (vr.drop a).take (hdim c))], hS12.keep hc14 (fun i _ h hb => hA14 i h hb), ?_, ?_, fun z hz => ?_, fun i hi => ⟨⟨?_, ?_⟩, fun hb => ?_⟩, fun i hi => ?_⟩
      · exact ((hc6.andN hc610).trans hch12 (fun i hi h => by have := (hA i h).1.1; omega)).trans hc14 (fun i hi h => by have := (hB' i h).1; omega)
      · rw [List.map_append]
        have hen : V.encR (if vc' = a then vo' else vo'.map (·.add (a * 1)), vc' - a, (vr.drop a).take (hdim c)) = .slice (if vc' = a then vo' else vo'.map (·.add (a * 1))) (hdim c) (vc' - a) := by
          unfold V.encR; rw [hcl]
        rw [List.map_singleton, hen]
        exact hV14
      · rw [List.map_append, hzm, hvl']
        rfl
      · rcases List.mem_append.1 hz with hz | hz
        · have h0 := hzr z hz
          refine (((h0.keepN hc610).keep hch12 (fun i _ hi h => ?_)).keep hc14 (fun i _ hi h => ?_))
          · have := (hA i h).1.1; omega
          · have := (hB' i h).1; omega
        · rw [List.mem_singleton] at hz
          subst hz
          obtain ⟨oo, cc2, he, _, _, hrr⟩ := hcutv
          injection he with he1 he2 he3
          subst he1
          exact hrr.keep hc14 (fun i _ hi h => by have := (hB' i h).1; omega)
      · rcases hi with hi | hi
        · exact (hA i hi).1.1
        · have := hi.1; omega
      · rcases hi with hi | hi
        · have := (hA i hi).1.2; omega
        · have := hi.2; omega
      · rcases hb with hb | hb
        · exact hA14 i hi hb
        · rcases hi with hi | hi
          · have := (hA i hi).1.2; have := hb.1; omega
          · have := hi.2; have := hb.1; omega
      · rcases hi with hi | hi
        · exact ⟨(hB' i hi).1, by have := (hB' i hi).2; omega⟩
        · exact ⟨by have := hi.1; omega, hi.2⟩
    · have hge2 : vn = kss.length := by omega
      subst hge2
      rw [List.take_length] at hS
      rw [List.take_of_length_le (show vss.length ≤ kss.length by omega)] at hzm
      have hwl : (kss.map (scoreR a (hdim c) q)).length = kss.length := List.length_map _
      have hww := Soft.rWeights_spec (xs := kss.map (scoreR a (hdim c) q)) hS.rd (by omega) sc
      rw [hwl] at hww
      refine step_call hww ?_
      rintro v w15 ⟨A15, C15, rfl, hg15⟩
      have hzl : zs.length = kss.length := by
        have := congrArg List.length hzm
        rw [List.length_map, List.length_map] at this; omega
      have hwl2 : (Soft.weightsL (kss.map (scoreR a (hdim c) q))).length = kss.length := by unfold Soft.weightsL; rw [List.length_map, List.length_map]
      have hmx := Soft.rMix_spec (K := fun i => i < w3.heap.size) (zs := zs) hg15.rd (hV.rd.keepN hg15.2) (fun z hz => ⟨(hzr z hz).keepN hg15.2, by
        have : z.2.2 ∈ zs.map (·.2.2) := List.mem_map_of_mem hz
        rw [hzm] at this
        obtain ⟨e, _, he⟩ := List.mem_map.1 this
        rw [← he]
        unfold cut
        rw [List.length_take]
        omega⟩) (by omega) (by omega) C15 vc
      rw [hzl] at hmx
      refine ⟨_, _, _, rfl, step_call hmx ?_⟩
      rintro v w16 ⟨A16, C16, rfl, hg16⟩
      rw [mixT_data, hzm] at hg16 ⊢
      have hhr : mixP (Soft.weightsL (kss.map (scoreR a (hdim c) q))) (vss.map (fun v => cut v a (hdim c))) = headR kss vss a (hdim c) q := rfl
      rw [hhr] at hg16 ⊢
      have hhl := headR_len (q := q) (a := a) (n := hdim c) h0 hl hvl (by omega)
      have hll := lookR_len (kss := kss) (vss := vss) (q := q) m.ok h0 hl hvl jj (by omega)
      obtain ⟨o18, c18, w18, r18, hg18, _⟩ := Gr.app (c2 := C16) (m := (headR kss vss a (hdim c) q).length) el_S_int (hg.keepN (hc6.andN (hg15.2.andN hg16.2))) t_S_int hg16.rd (by rw [List.length_map, Nat.mul_one]) (fun u hu => by
        obtain ⟨x, _, rfl⟩ := List.mem_map.1 hu
        rfl) (by omega) (by omega)
      exact ⟨_, _, _, rfl, o18, _, c18, w18, r18, c.heads.toNat - (jj + 1), by omega, jj + 1, by rw [wrap_id (by omega) (by omega)]; rfl, by rw [lookR, List.length_append, ← ha], hlt, rfl, by rw [lookR, List.map_append, ← ha]; exact hg18⟩
  · have : jj = c.heads.toNat := by omega
    subst this
    have hs1 := hc1.size
    exact ⟨(Gr.iv hg).mono (fun i _ hi => ⟨by have := hi.1; omega, hi.2⟩), hc1.andN hg.2⟩
end
end Go.Proofs.YtbadkcnemcnhfaaGreatDoor.RefS
