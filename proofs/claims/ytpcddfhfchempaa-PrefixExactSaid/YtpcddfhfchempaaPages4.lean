/- For every pool of pages in memory: what a put and a get leave and answer; the conditions stand in each theorem. -/
import Derived.Test.YtpcddfhfchempaaPages3
set_option linter.unusedVariables false
set_option linter.unusedSimpArgs false
namespace Go.Proofs.Ytpcddfhfchempaa.Pages
open Go Go.Proofs Go.Proofs.Ytpcddfhfchempaa.V Go.Proofs.Ytpcddfhfchempaa.Vc Go.Proofs.Ytpcddfhfchempaa.Step Go.RowKit

def putV (ps : List PageD) (id : Int) : Int := if isB ps id then (if (pgAt ps id).users > 1 then 7 else if (pgAt ps id).es.length ≥ 4 then 10 else 0) else 8
def putP (ps : List PageD) (id : Int) (e : Ent) : List PageD := if putV ps id = 0 then ps.set id.toNat { pgAt ps id with es := (pgAt ps id).es ++ [e] } else ps
def getL (ps : List PageD) (l : List Int) : List Ent := l.flatMap fun id => if isB ps id then (pgAt ps id).es else []
theorem getL_snoc (ps : List PageD) (l : List Int) (x : Int) : getL ps (l ++ [x]) = getL ps l ++ (if isB ps x then (pgAt ps x).es else []) := by
  unfold getL; rw [List.flatMap_append]; simp
theorem pairs_snoc (qs : List (Value × Value)) (q : Value × Value) : (qs.map pairE).flatten ++ [q.1, q.2] = ((qs ++ [q]).map pairE).flatten := by simp [pairE]
section
variable {w : World} {pb : Nat} {ps : List PageD} {F G : Nat → Prop} {o : Option Addr} {l : List Int}
theorem Put_spec (h : PoolR w pb ps F) (id : Int) {p : Value × Value} {e : Ent} (he : EntV w p e G) (hs : smallE e) :
    Calls Try.prog i_pages_Pool_Put #[.pointer (some ⟨pb, 0, none⟩), .int .i64 id, .agg #[p.1, p.2]] w (Ret fun v w' => v = .int .i64 (putV ps id) ∧ PoolR w' pb (putP ps id e) (Ext F w w') ∧ Ch F w w') := by
  obtain ⟨a, b⟩ := p
  have he0 := he
  obtain ⟨⟨o1, c1, vs1, hva, _, _⟩, ⟨o2, c2, vs2, hvb, _, _⟩⟩ := he
  dsimp only at hva hvb
  subst hva; subst hvb
  have hkeep : ∀ {w'}, PoolR w' pb ps F → PoolR w' pb ps (Ext F w w') := fun h => h.mono (fun i _ hi => .inl hi)
  have hlt := h.lt.1
  obtain ⟨o', c', gs, R, hC0, hF, hP0⟩ := h
  have h : PoolR w pb ps F := ⟨o', c', gs, R, hC0, hF, hP0⟩
  refine pages_Pool_Put.calls _ _ _ _ _ _ _ _ ?_
  unfold pages_Pool_Put.vc
  intro w1 e1
  have hX1 := Blk.new e1
  have hX1 : Blk w1 w.heap.size [.slice o1 e.1.length c1, .slice o2 e.2.length c2] 35 := hX1
  have hc1 : Ch Non w w1 := Ch.alloc e1
  have h1 := h.keepN hc1
  have he1 := he0.keepN hc1
  refine step_call (is_spec h1 id) ?_
  rintro v w2 ⟨rfl, rfl⟩
  unfold putP putV
  refine ⟨_, rfl, fun hb => ?_, fun hb => ?_⟩
  · have hb : isB ps id = false := by simpa using hb
    rw [hb, if_neg Bool.false_ne_true, if_neg (by decide)]
    exact ⟨rfl, hkeep h1, hc1.any⟩
  have hb : isB ps id = true := by simpa using hb
  rw [hb, if_pos rfl]
  obtain ⟨h0, hj⟩ := isB_lt hb
  have hC : PoolC w2 pb o' c' gs R ps.length := hC0.keep hc1 (fun _ _ _ hN => hN)
  have hP : ∀ (i : Nat) (h1 : i < gs.length) (h2 : i < ps.length), PgR w2 gs[i] ps[i] (R (3 + i)) (R 2) := fun i h1 h2 => (hP0 i h1 h2).keep hc1 (fun _ _ _ hN => hN) (fun _ _ _ hN => hN)
  have hjg : id.toNat < gs.length := by rw [hC.len]; exact hj
  obtain ⟨p, hp, _, _, a1, a2, _⟩ := hC.at hjg
  obtain ⟨g1, g2, g3, qs, hOw, hAll, hSm⟩ := hP _ hjg hj
  rw [← pgAt_lt h0 hj] at g1 g2 g3 hAll hSm
  rw [g2] at a1
  rw [g3] at a2
  subst hp
  refine ⟨_, _, _, hC.blk.cell 0 rfl, ⟨by omega, by omega⟩, _, a1, fun hu => ?_, fun hu => ?_⟩
  · have hu := of_decide_eq_true hu
    rw [if_pos hu, if_neg (by decide)]
    exact ⟨rfl, hkeep h1, hc1.any⟩
  have hu := of_decide_eq_false hu
  rw [if_neg hu]
  refine ⟨_, _, _, hC.blk.cell 0 rfl, ⟨by omega, by omega⟩, _, _, _, a2, fun hf => ?_, fun hf => ?_⟩
  · have hf := of_decide_eq_true hf
    rw [if_pos (by omega), if_neg (by decide)]
    exact ⟨rfl, hkeep h1, hc1.any⟩
  have hf := of_decide_eq_false hf
  rw [if_neg (by omega), if_pos rfl]
  have hxR : ∀ k, ¬ R k w.heap.size := fun k hk => Nat.lt_irrefl _ (hC0.fam.1 k _ hk)
  have hxb : pb ≠ w.heap.size := fun e => hxR 0 (e ▸ hC0.z)
  clear a1 a2 hP0 hC0
  refine ⟨fun w' => Blk w' w.heap.size [.slice o1 e.1.length c1, .slice o2 e.2.length c2] 35 ∧ Blk w' pb [.slice (some p) ps.length c'] t_pages_Pool, fun w3 e3 => ⟨⟨hX1.drew e3, hC.blk.drew e3⟩, _, _, _, fun w' h => h.2.cell 0 rfl, _, _, _, fun w' h => h.2.cell 0 rfl, ⟨by omega, by omega⟩, ?_⟩⟩
  have hc3 : Ch Non w2 w3 := Ch.drew e3
  have hC3 : PoolC w3 pb (some p) c' gs R ps.length := hC.keep hc3 (fun _ _ _ hN => hN)
  have hP3 : ∀ (i : Nat) (h1 : i < gs.length) (h2 : i < ps.length), PgR w3 gs[i] ps[i] (R (3 + i)) (R 2) := fun i h1 h2 => (hP i h1 h2).keep hc3 (fun _ _ _ hN => hN) (fun _ _ _ hN => hN)
  have hX3 := hX1.drew e3
  have hOw3 := hOw.keepN hc3
  have he3 := he1.keepN hc3
  have hAll3 : All2 (fun q e => EntV w3 q e (R 2)) qs (pgAt ps id).es := hAll.imp (fun _ _ k => k.keepN hc3)
  have hwc3 : Ch Non w w3 := hc1.andN hc3
  clear e3 e1 hC hP hX1 hOw he1 hAll h1 hc3 hc1
  have hld : ∀ {w'}, Ch Non w3 w' → w'.cell? ((p.add (id.toNat * 3)).add 2) = some (.slice gs[id.toNat].eo (pgAt ps id).es.length gs[id.toNat].ec) := fun {w'} hc => by
    obtain ⟨p', hp', _, _, _, b2, _⟩ := (hC3.keep hc (fun _ _ _ hN => hN)).at hjg
    have hpp : p = p' := Option.some.inj hp'
    rw [hpp, ← g3]; exact b2
  have hS : ∀ {w'}, Ch Non w3 w' → Blk w' w.heap.size [.slice o1 e.1.length c1, .slice o2 e.2.length c2] 35 ∧ Blk w' pb [.slice (some p) ps.length c'] t_pages_Pool := fun hc => ⟨hX3.keepN hc, hC3.blk.keepN hc⟩
  have tail : ∀ (w7 w8 : World) (q : Value × Value), Ch Non w3 w7 → EntV w7 q e (New w3 w7) → w8 = w7.alloc (.cells #[q.1, q.2] 35 (0, 0)) →
      ∃ (o9 : Option Addr) (n9 c9 : Nat) (w9 : World), (Builtin.append_ #[44, 44] 44 #[.slice gs[id.toNat].eo (pgAt ps id).es.length gs[id.toNat].ec, .slice (some ⟨w7.heap.size, 0, none⟩) 1 1]).run Try.prog w8 = .ok (.slice o9 n9 c9) w9 ∧
        (Blk w9 w.heap.size [.slice o1 e.1.length c1, .slice o2 e.2.length c2] 35 ∧ Blk w9 pb [.slice (some p) ps.length c'] t_pages_Pool) ∧ (0 ≤ id ∧ id < ((ps.length : Nat) : Int)) ∧ someV (some p) fun p_3 =>
          ((∃ u, w9.cell? ((p_3.add (id.toNat * 3)).add 2) = some u) ∧ w9.frozen? ((p_3.add (id.toNat * 3)).add 2) = false) ∧ ∀ w10 : World, w10 = w9.setCell ((p_3.add (id.toNat * 3)).add 2) (.slice o9 n9 c9) →
            (Blk w10 w.heap.size [.slice o1 e.1.length c1, .slice o2 e.2.length c2] 35 ∧ Blk w10 pb [.slice (some p) ps.length c'] t_pages_Pool) ∧
            (Value.int .i64 0 = .int .i64 0 ∧ PoolR w10 pb (ps.set id.toNat { pgAt ps id with es := (pgAt ps id).es ++ [e] }) (Ext F w w10) ∧ Ch F w w10) := by
    intro w7 w8 q hc7 hq e8
    obtain ⟨qa, qb⟩ := q
    have hq0 := hq
    obtain ⟨⟨oa, ca, va, hqa, _, _⟩, ⟨ob, cb, vb, hqb, _, _⟩⟩ := hq
    dsimp only at hqa hqb
    subst hqa; subst hqb
    have hOw7 := hOw3.keepN hc7
    rw [g3] at hOw7
    obtain ⟨o9, c9, w9, hr9, hO9, hc9⟩ := Own.push el_S_step_Entry hOw7 44 e8 rfl rfl (by unfold maxLen; omega) (by omega)
    have hfam := hC3.fam
    have hF7 := hfam.upd hc7.size 2
    have hF9 := hF7.upd hc9.size (3 + id.toNat)
    have r0 : updF (updF R 2 w3 w7) (3 + id.toNat) w7 w9 0 = R 0 := by rw [updF_other (by omega), updF_other (by omega)]
    have r1 : updF (updF R 2 w3 w7) (3 + id.toNat) w7 w9 1 = R 1 := by rw [updF_other (by omega), updF_other (by omega)]
    have r2 : updF (updF R 2 w3 w7) (3 + id.toNat) w7 w9 2 = Ext (R 2) w3 w7 := by rw [updF_other (by omega), updF_same]
    have rj : updF (updF R 2 w3 w7) (3 + id.toNat) w7 w9 (3 + id.toNat) = Ext (R (3 + id.toNat)) w7 w9 := by rw [updF_same, updF_other (by omega)]
    have ri : ∀ i, i ≠ id.toNat → updF (updF R 2 w3 w7) (3 + id.toNat) w7 w9 (3 + i) = R (3 + i) := fun i hi => by rw [updF_other (by omega), updF_other (by omega)]
    generalize updF (updF R 2 w3 w7) (3 + id.toNat) w7 w9 = R9 at hF9 r0 r1 r2 rj ri
    have hs37 := hc7.size
    have hs79 := hc9.size
    have hs03 := hwc3.size
    have hC9 : PoolC w9 pb (some p) c' gs R9 ps.length := ⟨hF9, by rw [r0]; exact hC3.z, (hC3.blk.keepN hc7).keep hc9 (fun hx => hfam.2 0 (3 + id.toNat) (by omega) pb hC3.z hx), by rw [r1]; exact (hC3.own.keepN hc7).keep hc9 (fun i _ a b => hfam.2 1 (3 + id.toNat) (by omega) i a b), hC3.len⟩
    have hX9 : Blk w9 w.heap.size [.slice o1 e.1.length c1, .slice o2 e.2.length c2] 35 := (hX3.keepN hc7).keep hc9 (hxR _)
    obtain ⟨p', hp', _, _, _, _, _, _, k2⟩ := hC9.at hjg
    have hpp : p = p' := Option.some.inj hp'
    subst hpp
    refine ⟨o9, (pgAt ps id).es.length + 1, c9, w9, hr9, ⟨hX9, hC9.blk⟩, ⟨by omega, by omega⟩, ?_⟩
    refine ⟨k2, fun w10 e10 => ?_⟩
    obtain ⟨hC10, hc10⟩ := hC9.put hjg rfl (q := 2) (by omega) e10 (g := ⟨gs[id.toNat].ver, gs[id.toNat].users, o9, (pgAt ps id).es.length + 1, c9⟩) rfl
    rw [r1] at hc10
    have hs910 := hc10.size
    refine ⟨⟨hX9.keep hc10 (hxR _), hC10.blk⟩, rfl, ?_, ?_⟩
    · have hw : PoolR w10 pb (ps.set id.toNat { pgAt ps id with es := (pgAt ps id).es ++ [e] }) (Ext F w w9) := by
        refine PoolR.write (w := w9) hC10 (by rw [r1]; exact hc10) (fun k i hi => ?_) (by rw [List.length_set]) (fun i h1 h2 => ?_)
        · by_cases hk2 : k = 2
          · subst hk2
            rw [r2] at hi
            rcases hi with hi | hi
            · exact .inl (hF _ _ hi)
            · exact .inr ⟨by have := hi.1; omega, by have := hi.2; omega⟩
          by_cases hkj : k = 3 + id.toNat
          · subst hkj
            rw [rj] at hi
            rcases hi with hi | hi
            · exact .inl (hF _ _ hi)
            · exact .inr ⟨by have := hi.1; omega, by have := hi.2; omega⟩
          · have : R9 k = R k := by
              by_cases hk0 : k = 0
              · subst hk0; exact r0
              by_cases hk1 : k = 1
              · subst hk1; exact r1
              obtain ⟨m, rfl⟩ : ∃ m, k = 3 + m := ⟨k - 3, by omega⟩
              exact ri m (by omega)
            rw [this] at hi
            exact .inl (hF _ _ hi)
        · rw [List.getElem_set, List.getElem_set]
          split
          · rename_i hij
            subst hij
            rw [rj, r2]
            refine ⟨g1, g2, by simp, qs ++ [(.slice oa e.1.length ca, .slice ob e.2.length cb)], ?_, ?_, fun x hx => ?_⟩
            · rw [← pairs_snoc]; exact hO9
            · refine All2.snoc (hAll3.imp fun q x k => ?_) ?_
              · exact ((k.keepN hc7).keep hc9 (fun i _ a b => hfam.2 2 (3 + id.toNat) (by omega) i a b)).mono (fun i _ hi => .inl hi)
              · exact (hq0.keep hc9 (fun i _ a b => absurd (hfam.1 _ _ b) (Nat.not_lt.2 a.1))).mono (fun i _ hi => .inr hi)
            · rcases List.mem_append.1 hx with hx | hx
              · exact hSm x hx
              · rw [List.mem_singleton] at hx; subst hx; exact hs
          · rename_i hij
            rw [ri i (fun h => hij h.symm), r2]
            have h1 : i < gs.length := by simpa using h1
            have h2 : i < ps.length := by simpa using h2
            obtain ⟨x1, x2, x3, qs', x4, x5, x6⟩ := ((hP3 i h1 h2).keep hc7 (fun _ _ _ hN => hN) (fun _ _ _ hN => hN)).keep hc9 (fun m _ a b => hfam.2 (3 + i) (3 + id.toNat) (by omega) m a b) (fun m _ a b => hfam.2 2 (3 + id.toNat) (by omega) m a b)
            exact ⟨x1, x2, x3, qs', x4, x5.imp (fun _ _ k => k.mono (fun m _ hm => .inl hm)), x6⟩
      exact hw.mono (fun i _ hi => hi.imp_right (fun h => ⟨h.1, by have := h.2; omega⟩))
    · exact (((hwc3.andN hc7).any (F := F)).same (hc9.mono (fun i _ hi => hF _ _ hi))).same (hc10.mono (fun i _ hi => hF _ _ hi))
  have hcopy : Calls Try.prog i_step_Copy #[.agg #[.slice o1 e.1.length c1, .slice o2 e.2.length c2]] w3 (Ret fun v w' => ∃ q : Value × Value, v = .agg #[q.1, q.2] ∧ EntV w' q e (New w3 w') ∧ Ch Non w3 w') := Copy_spec (p := (.slice o1 e.1.length c1, .slice o2 e.2.length c2)) he3 hs
  refine ⟨_, _, _, _, _, _, ⟨fun w' h => h.1.cell 0 rfl, fun w' h => h.1.cell 1 rfl⟩, ⟨_, _, _, hld (Ch.refl _ _), hS (Ch.refl _ _), ?_⟩, ?_, trivial⟩
  · refine step_call hcopy ?_
    rintro v w7 ⟨⟨qa, qb⟩, rfl, hq, hc7⟩
    have hq0 := hq
    obtain ⟨⟨oa, ca, va, hqa, _, _⟩, ⟨ob, cb, vb, hqb, _, _⟩⟩ := hq
    dsimp only at hqa hqb
    subst hqa; subst hqb
    refine ⟨oa, _, ca, ob, _, cb, rfl, hS hc7, fun w8 e8 => ?_⟩
    exact ⟨hS (hc7.andN (Ch.alloc e8)), tail w7 w8 (.slice oa e.1.length ca, .slice ob e.2.length cb) hc7 hq0 e8⟩
  · refine step_call hcopy ?_
    rintro v w7 ⟨⟨qa, qb⟩, rfl, hq, hc7⟩
    have hq0 := hq
    obtain ⟨⟨oa, ca, va, hqa, _, _⟩, ⟨ob, cb, vb, hqb, _, _⟩⟩ := hq
    dsimp only at hqa hqb
    subst hqa; subst hqb
    refine ⟨oa, _, ca, ob, _, cb, rfl, hS hc7, ?_⟩
    refine ⟨?_, fun w8 e8 => ?_, trivial⟩
    · refine ⟨_, _, _, hld hc7, hS hc7, fun w8 e8 => ?_⟩
      exact ⟨hS (hc7.andN (Ch.alloc e8)), tail w7 w8 (.slice oa e.1.length ca, .slice ob e.2.length cb) hc7 hq0 e8⟩
    · have hc8 : Ch Non w3 w8 := hc7.andN (Ch.alloc e8)
      refine ⟨hS hc8, _, _, _, hld hc8, hS hc8, ?_⟩
      exact tail w7 w8 (.slice oa e.1.length ca, .slice ob e.2.length cb) hc7 hq0 e8
theorem getL_len (hes : ∀ p ∈ ps, p.es.length ≤ 4) : ∀ l : List Int, (getL ps l).length ≤ 4 * l.length := fun l => by
  induction l with
  | nil => simp [getL]
  | cons x r ih =>
    have : getL ps (x :: r) = (if isB ps x then (pgAt ps x).es else []) ++ getL ps r := by unfold getL; rw [List.flatMap_cons]
    rw [this, List.length_append, List.length_cons]
    split
    · rename_i hb
      obtain ⟨h0, h1⟩ := isB_lt hb
      rw [pgAt_lt h0 h1]
      have := hes _ (List.getElem_mem h1)
      omega
    · simp; omega
theorem Get_spec (h : PoolR w pb ps F) (hr : Rd w o (l.map (.int .i64)) G) (hes : ∀ p ∈ ps, p.es.length ≤ 4) (hl : l.length ≤ 10000) (c : Nat) :
    Calls Try.prog i_pages_Pool_Get #[.pointer (some ⟨pb, 0, none⟩), .slice o l.length c] w (Ret fun v w' => ∃ (o' : Option Addr) (c' : Nat) (qs : List (Value × Value)) (F1 F2 : Nat → Prop), v = .slice o' (getL ps l).length c' ∧ Build w w' t_step_Entry 2 o' (getL ps l).length c' (qs.map pairE).flatten F1 F2 ∧ All2 (fun q e => EntV w' q e F2) qs (getL ps l)) := by
  refine pages_Pool_Get.calls _ _ _ _ ?_
  unfold pages_Pool_Get.vc
  refine ⟨fun oA oN oC i k w' => ∃ (j : Nat) (qs : List (Value × Value)) (F1 F2 : Nat → Prop), i = j ∧ j ≤ l.length ∧ k = l.length - j ∧ oN = (getL ps (l.take j)).length ∧ Build w w' t_step_Entry 2 oA oN oC (qs.map pairE).flatten F1 F2 ∧ All2 (fun q e => EntV w' q e F2) qs (getL ps (l.take j)), ⟨_, 0, [], _, _, rfl, Nat.zero_le _, rfl, rfl, Build.nil (Ch.refl _ _), .nil⟩, ?_⟩
  rintro jk oA oN oC i k w1 ⟨j, qs, F1, F2, rfl, hj, rfl, rfl, hB, hA⟩
  refine ⟨fun hlt => ?_, fun hge => ?_⟩
  · have hlt : j < l.length := by have := of_decide_eq_true hlt; omega
    have hsn := getL_snoc ps (l.take j) l[j]
    rw [← take_snoc l j hlt] at hsn
    have hll := getL_len hes (l.take j)
    have hlj : (l.take j).length ≤ 10000 := by rw [List.length_take]; omega
    refine ⟨⟨by omega, by omega⟩, (hr.keepN hB.ch).at (j := (j : Int).toNat * 1) (v := .int .i64 l[j]) (by simp [hlt]) fun p hp => ⟨_, hp, ?_⟩⟩
    generalize l[j] = id at hsn
    have hP1 := h.keepN hB.ch
    refine step_call (is_spec hP1 id) ?_
    rintro v w2 ⟨rfl, rfl⟩
    refine ⟨_, rfl, fun hb => ?_, fun hb => ?_⟩
    · have hb : isB ps id = false := by simpa using hb
      rw [hb, if_neg Bool.false_ne_true, List.append_nil] at hsn
      refine ⟨l.length - (j + 1), by omega, j + 1, qs, F1, F2, by rw [wrap_id (by omega) (by omega)]; rfl, hlt, rfl, by rw [hsn], hB, by rw [hsn]; exact hA⟩
    have hb : isB ps id = true := by simpa using hb
    obtain ⟨h0, h1⟩ := isB_lt hb
    rw [hb, if_pos rfl] at hsn
    have hw := h
    obtain ⟨o', c', gs, R, hC0, hF, hP⟩ := hw
    have hC : PoolC w2 pb o' c' gs R ps.length := hC0.keep hB.ch (fun _ _ _ hN => hN)
    have hjg : id.toNat < gs.length := by rw [hC.len]; exact h1
    obtain ⟨q, hq, _, _, _, a2, _⟩ := hC.at hjg
    obtain ⟨_, _, g3, us, hOw, hUs, hSm⟩ := hP _ hjg h1
    have hel : ps[id.toNat].es.length ≤ 4 := hes _ (List.getElem_mem h1)
    rw [← pgAt_lt h0 h1] at g3 hUs hSm hel
    rw [g3] at a2
    subst hq
    refine ⟨_, _, _, hC.blk.cell 0 rfl, ⟨by omega, by omega⟩, _, _, _, a2, ?_⟩
    have hOr := hOw.rd
    generalize (pgAt ps id).es = es at hsn hUs hSm hel
    generalize gs[id.toNat].eo = eo at hOr
    clear hOw a2 hP hF hC hC0
    refine ⟨fun oA oN oC i k w' => ∃ (m : Nat) (qs : List (Value × Value)) (F1 F2 : Nat → Prop), i = m ∧ m ≤ es.length ∧ k = es.length - m ∧ oN = (getL ps (l.take j) ++ es.take m).length ∧ Build w w' t_step_Entry 2 oA oN oC (qs.map pairE).flatten F1 F2 ∧ All2 (fun q e => EntV w' q e F2) qs (getL ps (l.take j) ++ es.take m), ⟨_, 0, qs, F1, F2, rfl, Nat.zero_le _, rfl, by simp, hB, by simpa using hA⟩, ?_⟩
    clear hA hB
    rintro jk oA oN oC i k w3 ⟨m, qs, F1, F2, rfl, hm, rfl, rfl, hB, hA⟩
    refine ⟨fun hlt2 => ?_, fun hge2 => ?_⟩
    · have hlt2 : m < es.length := by have := of_decide_eq_true hlt2; omega
      have hmu : m < us.length := by rw [hUs.length]; exact hlt2
      obtain ⟨hp1, hp2⟩ := pairs_at us hmu
      have hE := hUs.get m hmu hlt2
      obtain ⟨p, hp, _, _, hcell⟩ := (hOr.keepN hB.ch).elem (sz := 2) (enc := pairE) (fun _ => rfl) (by omega) hmu
      have c0 := hcell 0 _ rfl
      have c1 := hcell 1 _ rfl
      rw [add_none] at c0
      have hE3 := hE.keepN hB.ch
      have hsm := hSm _ (List.getElem_mem hlt2)
      have htk := take_snoc es m hlt2
      generalize us[m] = u at hE3 c0 c1
      generalize es[m] = e at hE3 hsm htk
      obtain ⟨ua, ub⟩ := u
      have hE30 := hE3
      obtain ⟨⟨o1, c1', vs1, hua, _, _⟩, ⟨o2, c2', vs2, hub, _, _⟩⟩ := hE3
      dsimp only at hua hub c0 c1
      subst hua; subst hub
      subst hp
      refine ⟨⟨by omega, by omega⟩, ?_⟩
      refine ⟨o1, _, c1', o2, _, c2', ⟨c0, c1⟩, fun w4 e4 => ?_⟩
      have hV := Blk.new e4
      refine ⟨⟨hV.ok 0 rfl, hV.ok 1 rfl⟩, fun w5 e5 => ?_⟩
      have e6 : w5 = w4.setCells w3.heap.size 0 [.slice o1 e.1.length c1', .slice o2 e.2.length c2'] := e5
      have hV5 := hV.all [.slice o1 e.1.length c1', .slice o2 e.2.length c2'] rfl e6
      have hc35 : Ch Non w3 w5 := (Ch.alloc (F := Non) e4).trans (Ch.sets (F := (· = w3.heap.size)) e6 rfl) (fun i hi he => by omega)
      clear e4 e5 e6 hV
      refine ⟨o1, _, c1', o2, _, c2', ⟨hV5.cell 0 rfl, hV5.cell 1 rfl⟩, ?_⟩
      refine step_call (Copy_spec (p := (.slice o1 e.1.length c1', .slice o2 e.2.length c2')) (hE30.keepN hc35) hsm) ?_
      rintro v w6 ⟨⟨qa, qb⟩, rfl, hQ, hc6⟩
      have hQ0 := hQ
      obtain ⟨⟨oa, ca, va, hqa, _, _⟩, ⟨ob, cb, vb, hqb, _, _⟩⟩ := hQ
      dsimp only at hqa hqb
      subst hqa; subst hqb
      refine ⟨oa, _, ca, ob, _, cb, rfl, fun w7 e7 => ?_⟩
      have hB6 := (hB.keepN hc35).more hc6
      have hlen : (getL ps (l.take j) ++ es.take m).length < 1000000 := by rw [List.length_append, List.length_take]; omega
      obtain ⟨o8, c8, w8, F8, hr8, hB8, hc8⟩ := hB6.push el_S_step_Entry t_S_step_Entry e7 rfl rfl hlen (by omega)
      have hnl : (getL ps (l.take j) ++ es.take m).length + 1 = (getL ps (l.take j) ++ es.take (m + 1)).length := by rw [htk, ← List.append_assoc, List.length_append (bs := [e])]; rfl
      rw [hnl] at hB8 hr8
      refine ⟨o8, _, c8, w8, hr8, es.length - (m + 1), by omega, m + 1, qs ++ [(.slice oa e.1.length ca, .slice ob e.2.length cb)], F8, _, by rw [wrap_id (by omega) (by omega)]; rfl, hlt2, rfl, rfl, by rw [← pairs_snoc]; exact hB8, ?_⟩
      rw [htk, ← List.append_assoc]
      refine All2.snoc (hA.imp fun q x k => ?_) ?_
      · exact (((k.keepN hc35).keepN hc6).mono (fun i _ hi => .inl hi)).keep hc8 (fun i _ hi h => hB6.ap i h hi)
      · exact EntV.keep (F := Ext F2 w5 w6) (hQ0.mono (fun i _ hi => .inr hi)) hc8 (fun i _ hi h => hB6.ap i h hi)
    · have : m = es.length := by have := of_decide_eq_false hge2; omega
      subst this
      rw [List.take_length, ← hsn] at hA hB
      exact ⟨l.length - (j + 1), by omega, j + 1, qs, F1, F2, by rw [wrap_id (by omega) (by omega)]; rfl, hlt, rfl, by rw [hsn, List.take_length], by rw [List.take_length, ← hsn]; exact hB, hA⟩
  · have : j = l.length := by have := of_decide_eq_false hge; omega
    subst this
    rw [List.take_length] at hB hA
    exact ⟨oA, oC, qs, F1, F2, by rw [List.take_length], hB, hA⟩
end
end Go.Proofs.Ytpcddfhfchempaa.Pages
