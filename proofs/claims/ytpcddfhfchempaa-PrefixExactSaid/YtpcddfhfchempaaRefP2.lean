/- For every pool of the document's in memory: what the document's Put and Get of layer 22 leave and answer; the conditions stand in each theorem. -/
import Derived.Test.YtpcddfhfchempaaRefP
set_option linter.unusedVariables false
set_option linter.unusedSimpArgs false
namespace Go.Proofs.Ytpcddfhfchempaa.Pages
open Go Go.Proofs Go.Proofs.Ytpcddfhfchempaa.V Go.Proofs.Ytpcddfhfchempaa.Vc Go.Proofs.Ytpcddfhfchempaa.Step Go.RowKit

theorem pairs_len (qs : List (Value × Value)) : (qs.map pairE).flatten.length = qs.length * 2 := by
  induction qs with
  | nil => rfl
  | cons q r ih => rw [List.map_cons, List.flatten_cons, List.length_append, ih, List.length_cons]; simp [pairE]; omega
theorem EntV.one {w : World} {q : Value × Value} {e : Ent} {F : Nat → Prop} (h : EntV w q e F) : q.1.oneCell' = true ∧ q.2.oneCell' = true := by
  obtain ⟨⟨o1, c1, v1, h1, _, _⟩, ⟨o2, c2, v2, h2, _, _⟩⟩ := h
  rw [h1, h2]; exact ⟨rfl, rfl⟩
theorem pairs_one {w : World} {F : Nat → Prop} : ∀ {qs : List (Value × Value)} {es : List Ent}, All2 (fun q e => EntV w q e F) qs es → ∀ u ∈ (qs.map pairE).flatten, u.oneCell' = true
  | _, _, .nil, u, hu => by simp at hu
  | _, _, .cons (x := q) a b, u, hu => by
    rw [List.map_cons, List.flatten_cons, List.mem_append] at hu
    rcases hu with hu | hu
    · simp only [pairE, List.mem_cons, List.not_mem_nil, or_false] at hu
      rcases hu with rfl | rfl
      · exact (EntV.one a).1
      · exact (EntV.one a).2
    · exact pairs_one b u hu
section
variable {w : World} {pb : Nat} {ps : List PageD} {F G : Nat → Prop} {o : Option Addr} {l : List Int}
theorem RefPut_spec (h : FPoolR w pb ps F) (hF0 : ∀ i, F i → i < w.heap.size) (id : Int) {p : Value × Value} {e : Ent} (he : EntV w p e G) (hG : ∀ i, G i → i < w.heap.size ∧ ¬ F i) (hs : smallE e) :
    Calls Try.prog i_coadjutorref22_Pool_Put #[.pointer (some ⟨pb, 0, none⟩), .int .i64 id, .agg #[p.1, p.2]] w (Ret fun v w' => v = .int .i64 (putV ps id) ∧ FPoolR w' pb (putP ps id e) (fun i => Ext F w w' i ∨ G i) ∧ Ch F w w') := by
  obtain ⟨a, b⟩ := p
  have he0 := he
  obtain ⟨⟨o1, c1, vs1, hva, _, _⟩, ⟨o2, c2, vs2, hvb, _, _⟩⟩ := he
  dsimp only at hva hvb
  subst hva; subst hvb
  have hkeep : ∀ {w'}, FPoolR w' pb ps F → FPoolR w' pb ps (fun i => Ext F w w' i ∨ G i) := fun h => h.mono (fun i _ hi => .inl (.inl hi))
  obtain ⟨o', c', gs, R, hC0, hF, hP0⟩ := h
  have h : FPoolR w pb ps F := ⟨o', c', gs, R, hC0, hF, hP0⟩
  refine coadjutorref22_Pool_Put.calls _ _ _ _ _ _ _ _ ?_
  unfold coadjutorref22_Pool_Put.vc
  intro w1 e1
  have hX1 := Blk.new e1
  have hX1 : Blk w1 w.heap.size [.slice o1 e.1.length c1, .slice o2 e.2.length c2] 53 := hX1
  have hc1 : Ch Non w w1 := Ch.alloc e1
  have h1 := h.keepN hc1
  have he1 := he0.keepN hc1
  refine step_call (RefIs_spec h1 id) ?_
  rintro v w2 ⟨rfl, rfl⟩
  unfold putP putV
  refine ⟨_, rfl, fun hb => ?_, fun hb => ?_⟩
  · have hb : isB ps id = false := by simpa using hb
    rw [hb, if_neg Bool.false_ne_true, if_neg (by decide)]
    exact ⟨rfl, hkeep h1, hc1.any⟩
  have hb : isB ps id = true := by simpa using hb
  rw [hb, if_pos rfl]
  obtain ⟨h0, hj⟩ := isB_lt hb
  have hC : FPoolC w2 pb o' c' gs R ps.length := hC0.keep hc1 (fun _ _ _ hN => hN)
  have hP : ∀ (i : Nat) (h1 : i < gs.length) (h2 : i < ps.length), FPgR w2 gs[i] ps[i] (R 2) := fun i h1 h2 => (hP0 i h1 h2).keep hc1 (fun _ _ _ hN => hN)
  have hjg : id.toNat < gs.length := by rw [hC.len]; exact hj
  obtain ⟨p, hp, _, _, a1, a2, _⟩ := hC.at hjg
  obtain ⟨g1, g2, g3, qs, hOw, hAll, hSm⟩ := hP _ hjg hj
  rw [← pgAt_lt h0 hj] at g1 g2 g3 hAll hSm
  rw [g2] at a1
  rw [g3] at a2
  subst hp
  refine ⟨_, _, _, hC.blk.cell 0 rfl, ⟨by omega, by omega⟩, _, a1, fun hu => ?_, fun hu => ?_⟩
  · have hu := of_decide_eq_true hu
    rw [if_pos hu, if_neg (by decide)]
    exact ⟨rfl, hkeep h1, hc1.any⟩
  have hu := of_decide_eq_false hu
  rw [if_neg hu]
  refine ⟨_, _, _, hC.blk.cell 0 rfl, ⟨by omega, by omega⟩, _, _, _, a2, fun hf => ?_, fun hf => ?_⟩
  · have hf := of_decide_eq_true hf
    rw [if_pos (by omega), if_neg (by decide)]
    exact ⟨rfl, hkeep h1, hc1.any⟩
  have hf := of_decide_eq_false hf
  rw [if_neg (by omega), if_pos rfl]
  clear a1 a2
  refine ⟨fun w' => ∃ w3, w3 = w2.drew ∧ Ch Non w3 w', fun w3 e3 => ⟨⟨w3, e3, Ch.refl _ _⟩, ?_⟩⟩
  have hc3 : Ch Non w2 w3 := Ch.drew e3
  have hC3 : FPoolC w3 pb (some p) c' gs R ps.length := hC.keep hc3 (fun _ _ _ hN => hN)
  have hP3 : ∀ (i : Nat) (h1 : i < gs.length) (h2 : i < ps.length), FPgR w3 gs[i] ps[i] (R 2) := fun i h1 h2 => (hP i h1 h2).keep hc3 (fun _ _ _ hN => hN)
  have hX3 := hX1.drew e3
  have hOw3 := hOw.keepN hc3
  have he3 := he1.keepN hc3
  have hAll3 : All2 (fun q e => EntV w3 q e (R 2)) qs (pgAt ps id).es := hAll.imp (fun _ _ k => k.keepN hc3)
  have hwc3 : Ch Non w w3 := hc1.andN hc3
  have hs3 : ∀ {w'}, Ch Non w3 w' → ∃ w3, w3 = w2.drew ∧ Ch Non w3 w' := fun h => ⟨w3, e3, h⟩
  have hbk : ∀ {w'}, (∃ w3, w3 = w2.drew ∧ Ch Non w3 w') → Ch Non w3 w' := fun ⟨x, hx, h⟩ => by rw [hx, ← e3] at h; exact h
  have hql : qs.length = (pgAt ps id).es.length := hAll.length
  clear hC hP hX1 hOw he1 hAll h1 hc3 hc1 e1
  have hld : ∀ {w'}, Ch Non w3 w' → w'.cell? ((p.add (id.toNat * 3)).add 2) = some (.slice gs[id.toNat].eo (pgAt ps id).es.length gs[id.toNat].ec) := fun {w'} hc => by
    obtain ⟨p', hp', _, _, _, b2, _⟩ := (hC3.keep hc (fun _ _ _ hN => hN)).at hjg
    have hpp : p = p' := Option.some.inj hp'
    rw [hpp, ← g3]; exact b2
  have tail : ∀ (w9 : World) (o9 : Option Addr) (n9 c9 : Nat), n9 = (pgAt ps id).es.length + 1 → Ch Non w3 w9 → Rd w9 o9 ((qs ++ [(Value.slice o1 e.1.length c1, Value.slice o2 e.2.length c2)]).map pairE).flatten (New w3 w9) →
      (0 ≤ id ∧ id < ((ps.length : Nat) : Int)) ∧ someV (some p) fun p_3 =>
          ((∃ u, w9.cell? ((p_3.add (id.toNat * 3)).add 2) = some u) ∧ w9.frozen? ((p_3.add (id.toNat * 3)).add 2) = false) ∧ ∀ w10 : World, w10 = w9.setCell ((p_3.add (id.toNat * 3)).add 2) (.slice o9 n9 c9) →
            (Value.int .i64 0 = .int .i64 0 ∧ FPoolR w10 pb (ps.set id.toNat { pgAt ps id with es := (pgAt ps id).es ++ [e] }) (fun i => Ext F w w10 i ∨ G i) ∧ Ch F w w10) := by
    intro w9 o9 n9 c9 hn9 hc9 hr9
    subst hn9
    have hfam := hC3.fam
    have hG3 : ∀ i, G i → i < w3.heap.size := fun i hi => Nat.lt_of_lt_of_le (hG i hi).1 hwc3.size
    have hs39 := hc9.size
    have hs03 := hwc3.size
    have hF9 : Fam w9 (fun k i => if k = 2 then Ext (R 2) w3 w9 i ∨ G i else R k i) := by
      refine ⟨fun k i hi => ?_, fun j k hjk i h1 h2 => ?_⟩
      · dsimp only at hi
        split at hi
        · rcases hi with (hi | hi) | hi
          · exact Nat.lt_of_lt_of_le (hfam.1 _ _ hi) hs39
          · exact hi.2
          · exact Nat.lt_of_lt_of_le (hG3 i hi) hs39
        · exact Nat.lt_of_lt_of_le (hfam.1 _ _ hi) hs39
      · have key : ∀ m, m ≠ 2 → R m i → ¬ (Ext (R 2) w3 w9 i ∨ G i) := fun m hm hi hx => by
          rcases hx with (hx | hx) | hx
          · exact hfam.2 m 2 hm i hi hx
          · exact absurd (hfam.1 _ _ hi) (Nat.not_lt.2 hx.1)
          · exact (hG i hx).2 (hF _ _ hi)
        replace h1 : (if j = 2 then Ext (R 2) w3 w9 i ∨ G i else R j i) := h1
        replace h2 : (if k = 2 then Ext (R 2) w3 w9 i ∨ G i else R k i) := h2
        split at h1
        · rw [if_neg (by omega)] at h2
          exact key k (by omega) h2 h1
        · split at h2
          · rename_i h3 _; exact key j h3 h1 h2
          · exact hfam.2 j k hjk i h1 h2
    have hC9 : FPoolC w9 pb (some p) c' gs (fun k i => if k = 2 then Ext (R 2) w3 w9 i ∨ G i else R k i) ps.length := ⟨hF9, by rw [if_neg (by omega)]; exact hC3.z, hC3.blk.keepN hc9, by
      have := hC3.own.keepN hc9
      exact this.mono (fun i _ hi => by rw [if_neg (by omega)]; exact hi), hC3.len⟩
    obtain ⟨p', hp', _, _, _, _, _, _, k2⟩ := hC9.at hjg
    have hpp : p = p' := Option.some.inj hp'
    subst hpp
    refine ⟨⟨by omega, by omega⟩, ?_⟩
    refine ⟨k2, fun w10 e10 => ?_⟩
    obtain ⟨hC10, hc10⟩ := hC9.put hjg rfl (q := 2) (by omega) e10 (g := ⟨gs[id.toNat].ver, gs[id.toNat].users, o9, (pgAt ps id).es.length + 1, c9⟩) rfl
    have hs910 := hc10.size
    refine ⟨rfl, ?_, ?_⟩
    · refine FPoolR.write (w := w9) hC10 hc10 (fun k i hi => ?_) (by rw [List.length_set]) ?_
      · replace hi : (if k = 2 then Ext (R 2) w3 w9 i ∨ G i else R k i) := hi
        split at hi
        · rcases hi with (hi | hi) | hi
          · exact .inl (.inl (hF _ _ hi))
          · exact .inl (.inr ⟨by have := hi.1; omega, by have := hi.2; omega⟩)
          · exact .inr hi
        · exact .inl (.inl (hF _ _ hi))
      · show ∀ (i : Nat) (h1 : i < (gs.set id.toNat ⟨gs[id.toNat].ver, gs[id.toNat].users, o9, (pgAt ps id).es.length + 1, c9⟩).length) (h2 : i < (ps.set id.toNat { pgAt ps id with es := (pgAt ps id).es ++ [e] }).length), FPgR w9 (gs.set id.toNat ⟨gs[id.toNat].ver, gs[id.toNat].users, o9, (pgAt ps id).es.length + 1, c9⟩)[i] (ps.set id.toNat { pgAt ps id with es := (pgAt ps id).es ++ [e] })[i] (fun i => Ext (R 2) w3 w9 i ∨ G i)
        refine FPgR.set (fun i h1 h2 => ((hP3 i h1 h2).keep hc9 (fun _ _ _ hN => hN)).mono (fun m _ hm => .inl (.inl hm))) ⟨g1, g2, by simp, _, hr9.mono (fun i _ hi => .inl (.inr hi)), All2.snoc (hAll3.imp fun q x k => (k.keepN hc9).mono (fun i _ hi => .inl (.inl hi))) ((he3.keepN hc9).mono (fun i _ hi => .inr hi)), fun x hx => ?_⟩
        rcases List.mem_append.1 hx with hx | hx
        · exact hSm x hx
        · rw [List.mem_singleton] at hx; subst hx; exact hs
    · refine ((hwc3.andN hc9).any (F := F)).same (hc10.mono (fun i _ hi => ?_))
      have hi : R 1 i := by simpa using hi
      exact hF _ _ hi
  have hel := el_S_coadjutorref17_Entry
  have hone := pairs_one hAll3
  have hcl : (qs.map pairE).flatten.length = (pgAt ps id).es.length * 2 := by rw [pairs_len, hql]
  have hsz : (pgAt ps id).es.length ≤ 3 := by omega
  have app1 : ∀ {wx : World} {b : Nat}, Ch Non w3 wx → Own wx 53 2 (some ⟨b, 0, none⟩) 0 0 [] (· = b) → w3.heap.size ≤ b → b < wx.heap.size → ∃ (o4 : Option Addr) (c4 : Nat) (wy : World) (F4 : Nat → Prop), (Builtin.append_ #[57, 57] 57 #[.slice (some ⟨b, 0, none⟩) 0 0, .slice gs[id.toNat].eo (pgAt ps id).es.length gs[id.toNat].ec]).run Try.prog wx = .ok (.slice o4 (pgAt ps id).es.length c4) wy ∧
      Own wy 53 2 o4 (pgAt ps id).es.length c4 (qs.map pairE).flatten F4 ∧ Ch F4 wx wy ∧ (∀ i, F4 i → i = b ∨ (wx.heap.size ≤ i ∧ i < wy.heap.size)) ∧ Ch Non w3 wy := by
    intro wx b hcx ho hb hbx
    obtain ⟨o4, c4, wy, hr, hO, hc⟩ := Own.appendRd (c2 := gs[id.toNat].ec) hel ho 57 (hOw3.keepN hcx) hcl hone (by unfold maxLen; omega) (by omega)
    rw [Nat.zero_add, List.nil_append] at hO
    rw [Nat.zero_add] at hr
    exact ⟨o4, c4, wy, _, hr, hO, hc.mono (fun i _ hi => .inl hi), fun i hi => hi, hcx.trans hc (fun i hi h => by omega)⟩
  have app2 : ∀ {wx : World} {be : Nat} {o4 : Option Addr} {c4 : Nat} {F4 : Nat → Prop}, Ch Non w3 wx → Own wx 53 2 o4 (pgAt ps id).es.length c4 (qs.map pairE).flatten F4 → (∀ i, F4 i → w3.heap.size ≤ i ∧ i < wx.heap.size) → Blk wx be [.slice o1 e.1.length c1, .slice o2 e.2.length c2] 53 →
      ∃ (o5 : Option Addr) (c5 : Nat) (wy : World), (Builtin.append_ #[57, 57] 57 #[.slice o4 (pgAt ps id).es.length c4, .slice (some ⟨be, 0, none⟩) 1 1]).run Try.prog wx = .ok (.slice o5 ((pgAt ps id).es.length + 1) c5) wy ∧ Ch Non w3 wy ∧ Rd wy o5 ((qs ++ [(Value.slice o1 e.1.length c1, Value.slice o2 e.2.length c2)]).map pairE).flatten (New w3 wy) := by
    intro wx be o4 c4 F4 hcx hO hF4 hB
    obtain ⟨o5, c5, wy, hr, hO5, hc⟩ := Own.appendRd (c2 := 1) (m := 1) hel hO 57 hB.rd rfl (fun u hu => by
      simp only [List.mem_cons, List.not_mem_nil, or_false] at hu
      rcases hu with rfl | rfl <;> rfl) (by unfold maxLen; omega) (by omega)
    have hce := pairs_snoc qs (Value.slice o1 e.1.length c1, Value.slice o2 e.2.length c2)
    rw [hce] at hO5
    exact ⟨o5, c5, wy, hr, hcx.trans hc (fun i hi h => absurd hi (Nat.not_lt.2 (hF4 i h).1)), hO5.rd.mono (fun i _ hi => by
      rcases hi with hi | hi
      · exact ⟨(hF4 i hi).1, Nat.lt_of_lt_of_le (hF4 i hi).2 hc.size⟩
      · exact ⟨by have := hcx.size; have := hi.1; omega, hi.2⟩)⟩
  refine ⟨_, _, _, fun w' h => (hC3.keep (hbk h) (fun _ _ _ hN => hN)).blk.cell 0 rfl, _, _, _, fun w' h => (hC3.keep (hbk h) (fun _ _ _ hN => hN)).blk.cell 0 rfl, ⟨by omega, by omega⟩, ?_⟩
  refine ⟨_, _, _, fun w' h => hld (hbk h), _, _, _, _, _, _, ⟨fun w' h => (hX3.keepN (hbk h)).cell 0 rfl, fun w' h => (hX3.keepN (hbk h)).cell 1 rfl⟩, fun w8 e8 => ?_, fun w8 e8 => ?_, trivial⟩
  · have hc8 : Ch Non w3 w8 := Ch.alloc e8
    have hO8 : Own w8 53 2 (some ⟨w3.heap.size, 0, none⟩) 0 0 [] (· = w3.heap.size) := Own.made e8 (by simp) (Nat.zero_le _) rfl
    have hl8 : w3.heap.size < w8.heap.size := (Blk.new e8).lt
    refine ⟨hs3 hc8, ?_, fun w9 e9 => ?_, trivial⟩
    · obtain ⟨o4, c4, w9, F4, hr9, hO9, _, hF4, hc9⟩ := app1 hc8 hO8 (Nat.le_refl _) hl8
      refine ⟨o4, _, c4, w9, hr9, hs3 hc9, fun w10 e10 => ?_⟩
      have hc10 := hc9.andN (Ch.alloc e10)
      have hl10 : w9.heap.size < w10.heap.size := (Blk.new e10).lt
      obtain ⟨o5, c5, w11, hr11, hc11, hR11⟩ := app2 hc10 (hO9.keepN (Ch.alloc e10)).bound (fun i hi => ⟨by have := hF4 i hi.1; omega, by have := hi.2; omega⟩) (Blk.new e10)
      exact ⟨hs3 hc10, o5, _, c5, w11, hr11, hs3 hc11, tail w11 o5 _ c5 rfl hc11 hR11⟩
    · have hc9 := hc8.andN (Ch.alloc e9)
      have hl9 : w8.heap.size < w9.heap.size := (Blk.new e9).lt
      have hB9 := Blk.new e9
      obtain ⟨o4, c4, w10, F4, hr10, hO10, hcF, hF4, hc10⟩ := app1 hc9 (hO8.keepN (Ch.alloc e9)) (Nat.le_refl _) (by omega)
      have hB10 := hB9.keep hcF (fun h => by have := hF4 _ h; omega)
      obtain ⟨o5, c5, w11, hr11, hc11, hR11⟩ := app2 hc10 hO10.bound (fun i hi => ⟨by have := hF4 i hi.1; omega, hi.2⟩) hB10
      exact ⟨hs3 hc9, o4, _, c4, w10, hr10, hs3 hc10, o5, _, c5, w11, hr11, hs3 hc11, tail w11 o5 _ c5 rfl hc11 hR11⟩
  · have hc8 : Ch Non w3 w8 := Ch.alloc e8
    have hB8 := Blk.new e8
    have hl8 : w3.heap.size < w8.heap.size := hB8.lt
    refine ⟨hs3 hc8, fun w9 e9 => ?_⟩
    have hc9 := hc8.andN (Ch.alloc e9)
    have hO9 : Own w9 53 2 (some ⟨w8.heap.size, 0, none⟩) 0 0 [] (· = w8.heap.size) := Own.made e9 (by simp) (Nat.zero_le _) rfl
    have hl9 : w8.heap.size < w9.heap.size := (Blk.new e9).lt
    have hB9 := hB8.alloc e9
    obtain ⟨o4, c4, w10, F4, hr10, hO10, hcF, hF4, hc10⟩ := app1 hc9 hO9 (by omega) hl9
    have hB10 := hB9.keep hcF (fun h => by have := hF4 _ h; omega)
    obtain ⟨o5, c5, w11, hr11, hc11, hR11⟩ := app2 hc10 hO10.bound (fun i hi => ⟨by have := hF4 i hi.1; omega, hi.2⟩) hB10
    exact ⟨hs3 hc9, o4, _, c4, w10, hr10, hs3 hc10, o5, _, c5, w11, hr11, hs3 hc11, tail w11 o5 _ c5 rfl hc11 hR11⟩
theorem RefGet_spec (h : FPoolR w pb ps F) (hr : Rd w o (l.map (.int .i64)) G) (hes : ∀ p ∈ ps, p.es.length ≤ 4) (hl : l.length ≤ 10000) (c : Nat) :
    Calls Try.prog i_coadjutorref22_Pool_Get #[.pointer (some ⟨pb, 0, none⟩), .slice o l.length c] w (Ret fun v w' => ∃ (o' : Option Addr) (c' : Nat) (qs : List (Value × Value)), v = .slice o' (getL ps l).length c' ∧ Rd w' o' (qs.map pairE).flatten (New w w') ∧ All2 (fun q e => EntV w' q e F) qs (getL ps l) ∧ Ch Non w w') := by
  refine coadjutorref22_Pool_Get.calls _ _ _ _ ?_
  unfold coadjutorref22_Pool_Get.vc
  intro w1 e1
  refine ⟨fun oA oN oC i k w' => ∃ (j : Nat) (qs : List (Value × Value)), i = j ∧ j ≤ l.length ∧ k = l.length - j ∧ oN = (getL ps (l.take j)).length ∧ Gr Non w w' t_coadjutorref17_Entry 2 oA oN oC (qs.map pairE).flatten ∧ All2 (fun q e => EntV w q e F) qs (getL ps (l.take j)), ⟨_, 0, [], rfl, Nat.zero_le _, rfl, rfl, Gr.made0 (Ch.refl _ _) e1, .nil⟩, ?_⟩
  rintro jk oA oN oC i k w2 ⟨j, qs, rfl, hj, rfl, rfl, hB, hA⟩
  refine ⟨fun hlt => ?_, fun hge => ?_⟩
  · have hlt : j < l.length := by have := of_decide_eq_true hlt; omega
    have hsn := getL_snoc ps (l.take j) l[j]
    rw [← take_snoc l j hlt] at hsn
    have hll := getL_len hes (l.take j)
    have hlj : (l.take j).length ≤ 10000 := by rw [List.length_take]; omega
    have hrl : ∀ {w'}, Ch Non w w' → ∃ p, o = some p ∧ w'.cell? (p.add ((j : Int).toNat * 1)) = some (.int .i64 l[j]) := fun {w'} hc => by
      obtain ⟨p, hp, _, _, h⟩ := (hr.keepN hc).getT hlt
      exact ⟨p, hp, by rw [toNat_mul_one]; exact h⟩
    obtain ⟨p, hp, hcell⟩ := hrl hB.2
    have hcl : ∀ {w'}, Ch Non w w' → w'.cell? (p.add ((j : Int).toNat * 1)) = some (.int .i64 l[j]) := fun {w'} hc => by
      obtain ⟨p', hp', h⟩ := hrl hc
      rw [hp] at hp'
      have hpp : p = p' := Option.some.inj hp'
      rw [hpp]; exact h
    subst hp
    refine ⟨⟨by omega, by omega⟩, ?_⟩
    refine ⟨_, hcell, ?_⟩
    generalize l[j] = id at hsn hcl
    refine step_call (RefIs_spec (h.keepN hB.2) id) ?_
    rintro v w3 ⟨rfl, rfl⟩
    refine ⟨_, rfl, fun hb => ?_, fun hb => ?_⟩
    · obtain ⟨h0, h1⟩ := isB_lt hb
      rw [hb, if_pos rfl] at hsn
      obtain ⟨o', c', gs, R, hC, hF, hP⟩ := h
      have hjg : id.toNat < gs.length := by rw [hC.len]; exact h1
      obtain ⟨_, _, g3, us, hOw, hUs, hSm⟩ := hP _ hjg h1
      have hel : ps[id.toNat].es.length ≤ 4 := hes _ (List.getElem_mem h1)
      rw [← pgAt_lt h0 h1] at g3 hUs hSm hel
      obtain ⟨q, hq, _⟩ := hC.at hjg
      have hC' : ∀ {w'}, Ch Non w w' → FPoolC w' pb o' c' gs R ps.length := fun hc => hC.keep hc (fun _ _ _ hN => hN)
      have hat : ∀ {w'}, Ch Non w w' → w'.cell? ((q.add (id.toNat * 3)).add 2) = some (.slice gs[id.toNat].eo (pgAt ps id).es.length gs[id.toNat].ec) := fun {w'} hc => by
        obtain ⟨q', hq', _, _, _, b2, _⟩ := (hC' hc).at hjg
        rw [hq] at hq'
        have hqq : q = q' := Option.some.inj hq'
        rw [hqq, ← g3]; exact b2
      refine ⟨fun w' => Ch Non w w', fun w4 e4 => ⟨hB.2.andN (Ch.drew e4), _, _, _, fun w' h => (hC' h).blk.cell 0 rfl, ⟨by omega, by omega⟩, ?_⟩⟩
      refine ⟨_, fun w' h => hcl h, ⟨by omega, by omega⟩, ?_⟩
      subst hq
      refine ⟨_, _, _, fun w' h => hat h, ?_⟩
      have hB4 := hB.keepN (Ch.drew e4)
      have hone := pairs_one hUs
      obtain ⟨o5, c5, w5, hr5, hB5, hc5⟩ := Gr.app (c2 := gs[id.toNat].ec) (m := (pgAt ps id).es.length) el_S_coadjutorref17_Entry hB4 t_S_coadjutorref17_Entry (hOw.keepN hB4.2) (by rw [pairs_len, hUs.length]) hone (by omega) (by omega)
      refine ⟨o5, _, c5, w5, hr5, hB5.2, l.length - (j + 1), by omega, j + 1, qs ++ us, by rw [wrap_id (by omega) (by omega)]; rfl, hlt, rfl, by rw [hsn, List.length_append], ?_, ?_⟩
      · rw [List.map_append, List.flatten_append]; exact hB5
      · rw [hsn]
        exact All2.append hA (hUs.imp fun q x k => k.mono (fun i _ hi => hF 2 i hi))
    · have hb : isB ps id = false := by simpa using hb
      rw [hb, if_neg Bool.false_ne_true, List.append_nil] at hsn
      exact ⟨l.length - (j + 1), by omega, j + 1, qs, by rw [wrap_id (by omega) (by omega)]; rfl, hlt, rfl, by rw [hsn], hB, by rw [hsn]; exact hA⟩
  · have : j = l.length := by have := of_decide_eq_false hge; omega
    subst this
    rw [List.take_length] at hB hA ⊢
    exact ⟨oA, oC, qs, rfl, hB.rd, hA.imp (fun q x k => k.keepN hB.2), hB.2⟩
end
end Go.Proofs.Ytpcddfhfchempaa.Pages
