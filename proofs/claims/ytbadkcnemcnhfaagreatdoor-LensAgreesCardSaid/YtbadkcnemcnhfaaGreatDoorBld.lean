/- For every strings.Builder in memory: what its methods answer, and what it holds behind them; the conditions stand in each theorem. -/
import Derived.Test.YtbadkcnemcnhfaaGreatDoorPkA
import Derived.Test.YtbadkcnemcnhfaaGreatDoorVcBld
import Derived.WalkKit
import Derived.Lib.Builder
import Derived.Lib.FrozenHead2
set_option linter.unusedVariables false
set_option linter.unusedSimpArgs false
namespace Go.Proofs.YtbadkcnemcnhfaaGreatDoor.V
open Go Go.Proofs Go.Proofs.YtbadkcnemcnhfaaGreatDoor.Vc Go.RowKit

set_option maxHeartbeats 1000000 in
set_option maxRecDepth 100000 in
theorem copyCheck_used (b : Nat) (w : World) (h0 : w.cell? ⟨b, 0, none⟩ = some (.pointer (some ⟨b, 0, none⟩))) :
    Calls Tryz.prog i_strings_Builder_copyCheck #[.pointer (some ⟨b, 0, none⟩)] w fun e w' => e = .returned (.tuple #[]) ∧ w' = w := by
  obtain ⟨j, hj, hjs⟩ := Option.map_eq_some_iff.1 (show (Tryz.prog.info? t_strings_Builder).map (·.size) = some 2 by kernel_rfl)
  have u1 : Tryz.prog.underlying t_P_strings_Builder = some (.pointer t_strings_Builder) := by kernel_rfl
  go_enter Tryz.func124, Tryz.ntmps124
  go_wp2
  rw [Lib.run_neq_ptr_same w _ u1 hj]
  go_wp2
  go_end0
  exact ⟨rfl, rfl⟩
/-- A builder may lie at the beginning of such a variable. -/
def BType (T m : Nat) : Prop := liesAt Tryz.prog Tryz.prog.depth T (m / Tryz.prog.cellsOf T) 0 t_strings_Builder 1 = true
set_option maxHeartbeats 1000000 in
set_option maxRecDepth 100000 in
theorem copyCheck_fresh (b T m : Nat) (w : World) (h0 : w.cell? ⟨b, 0, none⟩ = some (.pointer none)) (hsh : w.shape? b = some (T, m)) (hm : 0 < m) (hl : BType T m) (hfz : w.frozen? ⟨b, 0, none⟩ = false) :
    Calls Tryz.prog i_strings_Builder_copyCheck #[.pointer (some ⟨b, 0, none⟩)] w fun e w' => e = .returned (.tuple #[]) ∧ w' = w.setCell ⟨b, 0, none⟩ (.pointer (some ⟨b, 0, none⟩)) := by
  obtain ⟨j, hj, hjs⟩ := Option.map_eq_some_iff.1 (show (Tryz.prog.info? t_strings_Builder).map (·.size) = some 2 by kernel_rfl)
  have u1 : Tryz.prog.underlying t_P_strings_Builder = some (.pointer t_strings_Builder) := by kernel_rfl
  have u2 : Tryz.prog.underlying t_unsafe_Pointer = some .unsafePointer := by kernel_rfl
  go_enter Tryz.func124, Tryz.ntmps124
  go_wp2
  rw [Lib.run_to_unsafe w ⟨b, 0, none⟩ u1 u2 hj (by rw [hjs]; decide) hsh hm]
  simp only [Result.andThen]
  rw [Oper.upon_value]
  go_wp2
  rw [run_callFunc_extern (f := 138) Tryz.func138 (by kernel_rfl) (by kernel_rfl) (by kernel_rfl) (e := Extern.AbiNoEscape.same) (by kernel_rfl)]
  rw [Lib.run_noEscape]
  simp only [Result.andThen]
  rw [Oper.upon_value]
  go_wp2
  rw [Lib.run_from_unsafe w ⟨b, 0, none⟩ u2 u1 hj hsh hl]
  simp only [Result.andThen]
  rw [Oper.upon_value]
  go_wp2
  go_end0
  exact ⟨rfl, rfl⟩
section
variable {w w' w1 : World} {b T n c : Nat} {o o2 : Option Addr} {bs news : List UInt8} {F G : Nat → Prop} {p : Option Addr} {tail : List Value}
theorem copyCheck_spec {r : List Value} (hB : Blk w b (.pointer p :: r) T) (hp : p = none ∨ p = some ⟨b, 0, none⟩) (hl : BType T (r.length + 1)) :
    Calls Tryz.prog i_strings_Builder_copyCheck #[.pointer (some ⟨b, 0, none⟩)] w (Ret fun v w' => v = .tuple #[] ∧ Blk w' b (.pointer (some ⟨b, 0, none⟩) :: r) T ∧ Ch (· = b) w w') := by
  rcases hp with rfl | rfl
  · refine (copyCheck_fresh b T (r.length + 1) w (hB.cell 0 rfl) ?_ (by omega) hl (hB.frozen _ rfl)).mono ?_
    · simp only [World.shape?]; rw [show w.heap[b]? = _ from hB]; simp
    · rintro e w' ⟨rfl, rfl⟩
      exact ⟨rfl, hB.set rfl, Ch.set rfl rfl⟩
  · refine (copyCheck_used b w (hB.cell 0 rfl)).mono ?_
    rintro e w' ⟨rfl, rfl⟩
    exact ⟨rfl, hB, Ch.refl _ _⟩
/-- A row of bytes of one's own, of which a head may be frozen. -/
def Buf (w : World) (o : Option Addr) (n c : Nat) (bs : List UInt8) (F : Nat → Prop) : Prop :=
  bs.length = n ∧ ((o = none ∧ n = 0 ∧ c = 0) ∨ ∃ (g : Nat) (cur : Array Value) (fz : Nat × Nat), o = some ⟨g, 0, none⟩ ∧ F g ∧ w.heap[g]? = some (.cells cur t_uint8 fz) ∧ fz.2 ≤ n ∧ n ≤ c ∧ 0 < c ∧ c ≤ maxLen ∧ cur.size = c ∧ cur.toList.take n = bs.map u8v)
theorem Buf.nil (w : World) (F : Nat → Prop) : Buf w none 0 0 [] F := ⟨rfl, .inl ⟨rfl, rfl, rfl⟩⟩
theorem Buf.keep (h : Buf w o n c bs F) (hc : Ch G w w') (hd : ∀ i, i < w.heap.size → F i → ¬ G i) : Buf w' o n c bs F := by
  refine ⟨h.1, ?_⟩
  rcases h.2 with h | ⟨g, cur, fz, ho, hF, hg, r⟩
  · exact .inl h
  · have hlt := (Array.getElem?_eq_some_iff.1 hg).1
    exact .inr ⟨g, cur, fz, ho, hF, (hc.block g hlt (hd g hlt hF)).trans hg, r⟩
theorem Buf.mono (h : Buf w o n c bs F) (hg : ∀ i, i < w.heap.size → F i → G i) : Buf w o n c bs G := by
  refine ⟨h.1, ?_⟩
  rcases h.2 with h | ⟨g, cur, fz, ho, hF, hgg, r⟩
  · exact .inl h
  · exact .inr ⟨g, cur, fz, ho, hg g (Array.getElem?_eq_some_iff.1 hgg).1 hF, hgg, r⟩
theorem row_cell {g : Nat} {cur : Array Value} {fz : Nat × Nat} {e : Nat} (hg : w.heap[g]? = some (.cells cur e fz)) (j : Nat) : w.cell? ((⟨g, 0, none⟩ : Addr).add j) = cur[j]? := by
  rw [add_at, Nat.zero_add]; simp [World.cell?, hg]
theorem Buf.cells (h : Buf w o n c bs F) {a : Addr} (ho : o = some a) : ∀ j u, (bs.map u8v)[j]? = some u → w.cell? (a.add j) = some u := by
  intro j u hu
  rcases h.2 with ⟨rfl, _⟩ | ⟨g, cur, fz, rfl, hF, hg, h1, h2, h3, h4, h5, h6⟩
  · cases ho
  · injection ho with ho
    subst ho
    rw [row_cell hg, ← Array.getElem?_toList]
    rw [← h6, List.getElem?_take] at hu
    split at hu
    · exact hu
    · cases hu
theorem Buf.rd (h : Buf w o n c bs F) : Rd w o (bs.map u8v) F := fun j v hj => by
  rcases h.2 with ⟨rfl, rfl, _⟩ | ⟨g, cur, fz, rfl, hF, hg, r⟩
  · have : bs = [] := List.length_eq_zero_iff.1 h.1
    subst this; simp at hj
  · exact ⟨_, rfl, hF, (Array.getElem?_eq_some_iff.1 hg).1, h.cells rfl j v hj⟩
theorem Ch.row {g : Nat} {cs : Array Value} (e : w' = w.setRow g cs) (hF : F g) : Ch F w w' := by
  subst e
  exact ⟨rfl, rfl, rfl, by simp [World.setRow], fun k _ hk => setRow_other w g k _ (fun e => hk (e ▸ hF))⟩
theorem Buf.app (h : Buf w o n c bs F) (ty : TypeId) (hr : Rd w o2 (news.map u8v) G) (h63 : n + news.length ≤ 140737488355328) (c2 : Nat) :
    ∃ (o' : Option Addr) (c' : Nat) (w' : World), (Builtin.append_ #[t_S_uint8, t_S_uint8] ty #[.slice o n c, .slice o2 news.length c2]).run Tryz.prog w = .ok (.slice o' (n + news.length) c') w' ∧
      Buf w' o' (n + news.length) c' (bs ++ news) (Ext F w w') ∧ Ch F w w' := by
  obtain ⟨i, z, hi, hz, hs, hb, hzs⟩ := el_S_uint8.inf
  have hbl := h.1
  by_cases hm : news = []
  · subst hm
    refine ⟨o, c, w, run_append_empty el_S_uint8.und hi ?_ w c2, by rw [List.append_nil]; exact h.mono (fun i _ hF => .inl hF), Ch.refl _ _⟩
    rcases h.2 with ⟨_, rfl, rfl⟩ | ⟨g, cur, fz, _, _, _, _, h2, _⟩
    · exact Nat.le_refl _
    · exact h2
  have hpos : 0 < news.length := List.length_pos_iff.2 hm
  obtain ⟨a, ha, _⟩ := hr 0 (u8v news[0]) (by rw [List.getElem?_map, List.getElem?_eq_getElem hpos]; rfl)
  subst ha
  have hnews : ∀ j u, (news.map u8v)[j]? = some u → w.cell? (a.add j) = some u := fun j u hu => by
    obtain ⟨a', ha', _, _, hc⟩ := hr j u hu
    have e : a = a' := Option.some.inj ha'
    rw [e]; exact hc
  have h1 : ∀ u ∈ news.map u8v, u.oneCell' = true := u8v_one news
  have hnl : (news.map u8v).length = news.length * 1 := by simp
  have fresh : ∀ (v' : Value) (w' : World) (row : Option Nat), (Builtin.append_ #[t_S_uint8, t_S_uint8] ty #[.slice o n c, .slice (some a) news.length c2]).run Tryz.prog w = .ok v' w' → w'.ownsRow w.heap.size t_uint8 1 v' (n + news.length) (bs.map u8v ++ news.map u8v) → w.grownBy w' row → row = none →
      ∃ (o' : Option Addr) (c' : Nat) (w' : World), (Builtin.append_ #[t_S_uint8, t_S_uint8] ty #[.slice o n c, .slice (some a) news.length c2]).run Tryz.prog w = .ok (.slice o' (n + news.length) c') w' ∧
      Buf w' o' (n + news.length) c' (bs ++ news) (Ext F w w') ∧ Ch F w w' := by
    rintro v' w' row hrun ⟨_, hown⟩ hg rfl
    rcases hown with ⟨rfl, h0⟩ | ⟨g, cap, cur, rfl, hge, hgg, q1, q2, q3, q4⟩
    · omega
    · exact ⟨_, cap, w', hrun, ⟨by simp [hbl], .inr ⟨g, cur, (0, 0), rfl, .inr ⟨hge, (Array.getElem?_eq_some_iff.1 hgg).1⟩, hgg, Nat.zero_le _, q1, by omega, q2, by simpa using q3, by simpa using q4⟩⟩, Ch.grown hg (fun i hi => by cases hi)⟩
  rcases h.2 with ⟨rfl, rfl, rfl⟩ | ⟨g, cur, fz, rfl, hF, hg, f1, f2, f3, f4, f5, f6⟩
  · have hb0 : bs = [] := List.length_eq_zero_iff.1 hbl
    subst hb0
    obtain ⟨v', w', hrun, hown, hgr, _, _⟩ := run_append_own_at (P := Tryz.prog) (w := w) w.heap.size t_S_uint8 ty t_uint8 i z 1 1 el_S_uint8.und hi hz hs hb hzs (by omega) (.slice none 0 0) 0 [] ⟨rfl, .inl ⟨rfl, rfl⟩⟩ a news.length c2 (news.map u8v) hnl hnews h1 (by unfold maxLen; omega) (by omega) (Nat.le_refl _)
    exact fresh v' w' _ hrun (by simpa using hown) hgr rfl
  · by_cases hroom : n + news.length ≤ c
    · have hr := run_append_roomF (P := Tryz.prog) w t_S_uint8 ty t_uint8 i el_S_uint8.und hi g n c cur fz hg (by rw [hs]; omega) a news.length c2 (news.map u8v) (by rw [hs]; exact hnl) hnews h1 hroom (by rw [hs]; simp; omega)
      rw [hs] at hr
      refine ⟨_, _, _, hr, ⟨by simp [hbl], .inr ⟨g, _, fz, rfl, .inl hF, setRow_heap w g cur _ _ fz hg, by omega, hroom, f3, f4, ?_, ?_⟩⟩, Ch.row rfl hF⟩
      · simp; omega
      · rw [Nat.mul_one, f6]
        simp only [List.map_append]
        have : n + news.length = (bs.map u8v ++ news.map u8v).length := by simp [hbl]
        rw [this]
        exact List.take_left
    · obtain ⟨v', w', hrun, hown, hgr⟩ := run_append_arg_grows (P := Tryz.prog) (w := w) t_S_uint8 ty t_uint8 i z 1 1 el_S_uint8.und hi hz hs hb hzs (by omega) ⟨g, 0, none⟩ n c (bs.map u8v) (by simp [hbl]) (h.cells rfl) a news.length c2 (news.map u8v) hnl hnews (by omega) (by unfold maxLen; omega) (by omega)
      exact fresh v' w' _ hrun hown hgr rfl
/-- A builder at the beginning of a variable; tail: what else the variable has. -/
def Bld (w : World) (b T : Nat) (tail : List Value) (bs : List UInt8) (F : Nat → Prop) : Prop :=
  ∃ (p o : Option Addr) (c : Nat), (p = none ∨ p = some ⟨b, 0, none⟩) ∧ Blk w b (.pointer p :: .slice o bs.length c :: tail) T ∧ Buf w o bs.length c bs (fun i => F i ∧ i ≠ b) ∧ F b ∧ BType T (tail.length + 2)
theorem Bld.keep (h : Bld w b T tail bs F) (hc : Ch G w w') (hd : ∀ i, i < w.heap.size → F i → ¬ G i) : Bld w' b T tail bs F := by
  obtain ⟨p, o, c, h1, h2, h3, h4, h5⟩ := h
  exact ⟨p, o, c, h1, h2.keep hc (hd b h2.lt h4), h3.keep hc (fun i hi hF => hd i hi hF.1), h4, h5⟩
theorem Bld.keepN (h : Bld w b T tail bs F) (hc : Ch Non w w') : Bld w' b T tail bs F := h.keep hc (fun _ _ _ => id)
theorem Bld.mono (h : Bld w b T tail bs F) (hg : ∀ i, i < w.heap.size → F i → G i) : Bld w b T tail bs G := by
  obtain ⟨p, o, c, h1, h2, h3, h4, h5⟩ := h
  exact ⟨p, o, c, h1, h2, h3.mono (fun i hi hF => ⟨hg i hi hF.1, hF.2⟩), hg b h2.lt h4, h5⟩
theorem Bld.lt (h : Bld w b T tail bs F) : b < w.heap.size := by obtain ⟨p, o, c, h1, h2, _⟩ := h; exact h2.lt
theorem Bld.own (h : Bld w b T tail bs F) : F b := by obtain ⟨p, o, c, h1, h2, h3, h4, h5⟩ := h; exact h4
/-- A new one. -/
theorem Bld.made (e : w1 = w.alloc (.cells (.pointer none :: .slice none 0 0 :: tail).toArray T (0, 0))) (ht : BType T (tail.length + 2)) : Bld w1 w.heap.size T tail [] (New w w1) :=
  ⟨none, none, 0, .inl rfl, Blk.new e, Buf.nil _ _, ⟨Nat.le_refl _, (Blk.new e).lt⟩, ht⟩
theorem WriteByte_spec (h : Bld w b T tail bs F) (x : UInt8) (hl : bs.length < 1000000000) : Calls Tryz.prog i_strings_Builder_WriteByte #[.pointer (some ⟨b, 0, none⟩), u8v x] w (Ret fun v w' => v = .nilIface ∧ Bld w' b T tail (bs ++ [x]) (Ext F w w') ∧ Ch F w w') := by
  obtain ⟨p, o, c, h1, h2, h3, h4, h5⟩ := h
  refine strings_Builder_WriteByte.calls _ _ ?_
  unfold strings_Builder_WriteByte.vc
  refine step_call (copyCheck_spec h2 h1 h5) ?_
  rintro v w1 ⟨rfl, hB1, hc1⟩
  have h31 := h3.keep hc1 (fun i _ hF he => hF.2 he)
  refine ⟨rfl, _, _, _, hB1.cell 1 rfl, fun w2 e2 => ?_⟩
  have hB2 := hB1.alloc e2
  have hc12 : Ch Non w1 w2 := Ch.alloc e2
  have hrd : Rd w2 (some ⟨w1.heap.size, 0, none⟩) (([x] : List UInt8).map u8v) (· = w1.heap.size) := (Blk.new e2).rd
  obtain ⟨o', c', w3, hr, hbuf, hc3⟩ := (h31.keep hc12 (fun _ _ _ => id)).app t_S_uint8 hrd (by simp; omega) 1
  have hb3 := hB2.keep hc3 (fun hF => hF.2 rfl)
  refine ⟨o', _, c', w3, hr, hb3.ok 1 rfl, fun w4 e4 => ⟨rfl, ⟨some ⟨b, 0, none⟩, o', c', .inr rfl, ?_, ?_, .inl h4, by simpa using h5⟩, ?_⟩⟩
  · have := hb3.set e4
    simpa using this
  · have hk := hbuf.keep (G := (· = b)) (Ch.set e4 rfl) (fun i hi hF he => by
      subst he
      rcases hF with hF | hF
      · exact hF.2 rfl
      · exact absurd hB2.lt (Nat.not_lt.2 hF.1))
    have hs : w4.heap.size = w3.heap.size := by subst e4; simp [World.setCell]
    have hk2 := hk.mono (G := fun i => Ext F w w4 i ∧ i ≠ b) (fun i hi hF => by
      rcases hF with hF | hF
      · exact ⟨.inl hF.1, hF.2⟩
      · refine ⟨.inr ⟨Nat.le_trans (Nat.le_trans hc1.size hc12.size) hF.1, by omega⟩, fun he => ?_⟩
        subst he
        exact absurd hB2.lt (Nat.not_lt.2 hF.1))
    simpa using hk2
  · refine ((hc1.mono (G := F) (fun i _ he => by subst he; exact h4)).trans ((hc12.any (F := F)).same ((hc3.mono (G := F) (fun i _ hF => hF.1)).same (Ch.set e4 h4))) (fun i _ hF => hF))
theorem String_spec (h : Bld w b T tail bs F) (hl : bs.length < 1000000000) : Calls Tryz.prog i_strings_Builder_String #[.pointer (some ⟨b, 0, none⟩)] w (Ret fun v w' => v = .string ⟨bs.toArray⟩ ∧ Bld w' b T tail bs F ∧ Ch (fun i => F i ∧ i ≠ b) w w') := by
  obtain ⟨p, o, c, h1, h2, h3, h4, h5⟩ := h
  refine strings_Builder_String.calls _ ?_
  unfold strings_Builder_String.vc
  have hptr : Tryz.prog.underlying 169 = some (.pointer t_uint8) := by kernel_rfl
  refine ⟨fun w' => Blk w' b (.pointer p :: .slice o bs.length c :: tail) T, fun w1 e1 => ⟨h2.drew e1, _, _, _, fun w2 k2 => k2.cell 1 rfl, _, _, _, fun w2 k2 => k2.cell 1 rfl, ?_⟩⟩
  have hc1 : Ch Non w w1 := Ch.drew e1
  have h31 := h3.keep hc1 (fun _ _ _ => id)
  have h21 := h2.keepN hc1
  rcases h31.2 with ⟨rfl, h0, rfl⟩ | ⟨g, cur, fz, rfl, hF, hg, f1, f2, f3, f4, f5, f6⟩
  · have hb0 : bs = [] := List.length_eq_zero_iff.1 h0
    subst hb0
    refine ⟨_, w1, Lib.run_unsafeSliceData_nil _ _ _ _ _, h21, _, w1, Lib.run_unsafeString_none _ _ _ _ _, h21, rfl, ⟨p, none, 0, h1, h21, Buf.nil _ _, h4, h5⟩, hc1.any⟩
  · refine ⟨_, w1, Lib.run_unsafeSliceData_row _ _ _ _ _ _ (by omega), h21, ?_⟩
    by_cases hb0 : bs = []
    · subst hb0
      exact ⟨_, w1, Lib.run_unsafeString_none _ _ _ _ _, h21, rfl, ⟨p, _, c, h1, h21, h31, h4, h5⟩, hc1.any⟩
    · have hcell : ∀ j x, bs[j]? = some x → w1.cell? ((⟨g, 0, none⟩ : Addr).add j) = some (.int .u8 x.toNat) := fun j x hx => h31.cells rfl j (u8v x) (by rw [List.getElem?_map, hx]; rfl)
      have hrun := Lib.run_unsafeString_row (P := Tryz.prog) w1 169 3 9 t_uint8 hptr (by kernel_rfl) g cur.size (by simp [World.shape?, hg]) bs hb0 (by omega) (by omega) hcell
      have hlen0 : bs.length ≠ 0 := by simpa using hb0
      have hgl : g < w1.heap.size := (Array.getElem?_eq_some_iff.1 hg).1
      have hfr : Ch (fun i => F i ∧ i ≠ b) w1 (w1.freeze ⟨g, 0, none⟩ bs.length) := by
        refine ⟨?_, ?_, ?_, ?_, fun i _ hi => ?_⟩
        · unfold World.freeze; rw [if_neg hlen0]
        · unfold World.freeze; rw [if_neg hlen0]
        · unfold World.freeze; rw [if_neg hlen0]
        · unfold World.freeze; rw [if_neg hlen0]; simp
        · unfold World.freeze; rw [if_neg hlen0]
          have hne : g ≠ i := fun e => hi (e ▸ hF)
          simp [Array.getElem?_modify, hne]
      have hfg : ∃ fz', fz'.2 ≤ bs.length ∧ (w1.freeze ⟨g, 0, none⟩ bs.length).heap[g]? = some (.cells cur t_uint8 fz') := by
        obtain ⟨lo, hi⟩ := fz
        unfold World.freeze
        rw [if_neg hlen0]
        simp only [Array.getElem?_modify, if_pos, hg, Option.map_some]
        by_cases hlh : lo = hi
        · exact ⟨(0, bs.length), Nat.le_refl _, by simp [hlh]⟩
        · refine ⟨(min lo 0, max hi bs.length), Nat.max_le.2 ⟨f1, Nat.le_refl _⟩, by simp [hlh]⟩
      obtain ⟨fz', q1, q2⟩ := hfg
      have hB2 := h21.keep hfr (fun h => h.2 rfl)
      exact ⟨_, _, hrun, hB2, rfl, ⟨p, _, c, h1, hB2, ⟨rfl, .inr ⟨g, cur, fz', rfl, hF, q2, q1, f2, f3, f4, f5, f6⟩⟩, h4, h5⟩, (hc1.any).same hfr⟩
end
end Go.Proofs.YtbadkcnemcnhfaaGreatDoor.V
