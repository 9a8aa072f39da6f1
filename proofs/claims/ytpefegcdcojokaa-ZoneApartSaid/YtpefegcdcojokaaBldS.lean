/- For every strings.Builder in memory: what WriteString and Len answer, and what it holds behind them; the conditions stand in each theorem. -/
import Derived.Test.YtpefegcdcojokaaBld
import Derived.Test.YtpefegcdcojokaaVcBldS
set_option linter.unusedVariables false
set_option linter.unusedSimpArgs false
namespace Go.Proofs.Ytpefegcdcojokaa.V
open Go Go.Proofs Go.Proofs.Ytpefegcdcojokaa.Vc Go.RowKit

section
variable {w w' w1 : World} {b T n c : Nat} {o o2 : Option Addr} {bs news : List UInt8} {F G : Nat → Prop} {p : Option Addr} {tail : List Value}
theorem Buf.appS (h : Buf w o n c bs F) (ty : TypeId) (s : ByteArray) (h63 : n + s.size ≤ 140737488355328) :
    ∃ (o' : Option Addr) (c' : Nat) (w' : World), (Builtin.append_ #[t_S_uint8, t_string] ty #[.slice o n c, .string s]).run Try.prog w = .ok (.slice o' (n + s.size) c') w' ∧
      Buf w' o' (n + s.size) c' (bs ++ s.data.toList) (Ext F w w') ∧ Ch F w w' := by
  obtain ⟨i, z, hi, hz, hs, hb, hzs⟩ := el_S_uint8.inf
  have hbl := h.1
  have hu : Try.prog.underlying t_string = some .string := by kernel_rfl
  have hsl : s.data.toList.length = s.size := by simp
  have hcl : Lib.strCells s = s.data.toList.map u8v := rfl
  have hz0 : i.zero = some (.int .u8 0) := by
    have h0 : (Try.prog.info? t_uint8).map (·.zero) = some (some (.int .u8 0)) := by kernel_rfl
    rw [hi] at h0
    simpa using h0
  rcases h.2 with ⟨rfl, rfl, rfl⟩ | ⟨g, cur, fz, rfl, hF, hg, f1, f2, f3, f4, f5, f6⟩
  · have hb0 : bs = [] := List.length_eq_zero_iff.1 hbl
    subst hb0
    obtain ⟨v', w', hrun, ⟨_, hown⟩, hgr, hiff⟩ := Lib.run_append_own_string (P := Try.prog) w w.heap.size t_S_uint8 t_string ty t_uint8 i el_S_uint8.und hu hi hz0 hs hb (.slice none 0 0) 0 [] ⟨rfl, .inl ⟨rfl, rfl⟩⟩ s (by unfold maxLen; omega) (by omega) (Nat.le_refl _)
    rcases hown with ⟨rfl, h0⟩ | ⟨g, cap, cur, rfl, hge, hgg, q1, q2, q3, q4⟩
    · have hz : s.data.toList = [] := List.length_eq_zero_iff.1 (by omega)
      refine ⟨none, 0, w', by rw [show 0 + s.size = 0 by omega]; exact hrun, ?_, Ch.grown hgr (fun i hi => by cases hi)⟩
      rw [hz, show 0 + s.size = 0 by omega]; exact Buf.nil _ _
    · by_cases hc0 : cap = 0
      · have h0 : s.size = 0 := by omega
        have := hiff.2 ⟨rfl, h0⟩
        cases this
      · exact ⟨_, cap, w', hrun, ⟨by simp, .inr ⟨g, cur, (0, 0), rfl, .inr ⟨hge, (Array.getElem?_eq_some_iff.1 hgg).1⟩, hgg, Nat.zero_le _, q1, by omega, q2, by simpa using q3, by simpa [hcl] using q4⟩⟩, Ch.grown hgr (fun i hi => by cases hi)⟩
  · by_cases hroom : n + s.size ≤ c
    · have hr := Lib.run_append_room_stringF (P := Try.prog) w t_S_uint8 t_string ty t_uint8 i el_S_uint8.und hu hi hs g n c cur fz hg f1 s hroom (by omega)
      refine ⟨_, _, _, hr, ⟨by simp [hbl], .inr ⟨g, _, fz, rfl, .inl hF, setRow_heap w g cur _ _ fz hg, by omega, hroom, f3, f4, ?_, ?_⟩⟩, Ch.row rfl hF⟩
      · simp [hcl]; omega
      · rw [f6, hcl]
        simp only [List.map_append]
        have : n + s.size = (bs.map u8v ++ s.data.toList.map u8v).length := by simp [hbl]
        rw [this]
        exact List.take_left
    · have hr := Lib.run_append_grow_string (P := Try.prog) w t_S_uint8 t_string ty t_uint8 i z el_S_uint8.und hu hi hz ⟨g, 0, none⟩ n c (bs.map u8v) (by rw [hs]; simp [hbl]) (h.cells rfl) s (by omega) (by omega) (by rw [hb]; exact growslice_fits (by omega) (by omega))
      have hge := grownCap_ge w (n + s.size) c t_uint8
      have hcm2 : grownCap w (n + s.size) c t_uint8 ≤ maxLen := grownCap_le_maxLen w (n + s.size) c t_uint8 (by unfold maxLen; omega)
      have hD : Ch Non w w.drew := Ch.drew rfl
      have hnew := heap_alloc_new w.drew (.cells ((bs.map u8v).toArray ++ (Lib.strCells s).toArray ++ Builtin.zeroCells z.cells (grownCap w (n + s.size) c t_uint8 - (n + s.size))) t_uint8 (0, 0))
      refine ⟨_, _, _, hr, ⟨by simp [hbl], .inr ⟨w.heap.size, _, (0, 0), rfl, .inr ⟨Nat.le_refl _, (Array.getElem?_eq_some_iff.1 hnew).1⟩, hnew, Nat.zero_le _, hge, by omega, hcm2, ?_, ?_⟩⟩, hD.any.same (Ch.alloc rfl)⟩
      · simp only [Array.size_append, List.size_toArray, size_zeroCells, hzs, hcl, List.length_map, hbl, hsl]
        omega
      · simp only [Array.toList_append, List.append_assoc, List.map_append, hcl]
        rw [← List.append_assoc]
        have : n + s.size = (bs.map u8v ++ s.data.toList.map u8v).length := by simp [hbl]
        rw [this]
        exact List.take_left
theorem WriteString_spec (h : Bld w b T tail bs F) (s : ByteArray) (hl : bs.length + s.size < 1000000000) : Calls Try.prog i_strings_Builder_WriteString #[.pointer (some ⟨b, 0, none⟩), .string s] w (Ret fun v w' => v = .tuple #[.int .i64 s.size, .nilIface] ∧ Bld w' b T tail (bs ++ s.data.toList) (Ext F w w') ∧ Ch F w w') := by
  obtain ⟨p, o, c, h1, h2, h3, h4, h5⟩ := h
  refine strings_Builder_WriteString.calls _ _ ?_
  unfold strings_Builder_WriteString.vc
  refine step_call (copyCheck_spec h2 h1 h5) ?_
  rintro v w1 ⟨rfl, hB1, hc1⟩
  have h31 := h3.keep hc1 (fun i _ hF he => hF.2 he)
  refine ⟨rfl, _, _, _, hB1.cell 1 rfl, ?_⟩
  obtain ⟨o', c', w3, hr, hbuf, hc3⟩ := h31.appS t_S_uint8 s (by omega)
  have hb3 := hB1.keep hc3 (fun hF => hF.2 rfl)
  have hsl : s.data.toList.length = s.size := by simp
  refine ⟨o', _, c', w3, hr, hb3.ok 1 rfl, fun w4 e4 => ⟨rfl, ⟨some ⟨b, 0, none⟩, o', c', .inr rfl, ?_, ?_, .inl h4, by simpa using h5⟩, ?_⟩⟩
  · have := hb3.set e4
    simpa using this
  · have hk := hbuf.keep (G := (· = b)) (Ch.set e4 rfl) (fun i hi hF he => by
      subst he
      rcases hF with hF | hF
      · exact hF.2 rfl
      · exact absurd hB1.lt (Nat.not_lt.2 hF.1))
    have hs : w4.heap.size = w3.heap.size := by subst e4; simp [World.setCell]
    have hk2 := hk.mono (G := fun i => Ext F w w4 i ∧ i ≠ b) (fun i hi hF => by
      rcases hF with hF | hF
      · exact ⟨.inl hF.1, hF.2⟩
      · refine ⟨.inr ⟨Nat.le_trans hc1.size hF.1, by omega⟩, fun he => ?_⟩
        subst he
        exact absurd hB1.lt (Nat.not_lt.2 hF.1))
    simpa using hk2
  · exact (hc1.mono (G := F) (fun i _ he => by subst he; exact h4)).same ((hc3.mono (G := F) (fun i _ hF => hF.1)).same (Ch.set e4 h4))
theorem Len_spec (h : Bld w b T tail bs F) : Calls Try.prog i_strings_Builder_Len #[.pointer (some ⟨b, 0, none⟩)] w (Ret fun v w' => v = .int .i64 bs.length ∧ w' = w) := by
  obtain ⟨p, o, c, h1, h2, h3, h4, h5⟩ := h
  refine strings_Builder_Len.calls _ ?_
  unfold strings_Builder_Len.vc
  exact ⟨_, _, _, h2.cell 1 rfl, rfl, rfl⟩
end
end Go.Proofs.Ytpefegcdcojokaa.V
