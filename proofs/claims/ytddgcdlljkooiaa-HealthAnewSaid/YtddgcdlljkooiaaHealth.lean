/- For every watch in memory: what health's functions answer, and what they make of the watch; the conditions stand in each theorem. -/
import Derived.Test.YtddgcdlljkooiaaVcHealth
set_option linter.unusedVariables false
namespace Go.Proofs.Ytddgcdlljkooiaa.Health
open Go Go.Proofs Go.Proofs.Ytddgcdlljkooiaa.V Go.Proofs.Ytddgcdlljkooiaa.Vc Go.RowKit

/-- How many are false. -/
def bads (l : List Bool) : Int := (l.countP fun b => !b : Nat)
def goods (l : List Bool) : Int := (l.countP fun b => b : Nat)
theorem bads_le (l : List Bool) : 0 ≤ bads l ∧ bads l ≤ l.length := ⟨by unfold bads; omega, by unfold bads; have := List.countP_le_length (l := l) (p := fun b => !b); omega⟩
theorem goods_le (l : List Bool) : 0 ≤ goods l ∧ goods l ≤ l.length := ⟨by unfold goods; omega, by unfold goods; have := List.countP_le_length (l := l) (p := fun b => b); omega⟩
theorem bads_snoc (l : List Bool) (g : Bool) : bads (l ++ [g]) = bads l + (if g then 0 else 1) := by
  unfold bads
  rw [List.countP_append]
  cases g <;> simp
theorem goods_snoc (l : List Bool) (g : Bool) : goods (l ++ [g]) = goods l + (if g then 1 else 0) := by
  unfold goods
  rw [List.countP_append]
  cases g <;> simp
theorem take_snoc (l : List Bool) (j : Nat) (h : j < l.length) : l.take (j + 1) = l.take j ++ [l[j]] := List.take_succ_eq_append_getElem h
/-- A watch: where it is, and of which blocks. -/
def WatchR (w : World) (b : Nat) (good bad window limit : Int) (late : List Bool) (F : Nat → Prop) : Prop :=
  ∃ (o : Option Addr) (n c : Nat), Blk w b [.int .i64 good, .int .i64 bad, .int .i64 window, .int .i64 limit, .slice o n c] t_health_Watch ∧ F b ∧
    Own w t_bool 1 o n c (late.map .bool) (fun i => F i ∧ i ≠ b)
section
variable {w w' : World} {b : Nat} {good bad window limit : Int} {late : List Bool} {F G : Nat → Prop}
theorem WatchR.keep (h : WatchR w b good bad window limit late F) (hc : Ch G w w') (hd : ∀ i, i < w.heap.size → F i → ¬ G i) : WatchR w' b good bad window limit late F := by
  obtain ⟨o, n, c, hb, hF, ho⟩ := h
  exact ⟨o, n, c, hb.keep hc (hd _ hb.lt hF), hF, ho.keep hc (fun i hi h => hd i hi h.1)⟩
theorem WatchR.keepN (h : WatchR w b good bad window limit late F) (hc : Ch Non w w') : WatchR w' b good bad window limit late F := h.keep hc (fun _ _ _ => id)
theorem WatchR.mono (h : WatchR w b good bad window limit late F) (hg : ∀ i, i < w.heap.size → F i → G i) : WatchR w b good bad window limit late G := by
  obtain ⟨o, n, c, hb, hF, ho⟩ := h
  exact ⟨o, n, c, hb, hg _ hb.lt hF, ho.mono (fun i hi h => ⟨hg i hi h.1, h.2⟩)⟩
theorem WatchR.bound (h : WatchR w b good bad window limit late F) : WatchR w b good bad window limit late (fun i => F i ∧ i < w.heap.size) := h.mono (fun i hi hF => ⟨hF, hi⟩)

theorem Late_spec (h : WatchR w b good bad window limit late F) :
    Calls Try.prog i_health_Watch_Late #[.pointer (some ⟨b, 0, none⟩)] w (Ret fun v w' => v = .int .i64 (bads late) ∧ w' = w) := by
  obtain ⟨o, n, c, hb, hF, ho⟩ := h
  obtain rfl : n = late.length := by have := ho.len; simpa using this.symm
  have hc : late.length ≤ maxLen := Nat.le_trans ho.2.1 ho.2.2.1
  unfold maxLen at hc
  refine health_Watch_Late.calls _ ?_
  unfold health_Watch_Late.vc
  refine ⟨o, late.length, c, hb.cell 4 rfl, fun n x k w2 => w2 = w ∧ ∃ j : Nat, x = j ∧ j ≤ late.length ∧ k = late.length - j ∧ n = bads (late.take j), ⟨_, rfl, 0, rfl, Nat.zero_le _, rfl, rfl⟩, ?_⟩
  rintro jk n x k w2 ⟨rfl, j, rfl, hj, rfl, rfl⟩
  refine ⟨fun hlt => ?_, fun hge => ?_⟩
  · have hlt : j < late.length := by simpa using hlt
    have hs := bads_snoc (late.take j) late[j]
    rw [← take_snoc late j hlt] at hs
    have hb1 := bads_le (late.take j)
    have hl : (late.take j).length ≤ j := List.length_take_le _ _
    refine ⟨⟨by omega, by omega⟩, ho.rd.at (j := (j : Int).toNat * 1) (v := .bool late[j]) (by simp [hlt]) fun p hp => ⟨late[j], hp, fun h1 => ?_, fun h1 => ?_⟩⟩
    · refine ⟨late.length - (j + 1), by omega, rfl, j + 1, by rw [wrap_id (by omega) (by omega)]; rfl, hlt, rfl, ?_⟩
      rw [hs, wrap_id (by omega) (by omega), if_neg (by simpa using h1)]
    · refine ⟨late.length - (j + 1), by omega, rfl, j + 1, by rw [wrap_id (by omega) (by omega)]; rfl, hlt, rfl, ?_⟩
      rw [hs, if_pos (by simpa using h1), Int.add_zero]
  · have : j = late.length := by simp at hge; omega
    subst this
    exact ⟨by rw [List.take_length], rfl⟩
theorem Late_nil (w : World) : Calls Try.prog i_health_Watch_Late #[.pointer none] w (Ret fun v w' => v = .int .i64 0 ∧ w' = w) := by
  refine health_Watch_Late.calls_nil ?_
  unfold health_Watch_Late.vc_nil
  exact ⟨rfl, rfl⟩
theorem Over_spec (h : WatchR w b good bad window limit late F) :
    Calls Try.prog i_health_Watch_Over #[.pointer (some ⟨b, 0, none⟩)] w (Ret fun v w' => v = .bool (decide (bads late ≥ limit)) ∧ Ch Non w w') := by
  refine health_Watch_Over.calls _ ?_
  unfold health_Watch_Over.vc
  refine ⟨fun w3 => Ch Non w w3, fun w1 e1 => ⟨Ch.drew e1, limit, fun w3 h3 => ?_, ?_⟩⟩
  · obtain ⟨o, n, c, hb, hF, ho⟩ := h
    exact (hb.keepN h3).cell 3 rfl
  · refine step_call (Late_spec (h.keepN (Ch.drew e1))) ?_
    rintro v w4 ⟨rfl, rfl⟩
    exact ⟨_, rfl, Ch.drew e1, rfl, Ch.drew e1⟩
theorem Over_nil (w : World) : Calls Try.prog i_health_Watch_Over #[.pointer none] w (Ret fun v w' => v = .bool false ∧ Ch Non w w') := by
  refine health_Watch_Over.calls_nil ?_
  unfold health_Watch_Over.vc_nil
  exact ⟨fun _ => True, fun w1 e1 => ⟨trivial, rfl, Ch.drew e1⟩⟩
theorem New_ok (w : World) {window limit : Int} (h1 : 1 ≤ window) (h2 : window ≤ 100) (h3 : 1 ≤ limit) (h4 : limit ≤ window) :
    Calls Try.prog i_health_New #[.int .i64 window, .int .i64 limit] w (Ret fun v w' => v = .tuple #[.pointer (some ⟨w.heap.size, 0, none⟩), .int .i64 0] ∧ WatchR w' w.heap.size 0 0 window limit [] (New w w') ∧ Ch Non w w') := by
  refine health_New.calls _ _ ?_
  unfold health_New.vc
  refine iteF (decide_eq_false (by omega)) (iteF (decide_eq_false (by omega)) (iteF (decide_eq_false (by omega)) (iteF (decide_eq_false (by omega)) fun w1 e1 => ?_)))
  have hb := Blk.new e1
  exact ⟨rfl, ⟨none, 0, 0, hb, ⟨Nat.le_refl _, hb.lt⟩, Own.nil _ _ _ _⟩, Ch.alloc e1⟩
theorem New_bad (w : World) {window limit : Int} (h : window < 1 ∨ window > 100 ∨ limit < 1 ∨ limit > window) :
    Calls Try.prog i_health_New #[.int .i64 window, .int .i64 limit] w (Ret fun v w' => v = .tuple #[.pointer none, .int .i64 1] ∧ w' = w) := by
  refine health_New.calls _ _ ?_
  unfold health_New.vc
  refine ⟨fun _ => ⟨rfl, rfl⟩, fun a1 => ⟨fun _ => ⟨rfl, rfl⟩, fun a2 => ⟨fun _ => ⟨rfl, rfl⟩, fun a3 => ⟨fun _ => ⟨rfl, rfl⟩, fun a4 => ?_⟩⟩⟩⟩
  simp only [decide_eq_false_iff_not] at a1 a2 a3 a4
  exact absurd h (by omega)
/-- One more; the eldest falls out of a full window. -/
def pushL (window : Int) (late : List Bool) (g : Bool) : List Bool := if window < (late ++ [g]).length then (late ++ [g]).drop 1 else late ++ [g]
theorem one_spec (h : WatchR w b good bad window limit late F) (g : Bool) (hg : 0 ≤ good ∧ good ≤ 1000000000) (hb : 0 ≤ bad ∧ bad ≤ 1000000000) (hw : late.length ≤ 1000) :
    Calls Try.prog i_health_Watch_one #[.pointer (some ⟨b, 0, none⟩), .bool g] w (Ret fun v w' => v = .tuple #[] ∧
      WatchR w' b (good + if g then 1 else 0) (bad + if g then 0 else 1) window limit (pushL window late g) (Ext F w w') ∧ Ch F w w') := by
  obtain ⟨o, n, c, hb0, hF, ho⟩ := h
  obtain rfl : n = late.length := by have := ho.len; simpa using this.symm
  refine health_Watch_one.calls _ _ ?_
  unfold health_Watch_one.vc
  -- what follows the counting
  have rest : ∀ (w1 : World) (g1 b1 : Int), Blk w1 b [.int .i64 g1, .int .i64 b1, .int .i64 window, .int .i64 limit, .slice o late.length c] t_health_Watch → Own w1 t_bool 1 o late.length c (late.map .bool) (fun i => F i ∧ i ≠ b) → Ch F w w1 →
      ∃ (x27A : Option Addr), ∃ (x27N : Nat), ∃ (x27C : Nat), w1.cell? (⟨b, 4, none⟩ : Addr) = some (.slice x27A x27N x27C) ∧
      ∀ w2 : World, w2 = w1.alloc (.cells #[(.bool g)] 4 (0, 0)) →
      ∃ (x30A : Option Addr), ∃ (x30N : Nat), ∃ (x30C : Nat), ∃ w3 : World, (Builtin.append_ #[t_S_bool, t_S_bool] t_S_bool #[(.slice x27A x27N x27C), (.slice (some (⟨w1.heap.size, 0, none⟩ : Addr)) 1 1)]).run Try.prog w2 = .ok (.slice x30A x30N x30C) w3 ∧
      (((∃ u, w3.cell? (⟨b, 4, none⟩ : Addr) = some u) ∧ w3.frozen? (⟨b, 4, none⟩ : Addr) = false)) ∧ ∀ w4 : World, w4 = (w3.setCell (⟨b, 4, none⟩ : Addr) (.slice x30A x30N x30C)) →
      ∃ vS : World → Prop, ∀ w5 : World, w5 = w4.drew → vS w5 ∧
      ∃ (x36A : Option Addr), ∃ (x36N : Nat), ∃ (x36C : Nat), (∀ w6, vS w6 → w6.cell? (⟨b, 4, none⟩ : Addr) = some (.slice x36A x36N x36C)) ∧
      ∃ (x41 : Int), (∀ w7, vS w7 → w7.cell? (⟨b, 2, none⟩ : Addr) = some (.int .i64 x41)) ∧
      (decide (((x36N : Nat) : Int) > x41) = true →
      ∃ (x47A : Option Addr), ∃ (x47N : Nat), ∃ (x47C : Nat), w5.cell? (⟨b, 4, none⟩ : Addr) = some (.slice x47A x47N x47C) ∧
      (0 ≤ (1 : Int) ∧ (1 : Int) ≤ ((x47N : Nat) : Int)) ∧
      (((∃ u, w5.cell? (⟨b, 4, none⟩ : Addr) = some u) ∧ w5.frozen? (⟨b, 4, none⟩ : Addr) = false)) ∧ ∀ w8 : World, w8 = (w5.setCell (⟨b, 4, none⟩ : Addr) (.slice (if x47C = (1 : Int).toNat then x47A else x47A.map (·.add ((1 : Int).toNat * 1))) (x47N - (1 : Int).toNat) (x47C - (1 : Int).toNat))) →
      (Value.tuple #[] = .tuple #[] ∧ WatchR w8 b g1 b1 window limit (pushL window late g) (Ext F w w8) ∧ Ch F w w8)) ∧
      (decide (((x36N : Nat) : Int) > x41) = false →
      (Value.tuple #[] = .tuple #[] ∧ WatchR w5 b g1 b1 window limit (pushL window late g) (Ext F w w5) ∧ Ch F w w5)) := by
    intro w1 g1 b1 hb1 ho1 hc1
    refine ⟨o, late.length, c, hb1.cell 4 rfl, fun w2 e2 => ?_⟩
    obtain ⟨o', c', w3, hr, ho3, hc3⟩ := Own.push el_S_bool ho1 t_S_bool e2 rfl rfl (by unfold maxLen; omega) (by omega)
    have hb3 := hb1.keep hc3 (fun h => h.2 rfl)
    refine ⟨o', late.length + 1, c', w3, hr, hb3.ok 4 rfl, fun w4 e4 => ?_⟩
    have hb4 : Blk w4 b [.int .i64 g1, .int .i64 b1, .int .i64 window, .int .i64 limit, .slice o' (late.length + 1) c'] t_health_Watch := hb3.set e4
    have hc4 : Ch F w w4 := ((hc1.trans hc3 (fun _ _ h => h.1)).same (Ch.set e4 hF))
    have hcl : late.map Value.bool ++ [.bool g] = (late ++ [g]).map .bool := by simp
    have ho4 : Own w4 t_bool 1 o' (late.length + 1) c' ((late ++ [g]).map .bool) (fun i => Ext F w w4 i ∧ i ≠ b) := by
      rw [← hcl]
      refine (ho3.mono (G := fun i => Ext F w w3 i ∧ i ≠ b) (fun i hi hE => ?_)).keep (G := (· = b)) (Ch.set e4 rfl) (fun i _ h => h.2) |>.mono (fun i hi h => ⟨?_, h.2⟩)
      · rcases hE with hE | hE
        · exact ⟨.inl hE.1, hE.2⟩
        · exact ⟨.inr ⟨Nat.le_trans hc1.size hE.1, hE.2⟩, fun h => by have := hb1.lt; omega⟩
      · rcases h.1 with h | h
        · exact .inl h
        · exact .inr ⟨h.1, hi⟩
    refine ⟨fun w6 => Ch Non w4 w6, fun w5 e5 => ⟨Ch.drew e5, o', late.length + 1, c', fun w6 h6 => (hb4.keepN h6).cell 4 rfl, window, fun w7 h7 => (hb4.keepN h7).cell 2 rfl, fun hgt => ?_, fun hle => ?_⟩⟩
    · have hb5 := hb4.drew e5
      refine ⟨o', late.length + 1, c', hb5.cell 4 rfl, ⟨by omega, by omega⟩, hb5.ok 4 rfl, fun w8 e8 => ⟨rfl, ?_, (hc4.andN (Ch.drew e5)).same (Ch.set e8 hF)⟩⟩
      have ho5 := (ho4.keepN (Ch.drew e5)).slice (lo := 1) (hi := late.length + 1) (by omega) (Nat.le_refl _)
      refine ⟨_, _, _, hb5.set e8, .inl hF, ?_⟩
      have ho8 := ho5.keep (G := (· = b)) (Ch.set e8 rfl) (fun i _ h => h.2)
      have hp : pushL window late g = (late ++ [g]).drop 1 := by
        unfold pushL; rw [if_pos (by simp; simpa using hgt)]
      rw [hp]
      have hlist : (List.drop (1 * 1) ((late ++ [g]).map Value.bool)).take ((late.length + 1 - 1) * 1) = ((late ++ [g]).drop 1).map Value.bool := by
        rw [List.take_of_length_le (by simp), List.map_drop]
      rw [hlist] at ho8
      refine ho8.mono (fun i hi h => ⟨?_, h.2⟩)
      rcases h.1 with h | h
      · exact .inl h
      · exact .inr ⟨h.1, hi⟩
    · refine ⟨rfl, ⟨o', late.length + 1, c', hb4.drew e5, .inl hF, ?_⟩, hc4.andN (Ch.drew e5)⟩
      have hp : pushL window late g = late ++ [g] := by
        unfold pushL; rw [if_neg (by simp; simpa using hle)]
      rw [hp]
      refine (ho4.keepN (Ch.drew e5)).mono (fun i hi h => ⟨?_, h.2⟩)
      rcases h.1 with h | h
      · exact .inl h
      · exact .inr ⟨h.1, hi⟩
  cases g
  · refine ⟨fun h => (by cases h), fun _ => ?_⟩
    refine ⟨bad, hb0.cell 1 rfl, hb0.ok 1 rfl, fun w1 e1 => ?_⟩
    have := rest w1 good (bad + 1) (by rw [wrap_id (by omega) (by omega)] at e1; exact hb0.set e1) (ho.keep (G := (· = b)) (Ch.set e1 rfl) (fun i _ h => h.2)) (Ch.set e1 hF)
    simpa using this
  · refine ⟨fun _ => ?_, fun h => (by cases h)⟩
    refine ⟨good, hb0.cell 0 rfl, hb0.ok 0 rfl, fun w1 e1 => ?_⟩
    have := rest w1 (good + 1) bad (by rw [wrap_id (by omega) (by omega)] at e1; exact hb0.set e1) (ho.keep (G := (· = b)) (Ch.set e1 rfl) (fun i _ h => h.2)) (Ch.set e1 hF)
    simpa using this
end
end Go.Proofs.Ytddgcdlljkooiaa.Health
