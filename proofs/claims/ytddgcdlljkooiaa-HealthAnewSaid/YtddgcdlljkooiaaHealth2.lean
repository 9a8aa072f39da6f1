/- For every watch in memory and every row of bools: what Note, Reset and the document's own answers come to; the conditions stand in each theorem. -/
import Derived.Test.YtddgcdlljkooiaaHealth
set_option linter.unusedVariables false
namespace Go.Proofs.Ytddgcdlljkooiaa.Health
open Go Go.Proofs Go.Proofs.Ytddgcdlljkooiaa.V Go.Proofs.Ytddgcdlljkooiaa.Vc Go.RowKit

theorem pushL_length (window : Int) (l : List Bool) (g : Bool) : (pushL window l g).length ≤ l.length + 1 := by
  unfold pushL; split <;> simp
theorem pushL_le (window : Int) (l : List Bool) (g : Bool) (h : (l.length : Int) ≤ window) : ((pushL window l g).length : Int) ≤ window := by
  unfold pushL; split <;> simp at * <;> omega
/-- Many, one behind the other. -/
def pushes (window : Int) (l : List Bool) (xs : List Bool) : List Bool := xs.foldl (pushL window) l
/-- Whether it was over behind one of them. -/
def overs (window limit : Int) (l : List Bool) : List Bool → Bool
  | [] => false
  | g :: r => decide (bads (pushL window l g) ≥ limit) || overs window limit (pushL window l g) r
theorem pushes_snoc (window : Int) (l xs : List Bool) (g : Bool) : pushes window l (xs ++ [g]) = pushL window (pushes window l xs) g := by
  unfold pushes; rw [List.foldl_append]; rfl
theorem overs_snoc (window limit : Int) (l xs : List Bool) (g : Bool) : overs window limit l (xs ++ [g]) = (overs window limit l xs || decide (bads (pushes window l (xs ++ [g])) ≥ limit)) := by
  induction xs generalizing l with
  | nil => simp [overs, pushes]
  | cons x r ih => rw [List.cons_append, overs, ih, overs, Bool.or_assoc]; rfl
theorem pushes_le (window : Int) (l xs : List Bool) (h : (l.length : Int) ≤ window) : ((pushes window l xs).length : Int) ≤ window := by
  induction xs generalizing l with
  | nil => exact h
  | cons x r ih => exact ih _ (pushL_le window l x h)
section
variable {w w' : World} {b : Nat} {good bad window limit : Int} {late : List Bool} {F G : Nat → Prop}
theorem Note_spec (h : WatchR w b good bad window limit late F) {o : Option Addr} {c : Nat} {xs : List Bool} (hr : Rd w o (xs.map .bool) G) (hd : ∀ i, G i → ¬ F i)
    (hx : xs.length ≤ 1000000) (hg : 0 ≤ good ∧ good + xs.length ≤ 1000000000) (hb : 0 ≤ bad ∧ bad + xs.length ≤ 1000000000) (hw : (late.length : Int) ≤ window ∧ window ≤ 1000) :
    Calls Try.prog i_health_Watch_Note #[.pointer (some ⟨b, 0, none⟩), .slice o xs.length c] w (Ret fun v w' => v = .tuple #[.bool (overs window limit late xs), .int .i64 0] ∧
      WatchR w' b (good + goods xs) (bad + bads xs) window limit (pushes window late xs) (Ext F w w') ∧ Ch F w w') := by
  refine health_Watch_Note.calls _ _ _ _ ?_
  unfold health_Watch_Note.vc
  refine ⟨fun over x k w2 => ∃ j : Nat, x = j ∧ j ≤ xs.length ∧ k = xs.length - j ∧ over = overs window limit late (xs.take j) ∧
    WatchR w2 b (good + goods (xs.take j)) (bad + bads (xs.take j)) window limit (pushes window late (xs.take j)) (Ext F w w2) ∧ Ch F w w2, ⟨_, 0, rfl, Nat.zero_le _, rfl, rfl, ?_, Ch.refl _ _⟩, ?_⟩
  · have h0 : WatchR w b good bad window limit late (Ext F w w) := h.mono (fun i _ hF => Or.inl hF)
    simpa [goods, bads, pushes] using h0
  rintro jk over x k w2 ⟨j, rfl, hj, rfl, rfl, hW, hc⟩
  refine ⟨fun hlt => ?_, fun hge => ?_⟩
  · have hlt : j < xs.length := by simpa using hlt
    have hl : (xs.take j).length = j := by simp; omega
    have g1 := goods_le (xs.take j)
    have b1 := bads_le (xs.take j)
    have hpl := pushes_le window late (xs.take j) hw.1
    have hr2 := hr.keep hc (fun i _ hi => hd i hi)
    refine ⟨⟨by omega, by omega⟩, hr2.at (j := (j : Int).toNat * 1) (v := .bool xs[j]) (by simp [hlt]) fun p hp => ⟨xs[j], hp, ?_⟩⟩
    refine step_call (one_spec hW xs[j] (by omega) (by omega) (by omega)) ?_
    rintro v w3 ⟨rfl, hW3, hc3⟩
    have hts := take_snoc xs j hlt
    have e1 : good + goods (xs.take (j + 1)) = good + goods (xs.take j) + (if xs[j] then 1 else 0) := by rw [hts, goods_snoc]; omega
    have e2 : bad + bads (xs.take (j + 1)) = bad + bads (xs.take j) + (if xs[j] then 0 else 1) := by rw [hts, bads_snoc]; omega
    have e3 : pushes window late (xs.take (j + 1)) = pushL window (pushes window late (xs.take j)) xs[j] := by rw [hts, pushes_snoc]
    have hc13 := hc.ext hc3
    have hW3' : WatchR w3 b (good + goods (xs.take (j + 1))) (bad + bads (xs.take (j + 1))) window limit (pushes window late (xs.take (j + 1))) (Ext F w w3) := by
      rw [e1, e2, e3]; exact hW3.mono (fun i _ hi => hi.ext hc.size hc3.size)
    have hwr : IntKind.i64.wrap ((j : Int) + 1) = ((j + 1 : Nat) : Int) := by rw [wrap_id (by omega) (by omega)]; rfl
    refine ⟨rfl, fun ho => ?_, fun ho => ?_⟩
    · refine ⟨xs.length - (j + 1), by omega, j + 1, hwr, hlt, rfl, ?_, hW3', hc13⟩
      rw [hts, overs_snoc, ho, Bool.true_or]
    · refine step_call (Over_spec hW3') ?_
      rintro v w4 ⟨rfl, hc4⟩
      refine ⟨_, rfl, xs.length - (j + 1), by omega, j + 1, hwr, hlt, rfl, ?_, (hW3'.keepN hc4).mono (fun i _ hi => ?_), hc13.andN hc4⟩
      · rw [hts, overs_snoc, ho, Bool.false_or]
      · rcases hi with hi | hi
        · exact .inl hi
        · exact .inr ⟨hi.1, Nat.lt_of_lt_of_le hi.2 hc4.size⟩
  · have : j = xs.length := by simp at hge; omega
    subst this
    rw [List.take_length] at *
    exact ⟨rfl, hW, hc⟩
theorem Note_nil (w : World) (o : Option Addr) (n c : Nat) : Calls Try.prog i_health_Watch_Note #[.pointer none, .slice o n c] w (Ret fun v w' => v = .tuple #[.bool false, .int .i64 2] ∧ w' = w) := by
  refine health_Watch_Note.calls_nil _ _ _ ?_
  unfold health_Watch_Note.vc_nil
  exact ⟨rfl, rfl⟩
theorem Reset_spec (h : WatchR w b good bad window limit late F) :
    Calls Try.prog i_health_Watch_Reset #[.pointer (some ⟨b, 0, none⟩)] w (Ret fun v w' => v = .tuple #[] ∧ WatchR w' b 0 0 window limit [] F ∧ Ch F w w') := by
  obtain ⟨o, n, c, hb, hF, ho⟩ := h
  refine health_Watch_Reset.calls _ ?_
  unfold health_Watch_Reset.vc
  refine ⟨⟨hb.ok 0 rfl, hb.ok 1 rfl⟩, fun w1 e1 => ?_⟩
  have h0 : Blk (w.setCell ⟨b, 0, none⟩ (.int .i64 0)) b _ _ := hb.set rfl
  have h1 := h0.set e1
  refine ⟨h1.ok 4 rfl, fun w2 e2 => ?_⟩
  exact ⟨rfl, ⟨none, 0, 0, h1.set e2, hF, Own.nil _ _ _ _⟩, ((Ch.set rfl hF).same (Ch.set e1 hF)).same (Ch.set e2 hF)⟩
theorem Reset_nil (w : World) : Calls Try.prog i_health_Watch_Reset #[.pointer none] w (Ret fun v w' => v = .tuple #[] ∧ w' = w) := by
  refine health_Watch_Reset.calls_nil ?_
  unfold health_Watch_Reset.vc_nil
  exact ⟨rfl, rfl⟩
theorem Total_spec (w : World) (good bad : Int) (hg : 0 ≤ good ∧ good ≤ 1000000000) (hb : 0 ≤ bad ∧ bad ≤ 1000000000) :
    Calls Try.prog i_health_Counts_Total #[.agg #[.int .i64 good, .int .i64 bad]] w (Ret fun v w' => v = .int .i64 (good + bad) ∧ Ch Non w w') := by
  refine health_Counts_Total.calls _ _ ?_
  unfold health_Counts_Total.vc
  intro w1 e1
  have h1 := Blk.new e1
  exact ⟨good, h1.cell 0 rfl, bad, h1.cell 1 rfl, by rw [wrap_id (by omega) (by omega)], Ch.alloc e1⟩
/-- The last so many. -/
def lastN (window : Int) (l : List Bool) : List Bool := l.drop (l.length - window.toNat)
theorem bads_drop_step (l : List Bool) (d j : Nat) (h : j < l.length) (hd : d ≤ j) : bads ((l.take (j + 1)).drop d) = bads ((l.take j).drop d) + (if l[j] then 0 else 1) := by
  rw [take_snoc l j h, List.drop_append_of_le_length (by simp; omega), bads_snoc]
theorem rLate_spec {o : Option Addr} {c : Nat} {xs : List Bool} (hr : Rd w o (xs.map .bool) G) (hx : xs.length ≤ 1000000) (hw : 1 ≤ window ∧ window ≤ 1000) :
    Calls Try.prog i_coadjutorref27_Late #[.slice o xs.length c, .int .i64 window] w (Ret fun v w' => v = .int .i64 (bads (lastN window xs)) ∧ w' = w) := by
  refine coadjutorref27_Late.calls _ _ _ _ ?_
  unfold coadjutorref27_Late.vc
  have hd : (if (0 : Int) > IntKind.i64.wrap ((xs.length : Int) - window) then (0 : Int) else IntKind.i64.wrap ((xs.length : Int) - window)) = ((xs.length - window.toNat : Nat) : Int) := by
    rw [wrap_id (by omega) (by omega)]; split <;> omega
  rw [hd]
  refine ⟨fun n x k w2 => w2 = w ∧ ∃ j : Nat, x = j ∧ j ≤ xs.length ∧ xs.length - window.toNat ≤ j ∧ k = xs.length - j ∧ n = bads ((xs.take j).drop (xs.length - window.toNat)), ⟨_, rfl, xs.length - window.toNat, rfl, by omega, Nat.le_refl _, rfl, ?_⟩, ?_⟩
  · rw [List.drop_of_length_le (by simp)]; rfl
  rintro jk n x k w2 ⟨rfl, j, rfl, hj, hj2, rfl, rfl⟩
  refine ⟨fun hlt => ?_, fun hge => ?_⟩
  · have hlt : j < xs.length := by simpa using hlt
    have hs := bads_drop_step xs _ j hlt hj2
    have hb1 := bads_le ((xs.take j).drop (xs.length - window.toNat))
    have hl : ((xs.take j).drop (xs.length - window.toNat)).length ≤ j := by simp; omega
    have hwr : IntKind.i64.wrap ((j : Int) + 1) = ((j + 1 : Nat) : Int) := by rw [wrap_id (by omega) (by omega)]; rfl
    refine ⟨⟨by omega, by omega⟩, hr.at (j := (j : Int).toNat * 1) (v := .bool xs[j]) (by simp [hlt]) fun p hp => ⟨xs[j], hp, fun h1 => ?_, fun h1 => ?_⟩⟩
    · refine ⟨xs.length - (j + 1), by omega, rfl, j + 1, hwr, hlt, by omega, rfl, ?_⟩
      rw [hs, wrap_id (by omega) (by omega), if_neg (by simpa using h1)]
    · refine ⟨xs.length - (j + 1), by omega, rfl, j + 1, hwr, hlt, by omega, rfl, ?_⟩
      rw [hs, if_pos (by simpa using h1), Int.add_zero]
  · have : j = xs.length := by simp at hge; omega
    subst this
    exact ⟨by rw [List.take_length]; rfl, rfl⟩
/-- How many are so. -/
def many (is : Bool) (l : List Bool) : Int := if is then goods l else bads l
theorem rCount_spec {o : Option Addr} {c : Nat} {xs : List Bool} (hr : Rd w o (xs.map .bool) G) (hx : xs.length ≤ 1000000) (is : Bool) :
    Calls Try.prog i_coadjutorref27_Count #[.slice o xs.length c, .bool is] w (Ret fun v w' => v = .int .i64 (many is xs) ∧ w' = w) := by
  refine coadjutorref27_Count.calls _ _ _ _ ?_
  unfold coadjutorref27_Count.vc
  refine ⟨fun n x k w2 => w2 = w ∧ ∃ j : Nat, x = j ∧ j ≤ xs.length ∧ k = xs.length - j ∧ n = many is (xs.take j), ⟨_, rfl, 0, rfl, Nat.zero_le _, rfl, by cases is <;> rfl⟩, ?_⟩
  rintro jk n x k w2 ⟨rfl, j, rfl, hj, rfl, rfl⟩
  refine ⟨fun hlt => ?_, fun hge => ?_⟩
  · have hlt : j < xs.length := by simpa using hlt
    have hs : many is (xs.take (j + 1)) = many is (xs.take j) + (if xs[j] = is then 1 else 0) := by
      unfold many; rw [take_snoc xs j hlt]
      cases is <;> cases hxj : xs[j] <;> simp [goods_snoc, bads_snoc]
    have hb1 : 0 ≤ many is (xs.take j) ∧ many is (xs.take j) ≤ j := by
      have h1 := bads_le (xs.take j)
      have h2 := goods_le (xs.take j)
      have hl : (xs.take j).length ≤ j := List.length_take_le _ _
      unfold many; cases is <;> simp <;> omega
    have hwr : IntKind.i64.wrap ((j : Int) + 1) = ((j + 1 : Nat) : Int) := by rw [wrap_id (by omega) (by omega)]; rfl
    refine ⟨⟨by omega, by omega⟩, hr.at (j := (j : Int).toNat * 1) (v := .bool xs[j]) (by simp [hlt]) fun p hp => ⟨xs[j], hp, fun h1 => ?_, fun h1 => ?_⟩⟩
    · refine ⟨xs.length - (j + 1), by omega, rfl, j + 1, hwr, hlt, rfl, ?_⟩
      rw [hs, wrap_id (by omega) (by omega), if_pos (by simpa using h1)]
    · refine ⟨xs.length - (j + 1), by omega, rfl, j + 1, hwr, hlt, rfl, ?_⟩
      rw [hs, if_neg (by simpa using h1), Int.add_zero]
  · have : j = xs.length := by simp at hge; omega
    subst this
    exact ⟨by rw [List.take_length], rfl⟩
/-- What is late, as the document has it. -/
theorem pushL_lastN {window : Int} (hw : 1 ≤ window) (l : List Bool) (g : Bool) : pushL window (lastN window l) g = lastN window (l ++ [g]) := by
  unfold pushL lastN
  have hlen : ((l.drop (l.length - window.toNat)) ++ [g]).length = min l.length window.toNat + 1 := by simp; omega
  by_cases hc : (l.length : Int) < window
  · rw [if_neg (by rw [hlen]; omega)]
    have h1 : l.length - window.toNat = 0 := by omega
    have h2 : (l ++ [g]).length - window.toNat = 0 := by simp; omega
    rw [h1, h2]; simp
  · rw [if_pos (by rw [hlen]; omega)]
    have h2 : (l ++ [g]).length - window.toNat = (l.length - window.toNat) + 1 := by simp; omega
    rw [h2, List.drop_append_of_le_length (by simp; omega), List.drop_drop, List.drop_append_of_le_length (by omega)]
theorem pushes_lastN {window : Int} (hw : 1 ≤ window) (xs l : List Bool) : pushes window (lastN window l) xs = lastN window (l ++ xs) := by
  induction xs generalizing l with
  | nil => simp [pushes]
  | cons x r ih =>
    show pushes window (pushL window (lastN window l) x) r = _
    rw [pushL_lastN hw, ih]; simp
theorem lastN_nil (window : Int) : lastN window [] = [] := by simp [lastN]
theorem lastN_le (window : Int) (l : List Bool) (hw : 0 ≤ window) : ((lastN window l).length : Int) ≤ window := by unfold lastN; simp; omega
theorem bads_goods (l : List Bool) : goods l + bads l = l.length := by
  induction l with
  | nil => rfl
  | cons x r ih => unfold goods bads at *; cases x <;> simp at * <;> omega
end
end Go.Proofs.Ytddgcdlljkooiaa.Health
