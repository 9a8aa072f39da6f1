/- For every set in memory, and all bytes: what layer 8's Same answers, what no set answers, and what the document's functions answer; the conditions stand in each theorem. -/
import Derived.Test.YtefidalhijpmdaaBits3
set_option linter.unusedVariables false
namespace Go.Proofs.Ytefidalhijpmdaa.Bits
open Go Go.Proofs Go.Proofs.Ytefidalhijpmdaa.V Go.Proofs.Ytefidalhijpmdaa.Vc Go.RowKit

section
variable {w w' w1 : World} {a b : Nat} {l m : List Bool} {F G : Nat → Prop} {o : Option Addr} {c : Nat} {xs : List Int}
theorem Same_spec (ha : SetR w a l F) (hb : SetR w b m G) : Calls Try.prog i_bits_Same #[.pointer (some ⟨a, 0, none⟩), .pointer (some ⟨b, 0, none⟩)] w (Ret fun v w' => v = .bool (decide (l = m)) ∧ Ch Non w w') := by
  obtain ⟨ga, a1, a2, a3, a4, a5, a6, a7⟩ := ha
  obtain ⟨gb, b1, b2, b3, b4, b5, b6, b7⟩ := hb
  refine bits_Same.calls _ _ ?_
  unfold bits_Same.vc
  refine ⟨fun w' => Ch Non w w', fun w1 e1 => ⟨Ch.drew e1, _, _, _, fun w2 h2 => (a1.keepN h2).cell 0 rfl, _, _, _, fun w2 h2 => (b1.keepN h2).cell 0 rfl, ?_⟩⟩
  have hc1 : Ch Non w w1 := Ch.drew e1
  have hq : Calls Try.prog i_slices_Equal #[.slice (some ⟨ga, 0, none⟩) l.length l.length, .slice (some ⟨gb, 0, none⟩) m.length m.length] w1 (Ret fun v w' => v = .bool (decide (l = m)) ∧ Ch Non w1 w') := by
    refine slices_Equal.calls _ _ _ _ _ _ ?_
    unfold slices_Equal.vc
    refine ⟨fun h => ?_, fun h => ?_⟩
    · have h : l.length ≠ m.length := by simp at h; omega
      exact ⟨by rw [decide_eq_false (fun e => h (by rw [e]))], Ch.refl _ _⟩
    have h : l.length = m.length := by simp at h; omega
    refine ⟨fun i k w' => ∃ j : Nat, i = j ∧ j ≤ l.length ∧ k = l.length - j ∧ l.take j = m.take j ∧ Ch Non w1 w', ⟨_, 0, rfl, Nat.zero_le _, rfl, rfl, Ch.refl _ _⟩, ?_⟩
    rintro jk i k w2 ⟨j, rfl, hj, rfl, he, hc⟩
    refine ⟨fun hlt => ?_, fun hge => ?_⟩
    · have hlt : j < l.length := by simpa using hlt
      have hlt2 : j < m.length := by omega
      have cl : ∀ w', Ch Non w1 w' → w'.cell? ((⟨ga, 0, none⟩ : Addr).add ((j : Int).toNat * 1)) = some (.bool l[j]) := fun w' h' => by
        rw [add_at]; exact (a2.keepN (hc1.andN h')).cell _ (by rw [List.getElem?_map, show 0 + (j : Int).toNat * 1 = j by simp, List.getElem?_eq_getElem hlt]; rfl)
      have cm : ∀ w', Ch Non w1 w' → w'.cell? ((⟨gb, 0, none⟩ : Addr).add ((j : Int).toNat * 1)) = some (.bool m[j]) := fun w' h' => by
        rw [add_at]; exact (b2.keepN (hc1.andN h')).cell _ (by rw [List.getElem?_map, show 0 + (j : Int).toNat * 1 = j by simp, List.getElem?_eq_getElem hlt2]; rfl)
      refine ⟨fun w' => Ch Non w1 w', fun w3 e3 => ⟨hc.andN (Ch.drew e3), ⟨by omega, by omega⟩, l[j], cl, ⟨by omega, by omega⟩, m[j], cm, fun hne => ?_, fun heq => ?_⟩⟩
      · refine ⟨?_, hc.andN (Ch.drew e3)⟩
        rw [decide_eq_false]
        intro e
        subst e
        simp at hne
      · have heq : l[j] = m[j] := by simpa using heq
        refine ⟨l.length - (j + 1), by omega, j + 1, by rw [wrap_id (by omega) (by omega)]; rfl, hlt, rfl, ?_, hc.andN (Ch.drew e3)⟩
        rw [take_snoc l j hlt, take_snoc m j hlt2, he, heq]
    · have : j = l.length := by simp at hge; omega
      subst this
      rw [List.take_length, h, List.take_length] at he
      exact ⟨by rw [decide_eq_true he], hc⟩
  refine step_call hq ?_
  rintro v w2 ⟨rfl, hc2⟩
  exact ⟨_, rfl, hc1.andN hc2, rfl, hc1.andN hc2⟩
theorem Same_nn (w : World) : Calls Try.prog i_bits_Same #[.pointer none, .pointer none] w (Ret fun v w' => v = .bool true ∧ w' = w) := by
  refine bits_Same.calls_nn ?_
  unfold bits_Same.vc_nn
  exact ⟨rfl, rfl⟩
theorem Same_xn (w : World) (a : Nat) : Calls Try.prog i_bits_Same #[.pointer (some ⟨a, 0, none⟩), .pointer none] w (Ret fun v w' => v = .bool false ∧ w' = w) := by
  refine bits_Same.calls_xn _ ?_
  unfold bits_Same.vc_xn
  exact ⟨rfl, rfl⟩
theorem put_nil (w : World) (is : Bool) (o : Option Addr) (n c : Nat) : Calls Try.prog i_bits_Set_put #[.pointer none, .bool is, .slice o n c] w (Ret fun v w' => v = .int .i64 2 ∧ Ch Non w w') := by
  refine bits_Set_put.calls_nil _ _ _ _ ?_
  unfold bits_Set_put.vc_nil
  intro w1 e1
  exact ⟨none, (Blk.new e1).cell 0 rfl, iteT rfl ⟨rfl, Ch.alloc e1⟩⟩
theorem Add_nil (w : World) (o : Option Addr) (n c : Nat) : Calls Try.prog i_bits_Set_Add #[.pointer none, .slice o n c] w (Ret fun v w' => v = .int .i64 2 ∧ Ch Non w w') := by
  refine bits_Set_Add.calls_nil _ _ _ ?_
  unfold bits_Set_Add.vc_nil
  refine step_call (put_nil w true o n c) ?_
  rintro v w1 ⟨rfl, h⟩
  exact ⟨_, rfl, rfl, h⟩
theorem Drop_nil (w : World) (o : Option Addr) (n c : Nat) : Calls Try.prog i_bits_Set_Drop #[.pointer none, .slice o n c] w (Ret fun v w' => v = .int .i64 2 ∧ Ch Non w w') := by
  refine bits_Set_Drop.calls_nil _ _ _ ?_
  unfold bits_Set_Drop.vc_nil
  refine step_call (put_nil w false o n c) ?_
  rintro v w1 ⟨rfl, h⟩
  exact ⟨_, rfl, rfl, h⟩
theorem Has_nil (w : World) (o : Option Addr) (n c : Nat) : Calls Try.prog i_bits_Set_Has #[.pointer none, .slice o n c] w (Ret fun v w' => v = .bool false ∧ Ch Non w w') := by
  refine bits_Set_Has.calls_nil _ _ _ ?_
  unfold bits_Set_Has.vc_nil
  intro w1 e1
  exact ⟨none, (Blk.new e1).cell 0 rfl, iteT rfl ⟨rfl, Ch.alloc e1⟩⟩
theorem Row_nil (w : World) : Calls Try.prog i_bits_Set_Row #[.pointer none] w (Ret fun v w' => v = .slice none 0 0 ∧ w' = w) := by
  refine bits_Set_Row.calls_nil ?_
  unfold bits_Set_Row.vc_nil
  exact ⟨rfl, rfl⟩
theorem Count_nil (w : World) : Calls Try.prog i_bits_Set_Count #[.pointer none] w (Ret fun v w' => v = .int .i64 0 ∧ w' = w) := by
  refine bits_Set_Count.calls_nil ?_
  unfold bits_Set_Count.vc_nil
  refine step_call (Row_nil w) ?_
  rintro v w1 ⟨rfl, rfl⟩
  exact ⟨_, _, _, rfl, rfl, rfl⟩
theorem Len_nil (w : World) : Calls Try.prog i_bits_Set_Len #[.pointer none] w (Ret fun v w' => v = .int .i64 0 ∧ w' = w) := by
  refine bits_Set_Len.calls_nil ?_
  unfold bits_Set_Len.vc_nil
  exact ⟨rfl, rfl⟩
theorem First_nil (w : World) : Calls Try.prog i_bits_Set_First #[.pointer none] w (Ret fun v w' => v = .int .i64 (-1) ∧ w' = w) := by
  refine bits_Set_First.calls_nil ?_
  unfold bits_Set_First.vc_nil
  exact ⟨rfl, rfl⟩
theorem Text_nil (w : World) : Calls Try.prog i_bits_Set_Text #[.pointer none] w (Ret fun v w' => v = .string ⟨#[]⟩ ∧ Ch Non w w') := by
  refine bits_Set_Text.calls_nil ?_
  unfold bits_Set_Text.vc_nil
  refine step_call (Len_nil w) ?_
  rintro v w1 ⟨rfl, rfl⟩
  refine ⟨_, rfl, by decide, ⟨rfl, by decide, by decide⟩, fun w2 e2 => ?_⟩
  refine step_call (Row_nil w2) ?_
  rintro v w3 ⟨rfl, rfl⟩
  refine ⟨_, _, _, rfl, fun i k w' => w' = w3 ∧ i = 0, ⟨0, rfl, rfl⟩, ?_⟩
  rintro jk i k w' ⟨rfl, rfl⟩
  refine ⟨fun h => by simp at h, fun _ => ?_⟩
  have hout := conv_out (P := Try.prog) (src := t_S_uint8) (dst := t_string) (e := t_uint8) (w := w') (o := some ⟨w1.heap.size, 0, none⟩) (c := 0) (bs := []) (F := Non) (Rd.nil _ _ _) (by kernel_rfl) (by kernel_rfl) (by kernel_rfl)
  exact ⟨_, _, hout, rfl, Ch.alloc e2⟩
theorem In_spec (hr : Rd w o (xs.map (.int .i64)) G) (hx : xs.length ≤ 1000000) (n : Nat) : Calls Try.prog i_coadjutorref08_In #[.slice o xs.length c, .int .i64 n] w (Ret fun v w' => v = .bool (inAll n xs) ∧ w' = w) := by
  refine coadjutorref08_In.calls _ _ _ _ ?_
  unfold coadjutorref08_In.vc
  refine ⟨fun i k w' => w' = w ∧ ∃ j : Nat, i = j ∧ j ≤ xs.length ∧ k = xs.length - j ∧ inAll n (xs.take j) = true, ⟨_, rfl, 0, rfl, Nat.zero_le _, rfl, rfl⟩, ?_⟩
  rintro jk i k w' ⟨rfl, j, rfl, hj, rfl, hall⟩
  refine ⟨fun hlt => ?_, fun hge => ?_⟩
  · have hlt : j < xs.length := by simpa using hlt
    have rd : ∀ {K : Addr → Prop}, (∀ p : Addr, w'.cell? (p.add ((j : Int).toNat * 1)) = some (.int .i64 xs[j]) → K p) → someV o K := fun hk =>
      hr.at (j := (j : Int).toNat * 1) (v := .int .i64 xs[j]) (by simp [hlt]) hk
    have bad : (decide (0 ≤ xs[j]) && decide (xs[j] < n)) = false → inAll n xs = false := fun h => by
      unfold inAll; rw [List.all_eq_false]; exact ⟨xs[j], List.getElem_mem _, by rw [h]; simp⟩
    refine ⟨⟨by omega, by omega⟩, rd fun p hp => ⟨_, hp, fun h1 => ⟨?_, rfl⟩, fun h1 => ⟨⟨by omega, by omega⟩, rd fun p2 hp2 => ⟨_, hp2, fun h2 => ⟨?_, rfl⟩, fun h2 => ⟨xs.length - (j + 1), by omega, rfl, j + 1, by rw [wrap_id (by omega) (by omega)]; rfl, hlt, rfl, ?_⟩⟩⟩⟩⟩
    · have h1 : xs[j] < 0 := by simpa using h1
      rw [bad (by rw [decide_eq_false (by omega)]; rfl)]
    · have h2 : (n : Int) ≤ xs[j] := by simpa using h2
      rw [bad (by rw [decide_eq_false (show ¬ xs[j] < (n : Int) by omega), Bool.and_false])]
    · have h1 : 0 ≤ xs[j] := by simpa using h1
      have h2 : xs[j] < n := by simpa using h2
      unfold inAll at hall ⊢
      rw [take_snoc xs j hlt, List.all_append, hall]
      simp; omega
  · have : j = xs.length := by simp at hge; omega
    subst this
    rw [List.take_length] at hall
    exact ⟨by rw [hall], rfl⟩
theorem rText_spec (hr : Rd w o (l.map .bool) G) (hl : l.length ≤ 1000000) : Calls Try.prog i_coadjutorref08_Text #[.slice o l.length c] w (Ret fun v w' => v = .string ⟨(textOf l).toArray⟩ ∧ Ch Non w w') := by
  refine coadjutorref08_Text.calls _ _ _ ?_
  unfold coadjutorref08_Text.vc
  have hm : (IntKind.i64.wrap (Int.tdiv (IntKind.i64.wrap ((l.length : Int) + 7)) 8)) = (((l.length + 7) / 8 : Nat) : Int) := by
    rw [wrap_id (x := (l.length : Int) + 7) (by omega) (by omega), tdiv8 (by omega), wrap_id (by omega) (by omega)]
    omega
  rw [hm]
  generalize hM : (l.length + 7) / 8 = m
  refine ⟨by decide, ⟨rfl, by omega, by omega⟩, fun w2 e2 => ?_⟩
  rw [zeroRow_one, Int.toNat_natCast] at e2
  have hb2 := Blk.new e2
  have hc2 : Ch Non w w2 := Ch.alloc e2
  have hnew : ∀ {w'}, Ch (· = w.heap.size) w2 w' → Ch Non w w' := fun h => hc2.trans h (fun i hi he => by omega)
  refine ⟨fun i k w' => ∃ j : Nat, i = j ∧ j ≤ l.length ∧ k = l.length - j ∧ Blk w' w.heap.size ((textL (fun k => decide (k < j) && l.getD k false) m).map u8v) t_uint8 ∧ Ch (· = w.heap.size) w2 w', ⟨_, 0, rfl, Nat.zero_le _, rfl, ?_, Ch.refl _ _⟩, ?_⟩
  · have hz : (fun k : Nat => decide (k < 0) && l.getD k false) = fun _ => false := by funext k; simp
    rw [hz, textL_zero]; simpa using hb2
  rintro jk i k w4 ⟨j, rfl, hj, rfl, hb4, hc4⟩
  have fin := hnew hc4
  have hwr : j < l.length → IntKind.i64.wrap ((j : Int) + 1) = ((j + 1 : Nat) : Int) := fun h => by rw [wrap_id (by omega) (by omega)]; rfl
  refine ⟨fun hlt => ?_, fun hge => ?_⟩
  · have hlt : j < l.length := by simpa using hlt
    refine ⟨⟨by omega, by omega⟩, (hr.keepN fin).at (j := (j : Int).toNat * 1) (v := .bool l[j]) (by simp [hlt]) fun p hp => ⟨_, hp, fun ht => ?_, fun hf => ?_⟩⟩
    · have hnot : (fun k : Nat => decide (k < j) && l.getD k false) j = false := by simp
      have hins : (fun k : Nat => decide (k < j + 1) && l.getD k false) = ins (fun k : Nat => decide (k < j) && l.getD k false) j := by
        funext k
        unfold ins
        by_cases hk : k = j
        · subst hk; rw [getD_at hlt, ht]; simp
        · have : (k == j) = false := by simpa using hk
          rw [this, Bool.or_false]
          congr 1
          exact decide_eq_decide.2 (by omega)
      have hr8 : j / 8 < m := by omega
      have e8 : IntKind.i64.wrap (Int.tdiv (j : Int) 8) = ((j / 8 : Nat) : Int) := by rw [tdiv8 (by omega), wrap_id (by omega) (by omega)]; rfl
      have e9 : Int.tmod (j : Int) 8 = ((j % 8 : Nat) : Int) := by rw [tmod_pos (by omega)]; rfl
      rw [e8, e9]
      have hmin : min ((j % 8 : Nat) : Int).toNat IntKind.u8.bits = j % 8 := by show min ((j % 8 : Nat) : Int).toNat 8 = j % 8; rw [Int.toNat_natCast]; omega
      rw [hmin]
      have hidx : 0 + ((j / 8 : Nat) : Int).toNat * 1 = j / 8 := by omega
      rw [add_at, hidx]
      have hold := byteN_free (S := fun k : Nat => decide (k < j) && l.getD k false) hnot
      have hcell := textL_at (fun k : Nat => decide (k < j) && l.getD k false) hr8
      refine ⟨fun _ => True, fun w5 e5 => ⟨trivial, by decide, by decide, ⟨by omega, by omega⟩, by decide, by omega, _, (hb4.drew e5).cell (j / 8) hcell, trivial, ⟨by omega, by omega⟩, (hb4.drew e5).ok (j / 8) hcell, fun w6 e6 => ⟨trivial, l.length - (j + 1), by omega, j + 1, hwr hlt, hlt, rfl, ?_, (hc4.same (Ch.drew e5)).same (Ch.set e6 rfl)⟩⟩⟩
      have hb6 := (hb4.drew e5).set e6
      rw [add_bit (byteN_lt _ _) (by omega) hold, textL_ins (S := fun k : Nat => decide (k < j) && l.getD k false) hnot hr8, ← hins] at hb6
      exact hb6
    · have hf : l[j] = false := hf
      refine ⟨l.length - (j + 1), by omega, j + 1, hwr hlt, hlt, rfl, ?_, hc4⟩
      have : (fun k : Nat => decide (k < j + 1) && l.getD k false) = fun k : Nat => decide (k < j) && l.getD k false := by
        funext k
        by_cases hk : k = j
        · subst hk; rw [getD_at hlt, hf]; simp
        · congr 1
          exact decide_eq_decide.2 (by omega)
      rw [this]; exact hb4
  · have : j = l.length := by simp at hge; omega
    subst this
    have hS : (fun k : Nat => decide (k < l.length) && l.getD k false) = fun k => l.getD k false := by
      funext k
      by_cases h : k < l.length
      · rw [decide_eq_true h]; rfl
      · rw [decide_eq_false h, List.getD_eq_getElem?_getD, List.getElem?_eq_none (by omega)]; rfl
    rw [hS] at hb4
    have hrd : Rd w4 (some ⟨w.heap.size, 0, none⟩) ((textL (fun k => l.getD k false) m).map u8v) (· = w.heap.size) := fun j v hj => ⟨_, rfl, rfl, hb4.lt, by rw [add_at, Nat.zero_add]; exact hb4.cell j hj⟩
    have hout := conv_out (P := Try.prog) (src := t_S_uint8) (dst := t_string) (e := t_uint8) (c := m) hrd (by kernel_rfl) (by kernel_rfl) (by kernel_rfl)
    rw [textL_len] at hout
    rw [Int.toNat_natCast]
    exact ⟨_, _, hout, by unfold textOf; rw [hM], fin⟩
end
end Go.Proofs.Ytefidalhijpmdaa.Bits
