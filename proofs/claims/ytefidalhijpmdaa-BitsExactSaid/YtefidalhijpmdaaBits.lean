/- For every set in memory and every row of whole numbers: what layer 8's functions answer, and what they make of the set; the conditions stand in each theorem. -/
import Derived.Test.YtefidalhijpmdaaStr
import Derived.Test.YtefidalhijpmdaaArith
import Derived.Test.YtefidalhijpmdaaVcBits
set_option linter.unusedVariables false
namespace Go.Proofs.Ytefidalhijpmdaa.Bits
open Go Go.Proofs Go.Proofs.Ytefidalhijpmdaa.V Go.Proofs.Ytefidalhijpmdaa.Vc Go.RowKit

theorem zeroRow_one (v : Value) : ∀ n, zeroRow [v] n = List.replicate n v
  | 0 => rfl
  | n + 1 => by rw [zeroRow, zeroRow_one v n, List.replicate_succ]; rfl
theorem take_snoc {α : Type} (l : List α) (j : Nat) (h : j < l.length) : l.take (j + 1) = l.take j ++ [l[j]] := List.take_succ_eq_append_getElem h
/-- Whether all are of so many. -/
def inAll (n : Nat) (xs : List Int) : Bool := xs.all fun x => decide (0 ≤ x) && decide (x < n)
def putL (is : Bool) (l : List Bool) (xs : List Int) : List Bool := xs.foldl (fun l x => l.set x.toNat is) l
theorem putL_len (is : Bool) (l : List Bool) (xs : List Int) : (putL is l xs).length = l.length := by
  unfold putL
  induction xs generalizing l with
  | nil => rfl
  | cons x r ih => rw [List.foldl_cons, ih]; simp
theorem putL_snoc (is : Bool) (l : List Bool) (xs : List Int) (x : Int) : putL is l (xs ++ [x]) = (putL is l xs).set x.toNat is := by unfold putL; rw [List.foldl_append]; rfl
/-- Whether all of these are there. -/
def hasOne (l : List Bool) (x : Int) : Bool := decide (0 ≤ x) && decide (x < l.length) && l.getD x.toNat false
def hasL (l : List Bool) (xs : List Int) : Bool := xs.all (hasOne l)
/-- Those that are there, of the first so many. -/
def rowTo (l : List Bool) (j : Nat) : List Int := ((List.range j).filter fun i => l.getD i false).map fun i : Nat => (i : Int)
def rowL (l : List Bool) : List Int := rowTo l l.length
theorem rowTo_succ (l : List Bool) (j : Nat) (h : j < l.length) : rowTo l (j + 1) = rowTo l j ++ (if l[j] then [(j : Int)] else []) := by
  unfold rowTo
  rw [List.range_succ, List.filter_append, List.map_append]
  congr 1
  have : l.getD j false = l[j] := by simp [List.getD, List.getElem?_eq_getElem h]
  simp only [List.filter_cons, List.filter_nil, this]
  split <;> rfl
theorem rowTo_len (l : List Bool) (j : Nat) : (rowTo l j).length ≤ j := by
  unfold rowTo
  rw [List.length_map]
  exact Nat.le_trans (List.length_filter_le _ _) (by simp)
theorem mem_rowTo {l : List Bool} {j : Nat} {x : Int} : x ∈ rowTo l j ↔ ∃ i : Nat, x = i ∧ i < j ∧ l.getD i false = true := by
  unfold rowTo
  rw [List.mem_map]
  constructor
  · rintro ⟨i, hi, rfl⟩
    rw [List.mem_filter, List.mem_range] at hi
    exact ⟨i, rfl, hi.1, hi.2⟩
  · rintro ⟨i, rfl, h1, h2⟩
    exact ⟨i, by rw [List.mem_filter, List.mem_range]; exact ⟨h1, h2⟩, rfl⟩
/-- The first that isn't there. -/
def FirstR (l : List Bool) (f : Int) : Prop := (f = -1 ∧ ∀ i, i < l.length → l.getD i true = true) ∨ ∃ i : Nat, f = i ∧ i < l.length ∧ l.getD i true = false ∧ ∀ k, k < i → l.getD k true = true
theorem FirstR.uniq {l : List Bool} {f g : Int} (h : FirstR l f) (k : FirstR l g) : f = g := by
  rcases h with ⟨rfl, h⟩ | ⟨i, rfl, h1, h2, h3⟩
  · rcases k with ⟨rfl, _⟩ | ⟨i, rfl, h1, h2, _⟩
    · rfl
    · rw [h i h1] at h2; cases h2
  · rcases k with ⟨rfl, k⟩ | ⟨j, rfl, k1, k2, k3⟩
    · rw [k i h1] at h2; cases h2
    · have : i = j := by
        rcases Nat.lt_trichotomy i j with h | h | h
        · rw [k3 i h] at h2; cases h2
        · exact h
        · rw [h3 j h] at k2; cases k2
      rw [this]
/-- A set in memory. -/
def SetR (w : World) (b : Nat) (l : List Bool) (F : Nat → Prop) : Prop :=
  ∃ g : Nat, Blk w b [.slice (some ⟨g, 0, none⟩) l.length l.length] t_bits_Set ∧ Blk w g (l.map .bool) t_bool ∧ F b ∧ F g ∧ b ≠ g ∧ 0 < l.length ∧ l.length ≤ 1024
section
variable {w w' : World} {b : Nat} {l : List Bool} {F G : Nat → Prop}
theorem SetR.keep (h : SetR w b l F) (hc : Ch G w w') (hd : ∀ i, i < w.heap.size → F i → ¬ G i) : SetR w' b l F := by
  obtain ⟨g, h1, h2, h3, h4, h5⟩ := h
  exact ⟨g, h1.keep hc (hd b h1.lt h3), h2.keep hc (hd g h2.lt h4), h3, h4, h5⟩
theorem SetR.keepN (h : SetR w b l F) (hc : Ch Non w w') : SetR w' b l F := h.keep hc (fun _ _ _ => id)
theorem SetR.mono (h : SetR w b l F) (hg : ∀ i, i < w.heap.size → F i → G i) : SetR w b l G := by
  obtain ⟨g, h1, h2, h3, h4, h5⟩ := h
  exact ⟨g, h1, h2, hg b h1.lt h3, hg g h2.lt h4, h5⟩
theorem SetR.le (h : SetR w b l F) : 0 < l.length ∧ l.length ≤ 1024 := by
  obtain ⟨g, h1, h2, h3, h4, h5⟩ := h
  exact h5.2
theorem New_ok (w : World) {n : Int} (h1 : 1 ≤ n) (h2 : n ≤ 1024) : Calls Try.prog i_bits_New #[.int .i64 n] w (Ret fun v w' => ∃ b, v = .pointer (some ⟨b, 0, none⟩) ∧ SetR w' b (List.replicate n.toNat false) (New w w') ∧ Ch Non w w') := by
  refine bits_New.calls _ ?_
  unfold bits_New.vc
  refine iteF (decide_eq_false (by omega)) (iteF (decide_eq_false (by omega)) ⟨⟨rfl, by omega, by omega⟩, fun w1 e1 w2 e2 => ?_⟩)
  have hc1 : Ch Non w w1 := Ch.alloc e1
  have hb1 := (Blk.new e1).alloc e2
  have hb2 := Blk.new e2
  have hs : w1.heap.size = w.heap.size + 1 := by rw [e1]; simp
  have hs2 : w2.heap.size = w1.heap.size + 1 := by rw [e2]; simp
  refine ⟨_, rfl, ⟨w.heap.size, ?_, ?_, ⟨by omega, by omega⟩, ⟨by omega, by omega⟩, by omega, by simp; omega, by simp; omega⟩, hc1.andN (Ch.alloc e2)⟩
  · simpa using hb2
  · rw [zeroRow_one] at hb1; simpa using hb1
theorem New_bad (w : World) {n : Int} (h : n < 1 ∨ n > 1024) : Calls Try.prog i_bits_New #[.int .i64 n] w (Ret fun v w' => v = .pointer none ∧ w' = w) := by
  refine bits_New.calls _ ?_
  unfold bits_New.vc
  by_cases h1 : n < 1
  · exact iteT (by simpa using h1) ⟨rfl, rfl⟩
  · exact iteF (by simpa using h1) (iteT (by simp; omega) ⟨rfl, rfl⟩)
section
variable {o : Option Addr} {c : Nat} {xs : List Int}
theorem IndexPut_spec {c0 : Nat} {f : Int → Bool} (hf : ∀ x, Calls Try.prog i_bits_Set_put_c1 #[.int .i64 x, .pointer (some ⟨c0, 0, none⟩)] w (Ret fun v w' => v = .bool (!f x) ∧ w' = w)) (hr : Rd w o (xs.map (.int .i64)) G) (hx : xs.length ≤ 1000000) :
    Calls Try.prog i_slices_IndexFunc #[.slice o xs.length c, .func (.func i_bits_Set_put_c1) #[] #[.pointer (some ⟨c0, 0, none⟩)]] w (Ret fun v w' => ∃ i : Int, v = .int .i64 i ∧ decide (i ≥ 0) = !(xs.all f) ∧ w' = w) := by
  refine slices_IndexFunc.calls_put _ _ _ _ ?_
  unfold slices_IndexFunc.vc_put
  refine ⟨fun i k w' => w' = w ∧ ∃ j : Nat, i = j ∧ j ≤ xs.length ∧ k = xs.length - j ∧ (xs.take j).all f = true, ⟨_, rfl, 0, rfl, Nat.zero_le _, rfl, rfl⟩, ?_⟩
  rintro jk i k w' ⟨rfl, j, rfl, hj, rfl, hall⟩
  refine ⟨fun hlt => ?_, fun hge => ?_⟩
  · have hlt : j < xs.length := by simpa using hlt
    refine ⟨⟨by omega, by omega⟩, hr.at (j := (j : Int).toNat * 1) (v := .int .i64 xs[j]) (by simp [hlt]) fun p hp => ⟨xs[j], hp, ?_⟩⟩
    refine step_call (hf xs[j]) ?_
    rintro v w1 ⟨rfl, rfl⟩
    refine ⟨_, rfl, fun h => ⟨_, rfl, ?_, rfl⟩, fun h => ⟨xs.length - (j + 1), by omega, rfl, j + 1, by rw [wrap_id (by omega) (by omega)]; rfl, hlt, rfl, ?_⟩⟩
    · have hfx : f xs[j] = false := by simpa using h
      have : xs.all f = false := by
        rw [List.all_eq_false]; exact ⟨xs[j], List.getElem_mem _, by rw [hfx]; simp⟩
      rw [this]; simp
    · rw [take_snoc xs j hlt, List.all_append, hall]
      simpa using h
  · have : j = xs.length := by simp at hge; omega
    subst this
    rw [List.take_length] at hall
    exact ⟨_, rfl, by rw [hall]; rfl, rfl⟩
theorem IndexHas_spec {c0 : Nat} {f : Int → Bool} (hf : ∀ x, Calls Try.prog i_bits_Set_Has_c1 #[.int .i64 x, .pointer (some ⟨c0, 0, none⟩)] w (Ret fun v w' => v = .bool (!f x) ∧ w' = w)) (hr : Rd w o (xs.map (.int .i64)) G) (hx : xs.length ≤ 1000000) :
    Calls Try.prog i_slices_IndexFunc #[.slice o xs.length c, .func (.func i_bits_Set_Has_c1) #[] #[.pointer (some ⟨c0, 0, none⟩)]] w (Ret fun v w' => ∃ i : Int, v = .int .i64 i ∧ decide (i ≥ 0) = !(xs.all f) ∧ w' = w) := by
  refine slices_IndexFunc.calls_Has _ _ _ _ ?_
  unfold slices_IndexFunc.vc_Has
  refine ⟨fun i k w' => w' = w ∧ ∃ j : Nat, i = j ∧ j ≤ xs.length ∧ k = xs.length - j ∧ (xs.take j).all f = true, ⟨_, rfl, 0, rfl, Nat.zero_le _, rfl, rfl⟩, ?_⟩
  rintro jk i k w' ⟨rfl, j, rfl, hj, rfl, hall⟩
  refine ⟨fun hlt => ?_, fun hge => ?_⟩
  · have hlt : j < xs.length := by simpa using hlt
    refine ⟨⟨by omega, by omega⟩, hr.at (j := (j : Int).toNat * 1) (v := .int .i64 xs[j]) (by simp [hlt]) fun p hp => ⟨xs[j], hp, ?_⟩⟩
    refine step_call (hf xs[j]) ?_
    rintro v w1 ⟨rfl, rfl⟩
    refine ⟨_, rfl, fun h => ⟨_, rfl, ?_, rfl⟩, fun h => ⟨xs.length - (j + 1), by omega, rfl, j + 1, by rw [wrap_id (by omega) (by omega)]; rfl, hlt, rfl, ?_⟩⟩
    · have hfx : f xs[j] = false := by simpa using h
      have : xs.all f = false := by
        rw [List.all_eq_false]; exact ⟨xs[j], List.getElem_mem _, by rw [hfx]; simp⟩
      rw [this]; simp
    · rw [take_snoc xs j hlt, List.all_append, hall]
      simpa using h
  · have : j = xs.length := by simp at hge; omega
    subst this
    rw [List.take_length] at hall
    exact ⟨_, rfl, by rw [hall]; rfl, rfl⟩
theorem put_c1_spec {c0 : Nat} (h : SetR w b l F) (hc : Blk w c0 [.pointer (some ⟨b, 0, none⟩)] t_P_bits_Set) (x : Int) :
    Calls Try.prog i_bits_Set_put_c1 #[.int .i64 x, .pointer (some ⟨c0, 0, none⟩)] w (Ret fun v w' => v = .bool (!(decide (0 ≤ x) && decide (x < l.length))) ∧ w' = w) := by
  obtain ⟨g, h1, h2, h3, h4, h5⟩ := h
  refine bits_Set_put_c1.calls _ _ ?_
  unfold bits_Set_put_c1.vc
  refine ⟨fun hx => ?_, fun hx => ⟨_, hc.cell 0 rfl, _, _, _, h1.cell 0 rfl, ?_⟩⟩
  · have hx : x < 0 := by simpa using hx
    exact ⟨by rw [decide_eq_false (show ¬ 0 ≤ x by omega)]; rfl, rfl⟩
  · have hx : 0 ≤ x := by simpa using hx
    refine ⟨?_, rfl⟩
    rw [decide_eq_true hx, Bool.true_and, ← decide_not]
    congr 2
    simp
theorem Has_c1_spec {c0 : Nat} (h : SetR w b l F) (hc : Blk w c0 [.pointer (some ⟨b, 0, none⟩)] t_P_bits_Set) (x : Int) :
    Calls Try.prog i_bits_Set_Has_c1 #[.int .i64 x, .pointer (some ⟨c0, 0, none⟩)] w (Ret fun v w' => v = .bool (!(hasOne l x)) ∧ w' = w) := by
  obtain ⟨g, h1, h2, h3, h4, h5⟩ := h
  refine bits_Set_Has_c1.calls _ _ ?_
  unfold bits_Set_Has_c1.vc hasOne
  refine ⟨fun hx => ?_, fun hx => ⟨_, hc.cell 0 rfl, _, _, _, h1.cell 0 rfl, fun hn => ?_, fun hn => ⟨_, hc.cell 0 rfl, _, _, _, h1.cell 0 rfl, ?_⟩⟩⟩
  · have hx : x < 0 := by simpa using hx
    exact ⟨by rw [decide_eq_false (show ¬ 0 ≤ x by omega)]; rfl, rfl⟩
  · have hn : ¬ x < l.length := by simp at hn; omega
    exact ⟨by rw [decide_eq_false hn, Bool.and_false]; rfl, rfl⟩
  · have hx : 0 ≤ x := by simpa using hx
    have hn : x < l.length := by simp at hn; omega
    have hlt : x.toNat < l.length := by omega
    refine ⟨⟨hx, hn⟩, l[x.toNat], ?_, ?_, rfl⟩
    · rw [add_at]; exact h2.cell _ (by rw [List.getElem?_map, show 0 + x.toNat * 1 = x.toNat by omega, List.getElem?_eq_getElem hlt]; rfl)
    · rw [decide_eq_true hx, decide_eq_true hn, List.getD_eq_getElem?_getD, List.getElem?_eq_getElem hlt]; rfl
theorem put_spec (h : SetR w b l F) (is : Bool) (hr : Rd w o (xs.map (.int .i64)) G) (hd : ∀ i, G i → ¬ F i) (hx : xs.length ≤ 1000000) :
    Calls Try.prog i_bits_Set_put #[.pointer (some ⟨b, 0, none⟩), .bool is, .slice o xs.length c] w (Ret fun v w' => v = .int .i64 (if inAll l.length xs then 0 else 3) ∧ SetR w' b (if inAll l.length xs then putL is l xs else l) F ∧ Ch F w w') := by
  refine bits_Set_put.calls _ _ _ _ _ ?_
  unfold bits_Set_put.vc
  intro w1 e1
  have hc1 : Ch Non w w1 := Ch.alloc e1
  have hb1 := Blk.new e1
  have h1 := h.keepN hc1
  have hr1 := hr.keepN hc1
  refine ⟨_, hb1.cell 0 rfl, iteF rfl ?_⟩
  have hcon : Calls Try.prog i_slices_ContainsFunc #[.slice o xs.length c, .func (.func i_bits_Set_put_c1) #[] #[.pointer (some ⟨w.heap.size, 0, none⟩)]] w1 (Ret fun v w' => v = .bool (!(inAll l.length xs)) ∧ w' = w1) := by
    refine slices_ContainsFunc.calls_put _ _ _ _ ?_
    unfold slices_ContainsFunc.vc_put
    refine step_call (IndexPut_spec (f := fun x => decide (0 ≤ x) && decide (x < l.length)) (fun x => put_c1_spec h1 hb1 x) hr1 hx) ?_
    rintro v w2 ⟨i, rfl, hi, rfl⟩
    exact ⟨_, rfl, by rw [hi]; rfl, rfl⟩
  refine step_call hcon ?_
  rintro v w2 ⟨rfl, rfl⟩
  refine ⟨_, rfl, fun hin => ?_, fun hin => ?_⟩
  · have hin : inAll l.length xs = false := by simpa using hin
    rw [hin]
    exact ⟨rfl, h1, hc1.any⟩
  have hin : inAll l.length xs = true := by simpa using hin
  rw [hin]
  obtain ⟨g, k1, k2, k3, k4, k5, k6⟩ := h1
  have hgw : g < w.heap.size := by
    obtain ⟨g', q1, q2, _⟩ := h
    have := (q1.keepN hc1)
    have e : (Value.slice (some ⟨g', 0, none⟩) l.length l.length) = .slice (some ⟨g, 0, none⟩) l.length l.length := by
      have a1 := this.cell 0 rfl
      have a2 := k1.cell 0 rfl
      rw [a1] at a2; exact Option.some.inj a2
    injection e with e
    injection e with e
    injection e with e
    subst e; exact q2.lt
  have hin' : ∀ j (hj : j < xs.length), 0 ≤ xs[j] ∧ xs[j] < l.length := fun j hj => by
    have := List.all_eq_true.1 hin xs[j] (List.getElem_mem _)
    simpa using this
  refine ⟨fun i k w' => ∃ j : Nat, i = j ∧ j ≤ xs.length ∧ k = xs.length - j ∧ Blk w' g ((putL is l (xs.take j)).map .bool) t_bool ∧ Ch (· = g) w2 w', ⟨_, 0, rfl, Nat.zero_le _, rfl, k2, Ch.refl _ _⟩, ?_⟩
  rintro jk i k w3 ⟨j, rfl, hj, rfl, hg, hc⟩
  have k13 := k1.keep hc k5
  have hb3 := hb1.keep hc (show ¬ w.heap.size = g by omega)
  refine ⟨fun hlt => ?_, fun hge => ?_⟩
  · have hlt : j < xs.length := by simpa using hlt
    have hr3 := hr1.keep hc (fun i _ hi hg => hd i hi (hg ▸ k4))
    obtain ⟨x1, x2⟩ := hin' j hlt
    have hlen := putL_len is l (xs.take j)
    refine ⟨⟨by omega, by omega⟩, hr3.at (j := (j : Int).toNat * 1) (v := .int .i64 xs[j]) (by simp [hlt]) fun p hp => ⟨xs[j], hp, _, hb3.cell 0 rfl, _, _, _, k13.cell 0 rfl, ⟨x1, x2⟩, ?_⟩⟩
    have hx3 : (xs[j].toNat) < (putL is l (xs.take j)).length := by omega
    show (((∃ u, w3.cell? ((⟨g, 0, none⟩ : Addr).add (xs[j].toNat * 1)) = some u) ∧ w3.frozen? ((⟨g, 0, none⟩ : Addr).add (xs[j].toNat * 1)) = false)) ∧ _
    rw [add_at, show 0 + xs[j].toNat * 1 = xs[j].toNat by omega]
    refine ⟨hg.ok _ (by rw [List.getElem?_map, List.getElem?_eq_getElem hx3]; rfl), fun w4 e4 => ⟨xs.length - (j + 1), by omega, j + 1, by rw [wrap_id (by omega) (by omega)]; rfl, hlt, rfl, ?_, hc.same (Ch.set e4 rfl)⟩⟩
    rw [take_snoc xs j hlt, putL_snoc, List.map_set]
    exact hg.set e4
  · have : j = xs.length := by simp at hge; omega
    subst this
    rw [List.take_length] at hg
    have hlen := putL_len is l xs
    have hcF : Ch F w2 w3 := hc.mono (fun i _ hi => hi ▸ k4)
    refine ⟨rfl, ⟨g, ?_, hg, k3, k4, k5, by simp [hlen]; exact k6.1, by simp [hlen]; exact k6.2⟩, (hc1.any (F := F)).same hcF⟩
    simpa [hlen] using k13
theorem Add_spec (h : SetR w b l F) (hr : Rd w o (xs.map (.int .i64)) G) (hd : ∀ i, G i → ¬ F i) (hx : xs.length ≤ 1000000) :
    Calls Try.prog i_bits_Set_Add #[.pointer (some ⟨b, 0, none⟩), .slice o xs.length c] w (Ret fun v w' => v = .int .i64 (if inAll l.length xs then 0 else 3) ∧ SetR w' b (if inAll l.length xs then putL true l xs else l) F ∧ Ch F w w') := by
  refine bits_Set_Add.calls _ _ _ _ ?_
  unfold bits_Set_Add.vc
  refine step_call (put_spec h true hr hd hx) ?_
  rintro v w1 ⟨rfl, h1⟩
  exact ⟨_, rfl, rfl, h1⟩
theorem Drop_spec (h : SetR w b l F) (hr : Rd w o (xs.map (.int .i64)) G) (hd : ∀ i, G i → ¬ F i) (hx : xs.length ≤ 1000000) :
    Calls Try.prog i_bits_Set_Drop #[.pointer (some ⟨b, 0, none⟩), .slice o xs.length c] w (Ret fun v w' => v = .int .i64 (if inAll l.length xs then 0 else 3) ∧ SetR w' b (if inAll l.length xs then putL false l xs else l) F ∧ Ch F w w') := by
  refine bits_Set_Drop.calls _ _ _ _ ?_
  unfold bits_Set_Drop.vc
  refine step_call (put_spec h false hr hd hx) ?_
  rintro v w1 ⟨rfl, h1⟩
  exact ⟨_, rfl, rfl, h1⟩
theorem Has_spec (h : SetR w b l F) (hr : Rd w o (xs.map (.int .i64)) G) (hx : xs.length ≤ 1000000) :
    Calls Try.prog i_bits_Set_Has #[.pointer (some ⟨b, 0, none⟩), .slice o xs.length c] w (Ret fun v w' => v = .bool (hasL l xs) ∧ Ch Non w w') := by
  refine bits_Set_Has.calls _ _ _ _ ?_
  unfold bits_Set_Has.vc
  intro w1 e1
  have hc1 : Ch Non w w1 := Ch.alloc e1
  have hb1 := Blk.new e1
  refine ⟨_, hb1.cell 0 rfl, iteF rfl ?_⟩
  have hcon : Calls Try.prog i_slices_ContainsFunc #[.slice o xs.length c, .func (.func i_bits_Set_Has_c1) #[] #[.pointer (some ⟨w.heap.size, 0, none⟩)]] w1 (Ret fun v w' => v = .bool (!(hasL l xs)) ∧ w' = w1) := by
    refine slices_ContainsFunc.calls_Has _ _ _ _ ?_
    unfold slices_ContainsFunc.vc_Has
    refine step_call (IndexHas_spec (f := hasOne l) (fun x => Has_c1_spec (h.keepN hc1) hb1 x) (hr.keepN hc1) hx) ?_
    rintro v w2 ⟨i, rfl, hi, rfl⟩
    exact ⟨_, rfl, by rw [hi]; rfl, rfl⟩
  refine step_call hcon ?_
  rintro v w2 ⟨rfl, rfl⟩
  exact ⟨_, rfl, by simp, hc1⟩
theorem Row_spec (h : SetR w b l F) : Calls Try.prog i_bits_Set_Row #[.pointer (some ⟨b, 0, none⟩)] w (Ret fun v w' => ∃ (o : Option Addr) (c : Nat), v = .slice o (rowL l).length c ∧ Own w' t_int 1 o (rowL l).length c ((rowL l).map (.int .i64)) (New w w') ∧ Ch Non w w') := by
  obtain ⟨g, h1, h2, h3, h4, h5, h6, h7⟩ := h
  refine bits_Set_Row.calls _ ?_
  unfold bits_Set_Row.vc
  refine ⟨_, _, _, h1.cell 0 rfl, fun o n c i k w' => ∃ j : Nat, i = j ∧ j ≤ l.length ∧ k = l.length - j ∧ n = (rowTo l j).length ∧ Own w' t_int 1 o n c ((rowTo l j).map (.int .i64)) (New w w') ∧ Ch Non w w', ⟨_, 0, rfl, Nat.zero_le _, rfl, rfl, Own.nil _ _ _ _, Ch.refl _ _⟩, ?_⟩
  rintro jk o n c i k w1 ⟨j, rfl, hj, rfl, rfl, ho, hc⟩
  refine ⟨fun hlt => ?_, fun hge => ?_⟩
  · have hlt : j < l.length := by simpa using hlt
    have hs := rowTo_succ l j hlt
    have hl := rowTo_len l j
    have h21 := h2.keepN hc
    have hwr : IntKind.i64.wrap ((j : Int) + 1) = ((j + 1 : Nat) : Int) := by rw [wrap_id (by omega) (by omega)]; rfl
    refine ⟨⟨by omega, by omega⟩, l[j], ?_, fun ht => fun w2 e2 => ?_, fun hf => ?_⟩
    · rw [add_at]; exact h21.cell _ (by rw [List.getElem?_map, show 0 + (j : Int).toNat * 1 = j by simp, List.getElem?_eq_getElem hlt]; rfl)
    · rw [if_pos ht] at hs
      obtain ⟨o', c', w3, hr, ho3, hc3⟩ := Own.pushT el_S_int ho t_S_int _ e2 rfl (by unfold maxLen; omega) (by omega)
      rw [← hs] at ho3
      have hln : (rowTo l j).length + 1 = (rowTo l (j + 1)).length := by rw [hs]; simp
      exact ⟨o', _, c', w3, hr, l.length - (j + 1), by omega, j + 1, hwr, hlt, rfl, hln, ho3.mono (fun i _ hi => New.ext hi hc.size hc3.size), Ch.newN hc hc3⟩
    · have hf : l[j] = false := hf
      rw [hf, if_neg (by simp), List.append_nil] at hs
      exact ⟨l.length - (j + 1), by omega, j + 1, hwr, hlt, rfl, by rw [hs], by rw [hs]; exact ho, hc⟩
  · have : j = l.length := by simp at hge; omega
    subst this
    exact ⟨o, c, rfl, ho, hc⟩
theorem Count_spec (h : SetR w b l F) : Calls Try.prog i_bits_Set_Count #[.pointer (some ⟨b, 0, none⟩)] w (Ret fun v w' => v = .int .i64 (rowL l).length ∧ Ch Non w w') := by
  refine bits_Set_Count.calls _ ?_
  unfold bits_Set_Count.vc
  refine step_call (Row_spec h) ?_
  rintro v w1 ⟨o, c, rfl, ho, hc⟩
  exact ⟨_, _, _, rfl, rfl, hc⟩
theorem Len_spec (h : SetR w b l F) : Calls Try.prog i_bits_Set_Len #[.pointer (some ⟨b, 0, none⟩)] w (Ret fun v w' => v = .int .i64 l.length ∧ w' = w) := by
  obtain ⟨g, h1, h2, h3, h4, h5⟩ := h
  refine bits_Set_Len.calls _ ?_
  unfold bits_Set_Len.vc
  exact ⟨_, _, _, h1.cell 0 rfl, rfl, rfl⟩
theorem First_spec (h : SetR w b l F) : Calls Try.prog i_bits_Set_First #[.pointer (some ⟨b, 0, none⟩)] w (Ret fun v w' => ∃ f : Int, v = .int .i64 f ∧ FirstR l f ∧ w' = w) := by
  obtain ⟨g, h1, h2, h3, h4, h5, h6, h7⟩ := h
  refine bits_Set_First.calls _ ?_
  unfold bits_Set_First.vc
  refine ⟨_, _, _, h1.cell 0 rfl, ?_⟩
  have hi : Calls Try.prog i_slices_Index #[.slice (some ⟨g, 0, none⟩) l.length l.length, .bool false] w (Ret fun v w' => ∃ f : Int, v = .int .i64 f ∧ FirstR l f ∧ w' = w) := by
    refine slices_Index.calls _ _ _ _ ?_
    unfold slices_Index.vc
    refine ⟨fun i k w' => w' = w ∧ ∃ j : Nat, i = j ∧ j ≤ l.length ∧ k = l.length - j ∧ ∀ m, m < j → l.getD m true = true, ⟨_, rfl, 0, rfl, Nat.zero_le _, rfl, by intro m hm; omega⟩, ?_⟩
    rintro jk i k w' ⟨rfl, j, rfl, hj, rfl, hall⟩
    refine ⟨fun hlt => ?_, fun hge => ?_⟩
    · have hlt : j < l.length := by simpa using hlt
      have hgd : l.getD j true = l[j] := by simp [List.getD, List.getElem?_eq_getElem hlt]
      refine ⟨⟨by omega, by omega⟩, l[j], ?_, fun ht => ?_, fun hf => ⟨l.length - (j + 1), by omega, rfl, j + 1, by rw [wrap_id (by omega) (by omega)]; rfl, hlt, rfl, fun m hm => ?_⟩⟩
      · rw [add_at]; exact h2.cell _ (by rw [List.getElem?_map, show 0 + (j : Int).toNat * 1 = j by simp, List.getElem?_eq_getElem hlt]; rfl)
      · refine ⟨_, rfl, .inr ⟨j, rfl, hlt, ?_, hall⟩, rfl⟩
        rw [hgd]; simpa using ht
      · rcases Nat.lt_or_ge m j with h | h
        · exact hall m h
        · have : m = j := by omega
          subst this
          rw [hgd]; simpa using hf
    · have : j = l.length := by simp at hge; omega
      subst this
      exact ⟨_, rfl, .inl ⟨rfl, hall⟩, rfl⟩
  refine step_call hi ?_
  rintro v w1 ⟨f, rfl, hf, rfl⟩
  exact ⟨_, rfl, f, rfl, hf, rfl⟩
end
end
end Go.Proofs.Ytefidalhijpmdaa.Bits
