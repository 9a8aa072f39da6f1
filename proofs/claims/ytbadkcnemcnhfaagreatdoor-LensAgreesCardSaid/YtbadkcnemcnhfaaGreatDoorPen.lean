/- For every pen in memory, and every eye: what layer 3's functions write and read; the conditions stand in each theorem. -/
import Derived.Test.YtbadkcnemcnhfaaGreatDoorBld
import Derived.Test.YtbadkcnemcnhfaaGreatDoorVcPen
set_option linter.unusedVariables false
set_option linter.unusedSimpArgs false
namespace Go.Proofs.YtbadkcnemcnhfaaGreatDoor.Pen
open Go Go.Proofs Go.Proofs.YtbadkcnemcnhfaaGreatDoor.V Go.Proofs.YtbadkcnemcnhfaaGreatDoor.Vc Go.RowKit

theorem take_snoc {α : Type} (l : List α) (j : Nat) (h : j < l.length) : l.take (j + 1) = l.take j ++ [l[j]] := List.take_succ_eq_append_getElem h
theorem Bld.go {w w1 w2 : World} {b T : Nat} {tail : List Value} {bs : List UInt8} {F : Nat → Prop} (h1 : Ch F w w1) (h2 : Bld w2 b T tail bs (Ext (Ext F w w1) w1 w2)) (h3 : Ch (Ext F w w1) w1 w2) : Bld w2 b T tail bs (Ext F w w2) ∧ Ch F w w2 :=
  ⟨h2.mono (fun i _ hi => Ext.ext h1.size h3.size hi), h1.ext h3⟩
theorem Bld.goN {w w1 w2 : World} {b T : Nat} {tail : List Value} {bs : List UInt8} {F : Nat → Prop} (h2 : Bld w1 b T tail bs (Ext F w w1)) (h1 : Ch F w w1) (h3 : Ch Non w1 w2) : Bld w2 b T tail bs (Ext F w w2) ∧ Ch F w w2 :=
  ⟨(h2.keepN h3).mono (fun i _ hi => hi.imp id (fun h => ⟨h.1, Nat.lt_of_lt_of_le h.2 h3.size⟩)), h1.andN h3⟩
theorem Bld.start {w : World} {b T : Nat} {tail : List Value} {bs : List UInt8} {F : Nat → Prop} (h : Bld w b T tail bs F) : Bld w b T tail bs (Ext F w w) := h.mono (fun _ _ hi => .inl hi)
/-- A pen. -/
abbrev PenT (T : Nat) (w : World) (b : Nat) (bad : Bool) (bs : List UInt8) (F : Nat → Prop) : Prop := Bld w b T [.bool bad] bs F
abbrev PenR (w : World) (b : Nat) (bad : Bool) (bs : List UInt8) (F : Nat → Prop) : Prop := PenT t_pen_Pen w b bad bs F
theorem pen_type : BType t_pen_Pen 3 := by unfold BType; kernel_rfl
theorem PenT.bad {T : Nat} {w w' : World} {b : Nat} {bad v : Bool} {bs : List UInt8} {F : Nat → Prop} (h : PenT T w b bad bs F) (e : w' = w.setCell ⟨b, 2, none⟩ (.bool v)) : PenT T w' b v bs F ∧ Ch F w w' := by
  obtain ⟨p, o, c, h1, h2, h3, h4, h5⟩ := h
  exact ⟨⟨p, o, c, h1, h2.set e, h3.keep (G := (· = b)) (Ch.set e rfl) (fun i _ hF he => hF.2 he), h4, h5⟩, Ch.set e h4⟩
theorem PenT.ok2 {T : Nat} {w : World} {b : Nat} {bad : Bool} {bs : List UInt8} {F : Nat → Prop} (h : PenT T w b bad bs F) : (∃ u, w.cell? ⟨b, 2, none⟩ = some u) ∧ w.frozen? ⟨b, 2, none⟩ = false := by
  obtain ⟨p, o, c, h1, h2, h3, h4, h5⟩ := h
  exact h2.ok 2 rfl
/-- A number's bytes. -/
def numB (n : Nat) : List UInt8 := [UInt8.ofNat (n % 256), UInt8.ofNat (n / 256 % 256), UInt8.ofNat (n / 65536 % 256), UInt8.ofNat (n / 16777216 % 256)]
def outN (x : Int) : Bool := decide (x < 0) || decide (x ≥ 4294967296)
def normN (x : Int) : Nat := if outN x then 0 else x.toNat
def numI (x : Int) : List UInt8 := numB (normN x)
def numsL (xs : List Int) : List UInt8 := (xs.map numI).flatten
theorem numsL_snoc (xs : List Int) (x : Int) : numsL (xs ++ [x]) = numsL xs ++ numI x := by simp [numsL]
theorem numI_len (x : Int) : (numI x).length = 4 := rfl
theorem numsL_len (xs : List Int) : (numsL xs).length = 4 * xs.length := by
  induction xs with
  | nil => rfl
  | cons x r ih => simp only [numsL, List.map_cons, List.flatten_cons, List.length_append, numI_len] at *; simp [ih]; omega
theorem byte_at (n : Nat) (hn : n < 4294967296) {k : Nat} (hk : k < 4) : Value.int .u8 (IntKind.u8.wrap (Int.fdiv (n : Int) (2 ^ (min (IntKind.i64.wrap (8 * (k : Int))).toNat IntKind.i64.bits)))) = u8v ((numB n)[k]'(by simpa [numB] using hk)) := by
  have h1 : IntKind.i64.wrap (8 * (k : Int)) = ((8 * k : Nat) : Int) := by rw [wrap_id (by omega) (by omega)]; omega
  have h2 : min ((8 * k : Nat) : Int).toNat IntKind.i64.bits = 8 * k := by show min ((8 * k : Nat) : Int).toNat 64 = _; rw [Int.toNat_natCast]; omega
  rw [h1, h2]
  have hw : ∀ x : Int, IntKind.u8.wrap x = x % 256 := fun _ => rfl
  rw [hw, Int.fdiv_eq_ediv_of_nonneg _ (Int.le_of_lt (Int.pow_pos (by omega)))]
  unfold u8v
  congr 1
  match k, hk with
  | 0, _ => simp [numB]
  | 1, _ => simp [numB]
  | 2, _ => simp [numB]
  | 3, _ => simp [numB]
section
variable {T : Nat} {w w' w1 : World} {b e : Nat} {bad : Bool} {bs : List UInt8} {F G : Nat → Prop} {o : Option Addr} {xs : List Int}
theorem PenNum_spec (h : PenT T w b bad bs F) (hF : ∀ i, F i → i < w.heap.size) (hr : Rd w o (xs.map (.int .i64)) G) (hG : ∀ i, G i → i < w.heap.size ∧ ¬ F i) (hl : bs.length + 4 * xs.length < 1000000000) (c : Nat) :
    Calls Tryz.prog i_pen_Pen_Num #[.pointer (some ⟨b, 0, none⟩), .slice o xs.length c] w (Ret fun v w' => v = .tuple #[] ∧ PenT T w' b (bad || xs.any outN) (bs ++ numsL xs) (Ext F w w') ∧ Ch F w w') := by
  refine pen_Pen_Num.calls _ _ _ _ ?_
  unfold pen_Pen_Num.vc
  refine ⟨fun i k w' => ∃ j : Nat, i = j ∧ j ≤ xs.length ∧ k = xs.length - j ∧ PenT T w' b (bad || (xs.take j).any outN) (bs ++ numsL (xs.take j)) (Ext F w w') ∧ Ch F w w', ⟨_, 0, rfl, Nat.zero_le _, rfl, by simpa [numsL] using Bld.start h, Ch.refl _ _⟩, ?_⟩
  rintro jk i k w1 ⟨j, rfl, hj, rfl, hp, hc⟩
  refine ⟨fun hlt => ?_, fun hge => ?_⟩
  · have hlt : j < xs.length := by have := of_decide_eq_true hlt; omega
    have hrd := hr.keep hc (fun i _ hGi hFi => (hG i hGi).2 hFi)
    have hbl : (bs ++ numsL (xs.take j)).length = bs.length + 4 * j := by simp [numsL_len]; omega
    have hsn := take_snoc xs j hlt
    refine ⟨⟨by omega, by omega⟩, hrd.at (j := (j : Int).toNat * 1) (v := .int .i64 xs[j]) (by simp [hlt]) fun p hpp => ⟨_, hpp, fun n w' => n = (normN xs[j] : Int) ∧ PenT T w' b (bad || (xs.take (j + 1)).any outN) (bs ++ numsL (xs.take j)) (Ext F w w') ∧ Ch F w w', ⟨fun h1 => ⟨hp.ok2, fun w2 e2 => ?_⟩, fun h1 => ⟨fun h2 => ⟨hp.ok2, fun w2 e2 => ?_⟩, fun h2 => ?_⟩⟩, ?_⟩⟩
    · have ho : outN xs[j] = true := by unfold outN; rw [h1]; rfl
      obtain ⟨a, b'⟩ := PenT.bad (v := true) hp e2
      have hs : w2.heap.size = w1.heap.size := by subst e2; simp [World.setCell]
      refine ⟨by unfold normN; rw [ho]; rfl, ?_, hc.ext b'⟩
      rw [hsn, List.any_append]
      have : (bad || ((xs.take j).any outN || [xs[j]].any outN)) = true := by simp [ho]
      rw [this]
      exact a.mono (fun i _ hi => hi.imp id (fun h => ⟨h.1, by omega⟩))
    · have ho : outN xs[j] = true := by unfold outN; rw [h2, Bool.or_true]
      obtain ⟨a, b'⟩ := PenT.bad (v := true) hp e2
      have hs : w2.heap.size = w1.heap.size := by subst e2; simp [World.setCell]
      refine ⟨by unfold normN; rw [ho]; rfl, ?_, hc.ext b'⟩
      rw [hsn, List.any_append]
      have : (bad || ((xs.take j).any outN || [xs[j]].any outN)) = true := by simp [ho]
      rw [this]
      exact a.mono (fun i _ hi => hi.imp id (fun h => ⟨h.1, by omega⟩))
    · have ho : outN xs[j] = false := by unfold outN; rw [h1, h2]; rfl
      have h1 := of_decide_eq_false h1
      refine ⟨by unfold normN; rw [ho]; simp; omega, ?_, hc⟩
      rw [hsn, List.any_append]
      have : (bad || ((xs.take j).any outN || [xs[j]].any outN)) = (bad || (xs.take j).any outN) := by simp [ho]
      rw [this]; exact hp
    rintro jk n w2 ⟨rfl, hp2, hc2⟩
    have hn : normN xs[j] < 4294967296 := by unfold normN outN; split <;> simp_all <;> omega
    have hI : numI xs[j] = numB (normN xs[j]) := rfl
    generalize normN xs[j] = n at hn hI ⊢
    have hq : (numB n).length = 4 := rfl
    refine ⟨fun i k w' => ∃ m : Nat, i = m ∧ m ≤ 4 ∧ k = 4 - m ∧ PenT T w' b (bad || (xs.take (j + 1)).any outN) (bs ++ numsL (xs.take j) ++ (numB n).take m) (Ext F w w') ∧ Ch F w w', ⟨_, 0, rfl, Nat.zero_le _, rfl, by simpa using hp2, hc2⟩, ?_⟩
    rintro jk i k w3 ⟨m, rfl, hm, rfl, hp3, hc3⟩
    refine ⟨fun hlt2 => ?_, fun hge2 => ?_⟩
    · have hlt2 : m < 4 := by have := of_decide_eq_true hlt2; omega
      have hmq : m < (numB n).length := by omega
      refine ⟨fun _ => True, fun w4 e4 => ⟨trivial, by rw [wrap_id (by omega) (by omega)]; omega, ?_⟩⟩
      obtain ⟨hp4, hc4⟩ := Bld.goN hp3 hc3 (Ch.drew e4)
      rw [byte_at n hn hlt2]
      refine step_call (WriteByte_spec hp4 _ (by simp only [List.length_append, List.length_take, hbl]; simp only [List.length_append] at hbl; omega)) ?_
      rintro v w5 ⟨rfl, hp5, hc5⟩
      obtain ⟨hp5, hc5⟩ := Bld.go hc4 hp5 hc5
      rw [List.append_assoc, ← take_snoc _ m hmq] at hp5
      exact ⟨_, rfl, trivial, 4 - (m + 1), by omega, m + 1, by rw [wrap_id (by omega) (by omega)]; rfl, hlt2, rfl, hp5, hc5⟩
    · have hm4 : m = 4 := by have := of_decide_eq_false hge2; omega
      subst hm4
      rw [show (numB n).take 4 = numB n from rfl, List.append_assoc, ← hI, ← numsL_snoc, ← hsn] at hp3
      exact ⟨xs.length - (j + 1), by omega, j + 1, by rw [wrap_id (by omega) (by omega)]; rfl, hlt, rfl, hp3, hc3⟩
  · have : j = xs.length := by have := of_decide_eq_false hge; omega
    subst this
    rw [List.take_length] at hp
    exact ⟨rfl, hp, hc⟩
theorem PenBytes_spec (h : PenT T w b bad bs F) (hl : bs.length < 1000000000) : Calls Tryz.prog i_pen_Pen_Bytes #[.pointer (some ⟨b, 0, none⟩)] w (Ret fun v w' => v = .string ⟨bs.toArray⟩ ∧ PenT T w' b bad bs F ∧ Ch F w w') := by
  refine pen_Pen_Bytes.calls _ ?_
  unfold pen_Pen_Bytes.vc
  refine step_call (String_spec h hl) ?_
  rintro v w1 ⟨rfl, h1, h2⟩
  exact ⟨_, rfl, rfl, h1, h2.mono (fun i _ hi => hi.1)⟩
end
end Go.Proofs.YtbadkcnemcnhfaaGreatDoor.Pen
