/- For every row of writes: slices.Backward's closure; the conditions stand in each theorem. -/
import Derived.RangeFuncBox
import Derived.RangeFuncLeaves
import Derived.RangeFuncFrom
import Derived.RangeFuncNested
import Derived.Shelf.Abstract
import Derived.WalkKit
import Derived.OwnWalkIn
import Derived.TacticsInMore
import Derived.LoopNIn
import Derived.LoopIn
import Derived.Test.YtpefegcdcojokaaVc
set_option linter.unusedVariables false
set_option linter.unusedSimpArgs false
namespace Go.Proofs.Ytpefegcdcojokaa.Disk
open Go Go.Proofs Go.RowKit Go.Shelf

attribute [local go_sem] Oper.semAt_some

def upto {α : Type} (f : Nat → α) (k : Nat) : List α := (List.range k).map f
theorem upto_succ {α : Type} (f : Nat → α) (k : Nat) : upto f (k + 1) = upto f k ++ [f k] := by simp [upto, List.range_succ]
theorem upto_length {α : Type} (f : Nat → α) (k : Nat) : (upto f k).length = k := by simp [upto]

set_option maxRecDepth 100000 in
set_option maxHeartbeats 2000000 in
theorem back1_in (F : Fence) (n : Nat) (h7 : F.fn 47) (hro : F.round = none) (hn : 1 ≤ n) (l Bs n₀ b off len cap : Nat) (z : Nat → Int × ByteArray) (hreach : len * 8 ≤ 140737488351232) (hb : b < n₀) (hB : Bs < n₀) (J Jx : List (Int × Int × ByteArray) → World → Prop)
    (hY : ∀ pre x W, J pre W → pre.length < len → YieldAt F (n - 1) Try.prog l #[.int .i64 x.1, .agg #[.int .i64 x.2.1, .string x.2.2]] W fun e W' =>
      (e = .returned (.bool true) ∧ J (pre ++ [x]) W' ∧ Below n₀ W W') ∨ (e = .returned (.bool false) ∧ Jx (pre ++ [x]) W'))
    (W : World) (hBs : W.cell? ⟨Bs, 0, none⟩ = some (.slice (some ⟨b, off, none⟩) len cap)) (hc : ∀ j, j < len → W.cell? ⟨b, off + j * 2, none⟩ = some (.int .i64 (z j).1) ∧ W.cell? ⟨b, off + j * 2 + 1, none⟩ = some (.string (z j).2)) (h0 : J [] W) :
    CallsIn F n Try.prog 47 #[.func (.yield l) #[] #[], .pointer (some ⟨Bs, 0, none⟩)] W fun e W' => (∃ v, e = .returned v) ∧
      ((∃ ys, ys = upto (fun j => (((len - 1 - j : Nat) : Int), z (len - 1 - j))) len ∧ J ys W') ∨ (∃ pre, (∃ k, k ≤ len ∧ pre = upto (fun j => (((len - 1 - j : Nat) : Int), z (len - 1 - j))) k) ∧ Jx pre W')) := by
  refine callsIn_of_wp Try.func47 rfl h7 ?_ hro
  simp only [Try.ntmps47, List.size_toArray, List.length_cons, List.length_nil, Nat.reduceAdd, Nat.reduceSub, Array.replicate_succ, Array.replicate_zero, List.push_toArray, List.append_toArray, List.nil_append, List.cons_append]
  gi_wp2
  gi_loopw [3] (fun i wr => ∃ k : Nat, k ≤ len ∧ i = .int .i64 ((len : Int) - 1 - k) ∧ J (upto (fun j => (((len - 1 - j : Nat) : Int), z (len - 1 - j))) k) wr ∧ Below n₀ W wr)
    (fun i _ => (intOf i + 1).toNat)
  case atStart => exact ⟨0, Nat.zero_le _, by simp; done, h0, Below.refl _ _⟩
  case round =>
    obtain ⟨k, hk, rfl, hJs, hnx⟩ := hrel
    by_cases hlt : k < len
    · have hBx := (hnx.cell (p := ⟨Bs, 0, none⟩) hB).trans hBs
      obtain ⟨hc1, hc2⟩ := hc (len - 1 - k) (by omega)
      have hc1 := (hnx.cell (p := ⟨b, off + (len - 1 - k) * 2, none⟩) hb).trans hc1
      have hc2 := (hnx.cell (p := ⟨b, off + (len - 1 - k) * 2 + 1, none⟩) hb).trans hc2
      obtain ⟨fn, tmps, assign, body, hy, hR⟩ := hY _ (((len - 1 - k : Nat) : Int), z (len - 1 - k)) wr hJs (by rw [upto_length]; exact hlt)
      dsimp only at hy
      have hi : (len : Int) - 1 - k = ((len - 1 - k : Nat) : Int) := by omega
      rw [hi]
      gi_wp2
      refine hR.mono ?_
      rintro e W3 (⟨rfl, hJ3, hk3⟩ | ⟨rfl, hJx3⟩)
      · gi_wp2
        go_roundw
        case rel => exact ⟨k + 1, by omega, by simp <;> omega, by rw [upto_succ]; exact hJ3, hnx.trans hk3⟩
        case measure => simp [intOf] <;> omega
      · gi_wp2
        refine bodyPost_ret (results_none rfl _ _ _) rfl ?_
        exact ⟨⟨_, rfl⟩, .inr ⟨_, ⟨k + 1, by omega, (upto_succ _ _).symm⟩, hJx3⟩⟩
    · obtain rfl : k = len := by omega
      gi_wp2
      go_end0
      exact ⟨⟨_, rfl⟩, .inl ⟨_, rfl, hJs⟩⟩
set_option maxRecDepth 100000 in
set_option maxHeartbeats 1000000 in
theorem back1_nil_in (F : Fence) (n : Nat) (h7 : F.fn 47) (hro : F.round = none) (l Bs : Nat) (J : List (Int × Int × ByteArray) → World → Prop) (W : World) (o : Option Addr) (cap : Nat) (hBs : W.cell? ⟨Bs, 0, none⟩ = some (.slice o 0 cap)) (h0 : J [] W) :
    CallsIn F n Try.prog 47 #[.func (.yield l) #[] #[], .pointer (some ⟨Bs, 0, none⟩)] W fun e W' => (∃ v, e = .returned v) ∧ J [] W' := by
  refine callsIn_of_wp Try.func47 rfl h7 ?_ hro
  simp only [Try.ntmps47, List.size_toArray, List.length_cons, List.length_nil, Nat.reduceAdd, Nat.reduceSub, Array.replicate_succ, Array.replicate_zero, List.push_toArray, List.append_toArray, List.nil_append, List.cons_append]
  gi_wp2
  gi_loopw [3] (fun i wr => i = .int .i64 (-1) ∧ J [] wr) (fun _ _ => 0)
  case atStart => exact ⟨rfl, h0⟩
  case round =>
    obtain ⟨rfl, hJs⟩ := hrel
    gi_wp2
    go_end0
    exact ⟨⟨_, rfl⟩, hJs⟩
set_option maxHeartbeats 1000000 in
theorem back_in (F : Fence) (n : Nat) (h5 : F.fn 34) (hro : F.round = none) (a : Option Addr) (len cap : Nat) (w : World) :
    CallsIn F n Try.prog 34 #[.slice a len cap] w fun e w' => e = .returned (.func (.func 47) #[] #[.pointer (some ⟨w.heap.size, 0, none⟩)]) ∧ w' = w.alloc (.cells #[.slice a len cap] 56) := by
  refine callsIn_of_wp Try.func34 rfl h5 ?_ hro
  simp only [Try.ntmps34, List.size_toArray, List.length_cons, List.length_nil, Nat.reduceAdd, Nat.reduceSub, Array.replicate_succ, Array.replicate_zero, List.push_toArray, List.append_toArray, List.nil_append, List.cons_append]
  gi_wp2
  go_ret
  exact ⟨rfl, rfl⟩
def encB (x : Int × Int × ByteArray) : Array Value := #[Value.int .i64 x.1, .agg #[.int .i64 x.2.1, .string x.2.2]]
def atB (zs : List (Int × ByteArray)) (j : Nat) : Int × Int × ByteArray := (((zs.length - 1 - j : Nat) : Int), (zs[zs.length - 1 - j]?).getD (0, .empty))
theorem back_stops (F : Fence) (n : Nat) (h7 : F.fn 47) (hro : F.round = none) (hn : 1 ≤ n) (Bs n₀ : Nat) (o : Option Addr) (cap : Nat) (zs : List (Int × ByteArray)) (hreach : zs.length * 8 ≤ 140737488351232) (w : World) (hBs : Bs < n₀) (hn₀ : n₀ ≤ w.heap.size)
    (hc : w.cell? ⟨Bs, 0, none⟩ = some (.slice o zs.length cap)) (hI : zs = [] ∨ ∃ b off, o = some ⟨b, off, none⟩ ∧ b < n₀ ∧ ∀ j, j < zs.length → w.cell? ⟨b, off + j * 2, none⟩ = some (.int .i64 ((zs[j]?).getD (0, .empty)).1) ∧ w.cell? ⟨b, off + j * 2 + 1, none⟩ = some (.string ((zs[j]?).getD (0, .empty)).2)) :
    SeqStopsK F n Try.prog 47 #[.pointer (some ⟨Bs, 0, none⟩)] encB (Below n₀) (fun ys => ys = upto (atB zs) zs.length)
      (fun pre => ∃ k, k ≤ zs.length ∧ pre = upto (atB zs) k) zs.length w := fun l J Jx W hW _ _ hY h0 => by
  have hc' := (hW.cell (p := ⟨Bs, 0, none⟩) (by show Bs < _; omega)).trans hc
  rcases hI with rfl | ⟨b, off, rfl, hb, hcs⟩
  · exact (back1_nil_in F n h7 hro l Bs J W o cap hc' h0).mono fun e W' ⟨he, hj⟩ => ⟨he, .inl ⟨_, rfl, hj⟩⟩
  · have hcs' : ∀ j, j < zs.length → W.cell? ⟨b, off + j * 2, none⟩ = some (.int .i64 ((zs[j]?).getD (0, .empty)).1) ∧ W.cell? ⟨b, off + j * 2 + 1, none⟩ = some (.string ((zs[j]?).getD (0, .empty)).2) := fun j hj =>
      ⟨(hW.cell (p := ⟨b, off + j * 2, none⟩) (by show b < _; omega)).trans (hcs j hj).1, (hW.cell (p := ⟨b, off + j * 2 + 1, none⟩) (by show b < _; omega)).trans (hcs j hj).2⟩
    exact back1_in F n h7 hro hn l Bs n₀ b off zs.length cap (fun j => (zs[j]?).getD (0, .empty)) hreach hb hBs J Jx hY W hc' hcs' h0
end Go.Proofs.Ytpefegcdcojokaa.Disk
