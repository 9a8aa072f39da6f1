/- For all tables and rows of whole numbers: what layer 11's functions answer; the conditions stand in each theorem. -/
import Derived.Test.YtbadkcnemcnhfaaDoorNumDot
import Derived.Test.YtbadkcnemcnhfaaDoorNumR
import Derived.Test.YtbadkcnemcnhfaaDoorGrow
import Derived.Test.YtbadkcnemcnhfaaDoorStr
import Derived.Test.YtbadkcnemcnhfaaDoorVecsInts
set_option linter.unusedVariables false
set_option linter.unusedSimpArgs false
namespace Go.Proofs.YtbadkcnemcnhfaaDoor.Vecs
open Go Go.Proofs Go.Proofs.YtbadkcnemcnhfaaDoor.V Go.Proofs.YtbadkcnemcnhfaaDoor.Vc Go.Proofs.YtbadkcnemcnhfaaDoor.Num Go.RowKit

def goodB (r c : Int) (n : Nat) : Bool := decide (1 ≤ r ∧ r ≤ 64 ∧ 1 ≤ c ∧ c ≤ 64 ∧ (n : Int) = r * c)
theorem goodB_nat {r c : Int} {n : Nat} (h : goodB r c n = true) : ∃ R C : Nat, r = R ∧ c = C ∧ 1 ≤ R ∧ R ≤ 64 ∧ 1 ≤ C ∧ C ≤ 64 ∧ n = R * C := by
  have h := of_decide_eq_true h
  refine ⟨r.toNat, c.toNat, by omega, by omega, by omega, by omega, by omega, by omega, ?_⟩
  obtain ⟨R, rfl⟩ : ∃ R : Nat, r = R := ⟨r.toNat, by omega⟩
  obtain ⟨C, rfl⟩ : ∃ C : Nat, c = C := ⟨c.toNat, by omega⟩
  have := h.2.2.2.2
  simp only [Int.toNat_natCast]
  exact_mod_cast this
theorem mul64 {r c : Int} (h1 : 1 ≤ r) (h2 : r ≤ 64) (h3 : 1 ≤ c) (h4 : c ≤ 64) : 1 ≤ r * c ∧ r * c ≤ 4096 := by
  have a := Int.mul_le_mul h2 h4 (by omega) (by omega)
  have b := Int.mul_le_mul h1 h3 (by omega) (by omega)
  omega
theorem isSide_spec (w : World) (n : Int) : Calls Tryd.prog i_vecs_isSide #[.int .i64 n] w (Ret fun v w' => v = .bool (decide (1 ≤ n ∧ n ≤ 64)) ∧ w' = w) := by
  refine vecs_isSide.calls _ ?_
  unfold vecs_isSide.vc
  refine ⟨fun h => ⟨?_, rfl⟩, fun h => ⟨?_, rfl⟩⟩
  · have h : n ≥ 1 := by simpa using h
    rw [decide_eq_decide.2 (show n ≤ 64 ↔ 1 ≤ n ∧ n ≤ 64 by omega)]
  · have h : ¬ n ≥ 1 := by simpa using h
    rw [decide_eq_false (by omega)]
section
variable {w : World} {r c : Int} {o : Option Addr} {n cap : Nat} {ds vs : List Int} {F G : Nat → Prop} {ov : Option Addr} {cv : Nat}
/-- A number's byte. -/
def toB (x : Int) : UInt8 := UInt8.ofNat (x % 256).toNat
theorem toB_val (x : Int) : u8v (toB x) = .int .u8 (IntKind.u8.wrap x) := by
  have hw : IntKind.u8.wrap x = x % 256 := rfl
  unfold u8v toB
  rw [hw, UInt8.toNat_ofNat']
  congr 1
  have h1 := Int.emod_nonneg x (show (256 : Int) ≠ 0 by omega)
  have h2 := Int.emod_lt_of_pos x (show (0 : Int) < 256 by omega)
  omega
def bytesT (ds : List Int) : ByteArray := ⟨(ds.map toB).toArray⟩
theorem bytesT_size (ds : List Int) : (bytesT ds).size = ds.length := by unfold bytesT; simp [ByteArray.size]
/-- The numbers of bytes. -/
def numsB (s : ByteArray) : List Int := s.data.toList.map fun b => IntKind.i8.wrap (b.toNat : Int)
theorem numsB_len (s : ByteArray) : (numsB s).length = s.size := by unfold numsB; simp
theorem bytes_nums (s : ByteArray) : bytesT (numsB s) = s := by
  apply str_ext
  unfold bytesT numsB
  simp only [List.map_map]
  refine List.map_id'' (fun b => ?_) _
  show toB (IntKind.i8.wrap (b.toNat : Int)) = b
  have hb := b.toNat_lt
  unfold toB
  have hw : IntKind.i8.wrap (b.toNat : Int) % 256 = b.toNat := by
    unfold IntKind.wrap
    simp [IntKind.bits, IntKind.signed]
    split <;> omega
  rw [hw, Int.toNat_natCast]
  exact UInt8.ofNat_toNat
/-- A table's row. -/
def rowAt (ds : List Int) (C i : Nat) : List Int := (ds.drop (i * C)).take C
theorem rowAt_len {R C i : Nat} (h : ds.length = R * C) (hi : i < R) : (rowAt ds C i).length = C := by
  unfold rowAt
  have : (i + 1) * C ≤ R * C := Nat.mul_le_mul_right _ hi
  rw [Nat.succ_mul] at this
  simp; omega
def rowT (ds : List Int) (r c at' : Int) : List Int := if goodB r c ds.length && decide (0 ≤ at' ∧ at' < r) then rowAt ds c.toNat at'.toNat else []
end
end Go.Proofs.YtbadkcnemcnhfaaDoor.Vecs
