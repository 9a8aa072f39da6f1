/- For every world of the model: what a string read as bytes, and bytes read as a string, come to; the conditions stand in each theorem. -/
import Derived.Test.YtbadkcnemcnhfaaDoorH
import Derived.Lib.ConvBytes
import Derived.Laws.IdiomStrings
import Derived.Shelf.Bytes.SlSmallAll
set_option linter.unusedVariables false
set_option linter.unusedSimpArgs false
namespace Go.Proofs.YtbadkcnemcnhfaaDoor.V
open Go Go.Proofs Go.RowKit

def u8v (b : UInt8) : Value := .int .u8 (b.toNat : Int)
theorem u8v_one (bs : List UInt8) : ∀ u ∈ bs.map u8v, u.oneCell' = true := by
  intro u hu
  obtain ⟨b, _, rfl⟩ := List.mem_map.1 hu
  rfl
section
variable {P : Program} {w : World} {src dst e : TypeId}
/-- []byte(t) -/
theorem conv_in (t : ByteArray) (hs : P.underlying src = some .string) (hd : P.underlying dst = some (.slice e)) (he : P.underlying e = some (.int .u8)) :
    ∃ (c : Nat) (w' : World), (convert src dst (.string t)).run P w = .ok (.slice (some ⟨w.heap.size, 0, none⟩) t.size c) w' ∧ Rd w' (some ⟨w.heap.size, 0, none⟩) (t.data.toList.map u8v) (New w w') ∧ Ch Non w w' ∧ w'.heap.size = w.heap.size + 1 := by
  refine ⟨_, _, Lib.run_convert_string_bytes w src dst e t hs hd he, fun j v hj => ?_, ?_, Lib.bytesWorld_size w e t⟩
  · have hlt : j < t.data.toList.length := by
      have := (List.getElem?_eq_some_iff.1 hj).1
      simpa using this
    have hsz : j < t.size := by simpa using hlt
    have hsize := Lib.bytesWorld_size w e t
    refine ⟨_, rfl, ⟨Nat.le_refl _, by rw [hsize]; exact Nat.lt_succ_self _⟩, by rw [hsize]; exact Nat.lt_succ_self _, ?_⟩
    rw [add_at, Nat.zero_add, Lib.bytesWorld_cell w e t j hsz]
    rw [List.getElem?_map, List.getElem?_eq_getElem hlt] at hj
    simp only [Option.map_some, Option.some.injEq] at hj
    rw [← hj]
    unfold u8v
    rw [List.getD_eq_getElem?_getD, List.getElem?_eq_getElem hlt]
    rfl
  · exact Ch.of_below ⟨rfl, rfl, rfl, by rw [Lib.bytesWorld_size]; omega, fun j hj => Lib.bytesWorld_at_old w e t j hj⟩
/-- string(b) -/
theorem conv_out {o : Option Addr} {c : Nat} {bs : List UInt8} {F : Nat → Prop} (hr : Rd w o (bs.map u8v) F) (hs : P.underlying src = some (.slice e)) (he : P.underlying e = some (.int .u8)) (hd : P.underlying dst = some .string) :
    (convert src dst (.slice o bs.length c)).run P w = .ok (.string ⟨bs.toArray⟩) w := by
  cases bs with
  | nil => exact run_convert_bytes_zero w src e hs he o c dst hd
  | cons b r =>
    obtain ⟨a, ha, _, _, _⟩ := hr 0 (u8v b) rfl
    subst ha
    refine run_convert_bytes_back w src dst e a c (b :: r) hs he hd (fun j hj => ?_)
    obtain ⟨a', ha', _, _, hc⟩ := hr j (u8v (b :: r)[j]) (by rw [List.getElem?_map, List.getElem?_eq_getElem hj]; rfl)
    injection ha' with ha'
    subst ha'; exact hc
end
theorem str_ext {s t : ByteArray} (h : s.data.toList = t.data.toList) : s = t := by
  cases s; cases t
  simp at h
  congr
theorem str_toList (s : ByteArray) : s.toList = s.data.toList := by
  have main : ∀ (i : Nat) (r : List UInt8), i ≤ s.size → ByteArray.toList.loop s i r = r.reverse ++ s.data.toList.drop i := by
    intro i
    generalize hk : s.size - i = k
    induction k generalizing i with
    | zero =>
      intro r hi
      have : i = s.size := by omega
      rw [ByteArray.toList.loop, if_neg (by omega), List.drop_of_length_le (by simp; omega), List.append_nil]
    | succ k ih =>
      intro r hi
      have hlt : i < s.size := by omega
      rw [ByteArray.toList.loop, if_pos hlt, ih (i + 1) (by omega) _ (by omega)]
      have hl : i < s.data.toList.length := by simpa using hlt
      rw [List.reverse_cons, List.append_assoc, List.drop_eq_getElem_cons hl]
      congr 1
      have : s.get! i = s.data.toList[i] := by
        show s.data[i]! = _
        rw [getElem!_pos s.data i (by simpa using hlt)]
        simp
      rw [this]; rfl
  have := main 0 [] (Nat.zero_le _)
  simpa [ByteArray.toList] using this
end Go.Proofs.YtbadkcnemcnhfaaDoor.V
