/- strings.Repeat and strings.Join, as the kit has them proved, laid at this program. -/
import Derived.Shelf.Strings.Repeat
import Derived.Shelf.Strings.OnBuilder
import Derived.Shelf.Lay
import Derived.Ground.NamesProg
import Derived.Lib.Agree
import Derived.Test.YtpefegcdcojokaaStr2
import Derived.Test.YtpefegcdcojokaaVc
set_option linter.unusedVariables false
set_option linter.unusedSimpArgs false
namespace Go.Proofs.Ytpefegcdcojokaa.Disk
open Go Go.Proofs Go.Proofs.Ytpefegcdcojokaa.V Go.Proofs.Ytpefegcdcojokaa.Vc Go.RowKit Go.Shelf

shelf_lay Lays.n105 Nm 105 at Try as laysRepeat
theorem extraR : Builder.Extra Try.prog laysRepeat_ren where
  sizeBuilder := by kernel_rfl
  liesBuilder := by kernel_rfl
  t5 := laysRepeat.t5
  a5 := laysRepeat.a5
  z5 := laysRepeat.z5
  v5 := laysRepeat.v5
  infoByte := by kernel_rfl
  cellsByte := by kernel_rfl
  sizeByte := by kernel_rfl
  neB5 := by decide
theorem fRepeat : laysRepeat_ren.f 105 = i_strings_Repeat := by kernel_rfl
theorem Repeat_spec (w : World) (l : List UInt8) (c : Nat) (hc : c ≤ 1000000) (hl : l.length ≤ 1000) : Calls Try.prog i_strings_Repeat #[.string (str l), .int .i64 c] w (Ret fun v w' => v = .string (str (Lib.repeatL l c)) ∧ Ch Non w w') := by
  have hm : l.length * c ≤ 1000 * 1000000 := Nat.mul_le_mul hl hc
  have h := Any.strings_Repeat laysRepeat extraR (str l) c w (by omega) (by rw [str_size]; omega)
  rw [fRepeat, str_data] at h
  refine h.mono ?_
  rintro e w' ⟨rfl, hb⟩
  exact ⟨rfl, Ch.of_below hb⟩
shelf_lay Lays.n156 Nm 156 at Try as laysJoin
theorem extraJ : Builder.Extra Try.prog laysJoin_ren where
  sizeBuilder := by kernel_rfl
  liesBuilder := by kernel_rfl
  t5 := laysRepeat.t5
  a5 := laysRepeat.a5
  z5 := laysRepeat.z5
  v5 := laysRepeat.v5
  infoByte := by kernel_rfl
  cellsByte := by kernel_rfl
  sizeByte := by kernel_rfl
  neB5 := by decide
theorem fJoin : laysJoin_ren.f 156 = i_strings_Join := by kernel_rfl
theorem join_flat : ∀ xs : List (List UInt8), Lib.join xs [] = xs.flatten
  | [] => rfl
  | x :: r => by
    rw [Lib.join_cons]
    unfold Lib.joinTail
    simp
theorem Join_spec {w : World} {o : Option Addr} {n c : Nat} {xs : List (List UInt8)} {F : Nat → Prop} (h : V.Own w t_string 1 o n c (xs.map fun l => Value.string (str l)) F) (hn : n = xs.length) (hm : xs.length ≤ 100000) (hf : xs.flatten.length ≤ 100000000) :
    Calls Try.prog i_strings_Join #[.slice o n c, .string (str [])] w (Ret fun v w' => v = .string (str xs.flatten) ∧ Ch Non w w') := by
  subst hn
  rcases Nat.eq_zero_or_pos xs.length with h0 | h0
  · have hx : xs = [] := List.eq_nil_of_length_eq_zero h0
    subst hx
    have h := Any.strings_Join_none laysJoin extraJ o c (str []) w
    rw [fJoin] at h
    refine h.mono ?_
    rintro e w' ⟨rfl, rfl⟩
    exact ⟨rfl, Ch.refl _ _⟩
  · have hcap : xs.length ≤ c := h.2.1
    have hrd := h.rd
    obtain ⟨a1, a2, a3, a4⟩ := h
    rcases a4 with ⟨rfl, rfl⟩ | ⟨g, off, cur, rfl, hF, hb, hl, ht⟩
    · omega
    · have hmm : (xs.map str).map (·.data.toList) = xs := by rw [List.map_map]; exact (List.map_congr_left (g := id) (fun l _ => str_data l)).trans (List.map_id _)
      have hlen : (xs.map str).length = xs.length := List.length_map _
      have h := Any.strings_Join laysJoin extraJ g off c (xs.map str) (str []) w (fun j x hj => by
        rw [List.getElem?_map] at hj
        obtain ⟨l, hl, rfl⟩ := Option.map_eq_some_iff.1 hj
        obtain ⟨ad, had, _, _, hc⟩ := hrd j (.string (str l)) (by rw [List.getElem?_map, hl]; rfl)
        injection had with had
        subst had
        rw [add_at] at hc
        exact hc) hb.lt (by rw [hlen]; omega) (by rw [hlen]; exact hcap) (by rw [hmm, str_data, join_flat]; omega)
      rw [fJoin, hlen, hmm, str_data, join_flat] at h
      refine h.mono ?_
      rintro e w' ⟨rfl, hb⟩
      exact ⟨rfl, Ch.of_below hb⟩
end Go.Proofs.Ytpefegcdcojokaa.Disk
