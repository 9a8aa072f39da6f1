/- For all rows of whole numbers: what the law's comparison answers. -/
import Derived.Test.YtfecfdhigkehgaaNumS
import Derived.Test.YtfecfdhigkehgaaVcSoft
set_option linter.unusedVariables false
set_option linter.unusedSimpArgs false
namespace Go.Proofs.Ytfecfdhigkehgaa.Soft
open Go Go.Proofs Go.Proofs.Ytfecfdhigkehgaa.V Go.Proofs.Ytfecfdhigkehgaa.Vc Go.Proofs.Ytfecfdhigkehgaa.Num Go.RowKit

theorem zeroRow_one (v : Value) : ∀ n, zeroRow [v] n = List.replicate n v
  | 0 => rfl
  | n + 1 => by rw [zeroRow, zeroRow_one v n, List.replicate_succ]; rfl
section
variable {w : World} {oa ob : Option Addr} {ca cb : Nat} {xs ys : List Int} {F G : Nat → Prop}
theorem ints_spec (ha : Rd w oa (xs.map (.int .i64)) F) (hb : Rd w ob (ys.map (.int .i64)) G) (hl : xs.length ≤ 1000000000) :
    Calls Try.prog i_coadjutorlaw12_ints #[.slice oa xs.length ca, .slice ob ys.length cb] w (Ret fun v w' => v = .bool (decide (xs = ys)) ∧ Ch Non w w') := by
  refine coadjutorlaw12_ints.calls _ _ _ _ _ _ ?_
  unfold coadjutorlaw12_ints.vc
  refine ⟨fun h => ?_, fun h => ?_⟩
  · have h : xs.length ≠ ys.length := by simp at h; omega
    exact ⟨by rw [decide_eq_false (fun e => h (by rw [e]))], Ch.refl _ _⟩
  have h : xs.length = ys.length := by simp at h; omega
  refine ⟨fun i k w' => ∃ j : Nat, i = j ∧ j ≤ xs.length ∧ k = xs.length - j ∧ xs.take j = ys.take j ∧ Ch Non w w', ⟨_, 0, rfl, Nat.zero_le _, rfl, rfl, Ch.refl _ _⟩, ?_⟩
  rintro jk i k w1 ⟨j, rfl, hj, rfl, he, hc⟩
  refine ⟨fun hlt => ?_, fun hge => ?_⟩
  · have hlt : j < xs.length := by simpa using hlt
    have hlt2 : j < ys.length := by omega
    refine ⟨fun w2 => Ch Non w w2, fun w2 e2 => ⟨hc.andN (Ch.drew e2), ⟨by omega, by omega⟩, Rd.keeps (j := (j : Int).toNat * 1) (S := fun w2 => Ch Non w w2) (fun w2 h2 => ha.keepN h2) hc (by simpa using hlt) fun p hp => ⟨_, hp, ⟨by omega, by omega⟩,
      Rd.keeps (j := (j : Int).toNat * 1) (S := fun w2 => Ch Non w w2) (fun w2 h2 => hb.keepN h2) hc (by simpa using hlt2) fun p2 hp2 => ⟨_, hp2, fun hne => ?_, fun heq => ?_⟩⟩⟩⟩
    · refine ⟨?_, hc.andN (Ch.drew e2)⟩
      rw [decide_eq_false]
      intro e
      subst e
      simp at hne
    · have heq : xs[j] = ys[j] := by simpa using heq
      refine ⟨xs.length - (j + 1), by omega, j + 1, by rw [wrap_id (by omega) (by omega)]; rfl, hlt, rfl, ?_, hc.andN (Ch.drew e2)⟩
      rw [take_snoc xs j hlt, take_snoc ys j hlt2, he, heq]
  · have : j = xs.length := by simp at hge; omega
    subst this
    rw [List.take_length, h, List.take_length] at he
    exact ⟨by rw [decide_eq_true he], hc⟩
end
end Go.Proofs.Ytfecfdhigkehgaa.Soft
