/- For every two models: a blend lies between, and how many prompts agree; the conditions stand in each theorem. -/
import Derived.Test.YtbadkcnemcnhfaaGreatDoorLensG
import Derived.Test.YtbadkcnemcnhfaaGreatDoorLensF
import Derived.Test.YtbadkcnemcnhfaaGreatDoorGenE
import Derived.Test.YtbadkcnemcnhfaaGreatDoorConfD
set_option linter.unusedVariables false
set_option linter.unusedSimpArgs false
namespace Go.Proofs.YtbadkcnemcnhfaaGreatDoor.Lens
open Go Go.Proofs Go.Proofs.YtbadkcnemcnhfaaGreatDoor.V Go.Proofs.YtbadkcnemcnhfaaGreatDoor.Vc Go.Proofs.YtbadkcnemcnhfaaGreatDoor.Conf Go.Proofs.YtbadkcnemcnhfaaGreatDoor.Brain Go.Proofs.YtbadkcnemcnhfaaGreatDoor.Num Go.Proofs.YtbadkcnemcnhfaaGreatDoor.Stp Go.Proofs.YtbadkcnemcnhfaaGreatDoor.Gen Go.RowKit

/-- Whether two models say the same behind a prompt. -/
def agreeB (c : CfD) (wa : ByteArray) (d : CfD) (wb : ByteArray) (most : Int) (ts : List Int) : Bool := decide (checkP c most ts = 0) && (decide (checkP d most ts = 0) && decide (sayP c wa bestT most ts = sayP d wb bestT most ts))
section
variable {w w' : World} {ba bb : Nat} {c d : CfD} {wa wb : ByteArray} {F G : Nat → Prop} {pv : Value} {pss : List (List Int)}
theorem Agree_spec (h : BrK w ba c wa) (k : BrK w bb d wb) (most : Int) (hp : RV w pv pss F) (hl : pss.length ≤ 1000000) (hs : ∀ ts ∈ pss, ts.length ≤ 1000000) : Calls Tryz.prog i_lens_Agree #[.pointer (some ⟨ba, 0, none⟩), .pointer (some ⟨bb, 0, none⟩), .int .i64 most, pv] w (Ret fun v w' => v = .tuple #[.int .i64 ((pss.filter (agreeB c wa d wb most)).length : Int), .int .i64 0] ∧ Ch Non w w') := by
  have hp' := hp
  obtain ⟨po, pc, us, rfl, _⟩ := hp
  refine lens_Agree.calls _ _ _ _ _ _ ?_
  unfold lens_Agree.vc
  refine ⟨fun n i k w' => Ch Non w w' ∧ ∃ j : Nat, i = j ∧ j ≤ pss.length ∧ k = pss.length - j ∧ n = (((pss.take j).filter (agreeB c wa d wb most)).length : Int), ⟨_, Ch.refl _ _, 0, rfl, Nat.zero_le _, rfl, rfl⟩, ?_⟩
  rintro jk n i kk w1 ⟨hc1, j, rfl, hj, rfl, rfl⟩
  have hfl : ((pss.take j).filter (agreeB c wa d wb most)).length ≤ j := Nat.le_trans (List.length_filter_le _ _) (by rw [List.length_take]; omega)
  refine ⟨RefM.dT fun hlt => ?_, RefM.dF fun hge => ?_⟩
  · have hlt : j < pss.length := by omega
    obtain ⟨a, o', c', rfl, _, hiv, hcell⟩ := RefS.RV.get hp' hlt
    have hts := hs _ (List.getElem_mem hlt)
    have hsn : (pss.take (j + 1)).filter (agreeB c wa d wb most) = (pss.take j).filter (agreeB c wa d wb most) ++ (if agreeB c wa d wb most pss[j] then [pss[j]] else []) := by
      rw [List.take_succ_eq_append_getElem hlt, List.filter_append, List.filter_cons, List.filter_nil]
    generalize pss[j] = ts at hiv hcell hts hsn
    have yes : agreeB c wa d wb most ts = true → ∀ w', Ch Non w w' → ∃ vk_1 : Nat, vk_1 < pss.length - j ∧ Ch Non w w' ∧ ∃ j' : Nat, IntKind.i64.wrap ((j : Int) + 1) = j' ∧ j' ≤ pss.length ∧ vk_1 = pss.length - j' ∧ IntKind.i64.wrap (((((pss.take j).filter (agreeB c wa d wb most)).length : Nat) : Int) + 1) = (((pss.take j').filter (agreeB c wa d wb most)).length : Int) := fun hy w' hc => ⟨pss.length - (j + 1), by omega, hc, j + 1, by rw [wrap_id (by omega) (by omega)]; rfl, hlt, rfl, by rw [hsn, hy, if_pos rfl, List.length_append, wrap_id (by omega) (by omega)]; rfl⟩
    have no : agreeB c wa d wb most ts = false → ∀ w', Ch Non w w' → ∃ vk_1 : Nat, vk_1 < pss.length - j ∧ Ch Non w w' ∧ ∃ j' : Nat, IntKind.i64.wrap ((j : Int) + 1) = j' ∧ j' ≤ pss.length ∧ vk_1 = pss.length - j' ∧ ((((pss.take j).filter (agreeB c wa d wb most)).length : Nat) : Int) = (((pss.take j').filter (agreeB c wa d wb most)).length : Int) := fun hy w' hc => ⟨pss.length - (j + 1), by omega, hc, j + 1, by rw [wrap_id (by omega) (by omega)]; rfl, hlt, rfl, by rw [hsn, hy, if_neg (by simp), List.append_nil]⟩
    refine ⟨⟨by omega, by omega⟩, _, _, _, hcell Non w1 hc1 (fun _ _ _ => id), step_call (Greedy_spec (h.keepN hc1) (hiv.keepN hc1) hts most) ?_⟩
    rintro v w2 hR2
    have hc2 := hR2.ch
    obtain ⟨u2, rfl, hu2⟩ := hR2.say
    have hu2' := hu2
    obtain ⟨o2, c2, rfl, _⟩ := hu2
    have hc12 := hc1.andN hc2
    refine ⟨_, _, _, _, rfl, step_call (Greedy_spec (k.keepN hc12) (hiv.keepN hc12) hts most) ?_⟩
    rintro v w3 hR3
    have hc3 := hR3.ch
    obtain ⟨u3, rfl, hu3⟩ := hR3.say
    have hu3' := hu3
    obtain ⟨o3, c3, rfl, _⟩ := hu3
    have hc13 := hc12.andN hc3
    refine ⟨_, _, _, _, rfl, RefM.bT fun k1 => ⟨RefM.bT fun k2 => ?_, RefM.bF fun k2 => no (by unfold agreeB; rw [decide_eq_false k2]; simp) _ hc13⟩, RefM.bF fun k1 => no (by unfold agreeB; rw [decide_eq_false k1]; rfl) _ hc13⟩
    rw [if_pos k1] at hu2'
    rw [if_pos k2] at hu3'
    obtain ⟨o2', c2', he2, _, _, hr2⟩ := hu2'
    obtain ⟨o3', c3', he3, _, _, hr3⟩ := hu3'
    rw [if_pos k1, if_pos k2, he2, he3]
    have hsl : (sayP c wa bestT most ts).length ≤ 1000000 := by
      have := sayG_len (c := c) (wt := wa) (tk := bestT) most.toNat 0 (runE c wa [] ts) (Stp.runS c wa [] [] ts)
      obtain ⟨_, hm1, hm2, _, _⟩ := checkP_ok k1
      unfold sayP; omega
    refine step_call (Step.Equal_spec (hr2.keepN hc3) hr3 (by omega)) ?_
    rintro v w4 ⟨rfl, hc4⟩
    refine ⟨_, rfl, RefM.dT fun he => yes (by unfold agreeB; rw [decide_eq_true k1, decide_eq_true k2, decide_eq_true he]; rfl) _ (hc13.andN hc4), RefM.dF fun he => no (by unfold agreeB; rw [decide_eq_true k1, decide_eq_true k2, decide_eq_false he]; rfl) _ (hc13.andN hc4)⟩
  · have hje : j = pss.length := by omega
    subst hje
    rw [List.take_length]
    exact ⟨rfl, hc1⟩
end
end Go.Proofs.YtbadkcnemcnhfaaGreatDoor.Lens
