/- PatchBytes's contract: of all deeds and all bytes the Go function answers true and leaves what was there; the conditions stand in each theorem. -/
import Derived.Test.YtpcddfhfchempaaPatch4
set_option linter.unusedVariables false
set_option linter.unusedSimpArgs false
namespace Go.Proofs.Ytpcddfhfchempaa.Patch
open Go Go.Proofs Go.Proofs.Ytpcddfhfchempaa.V Go.Proofs.Ytpcddfhfchempaa.Vc Go.Proofs.Ytpcddfhfchempaa.Pen Go.RowKit

set_option maxRecDepth 100000 in
theorem op_dat2 {w : World} {x : List Value} (hl : x.length = Try.prog.cellsOf t_patch_Op) (h : DatC Try.prog w t_patch_Op x) : ∃ y : OpD, x = opEnc y ∧ y.d.size ≤ 140737488351232 := by
  obtain ⟨_, hf⟩ := h.struct Try.underlying126
  have h2 : Try.prog.cellsOf t_patch_Op = 4 := by kernel_rfl
  rw [h2] at hl
  match x, hl with
  | [a, b, c, d], _ =>
    have h0 : DatC Try.prog w t_int [a] := hf 0 _ rfl
    have h1 : DatC Try.prog w t_int [b] := hf 1 _ rfl
    have h2 : DatC Try.prog w t_int [c] := hf 2 _ rfl
    have h3 : DatC Try.prog w t_string [d] := hf 3 _ rfl
    obtain ⟨n0, e0, _⟩ := h0.int (k := .i64) (by kernel_rfl)
    obtain ⟨n1, e1, _⟩ := h1.int (k := .i64) (by kernel_rfl)
    obtain ⟨n2, e2, _⟩ := h2.int (k := .i64) (by kernel_rfl)
    obtain ⟨s, e3, hs⟩ := h3.string (by kernel_rfl)
    injection e0 with e0 _
    injection e1 with e1 _
    injection e2 with e2 _
    injection e3 with e3 _
    subst e0; subst e1; subst e2; subst e3
    exact ⟨⟨n0, n1, n2, s⟩, rfl, hs⟩
theorem great_spec2 {w : World} {o : Option Addr} {ys : List OpD} {G : Nat → Prop} (hx : Rd w o (ys.map opEnc).flatten G) (hl : ys.length ≤ 10000000000000) (hs : ∀ y ∈ ys, y.d.size ≤ 140737488351232) (c : Nat) : Calls Try.prog i_coadjutorlaw19_great #[.slice o ys.length c] w (Ret fun v w' => ∃ x : Bool, v = .bool x ∧ (x = false → ys.length ≤ 16384) ∧ w' = w) := by
  refine coadjutorlaw19_great.calls _ _ _ ?_
  unfold coadjutorlaw19_great.vc
  refine ⟨fun n i k w' => w' = w ∧ ∃ j : Nat, i = j ∧ j ≤ ys.length ∧ k = ys.length - j ∧ (j : Int) ≤ n ∧ n ≤ 1000000000000000, ⟨_, rfl, 0, rfl, Nat.zero_le _, rfl, by omega, by omega⟩, ?_⟩
  rintro jk n i k w' ⟨rfl, j, rfl, hj, rfl, hn, hn2⟩
  refine ⟨fun hlt => ⟨fun h => ?_, fun h => ⟨_, rfl, fun h2 => ?_, rfl⟩⟩, fun h => ⟨_, rfl, fun h2 => ?_, rfl⟩⟩
  · have hlt : j < ys.length := by have := of_decide_eq_true hlt; omega
    have h := of_decide_eq_true h
    have hsz := hs ys[j] (List.getElem_mem _)
    refine ⟨⟨by omega, by omega⟩, ops_at hx hlt fun p hp => ⟨_, hp.2.2.2, ys.length - (j + 1), by omega, rfl, j + 1, by rw [wrap_id (by omega) (by omega)]; rfl, hlt, rfl, ?_, ?_⟩⟩
    · rw [wrap_id (x := n + _) (by omega) (by omega), wrap_id (by omega) (by omega)]; omega
    · rw [wrap_id (x := n + _) (by omega) (by omega), wrap_id (by omega) (by omega)]; omega
  · have h2 := of_decide_eq_false h2
    have h := of_decide_eq_false h
    omega
  · have h2 := of_decide_eq_false h2
    have h := of_decide_eq_false h
    omega
theorem PatchBytes_true (W : World) (o1 : Option Addr) (n1 c1 : Nat) (h1 : DatC Try.prog W t_S_patch_Op [.slice o1 n1 c1]) (s : ByteArray) (_ : s.size ≤ 140737488351232) :
    Calls Try.prog i_coadjutorlaw19_PatchBytes #[.slice o1 n1 c1, .string s] W (Ret fun v w' => v = .bool true ∧ Ch Non W w') := by
  obtain ⟨o1', c1', av, hcs1, _, _, hm1, hQ, ha⟩ := h1.sliceOf (e := t_patch_Op) (enc := opEnc) (Q := fun y => y.d.size ≤ 140737488351232) (by kernel_rfl) (fun x hl hd => op_dat2 hl hd)
  injection hcs1 with hcs1
  injection hcs1 with q1 q2 q3
  subst q1; subst q2; subst q3
  have hby : Try.prog.bytesOf t_patch_Op = 40 := by kernel_rfl
  rw [hby] at hm1
  refine coadjutorlaw19_PatchBytes.calls _ _ _ _ ?_
  unfold coadjutorlaw19_PatchBytes.vc
  refine step_call (awake_spec W) ?_
  rintro v w1 ⟨rfl, hC1⟩
  refine ⟨_, rfl, iteF rfl ?_⟩
  refine step_call (great_spec2 (ha.keepN hC1) (by omega) hQ c1) ?_
  rintro v w2 ⟨x, rfl, hx, rfl⟩
  refine ⟨x, rfl, fun _ => ⟨rfl, hC1⟩, fun hxf => ⟨fun _ => ⟨rfl, hC1⟩, fun hs => ?_⟩⟩
  have hl := hx hxf
  refine step_call (Bytes_spec (ha.keepN hC1) (by omega) c1) ?_
  rintro v w3 ⟨rfl, hc⟩
  have hC3 := hC1.andN hc
  refine ⟨_, _, rfl, ?_⟩
  refine step_call (forms_spec (ha.keepN hC3) (by omega) c1) ?_
  rintro v w4 ⟨o4, c4, rfl, hf4, hc⟩
  have hC4 := hC3.andN hc
  refine ⟨_, _, _, rfl, ?_⟩
  refine step_call (RefBytes_spec hf4 (by omega) c4) ?_
  rintro v w5 ⟨rfl, hc⟩
  have hC5 := hC4.andN hc
  refine ⟨_, _, rfl, fun w' => Ch Non W w', ?_, ?_⟩
  · have hcost := Cost_spec (ha.keepN hC5) (by omega) c1
    have heq : (!((str (bytesT av)).toList == (str (bytesT av)).toList)) = false := by simp
    refine iteF ?_ ⟨fun h => iteF ?_ (iteF heq ?_), fun h => iteF heq ?_⟩
    · cases bytesOk av <;> rfl
    · have h : bytesOk av = false := by simpa using h
      rw [h]; rfl
    · refine step_call hcost ?_
      rintro v w6 ⟨rfl, hc⟩
      exact ⟨_, rfl, iteF (by rw [str_size]; simp) (hC5.andN hc)⟩
    · refine step_call hcost ?_
      rintro v w6 ⟨rfl, hc⟩
      exact ⟨_, rfl, iteF (by rw [str_size]; simp) (hC5.andN hc)⟩
  rintro jk w8 hC8
  refine step_call (Parse_spec w8 s) ?_
  rintro v w9 ⟨o9, c9, rfl, hr9, hc⟩
  have hC9 := hC8.andN hc
  refine ⟨_, _, _, _, rfl, ?_⟩
  refine step_call (RefParse_spec w9 s) ?_
  rintro v w10 ⟨o10, n10, c10, rfl, hr10, hc10⟩
  have hC10 := hC9.andN hc10
  refine ⟨_, _, _, _, rfl, fun w' => w' = w10, ?_, ?_⟩
  · cases hR : parseR s.data.toList with
    | none => exact iteF rfl ⟨fun _ => iteF rfl (iteF rfl ⟨fun h => (by cases h), fun _ => rfl⟩), fun h => (by cases h)⟩
    | some ys =>
      have hn := (hr10 ys hR).1
      subst hn
      exact iteF rfl ⟨fun h => (by cases h), fun _ => ⟨fun _ => iteF (by simp) rfl, fun _ => rfl⟩⟩
  rintro jk w11 rfl
  have hcap : ∀ {ys}, parseR s.data.toList = some ys → ys.length ≤ 256 := fun {ys} h => by
    unfold parseR at h
    cases hp : parseL (numE (s.data.toList, false) 256).1 (numE (s.data.toList, false) 256).2 [] with
    | none => rw [hp] at h; cases h
    | some p =>
      rw [hp] at h
      have hlen := parseL_len _ _ _ hp
      have hn := numE_le (st := (s.data.toList, false)) (most := 256) (by omega)
      have h : (if endE p.2 = 0 then some p.1 else none) = some ys := h
      split at h
      · injection h with h
        subst h
        rw [hlen]; simp; omega
      · cases h
  have hps : ((parseR s.data.toList).getD []).length ≤ 256 := by
    cases hR : parseR s.data.toList with
    | none => simp
    | some ys => exact hcap hR
  have hsome : 0 < ((parseR s.data.toList).getD []).length → parseR s.data.toList = some ((parseR s.data.toList).getD []) := fun h => by
    cases hR : parseR s.data.toList with
    | none => rw [hR] at h; simp at h
    | some ys => rfl
  have hr10 := hr10 ((parseR s.data.toList).getD [])
  generalize (parseR s.data.toList).getD [] = ps at hps hsome hr9 hr10 ⊢
  refine step_call (forms_spec (hr9.keepN hc10) (by omega) c9) ?_
  rintro v w12 ⟨o12, c12, rfl, hf12, hc12⟩
  have hC12 := hC10.andN hc12
  refine ⟨_, _, _, rfl, fun i k w' => Ch Non w12 w' ∧ ∃ j : Nat, i = j ∧ j ≤ ps.length ∧ k = ps.length - j, ⟨_, Ch.refl _ _, 0, rfl, Nat.zero_le _, rfl⟩, ?_⟩
  rintro jk i k w13 ⟨hc13, j, rfl, hj, rfl⟩
  refine ⟨fun hlt => ?_, fun hge => ⟨rfl, hC12.andN hc13⟩⟩
  have hlt : j < ps.length := by have := of_decide_eq_true hlt; omega
  obtain ⟨hn, hr11⟩ := hr10 (hsome (by omega))
  clear hr10
  subst hn
  have hat : ∀ {o : Option Addr} {p : Addr} {F : Nat → Prop}, o = some p → Rd w12 o (ps.map opEnc).flatten F → ∀ (q : Nat) (v : Value), (opEnc ps[j])[q]? = some v → ∀ w' : World, Ch Non w12 w' → w'.cell? ((p.add ((j : Int).toNat * 4)).add q) = some v := fun {o p F} ho hr q v hv w' hc => by
    obtain ⟨p', hp', _, _, h⟩ := (hr.keepN hc).elem (sz := 4) (fun y => rfl) (by omega) hlt
    have hpp : p = p' := Option.some.inj (ho.symm.trans hp')
    rw [hpp]
    rw [Int.toNat_natCast]
    exact h q v hv
  have hr12 := hr11.keepN hc12
  obtain ⟨p1, hp1, _, _, _⟩ := hf12.elem (sz := 4) (fun y => rfl) (by omega) hlt
  obtain ⟨p2, hp2, _, _, _⟩ := hr12.elem (sz := 4) (fun y => rfl) (by omega) hlt
  have a1 := hat hp1 hf12
  have a2 := hat hp2 hr12
  have a10 : ∀ w' : World, Ch Non w12 w' → w'.cell? (p1.add ((j : Int).toNat * 4)) = some (.int .i64 ps[j].k) := fun w' hc => by
    have := a1 0 _ rfl w' hc
    rwa [add_none] at this
  have a20 : ∀ w' : World, Ch Non w12 w' → w'.cell? (p2.add ((j : Int).toNat * 4)) = some (.int .i64 ps[j].k) := fun w' hc => by
    have := a2 0 _ rfl w' hc
    rwa [add_none] at this
  subst hp1; subst hp2
  refine ⟨fun w' => Ch Non w12 w', fun w14 e14 => ⟨hc13.andN (Ch.drew e14), ⟨by omega, by omega⟩, ?_⟩⟩
  refine ⟨_, _, _, _, ⟨a10, a1 1 _ rfl, a1 2 _ rfl, a1 3 _ rfl⟩, ⟨by omega, by omega⟩, ?_⟩
  refine ⟨_, _, _, _, ⟨a20, a2 1 _ rfl, a2 2 _ rfl, a2 3 _ rfl⟩, ?_⟩
  exact iteF (by simp) ⟨ps.length - (j + 1), by omega, hc13.andN (Ch.drew e14), j + 1, by rw [wrap_id (by omega) (by omega)]; rfl, hlt, rfl⟩
end Go.Proofs.Ytpcddfhfchempaa.Patch
