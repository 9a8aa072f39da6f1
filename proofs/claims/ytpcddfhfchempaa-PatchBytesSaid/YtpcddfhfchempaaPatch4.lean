/- For all bytes and all deeds: what the document's layer 19 answers; the conditions stand in each theorem. -/
import Derived.Test.YtpcddfhfchempaaPatch3
set_option linter.unusedVariables false
set_option linter.unusedSimpArgs false
namespace Go.Proofs.Ytpcddfhfchempaa.Patch
open Go Go.Proofs Go.Proofs.Ytpcddfhfchempaa.V Go.Proofs.Ytpcddfhfchempaa.Vc Go.Proofs.Ytpcddfhfchempaa.Pen Go.RowKit

theorem RefGood_spec (w : World) {base : Int} (hb : 0 ≤ base ∧ base ≤ 2147483648) (y : OpD) : Calls Try.prog i_coadjutorref19_Good #[.int .i64 base, opAgg y] w (Ret fun v w' => v = .bool (goodOp base y) ∧ Ch Non w w') := by
  refine coadjutorref19_Good.calls _ _ _ _ _ ?_
  unfold coadjutorref19_Good.vc goodOp isInB
  intro w1 e1
  have hB := Blk.new e1
  have hC : Ch Non w w1 := Ch.alloc e1
  refine ⟨_, hB.cell 0 rfl, fun h1 => ?_, fun h1 => ⟨fun h2 => ?_, fun h2 => ⟨fun h3 => ?_, fun h3 => ?_⟩⟩⟩
  · have h1 : y.k = 1 := by simpa using h1
    rw [if_pos h1]
    refine ⟨_, hB.cell 2 rfl, fun a => ⟨_, hB.cell 1 rfl, fun b => ⟨_, hB.cell 1 rfl, fun c => ⟨_, hB.cell 2 rfl, _, hB.cell 1 rfl, fun d => ⟨_, hB.cell 3 rfl, ?_, hC⟩, fun d => ⟨?_, hC⟩⟩, fun c => ⟨?_, hC⟩⟩, fun b => ⟨?_, hC⟩⟩, fun a => ⟨?_, hC⟩⟩
    · have a := of_decide_eq_true a
      have b := of_decide_eq_true b
      have c := of_decide_eq_true c
      have d := of_decide_eq_true d
      rw [wrap_id (by omega) (by omega)] at d
      rw [decide_eq_true (show y.s ≥ 1 ∧ y.f ≥ 0 ∧ y.f ≤ base ∧ y.s ≤ base - y.f from ⟨a, b, c, d⟩), Bool.true_and, emp_beq]
    · have b := of_decide_eq_true b
      have c := of_decide_eq_true c
      have d := of_decide_eq_false d
      rw [wrap_id (by omega) (by omega)] at d
      rw [decide_eq_false (fun h => d h.2.2.2)]; rfl
    · rw [decide_eq_false (fun h => of_decide_eq_false c h.2.2.1)]; rfl
    · rw [decide_eq_false (fun h => of_decide_eq_false b h.2.1)]; rfl
    · rw [decide_eq_false (fun h => of_decide_eq_false a h.1)]; rfl
  · have h1 : ¬ y.k = 1 := by simpa using h1
    have h2 : y.k = 2 := by simpa using h2
    rw [if_neg h1, if_pos h2]
    refine ⟨_, hB.cell 1 rfl, fun a => ⟨_, hB.cell 2 rfl, fun b => ⟨_, hB.cell 3 rfl, fun c => ⟨_, hB.cell 3 rfl, ?_, hC⟩, fun c => ⟨?_, hC⟩⟩, fun b => ⟨?_, hC⟩⟩, fun a => ⟨?_, hC⟩⟩
    · have a : y.f = 0 := by simpa using a
      have b : y.s = 0 := by simpa using b
      have c := of_decide_eq_true c
      congr 1
      exact decide_eq_decide.2 ⟨fun h => ⟨a, b, by omega, by omega⟩, fun h => by have := h.2.2.2; omega⟩
    · have c := of_decide_eq_false c
      rw [decide_eq_false (fun h => by have := h.2.2.1; omega)]
    · have b : ¬ y.s = 0 := by simpa using b
      rw [decide_eq_false (fun h => b h.2.1)]
    · have a : ¬ y.f = 0 := by simpa using a
      rw [decide_eq_false (fun h => a h.1)]
  · have h1 : ¬ y.k = 1 := by simpa using h1
    have h2 : ¬ y.k = 2 := by simpa using h2
    have h3 : y.k = 3 := by simpa using h3
    rw [if_neg h1, if_neg h2, if_pos h3]
    have key : ∀ {b : Bool}, (b = true ↔ (y.s = 0 ∧ 1 ≤ y.d.size ∧ y.d.size ≤ 8192 ∧ 0 ≤ y.f ∧ y.f ≤ base ∧ (y.d.size : Int) ≤ base - y.f)) → (Value.bool b) = .bool (decide ((y.d.size : Int) ≥ 1 ∧ y.f ≥ 0 ∧ y.f ≤ base ∧ (y.d.size : Int) ≤ base - y.f) && decide (y.s = 0 ∧ y.d.size ≤ 8192)) := fun {b} h => by
      congr 1
      rw [Bool.eq_iff_iff, h]
      simp only [Bool.and_eq_true, decide_eq_true_eq]
      omega
    refine ⟨_, hB.cell 2 rfl, fun a => ⟨_, hB.cell 3 rfl, fun b => ⟨_, hB.cell 3 rfl, fun c => ⟨_, hB.cell 1 rfl, fun d => ⟨_, hB.cell 1 rfl, fun e => ⟨_, hB.cell 3 rfl, _, hB.cell 1 rfl, key ?_, hC⟩, fun e => ⟨key ?_, hC⟩⟩, fun d => ⟨key ?_, hC⟩⟩, fun c => ⟨key ?_, hC⟩⟩, fun b => ⟨key ?_, hC⟩⟩, fun a => ⟨key ?_, hC⟩⟩
    · have a : y.s = 0 := by simpa using a
      have b := of_decide_eq_true b
      have c := of_decide_eq_true c
      have d := of_decide_eq_true d
      have e := of_decide_eq_true e
      rw [wrap_id (by omega) (by omega), decide_eq_true_eq]
      omega
    · have e := of_decide_eq_false e
      exact ⟨fun h => (by cases h), fun h => (by omega)⟩
    · have e := of_decide_eq_false d
      exact ⟨fun h => (by cases h), fun h => (by omega)⟩
    · have e := of_decide_eq_false c
      exact ⟨fun h => (by cases h), fun h => (by omega)⟩
    · have e := of_decide_eq_false b
      exact ⟨fun h => (by cases h), fun h => (by omega)⟩
    · have e : ¬ y.s = 0 := by simpa using a
      exact ⟨fun h => (by cases h), fun h => (by omega)⟩
  · have h1 : ¬ y.k = 1 := by simpa using h1
    have h2 : ¬ y.k = 2 := by simpa using h2
    have h3 : ¬ y.k = 3 := by simpa using h3
    rw [if_neg h1, if_neg h2, if_neg h3]
    exact ⟨rfl, hC⟩
section
variable {w : World} {o : Option Addr} {ys : List OpD} {G : Nat → Prop}
theorem RefBytes_spec (hx : Rd w o (ys.map opEnc).flatten G) (hl : ys.length ≤ 1000000) (c : Nat) :
    Calls Try.prog i_coadjutorref19_Bytes #[.slice o ys.length c] w (Ret fun v w' => v = .tuple #[.string (str (bytesT ys)), .bool (bytesOk ys)] ∧ Ch Non w w') := by
  refine coadjutorref19_Bytes.calls _ _ _ ?_
  unfold coadjutorref19_Bytes.vc
  refine ⟨fun h => ?_, fun h256 => ?_⟩
  · have := of_decide_eq_true h
    have hno : bytesOk ys = false := by unfold bytesOk; rw [decide_eq_false (by omega)]; rfl
    unfold bytesT; rw [hno]; exact ⟨rfl, Ch.refl _ _⟩
  have h256 := of_decide_eq_false h256
  refine step_call (RefNum_spec w _) ?_
  rintro v w1 ⟨rfl, hC1⟩
  refine ⟨_, _, rfl, fun s i k w' => ∃ j : Nat, i = j ∧ j ≤ ys.length ∧ k = ys.length - j ∧ s = str (numI (ys.length : Int) ++ opsL (ys.take j)) ∧ (ys.take j).any badB = false ∧ Ch Non w w', ⟨_, 0, rfl, Nat.zero_le _, rfl, by simp [opsL], rfl, hC1⟩, ?_⟩
  rintro jk s i k w2 ⟨j, rfl, hj, rfl, rfl, hall, hC⟩
  refine ⟨fun hlt => ?_, fun hge => ?_⟩
  · have hlt : j < ys.length := by have := of_decide_eq_true hlt; omega
    have hsn := take_snoc ys j hlt
    refine ⟨⟨by omega, by omega⟩, ops_at (hx.keepN hC) hlt fun p hp => ⟨_, _, _, _, hp, fun w3 e3 => ?_⟩⟩
    have hO := Blk.new e3
    refine ⟨⟨hO.ok 0 rfl, hO.ok 1 rfl, hO.ok 2 rfl, hO.ok 3 rfl⟩, fun w4 e4 => ?_⟩
    have hmem : ys[j] ∈ ys := List.getElem_mem _
    have e5 : w4 = w3.setCells w2.heap.size 0 (opEnc ys[j]) := e4
    have hO4 := hO.all (opEnc ys[j]) rfl e5
    have hc4 : Ch Non w2 w4 := (Ch.alloc (F := Non) e3).trans (Ch.sets (F := (· = w2.heap.size)) e5 rfl) (fun i hi he => by omega)
    generalize w2.heap.size = xb at hO4 ⊢
    generalize ys[j] = y at hsn hmem hO4
    refine ⟨_, _, _, _, ⟨hO4.cell 0 rfl, hO4.cell 1 rfl, hO4.cell 2 rfl, hO4.cell 3 rfl⟩, ?_⟩
    refine step_call (RefGood_spec w4 (base := 2147483647) (by omega) y) ?_
    rintro v w5 ⟨rfl, hc5⟩
    have hC5 := (hC.andN hc4).andN hc5
    have hO5 := hO4.keepN hc5
    have hbad : badB y = !goodOp 2147483647 y := rfl
    refine ⟨_, rfl, fun hg => ?_, fun hg => ?_⟩
    · have hany : ys.any badB = true := by rw [List.any_eq_true]; exact ⟨y, hmem, by rw [hbad]; exact hg⟩
      have hno : bytesOk ys = false := by unfold bytesOk; rw [hany]; simp
      unfold bytesT; rw [hno]; exact ⟨rfl, hC5⟩
    have hy : badB y = false := by rw [hbad]; exact hg
    obtain ⟨b1, b2, b3, b4⟩ := opB_len hy
    have hall2 : (ys.take (j + 1)).any badB = false := by rw [hsn, List.any_append, hall]; simp [hy]
    have hlen := opsL_len hall
    have hlt2 : (ys.take j).length ≤ 256 := by rw [List.length_take]; omega
    have hlen2 : (numI (ys.length : Int) ++ opsL (ys.take j)).length ≤ 9000 * 256 + 4 := by rw [List.length_append, numI_len]; omega
    refine ⟨_, hO5.cell 0 rfl, fun w6 e6 => ?_⟩
    have hc6 : Ch Non w5 w6 := Ch.alloc e6
    have hrd : Rd w6 (some ⟨w5.heap.size, 0, none⟩) (([toB8 y.k] : List UInt8).map u8v) (· = w5.heap.size) := by
      have := (Blk.new e6).rd
      rw [List.map_singleton, toB8_val]
      exact this
    have hO6 := hO5.keepN hc6
    have hC6 := hC5.andN hc6
    refine ⟨_, _, conv_out (P := Try.prog) (src := t_S_uint8) (dst := t_string) (e := t_uint8) (c := 1) (bs := [toB8 y.k]) hrd (by kernel_rfl) (by kernel_rfl) (by kernel_rfl), ?_⟩
    change _ ∧ _
    have hstr1 : ({ data := #[toB8 y.k] } : ByteArray) = str [toB8 y.k] := rfl
    have hopB : opB y = [toB8 y.k] ++ (if y.k = 2 then [] else numI y.f) ++ (if y.k = 1 then numI y.s else textB y.d) := rfl
    have hnext : ∀ (l : List UInt8) (w' : World), l = opB y → Ch Non w w' → ∃ vk_1 : Nat, vk_1 < ys.length - j ∧ ∃ j' : Nat, IntKind.i64.wrap ((j : Int) + 1) = j' ∧ j' ≤ ys.length ∧ vk_1 = ys.length - j' ∧ str (numI (ys.length : Int) ++ opsL (ys.take j) ++ l) = str (numI (ys.length : Int) ++ opsL (ys.take j')) ∧ (ys.take j').any badB = false ∧ Ch Non w w' := fun l w' hl hc => by
      subst hl
      exact ⟨ys.length - (j + 1), by omega, j + 1, by rw [wrap_id (by omega) (by omega)]; rfl, hlt, rfl, by rw [hsn, opsL_snoc, List.append_assoc], hall2, hc⟩
    have hl1 : (opB y).length ≤ 9000 := b1
    have htb : ∀ {l : List UInt8}, (str l).size = l.length := str_size _
    refine ⟨by rw [str_size]; show ((_ + 1 : Nat) : Int) ≤ _; omega, _, hO6.cell 1 rfl, ?_⟩
    refine step_call (RefNum_spec w6 _) ?_
    rintro v w7 ⟨rfl, hc7⟩
    refine ⟨_, _, rfl, _, (hO6.keepN hc7).cell 2 rfl, ?_⟩
    refine step_call (RefNum_spec w7 _) ?_
    rintro v w8 ⟨rfl, hc8⟩
    have hO8 := (hO6.keepN hc7).keepN hc8
    have hC8 := (hC6.andN hc7).andN hc8
    have htl : (textB y.d).length ≤ 9000 := by unfold textB; rw [List.length_append, numI_len]; simp; omega
    refine ⟨_, _, rfl, _, hO8.cell 0 rfl, fun hk => ?_, fun hk => ⟨fun hk2 => ?_, fun hk2 => ?_⟩⟩
    · have hk : y.k = 1 := by simpa using hk
      rw [hopB, if_neg (by omega), if_pos hk] at hnext
      simp only [hstr1, str_app, str_size, List.length_append, numI_len, List.length_singleton] at *
      refine ⟨by omega, by omega, ?_⟩
      have := hnext _ w8 rfl hC8
      simp only [List.append_assoc] at this ⊢
      exact this
    · have hk1 : ¬ y.k = 1 := by simpa using hk
      have hk2 : y.k = 2 := by simpa using hk2
      rw [hopB, if_pos hk2, if_neg hk1] at hnext
      refine ⟨_, hO8.cell 3 rfl, ?_⟩
      refine step_call (RefText_spec w8 y.d (by omega)) ?_
      rintro v w9 ⟨rfl, hc9⟩
      refine ⟨_, rfl, ?_⟩
      have := hnext _ w9 rfl (hC8.andN hc9)
      simp only [hstr1, str_app, str_size, List.length_append, numI_len, List.length_singleton, List.append_assoc, List.append_nil, List.nil_append] at *
      exact ⟨by omega, this⟩
    · have hk1 : ¬ y.k = 1 := by simpa using hk
      have hk2 : ¬ y.k = 2 := by simpa using hk2
      rw [hopB, if_neg hk2, if_neg hk1] at hnext
      refine ⟨?_, _, hO8.cell 3 rfl, ?_⟩
      · simp only [hstr1, str_app, str_size, List.length_append, numI_len, List.length_singleton] at *
        omega
      refine step_call (RefText_spec w8 y.d (by omega)) ?_
      rintro v w9 ⟨rfl, hc9⟩
      refine ⟨_, rfl, ?_⟩
      have := hnext _ w9 rfl (hC8.andN hc9)
      simp only [hstr1, str_app, str_size, List.length_append, numI_len, List.length_singleton, List.append_assoc, List.append_nil, List.nil_append] at *
      exact ⟨by omega, this⟩
  · have : j = ys.length := by have := of_decide_eq_false hge; omega
    subst this
    rw [List.take_length] at hall ⊢
    have hok : bytesOk ys = true := by unfold bytesOk; rw [hall, decide_eq_true (by omega)]; rfl
    unfold bytesT
    rw [hok]
    exact ⟨rfl, hC⟩
theorem forms_spec (hx : Rd w o (ys.map opEnc).flatten G) (hl : ys.length ≤ 1000000) (c : Nat) :
    Calls Try.prog i_coadjutorlaw19_forms #[.slice o ys.length c] w (Ret fun v w' => ∃ (o' : Option Addr) (c' : Nat), v = .slice o' ys.length c' ∧ Rd w' o' (ys.map opEnc).flatten (New w w') ∧ Ch Non w w') := by
  refine coadjutorlaw19_forms.calls _ _ _ ?_
  unfold coadjutorlaw19_forms.vc
  intro w1 e1
  refine ⟨fun oA oN oC i k w' => ∃ j : Nat, i = j ∧ oN = j ∧ j ≤ ys.length ∧ k = ys.length - j ∧ Gr Non w w' t_coadjutorref19_Op 4 oA j oC ((ys.take j).map opEnc).flatten, ⟨_, 0, rfl, rfl, Nat.zero_le _, rfl, Gr.made0 (Ch.refl _ _) e1⟩, ?_⟩
  rintro jk oA oN oC i k w2 ⟨j, rfl, rfl, hj, rfl, hg⟩
  refine ⟨fun hlt => ?_, fun hge => ?_⟩
  · have hlt : oN < ys.length := by have := of_decide_eq_true hlt; omega
    have hS : ∀ w' : World, Ch Non w w' → Rd w' o (ys.map opEnc).flatten G := fun w' h => hx.keepN h
    obtain ⟨p, rfl, _, _, _⟩ := hx.elem (sz := 4) (fun y => rfl) (by omega) hlt
    have hat : ∀ (q : Nat) (v : Value), (opEnc ys[oN])[q]? = some v → ∀ w' : World, Ch Non w w' → w'.cell? ((p.add ((oN : Int).toNat * 4)).add q) = some v := fun q v hv w' hc => by
      obtain ⟨p', hp', _, _, h⟩ := (hS w' hc).elem (sz := 4) (fun y => rfl) (by omega) hlt
      injection hp' with hp'
      subst hp'
      rw [Int.toNat_natCast]
      exact h q v hv
    have hc2 := hg.2
    refine ⟨fun w' => Ch Non w w', fun w3 e3 => ⟨hc2.andN (Ch.drew e3), ⟨by omega, by omega⟩, ?_⟩⟩
    have hg3 := hg.keepN (Ch.drew e3)
    have hat0 : ∀ w' : World, Ch Non w w' → w'.cell? (p.add ((oN : Int).toNat * 4)) = some (.int .i64 ys[oN].k) := fun w' hc => by
      have := hat 0 _ rfl w' hc
      rwa [add_none] at this
    refine ⟨_, hat0, ⟨by omega, by omega⟩, ?_⟩
    refine ⟨_, hat 1 _ rfl, ⟨by omega, by omega⟩, ?_⟩
    refine ⟨_, hat 2 _ rfl, ⟨by omega, by omega⟩, ?_⟩
    refine ⟨_, hat 3 _ rfl, fun w8 e8 => ⟨hg3.2.andN (Ch.alloc e8), ?_⟩⟩
    obtain ⟨o', c', w9, hr, hg9, hc9⟩ := hg3.push el_S_coadjutorref19_Op t_S_coadjutorref19_Op e8 rfl rfl (by omega) (by omega)
    refine ⟨o', _, c', w9, hr, hg9.2, ys.length - (oN + 1), by omega, oN + 1, by rw [wrap_id (by omega) (by omega)]; rfl, rfl, hlt, rfl, ?_⟩
    rw [take_snoc ys oN hlt, ← flat_snoc]
    exact hg9
  · have : oN = ys.length := by have := of_decide_eq_false hge; omega
    subst this
    rw [List.take_length] at hg
    exact ⟨oA, oC, rfl, hg.rd, hg.2⟩
end
theorem RefParse_spec (w : World) (s : ByteArray) : Calls Try.prog i_coadjutorref19_Parse #[.string s] w (Ret fun v w' => ∃ (o : Option Addr) (n c : Nat), v = .tuple #[.slice o n c, .bool (parseR s.data.toList).isSome] ∧ (∀ ys, parseR s.data.toList = some ys → n = ys.length ∧ Rd w' o (ys.map opEnc).flatten (fun i => i < w'.heap.size)) ∧ Ch Non w w') := by
  refine coadjutorref19_Parse.calls _ ?_
  unfold coadjutorref19_Parse.vc
  intro w1 e1
  have hE1 : EyeF w1 w.heap.size (s.data.toList, false) := by
    have := Blk.new e1
    unfold EyeF
    rw [str_of]; exact this
  have hC1 : Ch Non w w1 := Ch.alloc e1
  have he1 : w.heap.size < w1.heap.size := Blk.lt hE1
  refine step_call (RefEyeNum_spec hE1 256) ?_
  rintro v w2 ⟨rfl, hE2, hc2⟩
  have hn := numE_le (st := (s.data.toList, false)) (most := 256) (by omega)
  have hnb := numE_bad (st := (s.data.toList, false)) (most := 256)
  have hR : parseR s.data.toList = (parseL (numE (s.data.toList, false) 256).1 (numE (s.data.toList, false) 256).2 []).bind fun p => if endE p.2 = 0 then some p.1 else none := rfl
  generalize parseR s.data.toList = R at hR ⊢
  generalize numE (s.data.toList, false) 256 = N at hn hE2 hR hnb ⊢
  obtain ⟨n, s0⟩ := N
  dsimp only at hn hE2 hR hnb ⊢
  have hs2 : w1.heap.size ≤ w2.heap.size := hc2.size
  generalize hew : w.heap.size = e at hE2 he1 hc2 ⊢
  have hCG : ∀ w', Ch (· = e) w2 w' → Ch Non w w' := fun w' h => hC1.trans ((hc2.same h)) (fun i hi h => by omega)
  have hno : ∀ w', R = none → Ch Non w w' → (∃ (o : Option Addr) (n c : Nat), (Value.tuple #[.slice none 0 0, .bool false]) = .tuple #[.slice o n c, .bool R.isSome] ∧ (∀ ys, R = some ys → n = ys.length ∧ Rd w' o (ys.map opEnc).flatten (fun i => i < w'.heap.size)) ∧ Ch Non w w') := fun w' h hc => by
    rw [h]; exact ⟨none, 0, 0, rfl, fun ys h => (by cases h), hc⟩
  refine ⟨_, rfl, fun w3 e3 => ?_⟩
  refine ⟨fun oA oN oC w' => ∃ (acc : List OpD) (st : St), oN = acc.length ∧ R = (if endE st = 0 then some acc else none) ∧ Gr (· = e) w2 w' t_coadjutorref19_Op 4 oA acc.length oC (acc.map opEnc).flatten ∧ EyeF w' e st, ⟨fun oA oN oC x k w' => ∃ (acc : List OpD) (st : St), oN = acc.length ∧ x = acc.length ∧ acc.length ≤ n ∧ k = n - acc.length ∧ parseL (n - acc.length) st acc = parseL n s0 [] ∧ Gr (· = e) w2 w' t_coadjutorref19_Op 4 oA acc.length oC (acc.map opEnc).flatten ∧ EyeF w' e st ∧ (0 < n → st.2 = false), ⟨_, [], s0, rfl, rfl, Nat.zero_le _, rfl, rfl, Gr.made0 (Ch.refl _ _) e3, Blk.alloc hE2 e3, fun h0 => ?_⟩, ?_⟩, ?_⟩
  · cases h : s0.2 with
    | false => rfl
    | true => have := hnb h; injection this with h1 h2; omega
  · rintro jk oA oN oC x k w3 ⟨acc, st, rfl, rfl, hle, rfl, hP, hG, hE3, hst⟩
    refine ⟨fun hlt => ?_, fun hge => ?_⟩
    · have hlt : acc.length < n := by have := of_decide_eq_true hlt; omega
      have hst := hst (by omega)
      obtain ⟨m, hm⟩ : ∃ m, n - acc.length = m + 1 := ⟨n - acc.length - 1, by omega⟩
      rw [hm, parseL] at hP
      refine ⟨st.2, hE3.cell 1 rfl, iteT (by rw [hst]; rfl) ?_⟩
      refine step_call (RefTake_spec hE3 1) ?_
      rintro v w4 ⟨rfl, hE4, hc4⟩
      have hG4 := hG.step hc4 (fun i hi => by omega)
      refine ⟨_, rfl, _, hE4.cell 1 rfl, fun hb => ?_, fun hb => ?_⟩
      · rw [if_pos (.inl (readE_bad hb))] at hP
        rw [← hP] at hR
        exact hno _ hR (hCG _ hG4.2)
      obtain ⟨t, ht, htl⟩ := takeE_bad.2 hb
      match t, htl with
      | [b], _ =>
      have hby : byteE st = (b, (takeE st 1).2) := by unfold byteE; rw [ht]; rfl
      have hrd : readE st = restE b (fromE b (takeE st 1).2).1 (fromE b (takeE st 1).2).2 := by unfold readE; rw [hby]
      rw [hrd] at hP
      generalize (takeE st 1).2 = s2 at hE4 hP hb
      rw [ht]
      have hbt : bt (str ((some [b]).getD [])) 0 = b.toNat := by simp [bt, str]
      have hk256 := b.toNat_lt
      rw [hbt, wrap_id (x := (b.toNat : Int)) (by omega) (by omega), str_size]
      clear hrd hby ht
      refine ⟨⟨by omega, by simp⟩, fun w5 e5 => ?_⟩
      have hO5 := Blk.new e5
      refine ⟨⟨hO5.ok 0 rfl, hO5.ok 1 rfl, hO5.ok 2 rfl, hO5.ok 3 rfl⟩, fun w6 e6 => ?_⟩
      have e7 : w6 = w5.setCells w4.heap.size 0 [.int .i64 (b.toNat : Int), .int .i64 0, .int .i64 0, .string ByteArray.empty] := e6
      have hO6 := hO5.all [.int .i64 (b.toNat : Int), .int .i64 0, .int .i64 0, .string ByteArray.empty] rfl e7
      have hc46 : Ch Non w4 w6 := (Ch.alloc (F := Non) e5).trans (Ch.sets (F := (· = w4.heap.size)) e7 rfl) (fun i hi he => by omega)
      have hE6 : EyeF w6 e s2 := Blk.keepN hE4 hc46
      have hC6 : Ch (· = e) w4 w6 := hc46.any
      have hob : e < w4.heap.size := Blk.lt hE4
      have hobw : w4.heap.size < w6.heap.size := hO6.lt
      clear e5 e6 e7 hO5 hc46
      generalize hobe : w4.heap.size = ob at hO6 hob hobw ⊢
      refine ⟨fun w' => Blk w' ob [.int .i64 (b.toNat : Int), .int .i64 ((fromE b s2).1 : Int), .int .i64 0, .string ByteArray.empty] 102 ∧ EyeF w' e (fromE b s2).2 ∧ Ch (· = e) w4 w', ⟨_, hO6.cell 0 rfl, fun hk => ?_, fun hk => ?_⟩, ?_⟩
      · have hk : ¬ b.toNat = 2 := by simp at hk; omega
        refine step_call (RefEyeNum_spec hE6 _) ?_
        rintro v w7 ⟨rfl, hE7, hc7⟩
        have hO7 := hO6.keep hc7 (by omega)
        refine ⟨_, rfl, hO7.ok 1 rfl, fun w8 e8 => ?_⟩
        have hc8 : Ch (· = ob) w7 w8 := Ch.set e8 rfl
        unfold fromE
        rw [if_neg hk]
        exact ⟨hO7.set e8, Blk.keep hE7 hc8 (by omega), (hC6.same hc7).trans hc8 (fun i hi h => by omega)⟩
      · have hk : b.toNat = 2 := by simp at hk; omega
        unfold fromE
        rw [if_pos hk]
        exact ⟨hO6, hE6, hC6⟩
      rintro jk w7 ⟨hO7, hE7, hC7⟩
      generalize fromE b s2 = Q at hO7 hE7 hP
      obtain ⟨f, s3⟩ := Q
      dsimp only at hO7 hE7 hP
      refine ⟨fun w' => Blk w' ob (opEnc (restE b f s3).1) 102 ∧ EyeF w' e (restE b f s3).2 ∧ Ch (· = e) w4 w', ⟨_, hO7.cell 0 rfl, fun hk => ?_, fun hk => ?_⟩, ?_⟩
      · have hk : b.toNat = 1 := by simp at hk; omega
        refine step_call (RefEyeNum_spec hE7 _) ?_
        rintro v w8 ⟨rfl, hE8, hc8⟩
        have hO8 := hO7.keep hc8 (by omega)
        refine ⟨_, rfl, hO8.ok 2 rfl, fun w9 e9 => ?_⟩
        have hc9 : Ch (· = ob) w8 w9 := Ch.set e9 rfl
        unfold restE
        rw [if_pos hk]
        exact ⟨hO8.set e9, Blk.keep hE8 hc9 (by omega), (hC7.same hc8).trans hc9 (fun i hi h => by omega)⟩
      · have hk : ¬ b.toNat = 1 := by simp at hk; omega
        refine step_call (RefEyeText_spec hE7 _) ?_
        rintro v w8 ⟨rfl, hE8, hc8⟩
        have hO8 := hO7.keep hc8 (by omega)
        refine ⟨_, rfl, hO8.ok 3 rfl, fun w9 e9 => ?_⟩
        have hc9 : Ch (· = ob) w8 w9 := Ch.set e9 rfl
        unfold restE
        rw [if_neg hk]
        exact ⟨hO8.set e9, Blk.keep hE8 hc9 (by omega), (hC7.same hc8).trans hc9 (fun i hi h => by omega)⟩
      clear hO6 hE6 hO7 hE7 hC7
      rintro jk w8 ⟨hO8, hE8, hC8⟩
      generalize restE b f s3 = Y at hP hO8 hE8
      obtain ⟨y, st4⟩ := Y
      dsimp only at hP hO8 hE8
      have hG8 := hG4.step hC8 (fun i hi => by omega)
      refine ⟨st4.2, hE8.cell 1 rfl, fun hb => ?_, fun hb => ?_⟩
      · rw [if_pos (.inl hb)] at hP
        rw [← hP] at hR
        exact hno _ hR (hCG _ hG8.2)
      refine ⟨_, _, _, _, ⟨hO8.cell 0 rfl, hO8.cell 1 rfl, hO8.cell 2 rfl, hO8.cell 3 rfl⟩, ?_⟩
      refine step_call (RefGood_spec w8 (base := 2147483647) (by omega) y) ?_
      rintro v w9 ⟨rfl, hc9⟩
      have hbad : badB y = !goodOp 2147483647 y := rfl
      refine ⟨_, rfl, fun hg => ?_, fun hg => ?_⟩
      · rw [if_pos (.inr (by rw [hbad]; exact hg))] at hP
        rw [← hP] at hR
        exact hno _ hR (hCG _ (hG8.keepN hc9).2)
      rw [if_neg (by rw [hb, hbad, hg]; simp)] at hP
      have hO9 := hO8.keepN hc9
      have hG9 := hG8.keepN hc9
      refine ⟨_, _, _, _, ⟨hO9.cell 0 rfl, hO9.cell 1 rfl, hO9.cell 2 rfl, hO9.cell 3 rfl⟩, fun w10 e10 => ?_⟩
      obtain ⟨o', c', w11, hr, hG11, hc11⟩ := hG9.push el_S_coadjutorref19_Op t_S_coadjutorref19_Op e10 rfl rfl (by omega) (by omega)
      refine ⟨o', _, c', w11, hr, n - (acc.length + 1), by omega, acc ++ [y], st4, by simp, ?_, by simp; omega, by simp, ?_, ?_, ?_, fun _ => hb⟩
      · rw [wrap_id (by omega) (by omega)]; simp
      · rw [← hP, show n - (acc ++ [y]).length = m by simp; omega]
      · rw [List.length_append, List.length_singleton, ← flat_snoc]; exact hG11
      · exact Blk.keep (Blk.keepN hE8 hc9) hc11 (fun h => by have := h.1; omega)
    · have hge := of_decide_eq_false hge
      have hl : n - acc.length = 0 := by omega
      rw [hl, parseL] at hP
      rw [← hP] at hR
      exact ⟨acc, st, rfl, hR, hG, hE3⟩
  · rintro jk oA oN oC w4 ⟨acc, st, rfl, hR, hG, hE⟩
    refine ⟨fun w' => Ch Non w4 w', fun w5 e5 => ⟨Ch.drew e5, st.2, fun w' h => (Blk.keepN hE h).cell 1 rfl, fun hb => ⟨_, fun w' h => (Blk.keepN hE h).cell 0 rfl, ?_⟩, fun hb => ?_⟩⟩
    · have hG5 := hG.keepN (Ch.drew e5)
      have hb : st.2 = false := by simpa using hb
      refine ⟨oA, acc.length, oC, ?_, fun ys h => ?_, hCG _ hG5.2⟩
      · have : endE st = if st.1.length = 0 then 0 else 5 := by unfold endE; rw [hb]; rfl
        rw [str_size, hR, this]
        by_cases h0 : st.1.length = 0
        · rw [if_pos h0, if_pos rfl, h0]; rfl
        · rw [if_neg h0, if_neg (by decide)]
          have : ((st.1.length : Int) == 0) = false := by simpa using h0
          rw [this]; rfl
      · rw [hR] at h
        split at h
        · injection h with h
          subst h
          exact ⟨rfl, hG5.rd.mono (fun i hi _ => hi)⟩
        · cases h
    · have hb : st.2 = true := by simpa using hb
      have : endE st = 5 := by unfold endE; rw [hb]; rfl
      rw [this, if_neg (by decide)] at hR
      subst hR
      exact ⟨oA, acc.length, oC, rfl, fun ys h => (by cases h), hCG _ (hG.keepN (Ch.drew e5)).2⟩
end Go.Proofs.Ytpcddfhfchempaa.Patch
