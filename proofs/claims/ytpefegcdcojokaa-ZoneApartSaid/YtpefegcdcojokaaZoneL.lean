/- ZoneFill's and ZoneApart's contracts: of all bytes the Go functions answer true and leave what was there; the conditions stand in each theorem. -/
import Derived.Test.YtpefegcdcojokaaZone
import Derived.Test.YtpefegcdcojokaaVcZoneL
set_option linter.unusedVariables false
set_option linter.unusedSimpArgs false
namespace Go.Proofs.Ytpefegcdcojokaa.Zone
open Go Go.Proofs Go.Proofs.Ytpefegcdcojokaa.V Go.Proofs.Ytpefegcdcojokaa.Vc Go.Proofs.Ytpefegcdcojokaa.Disk Go.RowKit

theorem of5_spec (w : World) {b : Int} (hb : 0 ≤ b ∧ b < 256) : Calls Try.prog i_coadjutorlaw05_of #[.int .u8 b] w (Ret fun v w' => v = .string (str (ofL b)) ∧ Ch Non w w') := by
  refine coadjutorlaw05_of.calls _ ?_
  unfold coadjutorlaw05_of.vc
  rw [u8v_of hb]
  refine ⟨by decide, fun w1 e1 => ?_⟩
  have hB1 : Blk w1 w.heap.size (fillTo (ofL b |>.map u8v) (.int .u8 0) 0) 5 := by
    have := Blk.new e1
    rw [fillTo_zero, List.length_map, ofL_len]
    exact this
  have hc1 : Ch Non w w1 := Ch.alloc e1
  have hll : ((ofL b).map u8v).length = 32 := by rw [List.length_map, ofL_len]
  refine ⟨fun i k w' => ∃ j : Nat, i = j ∧ j ≤ 32 ∧ k = 32 - j ∧ Blk w' w.heap.size (fillTo ((ofL b).map u8v) (.int .u8 0) j) 5 ∧ Ch Non w w', ⟨_, 0, rfl, Nat.zero_le _, rfl, hB1, hc1⟩, ?_⟩
  rintro jk i k w2 ⟨j, rfl, hj, rfl, hB, hc⟩
  refine ⟨fun hlt => ?_, fun hge => ?_⟩
  · have hlt : j < 32 := by have h := of_decide_eq_true hlt; have h : (j : Int) < 32 := h; omega
    have hjj : (j : Int).toNat * 1 = j := by omega
    rw [hjj, add_at, Nat.zero_add]
    have hl : j < (fillTo ((ofL b).map u8v) (.int .u8 0) j).length := by rw [fillTo_len, hll]; exact hlt
    refine ⟨⟨by omega, by show (j : Int) < 32; omega⟩, hB.ok j (List.getElem?_eq_getElem hl), fun w3 e3 => ?_⟩
    have hB3 := hB.set e3
    have hg : ((ofL b).map u8v)[j]'(by omega) = u8v (UInt8.ofNat b.toNat) := by rw [List.getElem_map]; exact congrArg u8v (List.getElem_replicate _)
    have hst := fillTo_set (L := (ofL b).map u8v) (z := .int .u8 0) (j := j) (by omega)
    rw [hg] at hst
    rw [hst] at hB3
    exact ⟨32 - (j + 1), by omega, j + 1, by rw [wrap_id (by omega) (by omega)]; rfl, hlt, rfl, hB3, hc.trans (Ch.set (F := (· = w.heap.size)) e3 rfl) (fun i hi he => by omega)⟩
  · have hj32 : j = 32 := by have h := of_decide_eq_false hge; have h : ¬ (j : Int) < 32 := h; omega
    subst hj32
    have hfa : fillTo ((ofL b).map u8v) (.int .u8 0) 32 = (ofL b).map u8v := by
      have := fillTo_all (L := (ofL b).map u8v) (z := Value.int .u8 0)
      rwa [hll] at this
    rw [hfa] at hB
    have hrd : Rd w2 (some ⟨w.heap.size, 0, none⟩) ((ofL b).map u8v) (· = w.heap.size) := hB.rd
    have hout := conv_out (P := Try.prog) (src := t_S_uint8) (dst := t_string) (e := t_uint8) (c := 32) hrd (by kernel_rfl) (by kernel_rfl) (by kernel_rfl)
    rw [ofL_len] at hout
    exact ⟨_, _, hout, rfl, hc⟩
theorem LI.new (S : List (List UInt8)) : LI S.length (fun q => S.getD q []) 0 (diskOf S) := ⟨rfl, rfl, rfl, fun q _ => by
  show S.getD (q : Int).toNat [] = _
  rw [Int.toNat_natCast], by show (0 : Int) ≤ _; omega, Nat.zero_le _⟩
theorem zeros_at {n : Nat} (S : List (List UInt8)) (hS : S = List.replicate n zeros32) {q : Nat} (hq : q < n) : S.getD q [] = ofL 0 := by
  subst hS
  rw [getD_at [] (by rw [List.length_replicate]; exact hq), List.getElem_replicate]; rfl
section
variable {W w w' : World} {d zb f n m B : Nat} {x x' : DkD} {F F' : Nat → Prop} {c : Nat → List UInt8}
theorem awake5_spec (w : World) : Calls Try.prog i_coadjutorlaw05_awake #[] w (Ret fun v w' => v = .bool true ∧ Ch Non w w') := by
  refine coadjutorlaw05_awake.calls ?_
  unfold coadjutorlaw05_awake.vc
  refine step_call (S_new (Ch.refl Non w) 4) ?_
  rintro v w1 ⟨d, F1, rfl, h1, hF1, hc1⟩
  have hI1 := LI.new (List.replicate (newN 4) zeros32)
  have hl1 : (List.replicate (newN 4) zeros32).length = 4 := List.length_replicate
  refine ⟨_, rfl, step_call (New_zspec h1 (by show (List.replicate (newN 4) zeros32).length ≤ _; omega) (f := 2) (n := 2) (by omega)) ?_⟩
  rintro v w2 ⟨hc2, hy, _⟩
  obtain ⟨zb, rfl, hz2⟩ := hy ⟨by omega, by show 2 < (List.replicate (newN 4) zeros32).length; omega, by show ((2 : Nat) : Int) ≤ ((List.replicate (newN 4) zeros32).length : Int) - ((2 : Nat) : Int); omega⟩
  have h2 := h1.keepN hc2
  rw [hl1] at hI1
  refine ⟨_, _, rfl, iteF rfl (iteF rfl (step_call (of5_spec w2 (by omega)) ?_))⟩
  rintro v w3 ⟨rfl, hc3⟩
  refine ⟨_, rfl, step_call (Write_zspec (q := 1) (h2.keepN hc3) hI1 (by omega) (hz2.keepN hc3) (by omega) (by omega) (by omega) (by omega) (ofL_len 97)) ?_⟩
  rintro v w4 ⟨rfl, x4, ⟨F4, h4, hE4, hc4⟩, hI4, hd4, _⟩
  have hz4 := (hz2.keepN hc3).step hc4 hE4
  refine ⟨_, rfl, step_call (S_read h4 3) ?_⟩
  rintro v w5 ⟨rfl, hc5⟩
  have hck : chk x4 3 = 0 := hI4.chk (q := 3) (by omega)
  have hr : readC x4 3 = ofL 97 := hI4.rd 3 (by omega)
  rw [hck, if_pos rfl, hr]
  refine ⟨_, _, rfl, step_call (Read_zspec (h4.keepN hc5) (hz4.keepN hc5) (by omega) (by omega) 2) ?_⟩
  rintro v w6 ⟨hc6, _, hno⟩
  rw [hno (by omega)]
  have h6 := (h4.keepN hc5).keepN hc6
  have hz6 := (hz4.keepN hc5).keepN hc6
  refine ⟨_, _, rfl, iteT rfl (step_call (of5_spec w6 (by omega)) ?_)⟩
  rintro v w7 ⟨rfl, hc7⟩
  have h7 := h6.keepN hc7
  have hz7 := hz6.keepN hc7
  refine ⟨_, rfl, iteT (by rw [str_beq]; decide) (iteT rfl (iteT rfl (step_call (Len_zspec hz7) ?_)))⟩
  rintro v w8 ⟨rfl, rfl⟩
  refine ⟨_, rfl, iteT rfl ⟨_, hz7.1.cell 0 rfl, step_call (S_on h7) ?_⟩⟩
  rintro v w9 ⟨rfl, rfl⟩
  refine ⟨_, rfl, iteT (by rw [hI4.aw]; rfl) ⟨_, hz7.1.cell 0 rfl, step_call (S_sync h7 (by have := hI4.dn; omega)) ?_⟩⟩
  rw [syncC_ok hI4.aw hI4.fu]
  rintro v w10 ⟨rfl, F10, h10, hE10, hc10⟩
  have hz10 := hz7.step hc10 hE10
  refine ⟨_, rfl, iteT rfl ⟨_, hz10.1.cell 0 rfl, step_call (S_image h10) ?_⟩⟩
  rintro v w11 ⟨rfl, hc11⟩
  refine ⟨_, rfl, step_call (S_image (h10.keepN hc11)) ?_⟩
  rintro v w12 ⟨rfl, hc12⟩
  exact ⟨_, rfl, by rw [str_beq]; simp, (h10.keepN (hc11.andN hc12)).c⟩
theorem chunks : ∀ (k : Nat) (l : List UInt8), l.length < 32 * (k + 1) → ∃ (S : List (List UInt8)) (r : List UInt8), l = S.flatten ++ r ∧ (∀ a ∈ S, a.length = 32) ∧ r.length < 32 ∧ S.length = l.length / 32
  | 0, l, h => ⟨[], l, rfl, fun a ha => (by cases ha), by omega, by rw [Nat.div_eq_of_lt (by omega)]; rfl⟩
  | k + 1, l, h => by
    by_cases hl : l.length < 32
    · exact ⟨[], l, rfl, fun a ha => (by cases ha), hl, by rw [Nat.div_eq_of_lt hl]; rfl⟩
    · obtain ⟨S, r, h1, h2, h3, h4⟩ := chunks k (l.drop 32) (by rw [List.length_drop]; omega)
      refine ⟨l.take 32 :: S, r, ?_, fun a ha => ?_, h3, ?_⟩
      · rw [List.flatten_cons, List.append_assoc, ← h1, List.take_append_drop]
      · rcases List.mem_cons.1 ha with rfl | ha
        · rw [List.length_take]; omega
        · exact h2 a ha
      · rw [List.length_cons, h4, List.length_drop]; omega
theorem bt_str5 (t : List UInt8) {q : Nat} (hq : q < t.length) : bt (str t) (q : Int) = (t[q].toNat : Int) := by
  unfold bt str
  rw [Int.toNat_natCast]
  simp [hq]
theorem allC_fill (c : Nat → List UInt8) (n : Nat) (l : UInt8) : ∀ j, j ≤ n → allC (fillC c 0 n (List.replicate 32 l)) 0 j = List.replicate (j * 32) l
  | 0, _ => rfl
  | j + 1, h => by
    rw [allC_succ, allC_fill c n l j (by omega)]
    unfold fillC
    rw [if_pos (by omega), List.replicate_append_replicate]
    congr 1; omega
set_option maxRecDepth 100000 in
set_option maxHeartbeats 4000000 in
theorem ZoneFill_true (W : World) (image : ByteArray) (hsz : image.size ≤ 140737488351232) (b : Int) (hb0 : (Lit.int .u8 b).wf = true) :
    Calls Try.prog i_coadjutorlaw05_ZoneFill #[.string image, .int .u8 b] W (Ret fun v w' => v = .bool true ∧ Ch Non W w') := by
  have hb := u8_in hb0
  refine coadjutorlaw05_ZoneFill.calls _ _ ?_
  unfold coadjutorlaw05_ZoneFill.vc
  refine step_call (awake5_spec W) ?_
  rintro v w1 ⟨rfl, hc1⟩
  refine ⟨_, rfl, iteF rfl ⟨fun _ => ⟨rfl, hc1⟩, fun h320 => ⟨fun _ => ⟨rfl, hc1⟩, fun h32 => ?_⟩⟩⟩
  have h320 : image.size ≤ 320 := by have := of_decide_eq_false h320; omega
  have h32 : 32 ≤ image.size := by have := of_decide_eq_false h32; omega
  have hdl : image.data.toList.length = image.size := by simp
  obtain ⟨S, r, e1, e2, e3, e4⟩ := chunks 100 image.data.toList (by omega)
  have himg : image = str (S.flatten ++ r) := by rw [← e1, str_of]
  rw [hdl] at e4
  have hm1 : 1 ≤ S.length ∧ S.length ≤ 10 := by omega
  have hof := S_of (W := W) (r := r) hc1 e2 (by omega) e3
  rw [← himg] at hof
  refine step_call hof ?_
  rintro v w2 ⟨d, F2, rfl, h2, _, hc2⟩
  have hI2 := LI.new S
  refine ⟨_, rfl, step_call (S_len h2) ?_⟩
  rintro v w3 ⟨rfl, rfl⟩
  refine ⟨_, rfl, step_call (New_zspec h2 (by show S.length ≤ _; omega) (f := 0) (n := S.length) (by omega)) ?_⟩
  rintro v w4 ⟨hc4, hy, _⟩
  obtain ⟨zb, rfl, hz4⟩ := hy ⟨by omega, by show 0 < S.length; omega, by show (S.length : Int) ≤ (S.length : Int) - ((0 : Nat) : Int); omega⟩
  have h4 := h2.keepN hc4
  refine ⟨_, _, rfl, iteF rfl (step_call (Fill_spec h4 hI2 hz4 (by omega) (by omega) (by omega) hb) ?_)⟩
  rintro v w5 ⟨rfl, x5, ⟨F5, h5, hE5, hc5⟩, hI5, hd5, _⟩
  have hz5 := hz4.step hc5 hE5
  refine ⟨_, rfl, iteF rfl ⟨_, hz5.1.cell 0 rfl, step_call (S_done h5) ?_⟩⟩
  rintro v w6 ⟨rfl, rfl⟩
  refine ⟨_, rfl, step_call (All_spec h5 hI5 hz5 (by omega) (by omega)) ?_⟩
  rintro v w7 ⟨rfl, hc7⟩
  rw [show allC (fillC (fun q => S.getD q []) 0 S.length (want32 b)) 0 S.length = List.replicate (S.length * 32) (UInt8.ofNat b.toNat) from allC_fill _ _ _ _ (Nat.le_refl _)]
  refine ⟨_, _, rfl, fun i k w' => ∃ j : Nat, i = j ∧ j ≤ S.length * 32 ∧ k = S.length * 32 - j ∧ w' = w7, ⟨_, 0, rfl, Nat.zero_le _, rfl, rfl⟩, ?_⟩
  rintro jk i k w8 ⟨j, rfl, hj, rfl, rfl⟩
  rw [str_size, List.length_replicate]
  refine ⟨fun hlt => ?_, fun hge => ?_⟩
  · have hlt : j < S.length * 32 := by have := of_decide_eq_true hlt; omega
    have hbt : bt (str (List.replicate (S.length * 32) (UInt8.ofNat b.toNat))) (j : Int) = b := by
      rw [bt_str5 _ (by rw [List.length_replicate]; exact hlt), List.getElem_replicate, UInt8.toNat_ofNat']
      omega
    rw [hbt]
    exact ⟨⟨by omega, by omega⟩, iteF (by simp) ⟨S.length * 32 - (j + 1), by omega, j + 1, by rw [wrap_id (by omega) (by omega)]; rfl, hlt, rfl, rfl⟩⟩
  · have h7 := h5.keepN hc7
    have hz7 := hz5.keepN hc7
    refine iteT rfl (step_call (Len_zspec hz7) ?_)
    rintro v w9 ⟨rfl, rfl⟩
    refine ⟨_, rfl, iteT (by rw [wrap_id (by omega) (by omega)]; simp) (step_call (Len_zspec hz7) ?_)⟩
    rintro v w10 ⟨rfl, rfl⟩
    have hd0 : (diskOf S).done = 0 := rfl
    refine ⟨_, rfl, iteT (decide_eq_true (by omega)) (step_call (Fill_spec h7 hI5 hz7 (by omega) (by omega) (by omega) hb) ?_)⟩
    rintro v w11 ⟨rfl, x11, ⟨F11, h11, hE11, hc11⟩, hI11, hd11, hsame⟩
    have hz11 := hz7.step hc11 hE11
    have hx : x11 = x5 := hsame (fun q hq => by unfold fillC; rw [if_pos (by omega)])
    subst hx
    refine ⟨_, rfl, iteT rfl ⟨_, hz11.1.cell 0 rfl, step_call (S_done h11) ?_⟩⟩
    rintro v w12 ⟨rfl, rfl⟩
    exact ⟨_, rfl, by simp, h11.c⟩
set_option maxRecDepth 100000 in
set_option maxHeartbeats 4000000 in
theorem ZoneApart_true (W : World) (o : Option Addr) (n cp : Nat) (h0 : DatC Try.prog W t_S_uint8 [.slice o n cp]) (b : Int) (hb0 : (Lit.int .u8 b).wf = true) :
    Calls Try.prog i_coadjutorlaw05_ZoneApart #[.slice o n cp, .int .u8 b] W (Ret fun v w' => v = .bool true ∧ Ch Non W w') := by
  have hb := u8_in hb0
  obtain ⟨o', c', xs, hcs, _, hcm, _, hwf, hr⟩ := h0.ints (k := .u8) (e := t_uint8) (by kernel_rfl) (by kernel_rfl)
  injection hcs with hcs
  injection hcs with q1 q2 q3
  subst q1; subst q2; subst q3
  have hr : Rd W o (xs.map (.int .u8)) (fun i => i < W.heap.size) := hr.mono (fun i hi _ => hi)
  refine coadjutorlaw05_ZoneApart.calls _ _ _ _ ?_
  unfold coadjutorlaw05_ZoneApart.vc
  refine step_call (awake5_spec W) ?_
  rintro v w1 ⟨rfl, hc1⟩
  refine ⟨_, rfl, iteF rfl (step_call (S_new hc1 10) ?_)⟩
  rintro v w2 ⟨d, F2, rfl, h2, hF2, hc2⟩
  have hI2 := LI.new (List.replicate (newN 10) zeros32)
  have hl2 : (List.replicate (newN 10) zeros32).length = 10 := List.length_replicate
  rw [hl2] at hI2
  refine ⟨_, rfl, step_call (New_zspec h2 (by show (List.replicate (newN 10) zeros32).length ≤ _; omega) (f := 1) (n := 4) (by omega)) ?_⟩
  rintro v w3 ⟨hc3, hy, _⟩
  obtain ⟨za, rfl, hz3⟩ := hy ⟨by omega, by show 1 < (List.replicate (newN 10) zeros32).length; omega, by show ((4 : Nat) : Int) ≤ ((List.replicate (newN 10) zeros32).length : Int) - ((1 : Nat) : Int); omega⟩
  have h3 := h2.keepN hc3
  refine ⟨_, _, rfl, step_call (New_zspec h3 (by show (List.replicate (newN 10) zeros32).length ≤ _; omega) (f := 5) (n := 4) (by omega)) ?_⟩
  rintro v w4 ⟨hc4, hy, _⟩
  obtain ⟨zb, rfl, hz4⟩ := hy ⟨by omega, by show 5 < (List.replicate (newN 10) zeros32).length; omega, by show ((4 : Nat) : Int) ≤ ((List.replicate (newN 10) zeros32).length : Int) - ((5 : Nat) : Int); omega⟩
  have h4 := h3.keepN hc4
  have hza4 := hz3.keepN hc4
  let Inv : Nat → World → Prop := fun j w' => ∃ (x : DkD) (F : Nat → Prop) (c : Nat → List UInt8), DkS W w' d x F ∧ LI 10 c j x ∧ Zn W w' za d 1 4 F ∧ Zn W w' zb d 5 4 F ∧ (∀ q, q < 10 → (q = 0 ∨ 5 ≤ q) → c q = ofL 0)
  have hInv0 : Inv 0 w4 := ⟨_, _, _, h4, hI2, hza4, hz4, fun q hq _ => zeros_at _ rfl (n := newN 10) (by show q < 10; exact hq)⟩
  refine ⟨_, _, rfl, iteF rfl (iteF rfl ⟨fun w' => Inv 30 w', ?_, ?_⟩)⟩
  · have hup : ∀ {j : Nat} {w' : World}, j ≤ 30 → Inv j w' → Inv 30 w' := fun hj ⟨x, F, c, a1, a2, a3⟩ => ⟨x, F, c, a1, ⟨a2.aw, a2.fu, a2.sl, a2.rd, by have := a2.dn; omega, by have := a2.ll; omega⟩, a3⟩
    refine ⟨fun i k w' => ∃ j : Nat, i = j ∧ j ≤ xs.length ∧ j ≤ 30 ∧ k = xs.length - j ∧ Inv j w', ⟨_, 0, rfl, Nat.zero_le _, by omega, rfl, hInv0⟩, ?_⟩
    rintro jk i k w5 ⟨j, rfl, hj, hj30, rfl, x, F, c, hS, hI, hZa, hZb, hq⟩
    refine ⟨fun hlt => ⟨fun h30 => ?_, fun h30 => hup hj30 ⟨x, F, c, hS, hI, hZa, hZb, hq⟩⟩, fun hge => hup hj30 ⟨x, F, c, hS, hI, hZa, hZb, hq⟩⟩
    have hlt : j < xs.length := by have := of_decide_eq_true hlt; omega
    have h30 : j + 1 ≤ 30 := by have := of_decide_eq_true h30; omega
    have hjj : (j : Int).toNat * 1 = j := by omega
    have hfar : ∀ i, i < W.heap.size → ¬ F i := fun i hi hf => by have := (hS.f i hf).1; omega
    have hr5 := hr.keepN hS.c
    have hx8 := u8_in (hwf _ (List.getElem_mem hlt))
    obtain ⟨pa, hpa, _, _, hcx⟩ := hr5.getT hlt
    have hrS : ∀ w', Ch F w5 w' → w'.cell? (pa.add j) = some (.int .u8 xs[j]) := fun w' hc => by
      obtain ⟨pb, hpb, _, _, hcy⟩ := (hr5.keep hc (fun i _ hi => hfar i hi)).getT hlt
      rw [hpa] at hpb; injection hpb with hpb; subst hpb; exact hcy
    subst hpa
    generalize xs[j] = y at hcx hx8 hrS
    rw [hjj]
    refine ⟨fun w' => Ch F w5 w', fun w9 e9 => ⟨Ch.drew e9, ⟨by omega, by omega⟩, _, hrS, by decide, ⟨by omega, by omega⟩, _, hrS, step_call (of5_spec w9 hx8) ?_⟩⟩
    rintro v w12 ⟨rfl, hc12⟩
    have hc512 : Ch Non w5 w12 := (Ch.drew e9).andN hc12
    obtain ⟨q4, hq4, hq44⟩ : ∃ q4 : Nat, IntKind.i64.wrap (Int.tmod y 4) = q4 ∧ q4 < 4 := ⟨(y % 4).toNat, by rw [tmod_pos hx8.1, wrap_id (by omega) (by omega)]; omega, by omega⟩
    rw [hq4]
    refine ⟨_, rfl, hc512.any, step_call (Write_zspec (hS.keepN hc512) hI (by omega) (hZa.keepN hc512) (by omega) (by omega) hq44 (by omega) (ofL_len y)) ?_⟩
    rintro v w13 ⟨rfl, x', ⟨F', hS', hE', hc13⟩, hI', _, _⟩
    have hvs : Ch F w5 w13 := hc512.any.same hc13
    refine ⟨_, rfl, hvs, iteF rfl ⟨xs.length - (j + 1), by omega, j + 1, by rw [wrap_id (by omega) (by omega)]; rfl, hlt, h30, rfl, x', F', _, hS', hI', (hZa.keepN hc512).step hc13 hE', (hZb.keepN hc512).step hc13 hE', fun q h1 h2 => ?_⟩⟩
    unfold updN
    rw [if_neg (by omega)]
    exact hq q h1 h2
  · rintro jk w5 ⟨x, F, c, hS, hI, hZa, hZb, hq⟩
    have hlc : ∀ q, q < 10 → (c q).length = 32 := fun q h => hI.len hS.ok h
    refine step_call (All_spec hS hI hZa (by omega) (by omega)) ?_
    rintro v w6 ⟨rfl, hc6⟩
    refine ⟨_, _, rfl, iteF rfl (step_call (Fill_spec (hS.keepN hc6) hI (hZb.keepN hc6) (by omega) (by omega) (by omega) hb) ?_)⟩
    rintro v w7 ⟨rfl, x7, ⟨F7, h7, hE7, hc7⟩, hI7, _, _⟩
    have hZa7 := (hZa.keepN hc6).step hc7 hE7
    refine ⟨_, rfl, iteF rfl (step_call (All_spec h7 hI7 hZa7 (by omega) (by omega)) ?_)⟩
    rintro v w8 ⟨rfl, hc8⟩
    have hall : allC (fillC c 5 4 (want32 b)) 1 4 = allC c 1 4 := by
      unfold allC
      rfl
    rw [hall]
    have h8 := h7.keepN hc8
    have hZa8 := hZa7.keepN hc8
    refine ⟨_, _, rfl, iteF rfl (iteF (by simp) ⟨fun i k w' => ∃ j : Nat, i = j ∧ j ≤ 10 ∧ k = 10 - j ∧ Ch Non w8 w', ⟨_, 0, rfl, Nat.zero_le _, rfl, Ch.refl _ _⟩, ?_⟩)⟩
    rintro jk i k w9 ⟨j, rfl, hj, rfl, hc9⟩
    refine ⟨fun hlt => ?_, fun hge => ?_⟩
    · have hlt : j < 10 := by have := of_decide_eq_true hlt; omega
      refine ⟨fun w' => Ch Non w8 w', ?_, fun _ w22 hc22 => ⟨10 - (j + 1), by omega, j + 1, by rw [wrap_id (by omega) (by omega)]; rfl, hlt, rfl, hc22⟩⟩
      refine step_call (S_read (h8.keepN hc9) (j : Int)) ?_
      rintro v w10 ⟨rfl, hc10⟩
      rw [hI7.chk hlt, if_pos rfl, hI7.rd j hlt]
      have hcA := hc9.andN hc10
      refine ⟨_, _, rfl, iteF rfl ?_⟩
      have hz0 : (j = 0 ∨ j = 9) → fillC c 5 4 (want32 b) j = ofL 0 := fun h => by
        unfold fillC; rw [if_neg (by omega)]; exact hq j hlt (by omega)
      have hin : 5 ≤ j → j < 9 → fillC c 5 4 (want32 b) j = ofL b := fun h1 h2 => by
        unfold fillC; rw [if_pos (by omega)]; rfl
      have rest : ∀ {w3 : World}, Ch Non w8 w3 → (decide ((j : Int) ≥ (5 : Int)) = true → (decide ((j : Int) < (9 : Int)) = true → Calls Try.prog i_coadjutorlaw05_of #[(.int .u8 b)] w3 (Ret fun v w' => ∃ s : ByteArray, v = .string s ∧ ((!((str (fillC c 5 4 (want32 b) j)).toList == s.toList)) = true → (.bool false : Value) = .bool true ∧ Ch Non W w') ∧ ((!((str (fillC c 5 4 (want32 b) j)).toList == s.toList)) = false → Ch Non w8 w'))) ∧ (decide ((j : Int) < (9 : Int)) = false → Ch Non w8 w3)) ∧ (decide ((j : Int) ≥ (5 : Int)) = false → Ch Non w8 w3) := fun hcx => by
        refine ⟨fun h5 => ⟨fun h9 => ?_, fun _ => hcx⟩, fun _ => hcx⟩
        have h5 := of_decide_eq_true h5
        have h9 := of_decide_eq_true h9
        refine step_call (of5_spec _ hb) ?_
        rintro v wx ⟨rfl, hcy⟩
        exact ⟨_, rfl, iteF (by rw [hin (by omega) (by omega), str_beq]; simp) (hcx.andN hcy)⟩
      refine ⟨fun e0 => ?_, fun e0 => ⟨fun e9 => ?_, fun e9 => rest hcA⟩⟩
      · have e0 : j = 0 := by have := eq_of_beq e0; omega
        refine step_call (of5_spec _ (by omega)) ?_
        rintro v w11 ⟨rfl, hc11⟩
        exact ⟨_, rfl, iteF (by rw [hz0 (by omega), str_beq]; simp) (rest (hcA.andN hc11))⟩
      · have e9 : j = 9 := by have := eq_of_beq e9; omega
        refine step_call (of5_spec _ (by omega)) ?_
        rintro v w11 ⟨rfl, hc11⟩
        exact ⟨_, rfl, iteF (by rw [hz0 (by omega), str_beq]; simp) (rest (hcA.andN hc11))⟩
    · have h9 := h8.keepN hc9
      have hZa9 := hZa8.keepN hc9
      have hsl := hI7.sl
      refine step_call (Part_spec h9 hZa9 (by omega) (by omega) (by omega) (a := 2) (k := 2) (by omega)) ?_
      rintro v w10 ⟨hc10, hy, _⟩
      obtain ⟨zc, rfl, hzc⟩ := hy ⟨by omega, by omega, by omega⟩
      have h10 := h9.keepN hc10
      refine ⟨_, _, rfl, iteF rfl (step_call (All_spec h10 hI7 hzc (by omega) (by omega)) ?_)⟩
      rintro v w11 ⟨rfl, hc11⟩
      have h11 := h10.keepN hc11
      refine ⟨_, _, rfl, step_call (Part_spec h11 ((hZa9.keepN hc10).keepN hc11) (by omega) (by omega) (by omega) (a := 3) (k := 2) (by omega)) ?_⟩
      rintro v w12 ⟨hc12, _, hno⟩
      rw [hno (by omega)]
      have h12 := h11.keepN hc12
      have hzc12 := (hzc.keepN hc11).keepN hc12
      have hlen14 : (allC c 1 4).length = 128 := allC_len 4 (fun q h => hlc _ (by omega))
      have hsub : allC (fillC c 5 4 (want32 b)) (1 + 2) 2 = (allC c 1 4).drop 64 := by
        have e1 : allC c 1 4 = allC c 1 2 ++ (c 3 ++ c 4) := by
          rw [allC_succ, allC_succ, List.append_assoc]
        have e2 : (allC c 1 2).length = 64 := allC_len 2 (fun q h => hlc _ (by omega))
        rw [e1, List.drop_left' e2]
        have e3 : fillC c 5 4 (want32 b) (1 + 2 + 0) = c 3 := by unfold fillC; rw [if_neg (by omega)]
        have e4 : fillC c 5 4 (want32 b) (1 + 2 + 1) = c 4 := by unfold fillC; rw [if_neg (by omega)]
        rw [allC_succ, allC_succ, e3, e4]; rfl
      rw [hsub]
      refine ⟨_, _, rfl, iteT rfl ⟨by rw [str_size]; omega, iteT ?_ (iteT rfl ⟨_, hzc12.1.cell 0 rfl, step_call (S_loose h12) ?_⟩)⟩⟩
      · rw [str_size, hlen14, show ((64 : Int).toNat) = 64 from rfl, str_extract, str_beq, List.take_of_length_le (by omega)]
        simp
      · rintro v w13 ⟨rfl, rfl⟩
        refine ⟨_, rfl, step_call (S_loose h12) ?_⟩
        rintro v w14 ⟨rfl, rfl⟩
        exact ⟨_, rfl, by simp, h12.c⟩
end
end Go.Proofs.Ytpefegcdcojokaa.Zone
