/- For every disk of one's own: what its methods do; the law's own small functions; the conditions stand in each theorem. -/
import Derived.Test.YtpefegcdcojokaaDisk2
import Derived.Test.YtpefegcdcojokaaVcDiskL
set_option linter.unusedVariables false
set_option linter.unusedSimpArgs false
namespace Go.Proofs.Ytpefegcdcojokaa.Disk
open Go Go.Proofs Go.Proofs.Ytpefegcdcojokaa.V Go.Proofs.Ytpefegcdcojokaa.Vc Go.RowKit

def DkS (W w : World) (d : Nat) (x : DkD) (F : Nat → Prop) : Prop := ∃ p FK FS FL, DkI w d x p FK FS FL ∧ DkOk x ∧ (∀ i, (i = d ∨ FK i ∨ FS i ∨ FL i) → F i) ∧ Foot W w F ∧ Ch Non W w
def DkT (W w w' : World) (d : Nat) (x : DkD) (F : Nat → Prop) : Prop := ∃ F', DkS W w' d x F' ∧ (∀ i, F' i → Ext F w w' i) ∧ Ch F w w'
section
variable {W w w' : World} {d : Nat} {x : DkD} {F G : Nat → Prop} {o : Option Addr}
theorem DkS.ok (h : DkS W w d x F) : DkOk x := by obtain ⟨_, _, _, _, _, ok, _⟩ := h; exact ok
theorem DkS.f (h : DkS W w d x F) : Foot W w F := by obtain ⟨_, _, _, _, _, _, _, hf, _⟩ := h; exact hf
theorem DkS.c (h : DkS W w d x F) : Ch Non W w := by obtain ⟨_, _, _, _, _, _, _, _, hc⟩ := h; exact hc
theorem DkS.keepN (h : DkS W w d x F) (hc : Ch Non w w') : DkS W w' d x F := by
  obtain ⟨p, FK, FS, FL, hI, ok, hF, hf, hC⟩ := h
  exact ⟨p, FK, FS, FL, hI.keepN hc, ok, hF, hf.le hc.size, hC.andN hc⟩
theorem DkS.far (h : DkS W w d x F) (hc : Ch G w w') (hG : ∀ i, F i → ¬ G i) (hCh : Ch Non W w') : DkS W w' d x F := by
  obtain ⟨p, FK, FS, FL, hI, ok, hF, hf, hC⟩ := h
  exact ⟨p, FK, FS, FL, hI.keep hc (hG _ (hF _ (.inl rfl))) (fun i hi => hG _ (hF _ (.inr hi))), ok, hF, hf.le hc.size, hCh⟩
theorem DkS.to {p : DkP} {FK FS FL : Nat → Prop} {x' : DkD} (h : DkS W w d x F) (hI : DkI w' d x' p FK FS FL) (ok : DkOk x') (hX : ∀ i, (i = d ∨ FK i ∨ FS i ∨ FL i) → Ext F w w' i) (hc : Ch F w w') : DkT W w w' d x' F := by
  obtain ⟨_, _, _, _, _, _, _, hf, hC⟩ := h
  refine ⟨Ext F w w', ⟨p, FK, FS, FL, hI, ok, hX, fun i hi => ?_, hf.hi hC hc⟩, fun _ hi => hi, hc⟩
  have hs := hc.size
  rcases hi with hi | hi
  · exact hf.le hs i hi
  · exact ⟨Nat.le_trans hC.size hi.1, hi.2⟩
theorem DkT.foot (h : DkT W w w' d x F) : ∃ F', DkS W w' d x F' := by obtain ⟨F', h, _⟩ := h; exact ⟨F', h⟩
theorem S_write (h : DkS W w d x F) (hd : x.done ≤ 999999999999) (hw : x.loose.length ≤ 99999) (q : Int) (l : List UInt8) : Calls Try.prog i_disk_Disk_Write #[.pointer (some ⟨d, 0, none⟩), .int .i64 q, .string (str l)] w (Ret fun v w' => v = .int .i64 (writeC x q l).1 ∧ DkT W w w' d (writeC x q l).2 F) := by
  have h' := h
  obtain ⟨p, FK, FS, FL, hI, ok, hF, hf, hC⟩ := h
  refine step_call (Write_spec hI ok hw q l) ?_
  rintro v w' ⟨rfl, ⟨p', FL', hI', hX⟩, hc⟩
  refine ⟨rfl, h'.to hI' (ok_write ok hd hw q l) (fun i hi => ?_) (hc.mono (fun i _ hi => hF i (by rcases hi with h | h | h; exact .inl h; exact .inr (.inr (.inl h)); exact .inr (.inr (.inr h)))))⟩
  rcases hi with hi | hi | hi | hi
  · exact .inl (hF i (.inl hi))
  · exact .inl (hF i (.inr (.inl hi)))
  · exact .inl (hF i (.inr (.inr (.inl hi))))
  · rcases hX i hi with hi | hi
    · exact .inl (hF i (.inr (.inr (.inr hi))))
    · exact .inr hi
theorem S_sync (h : DkS W w d x F) (hd : x.done ≤ 999999999999) : Calls Try.prog i_disk_Disk_Sync #[.pointer (some ⟨d, 0, none⟩)] w (Ret fun v w' => v = .int .i64 (syncC x).1 ∧ DkT W w w' d (syncC x).2 F) := by
  have h' := h
  obtain ⟨p, FK, FS, FL, hI, ok, hF, hf, hC⟩ := h
  refine step_call (Sync_spec hI ok hd) ?_
  rintro v w' ⟨rfl, ⟨p', hI'⟩, hc⟩
  exact ⟨rfl, h'.to hI' (ok_sync ok hd) (fun i hi => .inl (hF i hi)) (hc.mono (fun i _ hi => hF i (by rcases hi with h | h; exact .inl h; exact .inr (.inr (.inl h)))))⟩
theorem S_cut (h : DkS W w d x F) {ks : List Bool} (hk : Rd w o (ks.map .bool) G) (hG : ∀ i, G i → ¬ F i) (hkl : ks.length ≤ 1000000) (c : Nat) : Calls Try.prog i_disk_Disk_Cut #[.pointer (some ⟨d, 0, none⟩), .slice o ks.length c] w (Ret fun v w' => v = .tuple #[] ∧ DkT W w w' d (cutC x ks) F) := by
  have h' := h
  obtain ⟨p, FK, FS, FL, hI, ok, hF, hf, hC⟩ := h
  refine step_call (Cut_spec hI ok hk (fun i hi => ⟨fun he => hG i hi (hF i (.inl he)), fun he => hG i hi (hF i (.inr (.inr (.inl he))))⟩) hkl c) ?_
  rintro v w' ⟨rfl, ⟨p', hI'⟩, hc⟩
  exact ⟨rfl, h'.to hI' (ok_cut ok ks) (fun i hi => .inl (hF i hi)) (hc.mono (fun i _ hi => hF i (by rcases hi with h | h; exact .inl h; exact .inr (.inr (.inl h)))))⟩
theorem ok_come (ok : DkOk x) : DkOk (if x.away then { x with away := false, fuse := -1 } else x) := by
  split
  · exact ⟨⟨by show -1 ≤ (-1 : Int); omega, by show (-1 : Int) ≤ _; omega⟩, ok.n, ok.k, ok.s, ok.w, ok.at_, ok.s32, ok.l32⟩
  · exact ok
theorem S_come (h : DkS W w d x F) : Calls Try.prog i_disk_Disk_Come #[.pointer (some ⟨d, 0, none⟩)] w (Ret fun v w' => v = .tuple #[] ∧ DkT W w w' d (if x.away then { x with away := false, fuse := -1 } else x) F) := by
  have h' := h
  obtain ⟨p, FK, FS, FL, hI, ok, hF, hf, hC⟩ := h
  refine step_call (Come_spec hI) ?_
  rintro v w' ⟨rfl, hI', hc⟩
  exact ⟨rfl, h'.to hI' (ok_come ok) (fun i hi => .inl (hF i hi)) (hc.mono (fun i _ hi => hF i (.inl hi)))⟩
theorem S_fuse (h : DkS W w d x F) (n : Int) (hn : n ≤ 1000000) {ks : List Bool} (hk : Rd w o (ks.map .bool) G) (hkl : ks.length ≤ 1000000) (c : Nat) : Calls Try.prog i_disk_Disk_Fuse #[.pointer (some ⟨d, 0, none⟩), .int .i64 n, .slice o ks.length c] w (Ret fun v w' => v = .tuple #[] ∧ DkT W w w' d (fuseC x n ks) F) := by
  have h' := h
  obtain ⟨p, FK, FS, FL, hI, ok, hF, hf, hC⟩ := h
  refine step_call (Fuse_spec hI n hk hkl c) ?_
  rintro v w' ⟨rfl, ⟨p', FK', hI', hX⟩, hc⟩
  have ok' : DkOk (fuseC x n ks) := by
    unfold fuseC
    split
    · exact ok
    · exact ⟨⟨by show -1 ≤ max n (-1); omega, by show max n (-1) ≤ _; omega⟩, ok.n, hkl, ok.s, ok.w, ok.at_, ok.s32, ok.l32⟩
  refine ⟨rfl, h'.to hI' ok' (fun i hi => ?_) (hc.mono (fun i _ hi => hF i (.inl hi)))⟩
  rcases hi with hi | hi | hi | hi
  · exact .inl (hF i (.inl hi))
  · rcases hX i hi with hi | hi
    · exact .inl (hF i (.inr (.inl hi)))
    · exact .inr hi
  · exact .inl (hF i (.inr (.inr (.inl hi))))
  · exact .inl (hF i (.inr (.inr (.inr hi))))
theorem S_on (h : DkS W w d x F) : Calls Try.prog i_disk_Disk_IsOn #[.pointer (some ⟨d, 0, none⟩)] w (Ret fun v w' => v = .bool (!x.away) ∧ w' = w) := by
  obtain ⟨p, FK, FS, FL, hI, _⟩ := h; exact IsOn_spec hI.b
theorem S_len (h : DkS W w d x F) : Calls Try.prog i_disk_Disk_Len #[.pointer (some ⟨d, 0, none⟩)] w (Ret fun v w' => v = .int .i64 x.safe.length ∧ w' = w) := by
  obtain ⟨p, FK, FS, FL, hI, _⟩ := h; exact Len_spec hI.b
theorem S_loose (h : DkS W w d x F) : Calls Try.prog i_disk_Disk_Loose #[.pointer (some ⟨d, 0, none⟩)] w (Ret fun v w' => v = .int .i64 x.loose.length ∧ w' = w) := by
  obtain ⟨p, FK, FS, FL, hI, _⟩ := h; exact Loose_spec hI.b
theorem S_done (h : DkS W w d x F) : Calls Try.prog i_disk_Disk_Done #[.pointer (some ⟨d, 0, none⟩)] w (Ret fun v w' => v = .int .i64 x.done ∧ w' = w) := by
  obtain ⟨p, FK, FS, FL, hI, _⟩ := h; exact Done_spec hI.b
theorem S_image (h : DkS W w d x F) : Calls Try.prog i_disk_Disk_Image #[.pointer (some ⟨d, 0, none⟩)] w (Ret fun v w' => v = .string (str x.safe.flatten) ∧ Ch Non w w') := by
  obtain ⟨p, FK, FS, FL, hI, ok, _⟩ := h; exact Image_spec hI ok
theorem S_read (h : DkS W w d x F) (q : Int) : Calls Try.prog i_disk_Disk_Read #[.pointer (some ⟨d, 0, none⟩), .int .i64 q] w (Ret fun v w' => v = .tuple #[.string (str (if chk x q = 0 then readC x q else [])), .int .i64 (chk x q)] ∧ Ch Non w w') := by
  obtain ⟨p, FK, FS, FL, hI, ok, _⟩ := h; exact Read_spec hI ok q
theorem ok_of {S : List (List UInt8)} (h32 : ∀ l ∈ S, l.length = 32) (hn : S.length ≤ 4096) : DkOk (diskOf S) :=
  ⟨⟨by show -1 ≤ (-1 : Int); omega, by show (-1 : Int) ≤ _; omega⟩, ⟨Int.le_refl _, by show (0 : Int) ≤ _; omega⟩, Nat.zero_le _, hn, Nat.zero_le _, fun y hy => (by cases hy), h32, fun y hy => (by cases hy)⟩
theorem S_new (hC : Ch Non W w) (n : Int) : Calls Try.prog i_disk_New #[.int .i64 n] w (Ret fun v w' => ∃ (d : Nat) (F : Nat → Prop), v = .pointer (some ⟨d, 0, none⟩) ∧ DkS W w' d (diskOf (List.replicate (newN n) zeros32)) F ∧ (∀ i, F i → New w w' i) ∧ Ch Non w w') := by
  refine step_call (New_spec w n) ?_
  rintro v w' ⟨d, p, FS, rfl, hI, hd, hFS, hc⟩
  refine ⟨d, New w w', rfl, ⟨p, Non, FS, Non, hI, ok_of (fun l hl => by rw [List.eq_of_mem_replicate hl]; rfl) (by rw [List.length_replicate]; unfold newN; omega), fun i hi => ?_, Foot.new hC, hC.andN hc⟩, fun _ hi => hi, hc⟩
  rcases hi with hi | hi | hi | hi
  · subst hi; exact hd
  · exact hi.elim
  · exact hFS i hi
  · exact hi.elim
theorem S_of (hC : Ch Non W w) {S : List (List UInt8)} {r : List UInt8} (h32 : ∀ l ∈ S, l.length = 32) (hn : S.length ≤ 4096) (hr : r.length < 32) : Calls Try.prog i_disk_Of #[.string (str (S.flatten ++ r))] w (Ret fun v w' => ∃ (d : Nat) (F : Nat → Prop), v = .pointer (some ⟨d, 0, none⟩) ∧ DkS W w' d (diskOf S) F ∧ (∀ i, F i → New w w' i) ∧ Ch Non w w') := by
  refine step_call (Of_spec w h32 hn hr) ?_
  rintro v w' ⟨p, FS, rfl, hI, hFS, hc⟩
  refine ⟨_, New w w', rfl, ⟨p, Non, FS, Non, hI, ok_of h32 hn, fun i hi => ?_, Foot.new hC, hC.andN hc⟩, fun _ hi => hi, hc⟩
  rcases hi with hi | hi | hi | hi
  · subst hi; exact ⟨Nat.le_refl _, hI.b.lt⟩
  · exact hi.elim
  · exact hFS i hi
  · exact hi.elim
def ofL (b : Int) : List UInt8 := List.replicate 32 (UInt8.ofNat b.toNat)
theorem ofL_len (b : Int) : (ofL b).length = 32 := List.length_replicate
theorem of_spec (w : World) {b : Int} (hb : 0 ≤ b ∧ b < 256) : Calls Try.prog i_coadjutorlaw04_of #[.int .u8 b] w (Ret fun v w' => v = .string (str (ofL b)) ∧ Ch Non w w') := by
  refine coadjutorlaw04_of.calls _ ?_
  unfold coadjutorlaw04_of.vc
  have hbv : Value.int .u8 b = u8v (UInt8.ofNat b.toNat) := by
    unfold u8v
    rw [UInt8.toNat_ofNat']
    congr 1; omega
  rw [hbv]
  refine ⟨by decide, fun w1 e1 => ?_⟩
  have hB1 : Blk w1 w.heap.size (fillTo (ofL b |>.map u8v) (.int .u8 0) 0) 5 := by
    have := Blk.new e1
    rw [fillTo_zero, List.length_map, ofL_len]
    exact this
  have hc1 : Ch Non w w1 := Ch.alloc e1
  have hll : ((ofL b).map u8v).length = 32 := by rw [List.length_map, ofL_len]
  refine ⟨fun i k w' => ∃ j : Nat, i = j ∧ j ≤ 32 ∧ k = 32 - j ∧ Blk w' w.heap.size (fillTo ((ofL b).map u8v) (.int .u8 0) j) 5 ∧ Ch Non w w', ⟨_, 0, rfl, Nat.zero_le _, rfl, hB1, hc1⟩, ?_⟩
  rintro jk i k w2 ⟨j, rfl, hj, rfl, hB, hc⟩
  refine ⟨fun hlt => ?_, fun hge => ?_⟩
  · have hlt : j < 32 := by have h := of_decide_eq_true hlt; have h : (j : Int) < 32 := h; omega
    have hjj : (j : Int).toNat * 1 = j := by omega
    rw [hjj, add_at, Nat.zero_add]
    have hl : j < (fillTo ((ofL b).map u8v) (.int .u8 0) j).length := by rw [fillTo_len, hll]; exact hlt
    refine ⟨⟨by omega, by show (j : Int) < 32; omega⟩, hB.ok j (List.getElem?_eq_getElem hl), fun w3 e3 => ?_⟩
    have hB3 := hB.set e3
    have hg : ((ofL b).map u8v)[j]'(by omega) = u8v (UInt8.ofNat b.toNat) := by rw [List.getElem_map]; exact congrArg u8v (List.getElem_replicate _)
    have hst := fillTo_set (L := (ofL b).map u8v) (z := .int .u8 0) (j := j) (by omega)
    rw [hg] at hst
    rw [hst] at hB3
    exact ⟨32 - (j + 1), by omega, j + 1, by rw [wrap_id (by omega) (by omega)]; rfl, hlt, rfl, hB3, hc.trans (Ch.set (F := (· = w.heap.size)) e3 rfl) (fun i hi he => by omega)⟩
  · have hj32 : j = 32 := by have h := of_decide_eq_false hge; have h : ¬ (j : Int) < 32 := h; omega
    subst hj32
    have hfa : fillTo ((ofL b).map u8v) (.int .u8 0) 32 = (ofL b).map u8v := by
      have := fillTo_all (L := (ofL b).map u8v) (z := Value.int .u8 0)
      rwa [hll] at this
    rw [hfa] at hB
    have hrd : Rd w2 (some ⟨w.heap.size, 0, none⟩) ((ofL b).map u8v) (· = w.heap.size) := hB.rd
    have hout := conv_out (P := Try.prog) (src := t_S_uint8) (dst := t_string) (e := t_uint8) (c := 32) hrd (by kernel_rfl) (by kernel_rfl) (by kernel_rfl)
    rw [ofL_len] at hout
    exact ⟨_, _, hout, rfl, hc⟩
theorem awake_spec (w : World) : Calls Try.prog i_coadjutorlaw04_awake #[] w (Ret fun v w' => v = .bool true ∧ Ch Non w w') := by
  refine coadjutorlaw04_awake.calls ?_
  unfold coadjutorlaw04_awake.vc
  refine step_call (S_new (Ch.refl Non w) 3) ?_
  rintro v w1 ⟨d, F1, rfl, h1, hF1, hc1⟩
  refine ⟨_, rfl, iteF rfl (step_call (of_spec w1 (by omega)) ?_)⟩
  rintro v w2 ⟨rfl, hc2⟩
  refine ⟨_, rfl, step_call (S_write (h1.keepN hc2) (by decide) (by decide) 0 (ofL 97)) ?_⟩
  rintro v w3 ⟨rfl, F3, h3, hE3, hc3⟩
  refine ⟨_, rfl, step_call (of_spec w3 (by omega)) ?_⟩
  rintro v w4 ⟨rfl, hc4⟩
  refine ⟨_, rfl, step_call (S_write (h3.keepN hc4) (by decide) (by decide) 1 (ofL 98)) ?_⟩
  rintro v w5 ⟨rfl, F5, h5, hE5, hc5⟩
  refine ⟨_, rfl, step_call (S_loose h5) ?_⟩
  rintro v w6 ⟨rfl, rfl⟩
  refine ⟨_, rfl, fun w7 e7 => ?_⟩
  have hb7 : Blk w7 w6.heap.size ([false, true].map Value.bool) 4 := Blk.new e7
  refine step_call (S_cut (h5.keepN (Ch.alloc e7)) (ks := [false, true]) hb7.rd (fun i hi hf => by subst hi; have := (h5.f _ hf).2; omega) (by decide) 2) ?_
  rintro v w8 ⟨rfl, F8, h8, _, hc8⟩
  refine ⟨rfl, step_call (S_on h8) ?_⟩
  rintro v w9 ⟨rfl, rfl⟩
  refine ⟨_, rfl, step_call (S_come h8) ?_⟩
  rintro v w10 ⟨rfl, F10, h10, _, hc10⟩
  refine ⟨rfl, step_call (S_read h10 1) ?_⟩
  rintro v w11 ⟨rfl, hc11⟩
  have h11 := h10.keepN hc11
  refine ⟨_, _, rfl, iteT rfl (iteT rfl (iteT rfl (iteT rfl (iteT rfl (step_call (of_spec w11 (by omega)) ?_)))))⟩
  rintro v w12 ⟨rfl, hc12⟩
  have h12 := h11.keepN hc12
  refine ⟨_, rfl, iteT (by rw [str_beq]; decide) (step_call (S_image h12) ?_)⟩
  rintro v w13 ⟨rfl, hc13⟩
  refine ⟨_, rfl, step_call (of_spec w13 (by omega)) ?_⟩
  rintro v w14 ⟨rfl, hc14⟩
  refine ⟨_, rfl, step_call (of_spec w14 (by omega)) ?_⟩
  rintro v w15 ⟨rfl, hc15⟩
  refine ⟨_, rfl, by rw [str_size, str_size]; decide, step_call (of_spec w15 (by omega)) ?_⟩
  rintro v w16 ⟨rfl, hc16⟩
  have hc1216 := ((hc13.andN hc14).andN hc15).andN hc16
  have h16 := h12.keepN hc1216
  refine ⟨_, rfl, by rw [str_app, str_size, str_size]; decide, iteT (by rw [str_app, str_app, str_beq]; decide) (step_call (S_len h16) ?_)⟩
  rintro v w17 ⟨rfl, rfl⟩
  refine ⟨_, rfl, iteT rfl (step_call (S_done h16) ?_)⟩
  rintro v w18 ⟨rfl, rfl⟩
  exact ⟨_, rfl, rfl, h16.c⟩
end
end Go.Proofs.Ytpefegcdcojokaa.Disk
