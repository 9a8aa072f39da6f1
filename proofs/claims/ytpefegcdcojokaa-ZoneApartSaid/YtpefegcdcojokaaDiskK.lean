/- DiskCopy's contract: of all rows of writes the Go function answers true and leaves what was there; the conditions stand in each theorem. -/
import Derived.Test.YtpefegcdcojokaaDiskF
set_option linter.unusedVariables false
set_option linter.unusedSimpArgs false
namespace Go.Proofs.Ytpefegcdcojokaa.Disk
open Go Go.Proofs Go.Proofs.Ytpefegcdcojokaa.V Go.Proofs.Ytpefegcdcojokaa.Vc Go.RowKit

theorem writeC_ok {x : DkD} {q : Int} {l : List UInt8} (ha : x.away = false) (hf : x.fuse = -1) (hq : 0 ≤ q ∧ q < x.safe.length) (hl : l.length = 32) : writeC x q l = (0, { x with fuse := -1, done := x.done + 1, loose := x.loose ++ [(q, l)] }) := by
  have hc : chk x q = 0 := by unfold chk; rw [if_neg (by omega), ha]; rfl
  have hu : useC x = (0, { x with fuse := -1, done := x.done + 1 }) := by unfold useC; rw [if_neg (by omega), hf]; rfl
  unfold writeC
  rw [if_neg (by omega), hc, if_neg (by decide), hu]
  rfl
theorem syncC_ok {x : DkD} (ha : x.away = false) (hf : x.fuse = -1) : syncC x = (0, { x with fuse := -1, done := x.done + 1, loose := [], safe := layN x.loose (fun _ => true) x.safe x.loose.length }) := by
  have hu : useC x = (0, { x with fuse := -1, done := x.done + 1 }) := by unfold useC; rw [if_neg (by omega), hf]; rfl
  unfold syncC
  rw [if_neg (by rw [ha]; decide), hu]
  rfl
structure CInv (m j : Nat) (x : DkD) : Prop where
  aw : x.away = false
  fu : x.fuse = -1
  sl : x.safe.length = m
  dn : x.done ≤ 2 * j
  ll : x.loose.length ≤ j
theorem CInv.write {m j : Nat} {x : DkD} (h : CInv m j x) {q : Int} {l : List UInt8} (hq : 0 ≤ q ∧ q < m) (hl : l.length = 32) : (writeC x q l).1 = 0 ∧ (writeC x q l).2.away = false ∧ (writeC x q l).2.fuse = -1 ∧ (writeC x q l).2.safe.length = m ∧ (writeC x q l).2.done ≤ 2 * j + 1 ∧ (writeC x q l).2.loose.length ≤ j + 1 := by
  have hd := h.dn
  have hll := h.ll
  rw [writeC_ok h.aw h.fu (by rw [h.sl]; exact hq) hl]
  exact ⟨rfl, h.aw, rfl, h.sl, by show x.done + 1 ≤ _; omega, by show (x.loose ++ [(q, l)]).length ≤ _; rw [List.length_append]; simp; omega⟩
set_option maxRecDepth 100000 in
set_option maxHeartbeats 4000000 in
theorem DiskCopy_true (W : World) (o : Option Addr) (n c : Nat) (h0 : DatC Try.prog W t_S_uint8 [.slice o n c]) (sync : Int) (hf0 : (Lit.int .i64 sync).wf = true) :
    Calls Try.prog i_coadjutorlaw04_DiskCopy #[.slice o n c, .int .i64 sync] W (Ret fun v w' => v = .bool true ∧ Ch Non W w') := by
  obtain ⟨o', c', xs, hcs, _, hcm, _, hwf, hr⟩ := h0.ints (k := .u8) (e := t_uint8) (by kernel_rfl) (by kernel_rfl)
  injection hcs with hcs
  injection hcs with q1 q2 q3
  subst q1; subst q2; subst q3
  have hr : Rd W o (xs.map (.int .u8)) (fun i => i < W.heap.size) := hr.mono (fun i hi _ => hi)
  refine coadjutorlaw04_DiskCopy.calls _ _ _ _ ?_
  unfold coadjutorlaw04_DiskCopy.vc
  refine step_call (awake_spec W) ?_
  rintro v w1 ⟨rfl, hc1⟩
  refine ⟨_, rfl, iteF rfl (step_call (S_new hc1 6) ?_)⟩
  rintro v w2 ⟨d, F2, rfl, hS2, hF2, hc2⟩
  have hI0 : CInv 6 0 (diskOf (List.replicate (newN 6) zeros32)) := ⟨rfl, rfl, rfl, by show (0 : Int) ≤ 2 * ((0 : Nat) : Int); omega, Nat.le_refl _⟩
  generalize diskOf (List.replicate (newN 6) zeros32) = x0 at hS2 hI0
  refine ⟨_, rfl, fun i k w' => ∃ (j : Nat) (x : DkD) (F : Nat → Prop), i = j ∧ j ≤ xs.length ∧ j ≤ 20 ∧ k = xs.length - j ∧ DkS W w' d x F ∧ CInv 6 j x, ⟨_, 0, x0, F2, rfl, Nat.zero_le _, by omega, rfl, hS2, hI0⟩, ?_⟩
  clear hS2 hI0 hc2 hF2 hc1
  rintro jk i k w5 ⟨j, x, F, rfl, hj, hj20, rfl, hS, hI⟩
  refine ⟨fun hlt => ⟨fun h20 => ?_, fun h20 => ?_⟩, fun hge => ?_⟩
  · have hlt : j < xs.length := by have := of_decide_eq_true hlt; omega
    have h20 : j + 1 ≤ 20 := by have := of_decide_eq_true h20; omega
    have hjj : (j : Int).toNat * 1 = j := by omega
    have hfar : ∀ i, i < W.heap.size → ¬ F i := fun i hi hf => by have := (hS.f i hf).1; omega
    have hr5 := hr.keepN hS.c
    have hx8 := u8_in (hwf _ (List.getElem_mem hlt))
    have hll := hI.ll
    have hdn := hI.dn
    obtain ⟨pa, hpa, _, _, hcx⟩ := hr5.getT hlt
    have hrS : ∀ w', Ch F w5 w' → w'.cell? (pa.add j) = some (.int .u8 xs[j]) := fun w' hc => by
      obtain ⟨pb, hpb, _, _, hcy⟩ := (hr5.keep hc (fun i _ hi => hfar i hi)).getT hlt
      rw [hpa] at hpb; injection hpb with hpb; subst hpb; exact hcy
    subst hpa
    generalize xs[j] = b at hcx hx8 hrS
    rw [hjj]
    refine ⟨fun w' => Ch F w5 w', fun w9 e9 => ⟨Ch.drew e9, ⟨by omega, by omega⟩, _, hrS, by decide, ⟨by omega, by omega⟩, _, hrS, step_call (of_spec w9 hx8) ?_⟩⟩
    rintro v w12 ⟨rfl, hc12⟩
    have hc512 : Ch Non w5 w12 := (Ch.drew e9).andN hc12
    have hq : IntKind.i64.wrap (Int.tmod b 6) = b % 6 := by rw [tmod_pos hx8.1, wrap_id (by omega) (by omega)]
    rw [hq]
    refine ⟨_, rfl, hc512.any, step_call (S_write (hS.keepN hc512) (by omega) (by omega) (b % 6) (ofL b)) ?_⟩
    obtain ⟨_, i1, i2, i3, i4, i5⟩ := hI.write (q := b % 6) (l := ofL b) ⟨by omega, by omega⟩ (ofL_len b)
    generalize (writeC x (b % 6) (ofL b)).1 = e1
    generalize (writeC x (b % 6) (ofL b)).2 = x' at i1 i2 i3 i4 i5
    rintro v w13 ⟨rfl, F', hS', _, hc13⟩
    have hvs : Ch F w5 w13 := hc512.any.same hc13
    refine ⟨_, rfl, hvs, by omega, fun _ => ?_, fun _ => ?_⟩
    · refine step_call (S_sync hS' (by omega)) ?_
      rw [syncC_ok i1 i2]
      rintro v w14 ⟨rfl, F'', hS'', _, _⟩
      exact ⟨_, rfl, xs.length - (j + 1), by omega, j + 1, _, F'', by rw [wrap_id (by omega) (by omega)]; rfl, hlt, h20, rfl, hS'', ⟨i1, rfl, by show (layN _ _ _ _).length = 6; rw [layN_len]; exact i3, by show x'.done + 1 ≤ _; omega, Nat.zero_le _⟩⟩
    · exact ⟨xs.length - (j + 1), by omega, j + 1, x', F', by rw [wrap_id (by omega) (by omega)]; rfl, hlt, h20, rfl, hS', ⟨i1, i2, i3, by omega, i5⟩⟩
  · clear hlt h20
    have hsl := hI.sl
    have ok := hS.ok
    refine step_call (S_image hS) ?_
    rintro v wa ⟨rfl, hca⟩
    have hSa := hS.keepN hca
    have himg : str x.safe.flatten = str (x.safe.flatten ++ []) := by rw [List.append_nil]
    have hof := S_of (W := W) (r := []) hSa.c ok.s32 ok.s (by decide)
    rw [← himg] at hof
    refine ⟨_, rfl, step_call hof ?_⟩
    rintro v wb ⟨d2, F2, rfl, hD0, hF2, hcb⟩
    have hSb := hSa.keepN hcb
    have hsep : ∀ i, F i → ¬ F2 i := fun i h1 h2 => by have := (hSa.f i h1).2; have := (hF2 i h2).1; omega
    refine ⟨_, rfl, step_call (S_image hSb) ?_⟩
    rintro v wc ⟨rfl, hcc⟩
    refine ⟨_, rfl, step_call (S_image (hD0.keepN hcc)) ?_⟩
    rintro v wd ⟨rfl, hcd⟩
    have hccd := hcc.andN hcd
    have hD1 := hD0.keepN hccd
    have hSd := hSb.keepN hccd
    refine ⟨_, rfl, iteF (by show (!((str x.safe.flatten).toList == (str x.safe.flatten).toList)) = false; simp) (step_call (S_len hD1) ?_)⟩
    rintro v we ⟨rfl, rfl⟩
    refine ⟨_, rfl, iteF (by show (((x.safe.length : Nat) : Int) != 6) = false; rw [hsl]; rfl) (step_call (S_loose hD1) ?_)⟩
    rintro v wf ⟨rfl, rfl⟩
    refine ⟨_, rfl, iteF rfl (step_call (of_spec wf (by omega)) ?_)⟩
    rintro v wg ⟨rfl, hcg⟩
    have hw2 := writeC_ok (x := diskOf x.safe) (q := 2) (l := ofL 77) rfl rfl (by show (0 : Int) ≤ 2 ∧ 2 < ((x.safe.length : Nat) : Int); omega) (ofL_len 77)
    refine ⟨_, rfl, step_call (S_write (hD1.keepN hcg) (by show (0 : Int) ≤ _; omega) (Nat.zero_le _) 2 (ofL 77)) ?_⟩
    rw [hw2]
    rintro v wh ⟨rfl, F3, hD3, hE3, hch⟩
    have hy2 := syncC_ok (x := { diskOf x.safe with fuse := -1, done := (diskOf x.safe).done + 1, loose := (diskOf x.safe).loose ++ [(2, ofL 77)] }) rfl rfl
    refine ⟨_, rfl, iteF rfl (step_call (S_sync hD3 (by show (0 : Int) + 1 ≤ _; omega)) ?_)⟩
    rw [hy2]
    rintro v wi ⟨rfl, F4, hD4, hE4, hci⟩
    have hSg := hSd.keepN hcg
    have hSh := hSg.far hch (fun i hi hf => hsep i hi hf) hD3.c
    have hsep3 : ∀ i, F i → ¬ F3 i := fun i h1 h2 => by
      rcases hE3 i h2 with h2 | h2
      · exact hsep i h1 h2
      · have := (hSg.f i h1).2; have := h2.1; omega
    have hSi := hSh.far hci hsep3 hD4.c
    refine ⟨_, rfl, iteF rfl (step_call (S_image hSi) ?_)⟩
    rintro v wj ⟨rfl, hcj⟩
    refine ⟨_, rfl, iteF (by show (!((str x.safe.flatten).toList == (str x.safe.flatten).toList)) = false; simp) (step_call (S_read (hD4.keepN hcj) 2) ?_)⟩
    have hlay : layN ((diskOf x.safe).loose ++ [(2, ofL 77)]) (fun _ => true) (diskOf x.safe).safe ((diskOf x.safe).loose ++ [(2, ofL 77)]).length = x.safe.set 2 (ofL 77) := rfl
    dsimp only
    rw [hlay]
    have hck : ∀ (b : Bool) (f dn : Int) (ks : List Bool), b = false → chk ⟨b, f, ks, x.safe.set 2 (ofL 77), [], dn⟩ 2 = 0 := fun b f dn ks hb => by
      unfold chk
      rw [if_neg (by show ¬ ((2 : Int) < 0 ∨ 2 ≥ (((x.safe.set 2 (ofL 77)).length : Nat) : Int)); rw [List.length_set]; omega), hb]; rfl
    have hrd : ∀ (b : Bool) (f dn : Int) (ks : List Bool), readC ⟨b, f, ks, x.safe.set 2 (ofL 77), [], dn⟩ 2 = ofL 77 := fun b f dn ks => by
      show (x.safe.set 2 (ofL 77)).getD 2 [] = ofL 77
      rw [getD_at [] (by rw [List.length_set]; omega), List.getElem_set_self]
    rw [hck (diskOf x.safe).away _ _ _ rfl, if_pos rfl, hrd]
    rintro v wk ⟨rfl, hck2⟩
    have hcWk := (hD4.c.andN hcj).andN hck2
    refine ⟨_, _, rfl, iteT rfl (step_call (of_spec wk (by omega)) ?_)⟩
    rintro v wl ⟨rfl, hcl⟩
    refine ⟨_, rfl, iteT (by rw [str_beq]; simp) (step_call (S_new (hcWk.andN hcl) (-5)) ?_)⟩
    rintro v wm ⟨d5, F5, rfl, hD5, _, hcm⟩
    refine ⟨_, rfl, step_call (S_len hD5) ?_⟩
    rintro v wn ⟨rfl, rfl⟩
    refine ⟨_, rfl, iteT rfl (step_call (S_new hD5.c 1099511627776) ?_)⟩
    rintro v wo ⟨d6, F6, rfl, hD6, _, hco⟩
    refine ⟨_, rfl, step_call (S_len hD6) ?_⟩
    rintro v wp ⟨rfl, rfl⟩
    refine ⟨_, rfl, ?_, hD6.c⟩
    have hnn : (diskOf (List.replicate (newN 1099511627776) zeros32)).safe.length = 4096 := by
      show (List.replicate (newN 1099511627776) zeros32).length = 4096
      rw [List.length_replicate]; decide
    rw [hnn]; rfl
  · clear hge
    have hsl := hI.sl
    have ok := hS.ok
    refine step_call (S_image hS) ?_
    rintro v wa ⟨rfl, hca⟩
    have hSa := hS.keepN hca
    have himg : str x.safe.flatten = str (x.safe.flatten ++ []) := by rw [List.append_nil]
    have hof := S_of (W := W) (r := []) hSa.c ok.s32 ok.s (by decide)
    rw [← himg] at hof
    refine ⟨_, rfl, step_call hof ?_⟩
    rintro v wb ⟨d2, F2, rfl, hD0, hF2, hcb⟩
    have hSb := hSa.keepN hcb
    have hsep : ∀ i, F i → ¬ F2 i := fun i h1 h2 => by have := (hSa.f i h1).2; have := (hF2 i h2).1; omega
    refine ⟨_, rfl, step_call (S_image hSb) ?_⟩
    rintro v wc ⟨rfl, hcc⟩
    refine ⟨_, rfl, step_call (S_image (hD0.keepN hcc)) ?_⟩
    rintro v wd ⟨rfl, hcd⟩
    have hccd := hcc.andN hcd
    have hD1 := hD0.keepN hccd
    have hSd := hSb.keepN hccd
    refine ⟨_, rfl, iteF (by show (!((str x.safe.flatten).toList == (str x.safe.flatten).toList)) = false; simp) (step_call (S_len hD1) ?_)⟩
    rintro v we ⟨rfl, rfl⟩
    refine ⟨_, rfl, iteF (by show (((x.safe.length : Nat) : Int) != 6) = false; rw [hsl]; rfl) (step_call (S_loose hD1) ?_)⟩
    rintro v wf ⟨rfl, rfl⟩
    refine ⟨_, rfl, iteF rfl (step_call (of_spec wf (by omega)) ?_)⟩
    rintro v wg ⟨rfl, hcg⟩
    have hw2 := writeC_ok (x := diskOf x.safe) (q := 2) (l := ofL 77) rfl rfl (by show (0 : Int) ≤ 2 ∧ 2 < ((x.safe.length : Nat) : Int); omega) (ofL_len 77)
    refine ⟨_, rfl, step_call (S_write (hD1.keepN hcg) (by show (0 : Int) ≤ _; omega) (Nat.zero_le _) 2 (ofL 77)) ?_⟩
    rw [hw2]
    rintro v wh ⟨rfl, F3, hD3, hE3, hch⟩
    have hy2 := syncC_ok (x := { diskOf x.safe with fuse := -1, done := (diskOf x.safe).done + 1, loose := (diskOf x.safe).loose ++ [(2, ofL 77)] }) rfl rfl
    refine ⟨_, rfl, iteF rfl (step_call (S_sync hD3 (by show (0 : Int) + 1 ≤ _; omega)) ?_)⟩
    rw [hy2]
    rintro v wi ⟨rfl, F4, hD4, hE4, hci⟩
    have hSg := hSd.keepN hcg
    have hSh := hSg.far hch (fun i hi hf => hsep i hi hf) hD3.c
    have hsep3 : ∀ i, F i → ¬ F3 i := fun i h1 h2 => by
      rcases hE3 i h2 with h2 | h2
      · exact hsep i h1 h2
      · have := (hSg.f i h1).2; have := h2.1; omega
    have hSi := hSh.far hci hsep3 hD4.c
    refine ⟨_, rfl, iteF rfl (step_call (S_image hSi) ?_)⟩
    rintro v wj ⟨rfl, hcj⟩
    refine ⟨_, rfl, iteF (by show (!((str x.safe.flatten).toList == (str x.safe.flatten).toList)) = false; simp) (step_call (S_read (hD4.keepN hcj) 2) ?_)⟩
    have hlay : layN ((diskOf x.safe).loose ++ [(2, ofL 77)]) (fun _ => true) (diskOf x.safe).safe ((diskOf x.safe).loose ++ [(2, ofL 77)]).length = x.safe.set 2 (ofL 77) := rfl
    dsimp only
    rw [hlay]
    have hck : ∀ (b : Bool) (f dn : Int) (ks : List Bool), b = false → chk ⟨b, f, ks, x.safe.set 2 (ofL 77), [], dn⟩ 2 = 0 := fun b f dn ks hb => by
      unfold chk
      rw [if_neg (by show ¬ ((2 : Int) < 0 ∨ 2 ≥ (((x.safe.set 2 (ofL 77)).length : Nat) : Int)); rw [List.length_set]; omega), hb]; rfl
    have hrd : ∀ (b : Bool) (f dn : Int) (ks : List Bool), readC ⟨b, f, ks, x.safe.set 2 (ofL 77), [], dn⟩ 2 = ofL 77 := fun b f dn ks => by
      show (x.safe.set 2 (ofL 77)).getD 2 [] = ofL 77
      rw [getD_at [] (by rw [List.length_set]; omega), List.getElem_set_self]
    rw [hck (diskOf x.safe).away _ _ _ rfl, if_pos rfl, hrd]
    rintro v wk ⟨rfl, hck2⟩
    have hcWk := (hD4.c.andN hcj).andN hck2
    refine ⟨_, _, rfl, iteT rfl (step_call (of_spec wk (by omega)) ?_)⟩
    rintro v wl ⟨rfl, hcl⟩
    refine ⟨_, rfl, iteT (by rw [str_beq]; simp) (step_call (S_new (hcWk.andN hcl) (-5)) ?_)⟩
    rintro v wm ⟨d5, F5, rfl, hD5, _, hcm⟩
    refine ⟨_, rfl, step_call (S_len hD5) ?_⟩
    rintro v wn ⟨rfl, rfl⟩
    refine ⟨_, rfl, iteT rfl (step_call (S_new hD5.c 1099511627776) ?_)⟩
    rintro v wo ⟨d6, F6, rfl, hD6, _, hco⟩
    refine ⟨_, rfl, step_call (S_len hD6) ?_⟩
    rintro v wp ⟨rfl, rfl⟩
    refine ⟨_, rfl, ?_, hD6.c⟩
    have hnn : (diskOf (List.replicate (newN 1099511627776) zeros32)).safe.length = 4096 := by
      show (List.replicate (newN 1099511627776) zeros32).length = 4096
      rw [List.length_replicate]; decide
    rw [hnn]; rfl
end Go.Proofs.Ytpefegcdcojokaa.Disk
