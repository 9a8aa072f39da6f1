/- DiskSynced's contract: of all rows of writes the Go function answers true and leaves what was there; the conditions stand in each theorem. -/
import Derived.Test.YtpefegcdcojokaaDiskK
import Derived.Test.YtpefegcdcojokaaVcDiskY
set_option linter.unusedVariables false
set_option linter.unusedSimpArgs false
namespace Go.Proofs.Ytpefegcdcojokaa.Disk
open Go Go.Proofs Go.Proofs.Ytpefegcdcojokaa.V Go.Proofs.Ytpefegcdcojokaa.Vc Go.RowKit

def wr8 (b : Int) : Int × List UInt8 := (b % 8, ofL b)
def saN (xs : List Int) : Nat → List Int
  | 0 => List.replicate 8 0
  | j + 1 => (saN xs j).set ((xs.getD j 0) % 8).toNat (xs.getD j 0)
theorem saN_len (xs : List Int) : ∀ j, (saN xs j).length = 8
  | 0 => rfl
  | j + 1 => by rw [saN, List.length_set]; exact saN_len xs j
theorem ofL0 : ofL 0 = zeros32 := rfl
theorem _root_.Go.Proofs.Ytpefegcdcojokaa.V.Blk.set' {w : World} {b T : Nat} {cs : List Value} (h : Blk w b cs T) (i : Nat) (v : Value) : Blk (w.setCell ⟨b, i, none⟩ v) b (cs.set i v) T := h.set rfl
theorem lay_sa (xs : List Int) (N : Nat) (hN : N ≤ xs.length) : ∀ j, j ≤ N → layN ((xs.take N).map wr8) (fun _ => true) (List.replicate 8 zeros32) j = (saN xs j).map ofL
  | 0, _ => rfl
  | j + 1, hj => by
    have hl : j < ((xs.take N).map wr8).length := by rw [List.length_map, List.length_take]; omega
    have hg : ((xs.take N).map wr8).getD j (0, []) = wr8 (xs.getD j 0) := by
      rw [getD_at _ hl, getD_at 0 (show j < xs.length by omega), List.getElem_map, List.getElem_take]
    show (if true = true then _ else _) = _
    rw [if_pos rfl, hg, lay_sa xs N hN j (by omega), saN, List.map_set]
    rfl
theorem lay_from {loose : List (Int × List UInt8)} {kp : Nat → Bool} {safe : List (List UInt8)} {k : Nat} (hk : k < safe.length) (hat : ∀ y ∈ loose, 0 ≤ y.1) : ∀ j, j ≤ loose.length → (layN loose kp safe j).getD k [] = safe.getD k [] ∨ ∃ y ∈ loose, y.1 = k ∧ (layN loose kp safe j).getD k [] = y.2
  | 0, _ => .inl rfl
  | j + 1, hj => by
    have ih := lay_from (kp := kp) hk hat j (by omega)
    unfold layN
    split
    · have hl : j < loose.length := by omega
      rw [getD_at (0, []) hl]
      have hm := List.getElem_mem hl
      have h0 := hat _ hm
      by_cases he : loose[j].1.toNat = k
      · right
        refine ⟨_, hm, by omega, ?_⟩
        rw [he, getD_at [] (by rw [List.length_set, layN_len]; exact hk), List.getElem_set_self]
      · have e : ((layN loose kp safe j).set loose[j].1.toNat loose[j].2).getD k [] = (layN loose kp safe j).getD k [] := by
          rw [List.getD_eq_getElem?_getD, List.getD_eq_getElem?_getD, List.getElem?_set_ne he]
        rw [e]
        exact ih
    · exact ih
structure YInv (xs : List Int) (N j : Nat) (x : DkD) : Prop where
  aw : x.away = false
  fu : x.fuse = -1
  dn : x.done ≤ 2 * j + 2
  lo : j < N → x.safe = List.replicate 8 zeros32 ∧ x.loose = (xs.take j).map wr8
  hi : N ≤ j → x.safe = (saN xs N).map ofL ∧ x.loose = ((xs.take j).drop N).map wr8
/-- .. ahead of the sync. -/
structure YPre (xs : List Int) (N j : Nat) (x : DkD) : Prop where
  aw : x.away = false
  fu : x.fuse = -1
  dn : x.done ≤ 2 * j + 1
  lo : j ≤ N → x.safe = List.replicate 8 zeros32 ∧ x.loose = (xs.take j).map wr8
  hi : N < j → x.safe = (saN xs N).map ofL ∧ x.loose = ((xs.take j).drop N).map wr8
theorem YPre.sync {xs : List Int} {N : Nat} {x : DkD} (hN : N ≤ xs.length) (h : YPre xs N N x) : (syncC x).1 = 0 ∧ YInv xs N N (syncC x).2 := by
  rw [syncC_ok h.aw h.fu]
  obtain ⟨h1, h2⟩ := h.lo (Nat.le_refl _)
  refine ⟨rfl, h.aw, rfl, by show x.done + 1 ≤ _; have := h.dn; omega, fun h => by omega, fun _ => ⟨?_, ?_⟩⟩
  · show layN x.loose (fun _ => true) x.safe x.loose.length = _
    rw [h1, h2]
    have hl : ((xs.take N).map wr8).length = N := by rw [List.length_map, List.length_take]; omega
    rw [hl]
    exact lay_sa xs N hN N (Nat.le_refl _)
  · show [] = _
    rw [List.drop_of_length_le (by rw [List.length_take]; omega)]; rfl
theorem YPre.go {xs : List Int} {N j : Nat} {x : DkD} (h : YPre xs N j x) (hne : j ≠ N) : YInv xs N j x :=
  ⟨h.aw, h.fu, by have := h.dn; omega, fun hj => h.lo (by omega), fun hj => h.hi (by omega)⟩
theorem YInv.len {xs : List Int} {N j : Nat} {x : DkD} (h : YInv xs N j x) : x.safe.length = 8 ∧ x.loose.length ≤ j := by
  by_cases hj : j < N
  · rw [(h.lo hj).1, (h.lo hj).2]
    exact ⟨rfl, by rw [List.length_map, List.length_take]; omega⟩
  · rw [(h.hi (by omega)).1, (h.hi (by omega)).2]
    exact ⟨by rw [List.length_map, saN_len], by rw [List.length_map, List.length_drop, List.length_take]; omega⟩
theorem YInv.write {xs : List Int} {N j : Nat} {x : DkD} (h : YInv xs N j x) (hj : j < xs.length) (hb : 0 ≤ xs[j]) : (writeC x (xs[j] % 8) (ofL xs[j])).1 = 0 ∧ YPre xs N (j + 1) (writeC x (xs[j] % 8) (ofL xs[j])).2 := by
  rw [writeC_ok h.aw h.fu (by rw [h.len.1]; omega) (ofL_len _)]
  have htk : xs.take (j + 1) = xs.take j ++ [xs[j]] := List.take_succ_eq_append_getElem hj
  refine ⟨rfl, h.aw, rfl, by show x.done + 1 ≤ _; have := h.dn; omega, fun h1 => ?_, fun h1 => ?_⟩
  · obtain ⟨a, b⟩ := h.lo (by omega)
    refine ⟨a, ?_⟩
    show x.loose ++ [wr8 xs[j]] = _
    rw [b, htk, List.map_append]; rfl
  · obtain ⟨a, b⟩ := h.hi (by omega)
    refine ⟨a, ?_⟩
    show x.loose ++ [wr8 xs[j]] = _
    rw [b, htk, List.drop_append_of_le_length (by rw [List.length_take]; omega), List.map_append]; rfl
set_option maxRecDepth 100000 in
set_option maxHeartbeats 1000000 in
theorem DiskSynced_true (W : World) (o : Option Addr) (n c : Nat) (h0 : DatC Try.prog W t_S_uint8 [.slice o n c]) (sync : Int) (hf0 : (Lit.int .i64 sync).wf = true) (ko : Option Addr) (kn kc : Nat) (h1 : DatC Try.prog W t_S_bool [.slice ko kn kc]) :
    Calls Try.prog i_coadjutorlaw04_DiskSynced #[.slice o n c, .int .i64 sync, .slice ko kn kc] W (Ret fun v w' => v = .bool true ∧ Ch Non W w') := by
  obtain ⟨o', c', xs, hcs, _, hcm, _, hwf, hr⟩ := h0.ints (k := .u8) (e := t_uint8) (by kernel_rfl) (by kernel_rfl)
  injection hcs with hcs
  injection hcs with q1 q2 q3
  subst q1; subst q2; subst q3
  obtain ⟨ko', kc', ks, hcs, _, _, _, hkr⟩ := h1.bools (e := t_bool) (by kernel_rfl) (by kernel_rfl)
  injection hcs with hcs
  injection hcs with q1 q2 q3
  subst q1; subst q2; subst q3
  have hr : Rd W o (xs.map (.int .u8)) (fun i => i < W.heap.size) := hr.mono (fun i hi _ => hi)
  have hkr : Rd W ko (ks.map .bool) (fun i => i < W.heap.size) := hkr.mono (fun i hi _ => hi)
  refine coadjutorlaw04_DiskSynced.calls _ _ _ _ _ _ _ ?_
  unfold coadjutorlaw04_DiskSynced.vc
  refine step_call (awake_spec W) ?_
  rintro v w1 ⟨rfl, hc1⟩
  refine ⟨_, rfl, iteF rfl ⟨fun _ => ⟨rfl, hc1⟩, fun hl30 => ⟨fun _ => ⟨rfl, hc1⟩, fun hk100 => ?_⟩⟩⟩
  have hl30 : xs.length ≤ 30 := by have := of_decide_eq_false hl30; omega
  have hk100 : ks.length ≤ 100 := by have := of_decide_eq_false hk100; omega
  refine step_call (S_new hc1 8) ?_
  rintro v w2 ⟨d, F2, rfl, hS2, hF2, hc2⟩
  have hP0 : ∀ N, YPre xs N 0 (diskOf (List.replicate (newN 8) zeros32)) := fun N => ⟨rfl, rfl, by show (0 : Int) ≤ _; omega, fun _ => ⟨rfl, rfl⟩, fun h => by omega⟩
  generalize diskOf (List.replicate (newN 8) zeros32) = x0 at hS2 hP0
  refine ⟨_, rfl, fun n w' => (∃ N : Nat, n = N ∧ N ≤ xs.length) ∧ w' = w2, ⟨fun hpos => ?_, fun hz => ⟨⟨0, rfl, Nat.zero_le _⟩, rfl⟩⟩, ?_⟩
  · have e1 : IntKind.i64.wrap ((xs.length : Int) + 1) = (xs.length : Int) + 1 := wrap_id (by omega) (by omega)
    have e2 : IntKind.u64.wrap ((xs.length : Int) + 1) = ((xs.length + 1 : Nat) : Int) := by rw [wrap_u64]; omega
    rw [e1, e2]
    obtain ⟨N, hN, hNl⟩ := mod_u64 sync (xs.length + 1) (by omega) (by omega)
    exact ⟨by omega, ⟨N, hN, by omega⟩, rfl⟩
  rintro jk n w3 ⟨⟨N, rfl, hN⟩, rfl⟩
  have hP0 := hP0 N
  intro w4 e4
  have hB4 := Blk.new e4
  refine ⟨⟨hB4.ok 0 rfl, hB4.ok 1 rfl, hB4.ok 2 rfl, hB4.ok 3 rfl, hB4.ok 4 rfl, hB4.ok 5 rfl, hB4.ok 6 rfl, hB4.ok 7 rfl⟩, fun w5 e5 => ?_⟩
  have b0 := hB4
  have c0 := Ch.refl (· = w3.heap.size) w4
  have b1 := b0.set' 0 (.int .u8 0)
  have c1 := c0.same (Ch.set (F := (· = w3.heap.size)) (p := ⟨w3.heap.size, 0, none⟩) (v := .int .u8 0) rfl rfl)
  have b2 := b1.set' 1 (.int .u8 0)
  have c2 := c1.same (Ch.set (F := (· = w3.heap.size)) (p := ⟨w3.heap.size, 1, none⟩) (v := .int .u8 0) rfl rfl)
  have b3 := b2.set' 2 (.int .u8 0)
  have c3 := c2.same (Ch.set (F := (· = w3.heap.size)) (p := ⟨w3.heap.size, 2, none⟩) (v := .int .u8 0) rfl rfl)
  have b4 := b3.set' 3 (.int .u8 0)
  have c4 := c3.same (Ch.set (F := (· = w3.heap.size)) (p := ⟨w3.heap.size, 3, none⟩) (v := .int .u8 0) rfl rfl)
  have b5 := b4.set' 4 (.int .u8 0)
  have c5 := c4.same (Ch.set (F := (· = w3.heap.size)) (p := ⟨w3.heap.size, 4, none⟩) (v := .int .u8 0) rfl rfl)
  have b6 := b5.set' 5 (.int .u8 0)
  have c6 := c5.same (Ch.set (F := (· = w3.heap.size)) (p := ⟨w3.heap.size, 5, none⟩) (v := .int .u8 0) rfl rfl)
  have b7 := b6.set' 6 (.int .u8 0)
  have c7 := c6.same (Ch.set (F := (· = w3.heap.size)) (p := ⟨w3.heap.size, 6, none⟩) (v := .int .u8 0) rfl rfl)
  have b8 := b7.set' 7 (.int .u8 0)
  have c8 := c7.same (Ch.set (F := (· = w3.heap.size)) (p := ⟨w3.heap.size, 7, none⟩) (v := .int .u8 0) rfl rfl)
  rw [← e5] at b8 c8
  have hB5 : Blk w5 w3.heap.size ((saN xs 0).map (.int .u8)) 28 := b8
  have hc35 : Ch Non w3 w5 := (Ch.alloc (F := Non) e4).trans (G := (· = w3.heap.size)) c8 (fun i hi he => by omega)
  clear b0 b1 b2 b3 b4 b5 b6 b7 b8 c0 c1 c2 c3 c4 c5 c6 c7 c8
  have hS5 := hS2.keepN hc35
  have hBF : ¬ F2 w3.heap.size := fun hf => by have := (hS2.f _ hf).2; omega
  have hBW : W.heap.size ≤ w3.heap.size := hS2.c.size
  clear hc2 hF2 hc1 e4 hB4 e5 hS2 hc35
  generalize w3.heap.size = B at hB5 hBF hBW ⊢
  refine ⟨fun i k w' => ∃ (j : Nat) (x : DkD) (F : Nat → Prop), i = j ∧ j ≤ xs.length ∧ k = xs.length - j ∧ DkS W w' d x F ∧ ¬ F B ∧ YPre xs N j x ∧ Blk w' B ((saN xs (min j N)).map (.int .u8)) 28, ⟨_, 0, x0, F2, rfl, Nat.zero_le _, rfl, hS5, hBF, hP0, by rw [Nat.zero_min]; exact hB5⟩, ?_⟩
  clear hS5 hBF hP0 hB5
  rintro jk i k w6 ⟨j, x, F, rfl, hj, rfl, hS, hBF, hI, hB⟩
  refine ⟨fun hlt => ?_, fun hge => ?_⟩
  · have hlt : j < xs.length := by have := of_decide_eq_true hlt; omega
    refine ⟨fun w' => ∃ (x : DkD) (F : Nat → Prop), DkS W w' d x F ∧ ¬ F B ∧ YPre xs N (j + 1) x ∧ Blk w' B ((saN xs (min (j + 1) N)).map (.int .u8)) 28, ⟨fun w' => ∃ (x : DkD) (F : Nat → Prop), DkS W w' d x F ∧ ¬ F B ∧ YInv xs N j x ∧ Blk w' B ((saN xs (min j N)).map (.int .u8)) 28, ⟨fun he => ?_, fun hne => ?_⟩, ?_⟩, fun jk w18 hx => ?_⟩
    · have he : j = N := by have := eq_of_beq he; omega
      subst he
      obtain ⟨s1, s2⟩ := hI.sync hN
      refine step_call (S_sync hS (by have := hI.dn; omega)) ?_
      rw [s1]
      rintro v w7 ⟨rfl, F', hS', hE, hc⟩
      refine ⟨_, rfl, iteF rfl ⟨_, F', hS', fun hf => ?_, s2, hB.keep hc hBF⟩⟩
      rcases hE _ hf with hf | hf
      · exact hBF hf
      · have := hf.1; have := hB.lt; omega
    · have hne : j ≠ N := fun h => by subst h; simp at hne
      exact ⟨x, F, hS, hBF, hI.go hne, hB⟩
    · clear hI hB hBF hS
      rintro jk w8 ⟨x, F, hS, hBF, hI, hB⟩
      have hjj : (j : Int).toNat * 1 = j := by omega
      have hfar : ∀ i, i < W.heap.size → ¬ F i := fun i hi hf => by have := (hS.f i hf).1; omega
      have hr8 := hr.keepN hS.c
      have hx8 := u8_in (hwf _ (List.getElem_mem hlt))
      obtain ⟨hsl, hll⟩ := hI.len
      have hdn := hI.dn
      obtain ⟨i1, i2⟩ := hI.write hlt hx8.1
      have hsa : saN xs (j + 1) = (saN xs j).set (xs[j] % 8).toNat xs[j] := by rw [saN, getD_at 0 hlt]
      obtain ⟨pa, hpa, _, _, hcx⟩ := hr8.getT hlt
      have hrS : ∀ {G : Nat → Prop} (w9 w' : World), Ch Non W w9 → (∀ i, i < W.heap.size → ¬ G i) → Ch G w9 w' → w'.cell? (pa.add j) = some (.int .u8 xs[j]) := fun {G} w9 w' h9 hG hc => by
        obtain ⟨pb, hpb, _, _, hcy⟩ := ((hr.keepN h9).keep hc (fun i _ hi => hG i hi)).getT hlt
        rw [hpa] at hpb; injection hpb with hpb; subst hpb; exact hcy
      subst hpa
      generalize xs[j] = b at hcx hx8 hrS i1 i2 hsa
      rw [hjj]
      refine ⟨fun w' => Ch F w8 w', fun w9 e9 => ⟨Ch.drew e9, ⟨by omega, by omega⟩, _, fun w' hc => hrS w8 w' hS.c hfar hc, by decide, ⟨by omega, by omega⟩, _, fun w' hc => hrS w8 w' hS.c hfar hc, step_call (of_spec w9 hx8) ?_⟩⟩
      rintro v w12 ⟨rfl, hc12⟩
      have hc812 : Ch Non w8 w12 := (Ch.drew e9).andN hc12
      have hq : IntKind.i64.wrap (Int.tmod b 8) = b % 8 := by rw [tmod_pos hx8.1, wrap_id (by omega) (by omega)]
      rw [hq]
      refine ⟨_, rfl, hc812.any, step_call (S_write (hS.keepN hc812) (by omega) (by omega) (b % 8) (ofL b)) ?_⟩
      rw [i1]
      rintro v w13 ⟨rfl, F', hS', hE, hc13⟩
      have hB13 := (hB.keepN hc812).keep hc13 hBF
      have hBF' : ¬ F' B := fun hf => by
        rcases hE _ hf with hf | hf
        · exact hBF hf
        · have := hf.1; have := (hB.keepN hc812).lt; omega
      refine ⟨_, rfl, hc812.any.same hc13, iteF rfl ⟨fun hjN => ?_, fun hjN => ?_⟩⟩
      · have hjN : j < N := by have := of_decide_eq_true hjN; omega
        have hBf : ∀ i, i < W.heap.size → ¬ (i = B) := fun i hi he => by omega
        refine ⟨fun w' => Ch (· = B) w13 w', fun w14 e14 => ⟨Ch.drew e14, ⟨by omega, by omega⟩, _, fun w' hc => hrS w13 w' hS'.c hBf hc, by decide, ⟨by omega, by omega⟩, _, fun w' hc => hrS w13 w' hS'.c hBf hc, ?_⟩⟩
        obtain ⟨bn, hbn⟩ : ∃ bn : Nat, b % 8 = bn := ⟨(b % 8).toNat, by omega⟩
        have htm : Int.tmod b 8 = (bn : Int) := by rw [tmod_pos hx8.1, hbn]
        rw [htm, Int.toNat_natCast, add_at, Nat.zero_add, Nat.mul_one]
        rw [Nat.min_eq_left (show j ≤ N by omega)] at hB13
        have hl : bn < ((saN xs j).map (Value.int .u8)).length := by rw [List.length_map, saN_len]; omega
        have hB14 := hB13.keepN (Ch.drew (F := Non) e14)
        refine ⟨⟨by omega, by omega⟩, hB14.ok bn (List.getElem?_eq_getElem hl), fun w17 e17 => ?_⟩
        have hB17 := hB14.set e17
        have hc17 : Ch (· = B) w13 w17 := (Ch.drew e14).same (Ch.set e17 rfl)
        refine ⟨hc17, _, F', hS'.far hc17 (fun i hi he => hBF' (he ▸ hi)) (hS'.c.trans hc17 (fun i hi he => by omega)), hBF', i2, ?_⟩
        rw [Nat.min_eq_left (show j + 1 ≤ N by omega), hsa, hbn, Int.toNat_natCast, List.map_set]
        exact hB17
      · have hjN : ¬ j < N := by have := of_decide_eq_false hjN; omega
        refine ⟨_, F', hS', hBF', i2, ?_⟩
        rw [Nat.min_eq_right (show N ≤ j + 1 by omega)]
        rw [Nat.min_eq_right (show N ≤ j by omega)] at hB13
        exact hB13
    · obtain ⟨x, F, hS, hBF, hI, hB⟩ := hx
      exact ⟨xs.length - (j + 1), by omega, j + 1, x, F, by rw [wrap_id (by omega) (by omega)]; rfl, hlt, rfl, hS, hBF, hI, hB⟩
  · have hjn : j = xs.length := by have := of_decide_eq_false hge; omega
    subst hjn
    rw [Nat.min_eq_right hN] at hB
    refine ⟨fun w' => ∃ (x : DkD) (F : Nat → Prop), DkS W w' d x F ∧ ¬ F B ∧ YInv xs N xs.length x ∧ Blk w' B ((saN xs N).map (.int .u8)) 28, ⟨fun he => ?_, fun hne => ?_⟩, ?_⟩
    · have he : N = xs.length := by have := eq_of_beq he; omega
      rw [← he] at hI
      obtain ⟨s1, s2⟩ := hI.sync hN
      refine step_call (S_sync hS (by have := hI.dn; omega)) ?_
      rw [s1]
      rintro v w7 ⟨rfl, F', hS', hE, hc⟩
      rw [← he]
      refine ⟨_, rfl, iteF rfl ⟨_, F', hS', fun hf => ?_, s2, hB.keep hc hBF⟩⟩
      rcases hE _ hf with hf | hf
      · exact hBF hf
      · have := hf.1; have := hB.lt; omega
    · have hne : xs.length ≠ N := fun h => by rw [h] at hne; simp at hne
      exact ⟨x, F, hS, hBF, hI.go hne, hB⟩
    clear hI hB hBF hS
    rintro jk w20 ⟨x, F, hS, hBF, hI, hB⟩
    have hdn := hI.dn
    obtain ⟨hsl, hll⟩ := hI.len
    obtain ⟨hsafe, hloose⟩ := hI.hi hN
    rw [List.take_length] at hloose
    have haw := hI.aw
    have hfar : ∀ i, i < W.heap.size → ¬ F i := fun i hi hf => by have := (hS.f i hf).1; omega
    refine step_call (S_cut hS (hkr.keepN hS.c) hfar (by omega) _) ?_
    rintro v w21 ⟨rfl, F1, hS1, hE1, hcc1⟩
    have hB1 := hB.keep hcc1 hBF
    have hBF1 : ¬ F1 B := fun hf => by
      rcases hE1 _ hf with hf | hf
      · exact hBF hf
      · have := hf.1; have := hB.lt; omega
    have hcut : cutC x ks = { x with away := true, loose := [], safe := layN x.loose (kpOf ks) x.safe x.loose.length } := by unfold cutC; rw [if_neg (by rw [haw]; decide)]
    rw [hcut] at hS1
    have hsy : syncC { x with away := true, loose := [], safe := layN x.loose (kpOf ks) x.safe x.loose.length } = (4, { x with away := true, loose := [], safe := layN x.loose (kpOf ks) x.safe x.loose.length }) := rfl
    refine ⟨rfl, step_call (S_sync hS1 (by show x.done ≤ _; omega)) ?_⟩
    rw [hsy]
    rintro v w22 ⟨rfl, F2', hS2, hE2, hcc2⟩
    have hB2 := hB1.keep hcc2 hBF1
    have hBF2 : ¬ F2' B := fun hf => by
      rcases hE2 _ hf with hf | hf
      · exact hBF1 hf
      · have := hf.1; have := hB1.lt; omega
    refine ⟨_, rfl, iteF rfl (step_call (S_come hS2) ?_)⟩
    rintro v w23 ⟨rfl, F3, hS3, hE3, hcc3⟩
    have hB3 := hB2.keep hcc3 hBF2
    have hbits : ∀ k : Nat, k < 8 → ((layN x.loose (kpOf ks) x.safe x.loose.length).getD k [] = ofL ((saN xs N).getD k 0) ∨ ∃ b ∈ xs.drop N, b % 8 = (k : Int) ∧ (layN x.loose (kpOf ks) x.safe x.loose.length).getD k [] = ofL b) := fun k hk => by
      rcases lay_from (kp := kpOf ks) (loose := x.loose) (safe := x.safe) (k := k) (by omega) (fun y hy => by
        rw [hloose] at hy
        obtain ⟨b, _, rfl⟩ := List.mem_map.1 hy
        show 0 ≤ b % 8
        omega) x.loose.length (Nat.le_refl _) with h | ⟨y, hy, h1, h2⟩
      · left
        rw [h, hsafe, getD_at [] (by rw [List.length_map, saN_len]; exact hk), List.getElem_map, getD_at 0 (by rw [saN_len]; exact hk)]
      · right
        rw [hloose] at hy
        obtain ⟨b, hb, rfl⟩ := List.mem_map.1 hy
        exact ⟨b, hb, h1, h2⟩
    have hLl := layN_len x.loose (kpOf ks) x.safe x.loose.length
    have hxe : (if ({ x with away := true, loose := [], safe := layN x.loose (kpOf ks) x.safe x.loose.length } : DkD).away = true then { ({ x with away := true, loose := [], safe := layN x.loose (kpOf ks) x.safe x.loose.length } : DkD) with away := false, fuse := -1 } else { x with away := true, loose := [], safe := layN x.loose (kpOf ks) x.safe x.loose.length }) = ⟨false, -1, x.keep, layN x.loose (kpOf ks) x.safe x.loose.length, [], x.done⟩ := rfl
    rw [hxe] at hS3
    generalize layN x.loose (kpOf ks) x.safe x.loose.length = L at hS3 hbits hLl
    refine ⟨rfl, fun i k w' => ∃ k0 : Nat, i = k0 ∧ k0 ≤ 8 ∧ k = 8 - k0 ∧ Ch Non w23 w', ⟨_, 0, rfl, by omega, rfl, Ch.refl _ _⟩, ?_⟩
    rintro jk i k w24 ⟨k0, rfl, hk8, rfl, hc24⟩
    have hS24 := hS3.keepN hc24
    have hB24 := hB3.keepN hc24
    refine ⟨fun hlt => ?_, fun hge => ?_⟩
    · have hlt : k0 < 8 := by have := of_decide_eq_true hlt; omega
      have hck : chk ⟨false, -1, x.keep, L, [], x.done⟩ (k0 : Int) = 0 := by
        unfold chk
        rw [if_neg (by show ¬ ((k0 : Int) < 0 ∨ (k0 : Int) ≥ ((L.length : Nat) : Int)); omega)]; rfl
      have hrd : readC ⟨false, -1, x.keep, L, [], x.done⟩ (k0 : Int) = L.getD k0 [] := rfl
      have hb8 := hbits k0 hlt
      refine step_call (S_read hS24 k0) ?_
      rw [hck, if_pos rfl, hrd]
      generalize L.getD k0 [] = s at hb8
      rintro v w25 ⟨rfl, hc25⟩
      have hkk : (k0 : Int).toNat * 1 = k0 := by omega
      have hl8 : k0 < ((saN xs N).map (Value.int .u8)).length := by rw [List.length_map, saN_len]; exact hlt
      rw [hkk]
      have hcell := (hB24.keepN hc25).cell k0 (List.getElem?_eq_getElem hl8)
      rw [List.getElem_map] at hcell
      have hsg : (saN xs N).getD k0 0 = (saN xs N)[k0]'(by rw [saN_len]; exact hlt) := getD_at 0 (by rw [saN_len]; exact hlt)
      rw [← hsg] at hcell
      have hin : 0 ≤ (saN xs N).getD k0 0 ∧ (saN xs N).getD k0 0 < 256 := by
        have key : ∀ j, j ≤ xs.length → ∀ v ∈ saN xs j, 0 ≤ v ∧ v < 256 := by
          intro j
          induction j with
          | zero => intro _ v hv; rw [saN] at hv; rw [List.eq_of_mem_replicate hv]; omega
          | succ j ih =>
            intro hj v hv
            rw [saN] at hv
            rcases List.mem_or_eq_of_mem_set hv with hv | hv
            · exact ih (by omega) v hv
            · subst hv; rw [getD_at 0 (show j < xs.length by omega)]; exact u8_in (hwf _ (List.getElem_mem _))
        rw [hsg]
        exact key N hN _ (List.getElem_mem _)
      generalize (saN xs N).getD k0 0 = a at hcell hb8 hin
      refine ⟨_, _, rfl, iteF rfl ⟨⟨by omega, by omega⟩, _, by rw [add_at, Nat.zero_add]; exact hcell, step_call (of_spec w25 hin) ?_⟩⟩
      rintro v w26 ⟨rfl, hc26⟩
      have hcA : Ch Non w23 w26 := (hc24.andN hc25).andN hc26
      refine ⟨_, rfl, fun found i k w' => ∃ j : Nat, i = j ∧ N ≤ j ∧ j ≤ xs.length ∧ k = xs.length - j ∧ Ch Non w23 w' ∧ found = (decide (s = ofL a) || ((xs.drop N).take (j - N)).any (fun b => decide (b % 8 = (k0 : Int)) && decide (s = ofL b))), ⟨_, N, rfl, Nat.le_refl _, hN, rfl, hcA, by rw [Nat.sub_self, str_beq]; simp⟩, ?_⟩
      rintro jk found i k w27 ⟨j, rfl, hNj, hj, rfl, hc27, hfo⟩
      refine ⟨fun hlt2 => ?_, fun hge2 => ?_⟩
      · have hlt2 : j < xs.length := by have := of_decide_eq_true hlt2; omega
        have hjj : (j : Int).toNat * 1 = j := by omega
        have htk : (xs.drop N).take (j + 1 - N) = (xs.drop N).take (j - N) ++ [xs[j]] := by
          have e : j + 1 - N = (j - N) + 1 := by omega
          rw [e, List.take_succ_eq_append_getElem (by rw [List.length_drop]; omega)]
          congr 2
          rw [List.getElem_drop]
          congr 1; omega
        have hx8 := u8_in (hwf _ (List.getElem_mem hlt2))
        have nxt : ∀ {w' : World} {fd : Bool}, Ch Non w23 w' → fd = (found || (decide (xs[j] % 8 = (k0 : Int)) && decide (s = ofL xs[j]))) → ∃ vk_8 : Nat, vk_8 < xs.length - j ∧ ∃ j_1 : Nat, IntKind.i64.wrap ((j : Int) + 1) = j_1 ∧ N ≤ j_1 ∧ j_1 ≤ xs.length ∧ vk_8 = xs.length - j_1 ∧ Ch Non w23 w' ∧ fd = (decide (s = ofL a) || ((xs.drop N).take (j_1 - N)).any (fun b => decide (b % 8 = (k0 : Int)) && decide (s = ofL b))) := fun {w' fd} hc hfd =>
          ⟨xs.length - (j + 1), by omega, j + 1, by rw [wrap_id (by omega) (by omega)]; rfl, by omega, hlt2, rfl, hc, by rw [hfd, hfo, htk, List.any_append]; simp [Bool.or_assoc]⟩
        refine ⟨fun hf => nxt hc27 (by rw [hf]; rfl), fun hf => ?_⟩
        rw [hjj]
        have hr27 := hr.keepN (hS3.c.andN hc27)
        refine ⟨⟨by omega, by omega⟩, hr27.typed hlt2 fun pp hpp => ⟨_, hpp, by decide, fun hm => ⟨⟨by omega, by omega⟩, ?_⟩, fun hm => ?_⟩⟩
        · have hq : IntKind.i64.wrap (Int.tmod xs[j] 8) = xs[j] % 8 := by rw [tmod_pos hx8.1, wrap_id (by omega) (by omega)]
          rw [hq] at hm
          refine hr27.typed hlt2 fun pq hpq => ⟨_, hpq, step_call (of_spec w27 hx8) ?_⟩
          rintro v w28 ⟨rfl, hc28⟩
          exact ⟨_, rfl, nxt (hc27.andN hc28) (by rw [hf, str_beq, decide_eq_true (eq_of_beq hm)]; rfl)⟩
        · have hq : IntKind.i64.wrap (Int.tmod xs[j] 8) = xs[j] % 8 := by rw [tmod_pos hx8.1, wrap_id (by omega) (by omega)]
          rw [hq] at hm
          have hm : ¬ xs[j] % 8 = (k0 : Int) := by simpa using hm
          exact nxt hc27 (by rw [hf, decide_eq_false hm]; rfl)
      · have hjn : j = xs.length := by have := of_decide_eq_false hge2; omega
        subst hjn
        have hft : found = true := by
          rw [hfo, List.take_of_length_le (by rw [List.length_drop]; omega), Bool.or_eq_true]
          rcases hb8 with h | ⟨b, hb, h1, h2⟩
          · exact .inl (decide_eq_true h)
          · exact .inr (List.any_eq_true.2 ⟨b, hb, by rw [decide_eq_true h1, decide_eq_true h2]; rfl⟩)
        rw [hft]
        exact iteF rfl ⟨8 - (k0 + 1), by omega, k0 + 1, by rw [wrap_id (by omega) (by omega)]; rfl, hlt, rfl, hc27⟩
    · refine step_call (S_loose hS24) ?_
      rintro v w29 ⟨rfl, rfl⟩
      exact ⟨_, rfl, rfl, hS24.c⟩
end Go.Proofs.Ytpefegcdcojokaa.Disk
