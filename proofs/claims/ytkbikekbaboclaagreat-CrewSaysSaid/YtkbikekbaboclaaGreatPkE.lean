import Derived.Test.YtkbikekbaboclaaGreatPkD
import Derived.Test.YtkbikekbaboclaaGreatPkB
import Derived.Test.YtkbikekbaboclaaGreatVcCrewH
set_option linter.unusedVariables false
set_option linter.unusedSimpArgs false
namespace Go.Proofs.YtkbikekbaboclaaGreat.Crew
open Go Go.Proofs V Vc Step Pages Prefix Brain Conf Stp Go.RowKit
open Ward (AskD AskP askE AskR)
def c25 : CfD := ⟨4, 2, 1, 1, 2, 12⟩
def z25 : ByteArray := ⟨(List.replicate 66 (0 : UInt8)).toArray⟩
theorem md25 {t : ByteArray} (h : t.size = 66) : Md c25 t := ⟨by decide, by rw [h]; decide⟩
theorem brOf25 (w : World) {t : ByteArray} (h : t.size = 66) : Calls Tryz.prog i_brain_Of #[.agg (cfE c25).toArray, .string t] w (Ret fun v w' => Ch Non w w' ∧ ∃ b, v = .tuple #[.pointer (some ⟨b, 0, none⟩), .int .i64 0] ∧ w.heap.size ≤ b ∧ BrK w' b c25 t) := by
 refine step_call (brOf_spec w c25 t) ?_
 rintro v w' ⟨hc, h1, _, _⟩
 have m := md25 h
 obtain ⟨b, rfl, hb, hr⟩ := h1 ⟨m.ok, m.sz⟩
 exact ⟨hc, b, rfl, hb, hr, m.ok, m.sz⟩
theorem shape_spec (w : World) : Calls Tryz.prog i_coadjutorlaw25_shape #[] w (Ret fun v w' => v = .agg (cfE c25).toArray ∧ Ch Non w w') := by
 refine coadjutorlaw25_shape.calls ?_
 unfold coadjutorlaw25_shape.vc
 intro w1 e1
 have hA := Blk.new e1
 refine ⟨⟨hA.ok 0 rfl, hA.ok 1 rfl, hA.ok 2 rfl, hA.ok 3 rfl, hA.ok 4 rfl, hA.ok 5 rfl⟩, fun w2 e2 => ?_⟩
 have e2' : w2 = w1.setCells w.heap.size 0 (cfE c25) := e2
 have hA2 := hA.all (cfE c25) rfl e2'
 have hc02 : Ch Non w w2 := (Ch.alloc (F := Non) e1).trans (Ch.sets (F := (· = w.heap.size)) e2' rfl) (fun i hi he => by omega)
 exact ⟨_, _, _, _, _, _, ⟨hA2.cell 0 rfl, hA2.cell 1 rfl, hA2.cell 2 rfl, hA2.cell 3 rfl, hA2.cell 4 rfl, hA2.cell 5 rfl⟩, rfl, hc02⟩
def nilP : Value := .pointer none
def zM : List Value := [.int .i64 0, .int .i64 0, .int .i64 0, .int .i64 0, .int .i64 0, .int .i64 0, .string ByteArray.empty]
def brE (q : Nat × ByteArray) : Value := .pointer (some ⟨q.1, 0, none⟩)
def mdE (t : ByteArray) : List Value := cfE c25 ++ [.string t]
def cA (L : List (Nat × ByteArray)) : List Value := L.map brE ++ List.replicate (2 - L.length) nilP
def cB (L : List (Nat × ByteArray)) : List Value := (L.map fun q => mdE q.2).flatten ++ (List.replicate (2 - L.length) zM).flatten
def BrL (w : World) (n : Nat) (L : List (Nat × ByteArray)) : Prop := ∀ q ∈ L, BrK w q.1 c25 q.2 ∧ q.2.size = 66 ∧ (n = 0 → q.2 = z25)
theorem BrL.keepN {w w' : World} {n : Nat} {L : List (Nat × ByteArray)} (h : BrL w n L) (hc : Ch Non w w') : BrL w' n L := fun q hq => ⟨(h q hq).1.keepN hc, (h q hq).2⟩
theorem conv25 {w : World} {b T : Nat} {bs : List UInt8} (h : Blk w b (bs.map u8v) T) (hl : bs.length = 66) :
  (convert 85 9 (.slice (some ⟨b, 0, none⟩) ((66 : Int).toNat) ((66 : Int).toNat))).run Tryz.prog w = .ok (.string ⟨bs.toArray⟩) w := by
 have := conv_out (P := Tryz.prog) (src := 85) (dst := 9) (e := 5) (c := 66) h.rd (by kernel_rfl) (by kernel_rfl) (by kernel_rfl)
 rw [hl] at this
 exact this
theorem cA_set : ∀ {L : List (Nat × ByteArray)}, L.length < 2 → ∀ q, (cA L)[L.length]? = some nilP ∧ (cA L).set L.length (brE q) = cA (L ++ [q])
 | [], _, q => ⟨rfl, rfl⟩
 | [q0], _, q => ⟨rfl, rfl⟩
 | _ :: _ :: _, h, _ => by simp at h; omega
theorem cB_set : ∀ {L : List (Nat × ByteArray)}, L.length < 2 → ∀ q : Nat × ByteArray, (cB L).length = 14 ∧ (∀ m, m < 7 → (cB L)[L.length * 7 + m]? = zM[m]?) ∧ (cB L).take (L.length * 7) ++ mdE q.2 ++ (cB L).drop (L.length * 7 + (mdE q.2).length) = cB (L ++ [q])
 | [], _, q => ⟨rfl, fun m hm => by match m, hm with | 0, _ => rfl | 1, _ => rfl | 2, _ => rfl | 3, _ => rfl | 4, _ => rfl | 5, _ => rfl | 6, _ => rfl, rfl⟩
 | [q0], _, q => ⟨rfl, fun m hm => by match m, hm with | 0, _ => rfl | 1, _ => rfl | 2, _ => rfl | 3, _ => rfl | 4, _ => rfl | 5, _ => rfl | 6, _ => rfl, rfl⟩
 | _ :: _ :: _, h, _ => by simp at h; omega
set_option maxRecDepth 100000 in
set_option maxHeartbeats 2000000 in
theorem models_spec (w : World) (ws : ByteArray) : Calls Tryz.prog i_coadjutorlaw25_models #[.string ws] w (Ret fun v w' => ∃ q0 q1 : Nat × ByteArray, v = .tuple #[.agg #[brE q0, brE q1], .agg (mdE q0.2 ++ mdE q1.2).toArray] ∧ BrL w' ws.size [q0, q1] ∧ Ch Non w w') := by
 refine coadjutorlaw25_models.calls _ ?_
 unfold coadjutorlaw25_models.vc
 intro w2 e2 w3 e3 w4 e4
 have hA2 := Blk.new e2
 have hB3 := Blk.new e3
 have hC4 := Blk.new e4
 refine ⟨⟨hC4.ok 0 rfl, hC4.ok 1 rfl⟩, fun w5 e5 w6 e6 => ?_⟩
 have e5' : w5 = w4.setCells w3.heap.size 0 (cA []) := e5
 have hC5 := hC4.all (cA []) rfl e5'
 have hD6 := Blk.new e6
 refine ⟨⟨hD6.ok 0 rfl, hD6.ok 1 rfl, hD6.ok 2 rfl, hD6.ok 3 rfl, hD6.ok 4 rfl, hD6.ok 5 rfl, hD6.ok 6 rfl, hD6.ok 7 rfl, hD6.ok 8 rfl, hD6.ok 9 rfl, hD6.ok 10 rfl, hD6.ok 11 rfl, hD6.ok 12 rfl, hD6.ok 13 rfl⟩, fun w7 e7 => ?_⟩
 have e7' : w7 = w6.setCells w5.heap.size 0 (cB []) := e7
 have hD7 := hD6.all (cB []) rfl e7'
 have hs12 := hA2.lt
 have hs23 := hB3.lt
 have hs34 := hC4.lt
 have hc45 : Ch (· = w3.heap.size) w4 w5 := Ch.sets e5' rfl
 have hs45 := hc45.size
 have hs56 := hD6.lt
 have hc67 : Ch (· = w5.heap.size) w6 w7 := Ch.sets e7' rfl
 have hs67 := hc67.size
 obtain ⟨rA, hrA⟩ : ∃ n, w.heap.size = n := ⟨_, rfl⟩
 obtain ⟨rB, hrB⟩ : ∃ n, w2.heap.size = n := ⟨_, rfl⟩
 obtain ⟨oA, hoA⟩ : ∃ n, w3.heap.size = n := ⟨_, rfl⟩
 obtain ⟨oB, hoB⟩ : ∃ n, w5.heap.size = n := ⟨_, rfl⟩
 rw [hrA] at hA2; rw [hrB] at hB3; rw [hoA] at hC5 hc45; rw [hoB] at hD7 hc67
 rw [hrA, hrB, hoA, hoB]
 have hc46 : Ch (· = oA) w4 w6 := hc45.andN (Ch.alloc e6)
 have hA4 := (hA2.alloc e3).alloc e4
 have hA7 := (hA4.keep hc46 (by omega)).keep hc67 (by omega)
 have hB7 := ((hB3.alloc e4).keep hc46 (by omega)).keep hc67 (by omega)
 have hC7 := (hC5.alloc e6).keep hc67 (by omega)
 have hc07 : Ch Non w w7 := ((((Ch.alloc (F := Non) e2).andN (Ch.alloc e3)).andN (Ch.alloc e4)).trans hc46 (fun i hi he => by omega)).trans hc67 (fun i hi he => by omega)
 obtain ⟨TA, hTA⟩ : ∃ T : Nat, 25 = T := ⟨_, rfl⟩
 obtain ⟨TB, hTB⟩ : ∃ T : Nat, 30 = T := ⟨_, rfl⟩
 rw [hTA] at hC7
 rw [hTB] at hD7
 clear hc45 hc46 hc67 e2 e3 e4 e5 e6 e7 e5' e7' hA2 hB3 hC4 hC5 hD6 hA4
 refine ⟨fun i vk w' => ∃ L : List (Nat × ByteArray), L.length ≤ 2 ∧ i = L.length ∧ vk = 2 - L.length ∧ Blk w' oA (cA L) TA ∧ Blk w' oB (cB L) TB ∧ BrL w' ws.size L ∧ (∀ q ∈ L, w7.heap.size ≤ q.1) ∧ Ch (fun j => j = oA ∨ j = oB) w7 w', ⟨_, [], by decide, rfl, rfl, hC7, hD7, fun q hq => (by cases hq), fun q hq => (by cases hq), Ch.refl _ _⟩, ?_⟩
 have hsz7 := hc07.size
 rintro jk i vk w8 ⟨L, hl, rfl, rfl, hC8, hD8, hBr, hlo, hc78⟩
 refine ⟨fun hlt => ?_, fun hge => ?_⟩
 ·have hlt : L.length < 2 := by have := of_decide_eq_true hlt; omega
  refine ⟨⟨rfl, by decide, by decide⟩, fun w9 e9 => ?_⟩
  have hX9 : Blk w9 w8.heap.size ((List.replicate 66 (0 : UInt8)).map u8v) _ := Blk.new e9
  have hoX := hX9.lt
  have hc89 : Ch Non w8 w9 := Ch.alloc e9
  obtain ⟨xb, hxb⟩ : ∃ n, w8.heap.size = n := ⟨_, rfl⟩
  rw [hxb] at hX9 hoX ⊢
  have hCl := hC8.lt
  have hDl := hD8.lt
  refine ⟨fun w' => ∃ bs : List UInt8, bs.length = 66 ∧ (ws.size = 0 → bs = List.replicate 66 0) ∧ Blk w' xb (bs.map u8v) 5 ∧ Ch (· = xb) w9 w', ⟨fun kk vk3 w' => ∃ (j : Nat) (bs : List UInt8), kk = j ∧ j ≤ 66 ∧ vk3 = 66 - j ∧ bs.length = 66 ∧ (ws.size = 0 → bs = List.replicate 66 0) ∧ Blk w' xb (bs.map u8v) 5 ∧ Ch (· = xb) w9 w', ⟨_, 0, _, rfl, by decide, rfl, by simp, fun _ => rfl, hX9, Ch.refl _ _⟩, ?_⟩, ?_⟩
  ·rintro jk kk vk3 w10 ⟨j, bs, rfl, hj, rfl, hbl, hz, hX10, hc910⟩
   refine ⟨fun h1 => ⟨fun h2 => ?_, fun _ => ⟨bs, hbl, hz, hX10, hc910⟩⟩, fun _ => ⟨bs, hbl, hz, hX10, hc910⟩⟩
   have h1 : j < 66 := by have := of_decide_eq_true h1; simp at this; omega
   have h2 := of_decide_eq_true h2
   have hw : IntKind.i64.wrap ((j : Int) + (L.length : Int)) = (j : Int) + L.length := wrap_id (by omega) (by omega)
   rw [hw] at h2 ⊢
   have ea : (⟨xb, 0, none⟩ : Addr).add ((j : Int).toNat * 1) = ⟨xb, j, none⟩ := by rw [Int.toNat_natCast, Nat.mul_one, add_at, Nat.zero_add]
   have hjl : (bs.map u8v)[j]? = some (u8v bs[j]) := by rw [List.getElem?_map, List.getElem?_eq_getElem (by omega)]; rfl
   refine ⟨⟨by omega, h2⟩, ⟨by omega, by simp; omega⟩, by rw [ea]; exact hX10.ok j hjl, fun w11 e11 => ?_⟩
   rw [ea] at e11
   have hX11 := hX10.set e11
   refine ⟨66 - (j + 1), by omega, j + 1, bs.set j (ws.data.getD ((j : Int) + L.length).toNat 0), by rw [wrap_id (by omega) (by omega)]; rfl, by omega, rfl, by rw [List.length_set]; exact hbl, fun h0 => by omega, ?_, hc910.same (Ch.set e11 rfl)⟩
   rw [List.map_set]; exact hX11
  ·rintro jk w12 ⟨bs, hbl, hz, hX12, hc912⟩
   have hc812 : Ch Non w8 w12 := hc89.trans hc912 (fun j hj he => by omega)
   have hC12 := hC8.keepN hc812
   have hD12 := hD8.keepN hc812
   have hBr12 := hBr.keepN hc812
   have hts : (ByteArray.mk bs.toArray).size = 66 := by simp [ByteArray.size, hbl]
   have htz : ws.size = 0 → ByteArray.mk bs.toArray = z25 := fun h0 => by rw [hz h0]; rfl
   obtain ⟨t, ht⟩ : ∃ t, ByteArray.mk bs.toArray = t := ⟨_, rfl⟩
   have cv : ∀ w', Blk w' xb (bs.map u8v) 5 → (convert 85 9 (.slice (some ⟨xb, 0, none⟩) ((66 : Int).toNat) ((66 : Int).toNat))).run Tryz.prog w' = .ok (.string t) w' := fun w' h => ht ▸ conv25 h hbl
   rw [ht] at hts htz
   have eA : (⟨oA, 0, none⟩ : Addr).add ((L.length : Int).toNat * 1) = ⟨oA, L.length, none⟩ := by rw [Int.toNat_natCast, Nat.mul_one, add_at, Nat.zero_add]
   have eB : (⟨oB, 0, none⟩ : Addr).add ((L.length : Int).toNat * 7) = ⟨oB, L.length * 7, none⟩ := by rw [Int.toNat_natCast, add_at, Nat.zero_add]
   rw [eA, eB]
   obtain ⟨B1, B2, B3⟩ := cB_set hlt (0, t)
   have put : ∀ (wa : World) (b : Nat), Ch Non w12 wa → BrK wa b c25 t → w12.heap.size ≤ b → Okc wa ⟨oA, L.length, none⟩ ∧ ∀ wb : World, wb = wa.setCell ⟨oA, L.length, none⟩ (.pointer (some ⟨b, 0, none⟩)) → ∃ b : Nat, BrK wb b c25 t ∧ w12.heap.size ≤ b ∧ Blk wb oA (cA (L ++ [(b, t)])) TA ∧ Ch (· = oA) w12 wb := fun wa b hca hK hb => by
    obtain ⟨a1, a2⟩ := cA_set hlt (b, t)
    have hCa := hC12.keepN hca
    refine ⟨hCa.ok _ a1, fun wb eb => ?_⟩
    have hcb : Ch (· = oA) wa wb := Ch.set eb rfl
    have hs12 := hc812.size
    have := hCa.set eb
    rw [show (Value.pointer (some ⟨b, 0, none⟩) : Value) = brE (b, t) from rfl, a2] at this
    exact ⟨b, hK.keep hcb (by omega), hb, this, hca.any.same hcb⟩
   refine ⟨fun w' => ∃ b : Nat, BrK w' b c25 t ∧ w12.heap.size ≤ b ∧ Blk w' oA (cA (L ++ [(b, t)])) TA ∧ Ch (· = oA) w12 w', ⟨fun w' => Ch Non w12 w', fun w13 e13 => ⟨Ch.drew e13, ?_, ?_, trivial⟩⟩, ?_⟩
   ·have hd13 : Ch Non w12 w13 := Ch.drew e13
    refine step_call (shape_spec w13) ?_
    rintro v w14 ⟨rfl, hc14⟩
    have hc1214 := hd13.andN hc14
    refine ⟨_, _, _, _, _, _, rfl, hc1214, t, w14, cv w14 (hX12.keepN hc1214), hc1214, step_call (brOf25 w14 hts) ?_⟩
    rintro v w16 ⟨hc16, b, rfl, hb, hK⟩
    have hc1216 := hc1214.andN hc16
    obtain ⟨p1, p2⟩ := put w16 b hc1216 hK (Nat.le_trans hc1214.size hb)
    exact ⟨_, _, rfl, hc1216, ⟨by omega, by omega⟩, p1, p2⟩
   ·have hd13 : Ch Non w12 w13 := Ch.drew e13
    refine ⟨t, w13, cv w13 (hX12.keepN hd13), hd13, step_call (shape_spec w13) ?_⟩
    rintro v w19 ⟨rfl, hc19⟩
    have hc1219 := hd13.andN hc19
    refine ⟨_, _, _, _, _, _, rfl, hc1219, step_call (brOf25 w19 hts) ?_⟩
    rintro v w20 ⟨hc20, b, rfl, hb, hK⟩
    have hc1220 := hc1219.andN hc20
    obtain ⟨p1, p2⟩ := put w20 b hc1220 hK (Nat.le_trans hc1219.size hb)
    exact ⟨_, _, rfl, hc1220, ⟨by omega, by omega⟩, p1, p2⟩
   ·rintro jk w22 ⟨b, hK, hb, hC22, hc22⟩
    have hs12 := hc812.size
    have hD22 := hD12.keep hc22 (by omega)
    have hX22 := hX12.keep hc22 (by omega)
    have fin : ∀ wa : World, Ch Non w22 wa → (Okc wa ⟨oB, L.length * 7, none⟩ ∧ Okc wa ⟨oB, L.length * 7 + 1, none⟩ ∧ Okc wa ⟨oB, L.length * 7 + 2, none⟩ ∧ Okc wa ⟨oB, L.length * 7 + 3, none⟩ ∧ Okc wa ⟨oB, L.length * 7 + 4, none⟩ ∧ Okc wa ⟨oB, L.length * 7 + 5, none⟩ ∧ Okc wa ⟨oB, L.length * 7 + 6, none⟩) ∧ ∀ wb : World, wb = wa.setCells oB (L.length * 7) (mdE t) →
      ∃ vk : Nat, vk < 2 - L.length ∧ ∃ L' : List (Nat × ByteArray), L'.length ≤ 2 ∧ IntKind.i64.wrap ((L.length : Int) + 1) = L'.length ∧ vk = 2 - L'.length ∧ Blk wb oA (cA L') TA ∧ Blk wb oB (cB L') TB ∧ BrL wb ws.size L' ∧ (∀ q ∈ L', w7.heap.size ≤ q.1) ∧ Ch (fun j => j = oA ∨ j = oB) w7 wb := fun wa hca => by
     have hDa := hD22.keepN hca
     refine ⟨⟨hDa.ok _ (B2 0 (by omega)), hDa.ok _ (B2 1 (by omega)), hDa.ok _ (B2 2 (by omega)), hDa.ok _ (B2 3 (by omega)), hDa.ok _ (B2 4 (by omega)), hDa.ok _ (B2 5 (by omega)), hDa.ok _ (B2 6 (by omega))⟩, fun wb eb => ?_⟩
     have hcb : Ch (· = oB) wa wb := Ch.sets eb rfl
     have hDb := (setCells_blk (mdE t) (L.length * 7) hDa (by rw [B1]; show L.length * 7 + 7 ≤ 14; omega)).1
     rw [← eb, (cB_set hlt (b, t)).2.2] at hDb
     have hcab : Ch (· = oB) w22 wb := hca.any.same hcb
     have hlen : (L ++ [(b, t)]).length = L.length + 1 := by simp
     refine ⟨2 - (L.length + 1), by omega, L ++ [(b, t)], by omega, by rw [wrap_id (by omega) (by omega), hlen]; omega, by omega, hC22.keep hcab (by omega), hDb, fun q hq => ?_, fun q hq => ?_, ?_⟩
     ·rcases List.mem_append.1 hq with hq | hq
      ·obtain ⟨k1, k2⟩ := hBr12 q hq
       exact ⟨(k1.keep hc22 (by have := hlo q hq; omega)).keep hcab (by have := hlo q hq; omega), k2⟩
      ·rw [List.mem_singleton] at hq
       subst hq
       exact ⟨hK.keep hcab (by omega), hts, htz⟩
     ·rcases List.mem_append.1 hq with hq | hq
      ·exact hlo q hq
      ·rw [List.mem_singleton] at hq
       subst hq
       have := hc78.size
       show w7.heap.size ≤ b
       omega
     ·exact (((hc78.trans hc812 (fun _ _ h => h.elim)).trans hc22 (fun j hj he => .inl he)).trans hcab (fun j hj he => .inr he))
    refine ⟨fun w' => Ch Non w22 w', fun w23 e23 => ⟨Ch.drew e23, ?_, ?_, trivial⟩⟩
    ·have hd23 : Ch Non w22 w23 := Ch.drew e23
     refine step_call (shape_spec w23) ?_
     rintro v w24 ⟨rfl, hc24⟩
     have hc2224 := hd23.andN hc24
     obtain ⟨p1, p2⟩ := fin w24 hc2224
     exact ⟨_, _, _, _, _, _, rfl, hc2224, t, w24, cv w24 (hX22.keepN hc2224), hc2224, ⟨by omega, by omega⟩, p1, fun w26 e26 => p2 w26 e26⟩
    ·have hd23 : Ch Non w22 w23 := Ch.drew e23
     refine ⟨t, w23, cv w23 (hX22.keepN hd23), hd23, step_call (shape_spec w23) ?_⟩
     rintro v w28 ⟨rfl, hc28⟩
     have hc2228 := hd23.andN hc28
     obtain ⟨p1, p2⟩ := fin w28 hc2228
     exact ⟨_, _, _, _, _, _, rfl, hc2228, ⟨by omega, by omega⟩, p1, fun w29 e29 => p2 w29 e29⟩
 ·have hL2 : L.length = 2 := by have := of_decide_eq_false hge; omega
  obtain ⟨q0, q1, rfl⟩ : ∃ q0 q1, L = [q0, q1] := by
   rcases L with _ | ⟨q0, _ | ⟨q1, _ | ⟨q2, L⟩⟩⟩
   ·simp at hL2
   ·simp at hL2
   ·exact ⟨q0, q1, rfl⟩
   ·simp at hL2
  have hdr : ∀ w', w' = w8.drew → Ch Non w8 w' := fun w' e => Ch.drew e
  have hA8 := hA7.keep hc78 (by omega)
  have hB8 := hB7.keep hc78 (by omega)
  refine ⟨fun w' => Ch (fun j => j = rA ∨ j = rB) w8 w', fun w30 e30 => ?_⟩
  have hc30 : Ch Non w8 w30 := Ch.drew e30
  have nA : ¬ (oA = rA ∨ oA = rB) := by omega
  have nB : ¬ (oB = rA ∨ oB = rB) := by omega
  have hA30 := hA8.keepN hc30
  refine ⟨hc30.any, _, _, ⟨fun w' k => (hC8.keep k nA).cell 0 rfl, fun w' k => (hC8.keep k nA).cell 1 rfl⟩, _, _, _, _, _, _, _, _, _, _, _, _, _, _, ⟨fun w' k => (hD8.keep k nB).cell 0 rfl, fun w' k => (hD8.keep k nB).cell 1 rfl, fun w' k => (hD8.keep k nB).cell 2 rfl, fun w' k => (hD8.keep k nB).cell 3 rfl, fun w' k => (hD8.keep k nB).cell 4 rfl, fun w' k => (hD8.keep k nB).cell 5 rfl, fun w' k => (hD8.keep k nB).cell 6 rfl, fun w' k => (hD8.keep k nB).cell 7 rfl, fun w' k => (hD8.keep k nB).cell 8 rfl, fun w' k => (hD8.keep k nB).cell 9 rfl, fun w' k => (hD8.keep k nB).cell 10 rfl, fun w' k => (hD8.keep k nB).cell 11 rfl, fun w' k => (hD8.keep k nB).cell 12 rfl, fun w' k => (hD8.keep k nB).cell 13 rfl⟩, ⟨hA30.ok 0 rfl, hA30.ok 1 rfl⟩, fun w33 e33 => ?_⟩
  have e33' : w33 = w30.setCells rA 0 [brE q0, brE q1] := e33
  have hA33 := hA30.all [brE q0, brE q1] rfl e33'
  have hc33 : Ch (· = rA) w30 w33 := Ch.sets e33' rfl
  have hB33 := (hB8.keepN hc30).keep hc33 (by omega)
  have hc833 : Ch (fun j => j = rA ∨ j = rB) w8 w33 := hc30.any.same (hc33.mono (fun _ _ h => .inl h))
  refine ⟨hc833, ⟨hB33.ok 0 rfl, hB33.ok 1 rfl, hB33.ok 2 rfl, hB33.ok 3 rfl, hB33.ok 4 rfl, hB33.ok 5 rfl, hB33.ok 6 rfl, hB33.ok 7 rfl, hB33.ok 8 rfl, hB33.ok 9 rfl, hB33.ok 10 rfl, hB33.ok 11 rfl, hB33.ok 12 rfl, hB33.ok 13 rfl⟩, fun w34 e34 => ?_⟩
  have e34' : w34 = w33.setCells rB 0 (mdE q0.2 ++ mdE q1.2) := e34
  have hB34 := hB33.all (mdE q0.2 ++ mdE q1.2) rfl e34'
  have hc34 : Ch (· = rB) w33 w34 := Ch.sets e34' rfl
  have hA34 := hA33.keep hc34 (by omega)
  have hc834 : Ch (fun j => j = rA ∨ j = rB) w8 w34 := hc833.same (hc34.mono (fun _ _ h => .inr h))
  refine ⟨hc834, _, _, ⟨hA34.cell 0 rfl, hA34.cell 1 rfl⟩, _, _, _, _, _, _, _, _, _, _, _, _, _, _, ⟨hB34.cell 0 rfl, hB34.cell 1 rfl, hB34.cell 2 rfl, hB34.cell 3 rfl, hB34.cell 4 rfl, hB34.cell 5 rfl, hB34.cell 6 rfl, hB34.cell 7 rfl, hB34.cell 8 rfl, hB34.cell 9 rfl, hB34.cell 10 rfl, hB34.cell 11 rfl, hB34.cell 12 rfl, hB34.cell 13 rfl⟩, q0, q1, rfl, fun q hq => ?_, ?_⟩
  ·obtain ⟨k1, k2⟩ := hBr q hq
   exact ⟨k1.keep hc834 (by have := hlo q hq; omega), k2⟩
  ·exact (hc07.trans hc78 (fun j hj he => by omega)).trans hc834 (fun j hj he => by omega)
end Go.Proofs.YtkbikekbaboclaaGreat.Crew
set_option linter.unusedVariables false
set_option linter.unusedSimpArgs false
namespace Go.Proofs.YtkbikekbaboclaaGreat.Crew
open Go Go.Proofs V Vc Step Pages Prefix Brain Conf Stp Go.RowKit
open Ward (AskD AskP askE AskR)
structure St (W w : World) (cb pb xb k : Nat) (cf : CfD) (md : Mds) (ps : List PageD) (es : List EntD) (rs : List RunD) (R : Nat → Nat → Prop) : Prop where
 c : ∃ (o : Option Addr) (c : Nat) (qs : List (RunC × RunD)), CrewC W w cb pb xb k 1000 ps es o c qs R ∧ qs.map (·.2) = rs
 v : CInv cf md k ps es rs
 n : rs.length ≤ 8
 k : 1 ≤ k ∧ k ≤ 64
structure TurnR (w0 w : World) (R : Nat → Nat → Prop) (t : TurnD) (oo : Option Addr) (oc : Nat) (ao : Option Addr) (ac : Nat) (aq : List (AskD × AskP)) (TA : Nat → Prop) : Prop where
 out : IV w (.slice oo t.out.length oc) t.out (AllF R)
 aw : aq.map (·.1) = t.away
 rd : Rd w ao (aq.map askE).flatten TA
 ta : ∀ i, TA i → w0.heap.size ≤ i ∧ ∀ k, ¬ R k i
 ask : ∀ q ∈ aq, AskC w q (R 2)
structure Grow (w w' : World) (R R' : Nat → Nat → Prop) : Prop where
 g : ∀ i, AllF R' i → Ext (AllF R) w w' i
 two : ∀ i, R 2 i → R' 2 i
 ch : Ch (MutF R) w w'
section
variable {W w w' w'' : World} {cb pb xb k : Nat} {cf : CfD} {md : Mds} {ps ps' : List PageD} {es es' : List EntD} {rs rs' : List RunD} {R R' R'' : Nat → Nat → Prop} {G : Nat → Prop} {B : Int}
theorem CrewC.reg {o : Option Addr} {c : Nat} {qs : List (RunC × RunD)} (h : CrewC W w cb pb xb k B ps es o c qs R) (hv : CInv cf md k ps es rs) (hn : rs.length ≤ 900) : CrewC W w cb pb xb k 1000 ps es o c qs R :=
 ⟨h.fam, h.f, h.z, h.blk, h.own, ⟨h.px.p, h.px.x, ⟨h.px.g.len, fun p hp => by
  obtain ⟨j, hj, rfl⟩ := List.getElem_of_mem hp
  have h1 := hv.users (j : Int)
  rw [pgAt_lt (by omega) (by simpa using hj)] at h1
  have h2 := h.px.g.pg _ hp
  simp only [Int.toNat_natCast] at h1
  exact ⟨h2.1, by omega, h2.2.2⟩⟩, h.px.f, h.px.ap⟩, h.nd, h.rn⟩
theorem St.keepN (h : St W w cb pb xb k cf md ps es rs R) (hc : Ch Non w w') : St W w' cb pb xb k cf md ps es rs R := by
 obtain ⟨o, c, qs, h1, h2⟩ := h.c
 exact ⟨⟨o, c, qs, h1.keepN hc, h2⟩, h.v, h.n, h.k⟩
theorem St.far (h : St W w cb pb xb k cf md ps es rs R) (hc : Ch G w w') (hG : ∀ k i, R k i → ¬ G i) (hW : ∀ i, i < W.heap.size → ¬ G i) : St W w' cb pb xb k cf md ps es rs R := by
 obtain ⟨o, c, qs, h1, h2⟩ := h.c
 exact ⟨⟨o, c, qs, h1.far hc hG hW, h2⟩, h.v, h.n, h.k⟩
theorem St.ch (h : St W w cb pb xb k cf md ps es rs R) : Ch Non W w := by
 obtain ⟨o, c, qs, h1, h2⟩ := h.c
 exact h1.ch
theorem St.lt (h : St W w cb pb xb k cf md ps es rs R) : ∀ i, AllF R i → W.heap.size ≤ i ∧ i < w.heap.size := by
 obtain ⟨o, c, qs, h1, h2⟩ := h.c
 exact fun i hi => ⟨h1.ge i hi, h1.lt i hi⟩
theorem St.dat (h : St W w cb pb xb k cf md ps es rs R) : ∀ i, R 2 i → ¬ MutF R i := by
 obtain ⟨o, c, qs, h1, h2⟩ := h.c
 exact h1.dat
theorem St.es_le (h : St W w cb pb xb k cf md ps es rs R) : es.length ≤ 64 := by have := h.v.inv.free_le; have := h.k; omega
theorem St.pages (h : St W w cb pb xb k cf md ps es rs R) (hm : ∀ v, Md cf (md v)) {r : RunD} (hr : r ∈ rs) : r.pages.length ≤ 900 ∧ r.done ≤ 1000 ∧ r.said.length ≤ 900 := by
 obtain ⟨h1, h2, h3⟩ := h.v.run r hr
 have := h2.len
 have := h2.dn
 have := h1.hi
 have := (hm 0).ok.2.2.2.2.2.1
 have : r.said.length ≤ r.toks.length := by unfold RunD.toks; rw [List.length_append]; omega
 omega
theorem St.new (hW : Ch Non W w) (n : Int) : Calls Tryz.prog i_crew_New #[.int .i64 n] w (Ret fun v w' => Ch Non w w' ∧ (¬ (1 ≤ n ∧ n ≤ 64) → v = .pointer none) ∧ (1 ≤ n ∧ n ≤ 64 → ∃ (cb pb xb : Nat) (R : Nat → Nat → Prop), v = .pointer (some ⟨cb, 0, none⟩) ∧ St W w' cb pb xb n.toNat cf md (List.replicate n.toNat pg0) [] [] R ∧ ∀ i, AllF R i → New w w' i)) := by
 refine step_call (NewC_spec hW n) ?_
 rintro v w' ⟨h1, h2, h3⟩
 refine ⟨h1, h2, fun hn => ?_⟩
 obtain ⟨cb, pb, xb, R, rfl, hC, hA⟩ := h3 hn
 exact ⟨cb, pb, xb, R, rfl, ⟨⟨none, 0, [], hC.reg (cf := cf) (md := md) (rs := []) (CInv.empty _) (by simp), rfl⟩, CInv.empty _, by simp, by omega⟩, hA⟩
theorem St.pick (h : St W w cb pb xb k cf md ps es rs R) (hm : ∀ v, Md cf (md v)) (hvm : md.vm ≤ 2147483647) (hr : 0 < rs.length) (n : Int) {i : Nat} (hi : pickI n rs.length = i) (hil : i < rs.length) :
  Calls Tryz.prog i_crew_Crew_Pick #[.pointer (some ⟨cb, 0, none⟩), .int .i64 n] w (Ret fun v w' => ∃ (cr : Cr) (t : TurnD) (m : Nat) (R' : Nat → Nat → Prop) (oo : Option Addr) (oc : Nat) (ao : Option Addr) (ac : Nat) (aq : List (AskD × AskP)) (TA : Nat → Prop), v = .tuple #[.agg (turnV t oo oc ao aq.length ac).toArray, .int .i64 0] ∧
   pickF rs[i].ask.id i (pageF i (es.length + rs.length + 1) ⟨ps, es, rs, [], true⟩) = (cr, t) ∧ St W w' cb pb xb k cf md cr.ps cr.es cr.rs R' ∧ PickL cf md i rs cr t m ∧ TurnR w w' R' t oo oc ao ac aq TA ∧ Grow w w' R R' ∧ R' 2 = R 2 ∧ ((rs[i].done + 1) % 4 ≠ 0 → cr.es.length ≤ es.length)) := by
 obtain ⟨o, c, qs, hC, hq⟩ := h.c
 have hlq : qs.length = rs.length := by rw [← hq]; simp
 have hes := h.es_le
 have hn := h.n
 have hk := h.k
 obtain ⟨s, hs⟩ : ∃ s, pageF i (es.length + rs.length + 1) ⟨ps, es, rs, [], true⟩ = s := ⟨_, rfl⟩
 rw [hs]
 obtain ⟨cr, t, hct⟩ : ∃ cr t, pickF rs[i].ask.id i s = (cr, t) := ⟨_, _, rfl⟩
 obtain ⟨p1, p2, p3, p4, p6, m, p5⟩ := h.v.pick hm hvm hil hs hct
 have hP := Pick_spec (n := n) (s := s) (cr := cr) (t := t) (i := i) hC (by omega) (by omega) (by omega) (by omega) (fun q hqm => by
  have := h.pages hm (r := q.2) (by rw [← hq]; exact List.mem_map.2 ⟨q, hqm, rfl⟩)
  omega) (by rw [hlq]; exact hi) (by rw [hlq, hq]; exact hs) (by omega) p3 (fun q hqi => by
  have : rs[i]? = some q.2 := by rw [← hq, List.getElem?_map, hqi]; rfl
  rw [List.getElem?_eq_getElem hil] at this
  injection this with this
  rw [← this]; exact hct)
 refine step_call hP ?_
 rintro v w' ⟨oo, oc, ao, an, ac, rfl, o', c', qs', R', aq, TA, rfl, hC', hrs', hout, haw, hrd, hta, _, hask, hgr, htwo, hch⟩
 have hle : cr.rs.length ≤ rs.length := by
  have := p5.le
  by_cases hg : t.gave = true
  ·rw [(p5.gave hg).2.2, List.length_take]; omega
  ·have hg : t.gave = false := by simpa using hg
   by_cases hd : t.done = true
   ·rw [(p5.done hd).2.2.2, List.length_eraseIdx, List.length_take]; split <;> omega
   ·have hd : t.done = false := by simpa using hd
    obtain ⟨_, _, r, r', _, _, _, e⟩ := p5.goes hg hd
    rw [e, List.length_set, List.length_take]; omega
 exact ⟨cr, t, m, R', oo, oc, ao, ac, aq, TA, rfl, hct, ⟨⟨o', c', qs', hC'.reg p4 (by omega), hrs'⟩, p4, by omega, h.k⟩, p5, ⟨hout, haw, hrd, fun i hi => ⟨(hta i hi).1, (hta i hi).2.2⟩, hask⟩, ⟨hgr, fun i hi => by rw [htwo]; exact hi, hch.mono (fun i _ hi => hi.elim (fun x => x) (fun x => x.elim))⟩, htwo, p6 _ (List.getElem?_eq_getElem hil)⟩
theorem St.pick0 (h : St W w cb pb xb k cf md ps es [] R) (n : Int) : Calls Tryz.prog i_crew_Crew_Pick #[.pointer (some ⟨cb, 0, none⟩), .int .i64 n] w (Ret fun v w' => v = .tuple #[.agg (turnV ⟨0, false, false, [], []⟩ none 0 none 0 0).toArray, .int .i64 8] ∧ Ch Non w w') := by
 obtain ⟨o, c, qs, hC, hq⟩ := h.c
 have hq : qs = [] := List.map_eq_nil_iff.1 hq
 subst hq
 refine crew_Crew_Pick.calls _ _ ?_
 unfold crew_Crew_Pick.vc
 intro w1 e1
 have hT1 := Blk.new e1
 have hc1 : Ch Non w w1 := Ch.alloc e1
 refine ⟨_, _, _, (hC.keepN hc1).blk.cell 2 rfl, fun _ => ⟨⟨hT1.ok 0 rfl, hT1.ok 1 rfl, hT1.ok 2 rfl, hT1.ok 3 rfl, hT1.ok 4 rfl⟩, fun w2 e2 => ?_⟩, fun hn => by simp at hn⟩
 have e2' : w2 = w1.setCells w.heap.size 0 (turnE 0 false false none 0 0 none 0 0) := e2
 have hT2 := hT1.all (turnE 0 false false none 0 0 none 0 0) rfl e2'
 exact ⟨_, _, _, _, _, _, _, _, _, ⟨hT2.cell 0 rfl, hT2.cell 1 rfl, hT2.cell 2 rfl, hT2.cell 3 rfl, hT2.cell 4 rfl⟩, rfl, hc1.trans (Ch.sets (F := (· = w.heap.size)) e2' rfl) (fun i hi he => by omega)⟩
theorem St.join {bb : Nat} {a : AskD × AskP} {D : Nat → Prop} (h : St W w cb pb xb k cf md ps es rs R) (hb : BrK W bb cf (md a.1.ver)) (ha : AskC w a D) (hD : ∀ i, i < w.heap.size → D i → ¬ MutF R i) (hv : joinV cf k rs a.1 = 0 → a.1.ver ≤ md.vm) :
  Calls Tryz.prog i_crew_Crew_Join #[.pointer (some ⟨cb, 0, none⟩), .pointer (some ⟨bb, 0, none⟩), .agg (askE a).toArray] w (Ret fun v w' => v = .int .i64 (joinV cf k rs a.1) ∧ ∃ (ps' : List PageD) (es' : List EntD) (rs' : List RunD) (R' : Nat → Nat → Prop), St W w' cb pb xb k cf md ps' es' rs' R' ∧ Grow w w' R R' ∧ (joinV cf k rs a.1 ≠ 0 → ps' = ps ∧ es' = es ∧ rs' = rs) ∧
   (joinV cf k rs a.1 = 0 → ps' = shareQ ps (findR es a.1.ver a.1.prompt).2 ∧ es' = (findR es a.1.ver a.1.prompt).1 ∧ rs' = rs ++ [newRun cf (md a.1.ver) a.1 (findR es a.1.ver a.1.prompt).2])) := by
 obtain ⟨o, c, qs, hC, hq⟩ := h.c
 have hlq : qs.length = rs.length := by rw [← hq]; simp
 have hes := h.es_le
 have hn := h.n
 refine step_call (Join_spec hC h.k (by omega) (by omega) (by omega) hb ha hD) ?_
 rintro v w' ⟨rfl, hch, hno, hyes⟩
 rw [hq] at hno hyes ⊢
 refine ⟨rfl, ?_⟩
 by_cases hz : joinV cf k rs a.1 = 0
 ·obtain ⟨o', c', g, R', hC', h2, hg⟩ := hyes hz
  have hv' := h.v.join hz (hv hz)
  have hl : rs.length < 8 := by
   unfold joinV at hz
   split at hz
   ·cases hz
   ·split at hz
    ·cases hz
    ·split at hz
     ·cases hz
     ·omega
  exact ⟨_, _, _, R', ⟨⟨o', c', _, hC'.reg hv' (by rw [List.length_append]; simp; omega), by rw [List.map_append, hq]; rfl⟩, hv', by rw [List.length_append]; simp; omega, h.k⟩, ⟨hg, h2, hch⟩, fun hx => absurd hz hx, fun _ => ⟨rfl, rfl, rfl⟩⟩
 ·exact ⟨ps, es, rs, R, ⟨⟨o, c, qs, hno hz, hq⟩, h.v, h.n, h.k⟩, ⟨fun i hi => .inl hi, fun i hi => hi, hch⟩, fun _ => ⟨rfl, rfl, rfl⟩, fun hx => absurd hx hz⟩
theorem St.ids (h : St W w cb pb xb k cf md ps es rs R) : Calls Tryz.prog i_crew_Crew_Ids #[.pointer (some ⟨cb, 0, none⟩)] w (Ret fun v w' => IV w' v (rs.map (·.ask.id)) (New w w') ∧ Ch Non w w') := by
 obtain ⟨o, c, qs, hC, hq⟩ := h.c
 have hlq : qs.length = rs.length := by rw [← hq]; simp
 have hn := h.n
 have := Ids_spec hC (by omega)
 rw [show qs.map (fun q => q.2.ask.id) = rs.map (·.ask.id) from by rw [← hq, List.map_map]; rfl] at this
 exact this
theorem St.said (h : St W w cb pb xb k cf md ps es rs R) (hm : ∀ v, Md cf (md v)) (id : Int) : Calls Tryz.prog i_crew_Crew_Said #[.pointer (some ⟨cb, 0, none⟩), .int .i64 id] w (Ret fun v w' => Ch Non w w' ∧ (findRn rs id < 0 → v = .slice none 0 0) ∧ ∀ i (hi : i < rs.length), findRn rs id = i → IV w' v rs[i].said (New w w')) := by
 obtain ⟨o, c, qs, hC, hq⟩ := h.c
 have hlq : qs.length = rs.length := by rw [← hq]; simp
 have hn := h.n
 refine step_call (Said_spec hC (by omega) (fun q hqm => by
  have := h.pages hm (r := q.2) (by rw [← hq]; exact List.mem_map.2 ⟨q, hqm, rfl⟩)
  omega) id) ?_
 rintro v w' ⟨h1, h2, h3⟩
 rw [hq] at h2 h3
 refine ⟨h1, h2, fun i hi he => ?_⟩
 have hqi : (qs[i]'(by omega)).2 = rs[i] := by simp only [← hq, List.getElem_map]
 have := h3 i (by omega) he
 rw [hqi] at this
 exact this
theorem St.free (h : St W w cb pb xb k cf md ps es rs R) : Calls Tryz.prog i_crew_Crew_Free #[.pointer (some ⟨cb, 0, none⟩)] w (Ret fun v w' => v = .int .i64 (freeN ps) ∧ w' = w) := by
 obtain ⟨o, c, qs, hC, hq⟩ := h.c
 exact Free_specC hC
theorem St.kept (h : St W w cb pb xb k cf md ps es rs R) : Calls Tryz.prog i_crew_Crew_Kept #[.pointer (some ⟨cb, 0, none⟩)] w (Ret fun v w' => v = .int .i64 es.length ∧ w' = w) := by
 obtain ⟨o, c, qs, hC, hq⟩ := h.c
 exact Kept_spec hC
end
end Go.Proofs.YtkbikekbaboclaaGreat.Crew
set_option linter.unusedVariables false
set_option linter.unusedSimpArgs false
namespace Go.Proofs.YtkbikekbaboclaaGreat.Crew
open Go Go.Proofs V Vc Step Pages Prefix Brain Conf Stp Go.RowKit
open Ward (AskD AskP askE AskR)
def md0 : Mds := ⟨fun _ => z25, 2⟩
def ask0 : AskD := ⟨5, 1, [1, 2], 1, [65536]⟩
theorem md0_ok (v : Int) : Md c25 (md0 v) := md25 rfl
theorem say0 : sayA c25 md0 ask0 = [1] := by kernel_rfl
theorem join0 : joinV c25 2 [] ask0 = 0 := by kernel_rfl
theorem findR_nil (v : Int) (t : List Int) : findR [] v t = ([], []) := by
 unfold findR
 exact findG_none (by simp)
theorem row25 {w w1 : World} (l : List Int) {T : Nat} (e : w1 = w.alloc (.cells ((l.map (Value.int .i64)).toArray) T (0, 0))) (hl : l.length ≤ maxLen) : IV w1 (.slice (some ⟨w.heap.size, 0, none⟩) l.length l.length) l (· = w.heap.size) := by
 have hB := Blk.new e
 exact ⟨_, _, rfl, Nat.le_refl _, hl, hB.rd⟩
set_option maxRecDepth 100000 in
set_option maxHeartbeats 2000000 in
theorem awake_spec (w : World) : Calls Tryz.prog i_coadjutorlaw25_awake #[] w (Ret fun v w' => v = .bool true ∧ Ch Non w w') := by
 refine coadjutorlaw25_awake.calls ?_
 unfold coadjutorlaw25_awake.vc
 refine step_call (models_spec w _) ?_
 rintro v w1 ⟨q0, q1, rfl, hBr, hc1⟩
 refine ⟨_, _, _, _, _, _, _, _, _, _, _, _, _, _, _, _, rfl, fun w2 e2 w3 e3 => ?_⟩
 have hA2 := Blk.new e2
 have hA3 := hA2.alloc e3
 have hB3 := Blk.new e3
 have l12 := hA2.lt
 have l23 := hB3.lt
 obtain ⟨bA, hbA⟩ : ∃ n, w1.heap.size = n := ⟨_, rfl⟩
 obtain ⟨bB, hbB⟩ : ∃ n, w2.heap.size = n := ⟨_, rfl⟩
 rw [hbA] at hA3 ⊢
 rw [hbB] at hB3 ⊢
 refine ⟨⟨hA3.ok 0 rfl, hA3.ok 1 rfl⟩, fun w4 e4 => ?_⟩
 have e4' : w4 = w3.setCells bA 0 [brE q0, brE q1] := e4
 have hA4 := hA3.all [brE q0, brE q1] rfl e4'
 have hc34 : Ch (· = bA) w3 w4 := Ch.sets e4' rfl
 have hB4 := hB3.keep hc34 (by omega)
 refine ⟨⟨hB4.ok 0 rfl, hB4.ok 1 rfl, hB4.ok 2 rfl, hB4.ok 3 rfl, hB4.ok 4 rfl, hB4.ok 5 rfl, hB4.ok 6 rfl, hB4.ok 7 rfl, hB4.ok 8 rfl, hB4.ok 9 rfl, hB4.ok 10 rfl, hB4.ok 11 rfl, hB4.ok 12 rfl, hB4.ok 13 rfl⟩, fun w5 e5 => ?_⟩
 have e5' : w5 = w4.setCells bB 0 (mdE q0.2 ++ mdE q1.2) := e5
 have hc45 : Ch (· = bB) w4 w5 := Ch.sets e5' rfl
 have hA5 := hA4.keep hc45 (by omega)
 have hc13 : Ch Non w1 w3 := (Ch.alloc (F := Non) e2).andN (Ch.alloc e3)
 have hc15 : Ch Non w1 w5 := (hc13.trans hc34 (fun i hi he => by omega)).trans hc45 (fun i hi he => by omega)
 clear e2 e3 e4 e5 e4' e5' hA2 hA3 hB3 hA4 hB4
 have hc05 := hc1.andN hc15
 obtain ⟨hK, _, hz⟩ := hBr q0 (by simp)
 rw [hz rfl] at hK
 have hK5 := hK.keepN hc15
 have hW5 := hc15.size
 refine step_call (St.new (W := w5) (w := w5) (cf := c25) (md := md0) (Ch.refl _ _) 2) ?_
 rintro v w6 ⟨hc6, _, h6⟩
 obtain ⟨cb, pb, xb, R, rfl, hS, hA⟩ := h6 (by omega)
 have hS : St w5 w6 cb pb xb 2 c25 md0 (List.replicate 2 pg0) [] [] R := hS
 refine ⟨_, rfl, ⟨by omega, by omega⟩, some ⟨q0.1, 0, none⟩, (hA5.keepN hc6).cell 0 rfl, iteF rfl (iteF rfl ?_)⟩
 refine step_call (NewC_spec (W := w6) (Ch.refl _ _) 0) ?_
 rintro v w7 ⟨hc7, h7, _⟩
 obtain rfl := h7 (by omega)
 have hc57 := hc6.andN hc7
 refine ⟨none, rfl, iteF rfl ⟨⟨by omega, by omega⟩, some ⟨q0.1, 0, none⟩, (hA5.keepN hc57).cell 0 rfl, fun w8 e8 w9 e9 => ?_⟩⟩
 have hR8 := row25 (w1 := w8) [1, 2] e8 (by decide)
 have hR9 := row25 (w1 := w9) [65536] e9 (by decide)
 have hc8 : Ch Non w7 w8 := Ch.alloc e8
 have hc9 : Ch Non w8 w9 := Ch.alloc e9
 have hc79 := hc8.andN hc9
 have l78 : w7.heap.size < w8.heap.size := (Blk.new e8).lt
 have l89 : w8.heap.size < w9.heap.size := (Blk.new e9).lt
 obtain ⟨o8, c8, e8', _, _, hr8⟩ := hR8.keepN hc9
 injection e8' with i1 i2 i3
 subst i1
 obtain ⟨o9, c9, e9', _, _, hr9⟩ := hR9
 injection e9' with i4 i5 i6
 subst i4
 have hask : AskC w9 (ask0, ⟨some ⟨w7.heap.size, 0, none⟩, 2, some ⟨w8.heap.size, 0, none⟩, 1⟩) (fun i => i = w7.heap.size ∨ i = w8.heap.size) :=
  ⟨⟨hr8.mono (fun _ _ h => .inl h), hr9.mono (fun _ _ h => .inr h), show 2 ≤ 1000 by decide, show 1 ≤ 1000 by decide⟩, Nat.le_refl 2, show 2 ≤ maxLen by decide, Nat.le_refl 1, show 1 ≤ maxLen by decide⟩
 have hS9 := hS.keepN (hc7.andN hc79)
 have hs67 := hc7.size
 have hJ := hS9.join (bb := q0.1) (hK5) hask (fun i hi hd hm => by
  have := (hA i (mut_all i hm)).2
  omega) (fun _ => show (1 : Int) ≤ 2 by decide)
 refine step_call hJ ?_
 rintro v w10 ⟨rfl, ps1, es1, rs1, R1, hS1, hG1, _, hy1⟩
 obtain ⟨rfl, rfl, rfl⟩ := hy1 join0
 rw [show ((ask0, (⟨some ⟨w7.heap.size, 0, none⟩, 2, some ⟨w8.heap.size, 0, none⟩, 1⟩ : AskP)).1) = ask0 from rfl, findR_nil] at hS1
 rw [show joinV c25 2 [] (ask0, (⟨some ⟨w7.heap.size, 0, none⟩, 2, some ⟨w8.heap.size, 0, none⟩, 1⟩ : AskP)).1 = 0 from join0]
 obtain ⟨r1, hr1⟩ : ∃ r1, newRun c25 (md0 ask0.ver) ask0 [] = r1 := ⟨_, rfl⟩
 rw [List.nil_append, hr1] at hS1
 have hd1 : r1.done = 0 ∧ r1.ask = ask0 := by rw [← hr1]; exact ⟨rfl, rfl⟩
 clear hJ hr8 hr9 hR8 hask hr1 hy1 e8 e9
 have hc59 := hc57.andN hc79
 have n1 : ∀ i, i < w5.heap.size → ¬ AllF R1 i := fun i hi hm => by have := (hS1.lt i hm).1; omega
 refine ⟨0, rfl, step_call (hS1.pick md0_ok (by decide) (by simp) 0 (i := 0) rfl (by simp)) ?_⟩
 rintro v w11 ⟨⟨ps2, es2, rs2⟩, t1, m, R2, oo1, oc1, ao1, ac1, aq1, TA1, rfl, _, hS2, hP1, _, hG2, _, hes2⟩
 have hm1 := hP1.le
 have hd1' : t1.done = false := by
  cases h : t1.done with
  | false => rfl
  | true =>
   have := hP1.dn h r1 rfl
   rw [hd1.2, hd1.1] at this
   exact absurd this (by decide)
 have hg1 : t1.gave = false := by
  cases h : t1.gave with
  | false => rfl
  | true => have := (hP1.gave h).2.1; omega
 obtain ⟨hm0, _, r, r2, hr, ha2, hd2, hrs⟩ := hP1.goes hg1 hd1'
 have hm1' : m = 1 := by simp at hm1; omega
 subst hm1'
 simp only [List.getElem?_cons_zero, Option.some.injEq] at hr
 subst hr
 rw [hd1.2] at ha2
 rw [hd1.1] at hd2
 have hrs2 : rs2 = [r2] := hrs
 subst hrs2
 have hes2' : es2 = [] := List.eq_nil_of_length_eq_zero (by
  have := hes2 (by simp only [List.getElem_cons_zero]; rw [hd1.1]; decide)
  simpa using this)
 subst hes2'
 refine ⟨_, _, _, _, _, _, _, _, _, _, rfl, fun w12 e12 => ?_⟩
 have hT12 := Blk.new e12
 have l11 := hT12.lt
 obtain ⟨ta, hta⟩ : ∃ n, w11.heap.size = n := ⟨_, rfl⟩
 rw [hta] at hT12 l11 ⊢
 refine ⟨⟨hT12.ok 0 rfl, hT12.ok 1 rfl, hT12.ok 2 rfl, hT12.ok 3 rfl, hT12.ok 4 rfl⟩, fun w13 e13 => ?_⟩
 have e13' : w13 = w12.setCells ta 0 (turnV t1 oo1 oc1 ao1 aq1.length ac1) := e13
 have hT13 := hT12.all (turnV t1 oo1 oc1 ao1 aq1.length ac1) rfl e13'
 have hc1113 : Ch Non w11 w13 := (Ch.alloc (F := Non) e12).trans (Ch.sets (F := (· = ta)) e13' rfl) (fun i hi he => by omega)
 have hs1113 := hc1113.size
 refine step_call ((hS2.keepN hc1113).pick md0_ok (by decide) (by simp) (-3) (i := 0) (show pickI (-3) 1 = 0 by decide) (by simp)) ?_
 rintro v w14 ⟨⟨ps3, es3, rs3⟩, t2, m, R3, oo2, oc2, ao2, ac2, aq2, TA2, rfl, _, hS3, hP2, hTR2, hG3, _, hes3⟩
 have hm2 := hP2.le
 have hg2 : t2.gave = false := by
  cases h : t2.gave with
  | false => rfl
  | true => have := (hP2.gave h).2.1; omega
 have hd2' : t2.done = true := by
  cases h : t2.done with
  | true => rfl
  | false =>
   obtain ⟨_, _, r, r3, hr, ha3, hd3, hrs⟩ := hP2.goes hg2 h
   simp only [List.getElem?_cons_zero, Option.some.injEq] at hr
   subst hr
   have hm2' : m = 1 := by simp at hm2; omega
   subst hm2'
   have hrs3 : rs3 = [r3] := hrs
   subst hrs3
   obtain ⟨_, st, _⟩ := hS3.v.run r3 (by simp)
   have h1 := st.sl
   have h2 := st.sm
   rw [ha3, ha2, hd3, hd2] at h1
   rw [ha3, ha2] at h2
   have h1 : r3.said.length = 1 := h1
   have h2 : (r3.said.length : Int) < 1 := h2
   omega
 obtain ⟨_, _, hout, hrs⟩ := hP2.done hd2'
 have hout := hout r2 rfl
 rw [ha2, say0] at hout
 have hid : t2.id = 5 := by rw [hP2.id r2 rfl, ha2]; rfl
 have hm2' : m = 1 := by simp at hm2; omega
 subst hm2'
 have hrs3 : rs3 = [] := hrs
 subst hrs3
 have hes3' : es3 = [] := List.eq_nil_of_length_eq_zero (by
  have := hes3 (by simp only [List.getElem_cons_zero]; rw [hd2]; decide)
  simpa using this)
 subst hes3'
 refine ⟨_, _, _, _, _, _, _, _, _, _, rfl, fun w15 e15 => ?_⟩
 have hT15 := Blk.new e15
 have l14 := hT15.lt
 obtain ⟨tc, htc⟩ : ∃ n, w14.heap.size = n := ⟨_, rfl⟩
 rw [htc] at hT15 l14 ⊢
 refine ⟨⟨hT15.ok 0 rfl, hT15.ok 1 rfl, hT15.ok 2 rfl, hT15.ok 3 rfl, hT15.ok 4 rfl⟩, fun w16 e16 => ?_⟩
 have e16' : w16 = w15.setCells tc 0 (turnV t2 oo2 oc2 ao2 aq2.length ac2) := e16
 have hT16 := hT15.all (turnV t2 oo2 oc2 ao2 aq2.length ac2) rfl e16'
 have hc1416 : Ch Non w14 w16 := (Ch.alloc (F := Non) e15).trans (Ch.sets (F := (· = tc)) e16' rfl) (fun i hi he => by omega)
 refine step_call ((hS3.keepN hc1416).pick0 0) ?_
 rintro v w17 ⟨rfl, hc17⟩
 refine ⟨_, _, _, _, _, _, _, _, _, _, rfl, fun w18 e18 => ?_⟩
 have hT18 := Blk.new e18
 refine ⟨⟨hT18.ok 0 rfl, hT18.ok 1 rfl, hT18.ok 2 rfl, hT18.ok 3 rfl, hT18.ok 4 rfl⟩, fun w19 e19 => ?_⟩
 have e19' : w19 = w18.setCells w17.heap.size 0 (turnV ⟨0, false, false, [], []⟩ none 0 none 0 0) := e19
 have hc1719 : Ch Non w17 w19 := (Ch.alloc (F := Non) e18).trans (Ch.sets (F := (· = w17.heap.size)) e19' rfl) (fun i hi he => by omega)
 have hc1619 := hc17.andN hc1719
 have hG3c := hG3.ch
 have hs1314 := hG3c.size
 have hs1416 := hc1416.size
 -- the first turn's block is kept
 have hR2lt : ∀ i, AllF R2 i → i < w11.heap.size := fun i hi => (hS2.lt i hi).2
 have hTa19 : Blk w19 ta (turnV t1 oo1 oc1 ao1 aq1.length ac1) t_crew_Turn := ((hT13.keep hG3c (fun hm => by have := hR2lt _ (mut_all _ hm); omega)).keepN hc1416).keepN hc1619
 have hTc19 : Blk w19 tc (turnV t2 oo2 oc2 ao2 aq2.length ac2) t_crew_Turn := hT16.keepN hc1619
 have hO19 := (hTR2.out.keepN hc1416).keepN hc1619
 refine iteT rfl (iteT rfl ⟨_, hTa19.cell 1 rfl, ?_⟩)
 rw [hd1']
 refine iteT rfl (iteT rfl ⟨_, hTc19.cell 1 rfl, ?_⟩)
 rw [hd2']
 refine iteT rfl ⟨_, _, _, hTc19.cell 3 rfl, fun w20 e20 => ?_⟩
 have hc20 : Ch Non w19 w20 := Ch.alloc e20
 refine step_call (IntsT.ints25_spec (hO19.keepN hc20) (row25 (w1 := w20) [1] e20 (by decide))) ?_
 rintro v w21 ⟨rfl, hc21⟩
 have hc1921 := hc20.andN hc21
 rw [hout]
 refine ⟨_, rfl, iteT (by decide) ⟨_, (hTc19.keepN hc1921).cell 0 rfl, iteT (by rw [hid]; rfl) (iteT rfl ?_)⟩⟩
 have hS21 := hS3.keepN ((hc1416.andN hc1619).andN hc1921)
 refine step_call hS21.free ?_
 rintro v w22 ⟨rfl, rfl⟩
 have hfe := hS3.v.inv.free_eq
 have hf : freeN ps3 = 2 := by simpa using hfe
 rw [hf]
 refine ⟨_, rfl, rfl, ?_⟩
 have hcA : Ch Non w5 w10 := hc59.trans hG1.ch (fun i hi hm => by have := (hA i (mut_all i hm)).1; omega)
 have hcB : Ch Non w5 w11 := hcA.trans hG2.ch (fun i hi hm => n1 i hi (mut_all i hm))
 have hcC : Ch Non w5 w14 := (hcB.andN hc1113).trans hG3c (fun i hi hm => by have := (hS2.lt i (mut_all i hm)).1; omega)
 exact hc05.andN (hcC.andN ((hc1416.andN hc1619).andN hc1921))
end Go.Proofs.YtkbikekbaboclaaGreat.Crew
set_option linter.unusedVariables false
set_option linter.unusedSimpArgs false
namespace Go.Proofs.YtkbikekbaboclaaGreat.Crew
open Go Go.Proofs V Vc Step Pages Prefix Brain Conf Stp Go.RowKit
open Ward (AskD AskP askE AskR)
def AskI (W : World) (q : AskD × AskP) : Prop := Rd W q.2.po (q.1.prompt.map (.int .i64)) (fun _ => True) ∧ Rd W q.2.qo (q.1.draws.map (.int .i64)) (fun _ => True) ∧ q.1.prompt.length ≤ q.2.pc ∧ q.2.pc ≤ maxLen ∧ q.1.draws.length ≤ q.2.qc ∧ q.2.qc ≤ maxLen ∧ q.1.prompt.length ≤ 17592186043904 ∧ q.1.draws.length ≤ 17592186043904
set_option maxRecDepth 100000 in
theorem ask_dat {w : World} {x : List Value} (h : DatC Tryz.prog w t_ward_Ask x) : ∃ q : AskD × AskP, x = askE q ∧ AskI w q := by
 obtain ⟨hl, hg⟩ := h.struct Tryz.underlying37
 have h3 : Tryz.prog.cellsOf t_ward_Ask = 5 := by kernel_rfl
 rw [h3] at hl
 match x, hl with
 | [b, c, d, e, f], _ =>
  have g0 : DatC Tryz.prog w t_int [b] := hg 0 _ rfl
  have g1 : DatC Tryz.prog w t_int [c] := hg 1 _ rfl
  have g2 : DatC Tryz.prog w t_S_int [d] := hg 2 _ rfl
  have g3 : DatC Tryz.prog w t_int [e] := hg 3 _ rfl
  have g4 : DatC Tryz.prog w t_S_int [f] := hg 4 _ rfl
  obtain ⟨n1, e1, _⟩ := g0.int (k := .i64) (by kernel_rfl)
  obtain ⟨n2, e2, _⟩ := g1.int (k := .i64) (by kernel_rfl)
  obtain ⟨o3, c3, xs3, e3, k1, k2, b3, _, hr3⟩ := g2.ints (k := .i64) (e := t_int) (by kernel_rfl) (by kernel_rfl)
  obtain ⟨n4, e4, _⟩ := g3.int (k := .i64) (by kernel_rfl)
  obtain ⟨o5, c5, xs5, e5, k3, k4, b5, _, hr5⟩ := g4.ints (k := .i64) (e := t_int) (by kernel_rfl) (by kernel_rfl)
  injection e1 with e1 _
  injection e2 with e2 _
  injection e3 with e3 _
  injection e4 with e4 _
  injection e5 with e5 _
  subst e1; subst e2; subst e3; subst e4; subst e5
  have h8 : Tryz.prog.bytesOf t_int = 8 := by kernel_rfl
  rw [h8] at b3 b5
  exact ⟨⟨⟨n1, n2, xs3, n4, xs5⟩, ⟨o3, c3, o5, c5⟩⟩, rfl, hr3, hr5, k1, k2, k3, k4, by dsimp only; omega, by dsimp only; omega⟩
def mdsP (q0 q1 : Nat × ByteArray) (vm : Int) : Mds := ⟨fun v => if v % 2 = 1 then q1.2 else q0.2, vm⟩
theorem mdsP_ok {q0 q1 : Nat × ByteArray} {vm : Int} {w : World} {n : Nat} (h : BrL w n [q0, q1]) (v : Int) : Md c25 (mdsP q0 q1 vm v) := by
 show Md c25 (if v % 2 = 1 then q1.2 else q0.2)
 split
 ·exact md25 (h q1 (by simp)).2.1
 ·exact md25 (h q0 (by simp)).2.1
theorem setup25 {w2 : World} {q0 q1 : Nat × ByteArray} {n : Nat} (hBr : BrL w2 n [q0, q1]) {K : World → Prop}
  (hK : ∀ w6, Ch Non w2 w6 → Blk w6 w2.heap.size [brE q0, brE q1] 25 → BrL w6 n [q0, q1] → Blk w6 (w2.heap.size + 1) (mdE q0.2 ++ mdE q1.2) 30 → K w6) :
  ∀ w3 : World, w3 = w2.alloc (.cells #[nilP, nilP] 25 (0, 0)) → ∀ w4 : World, w4 = w3.alloc (.cells (zM ++ zM).toArray 30 (0, 0)) →
   (Okc w4 ⟨w2.heap.size, 0, none⟩ ∧ Okc w4 ⟨w2.heap.size, 1, none⟩) ∧ ∀ w5 : World, w5 = w4.setCells w2.heap.size 0 [brE q0, brE q1] →
   (Okc w5 ⟨w3.heap.size, 0, none⟩ ∧ Okc w5 ⟨w3.heap.size, 1, none⟩ ∧ Okc w5 ⟨w3.heap.size, 2, none⟩ ∧ Okc w5 ⟨w3.heap.size, 3, none⟩ ∧ Okc w5 ⟨w3.heap.size, 4, none⟩ ∧ Okc w5 ⟨w3.heap.size, 5, none⟩ ∧ Okc w5 ⟨w3.heap.size, 6, none⟩ ∧ Okc w5 ⟨w3.heap.size, 7, none⟩ ∧ Okc w5 ⟨w3.heap.size, 8, none⟩ ∧ Okc w5 ⟨w3.heap.size, 9, none⟩ ∧ Okc w5 ⟨w3.heap.size, 10, none⟩ ∧ Okc w5 ⟨w3.heap.size, 11, none⟩ ∧ Okc w5 ⟨w3.heap.size, 12, none⟩ ∧ Okc w5 ⟨w3.heap.size, 13, none⟩) ∧
   ∀ w6 : World, w6 = w5.setCells w3.heap.size 0 (mdE q0.2 ++ mdE q1.2) → K w6 := by
 intro w3 e3 w4 e4
 have hA3 := Blk.new e3
 have hA4 := hA3.alloc e4
 have hB4 := Blk.new e4
 have l23 := hA3.lt
 have l34 := hB4.lt
 have hs3 : w3.heap.size = w2.heap.size + 1 := by rw [e3]; exact Array.size_push _
 refine ⟨⟨hA4.ok 0 rfl, hA4.ok 1 rfl⟩, fun w5 e5 => ?_⟩
 have hA5 := hA4.all [brE q0, brE q1] rfl e5
 have hc45 : Ch (· = w2.heap.size) w4 w5 := Ch.sets e5 rfl
 have hB5 := hB4.keep hc45 (by omega)
 refine ⟨⟨hB5.ok 0 rfl, hB5.ok 1 rfl, hB5.ok 2 rfl, hB5.ok 3 rfl, hB5.ok 4 rfl, hB5.ok 5 rfl, hB5.ok 6 rfl, hB5.ok 7 rfl, hB5.ok 8 rfl, hB5.ok 9 rfl, hB5.ok 10 rfl, hB5.ok 11 rfl, hB5.ok 12 rfl, hB5.ok 13 rfl⟩, fun w6 e6 => ?_⟩
 have hc56 : Ch (· = w3.heap.size) w5 w6 := Ch.sets e6 rfl
 have hB6 := hB5.all (mdE q0.2 ++ mdE q1.2) rfl e6
 have hc26 : Ch Non w2 w6 := ((((Ch.alloc (F := Non) e3).andN (Ch.alloc e4))).trans hc45 (fun i hi he => by omega)).trans hc56 (fun i hi he => by omega)
 exact hK w6 hc26 (hA5.keep hc56 (by omega)) (hBr.keepN hc26) (by rw [← hs3]; exact hB6)
end Go.Proofs.YtkbikekbaboclaaGreat.Crew
