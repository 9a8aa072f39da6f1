/- VecsTables's contract: of every table, all bytes and every place the Go function answers true and leaves what was there; the conditions stand in each theorem. -/
import Derived.Test.YtefidalhijpmdaaVecs3
import Derived.Test.YtefidalhijpmdaaVcVecs2
set_option linter.unusedVariables false
namespace Go.Proofs.Ytefidalhijpmdaa.Vecs
open Go Go.Proofs Go.Proofs.Ytefidalhijpmdaa.V Go.Proofs.Ytefidalhijpmdaa.Vc Go.Proofs.Ytefidalhijpmdaa.Num Go.RowKit

theorem bt_at {t : ByteArray} {i : Nat} (h : i < t.size) : bt t (i : Int) = ((t.data.toList.getD i 0).toNat : Int) := by
  unfold bt
  rw [Int.toNat_natCast]
  simp [Array.getD_eq_getD_getElem?, List.getD_eq_getElem?_getD]
theorem table_dat {w : World} {cs : List Value} (h : DatC Try.prog w t_vecs_Table cs) : ∃ (r c : Int) (o : Option Addr) (cap : Nat) (ds : List Int), cs = [.int .i64 r, .int .i64 c, .slice o ds.length cap] ∧ ds.length ≤ cap ∧ (∀ x ∈ ds, -128 ≤ x ∧ x ≤ 127) ∧ Rd w o (ds.map (.int .i8)) (fun _ => True) := by
  obtain ⟨hl, hf⟩ := h.struct Try.underlying55
  have h2 : Try.prog.cellsOf t_vecs_Table = 3 := by kernel_rfl
  rw [h2] at hl
  match cs, hl with
  | [x, y, z], _ =>
    have h0 : DatC Try.prog w 3 [x] := hf 0 _ rfl
    have h1 : DatC Try.prog w 3 [y] := hf 1 _ rfl
    have h2 : DatC Try.prog w t_S_int8 [z] := hf 2 _ rfl
    obtain ⟨r, e0, _⟩ := h0.int (k := .i64) (by kernel_rfl)
    obtain ⟨c, e1, _⟩ := h1.int (k := .i64) (by kernel_rfl)
    obtain ⟨o, cap, ds, e2, hc, _, _, hwf, hr⟩ := h2.ints (e := t_int8) (k := .i8) (by kernel_rfl) (by kernel_rfl)
    injection e0 with e0 _
    injection e1 with e1 _
    injection e2 with e2 _
    subst e0; subst e1; subst e2
    refine ⟨r, c, o, cap, ds, rfl, hc, fun x hx => ?_, hr⟩
    have := hwf x hx
    simp [Lit.wf] at this
    exact this
theorem Of4 (w : World) : Calls Try.prog i_vecs_Of #[.int .i64 2, .int .i64 2, .string (ByteArray.mk #[1, 2, 3, 4])] w (Ret fun v w' => ∃ (A : Option Addr) (C : Nat), v = .tuple #[.agg #[.int .i64 2, .int .i64 2, .slice A 4 C], .int .i64 0] ∧ Gr Non w w' t_int8 1 A 4 C (([1, 2, 3, 4] : List Int).map (.int .i8))) := by
  have sp := Of_spec w 2 2 (ByteArray.mk #[1, 2, 3, 4]) (by decide)
  have e1 : ofL 2 2 (ByteArray.mk #[1, 2, 3, 4]) = [1, 2, 3, 4] := by decide
  have e2 : goodB 2 2 (ByteArray.mk #[1, 2, 3, 4]).size = true := by decide
  have e3 : ofE 2 2 (ByteArray.mk #[1, 2, 3, 4]).size = 0 := by decide
  unfold OfR at sp
  rw [e1, e2, e3] at sp
  exact sp
theorem two_ints {w w1 : World} {x y : Int} (e1 : w1 = w.alloc (.cells #[.int .i64 x, .int .i64 y] t_int (0, 0))) : Rd w1 (some ⟨w.heap.size, 0, none⟩) (([x, y] : List Int).map (.int .i64)) (· = w.heap.size) := (Blk.new e1).rd
theorem awake_spec (w : World) : Calls Try.prog i_coadjutorlaw11_awake #[] w (Ret fun v w' => v = .bool true ∧ Ch Non w w') := by
  refine coadjutorlaw11_awake.calls ?_
  unfold coadjutorlaw11_awake.vc
  refine step_call (Of4 w) ?_
  rintro v w1 ⟨A, C, rfl, hg1⟩
  refine ⟨_, _, _, _, _, _, rfl, fun w2 e2 => ?_⟩
  have hB2 := Blk.new e2
  refine ⟨⟨hB2.ok 0 rfl, hB2.ok 1 rfl, hB2.ok 2 rfl⟩, fun w3 e3 => ?_⟩
  have hB3 : Blk w3 w1.heap.size [.int .i64 2, .int .i64 2, .slice A 4 C] 55 := ((hB2.set rfl).set rfl).set e3
  have hc13 : Ch Non w1 w3 := (Ch.alloc (F := Non) e2).trans (Ch.set3 (F := (· = w1.heap.size)) e3 rfl rfl rfl) (fun i hi he => by omega)
  have hg3 := hg1.keepN hc13
  generalize w1.heap.size = tb at hB3 ⊢
  clear hg1 hB2 e2 e3 hc13
  refine ⟨_, _, _, _, _, ⟨hB3.cell 0 rfl, hB3.cell 1 rfl, hB3.cell 2 rfl⟩, fun w4 e4 => ?_⟩
  have hc4 : Ch Non w3 w4 := Ch.alloc e4
  have hg4 := hg3.keepN hc4
  have hB4 := hB3.keepN hc4
  have hcap : 4 ≤ C := hg4.1.2.1
  have h8 : ∀ x ∈ ([1, 2, 3, 4] : List Int), -128 ≤ x ∧ x ≤ 127 := by decide
  have sp := Times_spec (ds := [1, 2, 3, 4]) (vs := [5, 6]) (cap := C) (cv := 2) hg4.rd hcap h8 (by decide) (two_ints e4) 2 2 0
  have p1 : timesT [1, 2, 3, 4] 2 2 [5, 6] 0 = [17, 39] := by decide +kernel
  have p2 : timesOk [1, 2, 3, 4] 2 2 [5, 6] = true := by decide
  rw [p1, p2] at sp
  refine step_call sp ?_
  rintro v w5 ⟨A5, C5, rfl, hg5⟩
  have hg4 := hg4.keepN hg5.2
  have hB5 := hB4.keepN hg5.2
  refine ⟨_, _, _, _, rfl, fun w6 e6 w7 e7 w8 e8 => ?_⟩
  have hc68 : Ch Non w6 w8 := (Ch.alloc e7).andN (Ch.alloc e8)
  have hc78 : Ch Non w7 w8 := Ch.alloc e8
  have hc58 : Ch Non w5 w8 := (Ch.alloc e6).andN hc68
  have r1 := (two_ints e6).keepN hc68
  have r2 := (two_ints e7).keepN hc78
  have r3 : Rd w8 (some ⟨w7.heap.size, 0, none⟩) (([(some ⟨w5.heap.size, 0, none⟩, 2, [1, 2]), (some ⟨w6.heap.size, 0, none⟩, 2, [3, 4])] : List RowD).map encR) (· = w7.heap.size) := (Blk.new e8).rd
  have hg4 := hg4.keepN hc58
  have hg5 := hg5.keepN hc58
  have hB8 := hB5.keepN hc58
  generalize w5.heap.size = b1 at r1 r3
  generalize w6.heap.size = b2 at r2 r3
  have sp := Plus_spec (G := fun _ => True) (cz := 2) r3 (fun z hz => by
    rcases List.mem_cons.1 hz with rfl | hz
    · exact ⟨r1.mono (fun _ _ _ => trivial), by simp⟩
    · rw [List.mem_singleton] at hz; subst hz; exact ⟨r2.mono (fun _ _ _ => trivial), by simp⟩) (by simp)
  have p3 : plusT [(some ⟨b1, 0, none⟩, 2, [1, 2]), (some ⟨b2, 0, none⟩, 2, [3, 4])] = [4, 6] := by rfl
  have p4 : sameL [(some ⟨b1, 0, none⟩, 2, [1, 2]), (some ⟨b2, 0, none⟩, 2, [3, 4])] = true := by rfl
  rw [p3, p4] at sp
  refine step_call sp ?_
  rintro v w9 ⟨A9, C9, rfl, hg9⟩
  have hg4 := hg4.keepN hg9.2
  have hg5 := hg5.keepN hg9.2
  have hB9 := hB8.keepN hg9.2
  refine ⟨_, _, _, _, rfl, iteT rfl (iteT rfl fun w10 e10 => ?_)⟩
  have hc : Ch Non w9 w10 := Ch.alloc e10
  refine step_call (ints_spec (xs := [17, 39]) (ys := [17, 39]) (hg5.keepN hc).rd (two_ints e10) (by decide)) ?_
  rintro v w11 ⟨rfl, hc11⟩
  have hc := hc.andN hc11
  have hg4 := hg4.keepN hc
  have hg9 := hg9.keepN hc
  have hB11 := hB9.keepN hc
  refine ⟨_, rfl, iteT (by simp) (iteT rfl fun w12 e12 => ?_)⟩
  have hc : Ch Non w11 w12 := Ch.alloc e12
  refine step_call (ints_spec (xs := [4, 6]) (ys := [4, 6]) (hg9.keepN hc).rd (two_ints e12) (by decide)) ?_
  rintro v w13 ⟨rfl, hc13⟩
  have hc := hc.andN hc13
  have hg4 := hg4.keepN hc
  have hB13 := hB11.keepN hc
  refine ⟨_, rfl, iteT (by simp) ⟨_, _, _, _, _, ⟨hB13.cell 0 rfl, hB13.cell 1 rfl, hB13.cell 2 rfl⟩, ?_⟩⟩
  have sp := Row_spec (ds := [1, 2, 3, 4]) (cap := C) hg4.rd hcap h8 (by decide) 2 2 1
  have p5 : rowT [1, 2, 3, 4] 2 2 1 = [3, 4] := by decide
  rw [p5] at sp
  refine step_call sp ?_
  rintro v w14 ⟨A14, C14, rfl, hg14⟩
  refine ⟨_, _, _, rfl, fun w15 e15 => ?_⟩
  have hc : Ch Non w14 w15 := Ch.alloc e15
  refine step_call (ints_spec (xs := [3, 4]) (ys := [3, 4]) (hg14.keepN hc).rd (two_ints e15) (by decide)) ?_
  rintro v w16 ⟨rfl, hc16⟩
  have hc := (hg14.2.andN hc).andN hc16
  have hB16 := hB13.keepN hc
  refine ⟨_, rfl, iteT (by simp) ⟨_, _, _, _, _, ⟨hB16.cell 0 rfl, hB16.cell 1 rfl, hB16.cell 2 rfl⟩, ?_⟩⟩
  refine step_call (Good_spec w16 2 2 A 4 C) ?_
  rintro v w17 ⟨rfl, hc17⟩
  exact ⟨_, rfl, by rw [show goodB 2 2 4 = true by decide], (hg4.2.andN hc).andN hc17⟩
theorem ofBad {r c : Int} (s : ByteArray) (h : ¬ (1 ≤ r ∧ r ≤ 64 ∧ 1 ≤ c ∧ c ≤ 64)) : goodB r c s.size = false ∧ ofE r c s.size = 1 ∧ ofL r c s = [] := by
  have hg : goodB r c s.size = false := decide_eq_false (fun h2 => h ⟨h2.1, h2.2.1, h2.2.2.1, h2.2.2.2.1⟩)
  refine ⟨hg, ?_, ?_⟩
  · unfold ofE; rw [hg, if_neg Bool.false_ne_true, if_neg h]
  · unfold ofL; rw [hg]; rfl
theorem ofForm {r c : Int} (s : ByteArray) (h : 1 ≤ r ∧ r ≤ 64 ∧ 1 ≤ c ∧ c ≤ 64) (hn : (s.size : Int) ≠ r * c) : goodB r c s.size = false ∧ ofE r c s.size = 5 ∧ ofL r c s = [] := by
  have hg : goodB r c s.size = false := decide_eq_false (fun h2 => hn h2.2.2.2.2)
  refine ⟨hg, ?_, ?_⟩
  · unfold ofE; rw [hg, if_neg Bool.false_ne_true, if_pos h]
  · unfold ofL; rw [hg]; rfl
theorem ofOk {r c : Int} (s : ByteArray) (h : 1 ≤ r ∧ r ≤ 64 ∧ 1 ≤ c ∧ c ≤ 64) (hn : (s.size : Int) = r * c) : goodB r c s.size = true ∧ ofE r c s.size = 0 ∧ ofL r c s = numsB s := by
  have hg : goodB r c s.size = true := decide_eq_true ⟨h.1, h.2.1, h.2.2.1, h.2.2.2, hn⟩
  refine ⟨hg, ?_, ?_⟩
  · unfold ofE; rw [hg, if_pos rfl]
  · unfold ofL; rw [hg]; rfl
theorem VecsTables_true (W : World) (cs : List Value) (h0 : DatC Try.prog W t_vecs_Table cs) (s : ByteArray) (_ : s.size ≤ 140737488351232) (at' : Int) (_ : (Lit.int .i64 at').wf = true) :
    Calls Try.prog i_coadjutorlaw11_VecsTables #[.agg cs.toArray, .string s, .int .i64 at'] W (Ret fun v w' => v = .bool true ∧ Ch Non W w') := by
  obtain ⟨r, c, o, cap, ds, rfl, hcap, h8, hd⟩ := table_dat h0
  refine coadjutorlaw11_VecsTables.calls _ _ _ _ _ _ _ ?_
  unfold coadjutorlaw11_VecsTables.vc
  intro w1 e1
  have hB := Blk.new e1
  have hC : Ch Non W w1 := Ch.alloc e1
  generalize W.heap.size = tb at hB ⊢
  have hB : Blk w1 tb [.int .i64 r, .int .i64 c, .slice o ds.length cap] 55 := hB
  refine step_call (awake_spec w1) ?_
  rintro v w2 ⟨rfl, hc⟩
  have hB := hB.keepN hc
  have hC := hC.andN hc
  refine ⟨_, rfl, iteF rfl ⟨_, _, _, hB.cell 2 rfl, fun _ => ⟨rfl, hC⟩, fun hl => ⟨fun _ => ⟨rfl, hC⟩, fun hs => ⟨_, hB.cell 0 rfl, _, hB.cell 1 rfl, _, _, _, hB.cell 2 rfl, ?_⟩⟩⟩⟩
  have hl := of_decide_eq_false hl
  have hs := of_decide_eq_false hs
  refine step_call (rGood_spec w2 r c ds.length) ?_
  rintro v w3 ⟨rfl, rfl⟩
  refine ⟨_, rfl, _, _, _, _, _, ⟨hB.cell 0 rfl, hB.cell 1 rfl, hB.cell 2 rfl⟩, ?_⟩
  refine step_call (Bytes_spec (hd.keepN hC) (by omega) r c cap) ?_
  rintro v w4 ⟨rfl, hc⟩
  have hB := hB.keepN hc
  have hC := hC.andN hc
  refine ⟨_, rfl, _, _, _, _, _, ⟨hB.cell 0 rfl, hB.cell 1 rfl, hB.cell 2 rfl⟩, ?_⟩
  refine step_call (Good_spec w4 r c o ds.length cap) ?_
  rintro v w5 ⟨rfl, hc⟩
  have hB := hB.keepN hc
  have hC := hC.andN hc
  refine ⟨_, rfl, iteF (by simp) ⟨_, _, _, hB.cell 2 rfl, iteF (by rw [bytesT_size]; simp) ?_⟩⟩
  have hsz := bytesT_size ds
  refine ⟨fun i k w' => Ch Non w5 w' ∧ ∃ j : Nat, i = j ∧ j ≤ ds.length ∧ k = ds.length - j, ⟨_, Ch.refl _ _, 0, rfl, Nat.zero_le _, rfl⟩, ?_⟩
  rintro jk i k w6 ⟨hc6, j, rfl, hj, rfl⟩
  refine ⟨fun hlt => ?_, fun hge => ?_⟩
  · have hlt : j < ds.length := by have := of_decide_eq_true hlt; omega
    refine ⟨fun w' => Ch Non w5 w', fun w7 e7 => ⟨hc6.andN (Ch.drew e7), ⟨by omega, by omega⟩, _, _, _, fun w8 h8 => (hB.keepN h8).cell 2 rfl, ⟨by omega, by omega⟩, Rd.keeps (j := j) (S := fun w' => Ch Non w5 w') (fun w2 h2 => (hd.keepN hC).keepN h2) hc6 hlt fun p hp => ⟨_, fun w' h => by rw [toNat_mul_one]; exact hp w' h, iteF ?_ ⟨ds.length - (j + 1), by omega, hc6.andN (Ch.drew e7), j + 1, by rw [wrap_id (by omega) (by omega)]; rfl, hlt, rfl⟩⟩⟩⟩
    have hv := toB_val ds[j]
    unfold u8v at hv
    injection hv with _ hv
    rw [bt_at (by omega), ← hv]
    have : (bytesT ds).data.toList.getD j 0 = toB ds[j] := by unfold bytesT; simp [List.getD_eq_getElem?_getD, hlt]
    rw [this]; simp
  have hB := hB.keepN hc6
  have hC := hC.andN hc6
  clear hc6 hge hj
  refine ⟨_, _, _, _, _, ⟨hB.cell 0 rfl, hB.cell 1 rfl, hB.cell 2 rfl⟩, ?_⟩
  refine step_call (Row_spec (hd.keepN hC) hcap h8 (by omega) r c at') ?_
  rintro v w10 ⟨A, C, rfl, hg⟩
  have hB := hB.keepN hg.2
  have hC := hC.andN hg.2
  have none_row : (goodB r c ds.length && decide (0 ≤ at' ∧ at' < r)) = false → rowT ds r c at' = [] := fun h => by unfold rowT; rw [h]; rfl
  refine ⟨_, _, _, rfl, fun w' => Ch Non w10 w', ⟨fun h => ?_, fun hb => ⟨fun h => ?_, fun ha => ⟨_, hB.cell 0 rfl, fun h => ?_, fun hr => ⟨_, hB.cell 1 rfl, ?_⟩⟩⟩⟩, ?_⟩
  · exact iteF (by rw [none_row (by rw [show goodB r c ds.length = false by simpa using h]; rfl)]; rfl) (Ch.refl _ _)
  · exact iteF (by rw [none_row (by rw [decide_eq_false (show ¬ (0 ≤ at' ∧ at' < r) by have := of_decide_eq_true h; omega), Bool.and_false])]; rfl) (Ch.refl _ _)
  · exact iteF (by rw [none_row (by rw [decide_eq_false (show ¬ (0 ≤ at' ∧ at' < r) by have := of_decide_eq_true h; omega), Bool.and_false])]; rfl) (Ch.refl _ _)
  · have hb : goodB r c ds.length = true := by simpa using hb
    have hgb := hb
    have ha := of_decide_eq_false ha
    have hr := of_decide_eq_false hr
    obtain ⟨R, CC, rfl, rfl, r1, r2, c1, c2, hn⟩ := goodB_nat hb
    obtain ⟨i, rfl⟩ : ∃ i : Nat, at' = i := ⟨at'.toNat, by omega⟩
    have hi : i < R := by omega
    have hrow : rowT ds (R : Int) (CC : Int) (i : Int) = rowAt ds CC i := by
      unfold rowT; rw [hgb, decide_eq_true (by omega)]; rfl
    rw [hrow] at hg ⊢
    have hM : (rowAt ds CC i).length = CC := rowAt_len hn hi
    have hle : (i + 1) * CC ≤ R * CC := Nat.mul_le_mul_right _ hi
    have hsu : (i + 1) * CC = i * CC + CC := Nat.succ_mul i CC
    have hMi : ∀ (m : Nat) (h : m < (rowAt ds CC i).length) (h1 : i * CC + m < ds.length), (rowAt ds CC i)[m] = ds[i * CC + m] := fun m h h1 => by simp [rowAt]
    generalize rowAt ds CC i = M at hM hMi hg ⊢
    refine iteF (by rw [hM]; simp) ⟨fun x k w' => Ch Non w10 w' ∧ ∃ m : Nat, x = m ∧ m ≤ CC ∧ k = CC - m, ⟨_, Ch.refl _ _, 0, rfl, Nat.zero_le _, rfl⟩, ?_⟩
    rintro jk x k w11 ⟨hc11, m, rfl, hm, rfl⟩
    refine ⟨_, (hB.keepN hc11).cell 1 rfl, fun hlt => ?_, fun _ => hc11⟩
    have hlt : m < CC := by have := of_decide_eq_true hlt; omega
    have hlt2 : m < M.length := by omega
    have hidx : IntKind.i64.wrap (IntKind.i64.wrap ((i : Int) * (CC : Int)) + (m : Int)) = ((i * CC + m : Nat) : Int) := by
      rw [← Int.natCast_mul, wrap_id (x := ((i * CC : Nat) : Int)) (by omega) (by omega), wrap_id (by omega) (by omega)]; omega
    have hix : i * CC + m < ds.length := by omega
    have h8' := h8 _ (List.getElem_mem hix)
    refine ⟨fun w' => Ch Non w10 w', fun w12 e12 => ⟨hc11.andN (Ch.drew e12), ⟨by omega, by omega⟩, Rd.keeps (j := m) (S := fun w' => Ch Non w10 w') (fun w2 h2 => hg.rd.keepN h2) hc11 hlt2 fun p hp => ⟨_, fun w' h => by rw [toNat_mul_one]; exact hp w' h,
      _, _, _, fun w14 h14 => (hB.keepN h14).cell 2 rfl, _, fun w14 h14 => (hB.keepN h14).cell 1 rfl, ?_⟩⟩⟩
    rw [hidx, Int.toNat_natCast, Nat.mul_one]
    refine ⟨⟨by omega, by omega⟩, Rd.keeps (j := i * CC + m) (S := fun w' => Ch Non w10 w') (fun w2 h2 => (hd.keepN hC).keepN h2) hc11 hix fun p2 hp2 => ⟨_, hp2, iteF ?_ ⟨CC - (m + 1), by omega, hc11.andN (Ch.drew e12), m + 1, by rw [wrap_id (by omega) (by omega)]; rfl, hlt, rfl⟩⟩⟩
    rw [wrap_id (by omega) (by omega), hMi m hlt2 hix]; simp
  rintro jk w17 hc17
  have hB := hB.keepN hc17
  have hC := hC.andN hc17
  clear hg hc17 none_row
  refine ⟨_, hB.cell 0 rfl, _, hB.cell 1 rfl, ?_⟩
  refine step_call (Of_spec w17 r c s (by omega)) ?_
  rintro v w18 ⟨A, C, rfl, hg⟩
  have hB := hB.keepN hg.2
  have hC := hC.andN hg.2
  refine ⟨_, _, _, _, _, _, rfl, fun w19 e19 => ?_⟩
  have hU := Blk.new e19
  have htb := hB.lt
  have hB := hB.alloc e19
  have htu : tb ≠ w18.heap.size := by omega
  refine ⟨⟨hU.ok 0 rfl, hU.ok 1 rfl, hU.ok 2 rfl⟩, fun w20 e20 => ?_⟩
  have hU : Blk w20 w18.heap.size [.int .i64 (if goodB r c s.size then r else 0), .int .i64 (if goodB r c s.size then c else 0), .slice A (ofL r c s).length C] 55 := ((hU.set rfl).set rfl).set e20
  have hcu : Ch (· = w18.heap.size) w19 w20 := Ch.set3 e20 rfl rfl rfl
  have hB := hB.keep hcu htu
  have hc20 : Ch Non w18 w20 := (Ch.alloc (F := Non) e19).trans hcu (fun i hi he => by omega)
  have hg := hg.keepN hc20
  have hC := hC.andN hc20
  generalize w18.heap.size = ub at hU ⊢
  clear hcu hc20 e19 e20 htu htb
  refine ⟨_, hB.cell 0 rfl, fun h => ?_, fun h1 => ⟨_, hB.cell 0 rfl, fun h => ?_, fun h2 => ⟨_, hB.cell 1 rfl, fun h => ?_, fun h3 => ⟨_, hB.cell 1 rfl, fun h => ?_, fun h4 => ⟨_, hB.cell 0 rfl, _, hB.cell 1 rfl, ?_⟩⟩⟩⟩⟩
  · have hside : ¬ (1 ≤ r ∧ r ≤ 64 ∧ 1 ≤ c ∧ c ≤ 64) := by have := of_decide_eq_true h; omega
    obtain ⟨g1, g2, g3⟩ := ofBad s hside
    rw [g2]
    refine iteT rfl ⟨_, _, _, hU.cell 2 rfl, ?_, hC⟩
    rw [g3]; rfl
  · have hside : ¬ (1 ≤ r ∧ r ≤ 64 ∧ 1 ≤ c ∧ c ≤ 64) := by have := of_decide_eq_true h; omega
    obtain ⟨g1, g2, g3⟩ := ofBad s hside
    rw [g2]
    refine iteT rfl ⟨_, _, _, hU.cell 2 rfl, ?_, hC⟩
    rw [g3]; rfl
  · have hside : ¬ (1 ≤ r ∧ r ≤ 64 ∧ 1 ≤ c ∧ c ≤ 64) := by have := of_decide_eq_true h; omega
    obtain ⟨g1, g2, g3⟩ := ofBad s hside
    rw [g2]
    refine iteT rfl ⟨_, _, _, hU.cell 2 rfl, ?_, hC⟩
    rw [g3]; rfl
  · have hside : ¬ (1 ≤ r ∧ r ≤ 64 ∧ 1 ≤ c ∧ c ≤ 64) := by have := of_decide_eq_true h; omega
    obtain ⟨g1, g2, g3⟩ := ofBad s hside
    rw [g2]
    refine iteT rfl ⟨_, _, _, hU.cell 2 rfl, ?_, hC⟩
    rw [g3]; rfl
  have h1 := of_decide_eq_false h1
  have h2 := of_decide_eq_false h2
  have h3 := of_decide_eq_false h3
  have h4 := of_decide_eq_false h4
  have hside : 1 ≤ r ∧ r ≤ 64 ∧ 1 ≤ c ∧ c ≤ 64 := by omega
  have hm := mul64 hside.1 hside.2.1 hside.2.2.1 hside.2.2.2
  rw [wrap_id (by omega) (by omega)]
  refine ⟨fun hne => ?_, fun heq => ?_⟩
  · have hne : (s.size : Int) ≠ r * c := by simpa using hne
    obtain ⟨g1, g2, g3⟩ := ofForm s hside hne
    rw [g2]
    refine iteT rfl ⟨_, _, _, hU.cell 2 rfl, iteT (by rw [g3]; rfl) ⟨_, hU.cell 0 rfl, ?_, hC⟩⟩
    rw [g1]; rfl
  · have heq : (s.size : Int) = r * c := by simpa using heq
    obtain ⟨g1, g2, g3⟩ := ofOk s hside heq
    rw [g1, if_pos rfl, if_pos rfl, g3] at hU
    rw [g3] at hg
    rw [g2]
    refine iteT rfl ⟨_, hU.cell 0 rfl, _, hB.cell 0 rfl, iteT (by simp) ⟨_, hU.cell 1 rfl, _, hB.cell 1 rfl, iteT (by simp) ⟨_, _, _, _, _, ⟨hU.cell 0 rfl, hU.cell 1 rfl, hU.cell 2 rfl⟩, ?_⟩⟩⟩
    have hnl := numsB_len s
    refine step_call (Bytes_spec hg.rd (by omega) r c C) ?_
    rintro v w21 ⟨rfl, hc21⟩
    have hU := hU.keepN hc21
    rw [bytes_nums]
    refine ⟨_, rfl, iteT (by simp) ⟨_, _, _, _, _, ⟨hU.cell 0 rfl, hU.cell 1 rfl, hU.cell 2 rfl⟩, ?_⟩⟩
    refine step_call (Good_spec w21 r c A _ C) ?_
    rintro v w22 ⟨rfl, hc22⟩
    exact ⟨_, rfl, by rw [hnl, g1], (hC.andN hc21).andN hc22⟩
end Go.Proofs.Ytefidalhijpmdaa.Vecs
