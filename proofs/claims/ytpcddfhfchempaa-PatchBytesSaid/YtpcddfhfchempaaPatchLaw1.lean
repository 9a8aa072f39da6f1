/- PatchRows's contract: of every base and all deeds the Go function answers true and leaves what was there; the conditions stand in each theorem. -/
import Derived.Test.YtpcddfhfchempaaPatch2
set_option linter.unusedVariables false
set_option linter.unusedSimpArgs false
namespace Go.Proofs.Ytpcddfhfchempaa.Patch
open Go Go.Proofs Go.Proofs.Ytpcddfhfchempaa.V Go.Proofs.Ytpcddfhfchempaa.Vc Go.Proofs.Ytpcddfhfchempaa.Pen Go.RowKit

set_option maxRecDepth 100000 in
theorem op_dat {w : World} {x : List Value} (hl : x.length = Try.prog.cellsOf t_patch_Op) (h : DatC Try.prog w t_patch_Op x) : ∃ y : OpD, x = opEnc y ∧ True := by
  obtain ⟨_, hf⟩ := h.struct Try.underlying126
  have h2 : Try.prog.cellsOf t_patch_Op = 4 := by kernel_rfl
  rw [h2] at hl
  match x, hl with
  | [a, b, c, d], _ =>
    have h0 : DatC Try.prog w t_int [a] := hf 0 _ rfl
    have h1 : DatC Try.prog w t_int [b] := hf 1 _ rfl
    have h2 : DatC Try.prog w t_int [c] := hf 2 _ rfl
    have h3 : DatC Try.prog w t_string [d] := hf 3 _ rfl
    obtain ⟨n0, e0, _⟩ := h0.int (k := .i64) (by kernel_rfl)
    obtain ⟨n1, e1, _⟩ := h1.int (k := .i64) (by kernel_rfl)
    obtain ⟨n2, e2, _⟩ := h2.int (k := .i64) (by kernel_rfl)
    obtain ⟨s, e3, _⟩ := h3.string (by kernel_rfl)
    injection e0 with e0 _
    injection e1 with e1 _
    injection e2 with e2 _
    injection e3 with e3 _
    subst e0; subst e1; subst e2; subst e3
    exact ⟨⟨n0, n1, n2, s⟩, rfl, trivial⟩
theorem flat_len (ys : List OpD) : (ys.map opEnc).flatten.length = ys.length * 4 := by
  induction ys with
  | nil => rfl
  | cons y r ih => rw [List.map_cons, List.flatten_cons, List.length_append, ih, List.length_cons]; simp [opEnc]; omega
theorem flat_one (ys : List OpD) : ∀ u ∈ (ys.map opEnc).flatten, u.oneCell' = true := by
  intro u hu
  rw [List.mem_flatten] at hu
  obtain ⟨l, hl, hul⟩ := hu
  obtain ⟨y, _, rfl⟩ := List.mem_map.1 hl
  simp only [opEnc, List.mem_cons, List.not_mem_nil, or_false] at hul
  rcases hul with rfl | rfl | rfl | rfl <;> rfl
section
variable {w : World} {o : Option Addr} {ys : List OpD} {G : Nat → Prop}
theorem great_spec (hx : Rd w o (ys.map opEnc).flatten G) (hl : ys.length ≤ 10000000000000) (c : Nat) : Calls Try.prog i_coadjutorlaw19_great #[.slice o ys.length c] w (Ret fun v w' => ∃ x : Bool, v = .bool x ∧ w' = w) := by
  refine coadjutorlaw19_great.calls _ _ _ ?_
  unfold coadjutorlaw19_great.vc
  refine ⟨fun n i k w' => w' = w ∧ ∃ j : Nat, i = j ∧ j ≤ ys.length ∧ k = ys.length - j, ⟨_, rfl, 0, rfl, Nat.zero_le _, rfl⟩, ?_⟩
  rintro jk n i k w' ⟨rfl, j, rfl, hj, rfl⟩
  refine ⟨fun hlt => ⟨fun _ => ?_, fun _ => ⟨_, rfl, rfl⟩⟩, fun _ => ⟨_, rfl, rfl⟩⟩
  have hlt : j < ys.length := by have := of_decide_eq_true hlt; omega
  exact ⟨⟨by omega, by omega⟩, ops_at hx hlt fun p hp => ⟨_, hp.2.2.2, ys.length - (j + 1), by omega, rfl, j + 1, by rw [wrap_id (by omega) (by omega)]; rfl, hlt, rfl⟩⟩
end
def ops0 : List OpD := [⟨1, 1, 2, ByteArray.empty⟩, ⟨2, 0, 0, ByteArray.mk #[120]⟩, ⟨3, 0, 0, ByteArray.mk #[1]⟩]
def ops1 : List OpD := [⟨2, 0, 0, ByteArray.mk #[120]⟩]
def ops2 : List OpD := [⟨1, 0, 2, ByteArray.empty⟩]
theorem awake_spec (w : World) : Calls Try.prog i_coadjutorlaw19_awake #[] w (Ret fun v w' => v = .bool true ∧ Ch Non w w') := by
  refine coadjutorlaw19_awake.calls ?_
  unfold coadjutorlaw19_awake.vc
  intro w1 e1
  have r1 : Rd w1 (some ⟨w.heap.size, 0, none⟩) (ops0.map opEnc).flatten (· = w.heap.size) := (Blk.new e1).rd
  have hC : Ch Non w w1 := Ch.alloc e1
  have sp := Apply_spec (ByteArray.mk #[97, 98, 99, 100]) (by decide) r1 (by decide) 3
  have p1 : applyL (ByteArray.mk #[97, 98, 99, 100]).data.toList ops0 [] = (0, [98, 99, 120, 98]) := by decide +kernel
  rw [p1] at sp
  refine step_call sp ?_
  rintro v w2 ⟨rfl, hc⟩
  have hC := hC.andN hc
  refine ⟨_, _, rfl, fun w3 e3 => ?_⟩
  have r3 : Rd w3 (some ⟨w2.heap.size, 0, none⟩) (ops1.map opEnc).flatten (· = w2.heap.size) := (Blk.new e3).rd
  have hC := hC.andN (Ch.alloc e3)
  have sp := Bytes_spec r3 (by decide) 1
  have p2 : bytesT ops1 = [1, 0, 0, 0, 2, 1, 0, 0, 0, 120] := by decide +kernel
  have p3 : bytesOk ops1 = true := by decide +kernel
  rw [p2, p3, if_pos rfl] at sp
  refine step_call sp ?_
  rintro v w4 ⟨rfl, hc⟩
  have hC := hC.andN hc
  refine ⟨_, _, rfl, fun w5 e5 => ?_⟩
  have r5 : Rd w5 (some ⟨w4.heap.size, 0, none⟩) (ops2.map opEnc).flatten (· = w4.heap.size) := (Blk.new e5).rd
  have hC := hC.andN (Ch.alloc e5)
  have sp := Apply_spec (ByteArray.mk #[97]) (by decide) r5 (by decide) 1
  have p4 : applyL (ByteArray.mk #[97]).data.toList ops2 [] = (1, []) := by decide +kernel
  rw [p4] at sp
  refine step_call sp ?_
  rintro v w6 ⟨rfl, hc⟩
  have hC := hC.andN hc
  have hs1 : ((str [98, 99, 120, 98]).toList == (ByteArray.mk #[98, 99, 120, 98]).toList) = true := str_beq _ _
  have hs2 : ((str [1, 0, 0, 0, 2, 1, 0, 0, 0, 120]).toList == (ByteArray.mk #[1, 0, 0, 0, 2, 1, 0, 0, 0, 120]).toList) = true := str_beq _ _
  refine ⟨_, _, rfl, iteT hs1 (iteT rfl (iteT hs2 (iteT rfl (iteT rfl ?_))))⟩
  have sp := Cost_spec (w := w6) (o := none) (ys := []) (G := fun _ => True) (Rd.nil _ _ _) (by decide) 0
  have p5 : (bytesT []).length = 4 := by decide +kernel
  rw [p5] at sp
  refine step_call sp ?_
  rintro v w7 ⟨rfl, hc⟩
  exact ⟨_, rfl, rfl, hC.andN hc⟩
section
variable {base : List UInt8}
theorem applyL_app (base : List UInt8) : ∀ (a b : List OpD) (acc : List UInt8), applyL base (a ++ b) acc = if (applyL base a acc).1 = 0 then applyL base b (applyL base a acc).2 else ((applyL base a acc).1, [])
  | [], b, acc => by simp [applyL]
  | y :: r, b, acc => by
    rw [List.cons_append, applyL, applyL]
    split
    · split
      · simp
      · exact applyL_app base r b _
    · simp
theorem applyL_err (base : List UInt8) : ∀ (b : List OpD) (acc : List UInt8), (applyL base b acc).1 ≠ 0 → (applyL base b acc).2 = []
  | [], acc, h => absurd rfl h
  | y :: r, acc, h => by
    rw [applyL] at h ⊢
    split
    · rename_i h1
      rw [if_pos h1] at h
      split
      · rfl
      · rename_i h2
        rw [if_neg h2] at h
        exact applyL_err base r _ h
    · rfl
theorem size_nonneg {y : OpD} : 0 ≤ sizeOp y := by unfold sizeOp; split <;> omega
theorem applyL_len (hb : base.length ≤ 1000000) : ∀ (b : List OpD) (acc : List UInt8), acc.length ≤ 8192 → (applyL base b acc).2.length ≤ 8192 ∧ ((applyL base b acc).1 = 0 → acc.length ≤ (applyL base b acc).2.length)
  | [], acc, h => by simp [applyL]; exact h
  | y :: r, acc, h => by
    rw [applyL]
    split
    · rename_i h1
      have g := (good_size hb h1).1
      split
      · simp
      · rename_i h2
        have hn := size_nonneg (y := y)
        have ih := applyL_len hb r (acc ++ ofOp y base) (by rw [List.length_append]; omega)
        rw [List.length_append] at ih
        exact ⟨ih.1, fun h => by have := ih.2 h; omega⟩
    · simp
theorem applyL_shift (hb : base.length ≤ 1000000) (x : List UInt8) : ∀ (b : List OpD) (acc : List UInt8), x.length + acc.length ≤ 8192 →
    ((applyL base b acc).1 = 0 → x.length + (applyL base b acc).2.length ≤ 8192 → applyL base b (x ++ acc) = (0, x ++ (applyL base b acc).2)) ∧
    ((applyL base b acc).1 ≠ 0 ∨ x.length + (applyL base b acc).2.length > 8192 → (applyL base b (x ++ acc)).1 ≠ 0 ∧ (applyL base b (x ++ acc)).2 = [])
  | [], acc, h => by
    simp only [applyL]
    exact ⟨fun _ _ => trivial, fun h2 => by rcases h2 with h2 | h2; · exact absurd rfl h2
                                            · omega⟩
  | y :: r, acc, h => by
    rw [applyL, applyL]
    by_cases h1 : goodOp base.length y = true
    · rw [if_pos h1, if_pos h1]
      have g := (good_size hb h1).1
      by_cases h2 : (acc.length : Int) + sizeOp y > 8192
      · rw [if_pos h2, if_pos (by rw [List.length_append]; omega)]
        exact ⟨fun h3 => by simp at h3, fun _ => ⟨by simp, rfl⟩⟩
      · rw [if_neg h2]
        by_cases h3 : ((x ++ acc).length : Int) + sizeOp y > 8192
        · rw [if_pos h3]
          rw [List.length_append] at h3
          have hl := applyL_len hb r (acc ++ ofOp y base) (by rw [List.length_append]; omega)
          rw [List.length_append] at hl
          exact ⟨fun h4 h5 => by have := hl.2 h4; omega, fun _ => ⟨by simp, rfl⟩⟩
        · rw [if_neg h3, List.append_assoc]
          rw [List.length_append] at h3
          exact applyL_shift hb x r (acc ++ ofOp y base) (by rw [List.length_append]; omega)
    · rw [if_neg h1, if_neg h1]
      exact ⟨fun h3 => by simp at h3, fun _ => ⟨by simp, rfl⟩⟩
end
theorem PatchRows_true (W : World) (base : ByteArray) (_ : base.size ≤ 140737488351232) (o1 : Option Addr) (n1 c1 : Nat) (h1 : DatC Try.prog W t_S_patch_Op [.slice o1 n1 c1]) (o2 : Option Addr) (n2 c2 : Nat) (h2 : DatC Try.prog W t_S_patch_Op [.slice o2 n2 c2]) :
    Calls Try.prog i_coadjutorlaw19_PatchRows #[.string base, .slice o1 n1 c1, .slice o2 n2 c2] W (Ret fun v w' => v = .bool true ∧ Ch Non W w') := by
  obtain ⟨o1', c1', av, hcs1, _, _, hm1, _, ha⟩ := h1.sliceOf (e := t_patch_Op) (enc := opEnc) (Q := fun _ => True) (by kernel_rfl) (fun x hl hd => op_dat hl hd)
  obtain ⟨o2', c2', bv, hcs2, _, _, hm2, _, hb⟩ := h2.sliceOf (e := t_patch_Op) (enc := opEnc) (Q := fun _ => True) (by kernel_rfl) (fun x hl hd => op_dat hl hd)
  injection hcs1 with hcs1
  injection hcs1 with q1 q2 q3
  subst q1; subst q2; subst q3
  injection hcs2 with hcs2
  injection hcs2 with q1 q2 q3
  subst q1; subst q2; subst q3
  have hby : Try.prog.bytesOf t_patch_Op = 40 := by kernel_rfl
  rw [hby] at hm1 hm2
  refine coadjutorlaw19_PatchRows.calls _ _ _ _ _ _ _ ?_
  unfold coadjutorlaw19_PatchRows.vc
  refine step_call (awake_spec W) ?_
  rintro v w1 ⟨rfl, hC⟩
  refine ⟨_, rfl, iteF rfl ⟨fun _ => ⟨rfl, hC⟩, fun hbs => ?_⟩⟩
  have hbs := of_decide_eq_false hbs
  have hbl : base.data.toList.length = base.size := by simp
  refine step_call (great_spec (ha.keepN hC) (by omega) c1) ?_
  rintro v w2 ⟨x1, rfl, rfl⟩
  refine ⟨_, rfl, fun _ => ⟨rfl, hC⟩, fun _ => ?_⟩
  refine step_call (great_spec (hb.keepN hC) (by omega) c2) ?_
  rintro v w3 ⟨x2, rfl, rfl⟩
  refine ⟨_, rfl, fun _ => ⟨rfl, hC⟩, fun _ => ⟨fun _ => ⟨rfl, hC⟩, fun ha10 => ⟨fun _ => ⟨rfl, hC⟩, fun hb10 => ?_⟩⟩⟩
  have ha10 := of_decide_eq_false ha10
  have hb10 := of_decide_eq_false hb10
  refine step_call (Apply_spec base (by omega) (ha.keepN hC) (by omega) c1) ?_
  rintro v w4 ⟨rfl, hc⟩
  have hC := hC.andN hc
  refine ⟨_, _, rfl, ?_⟩
  refine step_call (Apply_spec base (by omega) (hb.keepN hC) (by omega) c2) ?_
  rintro v w5 ⟨rfl, hc⟩
  have hC := hC.andN hc
  refine ⟨_, _, rfl, fun w6 e6 => ?_⟩
  have hg0 : Gr Non w5 w6 t_patch_Op 4 (some ⟨w5.heap.size, 0, none⟩) 0 0 [] := Gr.made0 (Ch.refl _ _) e6
  obtain ⟨A7, C7, w7, hr7, hg7, _⟩ := Gr.app (c2 := c1) (m := av.length) el_S_patch_Op hg0 t_S_patch_Op ((ha.keepN hC).keepN hg0.2) (flat_len av) (flat_one av) (by omega) (by omega)
  rw [Nat.zero_add, List.nil_append] at hg7
  rw [Nat.zero_add] at hr7
  obtain ⟨A8, C8, w8, hr8, hg8, _⟩ := Gr.app (c2 := c2) (m := bv.length) el_S_patch_Op hg7 t_S_patch_Op ((hb.keepN hC).keepN hg7.2) (flat_len bv) (flat_one bv) (by omega) (by omega)
  have hcat : (av.map opEnc).flatten ++ (bv.map opEnc).flatten = ((av ++ bv).map opEnc).flatten := by simp
  rw [hcat] at hg8
  refine ⟨A7, _, C7, w7, hr7, A8, _, C8, w8, hr8, ?_⟩
  have sp := Apply_spec base (by omega) hg8.rd (by simp; omega) C8
  rw [List.length_append] at sp
  refine step_call sp ?_
  rintro v w9 ⟨rfl, hc⟩
  have hC := (hC.andN hg8.2).andN hc
  refine ⟨_, _, rfl, ?_⟩
  have happ := applyL_app base.data.toList av bv []
  have hx := applyL_len (base := base.data.toList) (by omega) av [] (by simp)
  have hxe := applyL_err base.data.toList av []
  have hye := applyL_err base.data.toList bv []
  generalize applyL base.data.toList av [] = X at happ hx hxe ⊢
  have hsh := applyL_shift (base := base.data.toList) (by omega) X.2 bv [] (by simpa using hx.1)
  have hy := applyL_len (base := base.data.toList) (by omega) bv [] (by simp)
  rw [List.append_nil] at hsh
  generalize hZ : applyL base.data.toList (av ++ bv) [] = Z at happ ⊢
  generalize applyL base.data.toList bv [] = Y at hsh hy hye ⊢
  have hemp : ∀ {l : List UInt8}, l = [] → ((str l).toList == (ByteArray.mk #[]).toList) = true := fun h => by rw [emp_beq, str_size, h]; rfl
  refine ⟨fun he => ?_, fun he => ⟨fun hf => ?_, fun hf => ?_⟩⟩
  · have he : X.1 ≠ 0 := by simpa using he
    rw [if_neg he] at happ
    rw [happ]
    exact iteT (by simp) ⟨by rw [hemp rfl], hC⟩
  · have he : X.1 = 0 := by simpa using he
    have hf : Y.1 ≠ 0 := by simpa using hf
    rw [if_pos he] at happ
    obtain ⟨z1, z2⟩ := hsh.2 (.inl hf)
    rw [← happ] at z1 z2
    exact iteT (by simpa using z1) ⟨by rw [hemp z2], hC⟩
  · have he : X.1 = 0 := by simpa using he
    have hf : Y.1 = 0 := by simpa using hf
    rw [if_pos he] at happ
    rw [str_size, str_size, wrap_id (by omega) (by omega)]
    refine ⟨fun hgt => ?_, fun hle => ?_⟩
    · have hgt := of_decide_eq_true hgt
      obtain ⟨z1, z2⟩ := hsh.2 (.inr (by omega))
      rw [← happ] at z1 z2
      exact iteT (by simpa using z1) ⟨by rw [hemp z2], hC⟩
    · have hle := of_decide_eq_false hle
      have z := hsh.1 hf (by omega)
      rw [← happ] at z
      rw [z]
      refine iteT rfl ⟨by omega, ?_, hC⟩
      have hapd : str X.2 ++ str Y.2 = str (X.2 ++ Y.2) := by
        apply str_ext
        rw [str_data]
        simp [str]
      rw [hapd]; simp
end Go.Proofs.Ytpcddfhfchempaa.Patch
