/- For every pen and every eye, none too: what layer 3's functions write and read of sums; the conditions stand in each theorem. -/
import Derived.Test.YtfecfdhigkehgaaPenRef
import Derived.Test.YtfecfdhigkehgaaDat
import Derived.Test.YtfecfdhigkehgaaVcPenD
import Derived.Lib.LazyBuf
set_option linter.unusedVariables false
set_option linter.unusedSimpArgs false
set_option maxRecDepth 100000
namespace Go.Proofs.Ytfecfdhigkehgaa.Pen
open Go Go.Proofs Go.Proofs.Ytfecfdhigkehgaa.V Go.Proofs.Ytfecfdhigkehgaa.Vc Go.RowKit

/-- A sum. -/
abbrev Dig := {d : List UInt8 // d.length = 32}
def digE (d : Dig) : List Value := d.1.map u8v
theorem digE_len (d : Dig) : (digE d).length = 32 := by unfold digE; rw [List.length_map]; exact d.2
theorem cons_of {α : Type} {n : Nat} {l : List α} (h : l.length = n + 1) : ∃ a r, l = a :: r ∧ r.length = n := by
  cases l with
  | nil => simp at h
  | cons a r => exact ⟨a, r, rfl, by simpa using h⟩
theorem dig32 {d : List UInt8} (h : d.length = 32) : ∃ (d0 d1 d2 d3 d4 d5 d6 d7 d8 d9 d10 d11 d12 d13 d14 d15 d16 d17 d18 d19 d20 d21 d22 d23 d24 d25 d26 d27 d28 d29 d30 d31 : UInt8), d = [d0, d1, d2, d3, d4, d5, d6, d7, d8, d9, d10, d11, d12, d13, d14, d15, d16, d17, d18, d19, d20, d21, d22, d23, d24, d25, d26, d27, d28, d29, d30, d31] := by
  obtain ⟨d0, r0, rfl, h0⟩ := cons_of h
  obtain ⟨d1, r1, rfl, h1⟩ := cons_of h0
  obtain ⟨d2, r2, rfl, h2⟩ := cons_of h1
  obtain ⟨d3, r3, rfl, h3⟩ := cons_of h2
  obtain ⟨d4, r4, rfl, h4⟩ := cons_of h3
  obtain ⟨d5, r5, rfl, h5⟩ := cons_of h4
  obtain ⟨d6, r6, rfl, h6⟩ := cons_of h5
  obtain ⟨d7, r7, rfl, h7⟩ := cons_of h6
  obtain ⟨d8, r8, rfl, h8⟩ := cons_of h7
  obtain ⟨d9, r9, rfl, h9⟩ := cons_of h8
  obtain ⟨d10, r10, rfl, h10⟩ := cons_of h9
  obtain ⟨d11, r11, rfl, h11⟩ := cons_of h10
  obtain ⟨d12, r12, rfl, h12⟩ := cons_of h11
  obtain ⟨d13, r13, rfl, h13⟩ := cons_of h12
  obtain ⟨d14, r14, rfl, h14⟩ := cons_of h13
  obtain ⟨d15, r15, rfl, h15⟩ := cons_of h14
  obtain ⟨d16, r16, rfl, h16⟩ := cons_of h15
  obtain ⟨d17, r17, rfl, h17⟩ := cons_of h16
  obtain ⟨d18, r18, rfl, h18⟩ := cons_of h17
  obtain ⟨d19, r19, rfl, h19⟩ := cons_of h18
  obtain ⟨d20, r20, rfl, h20⟩ := cons_of h19
  obtain ⟨d21, r21, rfl, h21⟩ := cons_of h20
  obtain ⟨d22, r22, rfl, h22⟩ := cons_of h21
  obtain ⟨d23, r23, rfl, h23⟩ := cons_of h22
  obtain ⟨d24, r24, rfl, h24⟩ := cons_of h23
  obtain ⟨d25, r25, rfl, h25⟩ := cons_of h24
  obtain ⟨d26, r26, rfl, h26⟩ := cons_of h25
  obtain ⟨d27, r27, rfl, h27⟩ := cons_of h26
  obtain ⟨d28, r28, rfl, h28⟩ := cons_of h27
  obtain ⟨d29, r29, rfl, h29⟩ := cons_of h28
  obtain ⟨d30, r30, rfl, h30⟩ := cons_of h29
  obtain ⟨d31, r31, rfl, h31⟩ := cons_of h30
  obtain rfl := List.length_eq_zero_iff.1 h31
  exact ⟨d0, d1, d2, d3, d4, d5, d6, d7, d8, d9, d10, d11, d12, d13, d14, d15, d16, d17, d18, d19, d20, d21, d22, d23, d24, d25, d26, d27, d28, d29, d30, d31, rfl⟩
theorem at0 (a : Addr) : (if 32 = 0 then a else a.add (0 * 1)) = a := by rw [if_neg (by decide), Nat.zero_mul, add_none]
section
variable {w : World} {b e : Nat} {bad : Bool} {bs : List UInt8} {F G : Nat → Prop} {o : Option Addr} {ds : List Dig} {st : St}
def digsL (ds : List Dig) : List UInt8 := (ds.map (·.1)).flatten
theorem digsL_len (ds : List Dig) : (digsL ds).length = 32 * ds.length := by
  unfold digsL
  induction ds with
  | nil => rfl
  | cons d r ih => rw [List.map_cons, List.flatten_cons, List.length_append, ih, d.2, List.length_cons]; omega
theorem digsL_snoc (ds : List Dig) (d : Dig) : digsL (ds ++ [d]) = digsL ds ++ d.1 := by simp [digsL]
theorem PenDigest_spec (h : PenR w b bad bs F) (hF : ∀ i, F i → i < w.heap.size) (hr : Rd w o (ds.map digE).flatten G) (hG : ∀ i, G i → i < w.heap.size ∧ ¬ F i) (hl : bs.length + 32 * ds.length < 1000000000) (c : Nat) :
    Calls Try.prog i_pen_Pen_Digest #[.pointer (some ⟨b, 0, none⟩), .slice o ds.length c] w (Ret fun v w' => v = .tuple #[] ∧ PenR w' b bad (bs ++ digsL ds) (Ext F w w') ∧ Ch F w w') := by
  refine pen_Pen_Digest.calls _ _ _ _ ?_
  unfold pen_Pen_Digest.vc
  refine ⟨fun i k w' => ∃ j : Nat, i = j ∧ j ≤ ds.length ∧ k = ds.length - j ∧ PenR w' b bad (bs ++ digsL (ds.take j)) (Ext F w w') ∧ Ch F w w', ⟨_, 0, rfl, Nat.zero_le _, rfl, by simpa [digsL] using Bld.start h, Ch.refl _ _⟩, ?_⟩
  rintro jk i k w1 ⟨j, rfl, hj, rfl, hp, hc⟩
  refine ⟨fun hlt => ?_, fun hge => ?_⟩
  · have hlt : j < ds.length := by have := of_decide_eq_true hlt; omega
    have hrd := hr.keep hc (fun i _ hGi hFi => (hG i hGi).2 hFi)
    have hsn := take_snoc ds j hlt
    obtain ⟨p, rfl, _, _, hcell⟩ := hrd.elem (sz := 32) digE_len (by omega) hlt
    obtain ⟨d0, d1, d2, d3, d4, d5, d6, d7, d8, d9, d10, d11, d12, d13, d14, d15, d16, d17, d18, d19, d20, d21, d22, d23, d24, d25, d26, d27, d28, d29, d30, d31, hd⟩ := dig32 ds[j].2
    have hde : digE ds[j] = [u8v d0, u8v d1, u8v d2, u8v d3, u8v d4, u8v d5, u8v d6, u8v d7, u8v d8, u8v d9, u8v d10, u8v d11, u8v d12, u8v d13, u8v d14, u8v d15, u8v d16, u8v d17, u8v d18, u8v d19, u8v d20, u8v d21, u8v d22, u8v d23, u8v d24, u8v d25, u8v d26, u8v d27, u8v d28, u8v d29, u8v d30, u8v d31] := by unfold digE; rw [hd]; rfl
    rw [hde] at hcell
    rw [← Int.toNat_natCast j] at hcell
    have h0 := hcell 0 _ rfl
    rw [add_none] at h0
    refine ⟨⟨by omega, by omega⟩, ?_⟩
    show ∃ _, _
    refine ⟨_, _, _, _, _, _, _, _, _, _, _, _, _, _, _, _, _, _, _, _, _, _, _, _, _, _, _, _, _, _, _, _, ⟨h0, hcell 1 _ rfl, hcell 2 _ rfl, hcell 3 _ rfl, hcell 4 _ rfl, hcell 5 _ rfl, hcell 6 _ rfl, hcell 7 _ rfl, hcell 8 _ rfl, hcell 9 _ rfl, hcell 10 _ rfl, hcell 11 _ rfl, hcell 12 _ rfl, hcell 13 _ rfl, hcell 14 _ rfl, hcell 15 _ rfl, hcell 16 _ rfl, hcell 17 _ rfl, hcell 18 _ rfl, hcell 19 _ rfl, hcell 20 _ rfl, hcell 21 _ rfl, hcell 22 _ rfl, hcell 23 _ rfl, hcell 24 _ rfl, hcell 25 _ rfl, hcell 26 _ rfl, hcell 27 _ rfl, hcell 28 _ rfl, hcell 29 _ rfl, hcell 30 _ rfl, hcell 31 _ rfl⟩, fun w2 e2 => ?_⟩
    have hO2 := Blk.new e2
    refine ⟨⟨hO2.ok 0 rfl, hO2.ok 1 rfl, hO2.ok 2 rfl, hO2.ok 3 rfl, hO2.ok 4 rfl, hO2.ok 5 rfl, hO2.ok 6 rfl, hO2.ok 7 rfl, hO2.ok 8 rfl, hO2.ok 9 rfl, hO2.ok 10 rfl, hO2.ok 11 rfl, hO2.ok 12 rfl, hO2.ok 13 rfl, hO2.ok 14 rfl, hO2.ok 15 rfl, hO2.ok 16 rfl, hO2.ok 17 rfl, hO2.ok 18 rfl, hO2.ok 19 rfl, hO2.ok 20 rfl, hO2.ok 21 rfl, hO2.ok 22 rfl, hO2.ok 23 rfl, hO2.ok 24 rfl, hO2.ok 25 rfl, hO2.ok 26 rfl, hO2.ok 27 rfl, hO2.ok 28 rfl, hO2.ok 29 rfl, hO2.ok 30 rfl, hO2.ok 31 rfl⟩, fun w3 e3 => ?_⟩
    have e4 : w3 = w2.setCells w1.heap.size 0 [u8v d0, u8v d1, u8v d2, u8v d3, u8v d4, u8v d5, u8v d6, u8v d7, u8v d8, u8v d9, u8v d10, u8v d11, u8v d12, u8v d13, u8v d14, u8v d15, u8v d16, u8v d17, u8v d18, u8v d19, u8v d20, u8v d21, u8v d22, u8v d23, u8v d24, u8v d25, u8v d26, u8v d27, u8v d28, u8v d29, u8v d30, u8v d31] := e3
    have hO3 := hO2.all [u8v d0, u8v d1, u8v d2, u8v d3, u8v d4, u8v d5, u8v d6, u8v d7, u8v d8, u8v d9, u8v d10, u8v d11, u8v d12, u8v d13, u8v d14, u8v d15, u8v d16, u8v d17, u8v d18, u8v d19, u8v d20, u8v d21, u8v d22, u8v d23, u8v d24, u8v d25, u8v d26, u8v d27, u8v d28, u8v d29, u8v d30, u8v d31] rfl e4
    have hc13 : Ch Non w1 w3 := (Ch.alloc (F := Non) e2).trans (Ch.sets (F := (· = w1.heap.size)) e4 rfl) (fun i hi he => by omega)
    clear e2 e3 e4 hO2 hcell h0
    have hrd3 : Rd w3 (some ⟨w1.heap.size, 0, none⟩) (([d0, d1, d2, d3, d4, d5, d6, d7, d8, d9, d10, d11, d12, d13, d14, d15, d16, d17, d18, d19, d20, d21, d22, d23, d24, d25, d26, d27, d28, d29, d30, d31] : List UInt8).map u8v) (· = w1.heap.size) := hO3.rd
    obtain ⟨hp3, hcc3⟩ := Bld.goN hp hc hc13
    have hb3 : b < w1.heap.size := hp.lt
    have hlen : (bs ++ digsL (ds.take j)).length ≤ bs.length + 32 * j := by rw [List.length_append, digsL_len, List.length_take]; omega
    have sp := PenByte_spec (c := 32) hp3 hrd3 (fun i hi => by omega) (by rw [← hd, ds[j].2]; omega)
    rw [at0]
    refine step_call sp ?_
    rintro v w4 ⟨rfl, hp4, hc4⟩
    obtain ⟨hp4, hcc4⟩ := Bld.go hcc3 hp4 hc4
    refine ⟨rfl, ds.length - (j + 1), by omega, j + 1, by rw [wrap_id (by omega) (by omega)]; rfl, hlt, rfl, ?_, hcc4⟩
    rw [hsn, digsL_snoc, hd, ← List.append_assoc]
    exact hp4
  · have : j = ds.length := by have := of_decide_eq_false hge; omega
    subst this
    rw [List.take_length] at hp
    exact ⟨rfl, hp, hc⟩
/-- What is read as a sum: nothing but zeros, where there isn't one. -/
def digL (st : St) : List UInt8 := (takeE st 32).1.getD (List.replicate 32 0)
theorem digL_len (st : St) : (digL st).length = 32 := by
  unfold digL takeE
  split
  · simp
  · simp; omega
theorem digL_of (st : St) : digL st = (takeE st 32).1.getD [] ++ List.replicate (32 - ((takeE st 32).1.getD []).length) 0 ∧ ((takeE st 32).1.getD []).length ≤ 32 := by
  unfold digL takeE
  split
  · simp
  · rename_i h
    simp only [Option.getD_some, List.length_take]
    have : min 32 st.1.length = 32 := by omega
    rw [this]; simp
theorem EyeDigest_spec (h : EyeR w e st) : Calls Try.prog i_pen_Eye_Digest #[.pointer (some ⟨e, 0, none⟩)] w (Ret fun v w' => v = .agg ((digL st).map u8v).toArray ∧ EyeR w' e (takeE st 32).2 ∧ Ch (· = e) w w') := by
  refine pen_Eye_Digest.calls _ ?_
  unfold pen_Eye_Digest.vc
  intro w1 e1 w2 e2
  have he := Blk.lt h
  have hA1 := Blk.new e1
  have hA2 := hA1.alloc e2
  have hB2 := Blk.new e2
  have hE2 : EyeR w2 e st := Blk.alloc (Blk.alloc h e1) e2
  have hC2 : Ch (· = e) w w2 := (Ch.alloc e1).same (Ch.alloc e2)
  have hab : w.heap.size < w1.heap.size := hA1.lt
  clear e1 e2 hA1
  generalize w1.heap.size = db at hB2 hab ⊢
  generalize hrb : w.heap.size = rb at hA2 he hab ⊢
  refine step_call (take_spec hE2 32) ?_
  rintro v w3 ⟨rfl, hE3, hc3⟩
  have hA3 := hA2.keep hc3 (by omega)
  have hB3 := hB2.keep hc3 (by omega)
  have hC3 := hC2.same hc3
  obtain ⟨hdl, htl⟩ := digL_of st
  have hlen := digL_len st
  generalize digL st = D at hdl hlen ⊢
  generalize (takeE st 32).1.getD [] = t at hdl htl ⊢
  refine ⟨_, _, rfl, ?_⟩
  rw [at0]
  have hsz : (str t).size = t.length := str_size t
  have hcp := run_copy_string (P := Try.prog) w3 t_S_uint8 t_string t_int t_uint8 db 0 32 32 (str t) (by kernel_rfl) (fun w => by kernel_rfl) (by omega)
    (fun j hj => by
      have hj : j < 32 := by omega
      rw [Nat.zero_add, hB3.cells]
      rw [Option.isSome_iff_exists]
      exact ⟨_, List.getElem?_eq_getElem (by simpa using hj)⟩)
    (fun j hj => hB3.frozen _ rfl)
  rw [str_data] at hcp
  have hcs : (t.map fun x => Value.int .u8 (x.toNat : Int)) = t.map u8v := rfl
  rw [hcs] at hcp
  refine ⟨_, _, hcp, ?_⟩
  have hB4 : Blk (w3.setCells db 0 (t.map u8v)) db (D.map u8v) 59 := by
    have h4 := (setCells_blk (t.map u8v) 0 hB3 (by simp; omega)).1
    rw [hdl]
    have hz : (#[.int .u8 0, .int .u8 0, .int .u8 0, .int .u8 0, .int .u8 0, .int .u8 0, .int .u8 0, .int .u8 0, .int .u8 0, .int .u8 0, .int .u8 0, .int .u8 0, .int .u8 0, .int .u8 0, .int .u8 0, .int .u8 0, .int .u8 0, .int .u8 0, .int .u8 0, .int .u8 0, .int .u8 0, .int .u8 0, .int .u8 0, .int .u8 0, .int .u8 0, .int .u8 0, .int .u8 0, .int .u8 0, .int .u8 0, .int .u8 0, .int .u8 0, .int .u8 0] : Array Value).toList = List.replicate 32 (u8v 0) := rfl
    rw [hz, List.take_zero, List.nil_append, List.drop_replicate, List.length_map, Nat.zero_add] at h4
    rw [List.map_append, List.map_replicate]
    exact h4
  have hc34 : Ch (· = db) w3 (w3.setCells db 0 (t.map u8v)) := Ch.sets rfl rfl
  generalize w3.setCells db 0 (t.map u8v) = w4 at hB4 hc34 ⊢
  have hA4 := hA3.keep hc34 (by omega)
  have hE4 : EyeR w4 e _ := Blk.keep hE3 hc34 (by omega)
  have hC4 : Ch (· = e) w w4 := hC3.trans hc34 (fun i hi h => by omega)
  obtain ⟨d0, d1, d2, d3, d4, d5, d6, d7, d8, d9, d10, d11, d12, d13, d14, d15, d16, d17, d18, d19, d20, d21, d22, d23, d24, d25, d26, d27, d28, d29, d30, d31, hd⟩ := dig32 hlen
  subst hd
  refine ⟨_, _, _, _, _, _, _, _, _, _, _, _, _, _, _, _, _, _, _, _, _, _, _, _, _, _, _, _, _, _, _, _, ⟨hB4.cell 0 rfl, hB4.cell 1 rfl, hB4.cell 2 rfl, hB4.cell 3 rfl, hB4.cell 4 rfl, hB4.cell 5 rfl, hB4.cell 6 rfl, hB4.cell 7 rfl, hB4.cell 8 rfl, hB4.cell 9 rfl, hB4.cell 10 rfl, hB4.cell 11 rfl, hB4.cell 12 rfl, hB4.cell 13 rfl, hB4.cell 14 rfl, hB4.cell 15 rfl, hB4.cell 16 rfl, hB4.cell 17 rfl, hB4.cell 18 rfl, hB4.cell 19 rfl, hB4.cell 20 rfl, hB4.cell 21 rfl, hB4.cell 22 rfl, hB4.cell 23 rfl, hB4.cell 24 rfl, hB4.cell 25 rfl, hB4.cell 26 rfl, hB4.cell 27 rfl, hB4.cell 28 rfl, hB4.cell 29 rfl, hB4.cell 30 rfl, hB4.cell 31 rfl⟩, ⟨hA4.ok 0 rfl, hA4.ok 1 rfl, hA4.ok 2 rfl, hA4.ok 3 rfl, hA4.ok 4 rfl, hA4.ok 5 rfl, hA4.ok 6 rfl, hA4.ok 7 rfl, hA4.ok 8 rfl, hA4.ok 9 rfl, hA4.ok 10 rfl, hA4.ok 11 rfl, hA4.ok 12 rfl, hA4.ok 13 rfl, hA4.ok 14 rfl, hA4.ok 15 rfl, hA4.ok 16 rfl, hA4.ok 17 rfl, hA4.ok 18 rfl, hA4.ok 19 rfl, hA4.ok 20 rfl, hA4.ok 21 rfl, hA4.ok 22 rfl, hA4.ok 23 rfl, hA4.ok 24 rfl, hA4.ok 25 rfl, hA4.ok 26 rfl, hA4.ok 27 rfl, hA4.ok 28 rfl, hA4.ok 29 rfl, hA4.ok 30 rfl, hA4.ok 31 rfl⟩, fun w5 e5 => ?_⟩
  have e6 : w5 = w4.setCells rb 0 [u8v d0, u8v d1, u8v d2, u8v d3, u8v d4, u8v d5, u8v d6, u8v d7, u8v d8, u8v d9, u8v d10, u8v d11, u8v d12, u8v d13, u8v d14, u8v d15, u8v d16, u8v d17, u8v d18, u8v d19, u8v d20, u8v d21, u8v d22, u8v d23, u8v d24, u8v d25, u8v d26, u8v d27, u8v d28, u8v d29, u8v d30, u8v d31] := e5
  have hA5 := hA4.all [u8v d0, u8v d1, u8v d2, u8v d3, u8v d4, u8v d5, u8v d6, u8v d7, u8v d8, u8v d9, u8v d10, u8v d11, u8v d12, u8v d13, u8v d14, u8v d15, u8v d16, u8v d17, u8v d18, u8v d19, u8v d20, u8v d21, u8v d22, u8v d23, u8v d24, u8v d25, u8v d26, u8v d27, u8v d28, u8v d29, u8v d30, u8v d31] rfl e6
  have hc45 : Ch (· = rb) w4 w5 := Ch.sets e6 rfl
  exact ⟨_, _, _, _, _, _, _, _, _, _, _, _, _, _, _, _, _, _, _, _, _, _, _, _, _, _, _, _, _, _, _, _, ⟨hA5.cell 0 rfl, hA5.cell 1 rfl, hA5.cell 2 rfl, hA5.cell 3 rfl, hA5.cell 4 rfl, hA5.cell 5 rfl, hA5.cell 6 rfl, hA5.cell 7 rfl, hA5.cell 8 rfl, hA5.cell 9 rfl, hA5.cell 10 rfl, hA5.cell 11 rfl, hA5.cell 12 rfl, hA5.cell 13 rfl, hA5.cell 14 rfl, hA5.cell 15 rfl, hA5.cell 16 rfl, hA5.cell 17 rfl, hA5.cell 18 rfl, hA5.cell 19 rfl, hA5.cell 20 rfl, hA5.cell 21 rfl, hA5.cell 22 rfl, hA5.cell 23 rfl, hA5.cell 24 rfl, hA5.cell 25 rfl, hA5.cell 26 rfl, hA5.cell 27 rfl, hA5.cell 28 rfl, hA5.cell 29 rfl, hA5.cell 30 rfl, hA5.cell 31 rfl⟩, rfl, Blk.keep hE4 hc45 (by omega), hC4.trans hc45 (fun i hi h => by omega)⟩
theorem PenByteNil_spec (w : World) (o : Option Addr) (n c : Nat) : Calls Try.prog i_pen_Pen_Byte #[.pointer none, .slice o n c] w (Ret fun v w' => v = .tuple #[] ∧ w' = w) := pen_Pen_Byte.calls_nil _ _ _ (by unfold pen_Pen_Byte.vc_nil; exact ⟨rfl, rfl⟩)
theorem PenNumNil_spec (w : World) (o : Option Addr) (n c : Nat) : Calls Try.prog i_pen_Pen_Num #[.pointer none, .slice o n c] w (Ret fun v w' => v = .tuple #[] ∧ w' = w) := pen_Pen_Num.calls_nil _ _ _ (by unfold pen_Pen_Num.vc_nil; exact ⟨rfl, rfl⟩)
theorem PenBytesNil_spec (w : World) : Calls Try.prog i_pen_Pen_Bytes #[.pointer none] w (Ret fun v w' => v = .string (ByteArray.mk #[]) ∧ w' = w) := pen_Pen_Bytes.calls_nil (by unfold pen_Pen_Bytes.vc_nil; exact ⟨rfl, rfl⟩)
theorem PenBadNil_spec (w : World) : Calls Try.prog i_pen_Pen_Bad #[.pointer none] w (Ret fun v w' => v = .bool false ∧ w' = w) := pen_Pen_Bad.calls_nil (by unfold pen_Pen_Bad.vc_nil; exact ⟨rfl, rfl⟩)
theorem PenTextNil_spec {ss : List ByteArray} (hr : Rd w o (ss.map .string) G) (hn : ss.length ≤ 1000000) (c : Nat) : Calls Try.prog i_pen_Pen_Text #[.pointer none, .slice o ss.length c] w (Ret fun v w' => v = .tuple #[] ∧ Ch Non w w') := by
  refine pen_Pen_Text.calls_nil _ _ _ ?_
  unfold pen_Pen_Text.vc_nil
  refine ⟨fun i k w' => ∃ j : Nat, i = j ∧ j ≤ ss.length ∧ k = ss.length - j ∧ Ch Non w w', ⟨_, 0, rfl, Nat.zero_le _, rfl, Ch.refl _ _⟩, ?_⟩
  rintro jk i k w1 ⟨j, rfl, hj, rfl, hc⟩
  refine ⟨fun hlt => ?_, fun hge => ⟨rfl, hc⟩⟩
  have hlt : j < ss.length := by have := of_decide_eq_true hlt; omega
  refine ⟨⟨by omega, by omega⟩, (hr.keepN hc).at (j := (j : Int).toNat * 1) (v := .string ss[j]) (by simp [hlt]) fun p hpp => ⟨_, hpp, fun w2 e2 => ?_⟩⟩
  refine step_call (PenNumNil_spec _ _ _ _) ?_
  rintro v w3 ⟨rfl, rfl⟩
  obtain ⟨c4, w4, hr4, hrd4, hc4, _⟩ := conv_in (P := Try.prog) (src := t_string) (dst := t_S_uint8) (e := t_uint8) (w := w3) ss[j] (by kernel_rfl) (by kernel_rfl) (by kernel_rfl)
  refine ⟨rfl, _, _, _, w4, hr4, ?_⟩
  refine step_call (PenByteNil_spec _ _ _ _) ?_
  rintro v w5 ⟨rfl, rfl⟩
  exact ⟨rfl, ss.length - (j + 1), by omega, j + 1, by rw [wrap_id (by omega) (by omega)]; rfl, hlt, rfl, (hc.andN (Ch.alloc e2)).andN hc4⟩
theorem PenDigestNil_spec (hr : Rd w o (ds.map digE).flatten G) (hn : ds.length ≤ 1000000) (c : Nat) : Calls Try.prog i_pen_Pen_Digest #[.pointer none, .slice o ds.length c] w (Ret fun v w' => v = .tuple #[] ∧ Ch Non w w') := by
  refine pen_Pen_Digest.calls_nil _ _ _ ?_
  unfold pen_Pen_Digest.vc_nil
  refine ⟨fun i k w' => ∃ j : Nat, i = j ∧ j ≤ ds.length ∧ k = ds.length - j ∧ Ch Non w w', ⟨_, 0, rfl, Nat.zero_le _, rfl, Ch.refl _ _⟩, ?_⟩
  rintro jk i k w1 ⟨j, rfl, hj, rfl, hc⟩
  refine ⟨fun hlt => ?_, fun hge => ⟨rfl, hc⟩⟩
  have hlt : j < ds.length := by have := of_decide_eq_true hlt; omega
  obtain ⟨p, rfl, _, _, hcell⟩ := (hr.keepN hc).elem (sz := 32) digE_len (by omega) hlt
  obtain ⟨d0, d1, d2, d3, d4, d5, d6, d7, d8, d9, d10, d11, d12, d13, d14, d15, d16, d17, d18, d19, d20, d21, d22, d23, d24, d25, d26, d27, d28, d29, d30, d31, hd⟩ := dig32 ds[j].2
  have hde : digE ds[j] = [u8v d0, u8v d1, u8v d2, u8v d3, u8v d4, u8v d5, u8v d6, u8v d7, u8v d8, u8v d9, u8v d10, u8v d11, u8v d12, u8v d13, u8v d14, u8v d15, u8v d16, u8v d17, u8v d18, u8v d19, u8v d20, u8v d21, u8v d22, u8v d23, u8v d24, u8v d25, u8v d26, u8v d27, u8v d28, u8v d29, u8v d30, u8v d31] := by unfold digE; rw [hd]; rfl
  rw [hde] at hcell
  rw [← Int.toNat_natCast j] at hcell
  have h0 := hcell 0 _ rfl
  rw [add_none] at h0
  refine ⟨⟨by omega, by omega⟩, ?_⟩
  show ∃ _, _
  refine ⟨_, _, _, _, _, _, _, _, _, _, _, _, _, _, _, _, _, _, _, _, _, _, _, _, _, _, _, _, _, _, _, _, ⟨h0, hcell 1 _ rfl, hcell 2 _ rfl, hcell 3 _ rfl, hcell 4 _ rfl, hcell 5 _ rfl, hcell 6 _ rfl, hcell 7 _ rfl, hcell 8 _ rfl, hcell 9 _ rfl, hcell 10 _ rfl, hcell 11 _ rfl, hcell 12 _ rfl, hcell 13 _ rfl, hcell 14 _ rfl, hcell 15 _ rfl, hcell 16 _ rfl, hcell 17 _ rfl, hcell 18 _ rfl, hcell 19 _ rfl, hcell 20 _ rfl, hcell 21 _ rfl, hcell 22 _ rfl, hcell 23 _ rfl, hcell 24 _ rfl, hcell 25 _ rfl, hcell 26 _ rfl, hcell 27 _ rfl, hcell 28 _ rfl, hcell 29 _ rfl, hcell 30 _ rfl, hcell 31 _ rfl⟩, fun w2 e2 => ?_⟩
  have hO2 := Blk.new e2
  refine ⟨⟨hO2.ok 0 rfl, hO2.ok 1 rfl, hO2.ok 2 rfl, hO2.ok 3 rfl, hO2.ok 4 rfl, hO2.ok 5 rfl, hO2.ok 6 rfl, hO2.ok 7 rfl, hO2.ok 8 rfl, hO2.ok 9 rfl, hO2.ok 10 rfl, hO2.ok 11 rfl, hO2.ok 12 rfl, hO2.ok 13 rfl, hO2.ok 14 rfl, hO2.ok 15 rfl, hO2.ok 16 rfl, hO2.ok 17 rfl, hO2.ok 18 rfl, hO2.ok 19 rfl, hO2.ok 20 rfl, hO2.ok 21 rfl, hO2.ok 22 rfl, hO2.ok 23 rfl, hO2.ok 24 rfl, hO2.ok 25 rfl, hO2.ok 26 rfl, hO2.ok 27 rfl, hO2.ok 28 rfl, hO2.ok 29 rfl, hO2.ok 30 rfl, hO2.ok 31 rfl⟩, fun w3 e3 => ?_⟩
  have e4 : w3 = w2.setCells w1.heap.size 0 [u8v d0, u8v d1, u8v d2, u8v d3, u8v d4, u8v d5, u8v d6, u8v d7, u8v d8, u8v d9, u8v d10, u8v d11, u8v d12, u8v d13, u8v d14, u8v d15, u8v d16, u8v d17, u8v d18, u8v d19, u8v d20, u8v d21, u8v d22, u8v d23, u8v d24, u8v d25, u8v d26, u8v d27, u8v d28, u8v d29, u8v d30, u8v d31] := e3
  have hc13 : Ch Non w1 w3 := (Ch.alloc (F := Non) e2).trans (Ch.sets (F := (· = w1.heap.size)) e4 rfl) (fun i hi he => by omega)
  refine step_call (PenByteNil_spec _ _ _ _) ?_
  rintro v w4 ⟨rfl, rfl⟩
  exact ⟨rfl, ds.length - (j + 1), by omega, j + 1, by rw [wrap_id (by omega) (by omega)]; rfl, hlt, rfl, hc.andN hc13⟩
theorem takeNil_spec (w : World) (n : Int) : Calls Try.prog i_pen_Eye_take #[.pointer none, .int .i64 n] w (Ret fun v w' => v = .tuple #[.string (ByteArray.mk #[]), .bool false] ∧ w' = w) := pen_Eye_take.calls_nil _ (by unfold pen_Eye_take.vc_nil; exact ⟨rfl, rfl⟩)
theorem EyeByteNil_spec (w : World) : Calls Try.prog i_pen_Eye_Byte #[.pointer none] w (Ret fun v w' => v = .int .u8 0 ∧ w' = w) := by
  refine pen_Eye_Byte.calls_nil ?_
  unfold pen_Eye_Byte.vc_nil
  refine step_call (takeNil_spec w 1) ?_
  rintro v w1 ⟨rfl, rfl⟩
  exact ⟨_, _, rfl, iteT rfl ⟨rfl, rfl⟩⟩
theorem EyeNumNil_spec (w : World) (most : Int) : Calls Try.prog i_pen_Eye_Num #[.pointer none, .int .i64 most] w (Ret fun v w' => v = .int .i64 0 ∧ w' = w) := by
  refine pen_Eye_Num.calls_nil _ ?_
  unfold pen_Eye_Num.vc_nil
  refine step_call (takeNil_spec w 4) ?_
  rintro v w1 ⟨rfl, rfl⟩
  exact ⟨_, _, rfl, iteT rfl ⟨rfl, rfl⟩⟩
theorem EyeTextNil_spec (w : World) (most : Int) : Calls Try.prog i_pen_Eye_Text #[.pointer none, .int .i64 most] w (Ret fun v w' => v = .string (ByteArray.mk #[]) ∧ w' = w) := by
  refine pen_Eye_Text.calls_nil _ ?_
  unfold pen_Eye_Text.vc_nil
  refine step_call (EyeNumNil_spec w most) ?_
  rintro v w1 ⟨rfl, rfl⟩
  refine ⟨_, rfl, ?_⟩
  refine step_call (takeNil_spec _ _) ?_
  rintro v w2 ⟨rfl, rfl⟩
  exact ⟨_, _, rfl, rfl, rfl⟩
theorem LeftNil_spec (w : World) : Calls Try.prog i_pen_Eye_Left #[.pointer none] w (Ret fun v w' => v = .int .i64 0 ∧ w' = w) := pen_Eye_Left.calls_nil (by unfold pen_Eye_Left.vc_nil; exact ⟨rfl, rfl⟩)
theorem ErrNil_spec (w : World) : Calls Try.prog i_pen_Eye_Err #[.pointer none] w (Ret fun v w' => v = .int .i64 2 ∧ w' = w) := pen_Eye_Err.calls_nil (by unfold pen_Eye_Err.vc_nil; exact ⟨rfl, rfl⟩)
theorem EndNil_spec (w : World) : Calls Try.prog i_pen_Eye_End #[.pointer none] w (Ret fun v w' => v = .int .i64 2 ∧ w' = w) := by
  refine pen_Eye_End.calls_nil ?_
  unfold pen_Eye_End.vc_nil
  refine step_call (ErrNil_spec w) ?_
  rintro v w1 ⟨rfl, rfl⟩
  exact ⟨_, rfl, iteT rfl ⟨rfl, rfl⟩⟩
theorem EyeDigestNil_spec (w : World) : Calls Try.prog i_pen_Eye_Digest #[.pointer none] w (Ret fun v w' => v = .agg #[.int .u8 0, .int .u8 0, .int .u8 0, .int .u8 0, .int .u8 0, .int .u8 0, .int .u8 0, .int .u8 0, .int .u8 0, .int .u8 0, .int .u8 0, .int .u8 0, .int .u8 0, .int .u8 0, .int .u8 0, .int .u8 0, .int .u8 0, .int .u8 0, .int .u8 0, .int .u8 0, .int .u8 0, .int .u8 0, .int .u8 0, .int .u8 0, .int .u8 0, .int .u8 0, .int .u8 0, .int .u8 0, .int .u8 0, .int .u8 0, .int .u8 0, .int .u8 0] ∧ Ch Non w w') := by
  refine pen_Eye_Digest.calls_nil ?_
  unfold pen_Eye_Digest.vc_nil
  intro w1 e1 w2 e2
  have hA1 := Blk.new e1
  have hA2 := hA1.alloc e2
  have hB2 := Blk.new e2
  have hC2 : Ch Non w w2 := (Ch.alloc e1).andN (Ch.alloc e2)
  have hab : w.heap.size < w1.heap.size := hA1.lt
  clear e1 e2 hA1
  generalize w1.heap.size = db at hB2 hab ⊢
  generalize hrb : w.heap.size = rb at hA2 hab ⊢
  refine step_call (takeNil_spec w2 32) ?_
  rintro v w3 ⟨rfl, rfl⟩
  refine ⟨_, _, rfl, ?_⟩
  rw [at0]
  have hcp := run_copy_string (P := Try.prog) w3 t_S_uint8 t_string t_int t_uint8 db 0 32 32 (ByteArray.mk #[]) (by kernel_rfl) (fun w => by kernel_rfl) (by decide)
    (fun j hj => by exact absurd hj (Nat.not_lt_zero _)) (fun j hj => by exact absurd hj (Nat.not_lt_zero _))
  refine ⟨_, _, hcp, ?_⟩
  change ∃ _, _
  refine ⟨_, _, _, _, _, _, _, _, _, _, _, _, _, _, _, _, _, _, _, _, _, _, _, _, _, _, _, _, _, _, _, _, ⟨hB2.cell 0 rfl, hB2.cell 1 rfl, hB2.cell 2 rfl, hB2.cell 3 rfl, hB2.cell 4 rfl, hB2.cell 5 rfl, hB2.cell 6 rfl, hB2.cell 7 rfl, hB2.cell 8 rfl, hB2.cell 9 rfl, hB2.cell 10 rfl, hB2.cell 11 rfl, hB2.cell 12 rfl, hB2.cell 13 rfl, hB2.cell 14 rfl, hB2.cell 15 rfl, hB2.cell 16 rfl, hB2.cell 17 rfl, hB2.cell 18 rfl, hB2.cell 19 rfl, hB2.cell 20 rfl, hB2.cell 21 rfl, hB2.cell 22 rfl, hB2.cell 23 rfl, hB2.cell 24 rfl, hB2.cell 25 rfl, hB2.cell 26 rfl, hB2.cell 27 rfl, hB2.cell 28 rfl, hB2.cell 29 rfl, hB2.cell 30 rfl, hB2.cell 31 rfl⟩, ⟨hA2.ok 0 rfl, hA2.ok 1 rfl, hA2.ok 2 rfl, hA2.ok 3 rfl, hA2.ok 4 rfl, hA2.ok 5 rfl, hA2.ok 6 rfl, hA2.ok 7 rfl, hA2.ok 8 rfl, hA2.ok 9 rfl, hA2.ok 10 rfl, hA2.ok 11 rfl, hA2.ok 12 rfl, hA2.ok 13 rfl, hA2.ok 14 rfl, hA2.ok 15 rfl, hA2.ok 16 rfl, hA2.ok 17 rfl, hA2.ok 18 rfl, hA2.ok 19 rfl, hA2.ok 20 rfl, hA2.ok 21 rfl, hA2.ok 22 rfl, hA2.ok 23 rfl, hA2.ok 24 rfl, hA2.ok 25 rfl, hA2.ok 26 rfl, hA2.ok 27 rfl, hA2.ok 28 rfl, hA2.ok 29 rfl, hA2.ok 30 rfl, hA2.ok 31 rfl⟩, fun w5 e5 => ?_⟩
  have e6 : w5 = w3.setCells rb 0 [.int .u8 0, .int .u8 0, .int .u8 0, .int .u8 0, .int .u8 0, .int .u8 0, .int .u8 0, .int .u8 0, .int .u8 0, .int .u8 0, .int .u8 0, .int .u8 0, .int .u8 0, .int .u8 0, .int .u8 0, .int .u8 0, .int .u8 0, .int .u8 0, .int .u8 0, .int .u8 0, .int .u8 0, .int .u8 0, .int .u8 0, .int .u8 0, .int .u8 0, .int .u8 0, .int .u8 0, .int .u8 0, .int .u8 0, .int .u8 0, .int .u8 0, .int .u8 0] := e5
  have hA5 := hA2.all [.int .u8 0, .int .u8 0, .int .u8 0, .int .u8 0, .int .u8 0, .int .u8 0, .int .u8 0, .int .u8 0, .int .u8 0, .int .u8 0, .int .u8 0, .int .u8 0, .int .u8 0, .int .u8 0, .int .u8 0, .int .u8 0, .int .u8 0, .int .u8 0, .int .u8 0, .int .u8 0, .int .u8 0, .int .u8 0, .int .u8 0, .int .u8 0, .int .u8 0, .int .u8 0, .int .u8 0, .int .u8 0, .int .u8 0, .int .u8 0, .int .u8 0, .int .u8 0] rfl e6
  have hc45 : Ch (· = rb) w3 w5 := Ch.sets e6 rfl
  exact ⟨_, _, _, _, _, _, _, _, _, _, _, _, _, _, _, _, _, _, _, _, _, _, _, _, _, _, _, _, _, _, _, _, ⟨hA5.cell 0 rfl, hA5.cell 1 rfl, hA5.cell 2 rfl, hA5.cell 3 rfl, hA5.cell 4 rfl, hA5.cell 5 rfl, hA5.cell 6 rfl, hA5.cell 7 rfl, hA5.cell 8 rfl, hA5.cell 9 rfl, hA5.cell 10 rfl, hA5.cell 11 rfl, hA5.cell 12 rfl, hA5.cell 13 rfl, hA5.cell 14 rfl, hA5.cell 15 rfl, hA5.cell 16 rfl, hA5.cell 17 rfl, hA5.cell 18 rfl, hA5.cell 19 rfl, hA5.cell 20 rfl, hA5.cell 21 rfl, hA5.cell 22 rfl, hA5.cell 23 rfl, hA5.cell 24 rfl, hA5.cell 25 rfl, hA5.cell 26 rfl, hA5.cell 27 rfl, hA5.cell 28 rfl, hA5.cell 29 rfl, hA5.cell 30 rfl, hA5.cell 31 rfl⟩, rfl, hC2.trans hc45 (fun i hi h => by omega)⟩
end
end Go.Proofs.Ytfecfdhigkehgaa.Pen
