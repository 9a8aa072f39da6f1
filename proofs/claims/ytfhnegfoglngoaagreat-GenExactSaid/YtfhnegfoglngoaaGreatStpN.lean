/- For every call with no model, and for blocks behind which a mark stands: what is answered, what is changed; the conditions stand in each theorem. -/
import Derived.Test.YtfhnegfoglngoaaGreatStp3
import Derived.Test.YtfhnegfoglngoaaGreatPkA
import Derived.Test.YtfhnegfoglngoaaGreatPkV
set_option linter.unusedVariables false
set_option linter.unusedSimpArgs false
namespace Go.Proofs.YtfhnegfoglngoaaGreat.V
open Go Go.Proofs Go.RowKit
/-- A block of cells with a mark from lo to hi. -/
def FB (w : World) (b : Nat) (cs : List Value) (T lo hi : Nat) : Prop := w.heap[b]? = some (.cells cs.toArray T (lo, hi))
section
variable {w w' : World} {b T lo hi : Nat} {cs : List Value} {F : Nat → Prop}
theorem FB.lt (h : FB w b cs T lo hi) : b < w.heap.size := (Array.getElem?_eq_some_iff.1 h).1
theorem FB.cell (h : FB w b cs T lo hi) (o : Nat) {v : Value} (hv : cs[o]? = some v) : w.cell? ⟨b, o, none⟩ = some v := by
  unfold World.cell?
  rw [show w.heap[(⟨b, o, none⟩ : Addr).block]? = _ from h]
  simpa using hv
theorem FB.ok (h : FB w b cs T lo hi) (o : Nat) {v : Value} (hv : cs[o]? = some v) (hl : o < lo) : (∃ u, w.cell? ⟨b, o, none⟩ = some u) ∧ w.frozen? ⟨b, o, none⟩ = false := by
  refine ⟨⟨v, h.cell o hv⟩, ?_⟩
  unfold World.frozen?
  rw [show w.heap[(⟨b, o, none⟩ : Addr).block]? = _ from h]
  simp
  omega
theorem FB.keep {F : Nat → Prop} (h : FB w b cs T lo hi) (hc : Ch F w w') (hF : ¬ F b) : FB w' b cs T lo hi := (hc.block b h.lt hF).trans h
theorem FB.keepN (h : FB w b cs T lo hi) (hc : Ch Non w w') : FB w' b cs T lo hi := h.keep hc id
theorem FB.set (h : FB w b cs T lo hi) {o : Nat} {v : Value} (e : w' = w.setCell ⟨b, o, none⟩ v) : FB w' b (cs.set o v) T lo hi := by
  subst e
  unfold FB World.setCell at *
  simp only [Array.getElem?_modify]
  rw [if_pos trivial, h]
  simp
theorem FB.rd (h : FB w b cs T lo hi) {xs : List Value} (hx : ∀ (j : Nat) (v : Value), xs[j]? = some v → cs[j]? = some v) : Rd w (some ⟨b, 0, none⟩) xs (· = b) := fun j v hj => ⟨_, rfl, rfl, h.lt, by rw [add_at, Nat.zero_add]; exact h.cell j (hx j v hj)⟩
/-- []byte(t), that may be written. -/
theorem conv_inF {P : Program} {w : World} {src dst e : TypeId} (l : List UInt8) (hs : P.underlying src = some .string) (hd : P.underlying dst = some (.slice e)) (he : P.underlying e = some (.int .u8)) :
    ∃ (c : Nat) (w' : World) (zs : List Value) (hi : Nat), (convert src dst (.string ⟨l.toArray⟩)).run P w = .ok (.slice (some ⟨w.heap.size, 0, none⟩) l.length c) w' ∧ FB w' w.heap.size (l.map u8v ++ zs) e (l.map u8v ++ zs).length hi ∧ Ch Non w w' ∧ w'.heap.size = w.heap.size + 1 ∧ l.length ≤ c := by
  have hsz : (ByteArray.mk l.toArray).size = l.length := by simp [ByteArray.size]
  have hr := Lib.run_convert_string_bytes (P := P) w src dst e ⟨l.toArray⟩ hs hd he
  rw [hsz] at hr
  have hb := Lib.bytesWorld_at_new w e ⟨l.toArray⟩
  have hcs : (Lib.bytesCells w e ⟨l.toArray⟩) = (l.map u8v ++ List.replicate (grownCap w l.length 0 e - l.length) (Value.int .u8 0)).toArray := by
    unfold Lib.bytesCells
    rw [hsz]
    apply Array.ext'
    simp
    intro a _
    rfl
  have hge := grownCap_ge w l.length 0 e
  refine ⟨_, _, List.replicate (grownCap w l.length 0 e - l.length) (Value.int .u8 0), (l.map u8v ++ List.replicate (grownCap w l.length 0 e - l.length) (Value.int .u8 0)).length + 1, hr, ?_, ?_, Lib.bytesWorld_size w e _, by omega⟩
  · unfold FB
    rw [hb, hcs]
    simp
  · exact Ch.of_below ⟨rfl, rfl, rfl, by rw [Lib.bytesWorld_size]; omega, fun j hj => Lib.bytesWorld_at_old w e _ j hj⟩
end
end Go.Proofs.YtfhnegfoglngoaaGreat.V
namespace Go.Proofs.YtfhnegfoglngoaaGreat.Stp
open Go Go.Proofs Go.Proofs.YtfhnegfoglngoaaGreat.V Go.Proofs.YtfhnegfoglngoaaGreat.Vc Go.Proofs.YtfhnegfoglngoaaGreat.Conf Go.Proofs.YtfhnegfoglngoaaGreat.Brain Go.Proofs.YtfhnegfoglngoaaGreat.Num Go.RowKit
section
variable {w : World} {o o2 : Option Addr} {n cp n2 c2 : Nat}
theorem check_nil (w : World) (o : Option Addr) (n cp : Nat) : Calls Tryz.prog i_step_check #[.pointer none, .slice o n cp] w (Ret fun v w' => v = .int .i64 2 ∧ Ch Non w w') := by
  refine step_check.calls_nil _ _ _ ?_
  unfold step_check.vc_nil
  intro w1 e1
  have hC := Blk.new e1
  exact ⟨_, hC.cell 0 rfl, iteT rfl ⟨rfl, Ch.alloc e1⟩⟩
theorem Step_nil (w : World) (o : Option Addr) (n cp : Nat) (t : Int) : Calls Tryz.prog i_step_Step #[.pointer none, .slice o n cp, .int .i64 t] w (Ret fun v w' => v = nilE 2 ∧ Ch Non w w') := by
  refine step_Step.calls_nil _ _ _ _ ?_
  unfold step_Step.vc_nil
  intro w1 e1
  have hE1 := Blk.new e1
  have hs1 := hE1.lt
  refine step_call (check_nil w1 o n cp) ?_
  rintro v w2 ⟨rfl, hc2⟩
  refine ⟨_, rfl, iteT rfl ?_⟩
  have hE := hE1.keepN hc2
  refine ⟨⟨hE.ok 0 rfl, hE.ok 1 rfl⟩, fun w3 e3 => ?_⟩
  have hE3 := (hE.set (o := 0) rfl).set e3
  refine ⟨_, _, _, _, _, _, ⟨hE3.cell 0 rfl, hE3.cell 1 rfl⟩, rfl, ((Ch.alloc e1).andN hc2).trans (Ch.set2 (F := (· = w.heap.size)) e3 rfl rfl) (fun i hi he => by omega)⟩
theorem Run_nil (w : World) (o : Option Addr) (n cp : Nat) (o2 : Option Addr) (n2 c2 : Nat) : Calls Tryz.prog i_step_Run #[.pointer none, .slice o n cp, .slice o2 n2 c2] w (Ret fun v w' => v = .tuple #[.slice none 0 0, .slice none 0 0, .int .i64 2] ∧ Ch Non w w') := by
  refine step_Run.calls_nil _ _ _ _ _ _ ?_
  unfold step_Run.vc_nil
  intro w1 e1
  have hC := Blk.new e1
  refine ⟨_, hC.cell 0 rfl, step_call (check_nil w1 o n cp) ?_⟩
  rintro v w2 ⟨rfl, hc2⟩
  exact ⟨_, rfl, iteT rfl ⟨rfl, (Ch.alloc e1).andN hc2⟩⟩
set_option maxRecDepth 100000 in
theorem conf_dat {W : World} {cs : List Value} (h : DatC Tryz.prog W t_api_Config cs) : ∃ c : CfD, cs = cfE c := by
  obtain ⟨hl, hf⟩ := h.struct Tryz.underlying23
  have h2 : Tryz.prog.cellsOf t_api_Config = 6 := by kernel_rfl
  rw [h2] at hl
  match cs, hl with
  | [x0, x1, x2, x3, x4, x5], _ =>
    have h0 : DatC Tryz.prog W t_int [x0] := hf 0 _ rfl
    have h1 : DatC Tryz.prog W t_int [x1] := hf 1 _ rfl
    have h2 : DatC Tryz.prog W t_int [x2] := hf 2 _ rfl
    have h3 : DatC Tryz.prog W t_int [x3] := hf 3 _ rfl
    have h4 : DatC Tryz.prog W t_int [x4] := hf 4 _ rfl
    have h5 : DatC Tryz.prog W t_int [x5] := hf 5 _ rfl
    obtain ⟨a, e0, _⟩ := h0.int (k := .i64) (by kernel_rfl)
    obtain ⟨b, e1, _⟩ := h1.int (k := .i64) (by kernel_rfl)
    obtain ⟨c, e2, _⟩ := h2.int (k := .i64) (by kernel_rfl)
    obtain ⟨d, e3, _⟩ := h3.int (k := .i64) (by kernel_rfl)
    obtain ⟨e, e4, _⟩ := h4.int (k := .i64) (by kernel_rfl)
    obtain ⟨f, e5, _⟩ := h5.int (k := .i64) (by kernel_rfl)
    injection e0 with e0 _
    injection e1 with e1 _
    injection e2 with e2 _
    injection e3 with e3 _
    injection e4 with e4 _
    injection e5 with e5 _
    subst e0; subst e1; subst e2; subst e3; subst e4; subst e5
    exact ⟨⟨a, b, c, d, e, f⟩, rfl⟩
end
end Go.Proofs.YtfhnegfoglngoaaGreat.Stp
