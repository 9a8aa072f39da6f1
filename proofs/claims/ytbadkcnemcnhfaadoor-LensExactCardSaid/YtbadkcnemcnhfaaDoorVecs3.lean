/- For all bytes, tables and rows of rows: what layer 11's Of and Plus answer, and the document's functions; the conditions stand in each theorem. -/
import Derived.Test.YtbadkcnemcnhfaaDoorVecs2
set_option linter.unusedVariables false
set_option linter.unusedSimpArgs false
namespace Go.Proofs.YtbadkcnemcnhfaaDoor.Vecs
open Go Go.Proofs Go.Proofs.YtbadkcnemcnhfaaDoor.V Go.Proofs.YtbadkcnemcnhfaaDoor.Vc Go.Proofs.YtbadkcnemcnhfaaDoor.Num Go.RowKit

def ofE (r c : Int) (n : Nat) : Int := if goodB r c n then 0 else if 1 ≤ r ∧ r ≤ 64 ∧ 1 ≤ c ∧ c ≤ 64 then 5 else 1
def ofL (r c : Int) (s : ByteArray) : List Int := if goodB r c s.size then numsB s else []
def OfR (r c : Int) (s : ByteArray) (w : World) (v : Value) (w' : World) : Prop := ∃ (A : Option Addr) (C : Nat), v = .tuple #[.agg #[.int .i64 (if goodB r c s.size then r else 0), .int .i64 (if goodB r c s.size then c else 0), .slice A (ofL r c s).length C], .int .i64 (ofE r c s.size)] ∧ Gr Non w w' t_int8 1 A (ofL r c s).length C ((ofL r c s).map (.int .i8))
theorem OfR.bad {r c : Int} {s : ByteArray} {w w' : World} {e : Int} (hg : goodB r c s.size = false) (he : e = if 1 ≤ r ∧ r ≤ 64 ∧ 1 ≤ c ∧ c ≤ 64 then 5 else 1) (hC : Ch Non w w') : OfR r c s w (.tuple #[.agg #[.int .i64 0, .int .i64 0, .slice none 0 0], .int .i64 e]) w' := by
  have h1 : ofL r c s = [] := by unfold ofL; rw [hg]; rfl
  have h2 : ofE r c s.size = e := by unfold ofE; rw [hg, he]; rfl
  unfold OfR
  rw [h1, h2, hg]
  exact ⟨none, 0, rfl, Gr.nil hC⟩
theorem Of_spec (w : World) (r c : Int) (s : ByteArray) (hs : s.size ≤ 1000000) : Calls Tryd.prog i_vecs_Of #[.int .i64 r, .int .i64 c, .string s] w (Ret (OfR r c s w)) := by
  refine vecs_Of.calls _ _ _ ?_
  unfold vecs_Of.vc
  intro w1 e1
  have hB := Blk.new e1
  have hC : Ch Non w w1 := Ch.alloc e1
  refine step_call (isSide_spec w1 _) ?_
  rintro v w2 ⟨rfl, rfl⟩
  refine ⟨_, rfl, fun h => ?_, fun h1 => ?_⟩
  ·
    refine ⟨⟨hB.ok 0 rfl, hB.ok 1 rfl, hB.ok 2 rfl⟩, fun w3 e3 => ?_⟩
    have hB3 : Blk w3 w.heap.size [.int .i64 0, .int .i64 0, .slice none 0 0] t_vecs_Table := ((hB.set rfl).set rfl).set e3
    have hC3 : Ch Non w w3 := hC.trans (Ch.set3 (F := (· = w.heap.size)) e3 rfl rfl rfl) (fun i hi he => by omega)
    refine ⟨_, _, _, _, _, ⟨hB3.cell 0 rfl, hB3.cell 1 rfl, hB3.cell 2 rfl⟩, ?_⟩
    have hb : ¬ (1 ≤ r ∧ r ≤ 64) := by rw [Bool.not_eq_true'] at h; exact of_decide_eq_false h
    have hg : goodB r c s.size = false := decide_eq_false (fun h => hb ⟨h.1, h.2.1⟩)
    exact OfR.bad hg (by rw [if_neg (fun h => hb ⟨h.1, h.2.1⟩)]) hC3
  have h1 : 1 ≤ r ∧ r ≤ 64 := by simpa using h1
  refine step_call (isSide_spec w2 _) ?_
  rintro v w4 ⟨rfl, rfl⟩
  refine ⟨_, rfl, fun h => ?_, fun h2 => ?_⟩
  ·
    refine ⟨⟨hB.ok 0 rfl, hB.ok 1 rfl, hB.ok 2 rfl⟩, fun w3 e3 => ?_⟩
    have hB3 : Blk w3 w.heap.size [.int .i64 0, .int .i64 0, .slice none 0 0] t_vecs_Table := ((hB.set rfl).set rfl).set e3
    have hC3 : Ch Non w w3 := hC.trans (Ch.set3 (F := (· = w.heap.size)) e3 rfl rfl rfl) (fun i hi he => by omega)
    refine ⟨_, _, _, _, _, ⟨hB3.cell 0 rfl, hB3.cell 1 rfl, hB3.cell 2 rfl⟩, ?_⟩
    have hb : ¬ (1 ≤ c ∧ c ≤ 64) := by rw [Bool.not_eq_true'] at h; exact of_decide_eq_false h
    have hg : goodB r c s.size = false := decide_eq_false (fun h => hb ⟨h.2.2.1, h.2.2.2.1⟩)
    exact OfR.bad hg (by rw [if_neg (fun h => hb ⟨h.2.2.1, h.2.2.2⟩)]) hC3
  have h2 : 1 ≤ c ∧ c ≤ 64 := by simpa using h2
  have hm := mul64 h1.1 h1.2 h2.1 h2.2
  rw [wrap_id (x := r * c) (by omega) (by omega)]
  refine ⟨fun h => ?_, fun h3 => ?_⟩
  ·
    refine ⟨⟨hB.ok 0 rfl, hB.ok 1 rfl, hB.ok 2 rfl⟩, fun w3 e3 => ?_⟩
    have hB3 : Blk w3 w.heap.size [.int .i64 0, .int .i64 0, .slice none 0 0] t_vecs_Table := ((hB.set rfl).set rfl).set e3
    have hC3 : Ch Non w w3 := hC.trans (Ch.set3 (F := (· = w.heap.size)) e3 rfl rfl rfl) (fun i hi he => by omega)
    refine ⟨_, _, _, _, _, ⟨hB3.cell 0 rfl, hB3.cell 1 rfl, hB3.cell 2 rfl⟩, ?_⟩
    have hb : (s.size : Int) ≠ r * c := by simpa using h
    have hg : goodB r c s.size = false := decide_eq_false (fun h => hb h.2.2.2.2)
    exact OfR.bad hg (by rw [if_pos ⟨h1.1, h1.2, h2.1, h2.2⟩]) hC3
  have h3 : (s.size : Int) = r * c := by simpa using h3
  have hg : goodB r c s.size = true := decide_eq_true ⟨h1.1, h1.2, h2.1, h2.2, h3⟩
  have hR : ∀ v w', (∃ (A : Option Addr) (C : Nat), v = .tuple #[.agg #[.int .i64 r, .int .i64 c, .slice A (numsB s).length C], .int .i64 0] ∧ Gr Non w w' t_int8 1 A (numsB s).length C ((numsB s).map (.int .i8))) → OfR r c s w v w' := fun v w' h => by
    unfold OfR ofL ofE
    rw [hg, if_pos rfl, if_pos rfl, if_pos rfl, if_pos rfl]
    exact h
  intro w7 e7
  have hB7 := hB.alloc e7
  have hT7 := Blk.new e7
  have hC7 : Ch Non w w7 := hC.andN (Ch.alloc e7)
  have hbt : w.heap.size < w4.heap.size := hB.lt
  have htb : w4.heap.size < w7.heap.size := hT7.lt
  generalize w4.heap.size = tb at hT7 hbt htb ⊢
  refine ⟨⟨hT7.ok 0 rfl, hT7.ok 1 rfl, hT7.ok 2 rfl⟩, fun w8 e8 => ?_⟩
  have hT8 : Blk w8 tb [.int .i64 r, .int .i64 c, .slice none 0 0] t_vecs_Table := ((hT7.set rfl).set rfl).set e8
  have hc8 : Ch (· = tb) w7 w8 := Ch.set3 e8 rfl rfl rfl
  have hB8 := hB7.keep hc8 (by omega)
  have hC8 : Ch Non w w8 := hC7.trans hc8 (fun i hi he => by omega)
  obtain ⟨c33, w9, hr9, hrd, hc9, _⟩ := conv_in (P := Tryd.prog) (src := t_string) (dst := t_S_uint8) (e := t_uint8) (w := w8) s (by kernel_rfl) (by kernel_rfl) (by kernel_rfl)
  have hT9 := hT8.keepN hc9
  have hB9 := hB8.keepN hc9
  have hC9 := hC8.andN hc9
  have ht8 := hT8.lt
  have ht9 := hT9.lt
  have hlen := numsB_len s
  have hLi : ∀ (j : Nat) (h : j < (numsB s).length) (h1 : j < s.data.toList.length), (numsB s)[j] = IntKind.i8.wrap (s.data.toList[j].toNat : Int) := fun j h h1 => by simp [numsB]
  have hsl : s.data.toList.length = s.size := by simp
  generalize numsB s = L at hR hlen hLi
  refine ⟨_, _, _, w9, hr9, fun k x w' => ∃ (j : Nat) (A : Option Addr) (CC : Nat), k = j ∧ j ≤ L.length ∧ x = L.length - j ∧ Blk w' tb [.int .i64 r, .int .i64 c, .slice A j CC] t_vecs_Table ∧ Gr (· = tb) w9 w' t_int8 1 A j CC ((L.take j).map (.int .i8)), ⟨_, 0, none, 0, rfl, Nat.zero_le _, rfl, hT9, Gr.nil (Ch.refl _ _)⟩, ?_⟩
  rintro jk k x w10 ⟨j, A, CC, rfl, hj, rfl, hT, hg10⟩
  refine ⟨fun hlt => ?_, fun hge => ?_⟩
  · have hlt : j < L.length := by simp at hlt; omega
    have hlt2 : j < s.data.toList.length := by omega
    refine ⟨⟨by omega, by omega⟩, (hrd.keep hg10.2 (fun i hi hN he => by have := hN.1; omega)).at (j := (j : Int).toNat * 1) (v := u8v s.data.toList[j]) (by rw [toNat_mul_one, List.getElem?_map, List.getElem?_eq_getElem hlt2]; rfl) fun p hp => ⟨_, hp, _, _, _, hT.cell 2 rfl, fun w11 e11 => ?_⟩⟩
    rw [← hLi j hlt hlt2] at e11
    obtain ⟨A', C', w12, hr, hg12, hc12⟩ := hg10.next el_S_int8 t_S_int8 hlt (by omega) e11 rfl rfl (by omega)
    have hT12 := hT.keep hc12 (fun hN => by have := hN.1; omega)
    refine ⟨A', _, C', w12, hr, hT12.ok 2 rfl, fun w13 e13 => ⟨L.length - (j + 1), by omega, j + 1, A', C', by rw [wrap_id (by omega) (by omega)]; rfl, hlt, rfl, hT12.set e13, hg12.step (Ch.set e13 rfl) (fun i hi => by omega)⟩⟩
  · have : j = L.length := by simp at hge; omega
    subst this
    rw [List.take_length] at hg10
    have hB10 := hB9.keep hg10.2 (by omega)
    refine ⟨_, _, _, _, _, ⟨hT.cell 0 rfl, hT.cell 1 rfl, hT.cell 2 rfl⟩, ⟨hB10.ok 0 rfl, hB10.ok 1 rfl, hB10.ok 2 rfl⟩, fun w14 e14 => ?_⟩
    have hB14 : Blk w14 w.heap.size [.int .i64 r, .int .i64 c, .slice A L.length CC] t_vecs_Table := ((hB10.set rfl).set rfl).set e14
    have hc14 : Ch (· = w.heap.size) w10 w14 := Ch.set3 e14 rfl rfl rfl
    refine ⟨_, _, _, _, _, ⟨hB14.cell 0 rfl, hB14.cell 1 rfl, hB14.cell 2 rfl⟩, hR _ _ ⟨A, CC, rfl, (hg10.1.keep hc14 (fun i hi hN he => by have := hN.1; omega)).mono (fun i hi hN => ⟨by have := hN.1; omega, hi⟩), ?_⟩⟩
    exact (hC9.trans hg10.2 (fun i hi he => by omega)).trans hc14 (fun i hi he => by omega)

/-- Rows, each with where it lies. -/
abbrev RowD := Option Addr × Nat × List Int
def encR (x : RowD) : Value := .slice x.1 x.2.2.length x.2.1
def wid (zs : List RowD) : Nat := (zs[0]?.map (·.2.2.length)).getD 0
def sameL (zs : List RowD) : Bool := zs.all fun z => decide (z.2.2.length = wid zs)
def colL (zs : List RowD) (k : Nat) : List Int := zs.map fun z => z.2.2.getD k 0
def plusL (zs : List RowD) : List Int := (List.range (wid zs)).map fun k => sat (sumC (colL zs k))
def plusT (zs : List RowD) : List Int := if sameL zs then plusL zs else []
theorem wid_pos {zs : List RowD} (h : 0 < zs.length) : wid zs = zs[0].2.2.length := by unfold wid; rw [List.getElem?_eq_getElem h]; rfl
theorem same_no {zs : List RowD} {j : Nat} (h : j < zs.length) (hn : zs[j].2.2.length ≠ wid zs) : sameL zs = false := by
  unfold sameL; rw [List.all_eq_false]; exact ⟨zs[j], List.getElem_mem h, by simpa using hn⟩
theorem same_yes {zs : List RowD} (h : ∀ z ∈ zs, z.2.2.length = wid zs) : sameL zs = true := by
  unfold sameL; rw [List.all_eq_true]; exact fun z hz => by simpa using h z hz
section
variable {w : World} {o : Option Addr} {cz : Nat} {zs : List RowD} {F G : Nat → Prop} {r c : Int} {ov : Option Addr} {ds vs : List Int} {cap cv : Nat}
end
end Go.Proofs.YtbadkcnemcnhfaaDoor.Vecs
