/- For every command: its word, and what a writer lays of it; the conditions stand in each theorem. -/
import Derived.Test.YtamkffjmggbekaaPen2
import Derived.Test.YtamkffjmggbekaaGrow
import Derived.Test.YtamkffjmggbekaaVcOrdA
set_option linter.unusedVariables false
set_option linter.unusedSimpArgs false
namespace Go.Proofs.Ytamkffjmggbekaa.Ord
open Go Go.Proofs Go.Proofs.Ytamkffjmggbekaa.V Go.Proofs.Ytamkffjmggbekaa.Vc Go.Proofs.Ytamkffjmggbekaa.Pen Go.RowKit

theorem blkRd {w : World} {b T : Nat} {xs : List Int} (h : Blk w b (xs.map (.int .i64)) T) : Rd w (some ⟨b, 0, none⟩) (xs.map (.int .i64)) (· = b) := h.rd
def wordsL : List (List UInt8) := [[115, 117, 98, 109, 105, 116], [99, 97, 110, 99, 101, 108], [112, 111, 108, 108], [97, 100, 109, 105, 116], [112, 105, 99, 107], [110, 111, 116, 101], [98, 101, 103, 105, 110], [99, 104, 117, 110, 107], [115, 101, 97, 108], [116, 114, 121], [112, 114, 111, 109, 111, 116, 101], [97, 98, 111, 114, 116], [115, 116, 97, 116, 117, 115]]
def badK (k : Int) : Prop := k < 1 ∨ k > 13
instance (k : Int) : Decidable (badK k) := by unfold badK; infer_instance
def nameL (k : Int) : List UInt8 := if badK k then [] else wordsL.getD (k - 1).toNat []
theorem kinds {k : Int} (h : ¬ badK k) : k = 1 ∨ k = 2 ∨ k = 3 ∨ k = 4 ∨ k = 5 ∨ k = 6 ∨ k = 7 ∨ k = 8 ∨ k = 9 ∨ k = 10 ∨ k = 11 ∨ k = 12 ∨ k = 13 := by unfold badK at h; omega
theorem nameL_emp (k : Int) : decide (nameL k = []) = decide (badK k) := by
  by_cases h : badK k
  · rw [decide_eq_true h, decide_eq_true (by unfold nameL; rw [if_pos h])]
  · rcases kinds h with rfl | rfl | rfl | rfl | rfl | rfl | rfl | rfl | rfl | rfl | rfl | rfl | rfl <;> decide
theorem emp_beq (l : List UInt8) : ((str l).toList == (ByteArray.mk #[]).toList) = decide (l = []) := str_beq l []
theorem emp_beq' (l : List UInt8) : ((str l).toList == (ByteArray.empty).toList) = decide (l = []) := str_beq l []
theorem Name_at {w w' : World} {T b : Nat} (hB : Blk w' b (wordsL.map fun l => Value.string (str l)) T) {k : Int} (h : ¬ badK k) : w'.cell? ((⟨b, 0, none⟩ : Addr).add ((IntKind.i64.wrap (k - 1)).toNat * 1)) = some (.string (str (nameL k))) := by
  have hk : IntKind.i64.wrap (k - 1) = k - 1 := by unfold badK at h; exact wrap_id (by omega) (by omega)
  rw [hk, add_at, Nat.zero_add, Nat.mul_one]
  refine hB.cell _ ?_
  unfold nameL
  rw [if_neg h]
  rcases kinds h with rfl | rfl | rfl | rfl | rfl | rfl | rfl | rfl | rfl | rfl | rfl | rfl | rfl <;> rfl
theorem Name_spec (w : World) (k : Int) : Calls Try.prog i_order_Name #[.int .i64 k] w (Ret fun v w' => v = .string (str (nameL k)) ∧ Ch Non w w') := by
  refine order_Name.calls _ ?_
  unfold order_Name.vc
  intro w1 e1
  have hB : Blk w1 w.heap.size (wordsL.map fun l => Value.string (str l)) t_string := Blk.new e1
  have hc : Ch Non w w1 := Ch.alloc e1
  refine ⟨fun h => ⟨by unfold nameL; rw [if_pos (.inl (of_decide_eq_true h))]; rfl, hc⟩, fun h => ⟨fun h2 => ⟨by unfold nameL; rw [if_pos (.inr (of_decide_eq_true h2))]; rfl, hc⟩, fun h2 => ?_⟩⟩
  have h := of_decide_eq_false h
  have h2 := of_decide_eq_false h2
  have hk : ¬ badK k := by unfold badK; omega
  have hw : IntKind.i64.wrap (k - 1) = k - 1 := wrap_id (by omega) (by omega)
  exact ⟨by rw [hw]; exact ⟨by omega, by omega⟩, _, Name_at (w := w) hB hk, rfl, hc⟩
/-- A command; where its rows lie. -/
structure CmD where
  kind : Int
  id : Int
  n : Int
  good : Bool
  prompt : List Int
  draws : List Int
  data : List UInt8
deriving DecidableEq
structure RwP where
  po : Option Addr
  pc : Nat
  qo : Option Addr
  qc : Nat
def cmE (q : CmD × RwP) : List Value := [.int .i64 q.1.kind, .int .i64 q.1.id, .int .i64 q.1.n, .bool q.1.good, .slice q.2.po q.1.prompt.length q.2.pc, .slice q.2.qo q.1.draws.length q.2.qc, .string (str q.1.data)]
def CmR (w : World) (q : CmD × RwP) (D : Nat → Prop) : Prop := Rd w q.2.po (q.1.prompt.map (.int .i64)) D ∧ Rd w q.2.qo (q.1.draws.map (.int .i64)) D ∧ q.1.prompt.length ≤ 1000 ∧ q.1.draws.length ≤ 1000 ∧ q.1.data.length ≤ 100000
section
variable {w w' : World} {q : CmD × RwP} {D D' G : Nat → Prop}
theorem CmR.keep (h : CmR w q D) (hc : Ch G w w') (hd : ∀ i, i < w.heap.size → D i → ¬ G i) : CmR w' q D := ⟨h.1.keep hc hd, h.2.1.keep hc hd, h.2.2⟩
theorem CmR.keepN (h : CmR w q D) (hc : Ch Non w w') : CmR w' q D := h.keep hc (fun _ _ _ => id)
theorem CmR.mono (h : CmR w q D) (hg : ∀ i, i < w.heap.size → D i → D' i) : CmR w' q D' ∨ CmR w q D' := .inr ⟨h.1.mono hg, h.2.1.mono hg, h.2.2⟩
theorem CmR.mon (h : CmR w q D) (hg : ∀ i, i < w.heap.size → D i → D' i) : CmR w q D' := ⟨h.1.mono hg, h.2.1.mono hg, h.2.2⟩
theorem cm_one (q : CmD × RwP) : ∀ u ∈ cmE q, u.oneCell' = true := fun u hu => by
  simp only [cmE, List.mem_cons, List.not_mem_nil, or_false] at hu
  rcases hu with rfl | rfl | rfl | rfl | rfl | rfl | rfl <;> rfl
end
inductive Fld where | id | n | good | prompt | draws | data
def fldsK (k : Int) : List Fld := if k = 1 then [.id, .n, .prompt, .draws] else if k = 2 ∨ k = 3 then [.id] else if k = 5 ∨ k = 10 then [.n] else if k = 6 then [.good] else if k = 7 then [.data] else if k = 8 then [.n, .data] else []
def half : Int := 2147483648
def numOk (x : Int) : Prop := -2147483648 ≤ x ∧ x < 2147483648
instance (x : Int) : Decidable (numOk x) := by unfold numOk; infer_instance
def rowB (l : List Int) : List UInt8 := numI l.length ++ numsL (l.map (· + half))
def fldB (c : CmD) : Fld → List UInt8
  | .id => numI (c.id + half)
  | .n => numI (c.n + half)
  | .good => [if c.good then 1 else 0]
  | .prompt => rowB c.prompt
  | .draws => rowB c.draws
  | .data => textB (str c.data)
def visB (c : CmD) : List UInt8 := ((fldsK c.kind).map (fldB c)).flatten
/-- A writer of one's own. -/
structure PW (W w : World) (b : Nat) (bs : List UInt8) (F : Nat → Prop) : Prop where
  p : PenT t_order_writer w b false bs F
  f : Foot W w F
  c : Ch Non W w
def PWs (W w w' : World) (b : Nat) (bs : List UInt8) (F : Nat → Prop) : Prop := ∃ F', PW W w' b bs F' ∧ (∀ i, F' i → Ext F w w' i) ∧ Ch F w w'
section
variable {W w w' w1 : World} {b cb T c : Nat} {bs bs' : List UInt8} {F F' G D : Nat → Prop} {p : Addr} {x : Int} {o : Option Addr} {xs : List Int}
theorem PW.keepN (h : PW W w b bs F) (hc : Ch Non w w') : PW W w' b bs F := ⟨h.p.keepN hc, h.f.le hc.size, h.c.andN hc⟩
theorem PW.go (h : PW W w b bs F) (h0 : Ch Non w w1) (hp : PenT t_order_writer w' b false bs' (Ext F w1 w')) (hc : Ch F w1 w') : PWs W w w' b bs' F := by
  have hcc : Ch F w w' := h0.any.same hc
  have hp' : PenT t_order_writer w' b false bs' (Ext F w w') := hp.mono (fun i _ hi => hi.imp id (fun k => ⟨by have := k.1; have := h0.size; omega, k.2⟩))
  exact ⟨_, ⟨hp', h.f.ext h.c hcc.size, h.f.hi h.c hcc⟩, fun i hi => hi, hcc⟩
theorem PWs.lift (h0 : Ch Non w w1) (h : PWs W w1 w' b bs F) : PWs W w w' b bs F := by
  obtain ⟨F', hp, hE, hc⟩ := h
  exact ⟨F', hp, fun i hi => (hE i hi).imp id (fun k => ⟨by have := k.1; have := h0.size; omega, k.2⟩), h0.any.same hc⟩
theorem PWs.comp (hE : ∀ i, F' i → Ext F w w1 i) (hc : Ch F w w1) (h : PWs W w1 w' b bs F') : PWs W w w' b bs F := by
  obtain ⟨F'', hp2, hE2, hc2⟩ := h
  have s1 := hc.size
  have s2 := hc2.size
  refine ⟨F'', hp2, fun i hi => ?_, hc.trans hc2 (fun i hi hf => (hE i hf).old hi)⟩
  rcases hE2 i hi with hi | hi
  · rcases hE i hi with hi | hi
    · exact .inl hi
    · exact .inr ⟨hi.1, by have := hi.2; omega⟩
  · exact .inr ⟨by have := hi.1; omega, hi.2⟩
theorem PW.s (h : PW W w b bs F) : PWs W w w b bs F := ⟨F, h, fun _ hi => .inl hi, Ch.refl _ _⟩
theorem outN_ok (h : numOk x) : outN (x + half) = false := by
  unfold outN half numOk at *
  rw [decide_eq_false (by omega), decide_eq_false (by omega)]; rfl
theorem wnum_spec (h : PW W w b bs F) (hx : ∀ w', Ch F w w' → w'.cell? p = some (.int .i64 x)) (hn : numOk x) (hl : bs.length ≤ 900000) :
    Calls Try.prog i_order_writer_num #[.pointer (some ⟨b, 0, none⟩), .pointer (some p)] w (Ret fun v w' => v = .tuple #[] ∧ PWs W w w' b (bs ++ numI (x + half)) F) := by
  refine order_writer_num.calls _ _ ?_
  unfold order_writer_num.vc
  refine ⟨fun w' => Ch F w w', fun w1 e1 => ⟨Ch.drew e1, _, hx, fun w3 e3 => ⟨(Ch.drew e1).same (Ch.alloc e3), ?_⟩⟩⟩
  have hc3 : Ch Non w w3 := (Ch.drew e1).andN (Ch.alloc e3)
  have hw : IntKind.i64.wrap (x + 2147483648) = x + half := by unfold numOk at hn; exact wrap_id (by omega) (by omega)
  rw [hw] at e3
  have s1 : w.heap.size = w1.heap.size := by subst e1; rfl
  have hb3 := Blk.new e3
  have hrd := blkRd (xs := [x + half]) hb3
  refine step_call (PenNum_spec (h.p.keepN hc3) (fun i hi => by have := (h.f i hi).2; have := hb3.lt; omega) hrd (fun i hi => ⟨by rw [hi]; exact hb3.lt, fun hf => by have := (h.f i hf).2; omega⟩) (by simp; omega) 1) ?_
  rintro v w4 ⟨rfl, hp4, hc4⟩
  have ho : [x + half].any outN = false := by simp [outN_ok hn]
  rw [ho, Bool.false_or] at hp4
  have hns : numsL [x + half] = numI (x + half) := by simp [numsL]
  rw [hns] at hp4
  exact ⟨rfl, hc3.any.same hc4, rfl, h.go hc3 hp4 hc4⟩
theorem take_map_snoc (l : List Int) (j : Nat) (h : j < l.length) : numsL ((l.take (j + 1)).map (· + half)) = numsL ((l.take j).map (· + half)) ++ numI (l[j] + half) := by
  rw [Pen.take_snoc l j h, List.map_append, List.map_singleton, numsL_snoc]
theorem wrow_spec (h : PW W w b bs F) (hx : ∀ w', Ch F w w' → w'.cell? p = some (.slice o xs.length c)) (hr : Rd w o (xs.map (.int .i64)) D) (hD : ∀ i, D i → ¬ F i) (hn : ∀ x ∈ xs, numOk x) (hm : xs.length ≤ 1000) (hl : bs.length ≤ 800000) :
    Calls Try.prog i_order_writer_row #[.pointer (some ⟨b, 0, none⟩), .pointer (some p)] w (Ret fun v w' => v = .tuple #[] ∧ PWs W w w' b (bs ++ rowB xs) F) := by
  refine order_writer_row.calls _ _ ?_
  unfold order_writer_row.vc
  refine ⟨fun w' => Ch F w w', fun w1 e1 => ⟨Ch.drew e1, _, _, _, hx, fun w3 e3 => ⟨(Ch.drew e1).same (Ch.alloc e3), ?_⟩⟩⟩
  have hc3 : Ch Non w w3 := (Ch.drew e1).andN (Ch.alloc e3)
  have s1 : w.heap.size = w1.heap.size := by subst e1; rfl
  have hb3 := Blk.new e3
  have hrd := blkRd (xs := [(xs.length : Int)]) hb3
  refine step_call (PenNum_spec (h.p.keepN hc3) (fun i hi => by have := (h.f i hi).2; have := hb3.lt; omega) hrd (fun i hi => ⟨by rw [hi]; exact hb3.lt, fun hf => by have := (h.f i hf).2; omega⟩) (by simp; omega) 1) ?_
  rintro v w4 ⟨rfl, hp4, hc4⟩
  have ho : [(xs.length : Int)].any outN = false := by simp [outN]; omega
  rw [ho, Bool.false_or] at hp4
  have hns : numsL [(xs.length : Int)] = numI xs.length := by simp [numsL]
  rw [hns] at hp4
  have hP4 := h.go hc3 hp4 hc4
  refine ⟨rfl, hc3.any.same hc4, _, _, _, hx _ (hc3.any.same hc4), fun k f w' => ∃ j : Nat, k = j ∧ j ≤ xs.length ∧ f = xs.length - j ∧ PWs W w w' b (bs ++ numI xs.length ++ numsL ((xs.take j).map (· + half))) F, ⟨_, 0, rfl, Nat.zero_le _, rfl, by simpa [numsL] using hP4⟩, ?_⟩
  clear hP4 hp4 hc4 hrd hb3 e3 hc3 s1 e1
  rintro jk k f w5 ⟨j, rfl, hj, rfl, hP⟩
  refine ⟨fun hlt => ?_, fun hge => ?_⟩
  · have hlt : j < xs.length := by have := of_decide_eq_true hlt; omega
    obtain ⟨F5, hp5, hE5, hc5⟩ := hP
    have hr5 := hr.keep hc5 (fun i _ hi hf => hD i hi hf)
    have hjj : (j : Int).toNat * 1 = j := by omega
    rw [hjj]
    refine ⟨⟨by omega, by omega⟩, hr5.typed hlt fun pp hpp => ⟨_, hpp, fun w6 e6 => ?_⟩⟩
    have hB6 := Blk.new e6
    refine ⟨hB6.ok 0 rfl, fun w7 e7 => ?_⟩
    have hB7 := hB6.set e7
    have hc57 : Ch Non w5 w7 := (Ch.alloc (F := Non) e6).trans (Ch.set (F := (· = w5.heap.size)) e7 rfl) (fun i hi he => by omega)
    have hp7 := hp5.keepN hc57
    have hnF : ¬ F5 w5.heap.size := fun hf => by have := (hp5.f _ hf).2; omega
    have hlen : (bs ++ numI xs.length ++ numsL ((xs.take j).map (· + half))).length ≤ 900000 := by
      simp only [List.length_append, numI_len, numsL_len, List.length_map, List.length_take]; omega
    refine step_call (wnum_spec hp7 (fun w' hc => (hB7.keep hc hnF).cell 0 rfl) (hn _ (List.getElem_mem hlt)) hlen) ?_
    rintro v w8 ⟨rfl, hP8⟩
    refine ⟨rfl, xs.length - (j + 1), by omega, j + 1, by rw [wrap_id (by omega) (by omega)]; rfl, hlt, rfl, ?_⟩
    rw [take_map_snoc xs j hlt, ← List.append_assoc]
    exact PWs.comp hE5 hc5 (PWs.lift hc57 hP8)
  · have hjn : j = xs.length := by have := of_decide_eq_false hge; omega
    subst hjn
    rw [List.take_length] at hP
    refine ⟨rfl, ?_⟩
    unfold rowB
    rw [← List.append_assoc]
    exact hP
theorem wflag_spec {g : Bool} (h : PW W w b bs F) (hx : w.cell? p = some (.bool g)) (hl : bs.length ≤ 900000) :
    Calls Try.prog i_order_writer_flag #[.pointer (some ⟨b, 0, none⟩), .pointer (some p)] w (Ret fun v w' => v = .tuple #[] ∧ PWs W w w' b (bs ++ [if g then 1 else 0]) F) := by
  refine order_writer_flag.calls _ _ ?_
  unfold order_writer_flag.vc
  have go : ∀ {w1 : World} (u : UInt8), w1 = w.alloc (.cells #[u8v u] 5 (0, 0)) → Calls Try.prog i_pen_Pen_Byte #[.pointer (some ⟨b, 0, none⟩), .slice (some ⟨w.heap.size, 0, none⟩) 1 1] w1 (Ret fun v w' => v = .tuple #[] ∧ PWs W w w' b (bs ++ [u]) F) := fun {w1} u e1 => by
    have hb1 : Blk w1 w.heap.size ([u].map u8v) 5 := Blk.new e1
    have hc1 : Ch Non w w1 := Ch.alloc e1
    refine step_call (PenByte_spec (h.p.keepN hc1) hb1.rd (fun i hi he => ?_) (by simp; omega) 1) ?_
    · subst he
      have := h.p.lt
      omega
    rintro v w2 ⟨rfl, hp, hc⟩
    exact ⟨rfl, h.go hc1 hp hc⟩
  refine ⟨g, hx, fun hg => ?_, fun hg => ?_⟩
  · intro w1 e1
    refine step_call (go 1 e1) ?_
    rintro v w2 ⟨rfl, hP⟩
    rw [hg]
    exact ⟨rfl, rfl, hP⟩
  · intro w1 e1
    refine step_call (go 0 e1) ?_
    rintro v w2 ⟨rfl, hP⟩
    rw [hg]
    exact ⟨rfl, rfl, hP⟩
theorem wtext_spec {l : List UInt8} (h : PW W w b bs F) (hx : ∀ w', Ch F w w' → w'.cell? p = some (.string (str l))) (hm : l.length ≤ 100000) (hl : bs.length ≤ 800000) :
    Calls Try.prog i_order_writer_text #[.pointer (some ⟨b, 0, none⟩), .pointer (some p)] w (Ret fun v w' => v = .tuple #[] ∧ PWs W w w' b (bs ++ textB (str l)) F) := by
  refine order_writer_text.calls _ _ ?_
  unfold order_writer_text.vc
  refine ⟨fun w' => Ch F w w', fun w1 e1 => ⟨Ch.drew e1, _, hx, fun w3 e3 => ⟨(Ch.drew e1).same (Ch.alloc e3), ?_⟩⟩⟩
  have hc3 : Ch Non w w3 := (Ch.drew e1).andN (Ch.alloc e3)
  have s1 : w.heap.size = w1.heap.size := by subst e1; rfl
  have hb3 : Blk w3 w1.heap.size ([str l].map .string) 9 := Blk.new e3
  have htl : (textsL [str l]).length ≤ 100004 := by
    simp [textsL, textB, numI_len, str]; omega
  refine step_call (PenText_spec (h.p.keepN hc3) (fun i hi => by have := (h.f i hi).2; have := hb3.lt; omega) hb3.rd (fun i hi => ⟨by rw [hi]; exact hb3.lt, fun hf => by have := (h.f i hf).2; omega⟩) (by omega) (fun s hs => by rw [List.mem_singleton] at hs; subst hs; rw [str_size]; omega) (by simp) 1) ?_
  rintro v w4 ⟨rfl, hp4, hc4⟩
  have hns : textsL [str l] = textB (str l) := by simp [textsL]
  rw [hns] at hp4
  exact ⟨rfl, hc3.any.same hc4, rfl, h.go hc3 hp4 hc4⟩
end
/-- Whether its numbers can be told. -/
def numsOk (c : CmD) : Prop := numOk c.id ∧ numOk c.n ∧ (∀ x ∈ c.prompt, numOk x) ∧ ∀ x ∈ c.draws, numOk x
section
variable {W w : World} {b cb T : Nat} {bs : List UInt8} {F D : Nat → Prop} {q : CmD × RwP}
theorem visitW_spec (h : PW W w b bs F) (hB : Blk w cb (cmE q) T) (hcb : ¬ F cb) (hR : CmR w q D) (hD : ∀ i, D i → ¬ F i) (hDl : ∀ i, D i → i < w.heap.size) (hn : numsOk q.1) (hl : bs.length ≤ 400000) :
    Calls Try.prog i_order_Command_visit #[.pointer (some ⟨cb, 0, none⟩), .iface 132 (.pointer (some ⟨b, 0, none⟩))] w (Ret fun v w' => v = .tuple #[] ∧ PWs W w w' b (bs ++ visB q.1) F) := by
  refine order_Command_visit.calls_w _ _ ?_
  unfold order_Command_visit.vc_w
  obtain ⟨r1, r2, r3, r4, r5⟩ := hR
  obtain ⟨n1, n2, n3, n4⟩ := hn
  have hcl := hB.lt
  have cell : ∀ {i : Nat} {v : Value} {w1 w' : World} {F1 : Nat → Prop}, (cmE q)[i]? = some v → (∀ i, F1 i → Ext F w w1 i) → Ch F w w1 → Ch F1 w1 w' → w'.cell? ⟨cb, i, none⟩ = some v := fun hi hE hc hc1 =>
    ((hB.keep hc hcb).keep hc1 (fun hf => hcb ((hE _ hf).old hcl))).cell _ hi
  refine ⟨_, hB.cell 0 rfl, fun k => ?_, fun k1 => ⟨fun k => ⟨k, ?_⟩, fun k2 => ⟨fun k => ?_, fun k3 => ⟨fun k => ⟨k, ?_⟩, fun k5 => ⟨fun k => ?_, fun k10 => ⟨fun k => ?_, fun k6 => ⟨fun k => ?_, fun k7 => ⟨fun k => ?_, fun k8 => ?_⟩⟩⟩⟩⟩⟩⟩⟩
  · have hv : visB q.1 = numI (q.1.id + half) ++ numI (q.1.n + half) ++ rowB q.1.prompt ++ rowB q.1.draws := by
      unfold visB; rw [eq_of_beq k]; simp [fldsK, fldB]
    refine ⟨fun w' => True, fun w1 e1 => ⟨trivial, ?_⟩⟩
    have h1 := h.keepN (Ch.drew e1)
    refine step_call (wnum_spec h1 (fun w' hc => cell (i := 1) rfl (fun _ hi => .inl hi) (Ch.refl _ _) ((Ch.drew e1).same hc)) n1 (by omega)) ?_
    rintro v w2 ⟨rfl, hP2⟩
    obtain ⟨F2, hp2, hE2, hc2⟩ := hP2.lift (Ch.drew e1)
    refine ⟨rfl, trivial, fun w' => True, fun w3 e3 => ⟨trivial, ?_⟩⟩
    refine step_call (wnum_spec (hp2.keepN (Ch.drew e3)) (fun w' hc => cell (i := 2) rfl hE2 hc2 ((Ch.drew e3).same hc)) n2 (by simp only [List.length_append, numI_len]; omega)) ?_
    rintro v w4 ⟨rfl, hP4⟩
    obtain ⟨F4, hp4, hE4, hc4⟩ := PWs.comp hE2 hc2 (hP4.lift (Ch.drew e3))
    have a4 : ∀ i, D i → ¬ F4 i := fun i hi hf => by
      rcases hE4 i hf with hf | hf
      · exact hD i hi hf
      · have := hDl i hi; have := hf.1; omega
    refine ⟨rfl, trivial, fun w' => True, fun w5 e5 => ⟨trivial, ?_⟩⟩
    refine step_call (wrow_spec (hp4.keepN (Ch.drew e5)) (fun w' hc => cell (i := 4) rfl hE4 hc4 ((Ch.drew e5).same hc)) ((r1.keep hc4 (fun i _ hi hf => hD i hi hf)).keepN (Ch.drew e5)) a4 n3 r3 (by simp only [List.length_append, numI_len]; omega)) ?_
    rintro v w6 ⟨rfl, hP6⟩
    obtain ⟨F6, hp6, hE6, hc6⟩ := PWs.comp hE4 hc4 (hP6.lift (Ch.drew e5))
    have a6 : ∀ i, D i → ¬ F6 i := fun i hi hf => by
      rcases hE6 i hf with hf | hf
      · exact hD i hi hf
      · have := hDl i hi; have := hf.1; omega
    refine ⟨rfl, trivial, fun w' => True, fun w7 e7 => ⟨trivial, ?_⟩⟩
    refine step_call (wrow_spec (hp6.keepN (Ch.drew e7)) (fun w' hc => cell (i := 5) rfl hE6 hc6 ((Ch.drew e7).same hc)) ((r2.keep hc6 (fun i _ hi hf => hD i hi hf)).keepN (Ch.drew e7)) a6 n4 r4 (by simp only [List.length_append, numI_len, rowB, numsL_len, List.length_map]; omega)) ?_
    rintro v w8 ⟨rfl, hP8⟩
    have hP := PWs.comp hE6 hc6 (hP8.lift (Ch.drew e7))
    have e : bs ++ (numI (q.1.id + half) ++ numI (q.1.n + half) ++ rowB q.1.prompt ++ rowB q.1.draws) = bs ++ numI (q.1.id + half) ++ numI (q.1.n + half) ++ rowB q.1.prompt ++ rowB q.1.draws := by simp only [List.append_assoc]
    rw [hv, e]
    exact ⟨rfl, trivial, rfl, hP⟩
  · have hv : visB q.1 = numI (q.1.id + half) := by unfold visB; rw [eq_of_beq k]; simp [fldsK, fldB]
    rw [hv]
    refine ⟨fun w' => True, fun w1 e1 => ⟨trivial, ?_⟩⟩
    refine step_call (wnum_spec (h.keepN (Ch.drew e1)) (fun w' hc => cell (i := 1) rfl (fun _ hi => .inl hi) (Ch.refl _ _) ((Ch.drew e1).same hc)) n1 (by omega)) ?_
    rintro v w2 ⟨rfl, hP2⟩
    exact ⟨rfl, trivial, rfl, hP2.lift (Ch.drew e1)⟩
  · have hv : visB q.1 = numI (q.1.id + half) := by unfold visB; rw [eq_of_beq k]; simp [fldsK, fldB]
    rw [hv]
    refine ⟨fun w' => True, fun w1 e1 => ⟨trivial, ?_⟩⟩
    refine step_call (wnum_spec (h.keepN (Ch.drew e1)) (fun w' hc => cell (i := 1) rfl (fun _ hi => .inl hi) (Ch.refl _ _) ((Ch.drew e1).same hc)) n1 (by omega)) ?_
    rintro v w2 ⟨rfl, hP2⟩
    exact ⟨rfl, trivial, rfl, hP2.lift (Ch.drew e1)⟩
  · have hv : visB q.1 = numI (q.1.n + half) := by unfold visB; rw [eq_of_beq k]; simp [fldsK, fldB]
    rw [hv]
    refine ⟨fun w' => True, fun w1 e1 => ⟨trivial, ?_⟩⟩
    refine step_call (wnum_spec (h.keepN (Ch.drew e1)) (fun w' hc => cell (i := 2) rfl (fun _ hi => .inl hi) (Ch.refl _ _) ((Ch.drew e1).same hc)) n2 (by omega)) ?_
    rintro v w2 ⟨rfl, hP2⟩
    exact ⟨rfl, trivial, rfl, hP2.lift (Ch.drew e1)⟩
  · have hv : visB q.1 = numI (q.1.n + half) := by unfold visB; rw [eq_of_beq k]; simp [fldsK, fldB]
    rw [hv]
    refine ⟨fun w' => True, fun w1 e1 => ⟨trivial, ?_⟩⟩
    refine step_call (wnum_spec (h.keepN (Ch.drew e1)) (fun w' hc => cell (i := 2) rfl (fun _ hi => .inl hi) (Ch.refl _ _) ((Ch.drew e1).same hc)) n2 (by omega)) ?_
    rintro v w2 ⟨rfl, hP2⟩
    exact ⟨rfl, trivial, rfl, hP2.lift (Ch.drew e1)⟩
  · have hv : visB q.1 = [if q.1.good then 1 else 0] := by unfold visB; rw [eq_of_beq k]; simp [fldsK, fldB]
    rw [hv]
    refine ⟨fun w' => True, fun w1 e1 => ⟨trivial, ?_⟩⟩
    refine step_call (wflag_spec (h.keepN (Ch.drew e1)) ((hB.keepN (Ch.drew e1)).cell 3 rfl) (by omega)) ?_
    rintro v w2 ⟨rfl, hP2⟩
    exact ⟨rfl, trivial, rfl, hP2.lift (Ch.drew e1)⟩
  · have hv : visB q.1 = textB (str q.1.data) := by unfold visB; rw [eq_of_beq k]; simp [fldsK, fldB]
    rw [hv]
    refine ⟨fun w' => True, fun w1 e1 => ⟨trivial, ?_⟩⟩
    refine step_call (wtext_spec (h.keepN (Ch.drew e1)) (fun w' hc => cell (i := 6) rfl (fun _ hi => .inl hi) (Ch.refl _ _) ((Ch.drew e1).same hc)) r5 (by omega)) ?_
    rintro v w2 ⟨rfl, hP2⟩
    exact ⟨rfl, trivial, rfl, hP2.lift (Ch.drew e1)⟩
  · have hv : visB q.1 = numI (q.1.n + half) ++ textB (str q.1.data) := by unfold visB; rw [eq_of_beq k]; simp [fldsK, fldB]
    rw [hv]
    refine ⟨fun w' => True, fun w1 e1 => ⟨trivial, ?_⟩⟩
    refine step_call (wnum_spec (h.keepN (Ch.drew e1)) (fun w' hc => cell (i := 2) rfl (fun _ hi => .inl hi) (Ch.refl _ _) ((Ch.drew e1).same hc)) n2 (by omega)) ?_
    rintro v w2 ⟨rfl, hP2⟩
    obtain ⟨F2, hp2, hE2, hc2⟩ := hP2.lift (Ch.drew e1)
    refine ⟨rfl, trivial, fun w' => True, fun w3 e3 => ⟨trivial, ?_⟩⟩
    refine step_call (wtext_spec (hp2.keepN (Ch.drew e3)) (fun w' hc => cell (i := 6) rfl hE2 hc2 ((Ch.drew e3).same hc)) r5 (by simp only [List.length_append, numI_len]; omega)) ?_
    rintro v w4 ⟨rfl, hP4⟩
    rw [← List.append_assoc]
    exact ⟨rfl, trivial, rfl, PWs.comp hE2 hc2 (hP4.lift (Ch.drew e3))⟩
  · have ne : ∀ {k : Int}, (q.1.kind == k) = false → ¬ q.1.kind = k := fun h he => by rw [he] at h; simp at h
    have hv : visB q.1 = [] := by
      unfold visB fldsK
      have := ne k1; have := ne k2; have := ne k3; have := ne k5; have := ne k10; have := ne k6; have := ne k7; have := ne k8
      rw [if_neg (by omega), if_neg (by omega), if_neg (by omega), if_neg (by omega), if_neg (by omega), if_neg (by omega)]; rfl
    rw [hv, List.append_nil]
    exact ⟨rfl, h.s⟩
end
end Go.Proofs.Ytamkffjmggbekaa.Ord
