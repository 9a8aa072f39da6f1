/- For every world of the model: what the laws' own helpers of the ward answer; the conditions stand in each theorem. -/
import Derived.Test.YtamkffjmggbekaaWard4
import Derived.Test.YtamkffjmggbekaaStr
import Derived.Test.YtamkffjmggbekaaVcWardL
set_option linter.unusedVariables false
set_option linter.unusedSimpArgs false
namespace Go.Proofs.Ytamkffjmggbekaa.Ward
open Go Go.Proofs Go.Proofs.Ytamkffjmggbekaa.V Go.Proofs.Ytamkffjmggbekaa.Vc Go.Proofs.Ytamkffjmggbekaa.Conf Go.RowKit

def findL (al : List AskD) (id : Int) : Int := if al.findIdx (fun a => a.id == id) < al.length then (al.findIdx (fun a => a.id == id) : Int) else -1
theorem findIdx_map (qs : List (AskD × AskP)) (id : Int) : (qs.map (·.1)).findIdx (fun a => a.id == id) = qs.findIdx (idB id) := by
  rw [List.findIdx_map]; rfl
theorem findQ_eq (qs : List (AskD × AskP)) (id : Int) : findQ qs id = findL (qs.map (·.1)) id := by
  unfold findQ findL
  rw [findIdx_map, List.length_map]
def subL (cf : CfD) (pages : Int) (al : List AskD) (a : AskD) : Int :=
  if a.id < 1 ∨ a.id > 2147483647 ∨ (a.draws.length : Int) > 32 then 1 else if findL al a.id ≥ 0 then 9 else if checkV cf a.most a.prompt ≠ 0 then checkV cf a.most a.prompt else if needN a > pages then 11 else if (al.length : Int) ≥ 16 then 10 else 0
theorem subV_eq (cf : CfD) (pages : Int) (qs : List (AskD × AskP)) (a : AskD) : subV cf pages qs a = subL cf pages (qs.map (·.1)) a := by
  unfold subV subL
  rw [findQ_eq, List.length_map]
def c24 : CfD := ⟨3, 1, 1, 1, 1, 12⟩
theorem shape_spec (w : World) : Calls Try.prog i_coadjutorlaw24_shape #[] w (Ret fun v w' => v = .agg (cfE c24).toArray ∧ Ch Non w w') := by
  refine coadjutorlaw24_shape.calls ?_
  unfold coadjutorlaw24_shape.vc
  intro w1 e1
  have hA := Blk.new e1
  refine ⟨⟨hA.ok 0 rfl, hA.ok 1 rfl, hA.ok 2 rfl, hA.ok 3 rfl, hA.ok 4 rfl, hA.ok 5 rfl⟩, fun w2 e2 => ?_⟩
  have e2' : w2 = w1.setCells w.heap.size 0 (cfE c24) := e2
  have hA2 := hA.all (cfE c24) rfl e2'
  exact ⟨_, _, _, _, _, _, ⟨hA2.cell 0 rfl, hA2.cell 1 rfl, hA2.cell 2 rfl, hA2.cell 3 rfl, hA2.cell 4 rfl, hA2.cell 5 rfl⟩, rfl, (Ch.alloc (F := Non) e1).trans (Ch.sets (F := (· = w.heap.size)) e2' rfl) (fun i hi he => by omega)⟩
def w24 : ByteArray := ⟨(List.replicate 25 (0 : UInt8)).toArray⟩
set_option maxRecDepth 100000 in
theorem ok24 : okC c24 ∧ (w24.size : Int) = allN c24 := by decide
set_option maxRecDepth 100000 in
theorem conv24 {w w1 : World} {b : Nat} (e : w1 = w.alloc (.cells (zeroRow [(.int .u8 0)] (25 : Int).toNat).toArray 5 (0, 0))) {w2 : World} (hc : Ch Non w1 w2) (hb : b = w.heap.size) :
    (convert 99 9 (.slice (some ⟨b, 0, none⟩) ((25 : Int).toNat) ((25 : Int).toNat))).run Try.prog w2 = .ok (.string w24) w2 := by
  subst hb
  have hB := (Blk.new e).keepN hc
  have hr : Rd w2 (some ⟨w.heap.size, 0, none⟩) ((List.replicate 25 (0 : UInt8)).map u8v) (· = w.heap.size) := hB.rd
  exact conv_out (src := 99) (dst := 9) (e := 5) (c := 25) hr (by kernel_rfl) (by kernel_rfl) (by kernel_rfl)
theorem zeros_spec (w : World) : Calls Try.prog i_coadjutorlaw24_zeros #[] w (Ret fun v w' => ∃ b, v = .pointer (some ⟨b, 0, none⟩) ∧ w.heap.size ≤ b ∧ BrR w' b c24 w24 ∧ Ch Non w w') := by
  refine coadjutorlaw24_zeros.calls ?_
  unfold coadjutorlaw24_zeros.vc
  have fin : ∀ {w' : World}, Ch Non w w' → Calls Try.prog i_brain_Of #[.agg (cfE c24).toArray, .string w24] w' (Ret fun v w'' => ∃ (x : Option Addr) (y : Int), v = .tuple #[.pointer x, .int .i64 y] ∧ True ∧ ∃ b, Value.pointer x = .pointer (some ⟨b, 0, none⟩) ∧ w.heap.size ≤ b ∧ BrR w'' b c24 w24 ∧ Ch Non w w'') := fun {w'} hc => by
    refine step_call (brOf_spec w' c24 w24) ?_
    rintro v w'' ⟨hc2, h1, _, _⟩
    obtain ⟨b, rfl, hb, hB⟩ := h1 ok24
    exact ⟨_, _, rfl, trivial, b, rfl, by have := hc.size; omega, hB, hc.andN hc2⟩
  refine ⟨fun _ => True, fun w1 e1 => ⟨trivial, ?_, ⟨⟨rfl, by omega, by omega⟩, fun w6 e6 => ⟨trivial, ?_, ?_, trivial⟩⟩, trivial⟩⟩
  · refine step_call (shape_spec w1) ?_
    rintro v w2 ⟨rfl, hc2⟩
    refine ⟨_, _, _, _, _, _, rfl, trivial, ⟨rfl, by omega, by omega⟩, fun w3 e3 => ⟨trivial, w24, w3, conv24 e3 (Ch.refl _ _) rfl, trivial, ?_⟩⟩
    exact fin (((Ch.drew e1).andN hc2).andN (Ch.alloc e3))
  · refine step_call (shape_spec w6) ?_
    rintro v w7 ⟨rfl, hc7⟩
    refine ⟨_, _, _, _, _, _, rfl, trivial, w24, w7, conv24 e6 hc7 rfl, trivial, ?_⟩
    exact fin (((Ch.drew e1).andN (Ch.alloc e6)).andN hc7)
  · refine ⟨w24, w6, conv24 e6 (Ch.refl _ _) rfl, trivial, ?_⟩
    refine step_call (shape_spec w6) ?_
    rintro v w7 ⟨rfl, hc7⟩
    refine ⟨_, _, _, _, _, _, rfl, trivial, ?_⟩
    exact fin (((Ch.drew e1).andN (Ch.alloc e6)).andN hc7)
theorem ints_spec {w : World} {o ob : Option Addr} {xs ys : List Int} {F G : Nat → Prop} (ha : Rd w o (xs.map (.int .i64)) F) (hb : Rd w ob (ys.map (.int .i64)) G) (hl : xs.length ≤ 1000000000) (c cb : Nat) :
    Calls Try.prog i_coadjutorlaw24_ints #[.slice o xs.length c, .slice ob ys.length cb] w (Ret fun v w' => v = .bool (decide (xs = ys)) ∧ Ch Non w w') := by
  refine coadjutorlaw24_ints.calls _ _ _ _ _ _ ?_
  unfold coadjutorlaw24_ints.vc
  refine ⟨fun h => ?_, fun h => ?_⟩
  · have h : xs.length ≠ ys.length := by simp at h; omega
    exact ⟨by rw [decide_eq_false (fun e => h (by rw [e]))], Ch.refl _ _⟩
  have h : xs.length = ys.length := by simp at h; omega
  refine ⟨fun i k w' => ∃ j : Nat, i = j ∧ j ≤ xs.length ∧ k = xs.length - j ∧ xs.take j = ys.take j ∧ Ch Non w w', ⟨_, 0, rfl, Nat.zero_le _, rfl, rfl, Ch.refl _ _⟩, ?_⟩
  rintro jk i k w1 ⟨j, rfl, hj, rfl, he, hc⟩
  refine ⟨fun hlt => ?_, fun hge => ?_⟩
  · have hlt : j < xs.length := by simpa using hlt
    have hlt2 : j < ys.length := by omega
    refine ⟨fun w2 => Ch Non w w2, fun w2 e2 => ⟨hc.andN (Ch.drew e2), ⟨by omega, by omega⟩, Rd.keeps (j := (j : Int).toNat * 1) (S := fun w2 => Ch Non w w2) (fun w2 h2 => ha.keepN h2) hc (by simpa using hlt) fun p hp => ⟨_, hp, ⟨by omega, by omega⟩,
      Rd.keeps (j := (j : Int).toNat * 1) (S := fun w2 => Ch Non w w2) (fun w2 h2 => hb.keepN h2) hc (by simpa using hlt2) fun p2 hp2 => ⟨_, hp2, fun hne => ?_, fun heq => ?_⟩⟩⟩⟩
    · refine ⟨?_, hc.andN (Ch.drew e2)⟩
      rw [decide_eq_false]
      intro e
      subst e
      simp at hne
    · have heq : xs[j] = ys[j] := by simpa using heq
      refine ⟨xs.length - (j + 1), by omega, j + 1, by rw [wrap_id (by omega) (by omega)]; rfl, hlt, rfl, ?_, hc.andN (Ch.drew e2)⟩
      rw [take_snoc xs j hlt, take_snoc ys j hlt2, he, heq]
  · have : j = xs.length := by simp at hge; omega
    subst this
    rw [List.take_length, h, List.take_length] at he
    exact ⟨by rw [decide_eq_true he], hc⟩
section
variable {W w w' : World} {q q' : AskD × AskP} {F F' D G : Nat → Prop} {wb : Nat} {pages : Int} {al : List AskD}
theorem alike_spec (h : AskR w q F) (h' : AskR w q' G) : Calls Try.prog i_coadjutorlaw24_alike #[.agg (askE q).toArray, .agg (askE q').toArray] w (Ret fun v w' => v = .bool (decide (q.1 = q'.1)) ∧ Ch Non w w') := by
  refine coadjutorlaw24_alike.calls _ _ _ _ _ _ _ _ _ _ _ _ _ _ _ _ _ _ ?_
  unfold coadjutorlaw24_alike.vc
  intro w1 e1 w2 e2
  have hA := (Blk.new e1).alloc e2
  have hB := Blk.new e2
  have hc : Ch Non w w2 := (Ch.alloc e1).andN (Ch.alloc e2)
  have ne : ∀ {x y : Int}, (x == y) = false → ¬ x = y := fun h he => by subst he; simp at h
  have no : ∀ {w'}, Ch Non w2 w' → (q.1.id = q'.1.id ∧ q.1.ver = q'.1.ver ∧ q.1.most = q'.1.most ∧ q.1.prompt = q'.1.prompt ∧ q.1.draws = q'.1.draws → False) → Value.bool false = .bool (decide (q.1 = q'.1)) ∧ Ch Non w w' := fun hc' h => ⟨by rw [decide_eq_false (fun he => h ((ask_eq _ _).1 he))], hc.andN hc'⟩
  refine ⟨_, hA.cell 0 rfl, _, hB.cell 0 rfl, fun h1 => ?_, fun h => no (Ch.refl _ _) (fun k => ne h k.1)⟩
  refine ⟨_, hA.cell 1 rfl, _, hB.cell 1 rfl, fun h2 => ?_, fun h => no (Ch.refl _ _) (fun k => ne h k.2.1)⟩
  refine ⟨_, hA.cell 3 rfl, _, hB.cell 3 rfl, fun h3 => ?_, fun h => no (Ch.refl _ _) (fun k => ne h k.2.2.1)⟩
  refine ⟨_, _, _, hA.cell 2 rfl, _, _, _, hB.cell 2 rfl, ?_⟩
  obtain ⟨r1, r2, l1, l2⟩ := h
  obtain ⟨s1, s2, _, _⟩ := h'
  refine step_call (ints_spec (r1.keepN hc) (s1.keepN hc) (by omega) _ _) ?_
  rintro v w3 ⟨rfl, hc3⟩
  refine ⟨_, rfl, fun h4 => ?_, fun h => no hc3 (fun k => of_decide_eq_false h k.2.2.2.1)⟩
  refine ⟨_, _, _, (hA.keepN hc3).cell 4 rfl, _, _, _, (hB.keepN hc3).cell 4 rfl, ?_⟩
  refine step_call (ints_spec ((r2.keepN hc).keepN hc3) ((s2.keepN hc).keepN hc3) (by omega) _ _) ?_
  rintro v w4 ⟨rfl, hc4⟩
  refine ⟨_, rfl, ?_, (hc.andN hc3).andN hc4⟩
  congr 1
  by_cases h5 : q.1.draws = q'.1.draws
  · rw [decide_eq_true h5, decide_eq_true ((ask_eq _ _).2 ⟨eq_of_beq h1, eq_of_beq h2, eq_of_beq h3, of_decide_eq_true h4, h5⟩)]
  · rw [decide_eq_false h5, decide_eq_false (fun he => h5 ((ask_eq _ _).1 he).2.2.2.2)]
/-- A request laid in a new block. -/
theorem askNew {w w1 w2 : World} {T : Nat} (q : AskD × AskP) (e1 : w1 = w.alloc (.cells #[.int .i64 0, .int .i64 0, .slice none 0 0, .int .i64 0, .slice none 0 0] T (0, 0))) (e2 : w2 = w1.setCells w.heap.size 0 (askE q)) : Blk w2 w.heap.size (askE q) T ∧ Ch Non w w2 :=
  ⟨(Blk.new e1).all (askE q) rfl e2, (Ch.alloc (F := Non) e1).trans (Ch.sets (F := (· = w.heap.size)) e2 rfl) (fun i hi he => by omega)⟩
theorem form_spec (w : World) (q : AskD × AskP) : Calls Try.prog i_coadjutorlaw24_form #[.agg (askE q).toArray] w (Ret fun v w' => v = .agg (askE q).toArray ∧ Ch Non w w') := by
  refine coadjutorlaw24_form.calls _ _ _ _ _ _ _ _ _ ?_
  unfold coadjutorlaw24_form.vc
  intro w1 e1 w2 e2
  have hA := (Blk.new e1).alloc e2
  have hB := Blk.new e2
  refine ⟨_, hA.cell 0 rfl, _, hA.cell 1 rfl, _, _, _, hA.cell 2 rfl, _, hA.cell 3 rfl, _, _, _, hA.cell 4 rfl, ⟨hB.ok 0 rfl, hB.ok 1 rfl, hB.ok 2 rfl, hB.ok 3 rfl, hB.ok 4 rfl⟩, fun w3 e3 => ?_⟩
  obtain ⟨hB3, hc3⟩ := askNew q e2 e3
  exact ⟨_, _, _, _, _, _, _, _, _, ⟨hB3.cell 0 rfl, hB3.cell 1 rfl, hB3.cell 2 rfl, hB3.cell 3 rfl, hB3.cell 4 rfl⟩, rfl, (Ch.alloc e1).andN hc3⟩
/-- A ward as the law sees it. -/
structure WS (W w : World) (wb : Nat) (pages : Int) (al : List AskD) (F : Nat → Prop) : Prop where
  x : ∃ (qs : List (AskD × AskP)) (D : Nat → Prop), WX W w wb pages qs F D ∧ qs.map (·.1) = al
  c : Ch Non W w
  f : Foot W w F
theorem WS.keepN (h : WS W w wb pages al F) (hc : Ch Non w w') : WS W w' wb pages al F := by
  obtain ⟨⟨qs, D, hx, he⟩, hC, hf⟩ := h
  exact ⟨⟨qs, D, hx.keepN hc, he⟩, hC.andN hc, hf.le hc.size⟩
theorem WS.far (h : WS W w wb pages al F) (hc : Ch G w w') (hG : ∀ i, i < w.heap.size → G i → W.heap.size ≤ i ∧ ¬ F i) : WS W w' wb pages al F := by
  obtain ⟨⟨qs, D, hx, he⟩, hC, hf⟩ := h
  have h2 := hx.far hc hG
  exact ⟨⟨qs, D, h2, he⟩, h2.c, h2.f⟩
theorem WX.ws {qs : List (AskD × AskP)} (h : WX W w wb pages qs F D) (he : qs.map (·.1) = al) : WS W w wb pages al F := ⟨⟨qs, D, h, he⟩, h.c, h.f⟩
theorem wNew_spec {W w : World} (hW : Ch Non W w) (n : Int) (h1 : 1 ≤ n) (h2 : n ≤ 64) : Calls Try.prog i_ward_New #[.int .i64 n] w (Ret fun v w' => ∃ (wb : Nat) (F : Nat → Prop), v = .pointer (some ⟨wb, 0, none⟩) ∧ WS W w' wb n [] F ∧ (∀ i, F i → w.heap.size ≤ i) ∧ Ch Non w w') := by
  refine step_call (New_spec w n) ?_
  rintro v w' ⟨hN, _, hc⟩
  obtain ⟨rfl, hw⟩ := hN ⟨h1, h2⟩
  refine ⟨_, _, rfl, (WX.mk hw (fun i hi => ?_) (hW.andN hc)).ws rfl, fun i hi => by omega, hc⟩
  obtain ⟨o, c, Fa, hC⟩ := hw
  exact ⟨by have := hW.size; omega, hC.lt i hi⟩
theorem wSubmit_spec {b : Nat} {cf : CfD} {wt : ByteArray} (h : WS W w wb pages al F) (hb : BrR w b cf wt) (hq : AskR w q G) (hn : al.length < 900) :
    Calls Try.prog i_ward_Ward_Submit #[.pointer (some ⟨wb, 0, none⟩), .pointer (some ⟨b, 0, none⟩), .agg (askE q).toArray] w (Ret fun v w' => v = .int .i64 (subL cf pages al q.1) ∧ ∃ F', WS W w' wb pages (if subL cf pages al q.1 = 0 then al ++ [q.1] else al) F' ∧ (∀ i, F' i → Ext F w w' i) ∧ Ch F w w') := by
  obtain ⟨⟨qs, D, hx, rfl⟩, hC, hf⟩ := h
  rw [List.length_map] at hn
  refine step_call (Submit_spec hx hb hq hn) ?_
  rintro v w' ⟨rfl, qs', F', D', hx', he, hE, hc⟩
  rw [subV_eq] at he ⊢
  exact ⟨rfl, F', hx'.ws he, hE, hc⟩
theorem wTake_spec (h : WS W w wb pages al F) (hn : al.length < 1000) : Calls Try.prog i_ward_Ward_Take #[.pointer (some ⟨wb, 0, none⟩)] w (Ret fun v w' => ∃ (p : AskP) (F' : Nat → Prop), v = .tuple #[.agg (askE (al.headD ask0.1, p)).toArray, .bool (decide (0 < al.length))] ∧ AskR w' (al.headD ask0.1, p) F ∧ WS W w' wb pages al.tail F' ∧ (∀ i, F' i → Ext F w w' i) ∧ Ch F w w') := by
  obtain ⟨⟨qs, D, hx, rfl⟩, hC, hf⟩ := h
  rw [List.length_map] at hn ⊢
  refine step_call (Take_spec hx hn) ?_
  rintro v w' ⟨rfl, hd, F', hx', hE, hc⟩
  have hD : ∀ i, D i → F i := fun i hi => by
    obtain ⟨o, c, Fa, hC⟩ := hx.x
    exact (hC.fd i hi).1
  cases qs with
  | nil => exact ⟨ask0.2, F', rfl, ⟨Rd.nil _ _ _, Rd.nil _ _ _, by simp [ask0], by simp [ask0]⟩, hx'.ws rfl, hE, hc⟩
  | cons q r => exact ⟨q.2, F', rfl, (hd q List.mem_cons_self).mono (fun i _ hi => hD i hi), hx'.ws rfl, hE, hc⟩
theorem wCancel_spec (h : WS W w wb pages al F) (hn : al.length < 1000) (id : Int) : Calls Try.prog i_ward_Ward_Cancel #[.pointer (some ⟨wb, 0, none⟩), .int .i64 id] w (Ret fun v w' => v = .int .i64 (if findL al id ≥ 0 then 0 else 8) ∧ ∃ F', WS W w' wb pages (if findL al id ≥ 0 then al.eraseIdx (al.findIdx fun a => a.id == id) else al) F' ∧ (∀ i, F' i → Ext F w w' i) ∧ Ch F w w') := by
  obtain ⟨⟨qs, D, hx, rfl⟩, hC, hf⟩ := h
  rw [List.length_map] at hn
  refine step_call (Cancel_spec hx hn id) ?_
  rintro v w' ⟨rfl, hd, F', hx', hE, hc⟩
  rw [findQ_eq] at hx' ⊢
  refine ⟨rfl, F', hx'.ws ?_, hE, hc⟩
  rw [findIdx_map]
  split
  · rw [eraseIdx_td, eraseIdx_td, List.map_append, List.map_take, List.map_drop]
  · rfl
theorem wBack_spec (h : WS W w wb pages al F) (hq : AskR w q G) (hn : al.length < 900) :
    Calls Try.prog i_ward_Ward_Back #[.pointer (some ⟨wb, 0, none⟩), .agg (askE q).toArray] w (Ret fun v w' => v = .int .i64 (if findL al q.1.id ≥ 0 then 9 else 0) ∧ ∃ F', WS W w' wb pages (if findL al q.1.id ≥ 0 then al else q.1 :: al) F' ∧ (∀ i, F' i → Ext F w w' i) ∧ Ch F w w') := by
  obtain ⟨⟨qs, D, hx, rfl⟩, hC, hf⟩ := h
  rw [List.length_map] at hn
  refine step_call (Back_spec hx hq hn) ?_
  rintro v w' ⟨rfl, qs', F', D', hx', he, hE, hc⟩
  rw [findQ_eq] at he ⊢
  exact ⟨rfl, F', hx'.ws he, hE, hc⟩
theorem wIds_spec (h : WS W w wb pages al F) (hn : al.length < 1000) : Calls Try.prog i_ward_Ward_Ids #[.pointer (some ⟨wb, 0, none⟩)] w (Ret fun v w' => ∃ (o : Option Addr) (c : Nat), v = .slice o al.length c ∧ Rd w' o ((al.map (·.id)).map (.int .i64)) (New w w') ∧ Ch Non w w') := by
  obtain ⟨⟨qs, D, hx, rfl⟩, hC, hf⟩ := h
  rw [List.length_map] at hn
  refine step_call (Ids_spec hx hn) ?_
  rintro v w' ⟨o, c, rfl, hr, hc⟩
  have hm : (qs.map (·.1)).map (·.id) = qs.map (·.1.id) := by rw [List.map_map]; rfl
  rw [List.length_map, hm]
  exact ⟨o, c, rfl, hr, hc⟩
def ofL (vs : List Int) (al : List AskD) : List Int := (al.filter fun a => decide (a.ver ∈ vs)).map (·.id)
theorem ofQ_eq (vs : List Int) (qs : List (AskD × AskP)) : ofQ vs qs = ofL vs (qs.map (·.1)) := by
  unfold ofQ ofL
  rw [List.filter_map, List.map_map]
  rfl
theorem wOf_spec {vo : Option Addr} {vs : List Int} (h : WS W w wb pages al F) (hn : al.length < 1000) (hr : Rd w vo (vs.map (.int .i64)) G) (hl : vs.length ≤ 1000000) (vc : Nat) :
    Calls Try.prog i_ward_Ward_Of #[.pointer (some ⟨wb, 0, none⟩), .slice vo vs.length vc] w (Ret fun v w' => ∃ (o : Option Addr) (c : Nat), v = .slice o (ofL vs al).length c ∧ Rd w' o ((ofL vs al).map (.int .i64)) (New w w') ∧ Ch Non w w') := by
  obtain ⟨⟨qs, D, hx, rfl⟩, hC, hf⟩ := h
  rw [List.length_map] at hn
  refine step_call (Of_spec hx hn hr hl vc) ?_
  rintro v w' ⟨o, c, rfl, hr, hc⟩
  rw [ofQ_eq] at hr ⊢
  exact ⟨o, c, rfl, hr, hc⟩
/-- A block that isn't the ward's stays so. -/
theorem ext_not {i : Nat} (hE : ∀ i, F' i → Ext F w w' i) (hi : i < w.heap.size) (hF : ¬ F i) : ¬ F' i := fun h => hF ((hE i h).old hi)
end
end Go.Proofs.Ytamkffjmggbekaa.Ward
