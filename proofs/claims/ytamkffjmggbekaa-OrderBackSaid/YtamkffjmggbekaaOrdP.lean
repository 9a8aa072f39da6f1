/- The plain law of commands: what was told is read as it was. Of all commands that can be; no program in sight. -/
import Derived.Test.YtamkffjmggbekaaOrd7
set_option linter.unusedVariables false
set_option linter.unusedSimpArgs false
namespace Go.Proofs.Ytamkffjmggbekaa.Ord
open Go Go.Proofs Go.Proofs.Ytamkffjmggbekaa.V Go.Proofs.Ytamkffjmggbekaa.Pen

theorem numI_val {x : Int} (h : 0 ≤ x ∧ x < 4294967296) : (valB (numI x) : Int) = x := by
  have ho : outN x = false := by unfold outN; simp; omega
  unfold numI normN
  rw [ho, if_neg Bool.false_ne_true, valB_num _ (by omega)]; omega
theorem numsL_cons (x : Int) (r : List Int) : numsL (x :: r) = numI x ++ numsL r := by simp [numsL]
theorem numE_num {x : Int} (h : 0 ≤ x ∧ x < 4294967296) (r : List UInt8) {most : Int} (hm : x ≤ most) : ((numE (numI x ++ r, false) most).1 : Int) = x ∧ (numE (numI x ++ r, false) most).2 = (r, false) := by
  have ht : takeE (numI x ++ r, false) 4 = (some (numI x), (r, false)) := by
    unfold takeE
    rw [if_neg (by simp [numI_len])]
    rw [List.take_left' (numI_len x), List.drop_left' (numI_len x)]
  have hv := numI_val h
  have hE : numE (numI x ++ r, false) most = (valB (numI x), (r, false)) := by
    unfold numE
    rw [ht]
    simp only
    rw [if_neg (by omega)]
  rw [hE]
  exact ⟨hv, rfl⟩
theorem textE_text (l : List UInt8) (r : List UInt8) {m : Int} (hm : (l.length : Int) ≤ m) (hl : l.length < 4294967296) : textE (textB (str l) ++ r, false) m = (l, (r, false)) := by
  have e : textB (str l) ++ r = numI l.length ++ (l ++ r) := by unfold textB; rw [str_size, str_data, List.append_assoc]
  obtain ⟨h1, h2⟩ := numE_num (x := (l.length : Int)) (by omega) (l ++ r) hm
  unfold textE
  rw [e, h2, show (numE (numI (l.length : Int) ++ (l ++ r), false) m).1 = l.length by omega]
  unfold takeE
  rw [if_neg (by simp)]
  rw [List.take_left' rfl, List.drop_left' rfl]
  rfl
theorem half_ok {x : Int} (h : numOk x) : 0 ≤ x + half ∧ x + half < 4294967296 := by unfold numOk at h; unfold half; omega
theorem half_id (x : Int) : x + half - half = x := by omega
theorem numsE_nums : ∀ (l : List Int) (r : List UInt8), (∀ x ∈ l, numOk x) → numsE l.length (numsL (l.map (· + half)) ++ r, false) = (l, (r, false))
  | [], r, _ => rfl
  | x :: l, r, h => by
    have hx := h x List.mem_cons_self
    have ih := numsE_nums l r (fun y hy => h y (List.mem_cons_of_mem _ hy))
    obtain ⟨h1, h2⟩ := numE_num (half_ok hx) (numsL (l.map (· + half)) ++ r) (most := maxN) (by have := half_ok hx; unfold maxN; omega)
    rw [List.length_cons, List.map_cons, numsL_cons, List.append_assoc, numsE, h1, h2, ih, half_id]
theorem rowE_row (l : List Int) (r : List UInt8) (h : l.length ≤ 32) (hn : ∀ x ∈ l, numOk x) : rowE (rowB l ++ r, false) = (l, (r, false)) := by
  obtain ⟨h1, h2⟩ := numE_num (x := (l.length : Int)) (by omega) (numsL (l.map (· + half)) ++ r) (most := 32) (by omega)
  have h1 : (numE (numI (l.length : Int) ++ (numsL (l.map (· + half)) ++ r), false) 32).1 = l.length := by omega
  unfold rowE rowB
  rw [List.append_assoc, h1, h2]
  exact numsE_nums l r hn
def setC (c x : CmD) : Fld → CmD
  | .id => { x with id := c.id }
  | .n => { x with n := c.n }
  | .good => { x with good := c.good }
  | .prompt => { x with prompt := c.prompt }
  | .draws => { x with draws := c.draws }
  | .data => { x with data := c.data }
def trimL (l : List Fld) (c : CmD) : CmD := ⟨c.kind, if ((l.map letter).any fun b => (b.toNat : Int) == 105) then c.id else 0, if ((l.map letter).any fun b => (b.toNat : Int) == 110) then c.n else 0, if ((l.map letter).any fun b => (b.toNat : Int) == 103) then c.good else false, if ((l.map letter).any fun b => (b.toNat : Int) == 112) then c.prompt else [], if ((l.map letter).any fun b => (b.toNat : Int) == 100) then c.draws else [], if ((l.map letter).any fun b => (b.toNat : Int) == 116) then c.data else []⟩
def trimH (c : CmD) : CmD := ⟨c.kind, if hasB c.kind 105 then c.id else 0, if hasB c.kind 110 then c.n else 0, if hasB c.kind 103 then c.good else false, if hasB c.kind 112 then c.prompt else [], if hasB c.kind 100 then c.draws else [], if hasB c.kind 116 then c.data else []⟩
theorem flds_all (P : List Fld → Prop) (k : Int) (h1 : P [.id, .n, .prompt, .draws]) (h2 : P [.id]) (h3 : P [.n]) (h4 : P [.good]) (h5 : P [.data]) (h6 : P [.n, .data]) (h7 : P []) : P (fldsK k) := by
  unfold fldsK
  (repeat' split) <;> assumption
theorem want_trimH (c : CmD) (k : Int) : (fldsK c.kind).foldl (setC c) (cm0 k) = { trimH c with kind := k } :=
  flds_all (fun l => l.foldl (setC c) (cm0 k) = { trimL l c with kind := k }) c.kind rfl rfl rfl rfl rfl rfl rfl
def restL (l : List Fld) (c : CmD) : CmD := l.foldl zeroC c
def trimM (l : List Fld) (c : CmD) : CmD := ⟨c.kind, if (restL l c).id ≠ 0 then 0 else c.id, if (restL l c).n ≠ 0 then 0 else c.n, if (restL l c).good = true then false else c.good, if (restL l c).prompt.length > 0 then [] else c.prompt, if (restL l c).draws.length > 0 then [] else c.draws, if (restL l c).data = [] then c.data else []⟩
theorem trim_ML (c : CmD) (k : Int) : trimM (fldsK k) c = trimL (fldsK k) c := by
  obtain ⟨kk, i, n, g, p, d, t⟩ := c
  by_cases hi : i = 0 <;> by_cases hn : n = 0 <;> cases g <;> cases t <;> cases p <;> cases d <;> (refine flds_all (fun l => trimM l _ = trimL l _) k ?_ ?_ ?_ ?_ ?_ ?_ ?_ <;> simp [trimM, trimL, restL, zeroC, letter, hi, hn])
theorem trimC_H (c : CmD) : trimC c = if badK c.kind then cm0 0 else trimH c := by
  unfold trimC
  split
  · rfl
  · exact trim_ML c c.kind
theorem trimH_id {c : CmD} (h : restC c = cm0 c.kind) : trimH c = c := by
  have h := decide_eq_true h
  rw [rest_has] at h
  simp only [Bool.and_eq_true, Bool.or_eq_true, decide_eq_true_eq, Bool.not_eq_true'] at h
  obtain ⟨h1, h2, h3, h4, h5, h6⟩ := h
  obtain ⟨k, i, n, g, p, d, t⟩ := c
  unfold trimH
  simp only at h1 h2 h3 h4 h5 h6 ⊢
  congr 1
  · split
    · rfl
    · exact (h1.resolve_right (by assumption)).symm
  · split
    · rfl
    · exact (h2.resolve_right (by assumption)).symm
  · split
    · rfl
    · exact (h3.resolve_right (by assumption)).symm
  · split
    · rfl
    · exact (h4.resolve_right (by assumption)).symm
  · split
    · rfl
    · exact (h5.resolve_right (by assumption)).symm
  · split
    · rfl
    · exact (h6.resolve_right (by assumption)).symm
theorem readF_fld {c : CmD} (h : GoodP c) (x : CmD) (f : Fld) (r : List UInt8) : readF (x, (fldB c f ++ r, false), false) f = (setC c x f, (r, false), false) := by
  cases f
  · obtain ⟨h1, h2⟩ := numE_num (half_ok h.i) r (most := maxN) (by have := half_ok h.i; unfold maxN; omega)
    show ({ x with id := ((numE (numI (c.id + half) ++ r, false) maxN).1 : Int) - half }, (numE (numI (c.id + half) ++ r, false) maxN).2, false) = _
    rw [h1, h2, half_id]; rfl
  · obtain ⟨h1, h2⟩ := numE_num (half_ok h.n) r (most := maxN) (by have := half_ok h.n; unfold maxN; omega)
    show ({ x with n := ((numE (numI (c.n + half) ++ r, false) maxN).1 : Int) - half }, (numE (numI (c.n + half) ++ r, false) maxN).2, false) = _
    rw [h1, h2, half_id]; rfl
  · have hb : fldB c .good ++ r = (if c.good then 1 else 0) :: r := rfl
    have ht : ∀ (a : UInt8) (r : List UInt8), byteE (a :: r, false) = (a, (r, false)) := fun a r => by unfold byteE takeE; simp
    show ({ x with good := (byteE (fldB c .good ++ r, false)).1 == 1 }, (byteE (fldB c .good ++ r, false)).2, (false || decide ((byteE (fldB c .good ++ r, false)).1.toNat > 1))) = _
    rw [hb, ht]
    show _ = ({ x with good := c.good }, (r, false), false)
    cases c.good <;> rfl
  · show ({ x with prompt := (rowE (rowB c.prompt ++ r, false)).1 }, (rowE (rowB c.prompt ++ r, false)).2, false) = _
    rw [rowE_row _ _ h.p.1 h.p.2]; rfl
  · show ({ x with draws := (rowE (rowB c.draws ++ r, false)).1 }, (rowE (rowB c.draws ++ r, false)).2, false) = _
    rw [rowE_row _ _ h.d.1 h.d.2]; rfl
  · have ht := h.t
    show ({ x with data := (textE (textB (str c.data) ++ r, false) 1024).1 }, (textE (textB (str c.data) ++ r, false) 1024).2, false) = _
    rw [textE_text _ _ (by omega) (by omega)]; rfl
theorem reads_flds {c : CmD} (h : GoodP c) : ∀ (l : List Fld) (x : CmD) (r : List UInt8), l.foldl readF (x, ((l.map (fldB c)).flatten ++ r, false), false) = (l.foldl (setC c) x, (r, false), false)
  | [], x, r => rfl
  | f :: l, x, r => by
    rw [List.map_cons, List.flatten_cons, List.append_assoc, List.foldl_cons, List.foldl_cons, readF_fld h, reads_flds h l]
theorem parse_bytes {c : CmD} (h : GoodP c) : parseC (bytesC c) = some c := by
  have hk := kinds h.k
  have hb : byteE (bytesC c, false) = (UInt8.ofNat c.kind.toNat, (visB c, false)) := by unfold byteE takeE bytesC; simp
  have hkk : (((UInt8.ofNat c.kind.toNat).toNat : Nat) : Int) = c.kind := by rw [UInt8.toNat_ofNat']; omega
  have hv : visE c.kind (visB c, false) = (c, ([], false), false) := by
    have := reads_flds h (fldsK c.kind) (cm0 c.kind) []
    rw [List.append_nil, want_trimH, trimH_id h.r] at this
    exact this
  unfold parseC
  rw [hb]
  dsimp only
  rw [hkk, hv]
  exact if_pos ⟨rfl, rfl, h.k⟩
theorem bytes_inj {a b : CmD} (ha : GoodP a) (hb : GoodP b) : bytesC a = bytesC b ↔ a = b := by
  constructor
  · intro h
    have h1 := parse_bytes ha
    rw [h, parse_bytes hb, Option.some.injEq] at h1
    exact h1.symm
  · rintro rfl; rfl
theorem splitL_all {m : Int} : ∀ (cs : List CmD) (acc : List CmD) (r : List UInt8), (∀ c ∈ cs, GoodP c ∧ ((bytesC c).length : Int) ≤ m) → splitL m cs.length ((cs.map fun c => textB (str (bytesC c))).flatten ++ r, false) acc = some (acc ++ cs, (r, false))
  | [], acc, r, _ => by rw [List.length_nil, splitL_zero]; simp
  | c :: cs, acc, r, h => by
    obtain ⟨hg, hm⟩ := h c List.mem_cons_self
    have hl := bytesC_len hg
    rw [List.length_cons, splitL_succ, List.map_cons, List.flatten_cons, List.append_assoc, textE_text _ _ hm (by omega)]
    dsimp only
    rw [parse_bytes hg]
    dsimp only
    rw [splitL_all cs _ _ (fun x hx => h x (List.mem_cons_of_mem _ hx)), List.append_assoc]; rfl
theorem flat_mem {cs : List CmD} {c : CmD} (h : c ∈ cs) : (bytesC c).length ≤ ((cs.map fun c => textB (str (bytesC c))).flatten).length := by
  induction cs with
  | nil => cases h
  | cons a r ih =>
    rw [List.map_cons, List.flatten_cons, List.length_append]
    rcases List.mem_cons.1 h with h | h
    · subst h
      have : (textB (str (bytesC c))).length = 4 + (bytesC c).length := by unfold textB; rw [List.length_append, numI_len, str_data]
      omega
    · have := ih h; omega
theorem split_all {cs : List CmD} (h : ∀ c ∈ cs, GoodP c) (hl : cs.length ≤ 400) : splitC (allB cs) = some cs := by
  obtain ⟨h1, h2⟩ := numE_num (x := (cs.length : Int)) (by omega) ((cs.map fun c => textB (str (bytesC c))).flatten) (most := 400) (by omega)
  have hs := splitL_all (m := ((allB cs).length : Int)) cs [] [] (fun c hc => ⟨h c hc, by
    have := flat_mem hc
    unfold allB; rw [List.length_append]; omega⟩)
  rw [List.append_nil, List.nil_append] at hs
  have e1 : (numE (allB cs, false) 400).1 = cs.length := by unfold allB; omega
  have e2 : (numE (allB cs, false) 400).2 = ((cs.map fun c => textB (str (bytesC c))).flatten, false) := h2
  unfold splitC
  rw [e1, e2, hs]
  rfl
/-! What the statement makes of a command. -/
def sm (x : Int) : Int := IntKind.i64.wrap (IntKind.i32.wrap x)
theorem sm_ok (x : Int) : numOk (sm x) := by
  have h : IntKind.i32.wrap x = (x + 2147483648) % 4294967296 - 2147483648 := by
    unfold IntKind.wrap; simp [IntKind.bits, IntKind.signed]; omega
  unfold sm numOk
  rw [h, wrap_id (by omega) (by omega)]
  omega
def fitX (x : CmD) : CmD := ⟨x.kind, sm x.id, sm x.n, x.good, (x.prompt.take 32).map sm, (x.draws.take 32).map sm, x.data.take 1024⟩
def fitC (c : CmD) : CmD := fitX (trimC c)
theorem sm0 : sm 0 = 0 := by decide
theorem fit_kind (c : CmD) : (fitC c).kind = if badK c.kind then 0 else c.kind := by
  show (trimC c).kind = _
  rw [trimC_H]; split <;> rfl
theorem fit_good {c : CmD} (h : ¬ badK c.kind) : GoodP (fitC c) := by
  have hk := fit_kind c
  rw [if_neg h] at hk
  have ht : trimC c = trimH c := by rw [trimC_H, if_neg h]
  have hx : ∀ l : List Int, (∀ x ∈ (l.take 32).map sm, numOk x) := fun l x hx => by
    obtain ⟨y, _, rfl⟩ := List.mem_map.1 hx
    exact sm_ok y
  have hl : ∀ l : List Int, ((l.take 32).map sm).length ≤ 32 := fun l => by rw [List.length_map, List.length_take]; omega
  refine ⟨by rw [hk]; exact h, ?_, sm_ok _, sm_ok _, ⟨hl _, hx _⟩, ⟨hl _, hx _⟩, by show ((trimC c).data.take 1024).length ≤ 1024; rw [List.length_take]; omega⟩
  refine of_decide_eq_true ?_
  rw [rest_has, hk]
  have e : ∀ (b : Bool) (x : Int), (decide (sm (if b = true then x else 0) = 0) || b) = true := fun b x => by cases b <;> simp [sm0]
  have e3 : ∀ (b g : Bool), ((!(if b = true then g else false)) || b) = true := fun b x => by cases b <;> simp
  have e4 : ∀ (b : Bool) (x : List Int), (decide (((if b = true then x else []).take 32).map sm = []) || b) = true := fun b x => by cases b <;> simp
  have e6 : ∀ (b : Bool) (x : List UInt8), (decide ((if b = true then x else []).take 1024 = []) || b) = true := fun b x => by cases b <;> simp
  unfold fitC
  rw [ht]
  unfold fitX trimH
  dsimp only
  rw [e, e, e3, e4, e4, e6]; rfl
end Go.Proofs.Ytamkffjmggbekaa.Ord
