/- For all models, entries and tokens: what a token's walk through a model comes to, in plain Lean; no program in sight. -/
import Derived.Test.YtfhnegfoglngoaaBrain
import Derived.Test.YtfhnegfoglngoaaNorm
import Derived.Test.YtfhnegfoglngoaaAct
import Derived.Test.YtfhnegfoglngoaaSoft3
set_option linter.unusedVariables false
set_option linter.unusedSimpArgs false
namespace Go.Proofs.Ytfhnegfoglngoaa.Stp
open Go Go.Proofs Go.Proofs.Ytfhnegfoglngoaa.V Go.Proofs.Ytfhnegfoglngoaa.Vc Go.Proofs.Ytfhnegfoglngoaa.Conf Go.Proofs.Ytfhnegfoglngoaa.Brain Go.Proofs.Ytfhnegfoglngoaa.Num Go.RowKit

/-- A model. -/
structure Md (c : CfD) (wt : ByteArray) : Prop where
  ok : okC c
  sz : (wt.size : Int) = allN c
def times (c : CfD) (wt : ByteArray) (p b : Nat) (vs : List Int) : List Int := Vecs.timesT (tabP c wt p b) (side c p).1 (side c p).2 vs 6
def normP (c : CfD) (wt : ByteArray) (p b : Nat) (xs : List Int) : List Int := Norm.ofL (rowP c wt p b 0) xs
def plusP (xs ys : List Int) : List Int := Vecs.plusT [(none, 0, xs), (none, 0, ys)]
def noA (r : List Int) : Option Addr × Nat × List Int := (none, 0, r)
def mixP (ws : List Int) (rows : List (List Int)) : List Int := Soft.mixT ws (rows.map noA)
def cut (xs : List Int) (a n : Nat) : List Int := (xs.drop a).take n
def scoreP (b a n : Nat) (q : List Int) (e : Ent) : Int := shift (dotC (cut q a n) (cut (e.1.getD b []) a n)) 9
def valP (b a n : Nat) (e : Ent) : List Int := cut (e.2.getD b []) a n
def headP (es : List Ent) (b a n : Nat) (q : List Int) : List Int := mixP (Soft.weightsL (es.map (scoreP b a n q))) (es.map (valP b a n))
def seenTo (c : CfD) (es : List Ent) (b : Nat) (q : List Int) : Nat → List Int
  | 0 => []
  | h + 1 => seenTo c es b q h ++ headP es b (h * hdim c) (hdim c) q
structure WkD where
  x : List Int
  K : List (List Int)
  V : List (List Int)
def lookK (c : CfD) (wt : ByteArray) (b : Nat) (s : WkD) : List (List Int) := s.K ++ [times c wt 4 b (normP c wt 2 b s.x)]
def lookV (c : CfD) (wt : ByteArray) (b : Nat) (s : WkD) : List (List Int) := s.V ++ [times c wt 5 b (normP c wt 2 b s.x)]
def lookX (c : CfD) (wt : ByteArray) (past : List Ent) (b : Nat) (s : WkD) : List Int :=
  plusP s.x (times c wt 6 b (seenTo c (past ++ [(lookK c wt b s, lookV c wt b s)]) b (times c wt 3 b (normP c wt 2 b s.x)) c.heads.toNat))
def lookP (c : CfD) (wt : ByteArray) (past : List Ent) (b : Nat) (s : WkD) : WkD := ⟨lookX c wt past b s, lookK c wt b s, lookV c wt b s⟩
def thinkP (c : CfD) (wt : ByteArray) (b : Nat) (s : WkD) : WkD :=
  ⟨plusP s.x (times c wt 10 b (Act.pairsL (times c wt 8 b (normP c wt 7 b s.x)) (times c wt 9 b (normP c wt 7 b s.x)))), s.K, s.V⟩
def blocksTo (c : CfD) (wt : ByteArray) (past : List Ent) (s : WkD) : Nat → WkD
  | 0 => s
  | j + 1 => thinkP c wt j (lookP c wt past j (blocksTo c wt past s j))
def beginE (n m : Int) : Int := sat (16 * (n + m))
def beginP (c : CfD) (wt : ByteArray) (place : Nat) (token : Int) : List Int := List.zipWith beginE (rowP c wt 0 0 token) (rowP c wt 1 0 place)
def scoresP (c : CfD) (wt : ByteArray) (x : List Int) : List Int := (List.range c.vocab.toNat).map fun t => shift (dotC (rowP c wt 0 0 (t : Nat)) (normP c wt 11 0 x)) 5
def stepS (c : CfD) (wt : ByteArray) (past : List Ent) (token : Int) : WkD := blocksTo c wt past ⟨beginP c wt past.length token, [], []⟩ c.blocks.toNat
def stepE (c : CfD) (wt : ByteArray) (past : List Ent) (token : Int) : Ent := ((stepS c wt past token).K, (stepS c wt past token).V)
def stepL (c : CfD) (wt : ByteArray) (past : List Ent) (token : Int) : List Int := scoresP c wt (stepS c wt past token).x
/-- What a row is. -/
def satL (xs : List Int) : Prop := ∀ x ∈ xs, -32767 ≤ x ∧ x ≤ 32767
def rowsOk (n d : Nat) (l : List (List Int)) : Prop := l.length = n ∧ ∀ r ∈ l, r.length = d ∧ satL r
def goodE (c : CfD) (e : Ent) : Prop := rowsOk c.blocks.toNat c.dim.toNat e.1 ∧ rowsOk c.blocks.toNat c.dim.toNat e.2
theorem okPB_0 (c : CfD) : okPB c 0 0 := ⟨by omega, by simp⟩
theorem okPB_1 (c : CfD) : okPB c 1 0 := ⟨by omega, by simp⟩
theorem okPB_11 (c : CfD) : okPB c 11 0 := ⟨by omega, by simp⟩
theorem okPB_b {c : CfD} {p b : Nat} (h1 : 2 ≤ p) (h2 : p ≤ 10) (hb : (b : Int) < c.blocks) : okPB c p b := ⟨by omega, by rw [if_neg (by omega)]; exact hb⟩
section
variable {c : CfD} {wt : ByteArray} {p b : Nat} {vs xs ys : List Int}
theorem times_len (m : Md c wt) (h : okPB c p b) (hv : (vs.length : Int) = (side c p).2) : (times c wt p b vs).length = (side c p).1.toNat ∧ satL (times c wt p b vs) := by
  unfold times Vecs.timesT Vecs.timesOk
  rw [tab_good m.ok m.sz h, decide_eq_true hv, Bool.true_and, if_pos rfl]
  unfold Vecs.timesL
  refine ⟨by rw [List.length_map, List.length_range], fun x hx => ?_⟩
  obtain ⟨i, _, rfl⟩ := List.mem_map.1 hx
  exact sat_le _
theorem plus_len (h : xs.length = ys.length) : (plusP xs ys).length = xs.length ∧ satL (plusP xs ys) := by
  have hs : Vecs.sameL [(none, 0, xs), (none, 0, ys)] = true := Vecs.same_yes (fun z hz => by
    rcases List.mem_cons.1 hz with rfl | hz
    · rfl
    · rw [List.mem_singleton] at hz; subst hz; exact h.symm)
  unfold plusP Vecs.plusT
  rw [hs, if_pos rfl]
  unfold Vecs.plusL
  refine ⟨by rw [List.length_map, List.length_range]; rfl, fun x hx => ?_⟩
  obtain ⟨i, _, rfl⟩ := List.mem_map.1 hx
  exact sat_le _
theorem norm_len (m : Md c wt) (h : okPB c p b) (hx : xs.length = (side c p).2.toNat) (h1 : 1 ≤ (side c p).1) : (normP c wt p b xs).length = xs.length := by
  unfold normP
  have hr : (rowP c wt p b 0).length = (side c p).2.toNat := row_len m.ok m.sz h (q := 0) (by omega)
  exact Norm.ofL_len (by rw [hr]; exact hx.symm)
theorem expN_le (d : Nat) : Soft.expN d ≤ 65536 := by
  unfold Soft.expN
  exact Nat.le_trans (Nat.div_le_self _ _) (Soft.tab_le _ (Nat.mod_lt _ (by omega)))
theorem weights_good (h0 : xs ≠ []) : (Soft.weightsL xs).any Soft.badW = false ∧ 0 < (Soft.weightsL xs).sum := by
  have hb : ∀ x ∈ Soft.weightsL xs, 0 ≤ x ∧ x ≤ 65536 := fun x hx => by
    obtain ⟨y, _, rfl⟩ := List.mem_map.1 hx
    unfold Soft.expI
    have := expN_le (Soft.cl (maxL xs) - Soft.cl y).toNat
    omega
  refine ⟨?_, ?_⟩
  · rw [List.any_eq_false]
    intro x hx
    have := hb x hx
    unfold Soft.badW
    simp; omega
  · have hm : (65536 : Int) ∈ Soft.weightsL xs := List.mem_map.2 ⟨maxL xs, (maxL_is h0).1, by rw [Int.sub_self]; decide⟩
    generalize Soft.weightsL xs = l at hb hm
    clear h0
    induction l with
    | nil => cases hm
    | cons y r ih =>
      rw [List.sum_cons]
      have h1 := hb y (by simp)
      have hnn : ∀ l : List Int, (∀ x ∈ l, 0 ≤ x ∧ x ≤ 65536) → 0 ≤ l.sum := fun l => by
        induction l with
        | nil => intro _; simp
        | cons y r ih => intro h; rw [List.sum_cons]; have := h y (by simp); have := ih (fun x hx => h x (by simp [hx])); omega
      rcases List.mem_cons.1 hm with h | h
      · have := hnn r (fun x hx => hb x (by simp [hx])); omega
      · have := ih (fun x hx => hb x (by simp [hx])) h; omega
theorem mixT_data (ws : List Int) (zs : List (Option Addr × Nat × List Int)) : Soft.mixT ws zs = mixP ws (zs.map (·.2.2)) := by
  have h0 : (zs.map (·.2.2)).map noA = zs.map fun z => noA z.2.2 := by rw [List.map_map]; rfl
  have h1 : wid (zs.map fun z => noA z.2.2) = wid zs := by
    unfold wid
    rw [List.getElem?_map]
    cases zs[0]? <;> rfl
  have h2 : sameL (zs.map fun z => noA z.2.2) = sameL zs := by
    unfold sameL
    rw [List.all_map, h1]; rfl
  unfold mixP
  rw [h0]
  unfold Soft.mixT Soft.mixOk Soft.mixL Soft.mixTerm
  rw [h1, h2, List.length_map]
  simp only [List.zipWith_map_right]
  rfl
theorem mix_len {rows : List (List Int)} {n : Nat} (h0 : xs ≠ []) (hl : rows.length = xs.length) (hr : ∀ r ∈ rows, r.length = n) : (mixP (Soft.weightsL xs) rows).length = n ∧ satL (mixP (Soft.weightsL xs) rows) := by
  have hw := weights_good h0
  have hx : 0 < xs.length := List.length_pos_iff.2 h0
  have hwid : wid (rows.map noA) = n := by
    rw [wid_pos (by rw [List.length_map]; omega), List.getElem_map]
    exact hr _ (List.getElem_mem _)
  have hs : sameL (rows.map noA) = true := same_yes (fun z hz => by
    obtain ⟨r, hr', rfl⟩ := List.mem_map.1 hz
    rw [hwid]; exact hr r hr')
  have hwl : (Soft.weightsL xs).length = xs.length := by unfold Soft.weightsL; rw [List.length_map]
  have hok : Soft.mixOk (Soft.weightsL xs) (rows.map noA) = true := by
    unfold Soft.mixOk
    rw [hw.1, hs, List.length_map, decide_eq_true (show rows.length ≠ 0 by omega), decide_eq_true (show (Soft.weightsL xs).length = rows.length by omega), decide_eq_true (show (Soft.weightsL xs).sum ≠ 0 by omega)]; rfl
  unfold mixP Soft.mixT
  rw [hok, if_pos rfl]
  unfold Soft.mixL
  refine ⟨by rw [List.length_map, List.length_range, hwid], fun x hx => ?_⟩
  obtain ⟨i, _, rfl⟩ := List.mem_map.1 hx
  exact sat_le _
theorem cut_len {a n : Nat} (h : a + n ≤ xs.length) : (cut xs a n).length = n := by unfold cut; rw [List.length_take, List.length_drop]; omega
/-- An entry that has a row of a block. -/
def hasB (c : CfD) (b : Nat) (e : Ent) : Prop := b < e.1.length ∧ b < e.2.length ∧ (e.1.getD b []).length = c.dim.toNat ∧ (e.2.getD b []).length = c.dim.toNat
theorem rows_getD {n d : Nat} {l : List (List Int)} (h : rowsOk n d l) (hb : b < n) : (l.getD b []).length = d := by
  have hb' : b < l.length := by rw [h.1]; exact hb
  rw [List.getD_eq_getElem?_getD, List.getElem?_eq_getElem hb']
  exact (h.2 _ (List.getElem_mem hb')).1
theorem good_has {e : Ent} (h : goodE c e) (hb : b < c.blocks.toNat) : hasB c b e := ⟨by rw [h.1.1]; exact hb, by rw [h.2.1]; exact hb, rows_getD h.1 hb, rows_getD h.2 hb⟩
theorem head_len {es : List Ent} {a n : Nat} {q : List Int} (h0 : es ≠ []) (h : ∀ e ∈ es, hasB c b e) (ha : a + n ≤ c.dim.toNat) : (headP es b a n q).length = n ∧ satL (headP es b a n q) := by
  unfold headP
  refine mix_len (by simpa using h0) (by rw [List.length_map, List.length_map]) (fun r hr => ?_)
  obtain ⟨e, he, rfl⟩ := List.mem_map.1 hr
  unfold valP
  exact cut_len (by rw [(h e he).2.2.2]; exact ha)
theorem seen_len {es : List Ent} {q : List Int} (ok : okC c) (h0 : es ≠ []) (h : ∀ e ∈ es, hasB c b e) : ∀ j, j ≤ c.heads.toNat → (seenTo c es b q j).length = j * hdim c
  | 0, _ => by simp [seenTo]
  | j + 1, hj => by
    have hd := hdim_mul ok
    have hle : (j + 1) * hdim c ≤ c.heads.toNat * hdim c := Nat.mul_le_mul_right _ hj
    have hh : 1 ≤ c.heads := ok.2.2.1.1
    have e : ((c.heads.toNat * hdim c : Nat) : Int) = c.dim := by
      rw [Int.natCast_mul, Int.toNat_of_nonneg (by omega), Int.mul_comm]; exact hd.1
    have hs : (j + 1) * hdim c = j * hdim c + hdim c := Nat.succ_mul _ _
    rw [seenTo, List.length_append, seen_len ok h0 h j (by omega), (head_len h0 h (a := j * hdim c) (n := hdim c) (by omega)).1, Nat.succ_mul]
/-- The state of a walk behind so many blocks. -/
structure WkOk (c : CfD) (j : Nat) (s : WkD) : Prop where
  x : s.x.length = c.dim.toNat
  K : rowsOk j c.dim.toNat s.K
  V : rowsOk j c.dim.toNat s.V
theorem side_d {p : Nat} (h : p = 3 ∨ p = 4 ∨ p = 5 ∨ p = 6) : side c p = (c.dim, c.dim) := by rcases h with rfl | rfl | rfl | rfl <;> rfl
theorem side_n {p : Nat} (h : p = 2 ∨ p = 7 ∨ p = 11) : side c p = (1, c.dim) := by rcases h with rfl | rfl | rfl <;> rfl
theorem rowsOk.snoc {n d : Nat} {l : List (List Int)} {r : List Int} (h : rowsOk n d l) (h1 : r.length = d) (h2 : satL r) : rowsOk (n + 1) d (l ++ [r]) :=
  ⟨by rw [List.length_append, h.1]; rfl, fun x hx => by
    rcases List.mem_append.1 hx with hx | hx
    · exact h.2 x hx
    · rw [List.mem_singleton] at hx; subst hx; exact ⟨h1, h2⟩⟩
theorem snoc_getD (l : List (List Int)) (r : List Int) (h : l.length = b) : (l ++ [r]).getD b [] = r := by
  subst h; simp
theorem norm2_len (m : Md c wt) {j : Nat} (hj : (j : Int) < c.blocks) {p : Nat} (hp : p = 2 ∨ p = 7) (hx : xs.length = c.dim.toNat) : (normP c wt p j xs).length = c.dim.toNat := by
  have hs := side_n (c := c) (p := p) (by omega)
  rw [norm_len m (okPB_b (by omega) (by omega) hj) (by rw [hs]; exact hx) (by rw [hs]; exact Int.le_refl 1), hx]
theorem timesD_len (m : Md c wt) {j : Nat} (hj : (j : Int) < c.blocks) {p : Nat} (hp : p = 3 ∨ p = 4 ∨ p = 5 ∨ p = 6) (hv : vs.length = c.dim.toNat) : (times c wt p j vs).length = c.dim.toNat ∧ satL (times c wt p j vs) := by
  have hs := side_d (c := c) hp
  have hd := m.ok.2.1
  have := times_len m (okPB_b (p := p) (b := j) (by omega) (by omega) hj) (vs := vs) (by rw [hs]; show (vs.length : Int) = c.dim; omega)
  rw [hs] at this; exact this
theorem lookK_ok (m : Md c wt) {j : Nat} (hj : (j : Int) < c.blocks) {s : WkD} (h : WkOk c j s) : rowsOk (j + 1) c.dim.toNat (lookK c wt j s) ∧ rowsOk (j + 1) c.dim.toNat (lookV c wt j s) := by
  have hn := norm2_len m hj (p := 2) (.inl rfl) h.x
  have h4 := timesD_len m hj (p := 4) (by omega) hn
  have h5 := timesD_len m hj (p := 5) (by omega) hn
  exact ⟨h.K.snoc h4.1 h4.2, h.V.snoc h5.1 h5.2⟩
theorem own_has (m : Md c wt) {j : Nat} (hj : (j : Int) < c.blocks) {s : WkD} (h : WkOk c j s) : hasB c j (lookK c wt j s, lookV c wt j s) := by
  obtain ⟨a, b⟩ := lookK_ok m hj h
  exact ⟨by rw [a.1]; omega, by rw [b.1]; omega, rows_getD a (by omega), rows_getD b (by omega)⟩
theorem look_has (m : Md c wt) {j : Nat} (hj : (j : Int) < c.blocks) {s : WkD} (h : WkOk c j s) {past : List Ent} (hp : ∀ e ∈ past, goodE c e) : ∀ e ∈ past ++ [(lookK c wt j s, lookV c wt j s)], hasB c j e := fun e he => by
  rcases List.mem_append.1 he with he | he
  · exact good_has (hp e he) (by omega)
  · rw [List.mem_singleton] at he; subst he; exact own_has m hj h
theorem heads_dim (ok : okC c) : c.heads.toNat * hdim c = c.dim.toNat := by
  have hd := hdim_mul ok
  have hh : 1 ≤ c.heads := ok.2.2.1.1
  have e : ((c.heads.toNat * hdim c : Nat) : Int) = c.dim := by
    rw [Int.natCast_mul, Int.toNat_of_nonneg (by omega), Int.mul_comm]; exact hd.1
  omega
theorem seenAll_len (m : Md c wt) {j : Nat} (hj : (j : Int) < c.blocks) {s : WkD} (h : WkOk c j s) {past : List Ent} (hp : ∀ e ∈ past, goodE c e) {q : List Int} : (seenTo c (past ++ [(lookK c wt j s, lookV c wt j s)]) j q c.heads.toNat).length = c.dim.toNat := by
  rw [seen_len m.ok (by simp) (look_has m hj h hp) _ (Nat.le_refl _), heads_dim m.ok]
theorem look_ok (m : Md c wt) {j : Nat} (hj : (j : Int) < c.blocks) {s : WkD} (h : WkOk c j s) {past : List Ent} (hp : ∀ e ∈ past, goodE c e) : WkOk c (j + 1) (lookP c wt past j s) := by
  obtain ⟨a, b⟩ := lookK_ok m hj h
  refine ⟨?_, a, b⟩
  have h6 := timesD_len m hj (p := 6) (by omega) (seenAll_len m hj h hp (q := times c wt 3 j (normP c wt 2 j s.x)))
  show (plusP s.x _).length = _
  rw [(plus_len (by rw [h.x]; exact h6.1.symm)).1, h.x]
theorem thinkU_len (m : Md c wt) {j : Nat} (hj : (j : Int) < c.blocks) (hx : xs.length = c.dim.toNat) :
    (times c wt 8 j (normP c wt 7 j xs)).length = c.hidden.toNat ∧ (times c wt 9 j (normP c wt 7 j xs)).length = c.hidden.toNat ∧ satL (times c wt 8 j (normP c wt 7 j xs)) ∧
    (Act.pairsL (times c wt 8 j (normP c wt 7 j xs)) (times c wt 9 j (normP c wt 7 j xs))).length = c.hidden.toNat := by
  have hn := norm2_len m hj (p := 7) (.inr rfl) hx
  have hd := m.ok.2.1
  have h8 := times_len m (okPB_b (p := 8) (b := j) (by omega) (by omega) hj) (vs := normP c wt 7 j xs) (by show ((normP c wt 7 j xs).length : Int) = c.dim; omega)
  have h9 := times_len m (okPB_b (p := 9) (b := j) (by omega) (by omega) hj) (vs := normP c wt 7 j xs) (by show ((normP c wt 7 j xs).length : Int) = c.dim; omega)
  have h8' : (times c wt 8 j (normP c wt 7 j xs)).length = c.hidden.toNat := h8.1
  have h9' : (times c wt 9 j (normP c wt 7 j xs)).length = c.hidden.toNat := h9.1
  exact ⟨h8', h9', h8.2, by rw [Act.pairsL_len (by omega)]; exact h9'⟩
theorem thinkD_len (m : Md c wt) {j : Nat} (hj : (j : Int) < c.blocks) (hv : vs.length = c.hidden.toNat) : (times c wt 10 j vs).length = c.dim.toNat := by
  have hd := m.ok.2.2.2.2.1
  exact (times_len m (okPB_b (p := 10) (b := j) (by omega) (by omega) hj) (vs := vs) (by show (vs.length : Int) = c.hidden; omega)).1
theorem think_ok (m : Md c wt) {j : Nat} (hj : (j : Int) < c.blocks) {n : Nat} {s : WkD} (h : WkOk c n s) : WkOk c n (thinkP c wt j s) := by
  refine ⟨?_, h.K, h.V⟩
  have hu := thinkU_len m hj h.x
  have h10 := thinkD_len m hj hu.2.2.2
  show (plusP s.x _).length = _
  rw [(plus_len (by rw [h.x]; exact h10.symm)).1, h.x]
theorem begin_len (m : Md c wt) {k : Nat} (hk : (k : Int) < c.context) {t : Int} (ht : 0 ≤ t ∧ t < c.vocab) : (rowP c wt 0 0 t).length = c.dim.toNat ∧ (rowP c wt 1 0 k).length = c.dim.toNat ∧ (beginP c wt k t).length = c.dim.toNat := by
  obtain ⟨n, rfl⟩ : ∃ n : Nat, t = n := ⟨t.toNat, by omega⟩
  have h0 : (rowP c wt 0 0 (n : Int)).length = c.dim.toNat := row_len m.ok m.sz (okPB_0 c) (q := n) ht.2
  have h1 : (rowP c wt 1 0 (k : Int)).length = c.dim.toNat := row_len m.ok m.sz (okPB_1 c) (q := k) hk
  exact ⟨h0, h1, by unfold beginP; rw [List.length_zipWith, h0, h1]; omega⟩
theorem blocks_ok (m : Md c wt) {past : List Ent} (hp : ∀ e ∈ past, goodE c e) {s : WkD} (h : WkOk c 0 s) : ∀ j : Nat, (j : Int) ≤ c.blocks → WkOk c j (blocksTo c wt past s j)
  | 0, _ => h
  | j + 1, hj => think_ok m (by omega) (look_ok m (by omega) (blocks_ok m hp h j (by omega)) hp)
theorem step_ok (m : Md c wt) {past : List Ent} (hp : ∀ e ∈ past, goodE c e) (hk : (past.length : Int) < c.context) {t : Int} (ht : 0 ≤ t ∧ t < c.vocab) : WkOk c c.blocks.toNat (stepS c wt past t) ∧ goodE c (stepE c wt past t) := by
  have hb := m.ok.2.2.2.1
  have h := blocks_ok m hp (s := ⟨beginP c wt past.length t, [], []⟩) ⟨(begin_len m hk ht).2.2, ⟨rfl, fun r hr => (by cases hr)⟩, ⟨rfl, fun r hr => (by cases hr)⟩⟩ c.blocks.toNat (by omega)
  exact ⟨h, h.K, h.V⟩
end
end Go.Proofs.Ytfhnegfoglngoaa.Stp
