import Derived.Laws.Externs
import Derived.WalkKit
import Derived.Deep.LoopGhost
import Derived.OrdersHeld
import Derived.ChangeKeysEq
import Derived.LaidEqlPtr
set_option linter.unusedVariables false
set_option linter.unusedSimpArgs false
namespace Go.Proofs.YtkbikekbaboclaaGreat.V
open Go
/-! The frame as a list. -/
abbrev Env := List Value
def nth : List Value → Nat → Value
 | [], _ => undef
 | x :: _, 0 => x
 | _ :: xs, n + 1 => nth xs n
def act (l : Env) : Act := { tmps := l.toArray, defers := [] }
def ev (l : Env) : Operand → Value
 | .tmp t => nth l t
 | .const v => v
 | .global g => .pointer (some ⟨g, 0, none⟩)
 | .func f => .func (.func f) #[] #[]
def put (l : Env) (d : Option Tmp) (v : Value) : Env :=
 match d with
 | some d => l.set d v
 | none => l
theorem nth_eq (l : List Value) (t : Nat) : nth l t = l.toArray.getD t undef := by
 induction l generalizing t with
 | nil => simp [nth]
 | cons x xs ih =>
  cases t with
  | zero => simp [nth]
  | succ n => rw [nth, ih]; simp
theorem act_eval (l : Env) : (act l).eval = ev l := by
 funext x
 cases x with
 | tmp t => exact (nth_eq l t).symm
 | _ => rfl
theorem act_put (l : Env) (d : Option Tmp) (v : Value) : (act l).put d v = act (put l d v) := by
 cases d <;> simp [Act.put, act, put]
/-! The kinds of values that a slot, a cell or a result may hold. -/
inductive Sk where
 | int (k : IntKind) | bool | str | ptr | addr | slice | map | other
def Sk.of : Value → Sk
 | .int k _ => .int k
 | .bool _ => .bool
 | .string _ => .str
 | .pointer _ => .ptr
 | .slice _ _ _ => .slice
 | .map _ => .map
 | _ => .other
def Sk.ex : Sk → (Value → Prop) → Prop
 | .int k, K => ∃ n : Int, K (.int k n)
 | .bool, K => ∃ b : Bool, K (.bool b)
 | .str, K => ∃ s : ByteArray, K (.string s)
 | .ptr, K => ∃ o : Option Addr, K (.pointer o)
 | .addr, K => ∃ a : Addr, K (.pointer (some a))
 | .slice, K => ∃ (o : Option Addr) (n c : Nat), K (.slice o n c)
 | .map, K => ∃ r : Option Nat, K (.map r)
 | .other, K => ∃ v : Value, K v
theorem Sk.ex_out {s : Sk} {K : Value → Prop} (h : s.ex K) : ∃ v, K v := by
 cases s
 case slice => obtain ⟨o, n, c, h⟩ := h; exact ⟨_, h⟩
 all_goals (obtain ⟨v, h⟩ := h; exact ⟨_, h⟩)
def exs : List Sk → (List Value → Prop) → Prop
 | [], K => K []
 | s :: r, K => s.ex fun v => exs r fun vs => K (v :: vs)
theorem exs_out : ∀ {ss : List Sk} {K : List Value → Prop}, exs ss K → ∃ vs, vs.length = ss.length ∧ K vs
 | [], _, h => ⟨[], rfl, h⟩
 | s :: r, K, h => by
  obtain ⟨v, hv⟩ := Sk.ex_out h
  obtain ⟨vs, hl, hk⟩ := exs_out hv
  exact ⟨v :: vs, by simp [hl], hk⟩
inductive Sh where
 | one (s : Sk) | agg (ss : List Sk) | big (n : Nat)
def Sh.of : Value → Sh
 | .agg cs => if cs.size ≤ 40 then .agg (cs.toList.map Sk.of) else .big cs.size
 | v => .one (Sk.of v)
def Sh.ex : Sh → (Value → Prop) → Prop
 | .one s, K => s.ex K
 | .agg ss, K => exs ss fun vs => K (.agg vs.toArray)
 | .big n, K => ∃ cs : List Value, cs.length = n ∧ K (.agg cs.toArray)
theorem Sh.ex_out {s : Sh} {K : Value → Prop} (h : s.ex K) : ∃ v, K v := by
 cases s with
 | one s => exact Sk.ex_out h
 | agg ss => obtain ⟨vs, _, h⟩ := exs_out h; exact ⟨_, h⟩
 | big n => obtain ⟨cs, _, h⟩ := h; exact ⟨_, h⟩
def shOf (P : Program) (t : TypeId) : Sh :=
 match P.info? t with
 | some i => match i.zero with
  | some v => Sh.of v
  | none => .one .other
 | none => .one .other
/-! One operation. C: what is known of cells. -/
def cellsAt (C : Addr → Value → Prop) (ad : Addr) : Nat → List Value → Prop
 | _, [] => True
 | i, [v] => C (ad.add i) v
 | i, v :: r => C (ad.add i) v ∧ cellsAt C ad (i + 1) r
theorem cellsAt_get : ∀ {vs : List Value} {C : Addr → Value → Prop} {ad : Addr} {i : Nat}, cellsAt C ad i vs → ∀ j v, vs[j]? = some v → C (ad.add (i + j)) v
 | [], _, _, _, _, j, v, h => by simp at h
 | [x], C, ad, i, hc, j, v, h => by
  cases j with
  | zero => simp at h; subst h; exact hc
  | succ j => simp at h
 | x :: y :: r, C, ad, i, hc, j, v, h => by
  obtain ⟨h1, h2⟩ := hc
  cases j with
  | zero => simp at h; subst h; exact h1
  | succ j =>
   have := cellsAt_get h2 j v (by simpa using h)
   rw [show i + 1 + j = i + (j + 1) by omega] at this
   exact this
def bigAt (C : Addr → Value → Prop) (ad : Addr) (vs : List Value) : Prop := ∀ j v, vs[j]? = some v → C (ad.add j) v
def isAggB (P : Program) (t : TypeId) : Bool :=
 match P.underlying t with
 | some (.struct _) => true
 | some (.array _ _) => true
 | _ => false
def loadC (P : Program) (t : TypeId) (C : Addr → Value → Prop) (ad : Addr) (K : Value → Prop) : Prop :=
 match P.underlying t, P.info? t, shOf P t with
 | some (.struct _), some i, .agg ss => if i.size = ss.length then exs ss fun vs => cellsAt C ad 0 vs ∧ K (.agg vs.toArray) else False
 | some (.array _ _), some i, .agg ss => if i.size = ss.length then exs ss fun vs => cellsAt C ad 0 vs ∧ K (.agg vs.toArray) else False
 | some (.struct _), some i, .big n => if i.size = n then ∃ cs : List Value, cs.length = n ∧ bigAt C ad cs ∧ K (.agg cs.toArray) else False
 | some (.array _ _), some i, .big n => if i.size = n then ∃ cs : List Value, cs.length = n ∧ bigAt C ad cs ∧ K (.agg cs.toArray) else False
 | some (.struct _), _, _ => False
 | some (.array _ _), _, _ => False
 | some _, _, .one s => s.ex fun v => C ad v ∧ K v
 | _, _, _ => False
def loadV (P : Program) (t : TypeId) (w : World) (ad : Addr) (K : Value → Prop) : Prop := loadC P t (fun a v => w.cell? a = some v) ad K
theorem run_load1 {P : Program} {w : World} {ad : Addr} {v : Value} (h : w.cell? ad = some v) : (load ad).run P w = .ok v w := by
 simp [load, Sem.run, h]
theorem run_loadCellsFrom {P : Program} {w : World} {ad : Addr} : ∀ (vs : List Value) (i : Nat) (acc : Array Value), (∀ j v, vs[j]? = some v → w.cell? (ad.add (i + j)) = some v) →
  (loadCellsFrom ad i vs.length acc).run P w = .ok (acc ++ vs.toArray) w
 | [], i, acc, _ => by simp [loadCellsFrom, pure]
 | v :: r, i, acc, h => by
  have h0 := h 0 v rfl
  have hr := run_loadCellsFrom (P := P) r (i + 1) (acc.push v) (fun j u hj => by
   have := h (j + 1) u (by simpa using hj)
   rw [show i + 1 + j = i + (j + 1) by omega]; exact this)
  simp only [List.length_cons, loadCellsFrom]
  rw [Sem.run_bind]
  rw [run_load1 (by simpa using h0)]
  simp only [Result.andThen]
  rw [hr]; simp
theorem run_loadVar_agg {P : Program} {w : World} {ad : Addr} {t : TypeId} {i : TypeInfo} {vs : List Value} (hi : P.info? t = some i) (hs : i.size = vs.length)
  (ha : (∃ fs, P.underlying t = some (.struct fs)) ∨ ∃ n e, P.underlying t = some (.array n e)) (h : ∀ j v, vs[j]? = some v → w.cell? (ad.add j) = some v) :
  (loadVar t ad).run P w = .ok (.agg vs.toArray) w := by
 have hagg : (isAgg t).run P w = .ok true w := by
  unfold isAgg
  rcases ha with ⟨fs, hu⟩ | ⟨n, e, hu⟩ <;> simp [Sem.run_bind, run_underlying hu, Result.andThen, pure, Sem.run]
 have hsz : (sizeOf t).run P w = .ok vs.length w := by
  simp [sizeOf, typeInfo, program, Sem.run_bind, Sem.run, Result.andThen, hi, pure, hs]
 have hc : (loadCells ad vs.length).run P w = .ok vs.toArray w := by
  have := run_loadCellsFrom (P := P) (w := w) (ad := ad) vs 0 #[] (fun j v hj => by simpa using h j v hj)
  simpa [loadCells] using this
 unfold loadVar
 simp [Sem.run_bind, hagg, hsz, hc, Result.andThen, pure, Sem.run]
theorem run_loadVar_one {P : Program} {w : World} {ad : Addr} {t : TypeId} {d : TypeDesc} {v : Value} (hu : P.underlying t = some d) (hd : isAggB P t = false)
  (h : w.cell? ad = some v) : (loadVar t ad).run P w = .ok v w := by
 have hagg : (isAgg t).run P w = .ok false w := by
  unfold isAgg
  unfold isAggB at hd
  rw [hu] at hd
  cases d <;> simp_all [Sem.run_bind, run_underlying hu, Result.andThen, pure, Sem.run]
 unfold loadVar
 simp [Sem.run_bind, hagg, Result.andThen, run_load1 h]
theorem loadC_run {P : Program} {t : TypeId} {C : Addr → Value → Prop} {ad : Addr} {K : Value → Prop} (h : loadC P t C ad K) :
  ∃ v, (∀ w : World, (∀ a v, C a v → w.cell? a = some v) → (loadVar t ad).run P w = .ok v w) ∧ K v := by
 unfold loadC at h
 have go : ∀ {ss : List Sk} {i : TypeInfo} (hi : P.info? t = some i) (ha : (∃ fs, P.underlying t = some (.struct fs)) ∨ ∃ n e, P.underlying t = some (.array n e)),
   (if i.size = ss.length then exs ss fun vs => cellsAt C ad 0 vs ∧ K (.agg vs.toArray) else False) → ∃ v, (∀ w : World, (∀ a v, C a v → w.cell? a = some v) → (loadVar t ad).run P w = .ok v w) ∧ K v := by
  intro ss i hi ha h
  split at h
  ·rename_i hs
   obtain ⟨vs, hl, hc, hk⟩ := exs_out h
   exact ⟨_, fun w hC => run_loadVar_agg hi (by rw [hs, hl]) ha (fun j v hj => hC _ _ (by simpa using cellsAt_get hc j v hj)), hk⟩
  ·exact h.elim
 have gob : ∀ {n : Nat} {i : TypeInfo} (hi : P.info? t = some i) (ha : (∃ fs, P.underlying t = some (.struct fs)) ∨ ∃ n e, P.underlying t = some (.array n e)),
   (if i.size = n then ∃ cs : List Value, cs.length = n ∧ bigAt C ad cs ∧ K (.agg cs.toArray) else False) → ∃ v, (∀ w : World, (∀ a v, C a v → w.cell? a = some v) → (loadVar t ad).run P w = .ok v w) ∧ K v := by
  intro n i hi ha h
  split at h
  ·rename_i hs
   obtain ⟨cs, hl, hc, hk⟩ := h
   exact ⟨_, fun w hC => run_loadVar_agg hi (by rw [hs, hl]) ha (fun j v hj => hC _ _ (hc j v hj)), hk⟩
  ·exact h.elim
 split at h
 ·rename_i hu hi _; exact go hi (.inl ⟨_, hu⟩) h
 ·rename_i hu hi _; exact go hi (.inr ⟨_, _, hu⟩) h
 ·rename_i hu hi _; exact gob hi (.inl ⟨_, hu⟩) h
 ·rename_i hu hi _; exact gob hi (.inr ⟨_, _, hu⟩) h
 ·exact h.elim
 ·exact h.elim
 ·rename_i d s hne1 hne2 hu hs
  obtain ⟨v, hc, hk⟩ := Sk.ex_out h
  refine ⟨v, fun w hC => run_loadVar_one hu ?_ (hC _ _ hc), hk⟩
  unfold isAggB
  rw [hu]
  cases d <;> simp_all
 ·exact h.elim
theorem loadV_run {P : Program} {t : TypeId} {w : World} {ad : Addr} {K : Value → Prop} (h : loadV P t w ad K) : ∃ v, (loadVar t ad).run P w = .ok v w ∧ K v := by
 obtain ⟨v, hv, hk⟩ := loadC_run h
 exact ⟨v, hv w (fun _ _ h => h), hk⟩
/-! Pure operations. -/
def pureRun (P : Program) {α : Type} : Sem α → Option α
 | .pure a => some a
 | .program k => pureRun P (k P)
 | .mark _ k => pureRun P k
 | _ => none
theorem pureRun_run {P : Program} {α : Type} : ∀ {s : Sem α} {a : α}, pureRun P s = some a → ∀ w, s.run P w = .ok a w := by
 intro s
 induction s with
 | pure a => intro b h w; simp only [pureRun, Option.some.injEq] at h; subst h; rfl
 | program k ih => intro b h w; exact ih P (by simpa only [pureRun] using h) w
 | mark m k ih => intro b h w; exact ih (by simpa only [pureRun] using h) w
 | _ => intro b h w; simp only [pureRun] at h; cases h
def intVal : Option Value → Option Int
 | some (.int _ n) => some n
 | _ => none
def bt (s : ByteArray) (i : Int) : Int := ((s.data.getD i.toNat 0).toNat : Int)
theorem run_sizeOf {P : Program} {e : TypeId} {i : TypeInfo} (hi : P.info? e = some i) (w : World) : (sizeOf e).run P w = .ok i.size w := by
 simp [sizeOf, typeInfo, program, Sem.run_bind, Sem.run, Result.andThen, hi, pure]
def someV (o : Option Addr) (K : Addr → Prop) : Prop :=
 match o with
 | some ad => K ad
 | none => False
theorem someV_out {o : Option Addr} {K : Addr → Prop} (h : someV o K) : ∃ ad, o = some ad ∧ K ad := by
 cases o with
 | none => exact h.elim
 | some ad => exact ⟨ad, rfl, h⟩
def idxAddrV (P : Program) (t : TypeId) (x ix : Value) (K : Value → Prop) : Prop :=
 match ix with
 | .int _ i =>
  match P.underlying t with
  | some (.slice e) => match P.info? e with
   | some inf => match x with
    | .slice o n _ => (0 ≤ i ∧ i < (n : Int)) ∧ someV o fun ad => K (.pointer (some (ad.add (i.toNat * inf.size))))
    | _ => False
   | none => False
  | some (.array len e) => match P.info? e with
   | some inf => match x with
    | .pointer (some ad) => (0 ≤ i ∧ i < (len : Int)) ∧ K (.pointer (some (ad.add (i.toNat * inf.size))))
    | _ => False
   | none => False
  | _ => False
 | _ => False
theorem idxAddrV_run {P : Program} {t : TypeId} {x ix : Value} {K : Value → Prop} (h : idxAddrV P t x ix K) : ∃ v, (∀ w, (Instr.indexAt t x ix).run P w = .ok v w) ∧ K v := by
 unfold idxAddrV at h
 split at h
 ·split at h
  ·split at h
   ·split at h
    ·rename_i hu _ _ hi _ _ _ _
     obtain ⟨⟨h0, h1⟩, h⟩ := h
     obtain ⟨ad, rfl, hk⟩ := someV_out h
     refine ⟨_, fun w => ?_, hk⟩
     simp [Instr.indexAt, asIntOf, Sem.run_bind, run_underlying hu, run_sizeOf hi, pure, Sem.run, Result.andThen, h0, h1]
    ·exact h.elim
   ·exact h.elim
  ·split at h
   ·split at h
    ·rename_i hu _ _ hi _ _
     obtain ⟨⟨h0, h1⟩, hk⟩ := h
     refine ⟨_, fun w => ?_, hk⟩
     simp [Instr.indexAt, asIntOf, Instr.sureAddr, Sem.run_bind, run_underlying hu, run_sizeOf hi, pure, Sem.run, Result.andThen, h0, h1]
    ·exact h.elim
   ·exact h.elim
  ·exact h.elim
 ·exact h.elim
def indexV (P : Program) (t : TypeId) (x ix : Value) (K : Value → Prop) : Prop :=
 match ix with
 | .int _ i =>
  match P.underlying t with
  | some .string => match x with
   | .string s => (0 ≤ i ∧ i < (s.size : Int)) ∧ K (.int .u8 (bt s i))
   | _ => False
  | some (.array len e) => match P.info? e, P.underlying e, shOf P e with
   | some inf, some _, .agg ss => if inf.size = ss.length ∧ isAggB P e = true then
    match x with
    | .agg cs => (0 ≤ i ∧ i < (len : Int)) ∧ exs ss fun vs => cs.extract (i.toNat * inf.size) (i.toNat * inf.size + inf.size) = vs.toArray ∧ K (.agg vs.toArray)
    | _ => False
    else False
   | some inf, some _, .one sk => if inf.size = 1 ∧ isAggB P e = false then
    match x with
    | .agg cs => (0 ≤ i ∧ i < (len : Int)) ∧ sk.ex fun v => cs[i.toNat]? = some v ∧ K v
    | _ => False
    else False
   | _, _, _ => False
  | _ => False
 | _ => False
theorem run_isAgg_false {P : Program} {t : TypeId} {d : TypeDesc} (hu : P.underlying t = some d) (hd : isAggB P t = false) (w : World) : (isAgg t).run P w = .ok false w := by
 unfold isAgg
 unfold isAggB at hd
 rw [hu] at hd
 cases d <;> simp_all [Sem.run_bind, run_underlying hu, Result.andThen, pure, Sem.run]
theorem run_isAgg_true {P : Program} {t : TypeId} {d : TypeDesc} (hu : P.underlying t = some d) (hd : isAggB P t = true) (w : World) : (isAgg t).run P w = .ok true w := by
 unfold isAgg
 unfold isAggB at hd
 rw [hu] at hd
 cases d <;> simp_all [Sem.run_bind, run_underlying hu, Result.andThen, pure, Sem.run]
theorem indexV_run {P : Program} {t : TypeId} {x ix : Value} {K : Value → Prop} (h : indexV P t x ix K) : ∃ v, (∀ w, (Instr.index t x ix).run P w = .ok v w) ∧ K v := by
 unfold indexV at h
 split at h
 ·rename_i k i
  split at h
  ·rename_i hu
   split at h
   ·rename_i s
    obtain ⟨⟨h0, h1⟩, hk⟩ := h
    refine ⟨_, fun w => ?_, hk⟩
    have hlt : i.toNat < s.size := by omega
    have hb : s[i.toNat]? = some s[i.toNat] := getElem?_pos s i.toNat hlt
    have hbt : bt s i = ((s[i.toNat]).toNat : Int) := by
     unfold bt
     have : s.data.getD i.toNat 0 = s.data[i.toNat]'hlt := by simp [Array.getD, hlt]
     rw [this]; rfl
    simp [Instr.index, asIntOf, Sem.run_bind, run_underlying hu, pure, Sem.run, Result.andThen, h0, hb, hbt]
   ·exact h.elim
  ·rename_i len e hu
   split at h
   ·rename_i inf d ss hi hd _
    split at h
    ·rename_i hs
     split at h
     ·rename_i cs
      obtain ⟨⟨h0, h1⟩, h⟩ := h
      obtain ⟨vs, _, hv, hk⟩ := exs_out h
      refine ⟨_, fun w => ?_, hk⟩
      simp [Instr.index, asIntOf, part, Sem.run_bind, run_underlying hu, run_sizeOf hi, run_isAgg_true hd hs.2, pure, Sem.run, Result.andThen, h0, h1, hv]
     ·exact h.elim
    ·exact h.elim
   ·rename_i inf d sk hi hd _
    split at h
    ·rename_i hs
     split at h
     ·rename_i cs
      obtain ⟨⟨h0, h1⟩, h⟩ := h
      obtain ⟨v, hv, hk⟩ := Sk.ex_out h
      refine ⟨v, fun w => ?_, hk⟩
      simp [Instr.index, asIntOf, part, Sem.run_bind, run_underlying hu, run_sizeOf hi, run_isAgg_false hd hs.2, pure, Sem.run, Result.andThen, h0, h1, hs.1, hv]
     ·exact h.elim
    ·exact h.elim
   ·exact h.elim
  ·exact h.elim
 ·exact h.elim
def sliceV (P : Program) (t : TypeId) (x : Value) (lo hi mx : Option Value) (K : Value → Prop) : Prop :=
 match mx with
 | none =>
  match P.underlying t with
  | some .string => match x with
   | .string s => match lo, hi with
    | none, none => K (.string (s.extract 0 s.size))
    | none, some (.int _ h) => (0 ≤ h ∧ h ≤ (s.size : Int)) ∧ K (.string (s.extract 0 h.toNat))
    | some (.int _ l), none => (0 ≤ l ∧ l ≤ (s.size : Int)) ∧ K (.string (s.extract l.toNat s.size))
    | some (.int _ l), some (.int _ h) => (0 ≤ l ∧ l ≤ h ∧ h ≤ (s.size : Int)) ∧ K (.string (s.extract l.toNat h.toNat))
    | _, _ => False
   | _ => False
  | some (.slice e) => match P.info? e with
   | some inf => match x with
    | .slice o n c => match lo, hi with
     | none, none => K (.slice (if c = 0 then o else o.map (·.add (0 * inf.size))) (n - 0) (c - 0))
     | none, some (.int _ h) => (0 ≤ h ∧ h ≤ (c : Int)) ∧ K (.slice (if c = 0 then o else o.map (·.add (0 * inf.size))) (h.toNat - 0) (c - 0))
     | some (.int _ l), none => (0 ≤ l ∧ l ≤ (n : Int)) ∧ K (.slice (if c = l.toNat then o else o.map (·.add (l.toNat * inf.size))) (n - l.toNat) (c - l.toNat))
     | some (.int _ l), some (.int _ h) => (0 ≤ l ∧ l ≤ h ∧ h ≤ (c : Int)) ∧ K (.slice (if c = l.toNat then o else o.map (·.add (l.toNat * inf.size))) (h.toNat - l.toNat) (c - l.toNat))
     | _, _ => False
    | _ => False
   | none => False
  | some (.array len e) => match P.info? e with
   | some inf => match x with
    | .pointer (some ad) => match lo, hi with
     | none, none => K (.slice (some (if len = 0 then ad else ad.add (0 * inf.size))) (len - 0) (len - 0))
     | _, _ => False
    | _ => False
   | none => False
  | _ => False
 | some (.int _ m) =>
  match P.underlying t with
  | some (.slice e) => match P.info? e with
   | some inf => match x with
    | .slice o _ c => match lo, hi with
     | none, some (.int _ h) => (0 ≤ h ∧ h ≤ m ∧ m ≤ (c : Int)) ∧ K (.slice (if m.toNat = 0 then o else o.map (·.add (0 * inf.size))) (h.toNat - 0) (m.toNat - 0))
     | some (.int _ l), some (.int _ h) => (0 ≤ l ∧ l ≤ h ∧ h ≤ m ∧ m ≤ (c : Int)) ∧ K (.slice (if m.toNat = l.toNat then o else o.map (·.add (l.toNat * inf.size))) (h.toNat - l.toNat) (m.toNat - l.toNat))
     | _, _ => False
    | _ => False
   | none => False
  | _ => False
 | _ => False
theorem run_bound {P : Program} {k : IntKind} {i : Int} {y : Nat} {code : BoundsCode} (h0 : 0 ≤ i) (h1 : i ≤ (y : Int)) (w : World) : (Instr.sliceBound (.int k i) y code).run P w = .ok i.toNat w := by
 simp [Instr.sliceBound, asIntOf, Sem.run_bind, pure, Sem.run, Result.andThen, h0, h1]
theorem sliceV_run {P : Program} {t : TypeId} {x : Value} {lo hi mx : Option Value} {K : Value → Prop} (h : sliceV P t x lo hi mx K) : ∃ v, (∀ w, (Instr.sliceAt t x lo hi mx).run P w = .ok v w) ∧ K v := by
 unfold sliceV at h
 split at h
 ·split at h
  ·rename_i hu
   split at h
   ·rename_i s
    split at h
    ·refine ⟨_, fun w => ?_, h⟩
     simp [Instr.sliceAt, Instr.slice, Instr.sliceBounds, Sem.run_bind, run_underlying hu, pure, Sem.run, Result.andThen]
    ·obtain ⟨⟨h0, h1⟩, hk⟩ := h
     refine ⟨_, fun w => ?_, hk⟩
     simp [Instr.sliceAt, Instr.slice, Instr.sliceBounds, Sem.run_bind, run_underlying hu, pure, Sem.run, Result.andThen, run_bound h0 h1]
    ·obtain ⟨⟨h0, h1⟩, hk⟩ := h
     refine ⟨_, fun w => ?_, hk⟩
     simp [Instr.sliceAt, Instr.slice, Instr.sliceBounds, Sem.run_bind, run_underlying hu, pure, Sem.run, Result.andThen, run_bound h0 h1]
    ·rename_i kl l kh hh
     obtain ⟨⟨h0, h1, h2⟩, hk⟩ := h
     refine ⟨_, fun w => ?_, hk⟩
     have e1 := fun (code : BoundsCode) => run_bound (P := P) (k := kh) (i := hh) (y := s.size) (code := code) (by omega) h2 w
     have e2 := fun (code : BoundsCode) => run_bound (P := P) (k := kl) (i := l) (y := hh.toNat) (code := code) h0 (by omega) w
     simp [Instr.sliceAt, Instr.slice, Instr.sliceBounds, Sem.run_bind, run_underlying hu, pure, Sem.run, Result.andThen, e1, e2]
    ·exact h.elim
   ·exact h.elim
  ·rename_i e hu
   split at h
   ·rename_i inf hi
    split at h
    ·rename_i o n c
     split at h
     ·refine ⟨_, fun w => ?_, h⟩
      simp [Instr.sliceAt, Instr.slice, Instr.sliceBounds, Sem.run_bind, run_underlying hu, pure, Sem.run, Result.andThen, run_sizeOf hi]
     ·obtain ⟨⟨h0, h1⟩, hk⟩ := h
      refine ⟨_, fun w => ?_, hk⟩
      simp [Instr.sliceAt, Instr.slice, Instr.sliceBounds, Sem.run_bind, run_underlying hu, pure, Sem.run, Result.andThen, run_bound h0 h1, run_sizeOf hi]
     ·obtain ⟨⟨h0, h1⟩, hk⟩ := h
      refine ⟨_, fun w => ?_, hk⟩
      simp [Instr.sliceAt, Instr.slice, Instr.sliceBounds, Sem.run_bind, run_underlying hu, pure, Sem.run, Result.andThen, run_bound h0 h1, run_sizeOf hi]
     ·rename_i kl l kh hh
      obtain ⟨⟨h0, h1, h2⟩, hk⟩ := h
      refine ⟨_, fun w => ?_, hk⟩
      have e1 := fun (code : BoundsCode) => run_bound (P := P) (k := kh) (i := hh) (y := c) (code := code) (by omega) h2 w
      have e2 := fun (code : BoundsCode) => run_bound (P := P) (k := kl) (i := l) (y := hh.toNat) (code := code) h0 (by omega) w
      simp [Instr.sliceAt, Instr.slice, Instr.sliceBounds, Sem.run_bind, run_underlying hu, pure, Sem.run, Result.andThen, e1, e2, run_sizeOf hi]
     ·exact h.elim
    ·exact h.elim
   ·exact h.elim
  ·rename_i len e hu
   split at h
   ·rename_i inf hi
    split at h
    ·split at h
     ·refine ⟨_, fun w => ?_, h⟩
      simp [Instr.sliceAt, Instr.sureAddr, Instr.sliceBounds, Sem.run_bind, run_underlying hu, pure, Sem.run, Result.andThen, run_sizeOf hi]
     ·exact h.elim
    ·exact h.elim
   ·exact h.elim
  ·exact h.elim
 ·split at h
  ·rename_i km m _ e hu
   split at h
   ·rename_i inf hi
    split at h
    ·rename_i o n c
     split at h
     ·rename_i kh hh
      obtain ⟨⟨h0, h1, h2⟩, hk⟩ := h
      refine ⟨_, fun w => ?_, hk⟩
      have e1 := fun (code : BoundsCode) => run_bound (P := P) (k := km) (i := m) (y := c) (code := code) (by omega) h2 w
      have e2 := fun (code : BoundsCode) => run_bound (P := P) (k := kh) (i := hh) (y := m.toNat) (code := code) h0 (by omega) w
      simp [Instr.sliceAt, Instr.slice, Instr.sliceBounds, Sem.run_bind, run_underlying hu, pure, Sem.run, Result.andThen, e1, e2, run_sizeOf hi]
     ·rename_i kl l kh hh
      obtain ⟨⟨h0, h1, h2, h3⟩, hk⟩ := h
      refine ⟨_, fun w => ?_, hk⟩
      have e1 := fun (code : BoundsCode) => run_bound (P := P) (k := km) (i := m) (y := c) (code := code) (by omega) h3 w
      have e2 := fun (code : BoundsCode) => run_bound (P := P) (k := kh) (i := hh) (y := m.toNat) (code := code) (by omega) (by omega) w
      have e3 := fun (code : BoundsCode) => run_bound (P := P) (k := kl) (i := l) (y := hh.toNat) (code := code) h0 (by omega) w
      simp [Instr.sliceAt, Instr.slice, Instr.sliceBounds, Sem.run_bind, run_underlying hu, pure, Sem.run, Result.andThen, e1, e2, e3, run_sizeOf hi]
     ·exact h.elim
    ·exact h.elim
   ·exact h.elim
  ·exact h.elim
 ·exact h.elim
def partV (P : Program) (t : TypeId) (cs : Array Value) (off : Nat) : Option Value :=
 match isAggB P t with
 | true => match P.info? t with
  | some i => some (.agg (cs.extract off (off + i.size)))
  | none => none
 | false => match P.underlying t with
  | some _ => cs[off]?
  | none => none
def eqDF (f : TypeId → Value → Value → Option Bool) (P : Program) (xs ys : Array Value) : List Field → Option Bool
 | [] => some true
 | fl :: fs => if fl.name = "_" then eqDF f P xs ys fs else
  match partV P fl.type xs fl.offset, partV P fl.type ys fl.offset, eqDF f P xs ys fs with
  | some a, some b, some r => match f fl.type a b with
   | some e => some (e && r)
   | none => none
  | _, _, _ => none
def eqDI (f : TypeId → Value → Value → Option Bool) (P : Program) (e c : Nat) (xs ys : Array Value) : List Nat → Option Bool
 | [] => some true
 | i :: is =>
  match partV P e xs (i * c), partV P e ys (i * c), eqDI f P e c xs ys is with
  | some a, some b, some r => match f e a b with
   | some q => some (q && r)
   | none => none
  | _, _, _ => none
def eqD (P : Program) : Nat → TypeId → Value → Value → Option Bool
 | 0, _, _, _ => none
 | d + 1, t, x, y =>
  match P.underlying t, x, y with
  | some (.int _), .int k a, .int k' b => if k = k' then some (a == b) else none
  | some .bool, .bool a, .bool b => some (a == b)
  | some .string, .string a, .string b => some (a.toList == b.toList)
  | some (.struct fs), .agg xs, .agg ys => match P.stoodInHeld t with
   | false => eqDF (eqD P d) P xs ys fs.toList
   | true => none
  | some (.array n e), .agg xs, .agg ys => match P.info? e with
   | some i => eqDI (eqD P d) P e i.size xs ys (List.range n)
   | none => none
  | _, _, _ => none
theorem partV_run {P : Program} {t : TypeId} {cs : Array Value} {off : Nat} {v : Value} (h : partV P t cs off = some v) (w : World) : (part t cs off).run P w = .ok v w := by
 unfold partV at h
 split at h
 ·rename_i ha
  split at h
  ·rename_i i hi
   injection h with h
   subst h
   have hag : (isAgg t).run P w = .ok true w := by
    unfold isAggB at ha
    unfold isAgg
    split at ha
    ·rename_i hu; simp [Sem.run_bind, run_underlying hu, Result.andThen, pure, Sem.run]
    ·rename_i hu; simp [Sem.run_bind, run_underlying hu, Result.andThen, pure, Sem.run]
    ·cases ha
   have hsz : (sizeOf t).run P w = .ok i.size w := by
    simp [sizeOf, typeInfo, program, Sem.run_bind, Sem.run, Result.andThen, hi, pure]
   unfold part
   simp [Sem.run_bind, hag, hsz, Result.andThen, pure, Sem.run]
  ·cases h
 ·rename_i ha
  split at h
  ·rename_i d hu
   unfold part
   rw [Sem.run_bind, run_isAgg_false hu ha]
   simp [Result.andThen, h]
  ·cases h
theorem eqDF_run {P : Program} {f : TypeId → Value → Value → Option Bool} {D : Nat} (hf : ∀ t x y b, f t x y = some b → ∀ w, (Op.equalIn D t x y).run P w = .ok b w) {xs ys : Array Value} :
  ∀ {fs : List Field} {b : Bool}, eqDF f P xs ys fs = some b → ∀ w, (Op.eqFields D xs ys fs).run P w = .ok b w
 | [], b, h, w => by
  simp only [eqDF, Option.some.injEq] at h; subst h; rfl
 | fl :: fs, b, h, w => by
  unfold eqDF at h
  unfold Op.eqFields
  split at h
  ·rename_i hn
   rw [if_neg (by simpa using hn)]
   exact eqDF_run hf h w
  ·rename_i hn
   rw [if_pos hn]
   split at h
   ·rename_i a c r hx hy hr
    split at h
    ·rename_i e he
     injection h with h
     subst h
     rw [Sem.run_bind, partV_run hx]
     simp only [Result.andThen]
     rw [Sem.run_bind, partV_run hy]
     simp only [Result.andThen]
     rw [Sem.run_bind, hf _ _ _ _ he]
     simp only [Result.andThen]
     cases e
     ·rfl
     ·simpa using eqDF_run hf hr w
    ·cases h
   ·cases h
theorem eqDI_run {P : Program} {f : TypeId → Value → Value → Option Bool} {D : Nat} (hf : ∀ t x y b, f t x y = some b → ∀ w, (Op.equalIn D t x y).run P w = .ok b w) {e c : Nat} {xs ys : Array Value} :
  ∀ {is : List Nat} {b : Bool}, eqDI f P e c xs ys is = some b → ∀ w, (Op.eqItems D e c xs ys is).run P w = .ok b w
 | [], b, h, w => by
  simp only [eqDI, Option.some.injEq] at h; subst h; rfl
 | i :: is, b, h, w => by
  unfold eqDI at h
  unfold Op.eqItems
  split at h
  ·rename_i a c r hx hy hr
   split at h
   ·rename_i q he
    injection h with h
    subst h
    rw [Sem.run_bind, partV_run hx]
    simp only [Result.andThen]
    rw [Sem.run_bind, partV_run hy]
    simp only [Result.andThen]
    rw [Sem.run_bind, hf _ _ _ _ he]
    simp only [Result.andThen]
    cases q
    ·rfl
    ·simpa using eqDI_run hf hr w
   ·cases h
  ·cases h
theorem eqD_run {P : Program} : ∀ (d : Nat) {D : Nat}, d ≤ D → ∀ (t : TypeId) (x y : Value) (b : Bool), eqD P d t x y = some b → ∀ w, (Op.equalIn D t x y).run P w = .ok b w
 | 0, _, _, _, _, _, _, h => by simp [eqD] at h
 | d + 1, D, hd, t, x, y, b, h => by
  obtain ⟨D, rfl⟩ : ∃ E, D = E + 1 := ⟨D - 1, by omega⟩
  have ih : ∀ t x y b, eqD P d t x y = some b → ∀ w, (Op.equalIn D t x y).run P w = .ok b w := eqD_run d (by omega)
  unfold eqD at h
  intro w
  split at h
  ·rename_i k a k' b' hu
   split at h
   ·rename_i hk
    subst hk
    simp only [Option.some.injEq] at h; subst h
    simp [Op.equalIn, run_underlying hu]
   ·cases h
  ·rename_i hu
   simp only [Option.some.injEq] at h; subst h
   simp [Op.equalIn, run_underlying hu]
  ·rename_i hu
   simp only [Option.some.injEq] at h; subst h
   simp [Op.equalIn, run_underlying hu, beq_toListBytes]
  ·rename_i fs xs ys hu
   split at h
   ·rename_i hs
    have hf : P.fieldsOf t = fs := by simp [Program.fieldsOf, hu]
    rw [run_equalIn_struct w D t xs ys (by rw [hf]; exact hu) hs, hf]
    exact eqDF_run ih h w
   ·cases h
  ·rename_i n e xs ys hu
   split at h
   ·rename_i i hi
    rw [run_equalIn_array w D xs ys hu hi]
    have hc : P.cellsOf e = i.size := by simp [Program.cellsOf, hi]
    rw [hc]
    exact eqDI_run ih h w
   ·cases h
  ·cases h
def eqAgg (P : Program) (t : TypeId) (xs ys : Array Value) : Option Bool := eqD P 8 t (.agg xs) (.agg ys)
theorem eqAgg_run {P : Program} {t : TypeId} {xs ys : Array Value} {b : Bool} (h : eqAgg P t xs ys = some b) (w : World) : (Op.equalIn (9999 + 1) t (.agg xs) (.agg ys)).run P w = .ok b w := eqD_run 8 (by omega) t _ _ b h w
def binV (P : Program) (op : BinOp) (t : TypeId) (x y : Value) (K : Value → Prop) : Prop :=
 match op, x, y with
 | .quo, .int k a, .int k' b => if k = k' then b ≠ 0 ∧ K (.int k (k.wrap (a.tdiv b))) else False
 | .rem, .int k a, .int k' b => if k = k' then b ≠ 0 ∧ K (.int k (a.tmod b)) else False
 | .shl, .int k a, .int _ b => 0 ≤ b ∧ K (.int k (k.wrap (a * 2 ^ min b.toNat k.bits)))
 | .shr, .int k a, .int _ b => 0 ≤ b ∧ K (.int k (a.fdiv (2 ^ min b.toNat k.bits)))
 | .add, .string a, .string b => ((a.size + b.size : Nat) : Int) ≤ 9223372036854775807 ∧ K (.string (a ++ b))
 | .eql, .pointer o, .pointer none => match P.underlying t with
  | some (.pointer _) => K (.bool o.isNone)
  | _ => False
 | .neq, .pointer o, .pointer none => match P.underlying t with
  | some (.pointer _) => K (.bool (!o.isNone))
  | _ => False
 | .eql, .slice o _ _, .slice none _ _ => match P.underlying t with
  | some (.slice _) => K (.bool o.isNone)
  | _ => False
 | .neq, .slice o _ _, .slice none _ _ => match P.underlying t with
  | some (.slice _) => K (.bool (!o.isNone))
  | _ => False
 | .eql, .agg xs, .agg ys => match eqAgg P t xs ys with
  | some b => K (.bool b)
  | none => False
 | .neq, .agg xs, .agg ys => match eqAgg P t xs ys with
  | some b => K (.bool (!b))
  | none => False
 | _, _, _ => match pureRun P (binOp op t x y) with
  | some v => K v
  | none => False
theorem run_equalIn_ptr_nil {P : Program} (d : Nat) {t e : TypeId} {o : Option Addr} (hu : P.underlying t = some (.pointer e)) (w : World) :
  (Op.equalIn (d + 1) t (.pointer o) (.pointer none)).run P w = .ok o.isNone w := by
 cases o <;> simp [Op.equalIn, Sem.run_bind, run_underlying hu, pure, Sem.run, Result.andThen]
theorem run_equalIn_slice_nil {P : Program} (d : Nat) {t e : TypeId} {o : Option Addr} {n c n' c' : Nat} (hu : P.underlying t = some (.slice e)) (w : World) :
  (Op.equalIn (d + 1) t (.slice o n c) (.slice none n' c')).run P w = .ok o.isNone w := by
 cases o <;> simp [Op.equalIn, Sem.run_bind, run_underlying hu, pure, Sem.run, Result.andThen]
theorem run_eql_of {P : Program} {t : TypeId} {x y : Value} {b : Bool} {w : World} (h : (Op.equalIn (9999 + 1) t x y).run P w = .ok b w)
  (hx : binOp .eql t x y = (do pure (.bool (← Op.equal t x y)) : Sem Value) := by rfl) : (binOp .eql t x y).run P w = .ok (.bool b) w := by
 rw [hx, Sem.run_bind]
 have : (Op.equal t x y).run P w = .ok b w := h
 rw [this]; rfl
theorem run_neq_of {P : Program} {t : TypeId} {x y : Value} {b : Bool} {w : World} (h : (Op.equalIn (9999 + 1) t x y).run P w = .ok b w)
  (hx : binOp .neq t x y = (do pure (.bool (!(← Op.equal t x y))) : Sem Value) := by rfl) : (binOp .neq t x y).run P w = .ok (.bool (!b)) w := by
 rw [hx, Sem.run_bind]
 have : (Op.equal t x y).run P w = .ok b w := h
 rw [this]; rfl
theorem run_binPure {P : Program} {op : BinOp} {t : TypeId} {x y : Value} {K : Value → Prop} (h : match pureRun P (binOp op t x y) with | some v => K v | none => False) :
  ∃ v, (∀ w, (binOp op t x y).run P w = .ok v w) ∧ K v := by
 split at h
 ·rename_i v hv; exact ⟨v, pureRun_run hv, h⟩
 ·exact h.elim
theorem binV_run {P : Program} {op : BinOp} {t : TypeId} {x y : Value} {K : Value → Prop} (h : binV P op t x y K) : ∃ v, (∀ w, (binOp op t x y).run P w = .ok v w) ∧ K v := by
 unfold binV at h
 split at h
 ·split at h
  ·rename_i a _ b hk
   subst hk
   obtain ⟨h0, hk⟩ := h
   refine ⟨_, fun w => ?_, hk⟩
   simp [binOp, Op.intDiv, h0, pure, Sem.run]
  ·exact h.elim
 ·split at h
  ·rename_i a _ b hk
   subst hk
   obtain ⟨h0, hk⟩ := h
   refine ⟨_, fun w => ?_, hk⟩
   simp [binOp, Op.intDiv, h0, pure, Sem.run]
  ·exact h.elim
 ·obtain ⟨h0, hk⟩ := h
  refine ⟨_, fun w => ?_, hk⟩
  simp [binOp, Op.shift, show ¬ _ < (0 : Int) from Int.not_lt.mpr h0, pure, Sem.run]
 ·obtain ⟨h0, hk⟩ := h
  refine ⟨_, fun w => ?_, hk⟩
  simp [binOp, Op.shift, show ¬ _ < (0 : Int) from Int.not_lt.mpr h0, pure, Sem.run]
 ·rename_i a b
  obtain ⟨h0, hk⟩ := h
  refine ⟨_, fun w => ?_, hk⟩
  have : ¬ ((a.size + b.size : Nat) : Int) > IntKind.i64.max := by simp only [IntKind.max, IntKind.bits, IntKind.signed]; simp; omega
  simp only [binOp, Op.stringOp, if_neg this]
  rfl
 ·split at h
  ·rename_i o e hu
   exact ⟨_, fun w => run_eql_of (run_equalIn_ptr_nil 9999 hu w), h⟩
  ·exact h.elim
 ·split at h
  ·rename_i o e hu
   exact ⟨_, fun w => run_neq_of (run_equalIn_ptr_nil 9999 hu w), h⟩
  ·exact h.elim
 ·split at h
  ·rename_i o n c n' c' e hu
   exact ⟨_, fun w => run_eql_of (run_equalIn_slice_nil 9999 hu w), h⟩
  ·exact h.elim
 ·split at h
  ·rename_i o n c n' c' e hu
   exact ⟨_, fun w => run_neq_of (run_equalIn_slice_nil 9999 hu w), h⟩
  ·exact h.elim
 ·split at h
  ·rename_i xs ys b hb
   exact ⟨_, fun w => run_eql_of (eqAgg_run hb w), h⟩
  ·exact h.elim
 ·split at h
  ·rename_i xs ys b hb
   exact ⟨_, fun w => run_neq_of (eqAgg_run hb w), h⟩
  ·exact h.elim
 ·exact run_binPure h
def guardless (P : Program) (op : BinOp) (t : TypeId) (x y : Value) : Bool :=
 match op with
 | .eql | .neq => match x, y with
  | .nilIface, .nilIface => false
  | .agg _, .agg _ => !P.eqGuardType P.depth t
  | _, _ => true
 | _ => true
theorem run_eqGuard {P : Program} {op : BinOp} {t : TypeId} {x y : Operand} {u v : Value} (h : guardless P op t u v = true) (w : World) : (eqGuard op t x y u v).run P w = .ok () w := by
 have pr : ∀ w, (program).run P w = .ok P w := fun w => rfl
 unfold guardless at h
 cases op <;> first
  | rfl
  | (cases u <;> first
    | (cases v <;> first | rfl | (exfalso; simp at h; done))
    | (cases v <;> first
      | rfl
      | (simp at h; simp [eqGuard, Sem.run_bind, Sem.run, Result.andThen, pr, h, pure])))
def pureV (P : Program) (o : Oper) (l : Env) (K : Value → Prop) : Prop :=
 match o.op with
 | .nilCheck x => match ev l x with
  | .pointer o => someV o fun ad => K (.pointer (some ad))
  | _ => match pureRun P (execOp (ev l) o) with
   | some (.value v) => K v
   | _ => False
 | .indexAddr t x ix => idxAddrV P t (ev l x) (ev l ix) K
 | .index t x ix => indexV P t (ev l x) (ev l ix) K
 | .slice t x lo hi mx => sliceV P t (ev l x) (lo.map (ev l)) (hi.map (ev l)) (mx.map (ev l)) K
 | .binOp op t x y _ => if guardless P op t (ev l x) (ev l y) = true then binV P op t (ev l x) (ev l y) K else False
 | _ => match pureRun P (execOp (ev l) o) with
  | some (.value v) => K v
  | _ => False
theorem pureV_run {P : Program} {o : Oper} {l : Env} {K : Value → Prop} (h : pureV P o l K) : ∃ v, (∀ w, (execOp (ev l) o).run P w = .ok (.value v) w) ∧ K v := by
 have lift : ∀ {s : Sem Value} {v : Value} {w : World}, s.run P w = .ok v w → (do pure (Next.value (← s)) : Sem Next).run P w = .ok (.value v) w := by
  intro s v w hs
  rw [Sem.run_bind, hs]; rfl
 have gen : (match pureRun P (execOp (ev l) o) with | some (.value v) => K v | _ => False) → ∃ v, (∀ w, (execOp (ev l) o).run P w = .ok (.value v) w) ∧ K v := by
  intro h
  split at h
  ·rename_i v hv; exact ⟨v, pureRun_run hv, h⟩
  ·exact h.elim
 unfold pureV at h
 split at h
 ·rename_i x ho
  split at h
  ·rename_i p hp
   obtain ⟨ad, rfl, hk⟩ := someV_out h
   refine ⟨_, fun w => ?_, hk⟩
   simp only [execOp, ho, hp]
   rfl
  ·exact gen h
 ·rename_i t x ix ho
  obtain ⟨v, hv, hk⟩ := idxAddrV_run h
  exact ⟨v, fun w => by simp only [execOp, ho]; exact lift (hv w), hk⟩
 ·rename_i t x ix ho
  obtain ⟨v, hv, hk⟩ := indexV_run h
  exact ⟨v, fun w => by simp only [execOp, ho]; exact lift (hv w), hk⟩
 ·rename_i t x lo hi mx ho
  obtain ⟨v, hv, hk⟩ := sliceV_run h
  exact ⟨v, fun w => by simp only [execOp, ho]; exact lift (hv w), hk⟩
 ·rename_i op t x y ty ho
  split at h
  ·rename_i hg
   obtain ⟨v, hv, hk⟩ := binV_run h
   refine ⟨v, fun w => ?_, hk⟩
   simp only [execOp, ho]
   refine lift ?_
   rw [Sem.run_bind, run_eqGuard hg]
   exact hv w
  ·exact h.elim
 ·exact gen h
/-! Operations that look at memory, or write it; calls. -/
def Ret (R : Value → World → Prop) : Ending → World → Prop
 | .returned v, w => R v w
 | _, _ => False
theorem Ret.mono {R R' : Value → World → Prop} (h : ∀ v w, R v w → R' v w) : ∀ e w, Ret R e w → Ret R' e w := fun e w he => by
 cases e
 ·exact h _ _ he
 ·exact he
 ·exact he
theorem step_call {P : Program} {f : FuncId} {args : Array Value} {w : World} {R R' : Value → World → Prop} (h : Calls P f args w (Ret R)) (hr : ∀ v w', R v w' → R' v w') : Calls P f args w (Ret R') :=
 h.mono (Ret.mono hr)
def exShs : List Sh → (List Value → Prop) → Prop
 | [], K => K []
 | s :: r, K => s.ex fun v => exShs r fun vs => K (v :: vs)
theorem exShs_out : ∀ {ss : List Sh} {K : List Value → Prop}, exShs ss K → ∃ vs, K vs
 | [], _, h => ⟨[], h⟩
 | s :: r, K, h => by
  obtain ⟨v, hv⟩ := Sh.ex_out h
  obtain ⟨vs, hk⟩ := exShs_out hv
  exact ⟨v :: vs, hk⟩
def resT (ss : List Sh) (v : Value) (K : Value → Prop) : Prop :=
 match ss with
 | [] => v = .tuple #[] ∧ K (.tuple #[])
 | [s] => s.ex fun u => v = u ∧ K u
 | ss => exShs ss fun us => v = .tuple us.toArray ∧ K (.tuple us.toArray)
theorem resT_out {ss : List Sh} {v : Value} {K : Value → Prop} (h : resT ss v K) : K v := by
 unfold resT at h
 split at h
 ·obtain ⟨rfl, h⟩ := h; exact h
 ·obtain ⟨u, rfl, h⟩ := Sh.ex_out h; exact h
 ·obtain ⟨u, hv, hk⟩ := exShs_out h; rw [hv]; exact hk
def callV (P : Program) (g : FuncId) (args : Array Value) (w : World) (K : Value → World → Prop) : Prop :=
 match P.funcs[g]? with
 | some fn => match fn.body with
  | some _ => Calls P g args w (Ret fun v w' => resT (fn.resultTypes.toList.map (shOf P)) v fun u => K u w')
  | none => match fn.resultTypes.toList.map (shOf P) with
   | [sh] => ∃ e : Array Value → Sem Value, Extern.findNext fn = none ∧ Extern.find fn = some e ∧ sh.ex fun v => ∃ w', (e args).run P w = .ok v w' ∧ K v w'
   | _ => False
 | none => False
def callB (P : Program) (g : FuncId) (args : Array Value) (w : World) (K : Value → World → Prop) : Prop :=
 match P.funcs[g]? with
 | some fn => match fn.body with
  | some _ => Calls P g args w (Ret fun v w' => resT (fn.resultTypes.toList.map (shOf P)) v fun u => K u w')
  | none => False
 | none => False
def runS (P : Program) (s : Sem Value) (sh : Sh) (w : World) (K : Value → World → Prop) : Prop := sh.ex fun v => ∃ w', s.run P w = .ok v w' ∧ K v w'
def runU (P : Program) (s : Sem Unit) (w : World) (K : Value → World → Prop) : Prop := ∃ w', s.run P w = .ok () w' ∧ K undef w'
def stOk (w : World) (ad : Addr) : Nat → List Value → Prop
 | _, [] => True
 | i, [_] => (∃ u, w.cell? (ad.add i) = some u) ∧ w.frozen? (ad.add i) = false
 | i, _ :: r => ((∃ u, w.cell? (ad.add i) = some u) ∧ w.frozen? (ad.add i) = false) ∧ stOk w ad (i + 1) r
def stAll (w : World) (ad : Addr) : Nat → List Value → World
 | _, [] => w
 | i, v :: r => stAll (w.setCell (ad.add i) v) ad (i + 1) r
def storeV (P : Program) (t : TypeId) (w : World) (ad : Addr) (v : Value) (K : World → Prop) : Prop :=
 match P.info? t with
 | some i => if v.cells.size = i.size ∧ v.cells.toList.all (·.oneCell') = true then stOk w ad 0 v.cells.toList ∧ ∀ w', w' = stAll w ad 0 v.cells.toList → K w' else False
 | none => False
def zeroRow (z : List Value) : Nat → List Value
 | 0 => []
 | n + 1 => z ++ zeroRow z n
def mkSliceV (P : Program) (t : TypeId) (n c : Int) (w : World) (K : Value → World → Prop) : Prop :=
 match P.underlying t with
 | some (.slice e) => match P.info? e with
  | some i => match i.zero with
   | some z => if z.cells.size = i.size ∧ 0 < i.size ∧ 0 < i.bytes then
     (n = c ∧ 0 ≤ n ∧ n * i.bytes ≤ 140737488355328) ∧ ∀ w', w' = w.alloc (.cells (zeroRow z.cells.toList n.toNat).toArray e (0, 0)) → K (.slice (some ⟨w.heap.size, 0, none⟩) n.toNat n.toNat) w'
    else False
   | none => False
  | none => False
 | _ => False
def ptrCmp (w : World) (ox oy : Option Addr) : Prop := ∀ a b, ox = some a → oy = some b → a ≠ b → (∃ c t, w.heap[a.block]? = some (.cells c t (0, 0))) ∧ ∃ c t, w.heap[b.block]? = some (.cells c t (0, 0))
def ptrV (P : Program) (t : TypeId) (w : World) (ox oy : Option Addr) (K : Value → World → Prop) : Prop :=
 match P.underlying t with
 | some (.pointer e) => match P.info? e with
  | some i => if i.size ≠ 0 then ptrCmp w ox oy ∧ K (.bool (decide (ox = oy))) w else False
  | none => False
 | _ => False
theorem ptrV_run {P : Program} {t : TypeId} {w : World} {ox oy : Option Addr} {K : Value → World → Prop} (h : ptrV P t w ox oy K) :
  (binOp .eql t (.pointer ox) (.pointer oy)).run P w = .ok (.bool (decide (ox = oy))) w ∧ K (.bool (decide (ox = oy))) w := by
 unfold ptrV at h
 split at h
 ·rename_i e hu
  split at h
  ·rename_i i hi
   split at h
   ·rename_i hs
    obtain ⟨hc, hk⟩ := h
    refine ⟨?_, hk⟩
    cases oy with
    | none =>
     have h := run_eql_of (run_equalIn_ptr_nil (P := P) (o := ox) 9999 hu w)
     have e : decide (ox = none) = ox.isNone := by cases ox <;> rfl
     rw [e]; exact h
    | some b => cases ox with
     | none =>
      have h1 : ∀ d : Nat, (Op.equalIn (d + 1) t (.pointer none) (.pointer (some b))).run P w = .ok false w := fun d => by
       simp [Op.equalIn, Sem.run_bind, run_underlying hu, pure, Sem.run, Result.andThen]
      have h := run_eql_of (h1 9999)
      have e : decide ((none : Option Addr) = some b) = false := decide_eq_false (by simp)
      rw [e]; exact h
     | some a =>
      by_cases hab : a = b
      ·subst hab
       rw [decide_eq_true rfl]
       exact run_eql_ptr_same w a hu hi
      ·obtain ⟨⟨ca, ta, ha⟩, cb, tb, hb⟩ := hc a b rfl rfl hab
       rw [decide_eq_false (fun e => hab (Option.some.inj e))]
       exact run_eql_ptr_other w hu hi hs hab ha hb
   ·exact h.elim
  ·exact h.elim
 ·exact h.elim
def eqlV (P : Program) (o : Oper) (l : Env) (t : TypeId) (x y : Value) (w : World) (K : Value → World → Prop) : Prop :=
 match x, y with
 | .pointer ox, .pointer oy => ptrV P t w ox oy K
 | _, _ => pureV P o l fun v => K v w
def worldV (P : Program) (o : Oper) (l : Env) (w : World) (K : Value → World → Prop) : Prop :=
 match o.op with
 | .load t a => match ev l a with
  | .pointer (some ad) => loadV P t w ad fun v => K v w
  | _ => False
 | .store t a x => match ev l a with
  | .pointer (some ad) => storeV P t w ad (ev l x) (K undef)
  | _ => False
 | .makeSlice t n c => match ev l n, ev l c with
  | .int _ n, .int _ c => mkSliceV P t n c w K
  | _, _ => False
 | .binOp .eql t x (.tmp y) _ => eqlV P o l t (ev l x) (ev l (.tmp y)) w K
 | .convert s d x => match P.underlying d, ev l x with
  | some (.slice _), .string y => runS P (convert s d (.string y)) (shOf P d) w K
  | some .string, .slice a n c => runS P (convert s d (.slice a n c)) (shOf P d) w K
  | _, _ => pureV P o l fun v => K v w
 | .lookup t x ix ok => runS P (Instr.lookup t (ev l x) (ev l ix) ok) (shOf P o.type) w K
 | .mapUpdate t m k x => runU P (Instr.mapUpdate t (ev l m) (ev l k) (ev l x)) w K
 | .mapEntry t m k => runS P (Instr.mapEntry t (ev l m) (ev l k)) (.one .other) w K
 | .entryStore t m s x => runU P (Instr.entryStore t (ev l m) (ev l s) (ev l x)) w K
 | .alloc .. | .box .. | .buildSlice .. | .makeMap .. => match (execOp (ev l) o).run P w with
  | .ok (.value v) w' => ∀ w1, w1 = w' → K v w1
  | _ => False
 | .call c => match c.callee with
  | .builtin .len => match c.args.toList.map (ev l) with
   | [.map r] => runS P (Builtin.len_ c.argTypes o.type #[.map r]) (.one (.int .i64)) w K
   | _ => pureV P o l fun v => K v w
  | .builtin .cap | .builtin .max | .builtin .min => pureV P o l fun v => K v w
  | .builtin .append => runS P (Builtin.append_ c.argTypes o.type (c.args.toList.map (ev l)).toArray) (.one .slice) w K
  | .builtin .copy => runS P (Builtin.copy_ c.argTypes o.type (c.args.toList.map (ev l)).toArray) (.one (.int .i64)) w K
  | .builtin .clear => runS P (Builtin.clear_ c.argTypes o.type (c.args.toList.map (ev l)).toArray) (.one .other) w K
  | .builtin .delete => runS P (Builtin.delete_ c.argTypes o.type (c.args.toList.map (ev l)).toArray) (.one .other) w K
  | .builtin .unsafeSliceData => runS P (Builtin.unsafeSliceData_ c.argTypes o.type (c.args.toList.map (ev l)).toArray) (.one .ptr) w K
  | .builtin .unsafeString => runS P (Builtin.unsafeString_ c.argTypes o.type (c.args.toList.map (ev l)).toArray) (.one .str) w K
  | .value f => match ev l f with
   | .func (.func g) first cap => callV P g (first.toList ++ c.args.toList.map (ev l) ++ cap.toList).toArray w K
   | _ => False
  | .invoke r name => match ev l r with
   | .iface t v => match pureRun P (method (P.types.size + Made.depth) t v name) with
    | some (g, x) => callB P g (x :: c.args.toList.map (ev l)).toArray w K
    | none => False
   | _ => False
  | _ => False
 | _ => pureV P o l fun v => K v w
def Op1 (P : Program) (o : Oper) (l : Env) (w : World) (K : Value → World → Prop) : Prop :=
 (∃ v w', (execOp (ev l) o).run P w = .ok (.value v) w' ∧ K v w') ∨ (∃ w', (execOp (ev l) o).run P w = .ok .skip w' ∧ K undef w') ∨
 ∃ f args, (execOp (ev l) o).run P w = .ok (.enter f args) w ∧ Calls P f args w (Ret K)
theorem Op1.wp {P : Program} {o : Oper} {l : Env} {w : World} {K : Value → World → Prop} {next : Act → World → Prop} {Q : Exit → Act → World → Prop} (h : Op1 P o l w K)
  (hn : ∀ v w', K v w' → next (act (put l o.dst v)) w') : o.wp P (act l) w next Q := by
 unfold Oper.wp
 rw [act_eval]
 rcases h with ⟨v, w', hr, hk⟩ | ⟨w', hr, hk⟩ | ⟨f, args, hr, hc⟩
 ·rw [hr, Oper.upon_value, act_put]; exact hn _ _ hk
 ·rw [hr, Oper.upon_skip, act_put]; exact hn _ _ hk
 ·rw [hr, Oper.upon_enter]
  refine hc.mono fun e w' he => ?_
  cases e with
  | returned v => show next ((act l).put o.dst v) w'; rw [act_put]; exact hn _ _ he
  | panicked c => exact he.elim
  | outgrown => exact he.elim
structure Fit (P : Program) : Prop where
 num : (P.funcs.all fun f => !(f.name == "runtime.NumGoroutine")) = true
 mixed : P.follows .mixedOrders = true
theorem Fit.enter {P : Program} (hP : Fit P) {g : FuncId} {fn : Func} {c : Code} (hf : P.funcs[g]? = some fn) (hb : fn.body = some c) (args : Array Value) (w : World) :
  (callFunc g args).run P w = .ok (.enter g args) w := by
 have h1 : fn.name ≠ "runtime.NumGoroutine" := by
  have h2 := hP.num
  rw [Array.all_eq_true'] at h2
  have h3 := h2 fn (Array.mem_of_getElem? hf)
  simpa using h3
 simp [callFunc, hf, h1, hb, program, Sem.run_bind, Sem.run, pure, Result.andThen]
theorem cell_set_some {w : World} {p q : Addr} {x v : Value} (h : w.cell? q = some v) : ∃ v', (w.setCell p x).cell? q = some v' := by
 unfold World.cell? World.setCell at *
 rw [Array.getElem?_modify]
 by_cases e : p.block = q.block
 ·rw [if_pos e]
  cases hb : w.heap[q.block]? with
  | none => rw [hb] at h; simp at h
  | some o =>
   rw [hb] at h
   cases o with
   | cells c el fz =>
    simp only [Option.map_some]
    simp only at h
    split at h
    ·cases h
    ·rename_i hs
     rw [if_neg hs]
     have hlt := (Array.getElem?_eq_some_iff.1 h).1
     split
     ·exact ⟨_, h⟩
     ·rw [Array.getElem?_setIfInBounds]
      split
      ·rw [if_pos (by omega)]; exact ⟨_, rfl⟩
      ·exact ⟨_, h⟩
   | _ => simp at h
 ·rw [if_neg e]; exact ⟨v, h⟩
theorem run_storeCells {P : Program} {ad : Addr} : ∀ (vs : List Value) (i : Nat) (w : World), vs.all (·.oneCell') = true → stOk w ad i vs → (storeCells ad vs i).run P w = .ok () (stAll w ad i vs)
 | [], i, w, _, _ => by simp [storeCells, stAll, pure, Sem.run]
 | v :: r, i, w, h1, hs => by
  have hcell : (∃ u, w.cell? (ad.add i) = some u) ∧ w.frozen? (ad.add i) = false := by
   cases r with
   | nil => exact hs
   | cons x y => exact hs.1
  obtain ⟨⟨u, hu⟩, hf⟩ := hcell
  rw [List.all_cons, Bool.and_eq_true] at h1
  have hrun : (store (ad.add i) v).run P w = .ok () (w.setCell (ad.add i) v) := by
   have hv := h1.1
   cases v <;> first
    | (simp [Value.oneCell'] at hv; done)
    | simp [store, Sem.run, hu, hf]
  have hrest : stOk (w.setCell (ad.add i) v) ad (i + 1) r := by
   have hr : stOk w ad (i + 1) r := by
    cases r with
    | nil => trivial
    | cons x y => exact hs.2
   clear hs
   have keep : ∀ (r : List Value) (j : Nat), stOk w ad j r → stOk (w.setCell (ad.add i) v) ad j r := by
    intro r
    induction r with
    | nil => intro j _; trivial
    | cons x y ih =>
     intro j h
     have one : (∃ u, w.cell? (ad.add j) = some u) ∧ w.frozen? (ad.add j) = false → (∃ u, (w.setCell (ad.add i) v).cell? (ad.add j) = some u) ∧ (w.setCell (ad.add i) v).frozen? (ad.add j) = false := by
      rintro ⟨⟨u, h⟩, hf⟩
      obtain ⟨v', hv'⟩ := cell_set_some (w := w) (p := ad.add i) (x := v) (q := ad.add j) (v := u) h
      exact ⟨⟨v', hv'⟩, by simpa using hf⟩
     cases y with
     | nil => exact one h
     | cons a b => exact ⟨one h.1, ih _ h.2⟩
   exact keep r (i + 1) hr
  simp only [storeCells, Sem.run_bind, hrun, Result.andThen, stAll]
  exact run_storeCells r (i + 1) _ h1.2 hrest
theorem zeroRow_length (z : List Value) : ∀ n, (zeroRow z n).length = n * z.length
 | 0 => by simp [zeroRow]
 | n + 1 => by rw [zeroRow, List.length_append, zeroRow_length z n, Nat.succ_mul, Nat.add_comm]
theorem zeroRow_get (z : List Value) (hz : 0 < z.length) : ∀ (n j : Nat), j < n * z.length → (zeroRow z n)[j]? = z[j % z.length]?
 | 0, j, h => by simp at h
 | n + 1, j, h => by
  rw [zeroRow]
  by_cases hj : j < z.length
  ·rw [List.getElem?_append_left hj, Nat.mod_eq_of_lt hj]
  ·have hj' : z.length ≤ j := by omega
   rw [List.getElem?_append_right hj', zeroRow_get z hz n (j - z.length) (by rw [Nat.succ_mul] at h; omega)]
   congr 1
   rw [Nat.mod_eq_sub_mod hj']
theorem zero_cells (z : Array Value) (hz : 0 < z.size) (n : Nat) : ((Array.range (n * z.size)).map (z[· % z.size]!)) = (zeroRow z.toList n).toArray := by
 apply Array.ext'
 apply List.ext_getElem?
 intro j
 by_cases hj : j < n * z.size
 ·have h1 := zeroRow_get z.toList (by simpa using hz) n j (by simpa using hj)
  simp only [Array.length_toList] at h1
  have h2 : j % z.size < z.size := Nat.mod_lt _ hz
  rw [h1]
  simp [List.getElem?_range, hj, h2]
 ·rw [List.getElem?_eq_none (by simp; omega), List.getElem?_eq_none (by simp [zeroRow_length]; omega)]
theorem mkSliceV_run {P : Program} {t : TypeId} {n c : Int} {w : World} {K : Value → World → Prop} {kn kc : IntKind} (h : mkSliceV P t n c w K) :
  ∃ v w', (Instr.makeSlice t (.int kn n) (.int kc c)).run P w = .ok v w' ∧ K v w' := by
 unfold mkSliceV at h
 split at h
 ·rename_i e hu
  split at h
  ·rename_i i hi
   split at h
   ·rename_i z hz
    split at h
    ·rename_i hs
     obtain ⟨hs1, hs2, hs3⟩ := hs
     obtain ⟨⟨rfl, h0, hb⟩, hk⟩ := h
     refine ⟨_, _, ?_, hk _ rfl⟩
     have hn : n ≤ 140737488355328 := by
      have : n * 1 ≤ n * (i.bytes : Int) := Int.mul_le_mul_of_nonneg_left (by omega) h0
      omega
     have hw : IntKind.i64.wrap n = n := by unfold IntKind.wrap; simp [IntKind.bits, IntKind.signed]; omega
     have hb2 : (i.bytes : Int) * n ≤ 140737488355328 := by rw [Int.mul_comm]; exact hb
     have ht1 : ¬ (n < 0 ∨ (i.bytes : Int) * n > 281474976710656) := by omega
     have hroom : ¬ n.toNat * i.bytes > roomBytes := by
      have e1 : ((n.toNat * i.bytes : Nat) : Int) = n * i.bytes := by simp [Int.toNat_of_nonneg h0]
      have : roomBytes = 140737488355328 := rfl
      rw [this]; omega
     simp only [Instr.makeSlice, Sem.run_bind, run_underlying hu, Result.andThen, asInt, asIntOf, pure, Sem.run, typeInfo, program, hi, hw, askRoom, sizeOf, zeroValue, hz]
     have htl : (decide (n < 0) || decide ((i.bytes : Int) * n > 2 ^ 48)) = false := by
      simp only [Bool.or_eq_false_iff, decide_eq_false_iff_not]; omega
     simp only [htl, Bool.false_or, if_neg hroom]
     have hnn : (decide (n < 0) || decide (n > n)) = false := by
      simp only [Bool.or_eq_false_iff, decide_eq_false_iff_not]; omega
     simp only [hnn, Bool.false_eq_true, if_false]
     by_cases hz0 : n.toNat * i.size = 0
     ·have : n.toNat = 0 := by
       rcases Nat.mul_eq_zero.1 hz0 with h | h
       ·exact h
       ·omega
      have e0 : ∀ f : Nat → Value, Array.map f (Array.range 0) = #[] := fun f => by apply Array.ext'; simp
      simp [this, newRow, newObj, Sem.run, zeroRow, pure, hi, Result.andThen, e0]
     ·have hc := zero_cells z.cells (by omega) n.toNat
      rw [hs1] at hc
      have hne : ¬ (n.toNat = 0 ∨ i.size = 0) := by
       intro hh; exact hz0 (by rcases hh with h | h <;> simp [h])
      simp [newRow, newObj, Sem.run, pure, ← hc, hi, hz, Result.andThen]
      rw [if_neg hz0]
      simp [hz, Result.andThen, Sem.run, pure, hs1]
    ·exact h.elim
   ·exact h.elim
  ·exact h.elim
 ·exact h.elim
theorem worldV_op {P : Program} (hP : Fit P) {o : Oper} {l : Env} {w : World} {K : Value → World → Prop} (h : worldV P o l w K) : Op1 P o l w K := by
 have lift : ∀ {s : Sem Value} {v : Value} {w w' : World}, s.run P w = .ok v w' → (do pure (Next.value (← s)) : Sem Next).run P w = .ok (.value v) w' := by
  intro s v w w' hs
  rw [Sem.run_bind, hs]; rfl
 have liftU : ∀ {s : Sem Unit} {w w' : World}, s.run P w = .ok () w' → (do s; pure Next.skip : Sem Next).run P w = .ok .skip w' := by
  intro s w w' hs
  rw [Sem.run_bind, hs]; rfl
 have viaS : ∀ {s : Sem Value} {sh : Sh}, execOp (ev l) o = (do pure (Next.value (← s)) : Sem Next) → runS P s sh w K → Op1 P o l w K := by
  intro s sh he hr
  obtain ⟨v, w', hs, hk⟩ := Sh.ex_out hr
  exact .inl ⟨v, w', by rw [he]; exact lift hs, hk⟩
 have viaU : ∀ {s : Sem Unit}, execOp (ev l) o = (do s; pure Next.skip : Sem Next) → runU P s w K → Op1 P o l w K := by
  intro s he hr
  obtain ⟨w', hs, hk⟩ := hr
  exact .inr (.inl ⟨w', by rw [he]; exact liftU hs, hk⟩)
 have viaP : pureV P o l (fun v => K v w) → Op1 P o l w K := by
  intro hp
  obtain ⟨v, hv, hk⟩ := pureV_run hp
  exact .inl ⟨v, w, hv w, hk⟩
 have viaW : (match (execOp (ev l) o).run P w with | .ok (.value v) w' => ∀ w1, w1 = w' → K v w1 | _ => False) → Op1 P o l w K := by
  intro hp
  split at hp
  ·rename_i v w' hr; exact .inl ⟨v, w', hr, hp _ rfl⟩
  ·exact hp.elim
 unfold worldV at h
 split at h
 ·rename_i t a ho
  split at h
  ·rename_i ad had
   obtain ⟨v, hv, hk⟩ := loadV_run h
   refine .inl ⟨v, w, ?_, hk⟩
   simp only [execOp, ho, had]
   exact lift (by simp only [Instr.loadAt, Instr.sureAddr]; exact hv)
  ·exact h.elim
 ·rename_i t a x ho
  split at h
  ·rename_i ad had
   unfold storeV at h
   split at h
   ·rename_i i hi
    split at h
    ·rename_i hs
     obtain ⟨hok, hk⟩ := h
     refine .inr (.inl ⟨_, ?_, hk _ rfl⟩)
     simp only [execOp, ho, had]
     refine liftU ?_
     have hrun := run_storeCells (P := P) (ev l x).cells.toList 0 w hs.2 hok
     simp only [Instr.storeAt, Instr.sureAddr]
     show (storeVar t ad (ev l x)).run P w = _
     unfold storeVar
     rw [Sem.run_bind, run_sizeOf hi]
     simp only [Result.andThen, hs.1, ne_eq, not_true_eq_false, if_false]
     exact hrun
    ·exact h.elim
   ·exact h.elim
  ·exact h.elim
 ·rename_i t n c ho
  split at h
  ·rename_i kn n' kc c' hn hc
   obtain ⟨v, w', hr, hk⟩ := mkSliceV_run h
   exact .inl ⟨v, w', by simp only [execOp, ho, hn, hc]; exact lift hr, hk⟩
  ·exact h.elim
 ·rename_i t x y ty ho
  unfold eqlV at h
  split at h
  ·rename_i ox oy hx hy
   obtain ⟨hr, hk⟩ := ptrV_run h
   refine .inl ⟨_, w, ?_, hk⟩
   simp only [execOp, ho, hx, hy]
   refine lift ?_
   rw [Sem.run_bind, run_eqGuard (by rfl)]
   exact hr
  ·exact viaP h
 ·rename_i s d x ho
  split at h
  ·rename_i e y hd hx
   exact viaS (by simp only [execOp, ho, hx]) h
  ·rename_i a n c hd hx
   exact viaS (by simp only [execOp, ho, hx]) h
  ·exact viaP h
 ·rename_i t x ix ok ho; exact viaS (by simp only [execOp, ho]) h
 ·rename_i t m k x ho; exact viaU (by simp only [execOp, ho]) h
 ·rename_i t m k ho; exact viaS (by simp only [execOp, ho]) h
 ·rename_i t m s x ho; exact viaU (by simp only [execOp, ho]) h
 ·exact viaW h
 ·exact viaW h
 ·exact viaW h
 ·exact viaW h
 ·rename_i c ho
  have hmap : ∀ c : Call, (c.args.toList.map (ev l)).toArray = c.args.map (ev l) := fun c => by apply Array.ext'; simp
  have hres : ∀ b : Builtin, c.callee = .builtin b → execOp (ev l) o = (do let d ← resolve (ev l) c o.type; Go.invoke d.target d.args : Sem Next) := fun b hb => by simp only [execOp, ho]
  have hb : ∀ (b : Builtin) (s : Sem Value), c.callee = .builtin b → (∀ cs, builtin b c.argTypes o.type cs (c.args.map (ev l)) = (do pure (Next.value (← s)) : Sem Next)) →
    (execOp (ev l) o).run P w = (do pure (Next.value (← s)) : Sem Next).run P w := fun b s hc hs => by
   simp only [execOp, ho, resolve, hc, Sem.run_bind, pure, Sem.run, Result.andThen, Go.invoke, hs]
  have viaB : ∀ (b : Builtin) (s : Sem Value) {sh : Sh}, c.callee = .builtin b → (∀ cs, builtin b c.argTypes o.type cs (c.args.map (ev l)) = (do pure (Next.value (← s)) : Sem Next)) → runS P s sh w K → Op1 P o l w K := by
   intro b s sh hc hs hr
   obtain ⟨v, w', hs', hk⟩ := Sh.ex_out hr
   exact .inl ⟨v, w', by rw [hb b s hc hs]; exact lift hs', hk⟩
  split at h
  ·rename_i hc
   split at h
   ·rename_i r hr
    refine viaB .len _ hc (fun cs => ?_) h
    rw [← hmap, hr]; rfl
   ·exact viaP h
  ·exact viaP h
  ·exact viaP h
  ·exact viaP h
  ·rename_i hc; exact viaB .append _ hc (fun cs => by rw [hmap]; rfl) h
  ·rename_i hc; exact viaB .copy _ hc (fun cs => by rw [hmap]; rfl) h
  ·rename_i hc; exact viaB .clear _ hc (fun cs => by rw [hmap]; rfl) h
  ·rename_i hc; exact viaB .delete _ hc (fun cs => by rw [hmap]; rfl) h
  ·rename_i hc; exact viaB .unsafeSliceData _ hc (fun cs => by rw [hmap]; rfl) h
  ·rename_i hc; exact viaB .unsafeString _ hc (fun cs => by rw [hmap]; rfl) h
  ·rename_i f hc
   split at h
   ·rename_i g first cap hf
    unfold callV at h
    split at h
    ·rename_i fn hfn
     split at h
     ·rename_i cd hbd
      refine .inr (.inr ⟨g, (first.toList ++ c.args.toList.map (ev l) ++ cap.toList).toArray, ?_, step_call h (fun v w' hr => resT_out hr)⟩)
      have he := hP.enter hfn hbd (first ++ c.args.map (ev l) ++ cap) w
      have harr : (first.toList ++ c.args.toList.map (ev l) ++ cap.toList).toArray = first ++ c.args.map (ev l) ++ cap := by
       apply Array.ext'; simp
      rw [harr]
      simp only [execOp, ho, resolve, hc, hf, Deferred.ofValue, Sem.run_bind, pure, Sem.run, Result.andThen, Go.invoke]
      exact he
     ·rename_i hbd
      split at h
      ·obtain ⟨e, hn, hfe, hr⟩ := h
       obtain ⟨v, w', hr, hk⟩ := Sh.ex_out hr
       have h1 : (fn.name == "runtime.NumGoroutine") = false := by
        have h2 := hP.num
        rw [Array.all_eq_true'] at h2
        have h3 := h2 fn (Array.mem_of_getElem? hfn)
        simpa using h3
       have he := run_callFunc_extern hfn h1 (by rw [hbd]; rfl) hn hfe (first ++ c.args.map (ev l) ++ cap) w
       have harr : (first.toList ++ c.args.toList.map (ev l) ++ cap.toList).toArray = first ++ c.args.map (ev l) ++ cap := by
        apply Array.ext'; simp
       rw [harr] at hr
       refine .inl ⟨v, w', ?_, hk⟩
       simp only [execOp, ho, resolve, hc, hf, Deferred.ofValue, Sem.run_bind, pure, Sem.run, Result.andThen, Go.invoke]
       rw [hr] at he
       exact he
      ·exact h.elim
    ·exact h.elim
   ·exact h.elim
  ·rename_i r name hc
   split at h
   ·rename_i t v hr
    split at h
    ·rename_i g x hm
     unfold callB at h
     split at h
     ·rename_i fn hfn
      split at h
      ·rename_i cd hbd
       refine .inr (.inr ⟨g, (x :: c.args.toList.map (ev l)).toArray, ?_, step_call h (fun v w' hr => resT_out hr)⟩)
       have he := hP.enter hfn hbd (#[x] ++ c.args.map (ev l)) w
       have harr : (x :: c.args.toList.map (ev l)).toArray = #[x] ++ c.args.map (ev l) := by
        apply Array.ext'; simp
       rw [harr]
       have hrun := pureRun_run hm w
       have hext : (#[Value.iface t v] ++ c.args.map (ev l)).extract 1 (#[Value.iface t v] ++ c.args.map (ev l)).size = c.args.map (ev l) := by
        apply Array.ext'; simp
        exact List.take_of_length_le (by simp)
       have h0 : (#[Value.iface t v] ++ c.args.map (ev l))[0]? = some (Value.iface t v) := by rw [Array.getElem?_append_left (by simp)]; rfl
       simp only [execOp, ho, resolve, hc, hr, Sem.run_bind, pure, Sem.run, Result.andThen, Go.invoke, h0, hext, callMethod, program, hrun]
       exact he
      ·exact h.elim
     ·exact h.elim
    ·exact h.elim
   ·exact h.elim
  ·exact h.elim
 ·exact viaP h
/-! Typed frames: what a loop, or a cut, forgets and knows. -/
def Sk.fn (A : Type) : Sk → Type
 | .int _ => Int → A
 | .bool => Bool → A
 | .str => ByteArray → A
 | .ptr => Option Addr → A
 | .addr => Addr → A
 | .slice => Option Addr → Nat → Nat → A
 | .map => Option Nat → A
 | .other => Value → A
def Sk.app {A : Type} : (s : Sk) → s.fn A → Value → Option A
 | .int k, f, v => match v with
  | .int k' n => if k = k' then some (f n) else none
  | _ => none
 | .bool, f, v => match v with
  | .bool b => some (f b)
  | _ => none
 | .str, f, v => match v with
  | .string b => some (f b)
  | _ => none
 | .ptr, f, v => match v with
  | .pointer o => some (f o)
  | _ => none
 | .addr, f, v => match v with
  | .pointer (some a) => some (f a)
  | _ => none
 | .slice, f, v => match v with
  | .slice o n c => some (f o n c)
  | _ => none
 | .map, f, v => match v with
  | .map r => some (f r)
  | _ => none
 | .other, f, v => some (f v)
def Sk.allF {A : Type} : (s : Sk) → s.fn A → (Value → A → Prop) → Prop
 | .int k, f, K => ∀ n : Int, K (.int k n) (f n)
 | .bool, f, K => ∀ b : Bool, K (.bool b) (f b)
 | .str, f, K => ∀ s : ByteArray, K (.string s) (f s)
 | .ptr, f, K => ∀ o : Option Addr, K (.pointer o) (f o)
 | .addr, f, K => ∀ a : Addr, K (.pointer (some a)) (f a)
 | .slice, f, K => ∀ (o : Option Addr) (n c : Nat), K (.slice o n c) (f o n c)
 | .map, f, K => ∀ r : Option Nat, K (.map r) (f r)
 | .other, f, K => ∀ v : Value, K v (f v)
theorem Sk.allF_app {A : Type} {s : Sk} {f : s.fn A} {K : Value → A → Prop} (h : s.allF f K) {v : Value} {p : A} (hp : s.app f v = some p) : K v p := by
 cases s <;> simp only [Sk.allF, Sk.app] at h hp
 case int k =>
  split at hp
  ·split at hp
   ·rename_i hk
    subst hk
    simp only [Option.some.injEq] at hp; subst hp; exact h _
   ·cases hp
  ·cases hp
 case other => simp only [Option.some.injEq] at hp; subst hp; exact h _
 all_goals
  split at hp
  ·simp only [Option.some.injEq] at hp; subst hp; first | exact h _ | exact h _ _ _
  ·cases hp
abbrev Mods := List (Tmp × Option Sk)
def IT (A : Type) : Mods → Type
 | [] => A
 | (_, none) :: r => IT A r
 | (_, some s) :: r => s.fn (IT A r)
def appI {A : Type} : (m : Mods) → IT A m → Env → Option A
 | [], I, _ => some I
 | (_, none) :: r, I, l => appI r I l
 | (d, some s) :: r, I, l => match s.app I (nth l d) with
  | some J => appI r J l
  | none => none
def allI {A : Type} : (m : Mods) → IT A m → Env → (Nat → Value) → (Env → A → Prop) → Prop
 | [], I, l, _, K => K l I
 | (d, none) :: r, I, l, jk, K => allI r I (l.set d (jk d)) jk K
 | (d, some s) :: r, I, l, jk, K => s.allF I fun v J => allI r J (l.set d v) jk K
def agree (m : Mods) (l l' : Env) : Prop := l'.length = l.length ∧ ∀ t, (m.all fun e => !(e.1 == t)) = true → l'[t]? = l[t]?
theorem nth_some {l : List Value} {d : Nat} (h : d < l.length) : l[d]? = some (nth l d) := by
 induction l generalizing d with
 | nil => simp at h
 | cons x xs ih => cases d with
  | zero => rfl
  | succ n => simpa [nth] using ih (by simpa using h)
theorem allI_app {A : Type} : ∀ {m : Mods} {I : IT A m} {l l' : Env} {jk : Nat → Value} {K : Env → A → Prop} {p : A}, allI m I l jk K → (∀ d, jk d = nth l' d) → agree m l l' → (m.map (·.1)).Nodup →
  appI m I l' = some p → K l' p
 | [], I, l, l', jk, K, p, h, _, ha, _, hp => by
  have hp2 : I = p := Option.some.inj hp
  subst hp2
  have : l' = l := List.ext_getElem? fun t => ha.2 t rfl
  subst this
  exact h
 | (d, none) :: r, I, l, l', jk, K, p, h, hj, ha, hn, hp => by
  simp only [List.map_cons, List.nodup_cons] at hn
  refine allI_app (m := r) h hj ⟨by rw [List.length_set]; exact ha.1, fun t ht => ?_⟩ hn.2 hp
  by_cases hd : d = t
  ·subst hd
   by_cases hl : d < l.length
   ·rw [List.getElem?_set_self hl, hj, nth_some (by rw [ha.1]; exact hl)]
   ·rw [List.getElem?_eq_none (by rw [ha.1]; exact Nat.le_of_not_lt hl), List.getElem?_eq_none (by rw [List.length_set]; exact Nat.le_of_not_lt hl)]
  ·rw [List.getElem?_set_ne hd]
   exact ha.2 t (by simp only [List.all_cons, Bool.and_eq_true]; exact ⟨by simpa using hd, ht⟩)
 | (d, some s) :: r, I, l, l', jk, K, p, h, hj, ha, hn, hp => by
  simp only [List.map_cons, List.nodup_cons] at hn
  simp only [appI] at hp
  split at hp
  ·rename_i J hJ
   have h1 := Sk.allF_app h hJ
   refine allI_app (m := r) h1 hj ⟨by rw [List.length_set]; exact ha.1, fun t ht => ?_⟩ hn.2 hp
   by_cases hd : d = t
   ·subst hd
    by_cases hl : d < l.length
    ·rw [List.getElem?_set_self hl, nth_some (by rw [ha.1]; exact hl)]
    ·rw [List.getElem?_eq_none (by rw [ha.1]; exact Nat.le_of_not_lt hl), List.getElem?_eq_none (by rw [List.length_set]; exact Nat.le_of_not_lt hl)]
   ·rw [List.getElem?_set_ne hd]
    exact ha.2 t (by simp only [List.all_cons, Bool.and_eq_true]; exact ⟨by simpa using hd, ht⟩)
  ·cases hp
def atI {A : Type} (m : Mods) (I : IT A m) (l : Env) (K : A → Prop) : Prop :=
 match appI m I l with
 | some p => K p
 | none => False
/-! How a function is walked: what a program prints. -/
def nn : Nat → Nat → Mods
 | _, 0 => []
 | a, n + 1 => (a, none) :: nn (a + 1) n
abbrev Okc (w : World) (a : Addr) : Prop := (∃ u, w.cell? a = some u) ∧ w.frozen? a = false
inductive RT where
 | nil
 | at_ (id i : Nat) (t f : RT)     -- in region id, at operation i: by its bool
 | c (t f : RT)                    -- a test that isn't decided
 | k (r : RT)                      -- a test that is
 | tk (i : Nat) (r : RT)           -- open order: i may be taken first
 | tks (i : Nat) (t f : RT)        -- and by its bool
 | alt (i : Nat) (r more : RT)     -- open order: i comes up; or more
 | alts (i : Nat) (t f more : RT)
 | fin (r : RT)                    -- all have come up
 | last (i : Nat) (r : RT)         -- a store that all loads are behind of, and nothing is left
 | lp (m : Mods) (r : RT)
 | cut (n : Nat) (m : Mods) (r s : RT)
 | y (r : RT)                      -- a test that is known to hold
 | n (r : RT)                      -- and not to
def wantV (ops : Array Oper) (l : Env) (o : Oper) : Bool :=
 match o.guard with
 | none => true
 | some (j, want) => match (ops[j]?).bind (·.dst) with
  | some d => match nth l d with
   | .bool b => b == want
   | _ => false
  | none => false
theorem wantV_eq (ops : Array Oper) (l : Env) (o : Oper) : Region.wanted o (yielded ops (act l).tmps) = wantV ops l o := by
 unfold Region.wanted wantV
 cases o.guard with
 | none => rfl
 | some g =>
  obtain ⟨j, want⟩ := g
  simp only
  unfold yielded
  cases hd : (ops[j]?).bind (·.dst) with
  | none => simp
  | some d =>
   simp only [Option.bind_some]
   by_cases hl : d < l.length
   ·have h1 : (act l).tmps[d]? = some (nth l d) := by simp only [act, List.getElem?_toArray]; exact nth_some hl
    rw [h1]
    cases nth l d <;> simp
   ·have h1 : (act l).tmps[d]? = none := by simp only [act, List.getElem?_toArray]; exact List.getElem?_eq_none (Nat.le_of_not_lt hl)
    rw [h1]
    have h2 : nth l d = undef := by
     rw [nth_eq]; simp [Array.getD, show ¬ d < l.length from hl]
    rw [h2]; simp [undef]
def boolV (v : Value) (T F : Prop) : Prop :=
 match v with
 | .bool b => (b = true → T) ∧ (b = false → F)
 | _ => False
def opsV (P : Program) (id : Nat) (ops : Array Oper) : List Nat → RT → Env → World → (RT → Env → World → Prop) → Prop
 | [], r, l, w, K => K r l w
 | i :: rest, r, l, w, K => match ops[i]? with
  | none => False
  | some o => match wantV ops l o with
   | true => worldV P o l w fun v w' => match r with
    | .at_ id' i' t f => if id = id' ∧ i = i' then boolV v (opsV P id ops rest t (put l o.dst (.bool true)) w' K) (opsV P id ops rest f (put l o.dst (.bool false)) w' K)
     else opsV P id ops rest (.at_ id' i' t f) (put l o.dst v) w' K
    | r => opsV P id ops rest r (put l o.dst v) w' K
   | false => opsV P id ops rest r (put l o.dst undef) w K
def floatV (P : Program) (S : World → Prop) (o : Oper) (l : Env) (K : Value → Prop) : Prop :=
 match o.op with
 | .load t a => match ev l a with
  | .pointer (some ad) => loadC P t (fun a v => ∀ w, S w → w.cell? a = some v) ad K
  | _ => False
 | _ => pureV P o l K
theorem floatV_run {P : Program} {S : World → Prop} {o : Oper} {l : Env} {K : Value → Prop} (h : floatV P S o l K) : ∃ v, (∀ w, S w → (execOp (ev l) o).run P w = .ok (.value v) w) ∧ K v := by
 unfold floatV at h
 split at h
 ·rename_i t a ho
  split at h
  ·rename_i ad had
   obtain ⟨v, hv, hk⟩ := loadC_run h
   refine ⟨v, fun w hS => ?_, hk⟩
   have := hv w (fun a v hc => hc w hS)
   simp only [execOp, ho, had]
   rw [Sem.run_bind]
   simp only [Instr.loadAt, Instr.sureAddr]
   have h2 : (do let a ← (pure ad : Sem Addr); loadVar t a : Sem Value).run P w = .ok v w := this
   rw [h2]; rfl
  ·exact h.elim
 ·obtain ⟨v, hv, hk⟩ := pureV_run h
  exact ⟨v, fun w _ => hv w, hk⟩
def isLd (o : Oper) : Bool :=
 match o.op with
 | .load .. => true
 | _ => false
def isSt (o : Oper) : Bool :=
 match o.op with
 | .store .. => true
 | _ => false
def notSt (ops : Array Oper) (i : Nat) : Bool :=
 match ops[i]? with
 | some o => !isSt o
 | none => true
def lastL (ops : Array Oper) (k : Nat) : Bool :=
 match ops[k]? with
 | some o => isSt o && (List.range ops.size).all fun m => match ops[m]? with
  | some om => !isLd om || o.after.any fun e => e.on == m && Region.binds .any e
  | none => true
 | none => false
def dV (P : Program) (ops : Array Oper) : RT → (World → Prop) → Nat → Array Bool → Env → World → (RT → Env → World → Prop) → Prop
 | .fin r, S, _, listed, l, w, K => match Region.ready .any ops listed with
  | [] => K r l w
  | _ => False
 | .last i r, S, fuel, listed, l, w, K => match fuel, ops[i]?, Region.ready .any ops listed, lastL ops i with
  | n + 1, some o, [j], true => match j == i, wantV ops l o with
   | true, true => worldV P o l w fun v w' => dV P ops r (fun _ => True) n (listed.setIfInBounds i true) (put l o.dst v) w' K
   | _, _ => False
  | _, _, _, _ => False
 | .tk i r, S, fuel, listed, l, w, K => match fuel, ops[i]?, Region.free .any ops listed i && (Region.ready .any ops listed).contains i && notSt ops i with
  | n + 1, some o, true => match wantV ops l o with
   | true => floatV P S o l fun v => dV P ops r S n (listed.setIfInBounds i true) (put l o.dst v) w K
   | false => dV P ops r S n (listed.setIfInBounds i true) (put l o.dst undef) w K
  | _, _, _ => False
 | .tks i t f, S, fuel, listed, l, w, K => match fuel, ops[i]?, Region.free .any ops listed i && (Region.ready .any ops listed).contains i && notSt ops i with
  | n + 1, some o, true => match wantV ops l o with
   | true => floatV P S o l fun v => boolV v (dV P ops t S n (listed.setIfInBounds i true) (put l o.dst (.bool true)) w K) (dV P ops f S n (listed.setIfInBounds i true) (put l o.dst (.bool false)) w K)
   | false => False
  | _, _, _ => False
 | .alt i r more, S, fuel, listed, l, w, K => match fuel, ops[i]?, Region.ready .any ops listed with
  | n + 1, some o, [j] => match j == i with
   | true => match wantV ops l o with
    | true => worldV P o l w fun v w' => S w' ∧ dV P ops r S n (listed.setIfInBounds i true) (put l o.dst v) w' K
    | false => dV P ops r S n (listed.setIfInBounds i true) (put l o.dst undef) w K
   | false => False
  | n + 1, some o, _ :: _ :: _ => (match wantV ops l o with
   | true => worldV P o l w fun v w' => S w' ∧ dV P ops r S n (listed.setIfInBounds i true) (put l o.dst v) w' K
   | false => dV P ops r S n (listed.setIfInBounds i true) (put l o.dst undef) w K) ∧
   dA P ops more S n listed [i] l w K
  | _, _, _ => False
 | .alts i t f more, S, fuel, listed, l, w, K => match fuel, ops[i]?, Region.ready .any ops listed with
  | n + 1, some o, [j] => match j == i with
   | true => match wantV ops l o with
    | true => worldV P o l w fun v w' => S w' ∧ boolV v (dV P ops t S n (listed.setIfInBounds i true) (put l o.dst (.bool true)) w' K) (dV P ops f S n (listed.setIfInBounds i true) (put l o.dst (.bool false)) w' K)
    | false => False
   | false => False
  | n + 1, some o, _ :: _ :: _ => (match wantV ops l o with
   | true => worldV P o l w fun v w' => S w' ∧ boolV v (dV P ops t S n (listed.setIfInBounds i true) (put l o.dst (.bool true)) w' K) (dV P ops f S n (listed.setIfInBounds i true) (put l o.dst (.bool false)) w' K)
   | false => False) ∧
   dA P ops more S n listed [i] l w K
  | _, _, _ => False
 | _, _, _, _, _, _, _ => False
 where
 dA (P : Program) (ops : Array Oper) : RT → (World → Prop) → Nat → Array Bool → List Nat → Env → World → (RT → Env → World → Prop) → Prop
 | .alt i r more, S, n, listed, seen, l, w, K => match ops[i]? with
  | some o => (match wantV ops l o with
   | true => worldV P o l w fun v w' => S w' ∧ dV P ops r S n (listed.setIfInBounds i true) (put l o.dst v) w' K
   | false => dV P ops r S n (listed.setIfInBounds i true) (put l o.dst undef) w K) ∧
   dA P ops more S n listed (i :: seen) l w K
  | _ => False
 | _, _, _, listed, seen, _, _, _ => match (Region.ready .any ops listed).all fun i => seen.contains i with
  | true => True
  | false => False
/-! Whole code. -/
abbrev Post := Exit → RT → Env → World → Prop
def Post.lift (Q : Post) : Exit → Act → World → Prop
 | .panic _, _, _ => False
 | .outgrown, _, _ => False
 | e, a, w => ∃ r l, a = act l ∧ Q e r l w
def agreeP (M : Nat → Prop) (l l' : Env) : Prop := l'.length = l.length ∧ ∀ t, ¬ M t → l'[t]? = l[t]?
theorem agreeP.refl (M : Nat → Prop) (l : Env) : agreeP M l l := ⟨rfl, fun _ _ => rfl⟩
theorem agreeP.put {M : Nat → Prop} {l l' : Env} (h : agreeP M l l') {d : Option Tmp} (hd : ∀ t, d = some t → M t) (v : Value) : agreeP M l (put l' d v) := by
 cases d with
 | none => exact h
 | some d =>
  refine ⟨by simp only [V.put, List.length_set]; exact h.1, fun t ht => ?_⟩
  have hne : d ≠ t := fun e => ht (e ▸ hd d rfl)
  simp only [V.put]
  rw [List.getElem?_set_ne hne]
  exact h.2 t ht
def Wr (M : Nat → Prop) : Code → Prop
 | .region _ ops _ => ∀ (i : Nat) (o : Oper), ops[i]? = some o → ∀ d, o.dst = some d → M d
 | .seq a b => Wr M a ∧ Wr M b
 | .cond _ a b => Wr M a ∧ Wr M b
 | .block _ a => Wr M a
 | .loop a => Wr M a
 | _ => True
theorem Wr.all : ∀ c : Code, Wr (fun _ => True) c
 | .region _ _ _ => fun _ _ _ _ _ => trivial
 | .seq a b => ⟨Wr.all a, Wr.all b⟩
 | .cond _ a b => ⟨Wr.all a, Wr.all b⟩
 | .block _ a => Wr.all a
 | .loop a => Wr.all a
 | .skip => trivial
 | .rangeFunc _ _ _ _ => trivial
 | .exit _ => trivial
 | .scope _ => trivial
 | .label _ => trivial
 | .goto _ => trivial
 | .ret => trivial
 | .refuse _ => trivial
def inM (m : Mods) (t : Nat) : Bool := m.any fun e => e.1 == t
def writes (m : Mods) : Code → Bool
 | .skip => true
 | .region _ ops _ => ops.toList.all fun o => match o.dst with
  | some d => inM m d
  | none => true
 | .seq a b => writes m a && writes m b
 | .cond _ a b => writes m a && writes m b
 | .block _ a => writes m a
 | .loop a => writes m a
 | .exit _ => true
 | .ret => true
 | _ => false
def wrote (d : Nat) : Code → Bool
 | .region _ ops _ => ops.toList.any fun o => o.dst == some d
 | .seq a b => wrote d a || wrote d b
 | .cond _ a b => wrote d a || wrote d b
 | .block _ a => wrote d a
 | .loop a => wrote d a
 | _ => false
theorem writes_Wr {m : Mods} : ∀ {c : Code}, writes m c = true → Wr (fun t => inM m t = true) c
 | .region _ ops _, h => fun i o ho d hd => by
  simp only [writes, List.all_eq_true] at h
  have h1 := h o (by simpa using Array.mem_of_getElem? ho)
  rw [hd] at h1; exact h1
 | .seq a b, h => by simp only [writes, Bool.and_eq_true] at h; exact ⟨writes_Wr h.1, writes_Wr h.2⟩
 | .cond _ a b, h => by simp only [writes, Bool.and_eq_true] at h; exact ⟨writes_Wr h.1, writes_Wr h.2⟩
 | .block _ a, h => writes_Wr (c := a) h
 | .loop a, h => writes_Wr (c := a) h
 | .skip, _ => trivial
 | .rangeFunc _ _ _ _, _ => trivial
 | .exit _, _ => trivial
 | .scope _, _ => trivial
 | .label _, _ => trivial
 | .goto _, _ => trivial
 | .ret, _ => trivial
 | .refuse _, _ => trivial
theorem wrote_Wr {M : Nat → Prop} {d : Nat} : ∀ {c : Code}, wrote d c = true → Wr M c → M d
 | .region _ ops _, h, hw => by
  simp only [wrote, List.any_eq_true] at h
  obtain ⟨o, ho, hd⟩ := h
  obtain ⟨i, hi⟩ := List.getElem?_of_mem ho
  exact hw i o (by simpa using hi) d (by simpa using hd)
 | .seq a b, h, hw => by
  simp only [wrote, Bool.or_eq_true] at h
  rcases h with h | h
  ·exact wrote_Wr h hw.1
  ·exact wrote_Wr h hw.2
 | .cond _ a b, h, hw => by
  simp only [wrote, Bool.or_eq_true] at h
  rcases h with h | h
  ·exact wrote_Wr h hw.1
  ·exact wrote_Wr h hw.2
 | .block _ a, h, hw => wrote_Wr (c := a) h hw
 | .loop a, h, hw => wrote_Wr (c := a) h hw
 | .skip, h, _ => by simp [wrote] at h
 | .rangeFunc _ _ _ _, h, _ => by simp [wrote] at h
 | .exit _, h, _ => by simp [wrote] at h
 | .scope _, h, _ => by simp [wrote] at h
 | .label _, h, _ => by simp [wrote] at h
 | .goto _, h, _ => by simp [wrote] at h
 | .ret, h, _ => by simp [wrote] at h
 | .refuse _, h, _ => by simp [wrote] at h
def modOk (c : Code) (m : Mods) : Bool := decide ((m.map (·.1)).Nodup) && writes m c && m.all fun e => wrote e.1 c
def seqP (Q : Post) (K : RT → Env → World → Prop) : Post
 | .normal, r, l, w => K r l w
 | e, r, l, w => Q e r l w
def blockP (id : Nat) (Q : Post) : Post
 | .exit id', r, l, w => if id' = id then Q .normal r l w else Q (.exit id') r l w
 | e, r, l, w => Q e r l w
def codeV (P : Program) : Code → RT → Post → Env → World → Prop
 | .skip, r, Q, l, w => Q .normal r l w
 | .region id ops false, r, Q, l, w => opsV P id ops (List.range ops.size) r l w fun r l w => Q .normal r l w
 | .region _ ops true, r, Q, l, w => match Region.noSelect ops with
  | true => ∃ S : World → Prop, ∀ w0, w0 = w.drew → S w0 ∧ dV P ops r S ops.size (Array.replicate ops.size false) l w0 fun r l w => Q .normal r l w
  | false => False
 | .seq a b, r, Q, l, w => match r with
  | .cut 0 m r s => match modOk a m with
   | true => ∃ I : IT (World → Prop) m, codeV P a r (seqP Q fun _ l' w' => atI m I l' fun p => p w') l w ∧
     ∀ jk : Nat → Value, allI m I l jk fun l' p => ∀ w', p w' → codeV P b s Q l' w'
   | false => False
  | .cut (n + 1) m r s => codeV P a (.cut n m r s) (seqP Q fun r l w => codeV P b r Q l w) l w
  | r => codeV P a r (seqP Q fun r l w => codeV P b r Q l w) l w
 | .cond c a b, r, Q, l, w => match r with
  | .c t f => match ev l c with
   | .bool v => (v = true → codeV P a t Q l w) ∧ (v = false → codeV P b f Q l w)
   | _ => False
  | .k r => match ev l c with
   | .bool true => codeV P a r Q l w
   | .bool false => codeV P b r Q l w
   | _ => False
  | .y r => match ev l c with
   | .bool v => v = true ∧ codeV P a r Q l w
   | _ => False
  | .n r => match ev l c with
   | .bool v => v = false ∧ codeV P b r Q l w
   | _ => False
  | _ => False
 | .block id a, r, Q, l, w => codeV P a r (blockP id Q) l w
 | .loop a, r, Q, l, w => match r with
  | .lp m r => match modOk a m with
   | true => ∃ I : IT (Nat → World → Prop) m, (∃ k, atI m I l fun p => p k w) ∧
     ∀ jk : Nat → Value, allI m I l jk fun l' p => ∀ k w', p k w' → codeV P a r (seqP Q fun _ l'' w'' => ∃ k', k' < k ∧ atI m I l'' fun p => p k' w'') l' w'
   | false => False
  | _ => False
 | .exit id, r, Q, l, w => Q (.exit id) r l w
 | .ret, r, Q, l, w => Q .ret r l w
 | _, _, _, _, _ => False
theorem boolV_put {v : Value} {T F : Prop} {X : Value → Prop} (h : boolV v T F) (ht : T → X (.bool true)) (hf : F → X (.bool false)) : X v := by
 unfold boolV at h
 split at h
 ·rename_i b
  cases b
  ·exact hf (h.2 rfl)
  ·exact ht (h.1 rfl)
 ·exact h.elim
theorem opsV_wp {P : Program} (hP : Fit P) {id : Nat} {ops : Array Oper} {K : RT → Env → World → Prop} {Q : Exit → Act → World → Prop} {M : Nat → Prop} {l0 : Env}
  (hM : ∀ (i : Nat) (o : Oper), ops[i]? = some o → ∀ d, o.dst = some d → M d) (hK : ∀ r l w, agreeP M l0 l → K r l w → Q .normal (act l) w) :
  ∀ (idx : List Nat) (r : RT) (l : Env) (w : World), agreeP M l0 l → opsV P id ops idx r l w K → wpOps P ops Q idx (act l) w := by
 intro idx
 induction idx with
 | nil => intro r l w ha h; exact hK r l w ha h
 | cons i rest ih =>
  intro r l w ha h
  rw [wpOps_cons]
  unfold wpOp
  simp only [opsV] at h
  split at h
  ·exact h.elim
  ·rename_i o ho
   have hput := fun v => ha.put (hM i o ho) v
   rw [ho]
   simp only [wantV_eq]
   split at h
   ·rename_i hw
    rw [hw]
    simp only [if_true]
    refine .inl ((worldV_op hP h).wp fun v w' hk => ?_)
    split at hk
    ·rename_i id' i' t f
     split at hk
     ·exact boolV_put (X := fun v => wpOps P ops Q rest (act (put l o.dst v)) w') hk (fun hh => ih _ _ _ (hput _) hh) (fun hh => ih _ _ _ (hput _) hh)
     ·exact ih _ _ _ (hput v) hk
    ·exact ih _ _ _ (hput v) hk
   ·rename_i hw
    rw [hw]
    simp only [Bool.false_eq_true, if_false]
    rw [act_put]
    exact ih _ _ _ (hput _) h
/-! Orders of which S is known until the store that all loads are behind of. -/
def SI (S : World → Prop) (o : Oper) : World → Prop := if isLd o = true then S else fun _ => True
theorem floatV_runK {P : Program} {S : World → Prop} {o : Oper} {l : Env} {K : Value → Prop} (h : floatV P S o l K) : ∃ v, (∀ w, SI S o w → (execOp (ev l) o).run P w = .ok (.value v) w) ∧ K v := by
 by_cases hl : isLd o = true
 ·obtain ⟨v, hv, hk⟩ := floatV_run h
  exact ⟨v, fun w hS => hv w (by unfold SI at hS; rwa [if_pos hl] at hS), hk⟩
 ·unfold floatV at h
  split at h
  ·rename_i t a ho
   exact absurd (by unfold isLd; rw [ho]) hl
  ·obtain ⟨v, hv, hk⟩ := pureV_run h
   exact ⟨v, fun w _ => hv w, hk⟩
section
variable {P : Program} {ops : Array Oper} {Q : Exit → Act → World → Prop} {S : World → Prop}
def Grd (S : World → Prop) (ops : Array Oper) (listed : Array Bool) (w : World) : Prop := S w ∨ ∃ k, listed.getD k false = true ∧ lastL ops k = true
def Closed (ops : Array Oper) (listed : Array Bool) : Prop := ∀ k o, ops[k]? = some o → listed.getD k false = true → ∀ e ∈ o.after, Region.binds .any e = true → listed.getD e.on false = true
theorem closed_new (n : Nat) : Closed ops (Array.replicate n false) := fun k o _ hk => by
 exfalso
 by_cases h : k < n
 ·simp [Array.getD, h] at hk
 ·simp [Array.getD, h] at hk
theorem closed_set {listed : Array Bool} {i : Nat} (h : Closed ops listed) (hi : i ∈ Region.ready .any ops listed) : Closed ops (listed.setIfInBounds i true) := fun k o hk hl e he hb => by
 by_cases hik : i = k
 ·subst hik
  obtain ⟨_, o', ho', hall⟩ := mem_ready.1 hi
  rw [hk] at ho'
  injection ho' with ho'
  subst ho'
  exact getD_set_true (hall e he hb)
 ·rw [getD_set_ne false hik] at hl
  exact getD_set_true (h k o hk hl e he hb)
theorem grd_load {listed : Array Bool} {w : World} {i : Nat} {oi : Oper} (hc : Closed ops listed) (hg : Grd S ops listed w) (hi : ops[i]? = some oi) (hl : isLd oi = true) (hun : listed.getD i true = false) : S w := by
 rcases hg with h | ⟨k, hk, hL⟩
 ·exact h
 ·exfalso
  unfold lastL at hL
  split at hL
  ·rename_i o ho
   simp only [Bool.and_eq_true, List.all_eq_true, List.mem_range] at hL
   have h1 := hL.2 i (Array.getElem?_eq_some_iff.1 hi).1
   rw [hi] at h1
   simp only [hl, Bool.not_true, Bool.false_or, Array.any_eq_true] at h1
   obtain ⟨m, hm, he⟩ := h1
   simp only [Bool.and_eq_true, beq_iff_eq] at he
   have h2 := hc k o ho hk o.after[m] (Array.getElem_mem hm) he.2
   rw [he.1] at h2
   rcases Nat.lt_or_ge i listed.size with h' | h'
   ·simp [Array.getD, h'] at hun h2
    rw [hun] at h2; cases h2
   ·simp [Array.getD, Nat.not_lt.2 h'] at h2
  ·cases hL
theorem grd_set {listed : Array Bool} {w : World} {i : Nat} (h : Grd S ops listed w) : Grd S ops (listed.setIfInBounds i true) w := by
 rcases h with h | ⟨k, hk, hL⟩
 ·exact .inl h
 ·exact .inr ⟨k, getD_set_true hk, hL⟩
def wpAnyK (P : Program) (ops : Array Oper) (Q : Exit → Act → World → Prop) (S : World → Prop) : Nat → Array Bool → Act → World → Prop
 | 0, listed, a, w => Region.ready .any ops listed = [] ∧ Q .normal a w
 | n + 1, listed, a, w => (Region.ready .any ops listed = [] → Q .normal a w) ∧
   ∀ j ∈ Region.ready .any ops listed, wpOp P ops Q j (fun b u => Grd S ops (listed.setIfInBounds j true) u ∧ wpAnyK P ops Q S n (listed.setIfInBounds j true) b u) a w
theorem wpAny_of_K : ∀ (n : Nat) (listed : Array Bool) (a : Act) (w : World), wpAnyK P ops Q S n listed a w → wpAny P .any ops Q n listed a w
 | 0, _, _, _, h => h
 | n + 1, _, _, _, h => ⟨h.1, fun j hj => wpOp_mono (fun _ _ k => wpAny_of_K n _ _ _ k.2) (h.2 j hj)⟩
theorem wpAnyK_first {i : Nat} {oi : Oper} {v : Value} (hi : ops[i]? = some oi) (hn : Region.noSelect ops = true) (hst : isSt oi = false) (hQ : ∀ c a w, ¬ Q (.panic c) a w) :
  ∀ (n : Nat) (listed : Array Bool) (a : Act) (w : World), Closed ops listed →
   (∀ j oj, ops[j]? = some oj → j ≠ i → listed.getD j true = false → (∀ e ∈ oj.after, Region.binds .any e = true → e.on ≠ i) → oi.apart ops oj = true) →
   i ∈ Region.ready .any ops listed → YieldsIf P ops (SI S oi) oi v a → Grd S ops listed w →
   wpAnyK P ops Q S n (listed.setIfInBounds i true) (a.put oi.dst v) w → wpAnyK P ops Q S (n + 1) listed a w := by
 have hw : ∀ {listed : Array Bool} {w : World}, Closed ops listed → i ∈ Region.ready .any ops listed → Grd S ops listed w → SI S oi w := fun {listed w} hc hr hg => by
  unfold SI
  split
  ·rename_i hl; exact grd_load hc hg hi hl (mem_ready.1 hr).1
  ·trivial
 intro n
 induction n with
 | zero =>
  intro listed a w hc _ hr hy hg H
  refine ⟨fun h => (by rw [h] at hr; cases hr), fun j hj => ?_⟩
  by_cases hji : j = i
  ·subst hji; exact hy.wpOp hi (hw hc hr hg) ⟨grd_set hg, H⟩
  ·have hx := ready_mono hj hji
   rw [H.1] at hx
   cases hx
 | succ n ih =>
  intro listed a w hc hfree hr hy hg H
  refine ⟨fun h => (by rw [h] at hr; cases hr), fun j hj => ?_⟩
  by_cases hji : j = i
  ·subst hji; exact hy.wpOp hi (hw hc hr hg) ⟨grd_set hg, H⟩
  ·have h1 := H.2 j (ready_mono hj hji)
   obtain ⟨hjun, oj, hoj, hall⟩ := mem_ready.1 hj
   have hiun := (mem_ready.1 hr).1
   have hnot : ∀ e ∈ oj.after, Region.binds .any e = true → e.on ≠ i := fun e he hb heq => by
    have hx := hall e he hb
    rw [heq] at hx
    rcases Nat.lt_or_ge i listed.size with h' | h'
    ·simp [Array.getD, h'] at hiun hx
     rw [hiun] at hx; cases hx
    ·simp [Array.getD, Nat.not_lt.2 h'] at hx
   have h2 := wpOp_putIf hoj (hfree j oj hoj hji hjun hnot) (fun cs b => Region.noSelect_spec hn i oi cs b hi) (fun cs b => Region.noSelect_spec hn j oj cs b hoj) (fun c a w h => absurd h (hQ c _ w)) hy h1
   refine wpOp_mono (fun b u h3 => ?_) h2
   have hgj : Grd S ops (listed.setIfInBounds j true) u := by
    rcases h3.2.1 with hs | ⟨k, hk, hL⟩
    ·exact .inl hs
    ·refine .inr ⟨k, ?_, hL⟩
     have hki : i ≠ k := fun e => by
      subst e
      unfold lastL at hL
      rw [hi] at hL
      simp [hst] at hL
     rwa [Array.setIfInBounds_comm _ _ (Ne.symm hji), getD_set_ne false hki] at hk
   refine ⟨hgj, ih (listed.setIfInBounds j true) b u (closed_set hc hj) (fun k ok hk hki hun hno => hfree k ok hk hki ?_ hno) (ready_mono hr (Ne.symm hji)) h3.1 hgj ?_⟩
   ·by_cases hjk : j = k
    ·subst hjk; exact hjun
    ·rwa [getD_set_ne true hjk] at hun
   ·rw [Array.setIfInBounds_comm _ _ hji]
    exact h3.2.2
theorem wpAnyK_all {rs : List Nat} {n : Nat} {listed : Array Bool} {a : Act} {w : World} (hr : Region.ready .any ops listed = rs) (hne : rs ≠ [])
  (h : ∀ j ∈ rs, wpOp P ops Q j (fun b u => Grd S ops (listed.setIfInBounds j true) u ∧ wpAnyK P ops Q S n (listed.setIfInBounds j true) b u) a w) : wpAnyK P ops Q S (n + 1) listed a w := by
 subst hr
 exact ⟨fun h0 => absurd h0 hne, h⟩
theorem wpAnyK_last {S' : World → Prop} {k : Nat} (hL : lastL ops k = true) : ∀ (n : Nat) {listed : Array Bool}, listed.getD k false = true → ∀ (a : Act) (w : World), wpAnyK P ops Q S' n listed a w → wpAnyK P ops Q S n listed a w
 | 0, _, _, _, _, h => h
 | n + 1, _, hk, _, _, h => ⟨h.1, fun j hj => wpOp_mono (fun _ _ k3 => ⟨.inr ⟨k, getD_set_true hk, hL⟩, wpAnyK_last hL n (getD_set_true hk) _ _ k3.2⟩) (h.2 j hj)⟩
theorem wpAnyK_done {listed : Array Bool} {a : Act} {w : World} (hr : Region.ready .any ops listed = []) (h : Q .normal a w) : ∀ n, wpAnyK P ops Q S n listed a w
 | 0 => ⟨hr, h⟩
 | _ + 1 => ⟨fun _ => h, by rw [hr]; simp⟩
end
theorem dV_wp {P : Program} (hP : Fit P) {ops : Array Oper} {K : RT → Env → World → Prop} {Q : Exit → Act → World → Prop} {M : Nat → Prop} {l0 : Env} (hn : Region.noSelect ops = true)
  (hM : ∀ (i : Nat) (o : Oper), ops[i]? = some o → ∀ d, o.dst = some d → M d) (hK : ∀ r l w, agreeP M l0 l → K r l w → Q .normal (act l) w) (hQ : ∀ c a w, ¬ Q (.panic c) a w) :
  ∀ (r : RT) (S : World → Prop), (∀ (fuel : Nat) (listed : Array Bool) (l : Env) (w : World), agreeP M l0 l → Closed ops listed → S w → dV P ops r S fuel listed l w K → wpAnyK P ops Q S fuel listed (act l) w) ∧
   ∀ (n : Nat) (listed : Array Bool) (seen : List Nat) (l : Env) (w : World), agreeP M l0 l → Closed ops listed → S w →
    (∀ i ∈ seen, i ∈ Region.ready .any ops listed → wpOp P ops Q i (fun a' w' => Grd S ops (listed.setIfInBounds i true) w' ∧ wpAnyK P ops Q S n (listed.setIfInBounds i true) a' w') (act l) w) → dV.dA P ops r S n listed seen l w K →
    ∀ i ∈ Region.ready .any ops listed, wpOp P ops Q i (fun a' w' => Grd S ops (listed.setIfInBounds i true) w' ∧ wpAnyK P ops Q S n (listed.setIfInBounds i true) a' w') (act l) w := by
 have cond : ∀ {i : Nat} {o : Oper} {listed : Array Bool}, ops[i]? = some o → (Region.free .any ops listed i && (Region.ready .any ops listed).contains i && notSt ops i) = true → Closed ops listed →
   Region.free .any ops listed i = true ∧ i ∈ Region.ready .any ops listed ∧ isSt o = false ∧ Closed ops (listed.setIfInBounds i true) := by
  intro i o listed ho hc hcl
  rw [Bool.and_eq_true, Bool.and_eq_true] at hc
  have hm : i ∈ Region.ready .any ops listed := by simpa using hc.1.2
  refine ⟨hc.1.1, hm, ?_, closed_set hcl hm⟩
  have h2 := hc.2
  unfold notSt at h2
  rw [ho] at h2
  simpa using h2
 have take : ∀ {S : World → Prop} {i : Nat} {o : Oper} {n : Nat} {listed : Array Bool} {l : Env} {w : World} {X : Value → Prop}, ops[i]? = some o → (Region.free .any ops listed i && (Region.ready .any ops listed).contains i && notSt ops i) = true → Closed ops listed → S w →
   wantV ops l o = true → floatV P S o l X → (∀ v, X v → wpAnyK P ops Q S n (listed.setIfInBounds i true) (act (put l o.dst v)) w) → wpAnyK P ops Q S (n + 1) listed (act l) w := by
  intro S i o n listed l w X ho hc hcl hS hw hf hx
  obtain ⟨c1, c2, c3, _⟩ := cond ho hc hcl
  obtain ⟨v, hv, hk⟩ := floatV_runK hf
  refine wpAnyK_first (v := v) ho hn c3 hQ n listed _ w hcl (Region.free_spec ho c1) c2 (.inl ⟨by rw [wantV_eq]; exact hw, fun w' hS' => by rw [act_eval]; exact hv w' hS'⟩) (.inl hS) ?_
  rw [act_put]; exact hx v hk
 have skip : ∀ {S : World → Prop} {i : Nat} {o : Oper} {n : Nat} {listed : Array Bool} {l : Env} {w : World}, ops[i]? = some o → (Region.free .any ops listed i && (Region.ready .any ops listed).contains i && notSt ops i) = true → Closed ops listed → S w →
   wantV ops l o = false → wpAnyK P ops Q S n (listed.setIfInBounds i true) (act (put l o.dst undef)) w → wpAnyK P ops Q S (n + 1) listed (act l) w := by
  intro S i o n listed l w ho hc hcl hS hw hx
  obtain ⟨c1, c2, c3, _⟩ := cond ho hc hcl
  refine wpAnyK_first (v := undef) ho hn c3 hQ n listed _ w hcl (Region.free_spec ho c1) c2 (.inr ⟨by rw [wantV_eq]; exact hw, rfl⟩) (.inl hS) ?_
  rw [act_put]; exact hx
 have one : ∀ {i : Nat} {o : Oper} {l : Env} {w : World} {X : Act → World → Prop}, ops[i]? = some o → (match wantV ops l o with | true => worldV P o l w fun v w' => X (act (put l o.dst v)) w' | false => X (act (put l o.dst undef)) w) → wpOp P ops Q i X (act l) w := by
  intro i o l w X ho h
  unfold wpOp
  rw [ho]
  simp only [wantV_eq]
  split at h
  ·rename_i hw
   rw [hw]
   simp only [if_true]
   exact .inl ((worldV_op hP h).wp fun v w' hk => hk)
  ·rename_i hw
   rw [hw]
   simp only [Bool.false_eq_true, if_false]
   rw [act_put]; exact h
 have endA : ∀ {S : World → Prop} {n : Nat} {listed : Array Bool} {seen : List Nat} {l : Env} {w : World},
   (∀ i ∈ seen, i ∈ Region.ready .any ops listed → wpOp P ops Q i (fun a' w' => Grd S ops (listed.setIfInBounds i true) w' ∧ wpAnyK P ops Q S n (listed.setIfInBounds i true) a' w') (act l) w) →
   (match (Region.ready .any ops listed).all fun i => seen.contains i with | true => True | false => False) →
   ∀ i ∈ Region.ready .any ops listed, wpOp P ops Q i (fun a' w' => Grd S ops (listed.setIfInBounds i true) w' ∧ wpAnyK P ops Q S n (listed.setIfInBounds i true) a' w') (act l) w := by
  intro S n listed seen l w hs h i hi
  split at h
  ·rename_i hall
   rw [List.all_eq_true] at hall
   exact hs i (by simpa using hall i hi) hi
  ·exact h.elim
 intro r
 induction r with
 | nil => exact fun S => ⟨fun fuel listed l w _ _ _ h => by cases fuel <;> exact h.elim, fun n listed seen l w _ _ _ hs h => endA hs (by simpa only [dV.dA] using h)⟩
 | at_ id i t f _ _ => exact fun S => ⟨fun fuel listed l w _ _ _ h => by cases fuel <;> exact h.elim, fun n listed seen l w _ _ _ hs h => endA hs (by simpa only [dV.dA] using h)⟩
 | c t f _ _ => exact fun S => ⟨fun fuel listed l w _ _ _ h => by cases fuel <;> exact h.elim, fun n listed seen l w _ _ _ hs h => endA hs (by simpa only [dV.dA] using h)⟩
 | k r _ => exact fun S => ⟨fun fuel listed l w _ _ _ h => by cases fuel <;> exact h.elim, fun n listed seen l w _ _ _ hs h => endA hs (by simpa only [dV.dA] using h)⟩
 | y r _ => exact fun S => ⟨fun fuel listed l w _ _ _ h => by cases fuel <;> exact h.elim, fun n listed seen l w _ _ _ hs h => endA hs (by simpa only [dV.dA] using h)⟩
 | n r _ => exact fun S => ⟨fun fuel listed l w _ _ _ h => by cases fuel <;> exact h.elim, fun n listed seen l w _ _ _ hs h => endA hs (by simpa only [dV.dA] using h)⟩
 | lp m r _ => exact fun S => ⟨fun fuel listed l w _ _ _ h => by cases fuel <;> exact h.elim, fun n listed seen l w _ _ _ hs h => endA hs (by simpa only [dV.dA] using h)⟩
 | cut n m r s _ _ => exact fun S => ⟨fun fuel listed l w _ _ _ h => by cases fuel <;> exact h.elim, fun n listed seen l w _ _ _ hs h => endA hs (by simpa only [dV.dA] using h)⟩
 | fin r _ =>
  intro S
  refine ⟨fun fuel listed l w ha hcl _ h => ?_, fun n listed seen l w _ _ _ hs h => endA hs (by simpa only [dV.dA] using h)⟩
  simp only [dV] at h
  split at h
  ·rename_i hr
   exact wpAnyK_done hr (hK _ _ _ ha h) fuel
  ·exact h.elim
 | tk i r ih =>
  intro S
  refine ⟨fun fuel listed l w ha hcl hS h => ?_, fun n listed seen l w _ _ _ hs h => endA hs (by simpa only [dV.dA] using h)⟩
  simp only [dV] at h
  split at h
  ·rename_i n o ho hc
   split at h
   ·rename_i hw
    exact take ho hc hcl hS hw h fun v hv => (ih S).1 _ _ _ _ (ha.put (hM i o ho) v) (cond ho hc hcl).2.2.2 hS hv
   ·rename_i hw
    exact skip ho hc hcl hS hw ((ih S).1 _ _ _ _ (ha.put (hM i o ho) _) (cond ho hc hcl).2.2.2 hS h)
  ·exact h.elim
 | tks i t f iht ihf =>
  intro S
  refine ⟨fun fuel listed l w ha hcl hS h => ?_, fun n listed seen l w _ _ _ hs h => endA hs (by simpa only [dV.dA] using h)⟩
  simp only [dV] at h
  split at h
  ·rename_i n o ho hc
   split at h
   ·rename_i hw
    exact take ho hc hcl hS hw h fun v hv => boolV_put (X := fun v => wpAnyK P ops Q S n (listed.setIfInBounds i true) (act (put l o.dst v)) w) hv
     (fun hh => (iht S).1 _ _ _ _ (ha.put (hM i o ho) _) (cond ho hc hcl).2.2.2 hS hh) (fun hh => (ihf S).1 _ _ _ _ (ha.put (hM i o ho) _) (cond ho hc hcl).2.2.2 hS hh)
   ·exact h.elim
  ·exact h.elim
 | alt i r more ih ihm =>
  intro S
  have step : ∀ {n : Nat} {o : Oper} {listed : Array Bool} {l : Env} {w : World}, ops[i]? = some o → agreeP M l0 l → Closed ops (listed.setIfInBounds i true) → S w →
    (match wantV ops l o with | true => worldV P o l w fun v w' => S w' ∧ dV P ops r S n (listed.setIfInBounds i true) (put l o.dst v) w' K | false => dV P ops r S n (listed.setIfInBounds i true) (put l o.dst undef) w K) →
    wpOp P ops Q i (fun a' w' => Grd S ops (listed.setIfInBounds i true) w' ∧ wpAnyK P ops Q S n (listed.setIfInBounds i true) a' w') (act l) w := by
   intro n o listed l w ho ha hcl hS h
   unfold wpOp
   rw [ho]
   simp only [wantV_eq]
   split at h
   ·rename_i hw
    rw [hw]
    simp only [if_true]
    exact .inl ((worldV_op hP h).wp fun v w' hk => ⟨.inl hk.1, (ih S).1 _ _ _ _ (ha.put (hM i o ho) v) hcl hk.1 hk.2⟩)
   ·rename_i hw
    rw [hw]
    simp only [Bool.false_eq_true, if_false]
    rw [act_put]; exact ⟨.inl hS, (ih S).1 _ _ _ _ (ha.put (hM i o ho) _) hcl hS h⟩
  refine ⟨fun fuel listed l w ha hcl hS h => ?_, fun n listed seen l w ha hcl hS hs h => ?_⟩
  ·simp only [dV] at h
   split at h
   ·rename_i n o j ho hc
    split at h
    ·rename_i hj
     refine wpAnyK_all hc (by simp) (fun j' hj' => ?_)
     simp only [List.mem_singleton] at hj'
     subst hj'
     have : j' = i := by simpa using hj
     subst this
     exact step ho ha (closed_set hcl (by rw [hc]; simp)) hS h
    ·exact h.elim
   ·rename_i n o x y z ho hc
    refine wpAnyK_all rfl (fun h0 => by rw [h0] at hc; cases hc) ((ihm S).2 n listed [i] l w ha hcl hS (fun j hj hjr => ?_) h.2)
    simp only [List.mem_singleton] at hj
    subst hj
    exact step ho ha (closed_set hcl hjr) hS h.1
   ·exact h.elim
  ·simp only [dV.dA] at h
   split at h
   ·rename_i o ho
    refine (ihm S).2 n listed (i :: seen) l w ha hcl hS (fun j hj hjr => ?_) h.2
    rcases List.mem_cons.1 hj with rfl | hj
    ·exact step ho ha (closed_set hcl hjr) hS h.1
    ·exact hs j hj hjr
   ·exact h.elim
 | alts i t f more iht ihf ihm =>
  intro S
  refine ⟨fun fuel listed l w ha hcl hS h => ?_, fun n listed seen l w _ _ _ hs h => endA hs (by simpa only [dV.dA] using h)⟩
  have step : ∀ {n : Nat} {o : Oper}, ops[i]? = some o → i ∈ Region.ready .any ops listed → (match wantV ops l o with | true => worldV P o l w fun v w' => S w' ∧ boolV v (dV P ops t S n (listed.setIfInBounds i true) (put l o.dst (.bool true)) w' K) (dV P ops f S n (listed.setIfInBounds i true) (put l o.dst (.bool false)) w' K) | false => False) →
    wpOp P ops Q i (fun a' w' => Grd S ops (listed.setIfInBounds i true) w' ∧ wpAnyK P ops Q S n (listed.setIfInBounds i true) a' w') (act l) w := by
   intro n o ho hir h1
   unfold wpOp
   rw [ho]
   simp only [wantV_eq]
   split at h1
   ·rename_i hw
    rw [hw]
    simp only [if_true]
    exact .inl ((worldV_op hP h1).wp fun v w' hk => ⟨.inl hk.1, boolV_put (X := fun v => wpAnyK P ops Q S n (listed.setIfInBounds i true) (act (put l o.dst v)) w') hk.2
     (fun hh => (iht S).1 _ _ _ _ (ha.put (hM i o ho) _) (closed_set hcl hir) hk.1 hh) (fun hh => (ihf S).1 _ _ _ _ (ha.put (hM i o ho) _) (closed_set hcl hir) hk.1 hh)⟩)
   ·exact h1.elim
  simp only [dV] at h
  split at h
  ·rename_i n o j ho hc
   split at h
   ·rename_i hj
    refine wpAnyK_all hc (by simp) (fun j' hj' => ?_)
    simp only [List.mem_singleton] at hj'
    subst hj'
    have : j' = i := by simpa using hj
    subst this
    exact step ho (by rw [hc]; simp) h
   ·exact h.elim
  ·rename_i n o x y z ho hc
   refine wpAnyK_all rfl (fun h0 => by rw [h0] at hc; cases hc) ((ihm S).2 n listed [i] l w ha hcl hS (fun j hj hjr => ?_) h.2)
   simp only [List.mem_singleton] at hj
   subst hj
   exact step ho hjr h.1
  ·exact h.elim
 | last i r ih =>
  intro S
  refine ⟨fun fuel listed l w ha hcl hS h => ?_, fun n listed seen l w _ _ _ hs h => endA hs (by simpa only [dV.dA] using h)⟩
  simp only [dV] at h
  split at h
  ·rename_i n o j ho hc hL
   split at h
   ·rename_i hj hw
    have hji : j = i := by simpa using hj
    subst hji
    refine wpAnyK_all hc (by simp) (fun j' hj' => ?_)
    simp only [List.mem_singleton] at hj'
    subst hj'
    unfold wpOp
    rw [ho]
    simp only [wantV_eq, hw, if_true]
    have hun := (mem_ready.1 (show j' ∈ Region.ready .any ops listed by rw [hc]; simp)).1
    have hlt : j' < listed.size := by
     rcases Nat.lt_or_ge j' listed.size with h' | h'
     ·exact h'
     ·simp [Array.getD, Nat.not_lt.2 h'] at hun
    have hk1 : (listed.setIfInBounds j' true).getD j' false = true := by simp [Array.getD, hlt]
    refine .inl ((worldV_op hP h).wp fun v w' hk => ⟨.inr ⟨j', hk1, hL⟩, wpAnyK_last hL _ hk1 _ _ ((ih (fun _ => True)).1 _ _ _ _ (ha.put (hM j' o ho) v) (closed_set hcl (by rw [hc]; simp)) trivial hk)⟩)
   ·exact h.elim
  ·exact h.elim
theorem agree_of {m : Mods} {l l' : Env} (h : agreeP (fun t => inM m t = true) l l') : agree m l l' :=
 ⟨h.1, fun t ht => h.2 t (fun hi => by
  simp only [inM, List.any_eq_true] at hi
  obtain ⟨e, he, h2⟩ := hi
  have := List.all_eq_true.1 ht e he
  rw [h2] at this; simp at this)⟩
theorem agreeP.sub {M M' : Nat → Prop} {l0 l l' : Env} (h0 : agreeP M' l0 l) (h : agreeP M l l') (hs : ∀ t, M t → M' t) : agreeP M' l0 l' :=
 ⟨h.1.trans h0.1, fun t ht => (h.2 t (fun hm => ht (hs t hm))).trans (h0.2 t ht)⟩
def Post.off (M : Nat → Prop) (l0 : Env) (Q : Post) : Post := fun e r l w => agreeP M l0 l ∧ Q e r l w
theorem codeV_wp {P : Program} (hP : Fit P) : ∀ (c : Code) {M : Nat → Prop} {l0 : Env} (r : RT) (Q : Post) (l : Env) (w : World), Wr M c → agreeP M l0 l → codeV P c r Q l w → c.wp P (Post.lift (Post.off M l0 Q)) (act l) w := by
 intro c
 induction c with
 | skip =>
  intro M l0 r Q l w _ ha h
  exact wp_skip ⟨r, l, rfl, ha, h⟩
 | region id ops d =>
  intro M l0 r Q l w hM ha h
  cases d with
  | false =>
   exact wp_region (opsV_wp hP (M := M) (l0 := l0) (fun i o ho d hd => hM i o ho d hd) (fun r l w ha hq => ⟨r, l, rfl, ha, hq⟩) _ _ _ _ ha h)
  | true =>
   simp only [codeV] at h
   split at h
   ·rename_i hn
    obtain ⟨S, h⟩ := h
    obtain ⟨hS, h⟩ := h _ rfl
    exact wp_region_any hP.mixed (wpAny_of_K _ _ _ _ ((dV_wp hP hn (M := M) (l0 := l0) (fun i o ho d hd => hM i o ho d hd) (fun r l w ha hq => ⟨r, l, rfl, ha, hq⟩) (fun c a w h => h) r S).1 _ _ _ _ ha (closed_new _) hS h))
   ·exact h.elim
 | seq a b iha ihb =>
  intro M l0 r Q l w hM ha h
  have plain : ∀ (r1 : RT), codeV P a r1 (seqP Q fun r l w => codeV P b r Q l w) l w → (Code.seq a b).wp P (Post.lift (Post.off M l0 Q)) (act l) w := by
   intro r1 h
   refine wp_seq (wp_mono (iha r1 _ l w hM.1 ha h) fun e a' w' hq => ?_)
   cases e with
   | normal =>
    obtain ⟨r', l', rfl, ha', hq⟩ := hq
    exact ihb r' Q l' w' hM.2 ha' hq
   | panic c => exact hq
   | outgrown => exact hq
   | _ => obtain ⟨r', l', rfl, ha', hq⟩ := hq; exact ⟨r', l', rfl, ha', hq⟩
  unfold codeV at h
  split at h
  ·rename_i m r1 s
   split at h
   ·rename_i hm
    obtain ⟨I, h1, h2⟩ := h
    simp only [modOk, Bool.and_eq_true, decide_eq_true_eq] at hm
    refine wp_seq (wp_mono (iha r1 _ l w (writes_Wr hm.1.2) (agreeP.refl _ l) h1) fun e a' w' hq => ?_)
    have up : ∀ {l' : Env}, agreeP (fun t => inM m t = true) l l' → agreeP M l0 l' := fun h => ha.sub h (fun t ht => by
     simp only [inM, List.any_eq_true] at ht
     obtain ⟨x, hx, h2⟩ := ht
     have := wrote_Wr (List.all_eq_true.1 hm.2 x hx) hM.1
     have e2 : x.1 = t := by simpa using h2
     exact e2 ▸ this)
    cases e with
    | normal =>
     obtain ⟨r', l', rfl, ha', hq⟩ := hq
     unfold seqP atI at hq
     simp only at hq
     split at hq
     ·rename_i p hp
      have := allI_app (h2 (fun d => nth l' d)) (fun _ => rfl) (agree_of ha') hm.1.1 hp w' hq
      exact ihb s Q l' w' hM.2 (up ha') this
     ·exact hq.elim
    | panic c => exact hq
    | outgrown => exact hq
    | _ => obtain ⟨r', l', rfl, ha', hq⟩ := hq; exact ⟨r', l', rfl, up ha', hq⟩
   ·exact h.elim
  ·exact plain _ h
  ·exact plain _ h
 | cond x a b iha ihb =>
  intro M l0 r Q l w hM ha h
  have he := congrFun (act_eval l) x
  simp only [codeV] at h
  split at h
  ·split at h
   ·rename_i v hv
    refine wp_cond_split (t := v) (he.trans hv) (fun ht => iha _ Q l w hM.1 ha (h.1 ht)) (fun hf => ihb _ Q l w hM.2 ha (h.2 hf))
   ·exact h.elim
  ·split at h
   ·rename_i hv; exact wp_cond_true (he.trans hv) (iha _ Q l w hM.1 ha h)
   ·rename_i hv; exact wp_cond_false (he.trans hv) (ihb _ Q l w hM.2 ha h)
   ·exact h.elim
  ·split at h
   ·rename_i v hv
    obtain ⟨rfl, h⟩ := h
    exact wp_cond_true (he.trans hv) (iha _ Q l w hM.1 ha h)
   ·exact h.elim
  ·split at h
   ·rename_i v hv
    obtain ⟨rfl, h⟩ := h
    exact wp_cond_false (he.trans hv) (ihb _ Q l w hM.2 ha h)
   ·exact h.elim
  ·exact h.elim
 | block id a iha =>
  intro M l0 r Q l w hM ha h
  refine wp_block (wp_mono (iha r _ l w hM ha h) fun e a' w' hq => ?_)
  cases e with
  | exit id' =>
   obtain ⟨r', l', rfl, ha', hq⟩ := hq
   simp only [blockP] at hq
   simp only [Exit.inBlock]
   split
   ·rename_i he; rw [if_pos he] at hq; exact ⟨r', l', rfl, ha', hq⟩
   ·rename_i he; rw [if_neg he] at hq; exact ⟨r', l', rfl, ha', hq⟩
  | panic c => exact hq
  | outgrown => exact hq
  | _ => obtain ⟨r', l', rfl, ha', hq⟩ := hq; exact ⟨r', l', rfl, ha', hq⟩
 | loop a iha =>
  intro M l0 r Q l w hM ha h
  simp only [codeV] at h
  split at h
  ·rename_i m r1
   split at h
   ·rename_i hm
    obtain ⟨I, ⟨k0, h0⟩, h2⟩ := h
    simp only [modOk, Bool.and_eq_true, decide_eq_true_eq] at hm
    have up : ∀ {l' : Env}, agreeP (fun t => inM m t = true) l l' → agreeP M l0 l' := fun h => ha.sub h (fun t ht => by
     simp only [inM, List.any_eq_true] at ht
     obtain ⟨x, hx, h2⟩ := ht
     have := wrote_Wr (List.all_eq_true.1 hm.2 x hx) hM
     have e2 : x.1 = t := by simpa using h2
     exact e2 ▸ this)
    refine wp_loop_ghost (fun k a' w' => ∃ l', a' = act l' ∧ agreeP (fun t => inM m t = true) l l' ∧ atI m I l' fun p => p k w') k0 ⟨l, rfl, agreeP.refl _ l, h0⟩ ?_
    rintro k a' w' ⟨l', rfl, ha', hI⟩
    unfold atI at hI
    split at hI
    ·rename_i p hp
     have hc := allI_app (h2 (fun d => nth l' d)) (fun _ => rfl) (agree_of ha') hm.1.1 hp k w' hI
     refine wp_mono (iha r1 _ l' w' (writes_Wr hm.1.2) ha' hc) fun e a'' w'' hq => ?_
     cases e with
     | normal =>
      obtain ⟨r', l'', rfl, ha'', k', hk, hI'⟩ := hq
      exact ⟨k', hk, l'', rfl, ha'', hI'⟩
     | panic c => exact hq
     | outgrown => exact hq
     | _ => obtain ⟨r', l'', rfl, ha'', hq⟩ := hq; exact ⟨r', l'', rfl, up ha'', hq⟩
    ·exact hI.elim
   ·exact h.elim
  ·exact h.elim
 | exit id => intro M l0 r Q l w _ ha h; exact wp_exit ⟨r, l, rfl, ha, h⟩
 | ret => intro M l0 r Q l w _ ha h; exact wp_ret ⟨r, l, rfl, ha, h⟩
 | rangeFunc f ps a b _ _ => intro M l0 r Q l w _ ha h; exact h.elim
 | scope a _ => intro M l0 r Q l w _ ha h; exact h.elim
 | label i => intro M l0 r Q l w _ ha h; exact h.elim
 | goto i => intro M l0 r Q l w _ ha h; exact h.elim
 | refuse s => intro M l0 r Q l w _ ha h; exact h.elim
def retV (P : Program) (w : World) : List ResultVar → Env → (List Value → Prop) → Prop
 | [], _, K => K []
 | .tmp t :: r, l, K => retV P w r l fun vs => K (nth l t :: vs)
 | .cell a t :: r, l, K => match nth l a with
  | .pointer (some ad) => loadV P t w ad fun v => retV P w r l fun vs => K (v :: vs)
  | _ => False
def oneV : List Value → Value
 | [v] => v
 | vs => .tuple vs.toArray
def bodyV (P : Program) (fn : Func) (R : Value → World → Prop) : Post
 | .normal, _, l, w => retV P w fn.results.toList l fun vs => R (oneV vs) w
 | .ret, _, l, w => retV P w fn.results.toList l fun vs => R (oneV vs) w
 | _, _, _, _ => False
def undefs : Nat → List Value
 | 0 => []
 | n + 1 => undef :: undefs n
def fnV (P : Program) (fn : Func) (r : RT) (args : List Value) (w : World) (R : Value → World → Prop) : Prop :=
 match fn.body with
 | some c => codeV P c r (bodyV P fn R) (args ++ undefs (fn.ntmps - args.length)) w
 | none => False
theorem undefs_eq : ∀ n, undefs n = List.replicate n undef
 | 0 => rfl
 | n + 1 => by rw [undefs, undefs_eq n]; rfl
theorem retV_run {P : Program} {l : Env} {w : World} : ∀ {rs : List ResultVar} {K : List Value → Prop}, retV P w rs l K →
  ∃ vs, (rs.mapM (fun (x : ResultVar) => match x with
   | .tmp t => (pure ((act l).tmps.getD t undef) : Sem Value)
   | .cell a t => do loadVar t (← asAddr ((act l).tmps.getD a undef)))).run P w = .ok vs w ∧ K vs
 | [], K, h => ⟨[], rfl, h⟩
 | .tmp t :: r, K, h => by
  obtain ⟨vs, hv, hk⟩ := retV_run (rs := r) h
  refine ⟨_, ?_, hk⟩
  rw [List.mapM_cons, Sem.run_bind]
  have : (nth l t) = (act l).tmps.getD t undef := nth_eq l t
  simp only [Sem.run_pure, Result.andThen]
  rw [Sem.run_bind, hv]
  simp only [Result.andThen, Sem.run_pure, ← this]
 | .cell a t :: r, K, h => by
  simp only [retV] at h
  split at h
  ·rename_i ad had
   obtain ⟨v, hv, hk⟩ := loadV_run h
   obtain ⟨vs, hvs, hk⟩ := retV_run (rs := r) hk
   refine ⟨_, ?_, hk⟩
   rw [List.mapM_cons, Sem.run_bind]
   have e : (act l).tmps.getD a undef = .pointer (some ad) := (nth_eq l a).symm.trans had
   have h1 : (do loadVar t (← asAddr ((act l).tmps.getD a undef)) : Sem Value).run P w = .ok v w := by
    rw [e]; exact hv
   simp only []
   rw [h1]
   simp only [Result.andThen]
   rw [Sem.run_bind, hvs]
   simp only [Result.andThen, Sem.run_pure]
  ·exact h.elim
theorem results_run {P : Program} {fn : Func} {l : Env} {w : World} {K : Value → Prop} (h : retV P w fn.results.toList l fun vs => K (oneV vs)) : ∃ v, (results fn (act l).tmps).run P w = .ok v w ∧ K v := by
 obtain ⟨vs, hv, hk⟩ := retV_run h
 refine ⟨_, ?_, hk⟩
 unfold results
 rw [Sem.run_bind, ← Array.toArray_toList (xs := fn.results), List.mapM_toArray]
 rw [Sem.run_map]
 erw [hv]
 simp only [Result.andThen, Sem.run_pure]
 cases vs with
 | nil => simp [oneV]
 | cons x y => cases y with
  | nil => simp [oneV]
  | cons a b => simp [oneV]
theorem calls_V {P : Program} (hP : Fit P) {f : FuncId} {fn : Func} (hf : P.funcs[f]? = some fn) (r : RT) {args : Array Value} {w : World} {R : Value → World → Prop} (h : fnV P fn r args.toList w R) :
  Calls P f args w (Ret R) := by
 unfold fnV at h
 split at h
 ·rename_i c hb
  refine calls_of_wp hf hb ?_
  have hargs : ({ tmps := args ++ Array.replicate (fn.ntmps - args.size) undef, defers := [] } : Act) = act (args.toList ++ undefs (fn.ntmps - args.toList.length)) := by
   unfold act
   congr 1
   rw [undefs_eq]
   apply Array.ext'; simp
  rw [hargs]
  refine wp_mono (codeV_wp hP c (M := fun _ => True) r _ _ w (Wr.all c) (agreeP.refl _ _) h) fun e a' w' hq => ?_
  cases e with
  | normal =>
   obtain ⟨r', l', rfl, _, hq⟩ := hq
   obtain ⟨v, hv, hk⟩ := results_run (K := fun v => R v w') hq
   exact ⟨rfl, v, hv, hk⟩
  | ret =>
   obtain ⟨r', l', rfl, _, hq⟩ := hq
   obtain ⟨v, hv, hk⟩ := results_run (K := fun v => R v w') hq
   exact ⟨rfl, v, hv, hk⟩
  | panic c => exact hq.elim
  | outgrown => exact hq.elim
  | exit id => obtain ⟨r', l', rfl, _, hq⟩ := hq; exact hq.elim
  | goto i => obtain ⟨r', l', rfl, _, hq⟩ := hq; exact hq.elim
 ·exact h.elim
end Go.Proofs.YtkbikekbaboclaaGreat.V
