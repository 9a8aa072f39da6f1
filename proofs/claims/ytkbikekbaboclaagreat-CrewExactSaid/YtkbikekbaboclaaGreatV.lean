import Derived.Laws.Externs
import Derived.WalkKit
import Derived.Deep.LoopGhost
import Derived.OrdersHeld
import Derived.ChangeKeysEq
import Derived.LaidEqlPtr
set_option linter.unusedVariables false
set_option linter.unusedSimpArgs false
namespace Go.Proofs.YtkbikekbaboclaaGreat.V
open Go
/-! The frame as a list. -/
abbrev OA:=Option (Addr)
theorem dQt {p:Prop} [Decidable p] (h:decide p=true):p:=by simpa using h
theorem dQf {p:Prop} [Decidable p] (h:decide p=false):¬p:=by simpa using h
abbrev Env:=List Value
noncomputable def nth (l:List Value):Nat→Value :=
 List.rec (motive:=fun _=>Nat→Value) (fun _=>undef) (fun x _ ih n=>Nat.rec (motive:=fun _=>Value) x (fun m _=>ih m) n) l
noncomputable def Nz (v:Value) (l:List Value):Nat→List Value :=
 List.rec (motive:=fun _=>Nat→List Value) (fun _=>[]) (fun x xs ih n=>Nat.rec (motive:=fun _=>List Value) (v :: xs) (fun m _=>x :: ih m) n) l
theorem Bt (v:Value) (l:List Value) (n:Nat):Nz v l n=l.set n v:=by
 induction l generalizing n with
 | nil=>rfl
 | cons x xs ih =>
  cases n with
  | zero=>rfl
  | succ n=>show x :: Nz v xs n=_;rw [ih];rfl
def act (l:Env):Act:={ tmps:=l.toArray,defers:=[] }
noncomputable def ev (l:Env):Operand→Value
 | .tmp t=>nth l t
 | .const v=>v
 | .global g => .pointer (some ⟨g,0,none⟩)
 | .func f => .func (.func f) #[] #[]
noncomputable def put (l:Env) (d:Option Tmp) (v:Value):Env :=
 match d with
 | some d=>Nz v l d
 | none=>l
theorem HG (l:List Value) (t:Nat):nth l t=l.toArray.getD t undef:=by
 induction l generalizing t with
 | nil=>simp [nth]
 | cons x xs ih =>
  cases t with
  | zero=>show x=_;simp
  | succ n=>show nth xs n=_;rw [ih];simp
theorem EH (l:Env):(act l).eval=ev l:=by
 funext x
 cases x with
 | tmp t=>exact (HG l t).symm
 | _=>rfl
theorem sD (l:Env) (d:Option Tmp) (v:Value):(act l).put d v=act (put l d v):=by
 cases d <;> simp [Act.put,act,put,Bt]
/-! The kinds of values that a slot,a cell or a result may hold. -/
inductive Sk where
 | int (k:IntKind)|bool|str|ptr|addr|slice|map|other
def Sk.of:Value→Sk
 | .int k _ => .int k
 | .bool _ => .bool
 | .string _ => .str
 | .pointer _ => .ptr
 | .slice _ _ _ => .slice
 | .map _ => .map
 | _ => .other
def Sk.ex:Sk→(Value→Prop)→Prop
 | .int k,K=>∃ n:Int,K (.int k n)
 | .bool,K=>∃ b:Bool,K (.bool b)
 | .str,K=>∃ s:ByteArray,K (.string s)
 | .ptr,K=>∃ o:OA,K (.pointer o)
 | .addr,K=>∃ a:Addr,K (.pointer (some a))
 | .slice,K=>∃ (o:OA) (n c:Nat),K (.slice o n c)
 | .map,K=>∃ r:Option Nat,K (.map r)
 | .other,K=>∃ v:Value,K v
theorem Sk.te {s:Sk} {K:Value→Prop} (h:s.ex K):∃ v,K v:=by
 cases s
 case slice=>obtain ⟨o,n,c,h⟩:=h;exact ⟨_,h⟩
 all_goals (obtain ⟨v,h⟩:=h;exact ⟨_,h⟩)
def Sq:List Sk→(List Value→Prop)→Prop
 | [],K=>K []
 | s :: r,K=>s.ex fun v=>Sq r fun vs=>K (v :: vs)
theorem Dz:∀ {ss:List Sk} {K:List Value→Prop},Sq ss K→∃ vs,vs.length=ss.length∧K vs
 | [],_,h=>⟨[],rfl,h⟩
 | s :: r,K,h=>by
  obtain ⟨v,hv⟩:=Sk.te h
  obtain ⟨vs,hl,hk⟩:=Dz hv
  exact ⟨v :: vs,by simp [hl],hk⟩
inductive Sh where
 | one (s:Sk)|agg (ss:List Sk)|big (n:Nat)
def Sh.of:Value→Sh
 | .agg cs=>if cs.size≤40 then .agg (cs.toList.map Sk.of) else .big cs.size
 | v => .one (Sk.of v)
def Sh.ex:Sh→(Value→Prop)→Prop
 | .one s,K=>s.ex K
 | .agg ss,K=>Sq ss fun vs=>K (.agg vs.toArray)
 | .big n,K=>∃ cs:List Value,cs.length=n∧K (.agg cs.toArray)
theorem Sh.te {s:Sh} {K:Value→Prop} (h:s.ex K):∃ v,K v:=by
 cases s with
 | one s=>exact Sk.te h
 | agg ss=>obtain ⟨vs,_,h⟩:=Dz h;exact ⟨_,h⟩
 | big n=>obtain ⟨cs,_,h⟩:=h;exact ⟨_,h⟩
def JO (P:Program) (t:TypeId):Sh :=
 match P.info? t with
 | some i=>match i.zero with
  | some v=>Sh.of v
  | none => .one .other
 | none => .one .other
/-! One operation. C: what is known of cells. -/
def Bn (C:Addr→Value→Prop) (ad:Addr):Nat→List Value→Prop
 | _,[]=>True
 | i,[v]=>C (ad.add i) v
 | i,v :: r=>C (ad.add i) v∧Bn C ad (i+1) r
theorem Cz:∀ {vs:List Value} {C:Addr→Value→Prop} {ad:Addr} {i:Nat},Bn C ad i vs→∀ j v,vs[j]?=some v→C (ad.add (i+j)) v
 | [],_,_,_,_,j,v,h=>by simp at h
 | [x],C,ad,i,hc,j,v,h=>by
  cases j with
  | zero=>simp at h;subst h;exact hc
  | succ j=>simp at h
 | x :: y :: r,C,ad,i,hc,j,v,h=>by
  obtain ⟨h1,h2⟩:=hc
  cases j with
  | zero=>simp at h;subst h;exact h1
  | succ j =>
   have:=Cz h2 j v (by simpa using h)
   rw [show i+1+j=i+(j+1) by omega] at this
   exact this
def Om (C:Addr→Value→Prop) (ad:Addr) (vs:List Value):Prop:=∀ j v,vs[j]?=some v→C (ad.add j) v
def rP (P:Program) (t:TypeId):Bool :=
 match P.underlying t with
 | some (.struct _)=>true
 | some (.array _ _)=>true
 | _=>false
def Mg (P:Program) (t:TypeId) (C:Addr→Value→Prop) (ad:Addr) (K:Value→Prop):Prop :=
 match P.underlying t,P.info? t,JO P t with
 | some (.struct _),some i,.agg ss=>if i.size=ss.length then Sq ss fun vs=>Bn C ad 0 vs∧K (.agg vs.toArray) else False
 | some (.array _ _),some i,.agg ss=>if i.size=ss.length then Sq ss fun vs=>Bn C ad 0 vs∧K (.agg vs.toArray) else False
 | some (.struct _),some i,.big n=>if i.size=n then ∃ cs:List Value,cs.length=n∧Om C ad cs∧K (.agg cs.toArray) else False
 | some (.array _ _),some i,.big n=>if i.size=n then ∃ cs:List Value,cs.length=n∧Om C ad cs∧K (.agg cs.toArray) else False
 | some (.struct _),_,_=>False
 | some (.array _ _),_,_=>False
 | some _,_,.one s=>s.ex fun v=>C ad v∧K v
 | _,_,_=>False
def Og (P:Program) (t:TypeId) (w:World) (ad:Addr) (K:Value→Prop):Prop:=Mg P t (fun a v=>w.cell? a=some v) ad K
theorem Hp {P:Program} {w:World} {ad:Addr} {v:Value} (h:w.cell? ad=some v):(load ad).run P w = .ok v w:=by
 simp [load,Sem.run,h]
theorem run_loadCellsFrom {P:Program} {w:World} {ad:Addr}:∀ (vs:List Value) (i:Nat) (acc:Array Value),(∀ j v,vs[j]?=some v→w.cell? (ad.add (i+j))=some v) →
  (loadCellsFrom ad i vs.length acc).run P w = .ok (acc++vs.toArray) w
 | [],i,acc,_=>by simp [loadCellsFrom,pure]
 | v :: r,i,acc,h=>by
  have h0:=h 0 v rfl
  have hr:=run_loadCellsFrom (P:=P) r (i+1) (acc.push v) (fun j u hj=>by
   have:=h (j+1) u (by simpa using hj)
   rw [show i+1+j=i+(j+1) by omega];exact this)
  simp only [List.length_cons,loadCellsFrom]
  rw [Sem.run_bind]
  rw [Hp (by simpa using h0)]
  simp only [Result.andThen]
  rw [hr];simp
theorem uT {P:Program} {w:World} {ad:Addr} {t:TypeId} {i:TypeInfo} {vs:List Value} (hi:P.info? t=some i) (hs:i.size=vs.length)
  (ha:(∃ fs,P.underlying t=some (.struct fs))∨∃ n e,P.underlying t=some (.array n e)) (h:∀ j v,vs[j]?=some v→w.cell? (ad.add j)=some v) :
  (loadVar t ad).run P w = .ok (.agg vs.toArray) w:=by
 have a0:(isAgg t).run P w = .ok true w:=by
  unfold isAgg
  rcases ha with ⟨fs,hu⟩|⟨n,e,hu⟩ <;> simp [Sem.run_bind,run_underlying hu,Result.andThen,pure,Sem.run]
 have a1:(sizeOf t).run P w = .ok vs.length w:=by
  simp [sizeOf,typeInfo,program,Sem.run_bind,Sem.run,Result.andThen,hi,pure,hs]
 have hc:(loadCells ad vs.length).run P w = .ok vs.toArray w:=by
  have:=run_loadCellsFrom (P:=P) (w:=w) (ad:=ad) vs 0 #[] (fun j v hj=>by simpa using h j v hj)
  simpa [loadCells] using this
 unfold loadVar
 simp [Sem.run_bind,a0,a1,hc,Result.andThen,pure,Sem.run]
theorem Dn {P:Program} {w:World} {ad:Addr} {t:TypeId} {d:TypeDesc} {v:Value} (hu:P.underlying t=some d) (hd:rP P t=false)
  (h:w.cell? ad=some v):(loadVar t ad).run P w = .ok v w:=by
 have a0:(isAgg t).run P w = .ok false w:=by
  unfold isAgg
  unfold rP at hd
  rw [hu] at hd
  cases d <;> simp_all [Sem.run_bind,run_underlying hu,Result.andThen,pure,Sem.run]
 unfold loadVar
 simp [Sem.run_bind,a0,Result.andThen,Hp h]
theorem GP {P:Program} {t:TypeId} {C:Addr→Value→Prop} {ad:Addr} {K:Value→Prop} (h:Mg P t C ad K) :
  ∃ v,(∀ w:World,(∀ a v,C a v→w.cell? a=some v)→(loadVar t ad).run P w = .ok v w)∧K v:=by
 unfold Mg at h
 have go:∀ {ss:List Sk} {i:TypeInfo} (hi:P.info? t=some i) (ha:(∃ fs,P.underlying t=some (.struct fs))∨∃ n e,P.underlying t=some (.array n e)),
   (if i.size=ss.length then Sq ss fun vs=>Bn C ad 0 vs∧K (.agg vs.toArray) else False)→∃ v,(∀ w:World,(∀ a v,C a v→w.cell? a=some v)→(loadVar t ad).run P w = .ok v w)∧K v:=by
  intro ss i hi ha h
  split at h
  ·rename_i hs
   obtain ⟨vs,hl,hc,hk⟩:=Dz h
   exact ⟨_,fun w hC=>uT hi (by rw [hs,hl]) ha (fun j v hj=>hC _ _ (by simpa using Cz hc j v hj)),hk⟩
  ·exact h.elim
 have gob:∀ {n:Nat} {i:TypeInfo} (hi:P.info? t=some i) (ha:(∃ fs,P.underlying t=some (.struct fs))∨∃ n e,P.underlying t=some (.array n e)),
   (if i.size=n then ∃ cs:List Value,cs.length=n∧Om C ad cs∧K (.agg cs.toArray) else False)→∃ v,(∀ w:World,(∀ a v,C a v→w.cell? a=some v)→(loadVar t ad).run P w = .ok v w)∧K v:=by
  intro n i hi ha h
  split at h
  ·rename_i hs
   obtain ⟨cs,hl,hc,hk⟩:=h
   exact ⟨_,fun w hC=>uT hi (by rw [hs,hl]) ha (fun j v hj=>hC _ _ (hc j v hj)),hk⟩
  ·exact h.elim
 split at h
 ·rename_i hu hi _;exact go hi (.inl ⟨_,hu⟩) h
 ·rename_i hu hi _;exact go hi (.inr ⟨_,_,hu⟩) h
 ·rename_i hu hi _;exact gob hi (.inl ⟨_,hu⟩) h
 ·rename_i hu hi _;exact gob hi (.inr ⟨_,_,hu⟩) h
 ·exact h.elim
 ·exact h.elim
 ·rename_i d s a0 a1 hu hs
  obtain ⟨v,hc,hk⟩:=Sk.te h
  refine ⟨v,fun w hC=>Dn hu ?_ (hC _ _ hc),hk⟩
  unfold rP
  rw [hu]
  cases d <;> simp_all
 ·exact h.elim
theorem Hb {P:Program} {t:TypeId} {w:World} {ad:Addr} {K:Value→Prop} (h:Og P t w ad K):∃ v,(loadVar t ad).run P w = .ok v w∧K v:=by
 obtain ⟨v,hv,hk⟩:=GP h
 exact ⟨v,hv w (fun _ _ h=>h),hk⟩
/-! Pure operations. -/
def na (P:Program) {α:Type}:Sem α→Option α
 | .pure a=>some a
 | .program k=>na P (k P)
 | .mark _ k=>na P k
 | _=>none
theorem xG {P:Program} {α:Type}:∀ {s:Sem α} {a:α},na P s=some a→∀ w,s.run P w = .ok a w:=by
 intro s
 induction s with
 | pure a=>intro b h w;simp only [na,Option.some.injEq] at h;subst h;rfl
 | program k ih=>intro b h w;exact ih P (by simpa only [na] using h) w
 | mark m k ih=>intro b h w;exact ih (by simpa only [na] using h) w
 | _=>intro b h w;simp only [na] at h;cases h
def SU:Option Value→Option Int
 | some (.int _ n)=>some n
 | _=>none
def bt (s:ByteArray) (i:Int):Int:=((s.data.getD i.toNat 0).toNat:Int)
theorem run_sizeOf {P:Program} {e:TypeId} {i:TypeInfo} (hi:P.info? e=some i) (w:World):(sizeOf e).run P w = .ok i.size w:=by
 simp [sizeOf,typeInfo,program,Sem.run_bind,Sem.run,Result.andThen,hi,pure]
def jr (o:OA) (K:Addr→Prop):Prop :=
 match o with
 | some ad=>K ad
 | none=>False
theorem Hl {o:OA} {K:Addr→Prop} (h:jr o K):∃ ad,o=some ad∧K ad:=by
 cases o with
 | none=>exact h.elim
 | some ad=>exact ⟨ad,rfl,h⟩
def Fc (P:Program) (t:TypeId) (x ix:Value) (K:Value→Prop):Prop :=
 match ix with
 | .int _ i =>
  match P.underlying t with
  | some (.slice e)=>match P.info? e with
   | some inf=>match x with
    | .slice o n _=>(0≤i∧i<(n:Int))∧jr o fun ad=>K (.pointer (some (ad.add (i.toNat*inf.size))))
    | _=>False
   | none=>False
  | some (.array len e)=>match P.info? e with
   | some inf=>match x with
    | .pointer (some ad)=>(0≤i∧i<(len:Int))∧K (.pointer (some (ad.add (i.toNat*inf.size))))
    | _=>False
   | none=>False
  | _=>False
 | _=>False
theorem Hw {P:Program} {t:TypeId} {x ix:Value} {K:Value→Prop} (h:Fc P t x ix K):∃ v,(∀ w,(Instr.indexAt t x ix).run P w = .ok v w)∧K v:=by
 unfold Fc at h
 split at h
 ·split at h
  ·split at h
   ·split at h
    ·rename_i hu _ _ hi _ _ _ _
     obtain ⟨⟨h0,h1⟩,h⟩:=h
     obtain ⟨ad,rfl,hk⟩:=Hl h
     refine ⟨_,fun w=>?_,hk⟩
     simp [Instr.indexAt,asIntOf,Sem.run_bind,run_underlying hu,run_sizeOf hi,pure,Sem.run,Result.andThen,h0,h1]
    ·exact h.elim
   ·exact h.elim
  ·split at h
   ·split at h
    ·rename_i hu _ _ hi _ _
     obtain ⟨⟨h0,h1⟩,hk⟩:=h
     refine ⟨_,fun w=>?_,hk⟩
     simp [Instr.indexAt,asIntOf,Instr.sureAddr,Sem.run_bind,run_underlying hu,run_sizeOf hi,pure,Sem.run,Result.andThen,h0,h1]
    ·exact h.elim
   ·exact h.elim
  ·exact h.elim
 ·exact h.elim
def Kl (P:Program) (t:TypeId) (x ix:Value) (K:Value→Prop):Prop :=
 match ix with
 | .int _ i =>
  match P.underlying t with
  | some .string=>match x with
   | .string s=>(0≤i∧i<(s.size:Int))∧K (.int .u8 (bt s i))
   | _=>False
  | some (.array len e)=>match P.info? e,P.underlying e,JO P e with
   | some inf,some _,.agg ss=>if inf.size=ss.length∧rP P e=true then
    match x with
    | .agg cs=>(0≤i∧i<(len:Int))∧Sq ss fun vs=>cs.extract (i.toNat*inf.size) (i.toNat*inf.size+inf.size)=vs.toArray∧K (.agg vs.toArray)
    | _=>False
    else False
   | some inf,some _,.one sk=>if inf.size=1∧rP P e=false then
    match x with
    | .agg cs=>(0≤i∧i<(len:Int))∧sk.ex fun v=>cs[i.toNat]?=some v∧K v
    | _=>False
    else False
   | _,_,_=>False
  | _=>False
 | _=>False
theorem uS {P:Program} {t:TypeId} {d:TypeDesc} (hu:P.underlying t=some d) (hd:rP P t=false) (w:World):(isAgg t).run P w = .ok false w:=by
 unfold isAgg
 unfold rP at hd
 rw [hu] at hd
 cases d <;> simp_all [Sem.run_bind,run_underlying hu,Result.andThen,pure,Sem.run]
theorem EN {P:Program} {t:TypeId} {d:TypeDesc} (hu:P.underlying t=some d) (hd:rP P t=true) (w:World):(isAgg t).run P w = .ok true w:=by
 unfold isAgg
 unfold rP at hd
 rw [hu] at hd
 cases d <;> simp_all [Sem.run_bind,run_underlying hu,Result.andThen,pure,Sem.run]
theorem Ln {P : Program} {t : TypeId} {x ix : Value} {K : Value → Prop} (h : Kl P t x ix K) : ∃ v, (∀ w, (Instr.index t x ix).run P w = .ok v w) ∧ K v := by
  unfold Kl at h
  split at h
  · rename_i k i
    split at h
    · rename_i hu
      split at h
      · rename_i s
        obtain ⟨⟨h0, h1⟩, hk⟩ := h
        refine ⟨_, fun w => ?_, hk⟩
        have hlt : i.toNat < s.size := by omega
        have hb : s[i.toNat]? = some s[i.toNat] := getElem?_pos s i.toNat hlt
        have hbt : bt s i = ((s[i.toNat]).toNat : Int) := by
          unfold bt
          have : s.data.getD i.toNat 0 = s.data[i.toNat]'hlt := by simp [Array.getD, hlt]
          rw [this]; rfl
        simp [Instr.index, asIntOf, Sem.run_bind, run_underlying hu, pure, Sem.run, Result.andThen, h0, hb, hbt]
      · exact h.elim
    · rename_i len e hu
      split at h
      · rename_i inf d ss hi hd _
        split at h
        · rename_i hs
          split at h
          · rename_i cs
            obtain ⟨⟨h0, h1⟩, h⟩ := h
            obtain ⟨vs, _, hv, hk⟩ := Dz h
            refine ⟨_, fun w => ?_, hk⟩
            simp [Instr.index, asIntOf, part, Sem.run_bind, run_underlying hu, run_sizeOf hi, EN hd hs.2, pure, Sem.run, Result.andThen, h0, h1, hv]
          · exact h.elim
        · exact h.elim
      · rename_i inf d sk hi hd _
        split at h
        · rename_i hs
          split at h
          · rename_i cs
            obtain ⟨⟨h0, h1⟩, h⟩ := h
            obtain ⟨v, hv, hk⟩ := Sk.te h
            refine ⟨v, fun w => ?_, hk⟩
            simp [Instr.index, asIntOf, part, Sem.run_bind, run_underlying hu, run_sizeOf hi, uS hd hs.2, pure, Sem.run, Result.andThen, h0, h1, hs.1, hv]
          · exact h.elim
        · exact h.elim
      · exact h.elim
    · exact h.elim
  · exact h.elim
def KO (P:Program) (t:TypeId) (x:Value) (lo hi mx:Option Value) (K:Value→Prop):Prop :=
 match mx with
 | none =>
  match P.underlying t with
  | some .string=>match x with
   | .string s=>match lo,hi with
    | none,none=>K (.string (s.extract 0 s.size))
    | none,some (.int _ h)=>(0≤h∧h≤(s.size:Int))∧K (.string (s.extract 0 h.toNat))
    | some (.int _ l),none=>(0≤l∧l≤(s.size:Int))∧K (.string (s.extract l.toNat s.size))
    | some (.int _ l),some (.int _ h)=>(0≤l∧l≤h∧h≤(s.size:Int))∧K (.string (s.extract l.toNat h.toNat))
    | _,_=>False
   | _=>False
  | some (.slice e)=>match P.info? e with
   | some inf=>match x with
    | .slice o n c=>match lo,hi with
     | none,none=>K (.slice (if c=0 then o else o.map (·.add (0*inf.size))) (n-0) (c-0))
     | none,some (.int _ h)=>(0≤h∧h≤(c:Int))∧K (.slice (if c=0 then o else o.map (·.add (0*inf.size))) (h.toNat-0) (c-0))
     | some (.int _ l),none=>(0≤l∧l≤(n:Int))∧K (.slice (if c=l.toNat then o else o.map (·.add (l.toNat*inf.size))) (n-l.toNat) (c-l.toNat))
     | some (.int _ l),some (.int _ h)=>(0≤l∧l≤h∧h≤(c:Int))∧K (.slice (if c=l.toNat then o else o.map (·.add (l.toNat*inf.size))) (h.toNat-l.toNat) (c-l.toNat))
     | _,_=>False
    | _=>False
   | none=>False
  | some (.array len e)=>match P.info? e with
   | some inf=>match x with
    | .pointer (some ad)=>match lo,hi with
     | none,none=>K (.slice (some (if len=0 then ad else ad.add (0*inf.size))) (len-0) (len-0))
     | _,_=>False
    | _=>False
   | none=>False
  | _=>False
 | some (.int _ m) =>
  match P.underlying t with
  | some (.slice e)=>match P.info? e with
   | some inf=>match x with
    | .slice o _ c=>match lo,hi with
     | none,some (.int _ h)=>(0≤h∧h≤m∧m≤(c:Int))∧K (.slice (if m.toNat=0 then o else o.map (·.add (0*inf.size))) (h.toNat-0) (m.toNat-0))
     | some (.int _ l),some (.int _ h)=>(0≤l∧l≤h∧h≤m∧m≤(c:Int))∧K (.slice (if m.toNat=l.toNat then o else o.map (·.add (l.toNat*inf.size))) (h.toNat-l.toNat) (m.toNat-l.toNat))
     | _,_=>False
    | _=>False
   | none=>False
  | _=>False
 | _=>False
theorem gw {P:Program} {k:IntKind} {i:Int} {y:Nat} {code:BoundsCode} (h0:0≤i) (h1:i≤(y:Int)) (w:World):(Instr.sliceBound (.int k i) y code).run P w = .ok i.toNat w:=by
 simp [Instr.sliceBound,asIntOf,Sem.run_bind,pure,Sem.run,Result.andThen,h0,h1]
theorem Lx {P:Program} {t:TypeId} {x:Value} {lo hi mx:Option Value} {K:Value→Prop} (h:KO P t x lo hi mx K):∃ v,(∀ w,(Instr.sliceAt t x lo hi mx).run P w = .ok v w)∧K v:=by
 unfold KO at h
 split at h
 ·split at h
  ·rename_i hu
   split at h
   ·rename_i s
    split at h
    ·refine ⟨_,fun w=>?_,h⟩
     simp [Instr.sliceAt,Instr.slice,Instr.sliceBounds,Sem.run_bind,run_underlying hu,pure,Sem.run,Result.andThen]
    ·obtain ⟨⟨h0,h1⟩,hk⟩:=h
     refine ⟨_,fun w=>?_,hk⟩
     simp [Instr.sliceAt,Instr.slice,Instr.sliceBounds,Sem.run_bind,run_underlying hu,pure,Sem.run,Result.andThen,gw h0 h1]
    ·obtain ⟨⟨h0,h1⟩,hk⟩:=h
     refine ⟨_,fun w=>?_,hk⟩
     simp [Instr.sliceAt,Instr.slice,Instr.sliceBounds,Sem.run_bind,run_underlying hu,pure,Sem.run,Result.andThen,gw h0 h1]
    ·rename_i kl l kh hh
     obtain ⟨⟨h0,h1,h2⟩,hk⟩:=h
     refine ⟨_,fun w=>?_,hk⟩
     have e1:=fun (code:BoundsCode)=>gw (P:=P) (k:=kh) (i:=hh) (y:=s.size) (code:=code) (by omega) h2 w
     have e2:=fun (code:BoundsCode)=>gw (P:=P) (k:=kl) (i:=l) (y:=hh.toNat) (code:=code) h0 (by omega) w
     simp [Instr.sliceAt,Instr.slice,Instr.sliceBounds,Sem.run_bind,run_underlying hu,pure,Sem.run,Result.andThen,e1,e2]
    ·exact h.elim
   ·exact h.elim
  ·rename_i e hu
   split at h
   ·rename_i inf hi
    split at h
    ·rename_i o n c
     split at h
     ·refine ⟨_,fun w=>?_,h⟩
      simp [Instr.sliceAt,Instr.slice,Instr.sliceBounds,Sem.run_bind,run_underlying hu,pure,Sem.run,Result.andThen,run_sizeOf hi]
     ·obtain ⟨⟨h0,h1⟩,hk⟩:=h
      refine ⟨_,fun w=>?_,hk⟩
      simp [Instr.sliceAt,Instr.slice,Instr.sliceBounds,Sem.run_bind,run_underlying hu,pure,Sem.run,Result.andThen,gw h0 h1,run_sizeOf hi]
     ·obtain ⟨⟨h0,h1⟩,hk⟩:=h
      refine ⟨_,fun w=>?_,hk⟩
      simp [Instr.sliceAt,Instr.slice,Instr.sliceBounds,Sem.run_bind,run_underlying hu,pure,Sem.run,Result.andThen,gw h0 h1,run_sizeOf hi]
     ·rename_i kl l kh hh
      obtain ⟨⟨h0,h1,h2⟩,hk⟩:=h
      refine ⟨_,fun w=>?_,hk⟩
      have e1:=fun (code:BoundsCode)=>gw (P:=P) (k:=kh) (i:=hh) (y:=c) (code:=code) (by omega) h2 w
      have e2:=fun (code:BoundsCode)=>gw (P:=P) (k:=kl) (i:=l) (y:=hh.toNat) (code:=code) h0 (by omega) w
      simp [Instr.sliceAt,Instr.slice,Instr.sliceBounds,Sem.run_bind,run_underlying hu,pure,Sem.run,Result.andThen,e1,e2,run_sizeOf hi]
     ·exact h.elim
    ·exact h.elim
   ·exact h.elim
  ·rename_i len e hu
   split at h
   ·rename_i inf hi
    split at h
    ·split at h
     ·refine ⟨_,fun w=>?_,h⟩
      simp [Instr.sliceAt,Instr.sureAddr,Instr.sliceBounds,Sem.run_bind,run_underlying hu,pure,Sem.run,Result.andThen,run_sizeOf hi]
     ·exact h.elim
    ·exact h.elim
   ·exact h.elim
  ·exact h.elim
 ·split at h
  ·rename_i km m _ e hu
   split at h
   ·rename_i inf hi
    split at h
    ·rename_i o n c
     split at h
     ·rename_i kh hh
      obtain ⟨⟨h0,h1,h2⟩,hk⟩:=h
      refine ⟨_,fun w=>?_,hk⟩
      have e1:=fun (code:BoundsCode)=>gw (P:=P) (k:=km) (i:=m) (y:=c) (code:=code) (by omega) h2 w
      have e2:=fun (code:BoundsCode)=>gw (P:=P) (k:=kh) (i:=hh) (y:=m.toNat) (code:=code) h0 (by omega) w
      simp [Instr.sliceAt,Instr.slice,Instr.sliceBounds,Sem.run_bind,run_underlying hu,pure,Sem.run,Result.andThen,e1,e2,run_sizeOf hi]
     ·rename_i kl l kh hh
      obtain ⟨⟨h0,h1,h2,h3⟩,hk⟩:=h
      refine ⟨_,fun w=>?_,hk⟩
      have e1:=fun (code:BoundsCode)=>gw (P:=P) (k:=km) (i:=m) (y:=c) (code:=code) (by omega) h3 w
      have e2:=fun (code:BoundsCode)=>gw (P:=P) (k:=kh) (i:=hh) (y:=m.toNat) (code:=code) (by omega) (by omega) w
      have e3:=fun (code:BoundsCode)=>gw (P:=P) (k:=kl) (i:=l) (y:=hh.toNat) (code:=code) h0 (by omega) w
      simp [Instr.sliceAt,Instr.slice,Instr.sliceBounds,Sem.run_bind,run_underlying hu,pure,Sem.run,Result.andThen,e1,e2,e3,run_sizeOf hi]
     ·exact h.elim
    ·exact h.elim
   ·exact h.elim
  ·exact h.elim
 ·exact h.elim
def GI (P:Program) (t:TypeId) (cs:Array Value) (off:Nat):Option Value :=
 match rP P t with
 | true=>match P.info? t with
  | some i=>some (.agg (cs.extract off (off+i.size)))
  | none=>none
 | false=>match P.underlying t with
  | some _=>cs[off]?
  | none=>none
def Mp (f:TypeId→Value→Value→Option Bool) (P:Program) (xs ys:Array Value):List Field→Option Bool
 | []=>some true
 | fl :: fs => if fl.name = "_" then Mp f P xs ys fs else
  match GI P fl.type xs fl.offset,GI P fl.type ys fl.offset,Mp f P xs ys fs with
  | some a,some b,some r=>match f fl.type a b with
   | some e=>some (e&&r)
   | none=>none
  | _,_,_=>none
def ON (f:TypeId→Value→Value→Option Bool) (P:Program) (e c:Nat) (xs ys:Array Value):List Nat→Option Bool
 | []=>some true
 | i :: is =>
  match GI P e xs (i*c),GI P e ys (i*c),ON f P e c xs ys is with
  | some a,some b,some r=>match f e a b with
   | some q=>some (q&&r)
   | none=>none
  | _,_,_=>none
def RE (P:Program):Nat→TypeId→Value→Value→Option Bool
 | 0,_,_,_=>none
 | d+1,t,x,y =>
  match P.underlying t,x,y with
  | some (.int _),.int k a,.int k' b=>if k=k' then some (a==b) else none
  | some .bool,.bool a,.bool b=>some (a==b)
  | some .string,.string a,.string b=>some (a.toList==b.toList)
  | some (.struct fs),.agg xs,.agg ys=>match P.stoodInHeld t with
   | false=>Mp (RE P d) P xs ys fs.toList
   | true=>none
  | some (.array n e),.agg xs,.agg ys=>match P.info? e with
   | some i=>ON (RE P d) P e i.size xs ys (List.range n)
   | none=>none
  | _,_,_=>none
theorem yo {P:Program} {t:TypeId} {cs:Array Value} {off:Nat} {v:Value} (h:GI P t cs off=some v) (w:World):(part t cs off).run P w = .ok v w:=by
 unfold GI at h
 split at h
 ·rename_i ha
  split at h
  ·rename_i i hi
   injection h with h
   subst h
   have a0:(isAgg t).run P w = .ok true w:=by
    unfold rP at ha
    unfold isAgg
    split at ha
    ·rename_i hu;simp [Sem.run_bind,run_underlying hu,Result.andThen,pure,Sem.run]
    ·rename_i hu;simp [Sem.run_bind,run_underlying hu,Result.andThen,pure,Sem.run]
    ·cases ha
   have a1:(sizeOf t).run P w = .ok i.size w:=by
    simp [sizeOf,typeInfo,program,Sem.run_bind,Sem.run,Result.andThen,hi,pure]
   unfold part
   simp [Sem.run_bind,a0,a1,Result.andThen,pure,Sem.run]
  ·cases h
 ·rename_i ha
  split at h
  ·rename_i d hu
   unfold part
   rw [Sem.run_bind,uS hu ha]
   simp [Result.andThen,h]
  ·cases h
theorem DS {P:Program} {f:TypeId→Value→Value→Option Bool} {D:Nat} (hf:∀ t x y b,f t x y=some b→∀ w,(Op.equalIn D t x y).run P w = .ok b w) {xs ys:Array Value} :
  ∀ {fs:List Field} {b:Bool},Mp f P xs ys fs=some b→∀ w,(Op.eqFields D xs ys fs).run P w = .ok b w
 | [],b,h,w=>by
  simp only [Mp,Option.some.injEq] at h;subst h;rfl
 | fl :: fs,b,h,w=>by
  unfold Mp at h
  unfold Op.eqFields
  split at h
  ·rename_i hn
   rw [if_neg (by simpa using hn)]
   exact DS hf h w
  ·rename_i hn
   rw [if_pos hn]
   split at h
   ·rename_i a c r hx hy hr
    split at h
    ·rename_i e he
     injection h with h
     subst h
     rw [Sem.run_bind,yo hx]
     simp only [Result.andThen]
     rw [Sem.run_bind,yo hy]
     simp only [Result.andThen]
     rw [Sem.run_bind,hf _ _ _ _ he]
     simp only [Result.andThen]
     cases e
     ·rfl
     ·simpa using DS hf hr w
    ·cases h
   ·cases h
theorem JB {P:Program} {f:TypeId→Value→Value→Option Bool} {D:Nat} (hf:∀ t x y b,f t x y=some b→∀ w,(Op.equalIn D t x y).run P w = .ok b w) {e c:Nat} {xs ys:Array Value} :
  ∀ {is:List Nat} {b:Bool},ON f P e c xs ys is=some b→∀ w,(Op.eqItems D e c xs ys is).run P w = .ok b w
 | [],b,h,w=>by
  simp only [ON,Option.some.injEq] at h;subst h;rfl
 | i :: is,b,h,w=>by
  unfold ON at h
  unfold Op.eqItems
  split at h
  ·rename_i a c r hx hy hr
   split at h
   ·rename_i q he
    injection h with h
    subst h
    rw [Sem.run_bind,yo hx]
    simp only [Result.andThen]
    rw [Sem.run_bind,yo hy]
    simp only [Result.andThen]
    rw [Sem.run_bind,hf _ _ _ _ he]
    simp only [Result.andThen]
    cases q
    ·rfl
    ·simpa using JB hf hr w
   ·cases h
  ·cases h
theorem Mk {P:Program}:∀ (d:Nat) {D:Nat},d≤D→∀ (t:TypeId) (x y:Value) (b:Bool),RE P d t x y=some b→∀ w,(Op.equalIn D t x y).run P w = .ok b w
 | 0,_,_,_,_,_,_,h=>by simp [RE] at h
 | d+1,D,hd,t,x,y,b,h=>by
  obtain ⟨D,rfl⟩:∃ E,D=E+1:=⟨D-1,by omega⟩
  have ih:∀ t x y b,RE P d t x y=some b→∀ w,(Op.equalIn D t x y).run P w = .ok b w:=Mk d (by omega)
  unfold RE at h
  intro w
  split at h
  ·rename_i k a k' b' hu
   split at h
   ·rename_i hk
    subst hk
    simp only [Option.some.injEq] at h;subst h
    simp [Op.equalIn,run_underlying hu]
   ·cases h
  ·rename_i hu
   simp only [Option.some.injEq] at h;subst h
   simp [Op.equalIn,run_underlying hu]
  ·rename_i hu
   simp only [Option.some.injEq] at h;subst h
   simp [Op.equalIn,run_underlying hu,beq_toListBytes]
  ·rename_i fs xs ys hu
   split at h
   ·rename_i hs
    have hf:P.fieldsOf t=fs:=by simp [Program.fieldsOf,hu]
    rw [run_equalIn_struct w D t xs ys (by rw [hf];exact hu) hs,hf]
    exact DS ih h w
   ·cases h
  ·rename_i n e xs ys hu
   split at h
   ·rename_i i hi
    rw [run_equalIn_array w D xs ys hu hi]
    have hc:P.cellsOf e=i.size:=by simp [Program.cellsOf,hi]
    rw [hc]
    exact JB ih h w
   ·cases h
  ·cases h
def OB (P:Program) (t:TypeId) (xs ys:Array Value):Option Bool:=RE P 8 t (.agg xs) (.agg ys)
theorem GN {P:Program} {t:TypeId} {xs ys:Array Value} {b:Bool} (h:OB P t xs ys=some b) (w:World):(Op.equalIn (9999+1) t (.agg xs) (.agg ys)).run P w = .ok b w:=Mk 8 (by omega) t _ _ b h w
def RF (P:Program) (op:BinOp) (t:TypeId) (x y:Value) (K:Value→Prop):Prop :=
 match op,x,y with
 | .quo,.int k a,.int k' b=>if k=k' then b≠0∧K (.int k (k.wrap (a.tdiv b))) else False
 | .rem,.int k a,.int k' b=>if k=k' then b≠0∧K (.int k (a.tmod b)) else False
 | .shl,.int k a,.int _ b=>0≤b∧K (.int k (k.wrap (a*2 ^ min b.toNat k.bits)))
 | .shr,.int k a,.int _ b=>0≤b∧K (.int k (a.fdiv (2 ^ min b.toNat k.bits)))
 | .add,.string a,.string b=>((a.size+b.size:Nat):Int)≤9223372036854775807∧K (.string (a++b))
 | .eql,.pointer o,.pointer none=>match P.underlying t with
  | some (.pointer _)=>K (.bool o.isNone)
  | _=>False
 | .neq,.pointer o,.pointer none=>match P.underlying t with
  | some (.pointer _)=>K (.bool (!o.isNone))
  | _=>False
 | .eql,.slice o _ _,.slice none _ _=>match P.underlying t with
  | some (.slice _)=>K (.bool o.isNone)
  | _=>False
 | .neq,.slice o _ _,.slice none _ _=>match P.underlying t with
  | some (.slice _)=>K (.bool (!o.isNone))
  | _=>False
 | .eql,.agg xs,.agg ys=>match OB P t xs ys with
  | some b=>K (.bool b)
  | none=>False
 | .neq,.agg xs,.agg ys=>match OB P t xs ys with
  | some b=>K (.bool (!b))
  | none=>False
 | _,_,_=>match na P (binOp op t x y) with
  | some v=>K v
  | none=>False
theorem nv {P:Program} (d:Nat) {t e:TypeId} {o:OA} (hu:P.underlying t=some (.pointer e)) (w:World) :
  (Op.equalIn (d+1) t (.pointer o) (.pointer none)).run P w = .ok o.isNone w:=by
 cases o <;> simp [Op.equalIn,Sem.run_bind,run_underlying hu,pure,Sem.run,Result.andThen]
theorem run_equalIn_slice_nil {P:Program} (d:Nat) {t e:TypeId} {o:OA} {n c n' c':Nat} (hu:P.underlying t=some (.slice e)) (w:World) :
  (Op.equalIn (d+1) t (.slice o n c) (.slice none n' c')).run P w = .ok o.isNone w:=by
 cases o <;> simp [Op.equalIn,Sem.run_bind,run_underlying hu,pure,Sem.run,Result.andThen]
theorem rN {P:Program} {t:TypeId} {x y:Value} {b:Bool} {w:World} (h:(Op.equalIn (9999+1) t x y).run P w = .ok b w)
  (hx:binOp .eql t x y=(do pure (.bool (← Op.equal t x y)):Sem Value):=by rfl):(binOp .eql t x y).run P w = .ok (.bool b) w:=by
 rw [hx,Sem.run_bind]
 have:(Op.equal t x y).run P w = .ok b w:=h
 rw [this];rfl
theorem zP {P:Program} {t:TypeId} {x y:Value} {b:Bool} {w:World} (h:(Op.equalIn (9999+1) t x y).run P w = .ok b w)
  (hx:binOp .neq t x y=(do pure (.bool (!(← Op.equal t x y))):Sem Value):=by rfl):(binOp .neq t x y).run P w = .ok (.bool (!b)) w:=by
 rw [hx,Sem.run_bind]
 have:(Op.equal t x y).run P w = .ok b w:=h
 rw [this];rfl
theorem IL {P:Program} {op:BinOp} {t:TypeId} {x y:Value} {K:Value→Prop} (h:match na P (binOp op t x y) with|some v=>K v|none=>False) :
  ∃ v,(∀ w,(binOp op t x y).run P w = .ok v w)∧K v:=by
 split at h
 ·rename_i v hv;exact ⟨v,xG hv,h⟩
 ·exact h.elim
theorem Ot {P:Program} {op:BinOp} {t:TypeId} {x y:Value} {K:Value→Prop} (h:RF P op t x y K):∃ v,(∀ w,(binOp op t x y).run P w = .ok v w)∧K v:=by
 unfold RF at h
 split at h
 ·split at h
  ·rename_i a _ b hk
   subst hk
   obtain ⟨h0,hk⟩:=h
   refine ⟨_,fun w=>?_,hk⟩
   simp [binOp,Op.intDiv,h0,pure,Sem.run]
  ·exact h.elim
 ·split at h
  ·rename_i a _ b hk
   subst hk
   obtain ⟨h0,hk⟩:=h
   refine ⟨_,fun w=>?_,hk⟩
   simp [binOp,Op.intDiv,h0,pure,Sem.run]
  ·exact h.elim
 ·obtain ⟨h0,hk⟩:=h
  refine ⟨_,fun w=>?_,hk⟩
  simp [binOp,Op.shift,show ¬ _<(0:Int) from Int.not_lt.mpr h0,pure,Sem.run]
 ·obtain ⟨h0,hk⟩:=h
  refine ⟨_,fun w=>?_,hk⟩
  simp [binOp,Op.shift,show ¬ _<(0:Int) from Int.not_lt.mpr h0,pure,Sem.run]
 ·rename_i a b
  obtain ⟨h0,hk⟩:=h
  refine ⟨_,fun w=>?_,hk⟩
  have:¬ ((a.size+b.size:Nat):Int)>IntKind.i64.max:=by simp only [IntKind.max,IntKind.bits,IntKind.signed];simp;omega
  simp only [binOp,Op.stringOp,if_neg this]
  rfl
 ·split at h
  ·rename_i o e hu
   exact ⟨_,fun w=>rN (nv 9999 hu w),h⟩
  ·exact h.elim
 ·split at h
  ·rename_i o e hu
   exact ⟨_,fun w=>zP (nv 9999 hu w),h⟩
  ·exact h.elim
 ·split at h
  ·rename_i o n c n' c' e hu
   exact ⟨_,fun w=>rN (run_equalIn_slice_nil 9999 hu w),h⟩
  ·exact h.elim
 ·split at h
  ·rename_i o n c n' c' e hu
   exact ⟨_,fun w=>zP (run_equalIn_slice_nil 9999 hu w),h⟩
  ·exact h.elim
 ·split at h
  ·rename_i xs ys b hb
   exact ⟨_,fun w=>rN (GN hb w),h⟩
  ·exact h.elim
 ·split at h
  ·rename_i xs ys b hb
   exact ⟨_,fun w=>zP (GN hb w),h⟩
  ·exact h.elim
 ·exact IL h
def BB (P:Program) (op:BinOp) (t:TypeId) (x y:Value):Bool :=
 match op with
 | .eql | .neq=>match x,y with
  | .nilIface,.nilIface=>false
  | .agg _,.agg _=>!P.eqGuardType P.depth t
  | _,_=>true
 | _=>true
theorem Cw {P:Program} {op:BinOp} {t:TypeId} {x y:Operand} {u v:Value} (h:BB P op t u v=true) (w:World):(eqGuard op t x y u v).run P w = .ok () w:=by
 have pr:∀ w,(program).run P w = .ok P w:=fun w=>rfl
 unfold BB at h
 cases op <;> first
  | rfl
  | (cases u <;> first
    | (cases v <;> first|rfl|(exfalso;simp at h;done))
    | (cases v <;> first
      | rfl
      | (simp at h;simp [eqGuard,Sem.run_bind,Sem.run,Result.andThen,pr,h,pure])))
def AX (P:Program) (o:Oper) (l:Env) (K:Value→Prop):Prop :=
 match o.op with
 | .nilCheck x=>match ev l x with
  | .pointer o=>jr o fun ad=>K (.pointer (some ad))
  | _=>match na P (execOp (ev l) o) with
   | some (.value v)=>K v
   | _=>False
 | .indexAddr t x ix=>Fc P t (ev l x) (ev l ix) K
 | .index t x ix=>Kl P t (ev l x) (ev l ix) K
 | .slice t x lo hi mx=>KO P t (ev l x) (lo.map (ev l)) (hi.map (ev l)) (mx.map (ev l)) K
 | .binOp op t x y _=>if BB P op t (ev l x) (ev l y)=true then RF P op t (ev l x) (ev l y) K else False
 | _=>match na P (execOp (ev l) o) with
  | some (.value v)=>K v
  | _=>False
theorem BC {P:Program} {o:Oper} {l:Env} {K:Value→Prop} (h:AX P o l K):∃ v,(∀ w,(execOp (ev l) o).run P w = .ok (.value v) w)∧K v:=by
 have lift:∀ {s:Sem Value} {v:Value} {w:World},s.run P w = .ok v w→(do pure (Next.value (← s)):Sem Next).run P w = .ok (.value v) w:=by
  intro s v w hs
  rw [Sem.run_bind,hs];rfl
 have gen:(match na P (execOp (ev l) o) with|some (.value v)=>K v|_=>False)→∃ v,(∀ w,(execOp (ev l) o).run P w = .ok (.value v) w)∧K v:=by
  intro h
  split at h
  ·rename_i v hv;exact ⟨v,xG hv,h⟩
  ·exact h.elim
 unfold AX at h
 split at h
 ·rename_i x ho
  split at h
  ·rename_i p hp
   obtain ⟨ad,rfl,hk⟩:=Hl h
   refine ⟨_,fun w=>?_,hk⟩
   simp only [execOp,ho,hp]
   rfl
  ·exact gen h
 ·rename_i t x ix ho
  obtain ⟨v,hv,hk⟩:=Hw h
  exact ⟨v,fun w=>by simp only [execOp,ho];exact lift (hv w),hk⟩
 ·rename_i t x ix ho
  obtain ⟨v,hv,hk⟩:=Ln h
  exact ⟨v,fun w=>by simp only [execOp,ho];exact lift (hv w),hk⟩
 ·rename_i t x lo hi mx ho
  obtain ⟨v,hv,hk⟩:=Lx h
  exact ⟨v,fun w=>by simp only [execOp,ho];exact lift (hv w),hk⟩
 ·rename_i op t x y ty ho
  split at h
  ·rename_i hg
   obtain ⟨v,hv,hk⟩:=Ot h
   refine ⟨v,fun w=>?_,hk⟩
   simp only [execOp,ho]
   refine lift ?_
   rw [Sem.run_bind,Cw hg]
   exact hv w
  ·exact h.elim
 ·exact gen h
/-! Operations that look at memory,or write it;calls. -/
def bc (R:Value→World→Prop):Ending→World→Prop
 | .returned v,w=>R v w
 | _,_=>False
theorem bc.mono {R R':Value→World→Prop} (h:∀ v w,R v w→R' v w):∀ e w,bc R e w→bc R' e w:=fun e w he=>by
 cases e
 ·exact h _ _ he
 ·exact he
 ·exact he
theorem ab {P:Program} {f:FuncId} {args:Array Value} {w:World} {R R':Value→World→Prop} (h:Calls P f args w (bc R)) (hr:∀ v w',R v w'→R' v w'):Calls P f args w (bc R') :=
 h.mono (bc.mono hr)
def OT:List Sh→(List Value→Prop)→Prop
 | [],K=>K []
 | s :: r,K=>s.ex fun v=>OT r fun vs=>K (v :: vs)
theorem Gz:∀ {ss:List Sh} {K:List Value→Prop},OT ss K→∃ vs,K vs
 | [],_,h=>⟨[],h⟩
 | s :: r,K,h=>by
  obtain ⟨v,hv⟩:=Sh.te h
  obtain ⟨vs,hk⟩:=Gz hv
  exact ⟨v :: vs,hk⟩
def Qp (ss:List Sh) (v:Value) (K:Value→Prop):Prop :=
 match ss with
 | []=>v = .tuple #[]∧K (.tuple #[])
 | [s]=>s.ex fun u=>v=u∧K u
 | ss=>OT ss fun us=>v = .tuple us.toArray∧K (.tuple us.toArray)
theorem It {ss:List Sh} {v:Value} {K:Value→Prop} (h:Qp ss v K):K v:=by
 unfold Qp at h
 split at h
 ·obtain ⟨rfl,h⟩:=h;exact h
 ·obtain ⟨u,rfl,h⟩:=Sh.te h;exact h
 ·obtain ⟨u,hv,hk⟩:=Gz h;rw [hv];exact hk
def RA (P:Program) (g:FuncId) (args:Array Value) (w:World) (K:Value→World→Prop):Prop :=
 match P.funcs[g]? with
 | some fn=>match fn.body with
  | some _=>Calls P g args w (bc fun v w'=>Qp (fn.resultTypes.toList.map (JO P)) v fun u=>K u w')
  | none=>match fn.resultTypes.toList.map (JO P) with
   | [sh]=>∃ e:Array Value→Sem Value,Extern.findNext fn=none∧Extern.find fn=some e∧sh.ex fun v=>∃ w',(e args).run P w = .ok v w'∧K v w'
   | _=>False
 | none=>False
def Rt (P:Program) (g:FuncId) (args:Array Value) (w:World) (K:Value→World→Prop):Prop :=
 match P.funcs[g]? with
 | some fn=>match fn.body with
  | some _=>Calls P g args w (bc fun v w'=>Qp (fn.resultTypes.toList.map (JO P)) v fun u=>K u w')
  | none=>False
 | none=>False
def mu (P:Program) (s:Sem Value) (sh:Sh) (w:World) (K:Value→World→Prop):Prop:=sh.ex fun v=>∃ w',s.run P w = .ok v w'∧K v w'
def RI (P:Program) (s:Sem Unit) (w:World) (K:Value→World→Prop):Prop:=∃ w',s.run P w = .ok () w'∧K undef w'
def Lk (w:World) (ad:Addr):Nat→List Value→Prop
 | _,[]=>True
 | i,[_]=>(∃ u,w.cell? (ad.add i)=some u)∧w.frozen? (ad.add i)=false
 | i,_ :: r=>((∃ u,w.cell? (ad.add i)=some u)∧w.frozen? (ad.add i)=false)∧Lk w ad (i+1) r
def Jp (w:World) (ad:Addr):Nat→List Value→World
 | _,[]=>w
 | i,v :: r=>Jp (w.setCell (ad.add i) v) ad (i+1) r
def Oy (P:Program) (t:TypeId) (w:World) (ad:Addr) (v:Value) (K:World→Prop):Prop :=
 match P.info? t with
 | some i=>if v.cells.size=i.size∧v.cells.toList.all (·.oneCell')=true then Lk w ad 0 v.cells.toList∧∀ w',w'=Jp w ad 0 v.cells.toList→K w' else False
 | none=>False
def lu (z:List Value):Nat→List Value
 | 0=>[]
 | n+1=>z++lu z n
def DQ (P:Program) (t:TypeId) (n c:Int) (w:World) (K:Value→World→Prop):Prop :=
 match P.underlying t with
 | some (.slice e)=>match P.info? e with
  | some i=>match i.zero with
   | some z=>if z.cells.size=i.size∧0<i.size∧0<i.bytes then
     (n=c∧0≤n∧n*i.bytes≤140737488355328)∧∀ w',w'=w.alloc (.cells (lu z.cells.toList n.toNat).toArray e (0,0))→K (.slice (some ⟨w.heap.size,0,none⟩) n.toNat n.toNat) w'
    else False
   | none=>False
  | none=>False
 | _=>False
def Oe (w:World) (ox oy:OA):Prop:=∀ a b,ox=some a→oy=some b→a≠b→(∃ c t,w.heap[a.block]?=some (.cells c t (0,0)))∧∃ c t,w.heap[b.block]?=some (.cells c t (0,0))
def Sm (P:Program) (t:TypeId) (w:World) (ox oy:OA) (K:Value→World→Prop):Prop :=
 match P.underlying t with
 | some (.pointer e)=>match P.info? e with
  | some i=>if i.size≠0 then Oe w ox oy∧K (.bool (decide (ox=oy))) w else False
  | none=>False
 | _=>False
theorem Oh {P:Program} {t:TypeId} {w:World} {ox oy:OA} {K:Value→World→Prop} (h:Sm P t w ox oy K) :
  (binOp .eql t (.pointer ox) (.pointer oy)).run P w = .ok (.bool (decide (ox=oy))) w∧K (.bool (decide (ox=oy))) w:=by
 unfold Sm at h
 split at h
 ·rename_i e hu
  split at h
  ·rename_i i hi
   split at h
   ·rename_i hs
    obtain ⟨hc,hk⟩:=h
    refine ⟨?_,hk⟩
    cases oy with
    | none =>
     have h:=rN (nv (P:=P) (o:=ox) 9999 hu w)
     have e:decide (ox=none)=ox.isNone:=by cases ox <;> rfl
     rw [e];exact h
    | some b=>cases ox with
     | none =>
      have h1:∀ d:Nat,(Op.equalIn (d+1) t (.pointer none) (.pointer (some b))).run P w = .ok false w:=fun d=>by
       simp [Op.equalIn,Sem.run_bind,run_underlying hu,pure,Sem.run,Result.andThen]
      have h:=rN (h1 9999)
      have e:decide ((none:OA)=some b)=false:=decide_eq_false (by simp)
      rw [e];exact h
     | some a =>
      by_cases a0:a=b
      ·subst a0
       rw [decide_eq_true rfl]
       exact run_eql_ptr_same w a hu hi
      ·obtain ⟨⟨ca,ta,ha⟩,cb,tb,hb⟩:=hc a b rfl rfl a0
       rw [decide_eq_false (fun e=>a0 (Option.some.inj e))]
       exact run_eql_ptr_other w hu hi hs a0 ha hb
   ·exact h.elim
  ·exact h.elim
 ·exact h.elim
def SL (P:Program) (o:Oper) (l:Env) (t:TypeId) (x y:Value) (w:World) (K:Value→World→Prop):Prop :=
 match x,y with
 | .pointer ox,.pointer oy=>Sm P t w ox oy K
 | _,_=>AX P o l fun v=>K v w
def qA (P:Program) (o:Oper) (l:Env) (w:World) (K:Value→World→Prop):Prop :=
 match o.op with
 | .load t a=>match ev l a with
  | .pointer (some ad)=>Og P t w ad fun v=>K v w
  | _=>False
 | .store t a x=>match ev l a with
  | .pointer (some ad)=>Oy P t w ad (ev l x) (K undef)
  | _=>False
 | .makeSlice t n c=>match ev l n,ev l c with
  | .int _ n,.int _ c=>DQ P t n c w K
  | _,_=>False
 | .binOp .eql t x (.tmp y) _=>SL P o l t (ev l x) (ev l (.tmp y)) w K
 | .convert s d x=>match P.underlying d,ev l x with
  | some (.slice _),.string y=>mu P (convert s d (.string y)) (JO P d) w K
  | some .string,.slice a n c=>mu P (convert s d (.slice a n c)) (JO P d) w K
  | _,_=>AX P o l fun v=>K v w
 | .lookup t x ix ok=>mu P (Instr.lookup t (ev l x) (ev l ix) ok) (JO P o.type) w K
 | .mapUpdate t m k x=>RI P (Instr.mapUpdate t (ev l m) (ev l k) (ev l x)) w K
 | .mapEntry t m k=>mu P (Instr.mapEntry t (ev l m) (ev l k)) (.one .other) w K
 | .entryStore t m s x=>RI P (Instr.entryStore t (ev l m) (ev l s) (ev l x)) w K
 | .alloc .. | .box .. | .buildSlice .. | .makeMap .. => match (execOp (ev l) o).run P w with
  | .ok (.value v) w'=>∀ w1,w1=w'→K v w1
  | _=>False
 | .call c=>match c.callee with
  | .builtin .len=>match c.args.toList.map (ev l) with
   | [.map r]=>mu P (Builtin.len_ c.argTypes o.type #[.map r]) (.one (.int .i64)) w K
   | _=>AX P o l fun v=>K v w
  | .builtin .cap | .builtin .max | .builtin .min=>AX P o l fun v=>K v w
  | .builtin .append=>mu P (Builtin.append_ c.argTypes o.type (c.args.toList.map (ev l)).toArray) (.one .slice) w K
  | .builtin .copy=>mu P (Builtin.copy_ c.argTypes o.type (c.args.toList.map (ev l)).toArray) (.one (.int .i64)) w K
  | .builtin .clear=>mu P (Builtin.clear_ c.argTypes o.type (c.args.toList.map (ev l)).toArray) (.one .other) w K
  | .builtin .delete=>mu P (Builtin.delete_ c.argTypes o.type (c.args.toList.map (ev l)).toArray) (.one .other) w K
  | .builtin .unsafeSliceData=>mu P (Builtin.unsafeSliceData_ c.argTypes o.type (c.args.toList.map (ev l)).toArray) (.one .ptr) w K
  | .builtin .unsafeString=>mu P (Builtin.unsafeString_ c.argTypes o.type (c.args.toList.map (ev l)).toArray) (.one .str) w K
  | .value f=>match ev l f with
   | .func (.func g) first cap=>RA P g (first.toList++c.args.toList.map (ev l)++cap.toList).toArray w K
   | _=>False
  | .invoke r name=>match ev l r with
   | .iface t v=>match na P (method (P.types.size+Made.depth) t v name) with
    | some (g,x)=>Rt P g (x :: c.args.toList.map (ev l)).toArray w K
    | none=>False
   | _=>False
  | _=>False
 | _=>AX P o l fun v=>K v w
def Rs (P:Program) (o:Oper) (l:Env) (w:World) (K:Value→World→Prop):Prop :=
 (∃ v w',(execOp (ev l) o).run P w = .ok (.value v) w'∧K v w')∨(∃ w',(execOp (ev l) o).run P w = .ok .skip w'∧K undef w') ∨
 ∃ f args,(execOp (ev l) o).run P w = .ok (.enter f args) w∧Calls P f args w (bc K)
theorem Rs.wp {P:Program} {o:Oper} {l:Env} {w:World} {K:Value→World→Prop} {next:Act→World→Prop} {Q:Exit→Act→World→Prop} (h:Rs P o l w K)
  (hn:∀ v w',K v w'→next (act (put l o.dst v)) w'):o.wp P (act l) w next Q:=by
 unfold Oper.wp
 rw [EH]
 rcases h with ⟨v,w',hr,hk⟩|⟨w',hr,hk⟩|⟨f,args,hr,hc⟩
 ·rw [hr,Oper.upon_value,sD];exact hn _ _ hk
 ·rw [hr,Oper.upon_skip,sD];exact hn _ _ hk
 ·rw [hr,Oper.upon_enter]
  refine hc.mono fun e w' he=>?_
  cases e with
  | returned v=>show next ((act l).put o.dst v) w';rw [sD];exact hn _ _ he
  | panicked c=>exact he.elim
  | outgrown=>exact he.elim
structure Fit (P:Program):Prop where
 num : (P.funcs.all fun f => !(f.name == "runtime.NumGoroutine")) = true
 mixed:P.follows .mixedOrders=true
theorem Fit.enter {P:Program} (hP:Fit P) {g:FuncId} {fn:Func} {c:Code} (hf:P.funcs[g]?=some fn) (hb:fn.body=some c) (args:Array Value) (w:World) :
  (callFunc g args).run P w = .ok (.enter g args) w:=by
 have h1 : fn.name ≠ "runtime.NumGoroutine" := by
  have h2:=hP.num
  rw [Array.all_eq_true'] at h2
  have h3:=h2 fn (Array.mem_of_getElem? hf)
  simpa using h3
 simp [callFunc,hf,h1,hb,program,Sem.run_bind,Sem.run,pure,Result.andThen]
theorem FN {w:World} {p q:Addr} {x v:Value} (h:w.cell? q=some v):∃ v',(w.setCell p x).cell? q=some v':=by
 unfold World.cell? World.setCell at *
 rw [Array.getElem?_modify]
 by_cases e:p.block=q.block
 ·rw [if_pos e]
  cases hb:w.heap[q.block]? with
  | none=>rw [hb] at h;simp at h
  | some o =>
   rw [hb] at h
   cases o with
   | cells c el fz =>
    simp only [Option.map_some]
    simp only at h
    split at h
    ·cases h
    ·rename_i hs
     rw [if_neg hs]
     have a0:=(Array.getElem?_eq_some_iff.1 h).1
     split
     ·exact ⟨_,h⟩
     ·rw [Array.getElem?_setIfInBounds]
      split
      ·rw [if_pos (by omega)];exact ⟨_,rfl⟩
      ·exact ⟨_,h⟩
   | _=>simp at h
 ·rw [if_neg e];exact ⟨v,h⟩
theorem wi {P:Program} {ad:Addr}:∀ (vs:List Value) (i:Nat) (w:World),vs.all (·.oneCell')=true→Lk w ad i vs→(storeCells ad vs i).run P w = .ok () (Jp w ad i vs)
 | [],i,w,_,_=>by simp [storeCells,Jp,pure,Sem.run]
 | v :: r,i,w,h1,hs=>by
  have a0:(∃ u,w.cell? (ad.add i)=some u)∧w.frozen? (ad.add i)=false:=by
   cases r with
   | nil=>exact hs
   | cons x y=>exact hs.1
  obtain ⟨⟨u,hu⟩,hf⟩:=a0
  rw [List.all_cons,Bool.and_eq_true] at h1
  have a2:(store (ad.add i) v).run P w = .ok () (w.setCell (ad.add i) v):=by
   have hv:=h1.1
   cases v <;> first
    | (simp [Value.oneCell'] at hv;done)
    | simp [store,Sem.run,hu,hf]
  have a1:Lk (w.setCell (ad.add i) v) ad (i+1) r:=by
   have hr:Lk w ad (i+1) r:=by
    cases r with
    | nil=>trivial
    | cons x y=>exact hs.2
   clear hs
   have af:∀ (r:List Value) (j:Nat),Lk w ad j r→Lk (w.setCell (ad.add i) v) ad j r:=by
    intro r
    induction r with
    | nil=>intro j _;trivial
    | cons x y ih =>
     intro j h
     have one:(∃ u,w.cell? (ad.add j)=some u)∧w.frozen? (ad.add j)=false→(∃ u,(w.setCell (ad.add i) v).cell? (ad.add j)=some u)∧(w.setCell (ad.add i) v).frozen? (ad.add j)=false:=by
      rintro ⟨⟨u,h⟩,hf⟩
      obtain ⟨v',a3⟩:=FN (w:=w) (p:=ad.add i) (x:=v) (q:=ad.add j) (v:=u) h
      exact ⟨⟨v',a3⟩,by simpa using hf⟩
     cases y with
     | nil=>exact one h
     | cons a b=>exact ⟨one h.1,ih _ h.2⟩
   exact af r (i+1) hr
  simp only [storeCells,Sem.run_bind,a2,Result.andThen,Jp]
  exact wi r (i+1) _ h1.2 a1
theorem wg (z:List Value):∀ n,(lu z n).length=n*z.length
 | 0=>by simp [lu]
 | n+1=>by rw [lu,List.length_append,wg z n,Nat.succ_mul,Nat.add_comm]
theorem Cy (z:List Value) (hz:0<z.length):∀ (n j:Nat),j<n*z.length→(lu z n)[j]?=z[j % z.length]?
 | 0,j,h=>by simp at h
 | n+1,j,h=>by
  rw [lu]
  by_cases hj:j<z.length
  ·rw [List.getElem?_append_left hj,Nat.mod_eq_of_lt hj]
  ·have a0:z.length≤j:=by omega
   rw [List.getElem?_append_right a0,Cy z hz n (j-z.length) (by rw [Nat.succ_mul] at h;omega)]
   congr 1
   rw [Nat.mod_eq_sub_mod a0]
theorem LP (z:Array Value) (hz:0<z.size) (n:Nat):((Array.range (n*z.size)).map (z[· % z.size]!))=(lu z.toList n).toArray:=by
 apply Array.ext'
 apply List.ext_getElem?
 intro j
 by_cases hj:j<n*z.size
 ·have h1:=Cy z.toList (by simpa using hz) n j (by simpa using hj)
  simp only [Array.length_toList] at h1
  have h2:j % z.size<z.size:=Nat.mod_lt _ hz
  rw [h1]
  simp [List.getElem?_range,hj,h2]
 ·rw [List.getElem?_eq_none (by simp;omega),List.getElem?_eq_none (by simp [wg];omega)]
theorem HF {P:Program} {t:TypeId} {n c:Int} {w:World} {K:Value→World→Prop} {kn kc:IntKind} (h:DQ P t n c w K) :
  ∃ v w',(Instr.makeSlice t (.int kn n) (.int kc c)).run P w = .ok v w'∧K v w':=by
 unfold DQ at h
 split at h
 ·rename_i e hu
  split at h
  ·rename_i i hi
   split at h
   ·rename_i z hz
    split at h
    ·rename_i hs
     obtain ⟨a2,a5,a6⟩:=hs
     obtain ⟨⟨rfl,h0,hb⟩,hk⟩:=h
     refine ⟨_,_,?_,hk _ rfl⟩
     have hn:n≤140737488355328:=by
      have:n*1≤n*(i.bytes:Int):=Int.mul_le_mul_of_nonneg_left (by omega) h0
      omega
     have hw:IntKind.i64.wrap n=n:=by unfold IntKind.wrap;simp [IntKind.bits,IntKind.signed];omega
     have a7:(i.bytes:Int)*n≤140737488355328:=by rw [Int.mul_comm];exact hb
     have a8:¬ (n<0∨(i.bytes:Int)*n>281474976710656):=by omega
     have a0:¬ n.toNat*i.bytes>roomBytes:=by
      have e1:((n.toNat*i.bytes:Nat):Int)=n*i.bytes:=by simp [Int.toNat_of_nonneg h0]
      have:roomBytes=140737488355328:=rfl
      rw [this];omega
     simp only [Instr.makeSlice,Sem.run_bind,run_underlying hu,Result.andThen,asInt,asIntOf,pure,Sem.run,typeInfo,program,hi,hw,askRoom,sizeOf,zeroValue,hz]
     have a3:(decide (n<0)||decide ((i.bytes:Int)*n>2 ^ 48))=false:=by
      simp only [Bool.or_eq_false_iff,decide_eq_false_iff_not];omega
     simp only [a3,Bool.false_or,if_neg a0]
     have a4:(decide (n<0)||decide (n>n))=false:=by
      simp only [Bool.or_eq_false_iff,decide_eq_false_iff_not];omega
     simp only [a4,Bool.false_eq_true,if_false]
     by_cases a1:n.toNat*i.size=0
     ·have:n.toNat=0:=by
       rcases Nat.mul_eq_zero.1 a1 with h|h
       ·exact h
       ·omega
      have e0:∀ f:Nat→Value,Array.map f (Array.range 0)=#[]:=fun f=>by apply Array.ext';simp
      simp [this,newRow,newObj,Sem.run,lu,pure,hi,Result.andThen,e0]
     ·have hc:=LP z.cells (by omega) n.toNat
      rw [a2] at hc
      have a9:¬ (n.toNat=0∨i.size=0):=by
       intro hh;exact a1 (by rcases hh with h|h <;> simp [h])
      simp [newRow,newObj,Sem.run,pure,← hc,hi,hz,Result.andThen]
      rw [if_neg a1]
      simp [hz,Result.andThen,Sem.run,pure,a2]
    ·exact h.elim
   ·exact h.elim
  ·exact h.elim
 ·exact h.elim
theorem tC {P:Program} (hP:Fit P) {o:Oper} {l:Env} {w:World} {K:Value→World→Prop} (h:qA P o l w K):Rs P o l w K:=by
 have lift:∀ {s:Sem Value} {v:Value} {w w':World},s.run P w = .ok v w'→(do pure (Next.value (← s)):Sem Next).run P w = .ok (.value v) w':=by
  intro s v w w' hs
  rw [Sem.run_bind,hs];rfl
 have liftU:∀ {s:Sem Unit} {w w':World},s.run P w = .ok () w'→(do s;pure Next.skip:Sem Next).run P w = .ok .skip w':=by
  intro s w w' hs
  rw [Sem.run_bind,hs];rfl
 have viaS:∀ {s:Sem Value} {sh:Sh},execOp (ev l) o=(do pure (Next.value (← s)):Sem Next)→mu P s sh w K→Rs P o l w K:=by
  intro s sh he hr
  obtain ⟨v,w',hs,hk⟩:=Sh.te hr
  exact .inl ⟨v,w',by rw [he];exact lift hs,hk⟩
 have viaU:∀ {s:Sem Unit},execOp (ev l) o=(do s;pure Next.skip:Sem Next)→RI P s w K→Rs P o l w K:=by
  intro s he hr
  obtain ⟨w',hs,hk⟩:=hr
  exact .inr (.inl ⟨w',by rw [he];exact liftU hs,hk⟩)
 have viaP:AX P o l (fun v=>K v w)→Rs P o l w K:=by
  intro hp
  obtain ⟨v,hv,hk⟩:=BC hp
  exact .inl ⟨v,w,hv w,hk⟩
 have viaW:(match (execOp (ev l) o).run P w with | .ok (.value v) w'=>∀ w1,w1=w'→K v w1|_=>False)→Rs P o l w K:=by
  intro hp
  split at hp
  ·rename_i v w' hr;exact .inl ⟨v,w',hr,hp _ rfl⟩
  ·exact hp.elim
 unfold qA at h
 split at h
 ·rename_i t a ho
  split at h
  ·rename_i ad a5
   obtain ⟨v,hv,hk⟩:=Hb h
   refine .inl ⟨v,w,?_,hk⟩
   simp only [execOp,ho,a5]
   exact lift (by simp only [Instr.loadAt,Instr.sureAddr];exact hv)
  ·exact h.elim
 ·rename_i t a x ho
  split at h
  ·rename_i ad a5
   unfold Oy at h
   split at h
   ·rename_i i hi
    split at h
    ·rename_i hs
     obtain ⟨a7,hk⟩:=h
     refine .inr (.inl ⟨_,?_,hk _ rfl⟩)
     simp only [execOp,ho,a5]
     refine liftU ?_
     have a2:=wi (P:=P) (ev l x).cells.toList 0 w hs.2 a7
     simp only [Instr.storeAt,Instr.sureAddr]
     show (storeVar t ad (ev l x)).run P w=_
     unfold storeVar
     rw [Sem.run_bind,run_sizeOf hi]
     simp only [Result.andThen,hs.1,ne_eq,not_true_eq_false,if_false]
     exact a2
    ·exact h.elim
   ·exact h.elim
  ·exact h.elim
 ·rename_i t n c ho
  split at h
  ·rename_i kn n' kc c' hn hc
   obtain ⟨v,w',hr,hk⟩:=HF h
   exact .inl ⟨v,w',by simp only [execOp,ho,hn,hc];exact lift hr,hk⟩
  ·exact h.elim
 ·rename_i t x y ty ho
  unfold SL at h
  split at h
  ·rename_i ox oy hx hy
   obtain ⟨hr,hk⟩:=Oh h
   refine .inl ⟨_,w,?_,hk⟩
   simp only [execOp,ho,hx,hy]
   refine lift ?_
   rw [Sem.run_bind,Cw (by rfl)]
   exact hr
  ·exact viaP h
 ·rename_i s d x ho
  split at h
  ·rename_i e y hd hx
   exact viaS (by simp only [execOp,ho,hx]) h
  ·rename_i a n c hd hx
   exact viaS (by simp only [execOp,ho,hx]) h
  ·exact viaP h
 ·rename_i t x ix ok ho;exact viaS (by simp only [execOp,ho]) h
 ·rename_i t m k x ho;exact viaU (by simp only [execOp,ho]) h
 ·rename_i t m k ho;exact viaS (by simp only [execOp,ho]) h
 ·rename_i t m s x ho;exact viaU (by simp only [execOp,ho]) h
 ·exact viaW h
 ·exact viaW h
 ·exact viaW h
 ·exact viaW h
 ·rename_i c ho
  have a0:∀ c:Call,(c.args.toList.map (ev l)).toArray=c.args.map (ev l):=fun c=>by apply Array.ext';simp
  have a8:∀ b:Builtin,c.callee = .builtin b→execOp (ev l) o=(do let d ← resolve (ev l) c o.type;Go.invoke d.target d.args:Sem Next):=fun b hb=>by simp only [execOp,ho]
  have hb:∀ (b:Builtin) (s:Sem Value),c.callee = .builtin b→(∀ cs,builtin b c.argTypes o.type cs (c.args.map (ev l))=(do pure (Next.value (← s)):Sem Next)) →
    (execOp (ev l) o).run P w=(do pure (Next.value (← s)):Sem Next).run P w:=fun b s hc hs=>by
   simp only [execOp,ho,resolve,hc,Sem.run_bind,pure,Sem.run,Result.andThen,Go.invoke,hs]
  have viaB:∀ (b:Builtin) (s:Sem Value) {sh:Sh},c.callee = .builtin b→(∀ cs,builtin b c.argTypes o.type cs (c.args.map (ev l))=(do pure (Next.value (← s)):Sem Next))→mu P s sh w K→Rs P o l w K:=by
   intro b s sh hc hs hr
   obtain ⟨v,w',a9,hk⟩:=Sh.te hr
   exact .inl ⟨v,w',by rw [hb b s hc hs];exact lift a9,hk⟩
  split at h
  ·rename_i hc
   split at h
   ·rename_i r hr
    refine viaB .len _ hc (fun cs=>?_) h
    rw [← a0,hr];rfl
   ·exact viaP h
  ·exact viaP h
  ·exact viaP h
  ·exact viaP h
  ·rename_i hc;exact viaB .append _ hc (fun cs=>by rw [a0];rfl) h
  ·rename_i hc;exact viaB .copy _ hc (fun cs=>by rw [a0];rfl) h
  ·rename_i hc;exact viaB .clear _ hc (fun cs=>by rw [a0];rfl) h
  ·rename_i hc;exact viaB .delete _ hc (fun cs=>by rw [a0];rfl) h
  ·rename_i hc;exact viaB .unsafeSliceData _ hc (fun cs=>by rw [a0];rfl) h
  ·rename_i hc;exact viaB .unsafeString _ hc (fun cs=>by rw [a0];rfl) h
  ·rename_i f hc
   split at h
   ·rename_i g first cap hf
    unfold RA at h
    split at h
    ·rename_i fn a3
     split at h
     ·rename_i cd a4
      refine .inr (.inr ⟨g,(first.toList++c.args.toList.map (ev l)++cap.toList).toArray,?_,ab h (fun v w' hr=>It hr)⟩)
      have he:=hP.enter a3 a4 (first++c.args.map (ev l)++cap) w
      have a1:(first.toList++c.args.toList.map (ev l)++cap.toList).toArray=first++c.args.map (ev l)++cap:=by
       apply Array.ext';simp
      rw [a1]
      simp only [execOp,ho,resolve,hc,hf,Deferred.ofValue,Sem.run_bind,pure,Sem.run,Result.andThen,Go.invoke]
      exact he
     ·rename_i a4
      split at h
      ·obtain ⟨e,hn,b2,hr⟩:=h
       obtain ⟨v,w',hr,hk⟩:=Sh.te hr
       have h1 : (fn.name == "runtime.NumGoroutine") = false := by
        have h2:=hP.num
        rw [Array.all_eq_true'] at h2
        have h3:=h2 fn (Array.mem_of_getElem? a3)
        simpa using h3
       have he:=run_callFunc_extern a3 h1 (by rw [a4];rfl) hn b2 (first++c.args.map (ev l)++cap) w
       have a1:(first.toList++c.args.toList.map (ev l)++cap.toList).toArray=first++c.args.map (ev l)++cap:=by
        apply Array.ext';simp
       rw [a1] at hr
       refine .inl ⟨v,w',?_,hk⟩
       simp only [execOp,ho,resolve,hc,hf,Deferred.ofValue,Sem.run_bind,pure,Sem.run,Result.andThen,Go.invoke]
       rw [hr] at he
       exact he
      ·exact h.elim
    ·exact h.elim
   ·exact h.elim
  ·rename_i r name hc
   split at h
   ·rename_i t v hr
    split at h
    ·rename_i g x hm
     unfold Rt at h
     split at h
     ·rename_i fn a3
      split at h
      ·rename_i cd a4
       refine .inr (.inr ⟨g,(x :: c.args.toList.map (ev l)).toArray,?_,ab h (fun v w' hr=>It hr)⟩)
       have he:=hP.enter a3 a4 (#[x]++c.args.map (ev l)) w
       have a1:(x :: c.args.toList.map (ev l)).toArray=#[x]++c.args.map (ev l):=by
        apply Array.ext';simp
       rw [a1]
       have a2:=xG hm w
       have a6:(#[Value.iface t v]++c.args.map (ev l)).extract 1 (#[Value.iface t v]++c.args.map (ev l)).size=c.args.map (ev l):=by
        apply Array.ext';simp
        exact List.take_of_length_le (by simp)
       have h0:(#[Value.iface t v]++c.args.map (ev l))[0]?=some (Value.iface t v):=by rw [Array.getElem?_append_left (by simp)];rfl
       simp only [execOp,ho,resolve,hc,hr,Sem.run_bind,pure,Sem.run,Result.andThen,Go.invoke,h0,a6,callMethod,program,a2]
       exact he
      ·exact h.elim
     ·exact h.elim
    ·exact h.elim
   ·exact h.elim
  ·exact h.elim
 ·exact viaP h
/-! Typed frames: what a loop,or a cut,forgets and knows. -/
def Sk.fn (A:Type):Sk→Type
 | .int _=>Int→A
 | .bool=>Bool→A
 | .str=>ByteArray→A
 | .ptr=>OA→A
 | .addr=>Addr→A
 | .slice=>OA→Nat→Nat→A
 | .map=>Option Nat→A
 | .other=>Value→A
def Sk.HL {A:Type}:(s:Sk)→s.fn A→Value→Option A
 | .int k,f,v=>match v with
  | .int k' n=>if k=k' then some (f n) else none
  | _=>none
 | .bool,f,v=>match v with
  | .bool b=>some (f b)
  | _=>none
 | .str,f,v=>match v with
  | .string b=>some (f b)
  | _=>none
 | .ptr,f,v=>match v with
  | .pointer o=>some (f o)
  | _=>none
 | .addr,f,v=>match v with
  | .pointer (some a)=>some (f a)
  | _=>none
 | .slice,f,v=>match v with
  | .slice o n c=>some (f o n c)
  | _=>none
 | .map,f,v=>match v with
  | .map r=>some (f r)
  | _=>none
 | .other,f,v=>some (f v)
def Sk.Sp {A:Type}:(s:Sk)→s.fn A→(Value→A→Prop)→Prop
 | .int k,f,K=>∀ n:Int,K (.int k n) (f n)
 | .bool,f,K=>∀ b:Bool,K (.bool b) (f b)
 | .str,f,K=>∀ s:ByteArray,K (.string s) (f s)
 | .ptr,f,K=>∀ o:OA,K (.pointer o) (f o)
 | .addr,f,K=>∀ a:Addr,K (.pointer (some a)) (f a)
 | .slice,f,K=>∀ (o:OA) (n c:Nat),K (.slice o n c) (f o n c)
 | .map,f,K=>∀ r:Option Nat,K (.map r) (f r)
 | .other,f,K=>∀ v:Value,K v (f v)
theorem Sk.Pk {A:Type} {s:Sk} {f:s.fn A} {K:Value→A→Prop} (h:s.Sp f K) {v:Value} {p:A} (hp:s.HL f v=some p):K v p:=by
 cases s <;> simp only [Sk.Sp,Sk.HL] at h hp
 case int k =>
  split at hp
  ·split at hp
   ·rename_i hk
    subst hk
    simp only [Option.some.injEq] at hp;subst hp;exact h _
   ·cases hp
  ·cases hp
 case other=>simp only [Option.some.injEq] at hp;subst hp;exact h _
 all_goals
  split at hp
  ·simp only [Option.some.injEq] at hp;subst hp;first|exact h _|exact h _ _ _
  ·cases hp
abbrev AW:=List (Tmp × Option Sk)
def IT (A:Type):AW→Type
 | []=>A
 | (_,none) :: r=>IT A r
 | (_,some s) :: r=>s.fn (IT A r)
noncomputable def Oc {A:Type}:(m:AW)→IT A m→Env→Option A
 | [],I,_=>some I
 | (_,none) :: r,I,l=>Oc r I l
 | (d,some s) :: r,I,l=>match s.HL I (nth l d) with
  | some J=>Oc r J l
  | none=>none
def allI {A:Type}:(m:AW)→IT A m→Env→(Nat→Value)→(Env→A→Prop)→Prop
 | [],I,l,_,K=>K l I
 | (d,none) :: r,I,l,jk,K=>allI r I (Nz (jk d) l d) jk K
 | (d,some s) :: r,I,l,jk,K=>s.Sp I fun v J=>allI r J (Nz v l d) jk K
def agree (m:AW) (l l':Env):Prop:=l'.length=l.length∧∀ t,(m.all fun e=>!(e.1==t))=true→l'[t]?=l[t]?
theorem EZ {l:List Value} {d:Nat} (h:d<l.length):l[d]?=some (nth l d):=by
 induction l generalizing d with
 | nil=>simp at h
 | cons x xs ih=>cases d with
  | zero=>rfl
  | succ n=>show xs[n]?=some (nth xs n);exact ih (by simpa using h)
theorem Bh {A:Type}:∀ {m:AW} {I:IT A m} {l l':Env} {jk:Nat→Value} {K:Env→A→Prop} {p:A},allI m I l jk K→(∀ d,jk d=nth l' d)→agree m l l'→(m.map (·.1)).Nodup →
  Oc m I l'=some p→K l' p
 | [],I,l,l',jk,K,p,h,_,ha,_,hp=>by
  have a0:I=p:=Option.some.inj hp
  subst a0
  have:l'=l:=List.ext_getElem? fun t=>ha.2 t rfl
  subst this
  exact h
 | (d,none) :: r,I,l,l',jk,K,p,h,hj,ha,hn,hp=>by
  simp only [List.map_cons,List.nodup_cons] at hn
  have h:allI r I (Nz (jk d) l d) jk K:=h
  rw [Bt] at h
  refine Bh (m:=r) h hj ⟨by rw [List.length_set];exact ha.1,fun t ht=>?_⟩ hn.2 hp
  by_cases hd:d=t
  ·subst hd
   by_cases hl:d<l.length
   ·rw [List.getElem?_set_self hl,hj,EZ (by rw [ha.1];exact hl)]
   ·rw [List.getElem?_eq_none (by rw [ha.1];exact Nat.le_of_not_lt hl),List.getElem?_eq_none (by rw [List.length_set];exact Nat.le_of_not_lt hl)]
  ·rw [List.getElem?_set_ne hd]
   exact ha.2 t (by simp only [List.all_cons,Bool.and_eq_true];exact ⟨by simpa using hd,ht⟩)
 | (d,some s) :: r,I,l,l',jk,K,p,h,hj,ha,hn,hp=>by
  simp only [List.map_cons,List.nodup_cons] at hn
  simp only [Oc] at hp
  split at hp
  ·rename_i J hJ
   have h1:=Sk.Pk h hJ
   rw [Bt] at h1
   refine Bh (m:=r) h1 hj ⟨by rw [List.length_set];exact ha.1,fun t ht=>?_⟩ hn.2 hp
   by_cases hd:d=t
   ·subst hd
    by_cases hl:d<l.length
    ·rw [List.getElem?_set_self hl,EZ (by rw [ha.1];exact hl)]
    ·rw [List.getElem?_eq_none (by rw [ha.1];exact Nat.le_of_not_lt hl),List.getElem?_eq_none (by rw [List.length_set];exact Nat.le_of_not_lt hl)]
   ·rw [List.getElem?_set_ne hd]
    exact ha.2 t (by simp only [List.all_cons,Bool.and_eq_true];exact ⟨by simpa using hd,ht⟩)
  ·cases hp
def Sr {A:Type} (m:AW) (I:IT A m) (l:Env) (K:A→Prop):Prop :=
 match Oc m I l with
 | some p=>K p
 | none=>False
/-! How a function is walked: what a program prints. -/
def nn:Nat→Nat→AW
 | _,0=>[]
 | a,n+1=>(a,none) :: nn (a+1) n
abbrev dr (w:World) (a:Addr):Prop:=(∃ u,w.cell? a=some u)∧w.frozen? a=false
inductive RT where
 | nil
 | at_ (id i:Nat) (t f:RT)     -- in region id,at operation i: by its bool
 | c (t f:RT)                    -- a test that isn't decided
 | k (r:RT)                      -- a test that is
 | tk (i:Nat) (r:RT)           -- open order: i may be taken first
 | tks (i:Nat) (t f:RT)        -- and by its bool
 | alt (i:Nat) (r more:RT)     -- open order: i comes up;or more
 | alts (i:Nat) (t f more:RT)
 | fin (r:RT)                    -- all have come up
 | last (i:Nat) (r:RT)         -- a store that all loads are behind of,and nothing is left
 | lp (m:AW) (r:RT)
 | cut (n:Nat) (m:AW) (r s:RT)
 | y (r:RT)                      -- a test that is known to a0
 | n (r:RT)                      -- and not to
noncomputable def qO (ops:Array Oper) (l:Env) (o:Oper):Bool :=
 match o.guard with
 | none=>true
 | some (j,want)=>match (ops[j]?).bind (·.dst) with
  | some d=>match nth l d with
   | .bool b=>b==want
   | _=>false
  | none=>false
theorem rp (ops:Array Oper) (l:Env) (o:Oper):Region.wanted o (yielded ops (act l).tmps)=qO ops l o:=by
 unfold Region.wanted qO
 cases o.guard with
 | none=>rfl
 | some g =>
  obtain ⟨j,want⟩:=g
  simp only
  unfold yielded
  cases hd:(ops[j]?).bind (·.dst) with
  | none=>simp
  | some d =>
   simp only [Option.bind_some]
   by_cases hl:d<l.length
   ·have h1:(act l).tmps[d]?=some (nth l d):=by simp only [act,List.getElem?_toArray];exact EZ hl
    rw [h1]
    cases nth l d <;> simp
   ·have h1:(act l).tmps[d]?=none:=by simp only [act,List.getElem?_toArray];exact List.getElem?_eq_none (Nat.le_of_not_lt hl)
    rw [h1]
    have h2:nth l d=undef:=by
     rw [HG];simp [Array.getD,show ¬ d<l.length from hl]
    rw [h2];simp [undef]
def DO (v:Value) (T F:Prop):Prop :=
 match v with
 | .bool b=>(b=true→T)∧(b=false→F)
 | _=>False
def opsV (P:Program) (id:Nat) (ops:Array Oper):List Nat→RT→Env→World→(RT→Env→World→Prop)→Prop
 | [],r,l,w,K=>K r l w
 | i :: rest,r,l,w,K=>match ops[i]? with
  | none=>False
  | some o=>match qO ops l o with
   | true=>qA P o l w fun v w'=>match r with
    | .at_ id' i' t f=>if id=id'∧i=i' then DO v (opsV P id ops rest t (put l o.dst (.bool true)) w' K) (opsV P id ops rest f (put l o.dst (.bool false)) w' K)
     else opsV P id ops rest (.at_ id' i' t f) (put l o.dst v) w' K
    | r=>opsV P id ops rest r (put l o.dst v) w' K
   | false=>opsV P id ops rest r (put l o.dst undef) w K
def zA (P:Program) (S:World→Prop) (o:Oper) (l:Env) (K:Value→Prop):Prop :=
 match o.op with
 | .load t a=>match ev l a with
  | .pointer (some ad)=>Mg P t (fun a v=>∀ w,S w→w.cell? a=some v) ad K
  | _=>False
 | _=>AX P o l K
theorem Lt {P:Program} {S:World→Prop} {o:Oper} {l:Env} {K:Value→Prop} (h:zA P S o l K):∃ v,(∀ w,S w→(execOp (ev l) o).run P w = .ok (.value v) w)∧K v:=by
 unfold zA at h
 split at h
 ·rename_i t a ho
  split at h
  ·rename_i ad a0
   obtain ⟨v,hv,hk⟩:=GP h
   refine ⟨v,fun w hS=>?_,hk⟩
   have:=hv w (fun a v hc=>hc w hS)
   simp only [execOp,ho,a0]
   rw [Sem.run_bind]
   simp only [Instr.loadAt,Instr.sureAddr]
   have h2:(do let a ← (pure ad:Sem Addr);loadVar t a:Sem Value).run P w = .ok v w:=this
   rw [h2];rfl
  ·exact h.elim
 ·obtain ⟨v,hv,hk⟩:=BC h
  exact ⟨v,fun w _=>hv w,hk⟩
def PL (o:Oper):Bool :=
 match o.op with
 | .load .. => true
 | _=>false
def Qu (o:Oper):Bool :=
 match o.op with
 | .store .. => true
 | _=>false
def Hf (ops:Array Oper) (i:Nat):Bool :=
 match ops[i]? with
 | some o=>!Qu o
 | none=>true
def Jb (ops:Array Oper) (k:Nat):Bool :=
 match ops[k]? with
 | some o=>Qu o&&(List.range ops.size).all fun m=>match ops[m]? with
  | some om=>!PL om||o.after.any fun e=>e.on==m&&Region.binds .any e
  | none=>true
 | none=>false
def dV (P:Program) (ops:Array Oper):RT→(World→Prop)→Nat→Array Bool→Env→World→(RT→Env→World→Prop)→Prop
 | .fin r,S,_,listed,l,w,K=>match Region.ready .any ops listed with
  | []=>K r l w
  | _=>False
 | .last i r,S,fuel,listed,l,w,K=>match fuel,ops[i]?,Region.ready .any ops listed,Jb ops i with
  | n+1,some o,[j],true=>match j==i,qO ops l o with
   | true,true=>qA P o l w fun v w'=>dV P ops r (fun _=>True) n (listed.setIfInBounds i true) (put l o.dst v) w' K
   | _,_=>False
  | _,_,_,_=>False
 | .tk i r,S,fuel,listed,l,w,K=>match fuel,ops[i]?,Region.free .any ops listed i&&(Region.ready .any ops listed).contains i&&Hf ops i with
  | n+1,some o,true=>match qO ops l o with
   | true=>zA P S o l fun v=>dV P ops r S n (listed.setIfInBounds i true) (put l o.dst v) w K
   | false=>dV P ops r S n (listed.setIfInBounds i true) (put l o.dst undef) w K
  | _,_,_=>False
 | .tks i t f,S,fuel,listed,l,w,K=>match fuel,ops[i]?,Region.free .any ops listed i&&(Region.ready .any ops listed).contains i&&Hf ops i with
  | n+1,some o,true=>match qO ops l o with
   | true=>zA P S o l fun v=>DO v (dV P ops t S n (listed.setIfInBounds i true) (put l o.dst (.bool true)) w K) (dV P ops f S n (listed.setIfInBounds i true) (put l o.dst (.bool false)) w K)
   | false=>False
  | _,_,_=>False
 | .alt i r more,S,fuel,listed,l,w,K=>match fuel,ops[i]?,Region.ready .any ops listed with
  | n+1,some o,[j]=>match j==i with
   | true=>match qO ops l o with
    | true=>qA P o l w fun v w'=>S w'∧dV P ops r S n (listed.setIfInBounds i true) (put l o.dst v) w' K
    | false=>dV P ops r S n (listed.setIfInBounds i true) (put l o.dst undef) w K
   | false=>False
  | n+1,some o,_ :: _ :: _=>(match qO ops l o with
   | true=>qA P o l w fun v w'=>S w'∧dV P ops r S n (listed.setIfInBounds i true) (put l o.dst v) w' K
   | false=>dV P ops r S n (listed.setIfInBounds i true) (put l o.dst undef) w K) ∧
   dA P ops more S n listed [i] l w K
  | _,_,_=>False
 | .alts i t f more,S,fuel,listed,l,w,K=>match fuel,ops[i]?,Region.ready .any ops listed with
  | n+1,some o,[j]=>match j==i with
   | true=>match qO ops l o with
    | true=>qA P o l w fun v w'=>S w'∧DO v (dV P ops t S n (listed.setIfInBounds i true) (put l o.dst (.bool true)) w' K) (dV P ops f S n (listed.setIfInBounds i true) (put l o.dst (.bool false)) w' K)
    | false=>False
   | false=>False
  | n+1,some o,_ :: _ :: _=>(match qO ops l o with
   | true=>qA P o l w fun v w'=>S w'∧DO v (dV P ops t S n (listed.setIfInBounds i true) (put l o.dst (.bool true)) w' K) (dV P ops f S n (listed.setIfInBounds i true) (put l o.dst (.bool false)) w' K)
   | false=>False) ∧
   dA P ops more S n listed [i] l w K
  | _,_,_=>False
 | _,_,_,_,_,_,_=>False
 where
 dA (P:Program) (ops:Array Oper):RT→(World→Prop)→Nat→Array Bool→List Nat→Env→World→(RT→Env→World→Prop)→Prop
 | .alt i r more,S,n,listed,seen,l,w,K=>match ops[i]? with
  | some o=>(match qO ops l o with
   | true=>qA P o l w fun v w'=>S w'∧dV P ops r S n (listed.setIfInBounds i true) (put l o.dst v) w' K
   | false=>dV P ops r S n (listed.setIfInBounds i true) (put l o.dst undef) w K) ∧
   dA P ops more S n listed (i :: seen) l w K
  | _=>False
 | _,_,_,listed,seen,_,_,_=>match (Region.ready .any ops listed).all fun i=>seen.contains i with
  | true=>True
  | false=>False
/-! Whole code. -/
abbrev yt:=Exit→RT→Env→World→Prop
def yt.lift (Q:yt):Exit→Act→World→Prop
 | .panic _,_,_=>False
 | .outgrown,_,_=>False
 | e,a,w=>∃ r l,a=act l∧Q e r l w
def gh (M:Nat→Prop) (l l':Env):Prop:=l'.length=l.length∧∀ t,¬ M t→l'[t]?=l[t]?
theorem gh.refl (M:Nat→Prop) (l:Env):gh M l l:=⟨rfl,fun _ _=>rfl⟩
theorem gh.put {M:Nat→Prop} {l l':Env} (h:gh M l l') {d:Option Tmp} (hd:∀ t,d=some t→M t) (v:Value):gh M l (put l' d v):=by
 cases d with
 | none=>exact h
 | some d =>
  refine ⟨by simp only [V.put,Bt,List.length_set];exact h.1,fun t ht=>?_⟩
  have a0:d≠t:=fun e=>ht (e▸hd d rfl)
  simp only [V.put,Bt]
  rw [List.getElem?_set_ne a0]
  exact h.2 t ht
def Wr (M:Nat→Prop):Code→Prop
 | .region _ ops _=>∀ (i:Nat) (o:Oper),ops[i]?=some o→∀ d,o.dst=some d→M d
 | .seq a b=>Wr M a∧Wr M b
 | .cond _ a b=>Wr M a∧Wr M b
 | .block _ a=>Wr M a
 | .loop a=>Wr M a
 | _=>True
theorem Wr.all:∀ c:Code,Wr (fun _=>True) c
 | .region _ _ _=>fun _ _ _ _ _=>trivial
 | .seq a b=>⟨Wr.all a,Wr.all b⟩
 | .cond _ a b=>⟨Wr.all a,Wr.all b⟩
 | .block _ a=>Wr.all a
 | .loop a=>Wr.all a
 | .skip=>trivial
 | .rangeFunc _ _ _ _=>trivial
 | .exit _=>trivial
 | .scope _=>trivial
 | .label _=>trivial
 | .goto _=>trivial
 | .ret=>trivial
 | .refuse _=>trivial
def QF (m:AW) (t:Nat):Bool:=m.any fun e=>e.1==t
def writes (m:AW):Code→Bool
 | .skip=>true
 | .region _ ops _=>ops.toList.all fun o=>match o.dst with
  | some d=>QF m d
  | none=>true
 | .seq a b=>writes m a&&writes m b
 | .cond _ a b=>writes m a&&writes m b
 | .block _ a=>writes m a
 | .loop a=>writes m a
 | .exit _=>true
 | .ret=>true
 | _=>false
def wrote (d:Nat):Code→Bool
 | .region _ ops _=>ops.toList.any fun o=>o.dst==some d
 | .seq a b=>wrote d a||wrote d b
 | .cond _ a b=>wrote d a||wrote d b
 | .block _ a=>wrote d a
 | .loop a=>wrote d a
 | _=>false
theorem oD {m:AW}:∀ {c:Code},writes m c=true→Wr (fun t=>QF m t=true) c
 | .region _ ops _,h=>fun i o ho d hd=>by
  simp only [writes,List.all_eq_true] at h
  have h1:=h o (by simpa using Array.mem_of_getElem? ho)
  rw [hd] at h1;exact h1
 | .seq a b,h=>by simp only [writes,Bool.and_eq_true] at h;exact ⟨oD h.1,oD h.2⟩
 | .cond _ a b,h=>by simp only [writes,Bool.and_eq_true] at h;exact ⟨oD h.1,oD h.2⟩
 | .block _ a,h=>oD (c:=a) h
 | .loop a,h=>oD (c:=a) h
 | .skip,_=>trivial
 | .rangeFunc _ _ _ _,_=>trivial
 | .exit _,_=>trivial
 | .scope _,_=>trivial
 | .label _,_=>trivial
 | .goto _,_=>trivial
 | .ret,_=>trivial
 | .refuse _,_=>trivial
theorem pQ {M:Nat→Prop} {d:Nat}:∀ {c:Code},wrote d c=true→Wr M c→M d
 | .region _ ops _,h,hw=>by
  simp only [wrote,List.any_eq_true] at h
  obtain ⟨o,ho,hd⟩:=h
  obtain ⟨i,hi⟩:=List.getElem?_of_mem ho
  exact hw i o (by simpa using hi) d (by simpa using hd)
 | .seq a b,h,hw=>by
  simp only [wrote,Bool.or_eq_true] at h
  rcases h with h|h
  ·exact pQ h hw.1
  ·exact pQ h hw.2
 | .cond _ a b,h,hw=>by
  simp only [wrote,Bool.or_eq_true] at h
  rcases h with h|h
  ·exact pQ h hw.1
  ·exact pQ h hw.2
 | .block _ a,h,hw=>pQ (c:=a) h hw
 | .loop a,h,hw=>pQ (c:=a) h hw
 | .skip,h,_=>by simp [wrote] at h
 | .rangeFunc _ _ _ _,h,_=>by simp [wrote] at h
 | .exit _,h,_=>by simp [wrote] at h
 | .scope _,h,_=>by simp [wrote] at h
 | .label _,h,_=>by simp [wrote] at h
 | .goto _,h,_=>by simp [wrote] at h
 | .ret,h,_=>by simp [wrote] at h
 | .refuse _,h,_=>by simp [wrote] at h
def Mc (c:Code) (m:AW):Bool:=decide ((m.map (·.1)).Nodup)&&writes m c&&m.all fun e=>wrote e.1 c
def Nh (Q:yt) (K:RT→Env→World→Prop):yt
 | .normal,r,l,w=>K r l w
 | e,r,l,w=>Q e r l w
def Pg (id:Nat) (Q:yt):yt
 | .exit id',r,l,w=>if id'=id then Q .normal r l w else Q (.exit id') r l w
 | e,r,l,w=>Q e r l w
def np (P:Program):Code→RT→yt→Env→World→Prop
 | .skip,r,Q,l,w=>Q .normal r l w
 | .region id ops false,r,Q,l,w=>opsV P id ops (List.range ops.size) r l w fun r l w=>Q .normal r l w
 | .region _ ops true,r,Q,l,w=>match Region.noSelect ops with
  | true=>∃ S:World→Prop,∀ w0,w0=w.drew→S w0∧dV P ops r S ops.size (Array.replicate ops.size false) l w0 fun r l w=>Q .normal r l w
  | false=>False
 | .seq a b,r,Q,l,w=>match r with
  | .cut 0 m r s=>match Mc a m with
   | true=>∃ I:IT (World→Prop) m,np P a r (Nh Q fun _ l' w'=>Sr m I l' fun p=>p w') l w ∧
     ∀ jk:Nat→Value,allI m I l jk fun l' p=>∀ w',p w'→np P b s Q l' w'
   | false=>False
  | .cut (n+1) m r s=>np P a (.cut n m r s) (Nh Q fun r l w=>np P b r Q l w) l w
  | r=>np P a r (Nh Q fun r l w=>np P b r Q l w) l w
 | .cond c a b,r,Q,l,w=>match r with
  | .c t f=>match ev l c with
   | .bool v=>(v=true→np P a t Q l w)∧(v=false→np P b f Q l w)
   | _=>False
  | .k r=>match ev l c with
   | .bool true=>np P a r Q l w
   | .bool false=>np P b r Q l w
   | _=>False
  | .y r=>match ev l c with
   | .bool v=>v=true∧np P a r Q l w
   | _=>False
  | .n r=>match ev l c with
   | .bool v=>v=false∧np P b r Q l w
   | _=>False
  | _=>False
 | .block id a,r,Q,l,w=>np P a r (Pg id Q) l w
 | .loop a,r,Q,l,w=>match r with
  | .lp m r=>match Mc a m with
   | true=>∃ I:IT (Nat→World→Prop) m,(∃ k,Sr m I l fun p=>p k w) ∧
     ∀ jk:Nat→Value,allI m I l jk fun l' p=>∀ k w',p k w'→np P a r (Nh Q fun _ l'' w''=>∃ k',k'<k∧Sr m I l'' fun p=>p k' w'') l' w'
   | false=>False
  | _=>False
 | .exit id,r,Q,l,w=>Q (.exit id) r l w
 | .ret,r,Q,l,w=>Q .ret r l w
 | _,_,_,_,_=>False
theorem BD {v:Value} {T F:Prop} {X:Value→Prop} (h:DO v T F) (ht:T→X (.bool true)) (hf:F→X (.bool false)):X v:=by
 unfold DO at h
 split at h
 ·rename_i b
  cases b
  ·exact hf (h.2 rfl)
  ·exact ht (h.1 rfl)
 ·exact h.elim
theorem QS {P:Program} (hP:Fit P) {id:Nat} {ops:Array Oper} {K:RT→Env→World→Prop} {Q:Exit→Act→World→Prop} {M:Nat→Prop} {l0:Env}
  (hM:∀ (i:Nat) (o:Oper),ops[i]?=some o→∀ d,o.dst=some d→M d) (hK:∀ r l w,gh M l0 l→K r l w→Q .normal (act l) w) :
  ∀ (idx:List Nat) (r:RT) (l:Env) (w:World),gh M l0 l→opsV P id ops idx r l w K→wpOps P ops Q idx (act l) w:=by
 intro idx
 induction idx with
 | nil=>intro r l w ha h;exact hK r l w ha h
 | cons i rest ih =>
  intro r l w ha h
  rw [wpOps_cons]
  unfold wpOp
  simp only [opsV] at h
  split at h
  ·exact h.elim
  ·rename_i o ho
   have a0:=fun v=>ha.put (hM i o ho) v
   rw [ho]
   simp only [rp]
   split at h
   ·rename_i hw
    rw [hw]
    simp only [if_true]
    refine .inl ((tC hP h).wp fun v w' hk=>?_)
    split at hk
    ·rename_i id' i' t f
     split at hk
     ·exact BD (X:=fun v=>wpOps P ops Q rest (act (put l o.dst v)) w') hk (fun hh=>ih _ _ _ (a0 _) hh) (fun hh=>ih _ _ _ (a0 _) hh)
     ·exact ih _ _ _ (a0 v) hk
    ·exact ih _ _ _ (a0 v) hk
   ·rename_i hw
    rw [hw]
    simp only [Bool.false_eq_true,if_false]
    rw [sD]
    exact ih _ _ _ (a0 _) h
/-! Orders of which S is known until the store that all loads are behind of. -/
def SI (S:World→Prop) (o:Oper):World→Prop:=if PL o=true then S else fun _=>True
theorem JW {P:Program} {S:World→Prop} {o:Oper} {l:Env} {K:Value→Prop} (h:zA P S o l K):∃ v,(∀ w,SI S o w→(execOp (ev l) o).run P w = .ok (.value v) w)∧K v:=by
 by_cases hl:PL o=true
 ·obtain ⟨v,hv,hk⟩:=Lt h
  exact ⟨v,fun w hS=>hv w (by unfold SI at hS;rwa [if_pos hl] at hS),hk⟩
 ·unfold zA at h
  split at h
  ·rename_i t a ho
   exact absurd (by unfold PL;rw [ho]) hl
  ·obtain ⟨v,hv,hk⟩:=BC h
   exact ⟨v,fun w _=>hv w,hk⟩
section
variable {P:Program} {ops:Array Oper} {Q:Exit→Act→World→Prop} {S:World→Prop}
def LR (S:World→Prop) (ops:Array Oper) (listed:Array Bool) (w:World):Prop:=S w∨∃ k,listed.getD k false=true∧Jb ops k=true
def pE (ops:Array Oper) (listed:Array Bool):Prop:=∀ k o,ops[k]?=some o→listed.getD k false=true→∀ e∈o.after,Region.binds .any e=true→listed.getD e.on false=true
theorem LJ (n:Nat):pE ops (Array.replicate n false):=fun k o _ hk=>by
 exfalso
 by_cases h:k<n
 ·simp [Array.getD,h] at hk
 ·simp [Array.getD,h] at hk
theorem mq {listed:Array Bool} {i:Nat} (h:pE ops listed) (hi:i∈Region.ready .any ops listed):pE ops (listed.setIfInBounds i true):=fun k o hk hl e he hb=>by
 by_cases a2:i=k
 ·subst a2
  obtain ⟨_,o',a0,a1⟩:=mem_ready.1 hi
  rw [hk] at a0
  injection a0 with a0
  subst a0
  exact getD_set_true (a1 e he hb)
 ·rw [getD_set_ne false a2] at hl
  exact getD_set_true (h k o hk hl e he hb)
theorem Pq {listed:Array Bool} {w:World} {i:Nat} {oi:Oper} (hc:pE ops listed) (hg:LR S ops listed w) (hi:ops[i]?=some oi) (hl:PL oi=true) (a0:listed.getD i true=false):S w:=by
 rcases hg with h|⟨k,hk,hL⟩
 ·exact h
 ·exfalso
  unfold Jb at hL
  split at hL
  ·rename_i o ho
   simp only [Bool.and_eq_true,List.all_eq_true,List.mem_range] at hL
   have h1:=hL.2 i (Array.getElem?_eq_some_iff.1 hi).1
   rw [hi] at h1
   simp only [hl,Bool.not_true,Bool.false_or,Array.any_eq_true] at h1
   obtain ⟨m,hm,he⟩:=h1
   simp only [Bool.and_eq_true,beq_iff_eq] at he
   have h2:=hc k o ho hk o.after[m] (Array.getElem_mem hm) he.2
   rw [he.1] at h2
   rcases Nat.lt_or_ge i listed.size with h'|h'
   ·simp [Array.getD,h'] at a0 h2
    rw [a0] at h2;cases h2
   ·simp [Array.getD,Nat.not_lt.2 h'] at h2
  ·cases hL
theorem Mj {listed:Array Bool} {w:World} {i:Nat} (h:LR S ops listed w):LR S ops (listed.setIfInBounds i true) w:=by
 rcases h with h|⟨k,hk,hL⟩
 ·exact .inl h
 ·exact .inr ⟨k,getD_set_true hk,hL⟩
def iw (P:Program) (ops:Array Oper) (Q:Exit→Act→World→Prop) (S:World→Prop):Nat→Array Bool→Act→World→Prop
 | 0,listed,a,w=>Region.ready .any ops listed=[]∧Q .normal a w
 | n+1,listed,a,w=>(Region.ready .any ops listed=[]→Q .normal a w) ∧
   ∀ j∈Region.ready .any ops listed,wpOp P ops Q j (fun b u=>LR S ops (listed.setIfInBounds j true) u∧iw P ops Q S n (listed.setIfInBounds j true) b u) a w
theorem Eh:∀ (n:Nat) (listed:Array Bool) (a:Act) (w:World),iw P ops Q S n listed a w→wpAny P .any ops Q n listed a w
 | 0,_,_,_,h=>h
 | n+1,_,_,_,h=>⟨h.1,fun j hj=>wpOp_mono (fun _ _ k=>Eh n _ _ _ k.2) (h.2 j hj)⟩
theorem Be {i:Nat} {oi:Oper} {v:Value} (hi:ops[i]?=some oi) (hn:Region.noSelect ops=true) (b2:Qu oi=false) (hQ:∀ c a w,¬ Q (.panic c) a w) :
  ∀ (n:Nat) (listed:Array Bool) (a:Act) (w:World),pE ops listed →
   (∀ j oj,ops[j]?=some oj→j≠i→listed.getD j true=false→(∀ e∈oj.after,Region.binds .any e=true→e.on≠i)→oi.apart ops oj=true) →
   i∈Region.ready .any ops listed→YieldsIf P ops (SI S oi) oi v a→LR S ops listed w →
   iw P ops Q S n (listed.setIfInBounds i true) (a.put oi.dst v) w→iw P ops Q S (n+1) listed a w:=by
 have hw:∀ {listed:Array Bool} {w:World},pE ops listed→i∈Region.ready .any ops listed→LR S ops listed w→SI S oi w:=fun {listed w} hc hr hg=>by
  unfold SI
  split
  ·rename_i hl;exact Pq hc hg hi hl (mem_ready.1 hr).1
  ·trivial
 intro n
 induction n with
 | zero =>
  intro listed a w hc _ hr hy hg H
  refine ⟨fun h=>(by rw [h] at hr;cases hr),fun j hj=>?_⟩
  by_cases a0:j=i
  ·subst a0;exact hy.wpOp hi (hw hc hr hg) ⟨Mj hg,H⟩
  ·have hx:=ready_mono hj a0
   rw [H.1] at hx
   cases hx
 | succ n ih =>
  intro listed a w hc a1 hr hy hg H
  refine ⟨fun h=>(by rw [h] at hr;cases hr),fun j hj=>?_⟩
  by_cases a0:j=i
  ·subst a0;exact hy.wpOp hi (hw hc hr hg) ⟨Mj hg,H⟩
  ·have h1:=H.2 j (ready_mono hj a0)
   obtain ⟨a2,oj,a4,a5⟩:=mem_ready.1 hj
   have a3:=(mem_ready.1 hr).1
   have a6:∀ e∈oj.after,Region.binds .any e=true→e.on≠i:=fun e he hb b3=>by
    have hx:=a5 e he hb
    rw [b3] at hx
    rcases Nat.lt_or_ge i listed.size with h'|h'
    ·simp [Array.getD,h'] at a3 hx
     rw [a3] at hx;cases hx
    ·simp [Array.getD,Nat.not_lt.2 h'] at hx
   have h2:=wpOp_putIf a4 (a1 j oj a4 a0 a2 a6) (fun cs b=>Region.noSelect_spec hn i oi cs b hi) (fun cs b=>Region.noSelect_spec hn j oj cs b a4) (fun c a w h=>absurd h (hQ c _ w)) hy h1
   refine wpOp_mono (fun b u h3=>?_) h2
   have a8:LR S ops (listed.setIfInBounds j true) u:=by
    rcases h3.2.1 with hs|⟨k,hk,hL⟩
    ·exact .inl hs
    ·refine .inr ⟨k,?_,hL⟩
     have a7:i≠k:=fun e=>by
      subst e
      unfold Jb at hL
      rw [hi] at hL
      simp [b2] at hL
     rwa [Array.setIfInBounds_comm _ _ (Ne.symm a0),getD_set_ne false a7] at hk
   refine ⟨a8,ih (listed.setIfInBounds j true) b u (mq hc hj) (fun k ok hk a7 b4 b5=>a1 k ok hk a7 ?_ b5) (ready_mono hr (Ne.symm a0)) h3.1 a8 ?_⟩
   ·by_cases a9:j=k
    ·subst a9;exact a2
    ·rwa [getD_set_ne true a9] at b4
   ·rw [Array.setIfInBounds_comm _ _ a0]
    exact h3.2.2
theorem rQ {rs:List Nat} {n:Nat} {listed:Array Bool} {a:Act} {w:World} (hr:Region.ready .any ops listed=rs) (a0:rs≠[])
  (h:∀ j∈rs,wpOp P ops Q j (fun b u=>LR S ops (listed.setIfInBounds j true) u∧iw P ops Q S n (listed.setIfInBounds j true) b u) a w):iw P ops Q S (n+1) listed a w:=by
 subst hr
 exact ⟨fun h0=>absurd h0 a0,h⟩
theorem Ct {S':World→Prop} {k:Nat} (hL:Jb ops k=true):∀ (n:Nat) {listed:Array Bool},listed.getD k false=true→∀ (a:Act) (w:World),iw P ops Q S' n listed a w→iw P ops Q S n listed a w
 | 0,_,_,_,_,h=>h
 | n+1,_,hk,_,_,h=>⟨h.1,fun j hj=>wpOp_mono (fun _ _ k3=>⟨.inr ⟨k,getD_set_true hk,hL⟩,Ct hL n (getD_set_true hk) _ _ k3.2⟩) (h.2 j hj)⟩
theorem IN {listed:Array Bool} {a:Act} {w:World} (hr:Region.ready .any ops listed=[]) (h:Q .normal a w):∀ n,iw P ops Q S n listed a w
 | 0=>⟨hr,h⟩
 | _+1=>⟨fun _=>h,by rw [hr];simp⟩
end
theorem SA {P:Program} (hP:Fit P) {ops:Array Oper} {K:RT→Env→World→Prop} {Q:Exit→Act→World→Prop} {M:Nat→Prop} {l0:Env} (hn:Region.noSelect ops=true)
  (hM:∀ (i:Nat) (o:Oper),ops[i]?=some o→∀ d,o.dst=some d→M d) (hK:∀ r l w,gh M l0 l→K r l w→Q .normal (act l) w) (hQ:∀ c a w,¬ Q (.panic c) a w) :
  ∀ (r:RT) (S:World→Prop),(∀ (fuel:Nat) (listed:Array Bool) (l:Env) (w:World),gh M l0 l→pE ops listed→S w→dV P ops r S fuel listed l w K→iw P ops Q S fuel listed (act l) w) ∧
   ∀ (n:Nat) (listed:Array Bool) (seen:List Nat) (l:Env) (w:World),gh M l0 l→pE ops listed→S w →
    (∀ i∈seen,i∈Region.ready .any ops listed→wpOp P ops Q i (fun a' w'=>LR S ops (listed.setIfInBounds i true) w'∧iw P ops Q S n (listed.setIfInBounds i true) a' w') (act l) w)→dV.dA P ops r S n listed seen l w K →
    ∀ i∈Region.ready .any ops listed,wpOp P ops Q i (fun a' w'=>LR S ops (listed.setIfInBounds i true) w'∧iw P ops Q S n (listed.setIfInBounds i true) a' w') (act l) w:=by
 have cond:∀ {i:Nat} {o:Oper} {listed:Array Bool},ops[i]?=some o→(Region.free .any ops listed i&&(Region.ready .any ops listed).contains i&&Hf ops i)=true→pE ops listed →
   Region.free .any ops listed i=true∧i∈Region.ready .any ops listed∧Qu o=false∧pE ops (listed.setIfInBounds i true):=by
  intro i o listed ho hc a0
  rw [Bool.and_eq_true,Bool.and_eq_true] at hc
  have hm:i∈Region.ready .any ops listed:=by simpa using hc.1.2
  refine ⟨hc.1.1,hm,?_,mq a0 hm⟩
  have h2:=hc.2
  unfold Hf at h2
  rw [ho] at h2
  simpa using h2
 have take:∀ {S:World→Prop} {i:Nat} {o:Oper} {n:Nat} {listed:Array Bool} {l:Env} {w:World} {X:Value→Prop},ops[i]?=some o→(Region.free .any ops listed i&&(Region.ready .any ops listed).contains i&&Hf ops i)=true→pE ops listed→S w →
   qO ops l o=true→zA P S o l X→(∀ v,X v→iw P ops Q S n (listed.setIfInBounds i true) (act (put l o.dst v)) w)→iw P ops Q S (n+1) listed (act l) w:=by
  intro S i o n listed l w X ho hc a0 hS hw hf hx
  obtain ⟨c1,c2,c3,_⟩:=cond ho hc a0
  obtain ⟨v,hv,hk⟩:=JW hf
  refine Be (v:=v) ho hn c3 hQ n listed _ w a0 (Region.free_spec ho c1) c2 (.inl ⟨by rw [rp];exact hw,fun w' a6=>by rw [EH];exact hv w' a6⟩) (.inl hS) ?_
  rw [sD];exact hx v hk
 have skip:∀ {S:World→Prop} {i:Nat} {o:Oper} {n:Nat} {listed:Array Bool} {l:Env} {w:World},ops[i]?=some o→(Region.free .any ops listed i&&(Region.ready .any ops listed).contains i&&Hf ops i)=true→pE ops listed→S w →
   qO ops l o=false→iw P ops Q S n (listed.setIfInBounds i true) (act (put l o.dst undef)) w→iw P ops Q S (n+1) listed (act l) w:=by
  intro S i o n listed l w ho hc a0 hS hw hx
  obtain ⟨c1,c2,c3,_⟩:=cond ho hc a0
  refine Be (v:=undef) ho hn c3 hQ n listed _ w a0 (Region.free_spec ho c1) c2 (.inr ⟨by rw [rp];exact hw,rfl⟩) (.inl hS) ?_
  rw [sD];exact hx
 have one:∀ {i:Nat} {o:Oper} {l:Env} {w:World} {X:Act→World→Prop},ops[i]?=some o→(match qO ops l o with|true=>qA P o l w fun v w'=>X (act (put l o.dst v)) w'|false=>X (act (put l o.dst undef)) w)→wpOp P ops Q i X (act l) w:=by
  intro i o l w X ho h
  unfold wpOp
  rw [ho]
  simp only [rp]
  split at h
  ·rename_i hw
   rw [hw]
   simp only [if_true]
   exact .inl ((tC hP h).wp fun v w' hk=>hk)
  ·rename_i hw
   rw [hw]
   simp only [Bool.false_eq_true,if_false]
   rw [sD];exact h
 have endA:∀ {S:World→Prop} {n:Nat} {listed:Array Bool} {seen:List Nat} {l:Env} {w:World},
   (∀ i∈seen,i∈Region.ready .any ops listed→wpOp P ops Q i (fun a' w'=>LR S ops (listed.setIfInBounds i true) w'∧iw P ops Q S n (listed.setIfInBounds i true) a' w') (act l) w) →
   (match (Region.ready .any ops listed).all fun i=>seen.contains i with|true=>True|false=>False) →
   ∀ i∈Region.ready .any ops listed,wpOp P ops Q i (fun a' w'=>LR S ops (listed.setIfInBounds i true) w'∧iw P ops Q S n (listed.setIfInBounds i true) a' w') (act l) w:=by
  intro S n listed seen l w hs h i hi
  split at h
  ·rename_i a3
   rw [List.all_eq_true] at a3
   exact hs i (by simpa using a3 i hi) hi
  ·exact h.elim
 intro r
 induction r with
 | nil=>exact fun S=>⟨fun fuel listed l w _ _ _ h=>by cases fuel <;> exact h.elim,fun n listed seen l w _ _ _ hs h=>endA hs (by simpa only [dV.dA] using h)⟩
 | at_ id i t f _ _=>exact fun S=>⟨fun fuel listed l w _ _ _ h=>by cases fuel <;> exact h.elim,fun n listed seen l w _ _ _ hs h=>endA hs (by simpa only [dV.dA] using h)⟩
 | c t f _ _=>exact fun S=>⟨fun fuel listed l w _ _ _ h=>by cases fuel <;> exact h.elim,fun n listed seen l w _ _ _ hs h=>endA hs (by simpa only [dV.dA] using h)⟩
 | k r _=>exact fun S=>⟨fun fuel listed l w _ _ _ h=>by cases fuel <;> exact h.elim,fun n listed seen l w _ _ _ hs h=>endA hs (by simpa only [dV.dA] using h)⟩
 | y r _=>exact fun S=>⟨fun fuel listed l w _ _ _ h=>by cases fuel <;> exact h.elim,fun n listed seen l w _ _ _ hs h=>endA hs (by simpa only [dV.dA] using h)⟩
 | n r _=>exact fun S=>⟨fun fuel listed l w _ _ _ h=>by cases fuel <;> exact h.elim,fun n listed seen l w _ _ _ hs h=>endA hs (by simpa only [dV.dA] using h)⟩
 | lp m r _=>exact fun S=>⟨fun fuel listed l w _ _ _ h=>by cases fuel <;> exact h.elim,fun n listed seen l w _ _ _ hs h=>endA hs (by simpa only [dV.dA] using h)⟩
 | cut n m r s _ _=>exact fun S=>⟨fun fuel listed l w _ _ _ h=>by cases fuel <;> exact h.elim,fun n listed seen l w _ _ _ hs h=>endA hs (by simpa only [dV.dA] using h)⟩
 | fin r _ =>
  intro S
  refine ⟨fun fuel listed l w ha a0 _ h=>?_,fun n listed seen l w _ _ _ hs h=>endA hs (by simpa only [dV.dA] using h)⟩
  simp only [dV] at h
  split at h
  ·rename_i hr
   exact IN hr (hK _ _ _ ha h) fuel
  ·exact h.elim
 | tk i r ih =>
  intro S
  refine ⟨fun fuel listed l w ha a0 hS h=>?_,fun n listed seen l w _ _ _ hs h=>endA hs (by simpa only [dV.dA] using h)⟩
  simp only [dV] at h
  split at h
  ·rename_i n o ho hc
   split at h
   ·rename_i hw
    exact take ho hc a0 hS hw h fun v hv=>(ih S).1 _ _ _ _ (ha.put (hM i o ho) v) (cond ho hc a0).2.2.2 hS hv
   ·rename_i hw
    exact skip ho hc a0 hS hw ((ih S).1 _ _ _ _ (ha.put (hM i o ho) _) (cond ho hc a0).2.2.2 hS h)
  ·exact h.elim
 | tks i t f iht ihf =>
  intro S
  refine ⟨fun fuel listed l w ha a0 hS h=>?_,fun n listed seen l w _ _ _ hs h=>endA hs (by simpa only [dV.dA] using h)⟩
  simp only [dV] at h
  split at h
  ·rename_i n o ho hc
   split at h
   ·rename_i hw
    exact take ho hc a0 hS hw h fun v hv=>BD (X:=fun v=>iw P ops Q S n (listed.setIfInBounds i true) (act (put l o.dst v)) w) hv
     (fun hh=>(iht S).1 _ _ _ _ (ha.put (hM i o ho) _) (cond ho hc a0).2.2.2 hS hh) (fun hh=>(ihf S).1 _ _ _ _ (ha.put (hM i o ho) _) (cond ho hc a0).2.2.2 hS hh)
   ·exact h.elim
  ·exact h.elim
 | alt i r more ih ihm =>
  intro S
  have step:∀ {n:Nat} {o:Oper} {listed:Array Bool} {l:Env} {w:World},ops[i]?=some o→gh M l0 l→pE ops (listed.setIfInBounds i true)→S w →
    (match qO ops l o with|true=>qA P o l w fun v w'=>S w'∧dV P ops r S n (listed.setIfInBounds i true) (put l o.dst v) w' K|false=>dV P ops r S n (listed.setIfInBounds i true) (put l o.dst undef) w K) →
    wpOp P ops Q i (fun a' w'=>LR S ops (listed.setIfInBounds i true) w'∧iw P ops Q S n (listed.setIfInBounds i true) a' w') (act l) w:=by
   intro n o listed l w ho ha a0 hS h
   unfold wpOp
   rw [ho]
   simp only [rp]
   split at h
   ·rename_i hw
    rw [hw]
    simp only [if_true]
    exact .inl ((tC hP h).wp fun v w' hk=>⟨.inl hk.1,(ih S).1 _ _ _ _ (ha.put (hM i o ho) v) a0 hk.1 hk.2⟩)
   ·rename_i hw
    rw [hw]
    simp only [Bool.false_eq_true,if_false]
    rw [sD];exact ⟨.inl hS,(ih S).1 _ _ _ _ (ha.put (hM i o ho) _) a0 hS h⟩
  refine ⟨fun fuel listed l w ha a0 hS h=>?_,fun n listed seen l w ha a0 hS hs h=>?_⟩
  ·simp only [dV] at h
   split at h
   ·rename_i n o j ho hc
    split at h
    ·rename_i hj
     refine rQ hc (by simp) (fun j' a1=>?_)
     simp only [List.mem_singleton] at a1
     subst a1
     have:j'=i:=by simpa using hj
     subst this
     exact step ho ha (mq a0 (by rw [hc];simp)) hS h
    ·exact h.elim
   ·rename_i n o x y z ho hc
    refine rQ rfl (fun h0=>by rw [h0] at hc;cases hc) ((ihm S).2 n listed [i] l w ha a0 hS (fun j hj a2=>?_) h.2)
    simp only [List.mem_singleton] at hj
    subst hj
    exact step ho ha (mq a0 a2) hS h.1
   ·exact h.elim
  ·simp only [dV.dA] at h
   split at h
   ·rename_i o ho
    refine (ihm S).2 n listed (i :: seen) l w ha a0 hS (fun j hj a2=>?_) h.2
    rcases List.mem_cons.1 hj with rfl|hj
    ·exact step ho ha (mq a0 a2) hS h.1
    ·exact hs j hj a2
   ·exact h.elim
 | alts i t f more iht ihf ihm =>
  intro S
  refine ⟨fun fuel listed l w ha a0 hS h=>?_,fun n listed seen l w _ _ _ hs h=>endA hs (by simpa only [dV.dA] using h)⟩
  have step:∀ {n:Nat} {o:Oper},ops[i]?=some o→i∈Region.ready .any ops listed→(match qO ops l o with|true=>qA P o l w fun v w'=>S w'∧DO v (dV P ops t S n (listed.setIfInBounds i true) (put l o.dst (.bool true)) w' K) (dV P ops f S n (listed.setIfInBounds i true) (put l o.dst (.bool false)) w' K)|false=>False) →
    wpOp P ops Q i (fun a' w'=>LR S ops (listed.setIfInBounds i true) w'∧iw P ops Q S n (listed.setIfInBounds i true) a' w') (act l) w:=by
   intro n o ho a4 h1
   unfold wpOp
   rw [ho]
   simp only [rp]
   split at h1
   ·rename_i hw
    rw [hw]
    simp only [if_true]
    exact .inl ((tC hP h1).wp fun v w' hk=>⟨.inl hk.1,BD (X:=fun v=>iw P ops Q S n (listed.setIfInBounds i true) (act (put l o.dst v)) w') hk.2
     (fun hh=>(iht S).1 _ _ _ _ (ha.put (hM i o ho) _) (mq a0 a4) hk.1 hh) (fun hh=>(ihf S).1 _ _ _ _ (ha.put (hM i o ho) _) (mq a0 a4) hk.1 hh)⟩)
   ·exact h1.elim
  simp only [dV] at h
  split at h
  ·rename_i n o j ho hc
   split at h
   ·rename_i hj
    refine rQ hc (by simp) (fun j' a1=>?_)
    simp only [List.mem_singleton] at a1
    subst a1
    have:j'=i:=by simpa using hj
    subst this
    exact step ho (by rw [hc];simp) h
   ·exact h.elim
  ·rename_i n o x y z ho hc
   refine rQ rfl (fun h0=>by rw [h0] at hc;cases hc) ((ihm S).2 n listed [i] l w ha a0 hS (fun j hj a2=>?_) h.2)
   simp only [List.mem_singleton] at hj
   subst hj
   exact step ho a2 h.1
  ·exact h.elim
 | last i r ih =>
  intro S
  refine ⟨fun fuel listed l w ha a0 hS h=>?_,fun n listed seen l w _ _ _ hs h=>endA hs (by simpa only [dV.dA] using h)⟩
  simp only [dV] at h
  split at h
  ·rename_i n o j ho hc hL
   split at h
   ·rename_i hj hw
    have a7:j=i:=by simpa using hj
    subst a7
    refine rQ hc (by simp) (fun j' a1=>?_)
    simp only [List.mem_singleton] at a1
    subst a1
    unfold wpOp
    rw [ho]
    simp only [rp,hw,if_true]
    have a8:=(mem_ready.1 (show j'∈Region.ready .any ops listed by rw [hc];simp)).1
    have a9:j'<listed.size:=by
     rcases Nat.lt_or_ge j' listed.size with h'|h'
     ·exact h'
     ·simp [Array.getD,Nat.not_lt.2 h'] at a8
    have a5:(listed.setIfInBounds j' true).getD j' false=true:=by simp [Array.getD,a9]
    refine .inl ((tC hP h).wp fun v w' hk=>⟨.inr ⟨j',a5,hL⟩,Ct hL _ a5 _ _ ((ih (fun _=>True)).1 _ _ _ _ (ha.put (hM j' o ho) v) (mq a0 (by rw [hc];simp)) trivial hk)⟩)
   ·exact h.elim
  ·exact h.elim
theorem JK {m:AW} {l l':Env} (h:gh (fun t=>QF m t=true) l l'):agree m l l' :=
 ⟨h.1,fun t ht=>h.2 t (fun hi=>by
  simp only [QF,List.any_eq_true] at hi
  obtain ⟨e,he,h2⟩:=hi
  have:=List.all_eq_true.1 ht e he
  rw [h2] at this;simp at this)⟩
theorem gh.sub {M M':Nat→Prop} {l0 l l':Env} (h0:gh M' l0 l) (h:gh M l l') (hs:∀ t,M t→M' t):gh M' l0 l' :=
 ⟨h.1.trans h0.1,fun t ht=>(h.2 t (fun hm=>ht (hs t hm))).trans (h0.2 t ht)⟩
def yt.off (M:Nat→Prop) (l0:Env) (Q:yt):yt:=fun e r l w=>gh M l0 l∧Q e r l w
theorem Pr {P:Program} (hP:Fit P):∀ (c:Code) {M:Nat→Prop} {l0:Env} (r:RT) (Q:yt) (l:Env) (w:World),Wr M c→gh M l0 l→np P c r Q l w→c.wp P (yt.lift (yt.off M l0 Q)) (act l) w:=by
 intro c
 induction c with
 | skip =>
  intro M l0 r Q l w _ ha h
  exact wp_skip ⟨r,l,rfl,ha,h⟩
 | region id ops d =>
  intro M l0 r Q l w hM ha h
  cases d with
  | false =>
   exact wp_region (QS hP (M:=M) (l0:=l0) (fun i o ho d hd=>hM i o ho d hd) (fun r l w ha hq=>⟨r,l,rfl,ha,hq⟩) _ _ _ _ ha h)
  | true =>
   simp only [np] at h
   split at h
   ·rename_i hn
    obtain ⟨S,h⟩:=h
    obtain ⟨hS,h⟩:=h _ rfl
    exact wp_region_any hP.mixed (Eh _ _ _ _ ((SA hP hn (M:=M) (l0:=l0) (fun i o ho d hd=>hM i o ho d hd) (fun r l w ha hq=>⟨r,l,rfl,ha,hq⟩) (fun c a w h=>h) r S).1 _ _ _ _ ha (LJ _) hS h))
   ·exact h.elim
 | seq a b iha ihb =>
  intro M l0 r Q l w hM ha h
  have plain:∀ (r1:RT),np P a r1 (Nh Q fun r l w=>np P b r Q l w) l w→(Code.seq a b).wp P (yt.lift (yt.off M l0 Q)) (act l) w:=by
   intro r1 h
   refine wp_seq (wp_mono (iha r1 _ l w hM.1 ha h) fun e a' w' hq=>?_)
   cases e with
   | normal =>
    obtain ⟨r',l',rfl,a0,hq⟩:=hq
    exact ihb r' Q l' w' hM.2 a0 hq
   | panic c=>exact hq
   | outgrown=>exact hq
   | _=>obtain ⟨r',l',rfl,a0,hq⟩:=hq;exact ⟨r',l',rfl,a0,hq⟩
  unfold np at h
  split at h
  ·rename_i m r1 s
   split at h
   ·rename_i hm
    obtain ⟨I,h1,h2⟩:=h
    simp only [Mc,Bool.and_eq_true,decide_eq_true_eq] at hm
    refine wp_seq (wp_mono (iha r1 _ l w (oD hm.1.2) (gh.refl _ l) h1) fun e a' w' hq=>?_)
    have up:∀ {l':Env},gh (fun t=>QF m t=true) l l'→gh M l0 l':=fun h=>ha.sub h (fun t ht=>by
     simp only [QF,List.any_eq_true] at ht
     obtain ⟨x,hx,h2⟩:=ht
     have:=pQ (List.all_eq_true.1 hm.2 x hx) hM.1
     have e2:x.1=t:=by simpa using h2
     exact e2▸this)
    cases e with
    | normal =>
     obtain ⟨r',l',rfl,a0,hq⟩:=hq
     unfold Nh Sr at hq
     simp only at hq
     split at hq
     ·rename_i p hp
      have:=Bh (h2 (fun d=>nth l' d)) (fun _=>rfl) (JK a0) hm.1.1 hp w' hq
      exact ihb s Q l' w' hM.2 (up a0) this
     ·exact hq.elim
    | panic c=>exact hq
    | outgrown=>exact hq
    | _=>obtain ⟨r',l',rfl,a0,hq⟩:=hq;exact ⟨r',l',rfl,up a0,hq⟩
   ·exact h.elim
  ·exact plain _ h
  ·exact plain _ h
 | cond x a b iha ihb =>
  intro M l0 r Q l w hM ha h
  have he:=congrFun (EH l) x
  simp only [np] at h
  split at h
  ·split at h
   ·rename_i v hv
    refine wp_cond_split (t:=v) (he.trans hv) (fun ht=>iha _ Q l w hM.1 ha (h.1 ht)) (fun hf=>ihb _ Q l w hM.2 ha (h.2 hf))
   ·exact h.elim
  ·split at h
   ·rename_i hv;exact wp_cond_true (he.trans hv) (iha _ Q l w hM.1 ha h)
   ·rename_i hv;exact wp_cond_false (he.trans hv) (ihb _ Q l w hM.2 ha h)
   ·exact h.elim
  ·split at h
   ·rename_i v hv
    obtain ⟨rfl,h⟩:=h
    exact wp_cond_true (he.trans hv) (iha _ Q l w hM.1 ha h)
   ·exact h.elim
  ·split at h
   ·rename_i v hv
    obtain ⟨rfl,h⟩:=h
    exact wp_cond_false (he.trans hv) (ihb _ Q l w hM.2 ha h)
   ·exact h.elim
  ·exact h.elim
 | block id a iha =>
  intro M l0 r Q l w hM ha h
  refine wp_block (wp_mono (iha r _ l w hM ha h) fun e a' w' hq=>?_)
  cases e with
  | exit id' =>
   obtain ⟨r',l',rfl,a0,hq⟩:=hq
   simp only [Pg] at hq
   simp only [Exit.inBlock]
   split
   ·rename_i he;rw [if_pos he] at hq;exact ⟨r',l',rfl,a0,hq⟩
   ·rename_i he;rw [if_neg he] at hq;exact ⟨r',l',rfl,a0,hq⟩
  | panic c=>exact hq
  | outgrown=>exact hq
  | _=>obtain ⟨r',l',rfl,a0,hq⟩:=hq;exact ⟨r',l',rfl,a0,hq⟩
 | loop a iha =>
  intro M l0 r Q l w hM ha h
  simp only [np] at h
  split at h
  ·rename_i m r1
   split at h
   ·rename_i hm
    obtain ⟨I,⟨k0,h0⟩,h2⟩:=h
    simp only [Mc,Bool.and_eq_true,decide_eq_true_eq] at hm
    have up:∀ {l':Env},gh (fun t=>QF m t=true) l l'→gh M l0 l':=fun h=>ha.sub h (fun t ht=>by
     simp only [QF,List.any_eq_true] at ht
     obtain ⟨x,hx,h2⟩:=ht
     have:=pQ (List.all_eq_true.1 hm.2 x hx) hM
     have e2:x.1=t:=by simpa using h2
     exact e2▸this)
    refine wp_loop_ghost (fun k a' w'=>∃ l',a'=act l'∧gh (fun t=>QF m t=true) l l'∧Sr m I l' fun p=>p k w') k0 ⟨l,rfl,gh.refl _ l,h0⟩ ?_
    rintro k a' w' ⟨l',rfl,a0,hI⟩
    unfold Sr at hI
    split at hI
    ·rename_i p hp
     have hc:=Bh (h2 (fun d=>nth l' d)) (fun _=>rfl) (JK a0) hm.1.1 hp k w' hI
     refine wp_mono (iha r1 _ l' w' (oD hm.1.2) a0 hc) fun e a'' w'' hq=>?_
     cases e with
     | normal =>
      obtain ⟨r',l'',rfl,a1,k',hk,a2⟩:=hq
      exact ⟨k',hk,l'',rfl,a1,a2⟩
     | panic c=>exact hq
     | outgrown=>exact hq
     | _=>obtain ⟨r',l'',rfl,a1,hq⟩:=hq;exact ⟨r',l'',rfl,up a1,hq⟩
    ·exact hI.elim
   ·exact h.elim
  ·exact h.elim
 | exit id=>intro M l0 r Q l w _ ha h;exact wp_exit ⟨r,l,rfl,ha,h⟩
 | ret=>intro M l0 r Q l w _ ha h;exact wp_ret ⟨r,l,rfl,ha,h⟩
 | rangeFunc f ps a b _ _=>intro M l0 r Q l w _ ha h;exact h.elim
 | scope a _=>intro M l0 r Q l w _ ha h;exact h.elim
 | label i=>intro M l0 r Q l w _ ha h;exact h.elim
 | goto i=>intro M l0 r Q l w _ ha h;exact h.elim
 | refuse s=>intro M l0 r Q l w _ ha h;exact h.elim
def KP (P:Program) (w:World):List ResultVar→Env→(List Value→Prop)→Prop
 | [],_,K=>K []
 | .tmp t :: r,l,K=>KP P w r l fun vs=>K (nth l t :: vs)
 | .cell a t :: r,l,K=>match nth l a with
  | .pointer (some ad)=>Og P t w ad fun v=>KP P w r l fun vs=>K (v :: vs)
  | _=>False
def Nt:List Value→Value
 | [v]=>v
 | vs => .tuple vs.toArray
def Sx (P:Program) (fn:Func) (R:Value→World→Prop):yt
 | .normal,_,l,w=>KP P w fn.results.toList l fun vs=>R (Nt vs) w
 | .ret,_,l,w=>KP P w fn.results.toList l fun vs=>R (Nt vs) w
 | _,_,_,_=>False
def DC:Nat→List Value
 | 0=>[]
 | n+1=>undef :: DC n
def Tg (P:Program) (fn:Func) (r:RT) (args:List Value) (w:World) (R:Value→World→Prop):Prop :=
 match fn.body with
 | some c=>np P c r (Sx P fn R) (args++DC (fn.ntmps-args.length)) w
 | none=>False
theorem GW:∀ n,DC n=List.replicate n undef
 | 0=>rfl
 | n+1=>by rw [DC,GW n];rfl
theorem DM {P:Program} {l:Env} {w:World}:∀ {rs:List ResultVar} {K:List Value→Prop},KP P w rs l K →
  ∃ vs,(rs.mapM (fun (x:ResultVar)=>match x with
   | .tmp t=>(pure ((act l).tmps.getD t undef):Sem Value)
   | .cell a t=>do loadVar t (← asAddr ((act l).tmps.getD a undef)))).run P w = .ok vs w∧K vs
 | [],K,h=>⟨[],rfl,h⟩
 | .tmp t :: r,K,h=>by
  obtain ⟨vs,hv,hk⟩:=DM (rs:=r) h
  refine ⟨_,?_,hk⟩
  rw [List.mapM_cons,Sem.run_bind]
  have:(nth l t)=(act l).tmps.getD t undef:=HG l t
  simp only [Sem.run_pure,Result.andThen]
  rw [Sem.run_bind,hv]
  simp only [Result.andThen,Sem.run_pure,← this]
 | .cell a t :: r,K,h=>by
  simp only [KP] at h
  split at h
  ·rename_i ad a0
   obtain ⟨v,hv,hk⟩:=Hb h
   obtain ⟨vs,a1,hk⟩:=DM (rs:=r) hk
   refine ⟨_,?_,hk⟩
   rw [List.mapM_cons,Sem.run_bind]
   have e:(act l).tmps.getD a undef = .pointer (some ad):=(HG l a).symm.trans a0
   have h1:(do loadVar t (← asAddr ((act l).tmps.getD a undef)):Sem Value).run P w = .ok v w:=by
    rw [e];exact hv
   simp only []
   rw [h1]
   simp only [Result.andThen]
   rw [Sem.run_bind,a1]
   simp only [Result.andThen,Sem.run_pure]
  ·exact h.elim
theorem CA {P:Program} {fn:Func} {l:Env} {w:World} {K:Value→Prop} (h:KP P w fn.results.toList l fun vs=>K (Nt vs)):∃ v,(results fn (act l).tmps).run P w = .ok v w∧K v:=by
 obtain ⟨vs,hv,hk⟩:=DM h
 refine ⟨_,?_,hk⟩
 unfold results
 rw [Sem.run_bind,← Array.toArray_toList (xs:=fn.results),List.mapM_toArray]
 rw [Sem.run_map]
 erw [hv]
 simp only [Result.andThen,Sem.run_pure]
 cases vs with
 | nil=>simp [Nt]
 | cons x y=>cases y with
  | nil=>simp [Nt]
  | cons a b=>simp [Nt]
theorem Qi {P:Program} (hP:Fit P) {f:FuncId} {fn:Func} (hf:P.funcs[f]?=some fn) (r:RT) {args:Array Value} {w:World} {R:Value→World→Prop} (h:Tg P fn r args.toList w R) :
  Calls P f args w (bc R):=by
 unfold Tg at h
 split at h
 ·rename_i c hb
  refine calls_of_wp hf hb ?_
  have a0:({ tmps:=args++Array.replicate (fn.ntmps-args.size) undef,defers:=[] }:Act)=act (args.toList++DC (fn.ntmps-args.toList.length)):=by
   unfold act
   congr 1
   rw [GW]
   apply Array.ext';simp
  rw [a0]
  refine wp_mono (Pr hP c (M:=fun _=>True) r _ _ w (Wr.all c) (gh.refl _ _) h) fun e a' w' hq=>?_
  cases e with
  | normal =>
   obtain ⟨r',l',rfl,_,hq⟩:=hq
   obtain ⟨v,hv,hk⟩:=CA (K:=fun v=>R v w') hq
   exact ⟨rfl,v,hv,hk⟩
  | ret =>
   obtain ⟨r',l',rfl,_,hq⟩:=hq
   obtain ⟨v,hv,hk⟩:=CA (K:=fun v=>R v w') hq
   exact ⟨rfl,v,hv,hk⟩
  | panic c=>exact hq.elim
  | outgrown=>exact hq.elim
  | exit id=>obtain ⟨r',l',rfl,_,hq⟩:=hq;exact hq.elim
  | goto i=>obtain ⟨r',l',rfl,_,hq⟩:=hq;exact hq.elim
 ·exact h.elim
end Go.Proofs.YtkbikekbaboclaaGreat.V
