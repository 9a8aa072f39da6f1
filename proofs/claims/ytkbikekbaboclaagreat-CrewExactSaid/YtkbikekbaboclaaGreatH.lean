import Derived.Test.YtkbikekbaboclaaGreatV
import Derived.Maps.AppendAt
import Derived.ProofKit
set_option linter.unusedVariables false
set_option linter.unusedSimpArgs false
namespace Go.Proofs.YtkbikekbaboclaaGreat.V
open Go Go.RowKit
/-! Memory: what a step changes,and what stays. -/
structure Ch (F:Nat→Prop) (w w':World):Prop where
 os:w'.os=w.os
 tape:w'.tape=w.tape
 output:w'.output=w.output
 size:w.heap.size≤w'.heap.size
 block:∀ k,k<w.heap.size→¬ F k→w'.heap[k]?=w.heap[k]?
abbrev ah:Nat→Prop:=fun _=>False
section
variable {F G:Nat→Prop} {a b c w w':World}
theorem Ch.refl (F:Nat→Prop) (w:World):Ch F w w:=⟨rfl,rfl,rfl,Nat.le_refl _,fun _ _ _=>rfl⟩
theorem Ch.trans (h:Ch F a b) (k:Ch G b c) (hg:∀ i,i<a.heap.size→G i→F i):Ch F a c :=
 ⟨k.os.trans h.os,k.tape.trans h.tape,k.output.trans h.output,Nat.le_trans h.size k.size,
  fun i hi hn=>(k.block i (Nat.lt_of_lt_of_le hi h.size) (fun hG=>hn (hg i hi hG))).trans (h.block i hi hn)⟩
theorem Ch.mono (h:Ch F a b) (hg:∀ i,i<a.heap.size→F i→G i):Ch G a b:=⟨h.os,h.tape,h.output,h.size,fun i hi hn=>h.block i hi (fun hf=>hn (hg i hi hf))⟩
theorem Ch.any (h:Ch ah a b):Ch F a b:=h.mono (fun _ _ h=>h.elim)
theorem Ch.ag (h:Ch F a b) (k:Ch ah b c):Ch F a c:=h.trans k (fun _ _ h=>h.elim)
theorem Ch.same (h:Ch F a b) (k:Ch F b c):Ch F a c:=h.trans k (fun _ _ h=>h)
theorem Ch.below {B:Nat} (h:Ch F w w') (hB:B≤w.heap.size) (hF:∀ i,i<B→¬ F i):Below B w w' :=
 ⟨h.os,h.tape,h.output,h.size,fun i hi=>h.block i (Nat.lt_of_lt_of_le hi hB) (hF i hi)⟩
theorem Ch.AG (h:Below w.heap.size w w'):Ch ah w w':=⟨h.os,h.tape,h.output,h.size,fun i hi _=>h.block i hi⟩
theorem Ch.set {p:Addr} {v:Value} (e:w'=w.setCell p v) (hF:F p.block):Ch F w w':=by
 subst e
 exact ⟨rfl,rfl,rfl,by simp [World.setCell],fun i _ hn=>Below.heap_setCell w p v i (fun h=>hn (h▸hF))⟩
theorem Ch.alloc {o:Obj} (e:w'=w.alloc o):Ch F w w':=by
 subst e
 exact ⟨rfl,rfl,rfl,by simp,fun i hi _=>Below.heap_alloc w o i hi⟩
theorem Ch.drew (e:w'=w.drew):Ch F w w':=by
 subst e
 exact ⟨rfl,rfl,rfl,Nat.le_refl _,fun _ _ _=>rfl⟩
theorem Ch.grown {row:Option Nat} (h:w.grownBy w' row) (hF:∀ i,row=some i→F i):Ch F w w' :=
 ⟨h.os,h.tape,h.output,h.size,fun i hi hn=>h.block i hi (fun e=>hn (hF i e.symm))⟩
end
/-! A block of cells. -/
def ba (w:World) (b:Nat) (cs:List Value) (T:Nat):Prop:=w.heap[b]?=some (.cells cs.toArray T (0,0))
section
variable {w w':World} {b:Nat} {cs:List Value} {T:Nat}
theorem ba.lt (h:ba w b cs T):b<w.heap.size:=(Array.getElem?_eq_some_iff.1 h).1
theorem ba.cell (h:ba w b cs T) (o:Nat) {v:Value} (hv:cs[o]?=some v):w.cell? ⟨b,o,none⟩=some v:=by
 unfold World.cell?
 rw [show w.heap[(⟨b,o,none⟩:Addr).block]?=_ from h]
 simpa using hv
theorem ba.cells (h:ba w b cs T) (o:Nat):w.cell? ⟨b,o,none⟩=cs[o]?:=by
 unfold World.cell?
 rw [show w.heap[(⟨b,o,none⟩:Addr).block]?=_ from h]
 simp
theorem ba.frozen (h:ba w b cs T) (p:Addr) (hp:p.block=b):w.frozen? p=false:=by
 unfold World.frozen?
 rw [hp,show w.heap[b]?=_ from h]
 simp
theorem ba.ok (h:ba w b cs T) (o:Nat) {v:Value} (hv:cs[o]?=some v):(∃ u,w.cell? ⟨b,o,none⟩=some u)∧w.frozen? ⟨b,o,none⟩=false :=
 ⟨⟨v,h.cell o hv⟩,h.frozen _ rfl⟩
theorem ba.af {F:Nat→Prop} (h:ba w b cs T) (hc:Ch F w w') (hF:¬ F b):ba w' b cs T:=(hc.block b h.lt hF).trans h
theorem ba.aa (h:ba w b cs T) (hc:Ch ah w w'):ba w' b cs T:=h.af hc id
theorem ba.set (h:ba w b cs T) {o:Nat} {v:Value} (e:w'=w.setCell ⟨b,o,none⟩ v):ba w' b (cs.set o v) T:=by
 subst e
 unfold ba World.setCell at *
 simp only [Array.getElem?_modify]
 rw [if_pos trivial,h]
 simp
theorem ba.alloc (h:ba w b cs T) {o:Obj} (e:w'=w.alloc o):ba w' b cs T:=by
 subst e
 exact (Below.heap_alloc w o b h.lt).trans h
theorem ba.drew (h:ba w b cs T) (e:w'=w.drew):ba w' b cs T:=by subst e;exact h
theorem ba.new {c:Array Value} (e:w'=w.alloc (.cells c T (0,0))):ba w' w.heap.size c.toList T:=by
 subst e
 unfold ba
 show (w.heap.push _)[w.heap.size]?=_
 simp
end
theorem eh (g o j:Nat):(⟨g,o,none⟩:Addr).add j=⟨g,o+j,none⟩:=by unfold Addr.add;split <;> simp_all
/-! A slice's cells,that are read: of blocks of F. -/
def Rd (w:World) (o:OA) (cs:List Value) (F:Nat→Prop):Prop :=
 ∀ (j:Nat) (v:Value),cs[j]?=some v→∃ ad:Addr,o=some ad∧F ad.block∧ad.block<w.heap.size∧w.cell? (ad.add j)=some v
theorem oh (a:Addr) (n:Nat):(a.add n).block=a.block:=by unfold Addr.add;split <;> rfl
theorem sS {w w':World} {p:Addr} (h:w'.heap[p.block]?=w.heap[p.block]?):w'.cell? p=w.cell? p:=by simp [World.cell?,h]
section
variable {w w':World} {o:OA} {cs:List Value} {F G:Nat→Prop}
theorem Rd.nil (w:World) (o:OA) (F:Nat→Prop):Rd w o [] F:=fun j v h=>by simp at h
theorem Rd.af (h:Rd w o cs F) (hc:Ch G w w') (hd:∀ i,i<w.heap.size→F i→¬ G i):Rd w' o cs F:=fun j v hj=>by
 obtain ⟨ad,ho,hF,hl,a0⟩:=h j v hj
 exact ⟨ad,ho,hF,Nat.lt_of_lt_of_le hl hc.size,(sS (w:=w) (w':=w') (by rw [oh];exact hc.block _ hl (hd _ hl hF))).trans a0⟩
theorem Rd.aa (h:Rd w o cs F) (hc:Ch ah w w'):Rd w' o cs F:=h.af hc (fun _ _ _=>id)
theorem Rd.mono (h:Rd w o cs F) (hg:∀ i,i<w.heap.size→F i→G i):Rd w o cs G:=fun j v hj=>by
 obtain ⟨ad,ho,hF,hl,r⟩:=h j v hj
 exact ⟨ad,ho,hg _ hl hF,hl,r⟩
theorem Rd.at (h:Rd w o cs F) {j:Nat} {v:Value} (hj:cs[j]?=some v) {K:Addr→Prop} (hk:∀ p:Addr,w.cell? (p.add j)=some v→K p):jr o K:=by
 obtain ⟨ad,rfl,_,_,hc⟩:=h j v hj
 exact hk ad hc
end
/-! A slice of one's own: its n elements have sz cells each,cs are all of them;it may be appended to,its elements written. -/
def Own (w:World) (e sz:Nat) (o:OA) (n c:Nat) (cs:List Value) (F:Nat→Prop):Prop :=
 cs.length=n*sz∧n≤c∧c≤maxLen ∧
 ((o=none∧c=0)∨∃ (g off:Nat) (cur:List Value),o=some ⟨g,off,none⟩∧F g∧ba w g cur e∧off+c*sz≤cur.length∧(cur.drop off).take (n*sz)=cs)
section
variable {w w':World} {e sz n c:Nat} {o:OA} {cs:List Value} {F G:Nat→Prop}
theorem Own.nil (w:World) (e sz:Nat) (F:Nat→Prop):Own w e sz none 0 0 [] F:=⟨by simp,Nat.le_refl _,Nat.zero_le _,.inl ⟨rfl,rfl⟩⟩
theorem Own.len (h:Own w e sz o n c cs F):cs.length=n*sz:=h.1
theorem Own.af (h:Own w e sz o n c cs F) (hc:Ch G w w') (hd:∀ i,i<w.heap.size→F i→¬ G i):Own w' e sz o n c cs F:=by
 obtain ⟨h1,h2,h3,h4⟩:=h
 refine ⟨h1,h2,h3,?_⟩
 rcases h4 with h4|⟨g,off,cur,ho,hF,hb,r⟩
 ·exact .inl h4
 ·exact .inr ⟨g,off,cur,ho,hF,hb.af hc (hd g hb.lt hF),r⟩
theorem Own.aa (h:Own w e sz o n c cs F) (hc:Ch ah w w'):Own w' e sz o n c cs F:=h.af hc (fun _ _ _=>id)
theorem Own.mono (h:Own w e sz o n c cs F) (hg:∀ i,i<w.heap.size→F i→G i):Own w e sz o n c cs G:=by
 obtain ⟨h1,h2,h3,h4⟩:=h
 refine ⟨h1,h2,h3,?_⟩
 rcases h4 with h4|⟨g,off,cur,ho,hF,hb,r⟩
 ·exact .inl h4
 ·exact .inr ⟨g,off,cur,ho,hg _ hb.lt hF,hb,r⟩
theorem Own.Jw (h:Own w e sz o n c cs F):Own w e sz o n c cs (fun i=>F i∧i<w.heap.size):=h.mono (fun i hi hF=>⟨hF,hi⟩)
theorem Own.rd (h:Own w e sz o n c cs F):Rd w o cs F:=fun j v hj=>by
 obtain ⟨h1,h2,h3,h4⟩:=h
 rcases h4 with ⟨rfl,rfl⟩|⟨g,off,cur,rfl,hF,hb,hl,ht⟩
 ·have:n=0:=by omega
  subst this
  have:cs=[]:=List.eq_nil_of_length_eq_zero (by simpa using h1)
  subst this
  simp at hj
 ·refine ⟨_,rfl,hF,hb.lt,?_⟩
  rw [eh]
  refine hb.cell _ ?_
  rw [← ht,List.getElem?_take] at hj
  split at hj
  ·rw [List.getElem?_drop] at hj;exact hj
  ·cases hj
theorem Own.slice (h:Own w e sz o n c cs F) {lo hi:Nat} (h1:lo≤hi) (h2:hi≤n) :
  Own w e sz (if c=lo then o else o.map (·.add (lo*sz))) (hi-lo) (c-lo) ((cs.drop (lo*sz)).take ((hi-lo)*sz)) F:=by
 obtain ⟨a1,a2,a3,a4⟩:=h
 have a5:hi*sz≤n*sz:=Nat.mul_le_mul_right _ h2
 have a0:(hi-lo)*sz=hi*sz-lo*sz:=Nat.sub_mul _ _ _
 have a6:lo*sz≤hi*sz:=Nat.mul_le_mul_right _ h1
 refine ⟨by rw [List.length_take,List.length_drop,a1];omega,by omega,by omega,?_⟩
 rcases a4 with ⟨rfl,rfl⟩|⟨g,off,cur,rfl,hF,hb,hl,ht⟩
 ·exact .inl ⟨by simp,by omega⟩
 ·right
  by_cases hc:c=lo
  ·rw [if_pos hc]
   have hz:hi-lo=0:=by omega
   refine ⟨g,off,cur,rfl,hF,hb,?_,?_⟩
   ·subst hc;simp;omega
   ·rw [hz];simp
  ·rw [if_neg hc]
   refine ⟨g,off+lo*sz,cur,by simp [eh],hF,hb,?_,?_⟩
   ·have:(c-lo)*sz=c*sz-lo*sz:=Nat.sub_mul _ _ _
    have:lo*sz≤c*sz:=Nat.mul_le_mul_right _ (by omega)
    omega
   ·rw [← ht,List.drop_take,List.take_take,List.drop_drop]
    congr 1
    omega
theorem Own.set (h:Own w e sz o n c cs F) {j:Nat} (hj:j<cs.length) {p:Addr} (hp:o=some p) {v:Value} (ew:w'=w.setCell (p.add j) v) :
  Own w' e sz o n c (cs.set j v) F∧Ch F w w':=by
 obtain ⟨a1,a2,a3,a4⟩:=h
 rcases a4 with ⟨rfl,rfl⟩|⟨g,off,cur,rfl,hF,hb,hl,ht⟩
 ·cases hp
 ·have e1:p=⟨g,off,none⟩:=(Option.some.inj hp).symm
  subst e1
  rw [eh] at ew
  refine ⟨⟨by simpa using a1,a2,a3,.inr ⟨g,off,cur.set (off+j) v,rfl,hF,hb.set ew,by simpa using hl,?_⟩⟩,Ch.set ew hF⟩
  rw [← ht,List.drop_set,if_neg (by omega),List.take_set]
  congr 1;omega
theorem Own.ok (h:Own w e sz o n c cs F) {j:Nat} {v:Value} (hj:cs[j]?=some v) {p:Addr} (hp:o=some p):(∃ u,w.cell? (p.add j)=some u)∧w.frozen? (p.add j)=false:=by
 obtain ⟨ad,ho,_,_,hc⟩:=h.rd j v hj
 have e1:ad=p:=Option.some.inj (ho.symm.trans hp)
 subst e1
 refine ⟨⟨v,hc⟩,?_⟩
 obtain ⟨a1,a2,a3,a4⟩:=h
 rcases a4 with ⟨rfl,rfl⟩|⟨g,off,cur,rfl,hF,hb,hl,ht⟩
 ·cases ho
 ·have e1:ad=⟨g,off,none⟩:=(Option.some.inj ho).symm
  subst e1
  exact hb.frozen _ (by rw [eh])
theorem Own.made {cells:Array Value} (ew:w'=w.alloc (.cells cells e (0,0))) (hn:cells.size=n*sz) (hm:n≤maxLen) (hF:F w.heap.size) :
  Own w' e sz (some ⟨w.heap.size,0,none⟩) n n cells.toList F :=
 ⟨by simpa using hn,Nat.le_refl _,hm,.inr ⟨_,0,cells.toList,rfl,hF,ba.new ew,by simp [hn],by rw [List.drop_zero,List.take_of_length_le (by simp [hn])]⟩⟩
end
theorem Own.ofRow {w:World} {base e sz n:Nat} {v:Value} {xs:List Value} (h:w.ownsRow base e sz v n xs):∃ (o:OA) (c:Nat),v = .slice o n c∧Own w e sz o n c xs (fun i=>base≤i∧v.ownBlock=some i):=by
 obtain ⟨h1,h2⟩:=h
 rcases h2 with ⟨rfl,rfl⟩|⟨g,cap,cur,rfl,hb,hg,hn,hc,hs,ht⟩
 ·exact ⟨none,0,rfl,by simpa using h1,Nat.le_refl _,Nat.zero_le _,.inl ⟨rfl,rfl⟩⟩
 ·exact ⟨_,cap,rfl,h1,hn,hc,.inr ⟨g,0,cur.toList,rfl,⟨hb,rfl⟩,by simpa [ba] using hg,by simp [hs],by simpa using ht⟩⟩
theorem qP {g:Nat}:∀ (vs:List Value) (o:Nat) {w:World} (k:Nat),k≠g→(w.setCells g o vs).heap[k]?=w.heap[k]?
 | [],_,_,_,_=>rfl
 | v :: r,o,w,k,hk=>by
  rw [World.setCells,qP r (o+1) k hk]
  exact Below.heap_setCell w ⟨g,o,none⟩ v k hk
theorem nh {g T:Nat}:∀ (vs:List Value) (o:Nat) {w:World} {cur:List Value},ba w g cur T→o+vs.length≤cur.length →
  ba (w.setCells g o vs) g (cur.take o++vs++cur.drop (o+vs.length)) T∧(w.setCells g o vs).os=w.os∧(w.setCells g o vs).tape=w.tape∧(w.setCells g o vs).output=w.output∧(w.setCells g o vs).heap.size=w.heap.size
 | [],o,w,cur,h,_=>by
  refine ⟨?_,rfl,rfl,rfl,rfl⟩
  simpa [World.setCells] using h
 | v :: r,o,w,cur,h,hl=>by
  simp only [List.length_cons] at hl
  have h2:=h.set (o:=o) (v:=v) rfl
  obtain ⟨i1,i2,i3,i4,i5⟩:=nh r (o+1) h2 (by simp;omega)
  refine ⟨?_,i2,i3,i4,by rw [World.setCells,i5];simp [World.setCell]⟩
  rw [World.setCells]
  have e1:(cur.set o v).take (o+1)=cur.take o++[v]:=by
   rw [List.take_set,List.take_succ_eq_append_getElem (by omega),List.set_append_right _ _ (by rw [List.length_take];omega)]
   simp [Nat.min_eq_left (show o≤cur.length by omega)]
  have e2:(cur.set o v).drop (o+1+r.length)=cur.drop (o+(r.length+1)):=by
   rw [List.drop_set_of_lt (by omega)];congr 1;omega
  rw [e1,e2] at i1
  simpa [List.append_assoc] using i1
theorem Own.append {P:Program} {w:World} {e sz n c:Nat} {o:OA} {cs:List Value} {F:Nat→Prop} (h:Own w e sz o n c cs F) (t ty:TypeId) {i:TypeInfo} {z:Value}
  (ht:P.underlying t=some (.slice e)) (hi:P.info? e=some i) (hz:i.zero=some z) (a0:i.size=sz) (b6:z.cells.size=sz) (b7:0<sz)
  {ad:Addr} {m mc:Nat} {news:List Value} (hl:news.length=m*sz) (a5:∀ j u,news[j]?=some u→w.cell? (ad.add j)=some u) (h1:∀ u∈news,u.oneCell'=true) (hm:0<m)
  (b8:n+m≤maxLen) (a6:(n+m)*i.bytes≤140737488355328) :
  ∃ (o':OA) (c':Nat) (w':World),(Builtin.append_ #[t,t] ty #[.slice o n c,.slice (some ad) m mc]).run P w = .ok (.slice o' (n+m) c') w' ∧
   Own w' e sz o' (n+m) c' (cs++news) (fun k=>F k∨w.heap.size≤k)∧Ch F w w':=by
 obtain ⟨a1,a2,a3,a4⟩:=h
 rcases a4 with ⟨rfl,rfl⟩|⟨g,off,cur,rfl,hF,hb,c0,b9⟩
 ·have hn:n=0:=by omega
  subst hn
  have ho:w.ownsRow w.heap.size e sz (.slice none 0 0) 0 cs:=⟨a1,.inl ⟨rfl,rfl⟩⟩
  obtain ⟨v',w',hr,c4,hg,_,c5⟩:=run_append_own_at (P:=P) (w:=w) w.heap.size t ty e i z sz i.bytes ht hi hz a0 rfl b6 b7 _ 0 cs ho ad m mc news hl a5 h1 b8 a6 (Nat.le_refl _)
  obtain ⟨o',c',rfl,a8⟩:=Own.ofRow c4
  exact ⟨o',c',w',hr,a8.mono (fun k _ hk => .inr hk.1),Ch.grown hg (fun k hk=>by simp [Value.ownBlock] at hk)⟩
 ·by_cases a7:n+m≤c
  ·subst a0
   have a9:off+n*i.size+news.length≤cur.length:=by
    rw [hl]
    have:(n+m)*i.size≤c*i.size:=Nat.mul_le_mul_right _ a7
    rw [Nat.add_mul] at this;omega
   have hr:=run_append_room_cells (P:=P) (w:=w) t ty e i ht hi g off n c ad m mc news hl a5 h1 a7
    (fun j hj=>by rw [hb.cells];simp;omega) (fun j _=>hb.frozen _ rfl)
   obtain ⟨b1,b2,b3,b4,b5⟩:=nh news (off+n*i.size) hb a9
   refine ⟨_,_,_,hr,⟨by rw [List.length_append,a1,hl,Nat.add_mul],a7,a3,.inr ⟨g,off,_,rfl,.inl hF,b1,?_,?_⟩⟩,⟨b2,b3,b4,by rw [b5];exact Nat.le_refl _,fun k _ hk=>qP news _ k (fun he=>hk (he▸hF))⟩⟩
   ·simp only [List.length_append,List.length_take,List.length_drop];omega
   ·rw [List.append_assoc,List.drop_append_of_le_length (by rw [List.length_take];omega),List.drop_take]
    rw [show off+n*i.size-off=n*i.size by omega,b9,← List.append_assoc]
    exact List.take_left' (by rw [List.length_append,a1,hl,Nat.add_mul])
  ·obtain ⟨v',w',hr,ho,hg⟩:=run_append_arg_grows (P:=P) (w:=w) t ty e i z sz i.bytes ht hi hz a0 rfl b6 b7 ⟨g,off,none⟩ n c cs a1
    (fun j u hu=>by
     have hj:=hu
     rw [← b9,List.getElem?_take] at hj
     split at hj
     ·rw [List.getElem?_drop] at hj;rw [eh];exact hb.cell _ hj
     ·cases hj) ad m mc news hl a5 (by omega) b8 a6
   obtain ⟨o',c',rfl,a8⟩:=Own.ofRow ho
   exact ⟨o',c',w',hr,a8.mono (fun k _ hk => .inr hk.1),Ch.grown hg (fun k hk=>by cases hk)⟩
/-! Element types of slices,as a program has them. -/
structure li (P:Program) (t e sz bytes:Nat):Prop where
 und:P.underlying t=some (.slice e)
 inf:∃ (i:TypeInfo) (z:Value),P.info? e=some i∧i.zero=some z∧i.size=sz∧i.bytes=bytes∧z.cells.size=sz
 pos:0<sz
def Ry (P:Program) (t e sz bytes:Nat):Bool :=
 match P.underlying t with
 | some (.slice e')=>e'==e&&(match P.info? e with
  | some i=>match i.zero with
   | some z=>i.size==sz&&i.bytes==bytes&&z.cells.size==sz&&Nat.blt 0 sz
   | none=>false
  | none=>false)
 | _=>false
theorem li.of {P:Program} {t e sz bytes:Nat} (h:Ry P t e sz bytes=true):li P t e sz bytes:=by
 unfold Ry at h
 split at h
 ·rename_i e' hu
  rw [Bool.and_eq_true,beq_iff_eq] at h
  obtain ⟨rfl,h⟩:=h
  split at h
  ·rename_i i hi
   split at h
   ·rename_i z hz
    simp only [Bool.and_eq_true,beq_iff_eq] at h
    obtain ⟨⟨⟨h1,h2⟩,h3⟩,h4⟩:=h
    exact ⟨hu,⟨i,z,hi,hz,h1,h2,h3⟩,Nat.lt_of_succ_le (by simpa [Nat.blt] using h4)⟩
   ·cases h
  ·cases h
 ·cases h
def Ext (F:Nat→Prop) (w w':World):Nat→Prop:=fun i=>F i∨(w.heap.size≤i∧i<w'.heap.size)
def db (w w':World):Nat→Prop:=fun i=>w.heap.size≤i∧i<w'.heap.size
section
variable {F G:Nat→Prop} {w w' w1 w2:World} {e sz n c:Nat} {o:OA} {cs:List Value}
theorem Own.Dq {P:Program} {t bytes:Nat} (el:li P t e sz bytes) (h:Own w e sz o n c cs F) (ty:TypeId) {ad:Addr} {m mc:Nat} {news:List Value} (hl:news.length=m*sz)
  (a1:∀ (j:Nat) (u:Value),news[j]?=some u→w.cell? (ad.add j)=some u) (h1:∀ u∈news,u.oneCell'=true) (hm:0<m) (a2:n+m≤maxLen) (a0:(n+m)*bytes≤140737488355328) :
  ∃ (o':OA) (c':Nat) (w':World),(Builtin.append_ #[t,t] ty #[.slice o n c,.slice (some ad) m mc]).run P w = .ok (.slice o' (n+m) c') w' ∧
   Own w' e sz o' (n+m) c' (cs++news) (Ext F w w')∧Ch F w w':=by
 obtain ⟨i,z,hi,hz,hs,hb,a3⟩:=el.inf
 subst hb
 obtain ⟨o',c',w',hr,ho,hc⟩:=h.append t ty el.und hi hz hs a3 el.pos hl a1 h1 hm a2 a0
 exact ⟨o',c',w',hr,ho.mono (fun k hk hF=>hF.imp id (fun h=>⟨h,hk⟩)),hc⟩
theorem Own.push {P:Program} {t bytes:Nat} (el:li P t e sz bytes) (h:Own w e sz o n c cs F) (ty:TypeId) {news:Array Value} (ew:w1=w.alloc (.cells news e (0,0))) (hl:news.size=sz)
  (h1:news.toList.all (·.oneCell')=true) (a1:n+1≤maxLen) (a0:(n+1)*bytes≤140737488355328) :
  ∃ (o':OA) (c':Nat) (w':World),(Builtin.append_ #[t,t] ty #[.slice o n c,.slice (some ⟨w.heap.size,0,none⟩) 1 1]).run P w1 = .ok (.slice o' (n+1) c') w' ∧
   Own w' e sz o' (n+1) c' (cs++news.toList) (Ext F w w')∧Ch F w w':=by
 have hb:=ba.new ew
 have hc:=Ch.alloc (F:=ah) ew
 obtain ⟨o',c',w',hr,ho,a2⟩:=(h.Jw.aa hc).Dq el ty (m:=1) (mc:=1) (ad:=⟨w.heap.size,0,none⟩) (news:=news.toList) (by simp [hl])
  (fun j u hu=>by rw [eh,Nat.zero_add];exact hb.cell j hu) (fun u hu=>List.all_eq_true.1 h1 u hu) (by omega) a1 a0
 refine ⟨o',c',w',hr,ho.mono (fun k hk hF=>?_),?_⟩
 ·rcases hF with hF|hF
  ·exact .inl hF.1
  ·exact .inr ⟨Nat.le_trans hc.size hF.1,hF.2⟩
 ·exact (hc.any (F:=F)).trans a2 (fun i _ hi=>hi.1)
theorem Rd.PH {α:Type} {enc:α→Value} {xs:List α} (h:Rd w o (xs.map enc) F) {j:Nat} (hj:j<xs.length) {K:Addr→Prop} (hk:∀ p:Addr,w.cell? (p.add j)=some (enc xs[j])→K p):jr o K :=
 h.at (v:=enc xs[j]) (by simp [hj]) hk
end
theorem dw (j:Nat):(j:Int).toNat*1=j:=by simp
theorem ae {x:Int} (h1 : -9223372036854775808≤x) (h2:x≤9223372036854775807):IntKind.i64.wrap x=x:=by
 unfold IntKind.wrap;simp [IntKind.bits,IntKind.signed];omega
/-! What an argument reads as. -/
def oF (P:Program) (w:World) (t:TypeId) (cs:List Value):Prop :=
 ∃ (H:Type) (enc:TypeId × Value→H) (fuel:Nat) (d:DataW H) (p:List MemPlace),DataW.trod enc P w 0 (fun _=>true) true fuel t cs=some (d,p)∧(d.weights P t).all (·≤reachBytes)=true
section
variable {P:Program} {w:World} {t:TypeId} {cs:List Value}
theorem oF.int {k:IntKind} (h:oF P w t cs) (hu:P.underlying t=some (.int k)):∃ n:Int,cs=[.int k n]∧(Lit.int k n).wf=true:=by
 obtain ⟨H,enc,fuel,d,p,h,_⟩:=h
 obtain ⟨n,hc,_,hw⟩:=DataW.trod_int hu h
 exact ⟨n,hc,hw⟩
theorem oF.string (h:oF P w t cs) (hu:P.underlying t=some .string):∃ s:ByteArray,cs=[.string s]∧s.size≤140737488351232:=by
 obtain ⟨H,enc,fuel,d,p,h,hs⟩:=h
 obtain ⟨s,hc,hx,_⟩:=DataW.trod_string hu h
 obtain ⟨rfl,rfl⟩:=Prod.mk.inj hx
 refine ⟨s,hc,?_⟩
 simp only [DataW.weights,List.all_cons,List.all_nil,Bool.and_true,decide_eq_true_eq] at hs
 simpa [reachBytes] using hs
theorem Qt {a:Addr} {v:Value} (h:w.cell? a=some v):a.block<w.heap.size:=by
 unfold World.cell? at h
 split at h
 ·rename_i he;exact (Array.getElem?_eq_some_iff.1 he).1
 ·cases h
theorem wH {H:Type} {e:TypeId}:∀ {l:List (DataW H)} {d:DataW H},d∈l→(DataW.weightsAll P e l).all (·≤reachBytes)=true→(d.weights P e).all (·≤reachBytes)=true
 | x :: r,d,hd,h=>by
  rw [DataW.weightsAll,List.all_append,Bool.and_eq_true] at h
  rcases List.mem_cons.1 hd with rfl|hd
  ·exact h.1
  ·exact wH hd h.2
theorem oF.slice {e:TypeId} (h:oF P w t cs) (hu:P.underlying t=some (.slice e)) :
  ∃ (o:OA) (n c:Nat) (es:List (List Value)),cs=[.slice o n c]∧n≤c∧c≤maxLen∧n*P.bytesOf e≤140737488351232∧es.length=n∧(∀ x∈es,x.length=P.cellsOf e∧oF P w e x)∧Rd w o es.flatten (fun _=>True):=by
 obtain ⟨H,enc,fuel,d,p,h,hs⟩:=h
 rcases DataW.trod_slice hu h with ⟨hc,_⟩|⟨a,len,cap,elems,rest,n,_,hc,hx,_,hl,hm,a2,a5,a7,_⟩
 ·exact ⟨none,0,0,[],hc,Nat.le_refl _,Nat.zero_le _,by simp,rfl,fun x hx=>by simp at hx,Rd.nil _ _ _⟩
 ·obtain ⟨rfl,rfl⟩:=Prod.mk.inj hx
  have hw:=hs
  rw [DataW.weights,hu] at hw
  simp only [List.all_cons,List.all_append,Bool.and_eq_true,decide_eq_true_eq] at hw
  obtain ⟨a8,a6,_⟩:=hw
  have each:∀ i,i<len→∃ (es:List Value) (y:DataW H × List MemPlace),elems[i]?=some y∧es.length=P.cellsOf e∧(∀ j,j<P.cellsOf e→w.cell? ((a.add (i*P.cellsOf e)).add j)=es[j]?)∧DataW.trod enc P w 0 (fun _=>true) true n e es=some y:=by
   intro i hi
   have h1:=a5 i hi
   have h2:elems[i]?=some elems[i]:=List.getElem?_eq_getElem (by omega)
   rw [h2] at h1
   cases a3:w.cells? 0 (a.add (i*P.cellsOf e)) (P.cellsOf e) with
   | none=>rw [a3] at h1;simp at h1
   | some es =>
    rw [a3,Option.bind_some] at h1
    obtain ⟨_,h3,h4⟩:=World.cells?_some a3
    exact ⟨es,_,h2,h3,h4,h1⟩
  obtain ⟨f,hf⟩:∃ f:Nat→List Value,∀ i,i<len→∃ y:DataW H × List MemPlace,elems[i]?=some y∧(f i).length=P.cellsOf e∧(∀ j,j<P.cellsOf e→w.cell? ((a.add (i*P.cellsOf e)).add j)=(f i)[j]?)∧DataW.trod enc P w 0 (fun _=>true) true n e (f i)=some y:=by
   refine ⟨fun i=>if hi:i<len then Classical.choose (each i hi) else [],fun i hi=>?_⟩
   simp only [dif_pos hi]
   exact Classical.choose_spec (each i hi)
  have a0:∀ m,m≤len→((List.range m).map f).flatten.length=m*P.cellsOf e:=by
   intro m
   induction m with
   | zero=>intro _;simp
   | succ m ih =>
    intro hm
    rw [List.range_succ,List.map_append,List.flatten_append,List.length_append,ih (by omega)]
    obtain ⟨_,_,h3,_⟩:=hf m (by omega)
    simp [h3,Nat.succ_mul]
  refine ⟨some a,len,cap,(List.range len).map f,hc,hl,hm,?_,by simp,?_,?_⟩
  ·have:len*P.bytesOf e≤((elems.map (·.1)).length+(rest.map (·.1)).length)*P.bytesOf e:=Nat.mul_le_mul_right _ (by simp [a2])
   have h2:reachBytes=140737488351232:=rfl
   omega
  ·intro x hx
   obtain ⟨i,hi,rfl⟩:=List.mem_map.1 hx
   obtain ⟨y,h2,h3,h4,h5⟩:=hf i (List.mem_range.1 hi)
   refine ⟨h3,H,enc,n,y.1,y.2,h5,wH (l:=elems.map (·.1)) ?_ a6⟩
   exact List.mem_map.2 ⟨y,List.mem_of_getElem? h2,rfl⟩
  ·intro j v hj
   have main:∀ m,m≤len→∀ j v,(((List.range m).map f).flatten)[j]?=some v→w.cell? (a.add j)=some v:=by
    intro m
    induction m with
    | zero=>intro _ j v h;simp at h
    | succ m ih =>
     intro hm j v h
     rw [List.range_succ,List.map_append,List.flatten_append] at h
     by_cases hj:j<m*P.cellsOf e
     ·rw [List.getElem?_append_left (by rw [a0 m (by omega)];exact hj)] at h
      exact ih (by omega) j v h
     ·rw [List.getElem?_append_right (by rw [a0 m (by omega)];omega),a0 m (by omega)] at h
      simp only [List.map_cons,List.map_nil,List.flatten_cons,List.flatten_nil,List.append_nil] at h
      obtain ⟨y,h2,h3,h4,h5⟩:=hf m (by omega)
      have a9:=(List.getElem?_eq_some_iff.1 h).1
      have h6:=h4 (j-m*P.cellsOf e) (by omega)
      rw [h] at h6
      have a4:(a.add (m*P.cellsOf e)).add (j-m*P.cellsOf e)=a.add j:=by
       unfold Addr.add
       by_cases c1:m*P.cellsOf e=0
       ·simp [c1]
       ·by_cases c2:j-m*P.cellsOf e=0
        ·have:j=m*P.cellsOf e:=by omega
         simp [c1,this]
        ·have:j≠0:=by omega
         simp only [if_neg c1,if_neg c2,if_neg this]
         congr 1;omega
      rw [a4] at h6;exact h6
   have a1:=main len (Nat.le_refl _) j v hj
   exact ⟨a,rfl,trivial,by have:=Qt a1;rwa [oh] at this,a1⟩
theorem oF.struct {fs:Array Field} (h:oF P w t cs) (hu:P.underlying t=some (.struct fs)) :
  cs.length=P.cellsOf t∧∀ (i:Nat) (f:Field),fs[i]?=some f→oF P w f.type ((cs.drop f.offset).take (P.cellsOf f.type)):=by
 obtain ⟨H,enc,fuel,d,p,h,hs⟩:=h
 obtain ⟨xs,n,_,hx,hl,a0,hf⟩:=DataW.trod_struct hu h
 obtain ⟨rfl,rfl⟩:=Prod.mk.inj hx
 refine ⟨hl,fun i f hi=>?_⟩
 have a1:=(Array.getElem?_eq_some_iff.1 hi).1
 have h1:=hf i f hi
 rw [List.getElem?_eq_getElem (by omega)] at h1
 refine ⟨H,enc,n,_,_,h1,?_⟩
 rw [DataW.weights,hu] at hs
 simp only at hs
 have walk:∀ (ts:List TypeId) (ds:List (DataW H)) (i:Nat) (t:TypeId) (d:DataW H),ts[i]?=some t→ds[i]?=some d→(DataW.weightsEach P ts ds).all (·≤reachBytes)=true→(d.weights P t).all (·≤reachBytes)=true:=by
  intro ts
  induction ts with
  | nil=>intro ds i t d h;simp at h
  | cons t0 ts ih =>
   intro ds i t d ht hd h
   cases ds with
   | nil=>simp at hd
   | cons d0 ds =>
    rw [DataW.weightsEach,List.all_append,Bool.and_eq_true] at h
    cases i with
    | zero=>simp at ht hd;subst ht;subst hd;exact h.1
    | succ i=>exact ih ds i t d (by simpa using ht) (by simpa using hd) h.2
 exact walk _ _ i f.type _ (by simp [Array.getElem?_toList,hi]) (by simp [List.getElem?_eq_getElem (show i<xs.length by omega)]) hs
theorem oS {H:Type}:∀ (ts:List TypeId) (ds:List (DataW H)) (i:Nat) (t:TypeId) (d:DataW H),ts[i]?=some t→ds[i]?=some d→(DataW.weightsEach P ts ds).all (·≤reachBytes)=true→(d.weights P t).all (·≤reachBytes)=true
 | [],ds,i,t,d,h,_,_=>by simp at h
 | t0 :: ts,ds,i,t,d,ht,hd,h=>by
  cases ds with
  | nil=>simp at hd
  | cons d0 ds =>
   rw [DataW.weightsEach,List.all_append,Bool.and_eq_true] at h
   cases i with
   | zero=>simp at ht hd;subst ht;subst hd;exact h.1
   | succ i=>exact oS ts ds i t d (by simpa using ht) (by simpa using hd) h.2
theorem Aa {α β:Type} {R:α→β→Prop}:∀ {l:List α},(∀ x∈l,∃ y,R x y)→∃ ys:List β,ys.length=l.length∧∀ (i:Nat) (x:α) (y:β),l[i]?=some x→ys[i]?=some y→R x y
 | [],_=>⟨[],rfl,fun i x y h=>by simp at h⟩
 | x :: r,h=>by
  obtain ⟨y,hy⟩:=h x List.mem_cons_self
  obtain ⟨ys,hl,hr⟩:=Aa (l:=r) (fun z hz=>h z (List.mem_cons_of_mem _ hz))
  refine ⟨y :: ys,by simp [hl],fun i a b ha hb=>?_⟩
  cases i with
  | zero=>simp at ha hb;subst ha;subst hb;exact hy
  | succ i=>exact hr i a b (by simpa using ha) (by simpa using hb)
theorem GF {α β:Type} {f:β→α} {l:List α} {ys:List β} (hl:ys.length=l.length) (h:∀ (i:Nat) (x:α) (y:β),l[i]?=some x→ys[i]?=some y→x=f y):l=ys.map f:=by
 apply List.ext_getElem?
 intro i
 by_cases hi:i<l.length
 ·rw [List.getElem?_map,List.getElem?_eq_getElem hi,List.getElem?_eq_getElem (by omega)]
  simp only [Option.map_some]
  exact congrArg some (h i _ _ (List.getElem?_eq_getElem hi) (List.getElem?_eq_getElem (by omega)))
 ·rw [List.getElem?_eq_none (by omega),List.getElem?_eq_none (by simp;omega)]
theorem FA {α β:Type} (f:β→α) (l:List β):(l.map fun x=>[f x]).flatten=l.map f:=by
 induction l with
 | nil=>rfl
 | cons x r ih=>simp [ih]
theorem oF.ints {e:TypeId} {k:IntKind} (h:oF P w t cs) (hu:P.underlying t=some (.slice e)) (he:P.underlying e=some (.int k)) :
  ∃ (o:OA) (c:Nat) (xs:List Int),cs=[.slice o xs.length c]∧xs.length≤c∧c≤maxLen∧xs.length*P.bytesOf e≤140737488351232∧(∀ x∈xs,(Lit.int k x).wf=true)∧Rd w o (xs.map (.int k)) (fun _=>True):=by
 obtain ⟨o,n,c,es,hc,h1,h2,h3,hl,a1,hr⟩:=h.slice hu
 obtain ⟨xs,a0,hx⟩:=Aa (R:=fun (x:List Value) (n:Int)=>x=[.int k n]∧(Lit.int k n).wf=true) (l:=es) (fun x hx=>(a1 x hx).2.int he)
 have hm:=GF a0 (f:=fun n:Int=>[Value.int k n]) (fun i x y ha hb=>(hx i x y ha hb).1)
 subst hl
 rw [← a0] at hc h1 h3
 refine ⟨o,c,xs,hc,h1,h2,h3,fun x a2=>?_,?_⟩
 ·obtain ⟨i,hi⟩:=List.getElem?_of_mem a2
  have a3:=(List.getElem?_eq_some_iff.1 hi).1
  exact (hx i _ x (List.getElem?_eq_getElem (by omega)) hi).2
 ·rw [hm,FA] at hr;exact hr
end
section
variable {P:Program} {w:World} {t:TypeId} {cs:List Value}
end
/-! Small words for walks. -/
theorem pj {c:Bool} {X Y:Prop} (h:c=true) (k:X):(c=true→X)∧(c=false→Y):=⟨fun _=>k,fun h2=>absurd (h.symm.trans h2) (fun e=>nomatch e)⟩
theorem eg {c:Bool} {X Y:Prop} (h:c=false) (k:Y):(c=true→X)∧(c=false→Y):=⟨fun h2=>absurd (h.symm.trans h2) (fun e=>nomatch e),fun _=>k⟩
section
variable {F:Nat→Prop} {w w1 w2:World}
theorem Ext.Td {i:Nat} (h:Ext F w w1 i) (hi:i<w.heap.size):F i:=by
 rcases h with h|h
 ·exact h
 ·exact absurd hi (Nat.not_lt.2 h.1)
end
/-! Blocks that a law made: of F,from W on. -/
def rl (W w:World) (F:Nat→Prop):Prop:=∀ i,F i→W.heap.size≤i∧i<w.heap.size
section
variable {W w w':World} {F G:Nat→Prop}
theorem rl.hi (h:rl W w F) (hc:Ch ah W w) (k:Ch F w w'):Ch ah W w':=hc.trans k (fun i hi hF=>absurd hi (Nat.not_lt.2 (h i hF).1))
theorem rl.le (h:rl W w F) (hs:w.heap.size≤w'.heap.size):rl W w' F:=fun i hi=>⟨(h i hi).1,Nat.lt_of_lt_of_le (h i hi).2 hs⟩
theorem rl.ext (h:rl W w F) (hc:Ch ah W w) (hs:w.heap.size≤w'.heap.size):rl W w' (Ext F w w'):=fun i hi=>by
 rcases hi with hi|hi
 ·exact h.le hs i hi
 ·exact ⟨Nat.le_trans hc.size hi.1,hi.2⟩
theorem rl.new (hc:Ch ah W w):rl W w' (db w w'):=fun i hi=>⟨Nat.le_trans hc.size hi.1,hi.2⟩
def jo (F G:Nat→Prop):Prop:=∀ i,F i→¬ G i
theorem jo.symm (h:jo F G):jo G F:=fun i hG hF=>h i hF hG
theorem jo.PD (h:jo F G) (hG:rl W w G):jo (Ext F w w') G:=fun i hi hg=>by
 rcases hi with hi|hi
 ·exact h i hi hg
 ·exact absurd (hG i hg).2 (Nat.not_lt.2 hi.1)
theorem jo.Th (h:jo F G) (hF:rl W w F):jo F (Ext G w w'):=(h.symm.PD hF).symm
end
theorem wrap_u64 (x:Int):IntKind.u64.wrap x=x % 18446744073709551616:=by
 unfold IntKind.wrap;simp [IntKind.bits,IntKind.signed]
theorem AP {a:Int} (h:0≤a) (b:Int):Int.tmod a b=a % b:=Int.tmod_eq_emod_of_nonneg h
/-! Parts of rows,whole blocks,rows put behind rows. -/
section
variable {w w' w1:World} {o o2:OA} {cs news:List Value} {F G:Nat→Prop} {e sz n c m:Nat}
theorem add_add (a:Addr) (i j:Nat):(a.add i).add j=a.add (i+j):=by
 unfold Addr.add
 by_cases c1:i=0
 ·simp [c1]
 ·by_cases c2:j=0
  ·simp [c2]
  ·have:i+j≠0:=by omega
   simp only [if_neg c1,if_neg c2,if_neg this]
   congr 1;omega
theorem Rd.slice (h:Rd w o cs F) (hc:cs.length≤c*sz) (lo m:Nat):Rd w (if c=lo then o else o.map (·.add (lo*sz))) ((cs.drop (lo*sz)).take (m*sz)) F:=by
 by_cases he:c=lo
 ·subst he
  rw [List.drop_of_length_le hc,List.take_nil]
  exact Rd.nil _ _ _
 ·rw [if_neg he]
  intro j v hj
  rw [List.getElem?_take] at hj
  split at hj
  ·rw [List.getElem?_drop] at hj
   obtain ⟨a,ha,hF,a1,a0⟩:=h _ v hj
   exact ⟨a.add (lo*sz),by rw [ha];rfl,by rwa [oh],by rwa [oh],by rw [add_add];exact a0⟩
  ·cases hj
theorem ba.all {b T:Nat} (h:ba w b cs T) (vs:List Value) (hl:vs.length=cs.length) (ew:w1=w.setCells b 0 vs):ba w1 b vs T:=by
 have:=(nh vs 0 h (by omega)).1
 rw [← ew] at this
 simpa [List.drop_of_length_le (show cs.length≤vs.length by omega)] using this
theorem Ch.fr {b:Nat} {o:Nat} {vs:List Value} (ew:w1=w.setCells b o vs) (hb:F b):Ch F w w1:=by
 subst ew
 induction vs generalizing w o with
 | nil=>exact Ch.refl _ _
 | cons v r ih=>exact (Ch.set (w':=w.setCell ⟨b,o,none⟩ v) rfl hb).same ih
theorem tB {P:Program} {t ty:TypeId} {i:TypeInfo} (ht:P.underlying t=some (.slice e)) (hi:P.info? e=some i) (h:n≤c) (w:World) (c2:Nat) :
  (Builtin.append_ #[t,t] ty #[.slice o n c,.slice o2 0 c2]).run P w = .ok (.slice o n c) w:=by
 cases o <;> cases o2 <;> simp [Builtin.append_,Sem.run_bind,run_underlying ht,run_sizeOf hi,Builtin.lenOf,Builtin.firstCells,pure,Sem.run,Result.andThen,h,storeCells,loadCells,loadCellsFrom]
theorem Own.ll {P:Program} {t bytes c2:Nat} (el:li P t e sz bytes) (h:Own w e sz o n c cs F) (ty:TypeId) (hr:Rd w o2 news G) (hl:news.length=m*sz) (h1:∀ u∈news,u.oneCell'=true)
  (a2:n+m≤maxLen) (a0:(n+m)*bytes≤140737488355328) :
  ∃ (o':OA) (c':Nat) (w':World),(Builtin.append_ #[t,t] ty #[.slice o n c,.slice o2 m c2]).run P w = .ok (.slice o' (n+m) c') w' ∧
   Own w' e sz o' (n+m) c' (cs++news) (Ext F w w')∧Ch F w w':=by
 by_cases hm:m=0
 ·subst hm
  have:news=[]:=by simpa using hl
  subst this
  obtain ⟨i,z,hi,_⟩:=el.inf
  refine ⟨o,c,w,tB el.und hi h.2.1 w c2,?_,Ch.refl _ _⟩
  rw [List.append_nil]
  exact h.mono (fun i _ hF => .inl hF)
 ·have hp:=el.pos
  have a3:0<m*sz:=Nat.mul_pos (by omega) hp
  obtain ⟨a,ha,_⟩:=hr 0 (news[0]'(by omega)) (List.getElem?_eq_getElem (by omega))
  subst ha
  refine h.Dq el ty hl (fun j u hu=>?_) h1 (by omega) a2 a0
  obtain ⟨a',a1,_,_,hc⟩:=hr j u hu
  injection a1 with a1
  subst a1;exact hc
theorem Own.pW {α:Type} {enc:α→Value} {xs:List α} {P:Program} {t bytes:Nat} (el:li P t e 1 bytes) (h:Own w e 1 o n c (xs.map enc) F) (ty:TypeId) (x:α) (ew:w1=w.alloc (.cells #[enc x] e (0,0)))
  (h1:(enc x).oneCell'=true) (a1:n+1≤maxLen) (a0:(n+1)*bytes≤140737488355328) :
  ∃ (o':OA) (c':Nat) (w':World),(Builtin.append_ #[t,t] ty #[.slice o n c,.slice (some ⟨w.heap.size,0,none⟩) 1 1]).run P w1 = .ok (.slice o' (n+1) c') w' ∧
   Own w' e 1 o' (n+1) c' ((xs++[x]).map enc) (Ext F w w')∧Ch F w w':=by
 obtain ⟨o',c',w',hr,ho,hc⟩:=Own.push el h ty ew rfl (by simpa using h1) a1 a0
 refine ⟨o',c',w',hr,?_,hc⟩
 rw [List.map_append];exact ho
theorem db.ext {i:Nat} (h:Ext (db w w1) w1 w' i) (h1:w.heap.size≤w1.heap.size) (h2:w1.heap.size≤w'.heap.size):db w w' i:=by
 rcases h with h|h
 ·exact ⟨h.1,by have:=h.2;omega⟩
 ·exact ⟨by have:=h.1;omega,h.2⟩
theorem db.le {i:Nat} (h:db w w1 i) (h2:w1.heap.size≤w'.heap.size):db w w' i:=⟨h.1,by have:=h.2;omega⟩
theorem Ch.RS (h:Ch ah w w1) (k:Ch (db w w1) w1 w'):Ch ah w w':=h.trans k (fun i hi hN=>absurd hi (Nat.not_lt.2 hN.1))
theorem Rd.QY {α:Type} {enc:α→Value} {xs:List α} (h:Rd w o (xs.map enc) F) {j:Nat} (hj:j<xs.length):∃ p,o=some p∧p.block<w.heap.size∧F p.block∧w.cell? (p.add j)=some (enc xs[j]):=by
 obtain ⟨a,h1,h2,h3,h4⟩:=h j (enc xs[j]) (by simp [hj])
 exact ⟨a,h1,h3,h2,h4⟩
theorem Rd.keeps {α:Type} {enc:α→Value} {xs:List α} {S:World→Prop} (h:∀ w,S w→Rd w o (xs.map enc) F) (hS:S w) {j:Nat} (hj:j<xs.length) {K:Addr→Prop} (hk:∀ p:Addr,(∀ w,S w→w.cell? (p.add j)=some (enc xs[j]))→K p):jr o K:=by
 obtain ⟨p,h1,h2,h3,h4⟩:=(h w hS).QY hj
 subst h1
 refine hk p (fun w' a1=>?_)
 obtain ⟨p',a0,_,_,a2⟩:=(h w' a1).QY hj
 injection a0 with a0
 subst a0;exact a2
end
end Go.Proofs.YtkbikekbaboclaaGreat.V
