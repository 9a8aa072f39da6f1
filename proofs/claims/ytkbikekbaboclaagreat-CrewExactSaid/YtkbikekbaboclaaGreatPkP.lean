import Derived.Test.YtkbikekbaboclaaGreatPkB
import Derived.Test.YtkbikekbaboclaaGreatPkVa
set_option linter.unusedVariables false
set_option linter.unusedSimpArgs false
namespace Go.Proofs.YtkbikekbaboclaaGreat.bh
open Go Go.Proofs V Vc Step Go.RowKit
structure ak where
 ver:Int
 ar:Int
 es:List gr
def qD:ak:=⟨0,0,[]⟩
structure xo where
 ver:Int
 ar:Int
 eo:OA
 en:Nat
 ec:Nat
def uY (g:xo):List Value:=[.int .i64 g.ver,.int .i64 g.ar,.slice g.eo g.en g.ec]
def BW (e:gr):Prop:=small e.1∧small e.2
def Kg (w:World) (g:xo) (p:ak) (Fo Fd:Nat→Prop):Prop :=
 g.ver=p.ver∧g.ar=p.ar∧g.en=p.es.length∧∃ qs:List (Value × Value),Own w bj 2 g.eo g.en g.ec (qs.map ei).flatten Fo∧df (fun q e=>oE w q e Fd) qs p.es∧(∀ e∈p.es,BW e)
theorem Kg.af {w w':World} {g:xo} {p:ak} {Fo Fd G:Nat→Prop} (h:Kg w g p Fo Fd) (hc:Ch G w w') (h1:∀ i,i<w.heap.size→Fo i→¬ G i) (h2:∀ i,i<w.heap.size→Fd i→¬ G i):Kg w' g p Fo Fd:=by
 obtain ⟨a,b,c,qs,d,e,f⟩:=h
 exact ⟨a,b,c,qs,d.af hc h1,e.imp (fun _ _ k=>k.af hc h2),f⟩
structure ot (w:World) (pb:Nat) (o:OA) (c:Nat) (gs:List xo) (R:Nat→Nat→Prop) (n:Nat):Prop where
 fam:Dy w R
 z:R 0 pb
 blk:ba w pb [.slice o n c] oH
 own:Own w Bd 3 o n c (gs.map uY).flatten (R 1)
 len:gs.length=n
def dk (w:World) (pb:Nat) (ps:List ak) (F:Nat→Prop):Prop :=
 ∃ (o:OA) (c:Nat) (gs:List xo) (R:Nat→Nat→Prop),ot w pb o c gs R ps.length∧(∀ k i,R k i→F i)∧∀ (i:Nat) (h1:i<gs.length) (h2:i<ps.length),Kg w gs[i] ps[i] (R (3+i)) (R 2)
section
variable {w w':World} {pb:Nat} {o:OA} {c n:Nat} {gs:List xo} {R:Nat→Nat→Prop} {ps:List ak} {F G:Nat→Prop}
theorem ot.af (h:ot w pb o c gs R n) (hc:Ch G w w') (hd:∀ k i,R k i→¬ G i):ot w' pb o c gs R n :=
 ⟨h.fam.le hc.size,h.z,h.blk.af hc (hd 0 pb h.z),h.own.af hc (fun i _ hi=>hd 1 i hi),h.len⟩
theorem dk.af (h:dk w pb ps F) (hc:Ch G w w') (hd:∀ i,i<w.heap.size→F i→¬ G i):dk w' pb ps F:=by
 obtain ⟨o,c,gs,R,hC,hF,hP⟩:=h
 have a0:∀ k i,R k i→¬ G i:=fun k i hi=>hd i (hC.fam.1 k i hi) (hF k i hi)
 exact ⟨o,c,gs,R,hC.af hc a0,hF,fun i h1 h2=>(hP i h1 h2).af hc (fun j _ hj=>a0 _ j hj) (fun j _ hj=>a0 _ j hj)⟩
theorem dk.aa (h:dk w pb ps F) (hc:Ch ah w w'):dk w' pb ps F:=h.af hc (fun _ _ _=>id)
theorem dk.mono (h:dk w pb ps F) (hg:∀ i,i<w.heap.size→F i→G i):dk w pb ps G:=by
 obtain ⟨o,c,gs,R,hC,hF,hP⟩:=h
 exact ⟨o,c,gs,R,hC,fun k i hi=>hg i (hC.fam.1 k i hi) (hF k i hi),hP⟩
theorem dk.lt (h:dk w pb ps F):pb<w.heap.size∧F pb:=by
 obtain ⟨o,c,gs,R,hC,hF,hP⟩:=h
 exact ⟨hC.blk.lt,hF 0 pb hC.z⟩
theorem dk.len (h:dk w pb ps F):ps.length≤maxLen:=by
 obtain ⟨o,c,gs,R,hC,hF,hP⟩:=h
 exact Nat.le_trans hC.own.2.1 hC.own.2.2.1
theorem ot.at (h:ot w pb o c gs R n) {j:Nat} (hj:j<gs.length):∃ p,o=some p∧R 1 p.block∧w.cell? (p.add (j*3))=some (.int .i64 gs[j].ver)∧w.cell? ((p.add (j*3)).add 1)=some (.int .i64 gs[j].ar)∧w.cell? ((p.add (j*3)).add 2)=some (.slice gs[j].eo gs[j].en gs[j].ec) ∧
  ((∃ u,w.cell? (p.add (j*3))=some u)∧w.frozen? (p.add (j*3))=false)∧((∃ u,w.cell? ((p.add (j*3)).add 1)=some u)∧w.frozen? ((p.add (j*3)).add 1)=false)∧((∃ u,w.cell? ((p.add (j*3)).add 2)=some u)∧w.frozen? ((p.add (j*3)).add 2)=false):=by
 obtain ⟨p,hp,_,hF,hc⟩:=h.own.rd.elem (sz:=3) (fun _=>rfl) (by omega) hj
 have h0:=hc 0 _ rfl
 rw [cm] at h0
 have f0:=dp (enc:=uY) (sz:=3) (q:=0) gs (fun _=>rfl) hj (by omega)
 have f1:=dp (enc:=uY) (sz:=3) (q:=1) gs (fun _=>rfl) hj (by omega)
 have f2:=dp (enc:=uY) (sz:=3) (q:=2) gs (fun _=>rfl) hj (by omega)
 rw [Nat.add_zero] at f0
 refine ⟨p,hp,hF,h0,hc 1 _ rfl,hc 2 _ rfl,h.own.ok f0 hp,?_,?_⟩
 ·rw [add_add];exact h.own.ok f1 hp
 ·rw [add_add];exact h.own.ok f2 hp
theorem ot.put (h:ot w pb o c gs R n) {j q:Nat} (hj:j<gs.length) {p:Addr} (hp:o=some p) (hq:q<3) {v:Value} (ew:w'=w.setCell ((p.add (j*3)).add q) v) {g:xo} (hg:uY g=(uY gs[j]).set q v) :
  ot w' pb o c (gs.set j g) R n∧Ch (R 1) w w':=by
 rw [add_add] at ew
 have a0:j*3+q<(gs.map uY).flatten.length:=by
  have:=h.own.len
  rw [this,← h.len];omega
 obtain ⟨h1,h2⟩:=h.own.set a0 hp ew
 rw [sG (enc:=uY) gs (fun _=>rfl) hj hg hq] at h1
 exact ⟨⟨h.fam.le h2.size,h.z,h.blk.af h2 (fun hx=>h.fam.2 0 1 (by omega) pb h.z hx),h1,by rw [List.length_set];exact h.len⟩,h2⟩
theorem ot.Qv (h:ot w pb o c gs R n) {j:Nat} (hj:j<gs.length) {p:Addr} (hp:o=some p) {g:xo} (ew:w'=((w.setCell (p.add (j*3)) (.int .i64 g.ver)).setCell ((p.add (j*3)).add 1) (.int .i64 g.ar)).setCell ((p.add (j*3)).add 2) (.slice g.eo g.en g.ec)) :
  ot w' pb o c (gs.set j g) R n∧Ch (R 1) w w':=by
 have h0:w.setCell (p.add (j*3)) (.int .i64 g.ver)=w.setCell ((p.add (j*3)).add 0) (.int .i64 g.ver):=by rw [cm]
 rw [h0] at ew
 obtain ⟨a1,b1⟩:=h.put hj hp (q:=0) (by omega) rfl (g:=⟨g.ver,gs[j].ar,gs[j].eo,gs[j].en,gs[j].ec⟩) rfl
 have a0:j<(gs.set j ⟨g.ver,gs[j].ar,gs[j].eo,gs[j].en,gs[j].ec⟩).length:=by rw [List.length_set];exact hj
 obtain ⟨a2,b2⟩:=a1.put a0 hp (q:=1) (by omega) rfl (g:=⟨g.ver,g.ar,gs[j].eo,gs[j].en,gs[j].ec⟩) (by rw [List.getElem_set_self];rfl)
 rw [List.set_set] at a2
 have a4:j<(gs.set j ⟨g.ver,g.ar,gs[j].eo,gs[j].en,gs[j].ec⟩).length:=by rw [List.length_set];exact hj
 obtain ⟨a3,b3⟩:=a2.put a4 hp (q:=2) (by omega) ew (g:=g) (by rw [List.getElem_set_self];rfl)
 rw [List.set_set] at a3
 exact ⟨a3,(b1.same b2).same b3⟩
theorem dk.write {gs':List xo} {ps':List ak} (hC:ot w' pb o c gs' R n) (hc:Ch (R 1) w w') (hF:∀ k i,R k i→F i) (hn:ps'.length=n) (hP:∀ (i:Nat) (h1:i<gs'.length) (h2:i<ps'.length),Kg w gs'[i] ps'[i] (R (3+i)) (R 2)):dk w' pb ps' F:=by
 subst hn
 exact ⟨o,c,gs',R,hC,hF,fun i h1 h2=>(hP i h1 h2).af hc (fun j _ a b=>hC.fam.2 (3+i) 1 (by omega) j a b) (fun j _ a b=>hC.fam.2 2 1 (by omega) j a b)⟩
end
def ax (ps:List ak) (id:Int):ak:=if 0≤id then ps.getD id.toNat qD else qD
def mr (ps:List ak) (id:Int):Bool:=decide ((ax ps id).ar>0)
theorem ef {ps:List ak} {id:Int} (h0:0≤id) (h:id.toNat<ps.length):ax ps id=ps[id.toNat]:=by
 unfold ax
 rw [if_pos h0,List.getD_eq_getElem?_getD,List.getElem?_eq_getElem h];rfl
theorem gz {ps:List ak} {id:Int} (h:mr ps id=true):0≤id∧id.toNat<ps.length:=by
 unfold mr ax at h
 split at h
 ·rename_i h0
  refine ⟨h0,Nat.lt_of_not_le fun a0=>?_⟩
  rw [List.getD_eq_getElem?_getD,List.getElem?_eq_none a0] at h
  simp [qD] at h
 ·simp [qD] at h
section
variable {w:World} {pb:Nat} {ps:List ak} {F G:Nat→Prop}
theorem tW (h:dk w pb ps F) (id:Int):Calls Tryz.prog CU #[.pointer (some ⟨pb,0,none⟩),.int .i64 id] w (bc fun v w'=>v = .bool (mr ps id)∧w'=w):=by
 obtain ⟨o,c,gs,R,hC,hF,hP⟩:=h
 refine FH.calls _ _ ?_
 refine ⟨fun h0=>⟨_,_,_,hC.blk.cell 0 rfl,fun h1=>?_,fun h1=>?_⟩,fun h0=>?_⟩
 ·have h0:=dQt h0
  have h1:=dQt h1
  have hj:id.toNat<gs.length:=by rw [hC.len];omega
  have a0:id.toNat<ps.length:=by rw [← hC.len];exact hj
  obtain ⟨p,rfl,_,_,a1,_⟩:=hC.at hj
  refine ⟨_,_,_,hC.blk.cell 0 rfl,⟨by omega,by omega⟩,_,a1,?_,rfl⟩
  unfold mr
  rw [ef h0 a0,(hP _ hj a0).2.1]
 ·have h0:=dQt h0
  have h1:=dQf h1
  cases hb:mr ps id with
  | true=>have:=gz hb;omega
  | false=>exact ⟨rfl,rfl⟩
 ·have h0:=dQf h0
  cases hb:mr ps id with
  | true=>have:=gz hb;omega
  | false=>exact ⟨rfl,rfl⟩
theorem FB (h:dk w pb ps F) (id:Int):Calls Tryz.prog Ag #[.pointer (some ⟨pb,0,none⟩),.int .i64 id] w (bc fun v w'=>v = .int .i64 (if mr ps id then (ax ps id).ar else 0)∧w'=w):=by
 refine Cm.calls _ _ ?_
 refine ab (tW h id) ?_
 rintro v w' ⟨rfl,rfl⟩
 obtain ⟨o,c,gs,R,hC,hF,hP⟩:=h
 refine ⟨_,rfl,fun hn=>?_,fun hn=>?_⟩
 ·have hb:mr ps id=false:=by simpa using hn
  rw [hb];exact ⟨rfl,rfl⟩
 ·have hb:mr ps id=true:=by simpa using hn
  obtain ⟨h0,h1⟩:=gz hb
  have hj:id.toNat<gs.length:=by rw [hC.len];exact h1
  obtain ⟨p,rfl,_,_,a1,_⟩:=hC.at hj
  refine ⟨_,_,_,hC.blk.cell 0 rfl,⟨by omega,by omega⟩,_,a1,?_,rfl⟩
  rw [hb,if_pos rfl,ef h0 h1,(hP _ hj h1).2.1]
theorem Ii (h:dk w pb ps F) (id:Int):Calls Tryz.prog wZ #[.pointer (some ⟨pb,0,none⟩),.int .i64 id] w (bc fun v w'=>v = .int .i64 (if mr ps id then (ax ps id).ver else 0)∧w'=w):=by
 refine zG.calls _ _ ?_
 refine ab (tW h id) ?_
 rintro v w' ⟨rfl,rfl⟩
 obtain ⟨o,c,gs,R,hC,hF,hP⟩:=h
 refine ⟨_,rfl,fun hn=>?_,fun hn=>?_⟩
 ·have hb:mr ps id=false:=by simpa using hn
  rw [hb];exact ⟨rfl,rfl⟩
 ·have hb:mr ps id=true:=by simpa using hn
  obtain ⟨h0,h1⟩:=gz hb
  have hj:id.toNat<gs.length:=by rw [hC.len];exact h1
  obtain ⟨p,rfl,_,a0,_⟩:=hC.at hj
  refine ⟨_,_,_,hC.blk.cell 0 rfl,⟨by omega,by omega⟩,_,a0,?_,rfl⟩
  rw [hb,if_pos rfl,ef h0 h1,(hP _ hj h1).1]
theorem tD (h:dk w pb ps F):Calls Tryz.prog Cj #[.pointer (some ⟨pb,0,none⟩)] w (bc fun v w'=>v = .int .i64 ps.length∧w'=w):=by
 obtain ⟨o,c,gs,R,hC,hF,hP⟩:=h
 refine EY.calls _ ?_
 exact ⟨_,_,_,hC.blk.cell 0 rfl,rfl,rfl⟩
def oW (ps:List ak):Nat:=(ps.filter fun p=>!decide (p.ar>0)).length
def Av (ps:List ak) (v:Int) (j:Nat):List Int:=((List.range j).filter fun i:Nat=>mr ps (i:Int)&&((ax ps (i:Int)).ver==v)).map fun i:Nat=>(i:Int)
theorem LY {ps:List ak} {j:Nat} (h:j<ps.length):mr ps (j:Int)=decide (ps[j].ar>0):=by
 unfold mr
 rw [ef (by omega) (by simpa using h)]
 rfl
theorem NA (h:dk w pb ps F):Calls Tryz.prog Ay #[.pointer (some ⟨pb,0,none⟩)] w (bc fun v w'=>v = .int .i64 (oW ps)∧w'=w):=by
 refine Da.calls _ ?_
 have a1:ps.length≤maxLen:=h.len
 unfold maxLen at a1
 refine ab (tD h) ?_
 rintro v w1 ⟨rfl,rfl⟩
 refine ⟨_,rfl,fun n i k w'=>w'=w1∧∃ j:Nat,i=j∧j≤ps.length∧k=ps.length-j∧n=oW (ps.take j),⟨_,rfl,0,rfl,Nat.zero_le _,rfl,rfl⟩,?_⟩
 rintro jk n i k w' ⟨rfl,j,rfl,hj,rfl,rfl⟩
 refine ⟨fun a0=>?_,fun a2=>?_⟩
 ·have a0:j<ps.length:=by have:=dQt a0;omega
  have a3:oW (ps.take j)≤j:=by
   unfold oW
   exact Nat.le_trans (List.length_filter_le _ _) (by simp;omega)
  have hs:oW (ps.take (j+1))=oW (ps.take j)+(if mr ps (j:Int) then 0 else 1):=by
   unfold oW
   rw [au ps j a0,List.filter_append,List.length_append,LY a0,List.filter_cons]
   by_cases hu:ps[j].ar>0
   ·rw [decide_eq_true hu];simp
   ·rw [decide_eq_false hu];simp
  refine ab (tW h _) ?_
  rintro v w2 ⟨rfl,rfl⟩
  refine ⟨_,rfl,fun hn=>?_,fun hn=>?_⟩
  ·have hb:mr ps (j:Int)=false:=by simpa using hn
   rw [hb] at hs
   refine ⟨ps.length-(j+1),by omega,rfl,j+1,by rw [ae (by omega) (by omega)];rfl,a0,rfl,?_⟩
   rw [ae (by omega) (by omega),hs];rfl
  ·have hb:mr ps (j:Int)=true:=by simpa using hn
   rw [hb] at hs
   exact ⟨ps.length-(j+1),by omega,rfl,j+1,by rw [ae (by omega) (by omega)];rfl,a0,rfl,by rw [hs];rfl⟩
 ·have:j=ps.length:=by have:=dQf a2;omega
  subst this
  rw [List.take_length]
  exact ⟨rfl,rfl⟩
end
end Go.Proofs.YtkbikekbaboclaaGreat.bh
set_option linter.unusedVariables false
set_option linter.unusedSimpArgs false
namespace Go.Proofs.YtkbikekbaboclaaGreat.bh
open Go Go.Proofs V Vc Step Go.RowKit
theorem Fi (e:List Value):∀ n,(List.replicate n e).flatten=lu e n
 | 0=>rfl
 | n+1=>by rw [List.replicate_succ,List.flatten_cons,Fi e n];rfl
theorem Eu (w:World) (n:Int) (h:1≤n∧n≤64):Calls Tryz.prog CB #[.int .i64 n] w (bc fun v w'=>∃ pb,v = .pointer (some ⟨pb,0,none⟩)∧dk w' pb (List.replicate n.toNat qD) (db w w')∧Ch ah w w'):=by
 refine Gx.calls _ ?_
 refine ⟨fun h1=>by have:=dQt h1;omega,fun _=>⟨fun h1=>by have:=dQt h1;omega,fun _=>⟨⟨rfl,by omega,by omega⟩,fun w1 e1 w2 e2=>?_⟩⟩⟩
 obtain ⟨m,rfl⟩:=Int.eq_ofNat_of_zero_le (by omega:0≤n)
 rw [Int.toNat_natCast] at e1 ⊢
 have hz:lu [.int .i64 0,.int .i64 0,.slice none 0 0] m=((List.replicate m (⟨0,0,none,0,0⟩:xo)).map uY).flatten:=by
  rw [List.map_replicate,Fi];rfl
 rw [hz] at e1
 have hg:w.heap.size<w1.heap.size:=(ba.new e1).lt
 have a0:(((List.replicate m (⟨0,0,none,0,0⟩:xo)).map uY).flatten.toArray).size=m*3:=by
  rw [← hz]
  simp only [List.size_toArray]
  rw [hz,List.map_replicate,List.length_flatten]
  simp [uY]
 have hO:Own w1 Bd 3 (some ⟨w.heap.size,0,none⟩) m m ((List.replicate m (⟨0,0,none,0,0⟩:xo)).map uY).flatten (·=w.heap.size):=Own.made (F:=(·=w.heap.size)) e1 a0 (by unfold maxLen;omega) rfl
 have a1:=ba.new e2
 have a2:Ch ah w1 w2:=Ch.alloc e2
 have a3:w1.heap.size<w2.heap.size:=a1.lt
 refine ⟨w1.heap.size,rfl,⟨some ⟨w.heap.size,0,none⟩,m,List.replicate m ⟨0,0,none,0,0⟩,fun k i=>(k=0∧i=w1.heap.size)∨(k=1∧i=w.heap.size),⟨⟨fun k i hi=>by omega,fun j k a4 i h1 h2=>by omega⟩,.inl ⟨rfl,rfl⟩,?_,?_,by simp⟩,fun k i hi=>⟨by omega,by omega⟩,fun i h1 h2=>?_⟩,(Ch.alloc e1).ag a2⟩
 ·rw [List.length_replicate];exact a1
 ·rw [List.length_replicate]
  exact (hO.aa a2).mono (fun i _ hi => .inr ⟨rfl,hi⟩)
 ·rw [List.getElem_replicate,List.getElem_replicate]
  exact ⟨rfl,rfl,rfl,[],Own.nil _ _ _ _,.nil,fun e he=>by cases he⟩
def rz (ps:List ak):Nat:=ps.findIdx fun p=>p.ar==0
def gj (ps:List ak) (v:Int):Int × Int:=if v<1∨v>2147483647 then (0,1) else if rz ps<ps.length then ((rz ps:Int),0) else (0,11)
def ou (ps:List ak) (v:Int):List ak:=if v<1∨v>2147483647 then ps else ps.set (rz ps) ⟨v,1,[]⟩
section
variable {w:World} {pb:Nat} {ps:List ak} {F G:Nat→Prop}
theorem HW (w:World) (a b:Int) (o:OA) (n c:Nat):Calls Tryz.prog pX #[.agg #[.int .i64 a,.int .i64 b,.slice o n c]] w (bc fun v w'=>v = .bool (b==0)∧Ch ah w w'):=by
 refine zU.calls _ _ _ _ _ ?_
 intro w1 e1
 exact ⟨_,(ba.new e1).cell 1 rfl,rfl,Ch.alloc e1⟩
theorem Kz {o:OA} {c:Nat} {gs:List xo} {R:Nat→Nat→Prop} (hC:ot w pb o c gs R gs.length):Calls Tryz.prog 107 #[.slice o gs.length c,.func (.func pX) #[] #[]] w
  (bc fun v w'=>v = .int .i64 (if gs.findIdx (fun g=>g.ar==0)<gs.length then (gs.findIdx (fun g=>g.ar==0):Int) else -1)∧Ch ah w w'):=by
 refine bf.NX _ _ _ ?_
 have a7:gs.length≤maxLen:=Nat.le_trans hC.own.2.1 hC.own.2.2.1
 unfold maxLen at a7
 refine ⟨fun i k w'=>Ch ah w w'∧∃ j:Nat,i=j∧j≤gs.length∧k=gs.length-j∧∀ m (hm:m<j) (h:m<gs.length),(gs[m].ar==0)=false,⟨_,Ch.refl _ _,0,rfl,Nat.zero_le _,rfl,fun m hm=>by omega⟩,?_⟩
 rintro jk i k w1 ⟨hc,j,rfl,hj,rfl,a5⟩
 refine ⟨fun a4=>?_,fun a8=>?_⟩
 ·have a4:j<gs.length:=by have:=dQt a4;omega
  obtain ⟨p,rfl,_,a0,a1,a2,_⟩:=(hC.af hc (fun _ _ _=>id)).at a4
  refine ⟨⟨by omega,by omega⟩,_,_,_,_,_,⟨a0,a1,a2⟩,?_⟩
  refine ab (HW w1 _ _ _ _ _) ?_
  rintro v w2 ⟨rfl,a6⟩
  refine ⟨_,rfl,fun hb=>?_,fun hb=>?_⟩
  ·have a3:gs.findIdx (fun g=>g.ar==0)=j:=(List.findIdx_eq a4).2 ⟨hb,fun m hm=>a5 m hm (by omega)⟩
   rw [a3,if_pos a4]
   exact ⟨rfl,hc.ag a6⟩
  ·refine ⟨gs.length-(j+1),by omega,hc.ag a6,j+1,by rw [ae (by omega) (by omega)];rfl,a4,rfl,fun m hm h=>?_⟩
   by_cases a9:m=j
   ·subst a9;exact hb
   ·exact a5 m (by omega) h
 ·have:j=gs.length:=by have:=dQf a8;omega
  subst this
  have a3:gs.findIdx (fun g=>g.ar==0)=gs.length:=List.findIdx_eq_length.2 (fun g hg=>by
   obtain ⟨m,hm,rfl⟩:=List.getElem_of_mem hg
   exact a5 m hm hm)
  rw [a3,if_neg (Nat.lt_irrefl _)]
  exact ⟨rfl,hc⟩
theorem Gf {gs:List xo} {ps:List ak} (hl:gs.length=ps.length) (h:∀ (i:Nat) (h1:i<gs.length) (h2:i<ps.length),gs[i].ar=ps[i].ar):gs.findIdx (fun g=>g.ar==0)=ps.findIdx (fun p=>p.ar==0):=by
 induction gs generalizing ps with
 | nil=>cases ps with
  | nil=>rfl
  | cons p r=>simp at hl
 | cons g gs ih=>cases ps with
  | nil=>simp at hl
  | cons p ps =>
   rw [List.findIdx_cons,List.findIdx_cons]
   have h0:g.ar=p.ar:=h 0 (by simp) (by simp)
   rw [h0,ih (ps:=ps) (by simpa using hl) (fun i h1 h2=>h (i+1) (by simpa using h1) (by simpa using h2))]
theorem Kg.set {gs:List xo} {R:Nat→Nat→Prop} (hP:∀ (i:Nat) (h1:i<gs.length) (h2:i<ps.length),Kg w gs[i] ps[i] (R (3+i)) (R 2)) {j:Nat} {g:xo} {p:ak} (hg:Kg w g p (R (3+j)) (R 2)) :
  ∀ (i:Nat) (h1:i<(gs.set j g).length) (h2:i<(ps.set j p).length),Kg w (gs.set j g)[i] (ps.set j p)[i] (R (3+i)) (R 2):=fun i h1 h2=>by
 rw [List.getElem_set,List.getElem_set]
 split
 ·rename_i e;subst e;exact hg
 ·exact hP i (by simpa using h1) (by simpa using h2)
theorem Ni (h:dk w pb ps F) (v:Int):Calls Tryz.prog AI #[.pointer (some ⟨pb,0,none⟩),.int .i64 v] w (bc fun x w'=>x = .tuple #[.int .i64 (gj ps v).1,.int .i64 (gj ps v).2]∧dk w' pb (ou ps v) F∧Ch F w w'):=by
 refine CV.calls _ _ ?_
 unfold gj ou
 refine ⟨fun h1=>?_,fun h1=>⟨fun h2=>?_,fun h2=>?_⟩⟩
 ·have h1:=dQt h1
  rw [if_pos (.inl h1),if_pos (.inl h1)]
  exact ⟨rfl,h,Ch.refl _ _⟩
 ·have h2:=dQt h2
  rw [if_pos (.inr h2),if_pos (.inr h2)]
  exact ⟨rfl,h,Ch.refl _ _⟩
 ·have h1:=dQf h1
  have h2:=dQf h2
  have hv:¬ (v<1∨v>2147483647):=by omega
  rw [if_neg hv,if_neg hv]
  obtain ⟨o,c,gs,R,hC,hF,hP⟩:=h
  have hl:=hC.len
  refine ⟨_,_,_,hC.blk.cell 0 rfl,?_⟩
  have a6:ot w pb o c gs R gs.length:=by rw [hl];exact hC
  have sp:=Kz a6
  have a3:gs.findIdx (fun g=>g.ar==0)=rz ps:=Gf hl (fun i h1 h2=>(hP i h1 h2).2.1)
  rw [a3,hl] at sp
  refine ab sp ?_
  rintro x w1 ⟨rfl,a0⟩
  have a1:=hC.af a0 (fun _ _ _=>id)
  have a4:∀ (i:Nat) (h1:i<gs.length) (h2:i<ps.length),Kg w1 gs[i] ps[i] (R (3+i)) (R 2):=fun i h1 h2=>(hP i h1 h2).af a0 (fun _ _ _=>id) (fun _ _ _=>id)
  by_cases a2:rz ps<ps.length
  ·rw [if_pos a2,if_pos a2]
   have hj:rz ps<gs.length:=by omega
   obtain ⟨p,hp,_,_,_,_,k0,k1,k2⟩:=a1.at hj
   refine ⟨_,rfl,eg (by simp) ⟨_,_,_,a1.blk.cell 0 rfl,⟨by omega,by omega⟩,?_⟩⟩
   subst hp
   refine ⟨⟨k0,k1,k2⟩,fun w2 e2=>?_⟩
   obtain ⟨a7,a5⟩:=a1.Qv hj rfl (g:=⟨v,1,none,0,0⟩) e2
   refine ⟨rfl,dk.write a7 a5 hF (by rw [List.length_set]) (Kg.set a4 ⟨rfl,rfl,rfl,[],Own.nil _ _ _ _,.nil,fun e he=>by cases he⟩),(a0.any (F:=F)).same (a5.mono (fun i _ hi=>hF 1 i hi))⟩
  ·rw [if_neg a2,if_neg a2]
   refine ⟨_,rfl,pj (by decide) ⟨rfl,?_,a0.any⟩⟩
   rw [List.set_eq_of_length_le (by omega)]
   exact ⟨o,c,gs,R,a1,hF,a4⟩
def gg (ps:List ak) (l:List Int):Bool:=l.all (mr ps)
theorem sT (h:dk w pb ps F) {cb T:Nat} (hc:ba w cb [.pointer (some ⟨pb,0,none⟩)] T) (id:Int):Calls Tryz.prog ls #[.int .i64 id,.pointer (some ⟨cb,0,none⟩)] w (bc fun v w'=>v = .bool (!mr ps id)∧w'=w):=by
 refine yA.calls _ _ ?_
 refine ⟨_,hc.cell 0 rfl,?_⟩
 refine ab (tW h id) ?_
 rintro v w1 ⟨rfl,rfl⟩
 exact ⟨_,rfl,rfl,rfl⟩
theorem tV {o:OA} {l:List Int} (h:dk w pb ps F) (hr:Rd w o (l.map (.int .i64)) G) (hl:l.length≤1000000) (c:Nat):Calls Tryz.prog Ak #[.pointer (some ⟨pb,0,none⟩),.slice o l.length c] w (bc fun v w'=>v = .int .i64 (if gg ps l then 0 else 8)∧Ch ah w w'):=by
 refine BG.calls _ _ _ _ ?_
 intro w1 e1
 have hB:=ba.new e1
 have a2:Ch ah w w1:=Ch.alloc e1
 have h1:=h.aa a2
 have a3:=hr.aa a2
 refine ⟨_,hB.cell 0 rfl,eg rfl ?_⟩
 have hi:Calls Tryz.prog 91 #[.slice o l.length c,.func (.func ls) #[] #[.pointer (some ⟨w.heap.size,0,none⟩)]] w1 (bc fun v w'=>∃ i:Int,v = .int .i64 i∧decide (i≥0)=!gg ps l∧w'=w1):=by
  refine bf.ED _ _ _ _ ?_
  refine ⟨fun i k w'=>w'=w1∧∃ j:Nat,i=j∧j≤l.length∧k=l.length-j∧(l.take j).all (mr ps)=true,⟨_,rfl,0,rfl,Nat.zero_le _,rfl,rfl⟩,?_⟩
  rintro jk i k w' ⟨rfl,j,rfl,hj,rfl,a0⟩
  refine ⟨fun a1=>?_,fun a4=>?_⟩
  ·have a1:j<l.length:=by have:=dQt a1;omega
   refine ⟨⟨by omega,by omega⟩,a3.at (j:=(j:Int).toNat*1) (v := .int .i64 l[j]) (by simp [a1]) fun p hp=>⟨_,hp,?_⟩⟩
   refine ab (sT h1 hB _) ?_
   rintro v w2 ⟨rfl,rfl⟩
   refine ⟨_,rfl,fun hb=>⟨_,rfl,?_,rfl⟩,fun hb=>⟨l.length-(j+1),by omega,rfl,j+1,by rw [ae (by omega) (by omega)];rfl,a1,rfl,?_⟩⟩
   ·have hb:mr ps l[j]=false:=by simpa using hb
    have:gg ps l=false:=by
     unfold gg
     rw [List.all_eq_false]
     exact ⟨l[j],List.getElem_mem _,by rw [hb];simp⟩
    rw [this];simp
   ·have hb:mr ps l[j]=true:=by simpa using hb
    rw [au l j a1,List.all_append,a0]
    simp [hb]
  ·have:j=l.length:=by have:=dQf a4;omega
   subst this
   rw [List.take_length] at a0
   exact ⟨_,rfl,by unfold gg;rw [a0];rfl,rfl⟩
 have a5:Calls Tryz.prog 52 #[.slice o l.length c,.func (.func ls) #[] #[.pointer (some ⟨w.heap.size,0,none⟩)]] w1 (bc fun v w'=>v = .bool (!gg ps l)∧w'=w1):=by
  refine cj.ED _ _ _ _ ?_
  refine ab hi ?_
  rintro v w2 ⟨i,rfl,hd,rfl⟩
  exact ⟨_,rfl,by rw [hd],rfl⟩
 refine ab a5 ?_
 rintro v w2 ⟨rfl,rfl⟩
 refine ⟨_,rfl,fun hb=>⟨?_,a2⟩,fun hb=>⟨?_,a2⟩⟩
 ·have hb:gg ps l=false:=by simpa using hb
  rw [hb];rfl
 ·have hb:gg ps l=true:=by simpa using hb
  rw [hb];rfl
end
end Go.Proofs.YtkbikekbaboclaaGreat.bh
set_option linter.unusedVariables false
set_option linter.unusedSimpArgs false
namespace Go.Proofs.YtkbikekbaboclaaGreat.bh
open Go Go.Proofs V Vc Step Go.RowKit
def FC (B:Int) (ps:List ak):Prop:=∀ p∈ps,-B≤p.ar∧p.ar≤B
def iy (d:Int) (ps:List ak) (id:Int):List ak:=ps.set id.toNat { ax ps id with ar:=(ax ps id).ar+d }
def fe (ps:List ak) (l:List Int):List ak:=l.foldl (iy 1) ps
def gi (ps:List ak) (id:Int):List ak:=if (ax ps id).ar-1=0 then ps.set id.toNat qD else iy (-1) ps id
def ek (ps:List ak) (l:List Int):List ak:=l.foldl gi ps
def oP (ps:List ak) (l:List Int):Bool:=l.any fun id=>decide ((l.count id:Int)>(ax ps id).ar)
theorem pd (d:Int) (ps:List ak) (id:Int):(iy d ps id).length=ps.length:=by unfold iy;rw [List.length_set]
theorem Ed (l:List Int):∀ ps,(fe ps l).length=ps.length:=by
 unfold fe
 induction l with
 | nil=>intro ps;rfl
 | cons x r ih=>intro ps;rw [List.foldl_cons,ih,pd]
theorem GS (ps:List ak) (id:Int):(gi ps id).length=ps.length:=by
 unfold gi;split
 ·rw [List.length_set]
 ·exact pd _ _ _
theorem qY (l:List Int):∀ ps,(ek ps l).length=ps.length:=by
 unfold ek
 induction l with
 | nil=>intro ps;rfl
 | cons x r ih=>intro ps;rw [List.foldl_cons,ih,GS]
theorem IB (ps:List ak) (l:List Int) (x:Int):fe ps (l++[x])=iy 1 (fe ps l) x:=by unfold fe;rw [List.foldl_append];rfl
theorem Lh (ps:List ak) (l:List Int) (x:Int):ek ps (l++[x])=gi (ek ps l) x:=by unfold ek;rw [List.foldl_append];rfl
theorem HJ {B:Int} {ps:List ak} (h:FC B ps) (hB:0≤B) (id:Int) : -B≤(ax ps id).ar∧(ax ps id).ar≤B:=by
 unfold ax
 split
 ·by_cases hl:id.toNat<ps.length
  ·rw [List.getD_eq_getElem?_getD,List.getElem?_eq_getElem hl];exact h _ (List.getElem_mem hl)
  ·rw [List.getD_eq_getElem?_getD,List.getElem?_eq_none (by omega)];simp [qD];omega
 ·simp [qD];omega
theorem zJ {α:Type} {l:List α} {i:Nat} {x y:α} (h:y∈l.set i x):y=x∨y∈l:=by
 obtain ⟨j,hj,rfl⟩:=List.getElem_of_mem h
 rw [List.getElem_set]
 split
 ·exact .inl rfl
 ·exact .inr (List.getElem_mem _)
theorem EP {B:Int} {ps:List ak} (h:FC B ps) (hB:0≤B) {d:Int} (hd : -1≤d∧d≤1) (id:Int):FC (B+1) (iy d ps id):=fun p hp=>by
 have h2:=HJ h hB id
 rcases zJ hp with rfl|hp
 ·show -(B+1)≤(ax ps id).ar+d∧(ax ps id).ar+d≤B+1
  omega
 ·have:=h p hp;omega
theorem Mr {B:Int} {ps:List ak} (h:FC B ps) (hB:0≤B) (id:Int):FC (B+1) (gi ps id):=by
 unfold gi
 split
 ·intro p hp
  rcases zJ hp with rfl|hp
  ·simp [qD];omega
  ·have:=h p hp;omega
 ·exact EP h hB (by omega) id
theorem LH {B:Int} (hB:0≤B) (l:List Int):∀ {ps},FC B ps→FC (B+l.length) (fe ps l):=by
 induction l generalizing B with
 | nil=>intro ps h;simpa [fe] using h
 | cons x r ih =>
  intro ps h
  have:=ih (B:=B+1) (by omega) (EP h hB (d:=1) (by omega) x)
  rw [List.length_cons]
  have e:B+((r.length+1:Nat):Int)=B+1+r.length:=by omega
  rw [e];exact this
theorem Nx {B:Int} (hB:0≤B) (l:List Int):∀ {ps},FC B ps→FC (B+l.length) (ek ps l):=by
 induction l generalizing B with
 | nil=>intro ps h;simpa [ek] using h
 | cons x r ih =>
  intro ps h
  have:=ih (B:=B+1) (by omega) (Mr h hB x)
  rw [List.length_cons]
  have e:B+((r.length+1:Nat):Int)=B+1+r.length:=by omega
  rw [e];exact this
section
variable {w:World} {pb:Nat} {ps:List ak} {F G:Nat→Prop} {o:OA} {l:List Int}
theorem Fj {B:Int} (h:dk w pb ps F) (hr:Rd w o (l.map (.int .i64)) G) (hd:∀ i,i<w.heap.size→G i→¬ F i) (hl:l.length≤1000000) (hB:0≤B∧B≤1000000000000) (hb:FC B ps) (c:Nat) :
  Calls Tryz.prog Ao #[.pointer (some ⟨pb,0,none⟩),.slice o l.length c] w (bc fun v w'=>v = .int .i64 (if gg ps l then 0 else 8)∧dk w' pb (if gg ps l then fe ps l else ps) F∧Ch F w w'):=by
 refine Cp.calls _ _ _ _ ?_
 refine ab (tV h hr hl c) ?_
 rintro v w1 ⟨rfl,a3⟩
 cases a0:gg ps l with
 | false=>exact ⟨_,rfl,pj (by simp) ⟨rfl,h.aa a3,a3.any⟩⟩
 | true =>
  refine ⟨_,rfl,eg (by simp) ?_⟩
  refine ⟨fun i k w'=>∃ j:Nat,i=j∧j≤l.length∧k=l.length-j∧dk w' pb (fe ps (l.take j)) F∧Ch F w w',⟨_,0,rfl,Nat.zero_le _,rfl,h.aa a3,a3.any⟩,?_⟩
  rintro jk i k w2 ⟨j,rfl,hj,rfl,a4,a8⟩
  refine ⟨fun a2=>?_,fun b4=>?_⟩
  ·have a2:j<l.length:=by have:=dQt a2;omega
   have b5:=hr.af a8 hd
   have b6:mr ps l[j]=true:=by
    unfold gg at a0
    rw [List.all_eq_true] at a0
    exact a0 _ (List.getElem_mem a2)
   obtain ⟨h0,h1⟩:=gz b6
   have a9:=Ed (l.take j) ps
   have b2:=LH hB.1 (l.take j) hb
   have b9:(l.take j).length≤1000000:=by rw [List.length_take];omega
   have a5:=IB ps (l.take j) l[j]
   rw [← au l j a2] at a5
   refine ⟨⟨by omega,by omega⟩,b5.at (j:=(j:Int).toNat*1) (v := .int .i64 l[j]) (by simp [a2]) fun p hp=>⟨_,hp,?_⟩⟩
   generalize l[j]=id at h0 h1 a5
   generalize fe ps (l.take j)=qs at a4 a9 b2 a5
   have c0:=HJ b2 (by omega) id
   obtain ⟨o',c',gs,R,hC,hF,hP⟩:=a4
   have a6:id.toNat<gs.length:=by rw [hC.len];omega
   have a7:id.toNat<qs.length:=by omega
   obtain ⟨q,hq,_,_,a1,_,_,k1,_⟩:=hC.at a6
   subst hq
   refine ⟨_,_,_,hC.blk.cell 0 rfl,⟨by omega,by omega⟩,_,a1,⟨by omega,by omega⟩,k1,fun w3 e3=>?_⟩
   have b7:gs[id.toNat].ar=(ax qs id).ar:=by rw [ef h0 a7];exact (hP _ a6 a7).2.1
   rw [b7,ae (by omega) (by omega)] at e3
   obtain ⟨b8,b3⟩:=hC.put a6 rfl (q:=1) (by omega) e3 (g:=⟨gs[id.toNat].ver,(ax qs id).ar+1,gs[id.toNat].eo,gs[id.toNat].en,gs[id.toNat].ec⟩) rfl
   refine ⟨l.length-(j+1),by omega,j+1,by rw [ae (by omega) (by omega)];rfl,a2,rfl,?_,a8.same (b3.mono (fun i _ hi=>hF 1 i hi))⟩
   rw [a5]
   unfold iy
   obtain ⟨x1,x2,x3,x4⟩:=hP _ a6 a7
   rw [← ef h0 a7] at x1 x3 x4
   exact dk.write b8 b3 hF (by rw [List.length_set]) (Kg.set hP ⟨x1,rfl,x3,x4⟩)
  ·have:j=l.length:=by have:=dQf b4;omega
   subst this
   rw [List.take_length] at a4
   exact ⟨rfl,a4,a8⟩
theorem FJ (l:List Int) (j:Nat) (x:Int):(l.take j).count x≤l.count x:=(List.take_sublist j l).count_le x
theorem GY {B:Int} (h:dk w pb ps F) (f7:∀ i,F i→i<w.heap.size) (hr:Rd w o (l.map (.int .i64)) G) (hG:∀ i,G i→i<w.heap.size) (hd:∀ i,i<w.heap.size→G i→¬ F i) (hl:l.length≤1000000) (hp:ps.length≤1000000) (hB:0≤B∧B≤1000000000000) (hb:FC B ps) (c:Nat) :
  Calls Tryz.prog sH #[.pointer (some ⟨pb,0,none⟩),.slice o l.length c] w (bc fun v w'=>v = .int .i64 (if gg ps l&&!oP ps l then 0 else 8)∧dk w' pb (if gg ps l&&!oP ps l then ek ps l else ps) F∧Ch F w w'):=by
 refine Dg.calls _ _ _ _ ?_
 refine ab (tV h hr hl c) ?_
 rintro v w1 ⟨rfl,b4⟩
 cases a4:gg ps l with
 | false=>exact ⟨_,rfl,pj (by simp) ⟨rfl,h.aa b4,b4.any⟩⟩
 | true =>
  rw [Bool.true_and]
  have a6:∀ (j:Nat) (hj:j<l.length),0≤l[j]∧l[j].toNat<ps.length:=fun j hj=>by
   unfold gg at a4
   rw [List.all_eq_true] at a4
   exact gz (a4 _ (List.getElem_mem hj))
  refine ⟨_,rfl,eg (by simp) (fun w2 e2=>?_)⟩
  have d5:yX Tryz.prog w2 w1.heap.size bd bd (fun x=>(([]:List Int).count x:Int)) 0:=yX.made e2
  have e7:Ch ah w w2:=b4.ag (Ch.alloc e2)
  have c0:w.heap.size≤w1.heap.size:=b4.size
  have ht:Tryz.prog.underlying 193=some (.map bd bd):=by kernel_rfl
  have hk:Tryz.prog.underlying bd=some (.int .i64):=by kernel_rfl
  have hz:∀ w,(zeroValue bd).run Tryz.prog w = .ok (.int .i64 0) w:=fun w=>by kernel_rfl
  clear e2
  generalize w1.heap.size=mb at d5 c0 ⊢
  refine ⟨fun i k w'=>∃ j:Nat,i=j∧j≤l.length∧k=l.length-j∧yX Tryz.prog w' mb bd bd (fun x=>((l.take j).count x:Int)) j∧Ch ah w w'∧∀ x∈l.take j,((l.take j).count x:Int)≤(ax ps x).ar,⟨_,0,rfl,Nat.zero_le _,rfl,d5,e7,fun x hx=>by simp at hx⟩,?_⟩
  rintro jk i k w3 ⟨j,rfl,hj,rfl,c4,b5,b6⟩
  have e8:∀ {a b:World},Ch ah w a→Ch (·=mb) a b→Ch ah w b:=fun h k=>h.trans k (fun i hi hx=>by omega)
  refine ⟨fun a0=>?_,fun c5=>?_⟩
  ·have a0:j<l.length:=by have:=dQt a0;omega
   obtain ⟨h0,h1⟩:=a6 j a0
   have a2:=au l j a0
   have e9:=FJ l (j+1) l[j]
   have a7:l[j]∈l:=List.getElem_mem a0
   refine ⟨⟨by omega,by omega⟩,(hr.aa b5).at (j:=(j:Int).toNat*1) (v := .int .i64 l[j]) (by simp [a0]) fun p hp=>⟨_,hp,?_⟩⟩
   generalize l[j]=id at h0 h1 a2 e9 a7
   have c6:(Lit.int .i64 id).wf=true:=wf_i64 (by omega) (by omega)
   have f8:(l.take j).count id≤1000000:=Nat.le_trans (List.count_le_length) (by rw [List.length_take];omega)
   have f0:(l.take (j+1)).count id=(l.take j).count id+1:=by rw [a2,List.count_append];simp
   have d6:∀ x,x≠id→(l.take (j+1)).count x=(l.take j).count x:=fun x hx=>by
    rw [a2,List.count_append,List.count_cons,List.count_nil]
    have:(id==x)=false:=by simpa using fun h=>hx h.symm
    rw [this];simp
   have f3:=c4.lookup ht hk hk hz c6
   obtain ⟨w5,f4,b7,a8⟩:=c4.update ht hk hk (by unfold maxLen;omega) c6 (x:=((l.take j).count id:Int)+1) (wf_i64 (by omega) (by omega))
   have b7:yX Tryz.prog w5 mb bd bd (fun x=>((l.take (j+1)).count x:Int)) (j+1):=by
    have:QW (fun x=>((l.take j).count x:Int)) id (((l.take j).count id:Int)+1)=fun x=>((l.take (j+1)).count x:Int):=by
     funext x
     unfold QW
     by_cases hx:x=id
     ·rw [if_pos hx,hx,f0];rfl
     ·rw [if_neg hx,d6 x hx]
    rw [this] at b7;exact b7
   have a5:=e8 b5 a8
   refine ⟨_,w3,f3,w5,by rw [ae (by omega) (by omega)];exact f4,?_⟩
   obtain ⟨o',c',gs,R,hC,hF,hP⟩:=h.aa a5
   have a3:id.toNat<gs.length:=by rw [hC.len];exact h1
   obtain ⟨q,hq,_,_,a1,_⟩:=hC.at a3
   have c7:gs[id.toNat].ar=(ax ps id).ar:=by rw [ef h0 h1];exact (hP _ a3 h1).2.1
   refine ⟨fun w'=>Ch ah w5 w',fun w6 e6=>⟨Ch.drew e6,_,_,_,fun w' h=>(hC.af h (fun _ _ _ hN=>hN)).blk.cell 0 rfl,⟨by omega,by omega⟩,?_⟩⟩
   subst hq
   have f5:∀ w',Ch ah w5 w'→w'.cell? ((q.add (id.toNat*3)).add 1)=some (.int .i64 (ax ps id).ar):=fun w' h=>by
    obtain ⟨q',c8,_,_,b1,_⟩:=(hC.af h (fun _ _ _ hN=>hN)).at a3
    have c9:q=q':=Option.some.inj c8
    rw [c9,← c7];exact b1
   have d7:=b7.af (Ch.drew (F:=ah) e6) (fun hN=>hN)
   refine ⟨_,f5,_,w6,d7.lookup ht hk hk hz c6,Ch.drew e6,fun d8=>?_,fun d9=>?_⟩
   ·have d8:=dQt d8
    have ho:oP ps l=true:=by
     unfold oP
     rw [List.any_eq_true]
     exact ⟨id,a7,decide_eq_true (by omega)⟩
    rw [ho]
    have a9:=a5.ag (Ch.drew e6)
    exact ⟨rfl,h.aa a9,a9.any⟩
   ·have d9:=dQf d9
    refine ⟨l.length-(j+1),by omega,j+1,by rw [ae (by omega) (by omega)];rfl,a0,rfl,d7,a5.ag (Ch.drew e6),fun x hx=>?_⟩
    by_cases d0:x=id
    ·subst d0;omega
    ·rw [d6 x d0]
     rw [a2,List.mem_append,List.mem_singleton] at hx
     exact b6 x (hx.resolve_right d0)
  ·have:j=l.length:=by have:=dQf c5;omega
   subst this
   rw [List.take_length] at b6
   have ho:oP ps l=false:=by
    unfold oP
    rw [List.any_eq_false]
    intro x hx h
    have h:=dQt h
    have:=b6 x hx
    omega
   rw [ho]
   clear c4 b6
   refine ⟨fun i k w'=>∃ j:Nat,i=j∧j≤l.length∧k=l.length-j∧dk w' pb (ek ps (l.take j)) F∧Ch F w w',⟨_,0,rfl,Nat.zero_le _,rfl,h.aa b5,b5.any⟩,?_⟩
   rintro jk i k w4 ⟨j,rfl,hj,rfl,b8,d1⟩
   refine ⟨fun a0=>?_,fun c5=>?_⟩
   ·have a0:j<l.length:=by have:=dQt a0;omega
    have f6:=hr.af d1 hd
    obtain ⟨h0,h1⟩:=a6 j a0
    have d2:=qY (l.take j) ps
    have e0:=Nx hB.1 (l.take j) hb
    have f9:(l.take j).length≤1000000:=by rw [List.length_take];omega
    have a2:=Lh ps (l.take j) l[j]
    rw [← au l j a0] at a2
    refine ⟨⟨by omega,by omega⟩,f6.at (j:=(j:Int).toNat*1) (v := .int .i64 l[j]) (by simp [a0]) fun p hp=>⟨_,hp,?_⟩⟩
    generalize l[j]=id at h0 h1 a2
    generalize ek ps (l.take j)=qs at b8 d2 e0 a2
    have g0:=HJ e0 (by omega) id
    obtain ⟨o',c',gs,R,hC,hF,hP⟩:=b8
    have a3:id.toNat<gs.length:=by rw [hC.len];omega
    have b9:id.toNat<qs.length:=by omega
    obtain ⟨q,hq,_,_,a1,_,_,k1,_⟩:=hC.at a3
    subst hq
    have c7:gs[id.toNat].ar=(ax qs id).ar:=by rw [ef h0 b9];exact (hP _ a3 b9).2.1
    refine ⟨_,_,_,hC.blk.cell 0 rfl,⟨by omega,by omega⟩,_,a1,⟨by omega,by omega⟩,k1,fun w5 e5=>?_⟩
    rw [c7,ae (by omega) (by omega)] at e5
    obtain ⟨b2,a8⟩:=hC.put a3 rfl (q:=1) (by omega) e5 (g:=⟨gs[id.toNat].ver,(ax qs id).ar-1,gs[id.toNat].eo,gs[id.toNat].en,gs[id.toNat].ec⟩) rfl
    have e1:id.toNat<(gs.set id.toNat ⟨gs[id.toNat].ver,(ax qs id).ar-1,gs[id.toNat].eo,gs[id.toNat].en,gs[id.toNat].ec⟩).length:=by rw [List.length_set];exact a3
    obtain ⟨q',c8,_,_,b1,_,m0,m1,m2⟩:=b2.at e1
    have c9:q=q':=Option.some.inj c8
    subst c9
    rw [List.getElem_set_self] at b1
    have e3:∀ {ps'} {w'},gi qs id=ps'→dk w' pb ps' F→Ch F w w'→∃ vk:Nat,vk<l.length-j∧∃ j':Nat,IntKind.i64.wrap ((j:Int)+1)=j'∧j'≤l.length∧vk=l.length-j'∧dk w' pb (ek ps (l.take j')) F∧Ch F w w':=fun {ps' w'} he hp hc =>
     ⟨l.length-(j+1),by omega,j+1,by rw [ae (by omega) (by omega)];rfl,a0,rfl,by rw [a2,he];exact hp,hc⟩
    have b3:Ch F w w5:=d1.same (a8.mono (fun i _ hi=>hF 1 i hi))
    obtain ⟨x1,x2,x3,x4⟩:=hP _ a3 b9
    rw [← ef h0 b9] at x1 x3 x4
    refine ⟨_,_,_,b2.blk.cell 0 rfl,⟨by omega,by omega⟩,_,b1,fun d3=>?_,fun d4=>?_⟩
    ·have d3:(ax qs id).ar-1=0:=by simpa using d3
     refine ⟨_,_,_,b2.blk.cell 0 rfl,⟨by omega,by omega⟩,⟨m0,m1,m2⟩,fun w6 e6=>?_⟩
     obtain ⟨e4,a9⟩:=b2.Qv e1 rfl (g:=⟨0,0,none,0,0⟩) e6
     rw [List.set_set] at e4
     refine e3 (ps':=qs.set id.toNat qD) (by unfold gi;rw [if_pos d3]) ?_ (b3.same (a9.mono (fun i _ hi=>hF 1 i hi)))
     exact dk.write e4 (a8.same a9) hF (by rw [List.length_set]) (Kg.set hP ⟨rfl,rfl,rfl,[],Own.nil _ _ _ _,.nil,fun e he=>by cases he⟩)
    ·have d4:¬ (ax qs id).ar-1=0:=by simpa using d4
     refine e3 (ps':=iy (-1) qs id) (by unfold gi;rw [if_neg d4]) ?_ b3
     unfold iy
     exact dk.write b2 a8 hF (by rw [List.length_set]) (Kg.set hP ⟨x1,by show (ax qs id).ar-1=(ax qs id).ar + -1;omega,x3,x4⟩)
   ·have:j=l.length:=by have:=dQf c5;omega
    subst this
    rw [List.take_length] at b8
    exact ⟨rfl,b8,d1⟩
end
end Go.Proofs.YtkbikekbaboclaaGreat.bh
set_option linter.unusedVariables false
set_option linter.unusedSimpArgs false
namespace Go.Proofs.YtkbikekbaboclaaGreat.bh
open Go Go.Proofs V Vc Step Go.RowKit
def ER (ps:List ak) (id:Int):Int:=if mr ps id then (if (ax ps id).ar>1 then 7 else if (ax ps id).es.length≥4 then 10 else 0) else 8
def sf (ps:List ak) (id:Int) (e:gr):List ak:=if ER ps id=0 then ps.set id.toNat { ax ps id with es:=(ax ps id).es++[e] } else ps
def ms (ps:List ak) (l:List Int):List gr:=l.flatMap fun id=>if mr ps id then (ax ps id).es else []
theorem By (ps:List ak) (l:List Int) (x:Int):ms ps (l++[x])=ms ps l++(if mr ps x then (ax ps x).es else []):=by
 unfold ms;rw [List.flatMap_append];simp
theorem uj (qs:List (Value × Value)) (q:Value × Value):(qs.map ei).flatten++[q.1,q.2]=((qs++[q]).map ei).flatten:=by simp [ei]
section
variable {w:World} {pb:Nat} {ps:List ak} {F G:Nat→Prop} {o:OA} {l:List Int}
theorem PC (h:dk w pb ps F) (id:Int) {p:Value × Value} {e:gr} (he:oE w p e G) (hs:BW e) :
  Calls Tryz.prog BA #[.pointer (some ⟨pb,0,none⟩),.int .i64 id,.agg #[p.1,p.2]] w (bc fun v w'=>v = .int .i64 (ER ps id)∧dk w' pb (sf ps id e) (Ext F w w')∧Ch F w w'):=by
 obtain ⟨a,b⟩:=p
 have f3:=he
 obtain ⟨⟨o1,c1,h3,d9,_,_⟩,⟨o2,c2,h4,e0,_,_⟩⟩:=he
 dsimp only at d9 e0
 subst d9;subst e0
 have a4:∀ {w'},dk w' pb ps F→dk w' pb ps (Ext F w w'):=fun h=>h.mono (fun i _ hi => .inl hi)
 have h5:=h.lt.1
 obtain ⟨o',c',gs,R,b9,hF,d0⟩:=h
 have h:dk w pb ps F:=⟨o',c',gs,R,b9,hF,d0⟩
 refine EL.calls _ _ _ _ _ _ _ _ ?_
 intro w1 e1
 have c0:=ba.new e1
 have c0:ba w1 w.heap.size [.slice o1 e.1.length c1,.slice o2 e.2.length c2] bj:=c0
 have a6:Ch ah w w1:=Ch.alloc e1
 have h1:=h.aa a6
 have e2:=f3.aa a6
 refine ab (tW h1 id) ?_
 rintro v w2 ⟨rfl,rfl⟩
 unfold sf ER
 refine ⟨_,rfl,fun hb=>?_,fun hb=>?_⟩
 ·have hb:mr ps id=false:=by simpa using hb
  rw [hb,if_neg Bool.false_ne_true,if_neg (by decide)]
  exact ⟨rfl,a4 h1,a6.any⟩
 have hb:mr ps id=true:=by simpa using hb
 rw [hb,if_pos rfl]
 obtain ⟨h0,hj⟩:=gz hb
 have hC:ot w2 pb o' c' gs R ps.length:=b9.af a6 (fun _ _ _ hN=>hN)
 have hP:∀ (i:Nat) (h1:i<gs.length) (h2:i<ps.length),Kg w2 gs[i] ps[i] (R (3+i)) (R 2):=fun i h1 h2=>(d0 i h1 h2).af a6 (fun _ _ _ hN=>hN) (fun _ _ _ hN=>hN)
 have c4:id.toNat<gs.length:=by rw [hC.len];exact hj
 obtain ⟨p,hp,_,_,a1,a2,_⟩:=hC.at c4
 obtain ⟨g1,g2,g3,qs,e4,b6,e5⟩:=hP _ c4 hj
 rw [← ef h0 hj] at g1 g2 g3 b6 e5
 rw [g2] at a1
 rw [g3] at a2
 subst hp
 refine ⟨_,_,_,hC.blk.cell 0 rfl,⟨by omega,by omega⟩,_,a1,fun hu=>?_,fun hu=>?_⟩
 ·have hu:=dQt hu
  rw [if_pos hu,if_neg (by decide)]
  exact ⟨rfl,a4 h1,a6.any⟩
 have hu:=dQf hu
 rw [if_neg hu]
 refine ⟨_,_,_,hC.blk.cell 0 rfl,⟨by omega,by omega⟩,_,_,_,a2,fun hf=>?_,fun hf=>?_⟩
 ·have hf:=dQt hf
  rw [if_pos (by omega),if_neg (by decide)]
  exact ⟨rfl,a4 h1,a6.any⟩
 have hf:=dQf hf
 rw [if_neg (by omega),if_pos rfl]
 have d1:∀ k,¬ R k w.heap.size:=fun k hk=>Nat.lt_irrefl _ (b9.fam.1 k _ hk)
 have h6:pb≠w.heap.size:=fun e=>d1 0 (e▸b9.z)
 clear a1 a2 d0 b9
 refine ⟨fun w'=>ba w' w.heap.size [.slice o1 e.1.length c1,.slice o2 e.2.length c2] bj∧ba w' pb [.slice (some p) ps.length c'] oH,fun w3 e3=>⟨⟨c0.drew e3,hC.blk.drew e3⟩,_,_,_,fun w' h=>h.2.cell 0 rfl,_,_,_,fun w' h=>h.2.cell 0 rfl,⟨by omega,by omega⟩,?_⟩⟩
 have b7:Ch ah w2 w3:=Ch.drew e3
 have a8:ot w3 pb (some p) c' gs R ps.length:=hC.af b7 (fun _ _ _ hN=>hN)
 have f4:∀ (i:Nat) (h1:i<gs.length) (h2:i<ps.length),Kg w3 gs[i] ps[i] (R (3+i)) (R 2):=fun i h1 h2=>(hP i h1 h2).af b7 (fun _ _ _ hN=>hN) (fun _ _ _ hN=>hN)
 have e6:=c0.drew e3
 have d2:=e4.aa b7
 have f5:=e2.aa b7
 have c5:df (fun q e=>oE w3 q e (R 2)) qs (ax ps id).es:=b6.imp (fun _ _ k=>k.aa b7)
 have c6:Ch ah w w3:=a6.ag b7
 clear e3 e1 hC hP c0 e4 e2 b6 h1 b7 a6
 have d3:∀ {w'},Ch ah w3 w'→w'.cell? ((p.add (id.toNat*3)).add 2)=some (.slice gs[id.toNat].eo (ax ps id).es.length gs[id.toNat].ec):=fun {w'} hc=>by
  obtain ⟨p',d4,_,_,_,b2,_⟩:=(a8.af hc (fun _ _ _ hN=>hN)).at c4
  have d5:p=p':=Option.some.inj d4
  rw [d5,← g3];exact b2
 have hS:∀ {w'},Ch ah w3 w'→ba w' w.heap.size [.slice o1 e.1.length c1,.slice o2 e.2.length c2] bj∧ba w' pb [.slice (some p) ps.length c'] oH:=fun hc=>⟨e6.aa hc,a8.blk.aa hc⟩
 have tail:∀ (w7 w8:World) (q:Value × Value),Ch ah w3 w7→oE w7 q e (db w3 w7)→w8=w7.alloc (.cells #[q.1,q.2] bj (0,0)) →
   ∃ (o9:OA) (n9 c9:Nat) (w9:World),(Builtin.append_ #[fq,fq] fq #[.slice gs[id.toNat].eo (ax ps id).es.length gs[id.toNat].ec,.slice (some ⟨w7.heap.size,0,none⟩) 1 1]).run Tryz.prog w8 = .ok (.slice o9 n9 c9) w9 ∧
    (ba w9 w.heap.size [.slice o1 e.1.length c1,.slice o2 e.2.length c2] bj∧ba w9 pb [.slice (some p) ps.length c'] oH)∧(0≤id∧id<((ps.length:Nat):Int))∧jr (some p) fun p_3 =>
     ((∃ u,w9.cell? ((p_3.add (id.toNat*3)).add 2)=some u)∧w9.frozen? ((p_3.add (id.toNat*3)).add 2)=false)∧∀ a9:World,a9=w9.setCell ((p_3.add (id.toNat*3)).add 2) (.slice o9 n9 c9) →
      (ba a9 w.heap.size [.slice o1 e.1.length c1,.slice o2 e.2.length c2] bj∧ba a9 pb [.slice (some p) ps.length c'] oH) ∧
      (Value.int .i64 0 = .int .i64 0∧dk a9 pb (ps.set id.toNat { ax ps id with es:=(ax ps id).es++[e] }) (Ext F w a9)∧Ch F w a9):=by
  intro w7 w8 q a0 hq e8
  obtain ⟨qa,qb⟩:=q
  have b8:=hq
  obtain ⟨⟨oa,ca,va,b3,_,_⟩,⟨ob,cb,vb,b4,_,_⟩⟩:=hq
  dsimp only at b3 b4
  subst b3;subst b4
  have c7:=d2.aa a0
  rw [g3] at c7
  obtain ⟨o9,c9,w9,f6,f7,a7⟩:=Own.push ja c7 fq e8 rfl rfl (by unfold maxLen;omega) (by omega)
  have a3:=a8.fam
  have f8:=a3.QW a0.size 2
  have e7:=f8.QW a7.size (3+id.toNat)
  have r0:ph (ph R 2 w3 w7) (3+id.toNat) w7 w9 0=R 0:=by rw [jn (by omega),jn (by omega)]
  have r1:ph (ph R 2 w3 w7) (3+id.toNat) w7 w9 1=R 1:=by rw [jn (by omega),jn (by omega)]
  have r2:ph (ph R 2 w3 w7) (3+id.toNat) w7 w9 2=Ext (R 2) w3 w7:=by rw [jn (by omega),yi]
  have rj:ph (ph R 2 w3 w7) (3+id.toNat) w7 w9 (3+id.toNat)=Ext (R (3+id.toNat)) w7 w9:=by rw [yi,jn (by omega)]
  have ri:∀ i,i≠id.toNat→ph (ph R 2 w3 w7) (3+id.toNat) w7 w9 (3+i)=R (3+i):=fun i hi=>by rw [jn (by omega),jn (by omega)]
  generalize ph (ph R 2 w3 w7) (3+id.toNat) w7 w9=R9 at e7 r0 r1 r2 rj ri
  have f9:=a0.size
  have g0:=a7.size
  have g4:=c6.size
  have d6:ot w9 pb (some p) c' gs R9 ps.length:=⟨e7,by rw [r0];exact a8.z,(a8.blk.aa a0).af a7 (fun hx=>a3.2 0 (3+id.toNat) (by omega) pb a8.z hx),by rw [r1];exact (a8.own.aa a0).af a7 (fun i _ a b=>a3.2 1 (3+id.toNat) (by omega) i a b),a8.len⟩
  have e9:ba w9 w.heap.size [.slice o1 e.1.length c1,.slice o2 e.2.length c2] bj:=(e6.aa a0).af a7 (d1 _)
  obtain ⟨p',d4,_,_,_,_,_,_,k2⟩:=d6.at c4
  have d5:p=p':=Option.some.inj d4
  subst d5
  refine ⟨o9,(ax ps id).es.length+1,c9,w9,f6,⟨e9,d6.blk⟩,⟨by omega,by omega⟩,?_⟩
  refine ⟨k2,fun a9 g5=>?_⟩
  obtain ⟨c8,a5⟩:=d6.put c4 rfl (q:=2) (by omega) g5 (g:=⟨gs[id.toNat].ver,gs[id.toNat].ar,o9,(ax ps id).es.length+1,c9⟩) rfl
  rw [r1] at a5
  have f0:=a5.size
  refine ⟨⟨e9.af a5 (d1 _),c8.blk⟩,rfl,?_,?_⟩
  ·have hw:dk a9 pb (ps.set id.toNat { ax ps id with es:=(ax ps id).es++[e] }) (Ext F w w9):=by
    refine dk.write (w:=w9) c8 (by rw [r1];exact a5) (fun k i hi=>?_) (by rw [List.length_set]) (fun i h1 h2=>?_)
    ·by_cases g6:k=2
     ·subst g6
      rw [r2] at hi
      rcases hi with hi|hi
      ·exact .inl (hF _ _ hi)
      ·exact .inr ⟨by have:=hi.1;omega,by have:=hi.2;omega⟩
     by_cases g7:k=3+id.toNat
     ·subst g7
      rw [rj] at hi
      rcases hi with hi|hi
      ·exact .inl (hF _ _ hi)
      ·exact .inr ⟨by have:=hi.1;omega,by have:=hi.2;omega⟩
     ·have:R9 k=R k:=by
       by_cases g8:k=0
       ·subst g8;exact r0
       by_cases g9:k=1
       ·subst g9;exact r1
       obtain ⟨m,rfl⟩:∃ m,k=3+m:=⟨k-3,by omega⟩
       exact ri m (by omega)
      rw [this] at hi
      exact .inl (hF _ _ hi)
    ·rw [List.getElem_set,List.getElem_set]
     split
     ·rename_i d7
      subst d7
      rw [rj,r2]
      refine ⟨g1,g2,by simp,qs++[(.slice oa e.1.length ca,.slice ob e.2.length cb)],?_,?_,fun x hx=>?_⟩
      ·rw [← uj];exact f7
      ·refine df.snoc (c5.imp fun q x k=>?_) ?_
       ·exact ((k.aa a0).af a7 (fun i _ a b=>a3.2 2 (3+id.toNat) (by omega) i a b)).mono (fun i _ hi => .inl hi)
       ·exact (b8.af a7 (fun i _ a b=>absurd (a3.1 _ _ b) (Nat.not_lt.2 a.1))).mono (fun i _ hi => .inr hi)
      ·rcases List.mem_append.1 hx with hx|hx
       ·exact e5 x hx
       ·rw [List.mem_singleton] at hx;subst hx;exact hs
     ·rename_i d7
      rw [ri i (fun h=>d7 h.symm),r2]
      have h1:i<gs.length:=by simpa using h1
      have h2:i<ps.length:=by simpa using h2
      obtain ⟨x1,x2,x3,qs',x4,x5,x6⟩:=((f4 i h1 h2).af a0 (fun _ _ _ hN=>hN) (fun _ _ _ hN=>hN)).af a7 (fun m _ a b=>a3.2 (3+i) (3+id.toNat) (by omega) m a b) (fun m _ a b=>a3.2 2 (3+id.toNat) (by omega) m a b)
      exact ⟨x1,x2,x3,qs',x4,x5.imp (fun _ _ k=>k.mono (fun m _ hm => .inl hm)),x6⟩
   exact hw.mono (fun i _ hi=>hi.imp_right (fun h=>⟨h.1,by have:=h.2;omega⟩))
  ·exact (((c6.ag a0).any (F:=F)).same (a7.mono (fun i _ hi=>hF _ _ hi))).same (a5.mono (fun i _ hi=>hF _ _ hi))
 have b5:Calls Tryz.prog xn #[.agg #[.slice o1 e.1.length c1,.slice o2 e.2.length c2]] w3 (bc fun v w'=>∃ q:Value × Value,v = .agg #[q.1,q.2]∧oE w' q e (db w3 w')∧Ch ah w3 w'):=yl (p:=(.slice o1 e.1.length c1,.slice o2 e.2.length c2)) f5 hs
 refine ⟨_,_,_,_,_,_,⟨fun w' h=>h.1.cell 0 rfl,fun w' h=>h.1.cell 1 rfl⟩,⟨_,_,_,d3 (Ch.refl _ _),hS (Ch.refl _ _),?_⟩,?_,trivial⟩
 ·refine ab b5 ?_
  rintro v w7 ⟨⟨qa,qb⟩,rfl,hq,a0⟩
  have b8:=hq
  obtain ⟨⟨oa,ca,va,b3,_,_⟩,⟨ob,cb,vb,b4,_,_⟩⟩:=hq
  dsimp only at b3 b4
  subst b3;subst b4
  refine ⟨oa,_,ca,ob,_,cb,rfl,hS a0,fun w8 e8=>?_⟩
  exact ⟨hS (a0.ag (Ch.alloc e8)),tail w7 w8 (.slice oa e.1.length ca,.slice ob e.2.length cb) a0 b8 e8⟩
 ·refine ab b5 ?_
  rintro v w7 ⟨⟨qa,qb⟩,rfl,hq,a0⟩
  have b8:=hq
  obtain ⟨⟨oa,ca,va,b3,_,_⟩,⟨ob,cb,vb,b4,_,_⟩⟩:=hq
  dsimp only at b3 b4
  subst b3;subst b4
  refine ⟨oa,_,ca,ob,_,cb,rfl,hS a0,?_⟩
  refine ⟨?_,fun w8 e8=>?_,trivial⟩
  ·refine ⟨_,_,_,d3 a0,hS a0,fun w8 e8=>?_⟩
   exact ⟨hS (a0.ag (Ch.alloc e8)),tail w7 w8 (.slice oa e.1.length ca,.slice ob e.2.length cb) a0 b8 e8⟩
  ·have d8:Ch ah w3 w8:=a0.ag (Ch.alloc e8)
   refine ⟨hS d8,_,_,_,d3 d8,hS d8,?_⟩
   exact tail w7 w8 (.slice oa e.1.length ca,.slice ob e.2.length cb) a0 b8 e8
theorem JA (a0:∀ p∈ps,p.es.length≤4):∀ l:List Int,(ms ps l).length≤4*l.length:=fun l=>by
 induction l with
 | nil=>simp [ms]
 | cons x r ih =>
  have:ms ps (x :: r)=(if mr ps x then (ax ps x).es else [])++ms ps r:=by unfold ms;rw [List.flatMap_cons]
  rw [this,List.length_append,List.length_cons]
  split
  ·rename_i hb
   obtain ⟨h0,h1⟩:=gz hb
   rw [ef h0 h1]
   have:=a0 _ (List.getElem_mem h1)
   omega
  ·simp;omega
theorem OL (h:dk w pb ps F) (hr:Rd w o (l.map (.int .i64)) G) (b9:∀ p∈ps,p.es.length≤4) (hl:l.length≤10000) (c:Nat) :
  Calls Tryz.prog mw #[.pointer (some ⟨pb,0,none⟩),.slice o l.length c] w (bc fun v w'=>∃ (o':OA) (c':Nat) (qs:List (Value × Value)) (F1 F2:Nat→Prop),v = .slice o' (ms ps l).length c'∧Build w w' bj 2 o' (ms ps l).length c' (qs.map ei).flatten F1 F2∧df (fun q e=>oE w' q e F2) qs (ms ps l)):=by
 refine xK.calls _ _ _ _ ?_
 refine ⟨fun oA oN oC i k w'=>∃ (j:Nat) (qs:List (Value × Value)) (F1 F2:Nat→Prop),i=j∧j≤l.length∧k=l.length-j∧oN=(ms ps (l.take j)).length∧Build w w' bj 2 oA oN oC (qs.map ei).flatten F1 F2∧df (fun q e=>oE w' q e F2) qs (ms ps (l.take j)),⟨_,0,[],_,_,rfl,Nat.zero_le _,rfl,rfl,Build.nil (Ch.refl _ _),.nil⟩,?_⟩
 rintro jk oA oN oC i k w1 ⟨j,qs,F1,F2,rfl,hj,rfl,rfl,hB,hA⟩
 refine ⟨fun a5=>?_,fun e0=>?_⟩
 ·have a5:j<l.length:=by have:=dQt a5;omega
  have a1:=By ps (l.take j) l[j]
  rw [← au l j a5] at a1
  have e8:=JA b9 (l.take j)
  have e9:(l.take j).length≤10000:=by rw [List.length_take];omega
  refine ⟨⟨by omega,by omega⟩,(hr.aa hB.ch).at (j:=(j:Int).toNat*1) (v := .int .i64 l[j]) (by simp [a5]) fun p hp=>⟨_,hp,?_⟩⟩
  generalize l[j]=id at a1
  have e1:=h.aa hB.ch
  refine ab (tW e1 id) ?_
  rintro v w2 ⟨rfl,rfl⟩
  refine ⟨_,rfl,fun hb=>?_,fun hb=>?_⟩
  ·have hb:mr ps id=false:=by simpa using hb
   rw [hb,if_neg Bool.false_ne_true,List.append_nil] at a1
   refine ⟨l.length-(j+1),by omega,j+1,qs,F1,F2,by rw [ae (by omega) (by omega)];rfl,a5,rfl,by rw [a1],hB,by rw [a1];exact hA⟩
  have hb:mr ps id=true:=by simpa using hb
  obtain ⟨h0,h1⟩:=gz hb
  rw [hb,if_pos rfl] at a1
  have hw:=h
  obtain ⟨o',c',gs,R,c4,hF,hP⟩:=hw
  have hC:ot w2 pb o' c' gs R ps.length:=c4.af hB.ch (fun _ _ _ hN=>hN)
  have c5:id.toNat<gs.length:=by rw [hC.len];exact h1
  obtain ⟨q,hq,_,_,_,a2,_⟩:=hC.at c5
  obtain ⟨_,_,g3,us,c6,a8,b2⟩:=hP _ c5 h1
  have c7:ps[id.toNat].es.length≤4:=b9 _ (List.getElem_mem h1)
  rw [← ef h0 h1] at g3 a8 b2 c7
  rw [g3] at a2
  subst hq
  refine ⟨_,_,_,hC.blk.cell 0 rfl,⟨by omega,by omega⟩,_,_,_,a2,?_⟩
  have c9:=c6.rd
  generalize (ax ps id).es=es at a1 a8 b2 c7
  generalize gs[id.toNat].eo=eo at c9
  clear c6 a2 hP hF hC c4
  refine ⟨fun oA oN oC i k w'=>∃ (m:Nat) (qs:List (Value × Value)) (F1 F2:Nat→Prop),i=m∧m≤es.length∧k=es.length-m∧oN=(ms ps (l.take j)++es.take m).length∧Build w w' bj 2 oA oN oC (qs.map ei).flatten F1 F2∧df (fun q e=>oE w' q e F2) qs (ms ps (l.take j)++es.take m),⟨_,0,qs,F1,F2,rfl,Nat.zero_le _,rfl,by simp,hB,by simpa using hA⟩,?_⟩
  clear hA hB
  rintro jk oA oN oC i k w3 ⟨m,qs,F1,F2,rfl,hm,rfl,rfl,hB,hA⟩
  refine ⟨fun a0=>?_,fun b3=>?_⟩
  ·have a0:m<es.length:=by have:=dQt a0;omega
   have b4:m<us.length:=by rw [a8.length];exact a0
   obtain ⟨f0,f3⟩:=Iy us b4
   have hE:=a8.get m b4 a0
   obtain ⟨p,hp,_,_,a3⟩:=(c9.aa hB.ch).elem (sz:=2) (enc:=ei) (fun _=>rfl) (by omega) b4
   have c0:=a3 0 _ rfl
   have c1:=a3 1 _ rfl
   rw [cm] at c0
   have a9:=hE.aa hB.ch
   have d0:=b2 _ (List.getElem_mem a0)
   have b5:=au es m a0
   generalize us[m]=u at a9 c0 c1
   generalize es[m]=e at a9 d0 b5
   obtain ⟨ua,ub⟩:=u
   have b6:=a9
   obtain ⟨⟨o1,a6,f4,d1,_,_⟩,⟨o2,a7,f5,d2,_,_⟩⟩:=a9
   dsimp only at d1 d2 c0 c1
   subst d1;subst d2
   subst hp
   refine ⟨⟨by omega,by omega⟩,?_⟩
   refine ⟨o1,_,a6,o2,_,a7,⟨c0,c1⟩,fun w4 e4=>?_⟩
   have hV:=ba.new e4
   refine ⟨⟨hV.ok 0 rfl,hV.ok 1 rfl⟩,fun w5 e5=>?_⟩
   have e6:w5=w4.setCells w3.heap.size 0 [.slice o1 e.1.length a6,.slice o2 e.2.length a7]:=e5
   have d3:=hV.all [.slice o1 e.1.length a6,.slice o2 e.2.length a7] rfl e6
   have a4:Ch ah w3 w5:=(Ch.alloc (F:=ah) e4).trans (Ch.fr (F:=(·=w3.heap.size)) e6 rfl) (fun i hi he=>by omega)
   clear e4 e5 e6 hV
   refine ⟨o1,_,a6,o2,_,a7,⟨d3.cell 0 rfl,d3.cell 1 rfl⟩,?_⟩
   refine ab (yl (p:=(.slice o1 e.1.length a6,.slice o2 e.2.length a7)) (b6.aa a4) d0) ?_
   rintro v w6 ⟨⟨qa,qb⟩,rfl,hQ,d4⟩
   have e2:=hQ
   obtain ⟨⟨oa,ca,va,d5,_,_⟩,⟨ob,cb,vb,d6,_,_⟩⟩:=hQ
   dsimp only at d5 d6
   subst d5;subst d6
   refine ⟨oa,_,ca,ob,_,cb,rfl,fun w7 e7=>?_⟩
   have b7:=(hB.aa a4).more d4
   have b8:(ms ps (l.take j)++es.take m).length<1000000:=by rw [List.length_append,List.length_take];omega
   obtain ⟨o8,c8,w8,F8,d7,d8,d9⟩:=b7.push ja fq e7 rfl rfl b8 (by omega)
   have e3:(ms ps (l.take j)++es.take m).length+1=(ms ps (l.take j)++es.take (m+1)).length:=by rw [b5,← List.append_assoc,List.length_append (bs:=[e])];rfl
   rw [e3] at d8 d7
   refine ⟨o8,_,c8,w8,d7,es.length-(m+1),by omega,m+1,qs++[(.slice oa e.1.length ca,.slice ob e.2.length cb)],F8,_,by rw [ae (by omega) (by omega)];rfl,a0,rfl,rfl,by rw [← uj];exact d8,?_⟩
   rw [b5,← List.append_assoc]
   refine df.snoc (hA.imp fun q x k=>?_) ?_
   ·exact (((k.aa a4).aa d4).mono (fun i _ hi => .inl hi)).af d9 (fun i _ hi h=>b7.ap i h hi)
   ·exact oE.af (F:=Ext F2 w5 w6) (e2.mono (fun i _ hi => .inr hi)) d9 (fun i _ hi h=>b7.ap i h hi)
  ·have:m=es.length:=by have:=dQf b3;omega
   subst this
   rw [List.take_length,← a1] at hA hB
   exact ⟨l.length-(j+1),by omega,j+1,qs,F1,F2,by rw [ae (by omega) (by omega)];rfl,a5,rfl,by rw [a1,List.take_length],by rw [List.take_length,← a1];exact hB,hA⟩
 ·have:j=l.length:=by have:=dQf e0;omega
  subst this
  rw [List.take_length] at hB hA
  exact ⟨oA,oC,qs,F1,F2,by rw [List.take_length],hB,hA⟩
end
end Go.Proofs.YtkbikekbaboclaaGreat.bh
