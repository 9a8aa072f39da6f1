import Derived.Test.YtkbikekbaboclaaGreatCut
import Derived.Test.YtkbikekbaboclaaGreatVc
import Derived.Test.YtkbikekbaboclaaGreatH
import Derived.Test.YtkbikekbaboclaaGreatProg
import Derived.KernelRfl
import Derived.Lib.Overlaps
import Derived.Lib.AppendZerosOnto
import Derived.Laws.IdiomCopy
import Derived.Test.YtkbikekbaboclaaGreatPkB
import Derived.Test.YtkbikekbaboclaaGreatPkVa
import Derived.Test.YtkbikekbaboclaaGreatPkA
set_option linter.unusedVariables false
set_option linter.unusedSimpArgs false
namespace Go.Proofs.YtkbikekbaboclaaGreat.gm
open Go Go.Proofs V Vc fv Go.RowKit
theorem au {α:Type} (l:List α) (j:Nat) (h:j<l.length):l.take (j+1)=l.take j++[l[j]]:=List.take_succ_eq_append_getElem h
section
variable {w:World} {o ob:OA} {c cb:Nat} {xs ys:List Int} {F G:Nat→Prop}
theorem lf (h:Rd w o (xs.map (.int .i64)) G) (hl:xs.length≤1000000) (c:Nat):Calls Tryz.prog Ep #[.slice o xs.length c] w (bc fun v w'=>∃ (o':OA) (c':Nat),v = .slice o' xs.length c'∧Rd w' o' (xs.map (.int .i64)) (db w w')∧Ch ah w w'):=by
 refine oI.calls _ _ _ ?_
 refine ⟨fun hn=>?_,fun hn w1 e1=>?_⟩
 ·have hx:xs=[]:=by
   cases xs with
   | nil=>rfl
   | cons x r =>
    obtain ⟨a,ha,_⟩:=h 0 (.int .i64 x) rfl
    rw [ha] at hn;cases hn
  subst hx
  exact ⟨none,0,rfl,Rd.nil _ _ _,Ch.refl _ _⟩
 ·have hg:Gr ah w w1 bd 1 (some ⟨w.heap.size,0,none⟩) 0 0 []:=Gr.nG (Ch.refl _ _) e1
  obtain ⟨o',c',w',hr,a0,_⟩:=Gr.HL (c2:=c) (m:=xs.length) bi hg ay (h.aa (Ch.alloc e1)) (by simp) (fun u hu=>by
   obtain ⟨x,_,rfl⟩:=List.mem_map.1 hu
   rfl) (by omega) (by omega)
  rw [Nat.zero_add,List.nil_append] at a0
  rw [Nat.zero_add] at hr
  exact ⟨_,_,_,w',hr,o',c',rfl,a0.rd,a0.2⟩
theorem Fq (ha:Rd w o (xs.map (.int .i64)) F) (hb:Rd w ob (ys.map (.int .i64)) G) (hl:xs.length≤1000000000) (c cb:Nat) :
  Calls Tryz.prog wA #[.slice o xs.length c,.slice ob ys.length cb] w (bc fun v w'=>v = .bool (decide (xs=ys))∧Ch ah w w'):=by
 refine AT.calls _ _ _ _ _ _ ?_
 refine ⟨fun h=>?_,fun h=>?_⟩
 ·have h:xs.length≠ys.length:=by simp at h;omega
  exact ⟨by rw [decide_eq_false (fun e=>h (by rw [e]))],Ch.refl _ _⟩
 have h:xs.length=ys.length:=by simp at h;omega
 refine ⟨fun i k w'=>∃ j:Nat,i=j∧j≤xs.length∧k=xs.length-j∧xs.take j=ys.take j∧Ch ah w w',⟨_,0,rfl,Nat.zero_le _,rfl,rfl,Ch.refl _ _⟩,?_⟩
 rintro jk i k w1 ⟨j,rfl,hj,rfl,he,hc⟩
 refine ⟨fun a0=>?_,fun a3=>?_⟩
 ·have a0:j<xs.length:=by simpa using a0
  have a1:j<ys.length:=by omega
  refine ⟨fun w2=>Ch ah w w2,fun w2 e2=>⟨hc.ag (Ch.drew e2),⟨by omega,by omega⟩,Rd.keeps (j:=(j:Int).toNat*1) (S:=fun w2=>Ch ah w w2) (fun w2 h2=>ha.aa h2) hc (by simpa using a0) fun p hp=>⟨_,hp,⟨by omega,by omega⟩,
   Rd.keeps (j:=(j:Int).toNat*1) (S:=fun w2=>Ch ah w w2) (fun w2 h2=>hb.aa h2) hc (by simpa using a1) fun p2 a4=>⟨_,a4,fun a5=>?_,fun a2=>?_⟩⟩⟩⟩
  ·refine ⟨?_,hc.ag (Ch.drew e2)⟩
   rw [decide_eq_false]
   intro e
   subst e
   simp at a5
  ·have a2:xs[j]=ys[j]:=by simpa using a2
   refine ⟨xs.length-(j+1),by omega,j+1,by rw [ae (by omega) (by omega)];rfl,a0,rfl,?_,hc.ag (Ch.drew e2)⟩
   rw [au xs j a0,au ys j a1,he,a2]
 ·have:j=xs.length:=by simp at a3;omega
  subst this
  rw [List.take_length,h,List.take_length] at he
  exact ⟨by rw [decide_eq_true he],hc⟩
end
structure da where
 id:Int
 ver:Int
 ai:List Int
 most:Int
 draws:List Int
deriving DecidableEq
structure di where
 po:OA
 pc:Nat
 qo:OA
 qc:Nat
def dl (q:da × di):List Value:=[.int .i64 q.1.id,.int .i64 q.1.ver,.slice q.2.po q.1.ai.length q.2.pc,.int .i64 q.1.most,.slice q.2.qo q.1.draws.length q.2.qc]
def ik (w:World) (q:da × di) (D:Nat→Prop):Prop:=Rd w q.2.po (q.1.ai.map (.int .i64)) D∧Rd w q.2.qo (q.1.draws.map (.int .i64)) D∧q.1.ai.length≤1000∧q.1.draws.length≤1000
section
variable {w w':World} {q q':da × di} {D D' G:Nat→Prop}
theorem ik.af (h:ik w q D) (hc:Ch G w w') (hd:∀ i,i<w.heap.size→D i→¬ G i):ik w' q D:=⟨h.1.af hc hd,h.2.1.af hc hd,h.2.2⟩
theorem ik.aa (h:ik w q D) (hc:Ch ah w w'):ik w' q D:=h.af hc (fun _ _ _=>id)
theorem ik.mono (h:ik w q D) (hg:∀ i,i<w.heap.size→D i→D' i):ik w q D':=⟨h.1.mono hg,h.2.1.mono hg,h.2.2⟩
theorem gq (q:da × di):∀ u∈dl q,u.oneCell'=true:=fun u hu=>by
 simp only [dl,List.mem_cons,List.not_mem_nil,or_false] at hu
 rcases hu with rfl|rfl|rfl|rfl|rfl <;> rfl
theorem asks_one (qs:List (da × di)):∀ u∈(qs.map dl).flatten,u.oneCell'=true:=fun u hu=>by
 obtain ⟨l,hl,hu⟩:=List.mem_flatten.1 hu
 obtain ⟨q,_,rfl⟩:=List.mem_map.1 hl
 exact gq q u hu
def ny (a:da):Int:=if a.most<1∨a.most>32 then 0 else Int.tdiv ((a.ai.length:Int)+a.most+2) 4
theorem MH (w:World) (q:da × di) (hl:q.1.ai.length≤1000000):Calls Tryz.prog JY #[.agg (dl q).toArray] w (bc fun v w'=>v = .int .i64 (ny q.1)∧Ch ah w w'):=by
 refine ML.calls _ _ _ _ _ _ _ _ _ ?_
 intro w1 e1
 have hB:=ba.new e1
 have hc:Ch ah w w1:=Ch.alloc e1
 refine ⟨_,hB.cell 3 rfl,fun h=>⟨by unfold ny;rw [if_pos (.inl (dQt h))],hc⟩,fun h=>?_⟩
 refine ⟨_,hB.cell 3 rfl,fun h2=>⟨by unfold ny;rw [if_pos (.inr (dQt h2))],hc⟩,fun h2=>?_⟩
 have h:=dQf h
 have h2:=dQf h2
 refine ⟨_,_,_,hB.cell 2 rfl,_,hB.cell 3 rfl,by omega,?_,hc⟩
 have e:IntKind.i64.wrap (Int.tdiv (IntKind.i64.wrap (IntKind.i64.wrap (IntKind.i64.wrap (IntKind.i64.wrap ((q.1.ai.length:Int)+q.1.most)-1)+4)-1)) 4)=ny q.1:=by
  unfold ny
  rw [if_neg (by omega),ae (x:=(q.1.ai.length:Int)+q.1.most) (by omega) (by omega),ae (x:=(q.1.ai.length:Int)+q.1.most-1) (by omega) (by omega),ae (x:=(q.1.ai.length:Int)+q.1.most-1+4) (by omega) (by omega),ae (x:=(q.1.ai.length:Int)+q.1.most-1+4-1) (by omega) (by omega)]
  have e1:(q.1.ai.length:Int)+q.1.most-1+4-1=(q.1.ai.length:Int)+q.1.most+2:=by omega
  rw [e1,Int.tdiv_eq_ediv_of_nonneg (by omega),ae (by omega) (by omega)]
 rw [e]
theorem yl (h:ik w q D):Calls Tryz.prog wm #[.agg (dl q).toArray] w (bc fun v w'=>∃ p:di,v = .agg (dl (q.1,p)).toArray∧ik w' (q.1,p) (db w w')∧Ch ah w w'):=by
 obtain ⟨h1,h2,h3,h4⟩:=h
 refine Hm.calls _ _ _ _ _ _ _ _ _ ?_
 intro w1 e1 w2 e2
 have hA:=(ba.new e1).alloc e2
 have hB:=ba.new e2
 have b7:Ch ah w w2:=(Ch.alloc e1).ag (Ch.alloc e2)
 have s1:w.heap.size<w1.heap.size:=(ba.new e1).lt
 have s2:w1.heap.size<w2.heap.size:=hB.lt
 clear e1 e2
 refine ⟨fun w'=>∃ (o4:OA) (c4:Nat) (o5:OA) (c5:Nat),ba w' w.heap.size [.int .i64 q.1.id,.int .i64 q.1.ver,.slice o4 q.1.ai.length c4,.int .i64 q.1.most,.slice o5 q.1.draws.length c5] dx∧ba w' w1.heap.size [.int .i64 0,.int .i64 0,.slice none 0 0,.int .i64 0,.slice none 0 0] dx ∧
  Rd w' o4 (q.1.ai.map (.int .i64)) (db w2 w')∧Rd w' o5 (q.1.draws.map (.int .i64)) (db w2 w')∧Ch ah w w',⟨fun _=>True,fun w3 e3=>⟨trivial,⟨_,_,_,(hA.drew e3).cell 2 rfl,trivial,?_,⟨_,_,_,(hA.drew e3).cell 4 rfl,trivial,?_⟩,trivial⟩,⟨_,_,_,(hA.drew e3).cell 4 rfl,trivial,_,_,_,(hA.drew e3).cell 2 rfl,trivial,?_⟩,trivial⟩⟩,?_⟩
 ·have a5:Ch ah w w3:=b7.ag (Ch.drew e3)
  refine ab (lf (h1.aa a5) (by omega) _) ?_
  rintro v w4 ⟨o4,c4,rfl,a3,a1⟩
  refine ⟨_,_,_,rfl,trivial,_,_,_,((hA.drew e3).aa a1).cell 4 rfl,trivial,?_⟩
  refine ab (lf ((h2.aa a5).aa a1) (by omega) _) ?_
  rintro v w9 ⟨o5,c5,rfl,b2,a2⟩
  have a3:=a3.aa a2
  have a8:=((hA.drew e3).aa a1).aa a2
  have b3:=((hB.drew e3).aa a1).aa a2
  have b4:=(a5.ag a1).ag a2
  have b9:w2.heap.size=w3.heap.size:=by subst e3;rfl
  have c0:=a1.size
  have c6:=a2.size
  refine ⟨_,_,_,rfl,trivial,a8.ok 2 rfl,fun w6 e6=>⟨trivial,?_⟩⟩
  have a9:=a8.set e6
  refine ⟨a9.ok 4 rfl,fun w7 e7=>⟨trivial,?_⟩⟩
  have b5:=a9.set e7
  have a0:Ch (·=w.heap.size) w9 w7:=(Ch.set (F:=(·=w.heap.size)) (p:=⟨w.heap.size,2,none⟩) e6 rfl).same (Ch.set (F:=(·=w.heap.size)) (p:=⟨w.heap.size,4,none⟩) e7 rfl)
  have b6:=a0.size
  exact ⟨_,_,_,_,b5,(b3.af a0 (by omega)),(a3.af a0 (fun i _ hi he=>by have:=hi.1;omega)).mono (fun i hi hN=>⟨by have:=hN.1;omega,hi⟩),(b2.af a0 (fun i _ hi he=>by have:=hi.1;omega)).mono (fun i hi hN=>⟨by have:=hN.1;omega,hi⟩),b4.trans a0 (fun i hi he=>by omega)⟩
 ·have a5:Ch ah w w3:=b7.ag (Ch.drew e3)
  refine ab (lf (h1.aa a5) (by omega) _) ?_
  rintro v w4 ⟨o4,c4,rfl,a3,a1⟩
  refine ⟨_,_,_,rfl,trivial,?_⟩
  refine ab (lf ((h2.aa a5).aa a1) (by omega) _) ?_
  rintro v w9 ⟨o5,c5,rfl,b2,a2⟩
  have a3:=a3.aa a2
  have a8:=((hA.drew e3).aa a1).aa a2
  have b3:=((hB.drew e3).aa a1).aa a2
  have b4:=(a5.ag a1).ag a2
  have b9:w2.heap.size=w3.heap.size:=by subst e3;rfl
  have c0:=a1.size
  have c6:=a2.size
  refine ⟨_,_,_,rfl,trivial,a8.ok 2 rfl,fun w6 e6=>⟨trivial,?_⟩⟩
  have a9:=a8.set e6
  refine ⟨a9.ok 4 rfl,fun w7 e7=>⟨trivial,?_⟩⟩
  have b5:=a9.set e7
  have a0:Ch (·=w.heap.size) w9 w7:=(Ch.set (F:=(·=w.heap.size)) (p:=⟨w.heap.size,2,none⟩) e6 rfl).same (Ch.set (F:=(·=w.heap.size)) (p:=⟨w.heap.size,4,none⟩) e7 rfl)
  have b6:=a0.size
  exact ⟨_,_,_,_,b5,(b3.af a0 (by omega)),(a3.af a0 (fun i _ hi he=>by have:=hi.1;omega)).mono (fun i hi hN=>⟨by have:=hN.1;omega,hi⟩),(b2.af a0 (fun i _ hi he=>by have:=hi.1;omega)).mono (fun i hi hN=>⟨by have:=hN.1;omega,hi⟩),b4.trans a0 (fun i hi he=>by omega)⟩
 ·have a5:Ch ah w w3:=b7.ag (Ch.drew e3)
  refine ab (lf (h1.aa a5) (by omega) _) ?_
  rintro v w4 ⟨o4,c4,rfl,a3,a1⟩
  refine ⟨_,_,_,rfl,trivial,?_⟩
  refine ab (lf ((h2.aa a5).aa a1) (by omega) _) ?_
  rintro v w9 ⟨o5,c5,rfl,b2,a2⟩
  have a3:=a3.aa a2
  have a8:=((hA.drew e3).aa a1).aa a2
  have b3:=((hB.drew e3).aa a1).aa a2
  have b4:=(a5.ag a1).ag a2
  have b9:w2.heap.size=w3.heap.size:=by subst e3;rfl
  have c0:=a1.size
  have c6:=a2.size
  refine ⟨_,_,_,rfl,trivial,a8.ok 2 rfl,fun w6 e6=>⟨trivial,?_⟩⟩
  have a9:=a8.set e6
  refine ⟨a9.ok 4 rfl,fun w7 e7=>⟨trivial,?_⟩⟩
  have b5:=a9.set e7
  have a0:Ch (·=w.heap.size) w9 w7:=(Ch.set (F:=(·=w.heap.size)) (p:=⟨w.heap.size,2,none⟩) e6 rfl).same (Ch.set (F:=(·=w.heap.size)) (p:=⟨w.heap.size,4,none⟩) e7 rfl)
  have b6:=a0.size
  exact ⟨_,_,_,_,b5,(b3.af a0 (by omega)),(a3.af a0 (fun i _ hi he=>by have:=hi.1;omega)).mono (fun i hi hN=>⟨by have:=hN.1;omega,hi⟩),(b2.af a0 (fun i _ hi he=>by have:=hi.1;omega)).mono (fun i hi hN=>⟨by have:=hN.1;omega,hi⟩),b4.trans a0 (fun i hi he=>by omega)⟩
 ·rintro jk c7 ⟨o4,c4,o5,c5,a6,a4,a3,b2,b8⟩
  refine ⟨_,_,_,_,_,_,_,_,_,⟨a6.cell 0 rfl,a6.cell 1 rfl,a6.cell 2 rfl,a6.cell 3 rfl,a6.cell 4 rfl⟩,⟨a4.ok 0 rfl,a4.ok 1 rfl,a4.ok 2 rfl,a4.ok 3 rfl,a4.ok 4 rfl⟩,fun c8 d0=>?_⟩
  have c9:c8=c7.setCells w1.heap.size 0 (dl (q.1,⟨o4,c4,o5,c5⟩)):=d0
  have a7:=a4.all (dl (q.1,⟨o4,c4,o5,c5⟩)) rfl c9
  have a0:Ch (·=w1.heap.size) c7 c8:=Ch.fr c9 rfl
  have hs:=a0.size
  refine ⟨_,_,_,_,_,_,_,_,_,⟨a7.cell 0 rfl,a7.cell 1 rfl,a7.cell 2 rfl,a7.cell 3 rfl,a7.cell 4 rfl⟩,⟨o4,c4,o5,c5⟩,rfl,⟨?_,?_,h3,h4⟩,b8.trans a0 (fun i hi he=>by omega)⟩
  ·exact (a3.af a0 (fun i _ hi he=>by have:=hi.1;omega)).mono (fun i hi hN=>⟨by have:=hN.1;omega,hi⟩)
  ·exact (b2.af a0 (fun i _ hi he=>by have:=hi.1;omega)).mono (fun i hi hN=>⟨by have:=hN.1;omega,hi⟩)
end
end Go.Proofs.YtkbikekbaboclaaGreat.gm
namespace Go.Proofs.YtkbikekbaboclaaGreat.gm
open Go Go.Proofs V Vc fv Go.RowKit
theorem Rj {x y:Int} (h:(x != y)=true):¬ x=y:=by simpa using h
theorem SE {x y:Int} (h:(x != y)=false):x=y:=by simpa using h
section
variable {w w':World} {q q':da × di} {F G:Nat→Prop}
end
structure Mw (w:World) (wb:Nat) (aj:Int) (o:OA) (c:Nat) (qs:List (da × di)) (Fa F D:Nat→Prop):Prop where
 blk:ba w wb [.int .i64 aj,.slice o qs.length c] Ka
 own:Own w dx 5 o qs.length c (qs.map dl).flatten Fa
 Bz:∀ q∈qs,ik w q D
 fx:F wb
 fa:∀ i,Fa i→F i∧i≠wb
 fd:∀ i,D i→F i∧i≠wb∧¬ Fa i
 lt:∀ i,F i→i<w.heap.size
def QR (w:World) (wb:Nat) (aj:Int) (qs:List (da × di)) (F D:Nat→Prop):Prop:=∃ (o:OA) (c:Nat) (Fa:Nat→Prop),Mw w wb aj o c qs Fa F D
def Ip (id:Int) (q:da × di):Bool:=q.1.id==id
def EE (qs:List (da × di)) (id:Int):Int:=if qs.findIdx (Ip id)<qs.length then (qs.findIdx (Ip id):Int) else -1
section
variable {w w':World} {wb n c:Nat} {aj:Int} {o:OA} {qs qs':List (da × di)} {Fa F F' D D' G:Nat→Prop}
theorem Mw.af (h:Mw w wb aj o c qs Fa F D) (hc:Ch G w w') (hd:∀ i,F i→¬ G i):Mw w' wb aj o c qs Fa F D :=
 ⟨h.blk.af hc (hd _ h.fx),h.own.af hc (fun i _ hi=>hd i (h.fa i hi).1),fun q hq=>(h.Bz q hq).af hc (fun i _ hi=>hd i (h.fd i hi).1),h.fx,h.fa,h.fd,fun i hi=>Nat.lt_of_lt_of_le (h.lt i hi) hc.size⟩
theorem Mw.aa (h:Mw w wb aj o c qs Fa F D) (hc:Ch ah w w'):Mw w' wb aj o c qs Fa F D:=h.af hc (fun _ _=>id)
theorem QR.af (h:QR w wb aj qs F D) (hc:Ch G w w') (hd:∀ i,F i→¬ G i):QR w' wb aj qs F D:=by
 obtain ⟨o,c,Fa,hC⟩:=h
 exact ⟨o,c,Fa,hC.af hc hd⟩
theorem QR.aa (h:QR w wb aj qs F D) (hc:Ch ah w w'):QR w' wb aj qs F D:=h.af hc (fun _ _=>id)
theorem Mw.grow (h:Mw w wb aj o c qs Fa F D) (h1:∀ i,F i→F' i) (hD:∀ i,D i→D' i) (h2:∀ i,D' i→F' i∧i≠wb∧¬ Fa i) (h3:∀ i,F' i→i<w.heap.size):Mw w wb aj o c qs Fa F' D' :=
 ⟨h.blk,h.own,fun q hq=>(h.Bz q hq).mono (fun i _ hi=>hD i hi),h1 _ h.fx,fun i hi=>⟨h1 i (h.fa i hi).1,(h.fa i hi).2⟩,h2,h3⟩
theorem Eu (w:World) (n:Int):Calls Tryz.prog Ku #[.int .i64 n] w (bc fun v w'=>(1≤n∧n≤64→v = .pointer (some ⟨w.heap.size,0,none⟩)∧QR w' w.heap.size n [] (·=w.heap.size) ah)∧(¬ (1≤n∧n≤64)→v = .pointer none)∧Ch ah w w'):=by
 refine Pe.calls _ ?_
 refine ⟨fun h=>⟨fun k=>by have:=dQt h;omega,fun _=>rfl,Ch.refl _ _⟩,fun h=>⟨fun h2=>⟨fun k=>by have:=dQt h2;omega,fun _=>rfl,Ch.refl _ _⟩,fun h2 w1 e1=>?_⟩⟩
 have h:=dQf h
 have h2:=dQf h2
 have hB:=ba.new e1
 have hs:=hB.lt
 exact ⟨fun _=>⟨rfl,none,0,ah,hB,Own.nil _ _ _ _,fun q hq=>(by cases hq),rfl,fun _ h=>h.elim,fun _ h=>h.elim,fun i hi=>hi▸hs⟩,fun k=>absurd ⟨by omega,by omega⟩ k,Ch.alloc e1⟩
theorem zS (w:World) (q:da × di) {cb T:Nat} {id:Int} (hb:ba w cb [.int .i64 id] T):Calls Tryz.prog sB #[.agg (dl q).toArray,.pointer (some ⟨cb,0,none⟩)] w (bc fun v w'=>v = .bool (Ip id q)∧Ch ah w w'):=by
 refine Dc.calls _ _ _ _ _ _ _ _ _ _ ?_
 intro w1 e1
 exact ⟨_,(ba.new e1).cell 0 rfl,_,(hb.alloc e1).cell 0 rfl,rfl,Ch.alloc e1⟩
theorem An (hO:Own w dx 5 o qs.length c (qs.map dl).flatten Fa) (hn:qs.length<1000) {cb T:Nat} {id:Int} (hb:ba w cb [.int .i64 id] T) :
  Calls Tryz.prog 144 #[.slice o qs.length c,.func (.func sB) #[] #[.pointer (some ⟨cb,0,none⟩)]] w (bc fun v w'=>v = .int .i64 (EE qs id)∧Ch ah w w'):=by
 refine bf.Ok _ _ _ _ ?_
 refine ⟨fun i k w'=>∃ j:Nat,i=j∧j≤qs.length∧k=qs.length-j∧Ch ah w w'∧∀ m (hm:m<qs.length),m<j→Ip id qs[m]=false,⟨_,0,rfl,Nat.zero_le _,rfl,Ch.refl _ _,fun m _ h=>absurd h (Nat.not_lt_zero _)⟩,?_⟩
 rintro jk i k w1 ⟨j,rfl,hj,rfl,hc,a2⟩
 refine ⟨fun a1=>?_,fun a4=>?_⟩
 ·have a1:j<qs.length:=by have:=dQt a1;omega
  obtain ⟨p,hp,_,_,a0⟩:=(hO.aa hc).rd.elem (sz:=5) (enc:=dl) (fun _=>rfl) (by omega) a1
  have h0:=a0 0 _ rfl
  rw [cm] at h0
  subst hp
  have a5:(j:Int).toNat=j:=Int.toNat_natCast j
  rw [a5]
  refine ⟨⟨by omega,by omega⟩,_,_,_,_,_,_,_,_,_,⟨h0,a0 1 _ rfl,a0 2 _ rfl,a0 3 _ rfl,a0 4 _ rfl⟩,?_⟩
  refine ab (zS w1 qs[j] (hb.aa hc)) ?_
  rintro x w2 ⟨rfl,a3⟩
  refine ⟨_,rfl,fun h=>⟨?_,hc.ag a3⟩,fun h=>⟨qs.length-(j+1),by omega,j+1,by rw [ae (by omega) (by omega)];rfl,a1,rfl,hc.ag a3,fun m hm a7=>?_⟩⟩
  ·have:qs.findIdx (Ip id)=j:=(List.findIdx_eq a1).2 ⟨h,fun m hm=>a2 m (by omega) hm⟩
   unfold EE
   rw [this,if_pos a1]
  ·by_cases he:m=j
   ·subst he;exact h
   ·exact a2 m hm (by omega)
 ·have a6:j=qs.length:=by have:=dQf a4;omega
  subst a6
  refine ⟨?_,hc⟩
  unfold EE
  rw [if_neg]
  intro h
  have h1:=a2 _ h h
  rw [List.findIdx_getElem (w:=h)] at h1
  cases h1
theorem uM (h:QR w wb aj qs F D) (hn:qs.length<1000) (id:Int):Calls Tryz.prog Ei #[.pointer (some ⟨wb,0,none⟩),.int .i64 id] w (bc fun v w'=>v = .int .i64 (EE qs id)∧Ch ah w w'):=by
 obtain ⟨o,c,Fa,hC⟩:=h
 refine HV.calls _ _ ?_
 intro w1 e1
 have a0:=hC.aa (Ch.alloc e1)
 refine ⟨_,_,_,a0.blk.cell 1 rfl,?_⟩
 refine ab (An a0.own hn (ba.new e1)) ?_
 rintro v w2 ⟨rfl,a1⟩
 exact ⟨_,rfl,rfl,(Ch.alloc e1).ag a1⟩
def Em (vocab:Int) (n:Int):Bool:=decide (n<0)||decide (n≥vocab)
theorem FE {b cb T:Nat} {cf:ep} {wt:ByteArray} (hb:Sl w b cf wt) (a0:ba w cb [.pointer (some ⟨b,0,none⟩)] T) (n:Int):Calls Tryz.prog wM #[.int .i64 n,.pointer (some ⟨cb,0,none⟩)] w (bc fun v w'=>v = .bool (Em cf.vocab n)∧w'=w):=by
 refine Hx.calls _ _ ?_
 refine ⟨fun h=>⟨by unfold Em;rw [h];rfl,rfl⟩,fun h=>⟨_,a0.cell 0 rfl,_,ba.cell hb 0 rfl,by unfold Em;rw [h];rfl,rfl⟩⟩
theorem Lf {b cb T:Nat} {cf:ep} {wt:ByteArray} {xs:List Int} (hb:Sl w b cf wt) (a2:ba w cb [.pointer (some ⟨b,0,none⟩)] T) (hr:Rd w o (xs.map (.int .i64)) G) (hl:xs.length≤1000000) (c:Nat) :
  Calls Tryz.prog 91 #[.slice o xs.length c,.func (.func wM) #[] #[.pointer (some ⟨cb,0,none⟩)]] w (bc fun v w'=>∃ i:Int,v = .int .i64 i∧decide (i≥0)=xs.any (Em cf.vocab)∧w'=w):=by
 refine bf.Ej _ _ _ _ ?_
 unfold Vm.A2 Vm.B Vm.Br Vm.G Vm.V Vm.X;dsimp only
 refine ⟨fun i k w'=>∃ j:Nat,i=j∧j≤xs.length∧k=xs.length-j∧w'=w∧(xs.take j).any (Em cf.vocab)=false,⟨_,0,rfl,Nat.zero_le _,rfl,rfl,rfl⟩,?_⟩
 rintro jk i k w1 ⟨j,rfl,hj,rfl,rfl,a1⟩
 refine ⟨fun a0=>?_,fun a3=>?_⟩
 ·have a0:j<xs.length:=by have:=dQt a0;omega
  have a4:(j:Int).toNat*1=j:=by omega
  rw [a4]
  refine ⟨⟨by omega,by omega⟩,hr.PH a0 fun p hp=>⟨_,hp,?_⟩⟩
  refine ab (FE hb a2 xs[j]) ?_
  rintro x w2 ⟨rfl,rfl⟩
  refine ⟨_,rfl,fun h=>⟨_,rfl,?_,rfl⟩,fun h=>⟨xs.length-(j+1),by omega,j+1,by rw [ae (by omega) (by omega)];rfl,a0,rfl,rfl,?_⟩⟩
  ·rw [decide_eq_true (by omega)]
   exact (List.any_eq_true.2 ⟨xs[j],List.getElem_mem a0,h⟩).symm
  ·rw [au xs j a0,List.any_append,a1];simp [h]
 ·have a5:j=xs.length:=by have:=dQf a3;omega
  subst a5
  rw [List.take_length] at a1
  exact ⟨_,rfl,by rw [a1];rfl,rfl⟩
def qG (cf:ep) (most:Int) (xs:List Int):Int :=
 if xs.length=0∨most<1∨most>32 then 1 else if xs.any (Em cf.vocab) then 3 else if (xs.length:Int)+most>cf.context then 12 else 0
theorem KL {b:Nat} {cf:ep} {wt:ByteArray} {xs:List Int} (hb:Sl w b cf wt) (hr:Rd w o (xs.map (.int .i64)) G) (hl:xs.length≤1000000) (most:Int) (c:Nat) :
  Calls Tryz.prog Jy #[.pointer (some ⟨b,0,none⟩),.int .i64 most,.slice o xs.length c] w (bc fun v w'=>v = .int .i64 (qG cf most xs)∧Ch ah w w'):=by
 refine Ms.calls _ _ _ _ _ ?_
 intro w1 e1
 have hB:=ba.new e1
 have hc:Ch ah w w1:=Ch.alloc e1
 refine ⟨_,hB.cell 0 rfl,eg rfl ?_⟩
 refine ⟨fun h=>⟨by unfold qG;rw [if_pos (.inl (by have:=eq_of_beq h;omega))],hc⟩,fun h0=>?_⟩
 have h0:¬ xs.length=0:=fun he=>by rw [he] at h0;simp at h0
 refine ⟨fun h=>⟨by unfold qG;rw [if_pos (.inr (.inl (dQt h)))],hc⟩,fun h1=>?_⟩
 refine ⟨fun h=>⟨by unfold qG;rw [if_pos (.inr (.inr (dQt h)))],hc⟩,fun h2=>?_⟩
 have h1:=dQf h1
 have h2:=dQf h2
 have a0:Sl w1 b cf wt:=ba.aa hb hc
 refine cj.Ej _ _ _ _ ?_
 refine ab (Lf a0 hB (hr.aa hc) hl c) ?_
 rintro v w2 ⟨i,rfl,hi,rfl⟩
 refine ⟨_,rfl,_,rfl,?_,?_⟩
 ·intro h
  rw [hi] at h
  exact ⟨by unfold qG;rw [if_neg (by omega),if_pos h],hc⟩
 ·intro h
  rw [hi] at h
  have a1:¬ xs.any (Em cf.vocab)=true:=by rw [h];decide
  refine ⟨_,hB.cell 0 rfl,?_⟩
  show ∃ _,_
  refine ⟨_,ba.cell a0 5 rfl,?_⟩
  have a2:∀ x,x∈xs→True:=fun _ _=>trivial
  have hw:IntKind.i64.wrap ((xs.length:Int)+most)=(xs.length:Int)+most:=ae (by omega) (by omega)
  rw [hw]
  refine ⟨fun h3=>⟨by unfold qG;rw [if_neg (by omega),if_neg a1,if_pos (dQt h3)],hc⟩,fun h3=>⟨by unfold qG;rw [if_neg (by omega),if_neg a1,if_neg (dQf h3)],hc⟩⟩
end
end Go.Proofs.YtkbikekbaboclaaGreat.gm
namespace Go.Proofs.YtkbikekbaboclaaGreat.gm
open Go Go.Proofs V Vc fv Go.RowKit
structure WX (W w:World) (wb:Nat) (aj:Int) (qs:List (da × di)) (F D:Nat→Prop):Prop where
 x:QR w wb aj qs F D
 f:rl W w F
 c:Ch ah W w
section
variable {W w w' w'':World} {wb n c n' c':Nat} {aj:Int} {o o':OA} {q:da × di} {qs qs':List (da × di)} {Fa F F' D D' G:Nat→Prop}
theorem WX.aa (h:WX W w wb aj qs F D) (hc:Ch ah w w'):WX W w' wb aj qs F D:=⟨h.x.aa hc,h.f.le hc.size,h.c.ag hc⟩
theorem Mw.store (h:Mw w wb aj o c qs Fa F D) (hc:Ch Fa w w') (ho:Own w' dx 5 o' n' c' (qs'.map dl).flatten (Ext Fa w w')) (hn:n'=qs'.length) (hd:∀ q∈qs',ik w q D) :
  ((∃ u,w'.cell? ⟨wb,1,none⟩=some u)∧w'.frozen? ⟨wb,1,none⟩=false)∧∀ w'':World,w''=w'.setCell ⟨wb,1,none⟩ (.slice o' n' c')→Mw w'' wb aj o' c' qs' (Ext Fa w w') (Ext F w w'') D∧Ch F w w'':=by
 have a1:=h.lt _ h.fx
 have hB:=h.blk.af hc (fun hx=>(h.fa wb hx).2 rfl)
 refine ⟨hB.ok 1 rfl,fun w'' e2=>?_⟩
 have a0:Ch (·=wb) w' w'':=Ch.set e2 rfl
 have hx:∀ i,Ext Fa w w' i→i≠wb:=fun i hi he=>by
  subst he
  rcases hi with hi|hi
  ·exact (h.fa _ hi).2 rfl
  ·have:=hi.1;omega
 have hs:=hc.size
 have a2:=a0.size
 subst hn
 refine ⟨⟨hB.set e2,ho.af a0 (fun i _ hi he=>hx i hi he),fun q hq=>((hd q hq).af hc (fun i _ hi=>(h.fd i hi).2.2)).af a0 (fun i _ hi=>(h.fd i hi).2.1),.inl h.fx,fun i hi=>⟨hi.imp (fun k=>(h.fa i k).1) (fun k=>⟨k.1,by have:=k.2;omega⟩),hx i hi⟩,fun i hi=>⟨.inl (h.fd i hi).1,(h.fd i hi).2.1,fun hE=>?_⟩,fun i hi=>?_⟩,?_⟩
 ·rcases hE with hE|hE
  ·exact (h.fd i hi).2.2 hE
  ·have:=h.lt i (h.fd i hi).1;have:=hE.1;omega
 ·rcases hi with hi|hi
  ·have:=h.lt i hi;omega
  ·exact hi.2
 ·exact (hc.mono (fun i _ hi=>(h.fa i hi).1)).same (a0.mono (fun i _ hi=>hi▸h.fx))
def Tc (W w w':World) (wb:Nat) (aj:Int) (al:List da) (F:Nat→Prop):Prop:=∃ (qs':List (da × di)) (F' D':Nat→Prop),WX W w' wb aj qs' F' D'∧qs'.map (·.1)=al∧(∀ i,F' i→Ext F w w' i)∧Ch F w w'
theorem WX.same (h:WX W w wb aj qs F D) (hc:Ch ah w w'):Tc W w w' wb aj (qs.map (·.1)) F:=⟨qs,F,D,h.aa hc,rfl,fun _ h => .inl h,hc.any⟩
def tl (cf:ep) (aj:Int) (qs:List (da × di)) (a:da):Int :=
 if a.id<1∨a.id>2147483647∨(a.draws.length:Int)>32 then 1 else if EE qs a.id≥0 then 9 else if qG cf a.most a.ai≠0 then qG cf a.most a.ai else if ny a>aj then 11 else if (qs.length:Int)≥16 then 10 else 0
set_option maxHeartbeats 1000000 in
theorem Jv {b:Nat} {cf:ep} {wt:ByteArray} (h:WX W w wb aj qs F D) (hb:Sl w b cf wt) (hq:ik w q G) (hn:qs.length<900) :
  Calls Tryz.prog Ac #[.pointer (some ⟨wb,0,none⟩),.pointer (some ⟨b,0,none⟩),.agg (dl q).toArray] w (bc fun v w'=>v = .int .i64 (tl cf aj qs q.1)∧Tc W w w' wb aj (if tl cf aj qs q.1=0 then qs.map (·.1)++[q.1] else qs.map (·.1)) F):=by
 refine Cn.calls _ _ _ _ _ _ _ _ _ _ _ ?_
 have no:∀ {w'},Ch ah w w'→∀ n,tl cf aj qs q.1=n→n≠0→(Value.int IntKind.i64 n = .int .i64 (tl cf aj qs q.1)∧Tc W w w' wb aj (if tl cf aj qs q.1=0 then qs.map (·.1)++[q.1] else qs.map (·.1)) F):=fun hc n he h0=>by
  rw [he,if_neg h0];exact ⟨rfl,h.same hc⟩
 intro w1 e1
 have hB:=ba.new e1
 have b5:Ch ah w w1:=Ch.alloc e1
 have s1:w.heap.size<w1.heap.size:=hB.lt
 have hB:ba w1 w.heap.size (dl q) dx:=hB
 refine ⟨_,hB.cell 0 rfl,fun k=>no b5 1 (by unfold tl;rw [if_pos (.inl (dQt k))]) (by omega),fun k1=>?_⟩
 refine ⟨_,hB.cell 0 rfl,fun k=>no b5 1 (by unfold tl;rw [if_pos (.inr (.inl (dQt k)))]) (by omega),fun k2=>?_⟩
 refine ⟨_,_,_,hB.cell 4 rfl,fun k=>no b5 1 (by unfold tl;rw [if_pos (.inr (.inr (dQt k)))]) (by omega),fun k3=>?_⟩
 have k1:=dQf k1
 have k2:=dQf k2
 have k3:=dQf k3
 have n1:¬ (q.1.id<1∨q.1.id>2147483647∨(q.1.draws.length:Int)>32):=by omega
 refine ⟨_,hB.cell 0 rfl,?_⟩
 refine ab (uM (h.aa b5).x (by omega) q.1.id) ?_
 rintro v w2 ⟨rfl,d3⟩
 have a5:=b5.ag d3
 refine ⟨_,rfl,fun k=>no a5 9 (by unfold tl;rw [if_neg n1,if_pos (dQt k)]) (by omega),fun k4=>?_⟩
 have k4:=dQf k4
 have c6:=hB.aa d3
 refine ⟨_,c6.cell 3 rfl,_,_,_,c6.cell 2 rfl,?_⟩
 obtain ⟨q1,q2,q3,q4⟩:=hq
 refine ab (KL (ba.aa hb a5) (q1.aa a5) (by omega) q.1.most _) ?_
 rintro v w3 ⟨rfl,d4⟩
 have a9:=a5.ag d4
 refine ⟨_,rfl,fun k=>no a9 _ (by unfold tl;rw [if_neg n1,if_neg k4,if_pos (Rj k)]) (Rj k),fun k5=>?_⟩
 have k5:=SE k5
 have b3:=c6.aa d4
 obtain ⟨o,c,Fa,hC⟩:=(h.aa a9).x
 refine ⟨fun w'=>Ch ah w3 w',fun w4 e4=>⟨Ch.drew e4,_,_,_,_,_,_,_,_,_,⟨fun w' hc=>(b3.aa hc).cell 0 rfl,fun w' hc=>(b3.aa hc).cell 1 rfl,fun w' hc=>(b3.aa hc).cell 2 rfl,fun w' hc=>(b3.aa hc).cell 3 rfl,fun w' hc=>(b3.aa hc).cell 4 rfl⟩,_,fun w' hc=>(hC.aa hc).blk.cell 0 rfl,?_⟩⟩
 refine ab (MH w4 q (by omega)) ?_
 rintro v w7 ⟨rfl,d6⟩
 have a6:=(Ch.drew (F:=ah) e4).ag d6
 have a2:=a9.ag a6
 have a4:=hC.aa a6
 refine ⟨_,rfl,a6,fun k=>no a2 11 (by unfold tl;rw [if_neg n1,if_neg k4,if_neg (by omega),if_pos (dQt k)]) (by omega),fun k6=>?_⟩
 have k6:=dQf k6
 refine ⟨_,_,_,a4.blk.cell 1 rfl,fun k=>no a2 10 (by unfold tl;rw [if_neg n1,if_neg k4,if_neg (by omega),if_neg k6,if_pos (dQt k)]) (by omega),fun k7=>?_⟩
 have k7:=dQf k7
 have hz:tl cf aj qs q.1=0:=by unfold tl;rw [if_neg n1,if_neg k4,if_neg (by omega),if_neg k6,if_neg k7]
 have b6:=b3.aa a6
 have c7:¬ Fa wb:=fun hx=>(a4.fa _ hx).2 rfl
 have d7:=a2.size
 have a3:¬ Fa w.heap.size:=fun hx=>by
  have h1:=(a4.fa _ hx).1
  have:=(h.f _ h1).2;omega
 refine ⟨fun w'=>Ch Fa w7 w',fun w8 e8=>⟨Ch.drew e8,_,_,_,fun w' hc=>(a4.blk.af hc c7).cell 1 rfl,_,_,_,_,_,_,_,_,_,⟨fun w' hc=>(b6.af hc a3).cell 0 rfl,fun w' hc=>(b6.af hc a3).cell 1 rfl,fun w' hc=>(b6.af hc a3).cell 2 rfl,fun w' hc=>(b6.af hc a3).cell 3 rfl,fun w' hc=>(b6.af hc a3).cell 4 rfl⟩,?_⟩⟩
 have b7:=a2.ag (Ch.drew e8)
 refine ab (yl (q:=q) ⟨q1.aa b7,q2.aa b7,q3,q4⟩) ?_
 rintro v c8 ⟨p,rfl,hp,b8⟩
 have a7:=(Ch.drew (F:=ah) e8).ag b8
 refine ⟨_,_,_,_,_,_,_,_,_,rfl,a7.any,fun b9 d5=>?_⟩
 have a0:Ch ah c8 b9:=Ch.alloc d5
 have a1:=a7.ag a0
 have c9:ba b9 c8.heap.size (dl (q.1,p)) dx:=ba.new d5
 have d0:=hp.aa a0
 refine ⟨a1.any,?_⟩
 have e9:w7.heap.size=w8.heap.size:=by subst e8;rfl
 have d8:=b8.size
 have d9:=a0.size
 have b2:=(a4.aa a1).grow (F':=Ext F w7 b9) (D':=fun i=>D i∨db w8 c8 i) (fun i hi => .inl hi) (fun i hi => .inl hi) (fun i hi=>by
  rcases hi with hi|hi
  ·exact ⟨.inl (hC.fd i hi).1,(hC.fd i hi).2⟩
  ·have f0:=hi.1
   have f3:=hi.2
   exact ⟨.inr ⟨by omega,by omega⟩,fun he=>by have:=a4.lt _ a4.fx;omega,fun hx=>by have:=a4.lt i (a4.fa i hx).1;omega⟩) (fun i hi=>by
  rcases hi with hi|hi
  ·have:=a4.lt i hi;omega
  ·exact hi.2)
 obtain ⟨o',c',e0,hr,ho,c0⟩:=Own.ll (c2:=1) (m:=1) zu b2.own oY c9.rd rfl (gq (q.1,p)) (by unfold maxLen;omega) (by omega)
 have e2:(qs.map dl).flatten++dl (q.1,p)=((qs++[(q.1,p)]).map dl).flatten:=by simp
 rw [e2] at ho
 obtain ⟨e3,e5⟩:=b2.store c0 ho (by simp) (fun q' b4=>by
  rcases List.mem_append.1 b4 with b4|b4
  ·exact b2.Bz q' b4
  ·rw [List.mem_singleton] at b4
   subst b4
   exact d0.mono (fun i _ hi => .inr hi))
 refine ⟨o',_,c',e0,hr,(a1.any).same c0,e3,fun c5 e6=>?_⟩
 obtain ⟨d1,c4⟩:=e5 c5 e6
 rw [hz,if_pos rfl]
 have e7:=c4.size
 have a8:=a2.ag a1
 have d2:Ch F w c5:=(a8.any).trans c4 (fun i hi hf=>by
  rcases hf with hf|hf
  ·exact hf
  ·have:=hf.1;omega)
 have hE:∀ i,Ext (Ext F w7 b9) b9 c5 i→Ext F w c5 i:=fun i hi=>by
  rcases hi with (hi|hi)|hi
  ·exact .inl hi
  ·exact .inr ⟨by have:=hi.1;omega,by have:=hi.2;omega⟩
  ·exact .inr ⟨by have:=hi.1;have:=a8.size;omega,hi.2⟩
 exact ⟨rfl,qs++[(q.1,p)],_,_,⟨⟨o',c',_,d1⟩,fun i hi=>h.f.ext h.c d2.size i (hE i hi),h.f.hi h.c d2⟩,by simp,hE,d2⟩
def FR:da × di:=(⟨0,0,[],0,[]⟩,⟨none,0,none,0⟩)
end
end Go.Proofs.YtkbikekbaboclaaGreat.gm
