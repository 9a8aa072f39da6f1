import Derived.Test.YtkbikekbaboclaaGreatPkE
import Derived.Test.YtkbikekbaboclaaGreatPkR
import Derived.Test.YtkbikekbaboclaaGreatVcCref
import Derived.Test.YtkbikekbaboclaaGreatGenE
import Derived.Test.YtkbikekbaboclaaGreatPkD
import Derived.Test.YtkbikekbaboclaaGreatPkVa
set_option linter.unusedVariables false
set_option linter.unusedSimpArgs false
namespace Go.Proofs.YtkbikekbaboclaaGreat.fo
open Go Go.Proofs V Vc Step bh dh ee fv qn Go.RowKit
open gm (da di dl ik)
def Ou:gr:=([],[])
def SP (p:ak):ak:={ p with es:=List.replicate p.es.length Ou }
def sk (ps:List ak):List ak:=ps.map SP
section
variable {k:Nat} {B:Int} {ps us:List ak} {es:List bw} {l:List Int} {p x v d:Int} {e:gr} {t:List Int}
theorem DH (ps:List ak):(sk ps).length=ps.length:=List.length_map _
theorem Jq (ps:List ak) (p:Int):ax (sk ps) p=SP (ax ps p):=by
 by_cases h:0≤p∧p.toNat<ps.length
 ·rw [ef h.1 (by rw [DH];exact h.2),ef h.1 h.2]
  exact List.getElem_map _
 ·rw [wG (by rw [DH];exact h),wG h];rfl
theorem wJ (ps:List ak) (p:Int):(ax (sk ps) p).ar=(ax ps p).ar:=by rw [Jq];rfl
theorem Si (ps:List ak) (p:Int):(ax (sk ps) p).ver=(ax ps p).ver:=by rw [Jq];rfl
theorem Rz (ps:List ak) (p:Int):(ax (sk ps) p).es.length=(ax ps p).es.length:=by rw [Jq];exact List.length_replicate
theorem DY (ps:List ak):mr (sk ps)=mr ps:=by funext p;unfold mr;rw [wJ]
theorem Mf (ps:List ak) (l:List Int):gg (sk ps) l=gg ps l:=by unfold gg;rw [DY]
theorem Oj (ps:List ak) (l:List Int):oP (sk ps) l=oP ps l:=by unfold oP;simp only [wJ]
theorem MY (ps:List ak):qH (sk ps)=qH ps:=by funext p;unfold qH;rw [DY,wJ]
theorem Ls (ps:List ak) (es:List bw):xt (sk ps) es=xt ps es:=by unfold xt;rw [MY]
theorem HR (ps:List ak) (i:Nat) (g:ak):(sk ps).set i (SP g)=sk (ps.set i g):=by unfold sk;rw [List.map_set]
theorem HI (d:Int) (ps:List ak) (x:Int):iy d (sk ps) x=sk (iy d ps x):=by
 unfold iy
 rw [← HR,Jq];rfl
theorem Pc (ps:List ak) (x:Int):gi (sk ps) x=sk (gi ps x):=by
 unfold gi
 rw [wJ,HI]
 split
 ·rw [← HR];rfl
 ·rfl
theorem He:∀ (l:List Int) (ps:List ak),fe (sk ps) l=sk (fe ps l)
 | [],ps=>rfl
 | x :: l,ps=>by
  have h:∀ qs,fe qs (x :: l)=fe (iy 1 qs x) l:=fun _=>rfl
  rw [h,h,HI,He l]
theorem JI:∀ (l:List Int) (ps:List ak),ek (sk ps) l=sk (ek ps l)
 | [],ps=>rfl
 | x :: l,ps=>by
  have h:∀ qs,ek qs (x :: l)=ek (gi qs x) l:=fun _=>rfl
  rw [h,h,Pc,JI l]
theorem GA (ps:List ak) (l:List Int):fk (sk ps) l=sk (fk ps l):=by
 unfold fk
 rw [Mf,Oj,JI]
 split <;> rfl
theorem II (ps:List ak) (x:Int):qM (sk ps) x=sk (qM ps x):=GA ps [x]
theorem Gy (ps:List ak) (l:List Int):mo (sk ps) l=sk (mo ps l):=by
 unfold mo
 rw [Mf,He]
 split <;> rfl
theorem RW (ps:List ak) (es:List bw):EK (sk ps) es=sk (EK ps es):=by
 unfold EK
 rw [Ls]
 split
 ·exact II _ _
 ·rfl
theorem PT (v:Int):∀ (es:List bw) (ps:List ak),uL v (sk ps) es=sk (uL v ps es)
 | [],ps=>rfl
 | e :: es,ps=>by
  have h:∀ qs,uL v qs (e :: es)=uL v (FD v qs e) es:=fun _=>rfl
  have h2:FD v (sk ps) e=sk (FD v ps e):=by
   unfold FD
   rw [II]
   split <;> rfl
  rw [h,h,h2,PT v es]
theorem JE (ps:List ak):rz (sk ps)=rz ps:=by
 unfold rz sk
 rw [List.findIdx_map];rfl
theorem OQ (ps:List ak) (v:Int):gj (sk ps) v=gj ps v:=by unfold gj;rw [JE,DH]
theorem NW (ps:List ak) (v:Int):ou (sk ps) v=sk (ou ps v):=by
 unfold ou
 rw [JE]
 split
 ·rfl
 ·rw [← HR];rfl
theorem Qs (ps:List ak) (x:Int):ER (sk ps) x=ER ps x:=by unfold ER;rw [DY,wJ,Rz]
theorem QG (ps:List ak) (x:Int) (e:gr):sf (sk ps) x Ou=sk (sf ps x e):=by
 unfold sf
 rw [Qs]
 split
 ·rw [← HR,Jq]
  unfold SP
  simp only [List.length_append,List.length_singleton,List.replicate_succ']
 ·rfl
theorem Ml (ps:List ak) (es:List bw) (x v:Int) (t:List Int):pI (sk ps) es x v t=pI ps es x v t:=by
 unfold pI uU
 rw [DY,Si,Rz]
theorem QA (ps:List ak) (es:List bw) (x v:Int) (t:List Int):zN (sk ps) es x v t=zN ps es x v t:=by unfold zN;rw [Ml]
theorem Qj (ps:List ak) (es:List bw) (x v:Int) (t:List Int):ul (sk ps) es x v t=sk (ul ps es x v t):=by
 unfold ul
 rw [Ml,HI]
 split <;> rfl
theorem RK (n:Nat):sk (List.replicate n qD)=List.replicate n qD:=by
 unfold sk
 rw [List.map_replicate];rfl
theorem xS (h:bh.Good k B ps):bh.Good k B (sk ps):=⟨by rw [DH];exact h.len,fun p hp=>by
 obtain ⟨q,hq,rfl⟩:=List.mem_map.1 hp
 obtain ⟨a,b,c,d⟩:=h.pg q hq
 exact ⟨a,b,fun h0=>by rw [c h0];rfl,by show (List.replicate _ _).length≤4;rw [List.length_replicate];exact d⟩⟩
theorem Qq (h:bh.Good k B ps):Aw (sk ps)=oW ps:=by
 unfold Aw oW sk
 rw [List.filter_map,List.length_map]
 congr 1
 refine List.filter_congr fun p hp=>?_
 have:=(h.pg p hp).1
 show (p.ar==0)=!decide (p.ar>0)
 by_cases h0:p.ar=0
 ·rw [h0];rfl
 ·rw [beq_false_of_ne h0,decide_eq_true (by omega)];rfl
theorem MJ (hl:ps.length=us.length) (h:∀ p,ax ps p=ax us p):ps=us:=by
 refine List.ext_getElem hl fun j h1 h2=>?_
 have:=h (j:Int)
 rw [ef (by omega) (by simpa using h1),ef (by omega) (by simpa using h2)] at this
 simpa using this
theorem qY:∀ (l:List Int) (ps:List ak),(ek ps l).length=ps.length
 | [],ps=>rfl
 | x :: l,ps=>by
  have h:ek ps (x :: l)=ek (gi ps x) l:=rfl
  rw [h,qY l]
  unfold gi
  split
  ·exact List.length_set
  ·exact pd _ _ _
theorem KI {l l':List Int} (hp:l.Perm l') (hg:bh.Good k B ps) (hB:0≤B) (h:∀ p,(l.count p:Int)≤(ax ps p).ar):ek ps l=ek ps l':=by
 have h':∀ p,(l'.count p:Int)≤(ax ps p).ar:=fun p=>by rw [← hp.count_eq p];exact h p
 refine MJ (by rw [qY,qY]) fun p=>?_
 obtain ⟨a1,a2⟩:=xu h p
 obtain ⟨b1,b2⟩:=xu h' p
 have hu:(ax (ek ps l) p).ar=(ax (ek ps l') p).ar:=by rw [a1,b1,hp.count_eq p]
 have g1:=(qZ h▸su hg hB l).at hB p
 have g2:=(qZ h'▸su hg hB l').at hB p
 by_cases h0:(ax (ek ps l) p).ar=0
 ·rw [g1.2.2.1 h0,g2.2.2.1 (by rw [← hu];exact h0)]
 ·obtain ⟨c1,c2⟩:=a2 h0
  obtain ⟨d1,d2⟩:=b2 (by rw [← hu];exact h0)
  have e1:=c1.trans d1.symm
  have e2:=c2.trans d2.symm
  generalize ax (ek ps l) p=g at hu e1 e2
  generalize ax (ek ps l') p=g' at hu e1 e2
  cases g;cases g'
  simp only at hu e1 e2
  rw [hu,e1,e2]
theorem OX {cf:ep} {md:rY} {rs:List bo} (h:il cf md k ps es rs) (hg:bh.Good k B ps) (hB:0≤B) (v:Int):uL v ps es.reverse=uL v ps es:=by
 have hc:∀ p,((((es.filter (fun e=>e.ver==v)).map (·.page)).count p:Nat):Int)≤(ax ps p).ar:=fun p=>by
  have h1:=h.us p
  have h2:(((es.filter (fun e=>e.ver==v)).map (·.page)).count p)≤cE es p:=(List.filter_sublist.map _).count_le p
  omega
 have hp:((es.reverse.filter (fun e=>e.ver==v)).map (·.page)).Perm ((es.filter (fun e=>e.ver==v)).map (·.page)):=((List.reverse_perm es).filter _).map _
 rw [xH v hc,xH v (fun p=>by rw [hp.count_eq p];exact hc p)]
 exact KI hp hg hB (fun p=>by rw [hp.count_eq p];exact hc p)
end
end Go.Proofs.YtkbikekbaboclaaGreat.fo
namespace Go.Proofs.YtkbikekbaboclaaGreat.fo
open Go Go.Proofs V Vc Step bh dh ee fv qn Go.RowKit
open gm (da di dl ik gq)
structure Tq where
 ap:di
 so:OA
 sc:Nat
 po:OA
 pc:Nat
abbrev FQ:=Tq × bo
def pf (md:rY) (q:FQ):List Value:=dl (q.2.ask,q.1.ap)++[.slice q.1.so (gk ey md q.2.ask).length q.1.sc,.slice q.1.po q.2.aj.length q.1.pc,.int .i64 q.2.done]
structure Kf (w:World) (md:rY) (q:FQ) (D:Nat→Prop):Prop where
 ask:lk w (q.2.ask,q.1.ap) D
 sy:IV w (.slice q.1.so (gk ey md q.2.ask).length q.1.sc) (gk ey md q.2.ask) D
 pg:IV w (.slice q.1.po q.2.aj.length q.1.pc) q.2.aj D
structure pZ (W w:World) (fb pb xb k:Nat) (md:rY) (ps:List ak) (es:List bw) (o:OA) (c:Nat) (qs:List FQ) (R:Nat→Nat→Prop):Prop where
 fam:Dy w R
 f:∀ j i,R j i→W.heap.size≤i
 z:R 0 fb
 blk:ba w fb [.int .i64 k,.pointer (some ⟨pb,0,none⟩),.pointer (some ⟨xb,0,none⟩),.slice o qs.length c] lr
 own:Own w bp 8 o qs.length c (qs.map (pf md)).flatten (R 1)
 x:∃ D,RX W w pb xb (sk ps) es (R 3) (R 4) D
 rn:∀ q∈qs,Kf w md q (fun i=>i<W.heap.size∨R 2 i)
def IX (R:Nat→Nat→Prop) (w w':World) (S:Nat→Nat→Prop):Nat→Nat→Prop:=fun j i=>R j i∨(db w w' i∧S j i)
section
variable {W w w' w1 w2:World} {fb pb xb k:Nat} {md:rY} {ps ps':List ak} {es es':List bw} {o o':OA} {c c' n:Nat} {qs qs':List FQ} {q:FQ} {R R':Nat→Nat→Prop} {F G D D' FU N:Nat→Prop} {S:Nat→Nat→Prop}
theorem Kf.af (h:Kf w md q D) (hc:Ch G w w') (hd:∀ i,i<w.heap.size→D i→¬ G i):Kf w' md q D:=⟨h.ask.af hc hd,h.sy.af hc hd,h.pg.af hc hd⟩
theorem Kf.mono (h:Kf w md q D) (hg:∀ i,i<w.heap.size→D i→D' i):Kf w md q D':=⟨h.ask.mono hg,h.sy.mono hg,h.pg.mono hg⟩
theorem Kf.aa (h:Kf w md q D) (hc:Ch ah w w'):Kf w' md q D:=h.af hc (fun _ _ _=>id)
theorem OD (md:rY) (q:FQ):(pf md q).length=8:=rfl
theorem Pb (md:rY) (q:FQ):∀ u∈pf md q,u.oneCell'=true:=fun u hu=>by
 rcases List.mem_append.1 hu with h|h
 ·exact gq _ u h
 ·simp only [List.mem_cons,List.not_mem_nil,or_false] at h
  rcases h with rfl|rfl|rfl <;> rfl
theorem Qh (md:rY) (qs:List FQ):∀ u∈(qs.map (pf md)).flatten,u.oneCell'=true:=fun u hu=>by
 obtain ⟨l,hl,hu⟩:=List.mem_flatten.1 hu
 obtain ⟨q,_,rfl⟩:=List.mem_map.1 hl
 exact Pb md q u hu
theorem pZ.ch (h:pZ W w fb pb xb k md ps es o c qs R):Ch ah W w:=by obtain ⟨D,h⟩:=h.x;exact h.c
theorem pZ.lt (h:pZ W w fb pb xb k md ps es o c qs R):∀ i,de R i→W.heap.size≤i∧i<w.heap.size:=fun i ⟨j,hi⟩=>⟨h.f j i hi,h.fam.1 j i hi⟩
theorem pZ.Bz (h:pZ W w fb pb xb k md ps es o c qs R):∀ i,i<W.heap.size∨R 2 i→¬ dt R i:=fun i hi ⟨j,hj,hm⟩=>by
 rcases hi with hi|hi
 ·have:=h.f j i hm;omega
 ·exact h.fam.2 2 j (by omega) i hi hm
theorem pZ.ze (h:pZ W w fb pb xb k md ps es o c qs R) (hc:Ch G w w') (hG:∀ j i,R j i→¬ G i) (hW:∀ i,i<W.heap.size→¬ G i):pZ W w' fb pb xb k md ps es o c qs R:=by
 obtain ⟨D,hx⟩:=h.x
 exact ⟨h.fam.le hc.size,h.f,h.z,h.blk.af hc (hG _ _ h.z),h.own.af hc (fun i _ hi=>hG _ i hi),⟨D,hx.u.af hc (fun i _ hi=>hG _ i hi),hx.x.af hc (fun i hi=>hG _ i hi),hx.fu.le hc.size,hx.f.le hc.size,hx.ap,hx.c.trans hc (fun i hi hg=>hW i hi hg)⟩,
  fun q hq=>(h.rn q hq).af hc (fun i _ hi=>hi.elim (hW i) (hG 2 i))⟩
theorem pZ.aa (h:pZ W w fb pb xb k md ps es o c qs R) (hc:Ch ah w w'):pZ W w' fb pb xb k md ps es o c qs R:=h.ze hc (fun _ _ _=>id) (fun _ _=>id)
theorem RX.mono {W w:World} {ub yb:Nat} {ps:List ak} {es:List bw} {FU F D FU' F':Nat→Prop} (h:RX W w ub yb ps es FU F D) (h1:∀ i,FU i→FU' i) (h2:∀ i,F i→F' i) (f1:rl W w FU') (f2:rl W w F') (ap:jo F' FU'):RX W w ub yb ps es FU' F' D :=
 ⟨h.u.mono (fun i _ hi=>h1 i hi),h.x.grow h2 (fun i hi=>(f2 i hi).2),f1,f2,ap,h.c⟩
theorem GM:∀ i,de (IX R w w' S) i→Ext (de R) w w' i:=fun i ⟨j,hi⟩=>hi.elim (fun h => .inl ⟨j,h⟩) (fun h => .inr h.1)
theorem pZ.step (h:pZ W w fb pb xb k md ps es o c qs R) (hc:Ch G w w') (hG:∀ i,G i→dt R i) (hS:∀ j m i,S j i→S m i→j=m)
  (hb:ba w' fb [.int .i64 k,.pointer (some ⟨pb,0,none⟩),.pointer (some ⟨xb,0,none⟩),.slice o' qs'.length c'] lr)
  (ho:Own w' bp 8 o' qs'.length c' (qs'.map (pf md)).flatten (IX R w w' S 1))
  (hx:RX W w' pb xb (sk ps') es' FU F D) (hU:∀ i,FU i→IX R w w' S 3 i) (hI:∀ i,F i→IX R w w' S 4 i)
  (hq:∀ q∈qs',q∈qs∨Kf w' md q (fun i=>i<W.heap.size∨IX R w w' S 2 i)) :
  pZ W w' fb pb xb k md ps' es' o' c' qs' (IX R w w' S)∧Ch (dt R) w w':=by
 have hs:=hc.size
 have a2:=h.ch.size
 have fam:Dy w' (IX R w w' S):=Dy.re h.fam hs (fun j i hi=>hi.imp id (fun h=>h.1)) (fun j m a0 i hi hj hm=>by
  rcases hj with hj|hj
  ·have:=h.fam.1 j i hj;omega
  ·rcases hm with hm|hm
   ·have:=h.fam.1 m i hm;omega
   ·exact a0 (hS j m i hj.2 hm.2))
 have hf:∀ j i,IX R w w' S j i→W.heap.size≤i:=fun j i hi=>by
  rcases hi with hi|hi
  ·exact h.f j i hi
  ·have:=hi.1.1;omega
 refine ⟨⟨fam,hf,.inl h.z,hb,ho,⟨D,RX.mono hx hU hI (fun i hi=>⟨hf 3 i hi,fam.1 3 i hi⟩) (fun i hi=>⟨hf 4 i hi,fam.1 4 i hi⟩) (fam.2 4 3 (by omega))⟩,fun q a1=>?_⟩,hc.mono (fun i _ hi=>hG i hi)⟩
 rcases hq q a1 with hq|hq
 ·exact ((h.rn q hq).af hc (fun i _ hd hg=>h.Bz i hd (hG i hg))).mono (fun i _ hd=>hd.imp id (fun h => .inl h))
 ·exact hq
theorem pZ.sa (h:pZ W w fb pb xb k md ps es o c qs R) (hx:RX W w' pb xb (sk ps') es' FU F D) (hU:∀ i,FU i→Ext (R 3) w w' i) (hI:∀ i,F i→Ext (R 4) w w' i) (hc:Ch (fun i=>R 4 i∨R 3 i) w w') (hN:∀ i,N i→db w w' i) (n1:∀ i,N i→¬ FU i) (n2:∀ i,N i→¬ F i) :
  ∃ R',pZ W w' fb pb xb k md ps' es' o c qs R'∧(∀ i,N i→R' 2 i)∧(∀ i,R 2 i→R' 2 i)∧(∀ i,de R' i→Ext (de R) w w' i)∧Ch (dt R) w w'∧(∀ i,de R' i→de R i∨FU i∨F i∨N i):=by
 have ap:∀ {j},j≠3→j≠4→∀ i,R j i→¬ (R 4 i∨R 3 i):=fun {j} h3 h4 i hi hg=>by
  rcases hg with hg|hg
  ·exact h.fam.2 j 4 h4 i hi hg
  ·exact h.fam.2 j 3 h3 i hi hg
 obtain ⟨a,b⟩:=h.step (S:=fun j i=>(j=3∧FU i)∨(j=4∧F i)∨(j=2∧N i)) (qs':=qs) (o':=o) (c':=c) hc (fun i hi=>hi.elim (fun h=>⟨4,by omega,h⟩) (fun h=>⟨3,by omega,h⟩)) (fun j m i h1 h2=>by
  rcases h1 with ⟨rfl,h1⟩|⟨rfl,h1⟩|⟨rfl,h1⟩ <;> rcases h2 with ⟨rfl,h2⟩|⟨rfl,h2⟩|⟨rfl,h2⟩
  ·rfl
  ·exact absurd h1 (hx.ap i h2)
  ·exact absurd h1 (n1 i h2)
  ·exact absurd h2 (hx.ap i h1)
  ·rfl
  ·exact absurd h1 (n2 i h2)
  ·exact absurd h2 (n1 i h1)
  ·exact absurd h2 (n2 i h1)
  ·rfl) (h.blk.af hc (ap (by omega) (by omega) _ h.z)) ((h.own.af hc (fun i _ hi=>ap (by omega) (by omega) i hi)).mono (fun i _ hi => .inl hi)) hx
  (fun i hi=>(hU i hi).imp id (fun k=>⟨k,.inl ⟨rfl,hi⟩⟩)) (fun i hi=>(hI i hi).imp id (fun k=>⟨k,.inr (.inl ⟨rfl,hi⟩)⟩)) (fun q hq => .inl hq)
 exact ⟨_,a,fun i hi => .inr ⟨hN i hi,.inr (.inr ⟨rfl,hi⟩)⟩,fun i hi => .inl hi,GM,b,fun i ⟨j,hi⟩=>by
  rcases hi with hi|⟨_,⟨_,hi⟩|⟨_,hi⟩|⟨_,hi⟩⟩
  ·exact .inl ⟨j,hi⟩
  ·exact .inr (.inl hi)
  ·exact .inr (.inr (.inl hi))
  ·exact .inr (.inr (.inr hi))⟩
theorem pZ.row {GO:Nat→Prop} (h:pZ W w fb pb xb k md ps es o c qs R) (hc:Ch G w w') (hG:∀ i,i<w.heap.size→G i→R 0 i∨R 1 i) (hb:ba w' fb [.int .i64 k,.pointer (some ⟨pb,0,none⟩),.pointer (some ⟨xb,0,none⟩),.slice o' qs'.length c'] lr)
  (ho:Own w' bp 8 o' qs'.length c' (qs'.map (pf md)).flatten GO) (hO:∀ i,GO i→Ext (R 1) w w' i) (hN:∀ i,N i→db w w' i) (n1:∀ i,N i→¬ GO i) (hq:∀ q∈qs',q∈qs∨Kf w' md q (fun i=>i<W.heap.size∨R 2 i∨N i)) :
  ∃ R',pZ W w' fb pb xb k md ps es o' c' qs' R'∧(∀ i,R 2 i→R' 2 i)∧(∀ i,de R' i→Ext (de R) w w' i)∧Ch (dt R) w w':=by
 obtain ⟨D,hx⟩:=h.x
 have a0:Ch (fun i=>R 0 i∨R 1 i) w w':=hc.mono hG
 have ap:∀ {j},j≠0→j≠1→∀ i,R j i→¬ (R 0 i∨R 1 i):=fun {j} h3 h4 i hi hg=>by
  rcases hg with hg|hg
  ·exact h.fam.2 j 0 h3 i hi hg
  ·exact h.fam.2 j 1 h4 i hi hg
 obtain ⟨a,b⟩:=h.step (S:=fun j i=>(j=1∧GO i)∨(j=2∧N i)) a0 (fun i hi=>hi.elim (fun h=>⟨0,by omega,h⟩) (fun h=>⟨1,by omega,h⟩)) (fun j m i h1 h2=>by
  rcases h1 with ⟨rfl,h1⟩|⟨rfl,h1⟩ <;> rcases h2 with ⟨rfl,h2⟩|⟨rfl,h2⟩
  ·rfl
  ·exact absurd h1 (n1 i h2)
  ·exact absurd h2 (n1 i h1)
  ·rfl) hb (ho.mono (fun i _ hi=>(hO i hi).imp id (fun k=>⟨k,.inl ⟨rfl,hi⟩⟩))) (hx.ze a0 (fun i hi=>⟨hi.elim (h.f 0 i) (h.f 1 i),fun hu=>ap (by omega) (by omega) i hu hi,fun hu=>ap (by omega) (by omega) i hu hi⟩)) (fun i hi => .inl hi) (fun i hi => .inl hi)
  (fun q a1=>(hq q a1).imp id (fun k=>k.mono (fun i _ hd=>hd.imp id (fun hd=>hd.imp id (fun hn=>⟨hN i hn,.inr ⟨rfl,hn⟩⟩)))))
 exact ⟨_,a,fun i hi => .inl hi,GM,b⟩
end
end Go.Proofs.YtkbikekbaboclaaGreat.fo
namespace Go.Proofs.YtkbikekbaboclaaGreat.fo
open Go Go.Proofs V Vc Step bh dh ee fv qn Go.RowKit
open gm (da di dl ik gq ny)
section
variable {W w w' w1 w2:World} {fb pb xb k:Nat} {B:Int} {md:rY} {ps ps':List ak} {es es':List bw} {o o':OA} {c c' n:Nat} {qs qs':List FQ} {q:FQ} {R R':Nat→Nat→Prop} {F G D:Nat→Prop} {wt:ByteArray}
theorem Ki (w:World) (q:da × di) (hl:q.1.ai.length≤1000000):Calls Tryz.prog vU #[.agg (dl q).toArray] w (bc fun v w'=>v = .int .i64 (ny q.1)∧Ch ah w w'):=by
 refine yQ.calls _ _ _ _ _ _ _ _ _ ?_
 intro w1 e1
 have hB:=ba.new e1
 have hc:Ch ah w w1:=Ch.alloc e1
 refine ⟨_,hB.cell 3 rfl,fun h=>⟨by unfold ny;rw [if_pos (.inl (dQt h))],hc⟩,fun h=>?_⟩
 refine ⟨_,hB.cell 3 rfl,fun h2=>⟨by unfold ny;rw [if_pos (.inr (dQt h2))],hc⟩,fun h2=>?_⟩
 have h:=dQf h
 have h2:=dQf h2
 refine ⟨_,_,_,hB.cell 2 rfl,_,hB.cell 3 rfl,by omega,?_,hc⟩
 have e:IntKind.i64.wrap (Int.tdiv (IntKind.i64.wrap (IntKind.i64.wrap (IntKind.i64.wrap ((q.1.ai.length:Int)+q.1.most)-1)+3)) 4)=ny q.1:=by
  unfold ny
  rw [if_neg (by omega),ae (x:=(q.1.ai.length:Int)+q.1.most) (by omega) (by omega),ae (x:=(q.1.ai.length:Int)+q.1.most-1) (by omega) (by omega),ae (x:=(q.1.ai.length:Int)+q.1.most-1+3) (by omega) (by omega)]
  have e1:(q.1.ai.length:Int)+q.1.most-1+3=(q.1.ai.length:Int)+q.1.most+2:=by omega
  rw [e1,Int.tdiv_eq_ediv_of_nonneg (by omega),ae (by omega) (by omega)]
 rw [e]
def BM (cf:ep) (aj:Int) (a:da):Int:=if a.id<1∨a.id>2147483647∨(a.draws.length:Int)>32 then 1 else if rI.mh cf a.most a.ai≠0 then rI.mh cf a.most a.ai else if ny a>aj then 11 else 0
theorem Nr {q:da × di} (m:Md ey wt) (hq:lk w q D) (aj:Int) :
  Calls Tryz.prog uu #[.agg (sg wt).toArray,.int .i64 aj,.agg (dl q).toArray] w (bc fun v w'=>v = .int .i64 (BM ey aj q.1)∧Ch ah w w'):=by
 obtain ⟨⟨q1,q2,q3,q4⟩,q5,q6,q7,q8⟩:=hq
 refine xI.calls _ _ _ _ _ _ _ _ _ _ _ _ _ _ _ _ _ ?_
 intro w1 e1 w2 e2
 have hA:ba w2 w.heap.size (sg wt) 29:=(ba.new e1).alloc e2
 have hB:ba w2 w1.heap.size (dl q) 74:=ba.new e2
 have hc:Ch ah w w2:=(Ch.alloc e1).ag (Ch.alloc e2)
 refine ⟨_,hB.cell 0 rfl,fun k=>⟨by unfold BM;rw [if_pos (.inl (dQt k))],hc⟩,fun k1=>?_⟩
 refine ⟨_,hB.cell 0 rfl,fun k=>⟨by unfold BM;rw [if_pos (.inr (.inl (dQt k)))],hc⟩,fun k2=>?_⟩
 refine ⟨_,_,_,hB.cell 4 rfl,fun k=>⟨by unfold BM;rw [if_pos (.inr (.inr (dQt k)))],hc⟩,fun k3=>?_⟩
 have k1:=dQf k1
 have k2:=dQf k2
 have k3:=dQf k3
 have n1:¬ (q.1.id<1∨q.1.id>2147483647∨(q.1.draws.length:Int)>32):=by omega
 refine ⟨_,_,_,_,_,_,_,⟨hA.cell 0 rfl,hA.cell 1 rfl,hA.cell 2 rfl,hA.cell 3 rfl,hA.cell 4 rfl,hA.cell 5 rfl,hA.cell 6 rfl⟩,_,hB.cell 3 rfl,_,_,_,hB.cell 2 rfl,?_⟩
 refine ab (rI.CO m ⟨_,_,rfl,q5,q6,q1.aa hc⟩ (by omega) q.1.most) ?_
 rintro v w3 ⟨rfl,a1⟩
 refine ⟨_,rfl,fun k=>⟨by unfold BM;rw [if_neg n1,if_pos (by simpa using k)],hc.ag a1⟩,fun k4=>?_⟩
 have k4:rI.mh ey q.1.most q.1.ai=0:=by simpa using k4
 have a0:=hB.aa a1
 refine ⟨_,_,_,_,_,_,_,_,_,⟨a0.cell 0 rfl,a0.cell 1 rfl,a0.cell 2 rfl,a0.cell 3 rfl,a0.cell 4 rfl⟩,?_⟩
 refine ab (Ki w3 q (by omega)) ?_
 rintro v w4 ⟨rfl,a2⟩
 refine ⟨_,rfl,fun k=>⟨by unfold BM;rw [if_neg n1,if_neg (by omega),if_pos (dQt k)],(hc.ag a1).ag a2⟩,fun k=>⟨by unfold BM;rw [if_neg n1,if_neg (by omega),if_neg (dQf k)],(hc.ag a1).ag a2⟩⟩
theorem Kk (k:Nat) (a:da):(BM ey k a=0∧1≤a.ver∧a.ver≤2147483647)↔rJ ey k a=true:=by
 unfold rJ
 rw [Bool.and_eq_true,decide_eq_true_eq,beq_iff_eq,and_comm]
 have:BM ey k a=gm.tl ey k [] a:=by
  unfold BM gm.tl
  have hf:¬ gm.EE [] a.id≥0:=by unfold gm.EE;simp
  rw [if_neg hf,GZ]
  split
  ·rfl
  ·split
   ·rfl
   ·split
    ·rfl
    ·rw [if_neg (by simp)]
 rw [this]
theorem Np (hW:Ch ah W w) (n:Int) (h:1≤n∧n≤64):Calls Tryz.prog wF #[.int .i64 n] w (bc fun v w'=>∃ (fb pb xb:Nat) (R:Nat→Nat→Prop),v = .pointer (some ⟨fb,0,none⟩)∧pZ W w' fb pb xb n.toNat md (List.replicate n.toNat qD) [] none 0 [] R∧(∀ i,de R i→db w w' i)∧Ch ah w w'):=by
 refine Af.calls _ ?_
 refine ab (JU w n h) ?_
 rintro v w1 ⟨pb,rfl,hP,a1⟩
 refine ⟨_,rfl,fun w2 e2 w3 e3=>?_⟩
 have hX:=(ba.new e2).alloc e3
 have hC:=ba.new e3
 have a2:Ch ah w1 w2:=Ch.alloc e2
 have a3:Ch ah w2 w3:=Ch.alloc e3
 have a0:=a2.ag a3
 have s1:=a1.size
 have s2:=(ba.new e2).lt
 have s3:=(ba.new e3).lt
 have sW:=hW.size
 have a4:=hP.lt
 refine ⟨w2.heap.size,pb,w1.heap.size,fun j i=>(j=0∧i=w2.heap.size)∨(j=3∧db w w1 i)∨(j=4∧i=w1.heap.size),rfl,⟨⟨fun j i hi=>?_,fun j m a5 i hi hm=>?_⟩,fun j i hi=>?_,.inl ⟨rfl,rfl⟩,?_,Own.nil _ _ _ _,⟨ah,?_⟩,fun q hq=>(by cases hq)⟩,fun i ⟨j,hi⟩=>?_,a1.ag a0⟩
 ·rcases hi with hi|hi|hi
  ·omega
  ·have:=hi.2.2;omega
  ·omega
 ·rcases hi with hi|hi|hi <;> rcases hm with hm|hm|hm
  ·omega
  ·have:=hm.2.2;omega
  ·omega
  ·have:=hi.2.2;omega
  ·omega
  ·have:=hi.2.2;omega
  ·omega
  ·have:=hm.2.2;omega
  ·omega
 ·rcases hi with hi|hi|hi
  ·omega
  ·have:=hi.2.1;omega
  ·omega
 ·have:((n.toNat:Nat):Int)=n:=by omega
  rw [this];exact hC
 ·rw [RK]
  refine ⟨(hP.aa a0).mono (fun i _ hi => .inr (.inl ⟨rfl,hi⟩)),⟨none,0,[],ah,⟨hX,Own.nil _ _ _ _,rfl,.inr (.inr ⟨rfl,rfl⟩),fun i hi=>hi.elim,fun i hi=>hi.elim,fun i hi=>?_⟩,.nil⟩,fun i hi=>?_,fun i hi=>?_,fun i hi hm=>?_,(hW.ag a1).ag a0⟩
  ·rcases hi with hi|hi|hi
   ·omega
   ·omega
   ·omega
  ·rcases hi with hi|hi|hi
   ·omega
   ·have:=hi.2.1;have:=hi.2.2;exact ⟨by omega,by omega⟩
   ·omega
  ·rcases hi with hi|hi|hi
   ·omega
   ·omega
   ·exact ⟨by omega,by omega⟩
  ·rcases hi with hi|hi|hi
   ·omega
   ·omega
   ·rcases hm with hm|hm|hm
    ·omega
    ·have:=hm.2.2;omega
    ·omega
 ·rcases hi with hi|hi|hi
  ·exact ⟨by omega,by omega⟩
  ·have:=hi.2.2;exact ⟨hi.2.1,by omega⟩
  ·exact ⟨by omega,by omega⟩
theorem JQ (h:pZ W w fb pb xb k md ps es o c qs R) (hn:qs.length<1000) (id:Int):Calls Tryz.prog th #[.pointer (some ⟨fb,0,none⟩),.int .i64 id] w (bc fun v w'=>v = .int .i64 (ff (qs.map (·.2)) id)∧w'=w):=by
 refine uG.calls _ _ ?_
 unfold Vm.A2 Vm.B Vm.Br Vm.E Vm.G Vm.V Vm.X;dsimp only
 refine ⟨fun i k w'=>∃ j:Nat,i=j∧j≤qs.length∧k=qs.length-j∧w'=w∧∀ m (hm:m<qs.length),m<j→Ip id qs[m].2=false,⟨_,0,rfl,Nat.zero_le _,rfl,rfl,fun m _ h=>absurd h (Nat.not_lt_zero _)⟩,?_⟩
 rintro jk i k w1 ⟨j,rfl,hj,rfl,rfl,a2⟩
 refine ⟨_,_,_,h.blk.cell 3 rfl,fun a0=>?_,fun a4=>?_⟩
 ·have a0:j<qs.length:=by have:=dQt a0;omega
  obtain ⟨p,hp,_,_,a1⟩:=h.own.rd.elem (sz:=8) (enc:=pf md) (fun _=>rfl) (by omega) a0
  have h0:=a1 0 _ rfl
  rw [cm] at h0
  subst hp
  have a5:(j:Int).toNat=j:=Int.toNat_natCast j
  rw [a5]
  refine ⟨_,_,_,h.blk.cell 3 rfl,⟨by omega,by omega⟩,_,h0,fun hb=>⟨?_,rfl⟩,fun hb=>⟨qs.length-(j+1),by omega,j+1,by rw [ae (by omega) (by omega)];rfl,a0,rfl,rfl,fun m hm a7=>?_⟩⟩
  ·have a3:j<(qs.map (·.2)).length:=by rw [List.length_map];exact a0
   have:(qs.map (·.2)).findIdx (Ip id)=j:=(List.findIdx_eq a3).2 ⟨by rw [List.getElem_map];exact hb,fun m hm=>by rw [List.getElem_map];exact a2 m (by omega) hm⟩
   unfold ff
   rw [this,if_pos a3]
  ·by_cases he:m=j
   ·subst he;exact hb
   ·exact a2 m hm (by omega)
 ·have a6:j=qs.length:=by have:=dQf a4;omega
  subst a6
  refine ⟨?_,rfl⟩
  unfold ff
  rw [if_neg]
  intro hx
  have h1:=List.findIdx_getElem (w:=hx)
  rw [List.getElem_map] at h1
  rw [List.length_map] at hx
  rw [a2 _ hx hx] at h1
  cases h1
theorem pZ.at (h:pZ W w fb pb xb k md ps es o c qs R) {i:Nat} (hi:i<qs.length):∃ p:Addr,o=some p∧R 1 p.block∧∀ (G:Nat→Prop) (w':World),Ch G w w'→¬ G p.block→∀ j v,(pf md qs[i])[j]?=some v→w'.cell? ((p.add (i*8)).add j)=some v:=by
 obtain ⟨p,hp,hl,hF,a0⟩:=h.own.rd.elem (sz:=8) (enc:=pf md) (fun _=>rfl) (by omega) hi
 refine ⟨p,hp,hF,fun G w' hc hG j v hv=>?_⟩
 rw [← a0 j v hv]
 exact sS (w:=w) (w':=w') (by rw [oh,oh];exact hc.block _ hl hG)
end
end Go.Proofs.YtkbikekbaboclaaGreat.fo
namespace Go.Proofs.YtkbikekbaboclaaGreat.fo
open Go Go.Proofs V Vc Step bh dh ee fv qn Go.RowKit
open gm (da di dl ik gq ny)
section
variable {W w w' w1 w2:World} {fb pb xb k:Nat} {B:Int} {md:rY} {ps ps':List ak} {es es':List bw} {o o':OA} {c c' n:Nat} {qs qs':List FQ} {q:FQ} {R R':Nat→Nat→Prop} {F G D:Nat→Prop} {wt:ByteArray}
def RO:List Value:=[.int .i64 0,.int .i64 0,.slice none 0 0,.int .i64 0,.slice none 0 0,.slice none 0 0,.slice none 0 0,.int .i64 0]
theorem Jm {w w2 w3:World} {T:Nat} (q:FQ) (e2:w2=w.alloc (.cells RO.toArray T (0,0))) (e3:w3=w2.setCells w.heap.size 0 (pf md q)):ba w3 w.heap.size (pf md q) T∧Ch ah w w3:=by
 have a0:ba w2 w.heap.size RO T:=ba.new e2
 exact ⟨a0.all (pf md q) rfl e3,(Ch.alloc (F:=ah) e2).trans (Ch.fr (F:=(·=w.heap.size)) e3 rfl) (fun i hi he=>by omega)⟩
theorem KJ (h:pZ W w fb pb xb k md ps es o c qs R) {i:Nat} (hi:i<qs.length) (hp:qs[i].2.ask.ai.length≤1000) (hd:qs[i].2.done≤1000) :
  Calls Tryz.prog rq #[.pointer (some ⟨fb,0,none⟩),.int .i64 i] w (bc fun v w'=>IV w' v ((gk ey md qs[i].2.ask).take (qs[i].2.done+1-qs[i].2.ask.ai.length)) (fun i=>i<W.heap.size∨R 2 i)∧Ch ah w w'):=by
 obtain ⟨p,a8,hF,a0⟩:=h.at hi
 have a0:=a0 ah w (Ch.refl _ _) id
 have a4:=h.rn _ (List.getElem_mem hi)
 generalize qs[i]=q at a0 a4 hp hd
 subst a8
 have h0:=a0 0 _ rfl
 rw [cm] at h0
 refine sO.calls _ _ ?_
 unfold Vm.A0 Vm.B4 Vm.D Vm.E Vm.I8 Vm.I9 Vm.O4;dsimp only
 refine ⟨_,_,_,h.blk.cell 3 rfl,⟨by omega,by omega⟩,?_⟩
 simp only [Int.toNat_natCast]
 refine ⟨_,_,_,_,_,_,_,_,_,_,_,_,_,_,_,_,⟨h0,a0 1 _ rfl,a0 2 _ rfl,a0 3 _ rfl,a0 4 _ rfl,a0 5 _ rfl,a0 6 _ rfl,a0 7 _ rfl⟩,fun w1 e1=>?_⟩
 have a1:=ba.new e1
 refine ⟨⟨a1.ok 0 rfl,a1.ok 1 rfl,a1.ok 2 rfl,a1.ok 3 rfl,a1.ok 4 rfl,a1.ok 5 rfl,a1.ok 6 rfl,a1.ok 7 rfl⟩,fun w2 e2=>?_⟩
 obtain ⟨a3,a5⟩:=Jm (md:=md) q e1 e2
 refine ⟨_,a3.cell 7 rfl,_,_,_,a3.cell 2 rfl,_,_,_,a3.cell 5 rfl,_,_,_,a3.cell 5 rfl,?_⟩
 have a9:IntKind.i64.wrap (((q.2.done:Nat):Int)-(q.2.ask.ai.length:Int))=q.2.done-q.2.ask.ai.length:=ae (by omega) (by omega)
 have b2:IntKind.i64.wrap ((q.2.done:Int)-(q.2.ask.ai.length:Int)+1)=q.2.done-q.2.ask.ai.length+1:=ae (by omega) (by omega)
 rw [a9,b2]
 have hm:(if ((gk ey md q.2.ask).length:Int)<(if (0:Int)>(q.2.done:Int)-(q.2.ask.ai.length:Int)+1 then (0:Int) else (q.2.done:Int)-(q.2.ask.ai.length:Int)+1) then ((gk ey md q.2.ask).length:Int) else (if (0:Int)>(q.2.done:Int)-(q.2.ask.ai.length:Int)+1 then (0:Int) else (q.2.done:Int)-(q.2.ask.ai.length:Int)+1))=((min (q.2.done+1-q.2.ask.ai.length) (gk ey md q.2.ask).length:Nat):Int):=by
  split <;> split <;> omega
 rw [hm]
 have b3:=(a4.sy.aa a5)
 obtain ⟨so',sc',he,a6,a7,_⟩:=a4.sy
 injection he with _ _ b6
 refine ⟨⟨by omega,by omega⟩,?_,a5⟩
 have a2:=b3.cut rfl (Nat.zero_le (min (q.2.done+1-q.2.ask.ai.length) (gk ey md q.2.ask).length)) (Nat.min_le_right _ _)
 rw [List.drop_zero,Nat.sub_zero] at a2
 rw [Int.toNat_natCast,Nat.sub_zero]
 have b4:(gk ey md q.2.ask).take (min (q.2.done+1-q.2.ask.ai.length) (gk ey md q.2.ask).length)=(gk ey md q.2.ask).take (q.2.done+1-q.2.ask.ai.length):=by
  by_cases b5:q.2.done+1-q.2.ask.ai.length≤(gk ey md q.2.ask).length
  ·rw [Nat.min_eq_left b5]
  ·rw [Nat.min_eq_right (by omega),List.take_length,List.take_of_length_le (by omega)]
 rw [b4] at a2
 exact a2
set_option maxHeartbeats 2000000 in
theorem xY (h:pZ W w fb pb xb k md ps es o c qs R) (hg:bh.Good k B ps) (hk:k≤1000) (hB:0≤B∧B≤1000000000) (hn:qs.length<1000) {i:Nat} (hi:i<qs.length) (g2:qs[i].2.aj.length≤1000) :
  Calls Tryz.prog rW #[.pointer (some ⟨fb,0,none⟩),.int .i64 i] w (bc fun v w'=>v = .agg (pf md qs[i]).toArray∧∃ (o':OA) (c':Nat) (R':Nat→Nat→Prop),pZ W w' fb pb xb k md (fk ps qs[i].2.aj) es o' c' (qs.eraseIdx i) R'∧(∀ i,R 2 i→R' 2 i)∧(∀ i,de R' i→Ext (de R) w w' i)∧Ch (dt R) w w'):=by
 refine tO.calls _ _ ?_
 intro w1 e1
 have e5:ba w1 w.heap.size RO bp:=ba.new e1
 have e6:Ch ah w w1:=Ch.alloc e1
 have s1:=e5.lt
 have h1:=h.aa e6
 obtain ⟨p,g3,hF,a0⟩:=h1.at hi
 have a0:=a0 ah w1 (Ch.refl _ _) id
 have hq:=h.rn _ (List.getElem_mem hi)
 generalize j3:qs[i]=q at a0 hq g2
 have g4:=h.own.2.1
 have g5:IntKind.i64.wrap ((i:Int)+1)=((i+1:Nat):Int):=by rw [ae (by omega) (by omega)];rfl
 simp only [g5,Int.toNat_natCast]
 have h0:=a0 0 _ rfl
 rw [cm] at h0
 refine ⟨_,_,_,h1.blk.cell 3 rfl,⟨by omega,by omega⟩,?_⟩
 subst g3
 refine ⟨_,_,_,_,_,_,_,_,_,_,_,_,_,_,_,_,⟨h0,a0 1 _ rfl,a0 2 _ rfl,a0 3 _ rfl,a0 4 _ rfl,a0 5 _ rfl,a0 6 _ rfl,a0 7 _ rfl⟩,fun w2 e2=>?_⟩
 have a9:=ba.new e2
 refine ⟨⟨a9.ok 0 rfl,a9.ok 1 rfl,a9.ok 2 rfl,a9.ok 3 rfl,a9.ok 4 rfl,a9.ok 5 rfl,a9.ok 6 rfl,a9.ok 7 rfl⟩,fun w3 e3=>?_⟩
 obtain ⟨c7,b6⟩:=Jm (md:=md) q e2 e3
 have b4:=e6.ag b6
 have h3:=h.aa b4
 have s3:=c7.lt
 clear e2 e3 a9
 obtain ⟨rb,e7⟩:∃ n,w1.heap.size=n:=⟨_,rfl⟩
 rw [e7] at c7 s3
 rw [e7]
 have nR:∀ j,¬ R j rb:=fun j hj=>by have:=h.fam.1 j _ hj;omega
 have nZ:∀ j,¬ R j w.heap.size:=fun j hj=>by have:=h.fam.1 j _ hj;omega
 have d1:¬ R 3 fb:=fun hx=>h.fam.2 0 3 (by omega) fb h.z hx
 refine ⟨fun w'=>Ch (R 3) w3 w',fun w4 e4=>⟨Ch.drew e4,_,fun w' k=>(h3.blk.af k d1).cell 1 rfl,_,_,_,fun w' k=>(c7.af k (nR 3)).cell 6 rfl,?_⟩⟩
 have b2:Ch ah w3 w4:=Ch.drew e4
 have h4:=h3.aa b2
 obtain ⟨D,e9⟩:=h4.x
 obtain ⟨_,_,he,_,_,g6⟩:=(hq.pg.aa b4).aa b2
 injection he with g7 _ _
 subst g7
 refine ab (AR (l:=q.2.aj) e9.u (xS hg) g6 (by omega) (by rw [DH,hg.len];omega) (by omega) _) ?_
 rintro v w7 ⟨rfl,c8,b5⟩
 have c8:dm w7 pb (fk (sk ps) q.2.aj) (Ext (R 3) w4 w7):=c8
 rw [GA] at c8
 have j4:w3.heap.size=w4.heap.size:=by subst e4;rfl
 obtain ⟨R7,h7,_,f0,d2,g8,_⟩:=h4.sa (N:=ah) (e9.use c8 b5) (fun i hi=>hi) (fun i hi => .inl hi) (b5.mono (fun i _ hi => .inr hi)) (fun i hi=>hi.elim) (fun i hi=>hi.elim) (fun i hi=>hi.elim)
 have b3:Ch (R 3) w3 w7:=b2.any.same b5
 have g9:=c7.af b3 (nR 3)
 have h5:=((e5.aa b6).af b3 (nZ 3))
 refine ⟨_,rfl,b3,fun w8 e8=>?_⟩
 have h6:=Gr.nG (G:=ah) (T:=bp) (sz:=8) (Ch.refl _ w7) e8
 have d3:Ch ah w7 w8:=Ch.alloc e8
 have h8:=h7.aa d3
 have b7:=Qh md qs
 have i0:=oM (enc:=pf md) (sz:=8) (fun _=>rfl) qs i
 have i1:=qU (enc:=pf md) (sz:=8) (fun _=>rfl) qs (i+1)
 have a2:(qs.map (pf md)).flatten.length=qs.length*8:=h.own.len
 refine ⟨_,_,_,h8.blk.cell 3 rfl,⟨by omega,by omega⟩,?_⟩
 have i2:=h8.own.rd.slice (c:=c) (sz:=8) (by rw [a2];omega) 0 i
 obtain ⟨o9,c9,w9,r9,f3,j5⟩:=h6.HL (m:=i-0) ki lc (c2:=c-0) i2 (by rw [List.length_take,List.length_drop,a2];omega) (fun u hu=>b7 u (List.mem_of_mem_drop (List.mem_of_mem_take hu))) (by omega) (by omega)
 have d4:Ch ah w7 w9:=f3.2
 have h9:=h7.aa d4
 refine ⟨o9,_,c9,w9,r9,_,_,_,h9.blk.cell 3 rfl,⟨by omega,by omega⟩,?_⟩
 have i3:=h9.own.rd.slice (c:=c) (sz:=8) (by rw [a2];omega) (i+1) (qs.length-(i+1))
 obtain ⟨f4,f5,d5,i4,b8,i5⟩:=f3.HL (m:=qs.length-(i+1)) ki lc (c2:=c-(i+1)) i3 (by rw [List.length_take,List.length_drop,a2];omega) (fun u hu=>b7 u (List.mem_of_mem_drop (List.mem_of_mem_take hu))) (by omega) (by omega)
 have a7:Ch ah w7 d5:=b8.2
 have f6:=h7.aa a7
 have i6:=a7.size
 have j6:=b3.size
 have f7:0+(i-0)+(qs.length-(i+1))=(qs.eraseIdx i).length:=by rw [List.length_eraseIdx,if_pos hi];omega
 have b9:([]++((qs.map (pf md)).flatten.drop (0*8)).take (i*8))++((qs.map (pf md)).flatten.drop ((i+1)*8)).take ((qs.length-(i+1))*8)=((qs.eraseIdx i).map (pf md)).flatten:=by
  have i7:((qs.map (pf md)).flatten.drop ((i+1)*8)).length≤(qs.length-(i+1))*8:=by rw [List.length_drop,a2,Nat.sub_mul];omega
  rw [List.nil_append,Nat.zero_mul,List.drop_zero,i0,List.take_of_length_le i7,i1,gf,List.map_append,List.flatten_append]
 have c0:=b8.1
 rw [b9,f7] at c0
 refine ⟨f4,_,f5,d5,i4,f6.blk.ok 3 rfl,fun d0 f8=>?_⟩
 have c4:=f6.blk.set f8
 have a5:Ch (·=fb) d5 d0:=Ch.set f8 rfl
 have f9:=a5.size
 have i8:=h7.blk.lt
 have d6:=c0.af a5 (fun i _ hi he=>by have:=hi.1;omega)
 have a8:Ch (·=fb) w7 d0:=a7.any.same a5
 rw [f7] at c4
 obtain ⟨R11,i9,d7,c5,d8⟩:=h7.row (N:=ah) a8 (fun i _ hi=>hi ▸ .inl h7.z) c4 d6 (fun i hi => .inr ⟨hi.1,by have:=hi.2;omega⟩) (fun i hi=>hi.elim) (fun i hi=>hi.elim) (fun q hq => .inl (List.mem_of_mem_eraseIdx hq))
 have nfr:¬ rb=fb:=fun he=>nR 0 (he▸h.z)
 have nfz:¬ w.heap.size=fb:=fun he=>nZ 0 (he▸h.z)
 have a3:=(g9.af a8 nfr)
 have a1:=(h5.af a8 nfz)
 refine ⟨_,_,_,_,_,_,_,_,_,_,_,_,_,_,_,_,⟨a3.cell 0 rfl,a3.cell 1 rfl,a3.cell 2 rfl,a3.cell 3 rfl,a3.cell 4 rfl,a3.cell 5 rfl,a3.cell 6 rfl,a3.cell 7 rfl⟩,⟨a1.ok 0 rfl,a1.ok 1 rfl,a1.ok 2 rfl,a1.ok 3 rfl,a1.ok 4 rfl,a1.ok 5 rfl,a1.ok 6 rfl,a1.ok 7 rfl⟩,fun g0 j0=>?_⟩
 have c6:g0=d0.setCells w.heap.size 0 (pf md q):=j0
 have a4:=a1.all (pf md q) rfl c6
 have a6:Ch (·=w.heap.size) d0 g0:=Ch.fr c6 rfl
 have g1:=a6.size
 have j1:∀ j,¬ R11 j w.heap.size:=fun j hj=>by
  rcases c5 _ ⟨j,hj⟩ with h|h
  ·rcases d2 _ h with h|h
   ·obtain ⟨m,hm⟩:=h;exact nZ m hm
   ·have:=h.1;omega
  ·have:=h.1;omega
 have j2:=i9.ze a6 (fun j i hj he=>j1 j (he▸hj)) (fun i hi he=>by have:=h.ch.size;omega)
 have d9:∀ i,dt R7 i→i<w4.heap.size→dt R i:=fun i hi j7=>by
  rcases d2 i (dz i hi) with ⟨m,hm⟩|hx
  ·by_cases h2:m=2
   ·subst h2;exact absurd hi (h7.Bz i (.inr (f0 i hm)))
   ·exact ⟨m,h2,hm⟩
  ·have:=hx.1;omega
 have e0:Ch (dt R) w w7:=(b4.ag b2).any.same g8
 refine ⟨_,_,_,_,_,_,_,_,_,_,_,_,_,_,_,_,⟨a4.cell 0 rfl,a4.cell 1 rfl,a4.cell 2 rfl,a4.cell 3 rfl,a4.cell 4 rfl,a4.cell 5 rfl,a4.cell 6 rfl,a4.cell 7 rfl⟩,rfl,f4,f5,R11,j2,fun i hi=>d7 i (f0 i hi),fun i hi=>?_,((e0.trans d8 (fun i hi hm=>d9 i hm (by omega)))).trans a6 (fun i hi he=>by omega)⟩
 rcases c5 i hi with h|h
 ·rcases d2 i h with h|h
  ·exact .inl h
  ·exact .inr ⟨by have:=h.1;omega,by have:=h.2;omega⟩
 ·exact .inr ⟨by have:=h.1;omega,by have:=h.2;omega⟩
end
end Go.Proofs.YtkbikekbaboclaaGreat.fo
