import Derived.Test.YtkbikekbaboclaaGreatPkB
import Derived.Test.YtkbikekbaboclaaGreatPkP
import Derived.Test.YtkbikekbaboclaaGreatPrefix5
import Derived.Test.YtkbikekbaboclaaGreatPkW
import Derived.Test.YtkbikekbaboclaaGreatGenC
import Derived.Test.YtkbikekbaboclaaGreatVcCrew
import Derived.Lib.AppendZerosOnto
set_option linter.unusedVariables false
set_option linter.unusedSimpArgs false
namespace Go.Proofs.YtkbikekbaboclaaGreat.fo
open Go Go.Proofs V Vc Step bh ee Go.RowKit
section
variable {w:World} {o ob:OA} {c cb pb:Nat} {xs ys:List Int} {xss yss:List (List Int)} {F G:Nat→Prop} {ps:List ak} {l:List Int}
theorem pM (h:Rd w o (xs.map (.int .i64)) G) (hl:xs.length≤17592186043904) (c:Nat):Calls Tryz.prog 51 #[.slice o xs.length c] w (bc fun v w'=>IV w' v xs (db w w')∧Ch ah w w'):=by
 refine oI.calls _ _ _ ?_
 refine ⟨fun hn=>?_,fun hn w1 e1=>?_⟩
 ·have hx:xs=[]:=by
   cases xs with
   | nil=>rfl
   | cons x r =>
    obtain ⟨a,ha,_⟩:=h 0 (.int .i64 x) rfl
    rw [ha] at hn;cases hn
  subst hx
  exact ⟨IV.nil _ _,Ch.refl _ _⟩
 ·have hg:Gr ah w w1 bd 1 (some ⟨w.heap.size,0,none⟩) 0 0 []:=Gr.nG (Ch.refl _ _) e1
  obtain ⟨o',c',w',hr,a1,a0⟩:=Own.ll (c2:=c) (m:=xs.length) bi hg.1 ay (h.aa (Ch.alloc e1)) (by simp) (fun u hu=>by
   obtain ⟨x,_,rfl⟩:=List.mem_map.1 hu
   rfl) (by unfold maxLen;omega) (by omega)
  rw [Nat.zero_add,List.nil_append] at a1
  rw [Nat.zero_add] at hr
  have a2:=hg.2.size
  exact ⟨_,_,_,w',hr,⟨o',c',rfl,a1.2.1,a1.2.2.1,a1.rd.mono (fun i _ hi=>by
   rcases hi with hi|hi
   ·exact ⟨hi.1,by have:=hi.2;have:=a0.size;omega⟩
   ·exact ⟨by have:=hi.1;omega,hi.2⟩)⟩,hg.2.trans a0 (fun i hi h=>by have:=h.1;omega)⟩
theorem GU (hr:nJ w (.slice o xss.length c) xss G) (hs:small xss):Calls Tryz.prog zo #[.slice o xss.length c] w (bc fun v w'=>RV w' v xss (db w w')∧Ch ah w w'):=by
 obtain ⟨o',c',vs,e,a5,ha⟩:=hr
 injection e with e1 _ e2
 subst e1;subst e2
 refine CF.calls _ _ _ ?_
 refine ⟨fun oA oN oC i k w'=>∃ (j:Nat) (us:List Value) (F1 F2:Nat→Prop),i=j∧oN=j∧j≤xss.length∧k=xss.length-j∧Build w w' ay 1 oA j oC us F1 F2∧df (fun u xs=>IV w' u xs F2) us (xss.take j),⟨_,0,[],_,_,rfl,rfl,Nat.zero_le _,rfl,Build.nil (Ch.refl _ _),.nil⟩,?_⟩
 rintro jk oA oN oC i k w1 ⟨j,us,F1,F2,rfl,rfl,hj,rfl,hB,hU⟩
 refine ⟨fun a0=>?_,fun a6=>?_⟩
 ·have a0:oN<xss.length:=by have:=dQt a0;omega
  have a2:oN<vs.length:=by rw [ha.length];exact a0
  obtain ⟨o1,c1,hv,a7⟩:=ha.get oN a2 a0
  refine ⟨⟨by omega,by omega⟩,(a5.aa hB.ch).at (j:=(oN:Int).toNat*1) (v:=vs[oN]) (by simp [a2]) fun p hp=>?_⟩
  rw [hv] at hp
  refine ⟨_,_,_,hp,?_⟩
  refine ab (pM (a7.aa hB.ch) (hs.2 _ (List.getElem_mem _)) c1) ?_
  rintro v w2 ⟨⟨o2,c2,rfl,n2,m2,a8⟩,a3⟩
  refine ⟨_,_,_,rfl,fun w3 e3=>?_⟩
  have a1:=hB.more a3
  have hl:=hs.1
  obtain ⟨o4,c4,w4,F4,a9,b2,a4⟩:=a1.push ia bq e3 rfl rfl (by omega) (by omega)
  refine ⟨o4,_,c4,w4,a9,xss.length-(oN+1),by omega,oN+1,_,F4,_,by rw [ae (by omega) (by omega)];rfl,rfl,a0,rfl,b2,?_⟩
  rw [au xss oN a0]
  refine (hU.imp fun u xs h=>((h.aa a3).mono (fun i _ hi => .inl hi)).af a4 (fun i _ hi h1=>a1.ap i h1 hi)).snoc ?_
  exact IV.af (F:=Ext F2 w1 w2) ⟨o2,c2,rfl,n2,m2,a8.mono (fun i _ hi => .inr hi)⟩ a4 (fun i _ hi h1=>a1.ap i h1 hi)
 ·have:oN=xss.length:=by have:=dQf a6;omega
  subst this
  rw [List.take_length] at hU
  exact ⟨⟨oA,oC,us,rfl,hB.own.2.1,hB.own.2.2.1,hB.own.rd.mono (fun i _ hi=>hB.f1 i hi),hU.imp (fun u xs h=>h.mono (fun i _ hi=>hB.f2 i hi))⟩,hB.ch⟩
theorem Qe {p:Value × Value} {e:gr} (h:oE w p e G) (hs:small e.1∧small e.2):Calls Tryz.prog xn #[.agg #[p.1,p.2]] w (bc fun v w'=>∃ q:Value × Value,v = .agg #[q.1,q.2]∧EV w' q e (db w w')∧Ch ah w w'):=by
 obtain ⟨a,b⟩:=p
 obtain ⟨h1,h2⟩:=h
 have k1:=h1
 have k2:=h2
 obtain ⟨o1,c1,c6,rfl,_,_⟩:=h1
 obtain ⟨o2,c2,c7,rfl,_,_⟩:=h2
 dsimp only at k1 k2 ⊢
 refine Hk.calls _ _ _ _ _ _ ?_
 intro w1 e1 w2 e2
 have hA:=(ba.new e1).alloc e2
 have hB:=ba.new e2
 have a7:Ch ah w w2:=(Ch.alloc e1).ag (Ch.alloc e2)
 have a8:w.heap.size<w1.heap.size:=(ba.new e1).lt
 have a9:w1.heap.size<w2.heap.size:=hB.lt
 generalize c8:w1.heap.size=rb at hB a8 a9 ⊢
 have hA:ba w2 w.heap.size [.slice o1 e.1.length c1,.slice o2 e.2.length c2] bj:=hA
 clear e1 e2
 refine ⟨fun w'=>ba w' w.heap.size [.slice o1 e.1.length c1,.slice o2 e.2.length c2] bj,fun w3 e3=>⟨hA.drew e3,_,_,_,fun w' h=>h.cell 0 rfl,_,_,_,fun w' h=>h.cell 1 rfl,?_⟩⟩
 have a1:=a7.ag (Ch.drew e3)
 refine ab (GU (k1.aa a1) hs.1) ?_
 rintro v w4 ⟨⟨o4,c4,b2,rfl,n4,m4,b3,b4⟩,a0⟩
 refine ⟨_,_,_,rfl,(hA.drew e3).aa a0,?_⟩
 refine ab (GU (k2.aa (a1.ag a0)) hs.2) ?_
 rintro v w5 ⟨⟨o5,c5,b5,rfl,n5,m5,b6,b7⟩,a2⟩
 have a4:=((hB.drew e3).aa a0).aa a2
 have a5:=((hA.drew e3).aa a0).aa a2
 refine ⟨_,_,_,rfl,a5,⟨a4.ok 0 rfl,a4.ok 1 rfl⟩,fun w6 e6=>?_⟩
 have e7:w6=w5.setCells rb 0 [.slice o4 e.1.length c4,.slice o5 e.2.length c5]:=e6
 have a6:=a4.all [.slice o4 e.1.length c4,.slice o5 e.2.length c5] rfl e7
 have a3:Ch (·=rb) w5 w6:=Ch.fr e7 rfl
 have c9:w2.heap.size=w3.heap.size:=by subst e3;rfl
 have b8:=a0.size
 have b9:=a2.size
 have c0:=a3.size
 refine ⟨a5.af a3 (by omega),_,_,_,_,_,_,⟨a6.cell 0 rfl,a6.cell 1 rfl⟩,(_,_),rfl,⟨?_,?_⟩,((a1.ag a0).ag a2).trans a3 (fun i hi h=>by omega)⟩
 ·have h4:RV w4 (.slice o4 e.1.length c4) e.1 (db w3 w4):=⟨o4,c4,b2,rfl,n4,m4,b3,b4⟩
  exact ((h4.aa a2).af a3 (fun i _ hi h=>by have:=hi.1;omega)).mono (fun i _ hi=>⟨by have:=hi.1;have:=a1.size;omega,by have:=hi.2;omega⟩)
 ·have h5:RV w5 (.slice o5 e.2.length c5) e.2 (db w4 w5):=⟨o5,c5,b5,rfl,n5,m5,b6,b7⟩
  exact (h5.af a3 (fun i _ hi h=>by have:=hi.1;omega)).mono (fun i _ hi=>⟨by have:=hi.1;have:=a1.size;omega,by have:=hi.2;omega⟩)
theorem RG (h:dk w pb ps F) (hr:Rd w o (l.map (.int .i64)) G) (b9:∀ p∈ps,p.es.length≤4) (hl:l.length≤10000) (c:Nat) :
  Calls Tryz.prog mw #[.pointer (some ⟨pb,0,none⟩),.slice o l.length c] w (bc fun v w'=>∃ (o':OA) (c':Nat) (qs:List (Value × Value)) (F1 F2:Nat→Prop),v = .slice o' (ms ps l).length c'∧Build w w' bj 2 o' (ms ps l).length c' (qs.map ei).flatten F1 F2∧df (fun q e=>EV w' q e F2) qs (ms ps l)):=by
 refine xK.calls _ _ _ _ ?_
 refine ⟨fun oA oN oC i k w'=>∃ (j:Nat) (qs:List (Value × Value)) (F1 F2:Nat→Prop),i=j∧j≤l.length∧k=l.length-j∧oN=(ms ps (l.take j)).length∧Build w w' bj 2 oA oN oC (qs.map ei).flatten F1 F2∧df (fun q e=>EV w' q e F2) qs (ms ps (l.take j)),⟨_,0,[],_,_,rfl,Nat.zero_le _,rfl,rfl,Build.nil (Ch.refl _ _),.nil⟩,?_⟩
 rintro jk oA oN oC i k w1 ⟨j,qs,F1,F2,rfl,hj,rfl,rfl,hB,hA⟩
 refine ⟨fun a5=>?_,fun e0=>?_⟩
 ·have a5:j<l.length:=by have:=dQt a5;omega
  have a1:=By ps (l.take j) l[j]
  rw [← au l j a5] at a1
  have e8:=JA b9 (l.take j)
  have e9:(l.take j).length≤10000:=by rw [List.length_take];omega
  refine ⟨⟨by omega,by omega⟩,(hr.aa hB.ch).at (j:=(j:Int).toNat*1) (v := .int .i64 l[j]) (by simp [a5]) fun p hp=>⟨_,hp,?_⟩⟩
  generalize l[j]=id at a1
  have e1:=h.aa hB.ch
  refine ab (tW e1 id) ?_
  rintro v w2 ⟨rfl,rfl⟩
  refine ⟨_,rfl,fun hb=>?_,fun hb=>?_⟩
  ·have hb:mr ps id=false:=by simpa using hb
   rw [hb,if_neg Bool.false_ne_true,List.append_nil] at a1
   refine ⟨l.length-(j+1),by omega,j+1,qs,F1,F2,by rw [ae (by omega) (by omega)];rfl,a5,rfl,by rw [a1],hB,by rw [a1];exact hA⟩
  have hb:mr ps id=true:=by simpa using hb
  obtain ⟨h0,h1⟩:=gz hb
  rw [hb,if_pos rfl] at a1
  have hw:=h
  obtain ⟨o',c',gs,R,c4,hF,hP⟩:=hw
  have hC:ot w2 pb o' c' gs R ps.length:=c4.af hB.ch (fun _ _ _ hN=>hN)
  have c5:id.toNat<gs.length:=by rw [hC.len];exact h1
  obtain ⟨q,hq,_,_,_,a2,_⟩:=hC.at c5
  obtain ⟨_,_,g3,us,c6,a8,b2⟩:=hP _ c5 h1
  have c7:ps[id.toNat].es.length≤4:=b9 _ (List.getElem_mem h1)
  rw [← ef h0 h1] at g3 a8 b2 c7
  rw [g3] at a2
  subst hq
  refine ⟨_,_,_,hC.blk.cell 0 rfl,⟨by omega,by omega⟩,_,_,_,a2,?_⟩
  have c9:=c6.rd
  generalize (ax ps id).es=es at a1 a8 b2 c7
  generalize gs[id.toNat].eo=eo at c9
  clear c6 a2 hP hF hC c4
  refine ⟨fun oA oN oC i k w'=>∃ (m:Nat) (qs:List (Value × Value)) (F1 F2:Nat→Prop),i=m∧m≤es.length∧k=es.length-m∧oN=(ms ps (l.take j)++es.take m).length∧Build w w' bj 2 oA oN oC (qs.map ei).flatten F1 F2∧df (fun q e=>EV w' q e F2) qs (ms ps (l.take j)++es.take m),⟨_,0,qs,F1,F2,rfl,Nat.zero_le _,rfl,by simp,hB,by simpa using hA⟩,?_⟩
  clear hA hB
  rintro jk oA oN oC i k w3 ⟨m,qs,F1,F2,rfl,hm,rfl,rfl,hB,hA⟩
  refine ⟨fun a0=>?_,fun b3=>?_⟩
  ·have a0:m<es.length:=by have:=dQt a0;omega
   have b4:m<us.length:=by rw [a8.length];exact a0
   obtain ⟨f0,f3⟩:=Iy us b4
   have hE:=a8.get m b4 a0
   obtain ⟨p,hp,_,_,a3⟩:=(c9.aa hB.ch).elem (sz:=2) (enc:=ei) (fun _=>rfl) (by omega) b4
   have c0:=a3 0 _ rfl
   have c1:=a3 1 _ rfl
   rw [cm] at c0
   have a9:=hE.aa hB.ch
   have d0:=b2 _ (List.getElem_mem a0)
   have b5:=au es m a0
   generalize us[m]=u at a9 c0 c1
   generalize es[m]=e at a9 d0 b5
   obtain ⟨ua,ub⟩:=u
   have b6:=a9
   obtain ⟨⟨o1,a6,f4,d1,_,_⟩,⟨o2,a7,f5,d2,_,_⟩⟩:=a9
   dsimp only at d1 d2 c0 c1
   subst d1;subst d2
   subst hp
   refine ⟨⟨by omega,by omega⟩,?_⟩
   refine ⟨o1,_,a6,o2,_,a7,⟨c0,c1⟩,fun w4 e4=>?_⟩
   have hV:=ba.new e4
   refine ⟨⟨hV.ok 0 rfl,hV.ok 1 rfl⟩,fun w5 e5=>?_⟩
   have e6:w5=w4.setCells w3.heap.size 0 [.slice o1 e.1.length a6,.slice o2 e.2.length a7]:=e5
   have d3:=hV.all [.slice o1 e.1.length a6,.slice o2 e.2.length a7] rfl e6
   have a4:Ch ah w3 w5:=(Ch.alloc (F:=ah) e4).trans (Ch.fr (F:=(·=w3.heap.size)) e6 rfl) (fun i hi he=>by omega)
   clear e4 e5 e6 hV
   refine ⟨o1,_,a6,o2,_,a7,⟨d3.cell 0 rfl,d3.cell 1 rfl⟩,?_⟩
   refine ab (Qe (p:=(.slice o1 e.1.length a6,.slice o2 e.2.length a7)) (b6.aa a4) d0) ?_
   rintro v w6 ⟨⟨qa,qb⟩,rfl,hQ,d4⟩
   have e2:=hQ
   obtain ⟨⟨oa,ca,va,d5,_⟩,⟨ob,cb,vb,d6,_⟩⟩:=hQ
   dsimp only at d5 d6
   subst d5;subst d6
   refine ⟨oa,_,ca,ob,_,cb,rfl,fun w7 e7=>?_⟩
   have b7:=(hB.aa a4).more d4
   have b8:(ms ps (l.take j)++es.take m).length<1000000:=by rw [List.length_append,List.length_take];omega
   obtain ⟨o8,c8,w8,F8,d7,d8,d9⟩:=b7.push ja fq e7 rfl rfl b8 (by omega)
   have e3:(ms ps (l.take j)++es.take m).length+1=(ms ps (l.take j)++es.take (m+1)).length:=by rw [b5,← List.append_assoc,List.length_append (bs:=[e])];rfl
   rw [e3] at d8 d7
   refine ⟨o8,_,c8,w8,d7,es.length-(m+1),by omega,m+1,qs++[(.slice oa e.1.length ca,.slice ob e.2.length cb)],F8,_,by rw [ae (by omega) (by omega)];rfl,a0,rfl,rfl,by rw [← uj];exact d8,?_⟩
   rw [b5,← List.append_assoc]
   refine df.snoc (hA.imp fun q x k=>?_) ?_
   ·exact (((k.aa a4).aa d4).mono (fun i _ hi => .inl hi)).af d9 (fun i _ hi h=>b7.ap i h hi)
   ·exact EV.af (F:=Ext F2 w5 w6) (e2.mono (fun i _ hi => .inr hi)) d9 (fun i _ hi h=>b7.ap i h hi)
  ·have:m=es.length:=by have:=dQf b3;omega
   subst this
   rw [List.take_length,← a1] at hA hB
   exact ⟨l.length-(j+1),by omega,j+1,qs,F1,F2,by rw [ae (by omega) (by omega)];rfl,a5,rfl,by rw [a1,List.take_length],by rw [List.take_length,← a1];exact hB,hA⟩
 ·have:j=l.length:=by have:=dQf e0;omega
  subst this
  rw [List.take_length] at hB hA
  exact ⟨oA,oC,qs,F1,F2,by rw [List.take_length],hB,hA⟩
theorem RL (h:dk w pb ps F) (hr:Rd w o (l.map (.int .i64)) G) (a0:∀ p∈ps,p.es.length≤4) (hl:l.length≤10000) (c:Nat) :
  Calls Tryz.prog mw #[.pointer (some ⟨pb,0,none⟩),.slice o l.length c] w (bc fun v w'=>PV w' v (ms ps l) (db w w')∧Ch ah w w'):=by
 refine ab (RG h hr a0 hl c) ?_
 rintro v w' ⟨o',c',qs,F1,F2,rfl,hB,hA⟩
 exact ⟨⟨o',c',qs,rfl,hB.own.2.1,hB.own.2.2.1,hB.own.rd.mono (fun i _ hi=>hB.f1 i hi),hA.imp (fun q e k=>k.mono (fun i _ hi=>hB.f2 i hi))⟩,hB.ch⟩
end
end Go.Proofs.YtkbikekbaboclaaGreat.fo
set_option linter.unusedVariables false
set_option linter.unusedSimpArgs false
namespace Go.Proofs.YtkbikekbaboclaaGreat.fo
open Go Go.Proofs V Vc Step bh dh ee fv Go.RowKit
open gm (da di dl ik)
structure bo where
 ask:da
 c:ep
 wt:ByteArray
 aj:List Int
 done:Nat
 said:List Int
structure nq where
 rb:Nat
 bb:Nat
 ap:di
 po:OA
 pc:Nat
 so:OA
 sc:Nat
def Sc (g:nq) (r:bo):List Value:=[.pointer (some ⟨g.bb,0,none⟩),.int .i64 r.ask.id,.int .i64 r.ask.ver,.slice g.ap.po r.ask.ai.length g.ap.pc,.int .i64 r.ask.most,.slice g.ap.qo r.ask.draws.length g.ap.qc,.slice g.po r.aj.length g.pc,.int .i64 r.done,.slice g.so r.said.length g.sc]
def Dj (q:nq × bo):Value := .pointer (some ⟨q.1.rb,0,none⟩)
def lk (w:World) (q:da × di) (D:Nat→Prop):Prop:=ik w q D∧q.1.ai.length≤q.2.pc∧q.2.pc≤maxLen∧q.1.draws.length≤q.2.qc∧q.2.qc≤maxLen
theorem lk.af {w w':World} {q:da × di} {D G:Nat→Prop} (h:lk w q D) (hc:Ch G w w') (hd:∀ i,i<w.heap.size→D i→¬ G i):lk w' q D:=⟨h.1.af hc hd,h.2⟩
theorem lk.aa {w w':World} {q:da × di} {D:Nat→Prop} (h:lk w q D) (hc:Ch ah w w'):lk w' q D:=h.af hc (fun _ _ _=>id)
theorem lk.mono {w:World} {q:da × di} {D D':Nat→Prop} (h:lk w q D) (hg:∀ i,i<w.heap.size→D i→D' i):lk w q D':=⟨h.1.mono hg,h.2⟩
def Su (W w:World) (R:Nat→Nat→Prop) (bb:Nat) (cf:ep) (wt:ByteArray):Prop:=yn W bb cf wt∨(R 2 bb∧yn w bb cf wt)
structure uw (W w:World) (R:Nat→Nat→Prop) (q:nq × bo):Prop where
 blk:ba w q.1.rb (Sc q.1 q.2) uH
 z:R (5+3*q.1.rb) q.1.rb
 br:Su W w R q.1.bb q.2.c q.2.wt
 ask:lk w (q.2.ask,q.1.ap) (R 2)
 pg:Own w bd 1 q.1.po q.2.aj.length q.1.pc (q.2.aj.map (.int .i64)) (R (6+3*q.1.rb))
 sd:Own w bd 1 q.1.so q.2.said.length q.1.sc (q.2.said.map (.int .i64)) (R (7+3*q.1.rb))
structure cn (W w:World) (cb pb xb k:Nat) (B:Int) (ps:List ak) (es:List bw) (o:OA) (c:Nat) (qs:List (nq × bo)) (R:Nat→Nat→Prop):Prop where
 fam:Dy w R
 f:∀ k i,R k i→W.heap.size≤i
 z:R 0 cb
 blk:ba w cb [.pointer (some ⟨pb,0,none⟩),.pointer (some ⟨xb,0,none⟩),.slice o qs.length c] Jd
 own:Own w oR 1 o qs.length c (qs.map Dj) (R 1)
 px:PX W w pb xb k B ps es (R 3) (R 4)
 nd:(qs.map (·.1.rb)).Nodup
 rn:∀ q∈qs,uw W w R q
def de (R:Nat→Nat→Prop):Nat→Prop:=fun i=>∃ k,R k i
def dt (R:Nat→Nat→Prop):Nat→Prop:=fun i=>∃ k,k≠2∧R k i
def La (R:Nat→Nat→Prop) (FP FI:Nat→Prop):Nat→Nat→Prop:=fun k=>if k=3 then FP else if k=4 then FI else R k
section
variable {W w w':World} {cb pb xb k:Nat} {B B':Int} {ps ps':List ak} {es es':List bw} {o:OA} {c:Nat} {qs:List (nq × bo)} {q:nq × bo} {R R':Nat→Nat→Prop} {F G FP FI:Nat→Prop}
theorem Ie {k:Nat} (h3:k≠3) (h4:k≠4):La R FP FI k=R k:=by unfold La;rw [if_neg h3,if_neg h4]
theorem uw.af (h:uw W w R q) (hc:Ch G w w') (h2:∀ i,R 2 i→¬ G i) (h0:∀ i,R (5+3*q.1.rb) i→¬ G i) (h6:∀ i,R (6+3*q.1.rb) i→¬ G i) (h7:∀ i,R (7+3*q.1.rb) i→¬ G i)
  (k2:∀ i,R 2 i→R' 2 i) (k0:R' (5+3*q.1.rb)=R (5+3*q.1.rb)) (k6:R' (6+3*q.1.rb)=R (6+3*q.1.rb)) (k7:R' (7+3*q.1.rb)=R (7+3*q.1.rb)):uw W w' R' q :=
 ⟨h.blk.af hc (h0 _ h.z),by rw [k0];exact h.z,h.br.imp id (fun k=>⟨k2 _ k.1,k.2.af hc (h2 _ k.1)⟩),(h.ask.af hc (fun i _ hi=>h2 i hi)).mono (fun i _ hi=>k2 i hi),by rw [k6];exact h.pg.af hc (fun i _ hi=>h6 i hi),by rw [k7];exact h.sd.af hc (fun i _ hi=>h7 i hi)⟩
theorem uw.ze (h:uw W w R q) (hc:Ch G w w') (hG:∀ k i,R k i→¬ G i):uw W w' R q:=h.af hc (hG _) (hG _) (hG _) (hG _) (fun _ h=>h) rfl rfl rfl
theorem uw.aa (h:uw W w R q) (hc:Ch ah w w'):uw W w' R q:=h.ze hc (fun _ _ _=>id)
theorem cn.ze (h:cn W w cb pb xb k B ps es o c qs R) (hc:Ch G w w') (hG:∀ k i,R k i→¬ G i) (hW:∀ i,i<W.heap.size→¬ G i):cn W w' cb pb xb k B ps es o c qs R :=
 ⟨h.fam.le hc.size,h.f,h.z,h.blk.af hc (hG _ _ h.z),h.own.af hc (fun i _ hi=>hG _ i hi),
  ⟨⟨h.px.p.r.af hc (fun i _ hi=>hG _ i hi),h.px.p.f.le hc.size,h.px.p.c.trans hc (fun i hi hg=>hW i hi hg)⟩,h.px.x.af hc (fun i _ hi=>hG _ i hi),h.px.g,h.px.f.le hc.size,h.px.ap⟩,
  h.nd,fun q hq=>(h.rn q hq).ze hc hG⟩
theorem cn.aa (h:cn W w cb pb xb k B ps es o c qs R) (hc:Ch ah w w'):cn W w' cb pb xb k B ps es o c qs R:=h.ze hc (fun _ _ _=>id) (fun _ _=>id)
theorem cn.lt (h:cn W w cb pb xb k B ps es o c qs R):∀ i,de R i→i<w.heap.size:=fun i ⟨k,hi⟩=>h.fam.1 k i hi
theorem cn.ge (h:cn W w cb pb xb k B ps es o c qs R):∀ i,de R i→W.heap.size≤i:=fun i ⟨k,hi⟩=>h.f k i hi
theorem dz:∀ i,dt R i→de R i:=fun i ⟨k,_,h⟩=>⟨k,h⟩
theorem cn.Bz (h:cn W w cb pb xb k B ps es o c qs R):∀ i,R 2 i→¬ dt R i:=fun i hi ⟨k,hk,a0⟩=>h.fam.2 2 k (by omega) i hi a0
theorem cn.ch (h:cn W w cb pb xb k B ps es o c qs R):Ch ah W w:=h.px.p.c
theorem cn.Tn {bb:Nat} {cf:ep} {wt:ByteArray} (h:cn W w cb pb xb k B ps es o c qs R) (hb:Su W w R bb cf wt):yn w bb cf wt:=hb.elim (fun k=>k.aa h.ch) (fun k=>k.2)
theorem cn.br (h:cn W w cb pb xb k B ps es o c qs R) (hr:uw W w R q):yn w q.1.bb q.2.c q.2.wt:=h.Tn hr.br
theorem cn.sa (h:cn W w cb pb xb k B ps es o c qs R) (hx:PX W w' pb xb k B' ps' es' FP FI) (hP:∀ i,FP i→Ext (R 3) w w' i) (hI:∀ i,FI i→Ext (R 4) w w' i) (hc:Ch (fun i=>R 4 i∨R 3 i) w w') :
  cn W w' cb pb xb k B' ps' es' o c qs (La R FP FI)∧(∀ i,de (La R FP FI) i→Ext (de R) w w' i)∧Ch (dt R) w w':=by
 have hs:=hc.size
 have ap:∀ {j},j≠3→j≠4→∀ i,R j i→¬ (R 4 i∨R 3 i):=fun {j} h3 h4 i hi hg=>by
  rcases hg with hg|hg
  ·exact h.fam.2 j 4 h4 i hi hg
  ·exact h.fam.2 j 3 h3 i hi hg
 have up:∀ j i,La R FP FI j i→Ext (R j) w w' i:=fun j i hi=>by
  unfold La at hi
  split at hi
  ·rename_i e;subst e;exact hP i hi
  ·split at hi
   ·rename_i e;subst e;exact hI i hi
   ·exact .inl hi
 have uq:∀ j,j≠3→j≠4→La R FP FI j=R j:=fun j h3 h4=>Ie h3 h4
 refine ⟨⟨⟨fun j i hi=>?_,fun j m a0 i hi hm=>?_⟩,fun j i hi=>?_,by rw [uq 0 (by omega) (by omega)];exact h.z,h.blk.af hc (ap (by omega) (by omega) _ h.z),by rw [uq 1 (by omega) (by omega)];exact h.own.af hc (fun i _ hi=>ap (by omega) (by omega) i hi),hx,h.nd,fun q hq=>?_⟩,fun i ⟨j,hi⟩=>?_,hc.mono (fun i _ hi=>by
  rcases hi with hi|hi
  ·exact ⟨4,by omega,hi⟩
  ·exact ⟨3,by omega,hi⟩)⟩
 ·rcases up j i hi with h1|h1
  ·exact Nat.lt_of_lt_of_le (h.fam.1 j i h1) hs
  ·exact h1.2
 ·by_cases e1:j=3∨j=4
  ·by_cases e2:m=3∨m=4
   ·have a1:=hx.ap
    unfold La at hi hm
    rcases e1 with rfl|rfl
    ·rcases e2 with rfl|rfl
     ·exact a0 rfl
     ·simp only [if_true] at hi
      rw [if_neg (by omega),if_pos rfl] at hm
      exact hx.ap i hm hi
    ·rcases e2 with rfl|rfl
     ·simp only [if_true] at hm
      rw [if_neg (by omega),if_pos rfl] at hi
      exact hx.ap i hi hm
     ·exact a0 rfl
   ·rw [uq m (by omega) (by omega)] at hm
    rcases up j i hi with h1|h1
    ·exact h.fam.2 j m a0 i h1 hm
    ·exact absurd (h.fam.1 m i hm) (Nat.not_lt.2 h1.1)
  ·rw [uq j (by omega) (by omega)] at hi
   rcases up m i hm with h1|h1
   ·exact h.fam.2 j m a0 i hi h1
   ·exact absurd (h.fam.1 j i hi) (Nat.not_lt.2 h1.1)
 ·rcases up j i hi with h1|h1
  ·exact h.f j i h1
  ·exact Nat.le_trans h.px.p.c.size h1.1
 ·exact (h.rn q hq).af hc (ap (by omega) (by omega)) (ap (by omega) (by omega)) (ap (by omega) (by omega)) (ap (by omega) (by omega)) (fun i hi=>by rw [uq 2 (by omega) (by omega)];exact hi) (uq _ (by omega) (by omega)) (uq _ (by omega) (by omega)) (uq _ (by omega) (by omega))
 ·rcases up j i hi with h1|h1
  ·exact .inl ⟨_,h1⟩
  ·exact .inr h1
theorem cn.at (h:cn W w cb pb xb k B ps es o c qs R) {i:Nat} (hi:i<qs.length):∃ p,o=some p∧w.cell? (p.add i)=some (.pointer (some ⟨qs[i].1.rb,0,none⟩)):=by
 obtain ⟨p,hp,_,_,hc⟩:=Rd.QY (enc:=Dj) h.own.rd hi
 exact ⟨p,hp,hc⟩
def Ip (id:Int) (r:bo):Bool:=r.ask.id==id
def ff (rs:List bo) (id:Int):Int:=if rs.findIdx (Ip id)<rs.length then (rs.findIdx (Ip id):Int) else -1
theorem zS {cb' T:Nat} {id:Int} (h:uw W w R q) (hb:ba w cb' [.int .i64 id] T):Calls Tryz.prog sw #[.pointer (some ⟨q.1.rb,0,none⟩),.pointer (some ⟨cb',0,none⟩)] w (bc fun v w'=>v = .bool (Ip id q.2)∧Ch ah w w'):=by
 refine CT.calls _ _ ?_
 exact ⟨fun w'=>Ch ah w w',fun w1 e1=>⟨Ch.drew e1,_,fun w' k=>(h.blk.aa k).cell 1 rfl,_,fun w' k=>(hb.aa k).cell 0 rfl,rfl,Ch.drew e1⟩⟩
theorem An {cb' T:Nat} {id:Int} (h:cn W w cb pb xb k B ps es o c qs R) (hn:qs.length<1000) (hb:ba w cb' [.int .i64 id] T) :
  Calls Tryz.prog 71 #[.slice o qs.length c,.func (.func sw) #[] #[.pointer (some ⟨cb',0,none⟩)]] w (bc fun v w'=>v = .int .i64 (ff (qs.map (·.2)) id)∧Ch ah w w'):=by
 refine bf.PM _ _ _ _ ?_
 refine ⟨fun i n w'=>∃ j:Nat,i=j∧j≤qs.length∧n=qs.length-j∧(∀ m (hm:m<qs.length),m<j→Ip id qs[m].2=false)∧Ch ah w w',⟨_,0,rfl,Nat.zero_le _,rfl,fun m hm h=>by omega,Ch.refl _ _⟩,?_⟩
 rintro jk i n w1 ⟨j,rfl,hj,rfl,a2,a1⟩
 refine ⟨fun a0=>?_,fun a5=>?_⟩
 ·have a0:j<qs.length:=by have:=dQt a0;omega
  obtain ⟨p,rfl,hp⟩:=(h.aa a1).at a0
  refine ⟨⟨by omega,by omega⟩,_,by rw [Int.toNat_natCast,Nat.mul_one];exact hp,ab (zS ((h.aa a1).rn _ (List.getElem_mem a0)) (hb.aa a1)) ?_⟩
  rintro v w2 ⟨rfl,a3⟩
  refine ⟨_,rfl,fun hy=>⟨?_,a1.ag a3⟩,fun a6=>⟨qs.length-(j+1),by omega,j+1,by rw [ae (by omega) (by omega)];rfl,a0,rfl,fun m hm a7=>?_,a1.ag a3⟩⟩
  ·have:(qs.map (·.2)).findIdx (Ip id)=j:=by
    rw [List.findIdx_eq (by simpa using a0)]
    exact ⟨by simpa using hy,fun m hm=>by
     have:=a2 m (by omega) hm
     simpa using this⟩
   unfold ff
   rw [this,if_pos (by simpa using a0)]
  ·by_cases e:m=j
   ·subst e;exact a6
   ·exact a2 m hm (by omega)
 ·have:j=qs.length:=by have:=dQf a5;omega
  subst this
  refine ⟨?_,a1⟩
  unfold ff
  rw [if_neg (fun hx=>?_)]
  have hy:=List.findIdx_getElem (w:=hx)
  have a4:(qs.map (·.2)).findIdx (Ip id)<qs.length:=by simpa using hx
  rw [List.getElem_map,a2 _ a4 a4] at hy
  cases hy
theorem uM (h:cn W w cb pb xb k B ps es o c qs R) (hn:qs.length<1000) (id:Int):Calls Tryz.prog DG #[.pointer (some ⟨cb,0,none⟩),.int .i64 id] w (bc fun v w'=>v = .int .i64 (ff (qs.map (·.2)) id)∧Ch ah w w'):=by
 refine HZ.calls _ _ ?_
 intro w1 e1
 have hb:=ba.new e1
 have a0:Ch ah w w1:=Ch.alloc e1
 have h1:=h.aa a0
 refine ⟨_,_,_,h1.blk.cell 2 rfl,ab (An h1 hn hb) ?_⟩
 rintro v w2 ⟨rfl,a1⟩
 exact ⟨_,rfl,rfl,a0.ag a1⟩
theorem LI (h:cn W w cb pb xb k B ps es o c qs R):Calls Tryz.prog pD #[.pointer (some ⟨cb,0,none⟩)] w (bc fun v w'=>v = .int .i64 (oW ps)∧w'=w):=by
 refine ru.calls _ ?_
 refine ⟨_,h.blk.cell 0 rfl,ab (bh.NA h.px.p.r) ?_⟩
 rintro v w1 ⟨rfl,rfl⟩
 exact ⟨_,rfl,rfl,rfl⟩
theorem Ng (h:cn W w cb pb xb k B ps es o c qs R):Calls Tryz.prog pG #[.pointer (some ⟨cb,0,none⟩)] w (bc fun v w'=>v = .int .i64 es.length∧w'=w):=by
 refine rH.calls _ ?_
 refine ⟨_,h.blk.cell 1 rfl,ab (dh.tD h.px.x) ?_⟩
 rintro v w1 ⟨rfl,rfl⟩
 exact ⟨_,rfl,rfl,rfl⟩
theorem Pd (h:cn W w cb pb xb k B ps es o c qs R) (hn:qs.length<1000):Calls Tryz.prog qL #[.pointer (some ⟨cb,0,none⟩)] w (bc fun v w'=>IV w' v (qs.map (·.2.ask.id)) (db w w')∧Ch ah w w'):=by
 refine sP.calls _ ?_
 refine ⟨_,_,_,h.blk.cell 2 rfl,fun oA oN oC i k w'=>∃ j:Nat,i=j∧j≤qs.length∧k=qs.length-j∧oN=j∧Gr ah w w' bd 1 oA j oC (((qs.map (·.2.ask.id)).take j).map (.int .i64)),⟨_,0,rfl,Nat.zero_le _,rfl,rfl,Gr.nil (Ch.refl _ _)⟩,?_⟩
 rintro jk oA oN oC i kk w1 ⟨j,rfl,hj,rfl,rfl,hg⟩
 have a1:=hg.2
 refine ⟨fun a0=>?_,fun a2=>?_⟩
 ·have a0:oN<qs.length:=by have:=dQt a0;omega
  have h1:=h.aa a1
  obtain ⟨p,rfl,hp⟩:=h1.at a0
  have hr:=h1.rn _ (List.getElem_mem a0)
  refine ⟨⟨by omega,by omega⟩,some ⟨qs[oN].1.rb,0,none⟩,by rw [Int.toNat_natCast,Nat.mul_one];exact hp,_,by rw [eh,Nat.zero_add];exact hr.blk.cell 1 rfl,fun w2 e2=>?_⟩
  obtain ⟨o',c',w3,a3,a4,_⟩:=Gr.next (enc:=Value.int .i64) (L:=qs.map (·.2.ask.id)) (v := .int .i64 qs[oN].2.ask.id) bi hg ay (by simpa using a0) (by rw [List.length_map];omega) e2 (by simp) rfl (by omega)
  exact ⟨o',_,c',w3,a3,qs.length-(oN+1),by omega,oN+1,by rw [ae (by omega) (by omega)];rfl,a0,rfl,rfl,a4⟩
 ·have:oN=qs.length:=by have:=dQf a2;omega
  subst this
  rw [List.take_of_length_le (by simp)] at hg
  exact ⟨⟨oA,oC,by simp,by simpa using hg.1.2.1,hg.1.2.2.1,hg.rd⟩,a1⟩
end
end Go.Proofs.YtkbikekbaboclaaGreat.fo
set_option linter.unusedVariables false
set_option linter.unusedSimpArgs false
namespace Go.Proofs.YtkbikekbaboclaaGreat.fo
open Go Go.Proofs V Vc Step bh dh ee fv Go.RowKit
open gm (da di dl ik)
section
variable {W w w':World} {cb pb xb k:Nat} {B B':Int} {ps ps':List ak} {es es':List bw} {o:OA} {c n:Nat} {qs:List (nq × bo)} {q:nq × bo} {R R':Nat→Nat→Prop} {F G FP FI Fa:Nat→Prop} {xs ys:List Int}
theorem AM (R:Nat→Nat→Prop):La R (R 3) (R 4)=R:=by
 funext k
 unfold La
 split
 ·rename_i h;rw [h]
 ·split
  ·rename_i h;rw [h]
  ·rfl
theorem HH (hO:Own w oR 1 o qs.length c (qs.map Dj) Fa) {i:Nat} (hi:i<qs.length) (hn:qs.length≤1000000) :
  Calls Tryz.prog 84 #[.slice o qs.length c,.int .i64 i,.int .i64 (IntKind.i64.wrap ((i:Int)+1))] w (bc fun v w'=>v = .slice o (qs.length-1) c∧Own w' oR 1 o (qs.length-1) c ((qs.eraseIdx i).map Dj) Fa∧Ch Fa w w'):=by
 refine sR.Nj _ _ _ _ _ ?_
 have b4:=hO.2.1
 rw [ae (by omega) (by omega)]
 refine ⟨⟨by omega,by omega,by omega,by omega⟩,eg (by simp;omega) ?_⟩
 refine ⟨fun _=>True,fun w1 e1=>⟨trivial,⟨by omega,by omega⟩,⟨by omega,by omega⟩,?_⟩⟩
 have a3:=hO.aa (Ch.drew e1)
 have a4:((i:Int)+1).toNat=i+1:=by omega
 have a5:(i:Int).toNat=i:=by omega
 rw [a4,a5]
 obtain ⟨w2,a6,a2,a7⟩:=a3.cut qF (i:=i) (j:=i+1) (by omega) (by omega) (fun u hu=>by obtain ⟨q,_,rfl⟩:=List.mem_map.1 hu;rfl) wK
 refine ⟨_,_,_,w2,a6,trivial,⟨by omega,by omega,by omega⟩,?_⟩
 have hk:i+(qs.length-(i+1))=qs.length-1:=by omega
 rw [hk] at a2 ⊢
 have hz:Ke Tryz.prog oR=true:=by kernel_rfl
 obtain ⟨x,w3,a8,a0,a9⟩:=a2.clear qF hz (i:=qs.length-1) (by omega) 0
 have b2:((qs.length-1:Nat):Int).toNat=qs.length-1:=Int.toNat_natCast _
 have b3:((qs.length:Nat):Int).toNat=qs.length:=Int.toNat_natCast _
 refine ⟨x,w3,by rw [b2,b3];exact a8,rfl,?_,((Ch.drew (F:=Fa) e1).same a7).same a9⟩
 simp only [Nat.mul_one] at a0
 have a1:((qs.map Dj).take i++(qs.map Dj).drop (i+1)).length=qs.length-1:=by
  rw [List.length_append,List.length_take,List.length_drop,List.length_map];omega
 rw [List.take_append,List.take_of_length_le (by omega),a1,Nat.sub_self,List.take_zero,List.append_nil] at a0
 rw [gf,List.map_append,List.map_take,List.map_drop]
 exact a0
def fk (ps:List ak) (l:List Int):List ak:=if gg ps l&&!oP ps l then ek ps l else ps
theorem su (h:bh.Good k B ps) (hB:0≤B) (l:List Int):bh.Good k B (fk ps l):=by
 unfold fk
 split
 ·rename_i hg;exact h.Rg hB (wU.2 hg)
 ·exact h
theorem uw.low (fam:Dy w R) (h:uw W w R q) (hc:Ch (fun i=>R 0 i∨R 1 i∨R 3 i∨R 4 i) w w'):uw W w' R q:=by
 have ap:∀ {j},j≠0→j≠1→j≠3→j≠4→∀ i,R j i→¬ (R 0 i∨R 1 i∨R 3 i∨R 4 i):=fun {j} h0 h1 h3 h4 i hi hg=>by
  rcases hg with hg|hg|hg|hg
  ·exact fam.2 j 0 h0 i hi hg
  ·exact fam.2 j 1 h1 i hi hg
  ·exact fam.2 j 3 h3 i hi hg
  ·exact fam.2 j 4 h4 i hi hg
 exact h.af hc (ap (by omega) (by omega) (by omega) (by omega)) (ap (by omega) (by omega) (by omega) (by omega)) (ap (by omega) (by omega) (by omega) (by omega)) (ap (by omega) (by omega) (by omega) (by omega)) (fun _ h=>h) rfl rfl rfl
theorem wI (h:cn W w cb pb xb k B ps es o c qs R) (hk:k≤1000) (hB:0≤B∧B≤1000000000) (hn:qs.length≤1000) {i:Nat} (hi:i<qs.length) (hl:qs[i].2.aj.length≤1000) :
  Calls Tryz.prog Dl #[.pointer (some ⟨cb,0,none⟩),.int .i64 i] w (bc fun v w'=>v = .pointer (some ⟨qs[i].1.rb,0,none⟩)∧cn W w' cb pb xb k B (fk ps qs[i].2.aj) es o c (qs.eraseIdx i) R∧uw W w' R qs[i]∧Ch (fun i=>R 0 i∨R 1 i∨R 3 i∨R 4 i) w w'):=by
 refine Gg.calls _ _ ?_
 obtain ⟨p,hp,a3⟩:=h.at hi
 have hr:=h.rn _ (List.getElem_mem hi)
 subst hp
 refine ⟨_,_,_,h.blk.cell 2 rfl,⟨by omega,by omega⟩,some ⟨qs[i].1.rb,0,none⟩,by rw [Int.toNat_natCast,Nat.mul_one];exact a3,fun w'=>Ch (R 3) w w',fun w1 e1=>⟨Ch.drew e1,?_⟩⟩
 have b4:∀ i,R 0 i→¬ R 3 i:=h.fam.2 0 3 (by omega)
 have b5:∀ m,R (5+3*qs[i].1.rb) m→¬ R 3 m:=h.fam.2 _ 3 (by omega)
 refine ⟨_,fun w' k=>(h.blk.af k (b4 _ h.z)).cell 0 rfl,_,_,_,fun w' k=>by rw [eh,Nat.zero_add];exact (hr.blk.af k (b5 _ hr.z)).cell 6 rfl,?_⟩
 have a6:Ch ah w w1:=Ch.drew e1
 have h1:=h.aa a6
 have b6:ps.length=k:=h.px.g.len
 refine ab (GY h1.px.p.r h1.px.p.lt (hr.aa a6).pg.rd (fun m hm=>h1.fam.1 _ m hm) (fun m _ hm hf=>h.fam.2 (6+3*qs[i].1.rb) 3 (by omega) m hm hf) (by omega) (by omega) ⟨hB.1,by omega⟩ h.px.g.FC _) ?_
 rintro v w2 ⟨rfl,b7,a7⟩
 have a4:Ch (R 3) w w2:=a6.any.same a7
 have b8:=su h.px.g hB.1 qs[i].2.aj
 obtain ⟨a0,_,_⟩:=h1.sa (h1.px.sa b7 a7 b8) (fun _ hi => .inl hi) (fun _ hi => .inl hi) (a7.mono (fun _ _ hi => .inr hi))
 rw [AM] at a0
 refine ⟨_,rfl,a4,_,_,_,a0.blk.cell 2 rfl,?_⟩
 refine ab (HH a0.own hi (by omega)) ?_
 rintro v w3 ⟨rfl,b9,a8⟩
 have c0:¬ R 1 cb:=h.fam.2 0 1 (by omega) cb h.z
 have b2:=a0.blk.af a8 c0
 refine ⟨_,_,_,rfl,b2.ok 2 rfl,fun w4 e4=>?_⟩
 have c4:=b2.set e4
 have a9:Ch (R 0) w3 w4:=Ch.set e4 h.z
 have a2:Ch (fun i=>R 0 i∨R 1 i∨R 3 i∨R 4 i) w w4:=((a4.mono (fun _ _ h => .inr (.inr (.inl h)))).same (a8.mono (fun _ _ h => .inr (.inl h)))).same (a9.mono (fun _ _ h => .inl h))
 have a1:Ch (fun i=>R 0 i∨R 1 i) w2 w4:=(a8.mono (fun _ _ h => .inr h)).same (a9.mono (fun _ _ h => .inl h))
 have a5:∀ j,j=3∨j=4→∀ i,R j i→¬ (R 0 i∨R 1 i):=fun j hj i hi hg=>by
  rcases hg with hg|hg
  ·exact h.fam.2 j 0 (by omega) i hi hg
  ·exact h.fam.2 j 1 (by omega) i hi hg
 have b3:(qs.eraseIdx i).length=qs.length-1:=by rw [List.length_eraseIdx,if_pos hi]
 refine ⟨rfl,⟨(h.fam.le a2.size),h.f,h.z,by rw [b3];exact c4,by rw [b3];exact b9.af a9 (fun i _ h1 h0=>h.fam.2 1 0 (by omega) i h1 h0),
  ⟨⟨a0.px.p.r.af a1 (fun i _ hi=>a5 3 (.inl rfl) i hi),a0.px.p.f.le a1.size,a0.px.p.c.trans a1 (fun i hi hg=>by
   rcases hg with hg|hg
   ·exact absurd (h.f 0 i hg) (Nat.not_le.2 hi)
   ·exact absurd (h.f 1 i hg) (Nat.not_le.2 hi))⟩,a0.px.x.af a1 (fun i _ hi=>a5 4 (.inr rfl) i hi),a0.px.g,a0.px.f.le a1.size,a0.px.ap⟩,
  List.Nodup.sublist ((List.eraseIdx_sublist qs i).map _) h.nd,fun q hq=>(h.rn q ((List.eraseIdx_sublist qs i).subset hq)).low h.fam a2⟩,hr.low h.fam a2,a2⟩
theorem Hr:∀ i,(R 0 i∨R 1 i∨R 3 i∨R 4 i)→dt R i:=fun i h=>by
 rcases h with h|h|h|h <;> exact ⟨_,by omega,h⟩
theorem Lp (h:cn W w cb pb xb k B ps es o c qs R) (hk:k≤1000) (hB:0≤B∧B≤1000000000) (hn:qs.length<1000) (hl:∀ q∈qs,q.2.aj.length≤1000) (id:Int) :
  Calls Tryz.prog oJ #[.pointer (some ⟨cb,0,none⟩),.int .i64 id] w (bc fun v w'=>Ch (dt R) w w'∧((ff (qs.map (·.2)) id<0→v = .bool false∧cn W w' cb pb xb k B ps es o c qs R) ∧
   ∀ i (hi:i<qs.length),ff (qs.map (·.2)) id=i→v = .bool true∧cn W w' cb pb xb k B (fk ps qs[i].2.aj) es o c (qs.eraseIdx i) R)):=by
 refine qK.calls _ _ ?_
 refine ab (uM h hn id) ?_
 rintro v w1 ⟨rfl,a0⟩
 refine ⟨_,rfl,fun a1=>?_,fun a2=>?_⟩
 ·have a1:=dQt a1
  exact ⟨a0.any,fun _=>⟨rfl,h.aa a0⟩,fun i hi he=>by omega⟩
 ·have a2:=dQf a2
  have h1:=h.aa a0
  refine ab (uM h1 hn id) ?_
  rintro v w2 ⟨rfl,a3⟩
  obtain ⟨i,hi,he⟩:∃ i,i<qs.length∧ff (qs.map (·.2)) id=(i:Int):=by
   unfold ff at a2 ⊢
   split
   ·rename_i hx;exact ⟨_,by simpa using hx,rfl⟩
   ·rename_i hx;rw [if_neg hx] at a2;omega
  rw [he]
  refine ⟨_,rfl,ab (wI (h1.aa a3) hk hB (by omega) hi (hl _ (List.getElem_mem hi))) ?_⟩
  rintro v w3 ⟨rfl,a4,_,a5⟩
  refine ⟨_,rfl,(a0.ag a3).any.trans a5 (fun i _ hi=>Hr i hi),fun a1=>absurd a1 (by omega),fun j hj a6=>?_⟩
  obtain rfl:i=j:=by omega
  exact ⟨rfl,a4⟩
theorem Ib (h:cn W w cb pb xb k B ps es o c qs R) (hk:k≤1000) (hB:0≤B∧B≤1000000000) (hn:es.length<1000) (v:Int) :
  Calls Tryz.prog nQ #[.pointer (some ⟨cb,0,none⟩),.int .i64 v] w (bc fun x w'=>x = .int .i64 ((es.length:Int)-(es.filter (js v)).length)∧cn W w' cb pb xb k B (uL v ps es) (es.filter (js v)) o c qs R∧Ch (dt R) w w'):=by
 refine pH.calls _ _ ?_
 refine ⟨_,h.blk.cell 1 rfl,ab (dh.Kb h.px hB hk hn v) ?_⟩
 rintro x w1 ⟨rfl,a1,a2⟩
 obtain ⟨a0,_,hc⟩:=h.sa a1 (fun _ hi => .inl hi) (fun _ hi => .inl hi) a2
 rw [AM] at a0
 exact ⟨_,rfl,rfl,a0,hc⟩
theorem MX {xs:List Int} (hr:Rd w o (xs.map (.int .i64)) G) (hl:xs.length≤1000000) (c:Nat) (x:Int):Calls Tryz.prog 99 #[.slice o xs.length c,.int .i64 x] w (bc fun v w'=>∃ i:Int,v = .int .i64 i∧decide (i≥0)=decide (x∈xs)∧w'=w):=by
 refine HU.calls _ _ _ _ ?_
 unfold Vm.A2 Vm.B Vm.Br Vm.G Vm.V Vm.X;dsimp only
 refine ⟨fun i k w'=>∃ j:Nat,i=j∧j≤xs.length∧k=xs.length-j∧w'=w∧¬ x∈xs.take j,⟨_,0,rfl,Nat.zero_le _,rfl,rfl,by simp⟩,?_⟩
 rintro jk i k w1 ⟨j,rfl,hj,rfl,rfl,a1⟩
 refine ⟨fun a0=>?_,fun a2=>?_⟩
 ·have a0:j<xs.length:=by have:=dQt a0;omega
  have a3:(j:Int).toNat*1=j:=by omega
  rw [a3]
  refine ⟨⟨by omega,by omega⟩,hr.PH a0 fun p hp=>⟨_,hp,fun h=>⟨_,rfl,?_,rfl⟩,fun h=>⟨xs.length-(j+1),by omega,j+1,by rw [ae (by omega) (by omega)];rfl,a0,rfl,rfl,?_⟩⟩⟩
  ·have h:=eq_of_beq h
   subst h
   rw [decide_eq_true (by omega),decide_eq_true (List.getElem_mem a0)]
  ·rw [Step.au xs j a0,List.mem_append]
   rintro (h1|h1)
   ·exact a1 h1
   ·rw [List.mem_singleton] at h1
    subst h1
    simp at h
 ·have a4:j=xs.length:=by have:=dQf a2;omega
  subst a4
  rw [List.take_length] at a1
  exact ⟨_,rfl,by rw [decide_eq_false a1];rfl,rfl⟩
theorem HX {xs:List Int} (hr:Rd w o (xs.map (.int .i64)) G) (hl:xs.length≤1000000) (c:Nat) (x:Int):Calls Tryz.prog 65 #[.slice o xs.length c,.int .i64 x] w (bc fun v w'=>v = .bool (decide (x∈xs))∧w'=w):=by
 refine CX.calls _ _ _ _ ?_
 refine ab (MX hr hl c x) ?_
 rintro v w1 ⟨i,rfl,hi,rfl⟩
 exact ⟨_,rfl,by rw [hi],rfl⟩
def qJ (vs:List Int) (rs:List bo):List Int:=(rs.filter fun r=>decide (r.ask.ver∈vs)).map (·.ask.id)
theorem Cc (vs:List Int) (rs:List bo) (r:bo):qJ vs (rs++[r])=qJ vs rs++(if decide (r.ask.ver∈vs)=true then [r.ask.id] else []):=by
 unfold qJ
 rw [List.filter_append,List.map_append,List.filter_cons]
 split <;> simp
theorem OZ (vs:List Int) (rs:List bo):(qJ vs rs).length≤rs.length:=by unfold qJ;rw [List.length_map];exact List.length_filter_le _ _
theorem PK {vs:List Int} {vo:OA} (h:cn W w cb pb xb k B ps es o c qs R) (hn:qs.length<1000) (hr:Rd w vo (vs.map (.int .i64)) G) (hl:vs.length≤1000000) (vc:Nat) :
  Calls Tryz.prog rG #[.pointer (some ⟨cb,0,none⟩),.slice vo vs.length vc] w (bc fun v w'=>IV w' v (qJ vs (qs.map (·.2))) (db w w')∧Ch ah w w'):=by
 refine uN.calls _ _ _ _ ?_
 refine ⟨_,_,_,h.blk.cell 2 rfl,fun oA oN oC i k w'=>∃ j:Nat,i=j∧j≤qs.length∧k=qs.length-j∧oN=(qJ vs ((qs.map (·.2)).take j)).length∧Gr ah w w' bd 1 oA oN oC ((qJ vs ((qs.map (·.2)).take j)).map (.int .i64)),⟨_,0,rfl,Nat.zero_le _,rfl,rfl,Gr.nil (Ch.refl _ _)⟩,?_⟩
 rintro jk oA oN oC i kk w1 ⟨j,rfl,hj,rfl,a2,hg⟩
 have a3:=hg.2
 refine ⟨fun a0=>?_,fun a6=>?_⟩
 ·have a0:j<qs.length:=by have:=dQt a0;omega
  have h1:=h.aa a3
  obtain ⟨p,rfl,hp⟩:=h1.at a0
  have a5:=h1.rn _ (List.getElem_mem a0)
  have a4:j<(qs.map (·.2)).length:=by simpa using a0
  have a1:=Cc vs ((qs.map (·.2)).take j) (qs.map (·.2))[j]
  rw [← Step.au _ _ a4,List.getElem_map] at a1
  have a7:=OZ vs ((qs.map (·.2)).take j)
  rw [List.length_take,List.length_map] at a7
  refine ⟨⟨by omega,by omega⟩,some ⟨qs[j].1.rb,0,none⟩,by rw [Int.toNat_natCast,Nat.mul_one];exact hp,_,by rw [eh,Nat.zero_add];exact a5.blk.cell 2 rfl,ab (HX (hr.aa a3) hl vc _) ?_⟩
  rintro v w2 ⟨rfl,rfl⟩
  refine ⟨_,rfl,fun hy=>?_,fun a8=>?_⟩
  ·rw [hy,if_pos rfl] at a1
   refine ⟨_,by rw [eh,Nat.zero_add];exact a5.blk.cell 1 rfl,fun w3 e3=>?_⟩
   obtain ⟨o',c',w4,a9,b2,_⟩:=Gr.push bi hg ay e3 rfl rfl (by omega) (by omega)
   refine ⟨o',_,c',w4,a9,qs.length-(j+1),by omega,j+1,by rw [ae (by omega) (by omega)];rfl,a0,rfl,by rw [a1,a2];simp,?_⟩
   rw [a1,List.map_append]
   exact b2
  ·rw [a8,if_neg (by simp),List.append_nil] at a1
   exact ⟨qs.length-(j+1),by omega,j+1,by rw [ae (by omega) (by omega)];rfl,a0,rfl,by rw [a1];exact a2,by rw [a1];exact hg⟩
 ·have:j=qs.length:=by have:=dQf a6;omega
  subst this
  rw [List.take_of_length_le (by simp)] at hg a2
  subst a2
  exact ⟨⟨oA,oC,rfl,by simpa using hg.1.2.1,hg.1.2.2.1,hg.rd⟩,a3⟩
theorem NE (h:cn W w cb pb xb k B ps es o c qs R) (hn:qs.length<1000) (hl:∀ q∈qs,q.2.said.length≤1000) (id:Int) :
  Calls Tryz.prog pJ #[.pointer (some ⟨cb,0,none⟩),.int .i64 id] w (bc fun v w'=>Ch ah w w'∧(ff (qs.map (·.2)) id<0→v = .slice none 0 0)∧∀ i (hi:i<qs.length),ff (qs.map (·.2)) id=i→IV w' v qs[i].2.said (db w w')):=by
 refine rE.calls _ _ ?_
 refine ab (uM h hn id) ?_
 rintro v w1 ⟨rfl,a1⟩
 refine ⟨_,rfl,fun a3=>?_,fun a2=>?_⟩
 ·have a3:=dQt a3
  exact ⟨a1,fun _=>rfl,fun i hi he=>by omega⟩
 ·have a2:=dQf a2
  obtain ⟨i,hi,he⟩:∃ i,i<qs.length∧ff (qs.map (·.2)) id=(i:Int):=by
   unfold ff at a2 ⊢
   split
   ·rename_i hx;exact ⟨_,by simpa using hx,rfl⟩
   ·rename_i hx;rw [if_neg hx] at a2;omega
  have h1:=h.aa a1
  refine ⟨fun w'=>Ch ah w1 w',fun w2 e2=>⟨Ch.drew e2,_,_,_,fun w' k=>(h1.blk.aa k).cell 2 rfl,?_⟩⟩
  have a4:Ch ah w1 w2:=Ch.drew e2
  refine ab (uM (h1.aa a4) hn id) ?_
  rintro v w4 ⟨rfl,a7⟩
  rw [he]
  have a0:=a4.ag a7
  have h4:=h1.aa a0
  obtain ⟨p,rfl,hp⟩:=h4.at hi
  have a5:=h4.rn _ (List.getElem_mem hi)
  refine ⟨_,rfl,a0,⟨by omega,by omega⟩,some ⟨qs[i].1.rb,0,none⟩,by rw [Int.toNat_natCast,Nat.mul_one];exact hp,a0,_,_,_,by rw [eh,Nat.zero_add];exact a5.blk.cell 8 rfl,a0,ab (pM a5.sd.rd (by have:=hl _ (List.getElem_mem hi);omega) _) ?_⟩
  rintro v w5 ⟨hv,a6⟩
  have a8:=hv
  obtain ⟨o5,c5,rfl,_⟩:=hv
  have hs:=(a1.ag a0).size
  refine ⟨_,_,_,rfl,a0.ag a6,(a1.ag a0).ag a6,fun a3=>by omega,fun j hj a9=>?_⟩
  obtain rfl:i=j:=by omega
  exact a8.mono (fun i _ hi=>⟨by have:=hi.1;omega,hi.2⟩)
end
end Go.Proofs.YtkbikekbaboclaaGreat.fo
set_option linter.unusedVariables false
set_option linter.unusedSimpArgs false
namespace Go.Proofs.YtkbikekbaboclaaGreat.fo
open Go Go.Proofs V Vc Step bh dh ee fv Go.RowKit
open gm (da di dl ik qG ny tl)
section
variable {w w':World} {q:da × di} {D:Nat→Prop}
def Te (w:World) (q:da × di) (D:Nat→Prop):Prop:=Rd w q.2.po (q.1.ai.map (.int .i64)) D∧Rd w q.2.qo (q.1.draws.map (.int .i64)) D∧q.1.ai.length≤q.2.pc∧q.2.pc≤maxLen∧q.1.draws.length≤q.2.qc∧q.2.qc≤maxLen
theorem Pm (h1:Rd w q.2.po (q.1.ai.map (.int .i64)) D) (h2:Rd w q.2.qo (q.1.draws.map (.int .i64)) D) (h3:q.1.ai.length≤17592186043904) (h4:q.1.draws.length≤17592186043904):Calls Tryz.prog wm #[.agg (dl q).toArray] w (bc fun v w'=>∃ p:di,v = .agg (dl (q.1,p)).toArray∧Te w' (q.1,p) (db w w')∧Ch ah w w'):=by
 refine Hm.calls _ _ _ _ _ _ _ _ _ ?_
 intro w1 e1 w2 e2
 have hA:=(ba.new e1).alloc e2
 have hB:=ba.new e2
 have b7:Ch ah w w2:=(Ch.alloc e1).ag (Ch.alloc e2)
 have s1:w.heap.size<w1.heap.size:=(ba.new e1).lt
 have s2:w1.heap.size<w2.heap.size:=hB.lt
 clear e1 e2
 refine ⟨fun w'=>∃ (o4:OA) (c4:Nat) (o5:OA) (c5:Nat),ba w' w.heap.size [.int .i64 q.1.id,.int .i64 q.1.ver,.slice o4 q.1.ai.length c4,.int .i64 q.1.most,.slice o5 q.1.draws.length c5] dx∧ba w' w1.heap.size [.int .i64 0,.int .i64 0,.slice none 0 0,.int .i64 0,.slice none 0 0] dx ∧
  Rd w' o4 (q.1.ai.map (.int .i64)) (db w2 w')∧Rd w' o5 (q.1.draws.map (.int .i64)) (db w2 w')∧(q.1.ai.length≤c4∧c4≤maxLen∧q.1.draws.length≤c5∧c5≤maxLen)∧Ch ah w w',⟨fun _=>True,fun w3 e3=>⟨trivial,⟨_,_,_,(hA.drew e3).cell 2 rfl,trivial,?_,⟨_,_,_,(hA.drew e3).cell 4 rfl,trivial,?_⟩,trivial⟩,⟨_,_,_,(hA.drew e3).cell 4 rfl,trivial,_,_,_,(hA.drew e3).cell 2 rfl,trivial,?_⟩,trivial⟩⟩,?_⟩
 ·have a5:Ch ah w w3:=b7.ag (Ch.drew e3)
  refine ab (pM (h1.aa a5) (by omega) _) ?_
  rintro v w4 ⟨⟨o4,c4,rfl,n4,m4,a3⟩,a1⟩
  refine ⟨_,_,_,rfl,trivial,_,_,_,((hA.drew e3).aa a1).cell 4 rfl,trivial,?_⟩
  refine ab (pM ((h2.aa a5).aa a1) (by omega) _) ?_
  rintro v w9 ⟨⟨o5,c5,rfl,n5,m5,b2⟩,a2⟩
  have a3:=a3.aa a2
  have a8:=((hA.drew e3).aa a1).aa a2
  have b3:=((hB.drew e3).aa a1).aa a2
  have b4:=(a5.ag a1).ag a2
  have c0:w2.heap.size=w3.heap.size:=by subst e3;rfl
  have c6:=a1.size
  have c7:=a2.size
  refine ⟨_,_,_,rfl,trivial,a8.ok 2 rfl,fun w6 e6=>⟨trivial,?_⟩⟩
  have a9:=a8.set e6
  refine ⟨a9.ok 4 rfl,fun w7 e7=>⟨trivial,?_⟩⟩
  have b5:=a9.set e7
  have a0:Ch (·=w.heap.size) w9 w7:=(Ch.set (F:=(·=w.heap.size)) (p:=⟨w.heap.size,2,none⟩) e6 rfl).same (Ch.set (F:=(·=w.heap.size)) (p:=⟨w.heap.size,4,none⟩) e7 rfl)
  have b6:=a0.size
  exact ⟨_,_,_,_,b5,(b3.af a0 (by omega)),(a3.af a0 (fun i _ hi he=>by have:=hi.1;omega)).mono (fun i hi hN=>⟨by have:=hN.1;omega,hi⟩),(b2.af a0 (fun i _ hi he=>by have:=hi.1;omega)).mono (fun i hi hN=>⟨by have:=hN.1;omega,hi⟩),⟨n4,m4,n5,m5⟩,b4.trans a0 (fun i hi he=>by omega)⟩
 ·have a5:Ch ah w w3:=b7.ag (Ch.drew e3)
  refine ab (pM (h1.aa a5) (by omega) _) ?_
  rintro v w4 ⟨⟨o4,c4,rfl,n4,m4,a3⟩,a1⟩
  refine ⟨_,_,_,rfl,trivial,?_⟩
  refine ab (pM ((h2.aa a5).aa a1) (by omega) _) ?_
  rintro v w9 ⟨⟨o5,c5,rfl,n5,m5,b2⟩,a2⟩
  have a3:=a3.aa a2
  have a8:=((hA.drew e3).aa a1).aa a2
  have b3:=((hB.drew e3).aa a1).aa a2
  have b4:=(a5.ag a1).ag a2
  have c0:w2.heap.size=w3.heap.size:=by subst e3;rfl
  have c6:=a1.size
  have c7:=a2.size
  refine ⟨_,_,_,rfl,trivial,a8.ok 2 rfl,fun w6 e6=>⟨trivial,?_⟩⟩
  have a9:=a8.set e6
  refine ⟨a9.ok 4 rfl,fun w7 e7=>⟨trivial,?_⟩⟩
  have b5:=a9.set e7
  have a0:Ch (·=w.heap.size) w9 w7:=(Ch.set (F:=(·=w.heap.size)) (p:=⟨w.heap.size,2,none⟩) e6 rfl).same (Ch.set (F:=(·=w.heap.size)) (p:=⟨w.heap.size,4,none⟩) e7 rfl)
  have b6:=a0.size
  exact ⟨_,_,_,_,b5,(b3.af a0 (by omega)),(a3.af a0 (fun i _ hi he=>by have:=hi.1;omega)).mono (fun i hi hN=>⟨by have:=hN.1;omega,hi⟩),(b2.af a0 (fun i _ hi he=>by have:=hi.1;omega)).mono (fun i hi hN=>⟨by have:=hN.1;omega,hi⟩),⟨n4,m4,n5,m5⟩,b4.trans a0 (fun i hi he=>by omega)⟩
 ·have a5:Ch ah w w3:=b7.ag (Ch.drew e3)
  refine ab (pM (h1.aa a5) (by omega) _) ?_
  rintro v w4 ⟨⟨o4,c4,rfl,n4,m4,a3⟩,a1⟩
  refine ⟨_,_,_,rfl,trivial,?_⟩
  refine ab (pM ((h2.aa a5).aa a1) (by omega) _) ?_
  rintro v w9 ⟨⟨o5,c5,rfl,n5,m5,b2⟩,a2⟩
  have a3:=a3.aa a2
  have a8:=((hA.drew e3).aa a1).aa a2
  have b3:=((hB.drew e3).aa a1).aa a2
  have b4:=(a5.ag a1).ag a2
  have c0:w2.heap.size=w3.heap.size:=by subst e3;rfl
  have c6:=a1.size
  have c7:=a2.size
  refine ⟨_,_,_,rfl,trivial,a8.ok 2 rfl,fun w6 e6=>⟨trivial,?_⟩⟩
  have a9:=a8.set e6
  refine ⟨a9.ok 4 rfl,fun w7 e7=>⟨trivial,?_⟩⟩
  have b5:=a9.set e7
  have a0:Ch (·=w.heap.size) w9 w7:=(Ch.set (F:=(·=w.heap.size)) (p:=⟨w.heap.size,2,none⟩) e6 rfl).same (Ch.set (F:=(·=w.heap.size)) (p:=⟨w.heap.size,4,none⟩) e7 rfl)
  have b6:=a0.size
  exact ⟨_,_,_,_,b5,(b3.af a0 (by omega)),(a3.af a0 (fun i _ hi he=>by have:=hi.1;omega)).mono (fun i hi hN=>⟨by have:=hN.1;omega,hi⟩),(b2.af a0 (fun i _ hi he=>by have:=hi.1;omega)).mono (fun i hi hN=>⟨by have:=hN.1;omega,hi⟩),⟨n4,m4,n5,m5⟩,b4.trans a0 (fun i hi he=>by omega)⟩
 ·rintro jk c8 ⟨o4,c4,o5,c5,a6,a4,a3,b2,b8,b9⟩
  refine ⟨_,_,_,_,_,_,_,_,_,⟨a6.cell 0 rfl,a6.cell 1 rfl,a6.cell 2 rfl,a6.cell 3 rfl,a6.cell 4 rfl⟩,⟨a4.ok 0 rfl,a4.ok 1 rfl,a4.ok 2 rfl,a4.ok 3 rfl,a4.ok 4 rfl⟩,fun c9 d1=>?_⟩
  have d0:c9=c8.setCells w1.heap.size 0 (dl (q.1,⟨o4,c4,o5,c5⟩)):=d1
  have a7:=a4.all (dl (q.1,⟨o4,c4,o5,c5⟩)) rfl d0
  have a0:Ch (·=w1.heap.size) c8 c9:=Ch.fr d0 rfl
  have hs:=a0.size
  refine ⟨_,_,_,_,_,_,_,_,_,⟨a7.cell 0 rfl,a7.cell 1 rfl,a7.cell 2 rfl,a7.cell 3 rfl,a7.cell 4 rfl⟩,⟨o4,c4,o5,c5⟩,rfl,⟨?_,?_,b8⟩,b9.trans a0 (fun i hi he=>by omega)⟩
  ·exact (a3.af a0 (fun i _ hi he=>by have:=hi.1;omega)).mono (fun i hi hN=>⟨by have:=hN.1;omega,hi⟩)
  ·exact (b2.af a0 (fun i _ hi he=>by have:=hi.1;omega)).mono (fun i hi hN=>⟨by have:=hN.1;omega,hi⟩)
theorem QQ (h:ik w q D):Calls Tryz.prog wm #[.agg (dl q).toArray] w (bc fun v w'=>∃ p:di,v = .agg (dl (q.1,p)).toArray∧lk w' (q.1,p) (db w w')∧Ch ah w w'):=by
 obtain ⟨h1,h2,h3,h4⟩:=h
 refine ab (Pm h1 h2 (by omega) (by omega)) ?_
 rintro v w1 ⟨p,rfl,⟨a,b,c⟩,hc⟩
 exact ⟨p,rfl,⟨⟨a,b,h3,h4⟩,c⟩,hc⟩
end
section
variable {w w':World} {o:OA} {v:Value} {xs:List Int} {xss:List (List Int)} {F G:Nat→Prop}
theorem Rm {o:OA} {n cp:Nat} (h:RV w (.slice o n cp) xss F) {j:Nat} (hj:j<xss.length):∃ (a:Addr) (o':OA) (c':Nat),o=some a∧n=xss.length∧IV w (.slice o' xss[j].length c') xss[j] F∧∀ (G:Nat→Prop) (w':World),Ch G w w'→(∀ i,i<w.heap.size→F i→¬ G i)→w'.cell? (a.add (j*1))=some (.slice o' xss[j].length c'):=by
 obtain ⟨o2,c2,us,he,h1,h2,hr,ha⟩:=h
 injection he with e1 e2 e3
 subst e1;subst e3
 have a1:j<us.length:=by rw [ha.length];exact hj
 obtain ⟨ad,a3,_,_,_⟩:=hr j us[j] (List.getElem?_eq_getElem a1)
 have a4:=ha.get j a1 hj
 have a2:=a4
 obtain ⟨o',c',hu,_⟩:=a4
 refine ⟨ad,o',c',a3,e2,hu▸a2,fun G w' hc hd=>?_⟩
 obtain ⟨a6,a0,_,_,a5⟩:=(hr.af hc hd) j us[j] (List.getElem?_eq_getElem a1)
 rw [a3] at a0;injection a0 with a0;subst a0
 rw [Nat.mul_one,← hu];exact a5
theorem OO (w:World) (n:Nat) (hn:n≤1000000):Calls Tryz.prog 147 #[.slice none 0 0,.int .i64 n] w (bc fun v w'=>∃ (o:OA) (c:Nat),v = .slice o 0 c∧Gr ah w w' bd 1 o 0 c []):=by
 refine Kd.calls _ _ _ _ ?_
 have a9:IntKind.i64.wrap ((0:Nat)-(0:Nat):Int)=0:=by rw [ae (by omega) (by omega)];rfl
 have b2:IntKind.i64.wrap ((n:Int)-0)=n:=by rw [ae (by omega) (by omega)];omega
 rw [a9,b2]
 refine eg (decide_eq_false (by omega)) ⟨fun hg=>?_,fun hg=>⟨_,_,rfl,Gr.nil (Ch.refl _ _)⟩⟩
 have hg:0<n:=by have:=dQt hg;omega
 obtain ⟨inf,z,a4,hz,hs,a7,b3⟩:=bi.inf
 have hr:=Lib.run_append_grow_zeros w ay bd ay bd inf z .i64 .i64 bi.und (by kernel_rfl) a4 hz none 0 0 [] (by rfl) n hg (by omega) (by omega) (by omega) (by rw [a7];omega) (growslice_fits (by omega) (by rw [a7];omega))
 simp only [Nat.zero_add] at hr
 have b4:=grownCap_ge w n 0 bd
 have b5:=grownCap_le_maxLen w n 0 bd (by unfold maxLen;omega)
 generalize grownCap w n 0 bd=G at hr b4 b5
 obtain ⟨row,a3⟩:∃ row:Array Value,row=([]:List Value).toArray++Builtin.zeroCells z.cells n++Builtin.zeroCells z.cells (G-n):=⟨_,rfl⟩
 rw [← a3] at hr
 have b6:row.toList.length=G*1:=by
  have a1:=sJ z.cells n
  have a2:=sJ z.cells (G-n)
  rw [b3] at a1 a2
  rw [a3,Array.toList_append,Array.toList_append,List.length_append,List.length_append,a1,a2]
  simp only [List.length_nil]
  omega
 obtain ⟨w2,a0⟩:∃ w2,w2=w.drew.alloc (.cells row bd):=⟨_,rfl⟩
 rw [← a0] at hr
 have a5:=ba.new a0
 have a8:ba w2 w.heap.size row.toList bd:=a5
 have a6:Ch ah w w2:=(Ch.drew rfl).ag (Ch.alloc a0)
 refine ⟨⟨by omega,by omega⟩,some ⟨w.heap.size,0,none⟩,n,G,w2,hr,⟨by omega,by omega⟩,_,_,rfl,⟨by simp,Nat.zero_le _,by omega,.inr ⟨w.heap.size,0,row.toList,?_,⟨Nat.le_refl _,a8.lt⟩,a8,by omega,by simp⟩⟩,a6⟩
 rw [if_neg (by omega)];simp [eh]
theorem Jr (h:RV w v xss F) (hl:xss.flatten.length≤1000000) (hn:xss.length≤1000000):Calls Tryz.prog 111 #[v] w (bc fun u w'=>IV w' u xss.flatten (db w w')∧Ch ah w w'):=by
 have h':=h
 obtain ⟨po,pc,us,rfl,_⟩:=h
 refine FW.calls _ _ _ ?_
 unfold Vm.A0 Vm.A7 Vm.Br Vm.C0 Vm.C5 Vm.E5 Vm.F3 Vm.G Vm.H Vm.H0 Vm.N8 Vm.Z;dsimp only
 have a2:∀ j,j≤xss.length→(xss.take j).flatten.length≤1000000:=fun j hj=>by
  have e:xss.flatten=(xss.take j).flatten++(xss.drop j).flatten:=by rw [← List.flatten_append,List.take_append_drop]
  rw [e,List.length_append] at hl;omega
 have a3:∀ j (hj:j<xss.length),(xss.take (j+1)).flatten=(xss.take j).flatten++xss[j]:=fun j hj=>by
  rw [Step.au _ _ hj,List.flatten_append];simp
 refine ⟨fun s i k w'=>w'=w∧∃ j:Nat,i=j∧j≤xss.length∧k=xss.length-j∧s=((xss.take j).flatten.length:Int),⟨_,rfl,0,rfl,Nat.zero_le _,rfl,rfl⟩,?_⟩
 rintro jk s i k w1 ⟨rfl,j,rfl,hj,rfl,rfl⟩
 refine ⟨fun a0=>?_,fun a4=>?_⟩
 ·have a0:j<xss.length:=by have:=dQt a0;omega
  obtain ⟨a,o',c',rfl,_,_,a1⟩:=Rm h' a0
  have h1:=a2 (j+1) a0
  rw [a3 j a0,List.length_append] at h1
  have hw:IntKind.i64.wrap (((xss.take j).flatten.length:Int)+(xss[j].length:Int))=((xss.take (j+1)).flatten.length:Int):=by
   rw [a3 j a0,List.length_append,ae (by omega) (by omega)];omega
  refine ⟨⟨by omega,by omega⟩,_,_,_,by rw [Int.toNat_natCast];exact a1 ah w1 (Ch.refl _ _) (fun _ _ _=>id),?_⟩
  rw [hw]
  exact eg (decide_eq_false (by omega)) ⟨xss.length-(j+1),by omega,rfl,j+1,by rw [ae (by omega) (by omega)];rfl,a0,rfl,rfl⟩
 ·have a5:j=xss.length:=by have:=dQf a4;omega
  subst a5
  rw [List.take_length]
  refine ab (OO w1 _ hl) ?_
  rintro v w2 ⟨o2,c2,rfl,a7⟩
  refine ⟨_,_,_,rfl,fun oA oN oC i k w'=>∃ j:Nat,i=j∧j≤xss.length∧k=xss.length-j∧oN=(xss.take j).flatten.length∧Gr ah w1 w' bd 1 oA oN oC ((xss.take j).flatten.map (.int .i64)),⟨_,0,rfl,Nat.zero_le _,rfl,rfl,by simpa using a7⟩,?_⟩
  rintro jk oA oN oC i k w3 ⟨j,rfl,hj,rfl,a6,hg⟩
  refine ⟨fun a0=>?_,fun a4=>?_⟩
  ·have a0:j<xss.length:=by have:=dQt a0;omega
   obtain ⟨a,o',c',rfl,_,a8,a1⟩:=Rm h' a0
   have h1:=a2 (j+1) a0
   rw [a3 j a0,List.length_append] at h1
   obtain ⟨o3,c3,e3,_,_,a9⟩:=a8.aa hg.2
   injection e3 with b2 b5 b6
   subst b2
   obtain ⟨o4,c4,w4,b3,b4,_⟩:=Gr.HL (c2:=c') (m:=xss[j].length) bi hg ay a9 (by simp) (fun u hu=>by
    obtain ⟨x,_,rfl⟩:=List.mem_map.1 hu
    rfl) (by omega) (by omega)
   refine ⟨⟨by omega,by omega⟩,_,_,_,by rw [Int.toNat_natCast];exact a1 ah w3 hg.2 (fun _ _ _=>id),o4,_,c4,w4,b3,xss.length-(j+1),by omega,j+1,by rw [ae (by omega) (by omega)];rfl,a0,rfl,by rw [a3 j a0,List.length_append,a6],?_⟩
   rw [a3 j a0,List.map_append]
   exact b4
  ·have a5:j=xss.length:=by have:=dQf a4;omega
   subst a5
   rw [List.take_length] at hg a6
   subst a6
   exact ⟨⟨oA,oC,rfl,by simpa using hg.1.2.1,hg.1.2.2.1,hg.rd⟩,hg.2⟩
end
section
variable {W w w':World} {cb pb xb k:Nat} {B B':Int} {ps ps':List ak} {es es':List bw} {o:OA} {c n:Nat} {qs:List (nq × bo)} {q:nq × bo} {R R':Nat→Nat→Prop} {F G FP FI Fa:Nat→Prop} {xs ys:List Int}
def bo.dg (r:bo):List Int:=r.ask.ai++r.said
theorem Cs (h:uw W w R q) (hl:q.2.said.length≤1000):Calls Tryz.prog Bg #[.pointer (some ⟨q.1.rb,0,none⟩)] w (bc fun v w'=>IV w' v q.2.dg (db w w')∧Ch ah w w'):=by
 refine CZ.calls _ ?_
 refine ⟨fun w'=>Ch ah w w',fun w1 e1=>⟨Ch.drew e1,_,_,_,fun w' k=>(h.blk.aa k).cell 3 rfl,_,_,_,fun w' k=>(h.blk.aa k).cell 8 rfl,fun w4 e4=>?_⟩⟩
 have a8:Ch ah w w1:=Ch.drew e1
 have a0:Ch ah w w4:=a8.ag (Ch.alloc e4)
 have hB:=ba.new e4
 have hs:w.heap.size=w1.heap.size:=by subst e1;rfl
 obtain ⟨⟨a1,a2,a3,a4⟩,a5,a6,_⟩:=h.ask
 have a9:RV w4 (.slice (some ⟨w1.heap.size,0,none⟩) 2 2) [q.2.ask.ai,q.2.said] (fun _=>True):=⟨_,_,[.slice q.1.ap.po q.2.ask.ai.length q.1.ap.pc,.slice q.1.so q.2.said.length q.1.sc],rfl,Nat.le_refl _,by decide,hB.rd.mono (fun _ _ _=>trivial),
  .cons ⟨_,_,rfl,a5,a6,(a1.aa a0).mono (fun _ _ _=>trivial)⟩ (.cons ⟨_,_,rfl,h.sd.2.1,h.sd.2.2.1,(h.sd.rd.aa a0).mono (fun _ _ _=>trivial)⟩ .nil)⟩
 have ht:[q.2.ask.ai,q.2.said].flatten=q.2.dg:=by simp [bo.dg]
 refine ⟨a0,ab (Jr a9 (by rw [ht];unfold bo.dg;rw [List.length_append];dsimp only at a3;omega) (by simp)) ?_⟩
 rintro v w5 ⟨hv,a7⟩
 rw [ht] at hv
 have b2:=hv
 obtain ⟨o5,c5,rfl,_⟩:=hv
 have b3:=a0.size
 exact ⟨_,_,_,rfl,a0.ag a7,b2.mono (fun i _ hi=>⟨by have:=hi.1;omega,hi.2⟩),a0.ag a7⟩
def rJ (cf:ep) (k:Nat) (a:da):Bool:=decide (1≤a.ver∧a.ver≤2147483647)&&(tl cf k [] a==0)
theorem Lb {bb:Nat} {cf:ep} {wt:ByteArray} {a:da × di} {D:Nat→Prop} (h:cn W w cb pb xb k B ps es o c qs R) (hk:1≤k∧k≤64) (hb:yn w bb cf wt) (ha:ik w a D) :
  Calls Tryz.prog Bb #[.pointer (some ⟨cb,0,none⟩),.pointer (some ⟨bb,0,none⟩),.agg (dl a).toArray] w (bc fun v w'=>v = .bool (rJ cf k a.1)∧Ch ah w w'):=by
 refine Df.calls _ _ _ _ _ _ _ _ _ _ _ ?_
 intro w1 e1
 have hA:ba w1 w.heap.size (dl a) dx:=ba.new e1
 have a1:Ch ah w w1:=Ch.alloc e1
 have no:¬ (1≤a.1.ver∧a.1.ver≤2147483647)→Value.bool false = .bool (rJ cf k a.1)∧Ch ah w w1:=fun hn=>⟨by unfold rJ;rw [decide_eq_false hn];rfl,a1⟩
 refine ⟨_,hA.cell 1 rfl,fun h1=>no (by have:=dQt h1;omega),fun h1=>⟨_,hA.cell 1 rfl,fun h2=>no (by have:=dQt h2;omega),fun h2=>?_⟩⟩
 have h1:=dQf h1
 have h2:=dQf h2
 have a5:=h.aa a1
 refine ⟨fun w'=>Ch ah w1 w',fun w2 e2=>⟨Ch.drew e2,_,fun w' k=>(a5.blk.aa k).cell 0 rfl,_,_,_,_,_,_,_,_,_,⟨fun w' k=>(hA.aa k).cell 0 rfl,fun w' k=>(hA.aa k).cell 1 rfl,fun w' k=>(hA.aa k).cell 2 rfl,fun w' k=>(hA.aa k).cell 3 rfl,fun w' k=>(hA.aa k).cell 4 rfl⟩,?_⟩⟩
 have a3:Ch ah w1 w2:=Ch.drew e2
 have a7:=a5.aa a3
 refine ab (bh.tD a7.px.p.r) ?_
 rintro v w5 ⟨rfl,rfl⟩
 have a4:ps.length=k:=h.px.g.len
 rw [a4]
 refine ⟨_,rfl,a3,ab (gm.Eu w5 (k:Int)) ?_⟩
 rintro v w6 ⟨hy,_,a6⟩
 obtain ⟨rfl,hW⟩:=hy ⟨by omega,by omega⟩
 have a8:w5.heap.size<w6.heap.size:=by obtain ⟨_,_,_,hC⟩:=hW;exact hC.blk.lt
 have a0:=a3.ag a6
 have hX:gm.WX w5 w6 w5.heap.size (k:Int) [] (·=w5.heap.size) ah:=⟨hW,fun i hi=>by subst hi;exact ⟨Nat.le_refl _,a8⟩,a6⟩
 refine ⟨_,rfl,a0,ab (gm.Jv hX ((hb.aa a1).aa a0).r ((ha.aa a1).aa a0) (by simp)) ?_⟩
 rintro v w7 ⟨rfl,qs',F',D',_,_,_,a9⟩
 have hs:=a0.size
 have b3:=a1.size
 have b2:w5.heap.size=w1.heap.size:=by subst e2;rfl
 have a2:Ch ah w1 w7:=a0.trans a9 (fun i hi he=>by omega)
 refine ⟨_,rfl,a2,?_,a1.ag a2⟩
 unfold rJ
 rw [decide_eq_true (by omega)];rfl
theorem GZ (cf:ep) (most:Int) (xs:List Int):qG cf most xs=rI.mh cf most xs:=by
 unfold qG rI.mh
 have e1:(xs.length=0∨most<1∨most>32)↔(xs=[]∨most<1∨most>32):=by rw [List.length_eq_zero_iff]
 have e2:xs.any (gm.Em cf.vocab)=true↔¬ ∀ t∈xs,0≤t∧t<cf.vocab:=by
  rw [List.any_eq_true]
  constructor
  ·rintro ⟨x,hx,hb⟩ h
   have:=h x hx
   unfold gm.Em at hb
   simp at hb
   omega
  ·intro h
   apply Classical.byContradiction
   intro hn
   refine h fun t ht=>?_
   apply Classical.byContradiction
   intro h2
   refine hn ⟨t,ht,?_⟩
   unfold gm.Em
   simp
   omega
 by_cases h1:xs=[]∨most<1∨most>32
 ·rw [if_pos h1,if_pos (e1.2 h1)]
 ·rw [if_neg h1,if_neg (fun k=>h1 (e1.1 k))]
  by_cases h2:¬ ∀ t∈xs,0≤t∧t<cf.vocab
  ·rw [if_pos h2,if_pos (e2.2 h2)]
  ·rw [if_neg h2,if_neg (fun k=>h2 (e2.1 k))]
end
end Go.Proofs.YtkbikekbaboclaaGreat.fo
set_option linter.unusedVariables false
set_option linter.unusedSimpArgs false
namespace Go.Proofs.YtkbikekbaboclaaGreat.fo
open Go Go.Proofs V Vc Step bh dh ee fv Go.RowKit
open gm (da di dl ik)
section
variable {W w w':World} {cb pb xb k:Nat} {B B':Int} {ps ps':List ak} {es es':List bw} {o:OA} {c n:Nat} {qs:List (nq × bo)} {q:nq × bo} {R R':Nat→Nat→Prop} {F G FP FI Fa:Nat→Prop} {xs ys:List Int}
theorem Dy.re (h:Dy w R) (hs:w.heap.size≤w'.heap.size) (a0:∀ k i,R' k i→R k i∨db w w' i) (a1:∀ j k,j≠k→∀ i,w.heap.size≤i→R' j i→¬ R' k i):Dy w' R':=by
 refine ⟨fun k i hi=>?_,fun j m a2 i hj hm=>?_⟩
 ·rcases a0 k i hi with h1|h1
  ·exact Nat.lt_of_lt_of_le (h.1 k i h1) hs
  ·exact h1.2
 ·by_cases hi:i<w.heap.size
  ·rcases a0 j i hj with h1|h1
   ·rcases a0 m i hm with h2|h2
    ·exact h.2 j m a2 i h1 h2
    ·have:=h2.1;omega
   ·have:=h1.1;omega
  ·exact a1 j m a2 i (by omega) hj hm
theorem QZ {W w:World} {pb k:Nat} {B:Int} {ps:List ak} {FP:Nat→Prop} (h:Bc W w pb ps FP) (hg:bh.Good k B ps):Calls Tryz.prog HB #[.pointer (some ⟨pb,0,none⟩)] w (bc fun v w'=>∃ xb,v = .pointer (some ⟨xb,0,none⟩)∧PX W w' pb xb k B ps [] FP (db w w')∧Ch ah w w'):=by
 refine Lo.calls _ ?_
 intro w1 a1
 have hc:Ch ah w w1:=Ch.alloc a1
 have hB:=ba.new a1
 refine ⟨_,rfl,⟨h.aa hc,⟨none,0,[],fun k i=>k=0∧i=w.heap.size,⟨⟨fun k i hi=>by have:=hB.lt;omega,fun j k a0 i h1 h2=>by omega⟩,⟨rfl,rfl⟩,hB,Own.nil _ _ _ _,rfl⟩,fun k i hi=>⟨by omega,by have:=hB.lt;omega⟩,.nil⟩,hg,rl.new h.c,fun i hi hf=>by have:=h.lt i hf;have:=hi.1;omega⟩,hc⟩
theorem Hd (hW:Ch ah W w) (n:Int):Calls Tryz.prog Ey #[.int .i64 n] w (bc fun v w'=>Ch ah w w'∧(¬ (1≤n∧n≤64)→v = .pointer none)∧(1≤n∧n≤64→∃ (cb pb xb:Nat) (R:Nat→Nat→Prop),v = .pointer (some ⟨cb,0,none⟩)∧cn W w' cb pb xb n.toNat 0 (List.replicate n.toNat qD) [] none 0 [] R∧∀ i,de R i→db w w' i)):=by
 refine OE.calls _ ?_
 by_cases hn:1≤n∧n≤64
 case neg =>
  refine ab (bh.Nc w n (by omega)) ?_
  rintro v w1 ⟨rfl,rfl⟩
  exact ⟨_,rfl,pj rfl ⟨Ch.refl _ _,fun _=>rfl,fun k=>absurd k hn⟩⟩
 refine ab (bh.Eu w n hn) ?_
 rintro v w1 ⟨pb,rfl,hP,a0⟩
 have a4:Bc W w1 pb (List.replicate n.toNat qD) (db w w1):=⟨hP,rl.new hW,hW.ag a0⟩
 refine ⟨_,rfl,eg rfl (ab (QZ (k:=n.toNat) (B:=0) a4 (bh.Good.new _)) ?_)⟩
 rintro v w2 ⟨xb,rfl,hX,a2⟩
 refine ⟨_,rfl,fun w3 e3=>?_⟩
 have hB:=ba.new e3
 have a3:Ch ah w2 w3:=Ch.alloc e3
 have a1:=(a0.ag a2).ag a3
 have a6:=a0.size
 have a7:=a2.size
 have a8:=hB.lt
 have a9:=hW.size
 have a5:=hX.aa a3
 obtain ⟨R,hR⟩:∃ R:Nat→Nat→Prop,R=fun k=>if k=0 then (·=w2.heap.size) else if k=3 then db w w1 else if k=4 then db w1 w2 else ah:=⟨_,rfl⟩
 have r0:R 0=(·=w2.heap.size):=by rw [hR];rfl
 have r3:R 3=db w w1:=by rw [hR];rfl
 have r4:R 4=db w1 w2:=by rw [hR];rfl
 have what:∀ k i,R k i→(k=0∧i=w2.heap.size)∨(k=3∧w.heap.size≤i∧i<w1.heap.size)∨(k=4∧w1.heap.size≤i∧i<w2.heap.size):=fun k i hi=>by
  by_cases h0:k=0
  ·subst h0;rw [r0] at hi;exact .inl ⟨rfl,hi⟩
  by_cases h3:k=3
  ·subst h3;rw [r3] at hi;exact .inr (.inl ⟨rfl,hi.1,hi.2⟩)
  by_cases h4:k=4
  ·subst h4;rw [r4] at hi;exact .inr (.inr ⟨rfl,hi.1,hi.2⟩)
  rw [hR] at hi
  rw [if_neg h0,if_neg h3,if_neg h4] at hi
  exact hi.elim
 refine ⟨a1,fun k=>absurd hn k,fun _=>⟨w2.heap.size,pb,xb,R,rfl,⟨⟨fun k i hi=>?_,fun j m b2 i hj hm=>?_⟩,fun k i hi=>?_,by rw [r0],hB,Own.nil _ _ _ _,by rw [r3,r4];exact a5,by simp,fun q hq=>by cases hq⟩,fun i ⟨k,hi⟩=>?_⟩⟩
 ·have:=what k i hi;omega
 ·have:=what j i hj;have:=what m i hm;omega
 ·have:=what k i hi;omega
 ·have:=what k i hi;exact ⟨by omega,by omega⟩
def fm (cf:ep) (k:Nat) (rs:List bo) (a:da):Int:=if rJ cf k a=false then 1 else if ff rs a.id≥0 then 9 else if rs.length≥8 then 10 else 0
def gp (cf:ep) (wt:ByteArray) (a:da) (pgs:List Int):bo:=⟨a,cf,wt,pgs,4*pgs.length,[]⟩
def mo (ps:List ak) (l:List Int):List ak:=if gg ps l then fe ps l else ps
set_option maxHeartbeats 2000000 in
theorem NL {bb:Nat} {cf:ep} {wt:ByteArray} {a:da × di} {D:Nat→Prop} (h:cn W w cb pb xb k B ps es o c qs R) (hk:1≤k∧k≤64) (hB:0≤B∧B≤1000000000) (hn:qs.length<1000) (i4:es.length<1000) (hb:Su W w R bb cf wt) (ha:lk w a D) (hD:∀ i,i<w.heap.size→D i→¬ dt R i) :
  Calls Tryz.prog my #[.pointer (some ⟨cb,0,none⟩),.pointer (some ⟨bb,0,none⟩),.agg (dl a).toArray] w (bc fun v w'=>v = .int .i64 (fm cf k (qs.map (·.2)) a.1)∧Ch (dt R) w w'∧(fm cf k (qs.map (·.2)) a.1≠0→cn W w' cb pb xb k B ps es o c qs R) ∧
   (fm cf k (qs.map (·.2)) a.1=0→∃ (o':OA) (c':Nat) (g:nq) (R':Nat→Nat→Prop),cn W w' cb pb xb k (B+a.1.ai.length) (mo ps (bz es a.1.ver a.1.ai).2) (bz es a.1.ver a.1.ai).1 o' c' (qs++[(g,gp cf wt a.1 (bz es a.1.ver a.1.ai).2)]) R'∧(∀ i,R 2 i→R' 2 i)∧∀ i,de R' i→Ext (de R) w w' i)):=by
 refine mi.calls _ _ _ _ _ _ _ _ _ _ _ ?_
 intro w1 e1
 have hA:ba w1 w.heap.size (dl a) dx:=ba.new e1
 have d8:Ch ah w w1:=Ch.alloc e1
 have h1:=h.aa d8
 have i5:yn w1 bb cf wt:=(h.Tn hb).aa d8
 have no:∀ {w'} {e:Int},Ch ah w w'→fm cf k (qs.map (·.2)) a.1=e→e≠0→Value.int IntKind.i64 e = .int .i64 (fm cf k (qs.map (·.2)) a.1)∧Ch (dt R) w w'∧(fm cf k (qs.map (·.2)) a.1≠0→cn W w' cb pb xb k B ps es o c qs R)∧(fm cf k (qs.map (·.2)) a.1=0→∃ (o':OA) (c':Nat) (g:nq) (R':Nat→Nat→Prop),cn W w' cb pb xb k (B+a.1.ai.length) (mo ps (bz es a.1.ver a.1.ai).2) (bz es a.1.ver a.1.ai).1 o' c' (qs++[(g,gp cf wt a.1 (bz es a.1.ver a.1.ai).2)]) R'∧(∀ i,R 2 i→R' 2 i)∧∀ i,de R' i→Ext (de R) w w' i):=fun {w' e} hc he h0=>⟨by rw [he],hc.any,fun _=>h.aa hc,fun k=>absurd (he▸k) h0⟩
 refine ⟨_,_,_,_,_,_,_,_,_,⟨hA.cell 0 rfl,hA.cell 1 rfl,hA.cell 2 rfl,hA.cell 3 rfl,hA.cell 4 rfl⟩,ab (Lb h1 hk i5 (ha.1.aa d8)) ?_⟩
 rintro v w2 ⟨rfl,e3⟩
 have c4:=d8.ag e3
 refine ⟨_,rfl,fun hy=>?_,fun hy=>?_⟩
 ·exact no c4 (by unfold fm;rw [if_pos (by simpa using hy)]) (by decide)
 have hy:¬ rJ cf k a.1=false:=by simpa using hy
 have h8:=hA.aa e3
 refine ⟨_,h8.cell 0 rfl,ab (uM (h.aa c4) hn a.1.id) ?_⟩
 rintro v w3 ⟨rfl,e8⟩
 have b7:=c4.ag e8
 have c5:=h8.aa e8
 refine ⟨_,rfl,fun hx=>?_,fun hx=>?_⟩
 ·exact no b7 (by unfold fm;rw [if_neg hy,if_pos (dQt hx)]) (by decide)
 have hx:=dQf hx
 have h3:=h.aa b7
 refine ⟨_,_,_,h3.blk.cell 2 rfl,fun hf=>?_,fun hf=>?_⟩
 ·exact no b7 (by unfold fm;rw [if_neg hy,if_neg hx,if_pos (by have:=dQt hf;rw [List.length_map];omega)]) (by decide)
 have hf:=dQf hf
 have hz:fm cf k (qs.map (·.2)) a.1=0:=by unfold fm;rw [if_neg hy,if_neg hx,if_neg (by rw [List.length_map];omega)]
 rw [hz]
 clear no
 have k1:w.heap.size<w1.heap.size:=hA.lt
 have i6:=(e3.ag e8).size
 have aR:∀ m,¬ R m w.heap.size:=fun m hm=>Nat.lt_irrefl _ (h.fam.1 m _ hm)
 have e9:∀ m,m≠0→¬ R m cb:=fun m k2 hm=>h.fam.2 0 m (by omega) cb h.z hm
 have c6:¬ (R 4 w.heap.size∨R 3 w.heap.size):=fun h=>h.elim (aR _) (aR _)
 have i7:¬ (R 4 cb∨R 3 cb):=fun h=>h.elim (e9 4 (by omega)) (e9 3 (by omega))
 refine ⟨fun w'=>Ch (fun i=>R 4 i∨R 3 i) w3 w',fun w4 e4=>⟨Ch.drew e4,_,_,_,_,_,_,_,_,_,⟨fun w' k=>(c5.af k c6).cell 0 rfl,fun w' k=>(c5.af k c6).cell 1 rfl,fun w' k=>(c5.af k c6).cell 2 rfl,fun w' k=>(c5.af k c6).cell 3 rfl,fun w' k=>(c5.af k c6).cell 4 rfl⟩,_,fun w' k=>(h3.blk.af k i7).cell 1 rfl,_,fun w' k=>(c5.af k c6).cell 1 rfl,_,_,_,fun w' k=>(c5.af k c6).cell 2 rfl,?_⟩⟩
 have f0:Ch ah w3 w4:=Ch.drew e4
 have d3:=b7.ag f0
 have k3:w3.heap.size=w4.heap.size:=by subst e4;rfl
 refine ab (QQ (ha.aa d3).1) ?_
 rintro v w9 ⟨p,rfl,i8,d9⟩
 have c7:=d3.ag d9
 have h9:=h.aa c7
 have k4:=d9.size
 refine ⟨_,_,_,_,_,_,_,_,_,rfl,(f0.ag d9).any,?_⟩
 refine ab (Pt h9.px hB i4 ((ha.1.aa c7).1) (fun i hi hd h4=>by
  have a7:=h.fam.1 4 i h4
  exact hD i a7 hd ⟨4,by omega,h4⟩) (by have:=ha.1.2.2.1;omega) a.1.ver ha.2.1) ?_
 rintro v d1 ⟨FI',FO,oA,oC,rfl,f3,f4,d4,i0,i1,a8⟩
 obtain ⟨d5,i9,_⟩:=h9.sa (FP:=R 3) d4 (fun _ hi => .inl hi) i0 a8
 have j0:=a8.size
 have b9:Ch (fun i=>R 4 i∨R 3 i) w3 d1:=(f0.ag d9).any.same a8
 refine ⟨_,_,_,rfl,b9,fun f5 f6=>⟨b9.ag (Ch.alloc f6),?_⟩⟩
 have a9:=ba.new f6
 have f7:Ch ah d1 f5:=Ch.alloc f6
 have f8:=a9.lt
 obtain ⟨rb,j1⟩:∃ rb:Nat,rb=d1.heap.size:=⟨_,rfl⟩
 rw [← j1] at a9 f8 ⊢
 refine ⟨_,_,_,a9.cell 6 rfl,a9.ok 7 rfl,fun b8 e0=>?_⟩
 have k5:(bz es a.1.ver a.1.ai).2.length≤1000:=by
  have:=(tu a.1.ver a.1.ai a.1.ai.length 4 es []).2
  have h3:=ha.1.2.2.1
  unfold bz
  simp only [List.length_nil,Nat.zero_add] at this
  omega
 have j2:IntKind.i64.wrap (((bz es a.1.ver a.1.ai).2.length:Int)*4)=((4*(bz es a.1.ver a.1.ai).2.length:Nat):Int):=by rw [ae (by omega) (by omega)];omega
 rw [j2] at e0
 generalize k6:bz es a.1.ver a.1.ai=f at *
 obtain ⟨g,hg⟩:∃ g:nq,g=⟨rb,bb,p,oA,oC,none,0⟩:=⟨_,rfl⟩
 have f9:ba b8 rb (Sc g (gp cf wt a.1 f.2)) uH:=by
  have:=a9.set e0
  rw [hg]
  exact this
 have g0:Ch (·=rb) f5 b8:=Ch.set e0 rfl
 have j3:b8.heap.size=f5.heap.size:=by subst e0;simp [World.setCell]
 have a5:Ch ah d1 b8:=f7.trans g0 (fun i hi he=>by omega)
 have g1:=d5.aa a5
 refine ⟨_,_,_,g1.blk.cell 2 rfl,fun j4 j5=>?_⟩
 have g2:Own b8 oR 1 o qs.length c (qs.map Dj) (R 1):=g1.own
 have b5:g.rb=rb:=by rw [hg]
 obtain ⟨o',c',d2,g3,g4,c8⟩:=Own.pW (enc:=Dj) (xs:=qs) qF g2 wK (g,gp cf wt a.1 f.2) (w1:=j4) (by rw [j5];unfold Dj;rw [b5]) rfl (by unfold maxLen;omega) (by omega)
 have j6:=c8.size
 have d6:=g1.blk.af c8 (e9 1 (by omega))
 refine ⟨o',_,c',d2,g3,d6.ok 2 rfl,fun b6 g5=>?_⟩
 have g6:=d6.set g5
 have d7:Ch (R 0) d2 b6:=Ch.set g5 h.z
 have j7:b6.heap.size=d2.heap.size:=by subst g5;simp [World.setCell]
 have a0:Ch (fun i=>R 0 i∨R 1 i) b8 b6:=(c8.mono (fun _ _ h => .inr h)).same (d7.mono (fun _ _ h => .inl h))
 have c0:Ch (dt R) w b6:=((c7.any.trans a8 (fun i _ hi=>by rcases hi with hi|hi <;> exact ⟨_,by omega,hi⟩)).ag a5).trans a0 (fun i _ hi=>by rcases hi with hi|hi <;> exact ⟨_,by omega,hi⟩)
 have a7:∀ m i,R m i→i<w.heap.size:=h.fam.1
 refine ⟨rfl,c0,fun hn=>absurd rfl hn,fun _=>?_⟩
 -- the regions
 obtain ⟨R',c9⟩:∃ R':Nat→Nat→Prop,R'=fun m=>if m=1 then Ext (R 1) b8 d2 else if m=2 then (fun i=>R 2 i∨db w4 w9 i) else if m=4 then FI' else if m=5+3*rb then (·=rb) else if m=6+3*rb then FO else if m=7+3*rb then ah else R m:=⟨_,rfl⟩
 have r1:R' 1=Ext (R 1) b8 d2:=by rw [c9];rfl
 have r2:R' 2=fun i=>R 2 i∨db w4 w9 i:=by rw [c9];rfl
 have r4:R' 4=FI':=by rw [c9];rfl
 have r5:R' (5+3*rb)=(·=rb):=by
  rw [c9];show (if _ then _ else _)=_
  rw [if_neg (by omega),if_neg (by omega),if_neg (by omega),if_pos rfl]
 have r6:R' (6+3*rb)=FO:=by
  rw [c9];show (if _ then _ else _)=_
  rw [if_neg (by omega),if_neg (by omega),if_neg (by omega),if_neg (by omega),if_pos rfl]
 have r7:R' (7+3*rb)=ah:=by
  rw [c9];show (if _ then _ else _)=_
  rw [if_neg (by omega),if_neg (by omega),if_neg (by omega),if_neg (by omega),if_neg (by omega),if_pos rfl]
 have rk:∀ m,m≠1→m≠2→m≠4→m≠5+3*rb→m≠6+3*rb→m≠7+3*rb→R' m=R m:=fun m h1 h2 h4 h5 h6 h7=>by
  rw [c9];show (if _ then _ else _)=_
  rw [if_neg h1,if_neg h2,if_neg h4,if_neg h5,if_neg h6,if_neg h7]
 have what:∀ m i,R' m i→R m i∨(m=1∧b8.heap.size≤i∧i<d2.heap.size)∨(m=2∧w4.heap.size≤i∧i<w9.heap.size)∨(m=4∧FI' i∧w9.heap.size≤i∧i<d1.heap.size)∨(m=5+3*rb∧i=rb)∨(m=6+3*rb∧FO i∧w9.heap.size≤i∧i<d1.heap.size):=fun m i hi=>by
  by_cases e1:m=1
  ·subst e1;rw [r1] at hi
   rcases hi with hi|hi
   ·exact .inl hi
   ·exact .inr (.inl ⟨rfl,hi.1,hi.2⟩)
  by_cases e2:m=2
  ·subst e2;rw [r2] at hi
   rcases hi with hi|hi
   ·exact .inl hi
   ·exact .inr (.inr (.inl ⟨rfl,hi.1,hi.2⟩))
  by_cases i2:m=4
  ·subst i2;rw [r4] at hi
   rcases i0 i hi with h1|h1
   ·exact .inl h1
   ·exact .inr (.inr (.inr (.inl ⟨rfl,hi,h1.1,h1.2⟩)))
  by_cases e5:m=5+3*rb
  ·subst e5;rw [r5] at hi;exact .inr (.inr (.inr (.inr (.inl ⟨rfl,hi⟩))))
  by_cases e6:m=6+3*rb
  ·subst e6;rw [r6] at hi;exact .inr (.inr (.inr (.inr (.inr ⟨rfl,hi,(f4 i hi).1,(f4 i hi).2⟩))))
  by_cases e7:m=7+3*rb
  ·subst e7;rw [r7] at hi;exact hi.elim
  rw [rk m e1 e2 i2 e5 e6 e7] at hi
  exact .inl hi
 have d0:∀ m i,R' m i→R m i∨db w b6 i:=fun m i hi=>by
  rcases what m i hi with h1|h1|h1|h1|h1|h1
  ·exact .inl h1
  ·exact .inr ⟨by omega,by omega⟩
  ·exact .inr ⟨by omega,by omega⟩
  ·obtain ⟨_,_,_,_⟩:=h1;exact .inr ⟨by omega,by omega⟩
  ·exact .inr ⟨by omega,by omega⟩
  ·obtain ⟨_,_,_,_⟩:=h1;exact .inr ⟨by omega,by omega⟩
 have g7:Dy b6 R':=by
  refine Dy.re h.fam (by omega) d0 (fun j m k7 i hi hj hm=>?_)
  rcases what j i hj with h1|h1|h1|h1|h1|h1
  ·have:=a7 j i h1;omega
  all_goals rcases what m i hm with h2|h2|h2|h2|h2|h2
  all_goals first
   | (have:=a7 m i h2;omega)
   | (obtain ⟨a1,a2,a3,a4⟩:=h1;obtain ⟨b1,b2,b3,b4⟩:=h2;first|omega|exact i1 i b2 a2|exact i1 i a2 b2)
   | (obtain ⟨a1,a2,a3,a4⟩:=h1;omega)
   | (obtain ⟨b1,b2,b3,b4⟩:=h2;omega)
   | omega
 have lowE:∀ j,j=3∨j=4→∀ i,R' j i→¬ (R 0 i∨R 1 i):=fun j hj i hi hg=>by
  rcases what j i hi with h1|h1|h1|h1|h1|h1
  ·rcases hg with hg|hg
   ·exact h.fam.2 j 0 (by omega) i h1 hg
   ·exact h.fam.2 j 1 (by omega) i h1 hg
  ·omega
  ·omega
  ·obtain ⟨_,_,_,_⟩:=h1
   rcases hg with hg|hg
   ·have:=a7 0 i hg;omega
   ·have:=a7 1 i hg;omega
  ·omega
  ·omega
 have On:∀ i,w.heap.size≤i→¬ (R 0 i∨R 1 i):=fun i hi hg=>by
  rcases hg with hg|hg
  ·have:=a7 0 i hg;omega
  ·have:=a7 1 i hg;omega
 refine ⟨o',c',g,R',⟨g7,fun m i hi=>?_,by rw [rk 0 (by omega) (by omega) (by omega) (by omega) (by omega) (by omega)];exact h.z,?_,?_,?_,?_,fun q hq=>?_⟩,fun i hi=>by rw [r2];exact .inl hi,fun i ⟨m,hi⟩=>?_⟩
 ·rcases d0 m i hi with h1|h1
  ·exact h.f m i h1
  ·have:=h1.1;have:=h.ch.size;omega
 ·rw [List.length_append];exact g6
 ·rw [List.length_append,r1]
  refine g4.af d7 (fun i _ hi h0=>?_)
  rcases hi with hi|hi
  ·exact h.fam.2 1 0 (by omega) i hi h0
  ·have:=a7 0 i h0;have:=hi.1;omega
 ·rw [rk 3 (by omega) (by omega) (by omega) (by omega) (by omega) (by omega),r4]
  have a6:=d4.aa a5
  have l3:∀ i,R 3 i→¬ (R 0 i∨R 1 i):=fun i hi=>lowE 3 (.inl rfl) i (by rw [rk 3 (by omega) (by omega) (by omega) (by omega) (by omega) (by omega)];exact hi)
  have l4:∀ i,FI' i→¬ (R 0 i∨R 1 i):=fun i hi=>lowE 4 (.inr rfl) i (by rw [r4];exact hi)
  exact ⟨⟨a6.p.r.af a0 (fun i _ hi=>l3 i hi),a6.p.f.le a0.size,a6.p.c.trans a0 (fun i hi hg=>by
   rcases hg with hg|hg
   ·exact absurd (h.f 0 i hg) (Nat.not_le.2 hi)
   ·exact absurd (h.f 1 i hg) (Nat.not_le.2 hi))⟩,a6.x.af a0 (fun i _ hi=>l4 i hi),a6.g,a6.f.le a0.size,a6.ap⟩
 ·rw [List.map_append,List.nodup_append]
  refine ⟨h.nd,by simp,fun a' j8 b' i3=>?_⟩
  obtain ⟨q,hq,rfl⟩:=List.mem_map.1 j8
  simp only [List.map_cons,List.map_nil,List.mem_singleton] at i3
  subst i3
  have:=(h.rn q hq).blk.lt
  rw [b5];omega
 ·rcases List.mem_append.1 hq with hq|hq
  ·have k8:=(h.rn q hq).blk.lt
   have j9:=d5.aa a5
   have g8:=j9.rn q hq
   have q5:R' (5+3*q.1.rb)=R (5+3*q.1.rb):=rk _ (by omega) (by omega) (by omega) (by omega) (by omega) (by omega)
   have q6:R' (6+3*q.1.rb)=R (6+3*q.1.rb):=rk _ (by omega) (by omega) (by omega) (by omega) (by omega) (by omega)
   have q7:R' (7+3*q.1.rb)=R (7+3*q.1.rb):=rk _ (by omega) (by omega) (by omega) (by omega) (by omega) (by omega)
   have u:∀ m,m≠3→m≠4→La R (R 3) FI' m=R m:=fun m h3 h4=>Ie h3 h4
   have apk:∀ m,m≠0→m≠1→∀ i,La R (R 3) FI' m i→m≠3→m≠4→¬ (R 0 i∨R 1 i):=fun m h0 h1 i hi h3 h4 hg=>by
    rw [u m h3 h4] at hi
    rcases hg with hg|hg
    ·exact h.fam.2 m 0 h0 i hi hg
    ·exact h.fam.2 m 1 h1 i hi hg
   exact g8.af a0 (fun i hi=>apk 2 (by omega) (by omega) i hi (by omega) (by omega)) (fun i hi=>apk _ (by omega) (by omega) i hi (by omega) (by omega)) (fun i hi=>apk _ (by omega) (by omega) i hi (by omega) (by omega)) (fun i hi=>apk _ (by omega) (by omega) i hi (by omega) (by omega))
    (fun i hi=>by rw [u 2 (by omega) (by omega)] at hi;rw [r2];exact .inl hi) (by rw [q5,u _ (by omega) (by omega)]) (by rw [q6,u _ (by omega) (by omega)]) (by rw [q7,u _ (by omega) (by omega)])
  ·rw [List.mem_singleton] at hq
   subst hq
   have k0:¬ (R 0 rb∨R 1 rb):=On rb (by omega)
   refine ⟨?_,?_,?_,?_,?_,?_⟩
   ·show ba b6 g.rb _ _
    rw [b5];exact f9.af a0 k0
   ·show R' (5+3*g.rb) g.rb
    rw [b5,r5]
   ·show Su W b6 R' g.bb cf wt
    rw [hg]
    exact hb.imp id (fun k=>⟨by rw [r2];exact .inl k.1,k.2.af c0 (h.Bz _ k.1)⟩)
   ·show lk b6 (a.1,g.ap) (R' 2)
    rw [hg,r2]
    have g9:=i8.af a8 (fun i _ hi hg=>by
     rcases hg with hg|hg
     ·have:=a7 4 i hg;have:=hi.1;omega
     ·have:=a7 3 i hg;have:=hi.1;omega)
    exact ((g9.aa a5).af a0 (fun i _ hi=>On i (by have:=hi.1;omega))).mono (fun i _ hi => .inr hi)
   ·show Own b6 bd 1 g.po f.2.length g.pc (f.2.map (.int .i64)) (R' (6+3*g.rb))
    rw [b5,r6,hg]
    exact (f3.aa a5).af a0 (fun i _ hi=>On i (by have:=(f4 i hi).1;omega))
   ·show Own b6 bd 1 g.so 0 g.sc ([].map (.int .i64)) (R' (7+3*g.rb))
    rw [hg];exact Own.nil _ _ _ _
 ·rcases d0 m i hi with h1|h1
  ·exact .inl ⟨_,h1⟩
  ·exact .inr h1
end
end Go.Proofs.YtkbikekbaboclaaGreat.fo
set_option linter.unusedVariables false
set_option linter.unusedSimpArgs false
namespace Go.Proofs.YtkbikekbaboclaaGreat.fo
open Go Go.Proofs V Vc Step bh dh ee fv Go.RowKit
open gm (da di dl ik gq asks_one)
structure Cu where
 ps:List ak
 es:List bw
 rs:List bo
 aw:List da
 ok:Bool
def nk (r:bo) (id:Int):bo:={ r with aj:=r.aj++[id] }
def lz (i:Nat):Nat→Cu→Cu
 | 0,s=>s
 | f+1,s=>match s.rs[i]? with
  | none=>s
  | some r =>
   if r.done≠4*r.aj.length then s
   else if (gj s.ps r.ask.ver).2=0 then { s with ps:=ou s.ps r.ask.ver,rs:=s.rs.set i (nk r (gj s.ps r.ask.ver).1) }
   else if xt s.ps s.es<s.es.length then lz i f { s with ps:=EK s.ps s.es,es:=s.es.eraseIdx (xt s.ps s.es) }
   else match s.rs[s.rs.length-1]? with
    | none=>s
    | some y =>
     if s.rs.length-1=i then ⟨fk s.ps y.aj,s.es,s.rs.eraseIdx (s.rs.length-1),s.aw++[y.ask],false⟩
     else lz i f ⟨fk s.ps y.aj,s.es,s.rs.eraseIdx (s.rs.length-1),s.aw++[y.ask],s.ok⟩
section
variable {W w w' w0:World} {cb pb xb k tb:Nat} {B B':Int} {ps ps':List ak} {es es':List bw} {o:OA} {c n:Nat} {qs:List (nq × bo)} {q:nq × bo} {R R':Nat→Nat→Prop} {F G FP FI Fa:Nat→Prop} {xs ys:List Int}
theorem Jx {ps:List ak} {v:Int} (h:(gj ps v).2≠0):ou ps v=ps:=by
 unfold gj at h
 unfold ou
 split
 ·rfl
 ·rename_i hv
  rw [if_neg hv] at h
  split at h
  ·exact absurd rfl h
  ·rename_i hl
   exact List.set_eq_of_length_le (by omega)
theorem OV {ps:List ak} {es:List bw} (h:¬ xt ps es<es.length):EK ps es=ps∧es.eraseIdx (xt ps es)=es:=by
 refine ⟨?_,List.eraseIdx_of_length_le (by omega)⟩
 unfold EK
 rw [List.getElem?_eq_none (by omega)]
theorem cn.Le (h:cn W w cb pb xb k B ps es o c qs R) {i:Nat} (hi:i<qs.length) {rb j:Nat} (a4:qs[i].1.rb=rb) {g:nq} {r:bo} {v:Value} {w1:World} {PG SD:Nat→Prop} (hg:g.rb=rb∧g.bb=qs[i].1.bb∧g.ap=qs[i].1.ap) (hr:r.ask=qs[i].2.ask∧r.c=qs[i].2.c∧r.wt=qs[i].2.wt)
  (hc:Ch (fun m=>R (6+3*rb) m∨R (7+3*rb) m) w w1) (hp:Own w1 bd 1 g.po r.aj.length g.pc (r.aj.map (.int .i64)) PG) (b9:Own w1 bd 1 g.so r.said.length g.sc (r.said.map (.int .i64)) SD)
  (b5:∀ m,PG m→Ext (R (6+3*rb)) w w1 m) (b6:∀ m,SD m→Ext (R (7+3*rb)) w w1 m) (b7:∀ m,PG m→¬ SD m) (c0:(Sc qs[i].1 qs[i].2).set j v=Sc g r) (e:w'=w1.setCell ⟨rb,j,none⟩ v) :
  ∃ R',cn W w' cb pb xb k B ps es o c (qs.set i (g,r)) R'∧(∀ i,de R' i→Ext (de R) w w' i)∧R' 2=R 2∧Ch (dt R) w w':=by
 have a5:=h.rn _ (List.getElem_mem hi)
 have a6:R (5+3*rb) rb:=a4▸a5.z
 have hs:=hc.size
 have a9:Ch (R (5+3*rb)) w1 w':=Ch.set e a6
 have c5:w'.heap.size=w1.heap.size:=by subst e;simp [World.setCell]
 have a3:Ch (fun m=>R (5+3*rb) m∨R (6+3*rb) m∨R (7+3*rb) m) w w':=(hc.mono (fun _ _ h => .inr h)).same (a9.mono (fun _ _ h => .inl h))
 have ap:∀ {j},j≠5+3*rb→j≠6+3*rb→j≠7+3*rb→∀ i,R j i→¬ (R (5+3*rb) i∨R (6+3*rb) i∨R (7+3*rb) i):=fun {j} h5 h6 h7 i hi hg=>by
  rcases hg with hg|hg|hg
  ·exact h.fam.2 j _ h5 i hi hg
  ·exact h.fam.2 j _ h6 i hi hg
  ·exact h.fam.2 j _ h7 i hi hg
 obtain ⟨R',b3⟩:∃ R':Nat→Nat→Prop,R'=fun m=>if m=6+3*rb then PG else if m=7+3*rb then SD else R m:=⟨_,rfl⟩
 have r6:R' (6+3*rb)=PG:=by rw [b3];exact if_pos rfl
 have r7:R' (7+3*rb)=SD:=by
  rw [b3];show (if _ then _ else _)=_
  rw [if_neg (by omega),if_pos rfl]
 have rk:∀ m,m≠6+3*rb→m≠7+3*rb→R' m=R m:=fun m h6 h7=>by
  rw [b3];show (if _ then _ else _)=_
  rw [if_neg h6,if_neg h7]
 have a0:∀ m i,R' m i→R m i∨((m=6+3*rb∧PG i∨m=7+3*rb∧SD i)∧db w w' i):=fun m i hi=>by
  by_cases h6:m=6+3*rb
  ·subst h6;rw [r6] at hi
   exact (b5 i hi).imp id (fun h=>⟨.inl ⟨rfl,hi⟩,h.1,by have:=h.2;omega⟩)
  by_cases h7:m=7+3*rb
  ·subst h7;rw [r7] at hi
   exact (b6 i hi).imp id (fun h=>⟨.inr ⟨rfl,hi⟩,h.1,by have:=h.2;omega⟩)
  rw [rk m h6 h7] at hi;exact .inl hi
 have a7:=h.fam.1
 have b4:Dy w' R':=Dy.re h.fam (by omega) (fun m i hi=>(a0 m i hi).imp id (fun h=>h.2)) (fun j m c6 i hi hj hm=>by
  rcases a0 j i hj with h1|⟨h1,_⟩
  ·have:=a7 j i h1;omega
  ·rcases a0 m i hm with h2|⟨h2,_⟩
   ·have:=a7 m i h2;omega
   ·rcases h1 with ⟨a1,b1⟩|⟨a1,b1⟩ <;> rcases h2 with ⟨a2,b2⟩|⟨a2,b2⟩
    ·omega
    ·exact b7 i b1 b2
    ·exact b7 i b2 b1
    ·omega)
 have keepQ:∀ q∈qs,q.1.rb≠rb→uw W w' R' q:=fun q hq c7 =>
  (h.rn q hq).af a3 (ap (by omega) (by omega) (by omega)) (ap (by omega) (by omega) (by omega)) (ap (by omega) (by omega) (by omega)) (ap (by omega) (by omega) (by omega)) (fun i hi=>by rw [rk 2 (by omega) (by omega)];exact hi) (rk _ (by omega) (by omega)) (rk _ (by omega) (by omega)) (rk _ (by omega) (by omega))
 refine ⟨R',⟨b4,fun m i hi=>?_,by rw [rk 0 (by omega) (by omega)];exact h.z,?_,?_,?_,?_,fun q hq=>?_⟩,fun i ⟨m,hi⟩=>?_,rk 2 (by omega) (by omega),a3.mono (fun i _ hi=>by rcases hi with hi|hi|hi <;> exact ⟨_,by omega,hi⟩)⟩
 ·rcases a0 m i hi with h1|h1
  ·exact h.f m i h1
  ·have:=h1.2.1;have:=h.ch.size;omega
 ·rw [List.length_set];exact h.blk.af a3 (ap (by omega) (by omega) (by omega) _ h.z)
 ·rw [List.length_set,rk 1 (by omega) (by omega),show (qs.set i (g,r)).map Dj=qs.map Dj from by
   rw [List.map_set]
   refine List.ext_getElem? fun m=>?_
   by_cases hm:m=i
   ·subst hm;simp [List.getElem?_set,hi,Dj,hg.1,a4]
   ·rw [List.getElem?_set_ne (by omega)]]
  exact h.own.af a3 (fun i _ hi=>ap (by omega) (by omega) (by omega) i hi)
 ·rw [rk 3 (by omega) (by omega),rk 4 (by omega) (by omega)]
  exact ⟨⟨h.px.p.r.af a3 (fun i _ hi=>ap (by omega) (by omega) (by omega) i hi),h.px.p.f.le (by omega),h.px.p.c.trans a3 (fun i hi hg=>by
   rcases hg with hg|hg|hg <;> exact absurd (h.f _ i hg) (Nat.not_le.2 hi))⟩,h.px.x.af a3 (fun i _ hi=>ap (by omega) (by omega) (by omega) i hi),h.px.g,h.px.f.le (by omega),h.px.ap⟩
 ·rw [List.map_set]
  show ((qs.map (·.1.rb)).set i g.rb).Nodup
  rw [hg.1,show (qs.map (·.1.rb)).set i rb=qs.map (·.1.rb) from by
   refine List.ext_getElem? fun m=>?_
   by_cases hm:m=i
   ·subst hm;simp [List.getElem?_set,hi,a4]
   ·rw [List.getElem?_set_ne (by omega)]]
  exact h.nd
 ·obtain ⟨m,hm,a8⟩:=List.mem_iff_getElem.1 hq
  rw [List.length_set] at hm
  rw [List.getElem_set] at a8
  split at a8
  ·subst a8
   have hb:=a5.blk
   rw [a4] at hb
   have c4:=hb.af hc (fun hx=>hx.elim (h.fam.2 (5+3*rb) (6+3*rb) (by omega) _ a6) (h.fam.2 (5+3*rb) (7+3*rb) (by omega) _ a6))
   have b8:=c4.set e
   rw [c0] at b8
   refine ⟨?_,?_,?_,?_,?_,?_⟩
   ·show ba w' g.rb _ _
    rw [hg.1];exact b8
   ·show R' (5+3*g.rb) g.rb
    rw [hg.1,rk _ (by omega) (by omega)];exact a6
   ·show Su W w' R' g.bb r.c r.wt
    rw [hg.2.1,hr.2.1,hr.2.2]
    exact a5.br.imp id (fun k=>⟨by rw [rk 2 (by omega) (by omega)];exact k.1,k.2.af a3 (ap (by omega) (by omega) (by omega) _ k.1)⟩)
   ·show lk w' (r.ask,g.ap) (R' 2)
    rw [hr.1,hg.2.2,rk 2 (by omega) (by omega)]
    exact a5.ask.af a3 (fun i _ hi=>ap (by omega) (by omega) (by omega) i hi)
   ·show Own w' bd 1 g.po r.aj.length g.pc (r.aj.map (.int .i64)) (R' (6+3*g.rb))
    rw [hg.1,r6]
    refine hp.af a9 (fun i _ hi h5=>?_)
    rcases b5 i hi with hi|hi
    ·exact h.fam.2 (6+3*rb) (5+3*rb) (by omega) i hi h5
    ·have:=a7 _ i h5;have:=hi.1;omega
   ·show Own w' bd 1 g.so r.said.length g.sc (r.said.map (.int .i64)) (R' (7+3*g.rb))
    rw [hg.1,r7]
    refine b9.af a9 (fun i _ hi h5=>?_)
    rcases b6 i hi with hi|hi
    ·exact h.fam.2 (7+3*rb) (5+3*rb) (by omega) i hi h5
    ·have:=a7 _ i h5;have:=hi.1;omega
  ·subst a8
   refine keepQ _ (List.getElem_mem hm) (fun he=>?_)
   have e1:(qs.map (·.1.rb))[i]'(by simpa using hi)=(qs.map (·.1.rb))[m]'(by simpa using hm):=by simp [a4,he]
   have:=(List.getElem_inj (h₀:=by simpa using hi) (h₁:=by simpa using hm) h.nd).1 e1
   omega
 ·rcases a0 m i hi with h1|h1
  ·exact .inl ⟨_,h1⟩
  ·exact .inr h1.2
theorem cn.Pa (h:cn W w cb pb xb k B ps es o c qs R) {i:Nat} (hi:i<qs.length) {po:OA} {pc:Nat} {pgs:List Int} {w1:World} (hc:Ch (R (6+3*qs[i].1.rb)) w w1)
  (hO:Own w1 bd 1 po pgs.length pc (pgs.map (.int .i64)) (Ext (R (6+3*qs[i].1.rb)) w w1)) (e:w'=w1.setCell ⟨qs[i].1.rb,6,none⟩ (.slice po pgs.length pc)) :
  ∃ R',cn W w' cb pb xb k B ps es o c (qs.set i ({ qs[i].1 with po:=po,pc:=pc },{ qs[i].2 with aj:=pgs })) R'∧(∀ i,de R' i→Ext (de R) w w' i)∧R' 2=R 2∧Ch (dt R) w w':=by
 have a1:=h.rn _ (List.getElem_mem hi)
 have a0:=h.fam.2 (6+3*qs[i].1.rb) (7+3*qs[i].1.rb) (by omega)
 refine h.Le hi (rb:=qs[i].1.rb) (j:=6) rfl ⟨rfl,rfl,rfl⟩ ⟨rfl,rfl,rfl⟩ (hc.mono (fun _ _ h => .inl h)) hO (a1.sd.af hc (fun m _ h7 h6=>a0 m h6 h7)) (fun _ h=>h) (fun _ h => .inl h) (fun m h6 h7=>?_) rfl e
 rcases h6 with h6|h6
 ·exact a0 m h6 h7
 ·have:=h.fam.1 _ m h7;have:=h6.1;omega
theorem cn.QX (h:cn W w cb pb xb k B ps es o c qs R) {i:Nat} (hi:i<qs.length) {d:Nat} (e:w'=w.setCell ⟨qs[i].1.rb,7,none⟩ (.int .i64 d)) :
  ∃ R',cn W w' cb pb xb k B ps es o c (qs.set i (qs[i].1,{ qs[i].2 with done:=d })) R'∧(∀ i,de R' i→Ext (de R) w w' i)∧R' 2=R 2∧Ch (dt R) w w':=by
 have a0:=h.rn _ (List.getElem_mem hi)
 exact h.Le hi (rb:=qs[i].1.rb) (j:=7) rfl ⟨rfl,rfl,rfl⟩ ⟨rfl,rfl,rfl⟩ (Ch.refl _ _) a0.pg a0.sd (fun _ h => .inl h) (fun _ h => .inl h) (h.fam.2 (6+3*qs[i].1.rb) (7+3*qs[i].1.rb) (by omega)) rfl e
theorem cn.QM (h:cn W w cb pb xb k B ps es o c qs R) {i:Nat} (hi:i<qs.length) {so:OA} {sc:Nat} {sd:List Int} {w1:World} (hc:Ch (R (7+3*qs[i].1.rb)) w w1)
  (hO:Own w1 bd 1 so sd.length sc (sd.map (.int .i64)) (Ext (R (7+3*qs[i].1.rb)) w w1)) (e:w'=w1.setCell ⟨qs[i].1.rb,8,none⟩ (.slice so sd.length sc)) :
  ∃ R',cn W w' cb pb xb k B ps es o c (qs.set i ({ qs[i].1 with so:=so,sc:=sc },{ qs[i].2 with said:=sd })) R'∧(∀ i,de R' i→Ext (de R) w w' i)∧R' 2=R 2∧Ch (dt R) w w':=by
 have a1:=h.rn _ (List.getElem_mem hi)
 have a0:=h.fam.2 (6+3*qs[i].1.rb) (7+3*qs[i].1.rb) (by omega)
 refine h.Le hi (rb:=qs[i].1.rb) (j:=8) rfl ⟨rfl,rfl,rfl⟩ ⟨rfl,rfl,rfl⟩ (hc.mono (fun _ _ h => .inr h)) (a1.pg.af hc (fun m _ h6 h7=>a0 m h6 h7)) hO (fun _ h => .inl h) (fun _ h=>h) (fun m h6 h7=>?_) rfl e
 rcases h7 with h7|h7
 ·exact a0 m h6 h7
 ·have:=h.fam.1 _ m h6;have:=h7.1;omega
theorem cn.le (h:cn W w cb pb xb k B ps es o c qs R) (hB:B≤B'):cn W w cb pb xb k B' ps es o c qs R:=⟨h.fam,h.f,h.z,h.blk,h.own,h.px.le hB,h.nd,h.rn⟩
end
end Go.Proofs.YtkbikekbaboclaaGreat.fo
set_option linter.unusedVariables false
set_option linter.unusedSimpArgs false
namespace Go.Proofs.YtkbikekbaboclaaGreat.fo
open Go Go.Proofs V Vc Step bh dh ee fv Go.RowKit
open gm (da di dl ik gq asks_one)
section
variable {W w w' w0:World} {cb pb xb k tb:Nat} {B B':Int} {ps ps':List ak} {es es':List bw} {o:OA} {c n:Nat} {qs:List (nq × bo)} {q:nq × bo} {R R' R0:Nat→Nat→Prop} {F G FP FI Fa TA:Nat→Prop} {xs ys:List Int} {ao:OA} {ac:Nat} {aq:List (da × di)}
def CD (id:Int) (dn gv:Bool) (oo:OA) (on oc:Nat) (ao:OA) (an ac:Nat):List Value:=[.int .i64 id,.bool dn,.bool gv,.slice oo on oc,.slice ao an ac]
structure RD (w0 w:World) (R:Nat→Nat→Prop) (tb:Nat) (ao:OA) (ac:Nat) (aq:List (da × di)) (TA:Nat→Prop):Prop where
 own:Own w dx 5 ao aq.length ac (aq.map dl).flatten TA
 ta:∀ i,TA i→w0.heap.size≤i∧i<w.heap.size∧i≠tb∧∀ k,¬ R k i
 tb:∀ k,¬ R k tb
 ask:∀ q∈aq,lk w q (R 2)
theorem RD.step (h:RD w0 w R tb ao ac aq TA) (hc:Ch G w w') (hG:∀ i,G i→dt R i) (hR:∀ i,de R' i→Ext (de R) w w' i) (h2:R' 2=R 2) (hf:Dy w R) (a5:tb<w.heap.size):RD w0 w' R' tb ao ac aq TA:=by
 have hn:∀ i,TA i→¬ G i:=fun i hi hg=>by
  obtain ⟨k,_,hk⟩:=hG i hg
  exact (h.ta i hi).2.2.2 k hk
 refine ⟨h.own.af hc (fun i _ hi=>hn i hi),fun i hi=>?_,fun k hk=>?_,fun q hq=>?_⟩
 ·obtain ⟨a1,a2,a3,a4⟩:=h.ta i hi
  refine ⟨a1,Nat.lt_of_lt_of_le a2 hc.size,a3,fun k hk=>?_⟩
  rcases hR i ⟨k,hk⟩ with ⟨m,hm⟩|hm
  ·exact a4 m hm
  ·have:=hm.1;omega
 ·rcases hR tb ⟨k,hk⟩ with ⟨m,hm⟩|hm
  ·exact h.tb m hm
  ·have:=hm.1;omega
 ·rw [h2]
  refine (h.ask q hq).af hc (fun i _ hi hg=>?_)
  obtain ⟨k,hk,a0⟩:=hG i hg
  exact hf.2 2 k (by omega) i hi a0
structure NQ (W w0:World) (tb cb pb xb k:Nat) (B:Int) (id:Int) (R0:Nat→Nat→Prop) (s:Cu) (w:World) (o:OA) (c:Nat) (qs:List (nq × bo)) (R:Nat→Nat→Prop) (ao:OA) (ac:Nat) (aq:List (da × di)) (TA:Nat→Prop):Prop where
 qW:cn W w cb pb xb k B s.ps s.es o c qs R
 rs:qs.map (·.2)=s.rs
 lx:ba w tb (CD id false false none 0 0 ao aq.length ac) lb
 aws:aq.map (·.1)=s.aw
 aw:RD w0 w R tb ao ac aq TA
 grow:∀ i,de R i→Ext (de R0) w0 w i
 two:R 2=R0 2
 ch:Ch (fun i=>dt R0 i∨i=tb) w0 w
 lo:W.heap.size≤w0.heap.size∧W.heap.size≤tb
theorem NQ.step {id:Int} {s s':Cu}  {o':OA} {c':Nat} {qs':List (nq × bo)} (h:NQ W w0 tb cb pb xb k B id R0 s w o c qs R ao ac aq TA) (hc:Ch (dt R) w w') (hC:cn W w' cb pb xb k B s'.ps s'.es o' c' qs' R') (a1:qs'.map (·.2)=s'.rs) (a2:s'.aw=s.aw)
  (hR:∀ i,de R' i→Ext (de R) w w' i) (h2:R' 2=R 2):NQ W w0 tb cb pb xb k B id R0 s' w' o' c' qs' R' ao ac aq TA:=by
 have a3:=h.lx.lt
 have hs:=hc.size
 have a4:=h.ch.size
 refine ⟨hC,a1,h.lx.af hc (fun ⟨m,_,hm⟩=>h.aw.tb m hm),by rw [a2];exact h.aws,h.aw.step hc (fun _ h=>h) hR h2 h.qW.fam a3,fun j hj=>?_,by rw [h2];exact h.two,?_,h.lo⟩
 ·rcases hR j hj with hj|hj
  ·exact (h.grow j hj).imp (fun x=>x) (fun k=>⟨k.1,by have:=k.2;omega⟩)
  ·exact .inr ⟨by have:=hj.1;omega,hj.2⟩
 ·refine h.ch.trans hc (fun j hj hm=>?_)
  obtain ⟨m,a5,hm⟩:=hm
  rcases h.grow j ⟨m,hm⟩ with hx|hx
  ·refine .inl ?_
   obtain ⟨m',hx⟩:=hx
   by_cases a0:m'=2
   ·subst a0
    rw [← h.two] at hx
    exact absurd hm (h.qW.fam.2 2 m (by omega) j hx)
   ·exact ⟨m',a0,hx⟩
  ·have:=hx.1;omega
def Re (W w0:World) (tb cb pb xb k:Nat) (B:Int) (id:Int) (i rb:Nat) (R0:Nat→Nat→Prop) (s:Cu) (w:World):Prop :=
 ∃ (o:OA) (c:Nat) (qs:List (nq × bo)) (R:Nat→Nat→Prop) (ao:OA) (ac:Nat) (aq:List (da × di)) (TA:Nat→Prop),cn W w cb pb xb k B s.ps s.es o c qs R∧qs.map (·.2)=s.rs∧(s.ok=true→∃ hi:i<qs.length,qs[i].1.rb=rb) ∧
  ba w tb (CD id false (!s.ok) none 0 0 ao aq.length ac) lb∧aq.map (·.1)=s.aw∧RD w0 w R tb ao ac aq TA∧(∀ i,de R i→Ext (de R0) w0 w i)∧R 2=R0 2∧Ch (fun i=>dt R0 i∨i=tb) w0 w
theorem NQ.out {id:Int} {i rb:Nat} {s:Cu}  (h:NQ W w0 tb cb pb xb k B id R0 s w o c qs R ao ac aq TA) (a0:∃ hi:i<qs.length,qs[i].1.rb=rb) (a1:s.ok=true):Re W w0 tb cb pb xb k B id i rb R0 s w :=
 ⟨o,c,qs,R,ao,ac,aq,TA,h.qW,h.rs,fun _=>a0,by rw [a1];exact h.lx,h.aws,h.aw,h.grow,h.two,h.ch⟩
theorem NQ.push {id:Int} {s:Cu}  {a:da × di} {w1:World} (h:NQ W w0 tb cb pb xb k B id R0 s w o c qs R ao ac aq TA) (ha:lk w a (R 2)) (hn:aq.length≤1000)
  (e1:w1=w.alloc (.cells (dl a).toArray dx (0,0))) :
  ∃ (o':OA) (c':Nat) (w2:World),(Builtin.append_ #[oY,oY] oY #[.slice ao aq.length ac,.slice (some ⟨w.heap.size,0,none⟩) 1 1]).run Tryz.prog w1 = .ok (.slice o' (aq.length+1) c') w2∧Ch TA w w2∧dr w2 ⟨tb,4,none⟩ ∧
   ∀ w3,w3=w2.setCell ⟨tb,4,none⟩ (.slice o' (aq.length+1) c')→∃ TA':Nat→Prop,NQ W w0 tb cb pb xb k B id R0 { s with aw:=s.aw++[a.1] } w3 o c qs R o' c' (aq++[a]) TA':=by
 obtain ⟨o',c',w2,hr,ho,hc⟩:=Own.push zu h.aw.own oY e1 rfl (List.all_eq_true.2 (gq a)) (by unfold maxLen;omega) (by omega)
 have a5:¬ TA tb:=fun ht=>(h.aw.ta tb ht).2.2.1 rfl
 have a6:=h.lx.af hc a5
 have hs:=hc.size
 have a8:=h.lx.lt
 refine ⟨o',c',w2,hr,hc,a6.ok 4 rfl,fun w3 e3=>⟨Ext TA w w2,?_⟩⟩
 have a0:Ch (·=tb) w2 w3:=Ch.set e3 rfl
 have a9:w3.heap.size=w2.heap.size:=by subst e3;simp [World.setCell]
 have a7:=a6.set e3
 have hT:∀ i,Ext TA w w2 i→i≠tb:=fun i hi he=>by
  subst he
  rcases hi with hi|hi
  ·exact a5 hi
  ·have:=hi.1;omega
 have hG:Ch (fun i=>TA i∨i=tb) w w3:=(hc.mono (fun _ _ h => .inl h)).same (a0.mono (fun _ _ h => .inr h))
 have nR:∀ k i,R k i→¬ (TA i∨i=tb):=fun k i hk hg=>by
  rcases hg with hg|hg
  ·exact (h.aw.ta i hg).2.2.2 k hk
  ·exact h.aw.tb k (hg▸hk)
 have b2:=h.qW.ch.size
 have b3:=h.ch.size
 refine ⟨h.qW.ze hG nR (fun i hi hg=>?_),h.rs,?_,by simp [h.aws],⟨?_,fun j hj=>?_,h.aw.tb,fun q hq=>?_⟩,fun j hj=>?_,h.two,?_,h.lo⟩
 ·have:=h.lo
  rcases hg with hg|hg
  ·have:=(h.aw.ta i hg).1;omega
  ·omega
 ·rw [List.length_append];exact a7
 ·rw [List.length_append,List.map_append,List.flatten_append]
  have:=ho.af a0 (fun i _ hi he=>hT i hi he)
  simpa using this
 ·rcases hj with hj|hj
  ·obtain ⟨a1,a2,a3,a4⟩:=h.aw.ta j hj
   exact ⟨a1,by omega,a3,a4⟩
  ·have h1:=hj.1
   have h2:=hj.2
   exact ⟨by omega,by omega,by omega,fun k hk=>by have:=h.qW.fam.1 k j hk;omega⟩
 ·rcases List.mem_append.1 hq with hq|hq
  ·exact (h.aw.ask q hq).af hG (fun i _ hi=>nR 2 i hi)
  ·rw [List.mem_singleton] at hq
   subst hq
   exact ha.af hG (fun i _ hi=>nR 2 i hi)
 ·exact (h.grow j hj).imp (fun x=>x) (fun k=>⟨k.1,by have:=k.2;omega⟩)
 ·refine (h.ch.trans hc (fun j hj ht=>?_)).trans a0 (fun j hj ht => .inr ht)
  have:=(h.aw.ta j ht).1;omega
theorem vX {i f:Nat} {s:Cu} {r:bo} (h:s.rs[i]?=some r) (h1:r.done≠4*r.aj.length):lz i f s=s:=by
 cases f with
 | zero=>rfl
 | succ f=>unfold lz;rw [h];dsimp only;rw [if_pos h1]
theorem Ad {i f:Nat} {s:Cu} {r:bo} (h:s.rs[i]?=some r) (h1:¬ r.done≠4*r.aj.length) (h2:(gj s.ps r.ask.ver).2=0):lz i (f+1) s={ s with ps:=ou s.ps r.ask.ver,rs:=s.rs.set i (nk r (gj s.ps r.ask.ver).1) }:=by
 unfold lz;rw [h];dsimp only;rw [if_neg h1,if_pos h2]
theorem wQ {i f:Nat} {s:Cu} {r:bo} (h:s.rs[i]?=some r) (h1:¬ r.done≠4*r.aj.length) (h2:¬ (gj s.ps r.ask.ver).2=0) (h3:xt s.ps s.es<s.es.length):lz i (f+1) s=lz i f { s with ps:=EK s.ps s.es,es:=s.es.eraseIdx (xt s.ps s.es) }:=by
 conv=>lhs;unfold lz
 rw [h];dsimp only;rw [if_neg h1,if_neg h2,if_pos h3]
theorem Bw {i f:Nat} {s:Cu} {r y:bo} (h:s.rs[i]?=some r) (h1:¬ r.done≠4*r.aj.length) (h2:¬ (gj s.ps r.ask.ver).2=0) (h3:¬ xt s.ps s.es<s.es.length) (hy:s.rs[s.rs.length-1]?=some y) :
  lz i (f+1) s=if s.rs.length-1=i then ⟨fk s.ps y.aj,s.es,s.rs.eraseIdx (s.rs.length-1),s.aw++[y.ask],false⟩ else lz i f ⟨fk s.ps y.aj,s.es,s.rs.eraseIdx (s.rs.length-1),s.aw++[y.ask],s.ok⟩:=by
 conv=>lhs;unfold lz
 rw [h];dsimp only;rw [if_neg h1,if_neg h2,if_neg h3,hy]
theorem map_eraseIdx {α β:Type} (f:α→β):∀ (l:List α) (i:Nat),(l.eraseIdx i).map f=(l.map f).eraseIdx i
 | [],_=>rfl
 | x :: l,0=>rfl
 | x :: l,i+1=>by rw [List.eraseIdx_cons_succ,List.map_cons,List.map_cons,List.eraseIdx_cons_succ,map_eraseIdx f l i]
theorem SG (h:(qs.map (·.1.rb)).Nodup) {i j:Nat} (hi:i<qs.length) (hj:j<qs.length):(qs[i].1.rb=qs[j].1.rb)↔i=j:=by
 have:=List.getElem_inj (h₀:=by simpa using hi) (h₁:=by simpa using hj) h
 simpa using this
set_option maxHeartbeats 4000000 in
theorem NG {id:Int} {i:Nat} (h:cn W w cb pb xb k B ps es o c qs R) (hk:k≤1000) (hB:1≤B∧B≤1000000000) (hn:qs.length≤900) (j1:es.length<1000) (hl:∀ q∈qs,q.2.aj.length≤900∧q.2.done≤1000000) (hi:i<qs.length)
  (hT:ba w tb (CD id false false none 0 0 none 0 0) lb) (j2:∀ k,¬ R k tb) (k6:W.heap.size≤tb) :
  Calls Tryz.prog BE #[.pointer (some ⟨cb,0,none⟩),.pointer (some ⟨qs[i].1.rb,0,none⟩),.pointer (some ⟨tb,0,none⟩)] w (bc fun v w'=>∃ s:Cu,lz i (es.length+qs.length+1) ⟨ps,es,qs.map (·.2),[],true⟩=s∧v = .bool s.ok∧Re W w tb cb pb xb k B id i qs[i].1.rb R s w'):=by
 obtain ⟨rb,a9⟩:∃ rb,qs[i].1.rb=rb:=⟨_,rfl⟩
 obtain ⟨sF,f6⟩:∃ sF,lz i (es.length+qs.length+1) ⟨ps,es,qs.map (·.2),[],true⟩=sF:=⟨_,rfl⟩
 rw [a9,f6]
 have f7:=h.ch.size
 refine Fv.calls _ _ _ ?_
 unfold Vm.A3 Vm.A4 Vm.A9 Vm.B1 Vm.B7 Vm.Br Vm.C Vm.C6 Vm.C8 Vm.E Vm.F Vm.K9 Vm.M Vm.O9 Vm.P Vm.Q Vm.Y Vm.Z;dsimp only
 refine ⟨fun vk w'=>∃ (s:Cu) (f:Nat) (o:OA) (c:Nat) (qs:List (nq × bo)) (R':Nat→Nat→Prop) (ao:OA) (ac:Nat) (aq:List (da × di)) (TA:Nat→Prop),lz i f s=sF∧s.es.length+s.rs.length+1≤f∧vk=s.es.length+s.rs.length∧s.ok=true ∧
  NQ W w tb cb pb xb k B id R s w' o c qs R' ao ac aq TA∧(∃ hi:i<qs.length,qs[i].1.rb=rb)∧aq.length+s.rs.length≤900∧s.es.length<1000∧∀ r∈s.rs,r.aj.length≤900∧r.done≤1000000,
  ⟨_,⟨ps,es,qs.map (·.2),[],true⟩,_,o,c,qs,R,none,0,[],ah,f6,by simp,rfl,rfl,⟨h,rfl,hT,rfl,⟨Own.nil _ _ _ _,fun i hi=>hi.elim,j2,fun q hq=>by cases hq⟩,fun i hi => .inl hi,rfl,Ch.refl _ _,f7,k6⟩,⟨hi,a9⟩,by simpa using hn,j1,fun r hr=>by
   obtain ⟨q,hq,rfl⟩:=List.mem_map.1 hr
   exact hl q hq⟩,?_⟩
 clear h hi hl hT j2 hn j1 f6 a9
 rintro jk vk w1 ⟨s,f,o1,c1,a0,R1,ao,ac,aq,TA,hF,hf,rfl,c9,hI,k7,k8,d0,e8⟩
 obtain ⟨f,rfl⟩:∃ f',f=f'+1:=⟨f-1,by omega⟩
 obtain ⟨hi,a9⟩:=k7
 have j3:=hI.qW.rn _ (List.getElem_mem hi)
 have d1:s.rs[i]?=some a0[i].2:=by rw [← hI.rs];simp [hi]
 have d2:a0.length=s.rs.length:=by rw [← hI.rs];simp
 have m6:=e8 a0[i].2 (List.mem_of_getElem? d1)
 have f0:=j3.blk
 rw [a9] at f0
 refine ⟨fun w'=>Ch ah w1 w',fun w2 e2=>⟨Ch.drew e2,_,fun w' k=>(f0.aa k).cell 7 rfl,_,_,_,fun w' k=>(f0.aa k).cell 6 rfl,?_⟩⟩
 have f8:Ch ah w1 w2:=Ch.drew e2
 have f3:=hI.step (s':=s) (R':=R1) f8.any (hI.qW.aa f8) hI.rs rfl (fun _ h => .inl h) rfl
 rw [ae (x:=(a0[i].2.aj.length:Int)*4) (by omega) (by omega)]
 refine ⟨fun hy=>?_,fun j4=>?_⟩
 rotate_left
 ·have j5:a0[i].2.done≠4*a0[i].2.aj.length:=fun he=>by
   rw [he] at j4
   simp at j4
   omega
  rw [vX d1 j5] at hF
  subst hF
  exact ⟨s,rfl,by rw [c9],f3.out ⟨hi,a9⟩ c9⟩
 have f9:¬ a0[i].2.done≠4*a0[i].2.aj.length:=fun j5=>by
  have hy:=eq_of_beq hy
  omega
 have h3:=f3.qW
 have k9:=f0.aa f8
 have z5:R1 (5+3*rb) rb:=a9▸j3.z
 have n3:¬ R1 3 rb:=h3.fam.2 (5+3*rb) 3 (by omega) rb z5
 have c3:¬ R1 3 cb:=h3.fam.2 0 3 (by omega) cb h3.z
 refine ⟨fun w'=>Ch (R1 3) w2 w',fun w5 e5=>⟨Ch.drew e5,_,fun w' k=>(h3.blk.af k c3).cell 0 rfl,_,fun w' k=>(k9.af k n3).cell 2 rfl,?_⟩⟩
 have g0:Ch ah w2 w5:=Ch.drew e5
 have h5:=h3.aa g0
 refine ab (bh.Ni h5.px.p.r a0[i].2.ask.ver) ?_
 rintro v w8 ⟨rfl,l1,g1⟩
 have g2:Ch (R1 3) w2 w8:=g0.any.same g1
 have l2:=h5.px.g.take hB.1 a0[i].2.ask.ver
 obtain ⟨b6,_,l3⟩:=h5.sa (h5.px.sa l1 g1 l2) (fun _ hi => .inl hi) (fun _ hi => .inl hi) (g1.mono (fun _ _ hi => .inr hi))
 rw [AM] at b6
 have b9:Ch (dt R1) w2 w8:=g0.any.same l3
 refine ⟨_,_,rfl,g2,fun g3=>?_,fun b3=>?_⟩
 ·have g3:(gj s.ps a0[i].2.ask.ver).2=0:=by simpa using g3
  rw [Ad d1 f9 g3] at hF
  subst hF
  have d3:=b6.rn _ (List.getElem_mem hi)
  have g4:=d3.blk
  rw [a9] at g4
  refine ⟨_,_,_,g4.cell 6 rfl,fun w9 e9=>?_⟩
  obtain ⟨po,pc,l4,g5,g6,d4⟩:=Own.pW (enc:=Value.int .i64) (xs:=a0[i].2.aj) bi d3.pg ay (gj s.ps a0[i].2.ask.ver).1 e9 rfl (by unfold maxLen;omega) (by omega)
  have n6:¬ R1 (6+3*a0[i].1.rb) rb:=h3.fam.2 (5+3*rb) _ (by omega) rb z5
  have g7:=g4.af d4 n6
  refine ⟨po,_,pc,l4,g5,g7.ok 6 rfl,fun l5 l6=>?_⟩
  have j6:(a0[i].2.aj++[(gj s.ps a0[i].2.ask.ver).1]).length=a0[i].2.aj.length+1:=by simp
  obtain ⟨R',g8,g9,h0,h1⟩:=b6.Pa (w':=l5) hi (pgs:=a0[i].2.aj++[(gj s.ps a0[i].2.ask.ver).1]) d4 (by rw [j6];exact g6) (by rw [a9,j6];exact l6)
  have f4:=f3.step (s':={ s with ps:=ou s.ps a0[i].2.ask.ver }) (R':=R1) b9 b6 hI.rs rfl (fun _ h => .inl h) rfl
  have h2:=f4.step (s':={ s with ps:=ou s.ps a0[i].2.ask.ver,rs:=s.rs.set i (nk a0[i].2 (gj s.ps a0[i].2.ask.ver).1) }) h1 g8 (by rw [List.map_set,hI.rs];rfl) rfl g9 h0
  exact ⟨_,rfl,by rw [c9],h2.out ⟨by rw [List.length_set];exact hi,by rw [List.getElem_set_self];exact a9⟩ c9⟩
 have b3:¬ (gj s.ps a0[i].2.ask.ver).2=0:=by simpa using b3
 rw [Jx b3] at b6
 have f4:=f3.step (s':=s) (R':=R1) b9 b6 hI.rs rfl (fun _ h => .inl h) rfl
 refine ⟨_,b6.blk.cell 1 rfl,ab (dh.LO b6.px ⟨by omega,hB.2⟩ hk d0) ?_⟩
 rintro v l7 ⟨rfl,h4,h6⟩
 obtain ⟨a7,_,d5⟩:=b6.sa h4 (fun _ hi => .inl hi) (fun _ hi => .inl hi) h6
 rw [AM] at a7
 refine ⟨_,rfl,fun f5=>?_,fun b7=>?_⟩
 ·have f5:xt s.ps s.es<s.es.length:=dQt f5
  rw [wQ d1 f9 b3 f5] at hF
  have a6:=f4.step (s':={ s with ps:=EK s.ps s.es,es:=s.es.eraseIdx (xt s.ps s.es) }) (R':=R1) d5 a7 hI.rs rfl (fun _ h => .inl h) rfl
  have c0:(s.es.eraseIdx (xt s.ps s.es)).length=s.es.length-1:=by rw [List.length_eraseIdx,if_pos f5]
  exact ⟨s.es.length-1+s.rs.length,by omega,_,f,_,_,_,_,_,_,_,_,hF,by dsimp only;rw [c0];omega,by dsimp only;rw [c0],c9,a6,⟨hi,a9⟩,k8,by dsimp only;rw [c0];omega,e8⟩
 have b7:¬ xt s.ps s.es<s.es.length:=dQf b7
 obtain ⟨l8,l9⟩:=OV b7
 rw [l8,l9] at a7
 have a6:=f4.step (s':=s) (R':=R1) d5 a7 hI.rs rfl (fun _ h => .inl h) rfl
 have hL:a0.length-1<a0.length:=by omega
 have m0:IntKind.i64.wrap ((a0.length:Int)-1)=((a0.length-1:Nat):Int):=by rw [ae (by omega) (by omega)];omega
 have j7:s.rs[s.rs.length-1]?=some a0[a0.length-1].2:=by rw [← d2,← hI.rs];simp [hL]
 have m7:=e8 _ (List.mem_of_getElem? j7)
 refine ⟨_,_,_,a7.blk.cell 2 rfl,?_⟩
 rw [m0]
 refine ab (wI a7 hk ⟨by omega,hB.2⟩ (by omega) hL (by omega)) ?_
 rintro v c4 ⟨rfl,h7,b2,d6⟩
 have d7:Ch (dt R1) l7 c4:=d6.mono (fun i _ hi=>Hr i hi)
 rw [Bw d1 f9 b3 b7 j7] at hF
 have h8:=b2.blk
 have m1:=b2.ask
 obtain ⟨yb,b4⟩:∃ yb,a0[a0.length-1].1.rb=yb:=⟨_,rfl⟩
 rw [b4] at h8
 have h9:=a6.lx
 have i0:∀ i,i=tb→¬ dt R1 i:=fun j hj ⟨m,_,hm⟩=>a6.aw.tb m (hj▸hm)
 have i1:=h9.af d7 (i0 tb rfl)
 -- the lx,as it is behind the cut
 have d8:∀ w',Ch TA c4 w'→w'.cell? ⟨tb,4,none⟩=some (.slice ao aq.length ac):=fun w' k=>(i1.af k (fun ht=>(a6.aw.ta tb ht).2.2.1 rfl)).cell 4 rfl
 have j8:¬ TA yb:=fun ht=>(a6.aw.ta yb ht).2.2.2 (5+3*yb) (b4▸b2.z)
 have ysel:∀ w',Ch TA c4 w'→∀ j v,(Sc a0[a0.length-1].1 a0[a0.length-1].2)[j]?=some v→w'.cell? ⟨yb,j,none⟩=some v:=fun w' k j v hv=>(h8.af k j8).cell j hv
 refine ⟨some ⟨yb,0,none⟩,by rw [b4],fun w'=>Ch TA c4 w',fun j9 i2=>⟨Ch.drew i2,_,_,_,fun w' k=>d8 w' k,?_⟩⟩
 show ∃ _,_
 refine ⟨_,_,_,_,_,_,_,_,_,⟨fun w' k=>by rw [eh];exact ysel w' k 1 _ rfl,fun w' k=>by rw [eh];exact ysel w' k 2 _ rfl,fun w' k=>by rw [eh];exact ysel w' k 3 _ rfl,fun w' k=>by rw [eh];exact ysel w' k 4 _ rfl,fun w' k=>by rw [eh];exact ysel w' k 5 _ rfl⟩,fun m8 k0=>?_⟩
 have b5:Ch ah c4 j9:=Ch.drew i2
 obtain ⟨s1,d9⟩:∃ s1:Cu,s1=⟨fk s.ps a0[a0.length-1].2.aj,s.es,s.rs.eraseIdx (s.rs.length-1),s.aw,s.ok⟩:=⟨_,rfl⟩
 have c5:=a6.step (s':=s1) (R':=R1) d7 (by rw [d9];exact h7) (by rw [d9,map_eraseIdx,hI.rs];show s.rs.eraseIdx (a0.length-1)=s.rs.eraseIdx (s.rs.length-1);rw [d2]) (by rw [d9]) (fun _ h => .inl h) rfl
 have i3:=c5.step (s':=s1) (R':=R1) b5.any (c5.qW.aa b5) c5.rs rfl (fun _ h => .inl h) rfl
 have m2:c4.heap.size=j9.heap.size:=by subst i2;rfl
 obtain ⟨k1,k2,k3,i4,i5,e0,m3⟩:=i3.push (a:=(a0[a0.length-1].2.ask,a0[a0.length-1].1.ap)) (m1.aa b5) (by omega) k0
 have a8:Ch TA c4 k3:=b5.any.same i5
 refine ⟨b5.any.ag (Ch.alloc k0),k1,_,k2,k3,i4,a8,e0,fun e1 i6=>?_⟩
 obtain ⟨TA',a5⟩:=m3 e1 i6
 have e3:ba e1 yb (Sc a0[a0.length-1].1 a0[a0.length-1].2) uH:=by
  have i7:=h8.af a8 j8
  exact i7.af (Ch.set (F:=(·=tb)) i6 rfl) (fun he=>a6.aw.tb (5+3*yb) (he▸(b4▸b2.z)))
 have e4:ba e1 rb (Sc a0[i].1 a0[i].2) uH:=by
  have i8:=a7.rn _ (List.getElem_mem hi)
  have e6:=(i8.low a7.fam d6).blk
  rw [a9] at e6
  have i7:=e6.af a8 (fun ht=>(a6.aw.ta rb ht).2.2.2 (5+3*rb) z5)
  exact i7.af (Ch.set (F:=(·=tb)) i6 rfl) (fun he=>a6.aw.tb (5+3*rb) (he▸z5))
 have c0:(s.rs.eraseIdx (s.rs.length-1)).length=s.rs.length-1:=by rw [List.length_eraseIdx,if_pos (by omega)]
 have c6:=SG hI.qW.nd hL hi
 rw [b4,a9] at c6
 refine ⟨fun a b ha hb _=>?_,fun c7=>?_,fun c8=>?_⟩
 ·injection ha with ha
  injection hb with hb
  subst ha;subst hb
  exact ⟨⟨_,_,e3⟩,⟨_,_,e4⟩⟩
 ·have c7:=dQt c7
  injection c7 with c7
  injection c7 with c7
  have k4:=c6.1 c7
  rw [if_pos (by omega)] at hF
  subst hF
  have e7:=a5.lx
  refine ⟨e7.ok 2 rfl,fun k5 i9=>⟨_,rfl,rfl,?_⟩⟩
  have j0:=e7.set i9
  have b8:Ch (·=tb) e1 k5:=Ch.set i9 rfl
  have nR:∀ m j,R1 m j→¬ j=tb:=fun m j hm he=>a5.aw.tb m (he▸hm)
  have m5:k5.heap.size=e1.heap.size:=by subst i9;simp [World.setCell]
  rw [d9] at a5
  refine ⟨o1,c1,a0.eraseIdx (a0.length-1),R1,k1,k2,aq++[(a0[a0.length-1].2.ask,a0[a0.length-1].1.ap)],TA',a5.qW.ze b8 nR (fun j hj he=>by have:=a5.lo;omega),a5.rs,fun hf=>absurd hf (by simp),j0,a5.aws,⟨a5.aw.own.af b8 (fun j _ hj he=>(a5.aw.ta j hj).2.2.1 he),fun j hj=>?_,a5.aw.tb,fun q hq=>(a5.aw.ask q hq).af b8 (fun j _ hj=>nR 2 j hj)⟩,fun j hj=>?_,a5.two,a5.ch.trans b8 (fun j _ he => .inr he)⟩
  ·obtain ⟨a1,a2,a3,a4⟩:=a5.aw.ta j hj
   exact ⟨a1,by omega,a3,a4⟩
  ·exact (a5.grow j hj).imp (fun x=>x) (fun k=>⟨k.1,by have:=k.2;omega⟩)
 ·have c8:=dQf c8
  have k4:¬ s.rs.length-1=i:=fun he=>c8 (by rw [c6.2 (by omega)])
  rw [if_neg k4] at hF
  rw [d9] at a5
  refine ⟨s.es.length+(s.rs.length-1),by omega,_,f,_,_,_,_,_,_,_,_,hF,by dsimp only;rw [c0];omega,by dsimp only;rw [c0],c9,a5,⟨by rw [List.length_eraseIdx,if_pos hL];omega,?_⟩,by dsimp only;rw [c0,List.length_append];simp;omega,d0,fun r hr=>e8 r ((List.eraseIdx_sublist _ _).subset hr)⟩
  rw [List.getElem_eraseIdx_of_lt _ (show i<a0.length-1 by omega)]
  exact a9
end
end Go.Proofs.YtkbikekbaboclaaGreat.fo
