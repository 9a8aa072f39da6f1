import Derived.Test.YtkbikekbaboclaaGreatCrefG
import Derived.Test.YtkbikekbaboclaaGreatCrewV
import Derived.Test.YtkbikekbaboclaaGreatPkB
import Derived.Test.YtkbikekbaboclaaGreatVcCrewX
import Derived.Test.YtkbikekbaboclaaGreatPkVa
import Derived.Test.YtkbikekbaboclaaGreatPkE
set_option linter.unusedVariables false
set_option linter.unusedSimpArgs false
namespace Go.Proofs.YtkbikekbaboclaaGreat.fo
open Go Go.Proofs V Vc Step bh dh ee fv qn Go.RowKit
open gm (da di dl ik gq)
section
variable {w w':World} {F G D D':Nat→Prop}
theorem MM (w:World) (q:da × di):Calls Tryz.prog vH #[.agg (dl q).toArray] w (bc fun v w'=>v = .agg (dl q).toArray∧Ch ah w w'):=by
 refine yU.calls _ _ _ _ _ _ _ _ _ ?_
 intro w1 e1 w2 e2
 have hA:ba w2 w.heap.size (dl q) dx:=(ba.new e1).alloc e2
 have hB:=ba.new e2
 have s1:w.heap.size<w1.heap.size:=(ba.new e1).lt
 refine ⟨_,hA.cell 0 rfl,_,hA.cell 1 rfl,_,_,_,hA.cell 2 rfl,_,hA.cell 3 rfl,_,_,_,hA.cell 4 rfl,⟨hB.ok 0 rfl,hB.ok 1 rfl,hB.ok 2 rfl,hB.ok 3 rfl,hB.ok 4 rfl⟩,fun w3 e3=>?_⟩
 have a1:w3=w2.setCells w1.heap.size 0 (dl q):=e3
 have a0:=hB.all (dl q) rfl a1
 exact ⟨_,_,_,_,_,_,_,_,_,⟨a0.cell 0 rfl,a0.cell 1 rfl,a0.cell 2 rfl,a0.cell 3 rfl,a0.cell 4 rfl⟩,rfl,((Ch.alloc (F:=ah) e1).ag (Ch.alloc e2)).trans (Ch.fr (F:=(·=w1.heap.size)) a1 rfl) (fun i hi he=>by omega)⟩
theorem LC {q q':da × di} (hq:lk w q D) (a5:lk w q' D') (he:q.1=q'.1):Calls Tryz.prog uA #[.agg (dl q).toArray,.agg (dl q').toArray] w (bc fun v w'=>v = .bool true∧Ch ah w w'):=by
 refine vW.calls _ _ _ _ _ _ _ _ _ _ _ _ _ _ _ _ _ _ ?_
 intro w1 e1 w2 e2
 have hA:ba w2 w.heap.size (dl q) dx:=(ba.new e1).alloc e2
 have hB:ba w2 w1.heap.size (dl q') 74:=ba.new e2
 have hc:Ch ah w w2:=(Ch.alloc e1).ag (Ch.alloc e2)
 obtain ⟨⟨hp,hd,_,_⟩,a6,a7,a8,a9⟩:=hq.aa hc
 obtain ⟨⟨b2,b3,_,_⟩,a1,a2,a3,a4⟩:=a5.aa hc
 have n1:q.1.id=q'.1.id:=by rw [he]
 have n2:q.1.ver=q'.1.ver:=by rw [he]
 have n3:q.1.most=q'.1.most:=by rw [he]
 have n4:q.1.ai=q'.1.ai:=by rw [he]
 have n5:q.1.draws=q'.1.draws:=by rw [he]
 refine ⟨_,hA.cell 0 rfl,_,hB.cell 0 rfl,pj (by rw [n1];exact beq_self_eq_true _) ⟨_,hA.cell 1 rfl,_,hB.cell 1 rfl,pj (by rw [n2];exact beq_self_eq_true _) ⟨_,hA.cell 3 rfl,_,hB.cell 3 rfl,pj (by rw [n3];exact beq_self_eq_true _) ⟨_,_,_,hA.cell 2 rfl,_,_,_,hB.cell 2 rfl,?_⟩⟩⟩⟩
 refine ab (uP.ma (xs:=q.1.ai) (ys:=q'.1.ai) ⟨_,_,rfl,a6,a7,hp⟩ ⟨_,_,rfl,a1,a2,b2⟩) ?_
 rintro v w3 ⟨rfl,a0⟩
 refine ⟨_,rfl,pj (decide_eq_true n4) ⟨_,_,_,(hA.aa a0).cell 4 rfl,_,_,_,(hB.aa a0).cell 4 rfl,?_⟩⟩
 refine ab (uP.ma (xs:=q.1.draws) (ys:=q'.1.draws) ⟨_,_,rfl,a8,a9,hd.aa a0⟩ ⟨_,_,rfl,a3,a4,b3.aa a0⟩) ?_
 rintro v w4 ⟨rfl,b4⟩
 exact ⟨_,rfl,by rw [decide_eq_true n5],(hc.ag a0).ag b4⟩
theorem NH {t:sx} {oo oo' ao ao':OA} {oc oc' ac ac':Nat} {aq aq':List (da × di)} {T T':Nat→Prop} (ho:IV w (.slice oo t.out.length oc) t.out F) (b7:IV w (.slice oo' t.out.length oc') t.out G) (ha:aq.map (·.1)=t.Bk) (b3:aq'.map (·.1)=t.Bk)
  (hr:Rd w ao (aq.map dl).flatten T) (b8:Rd w ao' (aq'.map dl).flatten T') (hq:∀ q∈aq,lk w q D) (b9:∀ q∈aq',lk w q D') (hl:aq.length≤1000) :
  Calls Tryz.prog vF #[.agg (im t oo oc ao aq.length ac).toArray,.agg (im t oo' oc' ao' aq'.length ac').toArray] w (bc fun v w'=>v = .bool true∧Ch ah w w'):=by
 have c0:aq.length=aq'.length:=by have:=congrArg List.length (ha.trans b3.symm);simpa using this
 refine yV.calls _ _ _ _ _ _ _ _ _ _ _ _ _ _ _ _ _ _ ?_
 unfold Vm.A2 Vm.Br Vm.C Vm.C8 Vm.D Vm.E Vm.E7 Vm.F Vm.G Vm.G0 Vm.H Vm.J5 Vm.R9 Vm.U Vm.X Vm.Y;dsimp only
 intro w1 e1 w2 e2
 have hA:ba w2 w.heap.size (im t oo oc ao aq.length ac) lb:=(ba.new e1).alloc e2
 have hB:ba w2 w1.heap.size (im t oo' oc' ao' aq'.length ac') ie:=ba.new e2
 have hc:Ch ah w w2:=(Ch.alloc e1).ag (Ch.alloc e2)
 refine ⟨_,hA.cell 0 rfl,_,hB.cell 0 rfl,eg (by simp) ⟨_,hA.cell 1 rfl,_,hB.cell 1 rfl,eg (by simp) ⟨_,hA.cell 2 rfl,_,hB.cell 2 rfl,eg (by simp) ⟨_,_,_,hA.cell 3 rfl,_,_,_,hB.cell 3 rfl,?_⟩⟩⟩⟩
 refine ab (uP.ma (ho.aa hc) (b7.aa hc)) ?_
 rintro v w3 ⟨rfl,a8⟩
 have a6:=hc.ag a8
 have a9:=hA.aa a8
 have b4:=hB.aa a8
 refine ⟨_,rfl,eg (by rw [decide_eq_true rfl];rfl) ⟨_,_,_,a9.cell 4 rfl,_,_,_,b4.cell 4 rfl,eg (by rw [c0];simp) ?_⟩⟩
 refine ⟨fun i vk w'=>∃ j:Nat,i=j∧j≤aq.length∧vk=aq.length-j∧Ch ah w3 w',⟨_,0,rfl,Nat.zero_le _,rfl,Ch.refl _ _⟩,?_⟩
 rintro jk i vk w4 ⟨j,rfl,hj,rfl,a0⟩
 refine ⟨_,_,_,(a9.aa a0).cell 4 rfl,fun a4=>?_,fun c5=>⟨rfl,a6.ag a0⟩⟩
 have a4:j<aq.length:=by have:=dQt a4;omega
 have a2:j<aq'.length:=by omega
 obtain ⟨p,hp,hF,_,a7⟩:=Rd.Ri hr a4
 obtain ⟨p',c4,c6,_,a3⟩:=Rd.Ri b8 a2
 subst hp;subst c4
 have b2:aq[j].1=aq'[j].1:=by
  have h1:(aq.map (·.1))[j]?=(aq'.map (·.1))[j]?:=by rw [ha,b3]
  rw [List.getElem?_map,List.getElem?_map,List.getElem?_eq_getElem a4,List.getElem?_eq_getElem a2] at h1
  injection h1
 have hk:=fun w' (k:Ch ah w4 w')=>a7 ah w' ((a6.ag a0).ag k) (fun x=>x)
 have a5:=fun w' (k:Ch ah w4 w')=>a3 ah w' ((a6.ag a0).ag k) (fun x=>x)
 have h1:=hq _ (List.getElem_mem a4)
 have h2:=b9 _ (List.getElem_mem a2)
 generalize aq[j]=q at hk b2 h1
 generalize aq'[j]=q' at a5 b2 h2
 have h0:=fun w' k=>hk w' k 0 _ rfl
 have b5:=fun w' k=>a5 w' k 0 _ rfl
 simp only [cm] at h0 b5
 simp only [Int.toNat_natCast]
 refine ⟨fun w'=>Ch ah w4 w',fun w5 e5=>⟨Ch.drew e5,_,_,_,fun w' k=>((a9.aa a0).aa k).cell 4 rfl,⟨by omega,by omega⟩,_,_,_,_,_,_,_,_,_,⟨h0,fun w' k=>hk w' k 1 _ rfl,fun w' k=>hk w' k 2 _ rfl,fun w' k=>hk w' k 3 _ rfl,fun w' k=>hk w' k 4 _ rfl⟩,_,_,_,fun w' k=>((b4.aa a0).aa k).cell 4 rfl,⟨by omega,by omega⟩,_,_,_,_,_,_,_,_,_,⟨b5,fun w' k=>a5 w' k 1 _ rfl,fun w' k=>a5 w' k 2 _ rfl,fun w' k=>a5 w' k 3 _ rfl,fun w' k=>a5 w' k 4 _ rfl⟩,?_⟩⟩
 have a1:Ch ah w4 w5:=Ch.drew e5
 refine ab (LC (h1.aa ((a6.ag a0).ag a1)) (h2.aa ((a6.ag a0).ag a1)) b2) ?_
 rintro v w6 ⟨rfl,b6⟩
 exact ⟨_,rfl,a1.ag b6,eg rfl ⟨aq.length-(j+1),by omega,j+1,by rw [ae (by omega) (by omega)];rfl,a4,rfl,(a0.ag a1).ag b6⟩⟩
end
section
variable {w:World}
theorem KQ (w:World) (n:Int):Calls Tryz.prog ng #[.pointer none,.int .i64 n] w (bc fun v w'=>v = .tuple #[.agg (im ⟨0,false,false,[],[]⟩ none 0 none 0 0).toArray,.int .i64 2]∧Ch ah w w'):=by
 refine pa.fj _ ?_
 intro w1 e1
 have hB:=ba.new e1
 refine ⟨⟨hB.ok 0 rfl,hB.ok 1 rfl,hB.ok 2 rfl,hB.ok 3 rfl,hB.ok 4 rfl⟩,fun w2 e2=>?_⟩
 have a1:w2=w1.setCells w.heap.size 0 (im ⟨0,false,false,[],[]⟩ none 0 none 0 0):=e2
 have a0:=hB.all (im ⟨0,false,false,[],[]⟩ none 0 none 0 0) rfl a1
 exact ⟨_,_,_,_,_,_,_,_,_,⟨a0.cell 0 rfl,a0.cell 1 rfl,a0.cell 2 rfl,a0.cell 3 rfl,a0.cell 4 rfl⟩,rfl,(Ch.alloc (F:=ah) e1).trans (Ch.fr (F:=(·=w.heap.size)) a1 rfl) (fun i hi he=>by omega)⟩
theorem Lm (w:World) (b:Nat) (q:da × di):Calls Tryz.prog my #[.pointer none,.pointer (some ⟨b,0,none⟩),.agg (dl q).toArray] w (bc fun v w'=>v = .int .i64 2∧Ch ah w w'):=by
 refine mi.fj _ _ _ _ _ _ _ _ _ _ ?_
 exact fun w1 e1=>⟨rfl,Ch.alloc e1⟩
theorem Is (w:World) (c:Nat) (q:da × di):Calls Tryz.prog my #[.pointer (some ⟨c,0,none⟩),.pointer none,.agg (dl q).toArray] w (bc fun v w'=>v = .int .i64 2∧Ch ah w w'):=by
 refine mi.PJ _ _ _ _ _ _ _ _ _ _ ?_
 exact fun w1 e1=>⟨rfl,Ch.alloc e1⟩
theorem Jh (w:World) (n:Int):Calls Tryz.prog oJ #[.pointer none,.int .i64 n] w (bc fun v w'=>v = .bool false∧w'=w):=by
 refine qK.fj _ ?_
 exact ⟨rfl,rfl⟩
theorem MN (w:World):Calls Tryz.prog qL #[.pointer none] w (bc fun v w'=>v = .slice none 0 0∧w'=w):=by
 refine sP.fj ?_
 exact ⟨rfl,rfl⟩
theorem Oi (w:World) (o:OA) (n c:Nat):Calls Tryz.prog rG #[.pointer none,.slice o n c] w (bc fun v w'=>v = .slice none 0 0∧w'=w):=by
 refine uN.fj _ _ _ ?_
 exact ⟨rfl,rfl⟩
theorem Ld (w:World) (n:Int):Calls Tryz.prog pJ #[.pointer none,.int .i64 n] w (bc fun v w'=>v = .slice none 0 0∧w'=w):=by
 refine rE.fj _ ?_
 exact ⟨rfl,rfl⟩
theorem Lv (w:World):Calls Tryz.prog pD #[.pointer none] w (bc fun v w'=>v = .int .i64 0∧w'=w):=by
 refine ru.fj ?_
 exact ⟨rfl,rfl⟩
theorem Ko (w:World):Calls Tryz.prog pG #[.pointer none] w (bc fun v w'=>v = .int .i64 0∧w'=w):=by
 refine rH.fj ?_
 exact ⟨rfl,rfl⟩
theorem Il (w:World) (n:Int):Calls Tryz.prog nQ #[.pointer none,.int .i64 n] w (bc fun v w'=>v = .int .i64 0∧w'=w):=by
 refine pH.fj _ ?_
 exact ⟨rfl,rfl⟩
end
end Go.Proofs.YtkbikekbaboclaaGreat.fo
namespace Go.Proofs.YtkbikekbaboclaaGreat.fo
open Go Go.Proofs V Vc Step bh dh ee fv qn Go.RowKit
open gm (da di dl ik gq)
structure Lq (W w:World) (cb pb xb fb fpb fxb k:Nat) (md:rY) (ps:List ak) (es:List bw) (rs:List bo) (R:Nat→Nat→Prop) (ps2:List ak) (es2:List bw) (o:OA) (c:Nat) (qs:List FQ) (R2:Nat→Nat→Prop):Prop where
 st:St W w cb pb xb k ey md ps es rs R
 fc:pZ W w fb fpb fxb k md ps2 es2 o c qs R2
 dj:∀ i,de R i→¬ de R2 i
section
variable {W w w' w1:World} {cb pb xb fb fpb fxb k:Nat} {B:Int} {md:rY} {ps ps' ps2 ps2':List ak} {es es' es2 es2':List bw} {rs rs':List bo} {o o':OA} {c c':Nat} {qs qs':List FQ} {R R' R2 R2':Nat→Nat→Prop} {G:Nat→Prop}
theorem Lq.aa (h:Lq W w cb pb xb fb fpb fxb k md ps es rs R ps2 es2 o c qs R2) (hc:Ch ah w w'):Lq W w' cb pb xb fb fpb fxb k md ps es rs R ps2 es2 o c qs R2:=⟨h.st.aa hc,h.fc.aa hc,h.dj⟩
theorem Lq.prog (h:Lq W w cb pb xb fb fpb fxb k md ps es rs R ps2 es2 o c qs R2) (hS:St W w' cb pb xb k ey md ps' es' rs' R') (hG:KG w w' R R'):Lq W w' cb pb xb fb fpb fxb k md ps' es' rs' R' ps2 es2 o c qs R2:=by
 refine ⟨hS,h.fc.ze hG.ch (fun j i hi hm=>h.dj i (dz i hm) ⟨j,hi⟩) (fun i hi hm=>by have:=(h.st.lt i (dz i hm)).1;omega),fun i hi h2=>?_⟩
 rcases hG.g i hi with hi|hi
 ·exact h.dj i hi h2
 ·have:=(h.fc.lt i h2).2;have:=hi.1;omega
theorem Lq.ref (h:Lq W w cb pb xb fb fpb fxb k md ps es rs R ps2 es2 o c qs R2) (hF:pZ W w' fb fpb fxb k md ps2' es2' o' c' qs' R2') (hg:∀ i,de R2' i→Ext (de R2) w w' i) (hc:Ch (dt R2) w w'):Lq W w' cb pb xb fb fpb fxb k md ps es rs R ps2' es2' o' c' qs' R2':=by
 refine ⟨h.st.ze hc (fun j i hi hm=>h.dj i ⟨j,hi⟩ (dz i hm)) (fun i hi hm=>by have:=(h.fc.lt i (dz i hm)).1;omega),hF,fun i hi h2=>?_⟩
 rcases hg i h2 with h2|h2
 ·exact h.dj i hi h2
 ·have:=(h.st.lt i hi).2;have:=h2.1;omega
theorem St.Mq (h:St W w cb pb xb k ey md ps es rs R):bh.Good k 1000 ps:=by
 obtain ⟨o,c,qs,h1,_⟩:=h.c
 exact h1.px.g
theorem Lw {n:Int} (h:¬ ff rs n<0):∃ (i:Nat) (_:i<rs.length),ff rs n=i:=by
 unfold ff at h ⊢
 by_cases hx:rs.findIdx (Ip n)<rs.length
 ·rw [if_pos hx];exact ⟨_,hx,rfl⟩
 ·rw [if_neg hx] at h;exact absurd (by decide) h
theorem Sw {pb xb:Nat} {FP FP' FI FI':Nat→Prop} (h:PX W w pb xb k B ps es FP FI) (e1:FP'=FP) (e2:FI'=FI):PX W w pb xb k B ps es FP' FI':=by rw [e1,e2];exact h
theorem St.data {N:Nat→Prop} (h:St W w cb pb xb k ey md ps es [] R) (hN:∀ i,N i→W.heap.size≤i∧i<w.heap.size∧∀ j,¬ R j i):St W w cb pb xb k ey md ps es [] (fun j i=>R j i∨(j=2∧N i)):=by
 obtain ⟨o,c,qs,hC,hq⟩:=h.c
 have hq:qs=[]:=List.map_eq_nil_iff.1 hq
 subst hq
 have e:∀ j,j≠2→(fun i=>R j i∨(j=2∧N i))=R j:=fun j hj=>by
  funext i
  exact propext ⟨fun hx=>hx.elim (fun x=>x) (fun x=>absurd x.1 hj),fun hx => .inl hx⟩
 refine ⟨⟨o,c,[],⟨⟨fun j i hi=>?_,fun j m a0 i hi hm=>?_⟩,fun j i hi=>?_,.inl hC.z,hC.blk,hC.own.mono (fun i _ hi => .inl hi),Sw hC.px (e 3 (by omega)) (e 4 (by omega)),hC.nd,fun q hq=>(by cases hq)⟩,rfl⟩,h.v,h.n,h.k⟩
 ·exact hi.elim (hC.fam.1 j i) (fun x=>(hN i x.2).2.1)
 ·rcases hi with hi|hi <;> rcases hm with hm|hm
  ·exact hC.fam.2 j m a0 i hi hm
  ·exact (hN i hm.2).2.2 j hi
  ·exact (hN i hi.2).2.2 m hm
  ·exact a0 (hi.1.trans hm.1.symm)
 ·exact hi.elim (hC.f j i) (fun x=>(hN i x.2).1)
theorem NB (h:(rs.map (·.ask.id)).Nodup) {i:Nat} (hi:i<rs.length):ff rs rs[i].ask.id=i:=by
 have:rs.findIdx (Ip rs[i].ask.id)=i:=by
  refine (List.findIdx_eq hi).2 ⟨beq_self_eq_true _,fun j hj=>?_⟩
  unfold Ip
  refine beq_eq_false_iff_ne.2 fun he=>?_
  have h2:=List.pairwise_iff_getElem.1 h j i (by rw [List.length_map];omega) (by rw [List.length_map];exact hi) hj
  rw [List.getElem_map (f:=fun r:bo=>r.ask.id),List.getElem_map (f:=fun r:bo=>r.ask.id)] at h2
  exact h2 he
 unfold ff
 rw [this,if_pos hi]
theorem St.of {G:Nat→Prop} (h:St W w cb pb xb k ey md ps es rs R) {vs:List Int} {vo:OA} (hr:Rd w vo (vs.map (.int .i64)) G) (hl:vs.length≤1000) (vc:Nat):Calls Tryz.prog rG #[.pointer (some ⟨cb,0,none⟩),.slice vo vs.length vc] w (bc fun v w'=>IV w' v (qJ vs rs) (db w w')∧Ch ah w w'):=by
 obtain ⟨o,c,qs,hC,hq⟩:=h.c
 have hn:=h.n
 have a0:qs.length=rs.length:=by rw [← hq];simp
 have:=PK hC (by omega) hr (by omega) vc
 rw [hq] at this
 exact this
theorem QV (h:St W w cb pb xb k ey md ps es rs R) {i:Nat} (hi:i<rs.length):rs[i].said=(gk ey md rs[i].ask).take (rs[i].done+1-rs[i].ask.ai.length):=by
 have a0:=(h.v.run _ (List.getElem_mem hi)).2.1
 have h1:rs[i].said=(gk ey md rs[i].ask).take rs[i].said.length:=a0.sd
 rw [a0.sl] at h1
 exact h1
theorem Lq.pick (h:Lq W w cb pb xb fb fpb fxb k md ps es rs R ps es o c qs R2) (hq:qs.map (·.2)=rs) (hm:∀ v,Md ey (md v)) (a0:md.vm≤2147483647) {i:Nat} (hi:i<rs.length) {s:Cu} (hs:lz i (es.length+rs.length+1) ⟨ps,es,rs,[],true⟩=s) {cr:Cr} {t:sx} (ht:tI rs[i].ask.id i s=(cr,t)) {m:Nat} (hL:JG ey md i rs cr t m)
  {w1:World} {R1:Nat→Nat→Prop} (h1:Lq W w1 cb pb xb fb fpb fxb k md cr.ps cr.es cr.rs R1 ps es o c qs R2) :
  Calls Tryz.prog me #[.pointer (some ⟨fb,0,none⟩),.int .i64 i] w1 (bc (LM W w1 fb fpb fxb k md R2 cr t)):=by
 have hk:=h.st.k
 have a1:=h.st.GV
 have hn:=h.st.n
 exact KF h1.fc h.st.Mq (by omega) (by omega) hm a0 hq h.st.v.inv (fun r hr=>⟨(h.st.v.run r hr).1,(h.st.v.run r hr).2.1⟩) (by omega) (by omega) hi hs ht hL h1.st.v
end
end Go.Proofs.YtkbikekbaboclaaGreat.fo
namespace Go.Proofs.YtkbikekbaboclaaGreat.fo
open Go Go.Proofs V Vc Step bh dh ee fv qn Go.RowKit
open gm (da di dl ik gq)
theorem PA {w2:World} {q0 q1:Nat × ByteArray} {n:Nat} (a7:PU w2 n [q0,q1]) {K:World→World→Prop}
  (hK:∀ w3 w6,Ch ah w2 w6→ba w6 w2.heap.size [CQ q0,CQ q1] 25→PU w6 n [q0,q1]→ba w6 w3.heap.size (sg q0.2++sg q1.2) 30→w2.heap.size<w3.heap.size→K w3 w6) :
  ∀ w3:World,w3=w2.alloc (.cells #[QH,QH] 25 (0,0))→∀ w4:World,w4=w3.alloc (.cells (zM++zM).toArray 30 (0,0)) →
   (dr w4 ⟨w2.heap.size,0,none⟩∧dr w4 ⟨w2.heap.size,1,none⟩)∧∀ w5:World,w5=w4.setCells w2.heap.size 0 [CQ q0,CQ q1] →
   (dr w5 ⟨w3.heap.size,0,none⟩∧dr w5 ⟨w3.heap.size,1,none⟩∧dr w5 ⟨w3.heap.size,2,none⟩∧dr w5 ⟨w3.heap.size,3,none⟩∧dr w5 ⟨w3.heap.size,4,none⟩∧dr w5 ⟨w3.heap.size,5,none⟩∧dr w5 ⟨w3.heap.size,6,none⟩∧dr w5 ⟨w3.heap.size,7,none⟩∧dr w5 ⟨w3.heap.size,8,none⟩∧dr w5 ⟨w3.heap.size,9,none⟩∧dr w5 ⟨w3.heap.size,10,none⟩∧dr w5 ⟨w3.heap.size,11,none⟩∧dr w5 ⟨w3.heap.size,12,none⟩∧dr w5 ⟨w3.heap.size,13,none⟩) ∧
   ∀ w6:World,w6=w5.setCells w3.heap.size 0 (sg q0.2++sg q1.2)→K w3 w6:=by
 intro w3 e3 w4 e4
 have a5:=ba.new e3
 have a4:=a5.alloc e4
 have a6:=ba.new e4
 have a8:=a5.lt
 have b3:=a6.lt
 refine ⟨⟨a4.ok 0 rfl,a4.ok 1 rfl⟩,fun w5 e5=>?_⟩
 have a9:=a4.all [CQ q0,CQ q1] rfl e5
 have a1:Ch (·=w2.heap.size) w4 w5:=Ch.fr e5 rfl
 have a0:=a6.af a1 (by omega)
 refine ⟨⟨a0.ok 0 rfl,a0.ok 1 rfl,a0.ok 2 rfl,a0.ok 3 rfl,a0.ok 4 rfl,a0.ok 5 rfl,a0.ok 6 rfl,a0.ok 7 rfl,a0.ok 8 rfl,a0.ok 9 rfl,a0.ok 10 rfl,a0.ok 11 rfl,a0.ok 12 rfl,a0.ok 13 rfl⟩,fun w6 e6=>?_⟩
 have a2:Ch (·=w3.heap.size) w5 w6:=Ch.fr e6 rfl
 have b2:=a0.all (sg q0.2++sg q1.2) rfl e6
 have a3:Ch ah w2 w6:=((((Ch.alloc (F:=ah) e3).ag (Ch.alloc e4))).trans a1 (fun i hi he=>by omega)).trans a2 (fun i hi he=>by omega)
 exact hK w3 w6 a3 (a9.af a2 (by omega)) (a7.aa a3) b2 a8
section
variable {W w:World} {fb pb xb k:Nat} {md:rY} {ps:List ak} {es:List bw} {o:OA} {c:Nat} {qs:List FQ} {R:Nat→Nat→Prop}
theorem pZ.c1 (h:pZ W w fb pb xb k md ps es o c qs R):w.cell? ((⟨fb,0,none⟩:Addr).add 1)=some (.pointer (some ⟨pb,0,none⟩)):=by rw [eh];exact h.blk.cell 1 rfl
theorem pZ.c2 (h:pZ W w fb pb xb k md ps es o c qs R):w.cell? ((⟨fb,0,none⟩:Addr).add 2)=some (.pointer (some ⟨xb,0,none⟩)):=by rw [eh];exact h.blk.cell 2 rfl
theorem pZ.c3 (h:pZ W w fb pb xb k md ps es o c qs R):w.cell? ((⟨fb,0,none⟩:Addr).add 3)=some (.slice o qs.length c):=by rw [eh];exact h.blk.cell 3 rfl
end
structure Ox (w:World) (R:Nat→Nat→Prop) (bA bM:Nat) (q0 q1:Nat × ByteArray):Prop where
 a:ba w bA [CQ q0,CQ q1] 25
 m:ba w bM (sg q0.2++sg q1.2) 30
 br:∀ q∈[q0,q1],yn w q.1 ey q.2
 r:R 2 bA∧R 2 bM∧∀ q∈[q0,q1],R 2 q.1
def EX (W w:World) (cb pb xb fb fpb fxb k:Nat) (md:rY) (bA bM:Nat) (q0 q1:Nat × ByteArray) (xs:List (Nat × List Value × Nat)):Prop :=
 ∃ (ps:List ak) (es:List bw) (rs:List bo) (R:Nat→Nat→Prop) (o:OA) (c:Nat) (qs:List FQ) (R2:Nat→Nat→Prop),Lq W w cb pb xb fb fpb fxb k md ps es rs R ps es o c qs R2∧qs.map (·.2)=rs∧Ox w R bA bM q0 q1∧∀ x∈xs,ba w x.1 x.2.1 x.2.2∧¬ de R x.1∧¬ de R2 x.1
section
variable {W w w' w1:World} {cb pb xb fb fpb fxb k bA bM b T:Nat} {md:rY} {ps ps' ps2 ps2':List ak} {es es' es2 es2':List bw} {rs rs':List bo} {o o':OA} {c c':Nat} {qs qs':List FQ} {R R' R2 R2':Nat→Nat→Prop} {q0 q1:Nat × ByteArray} {vs:List Value}
theorem Ox.aa (h:Ox w R bA bM q0 q1) (hc:Ch ah w w'):Ox w' R bA bM q0 q1:=⟨h.a.aa hc,h.m.aa hc,fun q hq=>(h.br q hq).aa hc,h.r⟩
theorem Ox.prog (h:Ox w R bA bM q0 q1) (hS:St W w cb pb xb k ey md ps es rs R) (hG:KG w w' R R'):Ox w' R' bA bM q0 q1 :=
 ⟨h.a.af hG.ch (hS.Bz _ h.r.1),h.m.af hG.ch (hS.Bz _ h.r.2.1),fun q hq=>(h.br q hq).af hG.ch (hS.Bz _ (h.r.2.2 q hq)),hG.two _ h.r.1,hG.two _ h.r.2.1,fun q hq=>hG.two _ (h.r.2.2 q hq)⟩
theorem Ox.ref (h:Ox w R bA bM q0 q1) (hT:Lq W w cb pb xb fb fpb fxb k md ps es rs R ps2 es2 o c qs R2) (hc:Ch (dt R2) w w'):Ox w' R bA bM q0 q1 :=
 have n:∀ i,R 2 i→¬ dt R2 i:=fun i hi hm=>hT.dj i ⟨2,hi⟩ (dz i hm)
 ⟨h.a.af hc (n _ h.r.1),h.m.af hc (n _ h.r.2.1),fun q hq=>(h.br q hq).af hc (n _ (h.r.2.2 q hq)),h.r⟩
theorem AN (hb:ba w b vs T) (h1:¬ de R b) (hG:KG w w' R R'):ba w' b vs T∧¬ de R' b :=
 ⟨hb.af hG.ch (fun hm=>h1 (dz b hm)),fun hx=>(hG.g b hx).elim h1 (fun k=>by have:=k.1;have:=hb.lt;omega)⟩
theorem Dr (hb:ba w b vs T) (h1:¬ de R2 b) (hg:∀ i,de R2' i→Ext (de R2) w w' i) (hc:Ch (dt R2) w w'):ba w' b vs T∧¬ de R2' b :=
 ⟨hb.af hc (fun hm=>h1 (dz b hm)),fun hx=>(hg b hx).elim h1 (fun k=>by have:=k.1;have:=hb.lt;omega)⟩
end
theorem St.SK {W w:World} {cb pb xb k:Nat} {md md':rY} {R:Nat→Nat→Prop} (h:St W w cb pb xb k ey md (List.replicate k qD) [] [] R):St W w cb pb xb k ey md' (List.replicate k qD) [] [] R:=⟨h.c,sb.empty k,h.n,h.k⟩
end Go.Proofs.YtkbikekbaboclaaGreat.fo
