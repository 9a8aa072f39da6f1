import Derived.Test.YtkbikekbaboclaaGreatPkF
set_option linter.unusedVariables false
set_option linter.unusedSimpArgs false
namespace Go.Proofs.YtkbikekbaboclaaGreat.fo
open Go Go.Proofs V Vc Step bh dh ee fv qn Go.RowKit
open gm (da di dl ik gq ny)
section
variable {W w w' w1 w2:World} {fb pb xb k:Nat} {B:Int} {md:rY} {ps ps':List ak} {es es':List bw} {o o':OA} {c c' n:Nat} {qs qs':List FQ} {q:FQ} {R R':Nat→Nat→Prop} {F G D:Nat→Prop} {wt:ByteArray}
def Tu (W w w':World) (fb pb xb k:Nat) (md:rY) (ps:List ak) (es:List bw) (o:OA) (c:Nat) (qs:List FQ) (R:Nat→Nat→Prop) (a:da) (d:Nat) (rb:Nat):Prop :=
 ∃ (g:Tq) (R1:Nat→Nat→Prop),pZ W w' fb pb xb k md (mo ps (bz es a.ver a.ai).2) (bz es a.ver a.ai).1 o c qs R1∧ba w' rb (pf md (g,{ gp ey (md a.ver) a (bz es a.ver a.ai).2 with done:=d })) bp∧Kf w' md (g,gp ey (md a.ver) a (bz es a.ver a.ai).2) (fun i=>i<W.heap.size∨R1 2 i) ∧
  (∀ i,de R1 i→i≠rb)∧w.heap.size≤rb∧(∀ i,R 2 i→R1 2 i)∧(∀ i,de R1 i→Ext (de R) w w' i)∧Ch (dt R) w w'
set_option maxHeartbeats 4000000 in
theorem LG {a:da × di} (h:pZ W w fb pb xb k md ps es o c qs R) (hg:bh.Good k B ps) (hk:k≤1000) (hB:0≤B∧B≤1000000000) (hn:qs.length≤100) (j7:es.length<1000) (m:Md ey wt) (g7:1≤a.1.ver∧a.1.ver≤2147483647→wt=md a.1.ver) (ha:lk W a (fun i=>i<W.heap.size)) :
  Calls Tryz.prog rr #[.pointer (some ⟨fb,0,none⟩),.agg (sg wt).toArray,.agg (dl a).toArray] w (bc fun v w'=>v = .int .i64 (fm ey k (qs.map (·.2)) a.1)∧∃ (ps':List ak) (es':List bw) (o':OA) (c':Nat) (qs':List FQ) (R':Nat→Nat→Prop),pZ W w' fb pb xb k md ps' es' o' c' qs' R'∧(∀ i,R 2 i→R' 2 i)∧(∀ i,de R' i→Ext (de R) w w' i)∧Ch (dt R) w w' ∧
   (fm ey k (qs.map (·.2)) a.1≠0→ps'=ps∧es'=es∧qs'=qs)∧(fm ey k (qs.map (·.2)) a.1=0→ps'=mo ps (bz es a.1.ver a.1.ai).2∧es'=(bz es a.1.ver a.1.ai).1∧qs'.map (·.2)=qs.map (·.2)++[gp ey (md a.1.ver) a.1 (bz es a.1.ver a.1.ai).2])):=by
 refine sV.calls _ _ _ _ _ _ _ _ _ _ _ _ _ _ _ _ _ ?_
 unfold Vm.A9 Vm.B Vm.B1 Vm.B2 Vm.B7 Vm.C Vm.C3 Vm.C6 Vm.D Vm.D5 Vm.E Vm.E8 Vm.F0 Vm.F4 Vm.G3 Vm.G9 Vm.I7 Vm.I8 Vm.I9 Vm.K8 Vm.M Vm.O3 Vm.W Vm.Y;dsimp only
 intro w1 e1 w2 e2
 have d1:ba w2 w.heap.size (sg wt) 29:=(ba.new e1).alloc e2
 have d5:ba w2 w1.heap.size (dl a) 74:=ba.new e2
 have d6:Ch ah w w2:=(Ch.alloc e1).ag (Ch.alloc e2)
 have s1:w.heap.size<w1.heap.size:=(ba.new e1).lt
 have s2:w1.heap.size<w2.heap.size:=d5.lt
 clear e1 e2
 have no:∀ {w'},Ch ah w w'→∀ z:Int,fm ey k (qs.map (·.2)) a.1=z→z≠0→(Value.int IntKind.i64 z = .int .i64 (fm ey k (qs.map (·.2)) a.1)∧∃ (ps':List ak) (es':List bw) (o':OA) (c':Nat) (qs':List FQ) (R':Nat→Nat→Prop),pZ W w' fb pb xb k md ps' es' o' c' qs' R'∧(∀ i,R 2 i→R' 2 i)∧(∀ i,de R' i→Ext (de R) w w' i)∧Ch (dt R) w w' ∧
   (fm ey k (qs.map (·.2)) a.1≠0→ps'=ps∧es'=es∧qs'=qs)∧(fm ey k (qs.map (·.2)) a.1=0→ps'=mo ps (bz es a.1.ver a.1.ai).2∧es'=(bz es a.1.ver a.1.ai).1∧qs'.map (·.2)=qs.map (·.2)++[gp ey (md a.1.ver) a.1 (bz es a.1.ver a.1.ai).2])):=fun hc z hz h0=>by
  refine ⟨by rw [hz],ps,es,o,c,qs,R,h.aa hc,fun i hi=>hi,fun i hi => .inl hi,hc.any,fun _=>⟨rfl,rfl,rfl⟩,fun hx=>absurd (hz.symm.trans hx) h0⟩
 have d7:rJ ey k a.1=false→fm ey k (qs.map (·.2)) a.1=1:=fun hx=>by unfold fm;rw [if_pos hx]
 have d8:¬ (BM ey k a.1=0∧1≤a.1.ver∧a.1.ver≤2147483647)→rJ ey k a.1=false:=fun hx=>by
  cases hy:rJ ey k a.1 with
  | false=>rfl
  | true=>exact absurd ((Kk k a.1).2 hy) hx
 refine ⟨fun w'=>Ch ah w2 w',fun w3 e3=>⟨Ch.drew e3,_,_,_,_,_,_,_,⟨fun w' k=>(d1.aa k).cell 0 rfl,fun w' k=>(d1.aa k).cell 1 rfl,fun w' k=>(d1.aa k).cell 2 rfl,fun w' k=>(d1.aa k).cell 3 rfl,fun w' k=>(d1.aa k).cell 4 rfl,fun w' k=>(d1.aa k).cell 5 rfl,fun w' k=>(d1.aa k).cell 6 rfl⟩,_,fun w' k=>((h.aa d6).aa k).blk.cell 0 rfl,_,_,_,_,_,_,_,_,_,⟨fun w' k=>(d5.aa k).cell 0 rfl,fun w' k=>(d5.aa k).cell 1 rfl,fun w' k=>(d5.aa k).cell 2 rfl,fun w' k=>(d5.aa k).cell 3 rfl,fun w' k=>(d5.aa k).cell 4 rfl⟩,?_⟩⟩
 have a5:Ch ah w2 w3:=Ch.drew e3
 refine ab (Nr (q:=a) m ((ha.aa h.ch).aa (d6.ag a5)) k) ?_
 rintro v w7 ⟨rfl,g8⟩
 have a2:=a5.ag g8
 have a6:=d6.ag a2
 have d9:=d5.aa a2
 have e0:=d1.aa a2
 refine ⟨_,rfl,a2,fun hx=>?_,fun d2=>?_⟩
 ·exact no a6 1 (d7 (d8 (fun hy=>by rw [hy.1] at hx;exact absurd hx (by decide)))) (by decide)
 have d2:BM ey k a.1=0:=by simpa using d2
 refine ⟨_,d9.cell 1 rfl,a2,fun hx=>?_,fun j8=>⟨_,d9.cell 1 rfl,a2,fun hx=>?_,fun j9=>?_⟩⟩
 ·exact no a6 1 (d7 (d8 (fun hy=>by have:=dQt hx;omega))) (by decide)
 ·exact no a6 1 (d7 (d8 (fun hy=>by have:=dQt hx;omega))) (by decide)
 have j8:=dQf j8
 have j9:=dQf j9
 have l1:=(Kk k a.1).1 ⟨d2,by omega,by omega⟩
 have b7:¬ rJ ey k a.1=false:=by rw [l1];decide
 have h7:=h.aa a6
 refine ⟨_,d9.cell 0 rfl,ab (JQ h7 (by omega) a.1.id) ?_⟩
 rintro v w8 ⟨rfl,rfl⟩
 refine ⟨_,rfl,fun hx=>?_,fun hx=>?_⟩
 ·exact no a6 9 (by unfold fm;rw [if_neg b7,if_pos (dQt hx)]) (by decide)
 have hx:=dQf hx
 refine ⟨_,_,_,h7.blk.cell 3 rfl,fun hl=>?_,fun hl=>?_⟩
 ·exact no a6 10 (by unfold fm;rw [if_neg b7,if_neg hx,if_pos (by have:=dQt hl;rw [List.length_map];omega)]) (by decide)
 have hl:=dQf hl
 have hz:fm ey k (qs.map (·.2)) a.1=0:=by unfold fm;rw [if_neg b7,if_neg hx,if_neg (by rw [List.length_map];omega)]
 rw [hz]
 clear no
 have g7:=g7 ⟨by omega,by omega⟩
 have h8:=h7
 have f6:rI.mh ey a.1.most a.1.ai=0:=by
  unfold BM at d2
  split at d2
  ·cases d2
  ·split at d2
   ·rename_i e4;exact absurd d2 e4
   ·rename_i e4;exact Classical.not_not.1 e4
 have k0:=ha
 obtain ⟨⟨l2,l3,m8,m9⟩,g9,l4,l5,l6⟩:=ha.aa (h.ch.ag a6)
 refine ⟨_,_,_,_,_,_,_,⟨e0.cell 0 rfl,e0.cell 1 rfl,e0.cell 2 rfl,e0.cell 3 rfl,e0.cell 4 rfl,e0.cell 5 rfl,e0.cell 6 rfl⟩,_,_,_,d9.cell 2 rfl,_,d9.cell 3 rfl,_,_,_,d9.cell 4 rfl,?_⟩
 refine ab (rI.ME (ts:=a.1.ai) (draws:=a.1.draws) m ⟨_,_,rfl,g9,l4,l2⟩ ⟨_,_,rfl,l5,l6,l3⟩ (by omega) (by omega) a.1.most false) ?_
 rintro v w9 k1
 obtain ⟨u,rfl,hu⟩:=k1.yes f6
 have hu:IV w9 u (gk ey md a.1) (db w8 w9):=by
  have:gk ey md a.1=rI.LL ey wt (rI.SR false a.1.draws) a.1.most a.1.ai:=by rw [g7];rfl
  rw [this];exact hu
 have k2:=hu
 obtain ⟨uo,uc,rfl,_,_,_⟩:=hu
 have b8:=k1.ch
 have n0:=b8.size
 have n1:=a6.size
 have e5:=d9.aa b8
 have nA:∀ j,¬ R j w1.heap.size:=fun j hj=>by have:=h.fam.1 j _ hj;omega
 have e6:¬ (R 4 w1.heap.size∨R 3 w1.heap.size):=fun hx=>hx.elim (nA 4) (nA 3)
 have l7:¬ (R 4 fb∨R 3 fb):=fun hx=>hx.elim (h.fam.2 0 4 (by omega) fb h.z) (h.fam.2 0 3 (by omega) fb h.z)
 have h9:=h8.aa b8
 have l8:(bz es a.1.ver a.1.ai).2.length≤1000:=by
  have:=(tu a.1.ver a.1.ai a.1.ai.length 4 es []).2
  have h2:(bz es a.1.ver a.1.ai).2.length≤([]:List Int).length+a.1.ai.length:=this
  simp at h2;omega
 refine ⟨_,_,_,_,rfl,fun r w'=>∃ rb:Nat,r=⟨rb,0,none⟩∧Tu W w8 w' fb pb xb k md ps es o c qs R a.1 0 rb,?_,?_⟩
 ·refine ⟨fun w'=>Ch (fun i=>R 4 i∨R 3 i) w9 w',fun c7 h3=>⟨Ch.drew h3,_,_,_,_,_,_,_,_,_,⟨fun w' k=>(e5.af k e6).cell 0 rfl,fun w' k=>(e5.af k e6).cell 1 rfl,fun w' k=>(e5.af k e6).cell 2 rfl,fun w' k=>(e5.af k e6).cell 3 rfl,fun w' k=>(e5.af k e6).cell 4 rfl⟩,_,fun w' k=>(h9.blk.af k l7).cell 2 rfl,_,fun w' k=>(e5.af k e6).cell 1 rfl,_,_,_,fun w' k=>(e5.af k e6).cell 2 rfl,?_⟩⟩
  have a3:Ch ah w9 c7:=Ch.drew h3
  have l9:w9.heap.size=c7.heap.size:=by subst h3;rfl
  refine ⟨?_,?_,trivial⟩
  ·obtain ⟨D,h4⟩:=(h9.aa a3).x
   refine ab (CI h4 (xS hg) hk hB j7 k0.1.1 (by omega) g9 a.1.ver) ?_
   rintro v a9 ⟨oA,oC,FO,FU,F',D',rfl,hO,c8,apF,apU,hX,hU,hI,a4⟩
   have e7:Ch ah w8 c7:=b8.ag a3
   have b9:=a3
   obtain ⟨rb,d3⟩:∃ n,a9.heap.size=n:=⟨_,rfl⟩
   have a7:∀ i,de R i→i≠rb:=fun i hi he=>by have:=(h8.lt i hi).2;have:=a4.size;omega
   have e8:RX W a9 pb xb (sk (mo ps (bz es a.1.ver a.1.ai).2)) (bz es a.1.ver a.1.ai).1 FU F' D':=by rw [← Gy];exact hX
   have m0:=a4.size
   have h5:Ch (fun i=>R 4 i∨R 3 i) w8 a9:=e7.any.same a4
   obtain ⟨R1,f7,f8,f3,f4,f5,e9⟩:=h8.sa (N:=fun i=>db w8 w9 i∨FO i) e8 (fun i hi=>(hU i hi).imp id (fun k=>⟨by have:=k.1;omega,k.2⟩)) (fun i hi=>(hI i hi).imp id (fun k=>⟨by have:=k.1;omega,k.2⟩)) h5 (fun i hi=>hi.elim (fun k=>⟨k.1,by have:=k.2;omega⟩) (fun k=>⟨by have:=(c8 i k).1;omega,(c8 i k).2⟩))
    (fun i hi hu=>hi.elim (fun k=>by
     rcases hU i hu with h1|h1
     ·have:=h8.fam.1 3 i h1;have:=k.1;omega
     ·have:=h1.1;have:=k.2;omega) (fun k=>apU i k hu))
    (fun i hi hu=>hi.elim (fun k=>by
     rcases hI i hu with h1|h1
     ·have:=h8.fam.1 4 i h1;have:=k.1;omega
     ·have:=h1.1;have:=k.2;omega) (fun k=>apF i k hu))
   have c0:IV a9 (.slice uo (gk ey md a.1).length uc) (gk ey md a.1) (fun i=>i<W.heap.size∨R1 2 i) :=
    ((k2.aa b9).af a4 (fun i _ hi hg=>by
     have:=hi.1
     rcases hg with hg|hg
     ·have:=h8.fam.1 4 i hg;omega
     ·have:=h8.fam.1 3 i hg;omega)).mono (fun i _ hi => .inr (f8 i (.inl hi)))
   have c4:IV a9 (.slice oA (bz es a.1.ver a.1.ai).2.length oC) (bz es a.1.ver a.1.ai).2 (fun i=>i<W.heap.size∨R1 2 i):=(Own.iv hO).mono (fun i _ hi => .inr (f8 i (.inr hi)))
   have f0:lk a9 a (fun i=>i<W.heap.size∨R1 2 i):=(ha.aa f7.ch).mono (fun i _ hi => .inl hi)
   have b4:∀ i,de R1 i→i≠rb:=fun i hi he=>by
    rcases e9 i hi with h1|h1|h1|h1|h1
    ·exact a7 i h1 he
    ·rcases hU i h1 with h2|h2
     ·exact a7 i ⟨3,h2⟩ he
     ·have:=h2.1;have:=h2.2;omega
    ·rcases hI i h1 with h2|h2
     ·exact a7 i ⟨4,h2⟩ he
     ·have:=h2.1;have:=h2.2;omega
    ·have:=h1.1;have:=h1.2;omega
    ·have:=(c8 i h1).1;have:=(c8 i h1).2;omega
   have b6:Ch (fun i=>R 4 i∨R 3 i) w9 a9:=a3.any.same a4
   refine ⟨_,_,_,rfl,b6,fun m1 h6=>⟨b6.ag (Ch.alloc h6),?_⟩⟩
   have b2:ba m1 a9.heap.size RO bp:=ba.new h6
   refine ⟨⟨b2.ok 0 rfl,b2.ok 1 rfl,b2.ok 2 rfl,b2.ok 3 rfl,b2.ok 4 rfl,b2.ok 5 rfl,b2.ok 6 rfl,b2.ok 7 rfl⟩,fun i0 i1=>?_⟩
   obtain ⟨c9,a0⟩:=Jm (md:=md) (q:=(⟨a.2,uo,uc,oA,oC⟩,{ gp ey (md a.1.ver) a.1 (bz es a.1.ver a.1.ai).2 with done:=0 })) h6 i1
   exact ⟨b6.ag a0,rb,by rw [d3],⟨a.2,uo,uc,oA,oC⟩,R1,f7.aa a0,by rw [d3] at c9;exact c9,⟨f0.aa a0,c0.aa a0,c4.aa a0⟩,b4,by omega,f3,fun i hi=>(f4 i hi).imp id (fun k=>⟨k.1,by have:=k.2;have:=a0.size;omega⟩),f5.ag a0⟩
  ·intro g5 k3
   have f9:ba g5 c7.heap.size RO bp:=ba.new k3
   have n2:=f9.lt
   have b5:Ch ah c7 g5:=Ch.alloc k3
   refine ⟨(a3.ag b5).any,?_⟩
   obtain ⟨D,i2⟩:=((h9.aa a3).aa b5).x
   refine ab (CI i2 (xS hg) hk hB j7 k0.1.1 (by omega) g9 a.1.ver) ?_
   rintro v a9 ⟨oA,oC,FO,FU,F',D',rfl,hO,c8,apF,apU,hX,hU,hI,a4⟩
   have b9:Ch ah w9 g5:=a3.ag b5
   have e7:Ch ah w8 g5:=b8.ag b9
   obtain ⟨rb,d3⟩:∃ n,c7.heap.size=n:=⟨_,rfl⟩
   have a7:∀ i,de R i→i≠rb:=fun i hi he=>by have:=(h8.lt i hi).2;omega
   have e8:RX W a9 pb xb (sk (mo ps (bz es a.1.ver a.1.ai).2)) (bz es a.1.ver a.1.ai).1 FU F' D':=by rw [← Gy];exact hX
   have m0:=a4.size
   have h5:Ch (fun i=>R 4 i∨R 3 i) w8 a9:=e7.any.same a4
   obtain ⟨R1,f7,f8,f3,f4,f5,e9⟩:=h8.sa (N:=fun i=>db w8 w9 i∨FO i) e8 (fun i hi=>(hU i hi).imp id (fun k=>⟨by have:=k.1;omega,k.2⟩)) (fun i hi=>(hI i hi).imp id (fun k=>⟨by have:=k.1;omega,k.2⟩)) h5 (fun i hi=>hi.elim (fun k=>⟨k.1,by have:=k.2;omega⟩) (fun k=>⟨by have:=(c8 i k).1;omega,(c8 i k).2⟩))
    (fun i hi hu=>hi.elim (fun k=>by
     rcases hU i hu with h1|h1
     ·have:=h8.fam.1 3 i h1;have:=k.1;omega
     ·have:=h1.1;have:=k.2;omega) (fun k=>apU i k hu))
    (fun i hi hu=>hi.elim (fun k=>by
     rcases hI i hu with h1|h1
     ·have:=h8.fam.1 4 i h1;have:=k.1;omega
     ·have:=h1.1;have:=k.2;omega) (fun k=>apF i k hu))
   have c0:IV a9 (.slice uo (gk ey md a.1).length uc) (gk ey md a.1) (fun i=>i<W.heap.size∨R1 2 i) :=
    ((k2.aa b9).af a4 (fun i _ hi hg=>by
     have:=hi.1
     rcases hg with hg|hg
     ·have:=h8.fam.1 4 i hg;omega
     ·have:=h8.fam.1 3 i hg;omega)).mono (fun i _ hi => .inr (f8 i (.inl hi)))
   have c4:IV a9 (.slice oA (bz es a.1.ver a.1.ai).2.length oC) (bz es a.1.ver a.1.ai).2 (fun i=>i<W.heap.size∨R1 2 i):=(Own.iv hO).mono (fun i _ hi => .inr (f8 i (.inr hi)))
   have f0:lk a9 a (fun i=>i<W.heap.size∨R1 2 i):=(ha.aa f7.ch).mono (fun i _ hi => .inl hi)
   have b4:∀ i,de R1 i→i≠rb:=fun i hi he=>by
    rcases e9 i hi with h1|h1|h1|h1|h1
    ·exact a7 i h1 he
    ·rcases hU i h1 with h2|h2
     ·exact a7 i ⟨3,h2⟩ he
     ·have:=h2.1;have:=h2.2;omega
    ·rcases hI i h1 with h2|h2
     ·exact a7 i ⟨4,h2⟩ he
     ·have:=h2.1;have:=h2.2;omega
    ·have:=h1.1;have:=h1.2;omega
    ·have:=(c8 i h1).1;have:=(c8 i h1).2;omega
   have b6:Ch (fun i=>R 4 i∨R 3 i) w9 a9:=b9.any.same a4
   have nrb:¬ (R 4 c7.heap.size∨R 3 c7.heap.size):=fun hx=>hx.elim (fun hx=>a7 _ ⟨4,hx⟩ d3) (fun hx=>a7 _ ⟨3,hx⟩ d3)
   have a8:=f9.af a4 nrb
   refine ⟨_,_,_,rfl,b6,⟨a8.ok 0 rfl,a8.ok 1 rfl,a8.ok 2 rfl,a8.ok 3 rfl,a8.ok 4 rfl,a8.ok 5 rfl,a8.ok 6 rfl,a8.ok 7 rfl⟩,fun i0 i1=>?_⟩
   have g0:i0=a9.setCells c7.heap.size 0 (pf md (⟨a.2,uo,uc,oA,oC⟩,{ gp ey (md a.1.ver) a.1 (bz es a.1.ver a.1.ai).2 with done:=0 })):=i1
   have c9:=a8.all (pf md (⟨a.2,uo,uc,oA,oC⟩,{ gp ey (md a.1.ver) a.1 (bz es a.1.ver a.1.ai).2 with done:=0 })) rfl g0
   have a0:Ch (·=rb) a9 i0:=Ch.fr g0 d3
   have n3:=a0.size
   have i3:=f7.ze a0 (fun j i hi he=>b4 i ⟨j,hi⟩ he) (fun i hi he=>by have:=h.ch.size;omega)
   exact ⟨b6.trans a0 (fun i hi he=>by omega),rb,by rw [d3],⟨a.2,uo,uc,oA,oC⟩,R1,i3,by rw [← d3];exact c9,⟨f0.af a0 (fun i _ hi he=>hi.elim (fun hi=>by have:=h.ch.size;omega) (fun hi=>b4 i ⟨2,hi⟩ he)),c0.af a0 (fun i _ hi he=>hi.elim (fun hi=>by have:=h.ch.size;omega) (fun hi=>b4 i ⟨2,hi⟩ he)),c4.af a0 (fun i _ hi he=>hi.elim (fun hi=>by have:=h.ch.size;omega) (fun hi=>b4 i ⟨2,hi⟩ he))⟩,b4,by omega,f3,fun i hi=>(f4 i hi).imp id (fun k=>⟨k.1,by have:=k.2;omega⟩),f5.trans a0 (fun i hi he=>by omega)⟩
 ·rintro jk r k4 ⟨rb,rfl,g,R1,hR,hb,i4,e4,n4,f3,f4,f5⟩
  simp only [eh,Nat.zero_add]
  generalize n5:(bz es a.1.ver a.1.ai).2=pgs at hR hb i4 l8
  refine ⟨_,_,_,hb.cell 6 rfl,hb.ok 7 rfl,fun g6 i5=>?_⟩
  have m2:IntKind.i64.wrap (4*((pgs.length:Nat):Int))=((4*pgs.length:Nat):Int):=by rw [ae (by omega) (by omega)];omega
  have a1:=hb.set i5
  rw [show (gp ey (md a.1.ver) a.1 pgs).aj.length=pgs.length from rfl,m2] at a1
  obtain ⟨r,hr⟩:∃ r,r=gp ey (md a.1.ver) a.1 pgs:=⟨_,rfl⟩
  have a1:ba g6 rb (pf md (g,gp ey (md a.1.ver) a.1 pgs)) bp:=a1
  have c5:Ch (·=rb) k4 g6:=Ch.set i5 rfl
  have d0:=hR.ze c5 (fun j i hi he=>e4 i ⟨j,hi⟩ he) (fun i hi he=>by have:=h.ch.size;omega)
  have d4:=i4.af c5 (fun i _ hi he=>hi.elim (fun hi=>by have:=h.ch.size;omega) (fun hi=>e4 i ⟨2,hi⟩ he))
  rw [← hr] at a1 d4 ⊢
  clear hb i4 hR i5
  have nfb:¬ R1 1 fb:=fun hx=>d0.fam.2 0 1 (by omega) fb d0.z hx
  have nrb:¬ R1 1 rb:=fun hx=>e4 rb ⟨1,hx⟩ rfl
  have n6:=c5.size
  refine ⟨fun w'=>Ch (R1 1) g6 w',fun i6 k5=>⟨Ch.drew k5,_,_,_,fun w' k=>(d0.blk.af k nfb).cell 3 rfl,_,_,_,_,_,_,_,_,_,_,_,_,_,_,_,_,⟨fun w' k=>(a1.af k nrb).cell 0 rfl,fun w' k=>(a1.af k nrb).cell 1 rfl,fun w' k=>(a1.af k nrb).cell 2 rfl,fun w' k=>(a1.af k nrb).cell 3 rfl,fun w' k=>(a1.af k nrb).cell 4 rfl,fun w' k=>(a1.af k nrb).cell 5 rfl,fun w' k=>(a1.af k nrb).cell 6 rfl,fun w' k=>(a1.af k nrb).cell 7 rfl⟩,fun n7 k6=>?_⟩⟩
  have a5:Ch ah g6 i6:=Ch.drew k5
  have b3:=d0.aa a5
  have g1:=d4.aa a5
  obtain ⟨o',c',i7,i8,g2,a2⟩:=Own.push (news:=(pf md (g,r)).toArray) ki b3.own lc k6 rfl (List.all_eq_true.2 (Pb md (g,r))) (by unfold maxLen;omega) (by omega)
  refine ⟨(a5.ag (Ch.alloc k6)).any,o',_,c',i7,i8,a5.any.same a2,(b3.blk.af a2 nfb).ok 3 rfl,fun i9 j0=>?_⟩
  have g3:=(b3.blk.af a2 nfb).set j0
  have g4:Ch (·=fb) i7 i9:=Ch.set j0 rfl
  have k7:i9.heap.size=i7.heap.size:=by subst j0;simp [World.setCell]
  have j1:Ch (fun i=>R1 0 i∨R1 1 i) i6 i9:=(a2.mono (fun i _ hi => .inr hi)).same (g4.mono (fun i _ hi => .inl (hi▸b3.z)))
  have j2:((qs.map (pf md)).flatten++(pf md (g,r)).toArray.toList)=((qs++[(g,r)]).map (pf md)).flatten:=by simp
  rw [j2] at g2
  have j3:(qs++[(g,r)]).length=qs.length+1:=by simp
  have c6:=g2.af g4 (fun i _ hi he=>by
   rcases hi with hi|hi
   ·exact nfb (he▸hi)
   ·have:=hi.1;have:=b3.blk.lt;omega)
  rw [← j3] at c6 g3
  have m3:=b3.Bz
  obtain ⟨R2,j4,m5,j5,j6⟩:=b3.row (qs':=qs++[(g,r)]) (N:=ah) j1 (fun i _ hi=>hi) g3 c6 (fun i hi=>hi.imp id (fun k=>⟨k.1,by have:=k.2;omega⟩)) (fun i hi=>hi.elim) (fun i hi=>hi.elim) (fun q hq=>by
   rcases List.mem_append.1 hq with hq|hq
   ·exact .inl hq
   ·rw [List.mem_singleton] at hq
    subst hq
    exact .inr ((g1.af j1 (fun i _ hi hx=>m3 i hi (hx.elim (fun hx=>⟨0,by omega,hx⟩) (fun hx=>⟨1,by omega,hx⟩)))).mono (fun i _ hi=>hi.imp id .inl)))
  have k8:=(c5.ag a5).size
  have k9:=j1.size
  refine ⟨by first|trivial|rfl,_,_,_,_,_,R2,j4,fun i hi=>m5 i (f3 i hi),fun i hi=>?_,?_,fun hx=>(by first|exact absurd rfl hx|exact hx.elim|simp at hx),fun _=>⟨rfl,rfl,by rw [List.map_append,hr];rfl⟩⟩
  ·rcases j5 i hi with h1|h1
   ·rcases f4 i h1 with h1|h1
    ·exact .inl h1
    ·exact .inr ⟨by have:=h1.1;omega,by have:=h1.2;omega⟩
   ·exact .inr ⟨by have:=h1.1;have:=f5.size;omega,h1.2⟩
  ·have m6:Ch (dt R) w k4:=a6.any.same f5
   have m7:Ch (dt R) w i6:=(m6.trans c5 (fun i hi he=>by omega)).ag a5
   refine m7.trans j6 (fun i hi hm=>?_)
   rcases f4 i (dz i hm) with ⟨j,hj⟩|hx
   ·by_cases h2:j=2
    ·subst h2;exact absurd hm (b3.Bz i (.inr (f3 i hj)))
    ·exact ⟨j,h2,hj⟩
   ·have:=hx.1;omega
end
end Go.Proofs.YtkbikekbaboclaaGreat.fo
