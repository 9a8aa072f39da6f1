import Derived.Test.YtkbikekbaboclaaGreatPkC
set_option linter.unusedVariables false
set_option linter.unusedSimpArgs false
namespace Go.Proofs.YtkbikekbaboclaaGreat.fo
open Go Go.Proofs V Vc Step bh dh ee fv qn Go.RowKit
open gm (da di dl ik gq asks_one)
def uQ (ps:List ak) (r:bo):List gr:=ms ps r.aj
def tY (r:bo):Int:=r.dg.getD r.done 0
def qS (ps:List ak) (r:bo):gr:=nL r.c r.wt (uQ ps r) (tY r)
def Eg (ps:List ak) (r:bo):List Int:=uR r.c r.wt (uQ ps r) (tY r)
def du (r:bo):Int:=r.aj.getD (r.aj.length-1) 0
def ux (ps:List ak) (es:List bw) (r:bo):List ak:=if (r.done+1) % 4=0 then ul (sf ps (du r) (qS ps r)) es (du r) r.ask.ver (r.dg.take (r.done+1)) else sf ps (du r) (qS ps r)
def xD (ps:List ak) (es:List bw) (r:bo):List bw:=if (r.done+1) % 4=0 then zN (sf ps (du r) (qS ps r)) es (du r) r.ask.ver (r.dg.take (r.done+1)) else es
section
variable {W w w' w0:World} {cb pb xb k tb:Nat} {B B':Int} {ps ps':List ak} {es es':List bw} {o:OA} {c n:Nat} {qs:List (nq × bo)} {q:nq × bo} {R R' R0:Nat→Nat→Prop} {F G FP FI Fa TA:Nat→Prop} {xs ys:List Int}
theorem PX.SJ (h:PX W w pb xb k B ps es FP FI) {B':Int} (hr:dk w' pb ps' (Ext FP w w')) (hc:Ch FP w w') (hg:bh.Good k B' ps'):PX W w' pb xb k B' ps' es (Ext FP w w') FI :=
 ⟨h.p.ext hr hc,h.x.af hc (fun i _ hi hf=>h.ap i hi hf),hg,h.f.le hc.size,h.ap.Th h.f⟩
theorem Lc {cf:ep} {e:gr} (ok:tQ cf) (h:fy cf e):BW e:=by
 obtain ⟨⟨a1,a2⟩,b1,b2⟩:=h
 have h4:=ok.2.2.2.1
 have h2:=ok.2.1
 exact ⟨⟨by omega,fun r hr=>by have:=(a2 r hr).1;omega⟩,⟨by omega,fun r hr=>by have:=(b2 r hr).1;omega⟩⟩
set_option maxHeartbeats 4000000 in
theorem JP {i:Nat} (h:cn W w cb pb xb k B ps es o c qs R) (hk:k≤1000) (hB:0≤B∧B≤100000000) (hn:qs.length≤900) (p7:es.length<900) (hi:i<qs.length) (p8:0<qs[i].2.aj.length∧qs[i].2.aj.length≤900) (k0:qs[i].2.dg.length≤900)
  (hd:qs[i].2.done<qs[i].2.dg.length) (b6:∀ e∈uQ ps qs[i].2,fy qs[i].2.c e) (d4:qn.AU qs[i].2.c (tY qs[i].2)) (b7:((uQ ps qs[i].2).length:Int)<qs[i].2.c.context) :
  Calls Tryz.prog zF #[.pointer (some ⟨cb,0,none⟩),.pointer (some ⟨qs[i].1.rb,0,none⟩)] w (bc fun v w'=>∃ R':Nat→Nat→Prop,IV w' v (Eg ps qs[i].2) (fun j=>w.heap.size≤j∧j<w'.heap.size∧∀ m,¬ R' m j) ∧
   cn W w' cb pb xb k (B+1) (ux ps es qs[i].2) (xD ps es qs[i].2) o c (qs.set i (qs[i].1,{ qs[i].2 with done:=qs[i].2.done+1 })) R'∧(∀ j,de R' j→Ext (de R) w w' j)∧R' 2=R 2∧Ch (dt R) w w'):=by
 obtain ⟨rb,d3⟩:∃ rb,qs[i].1.rb=rb:=⟨_,rfl⟩
 have d5:=h.rn _ (List.getElem_mem hi)
 have g8:=h.br d5
 have ok:=g8.ok
 have f9:=d5.blk
 rw [d3] at f9
 have p9:=h.rn _ (List.getElem_mem hi)
 rw [d3]
 refine Cb.calls _ _ ?_
 unfold Vm.A0 Vm.B1 Vm.B3 Vm.B7 Vm.Br Vm.C Vm.C2 Vm.D Vm.D6 Vm.E2 Vm.E4 Vm.E6 Vm.N3 Vm.N7 Vm.P0 Vm.Y;dsimp only
 have m0:IntKind.i64.wrap ((qs[i].2.aj.length:Int)-1)=((qs[i].2.aj.length-1:Nat):Int):=by rw [ae (by omega) (by omega)];omega
 have hL:qs[i].2.aj.length-1<qs[i].2.aj.length:=by omega
 have d6:du qs[i].2=qs[i].2.aj[qs[i].2.aj.length-1]:=by unfold du;rw [List.getD_eq_getElem?_getD,List.getElem?_eq_getElem hL];rfl
 refine ⟨fun w'=>Ch ah w w',fun w1 e1=>⟨Ch.drew e1,_,_,_,fun w' k=>(f9.aa k).cell 6 rfl,_,_,_,fun w' k=>(f9.aa k).cell 6 rfl,?_⟩⟩
 rw [m0]
 refine ⟨⟨by omega,by omega⟩,Rd.keeps (S:=fun w'=>Ch ah w w') (enc:=Value.int .i64) (xs:=qs[i].2.aj) (fun w' k=>d5.pg.rd.aa k) (Ch.refl _ _) (j:=qs[i].2.aj.length-1) hL fun pp m1=>⟨_,fun w' k=>by rw [Int.toNat_natCast,Nat.mul_one];exact m1 w' k,?_⟩⟩
 rw [← d6]
 have g9:Ch ah w w1:=Ch.drew e1
 have m2:=d5.aa g9
 have q2:qs[i].2.said.length≤900:=by unfold bo.dg at k0;rw [List.length_append] at k0;omega
 have g0:=Cs m2 (by omega)
 rw [d3] at g0
 refine ab g0 ?_
 rintro v w5 ⟨k1,m3⟩
 have h0:=k1
 obtain ⟨to,tc,rfl,q3,q4,m5⟩:=k1
 have a2:=g9.ag m3
 have h5:=h.aa a2
 have h6:=f9.aa a2
 have q5:=a2.size
 refine ⟨_,_,_,rfl,?_⟩
 have d7:tY qs[i].2=qs[i].2.dg[qs[i].2.done]:=by unfold tY;rw [List.getD_eq_getElem?_getD,List.getElem?_eq_getElem hd];rfl
 have m6:=(HO ⟨ok,g8.sz⟩ b6 b7 d4).2
 have m7:BW (qS ps qs[i].2):=Lc ok m6
 -- behind the step
 refine ⟨fun e so sn sc w'=>∃ (eb:Nat) (p:Value × Value),e=⟨eb,0,none⟩∧ba w' eb [p.1,p.2] bj∧EV w' p (qS ps qs[i].2) (db w w')∧IV w' (.slice so sn sc) (Eg ps qs[i].2) (db w w')∧w.heap.size≤eb∧Ch ah w w'∧Ch ah w5 w',⟨fun w'=>Ch ah w5 w',fun w6 e6=>⟨Ch.drew e6,_,fun w' k=>(h6.aa k).cell 0 rfl,_,fun w' k=>(h5.blk.aa k).cell 0 rfl,_,_,_,fun w' k=>(h6.aa k).cell 6 rfl,_,fun w' k=>(h6.aa k).cell 7 rfl,⟨by omega,by omega⟩,?_⟩⟩,?_⟩
 ·refine Rd.keeps (S:=fun w'=>Ch ah w5 w') (enc:=Value.int .i64) (xs:=qs[i].2.dg) (fun w' k=>m5.aa k) (Ch.refl _ _) (j:=qs[i].2.done) hd fun tp m8=>⟨_,fun w' k=>by rw [Int.toNat_natCast,Nat.mul_one];exact m8 w' k,?_⟩
  rw [← d7]
  have d8:Ch ah w5 w6:=Ch.drew e6
  have m9:∀ p∈ps,p.es.length≤4:=fun p hp=>(h.px.g.pg p hp).2.2.2
  -- the step,wherever its entry's block is laid
  have stp:∀ (wa:World) (po:OA) (pn pc:Nat),Ch ah w5 wa→PV wa (.slice po pn pc) (uQ ps qs[i].2) (db w wa)→Calls Tryz.prog CN #[.pointer (some ⟨qs[i].1.bb,0,none⟩),.slice po pn pc,.int .i64 (tY qs[i].2)] wa (bc fun v w'=>∃ (o1:OA) (c1:Nat) (o2:OA) (c2:Nat) (so:OA) (sc:Nat),v = .tuple #[.agg #[.slice o1 (qS ps qs[i].2).1.length c1,.slice o2 (qS ps qs[i].2).2.length c2],.slice so (Eg ps qs[i].2).length sc,.int .i64 0]∧EV w' (.slice o1 (qS ps qs[i].2).1.length c1,.slice o2 (qS ps qs[i].2).2.length c2) (qS ps qs[i].2) (db wa w')∧IV w' (.slice so (Eg ps qs[i].2).length sc) (Eg ps qs[i].2) (db wa w')∧Ch ah wa w'):=fun wa po pn pc g1 n0=>by
   refine ab (MZ (g8.aa (a2.ag g1)) n0 (tY qs[i].2)) ?_
   rintro v w' hR
   obtain ⟨p,sv,rfl,hE,hS⟩:=hR.yes b6 d4 b7
   obtain ⟨o1,c1,o2,c2,rfl⟩:=rI.ue hE
   have n1:=hS
   obtain ⟨so,sc,rfl,_⟩:=hS
   exact ⟨o1,c1,o2,c2,so,sc,rfl,hE,n1,hR.ch⟩
  have fin:∀ (wz:World) (eb:Nat) (o1:OA) (c1:Nat) (o2:OA) (c2:Nat) (so:OA) (sc:Nat) (G1:Nat→Prop),Ch ah w5 wz→w5.heap.size≤eb→ba wz eb [.slice none 0 0,.slice none 0 0] bj →
    EV wz (.slice o1 (qS ps qs[i].2).1.length c1,.slice o2 (qS ps qs[i].2).2.length c2) (qS ps qs[i].2) G1→IV wz (.slice so (Eg ps qs[i].2).length sc) (Eg ps qs[i].2) G1→(∀ j,j<wz.heap.size→G1 j→w.heap.size≤j∧j≠eb) →
    (dr wz ⟨eb,0,none⟩∧dr wz ⟨eb,1,none⟩)∧∀ w':World,w'=(wz.setCell ⟨eb,0,none⟩ (.slice o1 (qS ps qs[i].2).1.length c1)).setCell ⟨eb,1,none⟩ (.slice o2 (qS ps qs[i].2).2.length c2)→Ch ah w5 w' ∧
     ∃ (eb':Nat) (p:Value × Value),(⟨eb,0,none⟩:Addr)=⟨eb',0,none⟩∧ba w' eb' [p.1,p.2] bj∧EV w' p (qS ps qs[i].2) (db w w')∧IV w' (.slice so (Eg ps qs[i].2).length sc) (Eg ps qs[i].2) (db w w')∧w.heap.size≤eb'∧Ch ah w w'∧Ch ah w5 w':=fun wz eb o1 c1 o2 c2 so sc G1 n2 n3 g2 hE hS hG=>by
   refine ⟨⟨g2.ok 0 rfl,g2.ok 1 rfl⟩,fun w' e'=>?_⟩
   have n4:=(g2.set (o:=0) rfl).set e'
   have g3:Ch (·=eb) wz w':=Ch.Dd (F:=(·=eb)) e' rfl rfl
   have q6:=g3.size
   have n5:w'.heap.size=wz.heap.size:=by subst e';simp [World.setCell]
   have q7:=g2.lt
   have h7:Ch ah w5 w':=n2.trans g3 (fun j hj he=>by omega)
   refine ⟨h7,eb,(_,_),rfl,n4,?_,?_,by omega,a2.ag h7,h7⟩
   ·exact (hE.af g3 (fun j hj hg he=>(hG j hj hg).2 he)).mono (fun j hj hg=>⟨(hG j (by omega) hg).1,hj⟩)
   ·exact (hS.af g3 (fun j hj hg he=>(hG j hj hg).2 he)).mono (fun j hj hg=>⟨(hG j (by omega) hg).1,hj⟩)
  have h8:=(h.aa (a2.ag d8)).px.p.r
  have h9:=d5.aa (a2.ag d8)
  have q8:w5.heap.size=w6.heap.size:=by subst e6;rfl
  have getS:∀ (wa:World),Ch ah w6 wa→Calls Tryz.prog mw #[.pointer (some ⟨pb,0,none⟩),.slice qs[i].1.po qs[i].2.aj.length qs[i].1.pc] wa (bc fun v w'=>PV w' v (uQ ps qs[i].2) (db wa w')∧Ch ah wa w'):=fun wa g1=>RL (h8.aa g1) (h9.aa g1).pg.rd m9 (by omega) _
  refine ⟨?_,fun k2 i0=>⟨d8.ag (Ch.alloc i0),?_⟩,trivial⟩
  ·refine ab (getS w6 (Ch.refl _ _)) ?_
   rintro v d9 ⟨hv,e0⟩
   have i1:=hv
   obtain ⟨n6,n7,i2,rfl,_⟩:=hv
   have a1:=d8.ag e0
   have n8:=e0.size
   have k3:=i1.mono (G:=db w d9) (fun j _ hj=>⟨by have:=hj.1;omega,hj.2⟩)
   refine ⟨_,_,_,rfl,a1,?_,fun i3 i4=>⟨a1.ag (Ch.alloc i4),?_⟩,trivial⟩
   ·refine ab (stp d9 _ _ _ a1 k3) ?_
    rintro v k4 ⟨o1,c1,o2,c2,so,sc,rfl,hE,hS,a7⟩
    have n9:=a7.size
    refine ⟨_,_,_,_,_,_,_,_,_,_,rfl,a1.ag a7,fun o0 e2=>⟨(a1.ag a7).ag (Ch.alloc e2),?_⟩⟩
    exact fin o0 k4.heap.size o1 c1 o2 c2 so sc (db d9 k4) ((a1.ag a7).ag (Ch.alloc e2)) (by omega) (ba.new e2) (hE.aa (Ch.alloc e2)) (hS.aa (Ch.alloc e2)) (fun j _ hj=>⟨by have:=hj.1;omega,by have:=hj.2;omega⟩)
   ·have e3:=ba.new i4
    have a8:Ch ah d9 i3:=Ch.alloc i4
    have o3:=e3.lt
    refine ab (stp i3 _ _ _ (a1.ag a8) ((k3.aa a8).mono (fun j _ hj=>⟨hj.1,by have:=hj.2;omega⟩))) ?_
    rintro v k5 ⟨o1,c1,o2,c2,so,sc,rfl,hE,hS,c4⟩
    refine ⟨_,_,_,_,_,_,_,_,_,_,rfl,(a1.ag a8).ag c4,?_⟩
    exact fin k5 d9.heap.size o1 c1 o2 c2 so sc (db i3 k5) ((a1.ag a8).ag c4) (by omega) (e3.aa c4) hE hS (fun j _ hj=>⟨by have:=hj.1;omega,by have:=hj.1;omega⟩)
  ·have e4:=ba.new i0
   have e5:Ch ah w6 k2:=Ch.alloc i0
   have o4:=e4.lt
   refine ab (getS k2 e5) ?_
   rintro v k6 ⟨hv,c5⟩
   have i1:=hv
   obtain ⟨n6,n7,i2,rfl,_⟩:=hv
   have a3:=(d8.ag e5).ag c5
   have o5:=c5.size
   refine ⟨_,_,_,rfl,a3,?_⟩
   refine ab (stp k6 _ _ _ a3 (i1.mono (fun j _ hj=>⟨by have:=hj.1;omega,hj.2⟩))) ?_
   rintro v k7 ⟨o1,c1,o2,c2,so,sc,rfl,hE,hS,c6⟩
   refine ⟨_,_,_,_,_,_,_,_,_,_,rfl,a3.ag c6,?_⟩
   exact fin k7 w6.heap.size o1 c1 o2 c2 so sc (db k6 k7) (a3.ag c6) (by omega) ((e4.aa c5).aa c6) hE hS (fun j _ hj=>⟨by have:=hj.1;omega,by have:=hj.1;omega⟩)
 ·rintro jk e so sn sc b8 ⟨eb,p,rfl,e7,e8,i5,n3,c7,b9⟩
  have k8:=h.aa c7
  obtain ⟨o1,c1,o2,c2,rfl⟩:=rI.ue e8
  have o6:=c7.size
  have e9:∀ m j,R m j→j<w.heap.size:=h.fam.1
  have neb:¬ R 3 eb:=fun hx=>by have:=e9 3 eb hx;omega
  have i6:¬ R 3 cb:=h.fam.2 0 3 (by omega) cb h.z
  refine ⟨fun w'=>Ch (R 3) b8 w',fun c8 i7=>⟨Ch.drew i7,_,fun w' k=>(k8.blk.af k i6).cell 0 rfl,_,_,_,_,_,_,⟨fun w' k=>(e7.af k neb).cell 0 rfl,fun w' k=>by rw [eh];exact (e7.af k neb).cell 1 rfl⟩,?_⟩⟩
  have a4:Ch ah b8 c8:=Ch.drew i7
  have g4:=k8.aa a4
  have o7:b8.heap.size=c8.heap.size:=by subst i7;rfl
  refine ab (bh.PC (p:=(_,_)) g4.px.p.r (du qs[i].2) (e8.aa a4).Tv m7) ?_
  rintro v k9 ⟨rfl,i8,a9⟩
  have i9:=g4.px.g.put hB.1 (du qs[i].2) (qS ps qs[i].2)
  obtain ⟨b2,b3,c9⟩:=g4.sa (PX.SJ g4.px i8 a9 i9) (fun _ hj=>hj) (fun _ hj => .inl hj) (a9.mono (fun _ _ hj => .inr hj))
  obtain ⟨R1,l4⟩:∃ R1,La R (Ext (R 3) c8 k9) (R 4)=R1:=⟨_,rfl⟩
  have f0:R1 2=R 2:=by rw [← l4];exact Ie (by omega) (by omega)
  rw [l4] at b2 b3
  have o8:=a9.size
  have f3:=b2.rn _ (List.getElem_mem hi)
  have b4:=f3.blk
  rw [d3] at b4
  have o9:IntKind.i64.wrap ((qs[i].2.done:Int)+1)=((qs[i].2.done+1:Nat):Int):=by rw [ae (by omega) (by omega)];rfl
  refine ⟨_,rfl,a4.any.same a9,_,b4.cell 7 rfl,b4.ok 7 rfl,fun a6 j0=>?_⟩
  rw [o9] at j0
  obtain ⟨R2,a0,j1,j2,b5⟩:=b2.QX (w':=a6) hi (by rw [d3];exact j0)
  have p0:i<(qs.set i (qs[i].1,{ qs[i].2 with done:=qs[i].2.done+1 })).length:=by rw [List.length_set];exact hi
  have d0:=b4.set j0
  have p1:=b5.size
  -- what is the call's own stays
  have loc:∀ (Rx:Nat→Nat→Prop) (wx:World),(∀ j,de Rx j→Ext (de R) c8 wx j)→∀ j,db w b8 j→¬ de Rx j:=fun Rx wx hx j hj hm=>by
   rcases hx j hm with ⟨m,hm⟩|hn
   ·have:=e9 m j hm;have:=hj.1;omega
   ·have:=hn.1;have:=hj.2;omega
  have g5:∀ j,de R2 j→Ext (de R) c8 a6 j:=fun j hj=>by
   rcases j1 j hj with hj|hj
   ·exact (b3 j hj).imp (fun x=>x) (fun k=>⟨k.1,by have:=k.2;omega⟩)
   ·exact .inr ⟨by have:=hj.1;omega,hj.2⟩
  have l0:=loc R c8 (fun j hj => .inl hj)
  have l1:=loc R1 k9 b3
  have l2:=loc R2 a6 g5
  have j3:IV b8 (.slice to qs[i].2.dg.length tc) qs[i].2.dg (db w b8):=by
   have hx:IV w5 (.slice to qs[i].2.dg.length tc) qs[i].2.dg (db w w5):=h0.mono (fun j _ hj=>⟨by have:=hj.1;have:=g9.size;omega,hj.2⟩)
   exact (hx.aa b9).mono (fun j _ hj=>⟨hj.1,by have:=hj.2;have:=b9.size;omega⟩)
  have j4:IV a6 (.slice to qs[i].2.dg.length tc) qs[i].2.dg (db w b8):=((j3.aa a4).af c9 (fun j _ hj hm=>l0 j hj (dz j hm))).af b5 (fun j _ hj hm=>l1 j hj (dz j hm))
  have f4:IV a6 (.slice so sn sc) (Eg ps qs[i].2) (db w b8):=((i5.aa a4).af c9 (fun j _ hj hm=>l0 j hj (dz j hm))).af b5 (fun j _ hj hm=>l1 j hj (dz j hm))
  have c0:Ch (dt R) w a6:=by
   refine (((c7.ag a4).any.same c9)).trans b5 (fun j hj hm=>?_)
   rcases b3 j (dz j hm) with hx|hn
   ·obtain ⟨m,p2,p3⟩:=hm
    obtain ⟨m',hx⟩:=hx
    by_cases h2:m'=2
    ·subst h2
     rw [← f0] at hx
     exact absurd p3 (b2.fam.2 2 m (by omega) j hx)
    ·exact ⟨m',h2,hx⟩
   ·have:=hn.1;omega
  have f5:∀ j,de R2 j→Ext (de R) w a6 j:=fun j hj=>(g5 j hj).imp (fun x=>x) (fun k=>⟨by have:=k.1;omega,k.2⟩)
  have d1:R2 2=R 2:=by rw [j2,f0]
  have l5:Int.tmod ((qs[i].2.done+1:Nat):Int) 4=(((qs[i].2.done+1) % 4:Nat):Int):=rfl
  have p4:qs[i].2.done+1≤qs[i].2.dg.length:=hd
  refine ⟨fun w'=>∃ R':Nat→Nat→Prop,IV w' (.slice so sn sc) (Eg ps qs[i].2) (fun j=>w.heap.size≤j∧j<w'.heap.size∧∀ m,¬ R' m j)∧cn W w' cb pb xb k (B+1) (ux ps es qs[i].2) (xD ps es qs[i].2) o c (qs.set i (qs[i].1,{ qs[i].2 with done:=qs[i].2.done+1 })) R'∧(∀ j,de R' j→Ext (de R) w w' j)∧R' 2=R 2∧Ch (dt R) w w',
   ⟨_,d0.cell 7 rfl,by omega,fun hy=>?_,fun l6=>?_⟩,?_⟩
  ·have f6:(qs[i].2.done+1) % 4=0:=by
    rw [l5] at hy
    have:=eq_of_beq hy
    omega
   have l7:R2 (5+3*rb) rb:=by
    have:=(a0.rn _ (List.getElem_mem p0)).z
    rw [List.getElem_set_self] at this
    rwa [← d3]
   have nb:¬ (R2 4 rb∨R2 3 rb):=fun hx=>hx.elim (a0.fam.2 _ 4 (by omega) rb l7) (a0.fam.2 _ 3 (by omega) rb l7)
   have nc:¬ (R2 4 cb∨R2 3 cb):=fun hx=>hx.elim (a0.fam.2 0 4 (by omega) cb a0.z) (a0.fam.2 0 3 (by omega) cb a0.z)
   refine ⟨fun w'=>Ch (fun j=>R2 4 j∨R2 3 j) a6 w',fun g6 j5=>⟨Ch.drew j5,_,fun w' k=>(a0.blk.af k nc).cell 1 rfl,_,fun w' k=>(d0.af k nb).cell 2 rfl,_,fun w' k=>(d0.af k nb).cell 7 rfl,⟨by omega,by omega⟩,?_⟩⟩
   have a5:Ch ah a6 g6:=Ch.drew j5
   have f7:=a0.aa a5
   obtain ⟨oX,cX,eX,_,_,l8⟩:=(j4.aa a5).cut rfl (Nat.zero_le _) p4
   injection eX with eX1 eX2 eX3
   subst eX1
   rw [List.drop_zero,Nat.sub_zero] at l8
   rw [Nat.zero_mul,Int.toNat_natCast,Nat.sub_zero]
   have g0:(qs[i].2.dg.take (qs[i].2.done+1)).length=qs[i].2.done+1:=by rw [List.length_take];omega
   have hA:=dh.Pu f7.px ⟨hB.1,by omega⟩ (by omega) l8 (by omega) (du qs[i].2) qs[i].2.ask.ver (tc-0)
   rw [g0] at hA
   refine ab hA ?_
   rintro v g7 ⟨rfl,j6,d2⟩
   obtain ⟨j7,j8,f8⟩:=f7.sa j6 (fun _ hj => .inl hj) (fun _ hj=>hj) d2
   have p5:a6.heap.size=g6.heap.size:=by subst j5;rfl
   have p6:=d2.size
   have l9:∀ j,de (La R2 (R2 3) (Ext (R2 4) g6 g7)) j→Ext (de R) c8 g7 j:=fun j hj=>by
    rcases j8 j hj with hj|hj
    ·exact (g5 j hj).imp (fun x=>x) (fun k=>⟨k.1,by have:=k.2;omega⟩)
    ·exact .inr ⟨by have:=hj.1;omega,hj.2⟩
   have l3:=loc _ g7 l9
   have j9:=(f4.aa a5).af f8 (fun j _ hj hm=>l2 j hj (dz j hm))
   refine ⟨_,rfl,a5.any.same d2,La R2 (R2 3) (Ext (R2 4) g6 g7),j9.mono (fun j hj hn=>⟨hn.1,hj,fun m hm=>l3 j hn ⟨m,hm⟩⟩),?_,fun j hj=>(l9 j hj).imp (fun x=>x) (fun k=>⟨by have:=k.1;omega,k.2⟩),?_,?_⟩
   ·unfold ux xD
    rw [if_pos f6,if_pos f6]
    exact j7
   ·rw [Ie (by omega) (by omega),d1]
   ·refine (c0.ag a5).trans f8 (fun j hj hm=>?_)
    obtain ⟨m,p2,hm⟩:=hm
    rcases g5 j ⟨m,hm⟩ with ⟨m',hx⟩|hn
    ·by_cases h2:m'=2
     ·subst h2
      rw [← d1] at hx
      exact absurd hm (a0.fam.2 2 m (by omega) j hx)
     ·exact ⟨m',h2,hx⟩
    ·have:=hn.1;omega
  ·have f6:¬ (qs[i].2.done+1) % 4=0:=fun he=>by
    rw [l5,he] at l6
    simp at l6
   refine ⟨R2,f4.mono (fun j hj hn=>⟨hn.1,hj,fun m hm=>l2 j hn ⟨m,hm⟩⟩),?_,f5,d1,c0⟩
   ·unfold ux xD
    rw [if_neg f6,if_neg f6]
    exact ⟨a0.fam,a0.f,a0.z,a0.blk,a0.own,a0.px.le (by omega),a0.nd,a0.rn⟩
  ·rintro jk q9 ⟨R',h1,h2,h3,h4,h5⟩
   exact ⟨R',h1,h2,h3,h4,h5⟩
end
end Go.Proofs.YtkbikekbaboclaaGreat.fo
set_option linter.unusedVariables false
set_option linter.unusedSimpArgs false
namespace Go.Proofs.YtkbikekbaboclaaGreat.fo
open Go Go.Proofs V Vc Step bh dh ee fv qn Go.RowKit
open gm (da di dl ik gq asks_one)
def sr (r:bo) (sc:List Int):Int:=rI.zn (r.ask.draws.getD r.said.length 0) sc
def Bl (r:bo) (sc:List Int):bo:=if r.done<r.dg.length∨sr r sc=0 then r else { r with said:=r.said++[sr r sc] }
def Gb (r:bo) (sc:List Int):Bool:=if r.done<r.dg.length then false else if sr r sc=0 then true else ((r.said.length+1:Nat):Int)==r.ask.most
section
variable {W w w' w0:World} {cb pb xb k tb:Nat} {B B':Int} {ps ps':List ak} {es es':List bw} {o:OA} {c n:Nat} {qs:List (nq × bo)} {q:nq × bo} {R R' R0:Nat→Nat→Prop} {F G FP FI Fa TA:Nat→Prop} {xs ys:List Int}
theorem Px {i:Nat} {sv:Value} {sc:List Int} (h:cn W w cb pb xb k B ps es o c qs R) (hi:i<qs.length) (hs:IV w sv sc G) (b7:sc.length≤1000000) (d2:qs[i].2.said.length≤900) :
  Calls Tryz.prog DR #[.pointer (some ⟨qs[i].1.rb,0,none⟩),sv] w (bc fun v w'=>v = .bool (Gb qs[i].2 sc)∧∃ (g:nq) (R':Nat→Nat→Prop),g.rb=qs[i].1.rb∧cn W w' cb pb xb k B ps es o c (qs.set i (g,Bl qs[i].2 sc)) R'∧(∀ j,de R' j→Ext (de R) w w' j)∧R' 2=R 2∧Ch (dt R) w w'):=by
 have a3:=h.rn _ (List.getElem_mem hi)
 have a4:qs.set i (qs[i].1,qs[i].2)=qs:=List.set_getElem_self hi
 have b8:=hs
 obtain ⟨so,sn,rfl,_⟩:=b8
 refine HD.calls _ _ _ _ ?_
 refine ⟨fun w'=>Ch ah w w',fun w1 e1=>⟨Ch.drew e1,_,fun w' k=>(a3.blk.aa k).cell 7 rfl,ab (Cs (a3.aa (Ch.drew e1)) (by omega)) ?_⟩⟩
 rintro v w3 ⟨⟨to,tc,rfl,_⟩,b9⟩
 have a0:Ch ah w w3:=(Ch.drew (F:=ah) e1).ag b9
 have same:∀ w',Ch ah w w'→Bl qs[i].2 sc=qs[i].2→∃ (g:nq) (R':Nat→Nat→Prop),g.rb=qs[i].1.rb∧cn W w' cb pb xb k B ps es o c (qs.set i (g,Bl qs[i].2 sc)) R'∧(∀ j,de R' j→Ext (de R) w w' j)∧R' 2=R 2∧Ch (dt R) w w':=fun w' hc e=>⟨qs[i].1,R,rfl,by rw [e,a4];exact h.aa hc,fun j hj => .inl hj,rfl,hc.any⟩
 refine ⟨_,_,_,rfl,a0,fun hy=>?_,fun hn=>?_⟩
 ·have a8:qs[i].2.done<qs[i].2.dg.length:=by have:=dQt hy;omega
  exact ⟨by unfold Gb;rw [if_pos a8],same w3 a0 (by unfold Bl;rw [if_pos (.inl a8)])⟩
 have a6:¬ qs[i].2.done<qs[i].2.dg.length:=by have:=dQf hn;omega
 have a7:=a3.blk.aa a0
 have c0:=a3.aa a0
 refine ⟨fun draw w'=>draw=qs[i].2.ask.draws.getD qs[i].2.said.length 0∧Ch ah w w',⟨_,_,_,a7.cell 8 rfl,_,_,_,a7.cell 5 rfl,fun hl=>?_,fun hl=>?_⟩,?_⟩
 ·have hl:=dQt hl
  have a9:qs[i].2.said.length<qs[i].2.ask.draws.length:=by omega
  refine ⟨_,_,_,a7.cell 5 rfl,⟨by omega,by omega⟩,Rd.PH (enc:=Value.int .i64) c0.ask.1.2.1 a9 fun p hp=>⟨_,by rw [Int.toNat_natCast,Nat.mul_one];exact hp,?_,a0⟩⟩
  rw [List.getD_eq_getElem?_getD,List.getElem?_eq_getElem a9];rfl
 ·have hl:=dQf hl
  exact ⟨by rw [List.getD_eq_getElem?_getD,List.getElem?_eq_none (by omega)];rfl,a0⟩
 rintro jk draw w4 ⟨rfl,a5⟩
 refine ab (rI.ND (hs.aa a5) b7 _) ?_
 rintro v w5 ⟨rfl,c4⟩
 have a1:=a5.ag c4
 refine ⟨_,rfl,fun hy=>?_,fun hn=>?_⟩
 ·have ht:sr qs[i].2 sc=0:=eq_of_beq hy
  exact ⟨by unfold Gb;rw [if_neg a6,if_pos ht],same w5 a1 (by unfold Bl;rw [if_pos (.inr ht)])⟩
 have ht:¬ sr qs[i].2 sc=0:=fun he=>by
  have c5:rI.zn (qs[i].2.ask.draws.getD qs[i].2.said.length 0) sc=0:=he
  rw [c5] at hn;simp at hn
 have h5:=h.aa a1
 have a2:=h5.rn _ (List.getElem_mem hi)
 refine ⟨_,_,_,a2.blk.cell 8 rfl,fun w6 e6=>?_⟩
 obtain ⟨po,pc,w7,c6,c7,b2⟩:=Own.pW (enc:=Value.int .i64) (xs:=qs[i].2.said) bi a2.sd ay (sr qs[i].2 sc) e6 rfl (by unfold maxLen;omega) (by omega)
 have n7:¬ R (7+3*qs[i].1.rb) qs[i].1.rb:=h.fam.2 (5+3*qs[i].1.rb) _ (by omega) _ a3.z
 have b3:=a2.blk.af b2 n7
 refine ⟨po,_,pc,w7,c6,b3.ok 8 rfl,fun w8 e8=>?_⟩
 have b4:(qs[i].2.said++[sr qs[i].2 sc]).length=qs[i].2.said.length+1:=by simp
 obtain ⟨R',c8,c9,d0,b5⟩:=h5.QM (w':=w8) hi (sd:=qs[i].2.said++[sr qs[i].2 sc]) b2 (by rw [b4];exact c7) (by rw [b4];exact e8)
 have b6:=b3.set e8
 have d1:=a1.size
 have d3:=b5.size
 refine ⟨fun w'=>Ch ah w8 w',fun w9 e9=>⟨Ch.drew e9,_,_,_,fun w' k=>(b6.aa k).cell 8 rfl,_,fun w' k=>(b6.aa k).cell 4 rfl,?_,{ qs[i].1 with so:=po,sc:=pc },R',rfl,?_,fun j hj=>?_,d0,(a1.any.same b5).ag (Ch.drew e9)⟩⟩
 ·unfold Gb;rw [if_neg a6,if_neg ht]
 ·have e:Bl qs[i].2 sc={ qs[i].2 with said:=qs[i].2.said++[sr qs[i].2 sc] }:=by unfold Bl;rw [if_neg (fun hx=>hx.elim a6 ht)]
  rw [e]
  exact c8.aa (Ch.drew e9)
 ·have d4:w9.heap.size=w8.heap.size:=by subst e9;rfl
  exact (c9 j hj).imp (fun x=>x) (fun k=>⟨by have:=k.1;omega,by have:=k.2;omega⟩)
structure sx where
 id:Int
 done:Bool
 gave:Bool
 out:List Int
 Bk:List da
structure Cr where
 ps:List ak
 es:List bw
 rs:List bo
def lh (ps:List ak) (r:bo):bo:=Bl { r with done:=r.done+1 } (Eg ps r)
def BQ (ps:List ak) (r:bo):Bool:=Gb { r with done:=r.done+1 } (Eg ps r)
def SQ (i:Nat) (s:Cu) (r:bo):Cr:=⟨ux s.ps s.es r,xD s.ps s.es r,s.rs.set i (lh s.ps r)⟩
def MI (i:Nat) (s:Cr) (r:bo):Cr:=⟨fk s.ps r.aj,s.es,s.rs.eraseIdx i⟩
def tI (id:Int) (i:Nat) (s:Cu):Cr × sx :=
 if s.ok=false then (⟨s.ps,s.es,s.rs⟩,⟨id,false,true,[],s.aw⟩) else match s.rs[i]? with
  | none=>(⟨s.ps,s.es,s.rs⟩,⟨id,false,false,[],s.aw⟩)
  | some r=>if BQ s.ps r=true then (MI i (SQ i s r) (lh s.ps r),⟨id,true,false,(lh s.ps r).said,s.aw⟩) else (SQ i s r,⟨id,false,false,[],s.aw⟩)
def CK (n:Int) (l:Nat):Nat:=(n % (l:Int)).toNat
def Oo (ps:List ak) (r:bo):Prop:=(0<r.aj.length∧r.aj.length≤900)∧r.dg.length≤900∧r.done<r.dg.length∧(∀ e∈uQ ps r,fy r.c e)∧qn.AU r.c (tY r)∧((uQ ps r).length:Int)<r.c.context
def NS (W w0:World) (cb pb xb k:Nat) (B:Int) (R0:Nat→Nat→Prop) (cr:Cr) (t:sx) (w:World) (oo:OA) (oc:Nat) (ao:OA) (an ac:Nat) (M:Nat→Prop):Prop :=
 ∃ (o:OA) (c:Nat) (qs:List (nq × bo)) (R:Nat→Nat→Prop) (aq:List (da × di)) (TA:Nat→Prop),an=aq.length∧cn W w cb pb xb k B cr.ps cr.es o c qs R∧qs.map (·.2)=cr.rs∧IV w (.slice oo t.out.length oc) t.out (de R)∧aq.map (·.1)=t.Bk ∧
  Rd w ao (aq.map dl).flatten TA∧(∀ i,TA i→w0.heap.size≤i∧¬ M i∧∀ k,¬ R k i)∧(∀ k i,M i→¬ R k i)∧(∀ q∈aq,lk w q (R 2))∧(∀ i,de R i→Ext (de R0) w0 w i)∧R 2=R0 2∧Ch (fun i=>dt R0 i∨M i) w0 w
def im (t:sx) (oo:OA) (oc:Nat) (ao:OA) (an ac:Nat):List Value:=CD t.id t.done t.gave oo t.out.length oc ao an ac
theorem NQ.pick {id:Int} {s:Cu} {ao:OA} {ac:Nat} {aq:List (da × di)} (h:NQ W w0 tb cb pb xb k B id R0 s w o c qs R ao ac aq TA):NS W w0 cb pb xb k B R0 ⟨s.ps,s.es,s.rs⟩ ⟨id,false,false,[],s.aw⟩ w none 0 ao aq.length ac (·=tb) :=
 ⟨o,c,qs,R,aq,TA,rfl,h.qW,h.rs,IV.nil _ _,h.aws,h.aw.own.rd,fun i hi=>⟨(h.aw.ta i hi).1,(h.aw.ta i hi).2.2.1,(h.aw.ta i hi).2.2.2⟩,fun k i hi=>hi▸h.aw.tb k,h.aw.ask,h.grow,h.two,h.ch⟩
theorem RD.lx {ao:OA} {ac:Nat} {aq:List (da × di)} (h:RD w0 w R tb ao ac aq TA) (hc:Ch (·=tb) w w'):RD w0 w' R tb ao ac aq TA :=
 ⟨h.own.af hc (fun i _ hi he=>(h.ta i hi).2.2.1 he),fun i hi=>⟨(h.ta i hi).1,Nat.lt_of_lt_of_le (h.ta i hi).2.1 hc.size,(h.ta i hi).2.2⟩,h.tb,fun q hq=>(h.ask q hq).af hc (fun i _ hi he=>h.tb 2 (he▸hi))⟩
theorem EA (n:Int) {l:Nat} (hl:0<l):(Int.tmod n l<0→Int.tmod n l+l=CK n l)∧(¬ Int.tmod n l<0→Int.tmod n l=CK n l) ∧-(l:Int)<Int.tmod n l∧Int.tmod n l<l∧CK n l<l:=by
 have h1:=Int.emod_nonneg n (show (l:Int)≠0 by omega)
 have h2:=Int.emod_lt_of_pos n (show (0:Int)<l by omega)
 have h3:=Int.tmod_eq_emod (a:=n) (b:=l)
 unfold CK
 by_cases hc:0≤n∨(l:Int) ∣ n
 ·rw [if_pos hc] at h3
  omega
 ·rw [if_neg hc] at h3
  have h4:n % (l:Int)≠0:=fun he=>hc (.inr (Int.dvd_of_emod_eq_zero he))
  have h5:((l:Int).natAbs:Int)=l:=by omega
  omega
set_option maxHeartbeats 4000000 in
theorem Mz {n:Int} {s:Cu} {cr:Cr} {t:sx} {i:Nat} (h:cn W w cb pb xb k B ps es o c qs R) (hk:k≤1000) (hB:1≤B∧B≤100000000) (hn:0<qs.length∧qs.length≤900) (k7:es.length<900) (hl:∀ q∈qs,q.2.aj.length≤900∧q.2.done≤1000000) (hi:CK n qs.length=i)
  (hs:lz i (es.length+qs.length+1) ⟨ps,es,qs.map (·.2),[],true⟩=s) (e0:s.es.length<900∧s.rs.length≤900) (h7:s.ok=true→∀ r,s.rs[i]?=some r→Oo s.ps r) (h8:∀ q,qs[i]?=some q→tI q.2.ask.id i s=(cr,t)) :
  Calls Tryz.prog ng #[.pointer (some ⟨cb,0,none⟩),.int .i64 n] w (bc fun v w'=>∃ (oo:OA) (oc:Nat) (ao:OA) (an ac:Nat),v = .tuple #[.agg (im t oo oc ao an ac).toArray,.int .i64 0]∧NS W w cb pb xb k (B+1) R cr t w' oo oc ao an ac ah):=by
 obtain ⟨t1,t2,t3,t4,t5⟩:=EA n hn.1
 rw [hi] at t1 t2 t5
 have a9:=h8 _ (List.getElem?_eq_getElem t5)
 refine pa.calls _ _ ?_
 intro w1 e1
 have e2:ba w1 w.heap.size _ lb:=ba.new e1
 have e6:Ch ah w w1:=Ch.alloc e1
 have h1:=h.aa e6
 obtain ⟨p,hp,c0⟩:=h1.at t5
 subst hp
 have h9:=h1.rn _ (List.getElem_mem t5)
 refine ⟨_,_,_,h1.blk.cell 2 rfl,fun hy=>absurd (eq_of_beq hy) (by omega),fun k8=>⟨_,_,_,h1.blk.cell 2 rfl,by omega,fun v w'=>v=(i:Int)∧w'=w1,⟨fun hy=>?_,fun hy=>?_⟩,?_⟩⟩
 ·have hy:=dQt hy
  exact ⟨_,_,_,h1.blk.cell 2 rfl,by rw [ae (by omega) (by omega)];exact t1 hy,rfl⟩
 ·exact ⟨t2 (dQf hy),rfl⟩
 rintro jk vat w3 ⟨rfl,e3⟩
 subst e3
 refine ⟨_,_,_,h1.blk.cell 2 rfl,⟨by omega,by omega⟩,some ⟨qs[i].1.rb,0,none⟩,by rw [Int.toNat_natCast,Nat.mul_one];exact c0,_,by rw [eh,Nat.zero_add];exact h9.blk.cell 1 rfl,fun w4 e4=>?_⟩
 have b6:=ba.new e4
 have i0:Ch ah w3 w4:=Ch.alloc e4
 have i1:=e2.lt
 obtain ⟨tb,i2⟩:∃ tb,w3.heap.size=tb:=⟨_,rfl⟩
 rw [i2] at b6 i1 ⊢
 refine ⟨⟨b6.ok 0 rfl,b6.ok 1 rfl,b6.ok 2 rfl,b6.ok 3 rfl,b6.ok 4 rfl⟩,fun w5 e5=>?_⟩
 have f9:w5=w4.setCells tb 0 (CD qs[i].2.ask.id false false none 0 0 none 0 0):=e5
 have i3:=b6.all (CD qs[i].2.ask.id false false none 0 0 none 0 0) rfl f9
 have i4:Ch (·=tb) w4 w5:=Ch.fr f9 rfl
 have b7:Ch ah w3 w5:=i0.trans i4 (fun j hj he=>by omega)
 have c4:=e6.ag b7
 have h5:=h.aa c4
 have k9:=e6.size
 have i5:=b7.size
 have b8:∀ m j,R m j→j<w.heap.size:=h.fam.1
 have l1:=h.ch.size
 have c5:=e2.aa b7
 refine ⟨fun w'=>∃ (oo:OA) (oc:Nat) (ao:OA) (an ac:Nat),ba w' tb (im t oo oc ao an ac) lb∧NS W w5 cb pb xb k (B+1) R cr t w' oo oc ao an ac (·=tb),ab (NG h5 hk ⟨hB.1,by omega⟩ hn.2 (by omega) hl t5 i3 (fun m hm=>by have:=b8 m tb hm;omega) (by omega)) ?_,?_⟩
 ·rintro v w6 ⟨s',g0,rfl,hO⟩
  rw [hs] at g0
  subst g0
  obtain ⟨o6,c6,a0,R6,ao,ac,aq,TA,c7,a2,i6,d9,c8,b2,c9,b3,d0⟩:=hO
  refine ⟨_,rfl,fun hy=>?_,fun a3=>?_⟩
  rotate_left
  ·unfold tI at a9
   rw [if_pos a3] at a9
   injection a9 with p1 p2
   subst p1;subst p2
   refine ⟨none,0,ao,aq.length,ac,?_,o6,c6,a0,R6,aq,TA,rfl,c7.le (by omega),a2,IV.nil _ _,c8,b2.own.rd,fun i hi=>⟨(b2.ta i hi).1,(b2.ta i hi).2.2.1,(b2.ta i hi).2.2.2⟩,fun k i hi=>hi▸b2.tb k,b2.ask,c9,b3,d0⟩
   rw [a3] at d9
   exact d9
  obtain ⟨d1,d2⟩:=i6 hy
  have g1:s.rs[i]?=some a0[i].2:=by rw [← a2];simp [d1]
  have g2:a0.length=s.rs.length:=by rw [← a2];simp
  obtain ⟨r1,r2,r3,r4,r5,r6⟩:=h7 hy _ g1
  unfold tI at a9
  rw [if_neg (by rw [hy];decide),g1] at a9
  dsimp only at a9
  rw [hy] at d9
  have i7:NQ W w5 tb cb pb xb k (B+1) qs[i].2.ask.id R s w6 o6 c6 a0 R6 ao ac aq TA:=⟨c7.le (by omega),a2,d9,c8,b2,c9,b3,d0,by omega,by omega⟩
  have g3:=JP c7 hk ⟨by omega,hB.2⟩ (by omega) e0.1 d1 r1 r2 r3 r4 r5 r6
  rw [d2] at g3
  refine ab g3 ?_
  rintro v w7 ⟨R7,g4,g5,i8,i9,j0⟩
  have e7:=g4
  obtain ⟨so,sc,rfl,_⟩:=g4
  have j1:i<(a0.set i (a0[i].1,{ a0[i].2 with done:=a0[i].2.done+1 })).length:=by rw [List.length_set];exact d1
  have j2:=i7.step (s':={ s with ps:=ux s.ps s.es a0[i].2,es:=xD s.ps s.es a0[i].2,rs:=s.rs.set i { a0[i].2 with done:=a0[i].2.done+1 } }) j0 g5 (by rw [List.map_set,a2]) rfl i8 i9
  have j3:(Eg s.ps a0[i].2).length≤1000000:=by
   unfold Eg
   rw [rI.xW]
   have:=(c7.br (c7.rn _ (List.getElem_mem d1))).ok.1
   omega
  have e8:=Px g5 j1 e7 j3 (by
   rw [List.getElem_set_self]
   unfold bo.dg at r2;rw [List.length_append] at r2;dsimp only;omega)
  simp only [List.getElem_set_self,List.set_set] at e8
  rw [d2] at e8
  refine ⟨_,_,_,rfl,ab e8 ?_⟩
  rintro v w8 ⟨rfl,g,R8,hg,b9,j4,j5,j6⟩
  have a6:=j2.step (s':={ s with ps:=ux s.ps s.es a0[i].2,es:=xD s.ps s.es a0[i].2,rs:=s.rs.set i (lh s.ps a0[i].2) }) j6 b9 (by rw [List.map_set,a2];rfl) rfl j4 j5
  refine ⟨_,rfl,fun f0=>?_,fun a3=>?_⟩
  rotate_left
  ·have a3:¬ BQ s.ps a0[i].2=true:=by rw [show BQ s.ps a0[i].2=false from a3];decide
   rw [if_neg a3] at a9
   injection a9 with p1 p2
   subst p1;subst p2
   exact ⟨none,0,ao,aq.length,ac,a6.lx,a6.pick⟩
  ·have f0:BQ s.ps a0[i].2=true:=f0
   rw [if_pos f0] at a9
   injection a9 with p1 p2
   subst p1;subst p2
   have b9:cn W w8 cb pb xb k (B+1) (ux s.ps s.es a0[i].2) (xD s.ps s.es a0[i].2) o6 c6 (a0.set i (g,lh s.ps a0[i].2)) R8:=b9
   have g6:i<(a0.set i (g,lh s.ps a0[i].2)).length:=by rw [List.length_set];exact d1
   have d3:=b9.rn _ (List.getElem_mem g6)
   rw [List.getElem_set_self] at d3
   have g7:=d3.blk
   rw [show (g,lh s.ps a0[i].2).1.rb=qs[i].1.rb from hg] at g7
   have g8:=a6.lx
   refine ⟨_,_,_,by rw [eh,Nat.zero_add];exact g7.cell 8 rfl,g8.ok 1 rfl,fun w9 e9=>?_⟩
   have g9:=g8.set e9
   refine ⟨g9.ok 3 rfl,fun h0 h3=>?_⟩
   have d4:=g9.set h3
   have b4:Ch (·=tb) w8 h0:=(Ch.set (F:=(·=tb)) e9 rfl).same (Ch.set h3 rfl)
   have nR:∀ m j,R8 m j→¬ j=tb:=fun m j hm he=>a6.aw.tb m (he▸hm)
   have d5:=b9.ze b4 nR (fun j hj he=>by omega)
   have j7:(lh s.ps a0[i].2).aj=a0[i].2.aj:=by unfold lh Bl;split <;> rfl
   have d6:=wI d5 hk ⟨by omega,by omega⟩ (by rw [List.length_set];omega) g6 (by rw [List.getElem_set_self];dsimp only;rw [j7];omega)
   simp only [List.getElem_set_self] at d6
   refine ab d6 ?_
   rintro v j8 ⟨rfl,f3,d7,f4⟩
   have b5:Ch (dt R8) h0 j8:=f4.mono (fun j _ hj=>Hr j hj)
   have a1:=((a6.aw.lx b4).step b5 (fun _ h=>h) (R':=R8) (fun _ h => .inl h) rfl d5.fam d4.lt)
   have j9:=b4.size
   have k0:=b5.size
   have l2:=a6.ch.size
   refine ⟨_,rfl,_,_,ao,aq.length,ac,d4.af b5 (fun ⟨m,_,hm⟩=>nR m tb hm rfl),o6,c6,_,R8,aq,TA,rfl,f3,?_,(Own.iv d7.sd).mono (fun j _ hj=>⟨_,hj⟩),a6.aws,a1.own.rd,fun j hj=>⟨(a1.ta j hj).1,(a1.ta j hj).2.2.1,(a1.ta j hj).2.2.2⟩,fun m j hj=>hj▸a1.tb m,a1.ask,fun j hj=>(a6.grow j hj).imp (fun x=>x) (fun k=>⟨k.1,by have:=k.2;omega⟩),a6.two,?_⟩
   ·rw [map_eraseIdx,List.map_set,a2];rfl
   ·refine (a6.ch.trans b4 (fun j _ he => .inr he)).trans b5 (fun j hj hm=>?_)
    obtain ⟨m,l3,hm⟩:=hm
    rcases a6.grow j ⟨m,hm⟩ with ⟨m',hx⟩|hx
    ·by_cases h2:m'=2
     ·subst h2
      rw [← a6.two] at hx
      exact absurd hm (b9.fam.2 2 m (by omega) j hx)
     ·exact .inl ⟨m',h2,hx⟩
    ·have:=hx.1;omega
 ·rintro jk h4 ⟨oo,oc,ao,an,ac,a7,hO⟩
  obtain ⟨o',c',qs',R',aq,TA,rfl,hC,k1,f5,b2,k2,f6,hM,f7,c9,b3,f8⟩:=hO
  obtain ⟨rT,k3⟩:∃ rT,w.heap.size=rT:=⟨_,rfl⟩
  rw [k3] at c5 e2 ⊢
  have a4:=c5.af f8 (fun hx=>by
   rcases hx with ⟨m,_,hm⟩|hx
   ·have:=b8 m rT hm;omega
   ·omega)
  refine ⟨_,_,_,_,_,_,_,_,_,⟨a7.cell 0 rfl,a7.cell 1 rfl,a7.cell 2 rfl,a7.cell 3 rfl,a7.cell 4 rfl⟩,⟨a4.ok 0 rfl,a4.ok 1 rfl,a4.ok 2 rfl,a4.ok 3 rfl,a4.ok 4 rfl⟩,fun h6 k4=>?_⟩
  have d8:h6=h4.setCells rT 0 (im t oo oc ao aq.length ac):=k4
  have a8:=a4.all (im t oo oc ao aq.length ac) rfl d8
  have a5:Ch (·=rT) h4 h6:=Ch.fr d8 rfl
  have k5:=a5.size
  have k6:=f8.size
  have nR:∀ m j,R' m j→¬ j=rT:=fun m j hm he=>by
   rcases c9 j ⟨m,hm⟩ with ⟨m',hx⟩|hx
   ·have:=b8 m' j hx;omega
   ·have:=hx.1;omega
  refine ⟨_,_,_,_,_,_,_,_,_,⟨a8.cell 0 rfl,a8.cell 1 rfl,a8.cell 2 rfl,a8.cell 3 rfl,a8.cell 4 rfl⟩,oo,oc,ao,aq.length,ac,rfl,o',c',qs',R',aq,TA,rfl,hC.ze a5 nR (fun j hj he=>by omega),k1,f5.af a5 (fun j _ ⟨m,hm⟩=>nR m j hm),b2,k2.af a5 (fun j _ hj he=>by have:=(f6 j hj).1;omega),fun j hj=>⟨by have:=(f6 j hj).1;omega,id,(f6 j hj).2.2⟩,fun m j hj=>hj.elim,fun q hq=>(f7 q hq).af a5 (fun j _ hj=>nR 2 j hj),fun j hj=>(c9 j hj).imp (fun x=>x) (fun k=>⟨by have:=k.1;omega,by have:=k.2;omega⟩),b3,?_⟩
  refine (c4.any.trans f8 (fun j hj hx=>?_)).trans a5 (fun j hj he=>by omega)
  rcases hx with hx|hx
  ·exact .inl hx
  ·omega
end
end Go.Proofs.YtkbikekbaboclaaGreat.fo
set_option linter.unusedVariables false
set_option linter.unusedSimpArgs false
namespace Go.Proofs.YtkbikekbaboclaaGreat.fo
open Go Go.Proofs V Vc Step bh dh ee fv qn Go.RowKit
open gm (da di dl ik)
def cE (es:List bw) (p:Int):Nat:=(es.map (·.page)).count p
def cR:List bo→Int→Nat
 | [],_=>0
 | r :: l,p=>r.aj.count p+cR l p
section
variable {ps ps':List ak} {es es':List bw} {rs rs':List bo} {r r':bo} {p x:Int} {i j k:Nat} {l:List Int} {g:ak}
theorem Ow:∀ (a b:List bo),cR (a++b) p=cR a p+cR b p
 | [],b=>by simp [cR]
 | r :: a,b=>by rw [List.cons_append,cR,cR,Ow a b];omega
theorem Fm:∀ {rs:List bo} {i:Nat} (h:i<rs.length),cR (rs.eraseIdx i) p+rs[i].aj.count p=cR rs p
 | [],i,h=>by simp at h
 | r :: a,0,h=>by rw [List.eraseIdx_cons_zero,List.getElem_cons_zero,cR];omega
 | r :: a,i+1,h=>by
  have:=Fm (rs:=a) (i:=i) (by simpa using h)
  rw [List.eraseIdx_cons_succ,List.getElem_cons_succ,cR,cR];omega
theorem Li:∀ {rs:List bo} {i:Nat} (h:i<rs.length) (r:bo),cR (rs.set i r) p+rs[i].aj.count p=cR rs p+r.aj.count p
 | [],i,h,r=>by simp at h
 | q :: a,0,h,r=>by rw [List.set_cons_zero,List.getElem_cons_zero,cR,cR];omega
 | q :: a,i+1,h,r=>by
  have:=Li (rs:=a) (i:=i) (by simpa using h) r
  rw [List.set_cons_succ,List.getElem_cons_succ,cR,cR];omega
theorem Cf:∀ {rs:List bo},r∈rs→r.aj.count p≤cR rs p
 | [],h=>by cases h
 | q :: a,h=>by
  rw [cR]
  rcases List.mem_cons.1 h with rfl|h
  ·omega
  ·have:=Cf h;omega
theorem zr {α:Type} {es:List α} {i:Nat} (h:i<es.length):(es.eraseIdx i++[es[i]]).Perm es:=by
 rw [gf]
 have h1:es=es.take i++es[i] :: es.drop (i+1):=by
  rw [List.getElem_cons_drop,List.take_append_drop]
 have h2:(es.take i++es.drop (i+1)++[es[i]]).Perm (es.take i++es[i] :: es.drop (i+1)):=by
  rw [List.append_assoc]
  refine List.Perm.append_left _ ?_
  exact (List.perm_append_singleton _ _)
 rw [← h1] at h2;exact h2
theorem zi:∀ {rs:List bo} {i:Nat} {x q:bo},q∈rs.set i x→q=x∨q∈rs.eraseIdx i
 | [],i,x,q,h=>by simp at h
 | y :: a,0,x,q,h=>by
  rw [List.set_cons_zero] at h
  exact List.mem_cons.1 h
 | y :: a,i+1,x,q,h=>by
  rw [List.set_cons_succ] at h
  rw [List.eraseIdx_cons_succ]
  rcases List.mem_cons.1 h with rfl|h
  ·exact .inr (List.mem_cons_self ..)
  ·exact (zi h).imp id (List.mem_cons_of_mem _)
theorem wG (h:¬ (0≤p∧p.toNat<ps.length)):ax ps p=qD:=by
 unfold ax
 split
 ·rw [List.getD_eq_getElem?_getD,List.getElem?_eq_none (by omega)];rfl
 ·rfl
theorem wo (h0:0≤x) (h1:x.toNat<ps.length) (p:Int):ax (ps.set x.toNat g) p=if p=x then g else ax ps p:=by
 by_cases hp:0≤p
 ·rw [wC hp h1]
  by_cases e:p=x
  ·rw [if_pos e,if_pos (by omega)]
  ·rw [if_neg e,if_neg (by omega)]
 ·rw [if_neg (by omega),wG (by omega),wG (by omega)]
theorem ES (h:(ax ps p).ar≠0):0≤p∧p.toNat<ps.length:=by
 apply Classical.byContradiction
 intro hn
 rw [wG hn] at h
 exact h rfl
theorem xu:∀ {l:List Int} {ps:List ak},(∀ p,(l.count p:Int)≤(ax ps p).ar)→∀ p,(ax (ek ps l) p).ar=(ax ps p).ar-l.count p∧((ax (ek ps l) p).ar≠0→(ax (ek ps l) p).ver=(ax ps p).ver∧(ax (ek ps l) p).es=(ax ps p).es)
 | [],ps,h,p=>⟨by simp [ek],fun _=>⟨rfl,rfl⟩⟩
 | x :: l,ps,h,p=>by
  have hx:=h x
  rw [List.count_cons_self] at hx
  obtain ⟨h0,h1⟩:=ES (ps:=ps) (p:=x) (by omega)
  have hd:∀ q,ax (gi ps x) q=if q=x then (if (ax ps x).ar-1=0 then qD else { ax ps x with ar:=(ax ps x).ar + -1 }) else ax ps q:=fun q=>by
   unfold gi
   split
   ·rw [wo h0 h1]
   ·unfold iy;rw [wo h0 h1]
  have hu:∀ q,(ax (gi ps x) q).ar=(ax ps q).ar-(if q=x then 1 else 0)∧((ax (gi ps x) q).ar≠0→(ax (gi ps x) q).ver=(ax ps q).ver∧(ax (gi ps x) q).es=(ax ps q).es):=fun q=>by
   rw [hd]
   by_cases e:q=x
   ·subst e
    rw [if_pos rfl,if_pos rfl]
    split
    ·rename_i hz;exact ⟨by show (0:Int)=_;omega,fun hn=>absurd rfl hn⟩
    ·exact ⟨rfl,fun _=>⟨rfl,rfl⟩⟩
   ·rw [if_neg e,if_neg e]
    exact ⟨by omega,fun _=>⟨rfl,rfl⟩⟩
  have hc:∀ q,((x :: l).count q:Int)=l.count q+(if q=x then 1 else 0):=fun q=>by
   rw [List.count_cons]
   by_cases e:q=x
   ·subst e;simp
   ·rw [if_neg e,if_neg (by simpa using fun h=>e h.symm)];simp
  obtain ⟨a0,a3⟩:=xu (l:=l) (ps:=gi ps x) (fun q=>by
   have:=h q
   rw [hc] at this
   rw [(hu q).1];omega) p
  have he:ek ps (x :: l)=ek (gi ps x) l:=rfl
  rw [he]
  refine ⟨by rw [a0,(hu p).1,hc];omega,fun hn=>?_⟩
  obtain ⟨a1,a2⟩:=a3 hn
  have a4:(ax (gi ps x) p).ar≠0:=fun hz=>hn (by
   have:=h p
   rw [hc] at this
   have:=(hu p).1
   have hb:0≤(l.count p:Int):=by omega
   omega)
  obtain ⟨b1,b2⟩:=(hu p).2 a4
  exact ⟨a1.trans b1,a2.trans b2⟩
theorem qZ (h:∀ p,(l.count p:Int)≤(ax ps p).ar):fk ps l=ek ps l:=by
 unfold fk
 rw [if_pos]
 rw [Bool.and_eq_true]
 refine ⟨?_,?_⟩
 ·unfold gg
  rw [List.all_eq_true]
  intro x hx
  have h1:=h x
  have h2:=List.count_pos_iff.2 hx
  exact decide_eq_true (by omega)
 ·unfold oP
  rw [Bool.not_eq_true',List.any_eq_false]
  intro x hx
  have h1:=h x
  simp;omega
theorem MC (h:∀ p,(l.count p:Int)≤(ax ps p).ar) (p:Int):(ax (fk ps l) p).ar=(ax ps p).ar-l.count p∧((ax (fk ps l) p).ar≠0→(ax (fk ps l) p).ver=(ax ps p).ver∧(ax (fk ps l) p).es=(ax ps p).es):=by
 rw [qZ h];exact xu h p
theorem Mm (h0:0≤x) (h1:x.toNat<ps.length) (d p:Int):(ax (iy d ps x) p).ar=(ax ps p).ar+(if p=x then d else 0)∧(ax (iy d ps x) p).ver=(ax ps p).ver∧(ax (iy d ps x) p).es=(ax ps p).es:=by
 unfold iy
 rw [wo h0 h1]
 by_cases e:p=x
 ·subst e;rw [if_pos rfl,if_pos rfl];exact ⟨rfl,rfl,rfl⟩
 ·rw [if_neg e,if_neg e];exact ⟨by omega,rfl,rfl⟩
theorem Ha:∀ {l:List Int} {ps:List ak},(∀ x∈l,0≤x∧x.toNat<ps.length)→∀ p,(ax (fe ps l) p).ar=(ax ps p).ar+l.count p∧(ax (fe ps l) p).ver=(ax ps p).ver∧(ax (fe ps l) p).es=(ax ps p).es
 | [],ps,h,p=>⟨by simp [fe],rfl,rfl⟩
 | x :: l,ps,h,p=>by
  obtain ⟨h0,h1⟩:=h x List.mem_cons_self
  obtain ⟨a1,a2,a3⟩:=Mm h0 h1 1 p
  obtain ⟨b1,b2,b3⟩:=Ha (l:=l) (ps:=iy 1 ps x) (fun y hy=>by rw [pd];exact h y (List.mem_cons_of_mem _ hy)) p
  have he:fe ps (x :: l)=fe (iy 1 ps x) l:=rfl
  rw [he]
  refine ⟨?_,b2.trans a2,b3.trans a3⟩
  rw [b1,a1,List.count_cons]
  by_cases e:p=x
  ·subst e;simp;omega
  ·rw [if_neg e,if_neg (by simpa using fun h=>e h.symm)];simp
end
structure rY where
 f:Int→ByteArray
 vm:Int
instance : CoeFun rY (fun _=>Int→ByteArray):=⟨rY.f⟩
structure SO (cf:ep) (md:rY) (ps:List ak) (e:bw):Prop where
 m4:e.dg.length % 4=0
 ln:0<e.dg.length∧e.dg.length≤32
 vr:1≤e.ver∧e.ver≤md.vm
 ver:(ax ps e.page).ver=e.ver
 es:(ax ps e.page).es=(nu cf (md e.ver) [] e.dg).drop (e.dg.length-4)
structure jt (cf:ep) (md:rY) (k:Nat) (r:bo):Prop where
 c:r.c=cf
 wt:r.wt=md r.ask.ver
 ver:1≤r.ask.ver∧r.ask.ver≤md.vm
 ok:rI.mh cf r.ask.most r.ask.ai=0
 need:gm.ny r.ask≤k
 sd:r.said=(rI.LL cf (md r.ask.ver) (rI.CL r.ask.draws) r.ask.most r.ask.ai).take r.said.length
 sl:r.said.length=r.done+1-r.ask.ai.length
 sm:(r.said.length:Int)<r.ask.most
 dn:r.done<r.dg.length
def ke (cf:ep) (md:rY) (r:bo):List gr:=nu cf (md r.ask.ver) [] (r.dg.take r.done)
structure ez (cf:ep) (md:rY) (ps:List ak) (r:bo):Prop where
 lo:r.done≤4*r.aj.length
 hi:4*r.aj.length≤r.done+4
 nd:r.aj.Nodup
 co:∀ j (h:j<r.aj.length),(ax ps r.aj[j]).ver=r.ask.ver∧(ax ps r.aj[j]).es=((ke cf md r).drop (4*j)).take 4
 pt:r.done≠4*r.aj.length→(ax ps (du r)).ar=1
structure il (cf:ep) (md:rY) (k:Nat) (ps:List ak) (es:List bw) (rs:List bo):Prop where
 len:ps.length=k
 us:∀ p,(ax ps p).ar=(cE es p+cR rs p:Nat)
 nd:(es.map (·.page)).Nodup
 en:∀ e∈es,SO cf md ps e
section
variable {cf:ep} {md:rY} {ps ps':List ak} {es es':List bw} {rs rs':List bo} {r r':bo} {e:bw} {p x v:Int} {i j k:Nat} {l:List Int} {g:ak}
theorem BP (h:r.aj≠[]):du r∈r.aj:=by
 have hl:=List.length_pos_iff.2 h
 unfold du
 rw [List.getD_eq_getElem?_getD,List.getElem?_eq_getElem (by omega)]
 exact List.getElem_mem _
theorem ez.ne (h:ez cf md ps r) (hn:r.done≠4*r.aj.length):r.aj≠[]:=fun e=>by
 have h1:=h.lo
 rw [e] at h1 hn
 simp only [List.length_nil] at h1 hn
 omega
theorem ez.af (h:ez cf md ps r) (hk:∀ p∈r.aj,(ax ps' p).ver=(ax ps p).ver∧(ax ps' p).es=(ax ps p).es) (hp:du r∈r.aj→(ax ps (du r)).ar=1→(ax ps' (du r)).ar=1):ez cf md ps' r :=
 ⟨h.lo,h.hi,h.nd,fun j hj=>by
  obtain ⟨a,b⟩:=hk _ (List.getElem_mem hj)
  rw [a,b];exact h.co j hj,fun hn=>hp (BP (h.ne hn)) (h.pt hn)⟩
theorem Ij (h:e∈es):1≤cE es e.page:=List.count_pos_iff.2 (List.mem_map.2 ⟨e,h,rfl⟩)
theorem PW (h:1≤cE es p):∃ e∈es,e.page=p:=List.mem_map.1 (List.count_pos_iff.1 h)
theorem il.drop (h:il cf md k ps es rs) (hc:∀ p,cE es' p+cR rs' p+l.count p=cE es p+cR rs p) (hn:(es'.map (·.page)).Nodup) (hs:∀ e∈es',e∈es) :
  il cf md k (fk ps l) es' rs'∧∀ r∈rs',ez cf md ps r→ez cf md (fk ps l) r:=by
 have a3:∀ p,(l.count p:Int)≤(ax ps p).ar:=fun p=>by have:=h.us p;have:=hc p;omega
 have a2:=MC a3
 have a1:∀ p,(ax (fk ps l) p).ar=(cE es' p+cR rs' p:Nat):=fun p=>by
  have:=h.us p;have:=hc p
  rw [(a2 p).1];omega
 refine ⟨⟨?_,a1,hn,fun e he=>?_⟩,fun r hr hp=>?_⟩
 ·rw [qZ a3,qY];exact h.len
 ·have h1:=Ij he
  obtain ⟨a,b⟩:=(a2 e.page).2 (by rw [a1];omega)
  have hE:=h.en e (hs e he)
  exact ⟨hE.m4,hE.ln,hE.vr,a.trans hE.ver,b.trans hE.es⟩
 ·have a0:∀ p∈r.aj,1≤cR rs' p:=fun p hp=>Nat.le_trans (List.count_pos_iff.2 hp) (Cf hr)
  refine hp.af (fun p hp=>(a2 p).2 (by have:=a0 p hp;rw [a1];omega)) (fun hm h1=>?_)
  have:=a0 _ hm
  have h2:=h.us (du r)
  have h3:=hc (du r)
  rw [a1]
  omega
theorem il.Rr (h:il cf md k ps es rs) (hi:i<es.length):il cf md k (qM ps es[i].page) (es.eraseIdx i) rs∧∀ r∈rs,ez cf md ps r→ez cf md (qM ps es[i].page) r:=by
 refine h.drop (l:=[es[i].page]) (fun p=>?_) (List.Nodup.sublist ((List.eraseIdx_sublist es i).map _) h.nd) (fun e he=>List.mem_of_mem_eraseIdx he)
 have hp:=((zr hi).map (·.page)).count_eq p
 rw [List.map_append,List.count_append] at hp
 unfold cE
 simp only [List.map_cons,List.map_nil] at hp
 omega
theorem il.cut (h:il cf md k ps es rs) (hi:i<rs.length):il cf md k (fk ps rs[i].aj) es (rs.eraseIdx i)∧∀ r∈rs.eraseIdx i,ez cf md ps r→ez cf md (fk ps rs[i].aj) r :=
 h.drop (fun p=>by have:=Fm (p:=p) hi;omega) h.nd (fun e he=>he)
theorem il.take (h:il cf md k ps es rs) (hi:i<rs.length) (hv:1≤rs[i].ask.ver∧rs[i].ask.ver≤2147483647) (ht:(gj ps rs[i].ask.ver).2=0) (hr:ez cf md ps rs[i]) (hd:rs[i].done=4*rs[i].aj.length) :
  il cf md k (ou ps rs[i].ask.ver) es (rs.set i (nk rs[i] (gj ps rs[i].ask.ver).1))∧(∀ r∈rs,ez cf md ps r→ez cf md (ou ps rs[i].ask.ver) r)∧ez cf md (ou ps rs[i].ask.ver) (nk rs[i] (gj ps rs[i].ask.ver).1):=by
 have a3:¬ (rs[i].ask.ver<1∨rs[i].ask.ver>2147483647):=by omega
 unfold gj at ht ⊢
 unfold ou
 rw [if_neg a3] at ht ⊢
 rw [if_neg a3]
 split at ht
 ·rename_i a4
  rw [if_pos a4]
  dsimp only
  have hz:ps[rz ps].ar=0:=by
   have:=List.findIdx_getElem (w:=a4)
   exact eq_of_beq this
  obtain ⟨x,hx⟩:∃ x:Int,((rz ps:Nat):Int)=x:=⟨_,rfl⟩
  have h0:0≤x:=by omega
  have a5:rz ps=x.toNat:=by omega
  have h1:x.toNat<ps.length:=by omega
  have a7:(ax ps x).ar=0:=by rw [ef h0 h1];simpa [← a5] using hz
  rw [hx,a5]
  have a0:∀ p,ax (ps.set x.toNat ⟨rs[i].ask.ver,1,[]⟩) p=if p=x then ⟨rs[i].ask.ver,1,[]⟩ else ax ps p:=fun p=>wo h0 h1 p
  have a8:=h.us x
  rw [a7] at a8
  have nr:∀ r∈rs,x ∉ r.aj:=fun r hr hm=>by
   have:=Cf (p:=x) hr
   have:=List.count_pos_iff.2 hm
   omega
  refine ⟨⟨by rw [List.length_set];exact h.len,fun p=>?_,h.nd,fun e he=>?_⟩,fun r hr hp=>hp.af (fun p hp=>?_) (fun hm h1=>?_),?_⟩
  ·have a9:cR (rs.set i (nk rs[i] x)) p=cR rs p+[x].count p:=by
    have:=Li (p:=p) hi (nk rs[i] x)
    rw [show (nk rs[i] x).aj=rs[i].aj++[x] from rfl,List.count_append] at this
    omega
   rw [a0,a9]
   by_cases e:p=x
   ·subst e
    rw [if_pos rfl,List.count_cons_self,List.count_nil]
    show (1:Int)=_
    omega
   ·rw [if_neg e,h.us,List.count_cons_of_ne (fun h=>e h.symm),List.count_nil];rfl
  ·have hE:=h.en e he
   have b2:e.page≠x:=fun hx=>by have:=Ij he;rw [hx] at this;omega
   refine ⟨hE.m4,hE.ln,hE.vr,?_,?_⟩ <;> rw [a0,if_neg b2]
   ·exact hE.ver
   ·exact hE.es
  ·rw [a0,if_neg (fun hx:p=x=>nr r hr (hx▸hp))];exact ⟨rfl,rfl⟩
  ·rw [a0,if_neg (fun hx:du r=x=>nr r hr (hx▸hm))];exact h1
  ·have a1:(nk rs[i] x).aj.length=rs[i].aj.length+1:=by simp [nk]
   have b3:ke cf md (nk rs[i] x)=ke cf md rs[i]:=rfl
   have a6:(nk rs[i] x).done=rs[i].done:=rfl
   refine ⟨by rw [a1,a6];omega,by rw [a1,a6];omega,?_,fun j hj=>?_,fun _=>?_⟩
   ·show (rs[i].aj++[x]).Nodup
    rw [List.nodup_append]
    exact ⟨hr.nd,by simp,fun a ha b hb=>by
     rw [List.mem_singleton] at hb
     subst hb
     exact fun he=>nr _ (List.getElem_mem hi) (he▸ha)⟩
   ·rw [b3]
    by_cases a2:j<rs[i].aj.length
    ·have e1:(nk rs[i] x).aj[j]=rs[i].aj[j]:=List.getElem_append_left a2
     rw [e1,a0,if_neg (fun hx:rs[i].aj[j]=x=>nr _ (List.getElem_mem hi) (hx▸List.getElem_mem a2))]
     exact hr.co j a2
    ·have b4:j=rs[i].aj.length:=by omega
     have e1:(nk rs[i] x).aj[j]=x:=by
      rw [List.getElem_of_eq (show (nk rs[i] x).aj=rs[i].aj++[x] from rfl) hj,List.getElem_append_right (by omega)];simp
     rw [e1,a0,if_pos rfl]
     refine ⟨rfl,?_⟩
     rw [List.drop_of_length_le]
     ·rfl
     ·unfold ke
      rw [rh,List.length_take]
      simp only [List.length_nil]
      omega
   ·have:du (nk rs[i] x)=x:=by
     unfold du
     rw [a1]
     show (rs[i].aj++[x]).getD _ 0=x
     rw [List.getD_eq_getElem?_getD,List.getElem?_append_right (by omega)];simp
    rw [this,a0,if_pos rfl]
 ·cases ht
end
end Go.Proofs.YtkbikekbaboclaaGreat.fo
set_option linter.unusedVariables false
set_option linter.unusedSimpArgs false
namespace Go.Proofs.YtkbikekbaboclaaGreat.fo
open Go Go.Proofs V Vc Step bh dh ee fv qn Go.RowKit
open gm (da di dl ik)
section
variable {cf:ep} {md:rY} {ps ps':List ak} {es es':List bw} {rs rs':List bo} {r r':bo} {e:bw} {p x v:Int} {i j k:Nat} {l:List Int} {g:ak}
theorem il.live (h:il cf md k ps es rs) (hr:r∈rs) (hp:p∈r.aj):mr ps p=true:=by
 have:=Cf (p:=p) hr
 have:=List.count_pos_iff.2 hp
 have:=h.us p
 exact decide_eq_true (by omega)
theorem BY:(ke cf md r).length=min r.done r.dg.length:=by
 unfold ke;rw [rh,List.length_take];simp
theorem ez.past (h:ez cf md ps r) (hd:r.done≤r.dg.length) (hu:∀ p∈r.aj,mr ps p=true):uQ ps r=ke cf md r:=by
 have main:∀ n,n≤r.aj.length→ms ps (r.aj.take n)=(ke cf md r).take (4*n):=by
  intro n
  induction n with
  | zero=>intro _;simp [ms]
  | succ n ih =>
   intro hn
   rw [Step.au _ _ (show n<r.aj.length by omega),By,ih (by omega),hu _ (List.getElem_mem _),if_pos rfl,(h.co n (by omega)).2,show 4*(n+1)=4*n+4 by omega,List.take_add]
 have:=main _ (Nat.le_refl _)
 rw [List.take_length,List.take_of_length_le (by rw [BY];have:=h.lo;omega)] at this
 exact this
theorem il.past (h:il cf md k ps es rs) (hr:r∈rs) (hp:ez cf md ps r) (hd:r.done≤r.dg.length):uQ ps r=ke cf md r:=hp.past hd (fun p hp=>h.live hr hp)
theorem BZ (h:0<r.aj.length):du r=r.aj[r.aj.length-1]:=by
 unfold du;rw [List.getD_eq_getElem?_getD,List.getElem?_eq_getElem (by omega)];rfl
theorem il.own (h:il cf md k ps es rs) (hi:i<rs.length) (hx:x∈rs[i].aj) (hu:(ax ps x).ar=1):cE es x=0∧cR (rs.eraseIdx i) x=0:=by
 have h1:=h.us x
 have h2:=List.count_pos_iff.2 hx
 have h3:=Fm (p:=x) hi
 omega
theorem EM (h:cR rs x=0) (hr:r∈rs):x ∉ r.aj:=fun hx=>by
 have:=List.count_pos_iff.2 hx
 have:=Cf (p:=x) hr
 omega
theorem il.put (h:il cf md k ps es rs) (hi:i<rs.length) (hp:ez cf md ps rs[i]) (b3:rs[i].done<4*rs[i].aj.length) (hd:rs[i].done<rs[i].dg.length)
  {r2:bo} (h1:r2.aj=rs[i].aj) (h2:r2.done=rs[i].done+1) (h3:r2.ask=rs[i].ask) (h4:r2.dg.take (rs[i].done+1)=rs[i].dg.take (rs[i].done+1)) :
  il cf md k (sf ps (du rs[i]) (nL cf (md rs[i].ask.ver) (ke cf md rs[i]) (tY rs[i]))) es (rs.set i r2)∧(∀ r∈rs.eraseIdx i,ez cf md ps r→ez cf md (sf ps (du rs[i]) (nL cf (md rs[i].ask.ver) (ke cf md rs[i]) (tY rs[i]))) r) ∧
   ez cf md (sf ps (du rs[i]) (nL cf (md rs[i].ask.ver) (ke cf md rs[i]) (tY rs[i]))) r2∧(ax (sf ps (du rs[i]) (nL cf (md rs[i].ask.ver) (ke cf md rs[i]) (tY rs[i]))) (du rs[i])).ar=1:=by
 have b4:=hp.lo
 have b5:=hp.hi
 have a3:=hp.ne (by omega)
 have a1:=List.length_pos_iff.2 a3
 have hu:=hp.pt (by omega)
 have hm:=BP a3
 obtain ⟨o1,o2⟩:=h.own hi hm hu
 have a2:=BZ a1
 obtain ⟨c1,c2⟩:=hp.co (rs[i].aj.length-1) (by omega)
 rw [← a2] at c1 c2
 have a6:(ke cf md rs[i]).length=rs[i].done:=by rw [BY];omega
 obtain ⟨E,hE⟩:∃ E,nL cf (md rs[i].ask.ver) (ke cf md rs[i]) (tY rs[i])=E:=⟨_,rfl⟩
 have a8:ke cf md r2=ke cf md rs[i]++[E]:=by
  unfold ke
  rw [h3,h2,h4,Step.au _ _ hd,xJ]
  show nu cf _ _ [_]=_
  rw [nu,nu,← hE]
  unfold ke tY
  rw [List.getD_eq_getElem?_getD,List.getElem?_eq_getElem hd];rfl
 rw [hE]
 generalize du rs[i]=x at a2 c1 c2 o1 o2 hm hu ⊢
 obtain ⟨x0,x1⟩:=ES (ps:=ps) (p:=x) (by omega)
 have b6:(ax ps x).es.length<4:=by rw [c2,List.length_take,List.length_drop,a6];omega
 have a9:ER ps x=0:=by
  unfold ER
  rw [if_pos (show mr ps x=true from decide_eq_true (by omega)),if_neg (by omega),if_neg (by omega)]
 have a5:sf ps x E=ps.set x.toNat { ax ps x with es:=(ax ps x).es++[E] }:=by unfold sf;rw [if_pos a9]
 rw [a5]
 have a4:∀ p,ax (ps.set x.toNat { ax ps x with es:=(ax ps x).es++[E] }) p=if p=x then { ax ps x with es:=(ax ps x).es++[E] } else ax ps p:=fun p=>wo x0 x1 p
 have a0:∀ p,(ax (ps.set x.toNat { ax ps x with es:=(ax ps x).es++[E] }) p).ar=(ax ps p).ar:=fun p=>by
  rw [a4]
  by_cases e:p=x
  ·subst e;rw [if_pos rfl]
  ·rw [if_neg e]
 refine ⟨⟨by rw [List.length_set];exact h.len,fun p=>?_,h.nd,fun e he=>?_⟩,fun r hr hp=>hp.af (fun p hp=>?_) (fun hm h1=>?_),⟨by rw [h1,h2];omega,by rw [h1,h2];omega,by rw [h1];exact hp.nd,fun j hj=>?_,fun _=>?_⟩,by rw [a0];exact hu⟩
 ·have:=Li (p:=p) hi r2
  rw [h1] at this
  rw [a0,h.us];omega
 ·have hE:=h.en e he
  have a3:e.page≠x:=fun hx=>by have:=Ij he;rw [hx] at this;omega
  refine ⟨hE.m4,hE.ln,hE.vr,?_,?_⟩ <;> rw [a4,if_neg a3]
  ·exact hE.ver
  ·exact hE.es
 ·rw [a4,if_neg (fun hx:p=x=>EM o2 hr (hx▸hp))];exact ⟨rfl,rfl⟩
 ·rw [a0];exact h1
 ·rw [a8,h3]
  have b2:j<rs[i].aj.length:=by rw [← h1];exact hj
  have e1:r2.aj[j]=rs[i].aj[j]:=List.getElem_of_eq h1 hj
  rw [e1,a4]
  by_cases a7:j=rs[i].aj.length-1
  ·subst a7
   rw [if_pos a2.symm]
   refine ⟨c1,?_⟩
   show (ax ps x).es++[E]=_
   rw [c2,List.drop_append_of_le_length (by omega),List.take_append,List.length_drop,a6,List.take_of_length_le (l:=[E]) (by simp;omega)]
  ·rw [if_neg (fun hx=>by
    have hx:rs[i].aj[j]=x:=hx
    rw [a2] at hx
    exact a7 ((List.getElem_inj hp.nd).1 hx))]
   obtain ⟨d1,d2⟩:=hp.co j b2
   refine ⟨d1,?_⟩
   rw [d2,List.drop_append_of_le_length (by omega),List.take_append_of_le_length (by rw [List.length_drop];omega)]
 ·have:du r2=x:=by
   rw [BZ (by rw [h1];exact a1),a2]
   simp only [h1]
  rw [this,a0];exact hu
theorem il.add (h:il cf md k ps es rs) (hi:i<rs.length) (hp:ez cf md ps rs[i]) (hd:rs[i].done=4*rs[i].aj.length) (h0:0<rs[i].aj.length) (a7:rs[i].done≤32) (a8:rs[i].done≤rs[i].dg.length) (hu:(ax ps (du rs[i])).ar=1) (hv:1≤rs[i].ask.ver∧rs[i].ask.ver≤md.vm) :
  il cf md k (ul ps es (du rs[i]) rs[i].ask.ver (rs[i].dg.take rs[i].done)) (zN ps es (du rs[i]) rs[i].ask.ver (rs[i].dg.take rs[i].done)) rs ∧
   (∀ r∈rs.eraseIdx i,ez cf md ps r→ez cf md (ul ps es (du rs[i]) rs[i].ask.ver (rs[i].dg.take rs[i].done)) r)∧ez cf md (ul ps es (du rs[i]) rs[i].ask.ver (rs[i].dg.take rs[i].done)) rs[i]:=by
 obtain ⟨t,ht⟩:∃ t,rs[i].dg.take rs[i].done=t:=⟨_,rfl⟩
 have a9:t.length=rs[i].done:=by rw [← ht,List.length_take];omega
 have a3:ke cf md rs[i]=nu cf (md rs[i].ask.ver) [] t:=by unfold ke;rw [ht]
 have hm:=BP (List.length_pos_iff.1 h0)
 have a2:=BZ h0
 obtain ⟨c1,c2⟩:=hp.co (rs[i].aj.length-1) (by omega)
 rw [← a2] at c1 c2
 obtain ⟨o1,o2⟩:=h.own hi hm hu
 rw [ht]
 unfold ul zN
 by_cases he:pI ps es (du rs[i]) rs[i].ask.ver t=0
 ·rw [if_pos he,if_pos he]
  generalize du rs[i]=x at a2 c1 c2 o1 o2 hm hu ⊢
  obtain ⟨x0,x1⟩:=ES (ps:=ps) (p:=x) (by omega)
  have a0:=fun p=>Mm x0 x1 1 p
  have a4:∀ p,cE (es++[⟨rs[i].ask.ver,t,x⟩]) p=cE es p+if p=x then 1 else 0:=fun p=>by
   unfold cE
   rw [List.map_append,List.count_append]
   by_cases e:p=x
   ·subst e;simp
   ·rw [if_neg e]
    simp [List.count_cons_of_ne (fun h=>e h.symm)]
  refine ⟨⟨by rw [pd];exact h.len,fun p=>?_,?_,fun e he=>?_⟩,fun r hr a1=>a1.af (fun p _=>(a0 p).2) (fun a5 h1=>?_),?_⟩
  ·rw [(a0 p).1,a4,h.us]
   split <;> omega
  ·rw [List.map_append,List.nodup_append]
   refine ⟨h.nd,by simp,fun a ha b hb=>?_⟩
   simp only [List.map_cons,List.map_nil,List.mem_singleton] at hb
   subst hb
   exact fun hx=>by
    have:=List.count_pos_iff.2 (hx▸ha)
    unfold cE at o1;omega
  ·rcases List.mem_append.1 he with he|he
   ·have hE:=h.en e he
    exact ⟨hE.m4,hE.ln,hE.vr,(a0 _).2.1.trans hE.ver,(a0 _).2.2.trans hE.es⟩
   ·rw [List.mem_singleton] at he
    subst he
    refine ⟨by show t.length % 4=0;omega,⟨by show 0<t.length;omega,by show t.length≤32;omega⟩,hv,(a0 _).2.1.trans c1,(a0 _).2.2.trans ?_⟩
    rw [c2,a3]
    show List.take 4 (List.drop _ _)=List.drop (t.length-4) _
    rw [show t.length-4=4*(rs[i].aj.length-1) by omega,List.take_of_length_le]
    rw [List.length_drop,rh];simp;omega
  ·have a6:du r≠x:=fun hx=>EM o2 hr (hx▸a5)
   rw [(a0 _).1,if_neg a6];omega
  ·exact ⟨hp.lo,hp.hi,hp.nd,fun j hj=>by rw [(a0 _).2.1,(a0 _).2.2];exact hp.co j hj,fun hn=>absurd hd hn⟩
 ·rw [if_neg he,if_neg he]
  exact ⟨h,fun r hr a1=>a1,hp⟩
theorem Fg (ps:List ak) (r:bo):(lh ps r).aj=r.aj∧(lh ps r).done=r.done+1∧(lh ps r).ask=r.ask∧(lh ps r).c=r.c∧(lh ps r).wt=r.wt∧∃ l,(lh ps r).said=r.said++l:=by
 unfold lh Bl
 split
 ·exact ⟨rfl,rfl,rfl,rfl,rfl,[],by simp⟩
 ·exact ⟨rfl,rfl,rfl,rfl,rfl,_,rfl⟩
theorem IW (ps:List ak) (r:bo) {n:Nat} (h:n≤r.dg.length):(lh ps r).dg.take n=r.dg.take n:=by
 obtain ⟨_,_,h3,_,_,l,hl⟩:=Fg ps r
 unfold bo.dg at h ⊢
 rw [h3,hl,← List.append_assoc,List.take_append_of_le_length h]
theorem il.go (h:il cf md k ps es rs) (hi:i<rs.length) (hp:ez cf md ps rs[i]) (hc:rs[i].c=cf∧rs[i].wt=md rs[i].ask.ver) (a8:rs[i].done<4*rs[i].aj.length) (hd:rs[i].done<rs[i].dg.length) (b6:rs[i].dg.length≤32) (hv:1≤rs[i].ask.ver∧rs[i].ask.ver≤md.vm) :
  il cf md k (ux ps es rs[i]) (xD ps es rs[i]) (rs.set i (lh ps rs[i]))∧(∀ r∈rs.eraseIdx i,ez cf md ps r→ez cf md (ux ps es rs[i]) r)∧ez cf md (ux ps es rs[i]) (lh ps rs[i]):=by
 obtain ⟨g1,g2,g3,g4,g5,_⟩:=Fg ps rs[i]
 have a0:=h.past (List.getElem_mem hi) hp (by omega)
 have a5:qS ps rs[i]=nL cf (md rs[i].ask.ver) (ke cf md rs[i]) (tY rs[i]):=by unfold qS;rw [hc.1,hc.2,a0]
 obtain ⟨a1,a2,a3,a4⟩:=h.put hi hp a8 hd g1 g2 g3 (IW ps rs[i] (by omega))
 rw [← a5] at a1 a2 a3 a4
 unfold ux xD
 by_cases h4:(rs[i].done+1) % 4=0
 ·rw [if_pos h4,if_pos h4]
  have a9:i<(rs.set i (lh ps rs[i])).length:=by rw [List.length_set];exact hi
  have a6:(lh ps rs[i]).dg.take (rs[i].done+1)=rs[i].dg.take (rs[i].done+1):=IW ps rs[i] (by omega)
  have b4:rs[i].done+1≤(lh ps rs[i]).dg.length:=by
   have:=congrArg List.length a6
   rw [List.length_take,List.length_take] at this;omega
  have a7:du (lh ps rs[i])=du rs[i]:=by unfold du;rw [g1]
  have b7:=hp.hi
  have hA:=il.add a1 a9 (by rw [List.getElem_set_self];exact a3) (by rw [List.getElem_set_self,g1,g2];omega) (by rw [List.getElem_set_self,g1];omega) (by rw [List.getElem_set_self,g2];omega) (by rw [List.getElem_set_self,g2];exact b4) (by rw [List.getElem_set_self,a7];exact a4) (by rw [List.getElem_set_self,g3];exact hv)
  simp only [List.getElem_set_self,a7,g3,g2,a6] at hA
  obtain ⟨b1,b2,b3⟩:=hA
  refine ⟨b1,fun r hr b5=>b2 r ?_ (a2 r hr b5),b3⟩
  rw [gf] at hr ⊢
  rw [List.take_set_of_le (by omega),List.drop_set_of_lt (by omega)]
  exact hr
 ·rw [if_neg h4,if_neg h4]
  exact ⟨a1,a2,a3⟩
end
end Go.Proofs.YtkbikekbaboclaaGreat.fo
set_option linter.unusedVariables false
set_option linter.unusedSimpArgs false
namespace Go.Proofs.YtkbikekbaboclaaGreat.fo
open Go Go.Proofs V Vc Step bh dh ee fv qn Go.RowKit
open gm (da di dl ik)
def gk (cf:ep) (md:rY) (a:da):List Int:=rI.LL cf (md a.ver) (rI.CL a.draws) a.most a.ai
section
variable {cf:ep} {md:rY} {ps ps':List ak} {es es':List bw} {rs rs':List bo} {r r':bo} {e:bw} {p x v:Int} {i j k:Nat} {l:List Int} {g:ak}
theorem jt.ai (h:jt cf md k r):r.ask.ai≠[]∧1≤r.ask.most∧r.ask.most≤32∧(∀ t∈r.ask.ai,AU cf t)∧(r.ask.ai.length:Int)+r.ask.most≤cf.context:=rI.xV h.ok
theorem jt.le (h:jt cf md k r):r.said.length≤(gk cf md r.ask).length:=by
 have:=congrArg List.length h.sd
 rw [List.length_take] at this
 unfold gk;omega
theorem jt.len (h:jt cf md k r):(r.dg.length:Int)<cf.context:=by
 obtain ⟨_,_,_,_,h5⟩:=h.ai
 have:=h.sm
 unfold bo.dg
 rw [List.length_append];omega
theorem jt.tok (h:jt cf md k r) (hv:0<cf.vocab):∀ t∈r.dg,AU cf t:=fun t ht=>by
 obtain ⟨h1,_,_,h4,_⟩:=h.ai
 unfold bo.dg at ht
 rcases List.mem_append.1 ht with ht|ht
 ·exact h4 t ht
 ·rw [h.sd] at ht
  have:=rI.Je hv (rI.Ix _) _ _ _ _ (rI.Ju h1) t (List.mem_of_mem_take ht)
  exact ⟨by omega,this.2⟩
theorem jt.SM (h:jt cf md k r) (m:Md cf (md r.ask.ver)) (hp:ez cf md ps r) (a0:uQ ps r=ke cf md r) (a3:r.done<4*r.aj.length):Oo ps r:=by
 have hl:=h.len
 have hd:=h.dn
 have a4:=hp.hi
 have a1:=m.ok.2.2.2.2.2.1
 have ht:=h.tok (by have:=m.ok.1;omega)
 have a2:(ke cf md r).length=r.done:=by rw [BY];omega
 refine ⟨⟨by omega,by omega⟩,by omega,hd,?_,?_,by rw [a0,a2,h.c];omega⟩
 ·rw [a0,h.c]
  exact xT m _ (fun e he=>by cases he) (fun t hx=>ht t (List.mem_of_mem_take hx)) (by rw [List.length_take];simp;omega)
 ·rw [h.c]
  refine ht _ ?_
  unfold tY
  rw [List.getD_eq_getElem?_getD,List.getElem?_eq_getElem hd]
  exact List.getElem_mem _
theorem jt.go (h:jt cf md k r) (a2:uQ ps r=ke cf md r):(BQ ps r=false→jt cf md k (lh ps r))∧(BQ ps r=true→(lh ps r).said=gk cf md r.ask∧r.ask.ai.length≤r.done+1):=by
 have hd:=h.dn
 have a9:=h.sl
 have b2:r.dg.length=r.ask.ai.length+r.said.length:=by unfold bo.dg;rw [List.length_append]
 have b3:=List.length_pos_iff.2 h.ai.1
 by_cases hA:r.done+1<r.dg.length
 ·have e1:lh ps r={ r with done:=r.done+1 }:=by
   unfold lh Bl
   rw [if_pos (.inl hA)]
  have e2:BQ ps r=false:=by
   unfold BQ Gb
   exact if_pos hA
  rw [e1,e2]
  refine ⟨fun _=>⟨h.c,h.wt,h.ver,h.ok,h.need,h.sd,?_,h.sm,hA⟩,fun hx=>by cases hx⟩
  show r.said.length=r.done+1+1-r.ask.ai.length
  omega
 ·have a5:r.done+1=r.dg.length:=by omega
  have hk:=h.le
  have hD:=rI.GQ (c:=cf) (wt:=md r.ask.ver) (tk:=rI.CL r.ask.draws) r.said.length r.ask.most.toNat 0 (nu cf (md r.ask.ver) [] r.ask.ai) (mu cf (md r.ask.ver) [] [] r.ask.ai) hk
  have a3:List.take r.said.length (rI.qR cf (md r.ask.ver) (rI.CL r.ask.draws) r.ask.most.toNat 0 (nu cf (md r.ask.ver) [] r.ask.ai) (mu cf (md r.ask.ver) [] [] r.ask.ai))=r.said:=h.sd.symm
  rw [a3,← xJ,← Bu] at hD
  have a6:mu cf (md r.ask.ver) [] [] (r.ask.ai++r.said)=Eg ps r:=by
   have ht:r.ask.ai++r.said=r.dg.take r.done++[tY r]:=by
    have:tY r=r.dg[r.done]:=by unfold tY;rw [List.getD_eq_getElem?_getD,List.getElem?_eq_getElem hd];rfl
    rw [this,← Step.au _ _ hd,a5,List.take_length];rfl
   rw [ht,Bu,qn.mu,qn.mu]
   unfold Eg
   rw [a2,h.c,h.wt];rfl
  rw [a6] at hD
  have b4:=h.sm
  obtain ⟨f,hf⟩:∃ f,r.ask.most.toNat-r.said.length=f+1:=⟨r.ask.most.toNat-r.said.length-1,by omega⟩
  have a7:rI.CL r.ask.draws (0+r.said.length) (Eg ps r)=sr { r with done:=r.done+1 } (Eg ps r):=by rw [Nat.zero_add];rfl
  rw [hf,rI.qR,a7] at hD
  have a4:¬ ({ r with done:=r.done+1 }:bo).done<({ r with done:=r.done+1 }:bo).dg.length:=hA
  unfold BQ lh Gb Bl
  simp only [if_neg a4]
  by_cases h0:sr { r with done:=r.done+1 } (Eg ps r)=0
  ·rw [if_pos h0] at hD ⊢
   rw [if_pos (.inr h0)]
   refine ⟨fun hx=>(by cases hx),fun _=>⟨?_,by omega⟩⟩
   have a8:(gk cf md r.ask).length≤r.said.length:=List.drop_eq_nil_iff.1 hD.symm
   show r.said=_
   rw [h.sd]
   exact List.take_of_length_le a8
  ·rw [if_neg h0] at hD ⊢
   rw [if_neg (fun hx=>hx.elim a4 h0)]
   generalize sr { r with done:=r.done+1 } (Eg ps r)=t at h0 hD ⊢
   have a1:(gk cf md r.ask).take (r.said.length+1)=r.said++[t]:=by
    rw [List.take_add,show (gk cf md r.ask).drop r.said.length=_ from hD.symm]
    rw [show (gk cf md r.ask).take r.said.length=r.said from h.sd.symm];rfl
   have a0:(r.said++[t]).length=r.said.length+1:=by simp
   refine ⟨fun hx=>⟨h.c,h.wt,h.ver,h.ok,h.need,?_,?_,?_,?_⟩,fun hx=>⟨?_,by omega⟩⟩
   ·show r.said++[t]=_
    rw [a0];exact a1.symm
   ·show (r.said++[t]).length=r.done+1+1-r.ask.ai.length
    rw [a0];omega
   ·show ((r.said++[t]).length:Int)<r.ask.most
    rw [a0]
    have hx:(((r.said.length+1:Nat):Int)==r.ask.most)=false:=hx
    have:((r.said.length+1:Nat):Int)≠r.ask.most:=by simpa using hx
    omega
   ·show r.done+1<(r.ask.ai++(r.said++[t])).length
    rw [List.length_append,a0];omega
   ·show r.said++[t]=_
    rw [← a1,List.take_of_length_le]
    have hx:((r.said.length+1:Nat):Int)=r.ask.most:=eq_of_beq hx
    have:=rI.wX (c:=cf) (wt:=md r.ask.ver) (tk:=rI.CL r.ask.draws) r.ask.most.toNat 0 (nu cf (md r.ask.ver) [] r.ask.ai) (mu cf (md r.ask.ver) [] [] r.ask.ai)
    show (rI.qR _ _ _ _ _ _ _).length≤_
    omega
theorem CJ {v:Int} {t:List Int}:∀ (f i:Nat) (es:List bw) (out:List Int),out.length=i→(∀ a (h:a<out.length),∃ e∈es,hasB v (t.take (4*a+4)) e=true∧e.page=out[a])→(i=0∨4*i<t.length) →
  ((oz v t f (4*i+4) es out).1.Perm es∧(∀ a (h:a<(oz v t f (4*i+4) es out).2.length),∃ e∈es,hasB v (t.take (4*a+4)) e=true∧e.page=(oz v t f (4*i+4) es out).2[a])∧((oz v t f (4*i+4) es out).2.length=0∨4*(oz v t f (4*i+4) es out).2.length<t.length))
 | 0,i,es,out,hl,h1,h2=>by
  subst hl
  exact ⟨List.Perm.refl _,h1,h2⟩
 | f+1,i,es,out,hl,h1,h2=>by
  by_cases a3:4*i+4<t.length
  ·by_cases a1:es.findIdx (hasB v (t.take (4*i+4)))<es.length
   ·rw [zT a3 a1]
    have hp:=List.findIdx_getElem (w:=a1)
    generalize es.findIdx (hasB v (t.take (4*i+4)))=q at a1 hp
    have a0:=zr a1
    have hm:es[q]∈es:=List.getElem_mem a1
    have h4:4*i+4+4=4*(i+1)+4:=by omega
    rw [h4]
    obtain ⟨r1,r2,r3⟩:=CJ f (i+1) (es.eraseIdx q++[es[q]]) (out++[es[q].page]) (by simp [hl]) (fun a ha=>by
     by_cases a2:a<out.length
     ·obtain ⟨e,he,hh,hp⟩:=h1 a a2
      exact ⟨e,a0.mem_iff.2 he,hh,by rw [List.getElem_append_left a2];exact hp⟩
     ·rw [List.length_append,List.length_singleton] at ha
      have a4:a=i:=by omega
      subst a4
      exact ⟨_,a0.mem_iff.2 hm,hp,by rw [List.getElem_append_right (by omega)];simp⟩) (.inr (by omega))
    refine ⟨r1.trans a0,fun a ha=>?_,r3⟩
    obtain ⟨e,he,hh⟩:=r2 a ha
    exact ⟨e,a0.mem_iff.1 he,hh⟩
   ·rw [ur a1]
    subst hl
    exact ⟨List.Perm.refl _,h1,h2⟩
  ·rw [zO (by omega)]
   subst hl
   exact ⟨List.Perm.refl _,h1,h2⟩
theorem ID (es:List bw) (v:Int) (t:List Int):(bz es v t).1.Perm es∧(∀ a (h:a<(bz es v t).2.length),∃ e∈es,hasB v (t.take (4*a+4)) e=true∧e.page=(bz es v t).2[a])∧((bz es v t).2.length=0∨4*(bz es v t).2.length<t.length) :=
 CJ t.length 0 es [] rfl (fun a ha=>by simp at ha) (.inl rfl)
theorem HY {t:List Int} (h:hasB v t e=true):e.ver=v∧e.dg=t:=by
 unfold dh.hasB at h
 rw [Bool.and_eq_true] at h
 exact ⟨eq_of_beq h.1,dQt h.2⟩
theorem Gv (c:ep) (wt:ByteArray) (past:List gr) (t:List Int) (n:Nat):nu c wt past (t.take n)=(nu c wt past t).take (past.length+(t.take n).length):=by
 obtain ⟨l,hl⟩:=IS (c:=c) (wt:=wt) (t.drop n) (nu c wt past (t.take n))
 rw [← xJ,List.take_append_drop] at hl
 rw [hl,← rh (c:=c) (wt:=wt) (t.take n) (past:=past),List.take_left]
theorem il.join (h:il cf md k ps es rs) (wt:ByteArray) {a:da} (hp:a.ai≠[]) :
  il cf md k (mo ps (bz es a.ver a.ai).2) (bz es a.ver a.ai).1 (rs++[gp cf wt a (bz es a.ver a.ai).2])∧(∀ r∈rs,ez cf md ps r→ez cf md (mo ps (bz es a.ver a.ai).2) r) ∧
   ez cf md (mo ps (bz es a.ver a.ai).2) (gp cf wt a (bz es a.ver a.ai).2)∧4*(bz es a.ver a.ai).2.length<a.ai.length:=by
 obtain ⟨h1,h2,h3⟩:=ID es a.ver a.ai
 have a5:=List.length_pos_iff.2 hp
 generalize (bz es a.ver a.ai).1=a6 at h1 ⊢
 generalize (bz es a.ver a.ai).2=l at h2 h3 ⊢
 have h3:4*l.length<a.ai.length:=by omega
 have a7:∀ x∈l,∃ e∈es,e.page=x:=fun x hx=>by
  obtain ⟨n,hn,rfl⟩:=List.getElem_of_mem hx
  obtain ⟨e,he,_,hp⟩:=h2 n hn
  exact ⟨e,he,hp⟩
 have hu:∀ x∈l,1≤cE es x:=fun x hx=>by
  obtain ⟨e,he,rfl⟩:=a7 x hx
  exact Ij he
 have hb:gg ps l=true:=by
  unfold gg
  rw [List.all_eq_true]
  exact fun x hx=>decide_eq_true (by have:=hu x hx;have:=h.us x;omega)
 have a8:mo ps l=fe ps l:=by unfold mo;rw [if_pos hb]
 have a0:=Ha (l:=l) (ps:=ps) (fun x hx=>ES (by have:=hu x hx;have:=h.us x;omega))
 have a9:∀ p,cE a6 p=cE es p:=fun p=>by unfold cE;exact (h1.map (·.page)).count_eq p
 rw [a8]
 refine ⟨⟨by rw [Ed];exact h.len,fun p=>?_,(h1.map (·.page)).nodup_iff.2 h.nd,fun e he=>?_⟩,fun r hr b3=>b3.af (fun p _=>(a0 p).2) (fun hm h1=>?_),⟨?_,?_,?_,fun j hj=>?_,fun hn=>?_⟩,h3⟩
 ·rw [(a0 p).1,a9,Ow,h.us]
  unfold gp
  simp only [cR]
  omega
 ·have hE:=h.en e (h1.mem_iff.1 he)
  exact ⟨hE.m4,hE.ln,hE.vr,(a0 _).2.1.trans hE.ver,(a0 _).2.2.trans hE.es⟩
 ·have:l.count (du r)=0:=List.count_eq_zero.2 fun hx=>by
   have a1:=hu _ hx
   have a2:=Cf (p:=du r) hr
   have a3:=List.count_pos_iff.2 hm
   have a4:=h.us (du r)
   omega
  rw [(a0 _).1,this];omega
 ·exact Nat.le_refl _
 ·show 4*l.length≤4*l.length+4
  omega
 ·show l.Nodup
  rw [List.nodup_iff_pairwise_ne,List.pairwise_iff_getElem]
  intro m n hm hn c8 he
  obtain ⟨e1,b4,b5,b6⟩:=h2 m hm
  obtain ⟨e2,b7,b8,b9⟩:=h2 n hn
  have c0:e1=e2:=by
   obtain ⟨i1,c4,rfl⟩:=List.getElem_of_mem b4
   obtain ⟨i2,c5,rfl⟩:=List.getElem_of_mem b7
   have:(es.map (·.page))[i1]'(by simpa using c4)=(es.map (·.page))[i2]'(by simpa using c5):=by simp only [List.getElem_map];rw [b6,b9,he]
   have:=(List.getElem_inj h.nd).1 this
   subst this;rfl
  have t1:=(HY b5).2
  have t2:=(HY b8).2
  rw [c0,t2] at t1
  have:=congrArg List.length t1
  rw [List.length_take,List.length_take] at this
  omega
 ·obtain ⟨e,he,hb,hp⟩:=h2 j hj
  obtain ⟨b1,b2⟩:=HY hb
  have hE:=h.en e he
  have c9:j<l.length:=hj
  have c6:(gp cf wt a l).aj[j]'hj=e.page:=hp.symm
  rw [c6,(a0 _).2.1,(a0 _).2.2]
  refine ⟨hE.ver.trans b1,?_⟩
  rw [hE.es,b1,b2]
  have c7:ke cf md (gp cf wt a l)=nu cf (md a.ver) [] (a.ai.take (4*l.length)):=by
   unfold ke gp bo.dg
   dsimp only
   rw [List.append_nil]
  rw [c7,Gv,Gv,List.length_take,List.length_take,List.length_nil,Nat.zero_add,Nat.zero_add,show min (4*j+4) a.ai.length-4=4*j by omega,show min (4*j+4) a.ai.length=4*j+4 by omega,show min (4*l.length) a.ai.length=4*l.length by omega]
  generalize nu cf (md a.ver) [] a.ai=X
  refine List.ext_getElem? fun n=>?_
  simp only [List.getElem?_take,List.getElem?_drop]
  by_cases hn:n<4
  ·rw [if_pos (by omega),if_pos hn,if_pos (by omega)]
  ·rw [if_neg (by omega),if_neg hn]
 ·exact absurd rfl hn
theorem jt.new {wt:ByteArray} {a:da} (hp:a.ai≠[]) (hl:4*l.length<a.ai.length) (hw:wt=md a.ver) (hv:1≤a.ver∧a.ver≤md.vm) (ok:rI.mh cf a.most a.ai=0) (need:gm.ny a≤k):jt cf md k (gp cf wt a l):=by
 have:=rI.xV ok
 refine ⟨rfl,hw,hv,ok,need,rfl,?_,?_,?_⟩
 ·show 0=4*l.length+1-a.ai.length
  omega
 ·show ((0:Nat):Int)<a.most
  omega
 ·show 4*l.length<(a.ai++[]).length
  rw [List.append_nil];exact hl
theorem xH (v:Int):∀ {fs:List bw} {ps:List ak},(∀ p,((((fs.filter (fun e=>e.ver==v)).map (·.page)).count p:Nat):Int)≤(ax ps p).ar)→uL v ps fs=ek ps ((fs.filter (fun e=>e.ver==v)).map (·.page))
 | [],ps,h=>rfl
 | e :: fs,ps,h=>by
  have e1:uL v ps (e :: fs)=uL v (FD v ps e) fs:=rfl
  rw [e1]
  unfold FD
  rw [List.filter_cons] at h ⊢
  cases hv:e.ver==v with
  | false =>
   rw [hv] at h
   exact xH v (by simpa using h)
  | true =>
   rw [hv] at h
   simp only [if_true,List.map_cons] at h ⊢
   have a0:∀ p,(([e.page].count p:Nat):Int)≤(ax ps p).ar:=fun p=>by
    have:=h p
    rw [List.count_cons] at this ⊢
    simp only [List.count_nil]
    omega
   have hd:qM ps e.page=ek ps [e.page]:=qZ a0
   rw [hd,xH v (fun p=>?_)]
   ·rfl
   ·have:=h p
    have h2:=(xu a0 p).1
    rw [List.count_cons] at this h2
    simp only [List.count_nil] at h2
    omega
theorem uy (v p:Int):∀ es:List bw,cE (es.filter (js v)) p+((es.filter (fun e=>e.ver==v)).map (·.page)).count p=cE es p
 | []=>rfl
 | e :: es=>by
  have ih:=uy v p es
  unfold cE at ih ⊢
  unfold js at ih ⊢
  rw [List.filter_cons,List.filter_cons,List.map_cons,List.count_cons]
  cases e.ver==v with
  | false=>simp only [Bool.not_false,if_true,List.map_cons,List.count_cons];simp;simp at ih;omega
  | true=>simp only [Bool.not_true,if_true,List.map_cons,List.count_cons];simp;simp at ih;omega
theorem il.forget (h:il cf md k ps es rs) (v:Int):il cf md k (uL v ps es) (es.filter (js v)) rs∧∀ r∈rs,ez cf md ps r→ez cf md (uL v ps es) r:=by
 have a0:∀ p,((((es.filter (fun e=>e.ver==v)).map (·.page)).count p:Nat):Int)≤(ax ps p).ar:=fun p=>by
  have:=uy v p es
  have:=h.us p
  omega
 rw [xH v a0,← qZ a0]
 exact h.drop (fun p=>by have:=uy v p es;omega) (List.Nodup.sublist (List.filter_sublist.map _) h.nd) (fun e he=>(List.mem_filter.1 he).1)
end
end Go.Proofs.YtkbikekbaboclaaGreat.fo
set_option linter.unusedVariables false
set_option linter.unusedSimpArgs false
namespace Go.Proofs.YtkbikekbaboclaaGreat.fo
open Go Go.Proofs V Vc Step bh dh ee fv qn Go.RowKit
open gm (da di dl ik)
theorem um:∀ {a b:List Int},a.Nodup→(∀ x∈a,x∈b)→a.length≤b.length
 | [],b,_,_=>Nat.zero_le _
 | x :: a,b,hn,hs=>by
  have hx:=hs x List.mem_cons_self
  obtain ⟨h1,h2⟩:=List.nodup_cons.1 hn
  have:=um (a:=a) (b:=b.erase x) h2 (fun y hy=>(List.mem_erase_of_ne (fun e:y=x=>h1 (e▸hy))).2 (hs y (List.mem_cons_of_mem _ hy)))
  rw [List.length_erase_of_mem hx] at this
  have:=List.length_pos_of_mem hx
  rw [List.length_cons];omega
def GB (ps:List ak):List Int:=((List.range ps.length).filter fun j:Nat=>mr ps (j:Int)).map fun j:Nat=>(j:Int)
section
variable {cf:ep} {md:rY} {ps ps':List ak} {es es':List bw} {rs rs':List bo} {r r':bo} {e:bw} {p x v:Int} {i j k:Nat} {l:List Int} {g:ak}
theorem Gq:x∈GB ps↔(ax ps x).ar>0:=by
 unfold GB
 simp only [List.mem_map,List.mem_filter,List.mem_range]
 constructor
 ·rintro ⟨j,⟨_,h⟩,rfl⟩;exact dQt h
 ·intro h
  obtain ⟨h0,h1⟩:=ES (ps:=ps) (p:=x) (by omega)
  have e:((x.toNat:Nat):Int)=x:=by omega
  exact ⟨x.toNat,⟨h1,by rw [e];exact decide_eq_true h⟩,e⟩
theorem zV:∀ {l:List Nat},l.Nodup→(l.map fun j:Nat=>(j:Int)).Nodup
 | [],_=>List.nodup_nil
 | x :: l,h=>by
  obtain ⟨h1,h2⟩:=List.nodup_cons.1 h
  rw [List.map_cons,List.nodup_cons]
  refine ⟨fun hx=>?_,zV h2⟩
  obtain ⟨y,hy,he⟩:=List.mem_map.1 hx
  have:y=x:=by omega
  exact h1 (this▸hy)
theorem Kc:(GB ps).Nodup:=zV (List.Nodup.sublist List.filter_sublist List.nodup_range)
theorem Hh:(GB ps).length+oW ps=ps.length:=by
 have main:∀ j,j≤ps.length→((List.range j).filter fun j:Nat=>mr ps (j:Int)).length+oW (ps.take j)=j:=by
  intro j
  induction j with
  | zero=>intro _;rfl
  | succ j ih =>
   intro hj
   have ih:=ih (by omega)
   have a0:j<ps.length:=by omega
   have hs:oW (ps.take (j+1))=oW (ps.take j)+(if mr ps (j:Int) then 0 else 1):=by
    unfold oW
    rw [Step.au ps j a0,List.filter_append,List.length_append,LY a0,List.filter_cons]
    by_cases hu:ps[j].ar>0
    ·rw [decide_eq_true hu];simp
    ·rw [decide_eq_false hu];simp
   rw [hs,List.range_succ,List.filter_append,List.length_append,List.filter_cons]
   cases mr ps (j:Int) <;> simp <;> omega
 have:=main _ (Nat.le_refl _)
 rw [List.take_length] at this
 unfold GB
 rw [List.length_map];exact this
theorem il.LQ (h:il cf md k ps es rs):oW ps+es.length≤k:=by
 have h1:=um h.nd (b:=GB ps) (fun x hx=>Gq.2 (by
  have:=List.count_pos_iff.2 hx
  have:=h.us x
  unfold cE at this;omega))
 have h2:=Hh (ps:=ps)
 rw [List.length_map] at h1
 have:=h.len;omega
theorem il.Qz (h:il cf md k ps es []):oW ps+es.length=k:=by
 have h0:=h.LQ
 have h1:=um (Kc (ps:=ps)) (b:=es.map (·.page)) (fun x hx=>by
  have:=Gq.1 hx
  have:=h.us x
  simp only [cR,Nat.add_zero] at this
  exact List.count_pos_iff.1 (by unfold cE at this;omega))
 have h2:=Hh (ps:=ps)
 rw [List.length_map] at h1
 have:=h.len;omega
theorem il.room (h:il cf md k ps es [r]) (hs:jt cf md k r) (a7:md.vm≤2147483647) (hd:r.done=4*r.aj.length) (ht:¬ (gj ps r.ask.ver).2=0) (he:¬ xt ps es<es.length):False:=by
 have hv:=hs.ver
 have a1:∀ x:Int,0≤x→x.toNat<k→1≤cE es x+r.aj.count x:=fun x h0 h1=>by
  unfold gj at ht
  rw [if_neg (by omega)] at ht
  split at ht
  ·exact absurd rfl ht
  ·rename_i a3
   have a4:x.toNat<ps.length:=by rw [h.len];exact h1
   have hn:=List.not_of_lt_findIdx (xs:=ps) (p:=fun p=>p.ar==0) (i:=x.toNat) (by unfold rz at a3;omega)
   have hu:¬ (ax ps x).ar=0:=by rw [ef h0 a4];simpa using hn
   have:=h.us x
   simp only [cR,Nat.add_zero] at this
   omega
 have a5:∀ x:Int,0≤x→x.toNat<k→x∈r.aj:=fun x h0 h1=>by
  apply Classical.byContradiction
  intro hx
  have hc:=List.count_eq_zero.2 hx
  have ha:=a1 x h0 h1
  obtain ⟨e,a6,hp⟩:=PW (es:=es) (p:=x) (by omega)
  have a8:cE es x≤1:=List.nodup_iff_count.1 h.nd x
  have hu:=h.us x
  simp only [cR,Nat.add_zero] at hu
  refine he ?_
  unfold xt
  refine List.findIdx_lt_length.2 ⟨e,a6,?_⟩
  rw [hp]
  unfold qH
  rw [if_pos (show mr ps x=true from decide_eq_true (by omega))]
  have:(ax ps x).ar=1:=by omega
  rw [this];rfl
 have hk:k≤r.aj.length:=by
  have:=um (zV (List.nodup_range (n:=k))) (b:=r.aj) (fun x hx=>by
   obtain ⟨j,hj,rfl⟩:=List.mem_map.1 hx
   exact a5 _ (by omega) (by have:=List.mem_range.1 hj;omega))
  simpa using this
 have a0:=hs.need
 obtain ⟨_,m1,m2,_,_⟩:=hs.ai
 unfold gm.ny at a0
 rw [if_neg (by omega),Int.tdiv_eq_ediv_of_nonneg (by omega)] at a0
 have a2:=hs.dn
 have a9:=hs.sm
 unfold bo.dg at a2
 rw [List.length_append] at a2
 omega
structure Tw (cf:ep) (md:rY) (k i:Nat) (s s':Cu) (m:Nat):Prop where
 inv:il cf md k s'.ps s'.es s'.rs
 es:s'.es.length≤s.es.length
 le:m≤s.rs.length∧i≤m∧0<m
 aw:s'.aw=s.aw++((s.rs.drop m).map (·.ask)).reverse
 yes:s'.ok=true→i<m∧∃ (r:bo) (pg:List Int),s.rs[i]?=some r∧s'.rs=(s.rs.take m).set i { r with aj:=pg }∧ez cf md s'.ps { r with aj:=pg }∧r.done<4*pg.length∧∀ r∈(s.rs.take m).eraseIdx i,ez cf md s'.ps r
 no:s'.ok=false→m=i∧s'.rs=s.rs.take m∧∀ r∈s'.rs,ez cf md s'.ps r
theorem Cl (a7:md.vm≤2147483647):∀ (f:Nat) (s:Cu),il cf md k s.ps s.es s.rs→(∀ r∈s.rs,ez cf md s.ps r∧jt cf md k r)→i<s.rs.length→s.ok=true→s.es.length+s.rs.length+1≤f→∃ m,Tw cf md k i s (lz i f s) m
 | 0,s,_,_,_,_,hf=>by omega
 | f+1,s,hI,hR,hi,a6,hf=>by
  have a5:s.rs[i]?=some s.rs[i]:=List.getElem?_eq_getElem hi
  obtain ⟨hp,hs⟩:=hR _ (List.getElem_mem hi)
  have hv:=hs.ver
  by_cases hd:s.rs[i].done≠4*s.rs[i].aj.length
  ·rw [vX a5 hd]
   refine ⟨s.rs.length,hI,Nat.le_refl _,⟨Nat.le_refl _,by omega,by omega⟩,by simp,fun _=>⟨hi,s.rs[i],s.rs[i].aj,a5,by rw [List.take_length];exact (List.set_getElem_self hi).symm,hp,by have:=hp.lo;omega,fun r hr=>?_⟩,fun hn=>by rw [a6] at hn;cases hn⟩
   rw [List.take_length] at hr
   exact (hR r (List.mem_of_mem_eraseIdx hr)).1
  ·by_cases ht:(gj s.ps s.rs[i].ask.ver).2=0
   ·rw [Ad a5 hd ht]
    obtain ⟨a1,a2,a3⟩:=hI.take hi ⟨hv.1,by omega⟩ ht hp (by omega)
    refine ⟨s.rs.length,a1,Nat.le_refl _,⟨Nat.le_refl _,by omega,by omega⟩,by simp,fun _=>⟨hi,s.rs[i],_,a5,by rw [List.take_length];rfl,a3,by rw [List.length_append];have:=hp.lo;simp;omega,fun r hr=>?_⟩,fun hn=>by rw [show ({ s with ps:=ou s.ps s.rs[i].ask.ver,rs:=s.rs.set i (nk s.rs[i] (gj s.ps s.rs[i].ask.ver).1) }:Cu).ok=s.ok from rfl,a6] at hn;cases hn⟩
    rw [List.take_length] at hr
    exact a2 r (List.mem_of_mem_eraseIdx hr) (hR r (List.mem_of_mem_eraseIdx hr)).1
   ·by_cases he:xt s.ps s.es<s.es.length
    ·rw [wQ a5 hd ht he]
     obtain ⟨a1,a2⟩:=hI.Rr he
     have b7:EK s.ps s.es=qM s.ps s.es[xt s.ps s.es].page:=by unfold EK;rw [List.getElem?_eq_getElem he]
     rw [← b7] at a1 a2
     have a9:(s.es.eraseIdx (xt s.ps s.es)).length=s.es.length-1:=by rw [List.length_eraseIdx,if_pos he]
     obtain ⟨m,h⟩:=Cl a7 f { s with ps:=EK s.ps s.es,es:=s.es.eraseIdx (xt s.ps s.es) } a1 (fun r hr=>⟨a2 r hr (hR r hr).1,(hR r hr).2⟩) hi a6 (by dsimp only;rw [a9];omega)
     exact ⟨m,h.inv,Nat.le_trans h.es (by dsimp only;rw [a9];omega),h.le,h.aw,h.yes,h.no⟩
    ·have hL:s.rs.length-1<s.rs.length:=by omega
     have b8:=List.getElem?_eq_getElem hL
     rw [Bw a5 hd ht he b8]
     have b9:s.rs.eraseIdx (s.rs.length-1)=s.rs.take (s.rs.length-1):=by
      rw [gf,List.drop_of_length_le (by omega),List.append_nil]
     have b5:s.rs.drop (s.rs.length-1)=[s.rs[s.rs.length-1]]:=by
      rw [List.drop_eq_getElem_cons hL,List.drop_of_length_le (by omega)]
     obtain ⟨a1,a2⟩:=hI.cut hL
     rw [b9] at a1 a2 ⊢
     have a0:∀ r∈s.rs.take (s.rs.length-1),r∈s.rs:=fun r hr=>List.mem_of_mem_take hr
     by_cases hl:s.rs.length-1=i
     ·rw [if_pos hl]
      have h0:i≠0:=fun h0=>by
       have h1:s.rs.length=1:=by omega
       obtain ⟨y,hy⟩:=List.length_eq_one_iff.1 h1
       have c0:s.rs[i]=y:=by simp [hy]
       rw [c0] at hs hd ht
       rw [hy] at hI
       exact hI.room hs a7 (by omega) ht he
      refine ⟨i,a1,Nat.le_refl _,⟨by omega,Nat.le_refl _,by omega⟩,by rw [← hl,b5];rfl,fun hn=>(by cases hn),fun _=>⟨rfl,by show s.rs.take (s.rs.length-1)=s.rs.take i;rw [hl],fun r hr=>a2 r hr (hR r (a0 r hr)).1⟩⟩
     ·rw [if_neg hl]
      have a4:(s.rs.take (s.rs.length-1)).length=s.rs.length-1:=by rw [List.length_take];omega
      obtain ⟨m,h⟩:=Cl a7 f ⟨fk s.ps s.rs[s.rs.length-1].aj,s.es,s.rs.take (s.rs.length-1),s.aw++[s.rs[s.rs.length-1].ask],s.ok⟩ a1 (fun r hr=>⟨a2 r hr (hR r (a0 r hr)).1,(hR r (a0 r hr)).2⟩) (by dsimp only;rw [a4];omega) a6 (by dsimp only;rw [a4];omega)
      have hm:=h.le
      dsimp only at hm
      rw [a4] at hm
      have b6:(s.rs.take (s.rs.length-1)).take m=s.rs.take m:=by rw [List.take_take,Nat.min_eq_left (by omega)]
      have a8:(s.rs.take (s.rs.length-1))[i]?=s.rs[i]?:=by rw [List.getElem?_take,if_pos (by omega)]
      refine ⟨m,h.inv,h.es,⟨by omega,hm.2⟩,?_,fun hy=>?_,fun hn=>?_⟩
      ·have c4:s.rs.drop m=(s.rs.take (s.rs.length-1)).drop m++[s.rs[s.rs.length-1]]:=by
        have h1:=(List.take_append_drop (s.rs.length-1-m) (s.rs.drop m)).symm
        rw [List.drop_drop,show m+(s.rs.length-1-m)=s.rs.length-1 by omega] at h1
        rw [← b5,List.drop_take]
        exact h1
       have:=h.aw
       dsimp only at this
       rw [this,c4,List.map_append,List.reverse_append]
       simp
      ·obtain ⟨b1,r,pg,b2,b3,b4⟩:=h.yes hy
       dsimp only at b2 b3 b4
       rw [a8] at b2
       rw [b6] at b3 b4
       exact ⟨b1,r,pg,b2,b3,b4⟩
      ·obtain ⟨b1,b2,b3⟩:=h.no hn
       dsimp only at b2
       rw [b6] at b2
       exact ⟨b1,b2,b3⟩
end
end Go.Proofs.YtkbikekbaboclaaGreat.fo
set_option linter.unusedVariables false
set_option linter.unusedSimpArgs false
namespace Go.Proofs.YtkbikekbaboclaaGreat.fo
open Go Go.Proofs V Vc Step bh dh ee fv qn Go.RowKit
open gm (da di dl ik)
structure sb (cf:ep) (md:rY) (k:Nat) (ps:List ak) (es:List bw) (rs:List bo):Prop where
 inv:il cf md k ps es rs
 run:∀ r∈rs,ez cf md ps r∧jt cf md k r∧4*r.aj.length<r.done+4
 ids:(rs.map (·.ask.id)).Nodup
structure JG (cf:ep) (md:rY) (i:Nat) (rs:List bo) (cr:Cr) (t:sx) (m:Nat):Prop where
 le:m≤rs.length∧i≤m∧0<m
 id:∀ r,rs[i]?=some r→t.id=r.ask.id
 aw:t.Bk=((rs.drop m).map (·.ask)).reverse
 gave:t.gave=true→t.done=false∧m=i∧cr.rs=rs.take m
 dn:t.done=true→∀ r,rs[i]?=some r→r.ask.ai.length≤r.done+1
 done:t.done=true→i<m∧t.gave=false∧(∀ r,rs[i]?=some r→t.out=gk cf md r.ask)∧cr.rs=(rs.take m).eraseIdx i
 goes:t.gave=false→t.done=false→i<m∧t.out=[]∧∃ r r',rs[i]?=some r∧r'.ask=r.ask∧r'.done=r.done+1∧cr.rs=(rs.take m).set i r'
section
variable {cf:ep} {md:rY} {ps ps':List ak} {es es':List bw} {rs rs':List bo} {r r':bo} {e:bw} {p x v:Int} {i j k:Nat} {l:List Int} {g:ak}
theorem sb.ar (h:sb cf md k ps es rs) (p:Int):0≤(ax ps p).ar∧(ax ps p).ar≤1+rs.length:=by
 have h1:=h.inv.us p
 have h2:cE es p≤1:=List.nodup_iff_count.1 h.inv.nd p
 have h3:∀ rs:List bo,(∀ r∈rs,r.aj.Nodup)→cR rs p≤rs.length:=fun rs=>by
  induction rs with
  | nil=>intro _;simp [cR]
  | cons q l ih =>
   intro hq
   have a1:=List.nodup_iff_count.1 (hq q List.mem_cons_self) p
   have a2:=ih (fun r hr=>hq r (List.mem_cons_of_mem _ hr))
   rw [cR,List.length_cons];omega
 have h4:=h3 rs (fun r hr=>(h.run r hr).1.nd)
 omega
theorem sb.empty (k:Nat):sb cf md k (List.replicate k qD) [] []:=by
 refine ⟨⟨by simp,fun p=>?_,List.nodup_nil,fun e he=>(by cases he)⟩,fun r hr=>(by cases hr),List.nodup_nil⟩
 have:(ax (List.replicate k qD) p).ar=0:=by
  unfold ax
  split
  ·rw [List.getD_eq_getElem?_getD,List.getElem?_replicate];split <;> rfl
  ·rfl
 rw [this];rfl
theorem sb.cut (h:sb cf md k ps es rs) (hi:i<rs.length):sb cf md k (fk ps rs[i].aj) es (rs.eraseIdx i):=by
 obtain ⟨a,b⟩:=h.inv.cut hi
 exact ⟨a,fun r hr=>⟨b r hr (h.run r (List.mem_of_mem_eraseIdx hr)).1,(h.run r (List.mem_of_mem_eraseIdx hr)).2⟩,List.Nodup.sublist ((List.eraseIdx_sublist _ _).map _) h.ids⟩
theorem sb.forget (h:sb cf md k ps es rs) (v:Int):sb cf md k (uL v ps es) (es.filter (js v)) rs:=by
 obtain ⟨a,b⟩:=h.inv.forget v
 exact ⟨a,fun r hr=>⟨b r hr (h.run r hr).1,(h.run r hr).2⟩,h.ids⟩
theorem Pp {a:da} (hj:fm cf k rs a=0):∀ r∈rs,r.ask.id≠a.id:=fun r hr he=>by
 unfold fm at hj
 split at hj
 ·cases hj
 ·split at hj
  ·cases hj
  ·rename_i h1
   refine h1 ?_
   unfold ff
   rw [if_pos (List.findIdx_lt_length.2 ⟨r,hr,by unfold Ip;rw [he];exact beq_self_eq_true _⟩)]
   omega
theorem sb.join (h:sb cf md k ps es rs) {a:da} (hj:fm cf k rs a=0) (hv:a.ver≤md.vm):sb cf md k (mo ps (bz es a.ver a.ai).2) (bz es a.ver a.ai).1 (rs++[gp cf (md a.ver) a (bz es a.ver a.ai).2]):=by
 have a6:=hj
 unfold fm at hj
 split at hj
 ·cases hj
 ·rename_i a0
  have a0:rJ cf k a=true:=by simpa using a0
  unfold rJ at a0
  rw [Bool.and_eq_true] at a0
  obtain ⟨h1,h2⟩:=a0
  have h1:=dQt h1
  have h2:gm.tl cf k [] a=0:=eq_of_beq h2
  unfold gm.tl at h2
  split at h2
  ·cases h2
  ·split at h2
   ·cases h2
   ·split at h2
    ·rename_i h3;exact absurd h2 h3
    ·rename_i h3
     split at h2
     ·cases h2
     ·rename_i h4
      have h3:rI.mh cf a.most a.ai=0:=by rw [← GZ];exact Classical.not_not.1 h3
      have a5:=(rI.xV h3).1
      obtain ⟨a1,a2,a3,a4⟩:=h.inv.join (cf:=cf) (md:=md) (md a.ver) a5
      refine ⟨a1,fun r hr=>?_,?_⟩
      rotate_left
      ·rw [List.map_append,List.nodup_append]
       refine ⟨h.ids,by simp,fun x hx y hy=>?_⟩
       simp only [List.map_cons,List.map_nil,List.mem_singleton] at hy
       subst hy
       obtain ⟨r,hr,rfl⟩:=List.mem_map.1 hx
       exact fun he=>Pp a6 r hr he
      rcases List.mem_append.1 hr with hr|hr
      ·exact ⟨a2 r hr (h.run r hr).1,(h.run r hr).2⟩
      ·rw [List.mem_singleton] at hr
       subst hr
       exact ⟨a3,jt.new a5 a4 rfl ⟨h1.1,hv⟩ h3 (by omega),show 4*(bz es a.ver a.ai).2.length<4*(bz es a.ver a.ai).2.length+4 from by omega⟩
theorem Qk (hi:i<rs.length) (he:r.ask=rs[i].ask):(rs.set i r).map (·.ask.id)=rs.map (·.ask.id):=by
 rw [List.map_set]
 show (rs.map (·.ask.id)).set i r.ask.id=_
 rw [he]
 have:(rs.map (·.ask.id))[i]'(by simpa using hi)=rs[i].ask.id:=by simp
 rw [← this,List.set_getElem_self]
theorem DL {m:Nat} (h:r∈(rs.take m).eraseIdx i):r∈rs:=List.mem_of_mem_take (List.mem_of_mem_eraseIdx h)
theorem sb.pick (h:sb cf md k ps es rs) (hm:∀ v,Md cf (md v)) (c8:md.vm≤2147483647) (hi:i<rs.length) {s:Cu} (hs:lz i (es.length+rs.length+1) ⟨ps,es,rs,[],true⟩=s) {cr:Cr} {t:sx} (ht:tI rs[i].ask.id i s=(cr,t)) :
  s.es.length≤es.length∧s.rs.length≤rs.length∧(s.ok=true→∀ r,s.rs[i]?=some r→Oo s.ps r)∧sb cf md k cr.ps cr.es cr.rs∧(∀ r,rs[i]?=some r→(r.done+1) % 4≠0→cr.es.length≤es.length)∧∃ m,JG cf md i rs cr t m:=by
 have a3:rs[i]?=some rs[i]:=List.getElem?_eq_getElem hi
 obtain ⟨m,hL⟩:=Cl c8 (es.length+rs.length+1) ⟨ps,es,rs,[],true⟩ h.inv (fun r hr=>⟨(h.run r hr).1,(h.run r hr).2.1⟩) hi rfl (Nat.le_refl _)
 rw [hs] at hL
 have b8:=hL.le
 have c0:s.aw=((rs.drop m).map (·.ask)).reverse:=by have:=hL.aw;simpa using this
 have a8:=hL.es
 dsimp only at b8 a8
 by_cases a5:s.ok=true
 ·obtain ⟨b1,r0,pg,b2,b3,b4,b5,b6⟩:=hL.yes a5
  dsimp only at b2 b3 b6
  rw [a3] at b2
  injection b2 with b2
  subst b2
  have a1:=(h.run _ (List.getElem_mem hi)).2.1
  have a0:jt cf md k { rs[i] with aj:=pg }:=⟨a1.c,a1.wt,a1.ver,a1.ok,a1.need,a1.sd,a1.sl,a1.sm,a1.dn⟩
  have c9:i<(rs.take m).length:=by rw [List.length_take];omega
  have d5:s.rs.length=m:=by rw [b3,List.length_set,List.length_take];omega
  have b9:i<s.rs.length:=by omega
  have a2:s.rs[i]={ rs[i] with aj:=pg }:=by simp only [b3];rw [List.getElem_set_self]
  have a9:s.rs[i]?=some { rs[i] with aj:=pg }:=by rw [List.getElem?_eq_getElem b9,a2]
  have a4:=hL.inv.past (r:={ rs[i] with aj:=pg }) (by rw [← a2];exact List.getElem_mem b9) b4 (Nat.le_of_lt a0.dn)
  have d0:=(hm rs[i].ask.ver).ok.2.2.2.2.2.1
  have d3:=a0.len
  have hG:=hL.inv.go b9 (by rw [a2];exact b4) (by rw [a2];exact ⟨a0.c,a0.wt⟩) (by rw [a2];exact b5) (by rw [a2];exact a0.dn) (by rw [a2];omega) (by rw [a2];exact a0.ver)
  rw [a2] at hG
  obtain ⟨c1,c2,c3⟩:=hG
  obtain ⟨d1,d2⟩:=a0.go a4
  have c6:∀ r,rs[i]?=some r→(r.done+1) % 4≠0→(xD s.ps s.es { rs[i] with aj:=pg }).length≤es.length:=fun r hr hn=>by
   rw [a3] at hr;injection hr with hr;subst hr
   unfold xD
   rw [if_neg hn];exact a8
  obtain ⟨g1,g2,g3,_⟩:=Fg s.ps { rs[i] with aj:=pg }
  have b7:s.rs.eraseIdx i=(rs.take m).eraseIdx i:=by
   rw [b3,gf,gf,List.take_set_of_le (by omega),List.drop_set_of_lt (by omega)]
  have a6:∀ r∈(rs.take m).eraseIdx i,ez cf md (ux s.ps s.es { rs[i] with aj:=pg }) r∧jt cf md k r∧4*r.aj.length<r.done+4:=fun r hr =>
   ⟨c2 r (b7▸hr) (b6 r hr),(h.run r (DL hr)).2⟩
  refine ⟨a8,by omega,fun _ r hr=>?_,?_⟩
  ·rw [a9] at hr
   injection hr with hr
   subst hr
   exact a0.SM (hm _) b4 a4 b5
  unfold tI at ht
  rw [if_neg (by rw [a5];decide),a9] at ht
  dsimp only at ht
  have a7:s.rs.set i (lh s.ps { rs[i] with aj:=pg })=(rs.take m).set i (lh s.ps { rs[i] with aj:=pg }):=by rw [b3,List.set_set]
  by_cases hb:BQ s.ps { rs[i] with aj:=pg }=true
  ·rw [if_pos hb] at ht
   injection ht with t1 t2
   subst t1;subst t2
   have d4:i<(s.rs.set i (lh s.ps { rs[i] with aj:=pg })).length:=by rw [List.length_set];exact b9
   have hC:=c1.cut d4
   rw [List.getElem_set_self] at hC
   have c4:(s.rs.set i (lh s.ps { rs[i] with aj:=pg })).eraseIdx i=(rs.take m).eraseIdx i:=by
    rw [a7,gf,gf,List.take_set_of_le (by omega),List.drop_set_of_lt (by omega)]
   obtain ⟨f1,f2⟩:=hC
   refine ⟨⟨f1,fun r hr=>?_,by rw [show (MI i (SQ i s { rs[i] with aj:=pg }) (lh s.ps { rs[i] with aj:=pg })).rs=(rs.take m).eraseIdx i from c4];exact List.Nodup.sublist (((List.eraseIdx_sublist _ _).trans (List.take_sublist _ _)).map _) h.ids⟩,c6,m,b8,fun r hr=>by rw [a3] at hr;injection hr with hr;subst hr;rfl,c0,fun hg=>(by cases hg),fun _ r hr=>?_,fun _=>⟨b1,rfl,fun r hr=>?_,c4⟩,fun _ hd=>(by cases hd)⟩
   ·have c7:r∈(s.rs.set i (lh s.ps { rs[i] with aj:=pg })).eraseIdx i:=hr
    have c5:=c7
    rw [c4] at c5
    exact ⟨f2 r c7 (a6 r c5).1,(a6 r c5).2⟩
   ·rw [a3] at hr;injection hr with hr;subst hr
    exact (d2 hb).2
   ·rw [a3] at hr;injection hr with hr;subst hr
    exact (d2 hb).1
  ·have hb:BQ s.ps { rs[i] with aj:=pg }=false:=by simpa using hb
   rw [hb,if_neg (by decide)] at ht
   injection ht with t1 t2
   subst t1;subst t2
   refine ⟨⟨c1,fun r hr=>?_,by rw [show (SQ i s { rs[i] with aj:=pg }).rs=(rs.take m).set i (lh s.ps { rs[i] with aj:=pg }) from a7,Qk c9 (by rw [g3,List.getElem_take])];exact List.Nodup.sublist ((List.take_sublist _ _).map _) h.ids⟩,c6,m,b8,fun r hr=>by rw [a3] at hr;injection hr with hr;subst hr;rfl,c0,fun hg=>(by cases hg),fun hd=>(by cases hd),fun hd=>(by cases hd),fun _ _=>⟨b1,rfl,rs[i],lh s.ps { rs[i] with aj:=pg },a3,g3,g2,a7⟩⟩
   have hr:r∈s.rs.set i (lh s.ps { rs[i] with aj:=pg }):=hr
   rcases zi hr with rfl|hr
   ·refine ⟨c3,d1 hb,?_⟩
    rw [g1,g2]
    have:=b4.hi
    dsimp only at this ⊢
    omega
   ·rw [b7] at hr
    exact a6 r hr
 ·have a5:s.ok=false:=by simpa using a5
  obtain ⟨b1,b2,b3⟩:=hL.no a5
  dsimp only at b2
  unfold tI at ht
  rw [if_pos a5] at ht
  injection ht with t1 t2
  subst t1;subst t2
  refine ⟨a8,by rw [b2,List.length_take];omega,fun hx=>(by rw [a5] at hx;cases hx),⟨hL.inv,fun r hr=>⟨b3 r hr,(h.run r ?_).2⟩,by rw [show (⟨s.ps,s.es,s.rs⟩:Cr).rs=rs.take m from b2];exact List.Nodup.sublist ((List.take_sublist _ _).map _) h.ids⟩,fun _ _ _=>a8,m,b8,fun r hr=>by rw [a3] at hr;injection hr with hr;subst hr;rfl,c0,fun _=>⟨rfl,b1,b2⟩,fun hd=>(by cases hd),fun hd=>(by cases hd),fun hg=>(by cases hg)⟩
  have hr:r∈s.rs:=hr
  rw [b2] at hr
  exact List.mem_of_mem_take hr
end
end Go.Proofs.YtkbikekbaboclaaGreat.fo
