import Derived.Test.YtkbikekbaboclaaGreatPkJ
set_option linter.unusedVariables false
set_option linter.unusedSimpArgs false
namespace Go.Proofs.YtkbikekbaboclaaGreat.fo
open Go Go.Proofs V Vc Step bh dh ee fv qn Go.RowKit
open gm (da di dl ik gq)
theorem PE {q0 q1:Nat × ByteArray} {vm:Int} (v:Int):∃ (k:Nat) (q:Nat × ByteArray),IntKind.i64.wrap (Int.tmod (IntKind.u64.wrap v) 2)=k∧k<2∧q∈[q0,q1]∧q.2=PQ q0 q1 vm v∧[CQ q0,CQ q1][k]?=some (CQ q)∧∀ j,j<7→(sg q0.2++sg q1.2)[k*7+j]?=(sg q.2)[j]?:=by
 have hw:IntKind.i64.wrap (Int.tmod (IntKind.u64.wrap v) 2)=v % 2:=by
  rw [wrap_u64,AP (Int.emod_nonneg _ (by omega)),ae (by omega) (by omega)]
  omega
 have a0:PQ q0 q1 vm v=if v % 2=1 then q1.2 else q0.2:=rfl
 by_cases h:v % 2=1
 ·refine ⟨1,q1,by rw [hw,h];rfl,by omega,by simp,by rw [a0,if_pos h],rfl,fun j hj=>?_⟩
  rw [List.getElem?_append_right (by show 7≤_;omega)]
  congr 1
  show 1*7+j-7=j
  omega
 ·refine ⟨0,q0,by rw [hw];omega,by omega,by simp,by rw [a0,if_neg h],rfl,fun j hj=>?_⟩
  rw [List.getElem?_append_left (by show _<7;omega)]
  congr 1
  omega
set_option maxRecDepth 100000 in
set_option maxHeartbeats 8000000 in
theorem DB (W:World) (ws:ByteArray) (_:ws.size≤140737488351232) (aj:Int) (_:(Lit.int .i64 aj).wf=true) (o1:OA) (n1 c1:Nat) (h1:oF Tryz.prog W uf [.slice o1 n1 c1]) :
  Calls Tryz.prog rS #[.string ws,.int .i64 aj,.slice o1 n1 c1] W (bc fun v w'=>v = .bool true∧Ch ah W w'):=by
 obtain ⟨xk,xm,av,g4,_,_,xp,hQ,ha⟩:=h1.QL (e:=ji) (enc:=wc) (Q:=fun y=>Ov W y.q) (by kernel_rfl) (fun x hl hd=>NK hl hd)
 injection g4 with g4
 injection g4 with q1 q2 q3
 subst q1;subst q2;subst q3
 refine tg.calls _ _ _ _ _ ?_
 unfold Vm.A1 Vm.A2 Vm.A3 Vm.A4 Vm.A5 Vm.B1 Vm.B2 Vm.Br Vm.C Vm.C3 Vm.C8 Vm.D Vm.E Vm.E6 Vm.F Vm.F0 Vm.F1 Vm.F2 Vm.F4 Vm.F5 Vm.F8 Vm.G Vm.G0 Vm.G1 Vm.G5 Vm.G6 Vm.G7 Vm.G9 Vm.H Vm.H9 Vm.I1 Vm.J0 Vm.J6 Vm.L2 Vm.L3 Vm.L4 Vm.M Vm.M4 Vm.N4 Vm.N5 Vm.N6 Vm.N9 Vm.P Vm.P1 Vm.Q Vm.R1 Vm.S0 Vm.U Vm.V Vm.W Vm.X Vm.Z;dsimp only
 refine ab (Ky W) ?_
 rintro v w1 ⟨rfl,g5⟩
 refine ⟨_,rfl,eg rfl (ab (St.new (W:=w1) (w:=w1) (cf:=ey) (md:=⟨fun _=>ByteArray.empty,0⟩) (Ch.refl _ _) aj) ?_)⟩
 rintro v w2 ⟨g6,k0,f9⟩
 by_cases o5:1≤aj∧aj≤64
 rotate_left
 ·have:=k0 o5
  subst this
  have d3:Value.bool (none:OA).isNone = .bool true∧Ch ah W w2:=⟨rfl,g5.ag g6⟩
  refine ⟨_,rfl,fun _=>d3,fun h1=>⟨fun _=>d3,fun h2=>?_⟩⟩
  have h1:=dQf h1
  have h2:=dQf h2
  exact absurd ⟨by omega,by omega⟩ o5
 obtain ⟨cb,pb,xb,R0,rfl,o6,jg⟩:=f9 o5
 clear k0 f9
 obtain ⟨k,rfl⟩:∃ k:Nat,aj=k:=⟨aj.toNat,by omega⟩
 rw [Int.toNat_natCast] at o6
 refine ⟨_,rfl,eg (decide_eq_false (by omega)) (eg (decide_eq_false (by omega)) (ab (Gp w2 ws) ?_))⟩
 rintro v w3 ⟨q0,q1,rfl,p7,c4,jh⟩
 refine ⟨_,_,_,_,_,_,_,_,_,_,_,_,_,_,_,_,rfl,PA p7 fun w4 w7 k1 o7 o8 o9 xq=>?_⟩
 have g0:∀ v,Md ey (PQ q0 q1 2147483647 v):=Ra o8
 obtain ⟨md,g7⟩:∃ md,md=PQ q0 q1 2147483647:=⟨_,rfl⟩
 rw [← g7] at g0
 have jj:md.vm=2147483647:=by rw [g7];rfl
 have c5:=c4.ag k1
 have s2:=g6.size
 have s3:=c4.size
 have s7:=k1.size
 have jm:∀ q∈[q0,q1],w2.heap.size≤q.1∧q.1<w7.heap.size:=fun q hq=>⟨jh q hq,(o8 q hq).1.lt⟩
 obtain ⟨bA,p8⟩:∃ n,w3.heap.size=n:=⟨_,rfl⟩
 obtain ⟨bM,x4⟩:∃ n,w4.heap.size=n:=⟨_,rfl⟩
 rw [p8] at o7
 rw [x4] at o9
 have xv:=o7.lt
 have xw:=o9.lt
 have p0:St w1 w7 cb pb xb k ey md _ [] [] (fun j i=>R0 j i∨(j=2∧(i=bA∨i=bM∨∃ q∈[q0,q1],i=q.1))):=((o6.aa c5).SK (md':=md)).data (fun i hi=>by
  have hx:w2.heap.size≤i∧i<w7.heap.size:=by
   rcases hi with hi|hi|⟨q,hq,hi⟩
   ·omega
   ·omega
   ·have:=jm q hq;omega
  exact ⟨by omega,hx.2,fun j hj=>by have:=(o6.lt i ⟨j,hj⟩).2;omega⟩)
 obtain ⟨R,hR⟩:∃ R:Nat→Nat→Prop,R=fun j i=>R0 j i∨(j=2∧(i=bA∨i=bM∨∃ q∈[q0,q1],i=q.1)):=⟨_,rfl⟩
 rw [← hR] at p0
 have x5:Ox w7 R bA bM q0 q1:=by
  refine ⟨o7,o9,fun q hq=>(o8 q hq).1,?_,?_,fun q hq=>?_⟩
  ·rw [hR];exact .inr ⟨rfl,.inl rfl⟩
  ·rw [hR];exact .inr ⟨rfl,.inr (.inl rfl)⟩
  ·rw [hR];exact .inr ⟨rfl,.inr (.inr ⟨q,hq,rfl⟩)⟩
 clear hR jg o6
 refine ab (Np (W:=w1) (md:=md) (g6.ag c5) k (by omega)) ?_
 rintro v w8 ⟨fb,fpb,fxb,R2,rfl,p9,x6,g8⟩
 rw [Int.toNat_natCast] at p9
 have x7:Lq w1 w8 cb pb xb fb fpb fxb k md _ [] [] R _ [] none 0 [] R2:=⟨p0.aa g8,p9,fun i hi h2=>by have:=(p0.lt i hi).2;have:=(x6 i h2).1;omega⟩
 have g9:EX w1 w8 cb pb xb fb fpb fxb k md bA bM q0 q1 []:=⟨_,_,_,R,_,_,_,R2,x7,rfl,x5.aa g8,fun x hx=>by cases hx⟩
 have jp:=o8
 clear x7 p0 p9 x5 x6 g8 o7 o9
 refine ⟨_,rfl,fun w'=>EX w1 w' cb pb xb fb fpb fxb k md bA bM q0 q1 [],⟨fun i vk w'=>∃ j:Nat,i=j∧j≤av.length∧vk=av.length-j∧EX w1 w' cb pb xb fb fpb fxb k md bA bM q0 q1 [],⟨_,0,rfl,Nat.zero_le _,rfl,g9⟩,?_⟩,?_⟩
 ·clear g9
  rintro jk i vk w9 ⟨j,rfl,hj,rfl,hE⟩
  refine ⟨fun c0=>⟨fun x8=>?_,fun _=>hE⟩,fun _=>hE⟩
  obtain ⟨ps,es,rs,R,o,c,qs,R2,hT,hq,hD,_⟩:=hE
  have c0:j<av.length:=by have:=dQt c0;omega
  have x8:=dQt x8
  obtain ⟨p,hp,_,_,a7⟩:=(ha.aa (g5.ag hT.st.ch)).elem (sz:=7) (enc:=wc) (fun _=>rfl) (by omega) c0
  have q4:=hQ _ (List.getElem_mem c0)
  generalize av[j]=x at a7 q4
  rw [← Int.toNat_natCast j] at a7
  have h0:=a7 0 _ rfl
  rw [cm] at h0
  subst hp
  refine ⟨⟨by omega,by omega⟩,_,_,_,_,_,_,_,_,_,_,_,⟨h0,a7 1 _ rfl,a7 2 _ rfl,a7 3 _ rfl,a7 4 _ rfl,a7 5 _ rfl,a7 6 _ rfl⟩,fun jq q5=>?_⟩
  have b3:=ba.new q5
  have q6:=b3.lt
  obtain ⟨tA,jv⟩:∃ n,w9.heap.size=n:=⟨_,rfl⟩
  rw [jv] at b3 q6 ⊢
  refine ⟨⟨b3.ok 0 rfl,b3.ok 1 rfl,b3.ok 2 rfl,b3.ok 3 rfl,b3.ok 4 rfl,b3.ok 5 rfl,b3.ok 6 rfl⟩,fun p1 x9=>?_⟩
  have h3:p1=jq.setCells tA 0 (wc x):=x9
  have a8:=b3.all (wc x) rfl h3
  have d5:Ch ah w9 p1:=(Ch.alloc (F:=ah) q5).trans (Ch.fr (F:=(·=tA)) h3 rfl) (fun i hi he=>by omega)
  have a0:=hT.aa d5
  have b4:=hD.aa d5
  have e8:¬ de R tA:=fun hx=>by have:=(hT.st.lt tA hx).2;omega
  have d6:¬ de R2 tA:=fun hx=>by have:=(hT.fc.lt tA hx).2;omega
  have d3:Value.bool true = .bool true∧Ch ah W p1:=⟨rfl,g5.ag a0.st.ch⟩
  refine ⟨_,_,_,a8.cell 4 rfl,fun _=>d3,fun k2=>⟨_,_,_,a8.cell 6 rfl,fun _=>d3,fun k3=>?_⟩⟩
  have k2:=dQf k2
  have k3:=dQf k3
  clear a7 h0 d3 q5 x9 h3 b3 hT hD d5
  refine ⟨fun w'=>EX w1 w' cb pb xb fb fpb fxb k md bA bM q0 q1 [(tA,wc x,39)],⟨_,a8.cell 0 rfl,fun _ w'=>w'=p1,⟨fun _=>rfl,fun _=>⟨fun _=>rfl,fun _=>⟨fun _=>rfl,fun _=>⟨fun _=>rfl,fun _=>⟨fun _=>rfl,fun _=>rfl⟩⟩⟩⟩⟩,?_⟩,?_⟩
  ·rintro jk bk e5 rfl
   have y0:=a0.st.n
   refine ⟨fun _=>⟨_,a8.cell 1 rfl,?_⟩,fun _=>⟨fun _=>⟨_,a8.cell 1 rfl,?_⟩,fun _=>⟨fun _=>?_,fun _=>⟨_,a8.cell 3 rfl,by decide,?_⟩⟩⟩⟩
   ·cases rs with
    | nil =>
     have jw:qs=[]:=List.map_eq_nil_iff.1 hq
     subst jw
     refine ab (a0.st.Rf x.n) ?_
     rintro v g1 ⟨rfl,q7⟩
     refine ⟨_,_,_,_,_,_,_,_,_,_,rfl,fun q8 k4=>?_⟩
     have a9:=ba.new k4
     refine ⟨⟨a9.ok 0 rfl,a9.ok 1 rfl,a9.ok 2 rfl,a9.ok 3 rfl,a9.ok 4 rfl⟩,fun h4 q9=>?_⟩
     have d7:h4=q8.setCells g1.heap.size 0 (im ⟨0,false,false,[],[]⟩ none 0 none 0 0):=q9
     have e9:=a9.all (im ⟨0,false,false,[],[]⟩ none 0 none 0 0) rfl d7
     have h5:Ch ah e5 h4:=q7.ag ((Ch.alloc (F:=ah) k4).trans (Ch.fr (F:=(·=g1.heap.size)) d7 rfl) (fun i hi he=>by omega))
     refine ⟨_,_,_,(a0.aa h5).fc.c3,fun _=>⟨fun hn=>absurd hn (by decide),fun _=>⟨_,e9.cell 0 rfl,fun hn=>absurd hn (by decide),fun _=>⟨av.length-(j+1),by omega,j+1,by rw [ae (by omega) (by omega)];rfl,c0,rfl,ps,es,[],R,o,c,[],R2,a0.aa h5,rfl,b4.aa h5,fun x hx=>by cases hx⟩⟩⟩,fun hn=>absurd hn (by simp)⟩
    | cons r l =>
     obtain ⟨rs,y1⟩:∃ rs,rs=r :: l:=⟨_,rfl⟩
     rw [← y1] at a0 hq y0
     have y2:0<rs.length:=by rw [y1];simp
     have g2:qs.length=rs.length:=by rw [← hq,List.length_map]
     obtain ⟨i,hi⟩:∃ i,CK x.n rs.length=i:=⟨_,rfl⟩
     obtain ⟨y3,y4,xx,xy,r0⟩:=EA x.n y2
     rw [hi] at y3 y4 r0
     refine ab (a0.st.pick g0 (by omega) y2 x.n hi r0) ?_
     rintro v g1 ⟨cr,t,m,R1,oo,oc,ao,ac,aq,TA,rfl,jx,r1,hL,j8,hG,_,_⟩
     have h6:=a0.prog r1 hG
     have r2:=b4.prog a0.st hG
     obtain ⟨k5,r3⟩:=AN a8 e8 hG
     refine ⟨_,_,_,_,_,_,_,_,_,_,rfl,fun q8 k4=>?_⟩
     have a9:=ba.new k4
     refine ⟨⟨a9.ok 0 rfl,a9.ok 1 rfl,a9.ok 2 rfl,a9.ok 3 rfl,a9.ok 4 rfl⟩,fun h4 q9=>?_⟩
     have d7:h4=q8.setCells g1.heap.size 0 (im t oo oc ao aq.length ac):=q9
     have e9:=a9.all (im t oo oc ao aq.length ac) rfl d7
     have c6:Ch ah g1 h4:=(Ch.alloc (F:=ah) k4).trans (Ch.fr (F:=(·=g1.heap.size)) d7 rfl) (fun i hi he=>by omega)
     obtain ⟨tb,jy⟩:∃ n,g1.heap.size=n:=⟨_,rfl⟩
     have jz:¬ de R2 tb:=fun hx=>by have:=(h6.fc.lt tb hx).2;omega
     rw [jy] at e9 ⊢
     have f0:=h6.aa c6
     refine ⟨_,_,_,f0.fc.c3,fun hn=>absurd (eq_of_beq hn) (by omega),fun _=>⟨fun w'=>Ch ah h4 w',fun xz p2=>⟨Ch.drew p2,_,fun w' k=>((k5.aa c6).aa k).cell 1 rfl,_,_,_,fun w' k=>(f0.aa k).fc.c3,by omega,fun v w'=>v=i∧Ch ah h4 w',⟨fun h0=>⟨_,_,_,(f0.aa (Ch.drew p2)).fc.c3,?_,Ch.drew p2⟩,fun h0=>⟨?_,Ch.drew p2⟩⟩,?_⟩⟩⟩
     ·have h0:=dQt h0
      rw [g2] at h0 ⊢
      rw [ae (by omega) (by omega)]
      exact y3 h0
     ·have h0:=dQf h0
      rw [g2] at h0 ⊢
      exact y4 h0
     rintro jk vat y5 ⟨rfl,c7⟩
     have kb:=f0.aa c7
     have k6:¬ dt R2 tb:=fun hx=>jz (dz tb hx)
     have d8:=e9.aa c7
     refine ⟨fun w'=>Ch (dt R2) y5 w',fun y6 y7=>⟨Ch.drew y7,fun hn=>absurd hn (by decide),fun _=>⟨_,_,_,_,_,_,_,_,_,⟨fun w' k=>(d8.af k k6).cell 0 rfl,fun w' k=>(d8.af k k6).cell 1 rfl,fun w' k=>(d8.af k k6).cell 2 rfl,fun w' k=>(d8.af k k6).cell 3 rfl,fun w' k=>(d8.af k k6).cell 4 rfl⟩,?_⟩⟩⟩
     have c8:Ch ah y5 y6:=Ch.drew y7
     have b2:Ch ah g1 y6:=(c6.ag c7).ag c8
     have f3:=h6.aa b2
     refine ab (a0.pick hq g0 (by omega) r0 rfl jx hL f3) ?_
     rintro v yb ⟨yc,yd,yf,yg,yh,TA2,o2,c2,kc,R3,rfl,r4,k7,h7,k8,k9,y8,h8,l1,kd,b9⟩
     refine ⟨_,_,_,_,_,_,_,_,_,rfl,c8.any.same b9,?_⟩
     have r5:=f3.ref r4 l1 b9
     have nM:∀ i,de R1 i→¬ dt R2 i:=fun i h1 h2=>f3.dj i h1 (dz i h2)
     have kf:aq.length≤1000:=by
      have h1:=congrArg List.length j8.aw
      rw [hL.aw,List.length_map,List.length_reverse,List.length_map,List.length_drop] at h1
      omega
     refine ab (NH ((j8.out.aa b2).af b9 (fun i _ hi=>nM i hi)) h7 j8.aw k8 ((j8.rd.aa b2).af b9 (fun i _ hi hm=>by have:=(j8.ta i hi).1;have:=(a0.fc.lt i (dz i hm)).2;omega)) k9 (fun q hq=>((j8.ask q hq).aa b2).af b9 (fun i _ hi=>nM i ⟨2,hi⟩)) h8 kf) ?_
     rintro v yj ⟨rfl,c4⟩
     obtain ⟨r6,r7⟩:=Dr (k5.aa b2) d6 l1 b9
     refine ⟨_,rfl,(c8.any.same b9).ag c4,eg rfl ⟨cr.ps,cr.es,cr.rs,R1,o2,c2,kc,R3,r5.aa c4,k7,((r2.aa b2).ref f3 b9).aa c4,fun y hy=>?_⟩⟩
     rw [List.mem_singleton] at hy
     subst hy
     exact ⟨r6.aa c4,r3,r7⟩
   ·refine ab (JQ a0.fc (by have:=congrArg List.length hq;rw [List.length_map] at this;omega) x.n) ?_
    rintro v yk ⟨rfl,rfl⟩
    rw [hq]
    refine ⟨_,rfl,_,a8.cell 1 rfl,ab (a0.st.leave g0 x.n) ?_⟩
    rintro v ym ⟨ps',rs',r8,hG,r9,h9⟩
    have f4:=a0.prog r8 hG
    have l2:=b4.prog a0.st hG
    obtain ⟨l3,l4⟩:=AN a8 e8 hG
    by_cases hx:ff rs x.n<0
    ·obtain ⟨rfl,rfl,rfl⟩:=r9 hx
     have hd:decide (ff rs' x.n≥0)=false:=decide_eq_false (by omega)
     rw [hd]
     exact ⟨_,rfl,eg rfl (eg rfl ⟨_,es,_,R,o,c,qs,R2,f4,hq,l2,fun y hy=>by
      rw [List.mem_singleton] at hy
      subst hy
      exact ⟨l3,l4,d6⟩⟩)⟩
    ·obtain ⟨i,hi,he⟩:=Lw hx
     obtain ⟨rfl,rfl,rfl⟩:=h9 i hi he
     have kg:i<qs.length:=by have:=congrArg List.length hq;rw [List.length_map] at this;omega
     have l5:qs[i].2=rs[i]:=by simp only [← hq,List.getElem_map]
     have hd:decide (ff rs x.n≥0)=true:=decide_eq_true (by omega)
     rw [hd,he]
     refine ⟨_,rfl,eg rfl (pj rfl ?_)⟩
     have yp:=a0.st.aj g0 (List.getElem_mem hi)
     have g2:=congrArg List.length hq
     rw [List.length_map] at g2
     have hk:=a0.st.k
     refine ab (xY f4.fc a0.st.Mq (by omega) (by omega) (by omega) (i:=i) kg (by rw [l5];omega)) ?_
     rintro v yq ⟨rfl,o',c',R3,l6,kh,l7,i0⟩
     rw [l5] at l6
     obtain ⟨s0,s1⟩:=Dr l3 d6 l7 i0
     refine ⟨_,_,_,_,_,_,_,_,_,_,_,_,_,_,_,_,rfl,_,es,_,R,o',c',qs.eraseIdx i,R3,f4.ref l6 l7 i0,by rw [map_eraseIdx,hq],l2.ref f4 i0,fun y hy=>?_⟩
     rw [List.mem_singleton] at hy
     subst hy
     exact ⟨s0,l4,s1⟩
   ·have nf:¬ (dt R fb∨R2 3 fb∨R2 4 fb):=fun hx=>by
     rcases hx with hx|hx|hx
     ·exact a0.dj fb (dz fb hx) ⟨0,a0.fc.z⟩
     ·exact a0.fc.fam.2 0 3 (by omega) fb a0.fc.z hx
     ·exact a0.fc.fam.2 0 4 (by omega) fb a0.fc.z hx
    have nt:¬ (dt R tA∨R2 3 tA∨R2 4 tA):=fun hx=>by
     rcases hx with hx|hx|hx
     ·exact e8 (dz tA hx)
     ·exact d6 ⟨3,hx⟩
     ·exact d6 ⟨4,hx⟩
    refine ⟨fun w'=>Ch (fun i=>dt R i∨R2 3 i∨R2 4 i) e5 w',fun kj y9=>⟨Ch.drew y9,_,fun w' k=>(a8.af k nt).cell 1 rfl,_,fun w' k=>by rw [eh];exact (a0.fc.blk.af k nf).cell 2 rfl,_,fun w' k=>(a8.af k nt).cell 1 rfl,?_⟩⟩
    have c5:Ch ah e5 kj:=Ch.drew y9
    have i1:=a0.aa c5
    refine ab (i1.st.forget x.n) ?_
    rintro v km ⟨rfl,s4,hG⟩
    have f5:=i1.prog s4 hG
    have s5:=(b4.aa c5).prog i1.st hG
    obtain ⟨s6,s8⟩:=AN (a8.aa c5) e8 hG
    have hk:=a0.st.k
    have kp:=a0.st.GV
    obtain ⟨DX,s9⟩:=f5.fc.x
    have l8:Ch (fun i=>dt R i∨R2 3 i∨R2 4 i) e5 km:=c5.any.same (hG.ch.mono (fun i _ hi => .inl hi))
    refine ⟨_,rfl,l8,ab (Ev s9 (xS a0.st.Mq) (by omega) (by omega) (by omega) x.n) ?_⟩
    rintro v yv ⟨rfl,FU,F',D',l9,hU,kq,m0⟩
    rw [PT,OX a0.st.v.inv a0.st.Mq (by omega)] at l9
    obtain ⟨R3,t0,_,_,m1,i2,_⟩:=f5.fc.sa (N:=ah) l9 hU kq m0 (fun i hi=>hi.elim) (fun i hi=>hi.elim) (fun i hi=>hi.elim)
    obtain ⟨t1,t2⟩:=Dr s6 d6 m1 i2
    refine ⟨_,rfl,l8.same (m0.mono (fun i _ hi=>hi.elim (fun x => .inr (.inr x)) (fun x => .inr (.inl x)))),fun hn=>absurd hn (by simp),fun _=>⟨_,_,rs,R,o,c,qs,R3,f5.ref t0 m1 i2,hq,s5.ref f5 i2,fun y hy=>?_⟩⟩
    rw [List.mem_singleton] at hy
    subst hy
    exact ⟨t1,s8,t2⟩
   ·obtain ⟨kk,b,kv,yw,i3,p3,kw,kx⟩:=PE (q0:=q0) (q1:=q1) (vm:=2147483647) x.q.1.ver
    rw [← g7] at p3
    have d1:=a0
    have ntG:¬ (dt R tA∨dt R2 tA):=fun hx=>hx.elim (fun hx=>e8 (dz _ hx)) (fun hx=>d6 (dz _ hx))
    have nd:∀ i,R 2 i→¬ (dt R i∨dt R2 i):=fun i hi hx=>hx.elim (d1.st.Bz i hi) (fun hx=>d1.dj i ⟨2,hi⟩ (dz i hx))
    have e6:∀ w',Ch (fun i=>dt R i∨dt R2 i) e5 w'→ba w' tA (wc x) 39:=fun w' k=>a8.af k ntG
    have i4:∀ w',Ch (fun i=>dt R i∨dt R2 i) e5 w'→∀ j v,j<7→(sg b.2)[j]?=some v→w'.cell? (((⟨bM,0,none⟩:Addr).add (kk*7)).add j)=some v:=fun w' k j v hj hv=>by
     rw [add_add,eh,Nat.zero_add]
     exact (b4.m.af k (nd _ b4.r.2.1)).cell _ (by rw [kx j hj];exact hv)
    have ky:∀ w',Ch (fun i=>dt R i∨dt R2 i) e5 w'→w'.cell? ((⟨bM,0,none⟩:Addr).add (kk*7))=some (.int .i64 4):=fun w' k=>by
     have:=i4 w' k 0 _ (by omega) rfl
     rw [cm] at this
     exact this
    rw [kv,p8,x4]
    simp only [Int.toNat_natCast]
    refine ⟨fun w'=>Ch (fun i=>dt R i∨dt R2 i) e5 w',fun z0 z1=>⟨Ch.drew z1,⟨by omega,by omega⟩,some ⟨b.1,0,none⟩,fun w' k=>by rw [Nat.mul_one,eh,Nat.zero_add];exact (b4.a.af k (nd _ b4.r.1)).cell _ kw,_,_,_,_,_,_,_,_,_,⟨fun w' k=>(e6 w' k).cell 2 rfl,fun w' k=>(e6 w' k).cell 3 rfl,fun w' k=>(e6 w' k).cell 4 rfl,fun w' k=>(e6 w' k).cell 5 rfl,fun w' k=>(e6 w' k).cell 6 rfl⟩,⟨by omega,by omega⟩,_,_,_,_,_,_,_,⟨ky,fun w' k=>i4 w' k 1 _ (by omega) rfl,fun w' k=>i4 w' k 2 _ (by omega) rfl,fun w' k=>i4 w' k 3 _ (by omega) rfl,fun w' k=>i4 w' k 4 _ (by omega) rfl,fun w' k=>i4 w' k 5 _ (by omega) rfl,fun w' k=>i4 w' k 6 _ (by omega) rfl⟩,_,_,_,_,_,_,_,_,_,⟨fun w' k=>(e6 w' k).cell 2 rfl,fun w' k=>(e6 w' k).cell 3 rfl,fun w' k=>(e6 w' k).cell 4 rfl,fun w' k=>(e6 w' k).cell 5 rfl,fun w' k=>(e6 w' k).cell 6 rfl⟩,?_⟩⟩
    have f6:Ch ah e5 z0:=Ch.drew z1
    have d9:=d1.aa f6
    have i5:=b4.aa f6
    have yx:W.heap.size≤w1.heap.size:=g5.size
    have t3:lk z0 x.q (fun i=>i<W.heap.size):=q4.c (g5.ag d9.st.ch) (by omega) (by omega)
    have kz:lk w1 x.q (fun i=>i<w1.heap.size):=(q4.c g5 (by omega) (by omega)).mono (fun i hi _=>hi)
    have qb:fm ey k rs x.q.1=0→x.q.1.ver≤md.vm:=fun hz=>by
     rw [jj]
     unfold fm at hz
     split at hz
     ·cases hz
     ·rename_i d3
      have d3:rJ ey k x.q.1=true:=by simpa using d3
      exact ((Kk k x.q.1).2 d3).2.2
    refine ab (d9.st.join (bb:=b.1) (a:=x.q) (.inr ⟨i5.r.2.2 b i3,by rw [← p3];exact i5.br b i3⟩) t3 (fun i _ hd hm=>by have:=(d9.st.lt i (dz i hm)).1;omega) qb) ?_
    rintro v z2 ⟨rfl,ps',es',rs',R',t4,hG,r9,h9⟩
    have t5:=d9.prog t4 hG
    have t6:=i5.prog d9.st hG
    obtain ⟨t7,t8⟩:=AN (a8.aa f6) e8 hG
    have e0:Ch (fun i=>dt R i∨dt R2 i) e5 z2:=f6.any.same (hG.ch.mono (fun i _ hi => .inl hi))
    refine ⟨_,rfl,e0,ab (MM z2 x.q) ?_⟩
    rintro v yy ⟨rfl,e1⟩
    have i6:=t5.aa e1
    have t9:=t6.aa e1
    have u0:=t7.aa e1
    have hk:=d1.st.k
    have kp:=d1.st.GV
    have g2:=congrArg List.length hq
    rw [List.length_map] at g2
    refine ⟨_,_,_,_,_,_,_,_,_,rfl,e0.ag e1,?_⟩
    refine ab (LG (wt:=b.2) (a:=x.q) i6.fc d1.st.Mq (by omega) (by omega) (by omega) (by omega) (by rw [p3];exact g0 _) (fun _=>p3) kz) ?_
    rintro v yz ⟨rfl,qd,qf,o',c',qs',R3,u1,qg,m2,f7,m3,g3⟩
    rw [hq] at m3 g3 ⊢
    obtain ⟨u2,u3⟩:=Dr u0 d6 m2 f7
    have u4:ps'=qd∧es'=qf∧qs'.map (·.2)=rs':=by
     by_cases hz:fm ey k rs x.q.1=0
     ·obtain ⟨rfl,rfl,rfl⟩:=h9 hz
      obtain ⟨rfl,rfl,hr⟩:=g3 hz
      exact ⟨rfl,rfl,hr⟩
     ·obtain ⟨rfl,rfl,rfl⟩:=r9 hz
      obtain ⟨rfl,rfl,rfl⟩:=m3 hz
      exact ⟨rfl,rfl,hq⟩
    obtain ⟨rfl,rfl,u5⟩:=u4
    refine ⟨_,rfl,(e0.ag e1).same (f7.mono (fun i _ hi => .inr hi)),fun hn=>absurd hn (by simp),fun _=>⟨_,_,rs',R',o',c',qs',R3,i6.ref u1 m2 f7,u5,t9.ref i6 f7,fun y hy=>?_⟩⟩
    rw [List.mem_singleton] at hy
    subst hy
    exact ⟨u2,t8,u3⟩
  ·clear a8 a0 b4 e8 d6 hq
   rintro jk d4 ⟨ps,es,rs,R,o,c,qs,R2,hT,hq,hD,qh⟩
   obtain ⟨hA,e8,d6⟩:=qh (tA,wc x,39) (by simp)
   dsimp only at hA e8 d6
   have g2:=congrArg List.length hq
   rw [List.length_map] at g2
   have y0:=hT.st.n
   intro z3 p4 zb m5
   have m6:=(Own.made (e:=bd) (sz:=1) (n:=0) (F:=(·=d4.heap.size)) p4 rfl (by decide) rfl).aa (Ch.alloc m5)
   have m7:=Own.made (e:=bd) (sz:=1) (n:=0) (F:=(·=z3.heap.size)) m5 rfl (by decide) rfl
   have qj:=(ba.new p4).lt
   have qk:=(ba.new m5).lt
   refine ⟨fun iA iN iC oA oN oC kk vk w'=>∃ (m:Nat) (F1 F2:Nat→Prop),kk=m∧m≤rs.length∧vk=rs.length-m∧m=iN∧oN=(qJ [x.q.1.ver] (rs.take m)).length∧Own w' bd 1 iA iN iC (((rs.take m).map (·.ask.id)).map (.int .i64)) F1∧Own w' bd 1 oA oN oC ((qJ [x.q.1.ver] (rs.take m)).map (.int .i64)) F2∧(∀ i,F1 i→db d4 w' i)∧(∀ i,F2 i→db d4 w' i)∧jo F1 F2∧Ch ah d4 w',
    ⟨_,0,(·=d4.heap.size),(·=z3.heap.size),rfl,Nat.zero_le _,rfl,rfl,rfl,m6,m7,fun i hi=>⟨by omega,by omega⟩,fun i hi=>⟨by omega,by omega⟩,fun i h1 h2=>by omega,(Ch.alloc p4).ag (Ch.alloc m5)⟩,?_⟩
   clear m6 m7 p4 m5 qj qk
   rintro jk iA iN iC oA oN oC kk vk e7 ⟨m,F1,F2,rfl,hm,rfl,rfl,rfl,hI,hO,n1,n2,ap,e2⟩
   have b6:=hT.aa e2
   have zc:=e2.size
   have m8:∀ n,(qJ [x.q.1.ver] (rs.take n)).length≤rs.length:=fun n=>by
    unfold qJ
    rw [List.length_map]
    exact Nat.le_trans (List.length_filter_le _ _) (by rw [List.length_take];omega)
   refine ⟨_,_,_,b6.fc.c3,fun c0=>?_,fun qm=>?_⟩
   ·have c0:m<rs.length:=by have:=dQt c0;omega
    have u6:m<qs.length:=by omega
    have u7:rs.take (m+1)=rs.take m++[rs[m]]:=by rw [List.take_add_one,List.getElem?_eq_getElem c0];rfl
    have i3:qs[m].2=rs[m]:=by simp only [← hq,List.getElem_map]
    obtain ⟨g,l5⟩:∃ g,qs[m]=(g,rs[m]):=⟨qs[m].1,Prod.ext rfl i3⟩
    obtain ⟨p,hp,hF,a7⟩:=hT.fc.at u6
    rw [l5] at a7
    have z4:=fun w' k=>a7 ah w' k (fun x=>x)
    have u8:=fun w' k=>z4 w' k 0 _ rfl
    simp only [cm] at u8
    simp only [Int.toNat_natCast]
    refine ⟨fun iA iN iC oA oN oC w'=>∃ F1 F2:Nat→Prop,iN=m+1∧oN=(qJ [x.q.1.ver] (rs.take (m+1))).length∧Own w' bd 1 iA iN iC (((rs.take (m+1)).map (·.ask.id)).map (.int .i64)) F1∧Own w' bd 1 oA oN oC ((qJ [x.q.1.ver] (rs.take (m+1))).map (.int .i64)) F2∧(∀ i,F1 i→db d4 w' i)∧(∀ i,F2 i→db d4 w' i)∧jo F1 F2∧Ch ah d4 w',⟨_,_,_,b6.fc.c3,⟨by omega,by omega⟩,?_⟩,?_⟩
    rotate_left
    ·rintro jk iA' iN' iC' oA' oN' oC' zd ⟨F1',F2',rfl,rfl,a1,a2,a3,a4,a5,a6⟩
     exact ⟨rs.length-(m+1),by omega,m+1,F1',F2',by rw [ae (by omega) (by omega)];rfl,c0,rfl,rfl,rfl,a1,a2,a3,a4,a5,a6⟩
    subst hp
    refine b6.fc.own.rd.at (j:=m*8) (v := .int .i64 rs[m].ask.id) (by
     have:=dp (enc:=pf md) (sz:=8) qs (fun _=>rfl) u6 (q:=0) (by omega)
     rw [l5] at this
     exact this) fun p' qp=>⟨_,qp,fun zf qq=>?_⟩
    obtain ⟨z5,z6,d0,qv,i7,i8⟩:=Own.pW (enc := .int .i64) bi hI ay rs[m].ask.id qq rfl (by unfold maxLen;omega) (by omega)
    have f8:(rs.take m).map (·.ask.id)++[rs[m].ask.id]=(rs.take (m+1)).map (·.ask.id):=by rw [u7,List.map_append];rfl
    rw [f8] at i7
    have zg:=i8.size
    have b5:Ch ah d4 d0:=e2.trans i8 (fun i hi hx=>by have:=(n1 i hx).1;omega)
    have m9:=hO.af i8 (fun i _ h2 h1=>ap i h1 h2)
    have n0:=hT.aa b5
    have i9:jo (Ext F1 e7 d0) F2:=fun i h1 h2=>by
     rcases h1 with h1|h1
     ·exact ap i h1 h2
     ·have:=(n2 i h2).2;have:=h1.1;omega
    have j0:∀ i,Ext F1 e7 d0 i→db d4 d0 i:=fun i h1=>by
     rcases h1 with h1|h1
     ·exact ⟨(n1 i h1).1,by have:=(n1 i h1).2;omega⟩
     ·exact ⟨by have:=h1.1;omega,h1.2⟩
    refine ⟨z5,_,z6,d0,qv,fun oA oN oC w'=>∃ F2':Nat→Prop,oN=(qJ [x.q.1.ver] (rs.take (m+1))).length∧Own w' bd 1 oA oN oC ((qJ [x.q.1.ver] (rs.take (m+1))).map (.int .i64)) F2'∧(∀ i,F2' i→db d4 w' i)∧jo (Ext F1 e7 d0) F2'∧d0.heap.size≤w'.heap.size∧Ch ah d4 w'∧Own w' bd 1 z5 (m+1) z6 (((rs.take (m+1)).map (·.ask.id)).map (.int .i64)) (Ext F1 e7 d0),?_,?_⟩
    ·refine ⟨fun w'=>Ch ah d0 w',fun j9 n3=>⟨Ch.drew n3,_,_,_,fun w' k=>(n0.aa k).fc.c3,⟨by omega,by omega⟩,_,fun w' k=>z4 w' (b5.ag k) 1 _ rfl,_,fun w' k=>((hA.aa b5).aa k).cell 3 rfl,fun hv=>?_,fun hv=>?_⟩⟩
     ·have hv:rs[m].ask.ver=x.q.1.ver:=eq_of_beq hv
      have b7:Ch ah d0 j9:=Ch.drew n3
      refine ⟨_,_,_,(n0.aa b7).fc.c3,⟨by omega,by omega⟩,_,u8 j9 (b5.ag b7),fun zh qw=>?_⟩
      obtain ⟨qx,qy,z7,z8,j1,j2⟩:=Own.pW (enc := .int .i64) bi (m9.aa b7) ay rs[m].ask.id qw rfl (by have:=m8 m;unfold maxLen;omega) (by have:=m8 m;omega)
      have j3:qJ [x.q.1.ver] (rs.take (m+1))=qJ [x.q.1.ver] (rs.take m)++[rs[m].ask.id]:=by
       rw [u7,Cc,if_pos (decide_eq_true (by rw [hv];simp))]
      have qz:d0.heap.size=j9.heap.size:=by subst n3;rfl
      have zj:=j2.size
      rw [← j3] at j1
      have u9:(qJ [x.q.1.ver] (rs.take m)).length+1=(qJ [x.q.1.ver] (rs.take (m+1))).length:=by rw [j3,List.length_append];rfl
      rw [u9] at j1 z8
      refine ⟨qx,_,qy,z7,z8,Ext F2 j9 z7,rfl,j1,fun i h2=>?_,fun i h1 h2=>?_,by omega,(b5.ag b7).trans j2 (fun i hi hx=>by have:=(n2 i hx).1;omega),(i7.aa b7).af j2 (fun i _ h1 h2=>i9 i h1 h2)⟩
      ·rcases h2 with h2|h2
       ·exact ⟨(n2 i h2).1,by have:=(n2 i h2).2;omega⟩
       ·exact ⟨by have:=h2.1;omega,h2.2⟩
      ·rcases h2 with h2|h2
       ·exact i9 i h1 h2
       ·have:=(j0 i h1).2;have:=h2.1;omega
     ·have hv:¬ rs[m].ask.ver=x.q.1.ver:=fun he=>by
       have:(rs[m].ask.ver==x.q.1.ver)=true:=by rw [he];exact beq_self_eq_true _
       have hv:(rs[m].ask.ver==x.q.1.ver)=false:=hv
       rw [this] at hv;cases hv
      have b7:Ch ah d0 j9:=Ch.drew n3
      have j3:qJ [x.q.1.ver] (rs.take (m+1))=qJ [x.q.1.ver] (rs.take m):=by
       rw [u7,Cc,if_neg (by simpa using hv),List.append_nil]
      rw [j3]
      have qz:d0.heap.size=j9.heap.size:=by subst n3;rfl
      exact ⟨F2,rfl,m9.aa b7,fun i h2=>⟨(n2 i h2).1,by have:=(n2 i h2).2;omega⟩,i9,by omega,b5.ag b7,i7.aa b7⟩
    ·rintro jk oA' oN' oC' vb ⟨F2',rfl,v0,n4,v1,zk,j4,v2⟩
     have c9:=hT.aa j4
     refine ⟨_,_,_,c9.fc.c3,⟨by omega,by omega⟩,_,u8 vb j4,?_⟩
     refine ab (c9.st.said g0 rs[m].ask.id) ?_
     rintro v zm ⟨n5,_,p5⟩
     have p5:=p5 m c0 (NB c9.st.v.ids c0)
     have v3:=p5
     obtain ⟨so,sc,rfl,_,_,_⟩:=p5
     have o5:=c9.st.aj g0 (List.getElem_mem c0)
     have vc:=(c9.st.v.run _ (List.getElem_mem c0)).2.1
     have vd:(rs[m].dg.length:Int)<12:=vc.len
     have zp:rs[m].dg.length=rs[m].ask.ai.length+rs[m].said.length:=by unfold bo.dg;rw [List.length_append]
     refine ⟨_,_,_,rfl,ab (KJ (c9.aa n5).fc (i:=m) u6 (by rw [i3];omega) (by rw [i3];omega)) ?_⟩
     rintro v zq ⟨v4,n6⟩
     rw [i3,← QV c9.st c0] at v4
     have v5:=v4
     obtain ⟨vf,vg,rfl,_,_,_⟩:=v4
     refine ⟨_,_,_,rfl,ab (uP.ma (v3.aa n6) v5) ?_⟩
     rintro v zv ⟨rfl,v6⟩
     have b8:=(n5.ag n6).ag v6
     have zw:=b8.size
     refine ⟨_,rfl,eg (by rw [decide_eq_true rfl];rfl) ⟨Ext F1 e7 d0,F2',rfl,rfl,v2.aa b8,v0.aa b8,fun i h1=>⟨(j0 i h1).1,by have:=(j0 i h1).2;omega⟩,fun i h2=>⟨(n4 i h2).1,by have:=(n4 i h2).2;omega⟩,v1,j4.ag b8⟩⟩
   ·obtain rfl:m=rs.length:=by have:=dQf qm;omega
    rw [List.take_length] at hI hO ⊢
    have vh:IV e7 (.slice iA rs.length iC) (rs.map (·.ask.id)) F1:=by
     have h:=Own.iv (xs:=rs.map (·.ask.id)) (show V.Own e7 bd 1 iA (rs.map (·.ask.id)).length iC _ F1 by rw [List.length_map];exact hI)
     rw [List.length_map] at h
     exact h
    have vj:IV e7 (.slice oA (qJ [x.q.1.ver] rs).length oC) (qJ [x.q.1.ver] rs) F2:=Own.iv hO
    refine ⟨fun w'=>Ch ah e7 w',fun vp z9=>⟨Ch.drew z9,?_⟩⟩
    have n7:Ch ah e7 vp:=Ch.drew z9
    refine ab (b6.aa n7).st.ids ?_
    rintro v zx ⟨f8,v7⟩
    have n8:=f8
    obtain ⟨so,sc,rfl,_,_,_⟩:=f8
    have j5:=n7.ag v7
    refine ⟨_,_,_,rfl,j5,ab (uP.ma n8 (vh.aa j5)) ?_⟩
    rintro v zy ⟨rfl,v8⟩
    have n9:=j5.ag v8
    refine ⟨_,rfl,n9,eg (by rw [decide_eq_true rfl];rfl) ⟨_,fun w' k=>((hA.aa e2).aa k).cell 3 rfl,fun zz jb=>?_⟩⟩
    have j6:=n9.ag (Ch.alloc jb)
    refine ⟨j6,ab ((b6.aa j6).st.of (vs:=[x.q.1.ver]) (ba.new jb).rd (by simp) 1) ?_⟩
    rintro v w63 ⟨j3,v9⟩
    have w0:=j3
    obtain ⟨vf,vg,rfl,_,_,_⟩:=j3
    have j7:=j6.ag v9
    refine ⟨_,_,_,rfl,j7,ab (uP.ma w0 (vj.aa j7)) ?_⟩
    rintro v w64 ⟨rfl,w5⟩
    have d2:=j7.ag w5
    have e3:=b6.aa d2
    refine ⟨_,rfl,d2,eg (by rw [decide_eq_true rfl];rfl) ⟨_,fun w' k=>(b6.aa k).fc.c1,ab e3.st.free ?_⟩⟩
    rintro v w66 ⟨rfl,rfl⟩
    obtain ⟨DX,o0⟩:=e3.fc.x
    refine ⟨_,rfl,d2,ab (Ig o0.u) ?_⟩
    rintro v w67 ⟨rfl,rfl⟩
    rw [Qq e3.st.Mq]
    obtain ⟨ox,cx,vq,_⟩:=o0.row
    obtain ⟨DX4,w6⟩:=b6.fc.x
    obtain ⟨ox4,cx4,o3,_⟩:=w6.row
    refine ⟨_,rfl,d2,fun hn=>absurd hn (by simp),fun _=>⟨_,fun w' k=>(b6.aa k).fc.c2,_,_,_,fun w' k=>by rw [eh];exact o3 w' k,ab e3.st.kept ?_⟩⟩
    rintro v w70 ⟨rfl,rfl⟩
    refine ⟨_,rfl,d2,fun hn=>absurd hn (by simp),fun _=>⟨av.length-(j+1),by omega,j+1,by rw [ae (by omega) (by omega)];rfl,c0,rfl,ps,es,rs,R,o,c,qs,R2,e3,hq,(hD.aa e2).aa d2,fun y hy=>by cases hy⟩⟩
 ·clear g9
  rintro jk jc ⟨ps,es,rs,R,o,c,qs,R2,hT,hq,hD,_⟩
  refine ab (KQ jc 0) ?_
  rintro v jd ⟨rfl,x0⟩
  refine ⟨_,_,_,_,_,_,_,_,_,_,rfl,fun vv jf=>?_⟩
  have e4:=ba.new jf
  refine ⟨⟨e4.ok 0 rfl,e4.ok 1 rfl,e4.ok 2 rfl,e4.ok 3 rfl,e4.ok 4 rfl⟩,fun p6 vw=>?_⟩
  have x1:p6=vv.setCells jd.heap.size 0 (im ⟨0,false,false,[],[]⟩ none 0 none 0 0):=vw
  have o4:Ch ah jc p6:=x0.ag ((Ch.alloc (F:=ah) jf).trans (Ch.fr (F:=(·=jd.heap.size)) x1 rfl) (fun i hi he=>by omega))
  have d3:∀ w',Ch ah p6 w'→Ch ah W w':=fun w' k=>g5.ag (hT.st.ch.ag (o4.ag k))
  refine ⟨by decide,_,by rw [p8];exact (hD.aa o4).a.cell 0 rfl,?_⟩
  refine ab (Lm p6 q0.1 (⟨0,0,[],0,[]⟩,⟨none,0,none,0⟩)) ?_
  rintro v vx ⟨rfl,x2⟩
  refine ⟨_,rfl,pj rfl ?_⟩
  refine ab (Is vx cb (⟨0,0,[],0,[]⟩,⟨none,0,none,0⟩)) ?_
  rintro v vy ⟨rfl,x3⟩
  refine ⟨_,rfl,pj rfl (pj rfl (ab (Jh vy 1) ?_))⟩
  rintro v vz ⟨rfl,rfl⟩
  refine ⟨_,rfl,pj rfl (ab (MN vz) ?_)⟩
  rintro v w78 ⟨rfl,rfl⟩
  refine ⟨_,_,_,rfl,fun xc xd=>ab (Oi xc _ 1 1) ?_⟩
  rintro v xf ⟨rfl,rfl⟩
  refine ⟨_,_,_,rfl,ab (Ld xf 1) ?_⟩
  rintro v xg ⟨rfl,rfl⟩
  refine ⟨_,_,_,rfl,ab (Lv xg) ?_⟩
  rintro v xh ⟨rfl,rfl⟩
  refine ⟨_,rfl,ab (Ko xh) ?_⟩
  rintro v xj ⟨rfl,rfl⟩
  refine ⟨_,rfl,ab (Il xj 1) ?_⟩
  rintro v w84 ⟨rfl,rfl⟩
  exact ⟨_,rfl,rfl,d3 _ ((x2.ag x3).ag (Ch.alloc xd))⟩
end Go.Proofs.YtkbikekbaboclaaGreat.fo
