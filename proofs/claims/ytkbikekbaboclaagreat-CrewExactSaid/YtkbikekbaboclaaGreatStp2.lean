import Derived.Test.YtkbikekbaboclaaGreatStp
set_option linter.unusedVariables false
set_option linter.unusedSimpArgs false
namespace Go.Proofs.YtkbikekbaboclaaGreat.qn
open Go Go.Proofs V Vc fv ee qX Go.RowKit
def RR (W w:World) (wb:Nat) (A B:Nat→Prop):Nat→Prop:=fun i=>db W w i∧i≠wb∧¬ A i∧¬ B i
structure IA (W w:World) (wb bb:Nat) (pv:Value) (s:GL) (A B:Nat→Prop):Prop where
 ex:∃ (xv:Value) (oK:OA) (cK:Nat) (uK:List Value) (oV:OA) (cV:Nat) (uV:List Value),
  ba w wb [.pointer (some ⟨bb,0,none⟩),pv,xv,.slice oK s.K.length cK,.slice oV s.V.length cV] fg∧IV w xv s.x (RR W w wb A B) ∧
  V.Own w ay 1 oK s.K.length cK uK A∧df (fun u xs=>IV w u xs (RR W w wb A B)) uK s.K∧V.Own w ay 1 oV s.V.length cV uV B∧df (fun u xs=>IV w u xs (RR W w wb A B)) uV s.V
 a:∀ i,A i→db W w i∧i≠wb∧¬ B i
 b:∀ i,B i→db W w i∧i≠wb
 n:W.heap.size≤wb∧wb<w.heap.size
 ch:Ch ah W w
section
variable {W w w':World} {wb bb:Nat} {c:ep} {wt:ByteArray} {s:GL} {pv v:Value} {vs xs ys:List Int} {A B A' B' F G:Nat→Prop} {past:List gr} {b:Nat}
theorem RR.le (hs:w.heap.size≤w'.heap.size) (hA:∀ i,A' i→Ext A w w' i) (hB:∀ i,B' i→Ext B w w' i) {i:Nat} (hi:i<w.heap.size) (h:RR W w wb A B i):RR W w' wb A' B' i :=
 ⟨⟨h.1.1,by have:=h.1.2;omega⟩,h.2.1,fun k=>by
  rcases hA i k with k|k
  ·exact h.2.2.1 k
  ·have:=k.1;omega,fun k=>by
  rcases hB i k with k|k
  ·exact h.2.2.2 k
  ·have:=k.1;omega⟩
theorem df.iv {us:List Value} {xss:List (List Int)} (h:df (fun u xs=>IV w u xs F) us xss) (hc:Ch G w w') (hd:∀ i,i<w.heap.size→F i→¬ G i) {F':Nat→Prop} (hF:∀ i,i<w.heap.size→F i→F' i):df (fun u xs=>IV w' u xs F') us xss :=
 h.imp fun u xs k=>(k.mono (fun i hi h=>(⟨hF i hi h,hi,h⟩:F' i∧i<w.heap.size∧F i))).af hc (fun i _ h=>hd i h.2.1 h.2.2) |>.mono (fun i _ h=>h.1)
theorem IA.aa (h:IA W w wb bb pv s A B) (hc:Ch ah w w'):IA W w' wb bb pv s A B:=by
 obtain ⟨⟨xv,oK,cK,uK,oV,cV,uV,h1,h2,h3,h4,h5,h6⟩,ha,hb,hn,a0⟩:=h
 have hs:=hc.size
 have hR:∀ i,i<w.heap.size→RR W w wb A B i→RR W w' wb A B i:=fun i hi h=>RR.le hs (fun _ h => .inl h) (fun _ h => .inl h) hi h
 exact ⟨⟨xv,oK,cK,uK,oV,cV,uV,h1.aa hc,(h2.mono hR).aa hc,h3.aa hc,df.iv h4 hc (fun _ _ _=>id) hR,h5.aa hc,df.iv h6 hc (fun _ _ _=>id) hR⟩,
  fun i hi=>⟨⟨(ha i hi).1.1,by have:=(ha i hi).1.2;omega⟩,(ha i hi).2⟩,fun i hi=>⟨⟨(hb i hi).1.1,by have:=(hb i hi).1.2;omega⟩,(hb i hi).2⟩,⟨hn.1,by omega⟩,a0.ag hc⟩
theorem IA.size (h:IA W w wb bb pv s A B) (m:Md c wt) {j:Nat} (ok:vY c j s):s.x.length≤1000000:=by
 have:=m.ok.2.1;rw [ok.x];omega
theorem IA.Sy (h:IA W w wb bb pv s A B) {xv':Value} {xs':List Int} {oK oV:OA} {cK cV:Nat} {xv:Value}
  (hB:ba w wb [.pointer (some ⟨bb,0,none⟩),pv,xv,.slice oK s.K.length cK,.slice oV s.V.length cV] fg)
  (a2:ba w' wb [.pointer (some ⟨bb,0,none⟩),pv,xv',.slice oK s.K.length cK,.slice oV s.V.length cV] fg) (hx:IV w' xv' xs' (db w w')) (hc:Ch (·=wb) w w'):IA W w' wb bb pv ⟨xs',s.K,s.V⟩ A B:=by
 obtain ⟨⟨a3,oK0,cK0,uK,oV0,cV0,uV,h1,h2,h3,h4,h5,h6⟩,ha,hb,hn,a0⟩:=h
 have hs:=hc.size
 have he:(Obj.cells #[.pointer (some ⟨bb,0,none⟩),pv,a3,.slice oK0 s.K.length cK0,.slice oV0 s.V.length cV0] fg (0,0)) = .cells #[.pointer (some ⟨bb,0,none⟩),pv,xv,.slice oK s.K.length cK,.slice oV s.V.length cV] fg (0,0):=Option.some.inj (h1.symm.trans hB)
 injection he with he
 have he:=congrArg Array.toList he
 simp only [List.cons.injEq,Value.slice.injEq,and_true,true_and] at he
 obtain ⟨rfl,⟨rfl,rfl⟩,rfl,rfl⟩:=he
 have hR:∀ i,i<w.heap.size→RR W w wb A B i→RR W w' wb A B i:=fun i hi h=>RR.le hs (fun _ h => .inl h) (fun _ h => .inl h) hi h
 have a1:∀ i,i<w.heap.size→RR W w wb A B i→¬ i=wb:=fun i _ h=>h.2.1
 refine ⟨⟨xv',_,_,uK,_,_,uV,a2,hx.mono (fun i _ hi=>⟨⟨by have:=hi.1;have:=a0.size;omega,hi.2⟩,by have:=hi.1;omega,fun k=>by have:=(ha i k).1.2;have:=hi.1;omega,fun k=>by have:=(hb i k).1.2;have:=hi.1;omega⟩),h3.af hc (fun i _ hi=>(ha i hi).2.1),df.iv h4 hc a1 hR,h5.af hc (fun i _ hi=>(hb i hi).2),df.iv h6 hc a1 hR⟩,
  fun i hi=>⟨⟨(ha i hi).1.1,by have:=(ha i hi).1.2;omega⟩,(ha i hi).2⟩,fun i hi=>⟨⟨(hb i hi).1.1,by have:=(hb i hi).1.2;omega⟩,(hb i hi).2⟩,⟨hn.1,by omega⟩,a0.trans hc (fun i hi h=>by omega)⟩
set_option maxHeartbeats 1000000 in
theorem KS (m:Md c wt) (h:IA W w wb bb pv s A B) (b2:yn W bb c wt) {n:Nat} (ok:vY c n s) (hb:(b:Int)<c.blocks):Calls Tryz.prog Bs #[.pointer (some ⟨wb,0,none⟩),.int .i64 b] w (bc fun u w'=>u = .tuple #[]∧IA W w' wb bb pv (EW c wt b s) A B):=by
 have h':=h
 obtain ⟨⟨xv,oK,cK,uK,oV,cV,uV,h1,h2,h3,h4,h5,h6⟩,ha,d2,hn,b3⟩:=h
 have a6:=h'.size m ok
 have a0:=b2.aa b3
 obtain ⟨d3,b4,b5,b6⟩:=Ah m hb ok.x
 have b7:=Ar m hb b6
 have d4:=m.ok.2.1
 have d5:=m.ok.2.2.2.2.1
 refine Db.calls _ _ ?_
 refine ab (BU h1 a0 (ib (p:=7) (by omega) (by omega) hb) h2 a6) ?_
 rintro v w1 ⟨hv,a4⟩
 have a7:=hv
 obtain ⟨o1,c1,rfl,_⟩:=hv
 refine ⟨_,_,_,rfl,ab (od ((h1.aa a4).cell 0 rfl) (a0.aa a4) (ib (p:=8) (by omega) (by omega) hb) a7) ?_⟩
 rintro v w2 ⟨hv,a8⟩
 have d6:=hv
 obtain ⟨o2,c2,rfl,_,_,b8⟩:=hv
 have a2:=a4.ag a8
 refine ⟨_,_,_,rfl,ab (od ((h1.aa a2).cell 0 rfl) (a0.aa a2) (ib (p:=9) (by omega) (by omega) hb) (a7.aa a8)) ?_⟩
 rintro v w3 ⟨hv,a9⟩
 obtain ⟨o3,c3,rfl,_,_,b9⟩:=hv
 have a5:=a2.ag a9
 refine ⟨_,_,_,rfl,ab (Act.Km (b8.aa a9) b9 (fun x hx=>by have:=b5 x hx;exact ⟨by omega,by omega⟩) (Nat.le_trans (Nat.le_of_eq b4) (by omega))) ?_⟩
 rintro v w4 ⟨o4,c4,rfl,c0,c6⟩
 have a3:=a5.ag c6
 refine ⟨_,_,_,rfl,ab (od ((h1.aa a3).cell 0 rfl) (a0.aa a3) (ib (p:=10) (by omega) (by omega) hb) (Own.iv c0)) ?_⟩
 rintro v w5 ⟨hv,c7⟩
 have c8:=hv
 obtain ⟨o5,c5,rfl,_⟩:=hv
 have a1:=a3.ag c7
 refine ⟨_,_,_,rfl,ab (Ir (h1.aa a1) (h2.aa a1) c8 a6 (Nat.le_trans (Nat.le_of_eq b7) (by omega))) ?_⟩
 rintro v w6 ⟨rfl,xv',c9,d0,d1⟩
 exact ⟨rfl,rfl,(h'.aa a1).Sy (h1.aa a1) c9 d0 d1⟩
set_option maxHeartbeats 2000000 in
theorem MS (m:Md c wt) (h:IA W w wb bb pv s A B) (i8:yn W bb c wt) (m1:PV W pv past F) (d5:∀ e∈past,fy c e) (m2:past.length≤50) (ok:vY c b s) (hb:(b:Int)<c.blocks):Calls Tryz.prog BJ #[.pointer (some ⟨wb,0,none⟩),.int .i64 b] w (bc fun u w'=>u = .tuple #[]∧∃ A' B',IA W w' wb bb pv (Gm c wt past b s) A' B'):=by
 have h':=h
 obtain ⟨⟨xv,oK,cK,uK,oV,cV,uV,h1,h2,h3,h4,h5,h6⟩,ha,d6,hn,i9⟩:=h
 have l2:=h'.size m ok
 have e0:=i8.aa i9
 have p3:=m.ok.2.1
 have p4:=m.ok.2.2.2.1
 have m3:=tF m hb (p:=2) (.inl rfl) ok.x
 have p5:=ok.K.1
 have p6:=ok.V.1
 refine Er.calls _ _ ?_
 unfold Vm.A3 Vm.A4 Vm.A7 Vm.A9 Vm.B6 Vm.B8 Vm.C Vm.D0 Vm.F3 Vm.H0 Vm.H8 Vm.I5 Vm.J3 Vm.M Vm.R0 Vm.S7 Vm.Y;dsimp only
 refine ab (BU h1 e0 (ib (p:=2) (by omega) (by omega) hb) h2 l2) ?_
 rintro v w1 ⟨hv,f7⟩
 have j0:=hv
 obtain ⟨o1,c1,rfl,_⟩:=hv
 refine ⟨_,_,_,rfl,ab (od ((h1.aa f7).cell 0 rfl) (e0.aa f7) (ib (p:=3) (by omega) (by omega) hb) j0) ?_⟩
 rintro v w2 ⟨hv,i4⟩
 have m5:=hv
 obtain ⟨o2,c2,rfl,_⟩:=hv
 have e1:=f7.ag i4
 have m6:=h1.aa e1
 have l3:¬ A wb:=fun k=>(ha _ k).2.1 rfl
 have l4:¬ B wb:=fun k=>(d6 _ k).2 rfl
 refine ⟨_,_,_,rfl,fun w'=>Ch A w2 w',fun w3 e3=>⟨Ch.drew e3,_,_,_,fun w' k=>(m6.af k l3).cell 3 rfl,?_⟩⟩
 have j1:Ch ah w2 w3:=Ch.drew e3
 have a6:=e1.ag j1
 refine ab (od ((h1.aa a6).cell 0 rfl) (e0.aa a6) (ib (p:=4) (by omega) (by omega) hb) ((j0.aa i4).aa j1)) ?_
 rintro v w5 ⟨hv,m7⟩
 have m8:=hv
 obtain ⟨o5,c5,rfl,_⟩:=hv
 have a7:=j1.ag m7
 have b7:=e1.ag a7
 have m9:=h'.aa b7
 refine ⟨_,_,_,rfl,a7.any,fun w6 e6=>⟨(a7.ag (Ch.alloc e6)).any,?_⟩⟩
 obtain ⟨o7,c7,w7,r7,l5,b3⟩:=V.Own.push ia (h3.aa b7) bq e6 rfl rfl (by unfold maxLen;omega) (by omega)
 have j2:=(h1.aa b7).af b3 l3
 have p7:=b7.size
 have n0:=b3.size
 have n1:=hn.2
 have p8:=i9.size
 refine ⟨o7,_,c7,w7,r7,a7.any.same b3,j2.ok 3 rfl,fun w8 e8=>?_⟩
 have l6:=j2.set e8
 have b8:Ch (·=wb) w7 w8:=Ch.set e8 rfl
 have n2:w8.heap.size=w7.heap.size:=by subst e8;simp [World.setCell]
 have n3:∀ i,i<w.heap.size→RR W w wb A B i→¬ A i:=fun i _ h=>h.2.2.1
 have n4:∀ i,i<w.heap.size→RR W w wb A B i→¬ i=wb:=fun i _ h=>h.2.1
 have b9:Ch (fun i=>A i∨i=wb) w w8:=(b7.any.same (b3.mono (fun i _ h => .inl h))).same (b8.mono (fun i _ h => .inr h))
 have d1:Ch ah W w8:=i9.trans b9 (fun i hi h=>by
  rcases h with h|h
  ·have:=(ha i h).1.1;omega
  ·omega)
 have c0:∀ i,Ext A w5 w7 i→db W w8 i∧i≠wb∧¬ B i:=fun i hi=>by
  rcases hi with hi|hi
  ·exact ⟨⟨(ha i hi).1.1,by have:=(ha i hi).1.2;omega⟩,(ha i hi).2⟩
  ·exact ⟨⟨by have:=hi.1;omega,by have:=hi.2;omega⟩,by have:=hi.1;omega,fun k=>by have:=(d6 i k).1.2;have:=hi.1;omega⟩
 have i5:∀ i,i<w.heap.size→RR W w wb A B i→RR W w8 wb (Ext A w5 w7) B i:=fun i hi h=>RR.le (by omega) (fun i h=>by
  rcases h with h|h
  ·exact .inl h
  ·exact .inr ⟨by have:=h.1;omega,by have:=h.2;omega⟩) (fun _ h => .inl h) hi h
 have d2:∀ i,i<w.heap.size→RR W w wb A B i→¬ (A i∨i=wb):=fun i hi h k=>k.elim (n3 i hi h) (n4 i hi h)
 have j3:=(h2.mono (fun i hi h=>(⟨i5 i hi h,h⟩:_∧RR W w wb A B i))).af b9 (fun i hi h=>d2 i hi h.2) |>.mono (fun i _ h=>h.1)
 have l7:=df.iv h4 b9 d2 i5
 have j4:=df.iv h6 b9 d2 i5
 have d7:∀ i,i<w5.heap.size→db w3 w5 i→RR W w8 wb (Ext A w5 w7) B i:=fun i hi h=>⟨⟨by have:=h.1;have:=a6.size;omega,by omega⟩,by have:=h.1;have:=a6.size;omega,fun k=>by
   rcases k with k|k
   ·have:=(ha i k).1.2;have:=h.1;have:=a6.size;omega
   ·have:=k.1;omega,fun k=>by have:=(d6 i k).1.2;have:=h.1;have:=a6.size;omega⟩
 have l8:IV w8 (.slice o5 (times c wt 4 b (ej c wt 2 b s.x)).length c5) (times c wt 4 b (ej c wt 2 b s.x)) (RR W w8 wb (Ext A w5 w7) B) :=
  ((m8.mono (fun i hi h=>(⟨d7 i hi h,h⟩:_∧db w3 w5 i))).af (G:=fun i=>A i∨i=wb) ((b3.mono (fun i _ h => .inl h)).same (b8.mono (fun i _ h => .inr h))) (fun i hi h k=>by
   rcases k with k|k
   ·have:=(ha i k).1.2;have:=h.2.1;have:=a6.size;omega
   ·have:=h.2.1;have:=a6.size;omega)).mono (fun i _ h=>h.1)
 have e2:df (fun u xs=>IV w8 u xs (RR W w8 wb (Ext A w5 w7) B)) (uK++[.slice o5 (times c wt 4 b (ej c wt 2 b s.x)).length c5]) (iq c wt b s):=l7.snoc l8
 have e4:V.Own w8 ay 1 o7 (iq c wt b s).length c7 (uK++[.slice o5 (times c wt 4 b (ej c wt 2 b s.x)).length c5]) (Ext A w5 w7):=by
  have e:(iq c wt b s).length=s.K.length+1:=by unfold iq;rw [List.length_append];rfl
  rw [e]
  exact l5.af b8 (fun i _ h k=>(c0 i h).2.1 k)
 have f8:=h5.af b9 (fun i _ h k=>by
  rcases k with k|k
  ·exact (ha i k).2.2 h
  ·exact (d6 i h).2 k)
 have f9:(iq c wt b s).length=s.K.length+1:=by unfold iq;rw [List.length_append];rfl
 have d3:ba w8 wb [.pointer (some ⟨bb,0,none⟩),pv,xv,.slice o7 (iq c wt b s).length c7,.slice oV s.V.length cV] fg:=by rw [f9];exact l6
 have e5:IA W w8 wb bb pv ⟨s.x,iq c wt b s,s.V⟩ (Ext A w5 w7) B:=⟨⟨xv,o7,c7,_,oV,cV,uV,d3,j3,e4,e2,f8,j4⟩,c0,fun i hi=>⟨⟨(d6 i hi).1.1,by have:=(d6 i hi).1.2;omega⟩,(d6 i hi).2⟩,⟨hn.1,by omega⟩,d1⟩
 generalize p9:Ext A w5 w7=A8 at e5 e4 e2 j3 j4 c0
 have n5:IV w8 (.slice o1 (ej c wt 2 b s.x).length c1) (ej c wt 2 b s.x) (db w w8):=((j0.aa (i4.ag a7)).af (G:=fun i=>A i∨i=wb) ((b3.mono (fun i _ h => .inl h)).same (b8.mono (fun i _ h => .inr h))) (fun i _ h k=>by
   rcases k with k|k
   ·have:=(ha i k).1.2;have:=h.1;omega
   ·have:=h.1;omega)).mono (fun i _ h=>⟨h.1,by have:=h.2;have:=i4.size;have:=a7.size;omega⟩)
 have n6:IV w8 (.slice o2 (times c wt 3 b (ej c wt 2 b s.x)).length c2) (times c wt 3 b (ej c wt 2 b s.x)) (db w w8):=((m5.aa a7).af (G:=fun i=>A i∨i=wb) ((b3.mono (fun i _ h => .inl h)).same (b8.mono (fun i _ h => .inr h))) (fun i _ h k=>by
   rcases k with k|k
   ·have:=(ha i k).1.2;have:=h.1;have:=f7.size;omega
   ·have:=h.1;have:=f7.size;omega)).mono (fun i _ h=>⟨by have:=h.1;have:=f7.size;omega,by have:=h.2;have:=a7.size;omega⟩)
 have j5:=i8.aa d1
 have q2:w.heap.size≤w8.heap.size:=by omega
 clear r7 l6 e8 e6 l5 l8 i5 d2 d7 l7 j2
 -- the values
 refine ⟨fun w'=>Ch B w8 w',fun w9 e9=>⟨Ch.drew e9,_,_,_,fun w' k=>(d3.af k l4).cell 4 rfl,?_⟩⟩
 have c9:Ch ah w8 w9:=Ch.drew e9
 refine ab (od ((d3.aa c9).cell 0 rfl) (j5.aa c9) (ib (p:=5) (by omega) (by omega) hb) (n5.aa c9)) ?_
 rintro v d0 ⟨hv,j6⟩
 have j7:=hv
 obtain ⟨j8,j9,rfl,_⟩:=hv
 have a2:=c9.ag j6
 refine ⟨_,_,_,rfl,a2.any,fun q3 k0=>⟨(a2.ag (Ch.alloc k0)).any,?_⟩⟩
 obtain ⟨g0,g3,b6,l9,g4,a3⟩:=V.Own.push ia (f8.aa a2) bq k0 rfl rfl (by unfold maxLen;omega) (by omega)
 have e7:=(d3.aa a2).af a3 l4
 have m0:=a2.size
 have n7:=a3.size
 refine ⟨g0,_,g3,b6,l9,a2.any.same a3,e7.ok 4 rfl,fun a5 i6=>?_⟩
 have g5:=e7.set i6
 have b4:Ch (·=wb) b6 a5:=Ch.set i6 rfl
 have n8:a5.heap.size=b6.heap.size:=by subst i6;simp [World.setCell]
 have q4:wb<w8.heap.size:=e5.n.2
 have f0:∀ i,B i→db W w8 i∧i≠wb:=e5.b
 have a4:Ch (fun i=>B i∨i=wb) w8 a5:=(a2.any.same (a3.mono (fun i _ h => .inl h))).same (b4.mono (fun i _ h => .inr h))
 have q5:=d1.size
 have c4:Ch ah W a5:=d1.trans a4 (fun i hi h=>by
  rcases h with h|h
  ·have:=(f0 i h).1.1;omega
  ·omega)
 have d4:∀ i,i<w8.heap.size→RR W w8 wb A8 B i→RR W a5 wb A8 (Ext B d0 b6) i:=fun i hi h=>RR.le (by omega) (fun _ h => .inl h) (fun i h=>by
  rcases h with h|h
  ·exact .inl h
  ·exact .inr ⟨by have:=h.1;omega,by have:=h.2;omega⟩) hi h
 have b5:∀ i,i<w8.heap.size→RR W w8 wb A8 B i→¬ (B i∨i=wb):=fun i hi h k=>k.elim h.2.2.2 h.2.1
 have g6:=(j3.mono (fun i hi h=>(⟨d4 i hi h,h⟩:_∧RR W w8 wb A8 B i))).af a4 (fun i hi h=>b5 i hi h.2) |>.mono (fun i _ h=>h.1)
 have f3:=df.iv e2 a4 b5 d4
 have g7:=df.iv j4 a4 b5 d4
 have g8:IV a5 (.slice j8 (times c wt 5 b (ej c wt 2 b s.x)).length j9) (times c wt 5 b (ej c wt 2 b s.x)) (RR W a5 wb A8 (Ext B d0 b6)) :=
  ((j7.mono (fun i hi h=>(⟨⟨⟨by have:=h.1;have:=c9.size;omega,by omega⟩,by have:=h.1;have:=c9.size;omega,fun k=>by have:=(c0 i k).1.2;have:=h.1;have:=c9.size;omega,fun k=>by
   rcases k with k|k
   ·have:=(f0 i k).1.2;have:=h.1;have:=c9.size;omega
   ·have:=k.1;omega⟩,h⟩:RR W a5 wb A8 (Ext B d0 b6) i∧db w9 d0 i))).af (G:=fun i=>B i∨i=wb) ((a3.mono (fun i _ h => .inl h)).same (b4.mono (fun i _ h => .inr h))) (fun i hi h k=>by
   rcases k with k|k
   ·have:=(f0 i k).1.2;have:=h.2.1;have:=c9.size;omega
   ·have:=h.2.1;have:=c9.size;omega)).mono (fun i _ h=>h.1)
 have c6:df (fun u xs=>IV a5 u xs (RR W a5 wb A8 (Ext B d0 b6))) (uV++[.slice j8 (times c wt 5 b (ej c wt 2 b s.x)).length j9]) (la c wt b s):=g7.snoc g8
 have d8:(la c wt b s).length=s.V.length+1:=by unfold la;rw [List.length_append];rfl
 have a8:ba a5 wb [.pointer (some ⟨bb,0,none⟩),pv,xv,.slice o7 (iq c wt b s).length c7,.slice g0 (la c wt b s).length g3] fg:=by rw [d8];exact g5
 have a9:V.Own a5 ay 1 g0 (la c wt b s).length g3 (uV++[.slice j8 (times c wt 5 b (ej c wt 2 b s.x)).length j9]) (Ext B d0 b6):=by
  rw [d8]
  exact g4.af b4 (fun i _ h k=>by
   rcases h with h|h
   ·exact (f0 i h).2 k
   ·have:=h.1;omega)
 have b2:=e4.af a4 (fun i _ h k=>by
  rcases k with k|k
  ·exact (c0 i h).2.2 k
  ·exact (c0 i h).2.1 k)
 have g9:IA W a5 wb bb pv ⟨s.x,iq c wt b s,la c wt b s⟩ A8 (Ext B d0 b6):=⟨⟨xv,o7,c7,_,g0,g3,_,a8,g6,b2,f3,a9,c6⟩,fun i hi=>⟨⟨(c0 i hi).1.1,by have:=(c0 i hi).1.2;omega⟩,(c0 i hi).2.1,fun k=>by
   rcases k with k|k
   ·exact (c0 i hi).2.2 k
   ·have:=(c0 i hi).1.2;have:=k.1;omega⟩,fun i hi=>by
   rcases hi with hi|hi
   ·exact ⟨⟨(f0 i hi).1.1,by have:=(f0 i hi).1.2;omega⟩,(f0 i hi).2⟩
   ·exact ⟨⟨by have:=hi.1;omega,by have:=hi.2;omega⟩,by have:=hi.1;omega⟩,⟨hn.1,by omega⟩,c4⟩
 have k1:=n6.af a4 (fun i _ h k=>by
  rcases k with k|k
  ·have:=(d6 i k).1.2;have:=h.1;omega
  ·have:=h.1;omega)
 have c8:=i8.aa c4
 have h0:=m1.aa c4
 have h7:ba a5 bb (zH c++[.string wt]) gu:=c8.r
 have h8:RV a5 (.slice o7 (iq c wt b s).length c7) (iq c wt b s) (fun i=>A8 i∨RR W a5 wb A8 (Ext B d0 b6) i):=⟨_,_,_,rfl,b2.2.1,b2.2.2.1,b2.rd.mono (fun i _ h => .inl h),f3.imp (fun u xs k=>k.mono (fun i _ h => .inr h))⟩
 have f4:RV a5 (.slice g0 (la c wt b s).length g3) (la c wt b s) (fun i=>Ext B d0 b6 i∨RR W a5 wb A8 (Ext B d0 b6) i):=⟨_,_,_,rfl,a9.2.1,a9.2.2.1,a9.rd.mono (fun i _ h => .inl h),c6.imp (fun u xs k=>k.mono (fun i _ h => .inr h))⟩
 have f5:=JS m hb ok d5
 have h9:=(nO m hb (p:=3) (by omega) m3).1
 clear g8 c6 g7 d4 b5 g4 l9 g5 e7 i6 k0 a9 b2 f3 g6
 have hh:=m.ok.2.2.1
 have q6:=ya m.ok
 have n9:=(pT m.ok).2
 refine ⟨_,a8.cell 0 rfl,_,h7.cell 2 rfl,fun A j C i k w'=>∃ jj:Nat,i=jj∧j=(nU c (past++[(iq c wt b s,la c wt b s)]) b (times c wt 3 b (ej c wt 2 b s.x)) jj).length∧jj≤c.heads.toNat∧k=c.heads.toNat-jj∧Gr ah a5 w' bd 1 A j C ((nU c (past++[(iq c wt b s,la c wt b s)]) b (times c wt 3 b (ej c wt 2 b s.x)) jj).map (.int .i64)),⟨_,0,rfl,rfl,Nat.zero_le _,rfl,Gr.nil (Ch.refl _ _)⟩,?_⟩
 rintro jk sA sN sC i k o0 ⟨jj,rfl,rfl,hj,rfl,hg⟩
 refine ⟨fun i7=>?_,fun k2=>?_⟩
 ·have i7:jj<c.heads.toNat:=by have:=dQt i7;omega
  have a0:=h7.aa hg.2
  refine ⟨_,(a8.aa hg.2).cell 0 rfl,_,_,_,_,_,_,⟨a0.cell 0 rfl,a0.cell 1 rfl,a0.cell 2 rfl,a0.cell 3 rfl,a0.cell 4 rfl,a0.cell 5 rfl⟩,ab (AE o0 m.ok) ?_⟩
  rintro v q7 ⟨rfl,i0⟩
  have a1:=hg.2.ag i0
  have o3:(jj+1)*bu c≤c.heads.toNat*bu c:=Nat.mul_le_mul_right _ i7
  have q8:(jj+1)*bu c=jj*bu c+bu c:=Nat.succ_mul _ _
  have ewr:IntKind.i64.wrap ((jj:Int)*((bu c:Nat):Int))=((jj*bu c:Nat):Int):=by rw [← Int.natCast_mul,ae (by omega) (by omega)]
  refine ⟨_,rfl,?_⟩
  rw [ewr]
  refine ab (MG (a8.aa a1) (c8.aa a1) (h0.aa a1) (h8.aa a1) (f4.aa a1) (k1.aa a1) f5 h9 (by omega) m2) ?_
  rintro v q9 ⟨k3,k4⟩
  obtain ⟨r0,o4,rfl,_,_,k5⟩:=k3
  have r1:(nU c (past++[(iq c wt b s,la c wt b s)]) b (times c wt 3 b (ej c wt 2 b s.x)) jj).length≤10000:=by
   rw [Eb m.ok (by simp) f5 jj (by omega)];omega
  have r2:=(IF (q:=times c wt 3 b (ej c wt 2 b s.x)) (a:=jj*bu c) (n:=bu c) (by simp) f5 (by omega)).1
  obtain ⟨o6,o8,o9,p0,k6,_⟩:=Gr.HL (c2:=o4) (m:=(DN (past++[(iq c wt b s,la c wt b s)]) b (jj*bu c) (bu c) (times c wt 3 b (ej c wt 2 b s.x))).length) bi (hg.aa (i0.ag k4)) ay k5 (by rw [List.length_map,Nat.mul_one]) (fun u hu=>by
   obtain ⟨x,_,rfl⟩:=List.mem_map.1 hu
   rfl) (by omega) (by omega)
  refine ⟨_,_,_,rfl,o6,_,o8,o9,p0,c.heads.toNat-(jj+1),by omega,jj+1,by rw [ae (by omega) (by omega)];rfl,by rw [nU,List.length_append],i7,rfl,?_⟩
  rw [nU,List.map_append]
  exact k6
 ·have k2:jj=c.heads.toNat:=by have:=dQf k2;omega
  subst k2
  have i1:=g9.aa hg.2
  have i2:=a8.aa hg.2
  refine ab (od (i2.cell 0 rfl) (c8.aa hg.2) (ib (p:=6) (by omega) (by omega) hb) (Gr.iv hg)) ?_
  rintro v r3 ⟨hv,i3⟩
  have k7:=hv
  obtain ⟨r4,r5,rfl,_⟩:=hv
  have p1:=(nO m hb (p:=6) (by omega) (vZ m hb ok d5 (q:=times c wt 3 b (ej c wt 2 b s.x)))).1
  have d9:=i1.aa i3
  have p2:=i2.aa i3
  have f6:=d9
  obtain ⟨⟨r6,oK2,cK2,uK2,oV2,cV2,uV2,g1,g2,_⟩,_⟩:=d9
  refine ⟨_,_,_,rfl,ab (Ir g1 g2 k7 l2 (Nat.le_trans (Nat.le_of_eq p1) (by omega))) ?_⟩
  rintro v r8 ⟨rfl,xv',k8,k9,l1⟩
  exact ⟨rfl,rfl,_,_,f6.Sy g1 k8 k9 l1⟩
theorem IQ (m:Md c wt) (h:IA W w wb bb pv s A B) (b5:yn W bb c wt) {n:Nat} (ok:vY c n s):Calls Tryz.prog zB #[.pointer (some ⟨wb,0,none⟩)] w (bc fun u w'=>IV w' u (qV c wt s.x) (db w w')∧Ch ah w w'):=by
 have h':=h
 obtain ⟨⟨xv,oK,cK,uK,oV,cV,uV,h1,h2,h3,h4,h5,h6⟩,ha,d1,hn,b6⟩:=h
 have b7:=h'.size m ok
 have a1:=b5.aa b6
 have d2:=m.ok.1
 refine BR.calls _ ?_
 refine ab (BU h1 a1 (Mh c) h2 b7) ?_
 rintro v w1 ⟨hv,a5⟩
 have b8:=hv
 obtain ⟨o1,c1,rfl,_⟩:=hv
 refine ⟨_,_,_,rfl,_,(h1.aa a5).cell 0 rfl,ab (Ai (a1.aa a5) (tS c)) ?_⟩
 rintro v w2 ⟨A2,C2,rfl,a6,b9,b2⟩
 refine ⟨_,_,_,_,_,_,rfl,fun w3 e3=>?_⟩
 have hU:=ba.new e3
 refine ⟨⟨hU.ok 0 rfl,hU.ok 1 rfl,hU.ok 2 rfl⟩,fun w4 e4=>?_⟩
 have b3:w4=w3.setCells w2.heap.size 0 [.int .i64 (side c (0:Nat)).1,.int .i64 (side c (0:Nat)).2,.slice A2 (pY c wt 0 0).length C2]:=e4
 have b4:=hU.all [.int .i64 (side c (0:Nat)).1,.int .i64 (side c (0:Nat)).2,.slice A2 (pY c wt 0 0).length C2] rfl b3
 have a0:Ch ah w2 w4:=(Ch.alloc (F:=ah) e3).trans (Ch.fr (F:=(·=w2.heap.size)) b3 rfl) (fun i hi he=>by omega)
 have hl:(pY c wt 0 0).length≤1000000:=by
  rw [Hz m.ok m.sz (tS c)]
  have:=pL m.ok.small (tS c);omega
 have a2:=(a5.ag b2).ag a0
 have c0:=a2.size
 have a3:(side c ((0:Nat):Int)).1=c.vocab:=rfl
 refine ⟨_,b4.cell 0 rfl,?_⟩
 rw [a3]
 obtain ⟨L,hL⟩:∃ L:List Int,qV c wt s.x=L:=⟨_,rfl⟩
 have d3:L.length=c.vocab.toNat:=by rw [← hL];unfold qV;rw [List.length_map,List.length_range]
 have c4:∀ (t:Nat) (ht:t<L.length),L[t]=shift (se (ks c wt 0 0 (t:Nat)) (ej c wt 11 0 s.x)) 5:=fun t ht=>by subst hL;simp [qV]
 rw [hL]
 refine ⟨fun A j C i k w'=>i=j∧j≤L.length∧k=L.length-j∧Gr ah w4 w' bd 1 A j C ((L.take j).map (.int .i64)),⟨_,rfl,Nat.zero_le _,rfl,Gr.nil (Ch.refl _ _)⟩,?_⟩
 rintro jk oA oN oC i k w5 ⟨rfl,hj,rfl,hg⟩
 have a7:=b4.aa hg.2
 refine ⟨fun a4=>?_,fun c5=>?_⟩
 ·have a4:oN<L.length:=by have:=dQt a4;omega
  refine ⟨_,_,_,_,_,⟨a7.cell 0 rfl,a7.cell 1 rfl,a7.cell 2 rfl⟩,ab (ft.ry (b9.aa (a0.ag hg.2)) a6 (Dw _) hl _ _ (oN:Int)) ?_⟩
  rintro v w6 ⟨A6,C6,rfl,a8⟩
  have c6:(ft.tJ (pY c wt 0 0) (side c ((0:Nat):Int)).1 (side c ((0:Nat):Int)).2 (oN:Int)).length≤1000000:=by
   have:=uC m.ok m.sz (tS c) (q:=oN) (by rw [a3];omega)
   unfold ks at this
   rw [this]
   have:=m.ok.2.1
   show c.dim.toNat≤_
   omega
  refine ⟨_,_,_,rfl,ab (Kw (Gr.iv a8) (b8.aa (((b2.ag a0).ag hg.2).ag a8.2)) c6) ?_⟩
  rintro v w7 ⟨rfl,c7⟩
  refine ⟨_,rfl,ab (rO w7 (ft.Ap _ _) 5) ?_⟩
  rintro v w8 ⟨rfl,c8⟩
  refine ⟨_,rfl,fun w9 e9=>?_⟩
  have c9:=hg.aa ((a8.2.ag c7).ag c8)
  obtain ⟨A',C',d0,hr,a9,_⟩:=c9.next bi ay a4 (by omega) e9 (by rw [c4 oN a4];rfl) rfl (by omega)
  exact ⟨A',_,C',d0,hr,L.length-(oN+1),by omega,by rw [ae (by omega) (by omega)];rfl,a4,rfl,a9⟩
 ·have:oN=L.length:=by have:=dQf c5;omega
  subst this
  rw [List.take_length] at hg
  exact ⟨(Gr.iv hg).mono (fun i _ hi=>⟨by have:=hi.1;omega,hi.2⟩),a2.ag hg.2⟩
end
end Go.Proofs.YtkbikekbaboclaaGreat.qn
