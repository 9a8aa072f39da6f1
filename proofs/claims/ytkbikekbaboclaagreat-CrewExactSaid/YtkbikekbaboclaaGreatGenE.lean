import Derived.Test.YtkbikekbaboclaaGreatRefU
import Derived.Test.YtkbikekbaboclaaGreatGenL
import Derived.Test.YtkbikekbaboclaaGreatPkVa
set_option linter.unusedVariables false
set_option linter.unusedSimpArgs false
namespace Go.Proofs.YtkbikekbaboclaaGreat.rI
open Go Go.Proofs V Vc fv ee qX qn uP PI Nb Go.RowKit
section
variable {c:ep} {wt:ByteArray} {w w':World} {bb:Nat} {v pv sv dv:Value} {F G:Nat→Prop} {ts sc draws:List Int} {tk:Nat→List Int→Int}
theorem CO (m:Md c wt) (ht:IV w pv ts F) (hl:ts.length≤1000000) (most:Int):Calls Tryz.prog tX #[sg c wt,.int .i64 most,pv] w (bc fun v w'=>v = .int .i64 (mh c most ts)∧Ch ah w w'):=by
 have a9:=ht
 obtain ⟨o,cc,rfl,_⟩:=ht
 have b2:=m.ok.2.2.2.2.2.1
 refine xa.calls _ _ _ _ _ _ _ _ _ _ _ ?_
 unfold Vm.A2 Vm.B Vm.B1 Vm.B2 Vm.B3 Vm.Br Vm.C Vm.D Vm.E8 Vm.F1 Vm.G Vm.I3 Vm.W Vm.X;dsimp only
 intro w1 e1
 have b3:=ba.new e1
 have a3:Ch ah w w1:=Ch.alloc e1
 unfold mh
 refine ⟨fun h0=>?_,fun h0=>⟨dT fun m1=>?_,dF fun m1=>⟨dT fun m2=>?_,dF fun m2=>?_⟩⟩⟩
 ·have h0:ts=[]:=List.eq_nil_of_length_eq_zero (by have:=eq_of_beq h0;omega)
  rw [if_pos (.inl h0)];exact ⟨rfl,a3⟩
 ·rw [if_pos (.inr (.inl m1))];exact ⟨rfl,a3⟩
 ·rw [if_pos (.inr (.inr m2))];exact ⟨rfl,a3⟩
 have h0:ts≠[]:=fun e=>by subst e;simp at h0
 rw [if_neg (fun k=>by rcases k with k|k|k;exact h0 k;exact m1 k;exact m2 k)]
 refine ⟨fun i k w'=>Ch ah w1 w'∧∃ j:Nat,i=j∧j≤ts.length∧k=ts.length-j∧∀ t∈ts.take j,0≤t∧t<c.vocab,⟨_,Ch.refl _ _,0,rfl,Nat.zero_le _,rfl,fun x hx=>by simp at hx⟩,?_⟩
 rintro jk i k w2 ⟨a4,j,rfl,hj,rfl,hs⟩
 have a8:=b3.aa a4
 have a0:=a3.ag a4
 refine ⟨dT fun a2=>?_,dF fun b6=>⟨_,a8.cell 5 rfl,?_⟩⟩
 ·have a2:j<ts.length:=by omega
  obtain ⟨a,rfl,_,a1⟩:=IV.get (a9.aa a0) a2
  have a5:=List.getElem_mem a2
  have bad:¬ (0≤ts[j]∧ts[j]<c.vocab)→¬ ∀ t∈ts,0≤t∧t<c.vocab:=fun h k=>h (k _ a5)
  refine ⟨fun w'=>Ch ah w2 w',fun w3 e3=>⟨Ch.drew e3,⟨by omega,by omega⟩,_,fun w' k=>a1 _ w' k (fun _ _ _=>id),dT fun a6=>?_,dF fun a6=>⟨⟨by omega,by omega⟩,_,fun w' k=>a1 _ w' k (fun _ _ _=>id),_,fun w' k=>(a8.aa k).cell 0 rfl,dT fun a7=>?_,dF fun a7=>?_⟩⟩⟩
  ·rw [if_pos (bad (by omega))];exact ⟨rfl,a0.ag (Ch.drew e3)⟩
  ·rw [if_pos (bad (by omega))];exact ⟨rfl,a0.ag (Ch.drew e3)⟩
  ·refine ⟨ts.length-(j+1),by omega,a4.ag (Ch.drew e3),j+1,by rw [ae (by omega) (by omega)];rfl,a2,rfl,fun x hx=>?_⟩
   rw [au ts j a2] at hx
   rcases List.mem_append.1 hx with hx|hx
   ·exact hs x hx
   ·rw [List.mem_singleton] at hx;subst hx;exact ⟨by omega,by omega⟩
 ·have b4:j=ts.length:=by omega
  subst b4
  rw [List.take_length] at hs
  rw [if_neg (fun k=>k hs),ae (by omega) (by omega)]
  refine ⟨dT fun b5=>?_,dF fun b5=>?_⟩
  ·rw [if_pos (by omega)];exact ⟨rfl,a0⟩
  ·rw [if_neg (by omega)];exact ⟨rfl,a0⟩
theorem IM (hs:IV w sv sc F) (hl:sc.length≤1000000):Calls Tryz.prog py #[sv] w (bc fun v w'=>v = .int .i64 (Ho sc)∧Ch ah w w'):=by
 obtain ⟨o,cc,rfl,h1,h2,hr⟩:=hs
 refine ab (ed.LK hr hl cc) ?_
 rintro v w1 ⟨b,rfl,hb,hc⟩
 exact ⟨by rw [hb.Tb PO],hc⟩
def Cv (W w:World) (o:OA) (n cp:Nat) (es:List gr) (A B:Nat→Prop):Prop :=
 ∃ nps:List (Value × Value),V.Own w az 2 o n cp (nps.map ei).flatten A∧n=es.length∧df (fun p e=>EV w p e (fun i=>db W w i∧¬ A i∧¬ B i)) nps es∧(∀ i,A i→db W w i∧¬ B i)∧(∀ i,B i→db W w i)∧Ch ah W w
section
variable {W w1:World} {o:OA} {n cp:Nat} {es:List gr} {A B B':Nat→Prop} {p:Value × Value} {e:gr}
theorem Cv.ch (h:Cv W w o n cp es A B):Ch ah W w:=by obtain ⟨_,_,_,_,_,_,h⟩:=h;exact h
theorem Cv.len (h:Cv W w o n cp es A B):n=es.length:=by obtain ⟨_,_,h,_⟩:=h;exact h
theorem Cv.Ta (h:Cv W w o n cp es A B):PV w (.slice o n cp) es (db W w):=by
 obtain ⟨nps,h1,rfl,h3,h4,_,h5⟩:=h
 exact ⟨o,cp,nps,rfl,h1.2.1,h1.2.2.1,h1.rd.mono (fun i _ hi=>(h4 i hi).1),h3.imp fun p e k=>k.mono (fun i _ hi=>hi.1)⟩
theorem Cv.NY (h:Cv W w o n cp es A B) (hc:Ch B w w') (hB:∀ i,B' i→Ext B w w' i):Cv W w' o n cp es A B':=by
 obtain ⟨nps,h1,h2,h3,h4,h6,h5⟩:=h
 have hs:=hc.size
 have a1:=h5.size
 have a0:∀ i,i<w.heap.size→¬ B i→¬ B' i:=fun i hi h k=>by
  rcases hB i k with k|k
  ·exact h k
  ·have:=k.1;omega
 refine ⟨nps,h1.af hc (fun i _ ha hb=>(h4 i ha).2 hb),h2,h3.imp fun p e k=>?_,fun i hi=>⟨⟨(h4 i hi).1.1,by have:=(h4 i hi).1.2;omega⟩,a0 i (h4 i hi).1.2 (h4 i hi).2⟩,fun i hi=>?_,h5.trans hc (fun i hi k=>by have:=(h6 i k).1;omega)⟩
 ·exact ((k.mono (fun i hi h=>(⟨⟨⟨h.1.1,by omega⟩,h.2.1,a0 i hi h.2.2⟩,h⟩:(db W w' i∧¬ A i∧¬ B' i)∧(db W w i∧¬ A i∧¬ B i)))).af hc (fun i _ h k=>h.2.2.2 k)).mono (fun i _ h=>h.1)
 ·rcases hB i hi with hi|hi
  ·exact ⟨(h6 i hi).1,by have:=(h6 i hi).2;omega⟩
  ·exact ⟨by have:=hi.1;omega,hi.2⟩
theorem Cv.aa (h:Cv W w o n cp es A B) (hc:Ch ah w w'):Cv W w' o n cp es A B:=h.NY hc.any (fun i hi => .inl hi)
theorem Cv.push (h:Cv W w o n cp es A B) (hE:EV w p e (fun i=>db W w i∧¬ A i∧¬ B i)) (e1:w1=w.alloc (.cells #[p.1,p.2] az (0,0))) (hn:n<1000000) :
  ∃ (o':OA) (c':Nat) (w':World),(Builtin.append_ #[bg,bg] bg #[.slice o n cp,.slice (some ⟨w.heap.size,0,none⟩) 1 1]).run Tryz.prog w1 = .ok (.slice o' (n+1) c') w'∧Cv W w' o' (n+1) c' (es++[e]) (Ext A w w') B∧Ch A w w':=by
 obtain ⟨nps,h1,rfl,h3,h4,h6,h5⟩:=h
 obtain ⟨o',c',w',hr,hO,hc⟩:=V.Own.push nj h1 bg e1 rfl (by simp [RV.one hE.1,RV.one hE.2]) (by unfold maxLen;omega) (by omega)
 have hs:=hc.size
 have a1:=h5.size
 have a0:∀ i,i<w.heap.size→(db W w i∧¬ A i∧¬ B i)→db W w' i∧¬ Ext A w w' i∧¬ B i:=fun i hi h=>⟨⟨h.1.1,by omega⟩,fun k=>by
  rcases k with k|k
  ·exact h.2.1 k
  ·have:=k.1;omega,h.2.2⟩
 refine ⟨o',c',w',hr,⟨nps++[p],by rw [show ((nps++[p]).map ei).flatten=(nps.map ei).flatten++[p.1,p.2] by simp [ei]];exact hO,by simp,?_,fun i hi=>?_,fun i hi=>⟨(h6 i hi).1,by have:=(h6 i hi).2;omega⟩,h5.trans hc (fun i hi k=>by have:=(h4 i k).1.1;omega)⟩,hc⟩
 ·have step:∀ {p:Value × Value} {e:gr},EV w p e (fun i=>db W w i∧¬ A i∧¬ B i)→EV w' p e (fun i=>db W w' i∧¬ Ext A w w' i∧¬ B i):=fun k=>((k.mono (fun i hi h=>(⟨a0 i hi h,h⟩:(db W w' i∧¬ Ext A w w' i∧¬ B i)∧(db W w i∧¬ A i∧¬ B i)))).af hc (fun i _ h k=>h.2.2.1 k)).mono (fun i _ h=>h.1)
  exact (h3.imp fun p e k=>step k).snoc (step hE)
 ·rcases hi with hi|hi
  ·exact ⟨⟨(h4 i hi).1.1,by have:=(h4 i hi).1.2;omega⟩,(h4 i hi).2⟩
  ·exact ⟨⟨by have:=hi.1;omega,hi.2⟩,fun k=>by have:=(h6 i k).2;have:=hi.1;omega⟩
theorem Cv.ze (h:Cv W w o n cp es A B) {w2 w3:World} (hs:w.heap.size≤w2.heap.size) (hW:w3.heap.size≤w'.heap.size) {i:Nat} (hi:db w2 w3 i):db W w' i∧¬ A i∧¬ B i:=by
 obtain ⟨nps,h1,rfl,h3,h4,h6,h5⟩:=h
 have:=h5.size
 exact ⟨⟨by have:=hi.1;omega,by have:=hi.2;omega⟩,fun k=>by have:=(h4 i k).1.2;have:=hi.1;omega,fun k=>by have:=(h6 i k).2;have:=hi.1;omega⟩
end
theorem Sv {W:World} {o:OA} {n cp:Nat} {es:List gr} {A B:Nat→Prop} (h:Cv W w o n cp es A B):∀ i,B i→db W w i:=by obtain ⟨_,_,_,_,_,h,_⟩:=h;exact h
theorem SX {W:World} {o:OA} {n cp:Nat} {es:List gr} {A B:Nat→Prop} (h:Cv W w o n cp es A B):∀ i,A i→¬ B i:=by obtain ⟨_,_,_,_,h,_⟩:=h;exact fun i hi=>(h i hi).2
theorem Cv.add {W w1 w2:World} {o:OA} {n cp:Nat} {es:List gr} {A B:Nat→Prop} {p:Value × Value} {e:gr} {u:Value} {ns:List Int} (h:Cv W w o n cp es A B) (hc:Ch ah w w1) (hE:EV w1 p e (fun i=>w.heap.size≤i)) (hS:IV w1 u ns (fun i=>w.heap.size≤i)) (e2:w2=w1.alloc (.cells #[p.1,p.2] az (0,0))) (hn:n<1000000) :
  ∃ (o':OA) (c':Nat) (w':World),(Builtin.append_ #[bg,bg] bg #[.slice o n cp,.slice (some ⟨w1.heap.size,0,none⟩) 1 1]).run Tryz.prog w2 = .ok (.slice o' (n+1) c') w'∧Cv W w' o' (n+1) c' (es++[e]) (Ext A w1 w') B∧IV w' u ns (fun i=>db W w' i∧¬ Ext A w1 w' i∧¬ B i)∧Ch A w1 w':=by
 have a0:∀ i,i<w1.heap.size→w.heap.size≤i→db W w1 i∧¬ A i∧¬ B i:=fun i hi hw=>h.ze (w2:=w) (w3:=w1) (Nat.le_refl _) (Nat.le_refl _) ⟨hw,hi⟩
 obtain ⟨o',c',w',hr,hP,a1⟩:=(h.aa hc).push (hE.mono a0) e2 hn
 have hs:=a1.size
 refine ⟨o',c',w',hr,hP,?_,a1⟩
 exact ((hS.mono (G:=fun i=>(db W w1 i∧¬ A i∧¬ B i)∧i<w1.heap.size) (fun i hi h=>⟨a0 i hi h,hi⟩)).af a1 (fun i _ h k=>h.1.2.1 k)).mono (fun i _ h=>⟨⟨h.1.1.1,by have:=h.2;omega⟩,fun k=>by
  rcases k with k|k
  ·exact h.1.2.1 k
  ·have:=k.1;have:=h.2;omega,h.1.2.2⟩)
def SR (greedy:Bool) (draws:List Int):Nat→List Int→Int:=if greedy then Rb else CL draws
theorem RM (greedy:Bool) (draws:List Int):Qx (SR greedy draws):=by
 cases greedy
 ·exact Ix draws
 ·exact Of
set_option maxHeartbeats 2000000 in
theorem ME (m:Md c wt) (ht:IV w pv ts F) (hd:IV w dv draws G) (hl:ts.length≤1000000) (p1:draws.length≤1000000) (most:Int) (greedy:Bool):Calls Tryz.prog wv #[sg c wt,pv,.int .i64 most,dv,.bool greedy] w (bc (SY c wt (SR greedy draws) most ts w)):=by
 have i8:=ht
 have l3:=hd
 obtain ⟨po,pc,rfl,_⟩:=ht
 obtain ⟨dq,dc,rfl,_⟩:=hd
 have l4:=m.ok.2.2.2.2.2.1
 have l5:=m.ok.1
 refine Al.calls _ _ _ _ _ _ _ _ _ _ _ _ _ _ _ ?_
 intro w1 e1
 have b4:=ba.new e1
 have i9:Ch ah w w1:=Ch.alloc e1
 refine ⟨_,_,_,_,_,_,_,⟨b4.cell 0 rfl,b4.cell 1 rfl,b4.cell 2 rfl,b4.cell 3 rfl,b4.cell 4 rfl,b4.cell 5 rfl,b4.cell 6 rfl⟩,ab (CO m (i8.aa i9) hl most) ?_⟩
 rintro v w2 ⟨rfl,j0⟩
 have a5:=i9.ag j0
 by_cases hk:mh c most ts=0
 case neg=>exact ⟨_,rfl,fun _=>⟨a5,fun _=>rfl,fun k=>absurd k hk⟩,fun hf=>by simp at hf;exact absurd hf hk⟩
 have j1:=hk
 obtain ⟨l6,p2,p3,c4,l7⟩:=xV hk
 rw [hk]
 have j2:∀ e∈([]:List gr),fy c e:=fun e he=>by cases he
 have j3:=b4.aa j0
 refine ⟨_,rfl,eg rfl (fun w3 e3 w4 e4=>?_)⟩
 have l8:Ch ah w2 w3:=Ch.alloc e3
 have j4:Ch ah w3 w4:=Ch.alloc e4
 have p4:w3.heap.size=w2.heap.size+1:=by subst e3;simp
 have p5:w4.heap.size=w3.heap.size+1:=by subst e4;simp
 have j5:V.Own w3 az 2 (some ⟨w2.heap.size,0,none⟩) 0 0 [] (·=w2.heap.size):=V.Own.made e3 rfl (Nat.zero_le _) rfl
 have j6:Cv w2 w4 (some ⟨w2.heap.size,0,none⟩) 0 0 [] (·=w2.heap.size) ah:=⟨[],j5.aa j4,rfl,.nil,fun i h=>⟨⟨by omega,by omega⟩,id⟩,fun i h=>h.elim,l8.ag j4⟩
 obtain ⟨M,hM⟩:∃ M:Nat,most=M:=⟨most.toNat,by omega⟩
 subst hM
 obtain ⟨tk,g2⟩:∃ tk,SR greedy draws=tk:=⟨_,rfl⟩
 have j7:=RM greedy draws
 rw [g2] at j7 ⊢
 obtain ⟨res,c5⟩:∃ res:List Int,LL c wt tk M ts=res:=⟨_,rfl⟩
 have g3:LL c wt tk M ts=qR c wt tk M 0 (nu c wt [] ts) (qn.mu c wt [] [] ts):=by unfold LL;rw [Int.toNat_natCast]
 refine ⟨fun pA pN pC sA sN sC i k w'=>∃ (j:Nat) (A:Nat→Prop),i=j∧j≤ts.length∧k=ts.length-j∧Cv w2 w' pA pN pC (nu c wt [] (ts.take j)) A ah∧IV w' (.slice sA sN sC) (qn.mu c wt [] [] (ts.take j)) (fun i=>db w2 w' i∧¬ A i∧¬ ah i),⟨_,0,_,rfl,Nat.zero_le _,rfl,j6,⟨_,0,rfl,Nat.le_refl _,Nat.zero_le _,Rd.nil _ _ _⟩⟩,?_⟩
 clear j5 j6
 rintro jk pA pN pC sA sN sC i k w5 ⟨j,A,rfl,hj,rfl,hP,hS⟩
 have b5:=j3.aa hP.ch
 have d3:=a5.ag hP.ch
 refine ⟨dT fun b3=>?_,dF fun g0=>?_⟩
 ·have b3:j<ts.length:=by omega
  obtain ⟨a,rfl,_,a4⟩:=IV.get (i8.aa d3) b3
  have g4:=c4 _ (List.getElem_mem b3)
  have d4:=au ts j b3
  generalize ts[j]=t at a4 g4 d4
  obtain ⟨past,a1⟩:∃ past,nu c wt [] (ts.take j)=past:=⟨_,rfl⟩
  have j8:past.length=j:=by rw [← a1,rh,List.length_take];simp;omega
  have d1:∀ e∈past,fy c e:=by
   rw [← a1]
   exact xT m _ j2 (fun t ht=>c4 t (List.mem_of_mem_take ht)) (by rw [List.length_take];simp;omega)
  have d5:(past.length:Int)<c.context:=by omega
  have g5:nu c wt [] (ts.take (j+1))=past++[nL c wt past t]:=by rw [d4,xJ,a1];rfl
  have g6:qn.mu c wt [] [] (ts.take (j+1))=uR c wt past t:=by rw [d4,Bu,a1];rfl
  rw [a1] at hP
  have l9:=hP.len
  obtain ⟨e,he⟩:∃ e:gr,nL c wt past t=e:=⟨_,rfl⟩
  obtain ⟨ns,d6⟩:∃ ns:List Int,uR c wt past t=ns:=⟨_,rfl⟩
  rw [he] at g5
  rw [d6] at g6
  refine ⟨fun w'=>Ch ah w5 w',fun w6 e6=>⟨Ch.drew e6,_,_,_,_,_,_,_,⟨fun w' k=>(b5.aa k).cell 0 rfl,fun w' k=>(b5.aa k).cell 1 rfl,fun w' k=>(b5.aa k).cell 2 rfl,fun w' k=>(b5.aa k).cell 3 rfl,fun w' k=>(b5.aa k).cell 4 rfl,fun w' k=>(b5.aa k).cell 5 rfl,fun w' k=>(b5.aa k).cell 6 rfl⟩,⟨by omega,by omega⟩,_,fun w' k=>a4 _ w' k (fun _ _ _=>id),?_⟩⟩
  have d7:Ch ah w5 w6:=Ch.drew e6
  have p6:w6.heap.size=w5.heap.size:=by subst e6;rfl
  refine ⟨ab (zR m (hP.Ta.aa d7) t (by omega)) ?_,fun j9 d8=>⟨d7.ag (Ch.alloc d8),ab (zR m (hP.Ta.aa (d7.ag (Ch.alloc d8))) t (by omega)) ?_⟩,trivial⟩
  ·rintro v w9 hR
   have m0:=hR.ch
   obtain ⟨p7,u7,rfl,a6,a7⟩:=hR.yes d1 g4 d5
   rw [he] at a6
   rw [d6] at a7
   obtain ⟨o1,c1,o2,c2,rfl⟩:=ue a6
   have a8:=a7
   obtain ⟨o3,c3,rfl,_⟩:=a7
   have c7:=d7.ag m0
   refine ⟨_,_,_,_,_,_,_,_,_,_,rfl,c7,fun m1 g7=>⟨c7.ag (Ch.alloc g7),?_⟩⟩
   have hU:=ba.new g7
   refine ⟨⟨hU.ok 0 rfl,hU.ok 1 rfl⟩,fun k0 m2=>?_⟩
   have d9:k0=m1.setCells w9.heap.size 0 [.slice o1 e.1.length c1,.slice o2 e.2.length c2]:=m2
   have e0:=hU.all [.slice o1 e.1.length c1,.slice o2 e.2.length c2] rfl d9
   have a9:Ch ah w9 k0:=(Ch.alloc (F:=ah) g7).trans (Ch.fr (F:=(·=w9.heap.size)) d9 rfl) (fun i hi he=>by omega)
   have b6:=c7.ag a9
   refine ⟨b6,_,_,_,_,_,_,⟨e0.cell 0 rfl,e0.cell 1 rfl⟩,fun p8 m3=>?_⟩
   obtain ⟨o',c',m5,hr,g8,g9,_⟩:=hP.add b6 ((a6.aa a9).mono (fun i _ h=>by have:=h.1;omega)) ((a8.aa a9).mono (fun i _ h=>by have:=h.1;omega)) m3 (by omega)
   exact ⟨o',_,c',m5,hr,ts.length-(j+1),by omega,j+1,_,by rw [ae (by omega) (by omega)];rfl,b3,rfl,by rw [g5];exact g8,by rw [g6];exact g9⟩
  ·rintro v k1 hR
   have e2:=hR.ch
   have e5:Ch ah w6 j9:=Ch.alloc d8
   have m6:j9.heap.size=w6.heap.size+1:=by subst d8;simp
   obtain ⟨p7,u7,rfl,a6,a7⟩:=hR.yes d1 g4 d5
   rw [he] at a6
   rw [d6] at a7
   obtain ⟨o1,c1,o2,c2,rfl⟩:=ue a6
   have a8:=a7
   obtain ⟨o3,c3,rfl,_⟩:=a7
   have b7:=(d7.ag e5).ag e2
   have hU:=(ba.new d8).aa e2
   refine ⟨_,_,_,_,_,_,_,_,_,_,rfl,b7,⟨hU.ok 0 rfl,hU.ok 1 rfl⟩,fun h2 m7=>?_⟩
   have e7:h2=k1.setCells w6.heap.size 0 [.slice o1 e.1.length c1,.slice o2 e.2.length c2]:=m7
   have e8:=hU.all [.slice o1 e.1.length c1,.slice o2 e.2.length c2] rfl e7
   have b2:Ch (·=w6.heap.size) k1 h2:=Ch.fr e7 rfl
   have b8:Ch ah w5 h2:=b7.trans b2 (fun i hi he=>by omega)
   refine ⟨b8,_,_,_,_,_,_,⟨e8.cell 0 rfl,e8.cell 1 rfl⟩,fun p9 m8=>?_⟩
   obtain ⟨o',c',m9,hr,h3,h4,_⟩:=hP.add b8 ((a6.af b2 (fun i _ h k=>by have:=h.1;omega)).mono (fun i _ h=>by have:=h.1;omega)) ((a8.af b2 (fun i _ h k=>by have:=h.1;omega)).mono (fun i _ h=>by have:=h.1;omega)) m8 (by omega)
   exact ⟨o',_,c',m9,hr,ts.length-(j+1),by omega,j+1,_,by rw [ae (by omega) (by omega)];rfl,b3,rfl,by rw [g5];exact h3,by rw [g6];exact h4⟩
 have n0:j=ts.length:=by omega
 subst n0
 rw [List.take_length] at hP hS
 intro d2 h5
 have e9:Ch ah w5 d2:=Ch.alloc h5
 have n1:d2.heap.size=w5.heap.size+1:=by subst h5;simp
 have n2:=hP.ch.size
 have f0:V.Own d2 bd 1 (some ⟨w5.heap.size,0,none⟩) 0 0 (([]:List Int).map (.int .i64)) (·=w5.heap.size):=V.Own.made h5 rfl (Nat.zero_le _) rfl
 have f3:Cv w2 d2 pA pN pC (nu c wt [] ts) A (·=w5.heap.size):=hP.NY e9 (fun i hi => .inr ⟨by omega,by omega⟩)
 have f4:IV d2 (.slice sA sN sC) (qn.mu c wt [] [] ts) (fun i=>db w2 d2 i∧¬ A i∧¬ i=w5.heap.size):=((hS.mono (G:=fun i=>(db w2 w5 i∧¬ A i)∧i<w5.heap.size) (fun i hi h=>⟨⟨h.1,h.2.1⟩,hi⟩)).aa e9).mono (fun i _ h=>⟨⟨h.1.1.1,by have:=h.2;omega⟩,h.1.2,by have:=h.2;omega⟩)
 refine ⟨fun pA pN pC sA sN sC oA oN oC k w'=>∃ (j:Nat) (A B:Nat→Prop) (past:List gr) (scs out:List Int),j+k=M∧1≤k∧oN=j∧out.length=j∧Cv w2 w' pA pN pC past A B∧(∀ e∈past,fy c e)∧past.length=ts.length+j∧IV w' (.slice sA sN sC) scs (fun i=>db w2 w' i∧¬ A i∧¬ B i)∧scs.length=c.vocab.toNat∧V.Own w' bd 1 oA oN oC (out.map (.int .i64)) B ∧
  out++qR c wt tk k j past scs=res,⟨M,0,A,_,_,_,[],by omega,by omega,rfl,rfl,f3,xT m _ j2 c4 (by simp;omega),by rw [rh];simp,f4,Ju l6,f0,by rw [← c5,g3];rfl⟩,?_⟩
 clear f0 f3 f4 hP hS b5 d3
 rintro jk pA pN pC sA sN sC oA oN oC k k2 ⟨j,A3,B3,past,scs,out,q2,q3,rfl,h6,k3,d1,j8,hS,k4,hO,a0⟩
 have f5:=k3.ch
 have b9:=a5.ag f5
 obtain ⟨k,rfl⟩:∃ k',k=k'+1:=⟨k-1,by omega⟩
 have d4:scs≠[]:=fun e=>by rw [e] at k4;simp at k4;omega
 refine ⟨fun d w'=>w'=k2∧d=draws.getD oN 0,⟨dT fun b3=>?_,dF fun g0=>⟨rfl,?_⟩⟩,?_⟩
 ·have b3:oN<draws.length:=by omega
  obtain ⟨a,rfl,_,a4⟩:=IV.get (l3.aa b9) b3
  exact ⟨⟨by omega,by omega⟩,_,a4 ah k2 (Ch.refl _ _) (fun _ _ _=>id),rfl,by rw [List.getD_eq_getElem?_getD,List.getElem?_eq_getElem b3];rfl⟩
 ·rw [List.getD_eq_getElem?_getD,List.getElem?_eq_none (by omega)];rfl
 rintro jk d n3 ⟨rfl,rfl⟩
 refine ab (KZ hS (by omega) _) ?_
 rintro v q4 ⟨rfl,c8⟩
 obtain ⟨t,ht⟩:∃ t:Int,tk oN scs=t:=⟨_,rfl⟩
 have n4:=j7 oN scs d4
 rw [ht] at n4
 rw [qR,ht] at a0
 refine ⟨_,rfl,fun t' w'=>Ch ah n3 w'∧t'=t,⟨fun h7=>ab (IM (hS.aa c8) (by omega)) ?_,fun h7=>⟨c8,?_⟩⟩,?_⟩
 ·rintro v q5 ⟨rfl,h8⟩
  exact ⟨_,rfl,c8.ag h8,by rw [← ht,← g2,h7];rfl⟩
 ·rw [← ht,← g2,h7];rfl
 rintro jk t' k5 ⟨c9,rfl⟩
 have f6:=k3.aa c9
 have h9:=hO.aa c9
 have q6:=a5.size
 refine ⟨fun h0=>?_,fun h0=>?_⟩
 ·have h0:t'=0:=eq_of_beq h0
  rw [if_pos h0,List.append_nil] at a0
  subst a0
  refine ⟨b9.ag c9,fun k=>absurd j1 k,fun _=>⟨_,rfl,?_⟩⟩
  rw [c5]
  have i0:IV k5 (.slice oA oN oC) out B3:=by
   rw [← h6] at h9 ⊢
   exact Own.iv h9
  exact i0.mono (fun i _ hi=>by
   have h1:=Sv f6 i hi
   exact ⟨by have:=h1.1;omega,h1.2⟩)
 have h0:¬ t'=0:=by simpa using h0
 rw [if_neg h0] at a0
 intro q7 n5
 obtain ⟨o6,c6,g1,r6,i1,n6⟩:=V.Own.pW (enc:=fun x:Int=>Value.int .i64 x) (xs:=out) bi h9 ay t' n5 rfl (by unfold maxLen;omega) (by omega)
 have a2:=f6.NY n6 (fun i hi=>hi)
 have f7:Ch ah w g1:=a5.ag a2.ch
 refine ⟨o6,_,c6,g1,r6,fun c0=>?_,fun i2=>?_⟩
 ·have c0:oN+1=M:=by have:=eq_of_beq c0;omega
  have n7:k=0:=by omega
  subst n7
  have a0:out++[t']=res:=a0
  refine ⟨f7,fun k=>absurd j1 k,fun _=>⟨_,rfl,?_⟩⟩
  rw [c5,← a0]
  have i0:IV g1 (.slice o6 (oN+1) c6) (out++[t']) (Ext B3 k5 g1):=by
   have e:oN+1=(out++[t']).length:=by rw [List.length_append,h6];rfl
   rw [e] at i1 ⊢
   exact Own.iv i1
  exact i0.mono (fun i _ hi=>by
   have h1:=Sv a2 i hi
   exact ⟨by have:=h1.1;omega,h1.2⟩)
 have i2:¬ oN+1=M:=fun k=>by rw [show ((oN+1:Nat):Int)=(M:Int) by omega] at i2;simp at i2
 have n8:1≤k:=by omega
 have a3:=j3.aa a2.ch
 refine ⟨_,_,_,_,_,_,_,⟨a3.cell 0 rfl,a3.cell 1 rfl,a3.cell 2 rfl,a3.cell 3 rfl,a3.cell 4 rfl,a3.cell 5 rfl,a3.cell 6 rfl⟩,ab (zR m a2.Ta t' (by omega)) ?_⟩
 rintro v i3 k6
 have n9:=k6.ch
 have d5:(past.length:Int)<c.context:=by omega
 have k7:0≤t'∧t'<c.vocab:=by omega
 obtain ⟨p7,u7,rfl,a6,a7⟩:=k6.yes d1 k7 d5
 have g0:=(HO m d1 d5 k7).2
 have k8:=xW (c:=c) (wt:=wt) past t'
 obtain ⟨e,he⟩:∃ e:gr,nL c wt past t'=e:=⟨_,rfl⟩
 obtain ⟨ns,d6⟩:∃ ns:List Int,uR c wt past t'=ns:=⟨_,rfl⟩
 rw [he] at a6 g0 a0
 rw [d6] at a7 k8 a0
 obtain ⟨o1,c1,o2,c2,rfl⟩:=ue a6
 have a8:=a7
 obtain ⟨o3,c3,rfl,_⟩:=a7
 refine ⟨_,_,_,_,_,_,_,_,_,_,rfl,fun o0 k9=>?_⟩
 have i4:=ba.new k9
 refine ⟨⟨i4.ok 0 rfl,i4.ok 1 rfl⟩,fun l1 o4=>?_⟩
 have f8:l1=o0.setCells i3.heap.size 0 [.slice o1 e.1.length c1,.slice o2 e.2.length c2]:=o4
 have l2:=i4.all [.slice o1 e.1.length c1,.slice o2 e.2.length c2] rfl f8
 have d0:Ch ah i3 l1:=(Ch.alloc (F:=ah) k9).trans (Ch.fr (F:=(·=i3.heap.size)) f8 rfl) (fun i hi he=>by omega)
 refine ⟨_,_,_,_,_,_,⟨l2.cell 0 rfl,l2.cell 1 rfl⟩,fun q8 o5=>?_⟩
 have f9:=n9.ag d0
 have l9:=a2.len
 obtain ⟨o7,o8,o9,p0,i5,i6,i7⟩:=a2.add f9 ((a6.aa d0).mono (fun i _ h=>by have:=h.1;omega)) ((a8.aa d0).mono (fun i _ h=>by have:=h.1;omega)) o5 (by omega)
 refine ⟨o7,_,o8,o9,p0,k,by omega,oN+1,_,_,past++[e],ns,out++[t'],by omega,n8,rfl,by rw [List.length_append,h6];rfl,i5,fun x hx=>?_,by rw [List.length_append,j8];rfl,i6,k8,(i1.aa f9).af i7 (fun i _ hb k=>SX a2 i k hb),by rw [List.append_assoc];exact a0⟩
 rcases List.mem_append.1 hx with hx|hx
 ·exact d1 x hx
 ·rw [List.mem_singleton] at hx;subst hx;exact g0
end
end Go.Proofs.YtkbikekbaboclaaGreat.rI
