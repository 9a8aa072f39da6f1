import Derived.Test.YtkbikekbaboclaaGreatPrefix5
import Derived.Test.YtkbikekbaboclaaGreatPkL
import Derived.Test.YtkbikekbaboclaaGreatPkVa
set_option linter.unusedVariables false
set_option linter.unusedSimpArgs false
namespace Go.Proofs.YtkbikekbaboclaaGreat.dh
open Go Go.Proofs V Vc Step bh Go.RowKit
theorem IU {w:World} {o ob:OA} {xs ys:List Int} {F G:Nat→Prop} (ha:Rd w o (xs.map (.int .i64)) F) (hb:Rd w ob (ys.map (.int .i64)) G) (h:xs.length=ys.length) (hl:xs.length≤1000000000) (c cb:Nat) :
  Calls Tryz.prog tN #[.slice o xs.length c,.slice ob ys.length cb] w (bc fun v w'=>v = .bool (decide (xs=ys))∧Ch ah w w'):=by
 refine vB.calls _ _ _ _ _ _ ?_
 refine eg (decide_eq_false (by omega)) ?_
 refine ⟨fun i k w'=>∃ j:Nat,i=j∧j≤xs.length∧k=xs.length-j∧xs.take j=ys.take j∧Ch ah w w',⟨_,0,rfl,Nat.zero_le _,rfl,rfl,Ch.refl _ _⟩,?_⟩
 rintro jk i k w1 ⟨j,rfl,hj,rfl,he,hc⟩
 refine ⟨fun a0=>?_,fun a3=>?_⟩
 ·have a0:j<xs.length:=by simpa using a0
  have a1:j<ys.length:=by omega
  refine ⟨fun w2=>Ch ah w w2,fun w2 e2=>⟨hc.ag (Ch.drew e2),⟨by omega,by omega⟩,Rd.keeps (j:=(j:Int).toNat*1) (S:=fun w2=>Ch ah w w2) (fun w2 h2=>ha.aa h2) hc (by simpa using a0) fun p hp=>⟨_,hp,⟨by omega,by omega⟩,
   Rd.keeps (j:=(j:Int).toNat*1) (S:=fun w2=>Ch ah w w2) (fun w2 h2=>hb.aa h2) hc (by simpa using a1) fun p2 a4=>⟨_,a4,fun a5=>?_,fun a2=>?_⟩⟩⟩⟩
  ·refine ⟨?_,hc.ag (Ch.drew e2)⟩
   rw [decide_eq_false]
   intro e
   subst e
   simp at a5
  ·have a2:xs[j]=ys[j]:=by simpa using a2
   refine ⟨xs.length-(j+1),by omega,j+1,by rw [ae (by omega) (by omega)];rfl,a0,rfl,?_,hc.ag (Ch.drew e2)⟩
   rw [au xs j a0,au ys j a1,he,a2]
 ·have:j=xs.length:=by simp at a3;omega
  subst this
  rw [List.take_length,h,List.take_length] at he
  exact ⟨by rw [decide_eq_true he],hc⟩
structure pS (w:World) (xb ub:Nat) (o:OA) (c:Nat) (gs:List za) (n:Nat) (Fa F D:Nat→Prop):Prop where
 blk:ba w xb [.pointer (some ⟨ub,0,none⟩),.slice o n c] uE
 own:Own w dy 3 o n c (gs.map ly).flatten Fa
 len:gs.length=n
 fx:F xb
 fa:∀ i,Fa i→F i∧i≠xb
 fd:∀ i,D i→F i∧i≠xb∧¬ Fa i
 lt:∀ i,F i→i<w.heap.size
def wT (w:World) (xb ub:Nat) (es:List bw) (F D:Nat→Prop):Prop :=
 ∃ (o:OA) (c:Nat) (gs:List za) (Fa:Nat→Prop),pS w xb ub o c gs es.length Fa F D∧df (fun g e=>pq w g e D) gs es
section
variable {w w':World} {xb ub n c:Nat} {o:OA} {gs:List za} {es:List bw} {Fa F D G:Nat→Prop}
theorem pS.af (h:pS w xb ub o c gs n Fa F D) (hc:Ch G w w') (hd:∀ i,F i→¬ G i):pS w' xb ub o c gs n Fa F D :=
 ⟨h.blk.af hc (hd _ h.fx),h.own.af hc (fun i _ hi=>hd i (h.fa i hi).1),h.len,h.fx,h.fa,h.fd,fun i hi=>Nat.lt_of_lt_of_le (h.lt i hi) hc.size⟩
theorem pS.aa (h:pS w xb ub o c gs n Fa F D) (hc:Ch ah w w'):pS w' xb ub o c gs n Fa F D:=h.af hc (fun _ _=>id)
theorem wT.af (h:wT w xb ub es F D) (hc:Ch G w w') (hd:∀ i,F i→¬ G i):wT w' xb ub es F D:=by
 obtain ⟨o,c,gs,Fa,hC,hA⟩:=h
 exact ⟨o,c,gs,Fa,hC.af hc hd,hA.imp (fun _ _ k=>k.af hc (fun i _ hi=>hd i (hC.fd i hi).1))⟩
theorem pS.grow (h:pS w xb ub o c gs n Fa F D) {F' D':Nat→Prop} (h1:∀ i,F i→F' i) (h2:∀ i,D' i→F' i∧i≠xb∧¬ Fa i) (h3:∀ i,F' i→i<w.heap.size):pS w xb ub o c gs n Fa F' D' :=
 ⟨h.blk,h.own,h.len,h1 _ h.fx,fun i hi=>⟨h1 i (h.fa i hi).1,(h.fa i hi).2⟩,h2,h3⟩
theorem pS.cap (h:pS w xb ub o c gs n Fa F D):n≤c:=h.own.2.1
theorem pS.push (h:pS w xb ub o c gs n Fa F D) (hn:n<1000) {nb:Nat} {g:za} (hb:ba w nb (ly g) dy) :
  ∃ (o':OA) (c':Nat) (w':World),(Builtin.append_ #[dd,dd] dd #[.slice o n c,.slice (some ⟨nb,0,none⟩) 1 1]).run Tryz.prog w = .ok (.slice o' (n+1) c') w'∧Ch Fa w w' ∧
   ((∃ u,w'.cell? ⟨xb,1,none⟩=some u)∧w'.frozen? ⟨xb,1,none⟩=false) ∧
   ∀ w'':World,w''=w'.setCell ⟨xb,1,none⟩ (.slice o' (n+1) c')→pS w'' xb ub o' c' (gs++[g]) (n+1) (Ext Fa w w') (Ext F w w') D∧Ch (·=xb) w' w'':=by
 obtain ⟨o',c',w',hr,ho,hc⟩:=Own.ll (c2:=1) (m:=1) iu h.own dd hb.rd rfl (fun u hu=>by
  simp only [ly,List.mem_cons,List.not_mem_nil,or_false] at hu
  rcases hu with rfl|rfl|rfl <;> rfl) (by unfold maxLen;omega) (by omega)
 have hB:=h.blk.af hc (fun hx=>(h.fa xb hx).2 rfl)
 have a1:=h.lt _ h.fx
 refine ⟨o',c',w',hr,hc,hB.ok 1 rfl,fun w'' e2=>?_⟩
 have a0:Ch (·=xb) w' w'':=Ch.set e2 rfl
 have hx:∀ i,Ext Fa w w' i→i≠xb:=fun i hi he=>by
  subst he
  rcases hi with hi|hi
  ·exact (h.fa _ hi).2 rfl
  ·have:=hi.1;omega
 refine ⟨⟨hB.set e2,?_,by simp [h.len],.inl h.fx,fun i hi=>⟨hi.imp (fun k=>(h.fa i k).1) id,hx i hi⟩,fun i hi=>⟨.inl (h.fd i hi).1,(h.fd i hi).2.1,fun hE=>?_⟩,fun i hi=>?_⟩,a0⟩
 ·rw [List.map_append,List.flatten_append]
  have h2:=ho.af a0 (fun i _ hi he=>hx i hi he)
  simpa using h2
 ·rcases hE with hE|hE
  ·exact (h.fd i hi).2.2 hE
  ·have:=h.lt i (h.fd i hi).1;have:=hE.1;omega
 ·have:=a0.size
  have:=hc.size
  rcases hi with hi|hi
  ·have:=h.lt i hi;omega
  ·have:=hi.2;omega
end
theorem OH {es:List bw} {v:Int} {t:List Int} {j:Nat} (hj:j<es.length) (a0:∀ m (hm:m<es.length),m<j→hasB v t es[m]=false) (hb:hasB v t es[j]=true):qe es v t=j:=by
 unfold qe
 have:es.findIdx (hasB v t)=j:=(List.findIdx_eq hj).2 ⟨hb,fun m hm=>a0 m (by omega) hm⟩
 rw [this,if_pos hj]
theorem Pj {es:List bw} {v:Int} {t:List Int} (a0:∀ m (hm:m<es.length),hasB v t es[m]=false):qe es v t = -1:=by
 unfold qe
 rw [if_neg]
 intro h
 have:=a0 _ h
 rw [List.findIdx_getElem (w:=h)] at this
 cases this
section
variable {w:World} {xb ub:Nat} {es:List bw} {F D G:Nat→Prop} {t:List Int}
theorem LS (h:wT w xb ub es F D) (hn:es.length<1000) {to:OA} (ht:Rd w to (t.map (.int .i64)) G) (v:Int) (tc:Nat) :
  Calls Tryz.prog rU #[.pointer (some ⟨xb,0,none⟩),.int .i64 v,.slice to t.length tc] w (bc fun x w'=>x = .int .i64 (qe es v t)∧Ch ah w w'):=by
 obtain ⟨o,c,gs,Fa,hC,hA⟩:=h
 refine tz.calls _ _ _ _ _ ?_
 unfold Vm.A2 Vm.B Vm.B4 Vm.Br Vm.E Vm.F6 Vm.G Vm.G0 Vm.V Vm.X;dsimp only
 have hl:=hA.length
 refine ⟨fun i k w'=>∃ j:Nat,i=j∧j≤es.length∧k=es.length-j∧Ch ah w w'∧∀ m (hm:m<es.length),m<j→hasB v t es[m]=false,⟨_,0,rfl,Nat.zero_le _,rfl,Ch.refl _ _,fun m _ h=>absurd h (Nat.not_lt_zero _)⟩,?_⟩
 rintro jk i k w1 ⟨j,rfl,hj,rfl,hc,a6⟩
 have a3:=hC.aa hc
 refine ⟨_,_,_,a3.blk.cell 1 rfl,fun a4=>?_,fun a9=>?_⟩
 ·have a4:j<es.length:=by have:=dQt a4;omega
  obtain ⟨p,hp,_,_,a0⟩:=a3.own.rd.elem (sz:=3) (enc:=ly) (fun _=>rfl) (by omega) (show j<gs.length by omega)
  have hE:=pq.aa (hA.get j (by omega) a4) hc
  have a5:∀ {w'},Ch ah w w'→hasB v t es[j]=false→∃ vk_1:Nat,vk_1<es.length-j∧∃ j':Nat,IntKind.i64.wrap ((j:Int)+1)=j'∧j'≤es.length∧vk_1=es.length-j'∧Ch ah w w'∧∀ m (hm:m<es.length),m<j'→hasB v t es[m]=false:=fun b2 hf =>
   ⟨es.length-(j+1),by omega,j+1,by rw [ae (by omega) (by omega)];rfl,a4,rfl,b2,fun m hm b6=>by
    by_cases he:m=j
    ·subst he;exact hf
    ·exact a6 m hm (by omega)⟩
  have a2:hasB v t es[j]=true→qe es v t=j:=fun hb=>OH a4 a6 hb
  rw [hE.ec] at a0
  obtain ⟨_,_,_,a7,b3⟩:=hE
  generalize es[j]=e at a0 a7 b3 a5 a2
  generalize gs[j]=g at a0 a7
  subst hp
  have b4:(j:Int).toNat=j:=Int.toNat_natCast j
  have h0:=a0 0 _ rfl
  rw [cm] at h0
  have h1:=a0 1 _ rfl
  rw [b4]
  refine ⟨_,_,_,a3.blk.cell 1 rfl,⟨by omega,by omega⟩,_,h0,fun hv=>?_,fun hv=>a5 hc (by unfold hasB;rw [hv];rfl)⟩
  refine ⟨_,_,_,a3.blk.cell 1 rfl,⟨by omega,by omega⟩,_,_,_,h1,fun a1=>?_,fun a1=>a5 hc ?_⟩
  ·have a1:e.dg.length=t.length:=by
    have:(e.dg.length:Int)=t.length:=by simpa using a1
    omega
   refine ⟨_,_,_,a3.blk.cell 1 rfl,⟨by omega,by omega⟩,_,_,_,h1,?_⟩
   refine ab (IU a7 (ht.aa hc) a1 (by omega) _ _) ?_
   rintro x w2 ⟨rfl,a8⟩
   refine ⟨_,rfl,fun hb=>?_,fun hb=>a5 (hc.ag a8) (by unfold hasB;rw [hv,hb];rfl)⟩
   exact ⟨by rw [a2 (by unfold hasB;rw [hv,hb];rfl)],hc.ag a8⟩
  ·have a1:¬ e.dg=t:=fun he=>by rw [he] at a1;simp at a1
   unfold hasB
   rw [decide_eq_false a1,Bool.and_false]
 ·have b5:j=es.length:=by have:=dQf a9;omega
  subst b5
  exact ⟨by rw [Pj (fun m hm=>a6 m hm hm)],hc⟩
set_option maxHeartbeats 1000000 in
theorem wI (h:wT w xb ub es F D) (hn:es.length<1000) {i:Nat} (hi:i<es.length) :
  Calls Tryz.prog mg #[.pointer (some ⟨xb,0,none⟩),.int .i64 i] w (bc fun v w'=>∃ g:za,v = .agg (ly g).toArray∧pq w' g es[i] D∧wT w' xb ub (es.eraseIdx i) (Ext F w w') D∧Ch (·=xb) w w'):=by
 obtain ⟨o,c,gs,Fa,hC,hA⟩:=h
 refine sQ.calls _ _ ?_
 have hl:=hA.length
 have b5:i<gs.length:=by omega
 have f4:=hC.lt _ hC.fx
 have d6:=hC.cap
 intro w1 e1
 have d2:=ba.new e1
 have b2:Ch ah w w1:=Ch.alloc e1
 have b6:=hC.aa b2
 have s1:w.heap.size<w1.heap.size:=d2.lt
 have f5:(i:Int).toNat=i:=Int.toNat_natCast i
 have d7:IntKind.i64.wrap ((i:Int)+1)=((i+1:Nat):Int):=by rw [ae (by omega) (by omega)];rfl
 simp only [d7,Int.toNat_natCast]
 obtain ⟨p,hp,_,_,a3⟩:=b6.own.rd.elem (sz:=3) (enc:=ly) (fun _=>rfl) (by omega) b5
 have h0:=a3 0 _ rfl
 rw [cm] at h0
 have h1:=a3 1 _ rfl
 have h2:=a3 2 _ rfl
 clear a3
 refine ⟨_,_,_,b6.blk.cell 1 rfl,⟨by omega,by omega⟩,?_⟩
 subst hp
 refine ⟨_,_,_,_,_,⟨h0,h1,h2⟩,fun w2 e2=>?_⟩
 clear h0 h1 h2
 have a8:=ba.new e2
 refine ⟨⟨a8.ok 0 rfl,a8.ok 1 rfl,a8.ok 2 rfl⟩,fun w3 e3=>?_⟩
 have b7:w3=w2.setCells w1.heap.size 0 (ly gs[i]):=e3
 have b3:=a8.all (ly gs[i]) rfl b7
 have b3:ba w3 w1.heap.size (ly gs[i]) dy:=b3
 have a5:Ch ah w1 w3:=(Ch.alloc (F:=ah) e2).trans (Ch.fr (F:=(·=w1.heap.size)) b7 rfl) (fun i hi he=>by omega)
 have s3:w1.heap.size<w3.heap.size:=b3.lt
 clear e2 e3 b7 a8
 intro w4 e4
 have d8:=Gr.nG (G:=ah) (T:=dy) (sz:=3) (Ch.refl _ w3) e4
 have a6:Ch ah w3 w4:=Ch.alloc e4
 have b8:=(b6.aa a5).aa a6
 have a9:=Ob gs
 have d9:=oM (enc:=ly) (sz:=3) (fun _=>rfl) gs i
 have d3:=qU (enc:=ly) (sz:=3) (fun _=>rfl) gs (i+1)
 have a0:(gs.map ly).flatten.length=es.length*3:=hC.own.len
 refine ⟨_,_,_,b8.blk.cell 1 rfl,⟨by omega,by omega⟩,?_⟩
 have e0:=b8.own.rd.slice (c:=c) (sz:=3) (by rw [a0];omega) 0 i
 obtain ⟨o5,c5,w5,r5,e5,b9⟩:=d8.HL (m:=i-0) iu dd (c2:=c-0) e0 (by rw [List.length_take,List.length_drop,a0];omega) (fun u hu=>a9 u (List.mem_of_mem_drop (List.mem_of_mem_take hu))) (by omega) (by omega)
 have a7:∀ {wa wb:World},w.heap.size≤wa.heap.size→∀ i,F i→¬ db wa wb i:=fun f6 i hi hN=>by have:=hC.lt i hi;have:=hN.1;omega
 have c0:=b8.af b9 (a7 (by have:=a6.size;omega))
 refine ⟨o5,_,c5,w5,r5,_,_,_,c0.blk.cell 1 rfl,⟨by omega,by omega⟩,?_⟩
 have e6:=c0.own.rd.slice (c:=c) (sz:=3) (by rw [a0];omega) (i+1) (es.length-(i+1))
 obtain ⟨o6,c6,w6,r6,e9,c4⟩:=e5.HL (m:=es.length-(i+1)) iu dd (c2:=c-(i+1)) e6 (by rw [List.length_take,List.length_drop,a0];omega) (fun u hu=>a9 u (List.mem_of_mem_drop (List.mem_of_mem_take hu))) (by omega) (by omega)
 have f7:=b9.size
 have f0:=a6.size
 have d4:=c0.af c4 (a7 (by omega))
 refine ⟨o6,_,c6,w6,r6,d4.blk.ok 1 rfl,fun w7 e7=>?_⟩
 have a2:Ch (·=xb) w6 w7:=Ch.set e7 rfl
 have f3:=d4.blk.set e7
 have f8:=c4.size
 have f9:=a2.size
 -- what is between
 have c7:Ch (db w3 w6) w3 w6:=((a6.any (F:=db w3 w6)).trans b9 (fun i _ hN=>⟨hN.1,by have:=hN.2;omega⟩)).trans c4 (fun i _ hN=>⟨hN.1,by have:=hN.2;omega⟩)
 have a1:Ch ah w3 w6:=c7.trans (Ch.refl ah w6) (fun _ _ h=>h.elim) |>.mono (fun i hi hN=>absurd hi (Nat.not_lt.2 hN.1))
 have c8:=(b3.aa a1).af a2 (by omega)
 have b4:=(((d2.aa a5).aa a1).af a2 (by omega))
 refine ⟨_,_,_,_,_,⟨c8.cell 0 rfl,c8.cell 1 rfl,c8.cell 2 rfl⟩,⟨b4.ok 0 rfl,b4.ok 1 rfl,b4.ok 2 rfl⟩,fun w8 e8=>?_⟩
 have d5:w8=w7.setCells w.heap.size 0 (ly gs[i]):=e8
 have c9:=b4.all (ly gs[i]) rfl d5
 have a4:Ch (·=w.heap.size) w7 w8:=Ch.fr d5 rfl
 refine ⟨_,_,_,_,_,⟨c9.cell 0 rfl,c9.cell 1 rfl,c9.cell 2 rfl⟩,gs[i],rfl,?_,?_,?_⟩
 ·have hx:∀ i,D i→¬ i=xb:=fun i hi=>(hC.fd i hi).2.1
  exact (((pq.aa (pq.aa (pq.aa (hA.get i b5 hi) b2) a5) a1).af a2 (fun j _ hj=>hx j hj)).af a4 (fun j _ hj he=>by have:=hC.lt j (hC.fd j hj).1;omega))
 ·have g0:=a4.size
  refine ⟨o6,c6,gs.eraseIdx i,db w3 w6,⟨?_,?_,?_,.inl hC.fx,fun j hj=>⟨.inr ⟨by have:=hj.1;omega,by have:=hj.2;omega⟩,by have:=hj.1;omega⟩,fun j hj=>⟨.inl (hC.fd j hj).1,(hC.fd j hj).2.1,a7 (by omega) j (hC.fd j hj).1⟩,fun j hj=>?_⟩,?_⟩
  ·have d0:0+(i-0)+(es.length-(i+1))=(es.eraseIdx i).length:=by rw [List.length_eraseIdx,if_pos hi];omega
   have:=f3.af a4 (by omega)
   rw [d0] at this
   exact this
  ·have d0:0+(i-0)+(es.length-(i+1))=(es.eraseIdx i).length:=by rw [List.length_eraseIdx,if_pos hi];omega
   have h6:=((e9.1.af a2 (fun j _ hj he=>by have:=hj.1;omega)).af a4 (fun j _ hj he=>by have:=hj.1;omega))
   rw [d0,Nat.zero_mul,List.drop_zero,d9,d3,List.nil_append,List.take_of_length_le (l:=((gs.drop (i+1)).map ly).flatten) (by rw [← d3,List.length_drop,a0];omega),← List.flatten_append,← List.map_append,← gf] at h6
   exact h6
  ·rw [List.length_eraseIdx,if_pos b5,List.length_eraseIdx,if_pos hi,hl]
  ·rcases hj with hj|hj
   ·have:=hC.lt j hj;omega
   ·exact hj.2
  ·refine df.eraseIdx ?_ i
   have hx:∀ i,D i→¬ i=xb:=fun i hi=>(hC.fd i hi).2.1
   exact hA.imp (fun _ _ k=>(((pq.aa (pq.aa (pq.aa k b2) a5) a1).af a2 (fun j _ hj=>hx j hj)).af a4 (fun j _ hj he=>by have:=hC.lt j (hC.fd j hj).1;omega)))
 ·have d1:Ch (fun j=>j=xb∨j=w.heap.size) w6 w8:=(a2.mono (fun _ _ h => .inl h)).same (a4.mono (fun _ _ h => .inr h))
  exact (((b2.ag a5).ag a1).any (F:=(·=xb))).trans d1 (fun j hj he=>he.elim id (fun h=>by omega))
end
end Go.Proofs.YtkbikekbaboclaaGreat.dh
namespace Go.Proofs.YtkbikekbaboclaaGreat.dh
open Go Go.Proofs V Vc Step bh Go.RowKit
structure RX (W w:World) (ub yb:Nat) (ps:List ak) (es:List bw) (FU F D:Nat→Prop):Prop where
 u:dm w ub ps FU
 x:wT w yb ub es F D
 fu:rl W w FU
 f:rl W w F
 ap:jo F FU
 c:Ch ah W w
section
variable {W w w1 w2 w':World} {ub yb k:Nat} {B:Int} {ps ps':List ak} {es es':List bw} {FU F D FU' F' G:Nat→Prop}
theorem RX.ze (h:RX W w ub yb ps es FU F D) (hc:Ch G w w') (hG:∀ i,G i→W.heap.size≤i∧¬ FU i∧¬ F i):RX W w' ub yb ps es FU F D :=
 ⟨h.u.af hc (fun i _ hi hg=>(hG i hg).2.1 hi),h.x.af hc (fun i hi hg=>(hG i hg).2.2 hi),h.fu.le hc.size,h.f.le hc.size,h.ap,h.c.trans hc (fun i hi hg=>by have:=(hG i hg).1;omega)⟩
theorem RX.aa (h:RX W w ub yb ps es FU F D) (hc:Ch ah w w'):RX W w' ub yb ps es FU F D:=h.ze hc (fun _ k=>k.elim)
theorem RX.use (h:RX W w ub yb ps es FU F D) (hu:dm w' ub ps' (Ext FU w w')) (hc:Ch FU w w'):RX W w' ub yb ps' es (Ext FU w w') F D :=
 ⟨hu,h.x.af hc (fun i hi hg=>h.ap i hi hg),h.fu.ext h.c hc.size,h.f.le hc.size,fun i hi hg=>by
  rcases hg with hg|hg
  ·exact h.ap i hi hg
  ·have:=(h.f i hi).2;have:=hg.1;omega,h.fu.hi h.c hc⟩
theorem RX.idx {D':Nat→Prop} (h:RX W w ub yb ps es FU F D) (hx:wT w' yb ub es' (Ext F w w') D') (hc:Ch F w w'):RX W w' ub yb ps es' FU (Ext F w w') D' :=
 ⟨h.u.af hc (fun i _ hi hg=>h.ap i hg hi),hx,h.fu.le hc.size,h.f.ext h.c hc.size,fun i hi hg=>by
  rcases hi with hi|hi
  ·exact h.ap i hi hg
  ·have:=(h.fu i hg).2;have:=hi.1;omega,h.f.hi h.c hc⟩
def Mi (W w w':World) (ub yb:Nat) (ps:List ak) (es:List bw) (FU F:Nat→Prop):Prop :=
 ∃ FU' F' D':Nat→Prop,RX W w' ub yb ps es FU' F' D'∧(∀ i,FU' i→Ext FU w w' i)∧(∀ i,F' i→Ext F w w' i)∧Ch (fun i=>F i∨FU i) w w'
theorem RX.same (h:RX W w ub yb ps es FU F D) (hc:Ch ah w w'):Mi W w w' ub yb ps es FU F:=⟨FU,F,D,h.aa hc,fun _ h => .inl h,fun _ h => .inl h,hc.any⟩
theorem Ph {i:Nat} (h1:w.heap.size≤w1.heap.size) (h2:w1.heap.size≤w2.heap.size) (h:Ext FU' w1 w2 i) (hs:∀ i,FU' i→Ext FU w w1 i):Ext FU w w2 i:=by
 rcases h with h|h
 ·rcases hs i h with h|h
  ·exact .inl h
  ·exact .inr ⟨h.1,by have:=h.2;omega⟩
 ·exact .inr ⟨by have:=h.1;omega,h.2⟩
theorem Mi.then (h:RX W w1 ub yb ps es FU' F' D) (s1:∀ i,FU' i→Ext FU w w1 i) (s2:∀ i,F' i→Ext F w w1 i) (hc:Ch (fun i=>F i∨FU i) w w1) (k:Mi W w1 w2 ub yb ps' es' FU' F'):Mi W w w2 ub yb ps' es' FU F:=by
 obtain ⟨a,b,c,d,e,f,g⟩:=k
 refine ⟨a,b,c,d,fun i hi=>Ph hc.size g.size (e i hi) s1,fun i hi=>Ph hc.size g.size (f i hi) s2,hc.trans g (fun i hi hg=>?_)⟩
 rcases hg with hg|hg
 ·rcases s2 i hg with hg|hg
  ·exact .inl hg
  ·have:=hg.1;omega
 ·rcases s1 i hg with hg|hg
  ·exact .inr hg
  ·have:=hg.1;omega
theorem Mi.one (h:RX W w1 ub yb ps es FU' F' D) (s1:∀ i,FU' i→Ext FU w w1 i) (s2:∀ i,F' i→Ext F w w1 i) (hc:Ch (fun i=>F i∨FU i) w w1):Mi W w w1 ub yb ps es FU F:=⟨FU',F',D,h,s1,s2,hc⟩
theorem wT.grow (h:wT w yb ub es F D) (h1:∀ i,F i→F' i) (h3:∀ i,F' i→i<w.heap.size):wT w yb ub es F' D:=by
 obtain ⟨o,c,gs,Fa,hC,hA⟩:=h
 exact ⟨o,c,gs,Fa,hC.grow h1 (fun i hi=>⟨h1 i (hC.fd i hi).1,(hC.fd i hi).2⟩) h3,hA⟩
theorem RX.MI (h:RX W w ub yb ps es FU F D) (hn:es.length<1000) {i:Nat} (hi:i<es.length) :
  Calls Tryz.prog mg #[.pointer (some ⟨yb,0,none⟩),.int .i64 i] w (bc fun v w'=>∃ g:za,v = .agg (ly g).toArray∧pq w' g es[i] D∧RX W w' ub yb ps (es.eraseIdx i) FU (Ext F w w') D∧Ch F w w'):=by
 refine ab (wI h.x hn hi) ?_
 rintro v w' ⟨g,rfl,hg,hx,hc⟩
 have hF:F yb:=by obtain ⟨o,c,gs,Fa,hC,_⟩:=h.x;exact hC.fx
 have a0:Ch F w w':=hc.mono (fun i _ hi=>hi▸hF)
 exact ⟨g,rfl,hg,h.idx hx a0,a0⟩
theorem RX.ptr (h:RX W w ub yb ps es FU F D):w.cell? ⟨yb,0,none⟩=some (.pointer (some ⟨ub,0,none⟩)):=by
 obtain ⟨o,c,gs,Fa,hC,_⟩:=h.x
 exact hC.blk.cell 0 rfl
theorem RX.lt (h:RX W w ub yb ps es FU F D):yb<w.heap.size∧¬ FU yb:=by
 obtain ⟨o,c,gs,Fa,hC,_⟩:=h.x
 exact ⟨hC.lt _ hC.fx,h.ap _ hC.fx⟩
theorem RX.Ru {nb T:Nat} (h:RX W w ub yb ps es FU F D) (hg:bh.Good k B ps) (hk:k≤1000) (hB:0≤B∧B≤1000000000) {id:Int} (hb:ba w nb [.int .i64 id] T) :
  Calls Tryz.prog er #[.pointer (some ⟨ub,0,none⟩),.slice (some ⟨nb,0,none⟩) 1 1,.int .i64 (-1)] w (bc fun v w'=>v = .int .i64 (if gg ps [id]&&!oP ps [id] then 0 else 8)∧RX W w' ub yb (qM ps id) es (Ext FU w w') F D∧Ch FU w w'):=by
 have hr:Rd w (some ⟨nb,0,none⟩) (([id]:List Int).map (.int .i64)) (·=nb):=hb.rd
 refine ab (AR (l:=[id]) h.u hg hr (by simp) (by rw [hg.len];omega) (by omega) 1) ?_
 rintro v w' ⟨rfl,hu,hc⟩
 exact ⟨rfl,h.use hu hc,hc⟩
theorem RX.RQ {nb T:Nat} (h:RX W w ub yb ps es FU F D) (hg:bh.Good k B ps) (hk:k≤1000) (hB:0≤B∧B≤1000000000) {id:Int} (a0:mr ps id=true) (hb:ba w nb [.int .i64 id] T) :
  Calls Tryz.prog er #[.pointer (some ⟨ub,0,none⟩),.slice (some ⟨nb,0,none⟩) 1 1,.int .i64 1] w (bc fun v w'=>v = .int .i64 0∧RX W w' ub yb (iy 1 ps id) es (Ext FU w w') F D∧Ch FU w w'):=by
 have hr:Rd w (some ⟨nb,0,none⟩) (([id]:List Int).map (.int .i64)) (·=nb):=hb.rd
 refine ab (sX (l:=[id]) h.u hg hr (by simp) (by rw [hg.len];omega) (by omega) 1) ?_
 rintro v w' ⟨rfl,hu,hc⟩
 have ha:gg ps [id]=true:=by unfold gg;simp [a0]
 rw [ha,if_pos rfl] at hu ⊢
 exact ⟨rfl,h.use hu hc,hc⟩
theorem RX.push {nb:Nat} {g:za} {e:bw} {o:OA} {c:Nat} {gs:List za} {Fa D':Nat→Prop} (h:RX W w ub yb ps es FU F D) (hC:pS w yb ub o c gs es.length Fa F D) (hA:df (fun g e=>pq w g e D) gs es) (hn:es.length<1000)
  (hD:∀ i,D' i→Ext F W w i) (hb:ba w nb (ly g) dy) (hg:pq w g e D) :
  ∃ (o':OA) (c':Nat) (w':World),(Builtin.append_ #[dd,dd] dd #[.slice o es.length c,.slice (some ⟨nb,0,none⟩) 1 1]).run Tryz.prog w = .ok (.slice o' (es.length+1) c') w'∧Ch Fa w w' ∧
   ((∃ u,w'.cell? ⟨yb,1,none⟩=some u)∧w'.frozen? ⟨yb,1,none⟩=false) ∧
   ∀ w'':World,w''=w'.setCell ⟨yb,1,none⟩ (.slice o' (es.length+1) c')→RX W w'' ub yb ps (es++[e]) FU (Ext F w w'') D∧Ch F w w'':=by
 obtain ⟨o',c',w',hr,hc,a3,a4⟩:=hC.push hn hb
 refine ⟨o',c',w',hr,hc,a3,fun w'' e2=>?_⟩
 obtain ⟨a1,a0⟩:=a4 w'' e2
 have a2:Ch F w w'':=(hc.mono (fun i _ hi=>(hC.fa i hi).1)).same (a0.mono (fun i _ hi=>hi▸hC.fx))
 refine ⟨h.idx ?_ a2,a2⟩
 have a6:=a0.size
 have hs:=hc.size
 have a5:pS w'' yb ub o' c' (gs++[g]) (es.length+1) (Ext Fa w w') (Ext F w w'') D:=a1.grow (fun i hi=>hi.imp id (fun k=>⟨k.1,by have:=k.2;omega⟩)) (fun i hi=>⟨.inl (hC.fd i hi).1,(a1.fd i hi).2⟩) (fun i hi=>by
  rcases hi with hi|hi
  ·have:=hC.lt i hi;omega
  ·exact hi.2)
 have kE:∀ {g e},pq w g e D→pq w'' g e D:=fun k=>(k.af hc (fun i _ hi=>(hC.fd i hi).2.2)).af a0 (fun i _ hi=>(hC.fd i hi).2.1)
 refine ⟨o',c',gs++[g],Ext Fa w w',?_,(hA.imp (fun _ _ k=>kE k)).snoc (kE hg)⟩
 rw [List.length_append]
 exact a5
set_option maxHeartbeats 1000000 in
theorem LF {to:OA} {t:List Int} {tc:Nat} (h:RX W w ub yb ps es FU F D) (hg:bh.Good k B ps) (hk:k≤1000) (hB:0≤B∧B≤1000000000) (hn:es.length<1000) (ht:Rd w to (t.map (.int .i64)) G) (hG:∀ i,G i→¬ F i∧¬ FU i) (c9:t.length≤1000) (id v:Int) :
  Calls Tryz.prog rL #[.pointer (some ⟨yb,0,none⟩),.int .i64 id,.int .i64 v,.slice to t.length tc] w (bc fun x w'=>x = .int .i64 (pI ps es id v t)∧Mi W w w' ub yb (ul ps es id v t) (zN ps es id v t) FU F):=by
 have a1:∀ {w'},Ch ah w w'→∀ n:Int,pI ps es id v t=n→n≠0→(Value.int IntKind.i64 n = .int .i64 (pI ps es id v t)∧Mi W w w' ub yb (ul ps es id v t) (zN ps es id v t) FU F):=fun hc n he h0=>by
  unfold ul zN
  rw [he,if_neg h0,if_neg h0]
  exact ⟨rfl,h.same hc⟩
 refine sZ.calls _ _ _ _ _ _ ?_
 refine ⟨fun h0=>a1 (Ch.refl _ _) 1 (by unfold pI;rw [if_pos (by
   have:(t.length:Int)=0:=by simpa using h0
   omega)]) (by omega),fun h0=>?_⟩
 have h0:¬ (t.length:Int)=0:=by simpa using h0
 refine ⟨fun h1=>a1 (Ch.refl _ _) 1 (by unfold pI;rw [if_pos (by have:=dQt h1;omega)]) (by omega),fun h1=>⟨by omega,?_⟩⟩
 have h1:=dQf h1
 have d0:Int.tmod (t.length:Int) 4=(t.length:Int) % 4:=by rw [Int.tmod_eq_emod_of_nonneg (by omega)]
 rw [d0]
 refine ⟨fun h2=>a1 (Ch.refl _ _) 1 (by unfold pI;rw [if_pos (by
   have:¬ (t.length:Int) % 4=0:=by simpa using h2
   omega)]) (by omega),fun h2=>?_⟩
 have h2:(t.length:Int) % 4=0:=by simpa using h2
 have a5:¬ ¬ (0<(t.length:Int)∧(t.length:Int)≤32∧(t.length:Int) % 4=0):=by omega
 refine ab (LS h.x hn ht v tc) ?_
 rintro x w1 ⟨rfl,a6⟩
 refine ⟨_,rfl,fun h3=>a1 a6 9 (by unfold pI;rw [if_neg a5,if_pos (dQt h3)]) (by omega),fun h3=>?_⟩
 have h3:=dQf h3
 have a7:=h.aa a6
 refine ⟨_,a7.ptr,?_⟩
 refine ab (zL a7.u id) ?_
 rintro x w2 ⟨rfl,rfl⟩
 have h8:uU ps id v=false→pI ps es id v t=8:=fun ho=>by unfold pI;rw [if_neg a5,if_neg h3,if_neg (by rw [ho];decide)]
 refine ⟨_,rfl,fun h4=>a1 a6 8 (h8 (by
   unfold uU;have:mr ps id=false:=by simpa using h4
   rw [this];rfl)) (by omega),fun h4=>?_⟩
 have h4:mr ps id=true:=by simpa using h4
 obtain ⟨i0,i1⟩:=gz h4
 obtain ⟨oU,cU,gsU,RU,b5,_,d1⟩:=a7.u
 have c4:id.toNat<gsU.length:=by rw [b5.len];exact i1
 obtain ⟨p,hp,_,a0,_,a2,_⟩:=b5.at c4
 obtain ⟨g1,_,g3,_⟩:=d1 id.toNat c4 i1
 rw [← ef i0 i1] at g1 g3
 have c5:=b5.blk.cell 0 rfl
 subst hp
 refine ⟨_,a7.ptr,_,_,_,c5,⟨i0,by omega⟩,_,a0,fun h5=>a1 a6 8 (h8 ?_) (by omega),fun h5=>?_⟩
 ·unfold uU
  have h5:¬ (ax ps id).ver=v:=by rw [← g1];simpa using h5
  rw [show ((ax ps id).ver==v)=false by simpa using h5,Bool.and_false,Bool.false_and]
 have h5:(ax ps id).ver=v:=by rw [← g1];simpa using h5
 refine ⟨_,a7.ptr,_,_,_,c5,⟨i0,by omega⟩,_,_,_,a2,fun h6=>a1 a6 8 (h8 ?_) (by omega),fun h6=>?_⟩
 ·unfold uU
  have h6:¬ ((ax ps id).es.length:Int)=4:=by rw [← g3];simpa using h6
  rw [show ((ax ps id).es.length==4)=false by simpa using (by omega:¬ (ax ps id).es.length=4),Bool.and_false]
 have h6:(ax ps id).es.length=4:=by
  rw [← g3]
  have:((gsU[id.toNat].en:Nat):Int)=4:=by simpa using h6
  omega
 have d2:pI ps es id v t=0:=by
  unfold pI uU
  rw [if_neg a5,if_neg h3,h4,h5,h6];simp
 refine ⟨_,a7.ptr,fun w3 e3=>?_⟩
 have d3:=a7.aa (Ch.alloc e3)
 refine ab (d3.RQ hg hk hB h4 (ba.new e3)) ?_
 rintro x w4 ⟨rfl,b6,d4⟩
 have a4:Ch (fun i=>F i∨FU i) w w4:=((a6.ag (Ch.alloc e3)).any).same (d4.mono (fun i _ hi => .inr hi))
 obtain ⟨o,c,gs,Fa,hC,hA⟩:=b6.x
 have d5:¬ Fa yb:=fun hx=>(hC.fa _ hx).2 rfl
 refine ⟨_,rfl,fun w'=>Ch Fa w4 w',fun w5 e5=>⟨Ch.drew e5,_,_,_,fun w' hc=>(hC.blk.af hc d5).cell 1 rfl,fun w7 e7=>⟨(Ch.drew e5).ag (Ch.alloc e7),?_⟩⟩⟩
 have f7:=b6.aa (Ch.drew e5)
 have d6:=Gr.nG (G:=ah) (T:=bd) (sz:=1) (Ch.refl _ w5) e7
 have f8:w5.heap.size<w7.heap.size:=(ba.new e7).lt
 obtain ⟨o8,c8,w8,r8,c6,f9⟩:=d6.HL (m:=t.length) bi ay (c2:=tc) ((ht.af a4 (fun i _ hi hf=>hf.elim (hG i hi).1 (hG i hi).2)).aa ((Ch.drew e5).ag (Ch.alloc e7))) (by simp) (fun u hu=>by
  obtain ⟨x,_,rfl⟩:=List.mem_map.1 hu;rfl) (by omega) (by omega)
 have a8:Ch ah w5 w8:=c6.2
 refine ⟨o8,_,c8,w8,r8,(Ch.drew e5).ag a8,fun w9 e9=>?_⟩
 have b2:Ch ah w5 w9:=a8.ag (Ch.alloc e9)
 have a3:Ch ah w4 w9:=(Ch.drew (F:=ah) e5).ag b2
 refine ⟨a3.any,?_⟩
 have d7:=b2.size
 have d8:=a3.size
 have g0:=a8.size
 have d9:w8.heap.size<w9.heap.size:=(ba.new e9).lt
 have e0:w4.heap.size=w5.heap.size:=by subst e5;rfl
 have e1:=hC.aa a3
 have e2:∀ i,D i∨db w5 w8 i→Ext F w4 w9 i∧i≠yb∧¬ Fa i:=fun i hi=>by
  rcases hi with hi|hi
  ·exact ⟨.inl (hC.fd i hi).1,(hC.fd i hi).2⟩
  ·have g2:=hi.1
   have g4:=hi.2
   exact ⟨.inr ⟨by omega,by omega⟩,fun he=>by have:=hC.lt _ hC.fx;omega,fun hx=>by have:=hC.lt i (hC.fa i hx).1;omega⟩
 have b7:∀ i,Ext F w4 w9 i→i<w9.heap.size:=fun i hi=>by
  rcases hi with hi|hi
  ·have:=hC.lt i hi;omega
  ·exact hi.2
 have b3:=e1.grow (F':=Ext F w4 w9) (fun i hi => .inl hi) e2 b7
 have c7:df (fun g e=>pq w9 g e (fun i=>D i∨db w5 w8 i)) gs es:=hA.imp (fun _ _ k=>(pq.aa k a3).mono (fun i _ hi => .inl hi))
 have e4:RX W w9 ub yb (iy 1 ps id) es (Ext FU w3 w4) (Ext F w4 w9) (fun i=>D i∨db w5 w8 i):=b6.idx ⟨o,c,gs,Fa,b3,c7⟩ a3.any
 have b8:Rd w9 o8 (t.map (.int .i64)) (db w5 w8):=by
  have:=c6.rd
  rw [List.nil_append] at this
  exact this.aa (Ch.alloc e9)
 obtain ⟨e6,e8,f0,f3,b9,b4,f4⟩:=e4.push (e:=⟨v,t,id⟩) (g:=⟨v,o8,t.length,c8,id⟩) (D':=ah) b3 c7 hn (fun _ h=>h.elim) (by
  have:=ba.new e9
  rw [Nat.zero_add] at this
  exact this) ⟨rfl,rfl,rfl,b8.mono (fun i _ hi => .inr hi),c9⟩
 refine ⟨e6,_,e8,f0,f3,(a3.any).same b9,b4,fun f5 f6=>?_⟩
 obtain ⟨c0,a9⟩:=f4 f5 f6
 unfold ul zN
 rw [d2,if_pos rfl,if_pos rfl]
 refine ⟨rfl,Mi.one c0 (fun i hi=>?_) (fun i hi=>?_) ?_⟩
 ·have g5:w.heap.size≤w3.heap.size:=((a6.ag (Ch.alloc (F:=ah) e3))).size
  have:=a9.size
  rcases hi with hi|hi
  ·exact .inl hi
  ·exact .inr ⟨by have:=hi.1;omega,by have:=hi.2;omega⟩
 ·have:=a4.size
  have:=a9.size
  rcases hi with hi|hi
  ·rcases hi with hi|hi
   ·exact .inl hi
   ·exact .inr ⟨by have:=hi.1;omega,by have:=hi.2;omega⟩
  ·exact .inr ⟨by have:=hi.1;omega,hi.2⟩
 ·have:=a4.size
  exact (a4.ag a3).trans a9 (fun i hi hg=>by
   rcases hg with hg|hg
   ·exact .inl hg
   ·have:=hg.1;omega)
end
end Go.Proofs.YtkbikekbaboclaaGreat.dh
namespace Go.Proofs.YtkbikekbaboclaaGreat.dh
open Go Go.Proofs V Vc Step bh Go.RowKit
section
variable {W w w1 w2 w':World} {ub yb k:Nat} {B:Int} {ps ps':List ak} {es es':List bw} {FU F D FU' F' G:Nat→Prop}
theorem OU {w w6 w7:World} {g:za} (e6:w6=w.alloc (.cells #[.int .i64 0,.slice none 0 0,.int .i64 0] dy (0,0)))
  (e7:w7=((w6.setCell ⟨w.heap.size,0,none⟩ (.int .i64 g.ver)).setCell ⟨w.heap.size,1,none⟩ (.slice g.to g.tn g.tc)).setCell ⟨w.heap.size,2,none⟩ (.int .i64 g.page)) :
  ba w7 w.heap.size (ly g) dy∧Ch ah w w7:=by
 have a0:w7=w6.setCells w.heap.size 0 (ly g):=e7
 have h6:=ba.new e6
 exact ⟨h6.all (ly g) rfl a0,(Ch.alloc (F:=ah) e6).trans (Ch.fr (F:=(·=w.heap.size)) a0 rfl) (fun i hi he=>by omega)⟩
def SS (W w w1:World) (ub yb:Nat) (ps:List ak) (es:List bw) (FU F:Nat→Prop) (oA:OA) (oC:Nat) (out:List Int):Prop :=
 ∃ F' D' FO:Nat→Prop,RX W w1 ub yb ps es FU F' D'∧(∀ i,F' i→Ext F w w1 i)∧Own w1 bd 1 oA out.length oC (out.map (.int .i64)) FO∧(∀ i,FO i→db w w1 i)∧jo FO F'∧Ch F w w1
theorem SS.aa {oA:OA} {oC:Nat} {out:List Int} (h:SS W w w1 ub yb ps es FU F oA oC out) (hc:Ch ah w1 w'):SS W w w' ub yb ps es FU F oA oC out:=by
 obtain ⟨F',D',FO,a,b,c,d,e,f⟩:=h
 exact ⟨F',D',FO,a.aa hc,fun i hi=>(b i hi).imp id (fun h=>⟨h.1,by have:=h.2;have:=hc.size;omega⟩),c.aa hc,fun i hi=>db.le (d i hi) hc.size,e,f.ag hc⟩
set_option maxHeartbeats 2000000 in
theorem CI {to:OA} {t:List Int} {tc:Nat} (h:RX W w ub yb ps es FU F D) (hg:bh.Good k B ps) (hk:k≤1000) (hB:0≤B∧B≤1000000000) (hn:es.length<1000) (ht:Rd W to (t.map (.int .i64)) (fun i=>i<W.heap.size)) (j1:t.length≤1000) (j2:t.length≤tc) (v:Int) :
  Calls Tryz.prog qQ #[.pointer (some ⟨yb,0,none⟩),.int .i64 v,.slice to t.length tc] w (bc fun x w'=>∃ (oA:OA) (oC:Nat) (FO FU' F' D':Nat→Prop),x = .slice oA (bz es v t).2.length oC∧Own w' bd 1 oA (bz es v t).2.length oC ((bz es v t).2.map (.int .i64)) FO∧(∀ i,FO i→db w w' i)∧jo FO F'∧jo FO FU'∧RX W w' ub yb (if gg ps (bz es v t).2 then fe ps (bz es v t).2 else ps) (bz es v t).1 FU' F' D'∧(∀ i,FU' i→Ext FU w w' i)∧(∀ i,F' i→Ext F w w' i)∧Ch (fun i=>F i∨FU i) w w'):=by
 have g0:=tu v t t.length 4 es []
 rw [List.length_nil,Nat.zero_add] at g0
 have a9:(bz es v t).2.length≤t.length:=g0.2
 refine rZ.calls _ _ _ _ _ ?_
 intro w0 e0
 have g9:Own w0 bd 1 (some ⟨w.heap.size,0,none⟩) 0 0 (([]:List Int).map (.int .i64)) (·=w.heap.size):=Own.made e0 rfl (Nat.zero_le _) rfl
 have j3:w.heap.size<w0.heap.size:=(ba.new e0).lt
 refine ⟨fun oA oN oC n f w'=>∃ (m:Nat) (es':List bw) (out:List Int),n=m∧4≤m∧t.length≤m+f∧oz v t f m es' out=bz es v t∧out.length+f≤t.length∧es'.length=es.length∧oN=out.length∧SS W w w' ub yb ps es' FU F oA oC out,
  ⟨t.length,4,es,[],rfl,Nat.le_refl _,by omega,rfl,by simp,rfl,rfl,F,D,(·=w.heap.size),h.aa (Ch.alloc e0),fun i hi => .inl hi,g9,fun i hi=>⟨by omega,by omega⟩,fun i hi hf=>by have:=(h.f i hf).2;omega,Ch.alloc e0⟩,?_⟩
 rintro jk oA oN oA_C n f w1 ⟨m,es',out,rfl,j4,j5,a3,j6,j7,rfl,hX⟩
 refine ⟨fun d4=>?_,fun d5=>?_⟩
 rotate_left
 ·have d5:t.length≤m:=by have:=dQf d5;omega
  rw [zO d5] at a3
  rw [← a3] at a9 ⊢
  dsimp only at a9 ⊢
  obtain ⟨F',D',FO,b2,a6,b6,a2,b3,a4⟩:=hX
  generalize h0:w1=w9 at b2 a6 b6 a2 a4 ⊢
  refine ⟨_,b2.ptr,?_⟩
  refine ab (sX b2.u hg b6.rd (by omega) (by rw [hg.len];omega) (by omega) oA_C) ?_
  rintro x d6 ⟨rfl,b7,a1⟩
  have c6:∀ i,FO i→¬ FU i:=fun i hi hf=>absurd (h.fu i hf).2 (Nat.not_lt.2 (a2 i hi).1)
  have a7:=a1.size
  have d7:=a4.size
  refine ⟨_,rfl,_,_,FO,Ext FU w9 d6,F',D',rfl,b6.af a1 (fun i _ hi hf=>c6 i hi hf),fun i hi=>db.le (a2 i hi) a7,b3,fun i hi hf=>hf.elim (c6 i hi) (fun k=>by have:=(a2 i hi).2;have:=k.1;omega),b2.use b7 a1,fun i hi=>hi.imp id (fun k=>⟨by have:=k.1;omega,k.2⟩),fun i hi=>(a6 i hi).imp id (fun k=>⟨k.1,by have:=k.2;omega⟩),(a4.mono (fun i _ hi => .inl hi)).trans a1 (fun i _ hi => .inr hi)⟩
 have d4:m<t.length:=by have:=dQt d4;omega
 refine ⟨⟨by omega,by omega⟩,?_⟩
 have g1:=hX
 obtain ⟨F',D',FO,hP,a6,hO,a2,b3,c7⟩:=hX
 have g2:Rd w1 (if tc=0 then to else to.map (·.add (0*1))) ((t.take m).map (.int .i64)) (fun i=>i<W.heap.size):=by
  have:=(ht.aa hP.c).slice (c:=tc) (sz:=1) (by simp;omega) 0 m
  simpa [List.map_take] using this
 have h1:((m:Int).toNat-0)=(t.take m).length:=by rw [List.length_take];omega
 rw [h1]
 refine ab (LS hP.x (by omega) g2 v _) ?_
 rintro x w2 ⟨rfl,h2⟩
 refine ⟨_,rfl,?_⟩
 have g3:=g1.aa h2
 by_cases a5:es'.findIdx (hasB v (t.take m))<es'.length
 rotate_left
 ·have d8:qe es' v (t.take m) = -1:=by unfold qe;rw [if_neg a5]
  rw [d8]
  refine pj (by decide) ?_
  rw [ur a5] at a3
  rw [← a3] at a9 ⊢
  dsimp only at a9 ⊢
  obtain ⟨F',D',FO,b2,a6,b6,a2,b3,a4⟩:=g3
  generalize h0:w2=w9 at b2 a6 b6 a2 a4 ⊢
  refine ⟨_,b2.ptr,?_⟩
  refine ab (sX b2.u hg b6.rd (by omega) (by rw [hg.len];omega) (by omega) oA_C) ?_
  rintro x d6 ⟨rfl,b7,a1⟩
  have c6:∀ i,FO i→¬ FU i:=fun i hi hf=>absurd (h.fu i hf).2 (Nat.not_lt.2 (a2 i hi).1)
  have a7:=a1.size
  have d7:=a4.size
  refine ⟨_,rfl,_,_,FO,Ext FU w9 d6,F',D',rfl,b6.af a1 (fun i _ hi hf=>c6 i hi hf),fun i hi=>db.le (a2 i hi) a7,b3,fun i hi hf=>hf.elim (c6 i hi) (fun k=>by have:=(a2 i hi).2;have:=k.1;omega),b2.use b7 a1,fun i hi=>hi.imp id (fun k=>⟨by have:=k.1;omega,k.2⟩),fun i hi=>(a6 i hi).imp id (fun k=>⟨k.1,by have:=k.2;omega⟩),(a4.mono (fun i _ hi => .inl hi)).trans a1 (fun i _ hi => .inr hi)⟩
 have d8:qe es' v (t.take m)=(es'.findIdx (hasB v (t.take m)):Int):=by unfold qe;rw [if_pos a5]
 rw [d8]
 obtain ⟨f,rfl⟩:∃ f',f=f'+1:=⟨f-1,by omega⟩
 rw [zT d4 a5] at a3
 generalize es'.findIdx (hasB v (t.take m))=j at a5 a3
 refine eg (decide_eq_false (by omega)) ?_
 clear g1 hP a6 hO a2 b3 c7 g2
 obtain ⟨F',D',FO,hP,a6,hO,a2,b3,c7⟩:=g3
 refine ab (hP.MI (by omega) a5) ?_
 rintro x w5 ⟨g,rfl,g4,d9,d3⟩
 refine ⟨_,_,_,_,_,rfl,fun w6 e6=>⟨⟨(ba.new e6).ok 0 rfl,(ba.new e6).ok 1 rfl,(ba.new e6).ok 2 rfl⟩,fun w7 e7=>?_⟩⟩
 obtain ⟨c5,b4⟩:=OU e6 e7
 have e1:=d9.aa b4
 have e2:=pq.aa g4 b4
 have j8:=d3.size
 have h3:w5.heap.size<w7.heap.size:=c5.lt
 have a8:∀ i,Ext F' w2 w5 i→i<w5.heap.size:=fun i hi=>(d9.f i hi).2
 clear e6 e7
 have h4:Own w7 bd 1 oA out.length oA_C (out.map (.int .i64)) FO:=(hO.af d3 (fun i _ hi hf=>b3 i hi hf)).aa b4
 have b8:Ch F w w7:=(c7.trans d3 (fun i hi hf=>(a6 i hf).Td hi)).ag b4
 have e3:∀ i,Ext F' w2 w5 i→Ext F w w7 i:=fun i hi=>by
  rcases hi with hi|hi
  ·rcases a6 i hi with hi|hi
   ·exact .inl hi
   ·exact .inr ⟨hi.1,by have:=hi.2;omega⟩
  ·exact .inr ⟨by have:=hi.1;have:=c7.size;omega,by have:=hi.2;omega⟩
 have b9:jo FO (Ext F' w2 w5):=fun i hi hf=>by
  rcases hf with hf|hf
  ·exact b3 i hi hf
  ·have:=(a2 i hi).2;have:=hf.1;omega
 have g5:∀ i,FO i→db w w7 i:=fun i hi=>db.le (a2 i hi) (by omega)
 have g6:∀ i,FO i→i<w5.heap.size:=fun i hi=>by have:=(a2 i hi).2;omega
 have c8:∀ i,FO i→W.heap.size≤i∧¬ FU i:=fun i hi=>⟨by have:=(a2 i hi).1;have:=h.c.size;omega,fun hf=>by have:=(h.fu i hf).2;have:=(a2 i hi).1;omega⟩
 clear hP hO c7 a6 b3 a2 d3 d9 g4
 have c9:(es'.eraseIdx j).length=es'.length-1:=by rw [List.length_eraseIdx,if_pos a5]
 generalize h5:es'[j]=e at a3 e2
 generalize w5.heap.size=eb at c5 h3 a8 g6 ⊢
 generalize j9:Ext F' w2 w5=F1 at e1 a8 e3 b9
 obtain ⟨o,c,gs,Fa,hC,hA⟩:=e1.x
 have e4:¬ Fa yb:=fun hx=>(hC.fa _ hx).2 rfl
 have c0:¬ Fa eb:=fun hx=>by have:=a8 _ (hC.fa _ hx).1;omega
 refine ⟨fun w'=>Ch Fa w7 w',fun w8 e8=>⟨Ch.drew e8,_,_,_,fun w' hc=>(hC.blk.af hc e4).cell 1 rfl,_,_,_,_,_,⟨fun w' hc=>(c5.af hc c0).cell 0 rfl,fun w' hc=>(c5.af hc c0).cell 1 rfl,fun w' hc=>(c5.af hc c0).cell 2 rfl⟩,fun e5 g7=>?_⟩⟩
 have a0:Ch ah w7 e5:=(Ch.drew (F:=ah) e8).ag (Ch.alloc g7)
 refine ⟨a0.any,?_⟩
 have e9:=e1.aa a0
 obtain ⟨h6,h7,h8,h9,f0,d0,i0⟩:=e9.push (e:=e) (g:=g) (D':=ah) (hC.aa a0) (hA.imp (fun _ _ k=>pq.aa k a0)) (by omega) (fun _ h=>h.elim) (ba.new g7) (pq.aa e2 a0)
 refine ⟨h6,_,h7,h8,h9,(a0.any).same f0,d0,fun d1 i1=>?_⟩
 obtain ⟨f3,b5⟩:=i0 d1 i1
 have f4:¬ F1 eb:=fun hx=>by have:=a8 _ hx;omega
 have f5:=(c5.aa a0).af b5 f4
 refine ⟨_,f5.cell 2 rfl,fun k0 i2=>?_⟩
 have f6:=(h4.aa a0).af b5 (fun i _ hi hf=>b9 i hi hf)
 obtain ⟨i3,i4,g8,i5,f7,c4⟩:=Own.pW (enc := .int .i64) bi f6 ay g.page i2 rfl (by unfold maxLen;omega) (by omega)
 have i6:=a0.size
 have i7:=b5.size
 have i8:=c4.size
 have d2:∀ i,FO i→¬ Ext F1 e5 d1 i:=fun i hi hf=>by
  rcases hf with hf|hf
  ·exact b9 i hi hf
  ·have:=g6 i hi;have:=hf.1;omega
 have f8:=f3.ze c4 (fun i hi=>⟨(c8 i hi).1,(c8 i hi).2,d2 i hi⟩)
 have i9:g.page=e.page:=e2.2.1
 have f9:out.length+1=(out++[g.page]).length:=by simp
 refine ⟨i3,_,i4,g8,i5,f,by omega,m+4,es'.eraseIdx j++[e],out++[g.page],by rw [ae (by omega) (by omega)];rfl,by omega,by omega,by rw [i9,← h5] at *;exact a3,by rw [← f9];omega,by rw [List.length_append,c9,List.length_singleton];omega,f9,Ext F1 e5 d1,D',Ext FO d1 g8,f8,?_,by rw [← f9];exact f7,?_,?_,?_⟩
 ·intro i hi
  rcases hi with hi|hi
  ·exact (e3 i hi).imp id (fun k=>⟨k.1,by have:=k.2;omega⟩)
  ·exact .inr ⟨by have:=hi.1;have:=b8.size;omega,by have:=hi.2;omega⟩
 ·intro i hi
  rcases hi with hi|hi
  ·exact db.le (g5 i hi) (by omega)
  ·exact ⟨by have:=hi.1;have:=b8.size;omega,hi.2⟩
 ·intro i hi hf
  rcases hi with hi|hi
  ·exact d2 i hi hf
  ·have k1:=hi.1
   rcases hf with hf|hf
   ·have:=a8 i hf;omega
   ·have:=hf.2;omega
 ·have j0:Ch F w d1:=(b8.ag a0).trans b5 (fun i hi hf=>(e3 i hf).Td hi)
  exact j0.trans c4 (fun i hi hf=>by have:=(g5 i hf).1;omega)
theorem dm.user (h:dm w ub ps FU) {id:Int} (h0:0≤id) (h1:id.toNat<ps.length):∃ (p:Addr) (c:Nat),∀ w',Ch ah w w'→w'.cell? ⟨ub,0,none⟩=some (.slice (some p) ps.length c)∧w'.cell? ((p.add (id.toNat*3)).add 1)=some (.int .i64 (ax ps id).ar):=by
 obtain ⟨p,c,hp⟩:=h.look h1
 exact ⟨p,c,fun w' hc=>⟨(hp w' hc).1,by rw [ef h0 h1];exact (hp w' hc).2.2⟩⟩
theorem RX.row (h:RX W w ub yb ps es FU F D):∃ (o:OA) (c:Nat),(∀ w',Ch ah w w'→w'.cell? ⟨yb,1,none⟩=some (.slice o es.length c))∧∀ i (hi:i<es.length),∃ p,o=some p∧∀ w',Ch ah w w'→w'.cell? (p.add (i*3))=some (.int .i64 es[i].ver)∧w'.cell? ((p.add (i*3)).add 2)=some (.int .i64 es[i].page):=by
 obtain ⟨o,c,gs,Fa,hC,hA⟩:=h.x
 refine ⟨o,c,fun w' hc=>(hC.aa hc).blk.cell 1 rfl,fun i hi=>?_⟩
 have a1:i<gs.length:=by rw [hA.length];exact hi
 obtain ⟨p,hp,_,_,_⟩:=hC.own.rd.elem (sz:=3) (enc:=ly) (fun _=>rfl) (by omega) a1
 refine ⟨p,hp,fun w' hc=>?_⟩
 obtain ⟨p',a2,_,_,a0⟩:=(hC.aa hc).own.rd.elem (sz:=3) (enc:=ly) (fun _=>rfl) (by omega) a1
 rw [hp] at a2
 have a3:p=p':=Option.some.inj a2
 subst a3
 rw [pq.ec (hA.get i a1 hi)] at a0
 have h0:=a0 0 _ rfl
 rw [cm] at h0
 exact ⟨h0,a0 2 _ rfl⟩
set_option maxHeartbeats 1000000 in
theorem Gh (h:RX W w ub yb ps es FU F D) (hg:bh.Good k B ps) (hk:k≤1000) (hB:0≤B∧B≤1000000000) (hn:es.length<1000) (a4:∀ e∈es,mr ps e.page=true) :
  Calls Tryz.prog qC #[.pointer (some ⟨yb,0,none⟩)] w (bc fun x w'=>x = .bool (decide (xt ps es<es.length))∧Mi W w w' ub yb (EK ps es) (es.eraseIdx (xt ps es)) FU F):=by
 refine rR.calls _ ?_
 unfold Vm.A2 Vm.A3 Vm.B1 Vm.B7 Vm.C Vm.C8 Vm.E Vm.F Vm.F5 Vm.G Vm.H Vm.J1 Vm.J2 Vm.P Vm.Q Vm.Q0 Vm.Q1 Vm.Q2 Vm.X Vm.Y;dsimp only
 refine ⟨fun i f w'=>∃ j:Nat,i=j∧j≤es.length∧f=es.length-j∧Ch ah w w'∧∀ m (hm:m<es.length),m<j→(qH ps es[m].page==1)=false,⟨_,0,rfl,Nat.zero_le _,rfl,Ch.refl _ _,fun m _ h=>absurd h (Nat.not_lt_zero _)⟩,?_⟩
 rintro jk i f w1 ⟨j,rfl,hj,rfl,hc,b2⟩
 have a7:=h.aa hc
 obtain ⟨o,c,a5,b3⟩:=a7.row
 refine ⟨_,_,_,a5 _ (Ch.refl _ _),fun a0=>?_,fun c9=>?_⟩
 rotate_left
 ·have d0:j=es.length:=by have:=dQf c9;omega
  subst d0
  have a8:¬ xt ps es<es.length:=fun a0=>by
   have h1:=b2 (xt ps es) a0 a0
   have h2:=List.findIdx_getElem (w:=a0)
   unfold xt at h1
   rw [h2] at h1
   cases h1
  rw [decide_eq_false a8]
  have h1:EK ps es=ps:=by unfold EK;rw [List.getElem?_eq_none (by omega)]
  rw [h1,List.eraseIdx_of_length_le (by omega)]
  exact ⟨rfl,h.same hc⟩
 have a0:j<es.length:=by have:=dQt a0;omega
 obtain ⟨p,hp,a6⟩:=b3 j a0
 subst hp
 have hl:=a4 es[j] (List.getElem_mem a0)
 obtain ⟨i0,i1⟩:=gz hl
 obtain ⟨pu,cu,c4⟩:=dm.user a7.u i0 i1
 have d1:(j:Int).toNat=j:=Int.toNat_natCast j
 rw [d1]
 have c5:qH ps es[j].page=(ax ps es[j].page).ar:=by unfold qH;rw [hl,if_pos rfl]
 have b4:∀ w',Ch ah w1 w'→w'.cell? ⟨yb,0,none⟩=some (.pointer (some ⟨ub,0,none⟩)):=fun w' hc=>(a7.aa hc).ptr
 refine ⟨fun w'=>Ch ah w1 w',fun w2 e2=>⟨Ch.drew e2,_,b4,_,_,_,fun w' hc=>(c4 w' hc).1,_,_,_,a5,⟨by omega,by omega⟩,_,fun w' hc=>(a6 w' hc).2,⟨i0,by omega⟩,_,fun w' hc=>(c4 w' hc).2,fun h1=>?_,fun h1=>?_⟩⟩
 rotate_left
 ·refine ⟨es.length-(j+1),by omega,j+1,by rw [ae (by omega) (by omega)];rfl,a0,rfl,hc.ag (Ch.drew e2),fun m hm e1=>?_⟩
  by_cases he:m=j
  ·subst he;rw [c5];exact h1
  ·exact b2 m hm (by omega)
 have a8:xt ps es=j:=(List.findIdx_eq a0).2 ⟨by rw [c5];exact h1,fun m hm=>b2 m (by omega) hm⟩
 have b5:EK ps es=qM ps es[j].page:=by unfold EK;rw [a8,List.getElem?_eq_getElem a0]
 rw [a8,b5,decide_eq_true a0]
 have hX:=a7.aa (Ch.drew e2)
 have b6:=hn
 have d2:=hg
 obtain ⟨i,d3⟩:∃ i,i=j:=⟨j,rfl⟩
 subst d3
 have hi:=a0
 obtain ⟨d4,b7⟩:∃ l,l=es:=⟨es,rfl⟩
 subst b7
 obtain ⟨FU1,b8⟩:∃ l,l=FU:=⟨FU,rfl⟩
 subst b8
 refine ab (hX.MI b6 hi) ?_
 rintro v w2 ⟨g,rfl,d5,c6,c7⟩
 refine ⟨_,_,_,_,_,rfl,fun w6 e6=>⟨⟨(ba.new e6).ok 0 rfl,(ba.new e6).ok 1 rfl,(ba.new e6).ok 2 rfl⟩,fun w7 e7=>?_⟩⟩
 obtain ⟨b9,a2⟩:=OU e6 e7
 have a9:=c6.aa a2
 have d6:g.page=d4[i].page:=d5.2.1
 clear e6 e7
 have c8:∀ i,FU1 i→i<w2.heap.size:=fun i hi=>(c6.fu i hi).2
 have d7:=b9.lt
 generalize w2.heap.size=eb at b9 c8 d7 ⊢
 have d8:¬ FU1 yb:=a9.lt.2
 have d9:¬ FU1 eb:=fun hx=>Nat.lt_irrefl _ (c8 _ hx)
 have e3:=a9.ptr
 have e0:∀ w',Ch FU1 w7 w'→w'.cell? ⟨yb,0,none⟩=some (.pointer (some ⟨ub,0,none⟩)):=fun w' hc=>by
  obtain ⟨o,c,gs,Fa,hC,_⟩:=a9.x
  exact (hC.blk.af hc d8).cell 0 rfl
 refine ⟨fun w'=>Ch FU1 w7 w',fun w8 e8=>⟨Ch.drew e8,_,e0,_,fun w' hc=>(b9.af hc d9).cell 2 rfl,fun w9 e9=>⟨(Ch.drew e8).ag (Ch.alloc e9),?_⟩⟩⟩
 have a1:Ch ah w7 w9:=(Ch.drew (F:=ah) e8).ag (Ch.alloc e9)
 rw [d6] at e9
 refine ab ((a9.aa a1).Ru d2 hk hB (ba.new e9)) ?_
 rintro x e4 ⟨rfl,c0,a3⟩
 refine ⟨_,rfl,(a1.any).same a3,rfl,Mi.then (FU':=FU1) (F':=F) hX (fun _ hi => .inl hi) (fun _ hi => .inl hi) ((hc.ag (Ch.drew e2)).any) ⟨_,_,_,c0,fun i hi=>?_,fun i hi=>?_,?_⟩⟩
 ·have:=c7.size
  have:=a2.size
  have:=a1.size
  rcases hi with hi|hi
  ·exact .inl hi
  ·exact .inr ⟨by have:=hi.1;omega,hi.2⟩
 ·have:=a2.size
  have:=a1.size
  have:=a3.size
  rcases hi with hi|hi
  ·exact .inl hi
  ·exact .inr ⟨hi.1,by have:=hi.2;omega⟩
 ·exact (((c7.ag a2).ag a1).mono (fun i _ hi => .inl hi)).trans a3 (fun i _ hi => .inr hi)
theorem QN (v:Int) (ps:List ak) (es:List bw) {q:Nat} (hq:q<es.length):uL v ps (es.drop q).reverse=FD v (uL v ps (es.drop (q+1)).reverse) es[q]:=by
 rw [List.drop_eq_getElem_cons hq,List.reverse_cons,Es]
set_option maxHeartbeats 1000000 in
theorem Ev (h:RX W w ub yb ps es FU F D) (hg:bh.Good k B ps) (hk:k≤1000) (hB:0≤B∧B≤1000000000) (hn:es.length<1000) (v:Int) :
  Calls Tryz.prog pU #[.pointer (some ⟨yb,0,none⟩),.int .i64 v] w (bc fun x w'=>x = .int .i64 ((es.length:Int)-(es.filter (js v)).length)∧Mi W w w' ub yb (uL v ps es.reverse) (es.filter (js v)) FU F):=by
 refine qT.calls _ _ ?_
 unfold Vm.B Vm.B1 Vm.B7 Vm.Br Vm.C Vm.C0 Vm.C3 Vm.E Vm.J1 Vm.J2 Vm.Q Vm.Q0 Vm.Q1 Vm.V Vm.Z;dsimp only
 obtain ⟨o,c,a1,_⟩:=h.row
 refine ⟨_,_,_,a1 _ (Ch.refl _ _),fun n i f w'=>∃ q:Nat,i=(q:Int)-1∧q≤es.length∧f=q∧n=((es.drop q).length:Int)-((es.drop q).filter (js v)).length∧Mi W w w' ub yb (uL v ps (es.drop q).reverse) (es.take q++(es.drop q).filter (js v)) FU F,
  ⟨_,es.length,by rw [ae (by omega) (by omega)],Nat.le_refl _,rfl,by simp,by simpa [uL] using h.same (Ch.refl _ w)⟩,?_⟩
 clear a1
 rintro jk n i q w1 ⟨q',rfl,hq,rfl,rfl,FU1,F1,D1,hX,b3,b4,b5⟩
 refine ⟨fun d2=>?_,fun d3=>?_⟩
 rotate_left
 ·have d4:q=0:=by have:=dQf d3;omega
  subst d4
  rw [List.drop_zero,List.take_zero,List.nil_append] at *
  exact ⟨rfl,FU1,F1,D1,hX,b3,b4,b5⟩
 have e5:1≤q:=by have:=dQt d2;omega
 obtain ⟨i,rfl⟩:∃ i,q=i+1:=⟨q-1,by omega⟩
 have d5:((i+1:Nat):Int)-1=(i:Int):=by omega
 rw [d5]
 have b6:i<es.length:=by omega
 have a9:es.drop i=es[i] :: es.drop (i+1):=List.drop_eq_getElem_cons b6
 have c5:es.take (i+1)=es.take i++[es[i]]:=List.take_succ_eq_append_getElem b6
 have f0:((es.drop (i+1)).filter (js v)).length≤(es.drop (i+1)).length:=List.length_filter_le _ _
 have f3:(es.drop (i+1)).length=es.length-(i+1):=List.length_drop
 have b7:=QN v ps es b6
 have c6:bh.Good k B (uL v ps (es.drop (i+1)).reverse):=NZ hg hB.1 v _
 generalize a2:es.take (i+1)++(es.drop (i+1)).filter (js v)=a4 at hX
 have f4:a4.length=(i+1)+((es.drop (i+1)).filter (js v)).length:=by rw [← a2,List.length_append,List.length_take];omega
 have hi:i<a4.length:=by omega
 have c7:a4[i]=es[i]:=by
  subst a2
  rw [List.getElem_append_left (by rw [List.length_take];omega),List.getElem_take]
 have d6:a4.eraseIdx i=es.take i++(es.drop (i+1)).filter (js v):=by
  subst a2
  rw [List.eraseIdx_append_of_lt_length (by rw [List.length_take];omega),c5,List.eraseIdx_append_of_length_le (by rw [List.length_take];omega)]
  congr 1
  have:i-(es.take i).length=0:=by rw [List.length_take];omega
  rw [this];simp
 obtain ⟨o,c,a1,b8⟩:=hX.row
 obtain ⟨p,hp,a6⟩:=b8 i hi
 subst hp
 have c8:=a6 _ (Ch.refl _ _)
 rw [c7] at c8
 have d7:(i:Int).toNat=i:=Int.toNat_natCast i
 rw [d7]
 refine ⟨_,_,_,a1 _ (Ch.refl _ _),⟨by omega,by omega⟩,_,c8.1,fun hv=>?_,fun hv=>?_⟩
 ·have b9:a4.length<1000:=by omega
  have a7:js v es[i]=false:=by unfold js;rw [hv];rfl
  generalize uL v ps (es.drop (i+1)).reverse=d8 at hX c6 b7
  have c0:uL v ps (es.drop i).reverse=qM d8 es[i].page:=by rw [b7];unfold FD;rw [hv,if_pos rfl]
  refine ab (hX.MI b9 hi) ?_
  rintro v w2 ⟨g,rfl,d9,c9,d0⟩
  refine ⟨_,_,_,_,_,rfl,fun w6 e6=>⟨⟨(ba.new e6).ok 0 rfl,(ba.new e6).ok 1 rfl,(ba.new e6).ok 2 rfl⟩,fun w7 e7=>?_⟩⟩
  obtain ⟨c4,a3⟩:=OU e6 e7
  have b2:=c9.aa a3
  have e0:g.page=a4[i].page:=d9.2.1
  clear e6 e7
  have d1:∀ i,FU1 i→i<w2.heap.size:=fun i hi=>(c9.fu i hi).2
  have e1:=c4.lt
  generalize w2.heap.size=eb at c4 d1 e1 ⊢
  have e2:¬ FU1 yb:=b2.lt.2
  have e3:¬ FU1 eb:=fun hx=>Nat.lt_irrefl _ (d1 _ hx)
  have f5:=b2.ptr
  have e4:∀ w',Ch FU1 w7 w'→w'.cell? ⟨yb,0,none⟩=some (.pointer (some ⟨ub,0,none⟩)):=fun w' hc=>by
   obtain ⟨o,c,gs,Fa,hC,_⟩:=b2.x
   exact (hC.blk.af hc e2).cell 0 rfl
  refine ⟨fun w'=>Ch FU1 w7 w',fun w8 e8=>⟨Ch.drew e8,_,e4,_,fun w' hc=>(c4.af hc e3).cell 2 rfl,fun w9 e9=>⟨(Ch.drew e8).ag (Ch.alloc e9),?_⟩⟩⟩
  have a0:Ch ah w7 w9:=(Ch.drew (F:=ah) e8).ag (Ch.alloc e9)
  rw [e0] at e9
  refine ab ((b2.aa a0).Ru c6 hk hB (ba.new e9)) ?_
  rintro x f6 ⟨rfl,a8,a5⟩
  refine ⟨_,rfl,(a0.any).same a5,i,by omega,i,by rw [ae (by omega) (by omega)],by omega,rfl,?_,?_⟩
  ·rw [a9,List.filter_cons,a7,if_neg (by decide),List.length_cons,ae (by omega) (by omega)]
   omega
  ·rw [c0,a9,List.filter_cons,a7,if_neg (by decide),← d6]
   rw [c7] at a8
   refine Mi.then (FU':=FU1) (F':=F1) hX b3 b4 b5 ⟨_,_,_,a8,fun i hi=>?_,fun i hi=>?_,?_⟩
   ·have:=d0.size
    have:=a3.size
    have:=a0.size
    rcases hi with hi|hi
    ·exact .inl hi
    ·exact .inr ⟨by have:=hi.1;omega,hi.2⟩
   ·have:=a3.size
    have:=a0.size
    have:=a5.size
    rcases hi with hi|hi
    ·exact .inl hi
    ·exact .inr ⟨hi.1,by have:=hi.2;omega⟩
   ·exact (((d0.ag a3).ag a0).mono (fun i _ hi => .inl hi)).trans a5 (fun i _ hi => .inr hi)
 ·have a7:js v es[i]=true:=by unfold js;rw [hv];rfl
  refine ⟨i,by omega,i,by rw [ae (by omega) (by omega)],by omega,rfl,?_,?_⟩
  ·rw [a9,List.filter_cons,a7,if_pos rfl,List.length_cons,List.length_cons];omega
  ·have h1:uL v ps (es.drop i).reverse=uL v ps (es.drop (i+1)).reverse:=by rw [b7];unfold FD;rw [hv,if_neg Bool.false_ne_true]
   have h2:es.take i++(es.drop i).filter (js v)=a4:=by
    rw [a9,List.filter_cons,a7,if_pos rfl,← a2,c5,List.append_assoc];rfl
   rw [h1,h2]
   exact ⟨FU1,F1,D1,hX,b3,b4,b5⟩
end
end Go.Proofs.YtkbikekbaboclaaGreat.dh
