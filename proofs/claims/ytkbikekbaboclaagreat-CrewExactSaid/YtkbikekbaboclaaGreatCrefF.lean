import Derived.Test.YtkbikekbaboclaaGreatCrefE
set_option linter.unusedVariables false
set_option linter.unusedSimpArgs false
namespace Go.Proofs.YtkbikekbaboclaaGreat.fo
open Go Go.Proofs V Vc Step bh dh ee fv qn Go.RowKit
open gm (da di dl ik gq ny)
structure CM (W w0 w:World) (fb pb xb k:Nat) (md:rY) (tb:Nat) (tv:List Value) (R0:Nat→Nat→Prop) (ps:List ak) (es:List bw) (aw:List da) (o:OA) (c:Nat) (qs:List FQ) (R:Nat→Nat→Prop) (ao:OA) (ac:Nat) (aq:List (da × di)) (TA:Nat→Prop):Prop where
 cr:pZ W w fb pb xb k md ps es o c qs R
 lx:ba w tb (tv++[.slice ao aq.length ac]) ie
 aws:aq.map (·.1)=aw
 own:Own w pP 5 ao aq.length ac (aq.map dl).flatten TA
 ta:∀ i,TA i→w0.heap.size≤i∧i<w.heap.size∧i≠tb∧∀ j,¬ R j i
 nt:∀ j,¬ R j tb
 ask:∀ q∈aq,lk w q (fun i=>i<W.heap.size∨R 2 i)
 lo:w0.heap.size≤tb
 grow:∀ i,de R i→Ext (de R0) w0 w i
 two:∀ i,R0 2 i→R 2 i
 ch:Ch (dt R0) w0 w
 Bz:∀ i,R0 2 i→¬ dt R0 i
 W0:W.heap.size≤w0.heap.size
section
variable {W w0 w w' w1:World} {fb pb xb k tb:Nat} {B:Int} {md:rY} {tv tv':List Value} {R0 R R':Nat→Nat→Prop} {ps ps':List ak} {es es':List bw} {aw:List da} {o o' ao:OA} {c c' ac:Nat} {qs qs':List FQ} {aq:List (da × di)} {TA G:Nat→Prop}
theorem CM.Ts (h:CM W w0 w fb pb xb k md tb tv R0 ps es aw o c qs R ao ac aq TA) {i:Nat} (hi:dt R i) (hl:i<w0.heap.size):dt R0 i:=by
 rcases h.grow i (dz i hi) with ⟨j,hj⟩|hx
 ·by_cases h2:j=2
  ·subst h2;exact absurd hi (h.cr.Bz i (.inr (h.two i hj)))
  ·exact ⟨j,h2,hj⟩
 ·have:=hx.1;omega
theorem CM.qW (h:CM W w0 w fb pb xb k md tb tv R0 ps es aw o c qs R ao ac aq TA) (hC:pZ W w' fb pb xb k md ps' es' o' c' qs' R') (h2:∀ i,R 2 i→R' 2 i) (hg:∀ i,de R' i→Ext (de R) w w' i) (hc:Ch (dt R) w w'):CM W w0 w' fb pb xb k md tb tv R0 ps' es' aw o' c' qs' R' ao ac aq TA:=by
 have hs:=hc.size
 have a5:=h.lx.lt
 have h0:=h.ch.size
 have hn:∀ i,(∀ j,¬ R j i)→¬ dt R i:=fun i hi ⟨j,_,hj⟩=>hi j hj
 have a0:∀ i,i<w.heap.size→(∀ j,¬ R j i)→∀ j,¬ R' j i:=fun i hl hi j hj=>by
  rcases hg i ⟨j,hj⟩ with ⟨m,hm⟩|hx
  ·exact hi m hm
  ·have:=hx.1;omega
 refine ⟨hC,h.lx.af hc (hn _ h.nt),h.aws,h.own.af hc (fun i _ hi=>hn i (h.ta i hi).2.2.2),fun i hi=>?_,a0 tb a5 h.nt,fun q hq=>((h.ask q hq).af hc (fun i _ hi=>h.cr.Bz i hi)).mono (fun i _ hi=>hi.imp id (h2 i)),h.lo,fun i hi=>?_,fun i hi=>h2 i (h.two i hi),h.ch.trans hc (fun i hl hi=>h.Ts hi hl),h.Bz,h.W0⟩
 ·obtain ⟨a1,a2,a3,a4⟩:=h.ta i hi
  exact ⟨a1,by omega,a3,a0 i a2 a4⟩
 ·rcases hg i hi with h1|h1
  ·exact (h.grow i h1).imp id (fun k=>⟨k.1,by have:=k.2;omega⟩)
  ·exact .inr ⟨by have:=h1.1;omega,h1.2⟩
theorem CM.aa (h:CM W w0 w fb pb xb k md tb tv R0 ps es aw o c qs R ao ac aq TA) (hc:Ch ah w w'):CM W w0 w' fb pb xb k md tb tv R0 ps es aw o c qs R ao ac aq TA:=h.qW (h.cr.aa hc) (fun i hi=>hi) (fun i hi => .inl hi) hc.any
theorem CM.block (h:CM W w0 w fb pb xb k md tb tv R0 ps es aw o c qs R ao ac aq TA) {b:Nat} (hc:Ch (·=b) w w') (hR:∀ j,¬ R j b) (ht:b≠tb) (hT:¬ TA b) (hl:w0.heap.size≤b):CM W w0 w' fb pb xb k md tb tv R0 ps es aw o c qs R ao ac aq TA:=by
 have hW:=h.W0
 have hs:=hc.size
 exact ⟨h.cr.ze hc (fun j i hi he=>hR j (he▸hi)) (fun i hi he=>by omega),h.lx.af hc (fun he=>ht he.symm),h.aws,h.own.af hc (fun i _ hi he=>hT (he▸hi)),fun i hi=>⟨(h.ta i hi).1,Nat.lt_of_lt_of_le (h.ta i hi).2.1 hs,(h.ta i hi).2.2⟩,h.nt,fun q hq=>(h.ask q hq).af hc (fun i _ hi he=>hi.elim (fun hi=>by omega) (fun hi=>hR 2 (he▸hi))),h.lo,fun i hi=>(h.grow i hi).imp id (fun k=>⟨k.1,by have:=k.2;omega⟩),h.two,h.ch.trans hc (fun i hi he=>by omega),h.Bz,h.W0⟩
theorem CM.set (h:CM W w0 w fb pb xb k md tb tv R0 ps es aw o c qs R ao ac aq TA) {j:Nat} {v:Value} (hj:j<tv.length) (e:w'=w.setCell ⟨tb,j,none⟩ v):CM W w0 w' fb pb xb k md tb (tv.set j v) R0 ps es aw o c qs R ao ac aq TA:=by
 have hc:Ch (·=tb) w w':=Ch.set e rfl
 have hs:=hc.size
 have hb:=h.lx.set e
 rw [List.set_append_left _ _ hj] at hb
 have hW:=h.W0
 have a0:=h.lo
 have h0:=h.ch.size
 refine ⟨h.cr.ze hc (fun j i hi he=>h.nt j (he▸hi)) (fun i hi he=>by omega),hb,h.aws,h.own.af hc (fun i _ hi=>(h.ta i hi).2.2.1),fun i hi=>⟨(h.ta i hi).1,Nat.lt_of_lt_of_le (h.ta i hi).2.1 hs,(h.ta i hi).2.2⟩,h.nt,fun q hq=>(h.ask q hq).af hc (fun i _ hi he=>hi.elim (fun hi=>by omega) (fun hi=>h.nt 2 (he▸hi))),h.lo,fun i hi=>(h.grow i hi).imp id (fun k=>⟨k.1,by have:=k.2;omega⟩),h.two,h.ch.trans hc (fun i hi he=>by omega),h.Bz,h.W0⟩
set_option maxRecDepth 100000 in
theorem CM.Bk (h:CM W w0 w fb pb xb k md tb tv R0 ps es aw o c qs R ao ac aq TA) (ht:tv.length=4) {a:da × di} (ha:lk w a (fun i=>i<W.heap.size∨R 2 i)) (hl:aq.length<1000) (e1:w1=w.alloc (.cells (dl a).toArray pP (0,0))) :
  ∃ (o2:OA) (c2:Nat) (w2:World),(Builtin.append_ #[gl,gl] gl #[.slice ao aq.length ac,.slice (some ⟨w.heap.size,0,none⟩) 1 1]).run Tryz.prog w1 = .ok (.slice o2 (aq.length+1) c2) w2∧dr w2 ⟨tb,4,none⟩ ∧
   ∀ w3,w3=w2.setCell ⟨tb,4,none⟩ (.slice o2 (aq.length+1) c2)→∃ TA',CM W w0 w3 fb pb xb k md tb tv R0 ps es (aw++[a.1]) o c qs R o2 c2 (aq++[a]) TA':=by
 obtain ⟨o2,c2,w2,hr,ho,hc⟩:=Own.push tw h.own gl e1 rfl (List.all_eq_true.2 (gq a)) (by unfold maxLen;omega) (by omega)
 have nT:¬ TA tb:=fun hx=>(h.ta tb hx).2.2.1 rfl
 have a0:=h.lx.af hc nT
 have a7:dr w2 ⟨tb,4,none⟩:=a0.ok 4 (by rw [List.getElem?_append_right (by omega),ht];rfl)
 refine ⟨o2,c2,w2,hr,a7,fun w3 e3=>⟨Ext TA w w2,?_⟩⟩
 have a5:Ch (·=tb) w2 w3:=Ch.set e3 rfl
 have hs:=hc.size
 have a8:w3.heap.size=w2.heap.size:=by subst e3;simp [World.setCell]
 have a6:=a0.set e3
 rw [List.set_append_right _ _ (by omega),ht] at a6
 have a9:=h.lx.lt
 have b2:=h.lo
 have h0:=h.ch.size
 have hW:=h.W0
 have hT:∀ i,Ext TA w w2 i→i≠tb:=fun i hi he=>by
  subst he
  rcases hi with hi|hi
  ·exact nT hi
  ·have:=hi.1;omega
 have hG:Ch (fun i=>TA i∨i=tb) w w3:=(hc.mono (fun _ _ h => .inl h)).same (a5.mono (fun _ _ h => .inr h))
 have nR:∀ j i,R j i→¬ (TA i∨i=tb):=fun j i hk hg=>by
  rcases hg with hg|hg
  ·exact (h.ta i hg).2.2.2 j hk
  ·exact h.nt j (hg▸hk)
 have nW:∀ i,i<W.heap.size→¬ (TA i∨i=tb):=fun i hi hg=>by
  rcases hg with hg|hg
  ·have:=(h.ta i hg).1;omega
  ·omega
 refine ⟨h.cr.ze hG nR nW,?_,by simp [h.aws],?_,fun i hi=>?_,h.nt,fun q hq=>?_,h.lo,fun i hi=>(h.grow i hi).imp id (fun k=>⟨k.1,by have:=k.2;omega⟩),h.two,(h.ch.trans hG (fun i hi hg=>?_)),h.Bz,h.W0⟩
 ·rw [List.length_append];exact a6
 ·rw [List.length_append,List.map_append,List.flatten_append]
  have:=ho.af a5 (fun i _ hi he=>hT i hi he)
  simpa using this
 ·rcases hi with hi|hi
  ·obtain ⟨a1,a2,a3,a4⟩:=h.ta i hi
   exact ⟨a1,by omega,a3,a4⟩
  ·have h1:=hi.1
   have h2:=hi.2
   exact ⟨by omega,by omega,by omega,fun j hj=>by have:=(h.cr.lt i ⟨j,hj⟩).2;omega⟩
 ·rcases List.mem_append.1 hq with hq|hq
  ·exact (h.ask q hq).af hG (fun i _ hi=>hi.elim (nW i) (nR 2 i))
  ·rw [List.mem_singleton] at hq
   subst hq
   exact ha.af hG (fun i _ hi=>hi.elim (nW i) (nR 2 i))
 ·rcases hg with hg|hg
  ·have:=(h.ta i hg).1;omega
  ·omega
theorem pZ.put (h:pZ W w fb pb xb k md ps es o c qs R) {i:Nat} (hi:i<qs.length) {p:Addr} (hp:o=some p) {q':FQ} {N:Nat→Prop} {w0 w':World} {j:Nat} {v:Value} (h0:Ch ah w w0) (e:w'=w0.setCell ((p.add (i*8)).add j) v) (hj:j<8) (a6:(pf md qs[i]).set j v=pf md q') (hN:∀ i,N i→db w w0 i) (hr:Kf w0 md q' (fun i=>i<W.heap.size∨R 2 i∨N i)) :
  ∃ R',pZ W w' fb pb xb k md ps es o c (qs.set i q') R'∧(∀ i,R 2 i→R' 2 i)∧(∀ i,de R' i→Ext (de R) w w' i)∧Ch (dt R) w w':=by
 have h1:=h.aa h0
 have hl:(qs.map (pf md)).flatten.length=qs.length*8:=h.own.len
 have e':w'=w0.setCell (p.add (i*8+j)) v:=by rw [e,add_add]
 obtain ⟨a0,hc⟩:=h1.own.set (j:=i*8+j) (by rw [hl];omega) hp e'
 have hs:w'.heap.size=w0.heap.size:=by subst e;simp [World.setCell]
 have b2:=h0.size
 have a7:Ch (R 1) w w':=h0.any.same hc
 have a4:(qs.map (pf md)).flatten.set (i*8+j) v=((qs.set i q').map (pf md)).flatten:=by
  refine List.ext_getElem? fun m=>?_
  rw [List.getElem?_set]
  by_cases hm:m<qs.length*8
  ·have a5:m=(m / 8)*8+m % 8:=by omega
   have a8:m / 8<qs.length:=by omega
   have a9:m % 8<8:=by omega
   rw [a5,dp (enc:=pf md) (sz:=8) (qs.set i q') (fun _=>rfl) (by rw [List.length_set];exact a8) a9,← a5]
   by_cases he:i*8+j=m
   ·rw [if_pos he,if_pos (by rw [hl];omega)]
    have a1:m / 8=i:=by omega
    have a2:m % 8=j:=by omega
    simp only [a1,a2,List.getElem_set_self,← a6]
    rw [List.getElem?_set_self (by rw [OD];exact hj)]
   ·rw [if_neg he]
    conv=>lhs;rw [a5]
    rw [dp (enc:=pf md) (sz:=8) qs (fun _=>rfl) a8 a9]
    by_cases a1:m / 8=i
    ·have a2:m % 8≠j:=by omega
     simp only [a1,List.getElem_set_self,← a6]
     rw [List.getElem?_set_ne (by omega)]
    ·rw [List.getElem_set_ne (by omega)]
  ·rw [if_neg (by omega),List.getElem?_eq_none (by rw [hl];omega),List.getElem?_eq_none]
   have:((qs.set i q').map (pf md)).flatten.length=qs.length*8:=by
    rw [List.length_flatten,List.map_map]
    have:∀ l:List FQ,((l.map (List.length ∘ pf md)).sum)=l.length*8:=fun l=>by
     induction l with
     | nil=>rfl
     | cons x r ih=>rw [List.map_cons,List.sum_cons,ih,List.length_cons];show 8+_=_;omega
    rw [this,List.length_set]
   omega
 rw [a4] at a0
 have nfb:¬ R 1 fb:=fun hx=>h.fam.2 0 1 (by omega) fb h.z hx
 have hb:=h.blk.af a7 nfb
 have a3:Own w' bp 8 o (qs.set i q').length c ((qs.set i q').map (pf md)).flatten (R 1):=by rw [List.length_set];exact a0
 refine h.row (N:=N) (o':=o) (c':=c) a7 (fun i _ hi => .inr hi) (by rw [List.length_set];exact hb) a3 (fun i hi => .inl hi) (fun i hi=>⟨(hN i hi).1,by have:=(hN i hi).2;omega⟩) (fun i hi h1=>by have:=(hN i hi).1;have:=h.fam.1 1 i h1;omega) (fun q hq=>?_)
 obtain ⟨m,hm,rfl⟩:=List.mem_iff_getElem.1 hq
 rw [List.getElem_set]
 split
 ·refine .inr (hr.af hc (fun i _ hd hx=>?_))
  rcases hd with hd|hd|hd
  ·have:=h.f 1 i hx;omega
  ·exact h.fam.2 2 1 (by omega) i hd hx
  ·have:=(hN i hd).1;have:=h.fam.1 1 i hx;omega
 ·exact .inl (List.getElem_mem _)
end
end Go.Proofs.YtkbikekbaboclaaGreat.fo
