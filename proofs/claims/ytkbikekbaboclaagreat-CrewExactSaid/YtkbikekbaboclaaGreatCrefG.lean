import Derived.Test.YtkbikekbaboclaaGreatCrefF
set_option linter.unusedVariables false
set_option linter.unusedSimpArgs false
namespace Go.Proofs.YtkbikekbaboclaaGreat.fo
open Go Go.Proofs V Vc Step bh dh ee fv qn Go.RowKit
open gm (da di dl ik gq ny)
def LM (W w0:World) (fb pb xb k:Nat) (md:rY) (R0:Nat→Nat→Prop) (cr:Cr) (t:sx) (v:Value) (w:World):Prop :=
 ∃ (oo:OA) (oc:Nat) (ao:OA) (ac:Nat) (aq:List (da × di)) (TA:Nat→Prop) (o:OA) (c:Nat) (qs:List FQ) (R:Nat→Nat→Prop),v = .agg (im t oo oc ao aq.length ac).toArray∧pZ W w fb pb xb k md cr.ps cr.es o c qs R∧qs.map (·.2)=cr.rs ∧
  IV w (.slice oo t.out.length oc) t.out (fun i=>i<W.heap.size∨R 2 i)∧aq.map (·.1)=t.Bk∧Rd w ao (aq.map dl).flatten TA∧(∀ i,TA i→w0.heap.size≤i∧∀ j,¬ R j i)∧(∀ q∈aq,lk w q (fun i=>i<W.heap.size∨R 2 i))∧(∀ i,de R i→Ext (de R0) w0 w i)∧(∀ i,R0 2 i→R 2 i)∧Ch (dt R0) w0 w
section
variable {W w w' w1 w2:World} {fb pb xb k:Nat} {B:Int} {md:rY} {ps ps':List ak} {es es':List bw} {rs:List bo} {o o':OA} {c c' n:Nat} {qs qs':List FQ} {q:FQ} {R R':Nat→Nat→Prop} {F G D:Nat→Prop}
theorem Mo (h:bh.Good k B ps) (hB:0≤B) (id v:Int) (t:List Int):bh.Good k (B+1) (ul ps es id v t):=by
 unfold ul
 split
 ·exact BT h hB id (by have:=(h.at hB id).1;omega) (by omega)
 ·exact h.le (by omega)
theorem CM.Rv {W w0 w3:World} {z tb:Nat} {cr:Cr} {t:sx} {oo:OA} {oc:Nat} {R0:Nat→Nat→Prop} {ao:OA} {ac:Nat} {aq:List (da × di)} {TA:Nat→Prop} {zs:List Value} {T:Nat}
  (hP:CM W w1 w' fb pb xb k md tb [.int .i64 t.id,.bool t.done,.bool t.gave,.slice oo t.out.length oc] R0 cr.ps cr.es t.Bk o c qs R ao ac aq TA) (a2:qs.map (·.2)=cr.rs) (a0:IV w' (.slice oo t.out.length oc) t.out (fun i=>i<W.heap.size∨R 2 i))
  (a7:W.heap.size≤w0.heap.size) (a1:Ch ah w0 w1) (hz:ba w1 z zs T) (a3:zs.length=5) (a8:w0.heap.size≤z) (nz:∀ j,¬ R0 j z) (e:w3=w'.setCells z 0 (im t oo oc ao aq.length ac)) :
  ba w3 z (im t oo oc ao aq.length ac) T∧LM W w0 fb pb xb k md R0 cr t (.agg (im t oo oc ao aq.length ac).toArray) w3:=by
 have nm:¬ dt R0 z:=fun ⟨j,_,hj⟩=>nz j hj
 have a4:=hz.af hP.ch nm
 have a5:=a4.all (im t oo oc ao aq.length ac) (by rw [a3];rfl) e
 have hc:Ch (·=z) w' w3:=Ch.fr e rfl
 have a9:=hz.lt
 have h1:=hP.ch.size
 have hs:=hc.size
 have a6:=a1.size
 have b2:=hP.W0
 have nR:∀ j i,R j i→¬ i=z:=fun j i hi he=>by
  rcases hP.grow i ⟨j,hi⟩ with ⟨m,hm⟩|hx
  ·exact nz m (he▸hm)
  ·have:=hx.1;omega
 have b3:=hP.cr.ch
 refine ⟨a5,oo,oc,ao,ac,aq,TA,o,c,qs,R,rfl,hP.cr.ze hc nR (fun i hi he=>?_),a2,?_,hP.aws,(hP.own.af hc (fun i _ hi he=>by have:=(hP.ta i hi).1;omega)).rd,fun i hi=>⟨by have:=(hP.ta i hi).1;omega,(hP.ta i hi).2.2.2⟩,fun q hq=>?_,fun i hi=>?_,hP.two,(a1.any.same hP.ch).trans hc (fun i hi he=>by omega)⟩
 ·omega
 ·exact a0.af hc (fun i _ hi he=>hi.elim (fun hi=>by omega) (fun hi=>nR 2 i hi he))
 ·exact (hP.ask q hq).af hc (fun i _ hi he=>hi.elim (fun hi=>by omega) (fun hi=>nR 2 i hi he))
 ·exact (hP.grow i hi).imp id (fun k=>⟨by have:=k.1;omega,by have:=k.2;omega⟩)
theorem wX {c:ep} {wt:ByteArray} {tk:Nat→List Int→Int}:∀ (f n:Nat) (e:List gr) (sc:List Int),(rI.qR c wt tk f n e sc).length≤f
 | 0,n,e,sc=>Nat.le_refl _
 | f+1,n,e,sc=>by
  unfold rI.qR
  split
  ·exact Nat.zero_le _
  ·rw [List.length_cons]
   exact Nat.succ_le_succ (wX f _ _ _)
theorem Pz (a:da):(gk ey md a).length≤a.most.toNat:=wX _ _ _ _
theorem Nq {r:bo} (h:jt ey md k r) (h1:BQ ps r=false→jt ey md k (lh ps r)) (h2:BQ ps r=true→(lh ps r).said=gk ey md r.ask):BQ ps r=true↔(1≤(r.done:Int)+2-r.ask.ai.length∧((r.done:Int)+2-r.ask.ai.length>(gk ey md r.ask).length∨(r.done:Int)+2-r.ask.ai.length=r.ask.most)):=by
 have hd:=h.dn
 have a1:=h.sl
 have a2:r.dg.length=r.ask.ai.length+r.said.length:=by unfold bo.dg;rw [List.length_append]
 by_cases hA:r.done+1<r.dg.length
 ·have e2:BQ ps r=false:=by
   unfold BQ Gb
   exact if_pos hA
  rw [e2]
  exact ⟨fun hb=>(by cases hb),fun ⟨a,_⟩=>by omega⟩
 ·have a0:¬ ({ r with done:=r.done+1 }:bo).done<({ r with done:=r.done+1 }:bo).dg.length:=hA
  by_cases hN:sr { r with done:=r.done+1 } (Eg ps r)=0
  ·have e2:BQ ps r=true:=by
    unfold BQ Gb
    rw [if_neg a0,if_pos hN]
   have e1:(lh ps r).said=r.said:=by
    unfold lh Bl
    rw [if_pos (.inr hN)]
   have h3:=h2 e2
   rw [e1] at h3
   rw [e2,← h3]
   exact ⟨fun _=>⟨by omega,.inl (by omega)⟩,fun _=>rfl⟩
  ·have e1:(lh ps r).said=r.said++[sr { r with done:=r.done+1 } (Eg ps r)]:=by
    unfold lh Bl
    rw [if_neg (fun hx=>hx.elim a0 hN)]
   have e2:BQ ps r=(((r.said.length+1:Nat):Int)==r.ask.most):=by
    unfold BQ Gb
    rw [if_neg a0,if_neg hN]
   cases hb:BQ ps r with
   | true =>
    rw [hb] at e2
    have e2:=eq_of_beq e2.symm
    exact ⟨fun _=>⟨by omega,.inr (by omega)⟩,fun _=>rfl⟩
   | false =>
    have h3:=h1 hb
    have h4:=h3.sm
    have h5:=h3.le
    rw [(Fg ps r).2.2.1] at h4 h5
    rw [e1,List.length_append,List.length_singleton] at h4 h5
    exact ⟨fun hx=>(by cases hx),fun ⟨a,b⟩=>by rcases b with b|b <;> omega⟩
theorem pZ.same (h:pZ W w fb pb xb k md ps es o c qs R) {i:Nat} (hi:i<qs.length) {p:Addr} (hp:o=some p) {j:Nat} {v:Value} (hj:j<8) (hv:(pf md qs[i])[j]?=some v) (e:w'=w.setCell ((p.add (i*8)).add j) v):pZ W w' fb pb xb k md ps es o c qs R∧Ch (R 1) w w':=by
 have hl:(qs.map (pf md)).flatten.length=qs.length*8:=h.own.len
 have a2:(qs.map (pf md)).flatten[i*8+j]?=some v:=by rw [dp (enc:=pf md) (sz:=8) qs (fun _=>rfl) hi hj];exact hv
 have e':w'=w.setCell (p.add (i*8+j)) v:=by rw [e,add_add]
 obtain ⟨a0,hc⟩:=h.own.set (j:=i*8+j) (by rw [hl];omega) hp e'
 have a1:(qs.map (pf md)).flatten.set (i*8+j) v=(qs.map (pf md)).flatten:=by
  refine List.ext_getElem? fun m=>?_
  rw [List.getElem?_set]
  split
  ·rename_i he
   subst he
   rw [a2,if_pos (by rw [hl];omega)]
  ·rfl
 rw [a1] at a0
 have nf:∀ m,m≠1→∀ i,R m i→¬ R 1 i:=fun m hm i h1 h2=>h.fam.2 m 1 hm i h1 h2
 obtain ⟨D,hx⟩:=h.x
 refine ⟨⟨h.fam.le hc.size,h.f,h.z,h.blk.af hc (nf 0 (by omega) _ h.z),a0,⟨D,hx.ze hc (fun i hi=>⟨h.f 1 i hi,fun h2=>nf 3 (by omega) i h2 hi,fun h2=>nf 4 (by omega) i h2 hi⟩)⟩,fun q hq=>(h.rn q hq).af hc (fun i _ hd hx=>hd.elim (fun hd=>by have:=h.f 1 i hx;omega) (fun hd=>nf 2 (by omega) i hd hx))⟩,hc⟩
theorem pZ.Tj (h:pZ W w fb pb xb k md ps es o c qs R) {i:Nat} (hi:i<qs.length) {p:Addr} (hp:o=some p) {v0 v1 v2 v3 v4 v5 v6 v7 x:Value} (hv:pf md qs[i]=[v0,v1,v2,v3,v4,v5,v6,x]) {q':FQ} (a7:pf md q'=[v0,v1,v2,v3,v4,v5,v6,v7]) (hr:Kf w md q' (fun i=>i<W.heap.size∨R 2 i))
  (e:w'=(((((((w.setCell (p.add (i*8)) v0).setCell ((p.add (i*8)).add 1) v1).setCell ((p.add (i*8)).add 2) v2).setCell ((p.add (i*8)).add 3) v3).setCell ((p.add (i*8)).add 4) v4).setCell ((p.add (i*8)).add 5) v5).setCell ((p.add (i*8)).add 6) v6).setCell ((p.add (i*8)).add 7) v7) :
  ∃ R',pZ W w' fb pb xb k md ps es o c (qs.set i q') R'∧(∀ i,R 2 i→R' 2 i)∧(∀ i,de R' i→Ext (de R) w w' i)∧Ch (dt R) w w':=by
 obtain ⟨a0,c0⟩:=h.same hi hp (j:=0) (v:=v0) (by omega) (by rw [hv];rfl) (w':=w.setCell (p.add (i*8)) v0) (by rw [cm])
 obtain ⟨a1,c1⟩:=a0.same hi hp (j:=1) (v:=v1) (by omega) (by rw [hv];rfl) rfl
 obtain ⟨a2,c2⟩:=a1.same hi hp (j:=2) (v:=v2) (by omega) (by rw [hv];rfl) rfl
 obtain ⟨a3,c3⟩:=a2.same hi hp (j:=3) (v:=v3) (by omega) (by rw [hv];rfl) rfl
 obtain ⟨a4,c4⟩:=a3.same hi hp (j:=4) (v:=v4) (by omega) (by rw [hv];rfl) rfl
 obtain ⟨a5,c5⟩:=a4.same hi hp (j:=5) (v:=v5) (by omega) (by rw [hv];rfl) rfl
 obtain ⟨a6,c6⟩:=a5.same hi hp (j:=6) (v:=v6) (by omega) (by rw [hv];rfl) rfl
 have cc:=(((((c0.same c1).same c2).same c3).same c4).same c5).same c6
 have n1:∀ i,i<W.heap.size∨R 2 i→¬ R 1 i:=fun i hd hx=>hd.elim (fun hd=>by have:=h.f 1 i hx;omega) (fun hd=>h.fam.2 2 1 (by omega) i hd hx)
 obtain ⟨R',hC,h2,hg,hm⟩:=a6.put hi hp (q':=q') (N:=ah) (j:=7) (v:=v7) (Ch.refl _ _) e (by omega) (by rw [hv,a7];rfl) (fun i hi=>hi.elim) ((hr.af cc (fun i _ hd=>n1 i hd)).mono (fun i _ hd=>hd.imp (fun x=>x) .inl))
 have s:=cc.size
 have a8:Ch (dt R) w _:=cc.mono (fun i _ hi=>⟨1,by omega,hi⟩)
 exact ⟨R',hC,h2,fun i hi=>(hg i hi).imp (fun x=>x) (fun k=>⟨by have:=k.1;omega,k.2⟩),a8.same hm⟩
theorem Mn {w0 w:World} {b xb T:Nat} {l:List Int} {x:Int} {po:OA} {pc:Nat} {D:Nat→Prop} (hc:Ch ah w0 w) (hb:w0.heap.size≤b) (hO:Own w bd 1 (some ⟨b,0,none⟩) 0 0 [] (·=b)) (hX:ba w xb [.int .i64 x] T) (a5:xb≠b) (a8:w0.heap.size≤xb) (hr:Rd w po (l.map (.int .i64)) D) (hl:l.length≤1000) :
  ∃ (o1:OA) (c1:Nat) (w1:World),(Builtin.append_ #[ay,ay] ay #[.slice (some ⟨b,0,none⟩) 0 0,.slice po l.length pc]).run Tryz.prog w = .ok (.slice o1 l.length c1) w1∧Ch ah w0 w1 ∧
   ∃ (o2:OA) (c2:Nat) (w2:World),(Builtin.append_ #[ay,ay] ay #[.slice o1 l.length c1,.slice (some ⟨xb,0,none⟩) 1 1]).run Tryz.prog w1 = .ok (.slice o2 (l.length+1) c2) w2∧Gr ah w0 w2 bd 1 o2 (l.length+1) c2 ((l++[x]).map (.int .i64)):=by
 have a0:∀ l:List Int,∀ u∈l.map (Value.int .i64),u.oneCell'=true:=fun l u hu=>by
  obtain ⟨_,_,rfl⟩:=List.mem_map.1 hu;rfl
 obtain ⟨o1,c1,w1,r1,a2,a1⟩:=Own.ll (m:=l.length) (c2:=pc) bi hO ay hr (by simp) (a0 l) (by unfold maxLen;omega) (by omega)
 rw [Nat.zero_add] at r1 a2
 have a6:=hX.af a1 a5
 have s0:=hc.size
 have s1:=a1.size
 obtain ⟨o2,c2,w2,r2,a7,a3⟩:=Own.ll (m:=1) (c2:=1) bi a2 ay a6.rd (by simp) (a0 [x]) (by unfold maxLen;omega) (by omega)
 have s2:=a3.size
 have a4:Ch ah w0 w1:=hc.trans a1 (fun i hi he=>by omega)
 refine ⟨o1,c1,w1,r1,a4,o2,c2,w2,r2,?_,a4.trans a3 (fun i hi he=>by
  rcases he with he|he
  ·omega
  ·have:=he.1;omega)⟩
 have a9:=hO.Jw
 rw [List.map_append]
 refine (show Own w2 bd 1 o2 (l.length+1) c2 (l.map (.int .i64)++[x].map (.int .i64)) _ from by simpa using a7).mono (fun i hi he=>⟨?_,hi⟩)
 rcases he with (he|he)|he
 ·omega
 ·have:=he.1;omega
 ·have:=he.1;omega
def Tp:List Value:=[.int .i64 0,.bool false,.bool false,.slice none 0 0,.slice none 0 0]
def SZ (W w1:World) (fb pb xb k:Nat) (B:Int) (md:rY) (tb:Nat) (id:Int) (R0:Nat→Nat→Prop) (i:Nat) (s1:Cu) (w:World):Prop :=
 ∃ (o:OA) (c:Nat) (qs:List FQ) (R:Nat→Nat→Prop) (ao:OA) (ac:Nat) (aq:List (da × di)) (TA:Nat→Prop),CM W w1 w fb pb xb k md tb [.int .i64 id,.bool false,.bool false,.slice none 0 0] R0 s1.ps s1.es s1.aw o c qs R ao ac aq TA∧qs.map (·.2)=s1.rs∧bh.Good k B s1.ps∧s1.es.length≤100∧aq.length+s1.rs.length≤100∧s1.ok=true
set_option maxRecDepth 100000 in
set_option maxHeartbeats 8000000 in
theorem KF (h:pZ W w fb pb xb k md ps es o c qs R) (hg:bh.Good k B ps) (hk:k≤100) (hB:1≤B∧B≤1000000) (hm:∀ v,Md ey (md v)) (yh:md.vm≤2147483647) (c0:qs.map (·.2)=rs) (hI:il ey md k ps es rs) (hR:∀ r∈rs,ez ey md ps r∧jt ey md k r) (h6:es.length≤100) (hn:rs.length≤100) {i:Nat} (hi:i<rs.length)
  {s:Cu} (hs:lz i (es.length+rs.length+1) ⟨ps,es,rs,[],true⟩=s) {cr:Cr} {t:sx} (ht:tI rs[i].ask.id i s=(cr,t)) {m:Nat} (hL:JG ey md i rs cr t m) (hC:sb ey md k cr.ps cr.es cr.rs) :
  Calls Tryz.prog me #[.pointer (some ⟨fb,0,none⟩),.int .i64 i] w (bc (LM W w fb pb xb k md R cr t)):=by
 subst c0
 rw [List.length_map] at hn hi hs
 refine sL.calls _ _ ?_
 unfold Vm.A4 Vm.A5 Vm.A9 Vm.B4 Vm.B7 Vm.Br Vm.C Vm.C2 Vm.C6 Vm.D Vm.D7 Vm.E Vm.E4 Vm.E6 Vm.F2 Vm.F5 Vm.G4 Vm.G6 Vm.H Vm.H0 Vm.H1 Vm.I8 Vm.I9 Vm.J4 Vm.K9 Vm.M Vm.M0 Vm.N3 Vm.O4 Vm.O6 Vm.O7 Vm.P Vm.Q Vm.V Vm.Y Vm.Z;dsimp only
 intro w1 e1
 have c5:ba w1 w.heap.size Tp ie:=ba.new e1
 have r4:Ch ah w w1:=Ch.alloc e1
 have s1:=c5.lt
 have nz:∀ j,¬ R j w.heap.size:=fun j hj=>by have:=h.fam.1 j _ hj;omega
 have nmz:¬ dt R w.heap.size:=fun ⟨j,_,hj⟩=>nz j hj
 have h1:=h.aa r4
 obtain ⟨p,l5,hF,a4⟩:=h1.at hi
 have h0:=a4 ah w1 (Ch.refl _ _) id 0 _ rfl
 rw [cm] at h0
 clear a4
 simp only [Int.toNat_natCast]
 refine ⟨_,_,_,h1.blk.cell 3 rfl,⟨by omega,by omega⟩,?_⟩
 subst l5
 rw [List.getElem_map] at ht
 refine ⟨_,h0,fun w2 e2=>?_⟩
 obtain ⟨a0,l6⟩:∃ a0,qs[i].2.ask=a0:=⟨_,rfl⟩
 have kk:(qs.map (·.2))[i]?=some qs[i].2:=by rw [List.getElem?_map,List.getElem?_eq_getElem hi];rfl
 have z4:=fun hd=>(hL.done hd).2.2.1 _ kk
 rw [l6] at z4
 generalize qs[i].2.ask.id=id at h0 ht
 have h7:ba w2 w1.heap.size Tp ie:=ba.new e2
 have s2:=h7.lt
 refine ⟨⟨h7.ok 0 rfl,h7.ok 1 rfl,h7.ok 2 rfl,h7.ok 3 rfl,h7.ok 4 rfl⟩,fun w3 e3=>?_⟩
 have r5:w3=w2.setCells w1.heap.size 0 [.int .i64 id,.bool false,.bool false,.slice none 0 0,.slice none 0 0]:=e3
 have z5:=h7.all [.int .i64 id,.bool false,.bool false,.slice none 0 0,.slice none 0 0] rfl r5
 have l7:Ch ah w1 w3:=(Ch.alloc (F:=ah) e2).trans (Ch.fr (F:=(·=w1.heap.size)) r5 rfl) (fun i hi he=>by omega)
 have h3:=h1.aa l7
 have r6:W.heap.size≤w1.heap.size:=h1.ch.size
 obtain ⟨tb,z6⟩:∃ n,w1.heap.size=n:=⟨_,rfl⟩
 have ntb:∀ j,¬ R j tb:=fun j hj=>by have:=h.fam.1 j _ hj;omega
 have r7:CM W w1 w3 fb pb xb k md tb [.int .i64 id,.bool false,.bool false,.slice none 0 0] R ps es [] (some p) c qs R none 0 [] ah :=
  ⟨h3,by rw [← z6];exact z5,rfl,Own.nil _ _ _ _,fun i hi=>hi.elim,ntb,fun q hq=>(by cases hq),by omega,fun i hi => .inl hi,fun i hi=>hi,l7.any,fun i hi=>h.Bz i (.inr hi),r6⟩
 rw [z6]
 clear e2 e3 r5 h7 z5 h3
 refine ⟨fun w'=>∃ r:bo,s.rs[i]?=some r∧r.ask=a0∧0<r.aj.length∧r.aj.length≤100∧jt ey md k r∧SZ W w1 fb pb xb k B md tb id R i s w',⟨fun vk w'=>∃ s1:Cu,lz i vk s1=s∧(∀ r,s1.rs[i]?=some r→r.ask=a0)∧i<s1.rs.length∧s1.es.length+s1.rs.length+1≤vk∧il ey md k s1.ps s1.es s1.rs∧(∀ r∈s1.rs,ez ey md s1.ps r∧jt ey md k r)∧SZ W w1 fb pb xb k B md tb id R i s1 w',⟨_,_,hs,fun r hr=>by
  dsimp only at hr
  rw [List.getElem?_map,List.getElem?_eq_getElem hi] at hr
  injection hr with hr
  rw [← hr,l6],by dsimp only;rw [List.length_map];exact hi,by dsimp only;rw [List.length_map];omega,hI,hR,_,_,_,_,_,_,_,_,r7,rfl,hg,h6,by dsimp only;simp;omega,rfl⟩,?_⟩,?_⟩
 ·clear r7 hI hR hs hg h6 hn
  rintro jk vk w4 ⟨s1,hs,q5,k8,hf,hI,hR,o,c,qs,R1,ao,ac,aq,TA,hP,c0,hg,h6,hn,k9⟩
  obtain ⟨f,rfl⟩:∃ f,vk=f+1:=⟨vk-1,by omega⟩
  have z7:qs.length=s1.rs.length:=by rw [← c0,List.length_map]
  have b5:i<qs.length:=by omega
  obtain ⟨r,hr⟩:∃ r,r=s1.rs[i]:=⟨_,rfl⟩
  have g2:s1.rs[i]?=some r:=by rw [hr];exact List.getElem?_eq_getElem k8
  have l8:qs[i].2=r:=by rw [hr];simp only [← c0,List.getElem_map]
  obtain ⟨z8,a3⟩:=hR r (by rw [hr];exact List.getElem_mem k8)
  have i0:=a3.len
  have i0:(r.dg.length:Int)<12:=i0
  have km:=a3.dn
  have kp:=z8.hi
  obtain ⟨p,hp,hF,a4⟩:=hP.cr.at b5
  subst hp
  have nfb:∀ j,j≠0→¬ R1 j fb:=fun j hj hx=>hP.cr.fam.2 0 j (by omega) fb hP.cr.z hx
  have npb:∀ j,j≠1→¬ R1 j p.block:=fun j hj hx=>hP.cr.fam.2 1 j (by omega) _ hF hx
  have d1:=fun w' k=>a4 ah w' k (fun x=>x)
  have r8:IntKind.i64.wrap (4*((r.aj.length:Nat):Int))=((4*r.aj.length:Nat):Int):=by rw [ae (by omega) (by omega)];omega
  refine ⟨fun w'=>Ch ah w4 w',fun w5 e5=>⟨Ch.drew e5,_,_,_,fun w' k=>(hP.cr.aa k).blk.cell 3 rfl,⟨by omega,by omega⟩,_,fun w' k=>d1 w' k 7 _ rfl,_,_,_,fun w' k=>(hP.cr.aa k).blk.cell 3 rfl,⟨by omega,by omega⟩,_,_,_,fun w' k=>d1 w' k 6 _ rfl,?_⟩⟩
  rw [l8,r8]
  have l9:Ch ah w4 w5:=Ch.drew e5
  have q6:=hP.aa l9
  refine ⟨fun z9=>?_,fun q7=>?_⟩
  rotate_left
  ·have q7:r.done≠4*r.aj.length:=fun he=>by rw [he] at q7;simp at q7
   rw [vX g2 q7] at hs
   subst hs
   exact ⟨r,g2,q5 r g2,by have:=z8.lo;omega,by omega,a3,_,_,_,_,_,_,_,_,q6,c0,hg,h6,hn,k9⟩
  have z9:((r.done:Nat):Int)=((4*r.aj.length:Nat):Int):=eq_of_beq z9
  have r9:¬ r.done≠4*r.aj.length:=by omega
  have kq:=a3.ver
  have kv:=fun w' (k:Ch (R1 3) w5 w')=>a4 (R1 3) w' (l9.any.same k) (npb 3 (by omega))
  refine ⟨fun w'=>Ch (R1 3) w5 w',fun kw jb=>⟨Ch.drew jb,_,fun w' k=>(q6.cr.blk.af k (nfb 3 (by omega))).cell 1 rfl,_,_,_,fun w' k=>(q6.cr.blk.af k (nfb 3 (by omega))).cell 3 rfl,⟨by omega,by omega⟩,_,fun w' k=>kv w' k 1 _ rfl,?_⟩⟩
  rw [l8]
  have h8:Ch ah w5 kw:=Ch.drew jb
  have i1:=q6.aa h8
  obtain ⟨D,m0⟩:=i1.cr.x
  refine ab (HC m0.u r.ask.ver) ?_
  rintro v g3 ⟨rfl,m1,i2⟩
  rw [NW] at m1
  rw [OQ]
  have m2:Ch (R1 3) w5 g3:=h8.any.same i2
  obtain ⟨R2,d2,_,s0,s3,s4,_⟩:=i1.cr.sa (N:=ah) (m0.use (m1.mono (fun i _ hi => .inl hi)) i2) (fun i hi=>hi) (fun i hi => .inl hi) (i2.mono (fun i _ hi => .inr hi)) (fun i hi=>hi.elim) (fun i hi=>hi.elim) (fun i hi=>hi.elim)
  have a8:=i1.qW d2 s0 s3 s4
  refine ⟨_,_,rfl,m2,fun hz=>?_,fun hz=>?_⟩
  ·have hz:(gj s1.ps r.ask.ver).2=0:=eq_of_beq hz
   rw [Ad g2 r9 hz] at hs
   generalize (gj s1.ps r.ask.ver).1=x at hs
   obtain ⟨p',l5,yj,d3⟩:=a8.cr.at b5
   injection l5 with l5
   subst l5
   obtain ⟨g,i3⟩:∃ g,qs[i]=(g,r):=⟨qs[i].1,Prod.ext rfl l8⟩
   have i4:=a8.cr.rn _ (List.getElem_mem b5)
   rw [i3] at d3 i4
   have c6:∀ {h9:World} {o2:OA} {c2:Nat},Gr ah g3 h9 bd 1 o2 (r.aj.length+1) c2 ((r.aj++[x]).map (.int .i64))→dr h9 ((p.add (i*8)).add 6)∧∀ s5,s5=h9.setCell ((p.add (i*8)).add 6) (.slice o2 (r.aj.length+1) c2)→∃ r:bo,s.rs[i]?=some r∧r.ask=a0∧0<r.aj.length∧r.aj.length≤100∧jt ey md k r∧SZ W w1 fb pb xb k B md tb id R i s s5:=fun {h9 o2 c2} hG=>by
    obtain ⟨s6,g4⟩:=hG
    refine ⟨?_,fun s5 kx=>?_⟩
    ·rw [add_add]
     exact (a8.cr.aa g4).own.ok (j:=i*8+6) (v := .slice g.po r.aj.length g.pc) (by rw [dp (enc:=pf md) (sz:=8) qs (fun _=>rfl) b5 (by omega),i3];rfl) rfl
    ·have i5:(r.aj++[x]).length=r.aj.length+1:=by simp
     obtain ⟨R3,s7,s8,s9,t0⟩:=a8.cr.put b5 rfl (q':=(⟨g.ap,g.so,g.sc,o2,c2⟩,nk r x)) (N:=db g3 h9) g4 kx (by omega) (by rw [i3];unfold pf nk;rw [i5];rfl) (fun i hi=>hi)
      ⟨(i4.ask.aa g4).mono (fun i _ hi=>hi.imp (fun x=>x) .inl),(i4.sy.aa g4).mono (fun i _ hi=>hi.imp (fun x=>x) .inl),by
       have:=Own.iv (xs:=r.aj++[x]) (by rw [i5];exact s6)
       exact this.mono (fun i _ hi => .inr (.inr hi))⟩
     have t3:=a8.qW s7 s8 s9 t0
     have ky:i<s1.rs.length:=k8
     subst hs
     refine ⟨nk r x,by simp [ky],q5 r g2,by unfold nk;simp,by unfold nk;rw [i5];omega,⟨a3.c,a3.wt,a3.ver,a3.ok,a3.need,a3.sd,a3.sl,a3.sm,a3.dn⟩,_,_,_,_,_,_,_,_,t3,by rw [List.map_set,c0],hg.take hB.1 r.ask.ver,h6,by dsimp only;rw [List.length_set];exact hn,k9⟩
   have d4:∀ w',Ch ah g3 w'→Rd w' g.po (r.aj.map (.int .i64)) (fun i=>i<W.heap.size∨R2 2 i):=fun w' k=>by
    obtain ⟨_,_,he,_,_,hr⟩:=i4.pg.aa k
    injection he with kz _ _
    subst kz;exact hr
   have d5:∀ l:List Int,∀ u∈l.map (Value.int .i64),u.oneCell'=true:=fun l u hu=>by
    obtain ⟨_,_,rfl⟩:=List.mem_map.1 hu;rfl
   refine ⟨fun w'=>Ch ah g3 w',fun l1 g5=>⟨Ch.drew g5,_,_,_,fun w' k=>(a8.cr.aa k).blk.cell 3 rfl,_,_,_,fun w' k=>(a8.cr.aa k).blk.cell 3 rfl,⟨by omega,by omega⟩,_,_,_,fun w' k=>d3 ah w' k (fun x=>x) 6 _ rfl,fun qb m3=>⟨(Ch.drew g5).ag (Ch.alloc m3),?_,?_,trivial⟩,fun t4 m5=>⟨(Ch.drew g5).ag (Ch.alloc m5),fun qd q8=>⟨((Ch.drew g5).ag (Ch.alloc m5)).ag (Ch.alloc q8),?_⟩⟩,trivial⟩⟩
   ·have m6:=Gr.nG (G:=ah) (T:=bd) (sz:=1) (Ch.drew g5) m3
    obtain ⟨qf,qg,qh,jc,g6,_⟩:=m6.HL (m:=r.aj.length) bi ay (c2:=g.pc) (d4 _ m6.2) (by simp) (d5 _) (by omega) (by omega)
    rw [Nat.zero_add] at jc g6
    refine ⟨qf,_,qg,qh,jc,g6.2,fun yk t5=>⟨g6.2.ag (Ch.alloc t5),?_⟩⟩
    have t6:=g6.aa (Ch.alloc t5)
    obtain ⟨jd,jf,h9,qj,d6,_⟩:=t6.HL (m:=1) bi ay (c2:=1) (ba.new t5).rd (by simp) (d5 [x]) (by omega) (by omega)
    have d6:Gr ah g3 h9 bd 1 jd (r.aj.length+1) jf ((r.aj++[x]).map (.int .i64)):=by
     rw [List.map_append];simpa using d6
    exact ⟨jd,_,jf,h9,qj,d6.2,⟨by omega,by omega⟩,(c6 d6).1,(c6 d6).2⟩
   ·intro qk t7
    have t8:=ba.new t7
    have t9:=(Own.made (e:=bd) (sz:=1) (n:=0) (F:=(·=l1.heap.size)) m3 rfl (by decide) rfl).aa (Ch.alloc t7)
    have ym:l1.heap.size<qb.heap.size:=(ba.new m3).lt
    have i6:Ch ah g3 qk:=((Ch.drew g5).ag (Ch.alloc m3)).ag (Ch.alloc t7)
    have qm:g3.heap.size=l1.heap.size:=by subst g5;rfl
    obtain ⟨u0,ey,u1,u2,i7,u3,u4,u5,u6,b8⟩:=Mn (pc:=g.pc) (b:=l1.heap.size) i6 (by omega) t9 t8 (by omega) (by omega) (d4 _ i6) (by omega)
    exact ⟨i6,u0,_,ey,u1,u2,i7,u3,_,u4,u5,u6,b8.2,⟨by omega,by omega⟩,(c6 b8).1,(c6 b8).2⟩
   ·have u7:=(ba.new m5).alloc q8
    have u8:=Own.made (e:=bd) (sz:=1) (n:=0) (F:=(·=t4.heap.size)) q8 rfl (by decide) rfl
    have yp:l1.heap.size<t4.heap.size:=(ba.new m5).lt
    have m7:Ch ah g3 qd:=((Ch.drew g5).ag (Ch.alloc m5)).ag (Ch.alloc q8)
    have qm:g3.heap.size=l1.heap.size:=by subst g5;rfl
    obtain ⟨u0,ey,u1,u2,i7,u3,u4,u5,u6,b8⟩:=Mn (pc:=g.pc) (b:=t4.heap.size) m7 (by omega) u8 u7 (by omega) (by omega) (d4 _ m7) (by omega)
    exact ⟨u0,_,ey,u1,u2,i7,u3,_,u4,u5,u6,b8.2,⟨by omega,by omega⟩,(c6 b8).1,(c6 b8).2⟩
  ·have hz:¬ (gj s1.ps r.ask.ver).2=0:=by simpa using hz
   rw [Jx hz] at a8 d2
   obtain ⟨D14,u9⟩:=d2.x
   have m8:∀ e∈s1.es,mr (sk s1.ps) e.page=true:=fun e he=>by
    rw [DY]
    have h1:=hI.us e.page
    have h2:0<cE s1.es e.page:=List.count_pos_iff.2 (List.mem_map.2 ⟨e,he,rfl⟩)
    exact decide_eq_true (by omega)
   refine ⟨_,d2.blk.cell 2 rfl,ab (Gh u9 (xS hg) (by omega) (by omega) (by omega) m8) ?_⟩
   rintro v yq ⟨rfl,FU,F',D',m9,hU,v0,v1⟩
   rw [Ls,RW] at m9
   rw [Ls]
   obtain ⟨R3,c7,_,v2,v3,v4,_⟩:=d2.sa (N:=ah) m9 hU v0 v1 (fun i hi=>hi.elim) (fun i hi=>hi.elim) (fun i hi=>hi.elim)
   have i8:=a8.qW c7 v2 v3 v4
   refine ⟨_,rfl,fun d7=>?_,fun d7=>?_⟩
   ·have d7:=dQt d7
    rw [wQ g2 r9 hz d7] at hs
    obtain ⟨a1,a2⟩:=hI.Rr d7
    have n0:EK s1.ps s1.es=qM s1.ps s1.es[xt s1.ps s1.es].page:=by unfold EK;rw [List.getElem?_eq_getElem d7]
    rw [← n0] at a1 a2
    have l2:(s1.es.eraseIdx (xt s1.ps s1.es)).length=s1.es.length-1:=by rw [List.length_eraseIdx,if_pos d7]
    exact ⟨f,by omega,_,hs,q5,k8,by dsimp only;rw [l2];omega,a1,fun r hr=>⟨a2 r hr (hR r hr).1,(hR r hr).2⟩,_,_,_,_,_,_,_,_,i8,c0,by dsimp only;rw [n0];exact tZ hg (by omega) _,by dsimp only;rw [l2];omega,hn,k9⟩
   ·have d7:=dQf d7
    obtain ⟨e1,e2⟩:=OV d7
    rw [e1,e2] at i8 c7
    have q9:s1.rs.length-1<s1.rs.length:=by omega
    obtain ⟨y,hy⟩:∃ y,y=s1.rs[s1.rs.length-1]:=⟨_,rfl⟩
    have qp:s1.rs[s1.rs.length-1]?=some y:=by rw [hy];exact List.getElem?_eq_getElem q9
    have jg:(qs[qs.length-1]'(by omega)).2=y:=by rw [hy];simp only [← c0,List.getElem_map,List.length_map]
    rw [Bw g2 r9 hz d7 qp] at hs
    obtain ⟨qq,n1⟩:=hR y (by rw [hy];exact List.getElem_mem q9)
    have jh:(y.dg.length:Int)<12:=n1.len
    have qv:=n1.dn
    have qw:=qq.hi
    have v5:IntKind.i64.wrap (((qs.length:Nat):Int)-1)=((qs.length-1:Nat):Int):=by rw [ae (by omega) (by omega)];omega
    refine ⟨_,_,_,c7.blk.cell 3 rfl,?_⟩
    rw [v5]
    have n2:=c7.rn _ (List.getElem_mem (show qs.length-1<qs.length by omega))
    refine ab (xY c7 hg (by omega) (by omega) (by omega) (i:=qs.length-1) (by omega) (by rw [jg];omega)) ?_
    obtain ⟨gy,v6⟩:∃ g,qs[qs.length-1]'(by omega)=(g,y):=⟨(qs[qs.length-1]'(by omega)).1,Prod.ext rfl jg⟩
    rw [v6] at n2 ⊢
    rintro v jj ⟨rfl,o4,c4,R4,v7,n3,v8,n4⟩
    have v9:=i8.qW v7 n3 v8 n4
    have n5:lk jj (y.ask,gy.ap) (fun i=>i<W.heap.size∨R4 2 i):=(n2.ask.af n4 (fun i _ hi=>c7.Bz i hi)).mono (fun i _ hi=>hi.imp (fun x=>x) (n3 i))
    refine ⟨_,_,_,_,_,_,_,_,_,_,_,_,_,_,_,_,rfl,fun qx jm=>?_⟩
    have b6:ba qx jj.heap.size RO bp:=ba.new jm
    refine ⟨⟨b6.ok 0 rfl,b6.ok 1 rfl,b6.ok 2 rfl,b6.ok 3 rfl,b6.ok 4 rfl,b6.ok 5 rfl,b6.ok 6 rfl,b6.ok 7 rfl⟩,fun yv qy=>?_⟩
    obtain ⟨d8,n6⟩:=Jm (md:=md) (gy,y) jm qy
    have n7:=v9.aa n6
    refine ⟨_,_,_,n7.lx.cell 4 rfl,_,_,_,_,_,_,_,_,_,⟨d8.cell 0 rfl,d8.cell 1 rfl,d8.cell 2 rfl,d8.cell 3 rfl,d8.cell 4 rfl⟩,fun yw qz=>?_⟩
    obtain ⟨jp,jq,vb,vc,n8,jv⟩:=n7.Bk rfl (a:=(y.ask,gy.ap)) (n5.aa n6) (by omega) qz
    refine ⟨jp,_,jq,vb,vc,n8,fun vd vf=>?_⟩
    obtain ⟨TA',i9⟩:=jv vd vf
    clear jv
    have n9:(qs.eraseIdx (qs.length-1)).map (·.2)=s1.rs.eraseIdx (s1.rs.length-1):=by rw [map_eraseIdx,c0,z7]
    refine ⟨fun hl=>?_,fun hl=>?_⟩
    ·have hl:s1.rs.length-1=i:=by have:=eq_of_beq hl;omega
     rw [if_pos hl] at hs
     have vg:tI id i s=(⟨fk s1.ps y.aj,s1.es,s1.rs.eraseIdx (s1.rs.length-1)⟩,⟨id,false,true,[],s1.aw++[y.ask]⟩):=by
      rw [← hs];unfold tI;rw [if_pos rfl]
     rw [vg] at ht
     injection ht with t1 t2
     refine ⟨i9.lx.ok 2 rfl,fun jw vh=>?_⟩
     have a5:CM W w1 jw fb pb xb k md tb [.int .i64 t.id,.bool t.done,.bool t.gave,.slice none t.out.length 0] R cr.ps cr.es t.Bk o4 c4 (qs.eraseIdx (qs.length-1)) R4 jp jq (aq++[(y.ask,gy.ap)]) TA':=by
      rw [← t1,← t2]
      exact i9.set (j:=2) (by show 2<4;decide) vh
     have j0:(qs.eraseIdx (qs.length-1)).map (·.2)=cr.rs:=by rw [← t1];exact n9
     have d9:IV jw (.slice none t.out.length 0) t.out (fun i=>i<W.heap.size∨R4 2 i):=by rw [← t2];exact IV.nil _ _
     refine ⟨_,_,_,_,_,_,_,_,_,⟨a5.lx.cell 0 rfl,a5.lx.cell 1 rfl,a5.lx.cell 2 rfl,a5.lx.cell 3 rfl,a5.lx.cell 4 rfl⟩,⟨(c5.af a5.ch nmz).ok 0 rfl,(c5.af a5.ch nmz).ok 1 rfl,(c5.af a5.ch nmz).ok 2 rfl,(c5.af a5.ch nmz).ok 3 rfl,(c5.af a5.ch nmz).ok 4 rfl⟩,fun w9 e9=>?_⟩
     obtain ⟨e0,j1⟩:=a5.Rv (cr:=cr) (t:=t) j0 d9 h.ch.size r4 c5 rfl (Nat.le_refl _) nz (w3:=w9) e9
     exact ⟨_,_,_,_,_,_,_,_,_,⟨e0.cell 0 rfl,e0.cell 1 rfl,e0.cell 2 rfl,e0.cell 3 rfl,e0.cell 4 rfl⟩,j1⟩
    ·have hl:¬ s1.rs.length-1=i:=fun he=>by
      have:¬ ((qs.length-1:Nat):Int)=(i:Int):=by simpa using hl
      omega
     rw [if_neg hl] at hs
     obtain ⟨a1,a2⟩:=hI.cut q9
     rw [← hy] at a1 a2
     have l2:(s1.rs.eraseIdx (s1.rs.length-1)).length=s1.rs.length-1:=by rw [List.length_eraseIdx,if_pos q9]
     exact ⟨f,by omega,_,hs,fun r hr=>q5 r (by
      dsimp only at hr
      rw [List.getElem?_eraseIdx_of_lt (by omega)] at hr
      exact hr),by dsimp only;rw [l2];omega,by dsimp only;rw [l2];omega,a1,fun r hr=>⟨a2 r hr (hR r (List.mem_of_mem_eraseIdx hr)).1,(hR r (List.mem_of_mem_eraseIdx hr)).2⟩,_,_,_,_,_,_,_,_,i9,n9,su hg (by omega) _,h6,by dsimp only;rw [l2,List.length_append,List.length_singleton];omega,k9⟩
 ·clear r7 hI hR hs hg h6 hn
  rintro jk w0 ⟨r,g2,vj,yx,jx,a3,o,c,qs,R1,ao,ac,aq,TA,hP,c0,hg,h6,hn,k9⟩
  obtain ⟨k8,vp⟩:=List.getElem?_eq_some_iff.1 g2
  have z7:qs.length=s.rs.length:=by rw [← c0,List.length_map]
  have b5:i<qs.length:=by omega
  have l8:qs[i].2=r:=by rw [← vp];simp only [← c0,List.getElem_map]
  obtain ⟨g,i3⟩:∃ g,qs[i]=(g,r):=⟨qs[i].1,Prod.ext rfl l8⟩
  unfold tI at ht
  rw [if_neg (by rw [k9];decide),g2] at ht
  dsimp only at ht
  have i0:(r.dg.length:Int)<12:=a3.len
  have km:=a3.dn
  have yy:r.dg.length=r.ask.ai.length+r.said.length:=by unfold bo.dg;rw [List.length_append]
  obtain ⟨r0,vq,o0,_⟩:=Fg s.ps r
  obtain ⟨p,hp,hF,a4⟩:=hP.cr.at b5
  have i4:=hP.cr.rn _ (List.getElem_mem b5)
  rw [i3] at a4 i4
  subst hp
  have d1:=a4 ah w0 (Ch.refl _ _) (fun x=>x)
  have h0:=d1 0 _ rfl
  rw [cm] at h0
  refine ⟨_,_,_,hP.cr.blk.cell 3 rfl,⟨by omega,by omega⟩,_,_,_,_,_,_,_,_,_,_,_,_,_,_,_,_,⟨h0,d1 1 _ rfl,d1 2 _ rfl,d1 3 _ rfl,d1 4 _ rfl,d1 5 _ rfl,d1 6 _ rfl,d1 7 _ rfl⟩,fun vv w6=>?_⟩
  have a9:ba vv w0.heap.size RO bp:=ba.new w6
  refine ⟨⟨a9.ok 0 rfl,a9.ok 1 rfl,a9.ok 2 rfl,a9.ok 3 rfl,a9.ok 4 rfl,a9.ok 5 rfl,a9.ok 6 rfl,a9.ok 7 rfl⟩,fun o1 jy=>?_⟩
  obtain ⟨e4,e6⟩:=Jm (md:=md) (g,r) w6 jy
  have o3:=e4.lt
  clear w6 jy a9 h0
  obtain ⟨rb,vw⟩:∃ n,w0.heap.size=n:=⟨_,rfl⟩
  rw [vw] at e4 o3 ⊢
  have e7:=hP.aa e6
  have e8:=i4.aa e6
  intro yz vx
  have j2:=Gr.nG (G:=ah) (T:=bd) (sz:=1) (Ch.refl _ o1) vx
  have d5:∀ l:List Int,∀ u∈l.map (Value.int .i64),u.oneCell'=true:=fun l u hu=>by
   obtain ⟨_,_,rfl⟩:=List.mem_map.1 hu;rfl
  have zb:(gk ey md r.ask).length≤1000:=by
   have h1:=a3.ai.2.2.1
   have h2:(gk ey md r.ask).length≤r.ask.most.toNat:=Pz r.ask
   omega
  obtain ⟨d4,_,kp,_⟩:=e8.ask.1
  obtain ⟨vy,vz,xc,jz,g7,_⟩:=j2.HL (m:=r.ask.ai.length) bi ay (c2:=g.ap.pc) (d4.aa j2.2) (by simp) (d5 _) (by omega) (by omega)
  rw [Nat.zero_add] at jz g7
  refine ⟨_,_,_,(e4.aa j2.2).cell 2 rfl,vy,_,vz,xc,jz,_,_,_,(e4.aa g7.2).cell 5 rfl,?_⟩
  obtain ⟨_,_,xd,_,_,w7⟩:=e8.sy
  injection xd with w8 _ _
  subst w8
  obtain ⟨o5,r1,l3,xf,b2,_⟩:=g7.HL (m:=(gk ey md r.ask).length) bi ay (c2:=g.sc) (w7.aa g7.2) (by simp) (d5 _) (by omega) (by omega)
  have b2:Gr ah o1 l3 bd 1 o5 (r.ask.ai.length+(gk ey md r.ask).length) r1 ((r.ask.ai++gk ey md r.ask).map (.int .i64)):=by
   rw [List.map_append];simpa using b2
  have j3:=e4.aa b2.2
  have f0:=e7.aa b2.2
  have v5:IntKind.i64.wrap (((r.aj.length:Nat):Int)-1)=((r.aj.length-1:Nat):Int):=by rw [ae (by omega) (by omega)];omega
  refine ⟨o5,_,r1,l3,xf,_,_,_,j3.cell 6 rfl,_,_,_,j3.cell 6 rfl,?_⟩
  rw [show ({ r with aj:=r.aj }:bo).aj.length=r.aj.length from rfl,v5]
  obtain ⟨_,_,xg,_,_,x0⟩:=e8.pg.aa b2.2
  injection xg with x1 _ _
  subst x1
  have o6:du r=r.aj[r.aj.length-1]'(by omega):=by unfold du;rw [List.getD_eq_getElem?_getD,List.getElem?_eq_getElem (by omega)];rfl
  refine ⟨⟨by omega,by omega⟩,x0.at (j:=((r.aj.length-1:Nat):Int).toNat*1) (v := .int .i64 (du r)) (by rw [o6];simp) fun pp xh=>⟨_,xh,_,f0.cr.blk.cell 1 rfl,?_⟩⟩
  obtain ⟨D47,j4⟩:=f0.cr.x
  refine ab (IG (p:=(.slice none 0 0,.slice none 0 0)) (e:=Ou) (G:=ah) j4.u (fun i hi=>(j4.fu i hi).2) (du r) ⟨nJ.nil _ _,nJ.nil _ _⟩ (fun i hi=>hi.elim) ⟨⟨by simp [Ou],fun xs hx=>by cases hx⟩,⟨by simp [Ou],fun xs hx=>by cases hx⟩⟩) ?_
  rintro v xj ⟨rfl,o7,f3⟩
  rw [QG _ _ (qS s.ps r)] at o7
  obtain ⟨R2,x2,_,x3,o8,x4,o9⟩:=f0.cr.sa (N:=ah) (j4.use (o7.mono (fun i _ hi=>hi.elim (fun x=>x) (fun x=>x.elim))) f3) (fun i hi=>hi) (fun i hi => .inl hi) (f3.mono (fun i _ hi => .inr hi)) (fun i hi=>hi.elim) (fun i hi=>hi.elim) (fun i hi=>hi.elim)
  have x5:=f0.qW x2 x3 o8 x4
  have p0:∀ j,¬ R1 j rb:=fun j hj=>by have:=(hP.cr.lt rb ⟨j,hj⟩).2;omega
  have f4:∀ j,¬ R2 j rb:=fun j hj=>by
   rcases o8 rb ⟨j,hj⟩ with ⟨m,hm⟩|hx
   ·exact p0 m hm
   ·have:=hx.1;have:=b2.2.size;omega
  have j5:=j3.af f3 (p0 3)
  have x6:bh.Good k B (sf s.ps (du r) (qS s.ps r)):=hg.put (by omega) _ _
  refine ⟨_,rfl,_,j5.cell 7 rfl,j5.ok 7 rfl,fun r2 kb=>?_⟩
  have r8:IntKind.i64.wrap (((r.done:Nat):Int)+1)=((r.done+1:Nat):Int):=by rw [ae (by omega) (by omega)];rfl
  have b3:=j5.set kb
  rw [r8] at b3
  have b3:ba r2 rb (pf md (g,{ r with done:=r.done+1 })) bp:=b3
  have j6:Ch (·=rb) xj r2:=Ch.set kb rfl
  have zc:=j6.size
  have zd:=f3.size
  have zf:=b2.2.size
  have x7:(r.ask.ai++gk ey md r.ask).take (r.done+1)=r.dg.take (r.done+1):=by
   have xk:r.said=(gk ey md r.ask).take r.said.length:=a3.sd
   unfold bo.dg
   rw [List.take_append,List.take_append]
   congr 1
   rw [xk,List.take_take]
   congr 1
   have:=a3.le
   omega
  have j7:rb≠tb:=fun he=>by have:=hP.lx.lt;omega
  have x8:¬ TA rb:=fun hx=>by have:=(hP.ta rb hx).2.1;omega
  have x9:w1.heap.size≤rb:=by have:=hP.ch.size;omega
  have f5:=x5.block j6 f4 j7 x8 x9
  have p1:∀ j,j≠0→¬ R2 j fb:=fun j hj hx=>f5.cr.fam.2 0 j (by omega) fb f5.cr.z hx
  refine ⟨fun w'=>∃ R3:Nat→Nat→Prop,CM W w1 w' fb pb xb k md tb [.int .i64 id,.bool false,.bool false,.slice none 0 0] R (ux s.ps s.es r) (xD s.ps s.es r) s.aw (some p) c qs R3 ao ac aq TA∧ba w' rb (pf md (g,{ r with done:=r.done+1 })) bp∧(∀ j,¬ R3 j rb)∧bh.Good k (B+1) (ux s.ps s.es r),⟨_,b3.cell 7 rfl,by decide,?_,?_⟩,?_⟩
  ·intro h4
   have h4:(r.done+1) % 4=0:=by
    have h4:Int.tmod ((r.done+1:Nat):Int) 4=0:=eq_of_beq h4
    rw [Int.tmod_eq_emod_of_nonneg (by omega)] at h4
    omega
   have y0:¬ (R2 4 rb∨R2 3 rb):=fun hx=>hx.elim (f4 4) (f4 3)
   have xm:¬ (R2 4 fb∨R2 3 fb):=fun hx=>hx.elim (p1 4 (by omega)) (p1 3 (by omega))
   have zg:=a3.le
   have xp:=b2.1.2.1
   refine ⟨fun w'=>Ch (fun i=>R2 4 i∨R2 3 i) r2 w',fun kc kd=>⟨Ch.drew kd,_,fun w' k=>(f5.cr.blk.af k xm).cell 2 rfl,_,fun w' k=>(b3.af k y0).cell 1 rfl,_,fun w' k=>(b3.af k y0).cell 7 rfl,⟨by omega,by show ((r.done+1:Nat):Int)≤_;omega⟩,?_⟩⟩
   have f6:Ch ah r2 kc:=Ch.drew kd
   have j8:=f5.aa f6
   obtain ⟨D50,y1⟩:=j8.cr.x
   have kf:∀ i,db o1 l3 i→∀ j,j=3∨j=4→¬ R2 j i:=fun i hi j hj hx=>by
    rcases o9 i ⟨j,hx⟩ with h|h|h|h
    ·obtain ⟨m,hm⟩:=h;have:=(e7.cr.lt i ⟨m,hm⟩).2;have:=hi.1;omega
    ·rcases h with h|h
     ·have:=(e7.cr.lt i ⟨3,h⟩).2;have:=hi.1;omega
     ·have:=h.1;have:=hi.2;omega
    ·have:=(e7.cr.lt i ⟨4,h⟩).2;have:=hi.1;omega
    ·exact h
   have y2:Rd kc (if r1=0 then o5 else o5.map (·.add (0*1))) ((r.dg.take (r.done+1)).map (.int .i64)) (db o1 l3):=by
    have xq:Rd l3 o5 ((r.ask.ai++gk ey md r.ask).map (.int .i64)) (db o1 l3):=b2.1.rd
    have xv:=xq.af f3 (fun i _ hi hx=>by have:=(f0.cr.lt i ⟨3,hx⟩).2;have:=(e7.cr.lt i ⟨3,hx⟩).2;have:=hi.1;omega)
    have xw:=(xv.af j6 (fun i _ hi he=>by have:=hi.1;omega)).aa f6
    have:=xw.slice (c:=r1) (sz:=1) (by rw [List.length_map,List.length_append];omega) 0 (r.done+1)
    rw [← x7]
    simpa [List.map_take] using this
   have p2:(r.dg.take (r.done+1)).length=r.done+1:=by rw [List.length_take];omega
   have xx:((r.done+1:Nat):Int).toNat-0=(r.dg.take (r.done+1)).length:=by rw [p2];omega
   show Calls _ _ #[_,_,_,.slice _ (((r.done+1:Nat):Int).toNat-0) _] _ _
   rw [xx]
   refine ab (LF y1 (xS x6) (by omega) (by omega) (by omega) y2 (fun i hi=>⟨kf i hi 4 (.inr rfl),kf i hi 3 (.inl rfl)⟩) (by rw [p2];omega) (du r) r.ask.ver) ?_
   rintro v zh ⟨rfl,FU,F',D',p3,hU,v0,j9⟩
   rw [Qj,QA] at p3
   obtain ⟨R3,y3,_,y4,p4,y5,kg⟩:=j8.cr.sa (N:=ah) p3 hU v0 j9 (fun i hi=>hi.elim) (fun i hi=>hi.elim) (fun i hi=>hi.elim)
   have y6:=j8.qW y3 y4 p4 y5
   have f7:ux s.ps s.es r=ul (sf s.ps (du r) (qS s.ps r)) s.es (du r) r.ask.ver (r.dg.take (r.done+1)):=by unfold ux;rw [if_pos h4]
   have f8:xD s.ps s.es r=zN (sf s.ps (du r) (qS s.ps r)) s.es (du r) r.ask.ver (r.dg.take (r.done+1)):=by unfold xD;rw [if_pos h4]
   rw [f7,f8]
   refine ⟨_,rfl,f6.any.same j9,R3,y6,(b3.aa f6).af j9 y0,fun j hj=>?_,Mo x6 (by omega) _ _ _⟩
   rcases p4 rb ⟨j,hj⟩ with ⟨m,hm⟩|hx
   ·exact f4 m hm
   ·have:=hx.1;have:=b3.lt;have:=f6.size;omega
  ·intro h4
   have h4:¬ (r.done+1) % 4=0:=fun zj=>by
    have h4:¬ Int.tmod ((r.done+1:Nat):Int) 4=0:=by simpa using h4
    rw [Int.tmod_eq_emod_of_nonneg (by omega)] at h4
    omega
   have f7:ux s.ps s.es r=sf s.ps (du r) (qS s.ps r):=by unfold ux;rw [if_neg h4]
   have f8:xD s.ps s.es r=s.es:=by unfold xD;rw [if_neg h4]
   rw [f7,f8]
   exact ⟨R2,f5,b3,f4,x6.le (by omega)⟩
  rintro jk y7 ⟨R3,k0,a7,p5,p6⟩
  have g8:∀ j,j<8→∀ w',Ch ah y7 w'→dr w' ((p.add (i*8)).add j):=fun j hj w' k=>by
   rw [add_add]
   exact (k0.cr.aa k).own.ok (j:=i*8+j) (v:=(pf md qs[i])[j]'(by rw [OD];exact hj)) (by rw [dp (enc:=pf md) (sz:=8) qs (fun _=>rfl) b5 hj];exact List.getElem?_eq_getElem _) rfl
  refine ⟨fun w'=>Ch ah y7 w',fun c8 kh=>⟨Ch.drew kh,_,_,_,fun w' k=>(k0.cr.aa k).blk.cell 3 rfl,_,_,_,_,_,_,_,_,_,_,_,_,_,_,_,_,⟨fun w' k=>(a7.aa k).cell 0 rfl,fun w' k=>(a7.aa k).cell 1 rfl,fun w' k=>(a7.aa k).cell 2 rfl,fun w' k=>(a7.aa k).cell 3 rfl,fun w' k=>(a7.aa k).cell 4 rfl,fun w' k=>(a7.aa k).cell 5 rfl,fun w' k=>(a7.aa k).cell 6 rfl,fun w' k=>(a7.aa k).cell 7 rfl⟩,⟨by omega,by omega⟩,?_⟩⟩
  have a6:Ch ah y7 c8:=Ch.drew kh
  have y8:=g8 0 (by omega) c8 a6
  rw [cm] at y8
  refine ⟨⟨y8,g8 1 (by omega) c8 a6,g8 2 (by omega) c8 a6,g8 3 (by omega) c8 a6,g8 4 (by omega) c8 a6,g8 5 (by omega) c8 a6,g8 6 (by omega) c8 a6,g8 7 (by omega) c8 a6⟩,fun zk kj=>?_⟩
  have k1:=k0.aa a6
  have xy:pf md (g,lh s.ps r)=pf md (g,{ r with done:=r.done+1 }):=by unfold pf;rw [o0,r0,vq]
  have b9:=k1.cr.rn _ (List.getElem_mem b5)
  rw [i3] at b9
  have xz:Kf c8 md (g,lh s.ps r) (fun i=>i<W.heap.size∨R3 2 i):=⟨by show lk c8 ((lh s.ps r).ask,g.ap) _;rw [o0];exact b9.ask,by show IV c8 (.slice g.so (gk ey md (lh s.ps r).ask).length g.sc) (gk ey md (lh s.ps r).ask) _;rw [o0];exact b9.sy,by show IV c8 (.slice g.po (lh s.ps r).aj.length g.pc) (lh s.ps r).aj _;rw [r0];exact b9.pg⟩
  obtain ⟨R5,y9,z0,p7,p8⟩:=k1.cr.Tj b5 rfl (q':=(g,lh s.ps r)) (by rw [i3];rfl) (by rw [xy];rfl) xz kj
  have c9:=k1.qW y9 z0 p7 p8
  have p9:¬ dt R3 rb:=fun ⟨j,_,hj⟩=>p5 j hj
  have d0:=(a7.aa a6).af p8 p9
  have yb:∀ j,¬ R5 j rb:=fun j hj=>by
   rcases p7 rb ⟨j,hj⟩ with ⟨m,hm⟩|hx
   ·exact p5 m hm
   ·have:=hx.1;have:=a7.lt;have:=a6.size;omega
  have g9:(qs.set i (g,lh s.ps r)).map (·.2)=s.rs.set i (lh s.ps r):=by rw [List.map_set,c0]
  clear kj g8 y8
  have yc:IntKind.i64.wrap (((r.done+1:Nat):Int)-(r.ask.ai.length:Int))=((r.done+1:Nat):Int)-r.ask.ai.length:=ae (by omega) (by omega)
  have yd:IntKind.i64.wrap (((r.done+1:Nat):Int)-(r.ask.ai.length:Int)+1)=(r.done:Int)+2-r.ask.ai.length:=by rw [ae (by omega) (by omega)];omega
  have l4:IntKind.i64.wrap (IntKind.i64.wrap (((r.done+1:Nat):Int)-(r.ask.ai.length:Int))+1)=(r.done:Int)+2-r.ask.ai.length:=by rw [yc,yd]
  have yf:BQ s.ps r=false→jt ey md k (lh s.ps r):=fun hb=>by
   rw [hb,if_neg (by decide)] at ht
   injection ht with t1 t2
   refine (hC.run (lh s.ps r) ?_).2.1
   rw [← t1]
   exact List.mem_set k8 _
  have q2:BQ s.ps r=true→(lh s.ps r).said=gk ey md r.ask:=fun hb=>by
   rw [if_pos hb] at ht
   injection ht with t1 t2
   have:=z4 (by rw [← t2])
   rw [← t2] at this
   rw [vj];exact this
  have r3:=Nq a3 yf q2
  refine ⟨_,d0.cell 7 rfl,_,_,_,d0.cell 2 rfl,fun w'=>∃ (oo:OA) (oc:Nat) (o4:OA) (c4:Nat) (z1:List FQ) (R4:Nat→Nat→Prop),CM W w1 w' fb pb xb k md tb [.int .i64 t.id,.bool t.done,.bool t.gave,.slice oo t.out.length oc] R cr.ps cr.es t.Bk o4 c4 z1 R4 ao ac aq TA∧z1.map (·.2)=cr.rs∧IV w' (.slice oo t.out.length oc) t.out (fun i=>i<W.heap.size∨R4 2 i),⟨fun h1=>?_,fun h1=>?_⟩,?_⟩
  ·have h1:1≤(r.done:Int)+2-r.ask.ai.length:=by rw [← l4];exact dQt h1
   refine ⟨_,_,_,d0.cell 5 rfl,fun h2=>?_,fun h2=>⟨_,d0.cell 3 rfl,fun h3=>?_,fun h3=>?_⟩⟩
   ·have h2:(r.done:Int)+2-r.ask.ai.length>(gk ey md r.ask).length:=by rw [← l4];exact dQt h2
    have hb:=r3.2 ⟨h1,.inl h2⟩
    rw [if_pos hb] at ht
    injection ht with t1 t2
    refine ⟨c9.lx.ok 1 rfl,fun yg q3=>?_⟩
    have f9:=c9.set (j:=1) (by show 1<4;decide) q3
    have k2:=d0.af (Ch.set (F:=(·=tb)) q3 rfl) (fun he=>j7 he)
    refine ⟨_,_,_,k2.cell 5 rfl,f9.lx.ok 3 rfl,fun z2 z3=>?_⟩
    have b4:=f9.set (j:=3) (by show 3<4;decide) z3
    have k3:(qs.set i (g,lh s.ps r)).length=qs.length:=List.length_set
    have k4:(qs.set i (g,lh s.ps r))[i]'(by rw [k3];exact b5)=(g,lh s.ps r):=List.getElem_set_self _
    have b7:=b4.cr.rn _ (List.getElem_mem (show i<(qs.set i (g,lh s.ps r)).length by rw [k3];exact b5))
    rw [k4] at b7
    refine ab (xY b4.cr p6 (by omega) (by omega) (by omega) (i:=i) (by rw [k3];exact b5) (by rw [k4];show (lh s.ps r).aj.length≤1000;rw [r0];omega)) ?_
    rw [k4]
    rintro v q4 ⟨rfl,o4,c4,R6,k5,g0,k6,g1⟩
    have k7:=b4.qW k5 g0 k6 g1
    refine ⟨_,_,_,_,_,_,_,_,_,_,_,_,_,_,_,_,rfl,g.so,g.sc,o4,c4,(qs.set i (g,lh s.ps r)).eraseIdx i,R6,?_,?_,?_⟩
    ·rw [← t1,← t2]
     show CM W w1 q4 fb pb xb k md tb [.int .i64 _,.bool true,.bool false,.slice g.so (lh s.ps r).said.length g.sc] R _ _ _ o4 c4 _ R6 ao ac aq TA
     rw [q2 hb]
     exact k7
    ·rw [← t1,map_eraseIdx,g9];rfl
    ·rw [← t2]
     show IV q4 (.slice g.so (lh s.ps r).said.length g.sc) (lh s.ps r).said _
     rw [q2 hb]
     have h5:=b7.sy
     have h5:IV z2 (.slice g.so (gk ey md (lh s.ps r).ask).length g.sc) (gk ey md (lh s.ps r).ask) (fun i=>i<W.heap.size∨R5 2 i):=h5
     rw [o0] at h5
     exact (h5.af g1 (fun i _ hd=>b4.cr.Bz i hd)).mono (fun i _ hd=>hd.imp (fun x=>x) (g0 i))
   ·have h3:(r.done:Int)+2-r.ask.ai.length=r.ask.most:=by rw [← l4];exact eq_of_beq h3
    have hb:=r3.2 ⟨h1,.inr h3⟩
    rw [if_pos hb] at ht
    injection ht with t1 t2
    refine ⟨c9.lx.ok 1 rfl,fun yg q3=>?_⟩
    have f9:=c9.set (j:=1) (by show 1<4;decide) q3
    have k2:=d0.af (Ch.set (F:=(·=tb)) q3 rfl) (fun he=>j7 he)
    refine ⟨_,_,_,k2.cell 5 rfl,f9.lx.ok 3 rfl,fun z2 z3=>?_⟩
    have b4:=f9.set (j:=3) (by show 3<4;decide) z3
    have k3:(qs.set i (g,lh s.ps r)).length=qs.length:=List.length_set
    have k4:(qs.set i (g,lh s.ps r))[i]'(by rw [k3];exact b5)=(g,lh s.ps r):=List.getElem_set_self _
    have b7:=b4.cr.rn _ (List.getElem_mem (show i<(qs.set i (g,lh s.ps r)).length by rw [k3];exact b5))
    rw [k4] at b7
    refine ab (xY b4.cr p6 (by omega) (by omega) (by omega) (i:=i) (by rw [k3];exact b5) (by rw [k4];show (lh s.ps r).aj.length≤1000;rw [r0];omega)) ?_
    rw [k4]
    rintro v q4 ⟨rfl,o4,c4,R6,k5,g0,k6,g1⟩
    have k7:=b4.qW k5 g0 k6 g1
    refine ⟨_,_,_,_,_,_,_,_,_,_,_,_,_,_,_,_,rfl,g.so,g.sc,o4,c4,(qs.set i (g,lh s.ps r)).eraseIdx i,R6,?_,?_,?_⟩
    ·rw [← t1,← t2]
     show CM W w1 q4 fb pb xb k md tb [.int .i64 _,.bool true,.bool false,.slice g.so (lh s.ps r).said.length g.sc] R _ _ _ o4 c4 _ R6 ao ac aq TA
     rw [q2 hb]
     exact k7
    ·rw [← t1,map_eraseIdx,g9];rfl
    ·rw [← t2]
     show IV q4 (.slice g.so (lh s.ps r).said.length g.sc) (lh s.ps r).said _
     rw [q2 hb]
     have h5:=b7.sy
     have h5:IV z2 (.slice g.so (gk ey md (lh s.ps r).ask).length g.sc) (gk ey md (lh s.ps r).ask) (fun i=>i<W.heap.size∨R5 2 i):=h5
     rw [o0] at h5
     exact (h5.af g1 (fun i _ hd=>b4.cr.Bz i hd)).mono (fun i _ hd=>hd.imp (fun x=>x) (g0 i))
   ·have hb:BQ s.ps r=false:=by
     cases hb:BQ s.ps r with
     | false=>rfl
     | true =>
      obtain ⟨_,hx⟩:=r3.1 hb
      have h2:¬ ((r.done:Int)+2-r.ask.ai.length>(gk ey md r.ask).length):=by rw [← l4];exact dQf h2
      have h3:¬ (r.done:Int)+2-r.ask.ai.length=r.ask.most:=by rw [← l4];intro he;rw [show (IntKind.i64.wrap (IntKind.i64.wrap (((r.done+1:Nat):Int)-(r.ask.ai.length:Int))+1)==r.ask.most)=true from by rw [he];exact beq_self_eq_true _] at h3;cases h3
      rcases hx with hx|hx
      ·exact absurd hx h2
      ·exact absurd hx h3
    rw [hb,if_neg (by decide)] at ht
    injection ht with t1 t2
    refine ⟨none,0,some p,c,_,R5,?_,by rw [← t1];exact g9,by rw [← t2];exact IV.nil _ _⟩
    rw [← t1,← t2]
    exact c9
  ·have hb:BQ s.ps r=false:=by
    cases hb:BQ s.ps r with
    | false=>rfl
    | true =>
     obtain ⟨hx,_⟩:=r3.1 hb
     have h1:¬ ((r.done:Int)+2-r.ask.ai.length≥1):=by rw [← l4];exact dQf h1
     exact absurd hx h1
   rw [hb,if_neg (by decide)] at ht
   injection ht with t1 t2
   refine ⟨none,0,some p,c,_,R5,?_,by rw [← t1];exact g9,by rw [← t2];exact IV.nil _ _⟩
   rw [← t1,← t2]
   exact c9
  ·rintro jk zm ⟨oo,oc,o4,c4,z1,R4,a5,j0,d9⟩
   refine ⟨_,_,_,_,_,_,_,_,_,⟨a5.lx.cell 0 rfl,a5.lx.cell 1 rfl,a5.lx.cell 2 rfl,a5.lx.cell 3 rfl,a5.lx.cell 4 rfl⟩,⟨(c5.af a5.ch nmz).ok 0 rfl,(c5.af a5.ch nmz).ok 1 rfl,(c5.af a5.ch nmz).ok 2 rfl,(c5.af a5.ch nmz).ok 3 rfl,(c5.af a5.ch nmz).ok 4 rfl⟩,fun w9 e9=>?_⟩
   obtain ⟨e0,j1⟩:=a5.Rv (cr:=cr) (t:=t) j0 d9 h.ch.size r4 c5 rfl (Nat.le_refl _) nz (w3:=w9) e9
   exact ⟨_,_,_,_,_,_,_,_,_,⟨e0.cell 0 rfl,e0.cell 1 rfl,e0.cell 2 rfl,e0.cell 3 rfl,e0.cell 4 rfl⟩,j1⟩
end
end Go.Proofs.YtkbikekbaboclaaGreat.fo
