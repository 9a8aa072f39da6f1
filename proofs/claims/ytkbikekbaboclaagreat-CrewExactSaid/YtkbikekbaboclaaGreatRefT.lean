import Derived.Test.YtkbikekbaboclaaGreatRefS
import Derived.Test.YtkbikekbaboclaaGreatPkS
set_option linter.unusedVariables false
set_option linter.unusedSimpArgs false
namespace Go.Proofs.YtkbikekbaboclaaGreat.Nb
open Go Go.Proofs V Vc fv ee qX qn PI Go.RowKit
structure IC (W w:World) (eb:Nat) (Ks Vs:List (List Int)) (A B:Nat→Prop):Prop where
 ex:∃ (oK:OA) (cK:Nat) (uK:List Value) (oV:OA) (cV:Nat) (uV:List Value),
  ba w eb [.slice oK Ks.length cK,.slice oV Vs.length cV] az ∧
  V.Own w ay 1 oK Ks.length cK uK A∧df (fun u xs=>IV w u xs (RR W w eb A B)) uK Ks∧V.Own w ay 1 oV Vs.length cV uV B∧df (fun u xs=>IV w u xs (RR W w eb A B)) uV Vs
 a:∀ i,A i→db W w i∧i≠eb∧¬ B i
 b:∀ i,B i→db W w i∧i≠eb
 n:W.heap.size≤eb∧eb<w.heap.size
 ch:Ch ah W w
structure KV (W w:World) (kA:OA) (kC:Nat) (kss:List (List Int)) (vA:OA) (vC:Nat) (vss:List (List Int)) (AK AV:Nat→Prop):Prop where
 k:∃ ku,V.Own w ay 1 kA kss.length kC ku AK∧df (fun u xs=>IV W u xs (fun _=>True)) ku kss
 v:∃ vu,V.Own w ay 1 vA vss.length vC vu AV∧df (fun u xs=>IV W u xs (fun _=>True)) vu vss
 ka:∀ i,AK i→db W w i∧¬ AV i
 va:∀ i,AV i→db W w i
 ch:Ch ah W w
section
variable {W w w':World} {eb:Nat} {Ks Vs kss vss:List (List Int)} {A B AK AV F:Nat→Prop} {u:Value} {r:List Int} {kA vA:OA} {kC vC:Nat} {c:ep} {wt:ByteArray}
theorem IC.aa (h:IC W w eb Ks Vs A B) (hc:Ch ah w w'):IC W w' eb Ks Vs A B:=by
 obtain ⟨⟨oK,cK,uK,oV,cV,uV,h1,h3,h4,h5,h6⟩,ha,hb,hn,a0⟩:=h
 have hs:=hc.size
 have hR:∀ i,i<w.heap.size→RR W w eb A B i→RR W w' eb A B i:=fun i hi h=>RR.le hs (fun _ h => .inl h) (fun _ h => .inl h) hi h
 exact ⟨⟨oK,cK,uK,oV,cV,uV,h1.aa hc,h3.aa hc,df.iv h4 hc (fun _ _ _=>id) hR,h5.aa hc,df.iv h6 hc (fun _ _ _=>id) hR⟩,
  fun i hi=>⟨⟨(ha i hi).1.1,by have:=(ha i hi).1.2;omega⟩,(ha i hi).2⟩,fun i hi=>⟨⟨(hb i hi).1.1,by have:=(hb i hi).1.2;omega⟩,(hb i hi).2⟩,⟨hn.1,by omega⟩,a0.ag hc⟩
theorem IC.IZ (h:IC W w eb Ks Vs A B) (hu:IV w u r (RR W w eb A B)) (hl:Ks.length≤1000) {oX:OA} {nX cX:Nat} {ov:Value} (a6:ba w eb [.slice oX nX cX,ov] az) {w1:World} (e1:w1=w.alloc (.cells #[u] ay (0,0))) :
  ∃ (o':OA) (c':Nat) (w':World),(Builtin.append_ #[bq,bq] bq #[.slice oX nX cX,.slice (some ⟨w.heap.size,0,none⟩) 1 1]).run Tryz.prog w1 = .ok (.slice o' (Ks.length+1) c') w'∧Ch A w w'∧ba w' eb [.slice oX nX cX,ov] az ∧
   ∀ w'',w''=w'.setCell ⟨eb,0,none⟩ (.slice o' (Ks.length+1) c')→∃ X',IC W w'' eb (Ks++[r]) Vs X' B∧Ch (fun i=>A i∨i=eb) w w''∧(∀ i,X' i→A i∨w.heap.size≤i):=by
 obtain ⟨⟨oK0,cK0,uK,oV0,cV0,uV,h1,h3,h4,h5,h6⟩,ha,hb,hn,a2⟩:=h
 have he:(Obj.cells #[.slice oK0 Ks.length cK0,.slice oV0 Vs.length cV0] az (0,0)) = .cells #[.slice oX nX cX,ov] az (0,0):=Option.some.inj (h1.symm.trans a6)
 injection he with he
 have he:=congrArg Array.toList he
 simp only [List.cons.injEq,Value.slice.injEq,and_true,true_and] at he
 obtain ⟨⟨rfl,rfl,rfl⟩,rfl⟩:=he
 obtain ⟨o',c',w',hr,hO,hc⟩:=V.Own.push ia h3 bq e1 rfl (by simp [IV.one hu]) (by unfold maxLen;omega) (by omega)
 have a3:¬ A eb:=fun k=>(ha _ k).2.1 rfl
 have a4:=h1.af hc a3
 refine ⟨o',c',w',hr,hc,a4,fun w2 e2=>?_⟩
 have a7:=a4.set e2
 have a5:Ch (·=eb) w' w2:=Ch.set e2 rfl
 have b6:w2.heap.size=w'.heap.size:=by subst e2;simp [World.setCell]
 have hs:=hc.size
 have b7:=a2.size
 have b8:=hn.2
 have a0:Ch (fun i=>A i∨i=eb) w w2:=(hc.mono (fun i _ h => .inl h)).same (a5.mono (fun i _ h => .inr h))
 have a8:∀ i,A i→db W w i:=fun i h=>(ha i h).1
 have a9:Ch ah W w2:=a2.trans a0 (fun i hi h=>by
  rcases h with h|h
  ·have:=(a8 i h).1;omega
  ·have:=hn.1;omega)
 have hR:∀ i,i<w.heap.size→RR W w eb A B i→RR W w2 eb (Ext A w w') B i:=fun i hi h=>RR.le (by omega) (fun i h=>by
  rcases h with h|h
  ·exact .inl h
  ·exact .inr ⟨h.1,by have:=h.2;omega⟩) (fun _ h => .inl h) hi h
 have a1:∀ i,i<w.heap.size→RR W w eb A B i→¬ (A i∨i=eb):=fun i hi h k=>k.elim h.2.2.1 h.2.1
 have b2:=df.iv h4 a0 a1 hR
 have b3:=df.iv h6 a0 a1 hR
 have b4:IV w2 u r (RR W w2 eb (Ext A w w') B):=((hu.mono (fun i hi h=>(⟨hR i hi h,h⟩:_∧RR W w eb A B i))).af a0 (fun i hi h=>a1 i hi h.2)).mono (fun i _ h=>h.1)
 have b5:V.Own w2 ay 1 o' (Ks.length+1) c' (uK++[u]) (Ext A w w'):=hO.af a5 (fun i _ h k=>by
  rcases h with h|h
  ·exact a3 (k▸h)
  ·have:=h.1;omega)
 refine ⟨Ext A w w',⟨⟨_,_,_,_,_,_,?_,by rw [List.length_append];exact b5,b2.snoc b4,h5.af a0 (fun i _ h k=>by
  rcases k with k|k
  ·exact (ha i k).2.2 h
  ·exact (hb i h).2 k),b3⟩,?_,?_,⟨hn.1,by omega⟩,a9⟩,a0,fun i hi=>hi.imp id (fun h=>h.1)⟩
 ·rw [List.length_append];exact a7
 ·intro i hi
  rcases hi with hi|hi
  ·exact ⟨⟨(ha i hi).1.1,by have:=(ha i hi).1.2;omega⟩,(ha i hi).2⟩
  ·exact ⟨⟨by have:=hi.1;omega,by have:=hi.2;omega⟩,by have:=hi.1;omega,fun k=>by have:=(hb i k).1.2;have:=hi.1;omega⟩
 ·intro i hi
  exact ⟨⟨(hb i hi).1.1,by have:=(hb i hi).1.2;omega⟩,(hb i hi).2⟩
theorem IC.JV (h:IC W w eb Ks Vs A B) (hu:IV w u r (RR W w eb A B)) (hl:Vs.length≤1000) {oX:OA} {nX cX:Nat} {ov:Value} (a6:ba w eb [ov,.slice oX nX cX] az) {w1:World} (e1:w1=w.alloc (.cells #[u] ay (0,0))) :
  ∃ (o':OA) (c':Nat) (w':World),(Builtin.append_ #[bq,bq] bq #[.slice oX nX cX,.slice (some ⟨w.heap.size,0,none⟩) 1 1]).run Tryz.prog w1 = .ok (.slice o' (Vs.length+1) c') w'∧Ch B w w'∧ba w' eb [ov,.slice oX nX cX] az ∧
   ∀ w'',w''=w'.setCell ⟨eb,1,none⟩ (.slice o' (Vs.length+1) c')→∃ X',IC W w'' eb Ks (Vs++[r]) A X'∧Ch (fun i=>B i∨i=eb) w w''∧(∀ i,X' i→B i∨w.heap.size≤i):=by
 obtain ⟨⟨oK0,cK0,uK,oV0,cV0,uV,h1,h3,h4,h5,h6⟩,ha,hb,hn,a2⟩:=h
 have he:(Obj.cells #[.slice oK0 Ks.length cK0,.slice oV0 Vs.length cV0] az (0,0)) = .cells #[ov,.slice oX nX cX] az (0,0):=Option.some.inj (h1.symm.trans a6)
 injection he with he
 have he:=congrArg Array.toList he
 simp only [List.cons.injEq,Value.slice.injEq,and_true,true_and] at he
 obtain ⟨rfl,rfl,rfl,rfl⟩:=he
 obtain ⟨o',c',w',hr,hO,hc⟩:=V.Own.push ia h5 bq e1 rfl (by simp [IV.one hu]) (by unfold maxLen;omega) (by omega)
 have a3:¬ B eb:=fun k=>(hb _ k).2 rfl
 have a4:=h1.af hc a3
 refine ⟨o',c',w',hr,hc,a4,fun w2 e2=>?_⟩
 have a7:=a4.set e2
 have a5:Ch (·=eb) w' w2:=Ch.set e2 rfl
 have b6:w2.heap.size=w'.heap.size:=by subst e2;simp [World.setCell]
 have hs:=hc.size
 have b7:=a2.size
 have b8:=hn.2
 have a0:Ch (fun i=>B i∨i=eb) w w2:=(hc.mono (fun i _ h => .inl h)).same (a5.mono (fun i _ h => .inr h))
 have a8:∀ i,B i→db W w i:=fun i h=>(hb i h).1
 have a9:Ch ah W w2:=a2.trans a0 (fun i hi h=>by
  rcases h with h|h
  ·have:=(a8 i h).1;omega
  ·have:=hn.1;omega)
 have hR:∀ i,i<w.heap.size→RR W w eb A B i→RR W w2 eb A (Ext B w w') i:=fun i hi h=>RR.le (by omega) (fun _ h => .inl h) (fun i h=>by
  rcases h with h|h
  ·exact .inl h
  ·exact .inr ⟨h.1,by have:=h.2;omega⟩) hi h
 have a1:∀ i,i<w.heap.size→RR W w eb A B i→¬ (B i∨i=eb):=fun i hi h k=>k.elim h.2.2.2 h.2.1
 have b2:=df.iv h4 a0 a1 hR
 have b3:=df.iv h6 a0 a1 hR
 have b4:IV w2 u r (RR W w2 eb A (Ext B w w')):=((hu.mono (fun i hi h=>(⟨hR i hi h,h⟩:_∧RR W w eb A B i))).af a0 (fun i hi h=>a1 i hi h.2)).mono (fun i _ h=>h.1)
 have b5:V.Own w2 ay 1 o' (Vs.length+1) c' (uV++[u]) (Ext B w w'):=hO.af a5 (fun i _ h k=>by
  rcases h with h|h
  ·exact a3 (k▸h)
  ·have:=h.1;omega)
 refine ⟨Ext B w w',⟨⟨_,_,_,_,_,_,?_,h3.af a0 (fun i _ h k=>by
  rcases k with k|k
  ·exact (ha i h).2.2 k
  ·exact (ha i h).2.1 k),b2,by rw [List.length_append];exact b5,b3.snoc b4⟩,?_,?_,⟨hn.1,by omega⟩,a9⟩,a0,fun i hi=>hi.imp id (fun h=>h.1)⟩
 ·rw [List.length_append];exact a7
 ·intro i hi
  exact ⟨⟨(ha i hi).1.1,by have:=(ha i hi).1.2;omega⟩,(ha i hi).2.1,fun k=>by
   rcases k with k|k
   ·exact (ha i hi).2.2 k
   ·have:=(ha i hi).1.2;have:=k.1;omega⟩
 ·intro i hi
  rcases hi with hi|hi
  ·exact ⟨⟨(hb i hi).1.1,by have:=(hb i hi).1.2;omega⟩,(hb i hi).2⟩
  ·exact ⟨⟨by have:=hi.1;omega,by have:=hi.2;omega⟩,by have:=hi.1;omega⟩
theorem KV.aa (h:KV W w kA kC kss vA vC vss AK AV) (hc:Ch ah w w'):KV W w' kA kC kss vA vC vss AK AV:=by
 obtain ⟨⟨ku,a0,a1⟩,⟨vu,a2,a3⟩,ha,hb,a4⟩:=h
 have hs:=hc.size
 exact ⟨⟨ku,a0.aa hc,a1⟩,⟨vu,a2.aa hc,a3⟩,fun i hi=>⟨⟨(ha i hi).1.1,by have:=(ha i hi).1.2;omega⟩,(ha i hi).2⟩,fun i hi=>⟨(hb i hi).1,by have:=(hb i hi).2;omega⟩,a4.ag hc⟩
theorem KV.rv (h:KV W w kA kC kss vA vC vss AK AV):RV w (.slice kA kss.length kC) kss (fun _=>True)∧RV w (.slice vA vss.length vC) vss (fun _=>True):=by
 obtain ⟨⟨ku,a0,a3⟩,⟨vu,a1,a4⟩,ha,hb,a2⟩:=h
 exact ⟨⟨_,_,_,rfl,a0.2.1,a0.2.2.1,a0.rd.mono (fun _ _ _=>trivial),a3.imp fun u xs k=>k.aa a2⟩,⟨_,_,_,rfl,a1.2.1,a1.2.2.1,a1.rd.mono (fun _ _ _=>trivial),a4.imp fun u xs k=>k.aa a2⟩⟩
theorem KV.IZ (h:KV W w kA kC kss vA vC vss AK AV) (hr:IV W u r (fun _=>True)) {g:Nat} (hg:ba w g [u] ay) (hn:kss.length≤1000) :
  ∃ (o':OA) (c':Nat) (w':World),(Builtin.append_ #[bq,bq] bq #[.slice kA kss.length kC,.slice (some ⟨g,0,none⟩) 1 1]).run Tryz.prog w = .ok (.slice o' (kss.length+1) c') w'∧KV W w' o' c' (kss++[r]) vA vC vss (Ext AK w w') AV∧Ch AK w w':=by
 obtain ⟨⟨ku,a1,a2⟩,⟨vu,a3,a4⟩,ha,hb,a0⟩:=h
 obtain ⟨o',c',w',a5,hO,hc⟩:=a1.Dq ia bq (m:=1) (mc:=1) (ad:=⟨g,0,none⟩) (news:=[u]) rfl (fun j x hx=>by
  have:j=0:=by have:=(List.getElem?_eq_some_iff.1 hx).1;simpa using this
  subst this
  rw [cm]
  exact hg.cell 0 hx) (fun x hx=>by rw [List.mem_singleton] at hx;subst hx;exact IV.one hr) (by omega) (by unfold maxLen;omega) (by omega)
 have hs:=hc.size
 have a7:=a0.size
 have a6:Ch ah W w':=a0.trans hc (fun i hi h=>by have:=(ha i h).1.1;omega)
 refine ⟨o',c',w',a5,⟨⟨ku++[u],by rw [List.length_append];exact hO,a2.snoc hr⟩,⟨vu,a3.af hc (fun i _ h k=>(ha i k).2 h),a4⟩,?_,?_,a6⟩,hc⟩
 ·intro i hi
  rcases hi with hi|hi
  ·exact ⟨⟨(ha i hi).1.1,by have:=(ha i hi).1.2;omega⟩,(ha i hi).2⟩
  ·exact ⟨⟨by have:=hi.1;omega,hi.2⟩,fun k=>by have:=(hb i k).2;have:=hi.1;omega⟩
 ·intro i hi
  exact ⟨(hb i hi).1,by have:=(hb i hi).2;omega⟩
theorem KV.JV (h:KV W w kA kC kss vA vC vss AK AV) (hr:IV W u r (fun _=>True)) {g:Nat} (hg:ba w g [u] ay) (hn:vss.length≤1000) :
  ∃ (o':OA) (c':Nat) (w':World),(Builtin.append_ #[bq,bq] bq #[.slice vA vss.length vC,.slice (some ⟨g,0,none⟩) 1 1]).run Tryz.prog w = .ok (.slice o' (vss.length+1) c') w'∧KV W w' kA kC kss o' c' (vss++[r]) AK (Ext AV w w')∧Ch AV w w':=by
 obtain ⟨⟨ku,a1,a2⟩,⟨vu,a3,a4⟩,ha,hb,a0⟩:=h
 obtain ⟨o',c',w',a5,hO,hc⟩:=a3.Dq ia bq (m:=1) (mc:=1) (ad:=⟨g,0,none⟩) (news:=[u]) rfl (fun j x hx=>by
  have:j=0:=by have:=(List.getElem?_eq_some_iff.1 hx).1;simpa using this
  subst this
  rw [cm]
  exact hg.cell 0 hx) (fun x hx=>by rw [List.mem_singleton] at hx;subst hx;exact IV.one hr) (by omega) (by unfold maxLen;omega) (by omega)
 have hs:=hc.size
 have a7:=a0.size
 have a6:Ch ah W w':=a0.trans hc (fun i hi h=>by have:=(hb i h).1;omega)
 refine ⟨o',c',w',a5,⟨⟨ku,a1.af hc (fun i _ h k=>(ha i h).2 k),a2⟩,⟨vu++[u],by rw [List.length_append];exact hO,a4.snoc hr⟩,?_,?_,a6⟩,hc⟩
 ·intro i hi
  exact ⟨⟨(ha i hi).1.1,by have:=(ha i hi).1.2;omega⟩,fun k=>by
   rcases k with k|k
   ·exact (ha i hi).2 k
   ·have:=(ha i hi).1.2;have:=k.1;omega⟩
 ·intro i hi
  rcases hi with hi|hi
  ·exact ⟨(hb i hi).1,by have:=(hb i hi).2;omega⟩
  ·exact ⟨by have:=hi.1;omega,hi.2⟩
structure QE (c:ep) (kss vss:List (List Int)) (rk rv q:List Int):Prop where
 n:kss.length≤60
 l:vss.length=kss.length
 k:∀ x∈kss++[rk],x.length=c.dim.toNat
 v:∀ x∈vss++[rv],x.length=c.dim.toNat
 q:q.length=c.dim.toNat
def Ss (c:ep) (kss vss:List (List Int)) (rk rv q:List Int) (W:World) (u:Value) (w':World):Prop:=IV w' u (uW c (kss++[rk]) (vss++[rv]) q c.heads.toNat) (fun i=>W.heap.size≤i)∧Ch ah W w'
theorem Rk {rk rv q:List Int} {qv:Value} {Q:Nat→Prop} (m:Md c wt) (h:KV W w kA kC (kss++[rk]) vA vC (vss++[rv]) AK AV) (ok:QE c kss vss rk rv q) (hq:IV w qv q Q) {R:Value→World→Prop} (hR:∀ (o:OA) (n cp:Nat) (w':World),Ss c kss vss rk rv q W (.slice o n cp) w'→R (.slice o n cp) w') :
  Calls Tryz.prog ic #[sg c wt,qv,.slice kA (kss.length+1) kC,.slice vA (kss.length+1) vC] w (bc R):=by
 obtain ⟨hk,hv⟩:=h.rv
 have h1:(kss++[rk]).length=kss.length+1:=by rw [List.length_append];rfl
 have h2:(vss++[rv]).length=vss.length+1:=by rw [List.length_append];rfl
 rw [h1] at hk
 rw [h2,ok.l] at hv
 refine ab (Lj m hq hk hv ok.q (by simp) (by rw [h1,h2,ok.l]) (by rw [h1];have:=ok.n;omega) ok.k ok.v) ?_
 rintro u w' ⟨hi,hc⟩
 have a0:=hi
 obtain ⟨o,cp,rfl,_⟩:=hi
 have:=h.ch.size
 exact hR _ _ _ _ ⟨a0.mono (fun i _ hi=>by have:=hi.1;omega),h.ch.ag hc⟩
section
variable {rk rv q:List Int} {qv ku vu:Value} {Q:Nat→Prop} {gK gV:Nat} {R:Value→World→Prop}
theorem Gl (m:Md c wt) (h:KV W w kA kC kss vA vC vss AK AV) (ok:QE c kss vss rk rv q) (hq:IV w qv q Q) (hQ:∀ i,i<w.heap.size→Q i→¬ AK i∧¬ AV i) (hk:IV W ku rk (fun _=>True)) (hv:IV W vu rv (fun _=>True)) (a1:ba w gK [ku] ay) (a2:ba w gV [vu] ay) (a3:¬ AK gV) (hR:∀ (o:OA) (n cp:Nat) (w':World),Ss c kss vss rk rv q W (.slice o n cp) w'→R (.slice o n cp) w') :
  ∃ (A1:OA) (N1 C1:Nat) (w1:World),(Builtin.append_ #[bq,bq] bq #[.slice kA kss.length kC,.slice (some ⟨gK,0,none⟩) 1 1]).run Tryz.prog w = .ok (.slice A1 N1 C1) w1∧Ch ah W w1 ∧
  ∃ (A2:OA) (N2 C2:Nat) (w2:World),(Builtin.append_ #[bq,bq] bq #[.slice vA kss.length vC,.slice (some ⟨gV,0,none⟩) 1 1]).run Tryz.prog w1 = .ok (.slice A2 N2 C2) w2∧Ch ah W w2 ∧
  Calls Tryz.prog ic #[sg c wt,qv,.slice A1 N1 C1,.slice A2 N2 C2] w2 (bc R):=by
 have hn:=ok.n
 have hl:=ok.l
 obtain ⟨o1,c1,w1,r1,h1,a0⟩:=h.IZ hk a1 (by omega)
 obtain ⟨o2,c2,w2,r2,h2,a4⟩:=h1.JV hv (a2.af a0 a3) (by omega)
 rw [hl] at r2
 refine ⟨o1,_,c1,w1,r1,h1.ch,o2,_,c2,w2,r2,h2.ch,Rk m h2 ok (((hq.mono (fun i hi h=>(⟨hQ i hi h,hi⟩:(¬ AK i∧¬ AV i)∧i<w.heap.size))).af a0 (fun i _ h k=>h.1.1 k)).af a4 (fun i _ h k=>h.1.2 k)) hR⟩
theorem Rh (m:Md c wt) (h:KV W w kA kC kss vA vC vss AK AV) (ok:QE c kss vss rk rv q) (hq:IV w qv q Q) (hQ:∀ i,i<w.heap.size→Q i→¬ AK i∧¬ AV i) (hk:IV W ku rk (fun _=>True)) (hv:IV W vu rv (fun _=>True)) (a0:ba w gK [ku] ay) (hR:∀ (o:OA) (n cp:Nat) (w':World),Ss c kss vss rk rv q W (.slice o n cp) w'→R (.slice o n cp) w') :
  ∃ (A1:OA) (N1 C1:Nat) (w1:World),(Builtin.append_ #[bq,bq] bq #[.slice kA kss.length kC,.slice (some ⟨gK,0,none⟩) 1 1]).run Tryz.prog w = .ok (.slice A1 N1 C1) w1∧Ch ah W w1 ∧
  ∀ wa,wa=w1.alloc (.cells #[vu] ay (0,0))→Ch ah W wa ∧
  ∃ (A2:OA) (N2 C2:Nat) (w2:World),(Builtin.append_ #[bq,bq] bq #[.slice vA kss.length vC,.slice (some ⟨w1.heap.size,0,none⟩) 1 1]).run Tryz.prog wa = .ok (.slice A2 N2 C2) w2∧Ch ah W w2 ∧
  Calls Tryz.prog ic #[sg c wt,qv,.slice A1 N1 C1,.slice A2 N2 C2] w2 (bc R):=by
 have hn:=ok.n
 have hl:=ok.l
 obtain ⟨o1,c1,w1,r1,h1,a1⟩:=h.IZ hk a0 (by omega)
 refine ⟨o1,_,c1,w1,r1,h1.ch,fun wa ea=>⟨h1.ch.ag (Ch.alloc ea),?_⟩⟩
 obtain ⟨o2,c2,w2,r2,h2,a2⟩:=(h1.aa (Ch.alloc ea)).JV hv (ba.new ea) (by omega)
 rw [hl] at r2
 refine ⟨o2,_,c2,w2,r2,h2.ch,Rk m h2 ok ((((hq.mono (fun i hi h=>(⟨hQ i hi h,hi⟩:(¬ AK i∧¬ AV i)∧i<w.heap.size))).af a1 (fun i _ h k=>h.1.1 k)).aa (Ch.alloc ea)).af a2 (fun i _ h k=>h.1.2 k)) hR⟩
end
end
end Go.Proofs.YtkbikekbaboclaaGreat.Nb
