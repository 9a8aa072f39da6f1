import Derived.Test.YtkbikekbaboclaaGreatRefM
import Derived.Test.YtkbikekbaboclaaGreatStp3
import Derived.Test.YtkbikekbaboclaaGreatVcRefS
set_option linter.unusedVariables false
set_option linter.unusedSimpArgs false
namespace Go.Proofs.YtkbikekbaboclaaGreat.Nb
open Go Go.Proofs V Vc fv ee qX qn PI Go.RowKit
section
variable {w w':World} {c:ep} {wt:ByteArray} {p b:Nat} {u v:Value} {vs xs ys:List Int} {xss:List (List Int)} {F G:Nat→Prop}
theorem RV.get {o:OA} {n cp:Nat} (h:RV w (.slice o n cp) xss F) {j:Nat} (hj:j<xss.length):∃ (a:Addr) (o':OA) (c':Nat),o=some a∧n=xss.length∧IV w (.slice o' xss[j].length c') xss[j] F∧∀ (G:Nat→Prop) (w':World),Ch G w w'→(∀ i,i<w.heap.size→F i→¬ G i)→w'.cell? (a.add (j*1))=some (.slice o' xss[j].length c'):=by
 obtain ⟨o2,c2,us,he,h1,h2,hr,ha⟩:=h
 injection he with e1 e2 e3
 subst e1;subst e3
 have a1:j<us.length:=by rw [ha.length];exact hj
 obtain ⟨ad,a3,_,_,_⟩:=hr j us[j] (List.getElem?_eq_getElem a1)
 have a4:=ha.get j a1 hj
 have a2:=a4
 obtain ⟨o',c',hu,_⟩:=a4
 refine ⟨ad,o',c',a3,e2,hu▸a2,fun G w' hc hd=>?_⟩
 obtain ⟨a6,a0,_,_,a5⟩:=(hr.af hc hd) j us[j] (List.getElem?_eq_getElem a1)
 rw [a3] at a0;injection a0 with a0;subst a0
 rw [Nat.mul_one,← hu];exact a5
theorem EO (h:RV w v xss F) (n d:Nat) (hn:n≤1000) (hd:d≤1000):Calls Tryz.prog vl #[v,.int .i64 n,.int .i64 d] w (bc fun u w'=>∃ bv:Bool,u = .bool bv∧(bv=true↔oO n d xss)∧w'=w):=by
 have h':=h
 obtain ⟨o,cp,us,rfl,h1,h2,hr,ha⟩:=h
 refine yY.calls _ _ _ _ _ ?_
 refine ⟨fun a7=>⟨_,rfl,⟨fun k=>(by cases k),fun k=>?_⟩,rfl⟩,fun a8=>?_⟩
 ·have:=k.1;subst this;simp at a7
 have a8:xss.length=n:=by
  have:(xss.length:Int)=n:=by simpa using a8
  omega
 refine ⟨fun i k w'=>w'=w∧∃ j:Nat,i=j∧j≤n∧k=n-j∧∀ r∈xss.take j,r.length=d∧AB r,⟨_,rfl,0,rfl,Nat.zero_le _,rfl,fun r hr=>by simp at hr⟩,?_⟩
 rintro jk i k w1 ⟨rfl,j,rfl,hj,rfl,a0⟩
 refine ⟨dT fun a5=>?_,dF fun b9=>?_⟩
 ·have a5:j<xss.length:=by omega
  obtain ⟨a,o',c',rfl,_,b3,a4⟩:=RV.get h' a5
  have a6:=a4 ah w1 (Ch.refl _ _) (fun _ _ _=>id)
  have a2:=List.getElem_mem a5
  have b4:=au xss j a5
  generalize xss[j]=r at b3 a6 a2 b4
  obtain ⟨o2,c2,he,c0,c4,b5⟩:=b3
  injection he with e1 _ e3
  subst e1;subst e3
  refine ⟨⟨by omega,by omega⟩,_,_,_,a6,fun a7=>⟨_,rfl,⟨fun k=>(by cases k),fun k=>?_⟩,rfl⟩,fun a9=>?_⟩
  ·have:=(k.2 r a2).1;subst this;simp at a7
  have b6:r.length=d:=by
   have:(r.length:Int)=d:=by simpa using a9
   omega
  refine ⟨fun i k w'=>w'=w1∧∃ t:Nat,i=t∧t≤d∧k=d-t∧∀ x∈r.take t,-32767≤x∧x≤32767,⟨_,rfl,0,rfl,Nat.zero_le _,rfl,fun x hx=>by simp at hx⟩,?_⟩
  rintro jk i k w2 ⟨rfl,t,rfl,ht,rfl,a3⟩
  refine ⟨dT fun a1=>?_,dF fun b7=>?_⟩
  ·have a1:t<r.length:=by omega
   have bad:¬ (-32767≤r[t]∧r[t]≤32767)→∃ bv:Bool,Value.bool false = .bool bv∧(bv=true↔oO n d xss)∧w2=w2:=fun hn=>⟨_,rfl,⟨fun k=>(by cases k),fun k=>absurd ((k.2 r a2).2 _ (List.getElem_mem a1)) hn⟩,rfl⟩
   refine ⟨⟨by omega,by omega⟩,_,_,_,a6,⟨by omega,by omega⟩,b5.at (j:=(t:Int).toNat*1) (v := .int .i64 r[t]) (by simp [a1]) fun p2 b2=>⟨_,b2,dT fun hg=>bad (by omega),dF fun hg=>?_⟩⟩
   refine ⟨⟨by omega,by omega⟩,_,_,_,a6,⟨by omega,by omega⟩,b5.at (j:=(t:Int).toNat*1) (v := .int .i64 r[t]) (by simp [a1]) fun p2 b2=>⟨_,b2,dT fun hg=>bad (by omega),dF fun c5=>?_⟩⟩
   exact ⟨d-(t+1),by omega,rfl,t+1,by rw [ae (by omega) (by omega)];rfl,by omega,rfl,fun x hx=>by
    rw [au r t a1] at hx
    rcases List.mem_append.1 hx with hx|hx
    ·exact a3 x hx
    ·rw [List.mem_singleton] at hx;subst hx;exact ⟨by omega,by omega⟩⟩
  ·have b8:t=r.length:=by omega
   subst b8
   rw [List.take_length] at a3
   exact ⟨n-(j+1),by omega,rfl,j+1,by rw [ae (by omega) (by omega)];rfl,by omega,rfl,fun y hy=>by
    rw [b4] at hy
    rcases List.mem_append.1 hy with hy|hy
    ·exact a0 y hy
    ·rw [List.mem_singleton] at hy;subst hy;exact ⟨b6,a3⟩⟩
 ·have:j=xss.length:=by omega
  subst this
  rw [List.take_length] at a0
  exact ⟨_,rfl,⟨fun _=>⟨a8,a0⟩,fun _=>rfl⟩,rfl⟩
theorem JN {pr:Value × Value} {e:gr} (m:Md c wt) (h:EV w pr e F):Calls Tryz.prog vJ #[sg c wt,.agg #[pr.1,pr.2]] w (bc fun u w'=>∃ bv:Bool,u = .bool bv∧(bv=true↔fy c e)∧Ch ah w w'):=by
 obtain ⟨hK,hV⟩:=h
 obtain ⟨v1,v2⟩:=pr
 have a6:=hK
 have a7:=hV
 obtain ⟨o1,c1,a8,rfl,_⟩:=hK
 obtain ⟨o2,c2,a9,rfl,_⟩:=hV
 have b2:=m.ok.2.2.2.1
 have b3:=m.ok.2.1
 have e1:(c.blocks:Int)=(c.blocks.toNat:Int):=by omega
 have e2:(c.dim:Int)=(c.dim.toNat:Int):=by omega
 refine yD.calls _ _ _ _ _ _ _ _ _ _ _ _ _ ?_
 intro w1 a3 w2 a4
 have hM:=ba.new a3
 have hE:=ba.new a4
 have a1:Ch ah w w1:=Ch.alloc a3
 have a0:Ch ah w1 w2:=Ch.alloc a4
 have a2:=hM.aa a0
 refine ⟨_,_,_,hE.cell 0 rfl,_,a2.cell 3 rfl,_,a2.cell 1 rfl,?_⟩
 rw [e1,e2]
 refine ab (EO (a6.aa (a1.ag a0)) _ _ (by omega) (by omega)) ?_
 rintro v w3 ⟨bv,rfl,hb,rfl⟩
 refine ⟨_,rfl,fun hy=>?_,fun hy=>⟨_,rfl,⟨fun k=>(by cases k),fun k=>by rw [hb.2 k.1] at hy;cases hy⟩,a1.ag a0⟩⟩
 refine ⟨_,_,_,hE.cell 1 rfl,_,a2.cell 3 rfl,_,a2.cell 1 rfl,?_⟩
 rw [e1,e2]
 refine ab (EO (a7.aa (a1.ag a0)) _ _ (by omega) (by omega)) ?_
 rintro v w4 ⟨b4,rfl,a5,rfl⟩
 exact ⟨_,rfl,_,rfl,⟨fun k=>⟨hb.1 hy,a5.1 k⟩,fun k=>a5.2 k.2⟩,a1.ag a0⟩
theorem wB (m:Md c wt) (a0:pB c p b):Calls Tryz.prog uJ #[sg c wt,.int .i64 p,.int .i64 b] w (bc fun u w'=>IV w' u (ks c wt p b 0) (db w w')∧Ch ah w w'):=by
 have a2:=Ia m.ok a0.1
 refine xe.calls _ _ _ _ _ _ _ _ _ ?_
 intro w1 e1
 have hM:=ba.new e1
 have a1:Ch ah w w1:=Ch.alloc e1
 have hs:=a1.size
 refine ⟨_,_,_,_,_,_,_,⟨hM.cell 0 rfl,hM.cell 1 rfl,hM.cell 2 rfl,hM.cell 3 rfl,hM.cell 4 rfl,hM.cell 5 rfl,hM.cell 6 rfl⟩,ab (tm w1 m.ok m.sz a0 (q:=0) (by omega)) ?_⟩
 rintro v w2 ⟨o,cp,rfl,hg⟩
 exact ⟨_,_,_,_,rfl,(Gr.iv hg).mono (fun i _ hi=>⟨by have:=hi.1;omega,hi.2⟩),a1.ag hg.2⟩
theorem Lg (m:Md c wt) (a0:pB c p b) (hv:(vs.length:Int)=(side c p).2):times c wt p b vs=(List.range (side c p).1.toNat).map fun i=>sat (shift (se (ks c wt p b (i:Nat)) vs) 6):=by
 have hg:=Bq m.ok m.sz a0
 unfold times ft.qE ft.pK
 rw [hg,decide_eq_true hv,Bool.true_and,if_pos rfl]
 unfold ft.sU
 refine List.map_congr_left fun i hi=>?_
 rw [List.mem_range] at hi
 unfold ks ft.tJ
 rw [hg,decide_eq_true (show 0≤(i:Int)∧(i:Int)<(side c p).1 by omega)]
 rfl
theorem HN (hx:IV w u xs F) (hy:IV w v ys G) (hl:xs.length≤1000000):Calls Tryz.prog pO #[u,v] w (bc fun v w'=>v = .int .i64 (se xs ys)∧Ch ah w w'):=by
 obtain ⟨o,cx,rfl,_,_,hx⟩:=hx
 obtain ⟨o2,cy,rfl,_,_,hy⟩:=hy
 exact ft.NC hx hy hl
theorem mj (m:Md c wt) (a1:pB c p b) (hv:IV w v vs F) (a7:(vs.length:Int)=(side c p).2):Calls Tryz.prog oT #[sg c wt,.int .i64 p,.int .i64 b,v,.int .i64 6] w (bc fun u w'=>IV w' u (times c wt p b vs) (db w w')∧Ch ah w w'):=by
 have a8:=hv
 obtain ⟨ov,cv,rfl,_,_,_⟩:=hv
 have b6:=Du m.ok.small p
 have b7:=Ia m.ok a1.1
 refine xl.calls _ _ _ _ _ _ _ _ _ _ _ _ _ ?_
 intro w1 e1
 have hM:=ba.new e1
 have a9:Ch ah w w1:=Ch.alloc e1
 refine ⟨_,_,_,_,_,_,⟨hM.cell 0 rfl,hM.cell 1 rfl,hM.cell 2 rfl,hM.cell 3 rfl,hM.cell 4 rfl,hM.cell 5 rfl⟩,ab (Fe w1 m.ok p) ?_⟩
 rintro v w2 ⟨rfl,a6⟩
 have hM:=hM.aa a6
 have a0:=a9.ag a6
 refine ⟨_,_,rfl,fun w3 e3=>?_⟩
 have g0:Gr ah w2 w3 bd 1 (some ⟨w2.heap.size,0,none⟩) 0 0 []:=Gr.nG (Ch.refl _ _) e3
 obtain ⟨L,hL⟩:∃ L:List Int,times c wt p b vs=L:=⟨_,rfl⟩
 have a3:=Lg m a1 a7
 rw [hL] at a3 ⊢
 have b8:L.length=(side c p).1.toNat:=by rw [a3,List.length_map,List.length_range]
 have b2:∀ (t:Nat) (ht:t<L.length),L[t]=sat (shift (se (ks c wt p b (t:Nat)) vs) 6):=fun t ht=>by subst a3;simp
 refine ⟨fun o n cp i k w'=>∃ j:Nat,i=j∧n=j∧j≤L.length∧k=L.length-j∧Gr ah w2 w' bd 1 o j cp ((L.take j).map (.int .i64)),⟨_,0,rfl,rfl,Nat.zero_le _,rfl,g0⟩,?_⟩
 rintro jk o n cp i k w4 ⟨j,rfl,rfl,hj,rfl,hg⟩
 have hM:=hM.aa hg.2
 refine ⟨dT fun a2=>?_,dF fun b9=>?_⟩
 ·have a2:n<L.length:=by omega
  refine ⟨_,_,_,_,_,_,_,⟨hM.cell 0 rfl,hM.cell 1 rfl,hM.cell 2 rfl,hM.cell 3 rfl,hM.cell 4 rfl,hM.cell 5 rfl,hM.cell 6 rfl⟩,ab (tm w4 m.ok m.sz a1 (q:=n) (by omega)) ?_⟩
  rintro v w5 ⟨o5,c5,rfl,a4⟩
  have c0:=uC m.ok m.sz a1 (q:=n) (by omega)
  refine ⟨_,_,_,_,rfl,ab (HN (Gr.iv a4) (a8.aa ((a0.ag hg.2).ag a4.2)) (by omega)) ?_⟩
  rintro v w6 ⟨rfl,b3⟩
  refine ⟨_,rfl,ab (sI w6 (ft.Ap _ _) 6) ?_⟩
  rintro v w7 ⟨rfl,b4⟩
  refine ⟨_,rfl,ab (qX.ni w7 _) ?_⟩
  rintro v w8 ⟨rfl,rfl⟩
  refine ⟨_,rfl,fun w9 e9=>?_⟩
  obtain ⟨A',C',b5,hr,a5,_⟩:=(hg.aa ((a4.2.ag b3).ag b4)).next bi ay a2 (by omega) e9 (by rw [b2 n a2]) rfl (by omega)
  exact ⟨A',_,C',b5,hr,L.length-(n+1),by omega,n+1,by rw [ae (by omega) (by omega)];rfl,rfl,a2,rfl,a5⟩
 ·have:n=L.length:=by omega
  subst this
  rw [List.take_length] at hg
  have hs:=a0.size
  exact ⟨(Gr.iv hg).mono (fun i _ hi=>⟨by have:=hi.1;omega,hi.2⟩),a0.ag hg.2⟩
theorem Ew (hx:IV w u xs F) (hv:IV w v ys G) (hl:xs.length≤1000000) (a1:ys.length≤1000000):Calls Tryz.prog vt #[u,v] w (bc fun u w'=>IV w' u (zt xs ys) (db w w')∧Ch ah w w'):=by
 obtain ⟨ox,cx,rfl,a5,a6,a2⟩:=hx
 obtain ⟨oy,cy,rfl,a7,a8,a3⟩:=hv
 refine yH.calls _ _ _ _ _ _ ?_
 intro w1 e1
 have a0:Ch ah w w1:=Ch.alloc e1
 have a4:ba w1 w.heap.size ([((ox,cx,xs):ft.nH),(oy,cy,ys)].map ft.nw) ay:=ba.new e1
 have hp:=ft.Kq (G:=fun i=>F i∨G i) a4.rd (fun z hz=>by
  rcases List.mem_cons.1 hz with rfl|hz
  ·exact ⟨(a2.aa a0).mono (fun i _ h => .inl h),hl⟩
  ·rw [List.mem_singleton] at hz;subst hz;exact ⟨(a3.aa a0).mono (fun i _ h => .inr h),a1⟩) (by show 2≤1000000;decide) 2
 refine ab hp ?_
 rintro v w2 ⟨A,C,rfl,hg⟩
 have hs:=a0.size
 exact ⟨_,_,_,_,rfl,(Gr.iv hg).mono (fun i _ hi=>⟨by have:=hi.1;omega,hi.2⟩),a0.ag hg.2⟩
def qt (a n:Nat) (q k:List Int):Int:=shift (se (cut q a n) (cut k a n)) 9
def Gs (kss vss:List (List Int)) (a n:Nat) (q:List Int):List Int:=Iv (ed.bm (kss.map (qt a n q))) (vss.map (fun v=>cut v a n))
def uW (c:ep) (kss vss:List (List Int)) (q:List Int):Nat→List Int
 | 0=>[]
 | h+1=>uW c kss vss q h++Gs kss vss (h*bu c) (bu c) q
theorem GJ (es:List gr) (b:Nat) (q:List Int):∀ h,uW c (es.map fun e=>e.1.getD b []) (es.map fun e=>e.2.getD b []) q h=nU c es b q h
 | 0=>rfl
 | h+1=>by
  rw [uW,nU,GJ es b q h]
  unfold Gs DN
  rw [List.map_map,List.map_map]
  rfl
theorem GX {kss vss:List (List Int)} {a n d:Nat} {q:List Int} (h0:kss≠[]) (hl:vss.length=kss.length) (hv:∀ r∈vss,r.length=d) (ha:a+n≤d):(Gs kss vss a n q).length=n:=by
 unfold Gs
 refine (LV (by simpa using h0) (by rw [List.length_map,List.length_map,hl]) (fun r hr=>?_)).1
 obtain ⟨x,hx,rfl⟩:=List.mem_map.1 hr
 exact LU (by rw [hv x hx];exact ha)
theorem Gn {kss vss:List (List Int)} {q:List Int} (ok:tQ c) (h0:kss≠[]) (hl:vss.length=kss.length) (hv:∀ r∈vss,r.length=c.dim.toNat):∀ j,j≤c.heads.toNat→(uW c kss vss q j).length=j*bu c
 | 0,_=>by rw [Nat.zero_mul];rfl
 | j+1,hj=>by
  have a0:(j+1)*bu c≤c.heads.toNat*bu c:=Nat.mul_le_mul_right _ hj
  rw [ya ok,Nat.add_mul,Nat.one_mul] at a0
  rw [uW,List.length_append,Gn ok h0 hl hv j (by omega),GX h0 hl hv a0,Nat.add_mul,Nat.one_mul]
structure Tt (w0 w:World) (kss vss:List (List Int)) (a n:Nat) (q:List Int) (j:Nat) (so:OA) (sc:Nat) (vo:OA) (vc:Nat):Prop where
 ch:Ch ah w0 w
 ex:∃ (A B:Nat→Prop) (zs:List (OA × Nat × List Int)),V.Own w bd 1 so j sc (((kss.take j).map (qt a n q)).map (.int .i64)) A∧V.Own w ay 1 vo j vc (zs.map V.nw) B ∧
  zs.map (·.2.2)=(vss.take j).map (fun v=>cut v a n)∧(∀ z∈zs,Rd w z.1 (z.2.2.map (.int .i64)) (fun i=>i<w0.heap.size))∧(∀ i,A i→db w0 w i∧¬ B i)∧(∀ i,B i→db w0 w i)
set_option maxHeartbeats 2000000 in
theorem Lj {kss vss:List (List Int)} {q:List Int} {qv kv vv:Value} {F1 F2 F3:Nat→Prop} (m:Md c wt) (hq:IV w qv q F1) (hk:RV w kv kss F2) (hv:RV w vv vss F3) (l1:q.length=c.dim.toNat) (h0:kss≠[]) (hl:vss.length=kss.length) (hn:kss.length≤100) (g7:∀ r∈kss,r.length=c.dim.toNat) (d2:∀ r∈vss,r.length=c.dim.toNat) :
  Calls Tryz.prog ic #[sg c wt,qv,kv,vv] w (bc fun u w'=>IV w' u (uW c kss vss q c.heads.toNat) (db w w')∧Ch ah w w'):=by
 have g8:=hq
 have g9:=hk
 have h2:=hv
 obtain ⟨qo,qc,rfl,l2,l3,l4⟩:=hq
 obtain ⟨ko,kc,ku,rfl,_⟩:=hk
 obtain ⟨l5,l6,vu,rfl,_⟩:=hv
 have d3:=pT m.ok
 have l7:=m.ok.2.1
 have hh:=m.ok.2.2.1
 have h3:=ya m.ok
 refine yE.calls _ _ _ _ _ _ _ _ _ _ _ _ _ _ _ _ ?_
 unfold Vm.A0 Vm.A5 Vm.A7 Vm.B6 Vm.B8 Vm.C Vm.C4 Vm.C5 Vm.D Vm.D2 Vm.D8 Vm.E8 Vm.E9 Vm.F3 Vm.G Vm.H Vm.H0 Vm.H6 Vm.J6 Vm.M Vm.M4 Vm.Q Vm.Q4 Vm.Q5 Vm.Z;dsimp only
 intro w1 e1 w2 e2
 have hM:=ba.new e1
 have d4:Ch ah w w1:=Ch.alloc e1
 have d5:Ch ah w1 w2:=Ch.alloc e2
 have d6:=hM.aa d5
 have g0:Gr ah w1 w2 bd 1 (some ⟨w1.heap.size,0,none⟩) 0 0 []:=Gr.nG (Ch.refl _ _) e2
 have h4:IntKind.i64.wrap (Int.tdiv c.dim c.heads)=((bu c:Nat):Int):=by
  have:Int.tdiv c.dim c.heads=((bu c:Nat):Int):=by
   rw [← d3.1];exact Int.mul_tdiv_cancel _ (by omega)
  rw [this,ae (by omega) (by omega)]
 refine ⟨_,d6.cell 1 rfl,_,d6.cell 2 rfl,by omega,?_⟩
 rw [h4]
 clear d6
 refine ⟨fun A n C i k w'=>∃ jj:Nat,i=jj∧n=(uW c kss vss q jj).length∧jj≤c.heads.toNat∧k=c.heads.toNat-jj∧Gr ah w1 w' bd 1 A n C ((uW c kss vss q jj).map (.int .i64)),⟨_,0,rfl,rfl,Nat.zero_le _,rfl,g0⟩,?_⟩
 rintro jk oA oN oC i k w3 ⟨jj,rfl,rfl,hj,rfl,hg⟩
 have h5:=hM.aa hg.2
 refine ⟨_,h5.cell 2 rfl,dT fun d7=>?_,dF fun l8=>?_⟩
 ·have d7:jj<c.heads.toNat:=by omega
  have c4:(jj+1)*bu c≤c.heads.toNat*bu c:=Nat.mul_le_mul_right _ d7
  rw [h3,Nat.add_mul,Nat.one_mul] at c4
  have h6:0<kss.length:=List.length_pos_iff.2 h0
  obtain ⟨a,ha⟩:∃ a:Nat,a=jj*bu c:=⟨_,rfl⟩
  rw [← ha] at c4
  have ewr:IntKind.i64.wrap ((jj:Int)*((bu c:Nat):Int))=(a:Int):=by rw [← Int.natCast_mul,← ha,ae (by omega) (by omega)]
  have d8:IntKind.i64.wrap ((a:Int)+((bu c:Nat):Int))=((a+bu c:Nat):Int):=by rw [ae (by omega) (by omega)];omega
  rw [ewr,d8]
  intro w4 e4 w5 e5
  have d9:Ch ah w3 w4:=Ch.alloc e4
  have c5:Ch ah w4 w5:=Ch.alloc e5
  have h7:w4.heap.size=w3.heap.size+1:=by subst e4;simp
  have h8:w5.heap.size=w4.heap.size+1:=by subst e5;simp
  have b2:Ch ah w w3:=d4.ag hg.2
  have h9:=(g8.aa b2).mono (G:=fun i=>i<w3.heap.size) (fun i hi _=>hi)
  have i0:=(g9.aa b2).mono (G:=fun i=>i<w3.heap.size) (fun i hi _=>hi)
  have i1:=(h2.aa b2).mono (G:=fun i=>i<w3.heap.size) (fun i hi _=>hi)
  have f0:V.Own w4 bd 1 (some ⟨w3.heap.size,0,none⟩) 0 0 [] (·=w3.heap.size):=V.Own.made e4 rfl (Nat.zero_le _) rfl
  have f3:V.Own w5 ay 1 (some ⟨w4.heap.size,0,none⟩) 0 0 [] (·=w4.heap.size):=V.Own.made e5 rfl (Nat.zero_le _) rfl
  refine ⟨fun so sn sc vo vn vc i k w'=>∃ j:Nat,i=j∧sn=j∧vn=j∧j≤kss.length∧k=kss.length-j∧Tt w3 w' kss vss a (bu c) q j so sc vo vc,⟨_,0,rfl,rfl,rfl,Nat.zero_le _,rfl,d9.ag c5,(·=w3.heap.size),(·=w4.heap.size),[],f0.aa c5,f3,rfl,fun z hz=>(by cases hz),fun i h=>⟨⟨by omega,by omega⟩,by omega⟩,fun i h=>⟨by omega,by omega⟩⟩,?_⟩
  clear f0 f3
  rintro jk so sn sc vo vn vc i k w6 ⟨j,rfl,rfl,rfl,l9,rfl,b9,A,B,zs,hS,hV,c6,f4,hA,c0⟩
  have m0:=b9.size
  have tG:∀ i,i<w6.heap.size→i<w3.heap.size→¬ A i:=fun i _ hi h=>by have:=(hA i h).1.1;omega
  have i2:=h9.aa b9
  have i3:=i0.aa b9
  have i4:=i1.aa b9
  refine ⟨dT fun a2=>?_,dF fun c7=>?_⟩
  ·have a2:vn<kss.length:=by omega
   have b3:vn<vss.length:=by omega
   obtain ⟨ka,ko',kc',rfl,_,b4,f5⟩:=RV.get i3 a2
   obtain ⟨va,vo',vc',rfl,_,b5,f6⟩:=RV.get i4 b3
   have i5:=g7 _ (List.getElem_mem a2)
   have i6:=d2 _ (List.getElem_mem b3)
   have f7:(kss.take (vn+1)).map (qt a (bu c) q)=(kss.take vn).map (qt a (bu c) q)++[qt a (bu c) q kss[vn]]:=by rw [au kss vn a2,List.map_append];rfl
   have c8:(vss.take (vn+1)).map (fun v=>cut v a (bu c))=(vss.take vn).map (fun v=>cut v a (bu c))++[cut vss[vn] a (bu c)]:=by rw [au vss vn b3,List.map_append];rfl
   generalize kss[vn]=kr at b4 f5 i5 f7
   generalize vss[vn]=vr at b5 f6 i6 c8
   have f8:kr.length≤kc':=by
    obtain ⟨_,_,he,h1,_⟩:=b4
    injection he with _ _ e
    omega
   have f9:vr.length≤vc':=by
    obtain ⟨_,_,he,h1,_⟩:=b5
    injection he with _ _ e
    omega
   refine ⟨fun w'=>Ch A w6 w',fun w7 e7=>⟨Ch.drew e7,?_⟩⟩
   have e0:Ch ah w6 w7:=Ch.drew e7
   rw [Int.toNat_natCast (a+bu c),Int.toNat_natCast a]
   refine ⟨⟨by omega,by omega,by omega⟩,⟨by omega,by omega⟩,_,_,_,fun w' k=>f5 A w' k tG,⟨by omega,by omega,by omega⟩,?_⟩
   have a7:=(i2.aa e0).cut rfl (a:=a) (b:=a+bu c) (by omega) (by omega)
   have a8:=(b4.aa e0).cut rfl (a:=a) (b:=a+bu c) (by omega) (by omega)
   rw [Nat.add_sub_cancel_left] at a7 a8 ⊢
   refine ab (HN a7 a8 (by rw [List.length_take];omega)) ?_
   rintro v w9 ⟨rfl,i7⟩
   have c9:=e0.ag i7
   refine ⟨_,rfl,c9.any,ab (sI w9 (ft.Ap _ _) 9) ?_⟩
   rintro v g1 ⟨rfl,e3⟩
   have a0:=c9.ag e3
   have b6:shift (se ((q.drop a).take (bu c)) ((kr.drop a).take (bu c))) 9=qt a (bu c) q kr:=rfl
   rw [b6]
   refine ⟨_,rfl,a0.any,fun m1 g2=>⟨(a0.ag (Ch.alloc g2)).any,?_⟩⟩
   obtain ⟨i8,i9,b7,j0,d0,a1⟩:=V.Own.pW (enc:=fun x:Int=>Value.int .i64 x) (xs:=(kss.take vn).map (qt a (bu c) q)) bi (hS.aa a0) ay (qt a (bu c) q kr) g2 rfl (by unfold maxLen;omega) (by omega)
   rw [← f7] at d0
   have g3:=a0.size
   have j1:=a1.size
   have a3:Ch A w6 b7:=a0.any.same a1
   have b8:=b5.af a3 tG
   have a9:=b8.cut rfl (a:=a) (b:=a+bu c) (by omega) (by omega)
   rw [Nat.add_sub_cancel_left] at a9
   have j2:((vr.drop a).take (bu c)).length=bu c:=by rw [List.length_take,List.length_drop];omega
   have e6:V.Own b7 ay 1 vo vn vc (zs.map V.nw) B:=(hV.aa a0).af a1 (fun i _ hb h=>(hA i h).2 hb)
   refine ⟨i8,_,i9,b7,j0,a3,⟨by omega,by omega⟩,_,_,_,f6 A b7 a3 tG,⟨by omega,by omega,by omega⟩,fun m2 j3=>?_⟩
   obtain ⟨j4,j5,g4,j6,e8,a4⟩:=V.Own.push ia e6 bq j3 rfl rfl (by unfold maxLen;omega) (by omega)
   have j7:=a4.size
   have j8:∀ i,B i→i<w6.heap.size:=fun i h=>(c0 i h).2
   have d1:∀ i,Ext A g1 b7 i→¬ B i:=fun i h hb=>by
    rcases h with h|h
    ·exact (hA i h).2 hb
    ·have:=h.1;have:=j8 i hb;omega
   refine ⟨j4,_,j5,g4,j6,kss.length-(vn+1),by omega,vn+1,by rw [ae (by omega) (by omega)];rfl,rfl,rfl,a2,rfl,?_,Ext A g1 b7,Ext B b7 g4,zs++[(if vc'=a then vo' else vo'.map (·.add (a*1)),vc'-a,(vr.drop a).take (bu c))],d0.af a4 (fun i _ h hb=>d1 i h hb),?_,?_,fun z hz=>?_,fun i hi=>⟨⟨?_,?_⟩,fun hb=>?_⟩,fun i hi=>?_⟩
   ·exact ((b9.ag a0).trans a1 (fun i hi h=>by have:=(hA i h).1.1;omega)).trans a4 (fun i hi h=>by have:=(c0 i h).1;omega)
   ·rw [List.map_append]
    have j9:V.nw (if vc'=a then vo' else vo'.map (·.add (a*1)),vc'-a,(vr.drop a).take (bu c)) = .slice (if vc'=a then vo' else vo'.map (·.add (a*1))) (bu c) (vc'-a):=by
     unfold V.nw;rw [j2]
    rw [List.map_singleton,j9]
    exact e8
   ·rw [List.map_append,c6,c8]
    rfl
   ·rcases List.mem_append.1 hz with hz|hz
    ·have h0:=f4 z hz
     refine (((h0.aa a0).af a1 (fun i _ hi h=>?_)).af a4 (fun i _ hi h=>?_))
     ·have:=(hA i h).1.1;omega
     ·have:=(c0 i h).1;omega
    ·rw [List.mem_singleton] at hz
     subst hz
     obtain ⟨oo,m3,he,_,_,k0⟩:=a9
     injection he with k1 m5 m6
     subst k1
     exact k0.af a4 (fun i _ hi h=>by have:=(c0 i h).1;omega)
   ·rcases hi with hi|hi
    ·exact (hA i hi).1.1
    ·have:=hi.1;omega
   ·rcases hi with hi|hi
    ·have:=(hA i hi).1.2;omega
    ·have:=hi.2;omega
   ·rcases hb with hb|hb
    ·exact d1 i hi hb
    ·rcases hi with hi|hi
     ·have:=(hA i hi).1.2;have:=hb.1;omega
     ·have:=hi.2;have:=hb.1;omega
   ·rcases hi with hi|hi
    ·exact ⟨(c0 i hi).1,by have:=(c0 i hi).2;omega⟩
    ·exact ⟨by have:=hi.1;omega,hi.2⟩
  ·have c7:vn=kss.length:=by omega
   subst c7
   rw [List.take_length] at hS
   rw [List.take_of_length_le (show vss.length≤kss.length by omega)] at c6
   have k2:(kss.map (qt a (bu c) q)).length=kss.length:=List.length_map _
   have g5:=ed.zl (xs:=kss.map (qt a (bu c) q)) hS.rd (by omega) sc
   rw [k2] at g5
   refine ab g5 ?_
   rintro v m7 ⟨A15,C15,rfl,a5⟩
   have k3:zs.length=kss.length:=by
    have:=congrArg List.length c6
    rw [List.length_map,List.length_map] at this;omega
   have k4:(ed.bm (kss.map (qt a (bu c) q))).length=kss.length:=by unfold ed.bm;rw [List.length_map,List.length_map]
   have g6:=ed.Mv (K:=fun i=>i<w3.heap.size) (zs:=zs) a5.rd (hV.rd.aa a5.2) (fun z hz=>⟨(f4 z hz).aa a5.2,by
    have:z.2.2∈zs.map (·.2.2):=List.mem_map_of_mem hz
    rw [c6] at this
    obtain ⟨e,_,he⟩:=List.mem_map.1 this
    rw [← he]
    unfold cut
    rw [List.length_take]
    omega⟩) (by omega) (by omega) C15 vc
   rw [k3] at g6
   refine ⟨_,_,_,rfl,ab g6 ?_⟩
   rintro v m8 ⟨A16,C16,rfl,a6⟩
   rw [BH,c6] at a6 ⊢
   have k5:Iv (ed.bm (kss.map (qt a (bu c) q))) (vss.map (fun v=>cut v a (bu c)))=Gs kss vss a (bu c) q:=rfl
   rw [k5] at a6 ⊢
   have m9:=GX (q:=q) (a:=a) (n:=bu c) h0 hl d2 (by omega)
   have n0:=Gn (kss:=kss) (vss:=vss) (q:=q) m.ok h0 hl d2 jj (by omega)
   obtain ⟨k6,k7,k8,k9,e9,_⟩:=Gr.HL (c2:=C16) (m:=(Gs kss vss a (bu c) q).length) bi (hg.aa (b9.ag (a5.2.ag a6.2))) ay a6.rd (by rw [List.length_map,Nat.mul_one]) (fun u hu=>by
    obtain ⟨x,_,rfl⟩:=List.mem_map.1 hu
    rfl) (by omega) (by omega)
   exact ⟨_,_,_,rfl,k6,_,k7,k8,k9,c.heads.toNat-(jj+1),by omega,jj+1,by rw [ae (by omega) (by omega)];rfl,by rw [uW,List.length_append,← ha],d7,rfl,by rw [uW,List.map_append,← ha];exact e9⟩
 ·have:jj=c.heads.toNat:=by omega
  subst this
  have n1:=d4.size
  exact ⟨(Gr.iv hg).mono (fun i _ hi=>⟨by have:=hi.1;omega,hi.2⟩),d4.ag hg.2⟩
end
end Go.Proofs.YtkbikekbaboclaaGreat.Nb
