import Derived.Test.YtkbikekbaboclaaGreatPkD
import Derived.Test.YtkbikekbaboclaaGreatPkB
import Derived.Test.YtkbikekbaboclaaGreatPkVa
set_option linter.unusedVariables false
set_option linter.unusedSimpArgs false
namespace Go.Proofs.YtkbikekbaboclaaGreat.fo
open Go Go.Proofs V Vc Step bh dh ee fv qn Go.RowKit
open gm (da di dl ik)
def ey:ep:=⟨4,2,1,1,2,12⟩
def Tk:ByteArray:=⟨(List.replicate 66 (0:UInt8)).toArray⟩
theorem QC {t:ByteArray} (h:t.size=66):Md ey t:=⟨by decide,by rw [h];decide⟩
theorem OM (w:World) {t:ByteArray} (h:t.size=66):Calls Tryz.prog DA #[.agg (zH ey).toArray,.string t] w (bc fun v w'=>Ch ah w w'∧∃ b,v = .tuple #[.pointer (some ⟨b,0,none⟩),.int .i64 0]∧w.heap.size≤b∧yn w' b ey t):=by
 refine ab (Mt w ey t) ?_
 rintro v w' ⟨hc,h1,_,_⟩
 have m:=QC h
 obtain ⟨b,rfl,hb,hr⟩:=h1 ⟨m.ok,m.sz⟩
 exact ⟨hc,b,rfl,hb,hr,m.ok,m.sz⟩
theorem uz (w:World):Calls Tryz.prog uI #[] w (bc fun v w'=>v = .agg (zH ey).toArray∧Ch ah w w'):=by
 refine wN.calls ?_
 intro w1 e1
 have hA:=ba.new e1
 refine ⟨⟨hA.ok 0 rfl,hA.ok 1 rfl,hA.ok 2 rfl,hA.ok 3 rfl,hA.ok 4 rfl,hA.ok 5 rfl⟩,fun w2 e2=>?_⟩
 have a2:w2=w1.setCells w.heap.size 0 (zH ey):=e2
 have a0:=hA.all (zH ey) rfl a2
 have a1:Ch ah w w2:=(Ch.alloc (F:=ah) e1).trans (Ch.fr (F:=(·=w.heap.size)) a2 rfl) (fun i hi he=>by omega)
 exact ⟨_,_,_,_,_,_,⟨a0.cell 0 rfl,a0.cell 1 rfl,a0.cell 2 rfl,a0.cell 3 rfl,a0.cell 4 rfl,a0.cell 5 rfl⟩,rfl,a1⟩
def QH:Value := .pointer none
def zM:List Value:=[.int .i64 0,.int .i64 0,.int .i64 0,.int .i64 0,.int .i64 0,.int .i64 0,.string ByteArray.empty]
def CQ (q:Nat × ByteArray):Value := .pointer (some ⟨q.1,0,none⟩)
def sg (t:ByteArray):List Value:=zH ey++[.string t]
def cA (L:List (Nat × ByteArray)):List Value:=L.map CQ++List.replicate (2-L.length) QH
def cB (L:List (Nat × ByteArray)):List Value:=(L.map fun q=>sg q.2).flatten++(List.replicate (2-L.length) zM).flatten
def PU (w:World) (n:Nat) (L:List (Nat × ByteArray)):Prop:=∀ q∈L,yn w q.1 ey q.2∧q.2.size=66∧(n=0→q.2=Tk)
theorem PU.aa {w w':World} {n:Nat} {L:List (Nat × ByteArray)} (h:PU w n L) (hc:Ch ah w w'):PU w' n L:=fun q hq=>⟨(h q hq).1.aa hc,(h q hq).2⟩
theorem Se {w:World} {b T:Nat} {bs:List UInt8} (h:ba w b (bs.map NM) T) (hl:bs.length=66) :
  (convert 85 9 (.slice (some ⟨b,0,none⟩) ((66:Int).toNat) ((66:Int).toNat))).run Tryz.prog w = .ok (.string ⟨bs.toArray⟩) w:=by
 have:=OG (P:=Tryz.prog) (src:=85) (dst:=9) (e:=5) (c:=66) h.rd (by kernel_rfl) (by kernel_rfl) (by kernel_rfl)
 rw [hl] at this
 exact this
theorem RY:∀ {L:List (Nat × ByteArray)},L.length<2→∀ q,(cA L)[L.length]?=some QH∧(cA L).set L.length (CQ q)=cA (L++[q])
 | [],_,q=>⟨rfl,rfl⟩
 | [q0],_,q=>⟨rfl,rfl⟩
 | _ :: _ :: _,h,_=>by simp at h;omega
theorem Pn:∀ {L:List (Nat × ByteArray)},L.length<2→∀ q:Nat × ByteArray,(cB L).length=14∧(∀ m,m<7→(cB L)[L.length*7+m]?=zM[m]?)∧(cB L).take (L.length*7)++sg q.2++(cB L).drop (L.length*7+(sg q.2).length)=cB (L++[q])
 | [],_,q=>⟨rfl,fun m hm=>by match m,hm with|0,_=>rfl|1,_=>rfl|2,_=>rfl|3,_=>rfl|4,_=>rfl|5,_=>rfl|6,_=>rfl,rfl⟩
 | [q0],_,q=>⟨rfl,fun m hm=>by match m,hm with|0,_=>rfl|1,_=>rfl|2,_=>rfl|3,_=>rfl|4,_=>rfl|5,_=>rfl|6,_=>rfl,rfl⟩
 | _ :: _ :: _,h,_=>by simp at h;omega
set_option maxRecDepth 100000 in
set_option maxHeartbeats 2000000 in
theorem Gp (w:World) (ws:ByteArray):Calls Tryz.prog ol #[.string ws] w (bc fun v w'=>∃ q0 q1:Nat × ByteArray,v = .tuple #[.agg #[CQ q0,CQ q1],.agg (sg q0.2++sg q1.2).toArray]∧PU w' ws.size [q0,q1]∧Ch ah w w'∧∀ q∈[q0,q1],w.heap.size≤q.1):=by
 refine vK.calls _ ?_
 unfold Vm.A2 Vm.Br Vm.C Vm.E6 Vm.L2 Vm.L3 Vm.M2 Vm.M3 Vm.N4 Vm.N5 Vm.R6 Vm.R7 Vm.R8 Vm.S9 Vm.W Vm.X;dsimp only
 intro w2 e2 w3 e3 w4 e4
 have g3:=ba.new e2
 have g4:=ba.new e3
 have d9:=ba.new e4
 refine ⟨⟨d9.ok 0 rfl,d9.ok 1 rfl⟩,fun w5 e5 w6 e6=>?_⟩
 have g8:w5=w4.setCells w3.heap.size 0 (cA []):=e5
 have g9:=d9.all (cA []) rfl g8
 have a7:=ba.new e6
 refine ⟨⟨a7.ok 0 rfl,a7.ok 1 rfl,a7.ok 2 rfl,a7.ok 3 rfl,a7.ok 4 rfl,a7.ok 5 rfl,a7.ok 6 rfl,a7.ok 7 rfl,a7.ok 8 rfl,a7.ok 9 rfl,a7.ok 10 rfl,a7.ok 11 rfl,a7.ok 12 rfl,a7.ok 13 rfl⟩,fun w7 e7=>?_⟩
 have h3:w7=w6.setCells w5.heap.size 0 (cB []):=e7
 have h4:=a7.all (cB []) rfl h3
 have e0:=g3.lt
 have l2:=g4.lt
 have l3:=d9.lt
 have c5:Ch (·=w3.heap.size) w4 w5:=Ch.fr g8 rfl
 have l4:=c5.size
 have l5:=a7.lt
 have a9:Ch (·=w5.heap.size) w6 w7:=Ch.fr h3 rfl
 have l6:=a9.size
 obtain ⟨rA,j8⟩:∃ n,w.heap.size=n:=⟨_,rfl⟩
 obtain ⟨rB,j9⟩:∃ n,w2.heap.size=n:=⟨_,rfl⟩
 obtain ⟨oA,k0⟩:∃ n,w3.heap.size=n:=⟨_,rfl⟩
 obtain ⟨oB,k3⟩:∃ n,w5.heap.size=n:=⟨_,rfl⟩
 rw [j8] at g3;rw [j9] at g4;rw [k0] at g9 c5;rw [k3] at h4 a9
 rw [j8,j9,k0,k3]
 have c6:Ch (·=oA) w4 w6:=c5.ag (Ch.alloc e6)
 have k4:=(g3.alloc e3).alloc e4
 have l7:=(k4.af c6 (by omega)).af a9 (by omega)
 have l8:=((g4.alloc e4).af c6 (by omega)).af a9 (by omega)
 have k5:=(g9.alloc e6).af a9 (by omega)
 have d3:Ch ah w w7:=((((Ch.alloc (F:=ah) e2).ag (Ch.alloc e3)).ag (Ch.alloc e4)).trans c6 (fun i hi he=>by omega)).trans a9 (fun i hi he=>by omega)
 obtain ⟨TA,l9⟩:∃ T:Nat,25=T:=⟨_,rfl⟩
 obtain ⟨TB,m0⟩:∃ T:Nat,30=T:=⟨_,rfl⟩
 rw [l9] at k5
 rw [m0] at h4
 clear c5 c6 a9 e2 e3 e4 e5 e6 e7 g8 h3 g3 g4 d9 g9 a7 k4
 refine ⟨fun i vk w'=>∃ L:List (Nat × ByteArray),L.length≤2∧i=L.length∧vk=2-L.length∧ba w' oA (cA L) TA∧ba w' oB (cB L) TB∧PU w' ws.size L∧(∀ q∈L,w7.heap.size≤q.1)∧Ch (fun j=>j=oA∨j=oB) w7 w',⟨_,[],by decide,rfl,rfl,k5,h4,fun q hq=>(by cases hq),fun q hq=>(by cases hq),Ch.refl _ _⟩,?_⟩
 have m1:=d3.size
 rintro jk i vk w8 ⟨L,hl,rfl,rfl,g5,a8,k6,e1,b3⟩
 refine ⟨fun e8=>?_,fun m2=>?_⟩
 ·have e8:L.length<2:=by have:=dQt e8;omega
  refine ⟨⟨rfl,by decide,by decide⟩,fun w9 e9=>?_⟩
  have h5:ba w9 w8.heap.size ((List.replicate 66 (0:UInt8)).map NM) _:=ba.new e9
  have m3:=h5.lt
  have h6:Ch ah w8 w9:=Ch.alloc e9
  obtain ⟨xb,m5⟩:∃ n,w8.heap.size=n:=⟨_,rfl⟩
  rw [m5] at h5 m3 ⊢
  have o0:=g5.lt
  have o1:=a8.lt
  refine ⟨fun w'=>∃ bs:List UInt8,bs.length=66∧(ws.size=0→bs=List.replicate 66 0)∧ba w' xb (bs.map NM) 5∧Ch (·=xb) w9 w',⟨fun kk k7 w'=>∃ (j:Nat) (bs:List UInt8),kk=j∧j≤66∧k7=66-j∧bs.length=66∧(ws.size=0→bs=List.replicate 66 0)∧ba w' xb (bs.map NM) 5∧Ch (·=xb) w9 w',⟨_,0,_,rfl,by decide,rfl,by simp,fun _=>rfl,h5,Ch.refl _ _⟩,?_⟩,?_⟩
  ·rintro jk kk k7 o2 ⟨j,bs,rfl,hj,rfl,d6,hz,c7,b4⟩
   refine ⟨fun h1=>⟨fun h2=>?_,fun _=>⟨bs,d6,hz,c7,b4⟩⟩,fun _=>⟨bs,d6,hz,c7,b4⟩⟩
   have h1:j<66:=by have:=dQt h1;simp at this;omega
   have h2:=dQt h2
   have hw:IntKind.i64.wrap ((j:Int)+(L.length:Int))=(j:Int)+L.length:=ae (by omega) (by omega)
   rw [hw] at h2 ⊢
   have ea:(⟨xb,0,none⟩:Addr).add ((j:Int).toNat*1)=⟨xb,j,none⟩:=by rw [Int.toNat_natCast,Nat.mul_one,eh,Nat.zero_add]
   have m6:(bs.map NM)[j]?=some (NM bs[j]):=by rw [List.getElem?_map,List.getElem?_eq_getElem (by omega)];rfl
   refine ⟨⟨by omega,h2⟩,⟨by omega,by simp;omega⟩,by rw [ea];exact c7.ok j m6,fun o3 h7=>?_⟩
   rw [ea] at h7
   have h8:=c7.set h7
   refine ⟨66-(j+1),by omega,j+1,bs.set j (ws.data.getD ((j:Int)+L.length).toNat 0),by rw [ae (by omega) (by omega)];rfl,by omega,rfl,by rw [List.length_set];exact d6,fun h0=>by omega,?_,b4.same (Ch.set h7 rfl)⟩
   rw [List.map_set];exact h8
  ·rintro jk c4 ⟨bs,d6,hz,d4,f0⟩
   have a5:Ch ah w8 c4:=h6.trans f0 (fun j hj he=>by omega)
   have h9:=g5.aa a5
   have i0:=a8.aa a5
   have f3:=k6.aa a5
   have g6:(ByteArray.mk bs.toArray).size=66:=by simp [ByteArray.size,d6]
   have k8:ws.size=0→ByteArray.mk bs.toArray=Tk:=fun h0=>by rw [hz h0];rfl
   obtain ⟨t,ht⟩:∃ t,ByteArray.mk bs.toArray=t:=⟨_,rfl⟩
   have cv:∀ w',ba w' xb (bs.map NM) 5→(convert 85 9 (.slice (some ⟨xb,0,none⟩) ((66:Int).toNat) ((66:Int).toNat))).run Tryz.prog w' = .ok (.string t) w':=fun w' h=>ht▸Se h d6
   rw [ht] at g6 k8
   have eA:(⟨oA,0,none⟩:Addr).add ((L.length:Int).toNat*1)=⟨oA,L.length,none⟩:=by rw [Int.toNat_natCast,Nat.mul_one,eh,Nat.zero_add]
   have eB:(⟨oB,0,none⟩:Addr).add ((L.length:Int).toNat*7)=⟨oB,L.length*7,none⟩:=by rw [Int.toNat_natCast,eh,Nat.zero_add]
   rw [eA,eB]
   obtain ⟨B1,B2,B3⟩:=Pn e8 (0,t)
   have put:∀ (wa:World) (b:Nat),Ch ah c4 wa→yn wa b ey t→c4.heap.size≤b→dr wa ⟨oA,L.length,none⟩∧∀ wb:World,wb=wa.setCell ⟨oA,L.length,none⟩ (.pointer (some ⟨b,0,none⟩))→∃ b:Nat,yn wb b ey t∧c4.heap.size≤b∧ba wb oA (cA (L++[(b,t)])) TA∧Ch (·=oA) c4 wb:=fun wa b f4 hK hb=>by
    obtain ⟨a1,a2⟩:=RY e8 (b,t)
    have k9:=h9.aa f4
    refine ⟨k9.ok _ a1,fun wb eb=>?_⟩
    have g7:Ch (·=oA) wa wb:=Ch.set eb rfl
    have e0:=a5.size
    have:=k9.set eb
    rw [show (Value.pointer (some ⟨b,0,none⟩):Value)=CQ (b,t) from rfl,a2] at this
    exact ⟨b,hK.af g7 (by omega),hb,this,f4.any.same g7⟩
   refine ⟨fun w'=>∃ b:Nat,yn w' b ey t∧c4.heap.size≤b∧ba w' oA (cA (L++[(b,t)])) TA∧Ch (·=oA) c4 w',⟨fun w'=>Ch ah c4 w',fun d7 i1=>⟨Ch.drew i1,?_,?_,trivial⟩⟩,?_⟩
   ·have b5:Ch ah c4 d7:=Ch.drew i1
    refine ab (uz d7) ?_
    rintro v i2 ⟨rfl,i3⟩
    have a4:=b5.ag i3
    refine ⟨_,_,_,_,_,_,rfl,a4,t,i2,cv i2 (d4.aa a4),a4,ab (OM i2 g6) ?_⟩
    rintro v m7 ⟨i4,b,rfl,hb,hK⟩
    have b6:=a4.ag i4
    obtain ⟨p1,p2⟩:=put m7 b b6 hK (Nat.le_trans a4.size hb)
    exact ⟨_,_,rfl,b6,⟨by omega,by omega⟩,p1,p2⟩
   ·have b5:Ch ah c4 d7:=Ch.drew i1
    refine ⟨t,d7,cv d7 (d4.aa b5),b5,ab (uz d7) ?_⟩
    rintro v m8 ⟨rfl,i5⟩
    have b2:=b5.ag i5
    refine ⟨_,_,_,_,_,_,rfl,b2,ab (OM m8 g6) ?_⟩
    rintro v m9 ⟨i6,b,rfl,hb,hK⟩
    have b7:=b2.ag i6
    obtain ⟨p1,p2⟩:=put m9 b b7 hK (Nat.le_trans b2.size hb)
    exact ⟨_,_,rfl,b7,⟨by omega,by omega⟩,p1,p2⟩
   ·rintro jk f5 ⟨b,hK,hb,i7,c8⟩
    have e0:=a5.size
    have i8:=i0.af c8 (by omega)
    have f6:=d4.af c8 (by omega)
    have fin:∀ wa:World,Ch ah f5 wa→(dr wa ⟨oB,L.length*7,none⟩∧dr wa ⟨oB,L.length*7+1,none⟩∧dr wa ⟨oB,L.length*7+2,none⟩∧dr wa ⟨oB,L.length*7+3,none⟩∧dr wa ⟨oB,L.length*7+4,none⟩∧dr wa ⟨oB,L.length*7+5,none⟩∧dr wa ⟨oB,L.length*7+6,none⟩)∧∀ wb:World,wb=wa.setCells oB (L.length*7) (sg t) →
      ∃ vk:Nat,vk<2-L.length∧∃ L':List (Nat × ByteArray),L'.length≤2∧IntKind.i64.wrap ((L.length:Int)+1)=L'.length∧vk=2-L'.length∧ba wb oA (cA L') TA∧ba wb oB (cB L') TB∧PU wb ws.size L'∧(∀ q∈L',w7.heap.size≤q.1)∧Ch (fun j=>j=oA∨j=oB) w7 wb:=fun wa f4=>by
     have d1:=i8.aa f4
     refine ⟨⟨d1.ok _ (B2 0 (by omega)),d1.ok _ (B2 1 (by omega)),d1.ok _ (B2 2 (by omega)),d1.ok _ (B2 3 (by omega)),d1.ok _ (B2 4 (by omega)),d1.ok _ (B2 5 (by omega)),d1.ok _ (B2 6 (by omega))⟩,fun wb eb=>?_⟩
     have g7:Ch (·=oB) wa wb:=Ch.fr eb rfl
     have l1:=(nh (sg t) (L.length*7) d1 (by rw [B1];show L.length*7+7≤14;omega)).1
     rw [← eb,(Pn e8 (b,t)).2.2] at l1
     have c9:Ch (·=oB) f5 wb:=f4.any.same g7
     have i9:(L++[(b,t)]).length=L.length+1:=by simp
     refine ⟨2-(L.length+1),by omega,L++[(b,t)],by omega,by rw [ae (by omega) (by omega),i9];omega,by omega,i7.af c9 (by omega),l1,fun q hq=>?_,fun q hq=>?_,?_⟩
     ·rcases List.mem_append.1 hq with hq|hq
      ·obtain ⟨k1,k2⟩:=f3 q hq
       exact ⟨(k1.af c8 (by have:=e1 q hq;omega)).af c9 (by have:=e1 q hq;omega),k2⟩
      ·rw [List.mem_singleton] at hq
       subst hq
       exact ⟨hK.af c9 (by omega),g6,k8⟩
     ·rcases List.mem_append.1 hq with hq|hq
      ·exact e1 q hq
      ·rw [List.mem_singleton] at hq
       subst hq
       have:=b3.size
       show w7.heap.size≤b
       omega
     ·exact (((b3.trans a5 (fun _ _ h=>h.elim)).trans c8 (fun j hj he => .inl he)).trans c9 (fun j hj he => .inr he))
    refine ⟨fun w'=>Ch ah f5 w',fun d8 j0=>⟨Ch.drew j0,?_,?_,trivial⟩⟩
    ·have b8:Ch ah f5 d8:=Ch.drew j0
     refine ab (uz d8) ?_
     rintro v j1 ⟨rfl,j2⟩
     have a6:=b8.ag j2
     obtain ⟨p1,p2⟩:=fin j1 a6
     exact ⟨_,_,_,_,_,_,rfl,a6,t,j1,cv j1 (f6.aa a6),a6,⟨by omega,by omega⟩,p1,fun n0 n1=>p2 n0 n1⟩
    ·have b8:Ch ah f5 d8:=Ch.drew j0
     refine ⟨t,d8,cv d8 (f6.aa b8),b8,ab (uz d8) ?_⟩
     rintro v n2 ⟨rfl,j3⟩
     have b9:=b8.ag j3
     obtain ⟨p1,p2⟩:=fin n2 b9
     exact ⟨_,_,_,_,_,_,rfl,b9,⟨by omega,by omega⟩,p1,fun n3 n4=>p2 n3 n4⟩
 ·have j4:L.length=2:=by have:=dQf m2;omega
  obtain ⟨q0,q1,rfl⟩:∃ q0 q1,L=[q0,q1]:=by
   rcases L with _|⟨q0,_|⟨q1,_|⟨q2,L⟩⟩⟩
   ·simp at j4
   ·simp at j4
   ·exact ⟨q0,q1,rfl⟩
   ·simp at j4
  have o4:∀ w',w'=w8.drew→Ch ah w8 w':=fun w' e=>Ch.drew e
  have n5:=l7.af b3 (by omega)
  have n6:=l8.af b3 (by omega)
  refine ⟨fun w'=>Ch (fun j=>j=rA∨j=rB) w8 w',fun j5 n7=>?_⟩
  have d0:Ch ah w8 j5:=Ch.drew n7
  have nA:¬ (oA=rA∨oA=rB):=by omega
  have nB:¬ (oB=rA∨oB=rB):=by omega
  have d5:=n5.aa d0
  refine ⟨d0.any,_,_,⟨fun w' k=>(g5.af k nA).cell 0 rfl,fun w' k=>(g5.af k nA).cell 1 rfl⟩,_,_,_,_,_,_,_,_,_,_,_,_,_,_,⟨fun w' k=>(a8.af k nB).cell 0 rfl,fun w' k=>(a8.af k nB).cell 1 rfl,fun w' k=>(a8.af k nB).cell 2 rfl,fun w' k=>(a8.af k nB).cell 3 rfl,fun w' k=>(a8.af k nB).cell 4 rfl,fun w' k=>(a8.af k nB).cell 5 rfl,fun w' k=>(a8.af k nB).cell 6 rfl,fun w' k=>(a8.af k nB).cell 7 rfl,fun w' k=>(a8.af k nB).cell 8 rfl,fun w' k=>(a8.af k nB).cell 9 rfl,fun w' k=>(a8.af k nB).cell 10 rfl,fun w' k=>(a8.af k nB).cell 11 rfl,fun w' k=>(a8.af k nB).cell 12 rfl,fun w' k=>(a8.af k nB).cell 13 rfl⟩,⟨d5.ok 0 rfl,d5.ok 1 rfl⟩,fun f7 n8=>?_⟩
  have f8:f7=j5.setCells rA 0 [CQ q0,CQ q1]:=n8
  have j6:=d5.all [CQ q0,CQ q1] rfl f8
  have f9:Ch (·=rA) j5 f7:=Ch.fr f8 rfl
  have a0:=(n6.aa d0).af f9 (by omega)
  have d2:Ch (fun j=>j=rA∨j=rB) w8 f7:=d0.any.same (f9.mono (fun _ _ h => .inl h))
  refine ⟨d2,⟨a0.ok 0 rfl,a0.ok 1 rfl,a0.ok 2 rfl,a0.ok 3 rfl,a0.ok 4 rfl,a0.ok 5 rfl,a0.ok 6 rfl,a0.ok 7 rfl,a0.ok 8 rfl,a0.ok 9 rfl,a0.ok 10 rfl,a0.ok 11 rfl,a0.ok 12 rfl,a0.ok 13 rfl⟩,fun j7 n9=>?_⟩
  have g0:j7=f7.setCells rB 0 (sg q0.2++sg q1.2):=n9
  have a3:=a0.all (sg q0.2++sg q1.2) rfl g0
  have g1:Ch (·=rB) f7 j7:=Ch.fr g0 rfl
  have g2:=j6.af g1 (by omega)
  have c0:Ch (fun j=>j=rA∨j=rB) w8 j7:=d2.same (g1.mono (fun _ _ h => .inr h))
  refine ⟨c0,_,_,⟨g2.cell 0 rfl,g2.cell 1 rfl⟩,_,_,_,_,_,_,_,_,_,_,_,_,_,_,⟨a3.cell 0 rfl,a3.cell 1 rfl,a3.cell 2 rfl,a3.cell 3 rfl,a3.cell 4 rfl,a3.cell 5 rfl,a3.cell 6 rfl,a3.cell 7 rfl,a3.cell 8 rfl,a3.cell 9 rfl,a3.cell 10 rfl,a3.cell 11 rfl,a3.cell 12 rfl,a3.cell 13 rfl⟩,q0,q1,rfl,fun q hq=>?_,?_,fun q hq=>?_⟩
  ·obtain ⟨k1,k2⟩:=k6 q hq
   exact ⟨k1.af c0 (by have:=e1 q hq;omega),k2⟩
  ·exact (d3.trans b3 (fun j hj he=>by omega)).trans c0 (fun j hj he=>by omega)
  ·have:=e1 q hq;have:=d3.size;omega
theorem Iw (w:World) (ws:ByteArray):Calls Tryz.prog ol #[.string ws] w (bc fun v w'=>∃ q0 q1:Nat × ByteArray,v = .tuple #[.agg #[CQ q0,CQ q1],.agg (sg q0.2++sg q1.2).toArray]∧PU w' ws.size [q0,q1]∧Ch ah w w'):=by
 refine ab (Gp w ws) ?_
 rintro v w' ⟨q0,q1,rfl,a,b,_⟩
 exact ⟨q0,q1,rfl,a,b⟩
end Go.Proofs.YtkbikekbaboclaaGreat.fo
set_option linter.unusedVariables false
set_option linter.unusedSimpArgs false
namespace Go.Proofs.YtkbikekbaboclaaGreat.fo
open Go Go.Proofs V Vc Step bh dh ee fv qn Go.RowKit
open gm (da di dl ik)
structure St (W w:World) (cb pb xb k:Nat) (cf:ep) (md:rY) (ps:List ak) (es:List bw) (rs:List bo) (R:Nat→Nat→Prop):Prop where
 c:∃ (o:OA) (c:Nat) (qs:List (nq × bo)),cn W w cb pb xb k 1000 ps es o c qs R∧qs.map (·.2)=rs
 v:sb cf md k ps es rs
 n:rs.length≤8
 k:1≤k∧k≤64
structure Sz (w0 w:World) (R:Nat→Nat→Prop) (t:sx) (oo:OA) (oc:Nat) (ao:OA) (ac:Nat) (aq:List (da × di)) (TA:Nat→Prop):Prop where
 out:IV w (.slice oo t.out.length oc) t.out (de R)
 aw:aq.map (·.1)=t.Bk
 rd:Rd w ao (aq.map dl).flatten TA
 ta:∀ i,TA i→w0.heap.size≤i∧∀ k,¬ R k i
 ask:∀ q∈aq,lk w q (R 2)
structure KG (w w':World) (R R':Nat→Nat→Prop):Prop where
 g:∀ i,de R' i→Ext (de R) w w' i
 two:∀ i,R 2 i→R' 2 i
 ch:Ch (dt R) w w'
section
variable {W w w' w'':World} {cb pb xb k:Nat} {cf:ep} {md:rY} {ps ps':List ak} {es es':List bw} {rs rs':List bo} {R R' R'':Nat→Nat→Prop} {G:Nat→Prop} {B:Int}
theorem cn.SV {o:OA} {c:Nat} {qs:List (nq × bo)} (h:cn W w cb pb xb k B ps es o c qs R) (hv:sb cf md k ps es rs) (hn:rs.length≤900):cn W w cb pb xb k 1000 ps es o c qs R :=
 ⟨h.fam,h.f,h.z,h.blk,h.own,⟨h.px.p,h.px.x,⟨h.px.g.len,fun p hp=>by
  obtain ⟨j,hj,rfl⟩:=List.getElem_of_mem hp
  have h1:=hv.ar (j:Int)
  rw [ef (by omega) (by simpa using hj)] at h1
  have h2:=h.px.g.pg _ hp
  simp only [Int.toNat_natCast] at h1
  exact ⟨h2.1,by omega,h2.2.2⟩⟩,h.px.f,h.px.ap⟩,h.nd,h.rn⟩
theorem St.aa (h:St W w cb pb xb k cf md ps es rs R) (hc:Ch ah w w'):St W w' cb pb xb k cf md ps es rs R:=by
 obtain ⟨o,c,qs,h1,h2⟩:=h.c
 exact ⟨⟨o,c,qs,h1.aa hc,h2⟩,h.v,h.n,h.k⟩
theorem St.ze (h:St W w cb pb xb k cf md ps es rs R) (hc:Ch G w w') (hG:∀ k i,R k i→¬ G i) (hW:∀ i,i<W.heap.size→¬ G i):St W w' cb pb xb k cf md ps es rs R:=by
 obtain ⟨o,c,qs,h1,h2⟩:=h.c
 exact ⟨⟨o,c,qs,h1.ze hc hG hW,h2⟩,h.v,h.n,h.k⟩
theorem St.ch (h:St W w cb pb xb k cf md ps es rs R):Ch ah W w:=by
 obtain ⟨o,c,qs,h1,h2⟩:=h.c
 exact h1.ch
theorem St.lt (h:St W w cb pb xb k cf md ps es rs R):∀ i,de R i→W.heap.size≤i∧i<w.heap.size:=by
 obtain ⟨o,c,qs,h1,h2⟩:=h.c
 exact fun i hi=>⟨h1.ge i hi,h1.lt i hi⟩
theorem St.Bz (h:St W w cb pb xb k cf md ps es rs R):∀ i,R 2 i→¬ dt R i:=by
 obtain ⟨o,c,qs,h1,h2⟩:=h.c
 exact h1.Bz
theorem St.GV (h:St W w cb pb xb k cf md ps es rs R):es.length≤64:=by have:=h.v.inv.LQ;have:=h.k;omega
theorem St.aj (h:St W w cb pb xb k cf md ps es rs R) (hm:∀ v,Md cf (md v)) {r:bo} (hr:r∈rs):r.aj.length≤900∧r.done≤1000∧r.said.length≤900:=by
 obtain ⟨h1,h2,h3⟩:=h.v.run r hr
 have:=h2.len
 have:=h2.dn
 have:=h1.hi
 have:=(hm 0).ok.2.2.2.2.2.1
 have:r.said.length≤r.dg.length:=by unfold bo.dg;rw [List.length_append];omega
 omega
theorem St.new (hW:Ch ah W w) (n:Int):Calls Tryz.prog Ey #[.int .i64 n] w (bc fun v w'=>Ch ah w w'∧(¬ (1≤n∧n≤64)→v = .pointer none)∧(1≤n∧n≤64→∃ (cb pb xb:Nat) (R:Nat→Nat→Prop),v = .pointer (some ⟨cb,0,none⟩)∧St W w' cb pb xb n.toNat cf md (List.replicate n.toNat qD) [] [] R∧∀ i,de R i→db w w' i)):=by
 refine ab (Hd hW n) ?_
 rintro v w' ⟨h1,h2,h3⟩
 refine ⟨h1,h2,fun hn=>?_⟩
 obtain ⟨cb,pb,xb,R,rfl,hC,hA⟩:=h3 hn
 exact ⟨cb,pb,xb,R,rfl,⟨⟨none,0,[],hC.SV (cf:=cf) (md:=md) (rs:=[]) (sb.empty _) (by simp),rfl⟩,sb.empty _,by simp,by omega⟩,hA⟩
theorem St.pick (h:St W w cb pb xb k cf md ps es rs R) (hm:∀ v,Md cf (md v)) (a8:md.vm≤2147483647) (hr:0<rs.length) (n:Int) {i:Nat} (hi:CK n rs.length=i) (a1:i<rs.length) :
  Calls Tryz.prog ng #[.pointer (some ⟨cb,0,none⟩),.int .i64 n] w (bc fun v w'=>∃ (cr:Cr) (t:sx) (m:Nat) (R':Nat→Nat→Prop) (oo:OA) (oc:Nat) (ao:OA) (ac:Nat) (aq:List (da × di)) (TA:Nat→Prop),v = .tuple #[.agg (im t oo oc ao aq.length ac).toArray,.int .i64 0] ∧
   tI rs[i].ask.id i (lz i (es.length+rs.length+1) ⟨ps,es,rs,[],true⟩)=(cr,t)∧St W w' cb pb xb k cf md cr.ps cr.es cr.rs R'∧JG cf md i rs cr t m∧Sz w w' R' t oo oc ao ac aq TA∧KG w w' R R'∧R' 2=R 2∧((rs[i].done+1) % 4≠0→cr.es.length≤es.length)):=by
 obtain ⟨o,c,qs,hC,hq⟩:=h.c
 have a6:qs.length=rs.length:=by rw [← hq];simp
 have b8:=h.GV
 have hn:=h.n
 have hk:=h.k
 obtain ⟨s,hs⟩:∃ s,lz i (es.length+rs.length+1) ⟨ps,es,rs,[],true⟩=s:=⟨_,rfl⟩
 rw [hs]
 obtain ⟨cr,t,a2⟩:∃ cr t,tI rs[i].ask.id i s=(cr,t):=⟨_,_,rfl⟩
 obtain ⟨p1,p2,p3,p4,p6,m,p5⟩:=h.v.pick hm a8 a1 hs a2
 have hP:=Mz (n:=n) (s:=s) (cr:=cr) (t:=t) (i:=i) hC (by omega) (by omega) (by omega) (by omega) (fun q a9=>by
  have:=h.aj hm (r:=q.2) (by rw [← hq];exact List.mem_map.2 ⟨q,a9,rfl⟩)
  omega) (by rw [a6];exact hi) (by rw [a6,hq];exact hs) (by omega) p3 (fun q b2=>by
  have:rs[i]?=some q.2:=by rw [← hq,List.getElem?_map,b2];rfl
  rw [List.getElem?_eq_getElem a1] at this
  injection this with this
  rw [← this];exact a2)
 refine ab hP ?_
 rintro v w' ⟨oo,oc,ao,an,ac,rfl,o',c',qs',R',aq,TA,rfl,b3,a3,a4,b4,b5,a7,_,a5,b6,a0,b7⟩
 have b9:cr.rs.length≤rs.length:=by
  have:=p5.le
  by_cases hg:t.gave=true
  ·rw [(p5.gave hg).2.2,List.length_take];omega
  ·have hg:t.gave=false:=by simpa using hg
   by_cases hd:t.done=true
   ·rw [(p5.done hd).2.2.2,List.length_eraseIdx,List.length_take];split <;> omega
   ·have hd:t.done=false:=by simpa using hd
    obtain ⟨_,_,r,r',_,_,_,e⟩:=p5.goes hg hd
    rw [e,List.length_set,List.length_take];omega
 exact ⟨cr,t,m,R',oo,oc,ao,ac,aq,TA,rfl,a2,⟨⟨o',c',qs',b3.SV p4 (by omega),a3⟩,p4,by omega,h.k⟩,p5,⟨a4,b4,b5,fun i hi=>⟨(a7 i hi).1,(a7 i hi).2.2⟩,a5⟩,⟨b6,fun i hi=>by rw [a0];exact hi,b7.mono (fun i _ hi=>hi.elim (fun x=>x) (fun x=>x.elim))⟩,a0,p6 _ (List.getElem?_eq_getElem a1)⟩
theorem St.Rf (h:St W w cb pb xb k cf md ps es [] R) (n:Int):Calls Tryz.prog ng #[.pointer (some ⟨cb,0,none⟩),.int .i64 n] w (bc fun v w'=>v = .tuple #[.agg (im ⟨0,false,false,[],[]⟩ none 0 none 0 0).toArray,.int .i64 8]∧Ch ah w w'):=by
 obtain ⟨o,c,qs,hC,hq⟩:=h.c
 have hq:qs=[]:=List.map_eq_nil_iff.1 hq
 subst hq
 refine pa.calls _ _ ?_
 intro w1 e1
 have a0:=ba.new e1
 have a2:Ch ah w w1:=Ch.alloc e1
 refine ⟨_,_,_,(hC.aa a2).blk.cell 2 rfl,fun _=>⟨⟨a0.ok 0 rfl,a0.ok 1 rfl,a0.ok 2 rfl,a0.ok 3 rfl,a0.ok 4 rfl⟩,fun w2 e2=>?_⟩,fun hn=>by simp at hn⟩
 have a3:w2=w1.setCells w.heap.size 0 (CD 0 false false none 0 0 none 0 0):=e2
 have a1:=a0.all (CD 0 false false none 0 0 none 0 0) rfl a3
 exact ⟨_,_,_,_,_,_,_,_,_,⟨a1.cell 0 rfl,a1.cell 1 rfl,a1.cell 2 rfl,a1.cell 3 rfl,a1.cell 4 rfl⟩,rfl,a2.trans (Ch.fr (F:=(·=w.heap.size)) a3 rfl) (fun i hi he=>by omega)⟩
theorem St.join {bb:Nat} {a:da × di} {D:Nat→Prop} (h:St W w cb pb xb k cf md ps es rs R) (hb:Su W w R bb cf (md a.1.ver)) (ha:lk w a D) (hD:∀ i,i<w.heap.size→D i→¬ dt R i) (hv:fm cf k rs a.1=0→a.1.ver≤md.vm) :
  Calls Tryz.prog my #[.pointer (some ⟨cb,0,none⟩),.pointer (some ⟨bb,0,none⟩),.agg (dl a).toArray] w (bc fun v w'=>v = .int .i64 (fm cf k rs a.1)∧∃ (ps':List ak) (es':List bw) (rs':List bo) (R':Nat→Nat→Prop),St W w' cb pb xb k cf md ps' es' rs' R'∧KG w w' R R'∧(fm cf k rs a.1≠0→ps'=ps∧es'=es∧rs'=rs) ∧
   (fm cf k rs a.1=0→ps'=mo ps (bz es a.1.ver a.1.ai).2∧es'=(bz es a.1.ver a.1.ai).1∧rs'=rs++[gp cf (md a.1.ver) a.1 (bz es a.1.ver a.1.ai).2])):=by
 obtain ⟨o,c,qs,hC,hq⟩:=h.c
 have a5:qs.length=rs.length:=by rw [← hq];simp
 have a6:=h.GV
 have hn:=h.n
 refine ab (NL hC h.k (by omega) (by omega) (by omega) hb ha hD) ?_
 rintro v w' ⟨rfl,a1,a2,a0⟩
 rw [hq] at a2 a0 ⊢
 refine ⟨rfl,?_⟩
 by_cases hz:fm cf k rs a.1=0
 ·obtain ⟨o',c',g,R',a4,h2,hg⟩:=a0 hz
  have a3:=h.v.join hz (hv hz)
  have hl:rs.length<8:=by
   unfold fm at hz
   split at hz
   ·cases hz
   ·split at hz
    ·cases hz
    ·split at hz
     ·cases hz
     ·omega
  exact ⟨_,_,_,R',⟨⟨o',c',_,a4.SV a3 (by rw [List.length_append];simp;omega),by rw [List.map_append,hq];rfl⟩,a3,by rw [List.length_append];simp;omega,h.k⟩,⟨hg,h2,a1⟩,fun hx=>absurd hz hx,fun _=>⟨rfl,rfl,rfl⟩⟩
 ·exact ⟨ps,es,rs,R,⟨⟨o,c,qs,a2 hz,hq⟩,h.v,h.n,h.k⟩,⟨fun i hi => .inl hi,fun i hi=>hi,a1⟩,fun _=>⟨rfl,rfl,rfl⟩,fun hx=>absurd hx hz⟩
theorem St.leave (h:St W w cb pb xb k cf md ps es rs R) (hm:∀ v,Md cf (md v)) (id:Int) :
  Calls Tryz.prog oJ #[.pointer (some ⟨cb,0,none⟩),.int .i64 id] w (bc fun v w'=>∃ (ps':List ak) (rs':List bo),St W w' cb pb xb k cf md ps' es rs' R∧KG w w' R R∧(ff rs id<0→v = .bool false∧ps'=ps∧rs'=rs)∧∀ i (hi:i<rs.length),ff rs id=i→v = .bool true∧ps'=fk ps rs[i].aj∧rs'=rs.eraseIdx i):=by
 obtain ⟨o,c,qs,hC,hq⟩:=h.c
 have a4:qs.length=rs.length:=by rw [← hq];simp
 have hn:=h.n
 have hk:=h.k
 refine ab (Lp hC (by omega) (by omega) (by omega) (fun q a2=>by
  have:=h.aj hm (r:=q.2) (by rw [← hq];exact List.mem_map.2 ⟨q,a2,rfl⟩)
  omega) id) ?_
 rintro v w' ⟨a1,h1,h2⟩
 rw [hq] at h1 h2
 by_cases hf:ff rs id<0
 ·obtain ⟨rfl,a0⟩:=h1 hf
  exact ⟨ps,rs,⟨⟨o,c,qs,a0,hq⟩,h.v,h.n,h.k⟩,⟨fun i hi => .inl hi,fun i hi=>hi,a1⟩,fun _=>⟨rfl,rfl,rfl⟩,fun i hi he=>by omega⟩
 ·obtain ⟨i,hi,he⟩:∃ i,i<rs.length∧ff rs id=(i:Int):=by
   unfold ff at hf ⊢
   split
   ·exact ⟨_,by assumption,rfl⟩
   ·rename_i hx;rw [if_neg hx] at hf;omega
  obtain ⟨rfl,a0⟩:=h2 i (by omega) he
  have a3:(qs[i]'(by omega)).2=rs[i]:=by simp only [← hq,List.getElem_map]
  rw [a3] at a0
  refine ⟨_,_,⟨⟨o,c,_,a0,by rw [map_eraseIdx,hq]⟩,h.v.cut hi,by rw [List.length_eraseIdx,if_pos hi];omega,h.k⟩,⟨fun i hi => .inl hi,fun i hi=>hi,a1⟩,fun hx=>absurd hx hf,fun j hj a5=>?_⟩
  obtain rfl:i=j:=by omega
  exact ⟨rfl,rfl,rfl⟩
theorem St.forget (h:St W w cb pb xb k cf md ps es rs R) (v:Int):Calls Tryz.prog nQ #[.pointer (some ⟨cb,0,none⟩),.int .i64 v] w (bc fun x w'=>x = .int .i64 ((es.length:Int)-(es.filter (js v)).length)∧St W w' cb pb xb k cf md (uL v ps es) (es.filter (js v)) rs R∧KG w w' R R):=by
 obtain ⟨o,c,qs,hC,hq⟩:=h.c
 have a2:=h.GV
 have hk:=h.k
 refine ab (Ib hC (by omega) (by omega) (by omega) v) ?_
 rintro x w' ⟨rfl,a0,a1⟩
 exact ⟨rfl,⟨⟨o,c,qs,a0,hq⟩,h.v.forget v,h.n,h.k⟩,⟨fun i hi => .inl hi,fun i hi=>hi,a1⟩⟩
theorem St.ids (h:St W w cb pb xb k cf md ps es rs R):Calls Tryz.prog qL #[.pointer (some ⟨cb,0,none⟩)] w (bc fun v w'=>IV w' v (rs.map (·.ask.id)) (db w w')∧Ch ah w w'):=by
 obtain ⟨o,c,qs,hC,hq⟩:=h.c
 have a0:qs.length=rs.length:=by rw [← hq];simp
 have hn:=h.n
 have:=Pd hC (by omega)
 rw [show qs.map (fun q=>q.2.ask.id)=rs.map (·.ask.id) from by rw [← hq,List.map_map];rfl] at this
 exact this
theorem St.said (h:St W w cb pb xb k cf md ps es rs R) (hm:∀ v,Md cf (md v)) (id:Int):Calls Tryz.prog pJ #[.pointer (some ⟨cb,0,none⟩),.int .i64 id] w (bc fun v w'=>Ch ah w w'∧(ff rs id<0→v = .slice none 0 0)∧∀ i (hi:i<rs.length),ff rs id=i→IV w' v rs[i].said (db w w')):=by
 obtain ⟨o,c,qs,hC,hq⟩:=h.c
 have a2:qs.length=rs.length:=by rw [← hq];simp
 have hn:=h.n
 refine ab (NE hC (by omega) (fun q a0=>by
  have:=h.aj hm (r:=q.2) (by rw [← hq];exact List.mem_map.2 ⟨q,a0,rfl⟩)
  omega) id) ?_
 rintro v w' ⟨h1,h2,h3⟩
 rw [hq] at h2 h3
 refine ⟨h1,h2,fun i hi he=>?_⟩
 have a1:(qs[i]'(by omega)).2=rs[i]:=by simp only [← hq,List.getElem_map]
 have:=h3 i (by omega) he
 rw [a1] at this
 exact this
theorem St.free (h:St W w cb pb xb k cf md ps es rs R):Calls Tryz.prog pD #[.pointer (some ⟨cb,0,none⟩)] w (bc fun v w'=>v = .int .i64 (oW ps)∧w'=w):=by
 obtain ⟨o,c,qs,hC,hq⟩:=h.c
 exact LI hC
theorem St.kept (h:St W w cb pb xb k cf md ps es rs R):Calls Tryz.prog pG #[.pointer (some ⟨cb,0,none⟩)] w (bc fun v w'=>v = .int .i64 es.length∧w'=w):=by
 obtain ⟨o,c,qs,hC,hq⟩:=h.c
 exact Ng hC
end
end Go.Proofs.YtkbikekbaboclaaGreat.fo
set_option linter.unusedVariables false
set_option linter.unusedSimpArgs false
namespace Go.Proofs.YtkbikekbaboclaaGreat.fo
open Go Go.Proofs V Vc Step bh dh ee fv qn Go.RowKit
open gm (da di dl ik)
def SC:rY:=⟨fun _=>Tk,2⟩
def FR:da:=⟨5,1,[1,2],1,[65536]⟩
theorem Pf (v:Int):Md ey (SC v):=QC rfl
theorem Tl:gk ey SC FR=[1]:=by kernel_rfl
theorem Rl:fm ey 2 [] FR=0:=by kernel_rfl
theorem Nk (v:Int) (t:List Int):bz [] v t=([],[]):=by
 unfold bz
 exact ur (by simp)
theorem Oa {w w1:World} (l:List Int) {T:Nat} (e:w1=w.alloc (.cells ((l.map (Value.int .i64)).toArray) T (0,0))) (hl:l.length≤maxLen):IV w1 (.slice (some ⟨w.heap.size,0,none⟩) l.length l.length) l (·=w.heap.size):=by
 have hB:=ba.new e
 exact ⟨_,_,rfl,Nat.le_refl _,hl,hB.rd⟩
set_option maxRecDepth 100000 in
set_option maxHeartbeats 2000000 in
theorem Ky (w:World):Calls Tryz.prog uh #[] w (bc fun v w'=>v = .bool true∧Ch ah w w'):=by
 refine wE.calls ?_
 refine ab (Iw w _) ?_
 rintro v w1 ⟨q0,q1,rfl,m1,m2⟩
 refine ⟨_,_,_,_,_,_,_,_,_,_,_,_,_,_,_,_,rfl,fun w2 e2 w3 e3=>?_⟩
 have f5:=ba.new e2
 have b7:=f5.alloc e3
 have e6:=ba.new e3
 have q5:=f5.lt
 have q6:=e6.lt
 obtain ⟨bA,m3⟩:∃ n,w1.heap.size=n:=⟨_,rfl⟩
 obtain ⟨bB,m5⟩:∃ n,w2.heap.size=n:=⟨_,rfl⟩
 rw [m3] at b7 ⊢
 rw [m5] at e6 ⊢
 refine ⟨⟨b7.ok 0 rfl,b7.ok 1 rfl⟩,fun w4 e4=>?_⟩
 have f6:w4=w3.setCells bA 0 [CQ q0,CQ q1]:=e4
 have k1:=b7.all [CQ q0,CQ q1] rfl f6
 have b8:Ch (·=bA) w3 w4:=Ch.fr f6 rfl
 have a4:=e6.af b8 (by omega)
 refine ⟨⟨a4.ok 0 rfl,a4.ok 1 rfl,a4.ok 2 rfl,a4.ok 3 rfl,a4.ok 4 rfl,a4.ok 5 rfl,a4.ok 6 rfl,a4.ok 7 rfl,a4.ok 8 rfl,a4.ok 9 rfl,a4.ok 10 rfl,a4.ok 11 rfl,a4.ok 12 rfl,a4.ok 13 rfl⟩,fun w5 e5=>?_⟩
 have k2:w5=w4.setCells bB 0 (sg q0.2++sg q1.2):=e5
 have b9:Ch (·=bB) w4 w5:=Ch.fr k2 rfl
 have k3:=k1.af b9 (by omega)
 have f7:Ch ah w1 w3:=(Ch.alloc (F:=ah) e2).ag (Ch.alloc e3)
 have b2:Ch ah w1 w5:=(f7.trans b8 (fun i hi he=>by omega)).trans b9 (fun i hi he=>by omega)
 clear e2 e3 e4 e5 f6 k2 f5 b7 e6 k1 a4
 have f8:=m2.ag b2
 obtain ⟨hK,_,hz⟩:=m1 q0 (by simp)
 rw [hz rfl] at hK
 have m6:=hK.aa b2
 have q7:=b2.size
 refine ab (St.new (W:=w5) (w:=w5) (cf:=ey) (md:=SC) (Ch.refl _ _) 2) ?_
 rintro v w6 ⟨k4,_,h6⟩
 obtain ⟨cb,pb,xb,R,rfl,hS,hA⟩:=h6 (by omega)
 have hS:St w5 w6 cb pb xb 2 ey SC (List.replicate 2 qD) [] [] R:=hS
 refine ⟨_,rfl,⟨by omega,by omega⟩,some ⟨q0.1,0,none⟩,(k3.aa k4).cell 0 rfl,eg rfl (eg rfl ?_)⟩
 refine ab (Hd (W:=w6) (Ch.refl _ _) 0) ?_
 rintro v w7 ⟨f9,h7,_⟩
 obtain rfl:=h7 (by omega)
 have c0:=k4.ag f9
 refine ⟨none,rfl,eg rfl ⟨⟨by omega,by omega⟩,some ⟨q0.1,0,none⟩,(k3.aa c0).cell 0 rfl,fun w8 e8 w9 e9=>?_⟩⟩
 have k5:=Oa (w1:=w8) [1,2] e8 (by decide)
 have m7:=Oa (w1:=w9) [65536] e9 (by decide)
 have m8:Ch ah w7 w8:=Ch.alloc e8
 have k6:Ch ah w8 w9:=Ch.alloc e9
 have c4:=m8.ag k6
 have q8:w7.heap.size<w8.heap.size:=(ba.new e8).lt
 have q9:w8.heap.size<w9.heap.size:=(ba.new e9).lt
 obtain ⟨o8,c8,m9,_,_,k7⟩:=k5.aa k6
 injection m9 with i1 i2 i3
 subst i1
 obtain ⟨o9,c9,n0,_,_,k8⟩:=m7
 injection n0 with i4 i5 i6
 subst i4
 have c5:lk w9 (FR,⟨some ⟨w7.heap.size,0,none⟩,2,some ⟨w8.heap.size,0,none⟩,1⟩) (fun i=>i=w7.heap.size∨i=w8.heap.size) :=
  ⟨⟨k7.mono (fun _ _ h => .inl h),k8.mono (fun _ _ h => .inr h),show 2≤1000 by decide,show 1≤1000 by decide⟩,Nat.le_refl 2,show 2≤maxLen by decide,Nat.le_refl 1,show 1≤maxLen by decide⟩
 have n2:=hS.aa (f9.ag c4)
 have n3:=f9.size
 have hJ:=n2.join (bb:=q0.1) (.inl m6) c5 (fun i hi hd hm=>by
  have:=(hA i (dz i hm)).2
  omega) (fun _=>show (1:Int)≤2 by decide)
 refine ab hJ ?_
 rintro v n4 ⟨rfl,r0,r4,r5,R1,e7,n5,_,k9⟩
 obtain ⟨rfl,rfl,rfl⟩:=k9 Rl
 rw [show ((FR,(⟨some ⟨w7.heap.size,0,none⟩,2,some ⟨w8.heap.size,0,none⟩,1⟩:di)).1)=FR from rfl,Nk] at e7
 rw [show fm ey 2 [] (FR,(⟨some ⟨w7.heap.size,0,none⟩,2,some ⟨w8.heap.size,0,none⟩,1⟩:di)).1=0 from Rl]
 obtain ⟨r1,g0⟩:∃ r1,gp ey (SC FR.ver) FR []=r1:=⟨_,rfl⟩
 rw [List.nil_append,g0] at e7
 have c6:r1.done=0∧r1.ask=FR:=by rw [← g0];exact ⟨rfl,rfl⟩
 clear hJ k7 k8 k5 c5 g0 k9 e8 e9
 have g1:=c0.ag c4
 have n1:∀ i,i<w5.heap.size→¬ de R1 i:=fun i hi hm=>by have:=(e7.lt i hm).1;omega
 refine ⟨0,rfl,ab (e7.pick Pf (by decide) (by simp) 0 (i:=0) rfl (by simp)) ?_⟩
 rintro v f0 ⟨⟨r6,n6,n7⟩,t1,m,R2,g2,g3,g4,g5,g6,TA1,rfl,_,g7,f3,_,n8,_,g8⟩
 have n9:=f3.le
 have c7:t1.done=false:=by
  cases h:t1.done with
  | false=>rfl
  | true =>
   have:=f3.dn h r1 rfl
   rw [c6.2,c6.1] at this
   exact absurd this (by decide)
 have o0:t1.gave=false:=by
  cases h:t1.gave with
  | false=>rfl
  | true=>have:=(f3.gave h).2.1;omega
 obtain ⟨r7,_,r,r2,hr,d0,g9,d1⟩:=f3.goes o0 c7
 have h0:m=1:=by simp at n9;omega
 subst h0
 simp only [List.getElem?_cons_zero,Option.some.injEq] at hr
 subst hr
 rw [c6.2] at d0
 rw [c6.1] at g9
 have h3:n7=[r2]:=d1
 subst h3
 have d2:n6=[]:=List.eq_nil_of_length_eq_zero (by
  have:=g8 (by simp only [List.getElem_cons_zero];rw [c6.1];decide)
  simpa using this)
 subst d2
 refine ⟨_,_,_,_,_,_,_,_,_,_,rfl,fun o1 l1=>?_⟩
 have a2:=ba.new l1
 have o2:=a2.lt
 obtain ⟨ta,o3⟩:∃ n,f0.heap.size=n:=⟨_,rfl⟩
 rw [o3] at a2 o2 ⊢
 refine ⟨⟨a2.ok 0 rfl,a2.ok 1 rfl,a2.ok 2 rfl,a2.ok 3 rfl,a2.ok 4 rfl⟩,fun l2 o4=>?_⟩
 have d3:l2=o1.setCells ta 0 (im t1 g2 g3 g4 g6.length g5):=o4
 have h4:=a2.all (im t1 g2 g3 g4 g6.length g5) rfl d3
 have a5:Ch ah f0 l2:=(Ch.alloc (F:=ah) l1).trans (Ch.fr (F:=(·=ta)) d3 rfl) (fun i hi he=>by omega)
 have h5:=a5.size
 refine ab ((g7.aa a5).pick Pf (by decide) (by simp) (-3) (i:=0) (show CK (-3) 1=0 by decide) (by simp)) ?_
 rintro v h8 ⟨⟨o5,o6,l3⟩,t2,m,R3,h9,i0,i7,i8,i9,TA2,rfl,_,f4,d4,j0,o7,_,j1⟩
 have l4:=d4.le
 have p0:t2.gave=false:=by
  cases h:t2.gave with
  | false=>rfl
  | true=>have:=(d4.gave h).2.1;omega
 have d5:t2.done=true:=by
  cases h:t2.done with
  | true=>rfl
  | false =>
   obtain ⟨_,_,r,r3,hr,l5,p1,d1⟩:=d4.goes p0 h
   simp only [List.getElem?_cons_zero,Option.some.injEq] at hr
   subst hr
   have b3:m=1:=by simp at l4;omega
   subst b3
   have b4:l3=[r3]:=d1
   subst b4
   obtain ⟨_,st,_⟩:=f4.v.run r3 (by simp)
   have h1:=st.sl
   have h2:=st.sm
   rw [l5,d0,p1,g9] at h1
   rw [l5,d0] at h2
   have h1:r3.said.length=1:=h1
   have h2:(r3.said.length:Int)<1:=h2
   omega
 obtain ⟨_,_,a9,d1⟩:=d4.done d5
 have a9:=a9 r2 rfl
 rw [d0,Tl] at a9
 have p2:t2.id=5:=by rw [d4.id r2 rfl,d0];rfl
 have b3:m=1:=by simp at l4;omega
 subst b3
 have b4:l3=[]:=d1
 subst b4
 have d6:o6=[]:=List.eq_nil_of_length_eq_zero (by
  have:=j1 (by simp only [List.getElem_cons_zero];rw [g9];decide)
  simpa using this)
 subst d6
 refine ⟨_,_,_,_,_,_,_,_,_,_,rfl,fun p3 l6=>?_⟩
 have a3:=ba.new l6
 have p4:=a3.lt
 obtain ⟨tc,p5⟩:∃ n,h8.heap.size=n:=⟨_,rfl⟩
 rw [p5] at a3 p4 ⊢
 refine ⟨⟨a3.ok 0 rfl,a3.ok 1 rfl,a3.ok 2 rfl,a3.ok 3 rfl,a3.ok 4 rfl⟩,fun l7 p6=>?_⟩
 have d7:l7=p3.setCells tc 0 (im t2 h9 i0 i7 i9.length i8):=p6
 have j2:=a3.all (im t2 h9 i0 i7 i9.length i8) rfl d7
 have a0:Ch ah h8 l7:=(Ch.alloc (F:=ah) l6).trans (Ch.fr (F:=(·=tc)) d7 rfl) (fun i hi he=>by omega)
 refine ab ((f4.aa a0).Rf 0) ?_
 rintro v j3 ⟨rfl,j4⟩
 refine ⟨_,_,_,_,_,_,_,_,_,_,rfl,fun p7 l8=>?_⟩
 have a7:=ba.new l8
 refine ⟨⟨a7.ok 0 rfl,a7.ok 1 rfl,a7.ok 2 rfl,a7.ok 3 rfl,a7.ok 4 rfl⟩,fun d8 p8=>?_⟩
 have j5:d8=p7.setCells j3.heap.size 0 (im ⟨0,false,false,[],[]⟩ none 0 none 0 0):=p8
 have b5:Ch ah j3 d8:=(Ch.alloc (F:=ah) l8).trans (Ch.fr (F:=(·=j3.heap.size)) j5 rfl) (fun i hi he=>by omega)
 have a1:=j4.ag b5
 have b6:=o7.ch
 have j6:=b6.size
 have j7:=a0.size
 -- the first turn's block is kept
 have d9:∀ i,de R2 i→i<f0.heap.size:=fun i hi=>(g7.lt i hi).2
 have e0:ba d8 ta (im t1 g2 g3 g4 g6.length g5) lb:=((h4.af b6 (fun hm=>by have:=d9 _ (dz _ hm);omega)).aa a0).aa a1
 have a8:ba d8 tc (im t2 h9 i0 i7 i9.length i8) lb:=j2.aa a1
 have j8:=(j0.out.aa a0).aa a1
 refine pj rfl (pj rfl ⟨_,e0.cell 1 rfl,?_⟩)
 rw [c7]
 refine pj rfl (pj rfl ⟨_,a8.cell 1 rfl,?_⟩)
 rw [d5]
 refine pj rfl ⟨_,_,_,a8.cell 3 rfl,fun l9 m0=>?_⟩
 have e1:Ch ah d8 l9:=Ch.alloc m0
 refine ab (uP.ma (j8.aa e1) (Oa (w1:=l9) [1] m0 (by decide))) ?_
 rintro v r8 ⟨rfl,j9⟩
 have a6:=e1.ag j9
 rw [a9]
 refine ⟨_,rfl,pj (by decide) ⟨_,(a8.aa a6).cell 0 rfl,pj (by rw [p2];rfl) (pj rfl ?_)⟩⟩
 have k0:=f4.aa ((a0.ag a1).ag a6)
 refine ab k0.free ?_
 rintro v r9 ⟨rfl,rfl⟩
 have p9:=f4.v.inv.Qz
 have hf:oW o5=2:=by simpa using p9
 rw [hf]
 refine ⟨_,rfl,rfl,?_⟩
 have q2:Ch ah w5 n4:=g1.trans n5.ch (fun i hi hm=>by have:=(hA i (dz i hm)).1;omega)
 have q3:Ch ah w5 f0:=q2.trans n8.ch (fun i hi hm=>n1 i hi (dz i hm))
 have q4:Ch ah w5 h8:=(q3.ag a5).trans b6 (fun i hi hm=>by have:=(g7.lt i (dz i hm)).1;omega)
 exact f8.ag (q4.ag ((a0.ag a1).ag a6))
end Go.Proofs.YtkbikekbaboclaaGreat.fo
set_option linter.unusedVariables false
set_option linter.unusedSimpArgs false
namespace Go.Proofs.YtkbikekbaboclaaGreat.fo
open Go Go.Proofs V Vc Step bh dh ee fv qn Go.RowKit
open gm (da di dl ik)
def Ov (W:World) (q:da × di):Prop:=Rd W q.2.po (q.1.ai.map (.int .i64)) (fun _=>True)∧Rd W q.2.qo (q.1.draws.map (.int .i64)) (fun _=>True)∧q.1.ai.length≤q.2.pc∧q.2.pc≤maxLen∧q.1.draws.length≤q.2.qc∧q.2.qc≤maxLen∧q.1.ai.length≤17592186043904∧q.1.draws.length≤17592186043904
theorem Ov.c {W w:World} {q:da × di} (h:Ov W q) (hc:Ch ah W w) (h1:q.1.ai.length≤1000) (h2:q.1.draws.length≤1000):lk w q (fun i=>i<W.heap.size):=by
 obtain ⟨a,b,c,d,e,f,_⟩:=h
 exact ⟨⟨(a.mono (fun i hi _=>hi)).aa hc,(b.mono (fun i hi _=>hi)).aa hc,h1,h2⟩,c,d,e,f⟩
set_option maxRecDepth 100000 in
theorem Qd {w:World} {x:List Value} (h:oF Tryz.prog w dx x):∃ q:da × di,x=dl q∧Ov w q:=by
 obtain ⟨hl,hg⟩:=h.struct Tryz.underlying37
 have h3:Tryz.prog.cellsOf dx=5:=by kernel_rfl
 rw [h3] at hl
 match x,hl with
 | [b,c,d,e,f],_ =>
  have g0:oF Tryz.prog w bd [b]:=hg 0 _ rfl
  have g1:oF Tryz.prog w bd [c]:=hg 1 _ rfl
  have g2:oF Tryz.prog w ay [d]:=hg 2 _ rfl
  have g3:oF Tryz.prog w bd [e]:=hg 3 _ rfl
  have g4:oF Tryz.prog w ay [f]:=hg 4 _ rfl
  obtain ⟨n1,e1,_⟩:=g0.int (k := .i64) (by kernel_rfl)
  obtain ⟨n2,e2,_⟩:=g1.int (k := .i64) (by kernel_rfl)
  obtain ⟨o3,c3,a0,e3,k1,k2,b3,_,a1⟩:=g2.ints (k := .i64) (e:=bd) (by kernel_rfl) (by kernel_rfl)
  obtain ⟨n4,e4,_⟩:=g3.int (k := .i64) (by kernel_rfl)
  obtain ⟨o5,c5,a2,e5,k3,k4,b5,_,a3⟩:=g4.ints (k := .i64) (e:=bd) (by kernel_rfl) (by kernel_rfl)
  injection e1 with e1 _
  injection e2 with e2 _
  injection e3 with e3 _
  injection e4 with e4 _
  injection e5 with e5 _
  subst e1;subst e2;subst e3;subst e4;subst e5
  have h8:Tryz.prog.bytesOf bd=8:=by kernel_rfl
  rw [h8] at b3 b5
  exact ⟨⟨⟨n1,n2,a0,n4,a2⟩,⟨o3,c3,o5,c5⟩⟩,rfl,a1,a3,k1,k2,k3,k4,by dsimp only;omega,by dsimp only;omega⟩
structure RB where
 kind:Int
 n:Int
 q:da × di
def wc (x:RB):List Value:=[.int .i64 x.kind,.int .i64 x.n]++dl x.q
set_option maxRecDepth 100000 in
theorem NK {w:World} {x:List Value} (hl:x.length=Tryz.prog.cellsOf ji) (h:oF Tryz.prog w ji x):∃ y:RB,x=wc y∧Ov w y.q:=by
 obtain ⟨_,hf⟩:=h.struct Tryz.underlying39
 have h2:Tryz.prog.cellsOf ji=7:=by kernel_rfl
 rw [h2] at hl
 match x,hl with
 | [a,b,c,d,e,f,g],_ =>
  have h0:oF Tryz.prog w bd [a]:=hf 0 _ rfl
  have h1:oF Tryz.prog w bd [b]:=hf 1 _ rfl
  have h3:oF Tryz.prog w dx [c,d,e,f,g]:=hf 2 _ rfl
  obtain ⟨n0,e0,_⟩:=h0.int (k := .i64) (by kernel_rfl)
  obtain ⟨n1,e1,_⟩:=h1.int (k := .i64) (by kernel_rfl)
  obtain ⟨q,e2,hq⟩:=Qd h3
  injection e0 with e0 _
  injection e1 with e1 _
  subst e0;subst e1
  rw [e2]
  exact ⟨⟨n0,n1,q⟩,rfl,hq⟩
def PQ (q0 q1:Nat × ByteArray) (vm:Int):rY:=⟨fun v=>if v % 2=1 then q1.2 else q0.2,vm⟩
theorem Ra {q0 q1:Nat × ByteArray} {vm:Int} {w:World} {n:Nat} (h:PU w n [q0,q1]) (v:Int):Md ey (PQ q0 q1 vm v):=by
 show Md ey (if v % 2=1 then q1.2 else q0.2)
 split
 ·exact QC (h q1 (by simp)).2.1
 ·exact QC (h q0 (by simp)).2.1
end Go.Proofs.YtkbikekbaboclaaGreat.fo
