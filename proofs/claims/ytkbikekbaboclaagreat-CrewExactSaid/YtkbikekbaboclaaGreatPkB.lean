import Derived.Test.YtkbikekbaboclaaGreatPkA
import Derived.Test.YtkbikekbaboclaaGreatPkV
set_option linter.unusedVariables false
set_option linter.unusedSimpArgs false
namespace Go.Proofs.YtkbikekbaboclaaGreat.ed
open Go Go.Proofs V Vc qX Go.RowKit
theorem fi (w:World) (x low high:Int):Calls Tryz.prog pe #[.int .i64 x,.int .i64 low,.int .i64 high] w (bc fun v w'=>v = .int .i64 (eu x low high)∧w'=w):=by
 refine pR.calls _ _ _ ?_
 unfold eu
 refine ⟨fun h=>?_,fun h=>⟨fun h2=>?_,fun h2=>?_⟩⟩
 ·rw [if_pos (by simpa using h)];exact ⟨rfl,rfl⟩
 ·rw [if_neg (by simpa using h),if_pos (by simpa using h2)];exact ⟨rfl,rfl⟩
 ·rw [if_neg (by simpa using h),if_neg (by simpa using h2)];exact ⟨rfl,rfl⟩
theorem ni (w:World) (x:Int):Calls Tryz.prog pV #[.int .i64 x] w (bc fun v w'=>v = .int .i64 (sat x)∧w'=w):=by
 refine rF.calls _ ?_
 refine ab (fi w _ _ _) ?_
 rintro v w ⟨rfl,rfl⟩
 exact ⟨_,rfl,rfl,rfl⟩
def cl (x:Int):Int:=eu x (-1073741824) 1073741824
theorem Jl (x:Int) : -1073741824≤cl x∧cl x≤1073741824:=lm (by omega)
theorem Qa {x y:Int} (h:x≤y):cl x≤cl y:=KY h (by omega)
theorem uF (w:World) (x:Int):Calls Tryz.prog Ek #[.int .i64 x] w (bc fun v w'=>v = .int .i64 (cl x)∧w'=w):=by
 refine HS.calls _ ?_
 refine ab (lg w _ _ _) ?_
 rintro v w ⟨rfl,rfl⟩
 exact ⟨_,rfl,rfl,rfl⟩
theorem Bv (w:World) (x:Int):Calls Tryz.prog uD #[.int .i64 x] w (bc fun v w'=>v = .int .i64 (cl x)∧w'=w):=by
 refine vV.calls _ ?_
 refine ab (fi w _ _ _) ?_
 rintro v w ⟨rfl,rfl⟩
 exact ⟨_,rfl,rfl,rfl⟩
def KE:List Nat:=[65536,60097,55109,50535,46341,42495,38968,35734]
def HQ:List Value:=KE.map fun n:Nat=>Value.int .i64 (n:Int)
def Od (d:Nat):Nat:=KE.getD (d % 8) 0 / 2 ^ (d / 8)
def JM (d:Int):Int:=(Od d.toNat:Int)
theorem Ly:∀ r,r<8→KE.getD r 0≤65536:=by decide
theorem OF {r:Nat} (h:r<8):HQ[r]?=some (.int .i64 ((KE.getD r 0:Nat):Int)):=by
 unfold HQ
 have:r<KE.length:=h
 rw [List.getElem?_map,List.getD_eq_getElem?_getD,List.getElem?_eq_getElem this];rfl
theorem SB (d:Int):(if (0:Int)>d then (0:Int) else d)=(d.toNat:Int):=by split <;> omega
theorem zZ (w:World):Calls Tryz.prog Ik #[] w (bc fun v w'=>v = .agg HQ.toArray∧Ch ah w w'):=by
 refine Lu.calls ?_
 intro w1 e1
 have hB:=ba.new e1
 refine ⟨⟨hB.ok 0 rfl,hB.ok 1 rfl,hB.ok 2 rfl,hB.ok 3 rfl,hB.ok 4 rfl,hB.ok 5 rfl,hB.ok 6 rfl,hB.ok 7 rfl⟩,fun w2 e2=>?_⟩
 have e3:w2=w1.setCells w.heap.size 0 HQ:=e2
 have a0:=hB.all HQ rfl e3
 have hC:Ch ah w w2:=(Ch.alloc (F:=ah) e1).trans (Ch.fr (F:=(·=w.heap.size)) e3 rfl) (fun i hi he=>by omega)
 exact ⟨_,_,_,_,_,_,_,_,⟨a0.cell 0 rfl,a0.cell 1 rfl,a0.cell 2 rfl,a0.cell 3 rfl,a0.cell 4 rfl,a0.cell 5 rfl,a0.cell 6 rfl,a0.cell 7 rfl⟩,rfl,hC⟩
theorem Rq {n:Nat}:Int.tdiv (n:Int) 8=((n / 8:Nat):Int):=by rw [Int.tdiv_eq_ediv_of_nonneg (by omega)];omega
theorem Ro {n:Nat}:Int.tmod (n:Int) 8=((n % 8:Nat):Int):=by rw [AP (by omega)];omega
theorem OP (w:World) {d:Int} (hd:d≤9223372036854775807):Calls Tryz.prog KN #[.int .i64 d] w (bc fun v w'=>v = .int .i64 (JM d)∧Ch ah w w'):=by
 refine Pv.calls _ ?_
 unfold Vm.B Vm.Q7 Vm.Q8 Vm.S6;dsimp only
 rw [SB]
 unfold JM
 have hn:d.toNat≤9223372036854775807:=by omega
 generalize d.toNat=n at hn ⊢
 refine ab (zZ w) ?_
 rintro v w1 ⟨rfl,a0⟩
 refine ⟨_,_,_,_,_,_,_,_,rfl,fun w2 e2=>?_⟩
 have hB:=ba.new e2
 refine ⟨⟨hB.ok 0 rfl,hB.ok 1 rfl,hB.ok 2 rfl,hB.ok 3 rfl,hB.ok 4 rfl,hB.ok 5 rfl,hB.ok 6 rfl,hB.ok 7 rfl⟩,fun w3 e3=>?_⟩
 have e4:w3=w2.setCells w1.heap.size 0 HQ:=e3
 have a1:=hB.all HQ rfl e4
 have hC:Ch ah w1 w3:=(Ch.alloc (F:=ah) e2).trans (Ch.fr (F:=(·=w1.heap.size)) e4 rfl) (fun i hi he=>by omega)
 rw [Ro,Rq,ae (by omega) (by omega),eh,show 0+((n % 8:Nat):Int).toNat*1=n % 8 by omega]
 have hr:n % 8<8:=Nat.mod_lt _ (by omega)
 refine ⟨by decide,⟨by omega,by omega⟩,_,a1.cell _ (OF hr),by decide,by split <;> omega,?_,a0.ag hC⟩
 have ht:=Ly _ hr
 unfold Od
 generalize KE.getD (n % 8) 0=t at ht ⊢
 generalize n / 8=q
 by_cases hq:17<q
 ·rw [if_pos (by omega)]
  have h1:t / 2 ^ q=0:=Nat.div_eq_of_lt (Nat.lt_of_le_of_lt ht (Nat.lt_of_lt_of_le (show 65536<2 ^ 17 by decide) (Nat.pow_le_pow_right (by omega) (by omega))))
  rw [h1]
  have h2:min (17:Int).toNat IntKind.i64.bits=17:=by decide
  rw [h2,Int.fdiv_eq_ediv_of_nonneg _ (by decide)]
  have:(t:Int) / 2 ^ 17=0:=Int.ediv_eq_zero_of_lt (by omega) (by omega)
  rw [this];rfl
 ·rw [if_neg (by omega)]
  have h2:min ((q:Int).toNat) IntKind.i64.bits=q:=by show min ((q:Int).toNat) 64=q;omega
  rw [h2,Int.fdiv_eq_ediv_of_nonneg _ (Int.le_of_lt (Int.pow_pos (by omega)))]
  congr 1
theorem MB (w:World) {d:Int} (hd:d≤9223372036854775807):Calls Tryz.prog xB #[.int .i64 d] w (bc fun v w'=>v = .int .i64 (JM d)∧Ch ah w w'):=by
 refine As.calls _ ?_
 unfold Vm.B Vm.B2 Vm.Br Vm.C0 Vm.L0 Vm.Q7 Vm.Q8 Vm.S6 Vm.Z;dsimp only
 rw [SB]
 unfold JM
 have hn:d.toNat≤9223372036854775807:=by omega
 generalize d.toNat=n at hn ⊢
 intro w2 e2
 have hB:=ba.new e2
 refine ⟨⟨hB.ok 0 rfl,hB.ok 1 rfl,hB.ok 2 rfl,hB.ok 3 rfl,hB.ok 4 rfl,hB.ok 5 rfl,hB.ok 6 rfl,hB.ok 7 rfl⟩,fun w3 e3=>?_⟩
 have e4:w3=w2.setCells w.heap.size 0 HQ:=e3
 have a2:=hB.all HQ rfl e4
 have hC:Ch ah w w3:=(Ch.alloc (F:=ah) e2).trans (Ch.fr (F:=(·=w.heap.size)) e4 rfl) (fun i hi he=>by omega)
 rw [Ro,Rq,ae (by omega) (by omega),eh,show 0+((n % 8:Nat):Int).toNat*1=n % 8 by omega]
 have hr:n % 8<8:=Nat.mod_lt _ (by omega)
 have ht:=Ly _ hr
 refine ⟨by decide,⟨by omega,by omega⟩,_,a2.cell _ (OF hr),?_⟩
 unfold Od
 generalize KE.getD (n % 8) 0=t at ht ⊢
 have hq:n / 8≤9223372036854775807:=by omega
 generalize n / 8=q at hq ⊢
 refine ⟨fun x i k w'=>w'=w3∧∃ j:Nat,i=j∧j≤q∧k=q-j∧x=((t / 2 ^ j:Nat):Int),⟨_,rfl,0,rfl,Nat.zero_le _,rfl,by simp⟩,?_⟩
 rintro jk x i k w4 ⟨rfl,j,rfl,hj,rfl,rfl⟩
 refine ⟨by decide,fun a0=>⟨fun a3=>⟨by decide,q-(j+1),?_,rfl,j+1,?_,?_,rfl,?_⟩,fun hz=>⟨?_,hC⟩⟩,fun a4=>⟨?_,hC⟩⟩
 ·have:=dQt a0;omega
 ·have:=dQt a0;rw [ae (by omega) (by omega)];rfl
 ·have:=dQt a0;omega
 ·have h1:t / 2 ^ j≤65536:=Nat.le_trans (Nat.div_le_self _ _) ht
  have h2:t / 2 ^ (j+1)=t / 2 ^ j / 2:=by rw [Nat.pow_succ,Nat.div_div_eq_div_mul]
  rw [h2]
  generalize t / 2 ^ j=y at h1 ⊢
  rw [Int.tdiv_eq_ediv_of_nonneg (by omega),ae (by omega) (by omega)];omega
 ·have h0:t / 2 ^ j=0:=by
   have hz:=dQf hz
   generalize t / 2 ^ j=y at hz ⊢
   omega
  have a0:=dQt a0
  have:t / 2 ^ q=0:=by
   have a1:t / 2 ^ q≤t / 2 ^ j:=Nat.div_le_div_left (Nat.pow_le_pow_right (by omega) (by omega)) (Nat.pow_pos (by omega))
   rw [h0] at a1
   exact Nat.le_zero.1 a1
  rw [h0,this]
 ·have:j=q:=by have:=dQf a4;omega
  rw [this]
section
variable {w:World} {o:OA} {c:Nat} {xs:List Int} {F:Nat→Prop}
theorem OS (hr:Rd w o (xs.map (.int .i64)) F) (h0:xs≠[]) (hl:xs.length≤1000000) (c:Nat):Calls Tryz.prog HM #[.slice o xs.length c] w (bc fun v w'=>v = .int .i64 (tH xs)∧w'=w):=by
 have hp:0<xs.length:=List.length_pos_iff.2 h0
 refine KA.calls _ _ _ ?_
 refine eg (decide_eq_false (by omega)) ⟨⟨by omega,by omega⟩,hr.Sa (v := .int .i64 xs[0]) (by simp [hp]) fun p a2=>⟨_,a2,fun m i k w'=>w'=w∧∃ j:Nat,i=j∧1≤j∧j≤xs.length∧k=xs.length-j∧m∈xs.take j∧∀ x∈xs.take j,x≤m,⟨_,rfl,1,rfl,Nat.le_refl _,hp,rfl,?_,?_⟩,?_⟩⟩
 ·rw [au xs 0 hp];simp
 ·rw [au xs 0 hp];simp
 rintro jk m i k w1 ⟨rfl,j,rfl,a4,hj,rfl,hm,a1⟩
 refine ⟨fun a0=>?_,fun a3=>?_⟩
 ·have a0:j<xs.length:=by have:=dQt a0;omega
  refine ⟨⟨by omega,by omega⟩,hr.at (j:=(j:Int).toNat*1) (v := .int .i64 xs[j]) (by simp [a0]) fun p hp=>⟨_,hp,xs.length-(j+1),by omega,rfl,j+1,by rw [ae (by omega) (by omega)];rfl,by omega,a0,rfl,?_,?_⟩⟩
  ·rw [au xs j a0,List.mem_append,List.mem_singleton]
   split
   ·exact .inr rfl
   ·exact .inl hm
  ·intro x hx
   rw [au xs j a0,List.mem_append,List.mem_singleton] at hx
   rcases hx with hx|rfl
   ·have:=a1 x hx;split <;> omega
   ·split <;> omega
 ·have:j=xs.length:=by have:=dQf a3;omega
  subst this
  rw [List.take_length] at hm a1
  exact ⟨by rw [MV hm a1],rfl⟩
def bm (xs:List Int):List Int:=xs.map fun x=>JM (cl (tH xs)-cl x)
theorem tR (hr:Rd w o (xs.map (.int .i64)) F) (hl:xs.length≤1000000) (c:Nat) :
  Calls Tryz.prog Ec #[.slice o xs.length c] w (bc fun v w'=>∃ (A:OA) (C:Nat),v = .slice A (bm xs).length C∧Gr ah w w' bd 1 A (bm xs).length C ((bm xs).map (.int .i64))):=by
 refine Ht.calls _ _ _ ?_
 unfold Vm.A0 Vm.A7 Vm.B0 Vm.B5 Vm.D0 Vm.D3 Vm.E0 Vm.F1 Vm.G Vm.Q Vm.V;dsimp only
 refine ⟨fun h=>?_,fun h=>?_⟩
 ·have h:xs.length=0:=by simpa using h
  have:xs=[]:=List.length_eq_zero_iff.1 h
  subst this
  exact ⟨none,0,rfl,Gr.nil (Ch.refl _ _)⟩
 have h0:xs≠[]:=by rintro rfl;simp at h
 refine ab (OS hr h0 hl c) ?_
 rintro v w1 ⟨rfl,rfl⟩
 refine ⟨_,rfl,?_⟩
 refine ab (uF w1 _) ?_
 rintro v w2 ⟨rfl,rfl⟩
 have hL:(bm xs).length=xs.length:=by simp [bm]
 have a2:∀ (j:Nat) (h:j<(bm xs).length) (h2:j<xs.length),(bm xs)[j]=JM (cl (tH xs)-cl xs[j]):=fun j h h2=>by simp [bm]
 generalize bm xs=L at hL a2 ⊢
 refine ⟨_,rfl,fun A j CC k x w'=>k=j∧j≤L.length∧x=L.length-j∧Gr ah w2 w' bd 1 A j CC ((L.take j).map (.int .i64)),⟨_,rfl,Nat.zero_le _,rfl,Gr.nil (Ch.refl _ _)⟩,?_⟩
 rintro jk A j CC k x w3 ⟨rfl,hj,rfl,hg⟩
 refine ⟨fun a0=>?_,fun a3=>?_⟩
 ·have a0:j<L.length:=by have:=dQt a0;omega
  have a1:j<xs.length:=by omega
  refine ⟨⟨by omega,by omega⟩,(hr.aa hg.2).at (j:=(j:Int).toNat*1) (v := .int .i64 xs[j]) (by simp [a1]) fun p hp=>⟨_,hp,?_⟩⟩
  refine ab (uF w3 _) ?_
  rintro v w4 ⟨rfl,rfl⟩
  refine ⟨_,rfl,?_⟩
  have a:=Jl (tH xs)
  have b:=Jl xs[j]
  rw [ae (by omega) (by omega)]
  refine ab (OP w4 (by omega)) ?_
  rintro v w5 ⟨rfl,a4⟩
  refine ⟨_,rfl,fun w6 e6=>?_⟩
  rw [← a2 j a0 a1] at e6
  obtain ⟨A',C',w9,a5,a6,_⟩:=(hg.aa a4).next bi ay a0 (by omega) e6 rfl rfl (by omega)
  exact ⟨A',_,C',w9,a5,L.length-(j+1),by omega,by rw [ae (by omega) (by omega)];rfl,a0,rfl,a6⟩
 ·have:j=L.length:=by have:=dQf a3;omega
  subst this
  rw [List.take_length] at hg
  exact ⟨A,CC,rfl,hg⟩
theorem zl (hr:Rd w o (xs.map (.int .i64)) F) (hl:xs.length≤1000000) (c:Nat) :
  Calls Tryz.prog tf #[.slice o xs.length c] w (bc fun v w'=>∃ (A:OA) (C:Nat),v = .slice A (bm xs).length C∧Gr ah w w' bd 1 A (bm xs).length C ((bm xs).map (.int .i64))):=by
 refine tU.calls _ _ _ ?_
 unfold Vm.A0 Vm.A5 Vm.A7 Vm.B0 Vm.B5 Vm.C0 Vm.D8 Vm.G Vm.L0 Vm.Q Vm.V Vm.Z;dsimp only
 intro w1 e1
 have hL:(bm xs).length=xs.length:=by simp [bm]
 have a6:∀ (j:Nat) (h:j<(bm xs).length) (h2:j<xs.length),(bm xs)[j]=JM (cl (tH xs)-cl xs[j]):=fun j h h2=>by simp [bm]
 generalize bm xs=L at hL a6 ⊢
 refine ⟨fun A j CC k x w'=>k=j∧j≤L.length∧x=L.length-j∧Gr ah w w' bd 1 A j CC ((L.take j).map (.int .i64)),⟨_,rfl,Nat.zero_le _,rfl,Gr.nG (Ch.refl _ _) e1⟩,?_⟩
 rintro jk A j CC k x w3 ⟨rfl,hj,rfl,hg⟩
 refine ⟨fun a2=>?_,fun a8=>?_⟩
 ·have a2:j<L.length:=by have:=dQt a2;omega
  have a1:j<xs.length:=by omega
  have h0:xs≠[]:=by rintro rfl;simp at a1
  have a9:=hr.aa hg.2
  have rd:∀ {K:Addr→Prop} {i:Nat} (hi:i<xs.length),(∀ p:Addr,w3.cell? (p.add ((i:Int).toNat*1))=some (.int .i64 xs[i])→K p)→jr o K:=fun {K i} hi hk=>a9.at (j:=(i:Int).toNat*1) (v := .int .i64 xs[i]) (by simp [hi]) hk
  refine ⟨⟨by omega,by omega⟩,rd a1 fun p hp=>⟨_,hp,?_⟩⟩
  refine ab (Bv w3 _) ?_
  rintro v w4 ⟨rfl,rfl⟩
  refine ⟨_,rfl,fun m i k w'=>w'=w4∧∃ n:Nat,i=n∧n≤xs.length∧k=xs.length-n∧(∃ y∈xs,m=cl y)∧∀ y∈xs.take n,cl y≤m,⟨_,rfl,0,rfl,Nat.zero_le _,rfl,⟨_,List.getElem_mem a1,rfl⟩,fun y hy=>by simp at hy⟩,?_⟩
  rintro jk m i k w' ⟨rfl,n,rfl,hn,rfl,⟨y0,a7,rfl⟩,a4⟩
  refine ⟨fun a0=>?_,fun a5=>?_⟩
  ·have a0:n<xs.length:=by have:=dQt a0;omega
   refine ⟨⟨by omega,by omega⟩,rd a0 fun p hp=>⟨_,hp,?_⟩⟩
   refine ab (Bv w' _) ?_
   rintro v w4 ⟨rfl,rfl⟩
   refine ⟨_,rfl,xs.length-(n+1),by omega,rfl,n+1,by rw [ae (by omega) (by omega)];rfl,a0,rfl,?_,?_⟩
   ·split
    ·exact ⟨_,List.getElem_mem a0,rfl⟩
    ·exact ⟨_,a7,rfl⟩
   ·intro y hy
    rw [au xs n a0,List.mem_append,List.mem_singleton] at hy
    rcases hy with hy|rfl
    ·have:=a4 y hy;split <;> omega
    ·split <;> omega
  have b2:n=xs.length:=by have:=dQf a5;omega
  subst b2
  rw [List.take_length] at a4
  obtain ⟨m1,m2⟩:=AL h0
  have a3:cl y0=cl (tH xs):=by
   have h1:=a4 _ m1
   have h2:=Qa (m2 _ a7)
   omega
  rw [a3]
  refine ⟨⟨by omega,by omega⟩,rd a1 fun p hp=>⟨_,hp,?_⟩⟩
  refine ab (Bv w' _) ?_
  rintro v w4 ⟨rfl,rfl⟩
  refine ⟨_,rfl,?_⟩
  have a:=Jl (tH xs)
  have b:=Jl xs[j]
  rw [ae (by omega) (by omega)]
  refine ab (MB w4 (by omega)) ?_
  rintro v w5 ⟨rfl,b3⟩
  refine ⟨_,rfl,fun w6 e6=>?_⟩
  rw [← a6 j a2 a1] at e6
  obtain ⟨A',C',w9,b4,b5,_⟩:=(hg.aa b3).next bi ay a2 (by omega) e6 rfl rfl (by omega)
  exact ⟨A',_,C',w9,b4,L.length-(j+1),by omega,by rw [ae (by omega) (by omega)];rfl,a2,rfl,b5⟩
 ·have:j=L.length:=by have:=dQf a8;omega
  subst this
  rw [List.take_length] at hg
  exact ⟨A,CC,rfl,hg⟩
def Hc (l:List Int) (b:Int):Prop:=(l=[]∧b = -1)∨∃ i:Nat,b=i∧∃ h:i<l.length,(∀ x∈l,x≤l[i])∧∀ x∈l.take i,x<l[i]
theorem Hc.Tb {l:List Int} {a b:Int} (h:Hc l a) (k:Hc l b):a=b:=by
 rcases h with ⟨rfl,rfl⟩|⟨i,rfl,hi,h1,h2⟩
 ·rcases k with ⟨_,rfl⟩|⟨j,rfl,hj,_⟩
  ·rfl
  ·simp at hj
 ·rcases k with ⟨rfl,_⟩|⟨j,rfl,hj,k1,k2⟩
  ·simp at hi
  ·rcases Nat.lt_trichotomy i j with h|h|h
   ·have a:=k2 l[i] (List.mem_take_iff_getElem.2 ⟨i,by omega,rfl⟩)
    have b:=h1 l[j] (List.getElem_mem hj)
    omega
   ·rw [h]
   ·have a:=h2 l[j] (List.mem_take_iff_getElem.2 ⟨j,by omega,rfl⟩)
    have b:=k1 l[i] (List.getElem_mem hi)
    omega
theorem LK (hr:Rd w o (xs.map (.int .i64)) F) (hl:xs.length≤1000000) (c:Nat) :
  Calls Tryz.prog py #[.slice o xs.length c] w (bc fun v w'=>∃ b:Int,v = .int .i64 b∧Hc xs b∧Ch ah w w'):=by
 refine yr.calls _ _ _ ?_
 refine ⟨fun b i k w'=>Ch ah w w'∧∃ j:Nat,i=j∧j≤xs.length∧k=xs.length-j∧Hc (xs.take j) b,⟨_,Ch.refl _ _,0,rfl,Nat.zero_le _,rfl,.inl ⟨rfl,rfl⟩⟩,?_⟩
 rintro jk b i k w1 ⟨hc,j,rfl,hj,rfl,hb⟩
 refine ⟨fun a0=>?_,fun a6=>?_⟩
 ·have a0:j<xs.length:=by have:=dQt a0;omega
  refine ⟨fun w'=>Ch ah w w',fun w2 e2=>⟨hc.ag (Ch.drew e2),?_⟩⟩
  have hw:IntKind.i64.wrap ((j:Int)+1)=((j+1:Nat):Int):=by rw [ae (by omega) (by omega)];rfl
  have a3:=hc.ag (Ch.drew (F:=ah) e2)
  have hs:=au xs j a0
  have a7:∀ {i:Nat} (h:i<(xs.take j).length) (h2:i<xs.length),(xs.take j)[i]=xs[i]:=fun h h2=>by simp
  rcases hb with ⟨a1,rfl⟩|⟨m,rfl,hm,h1,h2⟩
  ·refine pj rfl ⟨xs.length-(j+1),by omega,a3,j+1,hw,a0,rfl,.inr ⟨j,rfl,by simp;omega,?_⟩⟩
   have a8:j=0:=by have:=congrArg List.length a1;simp at this;rcases this with h|h <;> simp_all
   subst a8
   refine ⟨fun x hx=>?_,fun x hx=>by simp at hx⟩
   rw [hs,a1,List.nil_append,List.mem_singleton] at hx
   subst hx
   simp
  ·have b2:m<j:=by simp at hm;omega
   have a4:m<xs.length:=by omega
   rw [a7 hm a4] at h1 h2
   refine eg (decide_eq_false (by omega)) ⟨⟨by omega,by omega⟩,Rd.keeps (j:=j) (S:=fun w'=>Ch ah w w') (fun w2 h2=>hr.aa h2) hc a0 fun p hp=>⟨_,fun w' h=>by rw [dw];exact hp w' h,⟨by omega,by omega⟩,Rd.keeps (j:=m) (S:=fun w'=>Ch ah w w') (fun w2 h2=>hr.aa h2) hc a4 fun p2 a9=>⟨_,fun w' h=>by rw [dw];exact a9 w' h,fun a2=>?_,fun a5=>?_⟩⟩⟩
   ·have a2:=dQt a2
    refine ⟨xs.length-(j+1),by omega,a3,j+1,hw,a0,rfl,.inr ⟨j,rfl,by simp;omega,?_⟩⟩
    have e:(xs.take (j+1))[j]'(by simp;omega)=xs[j]:=by simp
    rw [e]
    refine ⟨fun x hx=>?_,fun x hx=>?_⟩
    ·rw [hs,List.mem_append,List.mem_singleton] at hx
     rcases hx with hx|rfl
     ·have:=h1 x hx;omega
     ·omega
    ·rw [List.take_take,Nat.min_eq_left (by omega)] at hx
     have:=h1 x hx;omega
   ·have a5:=dQf a5
    refine ⟨xs.length-(j+1),by omega,a3,j+1,hw,a0,rfl,.inr ⟨m,rfl,by simp;omega,?_⟩⟩
    have e:(xs.take (j+1))[m]'(by simp;omega)=xs[m]:=by simp
    rw [e]
    refine ⟨fun x hx=>?_,fun x hx=>?_⟩
    ·rw [hs,List.mem_append,List.mem_singleton] at hx
     rcases hx with hx|rfl
     ·exact h1 x hx
     ·omega
    ·rw [List.take_take,Nat.min_eq_left (by omega)] at hx
     rw [List.take_take,Nat.min_eq_left (by omega)] at h2
     exact h2 x hx
 ·have:j=xs.length:=by have:=dQf a6;omega
  subst this
  rw [List.take_length] at hb
  exact ⟨_,rfl,hb,hc⟩
end
end Go.Proofs.YtkbikekbaboclaaGreat.ed
set_option linter.unusedVariables false
set_option linter.unusedSimpArgs false
namespace Go.Proofs.YtkbikekbaboclaaGreat.ed
open Go Go.Proofs V Vc qX Go.RowKit
def AJ (n:Int):Bool:=decide (n<0)||decide (n>1048576)
def tE (n:Int):Bool:=decide (n<0)||decide (n>65536)
theorem En (w:World) (n:Int):Calls Tryz.prog pF #[.int .i64 n] w (bc fun v w'=>v = .bool (AJ n)∧w'=w):=by
 refine Ft.calls _ ?_
 unfold AJ
 exact ⟨fun h=>⟨by rw [h];rfl,rfl⟩,fun h=>⟨by rw [h];rfl,rfl⟩⟩
theorem Gd (w:World) (n:Int):Calls Tryz.prog qB #[.int .i64 n] w (bc fun v w'=>v = .bool (tE n)∧w'=w):=by
 refine Gj.calls _ ?_
 unfold tE
 exact ⟨fun h=>⟨by rw [h];rfl,rfl⟩,fun h=>⟨by rw [h];rfl,rfl⟩⟩
section
variable {w:World} {o ow:OA} {c cw:Nat} {ws:List Int} {zs:List nH} {F G:Nat→Prop}
theorem Fh {xs:List Int} (hr:Rd w o (xs.map (.int .i64)) F) (hx:xs.length≤1000000) (c:Nat):Calls Tryz.prog 52 #[.slice o xs.length c,.func (.func pF) #[] #[]] w (bc fun v w'=>v = .bool (xs.any AJ)∧w'=w):=by
 refine cj.El _ _ _ ?_
 have hi:Calls Tryz.prog 91 #[.slice o xs.length c,.func (.func pF) #[] #[]] w (bc fun v w'=>∃ i:Int,v = .int .i64 i∧decide (i≥0)=xs.any AJ∧w'=w):=by
  refine bf.El _ _ _ ?_
  have hf:=En w
  generalize AJ=f at hf ⊢
  refine ⟨fun i k w'=>w'=w∧∃ j:Nat,i=j∧j≤xs.length∧k=xs.length-j∧(xs.take j).any f=false,⟨_,rfl,0,rfl,Nat.zero_le _,rfl,rfl⟩,?_⟩
  rintro jk i k w' ⟨rfl,j,rfl,hj,rfl,a0⟩
  refine ⟨fun a1=>?_,fun a2=>?_⟩
  ·have a1:j<xs.length:=by have:=dQt a1;omega
   refine ⟨⟨by omega,by omega⟩,hr.at (j:=(j:Int).toNat*1) (v := .int .i64 xs[j]) (by simp [a1]) fun p hp=>⟨_,hp,?_⟩⟩
   refine ab (hf xs[j]) ?_
   rintro v w1 ⟨rfl,rfl⟩
   refine ⟨_,rfl,fun h=>⟨_,rfl,?_,rfl⟩,fun h=>⟨xs.length-(j+1),by omega,rfl,j+1,by rw [ae (by omega) (by omega)];rfl,a1,rfl,?_⟩⟩
   ·have:xs.any f=true:=by rw [List.any_eq_true];exact ⟨xs[j],List.getElem_mem _,h⟩
    rw [this];simp
   ·rw [au xs j a1,List.any_append,a0]
    simpa using h
  ·have:j=xs.length:=by have:=dQf a2;omega
   subst this
   rw [List.take_length] at a0
   exact ⟨_,rfl,by rw [a0];rfl,rfl⟩
 refine ab hi ?_
 rintro v w1 ⟨i,rfl,h,rfl⟩
 exact ⟨_,rfl,by rw [h],rfl⟩
theorem EC {xs:List Int} (hr:Rd w o (xs.map (.int .i64)) F) (hx:xs.length≤1000000) (c:Nat):Calls Tryz.prog 52 #[.slice o xs.length c,.func (.func qB) #[] #[]] w (bc fun v w'=>v = .bool (xs.any tE)∧w'=w):=by
 refine cj.Fk _ _ _ ?_
 have hi:Calls Tryz.prog 91 #[.slice o xs.length c,.func (.func qB) #[] #[]] w (bc fun v w'=>∃ i:Int,v = .int .i64 i∧decide (i≥0)=xs.any tE∧w'=w):=by
  refine bf.Fk _ _ _ ?_
  have hf:=Gd w
  generalize tE=f at hf ⊢
  refine ⟨fun i k w'=>w'=w∧∃ j:Nat,i=j∧j≤xs.length∧k=xs.length-j∧(xs.take j).any f=false,⟨_,rfl,0,rfl,Nat.zero_le _,rfl,rfl⟩,?_⟩
  rintro jk i k w' ⟨rfl,j,rfl,hj,rfl,a0⟩
  refine ⟨fun a1=>?_,fun a2=>?_⟩
  ·have a1:j<xs.length:=by have:=dQt a1;omega
   refine ⟨⟨by omega,by omega⟩,hr.at (j:=(j:Int).toNat*1) (v := .int .i64 xs[j]) (by simp [a1]) fun p hp=>⟨_,hp,?_⟩⟩
   refine ab (hf xs[j]) ?_
   rintro v w1 ⟨rfl,rfl⟩
   refine ⟨_,rfl,fun h=>⟨_,rfl,?_,rfl⟩,fun h=>⟨xs.length-(j+1),by omega,rfl,j+1,by rw [ae (by omega) (by omega)];rfl,a1,rfl,?_⟩⟩
   ·have:xs.any f=true:=by rw [List.any_eq_true];exact ⟨xs[j],List.getElem_mem _,h⟩
    rw [this];simp
   ·rw [au xs j a1,List.any_append,a0]
    simpa using h
  ·have:j=xs.length:=by have:=dQf a2;omega
   subst this
   rw [List.take_length] at a0
   exact ⟨_,rfl,by rw [a0];rfl,rfl⟩
 refine ab hi ?_
 rintro v w1 ⟨i,rfl,h,rfl⟩
 exact ⟨_,rfl,by rw [h],rfl⟩
def Cq (zs:List nH) (x:nH):Bool:=!decide (x.2.2.length=wid zs)
theorem LN (zs:List nH):zs.any (Cq zs)=!nl zs:=by
 unfold nl Cq
 rw [List.all_eq_not_any_not];simp
theorem FV {c0:Nat} (hz:Rd w o (zs.map nw) F) (h0:0<zs.length) (hB:ba w c0 [.slice o zs.length c] bq) (x:nH):Calls Tryz.prog qu #[nw x,.pointer (some ⟨c0,0,none⟩)] w (bc fun v w'=>v = .bool (Cq zs x)∧w'=w):=by
 refine Gc.calls _ _ _ _ ?_
 refine ⟨_,_,_,hB.cell 0 rfl,⟨by omega,by omega⟩,hz.Sa (v:=nw zs[0]) (by rw [List.getElem?_map,List.getElem?_eq_getElem h0];rfl) fun p hp=>⟨_,_,_,hp,?_,rfl⟩⟩
 unfold Cq
 rw [je h0]
 congr 1
 by_cases h:x.2.2.length=zs[0].2.2.length
 ·rw [decide_eq_true h,h];simp
 ·rw [decide_eq_false h]
  have:((x.2.2.length:Nat):Int)≠((zs[0].2.2.length:Nat):Int):=by omega
  simp [bne,this]
theorem EG {c0:Nat} (hz:Rd w o (zs.map nw) F) (h0:0<zs.length) (hB:ba w c0 [.slice o zs.length c] bq) (hx:zs.length≤1000000):Calls Tryz.prog 207 #[.slice o zs.length c,.func (.func qu) #[] #[.pointer (some ⟨c0,0,none⟩)]] w (bc fun v w'=>v = .bool (!nl zs)∧w'=w):=by
 refine cj.DU _ _ _ _ ?_
 have hi:Calls Tryz.prog 208 #[.slice o zs.length c,.func (.func qu) #[] #[.pointer (some ⟨c0,0,none⟩)]] w (bc fun v w'=>∃ i:Int,v = .int .i64 i∧decide (i≥0)=zs.any (Cq zs)∧w'=w):=by
  refine bf.DU _ _ _ _ ?_
  have hf:=fun x=>FV hz h0 hB x
  generalize Cq zs=f at hf ⊢
  have hr:=hz
  clear hz hB h0
  revert hr hx hf
  generalize zs=xs
  intro hx hf hr
  refine ⟨fun i k w'=>w'=w∧∃ j:Nat,i=j∧j≤xs.length∧k=xs.length-j∧(xs.take j).any f=false,⟨_,rfl,0,rfl,Nat.zero_le _,rfl,rfl⟩,?_⟩
  rintro jk i k w' ⟨rfl,j,rfl,hj,rfl,a0⟩
  refine ⟨fun a1=>?_,fun a2=>?_⟩
  ·have a1:j<xs.length:=by have:=dQt a1;omega
   refine ⟨⟨by omega,by omega⟩,hr.at (j:=(j:Int).toNat*1) (v:=nw xs[j]) (by simp [a1]) fun p hp=>⟨_,_,_,hp,?_⟩⟩
   refine ab (hf xs[j]) ?_
   rintro v w1 ⟨rfl,rfl⟩
   refine ⟨_,rfl,fun h=>⟨_,rfl,?_,rfl⟩,fun h=>⟨xs.length-(j+1),by omega,rfl,j+1,by rw [ae (by omega) (by omega)];rfl,a1,rfl,?_⟩⟩
   ·have:xs.any f=true:=by rw [List.any_eq_true];exact ⟨xs[j],List.getElem_mem _,h⟩
    rw [this];simp
   ·rw [au xs j a1,List.any_append,a0]
    simpa using h
  ·have:j=xs.length:=by have:=dQf a2;omega
   subst this
   rw [List.take_length] at a0
   exact ⟨_,rfl,by rw [a0];rfl,rfl⟩
 refine ab hi ?_
 rintro v w1 ⟨i,rfl,h,rfl⟩
 exact ⟨_,rfl,by rw [h,LN],rfl⟩
def pick:Int→List Int→Nat→Int
 | _,[],_ => -1
 | rest,n :: r,i=>if rest<n then i else pick (rest-n) r (i+1)
def nN (draw:Int) (ws:List Int):Int:=if ws.length>64∨ws.any AJ=true then -1 else if ws.sum=0 then -1 else pick (draw % ws.sum) ws 0
theorem EU {ws:List Int} (h:ws.any AJ=false):∀ n∈ws,0≤n∧n≤1048576:=fun n hn=>by
 have:=List.any_eq_false.1 h n hn
 unfold AJ at this
 simp at this
 omega
theorem Jz {a s:Int} (hs:0<s):(Int.tmod a s<0→a % s=Int.tmod a s+s)∧(¬ Int.tmod a s<0→a % s=Int.tmod a s) ∧ -s<Int.tmod a s∧Int.tmod a s<s:=by
 have b1:=Int.tmod_lt_of_pos a hs
 have b2:=Int.lt_tmod_of_pos a hs
 have e:a % s=Int.tmod a s % s:=by
  conv=>lhs;rw [← Int.mul_tdiv_add_tmod a s]
  rw [Int.add_comm,Int.add_mul_emod_self_left]
 refine ⟨fun h=>?_,fun h=>?_,b2,b1⟩
 ·rw [e,← Int.add_emod_right,Int.emod_eq_of_lt (by omega) (by omega)]
 ·rw [e,Int.emod_eq_of_lt (by omega) (by omega)]
theorem Ee (a0:∀ n∈ws,0≤n∧n≤1048576) (hl:ws.length≤64):nY ws=ws.sum∧0≤ws.sum∧ws.sum≤67108864:=by
 obtain ⟨s1,s2,s3⟩:=Fp (b:=1048576) (by omega) ws (fun x hx=>by have:=a0 x hx;omega) (by omega) (by omega)
 have:0≤ws.sum:=by
  clear s1 s2 s3 hl
  induction ws with
  | nil=>simp
  | cons x r ih=>rw [List.sum_cons];have:=a0 x (by simp);have:=ih (fun n hn=>a0 n (by simp [hn]));omega
 exact ⟨s1,this,by omega⟩
theorem IR (hw:Rd w ow (ws.map (.int .i64)) F) (hl:ws.length≤1000000) (draw:Int) (c:Nat) :
  Calls Tryz.prog FT #[.int .i64 draw,.slice ow ws.length c] w (bc fun v w'=>v = .int .i64 (nN draw ws)∧w'=w):=by
 refine Js.calls _ _ _ _ ?_
 unfold nN
 refine ⟨fun h=>?_,fun a2=>?_⟩
 ·have:=dQt h
  rw [if_pos (.inl (by omega))];exact ⟨rfl,rfl⟩
 have a2:ws.length≤64:=by have:=dQf a2;omega
 refine ab (Fh hw hl c) ?_
 rintro v w1 ⟨rfl,rfl⟩
 refine ⟨_,rfl,fun h=>?_,fun hg=>?_⟩
 ·rw [if_pos (.inr h)];exact ⟨rfl,rfl⟩
 rw [if_neg (by rw [hg];simp;omega)]
 have a0:=EU hg
 obtain ⟨s1,s2,s3⟩:=Ee a0 a2
 refine ab (wD (c:=c) hw (by omega)) ?_
 rintro v w5 ⟨rfl,rfl⟩
 rw [s1]
 refine ⟨_,rfl,fun h=>?_,fun h=>?_⟩
 ·rw [if_pos (by simpa using h)];exact ⟨rfl,rfl⟩
 have h:ws.sum≠0:=by simpa using h
 rw [if_neg h]
 obtain ⟨t1,t2,t3,t4⟩:=Jz (a:=draw) (s:=ws.sum) (by omega)
 have hm:=Int.emod_nonneg draw h
 have a7:=Int.emod_lt_of_pos draw (show 0<ws.sum by omega)
 refine ⟨h,fun rest w'=>w'=w5∧rest=draw % ws.sum,⟨fun hn=>⟨rfl,?_⟩,fun hn=>⟨rfl,(t2 (dQf hn)).symm⟩⟩,?_⟩
 ·have hn:=dQt hn
  rw [ae (by omega) (by omega)];exact (t1 hn).symm
 rintro jk r0 w ⟨rfl,rfl⟩
 have a3:=hm
 have a4:draw % ws.sum≤100000000:=by omega
 refine ⟨fun rest i k w'=>w'=w∧0≤rest∧rest≤100000000∧∃ j:Nat,i=j∧j≤ws.length∧k=ws.length-j∧pick rest (ws.drop j) j=pick (draw % ws.sum) ws 0,⟨_,rfl,a3,a4,0,rfl,Nat.zero_le _,rfl,rfl⟩,?_⟩
 rintro jk rest i k w' ⟨rfl,h1,h2,j,rfl,hj,rfl,hp⟩
 refine ⟨fun a1=>?_,fun a5=>?_⟩
 ·have a1:j<ws.length:=by have:=dQt a1;omega
  have hn:=a0 _ (List.getElem_mem a1)
  rw [List.drop_eq_getElem_cons a1,pick] at hp
  have rd:∀ {K:Addr→Prop},(∀ p:Addr,w'.cell? (p.add ((j:Int).toNat*1))=some (.int .i64 ws[j])→K p)→jr ow K:=fun hk=>hw.at (j:=(j:Int).toNat*1) (v := .int .i64 ws[j]) (by simp [a1]) hk
  refine ⟨⟨by omega,by omega⟩,rd fun p a6=>⟨_,a6,fun hh=>?_,fun hh=>?_⟩⟩
  ·rw [if_pos (dQt hh)] at hp
   exact ⟨by rw [← hp],rfl⟩
  ·have hh:=dQf hh
   rw [if_neg hh] at hp
   rw [ae (x:=rest-ws[j]) (by omega) (by omega)]
   exact ⟨ws.length-(j+1),by omega,rfl,by omega,by omega,j+1,by rw [ae (by omega) (by omega)];rfl,a1,rfl,hp⟩
 ·have:j=ws.length:=by have:=dQf a5;omega
  subst this
  rw [List.drop_length,pick] at hp
  exact ⟨by rw [hp],rfl⟩
theorem HE (hw:Rd w ow (ws.map (.int .i64)) F) (hl:ws.length≤1000000) (draw:Int) (c:Nat) :
  Calls Tryz.prog ti #[.int .i64 draw,.slice ow ws.length c] w (bc fun v w'=>v = .int .i64 (nN draw ws)∧w'=w):=by
 refine vL.calls _ _ _ _ ?_
 unfold Vm.B Vm.B2 Vm.B8 Vm.Br Vm.C0 Vm.E5 Vm.G Vm.G5 Vm.G7 Vm.L0 Vm.P Vm.V Vm.W Vm.Z;dsimp only
 refine ⟨fun s i k w'=>w'=w∧∃ j:Nat,i=j∧j≤ws.length∧k=ws.length-j∧s=(ws.take j).sum∧(ws.take j).any AJ=false∧(j=0∨ws.length≤64),⟨_,rfl,0,rfl,Nat.zero_le _,rfl,rfl,rfl,.inl rfl⟩,?_⟩
 rintro jk s i k w' ⟨rfl,j,rfl,hj,rfl,rfl,hg,a4⟩
 refine ⟨fun a0=>?_,fun a2=>?_⟩
 ·have a0:j<ws.length:=by have:=dQt a0;omega
  have rd:∀ {K:Addr→Prop},(∀ p:Addr,w'.cell? (p.add ((j:Int).toNat*1))=some (.int .i64 ws[j])→K p)→jr ow K:=fun hk=>hw.at (j:=(j:Int).toNat*1) (v := .int .i64 ws[j]) (by simp [a0]) hk
  have bad:AJ ws[j]=true→Value.int .i64 (-1) = .int .i64 (nN draw ws):=fun h=>by
   unfold nN;rw [if_pos (.inr (List.any_eq_true.2 ⟨ws[j],List.getElem_mem a0,h⟩))]
  refine ⟨⟨by omega,by omega⟩,rd fun p hp=>⟨_,hp,fun h=>⟨bad (by unfold AJ;rw [h];rfl),rfl⟩,fun h1=>⟨⟨by omega,by omega⟩,rd fun p hp=>⟨_,hp,fun h=>⟨bad (by unfold AJ;rw [h,Bool.or_true]),rfl⟩,fun h2=>⟨fun h=>⟨?_,rfl⟩,fun h3=>⟨⟨by omega,by omega⟩,rd fun p hp=>⟨_,hp,?_⟩⟩⟩⟩⟩⟩⟩
  ·have:=dQt h
   unfold nN;rw [if_pos (.inl (by omega))]
  ·have h3:=dQf h3
   have hb:AJ ws[j]=false:=by unfold AJ;rw [h1,h2];rfl
   have a1:=EU hg
   have a9:=Ee a1 (by simp;omega)
   have h1:=dQf h1
   have h2:=dQf h2
   refine ⟨ws.length-(j+1),by omega,rfl,j+1,by rw [ae (by omega) (by omega)];rfl,a0,rfl,?_,?_,.inr (by omega)⟩
   ·rw [au ws j a0,Az,ae (by omega) (by omega)]
   ·rw [au ws j a0,List.any_append,hg];simpa using hb
 have a5:j=ws.length:=by have:=dQf a2;omega
 subst a5
 rw [List.take_length] at hg ⊢
 have a6:ws.length≤64:=by omega
 have a1:=EU hg
 obtain ⟨s1,s2,s3⟩:=Ee a1 a6
 unfold nN
 rw [if_neg (by rw [hg];simp;omega)]
 refine ⟨fun h=>?_,fun h=>?_⟩
 ·rw [if_pos (by simpa using h)];exact ⟨rfl,rfl⟩
 have h:ws.sum≠0:=by simpa using h
 rw [if_neg h]
 obtain ⟨t1,t2,t3,t4⟩:=Jz (a:=draw) (s:=ws.sum) (by omega)
 have hm:=Int.emod_nonneg draw h
 have b2:=Int.emod_lt_of_pos draw (show 0<ws.sum by omega)
 refine ⟨h,fun rest w2=>w2=w'∧rest=draw % ws.sum,⟨fun hn=>⟨rfl,?_⟩,fun hn=>⟨rfl,(t2 (dQf hn)).symm⟩⟩,?_⟩
 ·have hn:=dQt hn
  rw [ae (by omega) (by omega)];exact (t1 hn).symm
 clear hj a4
 rintro jk r0 w ⟨rfl,rfl⟩
 have a7:=hm
 have a8:draw % ws.sum≤100000000:=by omega
 refine ⟨fun rest i k w'=>w'=w∧0≤rest∧rest≤100000000∧∃ j:Nat,i=j∧j≤ws.length∧k=ws.length-j∧pick rest (ws.drop j) j=pick (draw % ws.sum) ws 0,⟨_,rfl,a7,a8,0,rfl,Nat.zero_le _,rfl,rfl⟩,?_⟩
 rintro jk rest i k w' ⟨rfl,h1,h2,j,rfl,hj,rfl,hp⟩
 refine ⟨fun a0=>?_,fun a2=>?_⟩
 ·have a0:j<ws.length:=by have:=dQt a0;omega
  have hn:=a1 _ (List.getElem_mem a0)
  rw [List.drop_eq_getElem_cons a0,pick] at hp
  have rd:∀ {K:Addr→Prop},(∀ p:Addr,w'.cell? (p.add ((j:Int).toNat*1))=some (.int .i64 ws[j])→K p)→jr ow K:=fun hk=>hw.at (j:=(j:Int).toNat*1) (v := .int .i64 ws[j]) (by simp [a0]) hk
  refine ⟨⟨by omega,by omega⟩,rd fun p a3=>⟨_,a3,fun hh=>?_,fun hh=>⟨⟨by omega,by omega⟩,rd fun p a3=>⟨_,a3,?_⟩⟩⟩⟩
  ·rw [if_pos (dQt hh)] at hp
   exact ⟨by rw [← hp],rfl⟩
  ·have hh:=dQf hh
   rw [if_neg hh] at hp
   rw [ae (x:=rest-ws[j]) (by omega) (by omega)]
   exact ⟨ws.length-(j+1),by omega,rfl,by omega,by omega,j+1,by rw [ae (by omega) (by omega)];rfl,a0,rfl,hp⟩
 ·have:j=ws.length:=by have:=dQf a2;omega
  subst this
  rw [List.drop_length,pick] at hp
  exact ⟨by rw [hp],rfl⟩
end
end Go.Proofs.YtkbikekbaboclaaGreat.ed
set_option linter.unusedVariables false
set_option linter.unusedSimpArgs false
namespace Go.Proofs.YtkbikekbaboclaaGreat.ed
open Go Go.Proofs V Vc qX Go.RowKit
def mm (ws:List Int) (zs:List nH):Bool:=decide (zs.length≠0)&&decide (ws.length=zs.length)&&!(ws.any tE)&&decide (ws.sum≠0)&&nl zs
def ij (ws:List Int) (zs:List nH) (k:Nat):List Int:=List.zipWith (fun a z=>a*cl (z.2.2.getD k 0)) ws zs
def Dh (ws:List Int) (zs:List nH):List Int:=(List.range (wid zs)).map fun k=>sat (Int.tdiv (ij ws zs k).sum ws.sum)
def rM (ws:List Int) (zs:List nH):List Int:=if mm ws zs then Dh ws zs else []
theorem Hq {ws:List Int} (h:ws.any tE=false):∀ n∈ws,0≤n∧n≤65536:=fun n hn=>by
 have:=List.any_eq_false.1 h n hn
 unfold tE at this
 simp at this
 omega
theorem xR {ws:List Int} (a0:∀ n∈ws,0≤n∧n≤65536) (hl:ws.length≤1000):nY ws=ws.sum∧0≤ws.sum∧ws.sum≤65536000:=by
 obtain ⟨s1,s2,s3⟩:=Fp (b:=65536) (by omega) ws (fun x hx=>by have:=a0 x hx;omega) (by omega) (by omega)
 have:0≤ws.sum:=by
  clear s1 s2 s3 hl
  induction ws with
  | nil=>simp
  | cons x r ih=>rw [List.sum_cons];have:=a0 x (by simp);have:=ih (fun n hn=>a0 n (by simp [hn]));omega
 exact ⟨s1,this,by omega⟩
theorem Jj {ws:List Int} {zs:List nH} (h:mm ws zs=true):0<zs.length∧ws.length=zs.length∧(∀ n∈ws,0≤n∧n≤65536)∧ws.sum≠0∧∀ z∈zs,z.2.2.length=wid zs:=by
 unfold mm at h
 simp only [Bool.and_eq_true,decide_eq_true_eq,Bool.not_eq_true'] at h
 obtain ⟨⟨⟨⟨h1,h2⟩,h3⟩,h4⟩,h5⟩:=h
 exact ⟨by omega,h2,Hq h3,h4,NT h5⟩
theorem LW {x s B:Int} (h1 : -B≤x) (h2:x≤B) : -B≤Int.tdiv x s∧Int.tdiv x s≤B:=by
 have h:=Int.natAbs_tdiv x s
 have h3:x.natAbs.div s.natAbs≤x.natAbs:=Nat.div_le_self _ _
 rw [← h] at h3
 omega
theorem Me {ws:List Int} {zs:List nH} (a0:∀ n∈ws,0≤n∧n≤65536) (k:Nat):∀ x∈ij ws zs k,-70368744177664≤x∧x≤70368744177664:=by
 intro x hx
 obtain ⟨i,hi,rfl⟩:=List.getElem_of_mem hx
 unfold ij at hi ⊢
 have a1:=hi
 rw [List.length_zipWith] at a1
 rw [List.getElem_zipWith]
 have a:=a0 _ (List.getElem_mem (show i<ws.length by omega))
 have b:=Jl ((zs[i]'(by omega)).2.2.getD k 0)
 exact Sn (A:=65536) (B:=1073741824) (by omega) a.2 b.1 b.2
section
variable {w:World} {o ow:OA} {c cw:Nat} {ws:List Int} {zs:List nH} {F G K:Nat→Prop}
theorem Kp (hw:Rd w ow (ws.map (.int .i64)) F) (hz:Rd w o (zs.map nw) G) (hl:ws.length≤1000) (a2:zs.length≤1000) (cw c:Nat) :
  Calls Tryz.prog HA #[.slice ow ws.length cw,.slice o zs.length c] w (bc fun v w'=>v = .bool (mm ws zs)∧Ch ah w w'):=by
 refine Kh.calls _ _ _ _ _ _ ?_
 intro w1 e1
 have hB:=ba.new e1
 have hC:Ch ah w w1:=Ch.alloc e1
 generalize w.heap.size=tb at hB ⊢
 refine ⟨_,_,_,hB.cell 0 rfl,fun h=>⟨?_,hC⟩,fun h0=>⟨_,_,_,hB.cell 0 rfl,fun h=>⟨?_,hC⟩,fun h1=>?_⟩⟩
 ·have h:zs.length=0:=by simp at h;rw [h];rfl
  unfold mm;rw [decide_eq_false (by simpa using h)];simp
 ·have h:ws.length≠zs.length:=by simp at h;omega
  unfold mm;rw [decide_eq_false h];simp
 have h0:zs.length≠0:=by simp at h0;simpa using h0
 have h1:ws.length=zs.length:=by simp at h1;omega
 refine ab (wD (c:=cw) (hw.aa hC) (by omega)) ?_
 rintro v w2 ⟨rfl,rfl⟩
 have a0:ws.any tE=false→nY ws=ws.sum:=fun h=>(xR (Hq h) hl).1
 have a1:(decide (zs.length≠0)&&decide (ws.length=zs.length))=true:=by rw [decide_eq_true h0,decide_eq_true h1];rfl
 refine ⟨_,rfl,fun h=>⟨?_,hC⟩,fun h2=>?_⟩
 ·have h:nY ws=0:=by simpa using h
  cases hb:ws.any tE with
  | true=>unfold mm;rw [hb];simp
  | false=>unfold mm;rw [← a0 hb,h];simp
 have h2:nY ws≠0:=by simpa using h2
 refine ab (EC (hw.aa hC) (by omega) cw) ?_
 rintro v w3 ⟨rfl,rfl⟩
 refine ⟨_,rfl,fun hb=>⟨_,_,_,hB.cell 0 rfl,?_⟩,fun hb=>⟨?_,hC⟩⟩
 ·have hb:ws.any tE=false:=by simpa using hb
  refine ab (EG (hz.aa hC) (by omega) hB (by omega)) ?_
  rintro v w4 ⟨rfl,rfl⟩
  refine ⟨_,rfl,?_,hC⟩
  unfold mm
  rw [a1,hb,decide_eq_true (by rw [← a0 hb];exact h2)]
  simp
 ·have hb:ws.any tE=true:=by simpa using hb
  unfold mm;rw [hb];simp
theorem Jk (hw:Rd w ow (ws.map (.int .i64)) F) (hz:Rd w o (zs.map nw) G) (b6:∀ z∈zs,Rd w z.1 (z.2.2.map (.int .i64)) K∧z.2.2.length≤1000000) (hl:ws.length≤1000) (c4:zs.length≤1000) (cw c:Nat) :
  Calls Tryz.prog Kj #[.slice ow ws.length cw,.slice o zs.length c] w (bc fun v w'=>∃ (A:OA) (C:Nat),v = .slice A (rM ws zs).length C∧Gr ah w w' bd 1 A (rM ws zs).length C ((rM ws zs).map (.int .i64))):=by
 refine Po.calls _ _ _ _ _ _ ?_
 refine ab (Kp hw hz hl c4 cw c) ?_
 rintro v w1 ⟨rfl,hC⟩
 refine ⟨_,rfl,fun h=>?_,fun h=>?_⟩
 ·have h:mm ws zs=false:=by simpa using h
  unfold rM;rw [h];exact ⟨none,0,rfl,Gr.nil hC⟩
 have h:mm ws zs=true:=by simpa using h
 obtain ⟨h0,h1,a1,c5,a7⟩:=Jj h
 unfold rM
 rw [h,if_pos rfl]
 have hw:=hw.aa hC
 have hz:=hz.aa hC
 obtain ⟨s1,s2,s3⟩:=xR a1 hl
 refine ab (wD (c:=cw) hw (by omega)) ?_
 rintro v w2 ⟨rfl,rfl⟩
 rw [s1]
 refine ⟨_,rfl,⟨by omega,by omega⟩,hz.Sa (v:=nw zs[0]) (by rw [List.getElem?_map,List.getElem?_eq_getElem h0];rfl) fun p hp=>⟨_,_,_,hp,?_⟩⟩
 rw [← je h0]
 have hL:(Dh ws zs).length=wid zs:=by simp [Dh]
 have c6:wid zs≤1000000:=by rw [je h0];exact (b6 _ (List.getElem_mem h0)).2
 have b7:∀ (j:Nat) (h:j<(Dh ws zs).length),(Dh ws zs)[j]=sat (Int.tdiv (ij ws zs j).sum ws.sum):=fun j h=>by simp [Dh]
 generalize Dh ws zs=L at hL b7 ⊢
 refine ⟨fun A j CC k x w'=>k=j∧j≤L.length∧x=L.length-j∧Gr ah w2 w' bd 1 A j CC ((L.take j).map (.int .i64)),⟨_,rfl,Nat.zero_le _,rfl,Gr.nil (Ch.refl _ _)⟩,?_⟩
 rintro jk A j CC k x w3 ⟨rfl,hj,rfl,hg⟩
 refine ⟨fun a3=>?_,fun c7=>?_⟩
 ·have a3:j<L.length:=by have:=dQt a3;omega
  have hT:(ij ws zs j).length=zs.length:=by simp [ij];omega
  have a8:∀ (m:Nat) (h:m<(ij ws zs j).length) (h1:m<ws.length) (h2:m<zs.length) (h3:j<zs[m].2.2.length),(ij ws zs j)[m]=ws[m]*cl zs[m].2.2[j]:=fun m h h1 h2 h3=>by simp [ij,List.getD_eq_getElem?_getD,List.getElem?_eq_getElem h3]
  have a9:=Me (zs:=zs) a1 j
  have a4:=b7 j a3
  generalize ij ws zs j=T at hT a8 a9 a4
  have a2:∀ m,-(70368744177664*((T.take m).length:Int))≤(T.take m).sum∧(T.take m).sum≤70368744177664*((T.take m).length:Int):=fun m=>KX (fun x hx=>a9 x (List.mem_of_mem_take hx))
  have b8:∀ m,((T.take m).length:Int)≤1000:=fun m=>by simp;omega
  refine ⟨fun x k g w'=>Ch ah w3 w'∧∃ m:Nat,k=m∧m≤T.length∧g=T.length-m∧x=(T.take m).sum,⟨_,Ch.refl _ _,0,rfl,Nat.zero_le _,rfl,rfl⟩,?_⟩
  rintro jk x k g w4 ⟨a5,m,rfl,hm,rfl,rfl⟩
  refine ⟨fun a0=>?_,fun b2=>?_⟩
  ·have a0:m<T.length:=by have:=dQt a0;omega
   have a6:m<zs.length:=by omega
   have b3:m<ws.length:=by omega
   have b4:j<zs[m].2.2.length:=by rw [a7 _ (List.getElem_mem a6)];omega
   have c8:=(hz.aa hg.2).aa a5
   refine ⟨⟨by omega,by omega⟩,c8.at (j:=(m:Int).toNat*1) (v:=nw zs[m]) (by simp [a6]) fun p hp=>⟨_,_,_,hp,fun w'=>Ch ah w3 w',fun w5 e5=>?_⟩⟩
   have b5:=a5.ag (Ch.drew (F:=ah) e5)
   refine ⟨b5,⟨by omega,by omega⟩,Rd.keeps (j:=m) (S:=fun w'=>Ch ah w3 w') (fun w2 h2=>(hw.aa hg.2).aa h2) a5 b3 fun p2 c9=>⟨_,fun w' h=>by rw [dw];exact c9 w' h,⟨by omega,by omega⟩,
    Rd.keeps (j:=j) (S:=fun w'=>Ch ah w3 w') (fun w2 h2=>(((b6 _ (List.getElem_mem a6)).1.aa hC).aa hg.2).aa h2) a5 b4 fun p3 d0=>⟨_,fun w' h=>by rw [dw];exact d0 w' h,?_⟩⟩⟩
   refine ab (uF w5 _) ?_
   rintro v w6 ⟨rfl,rfl⟩
   have hb:=a9 _ (List.getElem_mem a0)
   have b9:=a2 m
   have c0:=b8 m
   rw [a8 m a0 b3 a6 b4] at hb
   refine ⟨_,rfl,b5,T.length-(m+1),by omega,b5,m+1,by rw [ae (by omega) (by omega)];rfl,a0,rfl,?_⟩
   rw [au T m a0,Az,a8 m a0 b3 a6 b4,ae (x:=ws[m]*_) (by omega) (by omega),ae (by omega) (by omega)]
  ·have:m=T.length:=by have:=dQf b2;omega
   subst this
   have b9:=a2 T.length
   have c0:=b8 T.length
   rw [List.take_length] at b9 c0 ⊢
   have h3:=LW (x:=T.sum) (s:=ws.sum) (B:=70368744177664000) (by omega) (by omega)
   rw [ae (by omega) (by omega)]
   refine ⟨c5,?_⟩
   refine ab (oL _ _) ?_
   rintro v w7 ⟨rfl,rfl⟩
   refine ⟨_,rfl,fun w8 e8=>?_⟩
   rw [← a4] at e8
   obtain ⟨A',C',w9,hr,d1,_⟩:=(hg.aa a5).next bi ay a3 (by omega) e8 rfl rfl (by omega)
   exact ⟨A',_,C',w9,hr,L.length-(j+1),by omega,by rw [ae (by omega) (by omega)];rfl,a3,rfl,d1⟩
 ·have:j=L.length:=by have:=dQf c7;omega
  subst this
  rw [List.take_length] at hg
  exact ⟨A,CC,rfl,hg.1.mono (fun i _ hN=>⟨Nat.le_trans hC.size hN.1,hN.2⟩),hC.ag hg.2⟩
theorem Mv (hw:Rd w ow (ws.map (.int .i64)) F) (hz:Rd w o (zs.map nw) G) (d2:∀ z∈zs,Rd w z.1 (z.2.2.map (.int .i64)) K∧z.2.2.length≤1000000) (hl:ws.length≤1000) (f0:zs.length≤1000) (cw c:Nat) :
  Calls Tryz.prog wh #[.slice ow ws.length cw,.slice o zs.length c] w (bc fun v w'=>∃ (A:OA) (C:Nat),v = .slice A (rM ws zs).length C∧Gr ah w w' bd 1 A (rM ws zs).length C ((rM ws zs).map (.int .i64))):=by
 refine zD.calls _ _ _ _ _ _ ?_
 intro w1 e1
 have b8:Gr ah w w1 bd 1 (some ⟨w.heap.size,0,none⟩) 0 0 []:=Gr.nG (Ch.refl _ _) e1
 have hC:Ch ah w w1:=Ch.alloc e1
 generalize w.heap.size=tb at b8 ⊢
 have no:∀ w',Ch ah w1 w'→mm ws zs=false→∃ (A:OA) (C:Nat),Value.slice (some ⟨tb,0,none⟩) 0 0 = .slice A (rM ws zs).length C∧Gr ah w w' bd 1 A (rM ws zs).length C ((rM ws zs).map (.int .i64)):=fun w' hc h=>by
  unfold rM;rw [h];exact ⟨_,0,rfl,b8.aa hc⟩
 refine ⟨fun h=>no w1 (Ch.refl _ _) ?_,fun h0=>⟨fun h=>no w1 (Ch.refl _ _) ?_,fun h1=>?_⟩⟩
 ·have h:zs.length=0:=by simp at h;rw [h];rfl
  unfold mm;rw [decide_eq_false (by simpa using h)];simp
 ·have h:ws.length≠zs.length:=by simp at h;omega
  unfold mm;rw [decide_eq_false h];simp
 have h0:0<zs.length:=by simp at h0;exact List.length_pos_iff.2 h0
 have h1:ws.length=zs.length:=by simp at h1;omega
 have d9:=hw
 have d3:=hz
 have hw:=hw.aa hC
 have hz:=hz.aa hC
 refine ⟨fun s i k w'=>Ch ah w1 w'∧∃ j:Nat,i=j∧j≤zs.length∧k=zs.length-j∧s=(ws.take j).sum∧(∀ n∈ws.take j,0≤n∧n≤65536)∧∀ z∈zs.take j,z.2.2.length=wid zs,⟨_,Ch.refl _ _,0,rfl,Nat.zero_le _,rfl,rfl,fun n hn=>by simp at hn,fun n hn=>by simp at hn⟩,?_⟩
 rintro jk s i k w2 ⟨a8,j,rfl,hj,rfl,rfl,a0,a3⟩
 refine ⟨fun a2=>?_,fun b9=>?_⟩
 ·have a2:j<zs.length:=by have:=dQt a2;omega
  have a4:j<ws.length:=by omega
  have bad:tE ws[j]=true→mm ws zs=false:=fun h=>by
   have:ws.any tE=true:=List.any_eq_true.2 ⟨ws[j],List.getElem_mem a4,h⟩
   unfold mm;rw [this];simp
  refine ⟨fun w'=>Ch ah w1 w',fun w3 e3=>?_⟩
  have a7:=a8.ag (Ch.drew (F:=ah) e3)
  have c0:∀ {K:Addr→Prop},(∀ p:Addr,(∀ w',Ch ah w1 w'→w'.cell? (p.add ((j:Int).toNat*1))=some (.int .i64 ws[j]))→K p)→jr ow K:=fun hk =>
   Rd.keeps (j:=j) (S:=fun w'=>Ch ah w1 w') (fun w2 h2=>hw.aa h2) a8 a4 fun p hp=>hk p (fun w' h=>by rw [dw];exact hp w' h)
  refine ⟨a7,⟨by omega,by omega⟩,Rd.keeps (j:=j) (S:=fun w'=>Ch ah w1 w') (fun w2 h2=>hz.aa h2) a8 a2 fun p hp=>⟨_,_,_,fun w' h=>by rw [dw];exact hp w' h,⟨by omega,by omega⟩,
   Rd.keeps (j:=0) (S:=fun w'=>Ch ah w1 w') (fun w2 h2=>hz.aa h2) a8 h0 fun p2 a9=>⟨_,_,_,fun w' h=>by have:=a9 w' h;rw [cm] at this;exact this,fun b2=>no w3 a7 ?_,fun c4=>⟨⟨by omega,by omega⟩,
   c0 fun p3 c5=>⟨_,c5,fun h=>no w3 a7 (bad (by unfold tE;rw [h];rfl)),fun g1=>⟨⟨by omega,by omega⟩,c0 fun p4 e0=>⟨_,e0,fun h=>no w3 a7 (bad (by unfold tE;rw [h,Bool.or_true])),fun g2=>⟨⟨by omega,by omega⟩,c0 fun p5 e2=>⟨_,e2 w3 a7,?_⟩⟩⟩⟩⟩⟩⟩⟩⟩
  ·have b2:zs[j].2.2.length≠zs[0].2.2.length:=by simp at b2;omega
   have:=Ds a2 (by rw [je h0];exact b2)
   unfold mm;rw [this,Bool.and_false]
  ·have c4:zs[j].2.2.length=zs[0].2.2.length:=by simp at c4;omega
   have g1:=dQf g1
   have g2:=dQf g2
   have hs:=xR a0 (by simp;omega)
   refine ⟨zs.length-(j+1),by omega,a7,j+1,by rw [ae (by omega) (by omega)];rfl,a2,rfl,?_,fun n hn=>?_,fun z b7=>?_⟩
   ·rw [au ws j a4,Az,ae (by omega) (by omega)]
   ·rw [au ws j a4,List.mem_append,List.mem_singleton] at hn
    rcases hn with hn|rfl
    ·exact a0 n hn
    ·omega
   ·rw [au zs j a2,List.mem_append,List.mem_singleton] at b7
    rcases b7 with b7|rfl
    ·exact a3 z b7
    ·rw [je h0];exact c4
 have e4:j=zs.length:=by have:=dQf b9;omega
 subst e4
 rw [List.take_length] at a3
 rw [← h1,List.take_length] at a0 ⊢
 obtain ⟨s1,s2,s3⟩:=xR a0 hl
 have b3:=tL a3
 have hb:ws.any tE=false:=by
  rw [List.any_eq_false];intro n hn;have:=a0 n hn;unfold tE;simp;omega
 have d4:mm ws zs=decide (ws.sum≠0):=by
  unfold mm
  rw [decide_eq_true (show zs.length≠0 by omega),decide_eq_true h1,hb,b3];simp
 have hL:(rM ws zs).length=if ws.sum=0 then 0 else wid zs:=by
  unfold rM;rw [d4];by_cases hz:ws.sum=0 <;> simp [hz,Dh]
 have e6:wid zs≤1000000:=by rw [je h0];exact (d2 _ (List.getElem_mem h0)).2
 have d5:∀ (j:Nat) (h:j<(rM ws zs).length),(rM ws zs)[j]=sat (Int.tdiv (ij ws zs j).sum ws.sum):=fun j h=>by
  have b2:ws.sum≠0:=fun he=>by rw [hL,if_pos he] at h;omega
  have e:rM ws zs=Dh ws zs:=by unfold rM;rw [d4,decide_eq_true b2];rfl
  simp only [e];simp [Dh]
 clear no
 generalize rM ws zs=L at hL d5 ⊢
 refine ⟨fun A j CC k x w'=>k=j∧j≤L.length∧x=L.length-j∧Gr ah w w' bd 1 A j CC ((L.take j).map (.int .i64)),⟨_,rfl,Nat.zero_le _,rfl,b8.aa a8⟩,?_⟩
 rintro jk A j CC k x w3 ⟨rfl,hj,rfl,hg⟩
 have fin:j=L.length→∃ (A':OA) (C:Nat),Value.slice A j CC = .slice A' L.length C∧Gr ah w w3 bd 1 A' L.length C (L.map (.int .i64)):=by
  rintro rfl
  rw [List.take_length] at hg
  exact ⟨A,CC,rfl,hg⟩
 refine ⟨fun a5=>?_,fun a5=>fin (by have:=dQf a5;rw [if_pos (by omega)] at hL;omega)⟩
 have a5:=dQt a5
 rw [if_neg (by omega)] at hL
 refine ⟨⟨by omega,by omega⟩,(d3.aa hg.2).Sa (v:=nw zs[0]) (by rw [List.getElem?_map,List.getElem?_eq_getElem h0];rfl) fun p2 a9=>⟨_,_,_,a9,?_⟩⟩
 rw [← je h0]
 refine ⟨fun a2=>?_,fun b9=>fin (by have:=dQf b9;omega)⟩
 have a2:j<L.length:=by have:=dQt a2;omega
 have hT:(ij ws zs j).length=zs.length:=by simp [ij];omega
 have c6:∀ (m:Nat) (h:m<(ij ws zs j).length) (h1:m<ws.length) (h2:m<zs.length) (h3:j<zs[m].2.2.length),(ij ws zs j)[m]=ws[m]*cl zs[m].2.2[j]:=fun m h h1 h2 h3=>by simp [ij,List.getD_eq_getElem?_getD,List.getElem?_eq_getElem h3]
 have c7:=Me (zs:=zs) a0 j
 have b4:=d5 j a2
 generalize ij ws zs j=T at hT c6 c7 b4
 have a6:∀ m,-(70368744177664*((T.take m).length:Int))≤(T.take m).sum∧(T.take m).sum≤70368744177664*((T.take m).length:Int):=fun m=>KX (fun x hx=>c7 x (List.mem_of_mem_take hx))
 have d6:∀ m,((T.take m).length:Int)≤1000:=fun m=>by simp;omega
 refine ⟨fun x k g w'=>Ch ah w3 w'∧∃ m:Nat,k=m∧m≤T.length∧g=T.length-m∧x=(T.take m).sum,⟨_,Ch.refl _ _,0,rfl,Nat.zero_le _,rfl,rfl⟩,?_⟩
 rintro jk x k g w4 ⟨b5,m,rfl,hm,rfl,rfl⟩
 refine ⟨fun a1=>?_,fun c8=>?_⟩
 ·have a1:m<T.length:=by have:=dQt a1;omega
  have b6:m<zs.length:=by omega
  have c9:m<ws.length:=by omega
  have d0:j<zs[m].2.2.length:=by rw [a3 _ (List.getElem_mem b6)];omega
  refine ⟨fun w'=>Ch ah w3 w',fun w5 e5=>?_⟩
  have d1:=b5.ag (Ch.drew (F:=ah) e5)
  refine ⟨d1,⟨by omega,by omega⟩,Rd.keeps (j:=m) (S:=fun w'=>Ch ah w3 w') (fun w2 h2=>(d9.aa hg.2).aa h2) b5 c9 fun p2 a9=>⟨_,fun w' h=>by rw [dw];exact a9 w' h,⟨by omega,by omega⟩,
   Rd.keeps (j:=m) (S:=fun w'=>Ch ah w3 w') (fun w2 h2=>(d3.aa hg.2).aa h2) b5 b6 fun p hp=>⟨_,_,_,fun w' h=>by rw [dw];exact hp w' h,⟨by omega,by omega⟩,
   Rd.keeps (j:=j) (S:=fun w'=>Ch ah w3 w') (fun w2 h2=>((d2 _ (List.getElem_mem b6)).1.aa hg.2).aa h2) b5 d0 fun p3 c5=>⟨_,fun w' h=>by rw [dw];exact c5 w' h,?_⟩⟩⟩⟩
  refine ab (Bv w5 _) ?_
  rintro v w6 ⟨rfl,rfl⟩
  have hb:=c7 _ (List.getElem_mem a1)
  have d7:=a6 m
  have d8:=d6 m
  rw [c6 m a1 c9 b6 d0] at hb
  refine ⟨_,rfl,d1,T.length-(m+1),by omega,d1,m+1,by rw [ae (by omega) (by omega)];rfl,a1,rfl,?_⟩
  rw [au T m a1,Az,c6 m a1 c9 b6 d0,ae (x:=ws[m]*_) (by omega) (by omega),ae (by omega) (by omega)]
 ·have:m=T.length:=by have:=dQf c8;omega
  subst this
  have d7:=a6 T.length
  have d8:=d6 T.length
  rw [List.take_length] at d7 d8 ⊢
  have h3:=LW (x:=T.sum) (s:=ws.sum) (B:=70368744177664000) (by omega) (by omega)
  rw [ae (by omega) (by omega)]
  refine ⟨by omega,?_⟩
  refine ab (ni _ _) ?_
  rintro v w7 ⟨rfl,rfl⟩
  refine ⟨_,rfl,fun w8 e8=>?_⟩
  rw [← b4] at e8
  obtain ⟨A',C',w9,hr,e7,e9⟩:=(hg.aa b5).next bi ay a2 (by omega) e8 rfl rfl (by omega)
  exact ⟨A',_,C',w9,hr,L.length-(j+1),by omega,by rw [ae (by omega) (by omega)];rfl,a2,rfl,e7⟩
end
end Go.Proofs.YtkbikekbaboclaaGreat.ed
set_option linter.unusedVariables false
set_option linter.unusedSimpArgs false
namespace Go.Proofs.YtkbikekbaboclaaGreat.fv
open Go Go.Proofs V Vc Go.RowKit
structure ep where
 vocab:Int
 dim:Int
 heads:Int
 blocks:Int
 hidden:Int
 context:Int
def zH (c:ep):List Value:=[.int .i64 c.vocab,.int .i64 c.dim,.int .i64 c.heads,.int .i64 c.blocks,.int .i64 c.hidden,.int .i64 c.context]
def side (c:ep) (p:Int):Int × Int :=
 if p=0 then (c.vocab,c.dim) else if p=1 then (c.context,c.dim) else if p=2∨p=7∨p=11 then (1,c.dim) else if p=3∨p=4∨p=5∨p=6 then (c.dim,c.dim) else if p=8∨p=9 then (c.hidden,c.dim) else if p=10 then (c.dim,c.hidden) else (0,0)
theorem Hj (w:World) (c:ep) (p:Int):Calls Tryz.prog Bp #[.agg (zH c).toArray,.int .i64 p] w (bc fun v w'=>v = .tuple #[.int .i64 (side c p).1,.int .i64 (side c p).2]∧Ch ah w w'):=by
 refine CR.calls _ _ _ _ _ _ _ ?_
 intro w1 e1
 have hB:=ba.new e1
 refine ⟨fun h=>?_,fun n0=>⟨fun h=>?_,fun n1=>⟨fun h=>⟨h,?_⟩,fun n2=>⟨fun h=>⟨h,?_⟩,fun n7=>⟨fun h=>?_,fun a0=>⟨fun h=>⟨h,?_⟩,fun n3=>⟨fun h=>⟨h,?_⟩,fun n4=>⟨fun h=>⟨h,?_⟩,fun n5=>⟨fun h=>?_,fun n6=>⟨fun h=>⟨h,?_⟩,fun n8=>⟨fun h=>?_,fun n9=>⟨fun h=>?_,fun a1=>?_⟩⟩⟩⟩⟩⟩⟩⟩⟩⟩⟩⟩
 ·have h:=eq_of_beq h
  subst h
  exact ⟨fun w'=>Ch ah w1 w',fun w2 e2=>⟨Ch.drew e2,_,fun w' hc=>(hB.aa hc).cell 0 rfl,_,fun w' hc=>(hB.aa hc).cell 1 rfl,rfl,(Ch.alloc e1).ag (Ch.drew e2)⟩⟩
 ·have h:=eq_of_beq h
  subst h
  exact ⟨fun w'=>Ch ah w1 w',fun w2 e2=>⟨Ch.drew e2,_,fun w' hc=>(hB.aa hc).cell 5 rfl,_,fun w' hc=>(hB.aa hc).cell 1 rfl,rfl,(Ch.alloc e1).ag (Ch.drew e2)⟩⟩
 iterate 3
  ·have h:=eq_of_beq h
   subst h
   exact ⟨fun w'=>Ch ah w1 w',fun w2 e2=>⟨Ch.drew e2,_,fun w' hc=>(hB.aa hc).cell 1 rfl,rfl,(Ch.alloc e1).ag (Ch.drew e2)⟩⟩
 iterate 4
  ·have h:=eq_of_beq h
   subst h
   exact ⟨fun w'=>Ch ah w1 w',fun w2 e2=>⟨Ch.drew e2,_,fun w' hc=>(hB.aa hc).cell 1 rfl,_,fun w' hc=>(hB.aa hc).cell 1 rfl,rfl,(Ch.alloc e1).ag (Ch.drew e2)⟩⟩
 iterate 2
  ·have h:=eq_of_beq h
   subst h
   exact ⟨fun w'=>Ch ah w1 w',fun w2 e2=>⟨Ch.drew e2,_,fun w' hc=>(hB.aa hc).cell 4 rfl,_,fun w' hc=>(hB.aa hc).cell 1 rfl,rfl,(Ch.alloc e1).ag (Ch.drew e2)⟩⟩
 ·have h:=eq_of_beq h
  subst h
  exact ⟨fun w'=>Ch ah w1 w',fun w2 e2=>⟨Ch.drew e2,_,fun w' hc=>(hB.aa hc).cell 1 rfl,_,fun w' hc=>(hB.aa hc).cell 4 rfl,rfl,(Ch.alloc e1).ag (Ch.drew e2)⟩⟩
 ·have ne:∀ {k:Int},(p==k)=false→¬ p=k:=fun h he=>by subst he;simp at h
  have m0:=ne n0
  have m1:=ne n1
  have m2:=ne n2
  have m3:=ne n3
  have m4:=ne n4
  have m5:=ne n5
  have m6:=ne n6
  have m7:=ne n7
  have m8:=ne n8
  have m9:=ne n9
  have a2:=ne a1
  have a3:=ne a0
  have hs:side c p=(0,0):=by
   unfold side
   rw [if_neg m0,if_neg m1,if_neg (by omega),if_neg (by omega),if_neg (by omega),if_neg a2]
  rw [hs]
  exact ⟨rfl,Ch.alloc e1⟩
def small (c:ep):Prop:=(0≤c.vocab∧c.vocab≤32)∧(0≤c.dim∧c.dim≤32)∧(0≤c.blocks∧c.blocks≤32)∧(0≤c.hidden∧c.hidden≤32)∧(0≤c.context∧c.context≤32)
theorem Du {c:ep} (h:small c) (p:Int):(0≤(side c p).1∧(side c p).1≤32)∧(0≤(side c p).2∧(side c p).2≤32):=by
 obtain ⟨h1,h2,h3,h4,h5⟩:=h
 unfold side
 (repeat' split) <;> dsimp only <;> omega
def part (c:ep) (p:Int):Int:=(side c p).1*(side c p).2
theorem Ic {c:ep} (h:small c) (p:Int):0≤part c p∧part c p≤1024:=by
 obtain ⟨⟨a0,a1⟩,⟨b0,b1⟩⟩:=Du h p
 unfold part
 exact ⟨Int.mul_nonneg a0 b0,Int.le_trans (Int.mul_le_mul a1 b1 b0 (by omega)) (by omega)⟩
def bn (c:ep) (a:Nat):Nat→Int
 | 0=>0
 | n+1=>bn c a n+part c ((a:Int)+n)
theorem mv {c:ep} (h:small c) (a n:Nat):0≤bn c a n∧bn c a n≤1024*n:=by
 induction n with
 | zero=>exact ⟨Int.le_refl _,by simp [bn]⟩
 | succ n ih =>
  have:=Ic h ((a:Int)+n)
  simp only [bn]
  omega
theorem lq (w:World) {c:ep} (h:small c) {a n:Nat} (hn:a+n≤12) {to:Int} (a5:to=(a:Int)+n-1):Calls Tryz.prog Bi #[.agg (zH c).toArray,.int .i64 a,.int .i64 to] w (bc fun v w'=>v = .int .i64 (bn c a n)∧Ch ah w w'):=by
 refine De.calls _ _ _ _ _ _ _ _ ?_
 intro w1 e1
 have hB:=ba.new e1
 refine ⟨fun m p k w'=>∃ j:Nat,p=(a:Int)+j∧j≤n∧k=n-j∧m=bn c a j∧Ch ah w1 w',⟨_,0,by simp,Nat.zero_le _,rfl,rfl,Ch.refl _ _⟩,?_⟩
 rintro jk m p k w2 ⟨j,rfl,hj,rfl,rfl,hc⟩
 refine ⟨fun a1=>?_,fun a2=>?_⟩
 ·have a1:j<n:=by have:=dQt a1;omega
  have a0:=hB.aa hc
  refine ⟨_,_,_,_,_,_,⟨a0.cell 0 rfl,a0.cell 1 rfl,a0.cell 2 rfl,a0.cell 3 rfl,a0.cell 4 rfl,a0.cell 5 rfl⟩,?_⟩
  refine ab (Hj w2 c _) ?_
  rintro v w3 ⟨rfl,a3⟩
  have h1:=Ic h ((a:Int)+j)
  have h2:=mv h a j
  have h3:IntKind.i64.wrap ((side c ((a:Int)+j)).1*(side c ((a:Int)+j)).2)=part c ((a:Int)+j):=ae (by unfold part at h1;omega) (by unfold part at h1;omega)
  refine ⟨_,_,rfl,n-(j+1),by omega,j+1,by rw [ae (by omega) (by omega)];omega,a1,rfl,?_,hc.ag a3⟩
  rw [h3,ae (by omega) (by omega)]
  rfl
 ·have a4:j=n:=by have:=dQf a2;omega
  subst a4
  exact ⟨rfl,(Ch.alloc e1).ag hc⟩
def pi (c:ep):Int:=bn c 0 2+c.blocks*bn c 2 9+bn c 11 1
theorem DP (w:World) {c:ep} (h:small c):Calls Tryz.prog BS #[.agg (zH c).toArray] w (bc fun v w'=>v = .int .i64 (pi c)∧Ch ah w w'):=by
 refine EQ.calls _ _ _ _ _ _ ?_
 intro w1 e1
 have hB:=ba.new e1
 have cl:∀ {i:Nat} {v:Value},(zH c)[i]?=some v→∀ w',Ch ah w1 w'→w'.cell? ⟨w.heap.size,i,none⟩=some v:=fun hi w' hc=>(hB.aa hc).cell _ hi
 refine ⟨fun w'=>Ch ah w1 w',fun w2 e2=>⟨Ch.drew e2,_,_,_,_,_,_,⟨cl (i:=0) rfl,cl (i:=1) rfl,cl (i:=2) rfl,cl (i:=3) rfl,cl (i:=4) rfl,cl (i:=5) rfl⟩,_,cl (i:=3) rfl,_,_,_,_,_,_,⟨cl (i:=0) rfl,cl (i:=1) rfl,cl (i:=2) rfl,cl (i:=3) rfl,cl (i:=4) rfl,cl (i:=5) rfl⟩,_,_,_,_,_,_,⟨cl (i:=0) rfl,cl (i:=1) rfl,cl (i:=2) rfl,cl (i:=3) rfl,cl (i:=4) rfl,cl (i:=5) rfl⟩,?_⟩⟩
 refine ab (lq w2 h (a:=0) (n:=2) (by omega) (by decide)) ?_
 rintro v w7 ⟨rfl,a6⟩
 have a0:=(Ch.drew (F:=ah) e2).ag a6
 refine ⟨_,rfl,a0,?_⟩
 refine ab (lq w7 h (a:=2) (n:=9) (by omega) (by decide)) ?_
 rintro v w8 ⟨rfl,a4⟩
 refine ⟨_,rfl,a0.ag a4,?_⟩
 refine ab (lq w8 h (a:=11) (n:=1) (by omega) (by decide)) ?_
 rintro v w9 ⟨rfl,a5⟩
 refine ⟨_,rfl,(a0.ag a4).ag a5,?_,(Ch.alloc e1).ag ((a0.ag a4).ag a5)⟩
 have a1:=mv h 0 2
 have a2:=mv h 2 9
 have a3:=mv h 11 1
 have hb:=h.2.2.1
 have hm:0≤c.blocks*bn c 2 9∧c.blocks*bn c 2 9≤32*9216:=⟨Int.mul_nonneg hb.1 a2.1,Int.mul_le_mul hb.2 (by omega) a2.1 (by omega)⟩
 unfold pi
 rw [ae (x:=c.blocks*bn c 2 9) (by omega) (by omega),ae (x:=bn c 0 2+c.blocks*bn c 2 9) (by omega) (by omega),ae (by omega) (by omega)]
def tQ (c:ep):Prop:=(2≤c.vocab∧c.vocab≤32)∧(1≤c.dim∧c.dim≤16)∧(1≤c.heads∧c.heads≤4)∧(1≤c.blocks∧c.blocks≤3)∧(1≤c.hidden∧c.hidden≤32)∧(1≤c.context∧c.context≤32)∧Int.tmod c.dim c.heads=0∧pi c≤8192
instance (c:ep):Decidable (tQ c):=by unfold tQ;infer_instance
theorem oe (w:World) (n a b:Int):Calls Tryz.prog Ga #[.int .i64 n,.int .i64 a,.int .i64 b] w (bc fun v w'=>v = .bool (decide (a≤n∧n≤b))∧w'=w):=by
 refine JC.calls _ _ _ ?_
 refine ⟨fun h=>⟨?_,rfl⟩,fun h=>⟨?_,rfl⟩⟩
 ·have h:=dQt h
  congr 1
  by_cases h2:n≤b
  ·rw [decide_eq_true h2,decide_eq_true ⟨h,h2⟩]
  ·rw [decide_eq_false h2,decide_eq_false (fun k=>h2 k.2)]
 ·have h:=dQf h
  rw [decide_eq_false (fun k=>h k.1)]
theorem nb {p:Prop} [Decidable p] (h:(!decide p)=true):¬ p:=by simpa using h
theorem Qn {p:Prop} [Decidable p] (h:(!decide p)=false):p:=by simpa using h
theorem iz (w:World) (c:ep):Calls Tryz.prog Iz #[.agg (zH c).toArray] w (bc fun v w'=>v = .bool (decide (tQ c))∧Ch ah w w'):=by
 refine MT.calls _ _ _ _ _ _ ?_
 intro w1 e1
 have hB:=ba.new e1
 have a0:Ch ah w w1:=Ch.alloc e1
 have no:¬ tQ c→Value.bool false = .bool (decide (tQ c))∧Ch ah w w1:=fun h=>⟨by rw [decide_eq_false h],a0⟩
 refine ⟨_,hB.cell 0 rfl,ab (oe w1 _ _ _) ?_⟩
 rintro v w2 ⟨rfl,rfl⟩
 refine ⟨_,rfl,fun h=>no (fun k=>nb h k.1),fun h1=>?_⟩
 refine ⟨_,hB.cell 1 rfl,ab (oe w2 _ _ _) ?_⟩
 rintro v w3 ⟨rfl,rfl⟩
 refine ⟨_,rfl,fun h=>no (fun k=>nb h k.2.1),fun h2=>?_⟩
 refine ⟨_,hB.cell 2 rfl,ab (oe w3 _ _ _) ?_⟩
 rintro v w4 ⟨rfl,rfl⟩
 refine ⟨_,rfl,fun h=>no (fun k=>nb h k.2.2.1),fun h3=>?_⟩
 refine ⟨_,hB.cell 3 rfl,ab (oe w4 _ _ _) ?_⟩
 rintro v w5 ⟨rfl,rfl⟩
 refine ⟨_,rfl,fun h=>no (fun k=>nb h k.2.2.2.1),fun h4=>?_⟩
 refine ⟨_,hB.cell 4 rfl,ab (oe w5 _ _ _) ?_⟩
 rintro v w6 ⟨rfl,rfl⟩
 refine ⟨_,rfl,fun h=>no (fun k=>nb h k.2.2.2.2.1),fun h5=>?_⟩
 refine ⟨_,hB.cell 5 rfl,ab (oe w6 _ _ _) ?_⟩
 rintro v w7 ⟨rfl,rfl⟩
 refine ⟨_,rfl,fun h=>no (fun k=>nb h k.2.2.2.2.2.1),fun h6=>?_⟩
 have h1:=Qn h1
 have h2:=Qn h2
 have h3:=Qn h3
 have h4:=Qn h4
 have h5:=Qn h5
 have h6:=Qn h6
 refine ⟨_,hB.cell 1 rfl,_,hB.cell 2 rfl,by omega,fun h7=>?_,fun h7=>no (fun k=>by have:=k.2.2.2.2.2.2.1;rw [this] at h7;simp at h7)⟩
 have h7:=eq_of_beq h7
 refine ⟨_,_,_,_,_,_,⟨hB.cell 0 rfl,hB.cell 1 rfl,hB.cell 2 rfl,hB.cell 3 rfl,hB.cell 4 rfl,hB.cell 5 rfl⟩,?_⟩
 refine ab (DP w7 (c:=c) ⟨by omega,by omega,by omega,by omega,by omega⟩) ?_
 rintro v w8 ⟨rfl,a1⟩
 refine ⟨_,rfl,?_,a0.ag a1⟩
 congr 1
 by_cases h8:pi c≤8192
 ·rw [decide_eq_true h8,decide_eq_true (show tQ c from ⟨h1,h2,h3,h4,h5,h6,h7,h8⟩)]
 ·rw [decide_eq_false h8,decide_eq_false (fun k=>h8 k.2.2.2.2.2.2.2)]
theorem tQ.small {c:ep} (h:tQ c):small c:=by
 obtain ⟨h1,h2,_,h4,h5,h6,_,_⟩:=h
 exact ⟨by omega,by omega,by omega,by omega,by omega⟩
theorem NO (w:World) (c:ep):Calls Tryz.prog AD #[.agg (zH c).toArray] w (bc fun v w'=>v = .int .i64 (if tQ c then pi c else 0)∧Ch ah w w'):=by
 refine CY.calls _ _ _ _ _ _ ?_
 intro w1 e1
 have hB:=ba.new e1
 refine ⟨_,_,_,_,_,_,⟨hB.cell 0 rfl,hB.cell 1 rfl,hB.cell 2 rfl,hB.cell 3 rfl,hB.cell 4 rfl,hB.cell 5 rfl⟩,?_⟩
 refine ab (iz w1 c) ?_
 rintro v w2 ⟨rfl,a1⟩
 have a0:=hB.aa a1
 refine ⟨_,rfl,fun h=>⟨by rw [if_neg (nb h)],(Ch.alloc e1).ag a1⟩,fun h=>?_⟩
 refine ⟨_,_,_,_,_,_,⟨a0.cell 0 rfl,a0.cell 1 rfl,a0.cell 2 rfl,a0.cell 3 rfl,a0.cell 4 rfl,a0.cell 5 rfl⟩,?_⟩
 refine ab (DP w2 (tQ.small (Qn h))) ?_
 rintro v w3 ⟨rfl,a2⟩
 exact ⟨_,rfl,by rw [if_pos (Qn h)],((Ch.alloc e1).ag a1).ag a2⟩
def Sl (w:World) (b:Nat) (c:ep) (wt:ByteArray):Prop:=ba w b (zH c++[.string wt]) gu
theorem Mt (w:World) (c:ep) (wt:ByteArray):Calls Tryz.prog DA #[.agg (zH c).toArray,.string wt] w (bc fun v w'=>Ch ah w w' ∧
  (tQ c∧(wt.size:Int)=pi c→∃ b,v = .tuple #[.pointer (some ⟨b,0,none⟩),.int .i64 0]∧w.heap.size≤b∧Sl w' b c wt) ∧
  (tQ c∧¬ (wt.size:Int)=pi c→v = .tuple #[.pointer none,.int .i64 5])∧(¬ tQ c→v = .tuple #[.pointer none,.int .i64 1])):=by
 refine Ps.calls _ _ _ _ _ _ _ ?_
 intro w1 e1
 have hB:=ba.new e1
 refine ⟨_,_,_,_,_,_,⟨hB.cell 0 rfl,hB.cell 1 rfl,hB.cell 2 rfl,hB.cell 3 rfl,hB.cell 4 rfl,hB.cell 5 rfl⟩,fun w2 e2=>?_⟩
 have a1:=ba.new e2
 have s1:w.heap.size<w1.heap.size:=hB.lt
 have s2:w1.heap.size<w2.heap.size:=a1.lt
 refine ⟨⟨a1.ok 0 rfl,a1.ok 1 rfl,a1.ok 2 rfl,a1.ok 3 rfl,a1.ok 4 rfl,a1.ok 5 rfl⟩,fun w3 e3=>?_⟩
 have a8:w3=w2.setCells w1.heap.size 0 (zH c):=e3
 have b2:=a1.all (zH c) rfl a8
 have a5:Ch ah w1 w3:=(Ch.alloc (F:=ah) e2).trans (Ch.fr (F:=(·=w1.heap.size)) a8 rfl) (fun i hi he=>by omega)
 have a3:=hB.aa a5
 refine ⟨_,_,_,_,_,_,⟨a3.cell 0 rfl,a3.cell 1 rfl,a3.cell 2 rfl,a3.cell 3 rfl,a3.cell 4 rfl,a3.cell 5 rfl⟩,?_⟩
 refine ab (iz w3 c) ?_
 rintro v w4 ⟨rfl,a9⟩
 have a2:=b2.aa a9
 have a0:Ch ah w w4:=((Ch.alloc e1).ag a5).ag a9
 refine ⟨_,rfl,fun h=>⟨a0,fun k=>absurd k.1 (nb h),fun k=>absurd k.1 (nb h),fun _=>rfl⟩,fun h=>?_⟩
 have a7:=Qn h
 refine ⟨_,_,_,_,_,_,⟨a2.cell 0 rfl,a2.cell 1 rfl,a2.cell 2 rfl,a2.cell 3 rfl,a2.cell 4 rfl,a2.cell 5 rfl⟩,?_⟩
 refine ab (NO w4 c) ?_
 rintro v w5 ⟨rfl,a6⟩
 have a4:=a2.aa a6
 rw [if_pos a7]
 refine ⟨_,rfl,fun h=>?_,fun h=>?_⟩
 ·have h:¬ (wt.size:Int)=pi c:=by simpa using h
  exact ⟨a0.ag a6,fun k=>absurd k.2 h,fun _=>rfl,fun k=>absurd a7 k⟩
 ·have h:(wt.size:Int)=pi c:=by simpa using h
  refine ⟨_,_,_,_,_,_,⟨a4.cell 0 rfl,a4.cell 1 rfl,a4.cell 2 rfl,a4.cell 3 rfl,a4.cell 4 rfl,a4.cell 5 rfl⟩,fun w6 e6=>?_⟩
  exact ⟨(a0.ag a6).ag (Ch.alloc e6),fun _=>⟨_,rfl,(a0.ag a6).size,ba.new e6⟩,fun k=>absurd h k.2,fun k=>absurd a7 k⟩
end Go.Proofs.YtkbikekbaboclaaGreat.fv
set_option linter.unusedVariables false
set_option linter.unusedSimpArgs false
namespace Go.Proofs.YtkbikekbaboclaaGreat.ee
open Go Go.Proofs V Vc fv qX Go.RowKit
def IV (w:World) (v:Value) (xs:List Int) (F:Nat→Prop):Prop:=∃ (o:OA) (c:Nat),v = .slice o xs.length c∧xs.length≤c∧c≤maxLen∧Rd w o (xs.map (.int .i64)) F
section
variable {w w':World} {v:Value} {xs:List Int} {F G:Nat→Prop}
theorem IV.af (h:IV w v xs F) (hc:Ch G w w') (hd:∀ i,i<w.heap.size→F i→¬ G i):IV w' v xs F:=by
 obtain ⟨o,c,e,h1,h2,hr⟩:=h
 exact ⟨o,c,e,h1,h2,hr.af hc hd⟩
theorem IV.mono (h:IV w v xs F) (hg:∀ i,i<w.heap.size→F i→G i):IV w v xs G:=by
 obtain ⟨o,c,e,h1,h2,hr⟩:=h
 exact ⟨o,c,e,h1,h2,hr.mono hg⟩
theorem IV.aa (h:IV w v xs F) (hc:Ch ah w w'):IV w' v xs F:=h.af hc (fun _ _ _=>id)
theorem IV.ints (h:IV w v xs F):ql w v xs F:=by
 obtain ⟨o,c,e,h1,h2,hr⟩:=h
 exact ⟨o,c,e,hr⟩
theorem IV.nil (w:World) (F:Nat→Prop):IV w (.slice none 0 0) [] F:=⟨none,0,rfl,Nat.le_refl _,Nat.zero_le _,Rd.nil _ _ _⟩
theorem Own.iv {o:OA} {c:Nat} (h:V.Own w bd 1 o xs.length c (xs.map (.int .i64)) F):IV w (.slice o xs.length c) xs F:=⟨o,c,rfl,h.2.1,h.2.2.1,h.rd⟩
theorem Gr.iv {o:OA} {c:Nat} (h:Gr ah w w' bd 1 o xs.length c (xs.map (.int .i64))):IV w' (.slice o xs.length c) xs (db w w'):=Own.iv h.1
theorem IV.cut (h:IV w v xs F) {o:OA} {n c:Nat} (hv:v = .slice o n c) {a b:Nat} (a0:a≤b) (hb:b≤xs.length) :
  IV w (.slice (if c=a then o else o.map (·.add (a*1))) (b-a) (c-a)) ((xs.drop a).take (b-a)) F:=by
 obtain ⟨o',c',e,h1,h2,hr⟩:=h
 rw [hv] at e
 injection e with e1 e2 e3
 subst e1;subst e2;subst e3
 have hl:((xs.drop a).take (b-a)).length=b-a:=by rw [List.length_take,List.length_drop];omega
 refine ⟨_,_,by rw [hl],by omega,by omega,?_⟩
 have:=hr.slice (c:=c) (sz:=1) (by simpa using h1) a (b-a)
 rw [Nat.mul_one,Nat.mul_one,← List.map_drop,← List.map_take] at this
 rw [Nat.mul_one];exact this
end
def fp (c:ep) (p b:Nat):Int:=if p<2 then bn c 0 p else if p=11 then pi c-bn c 11 1 else bn c 0 2+b*bn c 2 9+bn c 2 (p-2)
def pB (c:ep) (p b:Nat):Prop:=p≤11∧(b:Int)<(if p<2∨p=11 then 1 else c.blocks)
theorem DZ {c : ep} (h : small c) (a : Nat) {n m : Nat} (hnm : n ≤ m) : bn c a n ≤ bn c a m := by
  induction m with
  | zero => have : n = 0 := by omega
            subst this; exact Int.le_refl _
  | succ m ih =>
    by_cases e : n = m + 1
    · subst e; exact Int.le_refl _
    · have := ih (by omega)
      have := Ic h ((a + m : Nat) : Int)
      show _ ≤ bn c a m + fv.part c _
      have e : ((a : Int) + (m : Int)) = ((a + m : Nat) : Int) := by omega
      first | omega | (rw [e]; omega)
theorem EI (c:ep) (p:Nat):bn c p 1=fv.part c p:=by
 unfold bn bn;simp
theorem pL {c:ep} (hs:small c) {p b:Nat} (h:pB c p b):0≤fp c p b∧0≤bn c p 1∧bn c p 1≤1024∧fp c p b+bn c p 1≤pi c∧pi c≤1000000:=by
 obtain ⟨h1,h2⟩:=h
 have hp:=mv hs p 1
 have a1:=mv hs 0 2
 have a2:=mv hs 2 9
 have a3:=mv hs 11 1
 have hb:=hs.2.2.1
 have hS:c.blocks*bn c 2 9≤32*9216:=Int.mul_le_mul (by omega) (by omega) (by omega) (by omega)
 have a9:0≤c.blocks*bn c 2 9:=Int.mul_nonneg (by omega) (by omega)
 have a5:∀ a n:Nat,bn c a (n+1)=bn c a n+fv.part c ((a+n:Nat):Int):=fun a n=>by
  show bn c a n+fv.part c _=_
  congr 2
 unfold fp pi
 by_cases a7:p<2
 ·rw [if_pos a7]
  have a0:=mv hs 0 p
  have hm:=DZ hs 0 (n:=p+1) (m:=2) (by omega)
  rw [a5,Nat.zero_add,← EI] at hm
  exact ⟨a0.1,hp.1,by omega,by omega,by omega⟩
 rw [if_neg a7]
 by_cases a6:p=11
 ·subst a6
  rw [if_pos rfl]
  exact ⟨by omega,hp.1,by omega,by omega,by omega⟩
 rw [if_neg a6]
 rw [if_neg (by omega)] at h2
 have a4:=mv hs 2 (p-2)
 have hm:=DZ hs 2 (n:=(p-2)+1) (m:=9) (by omega)
 rw [a5,show 2+(p-2)=p by omega,← EI] at hm
 have a8:((b:Int)+1)*bn c 2 9≤c.blocks*bn c 2 9:=Int.mul_le_mul_of_nonneg_right (by omega) a2.1
 rw [Int.add_mul,Int.one_mul] at a8
 have b2:0≤(b:Int)*bn c 2 9:=Int.mul_nonneg (by omega) a2.1
 exact ⟨by omega,hp.1,by omega,by omega,by omega⟩
theorem LD (w:World) {c:ep} (hc:tQ c) {p b:Nat} (h:pB c p b):Calls Tryz.prog zQ #[.agg (zH c).toArray,.int .i64 p,.int .i64 b] w (bc fun v w'=>v = .tuple #[.int .i64 (fp c p b),.int .i64 (bn c p 1),.bool true]∧Ch ah w w'):=by
 have hs:=hc.small
 have b5:=pL hs h
 have h':=h
 obtain ⟨h1,h2⟩:=h
 refine Ce.calls _ _ _ _ _ _ _ _ ?_
 intro w1 e1
 have hB:=ba.new e1
 have a9:Ch ah w w1:=Ch.alloc e1
 generalize w.heap.size=tb at hB ⊢
 refine ⟨_,hB.cell 3 rfl,fun a3=>?_,fun a3=>⟨fun a0=>?_,fun a0=>?_⟩⟩
 ·have a3:p<2:=by have:=dQt a3;omega
  rw [if_pos (by omega)] at h2
  refine ⟨_,_,_,_,_,_,⟨hB.cell 0 rfl,hB.cell 1 rfl,hB.cell 2 rfl,hB.cell 3 rfl,hB.cell 4 rfl,hB.cell 5 rfl⟩,?_⟩
  refine ab (iz w1 c) ?_
  rintro v w2 ⟨rfl,a5⟩
  have hB:=hB.aa a5
  rw [decide_eq_true hc]
  refine ⟨_,rfl,eg rfl (eg (decide_eq_false (by omega)) (eg (decide_eq_false (by omega)) (eg (decide_eq_false (by omega)) (eg (decide_eq_false (by omega)) ?_))))⟩
  refine ⟨_,_,_,_,_,_,⟨hB.cell 0 rfl,hB.cell 1 rfl,hB.cell 2 rfl,hB.cell 3 rfl,hB.cell 4 rfl,hB.cell 5 rfl⟩,?_⟩
  refine ab (lq w2 hs (a:=p) (n:=1) (by omega) (by omega)) ?_
  rintro v w3 ⟨rfl,a6⟩
  have hB:=hB.aa a6
  refine ⟨_,rfl,decide_eq_true (by omega),?_⟩
  refine ⟨_,_,_,_,_,_,⟨hB.cell 0 rfl,hB.cell 1 rfl,hB.cell 2 rfl,hB.cell 3 rfl,hB.cell 4 rfl,hB.cell 5 rfl⟩,?_⟩
  rw [ae (by omega) (by omega)]
  refine ab (lq w3 hs (a:=0) (n:=p) (by omega) (by omega)) ?_
  rintro v w4 ⟨rfl,b2⟩
  refine ⟨_,rfl,?_,((a9.ag a5).ag a6).ag b2⟩
  unfold fp;rw [if_pos a3]
 ·have a3:¬ p<2:=by have:=dQf a3;omega
  have a0:p=11:=by have:=eq_of_beq a0;omega
  subst a0
  rw [if_pos (by omega)] at h2
  refine ⟨_,_,_,_,_,_,⟨hB.cell 0 rfl,hB.cell 1 rfl,hB.cell 2 rfl,hB.cell 3 rfl,hB.cell 4 rfl,hB.cell 5 rfl⟩,?_⟩
  refine ab (iz w1 c) ?_
  rintro v w2 ⟨rfl,a5⟩
  have hB:=hB.aa a5
  rw [decide_eq_true hc]
  refine ⟨_,rfl,eg rfl (eg rfl (eg rfl (eg (decide_eq_false (by omega)) (eg (decide_eq_false (by omega)) ?_))))⟩
  refine ⟨_,_,_,_,_,_,⟨hB.cell 0 rfl,hB.cell 1 rfl,hB.cell 2 rfl,hB.cell 3 rfl,hB.cell 4 rfl,hB.cell 5 rfl⟩,?_⟩
  refine ab (lq w2 hs (a:=11) (n:=1) (by omega) (by omega)) ?_
  rintro v w3 ⟨rfl,a6⟩
  have hB:=hB.aa a6
  refine ⟨_,rfl,rfl,rfl,?_⟩
  refine ⟨_,_,_,_,_,_,⟨hB.cell 0 rfl,hB.cell 1 rfl,hB.cell 2 rfl,hB.cell 3 rfl,hB.cell 4 rfl,hB.cell 5 rfl⟩,?_⟩
  refine ab (DP w3 hs) ?_
  rintro v w4 ⟨rfl,b2⟩
  have e:fp c 11 b=pi c-bn c 11 1:=by unfold fp;rw [if_neg (by omega),if_pos rfl]
  rw [e] at b5 ⊢
  refine ⟨_,rfl,?_,((a9.ag a5).ag a6).ag b2⟩
  rw [ae (by omega) (by omega)]
 ·have a3:¬ p<2:=by have:=dQf a3;omega
  have a7:¬ p=11:=by
    have:¬ (p:Int)=11:=by simpa using a0
    omega
  rw [if_neg (by omega)] at h2
  refine ⟨_,_,_,_,_,_,⟨hB.cell 0 rfl,hB.cell 1 rfl,hB.cell 2 rfl,hB.cell 3 rfl,hB.cell 4 rfl,hB.cell 5 rfl⟩,?_⟩
  refine ab (iz w1 c) ?_
  rintro v w2 ⟨rfl,a5⟩
  have hB:=hB.aa a5
  rw [decide_eq_true hc]
  refine ⟨_,rfl,eg rfl (eg (decide_eq_false (by omega)) (eg (decide_eq_false (by omega)) (eg (decide_eq_false (by omega)) (eg (decide_eq_false (by omega)) ?_))))⟩
  refine ⟨_,_,_,_,_,_,⟨hB.cell 0 rfl,hB.cell 1 rfl,hB.cell 2 rfl,hB.cell 3 rfl,hB.cell 4 rfl,hB.cell 5 rfl⟩,?_⟩
  refine ab (lq w2 hs (a:=p) (n:=1) (by omega) (by omega)) ?_
  rintro v w3 ⟨rfl,a6⟩
  have hB:=hB.aa a6
  refine ⟨_,rfl,decide_eq_false (by omega),a0,fun w'=>Ch ah w3 w',fun w4 e4=>⟨Ch.drew e4,?_⟩⟩
  refine ⟨_,_,_,_,_,_,⟨fun w' k=>(hB.aa k).cell 0 rfl,fun w' k=>(hB.aa k).cell 1 rfl,fun w' k=>(hB.aa k).cell 2 rfl,fun w' k=>(hB.aa k).cell 3 rfl,fun w' k=>(hB.aa k).cell 4 rfl,fun w' k=>(hB.aa k).cell 5 rfl⟩,?_⟩
  refine ⟨_,_,_,_,_,_,⟨fun w' k=>(hB.aa k).cell 0 rfl,fun w' k=>(hB.aa k).cell 1 rfl,fun w' k=>(hB.aa k).cell 2 rfl,fun w' k=>(hB.aa k).cell 3 rfl,fun w' k=>(hB.aa k).cell 4 rfl,fun w' k=>(hB.aa k).cell 5 rfl⟩,?_⟩
  refine ⟨_,_,_,_,_,_,⟨fun w' k=>(hB.aa k).cell 0 rfl,fun w' k=>(hB.aa k).cell 1 rfl,fun w' k=>(hB.aa k).cell 2 rfl,fun w' k=>(hB.aa k).cell 3 rfl,fun w' k=>(hB.aa k).cell 4 rfl,fun w' k=>(hB.aa k).cell 5 rfl⟩,?_⟩
  have b3:Ch ah w3 w4:=Ch.drew e4
  refine ab (lq w4 hs (a:=0) (n:=2) (by omega) (by omega)) ?_
  rintro v w5 ⟨rfl,b4⟩
  refine ⟨_,rfl,b3.ag b4,ab (lq w5 hs (a:=2) (n:=9) (by omega) (by omega)) ?_⟩
  rintro v w6 ⟨rfl,b6⟩
  rw [ae (x:=(p:Int)-1) (by omega) (by omega)]
  refine ⟨_,rfl,(b3.ag b4).ag b6,ab (lq w6 hs (a:=2) (n:=p-2) (by omega) (by omega)) ?_⟩
  rintro v w7 ⟨rfl,b7⟩
  have a8:=((b3.ag b4).ag b6).ag b7
  have e:fp c p b=bn c 0 2+b*bn c 2 9+bn c 2 (p-2):=by unfold fp;rw [if_neg a3,if_neg a7]
  rw [e] at b5 ⊢
  have a1:=mv hs 0 2
  have a2:=mv hs 2 9
  have a4:=mv hs 2 (p-2)
  have b8:0≤(b:Int)*bn c 2 9:=Int.mul_nonneg (by omega) a2.1
  refine ⟨_,rfl,a8,?_,((a9.ag a5).ag a6).ag a8⟩
  rw [ae (x:=(b:Int)*bn c 2 9) (by omega) (by omega),ae (x:=bn c 0 2+(b:Int)*bn c 2 9) (by omega) (by omega),ae (by omega) (by omega)]
theorem Nd (w:World) {c:ep} (hc:tQ c) (p:Int):Calls Tryz.prog AH #[.agg (zH c).toArray,.int .i64 p] w (bc fun v w'=>v = .tuple #[.int .i64 (side c p).1,.int .i64 (side c p).2]∧Ch ah w w'):=by
 refine Dp.calls _ _ _ _ _ _ _ ?_
 intro w1 e1
 have hB:=ba.new e1
 have a1:Ch ah w w1:=Ch.alloc e1
 generalize w.heap.size=tb at hB ⊢
 refine ⟨_,_,_,_,_,_,⟨hB.cell 0 rfl,hB.cell 1 rfl,hB.cell 2 rfl,hB.cell 3 rfl,hB.cell 4 rfl,hB.cell 5 rfl⟩,?_⟩
 refine ab (iz w1 c) ?_
 rintro v w2 ⟨rfl,a0⟩
 have hB:=hB.aa a0
 rw [decide_eq_true hc]
 refine ⟨_,rfl,eg rfl ?_⟩
 refine ⟨_,_,_,_,_,_,⟨hB.cell 0 rfl,hB.cell 1 rfl,hB.cell 2 rfl,hB.cell 3 rfl,hB.cell 4 rfl,hB.cell 5 rfl⟩,?_⟩
 refine ab (Hj w2 c p) ?_
 rintro v w3 ⟨rfl,a2⟩
 exact ⟨_,_,rfl,rfl,(a1.ag a0).ag a2⟩
def bu (c:ep):Nat:=(c.dim / c.heads).toNat
theorem pT {c:ep} (hc:tQ c):((bu c:Nat):Int)*c.heads=c.dim∧1≤bu c∧bu c≤16:=by
 obtain ⟨_,h1,h2,_,_,_,hm,_⟩:=hc
 rw [AP (by omega)] at hm
 have hd:=Int.ediv_mul_cancel (Int.dvd_of_emod_eq_zero hm)
 have h0:0≤c.dim / c.heads:=Int.ediv_nonneg (by omega) (by omega)
 have e:((bu c:Nat):Int)=c.dim / c.heads:=by unfold bu;omega
 rw [e]
 refine ⟨hd,?_,?_⟩
 ·by_cases h:0<c.dim / c.heads
  ·omega
  ·have:c.dim / c.heads=0:=by omega
   rw [this] at hd;omega
 ·have:c.dim / c.heads≤c.dim:=Int.ediv_le_self _ (by omega)
  omega
theorem AE (w:World) {c:ep} (hc:tQ c):Calls Tryz.prog wV #[.agg (zH c).toArray] w (bc fun v w'=>v = .int .i64 (bu c)∧Ch ah w w'):=by
 refine Aj.calls _ _ _ _ _ _ ?_
 intro w1 e1
 have hB:=ba.new e1
 have a1:Ch ah w w1:=Ch.alloc e1
 generalize w.heap.size=tb at hB ⊢
 refine ⟨_,_,_,_,_,_,⟨hB.cell 0 rfl,hB.cell 1 rfl,hB.cell 2 rfl,hB.cell 3 rfl,hB.cell 4 rfl,hB.cell 5 rfl⟩,?_⟩
 refine ab (iz w1 c) ?_
 rintro v w2 ⟨rfl,a0⟩
 have hB:=hB.aa a0
 rw [decide_eq_true hc]
 have hd:=pT hc
 obtain ⟨_,h1,h2,_⟩:=hc
 refine ⟨_,rfl,eg rfl ⟨_,hB.cell 1 rfl,_,hB.cell 2 rfl,by omega,?_,a1.ag a0⟩⟩
 rw [Int.tdiv_eq_ediv_of_nonneg (by omega)]
 have h0:0≤c.dim / c.heads:=Int.ediv_nonneg (by omega) (by omega)
 have e:((bu c:Nat):Int)=c.dim / c.heads:=by unfold bu;omega
 rw [ae (by omega) (by omega),e]
def pY (c:ep) (wt:ByteArray) (p b:Nat):List Int:=ft.tK (wt.extract (fp c p b).toNat (fp c p b+bn c p 1).toNat)
theorem Dw (s:ByteArray):∀ x∈ft.tK s,-128≤x∧x≤127:=fun x hx=>by
 obtain ⟨b,_,rfl⟩:=List.mem_map.1 hx
 unfold IntKind.wrap
 simp [IntKind.bits,IntKind.signed]
 omega
theorem Ia {c:ep} (hc:tQ c) {p:Nat} (hp:p≤11):1≤(side c p).1∧1≤(side c p).2:=by
 obtain ⟨h1,h2,h3,h4,h5,h6,_⟩:=hc
 unfold side
 have:p=0∨p=1∨p=2∨p=3∨p=4∨p=5∨p=6∨p=7∨p=8∨p=9∨p=10∨p=11:=by omega
 rcases this with h|h|h|h|h|h|h|h|h|h|h|h <;> subst h <;> simp <;> omega
structure yn (w:World) (b:Nat) (c:ep) (wt:ByteArray):Prop where
 r:Sl w b c wt
 ok:tQ c
 sz:(wt.size:Int)=pi c
section
variable {w w':World} {bb:Nat} {c:ep} {wt:ByteArray} {G:Nat→Prop}
theorem yn.aa (h:yn w bb c wt) (hc:Ch ah w w'):yn w' bb c wt:=⟨ba.aa h.r hc,h.ok,h.sz⟩
theorem yn.af (h:yn w bb c wt) (hc:Ch G w w') (hd:¬ G bb):yn w' bb c wt:=⟨ba.af h.r hc hd,h.ok,h.sz⟩
theorem yn.lt (h:yn w bb c wt):bb<w.heap.size:=ba.lt h.r
theorem Ef (ok:tQ c) (sz:(wt.size:Int)=pi c) {p b:Nat} (h:pB c p b):(wt.extract (fp c p b).toNat (fp c p b+bn c p 1).toNat).size=(bn c p 1).toNat∧ft.ml (side c p).1 (side c p).2 (wt.extract (fp c p b).toNat (fp c p b+bn c p 1).toNat).size=true:=by
 have a1:=pL ok.small h
 have h1:(wt.extract (fp c p b).toNat (fp c p b+bn c p 1).toNat).size=(bn c p 1).toNat:=by
  rw [ByteArray.size_extract]
  omega
 refine ⟨h1,?_⟩
 rw [h1]
 have hg:=Ia ok h.1
 have hl:=Du ok.small (p:Int)
 have a0:=EI c p
 unfold fv.part at a0
 unfold ft.ml
 exact decide_eq_true ⟨hg.1,by omega,hg.2,by omega,by omega⟩
theorem Hz (ok:tQ c) (sz:(wt.size:Int)=pi c) {p b:Nat} (h:pB c p b):(pY c wt p b).length=(bn c p 1).toNat:=by
 unfold pY;rw [ft.BF];exact (Ef ok sz h).1
theorem Bq (ok:tQ c) (sz:(wt.size:Int)=pi c) {p b:Nat} (h:pB c p b):ft.ml (side c p).1 (side c p).2 (pY c wt p b).length=true:=by
 rw [show (pY c wt p b).length=_ from ft.BF _];exact (Ef ok sz h).2
def SW (w:World) (c:ep) (wt:ByteArray) (p b:Nat) (v:Value) (w':World):Prop :=
 ∃ (A:OA) (C:Nat),v = .tuple #[.agg #[.int .i64 (side c p).1,.int .i64 (side c p).2,.slice A (pY c wt p b).length C],.bool true]∧(pY c wt p b).length≤C∧Rd w' A ((pY c wt p b).map (.int .i8)) (db w w')∧Ch ah w w'
set_option maxHeartbeats 1000000 in
theorem Ai (h:yn w bb c wt) {p b:Nat} (a7:pB c p b):Calls Tryz.prog yB #[.pointer (some ⟨bb,0,none⟩),.int .i64 p,.int .i64 b] w (bc (SW w c wt p b)):=by
 have ok:=h.ok
 have c7:=pL ok.small a7
 have a3:=Ef ok h.sz a7
 have c8:=h.sz
 refine Bf.calls _ _ _ ?_
 intro w1 e1
 have hT:=ba.new e1
 have a8:Ch ah w w1:=Ch.alloc e1
 have hB:ba w1 bb _ gu:=ba.aa h.r a8
 have c9:=hT.lt
 refine ⟨_,_,_,_,_,_,⟨hB.cell 0 rfl,hB.cell 1 rfl,hB.cell 2 rfl,hB.cell 3 rfl,hB.cell 4 rfl,hB.cell 5 rfl⟩,?_⟩
 refine ab (LD w1 ok a7) ?_
 rintro v w2 ⟨rfl,a4⟩
 have hB:=hB.aa a4
 have b7:=hT.aa a4
 refine ⟨_,_,_,rfl,eg rfl ?_⟩
 refine ⟨_,_,_,_,_,_,⟨hB.cell 0 rfl,hB.cell 1 rfl,hB.cell 2 rfl,hB.cell 3 rfl,hB.cell 4 rfl,hB.cell 5 rfl⟩,?_⟩
 refine ab (Nd w2 ok (p:Int)) ?_
 rintro v w4 ⟨rfl,a5⟩
 have hB:=hB.aa a5
 have b8:=b7.aa a5
 rw [ae (x:=fp c p b+bn c p 1) (by omega) (by omega)]
 refine ⟨_,_,rfl,_,hB.cell 6 rfl,⟨by omega,by omega,by omega⟩,?_⟩
 refine ab (ft.Im w4 (side c p).1 (side c p).2 (wt.extract (fp c p b).toNat (fp c p b+bn c p 1).toNat) (by rw [a3.1];omega)) ?_
 rintro v w5 ⟨A,C,rfl,hg⟩
 have hL:ft.Av (side c p).1 (side c p).2 (wt.extract (fp c p b).toNat (fp c p b+bn c p 1).toNat)=pY c wt p b:=by unfold ft.Av;rw [a3.2];rfl
 have hE:ft.Qf (side c p).1 (side c p).2 (wt.extract (fp c p b).toNat (fp c p b+bn c p 1).toNat).size=0:=by unfold ft.Qf;rw [a3.2];rfl
 rw [hL,hE,a3.2,if_pos rfl,if_pos rfl]
 rw [hL] at hg
 have b9:=b8.aa hg.2
 have c0:=hg.rd
 have a9:=hg.1.2.1
 have d0:=a8.size
 have c4:=a4.size
 have c5:=a5.size
 have d1:=hg.2.size
 have b2:=((a8.ag a4).ag a5).ag hg.2
 have d2:=hT.lt
 refine ⟨_,_,_,_,_,_,rfl,fun w6 e6=>?_⟩
 have hU:=ba.new e6
 have c6:=b9.alloc e6
 have d3:=hU.lt
 refine ⟨⟨hU.ok 0 rfl,hU.ok 1 rfl,hU.ok 2 rfl⟩,fun w7 e7=>?_⟩
 have b5:w7=w6.setCells w5.heap.size 0 [.int .i64 (side c p).1,.int .i64 (side c p).2,.slice A (pY c wt p b).length C]:=e7
 have b3:=hU.all [.int .i64 (side c p).1,.int .i64 (side c p).2,.slice A (pY c wt p b).length C] rfl b5
 have a0:Ch (·=w5.heap.size) w6 w7:=Ch.fr b5 rfl
 have a6:=c6.af a0 (by omega)
 refine ⟨_,_,_,_,_,⟨b3.cell 0 rfl,b3.cell 1 rfl,b3.cell 2 rfl⟩,⟨a6.ok 0 rfl,a6.ok 1 rfl,a6.ok 2 rfl⟩,fun w8 e8=>?_⟩
 have b6:w8=w7.setCells w.heap.size 0 [.int .i64 (side c p).1,.int .i64 (side c p).2,.slice A (pY c wt p b).length C]:=e8
 have b4:=a6.all [.int .i64 (side c p).1,.int .i64 (side c p).2,.slice A (pY c wt p b).length C] rfl b6
 have a1:Ch (·=w.heap.size) w7 w8:=Ch.fr b6 rfl
 refine ⟨_,_,_,_,_,⟨b4.cell 0 rfl,b4.cell 1 rfl,b4.cell 2 rfl⟩,A,C,rfl,a9,?_,?_⟩
 ·have a2:Ch (fun i=>i=w5.heap.size∨i=w.heap.size) w5 w8:=((Ch.alloc e6).trans a0 (fun i hi he => .inl he)).trans a1 (fun i hi he => .inr he)
  have d4:=a2.size
  exact (c0.af a2 (fun i hi hN he=>by
   have:=hN.1
   rcases he with he|he <;> omega)).mono (fun i _ hN=>⟨by have:=hN.1;omega,by have:=hN.2;omega⟩)
 ·exact (((b2.ag (Ch.alloc e6)).trans a0 (fun i hi he=>by omega))).trans a1 (fun i hi he=>by omega)
def ks (c:ep) (wt:ByteArray) (p b:Nat) (q:Int):List Int:=ft.tJ (pY c wt p b) (side c p).1 (side c p).2 q
theorem ry (h:yn w bb c wt) {p b:Nat} (a1:pB c p b) (q:Int):Calls Tryz.prog AF #[.pointer (some ⟨bb,0,none⟩),.int .i64 p,.int .i64 b,.int .i64 q] w (bc fun v w'=>IV w' v (ks c wt p b q) (db w w')∧Ch ah w w'):=by
 refine CW.calls _ _ _ _ ?_
 unfold Vm.A0 Vm.D3 Vm.D4 Vm.I6 Vm.K0 Vm.O2 Vm.U;dsimp only
 refine ab (Ai h a1) ?_
 rintro v w1 ⟨A,C,rfl,a2,a6,a4⟩
 refine ⟨_,_,_,_,_,_,rfl,fun w2 e2=>?_⟩
 have hU:=ba.new e2
 refine ⟨⟨hU.ok 0 rfl,hU.ok 1 rfl,hU.ok 2 rfl⟩,fun w3 e3=>eg rfl ?_⟩
 have a5:w3=w2.setCells w1.heap.size 0 [.int .i64 (side c p).1,.int .i64 (side c p).2,.slice A (pY c wt p b).length C]:=e3
 have a3:=hU.all [.int .i64 (side c p).1,.int .i64 (side c p).2,.slice A (pY c wt p b).length C] rfl a5
 have a0:Ch ah w1 w3:=(Ch.alloc (F:=ah) e2).trans (Ch.fr (F:=(·=w1.heap.size)) a5 rfl) (fun i hi he=>by omega)
 have hl:(pY c wt p b).length≤1000000:=by
  rw [Hz h.ok h.sz a1]
  have:=pL h.ok.small a1;omega
 refine ⟨_,_,_,_,_,⟨a3.cell 0 rfl,a3.cell 1 rfl,a3.cell 2 rfl⟩,ab (ft.ry (a6.aa a0) a2 (Dw _) hl (side c p).1 (side c p).2 q) ?_⟩
 rintro v w4 ⟨A4,C4,rfl,hg⟩
 have hs:=(a4.ag a0).size
 exact ⟨_,_,_,rfl,(Gr.iv hg).mono (fun i _ hi=>⟨by have:=hi.1;omega,hi.2⟩),(a4.ag a0).ag hg.2⟩
theorem uC (ok:tQ c) (sz:(wt.size:Int)=pi c) {p b:Nat} (a0:pB c p b) {q:Nat} (hq:(q:Int)<(side c p).1):(ks c wt p b q).length=(side c p).2.toNat:=by
 have hg:=Bq ok sz a0
 unfold ks ft.tJ
 rw [hg,decide_eq_true (by omega)]
 obtain ⟨R,C,e1,e2,_,_,_,_,hn⟩:=ft.BL hg
 rw [e2,Int.toNat_natCast,Int.toNat_natCast]
 exact ft.Hn (R:=R) hn (by omega)
theorem Ma {p b:Nat} {q:Int}:∀ x∈ks c wt p b q,-128≤x∧x≤127:=fun x hx=>by
 unfold ks ft.tJ at hx
 split at hx
 ·exact Dw _ x (List.mem_of_mem_drop (List.mem_of_mem_take hx))
 ·cases hx
end
end Go.Proofs.YtkbikekbaboclaaGreat.ee
set_option linter.unusedVariables false
set_option linter.unusedSimpArgs false
namespace Go.Proofs.YtkbikekbaboclaaGreat.ee
open Go Go.Proofs V Vc fv qX Go.RowKit
def RV (w:World) (v:Value) (xss:List (List Int)) (F:Nat→Prop):Prop :=
 ∃ (o:OA) (c:Nat) (vs:List Value),v = .slice o xss.length c∧xss.length≤c∧c≤maxLen∧Rd w o vs F∧df (fun u xs=>IV w u xs F) vs xss
def EV (w:World) (p:Value × Value) (e:gr) (F:Nat→Prop):Prop:=RV w p.1 e.1 F∧RV w p.2 e.2 F
def PV (w:World) (v:Value) (es:List gr) (F:Nat→Prop):Prop :=
 ∃ (o:OA) (c:Nat) (ps:List (Value × Value)),v = .slice o es.length c∧es.length≤c∧c≤maxLen∧Rd w o (ps.map ei).flatten F∧df (fun p e=>EV w p e F) ps es
section
variable {o:OA} {n c:Nat} {w w':World} {v:Value} {p:Value × Value} {xss:List (List Int)} {e:gr} {es:List gr} {F G:Nat→Prop}
theorem RV.af (h:RV w v xss F) (hc:Ch G w w') (hd:∀ i,i<w.heap.size→F i→¬ G i):RV w' v xss F:=by
 obtain ⟨o,c,vs,e,h1,h2,hr,ha⟩:=h
 exact ⟨o,c,vs,e,h1,h2,hr.af hc hd,ha.imp (fun _ _ k=>k.af hc hd)⟩
theorem RV.mono (h:RV w v xss F) (hg:∀ i,i<w.heap.size→F i→G i):RV w v xss G:=by
 obtain ⟨o,c,vs,e,h1,h2,hr,ha⟩:=h
 exact ⟨o,c,vs,e,h1,h2,hr.mono hg,ha.imp (fun _ _ k=>k.mono hg)⟩
theorem RV.aa (h:RV w v xss F) (hc:Ch ah w w'):RV w' v xss F:=h.af hc (fun _ _ _=>id)
theorem RV.rows (h:RV w v xss F):nJ w v xss F:=by
 obtain ⟨o,c,vs,e,h1,h2,hr,ha⟩:=h
 exact ⟨o,c,vs,e,hr,ha.imp (fun _ _ k=>k.ints)⟩
theorem RV.at (h:RV w (.slice o n c) xss F) {j:Nat} (hj:j<xss.length) {K:Addr→Prop} (hk:∀ (p:Addr) (u:Value),w.cell? (p.add (j*1))=some u→IV w u xss[j] F→K p):jr o K:=by
 obtain ⟨o',c',vs,e,h1,h2,hr,ha⟩:=h
 injection e with e1 e2 e3
 subst e1
 have hv:j<vs.length:=by rw [ha.length];exact hj
 refine hr.at (j:=j) (v:=vs[j]) (List.getElem?_eq_getElem hv) fun p hp=>hk p vs[j] (by rw [Nat.mul_one];exact hp) (ha.get j hv hj)
theorem EV.af (h:EV w p e F) (hc:Ch G w w') (hd:∀ i,i<w.heap.size→F i→¬ G i):EV w' p e F:=⟨h.1.af hc hd,h.2.af hc hd⟩
theorem EV.mono (h:EV w p e F) (hg:∀ i,i<w.heap.size→F i→G i):EV w p e G:=⟨h.1.mono hg,h.2.mono hg⟩
theorem EV.aa (h:EV w p e F) (hc:Ch ah w w'):EV w' p e F:=h.af hc (fun _ _ _=>id)
theorem EV.Tv (h:EV w p e F):oE w p e F:=⟨h.1.rows,h.2.rows⟩
theorem PV.af (h:PV w v es F) (hc:Ch G w w') (hd:∀ i,i<w.heap.size→F i→¬ G i):PV w' v es F:=by
 obtain ⟨o,c,vs,e,h1,h2,hr,ha⟩:=h
 exact ⟨o,c,vs,e,h1,h2,hr.af hc hd,ha.imp (fun _ _ k=>k.af hc hd)⟩
theorem PV.mono (h:PV w v es F) (hg:∀ i,i<w.heap.size→F i→G i):PV w v es G:=by
 obtain ⟨o,c,vs,e,h1,h2,hr,ha⟩:=h
 exact ⟨o,c,vs,e,h1,h2,hr.mono hg,ha.imp (fun _ _ k=>k.mono hg)⟩
theorem PV.aa (h:PV w v es F) (hc:Ch ah w w'):PV w' v es F:=h.af hc (fun _ _ _=>id)
theorem Rd.pair {o:OA} {ps:List (Value × Value)} (h:Rd w o (ps.map ei).flatten F) {j:Nat} (hj:j<ps.length) {K:Addr→Prop} (hk:∀ p:Addr,w.cell? (p.add (j*2))=some ps[j].1→w.cell? ((p.add (j*2)).add 1)=some ps[j].2→K p):jr o K:=by
 obtain ⟨a,ha,_,_,hc⟩:=Rd.elem (sz:=2) (enc:=ei) h (fun _=>rfl) (by omega) hj
 subst ha
 have h0:=hc 0 _ rfl
 rw [cm] at h0
 exact hk a h0 (hc 1 _ rfl)
end
end Go.Proofs.YtkbikekbaboclaaGreat.ee
set_option linter.unusedVariables false
set_option linter.unusedSimpArgs false
namespace Go.Proofs.YtkbikekbaboclaaGreat.uP
open Go Go.Proofs V Vc ee qX Go.RowKit
section
variable {w:World} {u v:Value} {xs ys:List Int} {F G:Nat→Prop}
theorem ma (ha:IV w u xs F) (hb:IV w v ys G):Calls Tryz.prog vG #[u,v] w (bc fun v w'=>v = .bool (decide (xs=ys))∧Ch ah w w'):=by
 obtain ⟨oa,ca,rfl,h1,h2,ha⟩:=ha
 obtain ⟨ob,cb,rfl,_,_,hb⟩:=hb
 have hl:=Nat.le_trans h1 h2
 refine yP.calls _ _ _ _ _ _ ?_
 refine ⟨fun h=>?_,fun h=>?_⟩
 ·have h:xs.length≠ys.length:=by simp at h;omega
  exact ⟨by rw [decide_eq_false (fun e=>h (by rw [e]))],Ch.refl _ _⟩
 have h:xs.length=ys.length:=by simp at h;omega
 refine ⟨fun i k w'=>∃ j:Nat,i=j∧j≤xs.length∧k=xs.length-j∧xs.take j=ys.take j∧Ch ah w w',⟨_,0,rfl,Nat.zero_le _,rfl,rfl,Ch.refl _ _⟩,?_⟩
 rintro jk i k w1 ⟨j,rfl,hj,rfl,he,hc⟩
 refine ⟨fun a0=>?_,fun a3=>?_⟩
 ·have a0:j<xs.length:=by have:=dQt a0;omega
  have a1:j<ys.length:=by omega
  refine ⟨fun w2=>Ch ah w w2,fun w2 e2=>⟨hc.ag (Ch.drew e2),⟨by omega,by omega⟩,Rd.keeps (j:=(j:Int).toNat*1) (S:=fun w2=>Ch ah w w2) (fun w2 h2=>ha.aa h2) hc (by simpa using a0) fun p hp=>⟨_,hp,⟨by omega,by omega⟩,
   Rd.keeps (j:=(j:Int).toNat*1) (S:=fun w2=>Ch ah w w2) (fun w2 h2=>hb.aa h2) hc (by simpa using a1) fun p2 a4=>⟨_,a4,fun a5=>?_,fun a2=>?_⟩⟩⟩⟩
  ·refine ⟨?_,hc.ag (Ch.drew e2)⟩
   rw [decide_eq_false]
   intro e
   subst e
   simp at a5
  ·have a2:xs[j]=ys[j]:=by simpa using a2
   refine ⟨xs.length-(j+1),by omega,j+1,by rw [ae (by omega) (by unfold maxLen at hl;omega)];rfl,a0,rfl,?_,hc.ag (Ch.drew e2)⟩
   rw [au xs j a0,au ys j a1,he,a2]
 ·have:j=xs.length:=by have:=dQf a3;omega
  subst this
  rw [List.take_length,h,List.take_length] at he
  exact ⟨by rw [decide_eq_true he],hc⟩
end
end Go.Proofs.YtkbikekbaboclaaGreat.uP
set_option linter.unusedVariables false
set_option linter.unusedSimpArgs false
namespace Go.Proofs.YtkbikekbaboclaaGreat.Step
open Go Go.Proofs V Vc Go.RowKit
theorem au {α:Type} (l:List α) (j:Nat) (h:j<l.length):l.take (j+1)=l.take j++[l[j]]:=List.take_succ_eq_append_getElem h
def small (xss:List (List Int)):Prop:=xss.length≤1000000∧∀ xs∈xss,xs.length≤17592186043904
section
variable {w:World} {o ob:OA} {c cb:Nat} {xs ys:List Int} {xss yss:List (List Int)} {F G:Nat→Prop}
theorem lf (h:Rd w o (xs.map (.int .i64)) G) (hl:xs.length≤17592186043904) (c:Nat):Calls Tryz.prog 51 #[.slice o xs.length c] w (bc fun v w'=>ql w' v xs (db w w')∧Ch ah w w'):=by
 refine oI.calls _ _ _ ?_
 refine ⟨fun hn=>?_,fun hn w1 e1=>?_⟩
 ·have hx:xs=[]:=by
   cases xs with
   | nil=>rfl
   | cons x r =>
    obtain ⟨a,ha,_⟩:=h 0 (.int .i64 x) rfl
    rw [ha] at hn;cases hn
  subst hx
  exact ⟨ql.nil _ _,Ch.refl _ _⟩
 ·have hg:Gr ah w w1 bd 1 (some ⟨w.heap.size,0,none⟩) 0 0 []:=Gr.nG (Ch.refl _ _) e1
  obtain ⟨o',c',w',hr,a1,a0⟩:=Own.ll (c2:=c) (m:=xs.length) bi hg.1 ay (h.aa (Ch.alloc e1)) (by simp) (fun u hu=>by
   obtain ⟨x,_,rfl⟩:=List.mem_map.1 hu
   rfl) (by unfold maxLen;omega) (by omega)
  rw [Nat.zero_add,List.nil_append] at a1
  rw [Nat.zero_add] at hr
  have a2:=hg.2.size
  exact ⟨_,_,_,w',hr,⟨o',c',rfl,a1.rd.mono (fun i _ hi=>by
   rcases hi with hi|hi
   ·exact ⟨hi.1,by have:=hi.2;have:=a0.size;omega⟩
   ·exact ⟨by have:=hi.1;omega,hi.2⟩)⟩,hg.2.trans a0 (fun i hi h=>by have:=h.1;omega)⟩
theorem CH (hr:nJ w (.slice o xss.length c) xss G) (hs:small xss):Calls Tryz.prog zo #[.slice o xss.length c] w (bc fun v w'=>nJ w' v xss (db w w')∧Ch ah w w'):=by
 obtain ⟨o',c',vs,e,a5,ha⟩:=hr
 injection e with e1 _ e2
 subst e1;subst e2
 refine CF.calls _ _ _ ?_
 refine ⟨fun oA oN oC i k w'=>∃ (j:Nat) (us:List Value) (F1 F2:Nat→Prop),i=j∧oN=j∧j≤xss.length∧k=xss.length-j∧Build w w' ay 1 oA j oC us F1 F2∧df (fun u xs=>ql w' u xs F2) us (xss.take j),⟨_,0,[],_,_,rfl,rfl,Nat.zero_le _,rfl,Build.nil (Ch.refl _ _),.nil⟩,?_⟩
 rintro jk oA oN oC i k w1 ⟨j,us,F1,F2,rfl,rfl,hj,rfl,hB,hU⟩
 refine ⟨fun a0=>?_,fun a6=>?_⟩
 ·have a0:oN<xss.length:=by have:=dQt a0;omega
  have a2:oN<vs.length:=by rw [ha.length];exact a0
  obtain ⟨o1,c1,hv,a7⟩:=ha.get oN a2 a0
  refine ⟨⟨by omega,by omega⟩,(a5.aa hB.ch).at (j:=(oN:Int).toNat*1) (v:=vs[oN]) (by simp [a2]) fun p hp=>?_⟩
  rw [hv] at hp
  refine ⟨_,_,_,hp,?_⟩
  refine ab (lf (a7.aa hB.ch) (hs.2 _ (List.getElem_mem _)) c1) ?_
  rintro v w2 ⟨⟨o2,c2,rfl,a8⟩,a3⟩
  refine ⟨_,_,_,rfl,fun w3 e3=>?_⟩
  have a1:=hB.more a3
  have hl:=hs.1
  obtain ⟨o4,c4,w4,F4,a9,b2,a4⟩:=a1.push ia bq e3 rfl rfl (by omega) (by omega)
  refine ⟨o4,_,c4,w4,a9,xss.length-(oN+1),by omega,oN+1,_,F4,_,by rw [ae (by omega) (by omega)];rfl,rfl,a0,rfl,b2,?_⟩
  rw [au xss oN a0]
  refine (hU.imp fun u xs h=>((h.aa a3).mono (fun i _ hi => .inl hi)).af a4 (fun i _ hi h1=>a1.ap i h1 hi)).snoc ?_
  exact ql.af (F:=Ext F2 w1 w2) ⟨o2,c2,rfl,a8.mono (fun i _ hi => .inr hi)⟩ a4 (fun i _ hi h1=>a1.ap i h1 hi)
 ·have:oN=xss.length:=by have:=dQf a6;omega
  subst this
  rw [List.take_length] at hU
  exact ⟨⟨oA,oC,us,rfl,hB.own.rd.mono (fun i _ hi=>hB.f1 i hi),hU.imp (fun u xs h=>h.mono (fun i _ hi=>hB.f2 i hi))⟩,hB.ch⟩
theorem yl {p:Value × Value} {e:gr} (h:oE w p e G) (hs:small e.1∧small e.2):Calls Tryz.prog xn #[.agg #[p.1,p.2]] w (bc fun v w'=>∃ q:Value × Value,v = .agg #[q.1,q.2]∧oE w' q e (db w w')∧Ch ah w w'):=by
 obtain ⟨a,b⟩:=p
 obtain ⟨h1,h2⟩:=h
 have k1:=h1
 have k2:=h2
 obtain ⟨o1,c1,c6,rfl,_,_⟩:=h1
 obtain ⟨o2,c2,c7,rfl,_,_⟩:=h2
 dsimp only at k1 k2 ⊢
 refine Hk.calls _ _ _ _ _ _ ?_
 intro w1 e1 w2 e2
 have hA:=(ba.new e1).alloc e2
 have hB:=ba.new e2
 have a7:Ch ah w w2:=(Ch.alloc e1).ag (Ch.alloc e2)
 have a8:w.heap.size<w1.heap.size:=(ba.new e1).lt
 have a9:w1.heap.size<w2.heap.size:=hB.lt
 generalize c8:w1.heap.size=rb at hB a8 a9 ⊢
 have hA:ba w2 w.heap.size [.slice o1 e.1.length c1,.slice o2 e.2.length c2] bj:=hA
 clear e1 e2
 refine ⟨fun w'=>ba w' w.heap.size [.slice o1 e.1.length c1,.slice o2 e.2.length c2] bj,fun w3 e3=>⟨hA.drew e3,_,_,_,fun w' h=>h.cell 0 rfl,_,_,_,fun w' h=>h.cell 1 rfl,?_⟩⟩
 have a1:=a7.ag (Ch.drew e3)
 refine ab (CH (k1.aa a1) hs.1) ?_
 rintro v w4 ⟨⟨o4,c4,b2,rfl,b3,b4⟩,a0⟩
 refine ⟨_,_,_,rfl,(hA.drew e3).aa a0,?_⟩
 refine ab (CH (k2.aa (a1.ag a0)) hs.2) ?_
 rintro v w5 ⟨⟨o5,c5,b5,rfl,b6,b7⟩,a2⟩
 have a4:=((hB.drew e3).aa a0).aa a2
 have a5:=((hA.drew e3).aa a0).aa a2
 refine ⟨_,_,_,rfl,a5,⟨a4.ok 0 rfl,a4.ok 1 rfl⟩,fun w6 e6=>?_⟩
 have e7:w6=w5.setCells rb 0 [.slice o4 e.1.length c4,.slice o5 e.2.length c5]:=e6
 have a6:=a4.all [.slice o4 e.1.length c4,.slice o5 e.2.length c5] rfl e7
 have a3:Ch (·=rb) w5 w6:=Ch.fr e7 rfl
 have c9:w2.heap.size=w3.heap.size:=by subst e3;rfl
 have b8:=a0.size
 have b9:=a2.size
 have c0:=a3.size
 refine ⟨a5.af a3 (by omega),_,_,_,_,_,_,⟨a6.cell 0 rfl,a6.cell 1 rfl⟩,(_,_),rfl,⟨?_,?_⟩,((a1.ag a0).ag a2).trans a3 (fun i hi h=>by omega)⟩
 ·have h4:nJ w4 (.slice o4 e.1.length c4) e.1 (db w3 w4):=⟨o4,c4,b2,rfl,b3,b4⟩
  exact ((h4.aa a2).af a3 (fun i _ hi h=>by have:=hi.1;omega)).mono (fun i _ hi=>⟨by have:=hi.1;have:=a1.size;omega,by have:=hi.2;omega⟩)
 ·have h5:nJ w5 (.slice o5 e.2.length c5) e.2 (db w4 w5):=⟨o5,c5,b5,rfl,b6,b7⟩
  exact (h5.af a3 (fun i _ hi h=>by have:=hi.1;omega)).mono (fun i _ hi=>⟨by have:=hi.1;have:=a1.size;omega,by have:=hi.2;omega⟩)
theorem Fq (ha:Rd w o (xs.map (.int .i64)) F) (hb:Rd w ob (ys.map (.int .i64)) G) (hl:xs.length≤17592186043904) :
  Calls Tryz.prog wA #[.slice o xs.length c,.slice ob ys.length cb] w (bc fun v w'=>v = .bool (decide (xs=ys))∧Ch ah w w'):=by
 refine AT.calls _ _ _ _ _ _ ?_
 refine ⟨fun h=>?_,fun h=>?_⟩
 ·have h:xs.length≠ys.length:=by simp at h;omega
  exact ⟨by rw [decide_eq_false (fun e=>h (by rw [e]))],Ch.refl _ _⟩
 have h:xs.length=ys.length:=by simp at h;omega
 refine ⟨fun i k w'=>∃ j:Nat,i=j∧j≤xs.length∧k=xs.length-j∧xs.take j=ys.take j∧Ch ah w w',⟨_,0,rfl,Nat.zero_le _,rfl,rfl,Ch.refl _ _⟩,?_⟩
 rintro jk i k w1 ⟨j,rfl,hj,rfl,he,hc⟩
 refine ⟨fun a0=>?_,fun a3=>?_⟩
 ·have a0:j<xs.length:=by simpa using a0
  have a1:j<ys.length:=by omega
  refine ⟨fun w2=>Ch ah w w2,fun w2 e2=>⟨hc.ag (Ch.drew e2),⟨by omega,by omega⟩,Rd.keeps (j:=(j:Int).toNat*1) (S:=fun w2=>Ch ah w w2) (fun w2 h2=>ha.aa h2) hc (by simpa using a0) fun p hp=>⟨_,hp,⟨by omega,by omega⟩,
   Rd.keeps (j:=(j:Int).toNat*1) (S:=fun w2=>Ch ah w w2) (fun w2 h2=>hb.aa h2) hc (by simpa using a1) fun p2 a4=>⟨_,a4,fun a5=>?_,fun a2=>?_⟩⟩⟩⟩
  ·refine ⟨?_,hc.ag (Ch.drew e2)⟩
   rw [decide_eq_false]
   intro e
   subst e
   simp at a5
  ·have a2:xs[j]=ys[j]:=by simpa using a2
   refine ⟨xs.length-(j+1),by omega,j+1,by rw [ae (by omega) (by omega)];rfl,a0,rfl,?_,hc.ag (Ch.drew e2)⟩
   rw [au xs j a0,au ys j a1,he,a2]
 ·have:j=xs.length:=by simp at a3;omega
  subst this
  rw [List.take_length,h,List.take_length] at he
  exact ⟨by rw [decide_eq_true he],hc⟩
end
end Go.Proofs.YtkbikekbaboclaaGreat.Step
set_option linter.unusedVariables false
set_option linter.unusedSimpArgs false
namespace Go.Proofs.YtkbikekbaboclaaGreat.qn
open Go Go.Proofs V Vc fv ee qX Go.RowKit
structure Md (c:ep) (wt:ByteArray):Prop where
 ok:tQ c
 sz:(wt.size:Int)=pi c
def times (c:ep) (wt:ByteArray) (p b:Nat) (vs:List Int):List Int:=ft.qE (pY c wt p b) (side c p).1 (side c p).2 vs 6
def ej (c:ep) (wt:ByteArray) (p b:Nat) (xs:List Int):List Int:=Norm.Av (ks c wt p b 0) xs
def zt (xs ys:List Int):List Int:=ft.uO [(none,0,xs),(none,0,ys)]
def RC (r:List Int):OA × Nat × List Int:=(none,0,r)
def Iv (ws:List Int) (rows:List (List Int)):List Int:=ed.rM ws (rows.map RC)
def cut (xs:List Int) (a n:Nat):List Int:=(xs.drop a).take n
def ir (b a n:Nat) (q:List Int) (e:gr):Int:=shift (se (cut q a n) (cut (e.1.getD b []) a n)) 9
def Co (b a n:Nat) (e:gr):List Int:=cut (e.2.getD b []) a n
def DN (es:List gr) (b a n:Nat) (q:List Int):List Int:=Iv (ed.bm (es.map (ir b a n q))) (es.map (Co b a n))
def nU (c:ep) (es:List gr) (b:Nat) (q:List Int):Nat→List Int
 | 0=>[]
 | h+1=>nU c es b q h++DN es b (h*bu c) (bu c) q
structure GL where
 x:List Int
 K:List (List Int)
 V:List (List Int)
def iq (c:ep) (wt:ByteArray) (b:Nat) (s:GL):List (List Int):=s.K++[times c wt 4 b (ej c wt 2 b s.x)]
def la (c:ep) (wt:ByteArray) (b:Nat) (s:GL):List (List Int):=s.V++[times c wt 5 b (ej c wt 2 b s.x)]
def SF (c:ep) (wt:ByteArray) (past:List gr) (b:Nat) (s:GL):List Int :=
 zt s.x (times c wt 6 b (nU c (past++[(iq c wt b s,la c wt b s)]) b (times c wt 3 b (ej c wt 2 b s.x)) c.heads.toNat))
def Gm (c:ep) (wt:ByteArray) (past:List gr) (b:Nat) (s:GL):GL:=⟨SF c wt past b s,iq c wt b s,la c wt b s⟩
def EW (c:ep) (wt:ByteArray) (b:Nat) (s:GL):GL :=
 ⟨zt s.x (times c wt 10 b (Act.jl (times c wt 8 b (ej c wt 7 b s.x)) (times c wt 9 b (ej c wt 7 b s.x)))),s.K,s.V⟩
def lj (c:ep) (wt:ByteArray) (past:List gr) (s:GL):Nat→GL
 | 0=>s
 | j+1=>EW c wt j (Gm c wt past j (lj c wt past s j))
def Fb (n m:Int):Int:=sat (16*(n+m))
def xF (c:ep) (wt:ByteArray) (place:Nat) (token:Int):List Int:=List.zipWith Fb (ks c wt 0 0 token) (ks c wt 1 0 place)
def qV (c:ep) (wt:ByteArray) (x:List Int):List Int:=(List.range c.vocab.toNat).map fun t=>shift (se (ks c wt 0 0 (t:Nat)) (ej c wt 11 0 x)) 5
def si (c:ep) (wt:ByteArray) (past:List gr) (token:Int):GL:=lj c wt past ⟨xF c wt past.length token,[],[]⟩ c.blocks.toNat
def nL (c:ep) (wt:ByteArray) (past:List gr) (token:Int):gr:=((si c wt past token).K,(si c wt past token).V)
def uR (c:ep) (wt:ByteArray) (past:List gr) (token:Int):List Int:=qV c wt (si c wt past token).x
def AB (xs:List Int):Prop:=∀ x∈xs,-32767≤x∧x≤32767
def oO (n d:Nat) (l:List (List Int)):Prop:=l.length=n∧∀ r∈l,r.length=d∧AB r
def fy (c:ep) (e:gr):Prop:=oO c.blocks.toNat c.dim.toNat e.1∧oO c.blocks.toNat c.dim.toNat e.2
theorem tS (c:ep):pB c 0 0:=⟨by omega,by simp⟩
theorem KD (c:ep):pB c 1 0:=⟨by omega,by simp⟩
theorem Mh (c:ep):pB c 11 0:=⟨by omega,by simp⟩
theorem ib {c:ep} {p b:Nat} (h1:2≤p) (h2:p≤10) (hb:(b:Int)<c.blocks):pB c p b:=⟨by omega,by rw [if_neg (by omega)];exact hb⟩
section
variable {c:ep} {wt:ByteArray} {p b:Nat} {vs xs ys:List Int}
theorem xO (m:Md c wt) (h:pB c p b) (hv:(vs.length:Int)=(side c p).2):(times c wt p b vs).length=(side c p).1.toNat∧AB (times c wt p b vs):=by
 unfold times ft.qE ft.pK
 rw [Bq m.ok m.sz h,decide_eq_true hv,Bool.true_and,if_pos rfl]
 unfold ft.sU
 refine ⟨by rw [List.length_map,List.length_range],fun x hx=>?_⟩
 obtain ⟨i,_,rfl⟩:=List.mem_map.1 hx
 exact Cg _
theorem Ji (h:xs.length=ys.length):(zt xs ys).length=xs.length∧AB (zt xs ys):=by
 have hs:ft.nl [(none,0,xs),(none,0,ys)]=true:=ft.tL (fun z hz=>by
  rcases List.mem_cons.1 hz with rfl|hz
  ·rfl
  ·rw [List.mem_singleton] at hz;subst hz;exact h.symm)
 unfold zt ft.uO
 rw [hs,if_pos rfl]
 unfold ft.sj
 refine ⟨by rw [List.length_map,List.length_range];rfl,fun x hx=>?_⟩
 obtain ⟨i,_,rfl⟩:=List.mem_map.1 hx
 exact Cg _
theorem Oz (m:Md c wt) (h:pB c p b) (hx:xs.length=(side c p).2.toNat) (h1:1≤(side c p).1):(ej c wt p b xs).length=xs.length:=by
 unfold ej
 have hr:(ks c wt p b 0).length=(side c p).2.toNat:=uC m.ok m.sz h (q:=0) (by omega)
 exact Norm.Dv (by rw [hr];exact hx.symm)
theorem QP (d:Nat):ed.Od d≤65536:=by
 unfold ed.Od
 exact Nat.le_trans (Nat.div_le_self _ _) (ed.Ly _ (Nat.mod_lt _ (by omega)))
theorem Ih (h0:xs≠[]):(ed.bm xs).any ed.tE=false∧0<(ed.bm xs).sum:=by
 have hb:∀ x∈ed.bm xs,0≤x∧x≤65536:=fun x hx=>by
  obtain ⟨y,_,rfl⟩:=List.mem_map.1 hx
  unfold ed.JM
  have:=QP (ed.cl (tH xs)-ed.cl y).toNat
  omega
 refine ⟨?_,?_⟩
 ·rw [List.any_eq_false]
  intro x hx
  have:=hb x hx
  unfold ed.tE
  simp;omega
 ·have hm:(65536:Int)∈ed.bm xs:=List.mem_map.2 ⟨tH xs,(AL h0).1,by rw [Int.sub_self];decide⟩
  generalize ed.bm xs=l at hb hm
  clear h0
  induction l with
  | nil=>cases hm
  | cons y r ih =>
   rw [List.sum_cons]
   have h1:=hb y (by simp)
   have a0:∀ l:List Int,(∀ x∈l,0≤x∧x≤65536)→0≤l.sum:=fun l=>by
    induction l with
    | nil=>intro _;simp
    | cons y r ih=>intro h;rw [List.sum_cons];have:=h y (by simp);have:=ih (fun x hx=>h x (by simp [hx]));omega
   rcases List.mem_cons.1 hm with h|h
   ·have:=a0 r (fun x hx=>hb x (by simp [hx]));omega
   ·have:=ih (fun x hx=>hb x (by simp [hx])) h;omega
theorem BH (ws:List Int) (zs:List (OA × Nat × List Int)):ed.rM ws zs=Iv ws (zs.map (·.2.2)):=by
 have h0:(zs.map (·.2.2)).map RC=zs.map fun z=>RC z.2.2:=by rw [List.map_map];rfl
 have h1:wid (zs.map fun z=>RC z.2.2)=wid zs:=by
  unfold wid
  rw [List.getElem?_map]
  cases zs[0]? <;> rfl
 have h2:nl (zs.map fun z=>RC z.2.2)=nl zs:=by
  unfold nl
  rw [List.all_map,h1];rfl
 unfold Iv
 rw [h0]
 unfold ed.rM ed.mm ed.Dh ed.ij
 rw [h1,h2,List.length_map]
 simp only [List.zipWith_map_right]
 rfl
theorem LV {rows:List (List Int)} {n:Nat} (h0:xs≠[]) (hl:rows.length=xs.length) (hr:∀ r∈rows,r.length=n):(Iv (ed.bm xs) rows).length=n∧AB (Iv (ed.bm xs) rows):=by
 have hw:=Ih h0
 have hx:0<xs.length:=List.length_pos_iff.2 h0
 have a0:wid (rows.map RC)=n:=by
  rw [je (by rw [List.length_map];omega),List.getElem_map]
  exact hr _ (List.getElem_mem _)
 have hs:nl (rows.map RC)=true:=tL (fun z hz=>by
  obtain ⟨r,a1,rfl⟩:=List.mem_map.1 hz
  rw [a0];exact hr r a1)
 have a3:(ed.bm xs).length=xs.length:=by unfold ed.bm;rw [List.length_map]
 have a2:ed.mm (ed.bm xs) (rows.map RC)=true:=by
  unfold ed.mm
  rw [hw.1,hs,List.length_map,decide_eq_true (show rows.length≠0 by omega),decide_eq_true (show (ed.bm xs).length=rows.length by omega),decide_eq_true (show (ed.bm xs).sum≠0 by omega)];rfl
 unfold Iv ed.rM
 rw [a2,if_pos rfl]
 unfold ed.Dh
 refine ⟨by rw [List.length_map,List.length_range,a0],fun x hx=>?_⟩
 obtain ⟨i,_,rfl⟩:=List.mem_map.1 hx
 exact Cg _
theorem LU {a n:Nat} (h:a+n≤xs.length):(cut xs a n).length=n:=by unfold cut;rw [List.length_take,List.length_drop];omega
def hasB (c:ep) (b:Nat) (e:gr):Prop:=b<e.1.length∧b<e.2.length∧(e.1.getD b []).length=c.dim.toNat∧(e.2.getD b []).length=c.dim.toNat
theorem xP {n d:Nat} {l:List (List Int)} (h:oO n d l) (hb:b<n):(l.getD b []).length=d:=by
 have a0:b<l.length:=by rw [h.1];exact hb
 rw [List.getD_eq_getElem?_getD,List.getElem?_eq_getElem a0]
 exact (h.2 _ (List.getElem_mem a0)).1
theorem AO {e:gr} (h:fy c e) (hb:b<c.blocks.toNat):hasB c b e:=⟨by rw [h.1.1];exact hb,by rw [h.2.1];exact hb,xP h.1 hb,xP h.2 hb⟩
theorem IF {es:List gr} {a n:Nat} {q:List Int} (h0:es≠[]) (h:∀ e∈es,hasB c b e) (ha:a+n≤c.dim.toNat):(DN es b a n q).length=n∧AB (DN es b a n q):=by
 unfold DN
 refine LV (by simpa using h0) (by rw [List.length_map,List.length_map]) (fun r hr=>?_)
 obtain ⟨e,he,rfl⟩:=List.mem_map.1 hr
 unfold Co
 exact LU (by rw [(h e he).2.2.2];exact ha)
theorem Eb {es:List gr} {q:List Int} (ok:tQ c) (h0:es≠[]) (h:∀ e∈es,hasB c b e):∀ j,j≤c.heads.toNat→(nU c es b q j).length=j*bu c
 | 0,_=>by simp [nU]
 | j+1,hj=>by
  have hd:=pT ok
  have a0:(j+1)*bu c≤c.heads.toNat*bu c:=Nat.mul_le_mul_right _ hj
  have hh:1≤c.heads:=ok.2.2.1.1
  have e:((c.heads.toNat*bu c:Nat):Int)=c.dim:=by
   rw [Int.natCast_mul,Int.toNat_of_nonneg (by omega),Int.mul_comm];exact hd.1
  have hs:(j+1)*bu c=j*bu c+bu c:=Nat.succ_mul _ _
  rw [nU,List.length_append,Eb ok h0 h j (by omega),(IF h0 h (a:=j*bu c) (n:=bu c) (by omega)).1,Nat.succ_mul]
structure vY (c:ep) (j:Nat) (s:GL):Prop where
 x:s.x.length=c.dim.toNat
 K:oO j c.dim.toNat s.K
 V:oO j c.dim.toNat s.V
theorem So {p:Nat} (h:p=3∨p=4∨p=5∨p=6):side c p=(c.dim,c.dim):=by rcases h with rfl|rfl|rfl|rfl <;> rfl
theorem RH {p:Nat} (h:p=2∨p=7∨p=11):side c p=(1,c.dim):=by rcases h with rfl|rfl|rfl <;> rfl
theorem oO.snoc {n d:Nat} {l:List (List Int)} {r:List Int} (h:oO n d l) (h1:r.length=d) (h2:AB r):oO (n+1) d (l++[r]) :=
 ⟨by rw [List.length_append,h.1];rfl,fun x hx=>by
  rcases List.mem_append.1 hx with hx|hx
  ·exact h.2 x hx
  ·rw [List.mem_singleton] at hx;subst hx;exact ⟨h1,h2⟩⟩
theorem GR (l:List (List Int)) (r:List Int) (h:l.length=b):(l++[r]).getD b []=r:=by
 subst h;simp
theorem tF (m:Md c wt) {j:Nat} (hj:(j:Int)<c.blocks) {p:Nat} (hp:p=2∨p=7) (hx:xs.length=c.dim.toNat):(ej c wt p j xs).length=c.dim.toNat:=by
 have hs:=RH (c:=c) (p:=p) (by omega)
 rw [Oz m (ib (by omega) (by omega) hj) (by rw [hs];exact hx) (by rw [hs];exact Int.le_refl 1),hx]
theorem nO (m:Md c wt) {j:Nat} (hj:(j:Int)<c.blocks) {p:Nat} (hp:p=3∨p=4∨p=5∨p=6) (hv:vs.length=c.dim.toNat):(times c wt p j vs).length=c.dim.toNat∧AB (times c wt p j vs):=by
 have hs:=So (c:=c) hp
 have hd:=m.ok.2.1
 have:=xO m (ib (p:=p) (b:=j) (by omega) (by omega) hj) (vs:=vs) (by rw [hs];show (vs.length:Int)=c.dim;omega)
 rw [hs] at this;exact this
theorem DT (m:Md c wt) {j:Nat} (hj:(j:Int)<c.blocks) {s:GL} (h:vY c j s):oO (j+1) c.dim.toNat (iq c wt j s)∧oO (j+1) c.dim.toNat (la c wt j s):=by
 have hn:=tF m hj (p:=2) (.inl rfl) h.x
 have h4:=nO m hj (p:=4) (by omega) hn
 have h5:=nO m hj (p:=5) (by omega) hn
 exact ⟨h.K.snoc h4.1 h4.2,h.V.snoc h5.1 h5.2⟩
theorem Qg (m:Md c wt) {j:Nat} (hj:(j:Int)<c.blocks) {s:GL} (h:vY c j s):hasB c j (iq c wt j s,la c wt j s):=by
 obtain ⟨a,b⟩:=DT m hj h
 exact ⟨by rw [a.1];omega,by rw [b.1];omega,xP a (by omega),xP b (by omega)⟩
theorem JS (m:Md c wt) {j:Nat} (hj:(j:Int)<c.blocks) {s:GL} (h:vY c j s) {past:List gr} (hp:∀ e∈past,fy c e):∀ e∈past++[(iq c wt j s,la c wt j s)],hasB c j e:=fun e he=>by
 rcases List.mem_append.1 he with he|he
 ·exact AO (hp e he) (by omega)
 ·rw [List.mem_singleton] at he;subst he;exact Qg m hj h
theorem ya (ok:tQ c):c.heads.toNat*bu c=c.dim.toNat:=by
 have hd:=pT ok
 have hh:1≤c.heads:=ok.2.2.1.1
 have e:((c.heads.toNat*bu c:Nat):Int)=c.dim:=by
  rw [Int.natCast_mul,Int.toNat_of_nonneg (by omega),Int.mul_comm];exact hd.1
 omega
theorem vZ (m:Md c wt) {j:Nat} (hj:(j:Int)<c.blocks) {s:GL} (h:vY c j s) {past:List gr} (hp:∀ e∈past,fy c e) {q:List Int}:(nU c (past++[(iq c wt j s,la c wt j s)]) j q c.heads.toNat).length=c.dim.toNat:=by
 rw [Eb m.ok (by simp) (JS m hj h hp) _ (Nat.le_refl _),ya m.ok]
theorem Hv (m:Md c wt) {j:Nat} (hj:(j:Int)<c.blocks) {s:GL} (h:vY c j s) {past:List gr} (hp:∀ e∈past,fy c e):vY c (j+1) (Gm c wt past j s):=by
 obtain ⟨a,b⟩:=DT m hj h
 refine ⟨?_,a,b⟩
 have h6:=nO m hj (p:=6) (by omega) (vZ m hj h hp (q:=times c wt 3 j (ej c wt 2 j s.x)))
 show (zt s.x _).length=_
 rw [(Ji (by rw [h.x];exact h6.1.symm)).1,h.x]
theorem Ah (m:Md c wt) {j:Nat} (hj:(j:Int)<c.blocks) (hx:xs.length=c.dim.toNat) :
  (times c wt 8 j (ej c wt 7 j xs)).length=c.hidden.toNat∧(times c wt 9 j (ej c wt 7 j xs)).length=c.hidden.toNat∧AB (times c wt 8 j (ej c wt 7 j xs)) ∧
  (Act.jl (times c wt 8 j (ej c wt 7 j xs)) (times c wt 9 j (ej c wt 7 j xs))).length=c.hidden.toNat:=by
 have hn:=tF m hj (p:=7) (.inr rfl) hx
 have hd:=m.ok.2.1
 have h8:=xO m (ib (p:=8) (b:=j) (by omega) (by omega) hj) (vs:=ej c wt 7 j xs) (by show ((ej c wt 7 j xs).length:Int)=c.dim;omega)
 have h9:=xO m (ib (p:=9) (b:=j) (by omega) (by omega) hj) (vs:=ej c wt 7 j xs) (by show ((ej c wt 7 j xs).length:Int)=c.dim;omega)
 have a1:(times c wt 8 j (ej c wt 7 j xs)).length=c.hidden.toNat:=h8.1
 have a0:(times c wt 9 j (ej c wt 7 j xs)).length=c.hidden.toNat:=h9.1
 exact ⟨a1,a0,h8.2,by rw [Act.rm (by omega)];exact a0⟩
theorem Ar (m:Md c wt) {j:Nat} (hj:(j:Int)<c.blocks) (hv:vs.length=c.hidden.toNat):(times c wt 10 j vs).length=c.dim.toNat:=by
 have hd:=m.ok.2.2.2.2.1
 exact (xO m (ib (p:=10) (b:=j) (by omega) (by omega) hj) (vs:=vs) (by show (vs.length:Int)=c.hidden;omega)).1
theorem OR (m:Md c wt) {j:Nat} (hj:(j:Int)<c.blocks) {n:Nat} {s:GL} (h:vY c n s):vY c n (EW c wt j s):=by
 refine ⟨?_,h.K,h.V⟩
 have hu:=Ah m hj h.x
 have a0:=Ar m hj hu.2.2.2
 show (zt s.x _).length=_
 rw [(Ji (by rw [h.x];exact a0.symm)).1,h.x]
theorem Bx (m:Md c wt) {k:Nat} (hk:(k:Int)<c.context) {t:Int} (ht:0≤t∧t<c.vocab):(ks c wt 0 0 t).length=c.dim.toNat∧(ks c wt 1 0 k).length=c.dim.toNat∧(xF c wt k t).length=c.dim.toNat:=by
 obtain ⟨n,rfl⟩:∃ n:Nat,t=n:=⟨t.toNat,by omega⟩
 have h0:(ks c wt 0 0 (n:Int)).length=c.dim.toNat:=uC m.ok m.sz (tS c) (q:=n) ht.2
 have h1:(ks c wt 1 0 (k:Int)).length=c.dim.toNat:=uC m.ok m.sz (KD c) (q:=k) hk
 exact ⟨h0,h1,by unfold xF;rw [List.length_zipWith,h0,h1];omega⟩
theorem ye (m:Md c wt) {past:List gr} (hp:∀ e∈past,fy c e) {s:GL} (h:vY c 0 s):∀ j:Nat,(j:Int)≤c.blocks→vY c j (lj c wt past s j)
 | 0,_=>h
 | j+1,hj=>OR m (by omega) (Hv m (by omega) (ye m hp h j (by omega)) hp)
theorem HO (m:Md c wt) {past:List gr} (hp:∀ e∈past,fy c e) (hk:(past.length:Int)<c.context) {t:Int} (ht:0≤t∧t<c.vocab):vY c c.blocks.toNat (si c wt past t)∧fy c (nL c wt past t):=by
 have hb:=m.ok.2.2.2.1
 have h:=ye m hp (s:=⟨xF c wt past.length t,[],[]⟩) ⟨(Bx m hk ht).2.2,⟨rfl,fun r hr=>(by cases hr)⟩,⟨rfl,fun r hr=>(by cases hr)⟩⟩ c.blocks.toNat (by omega)
 exact ⟨h,h.K,h.V⟩
end
end Go.Proofs.YtkbikekbaboclaaGreat.qn
