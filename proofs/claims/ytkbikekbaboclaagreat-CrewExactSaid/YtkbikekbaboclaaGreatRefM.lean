import Derived.Test.YtkbikekbaboclaaGreatPkB
import Derived.Test.YtkbikekbaboclaaGreatPkVa
set_option linter.unusedVariables false
set_option linter.unusedSimpArgs false
namespace Go.Proofs.YtkbikekbaboclaaGreat.PI
open Go Go.Proofs V Vc fv ee qX Go.RowKit
theorem dT {p X:Prop} [Decidable p] (h:p→X):decide p=true→X:=fun k=>h (dQt k)
theorem dF {p X:Prop} [Decidable p] (h:¬ p→X):decide p=false→X:=fun k=>h (dQf k)
theorem bT {x y:Int} {X:Prop} (h:x=y→X):(x==y)=true→X:=fun k=>h (eq_of_beq k)
theorem bF {x y:Int} {X:Prop} (h:¬ x=y→X):(x==y)=false→X:=fun k=>h (by simpa using k)
theorem DF (w:World) (c:ep) (p:Int):Calls Tryz.prog vO #[.agg (zH c).toArray,.int .i64 p] w (bc fun v w'=>v = .tuple #[.int .i64 (side c p).1,.int .i64 (side c p).2]∧Ch ah w w'):=by
 refine yN.calls _ _ _ _ _ _ _ ?_
 intro w1 e1
 have hB:=ba.new e1
 refine ⟨fun h=>?_,fun n0=>⟨fun h=>?_,fun n1=>⟨fun h=>⟨h,?_⟩,fun n2=>⟨fun h=>⟨h,?_⟩,fun n7=>⟨fun h=>?_,fun a0=>⟨fun h=>⟨h,?_⟩,fun n3=>⟨fun h=>⟨h,?_⟩,fun n4=>⟨fun h=>⟨h,?_⟩,fun n5=>⟨fun h=>?_,fun n6=>⟨fun h=>⟨h,?_⟩,fun n8=>⟨fun h=>?_,fun n9=>⟨fun h=>?_,fun a1=>?_⟩⟩⟩⟩⟩⟩⟩⟩⟩⟩⟩⟩
 ·have h:=eq_of_beq h
  subst h
  exact ⟨fun w'=>Ch ah w1 w',fun w2 e2=>⟨Ch.drew e2,_,fun w' hc=>(hB.aa hc).cell 0 rfl,_,fun w' hc=>(hB.aa hc).cell 1 rfl,rfl,(Ch.alloc e1).ag (Ch.drew e2)⟩⟩
 ·have h:=eq_of_beq h
  subst h
  exact ⟨fun w'=>Ch ah w1 w',fun w2 e2=>⟨Ch.drew e2,_,fun w' hc=>(hB.aa hc).cell 5 rfl,_,fun w' hc=>(hB.aa hc).cell 1 rfl,rfl,(Ch.alloc e1).ag (Ch.drew e2)⟩⟩
 iterate 3
  ·have h:=eq_of_beq h
   subst h
   exact ⟨fun w'=>Ch ah w1 w',fun w2 e2=>⟨Ch.drew e2,_,fun w' hc=>(hB.aa hc).cell 1 rfl,rfl,(Ch.alloc e1).ag (Ch.drew e2)⟩⟩
 iterate 4
  ·have h:=eq_of_beq h
   subst h
   exact ⟨fun w'=>Ch ah w1 w',fun w2 e2=>⟨Ch.drew e2,_,fun w' hc=>(hB.aa hc).cell 1 rfl,_,fun w' hc=>(hB.aa hc).cell 1 rfl,rfl,(Ch.alloc e1).ag (Ch.drew e2)⟩⟩
 iterate 2
  ·have h:=eq_of_beq h
   subst h
   exact ⟨fun w'=>Ch ah w1 w',fun w2 e2=>⟨Ch.drew e2,_,fun w' hc=>(hB.aa hc).cell 4 rfl,_,fun w' hc=>(hB.aa hc).cell 1 rfl,rfl,(Ch.alloc e1).ag (Ch.drew e2)⟩⟩
 ·have h:=eq_of_beq h
  subst h
  exact ⟨fun w'=>Ch ah w1 w',fun w2 e2=>⟨Ch.drew e2,_,fun w' hc=>(hB.aa hc).cell 1 rfl,_,fun w' hc=>(hB.aa hc).cell 4 rfl,rfl,(Ch.alloc e1).ag (Ch.drew e2)⟩⟩
 ·have ne:∀ {k:Int},(p==k)=false→¬ p=k:=fun h he=>by subst he;simp at h
  have m0:=ne n0
  have m1:=ne n1
  have m2:=ne n2
  have m3:=ne n3
  have m4:=ne n4
  have m5:=ne n5
  have m6:=ne n6
  have m7:=ne n7
  have m8:=ne n8
  have m9:=ne n9
  have a2:=ne a1
  have a3:=ne a0
  have hs:side c p=(0,0):=by
   unfold side
   rw [if_neg m0,if_neg m1,if_neg (by omega),if_neg (by omega),if_neg (by omega),if_neg a2]
  rw [hs]
  exact ⟨rfl,Ch.alloc e1⟩
abbrev Hs:=Int × Int × Int × Int
def wY (x:Hs):List Value:=[.int .i64 x.1,.int .i64 x.2.1,.int .i64 x.2.2.1,.int .i64 x.2.2.2]
def SN (c:ep) (x:Hs):Prop:=∃ p k:Nat,x=((p:Int),(k:Int),fp c p k,bn c p 1)∧pB c p k
def JF (c:ep) (B p:Nat):Int :=
 if B=0 then bn c 0 (min p 2) else if (B:Int)≤c.blocks then bn c 0 2+((B:Int)-1)*bn c 2 9+bn c 2 (min p 11-2) else if (B:Int)=c.blocks+1∧p≤11 then pi c-bn c 11 1 else pi c
def inc (c:ep) (B p:Nat):Prop:=(B=0∧p≤1)∨(1≤B∧(B:Int)≤c.blocks∧2≤p∧p≤10)∨((B:Int)=c.blocks+1∧11≤p)
def bl (c:ep) (q k:Nat):Int:=if q<2 then 0 else if q=11 then c.blocks+1 else (k:Int)+1
def NP (B p:Nat):Nat:=if p<2∨p=11 then 0 else B-1
structure wj (c:ep) (B p:Nat) (at':Int) (xs:List Hs):Prop where
 ok:∀ x∈xs,SN c x
 all:∀ q k:Nat,pB c q k→(bl c q k<B∨(bl c q k=B∧q<p))→∃ x∈xs,x.1=q∧x.2.1=k
 pos:at'=JF c B p
 last:∀ x,xs.getLast?=some x→x.2.2.1+x.2.2.2=at'
 ne:(0<B∨0<p)→xs≠[]
 len:xs.length≤B*12+p
section
variable {c:ep} {B p:Nat} {at':Int} {xs:List Hs}
theorem wj.start (hk:tQ c):wj c 0 0 0 []:=⟨fun x hx=>by simp at hx,fun q k _ h=>by
 have hb:=hk.2.2.2.1
 rcases h with h|⟨h1,h2⟩
 ·unfold bl at h;split at h
  ·omega
  ·split at h <;> omega
 ·omega,rfl,fun x hx=>by simp at hx,fun h=>by omega,by simp⟩
theorem wj.skip (hk:tQ c) (h:wj c B p at' xs) (hp:p<12) (hB:(B:Int)≤c.blocks+1) (hn:¬ inc c B p):wj c B (p+1) at' xs:=by
 unfold inc at hn
 refine ⟨h.ok,fun q k hq hs=>h.all q k hq ?_,?_,h.last,fun _=>h.ne (by omega),by have:=h.len;omega⟩
 ·rcases hs with hs|⟨h1,h2⟩
  ·exact .inl hs
  ·by_cases e:q=p
   ·subst e
    exfalso
    have a0:=hq.2
    have a1:=hq.1
    unfold bl at h1
    by_cases e1:q<2
    ·rw [if_pos e1] at h1;omega
    ·rw [if_neg e1] at h1
     by_cases e2:q=11
     ·rw [if_pos e2] at h1;omega
     ·rw [if_neg e2] at h1;rw [if_neg (by omega)] at a0;omega
   ·exact .inr ⟨h1,by omega⟩
 ·rw [h.pos]
  unfold JF
  by_cases b0:B=0
  ·rw [if_pos b0,if_pos b0,show min p 2=min (p+1) 2 by omega]
  ·rw [if_neg b0,if_neg b0]
   by_cases b1:(B:Int)≤c.blocks
   ·rw [if_pos b1,if_pos b1,show min p 11-2=min (p+1) 11-2 by omega]
   ·rw [if_neg b1,if_neg b1,if_pos ⟨by omega,by omega⟩,if_pos ⟨by omega,by omega⟩]
theorem Oq (hk:tQ c) (hp:p<12) (hn:inc c B p):pB c p (NP B p)∧JF c B p=fp c p (NP B p)∧JF c B (p+1)=JF c B p+bn c p 1∧bl c p (NP B p)=B:=by
 have hb:=hk.2.2.2.1
 have a0:∀ a n:Nat,bn c a (n+1)=bn c a n+fv.part c ((a+n:Nat):Int):=fun a n=>by
  show bn c a n+fv.part c _=_
  congr 2
 unfold inc at hn
 unfold pB fp JF bl NP
 rcases hn with ⟨h1,h2⟩|⟨h1,h2,h3,h4⟩|⟨h1,h2⟩
 ·subst h1
  rw [if_pos (by omega),if_pos (by omega),if_pos rfl,if_pos (by omega),if_pos rfl,if_pos (by omega),show min p 2=p by omega,show min (p+1) 2=p+1 by omega]
  exact ⟨⟨by omega,by omega⟩,rfl,by rw [a0 0 p,Nat.zero_add,← EI],rfl⟩
 ·rw [if_neg (by omega),if_neg (by omega),if_neg (by omega),if_pos h2,if_neg (by omega),if_neg (by omega),if_neg (by omega),if_pos h2,if_neg (by omega),if_neg (by omega),show min p 11=p by omega,show min (p+1) 11-2=(p-2)+1 by omega]
  refine ⟨⟨by omega,by omega⟩,by rw [show (((B-1:Nat):Nat):Int)=(B:Int)-1 by omega],?_,by omega⟩
  rw [a0 2 (p-2),show 2+(p-2)=p by omega,← EI];omega
 ·have:p=11:=by omega
  subst this
  rw [if_pos (by omega),if_pos (by omega),if_neg (by omega),if_neg (by omega),if_pos ⟨h1,by omega⟩,if_neg (by omega),if_pos rfl,if_neg (by omega),if_neg (by omega),if_neg (by omega),if_neg (by omega),if_pos rfl]
  exact ⟨⟨by omega,by omega⟩,rfl,by omega,by omega⟩
theorem wj.take (hk:tQ c) (h:wj c B p at' xs) (hp:p<12) (hn:inc c B p):wj c B (p+1) (at'+bn c p 1) (xs++[((p:Int),(NP B p:Int),at',bn c p 1)]):=by
 obtain ⟨h1,h2,h3,h4⟩:=Oq hk hp hn
 refine ⟨fun x hx=>?_,fun q k hq hs=>?_,by rw [h.pos,h3],fun x hx=>?_,fun _=>by simp,by have:=h.len;rw [List.length_append];simp;omega⟩
 ·rcases List.mem_append.1 hx with hx|hx
  ·exact h.ok x hx
  ·rw [List.mem_singleton] at hx
   subst hx
   exact ⟨p,NP B p,by rw [h.pos,h2],h1⟩
 ·by_cases e:bl c q k=B∧q=p
  ·obtain ⟨e1,rfl⟩:=e
   refine ⟨_,List.mem_append_right _ List.mem_cons_self,rfl,?_⟩
   show (NP B q:Int)=k
   have a0:=hq.2
   unfold bl at e1
   unfold NP
   by_cases a1:q<2∨q=11
   ·rw [if_pos a1] at a0 ⊢;omega
   ·rw [if_neg a1] at a0 ⊢;rw [if_neg (by omega),if_neg (by omega)] at e1;omega
  ·obtain ⟨x,hx,k1⟩:=h.all q k hq (by
    rcases hs with hs|⟨a,b⟩
    ·exact .inl hs
    ·exact .inr ⟨a,by
      by_cases e2:q=p
      ·exact absurd ⟨a,e2⟩ e
      ·omega⟩)
   exact ⟨x,List.mem_append_left _ hx,k1⟩
 ·rw [List.getLast?_append] at hx
  simp at hx
  subst hx
  rfl
theorem wj.next (hk:tQ c) (h:wj c B 12 at' xs) (hB:(B:Int)≤c.blocks+1):wj c (B+1) 0 at' xs:=by
 have hb:=hk.2.2.2.1
 refine ⟨h.ok,fun q k hq hs=>h.all q k hq ?_,?_,h.last,fun _=>h.ne (by omega),by have:=h.len;omega⟩
 ·have:=hq.1
  rcases hs with hs|⟨_,h2⟩
  ·by_cases e:bl c q k=B
   ·exact .inr ⟨e,by omega⟩
   ·exact .inl (by omega)
  ·omega
 ·rw [h.pos]
  unfold JF
  by_cases b0:B=0
  ·subst b0
   rw [if_pos rfl,if_neg (show ¬ 0+1=0 by omega),if_pos (by omega)]
   show bn c 0 2=bn c 0 2+(((0+1:Nat):Int)-1)*bn c 2 9+0
   rw [show (((0+1:Nat):Int)-1)=0 by omega];omega
  ·rw [if_neg b0,if_neg (show ¬ B+1=0 by omega)]
   by_cases b1:(B:Int)≤c.blocks
   ·rw [if_pos b1]
    have hm:((B:Int)-1)*bn c 2 9+bn c 2 9=(B:Int)*bn c 2 9:=by rw [Int.sub_mul];omega
    by_cases b2:((B+1:Nat):Int)≤c.blocks
    ·rw [if_pos b2]
     show bn c 0 2+((B:Int)-1)*bn c 2 9+bn c 2 9=bn c 0 2+(((B+1:Nat):Int)-1)*bn c 2 9+0
     rw [show (((B+1:Nat):Int)-1)=(B:Int) by omega];omega
    ·rw [if_neg b2,if_pos ⟨by omega,by omega⟩]
     unfold pi
     show bn c 0 2+((B:Int)-1)*bn c 2 9+bn c 2 9=_
     rw [show c.blocks=(B:Int) by omega];omega
   ·rw [if_neg b1,if_neg (by omega),if_neg (by omega),if_neg (by omega)]
end
theorem Gw (w:World) {c:ep} (hc:tQ c):Calls Tryz.prog ve #[.agg (zH c).toArray] w (bc fun v w'=>∃ (o:OA) (cp:Nat) (xs:List Hs) (B:Nat),(B:Int)=c.blocks+2∧v = .slice o xs.length cp∧Rd w' o (xs.map wY).flatten (db w w')∧wj c B 0 (pi c) xs∧Ch ah w w'):=by
 have hs:=hc.small
 have b8:=hc.2.2.2.1
 refine yC.calls _ _ _ _ _ _ ?_
 intro w1 e1 w2 e2
 have hB:=ba.new e1
 have a3:Ch ah w w1:=Ch.alloc e1
 have g0:Gr ah w1 w2 xE 4 (some ⟨w1.heap.size,0,none⟩) 0 0 []:=Gr.nG (Ch.refl _ _) e2
 refine ⟨fun o n cp at' b k w'=>∃ (B:Nat) (xs:List Hs),b=(B:Int)-1∧(B:Int)≤c.blocks+2∧k=(c.blocks+2-B).toNat∧n=xs.length∧Gr ah w1 w' xE 4 o xs.length cp (xs.map wY).flatten∧wj c B 0 at' xs,⟨_,0,[],rfl,by omega,rfl,rfl,g0,wj.start hc⟩,?_⟩
 rintro jk o n cp at' b k w3 ⟨B,xs,rfl,b9,rfl,rfl,hg,hI⟩
 have a4:=hB.aa hg.2
 refine ⟨_,a4.cell 3 rfl,dT fun a6=>?_,dF fun c0=>?_⟩
 ·refine ⟨fun o n cp at' p k w'=>∃ (p':Nat) (xs:List Hs),p=p'∧p'≤12∧k=12-p'∧n=xs.length∧Gr ah w1 w' xE 4 o xs.length cp (xs.map wY).flatten∧wj c B p' at' xs,⟨_,0,xs,rfl,by omega,rfl,rfl,hg,hI⟩,?_⟩
  clear hg hI a4
  rintro jk o n cp at' p k w4 ⟨p,xs,rfl,hp,rfl,rfl,hg,hI⟩
  have a0:=hB.aa hg.2
  have hx:w4.cell? ⟨w.heap.size,3,none⟩=some (.int .i64 c.blocks):=a0.cell 3 rfl
  refine ⟨dT fun a1=>?_,dF fun c4=>?_⟩
  ·have a1:p<12:=by omega
   refine ⟨fun o n cp at' w'=>∃ xs:List Hs,n=xs.length∧Gr ah w1 w' xE 4 o xs.length cp (xs.map wY).flatten∧wj c B (p+1) at' xs,⟨fun w'=>w'=w4∧inc c B p,?_,?_⟩,?_⟩
   ·have sk:¬ ((B=0∧p≤1)∨(1≤B∧(B:Int)≤c.blocks∧2≤p∧p≤10)∨((B:Int)=c.blocks+1∧11≤p))→∃ xs':List Hs,xs.length=xs'.length∧Gr ah w1 w4 xE 4 o xs'.length cp (xs'.map wY).flatten∧wj c B (p+1) at' xs':=fun h=>⟨xs,rfl,hg,hI.skip hc a1 (by omega) h⟩
    have tk:((B=0∧p≤1)∨(1≤B∧(B:Int)≤c.blocks∧2≤p∧p≤10)∨((B:Int)=c.blocks+1∧11≤p))→w4=w4∧inc c B p:=fun h=>⟨rfl,h⟩
    clear hg hI a0
    refine ⟨dT fun hb=>⟨dT fun hp=>?_,dF fun hp=>⟨_,hx,bT fun he=>⟨dT fun h1=>?_,dF fun h1=>⟨dT fun h2=>⟨_,hx,dT fun h3=>⟨dT fun h4=>?_,dF fun h4=>⟨dT fun h5=>?_,dF fun h5=>?_⟩⟩,dF fun h3=>?_⟩,dF fun h2=>?_⟩⟩,bF fun he=>⟨dT fun h2=>⟨_,hx,dT fun h3=>⟨dT fun h4=>?_,dF fun h4=>⟨dT fun h5=>?_,dF fun h5=>?_⟩⟩,dF fun h3=>?_⟩,dF fun h2=>?_⟩⟩⟩,dF fun hb=>⟨_,hx,bT fun he=>⟨dT fun h1=>?_,dF fun h1=>⟨dT fun h2=>⟨_,hx,dT fun h3=>⟨dT fun h4=>?_,dF fun h4=>⟨dT fun h5=>?_,dF fun h5=>?_⟩⟩,dF fun h3=>?_⟩,dF fun h2=>?_⟩⟩,bF fun he=>⟨dT fun h2=>⟨_,hx,dT fun h3=>⟨dT fun h4=>?_,dF fun h4=>⟨dT fun h5=>?_,dF fun h5=>?_⟩⟩,dF fun h3=>?_⟩,dF fun h2=>?_⟩⟩⟩
    all_goals first|exact sk (by omega)|exact tk (by omega)
   ·rintro jk w5 ⟨rfl,a2⟩
    obtain ⟨h1,h2,h3,h4⟩:=Oq hc a1 a2
    refine ⟨_,_,_,_,_,_,⟨a0.cell 0 rfl,a0.cell 1 rfl,a0.cell 2 rfl,a0.cell 3 rfl,a0.cell 4 rfl,a0.cell 5 rfl⟩,ab (DF _ c _) ?_⟩
    rintro v w6 ⟨rfl,a7⟩
    have a6:=pL hs h1
    have a5:(side c p).1*(side c p).2=bn c p 1:=(EI c p).symm
    refine ⟨_,_,rfl,fun k w'=>w'=w6∧k=(NP B p:Int),⟨dT fun h=>⟨rfl,?_⟩,dF fun h=>⟨bT fun h'=>⟨rfl,?_⟩,bF fun h'=>⟨rfl,?_⟩⟩⟩,?_⟩
    ·unfold NP;rw [if_pos (by omega)];rfl
    ·unfold NP;rw [if_pos (by omega)];rfl
    ·have:¬ B=0:=fun e=>by subst e;unfold inc at a2;omega
     unfold NP;rw [if_neg (by omega)];omega
    rintro jk k w7 ⟨rfl,rfl⟩ w8 e8
    rw [a5] at e8
    rw [ae (x:=bn c p 1) (by omega) (by omega)] at e8
    rw [a5,ae (x:=bn c p 1) (by omega) (by omega)]
    have a8:=hI.len
    obtain ⟨o',c',w9,hr,a9,b2⟩:=(hg.aa a7).push JX Kr e8 rfl rfl (by omega) (by omega)
    have hw:IntKind.i64.wrap (at'+bn c p 1)=at'+bn c p 1:=ae (by rw [hI.pos,h2];omega) (by rw [hI.pos,h2];omega)
    rw [hw]
    refine ⟨_,_,_,_,hr,_,?_,?_,hI.take hc a1 a2⟩
    ·rw [List.length_append];rfl
    ·rw [List.length_append,List.map_append,List.flatten_append]
     exact a9
   ·rintro jk o2 n2 c5 c6 c7 ⟨b3,rfl,b4,b5⟩
    exact ⟨12-(p+1),by omega,p+1,b3,by rw [ae (by omega) (by omega)];rfl,by omega,rfl,rfl,b4,b5⟩
  ·have:p=12:=by omega
   subst this
   exact ⟨(c.blocks+2-((B+1:Nat):Int)).toNat,by omega,B+1,xs,by rw [ae (by omega) (by omega)];omega,by omega,rfl,rfl,hg,hI.next hc (by omega)⟩
 ·have b6:(B:Int)=c.blocks+2:=by omega
  have b7:at'=pi c:=by rw [hI.pos];unfold JF;rw [if_neg (by omega),if_neg (by omega),if_neg (by omega)]
  rw [b7] at hI
  have c8:=a3.size
  exact ⟨_,_,xs,B,b6,rfl,hg.rd.mono (fun i _ hi=>⟨by have:=hi.1;omega,hi.2⟩),hI,a3.ag hg.2⟩
theorem Sj (c:ep):pB c 0 0:=⟨by omega,by simp⟩
theorem LA (w:World) {c:ep} (hc:tQ c):Calls Tryz.prog vM #[.agg (zH c).toArray] w (bc fun v w'=>v = .int .i64 (pi c)∧Ch ah w w'):=by
 have hs:=hc.small
 refine yF.calls _ _ _ _ _ _ ?_
 intro w1 e1
 have hB:=ba.new e1
 refine ⟨_,_,_,_,_,_,⟨hB.cell 0 rfl,hB.cell 1 rfl,hB.cell 2 rfl,hB.cell 3 rfl,hB.cell 4 rfl,hB.cell 5 rfl⟩,ab (Gw w1 hc) ?_⟩
 rintro v w2 ⟨o,cp,xs,B,a7,rfl,hr,hI,a3⟩
 have a4:=hI.ne (by have:=hc.2.2.2.1;omega)
 have hl:0<xs.length:=List.length_pos_iff.2 a4
 have a5:=hI.len
 have a8:B≤5:=by have:=hc.2.2.2.1;omega
 refine ⟨_,_,_,rfl,fun w'=>Ch ah w2 w',fun w3 e3=>⟨Ch.drew e3,?_⟩⟩
 have hi:IntKind.i64.wrap ((xs.length:Int)-1)=((xs.length-1:Nat):Int):=by rw [ae (by omega) (by omega)];omega
 rw [hi]
 obtain ⟨a,ha,_,_,_⟩:=Rd.elem (sz:=4) (enc:=wY) hr (fun _=>rfl) (by omega) (j:=xs.length-1) (by omega)
 subst ha
 have a0:∀ w',Ch ah w2 w'→∀ q v,(wY (xs[xs.length-1]'(by omega)))[q]?=some v→w'.cell? ((a.add ((xs.length-1)*4)).add q)=some v:=fun w' a6 q v hv=>by
  obtain ⟨a',a2,_,_,h⟩:=Rd.elem (sz:=4) (enc:=wY) (hr.aa a6) (fun _=>rfl) (by omega) (j:=xs.length-1) (by omega)
  injection a2 with a2
  subst a2
  exact h q v hv
 have a1:=hI.last (xs[xs.length-1]'(by omega)) (by rw [List.getLast?_eq_getElem?,List.getElem?_eq_getElem])
 refine ⟨⟨by omega,by omega⟩,⟨by omega,by omega⟩,_,fun w' h=>a0 w' h 2 _ rfl,⟨by omega,by omega⟩,⟨by omega,by omega⟩,_,fun w' h=>a0 w' h 3 _ rfl,?_,?_⟩
 ·rw [a1]
  have:=hc.2.2.2.2.2.2.2
  have:=pL hs (Sj c)
  rw [ae (by omega) (by omega)]
 ·exact ((Ch.alloc e1).ag a3).ag (Ch.drew e3)
theorem tt (w:World) (n a b:Int):Calls Tryz.prog yI #[.int .i64 n,.int .i64 a,.int .i64 b] w (bc fun v w'=>v = .bool (decide (a≤n∧n≤b))∧w'=w):=by
 refine Ba.calls _ _ _ ?_
 refine ⟨fun h=>⟨?_,rfl⟩,fun h=>⟨?_,rfl⟩⟩
 ·have h:=dQt h
  congr 1
  by_cases h2:n≤b
  ·rw [decide_eq_true h2,decide_eq_true ⟨h,h2⟩]
  ·rw [decide_eq_false h2,decide_eq_false (fun k=>h2 k.2)]
 ·have h:=dQf h
  rw [decide_eq_false (fun k=>h k.1)]
theorem Fz (w:World) {c:ep} (hc:tQ c):Calls Tryz.prog vE #[.agg (zH c).toArray] w (bc fun v w'=>v = .bool true∧Ch ah w w'):=by
 have a0:=hc
 obtain ⟨h1,h2,h3,h4,h5,h6,h7,h8⟩:=hc
 refine yL.calls _ _ _ _ _ _ ?_
 intro w1 e1
 have hB:=ba.new e1
 have a1:Ch ah w w1:=Ch.alloc e1
 refine ⟨_,hB.cell 0 rfl,ab (tt w1 _ _ _) ?_⟩
 rintro v w2 ⟨rfl,rfl⟩
 rw [decide_eq_true h1]
 refine ⟨_,rfl,eg rfl ?_⟩
 refine ⟨_,hB.cell 1 rfl,ab (tt w2 _ _ _) ?_⟩
 rintro v w3 ⟨rfl,rfl⟩
 rw [decide_eq_true h2]
 refine ⟨_,rfl,eg rfl ?_⟩
 refine ⟨_,hB.cell 2 rfl,ab (tt w3 _ _ _) ?_⟩
 rintro v w4 ⟨rfl,rfl⟩
 rw [decide_eq_true h3]
 refine ⟨_,rfl,eg rfl ?_⟩
 refine ⟨_,hB.cell 3 rfl,ab (tt w4 _ _ _) ?_⟩
 rintro v w5 ⟨rfl,rfl⟩
 rw [decide_eq_true h4]
 refine ⟨_,rfl,eg rfl ?_⟩
 refine ⟨_,hB.cell 4 rfl,ab (tt w5 _ _ _) ?_⟩
 rintro v w6 ⟨rfl,rfl⟩
 rw [decide_eq_true h5]
 refine ⟨_,rfl,eg rfl ?_⟩
 refine ⟨_,hB.cell 5 rfl,ab (tt w6 _ _ _) ?_⟩
 rintro v w7 ⟨rfl,rfl⟩
 rw [decide_eq_true h6]
 refine ⟨_,rfl,eg rfl ?_⟩
 refine ⟨_,hB.cell 1 rfl,_,hB.cell 2 rfl,by omega,bT fun _=>?_,bF fun h=>absurd h7 h⟩
 refine ⟨_,_,_,_,_,_,⟨hB.cell 0 rfl,hB.cell 1 rfl,hB.cell 2 rfl,hB.cell 3 rfl,hB.cell 4 rfl,hB.cell 5 rfl⟩,ab (LA w7 a0) ?_⟩
 rintro v w8 ⟨rfl,a2⟩
 exact ⟨_,rfl,by rw [decide_eq_true h8],a1.ag a2⟩
theorem Fe (w:World) {c:ep} (hc:tQ c) (p:Int):Calls Tryz.prog vT #[.agg (zH c).toArray,.int .i64 p] w (bc fun v w'=>v = .tuple #[.int .i64 (side c p).1,.int .i64 (side c p).2]∧Ch ah w w'):=by
 refine yR.calls _ _ _ _ _ _ _ ?_
 intro w1 e1
 have hB:=ba.new e1
 refine ⟨_,_,_,_,_,_,⟨hB.cell 0 rfl,hB.cell 1 rfl,hB.cell 2 rfl,hB.cell 3 rfl,hB.cell 4 rfl,hB.cell 5 rfl⟩,ab (Fz w1 hc) ?_⟩
 rintro v w2 ⟨rfl,a0⟩
 have hB:=hB.aa a0
 refine ⟨_,rfl,eg rfl ⟨_,_,_,_,_,_,⟨hB.cell 0 rfl,hB.cell 1 rfl,hB.cell 2 rfl,hB.cell 3 rfl,hB.cell 4 rfl,hB.cell 5 rfl⟩,ab (DF w2 c p) ?_⟩⟩
 rintro v w3 ⟨rfl,a1⟩
 exact ⟨_,_,rfl,rfl,((Ch.alloc e1).ag a0).ag a1⟩
theorem IH (w:World) {c:ep} (hc:tQ c) {p b:Nat} (h:pB c p b):Calls Tryz.prog ud #[.agg (zH c).toArray,.int .i64 p,.int .i64 b] w (bc fun v w'=>v = .tuple #[.int .i64 (fp c p b),.int .i64 (bn c p 1),.bool true]∧Ch ah w w'):=by
 refine wR.calls _ _ _ _ _ _ _ _ ?_
 intro w1 e1
 have hB:=ba.new e1
 refine ⟨_,_,_,_,_,_,⟨hB.cell 0 rfl,hB.cell 1 rfl,hB.cell 2 rfl,hB.cell 3 rfl,hB.cell 4 rfl,hB.cell 5 rfl⟩,ab (Fz w1 hc) ?_⟩
 rintro v w2 ⟨rfl,a6⟩
 have hB:=hB.aa a6
 refine ⟨_,rfl,eg rfl ⟨_,_,_,_,_,_,⟨hB.cell 0 rfl,hB.cell 1 rfl,hB.cell 2 rfl,hB.cell 3 rfl,hB.cell 4 rfl,hB.cell 5 rfl⟩,ab (Gw w2 hc) ?_⟩⟩
 rintro v w3 ⟨o,cp,xs,B,b6,rfl,hr,hI,a8⟩
 have a9:Ch ah w w3:=((Ch.alloc e1).ag a6).ag a8
 have b2:=hI.len
 have hb:=hc.2.2.2.1
 have b7:B≤5:=by omega
 obtain ⟨x,hx,b3,b4⟩:=hI.all p b h (.inl (by
  have:=h.2
  unfold bl
  split
  ·omega
  ·split
   ·omega
   ·rw [if_neg (by omega)] at this;omega))
 refine ⟨_,_,_,rfl,fun i k w'=>w'=w3∧∃ j:Nat,i=j∧j≤xs.length∧k=xs.length-j∧∀ y∈xs.take j,¬ (y.1=p∧y.2.1=b),⟨_,rfl,0,rfl,Nat.zero_le _,rfl,fun y hy=>by simp at hy⟩,?_⟩
 rintro jk i k w4 ⟨rfl,j,rfl,hj,rfl,a3⟩
 refine ⟨dT fun a2=>?_,dF fun b8=>?_⟩
 ·have a2:j<xs.length:=by omega
  obtain ⟨a,ha,_,_,a1⟩:=Rd.elem (sz:=4) (enc:=wY) hr (fun _=>rfl) (by omega) a2
  subst ha
  have a7:=a1 0 _ rfl
  rw [cm] at a7
  have goes:¬ (xs[j].1=p∧xs[j].2.1=b)→∃ vk_1:Nat,vk_1<xs.length-j∧w4=w4∧∃ j':Nat,IntKind.i64.wrap ((j:Int)+1)=j'∧j'≤xs.length∧vk_1=xs.length-j'∧∀ y∈xs.take j',¬ (y.1=p∧y.2.1=b):=fun hn =>
   ⟨xs.length-(j+1),by omega,rfl,j+1,by rw [ae (by omega) (by omega)];rfl,a2,rfl,fun y hy=>by
    rw [au xs j a2] at hy
    rcases List.mem_append.1 hy with hy|hy
    ·exact a3 y hy
    ·rw [List.mem_singleton] at hy
     subst hy;exact hn⟩
  refine ⟨⟨by omega,by omega⟩,⟨by omega,by omega⟩,_,a7,bT fun h1=>⟨⟨by omega,by omega⟩,⟨by omega,by omega⟩,_,a1 1 _ rfl,bT fun h2=>?_,bF fun h2=>goes (fun k=>h2 k.2)⟩,bF fun h1=>goes (fun k=>h1 k.1)⟩
  obtain ⟨p',b',a4,b9⟩:=hI.ok _ (List.getElem_mem a2)
  have e1:p'=p:=by rw [a4] at h1;exact Int.ofNat.inj h1
  have e2:b'=b:=by rw [a4] at h2;exact Int.ofNat.inj h2
  subst e1;subst e2
  refine ⟨fun w'=>Ch ah w4 w',fun w5 e5=>⟨Ch.drew e5,?_⟩⟩
  have a0:∀ w',Ch ah w4 w'→∀ q v,(wY xs[j])[q]?=some v→w'.cell? ((a.add (j*4)).add q)=some v:=fun w' b5 q v hv=>by
   obtain ⟨a',a5,_,_,h⟩:=Rd.elem (sz:=4) (enc:=wY) (hr.aa b5) (fun _=>rfl) (by omega) a2
   injection a5 with a5
   subst a5
   exact h q v hv
  refine ⟨⟨by omega,by omega⟩,⟨by omega,by omega⟩,_,fun w' h=>a0 w' h 2 _ rfl,⟨by omega,by omega⟩,⟨by omega,by omega⟩,_,fun w' h=>a0 w' h 3 _ rfl,?_,a9.ag (Ch.drew e5)⟩
  rw [a4]
 ·have:j=xs.length:=by omega
  subst this
  rw [List.take_length] at a3
  exact absurd ⟨b3,b4⟩ (a3 x hx)
def sg (c:ep) (wt:ByteArray):Value := .agg (zH c++[Value.string wt]).toArray
theorem Qc {c : ep} {wt : ByteArray} (ok : tQ c) (sz : (wt.size : Int) = pi c) {p b : Nat} (hpb : pB c p b) {q : Nat} (hq : (q : Int) < (side c p).1) :
    (ks c wt p b q).length = (side c p).2.toNat ∧ (ks c wt p b q).length ≤ 1000 ∧ 0 ≤ fp c p b ∧ fp c p b ≤ 1000000 ∧ (q : Int) * (side c p).2 ≤ 1000000 ∧ 0 ≤ (q : Int) * (side c p).2 ∧ (side c p).2 ≤ bn c p 1 ∧ 0 ≤ (side c p).2 ∧
    ∀ (i : Nat) (hi : i < (ks c wt p b q).length), fp c p b + q * (side c p).2 + i < wt.size ∧ (ks c wt p b q)[i] = (if bt wt (fp c p b + q * (side c p).2 + i) > 127 then bt wt (fp c p b + q * (side c p).2 + i) - 256 else bt wt (fp c p b + q * (side c p).2 + i)) ∧ 0 ≤ bt wt (fp c p b + q * (side c p).2 + i) ∧ bt wt (fp c p b + q * (side c p).2 + i) ≤ 255 := by
  have hlen := uC ok sz hpb hq
  have hs := ok.small
  have hle := pL hs hpb
  have hsd := Du hs p
  have hspan : bn c p 1 = (side c p).1 * (side c p).2 := EI c p
  obtain ⟨R, hR⟩ := Int.eq_ofNat_of_zero_le hsd.1.1
  obtain ⟨C, hC⟩ := Int.eq_ofNat_of_zero_le hsd.2.1
  obtain ⟨F, hF⟩ := Int.eq_ofNat_of_zero_le hle.1
  have hq' : q < R := by omega
  have hmul : (q + 1) * C ≤ R * C := Nat.mul_le_mul_right _ hq'
  rw [Nat.add_mul, Nat.one_mul] at hmul
  have hRC : ((R * C : Nat) : Int) = bn c p 1 := by rw [hspan, hR, hC, Int.natCast_mul]
  have hqC : ((q * C : Nat) : Int) = (q : Int) * (C : Int) := Int.natCast_mul _ _
  rw [hC] at hlen ⊢
  rw [Int.toNat_natCast] at hlen
  rw [hF] at hle ⊢
  refine ⟨by rw [hlen]; rfl, by omega, by omega, by omega, by omega, by omega, by omega, by omega, fun i hi => ?_⟩
  have hidx : (F : Int) + (q : Int) * (C : Int) + (i : Int) = ((F + q * C + i : Nat) : Int) := by omega
  rw [hidx]
  have hlt : F + q * C + i < wt.size := by omega
  have hg := Bq ok sz hpb
  have hrow : ks c wt p b q = ft.rowAt (pY c wt p b) C q := by
    unfold ks ft.tJ
    rw [hg, decide_eq_true (show 0 ≤ (q : Int) ∧ (q : Int) < (side c p).1 by omega), hC]; rfl
  have hbt : bt wt ((F + q * C + i : Nat) : Int) = ((wt.data[F + q * C + i]'hlt).toNat : Int) := by
    unfold bt
    rw [Int.toNat_natCast]
    have hlt' : F + q * C + i < wt.data.size := hlt
    unfold Array.getD
    rw [dif_pos hlt']
    rfl
  have hu := (wt.data[F + q * C + i]'hlt).toNat_lt
  refine ⟨by omega, ?_, by rw [hbt]; omega, by rw [hbt]; omega⟩
  have hval : (ks c wt p b q)[i]? = some (IntKind.i8.wrap ((wt.data[F + q * C + i]'hlt).toNat : Int)) := by
    rw [hrow]
    unfold ft.rowAt pY ft.tK
    rw [List.getElem?_take, if_pos (by omega), List.getElem?_drop, List.getElem?_map]
    rw [hF, show ((F : Int)).toNat = F from Int.toNat_natCast F, ByteArray.data_extract, Array.toList_extract, List.extract_eq_take_drop, List.getElem?_take, if_pos (by omega), List.getElem?_drop, show F + (q * C + i) = F + q * C + i by omega]
    rw [Array.getElem?_toList, Array.getElem?_eq_getElem hlt]
    rfl
  rw [List.getElem?_eq_getElem hi] at hval
  injection hval with hval
  rw [hval, hbt]
  generalize (wt.data[F + q * C + i]'hlt).toNat = u at hu ⊢
  unfold IntKind.wrap
  simp [IntKind.bits, IntKind.signed]
  split <;> (try split) <;> omega
theorem tm (w:World) {c:ep} {wt:ByteArray} (ok:tQ c) (sz:(wt.size:Int)=pi c) {p b:Nat} (a6:pB c p b) {q:Nat} (hq:(q:Int)<(side c p).1):Calls Tryz.prog wL #[sg c wt,.int .i64 p,.int .i64 b,.int .i64 q] w (bc fun v w'=>∃ (o:OA) (cp:Nat),v = .tuple #[.slice o (ks c wt p b q).length cp,.bool true]∧Gr ah w w' bd 1 o (ks c wt p b q).length cp ((ks c wt p b q).map (.int .i64))):=by
 obtain ⟨r1,r2,r3,r4,r5,r6,r7,r8,r9⟩:=Qc ok sz a6 hq
 have hs:=ok.small
 have b5:=pL hs a6
 generalize ks c wt p b q=L at *
 refine zE.calls _ _ _ _ _ _ _ _ _ _ ?_
 intro w1 e1
 have hB:=ba.new e1
 have b2:Ch ah w w1:=Ch.alloc e1
 refine ⟨_,_,_,_,_,_,⟨hB.cell 0 rfl,hB.cell 1 rfl,hB.cell 2 rfl,hB.cell 3 rfl,hB.cell 4 rfl,hB.cell 5 rfl⟩,ab (IH w1 ok a6) ?_⟩
 rintro v w2 ⟨rfl,a7⟩
 have hB:=hB.aa a7
 refine ⟨_,_,_,rfl,_,_,_,_,_,_,⟨hB.cell 0 rfl,hB.cell 1 rfl,hB.cell 2 rfl,hB.cell 3 rfl,hB.cell 4 rfl,hB.cell 5 rfl⟩,ab (Fe w2 ok p) ?_⟩
 rintro v w3 ⟨rfl,a8⟩
 have hB:=hB.aa a8
 refine ⟨_,_,rfl,fun w4 e4=>eg rfl (eg (decide_eq_false (by omega)) (eg (decide_eq_false (by omega)) ?_))⟩
 have a9:=(b2.ag a7).ag a8
 have g0:Gr ah w3 w4 bd 1 (some ⟨w3.heap.size,0,none⟩) 0 0 []:=Gr.nG (Ch.refl _ _) e4
 refine ⟨fun o n cp i k w'=>∃ j:Nat,i=j∧n=j∧j≤L.length∧k=L.length-j∧Gr ah w3 w' bd 1 o j cp ((L.take j).map (.int .i64)),⟨_,0,rfl,rfl,Nat.zero_le _,rfl,g0⟩,?_⟩
 rintro jk o n cp i k w5 ⟨j,rfl,rfl,hj,rfl,hg⟩
 have b3:=hB.aa hg.2
 refine ⟨dT fun a5=>⟨dT fun b4=>?_,dF fun h=>by omega⟩,dF fun b6=>?_⟩
 ·have a5:n<L.length:=by omega
  obtain ⟨a1,a2,a3,a4⟩:=r9 n a5
  have hw:IntKind.i64.wrap (IntKind.i64.wrap (fp c p b+IntKind.i64.wrap ((q:Int)*(side c p).2))+(n:Int))=fp c p b+q*(side c p).2+n:=by
   rw [ae (x:=(q:Int)*(side c p).2) (by omega) (by omega),ae (x:=fp c p b+(q:Int)*(side c p).2) (by omega) (by omega),ae (by omega) (by omega)]
  refine ⟨_,b3.cell 6 rfl,?_⟩
  rw [hw,ae (x:=bt wt _) (by omega) (by omega)]
  refine ⟨⟨by omega,a1⟩,dT fun a0=>?_,dF fun a0=>?_⟩
  ·intro w6 e6
   rw [if_pos a0] at a2
   rw [ae (by omega) (by omega)] at e6
   obtain ⟨o',c',w7,hr,a0,_⟩:=hg.next (enc:=(.int .i64:Int→Value)) (L:=L) bi ay a5 (by omega) e6 (by rw [a2]) rfl (by omega)
   exact ⟨_,_,_,_,hr,L.length-(n+1),by omega,n+1,by rw [ae (by omega) (by omega)];rfl,rfl,a5,rfl,a0⟩
  ·intro w6 e6
   rw [if_neg a0] at a2
   obtain ⟨o',c',w7,hr,a0,_⟩:=hg.next (enc:=(.int .i64:Int→Value)) (L:=L) bi ay a5 (by omega) e6 (by rw [a2]) rfl (by omega)
   exact ⟨_,_,_,_,hr,L.length-(n+1),by omega,n+1,by rw [ae (by omega) (by omega)];rfl,rfl,a5,rfl,a0⟩
 ·have:n=L.length:=by omega
  subst this
  rw [List.take_length] at hg
  have b7:=a9.size
  exact ⟨_,_,rfl,hg.1.mono (fun i _ hi=>⟨by have:=hi.1;omega,hi.2⟩),a9.ag hg.2⟩
end Go.Proofs.YtkbikekbaboclaaGreat.PI
