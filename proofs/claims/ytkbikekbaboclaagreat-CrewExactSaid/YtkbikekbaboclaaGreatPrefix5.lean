import Derived.Test.YtkbikekbaboclaaGreatPkX
set_option linter.unusedVariables false
set_option linter.unusedSimpArgs false
namespace Go.Proofs.YtkbikekbaboclaaGreat.dh
open Go Go.Proofs V Vc Step bh Go.RowKit
theorem KH {w w':World} {T n c:Nat} {o:OA} {gs:List za} {F:Nat→Prop} (h:Own w T 3 o n c (gs.map ly).flatten F) {a:Nat} (ha:a<gs.length) {p:Addr} (hp:o=some p) {g:za}
  (ew:w'=((w.setCell (p.add (a*3)) (.int .i64 g.ver)).setCell ((p.add (a*3)).add 1) (.slice g.to g.tn g.tc)).setCell ((p.add (a*3)).add 2) (.int .i64 g.page)) :
  Own w' T 3 o n c ((gs.set a g).map ly).flatten F∧Ch F w w':=by
 have put:∀ {w w':World} {gs:List za},Own w T 3 o n c (gs.map ly).flatten F→∀ {q:Nat} {v:Value} {g:za} (ha:a<gs.length),q<3→w'=w.setCell ((p.add (a*3)).add q) v→ly g=(ly gs[a]).set q v →
   Own w' T 3 o n c ((gs.set a g).map ly).flatten F∧Ch F w w':=by
  intro w w' gs h q v g ha hq ew hg
  rw [add_add] at ew
  have a0:(gs.map ly).flatten.length=gs.length*3:=by
   rw [List.length_flatten,List.map_map]
   have:(List.length ∘ ly)=fun _=>3:=by funext x;rfl
   rw [this,List.map_const'];simp
  obtain ⟨h1,h2⟩:=h.set (by rw [a0];omega) hp ew
  rw [sG (enc:=ly) gs (fun _=>rfl) ha hg hq] at h1
  exact ⟨h1,h2⟩
 have h0:w.setCell (p.add (a*3)) (.int .i64 g.ver)=w.setCell ((p.add (a*3)).add 0) (.int .i64 g.ver):=by rw [cm]
 rw [h0] at ew
 obtain ⟨a1,b1⟩:=put h (g:=⟨g.ver,gs[a].to,gs[a].tn,gs[a].tc,gs[a].page⟩) ha (q:=0) (by omega) rfl rfl
 have a4:a<(gs.set a ⟨g.ver,gs[a].to,gs[a].tn,gs[a].tc,gs[a].page⟩).length:=by rw [List.length_set];exact ha
 obtain ⟨a2,b2⟩:=put a1 (g:=⟨g.ver,g.to,g.tn,g.tc,gs[a].page⟩) a4 (q:=1) (by omega) rfl (by rw [List.getElem_set_self];rfl)
 rw [List.set_set] at a2
 have a5:a<(gs.set a ⟨g.ver,g.to,g.tn,g.tc,gs[a].page⟩).length:=by rw [List.length_set];exact ha
 obtain ⟨a3,b3⟩:=put a2 (g:=g) a5 (q:=2) (by omega) ew (by rw [List.getElem_set_self];rfl)
 rw [List.set_set] at a3
 exact ⟨a3,(b1.same b2).same b3⟩
structure GH (w:World) (pb xb c0 c1 k:Nat) (B:Int) (v:Int) (ps:List ak) (FP Fa:Nat→Prop):Prop where
 p:dk w pb ps FP
 lt:∀ i,FP i→i<w.heap.size
 g:bh.Good k B ps
 b0:∃ T,ba w c0 [.int .i64 v] T
 b1:∃ T,ba w c1 [.pointer (some ⟨xb,0,none⟩)] T
 bx:∃ sv,ba w xb [.pointer (some ⟨pb,0,none⟩),sv] mf
 n:¬ FP c0∧¬ FP c1∧¬ FP xb∧¬ Fa c0∧¬ Fa c1∧¬ Fa xb
 ap:jo Fa FP
section
variable {w w':World} {pb xb c0 c1 k n:Nat} {B v:Int} {ps ps':List ak} {es:List bw} {FP Fa Fd G:Nat→Prop} {o:OA} {c:Nat} {gs:List za}
theorem GH.Rw (h:GH w pb xb c0 c1 k B v ps FP Fa) (hc:Ch G w w') (hG:∀ i,G i→FP i∨Fa i) (hp:dk w' pb ps' FP) (hg:bh.Good k B ps'):GH w' pb xb c0 c1 k B v ps' FP Fa:=by
 obtain ⟨n1,n2,n3,n4,n5,n6⟩:=h.n
 have no:∀ i,¬ FP i→¬ Fa i→¬ G i:=fun i a b hi=>(hG i hi).elim a b
 refine ⟨hp,fun i hi=>Nat.lt_of_lt_of_le (h.lt i hi) hc.size,hg,?_,?_,?_,h.n,h.ap⟩
 ·obtain ⟨T,hb⟩:=h.b0;exact ⟨T,hb.af hc (no _ n1 n4)⟩
 ·obtain ⟨T,hb⟩:=h.b1;exact ⟨T,hb.af hc (no _ n2 n5)⟩
 ·obtain ⟨T,hb⟩:=h.bx;exact ⟨T,hb.af hc (no _ n3 n6)⟩
theorem GH.tG (h:GH w pb xb c0 c1 k B v ps FP Fa) (hc:Ch Fa w w'):GH w' pb xb c0 c1 k B v ps FP Fa :=
 h.Rw hc (fun i hi => .inr hi) (h.p.af hc (fun i _ a b=>h.ap i b a)) h.g
theorem GH.aa (h:GH w pb xb c0 c1 k B v ps FP Fa) (hc:Ch ah w w'):GH w' pb xb c0 c1 k B v ps FP Fa:=h.tG hc.any
theorem GH.call (h:GH w pb xb c0 c1 k B v ps FP Fa) (hk:k≤1000) (hB:0≤B∧B≤1000000000) {g:za} {e:bw} (he:pq w g e Fd) :
  Calls Tryz.prog gd #[.agg #[.int .i64 g.ver,.slice g.to g.tn g.tc,.int .i64 g.page],.pointer (some ⟨c0,0,none⟩),.pointer (some ⟨c1,0,none⟩)] w
   (bc fun x w'=>x = .bool (e.ver==v)∧GH w' pb xb c0 c1 k B v (FD v ps e) FP Fa∧Ch FP w w'):=by
 obtain ⟨T0,a0⟩:=h.b0
 obtain ⟨T1,a1⟩:=h.b1
 obtain ⟨sv,a2⟩:=h.bx
 refine ab (Ea he h.p h.lt h.g hk hB a0 a1 a2 h.n.1 h.n.2.1 h.n.2.2.1) ?_
 rintro x w1 ⟨rfl,hr,hc⟩
 refine ⟨rfl,h.Rw hc (fun i hi => .inl hi) hr ?_,hc⟩
 unfold FD
 split
 ·exact tZ h.g hB.1 _
 ·exact h.g
def pw (v:Int) (g:za):Bool:=!(g.ver==v)
def js (v:Int) (e:bw):Bool:=!(e.ver==v)
theorem DV (v:Int) (ps:List ak):∀ l:List bw,(∀ e∈l,(e.ver==v)=false)→uL v ps l=ps
 | [],_=>rfl
 | e :: r,h=>by
  have:uL v ps (e :: r)=uL v (FD v ps e) r:=rfl
  rw [this]
  have h1:FD v ps e=ps:=by unfold FD;rw [h e (by simp),if_neg Bool.false_ne_true]
  rw [h1];exact DV v ps r (fun x hx=>h x (by simp [hx]))
theorem FY (h:GH w pb xb c0 c1 k B v ps FP Fa) (hk:k≤1000) (hB:0≤B∧B≤1000000000) (hO:Own w ct 3 o n c (gs.map ly).flatten Fa) (hl:gs.length=n) (hA:df (fun g e=>pq w g e Fd) gs es) (hd:jo Fd FP) :
  Calls Tryz.prog 103 #[.slice o n c,.func (.func gd) #[] #[.pointer (some ⟨c0,0,none⟩),.pointer (some ⟨c1,0,none⟩)]] w
   (bc fun x w'=>(∃ j:Nat,j<n∧x = .int .i64 j∧(∀ m (hm:m<j) (h2:m<es.length),(es[m].ver==v)=false)∧(∃ h2:j<es.length,(es[j].ver==v)=true)∧GH w' pb xb c0 c1 k B v (uL v ps (es.take (j+1))) FP Fa∧Ch FP w w') ∨
    (x = .int .i64 (-1)∧(∀ e∈es,(e.ver==v)=false)∧GH w' pb xb c0 c1 k B v ps FP Fa∧Ch FP w w')):=by
 refine bf.Fw _ _ _ _ _ ?_
 have a8:n≤maxLen:=Nat.le_trans hO.2.1 hO.2.2.1
 unfold maxLen at a8
 have b3:=hA.length
 refine ⟨fun i f w'=>∃ j:Nat,i=j∧j≤n∧f=n-j∧(∀ m (hm:m<j) (h2:m<es.length),(es[m].ver==v)=false)∧GH w' pb xb c0 c1 k B v ps FP Fa∧Ch FP w w',⟨_,0,rfl,Nat.zero_le _,rfl,fun m hm=>by omega,h,Ch.refl _ _⟩,?_⟩
 rintro jk i f w1 ⟨j,rfl,hj,rfl,a1,hD,hc⟩
 have a3:∀ e∈es.take j,(e.ver==v)=false:=fun e he=>by
  obtain ⟨m,hm,rfl⟩:=List.getElem_of_mem he
  rw [List.length_take] at hm
  rw [List.getElem_take]
  exact a1 m (by omega) (by omega)
 refine ⟨fun a2=>?_,fun a9=>?_⟩
 ·have a2:j<n:=by have:=dQt a2;omega
  have a6:j<gs.length:=by omega
  have a4:j<es.length:=by omega
  obtain ⟨q,hq,_,_,a0⟩:=(hO.af hc (fun i _ a b=>h.ap i a b)).rd.elem (sz:=3) (enc:=ly) (fun _=>rfl) (by omega) a6
  subst hq
  have k0:=a0 0 _ rfl
  rw [cm] at k0
  refine ⟨⟨by omega,by omega⟩,_,_,_,_,_,⟨k0,a0 1 _ rfl,a0 2 _ rfl⟩,?_⟩
  refine ab (hD.call hk hB ((hA.get j a6 a4).af hc (fun i _ a b=>hd i a b))) ?_
  rintro x w2 ⟨rfl,a5,a7⟩
  refine ⟨_,rfl,fun hb => .inl ⟨j,a2,rfl,a1,⟨a4,hb⟩,?_,hc.same a7⟩,fun hb=>⟨n-(j+1),by omega,j+1,by rw [ae (by omega) (by omega)];rfl,a2,rfl,fun m hm h2=>?_,?_,hc.same a7⟩⟩
  ·rw [au es j a4,Es,DV v ps _ a3];exact a5
  ·by_cases b2:m=j
   ·subst b2;exact hb
   ·exact a1 m (by omega) h2
  ·have:FD v ps es[j]=ps:=by unfold FD;rw [hb,if_neg Bool.false_ne_true]
   rw [this] at a5;exact a5
 ·have b4:j=n:=by have:=dQf a9;omega
  refine .inr ⟨rfl,fun e he=>?_,hD,hc⟩
  obtain ⟨m,hm,rfl⟩:=List.getElem_of_mem he
  exact a1 m (by omega) hm
theorem Di (h:GH w pb xb c0 c1 k B v ps FP Fa) (hk:k≤1000) (hB:0≤B∧B≤1000000000) (hO:Own w ct 3 o n c (gs.map ly).flatten Fa) (hl:gs.length=n) (hn:n≤1000) (hA:df (fun g e=>pq w g e Fd) gs es) (hd:jo Fd FP) (f5:jo Fd Fa) (f6:∀ i,Fa i→i<w.heap.size) :
  Calls Tryz.prog 86 #[.slice o n c,.func (.func gd) #[] #[.pointer (some ⟨c0,0,none⟩),.pointer (some ⟨c1,0,none⟩)]] w
   (bc fun x w'=>x = .slice o (gs.filter (pw v)).length c∧Own w' ct 3 o (gs.filter (pw v)).length c ((gs.filter (pw v)).map ly).flatten Fa∧GH w' pb xb c0 c1 k B v (uL v ps es) FP Fa∧Ch (fun i=>FP i∨Fa i) w w'):=by
 have g9:=hA.length
 have a1:∀ (j:Nat) (h1:j<gs.length) (h2:j<es.length),pw v gs[j]=!(es[j].ver==v):=fun j h1 h2=>by
  have:=(hA.get j h1 h2).1
  unfold pw;rw [this]
 refine AZ.Fw _ _ _ _ _ ?_
 refine ab (FY h hk hB hO hl hA hd) ?_
 rintro x w1 (⟨j0,h0,rfl,b3,⟨d0,b4⟩,c6,a8⟩|⟨rfl,b3,c6,a8⟩)
 rotate_left
 ·have d1:gs.filter (pw v)=gs:=List.filter_eq_self.2 (fun g hg=>by
   obtain ⟨m,hm,rfl⟩:=List.getElem_of_mem hg
   rw [a1 m hm (by omega),b3 _ (List.getElem_mem _)];rfl)
  rw [d1]
  refine ⟨_,rfl,pj (by decide) ⟨by rw [hl],?_,?_,a8.mono (fun i _ hi => .inl hi)⟩⟩
  ·rw [hl];exact hO.af a8 (fun i _ a b=>h.ap i a b)
  ·rw [DV v ps es b3];exact c6
 refine ⟨_,rfl,eg (by simp) ?_⟩
 have e0:=hO.af a8 (fun i _ a b=>h.ap i a b)
 have b5:(gs.take (j0+1)).filter (pw v)=gs.take j0:=by
  have a6:j0<gs.length:=by omega
  rw [au gs j0 a6,List.filter_append]
  have h2:(gs.take j0).filter (pw v)=gs.take j0:=List.filter_eq_self.2 (fun g hg=>by
   obtain ⟨m,hm,rfl⟩:=List.getElem_of_mem hg
   rw [List.length_take] at hm
   rw [List.getElem_take,a1 m (by omega) (by omega),b3 m (by omega) (by omega)];rfl)
  have h3:pw v gs[j0]=false:=by rw [a1 j0 a6 d0,b4];rfl
  rw [h2,List.filter_cons,h3];simp
 refine ⟨fun i j f w'=>∃ (a b:Nat) (gs':List za),i=a∧j=b∧a<b∧b≤n∧f=n-b∧gs'.length=n∧gs'.take a=(gs.take b).filter (pw v)∧gs'.drop b=gs.drop b∧Own w' ct 3 o n c (gs'.map ly).flatten Fa ∧
  GH w' pb xb c0 c1 k B v (uL v ps (es.take b)) FP Fa∧Ch (fun i=>FP i∨Fa i) w w',⟨_,j0,j0+1,gs,rfl,by rw [ae (by omega) (by omega)];rfl,by omega,by omega,rfl,hl,b5.symm,rfl,e0,c6,a8.mono (fun i _ hi => .inl hi)⟩,?_⟩
 clear e0 c6 a8 b5 b4 b3
 rintro jk i j f w2 ⟨a,b,gs',rfl,rfl,h4,hb,rfl,e1,b6,e2,c7,c8,d2⟩
 refine ⟨fun a6=>?_,fun f7=>?_⟩
 ·have a6:b<n:=by have:=dQt a6;omega
  have e7:b<gs'.length:=by omega
  have a3:b<gs.length:=by omega
  have d3:b<es.length:=by omega
  have f8:gs'[b]=gs[b]:=by
   have h1:gs'[b]?=gs[b]?:=by
    have:=congrArg (fun l=>l[0]?) e2
    simpa using this
   rw [List.getElem?_eq_getElem e7,List.getElem?_eq_getElem a3] at h1
   exact Option.some.inj h1
  obtain ⟨q,hq,_,_,a0⟩:=c7.rd.elem (sz:=3) (enc:=ly) (fun _=>rfl) (by omega) e7
  have d4:(b:Int).toNat=b:=Int.toNat_natCast b
  have c9:(a:Int).toNat=a:=Int.toNat_natCast a
  rw [f8] at a0
  subst hq
  have k0:=a0 0 _ rfl
  rw [cm] at k0
  refine ⟨⟨by omega,by omega⟩,_,_,_,_,_,⟨by rw [d4];exact k0,by rw [d4];exact a0 1 _ rfl,by rw [d4];exact a0 2 _ rfl⟩,fun w3 e3=>?_⟩
  have b7:=ba.new e3
  refine ⟨⟨b7.ok 0 rfl,b7.ok 1 rfl,b7.ok 2 rfl⟩,fun w4 e4=>?_⟩
  have e5:w4=w3.setCells w2.heap.size 0 (ly gs[b]):=e4
  have a4:=b7.all (ly gs[b]) rfl e5
  have a4:ba w4 w2.heap.size (ly gs[b]) ct:=a4
  have a7:Ch ah w2 w4:=(Ch.alloc (F:=ah) e3).trans (Ch.fr (F:=(·=w2.heap.size)) e5 rfl) (fun i hi he=>by omega)
  have f9:=a4.lt
  clear e3 e4 e5 b7 a0 k0
  have nP:¬ FP w2.heap.size:=fun hf=>Nat.lt_irrefl _ (c8.lt _ hf)
  have nA:¬ Fa w2.heap.size:=fun hf=>by have:=f6 _ hf;have:=d2.size;omega
  generalize w2.heap.size=eb at a4 f9 nP nA ⊢
  have b8:Ch (fun i=>FP i∨Fa i) w w4:=d2.ag a7
  have d5:pq w4 gs[b] es[b] Fd:=(hA.get b a3 d3).af b8 (fun i _ x y=>y.elim (hd i x) (f5 i x))
  have a5:=a1 b a3 d3
  have a2:(gs.take (b+1)).filter (pw v)=(gs.take b).filter (pw v)++(if pw v gs[b] then [gs[b]] else []):=by
   rw [au gs b a3,List.filter_append,List.filter_cons]
   split <;> simp
  have b9:es.take (b+1)=es.take b++[es[b]]:=au es b d3
  have c4:gs'.drop (b+1)=gs.drop (b+1):=by
   have:=congrArg (List.drop 1) e2
   simpa [List.drop_drop,Nat.add_comm] using this
  generalize gs[b]=g at a4 d5 a5 a2
  generalize es[b]=e at d5 a5 b9
  refine ⟨_,_,_,_,_,⟨a4.cell 0 rfl,a4.cell 1 rfl,a4.cell 2 rfl⟩,?_⟩
  refine ab ((c8.aa a7).call hk hB d5) ?_
  rintro x w5 ⟨rfl,d6,d7⟩
  rw [← Es,← b9] at d6
  have d8:=a4.af d7 nP
  have a9:=(c7.aa a7).af d7 (fun i _ x y=>h.ap i x y)
  have c5:Ch (fun i=>FP i∨Fa i) w w5:=b8.trans d7 (fun i _ hi => .inl hi)
  refine ⟨_,rfl,fun d9=>?_,fun d9=>?_⟩
  ·rw [a5,d9,if_pos rfl] at a2
   have b2:a<gs'.length:=by omega
   obtain ⟨q',g0,_⟩:=a9.rd.elem (sz:=3) (enc:=ly) (fun _=>rfl) (by omega) b2
   have g1:q=q':=Option.some.inj g0
   subst g1
   have f0:=dp (enc:=ly) (sz:=3) (q:=0) gs' (fun _=>rfl) b2 (by omega)
   have f1:=dp (enc:=ly) (sz:=3) (q:=1) gs' (fun _=>rfl) b2 (by omega)
   have f2:=dp (enc:=ly) (sz:=3) (q:=2) gs' (fun _=>rfl) b2 (by omega)
   rw [Nat.add_zero] at f0
   refine ⟨_,_,_,_,_,⟨d8.cell 0 rfl,d8.cell 1 rfl,d8.cell 2 rfl⟩,⟨by omega,by omega⟩,?_⟩
   rw [c9]
   refine ⟨⟨a9.ok f0 rfl,by rw [add_add];exact a9.ok f1 rfl,by rw [add_add];exact a9.ok f2 rfl⟩,fun w6 e6=>?_⟩
   obtain ⟨g2,e8⟩:=KH a9 b2 rfl (g:=g) e6
   refine ⟨n-(b+1),by omega,a+1,b+1,gs'.set a g,by rw [ae (by omega) (by omega)];rfl,by rw [ae (by omega) (by omega)];rfl,by omega,a6,rfl,by rw [List.length_set];exact e1,?_,?_,g2,d6.tG e8,c5.trans e8 (fun i _ hi => .inr hi)⟩
   ·rw [a2,← b6,au _ a (by rw [List.length_set];exact b2),List.getElem_set_self,List.take_set_of_le (Nat.le_refl _)]
   ·rw [List.drop_set_of_lt (by omega)];exact c4
  ·have g3:pw v g=false:=by rw [a5];simpa using d9
   rw [g3,if_neg Bool.false_ne_true,List.append_nil] at a2
   exact ⟨n-(b+1),by omega,a,b+1,gs',rfl,by rw [ae (by omega) (by omega)];rfl,by omega,a6,rfl,e1,by rw [a2];exact b6,c4,a9,d6,c5⟩
 ·have g4:b=n:=by have:=dQf f7;omega
  subst g4
  have g5:gs.take b=gs:=List.take_of_length_le (by omega)
  have g6:es.take b=es:=List.take_of_length_le (by omega)
  rw [g5] at b6
  rw [g6] at c8
  have c9:(a:Int).toNat=a:=Int.toNat_natCast a
  have e9:a=(gs.filter (pw v)).length:=by rw [← b6,List.length_take];omega
  have hz:Ke Tryz.prog ct=true:=by kernel_rfl
  obtain ⟨x,w3,g7,f3,f4⟩:=c7.clear lv hz (i:=a) (by omega) 0
  have g8:=c7.2.1
  refine ⟨⟨by omega,by omega⟩,x,w3,by rw [c9];exact g7,⟨by omega,by omega⟩,?_,?_,c8.tG f4,d2.trans f4 (fun i _ hi => .inr hi)⟩
  ·rw [c9,← e9,Nat.sub_zero,Nat.sub_zero,RP]
  ·rw [oM (enc:=ly) (sz:=3) (fun _=>rfl),b6,e9] at f3
   exact f3
end
section
variable {W w:World} {pb xb k:Nat} {B:Int} {ps:List ak} {es:List bw} {FP FI:Nat→Prop}
theorem Kb (h:PX W w pb xb k B ps es FP FI) (hB:0≤B∧B≤1000000000) (hk:k≤1000) (hn:es.length<1000) (v:Int) :
  Calls Tryz.prog vI #[.pointer (some ⟨xb,0,none⟩),.int .i64 v] w (bc fun x w'=>x = .int .i64 ((es.length:Int)-(es.filter (js v)).length)∧PX W w' pb xb k B (uL v ps es) (es.filter (js v)) FP FI∧Ch (fun i=>FI i∨FP i) w w'):=by
 refine yS.calls _ _ ?_
 intro w1 e1 w2 e2
 have a6:=(ba.new e1).alloc e2
 have a9:=ba.new e2
 have d0:w.heap.size<w1.heap.size:=(ba.new e1).lt
 have d1:w1.heap.size<w2.heap.size:=a9.lt
 have a7:Ch ah w w2:=(Ch.alloc e1).ag (Ch.alloc e2)
 have h2:=h.aa a7
 have nI:∀ i,w.heap.size≤i→¬ FI i:=fun i hi hf=>by have:=h.lt i hf;omega
 have nP:∀ i,w.heap.size≤i→¬ FP i:=fun i hi hf=>by have:=h.p.lt i hf;omega
 have b9:(es.filter (js v)).length≤es.length:=List.length_filter_le _ _
 refine ⟨_,a6.cell 0 rfl,?_⟩
 refine ab (tD h2.x) ?_
 rintro x w3 ⟨rfl,rfl⟩
 refine ⟨_,rfl,fun h0=>?_,fun h0=>?_⟩
 ·have he:es=[]:=List.eq_nil_of_length_eq_zero (by
   have:(es.length:Int)=0:=by simpa using h0
   omega)
  subst he
  exact ⟨rfl,h2,a7.any⟩
 obtain ⟨o,c,gs,R,hC,hF,hA⟩:=h2.x
 have b2:=hF 0 xb hC.z
 have a3:¬ R 1 xb:=fun hx=>hC.fam.2 0 1 (by omega) xb hC.z hx
 have a4:∀ k i,R k i→¬ FP i:=fun k i hi=>h.ap i (hF k i hi)
 have b3:¬ R 1 w.heap.size:=fun hi=>nI _ (Nat.le_refl _) (hF 1 _ hi)
 have c4:¬ R 1 w1.heap.size:=fun hi=>nI _ (by omega) (hF 1 _ hi)
 refine ⟨fun w'=>Ch (fun i=>FP i∨R 1 i) w3 w',fun w4 e4=>⟨Ch.drew e4,?_⟩⟩
 have nox:¬ (FP w.heap.size∨R 1 w.heap.size):=fun hh=>hh.elim (nP _ (Nat.le_refl _)) b3
 have nob:¬ (FP xb∨R 1 xb):=fun hh=>hh.elim (a4 0 xb hC.z) a3
 refine ⟨_,fun w' hc=>(a6.af hc nox).cell 0 rfl,_,fun w' hc=>(a6.af hc nox).cell 0 rfl,_,_,_,fun w' hc=>(hC.blk.af hc nob).cell 1 rfl,?_⟩
 have a0:Ch ah w3 w4:=Ch.drew e4
 have h4:=h2.aa a0
 have hD:GH w4 pb xb w1.heap.size w.heap.size k B v ps FP (R 1):=⟨h4.p.r,h4.p.lt,h4.g,⟨_,a9.aa a0⟩,⟨_,a6.aa a0⟩,⟨_,hC.blk.aa a0⟩,⟨nP _ (by omega),nP _ (Nat.le_refl _),a4 0 xb hC.z,c4,b3,a3⟩,fun i hi=>a4 1 i hi⟩
 have b4:df (fun g e=>pq w4 g e (R 2)) gs es:=hA.imp (fun _ _ k=>k.aa a0)
 refine ab (Di hD hk hB (hC.own.aa a0) hC.len (by omega) b4 (fun i hi=>a4 2 i hi) (hC.fam.2 2 1 (by omega)) (fun i hi=>by have:=hC.fam.1 1 i hi;have:=a0.size;omega)) ?_
 rintro x w8 ⟨rfl,c5,b5,b6⟩
 have a1:Ch (fun i=>FP i∨R 1 i) w3 w8:=(a0.any (F:=fun i=>FP i∨R 1 i)).same b6
 have c6:=a6.af a1 nox
 have b7:=hC.blk.af a1 nob
 refine ⟨_,_,_,rfl,a1,b7.ok 1 rfl,fun w9 e9=>?_⟩
 have a5:Ch (·=xb) w8 w9:=Ch.set (p:=⟨xb,1,none⟩) e9 rfl
 have c7:=b7.set e9
 have b8:df (fun g e=>pq w4 g e (R 2)) (gs.filter (pw v)) (es.filter (js v)):=df.filter (fun g e hq=>by unfold pw js;rw [hq.1]) b4
 have a8:=b8.length
 have c8:yZ w9 xb pb (es.filter (js v)) FI:=by
  refine ⟨o,c,gs.filter (pw v),R,⟨(hC.fam.le a1.size).le a5.size,hC.z,?_,?_,a8⟩,hF,?_⟩
  ·rw [← a8];exact c7
  ·rw [← a8];exact c5.af a5 (fun i _ hi he=>a3 (he▸hi))
  ·exact b8.imp (fun g e hq=>(hq.af b6 (fun i _ a b=>b.elim (a4 2 i a) (fun b=>hC.fam.2 2 1 (by omega) i a b))).af a5 (fun i _ a b=>hC.fam.2 2 0 (by omega) i a (b▸hC.z)))
 have a2:Ch (fun i=>FI i∨FP i) w3 w9:=(a1.mono (fun i _ hi=>hi.elim .inr (fun hi => .inl (hF 1 i hi)))).trans a5 (fun i _ hi => .inl (hi▸b2))
 have c9:dk w9 pb (uL v ps es) FP:=b5.p.af a5 (fun i _ hi he=>a4 0 xb hC.z (he▸hi))
 have h9:PX W w9 pb xb k B (uL v ps es) (es.filter (js v)) FP FI:=⟨⟨c9,h2.p.f.le a2.size,h2.p.c.trans a2 (fun i hi hf=>hf.elim (fun hf=>absurd hi (Nat.not_lt.2 (h2.f i hf).1)) (fun hf=>absurd hi (Nat.not_lt.2 (h2.p.f i hf).1)))⟩,c8,b5.g,h2.f.le a2.size,h2.ap⟩
 refine ⟨_,(c6.af a5 (fun he=>nI _ (Nat.le_refl _) (he▸b2))).cell 0 rfl,?_⟩
 refine ab (tD h9.x) ?_
 rintro x d2 ⟨rfl,rfl⟩
 exact ⟨_,rfl,by rw [ae (by omega) (by omega)],h9,(a7.any (F:=fun i=>FI i∨FP i)).same a2⟩
end
end Go.Proofs.YtkbikekbaboclaaGreat.dh
