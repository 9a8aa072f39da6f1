import Derived.Test.YtkbikekbaboclaaGreatStp2
set_option linter.unusedVariables false
set_option linter.unusedSimpArgs false
namespace Go.Proofs.YtkbikekbaboclaaGreat.qn
open Go Go.Proofs V Vc fv ee qX Go.RowKit
section
variable {W w w':World} {wb bb:Nat} {c:ep} {wt:ByteArray} {v:Value} {vs xs ys:List Int} {xss:List (List Int)} {F G:Nat→Prop} {past:List gr} {o:OA}
theorem Eo (w:World) (x:Int):Calls Tryz.prog pz #[.int .i64 x] w (bc fun v w'=>v = .bool (sat x != x)∧w'=w):=by
 refine DK.calls _ ?_
 refine ab (oL w x) ?_
 rintro v w1 ⟨rfl,rfl⟩
 exact ⟨_,rfl,rfl,rfl⟩
theorem sat_iff (x:Int):(sat x != x)=false↔(-32767≤x∧x≤32767):=by
 constructor
 ·intro h
  have h:sat x=x:=by simpa using h
  have:=Cg x
  omega
 ·intro h
  rw [Sd h.1 h.2];simp
theorem DD (hr:Rd w o (xs.map (.int .i64)) F) (hl:xs.length≤maxLen) (cc:Nat):Calls Tryz.prog 52 #[.slice o xs.length cc,.func (.func pz) #[] #[]] w (bc fun v w'=>∃ bv:Bool,v = .bool bv∧(bv=false↔AB xs)∧w'=w):=by
 refine cj.Et _ _ _ ?_
 have hi:Calls Tryz.prog 91 #[.slice o xs.length cc,.func (.func pz) #[] #[]] w (bc fun v w'=>∃ x:Int,v = .int .i64 x∧(x<0↔AB xs)∧w'=w):=by
  refine bf.Et _ _ _ ?_
  refine ⟨fun i k w'=>w'=w∧∃ j:Nat,i=j∧j≤xs.length∧k=xs.length-j∧AB (xs.take j),⟨_,rfl,0,rfl,Nat.zero_le _,rfl,fun x hx=>by simp at hx⟩,?_⟩
  rintro jk i k w1 ⟨rfl,j,rfl,hj,rfl,hs⟩
  refine ⟨fun a0=>?_,fun a1=>?_⟩
  ·have a0:j<xs.length:=by have:=dQt a0;omega
   refine ⟨⟨by omega,by omega⟩,hr.at (j:=(j:Int).toNat*1) (v := .int .i64 xs[j]) (by simp [a0]) fun p hp=>⟨_,hp,ab (Eo w1 _) ?_⟩⟩
   rintro v w2 ⟨rfl,rfl⟩
   refine ⟨_,rfl,fun hb=>⟨_,rfl,?_,rfl⟩,fun hb=>?_⟩
   ·constructor
    ·intro h;omega
    ·intro h
     have:=(sat_iff xs[j]).2 (h _ (List.getElem_mem a0))
     rw [this] at hb;cases hb
   ·refine ⟨xs.length-(j+1),by omega,rfl,j+1,by rw [ae (by omega) (by unfold maxLen at hl;omega)];rfl,a0,rfl,fun x hx=>?_⟩
    rw [au xs j a0] at hx
    rcases List.mem_append.1 hx with hx|hx
    ·exact hs x hx
    ·rw [List.mem_singleton] at hx;subst hx;exact (sat_iff _).1 hb
  ·have:j=xs.length:=by have:=dQf a1;omega
   subst this
   rw [List.take_length] at hs
   exact ⟨_,rfl,⟨fun _=>hs,fun _=>by decide⟩,rfl⟩
 refine ab hi ?_
 rintro v w1 ⟨x,rfl,hx,rfl⟩
 refine ⟨_,rfl,_,rfl,?_,rfl⟩
 rw [← hx]
 constructor
 ·intro h;have:=dQf h;omega
 ·intro h;exact decide_eq_false (by omega)
def Pw (n d:Int) (l:List (List Int)):Prop:=(l.length:Int)=n∧∀ r∈l,(r.length:Int)=d∧AB r
theorem GD {n d:Int} {l:List (List Int)} (hn:0≤n) (hd:0≤d):Pw n d l↔oO n.toNat d.toNat l:=by
 unfold Pw oO
 constructor
 ·rintro ⟨h1,h2⟩
  exact ⟨by omega,fun r hr=>⟨by have:=(h2 r hr).1;omega,(h2 r hr).2⟩⟩
 ·rintro ⟨h1,h2⟩
  exact ⟨by omega,fun r hr=>⟨by have:=(h2 r hr).1;omega,(h2 r hr).2⟩⟩
theorem CP (h:RV w v xss F) (n d:Int):Calls Tryz.prog FF #[v,.int .i64 n,.int .i64 d] w (bc fun v w'=>∃ bv:Bool,v = .bool bv∧(bv=true↔Pw n d xss)∧w'=w):=by
 obtain ⟨o,cc,us,rfl,a8,a9,hr,ha⟩:=h
 refine JZ.calls _ _ _ _ _ ?_
 have b2:xss.length≤maxLen:=Nat.le_trans a8 a9
 refine ⟨fun i k w'=>w'=w∧∃ j:Nat,i=j∧j≤xss.length∧k=xss.length-j∧∀ r∈xss.take j,(r.length:Int)=d∧AB r,⟨_,rfl,0,rfl,Nat.zero_le _,rfl,fun x hx=>by simp at hx⟩,?_⟩
 rintro jk i k w1 ⟨rfl,j,rfl,hj,rfl,hs⟩
 refine ⟨fun a0=>?_,fun b3=>?_⟩
 ·have a0:j<xss.length:=by have:=dQt a0;omega
  have a6:j<us.length:=by rw [ha.length];exact a0
  have a3:=ha.get j a6 a0
  obtain ⟨o1,c1,hu,b4,b5,b6⟩:=a3
  have a2:=List.getElem_mem a0
  refine ⟨⟨by omega,by omega⟩,hr.at (j:=(j:Int).toNat*1) (v:=us[j]) (by simp [a6]) fun p hp=>?_⟩
  rw [hu] at hp
  refine ⟨_,_,_,hp,fun a4=>⟨_,rfl,⟨(fun e=>(by cases e)),fun a1=>?_⟩,rfl⟩,fun a5=>ab (DD b6 (Nat.le_trans b4 b5) c1) ?_⟩
  ·have a4:¬ ((xss[j].length:Nat):Int)=d:=by simpa using a4
   exact absurd (a1.2 _ a2).1 a4
  ·have a5:((xss[j].length:Nat):Int)=d:=by simpa using a5
   rintro v w2 ⟨bv,rfl,a7,rfl⟩
   refine ⟨_,rfl,fun hb=>⟨_,rfl,⟨(fun e=>(by cases e)),fun a1=>?_⟩,rfl⟩,fun hb=>?_⟩
   ·have:=a7.2 (a1.2 _ a2).2
    rw [this] at hb;cases hb
   ·refine ⟨xss.length-(j+1),by omega,rfl,j+1,by rw [ae (by omega) (by unfold maxLen at b2;omega)];rfl,a0,rfl,fun x hx=>?_⟩
    rw [au xss j a0] at hx
    rcases List.mem_append.1 hx with hx|hx
    ·exact hs x hx
    ·rw [List.mem_singleton] at hx;subst hx;exact ⟨a5,a7.1 hb⟩
 ·have:j=xss.length:=by have:=dQf b3;omega
  subst this
  rw [List.take_length] at hs
  refine ⟨_,rfl,⟨fun h=>⟨eq_of_beq h,hs⟩,fun h=>?_⟩,rfl⟩
  rw [h.1];exact beq_self_eq_true _
theorem iz (h:yn w bb c wt) {p:Value × Value} {e:gr} (he:EV w p e F):Calls Tryz.prog IY #[.pointer (some ⟨bb,0,none⟩),.agg #[p.1,p.2]] w (bc fun v w'=>∃ bv:Bool,v = .bool bv∧(bv=true↔fy c e)∧Ch ah w w'):=by
 obtain ⟨a,b⟩:=p
 obtain ⟨h1,h2⟩:=he
 have k1:=h1
 have k2:=h2
 obtain ⟨o1,c1,a6,rfl,_⟩:=h1
 obtain ⟨o2,c2,a7,rfl,_⟩:=h2
 dsimp only at k1 k2 ⊢
 have a8:=h.ok.2.2.2.1
 have a9:=h.ok.2.1
 have a5:ba w bb (zH c++[.string wt]) gu:=h.r
 refine No.calls _ _ _ _ _ _ _ ?_
 intro w1 e1
 have hA:ba w1 w.heap.size [.slice o1 e.1.length c1,.slice o2 e.2.length c2] bj:=ba.new e1
 have a4:Ch ah w w1:=Ch.alloc e1
 have a0:=a5.aa a4
 refine ⟨fun w'=>Ch ah w1 w',fun w2 e2=>⟨Ch.drew e2,_,_,_,fun w' k=>(hA.aa k).cell 0 rfl,_,fun w' k=>(a0.aa k).cell 3 rfl,_,fun w' k=>(a0.aa k).cell 1 rfl,?_⟩⟩
 have hd:Ch ah w1 w2:=Ch.drew e2
 have a1:=a4.ag hd
 refine ab (CP (k1.aa a1) c.blocks c.dim) ?_
 rintro v w6 ⟨b1,rfl,a2,rfl⟩
 rw [GD (by omega) (by omega)] at a2
 refine ⟨_,rfl,hd,fun hb=>?_,fun hb=>⟨_,rfl,⟨(fun h=>(by cases h)),fun hg=>?_⟩,a1⟩⟩
 ·refine ⟨_,_,_,fun w' k=>(hA.aa k).cell 1 rfl,_,fun w' k=>(a0.aa k).cell 3 rfl,_,(a0.aa hd).cell 1 rfl,hd,ab (CP (k2.aa a1) c.blocks c.dim) ?_⟩
  rintro v w9 ⟨b2,rfl,a3,rfl⟩
  rw [GD (by omega) (by omega)] at a3
  exact ⟨_,rfl,hd,_,rfl,⟨fun h=>⟨a2.1 hb,a3.1 h⟩,fun hg=>a3.2 hg.2⟩,a1⟩
 ·have:=a2.2 hg.1
  rw [this] at hb;cases hb
theorem sT {c0:Nat} {T:Nat} (hC:ba w c0 [.pointer (some ⟨bb,0,none⟩)] T) (h:yn w bb c wt) {p:Value × Value} {e:gr} (he:EV w p e F):Calls Tryz.prog qI #[.agg #[p.1,p.2],.pointer (some ⟨c0,0,none⟩)] w (bc fun v w'=>∃ bv:Bool,v = .bool bv∧(bv=false↔fy c e)∧Ch ah w w'):=by
 have a1:=he
 obtain ⟨a,b⟩:=p
 obtain ⟨h1,h2⟩:=he
 obtain ⟨o1,c1,a3,rfl,_⟩:=h1
 obtain ⟨o2,c2,a4,rfl,_⟩:=h2
 refine FG.calls _ _ _ _ _ _ _ ?_
 intro w1 e1
 have hA:ba w1 w.heap.size [.slice o1 e.1.length c1,.slice o2 e.2.length c2] bj:=ba.new e1
 have a0:Ch ah w w1:=Ch.alloc e1
 refine ⟨_,(hC.aa a0).cell 0 rfl,_,_,_,_,_,_,⟨hA.cell 0 rfl,hA.cell 1 rfl⟩,ab (iz (p:=(.slice o1 e.1.length c1,.slice o2 e.2.length c2)) (h.aa a0) (a1.aa a0)) ?_⟩
 rintro v w2 ⟨bv,rfl,hb,a2⟩
 refine ⟨_,rfl,_,rfl,?_,a0.ag a2⟩
 rw [← hb]
 cases bv <;> simp
theorem EJ {c0:Nat} {T:Nat} (hC:ba w c0 [.pointer (some ⟨bb,0,none⟩)] T) (h:yn w bb c wt) (hp:PV w v past F):Calls Tryz.prog 148 #[v,.func (.func qI) #[] #[.pointer (some ⟨c0,0,none⟩)]] w (bc fun v w'=>∃ bv:Bool,v = .bool bv∧(bv=false↔∀ e∈past,fy c e)∧Ch ah w w'):=by
 obtain ⟨po,pc,ps,rfl,a9,b2,b3,a4⟩:=hp
 have b4:past.length≤maxLen:=Nat.le_trans a9 b2
 refine cj.Fs _ _ _ _ ?_
 unfold Vm.A1 Vm.I2;dsimp only
 have hi:Calls Tryz.prog 177 #[.slice po past.length pc,.func (.func qI) #[] #[.pointer (some ⟨c0,0,none⟩)]] w (bc fun v w'=>∃ x:Int,v = .int .i64 x∧(x<0↔∀ e∈past,fy c e)∧Ch ah w w'):=by
  refine bf.Fs _ _ _ _ ?_
  unfold Vm.A2 Vm.B Vm.Br Vm.G Vm.H Vm.M8 Vm.X;dsimp only
  refine ⟨fun i k w'=>Ch ah w w'∧∃ j:Nat,i=j∧j≤past.length∧k=past.length-j∧∀ e∈past.take j,fy c e,⟨_,Ch.refl _ _,0,rfl,Nat.zero_le _,rfl,fun x hx=>by simp at hx⟩,?_⟩
  rintro jk i k w1 ⟨a0,j,rfl,hj,rfl,hs⟩
  refine ⟨fun a1=>?_,fun b5=>?_⟩
  ·have a1:j<past.length:=by have:=dQt a1;omega
   have a5:j<ps.length:=by rw [a4.length];exact a1
   have hE:=a4.get j a5 a1
   have a2:=List.getElem_mem a1
   have a6:=au past j a1
   generalize past[j]=e at hE a2 a6
   refine ⟨⟨by omega,by omega⟩,?_⟩
   rw [Int.toNat_natCast]
   refine Rd.pair (b3.aa a0) a5 fun p h1 h2=>?_
   generalize ps[j]=pr at hE h1 h2
   have b6:=hE
   obtain ⟨a,b⟩:=pr
   obtain ⟨g1,g2⟩:=hE
   obtain ⟨o1,c1,b7,rfl,_⟩:=g1
   obtain ⟨o2,c2,b8,rfl,_⟩:=g2
   refine ⟨_,_,_,_,_,_,⟨h1,h2⟩,ab (sT (p:=(.slice o1 e.1.length c1,.slice o2 e.2.length c2)) (hC.aa a0) (h.aa a0) (b6.aa a0)) ?_⟩
   rintro v w2 ⟨bv,rfl,a7,a8⟩
   refine ⟨_,rfl,fun hb=>⟨_,rfl,?_,a0.ag a8⟩,fun hb=>?_⟩
   ·constructor
    ·intro h;omega
    ·intro a3
     have:=a7.2 (a3 _ a2)
     rw [this] at hb;cases hb
   ·refine ⟨past.length-(j+1),by omega,a0.ag a8,j+1,by rw [ae (by omega) (by unfold maxLen at b4;omega)];rfl,a1,rfl,fun x hx=>?_⟩
    rw [a6] at hx
    rcases List.mem_append.1 hx with hx|hx
    ·exact hs x hx
    ·rw [List.mem_singleton] at hx;subst hx;exact a7.1 hb
  ·have:j=past.length:=by have:=dQf b5;omega
   subst this
   rw [List.take_length] at hs
   exact ⟨_,rfl,⟨fun _=>hs,fun _=>by decide⟩,a0⟩
 refine ab hi ?_
 rintro v w1 ⟨x,rfl,hx,a0⟩
 refine ⟨_,rfl,_,rfl,?_,a0⟩
 rw [← hx]
 constructor
 ·intro h;have:=dQf h;omega
 ·intro h;exact decide_eq_false (by omega)
theorem tV (h:yn w bb c wt) (hp:PV w v past F):Calls Tryz.prog HT #[.pointer (some ⟨bb,0,none⟩),v] w (bc fun v w'=>Ch ah w w'∧((∀ e∈past,fy c e)→v = .int .i64 0)∧(¬ (∀ e∈past,fy c e)→v = .int .i64 1)):=by
 have a2:=hp
 obtain ⟨po,pc,ps,rfl,_⟩:=hp
 refine Ll.calls _ _ _ _ ?_
 intro w1 e1
 have hC:=ba.new e1
 have a0:Ch ah w w1:=Ch.alloc e1
 refine ⟨_,hC.cell 0 rfl,eg rfl (ab (EJ hC (h.aa a0) (a2.aa a0)) ?_)⟩
 rintro v w2 ⟨bv,rfl,hb,a1⟩
 refine ⟨_,rfl,fun ht=>⟨a0.ag a1,fun hg=>?_,fun _=>rfl⟩,fun hf=>⟨a0.ag a1,fun _=>rfl,fun hn=>absurd (hb.1 hf) hn⟩⟩
 have:=hb.2 hg
 rw [this] at ht;cases ht
theorem HK (h:yn w bb c wt) (n:Int):Calls Tryz.prog Fl #[.pointer (some ⟨bb,0,none⟩),.int .i64 n] w (bc fun v w'=>v = .bool (decide (0≤n∧n<c.vocab))∧w'=w):=by
 have a0:ba w bb (zH c++[.string wt]) gu:=h.r
 refine Hy.calls _ _ ?_
 refine ⟨fun h1=>⟨_,a0.cell 0 rfl,?_,rfl⟩,fun h1=>⟨?_,rfl⟩⟩
 ·have h1:=dQt h1
  congr 1
  exact decide_eq_decide.2 ⟨fun h=>⟨h1,h⟩,fun h=>h.2⟩
 ·have h1:=dQf h1
  rw [decide_eq_false (fun h=>h1 h.1)]
def RN (n:Int):Value := .tuple #[.agg #[.slice none 0 0,.slice none 0 0],.slice none 0 0,.int .i64 n]
structure Rc (c:ep) (wt:ByteArray) (past:List gr) (token:Int) (w:World) (v:Value) (w':World):Prop where
 ch:Ch ah w w'
 bad:¬ (∀ e∈past,fy c e)→v=RN 1
 rng:(∀ e∈past,fy c e)→¬ (0≤token∧token<c.vocab)→v=RN 3
 long:(∀ e∈past,fy c e)→(0≤token∧token<c.vocab)→¬ (past.length:Int)<c.context→v=RN 12
 yes:(∀ e∈past,fy c e)→(0≤token∧token<c.vocab)→(past.length:Int)<c.context→∃ (p:Value × Value) (u:Value),v = .tuple #[.agg #[p.1,p.2],u,.int .i64 0]∧EV w' p (nL c wt past token) (db w w')∧IV w' u (uR c wt past token) (db w w')
set_option maxHeartbeats 4000000 in
theorem MZ (h:yn w bb c wt) (hp:PV w v past F) (token:Int):Calls Tryz.prog CN #[.pointer (some ⟨bb,0,none⟩),v,.int .i64 token] w (bc (Rc c wt past token w)):=by
 have m:Md c wt:=⟨h.ok,h.sz⟩
 have i3:=hp
 obtain ⟨po,pc,ps,rfl,_⟩:=hp
 have k1:=m.ok.2.2.2.2.2.1
 have n3:=m.ok.2.2.2.1
 have k2:ba w bb (zH c++[.string wt]) gu:=h.r
 refine MP.calls _ _ _ _ _ ?_
 unfold Vm.A2 Vm.A9 Vm.B0 Vm.B3 Vm.B8 Vm.Br Vm.C Vm.C9 Vm.D Vm.D6 Vm.E2 Vm.F0 Vm.G Vm.G8 Vm.H2 Vm.I0 Vm.M Vm.M7 Vm.P0 Vm.P4 Vm.Q Vm.U Vm.V Vm.X Vm.Y;dsimp only
 intro w1 e1
 have d0:=ba.new e1
 have b7:Ch ah w w1:=Ch.alloc e1
 have n4:=d0.lt
 refine ab (tV (h.aa b7) (i3.aa b7)) ?_
 rintro v w2 ⟨b8,hy,k3⟩
 by_cases a0:∀ e∈past,fy c e
 case neg =>
  rw [k3 a0]
  have b4:=b8
  refine ⟨_,rfl,fun _=>?_,fun hf=>by cases hf⟩
  have hE:=d0.aa b4
  refine ⟨⟨hE.ok 0 rfl,hE.ok 1 rfl⟩,fun w3 e3=>?_⟩
  have d1:w3=_:=e3
  have b5:=(hE.set (o:=0) rfl).set d1
  have d2:Ch (·=w.heap.size) _ w3:=Ch.Dd (F:=(·=w.heap.size)) e3 rfl rfl
  refine ⟨_,_,_,_,_,_,⟨b5.cell 0 rfl,b5.cell 1 rfl⟩,?_⟩
  have d3:Ch ah w w3:=(b7.ag b4).trans d2 (fun i hi he=>by omega)
  exact ⟨d3,fun _=>rfl,fun k=>absurd k a0,fun k=>absurd k a0,fun k=>absurd k a0⟩
 rw [hy a0]
 refine ⟨_,rfl,eg rfl (ab (HK ((h.aa b7).aa b8) token) ?_)⟩
 rintro v w4 ⟨rfl,rfl⟩
 by_cases a4:0≤token∧token<c.vocab
 case neg =>
  rw [decide_eq_false a4]
  have b4:=b8
  refine ⟨_,rfl,fun _=>?_,fun hf=>by cases hf⟩
  have hE:=d0.aa b4
  refine ⟨⟨hE.ok 0 rfl,hE.ok 1 rfl⟩,fun w3 e3=>?_⟩
  have d1:w3=_:=e3
  have b5:=(hE.set (o:=0) rfl).set d1
  have d2:Ch (·=w.heap.size) _ w3:=Ch.Dd (F:=(·=w.heap.size)) e3 rfl rfl
  refine ⟨_,_,_,_,_,_,⟨b5.cell 0 rfl,b5.cell 1 rfl⟩,?_⟩
  have d3:Ch ah w w3:=(b7.ag b4).trans d2 (fun i hi he=>by omega)
  exact ⟨d3,fun k=>absurd a0 k,fun _ _=>rfl,fun _ k=>absurd k a4,fun _ k=>absurd k a4⟩
 rw [decide_eq_true a4]
 have a9:=b7.ag b8
 refine ⟨_,rfl,eg rfl ⟨_,(k2.aa a9).cell 5 rfl,fun a2=>?_,fun a2=>?_⟩⟩
 ·have a2:=dQt a2
  have b4:=b8
  have hE:=d0.aa b4
  refine ⟨⟨hE.ok 0 rfl,hE.ok 1 rfl⟩,fun w3 e3=>?_⟩
  have d1:w3=_:=e3
  have b5:=(hE.set (o:=0) rfl).set d1
  have d2:Ch (·=w.heap.size) _ w3:=Ch.Dd (F:=(·=w.heap.size)) e3 rfl rfl
  refine ⟨_,_,_,_,_,_,⟨b5.cell 0 rfl,b5.cell 1 rfl⟩,?_⟩
  have d3:Ch ah w w3:=(b7.ag b4).trans d2 (fun i hi he=>by omega)
  exact ⟨d3,fun k=>absurd a0 k,fun _ k=>absurd a4 k,fun _ _ _=>rfl,fun _ _ k=>absurd a2 (by omega)⟩
 have a2:(past.length:Int)<c.context:=by have:=dQf a2;omega
 intro w7 e7
 have g7:ba w7 w4.heap.size [.pointer (some ⟨bb,0,none⟩),.slice po past.length pc,.slice none 0 0,.slice none 0 0,.slice none 0 0] fg:=ba.new e7
 have b2:Ch ah w4 w7:=Ch.alloc e7
 have a6:=h.aa a9
 have g8:=i3.aa a9
 have k4:=g7.lt
 obtain ⟨wb,g9⟩:∃ wb:Nat,wb=w4.heap.size:=⟨_,rfl⟩
 rw [← g9] at g7 k4 ⊢
 have k5:=b8.size
 refine ab (ry (a6.aa b2) (KD c) (past.length:Int)) ?_
 rintro v w8 ⟨i4,h0⟩
 have k6:=i4
 obtain ⟨o8,c8,rfl,_⟩:=i4
 refine ⟨_,_,_,rfl,ab (ry ((a6.aa b2).aa h0) (tS c) token) ?_⟩
 rintro v w9 ⟨i5,h1⟩
 have i6:=i5
 obtain ⟨o9,c9,rfl,_⟩:=i5
 have d4:=k6.aa h1
 obtain ⟨k7,k8,i7⟩:=Bx m (k:=past.length) a2 a4
 have b9:=h0.ag h1
 have h2:=g7.aa b9
 have n5:=b9.size
 have n6:=m.ok.2.1
 obtain ⟨tr,f6⟩:∃ tr:List Int,ks c wt 0 0 token=tr:=⟨_,rfl⟩
 obtain ⟨pr,f7⟩:∃ pr:List Int,ks c wt 1 0 (past.length:Int)=pr:=⟨_,rfl⟩
 have h3:∀ x∈tr,-128≤x∧x≤127:=f6▸Ma
 have h4:∀ x∈pr,-128≤x∧x≤127:=f7▸Ma
 have d5:xF c wt past.length token=List.zipWith Fb tr pr:=by unfold xF;rw [f6,f7]
 rw [f6] at i6 k7
 rw [f7] at d4 k8
 rw [f6]
 rw [f7]
 obtain ⟨L,hL⟩:∃ L:List Int,xF c wt past.length token=L:=⟨_,rfl⟩
 rw [hL] at d5 i7
 have k9:∀ (j:Nat) (hj:j<L.length),L[j]=Fb (tr[j]'(by omega)) (pr[j]'(by omega)):=fun j hj=>by subst d5;rw [List.getElem_zipWith]
 obtain ⟨n7,n8,l1,_,_,l2⟩:=i6
 injection l1 with q1 q2 q3
 subst q1
 obtain ⟨n9,o0,l3,_,_,l4⟩:=d4
 injection l3 with q1 q2 q3
 subst q1
 have h5:tr.length=L.length:=by omega
 have d6:pr.length=L.length:=by omega
 refine ⟨_,_,_,rfl,fun i k w'=>∃ (j:Nat) (ox:OA) (cx:Nat) (X:Nat→Prop),i=j∧j≤L.length∧k=L.length-j∧ba w' wb [.pointer (some ⟨bb,0,none⟩),.slice po past.length pc,.slice ox j cx,.slice none 0 0,.slice none 0 0] fg∧V.Own w' bd 1 ox j cx ((L.take j).map (.int .i64)) X∧(∀ i,X i→db w9 w' i)∧Ch (·=wb) w9 w',⟨_,0,none,0,ah,rfl,Nat.zero_le _,rfl,h2,V.Own.nil _ _ _ _,fun i hi=>hi.elim,Ch.refl _ _⟩,?_⟩
 rintro jk i k b3 ⟨j,ox,cx,X,rfl,hj,rfl,c0,hX,c4,a7⟩
 have l5:=a7.size
 refine ⟨fun a8=>?_,fun c5=>?_⟩
 ·have a8:j<L.length:=by have:=dQt a8;rw [h5] at this;omega
  have i8:j<tr.length:=by omega
  have l6:j<pr.length:=by omega
  have d7:=l2.af a7 (fun i _ hi he=>by have:=hi.1;have:=h0.size;omega)
  have d8:=l4.af a7 (fun i _ hi he=>by have:=hi.1;omega)
  have i9:¬ X wb:=fun k=>by have:=(c4 _ k).1;omega
  have o1:=h3 _ (List.getElem_mem i8)
  have o2:=h4 _ (List.getElem_mem l6)
  have l7:=k9 j a8
  rw [h5,d6,Int.toNat_natCast]
  refine ⟨⟨by omega,by omega⟩,d7.at (j:=j*1) (v := .int .i64 tr[j]) (by simp [i8]) fun p hp=>⟨_,hp,fun w'=>Ch X b3 w',fun l8 j0=>⟨Ch.drew j0,_,_,_,fun w' k=>(c0.af k i9).cell 2 rfl,⟨by omega,by omega⟩,?_⟩⟩⟩
  refine Rd.keeps (S:=fun w'=>Ch X b3 w') (F:=db w7 w8) (enc:=Value.int .i64) (xs:=pr) (fun w' k=>(d8.af k (fun i _ hi hx=>by have:=(c4 i hx).1;have:=hi.2;have:=h1.size;omega))) (Ch.refl _ _) (j:=j*1) (by omega) fun p2 l9=>⟨_,l9,?_⟩
  simp only [Nat.mul_one]
  rw [ae (x:=tr[j]+pr[j]) (by omega) (by omega),ae (x:=16*(tr[j]+pr[j])) (by omega) (by omega)]
  refine ab (oL l8 _) ?_
  rintro v j1 ⟨rfl,rfl⟩
  have m0:sat (16*(tr[j]+pr[j]))=L[j]:=by rw [l7];rfl
  rw [m0]
  have hd:Ch ah b3 j1:=Ch.drew j0
  refine ⟨_,rfl,hd.any,fun o3 j2=>⟨(hd.ag (Ch.alloc j2)).any,?_⟩⟩
  obtain ⟨j3,j4,f8,m1,d9,e0⟩:=V.Own.pW (enc:=fun x:Int=>Value.int .i64 x) (xs:=L.take j) bi (hX.aa hd) ay L[j] j2 rfl (by unfold maxLen;omega) (by omega)
  rw [← au L j a8] at d9
  have a5:Ch X b3 f8:=hd.any.same e0
  have e2:=c0.af a5 i9
  have j5:=hd.size
  have m2:=e0.size
  refine ⟨j3,_,j4,f8,m1,a5,e2.ok 2 rfl,fun j6 f9=>?_⟩
  have h6:=e2.set f9
  have m3:j6.heap.size=f8.heap.size:=by subst f9;simp [World.setCell]
  have e4:∀ i,Ext X j1 f8 i→db w9 j6 i:=fun i hi=>by
   rcases hi with hi|hi
   ·exact ⟨(c4 i hi).1,by have:=(c4 i hi).2;omega⟩
   ·exact ⟨by have:=hi.1;omega,by have:=hi.2;omega⟩
  refine ⟨L.length-(j+1),by omega,j+1,j3,j4,_,by rw [ae (by omega) (by omega)];rfl,a8,rfl,h6,d9.af (Ch.set (F:=(·=wb)) f9 rfl) (fun i _ hi he=>by have:=(e4 i hi).1;omega),e4,?_⟩
  exact (a7.trans a5 (fun i hi hx=>by have:=(c4 i hx).1;omega)).same (Ch.set f9 rfl)
 ·have c5:j=L.length:=by have:=dQf c5;rw [h5] at this;omega
  subst c5
  rw [List.take_length] at hX
  have e5:=b2.ag b9
  have b6:Ch ah w4 b3:=e5.trans a7 (fun i hi he=>by omega)
  have m5:=e5.size
  have m6:=b2.size
  have h7:IV b3 (.slice ox L.length cx) L (RR w4 b3 wb ah ah):=(Own.iv hX).mono (fun i hi h=>⟨⟨by have:=(c4 i h).1;omega,hi⟩,by have:=(c4 i h).1;omega,id,id⟩)
  have h8:IA w4 b3 wb bb (.slice po past.length pc) ⟨L,[],[]⟩ ah ah:=⟨⟨_,none,0,[],none,0,[],c0,h7,V.Own.nil _ _ _ _,.nil,V.Own.nil _ _ _ _,.nil⟩,fun i hi=>hi.elim,fun i hi=>hi.elim,⟨by omega,by omega⟩,b6⟩
  have m7:vY c 0 ⟨L,[],[]⟩:=⟨i7,⟨rfl,fun r hr=>(by cases hr)⟩,⟨rfl,fun r hr=>(by cases hr)⟩⟩
  have e6:ba b3 bb (zH c++[.string wt]) gu:=(a6.aa b6).r
  refine ⟨_,e6.cell 3 rfl,fun i k w'=>∃ (j:Nat) (A B:Nat→Prop),i=j∧j≤c.blocks.toNat∧k=c.blocks.toNat-j∧IA w4 w' wb bb (.slice po past.length pc) (lj c wt past ⟨L,[],[]⟩ j) A B,⟨_,0,ah,ah,rfl,Nat.zero_le _,rfl,h8⟩,?_⟩
  rintro jk i k c6 ⟨j,A,B,rfl,hj,rfl,g0⟩
  have okj:=ye m a0 m7 j (by omega)
  refine ⟨fun a8=>?_,fun c5=>?_⟩
  ·have a8:(j:Int)<c.blocks:=dQt a8
   refine ab (MS m g0 a6 g8 a0 (by omega) okj a8) ?_
   rintro v o4 ⟨rfl,A',B',e8⟩
   refine ⟨rfl,ab (KS m e8 a6 (Hv m a8 okj a0) a8) ?_⟩
   rintro v o5 ⟨rfl,e9⟩
   exact ⟨rfl,c.blocks.toNat-(j+1),by omega,j+1,A',B',by rw [ae (by omega) (by omega)];rfl,by omega,rfl,e9⟩
  ·have c5:j=c.blocks.toNat:=by have:=dQf c5;omega
   subst c5
   have j5:lj c wt past ⟨L,[],[]⟩ c.blocks.toNat=si c wt past token:=by unfold si;rw [hL]
   rw [j5] at g0 okj
   have h9:=g0
   obtain ⟨⟨xv,oK,cK,uK,oV,cV,uV,g1,g2,g3,g4,g5,g6⟩,ga,gb,gn,gch⟩:=g0
   have j7:=gch.size
   have m8:ba c6 w.heap.size _ bj:=((d0.aa b8)).aa gch
   have f0:wb≠w.heap.size:=by omega
   refine ⟨fun w'=>Ch (·=w.heap.size) c6 w',fun m9 j8=>⟨Ch.drew j8,_,_,_,_,_,_,⟨fun w' k=>(g1.af k f0).cell 3 rfl,fun w' k=>(g1.af k f0).cell 4 rfl⟩,?_⟩⟩
   have hd:Ch ah c6 m9:=Ch.drew j8
   refine ab (IQ m (h9.aa hd) a6 okj) ?_
   rintro v n0 ⟨f3,i0⟩
   have n1:=f3
   obtain ⟨o6,o7,rfl,_⟩:=f3
   have a1:=hd.ag i0
   have c7:=m8.aa a1
   refine ⟨_,_,_,rfl,a1.any,⟨c7.ok 0 rfl,c7.ok 1 rfl⟩,fun j9 k0=>?_⟩
   have f4:=(c7.set (o:=0) rfl).set k0
   have a3:Ch (·=w.heap.size) n0 j9:=Ch.Dd (F:=(·=w.heap.size)) k0 rfl rfl
   have n2:=a3.size
   have i1:=a1.size
   have f5:Ch ah w j9:=((a9.ag gch).ag a1).trans a3 (fun i hi he=>by omega)
   refine ⟨_,_,_,_,_,_,⟨f4.cell 0 rfl,f4.cell 1 rfl⟩,f5,fun k=>absurd a0 k,fun _ k=>absurd a4 k,fun _ _ k=>absurd a2 k,fun _ _ _=>⟨(_,_),_,rfl,⟨?_,?_⟩,?_⟩⟩
   ·have i2:RV c6 (.slice oK (si c wt past token).K.length cK) (si c wt past token).K (fun i=>db w4 c6 i):=⟨_,_,_,rfl,g3.2.1,g3.2.2.1,g3.rd.mono (fun i _ h=>(ga i h).1),g4.imp (fun u xs k=>k.mono (fun i _ h=>h.1))⟩
    exact ((i2.aa a1).af a3 (fun i _ hi he=>by have:=hi.1;omega)).mono (fun i _ hi=>⟨by have:=hi.1;omega,by have:=hi.2;omega⟩)
   ·have i2:RV c6 (.slice oV (si c wt past token).V.length cV) (si c wt past token).V (fun i=>db w4 c6 i):=⟨_,_,_,rfl,g5.2.1,g5.2.2.1,g5.rd.mono (fun i _ h=>(gb i h).1),g6.imp (fun u xs k=>k.mono (fun i _ h=>h.1))⟩
    exact ((i2.aa a1).af a3 (fun i _ hi he=>by have:=hi.1;omega)).mono (fun i _ hi=>⟨by have:=hi.1;omega,by have:=hi.2;omega⟩)
   ·exact (n1.af a3 (fun i _ hi he=>by have:=hi.1;have:=hd.size;omega)).mono (fun i _ hi=>⟨by have:=hi.1;have:=hd.size;omega,by have:=hi.2;omega⟩)
end
end Go.Proofs.YtkbikekbaboclaaGreat.qn
