import Derived.Test.YtkbikekbaboclaaGreatPkL
import Derived.Test.YtkbikekbaboclaaGreatCut
import Derived.Test.YtkbikekbaboclaaGreatPkVa
set_option linter.unusedVariables false
set_option linter.unusedSimpArgs false
namespace Go.Proofs.YtkbikekbaboclaaGreat.dh
open Go Go.Proofs V Vc Step bh Go.RowKit
structure bw where
 ver:Int
 dg:List Int
 page:Int
structure za where
 ver:Int
 to:OA
 tn:Nat
 tc:Nat
 page:Int
def ly (g:za):List Value:=[.int .i64 g.ver,.slice g.to g.tn g.tc,.int .i64 g.page]
def pq (w:World) (g:za) (e:bw) (Fd:Nat→Prop):Prop:=g.ver=e.ver∧g.page=e.page∧g.tn=e.dg.length∧Rd w g.to (e.dg.map (.int .i64)) Fd∧e.dg.length≤1000
theorem pq.af {w w':World} {g:za} {e:bw} {Fd G:Nat→Prop} (h:pq w g e Fd) (hc:Ch G w w') (hd:∀ i,i<w.heap.size→Fd i→¬ G i):pq w' g e Fd:=⟨h.1,h.2.1,h.2.2.1,h.2.2.2.1.af hc hd,h.2.2.2.2⟩
theorem pq.aa {w w':World} {g:za} {e:bw} {Fd:Nat→Prop} (h:pq w g e Fd) (hc:Ch ah w w'):pq w' g e Fd:=h.af hc (fun _ _ _=>id)
theorem pq.mono {w:World} {g:za} {e:bw} {Fd G:Nat→Prop} (h:pq w g e Fd) (hg:∀ i,i<w.heap.size→Fd i→G i):pq w g e G:=⟨h.1,h.2.1,h.2.2.1,h.2.2.2.1.mono hg,h.2.2.2.2⟩
structure Qr (w:World) (xb pb:Nat) (o:OA) (c:Nat) (gs:List za) (R:Nat→Nat→Prop) (n:Nat):Prop where
 fam:Dy w R
 z:R 0 xb
 blk:ba w xb [.pointer (some ⟨pb,0,none⟩),.slice o n c] mf
 own:Own w ct 3 o n c (gs.map ly).flatten (R 1)
 len:gs.length=n
def yZ (w:World) (xb pb:Nat) (es:List bw) (F:Nat→Prop):Prop :=
 ∃ (o:OA) (c:Nat) (gs:List za) (R:Nat→Nat→Prop),Qr w xb pb o c gs R es.length∧(∀ k i,R k i→F i)∧df (fun g e=>pq w g e (R 2)) gs es
def hasB (v:Int) (t:List Int) (e:bw):Bool:=(e.ver==v)&&decide (e.dg=t)
def qe (es:List bw) (v:Int) (t:List Int):Int:=if es.findIdx (hasB v t)<es.length then (es.findIdx (hasB v t):Int) else -1
section
variable {w w':World} {xb pb:Nat} {o:OA} {c n:Nat} {gs:List za} {R:Nat→Nat→Prop} {es:List bw} {F G Fa Fd:Nat→Prop} {t:List Int}
theorem Qr.af (h:Qr w xb pb o c gs R n) (hc:Ch G w w') (hd:∀ k i,R k i→¬ G i):Qr w' xb pb o c gs R n :=
 ⟨h.fam.le hc.size,h.z,h.blk.af hc (hd 0 xb h.z),h.own.af hc (fun i _ hi=>hd 1 i hi),h.len⟩
theorem yZ.af (h:yZ w xb pb es F) (hc:Ch G w w') (hd:∀ i,i<w.heap.size→F i→¬ G i):yZ w' xb pb es F:=by
 obtain ⟨o,c,gs,R,hC,hF,hP⟩:=h
 have a0:∀ k i,R k i→¬ G i:=fun k i hi=>hd i (hC.fam.1 k i hi) (hF k i hi)
 exact ⟨o,c,gs,R,hC.af hc a0,hF,hP.imp (fun _ _ k=>k.af hc (fun j _ hj=>a0 _ j hj))⟩
theorem yZ.aa (h:yZ w xb pb es F) (hc:Ch ah w w'):yZ w' xb pb es F:=h.af hc (fun _ _ _=>id)
theorem yZ.mono (h:yZ w xb pb es F) (hg:∀ i,i<w.heap.size→F i→G i):yZ w xb pb es G:=by
 obtain ⟨o,c,gs,R,hC,hF,hP⟩:=h
 exact ⟨o,c,gs,R,hC,fun k i hi=>hg i (hC.fam.1 k i hi) (hF k i hi),hP⟩
theorem Io {g:za} {e:bw} {c0 c1 T0 T1 tc:Nat} {v:Int} {to:OA} (he:pq w g e Fd) (h0:ba w c0 [.int .i64 v] T0) (h1:ba w c1 [.slice to t.length tc] T1) (ht:Rd w to (t.map (.int .i64)) G) :
  Calls Tryz.prog ld #[.agg #[.int .i64 g.ver,.slice g.to g.tn g.tc,.int .i64 g.page],.pointer (some ⟨c0,0,none⟩),.pointer (some ⟨c1,0,none⟩)] w (bc fun x w'=>x = .bool (hasB v t e)∧Ch ah w w'):=by
 obtain ⟨a1,a2,a3,a4,a5⟩:=he
 refine wu.calls _ _ _ _ _ _ _ ?_
 unfold hasB
 intro w1 e1
 have hE:=ba.new e1
 have hc:Ch ah w w1:=Ch.alloc e1
 rw [← a1]
 refine ⟨_,hE.cell 0 rfl,_,(h0.aa hc).cell 0 rfl,fun hb=>?_,fun hb=>?_⟩
 ·refine ⟨_,_,_,hE.cell 1 rfl,_,_,_,(h1.aa hc).cell 0 rfl,?_⟩
  rw [a3]
  refine ab (Fq (a4.aa hc) (ht.aa hc) (by omega)) ?_
  rintro x w2 ⟨rfl,a0⟩
  exact ⟨_,rfl,by rw [hb,Bool.true_and],hc.ag a0⟩
 ·exact ⟨by rw [hb,Bool.false_and],hc⟩
theorem FM {p:bw→Bool} {c0 c1:Nat} (hO:Own w ct 3 o n c (gs.map ly).flatten Fa) (hl:gs.length=n) (hA:df (fun g e=>pq w g e Fd) gs es)
  (a7:∀ w',Ch ah w w'→∀ g e,pq w' g e Fd→Calls Tryz.prog ld #[.agg #[.int .i64 g.ver,.slice g.to g.tn g.tc,.int .i64 g.page],.pointer (some ⟨c0,0,none⟩),.pointer (some ⟨c1,0,none⟩)] w' (bc fun x w''=>x = .bool (p e)∧Ch ah w' w'')) :
  Calls Tryz.prog 103 #[.slice o n c,.func (.func ld) #[] #[.pointer (some ⟨c0,0,none⟩),.pointer (some ⟨c1,0,none⟩)]] w
   (bc fun v w'=>v = .int .i64 (if es.findIdx p<es.length then (es.findIdx p:Int) else -1)∧Ch ah w w'):=by
 refine bf.NR _ _ _ _ _ ?_
 have a8:gs.length≤maxLen:=by rw [hl];exact Nat.le_trans hO.2.1 hO.2.2.1
 unfold maxLen at a8
 refine ⟨fun i k w'=>Ch ah w w'∧∃ j:Nat,i=j∧j≤gs.length∧k=gs.length-j∧∀ m (hm:m<j) (h:m<es.length),p es[m]=false,⟨_,Ch.refl _ _,0,rfl,Nat.zero_le _,rfl,fun m hm=>by omega⟩,?_⟩
 rintro jk i k w1 ⟨hc,j,rfl,hj,rfl,a4⟩
 have b2:=hA.length
 subst hl
 refine ⟨fun a3=>?_,fun a5=>?_⟩
 ·have a3:j<gs.length:=by have:=dQt a3;omega
  have a1:j<es.length:=by omega
  obtain ⟨q,hq,_,_,a0⟩:=(hO.aa hc).rd.elem (sz:=3) (enc:=ly) (fun _=>rfl) (by omega) a3
  subst hq
  have c0:=a0 0 _ rfl
  rw [cm] at c0
  refine ⟨⟨by omega,by omega⟩,_,_,_,_,_,⟨c0,a0 1 _ rfl,a0 2 _ rfl⟩,?_⟩
  refine ab (a7 w1 hc _ _ ((hA.get j a3 a1).aa hc)) ?_
  rintro v w2 ⟨rfl,a6⟩
  refine ⟨_,rfl,fun hb=>?_,fun hb=>?_⟩
  ·have a2:es.findIdx p=j:=(List.findIdx_eq a1).2 ⟨hb,fun m hm=>a4 m hm (by omega)⟩
   rw [a2,if_pos a1]
   exact ⟨rfl,hc.ag a6⟩
  ·refine ⟨gs.length-(j+1),by omega,hc.ag a6,j+1,by rw [ae (by omega) (by omega)];rfl,a3,rfl,fun m hm h=>?_⟩
   by_cases a9:m=j
   ·subst a9;exact hb
   ·exact a4 m (by omega) h
 ·have:j=gs.length:=by have:=dQf a5;omega
  have a2:es.findIdx p=es.length:=List.findIdx_eq_length.2 (fun g hg=>by
   obtain ⟨m,hm,rfl⟩:=List.getElem_of_mem hg
   exact a4 m (by omega) hm)
  rw [a2,if_neg (Nat.lt_irrefl _)]
  exact ⟨rfl,hc⟩
theorem Gk {p:bw→Bool} {c0:Nat} (hO:Own w ct 3 o n c (gs.map ly).flatten Fa) (hl:gs.length=n) (hA:df (fun g e=>pq w g e Fd) gs es)
  (a7:∀ w',Ch ah w w'→∀ g e,pq w' g e Fd→Calls Tryz.prog ju #[.agg #[.int .i64 g.ver,.slice g.to g.tn g.tc,.int .i64 g.page],.pointer (some ⟨c0,0,none⟩)] w' (bc fun x w''=>x = .bool (p e)∧Ch ah w' w'')) :
  Calls Tryz.prog 103 #[.slice o n c,.func (.func ju) #[] #[.pointer (some ⟨c0,0,none⟩)]] w
   (bc fun v w'=>v = .int .i64 (if es.findIdx p<es.length then (es.findIdx p:Int) else -1)∧Ch ah w w'):=by
 refine bf.PR _ _ _ _ ?_
 have a8:gs.length≤maxLen:=by rw [hl];exact Nat.le_trans hO.2.1 hO.2.2.1
 unfold maxLen at a8
 refine ⟨fun i k w'=>Ch ah w w'∧∃ j:Nat,i=j∧j≤gs.length∧k=gs.length-j∧∀ m (hm:m<j) (h:m<es.length),p es[m]=false,⟨_,Ch.refl _ _,0,rfl,Nat.zero_le _,rfl,fun m hm=>by omega⟩,?_⟩
 rintro jk i k w1 ⟨hc,j,rfl,hj,rfl,a4⟩
 have b2:=hA.length
 subst hl
 refine ⟨fun a3=>?_,fun a5=>?_⟩
 ·have a3:j<gs.length:=by have:=dQt a3;omega
  have a1:j<es.length:=by omega
  obtain ⟨q,hq,_,_,a0⟩:=(hO.aa hc).rd.elem (sz:=3) (enc:=ly) (fun _=>rfl) (by omega) a3
  subst hq
  have c0:=a0 0 _ rfl
  rw [cm] at c0
  refine ⟨⟨by omega,by omega⟩,_,_,_,_,_,⟨c0,a0 1 _ rfl,a0 2 _ rfl⟩,?_⟩
  refine ab (a7 w1 hc _ _ ((hA.get j a3 a1).aa hc)) ?_
  rintro v w2 ⟨rfl,a6⟩
  refine ⟨_,rfl,fun hb=>?_,fun hb=>?_⟩
  ·have a2:es.findIdx p=j:=(List.findIdx_eq a1).2 ⟨hb,fun m hm=>a4 m hm (by omega)⟩
   rw [a2,if_pos a1]
   exact ⟨rfl,hc.ag a6⟩
  ·refine ⟨gs.length-(j+1),by omega,hc.ag a6,j+1,by rw [ae (by omega) (by omega)];rfl,a3,rfl,fun m hm h=>?_⟩
   by_cases a9:m=j
   ·subst a9;exact hb
   ·exact a4 m (by omega) h
 ·have:j=gs.length:=by have:=dQf a5;omega
  have a2:es.findIdx p=es.length:=List.findIdx_eq_length.2 (fun g hg=>by
   obtain ⟨m,hm,rfl⟩:=List.getElem_of_mem hg
   exact a4 m (by omega) hm)
  rw [a2,if_neg (Nat.lt_irrefl _)]
  exact ⟨rfl,hc⟩
theorem find_spec (h:yZ w xb pb es F) {to:OA} (ht:Rd w to (t.map (.int .i64)) G) (v:Int) (tc:Nat) :
  Calls Tryz.prog yW #[.pointer (some ⟨xb,0,none⟩),.int .i64 v,.slice to t.length tc] w (bc fun x w'=>x = .int .i64 (qe es v t)∧Ch ah w w'):=by
 obtain ⟨o,c,gs,R,hC,hF,hP⟩:=h
 refine Ax.calls _ _ _ _ _ ?_
 intro w1 e1 w2 e2
 have hA:=(ba.new e1).alloc e2
 have hB:=ba.new e2
 have a0:Ch ah w w2:=(Ch.alloc e1).ag (Ch.alloc e2)
 have a1:=hC.af a0 (fun _ _ _ hN=>hN)
 refine ⟨_,_,_,a1.blk.cell 1 rfl,?_⟩
 refine ab (FM (p:=hasB v t) a1.own a1.len (hP.imp (fun _ _ k=>k.aa a0)) (fun w' hc g e he=>Io he (hA.aa hc) (hB.aa hc) ((ht.aa a0).aa hc))) ?_
 rintro x w3 ⟨rfl,a2⟩
 exact ⟨_,rfl,rfl,a0.ag a2⟩
theorem BO (w:World) (n:Int) (h:0≤n):Calls Tryz.prog wk #[.int .i64 n] w (bc fun v w'=>v = .bool (decide (0<n∧n≤32∧n % 4=0))∧w'=w):=by
 refine At.calls _ ?_
 refine ⟨fun h1=>⟨fun h2=>⟨by decide,?_,rfl⟩,fun h2=>⟨?_,rfl⟩⟩,fun h1=>⟨?_,rfl⟩⟩
 ·have h1:=dQt h1
  have h2:=dQt h2
  rw [AP h]
  congr 1
  by_cases h3:n % 4=0
  ·rw [decide_eq_true ⟨h1,h2,h3⟩];simp [h3]
  ·rw [decide_eq_false (fun k=>h3 k.2.2)];simpa using h3
 ·have h2:=dQf h2
  rw [decide_eq_false (fun k=>h2 k.2.1)]
 ·have h1:=dQf h1
  rw [decide_eq_false (fun k=>h1 k.1)]
theorem tD (h:yZ w xb pb es F):Calls Tryz.prog zX #[.pointer (some ⟨xb,0,none⟩)] w (bc fun v w'=>v = .int .i64 es.length∧w'=w):=by
 obtain ⟨o,c,gs,R,hC,hF,hP⟩:=h
 refine Cd.calls _ ?_
 exact ⟨_,_,_,hC.blk.cell 1 rfl,rfl,rfl⟩
theorem Ob (gs:List za):∀ u∈(gs.map ly).flatten,u.oneCell'=true:=fun u hu=>by
 obtain ⟨l,hl,hu⟩:=List.mem_flatten.1 hu
 obtain ⟨g,_,rfl⟩:=List.mem_map.1 hl
 simp only [ly,List.mem_cons,List.not_mem_nil,or_false] at hu
 rcases hu with rfl|rfl|rfl <;> rfl
theorem we (hO:Own w ct 3 o n c (gs.map ly).flatten Fa) (hl:gs.length=n) {i:Nat} (hi:i<n) (hn:n≤1000000) :
  Calls Tryz.prog 74 #[.slice o n c,.int .i64 i,.int .i64 (IntKind.i64.wrap ((i:Int)+1))] w (bc fun v w'=>v = .slice o (n-1) c∧Own w' ct 3 o (n-1) c ((gs.eraseIdx i).map ly).flatten Fa∧Ch Fa w w'):=by
 refine sR.calls _ _ _ _ _ ?_
 have b4:=hO.2.1
 rw [ae (by omega) (by omega)]
 refine ⟨⟨by omega,by omega,by omega,by omega⟩,eg (by simp;omega) ?_⟩
 refine ⟨fun _=>True,fun w1 e1=>⟨trivial,⟨by omega,by omega⟩,⟨by omega,by omega⟩,?_⟩⟩
 have a3:=hO.aa (Ch.drew e1)
 have a4:((i:Int)+1).toNat=i+1:=by omega
 have a5:(i:Int).toNat=i:=by omega
 rw [a4,a5]
 obtain ⟨w2,a6,a1,a7⟩:=a3.cut lv (i:=i) (j:=i+1) (by omega) (by omega) (Ob gs) fh
 refine ⟨_,_,_,w2,a6,trivial,⟨by omega,by omega,by omega⟩,?_⟩
 have hk:i+(n-(i+1))=n-1:=by omega
 rw [hk] at a1 ⊢
 have hz:Ke Tryz.prog ct=true:=by kernel_rfl
 obtain ⟨x,w3,a8,a2,a9⟩:=a1.clear lv hz (i:=n-1) (by omega) 0
 have b2:((n-1:Nat):Int).toNat=n-1:=Int.toNat_natCast _
 have b3:((n:Nat):Int).toNat=n:=Int.toNat_natCast _
 refine ⟨x,w3,by rw [b2,b3];exact a8,rfl,?_,((Ch.drew (F:=Fa) e1).same a7).same a9⟩
 have a0:((gs.map ly).flatten.take (i*3)++(gs.map ly).flatten.drop ((i+1)*3)).length=(n-1)*3:=by
  have:=hO.1
  rw [List.length_append,List.length_take,List.length_drop,this];omega
 rw [List.take_append,List.take_of_length_le (by omega),a0,Nat.sub_self,List.take_zero,List.append_nil] at a2
 rw [gf,List.map_append,List.flatten_append,← oM (enc:=ly) (sz:=3) (fun _=>rfl),← qU (enc:=ly) (sz:=3) (fun _=>rfl)]
 exact a2
end
end Go.Proofs.YtkbikekbaboclaaGreat.dh
set_option linter.unusedVariables false
set_option linter.unusedSimpArgs false
namespace Go.Proofs.YtkbikekbaboclaaGreat.dh
open Go Go.Proofs V Vc Step bh Go.RowKit
structure PX (W w:World) (pb xb k:Nat) (B:Int) (ps:List ak) (es:List bw) (FP FI:Nat→Prop):Prop where
 p:Bc W w pb ps FP
 x:yZ w xb pb es FI
 g:bh.Good k B ps
 f:rl W w FI
 ap:jo FI FP
section
variable {W w w':World} {pb xb k n:Nat} {B:Int} {ps ps':List ak} {es es':List bw} {FP FI F G:Nat→Prop} {o:OA} {c:Nat} {gs:List za} {R:Nat→Nat→Prop}
theorem PX.aa (h:PX W w pb xb k B ps es FP FI) (hc:Ch ah w w'):PX W w' pb xb k B ps es FP FI:=⟨h.p.aa hc,h.x.aa hc,h.g,h.f.le hc.size,h.ap⟩
theorem PX.lt (h:PX W w pb xb k B ps es FP FI):∀ i,FI i→i<w.heap.size:=fun i hi=>(h.f i hi).2
theorem PX.sa (h:PX W w pb xb k B ps es FP FI) {B':Int} (hr:dk w' pb ps' FP) (hc:Ch FP w w') (hg:bh.Good k B' ps'):PX W w' pb xb k B' ps' es FP FI :=
 ⟨h.p.step hr hc,h.x.af hc (fun i _ hi hf=>h.ap i hi hf),hg,h.f.le hc.size,h.ap⟩
theorem PX.index (h:PX W w pb xb k B ps es FP FI) (hx:yZ w' xb pb es' (Ext FI w w')) (hc:Ch FI w w'):PX W w' pb xb k B ps es' FP (Ext FI w w') :=
 ⟨⟨h.p.r.af hc (fun i _ hi hf=>h.ap i hf hi),h.p.f.le hc.size,h.f.hi h.p.c hc⟩,hx,h.g,h.f.ext h.p.c hc.size,h.ap.PD h.p.f⟩
theorem PX.le (h:PX W w pb xb k B ps es FP FI) {B':Int} (hB:B≤B'):PX W w pb xb k B' ps es FP FI:=⟨h.p,h.x,h.g.le hB,h.f,h.ap⟩
theorem pq.ec {w:World} {g:za} {e:bw} {Fd:Nat→Prop} (h:pq w g e Fd):ly g=[.int .i64 e.ver,.slice g.to e.dg.length g.tc,.int .i64 e.page]:=by
 obtain ⟨a,b,c,_⟩:=h
 unfold ly;rw [a,b,c]
theorem GG (fam:Dy w R) (z:R 0 xb) {sv:Value} (blk:ba w xb [.pointer (some ⟨pb,0,none⟩),sv] mf) (own:Own w ct 3 o n c (gs.map ly).flatten (R 1)) (len:gs.length=n)
  (hP:df (fun g e=>pq w g e (R 2)) gs es) (hF:∀ k i,R k i→F i) (hn:n<1000) {nb:Nat} {g:za} {e:bw} (hb:ba w nb (ly g) ct) (hg:pq w g e (R 2)) :
  ∃ (o':OA) (c':Nat) (w':World),(Builtin.append_ #[fh,fh] fh #[.slice o n c,.slice (some ⟨nb,0,none⟩) 1 1]).run Tryz.prog w = .ok (.slice o' (n+1) c') w'∧Ch (R 1) w w' ∧
   ((∃ u,w'.cell? ⟨xb,1,none⟩=some u)∧w'.frozen? ⟨xb,1,none⟩=false) ∧
   ∀ w'':World,w''=w'.setCell ⟨xb,1,none⟩ (.slice o' (n+1) c')→yZ w'' xb pb (es++[e]) (Ext F w w')∧Ch (·=xb) w' w'':=by
 obtain ⟨o',c',w',hr,ho,hc⟩:=Own.ll (c2:=1) (m:=1) lv own fh hb.rd rfl (fun u hu=>by
  simp only [ly,List.mem_cons,List.not_mem_nil,or_false] at hu
  rcases hu with rfl|rfl|rfl <;> rfl) (by unfold maxLen;omega) (by omega)
 have a0:=fam.QW hc.size 1
 have r1:ph R 1 w w' 1=Ext (R 1) w w':=yi 1
 have rk:∀ k,k≠1→ph R 1 w w' k=R k:=fun k hk=>jn hk
 have hB:=blk.af hc (fun hx=>fam.2 0 1 (by omega) xb z hx)
 refine ⟨o',c',w',hr,hc,hB.ok 1 rfl,fun w'' e2=>?_⟩
 have a1:Ch (·=xb) w' w'':=Ch.set e2 rfl
 have a4:=hB.set e2
 have a2:∀ k i,k≠0→ph R 1 w w' k i→¬ i=xb:=fun k i hk hi he=>by
  subst he
  exact a0.2 0 k (fun e=>hk e.symm) i (by rw [rk 0 (by omega)];exact z) hi
 refine ⟨⟨o',c',gs++[g],ph R 1 w w',⟨a0.le a1.size,by rw [rk 0 (by omega)];exact z,?_,?_,by simp [hP.length]⟩,fun k i hi=>?_,?_⟩,a1⟩
 ·have:(es++[e]).length=n+1:=by rw [List.length_append,← hP.length,len];rfl
  rw [this];exact a4
 ·have:(es++[e]).length=n+1:=by rw [List.length_append,← hP.length,len];rfl
  rw [this,r1,List.map_append,List.flatten_append]
  have h2:=ho.af a1 (fun i _ hi he=>a2 1 i (by omega) (by rw [r1];exact hi) he)
  simpa using h2
 ·unfold ph at hi
  split at hi
  ·rcases hi with hi|hi
   ·exact .inl (hF _ _ hi)
   ·exact .inr hi
  ·exact .inl (hF _ _ hi)
 ·rw [rk 2 (by omega)]
  have a3:∀ {g e},pq w g e (R 2)→pq w'' g e (R 2):=fun h=>(h.af hc (fun i _ a b=>fam.2 2 1 (by omega) i a b)).af a1 (fun i _ a b=>a2 2 i (by omega) (by rw [rk 2 (by omega)];exact a) b)
  exact (hP.imp (fun _ _ h=>a3 h)).snoc (a3 hg)
def uU (ps:List ak) (id v:Int):Bool:=mr ps id&&((ax ps id).ver==v)&&((ax ps id).es.length==4)
def pI (ps:List ak) (es:List bw) (id v:Int) (t:List Int):Int :=
 if ¬ (0<(t.length:Int)∧(t.length:Int)≤32∧(t.length:Int) % 4=0) then 1 else if qe es v t≥0 then 9 else if uU ps id v then 0 else 8
def zN (ps:List ak) (es:List bw) (id v:Int) (t:List Int):List bw:=if pI ps es id v t=0 then es++[⟨v,t,id⟩] else es
def ul (ps:List ak) (es:List bw) (id v:Int) (t:List Int):List ak:=if pI ps es id v t=0 then iy 1 ps id else ps
theorem PX.fail (h:PX W w pb xb k B ps es FP FI) {id v:Int} {t:List Int} {e:Int} (hw:Ch ah w w') (he:pI ps es id v t=e) (h0:e≠0) :
  PX W w' pb xb k (B+1) (ul ps es id v t) (zN ps es id v t) FP (Ext FI w w')∧Ch (fun i=>FI i∨FP i) w w':=by
 unfold ul zN
 rw [he,if_neg h0,if_neg h0]
 have h2:=(h.aa hw).le (B':=B+1) (by omega)
 exact ⟨⟨h2.p,h2.x.mono (fun i _ hi => .inl hi),h2.g,fun i hi=>by
  rcases hi with hi|hi
  ·exact h2.f i hi
  ·exact ⟨Nat.le_trans h.p.c.size hi.1,hi.2⟩,h.ap.PD h.p.f⟩,hw.any⟩
theorem Pu (h:PX W w pb xb k B ps es FP FI) (hB:0≤B∧B≤1000000000) (hn:es.length<1000) {to:OA} {t:List Int} (ht:Rd w to (t.map (.int .i64)) G) (e2:t.length≤1000) (id v:Int) (tc:Nat) :
  Calls Tryz.prog zK #[.pointer (some ⟨xb,0,none⟩),.int .i64 id,.int .i64 v,.slice to t.length tc] w (bc fun x w'=>x = .int .i64 (pI ps es id v t) ∧
   PX W w' pb xb k (B+1) (ul ps es id v t) (zN ps es id v t) FP (Ext FI w w')∧Ch (fun i=>FI i∨FP i) w w'):=by
 refine BX.calls _ _ _ _ _ _ ?_
 refine ab (BO w _ (by omega)) ?_
 rintro x w1 ⟨rfl,rfl⟩
 by_cases hb:0<(t.length:Int)∧(t.length:Int)≤32∧(t.length:Int) % 4=0
 rotate_left
 ·have he:pI ps es id v t=1:=by unfold pI;rw [if_pos hb]
  refine ⟨_,rfl,pj (by rw [decide_eq_false hb];rfl) ⟨by rw [he],h.fail (Ch.refl _ _) he (by decide)⟩⟩
 refine ⟨_,rfl,eg (by rw [decide_eq_true hb];rfl) ?_⟩
 refine ab (find_spec h.x ht v tc) ?_
 rintro x w2 ⟨rfl,b2⟩
 by_cases hf:qe es v t≥0
 ·have he:pI ps es id v t=9:=by unfold pI;rw [if_neg (fun hn=>hn hb),if_pos hf]
  exact ⟨_,rfl,pj (decide_eq_true hf) ⟨by rw [he],h.fail b2 he (by decide)⟩⟩
 refine ⟨_,rfl,eg (decide_eq_false hf) ?_⟩
 have c6:uU ps id v=false→pI ps es id v t=8:=fun ha=>by unfold pI;rw [if_neg (fun hn=>hn hb),if_neg hf,ha];rfl
 have h2:=h.aa b2
 have c7:w2.cell? ⟨xb,0,none⟩=some (.pointer (some ⟨pb,0,none⟩)):=by
  obtain ⟨o,c,gs,R,hC,_⟩:=h2.x
  exact hC.blk.cell 0 rfl
 refine ⟨_,c7,?_⟩
 refine ab (FB h2.p.r id) ?_
 rintro x w3 ⟨rfl,rfl⟩
 have g3:=h.g.at hB.1 id
 refine ⟨_,rfl,fun hu=>?_,fun hu=>?_⟩
 ·have e3:mr ps id=false:=by
   cases b9:mr ps id with
   | false=>rfl
   | true =>
    rw [b9,if_pos rfl] at hu
    have hz:(ax ps id).ar=0:=by simpa using hu
    have:=Hu b9;omega
  have he:=c6 (by unfold uU;rw [e3];rfl)
  exact ⟨by rw [he],h.fail b2 he (by decide)⟩
 have c0:mr ps id=true:=by
  cases b9:mr ps id with
  | true=>rfl
  | false=>rw [b9] at hu;simp at hu
 refine ⟨_,c7,?_⟩
 refine ab (Ii h2.p.r id) ?_
 rintro x w4 ⟨rfl,rfl⟩
 rw [c0,if_pos rfl]
 refine ⟨_,rfl,fun hv=>?_,fun hv=>?_⟩
 ·have hv:((ax ps id).ver==v)=false:=by simpa using hv
  have he:=c6 (by unfold uU;rw [hv,Bool.and_false];rfl)
  exact ⟨by rw [he],h.fail b2 he (by decide)⟩
 have hv:((ax ps id).ver==v)=true:=by simpa using hv
 refine ⟨_,c7,fun w5 e5=>?_⟩
 have r5:Rd w5 (some ⟨w4.heap.size,0,none⟩) (([id]:List Int).map (.int .i64)) (·=w4.heap.size):=(ba.new e5).rd
 have d8:=b2.ag (Ch.alloc e5)
 have h5:=h.aa d8
 refine ab (OL (l:=[id]) h5.p.r r5 (fun p hp=>(h5.g.pg p hp).2.2.2) (by simp) 1) ?_
 rintro x w6 ⟨oG,cG,qs,F1,F2,rfl,hG,_⟩
 have e4:ms ps [id]=(ax ps id).es:=by unfold ms;simp [c0]
 rw [e4]
 have a9:=d8.ag hG.ch
 have h6:=h.aa a9
 refine ⟨_,_,_,rfl,fun hl=>?_,fun hl=>?_⟩
 ·have hl:((ax ps id).es.length==4)=false:=by
   cases hq:((ax ps id).es.length==4) with
   | false=>rfl
   | true =>
    have:(ax ps id).es.length=4:=by simpa using hq
    rw [this] at hl;simp at hl
  have he:=c6 (by unfold uU;rw [hl,Bool.and_false])
  exact ⟨by rw [he],h.fail a9 he (by decide)⟩
 have hl:((ax ps id).es.length==4)=true:=by
  have:((ax ps id).es.length:Int)=4:=by simpa using hl
  simpa using (by omega:(ax ps id).es.length=4)
 have he:pI ps es id v t=0:=by
  unfold pI uU
  rw [if_neg (fun hn=>hn hb),if_neg hf,c0,hv,hl];rfl
 obtain ⟨o,c,gs,R,hC,hF,hP⟩:=h6.x
 have e6:=ht.aa a9
 refine ⟨fun w'=>Ch (R 1) w6 w',fun w7 e7=>⟨Ch.drew e7,_,_,_,fun w' hc=>(hC.blk.af hc (fun hx=>hC.fam.2 0 1 (by omega) xb hC.z hx)).cell 1 rfl,?_⟩⟩
 have a5:Ch ah w6 w7:=Ch.drew e7
 refine ab (lf (e6.aa a5) (by omega) tc) ?_
 rintro x w9 ⟨⟨o9,c9,rfl,e8⟩,d9⟩
 have a6:=a5.ag d9
 refine ⟨_,_,_,rfl,a6.any,fun a1 c4=>⟨(a6.ag (Ch.alloc c4)).any,?_⟩⟩
 have b3:=ba.new c4
 have a0:Ch ah w6 a1:=a6.ag (Ch.alloc c4)
 have g4:w6.heap.size≤w7.heap.size:=a5.size
 have g5:=d9.size
 have e9:w9.heap.size<a1.heap.size:=b3.lt
 have b4:=hC.af a0 (fun _ _ _ hN=>hN)
 have c8:=hC.fam.QW a0.size 2
 have r2:ph R 2 w6 a1 2=Ext (R 2) w6 a1:=yi 2
 have rk:∀ k,k≠2→ph R 2 w6 a1 k=R k:=fun k hk=>jn hk
 have d0:df (fun g e=>pq a1 g e (ph R 2 w6 a1 2)) gs es:=by
  rw [r2];exact hP.imp (fun _ _ k=>(k.aa a0).mono (fun i _ hi => .inl hi))
 have hg:pq a1 ⟨v,o9,t.length,c9,id⟩ ⟨v,t,id⟩ (ph R 2 w6 a1 2):=by
  rw [r2]
  exact ⟨rfl,rfl,rfl,(e8.aa (Ch.alloc c4)).mono (fun i hi hN => .inr ⟨by have:=hN.1;omega,hi⟩),e2⟩
 obtain ⟨o',c',f0,d1,a2,b5,f3⟩:=GG (F:=Ext FI w6 a1) c8 (by rw [rk 0 (by omega)];exact hC.z) b4.blk (by rw [rk 1 (by omega)];exact b4.own) hC.len d0 (fun k i hi=>by
  by_cases hk:k=2
  ·subst hk;rw [r2] at hi;exact hi.imp (fun h=>hF _ _ h) (fun h=>h)
  ·rw [rk k hk] at hi;exact .inl (hF _ _ hi)) hn (nb:=w9.heap.size) (g:=⟨v,o9,t.length,c9,id⟩) (e:=⟨v,t,id⟩) b3 hg
 rw [rk 1 (by omega)] at a2
 refine ⟨o',_,c',f0,d1,(a0.any (F:=R 1)).same a2,b5,fun a7 f4=>?_⟩
 obtain ⟨d2,b6⟩:=f3 a7 f4
 have f5:FI xb:=hF 0 xb hC.z
 have a4:Ch FI w6 a7:=((a0.any (F:=FI)).same (a2.mono (fun i _ hi=>hF 1 i hi))).same (b6.mono (fun i _ hi=>hi▸f5))
 have f6:=a2.size
 have f7:=b6.size
 have d3:=h6.index (d2.mono (fun i hi hE=>by
  rcases hE with (hE|hE)|hE
  ·exact .inl hE
  ·exact .inr ⟨hE.1,by have:=hE.2;omega⟩
  ·exact .inr ⟨by have:=hE.1;omega,by have:=hE.2;omega⟩)) a4
 have b7:a7.cell? ⟨xb,0,none⟩=some (.pointer (some ⟨pb,0,none⟩)):=by
  obtain ⟨o,c,gs,R,hC,_⟩:=d3.x
  exact hC.blk.cell 0 rfl
 refine ⟨_,b7,fun e0 c5=>?_⟩
 have f8:Rd e0 (some ⟨a7.heap.size,0,none⟩) (([id]:List Int).map (.int .i64)) (·=a7.heap.size):=(ba.new c5).rd
 have e1:=d3.aa (Ch.alloc c5)
 have f9:a7.heap.size<e0.heap.size:=(ba.new c5).lt
 have b8:=d3.p.lt
 refine ab (Fj (l:=[id]) e1.p.r f8 (fun i _ hi hf=>by have:=b8 i hf;omega) (by simp) (by omega) h.g.FC 1) ?_
 rintro x d4 ⟨rfl,a3,a8⟩
 have d5:gg ps [id]=true:=by unfold gg;simp [c0]
 rw [d5] at a3 ⊢
 have a3:dk d4 pb (iy 1 ps id) FP:=a3
 have d6:bh.Good k (B+1) (iy 1 ps id):=bh.Good.Hg (l:=[id]) hB.1 h.g
 have d7:=e1.sa a3 a8 d6
 have g0:=a8.size
 have g1:Ch (fun i=>FI i∨FP i) w1 d4:=(((a9.any (F:=fun i=>FI i∨FP i)).trans a4 (fun i _ hi => .inl hi)).ag (Ch.alloc c5)).trans a8 (fun i _ hi => .inr hi)
 refine ⟨_,rfl,by rw [he];rfl,?_,g1⟩
 unfold ul zN
 rw [he,if_pos rfl,if_pos rfl]
 have g2:=a9.size
 have hN:∀ i,Ext FI w6 a7 i→Ext FI w1 d4 i:=fun i hi=>hi.imp (fun h=>h) (fun h=>⟨by have:=h.1;omega,by have:=h.2;omega⟩)
 exact ⟨d7.p,d7.x.mono (fun i _ hi=>hN i hi),d7.g,fun i hi=>by
  rcases hi with hi|hi
  ·exact ⟨(h.f i hi).1,by have:=(h.f i hi).2;have:=a9.size;omega⟩
  ·exact ⟨by have:=h.p.c.size;have:=hi.1;omega,hi.2⟩,h.ap.PD h.p.f⟩
end
end Go.Proofs.YtkbikekbaboclaaGreat.dh
set_option linter.unusedVariables false
set_option linter.unusedSimpArgs false
namespace Go.Proofs.YtkbikekbaboclaaGreat.dh
open Go Go.Proofs V Vc Step bh Go.RowKit
theorem df.eraseIdx {α β:Type} {R:α→β→Prop}:∀ {xs:List α} {ys:List β},df R xs ys→∀ i:Nat,df R (xs.eraseIdx i) (ys.eraseIdx i)
 | _,_,.nil,_ => .nil
 | _,_,.cons _ b,0=>b
 | _,_,.cons a b,i+1 => .cons a (df.eraseIdx b i)
def oz (v:Int) (t:List Int):Nat→Nat→List bw→List Int→List bw × List Int
 | 0,_,es,out=>(es,out)
 | f+1,n,es,out=>if n<t.length then (if h:es.findIdx (hasB v (t.take n))<es.length then oz v t f (n+4) (es.eraseIdx (es.findIdx (hasB v (t.take n)))++[es[es.findIdx (hasB v (t.take n))]]) (out++[es[es.findIdx (hasB v (t.take n))].page]) else (es,out)) else (es,out)
def bz (es:List bw) (v:Int) (t:List Int):List bw × List Int:=oz v t t.length 4 es []
theorem tu (v:Int) (t:List Int):∀ (f n:Nat) (es:List bw) (out:List Int),(oz v t f n es out).1.length=es.length∧(oz v t f n es out).2.length≤out.length+f
 | 0,n,es,out=>⟨rfl,Nat.le_refl _⟩
 | f+1,n,es,out=>by
  unfold oz
  split
  ·split
   ·rename_i h
    obtain ⟨a,b⟩:=tu v t f (n+4) (es.eraseIdx (es.findIdx (hasB v (t.take n)))++[es[es.findIdx (hasB v (t.take n))]]) (out++[es[es.findIdx (hasB v (t.take n))].page])
    refine ⟨?_,?_⟩
    ·rw [a,List.length_append,List.length_eraseIdx,if_pos h];simp;omega
    ·rw [List.length_append] at b
     simp only [List.length_cons,List.length_nil] at b
     omega
   ·exact ⟨rfl,Nat.le_add_right _ _⟩
  ·exact ⟨rfl,Nat.le_add_right _ _⟩
theorem zO {v:Int} {t:List Int} {f n:Nat} {es:List bw} {out:List Int} (h:t.length≤n):oz v t f n es out=(es,out):=by
 cases f with
 | zero=>rfl
 | succ f=>unfold oz;rw [if_neg (by omega)]
theorem ur {v:Int} {t:List Int} {f n:Nat} {es:List bw} {out:List Int} (h:¬ es.findIdx (hasB v (t.take n))<es.length):oz v t f n es out=(es,out):=by
 cases f with
 | zero=>rfl
 | succ f =>
  unfold oz
  split
  ·first
   | rfl
   | rw [dif_neg h]
  ·rfl
theorem zT {v:Int} {t:List Int} {f n:Nat} {es:List bw} {out:List Int} (hn:n<t.length) (h:es.findIdx (hasB v (t.take n))<es.length) :
  oz v t (f+1) n es out=oz v t f (n+4) (es.eraseIdx (es.findIdx (hasB v (t.take n)))++[es[es.findIdx (hasB v (t.take n))]]) (out++[es[es.findIdx (hasB v (t.take n))].page]):=by
 conv=>lhs;unfold oz
 rw [if_pos hn,dif_pos h]
def FX (W w w1:World) (pb xb k:Nat) (B:Int) (ps:List ak) (es:List bw) (FP FI:Nat→Prop) (oA:OA) (oC:Nat) (out:List Int):Prop :=
 ∃ FI' FO:Nat→Prop,PX W w1 pb xb k B ps es FP FI'∧(∀ i,FI' i→Ext FI w w1 i)∧Own w1 bd 1 oA out.length oC (out.map (.int .i64)) FO∧(∀ i,FO i→db w w1 i)∧jo FO FI'∧Ch FI w w1
section
variable {W w w1 w':World} {pb xb k:Nat} {B:Int} {ps:List ak} {es:List bw} {FP FI G:Nat→Prop} {oA:OA} {oC:Nat} {out t:List Int}
theorem FX.aa (h:FX W w w1 pb xb k B ps es FP FI oA oC out) (hc:Ch ah w1 w'):FX W w w' pb xb k B ps es FP FI oA oC out:=by
 obtain ⟨FI',FO,a,b,c,d,e,f⟩:=h
 exact ⟨FI',FO,a.aa hc,fun i hi=>(b i hi).imp id (fun h=>⟨h.1,by have:=h.2;have:=hc.size;omega⟩),c.aa hc,fun i hi=>db.le (d i hi) hc.size,e,f.ag hc⟩
set_option maxHeartbeats 1000000 in
theorem Pt (h:PX W w pb xb k B ps es FP FI) (hB:0≤B∧B≤1000000000) (hn:es.length<1000) {to:OA} (ht:Rd w to (t.map (.int .i64)) G) (hG:∀ i,i<w.heap.size→G i→¬ FI i) (k9:t.length≤1000) (v:Int) {tc:Nat} (l1:t.length≤tc) :
  Calls Tryz.prog yJ #[.pointer (some ⟨xb,0,none⟩),.int .i64 v,.slice to t.length tc] w (bc fun x w'=>∃ (FI' FO:Nat→Prop) (oA:OA) (oC:Nat),x = .slice oA (bz es v t).2.length oC∧Own w' bd 1 oA (bz es v t).2.length oC ((bz es v t).2.map (.int .i64)) FO∧(∀ i,FO i→db w w' i) ∧
   PX W w' pb xb k (B+t.length) (if gg ps (bz es v t).2 then fe ps (bz es v t).2 else ps) (bz es v t).1 FP FI'∧(∀ i,FI' i→Ext FI w w' i)∧jo FO FI'∧Ch (fun i=>FI i∨FP i) w w'):=by
 refine Bj.calls _ _ _ _ _ ?_
 have h4:=tu v t t.length 4 es []
 rw [List.length_nil,Nat.zero_add] at h4
 refine ⟨fun oA oN oC w'=>oN=(bz es v t).2.length∧FX W w w' pb xb k B ps (bz es v t).1 FP FI oA oC (bz es v t).2,
  ⟨fun oA oN oC n f w'=>∃ (m:Nat) (es':List bw) (out:List Int),n=m∧4≤m∧t.length≤m+f∧oz v t f m es' out=bz es v t∧out.length+f≤t.length∧es'.length=es.length∧oN=out.length∧FX W w w' pb xb k B ps es' FP FI oA oC out,
   ⟨t.length,4,es,[],rfl,Nat.le_refl _,by omega,rfl,by simp,rfl,rfl,FI,ah,h,fun i hi => .inl hi,Own.nil _ _ _ _,fun _ hi=>hi.elim,fun _ hi=>hi.elim,Ch.refl _ _⟩,?_⟩,?_⟩
 ·rintro jk oA oN oC n f w1 ⟨m,es',out,rfl,l2,l3,a1,l4,l5,rfl,hX⟩
  refine ⟨fun f6=>?_,fun f7=>?_⟩
  rotate_left
  ·have f7:t.length≤m:=by have:=dQf f7;omega
   rw [zO f7] at a1
   rw [← a1]
   exact ⟨rfl,hX⟩
  have f6:m<t.length:=by have:=dQt f6;omega
  refine ⟨⟨by omega,by omega⟩,?_⟩
  have h5:=hX
  obtain ⟨FI',FO,hP,f0,hO,b2,f3,f4⟩:=hX
  have i2:Rd w1 (if tc=0 then to else to.map (·.add (0*1))) ((t.take m).map (.int .i64)) G:=by
   have:=(ht.af f4 (fun i hi hg hf=>hG i hi hg hf)).slice (c:=tc) (sz:=1) (by simp;omega) 0 m
   simpa [List.map_take] using this
  have i3:((m:Int).toNat-0)=(t.take m).length:=by rw [List.length_take];omega
  rw [i3]
  refine ab (find_spec hP.x i2 v _) ?_
  rintro x w2 ⟨rfl,c7⟩
  refine ⟨_,rfl,?_⟩
  have h6:=h5.aa c7
  by_cases a0:es'.findIdx (hasB v (t.take m))<es'.length
  rotate_left
  ·have f8:qe es' v (t.take m) = -1:=by unfold qe;rw [if_neg a0]
   rw [f8]
   refine pj (by decide) ?_
   rw [ur a0] at a1
   rw [← a1]
   exact ⟨rfl,h6⟩
  have f8:qe es' v (t.take m)=(es'.findIdx (hasB v (t.take m)):Int):=by unfold qe;rw [if_pos a0]
  rw [f8]
  obtain ⟨f,rfl⟩:∃ f',f=f'+1:=⟨f-1,by omega⟩
  rw [zT f6 a0] at a1
  generalize es'.findIdx (hasB v (t.take m))=j at a0 a1
  refine eg (decide_eq_false (by omega)) ?_
  have f9:=hP.aa c7
  have h7:=hO.aa c7
  have c9:=f4.ag c7
  have i4:=c7.size
  obtain ⟨o,c,gs,R,hC,hF,hA⟩:=f9.x
  have g0:j<gs.length:=by rw [hA.length];exact a0
  obtain ⟨p,hp,_,_,a6⟩:=hC.own.rd.elem (sz:=3) (enc:=ly) (fun _=>rfl) (by omega) g0
  have he:=hA.get j g0 a0
  subst hp
  have c0:=a6 0 _ rfl
  rw [cm] at c0
  have g1:(j:Int).toNat=j:=Int.toNat_natCast j
  refine ⟨_,_,_,hC.blk.cell 1 rfl,⟨by omega,by omega⟩,_,_,_,_,_,⟨by rw [g1];exact c0,by rw [g1];exact a6 1 _ rfl,by rw [g1];exact a6 2 _ rfl⟩,fun w3 e3=>?_⟩
  have d0:=ba.new e3
  refine ⟨⟨d0.ok 0 rfl,d0.ok 1 rfl,d0.ok 2 rfl⟩,fun w4 e4=>?_⟩
  have e5:w4=w3.setCells w2.heap.size 0 (ly gs[j]):=e4
  have b3:=d0.all (ly gs[j]) rfl e5
  have b3:ba w4 w2.heap.size (ly gs[j]) ct:=b3
  have a3:Ch ah w2 w4:=(Ch.alloc (F:=ah) e3).trans (Ch.fr (F:=(·=w2.heap.size)) e5 rfl) (fun i hi he=>by omega)
  have h8:=b3.lt
  clear e3 e4 e5 d0 a6 c0
  have b8:∀ k i,R k i→i<w2.heap.size:=hC.fam.1
  have b9:∀ i,FO i→i<w2.heap.size:=fun i hi=>by have:=(b2 i hi).2;omega
  generalize i5:w2.heap.size=eb at b3 h8 b8 b9 ⊢
  have a7:∀ k,¬ R k eb:=fun k hk=>Nat.lt_irrefl _ (b8 k eb hk)
  have a2:=hC.af a3 (fun _ _ _ hN=>hN)
  have i6:=hA.imp (fun _ _ k=>pq.aa k a3)
  have i7:=h7.aa a3
  have d1:=c9.ag a3
  have b5:=f9.aa a3
  generalize l6:gs[j]=g at b3 he
  generalize l7:es'[j]=e at he a1
  have h9:=he.aa a3
  clear a3 hC hA f9 h7 c7 h6 h5 hP c9
  refine ⟨fun w'=>Ch (R 1) w4 w',fun w5 e5=>⟨Ch.drew e5,_,_,_,fun w' hc=>(a2.blk.af hc (fun hx=>a2.fam.2 0 1 (by omega) xb a2.z hx)).cell 1 rfl,?_⟩⟩
  refine ⟨_,_,_,_,_,⟨fun w' hc=>(b3.af hc (a7 1)).cell 0 rfl,fun w' hc=>(b3.af hc (a7 1)).cell 1 rfl,fun w' hc=>(b3.af hc (a7 1)).cell 2 rfl⟩,?_⟩
  have tail:∀ (wa:World) (nb:Nat),Ch (R 1) w4 wa→Own wa ct 3 (some p) (es'.length-1) c ((gs.eraseIdx j).map ly).flatten (R 1)→ba wa nb (ly g) ct →
    ∃ (d2:OA) (d3 d4:Nat) (b4:World),(Builtin.append_ #[fh,fh] fh #[.slice (some p) (es'.length-1) c,.slice (some ⟨nb,0,none⟩) 1 1]).run Tryz.prog wa = .ok (.slice d2 d3 d4) b4 ∧
     Ch (R 1) w4 b4∧((∃ u,b4.cell? (⟨xb,1,none⟩:Addr)=some u)∧b4.frozen? (⟨xb,1,none⟩:Addr)=false)∧∀ a8:World,a8=b4.setCell (⟨xb,1,none⟩:Addr) (.slice d2 d3 d4) →
      ∃ i0:Int,a8.cell? (⟨eb,2,none⟩:Addr)=some (.int .i64 i0)∧∀ g2:World,g2=a8.alloc (.cells #[.int .i64 i0] bd (0,0)) →
       ∃ (d5:OA) (d6 d7:Nat) (c8:World),(Builtin.append_ #[ay,ay] ay #[.slice oA out.length oC,.slice (some ⟨a8.heap.size,0,none⟩) 1 1]).run Tryz.prog g2 = .ok (.slice d5 d6 d7) c8 ∧
        ∃ vk_1:Nat,vk_1<f+1∧∃ (m':Nat) (es'':List bw) (out':List Int),IntKind.i64.wrap ((m:Int)+4)=m'∧4≤m'∧t.length≤m'+vk_1∧oz v t vk_1 m' es'' out'=bz es v t∧out'.length+vk_1≤t.length∧es''.length=es.length∧d6=out'.length∧FX W w c8 pb xb k B ps es'' FP FI d5 d7 out':=by
   intro wa nb c4 i8 i9
   have l8:=c4.size
   have j0:=a2.fam.le c4.size
   have j1:=a2.blk.af c4 (fun hx=>a2.fam.2 0 1 (by omega) xb a2.z hx)
   have j2:df (fun g e=>pq wa g e (R 2)) gs es':=i6.imp (fun _ _ k=>pq.af k c4 (fun i _ a b=>a2.fam.2 2 1 (by omega) i a b))
   have j3:=h9.af c4 (fun i _ a b=>a2.fam.2 2 1 (by omega) i a b)
   obtain ⟨o',c',b4,g3,c5,d8,j4⟩:=GG (F:=FI') (es:=es'.eraseIdx j) j0 a2.z j1 i8 (by rw [List.length_eraseIdx,if_pos g0,a2.len]) (df.eraseIdx j2 j) hF (by omega) i9 j3
   refine ⟨o',_,c',b4,g3,c4.same c5,d8,fun a8 j5=>?_⟩
   obtain ⟨d9,e0⟩:=j4 a8 j5
   have f5:=a2.z
   have b6:Ch (fun i=>R 1 i∨i=xb) w4 a8:=((c4.same c5).mono (fun i _ hi => .inl hi)).same (e0.mono (fun i _ hi => .inr hi))
   have j6:=c5.size
   have j7:=e0.size
   have g4:=b3.af b6 (fun hx=>by
    rcases hx with hx|hx
    ·exact a7 1 hx
    ·exact a7 0 (hx▸f5))
   refine ⟨_,g4.cell 2 rfl,fun g2 j8=>?_⟩
   have j9:∀ i,(R 1 i∨i=xb)→FI' i:=fun i hi=>by
    rcases hi with hi|hi
    ·exact hF 1 i hi
    ·exact hF 0 i (hi▸f5)
   have g5:Ch FI' w4 a8:=b6.mono (fun i _ hi=>j9 i hi)
   have a4:PX W a8 pb xb k B ps (es'.eraseIdx j++[e]) FP (Ext FI' wa b4):=by
    have h1:=b5.index (d9.mono (fun i hi hE=>hE.imp id (fun h=>⟨by have:=h.1;omega,hi⟩))) g5
    exact ⟨h1.p,d9,h1.g,fun i hi=>by
     rcases hi with hi|hi
     ·exact ⟨(b5.f i hi).1,by have:=(b5.f i hi).2;omega⟩
     ·exact ⟨by have:=hi.1;have:=b5.p.c.size;omega,by have:=hi.2;omega⟩,fun i hi hf=>by
     rcases hi with hi|hi
     ·exact b5.ap i hi hf
     ·have:=b5.p.lt i hf;have:=hi.1;omega⟩
   have g6:=i7.af g5 (fun i _ a b=>f3 i a b)
   obtain ⟨oB,cB,c8,g7,g8,a5⟩:=Own.pW (enc := .int .i64) bi g6 ay g.page j8 rfl (by unfold maxLen;omega) (by omega)
   have k0:=a5.size
   have k1:eb<w4.heap.size:=h8
   have k2:g.page=e.page:=h9.2.1
   refine ⟨oB,_,cB,c8,g7,f,by omega,m+4,es'.eraseIdx j++[e],out++[g.page],by rw [ae (by omega) (by omega)];rfl,by omega,by omega,by rw [k2];exact a1,by simp;omega,?_,by simp,?_⟩
   ·rw [List.length_append,List.length_eraseIdx,if_pos a0];simp;omega
   have e1:Ch FI w a8:=d1.trans g5 (fun i hi hf=>(f0 i hf).Td hi)
   have e2:Ch FI w c8:=e1.trans a5 (fun i hi hf=>absurd hi (Nat.not_lt.2 (b2 i hf).1))
   have l9:=d1.size
   have e6:∀ i,i<a8.heap.size→Ext FI' wa b4 i→¬ FO i:=fun i _ hi hf=>by
    rcases hi with hi|hi
    ·exact f3 i hf hi
    ·have:=b9 i hf;have:=hi.1;omega
   refine ⟨Ext FI' wa b4,Ext FO a8 c8,⟨⟨a4.p.r.af a5 (fun i _ hi hf=>by have:=b5.p.lt i hi;have:=b2 i hf;have:=this.1;have:=h.p.lt;exact absurd (h.p.lt i hi) (Nat.not_lt.2 (b2 i hf).1)),a4.p.f.le a5.size,a4.p.c.trans a5 (fun i hi hf=>by have:=(b2 i hf).1;have:=h.p.c.size;omega)⟩,a4.x.af a5 e6,a4.g,a4.f.le a5.size,a4.ap⟩,?_,?_,?_,?_,e2⟩
   ·intro i hi
    rcases hi with hi|hi
    ·rcases f0 i hi with hi|hi
     ·exact .inl hi
     ·exact .inr ⟨hi.1,by have:=hi.2;omega⟩
    ·exact .inr ⟨by have:=hi.1;omega,by have:=hi.2;omega⟩
   ·simpa using g8
   ·intro i hi
    rcases hi with hi|hi
    ·exact ⟨(b2 i hi).1,by have:=(b2 i hi).2;omega⟩
    ·exact ⟨by have:=hi.1;omega,hi.2⟩
   ·intro i hi hf
    rcases hi with hi|hi
    ·exact e6 i (by have:=b9 i hi;omega) hf hi
    ·rcases hf with hf|hf
     ·have:=(b5.f i hf).2;have:=hi.1;omega
     ·have:=hf.2;have:=hi.1;omega
  have m0:w4.heap.size=w5.heap.size:=by subst e5;rfl
  have m1:∀ {w'},Ch (R 1) w4 w'→ba w' eb (ly g) ct:=fun hc=>b3.af hc (a7 1)
  refine ⟨?_,fun k3 g9=>?_,trivial⟩
  ·refine ab (we (a2.own.aa (Ch.drew e5)) a2.len a0 (by omega)) ?_
   rintro x w8 ⟨rfl,k4,k5⟩
   have c6:Ch (R 1) w4 w8:=(Ch.drew (F:=R 1) e5).same k5
   refine ⟨_,_,_,rfl,c6,fun w9 e9=>⟨c6.ag (Ch.alloc e9),?_⟩⟩
   exact tail w9 w8.heap.size (c6.ag (Ch.alloc e9)) (k4.aa (Ch.alloc e9)) (ba.new e9)
  ·have h0:=ba.new g9
   have e7:Ch (R 1) w4 k3:=(Ch.drew (F:=R 1) e5).ag (Ch.alloc g9)
   refine ⟨e7,?_⟩
   refine ab (we ((a2.own.aa (Ch.drew e5)).aa (Ch.alloc g9)) a2.len a0 (by omega)) ?_
   rintro x k6 ⟨rfl,h2,e8⟩
   have b7:=e7.same e8
   refine ⟨_,_,_,rfl,b7,?_⟩
   exact tail k6 w5.heap.size b7 h2 (h0.af e8 (fun hx=>by have:=b8 1 _ hx;omega))
 ·rintro jk oA oN oC k7 ⟨rfl,FI',FO,hP,f0,hO,b2,f3,f4⟩
  have f5:k7.cell? ⟨xb,0,none⟩=some (.pointer (some ⟨pb,0,none⟩)):=by
   obtain ⟨o,c,gs,R,hC,_⟩:=hP.x
   exact hC.blk.cell 0 rfl
  have k8:(bz es v t).2.length≤t.length:=h4.2
  have i1:∀ i,FO i→¬ FP i:=fun i hi hf=>absurd (h.p.lt i hf) (Nat.not_lt.2 (b2 i hi).1)
  refine ⟨_,f5,?_⟩
  refine ab (Fj hP.p.r hO.rd (fun i _ hi hf=>i1 i hi hf) (by omega) (by omega) hP.g.FC oC) ?_
  rintro x m2 ⟨rfl,h3,a9⟩
  refine ⟨_,rfl,FI',FO,oA,oC,rfl,hO.af a9 (fun i _ hi hf=>i1 i hi hf),fun i hi=>db.le (b2 i hi) a9.size,hP.sa h3 a9 ?_,fun i hi=>(f0 i hi).imp id (fun h=>⟨h.1,by have:=h.2;have:=a9.size;omega⟩),f3,?_⟩
  ·split
   ·exact (bh.Good.Hg hB.1 hP.g).le (by omega)
   ·exact hP.g.le (by omega)
  ·exact (f4.mono (fun i _ hi => .inl hi)).trans a9 (fun i _ hi => .inr hi)
end
end Go.Proofs.YtkbikekbaboclaaGreat.dh
set_option linter.unusedVariables false
set_option linter.unusedSimpArgs false
namespace Go.Proofs.YtkbikekbaboclaaGreat.dh
open Go Go.Proofs V Vc Step bh Go.RowKit
def qM (ps:List ak) (id:Int):List ak:=if gg ps [id]&&!oP ps [id] then ek ps [id] else ps
def qH (ps:List ak) (id:Int):Int:=if mr ps id then (ax ps id).ar else 0
def xt (ps:List ak) (es:List bw):Nat:=es.findIdx (fun e=>qH ps e.page==1)
def EK (ps:List ak) (es:List bw):List ak:=match es[xt ps es]? with
 | some e=>qM ps e.page
 | none=>ps
def FD (v:Int) (ps:List ak) (e:bw):List ak:=if e.ver==v then qM ps e.page else ps
def uL (v:Int) (ps:List ak) (es:List bw):List ak:=es.foldl (FD v) ps
theorem Es (v:Int) (ps:List ak) (es:List bw) (e:bw):uL v ps (es++[e])=FD v (uL v ps es) e:=by unfold uL;rw [List.foldl_append];rfl
theorem df.filter {α β:Type} {R:α→β→Prop} {p:α→Bool} {q:β→Bool} (a0:∀ x y,R x y→p x=q y):∀ {xs:List α} {ys:List β},df R xs ys→df R (xs.filter p) (ys.filter q)
 | _,_,.nil => .nil
 | x :: xs,y :: ys,.cons a b=>by
  rw [List.filter_cons,List.filter_cons,a0 x y a]
  split
  ·exact .cons a (df.filter a0 b)
  ·exact df.filter a0 b
section
variable {W w w':World} {pb xb k n:Nat} {B:Int} {ps:List ak} {es:List bw} {FP FI Fa Fd F G:Nat→Prop} {o:OA} {c:Nat} {gs:List za} {R:Nat→Nat→Prop}
theorem tZ (h:bh.Good k B ps) (hB:0≤B) (id:Int):bh.Good k B (qM ps id):=by
 unfold qM
 split
 ·rename_i h2;exact h.Rg hB (wU.2 h2)
 ·exact h
theorem NZ (h:bh.Good k B ps) (hB:0≤B) (v:Int):∀ es:List bw,bh.Good k B (uL v ps es):=fun es=>by
 induction es generalizing ps with
 | nil=>exact h
 | cons e r ih =>
  have:uL v ps (e :: r)=uL v (FD v ps e) r:=rfl
  rw [this]
  refine ih ?_
  unfold FD
  split
  ·exact tZ h hB _
  ·exact h
theorem Fy {nb T:Nat} (h:dk w pb ps FP) (hF:∀ i,FP i→i<w.heap.size) (hg:bh.Good k B ps) (hk:k≤1000) (hB:0≤B∧B≤1000000000) {id:Int} (hb:ba w nb [.int .i64 id] T) (hn:¬ FP nb) :
  Calls Tryz.prog sH #[.pointer (some ⟨pb,0,none⟩),.slice (some ⟨nb,0,none⟩) 1 1] w (bc fun v w'=>(∃ x:Int,v = .int .i64 x)∧dk w' pb (qM ps id) FP∧Ch FP w w'):=by
 have r:Rd w (some ⟨nb,0,none⟩) (([id]:List Int).map (.int .i64)) (·=nb):=hb.rd
 refine ab (GY (l:=[id]) h hF r (fun i hi=>by have:=hb.lt;omega) (fun i _ hi hf=>hn (hi▸hf)) (by simp) (by rw [hg.len];omega) ⟨hB.1,by omega⟩ hg.FC 1) ?_
 rintro v w' ⟨rfl,hr,hc⟩
 exact ⟨⟨_,rfl⟩,hr,hc⟩
theorem FZ {g:za} {e:bw} {cb T:Nat} {sv:Value} (he:pq w g e Fd) (hP:dk w pb ps FP) (hb:ba w cb [.pointer (some ⟨xb,0,none⟩)] T) (hx:ba w xb [.pointer (some ⟨pb,0,none⟩),sv] mf) :
  Calls Tryz.prog ju #[.agg #[.int .i64 g.ver,.slice g.to g.tn g.tc,.int .i64 g.page],.pointer (some ⟨cb,0,none⟩)] w (bc fun x w'=>x = .bool (qH ps e.page==1)∧Ch ah w w'):=by
 refine vS.calls _ _ _ _ _ _ ?_
 intro w1 e1
 have hE:=ba.new e1
 have a0:Ch ah w w1:=Ch.alloc e1
 have a2:=hb.aa a0
 have a3:=hx.aa a0
 refine ⟨fun w'=>Ch ah w1 w',fun w2 e2=>⟨Ch.drew e2,_,fun w' hc=>(a2.aa hc).cell 0 rfl,_,fun w' hc=>(a3.aa hc).cell 0 rfl,_,fun w' hc=>(hE.aa hc).cell 2 rfl,?_⟩⟩
 have a1:=a0.ag (Ch.drew e2)
 refine ab (FB (hP.aa a1) _) ?_
 rintro x w3 ⟨rfl,rfl⟩
 refine ⟨_,rfl,Ch.drew e2,?_,a1⟩
 unfold qH
 rw [he.2.1]
theorem LO (h:PX W w pb xb k B ps es FP FI) (hB:0≤B∧B≤1000000000) (hk:k≤1000) (hn:es.length<1000) :
  Calls Tryz.prog xM #[.pointer (some ⟨xb,0,none⟩)] w (bc fun x w'=>x = .bool (decide (xt ps es<es.length))∧PX W w' pb xb k B (EK ps es) (es.eraseIdx (xt ps es)) FP FI∧Ch (fun i=>FI i∨FP i) w w'):=by
 refine zY.calls _ ?_
 intro w1 e1
 have a8:=ba.new e1
 have c7:Ch ah w w1:=Ch.alloc e1
 have h1:=h.aa c7
 have d8:¬ FI w.heap.size:=fun hi=>Nat.lt_irrefl _ (h.lt _ hi)
 have c5:¬ FP w.heap.size:=fun hi=>Nat.lt_irrefl _ (h.p.lt _ hi)
 have e2:w.heap.size<w1.heap.size:=a8.lt
 clear e1
 generalize f6:w.heap.size=cb at a8 d8 c5 e2 ⊢
 obtain ⟨o,c,gs,R,hC,hF,hA⟩:=h1.x
 refine ⟨_,a8.cell 0 rfl,eg rfl ⟨_,a8.cell 0 rfl,_,_,_,hC.blk.cell 1 rfl,?_⟩⟩
 refine ab (Gk (p:=fun e=>qH ps e.page==1) hC.own hC.len hA (fun w' hc g e he=>FZ he (h1.p.r.aa hc) (a8.aa hc) (hC.blk.aa hc))) ?_
 rintro x w2 ⟨rfl,a9⟩
 have e4:es.findIdx (fun e=>qH ps e.page==1)=xt ps es:=rfl
 rw [e4]
 have f7:∀ {w'},Ch ah w w'→Ch (fun i=>FI i∨FP i) w w':=fun hc=>hc.any
 by_cases a3:xt ps es<es.length
 rotate_left
 ·rw [if_neg a3,decide_eq_false a3]
  have hc:=c7.ag a9
  refine ⟨_,rfl,pj (by decide) ⟨rfl,?_,hc.any⟩⟩
  have e1:EK ps es=ps:=by unfold EK;rw [List.getElem?_eq_none (by omega)]
  rw [e1,List.eraseIdx_of_length_le (by omega)]
  exact h.aa hc
 rw [if_pos a3,decide_eq_true a3]
 refine ⟨_,rfl,eg (decide_eq_false (by omega)) ?_⟩
 have c8:EK ps es=qM ps es[xt ps es].page:=by unfold EK;rw [List.getElem?_eq_getElem a3]
 rw [c8]
 generalize xt ps es=j at a3 ⊢
 have e5:(j:Int).toNat=j:=Int.toNat_natCast j
 have c6:j<gs.length:=by rw [hA.length];exact a3
 have h2:=h1.aa a9
 have c9:=a8.aa a9
 have b2:=hC.af a9 (fun _ _ _ hN=>hN)
 have e6:df (fun g e=>pq w2 g e (R 2)) gs es:=hA.imp (fun _ _ k=>k.aa a9)
 have b3:∀ k i,R k i→¬ FP i:=fun k i hi=>h.ap i (hF k i hi)
 have e7:=hF 0 xb hC.z
 obtain ⟨p,hp,_⟩:=b2.own.rd.elem (sz:=3) (enc:=ly) (fun _=>rfl) (by omega) c6
 subst hp
 have e8:=(hA.get j c6 a3).2.1
 refine ⟨fun w'=>Ch FP w2 w',fun w3 e3=>⟨Ch.drew e3,?_⟩⟩
 refine ⟨_,fun w' hc=>(c9.af hc c5).cell 0 rfl,_,fun w' hc=>(b2.blk.af hc (fun hx=>b3 0 xb hC.z hx)).cell 0 rfl,_,fun w' hc=>(c9.af hc c5).cell 0 rfl,_,_,_,fun w' hc=>(b2.blk.af hc (fun hx=>b3 0 xb hC.z hx)).cell 1 rfl,⟨by omega,by omega⟩,?_⟩
 refine ⟨_,fun w' hc=>by
  obtain ⟨p',f0,_,_,b4⟩:=(b2.own.af hc (fun i _ a b=>b3 1 i a b)).rd.elem (sz:=3) (enc:=ly) (fun _=>rfl) (by omega) c6
  have f3:p=p':=Option.some.inj f0
  subst f3
  rw [e5];exact b4 2 _ rfl,fun w9 e9=>?_⟩
 have f4:=ba.new e9
 have a5:Ch ah w2 w9:=(Ch.drew (F:=ah) e3).ag (Ch.alloc e9)
 have f5:w2.heap.size=w3.heap.size:=by subst e3;rfl
 have h9:=h2.aa a5
 refine ⟨a5.any,?_⟩
 refine ab (Fy h9.p.r h9.p.lt h9.g hk hB f4 (fun hf=>by have:=h2.p.lt _ hf;omega)) ?_
 rintro x b5 ⟨⟨f8,rfl⟩,b6,b7⟩
 rw [e8] at b6
 have a1:Ch FP w2 b5:=(a5.any (F:=FP)).same b7
 have a6:=h9.sa b6 b7 (tZ h.g hB.1 _)
 refine ⟨_,rfl,a1,?_⟩
 have b8:=c9.af a1 c5
 have a2:=b2.af a1 b3
 have d0:df (fun g e=>pq b5 g e (R 2)) gs es:=e6.imp (fun _ _ k=>k.af a1 (fun i _ a b=>b3 2 i a b))
 have b9:∀ k,¬ R k cb:=fun k hi=>d8 (hF k _ hi)
 refine ⟨fun w'=>Ch (R 1) b5 w',fun f9 d1=>⟨Ch.drew d1,?_⟩⟩
 have a7:¬ R 1 xb:=fun hx=>hC.fam.2 0 1 (by omega) xb hC.z hx
 refine ⟨_,fun w' hc=>(b8.af hc (b9 1)).cell 0 rfl,_,fun w' hc=>(b8.af hc (b9 1)).cell 0 rfl,_,_,_,fun w' hc=>(a2.blk.af hc a7).cell 1 rfl,?_⟩
 refine ab (we (a2.own.aa (Ch.drew d1)) a2.len a3 (by omega)) ?_
 rintro x d9 ⟨rfl,d2,d3⟩
 have a0:Ch (R 1) b5 d9:=(Ch.drew (F:=R 1) d1).same d3
 have c0:=a2.blk.af a0 a7
 refine ⟨_,_,_,rfl,a0,c0.ok 1 rfl,fun d4 e0=>⟨rfl,?_⟩⟩
 have a4:Ch (·=xb) d9 d4:=Ch.set (p:=⟨xb,1,none⟩) e0 rfl
 have c4:Ch FI b5 d4:=(a0.mono (fun i _ hi=>hF 1 i hi)).same (a4.mono (fun i _ hi=>hi▸e7))
 have d5:=c0.set e0
 have d6:(es.eraseIdx j).length=es.length-1:=by rw [List.length_eraseIdx,if_pos a3]
 have d7:yZ d4 xb pb (es.eraseIdx j) FI:=by
  refine ⟨some p,c,gs.eraseIdx j,R,⟨(a2.fam.le a0.size).le a4.size,hC.z,?_,?_,by rw [List.length_eraseIdx,if_pos c6,d6,hC.len]⟩,hF,?_⟩
  ·rw [d6];exact d5
  ·rw [d6];exact d2.af a4 (fun i _ hi he=>a7 (he▸hi))
  ·refine (df.eraseIdx d0 j).imp (fun g e hq=>(hq.af a0 (fun i _ a b=>hC.fam.2 2 1 (by omega) i a b)).af a4 (fun i _ a b=>hC.fam.2 2 0 (by omega) i a (b▸hC.z)))
 refine ⟨⟨⟨a6.p.r.af c4 (fun i _ a b=>h.ap i b a),a6.p.f.le c4.size,a6.f.hi a6.p.c c4⟩,d7,a6.g,a6.f.le c4.size,a6.ap⟩,?_⟩
 exact (((c7.ag a9).any (F:=fun i=>FI i∨FP i)).trans a1 (fun i _ hi => .inr hi)).trans c4 (fun i _ hi => .inl hi)
theorem Ea {g:za} {e:bw} {c0 c1 T0 T1:Nat} {sv:Value} {v:Int} (he:pq w g e Fd) (hP:dk w pb ps FP) (a3:∀ i,FP i→i<w.heap.size) (hg:bh.Good k B ps) (hk:k≤1000) (hB:0≤B∧B≤1000000000)
  (h0:ba w c0 [.int .i64 v] T0) (h1:ba w c1 [.pointer (some ⟨xb,0,none⟩)] T1) (hx:ba w xb [.pointer (some ⟨pb,0,none⟩),sv] mf) (n0:¬ FP c0) (n1:¬ FP c1) (nx:¬ FP xb) :
  Calls Tryz.prog gd #[.agg #[.int .i64 g.ver,.slice g.to g.tn g.tc,.int .i64 g.page],.pointer (some ⟨c0,0,none⟩),.pointer (some ⟨c1,0,none⟩)] w
   (bc fun x w'=>x = .bool (e.ver==v)∧dk w' pb (FD v ps e) FP∧Ch FP w w'):=by
 refine uB.calls _ _ _ _ _ _ _ ?_
 unfold FD
 intro w1 e1
 have hE:=ba.new e1
 have a1:Ch ah w w1:=Ch.alloc e1
 have a4:=h0.aa a1
 have a5:=h1.aa a1
 have a6:=hx.aa a1
 have hs:w.heap.size<w1.heap.size:=hE.lt
 have nE:¬ FP w.heap.size:=fun hf=>Nat.lt_irrefl _ (a3 _ hf)
 have hv:g.ver=e.ver:=he.1
 rw [← hv]
 refine ⟨_,hE.cell 0 rfl,_,a4.cell 0 rfl,fun hb=>?_,fun hb=>?_⟩
 ·refine ⟨fun w'=>Ch FP w1 w',fun w2 e2=>⟨Ch.drew e2,?_⟩⟩
  refine ⟨_,fun w' hc=>(a5.af hc n1).cell 0 rfl,_,fun w' hc=>(a6.af hc nx).cell 0 rfl,_,fun w' hc=>(hE.af hc nE).cell 2 rfl,fun w6 e6=>?_⟩
  have a7:=ba.new e6
  have a2:Ch ah w1 w6:=(Ch.drew (F:=ah) e2).ag (Ch.alloc e6)
  have b2:w1.heap.size=w2.heap.size:=by subst e2;rfl
  refine ⟨a2.any,?_⟩
  refine ab (Fy (hP.aa (a1.ag a2)) (fun i hi=>by have:=a3 i hi;have:=a2.size;omega) hg hk hB a7 (fun hf=>by have:=a3 _ hf;omega)) ?_
  rintro x w7 ⟨⟨b3,rfl⟩,a8,a9⟩
  have a0:Ch FP w1 w7:=(a2.any (F:=FP)).same a9
  refine ⟨_,rfl,a0,_,(hE.af a0 nE).cell 0 rfl,_,(a4.af a0 n0).cell 0 rfl,?_,?_,(a1.any (F:=FP)).same a0⟩
  ·rfl
  ·rw [if_pos hb,← he.2.1];exact a8
 ·refine ⟨_,hE.cell 0 rfl,_,a4.cell 0 rfl,rfl,?_,a1.any⟩
  rw [if_neg (by rw [hb];decide)]
  exact hP.aa a1
end
end Go.Proofs.YtkbikekbaboclaaGreat.dh
