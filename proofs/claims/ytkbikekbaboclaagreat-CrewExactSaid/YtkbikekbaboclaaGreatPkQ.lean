import Derived.Test.YtkbikekbaboclaaGreatPkLa
import Derived.Test.YtkbikekbaboclaaGreatPkVa
set_option linter.unusedVariables false
set_option linter.unusedSimpArgs false
namespace Go.Proofs.YtkbikekbaboclaaGreat.bh
open Go Go.Proofs V Vc Step Go.RowKit
def nS (w:World) (g:xo) (p:ak) (Fd:Nat→Prop):Prop :=
 g.ver=p.ver∧g.ar=p.ar∧g.en=p.es.length∧∃ qs:List (Value × Value),Rd w g.eo (qs.map ei).flatten Fd∧df (fun q e=>oE w q e Fd) qs p.es∧(∀ e∈p.es,BW e)
theorem nS.af {w w':World} {g:xo} {p:ak} {Fd G:Nat→Prop} (h:nS w g p Fd) (hc:Ch G w w') (h2:∀ i,i<w.heap.size→Fd i→¬ G i):nS w' g p Fd:=by
 obtain ⟨a,b,c,qs,d,e,f⟩:=h
 exact ⟨a,b,c,qs,d.af hc h2,e.imp (fun _ _ k=>k.af hc h2),f⟩
theorem nS.mono {w:World} {g:xo} {p:ak} {Fd G:Nat→Prop} (h:nS w g p Fd) (h2:∀ i,i<w.heap.size→Fd i→G i):nS w g p G:=by
 obtain ⟨a,b,c,qs,d,e,f⟩:=h
 exact ⟨a,b,c,qs,d.mono h2,e.imp (fun _ _ k=>k.mono h2),f⟩
structure mn (w:World) (pb:Nat) (o:OA) (c:Nat) (gs:List xo) (R:Nat→Nat→Prop) (n:Nat):Prop where
 fam:Dy w R
 z:R 0 pb
 blk:ba w pb [.slice o n c] vi
 own:Own w fw 3 o n c (gs.map uY).flatten (R 1)
 len:gs.length=n
def dm (w:World) (pb:Nat) (ps:List ak) (F:Nat→Prop):Prop :=
 ∃ (o:OA) (c:Nat) (gs:List xo) (R:Nat→Nat→Prop),mn w pb o c gs R ps.length∧(∀ k i,R k i→F i)∧∀ (i:Nat) (h1:i<gs.length) (h2:i<ps.length),nS w gs[i] ps[i] (R 2)
section
variable {w w':World} {pb:Nat} {o:OA} {c n:Nat} {gs:List xo} {R:Nat→Nat→Prop} {ps:List ak} {F G:Nat→Prop}
theorem mn.af (h:mn w pb o c gs R n) (hc:Ch G w w') (hd:∀ k i,R k i→¬ G i):mn w' pb o c gs R n :=
 ⟨h.fam.le hc.size,h.z,h.blk.af hc (hd 0 pb h.z),h.own.af hc (fun i _ hi=>hd 1 i hi),h.len⟩
theorem dm.af (h:dm w pb ps F) (hc:Ch G w w') (hd:∀ i,i<w.heap.size→F i→¬ G i):dm w' pb ps F:=by
 obtain ⟨o,c,gs,R,hC,hF,hP⟩:=h
 have a0:∀ k i,R k i→¬ G i:=fun k i hi=>hd i (hC.fam.1 k i hi) (hF k i hi)
 exact ⟨o,c,gs,R,hC.af hc a0,hF,fun i h1 h2=>(hP i h1 h2).af hc (fun j _ hj=>a0 _ j hj)⟩
theorem dm.aa (h:dm w pb ps F) (hc:Ch ah w w'):dm w' pb ps F:=h.af hc (fun _ _ _=>id)
theorem dm.mono (h:dm w pb ps F) (hg:∀ i,i<w.heap.size→F i→G i):dm w pb ps G:=by
 obtain ⟨o,c,gs,R,hC,hF,hP⟩:=h
 exact ⟨o,c,gs,R,hC,fun k i hi=>hg i (hC.fam.1 k i hi) (hF k i hi),hP⟩
theorem dm.lt (h:dm w pb ps F):pb<w.heap.size∧F pb:=by
 obtain ⟨o,c,gs,R,hC,hF,hP⟩:=h
 exact ⟨hC.blk.lt,hF 0 pb hC.z⟩
theorem dm.len (h:dm w pb ps F):ps.length≤maxLen:=by
 obtain ⟨o,c,gs,R,hC,hF,hP⟩:=h
 exact Nat.le_trans hC.own.2.1 hC.own.2.2.1
theorem mn.at (h:mn w pb o c gs R n) {j:Nat} (hj:j<gs.length):∃ p,o=some p∧R 1 p.block∧w.cell? (p.add (j*3))=some (.int .i64 gs[j].ver)∧w.cell? ((p.add (j*3)).add 1)=some (.int .i64 gs[j].ar)∧w.cell? ((p.add (j*3)).add 2)=some (.slice gs[j].eo gs[j].en gs[j].ec) ∧
  ((∃ u,w.cell? (p.add (j*3))=some u)∧w.frozen? (p.add (j*3))=false)∧((∃ u,w.cell? ((p.add (j*3)).add 1)=some u)∧w.frozen? ((p.add (j*3)).add 1)=false)∧((∃ u,w.cell? ((p.add (j*3)).add 2)=some u)∧w.frozen? ((p.add (j*3)).add 2)=false):=by
 obtain ⟨p,hp,_,hF,hc⟩:=h.own.rd.elem (sz:=3) (fun _=>rfl) (by omega) hj
 have h0:=hc 0 _ rfl
 rw [cm] at h0
 have f0:=dp (enc:=uY) (sz:=3) (q:=0) gs (fun _=>rfl) hj (by omega)
 have f1:=dp (enc:=uY) (sz:=3) (q:=1) gs (fun _=>rfl) hj (by omega)
 have f2:=dp (enc:=uY) (sz:=3) (q:=2) gs (fun _=>rfl) hj (by omega)
 rw [Nat.add_zero] at f0
 refine ⟨p,hp,hF,h0,hc 1 _ rfl,hc 2 _ rfl,h.own.ok f0 hp,?_,?_⟩
 ·rw [add_add];exact h.own.ok f1 hp
 ·rw [add_add];exact h.own.ok f2 hp
theorem mn.put (h:mn w pb o c gs R n) {j q:Nat} (hj:j<gs.length) {p:Addr} (hp:o=some p) (hq:q<3) {v:Value} (ew:w'=w.setCell ((p.add (j*3)).add q) v) {g:xo} (hg:uY g=(uY gs[j]).set q v) :
  mn w' pb o c (gs.set j g) R n∧Ch (R 1) w w':=by
 rw [add_add] at ew
 have a0:j*3+q<(gs.map uY).flatten.length:=by
  have:=h.own.len
  rw [this,← h.len];omega
 obtain ⟨h1,h2⟩:=h.own.set a0 hp ew
 rw [sG (enc:=uY) gs (fun _=>rfl) hj hg hq] at h1
 exact ⟨⟨h.fam.le h2.size,h.z,h.blk.af h2 (fun hx=>h.fam.2 0 1 (by omega) pb h.z hx),h1,by rw [List.length_set];exact h.len⟩,h2⟩
theorem mn.Qv (h:mn w pb o c gs R n) {j:Nat} (hj:j<gs.length) {p:Addr} (hp:o=some p) {g:xo} (ew:w'=((w.setCell (p.add (j*3)) (.int .i64 g.ver)).setCell ((p.add (j*3)).add 1) (.int .i64 g.ar)).setCell ((p.add (j*3)).add 2) (.slice g.eo g.en g.ec)) :
  mn w' pb o c (gs.set j g) R n∧Ch (R 1) w w':=by
 have h0:w.setCell (p.add (j*3)) (.int .i64 g.ver)=w.setCell ((p.add (j*3)).add 0) (.int .i64 g.ver):=by rw [cm]
 rw [h0] at ew
 obtain ⟨a1,b1⟩:=h.put hj hp (q:=0) (by omega) rfl (g:=⟨g.ver,gs[j].ar,gs[j].eo,gs[j].en,gs[j].ec⟩) rfl
 have a0:j<(gs.set j ⟨g.ver,gs[j].ar,gs[j].eo,gs[j].en,gs[j].ec⟩).length:=by rw [List.length_set];exact hj
 obtain ⟨a2,b2⟩:=a1.put a0 hp (q:=1) (by omega) rfl (g:=⟨g.ver,g.ar,gs[j].eo,gs[j].en,gs[j].ec⟩) (by rw [List.getElem_set_self];rfl)
 rw [List.set_set] at a2
 have a4:j<(gs.set j ⟨g.ver,g.ar,gs[j].eo,gs[j].en,gs[j].ec⟩).length:=by rw [List.length_set];exact hj
 obtain ⟨a3,b3⟩:=a2.put a4 hp (q:=2) (by omega) ew (g:=g) (by rw [List.getElem_set_self];rfl)
 rw [List.set_set] at a3
 exact ⟨a3,(b1.same b2).same b3⟩
theorem dm.write {gs':List xo} {ps':List ak} (hC:mn w' pb o c gs' R n) (hc:Ch (R 1) w w') (hF:∀ k i,R k i→F i) (hn:ps'.length=n) (hP:∀ (i:Nat) (h1:i<gs'.length) (h2:i<ps'.length),nS w gs'[i] ps'[i] (R 2)):dm w' pb ps' F:=by
 subst hn
 exact ⟨o,c,gs',R,hC,hF,fun i h1 h2=>(hP i h1 h2).af hc (fun j _ a b=>hC.fam.2 2 1 (by omega) j a b)⟩
end
section
variable {w:World} {pb:Nat} {ps:List ak} {F G:Nat→Prop} {o:OA} {l:List Int}
theorem zL (h:dm w pb ps F) (id:Int):Calls Tryz.prog td #[.pointer (some ⟨pb,0,none⟩),.int .i64 id] w (bc fun v w'=>v = .bool (mr ps id)∧w'=w):=by
 obtain ⟨o,c,gs,R,hC,hF,hP⟩:=h
 refine ug.calls _ _ ?_
 refine ⟨fun h0=>⟨_,_,_,hC.blk.cell 0 rfl,fun h1=>?_,fun h1=>?_⟩,fun h0=>?_⟩
 ·have h0:=dQt h0
  have h1:=dQt h1
  have hj:id.toNat<gs.length:=by rw [hC.len];omega
  have a0:id.toNat<ps.length:=by rw [← hC.len];exact hj
  obtain ⟨p,rfl,_,_,a1,_⟩:=hC.at hj
  refine ⟨_,_,_,hC.blk.cell 0 rfl,⟨by omega,by omega⟩,_,a1,?_,rfl⟩
  unfold mr
  rw [ef h0 a0,(hP _ hj a0).2.1]
 ·have h0:=dQt h0
  have h1:=dQf h1
  cases hb:mr ps id with
  | true=>have:=gz hb;omega
  | false=>exact ⟨rfl,rfl⟩
 ·have h0:=dQf h0
  cases hb:mr ps id with
  | true=>have:=gz hb;omega
  | false=>exact ⟨rfl,rfl⟩
theorem nS.set {gs:List xo} {Fd:Nat→Prop} (hP:∀ (i:Nat) (h1:i<gs.length) (h2:i<ps.length),nS w gs[i] ps[i] Fd) {j:Nat} {g:xo} {p:ak} (hg:nS w g p Fd) :
  ∀ (i:Nat) (h1:i<(gs.set j g).length) (h2:i<(ps.set j p).length),nS w (gs.set j g)[i] (ps.set j p)[i] Fd:=fun i h1 h2=>by
 rw [List.getElem_set,List.getElem_set]
 split
 ·exact hg
 ·exact hP i (by simpa using h1) (by simpa using h2)
theorem nS.zero (w:World) (v u:Int) (Fd:Nat→Prop):nS w ⟨v,u,none,0,0⟩ ⟨v,u,[]⟩ Fd:=⟨rfl,rfl,rfl,[],Rd.nil _ _ _,.nil,fun e he=>by cases he⟩
theorem JU (w:World) (n:Int) (h:1≤n∧n≤64):Calls Tryz.prog wW #[.int .i64 n] w (bc fun v w'=>∃ pb,v = .pointer (some ⟨pb,0,none⟩)∧dm w' pb (List.replicate n.toNat qD) (db w w')∧Ch ah w w'):=by
 refine zC.calls _ ?_
 refine ⟨⟨rfl,by omega,by omega⟩,fun w1 e1 w2 e2=>?_⟩
 obtain ⟨m,rfl⟩:=Int.eq_ofNat_of_zero_le (by omega:0≤n)
 rw [Int.toNat_natCast] at e1 ⊢
 have hz:lu [.int .i64 0,.int .i64 0,.slice none 0 0] m=((List.replicate m (⟨0,0,none,0,0⟩:xo)).map uY).flatten:=by
  rw [List.map_replicate,Fi];rfl
 rw [hz] at e1
 have hg:w.heap.size<w1.heap.size:=(ba.new e1).lt
 have a0:(((List.replicate m (⟨0,0,none,0,0⟩:xo)).map uY).flatten.toArray).size=m*3:=by
  rw [← hz]
  simp only [List.size_toArray]
  rw [hz,List.map_replicate,List.length_flatten]
  simp [uY]
 have hO:Own w1 fw 3 (some ⟨w.heap.size,0,none⟩) m m ((List.replicate m (⟨0,0,none,0,0⟩:xo)).map uY).flatten (·=w.heap.size):=Own.made (F:=(·=w.heap.size)) e1 a0 (by unfold maxLen;omega) rfl
 have a1:=ba.new e2
 have a2:Ch ah w1 w2:=Ch.alloc e2
 have a3:w1.heap.size<w2.heap.size:=a1.lt
 refine ⟨w1.heap.size,rfl,⟨some ⟨w.heap.size,0,none⟩,m,List.replicate m ⟨0,0,none,0,0⟩,fun k i=>(k=0∧i=w1.heap.size)∨(k=1∧i=w.heap.size),⟨⟨fun k i hi=>by omega,fun j k a4 i h1 h2=>by omega⟩,.inl ⟨rfl,rfl⟩,?_,?_,by simp⟩,fun k i hi=>⟨by omega,by omega⟩,fun i h1 h2=>?_⟩,(Ch.alloc e1).ag a2⟩
 ·rw [List.length_replicate];exact a1
 ·rw [List.length_replicate]
  exact (hO.aa a2).mono (fun i _ hi => .inr ⟨rfl,hi⟩)
 ·rw [List.getElem_replicate,List.getElem_replicate]
  exact nS.zero _ _ _ _
theorem HC (h:dm w pb ps F) (v:Int):Calls Tryz.prog rf #[.pointer (some ⟨pb,0,none⟩),.int .i64 v] w (bc fun x w'=>x = .tuple #[.int .i64 (gj ps v).1,.int .i64 (gj ps v).2]∧dm w' pb (ou ps v) F∧Ch F w w'):=by
 refine sK.calls _ _ ?_
 unfold gj ou
 refine ⟨fun h1=>?_,fun h1=>⟨fun h2=>?_,fun h2=>?_⟩⟩
 ·have h1:=dQt h1
  rw [if_pos (.inl h1),if_pos (.inl h1)]
  exact ⟨rfl,h,Ch.refl _ _⟩
 ·have h2:=dQt h2
  rw [if_pos (.inr h2),if_pos (.inr h2)]
  exact ⟨rfl,h,Ch.refl _ _⟩
 ·have h1:=dQf h1
  have h2:=dQf h2
  have hv:¬ (v<1∨v>2147483647):=by omega
  rw [if_neg hv,if_neg hv]
  have a6:=h.len
  unfold maxLen at a6
  obtain ⟨o,c,gs,R,hC,hF,hP⟩:=h
  have hl:=hC.len
  refine ⟨fun i k w'=>w'=w∧∃ j:Nat,i=j∧j≤ps.length∧k=ps.length-j∧∀ m (hm:m<j) (h:m<ps.length),(ps[m].ar==0)=false,⟨_,rfl,0,rfl,Nat.zero_le _,rfl,fun m hm=>by omega⟩,?_⟩
  rintro jk i k w1 ⟨rfl,j,rfl,hj,rfl,a3⟩
  refine ⟨_,_,_,hC.blk.cell 0 rfl,fun a2=>?_,fun a7=>?_⟩
  ·have a2:j<ps.length:=by have:=dQt a2;omega
   have a4:j<gs.length:=by omega
   obtain ⟨p,hp,_,_,a1,_,k0,k1,k2⟩:=hC.at a4
   have hu:=(hP j a4 a2).2.1
   subst hp
   refine ⟨_,_,_,hC.blk.cell 0 rfl,⟨by omega,by omega⟩,_,a1,fun hz=>?_,fun hz=>?_⟩
   ·rw [hu] at hz
    have a0:rz ps=j:=(List.findIdx_eq a2).2 ⟨hz,fun m hm=>a3 m hm (by omega)⟩
    rw [a0,if_pos a2]
    refine ⟨_,_,_,hC.blk.cell 0 rfl,⟨by omega,by omega⟩,⟨k0,k1,k2⟩,fun w2 e2=>?_⟩
    obtain ⟨a8,a5⟩:=hC.Qv a4 rfl (g:=⟨v,1,none,0,0⟩) e2
    exact ⟨rfl,dm.write a8 a5 hF (by rw [List.length_set]) (nS.set hP (nS.zero _ _ _ _)),a5.mono (fun i _ hi=>hF 1 i hi)⟩
   ·rw [hu] at hz
    refine ⟨ps.length-(j+1),by omega,rfl,j+1,by rw [ae (by omega) (by omega)];rfl,a2,rfl,fun m hm h=>?_⟩
    by_cases a9:m=j
    ·subst a9;exact hz
    ·exact a3 m (by omega) h
  ·have b2:j=ps.length:=by have:=dQf a7;omega
   subst b2
   have a0:rz ps=ps.length:=List.findIdx_eq_length.2 (fun p hp=>by
    obtain ⟨m,hm,rfl⟩:=List.getElem_of_mem hp
    exact a3 m hm hm)
   rw [a0,if_neg (Nat.lt_irrefl _),List.set_eq_of_length_le (Nat.le_refl _)]
   exact ⟨rfl,⟨o,c,gs,R,hC,hF,hP⟩,Ch.refl _ _⟩
def Aw (ps:List ak):Nat:=(ps.filter fun p=>p.ar==0).length
theorem Ig (h:dm w pb ps F):Calls Tryz.prog rD #[.pointer (some ⟨pb,0,none⟩)] w (bc fun v w'=>v = .int .i64 (Aw ps)∧w'=w):=by
 refine sY.calls _ ?_
 have a3:ps.length≤maxLen:=h.len
 unfold maxLen at a3
 obtain ⟨o,c,gs,R,hC,hF,hP⟩:=h
 have hl:=hC.len
 refine ⟨fun n i k w'=>w'=w∧∃ j:Nat,i=j∧j≤ps.length∧k=ps.length-j∧n=Aw (ps.take j),⟨_,rfl,0,rfl,Nat.zero_le _,rfl,rfl⟩,?_⟩
 rintro jk n i k w' ⟨rfl,j,rfl,hj,rfl,rfl⟩
 refine ⟨_,_,_,hC.blk.cell 0 rfl,fun a0=>?_,fun a4=>?_⟩
 ·have a0:j<ps.length:=by have:=dQt a0;omega
  have a2:j<gs.length:=by omega
  obtain ⟨p,hp,_,_,a1,_⟩:=hC.at a2
  have hu:=(hP j a2 a0).2.1
  subst hp
  have a5:Aw (ps.take j)≤j:=by
   unfold Aw
   exact Nat.le_trans (List.length_filter_le _ _) (by simp;omega)
  have hs:Aw (ps.take (j+1))=Aw (ps.take j)+(if ps[j].ar==0 then 1 else 0):=by
   unfold Aw
   rw [au ps j a0,List.filter_append,List.length_append,List.filter_cons]
   split <;> simp
  refine ⟨_,_,_,hC.blk.cell 0 rfl,⟨by omega,by omega⟩,_,a1,fun hz=>?_,fun hz=>?_⟩
  ·rw [hu] at hz
   rw [hz] at hs
   refine ⟨ps.length-(j+1),by omega,rfl,j+1,by rw [ae (by omega) (by omega)];rfl,a0,rfl,?_⟩
   rw [ae (by omega) (by omega),hs];rfl
  ·rw [hu] at hz
   rw [hz] at hs
   exact ⟨ps.length-(j+1),by omega,rfl,j+1,by rw [ae (by omega) (by omega)];rfl,a0,rfl,by rw [hs];rfl⟩
 ·have:j=ps.length:=by have:=dQf a4;omega
  subst this
  rw [List.take_length]
  exact ⟨rfl,rfl⟩
end
end Go.Proofs.YtkbikekbaboclaaGreat.bh
set_option linter.unusedVariables false
set_option linter.unusedSimpArgs false
namespace Go.Proofs.YtkbikekbaboclaaGreat.bh
open Go Go.Proofs V Vc Step Go.RowKit
theorem BN (qs:List (Value × Value)):(qs.map ei).flatten.length=qs.length*2:=by
 induction qs with
 | nil=>rfl
 | cons q r ih=>rw [List.map_cons,List.flatten_cons,List.length_append,ih,List.length_cons];simp [ei];omega
theorem oE.one {w:World} {q:Value × Value} {e:gr} {F:Nat→Prop} (h:oE w q e F):q.1.oneCell'=true∧q.2.oneCell'=true:=by
 obtain ⟨⟨o1,c1,v1,h1,_,_⟩,⟨o2,c2,v2,h2,_,_⟩⟩:=h
 rw [h1,h2];exact ⟨rfl,rfl⟩
theorem xX {w:World} {F:Nat→Prop}:∀ {qs:List (Value × Value)} {es:List gr},df (fun q e=>oE w q e F) qs es→∀ u∈(qs.map ei).flatten,u.oneCell'=true
 | _,_,.nil,u,hu=>by simp at hu
 | _,_,.cons (x:=q) a b,u,hu=>by
  rw [List.map_cons,List.flatten_cons,List.mem_append] at hu
  rcases hu with hu|hu
  ·simp only [ei,List.mem_cons,List.not_mem_nil,or_false] at hu
   rcases hu with rfl|rfl
   ·exact (oE.one a).1
   ·exact (oE.one a).2
  ·exact xX b u hu
section
variable {w:World} {pb:Nat} {ps:List ak} {F G:Nat→Prop} {o:OA} {l:List Int}
theorem IG (h:dm w pb ps F) (j0:∀ i,F i→i<w.heap.size) (id:Int) {p:Value × Value} {e:gr} (he:oE w p e G) (hG:∀ i,G i→i<w.heap.size∧¬ F i) (hs:BW e) :
  Calls Tryz.prog rX #[.pointer (some ⟨pb,0,none⟩),.int .i64 id,.agg #[p.1,p.2]] w (bc fun v w'=>v = .int .i64 (ER ps id)∧dm w' pb (sf ps id e) (fun i=>Ext F w w' i∨G i)∧Ch F w w'):=by
 obtain ⟨a,b⟩:=p
 have h7:=he
 obtain ⟨⟨o1,c1,j1,f4,_,_⟩,⟨o2,c2,j2,f5,_,_⟩⟩:=he
 dsimp only at f4 f5
 subst f4;subst f5
 have a5:∀ {w'},dm w' pb ps F→dm w' pb ps (fun i=>Ext F w w' i∨G i):=fun h=>h.mono (fun i _ hi => .inl (.inl hi))
 obtain ⟨o',c',gs,R,f6,hF,f7⟩:=h
 have h:dm w pb ps F:=⟨o',c',gs,R,f6,hF,f7⟩
 refine tP.calls _ _ _ _ _ _ _ _ ?_
 intro w1 e1
 have d8:=ba.new e1
 have d8:ba w1 w.heap.size [.slice o1 e.1.length c1,.slice o2 e.2.length c2] az:=d8
 have b5:Ch ah w w1:=Ch.alloc e1
 have h1:=h.aa b5
 have f8:=h7.aa b5
 refine ab (zL h1 id) ?_
 rintro v w2 ⟨rfl,rfl⟩
 unfold sf ER
 refine ⟨_,rfl,fun hb=>?_,fun hb=>?_⟩
 ·have hb:mr ps id=false:=by simpa using hb
  rw [hb,if_neg Bool.false_ne_true,if_neg (by decide)]
  exact ⟨rfl,a5 h1,b5.any⟩
 have hb:mr ps id=true:=by simpa using hb
 rw [hb,if_pos rfl]
 obtain ⟨h0,hj⟩:=gz hb
 have hC:mn w2 pb o' c' gs R ps.length:=f6.af b5 (fun _ _ _ hN=>hN)
 have hP:∀ (i:Nat) (h1:i<gs.length) (h2:i<ps.length),nS w2 gs[i] ps[i] (R 2):=fun i h1 h2=>(f7 i h1 h2).af b5 (fun _ _ _ hN=>hN)
 have d5:id.toNat<gs.length:=by rw [hC.len];exact hj
 obtain ⟨p,hp,_,_,a1,a2,_⟩:=hC.at d5
 obtain ⟨g1,g2,g3,qs,f9,b6,g0⟩:=hP _ d5 hj
 rw [← ef h0 hj] at g1 g2 g3 b6 g0
 rw [g2] at a1
 rw [g3] at a2
 subst hp
 refine ⟨_,_,_,hC.blk.cell 0 rfl,⟨by omega,by omega⟩,_,a1,fun hu=>?_,fun hu=>?_⟩
 ·have hu:=dQt hu
  rw [if_pos hu,if_neg (by decide)]
  exact ⟨rfl,a5 h1,b5.any⟩
 have hu:=dQf hu
 rw [if_neg hu]
 refine ⟨_,_,_,hC.blk.cell 0 rfl,⟨by omega,by omega⟩,_,_,_,a2,fun hf=>?_,fun hf=>?_⟩
 ·have hf:=dQt hf
  rw [if_pos (by omega),if_neg (by decide)]
  exact ⟨rfl,a5 h1,b5.any⟩
 have hf:=dQf hf
 rw [if_neg (by omega),if_pos rfl]
 clear a1 a2
 refine ⟨fun w'=>∃ w3,w3=w2.drew∧Ch ah w3 w',fun w3 e3=>⟨⟨w3,e3,Ch.refl _ _⟩,?_⟩⟩
 have c0:Ch ah w2 w3:=Ch.drew e3
 have b7:mn w3 pb (some p) c' gs R ps.length:=hC.af c0 (fun _ _ _ hN=>hN)
 have h8:∀ (i:Nat) (h1:i<gs.length) (h2:i<ps.length),nS w3 gs[i] ps[i] (R 2):=fun i h1 h2=>(hP i h1 h2).af c0 (fun _ _ _ hN=>hN)
 have g4:=d8.drew e3
 have d9:=f9.aa c0
 have h9:=f8.aa c0
 have b8:df (fun q e=>oE w3 q e (R 2)) qs (ax ps id).es:=b6.imp (fun _ _ k=>k.aa c0)
 have c6:Ch ah w w3:=b5.ag c0
 have a6:∀ {w'},Ch ah w3 w'→∃ w3,w3=w2.drew∧Ch ah w3 w':=fun h=>⟨w3,e3,h⟩
 have d6:∀ {w'},(∃ w3,w3=w2.drew∧Ch ah w3 w')→Ch ah w3 w':=fun ⟨x,hx,h⟩=>by rw [hx,← e3] at h;exact h
 have i0:qs.length=(ax ps id).es.length:=b6.length
 clear hC hP d8 f9 f8 b6 h1 c0 b5 e1
 have i1:∀ {w'},Ch ah w3 w'→w'.cell? ((p.add (id.toNat*3)).add 2)=some (.slice gs[id.toNat].eo (ax ps id).es.length gs[id.toNat].ec):=fun {w'} hc=>by
  obtain ⟨p',e0,_,_,_,b2,_⟩:=(b7.af hc (fun _ _ _ hN=>hN)).at d5
  have e2:p=p':=Option.some.inj e0
  rw [e2,← g3];exact b2
 have tail:∀ (w9:World) (o9:OA) (n9 c9:Nat),n9=(ax ps id).es.length+1→Ch ah w3 w9→Rd w9 o9 ((qs++[(Value.slice o1 e.1.length c1,Value.slice o2 e.2.length c2)]).map ei).flatten (db w3 w9) →
   (0≤id∧id<((ps.length:Nat):Int))∧jr (some p) fun p_3 =>
     ((∃ u,w9.cell? ((p_3.add (id.toNat*3)).add 2)=some u)∧w9.frozen? ((p_3.add (id.toNat*3)).add 2)=false)∧∀ a7:World,a7=w9.setCell ((p_3.add (id.toNat*3)).add 2) (.slice o9 n9 c9) →
      (Value.int .i64 0 = .int .i64 0∧dm a7 pb (ps.set id.toNat { ax ps id with es:=(ax ps id).es++[e] }) (fun i=>Ext F w a7 i∨G i)∧Ch F w a7):=by
  intro w9 o9 n9 c9 i2 a4 e4
  subst i2
  have a8:=b7.fam
  have i3:∀ i,G i→i<w3.heap.size:=fun i hi=>Nat.lt_of_lt_of_le (hG i hi).1 c6.size
  have c7:=a4.size
  have i4:=c6.size
  have i5:Dy w9 (fun k i=>if k=2 then Ext (R 2) w3 w9 i∨G i else R k i):=by
   refine ⟨fun k i hi=>?_,fun j k i6 i h1 h2=>?_⟩
   ·dsimp only at hi
    split at hi
    ·rcases hi with (hi|hi)|hi
     ·exact Nat.lt_of_lt_of_le (a8.1 _ _ hi) c7
     ·exact hi.2
     ·exact Nat.lt_of_lt_of_le (i3 i hi) c7
    ·exact Nat.lt_of_lt_of_le (a8.1 _ _ hi) c7
   ·have key:∀ m,m≠2→R m i→¬ (Ext (R 2) w3 w9 i∨G i):=fun m hm hi hx=>by
     rcases hx with (hx|hx)|hx
     ·exact a8.2 m 2 hm i hi hx
     ·exact absurd (a8.1 _ _ hi) (Nat.not_lt.2 hx.1)
     ·exact (hG i hx).2 (hF _ _ hi)
    replace h1:(if j=2 then Ext (R 2) w3 w9 i∨G i else R j i):=h1
    replace h2:(if k=2 then Ext (R 2) w3 w9 i∨G i else R k i):=h2
    split at h1
    ·rw [if_neg (by omega)] at h2
     exact key k (by omega) h2 h1
    ·split at h2
     ·rename_i h3 _;exact key j h3 h1 h2
     ·exact a8.2 j k i6 i h1 h2
  have g5:mn w9 pb (some p) c' gs (fun k i=>if k=2 then Ext (R 2) w3 w9 i∨G i else R k i) ps.length:=⟨i5,by rw [if_neg (by omega)];exact b7.z,b7.blk.aa a4,by
   have:=b7.own.aa a4
   exact this.mono (fun i _ hi=>by rw [if_neg (by omega)];exact hi),b7.len⟩
  obtain ⟨p',e0,_,_,_,_,_,_,k2⟩:=g5.at d5
  have e2:p=p':=Option.some.inj e0
  subst e2
  refine ⟨⟨by omega,by omega⟩,?_⟩
  refine ⟨k2,fun a7 d3=>?_⟩
  obtain ⟨e5,a0⟩:=g5.put d5 rfl (q:=2) (by omega) d3 (g:=⟨gs[id.toNat].ver,gs[id.toNat].ar,o9,(ax ps id).es.length+1,c9⟩) rfl
  have g6:=a0.size
  refine ⟨rfl,?_,?_⟩
  ·refine dm.write (w:=w9) e5 a0 (fun k i hi=>?_) (by rw [List.length_set]) ?_
   ·replace hi:(if k=2 then Ext (R 2) w3 w9 i∨G i else R k i):=hi
    split at hi
    ·rcases hi with (hi|hi)|hi
     ·exact .inl (.inl (hF _ _ hi))
     ·exact .inl (.inr ⟨by have:=hi.1;omega,by have:=hi.2;omega⟩)
     ·exact .inr hi
    ·exact .inl (.inl (hF _ _ hi))
   ·show ∀ (i:Nat) (h1:i<(gs.set id.toNat ⟨gs[id.toNat].ver,gs[id.toNat].ar,o9,(ax ps id).es.length+1,c9⟩).length) (h2:i<(ps.set id.toNat { ax ps id with es:=(ax ps id).es++[e] }).length),nS w9 (gs.set id.toNat ⟨gs[id.toNat].ver,gs[id.toNat].ar,o9,(ax ps id).es.length+1,c9⟩)[i] (ps.set id.toNat { ax ps id with es:=(ax ps id).es++[e] })[i] (fun i=>Ext (R 2) w3 w9 i∨G i)
    refine nS.set (fun i h1 h2=>((h8 i h1 h2).af a4 (fun _ _ _ hN=>hN)).mono (fun m _ hm => .inl (.inl hm))) ⟨g1,g2,by simp,_,e4.mono (fun i _ hi => .inl (.inr hi)),df.snoc (b8.imp fun q x k=>(k.aa a4).mono (fun i _ hi => .inl (.inl hi))) ((h9.aa a4).mono (fun i _ hi => .inr hi)),fun x hx=>?_⟩
    rcases List.mem_append.1 hx with hx|hx
    ·exact g0 x hx
    ·rw [List.mem_singleton] at hx;subst hx;exact hs
  ·refine ((c6.ag a4).any (F:=F)).same (a0.mono (fun i _ hi=>?_))
   have hi:R 1 i:=by simpa using hi
   exact hF _ _ hi
 have g7:=nj
 have e6:=xX b8
 have i7:(qs.map ei).flatten.length=(ax ps id).es.length*2:=by rw [BN,i0]
 have j3:(ax ps id).es.length≤3:=by omega
 have c8:∀ {wx:World} {b:Nat},Ch ah w3 wx→Own wx az 2 (some ⟨b,0,none⟩) 0 0 [] (·=b)→w3.heap.size≤b→b<wx.heap.size→∃ (o4:OA) (c4:Nat) (wy:World) (F4:Nat→Prop),(Builtin.append_ #[bg,bg] bg #[.slice (some ⟨b,0,none⟩) 0 0,.slice gs[id.toNat].eo (ax ps id).es.length gs[id.toNat].ec]).run Tryz.prog wx = .ok (.slice o4 (ax ps id).es.length c4) wy ∧
   Own wy az 2 o4 (ax ps id).es.length c4 (qs.map ei).flatten F4∧Ch F4 wx wy∧(∀ i,F4 i→i=b∨(wx.heap.size≤i∧i<wy.heap.size))∧Ch ah w3 wy:=by
  intro wx b d7 ho hb j4
  obtain ⟨o4,c4,wy,hr,hO,hc⟩:=Own.ll (c2:=gs[id.toNat].ec) g7 ho bg (d9.aa d7) i7 e6 (by unfold maxLen;omega) (by omega)
  rw [Nat.zero_add,List.nil_append] at hO
  rw [Nat.zero_add] at hr
  exact ⟨o4,c4,wy,_,hr,hO,hc.mono (fun i _ hi => .inl hi),fun i hi=>hi,d7.trans hc (fun i hi h=>by omega)⟩
 have Mn:∀ {wx:World} {be:Nat} {o4:OA} {c4:Nat} {F4:Nat→Prop},Ch ah w3 wx→Own wx az 2 o4 (ax ps id).es.length c4 (qs.map ei).flatten F4→(∀ i,F4 i→w3.heap.size≤i∧i<wx.heap.size)→ba wx be [.slice o1 e.1.length c1,.slice o2 e.2.length c2] az →
   ∃ (o5:OA) (c5:Nat) (wy:World),(Builtin.append_ #[bg,bg] bg #[.slice o4 (ax ps id).es.length c4,.slice (some ⟨be,0,none⟩) 1 1]).run Tryz.prog wx = .ok (.slice o5 ((ax ps id).es.length+1) c5) wy∧Ch ah w3 wy∧Rd wy o5 ((qs++[(Value.slice o1 e.1.length c1,Value.slice o2 e.2.length c2)]).map ei).flatten (db w3 wy):=by
  intro wx be o4 c4 F4 d7 hO a9 hB
  obtain ⟨o5,c5,wy,hr,g8,hc⟩:=Own.ll (c2:=1) (m:=1) g7 hO bg hB.rd rfl (fun u hu=>by
   simp only [List.mem_cons,List.not_mem_nil,or_false] at hu
   rcases hu with rfl|rfl <;> rfl) (by unfold maxLen;omega) (by omega)
  have i8:=uj qs (Value.slice o1 e.1.length c1,Value.slice o2 e.2.length c2)
  rw [i8] at g8
  exact ⟨o5,c5,wy,hr,d7.trans hc (fun i hi h=>absurd hi (Nat.not_lt.2 (a9 i h).1)),g8.rd.mono (fun i _ hi=>by
   rcases hi with hi|hi
   ·exact ⟨(a9 i hi).1,Nat.lt_of_lt_of_le (a9 i hi).2 hc.size⟩
   ·exact ⟨by have:=d7.size;have:=hi.1;omega,hi.2⟩)⟩
 refine ⟨_,_,_,fun w' h=>(b7.af (d6 h) (fun _ _ _ hN=>hN)).blk.cell 0 rfl,_,_,_,fun w' h=>(b7.af (d6 h) (fun _ _ _ hN=>hN)).blk.cell 0 rfl,⟨by omega,by omega⟩,?_⟩
 refine ⟨_,_,_,fun w' h=>i1 (d6 h),_,_,_,_,_,_,⟨fun w' h=>(g4.aa (d6 h)).cell 0 rfl,fun w' h=>(g4.aa (d6 h)).cell 1 rfl⟩,fun w8 e8=>?_,fun w8 e8=>?_,trivial⟩
 ·have d4:Ch ah w3 w8:=Ch.alloc e8
  have g9:Own w8 az 2 (some ⟨w3.heap.size,0,none⟩) 0 0 [] (·=w3.heap.size):=Own.made e8 (by simp) (Nat.zero_le _) rfl
  have h4:w3.heap.size<w8.heap.size:=(ba.new e8).lt
  refine ⟨a6 d4,?_,fun w9 e9=>?_,trivial⟩
  ·obtain ⟨o4,c4,w9,F4,e4,e7,_,a9,a4⟩:=c8 d4 g9 (Nat.le_refl _) h4
   refine ⟨o4,_,c4,w9,e4,a6 a4,fun a7 d3=>?_⟩
   have a0:=a4.ag (Ch.alloc d3)
   have i9:w9.heap.size<a7.heap.size:=(ba.new d3).lt
   obtain ⟨o5,c5,b9,b3,a3,b4⟩:=Mn a0 (e7.aa (Ch.alloc d3)).Jw (fun i hi=>⟨by have:=a9 i hi.1;omega,by have:=hi.2;omega⟩) (ba.new d3)
   exact ⟨a6 a0,o5,_,c5,b9,b3,a6 a3,tail b9 o5 _ c5 rfl a3 b4⟩
  ·have a4:=d4.ag (Ch.alloc e9)
   have h5:w8.heap.size<w9.heap.size:=(ba.new e9).lt
   have f0:=ba.new e9
   obtain ⟨o4,c4,a7,F4,d0,d1,f3,a9,a0⟩:=c8 a4 (g9.aa (Ch.alloc e9)) (Nat.le_refl _) (by omega)
   have d2:=f0.af f3 (fun h=>by have:=a9 _ h;omega)
   obtain ⟨o5,c5,b9,b3,a3,b4⟩:=Mn a0 d1.Jw (fun i hi=>⟨by have:=a9 i hi.1;omega,hi.2⟩) d2
   exact ⟨a6 a4,o4,_,c4,a7,d0,a6 a0,o5,_,c5,b9,b3,a6 a3,tail b9 o5 _ c5 rfl a3 b4⟩
 ·have d4:Ch ah w3 w8:=Ch.alloc e8
  have h6:=ba.new e8
  have h4:w3.heap.size<w8.heap.size:=h6.lt
  refine ⟨a6 d4,fun w9 e9=>?_⟩
  have a4:=d4.ag (Ch.alloc e9)
  have e7:Own w9 az 2 (some ⟨w8.heap.size,0,none⟩) 0 0 [] (·=w8.heap.size):=Own.made e9 (by simp) (Nat.zero_le _) rfl
  have h5:w8.heap.size<w9.heap.size:=(ba.new e9).lt
  have f0:=h6.alloc e9
  obtain ⟨o4,c4,a7,F4,d0,d1,f3,a9,a0⟩:=c8 a4 e7 (by omega) h5
  have d2:=f0.af f3 (fun h=>by have:=a9 _ h;omega)
  obtain ⟨o5,c5,b9,b3,a3,b4⟩:=Mn a0 d1.Jw (fun i hi=>⟨by have:=a9 i hi.1;omega,hi.2⟩) d2
  exact ⟨a6 a4,o4,_,c4,a7,d0,a6 a0,o5,_,c5,b9,b3,a6 a3,tail b9 o5 _ c5 rfl a3 b4⟩
end
end Go.Proofs.YtkbikekbaboclaaGreat.bh
set_option linter.unusedVariables false
set_option linter.unusedSimpArgs false
namespace Go.Proofs.YtkbikekbaboclaaGreat.bh
open Go Go.Proofs V Vc Step Go.RowKit
def CS (d:Int) (ps:List ak) (l:List Int):List ak:=l.foldl (iy d) ps
def gx (p:ak):ak:=if p.ar=0 then qD else p
def Ol (d:Int) (ps:List ak) (l:List Int):List ak:=(CS d ps l).map gx
def nK (ps:List ak) (d:Int):List ak→List Int→Prop
 | _,[]=>True
 | q,x :: r=>mr ps x=true∧0≤(ax q x).ar+d∧nK ps d (iy d q x) r
theorem JR (d:Int) (l:List Int):∀ ps,(CS d ps l).length=ps.length:=by
 induction l with
 | nil=>intro ps;rfl
 | cons x r ih=>intro ps;exact (ih (iy d ps x)).trans (pd _ _ _)
theorem MK (d:Int) (ps:List ak) (l:List Int) (x:Int):CS d ps (l++[x])=iy d (CS d ps l) x:=by unfold CS;rw [List.foldl_append];rfl
theorem Jc {B d:Int} (hd : -1≤d∧d≤1):∀ (l:List Int) {B:Int} {ps},0≤B→FC B ps→FC (B+l.length) (CS d ps l)
 | [],B,ps,_,h=>by simpa [CS] using h
 | x :: r,B,ps,hB,h=>by
  have:=Jc (B:=0) hd r (by omega:0≤B+1) (EP h hB hd x)
  have e:B+((x :: r).length:Int)=B+1+r.length:=by rw [List.length_cons];omega
  rw [e];exact this
theorem nK.left {ps:List ak} {d:Int} {b:List Int}:∀ {a:List Int} {q:List ak},nK ps d q (a++b)→nK ps d q a
 | [],_,_=>trivial
 | _ :: _,_,h=>⟨h.1,h.2.1,nK.left h.2.2⟩
theorem nK.snoc {ps:List ak} {d x:Int}:∀ {a:List Int} {q:List ak},nK ps d q (a++[x])↔(nK ps d q a∧mr ps x=true∧0≤(ax (CS d q a) x).ar+d)
 | [],q=>⟨fun h=>⟨trivial,h.1,h.2.1⟩,fun h=>⟨h.2.1,h.2.2,trivial⟩⟩
 | y :: r,q=>by
  have ih:=nK.snoc (ps:=ps) (d:=d) (x:=x) (a:=r) (q:=iy d q y)
  exact ⟨fun h=>⟨⟨h.1,h.2.1,(ih.1 h.2.2).1⟩,(ih.1 h.2.2).2⟩,fun h=>⟨h.1.1,h.1.2.1,ih.2 ⟨h.1.2.2,h.2⟩⟩⟩
def sq (W w:World) (qs:List ak) (o:OA) (c:Nat) (Fd:Nat→Prop):Prop :=
 ∃ gs:List xo,gs.length=qs.length∧Gr ah W w fw 3 o qs.length c (gs.map uY).flatten∧∀ (i:Nat) (h1:i<gs.length) (h2:i<qs.length),nS w gs[i] qs[i] Fd
section
variable {W w w':World} {qs ps:List ak} {o:OA} {c:Nat} {Fd F G:Nat→Prop}
theorem sq.aa (h:sq W w qs o c Fd) (hc:Ch ah w w'):sq W w' qs o c Fd:=by
 obtain ⟨gs,hl,hg,hP⟩:=h
 exact ⟨gs,hl,hg.aa hc,fun i h1 h2=>(hP i h1 h2).af hc (fun _ _ _ h=>h)⟩
theorem sq.at (h:sq W w qs o c Fd) {j:Nat} (hj:j<qs.length):∃ p,o=some p∧w.cell? ((p.add (j*3)).add 1)=some (.int .i64 qs[j].ar) ∧
  ((∃ u,w.cell? (p.add (j*3))=some u)∧w.frozen? (p.add (j*3))=false)∧((∃ u,w.cell? ((p.add (j*3)).add 1)=some u)∧w.frozen? ((p.add (j*3)).add 1)=false)∧((∃ u,w.cell? ((p.add (j*3)).add 2)=some u)∧w.frozen? ((p.add (j*3)).add 2)=false):=by
 obtain ⟨gs,hl,hg,hP⟩:=h
 have a0:j<gs.length:=by omega
 obtain ⟨p,hp,_,hF,hc⟩:=hg.1.rd.elem (sz:=3) (enc:=uY) (fun _=>rfl) (by omega) a0
 have f0:=dp (enc:=uY) (sz:=3) (q:=0) gs (fun _=>rfl) a0 (by omega)
 have f1:=dp (enc:=uY) (sz:=3) (q:=1) gs (fun _=>rfl) a0 (by omega)
 have f2:=dp (enc:=uY) (sz:=3) (q:=2) gs (fun _=>rfl) a0 (by omega)
 rw [Nat.add_zero] at f0
 refine ⟨p,hp,?_,hg.1.ok f0 hp,?_,?_⟩
 ·rw [← (hP j a0 hj).2.1];exact hc 1 _ rfl
 ·rw [add_add];exact hg.1.ok f1 hp
 ·rw [add_add];exact hg.1.ok f2 hp
theorem Gr.QO {gs:List xo} {n:Nat} (h:Gr ah W w fw 3 o n c (gs.map uY).flatten) (hn:gs.length=n) {j q:Nat} (hj:j<gs.length) {p:Addr} (hp:o=some p) (hq:q<3) {v:Value} (ew:w'=w.setCell ((p.add (j*3)).add q) v) {g:xo} (hg:uY g=(uY gs[j]).set q v) :
  Gr ah W w' fw 3 o n c ((gs.set j g).map uY).flatten∧Ch (db W w) w w':=by
 rw [add_add] at ew
 have a0:j*3+q<(gs.map uY).flatten.length:=by
  have:=h.1.len
  rw [this,← hn];omega
 obtain ⟨h1,h2⟩:=h.1.set a0 hp ew
 rw [sG (enc:=uY) gs (fun _=>rfl) hj hg hq] at h1
 exact ⟨⟨h1.mono (fun i _ hi=>db.le hi h2.size),h.2.trans h2 (fun i hi hN=>absurd hi (Nat.not_lt.2 hN.1))⟩,h2⟩
theorem nS.fr {gs:List xo} (hP:∀ (i:Nat) (h1:i<gs.length) (h2:i<ps.length),nS w gs[i] ps[i] Fd) {j:Nat} {g:xo} {p:ak} (hg:nS w g p Fd) (hc:Ch G w w') (hd:∀ i,i<w.heap.size→Fd i→¬ G i) :
  ∀ (i:Nat) (h1:i<(gs.set j g).length) (h2:i<(ps.set j p).length),nS w' (gs.set j g)[i] (ps.set j p)[i] Fd:=fun i h1 h2=>(nS.set hP hg i h1 h2).af hc hd
theorem sq.ar (h:sq W w qs o c Fd) (hd:∀ i,Fd i→i<W.heap.size) {x:Int} (h0:0≤x) (h1:x.toNat<qs.length) {p:Addr} (hp:o=some p) {d:Int} (ew:w'=w.setCell ((p.add (x.toNat*3)).add 1) (.int .i64 ((ax qs x).ar+d))) :
  sq W w' (iy d qs x) o c Fd∧Ch (db W w) w w':=by
 obtain ⟨gs,hl,hg,hP⟩:=h
 have a0:x.toNat<gs.length:=by omega
 obtain ⟨h2,h3⟩:=Gr.QO hg hl a0 hp (q:=1) (by omega) ew (g:=⟨gs[x.toNat].ver,(ax qs x).ar+d,gs[x.toNat].eo,gs[x.toNat].en,gs[x.toNat].ec⟩) rfl
 obtain ⟨x1,x2,x3,x4⟩:=hP _ a0 h1
 rw [← ef h0 h1] at x1 x3 x4
 unfold iy
 exact ⟨⟨_,by rw [List.length_set,List.length_set];exact hl,by rw [List.length_set];exact h2,nS.fr (g:=⟨gs[x.toNat].ver,(ax qs x).ar+d,gs[x.toNat].eo,gs[x.toNat].en,gs[x.toNat].ec⟩) hP ⟨x1,rfl,x3,x4⟩ h3 (fun i _ hi hN=>absurd (hd i hi) (Nat.not_lt.2 hN.1))⟩,h3⟩
theorem sq.zero (h:sq W w qs o c Fd) (hd:∀ i,Fd i→i<W.heap.size) {j:Nat} (h1:j<qs.length) {p:Addr} (hp:o=some p) (ew:w'=((w.setCell (p.add (j*3)) (.int .i64 0)).setCell ((p.add (j*3)).add 1) (.int .i64 0)).setCell ((p.add (j*3)).add 2) (.slice none 0 0)) :
  sq W w' (qs.set j qD) o c Fd∧Ch (db W w) w w':=by
 obtain ⟨gs,hl,hg,hP⟩:=h
 have a0:j<gs.length:=by omega
 have h0:w.setCell (p.add (j*3)) (.int .i64 0)=w.setCell ((p.add (j*3)).add 0) (.int .i64 0):=by rw [cm]
 rw [h0] at ew
 obtain ⟨a1,b1⟩:=Gr.QO hg hl a0 hp (q:=0) (by omega) rfl (g:=⟨0,gs[j].ar,gs[j].eo,gs[j].en,gs[j].ec⟩) rfl
 obtain ⟨a2,b2⟩:=Gr.QO a1 (by rw [List.length_set];exact hl) (j:=j) (by rw [List.length_set];exact a0) hp (q:=1) (by omega) rfl (g:=⟨0,0,gs[j].eo,gs[j].en,gs[j].ec⟩) (by rw [List.getElem_set_self];rfl)
 rw [List.set_set] at a2
 obtain ⟨a3,b3⟩:=Gr.QO a2 (by rw [List.length_set];exact hl) (j:=j) (by rw [List.length_set];exact a0) hp (q:=2) (by omega) ew (g:=⟨0,0,none,0,0⟩) (by rw [List.getElem_set_self];rfl)
 rw [List.set_set] at a3
 have hc:Ch (db W w) w w':=(b1.trans b2 (fun i hi hN=>⟨hN.1,hi⟩)).trans b3 (fun i hi hN=>⟨hN.1,hi⟩)
 exact ⟨⟨_,by rw [List.length_set,List.length_set];exact hl,by rw [List.length_set];exact a3,nS.fr hP (nS.zero _ _ _ _) hc (fun i _ hi hN=>absurd (hd i hi) (Nat.not_lt.2 hN.1))⟩,hc⟩
end
section
variable {w:World} {pb:Nat} {ps:List ak} {F G:Nat→Prop} {o:OA} {l:List Int}
theorem CG {B:Int} (h:dm w pb ps F) (hr:Rd w o (l.map (.int .i64)) G) (hl:l.length≤1000000) (f8:ps.length≤1000000) (hB:0≤B∧B≤1000000000000) (hb:FC B ps) (c:Nat) (d:Int) (hd : -1≤d∧d≤1) :
  Calls Tryz.prog er #[.pointer (some ⟨pb,0,none⟩),.slice o l.length c,.int .i64 d] w (bc fun v w'=>∃ b:Bool,(b=true↔nK ps d ps l)∧v = .int .i64 (if b then 0 else 8)∧dm w' pb (if b then Ol d ps l else ps) (Ext F w w')∧Ch F w w'):=by
 have a5:∀ {w'},dm w' pb ps F→dm w' pb ps (Ext F w w'):=fun h=>h.mono (fun i _ hi => .inl hi)
 refine tj.calls _ _ _ _ _ ?_
 intro w1 e1
 obtain ⟨o',c',gs,R,a3,hF,d2⟩:=h
 have h:dm w pb ps F:=⟨o',c',gs,R,a3,hF,d2⟩
 have b9:Ch ah w w1:=Ch.alloc e1
 have b4:∀ k i,R k i→i<w.heap.size:=a3.fam.1
 have hC:∀ {w'},Ch ah w w'→mn w' pb o' c' gs R ps.length:=fun hc=>a3.af hc (fun _ _ _ hN=>hN)
 have hP:∀ {w'},Ch ah w w'→∀ (i:Nat) (h1:i<gs.length) (h2:i<ps.length),nS w' gs[i] ps[i] (R 2):=fun hc i h1 h2=>(d2 i h1 h2).af hc (fun _ _ _ hN=>hN)
 have e2:=a3.len
 have a7:(gs.map uY).flatten.length=ps.length*3:=a3.own.len
 obtain ⟨o2,c2,w2,c0,a8,e3⟩:=Gr.HL (c2:=c') (m:=ps.length) sM (Gr.nG (G:=ah) (sz:=3) (Ch.refl _ w) e1) tx (hC b9).own.rd a7 (fun u hu=>by
  obtain ⟨y,hy,hu⟩:=List.mem_flatten.1 hu
  obtain ⟨g,_,rfl⟩:=List.mem_map.1 hy
  simp only [uY,List.mem_cons,List.not_mem_nil,or_false] at hu
  rcases hu with rfl|rfl|rfl <;> rfl) (by omega) (by omega)
 rw [Nat.zero_add] at c0 a8
 rw [List.nil_append] at a8
 have d3:sq w w2 ps o2 c2 (R 2):=⟨gs,e2,a8,hP a8.2⟩
 refine ⟨_,_,_,(hC b9).blk.cell 0 rfl,o2,_,c2,w2,c0,fun i k w'=>∃ j:Nat,i=j∧j≤l.length∧k=l.length-j∧sq w w' (CS d ps (l.take j)) o2 c2 (R 2)∧Ch ah w w'∧nK ps d ps (l.take j),⟨_,0,rfl,Nat.zero_le _,rfl,d3,a8.2,trivial⟩,?_⟩
 clear d3 c0 a8 e3 b9 e1
 rintro jk i k w3 ⟨j,rfl,hj,rfl,hN,a2,c4⟩
 refine ⟨fun a0=>?_,fun c5=>?_⟩
 ·have a0:j<l.length:=by have:=dQt a0;omega
  have c6:∀ {w'},Ch ah w w'→∃ p,o=some p∧w'.cell? (p.add ((j:Int).toNat*1))=some (.int .i64 l[j]):=fun {w'} hc=>by
   obtain ⟨p,hp,_,_,h⟩:=(hr.aa hc).QY a0
   exact ⟨p,hp,by rw [dw];exact h⟩
  obtain ⟨p,hp,b5⟩:=c6 a2
  have a7:∀ {w'},Ch ah w w'→w'.cell? (p.add ((j:Int).toNat*1))=some (.int .i64 l[j]):=fun {w'} hc=>by
   obtain ⟨p',d4,h⟩:=c6 hc
   rw [hp] at d4
   have e4:p=p':=Option.some.inj d4
   rw [e4];exact h
  clear b5 c6
  subst hp
  have b8:=MK d ps (l.take j) l[j]
  rw [← au l j a0] at b8
  have a9:=nK.snoc (ps:=ps) (d:=d) (x:=l[j]) (a:=l.take j) (q:=ps)
  rw [← au l j a0] at a9
  have d5:nK ps d ps l→nK ps d ps (l.take (j+1)):=fun h=>by
   rw [← List.take_append_drop (j+1) l] at h;exact h.left
  have f9:(l.take j).length≤1000000:=by rw [List.length_take];omega
  have d6:=Jc (B:=0) hd (l.take j) hB.1 hb
  have a4:=JR d (l.take j) ps
  refine ⟨⟨by omega,by omega⟩,?_⟩
  refine ⟨_,a7 a2,?_⟩
  generalize l[j]=id at b8 a7 a9
  generalize CS d ps (l.take j)=qs at hN b8 a9 d6 a4
  refine ab (zL (h.aa a2) id) ?_
  rintro v w4 ⟨rfl,rfl⟩
  refine ⟨_,rfl,fun a6=>?_,fun a6=>?_⟩
  ·have a6:mr ps id=false:=by simpa using a6
   refine ⟨false,⟨fun h=>by simp at h,fun h=>?_⟩,rfl,a5 (h.aa a2),a2.any⟩
   have:=(a9.1 (d5 h)).2.1
   rw [a6] at this;cases this
  have a6:mr ps id=true:=by simpa using a6
  obtain ⟨h0,h1⟩:=gz a6
  have b6:id.toNat<qs.length:=by omega
  have g0:=HJ d6 (by omega) id
  have d7:=ef h0 b6
  obtain ⟨q,hq,a1,_,k1,_⟩:=hN.at b6
  rw [← d7] at a1
  subst hq
  refine ⟨⟨by omega,by omega⟩,?_⟩
  refine ⟨_,a7 a2,⟨by omega,by omega⟩,?_⟩
  refine ⟨_,a1,fun hn=>?_,fun hn=>?_⟩
  ·have hn:=dQt hn
   rw [ae (by omega) (by omega)] at hn
   refine ⟨false,⟨fun h=>by simp at h,fun h=>?_⟩,rfl,a5 (h.aa a2),a2.any⟩
   have:=(a9.1 (d5 h)).2.2
   omega
  have hn:=dQf hn
  rw [ae (by omega) (by omega)] at hn
  refine ⟨fun w'=>Ch ah w4 w',fun w5 e5=>⟨Ch.drew e5,⟨by omega,by omega⟩,?_⟩⟩
  refine ⟨_,fun w' h=>a7 (a2.ag h),⟨by omega,by omega⟩,?_⟩
  refine ⟨_,fun w' h=>a7 (a2.ag h),⟨by omega,by omega⟩,?_⟩
  refine ⟨(ax qs id).ar,fun w' h=>?_,⟨by omega,by omega⟩,?_⟩
  ·obtain ⟨q',c7,b1,_⟩:=(hN.aa h).at b6
   rw [← d7] at b1
   have c8:q=q':=Option.some.inj c7
   rw [c8];exact b1
  obtain ⟨q',c7,_,_,k5,_⟩:=(hN.aa (Ch.drew e5)).at b6
  have c8:q=q':=Option.some.inj c7
  subst c8
  refine ⟨k5,fun w6 e6=>?_⟩
  rw [ae (by omega) (by omega)] at e6
  obtain ⟨e7,e8⟩:=(hN.aa (Ch.drew e5)).ar (b4 2) h0 b6 rfl e6
  refine ⟨l.length-(j+1),by omega,j+1,by rw [ae (by omega) (by omega)];rfl,a0,rfl,by rw [b8];exact e7,(a2.ag (Ch.drew e5)).trans e8 (fun i hi hN=>absurd hi (Nat.not_lt.2 hN.1)),a9.2 ⟨c4,a6,by omega⟩⟩
 ·have:j=l.length:=by have:=dQf c5;omega
  subst this
  rw [List.take_length] at hN c4
  have a4:=JR d l ps
  unfold Ol
  generalize CS d ps l=qs at hN a4 ⊢
  refine ⟨fun i k w'=>∃ j:Nat,i=j∧j≤qs.length∧k=qs.length-j∧sq w w' ((qs.take j).map gx++qs.drop j) o2 c2 (R 2)∧Ch ah w w',⟨_,0,rfl,Nat.zero_le _,rfl,hN,a2⟩,?_⟩
  clear hN a2
  rintro jk i k w4 ⟨j,rfl,hj,rfl,hN,b2⟩
  have e9:((qs.take j).map gx++qs.drop j).length=qs.length:=by simp;omega
  refine ⟨fun a0=>?_,fun c5=>?_⟩
  ·have a0:j<qs.length:=by have:=dQt a0;omega
   have c9:j<((qs.take j).map gx++qs.drop j).length:=by omega
   have d0:((qs.take j).map gx++qs.drop j)[j]=qs[j]:=by
    rw [List.getElem_append_right (by simp;omega)]
    simp [Nat.min_eq_left (Nat.le_of_lt a0)]
   have b7:((qs.take j).map gx++qs.drop j).set j (gx qs[j])=(qs.take (j+1)).map gx++qs.drop (j+1):=by
    have e0:((qs.take j).map gx).length=j:=by simp;omega
    rw [List.set_append_right _ _ (by omega),List.drop_eq_getElem_cons a0,au qs j a0,e0,Nat.sub_self,List.set_cons_zero,List.map_append,List.append_assoc]
    rfl
   generalize (qs.take j).map gx++qs.drop j=rs at hN e9 c9 d0 b7
   obtain ⟨q,hq,a1,k0,k1,k2⟩:=hN.at c9
   rw [d0] at a1
   subst hq
   refine ⟨⟨by omega,by omega⟩,?_⟩
   refine ⟨_,a1,fun hz=>?_,fun hz=>?_⟩
   ·have hz:qs[j].ar=0:=by simpa using hz
    refine ⟨⟨by omega,by omega⟩,?_⟩
    refine ⟨⟨k0,k1,k2⟩,fun w5 e5=>?_⟩
    obtain ⟨d8,b3⟩:=hN.zero (b4 2) c9 rfl e5
    have d1:gx qs[j]=qD:=by unfold gx;rw [if_pos hz]
    rw [d1] at b7
    rw [b7] at d8
    exact ⟨qs.length-(j+1),by omega,j+1,by rw [ae (by omega) (by omega)];rfl,a0,rfl,d8,b2.trans b3 (fun i hi hN=>absurd hi (Nat.not_lt.2 hN.1))⟩
   ·have hz:¬ qs[j].ar=0:=by simpa using hz
    have d1:gx qs[j]=rs[j]:=by unfold gx;rw [if_neg hz,d0]
    rw [d1,List.set_getElem_self] at b7
    rw [b7] at hN
    exact ⟨qs.length-(j+1),by omega,j+1,by rw [ae (by omega) (by omega)];rfl,a0,rfl,hN,b2⟩
  ·have:j=qs.length:=by have:=dQf c5;omega
   subst this
   rw [List.take_length,List.drop_length,List.append_nil] at hN
   refine ⟨(hC b2).blk.ok 0 rfl,fun w5 e5=>?_⟩
   have f0:=(hC b2).blk.set e5
   have b3:Ch (·=pb) w4 w5:=Ch.set e5 rfl
   have g1:pb<w.heap.size:=h.lt.1
   have g2:=b2.size
   have d9:=b3.size
   refine ⟨true,⟨fun _=>c4,fun _=>rfl⟩,rfl,?_,(b2.any (F:=F)).trans b3 (fun i _ hi=>by have hi:i=pb:=hi;subst hi;exact h.lt.2)⟩
   rw [if_pos rfl]
   obtain ⟨gs',f3,f4,f5⟩:=hN
   have f6:(qs.map gx).length=qs.length:=by simp
   refine ⟨o2,c2,gs',fun k i=>if k=1 then db w w4 i else R k i,⟨⟨fun k i hi=>?_,fun j k f7 i h1 h2=>?_⟩,?_,?_,?_,?_⟩,fun k i hi=>?_,fun i h1 h2=>?_⟩
   ·replace hi:(if k=1 then db w w4 i else R k i):=hi
    split at hi
    ·exact Nat.lt_of_lt_of_le hi.2 d9
    ·have:=b4 k i hi;omega
   ·replace h1:(if j=1 then db w w4 i else R j i):=h1
    replace h2:(if k=1 then db w w4 i else R k i):=h2
    split at h1
    ·rw [if_neg (by omega)] at h2
     exact absurd (b4 k i h2) (Nat.not_lt.2 h1.1)
    ·split at h2
     ·exact absurd (b4 j i h1) (Nat.not_lt.2 h2.1)
     ·exact a3.fam.2 j k f7 i h1 h2
   ·rw [if_neg (by omega)];exact a3.z
   ·exact f6▸a4▸f0
   ·exact (f4.1.af b3 (fun i _ hN he=>by have hi:i=pb:=he;have:=hN.1;omega)).mono (fun i _ hi=>by rw [if_pos rfl];exact hi)
   ·exact f3
   ·replace hi:(if k=1 then db w w4 i else R k i):=hi
    split at hi
    ·exact .inr ⟨hi.1,Nat.lt_of_lt_of_le hi.2 d9⟩
    ·exact .inl (hF k i hi)
   ·refine (f5 i h1 h2).af b3 (fun m _ hm he=>?_)
    have he:m=pb:=he
    subst he
    exact a3.fam.2 0 2 (by omega) m a3.z hm
end
end Go.Proofs.YtkbikekbaboclaaGreat.bh
