import Derived.Test.YtkbikekbaboclaaGreatPkP
import Derived.Test.YtkbikekbaboclaaGreatVc
import Derived.Test.YtkbikekbaboclaaGreatH
import Derived.Test.YtkbikekbaboclaaGreatProg
import Derived.KernelRfl
set_option linter.unusedVariables false
set_option linter.unusedSimpArgs false
namespace Go.Proofs.YtkbikekbaboclaaGreat.bh
open Go Go.Proofs V Vc Step Go.RowKit
theorem Nc (w:World) (n:Int) (h:n<1∨64<n):Calls Tryz.prog CB #[.int .i64 n] w (bc fun v w'=>v = .pointer none∧w'=w):=by
 refine Gx.calls _ ?_
 exact ⟨fun _=>⟨rfl,rfl⟩,fun h1=>⟨fun _=>⟨rfl,rfl⟩,fun h2=>by have:=dQf h1;have:=dQf h2;omega⟩⟩
structure Bc (W w:World) (pb:Nat) (ps:List ak) (F:Nat→Prop):Prop where
 r:dk w pb ps F
 f:rl W w F
 c:Ch ah W w
section
variable {W w w':World} {pb:Nat} {ps ps':List ak} {F:Nat→Prop}
theorem Bc.aa (h:Bc W w pb ps F) (hc:Ch ah w w'):Bc W w' pb ps F:=⟨h.r.aa hc,h.f.le hc.size,h.c.ag hc⟩
theorem Bc.step (h:Bc W w pb ps F) (hr:dk w' pb ps' F) (hc:Ch F w w'):Bc W w' pb ps' F:=⟨hr,h.f.le hc.size,h.f.hi h.c hc⟩
theorem Bc.ext (h:Bc W w pb ps F) (hr:dk w' pb ps' (Ext F w w')) (hc:Ch F w w'):Bc W w' pb ps' (Ext F w w'):=⟨hr,h.f.ext h.c hc.size,h.f.hi h.c hc⟩
theorem Bc.lt (h:Bc W w pb ps F):∀ i,F i→i<w.heap.size:=fun i hi=>(h.f i hi).2
end
end Go.Proofs.YtkbikekbaboclaaGreat.bh
namespace Go.Proofs.YtkbikekbaboclaaGreat.bh
open Go Go.Proofs V Vc Step Go.RowKit
theorem wC {ps:List ak} {i:Nat} {p:ak} {y:Int} (hy:0≤y) (hi:i<ps.length):ax (ps.set i p) y=if y.toNat=i then p else ax ps y:=by
 unfold ax
 rw [if_pos hy,if_pos hy,List.getD_eq_getElem?_getD,List.getD_eq_getElem?_getD]
 split
 ·rename_i h;rw [h,List.getElem?_set_self hi];rfl
 ·rename_i h;rw [List.getElem?_set_ne (fun e=>h e.symm)]
structure Inv (k:Nat) (B:Int) (ps:List ak):Prop where
 len:ps.length=k
 pg:∀ p∈ps,0≤p.ar∧p.ar≤B∧(p.ar>0→1≤p.ver∧p.ver≤4)
section
variable {k:Nat} {B:Int} {ps:List ak} {l:List Int}
theorem Inv.set (h:Inv k B ps) {B':Int} (hB:B≤B') {i:Nat} {p:ak} (hp:0≤p.ar∧p.ar≤B'∧(p.ar>0→1≤p.ver∧p.ver≤4)):Inv k B' (ps.set i p) :=
 ⟨by rw [List.length_set];exact h.len,fun q hq=>by
  rcases zJ hq with rfl|hq
  ·exact hp
  ·have:=h.pg q hq;exact ⟨this.1,by omega,this.2.2⟩⟩
theorem Inv.at (h:Inv k B ps) {id:Int} (h0:0≤id) (h1:id.toNat<ps.length):0≤(ax ps id).ar∧(ax ps id).ar≤B∧((ax ps id).ar>0→1≤(ax ps id).ver∧(ax ps id).ver≤4):=by
 rw [ef h0 h1];exact h.pg _ (List.getElem_mem _)
theorem Hu {id:Int} (h:mr ps id=true):(ax ps id).ar>0:=dQt h
theorem Inv.Hg:∀ {l:List Int} {B:Int} {ps:List ak},Inv k B ps→gg ps l=true→Inv k (B+l.length) (fe ps l)
 | [],B,ps,h,_=>by simpa [fe] using h
 | x :: r,B,ps,h,ha=>by
  unfold gg at ha
  rw [List.all_cons,Bool.and_eq_true,List.all_eq_true] at ha
  obtain ⟨h0,h1⟩:=gz ha.1
  have hp:=Hu ha.1
  have a2:=h.at h0 h1
  have hs:Inv k (B+1) (iy 1 ps x):=h.set (by omega) ⟨by show 0≤(ax ps x).ar+1;omega,by show (ax ps x).ar+1≤B+1;omega,fun _=>a2.2.2 hp⟩
  have a0:gg (iy 1 ps x) r=true:=by
   unfold gg
   rw [List.all_eq_true]
   intro y hy
   have a1:=ha.2 y hy
   have a3:=(gz a1).1
   unfold mr iy
   rw [wC a3 h1]
   split
   ·exact decide_eq_true (by show (ax ps x).ar+1>0;omega)
   ·exact a1
  have ih:=Inv.Hg (l:=r) hs a0
  have e1:fe ps (x :: r)=fe (iy 1 ps x) r:=rfl
  have e2:B+((x :: r).length:Int)=B+1+r.length:=by rw [List.length_cons];omega
  rw [e1,e2];exact ih
theorem Inv.ek:∀ {l:List Int} {ps:List ak},Inv k B ps→(∀ x∈l,0≤x∧x.toNat<ps.length∧(l.count x:Int)≤(ax ps x).ar)→Inv k B (bh.ek ps l)
 | [],ps,h,_=>h
 | x :: r,ps,h,ha=>by
  obtain ⟨h0,h1,h2⟩:=ha x (by simp)
  rw [List.count_cons_self] at h2
  have a1:=h.at h0 h1
  have hs:Inv k B (gi ps x):=by
   unfold gi
   split
   ·exact h.set (Int.le_refl _) ⟨by simp [qD],by simp [qD];omega,fun h=>by simp [qD] at h⟩
   ·exact h.set (Int.le_refl _) ⟨by show 0≤(ax ps x).ar + -1;omega,by show (ax ps x).ar + -1≤B;omega,fun _=>a1.2.2 (by omega)⟩
  have e1:bh.ek ps (x :: r)=bh.ek (gi ps x) r:=rfl
  rw [e1]
  refine Inv.ek (l:=r) hs fun y hy=>?_
  obtain ⟨y0,y1,y2⟩:=ha y (by simp [hy])
  refine ⟨y0,by rw [GS];exact y1,?_⟩
  have a2:(r.count y:Int)≤((x :: r).count y:Int):=by
   have:=List.count_le_count_cons (a:=y) (b:=x) (l:=r);omega
  unfold gi
  split
  ·rename_i hz
   rw [wC y0 h1]
   split
   ·rename_i e
    have a0:y=x:=by omega
    subst a0
    simp only [qD];omega
   ·omega
  ·unfold iy
   rw [wC y0 h1]
   split
   ·rename_i e
    have a0:y=x:=by omega
    subst a0
    show (r.count y:Int)≤(ax ps y).ar + -1
    omega
   ·omega
end
end Go.Proofs.YtkbikekbaboclaaGreat.bh
