import Derived.Test.YtkbikekbaboclaaGreatPkQ
import Derived.Test.YtkbikekbaboclaaGreatVc
import Derived.Test.YtkbikekbaboclaaGreatH
import Derived.Test.YtkbikekbaboclaaGreatProg
import Derived.KernelRfl
set_option linter.unusedVariables false
set_option linter.unusedSimpArgs false
namespace Go.Proofs.YtkbikekbaboclaaGreat.bh
open Go Go.Proofs V Vc Step Go.RowKit
structure Good (k:Nat) (B:Int) (ps:List ak):Prop where
 len:ps.length=k
 pg:∀ p∈ps,0≤p.ar∧p.ar≤B∧(p.ar=0→p=qD)∧p.es.length≤4
section
variable {k:Nat} {B:Int} {ps qs:List ak} {l:List Int}
theorem Good.FC (h:Good k B ps):FC B ps:=fun p hp=>by have:=h.pg p hp;omega
theorem Good.le (h:Good k B ps) {B':Int} (hB:B≤B'):Good k B' ps:=⟨h.len,fun q hq=>by have:=h.pg q hq;exact ⟨this.1,by omega,this.2.2⟩⟩
theorem Good.set (h:Good k B ps) {B':Int} (hB:B≤B') {i:Nat} {p:ak} (hp:0≤p.ar∧p.ar≤B'∧(p.ar=0→p=qD)∧p.es.length≤4):Good k B' (ps.set i p) :=
 ⟨by rw [List.length_set];exact h.len,fun q hq=>by
  rcases zJ hq with rfl|hq
  ·exact hp
  ·have:=h.pg q hq;exact ⟨this.1,by omega,this.2.2⟩⟩
theorem Good.at (h:Good k B ps) (hB:0≤B) (id:Int):0≤(ax ps id).ar∧(ax ps id).ar≤B∧((ax ps id).ar=0→ax ps id=qD)∧(ax ps id).es.length≤4:=by
 have h0:0≤qD.ar∧qD.ar≤B∧(qD.ar=0→qD=qD)∧qD.es.length≤4:=⟨by simp [qD],by simp [qD];omega,fun _=>rfl,by simp [qD]⟩
 by_cases hi:0≤id∧id.toNat<ps.length
 ·rw [ef hi.1 hi.2];exact h.pg _ (List.getElem_mem _)
 ·have:ax ps id=qD:=by
   unfold ax
   split
   ·rw [List.getD_eq_getElem?_getD,List.getElem?_eq_none (by omega)];rfl
   ·rfl
  rw [this];exact h0
theorem Good.new (n:Nat):Good n 0 (List.replicate n qD):=⟨by simp,fun p hp=>by
 obtain rfl:=(List.mem_replicate.1 hp).2
 exact ⟨by simp [qD],by simp [qD],fun _=>rfl,by simp [qD]⟩⟩
theorem Good.take (h:Good k B ps) (hB:1≤B) (v:Int):Good k B (ou ps v):=by
 unfold ou
 split
 ·exact h
 ·exact h.set (Int.le_refl _) ⟨by show (0:Int)≤1;omega,hB,fun h=>by simp at h,by simp⟩
theorem Good.put (h:Good k B ps) (hB:0≤B) (id:Int) (e:gr):Good k B (sf ps id e):=by
 unfold sf
 split
 ·rename_i hz
  have a0:=h.at hB id
  have hb:mr ps id=true∧¬ (ax ps id).es.length≥4:=by
   unfold ER at hz
   split at hz
   ·rename_i hb
    split at hz
    ·cases hz
    ·split at hz
     ·cases hz
     ·rename_i h4;exact ⟨hb,h4⟩
   ·cases hz
  have hp:=Hu hb.1
  exact h.set (Int.le_refl _) ⟨a0.1,a0.2.1,fun h=>by have h:(ax ps id).ar=0:=h;omega,by rw [List.length_append];simp;omega⟩
 ·exact h
theorem BT {d:Int} (h:Good k B ps) (hB:0≤B) (x:Int) (hp:0<(ax ps x).ar+d) (hd:d≤1):Good k (B+1) (iy d ps x):=by
 have a0:=h.at hB x
 exact h.set (by omega) ⟨by show 0≤(ax ps x).ar+d;omega,by show (ax ps x).ar+d≤B+1;omega,fun h=>by have h:(ax ps x).ar+d=0:=h;omega,a0.2.2.2⟩
theorem Good.Hg:∀ {l:List Int} {B:Int} {ps:List ak},0≤B→Good k B ps→Good k (B+l.length) (fe ps l)
 | [],B,ps,_,h=>by simpa [fe] using h
 | x :: r,B,ps,hB,h=>by
  have a0:=h.at hB x
  have ih:=Good.Hg (l:=r) (by omega) (BT (d:=1) h hB x (by omega) (by omega))
  have e2:B+((x :: r).length:Int)=B+1+r.length:=by rw [List.length_cons];omega
  rw [e2];exact ih
theorem ui (h:Good k B ps):ps.map gx=ps:=by
 conv=>rhs;rw [← List.map_id ps]
 refine List.map_congr_left fun p hp=>?_
 unfold gx
 split
 ·rename_i hz;exact ((h.pg p hp).2.2.1 hz).symm
 ·rfl
theorem KT (hB:0≤B) (h:Good k B ps):Ol 1 ps l=fe ps l:=ui (Good.Hg (l:=l) hB h)
theorem Cx:∀ {l:List Int} {B:Int} {qs:List ak},0≤B→Good k B qs→(nK ps 1 qs l↔gg ps l=true)
 | [],_,_,_,_=>⟨fun _=>rfl,fun _=>trivial⟩
 | x :: r,B,qs,hB,h=>by
  have a0:=h.at hB x
  have ih:=Cx (l:=r) (by omega) (BT (d:=1) h hB x (by omega) (by omega))
  unfold gg at ih ⊢
  rw [List.all_cons,Bool.and_eq_true,← ih]
  exact ⟨fun h=>⟨h.1,h.2.2⟩,fun h=>⟨h.1,by omega,h.2⟩⟩
theorem Fx {x y d:Int} (h0:0≤x) (h1:x.toNat<qs.length) (hy:0≤y):(ax (iy d qs x) y).ar=if y=x then (ax qs x).ar+d else (ax qs y).ar:=by
 unfold iy
 rw [wC hy h1]
 by_cases e:y=x
 ·rw [if_pos e,if_pos (by omega)]
 ·rw [if_neg e,if_neg (by omega)]
theorem Ez:∀ {l:List Int} {qs:List ak},qs.length=ps.length→(nK ps (-1) qs l↔(gg ps l=true∧∀ x∈l,(l.count x:Int)≤(ax qs x).ar))
 | [],_,_=>⟨fun _=>⟨rfl,fun x hx=>by simp at hx⟩,fun _=>trivial⟩
 | x :: r,qs,hq=>by
  have ih:=Ez (l:=r) (qs:=iy (-1) qs x) (by rw [pd];exact hq)
  have a3:gg ps (x :: r)=true↔(mr ps x=true∧gg ps r=true):=by unfold gg;rw [List.all_cons,Bool.and_eq_true]
  rw [a3]
  have a1:∀ {y},gg ps r=true→y∈r→0≤y:=fun {y} ha hy=>by
   unfold gg at ha
   rw [List.all_eq_true] at ha
   exact (gz (ha y hy)).1
  constructor
  ·intro h
   obtain ⟨hb,hu,hr⟩:=h
   obtain ⟨ha,hc⟩:=ih.1 hr
   obtain ⟨h0,h1⟩:=gz hb
   refine ⟨⟨hb,ha⟩,fun y hy=>?_⟩
   by_cases a0:y∈r
   ·have:=hc y a0
    rw [Fx h0 (by omega) (a1 ha a0)] at this
    by_cases e:y=x
    ·subst e
     rw [if_pos rfl] at this
     rw [List.count_cons_self];omega
    ·rw [if_neg e] at this
     rw [List.count_cons_of_ne (fun h=>e h.symm)];exact this
   ·have a4:y=x:=by
     rcases List.mem_cons.1 hy with h|h
     ·exact h
     ·exact absurd h a0
    subst a4
    rw [List.count_cons_self,List.count_eq_zero_of_not_mem a0];omega
  ·rintro ⟨⟨hb,ha⟩,hc⟩
   obtain ⟨h0,h1⟩:=gz hb
   have hx:=hc x (by simp)
   rw [List.count_cons_self] at hx
   refine ⟨hb,by omega,ih.2 ⟨ha,fun y hy=>?_⟩⟩
   have a2:=hc y (by simp [hy])
   rw [Fx h0 (by omega) (a1 ha hy)]
   by_cases e:y=x
   ·subst e
    rw [if_pos rfl];omega
   ·rw [if_neg e]
    rw [List.count_cons_of_ne (fun h=>e h.symm)] at a2;exact a2
theorem wU:nK ps (-1) ps l↔(gg ps l&&!oP ps l)=true:=by
 rw [Ez rfl,Bool.and_eq_true]
 refine and_congr_right fun _=>?_
 unfold oP
 rw [Bool.not_eq_true',List.any_eq_false]
 refine forall_congr' fun x=>forall_congr' fun hx=>?_
 simp
theorem Iu {x:Int} (h0:0≤x) (h1:x.toNat<qs.length):ax (qs.map gx) x=gx (ax qs x):=by
 rw [ef h0 h1,ef h0 (by simpa using h1),List.getElem_map]
theorem Gt {x:Int} (h0:0≤x) (h1:x.toNat<qs.length) (hu:1≤(ax qs x).ar):(iy (-1) qs x).map gx=gi (qs.map gx) x:=by
 have hz:gx (ax qs x)=ax qs x:=by unfold gx;rw [if_neg (by omega)]
 unfold gi iy
 rw [Iu h0 h1,hz,List.map_set]
 split
 ·rename_i h
  unfold gx
  rw [if_pos (by show (ax qs x).ar + -1=0;omega)]
 ·rename_i h
  congr 1
  unfold gx
  rw [if_neg (by show ¬ (ax qs x).ar + -1=0;omega)]
theorem LZ:∀ {l:List Int} {qs:List ak},qs.length=ps.length→nK ps (-1) qs l→(CS (-1) qs l).map gx=ek (qs.map gx) l
 | [],_,_,_=>rfl
 | x :: r,qs,hq,h=>by
  obtain ⟨h0,h1⟩:=gz h.1
  have ih:=LZ (l:=r) (qs:=iy (-1) qs x) (by rw [pd];exact hq) h.2.2
  rw [Gt h0 (by omega) (by have:=h.2.1;omega)] at ih
  exact ih
theorem NJ (h:Good k B ps) (hg:nK ps (-1) ps l):Ol (-1) ps l=ek ps l:=by
 unfold Ol
 rw [LZ rfl hg,ui h]
theorem Good.gi (h:Good k B ps) (hB:0≤B) {x:Int} (hu:1≤(ax ps x).ar):Good k B (gi ps x):=by
 have a0:=h.at hB x
 unfold bh.gi
 split
 ·exact h.set (Int.le_refl _) ⟨by simp [qD],by simp [qD];omega,fun _=>rfl,by simp [qD]⟩
 ·exact h.set (Int.le_refl _) ⟨by show 0≤(ax ps x).ar + -1;omega,by show (ax ps x).ar + -1≤B;omega,fun h=>by have h:(ax ps x).ar + -1=0:=h;omega,a0.2.2.2⟩
theorem Good.drop (hB:0≤B):∀ {l:List Int} {qs:List ak},qs.length=ps.length→nK ps (-1) qs l→Good k B (qs.map gx)→Good k B (ek (qs.map gx) l)
 | [],_,_,_,h=>h
 | x :: r,qs,hq,hg,h=>by
  obtain ⟨h0,h1⟩:=gz hg.1
  have hu:1≤(ax qs x).ar:=by have:=hg.2.1;omega
  have hz:ax (qs.map gx) x=ax qs x:=by rw [Iu h0 (by omega)];unfold gx;rw [if_neg (by omega)]
  have hs:=Gt h0 (by omega:x.toNat<qs.length) hu
  have ih:=Good.drop hB (l:=r) (qs:=iy (-1) qs x) (by rw [pd];exact hq) hg.2.2 (by rw [hs];exact h.gi hB (by rw [hz];exact hu))
  rw [hs] at ih
  exact ih
theorem Good.Rg (h:Good k B ps) (hB:0≤B) (hg:nK ps (-1) ps l):Good k B (ek ps l):=by
 have:=Good.drop hB (l:=l) (qs:=ps) rfl hg (by rw [ui h];exact h)
 rwa [ui h] at this
end
section
variable {w:World} {pb k:Nat} {ps:List ak} {F G:Nat→Prop} {o:OA} {l:List Int}
theorem sX {B:Int} (h:dm w pb ps F) (hg:Good k B ps) (hr:Rd w o (l.map (.int .i64)) G) (hl:l.length≤1000000) (a1:ps.length≤1000000) (hB:0≤B∧B≤1000000000000) (c:Nat) :
  Calls Tryz.prog er #[.pointer (some ⟨pb,0,none⟩),.slice o l.length c,.int .i64 1] w (bc fun v w'=>v = .int .i64 (if gg ps l then 0 else 8)∧dm w' pb (if gg ps l then fe ps l else ps) (Ext F w w')∧Ch F w w'):=by
 refine ab (CG h hr hl a1 hB hg.FC c 1 (by omega)) ?_
 rintro v w' ⟨b,hb,rfl,a0,hc⟩
 rw [Cx hB.1 hg] at hb
 rw [KT hB.1 hg] at a0
 have a2:b=gg ps l:=by cases b <;> cases h:gg ps l <;> simp_all
 rw [← a2]
 exact ⟨rfl,a0,hc⟩
theorem AR {B:Int} (h:dm w pb ps F) (hg:Good k B ps) (hr:Rd w o (l.map (.int .i64)) G) (hl:l.length≤1000000) (a1:ps.length≤1000000) (hB:0≤B∧B≤1000000000000) (c:Nat) :
  Calls Tryz.prog er #[.pointer (some ⟨pb,0,none⟩),.slice o l.length c,.int .i64 (-1)] w (bc fun v w'=>v = .int .i64 (if gg ps l&&!oP ps l then 0 else 8)∧dm w' pb (if gg ps l&&!oP ps l then ek ps l else ps) (Ext F w w')∧Ch F w w'):=by
 refine ab (CG h hr hl a1 hB hg.FC c (-1) (by omega)) ?_
 rintro v w' ⟨b,hb,rfl,a0,hc⟩
 have a2:=hb
 rw [wU] at hb
 have a3:b=(gg ps l&&!oP ps l):=by cases b <;> cases h:(gg ps l&&!oP ps l) <;> simp_all
 rw [← a3]
 cases b with
 | false=>exact ⟨rfl,a0,hc⟩
 | true =>
  rw [if_pos rfl,NJ hg (a2.1 rfl)] at a0
  exact ⟨rfl,a0,hc⟩
end
end Go.Proofs.YtkbikekbaboclaaGreat.bh
namespace Go.Proofs.YtkbikekbaboclaaGreat.bh
open Go Go.Proofs V Vc Step Go.RowKit
section
variable {w:World} {o:OA} {l:List Int} {F G:Nat→Prop}
end
section
variable {w w':World} {ub:Nat} {ps:List ak} {F:Nat→Prop}
theorem dm.look (h:dm w ub ps F) {j:Nat} (hj:j<ps.length):∃ (p:Addr) (c:Nat),∀ w',Ch ah w w'→w'.cell? ⟨ub,0,none⟩=some (.slice (some p) ps.length c)∧w'.cell? (p.add (j*3))=some (.int .i64 ps[j].ver)∧w'.cell? ((p.add (j*3)).add 1)=some (.int .i64 ps[j].ar):=by
 obtain ⟨o,c,gs,R,hC,hF,hP⟩:=h
 have a0:j<gs.length:=by rw [hC.len];exact hj
 obtain ⟨p,hp,_⟩:=hC.at a0
 refine ⟨p,c,fun w' hc=>?_⟩
 have a3:=hC.af hc (fun _ _ _ hN=>hN)
 obtain ⟨p',a4,_,a1,a2,_⟩:=a3.at a0
 rw [hp] at a4
 have a5:p=p':=Option.some.inj a4
 subst a5
 subst hp
 refine ⟨a3.blk.cell 0 rfl,?_,?_⟩
 ·rw [← (hP j a0 hj).1];exact a1
 ·rw [← (hP j a0 hj).2.1];exact a2
end
section
variable {W w w':World} {pb ub:Nat} {ps qs ps' qs':List ak} {F FU G:Nat→Prop}
end
end Go.Proofs.YtkbikekbaboclaaGreat.bh
