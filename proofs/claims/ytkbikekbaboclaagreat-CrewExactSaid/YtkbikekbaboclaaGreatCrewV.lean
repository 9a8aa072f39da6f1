import Derived.Test.YtkbikekbaboclaaGreatPkE
import Derived.Test.YtkbikekbaboclaaGreatGenC
import Derived.Test.YtkbikekbaboclaaGreatPkB
set_option linter.unusedVariables false
set_option linter.unusedSimpArgs false
namespace Go.Proofs.YtkbikekbaboclaaGreat.fo
open Go Go.Proofs V Vc Step bh dh ee fv qn Go.RowKit
open gm (da di dl ik gq asks_one)
structure Sb (al wa:List da) (rs:List bo) (dn:Nat):Prop where
 sub:∀ a∈wa++rs.map (·.ask),a∈al
 nd:((wa++rs.map (·.ask)).map (·.id)).Nodup
 len:wa.length+rs.length+dn=al.length
section
variable {k:Nat} {al wa:List da} {rs:List bo} {dn:Nat} {a:da} {r:bo}
theorem Sb.pick {md:rY} {i m:Nat} {cr:Cr} {t:sx} (h:Sb al wa rs dn) (hi:i<rs.length) (hL:JG ey md i rs cr t m):Sb al (wa++t.Bk) cr.rs (if t.done=true then dn+1 else dn)∧(∀ q l,rs=q :: l→∀ x∈t.Bk,x.id≠q.ask.id):=by
 have a0:(cr.rs.map (·.ask)).Sublist ((rs.take m).map (·.ask))∧cr.rs.length+(if t.done=true then dn+1 else dn)=m+dn:=by
  have a8:=hL.le
  by_cases hg:t.gave=true
  ·obtain ⟨a1,a2,a3⟩:=hL.gave hg
   rw [a3,a1]
   exact ⟨List.Sublist.refl _,by rw [List.length_take,if_neg (by decide)];omega⟩
  ·have hg:t.gave=false:=by simpa using hg
   by_cases hd:t.done=true
   ·obtain ⟨b1,b2,b3,b4⟩:=hL.done hd
    rw [b4,hd]
    refine ⟨(List.eraseIdx_sublist _ _).map _,?_⟩
    rw [List.length_eraseIdx,List.length_take,if_pos rfl,if_pos (by omega)];omega
   ·have hd:t.done=false:=by simpa using hd
    obtain ⟨b1,b2,r,r',b3,b4,b5,b6⟩:=hL.goes hg hd
    rw [b6,hd]
    refine ⟨?_,by rw [List.length_set,List.length_take,if_neg (by decide)];omega⟩
    have a6:i<(rs.take m).length:=by rw [List.length_take];omega
    have he:(rs.take m)[i]=r:=by
     rw [List.getElem_take]
     rw [List.getElem?_eq_getElem hi] at b3
     injection b3
    rw [List.map_set,b4,← he]
    have:((rs.take m).map (·.ask))[i]'(by simpa using a6)=(rs.take m)[i].ask:=by simp
    rw [← this,List.set_getElem_self]
    exact List.Sublist.refl _
 obtain ⟨a0,a7⟩:=a0
 have a4:(wa++t.Bk++cr.rs.map (·.ask)).Sublist (wa++((rs.drop m).map (·.ask)).reverse++(rs.take m).map (·.ask)):=by
  rw [hL.aw];exact List.Sublist.append (List.Sublist.refl _) a0
 have hp:(wa++((rs.drop m).map (·.ask)).reverse++(rs.take m).map (·.ask)).Perm (wa++rs.map (·.ask)):=by
  rw [List.append_assoc]
  refine List.Perm.append_left _ ?_
  refine ((List.reverse_perm _).append_right _).trans (List.perm_append_comm.trans ?_)
  rw [← List.map_append,List.take_append_drop]
 refine ⟨⟨fun x hx=>h.sub x (hp.mem_iff.1 (a4.subset hx)),?_,?_⟩,?_⟩
 ·have:=(hp.map (·.id)).nodup_iff.2 h.nd
  exact List.Nodup.sublist (a4.map _) this
 ·have:=h.len
  have:=hL.le
  rw [hL.aw]
  simp only [List.length_append,List.length_reverse,List.length_map,List.length_drop]
  omega
 ·rintro q l rfl x hx he
  rw [hL.aw,List.mem_reverse] at hx
  have hm:=hL.le
  obtain ⟨n,rfl⟩:∃ n,m=n+1:=⟨m-1,by omega⟩
  rw [List.drop_succ_cons] at hx
  obtain ⟨y,hy,rfl⟩:=List.mem_map.1 hx
  have hn:=h.nd
  rw [List.map_append,List.nodup_append] at hn
  have a5:=hn.2.1
  rw [List.map_cons,List.map_cons,List.nodup_cons] at a5
  exact a5.1 (List.mem_map.2 ⟨y.ask,List.mem_map.2 ⟨y,List.mem_of_mem_drop hy,rfl⟩,he⟩)
end
def Dt (T:Nat→Prop) (R:Nat→Nat→Prop) (i:Nat):Prop:=¬ T i∧¬ dt R i
structure PS (W w:World) (R:Nat→Nat→Prop) (o:OA) (n c:Nat) (qs:List (da × di)) (T:Nat→Prop):Prop where
 ln:n=qs.length
 own:Own w dx 5 o n c (qs.map dl).flatten T
 t:∀ i,T i→W.heap.size≤i∧i<w.heap.size∧∀ k,¬ R k i
 ask:∀ q∈qs,lk w q (Dt T R)
section
variable {W w w':World} {R R':Nat→Nat→Prop} {o:OA} {n c cb pb xb k:Nat} {q:da × di} {qs al:List (da × di)} {T T':Nat→Prop} {md:rY} {ps ps':List ak} {es es':List bw} {rs rs':List bo}
theorem PS.tail (h:PS W w R o n c (q :: qs) T):PS W w R (if c=1 then o else o.map (·.add (1*5))) (n-1) (c-1) qs T:=by
 have hn:=h.ln
 have hs:=h.own.slice (lo:=1) (hi:=n) (by rw [hn];simp) (Nat.le_refl _)
 have a0:((((q :: qs).map dl).flatten.drop (1*5)).take ((n-1)*5))=(qs.map dl).flatten:=by
  rw [List.map_cons,List.flatten_cons,List.drop_left' (by rfl)]
  refine List.take_of_length_le ?_
  have:=h.own.len
  rw [List.map_cons,List.flatten_cons,List.length_append] at this
  have h5:(dl q).length=5:=rfl
  omega
 rw [a0] at hs
 exact ⟨by rw [hn];simp,hs,h.t,fun x hx=>h.ask x (List.mem_cons_of_mem _ hx)⟩
theorem Rd.Ri {al:List (da × di)} {F:Nat→Prop} (h:Rd w o (al.map dl).flatten F) {j:Nat} (hj:j<al.length):∃ p:Addr,o=some p∧F p.block∧p.block<w.heap.size∧∀ (G:Nat→Prop) (w':World),Ch G w w'→¬ G p.block→∀ q v,(dl al[j])[q]?=some v→w'.cell? ((p.add (j*5)).add q)=some v:=by
 obtain ⟨p,hp,hl,hF,a0⟩:=Rd.elem h (sz:=5) (enc:=dl) (fun _=>rfl) (by omega) hj
 refine ⟨p,hp,hF,hl,fun G w' hc hG q v hv=>?_⟩
 rw [← a0 q v hv]
 exact sS (w:=w) (w':=w') (by rw [oh,oh];exact hc.block _ hl hG)
end
end Go.Proofs.YtkbikekbaboclaaGreat.fo
