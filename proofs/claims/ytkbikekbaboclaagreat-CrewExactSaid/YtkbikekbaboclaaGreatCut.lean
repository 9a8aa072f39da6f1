import Derived.Test.YtkbikekbaboclaaGreatPkA
import Derived.Lib.SliceRun
set_option linter.unusedVariables false
set_option linter.unusedSimpArgs false
namespace Go.Proofs.YtkbikekbaboclaaGreat.V
open Go Go.Proofs Go.RowKit
theorem RP (o:OA) (c k:Nat):(if c=0 then o else o.map (·.add (0*k)))=o:=by
 split
 ·rfl
 ·cases o with
  | none=>rfl
  | some a=>simp [cm]
theorem sJ (z:Array Value) (n:Nat):(Builtin.zeroCells z n).toList.length=n*z.size:=by simp [Builtin.zeroCells]
theorem Gi {z:Array Value} (h:z.toList.all (·.oneCell')=true) (hz:0<z.size) (n:Nat):∀ v∈(Builtin.zeroCells z n).toList,v.oneCell'=true:=fun v hv=>by
 simp only [Builtin.zeroCells,Array.toList_map,List.mem_map] at hv
 obtain ⟨i,_,rfl⟩:=hv
 have a0:i % z.size<z.size:=Nat.mod_lt _ hz
 rw [getElem!_pos z _ a0]
 exact List.all_eq_true.1 h _ (by simp)
theorem KW {P:Program} {e:TypeId} {i:TypeInfo} {z:Value} (hi:P.info? e=some i) (hz:i.zero=some z) (w:World):(zeroValue e).run P w = .ok z w:=by
 simp [zeroValue,typeInfo,program,Sem.run_bind,Sem.run,Result.andThen,hi,hz,pure]
def Ke (P:Program) (e:Nat):Bool :=
 match P.info? e with
 | some i=>match i.zero with
  | some z=>z.cells.toList.all (·.oneCell')
  | none=>false
 | none=>false
section
variable {P:Program} {w w':World} {t e sz n c bytes:Nat} {o:OA} {cs:List Value} {F:Nat→Prop}
theorem Own.clear (el:li P t e sz bytes) (a5:Ke P e=true) (h:Own w e sz o n c cs F) {i:Nat} (hi:i≤n) (ty:TypeId) :
  ∃ (x:Value) (w':World),(Builtin.clear_ #[t] ty #[.slice (if c=i then o else o.map (·.add (i*sz))) (n-i) (c-i)]).run P w = .ok x w'∧Own w' e sz o i c (cs.take (i*sz)) F∧Ch F w w':=by
 obtain ⟨inf,z,a0,hz,hs,hb,a7⟩:=el.inf
 have a8:=el.pos
 obtain ⟨a1,a2,a3,a4⟩:=h
 have a9:i*sz≤n*sz:=Nat.mul_le_mul_right _ hi
 by_cases b6:n-i=0
 ·have:i=n:=by omega
  subst this
  refine ⟨.tuple #[],w,?_,⟨by rw [List.length_take,a1];omega,a2,a3,?_⟩,Ch.refl _ _⟩
  ·rw [b6]
   cases (if c=i then o else o.map (·.add (i*sz))) <;> simp [Builtin.clear_,Sem.run_bind,run_underlying el.und,pure,Sem.run,Result.andThen]
  ·rw [List.take_of_length_le (by omega)];exact a4
 ·rcases a4 with ⟨rfl,rfl⟩|⟨g,off,cur,rfl,hF,hB,hl,ht⟩
  ·omega
  ·have hc:¬ c=i:=by omega
   rw [if_neg hc]
   have b7:(n-i)*sz=n*sz-i*sz:=Nat.sub_mul _ _ _
   have b9:n*sz≤c*sz:=Nat.mul_le_mul_right _ a2
   have b8:(Builtin.zeroCells z.cells (n-i)).toList.length=(n-i)*sz:=by rw [sJ,a7]
   have a6:=run_storeCells_cells (P:=P) g (off+i*sz) (Builtin.zeroCells z.cells (n-i)).toList 0 w
    (fun j hj=>by
     rw [hB.cells];simp only [Nat.add_zero,Option.isSome_iff_ne_none,ne_eq,List.getElem?_eq_none_iff,Nat.not_le];omega)
    (fun j hj=>hB.frozen _ rfl)
    (Gi (by
     unfold Ke at a5
     rw [a0] at a5;simp only [hz] at a5;exact a5) (by omega) _)
   simp only [Nat.add_zero] at a6
   obtain ⟨b1,b2,b3,b4,b5⟩:=nh (Builtin.zeroCells z.cells (n-i)).toList (off+i*sz) hB (by omega)
   refine ⟨.tuple #[],_,?_,⟨by rw [List.length_take,a1];omega,by omega,a3,.inr ⟨g,off,_,rfl,hF,b1,?_,?_⟩⟩,⟨b2,b3,b4,by rw [b5];exact Nat.le_refl _,fun k _ hk=>qP _ _ k (fun he=>hk (he▸hF))⟩⟩
   ·obtain ⟨m,hm⟩:∃ m,n-i=m+1:=⟨n-i-1,by omega⟩
    rw [hm] at a6 ⊢
    simp [Builtin.clear_,Sem.run_bind,run_underlying el.und,KW a0 hz,eh,a6,pure,Sem.run,Result.andThen]
   ·simp only [List.length_append,List.length_take,List.length_drop,b8];omega
   ·rw [List.append_assoc,List.drop_append_of_le_length (by rw [List.length_take];omega),List.drop_take,show off+i*sz-off=i*sz by omega]
    rw [← ht,List.take_take,Nat.min_eq_left a9]
    exact List.take_left' (by rw [List.length_take,List.length_drop];omega)
theorem Own.cut (el:li P t e sz bytes) (h:Own w e sz o n c cs F) {i j:Nat} (a8:i≤j) (hj:j≤n) (h1:∀ u∈cs,u.oneCell'=true) (ty:TypeId) :
  ∃ w':World,(Builtin.append_ #[t,t] ty #[.slice (if c=0 then o else o.map (·.add (0*sz))) (i-0) (c-0),.slice (if c=j then o else o.map (·.add (j*sz))) (n-j) (c-j)]).run P w = .ok (.slice o (i+(n-j)) c) w' ∧
   Own w' e sz o n c (cs.take (i*sz)++cs.drop (j*sz)++cs.drop ((i+(n-j))*sz)) F∧Ch F w w':=by
 obtain ⟨inf,z,a0,hz,hs,hb,c4⟩:=el.inf
 have a9:=el.pos
 have ho:(if c=0 then o else o.map (·.add (0*sz)))=o:=by
  split
  ·rfl
  ·cases o with
   | none=>rfl
   | some a=>simp [cm]
 rw [ho,Nat.sub_zero,Nat.sub_zero]
 have h0:=h
 obtain ⟨a1,a2,a3,a4⟩:=h
 by_cases b6:n-j=0
 ·have:j=n:=by omega
  subst this
  rw [b6,Nat.add_zero]
  refine ⟨w,tB el.und a0 (by omega) w _,?_,Ch.refl _ _⟩
  rw [List.drop_of_length_le (by omega:cs.length≤j*sz),List.append_nil,List.take_append_drop]
  exact h0
 ·rcases a4 with ⟨rfl,rfl⟩|⟨g,off,cur,rfl,hF,hB,hl,ht⟩
  ·omega
  ·rw [if_neg (by omega:¬ c=j)]
   have b7:j*sz≤n*sz:=Nat.mul_le_mul_right _ hj
   have b8:i*sz≤j*sz:=Nat.mul_le_mul_right _ a8
   have c5:n*sz≤c*sz:=Nat.mul_le_mul_right _ a2
   have a5:(n-j)*sz=n*sz-j*sz:=Nat.sub_mul _ _ _
   have a7:(i+(n-j))*sz=i*sz+(n*sz-j*sz):=by rw [Nat.add_mul,a5]
   have b9:(cs.drop (j*sz)).length=(n-j)*sz:=by rw [List.length_drop,a1,a5]
   have a6:=h0.rd
   have hr:=run_append_room_cells (P:=P) (w:=w) t ty e inf el.und a0 g off i c ((⟨g,off,none⟩:Addr).add (j*sz)) (n-j) (c-j) (cs.drop (j*sz)) (by rw [b9,hs])
    (fun q u hq=>by
     rw [List.getElem?_drop] at hq
     obtain ⟨a',c0,_,_,hc⟩:=a6 _ u hq
     have:a'=⟨g,off,none⟩:=(Option.some.inj c0).symm
     subst this
     rw [add_add];exact hc) (fun u hu=>h1 u (List.mem_of_mem_drop hu)) (by omega)
    (fun q hq=>by
     rw [hB.cells,hs];simp only [Option.isSome_iff_ne_none,ne_eq,List.getElem?_eq_none_iff,Nat.not_le];omega)
    (fun q hq=>hB.frozen _ rfl)
   rw [hs] at hr
   obtain ⟨b1,b2,b3,b4,b5⟩:=nh (cs.drop (j*sz)) (off+i*sz) hB (by omega)
   refine ⟨_,hr,⟨by simp only [List.length_append,List.length_take,List.length_drop,a1];omega,a2,a3,.inr ⟨g,off,_,rfl,hF,b1,?_,?_⟩⟩,⟨b2,b3,b4,by rw [b5];exact Nat.le_refl _,fun k _ hk=>qP _ _ k (fun he=>hk (he▸hF))⟩⟩
   ·simp only [List.length_append,List.length_take,List.length_drop];omega
   ·rw [List.append_assoc,List.drop_append_of_le_length (by rw [List.length_take];omega),List.drop_take,show off+i*sz-off=i*sz by omega]
    have e1:(cur.drop off).take (i*sz)=cs.take (i*sz):=by rw [← ht,List.take_take,Nat.min_eq_left (by omega)]
    rw [e1,← List.append_assoc]
    rw [List.take_append,List.take_of_length_le (by simp only [List.length_append,List.length_take,List.length_drop,a1];omega)]
    congr 1
    simp only [List.length_append,List.length_take,List.length_drop,a1]
    rw [← ht,List.drop_take,List.drop_drop]
    rw [show (i+(n-j))*sz=i*sz+(n*sz-j*sz) from a7]
    congr 1
    ·omega
    ·congr 1;omega
end
section
variable {α:Type} {enc:α→List Value} {sz:Nat}
theorem oM (a0:∀ y,(enc y).length=sz):∀ (ys:List α) (i:Nat),(ys.map enc).flatten.take (i*sz)=((ys.take i).map enc).flatten
 | [],i=>by simp
 | y :: r,0=>by simp
 | y :: r,i+1=>by
  rw [List.map_cons,List.flatten_cons,List.take_succ_cons,List.map_cons,List.flatten_cons,← oM a0 r i,List.take_append]
  rw [List.take_of_length_le (by rw [a0,Nat.succ_mul];omega),a0,show (i+1)*sz-sz=i*sz by rw [Nat.succ_mul];omega]
theorem qU (a0:∀ y,(enc y).length=sz):∀ (ys:List α) (i:Nat),(ys.map enc).flatten.drop (i*sz)=((ys.drop i).map enc).flatten
 | [],i=>by simp
 | y :: r,0=>by simp
 | y :: r,i+1=>by
  rw [List.map_cons,List.flatten_cons,List.drop_succ_cons,← qU a0 r i,List.drop_append]
  rw [List.drop_of_length_le (by rw [a0,Nat.succ_mul];omega),List.nil_append,a0,show (i+1)*sz-sz=i*sz by rw [Nat.succ_mul];omega]
end
theorem gf {α:Type} (ys:List α) (i:Nat):ys.eraseIdx i=ys.take i++ys.drop (i+1):=List.eraseIdx_eq_take_drop_succ ys i
end Go.Proofs.YtkbikekbaboclaaGreat.V
