import Derived.Test.YtkbikekbaboclaaGreatRun
set_option linter.unusedVariables false
set_option linter.unusedSimpArgs false
namespace Go.Proofs.YtkbikekbaboclaaGreat.rI
open Go Go.Proofs V Vc fv ee qX qn Go.RowKit
def qR (c:ep) (wt:ByteArray) (tk:Nat→List Int→Int):Nat→Nat→List gr→List Int→List Int
 | 0,_,_,_=>[]
 | f+1,at',past,sc=>if tk at' sc=0 then [] else tk at' sc :: qR c wt tk f (at'+1) (past++[nL c wt past (tk at' sc)]) (uR c wt past (tk at' sc))
def mh (c:ep) (most:Int) (ai:List Int):Int :=
 if ai=[]∨most<1∨most>32 then 1 else if ¬ ∀ t∈ai,0≤t∧t<c.vocab then 3 else if (ai.length:Int)+most>c.context then 12 else 0
theorem xV {c:ep} {most:Int} {ai:List Int} (h:mh c most ai=0):ai≠[]∧1≤most∧most≤32∧(∀ t∈ai,AU c t)∧(ai.length:Int)+most≤c.context:=by
 unfold mh at h
 split at h
 ·cases h
 ·rename_i h1
  split at h
  ·cases h
  ·rename_i h2
   split at h
   ·cases h
   ·rename_i h3
    exact ⟨fun e=>h1 (.inl e),by omega,by omega,Classical.not_not.1 h2,by omega⟩
def LL (c:ep) (wt:ByteArray) (tk:Nat→List Int→Int) (most:Int) (ai:List Int):List Int:=qR c wt tk most.toNat 0 (nu c wt [] ai) (mu c wt [] [] ai)
def zn (draw:Int) (sc:List Int):Int:=max (ed.nN draw (ed.bm sc)) 0
def Ho (l:List Int):Int:=if l=[] then -1 else (l.findIdx (fun x=>x==tH l):Nat)
def CL (draws:List Int) (at':Nat) (sc:List Int):Int:=zn (draws.getD at' 0) sc
def Rb (_:Nat) (sc:List Int):Int:=Ho sc
def Qx (tk:Nat→List Int→Int):Prop:=∀ at' sc,sc≠[]→0≤tk at' sc∧tk at' sc<sc.length
theorem Mb:∀ (ws:List Int) (rest:Int) (i:Nat),ed.pick rest ws i = -1∨((i:Int)≤ed.pick rest ws i∧ed.pick rest ws i<i+ws.length)
 | [],rest,i => .inl rfl
 | n :: r,rest,i=>by
  unfold ed.pick
  split
  ·right;rw [List.length_cons];omega
  ·rcases Mb r (rest-n) (i+1) with h|h
   ·exact .inl h
   ·right;rw [List.length_cons];omega
theorem wS (sc:List Int):(ed.bm sc).length=sc.length:=by unfold ed.bm;rw [List.length_map]
theorem Qo {draw:Int} {sc:List Int} (h:sc≠[]):0≤zn draw sc∧zn draw sc<sc.length:=by
 have hl:0<sc.length:=List.length_pos_iff.2 h
 unfold zn
 have hc:ed.nN draw (ed.bm sc) = -1∨(0≤ed.nN draw (ed.bm sc)∧ed.nN draw (ed.bm sc)<sc.length):=by
  unfold ed.nN
  split
  ·exact .inl rfl
  ·split
   ·exact .inl rfl
   ·have:=Mb (ed.bm sc) (draw % (ed.bm sc).sum) 0
    rw [wS] at this
    rcases this with h|h
    ·exact .inl h
    ·right;omega
 omega
theorem Ix (draws:List Int):Qx (CL draws):=fun at' sc h=>Qo h
theorem PO {l:List Int}:ed.Hc l (Ho l):=by
 unfold Ho
 by_cases h:l=[]
 ·rw [if_pos h];exact .inl ⟨h,rfl⟩
 ·rw [if_neg h]
  obtain ⟨h1,h2⟩:=AL h
  have a1:∃ x∈l,(x==tH l)=true:=⟨_,h1,beq_self_eq_true _⟩
  have a0:=List.findIdx_lt_length_of_exists a1
  refine .inr ⟨_,rfl,a0,fun x hx=>?_,fun x hx=>?_⟩
  ·have:=List.findIdx_getElem (w:=a0)
   rw [eq_of_beq this];exact h2 x hx
  ·obtain ⟨i,hi,rfl⟩:=List.getElem_of_mem hx
   rw [List.length_take] at hi
   rw [List.getElem_take]
   have h3:=List.not_of_lt_findIdx (show i<l.findIdx (fun x=>x==tH l) by omega)
   have h4:=List.findIdx_getElem (w:=a0)
   rw [eq_of_beq h4]
   have h5:=h2 _ (List.getElem_mem (show i<l.length by omega))
   have h6:¬ l[i]'(by omega)=tH l:=by simpa using h3
   omega
theorem Pl {sc:List Int} (h:sc≠[]):0≤Ho sc∧Ho sc<sc.length:=by
 have:=PO (l:=sc)
 rcases this with ⟨h1,_⟩|⟨i,h1,h2,_⟩
 ·exact absurd h1 h
 ·rw [h1];omega
theorem Of:Qx Rb:=fun at' sc h=>Pl h
section
variable {c:ep} {wt:ByteArray} {tk tk':Nat→List Int→Int} {past:List gr} {sc:List Int}
theorem wX:∀ (f a:Nat) (past:List gr) (sc:List Int),(qR c wt tk f a past sc).length≤f
 | 0,_,_,_=>Nat.le_refl _
 | f+1,a,past,sc=>by
  unfold qR
  split
  ·simp
  ·rw [List.length_cons]
   have:=wX f (a+1) (past++[nL c wt past (tk a sc)]) (uR c wt past (tk a sc));omega
theorem GQ:∀ (k f a:Nat) (past:List gr) (sc:List Int),k≤(qR c wt tk f a past sc).length→qR c wt tk (f-k) (a+k) (nu c wt past ((qR c wt tk f a past sc).take k)) (mu c wt past sc ((qR c wt tk f a past sc).take k))=(qR c wt tk f a past sc).drop k
 | 0,f,a,past,sc,_=>by rw [List.take_zero,List.drop_zero];rfl
 | k+1,0,a,past,sc,h=>by simp [qR] at h
 | k+1,f+1,a,past,sc,h=>by
  by_cases h0:tk a sc=0
  ·rw [qR,if_pos h0] at h;simp at h
  ·have e:qR c wt tk (f+1) a past sc=tk a sc :: qR c wt tk f (a+1) (past++[nL c wt past (tk a sc)]) (uR c wt past (tk a sc)):=by rw [qR,if_neg h0]
   rw [e] at h ⊢
   rw [List.length_cons] at h
   rw [List.take_succ_cons,List.drop_succ_cons,nu,qn.mu,Nat.add_sub_add_right,show a+(k+1)=a+1+k by omega]
   exact GQ k f (a+1) _ _ (by omega)
theorem xW (past:List gr) (t:Int):(uR c wt past t).length=c.vocab.toNat:=by unfold uR qV;rw [List.length_map,List.length_range]
theorem Ju {ts:List Int} (h:ts≠[]):(mu c wt past sc ts).length=c.vocab.toNat:=by
 have:∀ (ts:List Int) (past:List gr) (sc:List Int),ts≠[]∨sc.length=c.vocab.toNat→(mu c wt past sc ts).length=c.vocab.toNat:=by
  intro ts
  induction ts with
  | nil=>intro past sc h;exact h.resolve_left (fun k=>k rfl)
  | cons t r ih=>intro past sc _;exact ih _ _ (.inr (xW _ _))
 exact this ts past sc (.inl h)
theorem Je (hv:0<c.vocab) (ht:Qx tk):∀ (f a:Nat) (past:List gr) (sc:List Int),sc.length=c.vocab.toNat→∀ t∈qR c wt tk f a past sc,0<t∧t<c.vocab
 | 0,_,_,_,_,t,h=>by cases h
 | f+1,a,past,sc,hs,t,h=>by
  have a0:sc≠[]:=fun e=>by rw [e] at hs;simp at hs;omega
  have:=ht a sc a0
  unfold qR at h
  split at h
  ·cases h
  ·rename_i h0
   rcases List.mem_cons.1 h with rfl|h
   ·omega
   ·exact Je hv ht f _ _ _ (xW _ _) t h
end
end Go.Proofs.YtkbikekbaboclaaGreat.rI
