import Derived.Test.YtkbikekbaboclaaGreatStp3
import Derived.Test.YtkbikekbaboclaaGreatPkV
set_option linter.unusedVariables false
set_option linter.unusedSimpArgs false
namespace Go.Proofs.YtkbikekbaboclaaGreat.qn
open Go Go.Proofs V Vc fv ee qX Go.RowKit
def nu (c:ep) (wt:ByteArray) (past:List gr):List Int→List gr
 | []=>past
 | t :: r=>nu c wt (past++[nL c wt past t]) r
def mu (c:ep) (wt:ByteArray) (past:List gr) (acc:List Int):List Int→List Int
 | []=>acc
 | t :: r=>mu c wt (past++[nL c wt past t]) (uR c wt past t) r
def AU (c:ep) (t:Int):Prop:=0≤t∧t<c.vocab
section
variable {c:ep} {wt:ByteArray}
theorem xJ:∀ (a:List Int) {b:List Int} {past:List gr},nu c wt past (a++b)=nu c wt (nu c wt past a) b
 | [],_,_=>rfl
 | t :: r,b,past=>xJ r
theorem Bu:∀ (a:List Int) {b:List Int} {past:List gr} {acc:List Int},mu c wt past acc (a++b)=mu c wt (nu c wt past a) (mu c wt past acc a) b
 | [],_,_,_=>rfl
 | t :: r,b,past,acc=>Bu r
theorem rh:∀ (a:List Int) {past:List gr},(nu c wt past a).length=past.length+a.length
 | [],_=>rfl
 | t :: r,past=>by rw [nu,rh r,List.length_append,List.length_cons];simp;omega
def On (c:ep) (wt:ByteArray) (past:List gr) (ts:List Int):List gr:=(nu c wt past ts).drop past.length
theorem IS:∀ (a:List Int) (past:List gr),∃ l,nu c wt past a=past++l
 | [],past=>⟨[],by rw [List.append_nil];rfl⟩
 | t :: r,past=>by
  obtain ⟨l,hl⟩:=IS r (past++[nL c wt past t])
  exact ⟨nL c wt past t :: l,by rw [nu,hl,List.append_assoc];rfl⟩
theorem xT (m:Md c wt):∀ (a:List Int) {past:List gr},(∀ e∈past,fy c e)→(∀ t∈a,AU c t)→((past.length+a.length:Nat):Int)≤c.context→∀ e∈nu c wt past a,fy c e
 | [],past,h,_,_=>h
 | t :: r,past,h,ht,hl=>by
  rw [List.length_cons] at hl
  refine xT m r (fun e he=>?_) (fun x hx=>ht x (List.mem_cons_of_mem _ hx)) (by rw [List.length_append];show ((past.length+1+r.length:Nat):Int)≤_;omega)
  rcases List.mem_append.1 he with he|he
  ·exact h e he
  ·rw [List.mem_singleton] at he
   subst he
   exact (HO m h (by omega) (ht t List.mem_cons_self)).2
variable {w w':World} {bb:Nat} {v tv:Value} {F G:Nat→Prop} {past:List gr} {ts:List Int}
def PB (W w:World) (o:OA) (n cp:Nat) (es:List gr) (A:Nat→Prop):Prop :=
 ∃ nps:List (Value × Value),V.Own w bj 2 o n cp (nps.map ei).flatten A∧n=es.length∧df (fun p e=>EV w p e (fun i=>db W w i∧¬ A i)) nps es∧(∀ i,A i→db W w i)∧Ch ah W w
section
variable {W w1:World} {o:OA} {n cp:Nat} {es:List gr} {A:Nat→Prop} {p:Value × Value} {e:gr}
end
def Ql (n:Int):Value := .tuple #[.slice none 0 0,.slice none 0 0,.int .i64 n]
structure uw (c:ep) (wt:ByteArray) (past:List gr) (ts:List Int) (w:World) (v:Value) (w':World):Prop where
 ch:Ch ah w w'
 bad:¬ (∀ e∈past,fy c e)→v=Ql 1
 none:(∀ e∈past,fy c e)→ts=[]→v=Ql 1
 rng:(∀ e∈past,fy c e)→ts≠[]→¬ (∀ t∈ts,AU c t)→v=Ql 3
 long:(∀ e∈past,fy c e)→ts≠[]→(∀ t∈ts,AU c t)→¬ ((past.length+ts.length:Nat):Int)≤c.context→v=Ql 12
 yes:(∀ e∈past,fy c e)→ts≠[]→(∀ t∈ts,AU c t)→((past.length+ts.length:Nat):Int)≤c.context→∃ (o:OA) (n cp:Nat) (u:Value) (A:Nat→Prop),v = .tuple #[.slice o n cp,u,.int .i64 0]∧PB w w' o n cp (On c wt past ts) A∧IV w' u (mu c wt past [] ts) (fun i=>db w w' i∧¬ A i)
end
end Go.Proofs.YtkbikekbaboclaaGreat.qn
