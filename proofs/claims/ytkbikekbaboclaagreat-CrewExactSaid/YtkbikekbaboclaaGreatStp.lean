import Derived.Test.YtkbikekbaboclaaGreatPkB
import Derived.Test.YtkbikekbaboclaaGreatVcStp
set_option linter.unusedVariables false
set_option linter.unusedSimpArgs false
namespace Go.Proofs.YtkbikekbaboclaaGreat.qn
open Go Go.Proofs V Vc fv ee qX Go.RowKit
section
variable {W w w':World} {wb bb:Nat} {c:ep} {wt:ByteArray} {p b:Nat} {u v:Value} {vs xs ys:List Int} {F G:Nat→Prop}
theorem Kw (hx:IV w u xs F) (hy:IV w v ys G) (hl:xs.length≤1000000):Calls Tryz.prog Gu #[u,v] w (bc fun v w'=>v = .int .i64 (se xs ys)∧Ch ah w w'):=by
 obtain ⟨o,cx,rfl,_,_,hx⟩:=hx
 obtain ⟨o2,cy,rfl,_,_,hy⟩:=hy
 exact Ja hx hy hl
theorem od (hw:w.cell? ⟨wb,0,none⟩=some (.pointer (some ⟨bb,0,none⟩))) (h:yn w bb c wt) (a2:pB c p b) (hv:IV w v vs F):Calls Tryz.prog AA #[.pointer (some ⟨wb,0,none⟩),.int .i64 p,.int .i64 b,v] w (bc fun u w'=>IV w' u (times c wt p b vs) (db w w')∧Ch ah w w'):=by
 obtain ⟨ov,cv,rfl,a9,b2,a6⟩:=hv
 refine Dk.calls _ _ _ _ _ _ ?_
 refine ⟨_,hw,ab (Ai h a2) ?_⟩
 rintro v w1 ⟨A,C,rfl,a3,a7,a8⟩
 refine ⟨_,_,_,_,_,_,rfl,fun w2 e2=>?_⟩
 have hU:=ba.new e2
 refine ⟨⟨hU.ok 0 rfl,hU.ok 1 rfl,hU.ok 2 rfl⟩,fun w3 e3=>?_⟩
 have a5:w3=w2.setCells w1.heap.size 0 [.int .i64 (side c p).1,.int .i64 (side c p).2,.slice A (pY c wt p b).length C]:=e3
 have a4:=hU.all [.int .i64 (side c p).1,.int .i64 (side c p).2,.slice A (pY c wt p b).length C] rfl a5
 have a1:Ch ah w1 w3:=(Ch.alloc (F:=ah) e2).trans (Ch.fr (F:=(·=w1.heap.size)) a5 rfl) (fun i hi he=>by omega)
 have hl:(pY c wt p b).length≤1000000:=by
  rw [Hz h.ok h.sz a2]
  have:=pL h.ok.small a2;omega
 have a0:=a8.ag a1
 refine ⟨_,_,_,_,_,⟨a4.cell 0 rfl,a4.cell 1 rfl,a4.cell 2 rfl⟩,ab (ft.Kn (a7.aa a1) a3 (Dw _) hl (a6.aa a0) (side c p).1 (side c p).2 6) ?_⟩
 rintro v w4 ⟨A4,C4,rfl,hg⟩
 have hs:=a0.size
 exact ⟨_,_,_,_,rfl,(Gr.iv hg).mono (fun i _ hi=>⟨by have:=hi.1;omega,hi.2⟩),a0.ag hg.2⟩
theorem BU {pv xv kv vv:Value} (hB:ba w wb [.pointer (some ⟨bb,0,none⟩),pv,xv,kv,vv] fg) (h:yn w bb c wt) (a2:pB c p b) (hx:IV w xv xs F) (hl:xs.length≤1000000):Calls Tryz.prog BK #[.pointer (some ⟨wb,0,none⟩),.int .i64 p,.int .i64 b] w (bc fun u w'=>IV w' u (ej c wt p b xs) (db w w')∧Ch ah w w'):=by
 obtain ⟨ox,cx,rfl,a6,a7,a3⟩:=hx
 refine EB.calls _ _ _ ?_
 refine ⟨fun w'=>Ch ah w w',fun w1 e1=>⟨Ch.drew e1,_,fun w' k=>(hB.aa k).cell 0 rfl,_,_,_,fun w' k=>(hB.aa k).cell 2 rfl,?_⟩⟩
 have hd:Ch ah w w1:=Ch.drew e1
 refine ab (ry (h.aa hd) a2 0) ?_
 rintro v w4 ⟨⟨og,cg,rfl,a8,a9,a4⟩,a5⟩
 have a0:=hd.ag a5
 refine ⟨_,_,_,rfl,a0,ab (Norm.Im a4 (a3.aa a0) hl) ?_⟩
 rintro v w5 ⟨o5,c5,rfl,hO,a1⟩
 have hs:=a0.size
 exact ⟨_,_,_,rfl,a0.ag a1,(Own.iv hO).mono (fun i _ hi=>⟨by have:=hi.1;omega,hi.2⟩),a0.ag a1⟩
theorem Ir {pv xv kv vv:Value} (hB:ba w wb [.pointer (some ⟨bb,0,none⟩),pv,xv,kv,vv] fg) (hx:IV w xv xs F) (hv:IV w v ys G) (hl:xs.length≤1000000) (a2:ys.length≤1000000):Calls Tryz.prog Dm #[.pointer (some ⟨wb,0,none⟩),v] w (bc fun u w'=>u = .tuple #[]∧∃ xv',ba w' wb [.pointer (some ⟨bb,0,none⟩),pv,xv',kv,vv] fg∧IV w' xv' (zt xs ys) (db w w')∧Ch (·=wb) w w'):=by
 obtain ⟨ox,cx,rfl,a6,a7,a3⟩:=hx
 obtain ⟨oy,cy,rfl,a8,a9,a4⟩:=hv
 refine Ge.calls _ _ _ _ ?_
 refine ⟨_,_,_,hB.cell 2 rfl,fun w1 e1=>?_⟩
 have a0:Ch ah w w1:=Ch.alloc e1
 have a5:ba w1 w.heap.size ([((ox,cx,xs):ft.nH),(oy,cy,ys)].map ft.nw) ay:=ba.new e1
 have hp:=ft.Nf (G:=fun i=>F i∨G i) a5.rd (fun z hz=>by
  rcases List.mem_cons.1 hz with rfl|hz
  ·exact ⟨(a3.aa a0).mono (fun i _ h => .inl h),hl⟩
  ·rw [List.mem_singleton] at hz;subst hz;exact ⟨(a4.aa a0).mono (fun i _ h => .inr h),a2⟩) (by show 2≤1000000;decide) 2
 refine ab hp ?_
 rintro v w2 ⟨A,C,rfl,hg⟩
 have a1:=(hB.aa a0).aa hg.2
 have b2:=hB.lt
 refine ⟨_,_,_,_,rfl,a1.ok 2 rfl,fun w3 e3=>⟨rfl,_,a1.set e3,?_,?_⟩⟩
 ·have hs:=a0.size
  have b3:w3.heap.size=w2.heap.size:=by subst e3;simp [World.setCell]
  exact ((Gr.iv hg).af (Ch.set (F:=(·=wb)) e3 rfl) (fun i _ hi he=>by have:=hi.1;omega)).mono (fun i _ hi=>⟨by have:=hi.1;omega,by have:=hi.2;omega⟩)
 ·exact (a0.ag hg.2).any.same (Ch.set e3 rfl)
theorem IV.one (h:IV w u xs F):u.oneCell'=true:=by obtain ⟨o,c,rfl,_⟩:=h;rfl
theorem RV.one {xss:List (List Int)} (h:RV w u xss F):u.oneCell'=true:=by obtain ⟨o,c,vs,rfl,_⟩:=h;rfl
theorem xX {ps:List (Value × Value)} {es:List gr} (h:df (fun p e=>EV w p e F) ps es):∀ u∈(ps.map ei).flatten,u.oneCell'=true:=by
 induction h with
 | nil=>intro u hu;cases hu
 | cons a _ ih =>
  intro u hu
  rw [List.map_cons,List.flatten_cons] at hu
  rcases List.mem_append.1 hu with hu|hu
  ·rcases List.mem_cons.1 hu with rfl|hu
   ·exact RV.one a.1
   ·rw [List.mem_singleton] at hu;subst hu;exact RV.one a.2
  ·exact ih u hu
theorem BN (ps:List (Value × Value)):(ps.map ei).flatten.length=ps.length*2:=by
 induction ps with
 | nil=>rfl
 | cons p r ih=>rw [List.map_cons,List.flatten_cons,List.length_append,ih,List.length_cons,Nat.succ_mul];show 2+_=_;omega
theorem CE {o:OA} {ps:List (Value × Value)} (h:Rd w o (ps.map ei).flatten F) (h1:∀ u∈(ps.map ei).flatten,u.oneCell'=true) (hl:ps.length≤1000000) (cc:Nat):Calls Tryz.prog 123 #[.slice o ps.length cc] w (bc fun v w'=>∃ (o':OA) (c':Nat),v = .slice o' ps.length c'∧V.Own w' bj 2 o' ps.length c' (ps.map ei).flatten (db w w')∧Ch ah w w'):=by
 refine oI.OW _ _ _ ?_
 refine ⟨fun hn=>?_,fun hn w1 e1=>?_⟩
 ·have hx:ps=[]:=by
   cases ps with
   | nil=>rfl
   | cons x r =>
    obtain ⟨a,ha,_⟩:=h 0 x.1 rfl
    rw [ha] at hn;cases hn
  subst hx
  exact ⟨none,0,rfl,V.Own.nil _ _ _ _,Ch.refl _ _⟩
 ·have hg:Gr ah w w1 bj 2 (some ⟨w.heap.size,0,none⟩) 0 0 []:=Gr.nG (Ch.refl _ _) e1
  obtain ⟨o',c',w',hr,a0,_⟩:=Gr.HL (c2:=cc) (m:=ps.length) ja hg fq (h.aa (Ch.alloc e1)) (BN ps) h1 (by omega) (by omega)
  rw [Nat.zero_add,List.nil_append] at a0
  rw [Nat.zero_add] at hr
  exact ⟨_,_,_,w',hr,o',c',rfl,a0.1,a0.2⟩
structure Tm (w0 w:World) (es:List gr) (b a n:Nat) (q:List Int) (j:Nat) (so:OA) (sc:Nat) (vo:OA) (vc:Nat):Prop where
 ch:Ch ah w0 w
 ex:∃ (A B:Nat→Prop) (zs:List (OA × Nat × List Int)),V.Own w bd 1 so j sc (((es.take j).map (ir b a n q)).map (.int .i64)) A∧V.Own w ay 1 vo j vc (zs.map V.nw) B ∧
  zs.map (·.2.2)=(es.take j).map (Co b a n)∧(∀ z∈zs,Rd w z.1 (z.2.2.map (.int .i64)) (fun i=>i<w0.heap.size))∧(∀ i,A i→db w0 w i∧¬ B i)∧(∀ i,B i→db w0 w i)
set_option maxRecDepth 100000 in
set_option maxHeartbeats 4000000 in
theorem MG {pv xv : Value} {oK oV : Option Addr} {cK cV : Nat} {past : List gr} {K Vl : List (List Int)} {q : List Int} {qv : Value} {a : Nat} {F1 F2 F3 F4 : Nat → Prop} (hB : ba w wb [.pointer (some ⟨bb, 0, none⟩), pv, xv, .slice oK K.length cK, .slice oV Vl.length cV] fg) (h : yn w bb c wt)
    (hp : PV w pv past F1) (hk : RV w (.slice oK K.length cK) K F2) (hv : RV w (.slice oV Vl.length cV) Vl F3) (hq : IV w qv q F4) (hes : ∀ e ∈ past ++ [(K, Vl)], hasB c b e) (hql : q.length = c.dim.toNat) (ha : a + bu c ≤ c.dim.toNat) (hpl : past.length ≤ 50) :
    Calls Tryz.prog Ci #[.pointer (some ⟨wb, 0, none⟩), .int .i64 b, .int .i64 a, qv] w (bc fun u w' => IV w' u (DN (past ++ [(K, Vl)]) b a (bu c) q) (db w w') ∧ Ch ah w w') := by
  obtain ⟨po, pc, ps, rfl, hpc, hpm, hpr, hpa⟩ := hp
  have hq0 := hq
  obtain ⟨qo, qc, rfl, hqc, hqm, hqr⟩ := hq
  have hd16 := (pT h.ok).2
  have hdm := h.ok.2.1
  have hbr : ba w bb (zH c ++ [.string wt]) gu := h.r
  refine Ff.calls _ _ _ _ _ _ ?_
  unfold Vm.A0 Vm.A3 Vm.A4 Vm.B4 Vm.B6 Vm.C Vm.C1 Vm.C4 Vm.C5 Vm.D2 Vm.D6 Vm.E2 Vm.E9 Vm.G Vm.H Vm.H6 Vm.I5 Vm.J6 Vm.K5 Vm.M Vm.M7 Vm.M8 Vm.Q Vm.Q5 Vm.S7 Vm.S8 Vm.Y Vm.Z; dsimp only
  refine ⟨_, hB.cell 0 rfl, _, _, _, _, _, _, ⟨hbr.cell 0 rfl, hbr.cell 1 rfl, hbr.cell 2 rfl, hbr.cell 3 rfl, hbr.cell 4 rfl, hbr.cell 5 rfl⟩, ab (AE w h.ok) ?_⟩
  rintro v w1 ⟨rfl, hc1⟩
  have hB1 := hB.aa hc1
  refine ⟨_, rfl, fun w' => Ch ah w1 w', fun w2 e2 => ⟨Ch.drew e2, _, _, _, fun w' k => (hB1.aa k).cell 1 rfl, _, _, _, _, _, _, ⟨fun w' k => (hB1.aa k).cell 3 rfl, fun w' k => (hB1.aa k).cell 4 rfl⟩, ?_⟩⟩
  have hwrap : IntKind.i64.wrap ((a : Int) + ((bu c : Nat) : Int)) = ((a + bu c : Nat) : Int) := by rw [ae (by omega) (by omega)]; omega
  have hps : ps.length = past.length := hpa.length
  have hone := xX hpa
  have hd12 : Ch ah w1 w2 := Ch.drew e2
  have hc2 := hc1.ag hd12
  have hlp : [Value.slice oK K.length cK, Value.slice oV Vl.length cV] = ei (.slice oK K.length cK, .slice oV Vl.length cV) := rfl
  obtain ⟨es, hesd⟩ : ∃ es : List gr, es = past ++ [(K, Vl)] := ⟨_, rfl⟩
  obtain ⟨prs, hprs⟩ : ∃ prs : List (Value × Value), prs = ps ++ [(.slice oK K.length cK, .slice oV Vl.length cV)] := ⟨_, rfl⟩
  have hesl : es.length = past.length + 1 := by rw [hesd, List.length_append]; rfl
  rw [← hesd] at hes ⊢
  have hflat : (ps.map ei).flatten ++ ei (.slice oK K.length cK, .slice oV Vl.length cV) = (prs.map ei).flatten := by rw [hprs, List.map_append, List.flatten_append]; simp
  refine ⟨?_, ?_, trivial⟩
  · have hcl := CE (hpr.aa hc2) hone (by omega) pc
    rw [hps] at hcl
    refine ab hcl ?_
    rintro v w5 ⟨o5, c5, rfl, hO5, hc5⟩
    have hc15 := hd12.ag hc5
    refine ⟨_, _, _, rfl, hc15, fun w6 e6 => ⟨hc15.ag (Ch.alloc e6), ?_⟩⟩
    have hb6 : ba w6 w5.heap.size (ei (.slice oK K.length cK, .slice oV Vl.length cV)) bj := ba.new e6
    have hO6 := hO5.aa (Ch.alloc e6)
    have hs5 := hc5.size
    have hs2 := hc2.size
    obtain ⟨o7, c7, w7, r7, hO7, hc67⟩ := V.Own.ll (c2 := 1) (m := 1) ja hO6 fq hb6.rd rfl (fun u hu => by
      rcases List.mem_cons.1 hu with rfl | hu
      · rfl
      · rw [List.mem_singleton] at hu; subst hu; rfl) (by unfold maxLen; omega) (by omega)
    rw [hflat] at hO7
    have hs6 : w5.heap.size ≤ w6.heap.size := (Ch.alloc (F := ah) e6).size
    have hc56 : Ch ah w5 w6 := Ch.alloc e6
    have hc17 : Ch ah w1 w7 := (hc15.ag hc56).trans hc67 (fun i hi hN => by have := hN.1; have := hd12.size; omega)
    have hc7 : Ch ah w w7 := hc1.ag hc17
    refine ⟨o7, _, c7, w7, r7, hc17, ?_⟩
    have hall : df (fun p e => EV w7 p e (fun i => i < w7.heap.size)) prs es := by
      rw [hprs, hesd]
      refine df.snoc (hpa.imp fun p e k => (k.aa hc7).mono (fun i hi _ => hi)) ⟨(hk.aa hc7).mono (fun i hi _ => hi), (hv.aa hc7).mono (fun i hi _ => hi)⟩
    have hrd : Rd w7 o7 (prs.map ei).flatten (fun i => i < w7.heap.size) := hO7.rd.mono (fun i hi _ => hi)
    have hq7 := (hq0.aa hc7).mono (G := fun i => i < w7.heap.size) (fun i hi _ => hi)
    have hlen7 : past.length + 1 = es.length := hesl.symm
    rw [hlen7]
    clear hO7 hO6 hb6 r7 hO5 hcl
    have hs7 := hc7.size
    have hnl : es.length ≤ 100 := by omega
    have hprl : prs.length = es.length := hall.length
    refine ⟨fun so sn sc vo vn vc i k w' => ∃ j : Nat, i = j ∧ sn = j ∧ vn = j ∧ j ≤ es.length ∧ k = es.length - j ∧ Tm w7 w' es b a (bu c) q j so sc vo vc, ⟨_, 0, rfl, rfl, rfl, Nat.zero_le _, rfl, Ch.refl _ _, ah, ah, [], V.Own.nil _ _ _ _, V.Own.nil _ _ _ _, rfl, fun z hz => (by cases hz), fun i h => h.elim, fun i h => h.elim⟩, ?_⟩
    rintro jk so sn sc vo vn vc i k w8 ⟨j, rfl, rfl, rfl, hj, rfl, hc8, A, B, zs, hS, hV, hzm, hzr, hA, hB'⟩
    have hs8 := hc8.size
    refine ⟨fun hlt => ?_, fun hge => ?_⟩
    · have hlt : vn < es.length := by have := of_decide_eq_true hlt; omega
      have hltp : vn < prs.length := by omega
      have hej := hall.get vn hltp hlt
      have hbj := hes _ (List.getElem_mem hlt)
      have hsc : (es.take (vn + 1)).map (ir b a (bu c) q) = (es.take vn).map (ir b a (bu c) q) ++ [ir b a (bu c) q es[vn]] := by rw [au es vn hlt, List.map_append]; rfl
      have hvl : (es.take (vn + 1)).map (Co b a (bu c)) = (es.take vn).map (Co b a (bu c)) ++ [Co b a (bu c) es[vn]] := by rw [au es vn hlt, List.map_append]; rfl
      refine ⟨⟨by omega, by omega⟩, ?_⟩
      rw [Int.toNat_natCast]
      refine Rd.pair (hrd.aa hc8) hltp fun p1 h1 h2 => ?_
      generalize hEE : es[vn] = e at hej hbj hsc hvl
      generalize prs[vn] = pr at hej h1 h2
      obtain ⟨e1v, e2v⟩ := pr
      obtain ⟨hK, hV2⟩ := hej
      have hK' := hK
      have hV' := hV2
      obtain ⟨ok, ck, uk, rfl, _, _, _, _⟩ := hK
      obtain ⟨ov, cv, uv, rfl, _, _, _, _⟩ := hV2
      dsimp only at h1 h2 hK' hV'
      refine ⟨_, _, _, _, _, _, ⟨h1, h2⟩, fun w9 e9 => ?_⟩
      have hE9 := ba.new e9
      refine ⟨⟨hE9.ok 0 rfl, hE9.ok 1 rfl⟩, fun w10 e10 => ?_⟩
      have e10' : w10 = w9.setCells w8.heap.size 0 [.slice ok e.1.length ck, .slice ov e.2.length cv] := e10
      have hE10 := hE9.all [.slice ok e.1.length ck, .slice ov e.2.length cv] rfl e10'
      have hc810 : Ch ah w8 w10 := (Ch.alloc (F := ah) e9).trans (Ch.fr (F := (· = w8.heap.size)) e10' rfl) (fun i hi he => by omega)
      have hs10 := hc810.size
      have hEn : ¬ A w8.heap.size := fun h => by have := (hA _ h).1.2; omega
      have hc710 := hc8.ag hc810
      have tG : ∀ {w' : World} {G : Nat → Prop}, Ch A w10 w' → ∀ i, i < w10.heap.size → (i < w7.heap.size) → ¬ A i := fun _ i _ hi h => by have := (hA i h).1.1; omega
      have hK10 := (hK'.aa hc710).mono (G := fun i => i < w7.heap.size) (fun i hi h => h)
      have hV10 := (hV'.aa hc710).mono (G := fun i => i < w7.heap.size) (fun i hi h => h)
      have hq10 := hq7.aa hc710
      refine ⟨fun w' => Ch A w10 w', fun w11 e11 => ⟨Ch.drew e11, ?_⟩⟩
      have hd11 : Ch ah w10 w11 := Ch.drew e11
      rw [hwrap, Int.toNat_natCast (a + bu c), Int.toNat_natCast a, Int.toNat_natCast b]
      have hb1 := hbj.1
      have hb2 := hbj.2.1
      refine ⟨⟨by omega, by omega, by omega⟩, _, _, _, fun w' k => (hE10.af k hEn).cell 0 rfl, ⟨by omega, by omega⟩, ?_⟩
      obtain ⟨rowK, hrowK⟩ : ∃ rK : List Int, e.1.getD b [] = rK := ⟨_, rfl⟩
      obtain ⟨rowV, hrowV⟩ : ∃ rV : List Int, e.2.getD b [] = rV := ⟨_, rfl⟩
      have hgK : e.1[b]'hbj.1 = rowK := by rw [← hrowK]; simp [hbj.1]
      have hgV : e.2[b]'hbj.2.1 = rowV := by rw [← hrowV]; simp [hbj.2.1]
      have hlK : rowK.length = c.dim.toNat := by rw [← hrowK]; exact hbj.2.2.1
      have hlV : rowV.length = c.dim.toNat := by rw [← hrowV]; exact hbj.2.2.2
      -- a row of keys: its cell stays
      obtain ⟨pk, hpk, kvv, hkc, hkiv⟩ : ∃ pk : Addr, ok = some pk ∧ ∃ kvv : Value, (∀ w', Ch A w10 w' → w'.cell? (pk.add (b * 1)) = some kvv) ∧ IV w10 kvv rowK (fun i => i < w7.heap.size) := by
        obtain ⟨o', c', us', he, _, _, hr', ha'⟩ := hK10
        injection he with he1
        subst he1
        have hbu : b < us'.length := by rw [ha'.length]; exact hbj.1
        obtain ⟨ad, had, _, _, _⟩ := hr' b us'[b] (List.getElem?_eq_getElem hbu)
        refine ⟨ad, had, us'[b], fun w' k => ?_, by have := ha'.get b hbu hbj.1; rw [hgK] at this; exact this⟩
        obtain ⟨ad2, had2, _, _, hcc⟩ := (hr'.af k (tG k (G := ah))) b us'[b] (List.getElem?_eq_getElem hbu)
        rw [had] at had2; injection had2 with had2; subst had2
        rw [Nat.mul_one]; exact hcc
      subst hpk
      have hkiv' := hkiv
      obtain ⟨okr, ckr, rfl, hkr1, hkr2, _⟩ := hkiv
      refine ⟨_, _, _, hkc, ⟨by omega, by omega, by omega⟩, ?_⟩
      have hqc := (hq10.aa hd11).cut rfl (a := a) (b := a + bu c) (by omega) (by omega)
      have hkcut := (hkiv'.aa hd11).cut rfl (a := a) (b := a + bu c) (by omega) (by omega)
      rw [Nat.add_sub_cancel_left] at hqc hkcut
      rw [Nat.add_sub_cancel_left]
      refine ab (Kw hqc hkcut (by rw [List.length_take]; omega)) ?_
      rintro v w14 ⟨rfl, hc14⟩
      have hc1014 := hd11.ag hc14
      refine ⟨_, rfl, hc1014.any, ab (rO w14 (ft.Ap _ _) 9) ?_⟩
      rintro v w15 ⟨rfl, hc15⟩
      have hc1015 := hc1014.ag hc15
      have hscore : shift (se ((q.drop a).take (bu c)) ((rowK.drop a).take (bu c))) 9 = ir b a (bu c) q e := by unfold ir cut; rw [hrowK]
      rw [hscore]
      refine ⟨_, rfl, hc1015.any, fun w16 e16 => ⟨(hc1015.ag (Ch.alloc e16)).any, ?_⟩⟩
      have hc815 := hc810.ag hc1015
      have hS15 := hS.aa hc815
      obtain ⟨o17, c17, w17, r17, hS17, hc17⟩ := V.Own.pW (enc := fun x : Int => Value.int .i64 x) (xs := (es.take vn).map (ir b a (bu c) q)) bi hS15 ay (ir b a (bu c) q e) e16 rfl (by unfold maxLen; omega) (by omega)
      rw [← hsc] at hS17
      have hs815 := hc815.size
      have hs17 := hc17.size
      have hc1017 : Ch A w10 w17 := hc1015.any.same hc17
      have hE17 := hE10.af hc1017 hEn
      have hV17' := hV.aa hc815
      have hV17 : V.Own w17 ay 1 vo vn vc (zs.map V.nw) B := hV17'.af hc17 (fun i _ hb h => (hA i h).2 hb)
      obtain ⟨pv2, hpv, vvv, hvc2, hviv⟩ : ∃ pk : Addr, ov = some pk ∧ ∃ kvv : Value, w17.cell? (pk.add (b * 1)) = some kvv ∧ IV w17 kvv rowV (fun i => i < w7.heap.size) := by
        have hV17v := hV10.af hc1017 (tG hc1017 (G := ah))
        obtain ⟨o', c', us', he, _, _, hr', ha'⟩ := hV17v
        injection he with he1
        subst he1
        have hbu : b < us'.length := by rw [ha'.length]; exact hbj.2.1
        obtain ⟨ad, had, _, _, hcc⟩ := hr' b us'[b] (List.getElem?_eq_getElem hbu)
        exact ⟨ad, had, us'[b], by rw [Nat.mul_one]; exact hcc, by have := ha'.get b hbu hbj.2.1; rw [hgV] at this; exact this⟩
      subst hpv
      have hviv' := hviv
      obtain ⟨ovr, cvr, rfl, hvr1, hvr2, _⟩ := hviv
      refine ⟨o17, _, c17, w17, r17, hc1017, _, _, _, hE17.cell 1 rfl, ⟨by omega, by omega⟩, _, _, _, hvc2, ⟨by omega, by omega, by omega⟩, fun w18 e18 => ?_⟩
      have hcutv := hviv'.cut rfl (a := a) (b := a + bu c) (by omega) (by omega)
      rw [Nat.add_sub_cancel_left] at hcutv
      have hcl : ((rowV.drop a).take (bu c)).length = bu c := by rw [List.length_take, List.length_drop]; omega
      obtain ⟨o19, c19, w19, r19, hV19, hc19⟩ := V.Own.push ia hV17 bq e18 rfl rfl (by unfold maxLen; omega) (by omega)
      have hs19 := hc19.size
      have hBn : ∀ i, B i → i < w8.heap.size := fun i h => (hB' i h).2
      have hA19 : ∀ i, Ext A w15 w17 i → ¬ B i := fun i h hb => by
        rcases h with h | h
        · exact (hA i h).2 hb
        · have := h.1; have := hBn i hb; omega
      refine ⟨o19, _, c19, w19, r19, es.length - (vn + 1), by omega, vn + 1, by rw [ae (by omega) (by omega)]; rfl, rfl, rfl, hlt, rfl, ?_, Ext A w15 w17, Ext B w17 w19, zs ++ [(if cvr = a then ovr else ovr.map (·.add (a * 1)), cvr - a, (rowV.drop a).take (bu c))], hS17.af hc19 (fun i _ h hb => hA19 i h hb), ?_, ?_, fun z hz => ?_, fun i hi => ⟨⟨?_, ?_⟩, fun hb => ?_⟩, fun i hi => ?_⟩
      · exact ((hc8.ag hc815).trans hc17 (fun i hi h => by have := (hA i h).1.1; omega)).trans hc19 (fun i hi h => by have := (hB' i h).1; omega)
      · rw [List.map_append]
        have hen : V.nw (if cvr = a then ovr else ovr.map (·.add (a * 1)), cvr - a, (rowV.drop a).take (bu c)) = .slice (if cvr = a then ovr else ovr.map (·.add (a * 1))) (bu c) (cvr - a) := by
          unfold V.nw; rw [hcl]
        rw [List.map_singleton, hen]
        exact hV19
      · rw [List.map_append, hzm, hvl]
        congr 1
        show [_] = [_]
        unfold Co cut; rw [hrowV]
      · rcases List.mem_append.1 hz with hz | hz
        · have h0 := hzr z hz
          refine (((h0.aa hc815).af hc17 (fun i _ hi h => ?_)).af hc19 (fun i _ hi h => ?_))
          · have := (hA i h).1.1; omega
          · have := (hB' i h).1; omega
        · rw [List.mem_singleton] at hz
          subst hz
          obtain ⟨oo, cc2, he, _, _, hrr⟩ := hcutv
          injection he with he1 he2 he3
          subst he1
          exact hrr.af hc19 (fun i _ hi h => by have := (hB' i h).1; omega)
      · rcases hi with hi | hi
        · exact (hA i hi).1.1
        · have := hi.1; omega
      · rcases hi with hi | hi
        · have := (hA i hi).1.2; omega
        · have := hi.2; omega
      · rcases hb with hb | hb
        · exact hA19 i hi hb
        · rcases hi with hi | hi
          · have := (hA i hi).1.2; have := hb.1; omega
          · have := hi.2; have := hb.1; omega
      · rcases hi with hi | hi
        · exact ⟨(hB' i hi).1, by have := (hB' i hi).2; omega⟩
        · exact ⟨by have := hi.1; omega, hi.2⟩
    · have hge : vn = es.length := by have := of_decide_eq_false hge; omega
      subst hge
      rw [List.take_length] at hS hzm
      have hwl : ((es.map (ir b a (bu c) q))).length = es.length := List.length_map _
      have hww := ed.tR (xs := es.map (ir b a (bu c) q)) hS.rd (by omega) sc
      rw [hwl] at hww
      refine ab hww ?_
      rintro v w20 ⟨A20, C20, rfl, hg20⟩
      have hzl : zs.length = es.length := by
        have := congrArg List.length hzm
        rwa [List.length_map, List.length_map] at this
      have hwl2 : (ed.bm (es.map (ir b a (bu c) q))).length = es.length := by unfold ed.bm; rw [List.length_map, List.length_map]
      have hmx := ed.Jk (K := fun i => i < w7.heap.size) (zs := zs) hg20.rd (hV.rd.aa hg20.2) (fun z hz => ⟨(hzr z hz).aa hg20.2, by
        have : z.2.2 ∈ zs.map (·.2.2) := List.mem_map_of_mem hz
        rw [hzm] at this
        obtain ⟨e, _, he⟩ := List.mem_map.1 this
        rw [← he]
        unfold Co cut
        rw [List.length_take]
        have := (pT h.ok).2.2
        omega⟩) (by omega) (by omega) C20 vc
      rw [hzl] at hmx
      refine ⟨_, _, _, rfl, ab hmx ?_⟩
      rintro v w21 ⟨A21, C21, rfl, hg21⟩
      rw [BH, hzm] at hg21 ⊢
      have hs20 := hg20.2.size
      exact ⟨_, _, _, rfl, (Gr.iv hg21).mono (fun i _ hi => ⟨by have := hi.1; omega, hi.2⟩), ((hc7.ag hc8).ag hg20.2).ag hg21.2⟩
  · intro w6 e6
    have hb6 : ba w6 w2.heap.size (ei (.slice oK K.length cK, .slice oV Vl.length cV)) bj := ba.new e6
    have hc26 : Ch ah w2 w6 := Ch.alloc e6
    have hc06 := hc2.ag hc26
    have hcl := CE (hpr.aa hc06) hone (by omega) pc
    rw [hps] at hcl
    refine ⟨hd12.ag hc26, ab hcl ?_⟩
    rintro v w5 ⟨o5, c5, rfl, hO5, hc5⟩
    have hc15 := (hd12.ag hc26).ag hc5
    refine ⟨_, _, _, rfl, hc15, ?_⟩
    have hs5 := hc5.size
    have hs2 := hc2.size
    have hs26 := hc26.size
    obtain ⟨o7, c7, w7, r7, hO7, hc67⟩ := V.Own.ll (c2 := 1) (m := 1) ja hO5 fq (hb6.aa hc5).rd rfl (fun u hu => by
      rcases List.mem_cons.1 hu with rfl | hu
      · rfl
      · rw [List.mem_singleton] at hu; subst hu; rfl) (by unfold maxLen; omega) (by omega)
    rw [hflat] at hO7
    have hc17 : Ch ah w1 w7 := hc15.trans hc67 (fun i hi hN => by have := hN.1; have := hd12.size; omega)
    have hc7 : Ch ah w w7 := hc1.ag hc17
    refine ⟨o7, _, c7, w7, r7, hc17, ?_⟩
    have hall : df (fun p e => EV w7 p e (fun i => i < w7.heap.size)) prs es := by
      rw [hprs, hesd]
      refine df.snoc (hpa.imp fun p e k => (k.aa hc7).mono (fun i hi _ => hi)) ⟨(hk.aa hc7).mono (fun i hi _ => hi), (hv.aa hc7).mono (fun i hi _ => hi)⟩
    have hrd : Rd w7 o7 (prs.map ei).flatten (fun i => i < w7.heap.size) := hO7.rd.mono (fun i hi _ => hi)
    have hq7 := (hq0.aa hc7).mono (G := fun i => i < w7.heap.size) (fun i hi _ => hi)
    have hlen7 : past.length + 1 = es.length := hesl.symm
    rw [hlen7]
    clear hO7 hb6 r7 hO5 hcl
    have hs7 := hc7.size
    have hnl : es.length ≤ 100 := by omega
    have hprl : prs.length = es.length := hall.length
    refine ⟨fun so sn sc vo vn vc i k w' => ∃ j : Nat, i = j ∧ sn = j ∧ vn = j ∧ j ≤ es.length ∧ k = es.length - j ∧ Tm w7 w' es b a (bu c) q j so sc vo vc, ⟨_, 0, rfl, rfl, rfl, Nat.zero_le _, rfl, Ch.refl _ _, ah, ah, [], V.Own.nil _ _ _ _, V.Own.nil _ _ _ _, rfl, fun z hz => (by cases hz), fun i h => h.elim, fun i h => h.elim⟩, ?_⟩
    rintro jk so sn sc vo vn vc i k w8 ⟨j, rfl, rfl, rfl, hj, rfl, hc8, A, B, zs, hS, hV, hzm, hzr, hA, hB'⟩
    have hs8 := hc8.size
    refine ⟨fun hlt => ?_, fun hge => ?_⟩
    · have hlt : vn < es.length := by have := of_decide_eq_true hlt; omega
      have hltp : vn < prs.length := by omega
      have hej := hall.get vn hltp hlt
      have hbj := hes _ (List.getElem_mem hlt)
      have hsc : (es.take (vn + 1)).map (ir b a (bu c) q) = (es.take vn).map (ir b a (bu c) q) ++ [ir b a (bu c) q es[vn]] := by rw [au es vn hlt, List.map_append]; rfl
      have hvl : (es.take (vn + 1)).map (Co b a (bu c)) = (es.take vn).map (Co b a (bu c)) ++ [Co b a (bu c) es[vn]] := by rw [au es vn hlt, List.map_append]; rfl
      refine ⟨⟨by omega, by omega⟩, ?_⟩
      rw [Int.toNat_natCast]
      refine Rd.pair (hrd.aa hc8) hltp fun p1 h1 h2 => ?_
      generalize hEE : es[vn] = e at hej hbj hsc hvl
      generalize prs[vn] = pr at hej h1 h2
      obtain ⟨e1v, e2v⟩ := pr
      obtain ⟨hK, hV2⟩ := hej
      have hK' := hK
      have hV' := hV2
      obtain ⟨ok, ck, uk, rfl, _, _, _, _⟩ := hK
      obtain ⟨ov, cv, uv, rfl, _, _, _, _⟩ := hV2
      dsimp only at h1 h2 hK' hV'
      refine ⟨_, _, _, _, _, _, ⟨h1, h2⟩, fun w9 e9 => ?_⟩
      have hE9 := ba.new e9
      refine ⟨⟨hE9.ok 0 rfl, hE9.ok 1 rfl⟩, fun w10 e10 => ?_⟩
      have e10' : w10 = w9.setCells w8.heap.size 0 [.slice ok e.1.length ck, .slice ov e.2.length cv] := e10
      have hE10 := hE9.all [.slice ok e.1.length ck, .slice ov e.2.length cv] rfl e10'
      have hc810 : Ch ah w8 w10 := (Ch.alloc (F := ah) e9).trans (Ch.fr (F := (· = w8.heap.size)) e10' rfl) (fun i hi he => by omega)
      have hs10 := hc810.size
      have hEn : ¬ A w8.heap.size := fun h => by have := (hA _ h).1.2; omega
      have hc710 := hc8.ag hc810
      have tG : ∀ {w' : World} {G : Nat → Prop}, Ch A w10 w' → ∀ i, i < w10.heap.size → (i < w7.heap.size) → ¬ A i := fun _ i _ hi h => by have := (hA i h).1.1; omega
      have hK10 := (hK'.aa hc710).mono (G := fun i => i < w7.heap.size) (fun i hi h => h)
      have hV10 := (hV'.aa hc710).mono (G := fun i => i < w7.heap.size) (fun i hi h => h)
      have hq10 := hq7.aa hc710
      refine ⟨fun w' => Ch A w10 w', fun w11 e11 => ⟨Ch.drew e11, ?_⟩⟩
      have hd11 : Ch ah w10 w11 := Ch.drew e11
      rw [hwrap, Int.toNat_natCast (a + bu c), Int.toNat_natCast a, Int.toNat_natCast b]
      have hb1 := hbj.1
      have hb2 := hbj.2.1
      refine ⟨⟨by omega, by omega, by omega⟩, _, _, _, fun w' k => (hE10.af k hEn).cell 0 rfl, ⟨by omega, by omega⟩, ?_⟩
      obtain ⟨rowK, hrowK⟩ : ∃ rK : List Int, e.1.getD b [] = rK := ⟨_, rfl⟩
      obtain ⟨rowV, hrowV⟩ : ∃ rV : List Int, e.2.getD b [] = rV := ⟨_, rfl⟩
      have hgK : e.1[b]'hbj.1 = rowK := by rw [← hrowK]; simp [hbj.1]
      have hgV : e.2[b]'hbj.2.1 = rowV := by rw [← hrowV]; simp [hbj.2.1]
      have hlK : rowK.length = c.dim.toNat := by rw [← hrowK]; exact hbj.2.2.1
      have hlV : rowV.length = c.dim.toNat := by rw [← hrowV]; exact hbj.2.2.2
      -- a row of keys: its cell stays
      obtain ⟨pk, hpk, kvv, hkc, hkiv⟩ : ∃ pk : Addr, ok = some pk ∧ ∃ kvv : Value, (∀ w', Ch A w10 w' → w'.cell? (pk.add (b * 1)) = some kvv) ∧ IV w10 kvv rowK (fun i => i < w7.heap.size) := by
        obtain ⟨o', c', us', he, _, _, hr', ha'⟩ := hK10
        injection he with he1
        subst he1
        have hbu : b < us'.length := by rw [ha'.length]; exact hbj.1
        obtain ⟨ad, had, _, _, _⟩ := hr' b us'[b] (List.getElem?_eq_getElem hbu)
        refine ⟨ad, had, us'[b], fun w' k => ?_, by have := ha'.get b hbu hbj.1; rw [hgK] at this; exact this⟩
        obtain ⟨ad2, had2, _, _, hcc⟩ := (hr'.af k (tG k (G := ah))) b us'[b] (List.getElem?_eq_getElem hbu)
        rw [had] at had2; injection had2 with had2; subst had2
        rw [Nat.mul_one]; exact hcc
      subst hpk
      have hkiv' := hkiv
      obtain ⟨okr, ckr, rfl, hkr1, hkr2, _⟩ := hkiv
      refine ⟨_, _, _, hkc, ⟨by omega, by omega, by omega⟩, ?_⟩
      have hqc := (hq10.aa hd11).cut rfl (a := a) (b := a + bu c) (by omega) (by omega)
      have hkcut := (hkiv'.aa hd11).cut rfl (a := a) (b := a + bu c) (by omega) (by omega)
      rw [Nat.add_sub_cancel_left] at hqc hkcut
      rw [Nat.add_sub_cancel_left]
      refine ab (Kw hqc hkcut (by rw [List.length_take]; omega)) ?_
      rintro v w14 ⟨rfl, hc14⟩
      have hc1014 := hd11.ag hc14
      refine ⟨_, rfl, hc1014.any, ab (rO w14 (ft.Ap _ _) 9) ?_⟩
      rintro v w15 ⟨rfl, hc15⟩
      have hc1015 := hc1014.ag hc15
      have hscore : shift (se ((q.drop a).take (bu c)) ((rowK.drop a).take (bu c))) 9 = ir b a (bu c) q e := by unfold ir cut; rw [hrowK]
      rw [hscore]
      refine ⟨_, rfl, hc1015.any, fun w16 e16 => ⟨(hc1015.ag (Ch.alloc e16)).any, ?_⟩⟩
      have hc815 := hc810.ag hc1015
      have hS15 := hS.aa hc815
      obtain ⟨o17, c17, w17, r17, hS17, hc17⟩ := V.Own.pW (enc := fun x : Int => Value.int .i64 x) (xs := (es.take vn).map (ir b a (bu c) q)) bi hS15 ay (ir b a (bu c) q e) e16 rfl (by unfold maxLen; omega) (by omega)
      rw [← hsc] at hS17
      have hs815 := hc815.size
      have hs17 := hc17.size
      have hc1017 : Ch A w10 w17 := hc1015.any.same hc17
      have hE17 := hE10.af hc1017 hEn
      have hV17' := hV.aa hc815
      have hV17 : V.Own w17 ay 1 vo vn vc (zs.map V.nw) B := hV17'.af hc17 (fun i _ hb h => (hA i h).2 hb)
      obtain ⟨pv2, hpv, vvv, hvc2, hviv⟩ : ∃ pk : Addr, ov = some pk ∧ ∃ kvv : Value, w17.cell? (pk.add (b * 1)) = some kvv ∧ IV w17 kvv rowV (fun i => i < w7.heap.size) := by
        have hV17v := hV10.af hc1017 (tG hc1017 (G := ah))
        obtain ⟨o', c', us', he, _, _, hr', ha'⟩ := hV17v
        injection he with he1
        subst he1
        have hbu : b < us'.length := by rw [ha'.length]; exact hbj.2.1
        obtain ⟨ad, had, _, _, hcc⟩ := hr' b us'[b] (List.getElem?_eq_getElem hbu)
        exact ⟨ad, had, us'[b], by rw [Nat.mul_one]; exact hcc, by have := ha'.get b hbu hbj.2.1; rw [hgV] at this; exact this⟩
      subst hpv
      have hviv' := hviv
      obtain ⟨ovr, cvr, rfl, hvr1, hvr2, _⟩ := hviv
      refine ⟨o17, _, c17, w17, r17, hc1017, _, _, _, hE17.cell 1 rfl, ⟨by omega, by omega⟩, _, _, _, hvc2, ⟨by omega, by omega, by omega⟩, fun w18 e18 => ?_⟩
      have hcutv := hviv'.cut rfl (a := a) (b := a + bu c) (by omega) (by omega)
      rw [Nat.add_sub_cancel_left] at hcutv
      have hcl : ((rowV.drop a).take (bu c)).length = bu c := by rw [List.length_take, List.length_drop]; omega
      obtain ⟨o19, c19, w19, r19, hV19, hc19⟩ := V.Own.push ia hV17 bq e18 rfl rfl (by unfold maxLen; omega) (by omega)
      have hs19 := hc19.size
      have hBn : ∀ i, B i → i < w8.heap.size := fun i h => (hB' i h).2
      have hA19 : ∀ i, Ext A w15 w17 i → ¬ B i := fun i h hb => by
        rcases h with h | h
        · exact (hA i h).2 hb
        · have := h.1; have := hBn i hb; omega
      refine ⟨o19, _, c19, w19, r19, es.length - (vn + 1), by omega, vn + 1, by rw [ae (by omega) (by omega)]; rfl, rfl, rfl, hlt, rfl, ?_, Ext A w15 w17, Ext B w17 w19, zs ++ [(if cvr = a then ovr else ovr.map (·.add (a * 1)), cvr - a, (rowV.drop a).take (bu c))], hS17.af hc19 (fun i _ h hb => hA19 i h hb), ?_, ?_, fun z hz => ?_, fun i hi => ⟨⟨?_, ?_⟩, fun hb => ?_⟩, fun i hi => ?_⟩
      · exact ((hc8.ag hc815).trans hc17 (fun i hi h => by have := (hA i h).1.1; omega)).trans hc19 (fun i hi h => by have := (hB' i h).1; omega)
      · rw [List.map_append]
        have hen : V.nw (if cvr = a then ovr else ovr.map (·.add (a * 1)), cvr - a, (rowV.drop a).take (bu c)) = .slice (if cvr = a then ovr else ovr.map (·.add (a * 1))) (bu c) (cvr - a) := by
          unfold V.nw; rw [hcl]
        rw [List.map_singleton, hen]
        exact hV19
      · rw [List.map_append, hzm, hvl]
        congr 1
        show [_] = [_]
        unfold Co cut; rw [hrowV]
      · rcases List.mem_append.1 hz with hz | hz
        · have h0 := hzr z hz
          refine (((h0.aa hc815).af hc17 (fun i _ hi h => ?_)).af hc19 (fun i _ hi h => ?_))
          · have := (hA i h).1.1; omega
          · have := (hB' i h).1; omega
        · rw [List.mem_singleton] at hz
          subst hz
          obtain ⟨oo, cc2, he, _, _, hrr⟩ := hcutv
          injection he with he1 he2 he3
          subst he1
          exact hrr.af hc19 (fun i _ hi h => by have := (hB' i h).1; omega)
      · rcases hi with hi | hi
        · exact (hA i hi).1.1
        · have := hi.1; omega
      · rcases hi with hi | hi
        · have := (hA i hi).1.2; omega
        · have := hi.2; omega
      · rcases hb with hb | hb
        · exact hA19 i hi hb
        · rcases hi with hi | hi
          · have := (hA i hi).1.2; have := hb.1; omega
          · have := hi.2; have := hb.1; omega
      · rcases hi with hi | hi
        · exact ⟨(hB' i hi).1, by have := (hB' i hi).2; omega⟩
        · exact ⟨by have := hi.1; omega, hi.2⟩
    · have hge : vn = es.length := by have := of_decide_eq_false hge; omega
      subst hge
      rw [List.take_length] at hS hzm
      have hwl : ((es.map (ir b a (bu c) q))).length = es.length := List.length_map _
      have hww := ed.tR (xs := es.map (ir b a (bu c) q)) hS.rd (by omega) sc
      rw [hwl] at hww
      refine ab hww ?_
      rintro v w20 ⟨A20, C20, rfl, hg20⟩
      have hzl : zs.length = es.length := by
        have := congrArg List.length hzm
        rwa [List.length_map, List.length_map] at this
      have hwl2 : (ed.bm (es.map (ir b a (bu c) q))).length = es.length := by unfold ed.bm; rw [List.length_map, List.length_map]
      have hmx := ed.Jk (K := fun i => i < w7.heap.size) (zs := zs) hg20.rd (hV.rd.aa hg20.2) (fun z hz => ⟨(hzr z hz).aa hg20.2, by
        have : z.2.2 ∈ zs.map (·.2.2) := List.mem_map_of_mem hz
        rw [hzm] at this
        obtain ⟨e, _, he⟩ := List.mem_map.1 this
        rw [← he]
        unfold Co cut
        rw [List.length_take]
        have := (pT h.ok).2.2
        omega⟩) (by omega) (by omega) C20 vc
      rw [hzl] at hmx
      refine ⟨_, _, _, rfl, ab hmx ?_⟩
      rintro v w21 ⟨A21, C21, rfl, hg21⟩
      rw [BH, hzm] at hg21 ⊢
      have hs20 := hg20.2.size
      exact ⟨_, _, _, rfl, (Gr.iv hg21).mono (fun i _ hi => ⟨by have := hi.1; omega, hi.2⟩), ((hc7.ag hc8).ag hg20.2).ag hg21.2⟩
end
end Go.Proofs.YtkbikekbaboclaaGreat.qn
