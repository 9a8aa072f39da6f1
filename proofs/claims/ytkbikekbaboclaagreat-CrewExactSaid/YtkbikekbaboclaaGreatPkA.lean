import Derived.Test.YtkbikekbaboclaaGreatH
import Derived.Test.YtkbikekbaboclaaGreatPkV
import Derived.Lib.ConvBytes
import Derived.Laws.IdiomStrings
import Derived.Shelf.Bytes.SlSmallAll
import Derived.Maps.Own
import Derived.Maps.Views
import Derived.Maps.Keyed
set_option linter.unusedVariables false
set_option linter.unusedSimpArgs false
namespace Go.Proofs.YtkbikekbaboclaaGreat.qX
open Go Go.Proofs V
theorem xQ (x:Int):Go.bits .and .i64 x 1=x % 2:=by
 have h:(BitVec.ofInt 64 x &&& BitVec.ofInt 64 1).toNat=(x % 2).toNat:=by
  rw [BitVec.toNat_and,BitVec.toNat_ofInt]
  have:(BitVec.ofInt 64 1).toNat=1:=by decide
  rw [this,Nat.and_one_is_mod]
  have h0:(((2:Nat) ^ 64:Nat):Int)=18446744073709551616:=by decide
  rw [h0]
  omega
 show IntKind.i64.wrap ((BitVec.ofInt 64 x &&& BitVec.ofInt 64 1).toNat:Int)=x % 2
 rw [h,ae (by omega) (by omega)]
 omega
def eu (x low high:Int):Int:=if x<low then low else if x>high then high else x
theorem lm {x low high:Int} (h:low≤high):low≤eu x low high∧eu x low high≤high:=by unfold eu;split <;> (try split) <;> omega
theorem Bm {x low high:Int} (h1:low≤x) (h2:x≤high):eu x low high=x:=by unfold eu;rw [if_neg (by omega),if_neg (by omega)]
theorem KY {x y low high:Int} (h:x≤y) (hl:low≤high):eu x low high≤eu y low high:=by unfold eu;repeat' (first|omega|split)
def sat (x:Int):Int:=eu x (-32767) 32767
theorem Cg (x:Int) : -32767≤sat x∧sat x≤32767:=lm (by omega)
theorem Sd {x:Int} (h1 : -32767≤x) (h2:x≤32767):sat x=x:=Bm h1 h2
def shift (x n:Int):Int:=if n≤0 then x else if n≥63 then 0 else x / 2 ^ n.toNat+(x / 2 ^ (n.toNat-1)) % 2
def div (a b:Int):Int:=if b=0 then 0 else if b = -1∧a = -9223372036854775808 then 9223372036854775807 else Int.fdiv a b
theorem xr (n:Nat):(0:Int)<2 ^ n:=Int.pow_pos (by omega)
theorem Sg {a b:Int} (hb:b≠0):(if Int.tmod a b≠0∧((a<0∧¬ b<0)∨(¬ a<0∧b<0)) then Int.tdiv a b-1 else Int.tdiv a b)=Int.fdiv a b:=by
 have e1:=Int.mul_tdiv_add_tmod a b
 have e2:=Int.mul_fdiv_add_fmod a b
 have m1:a.natAbs % b.natAbs<b.natAbs:=Nat.mod_lt _ (by omega)
 have m2:=Int.natAbs_tmod a b
 have key:∀ q r:Int,b*q+r=a→(0<b→0≤r∧r<b)→(b<0→b<r∧r≤0)→q=Int.fdiv a b:=by
  intro q r he h1 h2
  rcases Int.lt_or_gt_of_ne hb with hn|hp
  ·have f1:Int.fmod a b≤0:=by
    have:=Int.fmod_nonneg_of_pos (-a) (show 0 < -b by omega)
    rw [Int.neg_fmod_neg] at this;omega
   have f2:b<Int.fmod a b:=by
    have:=Int.fmod_lt_of_pos (-a) (show 0 < -b by omega)
    rw [Int.neg_fmod_neg] at this;omega
   have ⟨h3,h4⟩:=h2 hn
   have h5:b*(q-Int.fdiv a b)=Int.fmod a b-r:=by rw [Int.mul_sub];omega
   have h6:q-Int.fdiv a b<1:=by
    apply Int.lt_of_not_ge;intro a0
    have:=Int.mul_le_mul_of_nonneg_left a0 (show 0 ≤ -b by omega);rw [Int.neg_mul,Int.neg_mul] at this;omega
   have h7 : -1<q-Int.fdiv a b:=by
    apply Int.lt_of_not_ge;intro a0
    have:=Int.mul_le_mul_of_nonneg_left a0 (show 0 ≤ -b by omega);rw [Int.neg_mul,Int.neg_mul] at this;omega
   omega
  ·have f1:0≤Int.fmod a b:=Int.fmod_nonneg_of_pos a hp
   have f2:Int.fmod a b<b:=Int.fmod_lt_of_pos a hp
   have ⟨h3,h4⟩:=h1 hp
   have h5:b*(q-Int.fdiv a b)=Int.fmod a b-r:=by rw [Int.mul_sub];omega
   have h6:q-Int.fdiv a b<1:=by
    apply Int.lt_of_not_ge;intro a0
    have:=Int.mul_le_mul_of_nonneg_left a0 (Int.le_of_lt hp);omega
   have h7 : -1<q-Int.fdiv a b:=by
    apply Int.lt_of_not_ge;intro a0
    have:=Int.mul_le_mul_of_nonneg_left a0 (Int.le_of_lt hp);omega
   omega
 have s1:0≤a→0≤Int.tmod a b:=fun h=>Int.tmod_nonneg b h
 have s2:a≤0→Int.tmod a b≤0:=fun h=>by
  have:=Int.tmod_nonneg b (show 0 ≤ -a by omega)
  rw [Int.neg_tmod] at this;omega
 have s3:(Int.tmod a b).natAbs<b.natAbs:=by rw [m2];exact m1
 split
 ·rename_i hc
  refine key _ (Int.tmod a b+b) (by rw [Int.mul_sub,Int.mul_one];omega) (fun h=>?_) (fun h=>?_)
  ·rcases hc.2 with h1|h1
   ·have:=s2 (by omega);omega
   ·omega
  ·rcases hc.2 with h1|h1
   ·omega
   ·have:=s1 (by omega);omega
 ·rename_i hc
  refine key _ (Int.tmod a b) e1 (fun h=>?_) (fun h=>?_)
  ·by_cases ha:a<0
   ·have hz:Int.tmod a b=0:=Classical.byContradiction fun hz=>hc ⟨hz,.inl ⟨ha,by omega⟩⟩
    omega
   ·have:=s1 (by omega);omega
  ·by_cases ha:a<0
   ·have:=s2 (by omega);omega
   ·have hz:Int.tmod a b=0:=Classical.byContradiction fun hz=>hc ⟨hz,.inr ⟨ha,h⟩⟩
    omega
def oZ:Nat→Nat
 | 0=>0
 | n+1=>if (oZ n+1)*(oZ n+1)≤n+1 then oZ n+1 else oZ n
theorem DW:∀ n:Nat,oZ n*oZ n≤n∧n<(oZ n+1)*(oZ n+1)
 | 0=>⟨by decide,by decide⟩
 | n+1=>by
  obtain ⟨h1,h2⟩:=DW n
  rw [oZ]
  split
  ·rename_i h
   refine ⟨h,?_⟩
   have e:(oZ n+1+1)*(oZ n+1+1)=(oZ n+1)*(oZ n+1)+2*oZ n+3:=by rw [Nat.mul_add,Nat.add_mul];omega
   omega
  ·rename_i h
   exact ⟨by omega,by omega⟩
def root (n:Int):Int:=(oZ n.toNat:Int)
theorem BV {n:Int} (h:0≤n):0≤root n∧root n*root n≤n∧n<(root n+1)*(root n+1):=by
 obtain ⟨h1,h2⟩:=DW n.toNat
 unfold root
 refine ⟨by omega,?_,?_⟩
 ·have:((oZ n.toNat*oZ n.toNat:Nat):Int)≤n:=by omega
  simpa using this
 ·have:n<(((oZ n.toNat+1)*(oZ n.toNat+1):Nat):Int):=by omega
  simpa using this
theorem IE {n:Int} (h:n≤0):root n=0:=by
 unfold root
 have:n.toNat=0:=by omega
 rw [this];rfl
theorem QD {n s:Int} (h0:0≤s) (h1:s*s≤n) (h2:n<(s+1)*(s+1)):root n=s:=by
 have hn:0≤n:=Int.le_trans (Int.mul_nonneg h0 h0) h1
 obtain ⟨r0,r1,r2⟩:=BV hn
 have a1:¬ root n+1≤s:=fun hh=>by
  have:=Int.mul_le_mul hh hh (by omega) h0;omega
 have a2:¬ s+1≤root n:=fun hh=>by
  have:=Int.mul_le_mul hh hh (by omega) r0;omega
 omega
theorem Hi {n s x:Int} (hx:0<x) (hs:s*s≤n):s≤(x+n / x) / 2:=by
 have h:2*s-x≤n / x:=by
  rw [Int.le_ediv_iff_mul_le hx]
  have h1:0≤(s-x)*(s-x):=by
   rcases Int.le_total 0 (s-x) with h|h
   ·exact Int.mul_nonneg h h
   ·exact Int.mul_nonneg_of_nonpos_of_nonpos h h
  have h2:(s-x)*(s-x)=s*s-(2*s-x)*x:=by
   simp only [Int.sub_mul,Int.mul_sub]
   rw [Int.mul_comm x s,Int.mul_assoc 2 s x];omega
  omega
 omega
theorem Kx {n x:Int} (hx:0<x) (h:x≤(x+n / x) / 2):x*x≤n:=by
 have h1:x≤n / x:=by omega
 exact (Int.le_ediv_iff_mul_le hx).1 h1
theorem KC {n y:Int} (h2:2≤y) (h:2*y≤n+1):y+n / y≤n:=by
 have h1:n / y≤n / 2:=by
  rw [Int.le_ediv_iff_mul_le (by omega)]
  have h3:n / y*y≤n:=Int.ediv_mul_le n (by omega)
  by_cases hn:0≤n / y
  ·have:=Int.mul_le_mul_of_nonneg_left h2 hn;omega
  ·omega
 omega
end Go.Proofs.YtkbikekbaboclaaGreat.qX
set_option linter.unusedVariables false
set_option linter.unusedSimpArgs false
namespace Go.Proofs.YtkbikekbaboclaaGreat.qX
open Go Go.Proofs V Vc
theorem lg (w:World) (x low high:Int):Calls Tryz.prog JL #[.int .i64 x,.int .i64 low,.int .i64 high] w (bc fun v w'=>v = .int .i64 (eu x low high)∧w'=w):=by
 refine MD.calls _ _ _ ?_
 unfold eu
 refine ⟨fun h=>?_,fun h=>⟨fun h2=>?_,fun h2=>?_⟩⟩
 ·rw [if_pos (by simpa using h)];exact ⟨rfl,rfl⟩
 ·rw [if_neg (by simpa using h),if_pos (by simpa using h2)];exact ⟨rfl,rfl⟩
 ·rw [if_neg (by simpa using h),if_neg (by simpa using h2)];exact ⟨rfl,rfl⟩
theorem oL (w:World) (x:Int):Calls Tryz.prog MA #[.int .i64 x] w (bc fun v w'=>v = .int .i64 (sat x)∧w'=w):=by
 refine Qm.calls _ ?_
 refine ab (lg w _ _ _) ?_
 rintro v w ⟨rfl,rfl⟩
 exact ⟨_,rfl,rfl,rfl⟩
end Go.Proofs.YtkbikekbaboclaaGreat.qX
set_option linter.unusedVariables false
set_option linter.unusedSimpArgs false
namespace Go.Proofs.YtkbikekbaboclaaGreat.qX
open Go Go.Proofs V Vc
def DE (x:Int):Prop := -9223372036854775808≤x∧x≤9223372036854775807
theorem Fu {x:Int} (h:DE x) (n:Nat) : -9223372036854775808≤x / 2 ^ n∧x / 2 ^ n≤9223372036854775807:=by
 obtain ⟨h1,h2⟩:=h
 have hp:=xr n
 constructor
 ·rw [Int.le_ediv_iff_mul_le hp]
  have:=Int.mul_le_mul_of_nonpos_left (show (-9223372036854775808:Int)≤0 by omega) (show (1:Int)≤2 ^ n by omega)
  omega
 ·have h3:x / 2 ^ n*2 ^ n≤x:=Int.ediv_mul_le x (by omega)
  apply Int.le_of_not_gt;intro h4
  have:=Int.mul_le_mul_of_nonneg_left (show (1:Int)≤2 ^ n by omega) (show 0≤x / 2 ^ n by omega)
  omega
theorem EF {x:Int} (h:DE x) {n:Nat} (hn:1≤n) : -4611686018427387904≤x / 2 ^ n∧x / 2 ^ n≤4611686018427387903:=by
 obtain ⟨m,rfl⟩:∃ m,n=m+1:=⟨n-1,by omega⟩
 have:=Fu h m
 have e:x / 2 ^ (m+1)=x / 2 ^ m / 2:=by rw [Int.pow_succ,Int.ediv_ediv_of_nonneg (Int.le_of_lt (xr m))]
 rw [e];omega
theorem SH {x:Int} (h:DE x) (n:Int):DE (shift x n):=by
 unfold shift
 split
 ·exact h
 ·split
  ·exact ⟨by omega,by omega⟩
  ·have:=EF h (n:=n.toNat) (by omega)
   exact ⟨by omega,by omega⟩
theorem fdiv_pow (x:Int) (n:Nat):Int.fdiv x (2 ^ n)=x / 2 ^ n:=Int.fdiv_eq_ediv_of_nonneg _ (Int.le_of_lt (xr n))
theorem rO (w:World) {x:Int} (h:DE x) (n:Int):Calls Tryz.prog IP #[.int .i64 x,.int .i64 n] w (bc fun v w'=>v = .int .i64 (shift x n)∧Ch ah w w'):=by
 refine MQ.calls _ _ ?_
 unfold shift
 refine ⟨fun h1=>?_,fun h1=>⟨fun h2=>?_,fun h2=>?_⟩⟩
 ·rw [if_pos (by simpa using h1)];exact ⟨rfl,Ch.refl _ _⟩
 ·rw [if_neg (by simpa using h1),if_pos (by simpa using h2)];exact ⟨rfl,Ch.refl _ _⟩
 ·have h1:0<n:=by simpa using h1
  have h2:n<63:=by simpa using h2
  rw [if_neg (by omega),if_neg (by omega)]
  refine ⟨fun _=>True,fun w1 e1=>⟨trivial,by omega,?_⟩⟩
  rw [ae (x:=n-1) (by omega) (by omega)]
  refine ⟨by omega,?_,Ch.drew e1⟩
  have m1:min n.toNat IntKind.i64.bits=n.toNat:=by show min n.toNat 64=_;omega
  have m2:min (n-1).toNat IntKind.i64.bits=n.toNat-1:=by show min (n-1).toNat 64=_;omega
  rw [m1,m2,fdiv_pow,fdiv_pow,xQ]
  have:=EF h (n:=n.toNat) (by omega)
  rw [ae (by omega) (by omega)]
def product (a b:Int):Int:=eu a (-1073741824) 1073741824*eu b (-1073741824) 1073741824
theorem xZ {a b m n:Int} (hm:0≤m) (h1 : -m≤a∧a≤m) (h2 : -n≤b∧b≤n) : -(m*n)≤a*b∧a*b≤m*n:=by
 have hn:0≤n:=by omega
 have e:(a*b).natAbs=a.natAbs*b.natAbs:=Int.natAbs_mul a b
 have k:a.natAbs*b.natAbs≤m.natAbs*n.natAbs:=Nat.mul_le_mul (by omega) (by omega)
 have e2:(m*n).natAbs=m.natAbs*n.natAbs:=Int.natAbs_mul m n
 have:=Int.mul_nonneg hm hn
 omega
theorem rC (a b:Int) : -1152921504606846976≤product a b∧product a b≤1152921504606846976 :=
 xZ (m:=1073741824) (n:=1073741824) (by omega) (lm (by omega)) (lm (by omega))
theorem AY (w:World) (a b:Int):Calls Tryz.prog FK #[.int .i64 a,.int .i64 b] w (bc fun v w'=>v = .int .i64 (product a b)∧w'=w):=by
 refine JJ.calls _ _ ?_
 refine ab (lg w _ _ _) ?_
 rintro v w1 ⟨rfl,rfl⟩
 refine ⟨_,rfl,?_⟩
 refine ab (lg _ _ _ _) ?_
 rintro v w2 ⟨rfl,rfl⟩
 have:=rC a b
 refine ⟨_,rfl,?_,rfl⟩
 rw [ae (by show _≤product a b;omega) (by show product a b≤_;omega)];rfl
def mul (a b n:Int):Int:=sat (shift (product a b) n)
theorem Ex (a b:Int):DE (product a b):=by have:=rC a b;exact ⟨by omega,by omega⟩
theorem PN (w:World) (a b n:Int):Calls Tryz.prog Mu #[.int .i64 a,.int .i64 b,.int .i64 n] w (bc fun v w'=>v = .int .i64 (mul a b n)∧Ch ah w w'):=by
 refine QB.calls _ _ _ ?_
 refine ab (AY w _ _) ?_
 rintro v w1 ⟨rfl,rfl⟩
 refine ⟨_,rfl,?_⟩
 refine ab (rO _ (Ex a b) _) ?_
 rintro v w2 ⟨rfl,h2⟩
 refine ⟨_,rfl,?_⟩
 refine ab (oL _ _) ?_
 rintro v w3 ⟨rfl,rfl⟩
 exact ⟨_,rfl,rfl,h2⟩
end Go.Proofs.YtkbikekbaboclaaGreat.qX
set_option linter.unusedVariables false
set_option linter.unusedSimpArgs false
namespace Go.Proofs.YtkbikekbaboclaaGreat.qX
open Go Go.Proofs V Vc
theorem fi (w:World) (x low high:Int):Calls Tryz.prog pe #[.int .i64 x,.int .i64 low,.int .i64 high] w (bc fun v w'=>v = .int .i64 (eu x low high)∧w'=w):=by
 refine pR.calls _ _ _ ?_
 unfold eu
 refine ⟨fun h=>?_,fun h=>⟨fun h2=>?_,fun h2=>?_⟩⟩
 ·rw [if_pos (by simpa using h)];exact ⟨rfl,rfl⟩
 ·rw [if_neg (by simpa using h),if_pos (by simpa using h2)];exact ⟨rfl,rfl⟩
 ·rw [if_neg (by simpa using h),if_neg (by simpa using h2)];exact ⟨rfl,rfl⟩
theorem ni (w:World) (x:Int):Calls Tryz.prog pV #[.int .i64 x] w (bc fun v w'=>v = .int .i64 (sat x)∧w'=w):=by
 refine rF.calls _ ?_
 refine ab (fi w _ _ _) ?_
 rintro v w ⟨rfl,rfl⟩
 exact ⟨_,rfl,rfl,rfl⟩
theorem sI (w:World) {x:Int} (h:DE x) (n:Int):Calls Tryz.prog tT #[.int .i64 x,.int .i64 n] w (bc fun v w'=>v = .int .i64 (shift x n)∧Ch ah w w'):=by
 refine xL.calls _ _ ?_
 refine ⟨fun h1=>?_,fun h1=>?_⟩
 ·have h1:n≥63:=by simpa using h1
  unfold shift;rw [if_neg (by omega),if_pos (by omega)];exact ⟨rfl,Ch.refl _ _⟩
 have h1:n<63:=by simpa using h1
 refine ⟨fun y last i k w'=>w'=w∧∃ j:Nat,i=j∧(j:Int)≤max n 0∧k=n.toNat-j∧y=x / 2 ^ j∧last=(if j=0 then 0 else (x / 2 ^ (j-1)) % 2),⟨_,rfl,0,rfl,by omega,rfl,by simp,rfl⟩,?_⟩
 rintro jk y last i k w' ⟨rfl,j,rfl,hj,rfl,rfl,rfl⟩
 have hd:=Fu h j
 refine ⟨fun a0=>?_,fun a1=>?_⟩
 ·have a0:(j:Int)<n:=by simpa using a0
  refine ⟨by decide,n.toNat-(j+1),by omega,rfl,j+1,?_,by omega,rfl,?_,?_⟩
  ·rw [ae (by omega) (by omega)];rfl
  ·rw [xQ,ae (x:=x / 2 ^ j-x / 2 ^ j % 2) (by omega) (by omega),Int.pow_succ,← Int.ediv_ediv_of_nonneg (Int.le_of_lt (xr j))]
   have e:(x / 2 ^ j-x / 2 ^ j % 2)=2*(x / 2 ^ j / 2):=by omega
   rw [e,Int.mul_tdiv_cancel_left _ (by decide),ae (by omega) (by omega)]
  ·rw [xQ,if_neg (by omega),Nat.add_sub_cancel]
 ·have a1:n≤(j:Int):=by simpa using a1
  refine ⟨?_,Ch.refl _ _⟩
  unfold shift
  by_cases hn:n≤0
  ·have:j=0:=by omega
   subst this
   rw [if_pos hn,if_pos rfl]
   simp only [Int.pow_zero,Int.ediv_one,Int.add_zero]
   rw [ae h.1 h.2]
  ·have:n.toNat=j:=by omega
   rw [if_neg hn,if_neg (by omega),if_neg (by omega),this]
   have:=EF h (n:=j) (by omega)
   rw [ae (by omega) (by omega)]
theorem Nw (w:World) (a b n:Int):Calls Tryz.prog wP #[.int .i64 a,.int .i64 b,.int .i64 n] w (bc fun v w'=>v = .int .i64 (mul a b n)∧Ch ah w w'):=by
 refine zI.calls _ _ _ ?_
 unfold Vm.B Vm.B0 Vm.B9 Vm.D2;dsimp only
 refine ab (fi w _ _ _) ?_
 rintro v w1 ⟨rfl,rfl⟩
 refine ⟨_,rfl,?_⟩
 refine ab (fi _ _ _ _) ?_
 rintro v w2 ⟨rfl,rfl⟩
 refine ⟨_,rfl,?_⟩
 have hp:=Ex a b
 have e:IntKind.i64.wrap (eu a (-1073741824) 1073741824*eu b (-1073741824) 1073741824)=product a b:=ae hp.1 hp.2
 rw [e]
 refine ab (sI _ hp _) ?_
 rintro v w3 ⟨rfl,h2⟩
 refine ⟨_,rfl,?_⟩
 refine ab (ni _ _) ?_
 rintro v w4 ⟨rfl,rfl⟩
 exact ⟨_,rfl,rfl,h2⟩
end Go.Proofs.YtkbikekbaboclaaGreat.qX
set_option linter.unusedVariables false
set_option linter.unusedSimpArgs false
namespace Go.Proofs.YtkbikekbaboclaaGreat.qX
open Go Go.Proofs V Vc
theorem tdiv_le {a b:Int} (ha:DE a) (hb:b ≠ -1):DE (Int.tdiv a b)∧(Int.tmod a b≠0→DE (Int.tdiv a b-1)):=by
 obtain ⟨h1,h2⟩:=ha
 have e:(Int.tdiv a b).natAbs=a.natAbs / b.natAbs:=Int.natAbs_tdiv a b
 by_cases a0:b.natAbs=0
 ·have a0:b=0:=by omega
  subst a0
  rw [Int.tdiv_zero];exact ⟨⟨by omega,by omega⟩,fun _=>⟨by omega,by omega⟩⟩
 by_cases a1:b.natAbs=1
 ·have:b=1:=by omega
  subst this
  rw [Int.tdiv_one,Int.tmod_one]
  exact ⟨⟨h1,h2⟩,fun h=>absurd rfl h⟩
 have k:a.natAbs / b.natAbs≤a.natAbs / 2:=Nat.div_le_div_left (by omega) (by omega)
 exact ⟨⟨by omega,by omega⟩,fun _=>⟨by omega,by omega⟩⟩
theorem Sf {a:Int} (ha:DE a):(if IntKind.i64.wrap (0-IntKind.i64.wrap (a+1))>IntKind.i64.wrap (0-a) then IntKind.i64.wrap (0-IntKind.i64.wrap (a+1)) else IntKind.i64.wrap (0-a))=div a (-1):=by
 obtain ⟨h1,h2⟩:=ha
 have hd:div a (-1)=if a = -9223372036854775808 then 9223372036854775807 else -a:=by
  have e:Int.fdiv a (-1) = -a:=by
   have:=Int.neg_fdiv_neg a (-1)
   rw [Int.neg_neg,Int.fdiv_one] at this;exact this.symm
  unfold div;rw [if_neg (by omega),e];simp
 rw [hd]
 by_cases hm:a = -9223372036854775808
 ·subst hm;decide
 ·rw [if_neg hm]
  by_cases ht:a=9223372036854775807
  ·subst ht;decide
  ·rw [ae (x:=a+1) (by omega) (by omega),ae (x:=0-(a+1)) (by omega) (by omega),ae (x:=0-a) (by omega) (by omega),if_neg (by omega)]
   omega
theorem Jn {R:Value→World→Prop} {w:World} {a b:Int} (ha:DE a) (h0:b≠0) (h1:b ≠ -1) (hR:R (.int .i64 (div a b)) w) :
  (((Int.tmod a b) != (0:Int))=true →
   ((!((decide (a<(0:Int)))==(decide (b<(0:Int)))))=true→R (.int .i64 (IntKind.i64.wrap ((IntKind.i64.wrap (Int.tdiv a b))-1))) w) ∧
   ((!((decide (a<(0:Int)))==(decide (b<(0:Int)))))=false→R (.int .i64 (IntKind.i64.wrap (Int.tdiv a b))) w)) ∧
  (((Int.tmod a b) != (0:Int))=false→R (.int .i64 (IntKind.i64.wrap (Int.tdiv a b))) w):=by
 obtain ⟨l1,l2⟩:=tdiv_le (b:=b) ha h1
 have hq:=Sg (a:=a) h0
 have hd:div a b=Int.fdiv a b:=by unfold div;rw [if_neg h0,if_neg (fun h=>h1 h.1)]
 rw [hd,← hq] at hR
 rw [ae l1.1 l1.2]
 refine ⟨fun h=>?_,fun h=>?_⟩
 ·have h:Int.tmod a b≠0:=by simpa using h
  have l2:=l2 h
  rw [ae l2.1 l2.2]
  refine ⟨fun h3=>?_,fun h3=>?_⟩
  ·rw [if_pos ⟨h,by simp at h3;omega⟩] at hR;exact hR
  ·rw [if_neg (fun hc=>by simp at h3;omega)] at hR;exact hR
 ·have h:Int.tmod a b=0:=by simpa using h
  rw [if_neg (fun hc=>hc.1 h)] at hR;exact hR
theorem Jo (w:World) {a:Int} (ha:DE a) (b:Int):Calls Tryz.prog Nl #[.int .i64 a,.int .i64 b] w (bc fun v w'=>v = .int .i64 (div a b)∧w'=w):=by
 refine QJ.calls _ _ ?_
 refine ⟨fun h=>?_,fun h=>⟨fun h1=>?_,fun h1=>?_⟩⟩
 ·have:b=0:=by simpa using h
  subst this;exact ⟨rfl,rfl⟩
 ·have:b = -1:=by simpa using h1
  subst this;exact ⟨by rw [Sf ha],rfl⟩
 ·have h:b≠0:=by simpa using h
  exact ⟨h,h,Jn (R:=fun v w'=>v = .int .i64 (div a b)∧w'=w) ha h (by simpa using h1) ⟨rfl,rfl⟩⟩
theorem NI (w:World) {a:Int} (ha:DE a) (b:Int):Calls Tryz.prog xi #[.int .i64 a,.int .i64 b] w (bc fun v w'=>v = .int .i64 (div a b)∧w'=w):=by
 refine Ae.calls _ _ ?_
 refine ⟨fun h=>?_,fun h=>⟨fun h1=>⟨fun h2=>?_,fun h2=>?_⟩,fun h1=>?_⟩⟩
 ·have:b=0:=by simpa using h
  subst this;exact ⟨rfl,rfl⟩
 ·have h1:b = -1:=by simpa using h1
  have h2:a = -9223372036854775808:=by simpa using h2
  subst h1;subst h2;exact ⟨rfl,rfl⟩
 ·have h1:b = -1:=by simpa using h1
  have h2:a ≠ -9223372036854775808:=by simpa using h2
  subst h1
  have e:Int.fdiv a (-1) = -a:=by
   have:=Int.neg_fdiv_neg a (-1)
   rw [Int.neg_neg,Int.fdiv_one] at this;exact this.symm
  obtain ⟨l1,l2⟩:=ha
  refine ⟨?_,rfl⟩
  unfold div
  rw [if_neg (by decide),if_neg (fun h=>h2 h.2),e,ae (by omega) (by omega),Int.zero_sub]
 ·have h:b≠0:=by simpa using h
  exact ⟨h,h,Jn (R:=fun v w'=>v = .int .i64 (div a b)∧w'=w) ha h (by simpa using h1) ⟨rfl,rfl⟩⟩
end Go.Proofs.YtkbikekbaboclaaGreat.qX
set_option linter.unusedVariables false
set_option linter.unusedSimpArgs false
namespace Go.Proofs.YtkbikekbaboclaaGreat.qX
open Go Go.Proofs V Vc
def nY (l:List Int):Int:=l.foldl (fun out x=>eu (out+eu x (-2305843009213693952) 2305843009213693952) (-4611686018427387904) 4611686018427387904) 0
theorem xU (l:List Int) (x:Int):nY (l++[x])=eu (nY l+eu x (-2305843009213693952) 2305843009213693952) (-4611686018427387904) 4611686018427387904:=by
 unfold nY;rw [List.foldl_append];rfl
theorem DJ {α:Type} {p:List α→Prop} (h0:p []) (h1:∀ l x,p l→p (l++[x])) (l:List α):p l:=by
 have h:∀ m:List α,p m.reverse:=fun m=>by
  induction m with
  | nil=>exact h0
  | cons x r ih=>rw [List.reverse_cons];exact h1 _ _ ih
 have:=h l.reverse
 rwa [List.reverse_reverse] at this
theorem HP (l:List Int) : -4611686018427387904≤nY l∧nY l≤4611686018427387904:=by
 refine DJ (p:=fun l => -4611686018427387904≤nY l∧nY l≤4611686018427387904) ⟨by decide,by decide⟩ (fun l x _=>?_) l
 rw [xU]
 exact lm (by omega)
theorem Fp {b:Int} (hb:0≤b) (l:List Int) (h:∀ x∈l,-b≤x∧x≤b) (hl:b*l.length≤2305843009213693952) (a0:b≤2305843009213693952):nY l=l.sum ∧ -(b*l.length)≤l.sum∧l.sum≤b*l.length:=by
 have main:∀ l:List Int,(∀ x∈l,-b≤x∧x≤b)→b*l.length≤2305843009213693952→nY l=l.sum ∧ -(b*l.length)≤l.sum∧l.sum≤b*l.length:=by
  intro l
  refine DJ (p:=fun l=>(∀ x∈l,-b≤x∧x≤b)→b*l.length≤2305843009213693952→nY l=l.sum ∧ -(b*l.length)≤l.sum∧l.sum≤b*l.length) (fun _ _=>by simp [nY]) (fun l x ih h hl=>?_) l
  have e:b*((l++[x]).length:Int)=b*l.length+b:=by simp [Int.mul_add]
  rw [e] at hl ⊢
  have hx:=h x (by simp)
  obtain ⟨i1,i2,i3⟩:=ih (fun y hy=>h y (by simp [hy])) (by omega)
  have es:(l++[x]).sum=l.sum+x:=by simp
  rw [xU,i1,es,Bm (x:=x) (by omega) (by omega),Bm (by omega) (by omega)]
  exact ⟨rfl,by omega,by omega⟩
 exact main l h hl
theorem au {α:Type} (l:List α) (j:Nat) (h:j<l.length):l.take (j+1)=l.take j++[l[j]]:=List.take_succ_eq_append_getElem h
theorem wD {w:World} {o:OA} {c:Nat} {xs:List Int} {F:Nat→Prop} (hr:Rd w o (xs.map (.int .i64)) F) (hx:xs.length≤1000000000000) :
  Calls Tryz.prog Mx #[.slice o xs.length c] w (bc fun v w'=>v = .int .i64 (nY xs)∧w'=w):=by
 refine QT.calls _ _ _ ?_
 unfold Vm.B Vm.B9 Vm.C0 Vm.E5 Vm.G Vm.V Vm.Z;dsimp only
 refine ⟨fun s i k w'=>w'=w∧∃ j:Nat,i=j∧j≤xs.length∧k=xs.length-j∧s=nY (xs.take j),⟨_,rfl,0,rfl,Nat.zero_le _,rfl,rfl⟩,?_⟩
 rintro jk s i k w' ⟨rfl,j,rfl,hj,rfl,rfl⟩
 refine ⟨fun a0=>?_,fun a1=>?_⟩
 ·have a0:j<xs.length:=by simpa using a0
  refine ⟨⟨by omega,by omega⟩,hr.at (j:=(j:Int).toNat*1) (v := .int .i64 xs[j]) (by simp [a0]) fun p hp=>⟨xs[j],hp,?_⟩⟩
  refine ab (lg _ _ _ _) ?_
  rintro v w1 ⟨rfl,rfl⟩
  refine ⟨_,rfl,?_⟩
  have hs:=HP (xs.take j)
  have hc:=lm (x:=xs[j]) (low := -2305843009213693952) (high:=2305843009213693952) (by omega)
  rw [ae (x:=nY (xs.take j)+_) (by omega) (by omega)]
  refine ab (lg _ _ _ _) ?_
  rintro v w2 ⟨rfl,rfl⟩
  refine ⟨_,rfl,xs.length-(j+1),by omega,rfl,j+1,?_,a0,rfl,?_⟩
  ·rw [ae (by omega) (by omega)];rfl
  ·rw [au xs j a0,xU]
 ·have:j=xs.length:=by simp at a1;omega
  subst this
  exact ⟨by rw [List.take_length],rfl⟩
end Go.Proofs.YtkbikekbaboclaaGreat.qX
set_option linter.unusedVariables false
set_option linter.unusedSimpArgs false
namespace Go.Proofs.YtkbikekbaboclaaGreat.qX
open Go Go.Proofs V Vc
theorem MO {w:World} {o:OA} {c:Nat} {xs:List Int} {F:Nat→Prop} (hr:Rd w o (xs.map (.int .i64)) F) (hx:xs.length≤1000000000000) :
  Calls Tryz.prog KB #[.slice o xs.length c] w (bc fun v w'=>v = .int .i64 (div (nY xs) xs.length)∧w'=w):=by
 refine PP.calls _ _ _ ?_
 refine ab (wD hr hx) ?_
 rintro v w1 ⟨rfl,rfl⟩
 have:=HP xs
 refine ⟨_,rfl,?_⟩
 refine ab (Jo _ ⟨by omega,by omega⟩ _) ?_
 rintro v w2 ⟨rfl,rfl⟩
 exact ⟨_,rfl,rfl,rfl⟩
end Go.Proofs.YtkbikekbaboclaaGreat.qX
set_option linter.unusedVariables false
set_option linter.unusedSimpArgs false
namespace Go.Proofs.YtkbikekbaboclaaGreat.qX
open Go Go.Proofs V Vc
theorem Ny (w:World) {n:Int} (hn:DE n):Calls Tryz.prog Lr #[.int .i64 n] w (bc fun v w'=>v = .int .i64 (root n)∧w'=w):=by
 obtain ⟨n1,n2⟩:=hn
 refine OK.calls _ ?_
 refine ⟨fun h=>?_,fun h=>⟨by decide,?_⟩⟩
 ·have h:n≤0:=by simpa using h
  exact ⟨by rw [IE h],rfl⟩
 have h:0<n:=by simpa using h
 obtain ⟨r0,r1,r2⟩:=BV (n:=n) (by omega)
 have a6:1≤root n:=by
  apply Int.le_of_not_gt;intro hh
  have:root n=0:=by omega
  rw [this] at r2;omega
 refine ⟨fun x y k w'=>w'=w∧1≤x∧x≤n∧root n≤x∧y=(x+n / x) / 2∧root n≤y∧2*y≤n+1∧k=x.toNat,⟨_,rfl,by omega,by omega,?_,?_,?_,?_,rfl⟩,?_⟩
 ·apply Int.le_of_not_gt;intro hh
  have:=Int.mul_le_mul (show n+1≤root n by omega) (show n+1≤root n by omega) (by omega) r0
  have e:(n+1)*(n+1)=n*n+2*n+1:=by rw [Int.mul_add,Int.add_mul];omega
  have:=Int.mul_nonneg (show 0≤n by omega) (show 0≤n by omega)
  omega
 ·rw [xQ,Int.tdiv_eq_ediv_of_nonneg (by omega),ae (x:=n / 2) (by omega) (by omega),ae (by omega) (by omega),Int.ediv_self (by omega)]
  omega
 ·have:=Hi (x:=n) h r1
  rw [Int.ediv_self (by omega)] at this
  rw [xQ,Int.tdiv_eq_ediv_of_nonneg (by omega),ae (x:=n / 2) (by omega) (by omega),ae (by omega) (by omega)]
  omega
 ·rw [xQ,Int.tdiv_eq_ediv_of_nonneg (by omega),ae (x:=n / 2) (by omega) (by omega),ae (by omega) (by omega)]
  omega
 rintro jk x y k w' ⟨rfl,a7,a8,a9,hy,a4,a5,rfl⟩
 refine ⟨fun a3=>?_,fun a0=>?_⟩
 ·have a3:y<x:=by simpa using a3
  have b2:1≤y:=by omega
  have b3:0≤n / y:=Int.ediv_nonneg (by omega) (by omega)
  have b4:n / y≤n:=Int.ediv_le_self y (by omega)
  have a1:y+n / y≤9223372036854775807∧(2*((y+n / y) / 2)≤n+1):=by
   by_cases a2:2≤y
   ·have:=KC a2 a5;omega
   ·have:y=1:=by omega
    subst this
    rw [Int.ediv_one] at *
    have:root n=1:=by omega
    rw [this] at r2;omega
  have e1:IntKind.i64.wrap (Int.tdiv n y)=n / y:=by rw [Int.tdiv_eq_ediv_of_nonneg (by omega),ae (by omega) (by omega)]
  rw [e1,ae (x:=y+n / y) (by omega) (by omega),Int.tdiv_eq_ediv_of_nonneg (by omega),ae (by omega) (by omega)]
  exact ⟨by omega,by decide,y.toNat,by omega,rfl,by omega,by omega,a4,rfl,Hi (by omega) r1,a1.2,rfl⟩
 ·have a0:x≤y:=by simpa using a0
  have b5:x*x≤n:=Kx (by omega) (by rw [← hy];exact a0)
  refine ⟨?_,rfl⟩
  have:¬ root n+1≤x:=fun hh=>by
   have:=Int.mul_le_mul hh hh (by omega) (by omega)
   omega
  have:root n=x:=by omega
  rw [this]
theorem KK (w:World) {n:Int} (hn:DE n):Calls Tryz.prog vR #[.int .i64 n] w (bc fun v w'=>v = .int .i64 (root n)∧w'=w):=by
 obtain ⟨n1,n2⟩:=hn
 refine yT.calls _ ?_
 refine ⟨fun out i k w'=>w'=w∧∃ j:Nat,j≤32∧i=(j:Int)-1∧k=j∧0≤out∧out≤3037000499∧(out=0∨out*out≤n)∧n<(out+2 ^ j)*(out+2 ^ j),⟨_,rfl,32,by omega,rfl,rfl,by omega,by omega,.inl rfl,?_⟩,?_⟩
 ·show n<(0+4294967296)*(0+4294967296)
  omega
 rintro jk out i j w' ⟨rfl,j',hj,rfl,a3,h0,h1,h2,h3⟩
 subst a3
 refine ⟨fun a1=>?_,fun a4=>?_⟩
 ·have a1:1≤j:=by simp at a1;omega
  obtain ⟨m,rfl⟩:∃ m,j=m+1:=⟨j-1,by omega⟩
  have hm:(((m+1:Nat):Int)-1)=m:=by omega
  have hp:=xr m
  have a5:(2:Int) ^ m≤2147483648:=by
   have h:(2:Nat) ^ m≤2 ^ 31:=Nat.pow_le_pow_right (by omega) (by omega)
   have h':(((2:Nat) ^ m:Nat):Int)≤((2 ^ 31:Nat):Int):=Int.ofNat_le.2 h
   simpa using h'
  have a0:min (m:Int).toNat IntKind.i64.bits=m:=by show min (m:Int).toNat 64=m;omega
  rw [hm,a0,Int.one_mul,ae (x:=2 ^ m) (by omega) (by omega),ae (x:=out+2 ^ m) (by omega) (by omega),ae (x:=(m:Int)-1) (by omega) (by omega)]
  have e2:out+2 ^ (m+1)=out+2 ^ m+2 ^ m:=by rw [Int.pow_succ];omega
  rw [e2] at h3
  have no:∀ (a2:n<(out+2 ^ m)*(out+2 ^ m)),∃ vk_1:Nat,vk_1<m+1∧w'=w'∧∃ j:Nat,j≤32∧(m:Int)-1=(j:Int)-1∧vk_1=j∧0≤out∧out≤3037000499∧(out=0∨out*out≤n)∧n<(out+2 ^ j)*(out+2 ^ j) :=
   fun a2=>⟨m,by omega,rfl,m,by omega,rfl,rfl,h0,h1,h2,a2⟩
  have yes:(out+2 ^ m≤3037000499)→((out+2 ^ m)*(out+2 ^ m)≤n)→∃ vk_1:Nat,vk_1<m+1∧w'=w'∧∃ j:Nat,j≤32∧(m:Int)-1=(j:Int)-1∧vk_1=j∧0≤out+2 ^ m∧out+2 ^ m≤3037000499∧(out+2 ^ m=0∨(out+2 ^ m)*(out+2 ^ m)≤n)∧n<(out+2 ^ m+2 ^ j)*(out+2 ^ m+2 ^ j) :=
   fun ha hb=>⟨m,by omega,rfl,m,by omega,rfl,rfl,by omega,ha,.inr hb,h3⟩
  generalize (2:Int) ^ m=q at *
  refine ⟨by omega,fun hx=>?_,fun hx=>?_⟩
  ·have hx:out+q≤3037000499:=by simpa using hx
   have a6:0≤(out+q)*(out+q)∧(out+q)*(out+q)≤9223372030926249001:=by
    have:=xZ (a:=out+q) (b:=out+q) (m:=3037000499) (n:=3037000499) (by omega) (by omega) (by omega)
    have h4:=Int.mul_nonneg (show 0≤out+q by omega) (show 0≤out+q by omega)
    omega
   rw [ae (x:=(out+q)*(out+q)) (by omega) (by omega)]
   refine ⟨fun hs=>?_,fun hs=>?_⟩
   ·have hs:(out+q)*(out+q)≤n:=by simpa using hs
    exact yes hx hs
   ·exact no (by simpa using hs)
  ·have hx:3037000499<out+q:=by simpa using hx
   refine no ?_
   have:=Int.mul_le_mul (show 3037000500≤out+q by omega) (show 3037000500≤out+q by omega) (by omega) (by omega)
   omega
 ·have:j=0:=by simp at a4;omega
  subst this
  refine ⟨?_,rfl⟩
  rcases h2 with h2|h2
  ·subst h2
   have:n≤0:=by simp at h3;omega
   rw [IE this]
  ·rw [QD h0 h2 (by simpa using h3)]
end Go.Proofs.YtkbikekbaboclaaGreat.qX
set_option linter.unusedVariables false
set_option linter.unusedSimpArgs false
namespace Go.Proofs.YtkbikekbaboclaaGreat.qX
open Go Go.Proofs V Vc Go.RowKit
section
variable {w:World} {oa ob:OA} {ca cb:Nat} {xs ys:List Int} {F G:Nat→Prop}
def se (xs ys:List Int):Int:=(List.zipWith product xs ys).foldl (fun out p=>eu (out+p) (-4611686018427387904) 4611686018427387904) 0
theorem Py {xs ys:List Int} {j:Nat} (h1:j<xs.length) (h2:j<ys.length):(List.zipWith product xs ys).take (j+1)=(List.zipWith product xs ys).take j++[product xs[j] ys[j]]:=by
 rw [List.take_succ_eq_append_getElem (by simp;omega)];simp
theorem Ja (hx:Rd w oa (xs.map (.int .i64)) F) (hy:Rd w ob (ys.map (.int .i64)) G) (hl:xs.length≤1000000):Calls Tryz.prog Gu #[.slice oa xs.length ca,.slice ob ys.length cb] w (bc fun v w'=>v = .int .i64 (se xs ys)∧Ch ah w w'):=by
 refine QU.calls _ _ _ _ _ _ ?_
 have a0:(if ((ys.length:Nat):Int)<((xs.length:Nat):Int) then ((ys.length:Nat):Int) else ((xs.length:Nat):Int))=((min xs.length ys.length:Nat):Int):=by split <;> omega
 rw [a0]
 refine ⟨fun m i k w'=>Ch ah w w' ∧ -4611686018427387904≤m∧m≤4611686018427387904∧∃ j:Nat,i=j∧j≤min xs.length ys.length∧k=min xs.length ys.length-j∧m=((List.zipWith product xs ys).take j).foldl (fun out p=>eu (out+p) (-4611686018427387904) 4611686018427387904) 0,⟨_,Ch.refl _ _,by omega,by omega,0,rfl,Nat.zero_le _,rfl,rfl⟩,?_⟩
 rintro jk m i k w1 ⟨hc,a6,a7,j,rfl,hj,rfl,hm⟩
 refine ⟨fun a1=>?_,fun a4=>?_⟩
 ·have a1:j<min xs.length ys.length:=by simp at a1;omega
  refine ⟨fun w'=>Ch ah w w',fun w2 e2=>⟨hc.ag (Ch.drew e2),⟨by omega,by omega⟩,Rd.keeps (j:=(j:Int).toNat*1) (S:=fun w2=>Ch ah w w2) (fun w2 h2=>hx.aa h2) hc (by simp;omega) fun p hp=>⟨_,hp,⟨by omega,by omega⟩,
   Rd.keeps (j:=(j:Int).toNat*1) (S:=fun w2=>Ch ah w w2) (fun w2 h2=>hy.aa h2) hc (by simp;omega) fun p2 a5=>⟨_,a5,?_⟩⟩⟩⟩
  have a2:=hc.ag (Ch.drew (F:=ah) e2)
  refine ab (AY w2 _ _) ?_
  rintro v w3 ⟨rfl,rfl⟩
  refine ⟨_,rfl,a2,?_⟩
  have hp:=rC (xs[(j:Int).toNat*1]'(by simp;omega)) (ys[(j:Int).toNat*1]'(by simp;omega))
  rw [ae (x:=m+_) (by omega) (by omega)]
  refine ab (lg _ _ _ _) ?_
  rintro v w4 ⟨rfl,rfl⟩
  have a3:=lm (x:=m+product (xs[(j:Int).toNat*1]'(by simp;omega)) (ys[(j:Int).toNat*1]'(by simp;omega))) (low := -4611686018427387904) (high:=4611686018427387904) (by omega)
  refine ⟨_,rfl,a2,min xs.length ys.length-(j+1),by omega,a2,a3.1,a3.2,j+1,by rw [ae (by omega) (by omega)];rfl,a1,rfl,?_⟩
  rw [Py (by omega) (by omega),List.foldl_append,← hm];simp
 ·have:j=min xs.length ys.length:=by simp at a4;omega
  subst this
  rw [List.take_of_length_le (by simp)] at hm
  exact ⟨by rw [hm];rfl,hc⟩
end
theorem PZ (xs ys:List Int) : -4611686018427387904≤se xs ys∧se xs ys≤4611686018427387904:=by
 unfold se
 generalize List.zipWith product xs ys=l
 refine DJ (p:=fun l => -4611686018427387904≤List.foldl (fun out p=>eu (out+p) (-4611686018427387904) 4611686018427387904) 0 l∧List.foldl (fun out p=>eu (out+p) (-4611686018427387904) 4611686018427387904) 0 l≤4611686018427387904) ⟨by decide,by decide⟩ (fun l x _=>?_) l
 rw [List.foldl_append]
 exact lm (by omega)
theorem OI (xs ys:List Int):nY (List.zipWith product xs ys)=se xs ys:=by
 unfold nY se
 have hl:∀ p∈List.zipWith product xs ys,eu p (-2305843009213693952) 2305843009213693952=p:=by
  intro p hp
  obtain ⟨i,hi,rfl⟩:=List.getElem_of_mem hp
  rw [List.getElem_zipWith]
  have:=rC (xs[i]'(by simp at hi;omega)) (ys[i]'(by simp at hi;omega))
  exact Bm (by omega) (by omega)
 generalize List.zipWith product xs ys=l at hl
 generalize (0:Int)=a
 induction l generalizing a with
 | nil=>rfl
 | cons p r ih =>
  rw [List.foldl_cons,List.foldl_cons,hl p (by simp)]
  exact ih (fun q hq=>hl q (by simp [hq])) _
end Go.Proofs.YtkbikekbaboclaaGreat.qX
set_option linter.unusedVariables false
set_option linter.unusedSimpArgs false
namespace Go.Proofs.YtkbikekbaboclaaGreat.V
open Go Go.Proofs Go.RowKit
def Gr (G:Nat→Prop) (w0 w:World) (T sz:Nat) (o:OA) (n c:Nat) (vs:List Value):Prop:=Own w T sz o n c vs (db w0 w)∧Ch G w0 w
section
variable {G:Nat→Prop} {P:Program} {w0 w w1 w':World} {T sz t bytes n c:Nat} {o:OA} {vs:List Value} {α:Type} {enc:α→Value}
theorem Gr.nil (h:Ch G w0 w):Gr G w0 w T sz none 0 0 []:=⟨Own.nil _ _ _ _,h⟩
theorem Gr.made {cells:Array Value} (h:Ch G w0 w) (e1:w1=w.alloc (.cells cells T (0,0))) (hn:cells.size=n*sz) (hm:n≤1000000):Gr G w0 w1 T sz (some ⟨w.heap.size,0,none⟩) n n cells.toList :=
 ⟨Own.made e1 hn (by unfold maxLen;omega) ⟨h.size,(ba.new e1).lt⟩,h.ag (Ch.alloc e1)⟩
theorem Gr.nG (h:Ch G w0 w) (e1:w1=w.alloc (.cells #[] T (0,0))):Gr G w0 w1 T sz (some ⟨w.heap.size,0,none⟩) 0 0 []:=Gr.made h e1 (by simp) (by omega)
theorem Gr.step (h:Gr G w0 w T sz o n c vs) (hc:Ch G w w') (hG:∀ i,G i→i<w0.heap.size):Gr G w0 w' T sz o n c vs :=
 ⟨(h.1.af hc (fun i _ hN hi=>absurd (hG i hi) (Nat.not_lt.2 hN.1))).mono (fun i _ hN=>db.le hN hc.size),h.2.same hc⟩
theorem Gr.aa (h:Gr G w0 w T sz o n c vs) (hc:Ch ah w w'):Gr G w0 w' T sz o n c vs :=
 ⟨(h.1.aa hc).mono (fun i _ hN=>db.le hN hc.size),h.2.ag hc⟩
theorem Gr.rd (h:Gr G w0 w T sz o n c vs):Rd w o vs (db w0 w):=h.1.rd
theorem Gr.push (el:li P t T sz bytes) (h:Gr G w0 w T sz o n c vs) (ty:TypeId) {news:Array Value} (e1:w1=w.alloc (.cells news T (0,0))) (hl:news.size=sz) (h1:news.toList.all (·.oneCell')=true) (hn:n<1000000) (hb:bytes≤1000) :
  ∃ (o':OA) (c':Nat) (w':World),(Builtin.append_ #[t,t] ty #[.slice o n c,.slice (some ⟨w.heap.size,0,none⟩) 1 1]).run P w1 = .ok (.slice o' (n+1) c') w'∧Gr G w0 w' T sz o' (n+1) c' (vs++news.toList)∧Ch (db w0 w) w w':=by
 obtain ⟨o',c',w',hr,ho,hc⟩:=Own.push el h.1 ty e1 hl h1 (by unfold maxLen;omega) (Nat.le_trans (Nat.mul_le_mul (show n+1≤1000000 by omega) hb) (by omega))
 exact ⟨o',c',w',hr,⟨ho.mono (fun i _ hi=>db.ext hi h.2.size hc.size),h.2.trans hc (fun i hi hN=>absurd hi (Nat.not_lt.2 hN.1))⟩,hc⟩
theorem Gr.HL {o2:OA} {c2 m:Nat} {news:List Value} {F:Nat→Prop} (el:li P t T sz bytes) (h:Gr G w0 w T sz o n c vs) (ty:TypeId) (hr:Rd w o2 news F) (hl:news.length=m*sz) (h1:∀ u∈news,u.oneCell'=true) (hn:n+m≤1000000) (hb:bytes≤1000) :
  ∃ (o':OA) (c':Nat) (w':World),(Builtin.append_ #[t,t] ty #[.slice o n c,.slice o2 m c2]).run P w = .ok (.slice o' (n+m) c') w'∧Gr G w0 w' T sz o' (n+m) c' (vs++news)∧Ch (db w0 w) w w':=by
 obtain ⟨o',c',w',hr,ho,hc⟩:=Own.ll (c2:=c2) el h.1 ty hr hl h1 (by unfold maxLen;omega) (Nat.le_trans (Nat.mul_le_mul hn hb) (by omega))
 exact ⟨o',c',w',hr,⟨ho.mono (fun i _ hi=>db.ext hi h.2.size hc.size),h.2.trans hc (fun i hi hN=>absurd hi (Nat.not_lt.2 hN.1))⟩,hc⟩
theorem Gr.next (el:li P t T 1 bytes) {L:List α} {j:Nat} (h:Gr G w0 w T 1 o j c ((L.take j).map enc)) (ty:TypeId) (hj:j<L.length) (hL:L.length≤1000000) {v:Value} (e1:w1=w.alloc (.cells #[v] T (0,0))) (hv:v=enc L[j]) (h1:v.oneCell'=true) (hb:bytes≤1000) :
  ∃ (o':OA) (c':Nat) (w':World),(Builtin.append_ #[t,t] ty #[.slice o j c,.slice (some ⟨w.heap.size,0,none⟩) 1 1]).run P w1 = .ok (.slice o' (j+1) c') w'∧Gr G w0 w' T 1 o' (j+1) c' ((L.take (j+1)).map enc)∧Ch (db w0 w) w w':=by
 obtain ⟨o',c',w',hr,ho,hc⟩:=h.push el ty e1 rfl (by simpa using h1) (by omega) hb
 refine ⟨o',c',w',hr,?_,hc⟩
 rw [List.take_succ_eq_append_getElem hj,List.map_append]
 subst hv;exact ho
end
section
variable {α:Type} {L:List α} {z:α} {j:Nat}
end
theorem Ch.Dd {w w':World} {F:Nat→Prop} {p q:Addr} {x y:Value} (e:w'=(w.setCell p x).setCell q y) (h1:F p.block) (h2:F q.block):Ch F w w' :=
 (Ch.set (w':=w.setCell p x) rfl h1).same (Ch.set e h2)
theorem Ch.KH {w w':World} {F:Nat→Prop} {p q r:Addr} {x y z:Value} (e:w'=((w.setCell p x).setCell q y).setCell r z) (h1:F p.block) (h2:F q.block) (h3:F r.block):Ch F w w' :=
 (Ch.Dd (w':=(w.setCell p x).setCell q y) rfl h1 h2).same (Ch.set e h3)
theorem cm (a:Addr):a.add 0=a:=by unfold Addr.add;split <;> simp_all
theorem Rd.Sa {w:World} {o:OA} {cs:List Value} {F:Nat→Prop} (h:Rd w o cs F) {v:Value} (hj:cs[0]?=some v) {K:Addr→Prop} (hk:∀ p:Addr,w.cell? p=some v→K p):jr o K :=
 h.at hj (fun p hp=>hk p (by rwa [cm] at hp))
theorem ba.rd {w:World} {b:Nat} {cs:List Value} {T:Nat} (h:ba w b cs T):Rd w (some ⟨b,0,none⟩) cs (·=b):=fun j v hj=>⟨_,rfl,rfl,h.lt,by rw [eh,Nat.zero_add];exact h.cell j hj⟩
end Go.Proofs.YtkbikekbaboclaaGreat.V
set_option linter.unusedVariables false
set_option linter.unusedSimpArgs false
namespace Go.Proofs.YtkbikekbaboclaaGreat.V
open Go Go.Proofs Go.RowKit
def NM (b:UInt8):Value := .int .u8 (b.toNat:Int)
section
variable {P:Program} {w:World} {src dst e:TypeId}
theorem Qy (t:ByteArray) (hs:P.underlying src=some .string) (hd:P.underlying dst=some (.slice e)) (he:P.underlying e=some (.int .u8)) :
  ∃ (c:Nat) (w':World),(convert src dst (.string t)).run P w = .ok (.slice (some ⟨w.heap.size,0,none⟩) t.size c) w'∧Rd w' (some ⟨w.heap.size,0,none⟩) (t.data.toList.map NM) (db w w')∧Ch ah w w'∧w'.heap.size=w.heap.size+1:=by
 refine ⟨_,_,Lib.run_convert_string_bytes w src dst e t hs hd he,fun j v hj=>?_,?_,Lib.bytesWorld_size w e t⟩
 ·have a1:j<t.data.toList.length:=by
   have:=(List.getElem?_eq_some_iff.1 hj).1
   simpa using this
  have a2:j<t.size:=by simpa using a1
  have a0:=Lib.bytesWorld_size w e t
  refine ⟨_,rfl,⟨Nat.le_refl _,by rw [a0];exact Nat.lt_succ_self _⟩,by rw [a0];exact Nat.lt_succ_self _,?_⟩
  rw [eh,Nat.zero_add,Lib.bytesWorld_cell w e t j a2]
  rw [List.getElem?_map,List.getElem?_eq_getElem a1] at hj
  simp only [Option.map_some,Option.some.injEq] at hj
  rw [← hj]
  unfold NM
  rw [List.getD_eq_getElem?_getD,List.getElem?_eq_getElem a1]
  rfl
 ·exact Ch.AG ⟨rfl,rfl,rfl,by rw [Lib.bytesWorld_size];omega,fun j hj=>Lib.bytesWorld_at_old w e t j hj⟩
theorem OG {o:OA} {c:Nat} {bs:List UInt8} {F:Nat→Prop} (hr:Rd w o (bs.map NM) F) (hs:P.underlying src=some (.slice e)) (he:P.underlying e=some (.int .u8)) (hd:P.underlying dst=some .string) :
  (convert src dst (.slice o bs.length c)).run P w = .ok (.string ⟨bs.toArray⟩) w:=by
 cases bs with
 | nil=>exact run_convert_bytes_zero w src e hs he o c dst hd
 | cons b r =>
  obtain ⟨a,ha,_,_,_⟩:=hr 0 (NM b) rfl
  subst ha
  refine run_convert_bytes_back w src dst e a c (b :: r) hs he hd (fun j hj=>?_)
  obtain ⟨a',a0,_,_,hc⟩:=hr j (NM (b :: r)[j]) (by rw [List.getElem?_map,List.getElem?_eq_getElem hj];rfl)
  injection a0 with a0
  subst a0;exact hc
end
end Go.Proofs.YtkbikekbaboclaaGreat.V
set_option linter.unusedVariables false
set_option linter.unusedSimpArgs false
namespace Go.Proofs.YtkbikekbaboclaaGreat.V
open Go Go.Proofs Go.RowKit
section
variable {P:Program} {w w':World} {t e:TypeId} {cs:List Value} {α:Type} {enc:α→List Value} {Q:α→Prop} {o:OA} {F:Nat→Prop} {sz:Nat}
theorem oF.QL (h:oF P w t cs) (hu:P.underlying t=some (.slice e)) (a2:∀ x,x.length=P.cellsOf e→oF P w e x→∃ y,x=enc y∧Q y) :
  ∃ (o:OA) (c:Nat) (ys:List α),cs=[.slice o ys.length c]∧ys.length≤c∧c≤maxLen∧ys.length*P.bytesOf e≤140737488351232∧(∀ y∈ys,Q y)∧Rd w o (ys.map enc).flatten (fun _=>True):=by
 obtain ⟨o,n,c,es,hc,h1,h2,h3,hl,a0,hr⟩:=h.slice hu
 obtain ⟨ys,a1,hy⟩:=Aa (R:=fun (x:List Value) (y:α)=>x=enc y∧Q y) (l:=es) (fun x hx=>a2 x (a0 x hx).1 (a0 x hx).2)
 have hm:=GF a1 (f:=enc) (fun i x y ha hb=>(hy i x y ha hb).1)
 subst hl
 rw [← a1] at hc h1 h3
 refine ⟨o,c,ys,hc,h1,h2,h3,fun y a3=>?_,by rw [← hm];exact hr⟩
 obtain ⟨i,hi⟩:=List.getElem?_of_mem a3
 have a4:=(List.getElem?_eq_some_iff.1 hi).1
 exact (hy i _ y (List.getElem?_eq_getElem (by omega)) hi).2
theorem dp (ys:List α) (a0:∀ y,(enc y).length=sz) {j q:Nat} (hj:j<ys.length) (hq:q<sz):(ys.map enc).flatten[j*sz+q]?=(enc ys[j])[q]?:=by
 induction ys generalizing j with
 | nil=>simp at hj
 | cons y r ih =>
  rw [List.map_cons,List.flatten_cons]
  cases j with
  | zero=>rw [Nat.zero_mul,Nat.zero_add,List.getElem?_append_left (by rw [a0];exact hq)];rfl
  | succ j =>
   rw [List.getElem?_append_right (by rw [a0,Nat.succ_mul];omega),a0,show (j+1)*sz+q-sz=j*sz+q by rw [Nat.succ_mul];omega]
   rw [ih (j:=j) (by simpa using hj)];rfl
theorem Rd.elem {ys:List α} (h:Rd w o (ys.map enc).flatten F) (a1:∀ y,(enc y).length=sz) (a0:0<sz) {j:Nat} (hj:j<ys.length):∃ p,o=some p∧p.block<w.heap.size∧F p.block∧∀ q v,(enc ys[j])[q]?=some v→w.cell? ((p.add (j*sz)).add q)=some v:=by
 have h0:(ys.map enc).flatten[j*sz+0]?=some ((enc ys[j])[0]'(by rw [a1];exact a0)):=by rw [dp ys a1 hj a0];exact List.getElem?_eq_getElem _
 obtain ⟨p,hp,hF,a3,_⟩:=h _ _ h0
 refine ⟨p,hp,a3,hF,fun q v hv=>?_⟩
 have hq:q<sz:=by
  have:=(List.getElem?_eq_some_iff.1 hv).1
  rwa [a1] at this
 have h1:(ys.map enc).flatten[j*sz+q]?=some v:=by rw [dp ys a1 hj hq];exact hv
 obtain ⟨p',a2,_,_,hc⟩:=h _ _ h1
 rw [hp] at a2
 injection a2 with a2
 subst a2
 rw [add_add];exact hc
end
end Go.Proofs.YtkbikekbaboclaaGreat.V
set_option linter.unusedVariables false
set_option linter.unusedSimpArgs false
namespace Go.Proofs.YtkbikekbaboclaaGreat.V
open Go Go.Proofs Go.RowKit
abbrev nH:=OA × Nat × List Int
def nw (x:nH):Value := .slice x.1 x.2.2.length x.2.1
def wid (zs:List nH):Nat:=(zs[0]?.map (·.2.2.length)).getD 0
def nl (zs:List nH):Bool:=zs.all fun z=>decide (z.2.2.length=wid zs)
theorem je {zs:List nH} (h:0<zs.length):wid zs=zs[0].2.2.length:=by unfold wid;rw [List.getElem?_eq_getElem h];rfl
theorem Ds {zs:List nH} {j:Nat} (h:j<zs.length) (hn:zs[j].2.2.length≠wid zs):nl zs=false:=by
 unfold nl;rw [List.all_eq_false];exact ⟨zs[j],List.getElem_mem h,by simpa using hn⟩
theorem tL {zs:List nH} (h:∀ z∈zs,z.2.2.length=wid zs):nl zs=true:=by
 unfold nl;rw [List.all_eq_true];exact fun z hz=>by simpa using h z hz
theorem NT {zs:List nH} (h:nl zs=true):∀ z∈zs,z.2.2.length=wid zs:=fun z hz=>by
 have:=List.all_eq_true.1 h z hz;simpa using this
theorem KX {b:Int}:∀ {l:List Int},(∀ x∈l,-b≤x∧x≤b) → -(b*l.length)≤l.sum∧l.sum≤b*l.length
 | [],_=>by simp
 | x :: r,h=>by
  have ih:=KX (l:=r) (fun y hy=>h y (by simp [hy]))
  have hx:=h x (by simp)
  have e:b*((x :: r).length:Int)=b*r.length+b:=by simp [Int.mul_add]
  rw [e,List.sum_cons]
  omega
theorem Az (l:List Int) (x:Int):(l++[x]).sum=l.sum+x:=by simp
theorem Sn {A B x y:Int} (h1 : -A≤x) (h2:x≤A) (h3 : -B≤y) (h4:y≤B) : -(A*B)≤x*y∧x*y≤A*B:=by
 have a1:=Int.mul_nonneg (show 0≤A-x by omega) (show 0≤B+y by omega)
 have a2:=Int.mul_nonneg (show 0≤A+x by omega) (show 0≤B-y by omega)
 have a3:=Int.mul_nonneg (show 0≤A-x by omega) (show 0≤B-y by omega)
 have a4:=Int.mul_nonneg (show 0≤A+x by omega) (show 0≤B+y by omega)
 simp only [Int.sub_mul,Int.add_mul,Int.mul_sub,Int.mul_add] at a1 a2 a3 a4
 omega
def tH:List Int→Int
 | []=>0
 | [x]=>x
 | x :: y :: r=>if x>tH (y :: r) then x else tH (y :: r)
theorem AL:∀ {l:List Int},l≠[]→tH l∈l∧∀ x∈l,x≤tH l
 | [],h=>absurd rfl h
 | [x],_=>by simp [tH]
 | x :: y :: r,_=>by
  obtain ⟨h1,h2⟩:=AL (l:=y :: r) (by simp)
  unfold tH
  split
  ·refine ⟨by simp,fun z hz=>?_⟩
   rcases List.mem_cons.1 hz with rfl|hz
   ·omega
   ·have:=h2 z hz;omega
  ·refine ⟨List.mem_cons_of_mem _ h1,fun z hz=>?_⟩
   rcases List.mem_cons.1 hz with rfl|hz
   ·omega
   ·exact h2 z hz
theorem MV {l:List Int} {m:Int} (h1:m∈l) (h2:∀ x∈l,x≤m):m=tH l:=by
 obtain ⟨a,b⟩:=AL (l:=l) (fun h=>by subst h;simp at h1)
 have:=h2 _ a
 have:=b _ h1
 omega
end Go.Proofs.YtkbikekbaboclaaGreat.V
set_option linter.unusedVariables false
set_option linter.unusedSimpArgs false
namespace Go.Proofs.YtkbikekbaboclaaGreat.ft
open Go Go.Proofs V Vc qX Go.RowKit
section
variable {w:World} {oa ob:OA} {ca cb:Nat} {xs ys:List Int} {F G:Nat→Prop}
end
end Go.Proofs.YtkbikekbaboclaaGreat.ft
set_option linter.unusedVariables false
set_option linter.unusedSimpArgs false
namespace Go.Proofs.YtkbikekbaboclaaGreat.Norm
open Go Go.Proofs V Vc qX Go.RowKit
section
variable {w:World} {oa ob:OA} {ca cb:Nat} {xs ys:List Int} {F G:Nat→Prop}
end
end Go.Proofs.YtkbikekbaboclaaGreat.Norm
set_option linter.unusedVariables false
set_option linter.unusedSimpArgs false
namespace Go.Proofs.YtkbikekbaboclaaGreat.ed
open Go Go.Proofs V Vc qX Go.RowKit
section
variable {w:World} {oa ob:OA} {ca cb:Nat} {xs ys:List Int} {F G:Nat→Prop}
end
end Go.Proofs.YtkbikekbaboclaaGreat.ed
set_option linter.unusedVariables false
set_option linter.unusedSimpArgs false
namespace Go.Proofs.YtkbikekbaboclaaGreat.Norm
open Go Go.Proofs V Vc qX Go.RowKit
def Au (xs:List Int):List Int:=xs.map fun x=>sat x*sat x
theorem LX (x:Int):0≤sat x*sat x∧sat x*sat x≤1073676289:=by
 have h:=Cg x
 refine ⟨?_,(xZ (m:=32767) (n:=32767) (by omega) h h).2⟩
 rcases Int.le_total 0 (sat x) with h|h
 ·exact Int.mul_nonneg h h
 ·exact Int.mul_nonneg_of_nonpos_of_nonpos h h
theorem Dx {xs:List Int} (hl:xs.length≤1000000):nY (Au xs)=(Au xs).sum∧0≤(Au xs).sum∧(Au xs).sum≤1073741824*xs.length:=by
 have h:=Fp (b:=1073741824) (by omega) (Au xs) (fun x hx=>by
  unfold Au at hx
  obtain ⟨y,_,rfl⟩:=List.mem_map.1 hx
  have:=LX y;omega) (by simp [Au];omega) (by omega)
 have h0:0≤(Au xs).sum:=by
  have:∀ l:List Int,(∀ x∈l,0≤x)→0≤l.sum:=fun l=>by
   induction l with
   | nil=>intro _;simp
   | cons x r ih=>intro h;rw [List.sum_cons];have:=h x (by simp);have:=ih (fun y hy=>h y (by simp [hy]));omega
  exact this _ (fun x hx=>by
   unfold Au at hx
   obtain ⟨y,_,rfl⟩:=List.mem_map.1 hx
   exact (LX y).1)
 have a0:(Au xs).length=xs.length:=by simp [Au]
 rw [a0] at h
 exact ⟨h.1,h0,h.2.2⟩
theorem RZ {a b:Int} (ha:0≤a) (hb:0≤b):div a b=a / b:=by
 unfold div
 by_cases h:b=0
 ·subst h;simp
 ·rw [if_neg h,if_neg (by omega),Int.fdiv_eq_ediv_of_nonneg _ hb]
def tM (xs:List Int):Int:=root ((Au xs).sum / xs.length)+1
theorem Bo {xs:List Int} (hl:xs.length≤1000000):1≤tM xs∧tM xs≤32769:=by
 obtain ⟨h1,h2,h3⟩:=Dx hl
 have a0:0≤(Au xs).sum / xs.length:=Int.ediv_nonneg h2 (by omega)
 have hm:(Au xs).sum / xs.length≤1073741824:=by
  by_cases h:(xs.length:Int)=0
  ·rw [h];simp
  ·have h4:=Int.ediv_mul_le (Au xs).sum h
   apply Int.le_of_not_gt;intro hh
   have:=Int.mul_le_mul_of_nonneg_right (show (1073741825:Int)≤(Au xs).sum / xs.length by omega) (show 0≤(xs.length:Int) by omega)
   omega
 obtain ⟨r0,r1,r2⟩:=BV a0
 unfold tM
 refine ⟨by omega,?_⟩
 apply Int.le_of_not_gt;intro hh
 have:=Int.mul_le_mul (show 32769≤root ((Au xs).sum / xs.length) by omega) (show 32769≤root ((Au xs).sum / xs.length) by omega) (by omega) r0
 omega
def Qf (r g x:Int):Int:=sat (Int.tdiv (sat x*(64+eu g (-128) 127)) r)
def Av (gs xs:List Int):List Int:=if gs.length=xs.length then List.zipWith (Qf (tM xs)) gs xs else []
theorem Dv {gs xs:List Int} (h:gs.length=xs.length):(Av gs xs).length=xs.length:=by unfold Av;rw [if_pos h];simp [h]
theorem PF {gs xs:List Int} (h:gs.length=xs.length) {j:Nat} (hj:j<xs.length):(Av gs xs)[j]'(by rw [Dv h];exact hj)=Qf (tM xs) (gs[j]'(by omega)) xs[j]:=by
 unfold Av;simp [h]
theorem JD {r g x:Int}:IntKind.i64.wrap (Int.tdiv (IntKind.i64.wrap (sat x*IntKind.i64.wrap (64+eu g (-128) 127))) r)=Int.tdiv (sat x*(64+eu g (-128) 127)) r:=by
 have hs:=Cg x
 have hg:=lm (x:=g) (low := -128) (high:=127) (by omega)
 rw [ae (x:=64+eu g (-128) 127) (by omega) (by omega)]
 have hp:=xZ (m:=32767) (n:=191) (by omega) hs (show -191≤64+eu g (-128) 127∧64+eu g (-128) 127≤191 by omega)
 generalize sat x*(64+eu g (-128) 127)=m at hp
 rw [ae (x:=m) (by omega) (by omega)]
 have hd:(Int.tdiv m r).natAbs≤m.natAbs:=by rw [Int.natAbs_tdiv];exact Nat.div_le_self _ _
 rw [ae (by omega) (by omega)]
section
variable {w:World} {og ox:OA} {cg cx:Nat} {gs xs:List Int} {F G:Nat→Prop}
theorem Ns (hx:Rd w ox (xs.map (.int .i64)) G) (hl:xs.length≤1000000) :
  Calls Tryz.prog JH #[.slice ox xs.length cx] w (bc fun v w'=>v = .int .i64 (tM xs)∧Ch ah w w'):=by
 refine My.calls _ _ _ ?_
 refine ⟨fun o n c i k w'=>∃ j:Nat,i=j∧j≤xs.length∧k=xs.length-j∧n=j∧Own w' bd 1 o n c ((Au (xs.take j)).map (.int .i64)) (db w w')∧Ch ah w w',⟨_,0,rfl,Nat.zero_le _,rfl,rfl,Own.nil _ _ _ _,Ch.refl _ _⟩,?_⟩
 rintro jk o n c i k w1 ⟨j,rfl,hj,rfl,rfl,ho,hc⟩
 refine ⟨fun a0=>?_,fun a5=>?_⟩
 ·have a0:n<xs.length:=by simpa using a0
  refine ⟨⟨by omega,by omega⟩,(hx.aa hc).at (j:=(n:Int).toNat*1) (v := .int .i64 xs[n]) (by simp [a0]) fun p hp=>⟨xs[n],hp,?_⟩⟩
  refine ab (oL w1 _) ?_
  rintro v w2 ⟨rfl,rfl⟩
  refine ⟨_,rfl,fun w3 e3=>?_⟩
  have hq:=LX xs[n]
  rw [ae (by omega) (by omega)] at e3
  obtain ⟨o',c',w4,hr,a2,a3⟩:=Own.pW bi ho ay _ e3 rfl (by unfold maxLen;omega) (by omega)
  have a6:Au (xs.take n)++[sat xs[n]*sat xs[n]]=Au (xs.take (n+1)):=by unfold Au;rw [au xs n a0,List.map_append];rfl
  rw [a6] at a2
  refine ⟨o',n+1,c',w4,hr,xs.length-(n+1),by omega,n+1,by rw [ae (by omega) (by omega)];rfl,a0,rfl,rfl,a2.mono (fun i _ hi=>db.ext hi hc.size a3.size),Ch.RS hc a3⟩
 ·have:n=xs.length:=by simp at a5;omega
  subst this
  rw [List.take_length] at ho
  obtain ⟨s1,s2,s3⟩:=Dx hl
  have a1:(Au xs).length=xs.length:=by simp [Au]
  have hm:=MO (c:=c) ho.rd (by rw [a1];omega)
  rw [a1] at hm
  refine ab hm ?_
  rintro v w2 ⟨rfl,rfl⟩
  have hd:div (nY (Au xs)) xs.length=(Au xs).sum / xs.length:=by rw [s1,RZ s2 (by omega)]
  have a4:=Bo hl
  have a7:DE ((Au xs).sum / xs.length):=by
   have h1:=Int.ediv_nonneg s2 (show 0≤(xs.length:Int) by omega)
   have h2:=Int.ediv_le_self (xs.length:Int) s2
   exact ⟨by omega,by omega⟩
  refine ⟨_,rfl,?_⟩
  rw [hd]
  refine ab (Ny _ a7) ?_
  rintro v w3 ⟨rfl,rfl⟩
  exact ⟨_,rfl,by rw [ae (by unfold tM at a4;omega) (by unfold tM at a4;omega)];rfl,hc⟩
theorem KR (hx:Rd w ox (xs.map (.int .i64)) G) (hl:xs.length≤1000000) :
  Calls Tryz.prog vQ #[.slice ox xs.length cx] w (bc fun v w'=>v = .int .i64 (tM xs)∧w'=w):=by
 refine yM.calls _ _ _ ?_
 refine ⟨fun h=>?_,fun h=>?_⟩
 ·have:xs=[]:=List.length_eq_zero_iff.1 (by simp at h;simp [h])
  subst this
  exact ⟨rfl,rfl⟩
 have a3:xs.length≠0:=by intro he;rw [he] at h;simp at h
 refine ⟨fun s i k w'=>w'=w∧∃ j:Nat,i=j∧j≤xs.length∧k=xs.length-j∧s=(Au (xs.take j)).sum,⟨_,rfl,0,rfl,Nat.zero_le _,rfl,rfl⟩,?_⟩
 rintro jk s i k w1 ⟨rfl,j,rfl,hj,rfl,rfl⟩
 refine ⟨fun a0=>?_,fun a2=>?_⟩
 ·have a0:j<xs.length:=by simpa using a0
  refine ⟨⟨by omega,by omega⟩,hx.at (j:=(j:Int).toNat*1) (v := .int .i64 xs[j]) (by simp [a0]) fun p hp=>⟨xs[j],hp,?_⟩⟩
  refine ab (ni w1 _) ?_
  rintro v w2 ⟨rfl,rfl⟩
  have hq:=LX xs[j]
  obtain ⟨s1,s2,s3⟩:=Dx (xs:=xs.take j) (by simp;omega)
  have a4:((xs.take j).length:Int)≤1000000:=by simp;omega
  refine ⟨_,rfl,xs.length-(j+1),by omega,rfl,j+1,by rw [ae (by omega) (by omega)];rfl,a0,rfl,?_⟩
  rw [ae (x:=sat xs[j]*sat xs[j]) (by omega) (by omega),ae (by omega) (by omega),au xs j a0]
  unfold Au
  rw [List.map_append,List.sum_append]
  simp only [List.map_cons,List.map_nil,List.sum_cons,List.sum_nil,Int.add_zero]
 ·have:j=xs.length:=by simp at a2;omega
  subst this
  rw [List.take_length]
  obtain ⟨s1,s2,s3⟩:=Dx hl
  have a1:=Bo hl
  have h1:=Int.ediv_nonneg s2 (show 0≤(xs.length:Int) by omega)
  have h2:=Int.ediv_le_self (xs.length:Int) s2
  refine ⟨by omega,?_⟩
  rw [Int.tdiv_eq_ediv_of_nonneg s2,ae (x:=(Au xs).sum / xs.length) (by omega) (by omega)]
  refine ab (KK _ ⟨by omega,by omega⟩) ?_
  rintro v w3 ⟨rfl,rfl⟩
  exact ⟨_,rfl,by rw [ae (by unfold tM at a1;omega) (by unfold tM at a1;omega)];rfl,rfl⟩
theorem Im (hg:Rd w og (gs.map (.int .i64)) F) (hx:Rd w ox (xs.map (.int .i64)) G) (hl:xs.length≤1000000) :
  Calls Tryz.prog MU #[.slice og gs.length cg,.slice ox xs.length cx] w (bc fun v w'=>∃ (o:OA) (c:Nat),v = .slice o (Av gs xs).length c∧Own w' bd 1 o (Av gs xs).length c ((Av gs xs).map (.int .i64)) (db w w')∧Ch ah w w'):=by
 refine PY.calls _ _ _ _ _ _ ?_
 refine ⟨fun h=>?_,fun h=>?_⟩
 ·have h:gs.length≠xs.length:=by simp at h;omega
  have:Av gs xs=[]:=by unfold Av;rw [if_neg h]
  rw [this]
  exact ⟨none,0,rfl,Own.nil _ _ _ _,Ch.refl _ _⟩
 have h:gs.length=xs.length:=by simp at h;omega
 have a1:=Dv h
 have a7:=Bo hl
 refine ab (Ns hx hl) ?_
 rintro v w0 ⟨rfl,a2⟩
 refine ⟨_,rfl,fun o n c i k w'=>∃ j:Nat,i=j∧j≤xs.length∧k=xs.length-j∧n=j∧Own w' bd 1 o n c (((Av gs xs).take j).map (.int .i64)) (db w w')∧Ch ah w w',⟨_,0,rfl,Nat.zero_le _,rfl,rfl,Own.nil _ _ _ _,a2⟩,?_⟩
 clear a2
 rintro jk o n c i k w1 ⟨j,rfl,hj,rfl,rfl,ho,hc⟩
 refine ⟨fun a0=>?_,fun a5=>?_⟩
 ·have a0:n<xs.length:=by simpa using a0
  refine ⟨⟨by omega,by omega⟩,(hx.aa hc).at (j:=(n:Int).toNat*1) (v := .int .i64 xs[n]) (by simp [a0]) fun p hp=>⟨xs[n],hp,⟨by omega,by omega⟩,(hg.aa hc).at (j:=(n:Int).toNat*1) (v := .int .i64 (gs[n]'(by omega))) (by simp [show n<gs.length by omega]) fun p2 a6=>⟨gs[n]'(by omega),a6,?_⟩⟩⟩
  refine ab (lg w1 _ _ _) ?_
  rintro v w2 ⟨rfl,rfl⟩
  refine ⟨_,rfl,?_⟩
  refine ab (oL _ _) ?_
  rintro v w3 ⟨rfl,rfl⟩
  refine ⟨_,rfl,by omega,?_⟩
  refine ab (oL _ _) ?_
  rintro v w4 ⟨rfl,rfl⟩
  refine ⟨_,rfl,fun w5 e5=>?_⟩
  rw [JD] at e5
  have hv:sat (Int.tdiv (sat xs[n]*(64+eu (gs[n]'(by omega)) (-128) 127)) (tM xs))=(Av gs xs)[n]'(by omega):=(PF h a0).symm
  rw [hv] at e5
  obtain ⟨o',c',w6,hr,a3,a4⟩:=Own.pW bi ho ay _ e5 rfl (by unfold maxLen;omega) (by omega)
  rw [← List.take_succ_eq_append_getElem (by omega)] at a3
  exact ⟨o',n+1,c',w6,hr,xs.length-(n+1),by omega,n+1,by rw [ae (by omega) (by omega)];rfl,a0,rfl,rfl,a3.mono (fun i _ hi=>db.ext hi hc.size a4.size),Ch.RS hc a4⟩
 ·have:n=xs.length:=by simp at a5;omega
  subst this
  rw [← a1,List.take_length] at ho
  exact ⟨o,c,by rw [a1],ho,hc⟩
theorem NU (hg:Rd w og (gs.map (.int .i64)) F) (hx:Rd w ox (xs.map (.int .i64)) G) (hl:xs.length≤1000000) :
  Calls Tryz.prog qN #[.slice og gs.length cg,.slice ox xs.length cx] w (bc fun v w'=>∃ (o:OA) (c:Nat),v = .slice o (Av gs xs).length c∧Own w' bd 1 o (Av gs xs).length c ((Av gs xs).map (.int .i64)) (db w w')∧Ch ah w w'):=by
 refine AQ.calls _ _ _ _ _ _ ?_
 intro w0 e0
 have a1:Own w0 bd 1 (some ⟨w.heap.size,0,none⟩) 0 0 (([]:List Int).map (.int .i64)) (db w w0):=Own.made e0 rfl (by decide) ⟨Nat.le_refl _,(ba.new e0).lt⟩
 have a2:Ch ah w w0:=Ch.alloc e0
 refine ⟨fun h=>?_,fun h=>?_⟩
 ·have h:gs.length≠xs.length:=by simp at h;omega
  have:Av gs xs=[]:=by unfold Av;rw [if_neg h]
  rw [this]
  exact ⟨_,0,rfl,a1,a2⟩
 have h:gs.length=xs.length:=by simp at h;omega
 have a3:=Dv h
 have a8:=Bo hl
 refine ⟨fun o n c i k w'=>∃ j:Nat,i=j∧j≤xs.length∧k=xs.length-j∧n=j∧Own w' bd 1 o n c (((Av gs xs).take j).map (.int .i64)) (db w w')∧Ch ah w w',⟨_,0,rfl,Nat.zero_le _,rfl,rfl,a1,a2⟩,?_⟩
 clear a2 a1
 rintro jk o n c i k w1 ⟨j,rfl,hj,rfl,rfl,ho,hc⟩
 refine ⟨fun a0=>?_,fun a6=>?_⟩
 ·have a0:n<xs.length:=by simpa using a0
  refine ⟨⟨by omega,by omega⟩,(hg.aa hc).at (j:=(n:Int).toNat*1) (v := .int .i64 (gs[n]'(by omega))) (by simp [show n<gs.length by omega]) fun p2 a7=>⟨gs[n]'(by omega),a7,?_⟩⟩
  refine ab (fi w1 _ _ _) ?_
  rintro v w2 ⟨rfl,rfl⟩
  refine ⟨_,rfl,⟨by omega,by omega⟩,(hx.aa hc).at (j:=(n:Int).toNat*1) (v := .int .i64 xs[n]) (by simp [a0]) fun p hp=>⟨xs[n],hp,?_⟩⟩
  refine ab (ni _ _) ?_
  rintro v w3 ⟨rfl,rfl⟩
  refine ⟨_,rfl,?_⟩
  refine ab (KR (hx.aa hc) hl) ?_
  rintro v w4 ⟨rfl,rfl⟩
  refine ⟨_,rfl,by omega,?_⟩
  refine ab (ni _ _) ?_
  rintro v w4 ⟨rfl,rfl⟩
  refine ⟨_,rfl,fun w5 e5=>?_⟩
  rw [JD] at e5
  have hv:sat (Int.tdiv (sat xs[n]*(64+eu (gs[n]'(by omega)) (-128) 127)) (tM xs))=(Av gs xs)[n]'(by omega):=(PF h a0).symm
  rw [hv] at e5
  obtain ⟨o',c',w6,hr,a4,a5⟩:=Own.pW bi ho ay _ e5 rfl (by unfold maxLen;omega) (by omega)
  rw [← List.take_succ_eq_append_getElem (by omega)] at a4
  exact ⟨o',n+1,c',w6,hr,xs.length-(n+1),by omega,n+1,by rw [ae (by omega) (by omega)];rfl,a0,rfl,rfl,a4.mono (fun i _ hi=>db.ext hi hc.size a5.size),Ch.RS hc a5⟩
 ·have:n=xs.length:=by simp at a6;omega
  subst this
  rw [← a3,List.take_length] at ho
  exact ⟨o,c,by rw [a3],ho,hc⟩
end
end Go.Proofs.YtkbikekbaboclaaGreat.Norm
set_option linter.unusedVariables false
set_option linter.unusedSimpArgs false
namespace Go.Proofs.YtkbikekbaboclaaGreat.Act
open Go Go.Proofs V Vc qX Go.RowKit
def Lz:List Int:=[5,8,12,19,31,47,69,97,128,159,187,209,225,237,244,248,251]
theorem zZ (w:World):Calls Tryz.prog IJ #[] w (bc fun v w'=>v = .agg ((Lz.map (.int .i64)).toArray)∧Ch ah w w'):=by
 refine Na.calls ?_
 intro w1 e1
 have hb:=ba.new e1
 refine ⟨⟨hb.ok 0 rfl,hb.ok 1 rfl,hb.ok 2 rfl,hb.ok 3 rfl,hb.ok 4 rfl,hb.ok 5 rfl,hb.ok 6 rfl,hb.ok 7 rfl,hb.ok 8 rfl,hb.ok 9 rfl,hb.ok 10 rfl,hb.ok 11 rfl,hb.ok 12 rfl,hb.ok 13 rfl,hb.ok 14 rfl,hb.ok 15 rfl,hb.ok 16 rfl⟩,fun w2 e2=>?_⟩
 have hc:ba w2 w.heap.size (Lz.map (.int .i64)) _:=hb.all (Lz.map (.int .i64)) rfl e2
 have a0:Ch ah w w2:=(Ch.alloc (F:=(·=w.heap.size)) e1).same (Ch.fr (vs:=Lz.map (.int .i64)) e2 rfl) |>.below (Nat.le_refl _) (fun i hi h=>by omega) |> Ch.AG
 exact ⟨_,_,_,_,_,_,_,_,_,_,_,_,_,_,_,_,_,⟨hc.cell 0 rfl,hc.cell 1 rfl,hc.cell 2 rfl,hc.cell 3 rfl,hc.cell 4 rfl,hc.cell 5 rfl,hc.cell 6 rfl,hc.cell 7 rfl,hc.cell 8 rfl,hc.cell 9 rfl,hc.cell 10 rfl,hc.cell 11 rfl,hc.cell 12 rfl,hc.cell 13 rfl,hc.cell 14 rfl,hc.cell 15 rfl,hc.cell 16 rfl⟩,rfl,a0⟩
def place (n:Int):Int:=eu (div n 32) (-8) 8+8
theorem ET (n:Int):0≤place n∧place n<17:=by
 unfold place;have:=lm (x:=div n 32) (low := -8) (high:=8) (by omega);omega
def gate (n:Int):Int:=Lz.getD (place n).toNat 0
theorem QI {n:Int} {k:Nat} (h:place n=k) (hk:k<Lz.length):Lz[k]=gate n:=by
 unfold gate;rw [h];simp [List.getD,List.getElem?_eq_getElem hk]
theorem Rp (n:Int):div n 32=n / 32:=by
 unfold div;rw [if_neg (by omega),if_neg (by omega),Int.fdiv_eq_ediv_of_nonneg _ (by omega)]
theorem Jf {w:World} {b T:Nat} (h:ba w b (Lz.map (.int .i64)) T) {n k:Int} (hk:k=place n):∃ x:Int,x=gate n∧w.cell? ((⟨b,0,none⟩:Addr).add (k.toNat*1))=some (.int .i64 x):=by
 subst hk
 have hp:=ET n
 refine ⟨_,rfl,?_⟩
 have hl:(place n).toNat<Lz.length:=by show (place n).toNat<17;omega
 have hg:=QI (n:=n) (k:=(place n).toNat) (by omega) hl
 rw [eh,← hg]
 exact h.cell _ (by rw [List.getElem?_map,List.getElem?_eq_getElem (by omega)];simp)
theorem NN (w:World) {n:Int} (hn:DE n):Calls Tryz.prog LB #[.int .i64 n] w (bc fun v w'=>v = .int .i64 (gate n)∧Ch ah w w'):=by
 refine OJ.calls _ ?_
 refine ab (zZ w) ?_
 rintro v w1 ⟨rfl,a1⟩
 refine ⟨_,_,_,_,_,_,_,_,_,_,_,_,_,_,_,_,_,rfl,fun w2 e2=>?_⟩
 have hb:=ba.new e2
 refine ⟨⟨hb.ok 0 rfl,hb.ok 1 rfl,hb.ok 2 rfl,hb.ok 3 rfl,hb.ok 4 rfl,hb.ok 5 rfl,hb.ok 6 rfl,hb.ok 7 rfl,hb.ok 8 rfl,hb.ok 9 rfl,hb.ok 10 rfl,hb.ok 11 rfl,hb.ok 12 rfl,hb.ok 13 rfl,hb.ok 14 rfl,hb.ok 15 rfl,hb.ok 16 rfl⟩,fun w3 e3=>?_⟩
 have a2:ba w3 w1.heap.size (Lz.map (.int .i64)) _:=hb.all (Lz.map (.int .i64)) rfl e3
 have a3:Ch ah w1 w3:=(Ch.alloc (F:=(·=w1.heap.size)) e2).same (Ch.fr (vs:=Lz.map (.int .i64)) e3 rfl) |>.below (Nat.le_refl _) (fun i hi h=>by omega) |> Ch.AG
 refine ab (Jo w3 hn 32) ?_
 rintro v w4 ⟨rfl,rfl⟩
 refine ⟨_,rfl,?_⟩
 refine ab (lg _ _ _ _) ?_
 rintro v w5 ⟨rfl,rfl⟩
 have hp:=ET n
 have hw:IntKind.i64.wrap (eu (div n 32) (-8) 8+8)=place n:=ae (by show _≤place n;omega) (by show place n≤_;omega)
 refine ⟨_,rfl,?_,?_⟩
 ·rw [hw];exact hp
 ·obtain ⟨x,hx,a0⟩:=Jf a2 hw
  exact ⟨x,a0,by rw [hx],a1.ag a3⟩
theorem Kv (w:World) {n:Int} (hn:DE n):Calls Tryz.prog uZ #[.int .i64 n] w (bc fun v w'=>v = .int .i64 (gate n)∧Ch ah w w'):=by
 refine yK.calls _ ?_
 intro w2 e2
 have hb:=ba.new e2
 refine ⟨⟨hb.ok 0 rfl,hb.ok 1 rfl,hb.ok 2 rfl,hb.ok 3 rfl,hb.ok 4 rfl,hb.ok 5 rfl,hb.ok 6 rfl,hb.ok 7 rfl,hb.ok 8 rfl,hb.ok 9 rfl,hb.ok 10 rfl,hb.ok 11 rfl,hb.ok 12 rfl,hb.ok 13 rfl,hb.ok 14 rfl,hb.ok 15 rfl,hb.ok 16 rfl⟩,fun w3 e3=>?_⟩
 have a1:ba w3 w.heap.size (Lz.map (.int .i64)) _:=hb.all (Lz.map (.int .i64)) rfl e3
 have a2:Ch ah w w3:=(Ch.alloc (F:=(·=w.heap.size)) e2).same (Ch.fr (vs:=Lz.map (.int .i64)) e3 rfl) |>.below (Nat.le_refl _) (fun i hi h=>by omega) |> Ch.AG
 refine ab (fi w3 _ _ _) ?_
 rintro v w4 ⟨rfl,rfl⟩
 have hk:=lm (x:=n) (low := -100000) (high:=100000) (by omega)
 refine ⟨_,rfl,?_⟩
 refine ab (NI _ ⟨by omega,by omega⟩ 32) ?_
 rintro v w5 ⟨rfl,rfl⟩
 refine ⟨_,rfl,?_⟩
 refine ab (fi _ _ _ _) ?_
 rintro v w6 ⟨rfl,rfl⟩
 have hp:=ET n
 have hw:eu (IntKind.i64.wrap (div (eu n (-100000) 100000) 32+8)) 0 16=place n:=by
  rw [Rp,ae (by omega) (by omega)]
  unfold place
  rw [Rp]
  unfold eu
  repeat' (first|omega|split)
 refine ⟨_,rfl,?_,?_⟩
 ·rw [hw];exact hp
 ·obtain ⟨x,hx,a0⟩:=Jf a1 hw
  exact ⟨x,a0,by rw [hx],a2⟩
def Ti (g n:Int):Int:=mul n (gate g) 8
def jl (gs xs:List Int):List Int:=if gs.length=xs.length then List.zipWith Ti gs xs else []
theorem rm {gs xs:List Int} (h:gs.length=xs.length):(jl gs xs).length=xs.length:=by unfold jl;rw [if_pos h];simp [h]
theorem GC {gs xs:List Int} (h:gs.length=xs.length) {j:Nat} (hj:j<xs.length):(jl gs xs)[j]'(by rw [rm h];exact hj)=Ti (gs[j]'(by omega)) xs[j]:=by
 unfold jl;simp [h]
section
variable {w:World} {og ox:OA} {cg cx:Nat} {gs xs:List Int} {F G:Nat→Prop}
theorem Km (hg:Rd w og (gs.map (.int .i64)) F) (hx:Rd w ox (xs.map (.int .i64)) G) (ig:∀ x∈gs,DE x) (hl:xs.length≤1000000) :
  Calls Tryz.prog Jt #[.slice og gs.length cg,.slice ox xs.length cx] w (bc fun v w'=>∃ (o:OA) (c:Nat),v = .slice o (jl gs xs).length c∧Own w' bd 1 o (jl gs xs).length c ((jl gs xs).map (.int .i64)) (db w w')∧Ch ah w w'):=by
 refine Nn.calls _ _ _ _ _ _ ?_
 refine ⟨fun h=>?_,fun h=>?_⟩
 ·have h:gs.length≠xs.length:=by simp at h;omega
  have:jl gs xs=[]:=by unfold jl;rw [if_neg h]
  rw [this]
  exact ⟨none,0,rfl,Own.nil _ _ _ _,Ch.refl _ _⟩
 have h:gs.length=xs.length:=by simp at h;omega
 have a3:=rm h
 refine ⟨fun o n c i k w'=>∃ j:Nat,i=j∧j≤xs.length∧k=xs.length-j∧n=j∧Own w' bd 1 o n c (((jl gs xs).take j).map (.int .i64)) (db w w')∧Ch ah w w',⟨_,0,rfl,Nat.zero_le _,rfl,rfl,Own.nil _ _ _ _,Ch.refl _ _⟩,?_⟩
 rintro jk o n c i k w1 ⟨j,rfl,hj,rfl,rfl,ho,hc⟩
 refine ⟨fun a1=>?_,fun a6=>?_⟩
 ·have a1:n<xs.length:=by simpa using a1
  refine ⟨⟨by omega,by omega⟩,(hx.aa hc).at (j:=(n:Int).toNat*1) (v := .int .i64 xs[n]) (by simp [a1]) fun p hp=>⟨xs[n],hp,⟨by omega,by omega⟩,(hg.aa hc).at (j:=(n:Int).toNat*1) (v := .int .i64 (gs[n]'(by omega))) (by simp [show n<gs.length by omega]) fun p2 a7=>⟨gs[n]'(by omega),a7,?_⟩⟩⟩
  refine ab (NN w1 (ig _ (List.getElem_mem _))) ?_
  rintro v w2 ⟨rfl,a8⟩
  refine ⟨_,rfl,?_⟩
  refine ab (PN w2 _ _ _) ?_
  rintro v w3 ⟨rfl,a9⟩
  refine ⟨_,rfl,fun w4 e4=>?_⟩
  have a0:=a8.ag a9
  have hv:mul xs[n] (gate (gs[n]'(by omega))) 8=(jl gs xs)[n]'(by omega):=(GC h a1).symm
  rw [hv] at e4
  obtain ⟨o',c',w5,hr,a4,a5⟩:=Own.pW bi (ho.aa a0) ay _ e4 rfl (by unfold maxLen;omega) (by omega)
  rw [← List.take_succ_eq_append_getElem (by omega)] at a4
  have a2:=hc.ag a0
  refine ⟨o',n+1,c',w5,hr,xs.length-(n+1),by omega,n+1,by rw [ae (by omega) (by omega)];rfl,a1,rfl,rfl,a4.mono (fun i _ hi=>?_),?_⟩
  ·rcases hi with hi|hi
   ·exact ⟨hi.1,by have:=hi.2;have:=a0.size;have:=a5.size;omega⟩
   ·exact ⟨by have:=hi.1;have:=a2.size;omega,hi.2⟩
  ·exact a2.trans a5 (fun i hi hN=>absurd hi (Nat.not_lt.2 hN.1))
 ·have:n=xs.length:=by simp at a6;omega
  subst this
  rw [← a3,List.take_length] at ho
  exact ⟨o,c,by rw [a3],ho,hc⟩
theorem JT (hg:Rd w og (gs.map (.int .i64)) F) (hx:Rd w ox (xs.map (.int .i64)) G) (ig:∀ x∈gs,DE x) (hl:xs.length≤1000000) :
  Calls Tryz.prog oQ #[.slice og gs.length cg,.slice ox xs.length cx] w (bc fun v w'=>∃ (o:OA) (c:Nat),v = .slice o (jl gs xs).length c∧Own w' bd 1 o (jl gs xs).length c ((jl gs xs).map (.int .i64)) (db w w')∧Ch ah w w'):=by
 refine wO.calls _ _ _ _ _ _ ?_
 intro w0 e0
 have a8:Own w0 bd 1 (some ⟨w.heap.size,0,none⟩) 0 0 (([]:List Int).map (.int .i64)) (db w w0):=Own.made e0 rfl (by decide) ⟨Nat.le_refl _,(ba.new e0).lt⟩
 refine ⟨fun o n c i k w'=>∃ j:Nat,i=j∧j≤xs.length∧k=xs.length-j∧n=j∧Own w' bd 1 o n c (((jl gs xs).take j).map (.int .i64)) (db w w')∧Ch ah w w',⟨_,0,rfl,Nat.zero_le _,rfl,rfl,a8,Ch.alloc e0⟩,?_⟩
 rintro jk o n c i k w1 ⟨j,rfl,hj,rfl,rfl,ho,hc⟩
 refine ⟨fun h=>⟨fun a1=>?_,fun a9=>?_⟩,fun h=>?_⟩
 ·have h:gs.length=xs.length:=by simp at h;omega
  have a5:=rm h
  have a1:n<xs.length:=by simpa using a1
  refine ⟨fun w2=>Ch ah w w2,fun w2 e2=>⟨hc.ag (Ch.drew e2),⟨by omega,by omega⟩,Rd.keeps (j:=(n:Int).toNat*1) (S:=fun w2=>Ch ah w w2) (fun w2 h2=>hx.aa h2) hc (by simpa using a1) fun p hp=>⟨_,hp,⟨by omega,by omega⟩,
   Rd.keeps (j:=(n:Int).toNat*1) (S:=fun w2=>Ch ah w w2) (fun w2 h2=>hg.aa h2) hc (by simp;omega) fun p2 b2=>⟨_,b2,?_⟩⟩⟩⟩
  have b3:Ch ah w1 w2:=Ch.drew e2
  refine ab (Kv w2 (ig _ (List.getElem_mem _))) ?_
  rintro v w3 ⟨rfl,b4⟩
  have a2:=b3.ag b4
  refine ⟨_,rfl,hc.ag a2,?_⟩
  refine ab (Nw w3 _ _ _) ?_
  rintro v w4 ⟨rfl,b5⟩
  have a0:=a2.ag b5
  refine ⟨_,rfl,hc.ag a0,fun w5 e5=>⟨(hc.ag a0).ag (Ch.alloc e5),?_⟩⟩
  have hv:mul (xs[(n:Int).toNat*1]'(by simpa using a1)) (gate (gs[(n:Int).toNat*1]'(by simp;omega))) 8=(jl gs xs)[n]'(by omega):=by rw [GC h a1];simp [Ti]
  rw [hv] at e5
  obtain ⟨o',c',w6,hr,a6,a7⟩:=Own.pW bi (ho.aa a0) ay _ e5 rfl (by unfold maxLen;omega) (by omega)
  rw [← List.take_succ_eq_append_getElem (by omega)] at a6
  have a3:=hc.ag a0
  have a4:Ch ah w w6:=a3.trans a7 (fun i hi hN=>absurd hi (Nat.not_lt.2 hN.1))
  refine ⟨o',n+1,c',w6,hr,a4,xs.length-(n+1),by omega,n+1,by rw [ae (by omega) (by omega)];rfl,a1,rfl,rfl,a6.mono (fun i _ hi=>?_),a4⟩
  rcases hi with hi|hi
  ·exact ⟨hi.1,by have:=hi.2;have:=a0.size;have:=a7.size;omega⟩
  ·exact ⟨by have:=hi.1;have:=a3.size;omega,hi.2⟩
 ·have h:gs.length=xs.length:=by simp at h;omega
  have a5:=rm h
  have:n=xs.length:=by simp at a9;omega
  subst this
  rw [← a5,List.take_length] at ho
  exact ⟨o,c,by rw [a5],ho,hc⟩
 ·have h:gs.length≠xs.length:=by simp at h;omega
  have hz:jl gs xs=[]:=by unfold jl;rw [if_neg h]
  rw [hz] at ho ⊢
  have:n=0:=by have:=ho.len;simp at this;omega
  subst this
  exact ⟨o,c,rfl,by simpa using ho,hc⟩
end
end Go.Proofs.YtkbikekbaboclaaGreat.Act
set_option linter.unusedVariables false
set_option linter.unusedSimpArgs false
namespace Go.Proofs.YtkbikekbaboclaaGreat.V
open Go Go.Proofs Go.RowKit
inductive df {α β:Type} (R:α→β→Prop):List α→List β→Prop
 | nil:df R [] []
 | cons {x y xs ys}:R x y→df R xs ys→df R (x :: xs) (y :: ys)
section
variable {α β γ:Type} {R S:α→β→Prop}
theorem df.length:∀ {xs:List α} {ys:List β},df R xs ys→xs.length=ys.length
 | _,_,.nil=>rfl
 | _,_,.cons _ h=>by simp [df.length h]
theorem df.imp (h:∀ x y,R x y→S x y):∀ {xs:List α} {ys:List β},df R xs ys→df S xs ys
 | _,_,.nil => .nil
 | _,_,.cons a b => .cons (h _ _ a) (df.imp h b)
theorem df.get:∀ {xs:List α} {ys:List β},df R xs ys→∀ (i:Nat) (h1:i<xs.length) (h2:i<ys.length),R xs[i] ys[i]
 | _,_,.cons a b,0,_,_=>a
 | _,_,.cons a b,i+1,h1,h2=>df.get b i (by simpa using h1) (by simpa using h2)
theorem df.append:∀ {xs xs':List α} {ys ys':List β},df R xs ys→df R xs' ys'→df R (xs++xs') (ys++ys')
 | _,_,_,_,.nil,k=>k
 | _,_,_,_,.cons a b,k => .cons a (df.append b k)
theorem df.snoc {xs:List α} {ys:List β} {x:α} {y:β} (h:df R xs ys) (k:R x y):df R (xs++[x]) (ys++[y]):=h.append (.cons k .nil)
theorem df.set:∀ {xs:List α} {ys:List β},df R xs ys→∀ (i:Nat) {x:α} {y:β},R x y→df R (xs.set i x) (ys.set i y)
 | _,_,.nil,_,_,_,_ => .nil
 | _,_,.cons a b,0,_,_,k => .cons k b
 | _,_,.cons a b,i+1,_,_,k => .cons a (df.set b i k)
end
def ql (w:World) (v:Value) (xs:List Int) (F:Nat→Prop):Prop:=∃ (o:OA) (c:Nat),v = .slice o xs.length c∧Rd w o (xs.map (.int .i64)) F
def nJ (w:World) (v:Value) (xss:List (List Int)) (F:Nat→Prop):Prop :=
 ∃ (o:OA) (c:Nat) (vs:List Value),v = .slice o xss.length c∧Rd w o vs F∧df (fun u xs=>ql w u xs F) vs xss
abbrev gr:=List (List Int) × List (List Int)
def oE (w:World) (p:Value × Value) (e:gr) (F:Nat→Prop):Prop:=nJ w p.1 e.1 F∧nJ w p.2 e.2 F
def ei (p:Value × Value):List Value:=[p.1,p.2]
section
variable {w w':World} {v:Value} {p:Value × Value} {e:gr} {xs:List Int} {xss:List (List Int)} {F G:Nat→Prop}
theorem ql.af (h:ql w v xs F) (hc:Ch G w w') (hd:∀ i,i<w.heap.size→F i→¬ G i):ql w' v xs F:=by
 obtain ⟨o,c,e,hr⟩:=h
 exact ⟨o,c,e,hr.af hc hd⟩
theorem ql.mono (h:ql w v xs F) (hg:∀ i,i<w.heap.size→F i→G i):ql w v xs G:=by
 obtain ⟨o,c,e,hr⟩:=h
 exact ⟨o,c,e,hr.mono hg⟩
theorem nJ.af (h:nJ w v xss F) (hc:Ch G w w') (hd:∀ i,i<w.heap.size→F i→¬ G i):nJ w' v xss F:=by
 obtain ⟨o,c,vs,e,hr,ha⟩:=h
 exact ⟨o,c,vs,e,hr.af hc hd,ha.imp (fun _ _ k=>k.af hc hd)⟩
theorem nJ.mono (h:nJ w v xss F) (hg:∀ i,i<w.heap.size→F i→G i):nJ w v xss G:=by
 obtain ⟨o,c,vs,e,hr,ha⟩:=h
 exact ⟨o,c,vs,e,hr.mono hg,ha.imp (fun _ _ k=>k.mono hg)⟩
theorem oE.af (h:oE w p e F) (hc:Ch G w w') (hd:∀ i,i<w.heap.size→F i→¬ G i):oE w' p e F:=⟨h.1.af hc hd,h.2.af hc hd⟩
theorem oE.mono (h:oE w p e F) (hg:∀ i,i<w.heap.size→F i→G i):oE w p e G:=⟨h.1.mono hg,h.2.mono hg⟩
theorem ql.aa (h:ql w v xs F) (hc:Ch ah w w'):ql w' v xs F:=h.af hc (fun _ _ _=>id)
theorem nJ.aa (h:nJ w v xss F) (hc:Ch ah w w'):nJ w' v xss F:=h.af hc (fun _ _ _=>id)
theorem oE.aa (h:oE w p e F) (hc:Ch ah w w'):oE w' p e F:=h.af hc (fun _ _ _=>id)
theorem ql.nil (w:World) (F:Nat→Prop):ql w (.slice none 0 0) [] F:=⟨none,0,rfl,Rd.nil _ _ _⟩
theorem nJ.nil (w:World) (F:Nat→Prop):nJ w (.slice none 0 0) [] F:=⟨none,0,[],rfl,Rd.nil _ _ _,.nil⟩
theorem Iy (ps:List (Value × Value)) {j:Nat} (h:j<ps.length):(ps.map ei).flatten[j*2]?=some ps[j].1∧(ps.map ei).flatten[j*2+1]?=some ps[j].2 :=
 ⟨dp (sz:=2) (q:=0) ps (fun _=>rfl) h (by omega),dp (sz:=2) (q:=1) ps (fun _=>rfl) h (by omega)⟩
end
structure Build (W w:World) (T sz:Nat) (o:OA) (n c:Nat) (cs:List Value) (F1 F2:Nat→Prop):Prop where
 own:Own w T sz o n c cs F1
 f1:rl W w F1
 f2:rl W w F2
 ap:jo F1 F2
 ch:Ch ah W w
section
variable {P:Program} {W w w1 w':World} {T sz n c t bytes:Nat} {o:OA} {cs:List Value} {F1 F2 G:Nat→Prop}
theorem Build.nil (h:Ch ah W w):Build W w T sz none 0 0 [] ah ah:=⟨Own.nil _ _ _ _,fun _ h=>h.elim,fun _ h=>h.elim,fun _ h=>h.elim,h⟩
theorem Build.aa (h:Build W w T sz o n c cs F1 F2) (hc:Ch ah w w'):Build W w' T sz o n c cs F1 F2 :=
 ⟨h.own.aa hc,h.f1.le hc.size,h.f2.le hc.size,h.ap,h.ch.ag hc⟩
theorem Build.more (h:Build W w T sz o n c cs F1 F2) (hc:Ch ah w w'):Build W w' T sz o n c cs F1 (Ext F2 w w') :=
 ⟨h.own.aa hc,h.f1.le hc.size,h.f2.ext h.ch hc.size,fun i h1 h2=>by
  rcases h2 with h2|h2
  ·exact h.ap i h1 h2
  ·exact absurd (h.f1 i h1).2 (Nat.not_lt.2 h2.1),h.ch.ag hc⟩
theorem Build.push (el:li P t T sz bytes) (h:Build W w T sz o n c cs F1 F2) (ty:TypeId) {news:Array Value} (e1:w1=w.alloc (.cells news T (0,0))) (hl:news.size=sz) (h1:news.toList.all (·.oneCell')=true) (hn:n<1000000) (hb:bytes≤1000) :
  ∃ (o':OA) (c':Nat) (w':World) (F1':Nat→Prop),(Builtin.append_ #[t,t] ty #[.slice o n c,.slice (some ⟨w.heap.size,0,none⟩) 1 1]).run P w1 = .ok (.slice o' (n+1) c') w'∧Build W w' T sz o' (n+1) c' (cs++news.toList) F1' F2∧Ch F1 w w':=by
 obtain ⟨o',c',w',hr,ho,hc⟩:=Own.push el h.own ty e1 hl h1 (by unfold maxLen;omega) (Nat.le_trans (Nat.mul_le_mul (show n+1≤1000000 by omega) hb) (by omega))
 exact ⟨o',c',w',_,hr,⟨ho,h.f1.ext h.ch hc.size,h.f2.le hc.size,h.ap.PD h.f2,h.f1.hi h.ch hc⟩,hc⟩
end
def yX (P:Program) (w:World) (mb kt et:Nat) (f:Int→Int) (n:Nat):Prop :=
 ∃ D:DataW Unit,w.ownsMap P kt (plainElem P et) mb n D∧Maps.IsMap D∧∀ k,(Lit.int .i64 k).wf=true→D.atKey (.int .i64 k) (.lit (.int .i64 0)) = .lit (.int .i64 (f k))
def QW (f:Int→Int) (k v:Int):Int→Int:=fun x=>if x=k then v else f x
section
variable {P:Program} {w w':World} {mb t kt et n:Nat} {f:Int→Int} {G:Nat→Prop}
theorem yX.made (e:w'=w.alloc (.map #[] 0)):yX P w' w.heap.size kt et (fun _=>0) 0:=by
 subst e
 exact ⟨.map [],World.ownsMap_made _ _ _ _,Maps.isMap_empty,fun k _=>WideAt.atKey_none _ (by simp)⟩
theorem yX.lt (h:yX P w mb kt et f n):mb<w.heap.size:=by obtain ⟨D,h,_⟩:=h;exact h.lt
theorem yX.af (h:yX P w mb kt et f n) (hc:Ch G w w') (hd:¬ G mb):yX P w' mb kt et f n:=by
 have a0:=h.lt
 obtain ⟨D,⟨es,clock,hb,F,hs,hD⟩,h2,h3⟩:=h
 exact ⟨D,⟨es,clock,(hc.block mb a0 hd).trans hb,F,hs,hD⟩,h2,h3⟩
theorem yX.lookup (h:yX P w mb kt et f n) (ht:P.underlying t=some (.map kt et)) (hk:P.underlying kt=some (.int .i64)) (he:P.underlying et=some (.int .i64)) (hz:∀ w,(zeroValue et).run P w = .ok (.int .i64 0) w) {k:Int} (hw:(Lit.int .i64 k).wf=true) :
  (Instr.lookup t (.map (some mb)) (.int .i64 k) false).run P w = .ok (.int .i64 (f k)) w:=by
 obtain ⟨D,h1,h2,h3⟩:=h
 obtain ⟨c,hr,a0,_⟩:=h1.lookup_int (Maps.int_keyed hk) ht he (hz w) (Maps.keyOf_int_mk hk hw)
 rw [h3 k hw] at a0
 injection a0 with a0
 injection a0 with _ a0
 rw [a0];exact hr
theorem yX.update (h:yX P w mb kt et f n) (ht:P.underlying t=some (.map kt et)) (hk:P.underlying kt=some (.int .i64)) (he:P.underlying et=some (.int .i64)) (hn:n<maxLen) {k x:Int} (hw:(Lit.int .i64 k).wf=true) (hx:(Lit.int .i64 x).wf=true) :
  ∃ w',(Instr.mapUpdate t (.map (some mb)) (.int .i64 k) (.int .i64 x)).run P w = .ok () w'∧yX P w' mb kt et (QW f k x) (n+1)∧Ch (·=mb) w w':=by
 obtain ⟨D,h1,h2,h3⟩:=h
 obtain ⟨w',hr,ho,hg⟩:=h1.update (Maps.int_keyed hk) ht hn (Maps.keyOf_int_mk hk hw) (plainElem_int he hx)
 refine ⟨w',hr,⟨_,ho,h2.put _ _,fun j hj=>?_⟩,Ch.grown hg (fun i hi=>by injection hi with hi;exact hi.symm)⟩
 unfold QW
 by_cases e:j=k
 ·subst e
  rw [if_pos rfl]
  exact Maps.atKey_put_same h2 (by trivial) _ _
 ·rw [if_neg e,Maps.atKey_put_other (fun h=>e (by injection h)),h3 j hj]
end
theorem wf_i64 {x:Int} (h1 : -9223372036854775808≤x) (h2:x≤9223372036854775807):(Lit.int .i64 x).wf=true:=by
 simp only [Lit.wf,Bool.and_eq_true,decide_eq_true_eq]
 exact ⟨h1,h2⟩
theorem sG {α:Type} {enc:α→List Value} {sz q:Nat} {v:Value} {y:α} (ys:List α) (a0:∀ y,(enc y).length=sz) {j:Nat} (hj:j<ys.length) (hy:enc y=(enc ys[j]).set q v) (hq:q<sz) :
  (ys.map enc).flatten.set (j*sz+q) v=((ys.set j y).map enc).flatten:=by
 induction ys generalizing j with
 | nil=>simp at hj
 | cons x r ih =>
  cases j with
  | zero =>
   rw [Nat.zero_mul,Nat.zero_add,List.map_cons,List.flatten_cons,List.set_append_left _ _ (by rw [a0];exact hq)]
   have hy:enc y=(enc x).set q v:=hy
   rw [List.set_cons_zero,List.map_cons,List.flatten_cons,hy]
  | succ j =>
   rw [List.map_cons,List.flatten_cons,List.set_append_right _ _ (by rw [a0,Nat.succ_mul];omega),a0,show (j+1)*sz+q-sz=j*sz+q by rw [Nat.succ_mul];omega]
   rw [ih (j:=j) (by simpa using hj) hy,List.set_cons_succ,List.map_cons,List.flatten_cons]
def Dy (w:World) (R:Nat→Nat→Prop):Prop:=(∀ k i,R k i→i<w.heap.size)∧∀ j k,j≠k→jo (R j) (R k)
def ph (R:Nat→Nat→Prop) (k:Nat) (w w':World):Nat→Nat→Prop:=fun j=>if j=k then Ext (R k) w w' else R j
section
variable {w w':World} {R:Nat→Nat→Prop}
theorem Dy.le (h:Dy w R) (hs:w.heap.size≤w'.heap.size):Dy w' R:=⟨fun k i hi=>Nat.lt_of_lt_of_le (h.1 k i hi) hs,h.2⟩
theorem Dy.QW (h:Dy w R) (hs:w.heap.size≤w'.heap.size) (k:Nat):Dy w' (ph R k w w'):=by
 have hx:∀ i,Ext (R k) w w' i→i<w'.heap.size:=fun i hi=>by
  rcases hi with hi|hi
  ·exact Nat.lt_of_lt_of_le (h.1 k i hi) hs
  ·exact hi.2
 refine ⟨fun j i hi=>?_,fun a b a0 i h1 h2=>?_⟩
 ·unfold ph at hi
  split at hi
  ·exact hx i hi
  ·exact Nat.lt_of_lt_of_le (h.1 j i hi) hs
 ·unfold ph at h1 h2
  split at h1
  ·rename_i ha
   rw [if_neg (by omega)] at h2
   rcases h1 with h1|h1
   ·exact h.2 k b (by omega) i h1 h2
   ·exact absurd (h.1 b i h2) (Nat.not_lt.2 h1.1)
  ·split at h2
   ·rename_i hb
    rcases h2 with h2|h2
    ·exact h.2 a k (by omega) i h1 h2
    ·exact absurd (h.1 a i h1) (Nat.not_lt.2 h2.1)
   ·exact h.2 a b a0 i h1 h2
theorem yi (k:Nat):ph R k w w' k=Ext (R k) w w':=by unfold ph;rw [if_pos rfl]
theorem jn {j k:Nat} (h:j≠k):ph R k w w' j=R j:=by unfold ph;rw [if_neg h]
end
end Go.Proofs.YtkbikekbaboclaaGreat.V
set_option linter.unusedVariables false
set_option linter.unusedSimpArgs false
namespace Go.Proofs.YtkbikekbaboclaaGreat.ft
open Go Go.Proofs V Vc qX Go.RowKit
def ml (r c:Int) (n:Nat):Bool:=decide (1≤r∧r≤64∧1≤c∧c≤64∧(n:Int)=r*c)
theorem BL {r c:Int} {n:Nat} (h:ml r c n=true):∃ R C:Nat,r=R∧c=C∧1≤R∧R≤64∧1≤C∧C≤64∧n=R*C:=by
 have h:=dQt h
 refine ⟨r.toNat,c.toNat,by omega,by omega,by omega,by omega,by omega,by omega,?_⟩
 obtain ⟨R,rfl⟩:∃ R:Nat,r=R:=⟨r.toNat,by omega⟩
 obtain ⟨C,rfl⟩:∃ C:Nat,c=C:=⟨c.toNat,by omega⟩
 have:=h.2.2.2.2
 simp only [Int.toNat_natCast]
 exact_mod_cast this
theorem Rn {r c:Int} (h1:1≤r) (h2:r≤64) (h3:1≤c) (h4:c≤64):1≤r*c∧r*c≤4096:=by
 have a:=Int.mul_le_mul h2 h4 (by omega) (by omega)
 have b:=Int.mul_le_mul h1 h3 (by omega) (by omega)
 omega
theorem sE (w:World) (n:Int):Calls Tryz.prog FL #[.int .i64 n] w (bc fun v w'=>v = .bool (decide (1≤n∧n≤64))∧w'=w):=by
 refine Jg.calls _ ?_
 refine ⟨fun h=>⟨?_,rfl⟩,fun h=>⟨?_,rfl⟩⟩
 ·have h:n≥1:=by simpa using h
  rw [decide_eq_decide.2 (show n≤64↔1≤n∧n≤64 by omega)]
 ·have h:¬ n≥1:=by simpa using h
  rw [decide_eq_false (by omega)]
section
variable {w:World} {r c:Int} {o:OA} {n cap:Nat} {ds vs:List Int} {F G:Nat→Prop} {ov:OA} {cv:Nat}
theorem iz (w:World) (r c:Int) (o:OA) (n cap:Nat):Calls Tryz.prog Iq #[.agg #[.int .i64 r,.int .i64 c,.slice o n cap]] w (bc fun v w'=>v = .bool (ml r c n)∧Ch ah w w'):=by
 refine MW.calls _ _ _ _ _ ?_
 intro w1 e1
 have hB:=ba.new e1
 have hC:Ch ah w w1:=Ch.alloc e1
 refine ⟨_,hB.cell 0 rfl,?_⟩
 refine ab (sE w1 _) ?_
 rintro v w2 ⟨rfl,rfl⟩
 refine ⟨_,rfl,fun h1=>⟨_,hB.cell 1 rfl,?_⟩,fun h1=>⟨?_,hC⟩⟩
 ·refine ab (sE w2 _) ?_
  rintro v w3 ⟨rfl,rfl⟩
  have h1:=dQt h1
  refine ⟨_,rfl,fun h2=>⟨_,_,_,hB.cell 2 rfl,_,hB.cell 0 rfl,_,hB.cell 1 rfl,?_,hC⟩,fun h2=>⟨?_,hC⟩⟩
  ·have h2:=dQt h2
   have hm:=Rn h1.1 h1.2 h2.1 h2.2
   rw [ae (by omega) (by omega)]
   show Value.bool (decide ((n:Int)=r*c))=Value.bool (decide _)
   congr 1
   exact decide_eq_decide.2 ⟨fun h=>⟨h1.1,h1.2,h2.1,h2.2,h⟩,fun h=>h.2.2.2.2⟩
  ·have h2:=dQf h2
   unfold ml;rw [decide_eq_false (fun h=>h2 ⟨h.2.2.1,h.2.2.2.1⟩)]
 ·have h1:=dQf h1
  unfold ml;rw [decide_eq_false (fun h=>h1 ⟨h.1,h.2.1⟩)]
def tK (s:ByteArray):List Int:=s.data.toList.map fun b=>IntKind.i8.wrap (b.toNat:Int)
theorem BF (s:ByteArray):(tK s).length=s.size:=by unfold tK;simp
def rowAt (ds:List Int) (C i:Nat):List Int:=(ds.drop (i*C)).take C
theorem Hn {R C i:Nat} (h:ds.length=R*C) (hi:i<R):(rowAt ds C i).length=C:=by
 unfold rowAt
 have:(i+1)*C≤R*C:=Nat.mul_le_mul_right _ hi
 rw [Nat.succ_mul] at this
 simp;omega
def tJ (ds:List Int) (r c at':Int):List Int:=if ml r c ds.length&&decide (0≤at'∧at'<r) then rowAt ds c.toNat at'.toNat else []
end
end Go.Proofs.YtkbikekbaboclaaGreat.ft
set_option linter.unusedVariables false
set_option linter.unusedSimpArgs false
namespace Go.Proofs.YtkbikekbaboclaaGreat.ft
open Go Go.Proofs V Vc qX Go.RowKit
section
variable {w:World} {r c:Int} {o:OA} {n cap:Nat} {ds vs xs ys:List Int} {F G:Nat→Prop} {ov oa ob:OA} {cv ca cb:Nat}
theorem ry (hd:Rd w o (ds.map (.int .i8)) F) (a5:ds.length≤cap) (h8:∀ x∈ds,-128≤x∧x≤127) (hl:ds.length≤1000000) (r c at':Int) :
  Calls Tryz.prog Ck #[.agg #[.int .i64 r,.int .i64 c,.slice o ds.length cap],.int .i64 at'] w (bc fun v w'=>∃ (A:OA) (C:Nat),v = .slice A (tJ ds r c at').length C∧Gr ah w w' bd 1 A (tJ ds r c at').length C ((tJ ds r c at').map (.int .i64))):=by
 refine DI.calls _ _ _ _ _ _ ?_
 unfold Vm.A0 Vm.A7 Vm.B5 Vm.Br Vm.D Vm.D0 Vm.D3 Vm.D4 Vm.E Vm.I3 Vm.M5 Vm.P3 Vm.Q Vm.U Vm.W;dsimp only
 intro w1 e1
 have a3:=ba.new e1
 have a7:Ch ah w w1:=Ch.alloc e1
 refine ⟨_,_,_,_,_,⟨a3.cell 0 rfl,a3.cell 1 rfl,a3.cell 2 rfl⟩,?_⟩
 refine ab (iz w1 r c o ds.length cap) ?_
 rintro v w2 ⟨rfl,a1⟩
 have a4:=a3.aa a1
 have a1:=a7.ag a1
 have no:(ml r c ds.length&&decide (0≤at'∧at'<r))=false→∃ (A:OA) (C:Nat),Value.slice none 0 0=Value.slice A (tJ ds r c at').length C∧Gr ah w w2 bd 1 A (tJ ds r c at').length C ((tJ ds r c at').map (.int .i64)):=fun h=>by
  unfold tJ;rw [h];exact ⟨none,0,rfl,Gr.nil a1⟩
 refine ⟨_,rfl,fun hb=>no (by rw [show ml r c ds.length=false by simpa using hb];rfl),fun hb=>?_⟩
 have hb:ml r c ds.length=true:=by simpa using hb
 refine ⟨fun h=>no (by rw [hb,decide_eq_false (by have:=dQt h;omega)];rfl),fun h1=>⟨_,a4.cell 0 rfl,fun h=>no (by rw [hb,decide_eq_false (by have:=dQt h;omega)];rfl),fun h2=>?_⟩⟩
 have h1:=dQf h1
 have h2:=dQf h2
 obtain ⟨R,C,rfl,rfl,r1,r2,c1,c2,hn⟩:=BL hb
 obtain ⟨i,rfl⟩:∃ i:Nat,at'=i:=⟨at'.toNat,by omega⟩
 have hi:i<R:=by omega
 have b5:(i+1)*C≤R*C:=Nat.mul_le_mul_right _ hi
 have b6:R*C≤64*64:=Nat.mul_le_mul r2 c2
 have b7:(i+1)*C=i*C+C:=Nat.succ_mul i C
 have a8:IntKind.i64.wrap ((i:Int)*(C:Int))=((i*C:Nat):Int):=by rw [← Int.natCast_mul,ae (by omega) (by omega)]
 have a9:IntKind.i64.wrap (IntKind.i64.wrap ((i:Int)+1)*(C:Int))=(((i+1)*C:Nat):Int):=by
  rw [ae (x:=(i:Int)+1) (by omega) (by omega),show ((i:Int)+1)=((i+1:Nat):Int) by omega,← Int.natCast_mul,ae (by omega) (by omega)]
 refine ⟨_,_,_,a4.cell 2 rfl,_,a4.cell 1 rfl,_,a4.cell 1 rfl,?_⟩
 rw [a8,a9,Int.toNat_natCast,Int.toNat_natCast,show (i+1)*C-i*C=C by omega]
 have a6:tJ ds (R:Int) (C:Int) (i:Int)=rowAt ds C i:=by
  unfold tJ;rw [hb,decide_eq_true (by omega)];rfl
 rw [a6]
 have b2:(rowAt ds C i).length=C:=Hn hn hi
 have hs:Rd w (if cap=i*C then o else o.map (·.add (i*C*1))) ((rowAt ds C i).map (.int .i8)) F:=by
  have:=hd.slice (c:=cap) (sz:=1) (by simpa using a5) (i*C) C
  rw [Nat.mul_one,Nat.mul_one,← List.map_drop,← List.map_take] at this
  rw [Nat.mul_one];exact this
 have a2:∀ x∈rowAt ds C i,-128≤x∧x≤127:=fun x hx=>h8 x (List.mem_of_mem_drop (List.mem_of_mem_take hx))
 generalize rowAt ds C i=L at b2 hs a2 ⊢
 refine ⟨⟨by omega,by omega,by omega⟩,fun A j CC k x w'=>k=j∧j≤L.length∧x=L.length-j∧Gr ah w w' bd 1 A j CC ((L.take j).map (.int .i64)),⟨_,rfl,Nat.zero_le _,rfl,Gr.nil a1⟩,?_⟩
 rintro jk A j CC k x w3 ⟨rfl,hj,rfl,hg⟩
 refine ⟨fun a0=>?_,fun b3=>?_⟩
 ·have a0:j<L.length:=by simp at a0;omega
  have hm:=a2 _ (List.getElem_mem a0)
  refine ⟨⟨by omega,by omega⟩,(hs.aa hg.2).at (j:=(j:Int).toNat*1) (v := .int .i8 L[j]) (by simp [a0]) fun p hp=>⟨_,hp,fun w4 e4=>?_⟩⟩
  rw [ae (by omega) (by omega)] at e4
  obtain ⟨A',C',w5,hr,b4,_⟩:=hg.next bi ay a0 (by omega) e4 rfl rfl (by omega)
  exact ⟨A',_,C',w5,hr,L.length-(j+1),by omega,by rw [ae (by omega) (by omega)];rfl,a0,rfl,b4⟩
 ·have:j=L.length:=by simp at b3;omega
  subst this
  rw [List.take_length] at hg
  exact ⟨A,CC,rfl,hg⟩
def sU (ds:List Int) (R C:Nat) (vs:List Int) (s:Int):List Int:=(List.range R).map fun i=>sat (shift (se (rowAt ds C i) vs) s)
def pK (ds:List Int) (r c:Int) (vs:List Int):Bool:=ml r c ds.length&&decide ((vs.length:Int)=c)
def qE (ds:List Int) (r c:Int) (vs:List Int) (s:Int):List Int:=if pK ds r c vs then sU ds r.toNat c.toNat vs s else []
theorem Ap (xs ys:List Int):DE (se xs ys):=by have:=PZ xs ys;exact ⟨by omega,by omega⟩
theorem Kn (hd:Rd w o (ds.map (.int .i8)) F) (a3:ds.length≤cap) (h8:∀ x∈ds,-128≤x∧x≤127) (hl:ds.length≤1000000) (hv:Rd w ov (vs.map (.int .i64)) G) (r c s:Int) :
  Calls Tryz.prog Am #[.agg #[.int .i64 r,.int .i64 c,.slice o ds.length cap],.slice ov vs.length cv,.int .i64 s] w (bc fun v w'=>∃ (A:OA) (C:Nat),v = .tuple #[.slice A (qE ds r c vs s).length C,.int .i64 (if pK ds r c vs then 0 else 1)]∧Gr ah w w' bd 1 A (qE ds r c vs s).length C ((qE ds r c vs s).map (.int .i64))):=by
 refine BI.calls _ _ _ _ _ _ _ _ _ ?_
 intro w1 e1
 have a2:=ba.new e1
 have b2:Ch ah w w1:=Ch.alloc e1
 refine ⟨_,_,_,_,_,⟨a2.cell 0 rfl,a2.cell 1 rfl,a2.cell 2 rfl⟩,?_⟩
 refine ab (iz w1 r c o ds.length cap) ?_
 rintro v w2 ⟨rfl,a0⟩
 have a4:=a2.aa a0
 have a0:=b2.ag a0
 have no:pK ds r c vs=false→∃ (A:OA) (C:Nat),Value.tuple #[Value.slice none 0 0,.int .i64 1] = .tuple #[.slice A (qE ds r c vs s).length C,.int .i64 (if pK ds r c vs then 0 else 1)]∧Gr ah w w2 bd 1 A (qE ds r c vs s).length C ((qE ds r c vs s).map (.int .i64)):=fun h=>by
  unfold qE;rw [h];exact ⟨none,0,rfl,Gr.nil a0⟩
 refine ⟨_,rfl,fun hb=>no (by unfold pK;rw [show ml r c ds.length=false by simpa using hb];rfl),fun hb=>⟨_,a4.cell 1 rfl,fun h=>no (by unfold pK;rw [decide_eq_false (by simpa using h),Bool.and_false]),fun h2=>⟨_,a4.cell 0 rfl,?_⟩⟩⟩
 have hb:ml r c ds.length=true:=by simpa using hb
 have a7:pK ds r c vs=true:=by unfold pK;rw [hb,decide_eq_true (by simpa using h2)];rfl
 have hT:qE ds r c vs s=sU ds r.toNat c.toNat vs s:=by unfold qE;rw [a7];rfl
 rw [a7,hT]
 have b3:=hb
 obtain ⟨R,C,rfl,rfl,r1,r2,c1,c2,hn⟩:=BL hb
 simp only [Int.toNat_natCast]
 have hL:(sU ds R C vs s).length=R:=by simp [sU]
 have a8:∀ (j:Nat) (h:j<(sU ds R C vs s).length),(sU ds R C vs s)[j]=sat (shift (se (tJ ds R C j) vs) s):=fun j h=>by
  have:tJ ds (R:Int) (C:Int) (j:Int)=rowAt ds C j:=by
   unfold tJ;rw [b3,decide_eq_true (by omega)];rfl
  rw [this];simp [sU]
 generalize sU ds R C vs s=L at hL a8 ⊢
 refine ⟨fun A j CC k x w'=>k=j∧j≤L.length∧x=L.length-j∧Gr ah w2 w' bd 1 A j CC ((L.take j).map (.int .i64)),⟨_,rfl,Nat.zero_le _,rfl,Gr.nil (Ch.refl _ _)⟩,?_⟩
 rintro jk A j CC k x w3 ⟨rfl,hj,rfl,hg⟩
 refine ⟨fun a1=>?_,fun b4=>?_⟩
 ·have a1:j<L.length:=by simp at a1;omega
  have a5:=a4.aa hg.2
  have a9:=a0.ag hg.2
  refine ⟨_,_,_,_,_,⟨a5.cell 0 rfl,a5.cell 1 rfl,a5.cell 2 rfl⟩,?_⟩
  refine ab (ry (hd.aa a9) a3 h8 hl R C j) ?_
  rintro v w4 ⟨A4,C4,rfl,a6⟩
  refine ⟨_,_,_,rfl,?_⟩
  have b5:=a9.ag a6.2
  refine ab (Ja (xs:=tJ ds R C j) (ys:=vs) a6.rd (hv.aa b5) ?_) ?_
  ·unfold tJ;split
   ·unfold rowAt;simp;omega
   ·simp
  rintro v w5 ⟨rfl,b6⟩
  refine ⟨_,rfl,?_⟩
  refine ab (rO w5 (Ap _ _) s) ?_
  rintro v w6 ⟨rfl,b7⟩
  refine ⟨_,rfl,?_⟩
  refine ab (oL w6 _) ?_
  rintro v w7 ⟨rfl,rfl⟩
  refine ⟨_,rfl,fun w8 e8=>?_⟩
  rw [← a8 j a1] at e8
  obtain ⟨A',C',w9,hr,b8,_⟩:=(((hg.aa a6.2).aa b6).aa b7).next bi ay a1 (by omega) e8 rfl rfl (by omega)
  exact ⟨A',_,C',w9,hr,L.length-(j+1),by omega,by rw [ae (by omega) (by omega)];rfl,a1,rfl,b8⟩
 ·have:j=L.length:=by simp at b4;omega
  subst this
  rw [List.take_length] at hg
  exact ⟨A,CC,rfl,hg.1.mono (fun i _ hN=>⟨Nat.le_trans a0.size hN.1,hN.2⟩),a0.ag hg.2⟩
theorem GK (hr:Rd w o (xs.map (.int .i64)) F) (hx:xs.length≤1000000) (cx:Nat) :
  Calls Tryz.prog qi #[.slice o xs.length cx] w (bc fun v w'=>v = .int .i64 (nY xs)∧w'=w):=by
 refine zW.calls _ _ _ ?_
 unfold Vm.B Vm.B9 Vm.C0 Vm.E5 Vm.G Vm.V Vm.Z;dsimp only
 refine ⟨fun s i k w'=>w'=w∧∃ j:Nat,i=j∧j≤xs.length∧k=xs.length-j∧s=nY (xs.take j),⟨_,rfl,0,rfl,Nat.zero_le _,rfl,rfl⟩,?_⟩
 rintro jk s i k w' ⟨rfl,j,rfl,hj,rfl,rfl⟩
 refine ⟨fun a0=>?_,fun a1=>?_⟩
 ·have a0:j<xs.length:=by simpa using a0
  refine ⟨⟨by omega,by omega⟩,hr.at (j:=(j:Int).toNat*1) (v := .int .i64 xs[j]) (by simp [a0]) fun p hp=>⟨xs[j],hp,?_⟩⟩
  refine ab (fi _ _ _ _) ?_
  rintro v w1 ⟨rfl,rfl⟩
  refine ⟨_,rfl,?_⟩
  have hs:=HP (xs.take j)
  have hc:=lm (x:=xs[j]) (low := -2305843009213693952) (high:=2305843009213693952) (by omega)
  rw [ae (x:=nY (xs.take j)+_) (by omega) (by omega)]
  refine ab (fi _ _ _ _) ?_
  rintro v w2 ⟨rfl,rfl⟩
  refine ⟨_,rfl,xs.length-(j+1),by omega,rfl,j+1,?_,a0,rfl,?_⟩
  ·rw [ae (by omega) (by omega)];rfl
  ·rw [au xs j a0,xU]
 ·have:j=xs.length:=by simp at a1;omega
  subst this
  exact ⟨by rw [List.take_length],rfl⟩
theorem NC (hx:Rd w oa (xs.map (.int .i64)) F) (hy:Rd w ob (ys.map (.int .i64)) G) (hl:xs.length≤1000000) :
  Calls Tryz.prog pO #[.slice oa xs.length ca,.slice ob ys.length cb] w (bc fun v w'=>v = .int .i64 (se xs ys)∧Ch ah w w'):=by
 refine Ab.calls _ _ _ _ _ _ ?_
 intro w1 e1
 have hL:(List.zipWith product xs ys).length=min xs.length ys.length:=by simp
 have a2:∀ (j:Nat) (h:j<(List.zipWith product xs ys).length) (h1:j<xs.length) (h2:j<ys.length),(List.zipWith product xs ys)[j]=product xs[j] ys[j]:=fun j h h1 h2=>by simp
 rw [← OI]
 generalize List.zipWith product xs ys=L at hL a2 ⊢
 refine ⟨fun A j CC k x w'=>k=j∧j≤L.length∧x=L.length-j∧Gr ah w w' bd 1 A j CC ((L.take j).map (.int .i64)),⟨_,rfl,Nat.zero_le _,rfl,Gr.nG (Ch.refl _ _) e1⟩,?_⟩
 rintro jk A j CC k x w2 ⟨rfl,hj,rfl,hg⟩
 have fin:∀ (j:Nat),j=L.length→Gr ah w w2 bd 1 A j CC ((L.take j).map (.int .i64))→Calls Tryz.prog qi #[.slice A j CC] w2 (bc fun v w'=>∃ x:Int,v = .int .i64 x ∧ .int .i64 x=Value.int .i64 (nY L)∧Ch ah w w'):=by
  rintro j rfl hg
  rw [List.take_length] at hg
  refine ab (GK hg.rd (by omega) CC) ?_
  rintro v w3 ⟨rfl,rfl⟩
  exact ⟨_,rfl,rfl,hg.2⟩
 refine ⟨fun h1=>⟨fun h2=>?_,fun h2=>fin j (by simp at h1 h2;omega) hg⟩,fun h1=>fin j (by simp at h1;omega) hg⟩
 have h1:j<xs.length:=by simpa using h1
 have h2:j<ys.length:=by simpa using h2
 have a1:j<L.length:=by omega
 refine ⟨fun w'=>Ch ah w w',fun w3 e3=>⟨hg.2.ag (Ch.drew e3),⟨by omega,by omega⟩,Rd.keeps (j:=j) (S:=fun w2=>Ch ah w w2) (fun w2 h2=>hx.aa h2) hg.2 h1 fun p hp=>⟨_,fun w' h=>by rw [dw];exact hp w' h,⟨by omega,by omega⟩,
  Rd.keeps (j:=j) (S:=fun w2=>Ch ah w w2) (fun w2 h2=>hy.aa h2) hg.2 h2 fun p2 a4=>⟨_,fun w' h=>by rw [dw];exact a4 w' h,?_⟩⟩⟩⟩
 have a0:=hg.aa (Ch.drew e3)
 refine ab (fi _ _ _ _) ?_
 rintro v w4 ⟨rfl,rfl⟩
 refine ⟨_,rfl,a0.2,?_⟩
 refine ab (fi _ _ _ _) ?_
 rintro v w5 ⟨rfl,rfl⟩
 refine ⟨_,rfl,a0.2,fun w8 e8=>?_⟩
 have hp:=rC xs[j] ys[j]
 have a5:IntKind.i64.wrap (eu xs[j] (-1073741824) 1073741824*eu ys[j] (-1073741824) 1073741824)=L[j]:=by
  rw [a2 j a1 h1 h2];unfold product at hp ⊢;exact ae (by omega) (by omega)
 rw [a5] at e8
 obtain ⟨A',C',w9,hr,a3,_⟩:=a0.next bi ay a1 (by omega) e8 rfl rfl (by omega)
 exact ⟨a0.2.ag (Ch.alloc e8),A',_,C',w9,hr,a3.2,L.length-(j+1),by omega,by rw [ae (by omega) (by omega)];rfl,a1,rfl,a3⟩
end
end Go.Proofs.YtkbikekbaboclaaGreat.ft
set_option linter.unusedVariables false
set_option linter.unusedSimpArgs false
namespace Go.Proofs.YtkbikekbaboclaaGreat.ft
open Go Go.Proofs V Vc qX Go.RowKit
def Qf (r c:Int) (n:Nat):Int:=if ml r c n then 0 else if 1≤r∧r≤64∧1≤c∧c≤64 then 5 else 1
def Av (r c:Int) (s:ByteArray):List Int:=if ml r c s.size then tK s else []
def Qb (r c:Int) (s:ByteArray) (w:World) (v:Value) (w':World):Prop:=∃ (A:OA) (C:Nat),v = .tuple #[.agg #[.int .i64 (if ml r c s.size then r else 0),.int .i64 (if ml r c s.size then c else 0),.slice A (Av r c s).length C],.int .i64 (Qf r c s.size)]∧Gr ah w w' KM 1 A (Av r c s).length C ((Av r c s).map (.int .i8))
theorem Qb.bad {r c:Int} {s:ByteArray} {w w':World} {e:Int} (hg:ml r c s.size=false) (he:e=if 1≤r∧r≤64∧1≤c∧c≤64 then 5 else 1) (hC:Ch ah w w'):Qb r c s w (.tuple #[.agg #[.int .i64 0,.int .i64 0,.slice none 0 0],.int .i64 e]) w':=by
 have h1:Av r c s=[]:=by unfold Av;rw [hg];rfl
 have h2:Qf r c s.size=e:=by unfold Qf;rw [hg,he];rfl
 unfold Qb
 rw [h1,h2,hg]
 exact ⟨none,0,rfl,Gr.nil hC⟩
theorem Im (w:World) (r c:Int) (s:ByteArray) (hs:s.size≤1000000):Calls Tryz.prog MR #[.int .i64 r,.int .i64 c,.string s] w (bc (Qb r c s w)):=by
 refine Qw.calls _ _ _ ?_
 intro w1 e1
 have hB:=ba.new e1
 have hC:Ch ah w w1:=Ch.alloc e1
 refine ab (sE w1 _) ?_
 rintro v w2 ⟨rfl,rfl⟩
 refine ⟨_,rfl,fun h=>?_,fun h1=>?_⟩
 ·
  refine ⟨⟨hB.ok 0 rfl,hB.ok 1 rfl,hB.ok 2 rfl⟩,fun w3 e3=>?_⟩
  have a1:ba w3 w.heap.size [.int .i64 0,.int .i64 0,.slice none 0 0] mz:=((hB.set rfl).set rfl).set e3
  have a5:Ch ah w w3:=hC.trans (Ch.KH (F:=(·=w.heap.size)) e3 rfl rfl rfl) (fun i hi he=>by omega)
  refine ⟨_,_,_,_,_,⟨a1.cell 0 rfl,a1.cell 1 rfl,a1.cell 2 rfl⟩,?_⟩
  have hb:¬ (1≤r∧r≤64):=by rw [Bool.not_eq_true'] at h;exact dQf h
  have hg:ml r c s.size=false:=decide_eq_false (fun h=>hb ⟨h.1,h.2.1⟩)
  exact Qb.bad hg (by rw [if_neg (fun h=>hb ⟨h.1,h.2.1⟩)]) a5
 have h1:1≤r∧r≤64:=by simpa using h1
 refine ab (sE w2 _) ?_
 rintro v w4 ⟨rfl,rfl⟩
 refine ⟨_,rfl,fun h=>?_,fun h2=>?_⟩
 ·
  refine ⟨⟨hB.ok 0 rfl,hB.ok 1 rfl,hB.ok 2 rfl⟩,fun w3 e3=>?_⟩
  have a1:ba w3 w.heap.size [.int .i64 0,.int .i64 0,.slice none 0 0] mz:=((hB.set rfl).set rfl).set e3
  have a5:Ch ah w w3:=hC.trans (Ch.KH (F:=(·=w.heap.size)) e3 rfl rfl rfl) (fun i hi he=>by omega)
  refine ⟨_,_,_,_,_,⟨a1.cell 0 rfl,a1.cell 1 rfl,a1.cell 2 rfl⟩,?_⟩
  have hb:¬ (1≤c∧c≤64):=by rw [Bool.not_eq_true'] at h;exact dQf h
  have hg:ml r c s.size=false:=decide_eq_false (fun h=>hb ⟨h.2.2.1,h.2.2.2.1⟩)
  exact Qb.bad hg (by rw [if_neg (fun h=>hb ⟨h.2.2.1,h.2.2.2⟩)]) a5
 have h2:1≤c∧c≤64:=by simpa using h2
 have hm:=Rn h1.1 h1.2 h2.1 h2.2
 rw [ae (x:=r*c) (by omega) (by omega)]
 refine ⟨fun h=>?_,fun h3=>?_⟩
 ·
  refine ⟨⟨hB.ok 0 rfl,hB.ok 1 rfl,hB.ok 2 rfl⟩,fun w3 e3=>?_⟩
  have a1:ba w3 w.heap.size [.int .i64 0,.int .i64 0,.slice none 0 0] mz:=((hB.set rfl).set rfl).set e3
  have a5:Ch ah w w3:=hC.trans (Ch.KH (F:=(·=w.heap.size)) e3 rfl rfl rfl) (fun i hi he=>by omega)
  refine ⟨_,_,_,_,_,⟨a1.cell 0 rfl,a1.cell 1 rfl,a1.cell 2 rfl⟩,?_⟩
  have hb:(s.size:Int)≠r*c:=by simpa using h
  have hg:ml r c s.size=false:=decide_eq_false (fun h=>hb h.2.2.2.2)
  exact Qb.bad hg (by rw [if_pos ⟨h1.1,h1.2,h2.1,h2.2⟩]) a5
 have h3:(s.size:Int)=r*c:=by simpa using h3
 have hg:ml r c s.size=true:=decide_eq_true ⟨h1.1,h1.2,h2.1,h2.2,h3⟩
 have hR:∀ v w',(∃ (A:OA) (C:Nat),v = .tuple #[.agg #[.int .i64 r,.int .i64 c,.slice A (tK s).length C],.int .i64 0]∧Gr ah w w' KM 1 A (tK s).length C ((tK s).map (.int .i8)))→Qb r c s w v w':=fun v w' h=>by
  unfold Qb Av Qf
  rw [hg,if_pos rfl,if_pos rfl,if_pos rfl,if_pos rfl]
  exact h
 intro w7 e7
 have c7:=hB.alloc e7
 have a4:=ba.new e7
 have c8:Ch ah w w7:=hC.ag (Ch.alloc e7)
 have c9:w.heap.size<w4.heap.size:=hB.lt
 have d0:w4.heap.size<w7.heap.size:=a4.lt
 generalize w4.heap.size=tb at a4 c9 d0 ⊢
 refine ⟨⟨a4.ok 0 rfl,a4.ok 1 rfl,a4.ok 2 rfl⟩,fun w8 e8=>?_⟩
 have b6:ba w8 tb [.int .i64 r,.int .i64 c,.slice none 0 0] mz:=((a4.set rfl).set rfl).set e8
 have b7:Ch (·=tb) w7 w8:=Ch.KH e8 rfl rfl rfl
 have d1:=c7.af b7 (by omega)
 have d2:Ch ah w w8:=c8.trans b7 (fun i hi he=>by omega)
 obtain ⟨e0,w9,d3,d4,b2,_⟩:=Qy (P:=Tryz.prog) (src:=OY) (dst:=NF) (e:=QK) (w:=w8) s (by kernel_rfl) (by kernel_rfl) (by kernel_rfl)
 have b8:=b6.aa b2
 have d5:=d1.aa b2
 have d6:=d2.ag b2
 have e2:=b6.lt
 have e4:=b8.lt
 have b3:=BF s
 have b9:∀ (j:Nat) (h:j<(tK s).length) (h1:j<s.data.toList.length),(tK s)[j]=IntKind.i8.wrap (s.data.toList[j].toNat:Int):=fun j h h1=>by simp [tK]
 have e5:s.data.toList.length=s.size:=by simp
 generalize tK s=L at hR b3 b9
 refine ⟨_,_,_,w9,d3,fun k x w'=>∃ (j:Nat) (A:OA) (CC:Nat),k=j∧j≤L.length∧x=L.length-j∧ba w' tb [.int .i64 r,.int .i64 c,.slice A j CC] mz∧Gr (·=tb) w9 w' KM 1 A j CC ((L.take j).map (.int .i8)),⟨_,0,none,0,rfl,Nat.zero_le _,rfl,b8,Gr.nil (Ch.refl _ _)⟩,?_⟩
 rintro jk k x d7 ⟨j,A,CC,rfl,hj,rfl,hT,a0⟩
 refine ⟨fun a6=>?_,fun d8=>?_⟩
 ·have a6:j<L.length:=by simp at a6;omega
  have a7:j<s.data.toList.length:=by omega
  refine ⟨⟨by omega,by omega⟩,(d4.af a0.2 (fun i hi hN he=>by have:=hN.1;omega)).at (j:=(j:Int).toNat*1) (v:=NM s.data.toList[j]) (by rw [dw,List.getElem?_map,List.getElem?_eq_getElem a7];rfl) fun p hp=>⟨_,hp,_,_,_,hT.cell 2 rfl,fun e6 c0=>?_⟩⟩
  rw [← b9 j a6 a7] at c0
  obtain ⟨A',C',d9,hr,b4,b5⟩:=a0.next MF OC a6 (by omega) c0 rfl rfl (by omega)
  have a8:=hT.af b5 (fun hN=>by have:=hN.1;omega)
  refine ⟨A',_,C',d9,hr,a8.ok 2 rfl,fun e9 c4=>⟨L.length-(j+1),by omega,j+1,A',C',by rw [ae (by omega) (by omega)];rfl,a6,rfl,a8.set c4,b4.step (Ch.set c4 rfl) (fun i hi=>by omega)⟩⟩
 ·have:j=L.length:=by simp at d8;omega
  subst this
  rw [List.take_length] at a0
  have a2:=d5.af a0.2 (by omega)
  refine ⟨_,_,_,_,_,⟨hT.cell 0 rfl,hT.cell 1 rfl,hT.cell 2 rfl⟩,⟨a2.ok 0 rfl,a2.ok 1 rfl,a2.ok 2 rfl⟩,fun c5 c6=>?_⟩
  have a3:ba c5 w.heap.size [.int .i64 r,.int .i64 c,.slice A L.length CC] mz:=((a2.set rfl).set rfl).set c6
  have a9:Ch (·=w.heap.size) d7 c5:=Ch.KH c6 rfl rfl rfl
  refine ⟨_,_,_,_,_,⟨a3.cell 0 rfl,a3.cell 1 rfl,a3.cell 2 rfl⟩,hR _ _ ⟨A,CC,rfl,(a0.1.af a9 (fun i hi hN he=>by have:=hN.1;omega)).mono (fun i hi hN=>⟨by have:=hN.1;omega,hi⟩),?_⟩⟩
  exact (d6.trans a0.2 (fun i hi he=>by omega)).trans a9 (fun i hi he=>by omega)
abbrev nH:=OA × Nat × List Int
def nw (x:nH):Value := .slice x.1 x.2.2.length x.2.1
def wid (zs:List nH):Nat:=(zs[0]?.map (·.2.2.length)).getD 0
def nl (zs:List nH):Bool:=zs.all fun z=>decide (z.2.2.length=wid zs)
def Aq (zs:List nH) (k:Nat):List Int:=zs.map fun z=>z.2.2.getD k 0
def sj (zs:List nH):List Int:=(List.range (wid zs)).map fun k=>sat (nY (Aq zs k))
def uO (zs:List nH):List Int:=if nl zs then sj zs else []
theorem je {zs:List nH} (h:0<zs.length):wid zs=zs[0].2.2.length:=by unfold wid;rw [List.getElem?_eq_getElem h];rfl
theorem Ds {zs:List nH} {j:Nat} (h:j<zs.length) (hn:zs[j].2.2.length≠wid zs):nl zs=false:=by
 unfold nl;rw [List.all_eq_false];exact ⟨zs[j],List.getElem_mem h,by simpa using hn⟩
theorem tL {zs:List nH} (h:∀ z∈zs,z.2.2.length=wid zs):nl zs=true:=by
 unfold nl;rw [List.all_eq_true];exact fun z hz=>by simpa using h z hz
section
variable {w:World} {o:OA} {cz:Nat} {zs:List nH} {F G:Nat→Prop} {r c:Int} {ov:OA} {ds vs:List Int} {cap cv:Nat}
theorem Nf (hz:Rd w o (zs.map nw) F) (b5:∀ z∈zs,Rd w z.1 (z.2.2.map (.int .i64)) G∧z.2.2.length≤1000000) (hl:zs.length≤1000000) (cz:Nat) :
  Calls Tryz.prog IK #[.slice o zs.length cz] w (bc fun v w'=>∃ (A:OA) (C:Nat),v = .tuple #[.slice A (uO zs).length C,.int .i64 (if nl zs then 0 else 1)]∧Gr ah w w' bd 1 A (uO zs).length C ((uO zs).map (.int .i64))):=by
 refine Nv.calls _ _ _ ?_
 refine ⟨fun h=>?_,fun h=>?_⟩
 ·have h:zs.length=0:=by simpa using h
  have:zs=[]:=List.length_eq_zero_iff.1 h
  subst this
  exact ⟨none,0,rfl,Gr.nil (Ch.refl _ _)⟩
 have h0:0<zs.length:=by simp at h;exact List.length_pos_iff.2 h
 refine ⟨fun k x w'=>w'=w∧∃ j:Nat,k=j∧j≤zs.length∧x=zs.length-j∧∀ z∈zs.take j,z.2.2.length=wid zs,⟨_,rfl,0,rfl,Nat.zero_le _,rfl,fun z hz=>by simp at hz⟩,?_⟩
 rintro jk k x w1 ⟨rfl,j,rfl,hj,rfl,a2⟩
 refine ⟨fun a0=>?_,fun a8=>?_⟩
 ·have a0:j<zs.length:=by simpa using a0
  refine ⟨⟨by omega,by omega⟩,hz.at (j:=(j:Int).toNat*1) (v:=nw zs[j]) (by simp [a0]) fun p hp=>⟨_,_,_,hp,⟨by omega,by omega⟩,hz.Sa (v:=nw zs[0]) (by rw [List.getElem?_map,List.getElem?_eq_getElem h0];rfl) fun p2 a4=>⟨_,_,_,a4,fun a9=>?_,fun b2=>?_⟩⟩⟩
  ·have a9:zs[j].2.2.length≠zs[0].2.2.length:=by simp at a9;omega
   have:=Ds a0 (by rw [je h0];exact a9)
   unfold uO;rw [this]
   exact ⟨none,0,rfl,Gr.nil (Ch.refl _ _)⟩
  ·have b2:zs[j].2.2.length=zs[0].2.2.length:=by simp at b2;omega
   refine ⟨zs.length-(j+1),by omega,rfl,j+1,by rw [ae (by omega) (by omega)];rfl,a0,rfl,fun z hz=>?_⟩
   rw [au zs j a0,List.mem_append] at hz
   rcases hz with hz|hz
   ·exact a2 z hz
   ·rw [List.mem_singleton] at hz;subst hz;rw [je h0];exact b2
 have b9:j=zs.length:=by simp at a8;omega
 subst b9
 rw [List.take_length] at a2
 have a5:=tL a2
 unfold uO
 rw [a5,if_pos rfl,if_pos rfl]
 refine ⟨⟨by omega,by omega⟩,hz.Sa (v:=nw zs[0]) (by rw [List.getElem?_map,List.getElem?_eq_getElem h0];rfl) fun p2 a4=>⟨_,_,_,a4,?_⟩⟩
 rw [← je h0]
 have hL:(sj zs).length=wid zs:=by simp [sj]
 have hw:wid zs≤1000000:=by rw [je h0];exact (b5 _ (List.getElem_mem h0)).2
 have b6:∀ (j:Nat) (h:j<(sj zs).length),(sj zs)[j]=sat (nY (Aq zs j)):=fun j h=>by simp [sj]
 generalize sj zs=L at hL b6 ⊢
 refine ⟨fun A j CC k x w'=>k=j∧j≤L.length∧x=L.length-j∧Gr ah w1 w' bd 1 A j CC ((L.take j).map (.int .i64)),⟨_,rfl,Nat.zero_le _,rfl,Gr.nil (Ch.refl _ _)⟩,?_⟩
 rintro jk A j CC k x w2 ⟨rfl,hj,rfl,hg⟩
 refine ⟨fun a0=>?_,fun a8=>?_⟩
 ·have a0:j<L.length:=by simp at a0;omega
  have hM:(Aq zs j).length=zs.length:=by simp [Aq]
  have b7:∀ (m:Nat) (h:m<(Aq zs j).length) (h1:m<zs.length) (h2:j<zs[m].2.2.length),(Aq zs j)[m]=zs[m].2.2[j]:=fun m h h1 h2=>by simp [Aq,List.getD_eq_getElem?_getD,List.getElem?_eq_getElem h2]
  have a6:=b6 j a0
  generalize Aq zs j=M at hM b7 a6
  refine ⟨fun A m CC k x w'=>k=m∧m≤M.length∧x=M.length-m∧Gr ah w2 w' bd 1 A m CC ((M.take m).map (.int .i64)),⟨_,rfl,Nat.zero_le _,rfl,Gr.nil (Ch.refl _ _)⟩,?_⟩
  rintro jk A2 m CC2 k x w3 ⟨rfl,hm,rfl,a3⟩
  refine ⟨fun a1=>?_,fun b3=>?_⟩
  ·have a1:m<M.length:=by simp at a1;omega
   have a7:m<zs.length:=by omega
   have b8:j<zs[m].2.2.length:=by rw [a2 _ (List.getElem_mem a7)];omega
   refine ⟨⟨by omega,by omega⟩,((hz.aa hg.2).aa a3.2).at (j:=(m:Int).toNat*1) (v:=nw zs[m]) (by simp [a7]) fun p hp=>⟨_,_,_,hp,⟨by omega,by omega⟩,(((b5 _ (List.getElem_mem a7)).1.aa hg.2).aa a3.2).at (j:=(j:Int).toNat*1) (v := .int .i64 zs[m].2.2[j]) (by simp [b8]) fun p2 a4=>⟨_,a4,fun w4 e4=>?_⟩⟩⟩
   rw [← b7 m a1 a7 b8] at e4
   obtain ⟨A',C',w9,hr,b4,_⟩:=a3.next bi ay a1 (by omega) e4 rfl rfl (by omega)
   exact ⟨A',_,C',w9,hr,M.length-(m+1),by omega,by rw [ae (by omega) (by omega)];rfl,a1,rfl,b4⟩
  ·have:m=M.length:=by simp at b3;omega
   subst this
   rw [List.take_length] at a3
   refine ab (wD (c:=CC2) a3.rd (by omega)) ?_
   rintro v w6 ⟨rfl,rfl⟩
   refine ⟨_,rfl,?_⟩
   refine ab (oL _ _) ?_
   rintro v w7 ⟨rfl,rfl⟩
   refine ⟨_,rfl,fun w8 e8=>?_⟩
   rw [← a6] at e8
   obtain ⟨A',C',w9,hr,b4,_⟩:=(hg.aa a3.2).next bi ay a0 (by omega) e8 rfl rfl (by omega)
   exact ⟨A',_,C',w9,hr,L.length-(j+1),by omega,by rw [ae (by omega) (by omega)];rfl,a0,rfl,b4⟩
 ·have:j=L.length:=by simp at a8;omega
  subst this
  rw [List.take_length] at hg
  exact ⟨A,CC,rfl,hg⟩
theorem Kq (hz:Rd w o (zs.map nw) F) (b7:∀ z∈zs,Rd w z.1 (z.2.2.map (.int .i64)) G∧z.2.2.length≤1000000) (hl:zs.length≤1000000) (cz:Nat) :
  Calls Tryz.prog uX #[.slice o zs.length cz] w (bc fun v w'=>∃ (A:OA) (C:Nat),v = .tuple #[.slice A (uO zs).length C,.bool (nl zs)]∧Gr ah w w' bd 1 A (uO zs).length C ((uO zs).map (.int .i64))):=by
 refine yG.calls _ _ _ ?_
 intro w0 e0
 have c4:Gr ah w w0 bd 1 (some ⟨w.heap.size,0,none⟩) 0 0 []:=Gr.nG (Ch.refl _ _) e0
 have a9:Ch ah w w0:=Ch.alloc e0
 refine ⟨fun k x w'=>Ch ah w0 w'∧∃ j:Nat,k=j∧j≤zs.length∧x=zs.length-j∧∀ z∈zs.take j,z.2.2.length=wid zs,⟨_,Ch.refl _ _,0,rfl,Nat.zero_le _,rfl,fun z hz=>by simp at hz⟩,?_⟩
 rintro jk k x w1 ⟨a3,j,rfl,hj,rfl,a2⟩
 refine ⟨fun a0=>?_,fun b2=>?_⟩
 ·have a0:j<zs.length:=by simpa using a0
  have h0:0<zs.length:=by omega
  refine ⟨fun w'=>Ch ah w0 w',fun w3 e3=>⟨a3.ag (Ch.drew e3),⟨by omega,by omega⟩,Rd.keeps (j:=j) (S:=fun w'=>Ch ah w0 w') (fun w2 h2=>(hz.aa a9).aa h2) a3 a0 fun p hp=>⟨_,_,_,fun w' h=>by rw [dw];exact hp w' h,⟨by omega,by omega⟩,
   Rd.keeps (j:=0) (S:=fun w'=>Ch ah w0 w') (fun w2 h2=>(hz.aa a9).aa h2) a3 h0 fun p2 a5=>⟨_,_,_,fun w' h=>by have:=a5 w' h;rw [cm] at this;exact this,fun b3=>?_,fun b4=>?_⟩⟩⟩⟩
  ·have b3:zs[j].2.2.length≠zs[0].2.2.length:=by simp at b3;omega
   have:=Ds a0 (by rw [je h0];exact b3)
   unfold uO;rw [this]
   exact ⟨none,0,rfl,Gr.nil ((a9.ag a3).ag (Ch.drew e3))⟩
  ·have b4:zs[j].2.2.length=zs[0].2.2.length:=by simp at b4;omega
   refine ⟨zs.length-(j+1),by omega,a3.ag (Ch.drew e3),j+1,by rw [ae (by omega) (by omega)];rfl,a0,rfl,fun z hz=>?_⟩
   rw [au zs j a0,List.mem_append] at hz
   rcases hz with hz|hz
   ·exact a2 z hz
   ·rw [List.mem_singleton] at hz;subst hz;rw [je h0];exact b4
 have c5:j=zs.length:=by simp at b2;omega
 subst c5
 rw [List.take_length] at a2
 have a6:=tL a2
 unfold uO
 rw [a6,if_pos rfl]
 have hL:(sj zs).length=wid zs:=by simp [sj]
 have hw:wid zs≤1000000:=by
  by_cases h0:0<zs.length
  ·rw [je h0];exact (b7 _ (List.getElem_mem h0)).2
  ·unfold wid;rw [List.getElem?_eq_none (by omega)];simp
 have c6:zs.length=0→wid zs=0:=fun h=>by unfold wid;rw [List.getElem?_eq_none (by omega)];rfl
 have b8:∀ (j:Nat) (h:j<(sj zs).length),(sj zs)[j]=sat (nY (Aq zs j)):=fun j h=>by simp [sj]
 generalize sj zs=L at hL b8 ⊢
 refine ⟨fun A j CC k x w'=>k=j∧j≤L.length∧x=L.length-j∧Gr ah w w' bd 1 A j CC ((L.take j).map (.int .i64)),⟨_,rfl,Nat.zero_le _,rfl,c4.aa a3⟩,?_⟩
 rintro jk A j CC k x w2 ⟨rfl,hj,rfl,hg⟩
 have fin:j=L.length→∃ (A':OA) (C:Nat),Value.tuple #[.slice A j CC,.bool true] = .tuple #[.slice A' L.length C,.bool true]∧Gr ah w w2 bd 1 A' L.length C (L.map (.int .i64)):=by
  rintro rfl
  rw [List.take_length] at hg
  exact ⟨A,CC,rfl,hg⟩
 refine ⟨fun h0=>?_,fun h0=>fin (by have:=dQf h0;have:=c6 (by omega);omega)⟩
 have h0:0<zs.length:=by have:=dQt h0;omega
 refine ⟨⟨by omega,by omega⟩,(hz.aa hg.2).Sa (v:=nw zs[0]) (by rw [List.getElem?_map,List.getElem?_eq_getElem h0];rfl) fun p2 a5=>⟨_,_,_,a5,?_⟩⟩
 rw [← je h0]
 refine ⟨fun a0=>?_,fun b2=>fin (by simp at b2;omega)⟩
 have a0:j<L.length:=by simp at a0;omega
 intro w7 e7
 have hM:(Aq zs j).length=zs.length:=by simp [Aq]
 have b9:∀ (m:Nat) (h:m<(Aq zs j).length) (h1:m<zs.length) (h2:j<zs[m].2.2.length),(Aq zs j)[m]=zs[m].2.2[j]:=fun m h h1 h2=>by simp [Aq,List.getD_eq_getElem?_getD,List.getElem?_eq_getElem h2]
 have a7:=b8 j a0
 generalize Aq zs j=M at hM b9 a7
 refine ⟨fun A m CC k x w'=>k=m∧m≤M.length∧x=M.length-m∧Gr ah w2 w' bd 1 A m CC ((M.take m).map (.int .i64)),⟨_,rfl,Nat.zero_le _,rfl,Gr.nG (Ch.refl _ _) e7⟩,?_⟩
 rintro jk A2 m CC2 k x w3 ⟨rfl,hm,rfl,a4⟩
 refine ⟨fun a1=>?_,fun b5=>?_⟩
 ·have a1:m<M.length:=by simp at a1;omega
  have a8:m<zs.length:=by omega
  have c0:j<zs[m].2.2.length:=by rw [a2 _ (List.getElem_mem a8)];omega
  refine ⟨⟨by omega,by omega⟩,((hz.aa hg.2).aa a4.2).at (j:=(m:Int).toNat*1) (v:=nw zs[m]) (by simp [a8]) fun p hp=>⟨_,_,_,hp,⟨by omega,by omega⟩,(((b7 _ (List.getElem_mem a8)).1.aa hg.2).aa a4.2).at (j:=(j:Int).toNat*1) (v := .int .i64 zs[m].2.2[j]) (by simp [c0]) fun p2 a5=>⟨_,a5,fun w4 e4=>?_⟩⟩⟩
  rw [← b9 m a1 a8 c0] at e4
  obtain ⟨A',C',w9,hr,b6,_⟩:=a4.next bi ay a1 (by omega) e4 rfl rfl (by omega)
  exact ⟨A',_,C',w9,hr,M.length-(m+1),by omega,by rw [ae (by omega) (by omega)];rfl,a1,rfl,b6⟩
 ·have:m=M.length:=by simp at b5;omega
  subst this
  rw [List.take_length] at a4
  refine ab (GK a4.rd (by omega) CC2) ?_
  rintro v w6 ⟨rfl,rfl⟩
  refine ⟨_,rfl,?_⟩
  refine ab (ni _ _) ?_
  rintro v w7 ⟨rfl,rfl⟩
  refine ⟨_,rfl,fun w8 e8=>?_⟩
  rw [← a7] at e8
  obtain ⟨A',C',w9,hr,b6,_⟩:=(hg.aa a4.2).next bi ay a0 (by omega) e8 rfl rfl (by omega)
  exact ⟨A',_,C',w9,hr,L.length-(j+1),by omega,by rw [ae (by omega) (by omega)];rfl,a0,rfl,b6⟩
end
end Go.Proofs.YtkbikekbaboclaaGreat.ft
