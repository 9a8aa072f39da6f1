import Derived.Test.YtkbikekbaboclaaGreatVc
import Derived.Test.YtkbikekbaboclaaGreatH
import Derived.Test.YtkbikekbaboclaaGreatProg
import Derived.KernelRfl
set_option linter.unusedVariables false
set_option maxRecDepth 100000
namespace Go.Proofs.YtkbikekbaboclaaGreat.Vc
open Go Go.Proofs V Vm
open Go.IntKind (i64)
variable {w:World}{R:Value→World→Prop}
theorem MD.calls (a b c:Int)(h:
 B8 a b (
 B b R w) (
 Br (decide (a>c)) (
 B c R w) (
 B a R w))):Ca 153 #[(.int .i64 a),(.int .i64 b),(.int .i64 c)] w R:=
 cV Tryz.func153 (.c O (.c O O)) h
theorem Qm.calls (a:Int)(h:
 B9 a (-32767) 32767 w 153 fun b c=>
 B c R b):Ca 115 #[(.int .i64 a)] w R:=
 cV Tryz.func115 O h
theorem MQ.calls (b a:Int)(h:
 Br (decide (a≤(0:Int))) (
 B b R w) (
 C3 a 63 (
 B 0 R w) (
 C w fun d c=>
 0≤a∧
 0≤(i64.wrap (a-1))∧
 B (i64.wrap ((Int.fdiv b (2 ^ (min a.toNat IntKind.i64.bits)))+(Go.bits .and .i64 (Int.fdiv b (2 ^ (min (i64.wrap (a-1)).toNat IntKind.i64.bits))) 1))) R c))):Ca 160 #[(.int .i64 b),(.int .i64 a)] w R:=
 cV Tryz.func160 (.c O (.c O (T 0 10 (.fin O)))) h
theorem QB.calls (a b c:Int)(h:
 D2 a b w 189 fun d e=>
 D2 e c d 160 fun f g=>
 B0 g f 115 fun i j=>
 B j R i):Ca 187 #[(.int .i64 a),(.int .i64 b),(.int .i64 c)] w R:=
 cV Tryz.func187 O h
theorem OK.calls (a:Int)(h:
 Br (decide (a≤(0:Int))) (
 B 0 R w) (
 (2:Int)≠0∧
 ∃ c:Int→Int→Nat→World→Prop,(∃ f:Nat,c a (i64.wrap ((i64.wrap (Int.tdiv a 2))+(Go.bits .and .i64 a 1))) f w)∧
 C0 c fun j d b g e=>
 B8 b d (
 b≠0∧
 (2:Int)≠0∧
 Z g fun i=>
 c b (i64.wrap (Int.tdiv (i64.wrap (b+(i64.wrap (Int.tdiv a b)))) 2)) i e) (
 B d R e))):Ca 203 #[(.int .i64 a)] w R:=
 cV Tryz.func203 (.c O (.lp ([I 3,I 4]++nn 13 10) (.c O O))) h
theorem QJ.calls (a b:Int)(h:
 P b 0 (
 B 0 R w) (
 Br (b==(-1:Int)) (
 B (if (i64.wrap (0-(i64.wrap (a+1))))>(i64.wrap (0-a)) then (i64.wrap (0-(i64.wrap (a+1)))) else (i64.wrap (0-a))) R w) (
 b≠0∧
 b≠0∧
 Br ((Int.tmod a b) != (0:Int)) (
 Br (!((decide (a<(0:Int)))==(decide (b<(0:Int))))) (
 B (i64.wrap ((i64.wrap (Int.tdiv a b))-1)) R w) (
 B (i64.wrap (Int.tdiv a b)) R w)) (
 B (i64.wrap (Int.tdiv a b)) R w)))):Ca 200 #[(.int .i64 a),(.int .i64 b)] w R:=
 cV Tryz.func200 (.c O (.c O (.at_ 6 4 (.c O O) (.k O)))) h
theorem JJ.calls (a b:Int)(h:
 B9 a (-1073741824) 1073741824 w 153 fun c d=>
 B9 b (-1073741824) 1073741824 c 153 fun e f=>
 B (i64.wrap (d*f)) R e):Ca 189 #[(.int .i64 a),(.int .i64 b)] w R:=
 cV Tryz.func189 O h
theorem QT.calls (d:OA)(a g:Nat)(h:
 E5 w 0 fun e=>
 C0 e fun p f b i c=>
 G b a (
 V b a d c 1 fun j=>
 B9 j (-2305843009213693952) 2305843009213693952 c 153 fun k l=>
 B9 (i64.wrap (f+l)) (-4611686018427387904) 4611686018427387904 k 153 fun m n=>
 Z i fun o=>
 e n (i64.wrap (b+1)) o m) (
 B f R c)):Ca 125 #[(.slice d a g)] w R:=
 cV Tryz.func125 (.lp ([I 3,N 5,I 8]++nn 9 9) (.c O O)) h
theorem PP.calls (b:OA)(a c:Nat)(h:
 E0 a c b w 125 fun d e=>
 D2 e (a:Int) d 200 fun f g=>
 B g R f):Ca 204 #[(.slice b a c)] w R:=
 cV Tryz.func204 O h
theorem QU.calls (e:OA)(a m:Nat)(f:OA)(b n:Nat)(h:
 E5 w 0 fun g=>
 C0 g fun v i c o j=>
 Br (decide (c<(if (b:Int)<(a:Int) then (b:Int) else (a:Int)))) (
 C j fun d p=>
 B3 c a e d fun q=>
 B3 c b f d fun r=>
 D2 q r p 189 fun k s=>
 d k∧
 B9 (i64.wrap (i+s)) (-4611686018427387904) 4611686018427387904 k 153 fun l t=>
 d l∧
 Z o fun u=>
 g t (i64.wrap (c+1)) u l) (
 B i R j)):Ca 161 #[(.slice e a m),(.slice f b n)] w R:=
 cV Tryz.func161 (.lp ([I 5,N 6,I 12]++nn 13 15) (.c (T 0 9 (L 9 (.tk 10 (L 11 (.tk 12 (.fin O)))))) O)) h
theorem pR.calls (a b c:Int)(h:
 B8 a b (
 B b R w) (
 Br (decide (a>c)) (
 B c R w) (
 B a R w))):Ca 167 #[(.int .i64 a),(.int .i64 b),(.int .i64 c)] w R:=
 cV Tryz.func167 (.c O (.c O O)) h
theorem rF.calls (a:Int)(h:
 B9 a (-32767) 32767 w 167 fun b c=>
 B c R b):Ca 132 #[(.int .i64 a)] w R:=
 cV Tryz.func132 O h
theorem xL.calls (f b:Int)(h:
 C3 b 63 (
 B 0 R w) (
 ∃ c:Int→Int→Int→Nat→World→Prop,(∃ j:Nat,c f 0 0 j w)∧
 ∀ (l:Nat→Value) (a:Int) (g:Int) (d:Int),∀ (i:Nat) (e:World),c a g d i e→
 B8 d b (
 (2:Int)≠0∧
 Z i fun k=>
 c (i64.wrap (Int.tdiv (i64.wrap (a-(Go.bits .and .i64 a 1))) 2)) (Go.bits .and .i64 a 1) (i64.wrap (d+1)) k e) (
 B (i64.wrap (a+g)) R e))):Ca 139 #[(.int .i64 f),(.int .i64 b)] w R:=
 cV Tryz.func139 (.c O (.lp ([I 0,I 5,I 6]++nn 9 11) (.c O O))) h
theorem zI.calls (a b c:Int)(h:
 B9 a (-1073741824) 1073741824 w 167 fun d e=>
 B9 b (-1073741824) 1073741824 d 167 fun f g=>
 D2 (i64.wrap (e*g)) c f 139 fun i j=>
 B0 j i 132 fun k l=>
 B l R k):Ca 171 #[(.int .i64 a),(.int .i64 b),(.int .i64 c)] w R:=
 cV Tryz.func171 O h
theorem yT.calls (g:Int)(h:
 E5 w 31 fun d=>
 C0 d fun i b a f e=>
 C3 a 0 (
 0≤a∧
 Br (decide ((i64.wrap (b+(i64.wrap (1*2 ^ (min a.toNat IntKind.i64.bits)))))≤(3037000499:Int))) (
 Br (decide ((i64.wrap ((i64.wrap (b+(i64.wrap (1*2 ^ (min a.toNat IntKind.i64.bits)))))*(i64.wrap (b+(i64.wrap (1*2 ^ (min a.toNat IntKind.i64.bits)))))))≤g)) (
 Z f fun c=>
 d (i64.wrap (b+(i64.wrap (1*2 ^ (min a.toNat IntKind.i64.bits))))) (i64.wrap (a-1)) c e) (
 Z f fun c=>
 d b (i64.wrap (a-1)) c e)) (
 Z f fun c=>
 d b (i64.wrap (a-1)) c e)) (
 B b R e)):Ca 193 #[(.int .i64 g)] w R:=
 cV Tryz.func193 (.lp ([I 3,I 4]++nn 5 19) (.c (.at_ 6 2 (.c O O) (.k O)) O)) h
theorem Ae.calls (b a:Int)(h:
 P a 0 (
 B 0 R w) (
 Br (a==(-1:Int)) (
 Br (b==(-9223372036854775808:Int)) (
 B 9223372036854775807 R w) (
 B (i64.wrap (0-b)) R w)) (
 a≠0∧
 a≠0∧
 Br ((Int.tmod b a) != (0:Int)) (
 Br (!((decide (b<(0:Int)))==(decide (a<(0:Int))))) (
 B (i64.wrap ((i64.wrap (Int.tdiv b a))-1)) R w) (
 B (i64.wrap (Int.tdiv b a)) R w)) (
 B (i64.wrap (Int.tdiv b a)) R w)))):Ca 194 #[(.int .i64 b),(.int .i64 a)] w R:=
 cV Tryz.func194 (.c O (.c (.c O O) (.at_ 8 4 (.c O O) (.k O)))) h
end Go.Proofs.YtkbikekbaboclaaGreat.Vc
set_option linter.unusedVariables false
set_option maxRecDepth 100000
namespace Go.Proofs.YtkbikekbaboclaaGreat.Vc
open Go Go.Proofs V Vm
open Go.IntKind (i64)
variable {w:World}{R:Value→World→Prop}
theorem Jg.calls (a:Int)(h:
 C3 a 1 (
 A1 (decide (a≤(64:Int))) R w) (
 F R w)):Ca 196 #[(.int .i64 a)] w R:=
 cV Tryz.func196 (.at_ 1 2 O O) h
theorem MW.calls (c d:Int)(e:OA)(f g:Nat)(h:
 M5 c d f g e w 213 fun i=>
 D w.heap.size i 0 fun j=>
 H4 j i 196 fun b k=>
 Br k (
 D w.heap.size b 1 fun l=>
 H4 l b 196 fun a m=>
 Br m (
 E w.heap.size a 2 fun q n r=>
 D w.heap.size a 0 fun o=>
 D w.heap.size a 1 fun p=>
 A1 ((n:Int)==(i64.wrap (o*p))) R a) (
 F R a)) (
 F R b)):Ca 182 #[(.agg #[(.int .i64 c),(.int .i64 d),(.slice e f g)])] w R:=
 cV Tryz.func182 (.at_ 1 3 (.at_ 1 8 O O) O) h
theorem Qw.calls (c d:Int)(g:ByteArray)(h:
 I6 0 0 w fun t=>
 H4 c t 196 fun j u=>
 U u (
 L9 0 w.heap.size 0 j fun k=>
 D4 w.heap.size k fun v x y z a0=>
 N2 v x 1 z a0 y R k) (
 H4 d j 196 fun a a1=>
 U a1 (
 L9 0 w.heap.size 0 a fun l=>
 D4 w.heap.size l fun a2 a3 a4 a5 a6=>
 N2 a2 a3 1 a5 a6 a4 R l) (
 Br ((g.size:Int) != (i64.wrap (c*d))) (
 L9 0 w.heap.size 0 a fun m=>
 D4 w.heap.size m fun a7 a8 a9 aA aB=>
 N2 a7 a8 5 aA aB a9 R m) (
 I6 0 0 a fun e=>
 (dr e ⟨a.heap.size,0,none⟩∧dr e ⟨a.heap.size,1,none⟩∧dr e ⟨a.heap.size,2,none⟩)∧∀ n:World,n=(((e.setCell ⟨a.heap.size,0,none⟩ (.int .i64 c)).setCell ⟨a.heap.size,1,none⟩ (.int .i64 d)).setCell ⟨a.heap.size,2,none⟩ (.slice none 0 0))→
 ∃ (o:OA) (i aC:Nat),∃ p:World,(convert 9 85 (.string g)).run Tryz.prog n = .ok (.slice o i aC) p∧
 A2 p fun aD aY f aE b=>
 G f i (
 H f i o fun aF=>
 ∃ q:Int,b.cell? (aF.add (f.toNat*1))=some (.int .u8 q)∧
 E a.heap.size b 2 fun aG aH aI=>
 ∀ r:World,r=b.alloc (.cells #[(.int .i8 (IntKind.i8.wrap q))] 235 (0,0))→
 M aH aI b.heap.size 1 aG r 211 fun aJ aK aL aM=>
 A9 a.heap.size aK aL aJ aM 2 fun aN=>
 X f aD aE aN) (
 D4 a.heap.size b fun aO aP aQ aR aS=>
 K0 aO aP w.heap.size aR aS aQ b fun s=>
 D4 w.heap.size s fun aT aU aV aW aX=>
 N2 aT aU 0 aW aX aV R s))))):Ca 181 #[(.int .i64 c),(.int .i64 d),(.string g)] w R:=
 cV Tryz.func181 (.at_ 1 3 (.k O) (.c O (.c O (.lp ([N 10,I 35]++nn 36 11) (.c O O))))) h
theorem DI.calls (g i:Int)(j:OA)(k l:Nat)(a:Int)(h:
 M5 g i k l j w 213 fun m=>
 D4 w.heap.size m fun u v x y z=>
 P3 u v y z x m 182 fun b a0=>
 U a0 (
 D3 0 R b) (
 W a 0 (
 D3 0 R b) (
 D w.heap.size b 0 fun a1=>
 I3 a a1 (
 D3 0 R b) (
 E w.heap.size b 2 fun n a5 o=>
 D w.heap.size b 1 fun c=>
 D w.heap.size b 1 fun e=>
 (0≤(i64.wrap (a*c))∧(i64.wrap (a*c))≤(i64.wrap ((i64.wrap (a+1))*e))∧(i64.wrap ((i64.wrap (a+1))*e))≤(o:Int))∧
 D0 b 0 fun p=>
 A7 p fun a6 q r s d a2 f=>
 Br (decide (d<((((i64.wrap ((i64.wrap (a+1))*e)).toNat-(i64.wrap (a*c)).toNat):Nat):Int))) (
 (0≤d∧d<((((i64.wrap ((i64.wrap (a+1))*e)).toNat-(i64.wrap (a*c)).toNat):Nat):Int))∧jr (if o=(i64.wrap (a*c)).toNat then n else n.map (·.add ((i64.wrap (a*c)).toNat*1))) fun a3=>
 ∃ t:Int,f.cell? (a3.add (d.toNat*1))=some (.int .i8 t)∧
 Q (i64.wrap t) f fun a4=>
 B5 d r s f.heap.size 1 a2 q p a4 35 1) (
 A0 r s q R f))))):Ca 152 #[(.agg #[(.int .i64 g),(.int .i64 i),(.slice j k l)]),(.int .i64 a)] w R:=
 cV Tryz.func152 (.at_ 1 3 (.k O) (.at_ 1 7 (.k O) (.c O (.lp ([S 5,N 7,I 34]++nn 35 9) (.c O O))))) h
theorem BI.calls (e f:Int)(g:OA)(i j:Nat)(k:OA)(b l:Nat)(m:Int)(h:
 M5 e f i j g w 213 fun n=>
 D4 w.heap.size n fun t u v x y=>
 P3 t u x y v n 182 fun a z=>
 U z (
 K6 1 0 R a) (
 D w.heap.size a 1 fun a0=>
 Br ((b:Int) != a0) (
 K6 1 0 R a) (
 D w.heap.size a 0 fun a1=>
 D0 a 0 fun o=>
 A7 o fun aI p q r c a2 d=>
 B8 c a1 (
 D4 w.heap.size d fun a3 a4 a5 a6 a7=>
 O2 a3 a4 c a6 a7 a5 d fun a8 a9 aA aB=>
 N1 aA aB b l a9 k a8 161 fun aC aD=>
 D2 aD m aC 160 fun aE aF=>
 B0 aF aE 115 fun s aG=>
 Q aG s fun aH=>
 B5 c q r s.heap.size 1 a2 p o aH 35 1) (
 R (.tuple #[(.slice p q r),(.int .i64 0)]) d)))):Ca 184 #[(.agg #[(.int .i64 e),(.int .i64 f),(.slice g i j)]),(.slice k b l),(.int .i64 m)] w R:=
 cV Tryz.func184 (.at_ 1 3 (.k O) (.c O (.lp ([S 8,N 9,I 22]++nn 23 14) (.c O O)))) h
theorem Nv.calls (c:OA)(a t:Nat)(h:
 F1 a (
 K6 0 0 R w) (
 A2 w fun u i e v b=>
 G e a (
 H e a c fun x=>
 C5 x e b 1 fun aE y aF=>
 F9 a c fun z=>
 H5 z b fun aG a0=>
 E7 y a0 (
 K6 1 0 R b) (
 X e u v b)) (
 F9 a c fun a1=>
 H5 a1 b fun aH a2=>
 D0 b 0 fun j=>
 A7 j fun i k l m g a3 n=>
 G g a2 (
 D0 n 0 fun o=>
 A7 o fun i p q r f a4 d=>
 G f a (
 H f a c fun a5=>
 C5 a5 f d 1 fun a6 a7 aI=>
 V g a7 a6 d 1 fun a8=>
 Q a8 d fun a9=>
 B5 f q r d.heap.size 1 a4 p o a9 35 1) (
 E0 q r p d 125 fun aA aB=>
 B0 aB aA 115 fun s aC=>
 Q aC s fun aD=>
 B5 g l m s.heap.size 1 a3 k j aD 35 1)) (
 R (.tuple #[(.slice k l m),(.int .i64 0)]) n)))):Ca 186 #[(.slice c a t)] w R:=
 cV Tryz.func186 (.c O (.lp ([N 2,N 3,N 5,I 16]++nn 17 11) (.c (.c O O) (.lp ([S 6,N 7,N 8,N 10,I 32]++nn 33 23) (.c (.lp ([S 8,N 10,I 37]++nn 38 11) (.c O O)) O))))) h
theorem yG.calls (b:OA)(a v:Nat)(h:
 A5 w 3 fun x=>
 A2 x fun y l e z m=>
 G e a (
 C m fun n o=>
 H e a b fun a0=>
 H6 a0 e n fun aI a1 aJ=>
 F9 a b fun a2=>
 Q2 a2 n fun aK a3=>
 E7 a1 a3 (
 R (.tuple #[(.slice none 0 0),(.bool false)]) o) (
 X e y z o)) (
 D8 w.heap.size m 0 fun p=>
 A7 p fun l g i j k a4 c=>
 G5 a 0 (
 F9 a b fun a5=>
 H5 a5 c fun aL a6=>
 G k a6 (
 A5 c 3 fun a7=>
 D8 c.heap.size a7 0 fun q=>
 A7 q fun l r s t f a8 d=>
 G f a (
 H f a b fun a9=>
 C5 a9 f d 1 fun aA aB aM=>
 V k aB aA d 1 fun aC=>
 Q aC d fun aD=>
 B5 f s t d.heap.size 1 a8 r q aD 35 1) (
 E0 s t r d 173 fun aE aF=>
 B0 aF aE 132 fun u aG=>
 Q aG u fun aH=>
 B5 k i j u.heap.size 1 a4 g p aH 35 1)) (
 R (.tuple #[(.slice g i j),(.bool true)]) c)) (
 R (.tuple #[(.slice g i j),(.bool true)]) c))):Ca 170 #[(.slice b a v)] w R:=
 cV Tryz.func170 (.lp ([N 2,N 3,I 5]++nn 10 16) (.c (T 0 10 (.fin (.c O O))) (.lp ([S 4,I 6,N 7,N 8]++nn 26 36) (.at_ 8 3 (.c (.lp ([S 7,I 8]++nn 40 16) (.c O O)) O) (.k O))))) h
theorem zW.calls (d:OA)(a g:Nat)(h:
 E5 w 0 fun e=>
 C0 e fun p f b i c=>
 G b a (
 V b a d c 1 fun j=>
 B9 j (-2305843009213693952) 2305843009213693952 c 167 fun k l=>
 B9 (i64.wrap (f+l)) (-4611686018427387904) 4611686018427387904 k 167 fun m n=>
 Z i fun o=>
 e n (i64.wrap (b+1)) o m) (
 B f R c)):Ca 173 #[(.slice d a g)] w R:=
 cV Tryz.func173 (.lp ([I 3,I 4]++nn 5 14) (.c O O)) h
theorem Ab.calls (k:OA)(c q:Nat)(l:OA)(d r:Nat)(h:
 A5 w 3 fun s=>
 D8 w.heap.size s 0 fun m=>
 A7 m fun a7 e f g b t i=>
 G b c (
 G b d (
 C i fun a u=>
 B3 b c k a fun v=>
 B3 b d l a fun x=>
 B9 v (-1073741824) 1073741824 u 167 fun n y=>
 a n∧
 B9 x (-1073741824) 1073741824 n 167 fun j z=>
 a j∧
 Q (i64.wrap (y*z)) j fun o=>
 a o∧
 M f g j.heap.size 1 e o 35 fun a0 a1 a2 p=>
 a p∧
 F3 b t a1 a2 a0 m p) (
 E0 f g e i 173 fun a3 a4=>
 B a4 R a3)) (
 E0 f g e i 173 fun a5 a6=>
 B a6 R a5)):Ca 140 #[(.slice k c q),(.slice l d r)] w R:=
 cV Tryz.func140 (.lp ([S 5,I 6]++nn 8 26) (.at_ 3 4 (.c (T 0 5 (T 6 4 (L 5 (L 10 (.tk 11 (L 12 (L 13 (.tk 14 (.fin O))))))))) O) (.k O))) h
end Go.Proofs.YtkbikekbaboclaaGreat.Vc
set_option linter.unusedVariables false
set_option maxRecDepth 100000
namespace Go.Proofs.YtkbikekbaboclaaGreat.Vc
open Go Go.Proofs V Vm
open Go.IntKind (i64)
variable {w:World}{R:Value→World→Prop}
theorem OJ.calls (c:Int)(h:
 Calls Tryz.prog 199 #[] w (bc fun y a=>∃ d e f g i j k l m n o p q r s t u:Int,y=(.agg #[(.int .i64 d),(.int .i64 e),(.int .i64 f),(.int .i64 g),(.int .i64 i),(.int .i64 j),(.int .i64 k),(.int .i64 l),(.int .i64 m),(.int .i64 n),(.int .i64 o),(.int .i64 p),(.int .i64 q),(.int .i64 r),(.int .i64 s),(.int .i64 t),(.int .i64 u)])∧
 O0 0 a fun z=>
 O1 d e f g i j k l m n o p q r s t u a.heap.size z fun a0=>
 D2 c 32 a0 200 fun a1 a2=>
 B9 a2 (-8) 8 a1 153 fun v b=>
 (0≤(i64.wrap (b+8))∧(i64.wrap (b+8))<(17:Int))∧
 ∃ x:Int,v.cell? ((⟨a.heap.size,0,none⟩:Addr).add ((i64.wrap (b+8)).toNat*1))=some (.int .i64 x)∧
 B x R v)):Ca 188 #[(.int .i64 c)] w R:=
 cV Tryz.func188 O h
theorem Nn.calls (e:OA)(d m:Nat)(f:OA)(a n:Nat)(h:
 E7 d a (
 D3 0 R w) (
 D0 w 0 fun g=>
 A7 g fun v i j k b o c=>
 G b a (
 V b a f c 1 fun p=>
 V b d e c 1 fun q=>
 B0 q c 188 fun r s=>
 B9 p s 8 r 187 fun l t=>
 Q t l fun u=>
 B5 b j k l.heap.size 1 o i g u 35 1) (
 A0 j k i R c))):Ca 159 #[(.slice e d m),(.slice f a n)] w R:=
 cV Tryz.func159 (.c O (.lp ([S 5,N 6,N 7,I 15]++nn 16 15) (.c O O))) h
theorem Na.calls (h:
 O0 0 w fun t=>
 O1 5 8 12 19 31 47 69 97 128 159 187 209 225 237 244 248 251 w.heap.size t fun a=>
 ∃ b c d e f g i j k l m n o p q r s:Int,(a.cell? ⟨w.heap.size,0,none⟩=some (.int .i64 b)∧a.cell? ⟨w.heap.size,1,none⟩=some (.int .i64 c)∧a.cell? ⟨w.heap.size,2,none⟩=some (.int .i64 d)∧a.cell? ⟨w.heap.size,3,none⟩=some (.int .i64 e)∧a.cell? ⟨w.heap.size,4,none⟩=some (.int .i64 f)∧a.cell? ⟨w.heap.size,5,none⟩=some (.int .i64 g)∧a.cell? ⟨w.heap.size,6,none⟩=some (.int .i64 i)∧a.cell? ⟨w.heap.size,7,none⟩=some (.int .i64 j)∧a.cell? ⟨w.heap.size,8,none⟩=some (.int .i64 k)∧a.cell? ⟨w.heap.size,9,none⟩=some (.int .i64 l)∧a.cell? ⟨w.heap.size,10,none⟩=some (.int .i64 m)∧a.cell? ⟨w.heap.size,11,none⟩=some (.int .i64 n)∧a.cell? ⟨w.heap.size,12,none⟩=some (.int .i64 o)∧a.cell? ⟨w.heap.size,13,none⟩=some (.int .i64 p)∧a.cell? ⟨w.heap.size,14,none⟩=some (.int .i64 q)∧a.cell? ⟨w.heap.size,15,none⟩=some (.int .i64 r)∧a.cell? ⟨w.heap.size,16,none⟩=some (.int .i64 s))∧
 R (.agg #[(.int .i64 b),(.int .i64 c),(.int .i64 d),(.int .i64 e),(.int .i64 f),(.int .i64 g),(.int .i64 i),(.int .i64 j),(.int .i64 k),(.int .i64 l),(.int .i64 m),(.int .i64 n),(.int .i64 o),(.int .i64 p),(.int .i64 q),(.int .i64 r),(.int .i64 s)]) a):Ca 199 #[] w R:=
 cV Tryz.func199 O h
theorem yK.calls (b:Int)(h:
 O0 0 w fun e=>
 O1 5 8 12 19 31 47 69 97 128 159 187 209 225 237 244 248 251 w.heap.size e fun f=>
 B9 b (-100000) 100000 f 167 fun g i=>
 D2 i 32 g 194 fun j k=>
 B9 (i64.wrap (k+8)) 0 16 j 167 fun c a=>
 (0≤a∧a<(17:Int))∧
 ∃ d:Int,c.cell? ((⟨w.heap.size,0,none⟩:Addr).add (a.toNat*1))=some (.int .i64 d)∧
 B d R c):Ca 172 #[(.int .i64 b)] w R:=
 cV Tryz.func172 O h
theorem wO.calls (k:OA)(d q:Nat)(l:OA)(b r:Nat)(h:
 A5 w 3 fun s=>
 D8 w.heap.size s 0 fun m=>
 A7 m fun a3 e f g c t i=>
 Br ((d:Int)==(b:Int)) (
 G c b (
 C i fun a u=>
 B3 c b l a fun v=>
 B3 c d k a fun x=>
 B0 x u 172 fun n y=>
 a n∧
 B9 v y 8 n 171 fun j z=>
 a j∧
 Q z j fun o=>
 a o∧
 M f g j.heap.size 1 e o 35 fun a0 a1 a2 p=>
 a p∧
 F3 c t a1 a2 a0 m p) (
 A0 f g e R i)) (
 A0 f g e R i)):Ca 138 #[(.slice k d q),(.slice l b r)] w R:=
 cV Tryz.func138 (.lp ([S 5,I 6]++nn 8 26) (.at_ 3 5 (.c (T 0 9 (L 9 (L 10 (L 11 (L 12 (.tk 13 (.fin O))))))) O) (.k O))) h
end Go.Proofs.YtkbikekbaboclaaGreat.Vc
set_option linter.unusedVariables false
set_option maxRecDepth 100000
namespace Go.Proofs.YtkbikekbaboclaaGreat.Vc
open Go Go.Proofs V Vm
open Go.IntKind (i64)
variable {w:World}{R:Value→World→Prop}
theorem My.calls (d:OA)(a l:Nat)(h:
 D0 w 0 fun e=>
 A7 e fun t f g i b m c=>
 G b a (
 V b a d c 1 fun n=>
 B0 n c 115 fun j k=>
 Q (i64.wrap (k*k)) j fun o=>
 B5 b g i j.heap.size 1 m f e o 35 1) (
 E0 g i f c 204 fun p q=>
 B0 q p 203 fun r s=>
 B (i64.wrap (s+1)) R r)):Ca 197 #[(.slice d a l)] w R:=
 cV Tryz.func197 (.lp ([S 3,N 5,N 6,I 9]++nn 10 12) (.c O O)) h
theorem PY.calls (f:OA)(d o:Nat)(e:OA)(a g:Nat)(h:
 E7 d a (
 D3 0 R w) (
 E0 a g e w 197 fun p i=>
 D0 p 0 fun j=>
 A7 j fun a0 k l m b q c=>
 G b a (
 V b a e c 1 fun r=>
 V b d f c 1 fun s=>
 B9 s (-128) 127 c 153 fun t u=>
 B0 r t 115 fun v x=>
 i≠0∧
 B0 (i64.wrap (Int.tdiv (i64.wrap (x*(i64.wrap (64+u)))) i)) v 115 fun n y=>
 Q y n fun z=>
 B5 b l m n.heap.size 1 q k j z 35 1) (
 A0 l m k R c))):Ca 183 #[(.slice f d o),(.slice e a g)] w R:=
 cV Tryz.func183 (.c O (.lp ([S 6]++nn 7 3++[I 19]++nn 20 21) (.c O O))) h
theorem yM.calls (d:OA)(a i:Nat)(h:
 F1 a (
 B 1 R w) (
 E5 w 0 fun e=>
 C0 e fun p f b j c=>
 G b a (
 V b a d c 1 fun k=>
 B0 k c 132 fun l g=>
 Z j fun m=>
 e (i64.wrap (f+(i64.wrap (g*g)))) (i64.wrap (b+1)) m l) (
 (a:Int)≠0∧
 B0 (i64.wrap (Int.tdiv f (a:Int))) c 193 fun n o=>
 B (i64.wrap (o+1)) R n))):Ca 168 #[(.slice d a i)] w R:=
 cV Tryz.func168 (.c O (.lp ([I 3,I 4,N 5]++nn 9 16) (.c O O))) h
theorem AQ.calls (f:OA)(c q:Nat)(d:OA)(a g:Nat)(h:
 A5 w 3 fun i=>
 E7 c a (
 K3 w.heap.size 0 R i) (
 D8 w.heap.size i 0 fun j=>
 A7 j fun a1 k l m b r e=>
 G b a (
 V b c f e 1 fun s=>
 B9 s (-128) 127 e 167 fun n t=>
 V b a d n 1 fun u=>
 B0 u n 132 fun v x=>
 E0 a g d v 168 fun y o=>
 o≠0∧
 B0 (i64.wrap (Int.tdiv (i64.wrap (x*(i64.wrap (64+t)))) o)) y 132 fun p z=>
 Q z p fun a0=>
 B5 b l m p.heap.size 1 r k j a0 35 1) (
 A0 l m k R e))):Ca 133 #[(.slice f c q),(.slice d a g)] w R:=
 cV Tryz.func133 (.c O (.lp ([S 5,I 6,N 7]++nn 15 26) (.c O O))) h
end Go.Proofs.YtkbikekbaboclaaGreat.Vc
set_option linter.unusedVariables false
set_option maxRecDepth 100000
namespace Go.Proofs.YtkbikekbaboclaaGreat.Vc
open Go Go.Proofs V Vm
open Go.IntKind (i64)
variable {w:World}{R:Value→World→Prop}
theorem Ft.calls (a:Int)(h:
 W a 0 (
 C8 R w) (
 A1 (decide (a>(1048576:Int))) R w)):Ca 124 #[(.int .i64 a)] w R:=
 cV Tryz.func124 (.at_ 1 2 O O) h
theorem Gj.calls (a:Int)(h:
 W a 0 (
 C8 R w) (
 A1 (decide (a>(65536:Int))) R w)):Ca 205 #[(.int .i64 a)] w R:=
 cV Tryz.func205 (.at_ 1 2 O O) h
theorem Gc.calls (c:OA)(a d b:Nat)(h:
 E b w 0 fun e f j=>
 F9 f e fun g=>
 H5 g w fun k i=>
 A1 ((a:Int) != (i:Int)) R w):Ca 206 #[(.slice c a d),(.pointer (some (⟨b,0,none⟩:Addr)))] w R:=
 cV Tryz.func206 O h
theorem cj.El (a:OA)(b c:Nat)(h:
 M6 b c a w 91 124 fun d e=>
 A1 (decide (e≥(0:Int))) R d):Ca 52 #[(.slice a b c),(.func (.func 124) #[] #[])] w R:=
 cV Tryz.func52 O h
theorem bf.El (d:OA)(b f:Nat)(h:
 A2 w fun g l a i c=>
 G a b (
 V a b d c 1 fun j=>
 H4 j c 124 fun e k=>
 Br k (
 B a R e) (
 X a g i e)) (
 B (-1) R c)):Ca 91 #[(.slice d b f),(.func (.func 124) #[] #[])] w R:=
 cV Tryz.func91 (.lp ([N 4,N 5,I 8]++nn 9 10) (.c (.c O O) O)) h
theorem cj.Fk (a:OA)(b c:Nat)(h:
 M6 b c a w 91 205 fun d e=>
 A1 (decide (e≥(0:Int))) R d):Ca 52 #[(.slice a b c),(.func (.func 205) #[] #[])] w R:=
 cV Tryz.func52 O h
theorem bf.Fk (d:OA)(b f:Nat)(h:
 A2 w fun g l a i c=>
 G a b (
 V a b d c 1 fun j=>
 H4 j c 205 fun e k=>
 Br k (
 B a R e) (
 X a g i e)) (
 B (-1) R c)):Ca 91 #[(.slice d b f),(.func (.func 205) #[] #[])] w R:=
 cV Tryz.func91 (.lp ([N 4,N 5,I 8]++nn 9 10) (.c (.c O O) O)) h
theorem cj.DU (a:OA)(b c d:Nat)(h:
 I2 b c d a w 208 206 fun e f=>
 A1 (decide (f≥(0:Int))) R e):Ca 207 #[(.slice a b c),(.func (.func 206) #[] #[(.pointer (some (⟨d,0,none⟩:Addr)))])] w R:=
 cV Tryz.func207 O h
theorem bf.DU (d:OA)(b i e:Nat)(h:
 A2 w fun j q a k c=>
 G a b (
 H a b d fun l=>
 C5 l a c 1 fun m n o=>
 Calls Tryz.prog 206 #[(.slice m n o),(.pointer (some ⟨e,0,none⟩))] c (bc fun p f=>∃ g:Bool,p=(.bool g)∧
 Br g (
 B a R f) (
 X a j k f))) (
 B (-1) R c)):Ca 208 #[(.slice d b i),(.func (.func 206) #[] #[(.pointer (some (⟨e,0,none⟩:Addr)))])] w R:=
 cV Tryz.func208 (.lp ([N 4,N 5,I 8]++nn 9 10) (.c (.c O O) O)) h
theorem Lu.calls (h:
 Q7 0 w fun k=>
 Q8 65536 60097 55109 50535 46341 42495 38968 35734 w.heap.size k fun a=>
 ∃ b c d e f g i j:Int,(a.cell? ⟨w.heap.size,0,none⟩=some (.int .i64 b)∧a.cell? ⟨w.heap.size,1,none⟩=some (.int .i64 c)∧a.cell? ⟨w.heap.size,2,none⟩=some (.int .i64 d)∧a.cell? ⟨w.heap.size,3,none⟩=some (.int .i64 e)∧a.cell? ⟨w.heap.size,4,none⟩=some (.int .i64 f)∧a.cell? ⟨w.heap.size,5,none⟩=some (.int .i64 g)∧a.cell? ⟨w.heap.size,6,none⟩=some (.int .i64 i)∧a.cell? ⟨w.heap.size,7,none⟩=some (.int .i64 j))∧
 R (.agg #[(.int .i64 b),(.int .i64 c),(.int .i64 d),(.int .i64 e),(.int .i64 f),(.int .i64 g),(.int .i64 i),(.int .i64 j)]) a):Ca 163 #[] w R:=
 cV Tryz.func163 O h
theorem HS.calls (a:Int)(h:
 B9 a (-1073741824) 1073741824 w 153 fun b c=>
 B c R b):Ca 126 #[(.int .i64 a)] w R:=
 cV Tryz.func126 O h
theorem Pv.calls (a:Int)(h:
 Calls Tryz.prog 163 #[] w (bc fun n b=>∃ c d e f g i j k:Int,n=(.agg #[(.int .i64 c),(.int .i64 d),(.int .i64 e),(.int .i64 f),(.int .i64 g),(.int .i64 i),(.int .i64 j),(.int .i64 k)])∧
 Q7 0 b fun o=>
 Q8 c d e f g i j k b.heap.size o fun l=>
 (8:Int)≠0∧
 S6 a (
 ∃ m:Int,l.cell? ((⟨b.heap.size,0,none⟩:Addr).add ((Int.tmod (if (0:Int)>a then (0:Int) else a) 8).toNat*1))=some (.int .i64 m)∧
 (8:Int)≠0∧
 0≤(if (17:Int)<(i64.wrap (Int.tdiv (if (0:Int)>a then (0:Int) else a) 8)) then (17:Int) else (i64.wrap (Int.tdiv (if (0:Int)>a then (0:Int) else a) 8)))∧
 B (Int.fdiv m (2 ^ (min (if (17:Int)<(i64.wrap (Int.tdiv (if (0:Int)>a then (0:Int) else a) 8)) then (17:Int) else (i64.wrap (Int.tdiv (if (0:Int)>a then (0:Int) else a) 8))).toNat IntKind.i64.bits))) R l))):Ca 128 #[(.int .i64 a)] w R:=
 cV Tryz.func128 O h
theorem Ht.calls (b:OA)(a e:Nat)(h:
 F1 a (
 D3 0 R w) (
 E0 a e b w 127 fun l m=>
 B0 m l 126 fun n o=>
 D0 n 0 fun f=>
 A7 f fun v g i j c p d=>
 G c a (
 V c a b d 1 fun q=>
 B0 q d 126 fun r s=>
 B0 (i64.wrap (o-s)) r 128 fun k t=>
 Q t k fun u=>
 B5 c i j k.heap.size 1 p g f u 35 1) (
 A0 i j g R d))):Ca 90 #[(.slice b a e)] w R:=
 cV Tryz.func90 (.c O (.lp ([S 4,N 6,I 15]++nn 16 12) (.c O O))) h
theorem Kh.calls (c:OA)(b d:Nat)(f:OA)(g i:Nat)(h:
 B6 g i f w 120 fun a=>
 E w.heap.size a 0 fun t k u=>
 F1 k (
 F R a) (
 E w.heap.size a 0 fun v l x=>
 E7 b l (
 F R a) (
 E0 b d c a 125 fun j m=>
 P m 0 (
 F R j) (
 Q9 b d c j 205 fun e n=>
 U n (
 E w.heap.size e 0 fun o p q=>
 L1 p q w.heap.size o e 207 206 fun r s=>
 A1 (!s) R r) (
 F R e))))):Ca 198 #[(.slice c b d),(.slice f g i)] w R:=
 cV Tryz.func198 (.at_ 1 3 (.k O) (.at_ 1 10 (.k O) (.c O (.at_ 5 4 O O)))) h
theorem Po.calls (c:OA)(d f:Nat)(e:OA)(a k:Nat)(h:
 G0 d f a k c e w 198 fun l y=>
 U y (
 D3 0 R l) (
 E0 d f c l 125 fun m n=>
 F9 a e fun z=>
 H5 z m fun aE a0=>
 D0 m 0 fun o=>
 A7 o fun a1 p q r g a2 s=>
 G g a0 (
 E5 s 0 fun t=>
 C0 t fun a1 u b a3 i=>
 G b a (
 H b a e fun a4=>
 C5 a4 b i 1 fun a5 a6 aF=>
 C i fun j a7=>
 B3 b d c j fun a8=>
 B3 g a6 a5 j fun a9=>
 B0 a9 a7 126 fun v aA=>
 j v∧
 Z a3 fun aB=>
 t (i64.wrap (u+(i64.wrap (a8*aA)))) (i64.wrap (b+1)) aB v) (
 n≠0∧
 B0 (i64.wrap (Int.tdiv u n)) i 115 fun x aC=>
 Q aC x fun aD=>
 B5 g q r x.heap.size 1 a2 p o aD 35 1)) (
 A0 q r p R s))):Ca 185 #[(.slice c d f),(.slice e a k)] w R:=
 cV Tryz.func185 (.c O (.lp ([S 6]++nn 7 4++[I 21]++nn 22 30) (.c (.lp ([I 8,N 9,N 10,I 26]++nn 27 17) (.c (T 0 9 (L 9 (T 10 3 (.fin O)))) O)) O))) h
theorem Js.calls (c:Int)(d:OA)(a g:Nat)(h:
 G5 a 64 (
 B (-1) R w) (
 Q9 a g d w 124 fun k o=>
 Br o (
 B (-1) R k) (
 E0 a g d k 125 fun i b=>
 P b 0 (
 B (-1) R i) (
 b≠0∧
 ∃ j:Int→World→Prop,(
 Br (decide ((Int.tmod c b)<(0:Int))) (
 j (i64.wrap ((Int.tmod c b)+b)) i) (
 j (Int.tmod c b) i)) ∧
 G7 j fun p q r=>
 L0 q r 0 fun l=>
 C0 l fun p m e s f=>
 G e a (
 V e a d f 1 fun n=>
 B8 m n (
 B e R f) (
 Z s fun t=>
 l (i64.wrap (m-n)) (i64.wrap (e+1)) t f)) (
 B (-1) R f))))):Ca 89 #[(.int .i64 c),(.slice d a g)] w R:=
 cV Tryz.func89 (.at_ 2 3 (.k O) (.c O (.c O (.cut 1 ([I 7]++nn 25 5) (.c O O) (.lp ([N 4,I 7,N 8,N 9,I 32]++nn 33 12) (.c (.c O O) O)))))) h
theorem As.calls (a:Int)(h:
 Q7 0 w fun i=>
 Q8 65536 60097 55109 50535 46341 42495 38968 35734 w.heap.size i fun d=>
 (8:Int)≠0∧
 S6 a (
 ∃ e:Int,d.cell? ((⟨w.heap.size,0,none⟩:Addr).add ((Int.tmod (if (0:Int)>a then (0:Int) else a) 8).toNat*1))=some (.int .i64 e)∧
 L0 e d 0 fun f=>
 C0 f fun l b g j c=>
 (8:Int)≠0∧
 Br (decide (g<(i64.wrap (Int.tdiv (if (0:Int)>a then (0:Int) else a) 8)))) (
 B2 b 0 (
 (2:Int)≠0∧
 Z j fun k=>
 f (i64.wrap (Int.tdiv b 2)) (i64.wrap (g+1)) k c) (
 B b R c)) (
 B b R c))):Ca 175 #[(.int .i64 a)] w R:=
 cV Tryz.func175 (.lp ([I 4,I 5]++nn 13 12) (.at_ 5 4 (.c O O) (.k O))) h
theorem vV.calls (a:Int)(h:
 B9 a (-1073741824) 1073741824 w 167 fun b c=>
 B c R b):Ca 174 #[(.int .i64 a)] w R:=
 cV Tryz.func174 O h
theorem tU.calls (b:OA)(a p:Nat)(h:
 A5 w 3 fun q=>
 D8 w.heap.size q 0 fun i=>
 A7 i fun r j k l c s e=>
 G c a (
 V c a b e 1 fun t=>
 B0 t e 174 fun u v=>
 L0 v u 0 fun m=>
 C0 m fun r f g x d=>
 G g a (
 V g a b d 1 fun y=>
 B0 y d 174 fun z n=>
 Z x fun a0=>
 m (if n>f then n else f) (i64.wrap (g+1)) a0 z) (
 V c a b d 1 fun a1=>
 B0 a1 d 174 fun a2 a3=>
 B0 (i64.wrap (f-a3)) a2 175 fun o a4=>
 Q a4 o fun a5=>
 B5 c k l o.heap.size 1 s j i a5 35 1)) (
 A0 k l j R e)):Ca 142 #[(.slice b a p)] w R:=
 cV Tryz.func142 (.lp ([S 3,I 4,N 5,N 6]++nn 8 35) (.c (.lp ([I 5,I 6]++nn 19 13) (.c O O)) O)) h
theorem zD.calls (d:OA)(c a1:Nat)(e:OA)(a a2:Nat)(h:
 A5 w 3 fun m=>
 F1 a (
 K3 w.heap.size 0 R m) (
 E7 c a (
 K3 w.heap.size 0 R m) (
 E5 m 0 fun r=>
 C0 r fun s i b a3 t=>
 G b a (
 C t fun j f=>
 H b a e fun a4=>
 H6 a4 b j fun aQ a5 aR=>
 F9 a e fun a6=>
 Q2 a6 j fun aS a7=>
 E7 a5 a7 (
 K3 w.heap.size 0 R f) (
 B3 b c d j fun a8=>
 W a8 0 (
 K3 w.heap.size 0 R f) (
 B3 b c d j fun a9=>
 B2 a9 65536 (
 K3 w.heap.size 0 R f) (
 V b c d f 1 fun aA=>
 Z a3 fun aB=>
 r (i64.wrap (i+aA)) (i64.wrap (b+1)) aB f)))) (
 D8 w.heap.size t 0 fun u=>
 A7 u fun s n o p q aC k=>
 B2 i 0 (
 F9 a e fun aD=>
 H5 aD k fun aT aE=>
 G q aE (
 E5 k 0 fun v=>
 C0 v fun s x g aF y=>
 G g a (
 C y fun l aG=>
 B3 g c d l fun aH=>
 H g a e fun aI=>
 H6 aI g l fun aJ aK aU=>
 B3 q aK aJ l fun aL=>
 B0 aL aG 174 fun z aM=>
 l z∧
 Z aF fun aN=>
 v (i64.wrap (x+(i64.wrap (aH*aM)))) (i64.wrap (g+1)) aN z) (
 i≠0∧
 B0 (i64.wrap (Int.tdiv x i)) y 132 fun a0 aO=>
 Q aO a0 fun aP=>
 B5 q o p a0.heap.size 1 aC n u aP 35 1)) (
 A0 o p n R k)) (
 A0 o p n R k))))):Ca 169 #[(.slice d c a1),(.slice e a a2)] w R:=
 cV Tryz.func169 (.at_ 2 3 (.k O) (.c O (.lp ([N 4,I 6,I 7]++nn 23 37) (.c (T 0 10 (.tks 10 (T 11 13 (.fin (.k O))) (T 11 6 (.tks 17 (T 18 6 (.fin (.k O))) (T 18 6 (.fin (.c O O))))))) (.lp ([S 5,I 8,N 9,N 10]++nn 60 40) (.at_ 12 2 (.c (.lp ([I 9,I 10]++nn 72 21) (.c (T 0 12 (L 12 (T 13 3 (.fin O)))) O)) O) (.k O))))))) h
theorem vL.calls (i:Int)(d:OA)(b o:Nat)(h:
 E5 w 0 fun k=>
 C0 k fun l c e p a=>
 G e b (
 V e b d a 1 fun q=>
 W q 0 (
 B (-1) R a) (
 V e b d a 1 fun r=>
 B2 r 1048576 (
 B (-1) R a) (
 G5 b 64 (
 B (-1) R a) (
 V e b d a 1 fun s=>
 Z p fun t=>
 k (i64.wrap (c+s)) (i64.wrap (e+1)) t a)))) (
 P c 0 (
 B (-1) R a) (
 c≠0∧
 ∃ j:Int→World→Prop,(
 Br (decide ((Int.tmod i c)<(0:Int))) (
 j (i64.wrap ((Int.tmod i c)+c)) a) (
 j (Int.tmod i c) a)) ∧
 G7 j fun l u v=>
 L0 u v 0 fun m=>
 C0 m fun l n f x g=>
 G f b (
 V f b d g 1 fun y=>
 B8 n y (
 B f R g) (
 V f b d g 1 fun z=>
 Z x fun a0=>
 m (i64.wrap (n-z)) (i64.wrap (f+1)) a0 g)) (
 B (-1) R g)))):Ca 141 #[(.int .i64 i),(.slice d b o)] w R:=
 cV Tryz.func141 (.lp ([N 4,I 5,I 6]++nn 9 29) (.c (.at_ 5 5 (.k O) (.at_ 5 12 (.k O) (.c O O))) (.c O (.cut 1 ([I 7]++nn 43 5) (.c O O) (.lp ([N 4,I 7,I 8]++nn 48 19) (.c (.c O O) O)))))) h
theorem yr.calls (f:OA)(d l:Nat)(h:
 ∃ b:Int→Int→Nat→World→Prop,(∃ m:Nat,b (-1) 0 m w)∧
 C0 b fun p e a g j=>
 G a d (
 C j fun k i=>
 W e 0 (
 Z g fun c=>
 b a (i64.wrap (a+1)) c i) (
 B3 a d f k fun n=>
 B3 e d f k fun o=>
 Br (decide (n>o)) (
 Z g fun c=>
 b a (i64.wrap (a+1)) c i) (
 Z g fun c=>
 b e (i64.wrap (a+1)) c i))) (
 B e R j)):Ca 98 #[(.slice f d l)] w R:=
 cV Tryz.func98 (.lp ([I 3,I 4]++nn 5 20) (.c (T 0 2 (.tks 2 (T 3 10 (.fin (.k O))) (T 3 10 (.fin (.c O O))))) O)) h
theorem KA.calls (b:OA)(a j:Nat)(h:
 Br (decide ((a:Int)<(1:Int))) (
 False) (
 F9 a b fun k=>
 ∃ f:Int,w.cell? k=some (.int .i64 f)∧
 L0 f w 1 fun g=>
 C0 g fun n c d l e=>
 G d a (
 V d a b e 1 fun i=>
 Z l fun m=>
 g (if i>c then i else c) (i64.wrap (d+1)) m e) (
 B c R e))):Ca 127 #[(.slice b a j)] w R:=
 cV Tryz.func127 (.c O (.lp ([I 3,I 4]++nn 12 12) (.c O O))) h
theorem HU.calls (d:OA)(c f:Nat)(e:Int)(h:
 A2 w fun g k a i b=>
 G a c (
 V a c d b 1 fun j=>
 Br (e==j) (
 B a R b) (
 X a g i b)) (
 B (-1) R b)):Ca 99 #[(.slice d c f),(.int .i64 e)] w R:=
 cV Tryz.func99 (.lp ([N 4,N 5,I 8]++nn 9 10) (.c (.c O O) O)) h
end Go.Proofs.YtkbikekbaboclaaGreat.Vc
set_option linter.unusedVariables false
set_option maxRecDepth 100000
namespace Go.Proofs.YtkbikekbaboclaaGreat.Vc
open Go Go.Proofs V Vm
open Go.IntKind (i64)
variable {w:World}{R:Value→World→Prop}
theorem JC.calls (a b c:Int)(h:
 I3 a b (
 A1 (decide (a≤c)) R w) (
 F R w)):Ca 100 #[(.int .i64 a),(.int .i64 b),(.int .i64 c)] w R:=
 cV Tryz.func100 (.at_ 1 3 O O) h
theorem CR.calls (c d e f g i a:Int)(h:
 D1 c d e f g i w 112 fun b=>
 P a 0 (
 C b fun j k=>
 C2 w.heap.size j 0 1 fun l m=>
 A6 l m R k) (
 P a 1 (
 C b fun n o=>
 C2 w.heap.size n 5 1 fun p q=>
 A6 p q R o) (
 P a 2 (
 D9 a 2 (
 C b fun r s=>
 B1 w.heap.size r 1 fun t=>
 A6 1 t R s)) (
 P a 7 (
 D9 a 7 (
 C b fun u v=>
 B1 w.heap.size u 1 fun x=>
 A6 1 x R v)) (
 P a 11 (
 C b fun y z=>
 B1 w.heap.size y 1 fun a0=>
 A6 1 a0 R z) (
 P a 3 (
 D9 a 3 (
 C b fun a1 a2=>
 C2 w.heap.size a1 1 1 fun a3 a4=>
 A6 a3 a4 R a2)) (
 P a 4 (
 D9 a 4 (
 C b fun a5 a6=>
 C2 w.heap.size a5 1 1 fun a7 a8=>
 A6 a7 a8 R a6)) (
 P a 5 (
 D9 a 5 (
 C b fun a9 aA=>
 C2 w.heap.size a9 1 1 fun aB aC=>
 A6 aB aC R aA)) (
 P a 6 (
 C b fun aD aE=>
 C2 w.heap.size aD 1 1 fun aF aG=>
 A6 aF aG R aE) (
 P a 8 (
 D9 a 8 (
 C b fun aH aI=>
 C2 w.heap.size aH 4 1 fun aJ aK=>
 A6 aJ aK R aI)) (
 P a 9 (
 C b fun aL aM=>
 C2 w.heap.size aL 4 1 fun aN aO=>
 A6 aN aO R aM) (
 P a 10 (
 C b fun aP aQ=>
 C2 w.heap.size aP 1 4 fun aR aS=>
 A6 aR aS R aQ) (
 L6 0 R b))))))))))))):Ca 176 #[(.agg #[(.int .i64 c),(.int .i64 d),(.int .i64 e),(.int .i64 f),(.int .i64 g),(.int .i64 i)]),(.int .i64 a)] w R:=
 cV Tryz.func176 (.c (T 0 8 (.fin O)) (.c (T 0 8 (.fin O)) (.c (.y (T 0 5 (.fin O))) (.c (.y (T 0 5 (.fin O))) (.c (T 0 5 (.fin O)) (.c (.y (T 0 8 (.fin O))) (.c (.y (T 0 8 (.fin O))) (.c (.y (T 0 8 (.fin O))) (.c (T 0 8 (.fin O)) (.c (.y (T 0 8 (.fin O))) (.c (T 0 8 (.fin O)) (.c (T 0 8 (.fin O)) O)))))))))))) h
theorem De.calls (d e f g i j k l:Int)(h:
 D1 d e f g i j w 112 fun n=>
 ∃ a:Int→Int→Nat→World→Prop,(∃ o:Nat,a 0 k o n)∧
 C0 a fun a1 m b p c=>
 Br (decide (b≤l)) (
 A8 w.heap.size c fun q r s t u v=>
 I4 q r s t u v b c 176 fun x y z=>
 Z p fun a0=>
 a (i64.wrap (m+(i64.wrap (y*z)))) (i64.wrap (b+1)) a0 x) (
 B m R c)):Ca 143 #[(.agg #[(.int .i64 d),(.int .i64 e),(.int .i64 f),(.int .i64 g),(.int .i64 i),(.int .i64 j)]),(.int .i64 k),(.int .i64 l)] w R:=
 cV Tryz.func143 (.lp ([I 7,I 8,N 9,N 10]++nn 12 16) (.c O O)) h
theorem EQ.calls (b c d e f g:Int)(h:
 D1 b c d e f g w 112 fun l=>
 C l fun a m=>
 J8 w.heap.size a fun n o p q r s=>
 B1 w.heap.size a 3 fun t=>
 J8 w.heap.size a fun u v x y z a0=>
 J8 w.heap.size a fun a1 a2 a3 a4 a5 a6=>
 J9 n o p q r s 0 1 m fun i a7=>
 a i∧
 J9 u v x y z a0 2 10 i fun j a8=>
 a j∧
 L7 a1 a2 a3 a4 a5 a6 11 j fun k a9=>
 a k∧
 B (i64.wrap ((i64.wrap (a7+(i64.wrap (t*a8))))+a9)) R k):Ca 101 #[(.agg #[(.int .i64 b),(.int .i64 c),(.int .i64 d),(.int .i64 e),(.int .i64 f),(.int .i64 g)])] w R:=
 cV Tryz.func101 (.tk 0 (T 2 4 (.tk 9 (L 1 (L 6 (T 7 2 (L 10 (T 11 2 (.fin O))))))))) h
theorem MT.calls (g i j k l m:Int)(h:
 D1 g i j k l m w 27 fun n=>
 D w.heap.size n 0 fun p=>
 E3 p 2 32 n 100 fun b q=>
 U q (
 F R b) (
 D w.heap.size b 1 fun r=>
 E3 r 1 16 b 100 fun c s=>
 U s (
 F R c) (
 D w.heap.size c 2 fun t=>
 E3 t 1 4 c 100 fun d u=>
 U u (
 F R d) (
 D w.heap.size d 3 fun v=>
 E3 v 1 3 d 100 fun e x=>
 U x (
 F R e) (
 D w.heap.size e 4 fun y=>
 E3 y 1 32 e 100 fun f z=>
 U z (
 F R f) (
 D w.heap.size f 5 fun a0=>
 E3 a0 1 32 f 100 fun a a1=>
 U a1 (
 F R a) (
 D w.heap.size a 1 fun a2=>
 D w.heap.size a 2 fun o=>
 o≠0∧
 Br ((Int.tmod a2 o)==(0:Int)) (
 A8 w.heap.size a fun a3 a4 a5 a6 a7 a8=>
 I5 a3 a4 a5 a6 a7 a8 a 101 fun a9 aA=>
 A1 (decide (aA≤(8192:Int))) R a9) (
 F R a)))))))):Ca 66 #[(.agg #[(.int .i64 g),(.int .i64 i),(.int .i64 j),(.int .i64 k),(.int .i64 l),(.int .i64 m)])] w R:=
 cV Tryz.func66 (.at_ 1 4 (.k O) (.at_ 1 10 (.k O) (.c O (.at_ 3 4 (.k O) (.at_ 3 10 (.k O) (.c O (.at_ 5 6 O O))))))) h
theorem CY.calls (b c d e f g:Int)(h:
 D1 b c d e f g w 112 fun i=>
 A8 w.heap.size i fun j k l m n o=>
 G2 j k l m n o i 66 fun a p=>
 U p (
 B 0 R a) (
 A8 w.heap.size a fun q r s t u v=>
 I5 q r s t u v a 101 fun x y=>
 B y R x)):Ca 67 #[(.agg #[(.int .i64 b),(.int .i64 c),(.int .i64 d),(.int .i64 e),(.int .i64 f),(.int .i64 g)])] w R:=
 cV Tryz.func67 (.c O O) h
theorem Ps.calls (g i j k l m:Int)(d:ByteArray)(h:
 D1 g i j k l m w 27 fun a=>
 A8 w.heap.size a fun n o p q r s=>
 R3 0 a 112 fun b=>
 (dr b ⟨a.heap.size,0,none⟩∧dr b ⟨a.heap.size,1,none⟩∧dr b ⟨a.heap.size,2,none⟩∧dr b ⟨a.heap.size,3,none⟩∧dr b ⟨a.heap.size,4,none⟩∧dr b ⟨a.heap.size,5,none⟩)∧∀ e:World,e=((((((b.setCell ⟨a.heap.size,0,none⟩ (.int .i64 n)).setCell ⟨a.heap.size,1,none⟩ (.int .i64 o)).setCell ⟨a.heap.size,2,none⟩ (.int .i64 p)).setCell ⟨a.heap.size,3,none⟩ (.int .i64 q)).setCell ⟨a.heap.size,4,none⟩ (.int .i64 r)).setCell ⟨a.heap.size,5,none⟩ (.int .i64 s))→
 A8 w.heap.size e fun t u v x y z=>
 G2 t u v x y z e 66 fun f a0=>
 U a0 (
 R (.tuple #[(.pointer none),(.int .i64 1)]) f) (
 A8 a.heap.size f fun a1 a2 a3 a4 a5 a6=>
 I5 a1 a2 a3 a4 a5 a6 f 67 fun c a7=>
 Br ((d.size:Int) != a7) (
 R (.tuple #[(.pointer none),(.int .i64 5)]) c) (
 A8 a.heap.size c fun a8 a9 aA aB aC aD=>
 E8 d a8 a9 aA aB aC aD c 114 fun aE=>
 R (.tuple #[(.pointer (some ⟨c.heap.size,0,none⟩)),(.int .i64 0)]) aE))):Ca 34 #[(.agg #[(.int .i64 g),(.int .i64 i),(.int .i64 j),(.int .i64 k),(.int .i64 l),(.int .i64 m)]),(.string d)] w R:=
 cV Tryz.func34 (.c O (.c O O)) h
theorem Ce.calls (i j k l m n a b:Int)(h:
 D1 i j k l m n w 112 fun c=>
 D w.heap.size c 3 fun u=>
 W a 2 (
 A8 w.heap.size c fun v x y z a0 a1=>
 G2 v x y z a0 a1 c 66 fun d a2=>
 U a2 (
 C7 0 R d) (
 W a 0 (
 C7 0 R d) (
 B2 a 11 (
 C7 0 R d) (
 W b 0 (
 C7 0 R d) (
 C3 b 1 (
 C7 0 R d) (
 A8 w.heap.size d fun a3 a4 a5 a6 a7 a8=>
 L7 a3 a4 a5 a6 a7 a8 a d fun o a9=>
 decide (a<(2:Int))=true∧
 A8 w.heap.size o fun aA aB aC aD aE aF=>
 J9 aA aB aC aD aE aF 0 (i64.wrap (a-1)) o fun aG aH=>
 L8 aH a9 R aG)))))) (
 P a 11 (
 A8 w.heap.size c fun aI aJ aK aL aM aN=>
 G2 aI aJ aK aL aM aN c 66 fun e aO=>
 U aO (
 C7 0 R e) (
 W a 0 (
 C7 0 R e) (
 B2 a 11 (
 C7 0 R e) (
 W b 0 (
 C7 0 R e) (
 C3 b 1 (
 C7 0 R e) (
 A8 w.heap.size e fun aP aQ aR aS aT aU=>
 L7 aP aQ aR aS aT aU a e fun p q=>
 decide (a<(2:Int))=false∧
 D9 a 11 (
 A8 w.heap.size p fun aV aW aX aY aZ b0=>
 I5 aV aW aX aY aZ b0 p 101 fun b1 b2=>
 L8 (i64.wrap (b2-q)) q R b1))))))) (
 A8 w.heap.size c fun b3 b4 b5 b6 b7 b8=>
 G2 b3 b4 b5 b6 b7 b8 c 66 fun f b9=>
 U b9 (
 C7 0 R f) (
 W a 0 (
 C7 0 R f) (
 B2 a 11 (
 C7 0 R f) (
 W b 0 (
 C7 0 R f) (
 I3 b u (
 C7 0 R f) (
 A8 w.heap.size f fun bA bB bC bD bE bF=>
 L7 bA bB bC bD bE bF a f fun bG bH=>
 decide (a<(2:Int))=false∧
 (a==(11:Int))=false∧
 C bG fun g bI=>
 J8 w.heap.size g fun bJ bK bL bM bN bO=>
 J8 w.heap.size g fun bP bQ bR bS bT bU=>
 J8 w.heap.size g fun bV bW bX bY bZ c0=>
 J9 bJ bK bL bM bN bO 0 1 bI fun r c1=>
 g r∧
 J9 bP bQ bR bS bT bU 2 10 r fun s c2=>
 g s∧
 J9 bV bW bX bY bZ c0 2 (i64.wrap (a-1)) s fun t c3=>
 g t∧
 L8 (i64.wrap ((i64.wrap (c1+(i64.wrap (b*c2))))+c3)) bH R t)))))))):Ca 179 #[(.agg #[(.int .i64 i),(.int .i64 j),(.int .i64 k),(.int .i64 l),(.int .i64 m),(.int .i64 n)]),(.int .i64 a),(.int .i64 b)] w R:=
 cV Tryz.func179 (.at_ 2 2 (.k (.at_ 4 4 (.k O) (.at_ 4 8 (.k O) (.at_ 4 12 (.k O) (.at_ 4 16 (.k O) (.c O (.y O))))))) (.c (.at_ 4 4 (.k O) (.at_ 4 8 (.k O) (.at_ 4 12 (.k O) (.at_ 4 16 (.k O) (.c O (.n (.y O))))))) (.at_ 4 4 (.k O) (.at_ 4 8 (.k O) (.at_ 4 12 (.k O) (.at_ 4 16 (.k O) (.c O (.n (.n (.tk 0 (T 2 2 (T 7 3 (.tk 12 (L 1 (L 4 (T 5 2 (L 10 (.tk 11 (T 13 3 (.fin O)))))))))))))))))))) h
theorem Dp.calls (b c d e f g i:Int)(h:
 D1 b c d e f g w 112 fun j=>
 A8 w.heap.size j fun k l m n o p=>
 G2 k l m n o p j 66 fun a q=>
 U q (
 L6 0 R a) (
 A8 w.heap.size a fun r s t u v x=>
 I4 r s t u v x i a 176 fun y z a0=>
 A6 z a0 R y)):Ca 180 #[(.agg #[(.int .i64 b),(.int .i64 c),(.int .i64 d),(.int .i64 e),(.int .i64 f),(.int .i64 g)]),(.int .i64 i)] w R:=
 cV Tryz.func180 (.c O O) h
theorem Aj.calls (b c d e f g:Int)(h:
 D1 b c d e f g w 112 fun i=>
 A8 w.heap.size i fun k l m n o p=>
 G2 k l m n o p i 66 fun a q=>
 U q (
 B 0 R a) (
 D w.heap.size a 1 fun r=>
 D w.heap.size a 2 fun j=>
 j≠0∧
 B (i64.wrap (Int.tdiv r j)) R a)):Ca 157 #[(.agg #[(.int .i64 b),(.int .i64 c),(.int .i64 d),(.int .i64 e),(.int .i64 f),(.int .i64 g)])] w R:=
 cV Tryz.func157 (.c O O) h
theorem Bf.calls (b:Nat)(c i:Int)(h:
 I6 0 0 w fun j=>
 A8 b j fun u v x y z a0=>
 R4 u v x y z a0 c i j 179 fun d a e a1=>
 U a1 (
 L9 0 w.heap.size 0 d fun k=>
 D4 w.heap.size k fun a2 a3 a4 a5 a6=>
 R (.tuple #[(.agg #[(.int .i64 a2),(.int .i64 a3),(.slice a4 a5 a6)]),(.bool false)]) k) (
 A8 b d fun a7 a8 a9 aA aB aC=>
 I4 a7 a8 a9 aA aB aC c d 180 fun l aD aE=>
 ∃ f:ByteArray,l.cell? ⟨b,6,none⟩=some (.string f)∧
 (0≤a∧a≤(i64.wrap (a+e))∧(i64.wrap (a+e))≤(f.size:Int))∧
 Calls Tryz.prog 181 #[(.int .i64 aD),(.int .i64 aE),(.string (f.extract a.toNat (i64.wrap (a+e)).toNat))] l (bc fun aF g=>∃ (m n:Int) (o:OA) (p q:Nat) (r:Int),aF=(.tuple #[(.agg #[(.int .i64 m),(.int .i64 n),(.slice o p q)]),(.int .i64 r)])∧
 I6 0 0 g fun aG=>
 K0 m n g.heap.size p q o aG fun s=>
 D4 g.heap.size s fun aH aI aJ aK aL=>
 K0 aH aI w.heap.size aK aL aJ s fun t=>
 D4 w.heap.size t fun aM aN aO aP aQ=>
 R (.tuple #[(.agg #[(.int .i64 aM),(.int .i64 aN),(.slice aO aP aQ)]),(.bool (r==(0:Int)))]) t))):Ca 151 #[(.pointer (some (⟨b,0,none⟩:Addr))),(.int .i64 c),(.int .i64 i)] w R:=
 cV Tryz.func151 (.k (.c O O)) h
theorem CW.calls (c:Nat)(d e f:Int)(h:
 Calls Tryz.prog 151 #[(.pointer (some ⟨c,0,none⟩)),(.int .i64 d),(.int .i64 e)] w (bc fun n a=>∃ (g i:Int) (j:OA) (k l:Nat) (m:Bool),n=(.tuple #[(.agg #[(.int .i64 g),(.int .i64 i),(.slice j k l)]),(.bool m)])∧
 I6 0 0 a fun o=>
 K0 g i a.heap.size k l j o fun b=>
 U m (
 D3 0 R b) (
 D4 a.heap.size b fun p q r s t=>
 O2 p q f s t r b fun u v x y=>
 A0 x y v R u))):Ca 114 #[(.pointer (some (⟨c,0,none⟩:Addr))),(.int .i64 d),(.int .i64 e),(.int .i64 f)] w R:=
 cV Tryz.func114 (.c O O) h
end Go.Proofs.YtkbikekbaboclaaGreat.Vc
set_option linter.unusedVariables false
set_option maxRecDepth 100000
namespace Go.Proofs.YtkbikekbaboclaaGreat.Vc
open Go Go.Proofs V Vm
open Go.IntKind (i64)
variable {w:World}{R:Value→World→Prop}
theorem yP.calls (d:OA)(a j:Nat)(e:OA)(c k:Nat)(h:
 E7 a c (
 F R w) (
 A2 w fun l p b m f=>
 G b a (
 C f fun g i=>
 B3 b a d g fun n=>
 B3 b c e g fun o=>
 Br (n != o) (
 F R i) (
 X b l m i)) (
 C8 R f))):Ca 19 #[(.slice d a j),(.slice e c k)] w R:=
 cV Tryz.func19 (.c O (.lp ([N 4,I 5]++nn 11 15) (.c (T 0 9 (.fin (.c O O))) O))) h
end Go.Proofs.YtkbikekbaboclaaGreat.Vc
set_option linter.unusedVariables false
set_option maxRecDepth 100000
namespace Go.Proofs.YtkbikekbaboclaaGreat.Vc
open Go Go.Proofs V Vm
open Go.IntKind (i64)
variable {w:World}{R:Value→World→Prop}
theorem oI.calls (a:OA)(b c:Nat)(h:
 Br a.isNone (
 D3 0 R w) (
 A5 w 3 fun d=>
 D7 w.heap.size 0 b c a d 35 fun e f g i=>
 A0 f g e R i)):Ca 51 #[(.slice a b c)] w R:=
 cV Tryz.func51 (.c O O) h
theorem CF.calls (d:OA)(b k:Nat)(h:
 D0 w 0 fun e=>
 A7 e fun u f g i a l c=>
 G a b (
 H a b d fun m=>
 C5 m a c 1 fun n o p=>
 C4 o p n c 51 fun j q r s=>
 B6 r s q j 35 fun t=>
 B5 a g i j.heap.size 1 l f e t 120 1) (
 A0 g i f R c)):Ca 162 #[(.slice d b k)] w R:=
 cV Tryz.func162 (.lp ([S 2,N 4,I 7]++nn 8 9) (.c O O)) h
theorem Hk.calls (d:OA)(e f:Nat)(g:OA)(i j:Nat)(h:
 C1 e f i j d g w 157 fun b=>
 D6 0 b 157 fun m=>
 C m fun a n=>
 Y w.heap.size a 0 fun o p q=>
 Y w.heap.size a 1 fun r s t=>
 C4 p q o n 162 fun k u v x=>
 a k∧
 C4 s t r k 162 fun l y z a0=>
 a l∧
 E2 b.heap.size v x z a0 u y l fun c=>
 a c∧
 C9 b.heap.size c fun a1 a2 a3 a4 a5 a6=>
 R (.agg #[(.slice a1 a2 a3),(.slice a4 a5 a6)]) c):Ca 119 #[(.agg #[(.slice d e f),(.slice g i j)])] w R:=
 cV Tryz.func119 (T 0 2 (T 3 2 (L 2 (L 5 (.tk 6 (L 7 (.fin O))))))) h
theorem AT.calls (d:OA)(a j:Nat)(e:OA)(c k:Nat)(h:
 E7 a c (
 F R w) (
 A2 w fun l p b m f=>
 G b a (
 C f fun g i=>
 B3 b a d g fun n=>
 B3 b c e g fun o=>
 Br (n != o) (
 F R i) (
 X b l m i)) (
 C8 R f))):Ca 105 #[(.slice d a j),(.slice e c k)] w R:=
 cV Tryz.func105 (.c O (.lp ([N 4,N 5,I 13]++nn 14 12) (.c (T 0 9 (.fin (.c O O))) O))) h
end Go.Proofs.YtkbikekbaboclaaGreat.Vc
set_option linter.unusedVariables false
set_option maxRecDepth 100000
namespace Go.Proofs.YtkbikekbaboclaaGreat.Vc
open Go Go.Proofs V Vm
open Go.IntKind (i64)
variable {w:World}{R:Value→World→Prop}
end Go.Proofs.YtkbikekbaboclaaGreat.Vc
set_option linter.unusedVariables false
set_option maxRecDepth 100000
namespace Go.Proofs.YtkbikekbaboclaaGreat.Vc
open Go Go.Proofs V Vm
open Go.IntKind (i64)
variable {w:World}{R:Value→World→Prop}
end Go.Proofs.YtkbikekbaboclaaGreat.Vc
