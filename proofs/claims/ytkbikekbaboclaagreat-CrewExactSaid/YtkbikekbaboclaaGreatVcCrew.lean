import Derived.Test.YtkbikekbaboclaaGreatVc
import Derived.Test.YtkbikekbaboclaaGreatH
import Derived.Test.YtkbikekbaboclaaGreatProg
import Derived.KernelRfl
set_option linter.unusedVariables false
set_option maxRecDepth 100000
namespace Go.Proofs.YtkbikekbaboclaaGreat.Vc
open Go Go.Proofs V Vm
open Go.IntKind (i64)
variable {w:World}{R:Value→World→Prop}
theorem Kd.calls (c:OA)(b a:Nat)(d:Int)(h:
 W d 0 (
 False) (
 Br (decide ((i64.wrap (d-(i64.wrap ((a:Int)-(b:Int)))))>(0:Int))) (
 (0≤(a:Int)∧(a:Int)≤(a:Int))∧
 ∃ (f:OA) (i e:Nat),∃ g:World,(Builtin.append_ #[35,3] 35 #[(.slice (if a=0 then c else c.map (·.add (0*1))) ((a:Int).toNat-0) (a-0)),(.int .i64 (i64.wrap (d-(i64.wrap ((a:Int)-(b:Int))))))]).run Tryz.prog w = .ok (.slice f i e) g∧
 (0≤(b:Int)∧(b:Int)≤(e:Int))∧
 A0 ((b:Int).toNat-0) (e-0) (if e=0 then f else f.map (·.add (0*1))) R g) (
 A0 b a c R w))):Ca 147 #[(.slice c b a),(.int .i64 d)] w R:=
 cV Tryz.func147 (.c O (.c O O)) h
theorem FW.calls (d:OA)(a r:Nat)(h:
 E5 w 0 fun i=>
 C0 i fun s e b t f=>
 G b a (
 H b a d fun u=>
 C5 u b f 1 fun a8 j a9=>
 Br (decide ((i64.wrap (e+(j:Int)))<(0:Int))) (
 False) (
 Z t fun v=>
 i (i64.wrap (e+(j:Int))) (i64.wrap (b+1)) v f)) (
 Calls Tryz.prog 147 #[(.slice none 0 0),(.int .i64 e)] f (bc fun x y=>∃ (k:OA) (l m:Nat),x=(.slice k l m)∧
 N8 l m k y fun n=>
 A7 n fun s o p q c z g=>
 G c a (
 H c a d fun a0=>
 C5 a0 c g 1 fun a1 a2 a3=>
 H0 p q a2 a3 o a1 g 35 fun a4 a5 a6 a7=>
 F3 c z a5 a6 a4 n a7) (
 A0 p q o R g)))):Ca 111 #[(.slice d a r)] w R:=
 cV Tryz.func111 (.lp ([I 3,N 5,I 11]++nn 12 11) (.c (.c O O) (.lp ([S 6,N 8,I 27]++nn 28 7) (.c O O)))) h
theorem sR.Nj (e:OA)(a c:Nat)(f b:Int)(h:
 (0≤f∧f≤b∧b≤(a:Int)∧(a:Int)≤(c:Int))∧
 Br (f==b) (
 A0 a c e R w) (
 C w fun k l=>
 E4 f c (
 E4 b a (
 H0 (f.toNat-0) (c-0) (a-b.toNat) (c-b.toNat) (if c=0 then e else e.map (·.add (0*1))) (if c=b.toNat then e else e.map (·.add (b.toNat*1))) l 93 fun i d g j=>
 k j∧
 (0≤(d:Int)∧(d:Int)≤(a:Int)∧(a:Int)≤(g:Int))∧
 O8 ((a:Int).toNat-(d:Int).toNat) (g-(d:Int).toNat) (if g=(d:Int).toNat then i else i.map (·.add ((d:Int).toNat*1))) j 93 fun m=>
 A0 d g i R m)))):Ca 84 #[(.slice e a c),(.int .i64 f),(.int .i64 b)] w R:=
 cV Tryz.func84 (.c O (T 0 6 (L 6 (.tk 7 (.fin O))))) h
theorem OE.calls (b:Int)(h:
 H9 b w 36 fun c a=>
 Br a.isNone (
 R (.pointer none) c) (
 Calls Tryz.prog 37 #[(.pointer a)] c (bc fun g d=>∃ e:OA,g=(.pointer e)∧
 ∀ f:World,f=d.alloc (.cells #[(.pointer a),(.pointer e),(.slice none 0 0)] 95 (0,0))→
 K1 d.heap.size R f))):Ca 9 #[(.int .i64 b)] w R:=
 cV Tryz.func9 (.c O O) h
theorem CT.calls (a b:Nat)(h:
 C w fun c d=>
 B1 a c 1 fun e=>
 B1 b c 0 fun f=>
 A1 (e==f) R d):Ca 72 #[(.pointer (some (⟨a,0,none⟩:Addr))),(.pointer (some (⟨b,0,none⟩:Addr)))] w R:=
 cV Tryz.func72 (T 0 8 (.fin O)) h
theorem bf.PM (d:OA)(b i e:Nat)(h:
 A2 w fun j o a k c=>
 G a b (
 H a b d fun l=>
 K2 l a c fun m=>
 Calls Tryz.prog 72 #[(.pointer m),(.pointer (some ⟨e,0,none⟩))] c (bc fun n f=>∃ g:Bool,n=(.bool g)∧
 Br g (
 B a R f) (
 X a j k f))) (
 B (-1) R c)):Ca 71 #[(.slice d b i),(.func (.func 72) #[] #[(.pointer (some (⟨e,0,none⟩:Addr)))])] w R:=
 cV Tryz.func71 (.lp ([N 4,N 5,I 8]++nn 9 10) (.c (.c O O) O)) h
theorem HZ.calls (a:Nat)(b:Int)(h:
 Q b w fun c=>
 E a c 2 fun d e f=>
 I2 e f w.heap.size d c 71 72 fun g i=>
 B i R g):Ca 39 #[(.pointer (some (⟨a,0,none⟩:Addr))),(.int .i64 b)] w R:=
 cV Tryz.func39 O h
theorem Df.calls (c d:Nat)(e f:Int)(g:OA)(i j:Nat)(k:Int)(l:OA)(m n:Nat)(h:
 C6 e f k i j m n g l w 37 fun a=>
 D w.heap.size a 1 fun s=>
 W s 1 (
 F R a) (
 D w.heap.size a 1 fun t=>
 B2 t 2147483647 (
 F R a) (
 C a fun b u=>
 B7 c b 0 fun v=>
 G9 w.heap.size b 0 1 2 3 4 fun x y z a0 a1 a2 a3 a4 a5=>
 F8 v u 69 fun o a6=>
 b o∧
 H9 a6 o 68 fun p a7=>
 b p∧
 Calls Tryz.prog 70 #[(.pointer a7),(.pointer (some ⟨d,0,none⟩)),(.agg #[(.int .i64 x),(.int .i64 y),(.slice z a0 a1),(.int .i64 a2),(.slice a3 a4 a5)])] p (bc fun a8 q=>∃ r:Int,a8=(.int .i64 r)∧
 b q∧
 A1 (r==(0:Int)) R q)))):Ca 38 #[(.pointer (some (⟨c,0,none⟩:Addr))),(.pointer (some (⟨d,0,none⟩:Addr))),(.agg #[(.int .i64 e),(.int .i64 f),(.slice g i j),(.int .i64 k),(.slice l m n)])] w R:=
 cV Tryz.func38 (.at_ 1 3 (.k O) (.c O (T 0 4 (T 6 2 (L 4 (L 5 (L 8 (T 9 2 (.fin O))))))))) h
theorem mi.calls (a f:Nat)(j k:Int)(l:OA)(m n:Nat)(o:Int)(p:OA)(q r:Nat)(h:
 C6 j k o m n q r l p w 37 fun s=>
 J4 w.heap.size s fun v x y z a0 a1 a2 a3 a4=>
 Calls Tryz.prog 38 #[(.pointer (some ⟨a,0,none⟩)),(.pointer (some ⟨f,0,none⟩)),(.agg #[(.int .i64 v),(.int .i64 x),(.slice y z a0),(.int .i64 a1),(.slice a2 a3 a4)])] s (bc fun a5 g=>∃ t:Bool,a5=(.bool t)∧
 U t (
 B 1 R g) (
 D w.heap.size g 0 fun a6=>
 I7 a6 a g 39 fun d a7=>
 C3 a7 0 (
 B 9 R d) (
 E a d 2 fun bA a8 bB=>
 K8 a8 8 (
 B 10 R d) (
 C d fun b a9=>
 G9 w.heap.size b 0 1 2 3 4 fun aA aB aC aD aE aF aG aH aI=>
 B7 a b 1 fun aJ=>
 B1 w.heap.size b 1 fun aK=>
 Y w.heap.size b 2 fun aL aM aN=>
 N9 aA aB aF aD aE aH aI aC aG a9 20 fun u aO aP aQ aR aS aT aU aV aW=>
 b u∧
 O3 aK aM aN aJ aL u 40 fun c aX aY aZ=>
 b c∧
 ∀ e:World,e=c.alloc (.cells #[(.pointer (some ⟨f,0,none⟩)),(.int .i64 aO),(.int .i64 aP),(.slice aQ aR aS),(.int .i64 aT),(.slice aU aV aW),(.slice aX aY aZ),(.int .i64 0),(.slice none 0 0)] 100 (0,0))→
 b e∧
 E c.heap.size e 6 fun bC b0 bD=>
 N3 (i64.wrap ((b0:Int)*4)) c.heap.size e 7 fun i=>
 E a i 2 fun b1 b2 b3=>
 J7 c.heap.size i 97 fun b4=>
 M b2 b3 i.heap.size 1 b1 b4 93 fun b5 b6 b7 b8=>
 A9 a b6 b7 b5 b8 2 fun b9=>
 B 0 R b9))))):Ca 10 #[(.pointer (some (⟨a,0,none⟩:Addr))),(.pointer (some (⟨f,0,none⟩:Addr))),(.agg #[(.int .i64 j),(.int .i64 k),(.slice l m n),(.int .i64 o),(.slice p q r)])] w R:=
 cV Tryz.func10 (.k (.c O (.c O (.c O (T 0 2 (T 3 8 (L 2 (L 11 (.tk 12 (L 13 (.tk 14 (.fin O)))))))))))) h
theorem Gg.calls (a:Nat)(b:Int)(h:
 B4 b a w 2 fun y z f=>
 K2 f b w fun e=>
 C w fun c g=>
 B7 a c 0 fun i=>
 A3 e fun j=>
 J0 j c 6 fun k l m=>
 Calls Tryz.prog 83 #[(.pointer i),(.slice k l m)] g (bc fun n d=>∃ o:Int,n=(.int .i64 o)∧
 c d∧
 E a d 2 fun p q r=>
 M1 b (i64.wrap (b+1)) q r p d 84 fun s t u v=>
 A9 a u v t s 2 fun x=>
 R (.pointer e) x)):Ca 44 #[(.pointer (some (⟨a,0,none⟩:Addr))),(.int .i64 b)] w R:=
 cV Tryz.func44 (T 0 8 (L 8 (.fin O))) h
theorem Fv.calls (e b g:Nat)(h:
 ∃ i:Nat→World→Prop,(∃ a8:Nat,i a8 w)∧
 ∀ (aZ:Nat→Value),∀ (j:Nat) (p:World),i j p→
 C p fun q r=>
 B1 b q 7 fun a9=>
 Y b q 6 fun b0 aA b1=>
 Br (a9==(i64.wrap ((aA:Int)*4))) (
 C r fun k aB=>
 B7 e k 0 fun aC=>
 B1 b k 2 fun aD=>
 Calls Tryz.prog 76 #[(.pointer aC),(.int .i64 aD)] aB (bc fun aE d=>∃ s t:Int,aE=(.tuple #[(.int .i64 s),(.int .i64 t)])∧
 k d∧
 P t 0 (
 E b d 6 fun aF aG aH=>
 Q s d fun aI=>
 M aG aH d.heap.size 1 aF aI 35 fun aJ aK aL aM=>
 A9 b aK aL aJ aM 6 fun aN=>
 C8 R aN) (
 A4 e d 1 fun aO=>
 Calls Tryz.prog 77 #[(.pointer aO)] d (bc fun aP l=>∃ u:Bool,aP=(.bool u)∧
 Br u (
 Z j fun m=>
 i m l) (
 E e l 2 fun b2 aQ b3=>
 O9 (i64.wrap ((aQ:Int)-1)) e l fun aR n=>
 C aR fun c v=>
 Y g c 4 fun aS aT aU=>
 A3 n fun f=>
 ∃ (x y:Int) (z:OA) (a0 a1:Nat) (a2:Int) (a3:OA) (a4 a5:Nat),((∀ a,c a→a.cell? (f.add 1)=some (.int .i64 x))∧(∀ a,c a→a.cell? (f.add 2)=some (.int .i64 y))∧(∀ a,c a→a.cell? (f.add 3)=some (.slice z a0 a1))∧(∀ a,c a→a.cell? (f.add 4)=some (.int .i64 a2))∧(∀ a,c a→a.cell? (f.add 5)=some (.slice a3 a4 a5)))∧
 C6 x y a2 a0 a1 a4 a5 z a3 v 37 fun a6=>
 c a6∧
 M aT aU v.heap.size 1 aS a6 43 fun aV aW aX a7=>
 c a7∧
 A9 g aW aX aV a7 4 fun o=>
 Oe o n (some ⟨b,0,none⟩)∧
 Br (decide (n=(some ⟨b,0,none⟩))) (
 K9 g o 2 fun aY=>
 F R aY) (
 Z j fun m=>
 i m o)))))) (
 C8 R r)):Ca 41 #[(.pointer (some (⟨e,0,none⟩:Addr))),(.pointer (some (⟨b,0,none⟩:Addr))),(.pointer (some (⟨g,0,none⟩:Addr)))] w R:=
 cV Tryz.func41 (.lp (nn 6 72) (T 0 11 (.fin (.c (T 0 9 (L 9 (T 10 5 (.fin (.c O (.c O (T 0 9 (L 9 (L 10 (T 11 2 (.last 13 (.fin (.c O O))))))))))))) O)))) h
theorem Cb.calls (e b:Nat)(h:
 C w fun k aT=>
 Y b k 6 fun aU aV c6=>
 Y b k 6 fun c7 l c8=>
 (0≤(i64.wrap ((l:Int)-1))∧(i64.wrap ((l:Int)-1))<(aV:Int))∧jr aU fun aW=>
 ∃ m:Int,(∀ a0,k a0→a0.cell? (aW.add ((i64.wrap ((l:Int)-1)).toNat*1))=some (.int .i64 m))∧
 P0 b aT 78 fun aX n aY o=>
 ∃ f:Addr→OA→Nat→Nat→World→Prop,(
 C aX fun a g=>
 B7 b a 0 fun p=>
 B7 e a 0 fun a1=>
 Y b a 6 fun a2 a3 a4=>
 B1 b a 7 fun aZ=>
 B3 aZ aY n a fun q=>
 (
 Calls Tryz.prog 80 #[(.pointer a1),(.slice a2 a3 a4)] g (bc fun b0 c=>∃ (r:OA) (s t:Nat),b0=(.slice r s t)∧
 a c∧
 (
 N7 q s t p r c fun i b1 b2 b3 b4 b5 b6 b7 b8 b9 c9=>
 a i∧
 D6 0 i 157 fun a5=>
 a a5∧
 E2 i.heap.size b2 b3 b5 b6 b1 b4 a5 fun a6=>
 a a6∧
 f (⟨i.heap.size,0,none⟩:Addr) b7 b8 b9 a6) ∧
 (
 D6 0 c 157 fun a7=>
 a a7∧
 N7 q s t p r a7 fun a8 bA bB bC bD bE bF bG bH bI cA=>
 a a8∧
 E2 c.heap.size bB bC bE bF bA bD a8 fun a9=>
 a a9∧
 f (⟨c.heap.size,0,none⟩:Addr) bG bH bI a9) ∧
 True)) ∧
 (
 D6 0 g 157 fun aA=>
 a aA∧
 Calls Tryz.prog 80 #[(.pointer a1),(.slice a2 a3 a4)] aA (bc fun bJ aB=>∃ (aC:OA) (aD aE:Nat),bJ=(.slice aC aD aE)∧
 a aB∧
 N7 q aD aE p aC aB fun aF bK bL bM bN bO bP bQ bR bS cB=>
 a aF∧
 E2 g.heap.size bL bM bO bP bK bN aF fun aG=>
 a aG∧
 f (⟨g.heap.size,0,none⟩:Addr) bQ bR bS aG)) ∧
 True) ∧
 ∀ (bT:Nat→Value) (u:Addr) (aH:OA) (aI:Nat) (aJ:Nat),∀ aK:World,f u aH aI aJ aK→
 C aK fun j bU=>
 B7 e j 0 fun bV=>
 ∃ (aL:OA) (aM aN:Nat) (aO:OA) (aP aQ:Nat),((∀ d,j d→d.cell? u=some (.slice aL aM aN))∧(∀ d,j d→d.cell? (u.add 1)=some (.slice aO aP aQ)))∧
 Calls Tryz.prog 81 #[(.pointer bV),(.int .i64 m),(.agg #[(.slice aL aM aN),(.slice aO aP aQ)])] bU (bc fun bW v=>∃ bX:Int,bW=(.int .i64 bX)∧
 j v∧
 D b v 7 fun bY=>
 N3 (i64.wrap (bY+1)) b v 7 fun x=>
 ∃ y:World→Prop,(
 D b x 7 fun bZ=>
 (4:Int)≠0∧
 Br ((Int.tmod bZ 4)==(0:Int)) (
 C x fun z c0=>
 B7 e z 1 fun c1=>
 C2 b z 2 7 fun c2 aR=>
 E4 aR o (
 Calls Tryz.prog 82 #[(.pointer c1),(.int .i64 m),(.int .i64 c2),(.slice (if o=0 then n else n.map (·.add (0*1))) (aR.toNat-0) (o-0))] c0 (bc fun c3 aS=>∃ c4:Int,c3=(.int .i64 c4)∧
 z aS∧
 y aS))) (
 y x)) ∧
 E6 y fun bT c5=>
 A0 aI aJ aH R c5)):Ca 43 #[(.pointer (some (⟨e,0,none⟩:Addr))),(.pointer (some (⟨b,0,none⟩:Addr)))] w R:=
 cV Tryz.func43 (T 0 13 (.fin (.cut 1 ([(7,some (.addr)),S 8,N 9]++nn 24 25) (T 0 12 (T 13 7 (.alt 12 (.alt 20 (T 21 4 (L 25 (L 26 (T 27 2 (.fin O))))) (L 25 (L 20 (T 21 4 (L 26 (T 27 2 (.fin O))))))) (L 25 (L 12 (L 20 (T 21 4 (L 26 (T 27 2 (.fin O)))))))))) (T 0 6 (L 6 (.fin (.cut 1 (nn 63 23) (.c (T 0 16 (L 16 (.fin O))) O) O))))))) h
theorem HD.calls (a:Nat)(f:OA)(g i:Nat)(h:
 C w fun j n=>
 B1 a j 7 fun o=>
 P0 a n 78 fun b a9 p aA=>
 j b∧
 G o p (
 F R b) (
 ∃ e:Int→World→Prop,(
 E a b 8 fun aB c aC=>
 E a b 5 fun aD q aE=>
 Br (decide ((c:Int)<(q:Int))) (
 E a b 5 fun r s aF=>
 (0≤(c:Int)∧(c:Int)<(s:Int))∧jr r fun t=>
 ∃ k:Int,b.cell? (t.add ((c:Int).toNat*1))=some (.int .i64 k)∧
 e k b) (
 e 0 b)) ∧
 G7 e fun aG u v=>
 L5 u g i f v 50 fun d l=>
 P l 0 (
 C8 R d) (
 E a d 8 fun x y z=>
 Q l d fun a0=>
 M y z d.heap.size 1 x a0 35 fun a1 a2 a3 a4=>
 A9 a a2 a3 a1 a4 8 fun a5=>
 C a5 fun m a6=>
 Y a m 8 fun aH a7 aI=>
 B1 a m 4 fun a8=>
 A1 ((a7:Int)==a8) R a6))):Ca 42 #[(.pointer (some (⟨a,0,none⟩:Addr))),(.slice f g i)] w R:=
 cV Tryz.func42 (T 0 5 (L 5 (T 6 2 (.fin (.c O (.cut 1 ([I 5,N 6]++nn 16 21) (.c O O) (.c O (T 0 12 (.fin O))))))))) h
theorem CZ.calls (b:Nat)(h:
 C w fun a c=>
 Y b a 3 fun j k l=>
 Y b a 8 fun m n o=>
 C1 k l n o j m c 35 fun d=>
 a d∧
 Calls Tryz.prog 111 #[(.slice (some ⟨c.heap.size,0,none⟩) 2 2)] d (bc fun p e=>∃ (f:OA) (g i:Nat),p=(.slice f g i)∧
 a e∧
 A0 g i f R e)):Ca 78 #[(.pointer (some (⟨b,0,none⟩:Addr)))] w R:=
 cV Tryz.func78 (T 0 9 (L 9 (L 10 (.tk 11 (.fin O))))) h
theorem pa.calls (b:Nat)(e:Int)(h:
 F2 0 0 w 45 fun c=>
 E b c 2 fun b5 u b6=>
 F1 u (
 M0 0 w.heap.size 0 c fun l=>
 H1 w.heap.size l fun v x y z a0 a1 a2 a3 a4=>
 R (.tuple #[(.agg #[(.int .i64 v),(.bool x),(.bool y),(.slice z a0 a1),(.slice a2 a3 a4)]),(.int .i64 8)]) l) (
 E b c 2 fun b7 f b8=>
 (f:Int)≠0∧
 ∃ i:Int→World→Prop,(
 Br (decide ((Int.tmod e (f:Int))<(0:Int))) (
 E b c 2 fun b9 a5 bA=>
 i (i64.wrap ((Int.tmod e (f:Int))+(a5:Int))) c) (
 i (Int.tmod e (f:Int)) c)) ∧
 G7 i fun a6 j a=>
 B4 j b a 2 fun bB bC a7=>
 K2 a7 j a fun d=>
 A3 d fun a8=>
 J3 a8 a 1 fun a9=>
 F2 0 0 a 45 fun aA=>
 M0 a9 a.heap.size 0 aA fun aB=>
 ∃ g:World→Prop,(
 Calls Tryz.prog 41 #[(.pointer (some ⟨b,0,none⟩)),(.pointer d),(.pointer (some ⟨a.heap.size,0,none⟩))] aB (bc fun aC m=>∃ n:Bool,aC=(.bool n)∧
 Br n (
 Calls Tryz.prog 43 #[(.pointer (some ⟨b,0,none⟩)),(.pointer d)] m (bc fun aD aE=>∃ (o:OA) (p q:Nat),aD=(.slice o p q)∧
 Calls Tryz.prog 42 #[(.pointer d),(.slice o p q)] aE (bc fun aF k=>∃ r:Bool,aF=(.bool r)∧
 Br r (
 A3 d fun aG=>
 F4 aG k 8 fun aH aI aJ=>
 K9 a.heap.size k 1 fun aK=>
 A9 a.heap.size aI aJ aH aK 3 fun aL=>
 O9 j b aL fun aM bD=>
 g aM) (
 g k)))) (
 g m))) ∧
 E6 g fun a6 s=>
 H1 a.heap.size s fun aN aO aP aQ aR aS aT aU aV=>
 G6 aO aP aN w.heap.size aR aS aU aV aQ aT s fun t=>
 H1 w.heap.size t fun aW aX aY aZ b0 b1 b2 b3 b4=>
 R (.tuple #[(.agg #[(.int .i64 aW),(.bool aX),(.bool aY),(.slice aZ b0 b1),(.slice b2 b3 b4)]),(.int .i64 0)]) t)):Ca 11 #[(.pointer (some (⟨b,0,none⟩:Addr))),(.int .i64 e)] w R:=
 cV Tryz.func11 (.k (.c O (.cut 1 ([I 6]++nn 28 9) (.c O O) (.cut 2 (nn 50 19) (.at_ 10 3 (.c O O) (.k O)) O)))) h
theorem qK.calls (a:Nat)(b:Int)(h:
 I7 b a w 39 fun c d=>
 W d 0 (
 F R c) (
 I7 b a c 39 fun e f=>
 O9 f a e fun g i=>
 C8 R g)):Ca 15 #[(.pointer (some (⟨a,0,none⟩:Addr))),(.int .i64 b)] w R:=
 cV Tryz.func15 (.c O O) h
theorem sP.calls (c:Nat)(h:
 E c w 2 fun j d q=>
 D0 w 0 fun e=>
 A7 e fun r f g i b k a=>
 G b d (
 H b d j fun l=>
 K2 l b a fun m=>
 A3 m fun n=>
 J3 n a 1 fun o=>
 Q o a fun p=>
 B5 b g i a.heap.size 1 k f e p 35 1) (
 A0 g i f R a)):Ca 14 #[(.pointer (some (⟨c,0,none⟩:Addr)))] w R:=
 cV Tryz.func14 (.k (.lp ([S 2,N 4,I 12]++nn 13 12) (.c O O))) h
theorem uN.calls (i:Nat)(j:OA)(k l:Nat)(h:
 E i w 2 fun q m z=>
 D0 w 0 fun d=>
 A7 d fun a0 e f g a n b=>
 G a m (
 H a m q fun r=>
 K2 r a b fun o=>
 A3 o fun s=>
 J3 s b 2 fun t=>
 Calls Tryz.prog 65 #[(.slice j k l),(.int .i64 t)] b (bc fun u c=>∃ p:Bool,u=(.bool p)∧
 Br p (
 A3 o fun v=>
 J3 v c 1 fun x=>
 Q x c fun y=>
 B5 a f g c.heap.size 1 n e d y 35 1) (
 F3 a n f g e d c))) (
 A0 f g e R b)):Ca 32 #[(.pointer (some (⟨i,0,none⟩:Addr))),(.slice j k l)] w R:=
 cV Tryz.func32 (.k (.lp ([S 4,N 6,I 14]++nn 15 19) (.c (.c O O) O))) h
theorem rE.calls (c:Nat)(d:Int)(h:
 I7 d c w 39 fun e i=>
 W i 0 (
 D3 0 R e) (
 C e fun b j=>
 Y c b 2 fun k l v=>
 I7 d c j 39 fun a f=>
 b a∧
 H f l k fun m=>
 K2 m f a fun n=>
 b a∧
 A3 n fun o=>
 F4 o a 8 fun p q r=>
 b a∧
 C4 q r p a 51 fun g s t u=>
 b g∧
 A0 t u s R g)):Ca 18 #[(.pointer (some (⟨c,0,none⟩:Addr))),(.int .i64 d)] w R:=
 cV Tryz.func18 (.c O (T 0 6 (L 6 (.tk 7 (L 8 (T 9 2 (L 11 (L 12 (.tk 13 (.fin O)))))))))) h
theorem ru.calls (a:Nat)(h:
 A4 a w 0 fun b=>
 F8 b w 45 fun c d=>
 B d R c):Ca 12 #[(.pointer (some (⟨a,0,none⟩:Addr)))] w R:=
 cV Tryz.func12 (.k O) h
theorem rH.calls (a:Nat)(h:
 A4 a w 1 fun b=>
 F8 b w 46 fun c d=>
 B d R c):Ca 13 #[(.pointer (some (⟨a,0,none⟩:Addr)))] w R:=
 cV Tryz.func13 (.k O) h
theorem pH.calls (a:Nat)(b:Int)(h:
 A4 a w 1 fun c=>
 I1 b c w 47 fun d e=>
 B e R d):Ca 16 #[(.pointer (some (⟨a,0,none⟩:Addr))),(.int .i64 b)] w R:=
 cV Tryz.func16 (.k O) h
theorem CX.calls (a:OA)(b c:Nat)(d:Int)(h:
 Calls Tryz.prog 99 #[(.slice a b c),(.int .i64 d)] w (bc fun f g=>∃ e:Int,f=(.int .i64 e)∧
 A1 (decide (e≥(0:Int))) R g)):Ca 65 #[(.slice a b c),(.int .i64 d)] w R:=
 cV Tryz.func65 O h
end Go.Proofs.YtkbikekbaboclaaGreat.Vc
