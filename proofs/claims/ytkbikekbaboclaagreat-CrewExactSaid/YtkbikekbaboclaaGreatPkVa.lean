import Derived.Test.YtkbikekbaboclaaGreatVc
import Derived.Test.YtkbikekbaboclaaGreatH
import Derived.Test.YtkbikekbaboclaaGreatProg
import Derived.KernelRfl
set_option linter.unusedVariables false
set_option maxRecDepth 100000
namespace Go.Proofs.YtkbikekbaboclaaGreat.Vc
open Go Go.Proofs V Vm
open Go.IntKind (i64)
variable {w:World}{R:Value→World→Prop}
theorem Gx.calls (a:Int)(h:
 W a 1 (
 R (.pointer none) w) (
 B2 a 64 (
 R (.pointer none) w) (
 S1 a 0 0 w 181 fun b=>
 ∀ c:World,c=b.alloc (.cells #[(.slice (some ⟨w.heap.size,0,none⟩) a.toNat a.toNat)] 142 (0,0))→
 K1 b.heap.size R c))):Ca 36 #[(.int .i64 a)] w R:=
 cV Tryz.func36 (.at_ 1 2 (.k O) (.c O O)) h
theorem FH.calls (b:Nat)(a:Int)(h:
 C3 a 0 (
 E b w 0 fun f c g=>
 G a c (
 B4 a b w 0 fun i j d=>
 E1 d a w 3 fun e=>
 A1 (decide (e>(0:Int))) R w) (
 F R w)) (
 F R w)):Ca 85 #[(.pointer (some (⟨b,0,none⟩:Addr))),(.int .i64 a)] w R:=
 cV Tryz.func85 (.at_ 1 6 (.at_ 1 15 O O) O) h
theorem zU.calls (a b:Int)(c:OA)(d e:Nat)(h:
 M5 a b d e c w 181 fun f=>
 D w.heap.size f 1 fun g=>
 A1 (g==(0:Int)) R f):Ca 108 #[(.agg #[(.int .i64 a),(.int .i64 b),(.slice c d e)])] w R:=
 cV Tryz.func108 O h
theorem bf.NX (e:OA)(c m:Nat)(h:
 A2 w fun n q a o b=>
 G a c (
 H a c e fun d=>
 ∃ (f g:Int) (i:OA) (j k:Nat),(b.cell? (d.add (a.toNat*3))=some (.int .i64 f)∧b.cell? ((d.add (a.toNat*3)).add 1)=some (.int .i64 g)∧b.cell? ((d.add (a.toNat*3)).add 2)=some (.slice i j k))∧
 P3 f g j k i b 108 fun l p=>
 Br p (
 B a R l) (
 X a n o l)) (
 B (-1) R b)):Ca 107 #[(.slice e c m),(.func (.func 108) #[] #[])] w R:=
 cV Tryz.func107 (.lp ([N 4,N 5,I 8]++nn 9 10) (.c (.c O O) O)) h
theorem CV.calls (c:Nat)(a:Int)(h:
 W a 1 (
 A6 0 1 R w) (
 B2 a 2147483647 (
 A6 0 1 R w) (
 E c w 0 fun e f g=>
 M6 f g e w 107 108 fun d b=>
 W b 0 (
 A6 0 11 R d) (
 B4 b c d 0 fun k l i=>
 S2 i b a 1 0 d fun j=>
 A6 b 0 R j)))):Ca 76 #[(.pointer (some (⟨c,0,none⟩:Addr))),(.int .i64 a)] w R:=
 cV Tryz.func76 (.k (.at_ 3 2 (.k O) (.c O (.c O O)))) h
theorem yA.calls (a:Int)(b:Nat)(h:
 A4 b w 0 fun c=>
 N6 a c w 85 fun d e=>
 A1 (!e) R d):Ca 146 #[(.int .i64 a),(.pointer (some (⟨b,0,none⟩:Addr)))] w R:=
 cV Tryz.func146 O h
theorem cj.ED (a:OA)(b c d:Nat)(h:
 I2 b c d a w 91 146 fun e f=>
 A1 (decide (f≥(0:Int))) R e):Ca 52 #[(.slice a b c),(.func (.func 146) #[] #[(.pointer (some (⟨d,0,none⟩:Addr)))])] w R:=
 cV Tryz.func52 O h
theorem bf.ED (d:OA)(b i e:Nat)(h:
 A2 w fun j n a k c=>
 G a b (
 V a b d c 1 fun l=>
 Calls Tryz.prog 146 #[(.int .i64 l),(.pointer (some ⟨e,0,none⟩))] c (bc fun m f=>∃ g:Bool,m=(.bool g)∧
 Br g (
 B a R f) (
 X a j k f))) (
 B (-1) R c)):Ca 91 #[(.slice d b i),(.func (.func 146) #[] #[(.pointer (some (⟨e,0,none⟩:Addr)))])] w R:=
 cV Tryz.func91 (.lp ([N 4,N 5,I 8]++nn 9 10) (.c (.c O O) O)) h
theorem BG.calls (b:Nat)(c:OA)(d e:Nat)(h:
 J7 b w 89 fun a=>
 A4 w.heap.size a 0 fun g=>
 Br g.isNone (
 B 2 R a) (
 L1 d e w.heap.size c a 52 146 fun f i=>
 Br i (
 B 8 R f) (
 B 0 R f))):Ca 106 #[(.pointer (some (⟨b,0,none⟩:Addr))),(.slice c d e)] w R:=
 cV Tryz.func106 (.c O (.c O O)) h
theorem Cp.calls (d:Nat)(e:OA)(b g:Nat)(h:
 P4 d b g e w 106 fun i j=>
 F0 j 0 (
 B j R i) (
 A2 i fun k s f l a=>
 G f b (
 V f b e a 1 fun c=>
 B4 c d a 0 fun m n o=>
 E1 o c a 3 fun p=>
 H c n m fun q=>
 P5 q c (i64.wrap (p+1)) a fun r=>
 X f k l r) (
 B 0 R a))):Ca 75 #[(.pointer (some (⟨d,0,none⟩:Addr))),(.slice e b g)] w R:=
 cV Tryz.func75 (.c O (.lp ([N 7,I 16]++nn 17 15) (.c O O))) h
theorem Dg.calls (b:Nat)(i:OA)(c o:Nat)(h:
 P4 b c o i w 106 fun d p=>
 F0 p 0 (
 B p R d) (
 ∀ q:World,q=d.alloc (.map #[] 0)→
 A2 q fun y z l a0 m=>
 G l c (
 V l c i m 1 fun e=>
 ∃ r:Int,∃ s:World,(Instr.lookup 193 (.map (some d.heap.size)) (.int .i64 e) false).run Tryz.prog m = .ok (.int .i64 r) s∧
 ∃ t:World,(Instr.mapUpdate 193 (.map (some d.heap.size)) (.int .i64 e) (.int .i64 (i64.wrap (r+1)))).run Tryz.prog s = .ok () t∧
 C t fun n a1=>
 Y b n 0 fun a2 a3 aF=>
 H e a3 a2 fun a4=>
 F5 a4 e n 3 1 fun a5=>
 ∃ u:Int,∃ j:World,(Instr.lookup 193 (.map (some d.heap.size)) (.int .i64 e) false).run Tryz.prog a1 = .ok (.int .i64 u) j∧
 n j∧
 Br (decide (u>a5)) (
 B 8 R j) (
 X l y a0 j)) (
 A2 m fun v z k x f=>
 G k c (
 V k c i f 1 fun a=>
 B4 a b f 0 fun a6 a7 a8=>
 E1 a8 a f 3 fun a9=>
 H a a7 a6 fun aA=>
 P5 aA a (i64.wrap (a9-1)) f fun g=>
 B4 a b g 0 fun aG aH aB=>
 E1 aB a g 3 fun aC=>
 P aC 0 (
 B4 a b g 0 fun aI aJ aD=>
 S3 aD a 0 0 g fun aE=>
 X k v x aE) (
 X k v x g)) (
 B 0 R f)))):Ca 83 #[(.pointer (some (⟨b,0,none⟩:Addr))),(.slice i c o)] w R:=
 cV Tryz.func83 (.c O (.lp ([N 4,N 8,I 20]++nn 21 20) (.c (T 0 2 (T 3 8 (L 2 (.tk 11 (.fin (.c O O)))))) (.lp ([N 10,I 43]++nn 44 31) (.c (.c O O) O))))) h
theorem EL.calls (e:Nat)(b:Int)(m:OA)(n o:Nat)(p:OA)(q r:Nat)(h:
 C1 n o q r m p w 157 fun aD=>
 H2 b e aD 85 fun c aE=>
 U aE (
 B 8 R c) (
 B4 b e c 0 fun bC bD aF=>
 E1 aF b c 3 fun aG=>
 B2 aG 1 (
 B 7 R c) (
 B4 b e c 0 fun bE bF aH=>
 F6 aH b c 3 2 fun bG aI bH=>
 K8 aI 4 (
 B 10 R c) (
 C c fun a f=>
 Y e a 0 fun i j bI=>
 Y e a 0 fun aJ aK bJ=>
 H b aK aJ fun k=>
 M7 w.heap.size a 0 1 fun s t u v x y=>
 (
 F6 k b f 3 2 fun aL aM aN=>
 a f∧
 P6 t u x y s v f fun l aO aP aQ aR aS aT=>
 a l∧
 C1 aP aQ aS aT aO aR l 157 fun z=>
 a z∧
 M aM aN l.heap.size 1 aL z 160 fun aU aV aW a0=>
 a a0∧
 H b j i fun aX=>
 G4 aX b aV aW aU a0 3 2 fun a1=>
 a a1∧
 B 0 R a1) ∧
 (
 P6 t u x y s v f fun d a2 a3 a4 a5 a6 a7=>
 a d∧
 (
 F6 k b d 3 2 fun aY aZ b0=>
 a d∧
 C1 a3 a4 a6 a7 a2 a5 d 157 fun a8=>
 a a8∧
 M aZ b0 d.heap.size 1 aY a8 160 fun b1 b2 b3 a9=>
 a a9∧
 H b j i fun b4=>
 G4 b4 b b2 b3 b1 a9 3 2 fun aA=>
 a aA∧
 B 0 R aA) ∧
 (
 C1 a3 a4 a6 a7 a2 a5 d 157 fun g=>
 a g∧
 F6 k b g 3 2 fun b5 b6 b7=>
 a g∧
 M b6 b7 d.heap.size 1 b5 g 160 fun b8 b9 bA aB=>
 a aB∧
 H b j i fun bB=>
 G4 bB b b9 bA b8 aB 3 2 fun aC=>
 a aC∧
 B 0 R aC) ∧
 True) ∧
 True)))):Ca 81 #[(.pointer (some (⟨e,0,none⟩:Addr))),(.int .i64 b),(.agg #[(.slice m n o),(.slice p q r)])] w R:=
 cV Tryz.func81 (.k (.c O (.c O (.c O (T 0 12 (.tk 13 (.alt 12 (L 14 (L 15 (L 16 (T 17 2 (L 19 (.fin O)))))) (L 14 (.alt 12 (L 15 (L 16 (T 17 2 (L 19 (.fin O))))) (L 15 (L 12 (L 16 (T 17 2 (L 19 (.fin O))))))))))))))) h
theorem xK.calls (e:Nat)(n:OA)(f x:Nat)(h:
 D0 w 0 fun g=>
 A7 g fun y i j k b o l=>
 G b f (
 V b f n l 1 fun m=>
 H2 m e l 85 fun c z=>
 U z (
 F3 b o j k i g c) (
 B4 m e c 0 fun aO aP a0=>
 F6 a0 m c 3 2 fun a1 p aQ=>
 N8 j k i c fun q=>
 A7 q fun y r s t d a2 a=>
 G d p (
 H d p a1 fun a3=>
 M8 a3 d a fun a4 a5 a6 a7 a8 a9=>
 D6 0 a 157 fun aA=>
 E2 a.heap.size a5 a6 a8 a9 a4 a7 aA fun u=>
 C9 a.heap.size u fun aB aC aD aE aF aG=>
 P6 aC aD aF aG aB aE u fun v aH aI aJ aK aL aM=>
 C1 aI aJ aL aM aH aK v 157 fun aN=>
 B5 d s t v.heap.size 1 a2 r q aN 160 1) (
 F3 b o s t r g a))) (
 A0 j k i R l)):Ca 80 #[(.pointer (some (⟨e,0,none⟩:Addr))),(.slice n f x)] w R:=
 cV Tryz.func80 (.lp ([S 4,N 6,N 8,I 11]++nn 12 27) (.c (.c O (.lp ([S 4,N 8,I 28]++nn 29 9) (.c O O))) O)) h
theorem zG.calls (b:Nat)(c:Int)(h:
 H2 c b w 85 fun a d=>
 U d (
 B 0 R a) (
 E b a 0 fun e f i=>
 V c f e a 3 fun g=>
 B g R a)):Ca 121 #[(.pointer (some (⟨b,0,none⟩:Addr))),(.int .i64 c)] w R:=
 cV Tryz.func121 (.c O O) h
theorem Cm.calls (c:Nat)(a:Int)(h:
 H2 a c w 85 fun b d=>
 U d (
 B 0 R b) (
 B4 a c b 0 fun g i e=>
 E1 e a b 3 fun f=>
 B f R b)):Ca 110 #[(.pointer (some (⟨c,0,none⟩:Addr))),(.int .i64 a)] w R:=
 cV Tryz.func110 (.c O O) h
theorem EY.calls (a:Nat)(h:
 E a w 0 fun c b d=>
 B (b:Int) R w):Ca 69 #[(.pointer (some (⟨a,0,none⟩:Addr)))] w R:=
 cV Tryz.func69 (.k O) h
theorem Da.calls (b:Nat)(h:
 Calls Tryz.prog 69 #[(.pointer (some ⟨b,0,none⟩))] w (bc fun k l=>∃ f:Int,k=(.int .i64 f)∧
 E5 l 0 fun c=>
 C0 c fun n d a g i=>
 B8 a f (
 H2 a b i 85 fun j m=>
 U m (
 Z g fun e=>
 c (i64.wrap (d+1)) (i64.wrap (a+1)) e j) (
 Z g fun e=>
 c d (i64.wrap (a+1)) e j)) (
 B d R i))):Ca 45 #[(.pointer (some (⟨b,0,none⟩:Addr)))] w R:=
 cV Tryz.func45 (.lp ([I 3,N 4,I 7]++nn 8 9) (.c (.c O O) O)) h
end Go.Proofs.YtkbikekbaboclaaGreat.Vc
namespace Go.Proofs.YtkbikekbaboclaaGreat.Vc
open Go Go.Proofs V Vm
open Go.IntKind (i64)
variable {w:World}{R:Value→World→Prop}
theorem zC.calls (a:Int)(h:
 S1 a 0 0 w 138 fun b=>
 ∀ c:World,c=b.alloc (.cells #[(.slice (some ⟨w.heap.size,0,none⟩) a.toNat a.toNat)] 135 (0,0))→
 K1 b.heap.size R c):Ca 54 #[(.int .i64 a)] w R:=
 cV Tryz.func54 O h
theorem tj.calls (i:Nat)(f:OA)(c t:Nat)(k:Int)(h:
 A5 w 138 fun n=>
 E i n 0 fun u v x=>
 D7 w.heap.size 0 v x u n 133 fun d a y z=>
 A2 z fun a0 a1 e a2 l=>
 G e c (
 V e c f l 1 fun a3=>
 H2 a3 i l 92 fun g a4=>
 U a4 (
 B 8 R g) (
 V e c f g 1 fun o=>
 H o a d fun a5=>
 E1 a5 o g 3 fun a6=>
 Br (decide ((i64.wrap (a6+k))<(0:Int))) (
 B 8 R g) (
 C g fun m a7=>
 B3 e c f m fun p=>
 B3 e c f m fun q=>
 H q a d fun a8=>
 F5 a8 q m 3 1 fun a9=>
 H p a d fun aA=>
 P5 aA p (i64.wrap (a9+k)) a7 fun aB=>
 X e a0 a2 aB))) (
 A2 l fun r a1 b s j=>
 G b a (
 H b a d fun aC=>
 E1 aC b j 3 fun aD=>
 P aD 0 (
 H b a d fun aE=>
 S3 aE b 0 0 j fun aF=>
 X b r s aF) (
 X b r s j)) (
 A9 i a y d j 0 fun aG=>
 B 0 R aG))):Ca 60 #[(.pointer (some (⟨i,0,none⟩:Addr))),(.slice f c t),(.int .i64 k)] w R:=
 cV Tryz.func60 (.lp ([N 6,I 8]++nn 16 43) (.c (.at_ 5 7 (.k O) (.c O (T 0 17 (.last 17 (.fin O))))) (.lp ([I 9]++nn 59 16) (.c (.c O O) O)))) h
theorem tP.calls (d:Nat)(b:Int)(u:OA)(v x:Nat)(y:OA)(z a0:Nat)(h:
 C1 v x z a0 u y w 122 fun a9=>
 H2 b d a9 92 fun c aA=>
 U aA (
 B 8 R c) (
 B4 b d c 0 fun b6 b7 aB=>
 E1 aB b c 3 fun aC=>
 B2 aC 1 (
 B 7 R c) (
 B4 b d c 0 fun b8 b9 aD=>
 F6 aD b c 3 2 fun bA aE bB=>
 K8 aE 4 (
 B 10 R c) (
 C c fun a e=>
 Y d a 0 fun g i bC=>
 Y d a 0 fun aF aG bD=>
 H b aG aF fun aH=>
 O6 aH b a 3 2 fun j k l=>
 M7 w.heap.size a 0 1 fun m n o p q r=>
 (
 A5 e 122 fun f=>
 a f∧
 (
 D7 e.heap.size 0 k l j f 136 fun aI aJ aK s=>
 a s∧
 C1 n o q r m p s 122 fun a1=>
 a a1∧
 M aJ aK s.heap.size 1 aI a1 136 fun aL aM aN a2=>
 a a2∧
 H b i g fun aO=>
 G4 aO b aM aN aL a2 3 2 fun aP=>
 B 0 R aP) ∧
 (
 C1 n o q r m p f 122 fun a3=>
 a a3∧
 D7 e.heap.size 0 k l j a3 136 fun aQ aR aS a4=>
 a a4∧
 M aR aS f.heap.size 1 aQ a4 136 fun aT aU aV a5=>
 a a5∧
 H b i g fun aW=>
 G4 aW b aU aV aT a5 3 2 fun aX=>
 B 0 R aX) ∧
 True) ∧
 (
 C1 n o q r m p e 122 fun t=>
 a t∧
 A5 t 122 fun a6=>
 a a6∧
 D7 t.heap.size 0 k l j a6 136 fun aY aZ b0 a7=>
 a a7∧
 M aZ b0 e.heap.size 1 aY a7 136 fun b1 b2 b3 a8=>
 a a8∧
 H b i g fun b4=>
 G4 b4 b b2 b3 b1 a8 3 2 fun b5=>
 B 0 R b5) ∧
 True)))):Ca 58 #[(.pointer (some (⟨d,0,none⟩:Addr))),(.int .i64 b),(.agg #[(.slice u v x),(.slice y z a0)])] w R:=
 cV Tryz.func58 (.c O (.c O (.c O (T 0 5 (T 6 8 (.tk 15 (.alt 5 (.alt 14 (L 16 (L 17 (T 18 2 (.last 20 (.fin O))))) (L 16 (L 14 (L 17 (T 18 2 (.last 20 (.fin O))))))) (L 16 (L 5 (L 14 (L 17 (T 18 2 (.last 20 (.fin O)))))))))))))) h
theorem sK.calls (c:Nat)(d:Int)(h:
 W d 1 (
 A6 0 1 R w) (
 B2 d 2147483647 (
 A6 0 1 R w) (
 A2 w fun e m a f b=>
 E c b 0 fun n g o=>
 G a g (
 B4 a c b 0 fun p q i=>
 E1 i a b 3 fun j=>
 P j 0 (
 B4 a c b 0 fun r s k=>
 S2 k a d 1 0 b fun l=>
 A6 a 0 R l) (
 X a e f b)) (
 A6 0 11 R b)))):Ca 56 #[(.pointer (some (⟨c,0,none⟩:Addr))),(.int .i64 d)] w R:=
 cV Tryz.func56 (.at_ 1 2 (.k O) (.c O (.lp ([N 4,N 5,I 6]++nn 13 27) (.c (.c O O) O)))) h
theorem ug.calls (b:Nat)(a:Int)(h:
 C3 a 0 (
 E b w 0 fun f c g=>
 G a c (
 B4 a b w 0 fun i j d=>
 E1 d a w 3 fun e=>
 A1 (decide (e>(0:Int))) R w) (
 F R w)) (
 F R w)):Ca 92 #[(.pointer (some (⟨b,0,none⟩:Addr))),(.int .i64 a)] w R:=
 cV Tryz.func92 (.at_ 1 2 (.at_ 1 11 O O) O) h
theorem sY.calls (c:Nat)(h:
 E5 w 0 fun d=>
 C0 d fun l e b g a=>
 E c a 0 fun m i n=>
 G b i (
 B4 b c a 0 fun o p j=>
 E1 j b a 3 fun k=>
 P k 0 (
 Z g fun f=>
 d (i64.wrap (e+1)) (i64.wrap (b+1)) f a) (
 Z g fun f=>
 d e (i64.wrap (b+1)) f a)) (
 B e R a)):Ca 33 #[(.pointer (some (⟨c,0,none⟩:Addr)))] w R:=
 cV Tryz.func33 (.lp ([I 3,I 4]++nn 5 20) (.c (.c O O) O)) h
end Go.Proofs.YtkbikekbaboclaaGreat.Vc
namespace Go.Proofs.YtkbikekbaboclaaGreat.Vc
open Go Go.Proofs V Vm
open Go.IntKind (i64)
variable {w:World}{R:Value→World→Prop}
theorem Lo.calls (a:Nat)(h:
 ∀ b:World,b=w.alloc (.cells #[(.pointer (some ⟨a,0,none⟩)),(.slice none 0 0)] 145 (0,0))→
 K1 w.heap.size R b):Ca 37 #[(.pointer (some (⟨a,0,none⟩:Addr)))] w R:=
 cV Tryz.func37 (.k O) h
theorem At.calls (a:Int)(h:
 B2 a 0 (
 Br (decide (a≤(32:Int))) (
 (4:Int)≠0∧
 A1 ((Int.tmod a 4)==(0:Int)) R w) (
 F R w)) (
 F R w)):Ca 120 #[(.int .i64 a)] w R:=
 cV Tryz.func120 (.at_ 1 2 (.at_ 1 6 O O) O) h
theorem wu.calls (b:Int)(c:OA)(d e:Nat)(f:Int)(g i:Nat)(h:
 H3 b f d e c w 151 fun a=>
 D w.heap.size a 0 fun j=>
 D g a 0 fun k=>
 Br (j==k) (
 E w.heap.size a 1 fun l m n=>
 E i a 0 fun o p q=>
 G0 m n p q l o a 105 fun r s=>
 A1 s R r) (
 F R a)):Ca 104 #[(.agg #[(.int .i64 b),(.slice c d e),(.int .i64 f)]),(.pointer (some (⟨g,0,none⟩:Addr))),(.pointer (some (⟨i,0,none⟩:Addr)))] w R:=
 cV Tryz.func104 (.at_ 1 4 O O) h
theorem bf.NR (d:OA)(b i e f:Nat)(h:
 A2 w fun j s a k c=>
 G a b (
 H a b d fun l=>
 K4 l a c fun m n o p q=>
 P7 m q o p e f n c 104 fun g r=>
 Br r (
 B a R g) (
 X a j k g)) (
 B (-1) R c)):Ca 103 #[(.slice d b i),(.func (.func 104) #[] #[(.pointer (some (⟨e,0,none⟩:Addr))),(.pointer (some (⟨f,0,none⟩:Addr)))])] w R:=
 cV Tryz.func103 (.lp ([N 4,N 5,I 8]++nn 9 10) (.c (.c O O) O)) h
theorem Ax.calls (a:Nat)(b:Int)(c:OA)(d e:Nat)(h:
 Q b w fun f=>
 B6 d e c f 35 fun g=>
 E a g 1 fun j k l=>
 Calls Tryz.prog 103 #[(.slice j k l),(.func (.func 104) #[] #[(.pointer (some ⟨w.heap.size,0,none⟩)),(.pointer (some ⟨f.heap.size,0,none⟩))])] g (bc fun m n=>∃ i:Int,m=(.int .i64 i)∧
 B i R n)):Ca 73 #[(.pointer (some (⟨a,0,none⟩:Addr))),(.int .i64 b),(.slice c d e)] w R:=
 cV Tryz.func73 O h
theorem sR.calls (e:OA)(a c:Nat)(f b:Int)(h:
 (0≤f∧f≤b∧b≤(a:Int)∧(a:Int)≤(c:Int))∧
 Br (f==b) (
 A0 a c e R w) (
 C w fun k l=>
 E4 f c (
 E4 b a (
 H0 (f.toNat-0) (c-0) (a-b.toNat) (c-b.toNat) (if c=0 then e else e.map (·.add (0*3))) (if c=b.toNat then e else e.map (·.add (b.toNat*3))) l 143 fun i d g j=>
 k j∧
 (0≤(d:Int)∧(d:Int)≤(a:Int)∧(a:Int)≤(g:Int))∧
 O8 ((a:Int).toNat-(d:Int).toNat) (g-(d:Int).toNat) (if g=(d:Int).toNat then i else i.map (·.add ((d:Int).toNat*3))) j 143 fun m=>
 A0 d g i R m)))):Ca 74 #[(.slice e a c),(.int .i64 f),(.int .i64 b)] w R:=
 cV Tryz.func74 (.c O (T 0 6 (L 6 (.tk 7 (.fin O))))) h
theorem BX.calls (a:Nat)(b c:Int)(g:OA)(d i:Nat)(h:
 H4 (d:Int) w 120 fun n s=>
 U s (
 B 1 R n) (
 K7 c a d i g n 73 fun j t=>
 C3 t 0 (
 B 9 R j) (
 A4 a j 0 fun u=>
 I1 b u j 110 fun k v=>
 P v 0 (
 B 8 R k) (
 A4 a k 0 fun x=>
 I1 b x k 121 fun e y=>
 Br (y != c) (
 B 8 R e) (
 A4 a e 0 fun z=>
 Q b e fun a0=>
 Calls Tryz.prog 80 #[(.pointer z),(.slice (some ⟨e.heap.size,0,none⟩) 1 1)] a0 (bc fun a1 o=>∃ (a2:OA) (p a3:Nat),a1=(.slice a2 p a3)∧
 Br ((p:Int) != (4:Int)) (
 B 8 R o) (
 C o fun f a4=>
 Y a f 1 fun a5 a6 a7=>
 C4 d i g a4 51 fun l a8 a9 aA=>
 f l∧
 H3 c b a9 aA a8 l 151 fun q=>
 f q∧
 M a6 a7 l.heap.size 1 a5 q 143 fun aB aC aD r=>
 f r∧
 A9 a aC aD aB r 1 fun m=>
 A4 a m 0 fun aE=>
 Q b m fun aF=>
 P8 m.heap.size 1 aE aF 75 fun aG aH=>
 B aH R aG))))))):Ca 82 #[(.pointer (some (⟨a,0,none⟩:Addr))),(.int .i64 b),(.int .i64 c),(.slice g d i)] w R:=
 cV Tryz.func82 (.k (.c O (.c O (.at_ 7 7 (.k O) (.at_ 7 17 (.k O) (.c O (T 0 7 (.tk 8 (L 7 (.tk 9 (L 10 (L 11 (T 12 2 (.last 14 (.fin O))))))))))))))) h
theorem Bj.calls (c:Nat)(v:Int)(k:OA)(x f:Nat)(h:
 ∃ l:OA→Nat→Nat→World→Prop,(
 D0 w 4 fun m=>
 A7 m fun aD g i j e y z=>
 G e x (
 E4 e f (
 K7 v c (e.toNat-0) (f-0) (if f=0 then k else k.map (·.add (0*1))) z 73 fun a d=>
 W d 0 (
 l g i j a) (
 B4 d c a 1 fun b6 b7 aE=>
 K4 aE d a fun aF aG aH aI aJ=>
 J1 0 0 a 151 fun aK=>
 J2 aF aJ a.heap.size aH aI aG aK fun aL=>
 C aL fun b n=>
 Y c b 1 fun a0 a1 a2=>
 S4 a.heap.size b fun a3 a4 a5 a6 a7=>
 (
 M1 d (i64.wrap (d+1)) a1 a2 a0 n 74 fun o aM aN aO=>
 b o∧
 H3 a3 a7 a5 a6 a4 o 151 fun a8=>
 b a8∧
 M aN aO o.heap.size 1 aM a8 143 fun aP aQ aR a9=>
 b a9∧
 A9 c aQ aR aP a9 1 fun p=>
 D a.heap.size p 2 fun aS=>
 Q aS p fun aT=>
 B5 e i j p.heap.size 1 y g m aT 35 4) ∧
 (
 H3 a3 a7 a5 a6 a4 n 151 fun aA=>
 b aA∧
 M1 d (i64.wrap (d+1)) a1 a2 a0 aA 74 fun aB aU aV aW=>
 b aB∧
 M aV aW n.heap.size 1 aU aB 143 fun aX aY aZ aC=>
 b aC∧
 A9 c aY aZ aX aC 1 fun q=>
 D a.heap.size q 2 fun b0=>
 Q b0 q fun b1=>
 B5 e i j q.heap.size 1 y g m b1 35 4) ∧
 True))) (
 l g i j z)) ∧
 ∀ (aD:Nat→Value) (r:OA) (s:Nat) (t:Nat),∀ u:World,l r s t u→
 A4 c u 0 fun b2=>
 Calls Tryz.prog 75 #[(.pointer b2),(.slice r s t)] u (bc fun b3 b4=>∃ b5:Int,b3=(.int .i64 b5)∧
 A0 s t r R b4)):Ca 40 #[(.pointer (some (⟨c,0,none⟩:Addr))),(.int .i64 v),(.slice k x f)] w R:=
 cV Tryz.func40 (.k (.cut 0 ([S 6]++nn 7 3++nn 12 40) (.lp ([S 6,I 7,N 8,N 9]++nn 12 40) (.c (.c O (T 0 8 (.tk 9 (.alt 8 (L 10 (L 11 (T 12 2 (.last 14 (.fin O))))) (L 10 (L 8 (L 11 (T 12 2 (.last 14 (.fin O)))))))))) O)) O)) h
theorem vS.calls (b:Int)(c:OA)(d e:Nat)(f:Int)(g:Nat)(h:
 H3 b f d e c w 151 fun j=>
 C j fun a k=>
 B7 g a 0 fun l=>
 A3 l fun m=>
 P9 m a fun n=>
 B1 w.heap.size a 2 fun o=>
 I1 o n k 110 fun i p=>
 a i∧
 A1 (p==(1:Int)) R i):Ca 109 #[(.agg #[(.int .i64 b),(.slice c d e),(.int .i64 f)]),(.pointer (some (⟨g,0,none⟩:Addr)))] w R:=
 cV Tryz.func109 (T 0 6 (L 6 (T 7 2 (.fin O)))) h
theorem bf.PR (d:OA)(b i e:Nat)(h:
 A2 w fun j s a k c=>
 G a b (
 H a b d fun l=>
 K4 l a c fun m n o p q=>
 Calls Tryz.prog 109 #[(.agg #[(.int .i64 m),(.slice n o p),(.int .i64 q)]),(.pointer (some ⟨e,0,none⟩))] c (bc fun r f=>∃ g:Bool,r=(.bool g)∧
 Br g (
 B a R f) (
 X a j k f))) (
 B (-1) R c)):Ca 103 #[(.slice d b i),(.func (.func 109) #[] #[(.pointer (some (⟨e,0,none⟩:Addr)))])] w R:=
 cV Tryz.func103 (.lp ([N 4,N 5,I 8]++nn 9 10) (.c (.c O O) O)) h
theorem zY.calls (f:Nat)(h:
 J7 f w 91 fun b=>
 A4 w.heap.size b 0 fun n=>
 Br n.isNone (
 F R b) (
 A4 w.heap.size b 0 fun o=>
 A3 o fun p=>
 F4 p b 1 fun q r s=>
 I2 r s w.heap.size q b 103 109 fun g c=>
 W c 0 (
 F R g) (
 C g fun a i=>
 B7 w.heap.size a 0 fun t=>
 A3 t fun u=>
 P9 u a fun v=>
 B7 w.heap.size a 0 fun x=>
 A3 x fun y=>
 J0 y a 1 fun z a0 aD=>
 H c a0 z fun a1=>
 F5 a1 c a 3 2 fun a2=>
 Q a2 i fun j=>
 a j∧
 P8 i.heap.size 1 v j 83 fun k aE=>
 a k∧
 C k fun d a3=>
 B7 w.heap.size d 0 fun a4=>
 B7 w.heap.size d 0 fun a5=>
 A3 a5 fun a6=>
 J0 a6 d 1 fun a7 a8 a9=>
 M1 c (i64.wrap (c+1)) a8 a9 a7 a3 74 fun e aA aB aC=>
 d e∧
 A3 a4 fun l=>
 (dr e (l.add 1))∧∀ m:World,m=(e.setCell (l.add 1) (.slice aA aB aC))→
 C8 R m))):Ca 77 #[(.pointer (some (⟨f,0,none⟩:Addr)))] w R:=
 cV Tryz.func77 (.c O (.c O (T 0 12 (L 12 (L 13 (.fin (T 0 8 (L 8 (T 9 2 (.last 11 (.fin O))))))))))) h
theorem uB.calls (e:Int)(f:OA)(g i:Nat)(j:Int)(c k:Nat)(h:
 H3 e j g i f w 151 fun a=>
 D w.heap.size a 0 fun n=>
 D c a 0 fun o=>
 Br (n==o) (
 C a fun b l=>
 B7 k b 0 fun p=>
 A3 p fun q=>
 P9 q b fun r=>
 B1 w.heap.size b 2 fun s=>
 Q s l fun m=>
 b m∧
 P8 l.heap.size 1 r m 83 fun d y=>
 b d∧
 D w.heap.size d 0 fun t=>
 D c d 0 fun u=>
 A1 (t==u) R d) (
 D w.heap.size a 0 fun v=>
 D c a 0 fun x=>
 A1 (v==x) R a)):Ca 87 #[(.agg #[(.int .i64 e),(.slice f g i),(.int .i64 j)]),(.pointer (some (⟨c,0,none⟩:Addr))),(.pointer (some (⟨k,0,none⟩:Addr)))] w R:=
 cV Tryz.func87 (.c (T 0 6 (L 6 (L 7 (.fin O)))) O) h
theorem bf.Fw (d:OA)(b i e f:Nat)(h:
 A2 w fun j s a k c=>
 G a b (
 H a b d fun l=>
 K4 l a c fun m n o p q=>
 P7 m q o p e f n c 87 fun g r=>
 Br r (
 B a R g) (
 X a j k g)) (
 B (-1) R c)):Ca 103 #[(.slice d b i),(.func (.func 87) #[] #[(.pointer (some (⟨e,0,none⟩:Addr))),(.pointer (some (⟨f,0,none⟩:Addr)))])] w R:=
 cV Tryz.func103 (.lp ([N 4,N 5,I 8]++nn 9 10) (.c (.c O O) O)) h
theorem AZ.Fw (b:OA)(c d l m:Nat)(h:
 Calls Tryz.prog 103 #[(.slice b c d),(.func (.func 87) #[] #[(.pointer (some ⟨l,0,none⟩)),(.pointer (some ⟨m,0,none⟩))])] w (bc fun s o=>∃ j:Int,s=(.int .i64 j)∧
 Br (j==(-1:Int)) (
 A0 c d b R o) (
 ∃ k:Int→Int→Nat→World→Prop,(∃ t:Nat,k j (i64.wrap (j+1)) t o)∧
 C0 k fun aE a i p e=>
 G i c (
 H i c b fun u=>
 K4 u i e fun v x y z a0=>
 J1 0 0 e 151 fun a1=>
 J2 v a0 e.heap.size y z x a1 fun q=>
 M9 e.heap.size q fun a2 a3 a4 a5 a6=>
 P7 a2 a6 a4 a5 l m a3 q 87 fun f a7=>
 U a7 (
 M9 e.heap.size f fun a8 a9 aA aB aC=>
 H a c b fun g=>
 (dr f (g.add (a.toNat*3))∧dr f ((g.add (a.toNat*3)).add 1)∧dr f ((g.add (a.toNat*3)).add 2))∧∀ r:World,r=(((f.setCell (g.add (a.toNat*3)) (.int .i64 a8)).setCell ((g.add (a.toNat*3)).add 1) (.slice a9 aA aB)).setCell ((g.add (a.toNat*3)).add 2) (.int .i64 aC))→
 Z p fun n=>
 k (i64.wrap (a+1)) (i64.wrap (i+1)) n r) (
 Z p fun n=>
 k a (i64.wrap (i+1)) n f)) (
 E4 a c (
 O8 (c-a.toNat) (d-a.toNat) (if d=a.toNat then b else b.map (·.add (a.toNat*3))) e 143 fun aD=>
 E4 a d (
 A0 (a.toNat-0) (d-0) (if d=0 then b else b.map (·.add (0*3))) R aD)))))):Ca 86 #[(.slice b c d),(.func (.func 87) #[] #[(.pointer (some (⟨l,0,none⟩:Addr))),(.pointer (some (⟨m,0,none⟩:Addr)))])] w R:=
 cV Tryz.func86 (.c O (.lp ([I 5,I 6,N 7]++nn 16 20) (.c (.c O O) O))) h
theorem yS.calls (d:Nat)(e:Int)(h:
 J7 d w 91 fun f=>
 Q e f fun g=>
 A4 w.heap.size g 0 fun o=>
 F8 o g 46 fun i j=>
 P j 0 (
 B 0 R i) (
 C i fun a p=>
 B7 w.heap.size a 0 fun q=>
 B7 w.heap.size a 0 fun r=>
 A3 r fun s=>
 J0 s a 1 fun t u v=>
 Calls Tryz.prog 86 #[(.slice t u v),(.func (.func 87) #[] #[(.pointer (some ⟨f.heap.size,0,none⟩)),(.pointer (some ⟨w.heap.size,0,none⟩))])] p (bc fun x b=>∃ (k:OA) (l m:Nat),x=(.slice k l m)∧
 a b∧
 A3 q fun n=>
 (dr b (n.add 1))∧∀ c:World,c=(b.setCell (n.add 1) (.slice k l m))→
 A4 w.heap.size c 0 fun y=>
 F8 y c 46 fun z a0=>
 B (i64.wrap (j-a0)) R z))):Ca 47 #[(.pointer (some (⟨d,0,none⟩:Addr))),(.int .i64 e)] w R:=
 cV Tryz.func47 (.c O (T 0 6 (L 6 (T 7 2 (.last 9 (.fin O)))))) h
theorem Cd.calls (a:Nat)(h:
 E a w 1 fun c b d=>
 B (b:Int) R w):Ca 46 #[(.pointer (some (⟨a,0,none⟩:Addr)))] w R:=
 cV Tryz.func46 (.k O) h
end Go.Proofs.YtkbikekbaboclaaGreat.Vc
namespace Go.Proofs.YtkbikekbaboclaaGreat.Vc
open Go Go.Proofs V Vm
open Go.IntKind (i64)
variable {w:World}{R:Value→World→Prop}
theorem Hx.calls (a:Int)(b:Nat)(h:
 W a 0 (
 C8 R w) (
 A4 b w 0 fun d=>
 A3 d fun e=>
 ∃ c:Int,w.cell? e=some (.int .i64 c)∧
 A1 (decide (a≥c)) R w)):Ca 53 #[(.int .i64 a),(.pointer (some (⟨b,0,none⟩:Addr)))] w R:=
 cV Tryz.func53 (.at_ 1 2 O O) h
theorem cj.Ej (a:OA)(b c d:Nat)(h:
 I2 b c d a w 91 53 fun e f=>
 A1 (decide (f≥(0:Int))) R e):Ca 52 #[(.slice a b c),(.func (.func 53) #[] #[(.pointer (some (⟨d,0,none⟩:Addr)))])] w R:=
 cV Tryz.func52 O h
theorem bf.Ej (d:OA)(b i e:Nat)(h:
 A2 w fun j n a k c=>
 G a b (
 V a b d c 1 fun l=>
 Calls Tryz.prog 53 #[(.int .i64 l),(.pointer (some ⟨e,0,none⟩))] c (bc fun m f=>∃ g:Bool,m=(.bool g)∧
 Br g (
 B a R f) (
 X a j k f))) (
 B (-1) R c)):Ca 91 #[(.slice d b i),(.func (.func 53) #[] #[(.pointer (some (⟨e,0,none⟩:Addr)))])] w R:=
 cV Tryz.func91 (.lp ([N 4,N 5,I 8]++nn 9 10) (.c (.c O O) O)) h
theorem Ms.calls (e:Nat)(c:Int)(f:OA)(d g:Nat)(h:
 J7 e w 24 fun a=>
 A4 w.heap.size a 0 fun i=>
 Br i.isNone (
 B 2 R a) (
 F1 d (
 B 1 R a) (
 W c 1 (
 B 1 R a) (
 B2 c 32 (
 B 1 R a) (
 L1 d g w.heap.size f a 52 53 fun b j=>
 Br j (
 B 3 R b) (
 A4 w.heap.size b 0 fun k=>
 A3 k fun l=>
 J3 l b 5 fun m=>
 Br (decide ((i64.wrap ((d:Int)+c))>m)) (
 B 12 R b) (
 B 0 R b))))))):Ca 21 #[(.pointer (some (⟨e,0,none⟩:Addr))),(.int .i64 c),(.slice f d g)] w R:=
 cV Tryz.func21 (.c O (.at_ 3 3 (.k O) (.at_ 3 7 (.k O) (.c O (.c O (.c O O)))))) h
theorem NV.calls (a:Int)(b:OA)(c d:Nat)(h:
 C4 c d b w 90 fun f g i j=>
 L5 a i j g f 89 fun k e=>
 B (if (0:Int)>e then (0:Int) else e) R k):Ca 50 #[(.int .i64 a),(.slice b c d)] w R:=
 cV Tryz.func50 O h
end Go.Proofs.YtkbikekbaboclaaGreat.Vc
namespace Go.Proofs.YtkbikekbaboclaaGreat.Vc
open Go Go.Proofs V Vm
open Go.IntKind (i64)
variable {w:World}{R:Value→World→Prop}
theorem ML.calls (b c:Int)(d:OA)(e f:Nat)(g:Int)(i:OA)(j k:Nat)(h:
 C6 b c g e f j k d i w 37 fun a=>
 D w.heap.size a 3 fun l=>
 W l 1 (
 B 0 R a) (
 D w.heap.size a 3 fun m=>
 B2 m 32 (
 B 0 R a) (
 E w.heap.size a 2 fun p n q=>
 D w.heap.size a 3 fun o=>
 (4:Int)≠0∧
 B (i64.wrap (Int.tdiv (i64.wrap ((i64.wrap ((i64.wrap ((i64.wrap ((n:Int)+o))-1))+4))-1)) 4)) R a))):Ca 22 #[(.agg #[(.int .i64 b),(.int .i64 c),(.slice d e f),(.int .i64 g),(.slice i j k)])] w R:=
 cV Tryz.func22 (.at_ 1 3 (.k O) (.c O O)) h
theorem Hm.calls (f g:Int)(i:OA)(j k:Nat)(l:Int)(m:OA)(n o:Nat)(h:
 C6 f g l j k n o i m w 37 fun e=>
 ∀ p:World,p=e.alloc (.cells #[(.int .i64 0),(.int .i64 0),(.slice none 0 0),(.int .i64 0),(.slice none 0 0)] 37 (0,0))→
 ∃ c:World→Prop,(
 C p fun a b=>
 (
 E w.heap.size b 2 fun q r s=>
 a b∧
 (
 C4 r s q b 51 fun d a7 a8 a9=>
 a d∧
 E w.heap.size d 4 fun aA aB aC=>
 a d∧
 C4 aB aC aA d 51 fun t aD aE aF=>
 a t∧
 A9 w.heap.size a8 a9 a7 t 2 fun u=>
 a u∧
 A9 w.heap.size aE aF aD u 4 fun v=>
 a v∧
 c v) ∧
 (
 E w.heap.size b 4 fun aG aH aI=>
 a b∧
 C4 r s q b 51 fun x aJ aK aL=>
 a x∧
 C4 aH aI aG x 51 fun y aM aN aO=>
 a y∧
 A9 w.heap.size aK aL aJ y 2 fun z=>
 a z∧
 A9 w.heap.size aN aO aM z 4 fun a0=>
 a a0∧
 c a0) ∧
 True) ∧
 (
 E w.heap.size b 4 fun aP aQ aR=>
 a b∧
 E w.heap.size b 2 fun aS aT aU=>
 a b∧
 C4 aT aU aS b 51 fun a1 aV aW aX=>
 a a1∧
 C4 aQ aR aP a1 51 fun a2 aY aZ b0=>
 a a2∧
 A9 w.heap.size aW aX aV a2 2 fun a3=>
 a a3∧
 A9 w.heap.size aZ b0 aY a3 4 fun a4=>
 a a4∧
 c a4) ∧
 True) ∧
 E6 c fun bJ a5=>
 J4 w.heap.size a5 fun b1 b2 b3 b4 b5 b6 b7 b8 b9=>
 R2 b1 b2 b6 e.heap.size b4 b5 b8 b9 b3 b7 a5 fun a6=>
 J4 e.heap.size a6 fun bA bB bC bD bE bF bG bH bI=>
 R (.agg #[(.int .i64 bA),(.int .i64 bB),(.slice bC bD bE),(.int .i64 bF),(.slice bG bH bI)]) a6):Ca 20 #[(.agg #[(.int .i64 f),(.int .i64 g),(.slice i j k),(.int .i64 l),(.slice m n o)])] w R:=
 cV Tryz.func20 (.cut 1 (nn 3 8) (.tk 0 (.tk 3 (.alt 1 (.alt 2 (L 4 (.tk 6 (L 5 (L 7 (.tk 8 (L 9 (.fin O))))))) (L 4 (L 2 (.tk 6 (L 5 (L 7 (.tk 8 (L 9 (.fin O))))))))) (L 4 (L 1 (L 2 (.tk 6 (L 5 (L 7 (.tk 8 (L 9 (.fin O)))))))))))) O) h
theorem Pe.calls (a:Int)(h:
 W a 1 (
 R (.pointer none) w) (
 B2 a 64 (
 R (.pointer none) w) (
 ∀ b:World,b=w.alloc (.cells #[(.int .i64 a),(.slice none 0 0)] 177 (0,0))→
 K1 w.heap.size R b))):Ca 68 #[(.int .i64 a)] w R:=
 cV Tryz.func68 (.at_ 1 2 (.k O) (.c O O)) h
theorem Dc.calls (b c:Int)(d:OA)(e f:Nat)(g:Int)(i:OA)(j k l:Nat)(h:
 C6 b c g e f j k d i w 37 fun a=>
 D w.heap.size a 0 fun m=>
 D l a 0 fun n=>
 A1 (m==n) R a):Ca 145 #[(.agg #[(.int .i64 b),(.int .i64 c),(.slice d e f),(.int .i64 g),(.slice i j k)]),(.pointer (some (⟨l,0,none⟩:Addr)))] w R:=
 cV Tryz.func145 O h
theorem bf.Ok (e:OA)(d s f:Nat)(h:
 A2 w fun t x a u b=>
 G a d (
 H a d e fun c=>
 ∃ (g i:Int) (j:OA) (k l:Nat) (m:Int) (n:OA) (o p:Nat),(b.cell? (c.add (a.toNat*5))=some (.int .i64 g)∧b.cell? ((c.add (a.toNat*5)).add 1)=some (.int .i64 i)∧b.cell? ((c.add (a.toNat*5)).add 2)=some (.slice j k l)∧b.cell? ((c.add (a.toNat*5)).add 3)=some (.int .i64 m)∧b.cell? ((c.add (a.toNat*5)).add 4)=some (.slice n o p))∧
 Calls Tryz.prog 145 #[(.agg #[(.int .i64 g),(.int .i64 i),(.slice j k l),(.int .i64 m),(.slice n o p)]),(.pointer (some ⟨f,0,none⟩))] b (bc fun v q=>∃ r:Bool,v=(.bool r)∧
 Br r (
 B a R q) (
 X a t u q))) (
 B (-1) R b)):Ca 144 #[(.slice e d s),(.func (.func 145) #[] #[(.pointer (some (⟨f,0,none⟩:Addr)))])] w R:=
 cV Tryz.func144 (.lp ([N 4,N 5,I 8]++nn 9 10) (.c (.c O O) O)) h
theorem HV.calls (a:Nat)(b:Int)(h:
 Q b w fun c=>
 E a c 1 fun d e f=>
 I2 e f w.heap.size d c 144 145 fun g i=>
 B i R g):Ca 102 #[(.pointer (some (⟨a,0,none⟩:Addr))),(.int .i64 b)] w R:=
 cV Tryz.func102 O h
theorem Cn.calls (b i:Nat)(j k:Int)(l:OA)(m n:Nat)(o:Int)(p:OA)(q r:Nat)(h:
 C6 j k o m n q r l p w 37 fun a=>
 D w.heap.size a 0 fun y=>
 W y 1 (
 B 1 R a) (
 D w.heap.size a 0 fun z=>
 B2 z 2147483647 (
 B 1 R a) (
 E w.heap.size a 4 fun bA a0 bB=>
 G5 a0 32 (
 B 1 R a) (
 D w.heap.size a 0 fun a1=>
 I7 a1 b a 102 fun e a2=>
 C3 a2 0 (
 B 9 R e) (
 D w.heap.size e 3 fun a3=>
 E w.heap.size e 2 fun a4 a5 a6=>
 K7 a3 i a5 a6 a4 e 21 fun s t=>
 F0 t 0 (
 B t R s) (
 C s fun f a7=>
 G9 w.heap.size f 0 1 2 3 4 fun a8 a9 aA aB aC aD aE aF aG=>
 B1 b f 0 fun aH=>
 Calls Tryz.prog 22 #[(.agg #[(.int .i64 a8),(.int .i64 a9),(.slice aA aB aC),(.int .i64 aD),(.slice aE aF aG)])] a7 (bc fun aI c=>∃ u:Int,aI=(.int .i64 u)∧
 f c∧
 Br (decide (u>aH)) (
 B 11 R c) (
 E b c 1 fun bC aJ bD=>
 K8 aJ 16 (
 B 10 R c) (
 C c fun d aK=>
 Y b d 1 fun aL aM aN=>
 G9 w.heap.size d 0 1 2 3 4 fun aO aP aQ aR aS aT aU aV aW=>
 N9 aO aP aT aR aS aV aW aQ aU aK 20 fun g aX aY aZ b0 b1 b2 b3 b4 b5=>
 d g∧
 C6 aX aY b2 b0 b1 b4 b5 aZ b3 g 37 fun v=>
 d v∧
 M aM aN g.heap.size 1 aL v 43 fun b6 b7 b8 x=>
 d x∧
 A9 b b7 b8 b6 x 1 fun b9=>
 B 0 R b9))))))))):Ca 70 #[(.pointer (some (⟨b,0,none⟩:Addr))),(.pointer (some (⟨i,0,none⟩:Addr))),(.agg #[(.int .i64 j),(.int .i64 k),(.slice l m n),(.int .i64 o),(.slice p q r)])] w R:=
 cV Tryz.func70 (.k (.at_ 3 3 (.k O) (.at_ 3 8 (.k O) (.c O (.c O (.c O (.tk 0 (T 2 4 (L 1 (T 6 2 (.fin (.c O (.c O (T 0 6 (L 6 (L 7 (L 8 (T 9 2 (.last 11 (.fin O)))))))))))))))))))) h
end Go.Proofs.YtkbikekbaboclaaGreat.Vc
namespace Go.Proofs.YtkbikekbaboclaaGreat.Vc
open Go Go.Proofs V Vm
open Go.IntKind (i64)
variable {w:World}{R:Value→World→Prop}
theorem wN.calls (h:
 R3 0 w 27 fun a=>
 (dr a ⟨w.heap.size,0,none⟩∧dr a ⟨w.heap.size,1,none⟩∧dr a ⟨w.heap.size,2,none⟩∧dr a ⟨w.heap.size,3,none⟩∧dr a ⟨w.heap.size,4,none⟩∧dr a ⟨w.heap.size,5,none⟩)∧∀ b:World,b=((((((a.setCell ⟨w.heap.size,0,none⟩ (.int .i64 4)).setCell ⟨w.heap.size,1,none⟩ (.int .i64 2)).setCell ⟨w.heap.size,2,none⟩ (.int .i64 1)).setCell ⟨w.heap.size,3,none⟩ (.int .i64 1)).setCell ⟨w.heap.size,4,none⟩ (.int .i64 2)).setCell ⟨w.heap.size,5,none⟩ (.int .i64 12))→
 A8 w.heap.size b fun c d e f g i=>
 R (.agg #[(.int .i64 c),(.int .i64 d),(.int .i64 e),(.int .i64 f),(.int .i64 g),(.int .i64 i)]) b):Ca 35 #[] w R:=
 cV Tryz.func35 O h
theorem vK.calls (m:ByteArray)(h:
 L2 w fun f=>
 L3 ByteArray.empty 0 f fun i=>
 L2 i fun p=>
 (dr p ⟨i.heap.size,0,none⟩∧dr p ⟨i.heap.size,1,none⟩)∧∀ b:World,b=((p.setCell ⟨i.heap.size,0,none⟩ (.pointer none)).setCell ⟨i.heap.size,1,none⟩ (.pointer none))→
 L3 ByteArray.empty 0 b fun b7=>
 S9 ByteArray.empty 0 b.heap.size b7 fun b8=>
 A2 b8 fun t q c u j=>
 W c 2 (
 ((66:Int)=(66:Int)∧0≤(66:Int)∧(66:Int)*(1:Int)≤140737488355328)∧∀ v:World,v=j.alloc (.cells (lu [(.int .u8 0)] (66:Int).toNat).toArray 5 (0,0))→
 ∃ r:World→Prop,(
 A2 v fun b9 q g bA n=>
 Br (decide (g<(((66:Int).toNat:Nat):Int))) (
 Br (decide ((i64.wrap (g+c))<(m.size:Int))) (
 (0≤(i64.wrap (g+c))∧(i64.wrap (g+c))<(m.size:Int))∧
 (0≤g∧g<(((66:Int).toNat:Nat):Int))∧
 (dr n ((⟨j.heap.size,0,none⟩:Addr).add (g.toNat*1)))∧∀ x:World,x=(n.setCell ((⟨j.heap.size,0,none⟩:Addr).add (g.toNat*1)) (.int .u8 (bt m (i64.wrap (g+c)))))→
 X g b9 bA x) (
 r n)) (
 r n)) ∧
 E6 r fun q bB=>
 ∃ s:World→Prop,(
 C bB fun k y=>
 (
 M2 y fun z bC bD bE bF bG bH=>
 k z∧
 M3 j.heap.size ((66:Int).toNat) z fun bI a0=>
 k a0∧
 R6 bI bC bD bE bF bG bH a0 fun a1 bJ=>
 k a1∧
 (0≤c∧c<(2:Int))∧
 R7 c i.heap.size bJ a1 fun bK=>
 s bK) ∧
 (
 M3 j.heap.size ((66:Int).toNat) y fun bL a2=>
 k a2∧
 M2 a2 fun a3 bM bN bO bP bQ bR=>
 k a3∧
 R6 bL bM bN bO bP bQ bR a3 fun a4 bS=>
 k a4∧
 (0≤c∧c<(2:Int))∧
 R7 c i.heap.size bS a4 fun bT=>
 s bT) ∧
 True) ∧
 E6 s fun q bU=>
 C bU fun o a5=>
 (
 M2 a5 fun a6 bV bW bX bY bZ c0=>
 o a6∧
 M3 j.heap.size ((66:Int).toNat) a6 fun c1 a7=>
 o a7∧
 (0≤c∧c<(2:Int))∧
 R8 c1 c bV bW bX bY bZ c0 b.heap.size a7 fun c2=>
 X c t u c2) ∧
 (
 M3 j.heap.size ((66:Int).toNat) a5 fun c3 a8=>
 o a8∧
 M2 a8 fun a9 c4 c5 c6 c7 c8 c9=>
 o a9∧
 (0≤c∧c<(2:Int))∧
 R8 c3 c c4 c5 c6 c7 c8 c9 b.heap.size a9 fun cA=>
 X c t u cA) ∧
 True) (
 C j fun d cB=>
 ∃ aA aB:OA,((∀ l,d l→l.cell? ⟨i.heap.size,0,none⟩=some (.pointer aA))∧(∀ l,d l→l.cell? ⟨i.heap.size,1,none⟩=some (.pointer aB)))∧
 ∃ (aC aD aE aF aG aH:Int) (aI:ByteArray) (aJ aK aL aM aN aO:Int) (aP:ByteArray),((∀ a,d a→a.cell? ⟨b.heap.size,0,none⟩=some (.int .i64 aC))∧(∀ a,d a→a.cell? ⟨b.heap.size,1,none⟩=some (.int .i64 aD))∧(∀ a,d a→a.cell? ⟨b.heap.size,2,none⟩=some (.int .i64 aE))∧(∀ a,d a→a.cell? ⟨b.heap.size,3,none⟩=some (.int .i64 aF))∧(∀ a,d a→a.cell? ⟨b.heap.size,4,none⟩=some (.int .i64 aG))∧(∀ a,d a→a.cell? ⟨b.heap.size,5,none⟩=some (.int .i64 aH))∧(∀ a,d a→a.cell? ⟨b.heap.size,6,none⟩=some (.string aI))∧(∀ a,d a→a.cell? ⟨b.heap.size,7,none⟩=some (.int .i64 aJ))∧(∀ a,d a→a.cell? ⟨b.heap.size,8,none⟩=some (.int .i64 aK))∧(∀ a,d a→a.cell? ⟨b.heap.size,9,none⟩=some (.int .i64 aL))∧(∀ a,d a→a.cell? ⟨b.heap.size,10,none⟩=some (.int .i64 aM))∧(∀ a,d a→a.cell? ⟨b.heap.size,11,none⟩=some (.int .i64 aN))∧(∀ a,d a→a.cell? ⟨b.heap.size,12,none⟩=some (.int .i64 aO))∧(∀ a,d a→a.cell? ⟨b.heap.size,13,none⟩=some (.string aP)))∧
 N4 w.heap.size aA aB cB fun aQ=>
 d aQ∧
 N5 aI aP aC aD aE aF aG aH aJ aK aL aM aN aO f.heap.size aQ fun e=>
 d e∧
 ∃ aR aS:OA,(e.cell? ⟨w.heap.size,0,none⟩=some (.pointer aR)∧e.cell? ⟨w.heap.size,1,none⟩=some (.pointer aS))∧
 ∃ (aT aU aV aW aX aY:Int) (aZ:ByteArray) (b0 b1 b2 b3 b4 b5:Int) (b6:ByteArray),(e.cell? ⟨f.heap.size,0,none⟩=some (.int .i64 aT)∧e.cell? ⟨f.heap.size,1,none⟩=some (.int .i64 aU)∧e.cell? ⟨f.heap.size,2,none⟩=some (.int .i64 aV)∧e.cell? ⟨f.heap.size,3,none⟩=some (.int .i64 aW)∧e.cell? ⟨f.heap.size,4,none⟩=some (.int .i64 aX)∧e.cell? ⟨f.heap.size,5,none⟩=some (.int .i64 aY)∧e.cell? ⟨f.heap.size,6,none⟩=some (.string aZ)∧e.cell? ⟨f.heap.size,7,none⟩=some (.int .i64 b0)∧e.cell? ⟨f.heap.size,8,none⟩=some (.int .i64 b1)∧e.cell? ⟨f.heap.size,9,none⟩=some (.int .i64 b2)∧e.cell? ⟨f.heap.size,10,none⟩=some (.int .i64 b3)∧e.cell? ⟨f.heap.size,11,none⟩=some (.int .i64 b4)∧e.cell? ⟨f.heap.size,12,none⟩=some (.int .i64 b5)∧e.cell? ⟨f.heap.size,13,none⟩=some (.string b6))∧
 R (.tuple #[(.agg #[(.pointer aR),(.pointer aS)]),(.agg #[(.int .i64 aT),(.int .i64 aU),(.int .i64 aV),(.int .i64 aW),(.int .i64 aX),(.int .i64 aY),(.string aZ),(.int .i64 b0),(.int .i64 b1),(.int .i64 b2),(.int .i64 b3),(.int .i64 b4),(.int .i64 b5),(.string b6)])]) e)):Ca 8 #[(.string m)] w R:=
 cV Tryz.func8 (.lp ([I 6,N 7,N 8]++nn 11 42) (.c (.cut 2 ([N 8]++nn 16 22) (.lp ([I 8]++nn 16 22) (.at_ 8 4 (.c O O) (.k O))) (.cut 0 (nn 38 9) (.tk 0 (.tk 2 (.alt 1 (L 3 (L 4 (T 5 4 (.last 9 (.fin O))))) (L 3 (L 1 (L 4 (T 5 4 (.last 9 (.fin O))))))))) (.tk 0 (.tk 2 (.alt 1 (L 3 (T 4 2 (.last 6 (.fin O)))) (L 3 (L 1 (T 4 2 (.last 6 (.fin O)))))))))) (T 0 2 (L 2 (L 3 (.fin O)))))) h
theorem wE.calls (h:
 R1 (ByteArray.mk #[]) w fun e o p q r s t u v x y z a0 a1 a2 a3 a4=>
 L2 e fun k=>
 L3 ByteArray.empty 0 k fun a5=>
 N4 e.heap.size o p a5 fun a6=>
 N5 x a4 q r s t u v y z a0 a1 a2 a3 k.heap.size a6 fun a7=>
 H9 2 a7 9 fun f b=>
 G1 0 2 (
 A4 e.heap.size f 0 fun a8=>
 Br a8.isNone (
 F R f) (
 Br b.isNone (
 F R f) (
 H9 0 f 9 fun g a9=>
 Br (!a9.isNone) (
 F R g) (
 G1 0 2 (
 A4 e.heap.size g 0 fun aA=>
 ∀ i:World,i=g.alloc (.cells #[(.int .i64 1),(.int .i64 2)] 3 (0,0))→
 Q 65536 i fun aB=>
 Calls Tryz.prog 10 #[(.pointer b),(.pointer aA),(.agg #[(.int .i64 5),(.int .i64 1),(.slice (some ⟨g.heap.size,0,none⟩) 2 2),(.int .i64 1),(.slice (some ⟨i.heap.size,0,none⟩) 1 1)])] aB (bc fun aC aD=>∃ l:Int,aC=(.int .i64 l)∧
 L4 0 b aD fun j aE aF aG aH aI aJ aK aL aM aN=>
 F2 0 0 j 45 fun aO=>
 G6 aF aG aE j.heap.size aI aJ aL aM aH aK aO fun aP=>
 L4 (-3) b aP fun c aQ aR aS aT aU aV aW aX aY aZ=>
 F2 0 0 c 45 fun b0=>
 G6 aR aS aQ c.heap.size aU aV aX aY aT aW b0 fun b1=>
 L4 0 b b1 fun m b2 b3 b4 b5 b6 b7 b8 b9 bA bB=>
 F2 0 0 m 45 fun bC=>
 G6 b3 b4 b2 m.heap.size b6 b7 b9 bA b5 b8 bC fun a=>
 P l 0 (
 P aN 0 (
 J5 j.heap.size a 1 fun bD=>
 U bD (
 P aZ 0 (
 J5 c.heap.size a 1 fun bE=>
 Br bE (
 E c.heap.size a 3 fun bF bG bH=>
 Q 1 a fun bI=>
 Calls Tryz.prog 19 #[(.slice bF bG bH),(.slice (some ⟨a.heap.size,0,none⟩) 1 1)] bI (bc fun bJ d=>∃ n:Bool,bJ=(.bool n)∧
 Br n (
 D c.heap.size d 0 fun bK=>
 P bK 5 (
 P bB 8 (
 F8 b d 12 fun bL bM=>
 A1 (bM==(2:Int)) R bL) (
 F R d)) (
 F R d)) (
 F R d))) (
 F R a)) (
 F R a)) (
 F R a)) (
 F R a)) (
 F R a)))))))):Ca 7 #[] w R:=
 cV Tryz.func7 (.at_ 3 3 (.k O) (.at_ 3 7 (.k O) (.c O (.at_ 9 2 (.at_ 9 6 (.at_ 9 11 (.at_ 9 15 (.at_ 9 19 (.at_ 9 25 (.at_ 9 30 (.at_ 9 34 O O) O) O) O) O) O) O) O)))) h
end Go.Proofs.YtkbikekbaboclaaGreat.Vc
namespace Go.Proofs.YtkbikekbaboclaaGreat.Vc
open Go Go.Proofs V Vm
open Go.IntKind (i64)
variable {w:World}{R:Value→World→Prop}
theorem vB.calls (d:OA)(a j:Nat)(e:OA)(c k:Nat)(h:
 Br (decide ((a:Int)>(c:Int))) (
 F R w) (
 A2 w fun l p b m f=>
 G b a (
 C f fun g i=>
 B3 b a d g fun n=>
 B3 b c e g fun o=>
 Br (n != o) (
 F R i) (
 X b l m i)) (
 C8 R f))):Ca 129 #[(.slice d a j),(.slice e c k)] w R:=
 cV Tryz.func129 (.c O (.lp ([N 4,I 5]++nn 11 15) (.c (T 0 9 (.fin (.c O O))) O))) h
theorem tz.calls (c:Nat)(g:Int)(i:OA)(d j:Nat)(h:
 A2 w fun e x b f a=>
 E c a 1 fun y l z=>
 G b l (
 E c a 1 fun m n a0=>
 V b n m a 3 fun o=>
 Br (o==g) (
 B4 b c a 1 fun a1 a2 p=>
 F6 p b a 3 1 fun a3 q a4=>
 Br ((q:Int)==(d:Int)) (
 B4 b c a 1 fun a5 a6 r=>
 F6 r b a 3 1 fun s t u=>
 G0 t u d j s i a 129 fun k v=>
 Br v (
 B b R k) (
 X b e f k)) (
 X b e f a)) (
 X b e f a)) (
 B (-1) R a)):Ca 93 #[(.pointer (some (⟨c,0,none⟩:Addr))),(.int .i64 g),(.slice i d j)] w R:=
 cV Tryz.func93 (.lp ([N 6,I 7]++nn 8 46) (.c (.at_ 4 10 (.at_ 4 24 (.c O O) (.k O)) (.k O)) O)) h
theorem sQ.calls (b:Nat)(a:Int)(h:
 J1 0 0 w 126 fun c=>
 B4 a b c 1 fun aD aE o=>
 K4 o a c fun p q r s t=>
 J1 0 0 c 126 fun u=>
 J2 p t c.heap.size r s q u fun e=>
 A5 e 126 fun f=>
 E b f 1 fun g aF d=>
 E4 a d (
 D7 e.heap.size 0 (a.toNat-0) (d-0) (if d=0 then g else g.map (·.add (0*3))) f 81 fun v x y i=>
 E b i 1 fun j k l=>
 (0≤(i64.wrap (a+1))∧(i64.wrap (a+1))≤(k:Int))∧
 H0 x y (k-(i64.wrap (a+1)).toNat) (l-(i64.wrap (a+1)).toNat) v (if l=(i64.wrap (a+1)).toNat then j else j.map (·.add ((i64.wrap (a+1)).toNat*3))) i 81 fun z a0 a1 a2=>
 A9 b a0 a1 z a2 1 fun m=>
 M9 c.heap.size m fun a3 a4 a5 a6 a7=>
 J2 a3 a7 w.heap.size a5 a6 a4 m fun n=>
 M9 w.heap.size n fun a8 a9 aA aB aC=>
 R (.agg #[(.int .i64 a8),(.slice a9 aA aB),(.int .i64 aC)]) n)):Ca 61 #[(.pointer (some (⟨b,0,none⟩:Addr))),(.int .i64 a)] w R:=
 cV Tryz.func61 O h
theorem sZ.calls (b:Nat)(c f:Int)(g:OA)(d i:Nat)(h:
 F1 d (
 B 1 R w) (
 G5 d 32 (
 B 1 R w) (
 (4:Int)≠0∧
 Br ((Int.tmod (d:Int) 4) != (0:Int)) (
 B 1 R w) (
 K7 f b d i g w 93 fun j p=>
 C3 p 0 (
 B 9 R j) (
 A4 b j 0 fun q=>
 N6 c q j 92 fun a r=>
 U r (
 B 8 R a) (
 A4 b a 0 fun s=>
 A3 s fun t=>
 H5 t a fun u v=>
 V c v u a 3 fun x=>
 Br (x != f) (
 B 8 R a) (
 A4 b a 0 fun y=>
 A3 y fun z=>
 H5 z a fun a0 a1=>
 H c a1 a0 fun a2=>
 F6 a2 c a 3 2 fun aH a3 aI=>
 Br ((a3:Int) != (4:Int)) (
 B 8 R a) (
 A4 b a 0 fun a4=>
 Q c a fun a5=>
 Q0 1 a.heap.size 1 a4 a5 fun a6=>
 C a6 fun e l=>
 Y b e 1 fun a7 a8 a9=>
 A5 l 3 fun m=>
 e m∧
 D7 l.heap.size 0 d i g m 35 fun aA aB aC k=>
 e k∧
 H3 f c aB aC aA k 126 fun n=>
 e n∧
 M a8 a9 k.heap.size 1 a7 n 81 fun aD aE aF o=>
 e o∧
 A9 b aE aF aD o 1 fun aG=>
 B 0 R aG)))))))):Ca 59 #[(.pointer (some (⟨b,0,none⟩:Addr))),(.int .i64 c),(.int .i64 f),(.slice g d i)] w R:=
 cV Tryz.func59 (.at_ 1 3 (.k O) (.at_ 1 8 (.k O) (.c O (.c O (.at_ 5 7 (.k O) (.at_ 5 22 (.k O) (.c O (T 0 6 (.tk 7 (.tk 9 (L 6 (L 8 (.tk 10 (L 11 (L 12 (T 13 2 (.last 15 (.fin O)))))))))))))))))) h
theorem rZ.calls (a:Nat)(n:Int)(j:OA)(o e:Nat)(h:
 A5 w 3 fun u=>
 D8 w.heap.size u 4 fun p=>
 A7 p fun aL b c d f v k=>
 G f o (
 E4 f e (
 K7 n a (f.toNat-0) (e-0) (if e=0 then j else j.map (·.add (0*1))) k 93 fun l q=>
 W q 0 (
 A4 a l 0 fun x=>
 O5 1 c d x b l fun y=>
 A0 c d b R y) (
 Q1 q a l fun g z a0 a1 a2 a3=>
 J1 0 0 g 126 fun a4=>
 J2 z a3 g.heap.size a1 a2 a0 a4 fun a5=>
 C a5 fun i r=>
 Y a i 1 fun a6 a7 a8=>
 S4 g.heap.size i fun a9 aA aB aC aD=>
 H3 a9 aD aB aC aA r 126 fun s=>
 i s∧
 M a7 a8 r.heap.size 1 a6 s 81 fun aE aF aG t=>
 i t∧
 A9 a aF aG aE t 1 fun m=>
 D g.heap.size m 2 fun aH=>
 Q aH m fun aI=>
 B5 f c d m.heap.size 1 v b p aI 35 4))) (
 A4 a k 0 fun aJ=>
 O5 1 c d aJ b k fun aK=>
 A0 c d b R aK)):Ca 64 #[(.pointer (some (⟨a,0,none⟩:Addr))),(.int .i64 n),(.slice j o e)] w R:=
 cV Tryz.func64 (.lp ([S 7,I 8,N 9,N 10]++nn 12 32) (.c (.c O (T 0 6 (L 6 (L 7 (T 8 2 (.last 10 (.fin O))))))) O)) h
theorem rR.calls (a:Nat)(h:
 A2 w fun m a8 b n e=>
 E a e 1 fun a9 o aA=>
 G b o (
 C e fun c g=>
 B7 a c 0 fun p=>
 A3 p fun q=>
 Q2 q c fun r s=>
 Y a c 1 fun t u aB=>
 H b u t fun v=>
 F5 v b c 3 2 fun i=>
 H i s r fun x=>
 F5 x i c 3 1 fun y=>
 P y 1 (
 Q1 b a g fun f z a0 a1 a2 a3=>
 J1 0 0 f 126 fun a4=>
 J2 z a3 f.heap.size a1 a2 a0 a4 fun a5=>
 C a5 fun d j=>
 B7 a d 0 fun a6=>
 B1 f.heap.size d 2 fun a7=>
 Q a7 j fun k=>
 d k∧
 Q0 (-1) j.heap.size 1 a6 k fun l=>
 d l∧
 C8 R l) (
 X b m n g)) (
 F R e)):Ca 57 #[(.pointer (some (⟨a,0,none⟩:Addr)))] w R:=
 cV Tryz.func57 (.lp ([N 2,I 3]++nn 4 40) (.c (T 0 19 (.fin (.c (T 0 6 (L 6 (L 7 (.fin O)))) O))) O)) h
theorem qT.calls (a:Nat)(j:Int)(h:
 E a w 1 fun a3 o a4=>
 ∃ d:Int→Int→Nat→World→Prop,(∃ p:Nat,d 0 (i64.wrap ((o:Int)-1)) p w)∧
 C0 d fun a5 f b k c=>
 C3 b 0 (
 E a c 1 fun q r a6=>
 V b r q c 3 fun s=>
 Br (s==j) (
 Q1 b a c fun g t u v x y=>
 J1 0 0 g 126 fun z=>
 J2 t y g.heap.size v x u z fun a0=>
 C a0 fun e l=>
 B7 a e 0 fun a1=>
 B1 g.heap.size e 2 fun a2=>
 Q a2 l fun m=>
 e m∧
 Q0 (-1) l.heap.size 1 a1 m fun n=>
 e n∧
 Z k fun i=>
 d (i64.wrap (f+1)) (i64.wrap (b-1)) i n) (
 Z k fun i=>
 d f (i64.wrap (b-1)) i c)) (
 B f R c)):Ca 28 #[(.pointer (some (⟨a,0,none⟩:Addr))),(.int .i64 j)] w R:=
 cV Tryz.func28 (.lp ([I 5,I 6,N 7]++nn 14 27) (.c (.c (T 0 6 (L 6 (L 7 (.fin O)))) O) O)) h
end Go.Proofs.YtkbikekbaboclaaGreat.Vc
namespace Go.Proofs.YtkbikekbaboclaaGreat.Vc
open Go Go.Proofs V Vm
open Go.IntKind (i64)
variable {w:World}{R:Value→World→Prop}
theorem Ba.calls (a b c:Int)(h:
 I3 a b (
 A1 (decide (a≤c)) R w) (
 F R w)):Ca 201 #[(.int .i64 a),(.int .i64 b),(.int .i64 c)] w R:=
 cV Tryz.func201 (.at_ 1 3 O O) h
theorem yN.calls (c d e f g i a:Int)(h:
 D1 c d e f g i w 27 fun b=>
 P a 0 (
 C b fun j k=>
 C2 w.heap.size j 0 1 fun l m=>
 A6 l m R k) (
 P a 1 (
 C b fun n o=>
 C2 w.heap.size n 5 1 fun p q=>
 A6 p q R o) (
 P a 2 (
 D9 a 2 (
 C b fun r s=>
 B1 w.heap.size r 1 fun t=>
 A6 1 t R s)) (
 P a 7 (
 D9 a 7 (
 C b fun u v=>
 B1 w.heap.size u 1 fun x=>
 A6 1 x R v)) (
 P a 11 (
 C b fun y z=>
 B1 w.heap.size y 1 fun a0=>
 A6 1 a0 R z) (
 P a 3 (
 D9 a 3 (
 C b fun a1 a2=>
 C2 w.heap.size a1 1 1 fun a3 a4=>
 A6 a3 a4 R a2)) (
 P a 4 (
 D9 a 4 (
 C b fun a5 a6=>
 C2 w.heap.size a5 1 1 fun a7 a8=>
 A6 a7 a8 R a6)) (
 P a 5 (
 D9 a 5 (
 C b fun a9 aA=>
 C2 w.heap.size a9 1 1 fun aB aC=>
 A6 aB aC R aA)) (
 P a 6 (
 C b fun aD aE=>
 C2 w.heap.size aD 1 1 fun aF aG=>
 A6 aF aG R aE) (
 P a 8 (
 D9 a 8 (
 C b fun aH aI=>
 C2 w.heap.size aH 4 1 fun aJ aK=>
 A6 aJ aK R aI)) (
 P a 9 (
 C b fun aL aM=>
 C2 w.heap.size aL 4 1 fun aN aO=>
 A6 aN aO R aM) (
 P a 10 (
 C b fun aP aQ=>
 C2 w.heap.size aP 1 4 fun aR aS=>
 A6 aR aS R aQ) (
 L6 0 R b))))))))))))):Ca 192 #[(.agg #[(.int .i64 c),(.int .i64 d),(.int .i64 e),(.int .i64 f),(.int .i64 g),(.int .i64 i)]),(.int .i64 a)] w R:=
 cV Tryz.func192 (.c (T 0 6 (.fin O)) (.c (T 0 6 (.fin O)) (.c (.y (T 0 4 (.fin O))) (.c (.y (T 0 4 (.fin O))) (.c (T 0 4 (.fin O)) (.c (.y (T 0 6 (.fin O))) (.c (.y (T 0 6 (.fin O))) (.c (.y (T 0 6 (.fin O))) (.c (T 0 6 (.fin O)) (.c (.y (T 0 6 (.fin O))) (.c (T 0 6 (.fin O)) (.c (T 0 6 (.fin O)) O)))))))))))) h
theorem yC.calls (t u v x y z:Int)(h:
 D1 t u v x y z w 27 fun a0=>
 A5 a0 241 fun aE=>
 ∃ n:OA→Nat→Nat→Int→Int→Nat→World→Prop,(∃ aF:Nat,n (some ⟨a0.heap.size,0,none⟩) 0 0 0 (-1) aF aE)∧
 ∀ (k:Nat→Value) (o:OA) (p:Nat) (q:Nat) (a1:Int) (c:Int),∀ (a2:Nat) (l:World),n o p q a1 c a2 l→
 D w.heap.size l 3 fun aG=>
 Br (decide (c≤aG)) (
 ∃ r:OA→Nat→Nat→Int→Int→Nat→World→Prop,(∃ aH:Nat,r o p q a1 0 aH l)∧
 ∀ (k:Nat→Value) (e:OA) (f:Nat) (g:Nat) (d:Int) (b:Int),∀ (a3:Nat) (a:World),r e f g d b a3 a→
 W b 12 (
 ∃ i:OA→Nat→Nat→Int→World→Prop,(
 ∃ j:World→Prop,(
 W c 0 (
 B2 b 1 (
 i e f g d a) (
 D w.heap.size a 3 fun aI=>
 Br (c==aI) (
 W b 11 (
 i e f g d a) (
 C3 c 0 (
 D w.heap.size a 3 fun aJ=>
 B8 c aJ (
 W b 2 (
 i e f g d a) (
 B2 b 10 (
 i e f g d a) (
 j a))) (
 j a)) (
 j a))) (
 C3 c 0 (
 D w.heap.size a 3 fun aK=>
 B8 c aK (
 W b 2 (
 i e f g d a) (
 B2 b 10 (
 i e f g d a) (
 j a))) (
 j a)) (
 j a)))) (
 D w.heap.size a 3 fun aL=>
 Br (c==aL) (
 W b 11 (
 i e f g d a) (
 C3 c 0 (
 D w.heap.size a 3 fun aM=>
 B8 c aM (
 W b 2 (
 i e f g d a) (
 B2 b 10 (
 i e f g d a) (
 j a))) (
 j a)) (
 j a))) (
 C3 c 0 (
 D w.heap.size a 3 fun aN=>
 B8 c aN (
 W b 2 (
 i e f g d a) (
 B2 b 10 (
 i e f g d a) (
 j a))) (
 j a)) (
 j a)))) ∧
 E6 j fun k a4=>
 A8 w.heap.size a4 fun aO aP aQ aR aS aT=>
 I4 aO aP aQ aR aS aT b a4 192 fun s a5 a6=>
 ∃ m:Int→World→Prop,(
 W b 2 (
 m 0 s) (
 P b 11 (
 m 0 s) (
 m c s))) ∧
 G7 m fun k aU a7=>
 ∀ a8:World,a8=a7.alloc (.cells #[(.int .i64 b),(.int .i64 aU),(.int .i64 d),(.int .i64 (i64.wrap (a5*a6)))] 241 (0,0))→
 M f g a7.heap.size 1 e a8 239 fun aV aW aX aY=>
 i aV aW aX (i64.wrap (d+(i64.wrap (a5*a6)))) aY) ∧
 ∀ (k:Nat→Value) (a9:OA) (aA:Nat) (aB:Nat) (aC:Int),∀ aD:World,i a9 aA aB aC aD→
 Z a3 fun aZ=>
 r a9 aA aB aC (i64.wrap (b+1)) aZ aD) (
 Z a2 fun b0=>
 n e f g d (i64.wrap (c+1)) b0 a)) (
 A0 p q o R l)):Ca 191 #[(.agg #[(.int .i64 t),(.int .i64 u),(.int .i64 v),(.int .i64 x),(.int .i64 y),(.int .i64 z)])] w R:=
 cV Tryz.func191 (.lp ([S 3,I 4,I 5]++nn 6 4++nn 11 72) (.c (.lp ([S 3,I 4,I 6]++nn 7 3++nn 17 66) (.c (.cut 0 ([S 3,I 4]++nn 7 3++nn 21 62) (.cut 0 (nn 21 34) (.at_ 9 2 (.at_ 9 6 (.k O) (.at_ 9 11 (.at_ 9 16 (.k O) (.at_ 9 19 (.at_ 9 25 (.at_ 9 28 (.k O) (.c O O)) (.k O)) (.k O))) (.at_ 9 19 (.at_ 9 25 (.at_ 9 28 (.k O) (.c O O)) (.k O)) (.k O)))) (.at_ 9 11 (.at_ 9 16 (.k O) (.at_ 9 19 (.at_ 9 25 (.at_ 9 28 (.k O) (.c O O)) (.k O)) (.k O))) (.at_ 9 19 (.at_ 9 25 (.at_ 9 28 (.k O) (.c O O)) (.k O)) (.k O)))) (.cut 2 ([I 9]++nn 62 6) (.at_ 12 2 (.k O) (.c O O)) O)) O) O)) O)) h
theorem yF.calls (c d e f g i:Int)(h:
 D1 c d e f g i w 27 fun j=>
 A8 w.heap.size j fun p q r s t u=>
 Calls Tryz.prog 191 #[(.agg #[(.int .i64 p),(.int .i64 q),(.int .i64 r),(.int .i64 s),(.int .i64 t),(.int .i64 u)])] j (bc fun v x=>∃ (b:OA) (a y:Nat),v=(.slice b a y)∧
 C x fun k z=>
 (0≤(i64.wrap ((a:Int)-1))∧(i64.wrap ((a:Int)-1))<(a:Int))∧jr b fun a0=>
 G1 2 4 (
 ∃ l:Int,(∀ m,k m→m.cell? ((a0.add ((i64.wrap ((a:Int)-1)).toNat*4)).add 2)=some (.int .i64 l))∧
 (0≤(i64.wrap ((a:Int)-1))∧(i64.wrap ((a:Int)-1))<(a:Int))∧jr b fun a1=>
 G1 3 4 (
 ∃ n:Int,(∀ o,k o→o.cell? ((a1.add ((i64.wrap ((a:Int)-1)).toNat*4)).add 3)=some (.int .i64 n))∧
 B (i64.wrap (l+n)) R z)))):Ca 202 #[(.agg #[(.int .i64 c),(.int .i64 d),(.int .i64 e),(.int .i64 f),(.int .i64 g),(.int .i64 i)])] w R:=
 cV Tryz.func202 (T 0 16 (.fin O)) h
theorem yL.calls (g i j k l m:Int)(h:
 D1 g i j k l m w 27 fun n=>
 D w.heap.size n 0 fun p=>
 E3 p 2 32 n 201 fun b q=>
 U q (
 F R b) (
 D w.heap.size b 1 fun r=>
 E3 r 1 16 b 201 fun c s=>
 U s (
 F R c) (
 D w.heap.size c 2 fun t=>
 E3 t 1 4 c 201 fun d u=>
 U u (
 F R d) (
 D w.heap.size d 3 fun v=>
 E3 v 1 3 d 201 fun e x=>
 U x (
 F R e) (
 D w.heap.size e 4 fun y=>
 E3 y 1 32 e 201 fun f z=>
 U z (
 F R f) (
 D w.heap.size f 5 fun a0=>
 E3 a0 1 32 f 201 fun a a1=>
 U a1 (
 F R a) (
 D w.heap.size a 1 fun a2=>
 D w.heap.size a 2 fun o=>
 o≠0∧
 Br ((Int.tmod a2 o)==(0:Int)) (
 A8 w.heap.size a fun a3 a4 a5 a6 a7 a8=>
 I5 a3 a4 a5 a6 a7 a8 a 202 fun a9 aA=>
 A1 (decide (aA≤(8192:Int))) R a9) (
 F R a)))))))):Ca 190 #[(.agg #[(.int .i64 g),(.int .i64 i),(.int .i64 j),(.int .i64 k),(.int .i64 l),(.int .i64 m)])] w R:=
 cV Tryz.func190 (.at_ 1 4 (.k O) (.at_ 1 10 (.k O) (.at_ 1 16 (.k O) (.at_ 1 22 (.k O) (.at_ 1 28 (.k O) (.c O (.at_ 3 6 O O))))))) h
theorem yR.calls (b c d e f g i:Int)(h:
 D1 b c d e f g w 27 fun j=>
 A8 w.heap.size j fun k l m n o p=>
 G2 k l m n o p j 190 fun a q=>
 U q (
 L6 0 R a) (
 A8 w.heap.size a fun r s t u v x=>
 I4 r s t u v x i a 192 fun y z a0=>
 A6 z a0 R y)):Ca 166 #[(.agg #[(.int .i64 b),(.int .i64 c),(.int .i64 d),(.int .i64 e),(.int .i64 f),(.int .i64 g)]),(.int .i64 i)] w R:=
 cV Tryz.func166 (.c O O) h
theorem wR.calls (f g i j k l m n:Int)(h:
 D1 f g i j k l w 27 fun o=>
 A8 w.heap.size o fun t u v x y z=>
 G2 t u v x y z o 190 fun e a0=>
 U a0 (
 C7 0 R e) (
 A8 w.heap.size e fun a1 a2 a3 a4 a5 a6=>
 Calls Tryz.prog 191 #[(.agg #[(.int .i64 a1),(.int .i64 a2),(.int .i64 a3),(.int .i64 a4),(.int .i64 a5),(.int .i64 a6)])] e (bc fun a7 a8=>∃ (d:OA) (b a9:Nat),a7=(.slice d b a9)∧
 A2 a8 fun p aI a q c=>
 G a b (
 H a b d fun aA=>
 G1 0 4 (
 ∃ r:Int,c.cell? (aA.add (a.toNat*4))=some (.int .i64 r)∧
 Br (r==m) (
 H a b d fun aB=>
 G1 1 4 (
 E1 aB a c 4 fun aC=>
 Br (aC==n) (
 C c fun s aD=>
 H a b d fun aE=>
 G1 2 4 (
 F5 aE a s 4 2 fun aF=>
 H a b d fun aG=>
 G1 3 4 (
 F5 aG a s 4 3 fun aH=>
 L8 aF aH R aD))) (
 X a p q c))) (
 X a p q c))) (
 C7 0 R c)))):Ca 165 #[(.agg #[(.int .i64 f),(.int .i64 g),(.int .i64 i),(.int .i64 j),(.int .i64 k),(.int .i64 l)]),(.int .i64 m),(.int .i64 n)] w R:=
 cV Tryz.func165 (.c O (.lp (nn 6 3++[I 10]++nn 16 32) (.c (.at_ 7 7 (.c (T 0 13 (.fin O)) O) (.k O)) O))) h
theorem zE.calls (o p q r s t:Int)(u:ByteArray)(m v b:Int)(h:
 E8 u o p q r s t w 29 fun x=>
 A8 w.heap.size x fun a0 a1 a2 a3 a4 a5=>
 R4 a0 a1 a2 a3 a4 a5 m v x 165 fun y e a6 a7=>
 A8 w.heap.size y fun a8 a9 aA aB aC aD=>
 I4 a8 a9 aA aB aC aD m y 166 fun f aE d=>
 A5 f 3 fun i=>
 U a7 (
 R (.tuple #[(.slice (some ⟨f.heap.size,0,none⟩) 0 0),(.bool false)]) i) (
 W b 0 (
 R (.tuple #[(.slice (some ⟨f.heap.size,0,none⟩) 0 0),(.bool false)]) i) (
 I3 b aE (
 R (.tuple #[(.slice (some ⟨f.heap.size,0,none⟩) 0 0),(.bool false)]) i) (
 D8 f.heap.size i 0 fun n=>
 A7 n fun aH j k l a z c=>
 B8 a d (
 B8 a a6 (
 ∃ g:ByteArray,c.cell? ⟨w.heap.size,6,none⟩=some (.string g)∧
 (0≤(i64.wrap ((i64.wrap (e+(i64.wrap (b*d))))+a))∧(i64.wrap ((i64.wrap (e+(i64.wrap (b*d))))+a))<(g.size:Int))∧
 Br (decide ((i64.wrap (bt g (i64.wrap ((i64.wrap (e+(i64.wrap (b*d))))+a))))>(127:Int))) (
 Q (i64.wrap ((i64.wrap (bt g (i64.wrap ((i64.wrap (e+(i64.wrap (b*d))))+a))))-256)) c fun aF=>
 B5 a k l c.heap.size 1 z j n aF 35 1) (
 Q (i64.wrap (bt g (i64.wrap ((i64.wrap (e+(i64.wrap (b*d))))+a)))) c fun aG=>
 B5 a k l c.heap.size 1 z j n aG 35 1)) (
 R (.tuple #[(.slice j k l),(.bool true)]) c)) (
 R (.tuple #[(.slice j k l),(.bool true)]) c))))):Ca 131 #[(.agg #[(.int .i64 o),(.int .i64 p),(.int .i64 q),(.int .i64 r),(.int .i64 s),(.int .i64 t),(.string u)]),(.int .i64 m),(.int .i64 v),(.int .i64 b)] w R:=
 cV Tryz.func131 (.at_ 4 2 (.k O) (.at_ 4 6 (.k O) (.c O (.lp ([S 15,I 16,N 17]++nn 47 29) (.at_ 7 3 (.c (.c O O) O) (.k O)))))) h
end Go.Proofs.YtkbikekbaboclaaGreat.Vc
namespace Go.Proofs.YtkbikekbaboclaaGreat.Vc
open Go Go.Proofs V Vm
open Go.IntKind (i64)
variable {w:World}{R:Value→World→Prop}
theorem yO.calls (a:Int)(b:OA)(c d:Nat)(h:
 C4 c d b w 142 fun f g i j=>
 L5 a i j g f 141 fun k e=>
 B (if (0:Int)>e then (0:Int) else e) R k):Ca 97 #[(.int .i64 a),(.slice b c d)] w R:=
 cV Tryz.func97 O h
end Go.Proofs.YtkbikekbaboclaaGreat.Vc
namespace Go.Proofs.YtkbikekbaboclaaGreat.Vc
open Go Go.Proofs V Vm
open Go.IntKind (i64)
variable {w:World}{R:Value→World→Prop}
theorem xa.calls (j k l m n o:Int)(p:ByteArray)(b:Int)(f:OA)(a q:Nat)(h:
 E8 p j k l m n o w 29 fun c=>
 F1 a (
 B 1 R c) (
 W b 1 (
 B 1 R c) (
 B2 b 32 (
 B 1 R c) (
 A2 c fun r y d s e=>
 G d a (
 C e fun g i=>
 B3 d a f g fun t=>
 W t 0 (
 B 3 R i) (
 B3 d a f g fun u=>
 B1 w.heap.size g 0 fun v=>
 I3 u v (
 B 3 R i) (
 X d r s i))) (
 D w.heap.size e 5 fun x=>
 Br (decide ((a:Int)>(i64.wrap (x-b)))) (
 B 12 R e) (
 B 0 R e)))))):Ca 94 #[(.agg #[(.int .i64 j),(.int .i64 k),(.int .i64 l),(.int .i64 m),(.int .i64 n),(.int .i64 o),(.string p)]),(.int .i64 b),(.slice f a q)] w R:=
 cV Tryz.func94 (.at_ 1 3 (.k O) (.at_ 1 7 (.k O) (.c O (.lp ([N 6,I 7]++nn 19 21) (.c (T 0 5 (.tks 5 (T 6 9 (.fin (.k O))) (T 6 9 (.fin (.c O O))))) (.c O O)))))) h
theorem Al.calls (aE aF aG aH aI aJ:Int)(aK:ByteArray)(n:OA)(f aL:Nat)(o:Int)(aM:OA)(p b7:Nat)(aN:Bool)(h:
 E8 aK aE aF aG aH aI aJ w 29 fun aO=>
 D5 w.heap.size aO fun b8 b9 bA bB bC bD bE=>
 Calls Tryz.prog 94 #[(.agg #[(.int .i64 b8),(.int .i64 b9),(.int .i64 bA),(.int .i64 bB),(.int .i64 bC),(.int .i64 bD),(.string bE)]),(.int .i64 o),(.slice n f aL)] aO (bc fun bF q=>∃ r:Int,bF=(.int .i64 r)∧
 F0 r 0 (
 K6 r 0 R q) (
 A5 q 122 fun aP=>
 A5 aP 3 fun bG=>
 M4 q.heap.size aP.heap.size bG fun s=>
 J6 s fun t c d e bH bI bJ g aQ u=>
 G g f (
 C u fun a i=>
 G3 w.heap.size a fun aR aS aT aU aV aW aX=>
 B3 g f n a fun aY=>
 (
 P2 aX aR aS aT aU aV aW aY d e c i fun j bK bL bM bN bO bP bQ bR bS=>
 a j∧
 D6 0 j 122 fun aZ=>
 a aZ∧
 E2 j.heap.size bL bM bO bP bK bN aZ fun k=>
 a k∧
 C9 j.heap.size k fun bT bU bV bW bX bY=>
 C1 bU bV bX bY bT bW k 122 fun bZ=>
 M d e k.heap.size 1 c bZ 136 fun c0 c1 c2 c3=>
 Z aQ fun v=>
 s c0 c1 c2 bQ bR bS (i64.wrap (g+1)) v c3) ∧
 (
 D6 0 i 122 fun b0=>
 a b0∧
 P2 aX aR aS aT aU aV aW aY d e c b0 fun b1 c4 c5 c6 c7 c8 c9 cA cB cC=>
 a b1∧
 E2 i.heap.size c5 c6 c8 c9 c4 c7 b1 fun l=>
 a l∧
 C9 i.heap.size l fun cD cE cF cG cH cI=>
 C1 cE cF cH cI cD cG l 122 fun cJ=>
 M d e l.heap.size 1 c cJ 136 fun cK cL cM cN=>
 Z aQ fun v=>
 s cK cL cM cA cB cC (i64.wrap (g+1)) v cN) ∧
 True) (
 A5 u 3 fun cO=>
 ∃ x:OA→Nat→Nat→OA→Nat→Nat→OA→Nat→Nat→Nat→World→Prop,(∃ cP:Nat,x c d e bH bI bJ (some ⟨u.heap.size,0,none⟩) 0 0 cP cO)∧
 ∀ (t:Nat→Value) (y:OA) (z:Nat) (a0:Nat) (a1:OA) (a2:Nat) (a3:Nat) (a4:OA) (b:Nat) (a5:Nat),∀ (b2:Nat) (m:World),x y z a0 a1 a2 a3 a4 b a5 b2 m→
 ∃ a6:Int→World→Prop,(
 Br (decide ((b:Int)<(p:Int))) (
 (0≤(b:Int)∧(b:Int)<(p:Int))∧jr aM fun cQ=>
 ∃ b3:Int,m.cell? (cQ.add ((b:Int).toNat*1))=some (.int .i64 b3)∧
 a6 b3 m) (
 a6 0 m)) ∧
 G7 a6 fun t cR cS=>
 L5 cR a2 a3 a1 cS 97 fun b4 cT=>
 ∃ a7:Int→World→Prop,(
 Br aN (
 E0 a2 a3 a1 b4 98 fun cU cV=>
 a7 cV cU) (
 a7 cT b4)) ∧
 G7 a7 fun t a8 a9=>
 P a8 0 (
 R (.tuple #[(.slice a4 b a5),(.int .i64 0)]) a9) (
 Q a8 a9 fun cW=>
 M b a5 a9.heap.size 1 a4 cW 35 fun b5 aA b6 aB=>
 Br ((aA:Int)==o) (
 R (.tuple #[(.slice b5 aA b6),(.int .i64 0)]) aB) (
 D5 w.heap.size aB fun cX cY cZ d0 d1 d2 d3=>
 P2 d3 cX cY cZ d0 d1 d2 a8 z a0 y aB fun aC d4 d5 d6 d7 d8 d9 dA dB dC=>
 D6 0 aC 122 fun dD=>
 E2 aC.heap.size d5 d6 d8 d9 d4 d7 dD fun aD=>
 C9 aC.heap.size aD fun dE dF dG dH dI dJ=>
 C1 dF dG dI dJ dE dH aD 122 fun dK=>
 M z a0 aD.heap.size 1 y dK 136 fun dL dM dN dO=>
 Z b2 fun dP=>
 x dL dM dN dA dB dC b5 aA b6 dP dO)))))):Ca 63 #[(.agg #[(.int .i64 aE),(.int .i64 aF),(.int .i64 aG),(.int .i64 aH),(.int .i64 aI),(.int .i64 aJ),(.string aK)]),(.slice n f aL),(.int .i64 o),(.slice aM p b7),(.bool aN)] w R:=
 cV Tryz.func63 (.c O (.lp ([S 13,S 14,I 15]++nn 16 3++nn 34 22) (.c (T 0 6 (.alt 6 (T 7 4 (L 11 (L 12 (T 13 2 (.fin O))))) (L 11 (L 6 (T 7 4 (L 12 (T 13 2 (.fin O)))))))) (.lp ([N 10,N 11,S 13,S 14,S 19]++nn 20 5++nn 57 41) (.cut 1 ([I 20]++nn 57 10) (.c O O) (.cut 1 ([I 21]++nn 70 3) (.c O O) (.c O (.c O O)))))))) h
end Go.Proofs.YtkbikekbaboclaaGreat.Vc
namespace Go.Proofs.YtkbikekbaboclaaGreat.Vc
open Go Go.Proofs V Vm
open Go.IntKind (i64)
variable {w:World}{R:Value→World→Prop}
theorem yQ.calls (b c:Int)(d:OA)(e f:Nat)(g:Int)(i:OA)(j k:Nat)(h:
 C6 b c g e f j k d i w 74 fun a=>
 D w.heap.size a 3 fun l=>
 W l 1 (
 B 0 R a) (
 D w.heap.size a 3 fun m=>
 B2 m 32 (
 B 0 R a) (
 E w.heap.size a 2 fun p n q=>
 D w.heap.size a 3 fun o=>
 (4:Int)≠0∧
 B (i64.wrap (Int.tdiv (i64.wrap ((i64.wrap ((i64.wrap ((n:Int)+o))-1))+3)) 4)) R a))):Ca 95 #[(.agg #[(.int .i64 b),(.int .i64 c),(.slice d e f),(.int .i64 g),(.slice i j k)])] w R:=
 cV Tryz.func95 (.at_ 1 3 (.k O) (.c O O)) h
theorem xI.calls (e f g i j k:Int)(l:ByteArray)(m n o:Int)(p:OA)(q r:Nat)(s:Int)(t:OA)(u v:Nat)(h:
 E8 l e f g i j k w 29 fun b=>
 C6 n o s q r u v p t b 74 fun a=>
 D b.heap.size a 0 fun z=>
 W z 1 (
 B 1 R a) (
 D b.heap.size a 0 fun a0=>
 B2 a0 2147483647 (
 B 1 R a) (
 E b.heap.size a 4 fun aO a1 aP=>
 G5 a1 32 (
 B 1 R a) (
 D5 w.heap.size a fun a2 a3 a4 a5 a6 a7 a8=>
 D b.heap.size a 3 fun a9=>
 E b.heap.size a 2 fun aA aB aC=>
 Calls Tryz.prog 94 #[(.agg #[(.int .i64 a2),(.int .i64 a3),(.int .i64 a4),(.int .i64 a5),(.int .i64 a6),(.int .i64 a7),(.string a8)]),(.int .i64 a9),(.slice aA aB aC)] a (bc fun aD c=>∃ d:Int,aD=(.int .i64 d)∧
 F0 d 0 (
 B d R c) (
 J4 b.heap.size c fun aE aF aG aH aI aJ aK aL aM=>
 Calls Tryz.prog 95 #[(.agg #[(.int .i64 aE),(.int .i64 aF),(.slice aG aH aI),(.int .i64 aJ),(.slice aK aL aM)])] c (bc fun aN x=>∃ y:Int,aN=(.int .i64 y)∧
 Br (decide (y>m)) (
 B 11 R x) (
 B 0 R x)))))))):Ca 62 #[(.agg #[(.int .i64 e),(.int .i64 f),(.int .i64 g),(.int .i64 i),(.int .i64 j),(.int .i64 k),(.string l)]),(.int .i64 m),(.agg #[(.int .i64 n),(.int .i64 o),(.slice p q r),(.int .i64 s),(.slice t u v)])] w R:=
 cV Tryz.func62 (.at_ 1 3 (.k O) (.at_ 1 8 (.k O) (.c O (.c O (.c O O))))) h
end Go.Proofs.YtkbikekbaboclaaGreat.Vc
namespace Go.Proofs.YtkbikekbaboclaaGreat.Vc
open Go Go.Proofs V Vm
open Go.IntKind (i64)
variable {w:World}{R:Value→World→Prop}
theorem pa.fj (b:Int)(h:
 F2 0 0 w 45 fun c=>
 M0 0 w.heap.size 0 c fun a=>
 H1 w.heap.size a fun d e f g i j k l m=>
 R (.tuple #[(.agg #[(.int .i64 d),(.bool e),(.bool f),(.slice g i j),(.slice k l m)]),(.int .i64 2)]) a):Ca 11 #[(.pointer none),(.int .i64 b)] w R:=
 cV Tryz.func11 (.k O) h
theorem mi.fj (k:Nat)(a b:Int)(c:OA)(d e:Nat)(f:Int)(g:OA)(i j:Nat)(h:
 C6 a b f d e i j c g w 37 fun l=>
 B 2 R l):Ca 10 #[(.pointer none),(.pointer (some (⟨k,0,none⟩:Addr))),(.agg #[(.int .i64 a),(.int .i64 b),(.slice c d e),(.int .i64 f),(.slice g i j)])] w R:=
 cV Tryz.func10 (.k O) h
theorem mi.PJ (k:Nat)(a b:Int)(c:OA)(d e:Nat)(f:Int)(g:OA)(i j:Nat)(h:
 C6 a b f d e i j c g w 37 fun l=>
 B 2 R l):Ca 10 #[(.pointer (some (⟨k,0,none⟩:Addr))),(.pointer none),(.agg #[(.int .i64 a),(.int .i64 b),(.slice c d e),(.int .i64 f),(.slice g i j)])] w R:=
 cV Tryz.func10 (.k O) h
theorem qK.fj (a:Int)(h:
 F R w):Ca 15 #[(.pointer none),(.int .i64 a)] w R:=
 cV Tryz.func15 (.k O) h
theorem sP.fj (h:
 D3 0 R w):Ca 14 #[(.pointer none)] w R:=
 cV Tryz.func14 (.k O) h
theorem uN.fj (a:OA)(b c:Nat)(h:
 D3 0 R w):Ca 32 #[(.pointer none),(.slice a b c)] w R:=
 cV Tryz.func32 (.k O) h
theorem rE.fj (a:Int)(h:
 D3 0 R w):Ca 18 #[(.pointer none),(.int .i64 a)] w R:=
 cV Tryz.func18 (.k O) h
theorem ru.fj (h:
 B 0 R w):Ca 12 #[(.pointer none)] w R:=
 cV Tryz.func12 (.k O) h
theorem rH.fj (h:
 B 0 R w):Ca 13 #[(.pointer none)] w R:=
 cV Tryz.func13 (.k O) h
theorem pH.fj (a:Int)(h:
 B 0 R w):Ca 16 #[(.pointer none),(.int .i64 a)] w R:=
 cV Tryz.func16 (.k O) h
end Go.Proofs.YtkbikekbaboclaaGreat.Vc
