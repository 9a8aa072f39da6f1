import Derived.Test.YtkbikekbaboclaaGreatVc
import Derived.Test.YtkbikekbaboclaaGreatH
import Derived.Test.YtkbikekbaboclaaGreatProg
import Derived.KernelRfl
set_option linter.unusedVariables false
set_option maxRecDepth 100000
namespace Go.Proofs.YtkbikekbaboclaaGreat.Vc
open Go Go.Proofs V Vm
open Go.IntKind (i64)
variable {w:World}{R:Value→World→Prop}
theorem DK.calls (a:Int)(h:
 B0 a w 115 fun b c=>
 A1 (c != a) R b):Ca 195 #[(.int .i64 a)] w R:=
 cV Tryz.func195 O h
theorem cj.Et (a:OA)(b c:Nat)(h:
 M6 b c a w 91 195 fun d e=>
 A1 (decide (e≥(0:Int))) R d):Ca 52 #[(.slice a b c),(.func (.func 195) #[] #[])] w R:=
 cV Tryz.func52 O h
theorem bf.Et (d:OA)(b f:Nat)(h:
 A2 w fun g l a i c=>
 G a b (
 V a b d c 1 fun j=>
 H4 j c 195 fun e k=>
 Br k (
 B a R e) (
 X a g i e)) (
 B (-1) R c)):Ca 91 #[(.slice d b f),(.func (.func 195) #[] #[])] w R:=
 cV Tryz.func91 (.lp ([N 4,N 5,I 8]++nn 9 10) (.c (.c O O) O)) h
theorem JZ.calls (d:OA)(a j:Nat)(e f:Int)(h:
 A2 w fun k q b l c=>
 G b a (
 H b a d fun m=>
 C5 m b c 1 fun n g o=>
 Br ((g:Int) != f) (
 F R c) (
 Q9 g o n c 195 fun i p=>
 Br p (
 F R i) (
 X b k l i))) (
 A1 ((a:Int)==e) R c)):Ca 178 #[(.slice d a j),(.int .i64 e),(.int .i64 f)] w R:=
 cV Tryz.func178 (.lp ([N 6,N 9,I 12]++nn 13 13) (.c (.at_ 5 4 (.k O) (.c O O)) O)) h
theorem No.calls (c:Nat)(d:OA)(e f:Nat)(g:OA)(i j:Nat)(h:
 C1 e f i j d g w 157 fun l=>
 C l fun a m=>
 Y w.heap.size a 0 fun n o p=>
 C2 c a 3 1 fun q r=>
 N0 q r o p n m 178 fun b s=>
 a b∧
 Br s (
 Y w.heap.size a 1 fun t u v=>
 B1 c a 3 fun x=>
 D c b 1 fun y=>
 a b∧
 N0 x y u v t b 178 fun k z=>
 a k∧
 A1 z R k) (
 F R b)):Ca 150 #[(.pointer (some (⟨c,0,none⟩:Addr))),(.agg #[(.slice d e f),(.slice g i j)])] w R:=
 cV Tryz.func150 (T 0 17 (L 17 (.tk 18 (.tks 19 (T 20 13 (L 33 (L 34 (T 35 2 (.fin O))))) (T 20 17 (.fin O)))))) h
theorem FG.calls (b:OA)(c d:Nat)(e:OA)(f g i:Nat)(h:
 C1 c d f g b e w 157 fun a=>
 A4 i a 0 fun k=>
 C9 w.heap.size a fun l m n o p q=>
 Calls Tryz.prog 150 #[(.pointer k),(.agg #[(.slice l m n),(.slice o p q)])] a (bc fun r s=>∃ j:Bool,r=(.bool j)∧
 A1 (!j) R s)):Ca 149 #[(.agg #[(.slice b c d),(.slice e f g)]),(.pointer (some (⟨i,0,none⟩:Addr)))] w R:=
 cV Tryz.func149 O h
theorem cj.Fs (a:OA)(b c d:Nat)(h:
 I2 b c d a w 177 149 fun e f=>
 A1 (decide (f≥(0:Int))) R e):Ca 148 #[(.slice a b c),(.func (.func 149) #[] #[(.pointer (some (⟨d,0,none⟩:Addr)))])] w R:=
 cV Tryz.func148 O h
theorem bf.Fs (d:OA)(b i e:Nat)(h:
 A2 w fun j t a k c=>
 G a b (
 H a b d fun l=>
 M8 l a c fun m n o p q r=>
 Calls Tryz.prog 149 #[(.agg #[(.slice m n o),(.slice p q r)]),(.pointer (some ⟨e,0,none⟩))] c (bc fun s f=>∃ g:Bool,s=(.bool g)∧
 Br g (
 B a R f) (
 X a j k f))) (
 B (-1) R c)):Ca 177 #[(.slice d b i),(.func (.func 149) #[] #[(.pointer (some (⟨e,0,none⟩:Addr)))])] w R:=
 cV Tryz.func177 (.lp ([N 4,N 5,I 8]++nn 9 10) (.c (.c O O) O)) h
theorem Ll.calls (b:Nat)(c:OA)(d e:Nat)(h:
 J7 b w 24 fun a=>
 A4 w.heap.size a 0 fun g=>
 Br g.isNone (
 B 2 R a) (
 L1 d e w.heap.size c a 148 149 fun f i=>
 Br i (
 B 1 R f) (
 B 0 R f))):Ca 112 #[(.pointer (some (⟨b,0,none⟩:Addr))),(.slice c d e)] w R:=
 cV Tryz.func112 (.c O (.c O O)) h
theorem Hy.calls (b:Nat)(a:Int)(h:
 C3 a 0 (
 D b w 0 fun c=>
 A1 (decide (a<c)) R w) (
 F R w)):Ca 113 #[(.pointer (some (⟨b,0,none⟩:Addr))),(.int .i64 a)] w R:=
 cV Tryz.func113 (.at_ 1 2 O O) h
theorem Dk.calls (b:Nat)(c d:Int)(e:OA)(f g:Nat)(h:
 A4 b w 0 fun r=>
 Calls Tryz.prog 151 #[(.pointer r),(.int .i64 c),(.int .i64 d)] w (bc fun s a=>∃ (i j:Int) (k:OA) (l m:Nat) (t:Bool),s=(.tuple #[(.agg #[(.int .i64 i),(.int .i64 j),(.slice k l m)]),(.bool t)])∧
 I6 0 0 a fun u=>
 K0 i j a.heap.size l m k u fun n=>
 D4 a.heap.size n fun v x y z a0=>
 Calls Tryz.prog 184 #[(.agg #[(.int .i64 v),(.int .i64 x),(.slice y z a0)]),(.slice e f g),(.int .i64 6)] n (bc fun a1 a2=>∃ (o:OA) (p q:Nat) (a3:Int),a1=(.tuple #[(.slice o p q),(.int .i64 a3)])∧
 A0 p q o R a2))):Ca 155 #[(.pointer (some (⟨b,0,none⟩:Addr))),(.int .i64 c),(.int .i64 d),(.slice e f g)] w R:=
 cV Tryz.func155 O h
theorem Ge.calls (a:Nat)(b:OA)(c d:Nat)(h:
 E a w 2 fun i j k=>
 C1 j k c d i b w 35 fun l=>
 Calls Tryz.prog 186 #[(.slice (some ⟨w.heap.size,0,none⟩) 2 2)] l (bc fun m n=>∃ (e:OA) (f g:Nat) (o:Int),m=(.tuple #[(.slice e f g),(.int .i64 o)])∧
 A9 a f g e n 2 fun p=>
 R (.tuple #[]) p)):Ca 158 #[(.pointer (some (⟨a,0,none⟩:Addr))),(.slice b c d)] w R:=
 cV Tryz.func158 O h
theorem EB.calls (b:Nat)(c d:Int)(h:
 C w fun a k=>
 B7 b a 0 fun l=>
 Y b a 2 fun m n o=>
 Calls Tryz.prog 114 #[(.pointer l),(.int .i64 c),(.int .i64 d),(.int .i64 0)] k (bc fun p e=>∃ (f:OA) (g i:Nat),p=(.slice f g i)∧
 a e∧
 E9 g i n o f m e 183 fun j q r s=>
 a j∧
 A0 r s q R j)):Ca 154 #[(.pointer (some (⟨b,0,none⟩:Addr))),(.int .i64 c),(.int .i64 d)] w R:=
 cV Tryz.func154 (T 0 6 (T 7 4 (L 6 (L 11 (.tk 12 (.fin O)))))) h
theorem Ff.calls (n:Nat)(c a:Int)(k:OA)(b1 e:Nat)(h:
 A4 n w 0 fun b2=>
 A3 b2 fun b3=>
 S7 b3 w fun b4 b5 b6 b7 b8 b9=>
 I5 b4 b5 b6 b7 b8 b9 w 157 fun bA b=>
 C bA fun d q=>
 Y n d 1 fun z a0 a1=>
 M7 n d 3 4 fun a2 a3 a4 a5 a6 a7=>
 (
 C4 a0 a1 z q 123 fun r bB bC bD=>
 d r∧
 C1 a3 a4 a6 a7 a2 a5 r 157 fun a8=>
 d a8∧
 M bC bD r.heap.size 1 bB a8 160 fun bE a9 dG aA=>
 d aA∧
 S8 aA fun aB=>
 J6 aB fun bF aC aD aE aF aG aH o bG f=>
 G o a9 (
 H o a9 bE fun bH=>
 M8 bH o f fun bI bJ bK bL bM bN=>
 D6 0 f 157 fun bO=>
 E2 f.heap.size bJ bK bM bN bI bL bO fun bP=>
 C bP fun g bQ=>
 K5 a b e (
 Y f.heap.size g 0 fun bR bS dH=>
 H c bS bR fun bT=>
 H6 bT c g fun aI dI s=>
 K5 a b s (
 Q5 ((i64.wrap (a+b)).toNat-a.toNat) (e-a.toNat) (s-a.toNat) (if e=a.toNat then k else k.map (·.add (a.toNat*1))) (if s=a.toNat then aI else aI.map (·.add (a.toNat*1))) bQ 161 fun aJ bU=>
 g aJ∧
 D2 bU 9 aJ 160 fun t bV=>
 g t∧
 Q bV t fun aK=>
 g aK∧
 M aD aE t.heap.size 1 aC aK 35 fun bW bX bY l=>
 g l∧
 B4 c f.heap.size l 1 fun dJ dK bZ=>
 C5 bZ c l 1 fun aL dL u=>
 K5 a b u (
 B6 ((i64.wrap (a+b)).toNat-a.toNat) (u-a.toNat) (if u=a.toNat then aL else aL.map (·.add (a.toNat*1))) l 35 fun c0=>
 M aG aH l.heap.size 1 aF c0 120 fun c1 c2 c3 c4=>
 Z bG fun c5=>
 aB bW bX bY c1 c2 c3 (i64.wrap (o+1)) c5 c4)))) (
 C4 aD aE aC f 90 fun c6 c7 c8 c9=>
 E9 c8 c9 aG aH c7 aF c6 185 fun cA cB cC cD=>
 A0 cC cD cB R cA)) ∧
 (
 C1 a3 a4 a6 a7 a2 a5 q 157 fun aM=>
 d aM∧
 C4 a0 a1 z aM 123 fun aN cE cF cG=>
 d aN∧
 M cF cG q.heap.size 1 cE aN 160 fun cH aO dM aP=>
 d aP∧
 S8 aP fun aQ=>
 J6 aQ fun bF aR aS aT aU aV aW p cI i=>
 G p aO (
 H p aO cH fun cJ=>
 M8 cJ p i fun cK cL cM cN cO cP=>
 D6 0 i 157 fun cQ=>
 E2 i.heap.size cL cM cO cP cK cN cQ fun cR=>
 C cR fun j cS=>
 K5 a b e (
 Y i.heap.size j 0 fun cT cU dN=>
 H c cU cT fun cV=>
 H6 cV c j fun aX dO v=>
 K5 a b v (
 Q5 ((i64.wrap (a+b)).toNat-a.toNat) (e-a.toNat) (v-a.toNat) (if e=a.toNat then k else k.map (·.add (a.toNat*1))) (if v=a.toNat then aX else aX.map (·.add (a.toNat*1))) cS 161 fun aY cW=>
 j aY∧
 D2 cW 9 aY 160 fun x cX=>
 j x∧
 Q cX x fun aZ=>
 j aZ∧
 M aS aT x.heap.size 1 aR aZ 35 fun cY cZ d0 m=>
 j m∧
 B4 c i.heap.size m 1 fun dP dQ d1=>
 C5 d1 c m 1 fun b0 dR y=>
 K5 a b y (
 B6 ((i64.wrap (a+b)).toNat-a.toNat) (y-a.toNat) (if y=a.toNat then b0 else b0.map (·.add (a.toNat*1))) m 35 fun d2=>
 M aV aW m.heap.size 1 aU d2 120 fun d3 d4 d5 d6=>
 Z cI fun d7=>
 aQ cY cZ d0 d3 d4 d5 (i64.wrap (p+1)) d7 d6)))) (
 C4 aS aT aR i 90 fun d8 d9 dA dB=>
 E9 dA dB aV aW d9 aU d8 185 fun dC dD dE dF=>
 A0 dE dF dD R dC)) ∧
 True):Ca 156 #[(.pointer (some (⟨n,0,none⟩:Addr))),(.int .i64 c),(.int .i64 a),(.slice k b1 e)] w R:=
 cV Tryz.func156 (T 0 4 (T 5 4 (.tk 12 (.alt 4 (L 9 (L 10 (.tk 11 (.fin (.lp ([S 10,S 11,N 13,I 36]++nn 37 32) (.c (T 0 13 (L 13 (L 14 (L 15 (L 16 (.tk 17 (.fin O))))))) O)))))) (L 9 (L 4 (L 10 (.tk 11 (.fin (.lp ([S 10,S 11,N 13,I 36]++nn 37 32) (.c (T 0 13 (L 13 (L 14 (L 15 (L 16 (.tk 17 (.fin O))))))) O))))))))))) h
theorem Er.calls (a:Nat)(b:Int)(h:
 R0 2 b a w fun v f g i=>
 H8 3 b a g i f v 155 fun x y z a0=>
 C x fun c a1=>
 Y a c 3 fun a2 a3 a4=>
 H8 4 b a g i f a1 155 fun j a5 a6 a7=>
 c j∧
 B6 a6 a7 a5 j 35 fun n=>
 c n∧
 M a3 a4 j.heap.size 1 a2 n 120 fun a8 a9 aA o=>
 c o∧
 A9 a a9 aA a8 o 3 fun aB=>
 C aB fun d aC=>
 Y a d 4 fun aD aE aF=>
 H8 5 b a g i f aC 155 fun k aG aH aI=>
 d k∧
 B6 aH aI aG k 35 fun p=>
 d p∧
 M aE aF k.heap.size 1 aD p 120 fun aJ aK aL q=>
 d q∧
 A9 a aK aL aJ q 4 fun l=>
 A4 a l 0 fun aM=>
 A3 aM fun aN=>
 J3 aN l 2 fun aO=>
 D0 l 0 fun r=>
 A7 r fun bE s t u m aP e=>
 B8 m aO (
 A4 a e 0 fun aQ=>
 A3 aQ fun aR=>
 S7 aR e fun aS aT aU aV aW aX=>
 I5 aS aT aU aV aW aX e 157 fun aY aZ=>
 H8 b (i64.wrap (m*aZ)) a z a0 y aY 156 fun b0 b1 b2 b3=>
 H0 t u b2 b3 s b1 b0 35 fun b4 b5 b6 b7=>
 F3 m aP b5 b6 b4 r b7) (
 H8 6 b a t u s e 155 fun b8 b9 bA bB=>
 Calls Tryz.prog 158 #[(.pointer (some ⟨a,0,none⟩)),(.slice b9 bA bB)] b8 (bc fun bC bD=>bC = .tuple #[]∧
 R (.tuple #[]) bD))):Ca 116 #[(.pointer (some (⟨a,0,none⟩:Addr))),(.int .i64 b)] w R:=
 cV Tryz.func116 (T 0 9 (L 9 (L 10 (L 11 (T 12 3 (.last 15 (.fin (T 0 9 (L 9 (L 10 (L 11 (T 12 3 (.last 15 (.fin (.lp ([S 6,N 7,I 54]++nn 55 19) (.c O O)))))))))))))))) h
theorem Db.calls (a:Nat)(b:Int)(h:
 R0 7 b a w fun f c d e=>
 H8 8 b a d e c f 155 fun g i j k=>
 H8 9 b a d e c g 155 fun l m n o=>
 E9 j k n o i m l 159 fun p q r s=>
 H8 10 b a r s q p 155 fun t u v x=>
 Calls Tryz.prog 158 #[(.pointer (some ⟨a,0,none⟩)),(.slice u v x)] t (bc fun y z=>y = .tuple #[]∧
 R (.tuple #[]) z)):Ca 117 #[(.pointer (some (⟨a,0,none⟩:Addr))),(.int .i64 b)] w R:=
 cV Tryz.func117 O h
theorem BR.calls (b:Nat)(h:
 R0 11 0 b w fun e r s t=>
 A4 b e 0 fun u=>
 Calls Tryz.prog 151 #[(.pointer u),(.int .i64 0),(.int .i64 0)] e (bc fun v a=>∃ (f g:Int) (i:OA) (j k:Nat) (x:Bool),v=(.tuple #[(.agg #[(.int .i64 f),(.int .i64 g),(.slice i j k)]),(.bool x)])∧
 I6 0 0 a fun y=>
 K0 f g a.heap.size j k i y fun l=>
 D a.heap.size l 0 fun z=>
 D0 l 0 fun m=>
 A7 m fun aE n o p c a0 d=>
 B8 c z (
 D4 a.heap.size d fun a1 a2 a3 a4 a5=>
 O2 a1 a2 c a4 a5 a3 d fun a6 a7 a8 a9=>
 N1 a8 a9 s t a7 r a6 161 fun aA aB=>
 D2 aB 5 aA 160 fun q aC=>
 Q aC q fun aD=>
 B5 c o p q.heap.size 1 a0 n m aD 35 1) (
 A0 o p n R d))):Ca 118 #[(.pointer (some (⟨b,0,none⟩:Addr)))] w R:=
 cV Tryz.func118 (.lp ([S 6,N 7,I 20]++nn 21 12) (.c O O)) h
theorem MP.calls (b:Nat)(i:OA)(c j:Nat)(k:Int)(h:
 D6 0 w 157 fun a3=>
 P4 b c j i a3 112 fun n o=>
 F0 o 0 (
 G8 w.heap.size 0 n fun p=>
 C9 w.heap.size p fun a4 a5 a6 a7 a8 a9=>
 I0 o a5 a6 a8 a9 0 a4 a7 R p) (
 H2 k b n 113 fun a aA=>
 U aA (
 G8 w.heap.size 0 a fun q=>
 C9 w.heap.size q fun aB aC aD aE aF aG=>
 I0 3 aC aD aF aG 0 aB aE R q) (
 D b a 5 fun aH=>
 Br (decide ((c:Int)≥aH)) (
 G8 w.heap.size 0 a fun r=>
 C9 w.heap.size r fun aI aJ aK aL aM aN=>
 I0 12 aJ aK aM aN 0 aI aL R r) (
 ∀ s:World,s=a.alloc (.cells #[(.pointer (some ⟨b,0,none⟩)),(.slice i c j),(.slice none 0 0),(.slice none 0 0),(.slice none 0 0)] 189 (0,0))→
 Calls Tryz.prog 114 #[(.pointer (some ⟨b,0,none⟩)),(.int .i64 1),(.int .i64 0),(.int .i64 (c:Int))] s (bc fun aO aP=>∃ (t:OA) (u aQ:Nat),aO=(.slice t u aQ)∧
 Calls Tryz.prog 114 #[(.pointer (some ⟨b,0,none⟩)),(.int .i64 0),(.int .i64 0),(.int .i64 k)] aP (bc fun aR aS=>∃ (v:OA) (l aT:Nat),aR=(.slice v l aT)∧
 A2 aS fun aU aV e aW f=>
 G e l (
 V e l v f 1 fun aX=>
 C f fun d aY=>
 Y a.heap.size d 2 fun aZ b0 b1=>
 B3 e u t d fun b2=>
 B0 (i64.wrap (16*(i64.wrap (aX+b2)))) aY 115 fun m b3=>
 d m∧
 Q b3 m fun x=>
 d x∧
 M b0 b1 m.heap.size 1 aZ x 35 fun b4 b5 b6 y=>
 d y∧
 A9 a.heap.size b5 b6 b4 y 2 fun b7=>
 X e aU aW b7) (
 D b f 3 fun b8=>
 A2 f fun b9 aV g bA z=>
 B8 g b8 (
 Calls Tryz.prog 116 #[(.pointer (some ⟨a.heap.size,0,none⟩)),(.int .i64 g)] z (bc fun bB bC=>bB = .tuple #[]∧
 Calls Tryz.prog 117 #[(.pointer (some ⟨a.heap.size,0,none⟩)),(.int .i64 g)] bC (bc fun bD bE=>bD = .tuple #[]∧
 X g b9 bA bE))) (
 C z fun a0 bF=>
 M7 a.heap.size a0 3 4 fun bG bH bI bJ bK bL=>
 P0 a.heap.size bF 118 fun a1 bM bN bO=>
 a0 a1∧
 E2 w.heap.size bH bI bK bL bG bJ a1 fun a2=>
 C9 w.heap.size a2 fun bP bQ bR bS bT bU=>
 R (.tuple #[(.agg #[(.slice bP bQ bR),(.slice bS bT bU)]),(.slice bM bN bO),(.int .i64 0)]) a2)))))))):Ca 79 #[(.pointer (some (⟨b,0,none⟩:Addr))),(.slice i c j),(.int .i64 k)] w R:=
 cV Tryz.func79 (.c O (.c O (.c O (.lp ([N 12,N 13,I 51]++nn 52 22) (.c (T 0 12 (L 12 (L 13 (L 14 (T 15 2 (.last 17 (.fin O))))))) (.lp ([N 14,I 80]++nn 81 9) (.c O (T 0 5 (L 5 (.last 6 (T 7 2 (.fin O)))))))))))) h
theorem oI.OW (a:OA)(b c:Nat)(h:
 Br a.isNone (
 D3 0 R w) (
 A5 w 157 fun d=>
 D7 w.heap.size 0 b c a d 160 fun e f g i=>
 A0 f g e R i)):Ca 123 #[(.slice a b c)] w R:=
 cV Tryz.func123 (.c O O) h
end Go.Proofs.YtkbikekbaboclaaGreat.Vc
