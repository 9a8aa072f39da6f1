import Derived.Test.YtkbikekbaboclaaGreatVc
import Derived.Test.YtkbikekbaboclaaGreatH
import Derived.Test.YtkbikekbaboclaaGreatProg
import Derived.KernelRfl
set_option linter.unusedVariables false
set_option maxRecDepth 100000
namespace Go.Proofs.YtkbikekbaboclaaGreat.Vc
open Go Go.Proofs V Vm
open Go.IntKind (i64)
variable {w:World}{R:Value→World→Prop}
theorem Af.calls (a:Int)(h:
 H9 a w 54 fun c d=>
 ∀ b:World,b=c.alloc (.cells #[(.pointer d),(.slice none 0 0)] 83 (0,0))→
 ∀ e:World,e=b.alloc (.cells #[(.int .i64 a),(.pointer d),(.pointer (some ⟨c.heap.size,0,none⟩)),(.slice none 0 0)] 68 (0,0))→
 K1 b.heap.size R e):Ca 23 #[(.int .i64 a)] w R:=
 cV Tryz.func23 O h
theorem uG.calls (c:Nat)(d:Int)(h:
 A2 w fun e l b f a=>
 E c a 3 fun m g n=>
 G b g (
 E c a 3 fun i j o=>
 V b j i a 8 fun k=>
 Br (k==d) (
 B b R a) (
 X b e f a)) (
 B (-1) R a)):Ca 26 #[(.pointer (some (⟨c,0,none⟩:Addr))),(.int .i64 d)] w R:=
 cV Tryz.func26 (.lp ([N 4,I 5]++nn 6 21) (.c (.c O O) O)) h
theorem sV.calls (i:Nat)(s t u v x y:Int)(z:ByteArray)(a0 a1:Int)(a2:OA)(a3 a4:Nat)(a5:Int)(a6:OA)(a7 a8:Nat)(h:
 E8 z s t u v x y w 29 fun c=>
 C6 a0 a1 a5 a3 a4 a7 a8 a2 a6 c 74 fun bC=>
 C bC fun j bD=>
 G3 w.heap.size j fun bE bF bG bH bI bJ bK=>
 B1 i j 0 fun bL=>
 G9 c.heap.size j 0 1 2 3 4 fun bM bN bO bP bQ bR bS bT bU=>
 Calls Tryz.prog 62 #[(.agg #[(.int .i64 bE),(.int .i64 bF),(.int .i64 bG),(.int .i64 bH),(.int .i64 bI),(.int .i64 bJ),(.string bK)]),(.int .i64 bL),(.agg #[(.int .i64 bM),(.int .i64 bN),(.slice bO bP bQ),(.int .i64 bR),(.slice bS bT bU)])] bD (bc fun bV e=>∃ a9:Int,bV=(.int .i64 a9)∧
 j e∧
 F0 a9 0 (
 B 1 R e) (
 D c.heap.size e 1 fun bW=>
 j e∧
 W bW 1 (
 B 1 R e) (
 D c.heap.size e 1 fun bX=>
 j e∧
 B2 bX 2147483647 (
 B 1 R e) (
 D c.heap.size e 0 fun bY=>
 I7 bY i e 26 fun g bZ=>
 C3 bZ 0 (
 B 9 R g) (
 E i g 3 fun cW c0 cX=>
 K8 c0 8 (
 B 10 R g) (
 D5 w.heap.size g fun c1 c2 c3 c4 c5 c6 c7=>
 E c.heap.size g 2 fun c8 c9 cA=>
 D c.heap.size g 3 fun cB=>
 E c.heap.size g 4 fun cC cD cE=>
 Calls Tryz.prog 63 #[(.agg #[(.int .i64 c1),(.int .i64 c2),(.int .i64 c3),(.int .i64 c4),(.int .i64 c5),(.int .i64 c6),(.string c7)]),(.slice c8 c9 cA),(.int .i64 cB),(.slice cC cD cE),(.bool false)] g (bc fun cF cG=>∃ (n:OA) (o p:Nat) (cH:Int),cF=(.tuple #[(.slice n o p),(.int .i64 cH)])∧
 ∃ q:Addr→World→Prop,(
 C cG fun f k=>
 G9 c.heap.size f 0 1 2 3 4 fun aA aB aC aD aE aF aG aH aI=>
 B7 i f 2 fun aJ=>
 B1 c.heap.size f 1 fun aK=>
 Y c.heap.size f 2 fun aL aM aN=>
 (
 O3 aK aM aN aJ aL k 64 fun l cI cJ cK=>
 f l∧
 I8 0 0 l fun aO=>
 f aO∧
 I9 aA aB aF 0 l.heap.size aD aE aH aI o p cJ cK aC aG n cI aO fun aP=>
 f aP∧
 q (⟨l.heap.size,0,none⟩:Addr) aP) ∧
 (
 I8 0 0 k fun aQ=>
 f aQ∧
 O3 aK aM aN aJ aL aQ 64 fun aR cL cM cN=>
 f aR∧
 I9 aA aB aF 0 k.heap.size aD aE aH aI o p cM cN aC aG n cL aR fun aS=>
 f aS∧
 q (⟨k.heap.size,0,none⟩:Addr) aS) ∧
 True) ∧
 ∀ (cY:Nat→Value) (b:Addr),∀ m:World,q b m→
 F4 b m 6 fun cZ cO d0=>
 (dr m (b.add 7))∧∀ aT:World,aT=(m.setCell (b.add 7) (.int .i64 (i64.wrap (4*(cO:Int)))))→
 C aT fun d aU=>
 Y i d 3 fun cP cQ cR=>
 ∃ (aV aW:Int) (aX:OA) (aY aZ:Nat) (b0:Int) (b1:OA) (b2 b3:Nat) (b4:OA) (b5 b6:Nat) (b7:OA) (b8 b9:Nat) (bA:Int),((∀ a,d a→a.cell? b=some (.int .i64 aV))∧(∀ a,d a→a.cell? (b.add 1)=some (.int .i64 aW))∧(∀ a,d a→a.cell? (b.add 2)=some (.slice aX aY aZ))∧(∀ a,d a→a.cell? (b.add 3)=some (.int .i64 b0))∧(∀ a,d a→a.cell? (b.add 4)=some (.slice b1 b2 b3))∧(∀ a,d a→a.cell? (b.add 5)=some (.slice b4 b5 b6))∧(∀ a,d a→a.cell? (b.add 6)=some (.slice b7 b8 b9))∧(∀ a,d a→a.cell? (b.add 7)=some (.int .i64 bA)))∧
 ∀ r:World,r=aU.alloc (.cells #[(.int .i64 aV),(.int .i64 aW),(.slice aX aY aZ),(.int .i64 b0),(.slice b1 b2 b3),(.slice b4 b5 b6),(.slice b7 b8 b9),(.int .i64 bA)] 76 (0,0))→
 d r∧
 M cQ cR aU.heap.size 1 cP r 66 fun cS cT cU bB=>
 d bB∧
 A9 i cT cU cS bB 3 fun cV=>
 B 0 R cV)))))))):Ca 29 #[(.pointer (some (⟨i,0,none⟩:Addr))),(.agg #[(.int .i64 s),(.int .i64 t),(.int .i64 u),(.int .i64 v),(.int .i64 x),(.int .i64 y),(.string z)]),(.agg #[(.int .i64 a0),(.int .i64 a1),(.slice a2 a3 a4),(.int .i64 a5),(.slice a6 a7 a8)])] w R:=
 cV Tryz.func29 (T 0 6 (L 6 (.tk 7 (.tks 8 (T 9 9 (.fin (.k O))) (.tk 9 (L 10 (T 11 2 (.tks 13 (T 14 4 (.fin (.k O))) (.tk 14 (L 15 (T 16 2 (.fin (.c O (.c O (.c O (.cut 1 ([(9,some (.addr))]++nn 50 12) (T 0 10 (.alt 10 (.tk 11 (L 12 (L 13 (.fin O)))) (L 12 (L 10 (.tk 11 (L 13 (.fin O))))))) (T 0 6 (L 6 (L 7 (T 8 2 (.last 10 (.fin O)))))))))))))))))))))) h
theorem tO.calls (b:Nat)(a:Int)(h:
 I8 0 0 w fun c=>
 B4 a b c 3 fun bH bI p=>
 O4 p a c fun q r s t u v x y z a0 a1 a2 a3 a4 a5 a6=>
 I8 0 0 c fun a7=>
 I9 q r v a6 c.heap.size t u y z a1 a2 a4 a5 s x a0 a3 a7 fun a8=>
 C a8 fun d a9=>
 B7 b d 1 fun aA=>
 Y c.heap.size d 6 fun aB aC aD=>
 O5 (-1) aC aD aA aB a9 fun e=>
 d e∧
 A5 e 76 fun g=>
 E b g 3 fun i bJ f=>
 E4 a f (
 D7 e.heap.size 0 (a.toNat-0) (f-0) (if f=0 then i else i.map (·.add (0*8))) g 66 fun aE aF aG j=>
 E b j 3 fun k l m=>
 (0≤(i64.wrap (a+1))∧(i64.wrap (a+1))≤(l:Int))∧
 H0 aF aG (l-(i64.wrap (a+1)).toNat) (m-(i64.wrap (a+1)).toNat) aE (if m=(i64.wrap (a+1)).toNat then k else k.map (·.add ((i64.wrap (a+1)).toNat*8))) j 66 fun aH aI aJ aK=>
 A9 b aI aJ aH aK 3 fun n=>
 R5 c.heap.size n fun aL aM aN aO aP aQ aR aS aT aU aV aW aX aY aZ b0=>
 I9 aL aM aQ b0 w.heap.size aO aP aS aT aV aW aY aZ aN aR aU aX n fun o=>
 R5 w.heap.size o fun b1 b2 b3 b4 b5 b6 b7 b8 b9 bA bB bC bD bE bF bG=>
 R (.agg #[(.int .i64 b1),(.int .i64 b2),(.slice b3 b4 b5),(.int .i64 b6),(.slice b7 b8 b9),(.slice bA bB bC),(.slice bD bE bF),(.int .i64 bG)]) o)):Ca 27 #[(.pointer (some (⟨b,0,none⟩:Addr))),(.int .i64 a)] w R:=
 cV Tryz.func27 (T 0 6 (L 6 (.fin O))) h
theorem sO.calls (g:Nat)(e:Int)(h:
 B4 e g w 3 fun a2 a3 j=>
 O4 j e w fun k l m n o p q r s t u v x y z a0=>
 I8 0 0 w fun a1=>
 I9 k l p a0 w.heap.size n o r s u v y z m q t x a1 fun d=>
 D w.heap.size d 7 fun a=>
 E w.heap.size d 2 fun a4 b a5=>
 E w.heap.size d 5 fun i a6 f=>
 E w.heap.size d 5 fun a7 c a8=>
 (0≤(if (c:Int)<(if (0:Int)>(i64.wrap ((i64.wrap (a-(b:Int)))+1)) then (0:Int) else (i64.wrap ((i64.wrap (a-(b:Int)))+1))) then (c:Int) else (if (0:Int)>(i64.wrap ((i64.wrap (a-(b:Int)))+1)) then (0:Int) else (i64.wrap ((i64.wrap (a-(b:Int)))+1))))∧(if (c:Int)<(if (0:Int)>(i64.wrap ((i64.wrap (a-(b:Int)))+1)) then (0:Int) else (i64.wrap ((i64.wrap (a-(b:Int)))+1))) then (c:Int) else (if (0:Int)>(i64.wrap ((i64.wrap (a-(b:Int)))+1)) then (0:Int) else (i64.wrap ((i64.wrap (a-(b:Int)))+1))))≤(f:Int))∧
 A0 ((if (c:Int)<(if (0:Int)>(i64.wrap ((i64.wrap (a-(b:Int)))+1)) then (0:Int) else (i64.wrap ((i64.wrap (a-(b:Int)))+1))) then (c:Int) else (if (0:Int)>(i64.wrap ((i64.wrap (a-(b:Int)))+1)) then (0:Int) else (i64.wrap ((i64.wrap (a-(b:Int)))+1)))).toNat-0) (f-0) (if f=0 then i else i.map (·.add (0*1))) R d):Ca 31 #[(.pointer (some (⟨g,0,none⟩:Addr))),(.int .i64 e)] w R:=
 cV Tryz.func31 O h
theorem sL.calls (d:Nat)(a:Int)(h:
 F2 0 0 w 72 fun g=>
 E d g 3 fun bO bP gJ=>
 V a bP bO g 8 fun bQ=>
 F2 0 0 g 72 fun bR=>
 M0 bQ g.heap.size 0 bR fun bS=>
 ∃ l:World→Prop,(
 ∃ p:Nat→World→Prop,(∃ bT:Nat,p bT bS)∧
 ∀ (x:Nat→Value),∀ (y:Nat) (aH:World),p y aH→
 C aH fun q aI=>
 Y d q 3 fun bU bV gK=>
 H a bV bU fun bW=>
 F5 bW a q 8 7 fun bX=>
 Y d q 3 fun bY bZ gL=>
 H a bZ bY fun c0=>
 O6 c0 a q 8 6 fun gM c1 gN=>
 Br (bX==(i64.wrap (4*(c1:Int)))) (
 C aI fun r c2=>
 B7 d r 1 fun c3=>
 Y d r 3 fun c4 c5 gO=>
 H a c5 c4 fun c6=>
 F5 c6 a r 8 1 fun c7=>
 Calls Tryz.prog 56 #[(.pointer c3),(.int .i64 c7)] c2 (bc fun c8 s=>∃ t aJ:Int,c8=(.tuple #[(.int .i64 t),(.int .i64 aJ)])∧
 r s∧
 P aJ 0 (
 C s fun f m=>
 Y d f 3 fun z a0 gP=>
 Y d f 3 fun c9 cA gQ=>
 H a cA c9 fun cB=>
 O6 cB a f 8 6 fun a1 a2 a3=>
 (
 A5 m 3 fun u=>
 f u∧
 (
 D7 m.heap.size 0 a2 a3 a1 u 35 fun cC cD cE a4=>
 f a4∧
 Q t a4 fun aK=>
 f aK∧
 M cD cE a4.heap.size 1 cC aK 35 fun cF cG cH aL=>
 f aL∧
 H a a0 z fun cI=>
 G4 cI a cG cH cF aL 8 6 fun cJ=>
 l cJ) ∧
 (
 Q t u fun aM=>
 f aM∧
 D7 m.heap.size 0 a2 a3 a1 aM 35 fun cK cL cM aN=>
 f aN∧
 M cL cM u.heap.size 1 cK aN 35 fun cN cO cP aO=>
 f aO∧
 H a a0 z fun cQ=>
 G4 cQ a cO cP cN aO 8 6 fun cR=>
 l cR) ∧
 True) ∧
 (
 Q t m fun a5=>
 f a5∧
 A5 a5 3 fun aP=>
 f aP∧
 D7 a5.heap.size 0 a2 a3 a1 aP 35 fun cS cT cU aQ=>
 f aQ∧
 M cT cU m.heap.size 1 cS aQ 35 fun cV cW cX aR=>
 f aR∧
 H a a0 z fun cY=>
 G4 cY a cW cX cV aR 8 6 fun cZ=>
 l cZ) ∧
 True) (
 A4 d s 2 fun d0=>
 Calls Tryz.prog 57 #[(.pointer d0)] s (bc fun d1 a6=>∃ aS:Bool,d1=(.bool aS)∧
 Br aS (
 Z y fun a7=>
 p a7 a6) (
 E d a6 3 fun gR aT gS=>
 O7 (i64.wrap ((aT:Int)-1)) d a6 fun a8 d2 d3 d4 d5 d6 d7 d8 d9 dA dB dC dD dE dF dG dH=>
 I8 0 0 a8 fun dI=>
 I9 d2 d3 d7 dH a8.heap.size d5 d6 d9 dA dC dD dF dG d4 d8 dB dE dI fun v=>
 E g.heap.size v 4 fun dJ dK dL=>
 J4 a8.heap.size v fun dM dN dO dP dQ dR dS dT dU=>
 C6 dM dN dR dP dQ dT dU dO dS v 74 fun dV=>
 M dK dL v.heap.size 1 dJ dV 70 fun dW dX dY dZ=>
 A9 g.heap.size dX dY dW dZ 4 fun aU=>
 Br ((i64.wrap ((aT:Int)-1))==a) (
 K9 g.heap.size aU 2 fun aV=>
 H1 g.heap.size aV fun e0 e1 e2 e3 e4 e5 e6 e7 e8=>
 G6 e1 e2 e0 w.heap.size e4 e5 e7 e8 e3 e6 aV fun aW=>
 H1 w.heap.size aW fun e9 eA eB eC eD eE eF eG eH=>
 R (.agg #[(.int .i64 e9),(.bool eA),(.bool eB),(.slice eC eD eE),(.slice eF eG eH)]) aW) (
 Z y fun a7=>
 p a7 aU)))))) (
 l aI)) ∧
 E6 l fun x b=>
 B4 a d b 3 fun gT gU eI=>
 O4 eI a b fun eJ eK eL eM eN eO eP eQ eR eS eT eU eV eW eX eY=>
 I8 0 0 b fun eZ=>
 I9 eJ eK eO eY b.heap.size eM eN eQ eR eT eU eW eX eL eP eS eV eZ fun aX=>
 A5 aX 3 fun aY=>
 E b.heap.size aY 2 fun f0 f1 f2=>
 D7 aX.heap.size 0 f1 f2 f0 aY 35 fun f3 f4 f5 aZ=>
 E b.heap.size aZ 5 fun f6 f7 f8=>
 H0 f4 f5 f7 f8 f3 f6 aZ 35 fun b0 gV a9 n=>
 E b.heap.size n 6 fun f9 fA gW=>
 E b.heap.size n 6 fun gX aA gY=>
 (0≤(i64.wrap ((aA:Int)-1))∧(i64.wrap ((aA:Int)-1))<(fA:Int))∧jr f9 fun fB=>
 ∃ aB:Int,n.cell? (fB.add ((i64.wrap ((aA:Int)-1)).toNat*1))=some (.int .i64 aB)∧
 A4 d n 1 fun fC=>
 Calls Tryz.prog 58 #[(.pointer fC),(.int .i64 aB),(.agg #[(.slice none 0 0),(.slice none 0 0)])] n (bc fun fD b1=>∃ fE:Int,fD=(.int .i64 fE)∧
 D b.heap.size b1 7 fun fF=>
 N3 (i64.wrap (fF+1)) b.heap.size b1 7 fun aC=>
 ∃ aD:World→Prop,(
 D b.heap.size aC 7 fun fG=>
 (4:Int)≠0∧
 Br ((Int.tmod fG 4)==(0:Int)) (
 C aC fun aE fH=>
 B7 d aE 2 fun fI=>
 C2 b.heap.size aE 1 7 fun fJ b2=>
 E4 b2 a9 (
 Calls Tryz.prog 59 #[(.pointer fI),(.int .i64 aB),(.int .i64 fJ),(.slice (if a9=0 then b0 else b0.map (·.add (0*1))) (b2.toNat-0) (a9-0))] fH (bc fun fK b3=>∃ fL:Int,fK=(.int .i64 fL)∧
 aE b3∧
 aD b3))) (
 aD aC)) ∧
 E6 aD fun x fM=>
 C fM fun i j=>
 Y d i 3 fun fN fO gZ=>
 ∃ (b4 b5:Int) (b6:OA) (b7 b8:Nat) (b9:Int) (bA:OA) (bB bC:Nat) (bD:OA) (bE bF:Nat) (bG:OA) (bH bI:Nat) (bJ:Int),((∀ c,i c→c.cell? ⟨b.heap.size,0,none⟩=some (.int .i64 b4))∧(∀ c,i c→c.cell? ⟨b.heap.size,1,none⟩=some (.int .i64 b5))∧(∀ c,i c→c.cell? ⟨b.heap.size,2,none⟩=some (.slice b6 b7 b8))∧(∀ c,i c→c.cell? ⟨b.heap.size,3,none⟩=some (.int .i64 b9))∧(∀ c,i c→c.cell? ⟨b.heap.size,4,none⟩=some (.slice bA bB bC))∧(∀ c,i c→c.cell? ⟨b.heap.size,5,none⟩=some (.slice bD bE bF))∧(∀ c,i c→c.cell? ⟨b.heap.size,6,none⟩=some (.slice bG bH bI))∧(∀ c,i c→c.cell? ⟨b.heap.size,7,none⟩=some (.int .i64 bJ)))∧
 H a fO fN fun e=>
 (dr j (e.add (a.toNat*8))∧dr j ((e.add (a.toNat*8)).add 1)∧dr j ((e.add (a.toNat*8)).add 2)∧dr j ((e.add (a.toNat*8)).add 3)∧dr j ((e.add (a.toNat*8)).add 4)∧dr j ((e.add (a.toNat*8)).add 5)∧dr j ((e.add (a.toNat*8)).add 6)∧dr j ((e.add (a.toNat*8)).add 7))∧∀ k:World,k=((((((((j.setCell (e.add (a.toNat*8)) (.int .i64 b4)).setCell ((e.add (a.toNat*8)).add 1) (.int .i64 b5)).setCell ((e.add (a.toNat*8)).add 2) (.slice b6 b7 b8)).setCell ((e.add (a.toNat*8)).add 3) (.int .i64 b9)).setCell ((e.add (a.toNat*8)).add 4) (.slice bA bB bC)).setCell ((e.add (a.toNat*8)).add 5) (.slice bD bE bF)).setCell ((e.add (a.toNat*8)).add 6) (.slice bG bH bI)).setCell ((e.add (a.toNat*8)).add 7) (.int .i64 bJ))→
 D b.heap.size k 7 fun aF=>
 E b.heap.size k 2 fun h0 aG h1=>
 ∃ o:World→Prop,(
 Br (decide ((i64.wrap ((i64.wrap (aF-(aG:Int)))+1))≥(1:Int))) (
 E b.heap.size k 5 fun h2 fP h3=>
 Br (decide ((i64.wrap ((i64.wrap (aF-(aG:Int)))+1))>(fP:Int))) (
 K9 g.heap.size k 1 fun bK=>
 E b.heap.size bK 5 fun fQ fR fS=>
 A9 g.heap.size fR fS fQ bK 3 fun fT=>
 O7 a d fT fun fU h4 h5 h6 h7 h8 h9 hA hB hC hD hE hF hG hH hI hJ=>
 o fU) (
 D b.heap.size k 3 fun fV=>
 Br ((i64.wrap ((i64.wrap (aF-(aG:Int)))+1))==fV) (
 K9 g.heap.size k 1 fun bL=>
 E b.heap.size bL 5 fun fW fX fY=>
 A9 g.heap.size fX fY fW bL 3 fun fZ=>
 O7 a d fZ fun g0 hK hL hM hN hO hP hQ hR hS hT hU hV hW hX hY hZ=>
 o g0) (
 o k))) (
 o k)) ∧
 E6 o fun x bM=>
 H1 g.heap.size bM fun g1 g2 g3 g4 g5 g6 g7 g8 g9=>
 G6 g2 g3 g1 w.heap.size g5 g6 g8 g9 g4 g7 bM fun bN=>
 H1 w.heap.size bN fun gA gB gC gD gE gF gG gH gI=>
 R (.agg #[(.int .i64 gA),(.bool gB),(.bool gC),(.slice gD gE gF),(.slice gG gH gI)]) bN)):Ca 25 #[(.pointer (some (⟨d,0,none⟩:Addr))),(.int .i64 a)] w R:=
 cV Tryz.func25 (.cut 2 (nn 6 4++nn 24 84) (.lp (nn 6 4++nn 24 84) (T 0 19 (.fin (.c (T 0 13 (L 13 (T 14 5 (.fin (.c (T 0 5 (T 6 8 (.tk 15 (.alt 5 (.alt 14 (L 16 (L 17 (T 18 2 (.last 20 (.fin O))))) (L 16 (L 14 (L 17 (T 18 2 (.last 20 (.fin O))))))) (L 16 (L 5 (L 14 (L 17 (T 18 2 (.last 20 (.fin O))))))))))) (.c O (.c O O))))))) O)))) (.cut 6 (nn 143 17) (.c (T 0 12 (L 12 (.fin O))) O) (T 0 7 (.last 7 (.fin (.cut 1 (nn 175 23) (.at_ 23 2 (.at_ 23 8 (.k O) (.c O O)) (.k O)) O)))))) h
end Go.Proofs.YtkbikekbaboclaaGreat.Vc
