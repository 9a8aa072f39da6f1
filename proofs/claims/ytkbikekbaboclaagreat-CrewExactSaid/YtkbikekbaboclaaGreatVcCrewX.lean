import Derived.Test.YtkbikekbaboclaaGreatVc
import Derived.Test.YtkbikekbaboclaaGreatH
import Derived.Test.YtkbikekbaboclaaGreatProg
import Derived.KernelRfl
set_option linter.unusedVariables false
set_option maxRecDepth 100000
namespace Go.Proofs.YtkbikekbaboclaaGreat.Vc
open Go Go.Proofs V Vm
open Go.IntKind (i64)
variable {w:World}{R:Value→World→Prop}
theorem yU.calls (c d:Int)(e:OA)(f g:Nat)(i:Int)(j:OA)(k l:Nat)(h:
 C6 c d i f g k l e j w 37 fun b=>
 ∀ a:World,a=b.alloc (.cells #[(.int .i64 0),(.int .i64 0),(.slice none 0 0),(.int .i64 0),(.slice none 0 0)] 74 (0,0))→
 D w.heap.size a 0 fun n=>
 D w.heap.size a 1 fun o=>
 E w.heap.size a 2 fun p q r=>
 D w.heap.size a 3 fun s=>
 E w.heap.size a 4 fun t u v=>
 R2 n o s b.heap.size q r u v p t a fun m=>
 J4 b.heap.size m fun x y z a0 a1 a2 a3 a4 a5=>
 R (.agg #[(.int .i64 x),(.int .i64 y),(.slice z a0 a1),(.int .i64 a2),(.slice a3 a4 a5)]) m):Ca 30 #[(.agg #[(.int .i64 c),(.int .i64 d),(.slice e f g),(.int .i64 i),(.slice j k l)])] w R:=
 cV Tryz.func30 O h
theorem vW.calls (d e:Int)(f:OA)(g i:Nat)(j:Int)(k:OA)(l m:Nat)(n o:Int)(p:OA)(q r:Nat)(s:Int)(t:OA)(u v:Nat)(h:
 C6 d e j g i l m f k w 37 fun b=>
 C6 n o s q r u v p t b 74 fun a=>
 D w.heap.size a 0 fun x=>
 D b.heap.size a 0 fun y=>
 Br (x==y) (
 D w.heap.size a 1 fun z=>
 D b.heap.size a 1 fun a0=>
 Br (z==a0) (
 D w.heap.size a 3 fun a1=>
 D b.heap.size a 3 fun a2=>
 Br (a1==a2) (
 E w.heap.size a 2 fun a3 a4 a5=>
 E b.heap.size a 2 fun a6 a7 a8=>
 G0 a4 a5 a7 a8 a3 a6 a 19 fun c a9=>
 Br a9 (
 E w.heap.size c 4 fun aA aB aC=>
 E b.heap.size c 4 fun aD aE aF=>
 G0 aB aC aE aF aA aD c 19 fun aG aH=>
 A1 aH R aG) (
 F R c)) (
 F R a)) (
 F R a)) (
 F R a)):Ca 55 #[(.agg #[(.int .i64 d),(.int .i64 e),(.slice f g i),(.int .i64 j),(.slice k l m)]),(.agg #[(.int .i64 n),(.int .i64 o),(.slice p q r),(.int .i64 s),(.slice t u v)])] w R:=
 cV Tryz.func55 (.at_ 1 5 (.at_ 1 12 (.at_ 1 19 (.at_ 1 26 O O) O) O) O) h
theorem yV.calls (i:Int)(j k:Bool)(l:OA)(m n:Nat)(o:OA)(p q:Nat)(r:Int)(s t:Bool)(u:OA)(v x:Nat)(y:OA)(z a0:Nat)(h:
 ∀ b:World,b=w.alloc (.cells #[(.int .i64 i),(.bool j),(.bool k),(.slice l m n),(.slice o p q)] 45 (0,0))→
 ∀ a:World,a=b.alloc (.cells #[(.int .i64 r),(.bool s),(.bool t),(.slice u v x),(.slice y z a0)] 72 (0,0))→
 D w.heap.size a 0 fun a2=>
 D b.heap.size a 0 fun a3=>
 Br (a2 != a3) (
 F R a) (
 J5 w.heap.size a 1 fun a4=>
 J5 b.heap.size a 1 fun a5=>
 Br (!(a4==a5)) (
 F R a) (
 J5 w.heap.size a 2 fun a6=>
 J5 b.heap.size a 2 fun a7=>
 Br (!(a6==a7)) (
 F R a) (
 E w.heap.size a 3 fun a8 a9 aA=>
 E b.heap.size a 3 fun aB aC aD=>
 G0 a9 aA aC aD a8 aB a 19 fun d aE=>
 U aE (
 F R d) (
 E w.heap.size d 4 fun bA aF bB=>
 E b.heap.size d 4 fun bC aG bD=>
 E7 aF aG (
 F R d) (
 A2 d fun aH bE c aI f=>
 E w.heap.size f 4 fun bF aJ bG=>
 G c aJ (
 C f fun e aK=>
 Y w.heap.size e 4 fun aL aM bH=>
 H c aM aL fun aN=>
 R9 aN c e fun aO aP aQ aR aS aT aU aV aW=>
 Y b.heap.size e 4 fun aX aY bI=>
 H c aY aX fun aZ=>
 R9 aZ c e fun b0 b1 b2 b3 b4 b5 b6 b7 b8=>
 Calls Tryz.prog 55 #[(.agg #[(.int .i64 aO),(.int .i64 aP),(.slice aQ aR aS),(.int .i64 aT),(.slice aU aV aW)]),(.agg #[(.int .i64 b0),(.int .i64 b1),(.slice b2 b3 b4),(.int .i64 b5),(.slice b6 b7 b8)])] aK (bc fun b9 g=>∃ a1:Bool,b9=(.bool a1)∧
 e g∧
 U a1 (
 F R g) (
 X c aH aI g))) (
 C8 R f))))))):Ca 24 #[(.agg #[(.int .i64 i),(.bool j),(.bool k),(.slice l m n),(.slice o p q)]),(.agg #[(.int .i64 r),(.bool s),(.bool t),(.slice u v x),(.slice y z a0)])] w R:=
 cV Tryz.func24 (.at_ 1 5 (.k O) (.at_ 1 12 (.k O) (.at_ 1 19 (.k O) (.at_ 1 27 (.k O) (.c O (.lp ([N 4,I 5]++nn 42 19) (.c (T 0 10 (L 10 (.tk 11 (.fin (.c O O))))) O))))))) h
theorem tg.calls (aQ:ByteArray)(z:Int)(aR:OA)(a6 dW:Nat)(h:
 Calls Tryz.prog 7 #[] w (bc fun dX aS=>∃ aT:Bool,dX=(.bool aT)∧
 U aT (
 F R aS) (
 H9 z aS 9 fun a7 g=>
 W z 1 (
 A1 g.isNone R a7) (
 B2 z 64 (
 A1 g.isNone R a7) (
 R1 aQ a7 fun a2 dY dZ e0 e1 e2 e3 e4 e5 e6 e7 e8 e9 eA eB eC eD=>
 L2 a2 fun m=>
 L3 ByteArray.empty 0 m fun eE=>
 N4 a2.heap.size dY dZ eE fun eF=>
 N5 e6 eD e0 e1 e2 e3 e4 e5 e7 e8 e9 eA eB eC m.heap.size eF fun eG=>
 H9 z eG 23 fun eH c=>
 ∃ a8:World→Prop,(
 A2 eH fun aU r i aV a=>
 G i a6 (
 W i 60 (
 H i a6 aR fun s=>
 ∃ (aW aX aY aZ:Int) (b0:OA) (b1 b2:Nat) (b3:Int) (b4:OA) (b5 b6:Nat),(a.cell? (s.add (i.toNat*7))=some (.int .i64 aW)∧a.cell? ((s.add (i.toNat*7)).add 1)=some (.int .i64 aX)∧a.cell? ((s.add (i.toNat*7)).add 2)=some (.int .i64 aY)∧a.cell? ((s.add (i.toNat*7)).add 3)=some (.int .i64 aZ)∧a.cell? ((s.add (i.toNat*7)).add 4)=some (.slice b0 b1 b2)∧a.cell? ((s.add (i.toNat*7)).add 5)=some (.int .i64 b3)∧a.cell? ((s.add (i.toNat*7)).add 6)=some (.slice b4 b5 b6))∧
 ∀ n:World,n=a.alloc (.cells #[(.int .i64 0),(.int .i64 0),(.int .i64 0),(.int .i64 0),(.slice none 0 0),(.int .i64 0),(.slice none 0 0)] 39 (0,0))→
 (dr n ⟨a.heap.size,0,none⟩∧dr n ⟨a.heap.size,1,none⟩∧dr n ⟨a.heap.size,2,none⟩∧dr n ⟨a.heap.size,3,none⟩∧dr n ⟨a.heap.size,4,none⟩∧dr n ⟨a.heap.size,5,none⟩∧dr n ⟨a.heap.size,6,none⟩)∧∀ j:World,j=(((((((n.setCell ⟨a.heap.size,0,none⟩ (.int .i64 aW)).setCell ⟨a.heap.size,1,none⟩ (.int .i64 aX)).setCell ⟨a.heap.size,2,none⟩ (.int .i64 aY)).setCell ⟨a.heap.size,3,none⟩ (.int .i64 aZ)).setCell ⟨a.heap.size,4,none⟩ (.slice b0 b1 b2)).setCell ⟨a.heap.size,5,none⟩ (.int .i64 b3)).setCell ⟨a.heap.size,6,none⟩ (.slice b4 b5 b6))→
 E a.heap.size j 4 fun iX eI iY=>
 G5 eI 40 (
 C8 R j) (
 E a.heap.size j 6 fun iZ eJ j0=>
 G5 eJ 40 (
 C8 R j) (
 ∃ v:World→Prop,(
 D a.heap.size j 0 fun e=>
 ∃ t:Bool→World→Prop,(
 P e 3 (
 t (e==(3:Int)) j) (
 P e 4 (
 t (e==(4:Int)) j) (
 P e 5 (
 t (e==(5:Int)) j) (
 P e 6 (
 t (e==(6:Int)) j) (
 P e 7 (
 t (e==(7:Int)) j) (
 t (e==(8:Int)) j)))))) ∧
 ∀ (r:Nat→Value) (b7:Bool),∀ o:World,t b7 o→
 Br b7 (
 D a.heap.size o 1 fun eK=>
 L4 eK g o fun p eL eM eN eO eP eQ eR eS eT b8=>
 F2 0 0 p 45 fun eU=>
 G6 eM eN eL p.heap.size eP eQ eS eT eO eR eU fun x=>
 A3 c fun eV=>
 F4 eV x 3 fun j1 eW j2=>
 F1 eW (
 F0 b8 8 (
 F R x) (
 D p.heap.size x 0 fun eX=>
 F0 eX 0 (
 F R x) (
 X i aU aV x))) (
 C x fun b9 a9=>
 B1 a.heap.size b9 1 fun aA=>
 A3 c fun eY=>
 J0 eY b9 3 fun j3 a3 j4=>
 (a3:Int)≠0∧
 ∃ aB:Int→World→Prop,(
 Br (decide ((Int.tmod aA (a3:Int))<(0:Int))) (
 A3 c fun eZ=>
 F4 eZ a9 3 fun j5 f0 j6=>
 aB (i64.wrap ((Int.tmod aA (a3:Int))+(f0:Int))) a9) (
 aB (Int.tmod aA (a3:Int)) a9)) ∧
 G7 aB fun r f1 f2=>
 C f2 fun u bA=>
 F0 b8 0 (
 F R bA) (
 ∃ (bB:Int) (bC bD:Bool) (bE:OA) (bF bG:Nat) (bH:OA) (bI bJ:Nat),((∀ d,u d→d.cell? ⟨p.heap.size,0,none⟩=some (.int .i64 bB))∧(∀ d,u d→d.cell? ⟨p.heap.size,1,none⟩=some (.bool bC))∧(∀ d,u d→d.cell? ⟨p.heap.size,2,none⟩=some (.bool bD))∧(∀ d,u d→d.cell? ⟨p.heap.size,3,none⟩=some (.slice bE bF bG))∧(∀ d,u d→d.cell? ⟨p.heap.size,4,none⟩=some (.slice bH bI bJ)))∧
 Calls Tryz.prog 25 #[(.pointer c),(.int .i64 f1)] bA (bc fun f3 bK=>∃ (bL:Int) (bM bN:Bool) (bO:OA) (bP bQ:Nat) (bR:OA) (bS bT:Nat),f3=(.agg #[(.int .i64 bL),(.bool bM),(.bool bN),(.slice bO bP bQ),(.slice bR bS bT)])∧
 u bK∧
 Calls Tryz.prog 24 #[(.agg #[(.int .i64 bB),(.bool bC),(.bool bD),(.slice bE bF bG),(.slice bH bI bJ)]),(.agg #[(.int .i64 bL),(.bool bM),(.bool bN),(.slice bO bP bQ),(.slice bR bS bT)])] bK (bc fun f4 aC=>∃ bU:Bool,f4=(.bool bU)∧
 u aC∧
 U bU (
 F R aC) (
 v aC)))))) (
 P e 9 (
 D a.heap.size o 1 fun f5=>
 I1 f5 c o 26 fun bV aD=>
 D a.heap.size bV 1 fun f6=>
 N6 f6 g bV 15 fun aE f7=>
 Br (!(f7==(decide (aD≥(0:Int))))) (
 F R aE) (
 C3 aD 0 (
 Calls Tryz.prog 27 #[(.pointer c),(.int .i64 aD)] aE (bc fun f8 f9=>∃ (fA fB:Int) (fC:OA) (fD fE:Nat) (fF:Int) (fG:OA) (fH fI:Nat) (fJ:OA) (fK fL:Nat) (fM:OA) (fN fO:Nat) (fP:Int),f8=(.agg #[(.int .i64 fA),(.int .i64 fB),(.slice fC fD fE),(.int .i64 fF),(.slice fG fH fI),(.slice fJ fK fL),(.slice fM fN fO),(.int .i64 fP)])∧
 v f9)) (
 v aE))) (
 P e 10 (
 C o fun a0 fQ=>
 B1 a.heap.size a0 1 fun fR=>
 A3 c fun fS=>
 P1 fS a0 2 fun fT=>
 B1 a.heap.size a0 1 fun fU=>
 I1 fR g fQ 16 fun bW fV=>
 a0 bW∧
 I1 fU fT bW 28 fun aF fW=>
 a0 aF∧
 Br (fV != fW) (
 F R aF) (
 v aF)) (
 D a.heap.size o 3 fun l=>
 (2:Int)≠0∧
 C o fun f fX=>
 S0 l (
 ∃ bX:OA,(∀ bY,f bY→bY.cell? ((⟨a2.heap.size,0,none⟩:Addr).add ((i64.wrap (Int.tmod (IntKind.u64.wrap l) 2)).toNat*1))=some (.pointer bX))∧
 G9 a.heap.size f 2 3 4 5 6 fun fY fZ g0 g1 g2 g3 g4 g5 g6=>
 S0 l (
 ∃ (bZ c0 c1 c2 c3 c4:Int) (c5:ByteArray),((∀ b,f b→b.cell? ((⟨m.heap.size,0,none⟩:Addr).add ((i64.wrap (Int.tmod (IntKind.u64.wrap l) 2)).toNat*7))=some (.int .i64 bZ))∧(∀ b,f b→b.cell? (((⟨m.heap.size,0,none⟩:Addr).add ((i64.wrap (Int.tmod (IntKind.u64.wrap l) 2)).toNat*7)).add 1)=some (.int .i64 c0))∧(∀ b,f b→b.cell? (((⟨m.heap.size,0,none⟩:Addr).add ((i64.wrap (Int.tmod (IntKind.u64.wrap l) 2)).toNat*7)).add 2)=some (.int .i64 c1))∧(∀ b,f b→b.cell? (((⟨m.heap.size,0,none⟩:Addr).add ((i64.wrap (Int.tmod (IntKind.u64.wrap l) 2)).toNat*7)).add 3)=some (.int .i64 c2))∧(∀ b,f b→b.cell? (((⟨m.heap.size,0,none⟩:Addr).add ((i64.wrap (Int.tmod (IntKind.u64.wrap l) 2)).toNat*7)).add 4)=some (.int .i64 c3))∧(∀ b,f b→b.cell? (((⟨m.heap.size,0,none⟩:Addr).add ((i64.wrap (Int.tmod (IntKind.u64.wrap l) 2)).toNat*7)).add 5)=some (.int .i64 c4))∧(∀ b,f b→b.cell? (((⟨m.heap.size,0,none⟩:Addr).add ((i64.wrap (Int.tmod (IntKind.u64.wrap l) 2)).toNat*7)).add 6)=some (.string c5)))∧
 G9 a.heap.size f 2 3 4 5 6 fun g7 g8 g9 gA gB gC gD gE gF=>
 Calls Tryz.prog 10 #[(.pointer g),(.pointer bX),(.agg #[(.int .i64 fY),(.int .i64 fZ),(.slice g0 g1 g2),(.int .i64 g3),(.slice g4 g5 g6)])] fX (bc fun gG c6=>∃ c7:Int,gG=(.int .i64 c7)∧
 f c6∧
 N9 g7 g8 gC gA gB gE gF g9 gD c6 30 fun c8 gH gI gJ gK gL gM gN gO gP=>
 f c8∧
 Calls Tryz.prog 29 #[(.pointer c),(.agg #[(.int .i64 bZ),(.int .i64 c0),(.int .i64 c1),(.int .i64 c2),(.int .i64 c3),(.int .i64 c4),(.string c5)]),(.agg #[(.int .i64 gH),(.int .i64 gI),(.slice gJ gK gL),(.int .i64 gM),(.slice gN gO gP)])] c8 (bc fun gQ aG=>∃ c9:Int,gQ=(.int .i64 c9)∧
 f aG∧
 Br (c7 != c9) (
 F R aG) (
 v aG))))))))) ∧
 E6 v fun r cA=>
 A5 cA 3 fun cB=>
 A5 cB 3 fun gR=>
 M4 cA.heap.size cB.heap.size gR fun cC=>
 J6 cC fun r cD cE cF aH aI aJ q gS y=>
 A3 c fun gT=>
 F4 gT y 3 fun j7 gU j8=>
 G q gU (
 ∃ cG:OA→Nat→Nat→OA→Nat→Nat→World→Prop,(
 A3 c fun gV=>
 F4 gV y 3 fun gW gX j9=>
 V q gX gW y 8 fun gY=>
 Q gY y fun gZ=>
 M cE cF y.heap.size 1 cD gZ 35 fun h0 h1 h2 h3=>
 ∃ aK:OA→Nat→Nat→World→Prop,(
 C h3 fun aL a1=>
 A3 c fun h4=>
 J0 h4 aL 3 fun h5 h6 jA=>
 H q h6 h5 fun h7=>
 F5 h7 q aL 8 1 fun h8=>
 B1 a.heap.size aL 3 fun h9=>
 Br (h8==h9) (
 A3 c fun hA=>
 F4 hA a1 3 fun hB hC jB=>
 V q hC hB a1 8 fun hD=>
 Q hD a1 fun hE=>
 M aI aJ a1.heap.size 1 aH hE 35 fun hF hG hH hI=>
 aK hF hG hH hI) (
 aK aH aI aJ a1)) ∧
 ∀ (r:Nat→Value) (cH:OA) (cI:Nat) (cJ:Nat),∀ a4:World,aK cH cI cJ a4→
 A3 c fun hJ=>
 F4 hJ a4 3 fun hK hL jC=>
 V q hL hK a4 8 fun hM=>
 Calls Tryz.prog 18 #[(.pointer g),(.int .i64 hM)] a4 (bc fun hN hO=>∃ (cK:OA) (cL cM:Nat),hN=(.slice cK cL cM)∧
 Calls Tryz.prog 31 #[(.pointer c),(.int .i64 q)] hO (bc fun hP hQ=>∃ (cN:OA) (cO cP:Nat),hP=(.slice cN cO cP)∧
 G0 cL cM cO cP cK cN hQ 19 fun cQ hR=>
 U hR (
 F R cQ) (
 cG h0 h1 h2 cH cI cJ cQ)))) ∧
 ∀ (r:Nat→Value) (cR:OA) (cS:Nat) (cT:Nat) (cU:OA) (cV:Nat) (cW:Nat),∀ cX:World,cG cR cS cT cU cV cW cX→
 Z gS fun hS=>
 cC cR cS cT cU cV cW (i64.wrap (q+1)) hS cX) (
 C y fun k hT=>
 Calls Tryz.prog 14 #[(.pointer g)] hT (bc fun hU cY=>∃ (cZ:OA) (d0 d1:Nat),hU=(.slice cZ d0 d1)∧
 k cY∧
 G0 d0 d1 cE cF cZ cD cY 19 fun a5 hV=>
 k a5∧
 U hV (
 F R a5) (
 B1 a.heap.size k 3 fun hW=>
 Q hW a5 fun d2=>
 k d2∧
 Calls Tryz.prog 32 #[(.pointer g),(.slice (some ⟨a5.heap.size,0,none⟩) 1 1)] d2 (bc fun hX d3=>∃ (d4:OA) (d5 d6:Nat),hX=(.slice d4 d5 d6)∧
 k d3∧
 G0 d5 d6 aI aJ d4 aH d3 19 fun aM hY=>
 k aM∧
 U hY (
 F R aM) (
 A3 c fun hZ=>
 P1 hZ k 1 fun i0=>
 F8 g aM 12 fun d7 i1=>
 k d7∧
 F8 i0 d7 33 fun aN i2=>
 k aN∧
 Br (i1 != i2) (
 F R aN) (
 A3 c fun i3=>
 P1 i3 k 2 fun i4=>
 A3 i4 fun i5=>
 J0 i5 k 1 fun jD i6 jE=>
 F8 g aN 13 fun aO i7=>
 k aO∧
 Br (i7 != (i6:Int)) (
 F R aO) (
 X i aU aV aO)))))))))) (
 a8 a)) (
 a8 a)) ∧
 E6 a8 fun r i8=>
 Calls Tryz.prog 11 #[(.pointer none),(.int .i64 0)] i8 (bc fun i9 d8=>∃ (d9:Int) (dA dB:Bool) (dC:OA) (dD dE:Nat) (dF:OA) (dG dH:Nat) (dI:Int),i9=(.tuple #[(.agg #[(.int .i64 d9),(.bool dA),(.bool dB),(.slice dC dD dE),(.slice dF dG dH)]),(.int .i64 dI)])∧
 F2 0 0 d8 45 fun iA=>
 G6 dA dB d9 d8.heap.size dD dE dG dH dC dF iA fun dJ=>
 G1 0 2 (
 A4 a2.heap.size dJ 0 fun iB=>
 Calls Tryz.prog 10 #[(.pointer none),(.pointer iB),(.agg #[(.int .i64 0),(.int .i64 0),(.slice none 0 0),(.int .i64 0),(.slice none 0 0)])] dJ (bc fun iC dK=>∃ dL:Int,iC=(.int .i64 dL)∧
 P dL 2 (
 Calls Tryz.prog 10 #[(.pointer g),(.pointer none),(.agg #[(.int .i64 0),(.int .i64 0),(.slice none 0 0),(.int .i64 0),(.slice none 0 0)])] dK (bc fun iD aP=>∃ dM:Int,iD=(.int .i64 dM)∧
 P dM 2 (
 P dI 2 (
 Calls Tryz.prog 15 #[(.pointer none),(.int .i64 1)] aP (bc fun iE dN=>∃ dO:Bool,iE=(.bool dO)∧
 U dO (
 Calls Tryz.prog 14 #[(.pointer none)] dN (bc fun iF dP=>∃ (iG:OA) (dQ iH:Nat),iF=(.slice iG dQ iH)∧
 Q 1 dP fun iI=>
 Calls Tryz.prog 32 #[(.pointer none),(.slice (some ⟨dP.heap.size,0,none⟩) 1 1)] iI (bc fun iJ iK=>∃ (iL:OA) (dR iM:Nat),iJ=(.slice iL dR iM)∧
 Calls Tryz.prog 18 #[(.pointer none),(.int .i64 1)] iK (bc fun iN iO=>∃ (iP:OA) (dS iQ:Nat),iN=(.slice iP dS iQ)∧
 Calls Tryz.prog 12 #[(.pointer none)] iO (bc fun iR iS=>∃ dT:Int,iR=(.int .i64 dT)∧
 Calls Tryz.prog 13 #[(.pointer none)] iS (bc fun iT iU=>∃ dU:Int,iT=(.int .i64 dU)∧
 Calls Tryz.prog 16 #[(.pointer none),(.int .i64 1)] iU (bc fun iV iW=>∃ dV:Int,iV=(.int .i64 dV)∧
 A1 ((i64.wrap ((i64.wrap ((i64.wrap ((i64.wrap ((i64.wrap ((dQ:Int)+(dR:Int)))+(dS:Int)))+dT))+dU))+dV))==(0:Int)) R iW))))))) (
 F R dN))) (
 F R aP)) (
 F R aP))) (
 F R dK))))))))):Ca 6 #[(.string aQ),(.int .i64 z),(.slice aR a6 dW)] w R:=
 cV Tryz.func6 (.c O (.at_ 4 2 (.k O) (.c O (.cut 2 ([N 6]++nn 11 10++nn 43 239) (.lp ([N 6,I 11]++nn 12 9++nn 43 239) (.at_ 9 4 (.c (.at_ 12 5 (.k O) (.c O (.cut 0 ([N 6]++nn 13 5++nn 69 110) (.cut 1 ([(93,some (.bool))]++nn 94 6) (.c O (.c O (.c O (.c O (.c O O))))) (.c (.c (.at_ 26 2 (.k O) (.c O O)) (T 0 9 (.fin (.cut 0 ([I 15]++nn 128 9) (.c O O) (T 0 2 (.tks 2 (T 3 7 (.fin (.k O))) (T 3 3 (L 6 (L 7 (T 8 2 (.fin (.c O O)))))))))))) (.c (.c O (.c O O)) (.c (T 0 3 (T 4 6 (L 3 (L 10 (.tk 11 (.fin (.c O O))))))) (T 0 6 (T 7 6 (L 6 (L 13 (L 14 (.tk 15 (.fin (.c O O)))))))))))) (.lp ([N 6,S 18,S 19,I 20]++nn 181 62) (.c (.cut 0 ([N 6,S 18,S 19]++nn 190 53) (.cut 1 ([S 19]++nn 202 25) (T 0 13 (.fin (.c O O))) (.c O O)) O) (.tk 0 (.tk 2 (L 1 (L 3 (.tk 4 (.tks 5 (T 6 33 (.fin (.k O))) (T 6 4 (.tk 12 (L 10 (L 11 (L 13 (T 14 2 (.tks 16 (T 17 22 (.fin (.k O))) (.tk 17 (T 19 4 (L 18 (L 23 (T 24 2 (.tks 26 (T 27 12 (.fin (.k O))) (.tk 27 (T 29 8 (L 28 (T 37 2 (.fin (.c O O)))))))))))))))))))))))))))))) O) (.k O))) (.at_ 56 6 (.at_ 56 12 (.at_ 56 16 (.at_ 56 21 O O) O) O) O))))) h
end Go.Proofs.YtkbikekbaboclaaGreat.Vc
