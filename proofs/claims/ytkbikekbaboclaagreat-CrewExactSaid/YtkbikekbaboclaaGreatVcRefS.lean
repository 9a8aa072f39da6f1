import Derived.Test.YtkbikekbaboclaaGreatVc
import Derived.Test.YtkbikekbaboclaaGreatH
import Derived.Test.YtkbikekbaboclaaGreatProg
import Derived.KernelRfl
set_option linter.unusedVariables false
set_option maxRecDepth 100000
namespace Go.Proofs.YtkbikekbaboclaaGreat.Vc
open Go Go.Proofs V Vm
open Go.IntKind (i64)
variable {w:World}{R:Value→World→Prop}
theorem yY.calls (d:OA)(c j:Nat)(g i:Int)(h:
 Br ((c:Int) != g) (
 F R w) (
 A2 w fun k l a m e=>
 B8 a g (
 H a c d fun n=>
 C5 n a e 1 fun a0 o a1=>
 Br ((o:Int) != i) (
 F R e) (
 A2 e fun p l f q b=>
 B8 f i (
 H a c d fun r=>
 C5 r a b 1 fun s t a2=>
 V f t s b 1 fun u=>
 B2 u 32767 (
 F R b) (
 H a c d fun v=>
 C5 v a b 1 fun x y a3=>
 V f y x b 1 fun z=>
 Br (decide (z<(-32767:Int))) (
 F R b) (
 X f p q b))) (
 X a k m b))) (
 C8 R e))):Ca 164 #[(.slice d c j),(.int .i64 g),(.int .i64 i)] w R:=
 cV Tryz.func164 (.c O (.lp ([N 6,I 7,N 8]++nn 13 35) (.c (.c O (.lp ([N 6,I 8]++nn 25 23) (.c (.at_ 11 8 (.k O) (.c O O)) O))) O))) h
theorem yD.calls (d e f g i j:Int)(k:ByteArray)(l:OA)(m n:Nat)(o:OA)(p q:Nat)(h:
 E8 k d e f g i j w 29 fun c=>
 C1 m n p q l o c 122 fun b=>
 E c.heap.size b 0 fun r s t=>
 D w.heap.size b 3 fun u=>
 D w.heap.size b 1 fun v=>
 N0 u v s t r b 164 fun a x=>
 Br x (
 E c.heap.size a 1 fun y z a0=>
 D w.heap.size a 3 fun a1=>
 D w.heap.size a 1 fun a2=>
 N0 a1 a2 z a0 y a 164 fun a3 a4=>
 A1 a4 R a3) (
 F R a)):Ca 130 #[(.agg #[(.int .i64 d),(.int .i64 e),(.int .i64 f),(.int .i64 g),(.int .i64 i),(.int .i64 j),(.string k)]),(.agg #[(.slice l m n),(.slice o p q)])] w R:=
 cV Tryz.func130 (.at_ 1 9 O O) h
theorem xe.calls (a b c d e f:Int)(g:ByteArray)(i j:Int)(h:
 E8 g a b c d e f w 29 fun k=>
 D5 w.heap.size k fun l m n o p q r=>
 Q3 r l m n o p q i j 0 k fun s t u v=>
 A0 u v t R s):Ca 134 #[(.agg #[(.int .i64 a),(.int .i64 b),(.int .i64 c),(.int .i64 d),(.int .i64 e),(.int .i64 f),(.string g)]),(.int .i64 i),(.int .i64 j)] w R:=
 cV Tryz.func134 O h
theorem xl.calls (d e f g i j:Int)(k:ByteArray)(a l:Int)(m:OA)(n o:Nat)(p:Int)(h:
 E8 k d e f g i j w 29 fun q=>
 A8 w.heap.size q fun y z a0 a1 a2 a3=>
 I4 y z a0 a1 a2 a3 a q 166 fun r a4 aO=>
 A5 r 3 fun a5=>
 D8 r.heap.size a5 0 fun s=>
 A7 s fun aP t u v b a6 c=>
 B8 b a4 (
 D5 w.heap.size c fun a7 a8 a9 aA aB aC aD=>
 Q3 aD a7 a8 a9 aA aB aC a l b c fun aE aF aG aH=>
 N1 aG aH n o aF m aE 140 fun aI aJ=>
 D2 aJ p aI 139 fun aK aL=>
 B0 aL aK 132 fun x aM=>
 Q aM x fun aN=>
 B5 b u v x.heap.size 1 a6 t s aN 35 1) (
 A0 u v t R c)):Ca 135 #[(.agg #[(.int .i64 d),(.int .i64 e),(.int .i64 f),(.int .i64 g),(.int .i64 i),(.int .i64 j),(.string k)]),(.int .i64 a),(.int .i64 l),(.slice m n o),(.int .i64 p)] w R:=
 cV Tryz.func135 (.lp ([S 13,I 14,N 15,N 16]++nn 25 22) (.c O O)) h
theorem yH.calls (a:OA)(b c:Nat)(d:OA)(e f:Nat)(h:
 C1 b c e f a d w 35 fun k=>
 Calls Tryz.prog 170 #[(.slice (some ⟨w.heap.size,0,none⟩) 2 2)] k (bc fun l m=>∃ (g:OA) (i j:Nat) (n:Bool),l=(.tuple #[(.slice g i j),(.bool n)])∧
 A0 i j g R m)):Ca 137 #[(.slice a b c),(.slice d e f)] w R:=
 cV Tryz.func137 O h
theorem yE.calls (p q r s t u:Int)(v:ByteArray)(j:OA)(aI f:Nat)(x:OA)(k aJ:Nat)(y:OA)(z aK:Nat)(h:
 E8 v p q r s t u w 29 fun a0=>
 A5 a0 3 fun l=>
 D w.heap.size l 1 fun b=>
 D w.heap.size l 2 fun a=>
 a≠0∧
 D8 a0.heap.size l 0 fun a1=>
 A7 a1 fun aL a2 a3 a4 c aM g=>
 D w.heap.size g 2 fun aN=>
 B8 c aN (
 A5 g 3 fun a5=>
 A5 a5 35 fun aO=>
 M4 g.heap.size a5.heap.size aO fun a6=>
 J6 a6 fun aL a7 a8 a9 aA aB aC d aP aD=>
 G d k (
 C aD fun e aQ=>
 Q4 c b a f (
 H d k x fun aR=>
 H6 aR d e fun aE bG m=>
 Q4 c b a m (
 Q5 ((i64.wrap ((i64.wrap (c*(i64.wrap (Int.tdiv b a))))+(i64.wrap (Int.tdiv b a)))).toNat-(i64.wrap (c*(i64.wrap (Int.tdiv b a)))).toNat) (f-(i64.wrap (c*(i64.wrap (Int.tdiv b a)))).toNat) (m-(i64.wrap (c*(i64.wrap (Int.tdiv b a)))).toNat) (if f=(i64.wrap (c*(i64.wrap (Int.tdiv b a)))).toNat then j else j.map (·.add ((i64.wrap (c*(i64.wrap (Int.tdiv b a)))).toNat*1))) (if m=(i64.wrap (c*(i64.wrap (Int.tdiv b a)))).toNat then aE else aE.map (·.add ((i64.wrap (c*(i64.wrap (Int.tdiv b a)))).toNat*1))) aQ 140 fun aF aS=>
 e aF∧
 D2 aS 9 aF 139 fun n aT=>
 e n∧
 Q aT n fun aG=>
 e aG∧
 M a8 a9 n.heap.size 1 a7 aG 35 fun aU aV aW i=>
 e i∧
 H d z y fun aX=>
 C5 aX d i 1 fun aH bH o=>
 Q4 c b a o (
 B6 ((i64.wrap ((i64.wrap (c*(i64.wrap (Int.tdiv b a))))+(i64.wrap (Int.tdiv b a)))).toNat-(i64.wrap (c*(i64.wrap (Int.tdiv b a)))).toNat) (o-(i64.wrap (c*(i64.wrap (Int.tdiv b a)))).toNat) (if o=(i64.wrap (c*(i64.wrap (Int.tdiv b a)))).toNat then aH else aH.map (·.add ((i64.wrap (c*(i64.wrap (Int.tdiv b a)))).toNat*1))) i 35 fun aY=>
 M aB aC i.heap.size 1 aA aY 120 fun aZ b0 b1 b2=>
 Z aP fun b3=>
 a6 aU aV aW aZ b0 b1 (i64.wrap (d+1)) b3 b2)))) (
 C4 a8 a9 a7 aD 142 fun b4 b5 b6 b7=>
 E9 b6 b7 aB aC b5 aA b4 169 fun b8 b9 bA bB=>
 H0 a3 a4 bA bB a2 b9 b8 35 fun bC bD bE bF=>
 F3 c aM bD bE bC a1 bF)) (
 A0 a3 a4 a2 R g)):Ca 136 #[(.agg #[(.int .i64 p),(.int .i64 q),(.int .i64 r),(.int .i64 s),(.int .i64 t),(.int .i64 u),(.string v)]),(.slice j aI f),(.slice x k aJ),(.slice y z aK)] w R:=
 cV Tryz.func136 (.lp ([S 9,I 11]++nn 12 3++nn 23 65) (.c (.lp ([S 12,S 13,I 14]++nn 32 50) (.c (T 0 24 (L 24 (L 25 (L 26 (L 27 (.tk 28 (.fin O))))))) O)) O)) h
theorem yu.calls (bF bG bH bI bJ bK:Int)(bL:ByteArray)(aP:OA)(m dZ:Nat)(aQ:Int)(h:
 E8 bL bF bG bH bI bJ bK w 29 fun c=>
 D6 0 c 122 fun e0=>
 A2 e0 fun e1 a5 a6 e2 n=>
 G a6 m (
 C n fun aR e3=>
 G3 w.heap.size aR fun e4 e5 e6 e7 e8 e9 eA=>
 H a6 m aP fun bM=>
 ∃ (bN:OA) (bO bP:Nat) (bQ:OA) (bR bS:Nat),((∀ a7,aR a7→a7.cell? (bM.add (a6.toNat*2))=some (.slice bN bO bP))∧(∀ a7,aR a7→a7.cell? ((bM.add (a6.toNat*2)).add 1)=some (.slice bQ bR bS)))∧
 Calls Tryz.prog 130 #[(.agg #[(.int .i64 e4),(.int .i64 e5),(.int .i64 e6),(.int .i64 e7),(.int .i64 e8),(.int .i64 e9),(.string eA)]),(.agg #[(.slice bN bO bP),(.slice bQ bR bS)])] e3 (bc fun eB aY=>∃ bT:Bool,eB=(.bool bT)∧
 aR aY∧
 U bT (
 G8 c.heap.size 0 aY fun bU=>
 C9 c.heap.size bU fun eC eD eE eF eG eH=>
 I0 1 eD eE eG eH 0 eC eF R bU) (
 X a6 e1 e2 aY))) (
 W aQ 0 (
 G8 c.heap.size 0 n fun bV=>
 C9 c.heap.size bV fun eI eJ eK eL eM eN=>
 I0 3 eJ eK eM eN 0 eI eL R bV) (
 D w.heap.size n 0 fun eO=>
 I3 aQ eO (
 G8 c.heap.size 0 n fun bW=>
 C9 c.heap.size bW fun eP eQ eR eS eT eU=>
 I0 3 eQ eR eT eU 0 eP eS R bW) (
 D w.heap.size n 5 fun eV=>
 Br (decide ((m:Int)≥eV)) (
 G8 c.heap.size 0 n fun bX=>
 C9 c.heap.size bX fun eW eX eY eZ f0 f1=>
 I0 12 eX eY f0 f1 0 eW eZ R bX) (
 D5 w.heap.size n fun f2 f3 f4 f5 f6 f7 f8=>
 S5 f8 f2 f3 f4 f5 f6 f7 0 aQ n fun bY f9 fA nA=>
 D5 w.heap.size bY fun fB fC fD fE fF fG fH=>
 Q3 fH fB fC fD fE fF fG 1 0 (m:Int) bY fun bZ fI fJ nB=>
 A5 bZ 3 fun fK=>
 D8 bZ.heap.size fK 0 fun c0=>
 A7 c0 fun a5 c1 c2 c3 aS fL d=>
 D w.heap.size d 1 fun fM=>
 B8 aS fM (
 C d fun a8 fN=>
 B3 aS fA f9 a8 fun fO=>
 B3 aS fJ fI a8 fun fP=>
 B0 (i64.wrap (16*(i64.wrap (fO+fP)))) fN 132 fun aZ fQ=>
 a8 aZ∧
 Q fQ aZ fun c4=>
 a8 c4∧
 M c2 c3 aZ.heap.size 1 c1 c4 35 fun fR fS fT c5=>
 a8 c5∧
 F3 aS fL fS fT fR c0 c5) (
 D6 0 d 122 fun fU=>
 G8 d.heap.size 0 fU fun fV=>
 N8 c2 c3 c1 fV fun c6=>
 A7 c6 fun a5 b0 b1 b2 b fW a9=>
 D w.heap.size a9 3 fun fX=>
 B8 b fX (
 D5 w.heap.size a9 fun fY fZ g0 g1 g2 g3 g4=>
 Q6 g4 fY fZ g0 g1 g2 g3 2 b a9 fun g5 g6 g7 g8=>
 E9 g7 g8 b1 b2 g6 b0 g5 133 fun g9 x y z=>
 C g9 fun aA gA=>
 Y d.heap.size aA 0 fun gB gC gD=>
 G3 w.heap.size aA fun gE gF gG gH gI gJ gK=>
 F7 gK gE gF gG gH gI gJ 4 b 6 y z x gA fun b3 gL gM gN=>
 aA b3∧
 B6 gM gN gL b3 35 fun c7=>
 aA c7∧
 M gC gD b3.heap.size 1 gB c7 120 fun gO gP gQ c8=>
 aA c8∧
 A9 d.heap.size gP gQ gO c8 0 fun gR=>
 C gR fun aB gS=>
 Y d.heap.size aB 1 fun gT gU gV=>
 G3 w.heap.size aB fun gW gX gY gZ h0 h1 h2=>
 F7 h2 gW gX gY gZ h0 h1 5 b 6 y z x gS fun b4 h3 h4 h5=>
 aB b4∧
 B6 h4 h5 h3 b4 35 fun c9=>
 aB c9∧
 M gU gV b4.heap.size 1 gT c9 120 fun h6 h7 h8 cA=>
 aB cA∧
 A9 d.heap.size h7 h8 h6 cA 1 fun cB=>
 A5 cB 35 fun cC=>
 A5 cC 35 fun h9=>
 M4 cB.heap.size cC.heap.size h9 fun cD=>
 J6 cD fun a5 e f g i j k a3 hA aC=>
 G a3 m (
 H a3 m aP fun hB=>
 C5 hB a3 aC 2 fun hC hD nC=>
 H b hD hC fun hE=>
 C5 hE b aC 1 fun hF hG hH=>
 B6 hG hH hF aC 35 fun hI=>
 M f g aC.heap.size 1 e hI 120 fun hJ hK hL aT=>
 H a3 m aP fun hM=>
 F6 hM a3 aT 2 1 fun hN hO nD=>
 H b hO hN fun hP=>
 C5 hP b aT 1 fun hQ hR hS=>
 B6 hR hS hQ aT 35 fun hT=>
 M j k aT.heap.size 1 i hT 120 fun hU hV hW hX=>
 Z hA fun hY=>
 cD hJ hK hL hU hV hW (i64.wrap (a3+1)) hY hX) (
 ∃ l:OA→Nat→Nat→World→Prop,(
 C aC fun a o=>
 G3 w.heap.size a fun p q r s t u v=>
 G3 w.heap.size a fun aD aE aF aG aH aI aJ=>
 Y d.heap.size a 0 fun hZ i0 nE=>
 H b i0 hZ fun i1=>
 H6 i1 b a fun aK aL aM=>
 Y d.heap.size a 1 fun i2 i3 nF=>
 H b i3 i2 fun i4=>
 H6 i4 b a fun a0 a1 a2=>
 (
 F7 aJ aD aE aF aG aH aI 3 b 6 y z x o fun a4 b5 b6 b7=>
 a a4∧
 (
 B6 aL aM aK a4 35 fun aU=>
 a aU∧
 (
 M f g a4.heap.size 1 e aU 120 fun i5 i6 i7 b8=>
 a b8∧
 B6 a1 a2 a0 b8 35 fun cE=>
 a cE∧
 M j k b8.heap.size 1 i cE 120 fun i8 i9 iA cF=>
 a cF∧
 H7 v p q r s t u b6 b7 i6 i7 i9 iA b5 i5 i8 cF fun cG iB iC iD=>
 a cG∧
 l iB iC iD cG) ∧
 (
 B6 a1 a2 a0 aU 35 fun cH=>
 a cH∧
 M f g a4.heap.size 1 e cH 120 fun iE iF iG cI=>
 a cI∧
 M j k aU.heap.size 1 i cI 120 fun iH iI iJ cJ=>
 a cJ∧
 H7 v p q r s t u b6 b7 iF iG iI iJ b5 iE iH cJ fun cK iK iL iM=>
 a cK∧
 l iK iL iM cK) ∧
 True) ∧
 (
 B6 a1 a2 a0 a4 35 fun b9=>
 a b9∧
 B6 aL aM aK b9 35 fun cL=>
 a cL∧
 M f g b9.heap.size 1 e cL 120 fun iN iO iP cM=>
 a cM∧
 M j k a4.heap.size 1 i cM 120 fun iQ iR iS cN=>
 a cN∧
 H7 v p q r s t u b6 b7 iO iP iR iS b5 iN iQ cN fun cO iT iU iV=>
 a cO∧
 l iT iU iV cO) ∧
 True) ∧
 (
 B6 aL aM aK o 35 fun aV=>
 a aV∧
 (
 F7 aJ aD aE aF aG aH aI 3 b 6 y z x aV fun aW cP cQ cR=>
 a aW∧
 (
 M f g o.heap.size 1 e aW 120 fun iW iX iY bA=>
 a bA∧
 B6 a1 a2 a0 bA 35 fun cS=>
 a cS∧
 M j k bA.heap.size 1 i cS 120 fun iZ j0 j1 cT=>
 a cT∧
 H7 v p q r s t u cQ cR iX iY j0 j1 cP iW iZ cT fun cU j2 j3 j4=>
 a cU∧
 l j2 j3 j4 cU) ∧
 (
 B6 a1 a2 a0 aW 35 fun cV=>
 a cV∧
 M f g o.heap.size 1 e cV 120 fun j5 j6 j7 cW=>
 a cW∧
 M j k aW.heap.size 1 i cW 120 fun j8 j9 jA cX=>
 a cX∧
 H7 v p q r s t u cQ cR j6 j7 j9 jA cP j5 j8 cX fun cY jB jC jD=>
 a cY∧
 l jB jC jD cY) ∧
 True) ∧
 (
 B6 a1 a2 a0 aV 35 fun cZ=>
 a cZ∧
 F7 aJ aD aE aF aG aH aI 3 b 6 y z x cZ fun d0 jE jF jG=>
 a d0∧
 M f g o.heap.size 1 e d0 120 fun jH jI jJ d1=>
 a d1∧
 M j k aV.heap.size 1 i d1 120 fun jK jL jM d2=>
 a d2∧
 H7 v p q r s t u jF jG jI jJ jL jM jE jH jK d2 fun d3 jN jO jP=>
 a d3∧
 l jN jO jP d3) ∧
 True) ∧
 (
 B6 a1 a2 a0 o 35 fun aX=>
 a aX∧
 (
 F7 aJ aD aE aF aG aH aI 3 b 6 y z x aX fun bB jQ jR jS=>
 a bB∧
 B6 aL aM aK bB 35 fun d4=>
 a d4∧
 M f g bB.heap.size 1 e d4 120 fun jT jU jV d5=>
 a d5∧
 M j k o.heap.size 1 i d5 120 fun jW jX jY d6=>
 a d6∧
 H7 v p q r s t u jR jS jU jV jX jY jQ jT jW d6 fun d7 jZ k0 k1=>
 a d7∧
 l jZ k0 k1 d7) ∧
 (
 B6 aL aM aK aX 35 fun d8=>
 a d8∧
 F7 aJ aD aE aF aG aH aI 3 b 6 y z x d8 fun d9 k2 k3 k4=>
 a d9∧
 M f g aX.heap.size 1 e d9 120 fun k5 k6 k7 dA=>
 a dA∧
 M j k o.heap.size 1 i dA 120 fun k8 k9 kA dB=>
 a dB∧
 H7 v p q r s t u k3 k4 k6 k7 k9 kA k2 k5 k8 dB fun dC kB kC kD=>
 a dC∧
 l kB kC kD dC) ∧
 True) ∧
 True) ∧
 ∀ (a5:Nat→Value) (dD:OA) (dE:Nat) (dF:Nat),∀ bC:World,l dD dE dF bC→
 D5 w.heap.size bC fun kE kF kG kH kI kJ kK=>
 Calls Tryz.prog 135 #[(.agg #[(.int .i64 kE),(.int .i64 kF),(.int .i64 kG),(.int .i64 kH),(.int .i64 kI),(.int .i64 kJ),(.string kK)]),(.int .i64 6),(.int .i64 b),(.slice dD dE dF),(.int .i64 6)] bC (bc fun kL kM=>∃ (dG:OA) (dH dI:Nat),kL=(.slice dG dH dI)∧
 E9 b1 b2 dH dI b0 dG kM 137 fun dJ dK dL dM=>
 D5 w.heap.size dJ fun kN kO kP kQ kR kS kT=>
 Q6 kT kN kO kP kQ kR kS 7 b dJ fun kU kV kW kX=>
 E9 kW kX dL dM kV dK kU 133 fun kY dN dO dP=>
 C kY fun aN kZ=>
 G3 w.heap.size aN fun l0 l1 l2 l3 l4 l5 l6=>
 G3 w.heap.size aN fun l7 l8 l9 lA lB lC lD=>
 F7 l6 l0 l1 l2 l3 l4 l5 8 b 6 dO dP dN kZ fun dQ lE lF lG=>
 aN dQ∧
 F7 lD l7 l8 l9 lA lB lC 9 b 6 dO dP dN dQ fun dR lH lI lJ=>
 aN dR∧
 E9 lF lG lI lJ lE lH dR 138 fun bD lK lL lM=>
 aN bD∧
 D5 w.heap.size bD fun lN lO lP lQ lR lS lT=>
 F7 lT lN lO lP lQ lR lS 10 b 6 lL lM lK bD fun lU lV lW lX=>
 E9 dL dM lW lX dK lV lU 137 fun lY lZ m0 m1=>
 F3 b fW m0 m1 lZ c6 lY))) (
 D5 w.heap.size a9 fun m2 m3 m4 m5 m6 m7 m8=>
 Q6 m8 m2 m3 m4 m5 m6 m7 11 0 a9 fun m9 mA mB mC=>
 E9 mB mC b1 b2 mA b0 m9 133 fun dS mD mE mF=>
 A5 dS 3 fun mG=>
 D8 dS.heap.size mG 0 fun dT=>
 A7 dT fun a5 dU dV dW bE mH aO=>
 D w.heap.size aO 0 fun mI=>
 B8 bE mI (
 D5 w.heap.size aO fun mJ mK mL mM mN mO mP=>
 S5 mP mJ mK mL mM mN mO 0 bE aO fun mQ mR mS mT=>
 N1 mS mT mE mF mR mD mQ 140 fun mU mV=>
 D2 mV 5 mU 139 fun dX mW=>
 Q mW dX fun mX=>
 B5 bE dV dW dX.heap.size 1 mH dU dT mX 35 1) (
 C9 d.heap.size aO fun mY mZ n0 n1 n2 n3=>
 E2 c.heap.size mZ n0 n2 n3 mY n1 aO fun dY=>
 C9 c.heap.size dY fun n4 n5 n6 n7 n8 n9=>
 R (.tuple #[(.agg #[(.slice n4 n5 n6),(.slice n7 n8 n9)]),(.slice dU dV dW),(.int .i64 0)]) dY)))))))):Ca 96 #[(.agg #[(.int .i64 bF),(.int .i64 bG),(.int .i64 bH),(.int .i64 bI),(.int .i64 bJ),(.int .i64 bK),(.string bL)]),(.slice aP m dZ),(.int .i64 aQ)] w R:=
 cV Tryz.func96 (.lp ([N 7,N 8,I 9]++nn 29 14) (.c (T 0 5 (L 5 (.tk 6 (.fin (.c O O))))) (.at_ 6 2 (.k O) (.c O (.c O (.lp ([S 14,I 15]++nn 74 21) (.c (T 0 11 (L 11 (L 12 (L 13 (.tk 14 (.fin O)))))) (.lp ([S 14,I 17]++nn 18 6++nn 96 108) (.c (T 0 5 (L 5 (L 6 (L 7 (.tk 8 (.last 9 (.fin (T 0 5 (L 5 (L 6 (L 7 (.tk 8 (.last 9 (.fin (.lp ([S 19,S 20,I 21]++nn 128 28) (.c O (.cut 0 ([S 22]++nn 156 22) (T 0 4 (T 5 6 (T 13 6 (.alt 4 (.alt 11 (.alt 12 (L 19 (L 20 (L 21 (.tk 22 (.fin O))))) (L 19 (L 12 (L 20 (L 21 (.tk 22 (.fin O))))))) (L 19 (L 11 (L 12 (L 20 (L 21 (.tk 22 (.fin O)))))))) (.alt 11 (.alt 4 (.alt 12 (L 19 (L 20 (L 21 (.tk 22 (.fin O))))) (L 19 (L 12 (L 20 (L 21 (.tk 22 (.fin O))))))) (L 19 (L 4 (L 12 (L 20 (L 21 (.tk 22 (.fin O)))))))) (L 19 (.alt 4 (L 11 (L 12 (L 20 (L 21 (.tk 22 (.fin O)))))) (L 11 (L 4 (L 12 (L 20 (L 21 (.tk 22 (.fin O)))))))))))))) (T 0 3 (T 4 3 (L 3 (L 7 (L 8 (.tk 9 (.fin O)))))))))))))))))))))))) (.lp ([S 25,I 26,N 27,N 28]++nn 209 20) (.c O O))))))))))) h
end Go.Proofs.YtkbikekbaboclaaGreat.Vc
