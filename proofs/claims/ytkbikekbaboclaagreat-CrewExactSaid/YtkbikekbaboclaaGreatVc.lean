import Derived.Test.YtkbikekbaboclaaGreatH
import Derived.Test.YtkbikekbaboclaaGreatProg
import Derived.KernelRfl
set_option linter.unusedVariables false
set_option maxRecDepth 100000
namespace Go.Proofs.YtkbikekbaboclaaGreat.Vc
open Go Go.Proofs V
theorem fit:Fit Tryz.prog:=⟨by kernel_rfl,by kernel_rfl⟩
abbrev rS:Nat:=6
abbrev uh:Nat:=7
abbrev ol:Nat:=8
abbrev Ey:Nat:=9
abbrev my:Nat:=10
abbrev ng:Nat:=11
abbrev pD:Nat:=12
abbrev pG:Nat:=13
abbrev qL:Nat:=14
abbrev oJ:Nat:=15
abbrev nQ:Nat:=16
abbrev pJ:Nat:=18
abbrev vG:Nat:=19
abbrev wm:Nat:=20
abbrev Jy:Nat:=21
abbrev JY:Nat:=22
abbrev wF:Nat:=23
abbrev vF:Nat:=24
abbrev me:Nat:=25
abbrev th:Nat:=26
abbrev rW:Nat:=27
abbrev pU:Nat:=28
abbrev rr:Nat:=29
abbrev vH:Nat:=30
abbrev rq:Nat:=31
abbrev rG:Nat:=32
abbrev rD:Nat:=33
abbrev DA:Nat:=34
abbrev uI:Nat:=35
abbrev CB:Nat:=36
abbrev HB:Nat:=37
abbrev Bb:Nat:=38
abbrev DG:Nat:=39
abbrev yJ:Nat:=40
abbrev BE:Nat:=41
abbrev DR:Nat:=42
abbrev zF:Nat:=43
abbrev Dl:Nat:=44
abbrev Ay:Nat:=45
abbrev zX:Nat:=46
abbrev vI:Nat:=47
abbrev KU:Nat:=50
abbrev Ep:Nat:=51
abbrev wM:Nat:=53
abbrev wW:Nat:=54
abbrev uA:Nat:=55
abbrev rf:Nat:=56
abbrev qC:Nat:=57
abbrev rX:Nat:=58
abbrev rL:Nat:=59
abbrev er:Nat:=60
abbrev mg:Nat:=61
abbrev uu:Nat:=62
abbrev wv:Nat:=63
abbrev qQ:Nat:=64
abbrev Iz:Nat:=66
abbrev AD:Nat:=67
abbrev Ku:Nat:=68
abbrev Cj:Nat:=69
abbrev Ac:Nat:=70
abbrev sw:Nat:=72
abbrev yW:Nat:=73
abbrev Ao:Nat:=75
abbrev AI:Nat:=76
abbrev xM:Nat:=77
abbrev Bg:Nat:=78
abbrev CN:Nat:=79
abbrev mw:Nat:=80
abbrev BA:Nat:=81
abbrev zK:Nat:=82
abbrev sH:Nat:=83
abbrev CU:Nat:=85
abbrev gd:Nat:=87
abbrev FT:Nat:=89
abbrev Ec:Nat:=90
abbrev td:Nat:=92
abbrev rU:Nat:=93
abbrev tX:Nat:=94
abbrev vU:Nat:=95
abbrev vD:Nat:=96
abbrev vP:Nat:=97
abbrev py:Nat:=98
abbrev Ga:Nat:=100
abbrev BS:Nat:=101
abbrev Ei:Nat:=102
abbrev ld:Nat:=104
abbrev wA:Nat:=105
abbrev Ak:Nat:=106
abbrev pX:Nat:=108
abbrev ju:Nat:=109
abbrev Ag:Nat:=110
abbrev HT:Nat:=112
abbrev Fl:Nat:=113
abbrev AF:Nat:=114
abbrev MA:Nat:=115
abbrev BJ:Nat:=116
abbrev Bs:Nat:=117
abbrev zB:Nat:=118
abbrev xn:Nat:=119
abbrev wk:Nat:=120
abbrev wZ:Nat:=121
abbrev pF:Nat:=124
abbrev Mx:Nat:=125
abbrev Ek:Nat:=126
abbrev HM:Nat:=127
abbrev KN:Nat:=128
abbrev tN:Nat:=129
abbrev vJ:Nat:=130
abbrev wL:Nat:=131
abbrev pV:Nat:=132
abbrev qN:Nat:=133
abbrev uJ:Nat:=134
abbrev oT:Nat:=135
abbrev ic:Nat:=136
abbrev vt:Nat:=137
abbrev oQ:Nat:=138
abbrev tT:Nat:=139
abbrev pO:Nat:=140
abbrev ti:Nat:=141
abbrev tf:Nat:=142
abbrev Bi:Nat:=143
abbrev sB:Nat:=145
abbrev ls:Nat:=146
abbrev qI:Nat:=149
abbrev IY:Nat:=150
abbrev yB:Nat:=151
abbrev Ck:Nat:=152
abbrev JL:Nat:=153
abbrev BK:Nat:=154
abbrev AA:Nat:=155
abbrev Ci:Nat:=156
abbrev wV:Nat:=157
abbrev Dm:Nat:=158
abbrev Jt:Nat:=159
abbrev IP:Nat:=160
abbrev Gu:Nat:=161
abbrev zo:Nat:=162
abbrev Ik:Nat:=163
abbrev vl:Nat:=164
abbrev ud:Nat:=165
abbrev vT:Nat:=166
abbrev pe:Nat:=167
abbrev vQ:Nat:=168
abbrev wh:Nat:=169
abbrev uX:Nat:=170
abbrev wP:Nat:=171
abbrev uZ:Nat:=172
abbrev qi:Nat:=173
abbrev uD:Nat:=174
abbrev xB:Nat:=175
abbrev Bp:Nat:=176
abbrev FF:Nat:=178
abbrev zQ:Nat:=179
abbrev AH:Nat:=180
abbrev MR:Nat:=181
abbrev Iq:Nat:=182
abbrev MU:Nat:=183
abbrev Am:Nat:=184
abbrev Kj:Nat:=185
abbrev IK:Nat:=186
abbrev Mu:Nat:=187
abbrev LB:Nat:=188
abbrev FK:Nat:=189
abbrev vE:Nat:=190
abbrev ve:Nat:=191
abbrev vO:Nat:=192
abbrev vR:Nat:=193
abbrev xi:Nat:=194
abbrev pz:Nat:=195
abbrev FL:Nat:=196
abbrev JH:Nat:=197
abbrev HA:Nat:=198
abbrev IJ:Nat:=199
abbrev Nl:Nat:=200
abbrev yI:Nat:=201
abbrev vM:Nat:=202
abbrev Lr:Nat:=203
abbrev KB:Nat:=204
abbrev qB:Nat:=205
abbrev qu:Nat:=206
abbrev bd:Nat:=3
abbrev QK:Nat:=5
abbrev OY:Nat:=9
abbrev uf:Nat:=22
abbrev ay:Nat:=35
theorem bi:li Tryz.prog 35 3 1 8:=li.of (by kernel_rfl)
abbrev dx:Nat:=37
abbrev ji:Nat:=39
abbrev oY:Nat:=43
theorem zu:li Tryz.prog 43 37 5 72:=li.of (by kernel_rfl)
abbrev lb:Nat:=45
abbrev lc:Nat:=66
theorem ki:li Tryz.prog 66 76 8 128:=li.of (by kernel_rfl)
abbrev lr:Nat:=68
abbrev gl:Nat:=70
theorem tw:li Tryz.prog 70 74 5 72:=li.of (by kernel_rfl)
abbrev ie:Nat:=72
abbrev pP:Nat:=74
abbrev bp:Nat:=76
abbrev dd:Nat:=81
theorem iu:li Tryz.prog 81 126 3 40:=li.of (by kernel_rfl)
abbrev uE:Nat:=83
abbrev NF:Nat:=85
abbrev wK:Nat:=93
theorem qF:li Tryz.prog 93 97 1 8:=li.of (by kernel_rfl)
abbrev Jd:Nat:=95
abbrev oR:Nat:=97
abbrev uH:Nat:=100
abbrev gu:Nat:=114
abbrev bq:Nat:=120
theorem ia:li Tryz.prog 120 35 1 24:=li.of (by kernel_rfl)
abbrev az:Nat:=122
abbrev dy:Nat:=126
abbrev tx:Nat:=133
theorem sM:li Tryz.prog 133 138 3 40:=li.of (by kernel_rfl)
abbrev vi:Nat:=135
abbrev bg:Nat:=136
theorem nj:li Tryz.prog 136 122 2 48:=li.of (by kernel_rfl)
abbrev fw:Nat:=138
abbrev oH:Nat:=142
abbrev fh:Nat:=143
theorem lv:li Tryz.prog 143 151 3 40:=li.of (by kernel_rfl)
abbrev mf:Nat:=145
abbrev ct:Nat:=151
abbrev bj:Nat:=157
abbrev fq:Nat:=160
theorem ja:li Tryz.prog 160 157 2 48:=li.of (by kernel_rfl)
abbrev Ka:Nat:=177
abbrev Bd:Nat:=181
abbrev fg:Nat:=189
abbrev OC:Nat:=211
theorem MF:li Tryz.prog 211 235 1 1:=li.of (by kernel_rfl)
abbrev mz:Nat:=213
abbrev KM:Nat:=235
abbrev Kr:Nat:=239
theorem JX:li Tryz.prog 239 241 4 32:=li.of (by kernel_rfl)
abbrev xE:Nat:=241
end Go.Proofs.YtkbikekbaboclaaGreat.Vc
namespace Go.Proofs.YtkbikekbaboclaaGreat.Vm
open Go Go.Proofs V
abbrev Ca (n:FuncId) (a:Array Value) (w:World) (R:Value→World→Prop):Prop:=Calls Tryz.prog n a w (bc R)
theorem cV {f:FuncId} {fn:Func} (hf:Tryz.prog.funcs[f]?=some fn) (r:RT) {args:Array Value} {w:World} {R:Value→World→Prop} {B:Prop} (h:B) (e:Tg Tryz.prog fn r args.toList w R=B:=by kernel_rfl):Ca f args w R:=Qi Vc.fit hf r (e.mpr h)
def N (n:Nat):Tmp × Option Sk:=(n,none)
def I (n:Nat):Tmp × Option Sk:=(n,some (.int .i64))
def S (n:Nat):Tmp × Option Sk:=(n,some .slice)
abbrev O:RT := .nil
def L (i:Nat) (r:RT):RT := .alt i r .nil
def T:Nat→Nat→RT→RT
 | _,0,r=>r
 | a,n+1,r => .tk a (T (a+1) n r)
abbrev Br (c:Bool) (A B:Prop):Prop:=(c=true→A)∧(c=false→B)
abbrev B:=fun (a:Int)(b:Value→World→Prop)(c:World)=>b (.int .i64 a) c
abbrev C:=fun (a:World)(K:(World→Prop)→World→Prop)=>∃ b:World→Prop,∀ c:World,c=a.drew→b c∧ K b c
abbrev D:=fun (a:Nat)(b:World) c(K:Int→Prop)=>∃ d:Int,b.cell? ⟨a,c,none⟩=some (.int .i64 d)∧ K d
abbrev E:=fun (a:Nat)(b:World) c(K:OA→Nat→Nat→Prop)=>∃ (d:OA) (e f:Nat),b.cell? ⟨a,c,none⟩=some (.slice d e f)∧ K d e f
abbrev F:=fun (a:Value→World→Prop)(b:World)=>a (.bool false) b
abbrev G:=fun (a:Int)(b:Nat)(A B:Prop)=>(decide (a<(b:Int))=true→A)∧(decide (a<(b:Int))=false→B)
abbrev H:=fun (a:Int)(b:Nat)(c:OA)(K:Addr→Prop)=>(0≤a∧a<(b:Int))∧jr c fun d=> K d
abbrev M:=fun (a b c d:Nat)(e:OA)(f:World) g(K:OA→Nat→Nat→World→Prop)=>∃ (h:OA) (i j:Nat),∃ k:World,(Builtin.append_ #[g,g] g #[(.slice e a b),(.slice (some ⟨c,0,none⟩) d d)]).run Tryz.prog f = .ok (.slice h i j) k∧ K h i j k
abbrev P:=fun (a b:Int)(A B:Prop)=>((a==(b:Int))=true→A)∧((a==(b:Int))=false→B)
abbrev Q:=fun (a:Int)(b:World)(K:World→Prop)=>∀ c:World,c=b.alloc (.cells #[(.int .i64 a)] 3 (0,0))→ K c
abbrev U:=fun (a:Bool)(A B:Prop)=>((!a)=true→A)∧((!a)=false→B)
abbrev V:=fun (a:Int)(b:Nat)(c:OA)(d:World) e(K:Int→Prop)=>(0≤a∧a<(b:Int))∧jr c fun f=> ∃ g:Int,d.cell? (f.add (a.toNat*e))=some (.int .i64 g)∧ K g
abbrev W:=fun (a b:Int)(A B:Prop)=>(decide (a<(b:Int))=true→A)∧(decide (a<(b:Int))=false→B)
abbrev X:=fun (a:Int)(b:Int→Nat→World→Prop)(c:Nat)(d:World)=>∃ e:Nat,e<c∧ b (IntKind.i64.wrap (a+1)) e d
abbrev Y:=fun (a:Nat)(b:World→Prop) c(K:OA→Nat→Nat→Prop)=>∃ (d:OA) (e f:Nat),(∀ l0,b l0→l0.cell? ⟨a,c,none⟩=some (.slice d e f))∧ K d e f
abbrev Z:=fun (a:Nat)(K:Nat→Prop)=>∃ b:Nat,b<a∧ K b
abbrev A0:=fun (a b:Nat)(c:OA)(d:Value→World→Prop)(e:World)=>d (.slice c a b) e
abbrev A1:=fun (a:Bool)(b:Value→World→Prop)(c:World)=>b (.bool a) c
abbrev A2:=fun (a:World)(K:(Int→Nat→World→Prop)→(Nat→Value)→Int→Nat→World→Prop)=>∃ b:Int→Nat→World→Prop,(∃ l0:Nat,b 0 l0 a)∧ ∀ (c:Nat→Value) (d:Int),∀ (e:Nat) (f:World),b d e f→ K b c d e f
abbrev A3:=fun (a:OA)(K:Addr→Prop)=>jr a fun b=> K b
abbrev A4:=fun (a:Nat)(b:World) c(K:OA→Prop)=>∃ d:OA,b.cell? ⟨a,c,none⟩=some (.pointer d)∧ K d
abbrev A5:=fun (a:World) b(K:World→Prop)=>∀ c:World,c=a.alloc (.cells #[] b (0,0))→ K c
abbrev A6:=fun (a b:Int)(c:Value→World→Prop)(d:World)=>c (.tuple #[(.int .i64 a),(.int .i64 b)]) d
abbrev A7:=fun (a:OA→Nat→Nat→Int→Nat→World→Prop)(K:(Nat→Value)→OA→Nat→Nat→Int→Nat→World→Prop)=>∀ (b:Nat→Value) (c:OA) (d:Nat) (e:Nat) (f:Int),∀ (g:Nat) (h:World),a c d e f g h→ K b c d e f g h
abbrev A8:=fun (a:Nat)(b:World)(K:Int→Int→Int→Int→Int→Int→Prop)=>∃ c d e f g h:Int,(b.cell? ⟨a,0,none⟩=some (.int .i64 c)∧b.cell? ⟨a,1,none⟩=some (.int .i64 d)∧b.cell? ⟨a,2,none⟩=some (.int .i64 e)∧b.cell? ⟨a,3,none⟩=some (.int .i64 f)∧b.cell? ⟨a,4,none⟩=some (.int .i64 g)∧b.cell? ⟨a,5,none⟩=some (.int .i64 h))∧ K c d e f g h
abbrev A9:=fun (a b c:Nat)(d:OA)(e:World) f(K:World→Prop)=>(dr e ⟨a,f,none⟩)∧∀ g:World,g=(e.setCell ⟨a,f,none⟩ (.slice d b c))→ K g
abbrev B0:=fun (a:Int)(b:World) c(K:World→Int→Prop)=>Calls Tryz.prog c #[(.int .i64 a)] b (bc fun d e=>∃ f:Int,d=(.int .i64 f)∧ K e f)
abbrev B1:=fun (a:Nat)(b:World→Prop) c(K:Int→Prop)=>∃ d:Int,(∀ l0,b l0→l0.cell? ⟨a,c,none⟩=some (.int .i64 d))∧ K d
abbrev B2:=fun (a b:Int)(A B:Prop)=>(decide (a>(b:Int))=true→A)∧(decide (a>(b:Int))=false→B)
abbrev B3:=fun (a:Int)(b:Nat)(c:OA)(d:World→Prop)(K:Int→Prop)=>(0≤a∧a<(b:Int))∧jr c fun e=> ∃ f:Int,(∀ l0,d l0→l0.cell? (e.add (a.toNat*1))=some (.int .i64 f))∧ K f
abbrev B4:=fun (a:Int)(b:Nat)(c:World) d(K:OA→Nat→Addr→Prop)=>∃ (e:OA) (f g:Nat),c.cell? ⟨b,d,none⟩=some (.slice e f g)∧ (0≤a∧a<(f:Int))∧jr e fun h=> K e f h
abbrev B5:=fun (a:Int)(b c d e f:Nat)(g:OA)(h:OA→Nat→Nat→Int→Nat→World→Prop)(i:World) j k=>∃ (l:OA) (m n:Nat),∃ o:World,(Builtin.append_ #[j,j] j #[(.slice g b c),(.slice (some ⟨d,0,none⟩) e e)]).run Tryz.prog i = .ok (.slice l m n) o∧ ∃ p:Nat,p<f∧ h l m n (IntKind.i64.wrap (a+k)) p o
abbrev B6:=fun (a b:Nat)(c:OA)(d:World) e(K:World→Prop)=>∀ f:World,f=d.alloc (.cells #[(.slice c a b)] e (0,0))→ K f
abbrev B7:=fun (a:Nat)(b:World→Prop) c(K:OA→Prop)=>∃ d:OA,(∀ l0,b l0→l0.cell? ⟨a,c,none⟩=some (.pointer d))∧ K d
abbrev B8:=fun (a b:Int)(A B:Prop)=>(decide (a<b)=true→A)∧(decide (a<b)=false→B)
abbrev B9:=fun (a b c:Int)(d:World) e(K:World→Int→Prop)=>Calls Tryz.prog e #[(.int .i64 a),(.int .i64 b),(.int .i64 c)] d (bc fun f g=>∃ h:Int,f=(.int .i64 h)∧ K g h)
abbrev C0:=fun (a:Int→Int→Nat→World→Prop)(K:(Nat→Value)→Int→Int→Nat→World→Prop)=>∀ (b:Nat→Value) (c:Int) (d:Int),∀ (e:Nat) (f:World),a c d e f→ K b c d e f
abbrev C1:=fun (a b c d:Nat)(e f:OA)(g:World) h(K:World→Prop)=>∀ i:World,i=g.alloc (.cells #[(.slice e a b),(.slice f c d)] h (0,0))→ K i
abbrev C2:=fun (a:Nat)(b:World→Prop) c d(K:Int→Int→Prop)=>∃ e:Int,(∀ l0,b l0→l0.cell? ⟨a,c,none⟩=some (.int .i64 e))∧ ∃ f:Int,(∀ l1,b l1→l1.cell? ⟨a,d,none⟩=some (.int .i64 f))∧ K e f
abbrev C3:=fun (a b:Int)(A B:Prop)=>(decide (a≥(b:Int))=true→A)∧(decide (a≥(b:Int))=false→B)
abbrev C4:=fun (a b:Nat)(c:OA)(d:World) e(K:World→OA→Nat→Nat→Prop)=>Calls Tryz.prog e #[(.slice c a b)] d (bc fun f g=>∃ (h:OA) (i j:Nat),f=(.slice h i j)∧ K g h i j)
abbrev C5:=fun (a:Addr)(b:Int)(c:World) d(K:OA→Nat→Nat→Prop)=>∃ (e:OA) (f g:Nat),c.cell? (a.add (b.toNat*d))=some (.slice e f g)∧ K e f g
abbrev C6:=fun (a b c:Int)(d e f g:Nat)(h i:OA)(j:World) k(K:World→Prop)=>∀ l:World,l=j.alloc (.cells #[(.int .i64 a),(.int .i64 b),(.slice h d e),(.int .i64 c),(.slice i f g)] k (0,0))→ K l
abbrev C7:=fun (a:Int)(b:Value→World→Prop)(c:World)=>b (.tuple #[(.int .i64 a),(.int .i64 a),(.bool false)]) c
abbrev C8:=fun (a:Value→World→Prop)(b:World)=>a (.bool true) b
abbrev C9:=fun (a:Nat)(b:World)(K:OA→Nat→Nat→OA→Nat→Nat→Prop)=>∃ (c:OA) (d e:Nat) (f:OA) (g h:Nat),(b.cell? ⟨a,0,none⟩=some (.slice c d e)∧b.cell? ⟨a,1,none⟩=some (.slice f g h))∧ K c d e f g h
abbrev D0:=fun (a:World) b(K:(OA→Nat→Nat→Int→Nat→World→Prop)→Prop)=>∃ c:OA→Nat→Nat→Int→Nat→World→Prop,(∃ l0:Nat,c none 0 0 b l0 a)∧ K c
abbrev D1:=fun (a b c d e f:Int)(g:World) h(K:World→Prop)=>∀ i:World,i=g.alloc (.cells #[(.int .i64 a),(.int .i64 b),(.int .i64 c),(.int .i64 d),(.int .i64 e),(.int .i64 f)] h (0,0))→ K i
abbrev D2:=fun (a b:Int)(c:World) d(K:World→Int→Prop)=>Calls Tryz.prog d #[(.int .i64 a),(.int .i64 b)] c (bc fun e f=>∃ g:Int,e=(.int .i64 g)∧ K f g)
abbrev D3:=fun (a:Nat)(b:Value→World→Prop)(c:World)=>b (.slice none a a) c
abbrev D4:=fun (a:Nat)(b:World)(K:Int→Int→OA→Nat→Nat→Prop)=>∃ (c d:Int) (e:OA) (f g:Nat),(b.cell? ⟨a,0,none⟩=some (.int .i64 c)∧b.cell? ⟨a,1,none⟩=some (.int .i64 d)∧b.cell? ⟨a,2,none⟩=some (.slice e f g))∧ K c d e f g
abbrev D5:=fun (a:Nat)(b:World)(K:Int→Int→Int→Int→Int→Int→ByteArray→Prop)=>∃ (c d e f g h:Int) (i:ByteArray),(b.cell? ⟨a,0,none⟩=some (.int .i64 c)∧b.cell? ⟨a,1,none⟩=some (.int .i64 d)∧b.cell? ⟨a,2,none⟩=some (.int .i64 e)∧b.cell? ⟨a,3,none⟩=some (.int .i64 f)∧b.cell? ⟨a,4,none⟩=some (.int .i64 g)∧b.cell? ⟨a,5,none⟩=some (.int .i64 h)∧b.cell? ⟨a,6,none⟩=some (.string i))∧ K c d e f g h i
abbrev D6:=fun (a:Nat)(b:World) c(K:World→Prop)=>∀ d:World,d=b.alloc (.cells #[(.slice none a a),(.slice none a a)] c (0,0))→ K d
abbrev D7:=fun (a b c d:Nat)(e:OA)(f:World) g(K:OA→Nat→Nat→World→Prop)=>∃ (h:OA) (i j:Nat),∃ k:World,(Builtin.append_ #[g,g] g #[(.slice (some ⟨a,0,none⟩) b b),(.slice e c d)]).run Tryz.prog f = .ok (.slice h i j) k∧ K h i j k
abbrev D8:=fun (a:Nat)(b:World) c(K:(OA→Nat→Nat→Int→Nat→World→Prop)→Prop)=>∃ d:OA→Nat→Nat→Int→Nat→World→Prop,(∃ l0:Nat,d (some ⟨a,0,none⟩) 0 0 c l0 b)∧ K d
abbrev D9:=fun (a b:Int)(K:Prop)=>(a==(b:Int))=true∧ K
abbrev E0:=fun (a b:Nat)(c:OA)(d:World) e(K:World→Int→Prop)=>Calls Tryz.prog e #[(.slice c a b)] d (bc fun f g=>∃ h:Int,f=(.int .i64 h)∧ K g h)
abbrev E1:=fun (a:Addr)(b:Int)(c:World) d(K:Int→Prop)=>∃ e:Int,c.cell? ((a.add (b.toNat*d)).add 1)=some (.int .i64 e)∧ K e
abbrev E2:=fun (a b c d e:Nat)(f g:OA)(h:World)(K:World→Prop)=>(dr h ⟨a,0,none⟩∧dr h ⟨a,1,none⟩)∧∀ i:World,i=((h.setCell ⟨a,0,none⟩ (.slice f b c)).setCell ⟨a,1,none⟩ (.slice g d e))→ K i
abbrev E3:=fun (a b c:Int)(d:World) e(K:World→Bool→Prop)=>Calls Tryz.prog e #[(.int .i64 a),(.int .i64 b),(.int .i64 c)] d (bc fun f g=>∃ h:Bool,f=(.bool h)∧ K g h)
abbrev E4:=fun (a:Int)(b:Nat)(K:Prop)=>(0≤a∧a≤(b:Int))∧ K
abbrev E5:=fun (a:World) b(K:(Int→Int→Nat→World→Prop)→Prop)=>∃ c:Int→Int→Nat→World→Prop,(∃ l0:Nat,c 0 b l0 a)∧ K c
abbrev E6:=fun (a:World→Prop)(K:(Nat→Value)→World→Prop)=>∀ (b:Nat→Value),∀ c:World,a c→ K b c
abbrev E7:=fun (a b:Nat)(A B:Prop)=>(((a:Int) != (b:Int))=true→A)∧(((a:Int) != (b:Int))=false→B)
abbrev E8:=fun (a:ByteArray)(b c d e f g:Int)(h:World) i(K:World→Prop)=>∀ j:World,j=h.alloc (.cells #[(.int .i64 b),(.int .i64 c),(.int .i64 d),(.int .i64 e),(.int .i64 f),(.int .i64 g),(.string a)] i (0,0))→ K j
abbrev E9:=fun (a b c d:Nat)(e f:OA)(g:World) h(K:World→OA→Nat→Nat→Prop)=>Calls Tryz.prog h #[(.slice e a b),(.slice f c d)] g (bc fun i j=>∃ (k:OA) (l m:Nat),i=(.slice k l m)∧ K j k l m)
abbrev F0:=fun (a b:Int)(A B:Prop)=>((a != (b:Int))=true→A)∧((a != (b:Int))=false→B)
abbrev F1:=fun (a:Nat)(A B:Prop)=>(((a:Int)==(0:Int))=true→A)∧(((a:Int)==(0:Int))=false→B)
abbrev F2:=fun (a:Int)(b:Nat)(c:World) d(K:World→Prop)=>∀ e:World,e=c.alloc (.cells #[(.int .i64 a),(.bool false),(.bool false),(.slice none b b),(.slice none b b)] d (0,0))→ K e
abbrev F3:=fun (a:Int)(b c d:Nat)(e:OA)(f:OA→Nat→Nat→Int→Nat→World→Prop)(g:World)=>∃ h:Nat,h<b∧ f e c d (IntKind.i64.wrap (a+1)) h g
abbrev F4:=fun (a:Addr)(b:World) c(K:OA→Nat→Nat→Prop)=>∃ (d:OA) (e f:Nat),b.cell? (a.add c)=some (.slice d e f)∧ K d e f
abbrev F5:=fun (a:Addr)(b:Int)(c:World→Prop) d e(K:Int→Prop)=>∃ f:Int,(∀ l0,c l0→l0.cell? ((a.add (b.toNat*d)).add e)=some (.int .i64 f))∧ K f
abbrev F6:=fun (a:Addr)(b:Int)(c:World) d e(K:OA→Nat→Nat→Prop)=>∃ (f:OA) (g h:Nat),c.cell? ((a.add (b.toNat*d)).add e)=some (.slice f g h)∧ K f g h
abbrev F7:=fun (a:ByteArray)(b c d e f g h i j:Int)(k l:Nat)(m:OA)(n:World)(K:World→OA→Nat→Nat→Prop)=>Calls Tryz.prog 135 #[(.agg #[(.int .i64 b),(.int .i64 c),(.int .i64 d),(.int .i64 e),(.int .i64 f),(.int .i64 g),(.string a)]),(.int .i64 h),(.int .i64 i),(.slice m k l),(.int .i64 j)] n (bc fun o p=>∃ (q:OA) (r s:Nat),o=(.slice q r s)∧ K p q r s)
abbrev F8:=fun (a:OA)(b:World) c(K:World→Int→Prop)=>Calls Tryz.prog c #[(.pointer a)] b (bc fun d e=>∃ f:Int,d=(.int .i64 f)∧ K e f)
abbrev F9:=fun (a:Nat)(b:OA)(K:Addr→Prop)=>(0≤(0:Int)∧(0:Int)<(a:Int))∧jr b fun c=> K c
abbrev G0:=fun (a b c d:Nat)(e f:OA)(g:World) h(K:World→Bool→Prop)=>Calls Tryz.prog h #[(.slice e a b),(.slice f c d)] g (bc fun i j=>∃ k:Bool,i=(.bool k)∧ K j k)
abbrev G1:=fun (a b:Int)(K:Prop)=>(0≤(a:Int)∧(a:Int)<(b:Int))∧ K
abbrev G2:=fun (a b c d e f:Int)(g:World) h(K:World→Bool→Prop)=>Calls Tryz.prog h #[(.agg #[(.int .i64 a),(.int .i64 b),(.int .i64 c),(.int .i64 d),(.int .i64 e),(.int .i64 f)])] g (bc fun i j=>∃ k:Bool,i=(.bool k)∧ K j k)
abbrev G3:=fun (a:Nat)(b:World→Prop)(K:Int→Int→Int→Int→Int→Int→ByteArray→Prop)=>∃ (c d e f g h:Int) (i:ByteArray),((∀ l0,b l0→l0.cell? ⟨a,0,none⟩=some (.int .i64 c))∧(∀ l0,b l0→l0.cell? ⟨a,1,none⟩=some (.int .i64 d))∧(∀ l0,b l0→l0.cell? ⟨a,2,none⟩=some (.int .i64 e))∧(∀ l0,b l0→l0.cell? ⟨a,3,none⟩=some (.int .i64 f))∧(∀ l0,b l0→l0.cell? ⟨a,4,none⟩=some (.int .i64 g))∧(∀ l0,b l0→l0.cell? ⟨a,5,none⟩=some (.int .i64 h))∧(∀ l0,b l0→l0.cell? ⟨a,6,none⟩=some (.string i)))∧ K c d e f g h i
abbrev G4:=fun (a:Addr)(b:Int)(c d:Nat)(e:OA)(f:World) g h(K:World→Prop)=>(dr f ((a.add (b.toNat*g)).add h))∧∀ i:World,i=(f.setCell ((a.add (b.toNat*g)).add h) (.slice e c d))→ K i
abbrev G5:=fun (a:Nat)(b:Int)(A B:Prop)=>(decide ((a:Int)>(b:Int))=true→A)∧(decide ((a:Int)>(b:Int))=false→B)
abbrev G6:=fun (a b:Bool)(c:Int)(d e f g h:Nat)(i j:OA)(k:World)(K:World→Prop)=>(dr k ⟨d,0,none⟩∧dr k ⟨d,1,none⟩∧dr k ⟨d,2,none⟩∧dr k ⟨d,3,none⟩∧dr k ⟨d,4,none⟩)∧∀ l:World,l=(((((k.setCell ⟨d,0,none⟩ (.int .i64 c)).setCell ⟨d,1,none⟩ (.bool a)).setCell ⟨d,2,none⟩ (.bool b)).setCell ⟨d,3,none⟩ (.slice i e f)).setCell ⟨d,4,none⟩ (.slice j g h))→ K l
abbrev G7:=fun (a:Int→World→Prop)(K:(Nat→Value)→Int→World→Prop)=>∀ (b:Nat→Value) (c:Int),∀ d:World,a c d→ K b c d
abbrev G8:=fun (a b:Nat)(c:World)(K:World→Prop)=>(dr c ⟨a,0,none⟩∧dr c ⟨a,1,none⟩)∧∀ d:World,d=((c.setCell ⟨a,0,none⟩ (.slice none b b)).setCell ⟨a,1,none⟩ (.slice none b b))→ K d
abbrev G9:=fun (a:Nat)(b:World→Prop) c d e f g(K:Int→Int→OA→Nat→Nat→Int→OA→Nat→Nat→Prop)=>∃ (h i:Int) (j:OA) (k l:Nat) (m:Int) (n:OA) (o p:Nat),((∀ l0,b l0→l0.cell? ⟨a,c,none⟩=some (.int .i64 h))∧(∀ l0,b l0→l0.cell? ⟨a,d,none⟩=some (.int .i64 i))∧(∀ l0,b l0→l0.cell? ⟨a,e,none⟩=some (.slice j k l))∧(∀ l0,b l0→l0.cell? ⟨a,f,none⟩=some (.int .i64 m))∧(∀ l0,b l0→l0.cell? ⟨a,g,none⟩=some (.slice n o p)))∧ K h i j k l m n o p
abbrev H0:=fun (a b c d:Nat)(e f:OA)(g:World) h(K:OA→Nat→Nat→World→Prop)=>∃ (i:OA) (j k:Nat),∃ l:World,(Builtin.append_ #[h,h] h #[(.slice e a b),(.slice f c d)]).run Tryz.prog g = .ok (.slice i j k) l∧ K i j k l
abbrev H1:=fun (a:Nat)(b:World)(K:Int→Bool→Bool→OA→Nat→Nat→OA→Nat→Nat→Prop)=>∃ (c:Int) (d e:Bool) (f:OA) (g h:Nat) (i:OA) (j k:Nat),(b.cell? ⟨a,0,none⟩=some (.int .i64 c)∧b.cell? ⟨a,1,none⟩=some (.bool d)∧b.cell? ⟨a,2,none⟩=some (.bool e)∧b.cell? ⟨a,3,none⟩=some (.slice f g h)∧b.cell? ⟨a,4,none⟩=some (.slice i j k))∧ K c d e f g h i j k
abbrev H2:=fun (a:Int)(b:Nat)(c:World) d(K:World→Bool→Prop)=>Calls Tryz.prog d #[(.pointer (some ⟨b,0,none⟩)),(.int .i64 a)] c (bc fun e f=>∃ g:Bool,e=(.bool g)∧ K f g)
abbrev H3:=fun (a b:Int)(c d:Nat)(e:OA)(f:World) g(K:World→Prop)=>∀ h:World,h=f.alloc (.cells #[(.int .i64 a),(.slice e c d),(.int .i64 b)] g (0,0))→ K h
abbrev H4:=fun (a:Int)(b:World) c(K:World→Bool→Prop)=>Calls Tryz.prog c #[(.int .i64 a)] b (bc fun d e=>∃ f:Bool,d=(.bool f)∧ K e f)
abbrev H5:=fun (a:Addr)(b:World)(K:OA→Nat→Prop)=>∃ (c:OA) (d e:Nat),b.cell? a=some (.slice c d e)∧ K c d
abbrev H6:=fun (a:Addr)(b:Int)(c:World→Prop)(K:OA→Nat→Nat→Prop)=>∃ (d:OA) (e f:Nat),(∀ l0,c l0→l0.cell? (a.add (b.toNat*1))=some (.slice d e f))∧ K d e f
abbrev H7:=fun (a:ByteArray)(b c d e f g:Int)(h i j k l m:Nat)(n o p:OA)(q:World)(K:World→OA→Nat→Nat→Prop)=>Calls Tryz.prog 136 #[(.agg #[(.int .i64 b),(.int .i64 c),(.int .i64 d),(.int .i64 e),(.int .i64 f),(.int .i64 g),(.string a)]),(.slice n h i),(.slice o j k),(.slice p l m)] q (bc fun r s=>∃ (t:OA) (u v:Nat),r=(.slice t u v)∧ K s t u v)
abbrev H8:=fun (a b:Int)(c d e:Nat)(f:OA)(g:World) h(K:World→OA→Nat→Nat→Prop)=>Calls Tryz.prog h #[(.pointer (some ⟨c,0,none⟩)),(.int .i64 a),(.int .i64 b),(.slice f d e)] g (bc fun i j=>∃ (k:OA) (l m:Nat),i=(.slice k l m)∧ K j k l m)
abbrev H9:=fun (a:Int)(b:World) c(K:World→OA→Prop)=>Calls Tryz.prog c #[(.int .i64 a)] b (bc fun d e=>∃ f:OA,d=(.pointer f)∧ K e f)
abbrev I0:=fun (a:Int)(b c d e f:Nat)(g h:OA)(i:Value→World→Prop)(j:World)=>i (.tuple #[(.agg #[(.slice g b c),(.slice h d e)]),(.slice none f f),(.int .i64 a)]) j
abbrev I1:=fun (a:Int)(b:OA)(c:World) d(K:World→Int→Prop)=>Calls Tryz.prog d #[(.pointer b),(.int .i64 a)] c (bc fun e f=>∃ g:Int,e=(.int .i64 g)∧ K f g)
abbrev I2:=fun (a b c:Nat)(d:OA)(e:World) f g(K:World→Int→Prop)=>Calls Tryz.prog f #[(.slice d a b),(.func (.func g) #[] #[(.pointer (some ⟨c,0,none⟩))])] e (bc fun h i=>∃ j:Int,h=(.int .i64 j)∧ K i j)
abbrev I3:=fun (a b:Int)(A B:Prop)=>(decide (a≥b)=true→A)∧(decide (a≥b)=false→B)
abbrev I4:=fun (a b c d e f g:Int)(h:World) i(K:World→Int→Int→Prop)=>Calls Tryz.prog i #[(.agg #[(.int .i64 a),(.int .i64 b),(.int .i64 c),(.int .i64 d),(.int .i64 e),(.int .i64 f)]),(.int .i64 g)] h (bc fun j k=>∃ l m:Int,j=(.tuple #[(.int .i64 l),(.int .i64 m)])∧ K k l m)
abbrev I5:=fun (a b c d e f:Int)(g:World) h(K:World→Int→Prop)=>Calls Tryz.prog h #[(.agg #[(.int .i64 a),(.int .i64 b),(.int .i64 c),(.int .i64 d),(.int .i64 e),(.int .i64 f)])] g (bc fun i j=>∃ k:Int,i=(.int .i64 k)∧ K j k)
abbrev I6:=fun (a:Int)(b:Nat)(c:World)(K:World→Prop)=>∀ d:World,d=c.alloc (.cells #[(.int .i64 a),(.int .i64 a),(.slice none b b)] 213 (0,0))→ K d
abbrev I7:=fun (a:Int)(b:Nat)(c:World) d(K:World→Int→Prop)=>Calls Tryz.prog d #[(.pointer (some ⟨b,0,none⟩)),(.int .i64 a)] c (bc fun e f=>∃ g:Int,e=(.int .i64 g)∧ K f g)
abbrev I8:=fun (a:Int)(b:Nat)(c:World)(K:World→Prop)=>∀ d:World,d=c.alloc (.cells #[(.int .i64 a),(.int .i64 a),(.slice none b b),(.int .i64 a),(.slice none b b),(.slice none b b),(.slice none b b),(.int .i64 a)] 76 (0,0))→ K d
abbrev I9:=fun (a b c d:Int)(e f g h i j k l m:Nat)(n o p q:OA)(r:World)(K:World→Prop)=>(dr r ⟨e,0,none⟩∧dr r ⟨e,1,none⟩∧dr r ⟨e,2,none⟩∧dr r ⟨e,3,none⟩∧dr r ⟨e,4,none⟩∧dr r ⟨e,5,none⟩∧dr r ⟨e,6,none⟩∧dr r ⟨e,7,none⟩)∧∀ s:World,s=((((((((r.setCell ⟨e,0,none⟩ (.int .i64 a)).setCell ⟨e,1,none⟩ (.int .i64 b)).setCell ⟨e,2,none⟩ (.slice n f g)).setCell ⟨e,3,none⟩ (.int .i64 c)).setCell ⟨e,4,none⟩ (.slice o h i)).setCell ⟨e,5,none⟩ (.slice p j k)).setCell ⟨e,6,none⟩ (.slice q l m)).setCell ⟨e,7,none⟩ (.int .i64 d))→ K s
abbrev J0:=fun (a:Addr)(b:World→Prop) c(K:OA→Nat→Nat→Prop)=>∃ (d:OA) (e f:Nat),(∀ l0,b l0→l0.cell? (a.add c)=some (.slice d e f))∧ K d e f
abbrev J1:=fun (a:Int)(b:Nat)(c:World) d(K:World→Prop)=>∀ e:World,e=c.alloc (.cells #[(.int .i64 a),(.slice none b b),(.int .i64 a)] d (0,0))→ K e
abbrev J2:=fun (a b:Int)(c d e:Nat)(f:OA)(g:World)(K:World→Prop)=>(dr g ⟨c,0,none⟩∧dr g ⟨c,1,none⟩∧dr g ⟨c,2,none⟩)∧∀ h:World,h=(((g.setCell ⟨c,0,none⟩ (.int .i64 a)).setCell ⟨c,1,none⟩ (.slice f d e)).setCell ⟨c,2,none⟩ (.int .i64 b))→ K h
abbrev J3:=fun (a:Addr)(b:World) c(K:Int→Prop)=>∃ d:Int,b.cell? (a.add c)=some (.int .i64 d)∧ K d
abbrev J4:=fun (a:Nat)(b:World)(K:Int→Int→OA→Nat→Nat→Int→OA→Nat→Nat→Prop)=>∃ (c d:Int) (e:OA) (f g:Nat) (h:Int) (i:OA) (j k:Nat),(b.cell? ⟨a,0,none⟩=some (.int .i64 c)∧b.cell? ⟨a,1,none⟩=some (.int .i64 d)∧b.cell? ⟨a,2,none⟩=some (.slice e f g)∧b.cell? ⟨a,3,none⟩=some (.int .i64 h)∧b.cell? ⟨a,4,none⟩=some (.slice i j k))∧ K c d e f g h i j k
abbrev J5:=fun (a:Nat)(b:World) c(K:Bool→Prop)=>∃ d:Bool,b.cell? ⟨a,c,none⟩=some (.bool d)∧ K d
abbrev J6:=fun (a:OA→Nat→Nat→OA→Nat→Nat→Int→Nat→World→Prop)(K:(Nat→Value)→OA→Nat→Nat→OA→Nat→Nat→Int→Nat→World→Prop)=>∀ (b:Nat→Value) (c:OA) (d:Nat) (e:Nat) (f:OA) (g:Nat) (h:Nat) (i:Int),∀ (j:Nat) (k:World),a c d e f g h i j k→ K b c d e f g h i j k
abbrev J7:=fun (a:Nat)(b:World) c(K:World→Prop)=>∀ d:World,d=b.alloc (.cells #[(.pointer (some ⟨a,0,none⟩))] c (0,0))→ K d
abbrev J8:=fun (a:Nat)(b:World→Prop)(K:Int→Int→Int→Int→Int→Int→Prop)=>∃ c d e f g h:Int,((∀ l0,b l0→l0.cell? ⟨a,0,none⟩=some (.int .i64 c))∧(∀ l0,b l0→l0.cell? ⟨a,1,none⟩=some (.int .i64 d))∧(∀ l0,b l0→l0.cell? ⟨a,2,none⟩=some (.int .i64 e))∧(∀ l0,b l0→l0.cell? ⟨a,3,none⟩=some (.int .i64 f))∧(∀ l0,b l0→l0.cell? ⟨a,4,none⟩=some (.int .i64 g))∧(∀ l0,b l0→l0.cell? ⟨a,5,none⟩=some (.int .i64 h)))∧ K c d e f g h
abbrev J9:=fun (a b c d e f g h:Int)(i:World)(K:World→Int→Prop)=>Calls Tryz.prog 143 #[(.agg #[(.int .i64 a),(.int .i64 b),(.int .i64 c),(.int .i64 d),(.int .i64 e),(.int .i64 f)]),(.int .i64 g),(.int .i64 h)] i (bc fun j k=>∃ l:Int,j=(.int .i64 l)∧ K k l)
abbrev K0:=fun (a b:Int)(c d e:Nat)(f:OA)(g:World)(K:World→Prop)=>(dr g ⟨c,0,none⟩∧dr g ⟨c,1,none⟩∧dr g ⟨c,2,none⟩)∧∀ h:World,h=(((g.setCell ⟨c,0,none⟩ (.int .i64 a)).setCell ⟨c,1,none⟩ (.int .i64 b)).setCell ⟨c,2,none⟩ (.slice f d e))→ K h
abbrev K1:=fun (a:Nat)(b:Value→World→Prop)(c:World)=>b (.pointer (some ⟨a,0,none⟩)) c
abbrev K2:=fun (a:Addr)(b:Int)(c:World)(K:OA→Prop)=>∃ d:OA,c.cell? (a.add (b.toNat*1))=some (.pointer d)∧ K d
abbrev K3:=fun (a b:Nat)(c:Value→World→Prop)(d:World)=>c (.slice (some ⟨a,0,none⟩) b b) d
abbrev K4:=fun (a:Addr)(b:Int)(c:World)(K:Int→OA→Nat→Nat→Int→Prop)=>∃ (d:Int) (e:OA) (f g:Nat) (h:Int),(c.cell? (a.add (b.toNat*3))=some (.int .i64 d)∧c.cell? ((a.add (b.toNat*3)).add 1)=some (.slice e f g)∧c.cell? ((a.add (b.toNat*3)).add 2)=some (.int .i64 h))∧ K d e f g h
abbrev K5:=fun (a b:Int)(c:Nat)(K:Prop)=>(0≤a∧a≤(IntKind.i64.wrap (a+b))∧(IntKind.i64.wrap (a+b))≤(c:Int))∧ K
abbrev K6:=fun (a:Int)(b:Nat)(c:Value→World→Prop)(d:World)=>c (.tuple #[(.slice none b b),(.int .i64 a)]) d
abbrev K7:=fun (a:Int)(b c d:Nat)(e:OA)(f:World) g(K:World→Int→Prop)=>Calls Tryz.prog g #[(.pointer (some ⟨b,0,none⟩)),(.int .i64 a),(.slice e c d)] f (bc fun h i=>∃ j:Int,h=(.int .i64 j)∧ K i j)
abbrev K8:=fun (a:Nat)(b:Int)(A B:Prop)=>(decide ((a:Int)≥(b:Int))=true→A)∧(decide ((a:Int)≥(b:Int))=false→B)
abbrev K9:=fun (a:Nat)(b:World) c(K:World→Prop)=>(dr b ⟨a,c,none⟩)∧∀ d:World,d=(b.setCell ⟨a,c,none⟩ (.bool true))→ K d
abbrev L0:=fun (a:Int)(b:World) c(K:(Int→Int→Nat→World→Prop)→Prop)=>∃ d:Int→Int→Nat→World→Prop,(∃ l0:Nat,d a c l0 b)∧ K d
abbrev L1:=fun (a b c:Nat)(d:OA)(e:World) f g(K:World→Bool→Prop)=>Calls Tryz.prog f #[(.slice d a b),(.func (.func g) #[] #[(.pointer (some ⟨c,0,none⟩))])] e (bc fun h i=>∃ j:Bool,h=(.bool j)∧ K i j)
abbrev L2:=fun (a:World)(K:World→Prop)=>∀ b:World,b=a.alloc (.cells #[(.pointer none),(.pointer none)] 25 (0,0))→ K b
abbrev L3:=fun (a:ByteArray)(b:Int)(c:World)(K:World→Prop)=>∀ d:World,d=c.alloc (.cells #[(.int .i64 b),(.int .i64 b),(.int .i64 b),(.int .i64 b),(.int .i64 b),(.int .i64 b),(.string a),(.int .i64 b),(.int .i64 b),(.int .i64 b),(.int .i64 b),(.int .i64 b),(.int .i64 b),(.string a)] 30 (0,0))→ K d
abbrev L4:=fun (a:Int)(b:OA)(c:World)(K:World→Int→Bool→Bool→OA→Nat→Nat→OA→Nat→Nat→Int→Prop)=>Calls Tryz.prog 11 #[(.pointer b),(.int .i64 a)] c (bc fun d e=>∃ (f:Int) (g h:Bool) (i:OA) (j k:Nat) (l:OA) (m n:Nat) (o:Int),d=(.tuple #[(.agg #[(.int .i64 f),(.bool g),(.bool h),(.slice i j k),(.slice l m n)]),(.int .i64 o)])∧ K e f g h i j k l m n o)
abbrev L5:=fun (a:Int)(b c:Nat)(d:OA)(e:World) f(K:World→Int→Prop)=>Calls Tryz.prog f #[(.int .i64 a),(.slice d b c)] e (bc fun g h=>∃ i:Int,g=(.int .i64 i)∧ K h i)
abbrev L6:=fun (a:Int)(b:Value→World→Prop)(c:World)=>b (.tuple #[(.int .i64 a),(.int .i64 a)]) c
abbrev L7:=fun (a b c d e f g:Int)(h:World)(K:World→Int→Prop)=>Calls Tryz.prog 143 #[(.agg #[(.int .i64 a),(.int .i64 b),(.int .i64 c),(.int .i64 d),(.int .i64 e),(.int .i64 f)]),(.int .i64 g),(.int .i64 g)] h (bc fun i j=>∃ k:Int,i=(.int .i64 k)∧ K j k)
abbrev L8:=fun (a b:Int)(c:Value→World→Prop)(d:World)=>c (.tuple #[(.int .i64 a),(.int .i64 b),(.bool true)]) d
abbrev L9:=fun (a:Int)(b c:Nat)(d:World)(K:World→Prop)=>(dr d ⟨b,0,none⟩∧dr d ⟨b,1,none⟩∧dr d ⟨b,2,none⟩)∧∀ e:World,e=(((d.setCell ⟨b,0,none⟩ (.int .i64 a)).setCell ⟨b,1,none⟩ (.int .i64 a)).setCell ⟨b,2,none⟩ (.slice none c c))→ K e
abbrev M0:=fun (a:Int)(b c:Nat)(d:World)(K:World→Prop)=>(dr d ⟨b,0,none⟩∧dr d ⟨b,1,none⟩∧dr d ⟨b,2,none⟩∧dr d ⟨b,3,none⟩∧dr d ⟨b,4,none⟩)∧∀ e:World,e=(((((d.setCell ⟨b,0,none⟩ (.int .i64 a)).setCell ⟨b,1,none⟩ (.bool false)).setCell ⟨b,2,none⟩ (.bool false)).setCell ⟨b,3,none⟩ (.slice none c c)).setCell ⟨b,4,none⟩ (.slice none c c))→ K e
abbrev M1:=fun (a b:Int)(c d:Nat)(e:OA)(f:World) g(K:World→OA→Nat→Nat→Prop)=>Calls Tryz.prog g #[(.slice e c d),(.int .i64 a),(.int .i64 b)] f (bc fun h i=>∃ (j:OA) (k l:Nat),h=(.slice j k l)∧ K i j k l)
abbrev M2:=fun (a:World)(K:World→Int→Int→Int→Int→Int→Int→Prop)=>Calls Tryz.prog 35 #[] a (bc fun b c=>∃ d e f g h i:Int,b=(.agg #[(.int .i64 d),(.int .i64 e),(.int .i64 f),(.int .i64 g),(.int .i64 h),(.int .i64 i)])∧ K c d e f g h i)
abbrev M3:=fun (a b:Nat)(c:World)(K:ByteArray→World→Prop)=>∃ d:ByteArray,∃ e:World,(convert 85 9 (.slice (some ⟨a,0,none⟩) b b)).run Tryz.prog c = .ok (.string d) e∧ K d e
abbrev M4:=fun (a b:Nat)(c:World)(K:(OA→Nat→Nat→OA→Nat→Nat→Int→Nat→World→Prop)→Prop)=>∃ d:OA→Nat→Nat→OA→Nat→Nat→Int→Nat→World→Prop,(∃ l0:Nat,d (some ⟨a,0,none⟩) 0 0 (some ⟨b,0,none⟩) 0 0 0 l0 c)∧ K d
abbrev M5:=fun (a b:Int)(c d:Nat)(e:OA)(f:World) g(K:World→Prop)=>∀ h:World,h=f.alloc (.cells #[(.int .i64 a),(.int .i64 b),(.slice e c d)] g (0,0))→ K h
abbrev M6:=fun (a b:Nat)(c:OA)(d:World) e f(K:World→Int→Prop)=>Calls Tryz.prog e #[(.slice c a b),(.func (.func f) #[] #[])] d (bc fun g h=>∃ i:Int,g=(.int .i64 i)∧ K h i)
abbrev M7:=fun (a:Nat)(b:World→Prop) c d(K:OA→Nat→Nat→OA→Nat→Nat→Prop)=>∃ (e:OA) (f g:Nat) (h:OA) (i j:Nat),((∀ l0,b l0→l0.cell? ⟨a,c,none⟩=some (.slice e f g))∧(∀ l0,b l0→l0.cell? ⟨a,d,none⟩=some (.slice h i j)))∧ K e f g h i j
abbrev M8:=fun (a:Addr)(b:Int)(c:World)(K:OA→Nat→Nat→OA→Nat→Nat→Prop)=>∃ (d:OA) (e f:Nat) (g:OA) (h i:Nat),(c.cell? (a.add (b.toNat*2))=some (.slice d e f)∧c.cell? ((a.add (b.toNat*2)).add 1)=some (.slice g h i))∧ K d e f g h i
abbrev M9:=fun (a:Nat)(b:World)(K:Int→OA→Nat→Nat→Int→Prop)=>∃ (c:Int) (d:OA) (e f:Nat) (g:Int),(b.cell? ⟨a,0,none⟩=some (.int .i64 c)∧b.cell? ⟨a,1,none⟩=some (.slice d e f)∧b.cell? ⟨a,2,none⟩=some (.int .i64 g))∧ K c d e f g
abbrev N0:=fun (a b:Int)(c d:Nat)(e:OA)(f:World) g(K:World→Bool→Prop)=>Calls Tryz.prog g #[(.slice e c d),(.int .i64 a),(.int .i64 b)] f (bc fun h i=>∃ j:Bool,h=(.bool j)∧ K i j)
abbrev N1:=fun (a b c d:Nat)(e f:OA)(g:World) h(K:World→Int→Prop)=>Calls Tryz.prog h #[(.slice e a b),(.slice f c d)] g (bc fun i j=>∃ k:Int,i=(.int .i64 k)∧ K j k)
abbrev N2:=fun (a b c:Int)(d e:Nat)(f:OA)(g:Value→World→Prop)(h:World)=>g (.tuple #[(.agg #[(.int .i64 a),(.int .i64 b),(.slice f d e)]),(.int .i64 c)]) h
abbrev N3:=fun (a:Int)(b:Nat)(c:World) d(K:World→Prop)=>(dr c ⟨b,d,none⟩)∧∀ e:World,e=(c.setCell ⟨b,d,none⟩ (.int .i64 a))→ K e
abbrev N4:=fun (a:Nat)(b c:OA)(d:World)(K:World→Prop)=>(dr d ⟨a,0,none⟩∧dr d ⟨a,1,none⟩)∧∀ e:World,e=((d.setCell ⟨a,0,none⟩ (.pointer b)).setCell ⟨a,1,none⟩ (.pointer c))→ K e
abbrev N5:=fun (a b:ByteArray)(c d e f g h i j k l m n:Int)(o:Nat)(p:World)(K:World→Prop)=>(dr p ⟨o,0,none⟩∧dr p ⟨o,1,none⟩∧dr p ⟨o,2,none⟩∧dr p ⟨o,3,none⟩∧dr p ⟨o,4,none⟩∧dr p ⟨o,5,none⟩∧dr p ⟨o,6,none⟩∧dr p ⟨o,7,none⟩∧dr p ⟨o,8,none⟩∧dr p ⟨o,9,none⟩∧dr p ⟨o,10,none⟩∧dr p ⟨o,11,none⟩∧dr p ⟨o,12,none⟩∧dr p ⟨o,13,none⟩)∧∀ q:World,q=((((((((((((((p.setCell ⟨o,0,none⟩ (.int .i64 c)).setCell ⟨o,1,none⟩ (.int .i64 d)).setCell ⟨o,2,none⟩ (.int .i64 e)).setCell ⟨o,3,none⟩ (.int .i64 f)).setCell ⟨o,4,none⟩ (.int .i64 g)).setCell ⟨o,5,none⟩ (.int .i64 h)).setCell ⟨o,6,none⟩ (.string a)).setCell ⟨o,7,none⟩ (.int .i64 i)).setCell ⟨o,8,none⟩ (.int .i64 j)).setCell ⟨o,9,none⟩ (.int .i64 k)).setCell ⟨o,10,none⟩ (.int .i64 l)).setCell ⟨o,11,none⟩ (.int .i64 m)).setCell ⟨o,12,none⟩ (.int .i64 n)).setCell ⟨o,13,none⟩ (.string b))→ K q
abbrev N6:=fun (a:Int)(b:OA)(c:World) d(K:World→Bool→Prop)=>Calls Tryz.prog d #[(.pointer b),(.int .i64 a)] c (bc fun e f=>∃ g:Bool,e=(.bool g)∧ K f g)
abbrev N7:=fun (a:Int)(b c:Nat)(d e:OA)(f:World)(K:World→OA→Nat→Nat→OA→Nat→Nat→OA→Nat→Nat→Int→Prop)=>Calls Tryz.prog 79 #[(.pointer d),(.slice e b c),(.int .i64 a)] f (bc fun g h=>∃ (i:OA) (j k:Nat) (l:OA) (m n:Nat) (o:OA) (p q:Nat) (r:Int),g=(.tuple #[(.agg #[(.slice i j k),(.slice l m n)]),(.slice o p q),(.int .i64 r)])∧ K h i j k l m n o p q r)
abbrev N8:=fun (a b:Nat)(c:OA)(d:World)(K:(OA→Nat→Nat→Int→Nat→World→Prop)→Prop)=>∃ e:OA→Nat→Nat→Int→Nat→World→Prop,(∃ l0:Nat,e c a b 0 l0 d)∧ K e
abbrev N9:=fun (a b c:Int)(d e f g:Nat)(h i:OA)(j:World) k(K:World→Int→Int→OA→Nat→Nat→Int→OA→Nat→Nat→Prop)=>Calls Tryz.prog k #[(.agg #[(.int .i64 a),(.int .i64 b),(.slice h d e),(.int .i64 c),(.slice i f g)])] j (bc fun l m=>∃ (n o:Int) (p:OA) (q r:Nat) (s:Int) (t:OA) (u v:Nat),l=(.agg #[(.int .i64 n),(.int .i64 o),(.slice p q r),(.int .i64 s),(.slice t u v)])∧ K m n o p q r s t u v)
abbrev O0:=fun (a:Int)(b:World)(K:World→Prop)=>∀ c:World,c=b.alloc (.cells #[(.int .i64 a),(.int .i64 a),(.int .i64 a),(.int .i64 a),(.int .i64 a),(.int .i64 a),(.int .i64 a),(.int .i64 a),(.int .i64 a),(.int .i64 a),(.int .i64 a),(.int .i64 a),(.int .i64 a),(.int .i64 a),(.int .i64 a),(.int .i64 a),(.int .i64 a)] 242 (0,0))→ K c
abbrev O1:=fun (a b c d e f g h i j k l m n o p q:Int)(r:Nat)(s:World)(K:World→Prop)=>(dr s ⟨r,0,none⟩∧dr s ⟨r,1,none⟩∧dr s ⟨r,2,none⟩∧dr s ⟨r,3,none⟩∧dr s ⟨r,4,none⟩∧dr s ⟨r,5,none⟩∧dr s ⟨r,6,none⟩∧dr s ⟨r,7,none⟩∧dr s ⟨r,8,none⟩∧dr s ⟨r,9,none⟩∧dr s ⟨r,10,none⟩∧dr s ⟨r,11,none⟩∧dr s ⟨r,12,none⟩∧dr s ⟨r,13,none⟩∧dr s ⟨r,14,none⟩∧dr s ⟨r,15,none⟩∧dr s ⟨r,16,none⟩)∧∀ t:World,t=(((((((((((((((((s.setCell ⟨r,0,none⟩ (.int .i64 a)).setCell ⟨r,1,none⟩ (.int .i64 b)).setCell ⟨r,2,none⟩ (.int .i64 c)).setCell ⟨r,3,none⟩ (.int .i64 d)).setCell ⟨r,4,none⟩ (.int .i64 e)).setCell ⟨r,5,none⟩ (.int .i64 f)).setCell ⟨r,6,none⟩ (.int .i64 g)).setCell ⟨r,7,none⟩ (.int .i64 h)).setCell ⟨r,8,none⟩ (.int .i64 i)).setCell ⟨r,9,none⟩ (.int .i64 j)).setCell ⟨r,10,none⟩ (.int .i64 k)).setCell ⟨r,11,none⟩ (.int .i64 l)).setCell ⟨r,12,none⟩ (.int .i64 m)).setCell ⟨r,13,none⟩ (.int .i64 n)).setCell ⟨r,14,none⟩ (.int .i64 o)).setCell ⟨r,15,none⟩ (.int .i64 p)).setCell ⟨r,16,none⟩ (.int .i64 q))→ K t
abbrev O2:=fun (a b c:Int)(d e:Nat)(f:OA)(g:World)(K:World→OA→Nat→Nat→Prop)=>Calls Tryz.prog 152 #[(.agg #[(.int .i64 a),(.int .i64 b),(.slice f d e)]),(.int .i64 c)] g (bc fun h i=>∃ (j:OA) (k l:Nat),h=(.slice j k l)∧ K i j k l)
abbrev O3:=fun (a:Int)(b c:Nat)(d e:OA)(f:World) g(K:World→OA→Nat→Nat→Prop)=>Calls Tryz.prog g #[(.pointer d),(.int .i64 a),(.slice e b c)] f (bc fun h i=>∃ (j:OA) (k l:Nat),h=(.slice j k l)∧ K i j k l)
abbrev O4:=fun (a:Addr)(b:Int)(c:World)(K:Int→Int→OA→Nat→Nat→Int→OA→Nat→Nat→OA→Nat→Nat→OA→Nat→Nat→Int→Prop)=>∃ (d e:Int) (f:OA) (g h:Nat) (i:Int) (j:OA) (k l:Nat) (m:OA) (n o:Nat) (p:OA) (q r:Nat) (s:Int),(c.cell? (a.add (b.toNat*8))=some (.int .i64 d)∧c.cell? ((a.add (b.toNat*8)).add 1)=some (.int .i64 e)∧c.cell? ((a.add (b.toNat*8)).add 2)=some (.slice f g h)∧c.cell? ((a.add (b.toNat*8)).add 3)=some (.int .i64 i)∧c.cell? ((a.add (b.toNat*8)).add 4)=some (.slice j k l)∧c.cell? ((a.add (b.toNat*8)).add 5)=some (.slice m n o)∧c.cell? ((a.add (b.toNat*8)).add 6)=some (.slice p q r)∧c.cell? ((a.add (b.toNat*8)).add 7)=some (.int .i64 s))∧ K d e f g h i j k l m n o p q r s
abbrev O5:=fun (a:Int)(b c:Nat)(d e:OA)(f:World)(K:World→Prop)=>Calls Tryz.prog 60 #[(.pointer d),(.slice e b c),(.int .i64 a)] f (bc fun g h=>∃ i:Int,g=(.int .i64 i)∧ K h)
abbrev O6:=fun (a:Addr)(b:Int)(c:World→Prop) d e(K:OA→Nat→Nat→Prop)=>∃ (f:OA) (g h:Nat),(∀ l0,c l0→l0.cell? ((a.add (b.toNat*d)).add e)=some (.slice f g h))∧ K f g h
abbrev O7:=fun (a:Int)(b:Nat)(c:World)(K:World→Int→Int→OA→Nat→Nat→Int→OA→Nat→Nat→OA→Nat→Nat→OA→Nat→Nat→Int→Prop)=>Calls Tryz.prog 27 #[(.pointer (some ⟨b,0,none⟩)),(.int .i64 a)] c (bc fun d e=>∃ (f g:Int) (h:OA) (i j:Nat) (k:Int) (l:OA) (m n:Nat) (o:OA) (p q:Nat) (r:OA) (s t:Nat) (u:Int),d=(.agg #[(.int .i64 f),(.int .i64 g),(.slice h i j),(.int .i64 k),(.slice l m n),(.slice o p q),(.slice r s t),(.int .i64 u)])∧ K e f g h i j k l m n o p q r s t u)
abbrev O8:=fun (a b:Nat)(c:OA)(d:World) e(K:World→Prop)=>∃ f:Value,∃ g:World,(Builtin.clear_ #[e] 0 #[(.slice c a b)]).run Tryz.prog d = .ok f g∧ K g
abbrev O9:=fun (a:Int)(b:Nat)(c:World)(K:World→OA→Prop)=>Calls Tryz.prog 44 #[(.pointer (some ⟨b,0,none⟩)),(.int .i64 a)] c (bc fun d e=>∃ f:OA,d=(.pointer f)∧ K e f)
abbrev P0:=fun (a:Nat)(b:World) c(K:World→OA→Nat→Nat→Prop)=>Calls Tryz.prog c #[(.pointer (some ⟨a,0,none⟩))] b (bc fun d e=>∃ (f:OA) (g h:Nat),d=(.slice f g h)∧ K e f g h)
abbrev P1:=fun (a:Addr)(b:World→Prop) c(K:OA→Prop)=>∃ d:OA,(∀ l0,b l0→l0.cell? (a.add c)=some (.pointer d))∧ K d
abbrev P2:=fun (a:ByteArray)(b c d e f g h:Int)(i j:Nat)(k:OA)(l:World)(K:World→OA→Nat→Nat→OA→Nat→Nat→OA→Nat→Nat→Prop)=>Calls Tryz.prog 96 #[(.agg #[(.int .i64 b),(.int .i64 c),(.int .i64 d),(.int .i64 e),(.int .i64 f),(.int .i64 g),(.string a)]),(.slice k i j),(.int .i64 h)] l (bc fun m n=>∃ (o:OA) (p q:Nat) (r:OA) (s t:Nat) (u:OA) (v x:Nat) (y:Int),m=(.tuple #[(.agg #[(.slice o p q),(.slice r s t)]),(.slice u v x),(.int .i64 y)])∧ K n o p q r s t u v x)
abbrev P3:=fun (a b:Int)(c d:Nat)(e:OA)(f:World) g(K:World→Bool→Prop)=>Calls Tryz.prog g #[(.agg #[(.int .i64 a),(.int .i64 b),(.slice e c d)])] f (bc fun h i=>∃ j:Bool,h=(.bool j)∧ K i j)
abbrev P4:=fun (a b c:Nat)(d:OA)(e:World) f(K:World→Int→Prop)=>Calls Tryz.prog f #[(.pointer (some ⟨a,0,none⟩)),(.slice d b c)] e (bc fun g h=>∃ i:Int,g=(.int .i64 i)∧ K h i)
abbrev P5:=fun (a:Addr)(b c:Int)(d:World)(K:World→Prop)=>(dr d ((a.add (b.toNat*3)).add 1))∧∀ e:World,e=(d.setCell ((a.add (b.toNat*3)).add 1) (.int .i64 c))→ K e
abbrev P6:=fun (a b c d:Nat)(e f:OA)(g:World)(K:World→OA→Nat→Nat→OA→Nat→Nat→Prop)=>Calls Tryz.prog 119 #[(.agg #[(.slice e a b),(.slice f c d)])] g (bc fun h i=>∃ (j:OA) (k l:Nat) (m:OA) (n o:Nat),h=(.agg #[(.slice j k l),(.slice m n o)])∧ K i j k l m n o)
abbrev P7:=fun (a b:Int)(c d e f:Nat)(g:OA)(h:World) i(K:World→Bool→Prop)=>Calls Tryz.prog i #[(.agg #[(.int .i64 a),(.slice g c d),(.int .i64 b)]),(.pointer (some ⟨e,0,none⟩)),(.pointer (some ⟨f,0,none⟩))] h (bc fun j k=>∃ l:Bool,j=(.bool l)∧ K k l)
abbrev P8:=fun (a b:Nat)(c:OA)(d:World) e(K:World→Int→Prop)=>Calls Tryz.prog e #[(.pointer c),(.slice (some ⟨a,0,none⟩) b b)] d (bc fun f g=>∃ h:Int,f=(.int .i64 h)∧ K g h)
abbrev P9:=fun (a:Addr)(b:World→Prop)(K:OA→Prop)=>∃ c:OA,(∀ l0,b l0→l0.cell? a=some (.pointer c))∧ K c
abbrev Q0:=fun (a:Int)(b c:Nat)(d:OA)(e:World)(K:World→Prop)=>Calls Tryz.prog 60 #[(.pointer d),(.slice (some ⟨b,0,none⟩) c c),(.int .i64 a)] e (bc fun f g=>∃ h:Int,f=(.int .i64 h)∧ K g)
abbrev Q1:=fun (a:Int)(b:Nat)(c:World)(K:World→Int→OA→Nat→Nat→Int→Prop)=>Calls Tryz.prog 61 #[(.pointer (some ⟨b,0,none⟩)),(.int .i64 a)] c (bc fun d e=>∃ (f:Int) (g:OA) (h i:Nat) (j:Int),d=(.agg #[(.int .i64 f),(.slice g h i),(.int .i64 j)])∧ K e f g h i j)
abbrev Q2:=fun (a:Addr)(b:World→Prop)(K:OA→Nat→Prop)=>∃ (c:OA) (d e:Nat),(∀ l0,b l0→l0.cell? a=some (.slice c d e))∧ K c d
abbrev Q3:=fun (a:ByteArray)(b c d e f g h i j:Int)(k:World)(K:World→OA→Nat→Nat→Prop)=>Calls Tryz.prog 131 #[(.agg #[(.int .i64 b),(.int .i64 c),(.int .i64 d),(.int .i64 e),(.int .i64 f),(.int .i64 g),(.string a)]),(.int .i64 h),(.int .i64 i),(.int .i64 j)] k (bc fun l m=>∃ (n:OA) (o p:Nat) (q:Bool),l=(.tuple #[(.slice n o p),(.bool q)])∧ K m n o p)
abbrev Q4:=fun (a b c:Int)(d:Nat)(K:Prop)=>(0≤(IntKind.i64.wrap (a*(IntKind.i64.wrap (Int.tdiv b c))))∧(IntKind.i64.wrap (a*(IntKind.i64.wrap (Int.tdiv b c))))≤(IntKind.i64.wrap ((IntKind.i64.wrap (a*(IntKind.i64.wrap (Int.tdiv b c))))+(IntKind.i64.wrap (Int.tdiv b c))))∧(IntKind.i64.wrap ((IntKind.i64.wrap (a*(IntKind.i64.wrap (Int.tdiv b c))))+(IntKind.i64.wrap (Int.tdiv b c))))≤(d:Int))∧ K
abbrev Q5:=fun (a b c:Nat)(d e:OA)(f:World) g(K:World→Int→Prop)=>Calls Tryz.prog g #[(.slice d a b),(.slice e a c)] f (bc fun h i=>∃ j:Int,h=(.int .i64 j)∧ K i j)
abbrev Q6:=fun (a:ByteArray)(b c d e f g h i:Int)(j:World)(K:World→OA→Nat→Nat→Prop)=>Calls Tryz.prog 134 #[(.agg #[(.int .i64 b),(.int .i64 c),(.int .i64 d),(.int .i64 e),(.int .i64 f),(.int .i64 g),(.string a)]),(.int .i64 h),(.int .i64 i)] j (bc fun k l=>∃ (m:OA) (n o:Nat),k=(.slice m n o)∧ K l m n o)
abbrev Q7:=fun (a:Int)(b:World)(K:World→Prop)=>∀ c:World,c=b.alloc (.cells #[(.int .i64 a),(.int .i64 a),(.int .i64 a),(.int .i64 a),(.int .i64 a),(.int .i64 a),(.int .i64 a),(.int .i64 a)] 222 (0,0))→ K c
abbrev Q8:=fun (a b c d e f g h:Int)(i:Nat)(j:World)(K:World→Prop)=>(dr j ⟨i,0,none⟩∧dr j ⟨i,1,none⟩∧dr j ⟨i,2,none⟩∧dr j ⟨i,3,none⟩∧dr j ⟨i,4,none⟩∧dr j ⟨i,5,none⟩∧dr j ⟨i,6,none⟩∧dr j ⟨i,7,none⟩)∧∀ k:World,k=((((((((j.setCell ⟨i,0,none⟩ (.int .i64 a)).setCell ⟨i,1,none⟩ (.int .i64 b)).setCell ⟨i,2,none⟩ (.int .i64 c)).setCell ⟨i,3,none⟩ (.int .i64 d)).setCell ⟨i,4,none⟩ (.int .i64 e)).setCell ⟨i,5,none⟩ (.int .i64 f)).setCell ⟨i,6,none⟩ (.int .i64 g)).setCell ⟨i,7,none⟩ (.int .i64 h))→ K k
abbrev Q9:=fun (a b:Nat)(c:OA)(d:World) e(K:World→Bool→Prop)=>Calls Tryz.prog 52 #[(.slice c a b),(.func (.func e) #[] #[])] d (bc fun f g=>∃ h:Bool,f=(.bool h)∧ K g h)
abbrev R0:=fun (a b:Int)(c:Nat)(d:World)(K:World→OA→Nat→Nat→Prop)=>Calls Tryz.prog 154 #[(.pointer (some ⟨c,0,none⟩)),(.int .i64 a),(.int .i64 b)] d (bc fun e f=>∃ (g:OA) (h i:Nat),e=(.slice g h i)∧ K f g h i)
abbrev R1:=fun (a:ByteArray)(b:World)(K:World→OA→OA→Int→Int→Int→Int→Int→Int→ByteArray→Int→Int→Int→Int→Int→Int→ByteArray→Prop)=>Calls Tryz.prog 8 #[(.string a)] b (bc fun c d=>∃ (e f:OA) (g h i j k l:Int) (m:ByteArray) (n o p q r s:Int) (t:ByteArray),c=(.tuple #[(.agg #[(.pointer e),(.pointer f)]),(.agg #[(.int .i64 g),(.int .i64 h),(.int .i64 i),(.int .i64 j),(.int .i64 k),(.int .i64 l),(.string m),(.int .i64 n),(.int .i64 o),(.int .i64 p),(.int .i64 q),(.int .i64 r),(.int .i64 s),(.string t)])])∧ K d e f g h i j k l m n o p q r s t)
abbrev R2:=fun (a b c:Int)(d e f g h:Nat)(i j:OA)(k:World)(K:World→Prop)=>(dr k ⟨d,0,none⟩∧dr k ⟨d,1,none⟩∧dr k ⟨d,2,none⟩∧dr k ⟨d,3,none⟩∧dr k ⟨d,4,none⟩)∧∀ l:World,l=(((((k.setCell ⟨d,0,none⟩ (.int .i64 a)).setCell ⟨d,1,none⟩ (.int .i64 b)).setCell ⟨d,2,none⟩ (.slice i e f)).setCell ⟨d,3,none⟩ (.int .i64 c)).setCell ⟨d,4,none⟩ (.slice j g h))→ K l
abbrev R3:=fun (a:Int)(b:World) c(K:World→Prop)=>∀ d:World,d=b.alloc (.cells #[(.int .i64 a),(.int .i64 a),(.int .i64 a),(.int .i64 a),(.int .i64 a),(.int .i64 a)] c (0,0))→ K d
abbrev R4:=fun (a b c d e f g h:Int)(i:World) j(K:World→Int→Int→Bool→Prop)=>Calls Tryz.prog j #[(.agg #[(.int .i64 a),(.int .i64 b),(.int .i64 c),(.int .i64 d),(.int .i64 e),(.int .i64 f)]),(.int .i64 g),(.int .i64 h)] i (bc fun k l=>∃ (m n:Int) (o:Bool),k=(.tuple #[(.int .i64 m),(.int .i64 n),(.bool o)])∧ K l m n o)
abbrev R5:=fun (a:Nat)(b:World)(K:Int→Int→OA→Nat→Nat→Int→OA→Nat→Nat→OA→Nat→Nat→OA→Nat→Nat→Int→Prop)=>∃ (c d:Int) (e:OA) (f g:Nat) (h:Int) (i:OA) (j k:Nat) (l:OA) (m n:Nat) (o:OA) (p q:Nat) (r:Int),(b.cell? ⟨a,0,none⟩=some (.int .i64 c)∧b.cell? ⟨a,1,none⟩=some (.int .i64 d)∧b.cell? ⟨a,2,none⟩=some (.slice e f g)∧b.cell? ⟨a,3,none⟩=some (.int .i64 h)∧b.cell? ⟨a,4,none⟩=some (.slice i j k)∧b.cell? ⟨a,5,none⟩=some (.slice l m n)∧b.cell? ⟨a,6,none⟩=some (.slice o p q)∧b.cell? ⟨a,7,none⟩=some (.int .i64 r))∧ K c d e f g h i j k l m n o p q r
abbrev R6:=fun (a:ByteArray)(b c d e f g:Int)(h:World)(K:World→OA→Prop)=>Calls Tryz.prog 34 #[(.agg #[(.int .i64 b),(.int .i64 c),(.int .i64 d),(.int .i64 e),(.int .i64 f),(.int .i64 g)]),(.string a)] h (bc fun i j=>∃ (k:OA) (l:Int),i=(.tuple #[(.pointer k),(.int .i64 l)])∧ K j k)
abbrev R7:=fun (a:Int)(b:Nat)(c:OA)(d:World)(K:World→Prop)=>(dr d ((⟨b,0,none⟩:Addr).add (a.toNat*1)))∧∀ e:World,e=(d.setCell ((⟨b,0,none⟩:Addr).add (a.toNat*1)) (.pointer c))→ K e
abbrev R8:=fun (a:ByteArray)(b c d e f g h:Int)(i:Nat)(j:World)(K:World→Prop)=>(dr j ((⟨i,0,none⟩:Addr).add (b.toNat*7))∧dr j (((⟨i,0,none⟩:Addr).add (b.toNat*7)).add 1)∧dr j (((⟨i,0,none⟩:Addr).add (b.toNat*7)).add 2)∧dr j (((⟨i,0,none⟩:Addr).add (b.toNat*7)).add 3)∧dr j (((⟨i,0,none⟩:Addr).add (b.toNat*7)).add 4)∧dr j (((⟨i,0,none⟩:Addr).add (b.toNat*7)).add 5)∧dr j (((⟨i,0,none⟩:Addr).add (b.toNat*7)).add 6))∧∀ k:World,k=(((((((j.setCell ((⟨i,0,none⟩:Addr).add (b.toNat*7)) (.int .i64 c)).setCell (((⟨i,0,none⟩:Addr).add (b.toNat*7)).add 1) (.int .i64 d)).setCell (((⟨i,0,none⟩:Addr).add (b.toNat*7)).add 2) (.int .i64 e)).setCell (((⟨i,0,none⟩:Addr).add (b.toNat*7)).add 3) (.int .i64 f)).setCell (((⟨i,0,none⟩:Addr).add (b.toNat*7)).add 4) (.int .i64 g)).setCell (((⟨i,0,none⟩:Addr).add (b.toNat*7)).add 5) (.int .i64 h)).setCell (((⟨i,0,none⟩:Addr).add (b.toNat*7)).add 6) (.string a))→ K k
abbrev R9:=fun (a:Addr)(b:Int)(c:World→Prop)(K:Int→Int→OA→Nat→Nat→Int→OA→Nat→Nat→Prop)=>∃ (d e:Int) (f:OA) (g h:Nat) (i:Int) (j:OA) (k l:Nat),((∀ l0,c l0→l0.cell? (a.add (b.toNat*5))=some (.int .i64 d))∧(∀ l0,c l0→l0.cell? ((a.add (b.toNat*5)).add 1)=some (.int .i64 e))∧(∀ l0,c l0→l0.cell? ((a.add (b.toNat*5)).add 2)=some (.slice f g h))∧(∀ l0,c l0→l0.cell? ((a.add (b.toNat*5)).add 3)=some (.int .i64 i))∧(∀ l0,c l0→l0.cell? ((a.add (b.toNat*5)).add 4)=some (.slice j k l)))∧ K d e f g h i j k l
abbrev S0:=fun (a:Int)(K:Prop)=>(0≤(IntKind.i64.wrap (Int.tmod (IntKind.u64.wrap a) 2))∧(IntKind.i64.wrap (Int.tmod (IntKind.u64.wrap a) 2))<(2:Int))∧ K
abbrev S1:=fun (a b:Int)(c:Nat)(d:World) e(K:World→Prop)=>(a=a∧0≤a∧a*(40:Int)≤140737488355328)∧∀ f:World,f=d.alloc (.cells (lu [(.int .i64 b),(.int .i64 b),(.slice none c c)] a.toNat).toArray e (0,0))→ K f
abbrev S2:=fun (a:Addr)(b c d:Int)(e:Nat)(f:World)(K:World→Prop)=>(dr f (a.add (b.toNat*3))∧dr f ((a.add (b.toNat*3)).add 1)∧dr f ((a.add (b.toNat*3)).add 2))∧∀ g:World,g=(((f.setCell (a.add (b.toNat*3)) (.int .i64 c)).setCell ((a.add (b.toNat*3)).add 1) (.int .i64 d)).setCell ((a.add (b.toNat*3)).add 2) (.slice none e e))→ K g
abbrev S3:=fun (a:Addr)(b c:Int)(d:Nat)(e:World)(K:World→Prop)=>(dr e (a.add (b.toNat*3))∧dr e ((a.add (b.toNat*3)).add 1)∧dr e ((a.add (b.toNat*3)).add 2))∧∀ f:World,f=(((e.setCell (a.add (b.toNat*3)) (.int .i64 c)).setCell ((a.add (b.toNat*3)).add 1) (.int .i64 c)).setCell ((a.add (b.toNat*3)).add 2) (.slice none d d))→ K f
abbrev S4:=fun (a:Nat)(b:World→Prop)(K:Int→OA→Nat→Nat→Int→Prop)=>∃ (c:Int) (d:OA) (e f:Nat) (g:Int),((∀ l0,b l0→l0.cell? ⟨a,0,none⟩=some (.int .i64 c))∧(∀ l0,b l0→l0.cell? ⟨a,1,none⟩=some (.slice d e f))∧(∀ l0,b l0→l0.cell? ⟨a,2,none⟩=some (.int .i64 g)))∧ K c d e f g
abbrev S5:=fun (a:ByteArray)(b c d e f g h i:Int)(j:World)(K:World→OA→Nat→Nat→Prop)=>Calls Tryz.prog 131 #[(.agg #[(.int .i64 b),(.int .i64 c),(.int .i64 d),(.int .i64 e),(.int .i64 f),(.int .i64 g),(.string a)]),(.int .i64 h),(.int .i64 h),(.int .i64 i)] j (bc fun k l=>∃ (m:OA) (n o:Nat) (p:Bool),k=(.tuple #[(.slice m n o),(.bool p)])∧ K l m n o)
abbrev S6:=fun (a:Int)(K:Prop)=>(0≤(Int.tmod (if (0:Int)>a then (0:Int) else a) 8)∧(Int.tmod (if (0:Int)>a then (0:Int) else a) 8)<(8:Int))∧ K
abbrev S7:=fun (a:Addr)(b:World)(K:Int→Int→Int→Int→Int→Int→Prop)=>∃ c d e f g h:Int,(b.cell? a=some (.int .i64 c)∧b.cell? (a.add 1)=some (.int .i64 d)∧b.cell? (a.add 2)=some (.int .i64 e)∧b.cell? (a.add 3)=some (.int .i64 f)∧b.cell? (a.add 4)=some (.int .i64 g)∧b.cell? (a.add 5)=some (.int .i64 h))∧ K c d e f g h
abbrev S8:=fun (a:World)(K:(OA→Nat→Nat→OA→Nat→Nat→Int→Nat→World→Prop)→Prop)=>∃ b:OA→Nat→Nat→OA→Nat→Nat→Int→Nat→World→Prop,(∃ l0:Nat,b none 0 0 none 0 0 0 l0 a)∧ K b
abbrev S9:=fun (a:ByteArray)(b:Int)(c:Nat)(d:World)(K:World→Prop)=>(dr d ⟨c,0,none⟩∧dr d ⟨c,1,none⟩∧dr d ⟨c,2,none⟩∧dr d ⟨c,3,none⟩∧dr d ⟨c,4,none⟩∧dr d ⟨c,5,none⟩∧dr d ⟨c,6,none⟩∧dr d ⟨c,7,none⟩∧dr d ⟨c,8,none⟩∧dr d ⟨c,9,none⟩∧dr d ⟨c,10,none⟩∧dr d ⟨c,11,none⟩∧dr d ⟨c,12,none⟩∧dr d ⟨c,13,none⟩)∧∀ e:World,e=((((((((((((((d.setCell ⟨c,0,none⟩ (.int .i64 b)).setCell ⟨c,1,none⟩ (.int .i64 b)).setCell ⟨c,2,none⟩ (.int .i64 b)).setCell ⟨c,3,none⟩ (.int .i64 b)).setCell ⟨c,4,none⟩ (.int .i64 b)).setCell ⟨c,5,none⟩ (.int .i64 b)).setCell ⟨c,6,none⟩ (.string a)).setCell ⟨c,7,none⟩ (.int .i64 b)).setCell ⟨c,8,none⟩ (.int .i64 b)).setCell ⟨c,9,none⟩ (.int .i64 b)).setCell ⟨c,10,none⟩ (.int .i64 b)).setCell ⟨c,11,none⟩ (.int .i64 b)).setCell ⟨c,12,none⟩ (.int .i64 b)).setCell ⟨c,13,none⟩ (.string a))→ K e
end Go.Proofs.YtkbikekbaboclaaGreat.Vm
