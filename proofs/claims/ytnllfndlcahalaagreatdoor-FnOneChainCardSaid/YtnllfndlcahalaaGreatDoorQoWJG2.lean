/- No condition. -/
import Derived.Test.YtnllfndlcahalaaGreatDoorQoWJG1
set_option linter.all false
set_option maxRecDepth 100000
namespace Go.Am.Tryz
open Go.Am Go.Proofs Go.Proofs.Tryz
noncomputable section
variable {U:Type} (F:rz) (J:Ex->St->Option U) (n:Nat)
def Wm:=[(121,l9),(122,yE),(123,ma),(124,yH)]
abbrev MH:List (Ty×Bool):=[(cd,true)]
def ba (r:a1):=bj Wm F ad f64 MH MH 2 (r,())
theorem ak9 (r:a1):ba F r=(nu F0 r.2.2.2.1).bind fun a=>ck (ei F 0 r.2.2.2.2.1.length 32) ((gz F0 r.2.2.2.2.2.1).bind fun b=>(iL F0 r.2.2.2.2.2.2.1).bind fun c=>(tG F0 r.2.2.2.2.2.2.2).bind fun d=>some ((r.1,r.2.1,r.2.2.1,a.1,[]++r.2.2.2.2.1,b.1,c.1,d.1),())):=by kernel_rfl
def bX:Any:=.one ⟨MH,MH,2,fun x=>ba F0 x.1⟩
theorem cl:a6 64 bX:=aq Wm ⟨uB,PU,uF,PV,trivial⟩ func64 ad (by kernel_rfl)
def mb:=[(64,bX)]
def mc:Nat->Option Hint:=look [(3,{live:=[1,2,3,4],x3:=[(2,2,3,.int .i64),(2,3,65,cd),(2,4,105,eh),(2,5,41,cz),(3,3,65,cd),(3,4,105,eh)],xl:=[1,2,3],rl:=[2]}),(7,{live:=[1,2,3,5],xl:=[2,3],rl:=[2]}),(999999,{live:=[1]})]
def rO (w:ko)(i j k l a:Int)(m:List Int)(b:List a1)(c:List bS)(d:List bE)(e:List Int)(f:List a1)(g:List bS)(h:List bE):St:={nt:=63,tm:=[(1,.v (.c (.UU false (hz) w 0))),b0 2,b0 3,(5,a8 i)],bx:=[(2,[ao j,ao k,.own 1000000 none,.own 1000001 none,.own 1000002 none,.own 1000003 none]),(3,[ao l,ao a,.own 1000004 none,.own 1000005 none,.own 1000006 none,.own 1000007 none])],bl:=[ay 1000000 3 (.int .i64) m,ay 1000001 65 cd b,ay 1000002 105 eh c,ay 1000003 41 cz d,ay 1000004 3 (.int .i64) e,ay 1000005 65 cd f,ay 1000006 105 eh g,ay 1000007 41 cz h],rob:=[1]}
def MI (i j k a:Int)(l:List Int)(b:List a1)(c:List bS)(d:List bE)(e:List Int)(f:List a1)(g:List bS)(h:List bE):St:={nt:=63,tm:=[b0 2,b0 3],bx:=[(2,[ao i,ao j,.own 1000000 none,.own 1000001 none,.own 1000002 none,.own 1000003 none]),(3,[ao k,ao a,.own 1000004 none,.own 1000005 none,.own 1000006 none,.own 1000007 none])],bl:=[ay 1000000 3 (.int .i64) l,ay 1000001 65 cd b,ay 1000002 105 eh c,ay 1000003 41 cz d,ay 1000004 3 (.int .i64) e,ay 1000005 65 cd f,ay 1000006 105 eh g,ay 1000007 41 cz h],rob:=[1]}
def yI (a:St):Option U:=e9 mb F mc [.r,.r,.r,.l,.r,.b,.i] f24 J n a
def Cl:=hf mb F mc [.r,.r,.r,.l,.r,.b] f24 ix 2
def rP (w:ko)(i j k l a:Int)(m:List Int)(b:List a1)(c:List bS)(d:List bE)(e:List Int)(f:List a1)(g:List bS)(h:List bE):St:={nt:=63,tm:=[(1,.v (.c (.UU false (hz) w 0))),b0 2,b0 3,(4,a8 i)],bx:=[(2,[ao j,ao k,.own 1000000 none,.own 1000001 none,.own 1000002 none,.own 1000003 none]),(3,[ao l,ao a,.own 1000004 none,.own 1000005 none,.own 1000006 none,.own 1000007 none])],bl:=[ay 1000000 3 (.int .i64) m,ay 1000001 65 cd b,ay 1000002 105 eh c,ay 1000003 41 cz d,ay 1000004 3 (.int .i64) e,ay 1000005 65 cd f,ay 1000006 105 eh g,ay 1000007 41 cz h],rob:=[1]}
def MJ (w:ko)(i j k a:Int)(l:List Int)(b:List a1)(c:List bS)(d:List bE)(e:List Int)(f:List a1)(g:List bS)(h:List bE):St:={nt:=63,tm:=[(1,.v (.c (.UU false (hz) w 0))),b0 2,b0 3],bx:=[(2,[ao i,ao j,.own 1000000 none,.own 1000001 none,.own 1000002 none,.own 1000003 none]),(3,[ao k,ao a,.own 1000004 none,.own 1000005 none,.own 1000006 none,.own 1000007 none])],bl:=[ay 1000000 3 (.int .i64) l,ay 1000001 65 cd b,ay 1000002 105 eh c,ay 1000003 41 cz d,ay 1000004 3 (.int .i64) e,ay 1000005 65 cd f,ay 1000006 105 eh g,ay 1000007 41 cz h],rob:=[1]}
def yJ (a:St):Option U:=e9 mb F mc [.r,.r,.l,.r,.b,.i] f24 J n a
def Cm:=hf mb F mc [.r,.r,.l,.r,.b] f24 ix 2
theorem G5 (w:ko)(i j k l b:Int)(m:List Int)(c:List a1)(d:List bS)(e:List bE)(f:List Int)(g:List a1)(a:List bS)(h:List bE):yI F J (n+1) (rO w i j k l b m c d e f g a h)=br (decide (i<(w.2.2.2.1.length:Int))) (ck (bG i (w.2.2.2.1.length:Int)) (ck (bG i (w.2.2.2.1.length:Int)) (ck (ei F 0 (aK w.2.2.2.1 i (0,[])).2.length 1) (ck (ei F a.length [((aK w.2.2.2.1 i (0,[])).1,[]++(aK w.2.2.2.1 i (0,[])).2)].length 32) (yI F J n (rO w (aj (i+1)) j k l b m c d e f g (a++[((aK w.2.2.2.1 i (0,[])).1,[]++(aK w.2.2.2.1 i (0,[])).2)]) h)))))) (J (.exit 2) (MI j k l b m c d e f g a h)):=by kernel_rfl
theorem G6 (w:ko)(i j k l b:Int)(m:List Int)(c:List a1)(d:List bS)(e:List bE)(f:List Int)(a:List a1)(g:List bS)(h:List bE):yJ F J (n+1) (rP w i j k l b m c d e f a g h)=br (decide (i<(w.2.2.1.length:Int))) (ck (bG i (w.2.2.1.length:Int)) ((ba F0 (aK w.2.2.1 i cd.aD)).bind fun o=>ck (ei F a.length [o.1].length 208) (yJ F J n (rP w (aj (i+1)) j k l b m c d e f (a++[o.1]) g h)))) (J (.exit 0) (MJ w j k l b m c d e f a g h)):=by kernel_rfl
theorem ab4 (j k f a:Int)(l:List Int)(g:List a1)(h:List bS)(i:List bE)(b:List Int)(c:List a1)(d:List bS)(e:List bE):Cl F (.exit 2) (MI j k f a l g h i b c d e)=some (((f,a),b,c,d,e),()):=by kernel_rfl
theorem ab5 (w:ko)(i j k a:Int)(l:List Int)(b:List a1)(c:List bS)(d:List bE)(e:List Int)(f:List a1)(g:List bS)(h:List bE):Cm F (.exit 0) (MJ w i j k a l b c d e f g h)=yI F (Cl F) F.n (rO w 0 i j k a l b c d e f g h):=by kernel_rfl
def yK (w:ko):=bj mb F mc f24 ix ix 2 (w,())
theorem ala (w:ko):yK F w=ck (ei F 0 w.2.1.length 8) (ck (ei F 0 w.2.2.2.2.length 32) (yJ F (Cm F) F.n (rP w 0 0 0 w.1.1 w.1.2 [] [] [] [] ([]++w.2.1) [] [] ([]++w.2.2.2.2)))):=by kernel_rfl
def Cn:Any:=.one ⟨ix,ix,2,fun x=>yK F0 x.1⟩
theorem To:a6 24 Cn:=aq mb ⟨cl,trivial⟩ func24 mc (by kernel_rfl)
abbrev aJO:List (Ty×Bool):=[(.sl 5 (.int .u8),false),(.int .i64,false),(.int .i64,false)]
def MK (b:List Int)(c a:Int):=bj aA F ad f26 aJO cE 1 (b,c,a,())
theorem aok (b:List Int)(c a:Int):MK F b c a=br (decide ((aj (c+(aj (Int.tdiv (b.length:Int) 4))))>a)) (some (a,())) (some (aj (c+(aj (Int.tdiv (b.length:Int) 4))),())):=by kernel_rfl
def Tp:Any:=.one ⟨aJO,cE,1,fun x=>MK F0 x.1 x.2.1 x.2.2.1⟩
theorem aol:a6 26 Tp:=aq aA trivial func26 ad (by kernel_rfl)
def ajy:=[(32,cw)]
def me (c:D1)(a:Int):=bj ajy F ad f125 ajv cE 1 (c,a,())
theorem avW (c:D1)(a:Int):me F c a=(dI F0 c).bind fun b=>br (!b.1) (some (-1,())) (br (decide (a<0)) (some (-1,())) (ck (!(c.1==0)) (some (Int.tmod a c.1,())))):=by kernel_rfl
def iZ:Any:=.one ⟨ajv,cE,1,fun x=>me F0 x.1 x.2.1⟩
theorem nv:a6 125 iZ:=aq ajy ⟨de,trivial⟩ func125 ad (by kernel_rfl)
def uJ:=[(194,jz)]
def uK:Nat->Option Hint:=look [(2,{live:=[0,1,2,6,7],x3:=[(6,2,3,.int .i64)],xl:=[1,2,6],rl:=[6]})]
def kN (a:List D9)(b:Int)(name:ByteArray)(i c:Int)(d:ByteArray)(e:List Int):= cQ 38 [(0,hD 50 (K9) a),(1,a8 b),(2,ZY name),b0 6,(7,a8 i)] [(6,[ao c,.str d,.own 1000000 none])] [ay 1000000 3 (.int .i64) e]
def ML (a:Int)(b:ByteArray)(c:List Int):= cQ 38 [b0 6] [(6,[ao a,.str b,.own 1000000 none])] [ay 1000000 3 (.int .i64) c]
def Ku (a:Int)(name:ByteArray)(b:Int)(c:ByteArray)(d:List Int):= cQ 38 [(1,a8 a),(2,ZY name),b0 6] [(6,[ao b,.str c,.own 1000000 none])] [ay 1000000 3 (.int .i64) d]
def om (a:St):Option U:=e9 uJ F uK [.r,.l,.r,.b,.i] f126 J n a
def pf:=hf uJ F uK [.r,.l,.r,.b] f126 gq 2
theorem Fe (a:List D9)(b:Int)(name:ByteArray)(i c:Int)(d:ByteArray)(e:List Int):om F J (n+1) (kN a b name i c d e)=br (decide (i<(a.length:Int))) (ck (bG i (a.length:Int)) (br ((aK a i K9.aD).1==b) (ck (bG i (a.length:Int)) (br ((aK a i K9.aD).2.1.toList==name.toList) (ck (bG i (a.length:Int)) ((gy F0 (aK a i K9.aD)).bind fun f=>J .ret (ML f.1.1 f.1.2.1 f.1.2.2))) (om F J n (kN a b name (aj (i+1)) c d e)))) (om F J n (kN a b name (aj (i+1)) c d e)))) (J (.exit 0) (Ku b name c d e)):=by kernel_rfl
theorem ab6 (a:Int)(b:ByteArray)(c:List Int):pf F .ret (ML a b c)=some ((a,b,c),()):=by kernel_rfl
theorem Zi (a:Int)(name:ByteArray)(b:Int)(c:ByteArray)(d:List Int):pf F (.exit 0) (Ku a name b c d)=some ((a,name,[]),()):=by kernel_rfl
abbrev aDn:List (Ty×Bool):=[(K13,false),(.int .i64,false),(.str,false)]
def oM (a:D13)(b:Int)(name:ByteArray):=bj uJ F uK f126 aDn gq 2 (a,b,name,())
theorem ag1 (a:D13)(b:Int)(name:ByteArray):oM F a b name=om F (pf F) F.n (kN a b name 0 0 ak []):=by kernel_rfl
def pg:Any:=.one ⟨aDn,gq,2,fun x=>oM F0 x.1 x.2.1 x.2.2.1⟩
theorem Co:a6 126 pg:=aq uJ ⟨oj,trivial⟩ func126 uK (by kernel_rfl)
def rQ:Nat->Option Hint:=look [(3,{live:=[0,1,2],x3:=[(0,0,3,.int .i64),(0,1,3,.int .i64),(1,0,3,.int .i64)],xl:=[0,1],rl:=[0]})]
def fX (i:Int)(d a b c:List Int):= cQ 15 [b0 0,b0 1,(2,a8 i)] [(0,[.own 1000000 none,.own 1000001 none]),(1,[.own 1000002 none,.own 1000003 none])] [ay 1000000 3 (.int .i64) d,ay 1000001 3 (.int .i64) a,ay 1000002 3 (.int .i64) b,ay 1000003 3 (.int .i64) c]
def G7 (d a b c:List Int):= cQ 15 [b0 0,b0 1] [(0,[.own 1000000 none,.own 1000001 none]),(1,[.own 1000002 none,.own 1000003 none])] [ay 1000000 3 (.int .i64) d,ay 1000001 3 (.int .i64) a,ay 1000002 3 (.int .i64) b,ay 1000003 3 (.int .i64) c]
def jA (a:St):Option U:=e9 aA F rQ [.r,.r,.l,.r,.b,.i] f129 J n a
abbrev na:List (Ty×Bool):=[(K43,true)]
def jO:=hf aA F rQ [.r,.r,.l,.r,.b] f129 na 2
theorem BE (i:Int)(d b a c:List Int):jA F J (n+1) (fX i d b a c)=br (decide (i<4)) (ck (ei F a.length [100].length 8) (jA F J n (fX (aj (i+1)) d b (a++[100]) c))) (J (.exit 0) (G7 d b a c)):=by kernel_rfl
theorem Wn (d c a b:List Int):jO F (.exit 0) (G7 d c a b)=some ((a,b),()):=by kernel_rfl
def mf: Option (Args na):=bj aA F rQ f129 [] na 2 (())
theorem aeg: mf F= ck (okM F 4 4 8) (jA F (jO F) F.n (fX 0 [] [] [] (List.replicate (4:Int).toNat 0))):=by kernel_rfl
def v7:Any:=.one ⟨[],na,2,fun x=>mf F0⟩
theorem MM:a6 129 v7:=aq aA trivial func129 rQ (by kernel_rfl)
def Io:=[(150,p0)]
def Ip:Nat->Option Hint:=look [(4,{live:=[3,4,6],xl:=[3],rl:=[2]})]
def yL (i:Int)(b:List D4)(a:List D6):= cQ 27 [(3,.v (.c (.own 1000000 none))),(4,.v (.c (.own 1000001 none))),(6,a8 i)] [] [ay 1000000 52 K4 b,ay 1000001 157 K6 a]
def Tq (a:List D4):= cQ 27 [(3,.v (.c (.own 1000000 none)))] [] [ay 1000000 52 K4 a]
def Iq (a:St):Option U:=e9 Io F Ip [.r,.r,.r,.l,.r,.b,.i] f130 J n a
def Kv:=hf Io F Ip [.r,.r,.r,.l,.r,.b] f130 kd 2
theorem MN (i:Int)(b:List D4)(a:List D6):Iq F J (n+1) (yL i b a)=br (decide (i<(a.length:Int))) (ck (bG i (a.length:Int)) (ck (ei F b.length (aK a i (0,[])).2.length 32) (Iq F J n (yL (aj (i+1)) (b++(aK a i (0,[])).2) a)))) (J (.exit 0) (Tq b)):=by kernel_rfl
theorem ag2 (a:List D4):Kv F (.exit 0) (Tq a)=some (a,()):=by kernel_rfl
def v8 (s:ByteArray):=bj Io F Ip f130 dB kd 2 (s,())
theorem asd (s:ByteArray):v8 F s=(pZ F0 s).bind fun a=>Iq F (Kv F) F.n (yL 0 [] a.1):=by kernel_rfl
def Kw:Any:=.one ⟨dB,kd,2,fun x=>v8 F0 x.1⟩
theorem aao:a6 130 Kw:=aq Io ⟨Dk,trivial⟩ func130 Ip (by kernel_rfl)
def p7 (l:D43):=bj aA F ad f196 na na 2 (l,())
theorem aom (l:D43):p7 F l=ck (ei F 0 l.1.length 8) (ck (ei F 0 l.2.length 8) (some (([]++l.1,[]++l.2),()))):=by kernel_rfl
def uL:Any:=.one ⟨na,na,2,fun x=>p7 F0 x.1⟩
theorem Kx:a6 196 uL:=aq aA trivial func196 ad (by kernel_rfl)
def uM:=[(73,b7)]
def uN:Nat->Option Hint:=look [(4,{live:=[1,3],rl:=[2]})]
def ph (i:Int)(l a:List Int):= cQ 34 [b0 1,(3,a8 i)] [(1,[.ro false 3 (.int .i64) l,.ro false 3 (.int .i64) a])] []
def yM (a:Bool):= bO 34 [(2,H0 a)]
def Ky   := bO 34 []
def uO (a:St):Option U:=e9 uM F uN [.r,.r,.l,.r,.b,.i] f253 J n a
def pj:=hf uM F uN [.r,.r,.l,.r,.b] f253 aO 1
theorem Ff (i:Int)(l a:List Int):uO F J (n+1) (ph i l a)=br (decide (i<4)) (ck (bG i (l.length:Int)) ((bM F0 (aK l i 0) 0 400).bind fun b=>br (!b.1) (J .ret (yM false)) (ck (bG i (a.length:Int)) ((bM F0 (aK a i 0) 0 100).bind fun c=>br (!c.1) (J .ret (yM false)) (uO F J n (ph (aj (i+1)) l a)))))) (J (.exit 0) (Ky)):=by kernel_rfl
theorem Kz (a:Bool):pj F .ret (yM a)=some (a,()):=by kernel_rfl
theorem Zj: pj F (.exit 0) (Ky)=some (true,()):=by kernel_rfl
def tH (l:D43):=bj uM F uN f253 na aO 1 (l,())
theorem ag3 (l:D43):tH F l=br ((l.1.length:Int) != 4) (some (false,())) (br ((l.2.length:Int) != 4) (some (false,())) (uO F (pj F) F.n (ph 0 l.1 l.2))):=by kernel_rfl
def MO:Any:=.one ⟨na,aO,1,fun x=>tH F0 x.1⟩
theorem ag4:a6 253 MO:=aq uM ⟨cA,trivial⟩ func253 uN (by kernel_rfl)
def aon:=[(196,uL),(211,lq),(253,MO)]
abbrev aDo:List (Ty×Bool):=[(K43,true),(K4,true)]
abbrev aDp:List (Ty×Bool):=[(K43,true),(.int .i64,false)]
def KA (l:D43)(x:D4):=bj aon F ad f197 aDo aDp 2 (l,x,())
theorem ayy (l:D43)(x:D4):KA F l x=(p7 F0 l).bind fun a=>(tH F0 l).bind fun b=>br (!b.1) (some (a.1,1,())) ((rI F0 x).bind fun c=>br (!c.1) (some (a.1,1,())) (ck (bG x.1 (l.2.length:Int)) (br (decide (x.2.2.2<(aK l.2 x.1 0))) (some (a.1,2,())) (ck (bG x.1 (l.2.length:Int)) (br (decide (x.2.2.2>(aK l.2 x.1 0))) (some (a.1,3,())) (ck (bG x.1 (a.1.2.length:Int)) (ck (bG x.1 (l.1.length:Int)) (br (decide (x.2.2.1>(aK l.1 x.1 0))) (some ((a.1.1,a.1.2.set x.1.toNat (aj (x.2.2.2+1))),4,())) (ck (bG x.1 (a.1.1.length:Int)) (ck (bG x.1 (a.1.1.length:Int)) (ck (bG x.2.1 ((a.1.1.set x.1.toNat (aj ((aK a.1.1 x.1 0)-x.2.2.1))).length:Int)) (ck (bG x.2.1 ((a.1.1.set x.1.toNat (aj ((aK a.1.1 x.1 0)-x.2.2.1))).length:Int)) ((tH F0 ((a.1.1.set x.1.toNat (aj ((aK a.1.1 x.1 0)-x.2.2.1))).set x.2.1.toNat (aj ((aK (a.1.1.set x.1.toNat (aj ((aK a.1.1 x.1 0)-x.2.2.1))) x.2.1 0)+x.2.2.1)),a.1.2.set x.1.toNat (aj (x.2.2.2+1)))).bind fun d=>br (!d.1) ((p7 F0 l).bind fun e=>some (e.1,1,())) (some (((a.1.1.set x.1.toNat (aj ((aK a.1.1 x.1 0)-x.2.2.1))).set x.2.1.toNat (aj ((aK (a.1.1.set x.1.toNat (aj ((aK a.1.1 x.1 0)-x.2.2.1))) x.2.1 0)+x.2.2.1)),a.1.2.set x.1.toNat (aj (x.2.2.2+1))),0,()))))))))))))))):=by kernel_rfl
def Ir:Any:=.one ⟨aDo,aDp,2,fun x=>KA F0 x.1 x.2.1⟩
theorem Wo:a6 197 Ir:=aq aon ⟨Kx,rJ,ag4,trivial⟩ func197 ad (by kernel_rfl)
def Dx:=[(196,uL),(197,Ir)]
def Dy:Nat->Option Hint:=look [(4,{live:=[1,4,6,7,8],x3:=[(4,0,3,.int .i64),(4,1,3,.int .i64)],xl:=[4,6,7],rl:=[4,5]})]
def uP (e:List D4)(i:Int)(f a b c d:List Int):= cQ 36 [(1,hD 52 (K4) e),b0 4,b0 6,(7,.v (.c (.own 1000000 none))),(8,a8 i)] [(4,[.own 1000001 none,.own 1000002 none]),(6,[.own 1000003 none,.own 1000004 none])] [ay 1000000 3 (.int .i64) f,ay 1000001 3 (.int .i64) a,ay 1000002 3 (.int .i64) b,ay 1000003 3 (.int .i64) c,ay 1000004 3 (.int .i64) d]
def PW (e a b c d:List Int):= cQ 36 [b0 4,b0 6,(7,.v (.c (.own 1000000 none)))] [(4,[.own 1000001 none,.own 1000002 none]),(6,[.own 1000003 none,.own 1000004 none])] [ay 1000000 3 (.int .i64) e,ay 1000001 3 (.int .i64) a,ay 1000002 3 (.int .i64) b,ay 1000003 3 (.int .i64) c,ay 1000004 3 (.int .i64) d]
def Dz (a:St):Option U:=e9 Dx F Dy [.r,.r,.r,.l,.r,.b,.i] f128 J n a
abbrev atM:List (Ty×Bool):=[(K43,true),(.sl 3 (.int .i64),false)]
def Gn:=hf Dx F Dy [.r,.r,.r,.l,.r,.b] f128 atM 2
theorem KB (a:List D4)(i:Int)(c d e f g:List Int):Dz F J (n+1) (uP a i c d e f g)=br (decide (i<(a.length:Int))) (ck (bG i (a.length:Int)) ((KA F0 (f,g) (aK a i K4.aD)).bind fun b=>ck (ei F c.length [b.2.1].length 8) (Dz F J n (uP a (aj (i+1)) (c++[b.2.1]) d e b.1.1 b.1.2)))) (J (.exit 0) (PW c d e f g)):=by kernel_rfl
theorem aeh (c d e a b:List Int):Gn F (.exit 0) (PW c d e a b)=some ((a,b),c,()):=by kernel_rfl
abbrev aDq:List (Ty×Bool):=[(K43,true),(K5,false)]
def wS (l:D43)(a:D5):=bj Dx F Dy f128 aDq atM 2 (l,a,())
theorem aoo (l:D43)(b:D5):wS F l b=(p7 F0 l).bind fun a=>Dz F (Gn F) F.n (uP b 0 [] [] [] a.1.1 a.1.2):=by kernel_rfl
def Gp:Any:=.one ⟨aDq,atM,2,fun x=>wS F0 x.1 x.2.1⟩
theorem Wp:a6 128 Gp:=aq Dx ⟨Kx,Wo,trivial⟩ func128 Dy (by kernel_rfl)
def uQ:=[(196,uL),(197,Ir)]
def uR:Nat->Option Hint:=look [(4,{live:=[0,5,6,7],xl:=[5],rl:=[4]})]
def hI (p:List D4)(i:Int)(c:List D4)(a b:List Int):= cQ 48 [(0,hD 52 (K4) p),(5,.v (.c (.own 1000000 none))),b0 6,(7,a8 i)] [(6,[.own 1000001 none,.own 1000002 none])] [ay 1000000 52 K4 c,ay 1000001 3 (.int .i64) a,ay 1000002 3 (.int .i64) b]
def wa (a:List D4):= cQ 48 [(5,.v (.c (.own 1000000 none)))] [] [ay 1000000 52 K4 a]
def kq (a:St):Option U:=e9 uQ F uR [.r,.r,.r,.l,.r,.b,.i] f132 J n a
def yN:=hf uQ F uR [.r,.r,.r,.l,.r,.b] f132 kd 2
theorem Fg (p:List D4)(i:Int)(a:List D4)(c d:List Int):kq F J (n+1) (hI p i a c d)=br (decide (i<(p.length:Int))) (br (decide ((a.length:Int)<2)) (ck (bG i (p.length:Int)) ((KA F0 (c,d) (aK p i K4.aD)).bind fun b=>br (b.2.1==0) (ck (bG i (p.length:Int)) (ck (ei F a.length [(aK p i K4.aD)].length 32) (kq F J n (hI p (aj (i+1)) (a++[(aK p i K4.aD)]) b.1.1 b.1.2)))) (br (b.2.1==4) (ck (bG i (p.length:Int)) (ck (ei F a.length [(aK p i K4.aD)].length 32) (kq F J n (hI p (aj (i+1)) (a++[(aK p i K4.aD)]) b.1.1 b.1.2)))) (kq F J n (hI p (aj (i+1)) a c d))))) (J (.exit 0) (wa a))) (J (.exit 0) (wa a)):=by kernel_rfl
theorem G8 (a:List D4):yN F (.exit 0) (wa a)=some (a,()):=by kernel_rfl
abbrev ajz:List (Ty×Bool):=[(K5,false),(K43,true)]
def oN (p:D5)(l:D43):=bj uQ F uR f132 ajz kd 2 (p,l,())
theorem ag5 (p:D5)(l:D43):oN F p l=(p7 F0 l).bind fun a=>kq F (yN F) F.n (hI p 0 [] a.1.1 a.1.2):=by kernel_rfl
def MP:Any:=.one ⟨ajz,kd,2,fun x=>oN F0 x.1 x.2.1⟩
theorem ag6:a6 132 MP:=aq uQ ⟨Kx,Wo,trivial⟩ func132 uR (by kernel_rfl)
def yO:=[(211,lq),(295,Gf)]
def yP:Nat->Option Hint:=look [(3,{live:=[0,3,4],xl:=[3],rl:=[2]})]
def mg (a:List D4)(b:ByteArray)(i:Int):= bO 29 [(0,hD 52 (K4) a),(3,ZY b),(4,a8 i)]
def PX (a:ByteArray):= bO 29 [(2,ZY a)]
def MQ (a:ByteArray):= bO 29 [(3,ZY a)]
def p8 (a:St):Option U:=e9 yO F yP [.r,.r,.l,.r,.b,.i] f255 J n a
def rR:=hf yO F yP [.r,.r,.l,.r,.b] f255 dB 1
theorem G9 (a:List D4)(b:ByteArray)(i:Int):p8 F J (n+1) (mg a b i)=br (decide (i<(a.length:Int))) (ck (bG i (a.length:Int)) ((rI F0 (aK a i K4.aD)).bind fun d=>br (!d.1) (J .ret (PX ak)) (br (decide (i>0)) (ck (UW F b.size (ByteArray.mk #[44]).size) (ck (bG i (a.length:Int)) ((wN F0 (aK a i K4.aD)).bind fun c=>ck (UW F (b++(ByteArray.mk #[44])).size c.1.size) (p8 F J n (mg a ((b++(ByteArray.mk #[44]))++c.1) (aj (i+1))))))) (ck (bG i (a.length:Int)) ((wN F0 (aK a i K4.aD)).bind fun c=>ck (UW F b.size c.1.size) (p8 F J n (mg a (b++c.1) (aj (i+1))))))))) (J (.exit 0) (MQ b)):=by kernel_rfl
theorem aei (a:ByteArray):rR F .ret (PX a)=some (a,()):=by kernel_rfl
theorem ab7 (a:ByteArray):rR F (.exit 0) (MQ a)=some (a,()):=by kernel_rfl
def Is (a:D5):=bj yO F yP f255 kd dB 1 (a,())
theorem alb (a:D5):Is F a=p8 F (rR F) F.n (mg a ak 0):=by kernel_rfl
def PY:Any:=.one ⟨kd,dB,1,fun x=>Is F0 x.1⟩
theorem alc:a6 255 PY:=aq yO ⟨rJ,V4,trivial⟩ func255 yP (by kernel_rfl)
def DA:=[(78,eN),(211,lq),(254,ug),(255,PY)]
def DB:Nat->Option Hint:=look [(2,{live:=[0,1,2,7],xl:=[0,1,2],rl:=[6]})]
def uS (a:ByteArray)(b:Int)(c:List D4)(i:Int):= bO 34 [(0,ZY a),(1,a8 b),(2,hD 52 (K4) c),(7,a8 i)]
def Tr (a:ByteArray):= bO 34 [(6,ZY a)]
def PZ (a:ByteArray)(b:Int)(c:List D4):= bO 34 [(0,ZY a),(1,a8 b),(2,hD 52 (K4) c)]
def DC (a:St):Option U:=e9 DA F DB [.r,.l,.r,.b,.i] f198 J n a
def uT:=hf DA F DB [.r,.l,.r,.b] f198 dB 1
theorem KC (b:ByteArray)(c:Int)(a:List D4)(i:Int):DC F J (n+1) (uS b c a i)=br (decide (i<(a.length:Int))) (ck (bG i (a.length:Int)) ((rI F0 (aK a i K4.aD)).bind fun d=>br (!d.1) (J .ret (Tr ak)) (DC F J n (uS b c a (aj (i+1)))))) (J (.exit 0) (PZ b c a)):=by kernel_rfl
theorem ag7 (a:ByteArray):uT F .ret (Tr a)=some (a,()):=by kernel_rfl
theorem aej (a:ByteArray)(d:Int)(e:List D4):uT F (.exit 0) (PZ a d e)=ck (UW F a.size (ByteArray.mk #[47]).size) ((kI F0 d).bind fun b=>ck (UW F (a++(ByteArray.mk #[47])).size b.1.size) (ck (UW F ((a++(ByteArray.mk #[47]))++b.1).size (ByteArray.mk #[124]).size) ((Is F0 e).bind fun c=>ck (UW F (((a++(ByteArray.mk #[47]))++b.1)++(ByteArray.mk #[124])).size c.1.size) ((eY F0 ((((a++(ByteArray.mk #[47]))++b.1)++(ByteArray.mk #[124]))++c.1)).bind fun f=>br (!f.1) (some (ak,())) (some ((((a++(ByteArray.mk #[47]))++b.1)++(ByteArray.mk #[124]))++c.1,())))))):=by kernel_rfl
abbrev aDr:List (Ty×Bool):=[(.str,false),(.int .i64,false),(K5,false)]
def aap (a:ByteArray)(b:Int)(c:D5):=bj DA F DB f198 aDr dB 1 (a,b,c,())
theorem Wq:∃f,f= @aap:=⟨_,rfl⟩
def kO:=Classical.choose Wq
theorem Ts: @kO= @aap:=Classical.choose_spec Wq
theorem aop (a:ByteArray)(b:Int)(c:D5):kO F a b c=DC F (uT F) F.n (uS a b c 0):=by rw[Ts];kernel_rfl
def Gq:Any:=.one ⟨aDr,dB,1,fun x=>kO F0 x.1 x.2.1 x.2.2.1⟩
theorem Wr:a6 198 Gq:=ok1 (show x8 Tryz.prog TB DA from⟨gL,rJ,Kf,alc,trivial⟩) func198 (by kernel_rfl) (by kernel_rfl) DB (by rw[Ts];kernel_rfl)
def Tt:=[(79,df),(136,h9),(198,Gq),(199,l1)]
abbrev ajA:List (Ty×Bool):=[(K15,true),(.bool,false)]
abbrev aDs:List (Ty×Bool):=[(K1,true),(K9,true),(.int .i64,false),(K5,false)]
def oO (c:D1)(q:D9)(a:Int)(b:D5):=bj Tt F ad f131 aDs ajA 2 (c,q,a,b,())
theorem ag8 (c:D1)(q:D9)(b:Int)(e:D5):oO F c q b e=(kO F0 q.2.1 b e).bind fun a=>(iY F0 q).bind fun d=>(nr F0 c (a.1,d.1)).bind fun f=>br (!f.1) (some ((ak,0,ak,[]),false,())) ((du F0 a.1).bind fun g=>br (g.1 != b) (some ((ak,0,ak,[]),false,())) (some ((a.1,d.1),true,()))):=by kernel_rfl
def yQ:Any:=.one ⟨aDs,ajA,2,fun x=>oO F0 x.1 x.2.1 x.2.2.1 x.2.2.2.1⟩
theorem P0:a6 131 yQ:=aq Tt ⟨eH,l8,Wr,ur,trivial⟩ func131 ad (by kernel_rfl)
def aoq:=[(74,cn),(125,iZ),(126,pg),(127,uj),(128,Gp),(129,v7),(130,Kw),(131,yQ),(132,MP)]
def Ws (c:D1)(r:a1):=bj aoq F ad f67 xt ajA 2 (c,r,())
theorem ayz (c:D1)(r:a1):Ws F c r=(dx F0 c r).bind fun g=>br (!g.1) (some ((ak,0,ak,[]),false,())) ((me F0 c r.2.1).bind fun h=>br (h.1 != r.1) (some ((ak,0,ak,[]),false,())) (br (decide (r.2.2.1>=r.2.1)) (some ((ak,0,ak,[]),false,())) ((oM F0 r.2.2.2.2.2.1 r.2.1 ak).bind fun i=>br (r.2.2.2.1.2.2.1.1 != (aj (r.2.1-1))) ((wO F0 c).bind fun j=>br (decide ((i.1.2.2.length:Int)<j.1)) (some ((ak,0,ak,[]),false,())) ((mf F0).bind fun b=>(v8 F0 r.2.2.2.1.2.2.1.2.1).bind fun d=>(wS F0 b.1 d.1).bind fun e=>(oN F0 r.2.2.2.2.1 e.1).bind fun f=>(oO F0 c r.2.2.2.1.2.2.1 r.2.1 f.1).bind fun a=>some (a.1,a.2.1,()))) ((mf F0).bind fun b=>(v8 F0 r.2.2.2.1.2.2.1.2.1).bind fun d=>(wS F0 b.1 d.1).bind fun e=>(oN F0 r.2.2.2.2.1 e.1).bind fun f=>(oO F0 c r.2.2.2.1.2.2.1 r.2.1 f.1).bind fun a=>some (a.1,a.2.1,()))))):=by kernel_rfl
def R1:Any:=.one ⟨xt,ajA,2,fun x=>Ws F0 x.1 x.2.1⟩
theorem ajB:a6 67 R1:=aq aoq ⟨cT,nv,Co,Kh,Wp,MM,aao,P0,ag6,trivial⟩ func67 ad (by kernel_rfl)
def DD:Nat->Option Hint:=look [(2,{live:=[0,1,5],rl:=[4]})]
def uU (s:List Int)(i k:Int):= bO 18 [(0,hD 3 (.int .i64) s),(1,a8 i),(5,a8 k)]
def Tu (a:Bool):= bO 18 [(4,H0 a)]
def P1   := bO 18 []
def DE (a:St):Option U:=e9 aA F DD [.r,.l,.r,.b,.i] f68 J n a
def uV:=hf aA F DD [.r,.l,.r,.b] f68 aO 1
theorem KD (s:List Int)(i k:Int):DE F J (n+1) (uU s i k)=br (decide (k<(s.length:Int))) (ck (bG k (s.length:Int)) (br ((aK s k 0)==i) (J .ret (Tu true)) (DE F J n (uU s i (aj (k+1)))))) (J (.exit 0) (P1)):=by kernel_rfl
theorem ag9 (a:Bool):uV F .ret (Tu a)=some (a,()):=by kernel_rfl
theorem aek: uV F (.exit 0) (P1)=some (false,()):=by kernel_rfl
abbrev Tv:List (Ty×Bool):=[(.sl 3 (.int .i64),false),(.int .i64,false)]
def cW (s:List Int)(i:Int):=bj aA F DD f68 Tv aO 1 (s,i,())
theorem aor (s:List Int)(i:Int):cW F s i=DE F (uV F) F.n (uU s i 0):=by kernel_rfl
def cM:Any:=.one ⟨Tv,aO,1,fun x=>cW F0 x.1 x.2.1⟩
theorem dK:a6 68 cM:=aq aA trivial func68 DD (by kernel_rfl)
def KE:=[(25,ed),(62,np)]
def mh (c:D2):=E6 KE F ad f69 jK 0 .cur Z4 jK 1 (c,())
theorem Zk (c:D2):mh F c=(av F0 c 4).bind fun a=>(av F0 a.2.1 4).bind fun b=>(jL F0 b.2.1 [0,5,60,100,1000]).bind fun d=>(av F0 d.2.1 3).bind fun e=>some (((a.1.1,b.1.1,d.1.1,e.1.1),()),e.2.1,()):=by kernel_rfl
def p9:Any:=.two ⟨jK,0,.cur,Z4,1,jK,fun x=>mh F0 x.1⟩
theorem Ha:a6 69 p9:=VZ KE ⟨fN,yc,trivial⟩ func69 ad (by kernel_rfl)
def bJ (a b:Int):=bj aA F ad f71 atJ cE 1 (a,b,())
theorem ase (a b:Int):bJ F a b=br (decide (a<b)) (some (a,())) (some (b,())):=by kernel_rfl
def jP:Any:=.one ⟨atJ,cE,1,fun x=>bJ F0 x.1 x.2.1⟩
theorem oP:a6 71 jP:=aq aA trivial func71 ad (by kernel_rfl)
def DF:=[(68,cM)]
def DG:Nat->Option Hint:=look [(4,{live:=[0,1,5],xl:=[0,1,5],rl:=[4]})]
def uW (s:List Int)(i a:Int):= bO 41 [(0,hD 3 (.int .i64) s),(1,a8 i),(5,a8 a)]
def rS (s:List Int)(i a:Int):= bO 41 [(0,hD 3 (.int .i64) s),(1,a8 i),(5,a8 a)]
def DH (a:St):Option U:=e9 DF F DG [.r,.r,.r,.l,.b,.i] f201 J n a
def uX:=hf DF F DG [.r,.r,.r,.l,.b] f201 kh 2
theorem KF (s:List Int)(i a:Int):DH F J (n+1) (uW s i a)=br (decide (a<(s.length:Int))) (ck (bG a (s.length:Int)) (br (decide ((aK s a 0)<i)) (DH F J n (uW s i (aj (a+1)))) (J (.exit 0) (rS s i a)))) (J (.exit 0) (rS s i a)):=by kernel_rfl
theorem ael (s:List Int)(i a:Int):uX F (.exit 0) (rS s i a)=ck (S5 0 a (s.length:Int)) (ck (ei F 0 ((s.take a.toNat).drop (0:Int).toNat).length 8) (ck (ei F ([]++((s.take a.toNat).drop (0:Int).toNat)).length [i].length 8) (ck (S5 a (s.length:Int) (s.length:Int)) (ck (ei F (([]++((s.take a.toNat).drop (0:Int).toNat))++[i]).length ((s.take (s.length:Int).toNat).drop a.toNat).length 8) (some ((([]++((s.take a.toNat).drop (0:Int).toNat))++[i])++((s.take (s.length:Int).toNat).drop a.toNat),())))))):=by kernel_rfl
def wT (s:List Int)(i:Int):=bj DF F DG f201 Tv kh 2 (s,i,())
theorem aos (s:List Int)(i:Int):wT F s i=(cW F0 s i).bind fun a=>br a.1 (ck (ei F 0 s.length 8) (some ([]++s,()))) (DH F (uX F) F.n (uW s i 0)):=by kernel_rfl
def Gr:Any:=.one ⟨Tv,kh,2,fun x=>wT F0 x.1 x.2.1⟩
theorem Wt:a6 201 Gr:=aq DF ⟨dK,trivial⟩ func201 DG (by kernel_rfl)
end
end Go.Am.Tryz
namespace Go.Am.Tryz
open Go.Am Go.Proofs Go.Proofs.Tryz
noncomputable section
variable {U:Type} (F:rz) (J:Ex->St->Option U) (n:Nat)
def lL:=[(25,ed),(63,oa),(71,jP),(198,Gq),(200,tF),(201,Gr)]
def lM:Nat->Option Hint:=look [(11,{live:=[3,4,5,6,7,9],x3:=[(4,5,3,.int .i64),(4,8,3,.int .i64),(4,11,3,.int .i64)],xl:=[4,5,6,7],rl:=[4]})]
def cr (r:Int)(name:ByteArray)(i:Int)(a:List Int)(b c w d:Int)(e:List Int)(f:List a1)(g:List bS)(h:List bE)(s t:Int)(u:ByteArray)(v:Int)(x:ByteArray)(y:Int)(z:ByteArray)(A:Int)(B:ByteArray)(C j k l m:Int)(D o p q:List Int):St:={nt:=89,tm:=[b0 3,b0 4,(5,a8 r),(6,ZY name),(7,.v (.c (.own 1000000 none))),(9,a8 i)],bx:=[(4000000,[.ro true 5 (.int .u8) a,ao b,ao c]),(3,[ao w,ao d,.ro false 3 (.int .i64) e,.ro false 65 (cd) f,.ro false 105 (eh) g,.ro false 41 (cz) h]),(4,[ao s,ao t,.str u,ao v,.str x,.own 1000001 none,ao y,.str z,.own 1000002 none,ao A,.str B,.own 1000003 none,ao C,ao j,ao k,ao l,ao m])],bl:=[ay 1000000 3 (.int .i64) D,ay 1000001 3 (.int .i64) o,ay 1000002 3 (.int .i64) p,ay 1000003 3 (.int .i64) q],sp:=.v (.c (.ptr 4000000 0))}
def yR (k:Int)(name:ByteArray)(a:List Int)(b c l m:Int)(o:ByteArray)(p:Int)(q:ByteArray)(r:Int)(s:ByteArray)(t:Int)(u:ByteArray)(v d e f g:Int)(w h i j:List Int):St:={nt:=89,tm:=[b0 4,(5,a8 k),(6,ZY name),(7,.v (.c (.own 1000000 none)))],bx:=[(4000000,[.ro true 5 (.int .u8) a,ao b,ao c]),(4,[ao l,ao m,.str o,ao p,.str q,.own 1000001 none,ao r,.str s,.own 1000002 none,ao t,.str u,.own 1000003 none,ao v,ao d,ao e,ao f,ao g])],bl:=[ay 1000000 3 (.int .i64) w,ay 1000001 3 (.int .i64) h,ay 1000002 3 (.int .i64) i,ay 1000003 3 (.int .i64) j],sp:=.v (.c (.ptr 4000000 0))}
def cK (a:St):Option U:=e9 lL F lM [.r,.r,.r,.r,.r,.l,.r,.b,.i] f133 J n a
def eD:=ayu lL F lM [.r,.r,.r,.r,.r,.l,.r,.b] f133 .cur wR jK 2
theorem tI (b:Int)(name:ByteArray)(i:Int)(c:List Int)(d e w A:Int)(B:List Int)(C:List a1)(D:List bS)(a:List bE)(o p:Int)(q:ByteArray)(r:Int)(s:ByteArray)(t:Int)(u:ByteArray)(v:Int)(x:ByteArray)(y f g h j:Int)(z k l m:List Int):cK F J (n+1) (cr b name i c d e w A B C D a o p q r s t u v x y f g h j z k l m)=br (decide (i<(a.length:Int))) (ck (bG i (a.length:Int)) (br ((aK a i cz.aD).1==b) (ck (bG i (a.length:Int)) (br ((aK a i cz.aD).2.1.toList==name.toList) (ck (bG i (a.length:Int)) ((wT F0 z (aK a i cz.aD).2.2).bind fun E=>cK F J n (cr b name (aj (i+1)) c d e w A B C D a o p q r s t u v x y f g h j E.1 k l m))) (cK F J n (cr b name (aj (i+1)) c d e w A B C D a o p q r s t u v x y f g h j z k l m)))) (cK F J n (cr b name (aj (i+1)) c d e w A B C D a o p q r s t u v x y f g h j z k l m)))) (J (.exit 0) (yR b name c d e o p q r s t u v x y f g h j z k l m)):=by kernel_rfl
theorem P2 (d:Int)(name:ByteArray)(a:List Int)(b c m o:Int)(p:ByteArray)(q:Int)(r:ByteArray)(s:Int)(t:ByteArray)(u:Int)(v:ByteArray)(w f g h i:Int)(e j k l:List Int):eD F (.exit 0) (yR d name a b c m o p q r s t u v w f g h i e j k l)=some (((2,0,(ak,0,ak,[]),(d,name,e),(0,ak,[]),0,0,0,0,0),()),(a,b,c),()):=by kernel_rfl
abbrev atN:List (Ty×Bool):=[(K2,true),(hz,true)]
def pn (c:D2)(w:ko):=E6 lL F lM f133 atN 0 .cur wR jK 2 (c,w,())
theorem Wu (c:D2)(w:ko):pn F c w=(av F0 c 4).bind fun d=>(kO F0 ak (aj (1+d.1.1)) []).bind fun e=>ck (ei F 0 w.2.1.length 8) (br (decide ((w.2.2.2.2.length:Int)>0)) ((bJ F0 (w.2.2.2.2.length:Int) 8).bind fun f=>(av F0 d.2.1 f.1).bind fun a=>ck (bG (aj ((aj ((w.2.2.2.2.length:Int)-1))-a.1.1)) (w.2.2.2.2.length:Int)) ((mX F0 a.2.1 3).bind fun b=>br b.1.1 ((l0 F0 (aK w.2.2.2.2 (aj ((aj ((w.2.2.2.2.length:Int)-1))-a.1.1)) cz.aD).2.1).bind fun g=>(kO F0 g.1 (aK w.2.2.2.2 (aj ((aj ((w.2.2.2.2.length:Int)-1))-a.1.1)) cz.aD).1 [(1,0,1,0)]).bind fun h=>cK F (eD F) F.n (cr (aK w.2.2.2.2 (aj ((aj ((w.2.2.2.2.length:Int)-1))-a.1.1)) cz.aD).1 h.1 0 b.2.1.1 b.2.1.2.1 b.2.1.2.2 w.1.1 w.1.2 w.2.1 w.2.2.1 w.2.2.2.1 w.2.2.2.2 0 0 ak 0 ak 0 ak 0 ak 0 0 0 0 0 ([]++w.2.1) [] [] [])) (cK F (eD F) F.n (cr (aK w.2.2.2.2 (aj ((aj ((w.2.2.2.2.length:Int)-1))-a.1.1)) cz.aD).1 (aK w.2.2.2.2 (aj ((aj ((w.2.2.2.2.length:Int)-1))-a.1.1)) cz.aD).2.1 0 b.2.1.1 b.2.1.2.1 b.2.1.2.2 w.1.1 w.1.2 w.2.1 w.2.2.1 w.2.2.2.1 w.2.2.2.2 0 0 ak 0 ak 0 ak 0 ak 0 0 0 0 0 ([]++w.2.1) [] [] [])))) (cK F (eD F) F.n (cr (aj (1+d.1.1)) e.1 0 d.2.1.1 d.2.1.2.1 d.2.1.2.2 w.1.1 w.1.2 w.2.1 w.2.2.1 w.2.2.2.1 w.2.2.2.2 0 0 ak 0 ak 0 ak 0 ak 0 0 0 0 0 ([]++w.2.1) [] [] []))):=by kernel_rfl
def BF:Any:=.two ⟨atN,0,.cur,wR,2,jK,fun x=>pn F0 x.1 x.2.1⟩
theorem Wv:a6 133 BF:=VZ lL ⟨fN,yd,oP,Wr,Ii,Wt,trivial⟩ func133 lM (by kernel_rfl)
def It: Option (Args gq):=bj aA F ad f135 [] gq 2 (())
theorem ald: It F= some ((0,ak,[]),()):=by kernel_rfl
def P3:Any:=.one ⟨[],gq,2,fun x=>It F0⟩
theorem ale:a6 135 P3:=aq aA trivial func135 ad (by kernel_rfl)
def po:=[(25,ed),(63,oa),(69,p9),(71,jP),(125,iZ),(131,yQ),(133,BF),(134,gw),(135,P3),(136,h9)]
def pq:Nat->Option Hint:=look [(17,{live:=[0,3,4,6,7,8,9],x3:=[(4,5,3,.int .i64),(4,8,3,.int .i64),(4,11,3,.int .i64)],xl:=[0,3,4,6,8],rl:=[4]})]
def bn (cv t k:Int)(a:List Int)(b c w d:Int)(e:List Int)(f:List a1)(g:List bS)(h:List bE)(u v:Int)(x:ByteArray)(y:Int)(z:ByteArray)(A:Int)(B:ByteArray)(C:Int)(D:ByteArray)(E i j l m q:Int)(o:ByteArray)(G p r s:List Int):St:={nt:=115,tm:=[(0,.v (.c (.ptr 4000000 0))),b0 3,b0 4,b0 6,(7,a8 cv),(8,a8 t),(9,a8 k)],bx:=[(4000000,[.ro true 5 (.int .u8) a,ao b,ao c]),(3,[ao w,ao d,.ro false 3 (.int .i64) e,.ro false 65 (cd) f,.ro false 105 (eh) g,.ro false 41 (cz) h]),(4,[ao u,ao v,.str x,ao y,.str z,.own 1000000 none,ao A,.str B,.own 1000001 none,ao C,.str D,.own 1000002 none,ao E,ao i,ao j,ao l,ao m]),(6,[ao q,.str o,.own 1000003 none])],bl:=[ay 1000000 3 (.int .i64) G,ay 1000001 3 (.int .i64) p,ay 1000002 3 (.int .i64) r,ay 1000003 3 (.int .i64) s],sp:=.v (.c (.ptr 4000000 0))}
def gP (s:Int)(a:List Int)(b c w d:Int)(e:List Int)(f:List a1)(g:List bS)(h:List bE)(t u:Int)(v:ByteArray)(x:Int)(y:ByteArray)(z:Int)(A:ByteArray)(B:Int)(C:ByteArray)(D i j k l q:Int)(m:ByteArray)(E o p r:List Int):St:={nt:=115,tm:=[(0,.v (.c (.ptr 4000000 0))),b0 3,b0 4,b0 6,(8,a8 s)],bx:=[(4000000,[.ro true 5 (.int .u8) a,ao b,ao c]),(3,[ao w,ao d,.ro false 3 (.int .i64) e,.ro false 65 (cd) f,.ro false 105 (eh) g,.ro false 41 (cz) h]),(4,[ao t,ao u,.str v,ao x,.str y,.own 1000000 none,ao z,.str A,.own 1000001 none,ao B,.str C,.own 1000002 none,ao D,ao i,ao j,ao k,ao l]),(6,[ao q,.str m,.own 1000003 none])],bl:=[ay 1000000 3 (.int .i64) E,ay 1000001 3 (.int .i64) o,ay 1000002 3 (.int .i64) p,ay 1000003 3 (.int .i64) r],sp:=.v (.c (.ptr 4000000 0))}
def bK (a:St):Option U:=e9 po F pq [.r,.r,.r,.r,.r,.r,.r,.r,.l,.r,.b,.i] f70 J n a
def bo:=ayu po F pq [.r,.r,.r,.r,.r,.r,.r,.r,.l,.r,.b] f70 .cur wR jK 2
theorem yS (cv a k:Int)(c:List Int)(d e w b:Int)(f:List Int)(g:List a1)(h:List bS)(i:List bE)(u v:Int)(x:ByteArray)(y:Int)(z:ByteArray)(A:Int)(B:ByteArray)(C:Int)(D:ByteArray)(E j l m o q:Int)(p:ByteArray)(G r s t:List Int):bK F J (n+1) (bn cv a k c d e w b f g h i u v x y z A B C D E j l m o q p G r s t)=br (decide (k<7)) (br (decide (a<60)) ((me F0 (w,b) a).bind fun H=>br (H.1 != cv) (bK F J n (bn cv (aj (a+1)) (aj (k+1)) c d e w b f g h i u v x y z A B C D E j l m o q p G r s t)) (J (.exit 1) (gP a c d e w b f g h i u v x y z A B C D E j l m o q p G r s t))) (J (.exit 1) (gP a c d e w b f g h i u v x y z A B C D E j l m o q p G r s t))) (J (.exit 1) (gP a c d e w b f g h i u v x y z A B C D E j l m o q p G r s t)):=by kernel_rfl
theorem U2 (h:Int)(a:List Int)(b c w d:Int)(i:List Int)(j:List a1)(k:List bS)(l:List bE)(v x:Int)(y:ByteArray)(z:Int)(A:ByteArray)(B:Int)(C:ByteArray)(D:Int)(E:ByteArray)(G m o p r q:Int)(e:ByteArray)(H s t f:List Int):bo F (.exit 1) (gP h a b c w d i j k l v x y z A B C D E G m o p r q e H s t f)=(mh F0 (a,b,c)).bind fun g=>(oO F0 (w,d) (q,e,f) h [g.1.1]).bind fun u=>some (((1,0,u.1,(0,ak,[]),(0,ak,[]),0,0,0,0,0),()),g.2.1,()):=by kernel_rfl
def ia (c:D2)(w:ko):=E6 po F pq f70 atN 0 .cur wR jK 2 (c,w,())
theorem ab8 (c:D2)(w:ko):ia F c w=(pn F0 c w).bind fun b=>(kp F0 w.1 b.1.1.2.2.2.1).bind fun k=>br (!k.1) ((It F0).bind fun d=>br (decide ((w.2.2.1.length:Int)>0)) ((mX F0 b.2.1 2).bind fun i=>br i.1.1 ((av F0 i.2.1 (w.2.2.1.length:Int)).bind fun j=>ck (bG j.1.1 (w.2.2.1.length:Int)) ((iY F0 (aK w.2.2.1 j.1.1 cd.aD).2.2.2.1.2.2.1).bind fun h=>br (decide ((w.2.1.length:Int)>0)) ((av F0 j.2.1 (w.2.1.length:Int)).bind fun f=>ck (bG f.1.1 (w.2.1.length:Int)) ((av F0 f.2.1 4).bind fun a=>br (a.1.1==0) (some ((b.1.1,()),a.2.1,())) (br (a.1.1==1) ((av F0 a.2.1 2).bind fun e=>(bJ F0 (aj ((aj (h.1.1+1))+e.1.1)) 60).bind fun g=>some (((3,g.1,(ak,0,ak,[]),(0,ak,[]),h.1,aK w.2.1 f.1.1 0,0,0,0,0),()),e.2.1,())) (bK F (bo F) F.n (bn (aK w.2.1 f.1.1 0) (aj (h.1.1+1)) 0 a.2.1.1 a.2.1.2.1 a.2.1.2.2 w.1.1 w.1.2 w.2.1 w.2.2.1 w.2.2.2.1 w.2.2.2.2 0 0 ak 0 ak 0 ak 0 ak 0 0 0 0 0 h.1.1 h.1.2.1 [] [] [] h.1.2.2))))) ((av F0 j.2.1 4).bind fun a=>br (a.1.1==0) (some ((b.1.1,()),a.2.1,())) (br (a.1.1==1) ((av F0 a.2.1 2).bind fun e=>(bJ F0 (aj ((aj (h.1.1+1))+e.1.1)) 60).bind fun g=>some (((3,g.1,(ak,0,ak,[]),(0,ak,[]),h.1,0,0,0,0,0),()),e.2.1,())) (bK F (bo F) F.n (bn 0 (aj (h.1.1+1)) 0 a.2.1.1 a.2.1.2.1 a.2.1.2.2 w.1.1 w.1.2 w.2.1 w.2.2.1 w.2.2.2.1 w.2.2.2.2 0 0 ak 0 ak 0 ak 0 ak 0 0 0 0 0 h.1.1 h.1.2.1 [] [] [] h.1.2.2)))))) (br (decide ((w.2.1.length:Int)>0)) ((av F0 i.2.1 (w.2.1.length:Int)).bind fun f=>ck (bG f.1.1 (w.2.1.length:Int)) ((av F0 f.2.1 4).bind fun a=>br (a.1.1==0) (some ((b.1.1,()),a.2.1,())) (br (a.1.1==1) ((av F0 a.2.1 2).bind fun e=>(bJ F0 (aj ((aj (d.1.1+1))+e.1.1)) 60).bind fun g=>some (((3,g.1,(ak,0,ak,[]),(0,ak,[]),d.1,aK w.2.1 f.1.1 0,0,0,0,0),()),e.2.1,())) (bK F (bo F) F.n (bn (aK w.2.1 f.1.1 0) (aj (d.1.1+1)) 0 a.2.1.1 a.2.1.2.1 a.2.1.2.2 w.1.1 w.1.2 w.2.1 w.2.2.1 w.2.2.2.1 w.2.2.2.2 0 0 ak 0 ak 0 ak 0 ak 0 0 0 0 0 d.1.1 d.1.2.1 [] [] [] d.1.2.2))))) ((av F0 i.2.1 4).bind fun a=>br (a.1.1==0) (some ((b.1.1,()),a.2.1,())) (br (a.1.1==1) ((av F0 a.2.1 2).bind fun e=>(bJ F0 (aj ((aj (d.1.1+1))+e.1.1)) 60).bind fun g=>some (((3,g.1,(ak,0,ak,[]),(0,ak,[]),d.1,0,0,0,0,0),()),e.2.1,())) (bK F (bo F) F.n (bn 0 (aj (d.1.1+1)) 0 a.2.1.1 a.2.1.2.1 a.2.1.2.2 w.1.1 w.1.2 w.2.1 w.2.2.1 w.2.2.2.1 w.2.2.2.2 0 0 ak 0 ak 0 ak 0 ak 0 0 0 0 0 d.1.1 d.1.2.1 [] [] [] d.1.2.2)))))) (br (decide ((w.2.1.length:Int)>0)) ((av F0 b.2.1 (w.2.1.length:Int)).bind fun f=>ck (bG f.1.1 (w.2.1.length:Int)) ((av F0 f.2.1 4).bind fun a=>br (a.1.1==0) (some ((b.1.1,()),a.2.1,())) (br (a.1.1==1) ((av F0 a.2.1 2).bind fun e=>(bJ F0 (aj ((aj (d.1.1+1))+e.1.1)) 60).bind fun g=>some (((3,g.1,(ak,0,ak,[]),(0,ak,[]),d.1,aK w.2.1 f.1.1 0,0,0,0,0),()),e.2.1,())) (bK F (bo F) F.n (bn (aK w.2.1 f.1.1 0) (aj (d.1.1+1)) 0 a.2.1.1 a.2.1.2.1 a.2.1.2.2 w.1.1 w.1.2 w.2.1 w.2.2.1 w.2.2.2.1 w.2.2.2.2 0 0 ak 0 ak 0 ak 0 ak 0 0 0 0 0 d.1.1 d.1.2.1 [] [] [] d.1.2.2))))) ((av F0 b.2.1 4).bind fun a=>br (a.1.1==0) (some ((b.1.1,()),a.2.1,())) (br (a.1.1==1) ((av F0 a.2.1 2).bind fun e=>(bJ F0 (aj ((aj (d.1.1+1))+e.1.1)) 60).bind fun g=>some (((3,g.1,(ak,0,ak,[]),(0,ak,[]),d.1,0,0,0,0,0),()),e.2.1,())) (bK F (bo F) F.n (bn 0 (aj (d.1.1+1)) 0 a.2.1.1 a.2.1.2.1 a.2.1.2.2 w.1.1 w.1.2 w.2.1 w.2.2.1 w.2.2.2.1 w.2.2.2.2 0 0 ak 0 ak 0 ak 0 ak 0 0 0 0 0 d.1.1 d.1.2.1 [] [] [] d.1.2.2)))))) (br (decide ((w.2.1.length:Int)>0)) ((av F0 b.2.1 (w.2.1.length:Int)).bind fun f=>ck (bG f.1.1 (w.2.1.length:Int)) ((av F0 f.2.1 4).bind fun a=>br (a.1.1==0) (some ((b.1.1,()),a.2.1,())) (br (a.1.1==1) ((av F0 a.2.1 2).bind fun e=>(bJ F0 (aj ((aj (b.1.1.2.2.2.1.1+1))+e.1.1)) 60).bind fun g=>some (((3,g.1,(ak,0,ak,[]),(0,ak,[]),b.1.1.2.2.2.1,aK w.2.1 f.1.1 0,0,0,0,0),()),e.2.1,())) (bK F (bo F) F.n (bn (aK w.2.1 f.1.1 0) (aj (b.1.1.2.2.2.1.1+1)) 0 a.2.1.1 a.2.1.2.1 a.2.1.2.2 w.1.1 w.1.2 w.2.1 w.2.2.1 w.2.2.2.1 w.2.2.2.2 0 0 ak 0 ak 0 ak 0 ak 0 0 0 0 0 b.1.1.2.2.2.1.1 b.1.1.2.2.2.1.2.1 [] [] [] b.1.1.2.2.2.1.2.2))))) ((av F0 b.2.1 4).bind fun a=>br (a.1.1==0) (some ((b.1.1,()),a.2.1,())) (br (a.1.1==1) ((av F0 a.2.1 2).bind fun e=>(bJ F0 (aj ((aj (b.1.1.2.2.2.1.1+1))+e.1.1)) 60).bind fun g=>some (((3,g.1,(ak,0,ak,[]),(0,ak,[]),b.1.1.2.2.2.1,0,0,0,0,0),()),e.2.1,())) (bK F (bo F) F.n (bn 0 (aj (b.1.1.2.2.2.1.1+1)) 0 a.2.1.1 a.2.1.2.1 a.2.1.2.2 w.1.1 w.1.2 w.2.1 w.2.2.1 w.2.2.2.1 w.2.2.2.2 0 0 ak 0 ak 0 ak 0 ak 0 0 0 0 0 b.1.1.2.2.2.1.1 b.1.1.2.2.2.1.2.1 [] [] [] b.1.1.2.2.2.1.2.2))))):=by kernel_rfl
def Hb:Any:=.two ⟨atN,0,.cur,wR,2,jK,fun x=>ia F0 x.1 x.2.1⟩
theorem ab9:a6 70 Hb:=VZ po ⟨fN,yd,Ha,oP,nv,P0,Wv,kJ,ale,l8,trivial⟩ func70 pq (by kernel_rfl)
def fY:=[(25,ed),(62,np),(63,oa),(66,gM),(67,R1),(68,cM),(69,p9),(70,Hb),(71,jP)]
def fZ:Nat->Option Hint:=look [(8,{live:=[3,4,5,6,7],x3:=[(4,8,3,.int .i64),(4,11,3,.int .i64),(4,14,3,.int .i64)],xl:=[4,6],rl:=[4]}),(19,{live:=[0,3,4,5,6,10],x3:=[(4,8,3,.int .i64),(4,11,3,.int .i64),(4,14,3,.int .i64)],xl:=[0,3,4,6],rl:=[4]})]
def cX (b a k:Int)(c:List Int)(d e w f:Int)(g:List Int)(h:List a1)(i:List bS)(j:List bE)(v x y z A:Int)(B:ByteArray)(C:Int)(D:ByteArray)(E:Int)(G:ByteArray)(l:Int)(m:ByteArray)(o p q r s:Int)(H t u:List Int):St:={nt:=152,tm:=[(0,.v (.c (.ptr 4000000 0))),b0 3,b0 4,(5,a8 b),(6,a8 a),(10,a8 k)],bx:=[(4000000,[.ro true 5 (.int .u8) c,ao d,ao e]),(3,[ao w,ao f,.ro false 3 (.int .i64) g,.ro false 65 (cd) h,.ro false 105 (eh) i,.ro false 41 (cz) j]),(4,[ao v,ao x,ao y,ao z,ao A,.str B,ao C,.str D,.own 1000000 none,ao E,.str G,.own 1000001 none,ao l,.str m,.own 1000002 none,ao o,ao p,ao q,ao r,ao s])],bl:=[ay 1000000 3 (.int .i64) H,ay 1000001 3 (.int .i64) t,ay 1000002 3 (.int .i64) u],sp:=.v (.c (.ptr 4000000 0))}
def Fh (a:List Int)(b c k l m o p:Int)(q:ByteArray)(r:Int)(s:ByteArray)(t:Int)(u:ByteArray)(d:Int)(e:ByteArray)(f g h i j:Int):St:={nt:=152,tm:=[b0 4],bx:=[(4000000,[.ro true 5 (.int .u8) a,ao b,ao c]),(4,[ao k,ao l,ao m,ao o,ao p,.str q,ao r,.str s,.nil,ao t,.str u,.nil,ao d,.str e,.nil,ao f,ao g,ao h,ao i,ao j])],bl:=[],sp:=.v (.c (.ptr 4000000 0))}
def BG (a:Int)(b:List Int)(c d w e:Int)(f:List Int)(g:List a1)(h:List bS)(i:List bE)(t u v x y:Int)(z:ByteArray)(A:Int)(B:ByteArray)(C:Int)(D:ByteArray)(j:Int)(k:ByteArray)(l m o p q:Int)(E r s:List Int):St:={nt:=152,tm:=[(0,.v (.c (.ptr 4000000 0))),b0 3,b0 4,(6,a8 a)],bx:=[(4000000,[.ro true 5 (.int .u8) b,ao c,ao d]),(3,[ao w,ao e,.ro false 3 (.int .i64) f,.ro false 65 (cd) g,.ro false 105 (eh) h,.ro false 41 (cz) i]),(4,[ao t,ao u,ao v,ao x,ao y,.str z,ao A,.str B,.own 1000000 none,ao C,.str D,.own 1000001 none,ao j,.str k,.own 1000002 none,ao l,ao m,ao o,ao p,ao q])],bl:=[ay 1000000 3 (.int .i64) E,ay 1000001 3 (.int .i64) r,ay 1000002 3 (.int .i64) s],sp:=.v (.c (.ptr 4000000 0))}
def dL (a:St):Option U:=e9 fY F fZ [.r,.r,.r,.l,.r,.b,.r,.e,.r,.t,.r,.b,.i] f27 J n a
def cY:=ayu fY F fZ [.r,.r,.r,.l,.r,.b,.r,.e,.r,.t,.r,.b] f27 .cur [(K45,true)] jK 2
def cZ (b a k:Int)(c:List Int)(d e w f:Int)(g:List Int)(h:List a1)(i:List bS)(j:List bE)(v x y z A:Int)(B:ByteArray)(C:Int)(D:ByteArray)(E:Int)(G:ByteArray)(l:Int)(m:ByteArray)(o p q r s:Int)(H t u:List Int):St:={nt:=152,tm:=[b0 3,b0 4,(5,a8 b),(6,a8 a),(7,a8 k)],bx:=[(4000000,[.ro true 5 (.int .u8) c,ao d,ao e]),(3,[ao w,ao f,.ro false 3 (.int .i64) g,.ro false 65 (cd) h,.ro false 105 (eh) i,.ro false 41 (cz) j]),(4,[ao v,ao x,ao y,ao z,ao A,.str B,ao C,.str D,.own 1000000 none,ao E,.str G,.own 1000001 none,ao l,.str m,.own 1000002 none,ao o,ao p,ao q,ao r,ao s])],bl:=[ay 1000000 3 (.int .i64) H,ay 1000001 3 (.int .i64) t,ay 1000002 3 (.int .i64) u],sp:=.v (.c (.ptr 4000000 0))}
def Fi (a:List Int)(b c k l m o p:Int)(q:ByteArray)(r:Int)(s:ByteArray)(t:Int)(u:ByteArray)(d:Int)(e:ByteArray)(f g h i j:Int):St:={nt:=152,tm:=[b0 4],bx:=[(4000000,[.ro true 5 (.int .u8) a,ao b,ao c]),(4,[ao k,ao l,ao m,ao o,ao p,.str q,ao r,.str s,.nil,ao t,.str u,.nil,ao d,.str e,.nil,ao f,ao g,ao h,ao i,ao j])],bl:=[],sp:=.v (.c (.ptr 4000000 0))}
def BH (a:Int)(b:List Int)(c d o p q r s:Int)(t:ByteArray)(u:Int)(v:ByteArray)(w:Int)(x:ByteArray)(e:Int)(f:ByteArray)(g h i j k:Int)(y l m:List Int):St:={nt:=152,tm:=[b0 4,(6,a8 a)],bx:=[(4000000,[.ro true 5 (.int .u8) b,ao c,ao d]),(4,[ao o,ao p,ao q,ao r,ao s,.str t,ao u,.str v,.own 1000000 none,ao w,.str x,.own 1000001 none,ao e,.str f,.own 1000002 none,ao g,ao h,ao i,ao j,ao k])],bl:=[ay 1000000 3 (.int .i64) y,ay 1000001 3 (.int .i64) l,ay 1000002 3 (.int .i64) m],sp:=.v (.c (.ptr 4000000 0))}
def dM (a:St):Option U:=e9 fY F fZ [.r,.r,.r,.l,.r,.b,.r,.t,.l,.r,.b,.i] f27 J n a
def dN:=ayu fY F fZ [.r,.r,.r,.l,.r,.b,.r,.t,.l,.r,.b] f27 .cur [(K45,true)] jK 2
theorem wU (b a k:Int)(d:List Int)(e f w g:Int)(h:List Int)(c:List a1)(i:List bS)(j:List bE)(v x y z A:Int)(B:ByteArray)(C:Int)(D:ByteArray)(E:Int)(G:ByteArray)(l:Int)(m:ByteArray)(o p q r s:Int)(H t u:List Int):dL F J (n+1) (cX b a k d e f w g h c i j v x y z A B C D E G l m o p q r s H t u)=br (decide (k<b)) (ck (!(b==0)) (ck (bG (Int.tmod (aj (a+k)) b) (c.length:Int)) (br (decide (((aK c (Int.tmod (aj (a+k)) b) cd.aD).2.2.2.2.2.2.2.length:Int)>0)) (ck (!(b==0)) (J .ret (Fh d e f 2 (Int.tmod (aj (a+k)) b) 0 0 0 ak 0 ak 0 ak 0 ak 0 0 0 0 0))) (dL F J n (cX b a (aj (k+1)) d e f w g h c i j v x y z A B C D E G l m o p q r s H t u))))) (J (.exit 3) (BG a d e f w g h c i j v x y z A B C D E G l m o p q r s H t u)):=by kernel_rfl
theorem wV (b a k:Int)(c:List Int)(d e w g:Int)(h:List Int)(f:List a1)(G:List bS)(H:List bE)(t u v x y:Int)(z:ByteArray)(A:Int)(B:ByteArray)(C:Int)(D:ByteArray)(i:Int)(j:ByteArray)(l m o p q:Int)(E r s:List Int):dM F J (n+1) (cZ b a k c d e w g h f G H t u v x y z A B C D i j l m o p q E r s)=br (decide (k<b)) (ck (!(b==0)) (ck (bG (Int.tmod (aj (a+k)) b) (f.length:Int)) ((Ws F0 (w,g) (aK f (Int.tmod (aj (a+k)) b) cd.aD)).bind fun I=>br I.2.1 (ck (!(b==0)) ((cW F0 h (Int.tmod (aj (a+k)) b)).bind fun K=>br (!K.1) (ck (!(b==0)) (J .ret (Fi c d e 1 (Int.tmod (aj (a+k)) b) 0 0 0 ak 0 ak 0 ak 0 ak 0 0 0 0 0))) (dM F J n (cZ b a (aj (k+1)) c d e w g h f G H t u v x y z A B C D i j l m o p q E r s)))) (dM F J n (cZ b a (aj (k+1)) c d e w g h f G H t u v x y z A B C D i j l m o p q E r s))))) (J (.exit 1) (BH a c d e t u v x y z A B C D i j l m o p q E r s)):=by kernel_rfl
theorem U3 (a:List Int)(b c k l m o p:Int)(q:ByteArray)(r:Int)(s:ByteArray)(t:Int)(u:ByteArray)(d:Int)(e:ByteArray)(f g h i j:Int):cY F .ret (Fh a b c k l m o p q r s t u d e f g h i j)=some (((k,l,m,o,p,(q,r,s,[]),(t,u,[]),(d,e,[]),f,g,h,i,j),()),(a,b,c),()):=by kernel_rfl
theorem R2 (a:Int)(b:List Int)(c d w g:Int)(h:List Int)(i:List a1)(e:List bS)(j:List bE)(v x y z A:Int)(B:ByteArray)(C:Int)(D:ByteArray)(E:Int)(G:ByteArray)(k:Int)(l:ByteArray)(m o p q r:Int)(H s t:List Int):cY F (.exit 3) (BG a b c d w g h i e j v x y z A B C D E G k l m o p q r H s t)=br ((e.length:Int)==0) (some (((2,a,0,0,0,(ak,0,ak,[]),(0,ak,[]),(0,ak,[]),0,0,0,0,0),()),(b,c,d),())) ((bJ F0 (e.length:Int) 4).bind fun u=>(av F0 (b,c,d) u.1).bind fun f=>some (((3,f.1.1,0,0,0,(ak,0,ak,[]),(0,ak,[]),(0,ak,[]),0,0,0,0,0),()),f.2.1,())):=by kernel_rfl
theorem U4 (a:List Int)(b c k l m o p:Int)(q:ByteArray)(r:Int)(s:ByteArray)(t:Int)(u:ByteArray)(d:Int)(e:ByteArray)(f g h i j:Int):dN F .ret (Fi a b c k l m o p q r s t u d e f g h i j)=some (((k,l,m,o,p,(q,r,s,[]),(t,u,[]),(d,e,[]),f,g,h,i,j),()),(a,b,c),()):=by kernel_rfl
theorem R3 (a:Int)(b:List Int)(c d o p q r s:Int)(t:ByteArray)(u:Int)(v:ByteArray)(w:Int)(x:ByteArray)(e:Int)(f:ByteArray)(g h i j k:Int)(y l m:List Int):dN F (.exit 1) (BH a b c d o p q r s t u v w x e f g h i j k y l m)=some (((7,a,0,0,0,(ak,0,ak,[]),(0,ak,[]),(0,ak,[]),0,0,0,0,0),()),(b,c,d),()):=by kernel_rfl
def rT (c:D2)(w:ko):=E6 fY F fZ f27 atN 0 .cur [(K45,true)] jK 2 (c,w,())
theorem Zl (c:D2)(w:ko):rT F c w=(dJ F0 (w.2.2.1.length:Int) 1).bind fun l=>(av F0 c l.1).bind fun b=>(av F0 b.2.1 20).bind fun a=>br (a.1.1==0) (dM F (dN F) F.n (cZ (w.2.2.1.length:Int) b.1.1 0 a.2.1.1 a.2.1.2.1 a.2.1.2.2 w.1.1 w.1.2 w.2.1 w.2.2.1 w.2.2.2.1 w.2.2.2.2 0 0 0 0 0 ak 0 ak 0 ak 0 ak 0 0 0 0 0 [] [] [])) (br (a.1.1==1) (dM F (dN F) F.n (cZ (w.2.2.1.length:Int) b.1.1 0 a.2.1.1 a.2.1.2.1 a.2.1.2.2 w.1.1 w.1.2 w.2.1 w.2.2.1 w.2.2.2.1 w.2.2.2.2 0 0 0 0 0 ak 0 ak 0 ak 0 ak 0 0 0 0 0 [] [] [])) (br (a.1.1==2) (dM F (dN F) F.n (cZ (w.2.2.1.length:Int) b.1.1 0 a.2.1.1 a.2.1.2.1 a.2.1.2.2 w.1.1 w.1.2 w.2.1 w.2.2.1 w.2.2.2.1 w.2.2.2.2 0 0 0 0 0 ak 0 ak 0 ak 0 ak 0 0 0 0 0 [] [] [])) (br (a.1.1==3) (dL F (cY F) F.n (cX (w.2.2.1.length:Int) b.1.1 0 a.2.1.1 a.2.1.2.1 a.2.1.2.2 w.1.1 w.1.2 w.2.1 w.2.2.1 w.2.2.2.1 w.2.2.2.2 0 0 0 0 0 ak 0 ak 0 ak 0 ak 0 0 0 0 0 [] [] [])) (br (a.1.1==4) (dL F (cY F) F.n (cX (w.2.2.1.length:Int) b.1.1 0 a.2.1.1 a.2.1.2.1 a.2.1.2.2 w.1.1 w.1.2 w.2.1 w.2.2.1 w.2.2.2.1 w.2.2.2.2 0 0 0 0 0 ak 0 ak 0 ak 0 ak 0 0 0 0 0 [] [] [])) (br (a.1.1==5) (dL F (cY F) F.n (cX (w.2.2.1.length:Int) b.1.1 0 a.2.1.1 a.2.1.2.1 a.2.1.2.2 w.1.1 w.1.2 w.2.1 w.2.2.1 w.2.2.2.1 w.2.2.2.2 0 0 0 0 0 ak 0 ak 0 ak 0 ak 0 0 0 0 0 [] [] [])) (br (a.1.1==6) (dL F (cY F) F.n (cX (w.2.2.1.length:Int) b.1.1 0 a.2.1.1 a.2.1.2.1 a.2.1.2.2 w.1.1 w.1.2 w.2.1 w.2.2.1 w.2.2.2.1 w.2.2.2.2 0 0 0 0 0 ak 0 ak 0 ak 0 ak 0 0 0 0 0 [] [] [])) (br (a.1.1==7) (some (((6,b.1.1,0,0,0,(ak,0,ak,[]),(0,ak,[]),(0,ak,[]),0,0,0,0,0),()),a.2.1,())) (br (a.1.1==8) (some (((7,b.1.1,0,0,0,(ak,0,ak,[]),(0,ak,[]),(0,ak,[]),0,0,0,0,0),()),a.2.1,())) (br (a.1.1==9) ((mX F0 a.2.1 2).bind fun g=>br g.1.1 ((jL F0 g.2.1 [0,0,5,40,9999]).bind fun h=>some (((8,b.1.1,h.1.1,0,0,(ak,0,ak,[]),(0,ak,[]),(0,ak,[]),0,0,0,0,0),()),h.2.1,())) ((av F0 g.2.1 2).bind fun i=>(dJ F0 (w.2.2.2.1.length:Int) 1).bind fun m=>(av F0 i.2.1 m.1).bind fun j=>some (((aj (4+i.1.1),j.1.1,0,0,0,(ak,0,ak,[]),(0,ak,[]),(0,ak,[]),0,0,0,0,0),()),j.2.1,()))) (br (a.1.1==10) ((mh F0 a.2.1).bind fun k=>some (((9,b.1.1,0,4,0,(ak,0,ak,[]),(0,ak,[]),(0,ak,[]),0,k.1.1),()),k.2.1,())) (br (a.1.1==11) (br (decide ((w.2.1.length:Int)>0)) ((ia F0 a.2.1 w).bind fun e=>some (((10,b.1.1,0,e.1.1),()),e.2.1,())) (br ((w.2.2.2.1.length:Int)==0) (some (((2,b.1.1,0,0,0,(ak,0,ak,[]),(0,ak,[]),(0,ak,[]),0,0,0,0,0),()),a.2.1,())) ((bJ F0 (w.2.2.2.1.length:Int) 4).bind fun f=>(av F0 a.2.1 f.1).bind fun d=>some (((3,d.1.1,0,0,0,(ak,0,ak,[]),(0,ak,[]),(0,ak,[]),0,0,0,0,0),()),d.2.1,())))) (br (a.1.1==12) (br (decide ((w.2.1.length:Int)>0)) ((ia F0 a.2.1 w).bind fun e=>some (((10,b.1.1,0,e.1.1),()),e.2.1,())) (br ((w.2.2.2.1.length:Int)==0) (some (((2,b.1.1,0,0,0,(ak,0,ak,[]),(0,ak,[]),(0,ak,[]),0,0,0,0,0),()),a.2.1,())) ((bJ F0 (w.2.2.2.1.length:Int) 4).bind fun f=>(av F0 a.2.1 f.1).bind fun d=>some (((3,d.1.1,0,0,0,(ak,0,ak,[]),(0,ak,[]),(0,ak,[]),0,0,0,0,0),()),d.2.1,())))) (br (a.1.1==13) (br (decide ((w.2.1.length:Int)>0)) ((ia F0 a.2.1 w).bind fun e=>some (((10,b.1.1,0,e.1.1),()),e.2.1,())) (br ((w.2.2.2.1.length:Int)==0) (some (((2,b.1.1,0,0,0,(ak,0,ak,[]),(0,ak,[]),(0,ak,[]),0,0,0,0,0),()),a.2.1,())) ((bJ F0 (w.2.2.2.1.length:Int) 4).bind fun f=>(av F0 a.2.1 f.1).bind fun d=>some (((3,d.1.1,0,0,0,(ak,0,ak,[]),(0,ak,[]),(0,ak,[]),0,0,0,0,0),()),d.2.1,())))) (br ((w.2.2.2.1.length:Int)==0) (some (((2,b.1.1,0,0,0,(ak,0,ak,[]),(0,ak,[]),(0,ak,[]),0,0,0,0,0),()),a.2.1,())) ((bJ F0 (w.2.2.2.1.length:Int) 4).bind fun f=>(av F0 a.2.1 f.1).bind fun d=>some (((3,d.1.1,0,0,0,(ak,0,ak,[]),(0,ak,[]),(0,ak,[]),0,0,0,0,0),()),d.2.1,())))))))))))))))):=by kernel_rfl
def Fj:Any:=.two ⟨atN,0,.cur,[(K45,true)],2,jK,fun x=>rT F0 x.1 x.2.1⟩
theorem Zm:a6 27 Fj:=VZ fY ⟨fN,yc,yd,lr,ajB,dK,Ha,ab9,oP,trivial⟩ func27 fZ (by kernel_rfl)
def Ww:=[(136,h9)]
def Iu (a b:D9):=bj Ww F ad f337 wP gq 2 (a,b,())
theorem alf (a b:D9):Iu F a b=br (decide (a.1>b.1)) ((iY F0 a).bind fun c=>some (c.1,())) ((iY F0 b).bind fun d=>some (d.1,())):=by kernel_rfl
def P4:Any:=.one ⟨wP,gq,2,fun x=>Iu F0 x.1 x.2.1⟩
theorem alg:a6 337 P4:=aq Ww ⟨l8,trivial⟩ func337 ad (by kernel_rfl)
def Wx:=[(150,p0),(200,tF)]
abbrev aDt:List (Ty×Bool):=[(.str,false),(.bool,false)]
def Iv (name:ByteArray):=bj Wx F ad f338 dB aDt 1 (name,())
theorem alh (name:ByteArray):Iv F name=(pZ F0 name).bind fun a=>br (!a.2.1) (some (ak,false,())) (br (decide ((a.1.length:Int)<3)) (some (ak,false,())) (ck (bG (aj ((a.1.length:Int)-1)) (a.1.length:Int)) (ck (bG (aj ((a.1.length:Int)-2)) (a.1.length:Int)) (br ((aK a.1 (aj ((a.1.length:Int)-1)) (0,[])).1 != (aj ((aK a.1 (aj ((a.1.length:Int)-2)) (0,[])).1+1))) (some (ak,false,())) (ck (bG (aj ((a.1.length:Int)-2)) (a.1.length:Int)) (ck (bG (aj ((a.1.length:Int)-3)) (a.1.length:Int)) (br ((aK a.1 (aj ((a.1.length:Int)-2)) (0,[])).1 != (aj ((aK a.1 (aj ((a.1.length:Int)-3)) (0,[])).1+1))) (some (ak,false,())) ((l0 F0 name).bind fun b=>(l0 F0 b.1).bind fun c=>some (c.1,true,()))))))))):=by kernel_rfl
def P5:Any:=.one ⟨dB,aDt,1,fun x=>Iv F0 x.1⟩
theorem ali:a6 338 P5:=aq Wx ⟨Dk,Ii,trivial⟩ func338 ad (by kernel_rfl)
def Wy:=[(78,eN)]
abbrev Tw:List (Ty×Bool):=[(.str,false),(.str,false)]
def Iw (s t:ByteArray):=bj Wy F ad f339 Tw aO 1 (s,t,())
theorem alj (s t:ByteArray):Iw F s t=(eY F0 s).bind fun a=>br (!a.1) (some (false,())) ((eY F0 t).bind fun b=>br (!b.1) (some (false,())) (br (decide ((t.size:Int)>(s.size:Int))) (some (false,())) (ck (S5 0 (t.size:Int) (s.size:Int)) (br (!((s.extract (0:Int).toNat (t.size:Int).toNat).toList==t.toList)) (some (false,())) (br ((s.size:Int)==(t.size:Int)) (some (true,())) (ck (bG (t.size:Int) (s.size:Int)) (some ((jI s (t.size:Int))==47,())))))))):=by kernel_rfl
def P6:Any:=.one ⟨Tw,aO,1,fun x=>Iw F0 x.1 x.2.1⟩
theorem alk:a6 339 P6:=aq Wy ⟨gL,trivial⟩ func339 ad (by kernel_rfl)
def aot:=[(66,gM),(79,df),(121,l9),(134,gw),(141,h8),(200,tF),(337,P4),(338,P5),(339,P6)]
abbrev aDu:List (Ty×Bool):=[(K1,true),(K12,true),(K9,true)]
def P7 (c:D1)(s:U1)(q:D9):=bj aot F ad f304 aDu BD 2 (c,s,q,())
theorem ayA (c:D1)(s:U1)(q:D9):P7 F c s q=(nu F0 s).bind fun a=>(iX F0 c s).bind fun f=>br (!f.1) (some (a.1,())) ((kp F0 c q).bind fun g=>br (!g.1) (some (a.1,())) ((Iu F0 q s.2.2.1).bind fun b=>(l0 F0 q.2.1).bind fun h=>(du F0 h.1).bind fun i=>(dJ F0 s.2.1 i.1).bind fun d=>(Iv F0 q.2.1).bind fun e=>br e.2.1 ((Iw F0 e.1 s.2.2.2).bind fun j=>br j.1 (some ((a.1.1,d.1,b.1,e.1),())) (some ((a.1.1,d.1,b.1,a.1.2.2.2),()))) (some ((a.1.1,d.1,b.1,a.1.2.2.2),())))):=by kernel_rfl
def Ix:Any:=.one ⟨aDu,BD,2,fun x=>P7 F0 x.1 x.2.1 x.2.2.1⟩
theorem Wz:a6 304 Ix:=aq aot ⟨lr,eH,uB,kJ,lY,Ii,alg,ali,alk,trivial⟩ func304 ad (by kernel_rfl)
def WA:=[(79,df),(141,h8),(199,l1)]
abbrev ajC:List (Ty×Bool):=[(K1,true),(K12,true),(K15,true)]
def yT (c:D1)(s:U1)(b:D15):=bj WA F ad f305 ajC aO 1 (c,s,b,())
theorem alm (c:D1)(s:U1)(b:D15):yT F c s b=(iX F0 c s).bind fun a=>br a.1 ((nr F0 c b).bind fun d=>br d.1 ((du F0 b.1).bind fun e=>br (decide (e.1>s.1)) (some (decide (b.2.1>=s.2.1),())) (some (false,()))) (some (false,()))) (some (false,())):=by kernel_rfl
def Cp:Any:=.one ⟨ajC,aO,1,fun x=>yT F0 x.1 x.2.1 x.2.2.1⟩
theorem Tx:a6 305 Cp:=aq WA ⟨eH,lY,ur,trivial⟩ func305 ad (by kernel_rfl)
def ajD:=[(79,df),(121,l9),(305,Cp)]
abbrev ajE:List (Ty×Bool):=[(K12,true),(.bool,false)]
def P8 (c:D1)(s:U1)(b:D15):=bj ajD F ad f306 ajC ajE 2 (c,s,b,())
theorem avX (c:D1)(s:U1)(b:D15):P8 F c s b=(nu F0 s).bind fun a=>(yT F0 c s b).bind fun d=>br (!d.1) (some (a.1,false,())) ((du F0 b.1).bind fun e=>some ((e.1,a.1.2),true,())):=by kernel_rfl
def aaq:Any:=.one ⟨ajC,ajE,2,fun x=>P8 F0 x.1 x.2.1 x.2.2.1⟩
theorem avY:a6 306 aaq:=aq ajD ⟨eH,uB,Tx,trivial⟩ func306 ad (by kernel_rfl)
def Tz:=[(317,uq)]
abbrev aDv:List (Ty×Bool):=[(K12,true),(K12,true)]
def DI (a b:U1):=bj Tz F ad f340 aDv aO 1 (a,b,())
theorem aha (a b:U1):DI F a b=br (a.1==b.1) (br (a.2.1==b.2.1) ((wQ F0 a.2.2.1 b.2.2.1).bind fun c=>br c.1 (some (a.2.2.2.toList==b.2.2.2.toList,())) (some (false,()))) (some (false,()))) (some (false,())):=by kernel_rfl
def MR:Any:=.one ⟨aDv,aO,1,fun x=>DI F0 x.1 x.2.1⟩
theorem ahb:a6 340 MR:=aq Tz ⟨Kk,trivial⟩ func340 ad (by kernel_rfl)
def DJ:=[(73,b7)]
def DK:Nat->Option Hint:=look [(4,{live:=[0,3],xl:=[0,3],rl:=[2]})]
def uY (a:Int)(b:List Int):= cQ 25 [(0,a8 a),(3,.v (.c (.own 1000000 none)))] [] [ay 1000000 5 (.int .u8) b]
def P9 (a:Int)(b:List Int):= cQ 25 [(0,a8 a),(3,.v (.c (.own 1000000 none)))] [] [ay 1000000 5 (.int .u8) b]
def DL (a:St):Option U:=e9 DJ F DK [.r,.r,.r,.l,.b,.i] f300 J n a
def Gs:=hf DJ F DK [.r,.r,.r,.l,.b] f300 lW 2
theorem KG (a:Int)(b:List Int):DL F J (n+1) (uY a b)=br (decide (a>127)) (ck (ei F b.length [IntKind.wrap .u8 (aj ((Int.tmod a 128)+128))].length 1) (DL F J n (uY (aj (Int.tdiv a 128)) (b++[IntKind.wrap .u8 (aj ((Int.tmod a 128)+128))])))) (J (.exit 0) (P9 a b)):=by kernel_rfl
theorem MS (a:Int)(b:List Int):Gs F (.exit 0) (P9 a b)=ck (ei F b.length [IntKind.wrap .u8 (a)].length 1) (some (b++[IntKind.wrap .u8 (a)],())):=by kernel_rfl
def eo (a:Int):=bj DJ F DK f300 cE lW 2 (a,())
theorem aou (a:Int):eo F a=(bM F0 a 0 2147483647).bind fun b=>br (!b.1) (some ([],())) (DL F (Gs F) F.n (uY a [])):=by kernel_rfl
def ib:Any:=.one ⟨cE,lW,2,fun x=>eo F0 x.1⟩
theorem mi:a6 300 ib:=aq DJ ⟨cA,trivial⟩ func300 DK (by kernel_rfl)
def WB:=[(300,ib)]
def nx (s:ByteArray):=bj WB F ad f301 dB lW 2 (s,())
theorem aln (s:ByteArray):nx F s=(eo F0 (s.size:Int)).bind fun a=>ck (decide ((s.size:Int)<=F.mem)) (ck (ei F a.1.length (bytesOf s).length 1) (some (a.1++(bytesOf s),()))):=by kernel_rfl
def rU:Any:=.one ⟨dB,lW,2,fun x=>nx F0 x.1⟩
theorem Gt:a6 301 rU:=aq WB ⟨mi,trivial⟩ func301 ad (by kernel_rfl)
end
end Go.Am.Tryz
