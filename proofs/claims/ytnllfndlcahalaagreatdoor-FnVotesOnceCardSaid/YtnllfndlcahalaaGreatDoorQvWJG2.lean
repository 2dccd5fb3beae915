/- No condition. -/
import Derived.Test.YtnllfndlcahalaaGreatDoorQvWJG1
set_option linter.all false
set_option maxRecDepth 100000
namespace Go.Am.Tryz
open Go.Am Go.Proofs Go.Proofs.Tryz
noncomputable section
variable {U:Type} (F:p5) (J:Ex->St->Option U) (n:Nat)
def WT:=[(121,mj),(122,yR),(123,ml),(124,yU)]
abbrev TS:List (Ty×Bool):=[(ca,true)]
def ba (r:a7):=bj WT F ad f64 TS TS 2 (r,())
def alY (r:a7):ba F r=(nG F0 r.2.2.2.1).bind fun a=>ck (ep F 0 r.2.2.2.2.1.length 32) ((gJ F0 r.2.2.2.2.2.1).bind fun b=>(iR F0 r.2.2.2.2.2.2.1).bind fun c=>(tU F0 r.2.2.2.2.2.2.2).bind fun d=>some ((r.1,r.2.1,r.2.2.1,a.1,[]++r.2.2.2.2.1,b.1,c.1,d.1),())):=by kernel_rfl
def bX:Any:=.one ⟨TS,TS,2,fun x=>ba F0 x.1⟩
def cm:a1 64 bX:=aq WT ⟨uN,Ql,uR,Qm,trivial⟩ func64 ad (by kernel_rfl)
def mm:=[(64,bX)]
def mn:Nat->Option Hint:=look [(3,{live:=[1,2,3,4],yh:=[(2,2,3,.int .i64),(2,3,65,ca),(2,4,105,eo),(2,5,41,cl),(3,3,65,ca),(3,4,105,eo)],xl:=[1,2,3],rl:=[2]}),(7,{live:=[1,2,3,5],xl:=[2,3],rl:=[2]}),(999999,{live:=[1]})]
def rZ (w:lE)(i j k l a:Int)(m:List Int)(b:List a7)(c:List bS)(d:List bE)(e:List Int)(f:List a7)(g:List bS)(h:List bE):St:={nt:=63,tm:=[(1,.v (.c (.Vn false (hU) w 0))),b0 2,b0 3,(5,a8 i)],bx:=[(2,[ao j,ao k,.own 1000000 none,.own 1000001 none,.own 1000002 none,.own 1000003 none]),(3,[ao l,ao a,.own 1000004 none,.own 1000005 none,.own 1000006 none,.own 1000007 none])],bl:=[ay 1000000 3 (.int .i64) m,ay 1000001 65 ca b,ay 1000002 105 eo c,ay 1000003 41 cl d,ay 1000004 3 (.int .i64) e,ay 1000005 65 ca f,ay 1000006 105 eo g,ay 1000007 41 cl h],rob:=[1]}
def Nb (i j k a:Int)(l:List Int)(b:List a7)(c:List bS)(d:List bE)(e:List Int)(f:List a7)(g:List bS)(h:List bE):St:={nt:=63,tm:=[b0 2,b0 3],bx:=[(2,[ao i,ao j,.own 1000000 none,.own 1000001 none,.own 1000002 none,.own 1000003 none]),(3,[ao k,ao a,.own 1000004 none,.own 1000005 none,.own 1000006 none,.own 1000007 none])],bl:=[ay 1000000 3 (.int .i64) l,ay 1000001 65 ca b,ay 1000002 105 eo c,ay 1000003 41 cl d,ay 1000004 3 (.int .i64) e,ay 1000005 65 ca f,ay 1000006 105 eo g,ay 1000007 41 cl h],rob:=[1]}
def yV (a:St):Option U:=ff mm F mn [.r,.r,.r,.l,.r,.b,.i] f24 J n a
def CA:=hQ mm F mn [.r,.r,.r,.l,.r,.b] f24 dy 2
def r0 (w:lE)(i j k l a:Int)(m:List Int)(b:List a7)(c:List bS)(d:List bE)(e:List Int)(f:List a7)(g:List bS)(h:List bE):St:={nt:=63,tm:=[(1,.v (.c (.Vn false (hU) w 0))),b0 2,b0 3,(4,a8 i)],bx:=[(2,[ao j,ao k,.own 1000000 none,.own 1000001 none,.own 1000002 none,.own 1000003 none]),(3,[ao l,ao a,.own 1000004 none,.own 1000005 none,.own 1000006 none,.own 1000007 none])],bl:=[ay 1000000 3 (.int .i64) m,ay 1000001 65 ca b,ay 1000002 105 eo c,ay 1000003 41 cl d,ay 1000004 3 (.int .i64) e,ay 1000005 65 ca f,ay 1000006 105 eo g,ay 1000007 41 cl h],rob:=[1]}
def Nc (w:lE)(i j k a:Int)(l:List Int)(b:List a7)(c:List bS)(d:List bE)(e:List Int)(f:List a7)(g:List bS)(h:List bE):St:={nt:=63,tm:=[(1,.v (.c (.Vn false (hU) w 0))),b0 2,b0 3],bx:=[(2,[ao i,ao j,.own 1000000 none,.own 1000001 none,.own 1000002 none,.own 1000003 none]),(3,[ao k,ao a,.own 1000004 none,.own 1000005 none,.own 1000006 none,.own 1000007 none])],bl:=[ay 1000000 3 (.int .i64) l,ay 1000001 65 ca b,ay 1000002 105 eo c,ay 1000003 41 cl d,ay 1000004 3 (.int .i64) e,ay 1000005 65 ca f,ay 1000006 105 eo g,ay 1000007 41 cl h],rob:=[1]}
def yW (a:St):Option U:=ff mm F mn [.r,.r,.l,.r,.b,.i] f24 J n a
def CB:=hQ mm F mn [.r,.r,.l,.r,.b] f24 dy 2
def Hq (w:lE)(i j k l b:Int)(m:List Int)(c:List a7)(d:List bS)(e:List bE)(f:List Int)(g:List a7)(a:List bS)(h:List bE):yV F J (n+1) (rZ w i j k l b m c d e f g a h)=br (decide (i<(w.2.2.2.1.length:Int))) (ck (bG i (w.2.2.2.1.length:Int)) (ck (bG i (w.2.2.2.1.length:Int)) (ck (ep F 0 (aI w.2.2.2.1 i (0,[])).2.length 1) (ck (ep F a.length [((aI w.2.2.2.1 i (0,[])).1,[]++(aI w.2.2.2.1 i (0,[])).2)].length 32) (yV F J n (rZ w (aj (i+1)) j k l b m c d e f g (a++[((aI w.2.2.2.1 i (0,[])).1,[]++(aI w.2.2.2.1 i (0,[])).2)]) h)))))) (J (.exit 2) (Nb j k l b m c d e f g a h)):=by kernel_rfl
def Hr (w:lE)(i j k l b:Int)(m:List Int)(c:List a7)(d:List bS)(e:List bE)(f:List Int)(a:List a7)(g:List bS)(h:List bE):yW F J (n+1) (r0 w i j k l b m c d e f a g h)=br (decide (i<(w.2.2.1.length:Int))) (ck (bG i (w.2.2.1.length:Int)) ((ba F0 (aI w.2.2.1 i ca.az)).bind fun o=>ck (ep F a.length [o.1].length 208) (yW F J n (r0 w (aj (i+1)) j k l b m c d e f (a++[o.1]) g h)))) (J (.exit 0) (Nc w j k l b m c d e f a g h)):=by kernel_rfl
def acM (j k f a:Int)(l:List Int)(g:List a7)(h:List bS)(i:List bE)(b:List Int)(c:List a7)(d:List bS)(e:List bE):CA F (.exit 2) (Nb j k f a l g h i b c d e)=some (((f,a),b,c,d,e),()):=by kernel_rfl
def acN (w:lE)(i j k a:Int)(l:List Int)(b:List a7)(c:List bS)(d:List bE)(e:List Int)(f:List a7)(g:List bS)(h:List bE):CB F (.exit 0) (Nc w i j k a l b c d e f g h)=yV F (CA F) F.n (rZ w 0 i j k a l b c d e f g h):=by kernel_rfl
def yX (w:lE):=bj mm F mn f24 dy dy 2 (w,())
def alZ (w:lE):yX F w=ck (ep F 0 w.2.1.length 8) (ck (ep F 0 w.2.2.2.2.length 32) (yW F (CB F) F.n (r0 w 0 0 0 w.1.1 w.1.2 [] [] [] [] ([]++w.2.1) [] [] ([]++w.2.2.2.2)))):=by kernel_rfl
def CC:Any:=.one ⟨dy,dy,2,fun x=>yX F0 x.1⟩
def TT:a1 24 CC:=aq mm ⟨cm,trivial⟩ func24 mn (by kernel_rfl)
abbrev aKG:List (Ty×Bool):=[(.sl 5 (.int .u8),false),(.int .i64,false),(.int .i64,false)]
def Nd (b:List Int)(c a:Int):=bj aA F ad f26 aKG cE 1 (b,c,a,())
def ao6 (b:List Int)(c a:Int):Nd F b c a=br (decide ((aj (c+(aj (Int.tdiv (b.length:Int) 4))))>a)) (some (a,())) (some (aj (c+(aj (Int.tdiv (b.length:Int) 4))),())):=by kernel_rfl
def TU:Any:=.one ⟨aKG,cE,1,fun x=>Nd F0 x.1 x.2.1 x.2.2.1⟩
def ao7:a1 26 TU:=aq aA trivial func26 ad (by kernel_rfl)
def ako:=[(32,cx)]
def mo (c:D1)(a:Int):=bj ako F ad f125 akl cE 1 (c,a,())
def awJ (c:D1)(a:Int):mo F c a=(dJ F0 c).bind fun b=>br (!b.1) (some (-1,())) (br (decide (a<0)) (some (-1,())) (ck (!(c.1==0)) (some (Int.tmod a c.1,())))):=by kernel_rfl
def jx:Any:=.one ⟨akl,cE,1,fun x=>mo F0 x.1 x.2.1⟩
def nH:a1 125 jx:=aq ako ⟨de,trivial⟩ func125 ad (by kernel_rfl)
def uV:=[(194,jG)]
def uW:Nat->Option Hint:=look [(2,{live:=[0,1,2,6,7],yh:=[(6,2,3,.int .i64)],xl:=[1,2,6],rl:=[6]})]
def kW (a:List D9)(b:Int)(name:ByteArray)(i c:Int)(d:ByteArray)(e:List Int):= cQ 38 [(0,hV 50 (K9) a),(1,a8 b),(2,qqs name),b0 6,(7,a8 i)] [(6,[ao c,.str d,.own 1000000 none])] [ay 1000000 3 (.int .i64) e]
def Nf (a:Int)(b:ByteArray)(c:List Int):= cQ 38 [b0 6] [(6,[ao a,.str b,.own 1000000 none])] [ay 1000000 3 (.int .i64) c]
def KQ (a:Int)(name:ByteArray)(b:Int)(c:ByteArray)(d:List Int):= cQ 38 [(1,a8 a),(2,qqs name),b0 6] [(6,[ao b,.str c,.own 1000000 none])] [ay 1000000 3 (.int .i64) d]
def oC (a:St):Option U:=ff uV F uW [.r,.l,.r,.b,.i] f126 J n a
def px:=hQ uV F uW [.r,.l,.r,.b] f126 gB 2
def Fv (a:List D9)(b:Int)(name:ByteArray)(i c:Int)(d:ByteArray)(e:List Int):oC F J (n+1) (kW a b name i c d e)=br (decide (i<(a.length:Int))) (ck (bG i (a.length:Int)) (br ((aI a i K9.az).1==b) (ck (bG i (a.length:Int)) (br ((aI a i K9.az).2.1.toList==name.toList) (ck (bG i (a.length:Int)) ((gI F0 (aI a i K9.az)).bind fun f=>J .ret (Nf f.1.1 f.1.2.1 f.1.2.2))) (oC F J n (kW a b name (aj (i+1)) c d e)))) (oC F J n (kW a b name (aj (i+1)) c d e)))) (J (.exit 0) (KQ b name c d e)):=by kernel_rfl
def acO (a:Int)(b:ByteArray)(c:List Int):px F .ret (Nf a b c)=some ((a,b,c),()):=by kernel_rfl
def ZR (a:Int)(name:ByteArray)(b:Int)(c:ByteArray)(d:List Int):px F (.exit 0) (KQ a name b c d)=some ((a,name,[]),()):=by kernel_rfl
abbrev aEa:List (Ty×Bool):=[(K13,false),(.int .i64,false),(.str,false)]
def oV (a:D13)(b:Int)(name:ByteArray):=bj uV F uW f126 aEa gB 2 (a,b,name,())
def ahP (a:D13)(b:Int)(name:ByteArray):oV F a b name=oC F (px F) F.n (kW a b name 0 0 ak []):=by kernel_rfl
def py:Any:=.one ⟨aEa,gB,2,fun x=>oV F0 x.1 x.2.1 x.2.2.1⟩
def CD:a1 126 py:=aq uV ⟨oB,trivial⟩ func126 uW (by kernel_rfl)
def r3:Nat->Option Hint:=look [(3,{live:=[0,1,2],yh:=[(0,0,3,.int .i64),(0,1,3,.int .i64),(1,0,3,.int .i64)],xl:=[0,1],rl:=[0]})]
def gi (i:Int)(d a b c:List Int):= cQ 15 [b0 0,b0 1,(2,a8 i)] [(0,[.own 1000000 none,.own 1000001 none]),(1,[.own 1000002 none,.own 1000003 none])] [ay 1000000 3 (.int .i64) d,ay 1000001 3 (.int .i64) a,ay 1000002 3 (.int .i64) b,ay 1000003 3 (.int .i64) c]
def Hs (d a b c:List Int):= cQ 15 [b0 0,b0 1] [(0,[.own 1000000 none,.own 1000001 none]),(1,[.own 1000002 none,.own 1000003 none])] [ay 1000000 3 (.int .i64) d,ay 1000001 3 (.int .i64) a,ay 1000002 3 (.int .i64) b,ay 1000003 3 (.int .i64) c]
def jH (a:St):Option U:=ff aA F r3 [.r,.r,.l,.r,.b,.i] f129 J n a
abbrev nq:List (Ty×Bool):=[(K43,true)]
def jV:=hQ aA F r3 [.r,.r,.l,.r,.b] f129 nq 2
def BS (i:Int)(d b a c:List Int):jH F J (n+1) (gi i d b a c)=br (decide (i<4)) (ck (ep F a.length [100].length 8) (jH F J n (gi (aj (i+1)) d b (a++[100]) c))) (J (.exit 0) (Hs d b a c)):=by kernel_rfl
def WU (d c a b:List Int):jV F (.exit 0) (Hs d c a b)=some ((a,b),()):=by kernel_rfl
def mq: Option (Args nq):=bj aA F r3 f129 [] nq 2 (())
def aeY: mq F= ck (okM F 4 4 8) (jH F (jV F) F.n (gi 0 [] [] [] (List.replicate (4:Int).toNat 0))):=by kernel_rfl
def wo:Any:=.one ⟨[],nq,2,fun x=>mq F0⟩
def Ng:a1 129 wo:=aq aA trivial func129 r3 (by kernel_rfl)
def IL:=[(150,qb)]
def IM:Nat->Option Hint:=look [(4,{live:=[3,4,6],xl:=[3],rl:=[2]})]
def yY (i:Int)(b:List D4)(a:List D6):= cQ 27 [(3,.v (.c (.own 1000000 none))),(4,.v (.c (.own 1000001 none))),(6,a8 i)] [] [ay 1000000 52 K4 b,ay 1000001 157 K6 a]
def TV (a:List D4):= cQ 27 [(3,.v (.c (.own 1000000 none)))] [] [ay 1000000 52 K4 a]
def IN (a:St):Option U:=ff IL F IM [.r,.r,.r,.l,.r,.b,.i] f130 J n a
def KR:=hQ IL F IM [.r,.r,.r,.l,.r,.b] f130 km 2
def Nh (i:Int)(b:List D4)(a:List D6):IN F J (n+1) (yY i b a)=br (decide (i<(a.length:Int))) (ck (bG i (a.length:Int)) (ck (ep F b.length (aI a i (0,[])).2.length 32) (IN F J n (yY (aj (i+1)) (b++(aI a i (0,[])).2) a)))) (J (.exit 0) (TV b)):=by kernel_rfl
def ahQ (a:List D4):KR F (.exit 0) (TV a)=some (a,()):=by kernel_rfl
def wq (s:ByteArray):=bj IL F IM f130 dC km 2 (s,())
def as0 (s:ByteArray):wq F s=(qa F0 s).bind fun a=>IN F (KR F) F.n (yY 0 [] a.1):=by kernel_rfl
def KS:Any:=.one ⟨dC,km,2,fun x=>wq F0 x.1⟩
def aa0:a1 130 KS:=aq IL ⟨DB,trivial⟩ func130 IM (by kernel_rfl)
def q2 (l:D43):=bj aA F ad f196 nq nq 2 (l,())
def ao8 (l:D43):q2 F l=ck (ep F 0 l.1.length 8) (ck (ep F 0 l.2.length 8) (some (([]++l.1,[]++l.2),()))):=by kernel_rfl
def uX:Any:=.one ⟨nq,nq,2,fun x=>q2 F0 x.1⟩
def KT:a1 196 uX:=aq aA trivial func196 ad (by kernel_rfl)
def uY:=[(73,b7)]
def uZ:Nat->Option Hint:=look [(4,{live:=[1,3],rl:=[2]})]
def pz (i:Int)(l a:List Int):= cQ 34 [b0 1,(3,a8 i)] [(1,[.ro false 3 (.int .i64) l,.ro false 3 (.int .i64) a])] []
def yZ (a:Bool):= bP 34 [(2,Ir a)]
def KU   := bP 34 []
def u0 (a:St):Option U:=ff uY F uZ [.r,.r,.l,.r,.b,.i] f253 J n a
def pA:=hQ uY F uZ [.r,.r,.l,.r,.b] f253 aO 1
def Fw (i:Int)(l a:List Int):u0 F J (n+1) (pz i l a)=br (decide (i<4)) (ck (bG i (l.length:Int)) ((bN F0 (aI l i 0) 0 400).bind fun b=>br (!b.1) (J .ret (yZ false)) (ck (bG i (a.length:Int)) ((bN F0 (aI a i 0) 0 100).bind fun c=>br (!c.1) (J .ret (yZ false)) (u0 F J n (pz (aj (i+1)) l a)))))) (J (.exit 0) (KU)):=by kernel_rfl
def KV (a:Bool):pA F .ret (yZ a)=some (a,()):=by kernel_rfl
def ZS: pA F (.exit 0) (KU)=some (true,()):=by kernel_rfl
def tV (l:D43):=bj uY F uZ f253 nq aO 1 (l,())
def ahR (l:D43):tV F l=br ((l.1.length:Int) != 4) (some (false,())) (br ((l.2.length:Int) != 4) (some (false,())) (u0 F (pA F) F.n (pz 0 l.1 l.2))):=by kernel_rfl
def Ni:Any:=.one ⟨nq,aO,1,fun x=>tV F0 x.1⟩
def ahS:a1 253 Ni:=aq uY ⟨cz,trivial⟩ func253 uZ (by kernel_rfl)
def ao9:=[(196,uX),(211,lG),(253,Ni)]
abbrev aEb:List (Ty×Bool):=[(K43,true),(.int .i64,false)]
abbrev aEc:List (Ty×Bool):=[(K43,true),(K4,true)]
def KW (l:D43)(x:D4):=bj ao9 F ad f197 aEc aEb 2 (l,x,())
def azh (l:D43)(x:D4):KW F l x=(q2 F0 l).bind fun a=>(tV F0 l).bind fun b=>br (!b.1) (some (a.1,1,())) ((rT F0 x).bind fun c=>br (!c.1) (some (a.1,1,())) (ck (bG x.1 (l.2.length:Int)) (br (decide (x.2.2.2<(aI l.2 x.1 0))) (some (a.1,2,())) (ck (bG x.1 (l.2.length:Int)) (br (decide (x.2.2.2>(aI l.2 x.1 0))) (some (a.1,3,())) (ck (bG x.1 (a.1.2.length:Int)) (ck (bG x.1 (l.1.length:Int)) (br (decide (x.2.2.1>(aI l.1 x.1 0))) (some ((a.1.1,a.1.2.set x.1.toNat (aj (x.2.2.2+1))),4,())) (ck (bG x.1 (a.1.1.length:Int)) (ck (bG x.1 (a.1.1.length:Int)) (ck (bG x.2.1 ((a.1.1.set x.1.toNat (aj ((aI a.1.1 x.1 0)-x.2.2.1))).length:Int)) (ck (bG x.2.1 ((a.1.1.set x.1.toNat (aj ((aI a.1.1 x.1 0)-x.2.2.1))).length:Int)) ((tV F0 ((a.1.1.set x.1.toNat (aj ((aI a.1.1 x.1 0)-x.2.2.1))).set x.2.1.toNat (aj ((aI (a.1.1.set x.1.toNat (aj ((aI a.1.1 x.1 0)-x.2.2.1))) x.2.1 0)+x.2.2.1)),a.1.2.set x.1.toNat (aj (x.2.2.2+1)))).bind fun d=>br (!d.1) ((q2 F0 l).bind fun e=>some (e.1,1,())) (some (((a.1.1.set x.1.toNat (aj ((aI a.1.1 x.1 0)-x.2.2.1))).set x.2.1.toNat (aj ((aI (a.1.1.set x.1.toNat (aj ((aI a.1.1 x.1 0)-x.2.2.1))) x.2.1 0)+x.2.2.1)),a.1.2.set x.1.toNat (aj (x.2.2.2+1))),0,()))))))))))))))):=by kernel_rfl
def IP:Any:=.one ⟨aEc,aEb,2,fun x=>KW F0 x.1 x.2.1⟩
def WV:a1 197 IP:=aq ao9 ⟨KT,rU,ahS,trivial⟩ func197 ad (by kernel_rfl)
def DM:=[(196,uX),(197,IP)]
def DN:Nat->Option Hint:=look [(4,{live:=[1,4,6,7,8],yh:=[(4,0,3,.int .i64),(4,1,3,.int .i64)],xl:=[4,6,7],rl:=[4,5]})]
def u1 (e:List D4)(i:Int)(f a b c d:List Int):= cQ 36 [(1,hV 52 (K4) e),b0 4,b0 6,(7,.v (.c (.own 1000000 none))),(8,a8 i)] [(4,[.own 1000001 none,.own 1000002 none]),(6,[.own 1000003 none,.own 1000004 none])] [ay 1000000 3 (.int .i64) f,ay 1000001 3 (.int .i64) a,ay 1000002 3 (.int .i64) b,ay 1000003 3 (.int .i64) c,ay 1000004 3 (.int .i64) d]
def Qn (e a b c d:List Int):= cQ 36 [b0 4,b0 6,(7,.v (.c (.own 1000000 none)))] [(4,[.own 1000001 none,.own 1000002 none]),(6,[.own 1000003 none,.own 1000004 none])] [ay 1000000 3 (.int .i64) e,ay 1000001 3 (.int .i64) a,ay 1000002 3 (.int .i64) b,ay 1000003 3 (.int .i64) c,ay 1000004 3 (.int .i64) d]
def DO (a:St):Option U:=ff DM F DN [.r,.r,.r,.l,.r,.b,.i] f128 J n a
abbrev auB:List (Ty×Bool):=[(K43,true),(.sl 3 (.int .i64),false)]
def GG:=hQ DM F DN [.r,.r,.r,.l,.r,.b] f128 auB 2
def KX (a:List D4)(i:Int)(c d e f g:List Int):DO F J (n+1) (u1 a i c d e f g)=br (decide (i<(a.length:Int))) (ck (bG i (a.length:Int)) ((KW F0 (f,g) (aI a i K4.az)).bind fun b=>ck (ep F c.length [b.2.1].length 8) (DO F J n (u1 a (aj (i+1)) (c++[b.2.1]) d e b.1.1 b.1.2)))) (J (.exit 0) (Qn c d e f g)):=by kernel_rfl
def aeZ (c d e a b:List Int):GG F (.exit 0) (Qn c d e a b)=some ((a,b),c,()):=by kernel_rfl
abbrev aEd:List (Ty×Bool):=[(K43,true),(K5,false)]
def w6 (l:D43)(a:D5):=bj DM F DN f128 aEd auB 2 (l,a,())
def apa (l:D43)(b:D5):w6 F l b=(q2 F0 l).bind fun a=>DO F (GG F) F.n (u1 b 0 [] [] [] a.1.1 a.1.2):=by kernel_rfl
def GH:Any:=.one ⟨aEd,auB,2,fun x=>w6 F0 x.1 x.2.1⟩
def WW:a1 128 GH:=aq DM ⟨KT,WV,trivial⟩ func128 DN (by kernel_rfl)
def u2:=[(196,uX),(197,IP)]
def u3:Nat->Option Hint:=look [(4,{live:=[0,5,6,7],xl:=[5],rl:=[4]})]
def hY (p:List D4)(i:Int)(c:List D4)(a b:List Int):= cQ 48 [(0,hV 52 (K4) p),(5,.v (.c (.own 1000000 none))),b0 6,(7,a8 i)] [(6,[.own 1000001 none,.own 1000002 none])] [ay 1000000 52 K4 c,ay 1000001 3 (.int .i64) a,ay 1000002 3 (.int .i64) b]
def wu (a:List D4):= cQ 48 [(5,.v (.c (.own 1000000 none)))] [] [ay 1000000 52 K4 a]
def kz (a:St):Option U:=ff u2 F u3 [.r,.r,.r,.l,.r,.b,.i] f132 J n a
def y0:=hQ u2 F u3 [.r,.r,.r,.l,.r,.b] f132 km 2
def Fx (p:List D4)(i:Int)(a:List D4)(c d:List Int):kz F J (n+1) (hY p i a c d)=br (decide (i<(p.length:Int))) (br (decide ((a.length:Int)<2)) (ck (bG i (p.length:Int)) ((KW F0 (c,d) (aI p i K4.az)).bind fun b=>br (b.2.1==0) (ck (bG i (p.length:Int)) (ck (ep F a.length [(aI p i K4.az)].length 32) (kz F J n (hY p (aj (i+1)) (a++[(aI p i K4.az)]) b.1.1 b.1.2)))) (br (b.2.1==4) (ck (bG i (p.length:Int)) (ck (ep F a.length [(aI p i K4.az)].length 32) (kz F J n (hY p (aj (i+1)) (a++[(aI p i K4.az)]) b.1.1 b.1.2)))) (kz F J n (hY p (aj (i+1)) a c d))))) (J (.exit 0) (wu a))) (J (.exit 0) (wu a)):=by kernel_rfl
def Ht (a:List D4):y0 F (.exit 0) (wu a)=some (a,()):=by kernel_rfl
abbrev akp:List (Ty×Bool):=[(K5,false),(K43,true)]
def oW (p:D5)(l:D43):=bj u2 F u3 f132 akp km 2 (p,l,())
def ahT (p:D5)(l:D43):oW F p l=(q2 F0 l).bind fun a=>kz F (y0 F) F.n (hY p 0 [] a.1.1 a.1.2):=by kernel_rfl
def Nj:Any:=.one ⟨akp,km,2,fun x=>oW F0 x.1 x.2.1⟩
def ahU:a1 132 Nj:=aq u2 ⟨KT,WV,trivial⟩ func132 u3 (by kernel_rfl)
def y1:=[(211,lG),(295,Gy)]
def y3:Nat->Option Hint:=look [(3,{live:=[0,3,4],xl:=[3],rl:=[2]})]
def mr (a:List D4)(b:ByteArray)(i:Int):= bP 29 [(0,hV 52 (K4) a),(3,qqs b),(4,a8 i)]
def Qo (a:ByteArray):= bP 29 [(2,qqs a)]
def Nk (a:ByteArray):= bP 29 [(3,qqs a)]
def q3 (a:St):Option U:=ff y1 F y3 [.r,.r,.l,.r,.b,.i] f255 J n a
def r4:=hQ y1 F y3 [.r,.r,.l,.r,.b] f255 dC 1
def Hu (a:List D4)(b:ByteArray)(i:Int):q3 F J (n+1) (mr a b i)=br (decide (i<(a.length:Int))) (ck (bG i (a.length:Int)) ((rT F0 (aI a i K4.az)).bind fun d=>br (!d.1) (J .ret (Qo ak)) (br (decide (i>0)) (ck (Vo F b.size (ByteArray.mk #[44]).size) (ck (bG i (a.length:Int)) ((wZ F0 (aI a i K4.az)).bind fun c=>ck (Vo F (b++(ByteArray.mk #[44])).size c.1.size) (q3 F J n (mr a ((b++(ByteArray.mk #[44]))++c.1) (aj (i+1))))))) (ck (bG i (a.length:Int)) ((wZ F0 (aI a i K4.az)).bind fun c=>ck (Vo F b.size c.1.size) (q3 F J n (mr a (b++c.1) (aj (i+1))))))))) (J (.exit 0) (Nk b)):=by kernel_rfl
def ae0 (a:ByteArray):r4 F .ret (Qo a)=some (a,()):=by kernel_rfl
def acP (a:ByteArray):r4 F (.exit 0) (Nk a)=some (a,()):=by kernel_rfl
def IQ (a:D5):=bj y1 F y3 f255 km dC 1 (a,())
def al0 (a:D5):IQ F a=q3 F (r4 F) F.n (mr a ak 0):=by kernel_rfl
def Qp:Any:=.one ⟨km,dC,1,fun x=>IQ F0 x.1⟩
def al1:a1 255 Qp:=aq y1 ⟨rU,Wy,trivial⟩ func255 y3 (by kernel_rfl)
def DP:=[(78,eQ),(211,lG),(254,ux),(255,Qp)]
def DQ:Nat->Option Hint:=look [(2,{live:=[0,1,2,7],xl:=[0,1,2],rl:=[6]})]
def u4 (a:ByteArray)(b:Int)(c:List D4)(i:Int):= bP 34 [(0,qqs a),(1,a8 b),(2,hV 52 (K4) c),(7,a8 i)]
def TW (a:ByteArray):= bP 34 [(6,qqs a)]
def Qq (a:ByteArray)(b:Int)(c:List D4):= bP 34 [(0,qqs a),(1,a8 b),(2,hV 52 (K4) c)]
def DR (a:St):Option U:=ff DP F DQ [.r,.l,.r,.b,.i] f198 J n a
def u5:=hQ DP F DQ [.r,.l,.r,.b] f198 dC 1
def KY (b:ByteArray)(c:Int)(a:List D4)(i:Int):DR F J (n+1) (u4 b c a i)=br (decide (i<(a.length:Int))) (ck (bG i (a.length:Int)) ((rT F0 (aI a i K4.az)).bind fun d=>br (!d.1) (J .ret (TW ak)) (DR F J n (u4 b c a (aj (i+1)))))) (J (.exit 0) (Qq b c a)):=by kernel_rfl
def ahV (a:ByteArray):u5 F .ret (TW a)=some (a,()):=by kernel_rfl
def ae1 (a:ByteArray)(d:Int)(e:List D4):u5 F (.exit 0) (Qq a d e)=ck (Vo F a.size (ByteArray.mk #[47]).size) ((kR F0 d).bind fun b=>ck (Vo F (a++(ByteArray.mk #[47])).size b.1.size) (ck (Vo F ((a++(ByteArray.mk #[47]))++b.1).size (ByteArray.mk #[124]).size) ((IQ F0 e).bind fun c=>ck (Vo F (((a++(ByteArray.mk #[47]))++b.1)++(ByteArray.mk #[124])).size c.1.size) ((e6 F0 ((((a++(ByteArray.mk #[47]))++b.1)++(ByteArray.mk #[124]))++c.1)).bind fun f=>br (!f.1) (some (ak,())) (some ((((a++(ByteArray.mk #[47]))++b.1)++(ByteArray.mk #[124]))++c.1,())))))):=by kernel_rfl
abbrev aEe:List (Ty×Bool):=[(.str,false),(.int .i64,false),(K5,false)]
def aa1 (a:ByteArray)(b:Int)(c:D5):=bj DP F DQ f198 aEe dC 1 (a,b,c,())
def WX:∃f,f= @aa1:=⟨_,rfl⟩
def kX:=Classical.choose WX
def TX: @kX= @aa1:=PN WX
def apb (a:ByteArray)(b:Int)(c:D5):kX F a b c=DR F (u5 F) F.n (u4 a b c 0):=by rw[TX];kernel_rfl
def GI:Any:=.one ⟨aEe,dC,1,fun x=>kX F0 x.1 x.2.1 x.2.2.1⟩
def WY:a1 198 GI:=ok1 (show ym Tryz.prog TB DP from⟨gW,rU,KB,al1,trivial⟩) func198 (by kernel_rfl) (by kernel_rfl) DQ (by rw[TX];kernel_rfl)
def TY:=[(79,df),(136,ik),(198,GI),(199,ma)]
abbrev azi:List (Ty×Bool):=[(K1,true),(K9,true),(.int .i64,false),(K5,false)]
abbrev ae2:List (Ty×Bool):=[(K15,true),(.bool,false)]
def oX (c:D1)(q:D9)(a:Int)(b:D5):=bj TY F ad f131 azi ae2 2 (c,q,a,b,())
def ahW (c:D1)(q:D9)(b:Int)(e:D5):oX F c q b e=(kX F0 q.2.1 b e).bind fun a=>(jw F0 q).bind fun d=>(nE F0 c (a.1,d.1)).bind fun f=>br (!f.1) (some ((ak,0,ak,[]),false,())) ((dt F0 a.1).bind fun g=>br (g.1 != b) (some ((ak,0,ak,[]),false,())) (some ((a.1,d.1),true,()))):=by kernel_rfl
def y4:Any:=.one ⟨azi,ae2,2,fun x=>oX F0 x.1 x.2.1 x.2.2.1 x.2.2.2.1⟩
def Qr:a1 131 y4:=aq TY ⟨eJ,mi,WY,uF,trivial⟩ func131 ad (by kernel_rfl)
def apc:=[(74,cp),(125,jx),(126,py),(127,uA),(128,GH),(129,wo),(130,KS),(131,y4),(132,Nj)]
def WZ (c:D1)(r:a7):=bj apc F ad f67 x8 ae2 2 (c,r,())
def azj (c:D1)(r:a7):WZ F c r=(dw F0 c r).bind fun g=>br (!g.1) (some ((ak,0,ak,[]),false,())) ((mo F0 c r.2.1).bind fun h=>br (h.1 != r.1) (some ((ak,0,ak,[]),false,())) (br (decide (r.2.2.1>=r.2.1)) (some ((ak,0,ak,[]),false,())) ((oV F0 r.2.2.2.2.2.1 r.2.1 ak).bind fun i=>br (r.2.2.2.1.2.2.1.1 != (aj (r.2.1-1))) ((w2 F0 c).bind fun j=>br (decide ((i.1.2.2.length:Int)<j.1)) (some ((ak,0,ak,[]),false,())) ((mq F0).bind fun b=>(wq F0 r.2.2.2.1.2.2.1.2.1).bind fun d=>(w6 F0 b.1 d.1).bind fun e=>(oW F0 r.2.2.2.2.1 e.1).bind fun f=>(oX F0 c r.2.2.2.1.2.2.1 r.2.1 f.1).bind fun a=>some (a.1,a.2.1,()))) ((mq F0).bind fun b=>(wq F0 r.2.2.2.1.2.2.1.2.1).bind fun d=>(w6 F0 b.1 d.1).bind fun e=>(oW F0 r.2.2.2.2.1 e.1).bind fun f=>(oX F0 c r.2.2.2.1.2.2.1 r.2.1 f.1).bind fun a=>some (a.1,a.2.1,()))))):=by kernel_rfl
def Sx:Any:=.one ⟨x8,ae2,2,fun x=>WZ F0 x.1 x.2.1⟩
def akq:a1 67 Sx:=aq apc ⟨cT,nH,CD,KD,WW,Ng,aa0,Qr,ahU,trivial⟩ func67 ad (by kernel_rfl)
def DS:Nat->Option Hint:=look [(2,{live:=[0,1,5],rl:=[4]})]
def u6 (s:List Int)(i k:Int):= bP 18 [(0,hV 3 (.int .i64) s),(1,a8 i),(5,a8 k)]
def TZ (a:Bool):= bP 18 [(4,Ir a)]
def Qs   := bP 18 []
def DT (a:St):Option U:=ff aA F DS [.r,.l,.r,.b,.i] f68 J n a
def u7:=hQ aA F DS [.r,.l,.r,.b] f68 aO 1
def KZ (s:List Int)(i k:Int):DT F J (n+1) (u6 s i k)=br (decide (k<(s.length:Int))) (ck (bG k (s.length:Int)) (br ((aI s k 0)==i) (J .ret (TZ true)) (DT F J n (u6 s i (aj (k+1)))))) (J (.exit 0) (Qs)):=by kernel_rfl
def ahX (a:Bool):u7 F .ret (TZ a)=some (a,()):=by kernel_rfl
def ae3: u7 F (.exit 0) (Qs)=some (false,()):=by kernel_rfl
abbrev acQ:List (Ty×Bool):=[(.sl 3 (.int .i64),false),(.int .i64,false)]
def cW (s:List Int)(i:Int):=bj aA F DS f68 acQ aO 1 (s,i,())
def apd (s:List Int)(i:Int):cW F s i=DT F (u7 F) F.n (u6 s i 0):=by kernel_rfl
def cL:Any:=.one ⟨acQ,aO,1,fun x=>cW F0 x.1 x.2.1⟩
def dL:a1 68 cL:=aq aA trivial func68 DS (by kernel_rfl)
def K0:=[(25,eh),(62,nC)]
def mu (c:D2):=Fl K0 F ad f69 jR 0 .cur aaG jR 1 (c,())
def ZT (c:D2):mu F c=(av F0 c 4).bind fun a=>(av F0 a.2.1 4).bind fun b=>(jS F0 b.2.1 [0,5,60,100,1000]).bind fun d=>(av F0 d.2.1 3).bind fun e=>some (((a.1.1,b.1.1,d.1.1,e.1.1),()),e.2.1,()):=by kernel_rfl
def q4:Any:=.two ⟨jR,0,.cur,aaG,1,jR,fun x=>mu F0 x.1⟩
def Hv:a1 69 q4:=Wt K0 ⟨fW,yq,trivial⟩ func69 ad (by kernel_rfl)
def bK (a b:Int):=bj aA F ad f71 auy cE 1 (a,b,())
def as1 (a b:Int):bK F a b=br (decide (a<b)) (some (a,())) (some (b,())):=by kernel_rfl
def jW:Any:=.one ⟨auy,cE,1,fun x=>bK F0 x.1 x.2.1⟩
def oY:a1 71 jW:=aq aA trivial func71 ad (by kernel_rfl)
def DU:=[(68,cL)]
def DV:Nat->Option Hint:=look [(4,{live:=[0,1,5],xl:=[0,1,5],rl:=[4]})]
def u9 (s:List Int)(i a:Int):= bP 41 [(0,hV 3 (.int .i64) s),(1,a8 i),(5,a8 a)]
def r5 (s:List Int)(i a:Int):= bP 41 [(0,hV 3 (.int .i64) s),(1,a8 i),(5,a8 a)]
def DW (a:St):Option U:=ff DU F DV [.r,.r,.r,.l,.b,.i] f201 J n a
def va:=hQ DU F DV [.r,.r,.r,.l,.b] f201 kr 2
def La (s:List Int)(i a:Int):DW F J (n+1) (u9 s i a)=br (decide (a<(s.length:Int))) (ck (bG a (s.length:Int)) (br (decide ((aI s a 0)<i)) (DW F J n (u9 s i (aj (a+1)))) (J (.exit 0) (r5 s i a)))) (J (.exit 0) (r5 s i a)):=by kernel_rfl
def ae4 (s:List Int)(i a:Int):va F (.exit 0) (r5 s i a)=ck (Tx 0 a (s.length:Int)) (ck (ep F 0 ((s.take a.toNat).drop (0:Int).toNat).length 8) (ck (ep F ([]++((s.take a.toNat).drop (0:Int).toNat)).length [i].length 8) (ck (Tx a (s.length:Int) (s.length:Int)) (ck (ep F (([]++((s.take a.toNat).drop (0:Int).toNat))++[i]).length ((s.take (s.length:Int).toNat).drop a.toNat).length 8) (some ((([]++((s.take a.toNat).drop (0:Int).toNat))++[i])++((s.take (s.length:Int).toNat).drop a.toNat),())))))):=by kernel_rfl
def w7 (s:List Int)(i:Int):=bj DU F DV f201 acQ kr 2 (s,i,())
def ape (s:List Int)(i:Int):w7 F s i=(cW F0 s i).bind fun a=>br a.1 (ck (ep F 0 s.length 8) (some ([]++s,()))) (DW F (va F) F.n (u9 s i 0)):=by kernel_rfl
def GJ:Any:=.one ⟨acQ,kr,2,fun x=>w7 F0 x.1 x.2.1⟩
def W0:a1 201 GJ:=aq DU ⟨dL,trivial⟩ func201 DV (by kernel_rfl)
end
end Go.Am.Tryz
namespace Go.Am.Tryz
open Go.Am Go.Proofs Go.Proofs.Tryz
noncomputable section
variable {U:Type} (F:p5) (J:Ex->St->Option U) (n:Nat)
def lW:=[(25,eh),(63,ou),(71,jW),(198,GI),(200,tT),(201,GJ)]
def lX:Nat->Option Hint:=look [(11,{live:=[3,4,5,6,7,9],yh:=[(4,5,3,.int .i64),(4,8,3,.int .i64),(4,11,3,.int .i64)],xl:=[4,5,6,7],rl:=[4]})]
def ct (r:Int)(name:ByteArray)(i:Int)(a:List Int)(b c w d:Int)(e:List Int)(f:List a7)(g:List bS)(h:List bE)(s t:Int)(u:ByteArray)(v:Int)(x:ByteArray)(y:Int)(z:ByteArray)(A:Int)(B:ByteArray)(C j k l m:Int)(D o p q:List Int):St:={nt:=89,tm:=[b0 3,b0 4,(5,a8 r),(6,qqs name),(7,.v (.c (.own 1000000 none))),(9,a8 i)],bx:=[(4000000,[.ro true 5 (.int .u8) a,ao b,ao c]),(3,[ao w,ao d,.ro false 3 (.int .i64) e,.ro false 65 (ca) f,.ro false 105 (eo) g,.ro false 41 (cl) h]),(4,[ao s,ao t,.str u,ao v,.str x,.own 1000001 none,ao y,.str z,.own 1000002 none,ao A,.str B,.own 1000003 none,ao C,ao j,ao k,ao l,ao m])],bl:=[ay 1000000 3 (.int .i64) D,ay 1000001 3 (.int .i64) o,ay 1000002 3 (.int .i64) p,ay 1000003 3 (.int .i64) q],sp:=.v (.c (.ptr 4000000 0))}
def y5 (k:Int)(name:ByteArray)(a:List Int)(b c l m:Int)(o:ByteArray)(p:Int)(q:ByteArray)(r:Int)(s:ByteArray)(t:Int)(u:ByteArray)(v d e f g:Int)(w h i j:List Int):St:={nt:=89,tm:=[b0 4,(5,a8 k),(6,qqs name),(7,.v (.c (.own 1000000 none)))],bx:=[(4000000,[.ro true 5 (.int .u8) a,ao b,ao c]),(4,[ao l,ao m,.str o,ao p,.str q,.own 1000001 none,ao r,.str s,.own 1000002 none,ao t,.str u,.own 1000003 none,ao v,ao d,ao e,ao f,ao g])],bl:=[ay 1000000 3 (.int .i64) w,ay 1000001 3 (.int .i64) h,ay 1000002 3 (.int .i64) i,ay 1000003 3 (.int .i64) j],sp:=.v (.c (.ptr 4000000 0))}
def cK (a:St):Option U:=ff lW F lX [.r,.r,.r,.r,.r,.l,.r,.b,.i] f133 J n a
def eE:=azd lW F lX [.r,.r,.r,.r,.r,.l,.r,.b] f133 .cur w5 jR 2
def tW (b:Int)(name:ByteArray)(i:Int)(c:List Int)(d e w A:Int)(B:List Int)(C:List a7)(D:List bS)(a:List bE)(o p:Int)(q:ByteArray)(r:Int)(s:ByteArray)(t:Int)(u:ByteArray)(v:Int)(x:ByteArray)(y f g h j:Int)(z k l m:List Int):cK F J (n+1) (ct b name i c d e w A B C D a o p q r s t u v x y f g h j z k l m)=br (decide (i<(a.length:Int))) (ck (bG i (a.length:Int)) (br ((aI a i cl.az).1==b) (ck (bG i (a.length:Int)) (br ((aI a i cl.az).2.1.toList==name.toList) (ck (bG i (a.length:Int)) ((w7 F0 z (aI a i cl.az).2.2).bind fun E=>cK F J n (ct b name (aj (i+1)) c d e w A B C D a o p q r s t u v x y f g h j E.1 k l m))) (cK F J n (ct b name (aj (i+1)) c d e w A B C D a o p q r s t u v x y f g h j z k l m)))) (cK F J n (ct b name (aj (i+1)) c d e w A B C D a o p q r s t u v x y f g h j z k l m)))) (J (.exit 0) (y5 b name c d e o p q r s t u v x y f g h j z k l m)):=by kernel_rfl
def Qt (d:Int)(name:ByteArray)(a:List Int)(b c m o:Int)(p:ByteArray)(q:Int)(r:ByteArray)(s:Int)(t:ByteArray)(u:Int)(v:ByteArray)(w f g h i:Int)(e j k l:List Int):eE F (.exit 0) (y5 d name a b c m o p q r s t u v w f g h i e j k l)=some (((2,0,(ak,0,ak,[]),(d,name,e),(0,ak,[]),0,0,0,0,0),()),(a,b,c),()):=by kernel_rfl
abbrev auC:List (Ty×Bool):=[(K2,true),(hU,true)]
def pB (c:D2)(w:lE):=Fl lW F lX f133 auC 0 .cur w5 jR 2 (c,w,())
def W2 (c:D2)(w:lE):pB F c w=(av F0 c 4).bind fun d=>(kX F0 ak (aj (1+d.1.1)) []).bind fun e=>ck (ep F 0 w.2.1.length 8) (br (decide ((w.2.2.2.2.length:Int)>0)) ((bK F0 (w.2.2.2.2.length:Int) 8).bind fun f=>(av F0 d.2.1 f.1).bind fun a=>ck (bG (aj ((aj ((w.2.2.2.2.length:Int)-1))-a.1.1)) (w.2.2.2.2.length:Int)) ((nm F0 a.2.1 3).bind fun b=>br b.1.1 ((l9 F0 (aI w.2.2.2.2 (aj ((aj ((w.2.2.2.2.length:Int)-1))-a.1.1)) cl.az).2.1).bind fun g=>(kX F0 g.1 (aI w.2.2.2.2 (aj ((aj ((w.2.2.2.2.length:Int)-1))-a.1.1)) cl.az).1 [(1,0,1,0)]).bind fun h=>cK F (eE F) F.n (ct (aI w.2.2.2.2 (aj ((aj ((w.2.2.2.2.length:Int)-1))-a.1.1)) cl.az).1 h.1 0 b.2.1.1 b.2.1.2.1 b.2.1.2.2 w.1.1 w.1.2 w.2.1 w.2.2.1 w.2.2.2.1 w.2.2.2.2 0 0 ak 0 ak 0 ak 0 ak 0 0 0 0 0 ([]++w.2.1) [] [] [])) (cK F (eE F) F.n (ct (aI w.2.2.2.2 (aj ((aj ((w.2.2.2.2.length:Int)-1))-a.1.1)) cl.az).1 (aI w.2.2.2.2 (aj ((aj ((w.2.2.2.2.length:Int)-1))-a.1.1)) cl.az).2.1 0 b.2.1.1 b.2.1.2.1 b.2.1.2.2 w.1.1 w.1.2 w.2.1 w.2.2.1 w.2.2.2.1 w.2.2.2.2 0 0 ak 0 ak 0 ak 0 ak 0 0 0 0 0 ([]++w.2.1) [] [] [])))) (cK F (eE F) F.n (ct (aj (1+d.1.1)) e.1 0 d.2.1.1 d.2.1.2.1 d.2.1.2.2 w.1.1 w.1.2 w.2.1 w.2.2.1 w.2.2.2.1 w.2.2.2.2 0 0 ak 0 ak 0 ak 0 ak 0 0 0 0 0 ([]++w.2.1) [] [] []))):=by kernel_rfl
def BU:Any:=.two ⟨auC,0,.cur,w5,2,jR,fun x=>pB F0 x.1 x.2.1⟩
def W3:a1 133 BU:=Wt lW ⟨fW,yr,oY,WY,IG,W0,trivial⟩ func133 lX (by kernel_rfl)
def IS: Option (Args gB):=bj aA F ad f135 [] gB 2 (())
def al2: IS F= some ((0,ak,[]),()):=by kernel_rfl
def Qu:Any:=.one ⟨[],gB,2,fun x=>IS F0⟩
def al3:a1 135 Qu:=aq aA trivial func135 ad (by kernel_rfl)
def pC:=[(25,eh),(63,ou),(69,q4),(71,jW),(125,jx),(131,y4),(133,BU),(134,gG),(135,Qu),(136,ik)]
def pD:Nat->Option Hint:=look [(17,{live:=[0,3,4,6,7,8,9],yh:=[(4,5,3,.int .i64),(4,8,3,.int .i64),(4,11,3,.int .i64)],xl:=[0,3,4,6,8],rl:=[4]})]
def bn (cw t k:Int)(a:List Int)(b c w d:Int)(e:List Int)(f:List a7)(g:List bS)(h:List bE)(u v:Int)(x:ByteArray)(y:Int)(z:ByteArray)(A:Int)(B:ByteArray)(C:Int)(D:ByteArray)(E i j l m q:Int)(o:ByteArray)(G p r s:List Int):St:={nt:=115,tm:=[(0,.v (.c (.ptr 4000000 0))),b0 3,b0 4,b0 6,(7,a8 cw),(8,a8 t),(9,a8 k)],bx:=[(4000000,[.ro true 5 (.int .u8) a,ao b,ao c]),(3,[ao w,ao d,.ro false 3 (.int .i64) e,.ro false 65 (ca) f,.ro false 105 (eo) g,.ro false 41 (cl) h]),(4,[ao u,ao v,.str x,ao y,.str z,.own 1000000 none,ao A,.str B,.own 1000001 none,ao C,.str D,.own 1000002 none,ao E,ao i,ao j,ao l,ao m]),(6,[ao q,.str o,.own 1000003 none])],bl:=[ay 1000000 3 (.int .i64) G,ay 1000001 3 (.int .i64) p,ay 1000002 3 (.int .i64) r,ay 1000003 3 (.int .i64) s],sp:=.v (.c (.ptr 4000000 0))}
def ha (s:Int)(a:List Int)(b c w d:Int)(e:List Int)(f:List a7)(g:List bS)(h:List bE)(t u:Int)(v:ByteArray)(x:Int)(y:ByteArray)(z:Int)(A:ByteArray)(B:Int)(C:ByteArray)(D i j k l q:Int)(m:ByteArray)(E o p r:List Int):St:={nt:=115,tm:=[(0,.v (.c (.ptr 4000000 0))),b0 3,b0 4,b0 6,(8,a8 s)],bx:=[(4000000,[.ro true 5 (.int .u8) a,ao b,ao c]),(3,[ao w,ao d,.ro false 3 (.int .i64) e,.ro false 65 (ca) f,.ro false 105 (eo) g,.ro false 41 (cl) h]),(4,[ao t,ao u,.str v,ao x,.str y,.own 1000000 none,ao z,.str A,.own 1000001 none,ao B,.str C,.own 1000002 none,ao D,ao i,ao j,ao k,ao l]),(6,[ao q,.str m,.own 1000003 none])],bl:=[ay 1000000 3 (.int .i64) E,ay 1000001 3 (.int .i64) o,ay 1000002 3 (.int .i64) p,ay 1000003 3 (.int .i64) r],sp:=.v (.c (.ptr 4000000 0))}
def bL (a:St):Option U:=ff pC F pD [.r,.r,.r,.r,.r,.r,.r,.r,.l,.r,.b,.i] f70 J n a
def bo:=azd pC F pD [.r,.r,.r,.r,.r,.r,.r,.r,.l,.r,.b] f70 .cur w5 jR 2
def y6 (cw a k:Int)(c:List Int)(d e w b:Int)(f:List Int)(g:List a7)(h:List bS)(i:List bE)(u v:Int)(x:ByteArray)(y:Int)(z:ByteArray)(A:Int)(B:ByteArray)(C:Int)(D:ByteArray)(E j l m o q:Int)(p:ByteArray)(G r s t:List Int):bL F J (n+1) (bn cw a k c d e w b f g h i u v x y z A B C D E j l m o q p G r s t)=br (decide (k<7)) (br (decide (a<60)) ((mo F0 (w,b) a).bind fun H=>br (H.1 != cw) (bL F J n (bn cw (aj (a+1)) (aj (k+1)) c d e w b f g h i u v x y z A B C D E j l m o q p G r s t)) (J (.exit 1) (ha a c d e w b f g h i u v x y z A B C D E j l m o q p G r s t))) (J (.exit 1) (ha a c d e w b f g h i u v x y z A B C D E j l m o q p G r s t))) (J (.exit 1) (ha a c d e w b f g h i u v x y z A B C D E j l m o q p G r s t)):=by kernel_rfl
def Vu (h:Int)(a:List Int)(b c w d:Int)(i:List Int)(j:List a7)(k:List bS)(l:List bE)(v x:Int)(y:ByteArray)(z:Int)(A:ByteArray)(B:Int)(C:ByteArray)(D:Int)(E:ByteArray)(G m o p r q:Int)(e:ByteArray)(H s t f:List Int):bo F (.exit 1) (ha h a b c w d i j k l v x y z A B C D E G m o p r q e H s t f)=(mu F0 (a,b,c)).bind fun g=>(oX F0 (w,d) (q,e,f) h [g.1.1]).bind fun u=>some (((1,0,u.1,(0,ak,[]),(0,ak,[]),0,0,0,0,0),()),g.2.1,()):=by kernel_rfl
def il (c:D2)(w:lE):=Fl pC F pD f70 auC 0 .cur w5 jR 2 (c,w,())
def acR (c:D2)(w:lE):il F c w=(pB F0 c w).bind fun b=>(ky F0 w.1 b.1.1.2.2.2.1).bind fun k=>br (!k.1) ((IS F0).bind fun d=>br (decide ((w.2.2.1.length:Int)>0)) ((nm F0 b.2.1 2).bind fun i=>br i.1.1 ((av F0 i.2.1 (w.2.2.1.length:Int)).bind fun j=>ck (bG j.1.1 (w.2.2.1.length:Int)) ((jw F0 (aI w.2.2.1 j.1.1 ca.az).2.2.2.1.2.2.1).bind fun h=>br (decide ((w.2.1.length:Int)>0)) ((av F0 j.2.1 (w.2.1.length:Int)).bind fun f=>ck (bG f.1.1 (w.2.1.length:Int)) ((av F0 f.2.1 4).bind fun a=>br (a.1.1==0) (some ((b.1.1,()),a.2.1,())) (br (a.1.1==1) ((av F0 a.2.1 2).bind fun e=>(bK F0 (aj ((aj (h.1.1+1))+e.1.1)) 60).bind fun g=>some (((3,g.1,(ak,0,ak,[]),(0,ak,[]),h.1,aI w.2.1 f.1.1 0,0,0,0,0),()),e.2.1,())) (bL F (bo F) F.n (bn (aI w.2.1 f.1.1 0) (aj (h.1.1+1)) 0 a.2.1.1 a.2.1.2.1 a.2.1.2.2 w.1.1 w.1.2 w.2.1 w.2.2.1 w.2.2.2.1 w.2.2.2.2 0 0 ak 0 ak 0 ak 0 ak 0 0 0 0 0 h.1.1 h.1.2.1 [] [] [] h.1.2.2))))) ((av F0 j.2.1 4).bind fun a=>br (a.1.1==0) (some ((b.1.1,()),a.2.1,())) (br (a.1.1==1) ((av F0 a.2.1 2).bind fun e=>(bK F0 (aj ((aj (h.1.1+1))+e.1.1)) 60).bind fun g=>some (((3,g.1,(ak,0,ak,[]),(0,ak,[]),h.1,0,0,0,0,0),()),e.2.1,())) (bL F (bo F) F.n (bn 0 (aj (h.1.1+1)) 0 a.2.1.1 a.2.1.2.1 a.2.1.2.2 w.1.1 w.1.2 w.2.1 w.2.2.1 w.2.2.2.1 w.2.2.2.2 0 0 ak 0 ak 0 ak 0 ak 0 0 0 0 0 h.1.1 h.1.2.1 [] [] [] h.1.2.2)))))) (br (decide ((w.2.1.length:Int)>0)) ((av F0 i.2.1 (w.2.1.length:Int)).bind fun f=>ck (bG f.1.1 (w.2.1.length:Int)) ((av F0 f.2.1 4).bind fun a=>br (a.1.1==0) (some ((b.1.1,()),a.2.1,())) (br (a.1.1==1) ((av F0 a.2.1 2).bind fun e=>(bK F0 (aj ((aj (d.1.1+1))+e.1.1)) 60).bind fun g=>some (((3,g.1,(ak,0,ak,[]),(0,ak,[]),d.1,aI w.2.1 f.1.1 0,0,0,0,0),()),e.2.1,())) (bL F (bo F) F.n (bn (aI w.2.1 f.1.1 0) (aj (d.1.1+1)) 0 a.2.1.1 a.2.1.2.1 a.2.1.2.2 w.1.1 w.1.2 w.2.1 w.2.2.1 w.2.2.2.1 w.2.2.2.2 0 0 ak 0 ak 0 ak 0 ak 0 0 0 0 0 d.1.1 d.1.2.1 [] [] [] d.1.2.2))))) ((av F0 i.2.1 4).bind fun a=>br (a.1.1==0) (some ((b.1.1,()),a.2.1,())) (br (a.1.1==1) ((av F0 a.2.1 2).bind fun e=>(bK F0 (aj ((aj (d.1.1+1))+e.1.1)) 60).bind fun g=>some (((3,g.1,(ak,0,ak,[]),(0,ak,[]),d.1,0,0,0,0,0),()),e.2.1,())) (bL F (bo F) F.n (bn 0 (aj (d.1.1+1)) 0 a.2.1.1 a.2.1.2.1 a.2.1.2.2 w.1.1 w.1.2 w.2.1 w.2.2.1 w.2.2.2.1 w.2.2.2.2 0 0 ak 0 ak 0 ak 0 ak 0 0 0 0 0 d.1.1 d.1.2.1 [] [] [] d.1.2.2)))))) (br (decide ((w.2.1.length:Int)>0)) ((av F0 b.2.1 (w.2.1.length:Int)).bind fun f=>ck (bG f.1.1 (w.2.1.length:Int)) ((av F0 f.2.1 4).bind fun a=>br (a.1.1==0) (some ((b.1.1,()),a.2.1,())) (br (a.1.1==1) ((av F0 a.2.1 2).bind fun e=>(bK F0 (aj ((aj (d.1.1+1))+e.1.1)) 60).bind fun g=>some (((3,g.1,(ak,0,ak,[]),(0,ak,[]),d.1,aI w.2.1 f.1.1 0,0,0,0,0),()),e.2.1,())) (bL F (bo F) F.n (bn (aI w.2.1 f.1.1 0) (aj (d.1.1+1)) 0 a.2.1.1 a.2.1.2.1 a.2.1.2.2 w.1.1 w.1.2 w.2.1 w.2.2.1 w.2.2.2.1 w.2.2.2.2 0 0 ak 0 ak 0 ak 0 ak 0 0 0 0 0 d.1.1 d.1.2.1 [] [] [] d.1.2.2))))) ((av F0 b.2.1 4).bind fun a=>br (a.1.1==0) (some ((b.1.1,()),a.2.1,())) (br (a.1.1==1) ((av F0 a.2.1 2).bind fun e=>(bK F0 (aj ((aj (d.1.1+1))+e.1.1)) 60).bind fun g=>some (((3,g.1,(ak,0,ak,[]),(0,ak,[]),d.1,0,0,0,0,0),()),e.2.1,())) (bL F (bo F) F.n (bn 0 (aj (d.1.1+1)) 0 a.2.1.1 a.2.1.2.1 a.2.1.2.2 w.1.1 w.1.2 w.2.1 w.2.2.1 w.2.2.2.1 w.2.2.2.2 0 0 ak 0 ak 0 ak 0 ak 0 0 0 0 0 d.1.1 d.1.2.1 [] [] [] d.1.2.2)))))) (br (decide ((w.2.1.length:Int)>0)) ((av F0 b.2.1 (w.2.1.length:Int)).bind fun f=>ck (bG f.1.1 (w.2.1.length:Int)) ((av F0 f.2.1 4).bind fun a=>br (a.1.1==0) (some ((b.1.1,()),a.2.1,())) (br (a.1.1==1) ((av F0 a.2.1 2).bind fun e=>(bK F0 (aj ((aj (b.1.1.2.2.2.1.1+1))+e.1.1)) 60).bind fun g=>some (((3,g.1,(ak,0,ak,[]),(0,ak,[]),b.1.1.2.2.2.1,aI w.2.1 f.1.1 0,0,0,0,0),()),e.2.1,())) (bL F (bo F) F.n (bn (aI w.2.1 f.1.1 0) (aj (b.1.1.2.2.2.1.1+1)) 0 a.2.1.1 a.2.1.2.1 a.2.1.2.2 w.1.1 w.1.2 w.2.1 w.2.2.1 w.2.2.2.1 w.2.2.2.2 0 0 ak 0 ak 0 ak 0 ak 0 0 0 0 0 b.1.1.2.2.2.1.1 b.1.1.2.2.2.1.2.1 [] [] [] b.1.1.2.2.2.1.2.2))))) ((av F0 b.2.1 4).bind fun a=>br (a.1.1==0) (some ((b.1.1,()),a.2.1,())) (br (a.1.1==1) ((av F0 a.2.1 2).bind fun e=>(bK F0 (aj ((aj (b.1.1.2.2.2.1.1+1))+e.1.1)) 60).bind fun g=>some (((3,g.1,(ak,0,ak,[]),(0,ak,[]),b.1.1.2.2.2.1,0,0,0,0,0),()),e.2.1,())) (bL F (bo F) F.n (bn 0 (aj (b.1.1.2.2.2.1.1+1)) 0 a.2.1.1 a.2.1.2.1 a.2.1.2.2 w.1.1 w.1.2 w.2.1 w.2.2.1 w.2.2.2.1 w.2.2.2.2 0 0 ak 0 ak 0 ak 0 ak 0 0 0 0 0 b.1.1.2.2.2.1.1 b.1.1.2.2.2.1.2.1 [] [] [] b.1.1.2.2.2.1.2.2))))):=by kernel_rfl
def Hw:Any:=.two ⟨auC,0,.cur,w5,2,jR,fun x=>il F0 x.1 x.2.1⟩
def acS:a1 70 Hw:=Wt pC ⟨fW,yr,Hv,oY,nH,Qr,W3,kS,al3,mi,trivial⟩ func70 pD (by kernel_rfl)
def gj:=[(25,eh),(62,nC),(63,ou),(66,gX),(67,Sx),(68,cL),(69,q4),(70,Hw),(71,jW)]
def gk:Nat->Option Hint:=look [(8,{live:=[3,4,5,6,7],yh:=[(4,8,3,.int .i64),(4,11,3,.int .i64),(4,14,3,.int .i64)],xl:=[4,6],rl:=[4]}),(19,{live:=[0,3,4,5,6,10],yh:=[(4,8,3,.int .i64),(4,11,3,.int .i64),(4,14,3,.int .i64)],xl:=[0,3,4,6],rl:=[4]})]
def cX (b a k:Int)(c:List Int)(d e w f:Int)(g:List Int)(h:List a7)(i:List bS)(j:List bE)(v x y z A:Int)(B:ByteArray)(C:Int)(D:ByteArray)(E:Int)(G:ByteArray)(l:Int)(m:ByteArray)(o p q r s:Int)(H t u:List Int):St:={nt:=152,tm:=[(0,.v (.c (.ptr 4000000 0))),b0 3,b0 4,(5,a8 b),(6,a8 a),(10,a8 k)],bx:=[(4000000,[.ro true 5 (.int .u8) c,ao d,ao e]),(3,[ao w,ao f,.ro false 3 (.int .i64) g,.ro false 65 (ca) h,.ro false 105 (eo) i,.ro false 41 (cl) j]),(4,[ao v,ao x,ao y,ao z,ao A,.str B,ao C,.str D,.own 1000000 none,ao E,.str G,.own 1000001 none,ao l,.str m,.own 1000002 none,ao o,ao p,ao q,ao r,ao s])],bl:=[ay 1000000 3 (.int .i64) H,ay 1000001 3 (.int .i64) t,ay 1000002 3 (.int .i64) u],sp:=.v (.c (.ptr 4000000 0))}
def Fy (a:List Int)(b c k l m o p:Int)(q:ByteArray)(r:Int)(s:ByteArray)(t:Int)(u:ByteArray)(d:Int)(e:ByteArray)(f g h i j:Int):St:={nt:=152,tm:=[b0 4],bx:=[(4000000,[.ro true 5 (.int .u8) a,ao b,ao c]),(4,[ao k,ao l,ao m,ao o,ao p,.str q,ao r,.str s,.nil,ao t,.str u,.nil,ao d,.str e,.nil,ao f,ao g,ao h,ao i,ao j])],bl:=[],sp:=.v (.c (.ptr 4000000 0))}
def BV (a:Int)(b:List Int)(c d w e:Int)(f:List Int)(g:List a7)(h:List bS)(i:List bE)(t u v x y:Int)(z:ByteArray)(A:Int)(B:ByteArray)(C:Int)(D:ByteArray)(j:Int)(k:ByteArray)(l m o p q:Int)(E r s:List Int):St:={nt:=152,tm:=[(0,.v (.c (.ptr 4000000 0))),b0 3,b0 4,(6,a8 a)],bx:=[(4000000,[.ro true 5 (.int .u8) b,ao c,ao d]),(3,[ao w,ao e,.ro false 3 (.int .i64) f,.ro false 65 (ca) g,.ro false 105 (eo) h,.ro false 41 (cl) i]),(4,[ao t,ao u,ao v,ao x,ao y,.str z,ao A,.str B,.own 1000000 none,ao C,.str D,.own 1000001 none,ao j,.str k,.own 1000002 none,ao l,ao m,ao o,ao p,ao q])],bl:=[ay 1000000 3 (.int .i64) E,ay 1000001 3 (.int .i64) r,ay 1000002 3 (.int .i64) s],sp:=.v (.c (.ptr 4000000 0))}
def dM (a:St):Option U:=ff gj F gk [.r,.r,.r,.l,.r,.b,.r,.e,.r,.t,.r,.b,.i] f27 J n a
def cY:=azd gj F gk [.r,.r,.r,.l,.r,.b,.r,.e,.r,.t,.r,.b] f27 .cur [(K45,true)] jR 2
def cZ (b a k:Int)(c:List Int)(d e w f:Int)(g:List Int)(h:List a7)(i:List bS)(j:List bE)(v x y z A:Int)(B:ByteArray)(C:Int)(D:ByteArray)(E:Int)(G:ByteArray)(l:Int)(m:ByteArray)(o p q r s:Int)(H t u:List Int):St:={nt:=152,tm:=[b0 3,b0 4,(5,a8 b),(6,a8 a),(7,a8 k)],bx:=[(4000000,[.ro true 5 (.int .u8) c,ao d,ao e]),(3,[ao w,ao f,.ro false 3 (.int .i64) g,.ro false 65 (ca) h,.ro false 105 (eo) i,.ro false 41 (cl) j]),(4,[ao v,ao x,ao y,ao z,ao A,.str B,ao C,.str D,.own 1000000 none,ao E,.str G,.own 1000001 none,ao l,.str m,.own 1000002 none,ao o,ao p,ao q,ao r,ao s])],bl:=[ay 1000000 3 (.int .i64) H,ay 1000001 3 (.int .i64) t,ay 1000002 3 (.int .i64) u],sp:=.v (.c (.ptr 4000000 0))}
def Fz (a:List Int)(b c k l m o p:Int)(q:ByteArray)(r:Int)(s:ByteArray)(t:Int)(u:ByteArray)(d:Int)(e:ByteArray)(f g h i j:Int):St:={nt:=152,tm:=[b0 4],bx:=[(4000000,[.ro true 5 (.int .u8) a,ao b,ao c]),(4,[ao k,ao l,ao m,ao o,ao p,.str q,ao r,.str s,.nil,ao t,.str u,.nil,ao d,.str e,.nil,ao f,ao g,ao h,ao i,ao j])],bl:=[],sp:=.v (.c (.ptr 4000000 0))}
def BW (a:Int)(b:List Int)(c d o p q r s:Int)(t:ByteArray)(u:Int)(v:ByteArray)(w:Int)(x:ByteArray)(e:Int)(f:ByteArray)(g h i j k:Int)(y l m:List Int):St:={nt:=152,tm:=[b0 4,(6,a8 a)],bx:=[(4000000,[.ro true 5 (.int .u8) b,ao c,ao d]),(4,[ao o,ao p,ao q,ao r,ao s,.str t,ao u,.str v,.own 1000000 none,ao w,.str x,.own 1000001 none,ao e,.str f,.own 1000002 none,ao g,ao h,ao i,ao j,ao k])],bl:=[ay 1000000 3 (.int .i64) y,ay 1000001 3 (.int .i64) l,ay 1000002 3 (.int .i64) m],sp:=.v (.c (.ptr 4000000 0))}
def dN (a:St):Option U:=ff gj F gk [.r,.r,.r,.l,.r,.b,.r,.t,.l,.r,.b,.i] f27 J n a
def dO:=azd gj F gk [.r,.r,.r,.l,.r,.b,.r,.t,.l,.r,.b] f27 .cur [(K45,true)] jR 2
def w8 (b a k:Int)(d:List Int)(e f w g:Int)(h:List Int)(c:List a7)(i:List bS)(j:List bE)(v x y z A:Int)(B:ByteArray)(C:Int)(D:ByteArray)(E:Int)(G:ByteArray)(l:Int)(m:ByteArray)(o p q r s:Int)(H t u:List Int):dM F J (n+1) (cX b a k d e f w g h c i j v x y z A B C D E G l m o p q r s H t u)=br (decide (k<b)) (ck (!(b==0)) (ck (bG (Int.tmod (aj (a+k)) b) (c.length:Int)) (br (decide (((aI c (Int.tmod (aj (a+k)) b) ca.az).2.2.2.2.2.2.2.length:Int)>0)) (ck (!(b==0)) (J .ret (Fy d e f 2 (Int.tmod (aj (a+k)) b) 0 0 0 ak 0 ak 0 ak 0 ak 0 0 0 0 0))) (dM F J n (cX b a (aj (k+1)) d e f w g h c i j v x y z A B C D E G l m o p q r s H t u))))) (J (.exit 3) (BV a d e f w g h c i j v x y z A B C D E G l m o p q r s H t u)):=by kernel_rfl
def w9 (b a k:Int)(c:List Int)(d e w g:Int)(h:List Int)(f:List a7)(G:List bS)(H:List bE)(t u v x y:Int)(z:ByteArray)(A:Int)(B:ByteArray)(C:Int)(D:ByteArray)(i:Int)(j:ByteArray)(l m o p q:Int)(E r s:List Int):dN F J (n+1) (cZ b a k c d e w g h f G H t u v x y z A B C D i j l m o p q E r s)=br (decide (k<b)) (ck (!(b==0)) (ck (bG (Int.tmod (aj (a+k)) b) (f.length:Int)) ((WZ F0 (w,g) (aI f (Int.tmod (aj (a+k)) b) ca.az)).bind fun I=>br I.2.1 (ck (!(b==0)) ((cW F0 h (Int.tmod (aj (a+k)) b)).bind fun K=>br (!K.1) (ck (!(b==0)) (J .ret (Fz c d e 1 (Int.tmod (aj (a+k)) b) 0 0 0 ak 0 ak 0 ak 0 ak 0 0 0 0 0))) (dN F J n (cZ b a (aj (k+1)) c d e w g h f G H t u v x y z A B C D i j l m o p q E r s)))) (dN F J n (cZ b a (aj (k+1)) c d e w g h f G H t u v x y z A B C D i j l m o p q E r s))))) (J (.exit 1) (BW a c d e t u v x y z A B C D i j l m o p q E r s)):=by kernel_rfl
def Vv (a:List Int)(b c k l m o p:Int)(q:ByteArray)(r:Int)(s:ByteArray)(t:Int)(u:ByteArray)(d:Int)(e:ByteArray)(f g h i j:Int):cY F .ret (Fy a b c k l m o p q r s t u d e f g h i j)=some (((k,l,m,o,p,(q,r,s,[]),(t,u,[]),(d,e,[]),f,g,h,i,j),()),(a,b,c),()):=by kernel_rfl
def Sy (a:Int)(b:List Int)(c d w g:Int)(h:List Int)(i:List a7)(e:List bS)(j:List bE)(v x y z A:Int)(B:ByteArray)(C:Int)(D:ByteArray)(E:Int)(G:ByteArray)(k:Int)(l:ByteArray)(m o p q r:Int)(H s t:List Int):cY F (.exit 3) (BV a b c d w g h i e j v x y z A B C D E G k l m o p q r H s t)=br ((e.length:Int)==0) (some (((2,a,0,0,0,(ak,0,ak,[]),(0,ak,[]),(0,ak,[]),0,0,0,0,0),()),(b,c,d),())) ((bK F0 (e.length:Int) 4).bind fun u=>(av F0 (b,c,d) u.1).bind fun f=>some (((3,f.1.1,0,0,0,(ak,0,ak,[]),(0,ak,[]),(0,ak,[]),0,0,0,0,0),()),f.2.1,())):=by kernel_rfl
def Vw (a:List Int)(b c k l m o p:Int)(q:ByteArray)(r:Int)(s:ByteArray)(t:Int)(u:ByteArray)(d:Int)(e:ByteArray)(f g h i j:Int):dO F .ret (Fz a b c k l m o p q r s t u d e f g h i j)=some (((k,l,m,o,p,(q,r,s,[]),(t,u,[]),(d,e,[]),f,g,h,i,j),()),(a,b,c),()):=by kernel_rfl
def Sz (a:Int)(b:List Int)(c d o p q r s:Int)(t:ByteArray)(u:Int)(v:ByteArray)(w:Int)(x:ByteArray)(e:Int)(f:ByteArray)(g h i j k:Int)(y l m:List Int):dO F (.exit 1) (BW a b c d o p q r s t u v w x e f g h i j k y l m)=some (((7,a,0,0,0,(ak,0,ak,[]),(0,ak,[]),(0,ak,[]),0,0,0,0,0),()),(b,c,d),()):=by kernel_rfl
def r6 (c:D2)(w:lE):=Fl gj F gk f27 auC 0 .cur [(K45,true)] jR 2 (c,w,())
def ZU (c:D2)(w:lE):r6 F c w=(dK F0 (w.2.2.1.length:Int) 1).bind fun l=>(av F0 c l.1).bind fun b=>(av F0 b.2.1 20).bind fun a=>br (a.1.1==0) (dN F (dO F) F.n (cZ (w.2.2.1.length:Int) b.1.1 0 a.2.1.1 a.2.1.2.1 a.2.1.2.2 w.1.1 w.1.2 w.2.1 w.2.2.1 w.2.2.2.1 w.2.2.2.2 0 0 0 0 0 ak 0 ak 0 ak 0 ak 0 0 0 0 0 [] [] [])) (br (a.1.1==1) (dN F (dO F) F.n (cZ (w.2.2.1.length:Int) b.1.1 0 a.2.1.1 a.2.1.2.1 a.2.1.2.2 w.1.1 w.1.2 w.2.1 w.2.2.1 w.2.2.2.1 w.2.2.2.2 0 0 0 0 0 ak 0 ak 0 ak 0 ak 0 0 0 0 0 [] [] [])) (br (a.1.1==2) (dN F (dO F) F.n (cZ (w.2.2.1.length:Int) b.1.1 0 a.2.1.1 a.2.1.2.1 a.2.1.2.2 w.1.1 w.1.2 w.2.1 w.2.2.1 w.2.2.2.1 w.2.2.2.2 0 0 0 0 0 ak 0 ak 0 ak 0 ak 0 0 0 0 0 [] [] [])) (br (a.1.1==3) (dM F (cY F) F.n (cX (w.2.2.1.length:Int) b.1.1 0 a.2.1.1 a.2.1.2.1 a.2.1.2.2 w.1.1 w.1.2 w.2.1 w.2.2.1 w.2.2.2.1 w.2.2.2.2 0 0 0 0 0 ak 0 ak 0 ak 0 ak 0 0 0 0 0 [] [] [])) (br (a.1.1==4) (dM F (cY F) F.n (cX (w.2.2.1.length:Int) b.1.1 0 a.2.1.1 a.2.1.2.1 a.2.1.2.2 w.1.1 w.1.2 w.2.1 w.2.2.1 w.2.2.2.1 w.2.2.2.2 0 0 0 0 0 ak 0 ak 0 ak 0 ak 0 0 0 0 0 [] [] [])) (br (a.1.1==5) (dM F (cY F) F.n (cX (w.2.2.1.length:Int) b.1.1 0 a.2.1.1 a.2.1.2.1 a.2.1.2.2 w.1.1 w.1.2 w.2.1 w.2.2.1 w.2.2.2.1 w.2.2.2.2 0 0 0 0 0 ak 0 ak 0 ak 0 ak 0 0 0 0 0 [] [] [])) (br (a.1.1==6) (dM F (cY F) F.n (cX (w.2.2.1.length:Int) b.1.1 0 a.2.1.1 a.2.1.2.1 a.2.1.2.2 w.1.1 w.1.2 w.2.1 w.2.2.1 w.2.2.2.1 w.2.2.2.2 0 0 0 0 0 ak 0 ak 0 ak 0 ak 0 0 0 0 0 [] [] [])) (br (a.1.1==7) (some (((6,b.1.1,0,0,0,(ak,0,ak,[]),(0,ak,[]),(0,ak,[]),0,0,0,0,0),()),a.2.1,())) (br (a.1.1==8) (some (((7,b.1.1,0,0,0,(ak,0,ak,[]),(0,ak,[]),(0,ak,[]),0,0,0,0,0),()),a.2.1,())) (br (a.1.1==9) ((nm F0 a.2.1 2).bind fun g=>br g.1.1 ((jS F0 g.2.1 [0,0,5,40,9999]).bind fun h=>some (((8,b.1.1,h.1.1,0,0,(ak,0,ak,[]),(0,ak,[]),(0,ak,[]),0,0,0,0,0),()),h.2.1,())) ((av F0 g.2.1 2).bind fun i=>(dK F0 (w.2.2.2.1.length:Int) 1).bind fun m=>(av F0 i.2.1 m.1).bind fun j=>some (((aj (4+i.1.1),j.1.1,0,0,0,(ak,0,ak,[]),(0,ak,[]),(0,ak,[]),0,0,0,0,0),()),j.2.1,()))) (br (a.1.1==10) ((mu F0 a.2.1).bind fun k=>some (((9,b.1.1,0,4,0,(ak,0,ak,[]),(0,ak,[]),(0,ak,[]),0,k.1.1),()),k.2.1,())) (br (a.1.1==11) (br (decide ((w.2.1.length:Int)>0)) ((il F0 a.2.1 w).bind fun e=>some (((10,b.1.1,0,e.1.1),()),e.2.1,())) (br ((w.2.2.2.1.length:Int)==0) (some (((2,b.1.1,0,0,0,(ak,0,ak,[]),(0,ak,[]),(0,ak,[]),0,0,0,0,0),()),a.2.1,())) ((bK F0 (w.2.2.2.1.length:Int) 4).bind fun f=>(av F0 a.2.1 f.1).bind fun d=>some (((3,d.1.1,0,0,0,(ak,0,ak,[]),(0,ak,[]),(0,ak,[]),0,0,0,0,0),()),d.2.1,())))) (br (a.1.1==12) (br (decide ((w.2.1.length:Int)>0)) ((il F0 a.2.1 w).bind fun e=>some (((10,b.1.1,0,e.1.1),()),e.2.1,())) (br ((w.2.2.2.1.length:Int)==0) (some (((2,b.1.1,0,0,0,(ak,0,ak,[]),(0,ak,[]),(0,ak,[]),0,0,0,0,0),()),a.2.1,())) ((bK F0 (w.2.2.2.1.length:Int) 4).bind fun f=>(av F0 a.2.1 f.1).bind fun d=>some (((3,d.1.1,0,0,0,(ak,0,ak,[]),(0,ak,[]),(0,ak,[]),0,0,0,0,0),()),d.2.1,())))) (br (a.1.1==13) (br (decide ((w.2.1.length:Int)>0)) ((il F0 a.2.1 w).bind fun e=>some (((10,b.1.1,0,e.1.1),()),e.2.1,())) (br ((w.2.2.2.1.length:Int)==0) (some (((2,b.1.1,0,0,0,(ak,0,ak,[]),(0,ak,[]),(0,ak,[]),0,0,0,0,0),()),a.2.1,())) ((bK F0 (w.2.2.2.1.length:Int) 4).bind fun f=>(av F0 a.2.1 f.1).bind fun d=>some (((3,d.1.1,0,0,0,(ak,0,ak,[]),(0,ak,[]),(0,ak,[]),0,0,0,0,0),()),d.2.1,())))) (br ((w.2.2.2.1.length:Int)==0) (some (((2,b.1.1,0,0,0,(ak,0,ak,[]),(0,ak,[]),(0,ak,[]),0,0,0,0,0),()),a.2.1,())) ((bK F0 (w.2.2.2.1.length:Int) 4).bind fun f=>(av F0 a.2.1 f.1).bind fun d=>some (((3,d.1.1,0,0,0,(ak,0,ak,[]),(0,ak,[]),(0,ak,[]),0,0,0,0,0),()),d.2.1,())))))))))))))))):=by kernel_rfl
def FA:Any:=.two ⟨auC,0,.cur,[(K45,true)],2,jR,fun x=>r6 F0 x.1 x.2.1⟩
def ZV:a1 27 FA:=Wt gj ⟨fW,yq,yr,lH,akq,dL,Hv,acS,oY,trivial⟩ func27 gk (by kernel_rfl)
def W4:=[(136,ik)]
def IT (a b:D9):=bj W4 F ad f337 w3 gB 2 (a,b,())
def al4 (a b:D9):IT F a b=br (decide (a.1>b.1)) ((jw F0 a).bind fun c=>some (c.1,())) ((jw F0 b).bind fun d=>some (d.1,())):=by kernel_rfl
def Qv:Any:=.one ⟨w3,gB,2,fun x=>IT F0 x.1 x.2.1⟩
def al5:a1 337 Qv:=aq W4 ⟨mi,trivial⟩ func337 ad (by kernel_rfl)
def W5:=[(150,qb),(200,tT)]
abbrev aEf:List (Ty×Bool):=[(.str,false),(.bool,false)]
def IU (name:ByteArray):=bj W5 F ad f338 dC aEf 1 (name,())
def al6 (name:ByteArray):IU F name=(qa F0 name).bind fun a=>br (!a.2.1) (some (ak,false,())) (br (decide ((a.1.length:Int)<3)) (some (ak,false,())) (ck (bG (aj ((a.1.length:Int)-1)) (a.1.length:Int)) (ck (bG (aj ((a.1.length:Int)-2)) (a.1.length:Int)) (br ((aI a.1 (aj ((a.1.length:Int)-1)) (0,[])).1 != (aj ((aI a.1 (aj ((a.1.length:Int)-2)) (0,[])).1+1))) (some (ak,false,())) (ck (bG (aj ((a.1.length:Int)-2)) (a.1.length:Int)) (ck (bG (aj ((a.1.length:Int)-3)) (a.1.length:Int)) (br ((aI a.1 (aj ((a.1.length:Int)-2)) (0,[])).1 != (aj ((aI a.1 (aj ((a.1.length:Int)-3)) (0,[])).1+1))) (some (ak,false,())) ((l9 F0 name).bind fun b=>(l9 F0 b.1).bind fun c=>some (c.1,true,()))))))))):=by kernel_rfl
def Qw:Any:=.one ⟨dC,aEf,1,fun x=>IU F0 x.1⟩
def al7:a1 338 Qw:=aq W5 ⟨DB,IG,trivial⟩ func338 ad (by kernel_rfl)
def W6:=[(78,eQ)]
abbrev T0:List (Ty×Bool):=[(.str,false),(.str,false)]
def IV (s t:ByteArray):=bj W6 F ad f339 T0 aO 1 (s,t,())
def al8 (s t:ByteArray):IV F s t=(e6 F0 s).bind fun a=>br (!a.1) (some (false,())) ((e6 F0 t).bind fun b=>br (!b.1) (some (false,())) (br (decide ((t.size:Int)>(s.size:Int))) (some (false,())) (ck (Tx 0 (t.size:Int) (s.size:Int)) (br (!((s.extract (0:Int).toNat (t.size:Int).toNat).toList==t.toList)) (some (false,())) (br ((s.size:Int)==(t.size:Int)) (some (true,())) (ck (bG (t.size:Int) (s.size:Int)) (some ((jP s (t.size:Int))==47,())))))))):=by kernel_rfl
def Qx:Any:=.one ⟨T0,aO,1,fun x=>IV F0 x.1 x.2.1⟩
def al9:a1 339 Qx:=aq W6 ⟨gW,trivial⟩ func339 ad (by kernel_rfl)
def apf:=[(66,gX),(79,df),(121,mj),(134,gG),(141,ij),(200,tT),(337,Qv),(338,Qw),(339,Qx)]
abbrev aEg:List (Ty×Bool):=[(K1,true),(K12,true),(K9,true)]
def Qy (c:D1)(s:Vt)(q:D9):=bj apf F ad f304 aEg BR 2 (c,s,q,())
def azk (c:D1)(s:Vt)(q:D9):Qy F c s q=(nG F0 s).bind fun a=>(jv F0 c s).bind fun f=>br (!f.1) (some (a.1,())) ((ky F0 c q).bind fun g=>br (!g.1) (some (a.1,())) ((IT F0 q s.2.2.1).bind fun b=>(l9 F0 q.2.1).bind fun h=>(dt F0 h.1).bind fun i=>(dK F0 s.2.1 i.1).bind fun d=>(IU F0 q.2.1).bind fun e=>br e.2.1 ((IV F0 e.1 s.2.2.2).bind fun j=>br j.1 (some ((a.1.1,d.1,b.1,e.1),())) (some ((a.1.1,d.1,b.1,a.1.2.2.2),()))) (some ((a.1.1,d.1,b.1,a.1.2.2.2),())))):=by kernel_rfl
def IW:Any:=.one ⟨aEg,BR,2,fun x=>Qy F0 x.1 x.2.1 x.2.2.1⟩
def W7:a1 304 IW:=aq apf ⟨lH,eJ,uN,kS,l7,IG,al5,al7,al9,trivial⟩ func304 ad (by kernel_rfl)
def W8:=[(79,df),(141,ij),(199,ma)]
abbrev ae5:List (Ty×Bool):=[(K1,true),(K12,true),(K15,true)]
def y7 (c:D1)(s:Vt)(b:D15):=bj W8 F ad f305 ae5 aO 1 (c,s,b,())
def ama (c:D1)(s:Vt)(b:D15):y7 F c s b=(jv F0 c s).bind fun a=>br a.1 ((nE F0 c b).bind fun d=>br d.1 ((dt F0 b.1).bind fun e=>br (decide (e.1>s.1)) (some (decide (b.2.1>=s.2.1),())) (some (false,()))) (some (false,()))) (some (false,())):=by kernel_rfl
def CE:Any:=.one ⟨ae5,aO,1,fun x=>y7 F0 x.1 x.2.1 x.2.2.1⟩
def T1:a1 305 CE:=aq W8 ⟨eJ,l7,uF,trivial⟩ func305 ad (by kernel_rfl)
def akr:=[(79,df),(121,mj),(305,CE)]
abbrev aks:List (Ty×Bool):=[(K12,true),(.bool,false)]
def Qz (c:D1)(s:Vt)(b:D15):=bj akr F ad f306 ae5 aks 2 (c,s,b,())
def awK (c:D1)(s:Vt)(b:D15):Qz F c s b=(nG F0 s).bind fun a=>(y7 F0 c s b).bind fun d=>br (!d.1) (some (a.1,false,())) ((dt F0 b.1).bind fun e=>some ((e.1,a.1.2),true,())):=by kernel_rfl
def aa2:Any:=.one ⟨ae5,aks,2,fun x=>Qz F0 x.1 x.2.1 x.2.2.1⟩
def awL:a1 306 aa2:=aq akr ⟨eJ,uN,T1,trivial⟩ func306 ad (by kernel_rfl)
def T2:=[(317,uE)]
abbrev aEh:List (Ty×Bool):=[(K12,true),(K12,true)]
def DX (a b:Vt):=bj T2 F ad f340 aEh aO 1 (a,b,())
def ahY (a b:Vt):DX F a b=br (a.1==b.1) (br (a.2.1==b.2.1) ((w4 F0 a.2.2.1 b.2.2.1).bind fun c=>br c.1 (some (a.2.2.2.toList==b.2.2.2.toList,())) (some (false,()))) (some (false,()))) (some (false,())):=by kernel_rfl
def Nl:Any:=.one ⟨aEh,aO,1,fun x=>DX F0 x.1 x.2.1⟩
def ahZ:a1 340 Nl:=aq T2 ⟨KG,trivial⟩ func340 ad (by kernel_rfl)
def DY:=[(73,b7)]
def DZ:Nat->Option Hint:=look [(4,{live:=[0,3],xl:=[0,3],rl:=[2]})]
def vd (a:Int)(b:List Int):= cQ 25 [(0,a8 a),(3,.v (.c (.own 1000000 none)))] [] [ay 1000000 5 (.int .u8) b]
def QA (a:Int)(b:List Int):= cQ 25 [(0,a8 a),(3,.v (.c (.own 1000000 none)))] [] [ay 1000000 5 (.int .u8) b]
def D0 (a:St):Option U:=ff DY F DZ [.r,.r,.r,.l,.b,.i] f300 J n a
def GK:=hQ DY F DZ [.r,.r,.r,.l,.b] f300 lF 2
def Lb (a:Int)(b:List Int):D0 F J (n+1) (vd a b)=br (decide (a>127)) (ck (ep F b.length [IntKind.wrap .u8 (aj ((Int.tmod a 128)+128))].length 1) (D0 F J n (vd (aj (Int.tdiv a 128)) (b++[IntKind.wrap .u8 (aj ((Int.tmod a 128)+128))])))) (J (.exit 0) (QA a b)):=by kernel_rfl
def Nn (a:Int)(b:List Int):GK F (.exit 0) (QA a b)=ck (ep F b.length [IntKind.wrap .u8 (a)].length 1) (some (b++[IntKind.wrap .u8 (a)],())):=by kernel_rfl
def et (a:Int):=bj DY F DZ f300 cE lF 2 (a,())
def apg (a:Int):et F a=(bN F0 a 0 2147483647).bind fun b=>br (!b.1) (some ([],())) (D0 F (GK F) F.n (vd a [])):=by kernel_rfl
def iq:Any:=.one ⟨cE,lF,2,fun x=>et F0 x.1⟩
def mv:a1 300 iq:=aq DY ⟨cz,trivial⟩ func300 DZ (by kernel_rfl)
def W9:=[(300,iq)]
def nI (s:ByteArray):=bj W9 F ad f301 dC lF 2 (s,())
def amb (s:ByteArray):nI F s=(et F0 (s.size:Int)).bind fun a=>ck (decide ((s.size:Int)<=F.mem)) (ck (ep F a.1.length (bytesOf s).length 1) (some (a.1++(bytesOf s),()))):=by kernel_rfl
def r7:Any:=.one ⟨dC,lF,2,fun x=>nI F0 x.1⟩
def GL:a1 301 r7:=aq W9 ⟨mv,trivial⟩ func301 ad (by kernel_rfl)
end
end Go.Am.Tryz
