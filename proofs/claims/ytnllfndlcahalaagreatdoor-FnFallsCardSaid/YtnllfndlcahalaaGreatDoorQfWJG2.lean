/- No condition. -/
import Derived.Test.YtnllfndlcahalaaGreatDoorQfWJG1
set_option linter.all false
set_option maxRecDepth 100000
namespace Go.Am.Tryz
open Go.Am Go.Proofs Go.Proofs.Tryz
noncomputable section
variable {U:Type} (F:rH) (J:Ex->St->Option U) (n:Nat)
def Wn:=[(121,mf),(122,yN),(123,mg),(124,yQ)]
abbrev To:List (Ty×Bool):=[(b8,true)]
def ba (r:a7):=bm Wn F ad f64 To To 2 (r,())
def ak6 (r:a7):ba F r=(nD F0 r.2.2.2.1).bind fun a=>ck (en F 0 r.2.2.2.2.1.length 32) ((gD F0 r.2.2.2.2.2.1).bind fun b=>(iP F0 r.2.2.2.2.2.2.1).bind fun c=>(tR F0 r.2.2.2.2.2.2.2).bind fun d=>some ((r.1,r.2.1,r.2.2.1,a.1,[]++r.2.2.2.2.1,b.1,c.1,d.1),())):=by kernel_rfl
def bY:Any:=.one ⟨To,To,2,fun x=>ba F0 x.1⟩
def cl:a8 64 bY:=aq Wn ⟨uM,PX,uQ,PY,trivial⟩ func64 ad (by kernel_rfl)
def mh:=[(64,bY)]
def mi:Nat->Option Hint:=look [(3,{live:=[1,2,3,4],yc:=[(2,2,3,.int .i64),(2,3,65,b8),(2,4,105,ek),(2,5,41,cz),(3,3,65,b8),(3,4,105,ek)],xl:=[1,2,3],rl:=[2]}),(7,{live:=[1,2,3,5],xl:=[2,3],rl:=[2]}),(999999,{live:=[1]})]
def rW (w:lx)(i j k l a:Int)(m:List Int)(b:List a7)(c:List bS)(d:List bF)(e:List Int)(f:List a7)(g:List bS)(h:List bF):St:={nt:=63,tm:=[(1,.v (.c (.UT false (hJ) w 0))),b1 2,b1 3,(5,bb i)],bx:=[(2,[ao j,ao k,.own 1000000 none,.own 1000001 none,.own 1000002 none,.own 1000003 none]),(3,[ao l,ao a,.own 1000004 none,.own 1000005 none,.own 1000006 none,.own 1000007 none])],bl:=[az 1000000 3 (.int .i64) m,az 1000001 65 b8 b,az 1000002 105 ek c,az 1000003 41 cz d,az 1000004 3 (.int .i64) e,az 1000005 65 b8 f,az 1000006 105 ek g,az 1000007 41 cz h],rob:=[1]}
def ML (i j k a:Int)(l:List Int)(b:List a7)(c:List bS)(d:List bF)(e:List Int)(f:List a7)(g:List bS)(h:List bF):St:={nt:=63,tm:=[b1 2,b1 3],bx:=[(2,[ao i,ao j,.own 1000000 none,.own 1000001 none,.own 1000002 none,.own 1000003 none]),(3,[ao k,ao a,.own 1000004 none,.own 1000005 none,.own 1000006 none,.own 1000007 none])],bl:=[az 1000000 3 (.int .i64) l,az 1000001 65 b8 b,az 1000002 105 ek c,az 1000003 41 cz d,az 1000004 3 (.int .i64) e,az 1000005 65 b8 f,az 1000006 105 ek g,az 1000007 41 cz h],rob:=[1]}
def yR (a:St):Option U:=fe mh F mi [.r,.r,.r,.l,.r,.b,.i] f24 J n a
def Cs:=hH mh F mi [.r,.r,.r,.l,.r,.b] f24 jE 2
def rX (w:lx)(i j k l a:Int)(m:List Int)(b:List a7)(c:List bS)(d:List bF)(e:List Int)(f:List a7)(g:List bS)(h:List bF):St:={nt:=63,tm:=[(1,.v (.c (.UT false (hJ) w 0))),b1 2,b1 3,(4,bb i)],bx:=[(2,[ao j,ao k,.own 1000000 none,.own 1000001 none,.own 1000002 none,.own 1000003 none]),(3,[ao l,ao a,.own 1000004 none,.own 1000005 none,.own 1000006 none,.own 1000007 none])],bl:=[az 1000000 3 (.int .i64) m,az 1000001 65 b8 b,az 1000002 105 ek c,az 1000003 41 cz d,az 1000004 3 (.int .i64) e,az 1000005 65 b8 f,az 1000006 105 ek g,az 1000007 41 cz h],rob:=[1]}
def MM (w:lx)(i j k a:Int)(l:List Int)(b:List a7)(c:List bS)(d:List bF)(e:List Int)(f:List a7)(g:List bS)(h:List bF):St:={nt:=63,tm:=[(1,.v (.c (.UT false (hJ) w 0))),b1 2,b1 3],bx:=[(2,[ao i,ao j,.own 1000000 none,.own 1000001 none,.own 1000002 none,.own 1000003 none]),(3,[ao k,ao a,.own 1000004 none,.own 1000005 none,.own 1000006 none,.own 1000007 none])],bl:=[az 1000000 3 (.int .i64) l,az 1000001 65 b8 b,az 1000002 105 ek c,az 1000003 41 cz d,az 1000004 3 (.int .i64) e,az 1000005 65 b8 f,az 1000006 105 ek g,az 1000007 41 cz h],rob:=[1]}
def yS (a:St):Option U:=fe mh F mi [.r,.r,.l,.r,.b,.i] f24 J n a
def Ct:=hH mh F mi [.r,.r,.l,.r,.b] f24 jE 2
def Ha (w:lx)(i j k l b:Int)(m:List Int)(c:List a7)(d:List bS)(e:List bF)(f:List Int)(g:List a7)(a:List bS)(h:List bF):yR F J (n+1) (rW w i j k l b m c d e f g a h)=br (decide (i<(w.2.2.2.1.length:Int))) (ck (bE i (w.2.2.2.1.length:Int)) (ck (bE i (w.2.2.2.1.length:Int)) (ck (en F 0 (aH w.2.2.2.1 i (0,[])).2.length 1) (ck (en F a.length [((aH w.2.2.2.1 i (0,[])).1,[]++(aH w.2.2.2.1 i (0,[])).2)].length 32) (yR F J n (rW w (aj (i+1)) j k l b m c d e f g (a++[((aH w.2.2.2.1 i (0,[])).1,[]++(aH w.2.2.2.1 i (0,[])).2)]) h)))))) (J (.exit 2) (ML j k l b m c d e f g a h)):=by kernel_rfl
def Hb (w:lx)(i j k l b:Int)(m:List Int)(c:List a7)(d:List bS)(e:List bF)(f:List Int)(a:List a7)(g:List bS)(h:List bF):yS F J (n+1) (rX w i j k l b m c d e f a g h)=br (decide (i<(w.2.2.1.length:Int))) (ck (bE i (w.2.2.1.length:Int)) ((ba F0 (aH w.2.2.1 i b8.aC)).bind fun o=>ck (en F a.length [o.1].length 208) (yS F J n (rX w (aj (i+1)) j k l b m c d e f (a++[o.1]) g h)))) (J (.exit 0) (MM w j k l b m c d e f a g h)):=by kernel_rfl
def ab5 (j k f a:Int)(l:List Int)(g:List a7)(h:List bS)(i:List bF)(b:List Int)(c:List a7)(d:List bS)(e:List bF):Cs F (.exit 2) (ML j k f a l g h i b c d e)=some (((f,a),b,c,d,e),()):=by kernel_rfl
def ab6 (w:lx)(i j k a:Int)(l:List Int)(b:List a7)(c:List bS)(d:List bF)(e:List Int)(f:List a7)(g:List bS)(h:List bF):Ct F (.exit 0) (MM w i j k a l b c d e f g h)=yR F (Cs F) F.n (rW w 0 i j k a l b c d e f g h):=by kernel_rfl
def yT (w:lx):=bm mh F mi f24 jE jE 2 (w,())
def ak7 (w:lx):yT F w=ck (en F 0 w.2.1.length 8) (ck (en F 0 w.2.2.2.2.length 32) (yS F (Ct F) F.n (rX w 0 0 0 w.1.1 w.1.2 [] [] [] [] ([]++w.2.1) [] [] ([]++w.2.2.2.2)))):=by kernel_rfl
def Cu:Any:=.one ⟨jE,jE,2,fun x=>yT F0 x.1⟩
def Tp:a8 24 Cu:=aq mh ⟨cl,trivial⟩ func24 mi (by kernel_rfl)
abbrev aJU:List (Ty×Bool):=[(.sl 5 (.int .u8),false),(.int .i64,false),(.int .i64,false)]
def MN (b:List Int)(c a:Int):=bm aB F ad f26 aJU cF 1 (b,c,a,())
def aog (b:List Int)(c a:Int):MN F b c a=br (decide ((aj (c+(aj (Int.tdiv (b.length:Int) 4))))>a)) (some (a,())) (some (aj (c+(aj (Int.tdiv (b.length:Int) 4))),())):=by kernel_rfl
def Tq:Any:=.one ⟨aJU,cF,1,fun x=>MN F0 x.1 x.2.1 x.2.2.1⟩
def aoh:a8 26 Tq:=aq aB trivial func26 ad (by kernel_rfl)
def ajw:=[(32,cx)]
def mj (c:D1)(a:Int):=bm ajw F ad f125 aju cF 1 (c,a,())
def avR (c:D1)(a:Int):mj F c a=(dJ F0 c).bind fun b=>br (!b.1) (some (-1,())) (br (decide (a<0)) (some (-1,())) (ck (!(c.1==0)) (some (Int.tmod a c.1,())))):=by kernel_rfl
def jw:Any:=.one ⟨aju,cF,1,fun x=>mj F0 x.1 x.2.1⟩
def nE:a8 125 jw:=aq ajw ⟨dh,trivial⟩ func125 ad (by kernel_rfl)
def uU:=[(194,jF)]
def uV:Nat->Option Hint:=look [(2,{live:=[0,1,2,6,7],yc:=[(6,2,3,.int .i64)],xl:=[1,2,6],rl:=[6]})]
def kR (a:List D9)(b:Int)(name:ByteArray)(i c:Int)(d:ByteArray)(e:List Int):= cR 38 [(0,ia 50 (K9) a),(1,bb b),(2,Z0 name),b1 6,(7,bb i)] [(6,[ao c,.str d,.own 1000000 none])] [az 1000000 3 (.int .i64) e]
def MO (a:Int)(b:ByteArray)(c:List Int):= cR 38 [b1 6] [(6,[ao a,.str b,.own 1000000 none])] [az 1000000 3 (.int .i64) c]
def Kz (a:Int)(name:ByteArray)(b:Int)(c:ByteArray)(d:List Int):= cR 38 [(1,bb a),(2,Z0 name),b1 6] [(6,[ao b,.str c,.own 1000000 none])] [az 1000000 3 (.int .i64) d]
def oy (a:St):Option U:=fe uU F uV [.r,.l,.r,.b,.i] f126 J n a
def po:=hH uU F uV [.r,.l,.r,.b] f126 gv 2
def Fi (a:List D9)(b:Int)(name:ByteArray)(i c:Int)(d:ByteArray)(e:List Int):oy F J (n+1) (kR a b name i c d e)=br (decide (i<(a.length:Int))) (ck (bE i (a.length:Int)) (br ((aH a i K9.aC).1==b) (ck (bE i (a.length:Int)) (br ((aH a i K9.aC).2.1.toList==name.toList) (ck (bE i (a.length:Int)) ((gC F0 (aH a i K9.aC)).bind fun f=>J .ret (MO f.1.1 f.1.2.1 f.1.2.2))) (oy F J n (kR a b name (aj (i+1)) c d e)))) (oy F J n (kR a b name (aj (i+1)) c d e)))) (J (.exit 0) (Kz b name c d e)):=by kernel_rfl
def ab7 (a:Int)(b:ByteArray)(c:List Int):po F .ret (MO a b c)=some ((a,b,c),()):=by kernel_rfl
def Zl (a:Int)(name:ByteArray)(b:Int)(c:ByteArray)(d:List Int):po F (.exit 0) (Kz a name b c d)=some ((a,name,[]),()):=by kernel_rfl
abbrev aDr:List (Ty×Bool):=[(K13,false),(.int .i64,false),(.str,false)]
def oR (a:D13)(b:Int)(name:ByteArray):=bm uU F uV f126 aDr gv 2 (a,b,name,())
def agZ (a:D13)(b:Int)(name:ByteArray):oR F a b name=oy F (po F) F.n (kR a b name 0 0 ak []):=by kernel_rfl
def pq:Any:=.one ⟨aDr,gv,2,fun x=>oR F0 x.1 x.2.1 x.2.2.1⟩
def Cv:a8 126 pq:=aq uU ⟨ow,trivial⟩ func126 uV (by kernel_rfl)
def rY:Nat->Option Hint:=look [(3,{live:=[0,1,2],yc:=[(0,0,3,.int .i64),(0,1,3,.int .i64),(1,0,3,.int .i64)],xl:=[0,1],rl:=[0]})]
def fY (i:Int)(d a b c:List Int):= cR 15 [b1 0,b1 1,(2,bb i)] [(0,[.own 1000000 none,.own 1000001 none]),(1,[.own 1000002 none,.own 1000003 none])] [az 1000000 3 (.int .i64) d,az 1000001 3 (.int .i64) a,az 1000002 3 (.int .i64) b,az 1000003 3 (.int .i64) c]
def Hc (d a b c:List Int):= cR 15 [b1 0,b1 1] [(0,[.own 1000000 none,.own 1000001 none]),(1,[.own 1000002 none,.own 1000003 none])] [az 1000000 3 (.int .i64) d,az 1000001 3 (.int .i64) a,az 1000002 3 (.int .i64) b,az 1000003 3 (.int .i64) c]
def jG (a:St):Option U:=fe aB F rY [.r,.r,.l,.r,.b,.i] f129 J n a
abbrev nn:List (Ty×Bool):=[(K43,true)]
def jU:=hH aB F rY [.r,.r,.l,.r,.b] f129 nn 2
def BL (i:Int)(d b a c:List Int):jG F J (n+1) (fY i d b a c)=br (decide (i<4)) (ck (en F a.length [100].length 8) (jG F J n (fY (aj (i+1)) d b (a++[100]) c))) (J (.exit 0) (Hc d b a c)):=by kernel_rfl
def Wo (d c a b:List Int):jU F (.exit 0) (Hc d c a b)=some ((a,b),()):=by kernel_rfl
def ml: Option (Args nn):=bm aB F rY f129 [] nn 2 (())
def aee: ml F= ck (okM F 4 4 8) (jG F (jU F) F.n (fY 0 [] [] [] (List.replicate (4:Int).toNat 0))):=by kernel_rfl
def wi:Any:=.one ⟨[],nn,2,fun x=>ml F0⟩
def MP:a8 129 wi:=aq aB trivial func129 rY (by kernel_rfl)
def Is:=[(150,p7)]
def It:Nat->Option Hint:=look [(4,{live:=[3,4,6],xl:=[3],rl:=[2]})]
def yU (i:Int)(b:List D4)(a:List D6):= cR 27 [(3,.v (.c (.own 1000000 none))),(4,.v (.c (.own 1000001 none))),(6,bb i)] [] [az 1000000 52 K4 b,az 1000001 157 K6 a]
def Tr (a:List D4):= cR 27 [(3,.v (.c (.own 1000000 none)))] [] [az 1000000 52 K4 a]
def Iu (a:St):Option U:=fe Is F It [.r,.r,.r,.l,.r,.b,.i] f130 J n a
def KA:=hH Is F It [.r,.r,.r,.l,.r,.b] f130 kl 2
def MQ (i:Int)(b:List D4)(a:List D6):Iu F J (n+1) (yU i b a)=br (decide (i<(a.length:Int))) (ck (bE i (a.length:Int)) (ck (en F b.length (aH a i (0,[])).2.length 32) (Iu F J n (yU (aj (i+1)) (b++(aH a i (0,[])).2) a)))) (J (.exit 0) (Tr b)):=by kernel_rfl
def ag0 (a:List D4):KA F (.exit 0) (Tr a)=some (a,()):=by kernel_rfl
def wj (s:ByteArray):=bm Is F It f130 dC kl 2 (s,())
def ar7 (s:ByteArray):wj F s=(p6 F0 s).bind fun a=>Iu F (KA F) F.n (yU 0 [] a.1):=by kernel_rfl
def KB:Any:=.one ⟨dC,kl,2,fun x=>wj F0 x.1⟩
def aar:a8 130 KB:=aq Is ⟨Dv,trivial⟩ func130 It (by kernel_rfl)
def qU (l:D43):=bm aB F ad f196 nn nn 2 (l,())
def aoi (l:D43):qU F l=ck (en F 0 l.1.length 8) (ck (en F 0 l.2.length 8) (some (([]++l.1,[]++l.2),()))):=by kernel_rfl
def uW:Any:=.one ⟨nn,nn,2,fun x=>qU F0 x.1⟩
def KC:a8 196 uW:=aq aB trivial func196 ad (by kernel_rfl)
def uX:=[(73,b9)]
def uY:Nat->Option Hint:=look [(4,{live:=[1,3],rl:=[2]})]
def pr (i:Int)(l a:List Int):= cR 34 [b1 1,(3,bb i)] [(1,[.ro false 3 (.int .i64) l,.ro false 3 (.int .i64) a])] []
def yV (a:Bool):= bU 34 [(2,JH a)]
def KD   := bU 34 []
def uZ (a:St):Option U:=fe uX F uY [.r,.r,.l,.r,.b,.i] f253 J n a
def pt:=hH uX F uY [.r,.r,.l,.r,.b] f253 aP 1
def Fj (i:Int)(l a:List Int):uZ F J (n+1) (pr i l a)=br (decide (i<4)) (ck (bE i (l.length:Int)) ((bN F0 (aH l i 0) 0 400).bind fun b=>br (!b.1) (J .ret (yV false)) (ck (bE i (a.length:Int)) ((bN F0 (aH a i 0) 0 100).bind fun c=>br (!c.1) (J .ret (yV false)) (uZ F J n (pr (aj (i+1)) l a)))))) (J (.exit 0) (KD)):=by kernel_rfl
def KE (a:Bool):pt F .ret (yV a)=some (a,()):=by kernel_rfl
def Zm: pt F (.exit 0) (KD)=some (true,()):=by kernel_rfl
def tS (l:D43):=bm uX F uY f253 nn aP 1 (l,())
def ag1 (l:D43):tS F l=br ((l.1.length:Int) != 4) (some (false,())) (br ((l.2.length:Int) != 4) (some (false,())) (uZ F (pt F) F.n (pr 0 l.1 l.2))):=by kernel_rfl
def MR:Any:=.one ⟨nn,aP,1,fun x=>tS F0 x.1⟩
def ag2:a8 253 MR:=aq uX ⟨cA,trivial⟩ func253 uY (by kernel_rfl)
def aoj:=[(196,uW),(211,lz),(253,MR)]
abbrev aDs:List (Ty×Bool):=[(K43,true),(K4,true)]
abbrev aDt:List (Ty×Bool):=[(K43,true),(.int .i64,false)]
def KF (l:D43)(x:D4):=bm aoj F ad f197 aDs aDt 2 (l,x,())
def ayr (l:D43)(x:D4):KF F l x=(qU F0 l).bind fun a=>(tS F0 l).bind fun b=>br (!b.1) (some (a.1,1,())) ((rQ F0 x).bind fun c=>br (!c.1) (some (a.1,1,())) (ck (bE x.1 (l.2.length:Int)) (br (decide (x.2.2.2<(aH l.2 x.1 0))) (some (a.1,2,())) (ck (bE x.1 (l.2.length:Int)) (br (decide (x.2.2.2>(aH l.2 x.1 0))) (some (a.1,3,())) (ck (bE x.1 (a.1.2.length:Int)) (ck (bE x.1 (l.1.length:Int)) (br (decide (x.2.2.1>(aH l.1 x.1 0))) (some ((a.1.1,a.1.2.set x.1.toNat (aj (x.2.2.2+1))),4,())) (ck (bE x.1 (a.1.1.length:Int)) (ck (bE x.1 (a.1.1.length:Int)) (ck (bE x.2.1 ((a.1.1.set x.1.toNat (aj ((aH a.1.1 x.1 0)-x.2.2.1))).length:Int)) (ck (bE x.2.1 ((a.1.1.set x.1.toNat (aj ((aH a.1.1 x.1 0)-x.2.2.1))).length:Int)) ((tS F0 ((a.1.1.set x.1.toNat (aj ((aH a.1.1 x.1 0)-x.2.2.1))).set x.2.1.toNat (aj ((aH (a.1.1.set x.1.toNat (aj ((aH a.1.1 x.1 0)-x.2.2.1))) x.2.1 0)+x.2.2.1)),a.1.2.set x.1.toNat (aj (x.2.2.2+1)))).bind fun d=>br (!d.1) ((qU F0 l).bind fun e=>some (e.1,1,())) (some (((a.1.1.set x.1.toNat (aj ((aH a.1.1 x.1 0)-x.2.2.1))).set x.2.1.toNat (aj ((aH (a.1.1.set x.1.toNat (aj ((aH a.1.1 x.1 0)-x.2.2.1))) x.2.1 0)+x.2.2.1)),a.1.2.set x.1.toNat (aj (x.2.2.2+1))),0,()))))))))))))))):=by kernel_rfl
def Iv:Any:=.one ⟨aDs,aDt,2,fun x=>KF F0 x.1 x.2.1⟩
def Wp:a8 197 Iv:=aq aoj ⟨KC,rR,ag2,trivial⟩ func197 ad (by kernel_rfl)
def DG:=[(196,uW),(197,Iv)]
def DH:Nat->Option Hint:=look [(4,{live:=[1,4,6,7,8],yc:=[(4,0,3,.int .i64),(4,1,3,.int .i64)],xl:=[4,6,7],rl:=[4,5]})]
def u0 (e:List D4)(i:Int)(f a b c d:List Int):= cR 36 [(1,ia 52 (K4) e),b1 4,b1 6,(7,.v (.c (.own 1000000 none))),(8,bb i)] [(4,[.own 1000001 none,.own 1000002 none]),(6,[.own 1000003 none,.own 1000004 none])] [az 1000000 3 (.int .i64) f,az 1000001 3 (.int .i64) a,az 1000002 3 (.int .i64) b,az 1000003 3 (.int .i64) c,az 1000004 3 (.int .i64) d]
def PZ (e a b c d:List Int):= cR 36 [b1 4,b1 6,(7,.v (.c (.own 1000000 none)))] [(4,[.own 1000001 none,.own 1000002 none]),(6,[.own 1000003 none,.own 1000004 none])] [az 1000000 3 (.int .i64) e,az 1000001 3 (.int .i64) a,az 1000002 3 (.int .i64) b,az 1000003 3 (.int .i64) c,az 1000004 3 (.int .i64) d]
def DI (a:St):Option U:=fe DG F DH [.r,.r,.r,.l,.r,.b,.i] f128 J n a
abbrev atE:List (Ty×Bool):=[(K43,true),(.sl 3 (.int .i64),false)]
def Gr:=hH DG F DH [.r,.r,.r,.l,.r,.b] f128 atE 2
def KG (a:List D4)(i:Int)(c d e f g:List Int):DI F J (n+1) (u0 a i c d e f g)=br (decide (i<(a.length:Int))) (ck (bE i (a.length:Int)) ((KF F0 (f,g) (aH a i K4.aC)).bind fun b=>ck (en F c.length [b.2.1].length 8) (DI F J n (u0 a (aj (i+1)) (c++[b.2.1]) d e b.1.1 b.1.2)))) (J (.exit 0) (PZ c d e f g)):=by kernel_rfl
def aef (c d e a b:List Int):Gr F (.exit 0) (PZ c d e a b)=some ((a,b),c,()):=by kernel_rfl
abbrev aDu:List (Ty×Bool):=[(K43,true),(K5,false)]
def w2 (l:D43)(a:D5):=bm DG F DH f128 aDu atE 2 (l,a,())
def aok (l:D43)(b:D5):w2 F l b=(qU F0 l).bind fun a=>DI F (Gr F) F.n (u0 b 0 [] [] [] a.1.1 a.1.2):=by kernel_rfl
def Gs:Any:=.one ⟨aDu,atE,2,fun x=>w2 F0 x.1 x.2.1⟩
def Wq:a8 128 Gs:=aq DG ⟨KC,Wp,trivial⟩ func128 DH (by kernel_rfl)
def u1:=[(196,uW),(197,Iv)]
def u2:Nat->Option Hint:=look [(4,{live:=[0,5,6,7],xl:=[5],rl:=[4]})]
def hO (p:List D4)(i:Int)(c:List D4)(a b:List Int):= cR 48 [(0,ia 52 (K4) p),(5,.v (.c (.own 1000000 none))),b1 6,(7,bb i)] [(6,[.own 1000001 none,.own 1000002 none])] [az 1000000 52 K4 c,az 1000001 3 (.int .i64) a,az 1000002 3 (.int .i64) b]
def wm (a:List D4):= cR 48 [(5,.v (.c (.own 1000000 none)))] [] [az 1000000 52 K4 a]
def kv (a:St):Option U:=fe u1 F u2 [.r,.r,.r,.l,.r,.b,.i] f132 J n a
def yW:=hH u1 F u2 [.r,.r,.r,.l,.r,.b] f132 kl 2
def Fk (p:List D4)(i:Int)(a:List D4)(c d:List Int):kv F J (n+1) (hO p i a c d)=br (decide (i<(p.length:Int))) (br (decide ((a.length:Int)<2)) (ck (bE i (p.length:Int)) ((KF F0 (c,d) (aH p i K4.aC)).bind fun b=>br (b.2.1==0) (ck (bE i (p.length:Int)) (ck (en F a.length [(aH p i K4.aC)].length 32) (kv F J n (hO p (aj (i+1)) (a++[(aH p i K4.aC)]) b.1.1 b.1.2)))) (br (b.2.1==4) (ck (bE i (p.length:Int)) (ck (en F a.length [(aH p i K4.aC)].length 32) (kv F J n (hO p (aj (i+1)) (a++[(aH p i K4.aC)]) b.1.1 b.1.2)))) (kv F J n (hO p (aj (i+1)) a c d))))) (J (.exit 0) (wm a))) (J (.exit 0) (wm a)):=by kernel_rfl
def Hd (a:List D4):yW F (.exit 0) (wm a)=some (a,()):=by kernel_rfl
abbrev ajx:List (Ty×Bool):=[(K5,false),(K43,true)]
def oS (p:D5)(l:D43):=bm u1 F u2 f132 ajx kl 2 (p,l,())
def ag3 (p:D5)(l:D43):oS F p l=(qU F0 l).bind fun a=>kv F (yW F) F.n (hO p 0 [] a.1.1 a.1.2):=by kernel_rfl
def MS:Any:=.one ⟨ajx,kl,2,fun x=>oS F0 x.1 x.2.1⟩
def ag4:a8 132 MS:=aq u1 ⟨KC,Wp,trivial⟩ func132 u2 (by kernel_rfl)
def yX:=[(211,lz),(295,Gj)]
def yY:Nat->Option Hint:=look [(3,{live:=[0,3,4],xl:=[3],rl:=[2]})]
def mm (a:List D4)(b:ByteArray)(i:Int):= bU 29 [(0,ia 52 (K4) a),(3,Z0 b),(4,bb i)]
def P0 (a:ByteArray):= bU 29 [(2,Z0 a)]
def MT (a:ByteArray):= bU 29 [(3,Z0 a)]
def qV (a:St):Option U:=fe yX F yY [.r,.r,.l,.r,.b,.i] f255 J n a
def rZ:=hH yX F yY [.r,.r,.l,.r,.b] f255 dC 1
def He (a:List D4)(b:ByteArray)(i:Int):qV F J (n+1) (mm a b i)=br (decide (i<(a.length:Int))) (ck (bE i (a.length:Int)) ((rQ F0 (aH a i K4.aC)).bind fun d=>br (!d.1) (J .ret (P0 ak)) (br (decide (i>0)) (ck (UU F b.size (ByteArray.mk #[44]).size) (ck (bE i (a.length:Int)) ((wV F0 (aH a i K4.aC)).bind fun c=>ck (UU F (b++(ByteArray.mk #[44])).size c.1.size) (qV F J n (mm a ((b++(ByteArray.mk #[44]))++c.1) (aj (i+1))))))) (ck (bE i (a.length:Int)) ((wV F0 (aH a i K4.aC)).bind fun c=>ck (UU F b.size c.1.size) (qV F J n (mm a (b++c.1) (aj (i+1))))))))) (J (.exit 0) (MT b)):=by kernel_rfl
def aeg (a:ByteArray):rZ F .ret (P0 a)=some (a,()):=by kernel_rfl
def ab8 (a:ByteArray):rZ F (.exit 0) (MT a)=some (a,()):=by kernel_rfl
def Iw (a:D5):=bm yX F yY f255 kl dC 1 (a,())
def ak8 (a:D5):Iw F a=qV F (rZ F) F.n (mm a ak 0):=by kernel_rfl
def P1:Any:=.one ⟨kl,dC,1,fun x=>Iw F0 x.1⟩
def ak9:a8 255 P1:=aq yX ⟨rR,V5,trivial⟩ func255 yY (by kernel_rfl)
def DJ:=[(78,eO),(211,lz),(254,uw),(255,P1)]
def DK:Nat->Option Hint:=look [(2,{live:=[0,1,2,7],xl:=[0,1,2],rl:=[6]})]
def u3 (a:ByteArray)(b:Int)(c:List D4)(i:Int):= bU 34 [(0,Z0 a),(1,bb b),(2,ia 52 (K4) c),(7,bb i)]
def Ts (a:ByteArray):= bU 34 [(6,Z0 a)]
def P2 (a:ByteArray)(b:Int)(c:List D4):= bU 34 [(0,Z0 a),(1,bb b),(2,ia 52 (K4) c)]
def DL (a:St):Option U:=fe DJ F DK [.r,.l,.r,.b,.i] f198 J n a
def u4:=hH DJ F DK [.r,.l,.r,.b] f198 dC 1
def KH (b:ByteArray)(c:Int)(a:List D4)(i:Int):DL F J (n+1) (u3 b c a i)=br (decide (i<(a.length:Int))) (ck (bE i (a.length:Int)) ((rQ F0 (aH a i K4.aC)).bind fun d=>br (!d.1) (J .ret (Ts ak)) (DL F J n (u3 b c a (aj (i+1)))))) (J (.exit 0) (P2 b c a)):=by kernel_rfl
def ag5 (a:ByteArray):u4 F .ret (Ts a)=some (a,()):=by kernel_rfl
def aeh (a:ByteArray)(d:Int)(e:List D4):u4 F (.exit 0) (P2 a d e)=ck (UU F a.size (ByteArray.mk #[47]).size) ((kM F0 d).bind fun b=>ck (UU F (a++(ByteArray.mk #[47])).size b.1.size) (ck (UU F ((a++(ByteArray.mk #[47]))++b.1).size (ByteArray.mk #[124]).size) ((Iw F0 e).bind fun c=>ck (UU F (((a++(ByteArray.mk #[47]))++b.1)++(ByteArray.mk #[124])).size c.1.size) ((eZ F0 ((((a++(ByteArray.mk #[47]))++b.1)++(ByteArray.mk #[124]))++c.1)).bind fun f=>br (!f.1) (some (ak,())) (some ((((a++(ByteArray.mk #[47]))++b.1)++(ByteArray.mk #[124]))++c.1,())))))):=by kernel_rfl
abbrev aDv:List (Ty×Bool):=[(.str,false),(.int .i64,false),(K5,false)]
def aas (a:ByteArray)(b:Int)(c:D5):=bm DJ F DK f198 aDv dC 1 (a,b,c,())
def Wr:∃f,f= @aas:=⟨_,rfl⟩
def kS:=Classical.choose Wr
def Tt: @kS= @aas:=Classical.choose_spec Wr
def aol (a:ByteArray)(b:Int)(c:D5):kS F a b c=DL F (u4 F) F.n (u3 a b c 0):=by rw[Tt];kernel_rfl
def Gt:Any:=.one ⟨aDv,dC,1,fun x=>kS F0 x.1 x.2.1 x.2.2.1⟩
def Ws:a8 198 Gt:=ok1 (show yh Tryz.prog TB DJ from⟨gQ,rR,Kk,ak9,trivial⟩) func198 (by kernel_rfl) (by kernel_rfl) DK (by rw[Tt];kernel_rfl)
def Tu:=[(79,di),(136,ie),(198,Gt),(199,l6)]
abbrev ajy:List (Ty×Bool):=[(K15,true),(.bool,false)]
abbrev aDw:List (Ty×Bool):=[(K1,true),(K9,true),(.int .i64,false),(K5,false)]
def oT (c:D1)(q:D9)(a:Int)(b:D5):=bm Tu F ad f131 aDw ajy 2 (c,q,a,b,())
def ag6 (c:D1)(q:D9)(b:Int)(e:D5):oT F c q b e=(kS F0 q.2.1 b e).bind fun a=>(jv F0 q).bind fun d=>(nB F0 c (a.1,d.1)).bind fun f=>br (!f.1) (some ((ak,0,ak,[]),false,())) ((du F0 a.1).bind fun g=>br (g.1 != b) (some ((ak,0,ak,[]),false,())) (some ((a.1,d.1),true,()))):=by kernel_rfl
def yZ:Any:=.one ⟨aDw,ajy,2,fun x=>oT F0 x.1 x.2.1 x.2.2.1 x.2.2.2.1⟩
def P3:a8 131 yZ:=aq Tu ⟨eH,me,Ws,uE,trivial⟩ func131 ad (by kernel_rfl)
def aom:=[(74,cn),(125,jw),(126,pq),(127,uz),(128,Gs),(129,wi),(130,KB),(131,yZ),(132,MS)]
def Wt (c:D1)(r:a7):=bm aom F ad f67 x4 ajy 2 (c,r,())
def ays (c:D1)(r:a7):Wt F c r=(dx F0 c r).bind fun g=>br (!g.1) (some ((ak,0,ak,[]),false,())) ((mj F0 c r.2.1).bind fun h=>br (h.1 != r.1) (some ((ak,0,ak,[]),false,())) (br (decide (r.2.2.1>=r.2.1)) (some ((ak,0,ak,[]),false,())) ((oR F0 r.2.2.2.2.2.1 r.2.1 ak).bind fun i=>br (r.2.2.2.1.2.2.1.1 != (aj (r.2.1-1))) ((wW F0 c).bind fun j=>br (decide ((i.1.2.2.length:Int)<j.1)) (some ((ak,0,ak,[]),false,())) ((ml F0).bind fun b=>(wj F0 r.2.2.2.1.2.2.1.2.1).bind fun d=>(w2 F0 b.1 d.1).bind fun e=>(oS F0 r.2.2.2.2.1 e.1).bind fun f=>(oT F0 c r.2.2.2.1.2.2.1 r.2.1 f.1).bind fun a=>some (a.1,a.2.1,()))) ((ml F0).bind fun b=>(wj F0 r.2.2.2.1.2.2.1.2.1).bind fun d=>(w2 F0 b.1 d.1).bind fun e=>(oS F0 r.2.2.2.2.1 e.1).bind fun f=>(oT F0 c r.2.2.2.1.2.2.1 r.2.1 f.1).bind fun a=>some (a.1,a.2.1,()))))):=by kernel_rfl
def R3:Any:=.one ⟨x4,ajy,2,fun x=>Wt F0 x.1 x.2.1⟩
def ajz:a8 67 R3:=aq aom ⟨cU,nE,Cv,Km,Wq,MP,aar,P3,ag4,trivial⟩ func67 ad (by kernel_rfl)
def DM:Nat->Option Hint:=look [(2,{live:=[0,1,5],rl:=[4]})]
def u5 (s:List Int)(i k:Int):= bU 18 [(0,ia 3 (.int .i64) s),(1,bb i),(5,bb k)]
def Tv (a:Bool):= bU 18 [(4,JH a)]
def P4   := bU 18 []
def DN (a:St):Option U:=fe aB F DM [.r,.l,.r,.b,.i] f68 J n a
def u6:=hH aB F DM [.r,.l,.r,.b] f68 aP 1
def KI (s:List Int)(i k:Int):DN F J (n+1) (u5 s i k)=br (decide (k<(s.length:Int))) (ck (bE k (s.length:Int)) (br ((aH s k 0)==i) (J .ret (Tv true)) (DN F J n (u5 s i (aj (k+1)))))) (J (.exit 0) (P4)):=by kernel_rfl
def ag7 (a:Bool):u6 F .ret (Tv a)=some (a,()):=by kernel_rfl
def aei: u6 F (.exit 0) (P4)=some (false,()):=by kernel_rfl
abbrev Tw:List (Ty×Bool):=[(.sl 3 (.int .i64),false),(.int .i64,false)]
def cX (s:List Int)(i:Int):=bm aB F DM f68 Tw aP 1 (s,i,())
def aon (s:List Int)(i:Int):cX F s i=DN F (u6 F) F.n (u5 s i 0):=by kernel_rfl
def cN:Any:=.one ⟨Tw,aP,1,fun x=>cX F0 x.1 x.2.1⟩
def dL:a8 68 cN:=aq aB trivial func68 DM (by kernel_rfl)
def KJ:=[(25,ee),(62,nz)]
def mn (c:D2):=Fa KJ F ad f69 jQ 0 .cur Z6 jQ 1 (c,())
def Zn (c:D2):mn F c=(ax F0 c 4).bind fun a=>(ax F0 a.2.1 4).bind fun b=>(jR F0 b.2.1 [0,5,60,100,1000]).bind fun d=>(ax F0 d.2.1 3).bind fun e=>some (((a.1.1,b.1.1,d.1.1,e.1.1),()),e.2.1,()):=by kernel_rfl
def q0:Any:=.two ⟨jQ,0,.cur,Z6,1,jQ,fun x=>mn F0 x.1⟩
def Hf:a8 69 q0:=V0 KJ ⟨fP,yl,trivial⟩ func69 ad (by kernel_rfl)
def bK (a b:Int):=bm aB F ad f71 atB cF 1 (a,b,())
def ar8 (a b:Int):bK F a b=br (decide (a<b)) (some (a,())) (some (b,())):=by kernel_rfl
def jV:Any:=.one ⟨atB,cF,1,fun x=>bK F0 x.1 x.2.1⟩
def oU:a8 71 jV:=aq aB trivial func71 ad (by kernel_rfl)
def DO:=[(68,cN)]
def DP:Nat->Option Hint:=look [(4,{live:=[0,1,5],xl:=[0,1,5],rl:=[4]})]
def u7 (s:List Int)(i a:Int):= bU 41 [(0,ia 3 (.int .i64) s),(1,bb i),(5,bb a)]
def r0 (s:List Int)(i a:Int):= bU 41 [(0,ia 3 (.int .i64) s),(1,bb i),(5,bb a)]
def DQ (a:St):Option U:=fe DO F DP [.r,.r,.r,.l,.b,.i] f201 J n a
def u9:=hH DO F DP [.r,.r,.r,.l,.b] f201 ko 2
def KK (s:List Int)(i a:Int):DQ F J (n+1) (u7 s i a)=br (decide (a<(s.length:Int))) (ck (bE a (s.length:Int)) (br (decide ((aH s a 0)<i)) (DQ F J n (u7 s i (aj (a+1)))) (J (.exit 0) (r0 s i a)))) (J (.exit 0) (r0 s i a)):=by kernel_rfl
def aej (s:List Int)(i a:Int):u9 F (.exit 0) (r0 s i a)=ck (RZ 0 a (s.length:Int)) (ck (en F 0 ((s.take a.toNat).drop (0:Int).toNat).length 8) (ck (en F ([]++((s.take a.toNat).drop (0:Int).toNat)).length [i].length 8) (ck (RZ a (s.length:Int) (s.length:Int)) (ck (en F (([]++((s.take a.toNat).drop (0:Int).toNat))++[i]).length ((s.take (s.length:Int).toNat).drop a.toNat).length 8) (some ((([]++((s.take a.toNat).drop (0:Int).toNat))++[i])++((s.take (s.length:Int).toNat).drop a.toNat),())))))):=by kernel_rfl
def w3 (s:List Int)(i:Int):=bm DO F DP f201 Tw ko 2 (s,i,())
def aoo (s:List Int)(i:Int):w3 F s i=(cX F0 s i).bind fun a=>br a.1 (ck (en F 0 s.length 8) (some ([]++s,()))) (DQ F (u9 F) F.n (u7 s i 0)):=by kernel_rfl
def Gu:Any:=.one ⟨Tw,ko,2,fun x=>w3 F0 x.1 x.2.1⟩
def Wu:a8 201 Gu:=aq DO ⟨dL,trivial⟩ func201 DP (by kernel_rfl)
end
end Go.Am.Tryz
namespace Go.Am.Tryz
open Go.Am Go.Proofs Go.Proofs.Tryz
noncomputable section
variable {U:Type} (F:rH) (J:Ex->St->Option U) (n:Nat)
def lR:=[(25,ee),(63,om),(71,jV),(198,Gt),(200,tQ),(201,Gu)]
def lS:Nat->Option Hint:=look [(11,{live:=[3,4,5,6,7,9],yc:=[(4,5,3,.int .i64),(4,8,3,.int .i64),(4,11,3,.int .i64)],xl:=[4,5,6,7],rl:=[4]})]
def cr (r:Int)(name:ByteArray)(i:Int)(a:List Int)(b c w d:Int)(e:List Int)(f:List a7)(g:List bS)(h:List bF)(s t:Int)(u:ByteArray)(v:Int)(x:ByteArray)(y:Int)(z:ByteArray)(A:Int)(B:ByteArray)(C j k l m:Int)(D o p q:List Int):St:={nt:=89,tm:=[b1 3,b1 4,(5,bb r),(6,Z0 name),(7,.v (.c (.own 1000000 none))),(9,bb i)],bx:=[(4000000,[.ro true 5 (.int .u8) a,ao b,ao c]),(3,[ao w,ao d,.ro false 3 (.int .i64) e,.ro false 65 (b8) f,.ro false 105 (ek) g,.ro false 41 (cz) h]),(4,[ao s,ao t,.str u,ao v,.str x,.own 1000001 none,ao y,.str z,.own 1000002 none,ao A,.str B,.own 1000003 none,ao C,ao j,ao k,ao l,ao m])],bl:=[az 1000000 3 (.int .i64) D,az 1000001 3 (.int .i64) o,az 1000002 3 (.int .i64) p,az 1000003 3 (.int .i64) q],sp:=.v (.c (.ptr 4000000 0))}
def y0 (k:Int)(name:ByteArray)(a:List Int)(b c l m:Int)(o:ByteArray)(p:Int)(q:ByteArray)(r:Int)(s:ByteArray)(t:Int)(u:ByteArray)(v d e f g:Int)(w h i j:List Int):St:={nt:=89,tm:=[b1 4,(5,bb k),(6,Z0 name),(7,.v (.c (.own 1000000 none)))],bx:=[(4000000,[.ro true 5 (.int .u8) a,ao b,ao c]),(4,[ao l,ao m,.str o,ao p,.str q,.own 1000001 none,ao r,.str s,.own 1000002 none,ao t,.str u,.own 1000003 none,ao v,ao d,ao e,ao f,ao g])],bl:=[az 1000000 3 (.int .i64) w,az 1000001 3 (.int .i64) h,az 1000002 3 (.int .i64) i,az 1000003 3 (.int .i64) j],sp:=.v (.c (.ptr 4000000 0))}
def cL (a:St):Option U:=fe lR F lS [.r,.r,.r,.r,.r,.l,.r,.b,.i] f133 J n a
def eB:=ayn lR F lS [.r,.r,.r,.r,.r,.l,.r,.b] f133 .cur wZ jQ 2
def tT (b:Int)(name:ByteArray)(i:Int)(c:List Int)(d e w A:Int)(B:List Int)(C:List a7)(D:List bS)(a:List bF)(o p:Int)(q:ByteArray)(r:Int)(s:ByteArray)(t:Int)(u:ByteArray)(v:Int)(x:ByteArray)(y f g h j:Int)(z k l m:List Int):cL F J (n+1) (cr b name i c d e w A B C D a o p q r s t u v x y f g h j z k l m)=br (decide (i<(a.length:Int))) (ck (bE i (a.length:Int)) (br ((aH a i cz.aC).1==b) (ck (bE i (a.length:Int)) (br ((aH a i cz.aC).2.1.toList==name.toList) (ck (bE i (a.length:Int)) ((w3 F0 z (aH a i cz.aC).2.2).bind fun E=>cL F J n (cr b name (aj (i+1)) c d e w A B C D a o p q r s t u v x y f g h j E.1 k l m))) (cL F J n (cr b name (aj (i+1)) c d e w A B C D a o p q r s t u v x y f g h j z k l m)))) (cL F J n (cr b name (aj (i+1)) c d e w A B C D a o p q r s t u v x y f g h j z k l m)))) (J (.exit 0) (y0 b name c d e o p q r s t u v x y f g h j z k l m)):=by kernel_rfl
def P5 (d:Int)(name:ByteArray)(a:List Int)(b c m o:Int)(p:ByteArray)(q:Int)(r:ByteArray)(s:Int)(t:ByteArray)(u:Int)(v:ByteArray)(w f g h i:Int)(e j k l:List Int):eB F (.exit 0) (y0 d name a b c m o p q r s t u v w f g h i e j k l)=some (((2,0,(ak,0,ak,[]),(d,name,e),(0,ak,[]),0,0,0,0,0),()),(a,b,c),()):=by kernel_rfl
abbrev atF:List (Ty×Bool):=[(K2,true),(hJ,true)]
def pw (c:D2)(w:lx):=Fa lR F lS f133 atF 0 .cur wZ jQ 2 (c,w,())
def Wv (c:D2)(w:lx):pw F c w=(ax F0 c 4).bind fun d=>(kS F0 ak (aj (1+d.1.1)) []).bind fun e=>ck (en F 0 w.2.1.length 8) (br (decide ((w.2.2.2.2.length:Int)>0)) ((bK F0 (w.2.2.2.2.length:Int) 8).bind fun f=>(ax F0 d.2.1 f.1).bind fun a=>ck (bE (aj ((aj ((w.2.2.2.2.length:Int)-1))-a.1.1)) (w.2.2.2.2.length:Int)) ((nj F0 a.2.1 3).bind fun b=>br b.1.1 ((l5 F0 (aH w.2.2.2.2 (aj ((aj ((w.2.2.2.2.length:Int)-1))-a.1.1)) cz.aC).2.1).bind fun g=>(kS F0 g.1 (aH w.2.2.2.2 (aj ((aj ((w.2.2.2.2.length:Int)-1))-a.1.1)) cz.aC).1 [(1,0,1,0)]).bind fun h=>cL F (eB F) F.n (cr (aH w.2.2.2.2 (aj ((aj ((w.2.2.2.2.length:Int)-1))-a.1.1)) cz.aC).1 h.1 0 b.2.1.1 b.2.1.2.1 b.2.1.2.2 w.1.1 w.1.2 w.2.1 w.2.2.1 w.2.2.2.1 w.2.2.2.2 0 0 ak 0 ak 0 ak 0 ak 0 0 0 0 0 ([]++w.2.1) [] [] [])) (cL F (eB F) F.n (cr (aH w.2.2.2.2 (aj ((aj ((w.2.2.2.2.length:Int)-1))-a.1.1)) cz.aC).1 (aH w.2.2.2.2 (aj ((aj ((w.2.2.2.2.length:Int)-1))-a.1.1)) cz.aC).2.1 0 b.2.1.1 b.2.1.2.1 b.2.1.2.2 w.1.1 w.1.2 w.2.1 w.2.2.1 w.2.2.2.1 w.2.2.2.2 0 0 ak 0 ak 0 ak 0 ak 0 0 0 0 0 ([]++w.2.1) [] [] [])))) (cL F (eB F) F.n (cr (aj (1+d.1.1)) e.1 0 d.2.1.1 d.2.1.2.1 d.2.1.2.2 w.1.1 w.1.2 w.2.1 w.2.2.1 w.2.2.2.1 w.2.2.2.2 0 0 ak 0 ak 0 ak 0 ak 0 0 0 0 0 ([]++w.2.1) [] [] []))):=by kernel_rfl
def BM:Any:=.two ⟨atF,0,.cur,wZ,2,jQ,fun x=>pw F0 x.1 x.2.1⟩
def Ww:a8 133 BM:=V0 lR ⟨fP,ym,oU,Ws,Im,Wu,trivial⟩ func133 lS (by kernel_rfl)
def Ix: Option (Args gv):=bm aB F ad f135 [] gv 2 (())
def ala: Ix F= some ((0,ak,[]),()):=by kernel_rfl
def P6:Any:=.one ⟨[],gv,2,fun x=>Ix F0⟩
def alb:a8 135 P6:=aq aB trivial func135 ad (by kernel_rfl)
def px:=[(25,ee),(63,om),(69,q0),(71,jV),(125,jw),(131,yZ),(133,BM),(134,gA),(135,P6),(136,ie)]
def py:Nat->Option Hint:=look [(17,{live:=[0,3,4,6,7,8,9],yc:=[(4,5,3,.int .i64),(4,8,3,.int .i64),(4,11,3,.int .i64)],xl:=[0,3,4,6,8],rl:=[4]})]
def bn (cw t k:Int)(a:List Int)(b c w d:Int)(e:List Int)(f:List a7)(g:List bS)(h:List bF)(u v:Int)(x:ByteArray)(y:Int)(z:ByteArray)(A:Int)(B:ByteArray)(C:Int)(D:ByteArray)(E i j l m q:Int)(o:ByteArray)(G p r s:List Int):St:={nt:=115,tm:=[(0,.v (.c (.ptr 4000000 0))),b1 3,b1 4,b1 6,(7,bb cw),(8,bb t),(9,bb k)],bx:=[(4000000,[.ro true 5 (.int .u8) a,ao b,ao c]),(3,[ao w,ao d,.ro false 3 (.int .i64) e,.ro false 65 (b8) f,.ro false 105 (ek) g,.ro false 41 (cz) h]),(4,[ao u,ao v,.str x,ao y,.str z,.own 1000000 none,ao A,.str B,.own 1000001 none,ao C,.str D,.own 1000002 none,ao E,ao i,ao j,ao l,ao m]),(6,[ao q,.str o,.own 1000003 none])],bl:=[az 1000000 3 (.int .i64) G,az 1000001 3 (.int .i64) p,az 1000002 3 (.int .i64) r,az 1000003 3 (.int .i64) s],sp:=.v (.c (.ptr 4000000 0))}
def gU (s:Int)(a:List Int)(b c w d:Int)(e:List Int)(f:List a7)(g:List bS)(h:List bF)(t u:Int)(v:ByteArray)(x:Int)(y:ByteArray)(z:Int)(A:ByteArray)(B:Int)(C:ByteArray)(D i j k l q:Int)(m:ByteArray)(E o p r:List Int):St:={nt:=115,tm:=[(0,.v (.c (.ptr 4000000 0))),b1 3,b1 4,b1 6,(8,bb s)],bx:=[(4000000,[.ro true 5 (.int .u8) a,ao b,ao c]),(3,[ao w,ao d,.ro false 3 (.int .i64) e,.ro false 65 (b8) f,.ro false 105 (ek) g,.ro false 41 (cz) h]),(4,[ao t,ao u,.str v,ao x,.str y,.own 1000000 none,ao z,.str A,.own 1000001 none,ao B,.str C,.own 1000002 none,ao D,ao i,ao j,ao k,ao l]),(6,[ao q,.str m,.own 1000003 none])],bl:=[az 1000000 3 (.int .i64) E,az 1000001 3 (.int .i64) o,az 1000002 3 (.int .i64) p,az 1000003 3 (.int .i64) r],sp:=.v (.c (.ptr 4000000 0))}
def bL (a:St):Option U:=fe px F py [.r,.r,.r,.r,.r,.r,.r,.r,.l,.r,.b,.i] f70 J n a
def bo:=ayn px F py [.r,.r,.r,.r,.r,.r,.r,.r,.l,.r,.b] f70 .cur wZ jQ 2
def y1 (cw a k:Int)(c:List Int)(d e w b:Int)(f:List Int)(g:List a7)(h:List bS)(i:List bF)(u v:Int)(x:ByteArray)(y:Int)(z:ByteArray)(A:Int)(B:ByteArray)(C:Int)(D:ByteArray)(E j l m o q:Int)(p:ByteArray)(G r s t:List Int):bL F J (n+1) (bn cw a k c d e w b f g h i u v x y z A B C D E j l m o q p G r s t)=br (decide (k<7)) (br (decide (a<60)) ((mj F0 (w,b) a).bind fun H=>br (H.1 != cw) (bL F J n (bn cw (aj (a+1)) (aj (k+1)) c d e w b f g h i u v x y z A B C D E j l m o q p G r s t)) (J (.exit 1) (gU a c d e w b f g h i u v x y z A B C D E j l m o q p G r s t))) (J (.exit 1) (gU a c d e w b f g h i u v x y z A B C D E j l m o q p G r s t))) (J (.exit 1) (gU a c d e w b f g h i u v x y z A B C D E j l m o q p G r s t)):=by kernel_rfl
def U1 (h:Int)(a:List Int)(b c w d:Int)(i:List Int)(j:List a7)(k:List bS)(l:List bF)(v x:Int)(y:ByteArray)(z:Int)(A:ByteArray)(B:Int)(C:ByteArray)(D:Int)(E:ByteArray)(G m o p r q:Int)(e:ByteArray)(H s t f:List Int):bo F (.exit 1) (gU h a b c w d i j k l v x y z A B C D E G m o p r q e H s t f)=(mn F0 (a,b,c)).bind fun g=>(oT F0 (w,d) (q,e,f) h [g.1.1]).bind fun u=>some (((1,0,u.1,(0,ak,[]),(0,ak,[]),0,0,0,0,0),()),g.2.1,()):=by kernel_rfl
def ig (c:D2)(w:lx):=Fa px F py f70 atF 0 .cur wZ jQ 2 (c,w,())
def ab9 (c:D2)(w:lx):ig F c w=(pw F0 c w).bind fun b=>(ku F0 w.1 b.1.1.2.2.2.1).bind fun k=>br (!k.1) ((Ix F0).bind fun d=>br (decide ((w.2.2.1.length:Int)>0)) ((nj F0 b.2.1 2).bind fun i=>br i.1.1 ((ax F0 i.2.1 (w.2.2.1.length:Int)).bind fun j=>ck (bE j.1.1 (w.2.2.1.length:Int)) ((jv F0 (aH w.2.2.1 j.1.1 b8.aC).2.2.2.1.2.2.1).bind fun h=>br (decide ((w.2.1.length:Int)>0)) ((ax F0 j.2.1 (w.2.1.length:Int)).bind fun f=>ck (bE f.1.1 (w.2.1.length:Int)) ((ax F0 f.2.1 4).bind fun a=>br (a.1.1==0) (some ((b.1.1,()),a.2.1,())) (br (a.1.1==1) ((ax F0 a.2.1 2).bind fun e=>(bK F0 (aj ((aj (h.1.1+1))+e.1.1)) 60).bind fun g=>some (((3,g.1,(ak,0,ak,[]),(0,ak,[]),h.1,aH w.2.1 f.1.1 0,0,0,0,0),()),e.2.1,())) (bL F (bo F) F.n (bn (aH w.2.1 f.1.1 0) (aj (h.1.1+1)) 0 a.2.1.1 a.2.1.2.1 a.2.1.2.2 w.1.1 w.1.2 w.2.1 w.2.2.1 w.2.2.2.1 w.2.2.2.2 0 0 ak 0 ak 0 ak 0 ak 0 0 0 0 0 h.1.1 h.1.2.1 [] [] [] h.1.2.2))))) ((ax F0 j.2.1 4).bind fun a=>br (a.1.1==0) (some ((b.1.1,()),a.2.1,())) (br (a.1.1==1) ((ax F0 a.2.1 2).bind fun e=>(bK F0 (aj ((aj (h.1.1+1))+e.1.1)) 60).bind fun g=>some (((3,g.1,(ak,0,ak,[]),(0,ak,[]),h.1,0,0,0,0,0),()),e.2.1,())) (bL F (bo F) F.n (bn 0 (aj (h.1.1+1)) 0 a.2.1.1 a.2.1.2.1 a.2.1.2.2 w.1.1 w.1.2 w.2.1 w.2.2.1 w.2.2.2.1 w.2.2.2.2 0 0 ak 0 ak 0 ak 0 ak 0 0 0 0 0 h.1.1 h.1.2.1 [] [] [] h.1.2.2)))))) (br (decide ((w.2.1.length:Int)>0)) ((ax F0 i.2.1 (w.2.1.length:Int)).bind fun f=>ck (bE f.1.1 (w.2.1.length:Int)) ((ax F0 f.2.1 4).bind fun a=>br (a.1.1==0) (some ((b.1.1,()),a.2.1,())) (br (a.1.1==1) ((ax F0 a.2.1 2).bind fun e=>(bK F0 (aj ((aj (d.1.1+1))+e.1.1)) 60).bind fun g=>some (((3,g.1,(ak,0,ak,[]),(0,ak,[]),d.1,aH w.2.1 f.1.1 0,0,0,0,0),()),e.2.1,())) (bL F (bo F) F.n (bn (aH w.2.1 f.1.1 0) (aj (d.1.1+1)) 0 a.2.1.1 a.2.1.2.1 a.2.1.2.2 w.1.1 w.1.2 w.2.1 w.2.2.1 w.2.2.2.1 w.2.2.2.2 0 0 ak 0 ak 0 ak 0 ak 0 0 0 0 0 d.1.1 d.1.2.1 [] [] [] d.1.2.2))))) ((ax F0 i.2.1 4).bind fun a=>br (a.1.1==0) (some ((b.1.1,()),a.2.1,())) (br (a.1.1==1) ((ax F0 a.2.1 2).bind fun e=>(bK F0 (aj ((aj (d.1.1+1))+e.1.1)) 60).bind fun g=>some (((3,g.1,(ak,0,ak,[]),(0,ak,[]),d.1,0,0,0,0,0),()),e.2.1,())) (bL F (bo F) F.n (bn 0 (aj (d.1.1+1)) 0 a.2.1.1 a.2.1.2.1 a.2.1.2.2 w.1.1 w.1.2 w.2.1 w.2.2.1 w.2.2.2.1 w.2.2.2.2 0 0 ak 0 ak 0 ak 0 ak 0 0 0 0 0 d.1.1 d.1.2.1 [] [] [] d.1.2.2)))))) (br (decide ((w.2.1.length:Int)>0)) ((ax F0 b.2.1 (w.2.1.length:Int)).bind fun f=>ck (bE f.1.1 (w.2.1.length:Int)) ((ax F0 f.2.1 4).bind fun a=>br (a.1.1==0) (some ((b.1.1,()),a.2.1,())) (br (a.1.1==1) ((ax F0 a.2.1 2).bind fun e=>(bK F0 (aj ((aj (d.1.1+1))+e.1.1)) 60).bind fun g=>some (((3,g.1,(ak,0,ak,[]),(0,ak,[]),d.1,aH w.2.1 f.1.1 0,0,0,0,0),()),e.2.1,())) (bL F (bo F) F.n (bn (aH w.2.1 f.1.1 0) (aj (d.1.1+1)) 0 a.2.1.1 a.2.1.2.1 a.2.1.2.2 w.1.1 w.1.2 w.2.1 w.2.2.1 w.2.2.2.1 w.2.2.2.2 0 0 ak 0 ak 0 ak 0 ak 0 0 0 0 0 d.1.1 d.1.2.1 [] [] [] d.1.2.2))))) ((ax F0 b.2.1 4).bind fun a=>br (a.1.1==0) (some ((b.1.1,()),a.2.1,())) (br (a.1.1==1) ((ax F0 a.2.1 2).bind fun e=>(bK F0 (aj ((aj (d.1.1+1))+e.1.1)) 60).bind fun g=>some (((3,g.1,(ak,0,ak,[]),(0,ak,[]),d.1,0,0,0,0,0),()),e.2.1,())) (bL F (bo F) F.n (bn 0 (aj (d.1.1+1)) 0 a.2.1.1 a.2.1.2.1 a.2.1.2.2 w.1.1 w.1.2 w.2.1 w.2.2.1 w.2.2.2.1 w.2.2.2.2 0 0 ak 0 ak 0 ak 0 ak 0 0 0 0 0 d.1.1 d.1.2.1 [] [] [] d.1.2.2)))))) (br (decide ((w.2.1.length:Int)>0)) ((ax F0 b.2.1 (w.2.1.length:Int)).bind fun f=>ck (bE f.1.1 (w.2.1.length:Int)) ((ax F0 f.2.1 4).bind fun a=>br (a.1.1==0) (some ((b.1.1,()),a.2.1,())) (br (a.1.1==1) ((ax F0 a.2.1 2).bind fun e=>(bK F0 (aj ((aj (b.1.1.2.2.2.1.1+1))+e.1.1)) 60).bind fun g=>some (((3,g.1,(ak,0,ak,[]),(0,ak,[]),b.1.1.2.2.2.1,aH w.2.1 f.1.1 0,0,0,0,0),()),e.2.1,())) (bL F (bo F) F.n (bn (aH w.2.1 f.1.1 0) (aj (b.1.1.2.2.2.1.1+1)) 0 a.2.1.1 a.2.1.2.1 a.2.1.2.2 w.1.1 w.1.2 w.2.1 w.2.2.1 w.2.2.2.1 w.2.2.2.2 0 0 ak 0 ak 0 ak 0 ak 0 0 0 0 0 b.1.1.2.2.2.1.1 b.1.1.2.2.2.1.2.1 [] [] [] b.1.1.2.2.2.1.2.2))))) ((ax F0 b.2.1 4).bind fun a=>br (a.1.1==0) (some ((b.1.1,()),a.2.1,())) (br (a.1.1==1) ((ax F0 a.2.1 2).bind fun e=>(bK F0 (aj ((aj (b.1.1.2.2.2.1.1+1))+e.1.1)) 60).bind fun g=>some (((3,g.1,(ak,0,ak,[]),(0,ak,[]),b.1.1.2.2.2.1,0,0,0,0,0),()),e.2.1,())) (bL F (bo F) F.n (bn 0 (aj (b.1.1.2.2.2.1.1+1)) 0 a.2.1.1 a.2.1.2.1 a.2.1.2.2 w.1.1 w.1.2 w.2.1 w.2.2.1 w.2.2.2.1 w.2.2.2.2 0 0 ak 0 ak 0 ak 0 ak 0 0 0 0 0 b.1.1.2.2.2.1.1 b.1.1.2.2.2.1.2.1 [] [] [] b.1.1.2.2.2.1.2.2))))):=by kernel_rfl
def Hg:Any:=.two ⟨atF,0,.cur,wZ,2,jQ,fun x=>ig F0 x.1 x.2.1⟩
def aca:a8 70 Hg:=V0 px ⟨fP,ym,Hf,oU,nE,P3,Ww,kN,alb,me,trivial⟩ func70 py (by kernel_rfl)
def fZ:=[(25,ee),(62,nz),(63,om),(66,gR),(67,R3),(68,cN),(69,q0),(70,Hg),(71,jV)]
def ga:Nat->Option Hint:=look [(8,{live:=[3,4,5,6,7],yc:=[(4,8,3,.int .i64),(4,11,3,.int .i64),(4,14,3,.int .i64)],xl:=[4,6],rl:=[4]}),(19,{live:=[0,3,4,5,6,10],yc:=[(4,8,3,.int .i64),(4,11,3,.int .i64),(4,14,3,.int .i64)],xl:=[0,3,4,6],rl:=[4]})]
def cY (b a k:Int)(c:List Int)(d e w f:Int)(g:List Int)(h:List a7)(i:List bS)(j:List bF)(v x y z A:Int)(B:ByteArray)(C:Int)(D:ByteArray)(E:Int)(G:ByteArray)(l:Int)(m:ByteArray)(o p q r s:Int)(H t u:List Int):St:={nt:=152,tm:=[(0,.v (.c (.ptr 4000000 0))),b1 3,b1 4,(5,bb b),(6,bb a),(10,bb k)],bx:=[(4000000,[.ro true 5 (.int .u8) c,ao d,ao e]),(3,[ao w,ao f,.ro false 3 (.int .i64) g,.ro false 65 (b8) h,.ro false 105 (ek) i,.ro false 41 (cz) j]),(4,[ao v,ao x,ao y,ao z,ao A,.str B,ao C,.str D,.own 1000000 none,ao E,.str G,.own 1000001 none,ao l,.str m,.own 1000002 none,ao o,ao p,ao q,ao r,ao s])],bl:=[az 1000000 3 (.int .i64) H,az 1000001 3 (.int .i64) t,az 1000002 3 (.int .i64) u],sp:=.v (.c (.ptr 4000000 0))}
def Fl (a:List Int)(b c k l m o p:Int)(q:ByteArray)(r:Int)(s:ByteArray)(t:Int)(u:ByteArray)(d:Int)(e:ByteArray)(f g h i j:Int):St:={nt:=152,tm:=[b1 4],bx:=[(4000000,[.ro true 5 (.int .u8) a,ao b,ao c]),(4,[ao k,ao l,ao m,ao o,ao p,.str q,ao r,.str s,.nil,ao t,.str u,.nil,ao d,.str e,.nil,ao f,ao g,ao h,ao i,ao j])],bl:=[],sp:=.v (.c (.ptr 4000000 0))}
def BN (a:Int)(b:List Int)(c d w e:Int)(f:List Int)(g:List a7)(h:List bS)(i:List bF)(t u v x y:Int)(z:ByteArray)(A:Int)(B:ByteArray)(C:Int)(D:ByteArray)(j:Int)(k:ByteArray)(l m o p q:Int)(E r s:List Int):St:={nt:=152,tm:=[(0,.v (.c (.ptr 4000000 0))),b1 3,b1 4,(6,bb a)],bx:=[(4000000,[.ro true 5 (.int .u8) b,ao c,ao d]),(3,[ao w,ao e,.ro false 3 (.int .i64) f,.ro false 65 (b8) g,.ro false 105 (ek) h,.ro false 41 (cz) i]),(4,[ao t,ao u,ao v,ao x,ao y,.str z,ao A,.str B,.own 1000000 none,ao C,.str D,.own 1000001 none,ao j,.str k,.own 1000002 none,ao l,ao m,ao o,ao p,ao q])],bl:=[az 1000000 3 (.int .i64) E,az 1000001 3 (.int .i64) r,az 1000002 3 (.int .i64) s],sp:=.v (.c (.ptr 4000000 0))}
def dM (a:St):Option U:=fe fZ F ga [.r,.r,.r,.l,.r,.b,.r,.e,.r,.t,.r,.b,.i] f27 J n a
def cZ:=ayn fZ F ga [.r,.r,.r,.l,.r,.b,.r,.e,.r,.t,.r,.b] f27 .cur [(K45,true)] jQ 2
def c7 (b a k:Int)(c:List Int)(d e w f:Int)(g:List Int)(h:List a7)(i:List bS)(j:List bF)(v x y z A:Int)(B:ByteArray)(C:Int)(D:ByteArray)(E:Int)(G:ByteArray)(l:Int)(m:ByteArray)(o p q r s:Int)(H t u:List Int):St:={nt:=152,tm:=[b1 3,b1 4,(5,bb b),(6,bb a),(7,bb k)],bx:=[(4000000,[.ro true 5 (.int .u8) c,ao d,ao e]),(3,[ao w,ao f,.ro false 3 (.int .i64) g,.ro false 65 (b8) h,.ro false 105 (ek) i,.ro false 41 (cz) j]),(4,[ao v,ao x,ao y,ao z,ao A,.str B,ao C,.str D,.own 1000000 none,ao E,.str G,.own 1000001 none,ao l,.str m,.own 1000002 none,ao o,ao p,ao q,ao r,ao s])],bl:=[az 1000000 3 (.int .i64) H,az 1000001 3 (.int .i64) t,az 1000002 3 (.int .i64) u],sp:=.v (.c (.ptr 4000000 0))}
def Fm (a:List Int)(b c k l m o p:Int)(q:ByteArray)(r:Int)(s:ByteArray)(t:Int)(u:ByteArray)(d:Int)(e:ByteArray)(f g h i j:Int):St:={nt:=152,tm:=[b1 4],bx:=[(4000000,[.ro true 5 (.int .u8) a,ao b,ao c]),(4,[ao k,ao l,ao m,ao o,ao p,.str q,ao r,.str s,.nil,ao t,.str u,.nil,ao d,.str e,.nil,ao f,ao g,ao h,ao i,ao j])],bl:=[],sp:=.v (.c (.ptr 4000000 0))}
def BO (a:Int)(b:List Int)(c d o p q r s:Int)(t:ByteArray)(u:Int)(v:ByteArray)(w:Int)(x:ByteArray)(e:Int)(f:ByteArray)(g h i j k:Int)(y l m:List Int):St:={nt:=152,tm:=[b1 4,(6,bb a)],bx:=[(4000000,[.ro true 5 (.int .u8) b,ao c,ao d]),(4,[ao o,ao p,ao q,ao r,ao s,.str t,ao u,.str v,.own 1000000 none,ao w,.str x,.own 1000001 none,ao e,.str f,.own 1000002 none,ao g,ao h,ao i,ao j,ao k])],bl:=[az 1000000 3 (.int .i64) y,az 1000001 3 (.int .i64) l,az 1000002 3 (.int .i64) m],sp:=.v (.c (.ptr 4000000 0))}
def dN (a:St):Option U:=fe fZ F ga [.r,.r,.r,.l,.r,.b,.r,.t,.l,.r,.b,.i] f27 J n a
def dO:=ayn fZ F ga [.r,.r,.r,.l,.r,.b,.r,.t,.l,.r,.b] f27 .cur [(K45,true)] jQ 2
def w4 (b a k:Int)(d:List Int)(e f w g:Int)(h:List Int)(c:List a7)(i:List bS)(j:List bF)(v x y z A:Int)(B:ByteArray)(C:Int)(D:ByteArray)(E:Int)(G:ByteArray)(l:Int)(m:ByteArray)(o p q r s:Int)(H t u:List Int):dM F J (n+1) (cY b a k d e f w g h c i j v x y z A B C D E G l m o p q r s H t u)=br (decide (k<b)) (ck (!(b==0)) (ck (bE (Int.tmod (aj (a+k)) b) (c.length:Int)) (br (decide (((aH c (Int.tmod (aj (a+k)) b) b8.aC).2.2.2.2.2.2.2.length:Int)>0)) (ck (!(b==0)) (J .ret (Fl d e f 2 (Int.tmod (aj (a+k)) b) 0 0 0 ak 0 ak 0 ak 0 ak 0 0 0 0 0))) (dM F J n (cY b a (aj (k+1)) d e f w g h c i j v x y z A B C D E G l m o p q r s H t u))))) (J (.exit 3) (BN a d e f w g h c i j v x y z A B C D E G l m o p q r s H t u)):=by kernel_rfl
def w5 (b a k:Int)(c:List Int)(d e w g:Int)(h:List Int)(f:List a7)(G:List bS)(H:List bF)(t u v x y:Int)(z:ByteArray)(A:Int)(B:ByteArray)(C:Int)(D:ByteArray)(i:Int)(j:ByteArray)(l m o p q:Int)(E r s:List Int):dN F J (n+1) (c7 b a k c d e w g h f G H t u v x y z A B C D i j l m o p q E r s)=br (decide (k<b)) (ck (!(b==0)) (ck (bE (Int.tmod (aj (a+k)) b) (f.length:Int)) ((Wt F0 (w,g) (aH f (Int.tmod (aj (a+k)) b) b8.aC)).bind fun I=>br I.2.1 (ck (!(b==0)) ((cX F0 h (Int.tmod (aj (a+k)) b)).bind fun K=>br (!K.1) (ck (!(b==0)) (J .ret (Fm c d e 1 (Int.tmod (aj (a+k)) b) 0 0 0 ak 0 ak 0 ak 0 ak 0 0 0 0 0))) (dN F J n (c7 b a (aj (k+1)) c d e w g h f G H t u v x y z A B C D i j l m o p q E r s)))) (dN F J n (c7 b a (aj (k+1)) c d e w g h f G H t u v x y z A B C D i j l m o p q E r s))))) (J (.exit 1) (BO a c d e t u v x y z A B C D i j l m o p q E r s)):=by kernel_rfl
def U2 (a:List Int)(b c k l m o p:Int)(q:ByteArray)(r:Int)(s:ByteArray)(t:Int)(u:ByteArray)(d:Int)(e:ByteArray)(f g h i j:Int):cZ F .ret (Fl a b c k l m o p q r s t u d e f g h i j)=some (((k,l,m,o,p,(q,r,s,[]),(t,u,[]),(d,e,[]),f,g,h,i,j),()),(a,b,c),()):=by kernel_rfl
def R4 (a:Int)(b:List Int)(c d w g:Int)(h:List Int)(i:List a7)(e:List bS)(j:List bF)(v x y z A:Int)(B:ByteArray)(C:Int)(D:ByteArray)(E:Int)(G:ByteArray)(k:Int)(l:ByteArray)(m o p q r:Int)(H s t:List Int):cZ F (.exit 3) (BN a b c d w g h i e j v x y z A B C D E G k l m o p q r H s t)=br ((e.length:Int)==0) (some (((2,a,0,0,0,(ak,0,ak,[]),(0,ak,[]),(0,ak,[]),0,0,0,0,0),()),(b,c,d),())) ((bK F0 (e.length:Int) 4).bind fun u=>(ax F0 (b,c,d) u.1).bind fun f=>some (((3,f.1.1,0,0,0,(ak,0,ak,[]),(0,ak,[]),(0,ak,[]),0,0,0,0,0),()),f.2.1,())):=by kernel_rfl
def U3 (a:List Int)(b c k l m o p:Int)(q:ByteArray)(r:Int)(s:ByteArray)(t:Int)(u:ByteArray)(d:Int)(e:ByteArray)(f g h i j:Int):dO F .ret (Fm a b c k l m o p q r s t u d e f g h i j)=some (((k,l,m,o,p,(q,r,s,[]),(t,u,[]),(d,e,[]),f,g,h,i,j),()),(a,b,c),()):=by kernel_rfl
def R5 (a:Int)(b:List Int)(c d o p q r s:Int)(t:ByteArray)(u:Int)(v:ByteArray)(w:Int)(x:ByteArray)(e:Int)(f:ByteArray)(g h i j k:Int)(y l m:List Int):dO F (.exit 1) (BO a b c d o p q r s t u v w x e f g h i j k y l m)=some (((7,a,0,0,0,(ak,0,ak,[]),(0,ak,[]),(0,ak,[]),0,0,0,0,0),()),(b,c,d),()):=by kernel_rfl
def r3 (c:D2)(w:lx):=Fa fZ F ga f27 atF 0 .cur [(K45,true)] jQ 2 (c,w,())
def Zo (c:D2)(w:lx):r3 F c w=(dK F0 (w.2.2.1.length:Int) 1).bind fun l=>(ax F0 c l.1).bind fun b=>(ax F0 b.2.1 20).bind fun a=>br (a.1.1==0) (dN F (dO F) F.n (c7 (w.2.2.1.length:Int) b.1.1 0 a.2.1.1 a.2.1.2.1 a.2.1.2.2 w.1.1 w.1.2 w.2.1 w.2.2.1 w.2.2.2.1 w.2.2.2.2 0 0 0 0 0 ak 0 ak 0 ak 0 ak 0 0 0 0 0 [] [] [])) (br (a.1.1==1) (dN F (dO F) F.n (c7 (w.2.2.1.length:Int) b.1.1 0 a.2.1.1 a.2.1.2.1 a.2.1.2.2 w.1.1 w.1.2 w.2.1 w.2.2.1 w.2.2.2.1 w.2.2.2.2 0 0 0 0 0 ak 0 ak 0 ak 0 ak 0 0 0 0 0 [] [] [])) (br (a.1.1==2) (dN F (dO F) F.n (c7 (w.2.2.1.length:Int) b.1.1 0 a.2.1.1 a.2.1.2.1 a.2.1.2.2 w.1.1 w.1.2 w.2.1 w.2.2.1 w.2.2.2.1 w.2.2.2.2 0 0 0 0 0 ak 0 ak 0 ak 0 ak 0 0 0 0 0 [] [] [])) (br (a.1.1==3) (dM F (cZ F) F.n (cY (w.2.2.1.length:Int) b.1.1 0 a.2.1.1 a.2.1.2.1 a.2.1.2.2 w.1.1 w.1.2 w.2.1 w.2.2.1 w.2.2.2.1 w.2.2.2.2 0 0 0 0 0 ak 0 ak 0 ak 0 ak 0 0 0 0 0 [] [] [])) (br (a.1.1==4) (dM F (cZ F) F.n (cY (w.2.2.1.length:Int) b.1.1 0 a.2.1.1 a.2.1.2.1 a.2.1.2.2 w.1.1 w.1.2 w.2.1 w.2.2.1 w.2.2.2.1 w.2.2.2.2 0 0 0 0 0 ak 0 ak 0 ak 0 ak 0 0 0 0 0 [] [] [])) (br (a.1.1==5) (dM F (cZ F) F.n (cY (w.2.2.1.length:Int) b.1.1 0 a.2.1.1 a.2.1.2.1 a.2.1.2.2 w.1.1 w.1.2 w.2.1 w.2.2.1 w.2.2.2.1 w.2.2.2.2 0 0 0 0 0 ak 0 ak 0 ak 0 ak 0 0 0 0 0 [] [] [])) (br (a.1.1==6) (dM F (cZ F) F.n (cY (w.2.2.1.length:Int) b.1.1 0 a.2.1.1 a.2.1.2.1 a.2.1.2.2 w.1.1 w.1.2 w.2.1 w.2.2.1 w.2.2.2.1 w.2.2.2.2 0 0 0 0 0 ak 0 ak 0 ak 0 ak 0 0 0 0 0 [] [] [])) (br (a.1.1==7) (some (((6,b.1.1,0,0,0,(ak,0,ak,[]),(0,ak,[]),(0,ak,[]),0,0,0,0,0),()),a.2.1,())) (br (a.1.1==8) (some (((7,b.1.1,0,0,0,(ak,0,ak,[]),(0,ak,[]),(0,ak,[]),0,0,0,0,0),()),a.2.1,())) (br (a.1.1==9) ((nj F0 a.2.1 2).bind fun g=>br g.1.1 ((jR F0 g.2.1 [0,0,5,40,9999]).bind fun h=>some (((8,b.1.1,h.1.1,0,0,(ak,0,ak,[]),(0,ak,[]),(0,ak,[]),0,0,0,0,0),()),h.2.1,())) ((ax F0 g.2.1 2).bind fun i=>(dK F0 (w.2.2.2.1.length:Int) 1).bind fun m=>(ax F0 i.2.1 m.1).bind fun j=>some (((aj (4+i.1.1),j.1.1,0,0,0,(ak,0,ak,[]),(0,ak,[]),(0,ak,[]),0,0,0,0,0),()),j.2.1,()))) (br (a.1.1==10) ((mn F0 a.2.1).bind fun k=>some (((9,b.1.1,0,4,0,(ak,0,ak,[]),(0,ak,[]),(0,ak,[]),0,k.1.1),()),k.2.1,())) (br (a.1.1==11) (br (decide ((w.2.1.length:Int)>0)) ((ig F0 a.2.1 w).bind fun e=>some (((10,b.1.1,0,e.1.1),()),e.2.1,())) (br ((w.2.2.2.1.length:Int)==0) (some (((2,b.1.1,0,0,0,(ak,0,ak,[]),(0,ak,[]),(0,ak,[]),0,0,0,0,0),()),a.2.1,())) ((bK F0 (w.2.2.2.1.length:Int) 4).bind fun f=>(ax F0 a.2.1 f.1).bind fun d=>some (((3,d.1.1,0,0,0,(ak,0,ak,[]),(0,ak,[]),(0,ak,[]),0,0,0,0,0),()),d.2.1,())))) (br (a.1.1==12) (br (decide ((w.2.1.length:Int)>0)) ((ig F0 a.2.1 w).bind fun e=>some (((10,b.1.1,0,e.1.1),()),e.2.1,())) (br ((w.2.2.2.1.length:Int)==0) (some (((2,b.1.1,0,0,0,(ak,0,ak,[]),(0,ak,[]),(0,ak,[]),0,0,0,0,0),()),a.2.1,())) ((bK F0 (w.2.2.2.1.length:Int) 4).bind fun f=>(ax F0 a.2.1 f.1).bind fun d=>some (((3,d.1.1,0,0,0,(ak,0,ak,[]),(0,ak,[]),(0,ak,[]),0,0,0,0,0),()),d.2.1,())))) (br (a.1.1==13) (br (decide ((w.2.1.length:Int)>0)) ((ig F0 a.2.1 w).bind fun e=>some (((10,b.1.1,0,e.1.1),()),e.2.1,())) (br ((w.2.2.2.1.length:Int)==0) (some (((2,b.1.1,0,0,0,(ak,0,ak,[]),(0,ak,[]),(0,ak,[]),0,0,0,0,0),()),a.2.1,())) ((bK F0 (w.2.2.2.1.length:Int) 4).bind fun f=>(ax F0 a.2.1 f.1).bind fun d=>some (((3,d.1.1,0,0,0,(ak,0,ak,[]),(0,ak,[]),(0,ak,[]),0,0,0,0,0),()),d.2.1,())))) (br ((w.2.2.2.1.length:Int)==0) (some (((2,b.1.1,0,0,0,(ak,0,ak,[]),(0,ak,[]),(0,ak,[]),0,0,0,0,0),()),a.2.1,())) ((bK F0 (w.2.2.2.1.length:Int) 4).bind fun f=>(ax F0 a.2.1 f.1).bind fun d=>some (((3,d.1.1,0,0,0,(ak,0,ak,[]),(0,ak,[]),(0,ak,[]),0,0,0,0,0),()),d.2.1,())))))))))))))))):=by kernel_rfl
def Fo:Any:=.two ⟨atF,0,.cur,[(K45,true)],2,jQ,fun x=>r3 F0 x.1 x.2.1⟩
def Zp:a8 27 Fo:=V0 fZ ⟨fP,yl,ym,lA,ajz,dL,Hf,aca,oU,trivial⟩ func27 ga (by kernel_rfl)
def Wx:=[(136,ie)]
def Iy (a b:D9):=bm Wx F ad f337 wX gv 2 (a,b,())
def alc (a b:D9):Iy F a b=br (decide (a.1>b.1)) ((jv F0 a).bind fun c=>some (c.1,())) ((jv F0 b).bind fun d=>some (d.1,())):=by kernel_rfl
def P7:Any:=.one ⟨wX,gv,2,fun x=>Iy F0 x.1 x.2.1⟩
def ald:a8 337 P7:=aq Wx ⟨me,trivial⟩ func337 ad (by kernel_rfl)
def Wy:=[(150,p7),(200,tQ)]
abbrev aDx:List (Ty×Bool):=[(.str,false),(.bool,false)]
def Iz (name:ByteArray):=bm Wy F ad f338 dC aDx 1 (name,())
def ale (name:ByteArray):Iz F name=(p6 F0 name).bind fun a=>br (!a.2.1) (some (ak,false,())) (br (decide ((a.1.length:Int)<3)) (some (ak,false,())) (ck (bE (aj ((a.1.length:Int)-1)) (a.1.length:Int)) (ck (bE (aj ((a.1.length:Int)-2)) (a.1.length:Int)) (br ((aH a.1 (aj ((a.1.length:Int)-1)) (0,[])).1 != (aj ((aH a.1 (aj ((a.1.length:Int)-2)) (0,[])).1+1))) (some (ak,false,())) (ck (bE (aj ((a.1.length:Int)-2)) (a.1.length:Int)) (ck (bE (aj ((a.1.length:Int)-3)) (a.1.length:Int)) (br ((aH a.1 (aj ((a.1.length:Int)-2)) (0,[])).1 != (aj ((aH a.1 (aj ((a.1.length:Int)-3)) (0,[])).1+1))) (some (ak,false,())) ((l5 F0 name).bind fun b=>(l5 F0 b.1).bind fun c=>some (c.1,true,()))))))))):=by kernel_rfl
def P8:Any:=.one ⟨dC,aDx,1,fun x=>Iz F0 x.1⟩
def alf:a8 338 P8:=aq Wy ⟨Dv,Im,trivial⟩ func338 ad (by kernel_rfl)
def Wz:=[(78,eO)]
abbrev Tx:List (Ty×Bool):=[(.str,false),(.str,false)]
def IA (s t:ByteArray):=bm Wz F ad f339 Tx aP 1 (s,t,())
def alg (s t:ByteArray):IA F s t=(eZ F0 s).bind fun a=>br (!a.1) (some (false,())) ((eZ F0 t).bind fun b=>br (!b.1) (some (false,())) (br (decide ((t.size:Int)>(s.size:Int))) (some (false,())) (ck (RZ 0 (t.size:Int) (s.size:Int)) (br (!((s.extract (0:Int).toNat (t.size:Int).toNat).toList==t.toList)) (some (false,())) (br ((s.size:Int)==(t.size:Int)) (some (true,())) (ck (bE (t.size:Int) (s.size:Int)) (some ((jO s (t.size:Int))==47,())))))))):=by kernel_rfl
def P9:Any:=.one ⟨Tx,aP,1,fun x=>IA F0 x.1 x.2.1⟩
def alh:a8 339 P9:=aq Wz ⟨gQ,trivial⟩ func339 ad (by kernel_rfl)
def aop:=[(66,gR),(79,di),(121,mf),(134,gA),(141,ic),(200,tQ),(337,P7),(338,P8),(339,P9)]
abbrev aDy:List (Ty×Bool):=[(K1,true),(K12,true),(K9,true)]
def Qa (c:D1)(s:U0)(q:D9):=bm aop F ad f304 aDy BK 2 (c,s,q,())
def ayt (c:D1)(s:U0)(q:D9):Qa F c s q=(nD F0 s).bind fun a=>(jj F0 c s).bind fun f=>br (!f.1) (some (a.1,())) ((ku F0 c q).bind fun g=>br (!g.1) (some (a.1,())) ((Iy F0 q s.2.2.1).bind fun b=>(l5 F0 q.2.1).bind fun h=>(du F0 h.1).bind fun i=>(dK F0 s.2.1 i.1).bind fun d=>(Iz F0 q.2.1).bind fun e=>br e.2.1 ((IA F0 e.1 s.2.2.2).bind fun j=>br j.1 (some ((a.1.1,d.1,b.1,e.1),())) (some ((a.1.1,d.1,b.1,a.1.2.2.2),()))) (some ((a.1.1,d.1,b.1,a.1.2.2.2),())))):=by kernel_rfl
def IB:Any:=.one ⟨aDy,BK,2,fun x=>Qa F0 x.1 x.2.1 x.2.2.1⟩
def WA:a8 304 IB:=aq aop ⟨lA,eH,uM,kN,l3,Im,ald,alf,alh,trivial⟩ func304 ad (by kernel_rfl)
def WB:=[(79,di),(141,ic),(199,l6)]
abbrev ajA:List (Ty×Bool):=[(K1,true),(K12,true),(K15,true)]
def y3 (c:D1)(s:U0)(b:D15):=bm WB F ad f305 ajA aP 1 (c,s,b,())
def ali (c:D1)(s:U0)(b:D15):y3 F c s b=(jj F0 c s).bind fun a=>br a.1 ((nB F0 c b).bind fun d=>br d.1 ((du F0 b.1).bind fun e=>br (decide (e.1>s.1)) (some (decide (b.2.1>=s.2.1),())) (some (false,()))) (some (false,()))) (some (false,())):=by kernel_rfl
def Cw:Any:=.one ⟨ajA,aP,1,fun x=>y3 F0 x.1 x.2.1 x.2.2.1⟩
def Tz:a8 305 Cw:=aq WB ⟨eH,l3,uE,trivial⟩ func305 ad (by kernel_rfl)
def ajB:=[(79,di),(121,mf),(305,Cw)]
abbrev ajC:List (Ty×Bool):=[(K12,true),(.bool,false)]
def Qb (c:D1)(s:U0)(b:D15):=bm ajB F ad f306 ajA ajC 2 (c,s,b,())
def avS (c:D1)(s:U0)(b:D15):Qb F c s b=(nD F0 s).bind fun a=>(y3 F0 c s b).bind fun d=>br (!d.1) (some (a.1,false,())) ((du F0 b.1).bind fun e=>some ((e.1,a.1.2),true,())):=by kernel_rfl
def aat:Any:=.one ⟨ajA,ajC,2,fun x=>Qb F0 x.1 x.2.1 x.2.2.1⟩
def avT:a8 306 aat:=aq ajB ⟨eH,uM,Tz,trivial⟩ func306 ad (by kernel_rfl)
def TA:=[(317,uD)]
abbrev aDz:List (Ty×Bool):=[(K12,true),(K12,true)]
def DR (a b:U0):=bm TA F ad f340 aDz aP 1 (a,b,())
def ag8 (a b:U0):DR F a b=br (a.1==b.1) (br (a.2.1==b.2.1) ((wY F0 a.2.2.1 b.2.2.1).bind fun c=>br c.1 (some (a.2.2.2.toList==b.2.2.2.toList,())) (some (false,()))) (some (false,()))) (some (false,())):=by kernel_rfl
def MU:Any:=.one ⟨aDz,aP,1,fun x=>DR F0 x.1 x.2.1⟩
def ag9:a8 340 MU:=aq TA ⟨Kp,trivial⟩ func340 ad (by kernel_rfl)
def DS:=[(73,b9)]
def DT:Nat->Option Hint:=look [(4,{live:=[0,3],xl:=[0,3],rl:=[2]})]
def va (a:Int)(b:List Int):= cR 25 [(0,bb a),(3,.v (.c (.own 1000000 none)))] [] [az 1000000 5 (.int .u8) b]
def Qc (a:Int)(b:List Int):= cR 25 [(0,bb a),(3,.v (.c (.own 1000000 none)))] [] [az 1000000 5 (.int .u8) b]
def DU (a:St):Option U:=fe DS F DT [.r,.r,.r,.l,.b,.i] f300 J n a
def Gv:=hH DS F DT [.r,.r,.r,.l,.b] f300 l1 2
def KL (a:Int)(b:List Int):DU F J (n+1) (va a b)=br (decide (a>127)) (ck (en F b.length [IntKind.wrap .u8 (aj ((Int.tmod a 128)+128))].length 1) (DU F J n (va (aj (Int.tdiv a 128)) (b++[IntKind.wrap .u8 (aj ((Int.tmod a 128)+128))])))) (J (.exit 0) (Qc a b)):=by kernel_rfl
def MV (a:Int)(b:List Int):Gv F (.exit 0) (Qc a b)=ck (en F b.length [IntKind.wrap .u8 (a)].length 1) (some (b++[IntKind.wrap .u8 (a)],())):=by kernel_rfl
def eo (a:Int):=bm DS F DT f300 cF l1 2 (a,())
def aoq (a:Int):eo F a=(bN F0 a 0 2147483647).bind fun b=>br (!b.1) (some ([],())) (DU F (Gv F) F.n (va a [])):=by kernel_rfl
def ih:Any:=.one ⟨cF,l1,2,fun x=>eo F0 x.1⟩
def mo:a8 300 ih:=aq DS ⟨cA,trivial⟩ func300 DT (by kernel_rfl)
def WC:=[(300,ih)]
def nF (s:ByteArray):=bm WC F ad f301 dC l1 2 (s,())
def alj (s:ByteArray):nF F s=(eo F0 (s.size:Int)).bind fun a=>ck (decide ((s.size:Int)<=F.mem)) (ck (en F a.1.length (bytesOf s).length 1) (some (a.1++(bytesOf s),()))):=by kernel_rfl
def r4:Any:=.one ⟨dC,l1,2,fun x=>nF F0 x.1⟩
def Gw:a8 301 r4:=aq WC ⟨mo,trivial⟩ func301 ad (by kernel_rfl)
end
end Go.Am.Tryz
