/- No condition. -/
import Derived.Test.YtaheoongenkdbaaGreatDoorQeXJG1
set_option linter.all false
set_option maxRecDepth 100000
namespace Go.Am.Tryz
open Go.Am Go.Proofs Go.Proofs.Tryz
noncomputable section
variable {U:Type} (F:oH) (J:Ex->St->Option U) (n:Nat)
def UZ:=[(98,lB),(99,yt),(100,lC),(101,yw)]
abbrev Si:List (Ty×Bool):=[(cl,true)]
def a7 (r:bb):=bn UZ F ab f51 Si Si 2 (r,())
def ajl (r:bb):a7 F r=(mH F0 r.2.2.2.1).bind fun a=>ck (eA F 0 r.2.2.2.2.1.length 32) ((gh F0 r.2.2.2.2.2.1).bind fun b=>(ij F0 r.2.2.2.2.2.2.1).bind fun c=>(tf F0 r.2.2.2.2.2.2.2).bind fun d=>some ((r.1,r.2.1,r.2.2.1,a.1,[]++r.2.2.2.2.1,b.1,c.1,d.1),())):=by kernel_rfl
def bV:Any:=.one ⟨Si,Si,2,fun x=>a7 F0 x.1⟩
def cm:ba 51 bV:=aw UZ ⟨ue,OP,ui,OQ,trivial⟩ func51 ab (by kernel_rfl)
def lD:=[(51,bV)]
def lE:Nat->Option Hint:=look [(3,{live:=[1,2,3,4],Bg:=[(2,2,3,.int .i64),(2,3,50,cl),(2,4,102,eI),(2,5,95,cZ),(3,3,50,cl),(3,4,102,eI)],xl:=[1,2,3],rl:=[2]}),(7,{live:=[1,2,3,5],xl:=[2,3],rl:=[2]}),(999999,{live:=[1]})]
def rr (w:nz)(i j k l a:Int)(m:List Int)(b:List bb)(c:List b0)(d:List bS)(e:List Int)(f:List bb)(g:List b0)(h:List bS):St:={nt:=63,tm:=[(1,.v (.c (.TI false (gZ) w 0))),b9 2,b9 3,(5,bq i)],bx:=[(2,[an j,an k,.own 1000000 none,.own 1000001 none,.own 1000002 none,.own 1000003 none]),(3,[an l,an a,.own 1000004 none,.own 1000005 none,.own 1000006 none,.own 1000007 none])],bl:=[ay 1000000 3 (.int .i64) m,ay 1000001 50 cl b,ay 1000002 102 eI c,ay 1000003 95 cZ d,ay 1000004 3 (.int .i64) e,ay 1000005 50 cl f,ay 1000006 102 eI g,ay 1000007 95 cZ h],rob:=[1]}
def LL (i j k a:Int)(l:List Int)(b:List bb)(c:List b0)(d:List bS)(e:List Int)(f:List bb)(g:List b0)(h:List bS):St:={nt:=63,tm:=[b9 2,b9 3],bx:=[(2,[an i,an j,.own 1000000 none,.own 1000001 none,.own 1000002 none,.own 1000003 none]),(3,[an k,an a,.own 1000004 none,.own 1000005 none,.own 1000006 none,.own 1000007 none])],bl:=[ay 1000000 3 (.int .i64) l,ay 1000001 50 cl b,ay 1000002 102 eI c,ay 1000003 95 cZ d,ay 1000004 3 (.int .i64) e,ay 1000005 50 cl f,ay 1000006 102 eI g,ay 1000007 95 cZ h],rob:=[1]}
def yx (a:St):Option U:=fy lD F lE [.r,.r,.r,.l,.r,.b,.i] f20 J n a
def BW:=ig lD F lE [.r,.r,.r,.l,.r,.b] f20 eU 2
def ru (w:nz)(i j k l a:Int)(m:List Int)(b:List bb)(c:List b0)(d:List bS)(e:List Int)(f:List bb)(g:List b0)(h:List bS):St:={nt:=63,tm:=[(1,.v (.c (.TI false (gZ) w 0))),b9 2,b9 3,(4,bq i)],bx:=[(2,[an j,an k,.own 1000000 none,.own 1000001 none,.own 1000002 none,.own 1000003 none]),(3,[an l,an a,.own 1000004 none,.own 1000005 none,.own 1000006 none,.own 1000007 none])],bl:=[ay 1000000 3 (.int .i64) m,ay 1000001 50 cl b,ay 1000002 102 eI c,ay 1000003 95 cZ d,ay 1000004 3 (.int .i64) e,ay 1000005 50 cl f,ay 1000006 102 eI g,ay 1000007 95 cZ h],rob:=[1]}
def LM (w:nz)(i j k a:Int)(l:List Int)(b:List bb)(c:List b0)(d:List bS)(e:List Int)(f:List bb)(g:List b0)(h:List bS):St:={nt:=63,tm:=[(1,.v (.c (.TI false (gZ) w 0))),b9 2,b9 3],bx:=[(2,[an i,an j,.own 1000000 none,.own 1000001 none,.own 1000002 none,.own 1000003 none]),(3,[an k,an a,.own 1000004 none,.own 1000005 none,.own 1000006 none,.own 1000007 none])],bl:=[ay 1000000 3 (.int .i64) l,ay 1000001 50 cl b,ay 1000002 102 eI c,ay 1000003 95 cZ d,ay 1000004 3 (.int .i64) e,ay 1000005 50 cl f,ay 1000006 102 eI g,ay 1000007 95 cZ h],rob:=[1]}
def yy (a:St):Option U:=fy lD F lE [.r,.r,.l,.r,.b,.i] f20 J n a
def BX:=ig lD F lE [.r,.r,.l,.r,.b] f20 eU 2
def Gs (w:nz)(i j k l b:Int)(m:List Int)(c:List bb)(d:List b0)(e:List bS)(f:List Int)(g:List bb)(a:List b0)(h:List bS):yx F J (n+1) (rr w i j k l b m c d e f g a h)=br (decide (i<(w.2.2.2.1.length:Int))) (ck (bO i (w.2.2.2.1.length:Int)) (ck (bO i (w.2.2.2.1.length:Int)) (ck (eA F 0 (aN w.2.2.2.1 i (0,[])).2.length 1) (ck (eA F a.length [((aN w.2.2.2.1 i (0,[])).1,[]++(aN w.2.2.2.1 i (0,[])).2)].length 32) (yx F J n (rr w (aj (i+1)) j k l b m c d e f g (a++[((aN w.2.2.2.1 i (0,[])).1,[]++(aN w.2.2.2.1 i (0,[])).2)]) h)))))) (J (.exit 2) (LL j k l b m c d e f g a h)):=by kernel_rfl
def Gt (w:nz)(i j k l b:Int)(m:List Int)(c:List bb)(d:List b0)(e:List bS)(f:List Int)(a:List bb)(g:List b0)(h:List bS):yy F J (n+1) (ru w i j k l b m c d e f a g h)=br (decide (i<(w.2.2.1.length:Int))) (ck (bO i (w.2.2.1.length:Int)) ((a7 F0 (aN w.2.2.1 i cl.aC)).bind fun o=>ck (eA F a.length [o.1].length 208) (yy F J n (ru w (aj (i+1)) j k l b m c d e f (a++[o.1]) g h)))) (J (.exit 0) (LM w j k l b m c d e f a g h)):=by kernel_rfl
def aas (j k f a:Int)(l:List Int)(g:List bb)(h:List b0)(i:List bS)(b:List Int)(c:List bb)(d:List b0)(e:List bS):BW F (.exit 2) (LL j k f a l g h i b c d e)=some (((f,a),b,c,d,e),()):=by kernel_rfl
def aat (w:nz)(i j k a:Int)(l:List Int)(b:List bb)(c:List b0)(d:List bS)(e:List Int)(f:List bb)(g:List b0)(h:List bS):BX F (.exit 0) (LM w i j k a l b c d e f g h)=yx F (BW F) F.n (rr w 0 i j k a l b c d e f g h):=by kernel_rfl
def yz (w:nz):=bn lD F lE f20 eU eU 2 (w,())
def ajm (w:nz):yz F w=ck (eA F 0 w.2.1.length 8) (ck (eA F 0 w.2.2.2.2.length 32) (yy F (BX F) F.n (ru w 0 0 0 w.1.1 w.1.2 [] [] [] [] ([]++w.2.1) [] [] ([]++w.2.2.2.2)))):=by kernel_rfl
def BY:Any:=.one ⟨eU,eU,2,fun x=>yz F0 x.1⟩
def Sj:ba 20 BY:=aw lD ⟨cm,trivial⟩ func20 lE (by kernel_rfl)
abbrev aHN:List (Ty×Bool):=[(.sl 5 (.int .u8),false),(.int .i64,false),(.int .i64,false)]
def LN (b:List Int)(c a:Int):=bn aB F ab f22 aHN c7 1 (b,c,a,())
def amC (b:List Int)(c a:Int):LN F b c a=br (decide ((aj (c+(aj (Int.tdiv (b.length:Int) 4))))>a)) (some (a,())) (some (aj (c+(aj (Int.tdiv (b.length:Int) 4))),())):=by kernel_rfl
def Sk:Any:=.one ⟨aHN,c7,1,fun x=>LN F0 x.1 x.2.1 x.2.2.1⟩
def amD:ba 22 Sk:=aw aB trivial func22 ab (by kernel_rfl)
def ahK:=[(29,cw)]
def lF (c:D1)(a:Int):=bn ahK F ab f102 ahH c7 1 (c,a,())
def at1 (c:D1)(a:Int):lF F c a=(dB F0 c).bind fun b=>br (!b.1) (some (-1,())) (br (decide (a<0)) (some (-1,())) (ck (!(c.1==0)) (some (Int.tmod a c.1,())))):=by kernel_rfl
def iD:Any:=.one ⟨ahH,c7,1,fun x=>lF F0 x.1 x.2.1⟩
def mI:ba 102 iD:=aw ahK ⟨c9,trivial⟩ func102 ab (by kernel_rfl)
def uo:=[(175,iJ)]
def uq:Nat->Option Hint:=look [(2,{live:=[0,1,2,6,7],Bg:=[(6,2,3,.int .i64)],xl:=[1,2,6],rl:=[6]})]
def kd (a:List D9)(b:Int)(name:ByteArray)(i c:Int)(d:ByteArray)(e:List Int):= di 38 [(0,ih 61 (K9) a),(1,bq b),(2,Yr name),b9 6,(7,bq i)] [(6,[an c,.str d,.own 1000000 none])] [ay 1000000 3 (.int .i64) e]
def LO (a:Int)(b:ByteArray)(c:List Int):= di 38 [b9 6] [(6,[an a,.str b,.own 1000000 none])] [ay 1000000 3 (.int .i64) c]
def JH (a:Int)(name:ByteArray)(b:Int)(c:ByteArray)(d:List Int):= di 38 [(1,bq a),(2,Yr name),b9 6] [(6,[an b,.str c,.own 1000000 none])] [ay 1000000 3 (.int .i64) d]
def nJ (a:St):Option U:=fy uo F uq [.r,.l,.r,.b,.i] f103 J n a
def oO:=ig uo F uq [.r,.l,.r,.b] f103 fY 2
def ED (a:List D9)(b:Int)(name:ByteArray)(i c:Int)(d:ByteArray)(e:List Int):nJ F J (n+1) (kd a b name i c d e)=br (decide (i<(a.length:Int))) (ck (bO i (a.length:Int)) (br ((aN a i K9.aC).1==b) (ck (bO i (a.length:Int)) (br ((aN a i K9.aC).2.1.toList==name.toList) (ck (bO i (a.length:Int)) ((gf F0 (aN a i K9.aC)).bind fun f=>J .ret (LO f.1.1 f.1.2.1 f.1.2.2))) (nJ F J n (kd a b name (aj (i+1)) c d e)))) (nJ F J n (kd a b name (aj (i+1)) c d e)))) (J (.exit 0) (JH b name c d e)):=by kernel_rfl
def aau (a:Int)(b:ByteArray)(c:List Int):oO F .ret (LO a b c)=some ((a,b,c),()):=by kernel_rfl
def XN (a:Int)(name:ByteArray)(b:Int)(c:ByteArray)(d:List Int):oO F (.exit 0) (JH a name b c d)=some ((a,name,[]),()):=by kernel_rfl
abbrev aBg:List (Ty×Bool):=[(K13,false),(.int .i64,false),(.str,false)]
def n9 (a:D13)(b:Int)(name:ByteArray):=bn uo F uq f103 aBg fY 2 (a,b,name,())
def afg (a:D13)(b:Int)(name:ByteArray):n9 F a b name=nJ F (oO F) F.n (kd a b name 0 0 ak []):=by kernel_rfl
def oP:Any:=.one ⟨aBg,fY,2,fun x=>n9 F0 x.1 x.2.1 x.2.2.1⟩
def BZ:ba 103 oP:=aw uo ⟨nI,trivial⟩ func103 uq (by kernel_rfl)
def rv:Nat->Option Hint:=look [(3,{live:=[0,1,2],Bg:=[(0,0,3,.int .i64),(0,1,3,.int .i64),(1,0,3,.int .i64)],xl:=[0,1],rl:=[0]})]
def fI (i:Int)(d a b c:List Int):= di 15 [b9 0,b9 1,(2,bq i)] [(0,[.own 1000000 none,.own 1000001 none]),(1,[.own 1000002 none,.own 1000003 none])] [ay 1000000 3 (.int .i64) d,ay 1000001 3 (.int .i64) a,ay 1000002 3 (.int .i64) b,ay 1000003 3 (.int .i64) c]
def Gu (d a b c:List Int):= di 15 [b9 0,b9 1] [(0,[.own 1000000 none,.own 1000001 none]),(1,[.own 1000002 none,.own 1000003 none])] [ay 1000000 3 (.int .i64) d,ay 1000001 3 (.int .i64) a,ay 1000002 3 (.int .i64) b,ay 1000003 3 (.int .i64) c]
def iK (a:St):Option U:=fy aB F rv [.r,.r,.l,.r,.b,.i] f106 J n a
abbrev oQ:List (Ty×Bool):=[(K43,true)]
def iY:=ig aB F rv [.r,.r,.l,.r,.b] f106 oQ 2
def Bm (i:Int)(d b a c:List Int):iK F J (n+1) (fI i d b a c)=br (decide (i<4)) (ck (eA F a.length [100].length 8) (iK F J n (fI (aj (i+1)) d b (a++[100]) c))) (J (.exit 0) (Gu d b a c)):=by kernel_rfl
def U0 (d c a b:List Int):iY F (.exit 0) (Gu d c a b)=some ((a,b),()):=by kernel_rfl
def lG: Option (Args oQ):=bn aB F rv f106 [] oQ 2 (())
def acv: lG F= ck (okM F 4 4 8) (iK F (iY F) F.n (fI 0 [] [] [] (List.replicate (4:Int).toNat 0))):=by kernel_rfl
def vD:Any:=.one ⟨[],oQ,2,fun x=>lG F0⟩
def LP:ba 106 vD:=aw aB trivial func106 rv (by kernel_rfl)
def HE:=[(131,pE)]
def HF:Nat->Option Hint:=look [(4,{live:=[3,4,6],xl:=[3],rl:=[2]})]
def yA (i:Int)(b:List D4)(a:List D6):= di 27 [(3,.v (.c (.own 1000000 none))),(4,.v (.c (.own 1000001 none))),(6,bq i)] [] [ay 1000000 63 K4 b,ay 1000001 128 K6 a]
def Sl (a:List D4):= di 27 [(3,.v (.c (.own 1000000 none)))] [] [ay 1000000 63 K4 a]
def HG (a:St):Option U:=fy HE F HF [.r,.r,.r,.l,.r,.b,.i] f107 J n a
def JI:=ig HE F HF [.r,.r,.r,.l,.r,.b] f107 jH 2
def LQ (i:Int)(b:List D4)(a:List D6):HG F J (n+1) (yA i b a)=br (decide (i<(a.length:Int))) (ck (bO i (a.length:Int)) (ck (eA F b.length (aN a i (0,[])).2.length 32) (HG F J n (yA (aj (i+1)) (b++(aN a i (0,[])).2) a)))) (J (.exit 0) (Sl b)):=by kernel_rfl
def afh (a:List D4):JI F (.exit 0) (Sl a)=some (a,()):=by kernel_rfl
def vE (s:ByteArray):=bn HE F HF f107 dw jH 2 (s,())
def aqq (s:ByteArray):vE F s=(pD F0 s).bind fun a=>HG F (JI F) F.n (yA 0 [] a.1):=by kernel_rfl
def JJ:Any:=.one ⟨dw,jH,2,fun x=>vE F0 x.1⟩
def YR:ba 107 JJ:=aw HE ⟨CQ,trivial⟩ func107 HF (by kernel_rfl)
def pL (l:D43):=bn aB F ab f177 oQ oQ 2 (l,())
def amE (l:D43):pL F l=ck (eA F 0 l.1.length 8) (ck (eA F 0 l.2.length 8) (some (([]++l.1,[]++l.2),()))):=by kernel_rfl
def ur:Any:=.one ⟨oQ,oQ,2,fun x=>pL F0 x.1⟩
def JK:ba 177 ur:=aw aB trivial func177 ab (by kernel_rfl)
def uu:=[(63,b6)]
def uv:Nat->Option Hint:=look [(4,{live:=[1,3],rl:=[2]})]
def oR (i:Int)(l a:List Int):= di 34 [b9 1,(3,bq i)] [(1,[.ro false 3 (.int .i64) l,.ro false 3 (.int .i64) a])] []
def yB (a:Bool):= b3 34 [(2,NR a)]
def JL   := b3 34 []
def uw (a:St):Option U:=fy uu F uv [.r,.r,.l,.r,.b,.i] f234 J n a
def oS:=ig uu F uv [.r,.r,.l,.r,.b] f234 aT 1
def EE (i:Int)(l a:List Int):uw F J (n+1) (oR i l a)=br (decide (i<4)) (ck (bO i (l.length:Int)) ((bL F0 (aN l i 0) 0 400).bind fun b=>br (!b.1) (J .ret (yB false)) (ck (bO i (a.length:Int)) ((bL F0 (aN a i 0) 0 100).bind fun c=>br (!c.1) (J .ret (yB false)) (uw F J n (oR (aj (i+1)) l a)))))) (J (.exit 0) (JL)):=by kernel_rfl
def JM (a:Bool):oS F .ret (yB a)=some (a,()):=by kernel_rfl
def XO: oS F (.exit 0) (JL)=some (true,()):=by kernel_rfl
def tg (l:D43):=bn uu F uv f234 oQ aT 1 (l,())
def afi (l:D43):tg F l=br ((l.1.length:Int) != 4) (some (false,())) (br ((l.2.length:Int) != 4) (some (false,())) (uw F (oS F) F.n (oR 0 l.1 l.2))):=by kernel_rfl
def LR:Any:=.one ⟨oQ,aT,1,fun x=>tg F0 x.1⟩
def afj:ba 234 LR:=aw uu ⟨cA,trivial⟩ func234 uv (by kernel_rfl)
def amF:=[(177,ur),(193,kK),(234,LR)]
abbrev aBh:List (Ty×Bool):=[(K43,true),(.int .i64,false)]
abbrev aBi:List (Ty×Bool):=[(K43,true),(K4,true)]
def JN (l:D43)(x:D4):=bn amF F ab f178 aBi aBh 2 (l,x,())
def awA (l:D43)(x:D4):JN F l x=(pL F0 l).bind fun a=>(tg F0 l).bind fun b=>br (!b.1) (some (a.1,1,())) ((ri F0 x).bind fun c=>br (!c.1) (some (a.1,1,())) (ck (bO x.1 (l.2.length:Int)) (br (decide (x.2.2.2<(aN l.2 x.1 0))) (some (a.1,2,())) (ck (bO x.1 (l.2.length:Int)) (br (decide (x.2.2.2>(aN l.2 x.1 0))) (some (a.1,3,())) (ck (bO x.1 (a.1.2.length:Int)) (ck (bO x.1 (l.1.length:Int)) (br (decide (x.2.2.1>(aN l.1 x.1 0))) (some ((a.1.1,a.1.2.set x.1.toNat (aj (x.2.2.2+1))),4,())) (ck (bO x.1 (a.1.1.length:Int)) (ck (bO x.1 (a.1.1.length:Int)) (ck (bO x.2.1 ((a.1.1.set x.1.toNat (aj ((aN a.1.1 x.1 0)-x.2.2.1))).length:Int)) (ck (bO x.2.1 ((a.1.1.set x.1.toNat (aj ((aN a.1.1 x.1 0)-x.2.2.1))).length:Int)) ((tg F0 ((a.1.1.set x.1.toNat (aj ((aN a.1.1 x.1 0)-x.2.2.1))).set x.2.1.toNat (aj ((aN (a.1.1.set x.1.toNat (aj ((aN a.1.1 x.1 0)-x.2.2.1))) x.2.1 0)+x.2.2.1)),a.1.2.set x.1.toNat (aj (x.2.2.2+1)))).bind fun d=>br (!d.1) ((pL F0 l).bind fun e=>some (e.1,1,())) (some (((a.1.1.set x.1.toNat (aj ((aN a.1.1 x.1 0)-x.2.2.1))).set x.2.1.toNat (aj ((aN (a.1.1.set x.1.toNat (aj ((aN a.1.1 x.1 0)-x.2.2.1))) x.2.1 0)+x.2.2.1)),a.1.2.set x.1.toNat (aj (x.2.2.2+1))),0,()))))))))))))))):=by kernel_rfl
def HH:Any:=.one ⟨aBi,aBh,2,fun x=>JN F0 x.1 x.2.1⟩
def U1:ba 178 HH:=aw amF ⟨JK,rj,afj,trivial⟩ func178 ab (by kernel_rfl)
def C2:=[(177,ur),(178,HH)]
def C3:Nat->Option Hint:=look [(4,{live:=[1,4,6,7,8],Bg:=[(4,0,3,.int .i64),(4,1,3,.int .i64)],xl:=[4,6,7],rl:=[4,5]})]
def ux (e:List D4)(i:Int)(f a b c d:List Int):= di 36 [(1,ih 63 (K4) e),b9 4,b9 6,(7,.v (.c (.own 1000000 none))),(8,bq i)] [(4,[.own 1000001 none,.own 1000002 none]),(6,[.own 1000003 none,.own 1000004 none])] [ay 1000000 3 (.int .i64) f,ay 1000001 3 (.int .i64) a,ay 1000002 3 (.int .i64) b,ay 1000003 3 (.int .i64) c,ay 1000004 3 (.int .i64) d]
def OR (e a b c d:List Int):= di 36 [b9 4,b9 6,(7,.v (.c (.own 1000000 none)))] [(4,[.own 1000001 none,.own 1000002 none]),(6,[.own 1000003 none,.own 1000004 none])] [ay 1000000 3 (.int .i64) e,ay 1000001 3 (.int .i64) a,ay 1000002 3 (.int .i64) b,ay 1000003 3 (.int .i64) c,ay 1000004 3 (.int .i64) d]
def C4 (a:St):Option U:=fy C2 F C3 [.r,.r,.r,.l,.r,.b,.i] f105 J n a
abbrev arV:List (Ty×Bool):=[(K43,true),(.sl 3 (.int .i64),false)]
def FI:=ig C2 F C3 [.r,.r,.r,.l,.r,.b] f105 arV 2
def JO (a:List D4)(i:Int)(c d e f g:List Int):C4 F J (n+1) (ux a i c d e f g)=br (decide (i<(a.length:Int))) (ck (bO i (a.length:Int)) ((JN F0 (f,g) (aN a i K4.aC)).bind fun b=>ck (eA F c.length [b.2.1].length 8) (C4 F J n (ux a (aj (i+1)) (c++[b.2.1]) d e b.1.1 b.1.2)))) (J (.exit 0) (OR c d e f g)):=by kernel_rfl
def acw (c d e a b:List Int):FI F (.exit 0) (OR c d e a b)=some ((a,b),c,()):=by kernel_rfl
abbrev aBj:List (Ty×Bool):=[(K43,true),(K5,false)]
def wC (l:D43)(a:D5):=bn C2 F C3 f105 aBj arV 2 (l,a,())
def amG (l:D43)(b:D5):wC F l b=(pL F0 l).bind fun a=>C4 F (FI F) F.n (ux b 0 [] [] [] a.1.1 a.1.2):=by kernel_rfl
def FJ:Any:=.one ⟨aBj,arV,2,fun x=>wC F0 x.1 x.2.1⟩
def U2:ba 105 FJ:=aw C2 ⟨JK,U1,trivial⟩ func105 C3 (by kernel_rfl)
def uy:=[(177,ur),(178,HH)]
def uz:Nat->Option Hint:=look [(4,{live:=[0,5,6,7],xl:=[5],rl:=[4]})]
def gM (p:List D4)(i:Int)(c:List D4)(a b:List Int):= di 48 [(0,ih 63 (K4) p),(5,.v (.c (.own 1000000 none))),b9 6,(7,bq i)] [(6,[.own 1000001 none,.own 1000002 none])] [ay 1000000 63 K4 c,ay 1000001 3 (.int .i64) a,ay 1000002 3 (.int .i64) b]
def vF (a:List D4):= di 48 [(5,.v (.c (.own 1000000 none)))] [] [ay 1000000 63 K4 a]
def jR (a:St):Option U:=fy uy F uz [.r,.r,.r,.l,.r,.b,.i] f109 J n a
def yC:=ig uy F uz [.r,.r,.r,.l,.r,.b] f109 jH 2
def EF (p:List D4)(i:Int)(a:List D4)(c d:List Int):jR F J (n+1) (gM p i a c d)=br (decide (i<(p.length:Int))) (br (decide ((a.length:Int)<2)) (ck (bO i (p.length:Int)) ((JN F0 (c,d) (aN p i K4.aC)).bind fun b=>br (b.2.1==0) (ck (bO i (p.length:Int)) (ck (eA F a.length [(aN p i K4.aC)].length 32) (jR F J n (gM p (aj (i+1)) (a++[(aN p i K4.aC)]) b.1.1 b.1.2)))) (br (b.2.1==4) (ck (bO i (p.length:Int)) (ck (eA F a.length [(aN p i K4.aC)].length 32) (jR F J n (gM p (aj (i+1)) (a++[(aN p i K4.aC)]) b.1.1 b.1.2)))) (jR F J n (gM p (aj (i+1)) a c d))))) (J (.exit 0) (vF a))) (J (.exit 0) (vF a)):=by kernel_rfl
def Gv (a:List D4):yC F (.exit 0) (vF a)=some (a,()):=by kernel_rfl
abbrev ahL:List (Ty×Bool):=[(K5,false),(K43,true)]
def oa (p:D5)(l:D43):=bn uy F uz f109 ahL jH 2 (p,l,())
def afk (p:D5)(l:D43):oa F p l=(pL F0 l).bind fun a=>jR F (yC F) F.n (gM p 0 [] a.1.1 a.1.2):=by kernel_rfl
def LS:Any:=.one ⟨ahL,jH,2,fun x=>oa F0 x.1 x.2.1⟩
def afl:ba 109 LS:=aw uy ⟨JK,U1,trivial⟩ func109 uz (by kernel_rfl)
def yD:=[(193,kK),(276,FB)]
def yE:Nat->Option Hint:=look [(3,{live:=[0,3,4],xl:=[3],rl:=[2]})]
def lH (a:List D4)(b:ByteArray)(i:Int):= b3 29 [(0,ih 63 (K4) a),(3,Yr b),(4,bq i)]
def OS (a:ByteArray):= b3 29 [(2,Yr a)]
def LU (a:ByteArray):= b3 29 [(3,Yr a)]
def pM (a:St):Option U:=fy yD F yE [.r,.r,.l,.r,.b,.i] f236 J n a
def ry:=ig yD F yE [.r,.r,.l,.r,.b] f236 dw 1
def Gw (a:List D4)(b:ByteArray)(i:Int):pM F J (n+1) (lH a b i)=br (decide (i<(a.length:Int))) (ck (bO i (a.length:Int)) ((ri F0 (aN a i K4.aC)).bind fun d=>br (!d.1) (J .ret (OS ak)) (br (decide (i>0)) (ck (okC F b.size (ByteArray.mk #[44]).size) (ck (bO i (a.length:Int)) ((wx F0 (aN a i K4.aC)).bind fun c=>ck (okC F (b++(ByteArray.mk #[44])).size c.1.size) (pM F J n (lH a ((b++(ByteArray.mk #[44]))++c.1) (aj (i+1))))))) (ck (bO i (a.length:Int)) ((wx F0 (aN a i K4.aC)).bind fun c=>ck (okC F b.size c.1.size) (pM F J n (lH a (b++c.1) (aj (i+1))))))))) (J (.exit 0) (LU b)):=by kernel_rfl
def acx (a:ByteArray):ry F .ret (OS a)=some (a,()):=by kernel_rfl
def aav (a:ByteArray):ry F (.exit 0) (LU a)=some (a,()):=by kernel_rfl
def HI (a:D5):=bn yD F yE f236 jH dw 1 (a,())
def ajn (a:D5):HI F a=pM F (ry F) F.n (lH a ak 0):=by kernel_rfl
def OT:Any:=.one ⟨jH,dw,1,fun x=>HI F0 x.1⟩
def ajo:ba 236 OT:=aw yD ⟨rj,UH,trivial⟩ func236 yE (by kernel_rfl)
def C5:=[(68,eB),(193,kK),(235,tO),(236,OT)]
def C6:Nat->Option Hint:=look [(2,{live:=[0,1,2,7],xl:=[0,1,2],rl:=[6]})]
def uA (a:ByteArray)(b:Int)(c:List D4)(i:Int):= b3 34 [(0,Yr a),(1,bq b),(2,ih 63 (K4) c),(7,bq i)]
def Sm (a:ByteArray):= b3 34 [(6,Yr a)]
def OU (a:ByteArray)(b:Int)(c:List D4):= b3 34 [(0,Yr a),(1,bq b),(2,ih 63 (K4) c)]
def C7 (a:St):Option U:=fy C5 F C6 [.r,.l,.r,.b,.i] f179 J n a
def uB:=ig C5 F C6 [.r,.l,.r,.b] f179 dw 1
def JP (b:ByteArray)(c:Int)(a:List D4)(i:Int):C7 F J (n+1) (uA b c a i)=br (decide (i<(a.length:Int))) (ck (bO i (a.length:Int)) ((ri F0 (aN a i K4.aC)).bind fun d=>br (!d.1) (J .ret (Sm ak)) (C7 F J n (uA b c a (aj (i+1)))))) (J (.exit 0) (OU b c a)):=by kernel_rfl
def afm (a:ByteArray):uB F .ret (Sm a)=some (a,()):=by kernel_rfl
def acy (a:ByteArray)(d:Int)(e:List D4):uB F (.exit 0) (OU a d e)=ck (okC F a.size (ByteArray.mk #[47]).size) ((j8 F0 d).bind fun b=>ck (okC F (a++(ByteArray.mk #[47])).size b.1.size) (ck (okC F ((a++(ByteArray.mk #[47]))++b.1).size (ByteArray.mk #[124]).size) ((HI F0 e).bind fun c=>ck (okC F (((a++(ByteArray.mk #[47]))++b.1)++(ByteArray.mk #[124])).size c.1.size) ((eJ F0 ((((a++(ByteArray.mk #[47]))++b.1)++(ByteArray.mk #[124]))++c.1)).bind fun f=>br (!f.1) (some (ak,())) (some ((((a++(ByteArray.mk #[47]))++b.1)++(ByteArray.mk #[124]))++c.1,())))))):=by kernel_rfl
abbrev aBk:List (Ty×Bool):=[(.str,false),(.int .i64,false),(K5,false)]
def YS (a:ByteArray)(b:Int)(c:D5):=bn C5 F C6 f179 aBk dw 1 (a,b,c,())
def U3:∃f,f= @YS:=⟨_,rfl⟩
def kf:=Classical.choose U3
def Sn: @kf= @YS:=Classical.choose_spec U3
def amH (a:ByteArray)(b:Int)(c:D5):kf F a b c=C7 F (uB F) F.n (uA a b c 0):=by rw[Sn];kernel_rfl
def FK:Any:=.one ⟨aBk,dw,1,fun x=>kf F0 x.1 x.2.1 x.2.2.1⟩
def U4:ba 179 FK:=ok1 (show xJ Tryz.prog TB C5 from⟨gu,rj,Js,ajo,trivial⟩) func179 (by kernel_rfl) (by kernel_rfl) C6 (by rw[Sn];kernel_rfl)
def Sp:=[(69,da),(113,ho),(179,FK),(180,ln)]
abbrev aBl:List (Ty×Bool):=[(K1,true),(K9,true),(.int .i64,false),(K5,false)]
abbrev ahM:List (Ty×Bool):=[(K15,true),(.bool,false)]
def oc (c:D1)(q:D9)(a:Int)(b:D5):=bn Sp F ab f108 aBl ahM 2 (c,q,a,b,())
def afn (c:D1)(q:D9)(b:Int)(e:D5):oc F c q b e=(kf F0 q.2.1 b e).bind fun a=>(iC F0 q).bind fun d=>(mF F0 c (a.1,d.1)).bind fun f=>br (!f.1) (some ((ak,0,ak,[]),false,())) ((dk F0 a.1).bind fun g=>br (g.1 != b) (some ((ak,0,ak,[]),false,())) (some ((a.1,d.1),true,()))):=by kernel_rfl
def yF:Any:=.one ⟨aBl,ahM,2,fun x=>oc F0 x.1 x.2.1 x.2.2.1 x.2.2.2.1⟩
def OV:ba 108 yF:=aw Sp ⟨eo,lA,U4,tW,trivial⟩ func108 ab (by kernel_rfl)
def amI:=[(64,cp),(102,iD),(103,oP),(104,tR),(105,FJ),(106,vD),(107,JJ),(108,yF),(109,LS)]
def U5 (c:D1)(r:bb):=bn amI F ab f54 wX ahM 2 (c,r,())
def awB (c:D1)(r:bb):U5 F c r=(dp F0 c r).bind fun g=>br (!g.1) (some ((ak,0,ak,[]),false,())) ((lF F0 c r.2.1).bind fun h=>br (h.1 != r.1) (some ((ak,0,ak,[]),false,())) (br (decide (r.2.2.1>=r.2.1)) (some ((ak,0,ak,[]),false,())) ((n9 F0 r.2.2.2.2.2.1 r.2.1 ak).bind fun i=>br (r.2.2.2.1.2.2.1.1 != (aj (r.2.1-1))) ((wy F0 c).bind fun j=>br (decide ((i.1.2.2.length:Int)<j.1)) (some ((ak,0,ak,[]),false,())) ((lG F0).bind fun b=>(vE F0 r.2.2.2.1.2.2.1.2.1).bind fun d=>(wC F0 b.1 d.1).bind fun e=>(oa F0 r.2.2.2.2.1 e.1).bind fun f=>(oc F0 c r.2.2.2.1.2.2.1 r.2.1 f.1).bind fun a=>some (a.1,a.2.1,()))) ((lG F0).bind fun b=>(vE F0 r.2.2.2.1.2.2.1.2.1).bind fun d=>(wC F0 b.1 d.1).bind fun e=>(oa F0 r.2.2.2.2.1 e.1).bind fun f=>(oc F0 c r.2.2.2.1.2.2.1 r.2.1 f.1).bind fun a=>some (a.1,a.2.1,()))))):=by kernel_rfl
def Q0:Any:=.one ⟨wX,ahM,2,fun x=>U5 F0 x.1 x.2.1⟩
def ahN:ba 54 Q0:=aw amI ⟨cP,mI,BZ,Ju,U2,LP,YR,OV,afl,trivial⟩ func54 ab (by kernel_rfl)
def C8:Nat->Option Hint:=look [(2,{live:=[0,1,5],rl:=[4]})]
def uC (s:List Int)(i k:Int):= b3 18 [(0,ih 3 (.int .i64) s),(1,bq i),(5,bq k)]
def Sq (a:Bool):= b3 18 [(4,NR a)]
def OW   := b3 18 []
def C9 (a:St):Option U:=fy aB F C8 [.r,.l,.r,.b,.i] f55 J n a
def uD:=ig aB F C8 [.r,.l,.r,.b] f55 aT 1
def JQ (s:List Int)(i k:Int):C9 F J (n+1) (uC s i k)=br (decide (k<(s.length:Int))) (ck (bO k (s.length:Int)) (br ((aN s k 0)==i) (J .ret (Sq true)) (C9 F J n (uC s i (aj (k+1)))))) (J (.exit 0) (OW)):=by kernel_rfl
def afo (a:Bool):uD F .ret (Sq a)=some (a,()):=by kernel_rfl
def acz: uD F (.exit 0) (OW)=some (false,()):=by kernel_rfl
abbrev ajp:List (Ty×Bool):=[(.sl 3 (.int .i64),false),(.int .i64,false)]
def cR (s:List Int)(i:Int):=bn aB F C8 f55 ajp aT 1 (s,i,())
def amJ (s:List Int)(i:Int):cR F s i=C9 F (uD F) F.n (uC s i 0):=by kernel_rfl
def cL:Any:=.one ⟨ajp,aT,1,fun x=>cR F0 x.1 x.2.1⟩
def dD:ba 55 cL:=aw aB trivial func55 C8 (by kernel_rfl)
def JR:=[(21,dU),(49,mD)]
def lI (c:D2):=Ev JR F ab f56 iU 0 .cur Yx iU 1 (c,())
def XP (c:D2):lI F c=(au F0 c 4).bind fun a=>(au F0 a.2.1 4).bind fun b=>(iV F0 b.2.1 [0,5,60,100,1000]).bind fun d=>(au F0 d.2.1 3).bind fun e=>some (((a.1.1,b.1.1,d.1.1,e.1.1),()),e.2.1,()):=by kernel_rfl
def pN:Any:=.two ⟨iU,0,.cur,Yx,1,iU,fun x=>lI F0 x.1⟩
def Gx:ba 56 pN:=UC JR ⟨fs,x1,trivial⟩ func56 ab (by kernel_rfl)
def bI (a b:Int):=bn aB F ab f58 arS c7 1 (a,b,())
def aqr (a b:Int):bI F a b=br (decide (a<b)) (some (a,())) (some (b,())):=by kernel_rfl
def iZ:Any:=.one ⟨arS,c7,1,fun x=>bI F0 x.1 x.2.1⟩
def oe:ba 58 iZ:=aw aB trivial func58 ab (by kernel_rfl)
def Da:=[(55,cL)]
def Db:Nat->Option Hint:=look [(4,{live:=[0,1,5],xl:=[0,1,5],rl:=[4]})]
def uE (s:List Int)(i a:Int):= b3 41 [(0,ih 3 (.int .i64) s),(1,bq i),(5,bq a)]
def rz (s:List Int)(i a:Int):= b3 41 [(0,ih 3 (.int .i64) s),(1,bq i),(5,bq a)]
def Dc (a:St):Option U:=fy Da F Db [.r,.r,.r,.l,.b,.i] f182 J n a
def uF:=ig Da F Db [.r,.r,.r,.l,.b] f182 jK 2
def JS (s:List Int)(i a:Int):Dc F J (n+1) (uE s i a)=br (decide (a<(s.length:Int))) (ck (bO a (s.length:Int)) (br (decide ((aN s a 0)<i)) (Dc F J n (uE s i (aj (a+1)))) (J (.exit 0) (rz s i a)))) (J (.exit 0) (rz s i a)):=by kernel_rfl
def acA (s:List Int)(i a:Int):uF F (.exit 0) (rz s i a)=ck (QW 0 a (s.length:Int)) (ck (eA F 0 ((s.take a.toNat).drop (0:Int).toNat).length 8) (ck (eA F ([]++((s.take a.toNat).drop (0:Int).toNat)).length [i].length 8) (ck (QW a (s.length:Int) (s.length:Int)) (ck (eA F (([]++((s.take a.toNat).drop (0:Int).toNat))++[i]).length ((s.take (s.length:Int).toNat).drop a.toNat).length 8) (some ((([]++((s.take a.toNat).drop (0:Int).toNat))++[i])++((s.take (s.length:Int).toNat).drop a.toNat),())))))):=by kernel_rfl
def wD (s:List Int)(i:Int):=bn Da F Db f182 ajp jK 2 (s,i,())
def amK (s:List Int)(i:Int):wD F s i=(cR F0 s i).bind fun a=>br a.1 (ck (eA F 0 s.length 8) (some ([]++s,()))) (Dc F (uF F) F.n (uE s i 0)):=by kernel_rfl
def FL:Any:=.one ⟨ajp,jK,2,fun x=>wD F0 x.1 x.2.1⟩
def U6:ba 182 FL:=aw Da ⟨dD,trivial⟩ func182 Db (by kernel_rfl)
end
end Go.Am.Tryz
namespace Go.Am.Tryz
open Go.Am Go.Proofs Go.Proofs.Tryz
noncomputable section
variable {U:Type} (F:oH) (J:Ex->St->Option U) (n:Nat)
def kZ:=[(21,dU),(50,nC),(58,iZ),(179,FK),(181,te),(182,FL)]
def k0:Nat->Option Hint:=look [(11,{live:=[3,4,5,6,7,9],Bg:=[(4,5,3,.int .i64),(4,8,3,.int .i64),(4,11,3,.int .i64)],xl:=[4,5,6,7],rl:=[4]})]
def cr (r:Int)(name:ByteArray)(i:Int)(a:List Int)(b c w d:Int)(e:List Int)(f:List bb)(g:List b0)(h:List bS)(s t:Int)(u:ByteArray)(v:Int)(x:ByteArray)(y:Int)(z:ByteArray)(A:Int)(B:ByteArray)(C j k l m:Int)(D o p q:List Int):St:={nt:=89,tm:=[b9 3,b9 4,(5,bq r),(6,Yr name),(7,.v (.c (.own 1000000 none))),(9,bq i)],bx:=[(4000000,[.ro true 5 (.int .u8) a,an b,an c]),(3,[an w,an d,.ro false 3 (.int .i64) e,.ro false 50 (cl) f,.ro false 102 (eI) g,.ro false 95 (cZ) h]),(4,[an s,an t,.str u,an v,.str x,.own 1000001 none,an y,.str z,.own 1000002 none,an A,.str B,.own 1000003 none,an C,an j,an k,an l,an m])],bl:=[ay 1000000 3 (.int .i64) D,ay 1000001 3 (.int .i64) o,ay 1000002 3 (.int .i64) p,ay 1000003 3 (.int .i64) q],sp:=.v (.c (.ptr 4000000 0))}
def yG (k:Int)(name:ByteArray)(a:List Int)(b c l m:Int)(o:ByteArray)(p:Int)(q:ByteArray)(r:Int)(s:ByteArray)(t:Int)(u:ByteArray)(v d e f g:Int)(w h i j:List Int):St:={nt:=89,tm:=[b9 4,(5,bq k),(6,Yr name),(7,.v (.c (.own 1000000 none)))],bx:=[(4000000,[.ro true 5 (.int .u8) a,an b,an c]),(4,[an l,an m,.str o,an p,.str q,.own 1000001 none,an r,.str s,.own 1000002 none,an t,.str u,.own 1000003 none,an v,an d,an e,an f,an g])],bl:=[ay 1000000 3 (.int .i64) w,ay 1000001 3 (.int .i64) h,ay 1000002 3 (.int .i64) i,ay 1000003 3 (.int .i64) j],sp:=.v (.c (.ptr 4000000 0))}
def cJ (a:St):Option U:=fy kZ F k0 [.r,.r,.r,.r,.r,.l,.r,.b,.i] f110 J n a
def ei:=aww kZ F k0 [.r,.r,.r,.r,.r,.l,.r,.b] f110 .cur wB iU 2
def th (b:Int)(name:ByteArray)(i:Int)(c:List Int)(d e w A:Int)(B:List Int)(C:List bb)(D:List b0)(a:List bS)(o p:Int)(q:ByteArray)(r:Int)(s:ByteArray)(t:Int)(u:ByteArray)(v:Int)(x:ByteArray)(y f g h j:Int)(z k l m:List Int):cJ F J (n+1) (cr b name i c d e w A B C D a o p q r s t u v x y f g h j z k l m)=br (decide (i<(a.length:Int))) (ck (bO i (a.length:Int)) (br ((aN a i cZ.aC).1==b) (ck (bO i (a.length:Int)) (br ((aN a i cZ.aC).2.1.toList==name.toList) (ck (bO i (a.length:Int)) ((wD F0 z (aN a i cZ.aC).2.2).bind fun E=>cJ F J n (cr b name (aj (i+1)) c d e w A B C D a o p q r s t u v x y f g h j E.1 k l m))) (cJ F J n (cr b name (aj (i+1)) c d e w A B C D a o p q r s t u v x y f g h j z k l m)))) (cJ F J n (cr b name (aj (i+1)) c d e w A B C D a o p q r s t u v x y f g h j z k l m)))) (J (.exit 0) (yG b name c d e o p q r s t u v x y f g h j z k l m)):=by kernel_rfl
def OX (d:Int)(name:ByteArray)(a:List Int)(b c m o:Int)(p:ByteArray)(q:Int)(r:ByteArray)(s:Int)(t:ByteArray)(u:Int)(v:ByteArray)(w f g h i:Int)(e j k l:List Int):ei F (.exit 0) (yG d name a b c m o p q r s t u v w f g h i e j k l)=some (((2,0,(ak,0,ak,[]),(d,name,e),(0,ak,[]),0,0,0,0,0),()),(a,b,c),()):=by kernel_rfl
abbrev arW:List (Ty×Bool):=[(K2,true),(gZ,true)]
def oT (c:D2)(w:nz):=Ev kZ F k0 f110 arW 0 .cur wB iU 2 (c,w,())
def U7 (c:D2)(w:nz):oT F c w=(au F0 c 4).bind fun d=>(kf F0 ak (aj (1+d.1.1)) []).bind fun e=>ck (eA F 0 w.2.1.length 8) (br (decide ((w.2.2.2.2.length:Int)>0)) ((bI F0 (w.2.2.2.2.length:Int) 8).bind fun f=>(au F0 d.2.1 f.1).bind fun a=>ck (bO (aj ((aj ((w.2.2.2.2.length:Int)-1))-a.1.1)) (w.2.2.2.2.length:Int)) ((mn F0 a.2.1 3).bind fun b=>br b.1.1 ((ll F0 (aN w.2.2.2.2 (aj ((aj ((w.2.2.2.2.length:Int)-1))-a.1.1)) cZ.aC).2.1).bind fun g=>(kf F0 g.1 (aN w.2.2.2.2 (aj ((aj ((w.2.2.2.2.length:Int)-1))-a.1.1)) cZ.aC).1 [(1,0,1,0)]).bind fun h=>cJ F (ei F) F.n (cr (aN w.2.2.2.2 (aj ((aj ((w.2.2.2.2.length:Int)-1))-a.1.1)) cZ.aC).1 h.1 0 b.2.1.1 b.2.1.2.1 b.2.1.2.2 w.1.1 w.1.2 w.2.1 w.2.2.1 w.2.2.2.1 w.2.2.2.2 0 0 ak 0 ak 0 ak 0 ak 0 0 0 0 0 ([]++w.2.1) [] [] [])) (cJ F (ei F) F.n (cr (aN w.2.2.2.2 (aj ((aj ((w.2.2.2.2.length:Int)-1))-a.1.1)) cZ.aC).1 (aN w.2.2.2.2 (aj ((aj ((w.2.2.2.2.length:Int)-1))-a.1.1)) cZ.aC).2.1 0 b.2.1.1 b.2.1.2.1 b.2.1.2.2 w.1.1 w.1.2 w.2.1 w.2.2.1 w.2.2.2.1 w.2.2.2.2 0 0 ak 0 ak 0 ak 0 ak 0 0 0 0 0 ([]++w.2.1) [] [] [])))) (cJ F (ei F) F.n (cr (aj (1+d.1.1)) e.1 0 d.2.1.1 d.2.1.2.1 d.2.1.2.2 w.1.1 w.1.2 w.2.1 w.2.2.1 w.2.2.2.1 w.2.2.2.2 0 0 ak 0 ak 0 ak 0 ak 0 0 0 0 0 ([]++w.2.1) [] [] []))):=by kernel_rfl
def Bn:Any:=.two ⟨arW,0,.cur,wB,2,iU,fun x=>oT F0 x.1 x.2.1⟩
def U8:ba 110 Bn:=UC kZ ⟨fs,x2,oe,U4,Hz,U6,trivial⟩ func110 k0 (by kernel_rfl)
def HJ: Option (Args fY):=bn aB F ab f112 [] fY 2 (())
def ajq: HJ F= some ((0,ak,[]),()):=by kernel_rfl
def OY:Any:=.one ⟨[],fY,2,fun x=>HJ F0⟩
def ajr:ba 112 OY:=aw aB trivial func112 ab (by kernel_rfl)
def oU:=[(21,dU),(50,nC),(56,pN),(58,iZ),(102,iD),(108,yF),(110,Bn),(111,gb),(112,OY),(113,ho)]
def oV:Nat->Option Hint:=look [(17,{live:=[0,3,4,6,7,8,9],Bg:=[(4,5,3,.int .i64),(4,8,3,.int .i64),(4,11,3,.int .i64)],xl:=[0,3,4,6,8],rl:=[4]})]
def bo (cu t k:Int)(a:List Int)(b c w d:Int)(e:List Int)(f:List bb)(g:List b0)(h:List bS)(u v:Int)(x:ByteArray)(y:Int)(z:ByteArray)(A:Int)(B:ByteArray)(C:Int)(D:ByteArray)(E i j l m q:Int)(o:ByteArray)(G p r s:List Int):St:={nt:=115,tm:=[(0,.v (.c (.ptr 4000000 0))),b9 3,b9 4,b9 6,(7,bq cu),(8,bq t),(9,bq k)],bx:=[(4000000,[.ro true 5 (.int .u8) a,an b,an c]),(3,[an w,an d,.ro false 3 (.int .i64) e,.ro false 50 (cl) f,.ro false 102 (eI) g,.ro false 95 (cZ) h]),(4,[an u,an v,.str x,an y,.str z,.own 1000000 none,an A,.str B,.own 1000001 none,an C,.str D,.own 1000002 none,an E,an i,an j,an l,an m]),(6,[an q,.str o,.own 1000003 none])],bl:=[ay 1000000 3 (.int .i64) G,ay 1000001 3 (.int .i64) p,ay 1000002 3 (.int .i64) r,ay 1000003 3 (.int .i64) s],sp:=.v (.c (.ptr 4000000 0))}
def gy (s:Int)(a:List Int)(b c w d:Int)(e:List Int)(f:List bb)(g:List b0)(h:List bS)(t u:Int)(v:ByteArray)(x:Int)(y:ByteArray)(z:Int)(A:ByteArray)(B:Int)(C:ByteArray)(D i j k l q:Int)(m:ByteArray)(E o p r:List Int):St:={nt:=115,tm:=[(0,.v (.c (.ptr 4000000 0))),b9 3,b9 4,b9 6,(8,bq s)],bx:=[(4000000,[.ro true 5 (.int .u8) a,an b,an c]),(3,[an w,an d,.ro false 3 (.int .i64) e,.ro false 50 (cl) f,.ro false 102 (eI) g,.ro false 95 (cZ) h]),(4,[an t,an u,.str v,an x,.str y,.own 1000000 none,an z,.str A,.own 1000001 none,an B,.str C,.own 1000002 none,an D,an i,an j,an k,an l]),(6,[an q,.str m,.own 1000003 none])],bl:=[ay 1000000 3 (.int .i64) E,ay 1000001 3 (.int .i64) o,ay 1000002 3 (.int .i64) p,ay 1000003 3 (.int .i64) r],sp:=.v (.c (.ptr 4000000 0))}
def bJ (a:St):Option U:=fy oU F oV [.r,.r,.r,.r,.r,.r,.r,.r,.l,.r,.b,.i] f57 J n a
def bp:=aww oU F oV [.r,.r,.r,.r,.r,.r,.r,.r,.l,.r,.b] f57 .cur wB iU 2
def yH (cu a k:Int)(c:List Int)(d e w b:Int)(f:List Int)(g:List bb)(h:List b0)(i:List bS)(u v:Int)(x:ByteArray)(y:Int)(z:ByteArray)(A:Int)(B:ByteArray)(C:Int)(D:ByteArray)(E j l m o q:Int)(p:ByteArray)(G r s t:List Int):bJ F J (n+1) (bo cu a k c d e w b f g h i u v x y z A B C D E j l m o q p G r s t)=br (decide (k<7)) (br (decide (a<60)) ((lF F0 (w,b) a).bind fun H=>br (H.1 != cu) (bJ F J n (bo cu (aj (a+1)) (aj (k+1)) c d e w b f g h i u v x y z A B C D E j l m o q p G r s t)) (J (.exit 1) (gy a c d e w b f g h i u v x y z A B C D E j l m o q p G r s t))) (J (.exit 1) (gy a c d e w b f g h i u v x y z A B C D E j l m o q p G r s t))) (J (.exit 1) (gy a c d e w b f g h i u v x y z A B C D E j l m o q p G r s t)):=by kernel_rfl
def TO (h:Int)(a:List Int)(b c w d:Int)(i:List Int)(j:List bb)(k:List b0)(l:List bS)(v x:Int)(y:ByteArray)(z:Int)(A:ByteArray)(B:Int)(C:ByteArray)(D:Int)(E:ByteArray)(G m o p r q:Int)(e:ByteArray)(H s t f:List Int):bp F (.exit 1) (gy h a b c w d i j k l v x y z A B C D E G m o p r q e H s t f)=(lI F0 (a,b,c)).bind fun g=>(oc F0 (w,d) (q,e,f) h [g.1.1]).bind fun u=>some (((1,0,u.1,(0,ak,[]),(0,ak,[]),0,0,0,0,0),()),g.2.1,()):=by kernel_rfl
def hz (c:D2)(w:nz):=Ev oU F oV f57 arW 0 .cur wB iU 2 (c,w,())
def aaw (c:D2)(w:nz):hz F c w=(oT F0 c w).bind fun b=>(jQ F0 w.1 b.1.1.2.2.2.1).bind fun k=>br (!k.1) ((HJ F0).bind fun d=>br (decide ((w.2.2.1.length:Int)>0)) ((mn F0 b.2.1 2).bind fun i=>br i.1.1 ((au F0 i.2.1 (w.2.2.1.length:Int)).bind fun j=>ck (bO j.1.1 (w.2.2.1.length:Int)) ((iC F0 (aN w.2.2.1 j.1.1 cl.aC).2.2.2.1.2.2.1).bind fun h=>br (decide ((w.2.1.length:Int)>0)) ((au F0 j.2.1 (w.2.1.length:Int)).bind fun f=>ck (bO f.1.1 (w.2.1.length:Int)) ((au F0 f.2.1 4).bind fun a=>br (a.1.1==0) (some ((b.1.1,()),a.2.1,())) (br (a.1.1==1) ((au F0 a.2.1 2).bind fun e=>(bI F0 (aj ((aj (h.1.1+1))+e.1.1)) 60).bind fun g=>some (((3,g.1,(ak,0,ak,[]),(0,ak,[]),h.1,aN w.2.1 f.1.1 0,0,0,0,0),()),e.2.1,())) (bJ F (bp F) F.n (bo (aN w.2.1 f.1.1 0) (aj (h.1.1+1)) 0 a.2.1.1 a.2.1.2.1 a.2.1.2.2 w.1.1 w.1.2 w.2.1 w.2.2.1 w.2.2.2.1 w.2.2.2.2 0 0 ak 0 ak 0 ak 0 ak 0 0 0 0 0 h.1.1 h.1.2.1 [] [] [] h.1.2.2))))) ((au F0 j.2.1 4).bind fun a=>br (a.1.1==0) (some ((b.1.1,()),a.2.1,())) (br (a.1.1==1) ((au F0 a.2.1 2).bind fun e=>(bI F0 (aj ((aj (h.1.1+1))+e.1.1)) 60).bind fun g=>some (((3,g.1,(ak,0,ak,[]),(0,ak,[]),h.1,0,0,0,0,0),()),e.2.1,())) (bJ F (bp F) F.n (bo 0 (aj (h.1.1+1)) 0 a.2.1.1 a.2.1.2.1 a.2.1.2.2 w.1.1 w.1.2 w.2.1 w.2.2.1 w.2.2.2.1 w.2.2.2.2 0 0 ak 0 ak 0 ak 0 ak 0 0 0 0 0 h.1.1 h.1.2.1 [] [] [] h.1.2.2)))))) (br (decide ((w.2.1.length:Int)>0)) ((au F0 i.2.1 (w.2.1.length:Int)).bind fun f=>ck (bO f.1.1 (w.2.1.length:Int)) ((au F0 f.2.1 4).bind fun a=>br (a.1.1==0) (some ((b.1.1,()),a.2.1,())) (br (a.1.1==1) ((au F0 a.2.1 2).bind fun e=>(bI F0 (aj ((aj (d.1.1+1))+e.1.1)) 60).bind fun g=>some (((3,g.1,(ak,0,ak,[]),(0,ak,[]),d.1,aN w.2.1 f.1.1 0,0,0,0,0),()),e.2.1,())) (bJ F (bp F) F.n (bo (aN w.2.1 f.1.1 0) (aj (d.1.1+1)) 0 a.2.1.1 a.2.1.2.1 a.2.1.2.2 w.1.1 w.1.2 w.2.1 w.2.2.1 w.2.2.2.1 w.2.2.2.2 0 0 ak 0 ak 0 ak 0 ak 0 0 0 0 0 d.1.1 d.1.2.1 [] [] [] d.1.2.2))))) ((au F0 i.2.1 4).bind fun a=>br (a.1.1==0) (some ((b.1.1,()),a.2.1,())) (br (a.1.1==1) ((au F0 a.2.1 2).bind fun e=>(bI F0 (aj ((aj (d.1.1+1))+e.1.1)) 60).bind fun g=>some (((3,g.1,(ak,0,ak,[]),(0,ak,[]),d.1,0,0,0,0,0),()),e.2.1,())) (bJ F (bp F) F.n (bo 0 (aj (d.1.1+1)) 0 a.2.1.1 a.2.1.2.1 a.2.1.2.2 w.1.1 w.1.2 w.2.1 w.2.2.1 w.2.2.2.1 w.2.2.2.2 0 0 ak 0 ak 0 ak 0 ak 0 0 0 0 0 d.1.1 d.1.2.1 [] [] [] d.1.2.2)))))) (br (decide ((w.2.1.length:Int)>0)) ((au F0 b.2.1 (w.2.1.length:Int)).bind fun f=>ck (bO f.1.1 (w.2.1.length:Int)) ((au F0 f.2.1 4).bind fun a=>br (a.1.1==0) (some ((b.1.1,()),a.2.1,())) (br (a.1.1==1) ((au F0 a.2.1 2).bind fun e=>(bI F0 (aj ((aj (d.1.1+1))+e.1.1)) 60).bind fun g=>some (((3,g.1,(ak,0,ak,[]),(0,ak,[]),d.1,aN w.2.1 f.1.1 0,0,0,0,0),()),e.2.1,())) (bJ F (bp F) F.n (bo (aN w.2.1 f.1.1 0) (aj (d.1.1+1)) 0 a.2.1.1 a.2.1.2.1 a.2.1.2.2 w.1.1 w.1.2 w.2.1 w.2.2.1 w.2.2.2.1 w.2.2.2.2 0 0 ak 0 ak 0 ak 0 ak 0 0 0 0 0 d.1.1 d.1.2.1 [] [] [] d.1.2.2))))) ((au F0 b.2.1 4).bind fun a=>br (a.1.1==0) (some ((b.1.1,()),a.2.1,())) (br (a.1.1==1) ((au F0 a.2.1 2).bind fun e=>(bI F0 (aj ((aj (d.1.1+1))+e.1.1)) 60).bind fun g=>some (((3,g.1,(ak,0,ak,[]),(0,ak,[]),d.1,0,0,0,0,0),()),e.2.1,())) (bJ F (bp F) F.n (bo 0 (aj (d.1.1+1)) 0 a.2.1.1 a.2.1.2.1 a.2.1.2.2 w.1.1 w.1.2 w.2.1 w.2.2.1 w.2.2.2.1 w.2.2.2.2 0 0 ak 0 ak 0 ak 0 ak 0 0 0 0 0 d.1.1 d.1.2.1 [] [] [] d.1.2.2)))))) (br (decide ((w.2.1.length:Int)>0)) ((au F0 b.2.1 (w.2.1.length:Int)).bind fun f=>ck (bO f.1.1 (w.2.1.length:Int)) ((au F0 f.2.1 4).bind fun a=>br (a.1.1==0) (some ((b.1.1,()),a.2.1,())) (br (a.1.1==1) ((au F0 a.2.1 2).bind fun e=>(bI F0 (aj ((aj (b.1.1.2.2.2.1.1+1))+e.1.1)) 60).bind fun g=>some (((3,g.1,(ak,0,ak,[]),(0,ak,[]),b.1.1.2.2.2.1,aN w.2.1 f.1.1 0,0,0,0,0),()),e.2.1,())) (bJ F (bp F) F.n (bo (aN w.2.1 f.1.1 0) (aj (b.1.1.2.2.2.1.1+1)) 0 a.2.1.1 a.2.1.2.1 a.2.1.2.2 w.1.1 w.1.2 w.2.1 w.2.2.1 w.2.2.2.1 w.2.2.2.2 0 0 ak 0 ak 0 ak 0 ak 0 0 0 0 0 b.1.1.2.2.2.1.1 b.1.1.2.2.2.1.2.1 [] [] [] b.1.1.2.2.2.1.2.2))))) ((au F0 b.2.1 4).bind fun a=>br (a.1.1==0) (some ((b.1.1,()),a.2.1,())) (br (a.1.1==1) ((au F0 a.2.1 2).bind fun e=>(bI F0 (aj ((aj (b.1.1.2.2.2.1.1+1))+e.1.1)) 60).bind fun g=>some (((3,g.1,(ak,0,ak,[]),(0,ak,[]),b.1.1.2.2.2.1,0,0,0,0,0),()),e.2.1,())) (bJ F (bp F) F.n (bo 0 (aj (b.1.1.2.2.2.1.1+1)) 0 a.2.1.1 a.2.1.2.1 a.2.1.2.2 w.1.1 w.1.2 w.2.1 w.2.2.1 w.2.2.2.1 w.2.2.2.2 0 0 ak 0 ak 0 ak 0 ak 0 0 0 0 0 b.1.1.2.2.2.1.1 b.1.1.2.2.2.1.2.1 [] [] [] b.1.1.2.2.2.1.2.2))))):=by kernel_rfl
def Gy:Any:=.two ⟨arW,0,.cur,wB,2,iU,fun x=>hz F0 x.1 x.2.1⟩
def aax:ba 57 Gy:=UC oU ⟨fs,x2,Gx,oe,mI,OV,U8,j9,ajr,lA,trivial⟩ func57 oV (by kernel_rfl)
def fJ:=[(21,dU),(49,mD),(50,nC),(53,gv),(54,Q0),(55,cL),(56,pN),(57,Gy),(58,iZ)]
def fK:Nat->Option Hint:=look [(8,{live:=[3,4,5,6,7],Bg:=[(4,8,3,.int .i64),(4,11,3,.int .i64),(4,14,3,.int .i64)],xl:=[4,6],rl:=[4]}),(19,{live:=[0,3,4,5,6,10],Bg:=[(4,8,3,.int .i64),(4,11,3,.int .i64),(4,14,3,.int .i64)],xl:=[0,3,4,6],rl:=[4]})]
def cS (b a k:Int)(c:List Int)(d e w f:Int)(g:List Int)(h:List bb)(i:List b0)(j:List bS)(v x y z A:Int)(B:ByteArray)(C:Int)(D:ByteArray)(E:Int)(G:ByteArray)(l:Int)(m:ByteArray)(o p q r s:Int)(H t u:List Int):St:={nt:=152,tm:=[(0,.v (.c (.ptr 4000000 0))),b9 3,b9 4,(5,bq b),(6,bq a),(10,bq k)],bx:=[(4000000,[.ro true 5 (.int .u8) c,an d,an e]),(3,[an w,an f,.ro false 3 (.int .i64) g,.ro false 50 (cl) h,.ro false 102 (eI) i,.ro false 95 (cZ) j]),(4,[an v,an x,an y,an z,an A,.str B,an C,.str D,.own 1000000 none,an E,.str G,.own 1000001 none,an l,.str m,.own 1000002 none,an o,an p,an q,an r,an s])],bl:=[ay 1000000 3 (.int .i64) H,ay 1000001 3 (.int .i64) t,ay 1000002 3 (.int .i64) u],sp:=.v (.c (.ptr 4000000 0))}
def EG (a:List Int)(b c k l m o p:Int)(q:ByteArray)(r:Int)(s:ByteArray)(t:Int)(u:ByteArray)(d:Int)(e:ByteArray)(f g h i j:Int):St:={nt:=152,tm:=[b9 4],bx:=[(4000000,[.ro true 5 (.int .u8) a,an b,an c]),(4,[an k,an l,an m,an o,an p,.str q,an r,.str s,.nil,an t,.str u,.nil,an d,.str e,.nil,an f,an g,an h,an i,an j])],bl:=[],sp:=.v (.c (.ptr 4000000 0))}
def Bo (a:Int)(b:List Int)(c d w e:Int)(f:List Int)(g:List bb)(h:List b0)(i:List bS)(t u v x y:Int)(z:ByteArray)(A:Int)(B:ByteArray)(C:Int)(D:ByteArray)(j:Int)(k:ByteArray)(l m o p q:Int)(E r s:List Int):St:={nt:=152,tm:=[(0,.v (.c (.ptr 4000000 0))),b9 3,b9 4,(6,bq a)],bx:=[(4000000,[.ro true 5 (.int .u8) b,an c,an d]),(3,[an w,an e,.ro false 3 (.int .i64) f,.ro false 50 (cl) g,.ro false 102 (eI) h,.ro false 95 (cZ) i]),(4,[an t,an u,an v,an x,an y,.str z,an A,.str B,.own 1000000 none,an C,.str D,.own 1000001 none,an j,.str k,.own 1000002 none,an l,an m,an o,an p,an q])],bl:=[ay 1000000 3 (.int .i64) E,ay 1000001 3 (.int .i64) r,ay 1000002 3 (.int .i64) s],sp:=.v (.c (.ptr 4000000 0))}
def dE (a:St):Option U:=fy fJ F fK [.r,.r,.r,.l,.r,.b,.r,.e,.r,.t,.r,.b,.i] f23 J n a
def cT:=aww fJ F fK [.r,.r,.r,.l,.r,.b,.r,.e,.r,.t,.r,.b] f23 .cur [(K45,true)] iU 2
def cU (b a k:Int)(c:List Int)(d e w f:Int)(g:List Int)(h:List bb)(i:List b0)(j:List bS)(v x y z A:Int)(B:ByteArray)(C:Int)(D:ByteArray)(E:Int)(G:ByteArray)(l:Int)(m:ByteArray)(o p q r s:Int)(H t u:List Int):St:={nt:=152,tm:=[b9 3,b9 4,(5,bq b),(6,bq a),(7,bq k)],bx:=[(4000000,[.ro true 5 (.int .u8) c,an d,an e]),(3,[an w,an f,.ro false 3 (.int .i64) g,.ro false 50 (cl) h,.ro false 102 (eI) i,.ro false 95 (cZ) j]),(4,[an v,an x,an y,an z,an A,.str B,an C,.str D,.own 1000000 none,an E,.str G,.own 1000001 none,an l,.str m,.own 1000002 none,an o,an p,an q,an r,an s])],bl:=[ay 1000000 3 (.int .i64) H,ay 1000001 3 (.int .i64) t,ay 1000002 3 (.int .i64) u],sp:=.v (.c (.ptr 4000000 0))}
def EH (a:List Int)(b c k l m o p:Int)(q:ByteArray)(r:Int)(s:ByteArray)(t:Int)(u:ByteArray)(d:Int)(e:ByteArray)(f g h i j:Int):St:={nt:=152,tm:=[b9 4],bx:=[(4000000,[.ro true 5 (.int .u8) a,an b,an c]),(4,[an k,an l,an m,an o,an p,.str q,an r,.str s,.nil,an t,.str u,.nil,an d,.str e,.nil,an f,an g,an h,an i,an j])],bl:=[],sp:=.v (.c (.ptr 4000000 0))}
def Bp (a:Int)(b:List Int)(c d o p q r s:Int)(t:ByteArray)(u:Int)(v:ByteArray)(w:Int)(x:ByteArray)(e:Int)(f:ByteArray)(g h i j k:Int)(y l m:List Int):St:={nt:=152,tm:=[b9 4,(6,bq a)],bx:=[(4000000,[.ro true 5 (.int .u8) b,an c,an d]),(4,[an o,an p,an q,an r,an s,.str t,an u,.str v,.own 1000000 none,an w,.str x,.own 1000001 none,an e,.str f,.own 1000002 none,an g,an h,an i,an j,an k])],bl:=[ay 1000000 3 (.int .i64) y,ay 1000001 3 (.int .i64) l,ay 1000002 3 (.int .i64) m],sp:=.v (.c (.ptr 4000000 0))}
def dG (a:St):Option U:=fy fJ F fK [.r,.r,.r,.l,.r,.b,.r,.t,.l,.r,.b,.i] f23 J n a
def dH:=aww fJ F fK [.r,.r,.r,.l,.r,.b,.r,.t,.l,.r,.b] f23 .cur [(K45,true)] iU 2
def wE (b a k:Int)(d:List Int)(e f w g:Int)(h:List Int)(c:List bb)(i:List b0)(j:List bS)(v x y z A:Int)(B:ByteArray)(C:Int)(D:ByteArray)(E:Int)(G:ByteArray)(l:Int)(m:ByteArray)(o p q r s:Int)(H t u:List Int):dE F J (n+1) (cS b a k d e f w g h c i j v x y z A B C D E G l m o p q r s H t u)=br (decide (k<b)) (ck (!(b==0)) (ck (bO (Int.tmod (aj (a+k)) b) (c.length:Int)) (br (decide (((aN c (Int.tmod (aj (a+k)) b) cl.aC).2.2.2.2.2.2.2.length:Int)>0)) (ck (!(b==0)) (J .ret (EG d e f 2 (Int.tmod (aj (a+k)) b) 0 0 0 ak 0 ak 0 ak 0 ak 0 0 0 0 0))) (dE F J n (cS b a (aj (k+1)) d e f w g h c i j v x y z A B C D E G l m o p q r s H t u))))) (J (.exit 3) (Bo a d e f w g h c i j v x y z A B C D E G l m o p q r s H t u)):=by kernel_rfl
def wF (b a k:Int)(c:List Int)(d e w g:Int)(h:List Int)(f:List bb)(G:List b0)(H:List bS)(t u v x y:Int)(z:ByteArray)(A:Int)(B:ByteArray)(C:Int)(D:ByteArray)(i:Int)(j:ByteArray)(l m o p q:Int)(E r s:List Int):dG F J (n+1) (cU b a k c d e w g h f G H t u v x y z A B C D i j l m o p q E r s)=br (decide (k<b)) (ck (!(b==0)) (ck (bO (Int.tmod (aj (a+k)) b) (f.length:Int)) ((U5 F0 (w,g) (aN f (Int.tmod (aj (a+k)) b) cl.aC)).bind fun I=>br I.2.1 (ck (!(b==0)) ((cR F0 h (Int.tmod (aj (a+k)) b)).bind fun K=>br (!K.1) (ck (!(b==0)) (J .ret (EH c d e 1 (Int.tmod (aj (a+k)) b) 0 0 0 ak 0 ak 0 ak 0 ak 0 0 0 0 0))) (dG F J n (cU b a (aj (k+1)) c d e w g h f G H t u v x y z A B C D i j l m o p q E r s)))) (dG F J n (cU b a (aj (k+1)) c d e w g h f G H t u v x y z A B C D i j l m o p q E r s))))) (J (.exit 1) (Bp a c d e t u v x y z A B C D i j l m o p q E r s)):=by kernel_rfl
def TP (a:List Int)(b c k l m o p:Int)(q:ByteArray)(r:Int)(s:ByteArray)(t:Int)(u:ByteArray)(d:Int)(e:ByteArray)(f g h i j:Int):cT F .ret (EG a b c k l m o p q r s t u d e f g h i j)=some (((k,l,m,o,p,(q,r,s,[]),(t,u,[]),(d,e,[]),f,g,h,i,j),()),(a,b,c),()):=by kernel_rfl
def Q1 (a:Int)(b:List Int)(c d w g:Int)(h:List Int)(i:List bb)(e:List b0)(j:List bS)(v x y z A:Int)(B:ByteArray)(C:Int)(D:ByteArray)(E:Int)(G:ByteArray)(k:Int)(l:ByteArray)(m o p q r:Int)(H s t:List Int):cT F (.exit 3) (Bo a b c d w g h i e j v x y z A B C D E G k l m o p q r H s t)=br ((e.length:Int)==0) (some (((2,a,0,0,0,(ak,0,ak,[]),(0,ak,[]),(0,ak,[]),0,0,0,0,0),()),(b,c,d),())) ((bI F0 (e.length:Int) 4).bind fun u=>(au F0 (b,c,d) u.1).bind fun f=>some (((3,f.1.1,0,0,0,(ak,0,ak,[]),(0,ak,[]),(0,ak,[]),0,0,0,0,0),()),f.2.1,())):=by kernel_rfl
def TQ (a:List Int)(b c k l m o p:Int)(q:ByteArray)(r:Int)(s:ByteArray)(t:Int)(u:ByteArray)(d:Int)(e:ByteArray)(f g h i j:Int):dH F .ret (EH a b c k l m o p q r s t u d e f g h i j)=some (((k,l,m,o,p,(q,r,s,[]),(t,u,[]),(d,e,[]),f,g,h,i,j),()),(a,b,c),()):=by kernel_rfl
def Q2 (a:Int)(b:List Int)(c d o p q r s:Int)(t:ByteArray)(u:Int)(v:ByteArray)(w:Int)(x:ByteArray)(e:Int)(f:ByteArray)(g h i j k:Int)(y l m:List Int):dH F (.exit 1) (Bp a b c d o p q r s t u v w x e f g h i j k y l m)=some (((7,a,0,0,0,(ak,0,ak,[]),(0,ak,[]),(0,ak,[]),0,0,0,0,0),()),(b,c,d),()):=by kernel_rfl
def rA (c:D2)(w:nz):=Ev fJ F fK f23 arW 0 .cur [(K45,true)] iU 2 (c,w,())
def XQ (c:D2)(w:nz):rA F c w=(dC F0 (w.2.2.1.length:Int) 1).bind fun l=>(au F0 c l.1).bind fun b=>(au F0 b.2.1 20).bind fun a=>br (a.1.1==0) (dG F (dH F) F.n (cU (w.2.2.1.length:Int) b.1.1 0 a.2.1.1 a.2.1.2.1 a.2.1.2.2 w.1.1 w.1.2 w.2.1 w.2.2.1 w.2.2.2.1 w.2.2.2.2 0 0 0 0 0 ak 0 ak 0 ak 0 ak 0 0 0 0 0 [] [] [])) (br (a.1.1==1) (dG F (dH F) F.n (cU (w.2.2.1.length:Int) b.1.1 0 a.2.1.1 a.2.1.2.1 a.2.1.2.2 w.1.1 w.1.2 w.2.1 w.2.2.1 w.2.2.2.1 w.2.2.2.2 0 0 0 0 0 ak 0 ak 0 ak 0 ak 0 0 0 0 0 [] [] [])) (br (a.1.1==2) (dG F (dH F) F.n (cU (w.2.2.1.length:Int) b.1.1 0 a.2.1.1 a.2.1.2.1 a.2.1.2.2 w.1.1 w.1.2 w.2.1 w.2.2.1 w.2.2.2.1 w.2.2.2.2 0 0 0 0 0 ak 0 ak 0 ak 0 ak 0 0 0 0 0 [] [] [])) (br (a.1.1==3) (dE F (cT F) F.n (cS (w.2.2.1.length:Int) b.1.1 0 a.2.1.1 a.2.1.2.1 a.2.1.2.2 w.1.1 w.1.2 w.2.1 w.2.2.1 w.2.2.2.1 w.2.2.2.2 0 0 0 0 0 ak 0 ak 0 ak 0 ak 0 0 0 0 0 [] [] [])) (br (a.1.1==4) (dE F (cT F) F.n (cS (w.2.2.1.length:Int) b.1.1 0 a.2.1.1 a.2.1.2.1 a.2.1.2.2 w.1.1 w.1.2 w.2.1 w.2.2.1 w.2.2.2.1 w.2.2.2.2 0 0 0 0 0 ak 0 ak 0 ak 0 ak 0 0 0 0 0 [] [] [])) (br (a.1.1==5) (dE F (cT F) F.n (cS (w.2.2.1.length:Int) b.1.1 0 a.2.1.1 a.2.1.2.1 a.2.1.2.2 w.1.1 w.1.2 w.2.1 w.2.2.1 w.2.2.2.1 w.2.2.2.2 0 0 0 0 0 ak 0 ak 0 ak 0 ak 0 0 0 0 0 [] [] [])) (br (a.1.1==6) (dE F (cT F) F.n (cS (w.2.2.1.length:Int) b.1.1 0 a.2.1.1 a.2.1.2.1 a.2.1.2.2 w.1.1 w.1.2 w.2.1 w.2.2.1 w.2.2.2.1 w.2.2.2.2 0 0 0 0 0 ak 0 ak 0 ak 0 ak 0 0 0 0 0 [] [] [])) (br (a.1.1==7) (some (((6,b.1.1,0,0,0,(ak,0,ak,[]),(0,ak,[]),(0,ak,[]),0,0,0,0,0),()),a.2.1,())) (br (a.1.1==8) (some (((7,b.1.1,0,0,0,(ak,0,ak,[]),(0,ak,[]),(0,ak,[]),0,0,0,0,0),()),a.2.1,())) (br (a.1.1==9) ((mn F0 a.2.1 2).bind fun g=>br g.1.1 ((iV F0 g.2.1 [0,0,5,40,9999]).bind fun h=>some (((8,b.1.1,h.1.1,0,0,(ak,0,ak,[]),(0,ak,[]),(0,ak,[]),0,0,0,0,0),()),h.2.1,())) ((au F0 g.2.1 2).bind fun i=>(dC F0 (w.2.2.2.1.length:Int) 1).bind fun m=>(au F0 i.2.1 m.1).bind fun j=>some (((aj (4+i.1.1),j.1.1,0,0,0,(ak,0,ak,[]),(0,ak,[]),(0,ak,[]),0,0,0,0,0),()),j.2.1,()))) (br (a.1.1==10) ((lI F0 a.2.1).bind fun k=>some (((9,b.1.1,0,4,0,(ak,0,ak,[]),(0,ak,[]),(0,ak,[]),0,k.1.1),()),k.2.1,())) (br (a.1.1==11) (br (decide ((w.2.1.length:Int)>0)) ((hz F0 a.2.1 w).bind fun e=>some (((10,b.1.1,0,e.1.1),()),e.2.1,())) (br ((w.2.2.2.1.length:Int)==0) (some (((2,b.1.1,0,0,0,(ak,0,ak,[]),(0,ak,[]),(0,ak,[]),0,0,0,0,0),()),a.2.1,())) ((bI F0 (w.2.2.2.1.length:Int) 4).bind fun f=>(au F0 a.2.1 f.1).bind fun d=>some (((3,d.1.1,0,0,0,(ak,0,ak,[]),(0,ak,[]),(0,ak,[]),0,0,0,0,0),()),d.2.1,())))) (br (a.1.1==12) (br (decide ((w.2.1.length:Int)>0)) ((hz F0 a.2.1 w).bind fun e=>some (((10,b.1.1,0,e.1.1),()),e.2.1,())) (br ((w.2.2.2.1.length:Int)==0) (some (((2,b.1.1,0,0,0,(ak,0,ak,[]),(0,ak,[]),(0,ak,[]),0,0,0,0,0),()),a.2.1,())) ((bI F0 (w.2.2.2.1.length:Int) 4).bind fun f=>(au F0 a.2.1 f.1).bind fun d=>some (((3,d.1.1,0,0,0,(ak,0,ak,[]),(0,ak,[]),(0,ak,[]),0,0,0,0,0),()),d.2.1,())))) (br (a.1.1==13) (br (decide ((w.2.1.length:Int)>0)) ((hz F0 a.2.1 w).bind fun e=>some (((10,b.1.1,0,e.1.1),()),e.2.1,())) (br ((w.2.2.2.1.length:Int)==0) (some (((2,b.1.1,0,0,0,(ak,0,ak,[]),(0,ak,[]),(0,ak,[]),0,0,0,0,0),()),a.2.1,())) ((bI F0 (w.2.2.2.1.length:Int) 4).bind fun f=>(au F0 a.2.1 f.1).bind fun d=>some (((3,d.1.1,0,0,0,(ak,0,ak,[]),(0,ak,[]),(0,ak,[]),0,0,0,0,0),()),d.2.1,())))) (br ((w.2.2.2.1.length:Int)==0) (some (((2,b.1.1,0,0,0,(ak,0,ak,[]),(0,ak,[]),(0,ak,[]),0,0,0,0,0),()),a.2.1,())) ((bI F0 (w.2.2.2.1.length:Int) 4).bind fun f=>(au F0 a.2.1 f.1).bind fun d=>some (((3,d.1.1,0,0,0,(ak,0,ak,[]),(0,ak,[]),(0,ak,[]),0,0,0,0,0),()),d.2.1,())))))))))))))))):=by kernel_rfl
def EI:Any:=.two ⟨arW,0,.cur,[(K45,true)],2,iU,fun x=>rA F0 x.1 x.2.1⟩
def XR:ba 23 EI:=UC fJ ⟨fs,x1,x2,kL,ahN,dD,Gx,aax,oe,trivial⟩ func23 fK (by kernel_rfl)
def U9:=[(113,ho)]
def HK (a b:D9):=bn U9 F ab f315 wz fY 2 (a,b,())
def ajs (a b:D9):HK F a b=br (decide (a.1>b.1)) ((iC F0 a).bind fun c=>some (c.1,())) ((iC F0 b).bind fun d=>some (d.1,())):=by kernel_rfl
def OZ:Any:=.one ⟨wz,fY,2,fun x=>HK F0 x.1 x.2.1⟩
def ajt:ba 315 OZ:=aw U9 ⟨lA,trivial⟩ func315 ab (by kernel_rfl)
def Va:=[(131,pE),(181,te)]
abbrev aBm:List (Ty×Bool):=[(.str,false),(.bool,false)]
def HL (name:ByteArray):=bn Va F ab f316 dw aBm 1 (name,())
def aju (name:ByteArray):HL F name=(pD F0 name).bind fun a=>br (!a.2.1) (some (ak,false,())) (br (decide ((a.1.length:Int)<3)) (some (ak,false,())) (ck (bO (aj ((a.1.length:Int)-1)) (a.1.length:Int)) (ck (bO (aj ((a.1.length:Int)-2)) (a.1.length:Int)) (br ((aN a.1 (aj ((a.1.length:Int)-1)) (0,[])).1 != (aj ((aN a.1 (aj ((a.1.length:Int)-2)) (0,[])).1+1))) (some (ak,false,())) (ck (bO (aj ((a.1.length:Int)-2)) (a.1.length:Int)) (ck (bO (aj ((a.1.length:Int)-3)) (a.1.length:Int)) (br ((aN a.1 (aj ((a.1.length:Int)-2)) (0,[])).1 != (aj ((aN a.1 (aj ((a.1.length:Int)-3)) (0,[])).1+1))) (some (ak,false,())) ((ll F0 name).bind fun b=>(ll F0 b.1).bind fun c=>some (c.1,true,()))))))))):=by kernel_rfl
def O0:Any:=.one ⟨dw,aBm,1,fun x=>HL F0 x.1⟩
def ajv:ba 316 O0:=aw Va ⟨CQ,Hz,trivial⟩ func316 ab (by kernel_rfl)
def Vb:=[(68,eB)]
abbrev Sr:List (Ty×Bool):=[(.str,false),(.str,false)]
def HM (s t:ByteArray):=bn Vb F ab f317 Sr aT 1 (s,t,())
def ajw (s t:ByteArray):HM F s t=(eJ F0 s).bind fun a=>br (!a.1) (some (false,())) ((eJ F0 t).bind fun b=>br (!b.1) (some (false,())) (br (decide ((t.size:Int)>(s.size:Int))) (some (false,())) (ck (QW 0 (t.size:Int) (s.size:Int)) (br (!((s.extract (0:Int).toNat (t.size:Int).toNat).toList==t.toList)) (some (false,())) (br ((s.size:Int)==(t.size:Int)) (some (true,())) (ck (bO (t.size:Int) (s.size:Int)) (some ((gV s (t.size:Int))==47,())))))))):=by kernel_rfl
def O1:Any:=.one ⟨Sr,aT,1,fun x=>HM F0 x.1 x.2.1⟩
def ajx:ba 317 O1:=aw Vb ⟨gu,trivial⟩ func317 ab (by kernel_rfl)
def amL:=[(53,gv),(69,da),(98,lB),(111,gb),(122,hl),(181,te),(315,OZ),(316,O0),(317,O1)]
abbrev aBn:List (Ty×Bool):=[(K1,true),(K12,true),(K9,true)]
def O2 (c:D1)(s:TN)(q:D9):=bn amL F ab f285 aBn Bl 2 (c,s,q,())
def awC (c:D1)(s:TN)(q:D9):O2 F c s q=(mH F0 s).bind fun a=>(iB F0 c s).bind fun f=>br (!f.1) (some (a.1,())) ((jQ F0 c q).bind fun g=>br (!g.1) (some (a.1,())) ((HK F0 q s.2.2.1).bind fun b=>(ll F0 q.2.1).bind fun h=>(dk F0 h.1).bind fun i=>(dC F0 s.2.1 i.1).bind fun d=>(HL F0 q.2.1).bind fun e=>br e.2.1 ((HM F0 e.1 s.2.2.2).bind fun j=>br j.1 (some ((a.1.1,d.1,b.1,e.1),())) (some ((a.1.1,d.1,b.1,a.1.2.2.2),()))) (some ((a.1.1,d.1,b.1,a.1.2.2.2),())))):=by kernel_rfl
def HN:Any:=.one ⟨aBn,Bl,2,fun x=>O2 F0 x.1 x.2.1 x.2.2.1⟩
def Vc:ba 285 HN:=aw amL ⟨kL,eo,ue,j9,lh,Hz,ajt,ajv,ajx,trivial⟩ func285 ab (by kernel_rfl)
def Vd:=[(69,da),(122,hl),(180,ln)]
abbrev ahO:List (Ty×Bool):=[(K1,true),(K12,true),(K15,true)]
def yI (c:D1)(s:TN)(b:D15):=bn Vd F ab f286 ahO aT 1 (c,s,b,())
def ajy (c:D1)(s:TN)(b:D15):yI F c s b=(iB F0 c s).bind fun a=>br a.1 ((mF F0 c b).bind fun d=>br d.1 ((dk F0 b.1).bind fun e=>br (decide (e.1>s.1)) (some (decide (b.2.1>=s.2.1),())) (some (false,()))) (some (false,()))) (some (false,())):=by kernel_rfl
def B0:Any:=.one ⟨ahO,aT,1,fun x=>yI F0 x.1 x.2.1 x.2.2.1⟩
def Ss:ba 286 B0:=aw Vd ⟨eo,lh,tW,trivial⟩ func286 ab (by kernel_rfl)
def ahP:=[(69,da),(98,lB),(286,B0)]
abbrev ahQ:List (Ty×Bool):=[(K12,true),(.bool,false)]
def O3 (c:D1)(s:TN)(b:D15):=bn ahP F ab f287 ahO ahQ 2 (c,s,b,())
def at2 (c:D1)(s:TN)(b:D15):O3 F c s b=(mH F0 s).bind fun a=>(yI F0 c s b).bind fun d=>br (!d.1) (some (a.1,false,())) ((dk F0 b.1).bind fun e=>some ((e.1,a.1.2),true,())):=by kernel_rfl
def YT:Any:=.one ⟨ahO,ahQ,2,fun x=>O3 F0 x.1 x.2.1 x.2.2.1⟩
def at3:ba 287 YT:=aw ahP ⟨eo,ue,Ss,trivial⟩ func287 ab (by kernel_rfl)
def Su:=[(298,tV)]
abbrev aBo:List (Ty×Bool):=[(K12,true),(K12,true)]
def Dd (a b:TN):=bn Su F ab f318 aBo aT 1 (a,b,())
def afp (a b:TN):Dd F a b=br (a.1==b.1) (br (a.2.1==b.2.1) ((wA F0 a.2.2.1 b.2.2.1).bind fun c=>br c.1 (some (a.2.2.2.toList==b.2.2.2.toList,())) (some (false,()))) (some (false,()))) (some (false,())):=by kernel_rfl
def LV:Any:=.one ⟨aBo,aT,1,fun x=>Dd F0 x.1 x.2.1⟩
def afq:ba 318 LV:=aw Su ⟨Jx,trivial⟩ func318 ab (by kernel_rfl)
def De:=[(63,b6)]
def Df:Nat->Option Hint:=look [(4,{live:=[0,3],xl:=[0,3],rl:=[2]})]
def uG (a:Int)(b:List Int):= di 25 [(0,bq a),(3,.v (.c (.own 1000000 none)))] [] [ay 1000000 5 (.int .u8) b]
def O4 (a:Int)(b:List Int):= di 25 [(0,bq a),(3,.v (.c (.own 1000000 none)))] [] [ay 1000000 5 (.int .u8) b]
def Dg (a:St):Option U:=fy De F Df [.r,.r,.r,.l,.b,.i] f281 J n a
def FM:=ig De F Df [.r,.r,.r,.l,.b] f281 ld 2
def JT (a:Int)(b:List Int):Dg F J (n+1) (uG a b)=br (decide (a>127)) (ck (eA F b.length [IntKind.wrap .u8 (aj ((Int.tmod a 128)+128))].length 1) (Dg F J n (uG (aj (Int.tdiv a 128)) (b++[IntKind.wrap .u8 (aj ((Int.tmod a 128)+128))])))) (J (.exit 0) (O4 a b)):=by kernel_rfl
def LW (a:Int)(b:List Int):FM F (.exit 0) (O4 a b)=ck (eA F b.length [IntKind.wrap .u8 (a)].length 1) (some (b++[IntKind.wrap .u8 (a)],())):=by kernel_rfl
def eb (a:Int):=bn De F Df f281 c7 ld 2 (a,())
def amM (a:Int):eb F a=(bL F0 a 0 2147483647).bind fun b=>br (!b.1) (some ([],())) (Dg F (FM F) F.n (uG a [])):=by kernel_rfl
def hD:Any:=.one ⟨c7,ld,2,fun x=>eb F0 x.1⟩
def lJ:ba 281 hD:=aw De ⟨cA,trivial⟩ func281 Df (by kernel_rfl)
def Ve:=[(281,hD)]
def mJ (s:ByteArray):=bn Ve F ab f282 dw ld 2 (s,())
def ajz (s:ByteArray):mJ F s=(eb F0 (s.size:Int)).bind fun a=>ck (decide ((s.size:Int)<=F.mem)) (ck (eA F a.1.length (bytesOf s).length 1) (some (a.1++(bytesOf s),()))):=by kernel_rfl
def rB:Any:=.one ⟨dw,ld,2,fun x=>mJ F0 x.1⟩
def FN:ba 282 rB:=aw Ve ⟨lJ,trivial⟩ func282 ab (by kernel_rfl)
end
end Go.Am.Tryz
