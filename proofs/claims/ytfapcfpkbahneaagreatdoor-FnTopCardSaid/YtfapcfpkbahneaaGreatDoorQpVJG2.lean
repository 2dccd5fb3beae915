/- No condition. -/
import Derived.Test.YtfapcfpkbahneaaGreatDoorQpVJG1
set_option linter.all false
set_option maxRecDepth 100000
namespace Go.Am.Tryz
open Go.Am Go.Proofs Go.Proofs.Tryz
noncomputable section
variable {U:Type} (F:sd) (J:Ex->St->Option U) (n:Nat)
def V3:=[(102,mT),(103,zd),(104,mU),(105,zg)]
abbrev S5:List (Ty×Bool):=[(di,true)]
def bo (r:bD):=bJ V3 F ab f58 S5 S5 2 (r,())
theorem akL (r:bD):bo F r=(ow F0 r.2.2.2.1).bind fun dB=>ck (fp F 0 r.2.2.2.2.1.length 32) ((iq F0 r.2.2.2.2.2.1).bind fun Oq=>(jH F0 r.2.2.2.2.2.2.1).bind fun ia=>(uK F0 r.2.2.2.2.2.2.2).bind fun r24=>some ((r.1,r.2.1,r.2.2.1,dB.1,[]++r.2.2.2.2.1,Oq.1,ia.1,r24.1),())):=by kernel_rfl
def cB:Any:=.one ⟨S5,S5,2,fun x=>bo F0 x.1⟩
theorem c7:bz 58 cB:=aA V3 ⟨vz,Pp,vD,Pq,trivial⟩ func58 ab (by kernel_rfl)
def mV:=[(58,cB)]
def mW:Nat->Option Hint:=look [(3,{live:=[1,2,3,4],yz:=[(2,2,3,.int .i64),(2,3,50,di),(2,4,114,fW),(2,5,127,eu),(3,3,50,di),(3,4,114,fW)],xl:=[1,2,3],rl:=[2]}),(7,{live:=[1,2,3,5],xl:=[2,3],rl:=[2]}),(999999,{live:=[1]})]
def sB (w:o8)(i t2 t21 out bh:Int)(xs:List Int)(aQ:List bD)(ba:List cU)(bp:List cH)(bQ:List Int)(cD:List bD)(cE:List cU)(cI:List cH):St:={nt:=63,tm:=[(1,.v (.c (.UA false (iV) w 0))),cW 2,cW 3,(5,bW i)],bx:=[(2,[aq t2,aq t21,.own 1000000 none,.own 1000001 none,.own 1000002 none,.own 1000003 none]),(3,[aq out,aq bh,.own 1000004 none,.own 1000005 none,.own 1000006 none,.own 1000007 none])],bl:=[aB 1000000 3 (.int .i64) xs,aB 1000001 50 di aQ,aB 1000002 114 fW ba,aB 1000003 127 eu bp,aB 1000004 3 (.int .i64) bQ,aB 1000005 50 di cD,aB 1000006 114 fW cE,aB 1000007 127 eu cI],rob:=[1]}
def Mi (t2 t21 out bh:Int)(xs:List Int)(aQ:List bD)(ba:List cU)(bp:List cH)(bQ:List Int)(cD:List bD)(cE:List cU)(cI:List cH):St:={nt:=63,tm:=[cW 2,cW 3],bx:=[(2,[aq t2,aq t21,.own 1000000 none,.own 1000001 none,.own 1000002 none,.own 1000003 none]),(3,[aq out,aq bh,.own 1000004 none,.own 1000005 none,.own 1000006 none,.own 1000007 none])],bl:=[aB 1000000 3 (.int .i64) xs,aB 1000001 50 di aQ,aB 1000002 114 fW ba,aB 1000003 127 eu bp,aB 1000004 3 (.int .i64) bQ,aB 1000005 50 di cD,aB 1000006 114 fW cE,aB 1000007 127 eu cI],rob:=[1]}
def zh (st:St):Option U:=gQ mV F mW [.r,.r,.r,.l,.r,.b,.i] f26 J n st
def BW:=jG mV F mW [.r,.r,.r,.l,.r,.b] f26 gE 2
def sC (w:o8)(i t2 t21 out bh:Int)(xs:List Int)(aQ:List bD)(ba:List cU)(bp:List cH)(bQ:List Int)(cD:List bD)(cE:List cU)(cI:List cH):St:={nt:=63,tm:=[(1,.v (.c (.UA false (iV) w 0))),cW 2,cW 3,(4,bW i)],bx:=[(2,[aq t2,aq t21,.own 1000000 none,.own 1000001 none,.own 1000002 none,.own 1000003 none]),(3,[aq out,aq bh,.own 1000004 none,.own 1000005 none,.own 1000006 none,.own 1000007 none])],bl:=[aB 1000000 3 (.int .i64) xs,aB 1000001 50 di aQ,aB 1000002 114 fW ba,aB 1000003 127 eu bp,aB 1000004 3 (.int .i64) bQ,aB 1000005 50 di cD,aB 1000006 114 fW cE,aB 1000007 127 eu cI],rob:=[1]}
def Mj (w:o8)(t2 t21 out bh:Int)(xs:List Int)(aQ:List bD)(ba:List cU)(bp:List cH)(bQ:List Int)(cD:List bD)(cE:List cU)(cI:List cH):St:={nt:=63,tm:=[(1,.v (.c (.UA false (iV) w 0))),cW 2,cW 3],bx:=[(2,[aq t2,aq t21,.own 1000000 none,.own 1000001 none,.own 1000002 none,.own 1000003 none]),(3,[aq out,aq bh,.own 1000004 none,.own 1000005 none,.own 1000006 none,.own 1000007 none])],bl:=[aB 1000000 3 (.int .i64) xs,aB 1000001 50 di aQ,aB 1000002 114 fW ba,aB 1000003 127 eu bp,aB 1000004 3 (.int .i64) bQ,aB 1000005 50 di cD,aB 1000006 114 fW cE,aB 1000007 127 eu cI],rob:=[1]}
def zi (st:St):Option U:=gQ mV F mW [.r,.r,.l,.r,.b,.i] f26 J n st
def BX:=jG mV F mW [.r,.r,.l,.r,.b] f26 gE 2
theorem GF (w:o8)(i t2 t21 out bh:Int)(xs:List Int)(aQ:List bD)(ba:List cU)(bp:List cH)(bQ:List Int)(cD:List bD)(cE:List cU)(cI:List cH):zh F J (n+1) (sB w i t2 t21 out bh xs aQ ba bp bQ cD cE cI)=br (decide (i<(w.2.2.2.1.length:Int))) (ck (cr i (w.2.2.2.1.length:Int)) (ck (cr i (w.2.2.2.1.length:Int)) (ck (fp F 0 (aU w.2.2.2.1 i (0,[])).2.length 1) (ck (fp F cE.length [((aU w.2.2.2.1 i (0,[])).1,[]++(aU w.2.2.2.1 i (0,[])).2)].length 32) (zh F J n (sB w (ak (i+1)) t2 t21 out bh xs aQ ba bp bQ cD (cE++[((aU w.2.2.2.1 i (0,[])).1,[]++(aU w.2.2.2.1 i (0,[])).2)]) cI)))))) (J (.exit 2) (Mi t2 t21 out bh xs aQ ba bp bQ cD cE cI)):=by kernel_rfl
theorem GG (w:o8)(i t2 t21 out bh:Int)(xs:List Int)(aQ:List bD)(ba:List cU)(bp:List cH)(bQ:List Int)(cD:List bD)(cE:List cU)(cI:List cH):zi F J (n+1) (sC w i t2 t21 out bh xs aQ ba bp bQ cD cE cI)=br (decide (i<(w.2.2.1.length:Int))) (ck (cr i (w.2.2.1.length:Int)) ((bo F0 (aU w.2.2.1 i di.aG)).bind fun r31=>ck (fp F cD.length [r31.1].length 208) (zi F J n (sC w (ak (i+1)) t2 t21 out bh xs aQ ba bp bQ (cD++[r31.1]) cE cI)))) (J (.exit 0) (Mj w t2 t21 out bh xs aQ ba bp bQ cD cE cI)):=by kernel_rfl
theorem abu (t2 t21 out bh:Int)(xs:List Int)(aQ:List bD)(ba:List cU)(bp:List cH)(bQ:List Int)(cD:List bD)(cE:List cU)(cI:List cH):BW F (.exit 2) (Mi t2 t21 out bh xs aQ ba bp bQ cD cE cI)=some (((out,bh),bQ,cD,cE,cI),()):=by kernel_rfl
theorem abv (w:o8)(t2 t21 out bh:Int)(xs:List Int)(aQ:List bD)(ba:List cU)(bp:List cH)(bQ:List Int)(cD:List bD)(cE:List cU)(cI:List cH):BX F (.exit 0) (Mj w t2 t21 out bh xs aQ ba bp bQ cD cE cI)=zh F (BW F) F.n (sB w 0 t2 t21 out bh xs aQ ba bp bQ cD cE cI):=by kernel_rfl
def zj (w:o8):=bJ mV F mW f26 gE gE 2 (w,())
theorem akM (w:o8):zj F w=ck (fp F 0 w.2.1.length 8) (ck (fp F 0 w.2.2.2.2.length 32) (zi F (BX F) F.n (sC w 0 0 0 w.1.1 w.1.2 [] [] [] [] ([]++w.2.1) [] [] ([]++w.2.2.2.2)))):=by kernel_rfl
def BY:Any:=.one ⟨gE,gE,2,fun x=>zj F0 x.1⟩
theorem S6:bz 26 BY:=aA mV ⟨c7,trivial⟩ func26 mW (by kernel_rfl)
abbrev aLB:List (Ty×Bool):=[(.sl 5 (.int .u8),false),(.int .i64,false),(.int .i64,false)]
def Mk (code:List Int)(ayI aHW:Int):=bJ aF F ab f28 aLB dK 1 (code,ayI,aHW,())
theorem an9 (code:List Int)(ayI aHW:Int):Mk F code ayI aHW=br (decide ((ak (ayI+(ak (Int.tdiv (code.length:Int) 4))))>aHW)) (some (aHW,())) (some (ak (ayI+(ak (Int.tdiv (code.length:Int) 4))),())):=by kernel_rfl
def S7:Any:=.one ⟨aLB,dK,1,fun x=>Mk F0 x.1 x.2.1 x.2.2.1⟩
theorem aoa:bz 28 S7:=aA aF trivial func28 ab (by kernel_rfl)
def ai5:=[(35,dh)]
def mX (c:D1)(view:Int):=bJ ai5 F ab f106 ai2 dK 1 (c,view,())
theorem av2 (c:D1)(view:Int):mX F c view=(eJ F0 c).bind fun r6=>br (!r6.1) (some (-1,())) (br (decide (view<0)) (some (-1,())) (ck (!(c.1==0)) (some (Int.tmod view c.1,())))):=by kernel_rfl
def jU:Any:=.one ⟨ai2,dK,1,fun x=>mX F0 x.1 x.2.1⟩
theorem oz:bz 106 jU:=aA ai5 ⟨ec,trivial⟩ func106 ab (by kernel_rfl)
def vH:=[(164,j2)]
def vI:Nat->Option Hint:=look [(2,{live:=[0,1,2,6,7],yz:=[(6,2,3,.int .i64)],xl:=[1,2,6],rl:=[6]})]
def lx (list:List D9)(view:Int)(name:ByteArray)(i t6:Int)(t61:ByteArray)(xs:List Int):= eD 38 [(0,j9 74 (K9) list),(1,bW view),(2,UP name),cW 6,(7,bW i)] [(6,[aq t6,.str t61,.own 1000000 none])] [aB 1000000 3 (.int .i64) xs]
def Ml (t6:Int)(t61:ByteArray)(xs:List Int):= eD 38 [cW 6] [(6,[aq t6,.str t61,.own 1000000 none])] [aB 1000000 3 (.int .i64) xs]
def J2 (view:Int)(name:ByteArray)(t6:Int)(t61:ByteArray)(xs:List Int):= eD 38 [(1,bW view),(2,UP name),cW 6] [(6,[aq t6,.str t61,.own 1000000 none])] [aB 1000000 3 (.int .i64) xs]
def px (st:St):Option U:=gQ vH F vI [.r,.l,.r,.b,.i] f107 J n st
def qk:=jG vH F vI [.r,.l,.r,.b] f107 ib 2
theorem EO (list:List D9)(view:Int)(name:ByteArray)(i t6:Int)(t61:ByteArray)(xs:List Int):px F J (n+1) (lx list view name i t6 t61 xs)=br (decide (i<(list.length:Int))) (ck (cr i (list.length:Int)) (br ((aU list i K9.aG).1==view) (ck (cr i (list.length:Int)) (br ((aU list i K9.aG).2.1.toList==name.toList) (ck (cr i (list.length:Int)) ((il F0 (aU list i K9.aG)).bind fun qR=>J .ret (Ml qR.1.1 qR.1.2.1 qR.1.2.2))) (px F J n (lx list view name (ak (i+1)) t6 t61 xs)))) (px F J n (lx list view name (ak (i+1)) t6 t61 xs)))) (J (.exit 0) (J2 view name t6 t61 xs)):=by kernel_rfl
theorem abw (t6:Int)(t61:ByteArray)(xs:List Int):qk F .ret (Ml t6 t61 xs)=some ((t6,t61,xs),()):=by kernel_rfl
theorem YR (view:Int)(name:ByteArray)(t6:Int)(t61:ByteArray)(xs:List Int):qk F (.exit 0) (J2 view name t6 t61 xs)=some ((view,name,[]),()):=by kernel_rfl
abbrev aDW:List (Ty×Bool):=[(K13,false),(.int .i64,false),(.str,false)]
def pP (list:D13)(view:Int)(name:ByteArray):=bJ vH F vI f107 aDW ib 2 (list,view,name,())
theorem agq (list:D13)(view:Int)(name:ByteArray):pP F list view name=px F (qk F) F.n (lx list view name 0 0 al []):=by kernel_rfl
def ql:Any:=.one ⟨aDW,ib,2,fun x=>pP F0 x.1 x.2.1 x.2.2.1⟩
theorem BZ:bz 107 ql:=aA vH ⟨pt,trivial⟩ func107 vI (by kernel_rfl)
def sD:Nat->Option Hint:=look [(3,{live:=[0,1,2],yz:=[(0,0,3,.int .i64),(0,1,3,.int .i64),(1,0,3,.int .i64)],xl:=[0,1],rl:=[0]})]
def gR (i:Int)(xs aQ ba bp:List Int):= eD 15 [cW 0,cW 1,(2,bW i)] [(0,[.own 1000000 none,.own 1000001 none]),(1,[.own 1000002 none,.own 1000003 none])] [aB 1000000 3 (.int .i64) xs,aB 1000001 3 (.int .i64) aQ,aB 1000002 3 (.int .i64) ba,aB 1000003 3 (.int .i64) bp]
def GH (xs aQ ba bp:List Int):= eD 15 [cW 0,cW 1] [(0,[.own 1000000 none,.own 1000001 none]),(1,[.own 1000002 none,.own 1000003 none])] [aB 1000000 3 (.int .i64) xs,aB 1000001 3 (.int .i64) aQ,aB 1000002 3 (.int .i64) ba,aB 1000003 3 (.int .i64) bp]
def j3 (st:St):Option U:=gQ aF F sD [.r,.r,.l,.r,.b,.i] f110 J n st
abbrev qm:List (Ty×Bool):=[(K43,true)]
def km:=jG aF F sD [.r,.r,.l,.r,.b] f110 qm 2
theorem Bo (i:Int)(xs aQ ba bp:List Int):j3 F J (n+1) (gR i xs aQ ba bp)=br (decide (i<4)) (ck (fp F ba.length [100].length 8) (j3 F J n (gR (ak (i+1)) xs aQ (ba++[100]) bp))) (J (.exit 0) (GH xs aQ ba bp)):=by kernel_rfl
theorem V4 (xs aQ ba bp:List Int):km F (.exit 0) (GH xs aQ ba bp)=some ((ba,bp),()):=by kernel_rfl
def mY: Option (Args qm):=bJ aF F sD f110 [] qm 2 (())
theorem adG: mY F= ck (okM F 4 4 8) (j3 F (km F) F.n (gR 0 [] [] [] (List.replicate (4:Int).toNat 0))):=by kernel_rfl
def xe:Any:=.one ⟨[],qm,2,fun x=>mY F0⟩
theorem Mm:bz 110 xe:=aA aF trivial func110 sD (by kernel_rfl)
def HS:=[(132,ra)]
def HT:Nat->Option Hint:=look [(4,{live:=[3,4,6],xl:=[3],rl:=[2]})]
def zk (i:Int)(xs:List D4)(aQ:List D6):= eD 27 [(3,.v (.c (.own 1000000 none))),(4,.v (.c (.own 1000001 none))),(6,bW i)] [] [aB 1000000 76 K4 xs,aB 1000001 157 K6 aQ]
def S8 (xs:List D4):= eD 27 [(3,.v (.c (.own 1000000 none)))] [] [aB 1000000 76 K4 xs]
def HU (st:St):Option U:=gQ HS F HT [.r,.r,.r,.l,.r,.b,.i] f111 J n st
def J3:=jG HS F HT [.r,.r,.r,.l,.r,.b] f111 kF 2
theorem Mn (i:Int)(xs:List D4)(aQ:List D6):HU F J (n+1) (zk i xs aQ)=br (decide (i<(aQ.length:Int))) (ck (cr i (aQ.length:Int)) (ck (fp F xs.length (aU aQ i (0,[])).2.length 32) (HU F J n (zk (ak (i+1)) (xs++(aU aQ i (0,[])).2) aQ)))) (J (.exit 0) (S8 xs)):=by kernel_rfl
theorem agr (xs:List D4):J3 F (.exit 0) (S8 xs)=some (xs,()):=by kernel_rfl
def xf (s:ByteArray):=bJ HS F HT f111 ed kF 2 (s,())
theorem ar9 (s:ByteArray):xf F s=(q9 F0 s).bind fun ij=>HU F (J3 F) F.n (zk 0 [] ij.1):=by kernel_rfl
def J4:Any:=.one ⟨ed,kF,2,fun x=>xf F0 x.1⟩
theorem ZP:bz 111 J4:=aA HS ⟨CY,trivial⟩ func111 HT (by kernel_rfl)
def rk (l:D43):=bJ aF F ab f166 qm qm 2 (l,())
theorem aob (l:D43):rk F l=ck (fp F 0 l.1.length 8) (ck (fp F 0 l.2.length 8) (some (([]++l.1,[]++l.2),()))):=by kernel_rfl
def vJ:Any:=.one ⟨qm,qm,2,fun x=>rk F0 x.1⟩
theorem J5:bz 166 vJ:=aA aF trivial func166 ab (by kernel_rfl)
def vK:=[(72,cK)]
def vL:Nat->Option Hint:=look [(4,{live:=[1,3],rl:=[2]})]
def qn (i:Int)(l l1:List Int):= eD 34 [cW 1,(3,bW i)] [(1,[.ro false 3 (.int .i64) l,.ro false 3 (.int .i64) l1])] []
def zl (t2:Bool):= cV 34 [(2,SK t2)]
def J6   := cV 34 []
def vM (st:St):Option U:=gQ vK F vL [.r,.r,.l,.r,.b,.i] f225 J n st
def qo:=jG vK F vL [.r,.r,.l,.r,.b] f225 bd 1
theorem EP (i:Int)(l l1:List Int):vM F J (n+1) (qn i l l1)=br (decide (i<4)) (ck (cr i (l.length:Int)) ((cg F0 (aU l i 0) 0 400).bind fun sw=>br (!sw.1) (J .ret (zl false)) (ck (cr i (l1.length:Int)) ((cg F0 (aU l1 i 0) 0 100).bind fun r31=>br (!r31.1) (J .ret (zl false)) (vM F J n (qn (ak (i+1)) l l1)))))) (J (.exit 0) (J6)):=by kernel_rfl
theorem J7 (t2:Bool):qo F .ret (zl t2)=some (t2,()):=by kernel_rfl
theorem YS: qo F (.exit 0) (J6)=some (true,()):=by kernel_rfl
def uL (l:D43):=bJ vK F vL f225 qm bd 1 (l,())
theorem ags (l:D43):uL F l=br ((l.1.length:Int) != 4) (some (false,())) (br ((l.2.length:Int) != 4) (some (false,())) (vM F (qo F) F.n (qn 0 l.1 l.2))):=by kernel_rfl
def Mo:Any:=.one ⟨qm,bd,1,fun x=>uL F0 x.1⟩
theorem agt:bz 225 Mo:=aA vK ⟨dq,trivial⟩ func225 vL (by kernel_rfl)
def aoc:=[(166,vJ),(181,l7),(225,Mo)]
abbrev aDX:List (Ty×Bool):=[(K43,true),(.int .i64,false)]
abbrev aDY:List (Ty×Bool):=[(K43,true),(K4,true)]
def J8 (l:D43)(x:D4):=bJ aoc F ab f167 aDY aDX 2 (l,x,())
theorem ayJ (l:D43)(x:D4):J8 F l x=(rk F0 l).bind fun r8=>(uL F0 l).bind fun dB=>br (!dB.1) (some (r8.1,1,())) ((so F0 x).bind fun pa=>br (!pa.1) (some (r8.1,1,())) (ck (cr x.1 (l.2.length:Int)) (br (decide (x.2.2.2<(aU l.2 x.1 0))) (some (r8.1,2,())) (ck (cr x.1 (l.2.length:Int)) (br (decide (x.2.2.2>(aU l.2 x.1 0))) (some (r8.1,3,())) (ck (cr x.1 (r8.1.2.length:Int)) (ck (cr x.1 (l.1.length:Int)) (br (decide (x.2.2.1>(aU l.1 x.1 0))) (some ((r8.1.1,r8.1.2.set x.1.toNat (ak (x.2.2.2+1))),4,())) (ck (cr x.1 (r8.1.1.length:Int)) (ck (cr x.1 (r8.1.1.length:Int)) (ck (cr x.2.1 ((r8.1.1.set x.1.toNat (ak ((aU r8.1.1 x.1 0)-x.2.2.1))).length:Int)) (ck (cr x.2.1 ((r8.1.1.set x.1.toNat (ak ((aU r8.1.1 x.1 0)-x.2.2.1))).length:Int)) ((uL F0 ((r8.1.1.set x.1.toNat (ak ((aU r8.1.1 x.1 0)-x.2.2.1))).set x.2.1.toNat (ak ((aU (r8.1.1.set x.1.toNat (ak ((aU r8.1.1 x.1 0)-x.2.2.1))) x.2.1 0)+x.2.2.1)),r8.1.2.set x.1.toNat (ak (x.2.2.2+1)))).bind fun r88=>br (!r88.1) ((rk F0 l).bind fun r91=>some (r91.1,1,())) (some (((r8.1.1.set x.1.toNat (ak ((aU r8.1.1 x.1 0)-x.2.2.1))).set x.2.1.toNat (ak ((aU (r8.1.1.set x.1.toNat (ak ((aU r8.1.1 x.1 0)-x.2.2.1))) x.2.1 0)+x.2.2.1)),r8.1.2.set x.1.toNat (ak (x.2.2.2+1))),0,()))))))))))))))):=by kernel_rfl
def HV:Any:=.one ⟨aDY,aDX,2,fun x=>J8 F0 x.1 x.2.1⟩
theorem V5:bz 167 HV:=aA aoc ⟨J5,sq,agt,trivial⟩ func167 ab (by kernel_rfl)
def C9:=[(166,vJ),(167,HV)]
def Da:Nat->Option Hint:=look [(4,{live:=[1,4,6,7,8],yz:=[(4,0,3,.int .i64),(4,1,3,.int .i64)],xl:=[4,6,7],rl:=[4,5]})]
def vN (list:List D4)(i:Int)(xs aQ ba bp bQ:List Int):= eD 36 [(1,j9 76 (K4) list),cW 4,cW 6,(7,.v (.c (.own 1000000 none))),(8,bW i)] [(4,[.own 1000001 none,.own 1000002 none]),(6,[.own 1000003 none,.own 1000004 none])] [aB 1000000 3 (.int .i64) xs,aB 1000001 3 (.int .i64) aQ,aB 1000002 3 (.int .i64) ba,aB 1000003 3 (.int .i64) bp,aB 1000004 3 (.int .i64) bQ]
def Pr (xs aQ ba bp bQ:List Int):= eD 36 [cW 4,cW 6,(7,.v (.c (.own 1000000 none)))] [(4,[.own 1000001 none,.own 1000002 none]),(6,[.own 1000003 none,.own 1000004 none])] [aB 1000000 3 (.int .i64) xs,aB 1000001 3 (.int .i64) aQ,aB 1000002 3 (.int .i64) ba,aB 1000003 3 (.int .i64) bp,aB 1000004 3 (.int .i64) bQ]
def Db (st:St):Option U:=gQ C9 F Da [.r,.r,.r,.l,.r,.b,.i] f109 J n st
abbrev atQ:List (Ty×Bool):=[(K43,true),(.sl 3 (.int .i64),false)]
def FQ:=jG C9 F Da [.r,.r,.r,.l,.r,.b] f109 atQ 2
theorem J9 (list:List D4)(i:Int)(xs aQ ba bp bQ:List Int):Db F J (n+1) (vN list i xs aQ ba bp bQ)=br (decide (i<(list.length:Int))) (ck (cr i (list.length:Int)) ((J8 F0 (bp,bQ) (aU list i K4.aG)).bind fun uC=>ck (fp F xs.length [uC.2.1].length 8) (Db F J n (vN list (ak (i+1)) (xs++[uC.2.1]) aQ ba uC.1.1 uC.1.2)))) (J (.exit 0) (Pr xs aQ ba bp bQ)):=by kernel_rfl
theorem adH (xs aQ ba bp bQ:List Int):FQ F (.exit 0) (Pr xs aQ ba bp bQ)=some ((bp,bQ),xs,()):=by kernel_rfl
abbrev aDZ:List (Ty×Bool):=[(K43,true),(K5,false)]
def xX (l:D43)(list:D5):=bJ C9 F Da f109 aDZ atQ 2 (l,list,())
theorem aod (l:D43)(list:D5):xX F l list=(rk F0 l).bind fun cP=>Db F (FQ F) F.n (vN list 0 [] [] [] cP.1.1 cP.1.2):=by kernel_rfl
def FR:Any:=.one ⟨aDZ,atQ,2,fun x=>xX F0 x.1 x.2.1⟩
theorem V6:bz 109 FR:=aA C9 ⟨J5,V5,trivial⟩ func109 Da (by kernel_rfl)
def vO:=[(166,vJ),(167,HV)]
def vP:Nat->Option Hint:=look [(4,{live:=[0,5,6,7],xl:=[5],rl:=[4]})]
def iY (p:List D4)(i:Int)(xs:List D4)(aQ ba:List Int):= eD 48 [(0,j9 76 (K4) p),(5,.v (.c (.own 1000000 none))),cW 6,(7,bW i)] [(6,[.own 1000001 none,.own 1000002 none])] [aB 1000000 76 K4 xs,aB 1000001 3 (.int .i64) aQ,aB 1000002 3 (.int .i64) ba]
def xg (xs:List D4):= eD 48 [(5,.v (.c (.own 1000000 none)))] [] [aB 1000000 76 K4 xs]
def kO (st:St):Option U:=gQ vO F vP [.r,.r,.r,.l,.r,.b,.i] f113 J n st
def zm:=jG vO F vP [.r,.r,.r,.l,.r,.b] f113 kF 2
theorem ER (p:List D4)(i:Int)(xs:List D4)(aQ ba:List Int):kO F J (n+1) (iY p i xs aQ ba)=br (decide (i<(p.length:Int))) (br (decide ((xs.length:Int)<2)) (ck (cr i (p.length:Int)) ((J8 F0 (aQ,ba) (aU p i K4.aG)).bind fun FP=>br (FP.2.1==0) (ck (cr i (p.length:Int)) (ck (fp F xs.length [(aU p i K4.aG)].length 32) (kO F J n (iY p (ak (i+1)) (xs++[(aU p i K4.aG)]) FP.1.1 FP.1.2)))) (br (FP.2.1==4) (ck (cr i (p.length:Int)) (ck (fp F xs.length [(aU p i K4.aG)].length 32) (kO F J n (iY p (ak (i+1)) (xs++[(aU p i K4.aG)]) FP.1.1 FP.1.2)))) (kO F J n (iY p (ak (i+1)) xs aQ ba))))) (J (.exit 0) (xg xs))) (J (.exit 0) (xg xs)):=by kernel_rfl
theorem GI (xs:List D4):zm F (.exit 0) (xg xs)=some (xs,()):=by kernel_rfl
abbrev ai6:List (Ty×Bool):=[(K5,false),(K43,true)]
def pQ (p:D5)(l:D43):=bJ vO F vP f113 ai6 kF 2 (p,l,())
theorem agu (p:D5)(l:D43):pQ F p l=(rk F0 l).bind fun cP=>kO F (zm F) F.n (iY p 0 [] cP.1.1 cP.1.2):=by kernel_rfl
def Mp:Any:=.one ⟨ai6,kF,2,fun x=>pQ F0 x.1 x.2.1⟩
theorem agv:bz 113 Mp:=aA vO ⟨J5,V5,trivial⟩ func113 vP (by kernel_rfl)
def zn:=[(181,l7),(271,FI)]
def zo:Nat->Option Hint:=look [(3,{live:=[0,3,4],xl:=[3],rl:=[2]})]
def mZ (list:List D4)(out:ByteArray)(i:Int):= cV 29 [(0,j9 76 (K4) list),(3,UP out),(4,bW i)]
def Ps (t2:ByteArray):= cV 29 [(2,UP t2)]
def Mq (out:ByteArray):= cV 29 [(3,UP out)]
def rm (st:St):Option U:=gQ zn F zo [.r,.r,.l,.r,.b,.i] f227 J n st
def sE:=jG zn F zo [.r,.r,.l,.r,.b] f227 ed 1
theorem GJ (list:List D4)(out:ByteArray)(i:Int):rm F J (n+1) (mZ list out i)=br (decide (i<(list.length:Int))) (ck (cr i (list.length:Int)) ((so F0 (aU list i K4.aG)).bind fun pa=>br (!pa.1) (J .ret (Ps al)) (br (decide (i>0)) (ck (okC F out.size (ByteArray.mk #[44]).size) (ck (cr i (list.length:Int)) ((xR F0 (aU list i K4.aG)).bind fun uC=>ck (okC F (out++(ByteArray.mk #[44])).size uC.1.size) (rm F J n (mZ list ((out++(ByteArray.mk #[44]))++uC.1) (ak (i+1))))))) (ck (cr i (list.length:Int)) ((xR F0 (aU list i K4.aG)).bind fun uC=>ck (okC F out.size uC.1.size) (rm F J n (mZ list (out++uC.1) (ak (i+1))))))))) (J (.exit 0) (Mq out)):=by kernel_rfl
theorem adI (t2:ByteArray):sE F .ret (Ps t2)=some (t2,()):=by kernel_rfl
theorem abx (out:ByteArray):sE F (.exit 0) (Mq out)=some (out,()):=by kernel_rfl
def HW (list:D5):=bJ zn F zo f227 kF ed 1 (list,())
theorem akN (list:D5):HW F list=rm F (sE F) F.n (mZ list al 0):=by kernel_rfl
def Pt:Any:=.one ⟨kF,ed,1,fun x=>HW F0 x.1⟩
theorem akO:bz 227 Pt:=aA zn ⟨sq,VL,trivial⟩ func227 zo (by kernel_rfl)
def Dc:=[(77,fG),(181,l7),(226,ve),(227,Pt)]
def Dd:Nat->Option Hint:=look [(2,{live:=[0,1,2,7],xl:=[0,1,2],rl:=[6]})]
def vQ (up:ByteArray)(view:Int)(list:List D4)(i:Int):= cV 34 [(0,UP up),(1,bW view),(2,j9 76 (K4) list),(7,bW i)]
def S9 (t6:ByteArray):= cV 34 [(6,UP t6)]
def Pu (up:ByteArray)(view:Int)(list:List D4):= cV 34 [(0,UP up),(1,bW view),(2,j9 76 (K4) list)]
def De (st:St):Option U:=gQ Dc F Dd [.r,.l,.r,.b,.i] f168 J n st
def vR:=jG Dc F Dd [.r,.l,.r,.b] f168 ed 1
theorem Ka (up:ByteArray)(view:Int)(list:List D4)(i:Int):De F J (n+1) (vQ up view list i)=br (decide (i<(list.length:Int))) (ck (cr i (list.length:Int)) ((so F0 (aU list i K4.aG)).bind fun dW=>br (!dW.1) (J .ret (S9 al)) (De F J n (vQ up view list (ak (i+1)))))) (J (.exit 0) (Pu up view list)):=by kernel_rfl
theorem agw (t6:ByteArray):vR F .ret (S9 t6)=some (t6,()):=by kernel_rfl
theorem adJ (up:ByteArray)(view:Int)(list:List D4):vR F (.exit 0) (Pu up view list)=ck (okC F up.size (ByteArray.mk #[47]).size) ((lj F0 view).bind fun r24=>ck (okC F (up++(ByteArray.mk #[47])).size r24.1.size) (ck (okC F ((up++(ByteArray.mk #[47]))++r24.1).size (ByteArray.mk #[124]).size) ((HW F0 list).bind fun VM=>ck (okC F (((up++(ByteArray.mk #[47]))++r24.1)++(ByteArray.mk #[124])).size VM.1.size) ((fL F0 ((((up++(ByteArray.mk #[47]))++r24.1)++(ByteArray.mk #[124]))++VM.1)).bind fun r31=>br (!r31.1) (some (al,())) (some ((((up++(ByteArray.mk #[47]))++r24.1)++(ByteArray.mk #[124]))++VM.1,())))))):=by kernel_rfl
abbrev aD0:List (Ty×Bool):=[(.str,false),(.int .i64,false),(K5,false)]
def ZQ (up:ByteArray)(view:Int)(list:D5):=bJ Dc F Dd f168 aD0 ed 1 (up,view,list,())
theorem V7:∃f,f= @ZQ:=⟨_,rfl⟩
def ly:=Classical.choose V7
theorem Ta: @ly= @ZQ:=Classical.choose_spec V7
theorem aoe (up:ByteArray)(view:Int)(list:D5):ly F up view list=De F (vR F) F.n (vQ up view list 0):=by rw[Ta];kernel_rfl
def FT:Any:=.one ⟨aD0,ed,1,fun x=>ly F0 x.1 x.2.1 x.2.2.1⟩
theorem V8:bz 168 FT:=ok1 (show yF Tryz.prog TB Dc from⟨iF,sq,JM,akO,trivial⟩) func168 (by kernel_rfl) (by kernel_rfl) Dd (by rw[Ta];kernel_rfl)
def Tb:=[(78,ee),(117,ji),(168,FT),(169,mL)]
abbrev aD1:List (Ty×Bool):=[(K1,true),(K9,true),(.int .i64,false),(K5,false)]
abbrev ai7:List (Ty×Bool):=[(K15,true),(.bool,false)]
def pR (c:D1)(q:D9)(view:Int)(list:D5):=bJ Tb F ab f112 aD1 ai7 2 (c,q,view,list,())
theorem agx (c:D1)(q:D9)(view:Int)(list:D5):pR F c q view list=(ly F0 q.2.1 view list).bind fun pa=>(jT F0 q).bind fun fD=>(ou F0 c (pa.1,fD.1)).bind fun ia=>br (!ia.1) (some ((al,0,al,[]),false,())) ((ep F0 pa.1).bind fun uC=>br (uC.1 != view) (some ((al,0,al,[]),false,())) (some ((pa.1,fD.1),true,()))):=by kernel_rfl
def zp:Any:=.one ⟨aD1,ai7,2,fun x=>pR F0 x.1 x.2.1 x.2.2.1 x.2.2.2.1⟩
theorem Pv:bz 112 zp:=aA Tb ⟨fx,mS,V8,vm,trivial⟩ func112 ab (by kernel_rfl)
def aof:=[(73,c9),(106,jU),(107,ql),(108,vh),(109,FR),(110,xe),(111,J4),(112,zp),(113,Mp)]
def V9 (c:D1)(r:bD):=bJ aof F ab f61 Bf ai7 2 (c,r,())
theorem ayK (c:D1)(r:bD):V9 F c r=(ez F0 c r).bind fun l6=>br (!l6.1) (some ((al,0,al,[]),false,())) ((mX F0 c r.2.1).bind fun EH=>br (EH.1 != r.1) (some ((al,0,al,[]),false,())) (br (decide (r.2.2.1>=r.2.1)) (some ((al,0,al,[]),false,())) ((pP F0 r.2.2.2.2.2.1 r.2.1 al).bind fun xW=>br (r.2.2.2.1.2.2.1.1 != (ak (r.2.1-1))) ((xS F0 c).bind fun r52=>br (decide ((xW.1.2.2.length:Int)<r52.1)) (some ((al,0,al,[]),false,())) ((mY F0).bind fun r57=>(xf F0 r.2.2.2.1.2.2.1.2.1).bind fun r60=>(xX F0 r57.1 r60.1).bind fun Ja=>(pQ F0 r.2.2.2.2.1 Ja.1).bind fun r72=>(pR F0 c r.2.2.2.1.2.2.1 r.2.1 r72.1).bind fun r73=>some (r73.1,r73.2.1,()))) ((mY F0).bind fun r57=>(xf F0 r.2.2.2.1.2.2.1.2.1).bind fun r60=>(xX F0 r57.1 r60.1).bind fun Ja=>(pQ F0 r.2.2.2.2.1 Ja.1).bind fun r72=>(pR F0 c r.2.2.2.1.2.2.1 r.2.1 r72.1).bind fun r73=>some (r73.1,r73.2.1,()))))):=by kernel_rfl
def RF:Any:=.one ⟨Bf,ai7,2,fun x=>V9 F0 x.1 x.2.1⟩
theorem ai8:bz 61 RF:=aA aof ⟨dH,oz,BZ,JP,V6,Mm,ZP,Pv,agv,trivial⟩ func61 ab (by kernel_rfl)
def Df:Nat->Option Hint:=look [(2,{live:=[0,1,5],rl:=[4]})]
def vS (s:List Int)(i k:Int):= cV 18 [(0,j9 3 (.int .i64) s),(1,bW i),(5,bW k)]
def Tc (t4:Bool):= cV 18 [(4,SK t4)]
def Pw   := cV 18 []
def Dg (st:St):Option U:=gQ aF F Df [.r,.l,.r,.b,.i] f62 J n st
def vT:=jG aF F Df [.r,.l,.r,.b] f62 bd 1
theorem Kb (s:List Int)(i k:Int):Dg F J (n+1) (vS s i k)=br (decide (k<(s.length:Int))) (ck (cr k (s.length:Int)) (br ((aU s k 0)==i) (J .ret (Tc true)) (Dg F J n (vS s i (ak (k+1)))))) (J (.exit 0) (Pw)):=by kernel_rfl
theorem agy (t4:Bool):vT F .ret (Tc t4)=some (t4,()):=by kernel_rfl
theorem adL: vT F (.exit 0) (Pw)=some (false,()):=by kernel_rfl
abbrev akP:List (Ty×Bool):=[(.sl 3 (.int .i64),false),(.int .i64,false)]
def dN (s:List Int)(i:Int):=bJ aF F Df f62 akP bd 1 (s,i,())
theorem aoh (s:List Int)(i:Int):dN F s i=Dg F (vT F) F.n (vS s i 0):=by kernel_rfl
def dC:Any:=.one ⟨akP,bd,1,fun x=>dN F0 x.1 x.2.1⟩
theorem eL:bz 62 dC:=aA aF trivial func62 Df (by kernel_rfl)
def Kc:=[(27,e9),(56,oq)]
def na (c:D2):=EG Kc F ab f63 kg 0 .cur Zu kg 1 (c,())
theorem YT (c:D2):na F c=(ax F0 c 4).bind fun r4=>(ax F0 r4.2.1 4).bind fun r6=>(kh F0 r6.2.1 [0,5,60,100,1000]).bind fun r9=>(ax F0 r9.2.1 3).bind fun dB=>some (((r4.1.1,r6.1.1,r9.1.1,dB.1.1),()),dB.2.1,()):=by kernel_rfl
def rn:Any:=.two ⟨kg,0,.cur,Zu,1,kg,fun x=>na F0 x.1⟩
theorem GK:bz 63 rn:=VG Kc ⟨gC,yJ,trivial⟩ func63 ab (by kernel_rfl)
def b8 (a b:Int):=bJ aF F ab f65 atM dK 1 (a,b,())
theorem asa (a b:Int):b8 F a b=br (decide (a<b)) (some (a,())) (some (b,())):=by kernel_rfl
def ko:Any:=.one ⟨atM,dK,1,fun x=>b8 F0 x.1 x.2.1⟩
theorem pS:bz 65 ko:=aA aF trivial func65 ab (by kernel_rfl)
def Dh:=[(62,dC)]
def Di:Nat->Option Hint:=look [(4,{live:=[0,1,5],xl:=[0,1,5],rl:=[4]})]
def vU (s:List Int)(i iW:Int):= cV 41 [(0,j9 3 (.int .i64) s),(1,bW i),(5,bW iW)]
def sF (s:List Int)(i iW:Int):= cV 41 [(0,j9 3 (.int .i64) s),(1,bW i),(5,bW iW)]
def Dj (st:St):Option U:=gQ Dh F Di [.r,.r,.r,.l,.b,.i] f171 J n st
def vV:=jG Dh F Di [.r,.r,.r,.l,.b] f171 kI 2
theorem Kd (s:List Int)(i iW:Int):Dj F J (n+1) (vU s i iW)=br (decide (iW<(s.length:Int))) (ck (cr iW (s.length:Int)) (br (decide ((aU s iW 0)<i)) (Dj F J n (vU s i (ak (iW+1)))) (J (.exit 0) (sF s i iW)))) (J (.exit 0) (sF s i iW)):=by kernel_rfl
theorem adM (s:List Int)(i iW:Int):vV F (.exit 0) (sF s i iW)=ck (SJ 0 iW (s.length:Int)) (ck (fp F 0 ((s.take iW.toNat).drop (0:Int).toNat).length 8) (ck (fp F ([]++((s.take iW.toNat).drop (0:Int).toNat)).length [i].length 8) (ck (SJ iW (s.length:Int) (s.length:Int)) (ck (fp F (([]++((s.take iW.toNat).drop (0:Int).toNat))++[i]).length ((s.take (s.length:Int).toNat).drop iW.toNat).length 8) (some ((([]++((s.take iW.toNat).drop (0:Int).toNat))++[i])++((s.take (s.length:Int).toNat).drop iW.toNat),())))))):=by kernel_rfl
def xY (s:List Int)(i:Int):=bJ Dh F Di f171 akP kI 2 (s,i,())
theorem aoi (s:List Int)(i:Int):xY F s i=(dN F0 s i).bind fun r9=>br r9.1 (ck (fp F 0 s.length 8) (some ([]++s,()))) (Dj F (vV F) F.n (vU s i 0)):=by kernel_rfl
def FU:Any:=.one ⟨akP,kI,2,fun x=>xY F0 x.1 x.2.1⟩
theorem Wa:bz 171 FU:=aA Dh ⟨eL,trivial⟩ func171 Di (by kernel_rfl)
end
end Go.Am.Tryz
namespace Go.Am.Tryz
open Go.Am Go.Proofs Go.Proofs.Tryz
noncomputable section
variable {U:Type} (F:sd) (J:Ex->St->Option U) (n:Nat)
def mu:=[(27,e9),(57,pg),(65,ko),(168,FT),(170,uJ),(171,FU)]
def mv:Nat->Option Hint:=look [(11,{live:=[3,4,5,6,7,9],yz:=[(4,5,3,.int .i64),(4,8,3,.int .i64),(4,11,3,.int .i64)],xl:=[4,5,6,7],rl:=[4]})]
def da (view:Int)(name:ByteArray)(i:Int)(aD:List Int)(au ar w w1:Int)(w2:List Int)(w3:List bD)(w4:List cU)(w5:List cH)(t4 t41:Int)(t42:ByteArray)(t43:Int)(t44:ByteArray)(t45:Int)(t46:ByteArray)(t47:Int)(t48:ByteArray)(t49 gf gh gi gj:Int)(xs aQ ba bp:List Int):St:={nt:=89,tm:=[cW 3,cW 4,(5,bW view),(6,UP name),(7,.v (.c (.own 1000000 none))),(9,bW i)],bx:=[(4000000,[.ro true 5 (.int .u8) aD,aq au,aq ar]),(3,[aq w,aq w1,.ro false 3 (.int .i64) w2,.ro false 50 (di) w3,.ro false 114 (fW) w4,.ro false 127 (eu) w5]),(4,[aq t4,aq t41,.str t42,aq t43,.str t44,.own 1000001 none,aq t45,.str t46,.own 1000002 none,aq t47,.str t48,.own 1000003 none,aq t49,aq gf,aq gh,aq gi,aq gj])],bl:=[aB 1000000 3 (.int .i64) xs,aB 1000001 3 (.int .i64) aQ,aB 1000002 3 (.int .i64) ba,aB 1000003 3 (.int .i64) bp],sp:=.v (.c (.ptr 4000000 0))}
def zq (view:Int)(name:ByteArray)(aD:List Int)(au ar t4 t41:Int)(t42:ByteArray)(t43:Int)(t44:ByteArray)(t45:Int)(t46:ByteArray)(t47:Int)(t48:ByteArray)(t49 gf gh gi gj:Int)(xs aQ ba bp:List Int):St:={nt:=89,tm:=[cW 4,(5,bW view),(6,UP name),(7,.v (.c (.own 1000000 none)))],bx:=[(4000000,[.ro true 5 (.int .u8) aD,aq au,aq ar]),(4,[aq t4,aq t41,.str t42,aq t43,.str t44,.own 1000001 none,aq t45,.str t46,.own 1000002 none,aq t47,.str t48,.own 1000003 none,aq t49,aq gf,aq gh,aq gi,aq gj])],bl:=[aB 1000000 3 (.int .i64) xs,aB 1000001 3 (.int .i64) aQ,aB 1000002 3 (.int .i64) ba,aB 1000003 3 (.int .i64) bp],sp:=.v (.c (.ptr 4000000 0))}
def dz (st:St):Option U:=gQ mu F mv [.r,.r,.r,.r,.r,.l,.r,.b,.i] f114 J n st
def fq:=ayC mu F mv [.r,.r,.r,.r,.r,.l,.r,.b] f114 .cur xV kg 2
theorem uM (view:Int)(name:ByteArray)(i:Int)(aD:List Int)(au ar w w1:Int)(w2:List Int)(w3:List bD)(w4:List cU)(w5:List cH)(t4 t41:Int)(t42:ByteArray)(t43:Int)(t44:ByteArray)(t45:Int)(t46:ByteArray)(t47:Int)(t48:ByteArray)(t49 gf gh gi gj:Int)(xs aQ ba bp:List Int):dz F J (n+1) (da view name i aD au ar w w1 w2 w3 w4 w5 t4 t41 t42 t43 t44 t45 t46 t47 t48 t49 gf gh gi gj xs aQ ba bp)=br (decide (i<(w5.length:Int))) (ck (cr i (w5.length:Int)) (br ((aU w5 i eu.aG).1==view) (ck (cr i (w5.length:Int)) (br ((aU w5 i eu.aG).2.1.toList==name.toList) (ck (cr i (w5.length:Int)) ((xY F0 xs (aU w5 i eu.aG).2.2).bind fun r83=>dz F J n (da view name (ak (i+1)) aD au ar w w1 w2 w3 w4 w5 t4 t41 t42 t43 t44 t45 t46 t47 t48 t49 gf gh gi gj r83.1 aQ ba bp))) (dz F J n (da view name (ak (i+1)) aD au ar w w1 w2 w3 w4 w5 t4 t41 t42 t43 t44 t45 t46 t47 t48 t49 gf gh gi gj xs aQ ba bp)))) (dz F J n (da view name (ak (i+1)) aD au ar w w1 w2 w3 w4 w5 t4 t41 t42 t43 t44 t45 t46 t47 t48 t49 gf gh gi gj xs aQ ba bp)))) (J (.exit 0) (zq view name aD au ar t4 t41 t42 t43 t44 t45 t46 t47 t48 t49 gf gh gi gj xs aQ ba bp)):=by kernel_rfl
theorem Px (view:Int)(name:ByteArray)(aD:List Int)(au ar t4 t41:Int)(t42:ByteArray)(t43:Int)(t44:ByteArray)(t45:Int)(t46:ByteArray)(t47:Int)(t48:ByteArray)(t49 gf gh gi gj:Int)(xs aQ ba bp:List Int):fq F (.exit 0) (zq view name aD au ar t4 t41 t42 t43 t44 t45 t46 t47 t48 t49 gf gh gi gj xs aQ ba bp)=some (((2,0,(al,0,al,[]),(view,name,xs),(0,al,[]),0,0,0,0,0),()),(aD,au,ar),()):=by kernel_rfl
abbrev atS:List (Ty×Bool):=[(K2,true),(iV,true)]
def qp (c:D2)(w:o8):=EG mu F mv f114 atS 0 .cur xV kg 2 (c,w,())
theorem Wb (c:D2)(w:o8):qp F c w=(ax F0 c 4).bind fun dB=>(ly F0 al (ak (1+dB.1.1)) []).bind fun l6=>ck (fp F 0 w.2.1.length 8) (br (decide ((w.2.2.2.2.length:Int)>0)) ((b8 F0 (w.2.2.2.2.length:Int) 8).bind fun uD=>(ax F0 dB.2.1 uD.1).bind fun qR=>ck (cr (ak ((ak ((w.2.2.2.2.length:Int)-1))-qR.1.1)) (w.2.2.2.2.length:Int)) ((nX F0 qR.2.1 3).bind fun Rg=>br Rg.1.1 ((mK F0 (aU w.2.2.2.2 (ak ((ak ((w.2.2.2.2.length:Int)-1))-qR.1.1)) eu.aG).2.1).bind fun Rh=>(ly F0 Rh.1 (aU w.2.2.2.2 (ak ((ak ((w.2.2.2.2.length:Int)-1))-qR.1.1)) eu.aG).1 [(1,0,1,0)]).bind fun Fw=>dz F (fq F) F.n (da (aU w.2.2.2.2 (ak ((ak ((w.2.2.2.2.length:Int)-1))-qR.1.1)) eu.aG).1 Fw.1 0 Rg.2.1.1 Rg.2.1.2.1 Rg.2.1.2.2 w.1.1 w.1.2 w.2.1 w.2.2.1 w.2.2.2.1 w.2.2.2.2 0 0 al 0 al 0 al 0 al 0 0 0 0 0 ([]++w.2.1) [] [] [])) (dz F (fq F) F.n (da (aU w.2.2.2.2 (ak ((ak ((w.2.2.2.2.length:Int)-1))-qR.1.1)) eu.aG).1 (aU w.2.2.2.2 (ak ((ak ((w.2.2.2.2.length:Int)-1))-qR.1.1)) eu.aG).2.1 0 Rg.2.1.1 Rg.2.1.2.1 Rg.2.1.2.2 w.1.1 w.1.2 w.2.1 w.2.2.1 w.2.2.2.1 w.2.2.2.2 0 0 al 0 al 0 al 0 al 0 0 0 0 0 ([]++w.2.1) [] [] [])))) (dz F (fq F) F.n (da (ak (1+dB.1.1)) l6.1 0 dB.2.1.1 dB.2.1.2.1 dB.2.1.2.2 w.1.1 w.1.2 w.2.1 w.2.2.1 w.2.2.2.1 w.2.2.2.2 0 0 al 0 al 0 al 0 al 0 0 0 0 0 ([]++w.2.1) [] [] []))):=by kernel_rfl
def Bp:Any:=.two ⟨atS,0,.cur,xV,2,kg,fun x=>qp F0 x.1 x.2.1⟩
theorem Wc:bz 114 Bp:=VG mu ⟨gC,yK,pS,V8,HN,Wa,trivial⟩ func114 mv (by kernel_rfl)
def HX: Option (Args ib):=bJ aF F ab f116 [] ib 2 (())
theorem akQ: HX F= some ((0,al,[]),()):=by kernel_rfl
def Py:Any:=.one ⟨[],ib,2,fun x=>HX F0⟩
theorem akR:bz 116 Py:=aA aF trivial func116 ab (by kernel_rfl)
def qq:=[(27,e9),(57,pg),(63,rn),(65,ko),(106,jU),(112,zp),(114,Bp),(115,ig),(116,Py),(117,ji)]
def qt:Nat->Option Hint:=look [(17,{live:=[0,3,4,6,7,8,9],yz:=[(4,5,3,.int .i64),(4,8,3,.int .i64),(4,11,3,.int .i64)],xl:=[0,3,4,6,8],rl:=[4]})]
def bH (dk view k:Int)(aD:List Int)(au ar w w1:Int)(w2:List Int)(w3:List bD)(w4:List cU)(w5:List cH)(t4 t41:Int)(t42:ByteArray)(t43:Int)(t44:ByteArray)(t45:Int)(t46:ByteArray)(t47:Int)(t48:ByteArray)(t49 gf gh gi gj q:Int)(q1:ByteArray)(xs aQ ba bp:List Int):St:={nt:=115,tm:=[(0,.v (.c (.ptr 4000000 0))),cW 3,cW 4,cW 6,(7,bW dk),(8,bW view),(9,bW k)],bx:=[(4000000,[.ro true 5 (.int .u8) aD,aq au,aq ar]),(3,[aq w,aq w1,.ro false 3 (.int .i64) w2,.ro false 50 (di) w3,.ro false 114 (fW) w4,.ro false 127 (eu) w5]),(4,[aq t4,aq t41,.str t42,aq t43,.str t44,.own 1000000 none,aq t45,.str t46,.own 1000001 none,aq t47,.str t48,.own 1000002 none,aq t49,aq gf,aq gh,aq gi,aq gj]),(6,[aq q,.str q1,.own 1000003 none])],bl:=[aB 1000000 3 (.int .i64) xs,aB 1000001 3 (.int .i64) aQ,aB 1000002 3 (.int .i64) ba,aB 1000003 3 (.int .i64) bp],sp:=.v (.c (.ptr 4000000 0))}
def iJ (view:Int)(aD:List Int)(au ar w w1:Int)(w2:List Int)(w3:List bD)(w4:List cU)(w5:List cH)(t4 t41:Int)(t42:ByteArray)(t43:Int)(t44:ByteArray)(t45:Int)(t46:ByteArray)(t47:Int)(t48:ByteArray)(t49 gf gh gi gj q:Int)(q1:ByteArray)(xs aQ ba bp:List Int):St:={nt:=115,tm:=[(0,.v (.c (.ptr 4000000 0))),cW 3,cW 4,cW 6,(8,bW view)],bx:=[(4000000,[.ro true 5 (.int .u8) aD,aq au,aq ar]),(3,[aq w,aq w1,.ro false 3 (.int .i64) w2,.ro false 50 (di) w3,.ro false 114 (fW) w4,.ro false 127 (eu) w5]),(4,[aq t4,aq t41,.str t42,aq t43,.str t44,.own 1000000 none,aq t45,.str t46,.own 1000001 none,aq t47,.str t48,.own 1000002 none,aq t49,aq gf,aq gh,aq gi,aq gj]),(6,[aq q,.str q1,.own 1000003 none])],bl:=[aB 1000000 3 (.int .i64) xs,aB 1000001 3 (.int .i64) aQ,aB 1000002 3 (.int .i64) ba,aB 1000003 3 (.int .i64) bp],sp:=.v (.c (.ptr 4000000 0))}
def b9 (st:St):Option U:=gQ qq F qt [.r,.r,.r,.r,.r,.r,.r,.r,.l,.r,.b,.i] f64 J n st
def bI:=ayC qq F qt [.r,.r,.r,.r,.r,.r,.r,.r,.l,.r,.b] f64 .cur xV kg 2
theorem zr (dk view k:Int)(aD:List Int)(au ar w w1:Int)(w2:List Int)(w3:List bD)(w4:List cU)(w5:List cH)(t4 t41:Int)(t42:ByteArray)(t43:Int)(t44:ByteArray)(t45:Int)(t46:ByteArray)(t47:Int)(t48:ByteArray)(t49 gf gh gi gj q:Int)(q1:ByteArray)(xs aQ ba bp:List Int):b9 F J (n+1) (bH dk view k aD au ar w w1 w2 w3 w4 w5 t4 t41 t42 t43 t44 t45 t46 t47 t48 t49 gf gh gi gj q q1 xs aQ ba bp)=br (decide (k<7)) (br (decide (view<60)) ((mX F0 (w,w1) view).bind fun r94=>br (r94.1 != dk) (b9 F J n (bH dk (ak (view+1)) (ak (k+1)) aD au ar w w1 w2 w3 w4 w5 t4 t41 t42 t43 t44 t45 t46 t47 t48 t49 gf gh gi gj q q1 xs aQ ba bp)) (J (.exit 1) (iJ view aD au ar w w1 w2 w3 w4 w5 t4 t41 t42 t43 t44 t45 t46 t47 t48 t49 gf gh gi gj q q1 xs aQ ba bp))) (J (.exit 1) (iJ view aD au ar w w1 w2 w3 w4 w5 t4 t41 t42 t43 t44 t45 t46 t47 t48 t49 gf gh gi gj q q1 xs aQ ba bp))) (J (.exit 1) (iJ view aD au ar w w1 w2 w3 w4 w5 t4 t41 t42 t43 t44 t45 t46 t47 t48 t49 gf gh gi gj q q1 xs aQ ba bp)):=by kernel_rfl
theorem UH (view:Int)(aD:List Int)(au ar w w1:Int)(w2:List Int)(w3:List bD)(w4:List cU)(w5:List cH)(t4 t41:Int)(t42:ByteArray)(t43:Int)(t44:ByteArray)(t45:Int)(t46:ByteArray)(t47:Int)(t48:ByteArray)(t49 gf gh gi gj q:Int)(q1:ByteArray)(xs aQ ba bp:List Int):bI F (.exit 1) (iJ view aD au ar w w1 w2 w3 w4 w5 t4 t41 t42 t43 t44 t45 t46 t47 t48 t49 gf gh gi gj q q1 xs aQ ba bp)=(na F0 (aD,au,ar)).bind fun aOC=>(pR F0 (w,w1) (q,q1,bp) view [aOC.1.1]).bind fun an4=>some (((1,0,an4.1,(0,al,[]),(0,al,[]),0,0,0,0,0),()),aOC.2.1,()):=by kernel_rfl
def jk (c:D2)(w:o8):=EG qq F qt f64 atS 0 .cur xV kg 2 (c,w,())
theorem aby (c:D2)(w:o8):jk F c w=(qp F0 c w).bind fun l6=>(kN F0 w.1 l6.1.1.2.2.2.1).bind fun VM=>br (!VM.1) ((HX F0).bind fun FP=>br (decide ((w.2.2.1.length:Int)>0)) ((nX F0 l6.2.1 2).bind fun HM=>br HM.1.1 ((ax F0 HM.2.1 (w.2.2.1.length:Int)).bind fun r45=>ck (cr r45.1.1 (w.2.2.1.length:Int)) ((jT F0 (aU w.2.2.1 r45.1.1 di.aG).2.2.2.1.2.2.1).bind fun Fw=>br (decide ((w.2.1.length:Int)>0)) ((ax F0 r45.2.1 (w.2.1.length:Int)).bind fun Ja=>ck (cr Ja.1.1 (w.2.1.length:Int)) ((ax F0 Ja.2.1 4).bind fun fc=>br (fc.1.1==0) (some ((l6.1.1,()),fc.2.1,())) (br (fc.1.1==1) ((ax F0 fc.2.1 2).bind fun Mg=>(b8 F0 (ak ((ak (Fw.1.1+1))+Mg.1.1)) 60).bind fun r77=>some (((3,r77.1,(al,0,al,[]),(0,al,[]),Fw.1,aU w.2.1 Ja.1.1 0,0,0,0,0),()),Mg.2.1,())) (b9 F (bI F) F.n (bH (aU w.2.1 Ja.1.1 0) (ak (Fw.1.1+1)) 0 fc.2.1.1 fc.2.1.2.1 fc.2.1.2.2 w.1.1 w.1.2 w.2.1 w.2.2.1 w.2.2.2.1 w.2.2.2.2 0 0 al 0 al 0 al 0 al 0 0 0 0 0 Fw.1.1 Fw.1.2.1 [] [] [] Fw.1.2.2))))) ((ax F0 r45.2.1 4).bind fun fc=>br (fc.1.1==0) (some ((l6.1.1,()),fc.2.1,())) (br (fc.1.1==1) ((ax F0 fc.2.1 2).bind fun Mg=>(b8 F0 (ak ((ak (Fw.1.1+1))+Mg.1.1)) 60).bind fun r77=>some (((3,r77.1,(al,0,al,[]),(0,al,[]),Fw.1,0,0,0,0,0),()),Mg.2.1,())) (b9 F (bI F) F.n (bH 0 (ak (Fw.1.1+1)) 0 fc.2.1.1 fc.2.1.2.1 fc.2.1.2.2 w.1.1 w.1.2 w.2.1 w.2.2.1 w.2.2.2.1 w.2.2.2.2 0 0 al 0 al 0 al 0 al 0 0 0 0 0 Fw.1.1 Fw.1.2.1 [] [] [] Fw.1.2.2)))))) (br (decide ((w.2.1.length:Int)>0)) ((ax F0 HM.2.1 (w.2.1.length:Int)).bind fun Ja=>ck (cr Ja.1.1 (w.2.1.length:Int)) ((ax F0 Ja.2.1 4).bind fun fc=>br (fc.1.1==0) (some ((l6.1.1,()),fc.2.1,())) (br (fc.1.1==1) ((ax F0 fc.2.1 2).bind fun Mg=>(b8 F0 (ak ((ak (FP.1.1+1))+Mg.1.1)) 60).bind fun r77=>some (((3,r77.1,(al,0,al,[]),(0,al,[]),FP.1,aU w.2.1 Ja.1.1 0,0,0,0,0),()),Mg.2.1,())) (b9 F (bI F) F.n (bH (aU w.2.1 Ja.1.1 0) (ak (FP.1.1+1)) 0 fc.2.1.1 fc.2.1.2.1 fc.2.1.2.2 w.1.1 w.1.2 w.2.1 w.2.2.1 w.2.2.2.1 w.2.2.2.2 0 0 al 0 al 0 al 0 al 0 0 0 0 0 FP.1.1 FP.1.2.1 [] [] [] FP.1.2.2))))) ((ax F0 HM.2.1 4).bind fun fc=>br (fc.1.1==0) (some ((l6.1.1,()),fc.2.1,())) (br (fc.1.1==1) ((ax F0 fc.2.1 2).bind fun Mg=>(b8 F0 (ak ((ak (FP.1.1+1))+Mg.1.1)) 60).bind fun r77=>some (((3,r77.1,(al,0,al,[]),(0,al,[]),FP.1,0,0,0,0,0),()),Mg.2.1,())) (b9 F (bI F) F.n (bH 0 (ak (FP.1.1+1)) 0 fc.2.1.1 fc.2.1.2.1 fc.2.1.2.2 w.1.1 w.1.2 w.2.1 w.2.2.1 w.2.2.2.1 w.2.2.2.2 0 0 al 0 al 0 al 0 al 0 0 0 0 0 FP.1.1 FP.1.2.1 [] [] [] FP.1.2.2)))))) (br (decide ((w.2.1.length:Int)>0)) ((ax F0 l6.2.1 (w.2.1.length:Int)).bind fun Ja=>ck (cr Ja.1.1 (w.2.1.length:Int)) ((ax F0 Ja.2.1 4).bind fun fc=>br (fc.1.1==0) (some ((l6.1.1,()),fc.2.1,())) (br (fc.1.1==1) ((ax F0 fc.2.1 2).bind fun Mg=>(b8 F0 (ak ((ak (FP.1.1+1))+Mg.1.1)) 60).bind fun r77=>some (((3,r77.1,(al,0,al,[]),(0,al,[]),FP.1,aU w.2.1 Ja.1.1 0,0,0,0,0),()),Mg.2.1,())) (b9 F (bI F) F.n (bH (aU w.2.1 Ja.1.1 0) (ak (FP.1.1+1)) 0 fc.2.1.1 fc.2.1.2.1 fc.2.1.2.2 w.1.1 w.1.2 w.2.1 w.2.2.1 w.2.2.2.1 w.2.2.2.2 0 0 al 0 al 0 al 0 al 0 0 0 0 0 FP.1.1 FP.1.2.1 [] [] [] FP.1.2.2))))) ((ax F0 l6.2.1 4).bind fun fc=>br (fc.1.1==0) (some ((l6.1.1,()),fc.2.1,())) (br (fc.1.1==1) ((ax F0 fc.2.1 2).bind fun Mg=>(b8 F0 (ak ((ak (FP.1.1+1))+Mg.1.1)) 60).bind fun r77=>some (((3,r77.1,(al,0,al,[]),(0,al,[]),FP.1,0,0,0,0,0),()),Mg.2.1,())) (b9 F (bI F) F.n (bH 0 (ak (FP.1.1+1)) 0 fc.2.1.1 fc.2.1.2.1 fc.2.1.2.2 w.1.1 w.1.2 w.2.1 w.2.2.1 w.2.2.2.1 w.2.2.2.2 0 0 al 0 al 0 al 0 al 0 0 0 0 0 FP.1.1 FP.1.2.1 [] [] [] FP.1.2.2)))))) (br (decide ((w.2.1.length:Int)>0)) ((ax F0 l6.2.1 (w.2.1.length:Int)).bind fun Ja=>ck (cr Ja.1.1 (w.2.1.length:Int)) ((ax F0 Ja.2.1 4).bind fun fc=>br (fc.1.1==0) (some ((l6.1.1,()),fc.2.1,())) (br (fc.1.1==1) ((ax F0 fc.2.1 2).bind fun Mg=>(b8 F0 (ak ((ak (l6.1.1.2.2.2.1.1+1))+Mg.1.1)) 60).bind fun r77=>some (((3,r77.1,(al,0,al,[]),(0,al,[]),l6.1.1.2.2.2.1,aU w.2.1 Ja.1.1 0,0,0,0,0),()),Mg.2.1,())) (b9 F (bI F) F.n (bH (aU w.2.1 Ja.1.1 0) (ak (l6.1.1.2.2.2.1.1+1)) 0 fc.2.1.1 fc.2.1.2.1 fc.2.1.2.2 w.1.1 w.1.2 w.2.1 w.2.2.1 w.2.2.2.1 w.2.2.2.2 0 0 al 0 al 0 al 0 al 0 0 0 0 0 l6.1.1.2.2.2.1.1 l6.1.1.2.2.2.1.2.1 [] [] [] l6.1.1.2.2.2.1.2.2))))) ((ax F0 l6.2.1 4).bind fun fc=>br (fc.1.1==0) (some ((l6.1.1,()),fc.2.1,())) (br (fc.1.1==1) ((ax F0 fc.2.1 2).bind fun Mg=>(b8 F0 (ak ((ak (l6.1.1.2.2.2.1.1+1))+Mg.1.1)) 60).bind fun r77=>some (((3,r77.1,(al,0,al,[]),(0,al,[]),l6.1.1.2.2.2.1,0,0,0,0,0),()),Mg.2.1,())) (b9 F (bI F) F.n (bH 0 (ak (l6.1.1.2.2.2.1.1+1)) 0 fc.2.1.1 fc.2.1.2.1 fc.2.1.2.2 w.1.1 w.1.2 w.2.1 w.2.2.1 w.2.2.2.1 w.2.2.2.2 0 0 al 0 al 0 al 0 al 0 0 0 0 0 l6.1.1.2.2.2.1.1 l6.1.1.2.2.2.1.2.1 [] [] [] l6.1.1.2.2.2.1.2.2))))):=by kernel_rfl
def GL:Any:=.two ⟨atS,0,.cur,xV,2,kg,fun x=>jk F0 x.1 x.2.1⟩
theorem abz:bz 64 GL:=VG qq ⟨gC,yK,GK,pS,oz,Pv,Wc,ll,akR,mS,trivial⟩ func64 qt (by kernel_rfl)
def gS:=[(27,e9),(56,oq),(57,pg),(60,iG),(61,RF),(62,dC),(63,rn),(64,GL),(65,ko)]
def gT:Nat->Option Hint:=look [(8,{live:=[3,4,5,6,7],yz:=[(4,8,3,.int .i64),(4,11,3,.int .i64),(4,14,3,.int .i64)],xl:=[4,6],rl:=[4]}),(19,{live:=[0,3,4,5,6,10],yz:=[(4,8,3,.int .i64),(4,11,3,.int .i64),(4,14,3,.int .i64)],xl:=[0,3,4,6],rl:=[4]})]
def dO (n1 a k:Int)(aD:List Int)(au ar w w1:Int)(w2:List Int)(w3:List bD)(w4:List cU)(w5:List cH)(t4 t41 t42 t43 t44:Int)(t45:ByteArray)(t46:Int)(t47:ByteArray)(t48:Int)(t49:ByteArray)(gf:Int)(gh:ByteArray)(gi gj yn yo yp:Int)(xs aQ ba:List Int):St:={nt:=152,tm:=[(0,.v (.c (.ptr 4000000 0))),cW 3,cW 4,(5,bW n1),(6,bW a),(10,bW k)],bx:=[(4000000,[.ro true 5 (.int .u8) aD,aq au,aq ar]),(3,[aq w,aq w1,.ro false 3 (.int .i64) w2,.ro false 50 (di) w3,.ro false 114 (fW) w4,.ro false 127 (eu) w5]),(4,[aq t4,aq t41,aq t42,aq t43,aq t44,.str t45,aq t46,.str t47,.own 1000000 none,aq t48,.str t49,.own 1000001 none,aq gf,.str gh,.own 1000002 none,aq gi,aq gj,aq yn,aq yo,aq yp])],bl:=[aB 1000000 3 (.int .i64) xs,aB 1000001 3 (.int .i64) aQ,aB 1000002 3 (.int .i64) ba],sp:=.v (.c (.ptr 4000000 0))}
def ES (aD:List Int)(au ar t4 t41 t42 t43 t44:Int)(t45:ByteArray)(t46:Int)(t47:ByteArray)(t48:Int)(t49:ByteArray)(gf:Int)(gh:ByteArray)(gi gj yn yo yp:Int):St:={nt:=152,tm:=[cW 4],bx:=[(4000000,[.ro true 5 (.int .u8) aD,aq au,aq ar]),(4,[aq t4,aq t41,aq t42,aq t43,aq t44,.str t45,aq t46,.str t47,.nil,aq t48,.str t49,.nil,aq gf,.str gh,.nil,aq gi,aq gj,aq yn,aq yo,aq yp])],bl:=[],sp:=.v (.c (.ptr 4000000 0))}
def Bq (a:Int)(aD:List Int)(au ar w w1:Int)(w2:List Int)(w3:List bD)(w4:List cU)(w5:List cH)(t4 t41 t42 t43 t44:Int)(t45:ByteArray)(t46:Int)(t47:ByteArray)(t48:Int)(t49:ByteArray)(gf:Int)(gh:ByteArray)(gi gj yn yo yp:Int)(xs aQ ba:List Int):St:={nt:=152,tm:=[(0,.v (.c (.ptr 4000000 0))),cW 3,cW 4,(6,bW a)],bx:=[(4000000,[.ro true 5 (.int .u8) aD,aq au,aq ar]),(3,[aq w,aq w1,.ro false 3 (.int .i64) w2,.ro false 50 (di) w3,.ro false 114 (fW) w4,.ro false 127 (eu) w5]),(4,[aq t4,aq t41,aq t42,aq t43,aq t44,.str t45,aq t46,.str t47,.own 1000000 none,aq t48,.str t49,.own 1000001 none,aq gf,.str gh,.own 1000002 none,aq gi,aq gj,aq yn,aq yo,aq yp])],bl:=[aB 1000000 3 (.int .i64) xs,aB 1000001 3 (.int .i64) aQ,aB 1000002 3 (.int .i64) ba],sp:=.v (.c (.ptr 4000000 0))}
def eM (st:St):Option U:=gQ gS F gT [.r,.r,.r,.l,.r,.b,.r,.e,.r,.t,.r,.b,.i] f29 J n st
def dP:=ayC gS F gT [.r,.r,.r,.l,.r,.b,.r,.e,.r,.t,.r,.b] f29 .cur [(K45,true)] kg 2
def dQ (n1 a k:Int)(aD:List Int)(au ar w w1:Int)(w2:List Int)(w3:List bD)(w4:List cU)(w5:List cH)(t4 t41 t42 t43 t44:Int)(t45:ByteArray)(t46:Int)(t47:ByteArray)(t48:Int)(t49:ByteArray)(gf:Int)(gh:ByteArray)(gi gj yn yo yp:Int)(xs aQ ba:List Int):St:={nt:=152,tm:=[cW 3,cW 4,(5,bW n1),(6,bW a),(7,bW k)],bx:=[(4000000,[.ro true 5 (.int .u8) aD,aq au,aq ar]),(3,[aq w,aq w1,.ro false 3 (.int .i64) w2,.ro false 50 (di) w3,.ro false 114 (fW) w4,.ro false 127 (eu) w5]),(4,[aq t4,aq t41,aq t42,aq t43,aq t44,.str t45,aq t46,.str t47,.own 1000000 none,aq t48,.str t49,.own 1000001 none,aq gf,.str gh,.own 1000002 none,aq gi,aq gj,aq yn,aq yo,aq yp])],bl:=[aB 1000000 3 (.int .i64) xs,aB 1000001 3 (.int .i64) aQ,aB 1000002 3 (.int .i64) ba],sp:=.v (.c (.ptr 4000000 0))}
def ET (aD:List Int)(au ar t4 t41 t42 t43 t44:Int)(t45:ByteArray)(t46:Int)(t47:ByteArray)(t48:Int)(t49:ByteArray)(gf:Int)(gh:ByteArray)(gi gj yn yo yp:Int):St:={nt:=152,tm:=[cW 4],bx:=[(4000000,[.ro true 5 (.int .u8) aD,aq au,aq ar]),(4,[aq t4,aq t41,aq t42,aq t43,aq t44,.str t45,aq t46,.str t47,.nil,aq t48,.str t49,.nil,aq gf,.str gh,.nil,aq gi,aq gj,aq yn,aq yo,aq yp])],bl:=[],sp:=.v (.c (.ptr 4000000 0))}
def Br (a:Int)(aD:List Int)(au ar t4 t41 t42 t43 t44:Int)(t45:ByteArray)(t46:Int)(t47:ByteArray)(t48:Int)(t49:ByteArray)(gf:Int)(gh:ByteArray)(gi gj yn yo yp:Int)(xs aQ ba:List Int):St:={nt:=152,tm:=[cW 4,(6,bW a)],bx:=[(4000000,[.ro true 5 (.int .u8) aD,aq au,aq ar]),(4,[aq t4,aq t41,aq t42,aq t43,aq t44,.str t45,aq t46,.str t47,.own 1000000 none,aq t48,.str t49,.own 1000001 none,aq gf,.str gh,.own 1000002 none,aq gi,aq gj,aq yn,aq yo,aq yp])],bl:=[aB 1000000 3 (.int .i64) xs,aB 1000001 3 (.int .i64) aQ,aB 1000002 3 (.int .i64) ba],sp:=.v (.c (.ptr 4000000 0))}
def eN (st:St):Option U:=gQ gS F gT [.r,.r,.r,.l,.r,.b,.r,.t,.l,.r,.b,.i] f29 J n st
def eO:=ayC gS F gT [.r,.r,.r,.l,.r,.b,.r,.t,.l,.r,.b] f29 .cur [(K45,true)] kg 2
theorem xZ (n1 a k:Int)(aD:List Int)(au ar w w1:Int)(w2:List Int)(w3:List bD)(w4:List cU)(w5:List cH)(t4 t41 t42 t43 t44:Int)(t45:ByteArray)(t46:Int)(t47:ByteArray)(t48:Int)(t49:ByteArray)(gf:Int)(gh:ByteArray)(gi gj yn yo yp:Int)(xs aQ ba:List Int):eM F J (n+1) (dO n1 a k aD au ar w w1 w2 w3 w4 w5 t4 t41 t42 t43 t44 t45 t46 t47 t48 t49 gf gh gi gj yn yo yp xs aQ ba)=br (decide (k<n1)) (ck (!(n1==0)) (ck (cr (Int.tmod (ak (a+k)) n1) (w3.length:Int)) (br (decide (((aU w3 (Int.tmod (ak (a+k)) n1) di.aG).2.2.2.2.2.2.2.length:Int)>0)) (ck (!(n1==0)) (J .ret (ES aD au ar 2 (Int.tmod (ak (a+k)) n1) 0 0 0 al 0 al 0 al 0 al 0 0 0 0 0))) (eM F J n (dO n1 a (ak (k+1)) aD au ar w w1 w2 w3 w4 w5 t4 t41 t42 t43 t44 t45 t46 t47 t48 t49 gf gh gi gj yn yo yp xs aQ ba))))) (J (.exit 3) (Bq a aD au ar w w1 w2 w3 w4 w5 t4 t41 t42 t43 t44 t45 t46 t47 t48 t49 gf gh gi gj yn yo yp xs aQ ba)):=by kernel_rfl
theorem x5 (n1 a k:Int)(aD:List Int)(au ar w w1:Int)(w2:List Int)(w3:List bD)(w4:List cU)(w5:List cH)(t4 t41 t42 t43 t44:Int)(t45:ByteArray)(t46:Int)(t47:ByteArray)(t48:Int)(t49:ByteArray)(gf:Int)(gh:ByteArray)(gi gj yn yo yp:Int)(xs aQ ba:List Int):eN F J (n+1) (dQ n1 a k aD au ar w w1 w2 w3 w4 w5 t4 t41 t42 t43 t44 t45 t46 t47 t48 t49 gf gh gi gj yn yo yp xs aQ ba)=br (decide (k<n1)) (ck (!(n1==0)) (ck (cr (Int.tmod (ak (a+k)) n1) (w3.length:Int)) ((V9 F0 (w,w1) (aU w3 (Int.tmod (ak (a+k)) n1) di.aG)).bind fun r41=>br r41.2.1 (ck (!(n1==0)) ((dN F0 w2 (Int.tmod (ak (a+k)) n1)).bind fun Zw=>br (!Zw.1) (ck (!(n1==0)) (J .ret (ET aD au ar 1 (Int.tmod (ak (a+k)) n1) 0 0 0 al 0 al 0 al 0 al 0 0 0 0 0))) (eN F J n (dQ n1 a (ak (k+1)) aD au ar w w1 w2 w3 w4 w5 t4 t41 t42 t43 t44 t45 t46 t47 t48 t49 gf gh gi gj yn yo yp xs aQ ba)))) (eN F J n (dQ n1 a (ak (k+1)) aD au ar w w1 w2 w3 w4 w5 t4 t41 t42 t43 t44 t45 t46 t47 t48 t49 gf gh gi gj yn yo yp xs aQ ba))))) (J (.exit 1) (Br a aD au ar t4 t41 t42 t43 t44 t45 t46 t47 t48 t49 gf gh gi gj yn yo yp xs aQ ba)):=by kernel_rfl
theorem UI (aD:List Int)(au ar t4 t41 t42 t43 t44:Int)(t45:ByteArray)(t46:Int)(t47:ByteArray)(t48:Int)(t49:ByteArray)(gf:Int)(gh:ByteArray)(gi gj yn yo yp:Int):dP F .ret (ES aD au ar t4 t41 t42 t43 t44 t45 t46 t47 t48 t49 gf gh gi gj yn yo yp)=some (((t4,t41,t42,t43,t44,(t45,t46,t47,[]),(t48,t49,[]),(gf,gh,[]),gi,gj,yn,yo,yp),()),(aD,au,ar),()):=by kernel_rfl
theorem RG (a:Int)(aD:List Int)(au ar w w1:Int)(w2:List Int)(w3:List bD)(w4:List cU)(w5:List cH)(t4 t41 t42 t43 t44:Int)(t45:ByteArray)(t46:Int)(t47:ByteArray)(t48:Int)(t49:ByteArray)(gf:Int)(gh:ByteArray)(gi gj yn yo yp:Int)(xs aQ ba:List Int):dP F (.exit 3) (Bq a aD au ar w w1 w2 w3 w4 w5 t4 t41 t42 t43 t44 t45 t46 t47 t48 t49 gf gh gi gj yn yo yp xs aQ ba)=br ((w4.length:Int)==0) (some (((2,a,0,0,0,(al,0,al,[]),(0,al,[]),(0,al,[]),0,0,0,0,0),()),(aD,au,ar),())) ((b8 F0 (w4.length:Int) 4).bind fun agA=>(ax F0 (aD,au,ar) agA.1).bind fun Pz=>some (((3,Pz.1.1,0,0,0,(al,0,al,[]),(0,al,[]),(0,al,[]),0,0,0,0,0),()),Pz.2.1,())):=by kernel_rfl
theorem UJ (aD:List Int)(au ar t4 t41 t42 t43 t44:Int)(t45:ByteArray)(t46:Int)(t47:ByteArray)(t48:Int)(t49:ByteArray)(gf:Int)(gh:ByteArray)(gi gj yn yo yp:Int):eO F .ret (ET aD au ar t4 t41 t42 t43 t44 t45 t46 t47 t48 t49 gf gh gi gj yn yo yp)=some (((t4,t41,t42,t43,t44,(t45,t46,t47,[]),(t48,t49,[]),(gf,gh,[]),gi,gj,yn,yo,yp),()),(aD,au,ar),()):=by kernel_rfl
theorem RH (a:Int)(aD:List Int)(au ar t4 t41 t42 t43 t44:Int)(t45:ByteArray)(t46:Int)(t47:ByteArray)(t48:Int)(t49:ByteArray)(gf:Int)(gh:ByteArray)(gi gj yn yo yp:Int)(xs aQ ba:List Int):eO F (.exit 1) (Br a aD au ar t4 t41 t42 t43 t44 t45 t46 t47 t48 t49 gf gh gi gj yn yo yp xs aQ ba)=some (((7,a,0,0,0,(al,0,al,[]),(0,al,[]),(0,al,[]),0,0,0,0,0),()),(aD,au,ar),()):=by kernel_rfl
def sG (c:D2)(w:o8):=EG gS F gT f29 atS 0 .cur [(K45,true)] kg 2 (c,w,())
theorem YU (c:D2)(w:o8):sG F c w=(eK F0 (w.2.2.1.length:Int) 1).bind fun o9=>(ax F0 c o9.1).bind fun fD=>(ax F0 fD.2.1 20).bind fun dW=>br (dW.1.1==0) (eN F (eO F) F.n (dQ (w.2.2.1.length:Int) fD.1.1 0 dW.2.1.1 dW.2.1.2.1 dW.2.1.2.2 w.1.1 w.1.2 w.2.1 w.2.2.1 w.2.2.2.1 w.2.2.2.2 0 0 0 0 0 al 0 al 0 al 0 al 0 0 0 0 0 [] [] [])) (br (dW.1.1==1) (eN F (eO F) F.n (dQ (w.2.2.1.length:Int) fD.1.1 0 dW.2.1.1 dW.2.1.2.1 dW.2.1.2.2 w.1.1 w.1.2 w.2.1 w.2.2.1 w.2.2.2.1 w.2.2.2.2 0 0 0 0 0 al 0 al 0 al 0 al 0 0 0 0 0 [] [] [])) (br (dW.1.1==2) (eN F (eO F) F.n (dQ (w.2.2.1.length:Int) fD.1.1 0 dW.2.1.1 dW.2.1.2.1 dW.2.1.2.2 w.1.1 w.1.2 w.2.1 w.2.2.1 w.2.2.2.1 w.2.2.2.2 0 0 0 0 0 al 0 al 0 al 0 al 0 0 0 0 0 [] [] [])) (br (dW.1.1==3) (eM F (dP F) F.n (dO (w.2.2.1.length:Int) fD.1.1 0 dW.2.1.1 dW.2.1.2.1 dW.2.1.2.2 w.1.1 w.1.2 w.2.1 w.2.2.1 w.2.2.2.1 w.2.2.2.2 0 0 0 0 0 al 0 al 0 al 0 al 0 0 0 0 0 [] [] [])) (br (dW.1.1==4) (eM F (dP F) F.n (dO (w.2.2.1.length:Int) fD.1.1 0 dW.2.1.1 dW.2.1.2.1 dW.2.1.2.2 w.1.1 w.1.2 w.2.1 w.2.2.1 w.2.2.2.1 w.2.2.2.2 0 0 0 0 0 al 0 al 0 al 0 al 0 0 0 0 0 [] [] [])) (br (dW.1.1==5) (eM F (dP F) F.n (dO (w.2.2.1.length:Int) fD.1.1 0 dW.2.1.1 dW.2.1.2.1 dW.2.1.2.2 w.1.1 w.1.2 w.2.1 w.2.2.1 w.2.2.2.1 w.2.2.2.2 0 0 0 0 0 al 0 al 0 al 0 al 0 0 0 0 0 [] [] [])) (br (dW.1.1==6) (eM F (dP F) F.n (dO (w.2.2.1.length:Int) fD.1.1 0 dW.2.1.1 dW.2.1.2.1 dW.2.1.2.2 w.1.1 w.1.2 w.2.1 w.2.2.1 w.2.2.2.1 w.2.2.2.2 0 0 0 0 0 al 0 al 0 al 0 al 0 0 0 0 0 [] [] [])) (br (dW.1.1==7) (some (((6,fD.1.1,0,0,0,(al,0,al,[]),(0,al,[]),(0,al,[]),0,0,0,0,0),()),dW.2.1,())) (br (dW.1.1==8) (some (((7,fD.1.1,0,0,0,(al,0,al,[]),(0,al,[]),(0,al,[]),0,0,0,0,0),()),dW.2.1,())) (br (dW.1.1==9) ((nX F0 dW.2.1 2).bind fun aMw=>br aMw.1.1 ((kh F0 aMw.2.1 [0,0,5,40,9999]).bind fun aOD=>some (((8,fD.1.1,aOD.1.1,0,0,(al,0,al,[]),(0,al,[]),(0,al,[]),0,0,0,0,0),()),aOD.2.1,())) ((ax F0 aMw.2.1 2).bind fun an4=>(eK F0 (w.2.2.2.1.length:Int) 1).bind fun aQK=>(ax F0 an4.2.1 aQK.1).bind fun aOE=>some (((ak (4+an4.1.1),aOE.1.1,0,0,0,(al,0,al,[]),(0,al,[]),(0,al,[]),0,0,0,0,0),()),aOE.2.1,()))) (br (dW.1.1==10) ((na F0 dW.2.1).bind fun aOF=>some (((9,fD.1.1,0,4,0,(al,0,al,[]),(0,al,[]),(0,al,[]),0,aOF.1.1),()),aOF.2.1,())) (br (dW.1.1==11) (br (decide ((w.2.1.length:Int)>0)) ((jk F0 dW.2.1 w).bind fun aok=>some (((10,fD.1.1,0,aok.1.1),()),aok.2.1,())) (br ((w.2.2.2.1.length:Int)==0) (some (((2,fD.1.1,0,0,0,(al,0,al,[]),(0,al,[]),(0,al,[]),0,0,0,0,0),()),dW.2.1,())) ((b8 F0 (w.2.2.2.1.length:Int) 4).bind fun agA=>(ax F0 dW.2.1 agA.1).bind fun Pz=>some (((3,Pz.1.1,0,0,0,(al,0,al,[]),(0,al,[]),(0,al,[]),0,0,0,0,0),()),Pz.2.1,())))) (br (dW.1.1==12) (br (decide ((w.2.1.length:Int)>0)) ((jk F0 dW.2.1 w).bind fun aok=>some (((10,fD.1.1,0,aok.1.1),()),aok.2.1,())) (br ((w.2.2.2.1.length:Int)==0) (some (((2,fD.1.1,0,0,0,(al,0,al,[]),(0,al,[]),(0,al,[]),0,0,0,0,0),()),dW.2.1,())) ((b8 F0 (w.2.2.2.1.length:Int) 4).bind fun agA=>(ax F0 dW.2.1 agA.1).bind fun Pz=>some (((3,Pz.1.1,0,0,0,(al,0,al,[]),(0,al,[]),(0,al,[]),0,0,0,0,0),()),Pz.2.1,())))) (br (dW.1.1==13) (br (decide ((w.2.1.length:Int)>0)) ((jk F0 dW.2.1 w).bind fun aok=>some (((10,fD.1.1,0,aok.1.1),()),aok.2.1,())) (br ((w.2.2.2.1.length:Int)==0) (some (((2,fD.1.1,0,0,0,(al,0,al,[]),(0,al,[]),(0,al,[]),0,0,0,0,0),()),dW.2.1,())) ((b8 F0 (w.2.2.2.1.length:Int) 4).bind fun agA=>(ax F0 dW.2.1 agA.1).bind fun Pz=>some (((3,Pz.1.1,0,0,0,(al,0,al,[]),(0,al,[]),(0,al,[]),0,0,0,0,0),()),Pz.2.1,())))) (br ((w.2.2.2.1.length:Int)==0) (some (((2,fD.1.1,0,0,0,(al,0,al,[]),(0,al,[]),(0,al,[]),0,0,0,0,0),()),dW.2.1,())) ((b8 F0 (w.2.2.2.1.length:Int) 4).bind fun agA=>(ax F0 dW.2.1 agA.1).bind fun Pz=>some (((3,Pz.1.1,0,0,0,(al,0,al,[]),(0,al,[]),(0,al,[]),0,0,0,0,0),()),Pz.2.1,())))))))))))))))):=by kernel_rfl
def EU:Any:=.two ⟨atS,0,.cur,[(K45,true)],2,kg,fun x=>sG F0 x.1 x.2.1⟩
theorem YV:bz 29 EU:=VG gS ⟨gC,yJ,yK,l8,ai8,eL,GK,abz,pS,trivial⟩ func29 gT (by kernel_rfl)
def We:=[(117,ji)]
def HY (a b:D9):=bJ We F ab f317 xT ib 2 (a,b,())
theorem akS (a b:D9):HY F a b=br (decide (a.1>b.1)) ((jT F0 a).bind fun dB=>some (dB.1,())) ((jT F0 b).bind fun cp=>some (cp.1,())):=by kernel_rfl
def PA:Any:=.one ⟨xT,ib,2,fun x=>HY F0 x.1 x.2.1⟩
theorem akT:bz 317 PA:=aA We ⟨mS,trivial⟩ func317 ab (by kernel_rfl)
def Wg:=[(132,ra),(170,uJ)]
abbrev aD2:List (Ty×Bool):=[(.str,false),(.bool,false)]
def HZ (name:ByteArray):=bJ Wg F ab f318 ed aD2 1 (name,())
theorem akU (name:ByteArray):HZ F name=(q9 F0 name).bind fun r9=>br (!r9.2.1) (some (al,false,())) (br (decide ((r9.1.length:Int)<3)) (some (al,false,())) (ck (cr (ak ((r9.1.length:Int)-1)) (r9.1.length:Int)) (ck (cr (ak ((r9.1.length:Int)-2)) (r9.1.length:Int)) (br ((aU r9.1 (ak ((r9.1.length:Int)-1)) (0,[])).1 != (ak ((aU r9.1 (ak ((r9.1.length:Int)-2)) (0,[])).1+1))) (some (al,false,())) (ck (cr (ak ((r9.1.length:Int)-2)) (r9.1.length:Int)) (ck (cr (ak ((r9.1.length:Int)-3)) (r9.1.length:Int)) (br ((aU r9.1 (ak ((r9.1.length:Int)-2)) (0,[])).1 != (ak ((aU r9.1 (ak ((r9.1.length:Int)-3)) (0,[])).1+1))) (some (al,false,())) ((mK F0 name).bind fun Zw=>(mK F0 Zw.1).bind fun Ya=>some (Ya.1,true,()))))))))):=by kernel_rfl
def PB:Any:=.one ⟨ed,aD2,1,fun x=>HZ F0 x.1⟩
theorem akV:bz 318 PB:=aA Wg ⟨CY,HN,trivial⟩ func318 ab (by kernel_rfl)
def Wh:=[(77,fG)]
abbrev ZR:List (Ty×Bool):=[(.str,false),(.str,false)]
def H0 (s t:ByteArray):=bJ Wh F ab f319 ZR bd 1 (s,t,())
theorem akW (s t:ByteArray):H0 F s t=(fL F0 s).bind fun r6=>br (!r6.1) (some (false,())) ((fL F0 t).bind fun ij=>br (!ij.1) (some (false,())) (br (decide ((t.size:Int)>(s.size:Int))) (some (false,())) (ck (SJ 0 (t.size:Int) (s.size:Int)) (br (!((s.extract (0:Int).toNat (t.size:Int).toNat).toList==t.toList)) (some (false,())) (br ((s.size:Int)==(t.size:Int)) (some (true,())) (ck (cr (t.size:Int) (s.size:Int)) (some ((kc s (t.size:Int))==47,())))))))):=by kernel_rfl
def PC:Any:=.one ⟨ZR,bd,1,fun x=>H0 F0 x.1 x.2.1⟩
theorem akX:bz 319 PC:=aA Wh ⟨iF,trivial⟩ func319 ab (by kernel_rfl)
def aol:=[(60,iG),(78,ee),(102,mT),(115,ig),(123,jh),(170,uJ),(317,PA),(318,PB),(319,PC)]
abbrev aD3:List (Ty×Bool):=[(K1,true),(K12,true),(K9,true)]
def PD (c:D1)(s:UF)(q:D9):=bJ aol F ab f280 aD3 Bn 2 (c,s,q,())
theorem ayL (c:D1)(s:UF)(q:D9):PD F c s q=(ow F0 s).bind fun dB=>(jS F0 c s).bind fun l6=>br (!l6.1) (some (dB.1,())) ((kN F0 c q).bind fun dW=>br (!dW.1) (some (dB.1,())) ((HY F0 q s.2.2.1).bind fun uC=>(mK F0 q.2.1).bind fun HJ=>(ep F0 HJ.1).bind fun uD=>(eK F0 s.2.1 uD.1).bind fun qR=>(HZ F0 q.2.1).bind fun Re=>br Re.2.1 ((H0 F0 Re.1 s.2.2.2).bind fun pN=>br pN.1 (some ((dB.1.1,qR.1,uC.1,Re.1),())) (some ((dB.1.1,qR.1,uC.1,dB.1.2.2.2),()))) (some ((dB.1.1,qR.1,uC.1,dB.1.2.2.2),())))):=by kernel_rfl
def H2:Any:=.one ⟨aD3,Bn,2,fun x=>PD F0 x.1 x.2.1 x.2.2.1⟩
theorem Wi:bz 280 H2:=aA aol ⟨l8,fx,vz,ll,mI,HN,akT,akV,akX,trivial⟩ func280 ab (by kernel_rfl)
def Wj:=[(78,ee),(123,jh),(169,mL)]
abbrev ai9:List (Ty×Bool):=[(K1,true),(K12,true),(K15,true)]
def zt (c:D1)(s:UF)(b:D15):=bJ Wj F ab f281 ai9 bd 1 (c,s,b,())
theorem akY (c:D1)(s:UF)(b:D15):zt F c s b=(jS F0 c s).bind fun r9=>br r9.1 ((ou F0 c b).bind fun cp=>br cp.1 ((ep F0 b.1).bind fun Oq=>br (decide (Oq.1>s.1)) (some (decide (b.2.1>=s.2.1),())) (some (false,()))) (some (false,()))) (some (false,())):=by kernel_rfl
def B0:Any:=.one ⟨ai9,bd,1,fun x=>zt F0 x.1 x.2.1 x.2.2.1⟩
theorem Td:bz 281 B0:=aA Wj ⟨fx,mI,vm,trivial⟩ func281 ab (by kernel_rfl)
def aja:=[(78,ee),(102,mT),(281,B0)]
abbrev ajb:List (Ty×Bool):=[(K12,true),(.bool,false)]
def PE (c:D1)(s:UF)(b:D15):=bJ aja F ab f282 ai9 ajb 2 (c,s,b,())
theorem av3 (c:D1)(s:UF)(b:D15):PE F c s b=(ow F0 s).bind fun ij=>(zt F0 c s b).bind fun l6=>br (!l6.1) (some (ij.1,false,())) ((ep F0 b.1).bind fun dW=>some ((dW.1,ij.1.2),true,())):=by kernel_rfl
def ZS:Any:=.one ⟨ai9,ajb,2,fun x=>PE F0 x.1 x.2.1 x.2.2.1⟩
theorem av4:bz 282 ZS:=aA aja ⟨fx,vz,Td,trivial⟩ func282 ab (by kernel_rfl)
def Te:=[(293,vl)]
abbrev aD4:List (Ty×Bool):=[(K12,true),(K12,true)]
def Dk (a b:UF):=bJ Te F ab f320 aD4 bd 1 (a,b,())
theorem agB (a b:UF):Dk F a b=br (a.1==b.1) (br (a.2.1==b.2.1) ((xU F0 a.2.2.1 b.2.2.1).bind fun gL=>br gL.1 (some (a.2.2.2.toList==b.2.2.2.toList,())) (some (false,()))) (some (false,()))) (some (false,())):=by kernel_rfl
def Mr:Any:=.one ⟨aD4,bd,1,fun x=>Dk F0 x.1 x.2.1⟩
theorem agC:bz 320 Mr:=aA Te ⟨JS,trivial⟩ func320 ab (by kernel_rfl)
def Dl:=[(72,cK)]
def Dm:Nat->Option Hint:=look [(4,{live:=[0,3],xl:=[0,3],rl:=[2]})]
def vW (n1:Int)(xs:List Int):= eD 25 [(0,bW n1),(3,.v (.c (.own 1000000 none)))] [] [aB 1000000 5 (.int .u8) xs]
def PF (n1:Int)(xs:List Int):= eD 25 [(0,bW n1),(3,.v (.c (.own 1000000 none)))] [] [aB 1000000 5 (.int .u8) xs]
def Dn (st:St):Option U:=gQ Dl F Dm [.r,.r,.r,.l,.b,.i] f276 J n st
def FV:=jG Dl F Dm [.r,.r,.r,.l,.b] f276 mG 2
theorem Ke (n1:Int)(xs:List Int):Dn F J (n+1) (vW n1 xs)=br (decide (n1>127)) (ck (fp F xs.length [IntKind.wrap .u8 (ak ((Int.tmod n1 128)+128))].length 1) (Dn F J n (vW (ak (Int.tdiv n1 128)) (xs++[IntKind.wrap .u8 (ak ((Int.tmod n1 128)+128))])))) (J (.exit 0) (PF n1 xs)):=by kernel_rfl
theorem Ms (n1:Int)(xs:List Int):FV F (.exit 0) (PF n1 xs)=ck (fp F xs.length [IntKind.wrap .u8 (n1)].length 1) (some (xs++[IntKind.wrap .u8 (n1)],())):=by kernel_rfl
def fg (n1:Int):=bJ Dl F Dm f276 dK mG 2 (n1,())
theorem aom (n1:Int):fg F n1=(cg F0 n1 0 2147483647).bind fun r6=>br (!r6.1) (some ([],())) (Dn F (FV F) F.n (vW n1 [])):=by kernel_rfl
def jl:Any:=.one ⟨dK,mG,2,fun x=>fg F0 x.1⟩
theorem nc:bz 276 jl:=aA Dl ⟨dq,trivial⟩ func276 Dm (by kernel_rfl)
def Wk:=[(276,jl)]
def oA (s:ByteArray):=bJ Wk F ab f277 ed mG 2 (s,())
theorem akZ (s:ByteArray):oA F s=(fg F0 (s.size:Int)).bind fun r5=>ck (decide ((s.size:Int)<=F.mem)) (ck (fp F r5.1.length (bytesOf s).length 1) (some (r5.1++(bytesOf s),()))):=by kernel_rfl
def sH:Any:=.one ⟨ed,mG,2,fun x=>oA F0 x.1⟩
theorem FW:bz 277 sH:=aA Wk ⟨nc,trivial⟩ func277 ab (by kernel_rfl)
end
end Go.Am.Tryz
