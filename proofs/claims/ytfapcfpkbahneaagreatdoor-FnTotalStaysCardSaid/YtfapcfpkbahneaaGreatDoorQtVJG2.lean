/- Lemmas for the claim. No condition. -/
import Derived.Test.YtfapcfpkbahneaaGreatDoorQtVJG1
set_option linter.all false
set_option maxRecDepth 100000
namespace Go.Am.Tryz
open Go.Am Go.Proofs Go.Proofs.Tryz
noncomputable section
variable {α:Type} (F:rT) (κ:Ex->St->Option α) (n:Nat)
def Vt:=[(102,mH),(103,yK),(104,mI),(105,yN)]
abbrev SD:List (Ty×Bool):=[(c8,true)]
def bj (r:bu):=bD Vt F ab f58 SD SD 2 (r,())
theorem aka (r:bu):bj F r=(n9 F0 r.2.2.2.1).bind fun dC=>ck (fe F 0 r.2.2.2.2.1.length 32) ((hY F0 r.2.2.2.2.2.1).bind fun N7=>(jt F0 r.2.2.2.2.2.2.1).bind fun gU=>(uq F0 r.2.2.2.2.2.2.2).bind fun r24=>some ((r.1,r.2.1,r.2.2.1,dC.1,[]++r.2.2.2.2.1,N7.1,gU.1,r24.1),())):=by kernel_rfl
def cm:Any:=.one ⟨SD,SD,2,fun x=>bj F0 x.1⟩
theorem cX:bo 58 cm:=ay Vt ⟨ve,Pc,vi,Pd,trivial⟩ func58 ab (by kernel_rfl)
def mJ:=[(58,cm)]
def mK:Nat->Option Hint:=look [(3,{live:=[1,2,3,4],x7:=[(2,2,3,.int .i64),(2,3,50,c8),(2,4,114,fC),(2,5,127,dP),(3,3,50,c8),(3,4,114,fC)],xl:=[1,2,3],rl:=[2]}),(7,{live:=[1,2,3,5],xl:=[2,3],rl:=[2]}),(999999,{live:=[1]})]
def sk (w:oV)(i t2 t21 out bh:Int)(xs:List Int)(aK:List bu)(aV:List cG)(bm:List cl)(bK:List Int)(cA:List bu)(cB:List cG)(cE:List cl):St:={nt:=63,tm:=[(1,.v (.c (.T5 false (iL) w 0))),cL 2,cL 3,(5,bE i)],bx:=[(2,[aq t2,aq t21,.own 1000000 none,.own 1000001 none,.own 1000002 none,.own 1000003 none]),(3,[aq out,aq bh,.own 1000004 none,.own 1000005 none,.own 1000006 none,.own 1000007 none])],bl:=[aA 1000000 3 (.int .i64) xs,aA 1000001 50 c8 aK,aA 1000002 114 fC aV,aA 1000003 127 dP bm,aA 1000004 3 (.int .i64) bK,aA 1000005 50 c8 cA,aA 1000006 114 fC cB,aA 1000007 127 dP cE],rob:=[1]}
def LY (t2 t21 out bh:Int)(xs:List Int)(aK:List bu)(aV:List cG)(bm:List cl)(bK:List Int)(cA:List bu)(cB:List cG)(cE:List cl):St:={nt:=63,tm:=[cL 2,cL 3],bx:=[(2,[aq t2,aq t21,.own 1000000 none,.own 1000001 none,.own 1000002 none,.own 1000003 none]),(3,[aq out,aq bh,.own 1000004 none,.own 1000005 none,.own 1000006 none,.own 1000007 none])],bl:=[aA 1000000 3 (.int .i64) xs,aA 1000001 50 c8 aK,aA 1000002 114 fC aV,aA 1000003 127 dP bm,aA 1000004 3 (.int .i64) bK,aA 1000005 50 c8 cA,aA 1000006 114 fC cB,aA 1000007 127 dP cE],rob:=[1]}
def yO (st:St):Option α:=gA mJ F mK [.r,.r,.r,.l,.r,.b,.i] f26 κ n st
def BG:=jq mJ F mK [.r,.r,.r,.l,.r,.b] f26 gu 2
def sn (w:oV)(i t2 t21 out bh:Int)(xs:List Int)(aK:List bu)(aV:List cG)(bm:List cl)(bK:List Int)(cA:List bu)(cB:List cG)(cE:List cl):St:={nt:=63,tm:=[(1,.v (.c (.T5 false (iL) w 0))),cL 2,cL 3,(4,bE i)],bx:=[(2,[aq t2,aq t21,.own 1000000 none,.own 1000001 none,.own 1000002 none,.own 1000003 none]),(3,[aq out,aq bh,.own 1000004 none,.own 1000005 none,.own 1000006 none,.own 1000007 none])],bl:=[aA 1000000 3 (.int .i64) xs,aA 1000001 50 c8 aK,aA 1000002 114 fC aV,aA 1000003 127 dP bm,aA 1000004 3 (.int .i64) bK,aA 1000005 50 c8 cA,aA 1000006 114 fC cB,aA 1000007 127 dP cE],rob:=[1]}
def LZ (w:oV)(t2 t21 out bh:Int)(xs:List Int)(aK:List bu)(aV:List cG)(bm:List cl)(bK:List Int)(cA:List bu)(cB:List cG)(cE:List cl):St:={nt:=63,tm:=[(1,.v (.c (.T5 false (iL) w 0))),cL 2,cL 3],bx:=[(2,[aq t2,aq t21,.own 1000000 none,.own 1000001 none,.own 1000002 none,.own 1000003 none]),(3,[aq out,aq bh,.own 1000004 none,.own 1000005 none,.own 1000006 none,.own 1000007 none])],bl:=[aA 1000000 3 (.int .i64) xs,aA 1000001 50 c8 aK,aA 1000002 114 fC aV,aA 1000003 127 dP bm,aA 1000004 3 (.int .i64) bK,aA 1000005 50 c8 cA,aA 1000006 114 fC cB,aA 1000007 127 dP cE],rob:=[1]}
def yP (st:St):Option α:=gA mJ F mK [.r,.r,.l,.r,.b,.i] f26 κ n st
def BH:=jq mJ F mK [.r,.r,.l,.r,.b] f26 gu 2
theorem Gi (w:oV)(i t2 t21 out bh:Int)(xs:List Int)(aK:List bu)(aV:List cG)(bm:List cl)(bK:List Int)(cA:List bu)(cB:List cG)(cE:List cl):yO F κ (n+1) (sk w i t2 t21 out bh xs aK aV bm bK cA cB cE)=br (decide (i<(w.2.2.2.1.length:Int))) (ck (cc i (w.2.2.2.1.length:Int)) (ck (cc i (w.2.2.2.1.length:Int)) (ck (fe F 0 (aN w.2.2.2.1 i (0,[])).2.length 1) (ck (fe F cB.length [((aN w.2.2.2.1 i (0,[])).1,[]++(aN w.2.2.2.1 i (0,[])).2)].length 32) (yO F κ n (sk w (aj (i+1)) t2 t21 out bh xs aK aV bm bK cA (cB++[((aN w.2.2.2.1 i (0,[])).1,[]++(aN w.2.2.2.1 i (0,[])).2)]) cE)))))) (κ (.exit 2) (LY t2 t21 out bh xs aK aV bm bK cA cB cE)):=by kernel_rfl
theorem Gj (w:oV)(i t2 t21 out bh:Int)(xs:List Int)(aK:List bu)(aV:List cG)(bm:List cl)(bK:List Int)(cA:List bu)(cB:List cG)(cE:List cl):yP F κ (n+1) (sn w i t2 t21 out bh xs aK aV bm bK cA cB cE)=br (decide (i<(w.2.2.1.length:Int))) (ck (cc i (w.2.2.1.length:Int)) ((bj F0 (aN w.2.2.1 i c8.aF)).bind fun r31=>ck (fe F cA.length [r31.1].length 208) (yP F κ n (sn w (aj (i+1)) t2 t21 out bh xs aK aV bm bK (cA++[r31.1]) cB cE)))) (κ (.exit 0) (LZ w t2 t21 out bh xs aK aV bm bK cA cB cE)):=by kernel_rfl
theorem aa6 (t2 t21 out bh:Int)(xs:List Int)(aK:List bu)(aV:List cG)(bm:List cl)(bK:List Int)(cA:List bu)(cB:List cG)(cE:List cl):BG F (.exit 2) (LY t2 t21 out bh xs aK aV bm bK cA cB cE)=some (((out,bh),bK,cA,cB,cE),()):=by kernel_rfl
theorem aa7 (w:oV)(t2 t21 out bh:Int)(xs:List Int)(aK:List bu)(aV:List cG)(bm:List cl)(bK:List Int)(cA:List bu)(cB:List cG)(cE:List cl):BH F (.exit 0) (LZ w t2 t21 out bh xs aK aV bm bK cA cB cE)=yO F (BG F) F.n (sk w 0 t2 t21 out bh xs aK aV bm bK cA cB cE):=by kernel_rfl
def yQ (w:oV):=bD mJ F mK f26 gu gu 2 (w,())
theorem akb (w:oV):yQ F w=ck (fe F 0 w.2.1.length 8) (ck (fe F 0 w.2.2.2.2.length 32) (yP F (BH F) F.n (sn w 0 0 0 w.1.1 w.1.2 [] [] [] [] ([]++w.2.1) [] [] ([]++w.2.2.2.2)))):=by kernel_rfl
def BI:Any:=.one ⟨gu,gu,2,fun x=>yQ F0 x.1⟩
theorem SE:bo 26 BI:=ay mJ ⟨cX,trivial⟩ func26 mK (by kernel_rfl)
abbrev aJA:List (Ty×Bool):=[(.sl 5 (.int .u8),false),(.int .i64,false),(.int .i64,false)]
def L0 (code:List Int)(axs aGi:Int):=bD aE F ab f28 aJA dv 1 (code,axs,aGi,())
theorem ann (code:List Int)(axs aGi:Int):L0 F code axs aGi=br (decide ((aj (axs+(aj (Int.tdiv (code.length:Int) 4))))>aGi)) (some (aGi,())) (some (aj (axs+(aj (Int.tdiv (code.length:Int) 4))),())):=by kernel_rfl
def SF:Any:=.one ⟨aJA,dv,1,fun x=>L0 F0 x.1 x.2.1 x.2.2.1⟩
theorem ano:bo 28 SF:=ay aE trivial func28 ab (by kernel_rfl)
def aiz:=[(35,dd)]
def mL (c:D1)(view:Int):=bD aiz F ab f106 aiw dv 1 (c,view,())
theorem auO (c:D1)(view:Int):mL F c view=(ey F0 c).bind fun r6=>br (!r6.1) (some (-1,())) (br (decide (view<0)) (some (-1,())) (ck (!(c.1==0)) (some (Int.tmod view c.1,())))):=by kernel_rfl
def jI:Any:=.one ⟨aiw,dv,1,fun x=>mL F0 x.1 x.2.1⟩
theorem oa:bo 106 jI:=ay aiz ⟨dQ,trivial⟩ func106 ab (by kernel_rfl)
def vm:=[(164,jP)]
def vn:Nat->Option Hint:=look [(2,{live:=[0,1,2,6,7],x7:=[(6,2,3,.int .i64)],xl:=[1,2,6],rl:=[6]})]
def k9 (list:List D9)(view:Int)(name:ByteArray)(i t6:Int)(t61:ByteArray)(xs:List Int):= dY 38 [(0,jO 74 (K9) list),(1,bE view),(2,Y0 name),cL 6,(7,bE i)] [(6,[aq t6,.str t61,.own 1000000 none])] [aA 1000000 3 (.int .i64) xs]
def L3 (t6:Int)(t61:ByteArray)(xs:List Int):= dY 38 [cL 6] [(6,[aq t6,.str t61,.own 1000000 none])] [aA 1000000 3 (.int .i64) xs]
def JH (view:Int)(name:ByteArray)(t6:Int)(t61:ByteArray)(xs:List Int):= dY 38 [(1,bE view),(2,Y0 name),cL 6] [(6,[aq t6,.str t61,.own 1000000 none])] [aA 1000000 3 (.int .i64) xs]
def pc (st:St):Option α:=gA vm F vn [.r,.l,.r,.b,.i] f107 κ n st
def qe:=jq vm F vn [.r,.l,.r,.b] f107 gV 2
theorem Et (list:List D9)(view:Int)(name:ByteArray)(i t6:Int)(t61:ByteArray)(xs:List Int):pc F κ (n+1) (k9 list view name i t6 t61 xs)=br (decide (i<(list.length:Int))) (ck (cc i (list.length:Int)) (br ((aN list i K9.aF).1==view) (ck (cc i (list.length:Int)) (br ((aN list i K9.aF).2.1.toList==name.toList) (ck (cc i (list.length:Int)) ((hU F0 (aN list i K9.aF)).bind fun qM=>κ .ret (L3 qM.1.1 qM.1.2.1 qM.1.2.2))) (pc F κ n (k9 list view name (aj (i+1)) t6 t61 xs)))) (pc F κ n (k9 list view name (aj (i+1)) t6 t61 xs)))) (κ (.exit 0) (JH view name t6 t61 xs)):=by kernel_rfl
theorem aa8 (t6:Int)(t61:ByteArray)(xs:List Int):qe F .ret (L3 t6 t61 xs)=some ((t6,t61,xs),()):=by kernel_rfl
theorem Ym (view:Int)(name:ByteArray)(t6:Int)(t61:ByteArray)(xs:List Int):qe F (.exit 0) (JH view name t6 t61 xs)=some ((view,name,[]),()):=by kernel_rfl
abbrev aCt:List (Ty×Bool):=[(K13,false),(.int .i64,false),(.str,false)]
def pK (list:D13)(view:Int)(name:ByteArray):=bD vm F vn f107 aCt gV 2 (list,view,name,())
theorem afX (list:D13)(view:Int)(name:ByteArray):pK F list view name=pc F (qe F) F.n (k9 list view name 0 0 al []):=by kernel_rfl
def qf:Any:=.one ⟨aCt,gV,2,fun x=>pK F0 x.1 x.2.1 x.2.2.1⟩
theorem BJ:bo 107 qf:=ay vm ⟨pb,trivial⟩ func107 vn (by kernel_rfl)
def so:Nat->Option Hint:=look [(3,{live:=[0,1,2],x7:=[(0,0,3,.int .i64),(0,1,3,.int .i64),(1,0,3,.int .i64)],xl:=[0,1],rl:=[0]})]
def gH (i:Int)(xs aK aV bm:List Int):= dY 15 [cL 0,cL 1,(2,bE i)] [(0,[.own 1000000 none,.own 1000001 none]),(1,[.own 1000002 none,.own 1000003 none])] [aA 1000000 3 (.int .i64) xs,aA 1000001 3 (.int .i64) aK,aA 1000002 3 (.int .i64) aV,aA 1000003 3 (.int .i64) bm]
def Gk (xs aK aV bm:List Int):= dY 15 [cL 0,cL 1] [(0,[.own 1000000 none,.own 1000001 none]),(1,[.own 1000002 none,.own 1000003 none])] [aA 1000000 3 (.int .i64) xs,aA 1000001 3 (.int .i64) aK,aA 1000002 3 (.int .i64) aV,aA 1000003 3 (.int .i64) bm]
def jQ (st:St):Option α:=gA aE F so [.r,.r,.l,.r,.b,.i] f110 κ n st
abbrev nR:List (Ty×Bool):=[(K43,true)]
def j7:=jq aE F so [.r,.r,.l,.r,.b] f110 nR 2
theorem AY (i:Int)(xs aK aV bm:List Int):jQ F κ (n+1) (gH i xs aK aV bm)=br (decide (i<4)) (ck (fe F aV.length [100].length 8) (jQ F κ n (gH (aj (i+1)) xs aK (aV++[100]) bm))) (κ (.exit 0) (Gk xs aK aV bm)):=by kernel_rfl
theorem Vu (xs aK aV bm:List Int):j7 F (.exit 0) (Gk xs aK aV bm)=some ((aV,bm),()):=by kernel_rfl
def mM: Option (Args nR):=bD aE F so f110 [] nR 2 (())
theorem adh: mM F= ck (okM F 4 4 8) (jQ F (j7 F) F.n (gH 0 [] [] [] (List.replicate (4:Int).toNat 0))):=by kernel_rfl
def wN:Any:=.one ⟨[],nR,2,fun x=>mM F0⟩
theorem L4:bo 110 wN:=ay aE trivial func110 so (by kernel_rfl)
def Hy:=[(132,qU)]
def Hz:Nat->Option Hint:=look [(4,{live:=[3,4,6],xl:=[3],rl:=[2]})]
def yR (i:Int)(xs:List D4)(aK:List D6):= dY 27 [(3,.v (.c (.own 1000000 none))),(4,.v (.c (.own 1000001 none))),(6,bE i)] [] [aA 1000000 76 K4 xs,aA 1000001 157 K6 aK]
def SG (xs:List D4):= dY 27 [(3,.v (.c (.own 1000000 none)))] [] [aA 1000000 76 K4 xs]
def HA (st:St):Option α:=gA Hy F Hz [.r,.r,.r,.l,.r,.b,.i] f111 κ n st
def JI:=jq Hy F Hz [.r,.r,.r,.l,.r,.b] f111 kz 2
theorem L5 (i:Int)(xs:List D4)(aK:List D6):HA F κ (n+1) (yR i xs aK)=br (decide (i<(aK.length:Int))) (ck (cc i (aK.length:Int)) (ck (fe F xs.length (aN aK i (0,[])).2.length 32) (HA F κ n (yR (aj (i+1)) (xs++(aN aK i (0,[])).2) aK)))) (κ (.exit 0) (SG xs)):=by kernel_rfl
theorem afY (xs:List D4):JI F (.exit 0) (SG xs)=some (xs,()):=by kernel_rfl
def wO (s:ByteArray):=bD Hy F Hz f111 en kz 2 (s,())
theorem aq2 (s:ByteArray):wO F s=(qT F0 s).bind fun gZ=>HA F (JI F) F.n (yR 0 [] gZ.1):=by kernel_rfl
def JJ:Any:=.one ⟨en,kz,2,fun x=>wO F0 x.1⟩
theorem Zr:bo 111 JJ:=ay Hy ⟨CC,trivial⟩ func111 Hz (by kernel_rfl)
def q9 (l:D43):=bD aE F ab f166 nR nR 2 (l,())
theorem anp (l:D43):q9 F l=ck (fe F 0 l.1.length 8) (ck (fe F 0 l.2.length 8) (some (([]++l.1,[]++l.2),()))):=by kernel_rfl
def vo:Any:=.one ⟨nR,nR,2,fun x=>q9 F0 x.1⟩
theorem JK:bo 166 vo:=ay aE trivial func166 ab (by kernel_rfl)
def vp:=[(72,cI)]
def vq:Nat->Option Hint:=look [(4,{live:=[1,3],rl:=[2]})]
def qg (i:Int)(l l1:List Int):= dY 34 [cL 1,(3,bE i)] [(1,[.ro false 3 (.int .i64) l,.ro false 3 (.int .i64) l1])] []
def yS (t2:Bool):= cJ 34 [(2,OV t2)]
def JL   := cJ 34 []
def vr (st:St):Option α:=gA vp F vq [.r,.r,.l,.r,.b,.i] f225 κ n st
def qh:=jq vp F vq [.r,.r,.l,.r,.b] f225 aZ 1
theorem Eu (i:Int)(l l1:List Int):vr F κ (n+1) (qg i l l1)=br (decide (i<4)) (ck (cc i (l.length:Int)) ((bX F0 (aN l i 0) 0 400).bind fun sg=>br (!sg.1) (κ .ret (yS false)) (ck (cc i (l1.length:Int)) ((bX F0 (aN l1 i 0) 0 100).bind fun r31=>br (!r31.1) (κ .ret (yS false)) (vr F κ n (qg (aj (i+1)) l l1)))))) (κ (.exit 0) (JL)):=by kernel_rfl
theorem JM (t2:Bool):qh F .ret (yS t2)=some (t2,()):=by kernel_rfl
theorem Yn: qh F (.exit 0) (JL)=some (true,()):=by kernel_rfl
def ur (l:D43):=bD vp F vq f225 nR aZ 1 (l,())
theorem afZ (l:D43):ur F l=br ((l.1.length:Int) != 4) (some (false,())) (br ((l.2.length:Int) != 4) (some (false,())) (vr F (qh F) F.n (qg 0 l.1 l.2))):=by kernel_rfl
def L6:Any:=.one ⟨nR,aZ,1,fun x=>ur F0 x.1⟩
theorem af0:bo 225 L6:=ay vp ⟨dh,trivial⟩ func225 vq (by kernel_rfl)
def anq:=[(166,vo),(181,lN),(225,L6)]
abbrev aCu:List (Ty×Bool):=[(K43,true),(K4,true)]
abbrev aCv:List (Ty×Bool):=[(K43,true),(.int .i64,false)]
def JN (l:D43)(x:D4):=bD anq F ab f167 aCu aCv 2 (l,x,())
theorem axt (l:D43)(x:D4):JN F l x=(q9 F0 l).bind fun r8=>(ur F0 l).bind fun dC=>br (!dC.1) (some (r8.1,1,())) ((sd F0 x).bind fun oW=>br (!oW.1) (some (r8.1,1,())) (ck (cc x.1 (l.2.length:Int)) (br (decide (x.2.2.2<(aN l.2 x.1 0))) (some (r8.1,2,())) (ck (cc x.1 (l.2.length:Int)) (br (decide (x.2.2.2>(aN l.2 x.1 0))) (some (r8.1,3,())) (ck (cc x.1 (r8.1.2.length:Int)) (ck (cc x.1 (l.1.length:Int)) (br (decide (x.2.2.1>(aN l.1 x.1 0))) (some ((r8.1.1,r8.1.2.set x.1.toNat (aj (x.2.2.2+1))),4,())) (ck (cc x.1 (r8.1.1.length:Int)) (ck (cc x.1 (r8.1.1.length:Int)) (ck (cc x.2.1 ((r8.1.1.set x.1.toNat (aj ((aN r8.1.1 x.1 0)-x.2.2.1))).length:Int)) (ck (cc x.2.1 ((r8.1.1.set x.1.toNat (aj ((aN r8.1.1 x.1 0)-x.2.2.1))).length:Int)) ((ur F0 ((r8.1.1.set x.1.toNat (aj ((aN r8.1.1 x.1 0)-x.2.2.1))).set x.2.1.toNat (aj ((aN (r8.1.1.set x.1.toNat (aj ((aN r8.1.1 x.1 0)-x.2.2.1))) x.2.1 0)+x.2.2.1)),r8.1.2.set x.1.toNat (aj (x.2.2.2+1)))).bind fun r88=>br (!r88.1) ((q9 F0 l).bind fun r91=>some (r91.1,1,())) (some (((r8.1.1.set x.1.toNat (aj ((aN r8.1.1 x.1 0)-x.2.2.1))).set x.2.1.toNat (aj ((aN (r8.1.1.set x.1.toNat (aj ((aN r8.1.1 x.1 0)-x.2.2.1))) x.2.1 0)+x.2.2.1)),r8.1.2.set x.1.toNat (aj (x.2.2.2+1))),0,()))))))))))))))):=by kernel_rfl
def HB:Any:=.one ⟨aCu,aCv,2,fun x=>JN F0 x.1 x.2.1⟩
theorem Vv:bo 167 HB:=ay anq ⟨JK,se,af0,trivial⟩ func167 ab (by kernel_rfl)
def CN:=[(166,vo),(167,HB)]
def CO:Nat->Option Hint:=look [(4,{live:=[1,4,6,7,8],x7:=[(4,0,3,.int .i64),(4,1,3,.int .i64)],xl:=[4,6,7],rl:=[4,5]})]
def vt (list:List D4)(i:Int)(xs aK aV bm bK:List Int):= dY 36 [(1,jO 76 (K4) list),cL 4,cL 6,(7,.v (.c (.own 1000000 none))),(8,bE i)] [(4,[.own 1000001 none,.own 1000002 none]),(6,[.own 1000003 none,.own 1000004 none])] [aA 1000000 3 (.int .i64) xs,aA 1000001 3 (.int .i64) aK,aA 1000002 3 (.int .i64) aV,aA 1000003 3 (.int .i64) bm,aA 1000004 3 (.int .i64) bK]
def Pe (xs aK aV bm bK:List Int):= dY 36 [cL 4,cL 6,(7,.v (.c (.own 1000000 none)))] [(4,[.own 1000001 none,.own 1000002 none]),(6,[.own 1000003 none,.own 1000004 none])] [aA 1000000 3 (.int .i64) xs,aA 1000001 3 (.int .i64) aK,aA 1000002 3 (.int .i64) aV,aA 1000003 3 (.int .i64) bm,aA 1000004 3 (.int .i64) bK]
def CP (st:St):Option α:=gA CN F CO [.r,.r,.r,.l,.r,.b,.i] f109 κ n st
abbrev asN:List (Ty×Bool):=[(K43,true),(.sl 3 (.int .i64),false)]
def Fx:=jq CN F CO [.r,.r,.r,.l,.r,.b] f109 asN 2
theorem JO (list:List D4)(i:Int)(xs aK aV bm bK:List Int):CP F κ (n+1) (vt list i xs aK aV bm bK)=br (decide (i<(list.length:Int))) (ck (cc i (list.length:Int)) ((JN F0 (bm,bK) (aN list i K4.aF)).bind fun uc=>ck (fe F xs.length [uc.2.1].length 8) (CP F κ n (vt list (aj (i+1)) (xs++[uc.2.1]) aK aV uc.1.1 uc.1.2)))) (κ (.exit 0) (Pe xs aK aV bm bK)):=by kernel_rfl
theorem adi (xs aK aV bm bK:List Int):Fx F (.exit 0) (Pe xs aK aV bm bK)=some ((bm,bK),xs,()):=by kernel_rfl
abbrev aCw:List (Ty×Bool):=[(K43,true),(K5,false)]
def xw (l:D43)(list:D5):=bD CN F CO f109 aCw asN 2 (l,list,())
theorem anr (l:D43)(list:D5):xw F l list=(q9 F0 l).bind fun cR=>CP F (Fx F) F.n (vt list 0 [] [] [] cR.1.1 cR.1.2):=by kernel_rfl
def Fy:Any:=.one ⟨aCw,asN,2,fun x=>xw F0 x.1 x.2.1⟩
theorem Vw:bo 109 Fy:=ay CN ⟨JK,Vv,trivial⟩ func109 CO (by kernel_rfl)
def vu:=[(166,vo),(167,HB)]
def vv:Nat->Option Hint:=look [(4,{live:=[0,5,6,7],xl:=[5],rl:=[4]})]
def iO (p:List D4)(i:Int)(xs:List D4)(aK aV:List Int):= dY 48 [(0,jO 76 (K4) p),(5,.v (.c (.own 1000000 none))),cL 6,(7,bE i)] [(6,[.own 1000001 none,.own 1000002 none])] [aA 1000000 76 K4 xs,aA 1000001 3 (.int .i64) aK,aA 1000002 3 (.int .i64) aV]
def wP (xs:List D4):= dY 48 [(5,.v (.c (.own 1000000 none)))] [] [aA 1000000 76 K4 xs]
def kG (st:St):Option α:=gA vu F vv [.r,.r,.r,.l,.r,.b,.i] f113 κ n st
def yT:=jq vu F vv [.r,.r,.r,.l,.r,.b] f113 kz 2
theorem Ev (p:List D4)(i:Int)(xs:List D4)(aK aV:List Int):kG F κ (n+1) (iO p i xs aK aV)=br (decide (i<(p.length:Int))) (br (decide ((xs.length:Int)<2)) (ck (cc i (p.length:Int)) ((JN F0 (aK,aV) (aN p i K4.aF)).bind fun En=>br (En.2.1==0) (ck (cc i (p.length:Int)) (ck (fe F xs.length [(aN p i K4.aF)].length 32) (kG F κ n (iO p (aj (i+1)) (xs++[(aN p i K4.aF)]) En.1.1 En.1.2)))) (br (En.2.1==4) (ck (cc i (p.length:Int)) (ck (fe F xs.length [(aN p i K4.aF)].length 32) (kG F κ n (iO p (aj (i+1)) (xs++[(aN p i K4.aF)]) En.1.1 En.1.2)))) (kG F κ n (iO p (aj (i+1)) xs aK aV))))) (κ (.exit 0) (wP xs))) (κ (.exit 0) (wP xs)):=by kernel_rfl
theorem Gl (xs:List D4):yT F (.exit 0) (wP xs)=some (xs,()):=by kernel_rfl
abbrev aiA:List (Ty×Bool):=[(K5,false),(K43,true)]
def pL (p:D5)(l:D43):=bD vu F vv f113 aiA kz 2 (p,l,())
theorem af1 (p:D5)(l:D43):pL F p l=(q9 F0 l).bind fun cR=>kG F (yT F) F.n (iO p 0 [] cR.1.1 cR.1.2):=by kernel_rfl
def L7:Any:=.one ⟨aiA,kz,2,fun x=>pL F0 x.1 x.2.1⟩
theorem af2:bo 113 L7:=ay vu ⟨JK,Vv,trivial⟩ func113 vv (by kernel_rfl)
def yU:=[(181,lN),(271,Fp)]
def yV:Nat->Option Hint:=look [(3,{live:=[0,3,4],xl:=[3],rl:=[2]})]
def mN (list:List D4)(out:ByteArray)(i:Int):= cJ 29 [(0,jO 76 (K4) list),(3,Y0 out),(4,bE i)]
def Pf (t2:ByteArray):= cJ 29 [(2,Y0 t2)]
def L8 (out:ByteArray):= cJ 29 [(3,Y0 out)]
def ra (st:St):Option α:=gA yU F yV [.r,.r,.l,.r,.b,.i] f227 κ n st
def sq:=jq yU F yV [.r,.r,.l,.r,.b] f227 en 1
theorem Gm (list:List D4)(out:ByteArray)(i:Int):ra F κ (n+1) (mN list out i)=br (decide (i<(list.length:Int))) (ck (cc i (list.length:Int)) ((sd F0 (aN list i K4.aF)).bind fun oW=>br (!oW.1) (κ .ret (Pf al)) (br (decide (i>0)) (ck (okC F out.size (ByteArray.mk #[44]).size) (ck (cc i (list.length:Int)) ((xn F0 (aN list i K4.aF)).bind fun uc=>ck (okC F (out++(ByteArray.mk #[44])).size uc.1.size) (ra F κ n (mN list ((out++(ByteArray.mk #[44]))++uc.1) (aj (i+1))))))) (ck (cc i (list.length:Int)) ((xn F0 (aN list i K4.aF)).bind fun uc=>ck (okC F out.size uc.1.size) (ra F κ n (mN list (out++uc.1) (aj (i+1))))))))) (κ (.exit 0) (L8 out)):=by kernel_rfl
theorem adj (t2:ByteArray):sq F .ret (Pf t2)=some (t2,()):=by kernel_rfl
theorem aa9 (out:ByteArray):sq F (.exit 0) (L8 out)=some (out,()):=by kernel_rfl
def HC (list:D5):=bD yU F yV f227 kz en 1 (list,())
theorem akc (list:D5):HC F list=ra F (sq F) F.n (mN list al 0):=by kernel_rfl
def Pg:Any:=.one ⟨kz,en,1,fun x=>HC F0 x.1⟩
theorem akd:bo 227 Pg:=ay yU ⟨se,Vb,trivial⟩ func227 yV (by kernel_rfl)
def CQ:=[(77,fx),(181,lN),(226,uT),(227,Pg)]
def CR:Nat->Option Hint:=look [(2,{live:=[0,1,2,7],xl:=[0,1,2],rl:=[6]})]
def vw (up:ByteArray)(view:Int)(list:List D4)(i:Int):= cJ 34 [(0,Y0 up),(1,bE view),(2,jO 76 (K4) list),(7,bE i)]
def SH (t6:ByteArray):= cJ 34 [(6,Y0 t6)]
def Ph (up:ByteArray)(view:Int)(list:List D4):= cJ 34 [(0,Y0 up),(1,bE view),(2,jO 76 (K4) list)]
def CS (st:St):Option α:=gA CQ F CR [.r,.l,.r,.b,.i] f168 κ n st
def vx:=jq CQ F CR [.r,.l,.r,.b] f168 en 1
theorem JP (up:ByteArray)(view:Int)(list:List D4)(i:Int):CS F κ (n+1) (vw up view list i)=br (decide (i<(list.length:Int))) (ck (cc i (list.length:Int)) ((sd F0 (aN list i K4.aF)).bind fun dL=>br (!dL.1) (κ .ret (SH al)) (CS F κ n (vw up view list (aj (i+1)))))) (κ (.exit 0) (Ph up view list)):=by kernel_rfl
theorem af3 (t6:ByteArray):vx F .ret (SH t6)=some (t6,()):=by kernel_rfl
theorem adk (up:ByteArray)(view:Int)(list:List D4):vx F (.exit 0) (Ph up view list)=ck (okC F up.size (ByteArray.mk #[47]).size) ((kV F0 view).bind fun r24=>ck (okC F (up++(ByteArray.mk #[47])).size r24.1.size) (ck (okC F ((up++(ByteArray.mk #[47]))++r24.1).size (ByteArray.mk #[124]).size) ((HC F0 list).bind fun Vc=>ck (okC F (((up++(ByteArray.mk #[47]))++r24.1)++(ByteArray.mk #[124])).size Vc.1.size) ((fD F0 ((((up++(ByteArray.mk #[47]))++r24.1)++(ByteArray.mk #[124]))++Vc.1)).bind fun r31=>br (!r31.1) (some (al,())) (some ((((up++(ByteArray.mk #[47]))++r24.1)++(ByteArray.mk #[124]))++Vc.1,())))))):=by kernel_rfl
abbrev aCx:List (Ty×Bool):=[(.str,false),(.int .i64,false),(K5,false)]
def Zs (up:ByteArray)(view:Int)(list:D5):=bD CQ F CR f168 aCx en 1 (up,view,list,())
theorem Vx:∃f,f= @Zs:=⟨_,rfl⟩
def la:=Classical.choose Vx
theorem SJ: @la= @Zs:=Classical.choose_spec Vx
theorem ans (up:ByteArray)(view:Int)(list:D5):la F up view list=CS F (vx F) F.n (vw up view list 0):=by rw[SJ];kernel_rfl
def Fz:Any:=.one ⟨aCx,en,1,fun x=>la F0 x.1 x.2.1 x.2.2.1⟩
theorem Vy:bo 168 Fz:=ok1 (show yd Tryz.prog TB CQ from⟨ir,se,Jr,akd,trivial⟩) func168 (by kernel_rfl) (by kernel_rfl) CR (by rw[SJ];kernel_rfl)
def SK:=[(78,dR),(117,iW),(168,Fz),(169,mz)]
abbrev aiB:List (Ty×Bool):=[(K15,true),(.bool,false)]
abbrev aCy:List (Ty×Bool):=[(K1,true),(K9,true),(.int .i64,false),(K5,false)]
def pM (c:D1)(q:D9)(view:Int)(list:D5):=bD SK F ab f112 aCy aiB 2 (c,q,view,list,())
theorem af4 (c:D1)(q:D9)(view:Int)(list:D5):pM F c q view list=(la F0 q.2.1 view list).bind fun oW=>(jH F0 q).bind fun fv=>(n7 F0 c (oW.1,fv.1)).bind fun gU=>br (!gU.1) (some ((al,0,al,[]),false,())) ((dZ F0 oW.1).bind fun uc=>br (uc.1 != view) (some ((al,0,al,[]),false,())) (some ((oW.1,fv.1),true,()))):=by kernel_rfl
def yW:Any:=.one ⟨aCy,aiB,2,fun x=>pM F0 x.1 x.2.1 x.2.2.1 x.2.2.2.1⟩
theorem Pj:bo 112 yW:=ay SK ⟨fj,mG,Vy,u2,trivial⟩ func112 ab (by kernel_rfl)
def ant:=[(73,cZ),(106,jI),(107,qf),(108,uW),(109,Fy),(110,wN),(111,JJ),(112,yW),(113,L7)]
def Vz (c:D1)(r:bu):=bD ant F ab f61 AQ aiB 2 (c,r,())
theorem axu (c:D1)(r:bu):Vz F c r=(eb F0 c r).bind fun lK=>br (!lK.1) (some ((al,0,al,[]),false,())) ((mL F0 c r.2.1).bind fun Ej=>br (Ej.1 != r.1) (some ((al,0,al,[]),false,())) (br (decide (r.2.2.1>=r.2.1)) (some ((al,0,al,[]),false,())) ((pK F0 r.2.2.2.2.2.1 r.2.1 al).bind fun xv=>br (r.2.2.2.1.2.2.1.1 != (aj (r.2.1-1))) ((xp F0 c).bind fun r52=>br (decide ((xv.1.2.2.length:Int)<r52.1)) (some ((al,0,al,[]),false,())) ((mM F0).bind fun r57=>(wO F0 r.2.2.2.1.2.2.1.2.1).bind fun r60=>(xw F0 r57.1 r60.1).bind fun IS=>(pL F0 r.2.2.2.2.1 IS.1).bind fun Zt=>(pM F0 c r.2.2.2.1.2.2.1 r.2.1 Zt.1).bind fun r73=>some (r73.1,r73.2.1,()))) ((mM F0).bind fun r57=>(wO F0 r.2.2.2.1.2.2.1.2.1).bind fun r60=>(xw F0 r57.1 r60.1).bind fun IS=>(pL F0 r.2.2.2.2.1 IS.1).bind fun Zt=>(pM F0 c r.2.2.2.1.2.2.1 r.2.1 Zt.1).bind fun r73=>some (r73.1,r73.2.1,()))))):=by kernel_rfl
def Rj:Any:=.one ⟨AQ,aiB,2,fun x=>Vz F0 x.1 x.2.1⟩
theorem aiC:bo 61 Rj:=ay ant ⟨dD,oa,BJ,Ju,Vw,L4,Zr,Pj,af2,trivial⟩ func61 ab (by kernel_rfl)
def CT:Nat->Option Hint:=look [(2,{live:=[0,1,5],rl:=[4]})]
def vy (s:List Int)(i k:Int):= cJ 18 [(0,jO 3 (.int .i64) s),(1,bE i),(5,bE k)]
def SL (t4:Bool):= cJ 18 [(4,OV t4)]
def Pk   := cJ 18 []
def CU (st:St):Option α:=gA aE F CT [.r,.l,.r,.b,.i] f62 κ n st
def vz:=jq aE F CT [.r,.l,.r,.b] f62 aZ 1
theorem JQ (s:List Int)(i k:Int):CU F κ (n+1) (vy s i k)=br (decide (k<(s.length:Int))) (ck (cc k (s.length:Int)) (br ((aN s k 0)==i) (κ .ret (SL true)) (CU F κ n (vy s i (aj (k+1)))))) (κ (.exit 0) (Pk)):=by kernel_rfl
theorem af5 (t4:Bool):vz F .ret (SL t4)=some (t4,()):=by kernel_rfl
theorem adm: vz F (.exit 0) (Pk)=some (false,()):=by kernel_rfl
abbrev ake:List (Ty×Bool):=[(.sl 3 (.int .i64),false),(.int .i64,false)]
def dE (s:List Int)(i:Int):=bD aE F CT f62 ake aZ 1 (s,i,())
theorem anv (s:List Int)(i:Int):dE F s i=CU F (vz F) F.n (vy s i 0):=by kernel_rfl
def dz:Any:=.one ⟨ake,aZ,1,fun x=>dE F0 x.1 x.2.1⟩
theorem eA:bo 62 dz:=ay aE trivial func62 CT (by kernel_rfl)
def JR:=[(27,eR),(56,n5)]
def mO (c:D2):=Ei JR F ab f63 j3 0 .cur Y6 j3 1 (c,())
theorem Yo (c:D2):mO F c=(ax F0 c 4).bind fun r4=>(ax F0 r4.2.1 4).bind fun r6=>(j4 F0 r6.2.1 [0,5,60,100,1000]).bind fun r9=>(ax F0 r9.2.1 3).bind fun dC=>some (((r4.1.1,r6.1.1,r9.1.1,dC.1.1),()),dC.2.1,()):=by kernel_rfl
def rb:Any:=.two ⟨j3,0,.cur,Y6,1,j3,fun x=>mO F0 x.1⟩
theorem Gn:bo 63 rb:=U6 JR ⟨gq,yh,trivial⟩ func63 ab (by kernel_rfl)
def bU (a b:Int):=bD aE F ab f65 asJ dv 1 (a,b,())
theorem aq3 (a b:Int):bU F a b=br (decide (a<b)) (some (a,())) (some (b,())):=by kernel_rfl
def j8:Any:=.one ⟨asJ,dv,1,fun x=>bU F0 x.1 x.2.1⟩
theorem pN:bo 65 j8:=ay aE trivial func65 ab (by kernel_rfl)
def CW:=[(62,dz)]
def CX:Nat->Option Hint:=look [(4,{live:=[0,1,5],xl:=[0,1,5],rl:=[4]})]
def vA (s:List Int)(i iM:Int):= cJ 41 [(0,jO 3 (.int .i64) s),(1,bE i),(5,bE iM)]
def sr (s:List Int)(i iM:Int):= cJ 41 [(0,jO 3 (.int .i64) s),(1,bE i),(5,bE iM)]
def CY (st:St):Option α:=gA CW F CX [.r,.r,.r,.l,.b,.i] f171 κ n st
def vB:=jq CW F CX [.r,.r,.r,.l,.b] f171 kB 2
theorem JS (s:List Int)(i iM:Int):CY F κ (n+1) (vA s i iM)=br (decide (iM<(s.length:Int))) (ck (cc iM (s.length:Int)) (br (decide ((aN s iM 0)<i)) (CY F κ n (vA s i (aj (iM+1)))) (κ (.exit 0) (sr s i iM)))) (κ (.exit 0) (sr s i iM)):=by kernel_rfl
theorem adn (s:List Int)(i iM:Int):vB F (.exit 0) (sr s i iM)=ck (Si 0 iM (s.length:Int)) (ck (fe F 0 ((s.take iM.toNat).drop (0:Int).toNat).length 8) (ck (fe F ([]++((s.take iM.toNat).drop (0:Int).toNat)).length [i].length 8) (ck (Si iM (s.length:Int) (s.length:Int)) (ck (fe F (([]++((s.take iM.toNat).drop (0:Int).toNat))++[i]).length ((s.take (s.length:Int).toNat).drop iM.toNat).length 8) (some ((([]++((s.take iM.toNat).drop (0:Int).toNat))++[i])++((s.take (s.length:Int).toNat).drop iM.toNat),())))))):=by kernel_rfl
def xy (s:List Int)(i:Int):=bD CW F CX f171 ake kB 2 (s,i,())
theorem anw (s:List Int)(i:Int):xy F s i=(dE F0 s i).bind fun r9=>br r9.1 (ck (fe F 0 s.length 8) (some ([]++s,()))) (CY F (vB F) F.n (vA s i 0)):=by kernel_rfl
def FA:Any:=.one ⟨ake,kB,2,fun x=>xy F0 x.1 x.2.1⟩
theorem VA:bo 171 FA:=ay CW ⟨eA,trivial⟩ func171 CX (by kernel_rfl)
end
end Go.Am.Tryz
namespace Go.Am.Tryz
open Go.Am Go.Proofs Go.Proofs.Tryz
noncomputable section
variable {α:Type} (F:rT) (κ:Ex->St->Option α) (n:Nat)
def l8:=[(27,eR),(57,o5),(65,j8),(168,Fz),(170,uo),(171,FA)]
def l9:Nat->Option Hint:=look [(11,{live:=[3,4,5,6,7,9],x7:=[(4,5,3,.int .i64),(4,8,3,.int .i64),(4,11,3,.int .i64)],xl:=[4,5,6,7],rl:=[4]})]
def c7 (view:Int)(name:ByteArray)(i:Int)(aB:List Int)(au ar w w1:Int)(w2:List Int)(w3:List bu)(w4:List cG)(w5:List cl)(t4 t41:Int)(t42:ByteArray)(t43:Int)(t44:ByteArray)(t45:Int)(t46:ByteArray)(t47:Int)(t48:ByteArray)(t49 fU fV fW fX:Int)(xs aK aV bm:List Int):St:={nt:=89,tm:=[cL 3,cL 4,(5,bE view),(6,Y0 name),(7,.v (.c (.own 1000000 none))),(9,bE i)],bx:=[(4000000,[.ro true 5 (.int .u8) aB,aq au,aq ar]),(3,[aq w,aq w1,.ro false 3 (.int .i64) w2,.ro false 50 (c8) w3,.ro false 114 (fC) w4,.ro false 127 (dP) w5]),(4,[aq t4,aq t41,.str t42,aq t43,.str t44,.own 1000001 none,aq t45,.str t46,.own 1000002 none,aq t47,.str t48,.own 1000003 none,aq t49,aq fU,aq fV,aq fW,aq fX])],bl:=[aA 1000000 3 (.int .i64) xs,aA 1000001 3 (.int .i64) aK,aA 1000002 3 (.int .i64) aV,aA 1000003 3 (.int .i64) bm],sp:=.v (.c (.ptr 4000000 0))}
def yX (view:Int)(name:ByteArray)(aB:List Int)(au ar t4 t41:Int)(t42:ByteArray)(t43:Int)(t44:ByteArray)(t45:Int)(t46:ByteArray)(t47:Int)(t48:ByteArray)(t49 fU fV fW fX:Int)(xs aK aV bm:List Int):St:={nt:=89,tm:=[cL 4,(5,bE view),(6,Y0 name),(7,.v (.c (.own 1000000 none)))],bx:=[(4000000,[.ro true 5 (.int .u8) aB,aq au,aq ar]),(4,[aq t4,aq t41,.str t42,aq t43,.str t44,.own 1000001 none,aq t45,.str t46,.own 1000002 none,aq t47,.str t48,.own 1000003 none,aq t49,aq fU,aq fV,aq fW,aq fX])],bl:=[aA 1000000 3 (.int .i64) xs,aA 1000001 3 (.int .i64) aK,aA 1000002 3 (.int .i64) aV,aA 1000003 3 (.int .i64) bm],sp:=.v (.c (.ptr 4000000 0))}
def dw (st:St):Option α:=gA l8 F l9 [.r,.r,.r,.r,.r,.l,.r,.b,.i] f114 κ n st
def ff:=axm l8 F l9 [.r,.r,.r,.r,.r,.l,.r,.b] f114 .cur xu j3 2
theorem uv (view:Int)(name:ByteArray)(i:Int)(aB:List Int)(au ar w w1:Int)(w2:List Int)(w3:List bu)(w4:List cG)(w5:List cl)(t4 t41:Int)(t42:ByteArray)(t43:Int)(t44:ByteArray)(t45:Int)(t46:ByteArray)(t47:Int)(t48:ByteArray)(t49 fU fV fW fX:Int)(xs aK aV bm:List Int):dw F κ (n+1) (c7 view name i aB au ar w w1 w2 w3 w4 w5 t4 t41 t42 t43 t44 t45 t46 t47 t48 t49 fU fV fW fX xs aK aV bm)=br (decide (i<(w5.length:Int))) (ck (cc i (w5.length:Int)) (br ((aN w5 i dP.aF).1==view) (ck (cc i (w5.length:Int)) (br ((aN w5 i dP.aF).2.1.toList==name.toList) (ck (cc i (w5.length:Int)) ((xy F0 xs (aN w5 i dP.aF).2.2).bind fun r83=>dw F κ n (c7 view name (aj (i+1)) aB au ar w w1 w2 w3 w4 w5 t4 t41 t42 t43 t44 t45 t46 t47 t48 t49 fU fV fW fX r83.1 aK aV bm))) (dw F κ n (c7 view name (aj (i+1)) aB au ar w w1 w2 w3 w4 w5 t4 t41 t42 t43 t44 t45 t46 t47 t48 t49 fU fV fW fX xs aK aV bm)))) (dw F κ n (c7 view name (aj (i+1)) aB au ar w w1 w2 w3 w4 w5 t4 t41 t42 t43 t44 t45 t46 t47 t48 t49 fU fV fW fX xs aK aV bm)))) (κ (.exit 0) (yX view name aB au ar t4 t41 t42 t43 t44 t45 t46 t47 t48 t49 fU fV fW fX xs aK aV bm)):=by kernel_rfl
theorem Pl (view:Int)(name:ByteArray)(aB:List Int)(au ar t4 t41:Int)(t42:ByteArray)(t43:Int)(t44:ByteArray)(t45:Int)(t46:ByteArray)(t47:Int)(t48:ByteArray)(t49 fU fV fW fX:Int)(xs aK aV bm:List Int):ff F (.exit 0) (yX view name aB au ar t4 t41 t42 t43 t44 t45 t46 t47 t48 t49 fU fV fW fX xs aK aV bm)=some (((2,0,(al,0,al,[]),(view,name,xs),(0,al,[]),0,0,0,0,0),()),(aB,au,ar),()):=by kernel_rfl
abbrev asO:List (Ty×Bool):=[(K2,true),(iL,true)]
def qi (c:D2)(w:oV):=Ei l8 F l9 f114 asO 0 .cur xu j3 2 (c,w,())
theorem VB (c:D2)(w:oV):qi F c w=(ax F0 c 4).bind fun dC=>(la F0 al (aj (1+dC.1.1)) []).bind fun lK=>ck (fe F 0 w.2.1.length 8) (br (decide ((w.2.2.2.2.length:Int)>0)) ((bU F0 (w.2.2.2.2.length:Int) 8).bind fun ud=>(ax F0 dC.2.1 ud.1).bind fun qM=>ck (cc (aj ((aj ((w.2.2.2.2.length:Int)-1))-qM.1.1)) (w.2.2.2.2.length:Int)) ((nO F0 qM.2.1 3).bind fun OA=>br OA.1.1 ((my F0 (aN w.2.2.2.2 (aj ((aj ((w.2.2.2.2.length:Int)-1))-qM.1.1)) dP.aF).2.1).bind fun QW=>(la F0 QW.1 (aN w.2.2.2.2 (aj ((aj ((w.2.2.2.2.length:Int)-1))-qM.1.1)) dP.aF).1 [(1,0,1,0)]).bind fun Fb=>dw F (ff F) F.n (c7 (aN w.2.2.2.2 (aj ((aj ((w.2.2.2.2.length:Int)-1))-qM.1.1)) dP.aF).1 Fb.1 0 OA.2.1.1 OA.2.1.2.1 OA.2.1.2.2 w.1.1 w.1.2 w.2.1 w.2.2.1 w.2.2.2.1 w.2.2.2.2 0 0 al 0 al 0 al 0 al 0 0 0 0 0 ([]++w.2.1) [] [] [])) (dw F (ff F) F.n (c7 (aN w.2.2.2.2 (aj ((aj ((w.2.2.2.2.length:Int)-1))-qM.1.1)) dP.aF).1 (aN w.2.2.2.2 (aj ((aj ((w.2.2.2.2.length:Int)-1))-qM.1.1)) dP.aF).2.1 0 OA.2.1.1 OA.2.1.2.1 OA.2.1.2.2 w.1.1 w.1.2 w.2.1 w.2.2.1 w.2.2.2.1 w.2.2.2.2 0 0 al 0 al 0 al 0 al 0 0 0 0 0 ([]++w.2.1) [] [] [])))) (dw F (ff F) F.n (c7 (aj (1+dC.1.1)) lK.1 0 dC.2.1.1 dC.2.1.2.1 dC.2.1.2.2 w.1.1 w.1.2 w.2.1 w.2.2.1 w.2.2.2.1 w.2.2.2.2 0 0 al 0 al 0 al 0 al 0 0 0 0 0 ([]++w.2.1) [] [] []))):=by kernel_rfl
def AZ:Any:=.two ⟨asO,0,.cur,xu,2,j3,fun x=>qi F0 x.1 x.2.1⟩
theorem VC:bo 114 AZ:=U6 l8 ⟨gq,yi,pN,Vy,Hs,VA,trivial⟩ func114 l9 (by kernel_rfl)
def HD: Option (Args gV):=bD aE F ab f116 [] gV 2 (())
theorem akf: HD F= some ((0,al,[]),()):=by kernel_rfl
def Pm:Any:=.one ⟨[],gV,2,fun x=>HD F0⟩
theorem akg:bo 116 Pm:=ay aE trivial func116 ab (by kernel_rfl)
def qj:=[(27,eR),(57,o5),(63,rb),(65,j8),(106,jI),(112,yW),(114,AZ),(115,gY),(116,Pm),(117,iW)]
def qk:Nat->Option Hint:=look [(17,{live:=[0,3,4,6,7,8,9],x7:=[(4,5,3,.int .i64),(4,8,3,.int .i64),(4,11,3,.int .i64)],xl:=[0,3,4,6,8],rl:=[4]})]
def bF (dk view k:Int)(aB:List Int)(au ar w w1:Int)(w2:List Int)(w3:List bu)(w4:List cG)(w5:List cl)(t4 t41:Int)(t42:ByteArray)(t43:Int)(t44:ByteArray)(t45:Int)(t46:ByteArray)(t47:Int)(t48:ByteArray)(t49 fU fV fW fX q:Int)(q1:ByteArray)(xs aK aV bm:List Int):St:={nt:=115,tm:=[(0,.v (.c (.ptr 4000000 0))),cL 3,cL 4,cL 6,(7,bE dk),(8,bE view),(9,bE k)],bx:=[(4000000,[.ro true 5 (.int .u8) aB,aq au,aq ar]),(3,[aq w,aq w1,.ro false 3 (.int .i64) w2,.ro false 50 (c8) w3,.ro false 114 (fC) w4,.ro false 127 (dP) w5]),(4,[aq t4,aq t41,.str t42,aq t43,.str t44,.own 1000000 none,aq t45,.str t46,.own 1000001 none,aq t47,.str t48,.own 1000002 none,aq t49,aq fU,aq fV,aq fW,aq fX]),(6,[aq q,.str q1,.own 1000003 none])],bl:=[aA 1000000 3 (.int .i64) xs,aA 1000001 3 (.int .i64) aK,aA 1000002 3 (.int .i64) aV,aA 1000003 3 (.int .i64) bm],sp:=.v (.c (.ptr 4000000 0))}
def ix (view:Int)(aB:List Int)(au ar w w1:Int)(w2:List Int)(w3:List bu)(w4:List cG)(w5:List cl)(t4 t41:Int)(t42:ByteArray)(t43:Int)(t44:ByteArray)(t45:Int)(t46:ByteArray)(t47:Int)(t48:ByteArray)(t49 fU fV fW fX q:Int)(q1:ByteArray)(xs aK aV bm:List Int):St:={nt:=115,tm:=[(0,.v (.c (.ptr 4000000 0))),cL 3,cL 4,cL 6,(8,bE view)],bx:=[(4000000,[.ro true 5 (.int .u8) aB,aq au,aq ar]),(3,[aq w,aq w1,.ro false 3 (.int .i64) w2,.ro false 50 (c8) w3,.ro false 114 (fC) w4,.ro false 127 (dP) w5]),(4,[aq t4,aq t41,.str t42,aq t43,.str t44,.own 1000000 none,aq t45,.str t46,.own 1000001 none,aq t47,.str t48,.own 1000002 none,aq t49,aq fU,aq fV,aq fW,aq fX]),(6,[aq q,.str q1,.own 1000003 none])],bl:=[aA 1000000 3 (.int .i64) xs,aA 1000001 3 (.int .i64) aK,aA 1000002 3 (.int .i64) aV,aA 1000003 3 (.int .i64) bm],sp:=.v (.c (.ptr 4000000 0))}
def bV (st:St):Option α:=gA qj F qk [.r,.r,.r,.r,.r,.r,.r,.r,.l,.r,.b,.i] f64 κ n st
def bG:=axm qj F qk [.r,.r,.r,.r,.r,.r,.r,.r,.l,.r,.b] f64 .cur xu j3 2
theorem yY (dk view k:Int)(aB:List Int)(au ar w w1:Int)(w2:List Int)(w3:List bu)(w4:List cG)(w5:List cl)(t4 t41:Int)(t42:ByteArray)(t43:Int)(t44:ByteArray)(t45:Int)(t46:ByteArray)(t47:Int)(t48:ByteArray)(t49 fU fV fW fX q:Int)(q1:ByteArray)(xs aK aV bm:List Int):bV F κ (n+1) (bF dk view k aB au ar w w1 w2 w3 w4 w5 t4 t41 t42 t43 t44 t45 t46 t47 t48 t49 fU fV fW fX q q1 xs aK aV bm)=br (decide (k<7)) (br (decide (view<60)) ((mL F0 (w,w1) view).bind fun r94=>br (r94.1 != dk) (bV F κ n (bF dk (aj (view+1)) (aj (k+1)) aB au ar w w1 w2 w3 w4 w5 t4 t41 t42 t43 t44 t45 t46 t47 t48 t49 fU fV fW fX q q1 xs aK aV bm)) (κ (.exit 1) (ix view aB au ar w w1 w2 w3 w4 w5 t4 t41 t42 t43 t44 t45 t46 t47 t48 t49 fU fV fW fX q q1 xs aK aV bm))) (κ (.exit 1) (ix view aB au ar w w1 w2 w3 w4 w5 t4 t41 t42 t43 t44 t45 t46 t47 t48 t49 fU fV fW fX q q1 xs aK aV bm))) (κ (.exit 1) (ix view aB au ar w w1 w2 w3 w4 w5 t4 t41 t42 t43 t44 t45 t46 t47 t48 t49 fU fV fW fX q q1 xs aK aV bm)):=by kernel_rfl
theorem Ub (view:Int)(aB:List Int)(au ar w w1:Int)(w2:List Int)(w3:List bu)(w4:List cG)(w5:List cl)(t4 t41:Int)(t42:ByteArray)(t43:Int)(t44:ByteArray)(t45:Int)(t46:ByteArray)(t47:Int)(t48:ByteArray)(t49 fU fV fW fX q:Int)(q1:ByteArray)(xs aK aV bm:List Int):bG F (.exit 1) (ix view aB au ar w w1 w2 w3 w4 w5 t4 t41 t42 t43 t44 t45 t46 t47 t48 t49 fU fV fW fX q q1 xs aK aV bm)=(mO F0 (aB,au,ar)).bind fun aMw=>(pM F0 (w,w1) (q,q1,bm) view [aMw.1.1]).bind fun ani=>some (((1,0,ani.1,(0,al,[]),(0,al,[]),0,0,0,0,0),()),aMw.2.1,()):=by kernel_rfl
def iX (c:D2)(w:oV):=Ei qj F qk f64 asO 0 .cur xu j3 2 (c,w,())
theorem aba (c:D2)(w:oV):iX F c w=(qi F0 c w).bind fun lK=>(kF F0 w.1 lK.1.1.2.2.2.1).bind fun Vc=>br (!Vc.1) ((HD F0).bind fun En=>br (decide ((w.2.2.1.length:Int)>0)) ((nO F0 lK.2.1 2).bind fun Hr=>br Hr.1.1 ((ax F0 Hr.2.1 (w.2.2.1.length:Int)).bind fun r45=>ck (cc r45.1.1 (w.2.2.1.length:Int)) ((jH F0 (aN w.2.2.1 r45.1.1 c8.aF).2.2.2.1.2.2.1).bind fun Fb=>br (decide ((w.2.1.length:Int)>0)) ((ax F0 r45.2.1 (w.2.1.length:Int)).bind fun IS=>ck (cc IS.1.1 (w.2.1.length:Int)) ((ax F0 IS.2.1 4).bind fun eV=>br (eV.1.1==0) (some ((lK.1.1,()),eV.2.1,())) (br (eV.1.1==1) ((ax F0 eV.2.1 2).bind fun LW=>(bU F0 (aj ((aj (Fb.1.1+1))+LW.1.1)) 60).bind fun r77=>some (((3,r77.1,(al,0,al,[]),(0,al,[]),Fb.1,aN w.2.1 IS.1.1 0,0,0,0,0),()),LW.2.1,())) (bV F (bG F) F.n (bF (aN w.2.1 IS.1.1 0) (aj (Fb.1.1+1)) 0 eV.2.1.1 eV.2.1.2.1 eV.2.1.2.2 w.1.1 w.1.2 w.2.1 w.2.2.1 w.2.2.2.1 w.2.2.2.2 0 0 al 0 al 0 al 0 al 0 0 0 0 0 Fb.1.1 Fb.1.2.1 [] [] [] Fb.1.2.2))))) ((ax F0 r45.2.1 4).bind fun eV=>br (eV.1.1==0) (some ((lK.1.1,()),eV.2.1,())) (br (eV.1.1==1) ((ax F0 eV.2.1 2).bind fun LW=>(bU F0 (aj ((aj (Fb.1.1+1))+LW.1.1)) 60).bind fun r77=>some (((3,r77.1,(al,0,al,[]),(0,al,[]),Fb.1,0,0,0,0,0),()),LW.2.1,())) (bV F (bG F) F.n (bF 0 (aj (Fb.1.1+1)) 0 eV.2.1.1 eV.2.1.2.1 eV.2.1.2.2 w.1.1 w.1.2 w.2.1 w.2.2.1 w.2.2.2.1 w.2.2.2.2 0 0 al 0 al 0 al 0 al 0 0 0 0 0 Fb.1.1 Fb.1.2.1 [] [] [] Fb.1.2.2)))))) (br (decide ((w.2.1.length:Int)>0)) ((ax F0 Hr.2.1 (w.2.1.length:Int)).bind fun IS=>ck (cc IS.1.1 (w.2.1.length:Int)) ((ax F0 IS.2.1 4).bind fun eV=>br (eV.1.1==0) (some ((lK.1.1,()),eV.2.1,())) (br (eV.1.1==1) ((ax F0 eV.2.1 2).bind fun LW=>(bU F0 (aj ((aj (En.1.1+1))+LW.1.1)) 60).bind fun r77=>some (((3,r77.1,(al,0,al,[]),(0,al,[]),En.1,aN w.2.1 IS.1.1 0,0,0,0,0),()),LW.2.1,())) (bV F (bG F) F.n (bF (aN w.2.1 IS.1.1 0) (aj (En.1.1+1)) 0 eV.2.1.1 eV.2.1.2.1 eV.2.1.2.2 w.1.1 w.1.2 w.2.1 w.2.2.1 w.2.2.2.1 w.2.2.2.2 0 0 al 0 al 0 al 0 al 0 0 0 0 0 En.1.1 En.1.2.1 [] [] [] En.1.2.2))))) ((ax F0 Hr.2.1 4).bind fun eV=>br (eV.1.1==0) (some ((lK.1.1,()),eV.2.1,())) (br (eV.1.1==1) ((ax F0 eV.2.1 2).bind fun LW=>(bU F0 (aj ((aj (En.1.1+1))+LW.1.1)) 60).bind fun r77=>some (((3,r77.1,(al,0,al,[]),(0,al,[]),En.1,0,0,0,0,0),()),LW.2.1,())) (bV F (bG F) F.n (bF 0 (aj (En.1.1+1)) 0 eV.2.1.1 eV.2.1.2.1 eV.2.1.2.2 w.1.1 w.1.2 w.2.1 w.2.2.1 w.2.2.2.1 w.2.2.2.2 0 0 al 0 al 0 al 0 al 0 0 0 0 0 En.1.1 En.1.2.1 [] [] [] En.1.2.2)))))) (br (decide ((w.2.1.length:Int)>0)) ((ax F0 lK.2.1 (w.2.1.length:Int)).bind fun IS=>ck (cc IS.1.1 (w.2.1.length:Int)) ((ax F0 IS.2.1 4).bind fun eV=>br (eV.1.1==0) (some ((lK.1.1,()),eV.2.1,())) (br (eV.1.1==1) ((ax F0 eV.2.1 2).bind fun LW=>(bU F0 (aj ((aj (En.1.1+1))+LW.1.1)) 60).bind fun r77=>some (((3,r77.1,(al,0,al,[]),(0,al,[]),En.1,aN w.2.1 IS.1.1 0,0,0,0,0),()),LW.2.1,())) (bV F (bG F) F.n (bF (aN w.2.1 IS.1.1 0) (aj (En.1.1+1)) 0 eV.2.1.1 eV.2.1.2.1 eV.2.1.2.2 w.1.1 w.1.2 w.2.1 w.2.2.1 w.2.2.2.1 w.2.2.2.2 0 0 al 0 al 0 al 0 al 0 0 0 0 0 En.1.1 En.1.2.1 [] [] [] En.1.2.2))))) ((ax F0 lK.2.1 4).bind fun eV=>br (eV.1.1==0) (some ((lK.1.1,()),eV.2.1,())) (br (eV.1.1==1) ((ax F0 eV.2.1 2).bind fun LW=>(bU F0 (aj ((aj (En.1.1+1))+LW.1.1)) 60).bind fun r77=>some (((3,r77.1,(al,0,al,[]),(0,al,[]),En.1,0,0,0,0,0),()),LW.2.1,())) (bV F (bG F) F.n (bF 0 (aj (En.1.1+1)) 0 eV.2.1.1 eV.2.1.2.1 eV.2.1.2.2 w.1.1 w.1.2 w.2.1 w.2.2.1 w.2.2.2.1 w.2.2.2.2 0 0 al 0 al 0 al 0 al 0 0 0 0 0 En.1.1 En.1.2.1 [] [] [] En.1.2.2)))))) (br (decide ((w.2.1.length:Int)>0)) ((ax F0 lK.2.1 (w.2.1.length:Int)).bind fun IS=>ck (cc IS.1.1 (w.2.1.length:Int)) ((ax F0 IS.2.1 4).bind fun eV=>br (eV.1.1==0) (some ((lK.1.1,()),eV.2.1,())) (br (eV.1.1==1) ((ax F0 eV.2.1 2).bind fun LW=>(bU F0 (aj ((aj (lK.1.1.2.2.2.1.1+1))+LW.1.1)) 60).bind fun r77=>some (((3,r77.1,(al,0,al,[]),(0,al,[]),lK.1.1.2.2.2.1,aN w.2.1 IS.1.1 0,0,0,0,0),()),LW.2.1,())) (bV F (bG F) F.n (bF (aN w.2.1 IS.1.1 0) (aj (lK.1.1.2.2.2.1.1+1)) 0 eV.2.1.1 eV.2.1.2.1 eV.2.1.2.2 w.1.1 w.1.2 w.2.1 w.2.2.1 w.2.2.2.1 w.2.2.2.2 0 0 al 0 al 0 al 0 al 0 0 0 0 0 lK.1.1.2.2.2.1.1 lK.1.1.2.2.2.1.2.1 [] [] [] lK.1.1.2.2.2.1.2.2))))) ((ax F0 lK.2.1 4).bind fun eV=>br (eV.1.1==0) (some ((lK.1.1,()),eV.2.1,())) (br (eV.1.1==1) ((ax F0 eV.2.1 2).bind fun LW=>(bU F0 (aj ((aj (lK.1.1.2.2.2.1.1+1))+LW.1.1)) 60).bind fun r77=>some (((3,r77.1,(al,0,al,[]),(0,al,[]),lK.1.1.2.2.2.1,0,0,0,0,0),()),LW.2.1,())) (bV F (bG F) F.n (bF 0 (aj (lK.1.1.2.2.2.1.1+1)) 0 eV.2.1.1 eV.2.1.2.1 eV.2.1.2.2 w.1.1 w.1.2 w.2.1 w.2.2.1 w.2.2.2.1 w.2.2.2.2 0 0 al 0 al 0 al 0 al 0 0 0 0 0 lK.1.1.2.2.2.1.1 lK.1.1.2.2.2.1.2.1 [] [] [] lK.1.1.2.2.2.1.2.2))))):=by kernel_rfl
def Gp:Any:=.two ⟨asO,0,.cur,xu,2,j3,fun x=>iX F0 x.1 x.2.1⟩
theorem abb:bo 64 Gp:=U6 qj ⟨gq,yi,Gn,pN,oa,Pj,VC,kW,akg,mG,trivial⟩ func64 qk (by kernel_rfl)
def gI:=[(27,eR),(56,n5),(57,o5),(60,iu),(61,Rj),(62,dz),(63,rb),(64,Gp),(65,j8)]
def gJ:Nat->Option Hint:=look [(8,{live:=[3,4,5,6,7],x7:=[(4,8,3,.int .i64),(4,11,3,.int .i64),(4,14,3,.int .i64)],xl:=[4,6],rl:=[4]}),(19,{live:=[0,3,4,5,6,10],x7:=[(4,8,3,.int .i64),(4,11,3,.int .i64),(4,14,3,.int .i64)],xl:=[0,3,4,6],rl:=[4]})]
def dG (n1 a k:Int)(aB:List Int)(au ar w w1:Int)(w2:List Int)(w3:List bu)(w4:List cG)(w5:List cl)(t4 t41 t42 t43 t44:Int)(t45:ByteArray)(t46:Int)(t47:ByteArray)(t48:Int)(t49:ByteArray)(fU:Int)(fV:ByteArray)(fW fX xP xQ xR:Int)(xs aK aV:List Int):St:={nt:=152,tm:=[(0,.v (.c (.ptr 4000000 0))),cL 3,cL 4,(5,bE n1),(6,bE a),(10,bE k)],bx:=[(4000000,[.ro true 5 (.int .u8) aB,aq au,aq ar]),(3,[aq w,aq w1,.ro false 3 (.int .i64) w2,.ro false 50 (c8) w3,.ro false 114 (fC) w4,.ro false 127 (dP) w5]),(4,[aq t4,aq t41,aq t42,aq t43,aq t44,.str t45,aq t46,.str t47,.own 1000000 none,aq t48,.str t49,.own 1000001 none,aq fU,.str fV,.own 1000002 none,aq fW,aq fX,aq xP,aq xQ,aq xR])],bl:=[aA 1000000 3 (.int .i64) xs,aA 1000001 3 (.int .i64) aK,aA 1000002 3 (.int .i64) aV],sp:=.v (.c (.ptr 4000000 0))}
def Ew (aB:List Int)(au ar t4 t41 t42 t43 t44:Int)(t45:ByteArray)(t46:Int)(t47:ByteArray)(t48:Int)(t49:ByteArray)(fU:Int)(fV:ByteArray)(fW fX xP xQ xR:Int):St:={nt:=152,tm:=[cL 4],bx:=[(4000000,[.ro true 5 (.int .u8) aB,aq au,aq ar]),(4,[aq t4,aq t41,aq t42,aq t43,aq t44,.str t45,aq t46,.str t47,.nil,aq t48,.str t49,.nil,aq fU,.str fV,.nil,aq fW,aq fX,aq xP,aq xQ,aq xR])],bl:=[],sp:=.v (.c (.ptr 4000000 0))}
def A0 (a:Int)(aB:List Int)(au ar w w1:Int)(w2:List Int)(w3:List bu)(w4:List cG)(w5:List cl)(t4 t41 t42 t43 t44:Int)(t45:ByteArray)(t46:Int)(t47:ByteArray)(t48:Int)(t49:ByteArray)(fU:Int)(fV:ByteArray)(fW fX xP xQ xR:Int)(xs aK aV:List Int):St:={nt:=152,tm:=[(0,.v (.c (.ptr 4000000 0))),cL 3,cL 4,(6,bE a)],bx:=[(4000000,[.ro true 5 (.int .u8) aB,aq au,aq ar]),(3,[aq w,aq w1,.ro false 3 (.int .i64) w2,.ro false 50 (c8) w3,.ro false 114 (fC) w4,.ro false 127 (dP) w5]),(4,[aq t4,aq t41,aq t42,aq t43,aq t44,.str t45,aq t46,.str t47,.own 1000000 none,aq t48,.str t49,.own 1000001 none,aq fU,.str fV,.own 1000002 none,aq fW,aq fX,aq xP,aq xQ,aq xR])],bl:=[aA 1000000 3 (.int .i64) xs,aA 1000001 3 (.int .i64) aK,aA 1000002 3 (.int .i64) aV],sp:=.v (.c (.ptr 4000000 0))}
def eB (st:St):Option α:=gA gI F gJ [.r,.r,.r,.l,.r,.b,.r,.e,.r,.t,.r,.b,.i] f29 κ n st
def dH:=axm gI F gJ [.r,.r,.r,.l,.r,.b,.r,.e,.r,.t,.r,.b] f29 .cur [(K45,true)] j3 2
def dI (n1 a k:Int)(aB:List Int)(au ar w w1:Int)(w2:List Int)(w3:List bu)(w4:List cG)(w5:List cl)(t4 t41 t42 t43 t44:Int)(t45:ByteArray)(t46:Int)(t47:ByteArray)(t48:Int)(t49:ByteArray)(fU:Int)(fV:ByteArray)(fW fX xP xQ xR:Int)(xs aK aV:List Int):St:={nt:=152,tm:=[cL 3,cL 4,(5,bE n1),(6,bE a),(7,bE k)],bx:=[(4000000,[.ro true 5 (.int .u8) aB,aq au,aq ar]),(3,[aq w,aq w1,.ro false 3 (.int .i64) w2,.ro false 50 (c8) w3,.ro false 114 (fC) w4,.ro false 127 (dP) w5]),(4,[aq t4,aq t41,aq t42,aq t43,aq t44,.str t45,aq t46,.str t47,.own 1000000 none,aq t48,.str t49,.own 1000001 none,aq fU,.str fV,.own 1000002 none,aq fW,aq fX,aq xP,aq xQ,aq xR])],bl:=[aA 1000000 3 (.int .i64) xs,aA 1000001 3 (.int .i64) aK,aA 1000002 3 (.int .i64) aV],sp:=.v (.c (.ptr 4000000 0))}
def Ey (aB:List Int)(au ar t4 t41 t42 t43 t44:Int)(t45:ByteArray)(t46:Int)(t47:ByteArray)(t48:Int)(t49:ByteArray)(fU:Int)(fV:ByteArray)(fW fX xP xQ xR:Int):St:={nt:=152,tm:=[cL 4],bx:=[(4000000,[.ro true 5 (.int .u8) aB,aq au,aq ar]),(4,[aq t4,aq t41,aq t42,aq t43,aq t44,.str t45,aq t46,.str t47,.nil,aq t48,.str t49,.nil,aq fU,.str fV,.nil,aq fW,aq fX,aq xP,aq xQ,aq xR])],bl:=[],sp:=.v (.c (.ptr 4000000 0))}
def A2 (a:Int)(aB:List Int)(au ar t4 t41 t42 t43 t44:Int)(t45:ByteArray)(t46:Int)(t47:ByteArray)(t48:Int)(t49:ByteArray)(fU:Int)(fV:ByteArray)(fW fX xP xQ xR:Int)(xs aK aV:List Int):St:={nt:=152,tm:=[cL 4,(6,bE a)],bx:=[(4000000,[.ro true 5 (.int .u8) aB,aq au,aq ar]),(4,[aq t4,aq t41,aq t42,aq t43,aq t44,.str t45,aq t46,.str t47,.own 1000000 none,aq t48,.str t49,.own 1000001 none,aq fU,.str fV,.own 1000002 none,aq fW,aq fX,aq xP,aq xQ,aq xR])],bl:=[aA 1000000 3 (.int .i64) xs,aA 1000001 3 (.int .i64) aK,aA 1000002 3 (.int .i64) aV],sp:=.v (.c (.ptr 4000000 0))}
def eC (st:St):Option α:=gA gI F gJ [.r,.r,.r,.l,.r,.b,.r,.t,.l,.r,.b,.i] f29 κ n st
def eD:=axm gI F gJ [.r,.r,.r,.l,.r,.b,.r,.t,.l,.r,.b] f29 .cur [(K45,true)] j3 2
theorem xz (n1 a k:Int)(aB:List Int)(au ar w w1:Int)(w2:List Int)(w3:List bu)(w4:List cG)(w5:List cl)(t4 t41 t42 t43 t44:Int)(t45:ByteArray)(t46:Int)(t47:ByteArray)(t48:Int)(t49:ByteArray)(fU:Int)(fV:ByteArray)(fW fX xP xQ xR:Int)(xs aK aV:List Int):eB F κ (n+1) (dG n1 a k aB au ar w w1 w2 w3 w4 w5 t4 t41 t42 t43 t44 t45 t46 t47 t48 t49 fU fV fW fX xP xQ xR xs aK aV)=br (decide (k<n1)) (ck (!(n1==0)) (ck (cc (Int.tmod (aj (a+k)) n1) (w3.length:Int)) (br (decide (((aN w3 (Int.tmod (aj (a+k)) n1) c8.aF).2.2.2.2.2.2.2.length:Int)>0)) (ck (!(n1==0)) (κ .ret (Ew aB au ar 2 (Int.tmod (aj (a+k)) n1) 0 0 0 al 0 al 0 al 0 al 0 0 0 0 0))) (eB F κ n (dG n1 a (aj (k+1)) aB au ar w w1 w2 w3 w4 w5 t4 t41 t42 t43 t44 t45 t46 t47 t48 t49 fU fV fW fX xP xQ xR xs aK aV))))) (κ (.exit 3) (A0 a aB au ar w w1 w2 w3 w4 w5 t4 t41 t42 t43 t44 t45 t46 t47 t48 t49 fU fV fW fX xP xQ xR xs aK aV)):=by kernel_rfl
theorem xA (n1 a k:Int)(aB:List Int)(au ar w w1:Int)(w2:List Int)(w3:List bu)(w4:List cG)(w5:List cl)(t4 t41 t42 t43 t44:Int)(t45:ByteArray)(t46:Int)(t47:ByteArray)(t48:Int)(t49:ByteArray)(fU:Int)(fV:ByteArray)(fW fX xP xQ xR:Int)(xs aK aV:List Int):eC F κ (n+1) (dI n1 a k aB au ar w w1 w2 w3 w4 w5 t4 t41 t42 t43 t44 t45 t46 t47 t48 t49 fU fV fW fX xP xQ xR xs aK aV)=br (decide (k<n1)) (ck (!(n1==0)) (ck (cc (Int.tmod (aj (a+k)) n1) (w3.length:Int)) ((Vz F0 (w,w1) (aN w3 (Int.tmod (aj (a+k)) n1) c8.aF)).bind fun r41=>br r41.2.1 (ck (!(n1==0)) ((dE F0 w2 (Int.tmod (aj (a+k)) n1)).bind fun Y8=>br (!Y8.1) (ck (!(n1==0)) (κ .ret (Ey aB au ar 1 (Int.tmod (aj (a+k)) n1) 0 0 0 al 0 al 0 al 0 al 0 0 0 0 0))) (eC F κ n (dI n1 a (aj (k+1)) aB au ar w w1 w2 w3 w4 w5 t4 t41 t42 t43 t44 t45 t46 t47 t48 t49 fU fV fW fX xP xQ xR xs aK aV)))) (eC F κ n (dI n1 a (aj (k+1)) aB au ar w w1 w2 w3 w4 w5 t4 t41 t42 t43 t44 t45 t46 t47 t48 t49 fU fV fW fX xP xQ xR xs aK aV))))) (κ (.exit 1) (A2 a aB au ar t4 t41 t42 t43 t44 t45 t46 t47 t48 t49 fU fV fW fX xP xQ xR xs aK aV)):=by kernel_rfl
theorem Uc (aB:List Int)(au ar t4 t41 t42 t43 t44:Int)(t45:ByteArray)(t46:Int)(t47:ByteArray)(t48:Int)(t49:ByteArray)(fU:Int)(fV:ByteArray)(fW fX xP xQ xR:Int):dH F .ret (Ew aB au ar t4 t41 t42 t43 t44 t45 t46 t47 t48 t49 fU fV fW fX xP xQ xR)=some (((t4,t41,t42,t43,t44,(t45,t46,t47,[]),(t48,t49,[]),(fU,fV,[]),fW,fX,xP,xQ,xR),()),(aB,au,ar),()):=by kernel_rfl
theorem Rk (a:Int)(aB:List Int)(au ar w w1:Int)(w2:List Int)(w3:List bu)(w4:List cG)(w5:List cl)(t4 t41 t42 t43 t44:Int)(t45:ByteArray)(t46:Int)(t47:ByteArray)(t48:Int)(t49:ByteArray)(fU:Int)(fV:ByteArray)(fW fX xP xQ xR:Int)(xs aK aV:List Int):dH F (.exit 3) (A0 a aB au ar w w1 w2 w3 w4 w5 t4 t41 t42 t43 t44 t45 t46 t47 t48 t49 fU fV fW fX xP xQ xR xs aK aV)=br ((w4.length:Int)==0) (some (((2,a,0,0,0,(al,0,al,[]),(0,al,[]),(0,al,[]),0,0,0,0,0),()),(aB,au,ar),())) ((bU F0 (w4.length:Int) 4).bind fun af6=>(ax F0 (aB,au,ar) af6.1).bind fun Pn=>some (((3,Pn.1.1,0,0,0,(al,0,al,[]),(0,al,[]),(0,al,[]),0,0,0,0,0),()),Pn.2.1,())):=by kernel_rfl
theorem Ud (aB:List Int)(au ar t4 t41 t42 t43 t44:Int)(t45:ByteArray)(t46:Int)(t47:ByteArray)(t48:Int)(t49:ByteArray)(fU:Int)(fV:ByteArray)(fW fX xP xQ xR:Int):eD F .ret (Ey aB au ar t4 t41 t42 t43 t44 t45 t46 t47 t48 t49 fU fV fW fX xP xQ xR)=some (((t4,t41,t42,t43,t44,(t45,t46,t47,[]),(t48,t49,[]),(fU,fV,[]),fW,fX,xP,xQ,xR),()),(aB,au,ar),()):=by kernel_rfl
theorem Rl (a:Int)(aB:List Int)(au ar t4 t41 t42 t43 t44:Int)(t45:ByteArray)(t46:Int)(t47:ByteArray)(t48:Int)(t49:ByteArray)(fU:Int)(fV:ByteArray)(fW fX xP xQ xR:Int)(xs aK aV:List Int):eD F (.exit 1) (A2 a aB au ar t4 t41 t42 t43 t44 t45 t46 t47 t48 t49 fU fV fW fX xP xQ xR xs aK aV)=some (((7,a,0,0,0,(al,0,al,[]),(0,al,[]),(0,al,[]),0,0,0,0,0),()),(aB,au,ar),()):=by kernel_rfl
def su (c:D2)(w:oV):=Ei gI F gJ f29 asO 0 .cur [(K45,true)] j3 2 (c,w,())
theorem Yp (c:D2)(w:oV):su F c w=(ez F0 (w.2.2.1.length:Int) 1).bind fun nL=>(ax F0 c nL.1).bind fun fv=>(ax F0 fv.2.1 20).bind fun dL=>br (dL.1.1==0) (eC F (eD F) F.n (dI (w.2.2.1.length:Int) fv.1.1 0 dL.2.1.1 dL.2.1.2.1 dL.2.1.2.2 w.1.1 w.1.2 w.2.1 w.2.2.1 w.2.2.2.1 w.2.2.2.2 0 0 0 0 0 al 0 al 0 al 0 al 0 0 0 0 0 [] [] [])) (br (dL.1.1==1) (eC F (eD F) F.n (dI (w.2.2.1.length:Int) fv.1.1 0 dL.2.1.1 dL.2.1.2.1 dL.2.1.2.2 w.1.1 w.1.2 w.2.1 w.2.2.1 w.2.2.2.1 w.2.2.2.2 0 0 0 0 0 al 0 al 0 al 0 al 0 0 0 0 0 [] [] [])) (br (dL.1.1==2) (eC F (eD F) F.n (dI (w.2.2.1.length:Int) fv.1.1 0 dL.2.1.1 dL.2.1.2.1 dL.2.1.2.2 w.1.1 w.1.2 w.2.1 w.2.2.1 w.2.2.2.1 w.2.2.2.2 0 0 0 0 0 al 0 al 0 al 0 al 0 0 0 0 0 [] [] [])) (br (dL.1.1==3) (eB F (dH F) F.n (dG (w.2.2.1.length:Int) fv.1.1 0 dL.2.1.1 dL.2.1.2.1 dL.2.1.2.2 w.1.1 w.1.2 w.2.1 w.2.2.1 w.2.2.2.1 w.2.2.2.2 0 0 0 0 0 al 0 al 0 al 0 al 0 0 0 0 0 [] [] [])) (br (dL.1.1==4) (eB F (dH F) F.n (dG (w.2.2.1.length:Int) fv.1.1 0 dL.2.1.1 dL.2.1.2.1 dL.2.1.2.2 w.1.1 w.1.2 w.2.1 w.2.2.1 w.2.2.2.1 w.2.2.2.2 0 0 0 0 0 al 0 al 0 al 0 al 0 0 0 0 0 [] [] [])) (br (dL.1.1==5) (eB F (dH F) F.n (dG (w.2.2.1.length:Int) fv.1.1 0 dL.2.1.1 dL.2.1.2.1 dL.2.1.2.2 w.1.1 w.1.2 w.2.1 w.2.2.1 w.2.2.2.1 w.2.2.2.2 0 0 0 0 0 al 0 al 0 al 0 al 0 0 0 0 0 [] [] [])) (br (dL.1.1==6) (eB F (dH F) F.n (dG (w.2.2.1.length:Int) fv.1.1 0 dL.2.1.1 dL.2.1.2.1 dL.2.1.2.2 w.1.1 w.1.2 w.2.1 w.2.2.1 w.2.2.2.1 w.2.2.2.2 0 0 0 0 0 al 0 al 0 al 0 al 0 0 0 0 0 [] [] [])) (br (dL.1.1==7) (some (((6,fv.1.1,0,0,0,(al,0,al,[]),(0,al,[]),(0,al,[]),0,0,0,0,0),()),dL.2.1,())) (br (dL.1.1==8) (some (((7,fv.1.1,0,0,0,(al,0,al,[]),(0,al,[]),(0,al,[]),0,0,0,0,0),()),dL.2.1,())) (br (dL.1.1==9) ((nO F0 dL.2.1 2).bind fun aKu=>br aKu.1.1 ((j4 F0 aKu.2.1 [0,0,5,40,9999]).bind fun aMx=>some (((8,fv.1.1,aMx.1.1,0,0,(al,0,al,[]),(0,al,[]),(0,al,[]),0,0,0,0,0),()),aMx.2.1,())) ((ax F0 aKu.2.1 2).bind fun ani=>(ez F0 (w.2.2.2.1.length:Int) 1).bind fun aOD=>(ax F0 ani.2.1 aOD.1).bind fun aMy=>some (((aj (4+ani.1.1),aMy.1.1,0,0,0,(al,0,al,[]),(0,al,[]),(0,al,[]),0,0,0,0,0),()),aMy.2.1,()))) (br (dL.1.1==10) ((mO F0 dL.2.1).bind fun aMz=>some (((9,fv.1.1,0,4,0,(al,0,al,[]),(0,al,[]),(0,al,[]),0,aMz.1.1),()),aMz.2.1,())) (br (dL.1.1==11) (br (decide ((w.2.1.length:Int)>0)) ((iX F0 dL.2.1 w).bind fun anz=>some (((10,fv.1.1,0,anz.1.1),()),anz.2.1,())) (br ((w.2.2.2.1.length:Int)==0) (some (((2,fv.1.1,0,0,0,(al,0,al,[]),(0,al,[]),(0,al,[]),0,0,0,0,0),()),dL.2.1,())) ((bU F0 (w.2.2.2.1.length:Int) 4).bind fun af6=>(ax F0 dL.2.1 af6.1).bind fun Pn=>some (((3,Pn.1.1,0,0,0,(al,0,al,[]),(0,al,[]),(0,al,[]),0,0,0,0,0),()),Pn.2.1,())))) (br (dL.1.1==12) (br (decide ((w.2.1.length:Int)>0)) ((iX F0 dL.2.1 w).bind fun anz=>some (((10,fv.1.1,0,anz.1.1),()),anz.2.1,())) (br ((w.2.2.2.1.length:Int)==0) (some (((2,fv.1.1,0,0,0,(al,0,al,[]),(0,al,[]),(0,al,[]),0,0,0,0,0),()),dL.2.1,())) ((bU F0 (w.2.2.2.1.length:Int) 4).bind fun af6=>(ax F0 dL.2.1 af6.1).bind fun Pn=>some (((3,Pn.1.1,0,0,0,(al,0,al,[]),(0,al,[]),(0,al,[]),0,0,0,0,0),()),Pn.2.1,())))) (br (dL.1.1==13) (br (decide ((w.2.1.length:Int)>0)) ((iX F0 dL.2.1 w).bind fun anz=>some (((10,fv.1.1,0,anz.1.1),()),anz.2.1,())) (br ((w.2.2.2.1.length:Int)==0) (some (((2,fv.1.1,0,0,0,(al,0,al,[]),(0,al,[]),(0,al,[]),0,0,0,0,0),()),dL.2.1,())) ((bU F0 (w.2.2.2.1.length:Int) 4).bind fun af6=>(ax F0 dL.2.1 af6.1).bind fun Pn=>some (((3,Pn.1.1,0,0,0,(al,0,al,[]),(0,al,[]),(0,al,[]),0,0,0,0,0),()),Pn.2.1,())))) (br ((w.2.2.2.1.length:Int)==0) (some (((2,fv.1.1,0,0,0,(al,0,al,[]),(0,al,[]),(0,al,[]),0,0,0,0,0),()),dL.2.1,())) ((bU F0 (w.2.2.2.1.length:Int) 4).bind fun af6=>(ax F0 dL.2.1 af6.1).bind fun Pn=>some (((3,Pn.1.1,0,0,0,(al,0,al,[]),(0,al,[]),(0,al,[]),0,0,0,0,0),()),Pn.2.1,())))))))))))))))):=by kernel_rfl
def Ez:Any:=.two ⟨asO,0,.cur,[(K45,true)],2,j3,fun x=>su F0 x.1 x.2.1⟩
theorem Yq:bo 29 Ez:=U6 gI ⟨gq,yh,yi,lO,aiC,eA,Gn,abb,pN,trivial⟩ func29 gJ (by kernel_rfl)
def VD:=[(117,iW)]
def HE (a b:D9):=bD VD F ab f317 xq gV 2 (a,b,())
theorem akh (a b:D9):HE F a b=br (decide (a.1>b.1)) ((jH F0 a).bind fun dC=>some (dC.1,())) ((jH F0 b).bind fun cg=>some (cg.1,())):=by kernel_rfl
def Po:Any:=.one ⟨xq,gV,2,fun x=>HE F0 x.1 x.2.1⟩
theorem aki:bo 317 Po:=ay VD ⟨mG,trivial⟩ func317 ab (by kernel_rfl)
def VE:=[(132,qU),(170,uo)]
abbrev aCz:List (Ty×Bool):=[(.str,false),(.bool,false)]
def HF (name:ByteArray):=bD VE F ab f318 en aCz 1 (name,())
theorem akj (name:ByteArray):HF F name=(qT F0 name).bind fun r9=>br (!r9.2.1) (some (al,false,())) (br (decide ((r9.1.length:Int)<3)) (some (al,false,())) (ck (cc (aj ((r9.1.length:Int)-1)) (r9.1.length:Int)) (ck (cc (aj ((r9.1.length:Int)-2)) (r9.1.length:Int)) (br ((aN r9.1 (aj ((r9.1.length:Int)-1)) (0,[])).1 != (aj ((aN r9.1 (aj ((r9.1.length:Int)-2)) (0,[])).1+1))) (some (al,false,())) (ck (cc (aj ((r9.1.length:Int)-2)) (r9.1.length:Int)) (ck (cc (aj ((r9.1.length:Int)-3)) (r9.1.length:Int)) (br ((aN r9.1 (aj ((r9.1.length:Int)-2)) (0,[])).1 != (aj ((aN r9.1 (aj ((r9.1.length:Int)-3)) (0,[])).1+1))) (some (al,false,())) ((my F0 name).bind fun Y8=>(my F0 Y8.1).bind fun XA=>some (XA.1,true,()))))))))):=by kernel_rfl
def Pp:Any:=.one ⟨en,aCz,1,fun x=>HF F0 x.1⟩
theorem akk:bo 318 Pp:=ay VE ⟨CC,Hs,trivial⟩ func318 ab (by kernel_rfl)
def VF:=[(77,fx)]
abbrev Zu:List (Ty×Bool):=[(.str,false),(.str,false)]
def HG (s t:ByteArray):=bD VF F ab f319 Zu aZ 1 (s,t,())
theorem akl (s t:ByteArray):HG F s t=(fD F0 s).bind fun r6=>br (!r6.1) (some (false,())) ((fD F0 t).bind fun gZ=>br (!gZ.1) (some (false,())) (br (decide ((t.size:Int)>(s.size:Int))) (some (false,())) (ck (Si 0 (t.size:Int) (s.size:Int)) (br (!((s.extract (0:Int).toNat (t.size:Int).toNat).toList==t.toList)) (some (false,())) (br ((s.size:Int)==(t.size:Int)) (some (true,())) (ck (cc (t.size:Int) (s.size:Int)) (some ((lL s (t.size:Int))==47,())))))))):=by kernel_rfl
def Pq:Any:=.one ⟨Zu,aZ,1,fun x=>HG F0 x.1 x.2.1⟩
theorem akm:bo 319 Pq:=ay VF ⟨ir,trivial⟩ func319 ab (by kernel_rfl)
def anA:=[(60,iu),(78,dR),(102,mH),(115,gY),(123,iV),(170,uo),(317,Po),(318,Pp),(319,Pq)]
abbrev aCA:List (Ty×Bool):=[(K1,true),(K12,true),(K9,true)]
def Pr (c:D1)(s:Ua)(q:D9):=bD anA F ab f280 aCA AX 2 (c,s,q,())
theorem axv (c:D1)(s:Ua)(q:D9):Pr F c s q=(n9 F0 s).bind fun dC=>(jG F0 c s).bind fun lK=>br (!lK.1) (some (dC.1,())) ((kF F0 c q).bind fun dL=>br (!dL.1) (some (dC.1,())) ((HE F0 q s.2.2.1).bind fun uc=>(my F0 q.2.1).bind fun Ho=>(dZ F0 Ho.1).bind fun ud=>(ez F0 s.2.1 ud.1).bind fun qM=>(HF F0 q.2.1).bind fun LG=>br LG.2.1 ((HG F0 LG.1 s.2.2.2).bind fun pI=>br pI.1 (some ((dC.1.1,qM.1,uc.1,LG.1),())) (some ((dC.1.1,qM.1,uc.1,dC.1.2.2.2),()))) (some ((dC.1.1,qM.1,uc.1,dC.1.2.2.2),())))):=by kernel_rfl
def HH:Any:=.one ⟨aCA,AX,2,fun x=>Pr F0 x.1 x.2.1 x.2.2.1⟩
theorem VG:bo 280 HH:=ay anA ⟨lO,fj,ve,kW,mw,Hs,aki,akk,akm,trivial⟩ func280 ab (by kernel_rfl)
def VH:=[(78,dR),(123,iV),(169,mz)]
abbrev aiE:List (Ty×Bool):=[(K1,true),(K12,true),(K15,true)]
def yZ (c:D1)(s:Ua)(b:D15):=bD VH F ab f281 aiE aZ 1 (c,s,b,())
theorem akn (c:D1)(s:Ua)(b:D15):yZ F c s b=(jG F0 c s).bind fun r9=>br r9.1 ((n7 F0 c b).bind fun cg=>br cg.1 ((dZ F0 b.1).bind fun N7=>br (decide (N7.1>s.1)) (some (decide (b.2.1>=s.2.1),())) (some (false,()))) (some (false,()))) (some (false,())):=by kernel_rfl
def BK:Any:=.one ⟨aiE,aZ,1,fun x=>yZ F0 x.1 x.2.1 x.2.2.1⟩
theorem SM:bo 281 BK:=ay VH ⟨fj,mw,u2,trivial⟩ func281 ab (by kernel_rfl)
def aiF:=[(78,dR),(102,mH),(281,BK)]
abbrev aiG:List (Ty×Bool):=[(K12,true),(.bool,false)]
def Ps (c:D1)(s:Ua)(b:D15):=bD aiF F ab f282 aiE aiG 2 (c,s,b,())
theorem auP (c:D1)(s:Ua)(b:D15):Ps F c s b=(n9 F0 s).bind fun gZ=>(yZ F0 c s b).bind fun lK=>br (!lK.1) (some (gZ.1,false,())) ((dZ F0 b.1).bind fun dL=>some ((dL.1,gZ.1.2),true,())):=by kernel_rfl
def Zv:Any:=.one ⟨aiE,aiG,2,fun x=>Ps F0 x.1 x.2.1 x.2.2.1⟩
theorem auQ:bo 282 Zv:=ay aiF ⟨fj,ve,SM,trivial⟩ func282 ab (by kernel_rfl)
def SN:=[(293,u1)]
abbrev aCB:List (Ty×Bool):=[(K12,true),(K12,true)]
def CZ (a b:Ua):=bD SN F ab f320 aCB aZ 1 (a,b,())
theorem af7 (a b:Ua):CZ F a b=br (a.1==b.1) (br (a.2.1==b.2.1) ((xr F0 a.2.2.1 b.2.2.1).bind fun gB=>br gB.1 (some (a.2.2.2.toList==b.2.2.2.toList,())) (some (false,()))) (some (false,()))) (some (false,())):=by kernel_rfl
def L9:Any:=.one ⟨aCB,aZ,1,fun x=>CZ F0 x.1 x.2.1⟩
theorem af8:bo 320 L9:=ay SN ⟨Jx,trivial⟩ func320 ab (by kernel_rfl)
def C0:=[(72,cI)]
def C1:Nat->Option Hint:=look [(4,{live:=[0,3],xl:=[0,3],rl:=[2]})]
def vC (n1:Int)(xs:List Int):= dY 25 [(0,bE n1),(3,.v (.c (.own 1000000 none)))] [] [aA 1000000 5 (.int .u8) xs]
def Pt (n1:Int)(xs:List Int):= dY 25 [(0,bE n1),(3,.v (.c (.own 1000000 none)))] [] [aA 1000000 5 (.int .u8) xs]
def C2 (st:St):Option α:=gA C0 F C1 [.r,.r,.r,.l,.b,.i] f276 κ n st
def FB:=jq C0 F C1 [.r,.r,.r,.l,.b] f276 mu 2
theorem JT (n1:Int)(xs:List Int):C2 F κ (n+1) (vC n1 xs)=br (decide (n1>127)) (ck (fe F xs.length [IntKind.wrap .u8 (aj ((Int.tmod n1 128)+128))].length 1) (C2 F κ n (vC (aj (Int.tdiv n1 128)) (xs++[IntKind.wrap .u8 (aj ((Int.tmod n1 128)+128))])))) (κ (.exit 0) (Pt n1 xs)):=by kernel_rfl
theorem Ma (n1:Int)(xs:List Int):FB F (.exit 0) (Pt n1 xs)=ck (fe F xs.length [IntKind.wrap .u8 (n1)].length 1) (some (xs++[IntKind.wrap .u8 (n1)],())):=by kernel_rfl
def eY (n1:Int):=bD C0 F C1 f276 dv mu 2 (n1,())
theorem anB (n1:Int):eY F n1=(bX F0 n1 0 2147483647).bind fun r6=>br (!r6.1) (some ([],())) (C2 F (FB F) F.n (vC n1 [])):=by kernel_rfl
def iY:Any:=.one ⟨dv,mu,2,fun x=>eY F0 x.1⟩
theorem mP:bo 276 iY:=ay C0 ⟨dh,trivial⟩ func276 C1 (by kernel_rfl)
def VI:=[(276,iY)]
def og (s:ByteArray):=bD VI F ab f277 en mu 2 (s,())
theorem ako (s:ByteArray):og F s=(eY F0 (s.size:Int)).bind fun r5=>ck (decide ((s.size:Int)<=F.mem)) (ck (fe F r5.1.length (bytesOf s).length 1) (some (r5.1++(bytesOf s),()))):=by kernel_rfl
def sw:Any:=.one ⟨en,mu,2,fun x=>og F0 x.1⟩
theorem FC:bo 277 sw:=ay VI ⟨mP,trivial⟩ func277 ab (by kernel_rfl)
end
end Go.Am.Tryz
