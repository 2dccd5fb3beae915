/- Lemmas for the claim. No condition. -/
import Derived.Test.YtfapcfpkbahneaaGreatDoorQlVJG1
set_option linter.all false
set_option maxRecDepth 100000
namespace Go.Am.Tryz
open Go.Am Go.Proofs Go.Proofs.Tryz
noncomputable section
variable {α:Type} (F:rQ) (κ:Ex→St→Option α) (n:Nat)
def UW:=[(102,mD),(103,yF),(104,mE),(105,yI)]
abbrev Sa:List (Ty×Bool):=[(db,true)]
def bh (r:bz):=bF UW F ab f58 Sa Sa 2 (r,())
theorem ajC (r:bz):bh F r=(nW F0 r.2.2.2.1).bind fun dA=>ck (fg F 0 r.2.2.2.2.1.length 32) ((ib F0 r.2.2.2.2.2.1).bind fun QO=>(jr F0 r.2.2.2.2.2.2.1).bind fun gv=>(ug F0 r.2.2.2.2.2.2.2).bind fun r24=>some ((r.1,r.2.1,r.2.2.1,dA.1,[]++r.2.2.2.2.1,QO.1,gv.1,r24.1),())):=by kernel_rfl
def cq:Any:=.one ⟨Sa,Sa,2,fun x=>bh F0 x.1⟩
theorem cY:bm 58 cq:=aA UW ⟨u1,OE,u5,OF,trivial⟩ func58 ab (by kernel_rfl)
def mF:=[(58,cq)]
def mG:Nat→Option Hint:=look [(3,{live:=[1,2,3,4],xY:=[(2,2,3,.int .i64),(2,3,50,db),(2,4,114,fU),(2,5,127,eh),(3,3,50,db),(3,4,114,fU)],xl:=[1,2,3],rl:=[2]}),(7,{live:=[1,2,3,5],xl:=[2,3],rl:=[2]}),(999999,{live:=[1]})]
def sh (w:pt)(i t2 t21 out bg:Int)(xs:List Int)(aO:List bz)(aY:List cU)(bj:List cE)(bK:List Int)(cA:List bz)(cB:List cU)(cF:List cE):St:={nt:=63,tm:=[(1,.v (.c (.Tz false (iM) w 0))),cS 2,cS 3,(5,bR i)],bx:=[(2,[aq t2,aq t21,.own 1000000 none,.own 1000001 none,.own 1000002 none,.own 1000003 none]),(3,[aq out,aq bg,.own 1000004 none,.own 1000005 none,.own 1000006 none,.own 1000007 none])],bl:=[aB 1000000 3 (.int .i64) xs,aB 1000001 50 db aO,aB 1000002 114 fU aY,aB 1000003 127 eh bj,aB 1000004 3 (.int .i64) bK,aB 1000005 50 db cA,aB 1000006 114 fU cB,aB 1000007 127 eh cF],rob:=[1]}
def Lw (t2 t21 out bg:Int)(xs:List Int)(aO:List bz)(aY:List cU)(bj:List cE)(bK:List Int)(cA:List bz)(cB:List cU)(cF:List cE):St:={nt:=63,tm:=[cS 2,cS 3],bx:=[(2,[aq t2,aq t21,.own 1000000 none,.own 1000001 none,.own 1000002 none,.own 1000003 none]),(3,[aq out,aq bg,.own 1000004 none,.own 1000005 none,.own 1000006 none,.own 1000007 none])],bl:=[aB 1000000 3 (.int .i64) xs,aB 1000001 50 db aO,aB 1000002 114 fU aY,aB 1000003 127 eh bj,aB 1000004 3 (.int .i64) bK,aB 1000005 50 db cA,aB 1000006 114 fU cB,aB 1000007 127 eh cF],rob:=[1]}
def yJ (st:St):Option α:=gW mF F mG [.r,.r,.r,.l,.r,.b,.i] f26 κ n st
def Br:=jF mF F mG [.r,.r,.r,.l,.r,.b] f26 gY 2
def si (w:pt)(i t2 t21 out bg:Int)(xs:List Int)(aO:List bz)(aY:List cU)(bj:List cE)(bK:List Int)(cA:List bz)(cB:List cU)(cF:List cE):St:={nt:=63,tm:=[(1,.v (.c (.Tz false (iM) w 0))),cS 2,cS 3,(4,bR i)],bx:=[(2,[aq t2,aq t21,.own 1000000 none,.own 1000001 none,.own 1000002 none,.own 1000003 none]),(3,[aq out,aq bg,.own 1000004 none,.own 1000005 none,.own 1000006 none,.own 1000007 none])],bl:=[aB 1000000 3 (.int .i64) xs,aB 1000001 50 db aO,aB 1000002 114 fU aY,aB 1000003 127 eh bj,aB 1000004 3 (.int .i64) bK,aB 1000005 50 db cA,aB 1000006 114 fU cB,aB 1000007 127 eh cF],rob:=[1]}
def Lx (w:pt)(t2 t21 out bg:Int)(xs:List Int)(aO:List bz)(aY:List cU)(bj:List cE)(bK:List Int)(cA:List bz)(cB:List cU)(cF:List cE):St:={nt:=63,tm:=[(1,.v (.c (.Tz false (iM) w 0))),cS 2,cS 3],bx:=[(2,[aq t2,aq t21,.own 1000000 none,.own 1000001 none,.own 1000002 none,.own 1000003 none]),(3,[aq out,aq bg,.own 1000004 none,.own 1000005 none,.own 1000006 none,.own 1000007 none])],bl:=[aB 1000000 3 (.int .i64) xs,aB 1000001 50 db aO,aB 1000002 114 fU aY,aB 1000003 127 eh bj,aB 1000004 3 (.int .i64) bK,aB 1000005 50 db cA,aB 1000006 114 fU cB,aB 1000007 127 eh cF],rob:=[1]}
def yK (st:St):Option α:=gW mF F mG [.r,.r,.l,.r,.b,.i] f26 κ n st
def Bs:=jF mF F mG [.r,.r,.l,.r,.b] f26 gY 2
theorem F4 (w:pt)(i t2 t21 out bg:Int)(xs:List Int)(aO:List bz)(aY:List cU)(bj:List cE)(bK:List Int)(cA:List bz)(cB:List cU)(cF:List cE):yJ F κ (n+1) (sh w i t2 t21 out bg xs aO aY bj bK cA cB cF)=br (decide (i<(w.2.2.2.1.length:Int))) (ck (cl i (w.2.2.2.1.length:Int)) (ck (cl i (w.2.2.2.1.length:Int)) (ck (fg F 0 (aP w.2.2.2.1 i (0,[])).2.length 1) (ck (fg F cB.length [((aP w.2.2.2.1 i (0,[])).1,[]++(aP w.2.2.2.1 i (0,[])).2)].length 32) (yJ F κ n (sh w (aj (i+1)) t2 t21 out bg xs aO aY bj bK cA (cB++[((aP w.2.2.2.1 i (0,[])).1,[]++(aP w.2.2.2.1 i (0,[])).2)]) cF)))))) (κ (.exit 2) (Lw t2 t21 out bg xs aO aY bj bK cA cB cF)):=by kernel_rfl
theorem F5 (w:pt)(i t2 t21 out bg:Int)(xs:List Int)(aO:List bz)(aY:List cU)(bj:List cE)(bK:List Int)(cA:List bz)(cB:List cU)(cF:List cE):yK F κ (n+1) (si w i t2 t21 out bg xs aO aY bj bK cA cB cF)=br (decide (i<(w.2.2.1.length:Int))) (ck (cl i (w.2.2.1.length:Int)) ((bh F0 (aP w.2.2.1 i db.aG)).bind fun r31=>ck (fg F cA.length [r31.1].length 208) (yK F κ n (si w (aj (i+1)) t2 t21 out bg xs aO aY bj bK (cA++[r31.1]) cB cF)))) (κ (.exit 0) (Lx w t2 t21 out bg xs aO aY bj bK cA cB cF)):=by kernel_rfl
theorem aau (t2 t21 out bg:Int)(xs:List Int)(aO:List bz)(aY:List cU)(bj:List cE)(bK:List Int)(cA:List bz)(cB:List cU)(cF:List cE):Br F (.exit 2) (Lw t2 t21 out bg xs aO aY bj bK cA cB cF)=some (((out,bg),bK,cA,cB,cF),()):=by kernel_rfl
theorem aav (w:pt)(t2 t21 out bg:Int)(xs:List Int)(aO:List bz)(aY:List cU)(bj:List cE)(bK:List Int)(cA:List bz)(cB:List cU)(cF:List cE):Bs F (.exit 0) (Lx w t2 t21 out bg xs aO aY bj bK cA cB cF)=yJ F (Br F) F.n (sh w 0 t2 t21 out bg xs aO aY bj bK cA cB cF):=by kernel_rfl
def yL (w:pt):=bF mF F mG f26 gY gY 2 (w,())
theorem ajD (w:pt):yL F w=ck (fg F 0 w.2.1.length 8) (ck (fg F 0 w.2.2.2.2.length 32) (yK F (Bs F) F.n (si w 0 0 0 w.1.1 w.1.2 [] [] [] [] ([]++w.2.1) [] [] ([]++w.2.2.2.2)))):=by kernel_rfl
def Bt:Any:=.one ⟨gY,gY,2,fun x=>yL F0 x.1⟩
theorem Sb:bm 26 Bt:=aA mF ⟨cY,trivial⟩ func26 mG (by kernel_rfl)
abbrev aJn:List (Ty×Bool):=[(.sl 5 (.int .u8),false),(.int .i64,false),(.int .i64,false)]
def Ly (code:List Int)(awV aFY:Int):=bF aF F ab f28 aJn dD 1 (code,awV,aFY,())
theorem amO (code:List Int)(awV aFY:Int):Ly F code awV aFY=br (decide ((aj (awV+(aj (Int.tdiv (code.length:Int) 4))))>aFY)) (some (aFY,())) (some (aj (awV+(aj (Int.tdiv (code.length:Int) 4))),())):=by kernel_rfl
def Sc:Any:=.one ⟨aJn,dD,1,fun x=>Ly F0 x.1 x.2.1 x.2.2.1⟩
theorem amP:bm 28 Sc:=aA aF trivial func28 ab (by kernel_rfl)
def ahV:=[(35,de)]
def mH (c:D1)(view:Int):=bF ahV F ab f106 ahT dD 1 (c,view,())
theorem auh (c:D1)(view:Int):mH F c view=(eC F0 c).bind fun r6=>br (!r6.1) (some (-1,())) (br (decide (view<0)) (some (-1,())) (ck (!(c.1==0)) (some (Int.tmod view c.1,())))):=by kernel_rfl
def jI:Any:=.one ⟨ahT,dD,1,fun x=>mH F0 x.1 x.2.1⟩
theorem nX:bm 106 jI:=aA ahV ⟨dV,trivial⟩ func106 ab (by kernel_rfl)
def vd:=[(164,jP)]
def ve:Nat→Option Hint:=look [(2,{live:=[0,1,2,6,7],xY:=[(6,2,3,.int .i64)],xl:=[1,2,6],rl:=[6]})]
def kV (list:List D9)(view:Int)(name:ByteArray)(i t6:Int)(t61:ByteArray)(xs:List Int):= er 38 [(0,jO 74 (K9) list),(1,bR view),(2,Yl name),cS 6,(7,bR i)] [(6,[aq t6,.str t61,.own 1000000 none])] [aB 1000000 3 (.int .i64) xs]
def LA (t6:Int)(t61:ByteArray)(xs:List Int):= er 38 [cS 6] [(6,[aq t6,.str t61,.own 1000000 none])] [aB 1000000 3 (.int .i64) xs]
def Jp (view:Int)(name:ByteArray)(t6:Int)(t61:ByteArray)(xs:List Int):= er 38 [(1,bR view),(2,Yl name),cS 6] [(6,[aq t6,.str t61,.own 1000000 none])] [aB 1000000 3 (.int .i64) xs]
def oY (st:St):Option α:=gW vd F ve [.r,.l,.r,.b,.i] f107 κ n st
def p7:=jF vd F ve [.r,.l,.r,.b] f107 gX 2
theorem Ee (list:List D9)(view:Int)(name:ByteArray)(i t6:Int)(t61:ByteArray)(xs:List Int):oY F κ (n+1) (kV list view name i t6 t61 xs)=br (decide (i<(list.length:Int))) (ck (cl i (list.length:Int)) (br ((aP list i K9.aG).1==view) (ck (cl i (list.length:Int)) (br ((aP list i K9.aG).2.1.toList==name.toList) (ck (cl i (list.length:Int)) ((ia F0 (aP list i K9.aG)).bind fun qT=>κ .ret (LA qT.1.1 qT.1.2.1 qT.1.2.2))) (oY F κ n (kV list view name (aj (i+1)) t6 t61 xs)))) (oY F κ n (kV list view name (aj (i+1)) t6 t61 xs)))) (κ (.exit 0) (Jp view name t6 t61 xs)):=by kernel_rfl
theorem aaw (t6:Int)(t61:ByteArray)(xs:List Int):p7 F .ret (LA t6 t61 xs)=some ((t6,t61,xs),()):=by kernel_rfl
theorem XL (view:Int)(name:ByteArray)(t6:Int)(t61:ByteArray)(xs:List Int):p7 F (.exit 0) (Jp view name t6 t61 xs)=some ((view,name,[]),()):=by kernel_rfl
abbrev aB3:List (Ty×Bool):=[(K13,false),(.int .i64,false),(.str,false)]
def pA (list:D13)(view:Int)(name:ByteArray):=bF vd F ve f107 aB3 gX 2 (list,view,name,())
theorem afo (list:D13)(view:Int)(name:ByteArray):pA F list view name=oY F (p7 F) F.n (kV list view name 0 0 al []):=by kernel_rfl
def p8:Any:=.one ⟨aB3,gX,2,fun x=>pA F0 x.1 x.2.1 x.2.2.1⟩
theorem Bu:bm 107 p8:=aA vd ⟨oX,trivial⟩ func107 ve (by kernel_rfl)
def sj:Nat→Option Hint:=look [(3,{live:=[0,1,2],xY:=[(0,0,3,.int .i64),(0,1,3,.int .i64),(1,0,3,.int .i64)],xl:=[0,1],rl:=[0]})]
def gK (i:Int)(xs aO aY bj:List Int):= er 15 [cS 0,cS 1,(2,bR i)] [(0,[.own 1000000 none,.own 1000001 none]),(1,[.own 1000002 none,.own 1000003 none])] [aB 1000000 3 (.int .i64) xs,aB 1000001 3 (.int .i64) aO,aB 1000002 3 (.int .i64) aY,aB 1000003 3 (.int .i64) bj]
def F6 (xs aO aY bj:List Int):= er 15 [cS 0,cS 1] [(0,[.own 1000000 none,.own 1000001 none]),(1,[.own 1000002 none,.own 1000003 none])] [aB 1000000 3 (.int .i64) xs,aB 1000001 3 (.int .i64) aO,aB 1000002 3 (.int .i64) aY,aB 1000003 3 (.int .i64) bj]
def jQ (st:St):Option α:=gW aF F sj [.r,.r,.l,.r,.b,.i] f110 κ n st
abbrev p9:List (Ty×Bool):=[(K43,true)]
def j2:=jF aF F sj [.r,.r,.l,.r,.b] f110 p9 2
theorem AN (i:Int)(xs aO aY bj:List Int):jQ F κ (n+1) (gK i xs aO aY bj)=br (decide (i<4)) (ck (fg F aY.length [100].length 8) (jQ F κ n (gK (aj (i+1)) xs aO (aY++[100]) bj))) (κ (.exit 0) (F6 xs aO aY bj)):=by kernel_rfl
theorem UX (xs aO aY bj:List Int):j2 F (.exit 0) (F6 xs aO aY bj)=some ((aY,bj),()):=by kernel_rfl
def mI: Option (Args p9):=bF aF F sj f110 [] p9 2 (())
theorem acG: mI F= ck (okM F 4 4 8) (jQ F (j2 F) F.n (gK 0 [] [] [] (List.replicate (4:Int).toNat 0))):=by kernel_rfl
def wE:Any:=.one ⟨[],p9,2,fun x=>mI F0⟩
theorem LB:bm 110 wE:=aA aF trivial func110 sj (by kernel_rfl)
def Hi:=[(132,qR)]
def Hj:Nat→Option Hint:=look [(4,{live:=[3,4,6],xl:=[3],rl:=[2]})]
def yM (i:Int)(xs:List D4)(aO:List D6):= er 27 [(3,.v (.c (.own 1000000 none))),(4,.v (.c (.own 1000001 none))),(6,bR i)] [] [aB 1000000 76 K4 xs,aB 1000001 157 K6 aO]
def Sd (xs:List D4):= er 27 [(3,.v (.c (.own 1000000 none)))] [] [aB 1000000 76 K4 xs]
def Hk (st:St):Option α:=gW Hi F Hj [.r,.r,.r,.l,.r,.b,.i] f111 κ n st
def Jq:=jF Hi F Hj [.r,.r,.r,.l,.r,.b] f111 kl 2
theorem LC (i:Int)(xs:List D4)(aO:List D6):Hk F κ (n+1) (yM i xs aO)=br (decide (i<(aO.length:Int))) (ck (cl i (aO.length:Int)) (ck (fg F xs.length (aP aO i (0,[])).2.length 32) (Hk F κ n (yM (aj (i+1)) (xs++(aP aO i (0,[])).2) aO)))) (κ (.exit 0) (Sd xs)):=by kernel_rfl
theorem afp (xs:List D4):Jq F (.exit 0) (Sd xs)=some (xs,()):=by kernel_rfl
def wF (s:ByteArray):=bF Hi F Hj f111 ew kl 2 (s,())
theorem aqv (s:ByteArray):wF F s=(qQ F0 s).bind fun hY=>Hk F (Jq F) F.n (yM 0 [] hY.1):=by kernel_rfl
def Jr:Any:=.one ⟨ew,kl,2,fun x=>wF F0 x.1⟩
theorem YN:bm 111 Jr:=aA Hi ⟨Cr,trivial⟩ func111 Hj (by kernel_rfl)
def qZ (l:D43):=bF aF F ab f166 p9 p9 2 (l,())
theorem amQ (l:D43):qZ F l=ck (fg F 0 l.1.length 8) (ck (fg F 0 l.2.length 8) (some (([]++l.1,[]++l.2),()))):=by kernel_rfl
def vf:Any:=.one ⟨p9,p9,2,fun x=>qZ F0 x.1⟩
theorem Js:bm 166 vf:=aA aF trivial func166 ab (by kernel_rfl)
def vg:=[(72,cK)]
def vh:Nat→Option Hint:=look [(4,{live:=[1,3],rl:=[2]})]
def qa (i:Int)(l l1:List Int):= er 34 [cS 1,(3,bR i)] [(1,[.ro false 3 (.int .i64) l,.ro false 3 (.int .i64) l1])] []
def yN (t2:Bool):= cV 34 [(2,RP t2)]
def Jt   := cV 34 []
def vi (st:St):Option α:=gW vg F vh [.r,.r,.l,.r,.b,.i] f225 κ n st
def qb:=jF vg F vh [.r,.r,.l,.r,.b] f225 aZ 1
theorem Ef (i:Int)(l l1:List Int):vi F κ (n+1) (qa i l l1)=br (decide (i<4)) (ck (cl i (l.length:Int)) ((bZ F0 (aP l i 0) 0 400).bind fun sd=>br (!sd.1) (κ .ret (yN false)) (ck (cl i (l1.length:Int)) ((bZ F0 (aP l1 i 0) 0 100).bind fun r31=>br (!r31.1) (κ .ret (yN false)) (vi F κ n (qa (aj (i+1)) l l1)))))) (κ (.exit 0) (Jt)):=by kernel_rfl
theorem Ju (t2:Bool):qb F .ret (yN t2)=some (t2,()):=by kernel_rfl
theorem XM: qb F (.exit 0) (Jt)=some (true,()):=by kernel_rfl
def uh (l:D43):=bF vg F vh f225 p9 aZ 1 (l,())
theorem afq (l:D43):uh F l=br ((l.1.length:Int) != 4) (some (false,())) (br ((l.2.length:Int) != 4) (some (false,())) (vi F (qb F) F.n (qa 0 l.1 l.2))):=by kernel_rfl
def LD:Any:=.one ⟨p9,aZ,1,fun x=>uh F0 x.1⟩
theorem afr:bm 225 LD:=aA vg ⟨dh,trivial⟩ func225 vh (by kernel_rfl)
def amR:=[(166,vf),(181,lO),(225,LD)]
abbrev aB4:List (Ty×Bool):=[(K43,true),(.int .i64,false)]
abbrev aB5:List (Ty×Bool):=[(K43,true),(K4,true)]
def Jv (l:D43)(x:D4):=bF amR F ab f167 aB5 aB4 2 (l,x,())
theorem awW (l:D43)(x:D4):Jv F l x=(qZ F0 l).bind fun r8=>(uh F0 l).bind fun dA=>br (!dA.1) (some (r8.1,1,())) ((rY F0 x).bind fun py=>br (!py.1) (some (r8.1,1,())) (ck (cl x.1 (l.2.length:Int)) (br (decide (x.2.2.2<(aP l.2 x.1 0))) (some (r8.1,2,())) (ck (cl x.1 (l.2.length:Int)) (br (decide (x.2.2.2>(aP l.2 x.1 0))) (some (r8.1,3,())) (ck (cl x.1 (r8.1.2.length:Int)) (ck (cl x.1 (l.1.length:Int)) (br (decide (x.2.2.1>(aP l.1 x.1 0))) (some ((r8.1.1,r8.1.2.set x.1.toNat (aj (x.2.2.2+1))),4,())) (ck (cl x.1 (r8.1.1.length:Int)) (ck (cl x.1 (r8.1.1.length:Int)) (ck (cl x.2.1 ((r8.1.1.set x.1.toNat (aj ((aP r8.1.1 x.1 0)-x.2.2.1))).length:Int)) (ck (cl x.2.1 ((r8.1.1.set x.1.toNat (aj ((aP r8.1.1 x.1 0)-x.2.2.1))).length:Int)) ((uh F0 ((r8.1.1.set x.1.toNat (aj ((aP r8.1.1 x.1 0)-x.2.2.1))).set x.2.1.toNat (aj ((aP (r8.1.1.set x.1.toNat (aj ((aP r8.1.1 x.1 0)-x.2.2.1))) x.2.1 0)+x.2.2.1)),r8.1.2.set x.1.toNat (aj (x.2.2.2+1)))).bind fun r88=>br (!r88.1) ((qZ F0 l).bind fun r91=>some (r91.1,1,())) (some (((r8.1.1.set x.1.toNat (aj ((aP r8.1.1 x.1 0)-x.2.2.1))).set x.2.1.toNat (aj ((aP (r8.1.1.set x.1.toNat (aj ((aP r8.1.1 x.1 0)-x.2.2.1))) x.2.1 0)+x.2.2.1)),r8.1.2.set x.1.toNat (aj (x.2.2.2+1))),0,()))))))))))))))):=by kernel_rfl
def Hl:Any:=.one ⟨aB5,aB4,2,fun x=>Jv F0 x.1 x.2.1⟩
theorem UY:bm 167 Hl:=aA amR ⟨Js,rZ,afr,trivial⟩ func167 ab (by kernel_rfl)
def CC:=[(166,vf),(167,Hl)]
def CD:Nat→Option Hint:=look [(4,{live:=[1,4,6,7,8],xY:=[(4,0,3,.int .i64),(4,1,3,.int .i64)],xl:=[4,6,7],rl:=[4,5]})]
def vj (list:List D4)(i:Int)(xs aO aY bj bK:List Int):= er 36 [(1,jO 76 (K4) list),cS 4,cS 6,(7,.v (.c (.own 1000000 none))),(8,bR i)] [(4,[.own 1000001 none,.own 1000002 none]),(6,[.own 1000003 none,.own 1000004 none])] [aB 1000000 3 (.int .i64) xs,aB 1000001 3 (.int .i64) aO,aB 1000002 3 (.int .i64) aY,aB 1000003 3 (.int .i64) bj,aB 1000004 3 (.int .i64) bK]
def OG (xs aO aY bj bK:List Int):= er 36 [cS 4,cS 6,(7,.v (.c (.own 1000000 none)))] [(4,[.own 1000001 none,.own 1000002 none]),(6,[.own 1000003 none,.own 1000004 none])] [aB 1000000 3 (.int .i64) xs,aB 1000001 3 (.int .i64) aO,aB 1000002 3 (.int .i64) aY,aB 1000003 3 (.int .i64) bj,aB 1000004 3 (.int .i64) bK]
def CE (st:St):Option α:=gW CC F CD [.r,.r,.r,.l,.r,.b,.i] f109 κ n st
abbrev asf:List (Ty×Bool):=[(K43,true),(.sl 3 (.int .i64),false)]
def Fk:=jF CC F CD [.r,.r,.r,.l,.r,.b] f109 asf 2
theorem Jw (list:List D4)(i:Int)(xs aO aY bj bK:List Int):CE F κ (n+1) (vj list i xs aO aY bj bK)=br (decide (i<(list.length:Int))) (ck (cl i (list.length:Int)) ((Jv F0 (bj,bK) (aP list i K4.aG)).bind fun xg=>ck (fg F xs.length [xg.2.1].length 8) (CE F κ n (vj list (aj (i+1)) (xs++[xg.2.1]) aO aY xg.1.1 xg.1.2)))) (κ (.exit 0) (OG xs aO aY bj bK)):=by kernel_rfl
theorem acH (xs aO aY bj bK:List Int):Fk F (.exit 0) (OG xs aO aY bj bK)=some ((bj,bK),xs,()):=by kernel_rfl
abbrev aB6:List (Ty×Bool):=[(K43,true),(K5,false)]
def xn (l:D43)(list:D5):=bF CC F CD f109 aB6 asf 2 (l,list,())
theorem amS (l:D43)(list:D5):xn F l list=(qZ F0 l).bind fun cN=>CE F (Fk F) F.n (vj list 0 [] [] [] cN.1.1 cN.1.2):=by kernel_rfl
def Fl:Any:=.one ⟨aB6,asf,2,fun x=>xn F0 x.1 x.2.1⟩
theorem UZ:bm 109 Fl:=aA CC ⟨Js,UY,trivial⟩ func109 CD (by kernel_rfl)
def vk:=[(166,vf),(167,Hl)]
def vl:Nat→Option Hint:=look [(4,{live:=[0,5,6,7],xl:=[5],rl:=[4]})]
def iP (p:List D4)(i:Int)(xs:List D4)(aO aY:List Int):= er 48 [(0,jO 76 (K4) p),(5,.v (.c (.own 1000000 none))),cS 6,(7,bR i)] [(6,[.own 1000001 none,.own 1000002 none])] [aB 1000000 76 K4 xs,aB 1000001 3 (.int .i64) aO,aB 1000002 3 (.int .i64) aY]
def wG (xs:List D4):= er 48 [(5,.v (.c (.own 1000000 none)))] [] [aB 1000000 76 K4 xs]
def kx (st:St):Option α:=gW vk F vl [.r,.r,.r,.l,.r,.b,.i] f113 κ n st
def yO:=jF vk F vl [.r,.r,.r,.l,.r,.b] f113 kl 2
theorem Eg (p:List D4)(i:Int)(xs:List D4)(aO aY:List Int):kx F κ (n+1) (iP p i xs aO aY)=br (decide (i<(p.length:Int))) (br (decide ((xs.length:Int)<2)) (ck (cl i (p.length:Int)) ((Jv F0 (aO,aY) (aP p i K4.aG)).bind fun Fj=>br (Fj.2.1==0) (ck (cl i (p.length:Int)) (ck (fg F xs.length [(aP p i K4.aG)].length 32) (kx F κ n (iP p (aj (i+1)) (xs++[(aP p i K4.aG)]) Fj.1.1 Fj.1.2)))) (br (Fj.2.1==4) (ck (cl i (p.length:Int)) (ck (fg F xs.length [(aP p i K4.aG)].length 32) (kx F κ n (iP p (aj (i+1)) (xs++[(aP p i K4.aG)]) Fj.1.1 Fj.1.2)))) (kx F κ n (iP p (aj (i+1)) xs aO aY))))) (κ (.exit 0) (wG xs))) (κ (.exit 0) (wG xs)):=by kernel_rfl
theorem F7 (xs:List D4):yO F (.exit 0) (wG xs)=some (xs,()):=by kernel_rfl
abbrev ahW:List (Ty×Bool):=[(K5,false),(K43,true)]
def pB (p:D5)(l:D43):=bF vk F vl f113 ahW kl 2 (p,l,())
theorem afs (p:D5)(l:D43):pB F p l=(qZ F0 l).bind fun cN=>kx F (yO F) F.n (iP p 0 [] cN.1.1 cN.1.2):=by kernel_rfl
def LF:Any:=.one ⟨ahW,kl,2,fun x=>pB F0 x.1 x.2.1⟩
theorem aft:bm 113 LF:=aA vk ⟨Js,UY,trivial⟩ func113 vl (by kernel_rfl)
def yP:=[(181,lO),(271,Fa)]
def yQ:Nat→Option Hint:=look [(3,{live:=[0,3,4],xl:=[3],rl:=[2]})]
def mJ (list:List D4)(out:ByteArray)(i:Int):= cV 29 [(0,jO 76 (K4) list),(3,Yl out),(4,bR i)]
def OH (t2:ByteArray):= cV 29 [(2,Yl t2)]
def LG (out:ByteArray):= cV 29 [(3,Yl out)]
def q0 (st:St):Option α:=gW yP F yQ [.r,.r,.l,.r,.b,.i] f227 κ n st
def sk:=jF yP F yQ [.r,.r,.l,.r,.b] f227 ew 1
theorem F8 (list:List D4)(out:ByteArray)(i:Int):q0 F κ (n+1) (mJ list out i)=br (decide (i<(list.length:Int))) (ck (cl i (list.length:Int)) ((rY F0 (aP list i K4.aG)).bind fun py=>br (!py.1) (κ .ret (OH al)) (br (decide (i>0)) (ck (okC F out.size (ByteArray.mk #[44]).size) (ck (cl i (list.length:Int)) ((xf F0 (aP list i K4.aG)).bind fun xg=>ck (okC F (out++(ByteArray.mk #[44])).size xg.1.size) (q0 F κ n (mJ list ((out++(ByteArray.mk #[44]))++xg.1) (aj (i+1))))))) (ck (cl i (list.length:Int)) ((xf F0 (aP list i K4.aG)).bind fun xg=>ck (okC F out.size xg.1.size) (q0 F κ n (mJ list (out++xg.1) (aj (i+1))))))))) (κ (.exit 0) (LG out)):=by kernel_rfl
theorem acI (t2:ByteArray):sk F .ret (OH t2)=some (t2,()):=by kernel_rfl
theorem aax (out:ByteArray):sk F (.exit 0) (LG out)=some (out,()):=by kernel_rfl
def Hm (list:D5):=bF yP F yQ f227 kl ew 1 (list,())
theorem ajE (list:D5):Hm F list=q0 F (sk F) F.n (mJ list al 0):=by kernel_rfl
def OI:Any:=.one ⟨kl,ew,1,fun x=>Hm F0 x.1⟩
theorem ajF:bm 227 OI:=aA yP ⟨rZ,UD,trivial⟩ func227 yQ (by kernel_rfl)
def CF:=[(77,fA),(181,lO),(226,uK),(227,OI)]
def CG:Nat→Option Hint:=look [(2,{live:=[0,1,2,7],xl:=[0,1,2],rl:=[6]})]
def vm (up:ByteArray)(view:Int)(list:List D4)(i:Int):= cV 34 [(0,Yl up),(1,bR view),(2,jO 76 (K4) list),(7,bR i)]
def Se (t6:ByteArray):= cV 34 [(6,Yl t6)]
def OJ (up:ByteArray)(view:Int)(list:List D4):= cV 34 [(0,Yl up),(1,bR view),(2,jO 76 (K4) list)]
def CH (st:St):Option α:=gW CF F CG [.r,.l,.r,.b,.i] f168 κ n st
def vn:=jF CF F CG [.r,.l,.r,.b] f168 ew 1
theorem Jx (up:ByteArray)(view:Int)(list:List D4)(i:Int):CH F κ (n+1) (vm up view list i)=br (decide (i<(list.length:Int))) (ck (cl i (list.length:Int)) ((rY F0 (aP list i K4.aG)).bind fun dM=>br (!dM.1) (κ .ret (Se al)) (CH F κ n (vm up view list (aj (i+1)))))) (κ (.exit 0) (OJ up view list)):=by kernel_rfl
theorem afu (t6:ByteArray):vn F .ret (Se t6)=some (t6,()):=by kernel_rfl
theorem acJ (up:ByteArray)(view:Int)(list:List D4):vn F (.exit 0) (OJ up view list)=ck (okC F up.size (ByteArray.mk #[47]).size) ((kQ F0 view).bind fun r24=>ck (okC F (up++(ByteArray.mk #[47])).size r24.1.size) (ck (okC F ((up++(ByteArray.mk #[47]))++r24.1).size (ByteArray.mk #[124]).size) ((Hm F0 list).bind fun UE=>ck (okC F (((up++(ByteArray.mk #[47]))++r24.1)++(ByteArray.mk #[124])).size UE.1.size) ((fF F0 ((((up++(ByteArray.mk #[47]))++r24.1)++(ByteArray.mk #[124]))++UE.1)).bind fun r31=>br (!r31.1) (some (al,())) (some ((((up++(ByteArray.mk #[47]))++r24.1)++(ByteArray.mk #[124]))++UE.1,())))))):=by kernel_rfl
abbrev aB7:List (Ty×Bool):=[(.str,false),(.int .i64,false),(K5,false)]
def YO (up:ByteArray)(view:Int)(list:D5):=bF CF F CG f168 aB7 ew 1 (up,view,list,())
theorem U0:∃f,f= @YO:=⟨_,rfl⟩
def kW:=Classical.choose U0
theorem Sf: @kW= @YO:=Classical.choose_spec U0
theorem amT (up:ByteArray)(view:Int)(list:D5):kW F up view list=CH F (vn F) F.n (vm up view list 0):=by rw[Sf];kernel_rfl
def Fm:Any:=.one ⟨aB7,ew,1,fun x=>kW F0 x.1 x.2.1 x.2.2.1⟩
theorem U1:bm 168 Fm:=ok1 (show x8 Tryz.prog TB CF from⟨iv,rZ,Ja,ajF,trivial⟩) func168 (by kernel_rfl) (by kernel_rfl) CG (by rw[Sf];kernel_rfl)
def Sg:=[(78,dW),(117,iX),(168,Fm),(169,mv)]
abbrev aB8:List (Ty×Bool):=[(K1,true),(K9,true),(.int .i64,false),(K5,false)]
abbrev ahX:List (Ty×Bool):=[(K15,true),(.bool,false)]
def pC (c:D1)(q:D9)(view:Int)(list:D5):=bF Sg F ab f112 aB8 ahX 2 (c,q,view,list,())
theorem afv (c:D1)(q:D9)(view:Int)(list:D5):pC F c q view list=(kW F0 q.2.1 view list).bind fun py=>(jH F0 q).bind fun fh=>(nU F0 c (py.1,fh.1)).bind fun gv=>br (!gv.1) (some ((al,0,al,[]),false,())) ((ea F0 py.1).bind fun xg=>br (xg.1 != view) (some ((al,0,al,[]),false,())) (some ((py.1,fh.1),true,()))):=by kernel_rfl
def yR:Any:=.one ⟨aB8,ahX,2,fun x=>pC F0 x.1 x.2.1 x.2.2.1 x.2.2.2.1⟩
theorem OK:bm 112 yR:=aA Sg ⟨fo,mC,U1,uS,trivial⟩ func112 ab (by kernel_rfl)
def amU:=[(73,c7),(106,jI),(107,p8),(108,uN),(109,Fl),(110,wE),(111,Jr),(112,yR),(113,LF)]
def U2 (c:D1)(r:bz):=bF amU F ab f61 xK ahX 2 (c,r,())
theorem awX (c:D1)(r:bz):U2 F c r=(ec F0 c r).bind fun lM=>br (!lM.1) (some ((al,0,al,[]),false,())) ((mH F0 c r.2.1).bind fun DY=>br (DY.1 != r.1) (some ((al,0,al,[]),false,())) (br (decide (r.2.2.1≥r.2.1)) (some ((al,0,al,[]),false,())) ((pA F0 r.2.2.2.2.2.1 r.2.1 al).bind fun xm=>br (r.2.2.2.1.2.2.1.1 != (aj (r.2.1-1))) ((xh F0 c).bind fun r52=>br (decide ((xm.1.2.2.length:Int)<r52.1)) (some ((al,0,al,[]),false,())) ((mI F0).bind fun r57=>(wF F0 r.2.2.2.1.2.2.1.2.1).bind fun r60=>(xn F0 r57.1 r60.1).bind fun Ix=>(pB F0 r.2.2.2.2.1 Ix.1).bind fun r72=>(pC F0 c r.2.2.2.1.2.2.1 r.2.1 r72.1).bind fun r73=>some (r73.1,r73.2.1,()))) ((mI F0).bind fun r57=>(wF F0 r.2.2.2.1.2.2.1.2.1).bind fun r60=>(xn F0 r57.1 r60.1).bind fun Ix=>(pB F0 r.2.2.2.2.1 Ix.1).bind fun r72=>(pC F0 c r.2.2.2.1.2.2.1 r.2.1 r72.1).bind fun r73=>some (r73.1,r73.2.1,()))))):=by kernel_rfl
def QP:Any:=.one ⟨xK,ahX,2,fun x=>U2 F0 x.1 x.2.1⟩
theorem ahY:bm 61 QP:=aA amU ⟨dB,nX,Bu,Jc,UZ,LB,YN,OK,aft,trivial⟩ func61 ab (by kernel_rfl)
def CI:Nat→Option Hint:=look [(2,{live:=[0,1,5],rl:=[4]})]
def vo (s:List Int)(i k:Int):= cV 18 [(0,jO 3 (.int .i64) s),(1,bR i),(5,bR k)]
def Sh (t4:Bool):= cV 18 [(4,RP t4)]
def OL   := cV 18 []
def CJ (st:St):Option α:=gW aF F CI [.r,.l,.r,.b,.i] f62 κ n st
def vp:=jF aF F CI [.r,.l,.r,.b] f62 aZ 1
theorem Jy (s:List Int)(i k:Int):CJ F κ (n+1) (vo s i k)=br (decide (k<(s.length:Int))) (ck (cl k (s.length:Int)) (br ((aP s k 0)==i) (κ .ret (Sh true)) (CJ F κ n (vo s i (aj (k+1)))))) (κ (.exit 0) (OL)):=by kernel_rfl
theorem afw (t4:Bool):vp F .ret (Sh t4)=some (t4,()):=by kernel_rfl
theorem acK: vp F (.exit 0) (OL)=some (false,()):=by kernel_rfl
abbrev ajG:List (Ty×Bool):=[(.sl 3 (.int .i64),false),(.int .i64,false)]
def dG (s:List Int)(i:Int):=bF aF F CI f62 ajG aZ 1 (s,i,())
theorem amW (s:List Int)(i:Int):dG F s i=CJ F (vp F) F.n (vo s i 0):=by kernel_rfl
def dw:Any:=.one ⟨ajG,aZ,1,fun x=>dG F0 x.1 x.2.1⟩
theorem eE:bm 62 dw:=aA aF trivial func62 CI (by kernel_rfl)
def Jz:=[(27,eV),(56,nS)]
def mK (c:D2):=DX Jz F ab f63 jX 0 .cur Yr jX 1 (c,())
theorem XN (c:D2):mK F c=(ax F0 c 4).bind fun r4=>(ax F0 r4.2.1 4).bind fun r6=>(jY F0 r6.2.1 [0,5,60,100,1000]).bind fun r9=>(ax F0 r9.2.1 3).bind fun dA=>some (((r4.1.1,r6.1.1,r9.1.1,dA.1.1),()),dA.2.1,()):=by kernel_rfl
def q9:Any:=.two ⟨jX,0,.cur,Yr,1,jX,fun x=>mK F0 x.1⟩
theorem F9:bm 63 q9:=Uy Jz ⟨gu,yc,trivial⟩ func63 ab (by kernel_rfl)
def bV (a b:Int):=bF aF F ab f65 asb dD 1 (a,b,())
theorem aqw (a b:Int):bV F a b=br (decide (a<b)) (some (a,())) (some (b,())):=by kernel_rfl
def j3:Any:=.one ⟨asb,dD,1,fun x=>bV F0 x.1 x.2.1⟩
theorem pD:bm 65 j3:=aA aF trivial func65 ab (by kernel_rfl)
def CK:=[(62,dw)]
def CL:Nat→Option Hint:=look [(4,{live:=[0,1,5],xl:=[0,1,5],rl:=[4]})]
def vq (s:List Int)(i iN:Int):= cV 41 [(0,jO 3 (.int .i64) s),(1,bR i),(5,bR iN)]
def sn (s:List Int)(i iN:Int):= cV 41 [(0,jO 3 (.int .i64) s),(1,bR i),(5,bR iN)]
def CM (st:St):Option α:=gW CK F CL [.r,.r,.r,.l,.b,.i] f171 κ n st
def vr:=jF CK F CL [.r,.r,.r,.l,.b] f171 kp 2
theorem JA (s:List Int)(i iN:Int):CM F κ (n+1) (vq s i iN)=br (decide (iN<(s.length:Int))) (ck (cl iN (s.length:Int)) (br (decide ((aP s iN 0)<i)) (CM F κ n (vq s i (aj (iN+1)))) (κ (.exit 0) (sn s i iN)))) (κ (.exit 0) (sn s i iN)):=by kernel_rfl
theorem acL (s:List Int)(i iN:Int):vr F (.exit 0) (sn s i iN)=ck (RN 0 iN (s.length:Int)) (ck (fg F 0 ((s.take iN.toNat).drop (0:Int).toNat).length 8) (ck (fg F ([]++((s.take iN.toNat).drop (0:Int).toNat)).length [i].length 8) (ck (RN iN (s.length:Int) (s.length:Int)) (ck (fg F (([]++((s.take iN.toNat).drop (0:Int).toNat))++[i]).length ((s.take (s.length:Int).toNat).drop iN.toNat).length 8) (some ((([]++((s.take iN.toNat).drop (0:Int).toNat))++[i])++((s.take (s.length:Int).toNat).drop iN.toNat),())))))):=by kernel_rfl
def xo (s:List Int)(i:Int):=bF CK F CL f171 ajG kp 2 (s,i,())
theorem amX (s:List Int)(i:Int):xo F s i=(dG F0 s i).bind fun r9=>br r9.1 (ck (fg F 0 s.length 8) (some ([]++s,()))) (CM F (vr F) F.n (vq s i 0)):=by kernel_rfl
def Fo:Any:=.one ⟨ajG,kp,2,fun x=>xo F0 x.1 x.2.1⟩
theorem U3:bm 171 Fo:=aA CK ⟨eE,trivial⟩ func171 CL (by kernel_rfl)
end
end Go.Am.Tryz
namespace Go.Am.Tryz
open Go.Am Go.Proofs Go.Proofs.Tryz
noncomputable section
variable {α:Type} (F:rQ) (κ:Ex→St→Option α) (n:Nat)
def l8:=[(27,eV),(57,oR),(65,j3),(168,Fm),(170,uf),(171,Fo)]
def l9:Nat→Option Hint:=look [(11,{live:=[3,4,5,6,7,9],xY:=[(4,5,3,.int .i64),(4,8,3,.int .i64),(4,11,3,.int .i64)],xl:=[4,5,6,7],rl:=[4]})]
def c9 (view:Int)(name:ByteArray)(i:Int)(aC:List Int)(au ar w w1:Int)(w2:List Int)(w3:List bz)(w4:List cU)(w5:List cE)(t4 t41:Int)(t42:ByteArray)(t43:Int)(t44:ByteArray)(t45:Int)(t46:ByteArray)(t47:Int)(t48:ByteArray)(t49 fW fX fY fZ:Int)(xs aO aY bj:List Int):St:={nt:=89,tm:=[cS 3,cS 4,(5,bR view),(6,Yl name),(7,.v (.c (.own 1000000 none))),(9,bR i)],bx:=[(4000000,[.ro true 5 (.int .u8) aC,aq au,aq ar]),(3,[aq w,aq w1,.ro false 3 (.int .i64) w2,.ro false 50 (db) w3,.ro false 114 (fU) w4,.ro false 127 (eh) w5]),(4,[aq t4,aq t41,.str t42,aq t43,.str t44,.own 1000001 none,aq t45,.str t46,.own 1000002 none,aq t47,.str t48,.own 1000003 none,aq t49,aq fW,aq fX,aq fY,aq fZ])],bl:=[aB 1000000 3 (.int .i64) xs,aB 1000001 3 (.int .i64) aO,aB 1000002 3 (.int .i64) aY,aB 1000003 3 (.int .i64) bj],sp:=.v (.c (.ptr 4000000 0))}
def yS (view:Int)(name:ByteArray)(aC:List Int)(au ar t4 t41:Int)(t42:ByteArray)(t43:Int)(t44:ByteArray)(t45:Int)(t46:ByteArray)(t47:Int)(t48:ByteArray)(t49 fW fX fY fZ:Int)(xs aO aY bj:List Int):St:={nt:=89,tm:=[cS 4,(5,bR view),(6,Yl name),(7,.v (.c (.own 1000000 none)))],bx:=[(4000000,[.ro true 5 (.int .u8) aC,aq au,aq ar]),(4,[aq t4,aq t41,.str t42,aq t43,.str t44,.own 1000001 none,aq t45,.str t46,.own 1000002 none,aq t47,.str t48,.own 1000003 none,aq t49,aq fW,aq fX,aq fY,aq fZ])],bl:=[aB 1000000 3 (.int .i64) xs,aB 1000001 3 (.int .i64) aO,aB 1000002 3 (.int .i64) aY,aB 1000003 3 (.int .i64) bj],sp:=.v (.c (.ptr 4000000 0))}
def dv (st:St):Option α:=gW l8 F l9 [.r,.r,.r,.r,.r,.l,.r,.b,.i] f114 κ n st
def fi:=awP l8 F l9 [.r,.r,.r,.r,.r,.l,.r,.b] f114 .cur xk jX 2
theorem ui (view:Int)(name:ByteArray)(i:Int)(aC:List Int)(au ar w w1:Int)(w2:List Int)(w3:List bz)(w4:List cU)(w5:List cE)(t4 t41:Int)(t42:ByteArray)(t43:Int)(t44:ByteArray)(t45:Int)(t46:ByteArray)(t47:Int)(t48:ByteArray)(t49 fW fX fY fZ:Int)(xs aO aY bj:List Int):dv F κ (n+1) (c9 view name i aC au ar w w1 w2 w3 w4 w5 t4 t41 t42 t43 t44 t45 t46 t47 t48 t49 fW fX fY fZ xs aO aY bj)=br (decide (i<(w5.length:Int))) (ck (cl i (w5.length:Int)) (br ((aP w5 i eh.aG).1==view) (ck (cl i (w5.length:Int)) (br ((aP w5 i eh.aG).2.1.toList==name.toList) (ck (cl i (w5.length:Int)) ((xo F0 xs (aP w5 i eh.aG).2.2).bind fun r83=>dv F κ n (c9 view name (aj (i+1)) aC au ar w w1 w2 w3 w4 w5 t4 t41 t42 t43 t44 t45 t46 t47 t48 t49 fW fX fY fZ r83.1 aO aY bj))) (dv F κ n (c9 view name (aj (i+1)) aC au ar w w1 w2 w3 w4 w5 t4 t41 t42 t43 t44 t45 t46 t47 t48 t49 fW fX fY fZ xs aO aY bj)))) (dv F κ n (c9 view name (aj (i+1)) aC au ar w w1 w2 w3 w4 w5 t4 t41 t42 t43 t44 t45 t46 t47 t48 t49 fW fX fY fZ xs aO aY bj)))) (κ (.exit 0) (yS view name aC au ar t4 t41 t42 t43 t44 t45 t46 t47 t48 t49 fW fX fY fZ xs aO aY bj)):=by kernel_rfl
theorem OM (view:Int)(name:ByteArray)(aC:List Int)(au ar t4 t41:Int)(t42:ByteArray)(t43:Int)(t44:ByteArray)(t45:Int)(t46:ByteArray)(t47:Int)(t48:ByteArray)(t49 fW fX fY fZ:Int)(xs aO aY bj:List Int):fi F (.exit 0) (yS view name aC au ar t4 t41 t42 t43 t44 t45 t46 t47 t48 t49 fW fX fY fZ xs aO aY bj)=some (((2,0,(al,0,al,[]),(view,name,xs),(0,al,[]),0,0,0,0,0),()),(aC,au,ar),()):=by kernel_rfl
abbrev asg:List (Ty×Bool):=[(K2,true),(iM,true)]
def qd (c:D2)(w:pt):=DX l8 F l9 f114 asg 0 .cur xk jX 2 (c,w,())
theorem U4 (c:D2)(w:pt):qd F c w=(ax F0 c 4).bind fun dA=>(kW F0 al (aj (1+dA.1.1)) []).bind fun lM=>ck (fg F 0 w.2.1.length 8) (br (decide ((w.2.2.2.2.length:Int)>0)) ((bV F0 (w.2.2.2.2.length:Int) 8).bind fun tW=>(ax F0 dA.2.1 tW.1).bind fun qT=>ck (cl (aj ((aj ((w.2.2.2.2.length:Int)-1))-qT.1.1)) (w.2.2.2.2.length:Int)) ((nG F0 qT.2.1 3).bind fun Qt=>br Qt.1.1 ((mu F0 (aP w.2.2.2.2 (aj ((aj ((w.2.2.2.2.length:Int)-1))-qT.1.1)) eh.aG).2.1).bind fun Qu=>(kW F0 Qu.1 (aP w.2.2.2.2 (aj ((aj ((w.2.2.2.2.length:Int)-1))-qT.1.1)) eh.aG).1 [(1,0,1,0)]).bind fun EY=>dv F (fi F) F.n (c9 (aP w.2.2.2.2 (aj ((aj ((w.2.2.2.2.length:Int)-1))-qT.1.1)) eh.aG).1 EY.1 0 Qt.2.1.1 Qt.2.1.2.1 Qt.2.1.2.2 w.1.1 w.1.2 w.2.1 w.2.2.1 w.2.2.2.1 w.2.2.2.2 0 0 al 0 al 0 al 0 al 0 0 0 0 0 ([]++w.2.1) [] [] [])) (dv F (fi F) F.n (c9 (aP w.2.2.2.2 (aj ((aj ((w.2.2.2.2.length:Int)-1))-qT.1.1)) eh.aG).1 (aP w.2.2.2.2 (aj ((aj ((w.2.2.2.2.length:Int)-1))-qT.1.1)) eh.aG).2.1 0 Qt.2.1.1 Qt.2.1.2.1 Qt.2.1.2.2 w.1.1 w.1.2 w.2.1 w.2.2.1 w.2.2.2.1 w.2.2.2.2 0 0 al 0 al 0 al 0 al 0 0 0 0 0 ([]++w.2.1) [] [] [])))) (dv F (fi F) F.n (c9 (aj (1+dA.1.1)) lM.1 0 dA.2.1.1 dA.2.1.2.1 dA.2.1.2.2 w.1.1 w.1.2 w.2.1 w.2.2.1 w.2.2.2.1 w.2.2.2.2 0 0 al 0 al 0 al 0 al 0 0 0 0 0 ([]++w.2.1) [] [] []))):=by kernel_rfl
def AO:Any:=.two ⟨asg,0,.cur,xk,2,jX,fun x=>qd F0 x.1 x.2.1⟩
theorem U5:bm 114 AO:=Uy l8 ⟨gu,yd,pD,U1,Hd,U3,trivial⟩ func114 l9 (by kernel_rfl)
def Hn: Option (Args gX):=bF aF F ab f116 [] gX 2 (())
theorem ajH: Hn F= some ((0,al,[]),()):=by kernel_rfl
def ON:Any:=.one ⟨[],gX,2,fun x=>Hn F0⟩
theorem ajI:bm 116 ON:=aA aF trivial func116 ab (by kernel_rfl)
def qe:=[(27,eV),(57,oR),(63,q9),(65,j3),(106,jI),(112,yR),(114,AO),(115,hU),(116,ON),(117,iX)]
def qf:Nat→Option Hint:=look [(17,{live:=[0,3,4,6,7,8,9],xY:=[(4,5,3,.int .i64),(4,8,3,.int .i64),(4,11,3,.int .i64)],xl:=[0,3,4,6,8],rl:=[4]})]
def bD (dm view k:Int)(aC:List Int)(au ar w w1:Int)(w2:List Int)(w3:List bz)(w4:List cU)(w5:List cE)(t4 t41:Int)(t42:ByteArray)(t43:Int)(t44:ByteArray)(t45:Int)(t46:ByteArray)(t47:Int)(t48:ByteArray)(t49 fW fX fY fZ q:Int)(q1:ByteArray)(xs aO aY bj:List Int):St:={nt:=115,tm:=[(0,.v (.c (.ptr 4000000 0))),cS 3,cS 4,cS 6,(7,bR dm),(8,bR view),(9,bR k)],bx:=[(4000000,[.ro true 5 (.int .u8) aC,aq au,aq ar]),(3,[aq w,aq w1,.ro false 3 (.int .i64) w2,.ro false 50 (db) w3,.ro false 114 (fU) w4,.ro false 127 (eh) w5]),(4,[aq t4,aq t41,.str t42,aq t43,.str t44,.own 1000000 none,aq t45,.str t46,.own 1000001 none,aq t47,.str t48,.own 1000002 none,aq t49,aq fW,aq fX,aq fY,aq fZ]),(6,[aq q,.str q1,.own 1000003 none])],bl:=[aB 1000000 3 (.int .i64) xs,aB 1000001 3 (.int .i64) aO,aB 1000002 3 (.int .i64) aY,aB 1000003 3 (.int .i64) bj],sp:=.v (.c (.ptr 4000000 0))}
def iz (view:Int)(aC:List Int)(au ar w w1:Int)(w2:List Int)(w3:List bz)(w4:List cU)(w5:List cE)(t4 t41:Int)(t42:ByteArray)(t43:Int)(t44:ByteArray)(t45:Int)(t46:ByteArray)(t47:Int)(t48:ByteArray)(t49 fW fX fY fZ q:Int)(q1:ByteArray)(xs aO aY bj:List Int):St:={nt:=115,tm:=[(0,.v (.c (.ptr 4000000 0))),cS 3,cS 4,cS 6,(8,bR view)],bx:=[(4000000,[.ro true 5 (.int .u8) aC,aq au,aq ar]),(3,[aq w,aq w1,.ro false 3 (.int .i64) w2,.ro false 50 (db) w3,.ro false 114 (fU) w4,.ro false 127 (eh) w5]),(4,[aq t4,aq t41,.str t42,aq t43,.str t44,.own 1000000 none,aq t45,.str t46,.own 1000001 none,aq t47,.str t48,.own 1000002 none,aq t49,aq fW,aq fX,aq fY,aq fZ]),(6,[aq q,.str q1,.own 1000003 none])],bl:=[aB 1000000 3 (.int .i64) xs,aB 1000001 3 (.int .i64) aO,aB 1000002 3 (.int .i64) aY,aB 1000003 3 (.int .i64) bj],sp:=.v (.c (.ptr 4000000 0))}
def bW (st:St):Option α:=gW qe F qf [.r,.r,.r,.r,.r,.r,.r,.r,.l,.r,.b,.i] f64 κ n st
def bE:=awP qe F qf [.r,.r,.r,.r,.r,.r,.r,.r,.l,.r,.b] f64 .cur xk jX 2
theorem yT (dm view k:Int)(aC:List Int)(au ar w w1:Int)(w2:List Int)(w3:List bz)(w4:List cU)(w5:List cE)(t4 t41:Int)(t42:ByteArray)(t43:Int)(t44:ByteArray)(t45:Int)(t46:ByteArray)(t47:Int)(t48:ByteArray)(t49 fW fX fY fZ q:Int)(q1:ByteArray)(xs aO aY bj:List Int):bW F κ (n+1) (bD dm view k aC au ar w w1 w2 w3 w4 w5 t4 t41 t42 t43 t44 t45 t46 t47 t48 t49 fW fX fY fZ q q1 xs aO aY bj)=br (decide (k<7)) (br (decide (view<60)) ((mH F0 (w,w1) view).bind fun r94=>br (r94.1 != dm) (bW F κ n (bD dm (aj (view+1)) (aj (k+1)) aC au ar w w1 w2 w3 w4 w5 t4 t41 t42 t43 t44 t45 t46 t47 t48 t49 fW fX fY fZ q q1 xs aO aY bj)) (κ (.exit 1) (iz view aC au ar w w1 w2 w3 w4 w5 t4 t41 t42 t43 t44 t45 t46 t47 t48 t49 fW fX fY fZ q q1 xs aO aY bj))) (κ (.exit 1) (iz view aC au ar w w1 w2 w3 w4 w5 t4 t41 t42 t43 t44 t45 t46 t47 t48 t49 fW fX fY fZ q q1 xs aO aY bj))) (κ (.exit 1) (iz view aC au ar w w1 w2 w3 w4 w5 t4 t41 t42 t43 t44 t45 t46 t47 t48 t49 fW fX fY fZ q q1 xs aO aY bj)):=by kernel_rfl
theorem TG (view:Int)(aC:List Int)(au ar w w1:Int)(w2:List Int)(w3:List bz)(w4:List cU)(w5:List cE)(t4 t41:Int)(t42:ByteArray)(t43:Int)(t44:ByteArray)(t45:Int)(t46:ByteArray)(t47:Int)(t48:ByteArray)(t49 fW fX fY fZ q:Int)(q1:ByteArray)(xs aO aY bj:List Int):bE F (.exit 1) (iz view aC au ar w w1 w2 w3 w4 w5 t4 t41 t42 t43 t44 t45 t46 t47 t48 t49 fW fX fY fZ q q1 xs aO aY bj)=(mK F0 (aC,au,ar)).bind fun aMq=>(pC F0 (w,w1) (q,q1,bj) view [aMq.1.1]).bind fun amJ=>some (((1,0,amJ.1,(0,al,[]),(0,al,[]),0,0,0,0,0),()),aMq.2.1,()):=by kernel_rfl
def iY (c:D2)(w:pt):=DX qe F qf f64 asg 0 .cur xk jX 2 (c,w,())
theorem aaz (c:D2)(w:pt):iY F c w=(qd F0 c w).bind fun lM=>(kv F0 w.1 lM.1.1.2.2.2.1).bind fun UE=>br (!UE.1) ((Hn F0).bind fun Fj=>br (decide ((w.2.2.1.length:Int)>0)) ((nG F0 lM.2.1 2).bind fun Ff=>br Ff.1.1 ((ax F0 Ff.2.1 (w.2.2.1.length:Int)).bind fun r45=>ck (cl r45.1.1 (w.2.2.1.length:Int)) ((jH F0 (aP w.2.2.1 r45.1.1 db.aG).2.2.2.1.2.2.1).bind fun EY=>br (decide ((w.2.1.length:Int)>0)) ((ax F0 r45.2.1 (w.2.1.length:Int)).bind fun Ix=>ck (cl Ix.1.1 (w.2.1.length:Int)) ((ax F0 Ix.2.1 4).bind fun eY=>br (eY.1.1==0) (some ((lM.1.1,()),eY.2.1,())) (br (eY.1.1==1) ((ax F0 eY.2.1 2).bind fun Lu=>(bV F0 (aj ((aj (EY.1.1+1))+Lu.1.1)) 60).bind fun r77=>some (((3,r77.1,(al,0,al,[]),(0,al,[]),EY.1,aP w.2.1 Ix.1.1 0,0,0,0,0),()),Lu.2.1,())) (bW F (bE F) F.n (bD (aP w.2.1 Ix.1.1 0) (aj (EY.1.1+1)) 0 eY.2.1.1 eY.2.1.2.1 eY.2.1.2.2 w.1.1 w.1.2 w.2.1 w.2.2.1 w.2.2.2.1 w.2.2.2.2 0 0 al 0 al 0 al 0 al 0 0 0 0 0 EY.1.1 EY.1.2.1 [] [] [] EY.1.2.2))))) ((ax F0 r45.2.1 4).bind fun eY=>br (eY.1.1==0) (some ((lM.1.1,()),eY.2.1,())) (br (eY.1.1==1) ((ax F0 eY.2.1 2).bind fun Lu=>(bV F0 (aj ((aj (EY.1.1+1))+Lu.1.1)) 60).bind fun r77=>some (((3,r77.1,(al,0,al,[]),(0,al,[]),EY.1,0,0,0,0,0),()),Lu.2.1,())) (bW F (bE F) F.n (bD 0 (aj (EY.1.1+1)) 0 eY.2.1.1 eY.2.1.2.1 eY.2.1.2.2 w.1.1 w.1.2 w.2.1 w.2.2.1 w.2.2.2.1 w.2.2.2.2 0 0 al 0 al 0 al 0 al 0 0 0 0 0 EY.1.1 EY.1.2.1 [] [] [] EY.1.2.2)))))) (br (decide ((w.2.1.length:Int)>0)) ((ax F0 Ff.2.1 (w.2.1.length:Int)).bind fun Ix=>ck (cl Ix.1.1 (w.2.1.length:Int)) ((ax F0 Ix.2.1 4).bind fun eY=>br (eY.1.1==0) (some ((lM.1.1,()),eY.2.1,())) (br (eY.1.1==1) ((ax F0 eY.2.1 2).bind fun Lu=>(bV F0 (aj ((aj (Fj.1.1+1))+Lu.1.1)) 60).bind fun r77=>some (((3,r77.1,(al,0,al,[]),(0,al,[]),Fj.1,aP w.2.1 Ix.1.1 0,0,0,0,0),()),Lu.2.1,())) (bW F (bE F) F.n (bD (aP w.2.1 Ix.1.1 0) (aj (Fj.1.1+1)) 0 eY.2.1.1 eY.2.1.2.1 eY.2.1.2.2 w.1.1 w.1.2 w.2.1 w.2.2.1 w.2.2.2.1 w.2.2.2.2 0 0 al 0 al 0 al 0 al 0 0 0 0 0 Fj.1.1 Fj.1.2.1 [] [] [] Fj.1.2.2))))) ((ax F0 Ff.2.1 4).bind fun eY=>br (eY.1.1==0) (some ((lM.1.1,()),eY.2.1,())) (br (eY.1.1==1) ((ax F0 eY.2.1 2).bind fun Lu=>(bV F0 (aj ((aj (Fj.1.1+1))+Lu.1.1)) 60).bind fun r77=>some (((3,r77.1,(al,0,al,[]),(0,al,[]),Fj.1,0,0,0,0,0),()),Lu.2.1,())) (bW F (bE F) F.n (bD 0 (aj (Fj.1.1+1)) 0 eY.2.1.1 eY.2.1.2.1 eY.2.1.2.2 w.1.1 w.1.2 w.2.1 w.2.2.1 w.2.2.2.1 w.2.2.2.2 0 0 al 0 al 0 al 0 al 0 0 0 0 0 Fj.1.1 Fj.1.2.1 [] [] [] Fj.1.2.2)))))) (br (decide ((w.2.1.length:Int)>0)) ((ax F0 lM.2.1 (w.2.1.length:Int)).bind fun Ix=>ck (cl Ix.1.1 (w.2.1.length:Int)) ((ax F0 Ix.2.1 4).bind fun eY=>br (eY.1.1==0) (some ((lM.1.1,()),eY.2.1,())) (br (eY.1.1==1) ((ax F0 eY.2.1 2).bind fun Lu=>(bV F0 (aj ((aj (Fj.1.1+1))+Lu.1.1)) 60).bind fun r77=>some (((3,r77.1,(al,0,al,[]),(0,al,[]),Fj.1,aP w.2.1 Ix.1.1 0,0,0,0,0),()),Lu.2.1,())) (bW F (bE F) F.n (bD (aP w.2.1 Ix.1.1 0) (aj (Fj.1.1+1)) 0 eY.2.1.1 eY.2.1.2.1 eY.2.1.2.2 w.1.1 w.1.2 w.2.1 w.2.2.1 w.2.2.2.1 w.2.2.2.2 0 0 al 0 al 0 al 0 al 0 0 0 0 0 Fj.1.1 Fj.1.2.1 [] [] [] Fj.1.2.2))))) ((ax F0 lM.2.1 4).bind fun eY=>br (eY.1.1==0) (some ((lM.1.1,()),eY.2.1,())) (br (eY.1.1==1) ((ax F0 eY.2.1 2).bind fun Lu=>(bV F0 (aj ((aj (Fj.1.1+1))+Lu.1.1)) 60).bind fun r77=>some (((3,r77.1,(al,0,al,[]),(0,al,[]),Fj.1,0,0,0,0,0),()),Lu.2.1,())) (bW F (bE F) F.n (bD 0 (aj (Fj.1.1+1)) 0 eY.2.1.1 eY.2.1.2.1 eY.2.1.2.2 w.1.1 w.1.2 w.2.1 w.2.2.1 w.2.2.2.1 w.2.2.2.2 0 0 al 0 al 0 al 0 al 0 0 0 0 0 Fj.1.1 Fj.1.2.1 [] [] [] Fj.1.2.2)))))) (br (decide ((w.2.1.length:Int)>0)) ((ax F0 lM.2.1 (w.2.1.length:Int)).bind fun Ix=>ck (cl Ix.1.1 (w.2.1.length:Int)) ((ax F0 Ix.2.1 4).bind fun eY=>br (eY.1.1==0) (some ((lM.1.1,()),eY.2.1,())) (br (eY.1.1==1) ((ax F0 eY.2.1 2).bind fun Lu=>(bV F0 (aj ((aj (lM.1.1.2.2.2.1.1+1))+Lu.1.1)) 60).bind fun r77=>some (((3,r77.1,(al,0,al,[]),(0,al,[]),lM.1.1.2.2.2.1,aP w.2.1 Ix.1.1 0,0,0,0,0),()),Lu.2.1,())) (bW F (bE F) F.n (bD (aP w.2.1 Ix.1.1 0) (aj (lM.1.1.2.2.2.1.1+1)) 0 eY.2.1.1 eY.2.1.2.1 eY.2.1.2.2 w.1.1 w.1.2 w.2.1 w.2.2.1 w.2.2.2.1 w.2.2.2.2 0 0 al 0 al 0 al 0 al 0 0 0 0 0 lM.1.1.2.2.2.1.1 lM.1.1.2.2.2.1.2.1 [] [] [] lM.1.1.2.2.2.1.2.2))))) ((ax F0 lM.2.1 4).bind fun eY=>br (eY.1.1==0) (some ((lM.1.1,()),eY.2.1,())) (br (eY.1.1==1) ((ax F0 eY.2.1 2).bind fun Lu=>(bV F0 (aj ((aj (lM.1.1.2.2.2.1.1+1))+Lu.1.1)) 60).bind fun r77=>some (((3,r77.1,(al,0,al,[]),(0,al,[]),lM.1.1.2.2.2.1,0,0,0,0,0),()),Lu.2.1,())) (bW F (bE F) F.n (bD 0 (aj (lM.1.1.2.2.2.1.1+1)) 0 eY.2.1.1 eY.2.1.2.1 eY.2.1.2.2 w.1.1 w.1.2 w.2.1 w.2.2.1 w.2.2.2.1 w.2.2.2.2 0 0 al 0 al 0 al 0 al 0 0 0 0 0 lM.1.1.2.2.2.1.1 lM.1.1.2.2.2.1.2.1 [] [] [] lM.1.1.2.2.2.1.2.2))))):=by kernel_rfl
def Ga:Any:=.two ⟨asg,0,.cur,xk,2,jX,fun x=>iY F0 x.1 x.2.1⟩
theorem aaA:bm 64 Ga:=Uy qe ⟨gu,yd,F9,pD,nX,OK,U5,kR,ajI,mC,trivial⟩ func64 qf (by kernel_rfl)
def gL:=[(27,eV),(56,nS),(57,oR),(60,iw),(61,QP),(62,dw),(63,q9),(64,Ga),(65,j3)]
def gM:Nat→Option Hint:=look [(8,{live:=[3,4,5,6,7],xY:=[(4,8,3,.int .i64),(4,11,3,.int .i64),(4,14,3,.int .i64)],xl:=[4,6],rl:=[4]}),(19,{live:=[0,3,4,5,6,10],xY:=[(4,8,3,.int .i64),(4,11,3,.int .i64),(4,14,3,.int .i64)],xl:=[0,3,4,6],rl:=[4]})]
def dH (n1 a k:Int)(aC:List Int)(au ar w w1:Int)(w2:List Int)(w3:List bz)(w4:List cU)(w5:List cE)(t4 t41 t42 t43 t44:Int)(t45:ByteArray)(t46:Int)(t47:ByteArray)(t48:Int)(t49:ByteArray)(fW:Int)(fX:ByteArray)(fY fZ xL xM xN:Int)(xs aO aY:List Int):St:={nt:=152,tm:=[(0,.v (.c (.ptr 4000000 0))),cS 3,cS 4,(5,bR n1),(6,bR a),(10,bR k)],bx:=[(4000000,[.ro true 5 (.int .u8) aC,aq au,aq ar]),(3,[aq w,aq w1,.ro false 3 (.int .i64) w2,.ro false 50 (db) w3,.ro false 114 (fU) w4,.ro false 127 (eh) w5]),(4,[aq t4,aq t41,aq t42,aq t43,aq t44,.str t45,aq t46,.str t47,.own 1000000 none,aq t48,.str t49,.own 1000001 none,aq fW,.str fX,.own 1000002 none,aq fY,aq fZ,aq xL,aq xM,aq xN])],bl:=[aB 1000000 3 (.int .i64) xs,aB 1000001 3 (.int .i64) aO,aB 1000002 3 (.int .i64) aY],sp:=.v (.c (.ptr 4000000 0))}
def Eh (aC:List Int)(au ar t4 t41 t42 t43 t44:Int)(t45:ByteArray)(t46:Int)(t47:ByteArray)(t48:Int)(t49:ByteArray)(fW:Int)(fX:ByteArray)(fY fZ xL xM xN:Int):St:={nt:=152,tm:=[cS 4],bx:=[(4000000,[.ro true 5 (.int .u8) aC,aq au,aq ar]),(4,[aq t4,aq t41,aq t42,aq t43,aq t44,.str t45,aq t46,.str t47,.nil,aq t48,.str t49,.nil,aq fW,.str fX,.nil,aq fY,aq fZ,aq xL,aq xM,aq xN])],bl:=[],sp:=.v (.c (.ptr 4000000 0))}
def AP (a:Int)(aC:List Int)(au ar w w1:Int)(w2:List Int)(w3:List bz)(w4:List cU)(w5:List cE)(t4 t41 t42 t43 t44:Int)(t45:ByteArray)(t46:Int)(t47:ByteArray)(t48:Int)(t49:ByteArray)(fW:Int)(fX:ByteArray)(fY fZ xL xM xN:Int)(xs aO aY:List Int):St:={nt:=152,tm:=[(0,.v (.c (.ptr 4000000 0))),cS 3,cS 4,(6,bR a)],bx:=[(4000000,[.ro true 5 (.int .u8) aC,aq au,aq ar]),(3,[aq w,aq w1,.ro false 3 (.int .i64) w2,.ro false 50 (db) w3,.ro false 114 (fU) w4,.ro false 127 (eh) w5]),(4,[aq t4,aq t41,aq t42,aq t43,aq t44,.str t45,aq t46,.str t47,.own 1000000 none,aq t48,.str t49,.own 1000001 none,aq fW,.str fX,.own 1000002 none,aq fY,aq fZ,aq xL,aq xM,aq xN])],bl:=[aB 1000000 3 (.int .i64) xs,aB 1000001 3 (.int .i64) aO,aB 1000002 3 (.int .i64) aY],sp:=.v (.c (.ptr 4000000 0))}
def eF (st:St):Option α:=gW gL F gM [.r,.r,.r,.l,.r,.b,.r,.e,.r,.t,.r,.b,.i] f29 κ n st
def dI:=awP gL F gM [.r,.r,.r,.l,.r,.b,.r,.e,.r,.t,.r,.b] f29 .cur [(K45,true)] jX 2
def dJ (n1 a k:Int)(aC:List Int)(au ar w w1:Int)(w2:List Int)(w3:List bz)(w4:List cU)(w5:List cE)(t4 t41 t42 t43 t44:Int)(t45:ByteArray)(t46:Int)(t47:ByteArray)(t48:Int)(t49:ByteArray)(fW:Int)(fX:ByteArray)(fY fZ xL xM xN:Int)(xs aO aY:List Int):St:={nt:=152,tm:=[cS 3,cS 4,(5,bR n1),(6,bR a),(7,bR k)],bx:=[(4000000,[.ro true 5 (.int .u8) aC,aq au,aq ar]),(3,[aq w,aq w1,.ro false 3 (.int .i64) w2,.ro false 50 (db) w3,.ro false 114 (fU) w4,.ro false 127 (eh) w5]),(4,[aq t4,aq t41,aq t42,aq t43,aq t44,.str t45,aq t46,.str t47,.own 1000000 none,aq t48,.str t49,.own 1000001 none,aq fW,.str fX,.own 1000002 none,aq fY,aq fZ,aq xL,aq xM,aq xN])],bl:=[aB 1000000 3 (.int .i64) xs,aB 1000001 3 (.int .i64) aO,aB 1000002 3 (.int .i64) aY],sp:=.v (.c (.ptr 4000000 0))}
def Ei (aC:List Int)(au ar t4 t41 t42 t43 t44:Int)(t45:ByteArray)(t46:Int)(t47:ByteArray)(t48:Int)(t49:ByteArray)(fW:Int)(fX:ByteArray)(fY fZ xL xM xN:Int):St:={nt:=152,tm:=[cS 4],bx:=[(4000000,[.ro true 5 (.int .u8) aC,aq au,aq ar]),(4,[aq t4,aq t41,aq t42,aq t43,aq t44,.str t45,aq t46,.str t47,.nil,aq t48,.str t49,.nil,aq fW,.str fX,.nil,aq fY,aq fZ,aq xL,aq xM,aq xN])],bl:=[],sp:=.v (.c (.ptr 4000000 0))}
def AQ (a:Int)(aC:List Int)(au ar t4 t41 t42 t43 t44:Int)(t45:ByteArray)(t46:Int)(t47:ByteArray)(t48:Int)(t49:ByteArray)(fW:Int)(fX:ByteArray)(fY fZ xL xM xN:Int)(xs aO aY:List Int):St:={nt:=152,tm:=[cS 4,(6,bR a)],bx:=[(4000000,[.ro true 5 (.int .u8) aC,aq au,aq ar]),(4,[aq t4,aq t41,aq t42,aq t43,aq t44,.str t45,aq t46,.str t47,.own 1000000 none,aq t48,.str t49,.own 1000001 none,aq fW,.str fX,.own 1000002 none,aq fY,aq fZ,aq xL,aq xM,aq xN])],bl:=[aB 1000000 3 (.int .i64) xs,aB 1000001 3 (.int .i64) aO,aB 1000002 3 (.int .i64) aY],sp:=.v (.c (.ptr 4000000 0))}
def eG (st:St):Option α:=gW gL F gM [.r,.r,.r,.l,.r,.b,.r,.t,.l,.r,.b,.i] f29 κ n st
def eH:=awP gL F gM [.r,.r,.r,.l,.r,.b,.r,.t,.l,.r,.b] f29 .cur [(K45,true)] jX 2
theorem xp (n1 a k:Int)(aC:List Int)(au ar w w1:Int)(w2:List Int)(w3:List bz)(w4:List cU)(w5:List cE)(t4 t41 t42 t43 t44:Int)(t45:ByteArray)(t46:Int)(t47:ByteArray)(t48:Int)(t49:ByteArray)(fW:Int)(fX:ByteArray)(fY fZ xL xM xN:Int)(xs aO aY:List Int):eF F κ (n+1) (dH n1 a k aC au ar w w1 w2 w3 w4 w5 t4 t41 t42 t43 t44 t45 t46 t47 t48 t49 fW fX fY fZ xL xM xN xs aO aY)=br (decide (k<n1)) (ck (!(n1==0)) (ck (cl (Int.tmod (aj (a+k)) n1) (w3.length:Int)) (br (decide (((aP w3 (Int.tmod (aj (a+k)) n1) db.aG).2.2.2.2.2.2.2.length:Int)>0)) (ck (!(n1==0)) (κ .ret (Eh aC au ar 2 (Int.tmod (aj (a+k)) n1) 0 0 0 al 0 al 0 al 0 al 0 0 0 0 0))) (eF F κ n (dH n1 a (aj (k+1)) aC au ar w w1 w2 w3 w4 w5 t4 t41 t42 t43 t44 t45 t46 t47 t48 t49 fW fX fY fZ xL xM xN xs aO aY))))) (κ (.exit 3) (AP a aC au ar w w1 w2 w3 w4 w5 t4 t41 t42 t43 t44 t45 t46 t47 t48 t49 fW fX fY fZ xL xM xN xs aO aY)):=by kernel_rfl
theorem xq (n1 a k:Int)(aC:List Int)(au ar w w1:Int)(w2:List Int)(w3:List bz)(w4:List cU)(w5:List cE)(t4 t41 t42 t43 t44:Int)(t45:ByteArray)(t46:Int)(t47:ByteArray)(t48:Int)(t49:ByteArray)(fW:Int)(fX:ByteArray)(fY fZ xL xM xN:Int)(xs aO aY:List Int):eG F κ (n+1) (dJ n1 a k aC au ar w w1 w2 w3 w4 w5 t4 t41 t42 t43 t44 t45 t46 t47 t48 t49 fW fX fY fZ xL xM xN xs aO aY)=br (decide (k<n1)) (ck (!(n1==0)) (ck (cl (Int.tmod (aj (a+k)) n1) (w3.length:Int)) ((U2 F0 (w,w1) (aP w3 (Int.tmod (aj (a+k)) n1) db.aG)).bind fun r41=>br r41.2.1 (ck (!(n1==0)) ((dG F0 w2 (Int.tmod (aj (a+k)) n1)).bind fun Yt=>br (!Yt.1) (ck (!(n1==0)) (κ .ret (Ei aC au ar 1 (Int.tmod (aj (a+k)) n1) 0 0 0 al 0 al 0 al 0 al 0 0 0 0 0))) (eG F κ n (dJ n1 a (aj (k+1)) aC au ar w w1 w2 w3 w4 w5 t4 t41 t42 t43 t44 t45 t46 t47 t48 t49 fW fX fY fZ xL xM xN xs aO aY)))) (eG F κ n (dJ n1 a (aj (k+1)) aC au ar w w1 w2 w3 w4 w5 t4 t41 t42 t43 t44 t45 t46 t47 t48 t49 fW fX fY fZ xL xM xN xs aO aY))))) (κ (.exit 1) (AQ a aC au ar t4 t41 t42 t43 t44 t45 t46 t47 t48 t49 fW fX fY fZ xL xM xN xs aO aY)):=by kernel_rfl
theorem TH (aC:List Int)(au ar t4 t41 t42 t43 t44:Int)(t45:ByteArray)(t46:Int)(t47:ByteArray)(t48:Int)(t49:ByteArray)(fW:Int)(fX:ByteArray)(fY fZ xL xM xN:Int):dI F .ret (Eh aC au ar t4 t41 t42 t43 t44 t45 t46 t47 t48 t49 fW fX fY fZ xL xM xN)=some (((t4,t41,t42,t43,t44,(t45,t46,t47,[]),(t48,t49,[]),(fW,fX,[]),fY,fZ,xL,xM,xN),()),(aC,au,ar),()):=by kernel_rfl
theorem QQ (a:Int)(aC:List Int)(au ar w w1:Int)(w2:List Int)(w3:List bz)(w4:List cU)(w5:List cE)(t4 t41 t42 t43 t44:Int)(t45:ByteArray)(t46:Int)(t47:ByteArray)(t48:Int)(t49:ByteArray)(fW:Int)(fX:ByteArray)(fY fZ xL xM xN:Int)(xs aO aY:List Int):dI F (.exit 3) (AP a aC au ar w w1 w2 w3 w4 w5 t4 t41 t42 t43 t44 t45 t46 t47 t48 t49 fW fX fY fZ xL xM xN xs aO aY)=br ((w4.length:Int)==0) (some (((2,a,0,0,0,(al,0,al,[]),(0,al,[]),(0,al,[]),0,0,0,0,0),()),(aC,au,ar),())) ((bV F0 (w4.length:Int) 4).bind fun afx=>(ax F0 (aC,au,ar) afx.1).bind fun OO=>some (((3,OO.1.1,0,0,0,(al,0,al,[]),(0,al,[]),(0,al,[]),0,0,0,0,0),()),OO.2.1,())):=by kernel_rfl
theorem TI (aC:List Int)(au ar t4 t41 t42 t43 t44:Int)(t45:ByteArray)(t46:Int)(t47:ByteArray)(t48:Int)(t49:ByteArray)(fW:Int)(fX:ByteArray)(fY fZ xL xM xN:Int):eH F .ret (Ei aC au ar t4 t41 t42 t43 t44 t45 t46 t47 t48 t49 fW fX fY fZ xL xM xN)=some (((t4,t41,t42,t43,t44,(t45,t46,t47,[]),(t48,t49,[]),(fW,fX,[]),fY,fZ,xL,xM,xN),()),(aC,au,ar),()):=by kernel_rfl
theorem QR (a:Int)(aC:List Int)(au ar t4 t41 t42 t43 t44:Int)(t45:ByteArray)(t46:Int)(t47:ByteArray)(t48:Int)(t49:ByteArray)(fW:Int)(fX:ByteArray)(fY fZ xL xM xN:Int)(xs aO aY:List Int):eH F (.exit 1) (AQ a aC au ar t4 t41 t42 t43 t44 t45 t46 t47 t48 t49 fW fX fY fZ xL xM xN xs aO aY)=some (((7,a,0,0,0,(al,0,al,[]),(0,al,[]),(0,al,[]),0,0,0,0,0),()),(aC,au,ar),()):=by kernel_rfl
def so (c:D2)(w:pt):=DX gL F gM f29 asg 0 .cur [(K45,true)] jX 2 (c,w,())
theorem XO (c:D2)(w:pt):so F c w=(eD F0 (w.2.2.1.length:Int) 1).bind fun oM=>(ax F0 c oM.1).bind fun fh=>(ax F0 fh.2.1 20).bind fun dM=>br (dM.1.1==0) (eG F (eH F) F.n (dJ (w.2.2.1.length:Int) fh.1.1 0 dM.2.1.1 dM.2.1.2.1 dM.2.1.2.2 w.1.1 w.1.2 w.2.1 w.2.2.1 w.2.2.2.1 w.2.2.2.2 0 0 0 0 0 al 0 al 0 al 0 al 0 0 0 0 0 [] [] [])) (br (dM.1.1==1) (eG F (eH F) F.n (dJ (w.2.2.1.length:Int) fh.1.1 0 dM.2.1.1 dM.2.1.2.1 dM.2.1.2.2 w.1.1 w.1.2 w.2.1 w.2.2.1 w.2.2.2.1 w.2.2.2.2 0 0 0 0 0 al 0 al 0 al 0 al 0 0 0 0 0 [] [] [])) (br (dM.1.1==2) (eG F (eH F) F.n (dJ (w.2.2.1.length:Int) fh.1.1 0 dM.2.1.1 dM.2.1.2.1 dM.2.1.2.2 w.1.1 w.1.2 w.2.1 w.2.2.1 w.2.2.2.1 w.2.2.2.2 0 0 0 0 0 al 0 al 0 al 0 al 0 0 0 0 0 [] [] [])) (br (dM.1.1==3) (eF F (dI F) F.n (dH (w.2.2.1.length:Int) fh.1.1 0 dM.2.1.1 dM.2.1.2.1 dM.2.1.2.2 w.1.1 w.1.2 w.2.1 w.2.2.1 w.2.2.2.1 w.2.2.2.2 0 0 0 0 0 al 0 al 0 al 0 al 0 0 0 0 0 [] [] [])) (br (dM.1.1==4) (eF F (dI F) F.n (dH (w.2.2.1.length:Int) fh.1.1 0 dM.2.1.1 dM.2.1.2.1 dM.2.1.2.2 w.1.1 w.1.2 w.2.1 w.2.2.1 w.2.2.2.1 w.2.2.2.2 0 0 0 0 0 al 0 al 0 al 0 al 0 0 0 0 0 [] [] [])) (br (dM.1.1==5) (eF F (dI F) F.n (dH (w.2.2.1.length:Int) fh.1.1 0 dM.2.1.1 dM.2.1.2.1 dM.2.1.2.2 w.1.1 w.1.2 w.2.1 w.2.2.1 w.2.2.2.1 w.2.2.2.2 0 0 0 0 0 al 0 al 0 al 0 al 0 0 0 0 0 [] [] [])) (br (dM.1.1==6) (eF F (dI F) F.n (dH (w.2.2.1.length:Int) fh.1.1 0 dM.2.1.1 dM.2.1.2.1 dM.2.1.2.2 w.1.1 w.1.2 w.2.1 w.2.2.1 w.2.2.2.1 w.2.2.2.2 0 0 0 0 0 al 0 al 0 al 0 al 0 0 0 0 0 [] [] [])) (br (dM.1.1==7) (some (((6,fh.1.1,0,0,0,(al,0,al,[]),(0,al,[]),(0,al,[]),0,0,0,0,0),()),dM.2.1,())) (br (dM.1.1==8) (some (((7,fh.1.1,0,0,0,(al,0,al,[]),(0,al,[]),(0,al,[]),0,0,0,0,0),()),dM.2.1,())) (br (dM.1.1==9) ((nG F0 dM.2.1 2).bind fun aKg=>br aKg.1.1 ((jY F0 aKg.2.1 [0,0,5,40,9999]).bind fun aMr=>some (((8,fh.1.1,aMr.1.1,0,0,(al,0,al,[]),(0,al,[]),(0,al,[]),0,0,0,0,0),()),aMr.2.1,())) ((ax F0 aKg.2.1 2).bind fun amJ=>(eD F0 (w.2.2.2.1.length:Int) 1).bind fun aOw=>(ax F0 amJ.2.1 aOw.1).bind fun aMs=>some (((aj (4+amJ.1.1),aMs.1.1,0,0,0,(al,0,al,[]),(0,al,[]),(0,al,[]),0,0,0,0,0),()),aMs.2.1,()))) (br (dM.1.1==10) ((mK F0 dM.2.1).bind fun aMt=>some (((9,fh.1.1,0,4,0,(al,0,al,[]),(0,al,[]),(0,al,[]),0,aMt.1.1),()),aMt.2.1,())) (br (dM.1.1==11) (br (decide ((w.2.1.length:Int)>0)) ((iY F0 dM.2.1 w).bind fun amY=>some (((10,fh.1.1,0,amY.1.1),()),amY.2.1,())) (br ((w.2.2.2.1.length:Int)==0) (some (((2,fh.1.1,0,0,0,(al,0,al,[]),(0,al,[]),(0,al,[]),0,0,0,0,0),()),dM.2.1,())) ((bV F0 (w.2.2.2.1.length:Int) 4).bind fun afx=>(ax F0 dM.2.1 afx.1).bind fun OO=>some (((3,OO.1.1,0,0,0,(al,0,al,[]),(0,al,[]),(0,al,[]),0,0,0,0,0),()),OO.2.1,())))) (br (dM.1.1==12) (br (decide ((w.2.1.length:Int)>0)) ((iY F0 dM.2.1 w).bind fun amY=>some (((10,fh.1.1,0,amY.1.1),()),amY.2.1,())) (br ((w.2.2.2.1.length:Int)==0) (some (((2,fh.1.1,0,0,0,(al,0,al,[]),(0,al,[]),(0,al,[]),0,0,0,0,0),()),dM.2.1,())) ((bV F0 (w.2.2.2.1.length:Int) 4).bind fun afx=>(ax F0 dM.2.1 afx.1).bind fun OO=>some (((3,OO.1.1,0,0,0,(al,0,al,[]),(0,al,[]),(0,al,[]),0,0,0,0,0),()),OO.2.1,())))) (br (dM.1.1==13) (br (decide ((w.2.1.length:Int)>0)) ((iY F0 dM.2.1 w).bind fun amY=>some (((10,fh.1.1,0,amY.1.1),()),amY.2.1,())) (br ((w.2.2.2.1.length:Int)==0) (some (((2,fh.1.1,0,0,0,(al,0,al,[]),(0,al,[]),(0,al,[]),0,0,0,0,0),()),dM.2.1,())) ((bV F0 (w.2.2.2.1.length:Int) 4).bind fun afx=>(ax F0 dM.2.1 afx.1).bind fun OO=>some (((3,OO.1.1,0,0,0,(al,0,al,[]),(0,al,[]),(0,al,[]),0,0,0,0,0),()),OO.2.1,())))) (br ((w.2.2.2.1.length:Int)==0) (some (((2,fh.1.1,0,0,0,(al,0,al,[]),(0,al,[]),(0,al,[]),0,0,0,0,0),()),dM.2.1,())) ((bV F0 (w.2.2.2.1.length:Int) 4).bind fun afx=>(ax F0 dM.2.1 afx.1).bind fun OO=>some (((3,OO.1.1,0,0,0,(al,0,al,[]),(0,al,[]),(0,al,[]),0,0,0,0,0),()),OO.2.1,())))))))))))))))):=by kernel_rfl
def Ej:Any:=.two ⟨asg,0,.cur,[(K45,true)],2,jX,fun x=>so F0 x.1 x.2.1⟩
theorem XP:bm 29 Ej:=Uy gL ⟨gu,yc,yd,lP,ahY,eE,F9,aaA,pD,trivial⟩ func29 gM (by kernel_rfl)
def U6:=[(117,iX)]
def Ho (a b:D9):=bF U6 F ab f317 xi gX 2 (a,b,())
theorem ajK (a b:D9):Ho F a b=br (decide (a.1>b.1)) ((jH F0 a).bind fun dA=>some (dA.1,())) ((jH F0 b).bind fun cj=>some (cj.1,())):=by kernel_rfl
def OP:Any:=.one ⟨xi,gX,2,fun x=>Ho F0 x.1 x.2.1⟩
theorem ajL:bm 317 OP:=aA U6 ⟨mC,trivial⟩ func317 ab (by kernel_rfl)
def U7:=[(132,qR),(170,uf)]
abbrev aB9:List (Ty×Bool):=[(.str,false),(.bool,false)]
def Hp (name:ByteArray):=bF U7 F ab f318 ew aB9 1 (name,())
theorem ajM (name:ByteArray):Hp F name=(qQ F0 name).bind fun r9=>br (!r9.2.1) (some (al,false,())) (br (decide ((r9.1.length:Int)<3)) (some (al,false,())) (ck (cl (aj ((r9.1.length:Int)-1)) (r9.1.length:Int)) (ck (cl (aj ((r9.1.length:Int)-2)) (r9.1.length:Int)) (br ((aP r9.1 (aj ((r9.1.length:Int)-1)) (0,[])).1 != (aj ((aP r9.1 (aj ((r9.1.length:Int)-2)) (0,[])).1+1))) (some (al,false,())) (ck (cl (aj ((r9.1.length:Int)-2)) (r9.1.length:Int)) (ck (cl (aj ((r9.1.length:Int)-3)) (r9.1.length:Int)) (br ((aP r9.1 (aj ((r9.1.length:Int)-2)) (0,[])).1 != (aj ((aP r9.1 (aj ((r9.1.length:Int)-3)) (0,[])).1+1))) (some (al,false,())) ((mu F0 name).bind fun Yt=>(mu F0 Yt.1).bind fun W3=>some (W3.1,true,()))))))))):=by kernel_rfl
def OQ:Any:=.one ⟨ew,aB9,1,fun x=>Hp F0 x.1⟩
theorem ajN:bm 318 OQ:=aA U7 ⟨Cr,Hd,trivial⟩ func318 ab (by kernel_rfl)
def U8:=[(77,fA)]
abbrev YP:List (Ty×Bool):=[(.str,false),(.str,false)]
def Hq (s t:ByteArray):=bF U8 F ab f319 YP aZ 1 (s,t,())
theorem ajO (s t:ByteArray):Hq F s t=(fF F0 s).bind fun r6=>br (!r6.1) (some (false,())) ((fF F0 t).bind fun hY=>br (!hY.1) (some (false,())) (br (decide ((t.size:Int)>(s.size:Int))) (some (false,())) (ck (RN 0 (t.size:Int) (s.size:Int)) (br (!((s.extract (0:Int).toNat (t.size:Int).toNat).toList==t.toList)) (some (false,())) (br ((s.size:Int)==(t.size:Int)) (some (true,())) (ck (cl (t.size:Int) (s.size:Int)) (some ((lN s (t.size:Int))==47,())))))))):=by kernel_rfl
def OR:Any:=.one ⟨YP,aZ,1,fun x=>Hq F0 x.1 x.2.1⟩
theorem ajP:bm 319 OR:=aA U8 ⟨iv,trivial⟩ func319 ab (by kernel_rfl)
def amZ:=[(60,iw),(78,dW),(102,mD),(115,hU),(123,iW),(170,uf),(317,OP),(318,OQ),(319,OR)]
abbrev aCa:List (Ty×Bool):=[(K1,true),(K12,true),(K9,true)]
def OS (c:D1)(s:TF)(q:D9):=bF amZ F ab f280 aCa AM 2 (c,s,q,())
theorem awY (c:D1)(s:TF)(q:D9):OS F c s q=(nW F0 s).bind fun dA=>(jG F0 c s).bind fun lM=>br (!lM.1) (some (dA.1,())) ((kv F0 c q).bind fun dM=>br (!dM.1) (some (dA.1,())) ((Ho F0 q s.2.2.1).bind fun xg=>(mu F0 q.2.1).bind fun Ha=>(ea F0 Ha.1).bind fun tW=>(eD F0 s.2.1 tW.1).bind fun qT=>(Hp F0 q.2.1).bind fun Qs=>br Qs.2.1 ((Hq F0 Qs.1 s.2.2.2).bind fun px=>br px.1 (some ((dA.1.1,qT.1,xg.1,Qs.1),())) (some ((dA.1.1,qT.1,xg.1,dA.1.2.2.2),()))) (some ((dA.1.1,qT.1,xg.1,dA.1.2.2.2),())))):=by kernel_rfl
def Hr:Any:=.one ⟨aCa,AM,2,fun x=>OS F0 x.1 x.2.1 x.2.2.1⟩
theorem U9:bm 280 Hr:=aA amZ ⟨lP,fo,u1,kR,mq,Hd,ajL,ajN,ajP,trivial⟩ func280 ab (by kernel_rfl)
def Va:=[(78,dW),(123,iW),(169,mv)]
abbrev ahZ:List (Ty×Bool):=[(K1,true),(K12,true),(K15,true)]
def yU (c:D1)(s:TF)(b:D15):=bF Va F ab f281 ahZ aZ 1 (c,s,b,())
theorem ajQ (c:D1)(s:TF)(b:D15):yU F c s b=(jG F0 c s).bind fun r9=>br r9.1 ((nU F0 c b).bind fun cj=>br cj.1 ((ea F0 b.1).bind fun QO=>br (decide (QO.1>s.1)) (some (decide (b.2.1≥s.2.1),())) (some (false,()))) (some (false,()))) (some (false,())):=by kernel_rfl
def Bv:Any:=.one ⟨ahZ,aZ,1,fun x=>yU F0 x.1 x.2.1 x.2.2.1⟩
theorem Si:bm 281 Bv:=aA Va ⟨fo,mq,uS,trivial⟩ func281 ab (by kernel_rfl)
def ah0:=[(78,dW),(102,mD),(281,Bv)]
abbrev ah1:List (Ty×Bool):=[(K12,true),(.bool,false)]
def OT (c:D1)(s:TF)(b:D15):=bF ah0 F ab f282 ahZ ah1 2 (c,s,b,())
theorem aui (c:D1)(s:TF)(b:D15):OT F c s b=(nW F0 s).bind fun hY=>(yU F0 c s b).bind fun lM=>br (!lM.1) (some (hY.1,false,())) ((ea F0 b.1).bind fun dM=>some ((dM.1,hY.1.2),true,())):=by kernel_rfl
def YQ:Any:=.one ⟨ahZ,ah1,2,fun x=>OT F0 x.1 x.2.1 x.2.2.1⟩
theorem auj:bm 282 YQ:=aA ah0 ⟨fo,u1,Si,trivial⟩ func282 ab (by kernel_rfl)
def Sj:=[(293,uR)]
abbrev aCb:List (Ty×Bool):=[(K12,true),(K12,true)]
def CN (a b:TF):=bF Sj F ab f320 aCb aZ 1 (a,b,())
theorem afy (a b:TF):CN F a b=br (a.1==b.1) (br (a.2.1==b.2.1) ((xj F0 a.2.2.1 b.2.2.1).bind fun gr=>br gr.1 (some (a.2.2.2.toList==b.2.2.2.toList,())) (some (false,()))) (some (false,()))) (some (false,())):=by kernel_rfl
def LH:Any:=.one ⟨aCb,aZ,1,fun x=>CN F0 x.1 x.2.1⟩
theorem afz:bm 320 LH:=aA Sj ⟨Jf,trivial⟩ func320 ab (by kernel_rfl)
def CO:=[(72,cK)]
def CP:Nat→Option Hint:=look [(4,{live:=[0,3],xl:=[0,3],rl:=[2]})]
def vt (n1:Int)(xs:List Int):= er 25 [(0,bR n1),(3,.v (.c (.own 1000000 none)))] [] [aB 1000000 5 (.int .u8) xs]
def OU (n1:Int)(xs:List Int):= er 25 [(0,bR n1),(3,.v (.c (.own 1000000 none)))] [] [aB 1000000 5 (.int .u8) xs]
def CQ (st:St):Option α:=gW CO F CP [.r,.r,.r,.l,.b,.i] f276 κ n st
def Fp:=jF CO F CP [.r,.r,.r,.l,.b] f276 mn 2
theorem JB (n1:Int)(xs:List Int):CQ F κ (n+1) (vt n1 xs)=br (decide (n1>127)) (ck (fg F xs.length [IntKind.wrap .u8 (aj ((Int.tmod n1 128)+128))].length 1) (CQ F κ n (vt (aj (Int.tdiv n1 128)) (xs++[IntKind.wrap .u8 (aj ((Int.tmod n1 128)+128))])))) (κ (.exit 0) (OU n1 xs)):=by kernel_rfl
theorem LI (n1:Int)(xs:List Int):Fp F (.exit 0) (OU n1 xs)=ck (fg F xs.length [IntKind.wrap .u8 (n1)].length 1) (some (xs++[IntKind.wrap .u8 (n1)],())):=by kernel_rfl
def e8 (n1:Int):=bF CO F CP f276 dD mn 2 (n1,())
theorem am0 (n1:Int):e8 F n1=(bZ F0 n1 0 2147483647).bind fun r6=>br (!r6.1) (some ([],())) (CQ F (Fp F) F.n (vt n1 [])):=by kernel_rfl
def iZ:Any:=.one ⟨dD,mn,2,fun x=>e8 F0 x.1⟩
theorem mL:bm 276 iZ:=aA CO ⟨dh,trivial⟩ func276 CP (by kernel_rfl)
def Vb:=[(276,iZ)]
def nY (s:ByteArray):=bF Vb F ab f277 ew mn 2 (s,())
theorem ajR (s:ByteArray):nY F s=(e8 F0 (s.size:Int)).bind fun r5=>ck (decide ((s.size:Int)≤F.mem)) (ck (fg F r5.1.length (bytesOf s).length 1) (some (r5.1++(bytesOf s),()))):=by kernel_rfl
def sq:Any:=.one ⟨ew,mn,2,fun x=>nY F0 x.1⟩
theorem Fq:bm 277 sq:=aA Vb ⟨mL,trivial⟩ func277 ab (by kernel_rfl)
end
end Go.Am.Tryz
