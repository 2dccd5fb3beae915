/- No condition. -/
import Derived.Test.YtfapcfpkbahneaaGreatDoorQpVJG6
set_option linter.all false
set_option maxRecDepth 100000
namespace Go.Am.Tryz
open Go.Am Go.Proofs Go.Proofs.Tryz
noncomputable section
variable {U:Type} (F:sd) (J:Ex->St->Option U) (n:Nat)
def wQ:=[(101,II)]
def wR:Nat->Option Hint:=look [(3,{live:=[3,5,10,11,12],mat:=[(5,76,K4)],roB:=[(3,0),(3,1)],xl:=[5],rl:=[4]})]
def jb (t10:List D4)(t11 t12:Int)(l l1:List Int)(xs:List D4):= eD 38 [cW 3,(5,.v (.c (.own 1000000 none))),(10,j9 76 (K4) t10),(11,bW t11),(12,bW t12)] [(3,[.ro false 3 (.int .i64) l,.ro false 3 (.int .i64) l1])] [aB 1000000 76 K4 xs]
def xC (xs:List D4):= eD 38 [(5,.v (.c (.own 1000000 none)))] [] [aB 1000000 76 K4 xs]
def kW (st:St):Option U:=gQ wQ F wR [.r,.r,.l,.r,.b,.i] f251 J n st
def AR:=jG wQ F wR [.r,.r,.l,.r,.b] f251 kF 2
theorem Fi (t10:List D4)(t11 t12:Int)(l l1:List Int)(xs:List D4):kW F J (n+1) (jb t10 t11 t12 l l1 xs)=br (decide (t12<t11)) (ck (cr t12 (t10.length:Int)) (br ((xs.length:Int)==2) (J (.exit 0) (xC xs)) ((La F0 (l,l1) (aU t10 t12 K4.aG)).bind fun gL=>br (gL.2.1==0) (ck (fp F xs.length [(aU t10 t12 K4.aG)].length 32) (kW F J n (jb t10 t11 (ak (t12+1)) gL.1.1 gL.1.2 (xs++[(aU t10 t12 K4.aG)])))) (br (gL.2.1==4) (ck (fp F xs.length [(aU t10 t12 K4.aG)].length 32) (kW F J n (jb t10 t11 (ak (t12+1)) gL.1.1 gL.1.2 (xs++[(aU t10 t12 K4.aG)])))) (kW F J n (jb t10 t11 (ak (t12+1)) gL.1.1 gL.1.2 xs)))))) (J (.exit 0) (xC xs)):=by kernel_rfl
theorem Hm (xs:List D4):AR F (.exit 0) (xC xs)=some (xs,()):=by kernel_rfl
def pY (p:D5)(l:D43):=bJ wQ F wR f251 ai6 kF 2 (p,l,())
theorem ahy (p:D5)(l:D43):pY F p l=kW F (AR F) F.n (jb p (p.length:Int) 0 l.1 l.2 []):=by kernel_rfl
def NJ:Any:=.one ⟨ai6,kF,2,fun x=>pY F0 x.1 x.2.1⟩
theorem ahz:bz 251 NJ:=aA wQ ⟨Xl,trivial⟩ func251 wR (by kernel_rfl)
def AS:=[(153,jW),(223,F5),(347,O4)]
def AT:Nat->Option Hint:=look [(3,{live:=[3,6,7,8],mat:=[(3,9,.str)],xl:=[3],rl:=[2]})]
def tM (t6:List D4)(t7 t8:Int)(xs:List ByteArray):= eD 23 [(3,.v (.c (.own 1000000 none))),(6,j9 76 (K4) t6),(7,bW t7),(8,bW t8)] [] [aB 1000000 9 (.str) xs]
def QD (t2:ByteArray):= cV 23 [(2,UP t2)]
def NK (xs:List ByteArray):= eD 23 [(3,.v (.c (.own 1000000 none)))] [] [aB 1000000 9 (.str) xs]
def AU (st:St):Option U:=gQ AS F AT [.r,.r,.l,.r,.b,.i] f332 J n st
def tN:=jG AS F AT [.r,.r,.l,.r,.b] f332 ed 1
theorem Hn (t6:List D4)(t7 t8:Int)(xs:List ByteArray):AU F J (n+1) (tM t6 t7 t8 xs)=br (decide (t8<t7)) (ck (cr t8 (t6.length:Int)) ((pW F0 (aU t6 t8 K4.aG)).bind fun cp=>br (!cp.1) (J .ret (QD al)) ((E1 F0 (aU t6 t8 K4.aG)).bind fun fD=>ck (fp F xs.length [fD.1].length 16) (AU F J n (tM t6 t7 (ak (t8+1)) (xs++[fD.1])))))) (J (.exit 0) (NK xs)):=by kernel_rfl
theorem aeM (t2:ByteArray):tN F .ret (QD t2)=some (t2,()):=by kernel_rfl
theorem abZ (xs:List ByteArray):tN F (.exit 0) (NK xs)=(strings_Join F0 xs (ByteArray.mk #[44])).bind fun gL=>some (gL.1,()):=by kernel_rfl
def IJ (list:D5):=bJ AS F AT f332 kF ed 1 (list,())
theorem alY (list:D5):IJ F list=AU F (tN F) F.n (tM list (list.length:Int) 0 []):=by kernel_rfl
def QE:Any:=.one ⟨kF,ed,1,fun x=>IJ F0 x.1⟩
theorem alZ:bz 332 QE:=aA AS ⟨oD,WC,akl,trivial⟩ func332 AT (by kernel_rfl)
def Ej:=[(19,eX),(153,jW),(162,wm),(332,QE)]
def Ek:Nat->Option Hint:=look [(2,{live:=[0,1,2,10,11,12],xl:=[0,1,2],rl:=[6]})]
def wS (up:ByteArray)(view:Int)(list t10:List D4)(t11 t12:Int):= cV 38 [(0,UP up),(1,bW view),(2,j9 76 (K4) list),(10,j9 76 (K4) t10),(11,bW t11),(12,bW t12)]
def Uj (t6:ByteArray):= cV 38 [(6,UP t6)]
def QF (up:ByteArray)(view:Int)(list:List D4):= cV 38 [(0,UP up),(1,bW view),(2,j9 76 (K4) list)]
def El (st:St):Option U:=gQ Ej F Ek [.r,.l,.r,.b,.i] f302 J n st
def wT:=jG Ej F Ek [.r,.l,.r,.b] f302 ed 1
theorem Le (up:ByteArray)(view:Int)(list t10:List D4)(t11 t12:Int):El F J (n+1) (wS up view list t10 t11 t12)=br (decide (t12<t11)) (ck (cr t12 (t10.length:Int)) ((pW F0 (aU t10 t12 K4.aG)).bind fun fD=>br (!fD.1) (J .ret (Uj al)) (El F J n (wS up view list t10 t11 (ak (t12+1)))))) (J (.exit 0) (QF up view list)):=by kernel_rfl
theorem ahA (t6:ByteArray):wT F .ret (Uj t6)=some (t6,()):=by kernel_rfl
theorem aeN (up:ByteArray)(view:Int)(list:List D4):wT F (.exit 0) (QF up view list)=ck (okC F up.size (ByteArray.mk #[47]).size) ((lD F0 view).bind fun sw=>ck (okC F (up++(ByteArray.mk #[47])).size sw.1.size) (ck (okC F ((up++(ByteArray.mk #[47]))++sw.1).size (ByteArray.mk #[124]).size) ((IJ F0 list).bind fun Bg=>ck (okC F (((up++(ByteArray.mk #[47]))++sw.1)++(ByteArray.mk #[124])).size Bg.1.size) (br (decide ((list.length:Int)>2)) (some (al,())) ((fi F0 ((((up++(ByteArray.mk #[47]))++sw.1)++(ByteArray.mk #[124]))++Bg.1)).bind fun qR=>br (!qR.1) (some (al,())) (some ((((up++(ByteArray.mk #[47]))++sw.1)++(ByteArray.mk #[124]))++Bg.1,()))))))):=by kernel_rfl
def Fj (up:ByteArray)(view:Int)(list:D5):=bJ Ej F Ek f302 aD0 ed 1 (up,view,list,())
theorem apI (up:ByteArray)(view:Int)(list:D5):Fj F up view list=El F (wT F) F.n (wS up view list list (list.length:Int) 0):=by kernel_rfl
def Uk:Any:=.one ⟨aD0,ed,1,fun x=>Fj F0 x.1 x.2.1 x.2.2.1⟩
theorem apJ:bz 302 Uk:=aA Ej ⟨gn,oD,Ky,alZ,trivial⟩ func302 Ek (by kernel_rfl)
def Ul:=[(71,eY),(159,nu),(192,jo),(302,Uk)]
def u4 (c:D1)(q:D9)(view:Int)(list:D5):=bJ Ul F ab f250 aD1 ai7 2 (c,q,view,list,())
theorem ahB (c:D1)(q:D9)(view:Int)(list:D5):u4 F c q view list=(Fj F0 q.2.1 view list).bind fun pa=>(iN F0 q).bind fun fD=>(oH F0 c (pa.1,fD.1)).bind fun ia=>br (!ia.1) (some ((al,0,al,[]),false,())) ((fj F0 pa.1).bind fun uC=>br (uC.1 != view) (some ((al,0,al,[]),false,())) (some ((pa.1,fD.1),true,()))):=by kernel_rfl
def NL:Any:=.one ⟨aD1,ai7,2,fun x=>u4 F0 x.1 x.2.1 x.2.2.1 x.2.2.2.1⟩
theorem ahC:bz 250 NL:=aA Ul ⟨gp,wx,nG,apJ,trivial⟩ func250 ab (by kernel_rfl)
def apK:=[(47,cO),(51,Gm),(52,xA),(53,KX),(204,mf),(248,OH),(250,NL),(251,NJ)]
def aeO (c:D1)(r:bD):=bJ apK F ab f209 Bf ai7 2 (c,r,())
theorem ayV (c:D1)(r:bD):aeO F c r=(db F0 c r).bind fun ij=>br (!ij.1) (some ((al,0,al,[]),false,())) ((tD F0 c r.2.1).bind fun o9=>br (o9.1 != r.1) (some ((al,0,al,[]),false,())) (br (decide (r.2.2.1>=r.2.1)) (some ((al,0,al,[]),false,())) (br (r.2.2.2.1.2.2.1.1 != (ak (r.2.1-1))) ((tF F0 c r r.2.1).bind fun r42=>br (!r42.1) (some ((al,0,al,[]),false,())) ((nN F0).bind fun r48=>(xB F0 r.2.2.2.1.2.2.1.2.1).bind fun Zw=>(yd F0 r48.1 Zw.1).bind fun Ya=>(pY F0 r.2.2.2.2.1 Ya.1).bind fun r66=>(u4 F0 c r.2.2.2.1.2.2.1 r.2.1 r66.1).bind fun r67=>some (r67.1,r67.2.1,()))) ((nN F0).bind fun r48=>(xB F0 r.2.2.2.1.2.2.1.2.1).bind fun Zw=>(yd F0 r48.1 Zw.1).bind fun Ya=>(pY F0 r.2.2.2.2.1 Ya.1).bind fun r66=>(u4 F0 c r.2.2.2.1.2.2.1 r.2.1 r66.1).bind fun r67=>some (r67.1,r67.2.1,()))))):=by kernel_rfl
def aeP:Any:=.one ⟨Bf,ai7,2,fun x=>aeO F0 x.1 x.2.1⟩
theorem ayW:bz 209 aeP:=aA apK ⟨dr,Xm,NC,aaF,tE,aeC,ahC,ahz,trivial⟩ func209 ab (by kernel_rfl)
def AW:=[(47,cO),(79,ch),(213,uZ)]
def AX:Nat->Option Hint:=look [(5,{live:=[3,4,5,6,8,9],yz:=[(6,7,3,.int .i64),(6,9,76,K4),(6,10,74,K9),(6,11,5,.int .u8),(6,13,146,qT)],xl:=[6,8],rl:=[6,7]})]
def nO (sN c c1 r r1 r2 r3 r4 r5:Int)(r6:ByteArray)(r7:List Int)(r8:ByteArray)(r9:List D4)(ij:List D9)(dB:List Int)(cP:Int)(cp:List l5)(m m1:Int)(m2:ByteArray)(m3:Int)(m4:ByteArray)(m5:List Int)(m6:Int)(m7:ByteArray)(m8:List Int)(m9:Int)(m10:ByteArray)(m11:List Int)(m12 m13 m14 m15 m16 t6 t61 t62 t63 t64 t65:Int)(t66 t67:ByteArray)(t68 out bh rr ru rv ry:Int)(Kq Kr:ByteArray)(Ks:Int)(xs:List Int)(aQ:List D4)(ba:List D9)(bp:List Int)(bQ:List l5)(cD:List Int)(cE:List D4)(cI:List D9)(pb:List Int)(F2:List l5):= eD 43 [cW 3,cW 4,cW 5,cW 6,cW 8,(9,bW sN)] [(3,[aq c,aq c1]),(4,[aq r,aq r1,aq r2,aq r3,aq r4,aq r5,.str r6,.ro false 3 (.int .i64) r7,.str r8,.ro false 76 (K4) r9,.ro false 74 (K9) ij,.ro false 5 (.int .u8) dB,aq cP,.ro false 146 (qT) cp]),(5,[aq m,aq m1,.str m2,aq m3,.str m4,.ro false 3 (.int .i64) m5,aq m6,.str m7,.ro false 3 (.int .i64) m8,aq m9,.str m10,.ro false 3 (.int .i64) m11,aq m12,aq m13,aq m14,aq m15,aq m16]),(6,[aq t6,aq t61,aq t62,aq t63,aq t64,aq t65,.str t66,.own 1000000 none,.str t67,.own 1000001 none,.own 1000002 none,.own 1000003 none,aq t68,.own 1000004 none]),(8,[aq out,aq bh,aq rr,aq ru,aq rv,aq ry,.str Kq,.own 1000005 none,.str Kr,.own 1000006 none,.own 1000007 none,.own 1000008 none,aq Ks,.own 1000009 none])] [aB 1000000 3 (.int .i64) xs,aB 1000001 76 K4 aQ,aB 1000002 74 K9 ba,aB 1000003 5 (.int .u8) bp,aB 1000004 146 qT bQ,aB 1000005 3 (.int .i64) cD,aB 1000006 76 K4 cE,aB 1000007 74 K9 cI,aB 1000008 5 (.int .u8) pb,aB 1000009 146 qT F2]
def QG (t7:Bool)(t6 t61 t62 t63 t64 t65:Int)(t66 t67:ByteArray)(t68:Int)(xs:List Int)(aQ:List D4)(ba:List D9)(bp:List Int)(bQ:List l5):= eD 43 [cW 6,(7,SK t7)] [(6,[aq t6,aq t61,aq t62,aq t63,aq t64,aq t65,.str t66,.own 1000000 none,.str t67,.own 1000001 none,.own 1000002 none,.own 1000003 none,aq t68,.own 1000004 none])] [aB 1000000 3 (.int .i64) xs,aB 1000001 76 K4 aQ,aB 1000002 74 K9 ba,aB 1000003 5 (.int .u8) bp,aB 1000004 146 qT bQ]
def NM (t6 t61 t62 t63 t64 t65:Int)(t66 t67:ByteArray)(t68 out bh rr ru rv ry:Int)(Kq Kr:ByteArray)(Ks:Int)(xs:List Int)(aQ:List D4)(ba:List D9)(bp:List Int)(bQ:List l5)(cD:List Int)(cE:List D4)(cI:List D9)(pb:List Int)(F2:List l5):= eD 43 [cW 6,cW 8] [(6,[aq t6,aq t61,aq t62,aq t63,aq t64,aq t65,.str t66,.own 1000000 none,.str t67,.own 1000001 none,.own 1000002 none,.own 1000003 none,aq t68,.own 1000004 none]),(8,[aq out,aq bh,aq rr,aq ru,aq rv,aq ry,.str Kq,.own 1000005 none,.str Kr,.own 1000006 none,.own 1000007 none,.own 1000008 none,aq Ks,.own 1000009 none])] [aB 1000000 3 (.int .i64) xs,aB 1000001 76 K4 aQ,aB 1000002 74 K9 ba,aB 1000003 5 (.int .u8) bp,aB 1000004 146 qT bQ,aB 1000005 3 (.int .i64) cD,aB 1000006 76 K4 cE,aB 1000007 74 K9 cI,aB 1000008 5 (.int .u8) pb,aB 1000009 146 qT F2]
def rQ (st:St):Option U:=gQ AW F AX [.r,.r,.r,.l,.r,.b,.i] f210 J n st
def tO:=jG AW F AX [.r,.r,.r,.l,.r,.b] f210 ik 2
theorem Ho (sN c c1 r r1 r2 r3 r4 r5:Int)(r6:ByteArray)(r7:List Int)(r8:ByteArray)(r9:List D4)(ij:List D9)(dB:List Int)(cP:Int)(cp:List l5)(m m1:Int)(m2:ByteArray)(m3:Int)(m4:ByteArray)(m5:List Int)(m6:Int)(m7:ByteArray)(m8:List Int)(m9:Int)(m10:ByteArray)(m11:List Int)(m12 m13 m14 m15 m16 t6 t61 t62 t63 t64 t65:Int)(t66 t67:ByteArray)(t68 out bh rr ru rv ry:Int)(Kq Kr:ByteArray)(Ks:Int)(xs:List Int)(aQ:List D4)(ba:List D9)(bp:List Int)(bQ:List l5)(cD:List Int)(cE:List D4)(cI:List D9)(pb:List Int)(F2:List l5):rQ F J (n+1) (nO sN c c1 r r1 r2 r3 r4 r5 r6 r7 r8 r9 ij dB cP cp m m1 m2 m3 m4 m5 m6 m7 m8 m9 m10 m11 m12 m13 m14 m15 m16 t6 t61 t62 t63 t64 t65 t66 t67 t68 out bh rr ru rv ry Kq Kr Ks xs aQ ba bp bQ cD cE cI pb F2)=br (decide (sN<c)) (br (sN==r) (rQ F J n (nO (ak (sN+1)) c c1 r r1 r2 r3 r4 r5 r6 r7 r8 r9 ij dB cP cp m m1 m2 m3 m4 m5 m6 m7 m8 m9 m10 m11 m12 m13 m14 m15 m16 t6 t61 t62 t63 t64 t65 t66 t67 t68 out bh rr ru rv ry Kq Kr Ks xs aQ ba bp bQ cD cE cI pb F2)) ((nL F0 (c,c1) (out,bh,rr,(ru,rv,(ry,Kq,cD),Kr),cE,cI,(pb,Ks),F2) sN (m,m1,(m2,m3,m4,m5),(m6,m7,m8),(m9,m10,m11),m12,m13,m14,m15,m16)).bind fun qR=>br (!qR.2.1) ((aE F0 (r,r1,r2,(r3,r4,(r5,r6,r7),r8),r9,ij,(dB,cP),cp)).bind fun xW=>J .ret (QG false xW.1.1 xW.1.2.1 xW.1.2.2.1 xW.1.2.2.2.1.1 xW.1.2.2.2.1.2.1 xW.1.2.2.2.1.2.2.1.1 xW.1.2.2.2.1.2.2.1.2.1 xW.1.2.2.2.1.2.2.2 xW.1.2.2.2.2.2.2.1.2 xW.1.2.2.2.1.2.2.1.2.2 xW.1.2.2.2.2.1 xW.1.2.2.2.2.2.1 xW.1.2.2.2.2.2.2.1.1 xW.1.2.2.2.2.2.2.2)) (rQ F J n (nO (ak (sN+1)) c c1 r r1 r2 r3 r4 r5 r6 r7 r8 r9 ij dB cP cp m m1 m2 m3 m4 m5 m6 m7 m8 m9 m10 m11 m12 m13 m14 m15 m16 t6 t61 t62 t63 t64 t65 t66 t67 t68 qR.1.1 qR.1.2.1 qR.1.2.2.1 qR.1.2.2.2.1.1 qR.1.2.2.2.1.2.1 qR.1.2.2.2.1.2.2.1.1 qR.1.2.2.2.1.2.2.1.2.1 qR.1.2.2.2.1.2.2.2 qR.1.2.2.2.2.2.2.1.2 xs aQ ba bp bQ qR.1.2.2.2.1.2.2.1.2.2 qR.1.2.2.2.2.1 qR.1.2.2.2.2.2.1 qR.1.2.2.2.2.2.2.1.1 qR.1.2.2.2.2.2.2.2)))) (J (.exit 0) (NM t6 t61 t62 t63 t64 t65 t66 t67 t68 out bh rr ru rv ry Kq Kr Ks xs aQ ba bp bQ cD cE cI pb F2)):=by kernel_rfl
theorem aeQ (t7:Bool)(t6 t61 t62 t63 t64 t65:Int)(t66 t67:ByteArray)(t68:Int)(xs:List Int)(aQ:List D4)(ba:List D9)(bp:List Int)(bQ:List l5):tO F .ret (QG t7 t6 t61 t62 t63 t64 t65 t66 t67 t68 xs aQ ba bp bQ)=some ((t6,t61,t62,(t63,t64,(t65,t66,xs),t67),aQ,ba,(bp,t68),bQ),t7,()):=by kernel_rfl
theorem ab0 (t6 t61 t62 t63 t64 t65:Int)(t66 t67:ByteArray)(t68 out bh rr ru rv ry:Int)(Kq Kr:ByteArray)(Ks:Int)(xs:List Int)(aQ:List D4)(ba:List D9)(bp:List Int)(bQ:List l5)(cD:List Int)(cE:List D4)(cI:List D9)(pb:List Int)(F2:List l5):tO F (.exit 0) (NM t6 t61 t62 t63 t64 t65 t66 t67 t68 out bh rr ru rv ry Kq Kr Ks xs aQ ba bp bQ cD cE cI pb F2)=some ((out,bh,rr,(ru,rv,(ry,Kq,cD),Kr),cE,cI,(pb,Ks),F2),true,()):=by kernel_rfl
def AY (c:D1)(r:bD)(m:Oo):=bJ AW F AX f210 Z0 ik 2 (c,r,m,())
theorem al0 (c:D1)(r:bD)(m:Oo):AY F c r m=(aE F0 r).bind fun cp=>(db F0 c r).bind fun o9=>br (!o9.1) (some (cp.1,false,())) (rQ F (tO F) F.n (nO 0 c.1 c.2 r.1 r.2.1 r.2.2.1 r.2.2.2.1.1 r.2.2.2.1.2.1 r.2.2.2.1.2.2.1.1 r.2.2.2.1.2.2.1.2.1 r.2.2.2.1.2.2.1.2.2 r.2.2.2.1.2.2.2 r.2.2.2.2.1 r.2.2.2.2.2.1 r.2.2.2.2.2.2.1.1 r.2.2.2.2.2.2.1.2 r.2.2.2.2.2.2.2 m.1 m.2.1 m.2.2.1.1 m.2.2.1.2.1 m.2.2.1.2.2.1 m.2.2.1.2.2.2 m.2.2.2.1.1 m.2.2.2.1.2.1 m.2.2.2.1.2.2 m.2.2.2.2.1.1 m.2.2.2.2.1.2.1 m.2.2.2.2.1.2.2 m.2.2.2.2.2.1 m.2.2.2.2.2.2.1 m.2.2.2.2.2.2.2.1 m.2.2.2.2.2.2.2.2.1 m.2.2.2.2.2.2.2.2.2 0 0 0 0 0 0 al al 0 cp.1.1 cp.1.2.1 cp.1.2.2.1 cp.1.2.2.2.1.1 cp.1.2.2.2.1.2.1 cp.1.2.2.2.1.2.2.1.1 cp.1.2.2.2.1.2.2.1.2.1 cp.1.2.2.2.1.2.2.2 cp.1.2.2.2.2.2.2.1.2 [] [] [] [] [] cp.1.2.2.2.1.2.2.1.2.2 cp.1.2.2.2.2.1 cp.1.2.2.2.2.2.1 cp.1.2.2.2.2.2.2.1.1 cp.1.2.2.2.2.2.2.2)):=by kernel_rfl
def QH:Any:=.one ⟨Z0,ik,2,fun x=>AY F0 x.1 x.2.1 x.2.2.1⟩
theorem al1:bz 210 QH:=aA AW ⟨dr,cL,IA,trivial⟩ func210 AX (by kernel_rfl)
def Xq:=[(79,ch),(197,xy),(209,aeP),(210,QH)]
abbrev apL:List (Ty×Bool):=[(di,true),(.int .i64,false)]
def IK (c:D1)(r:bD):=bJ Xq F ab f146 Bf apL 0 (c,r,())
theorem al2 (c:D1)(r:bD):IK F c r=(aeO F0 c r).bind fun cP=>br (!cP.2.1) (some (r,3,())) ((aE F0 r).bind fun dW=>(AY F0 c (dW.1.1,dW.1.2.1,r.2.1,dW.1.2.2.2) (1,0,cP.1,(0,al,[]),(0,al,[]),0,0,0,0,0)).bind fun VM=>br (!VM.2.1) (some (r,4,())) ((rO F0 c VM.1 cP.1).bind fun UQ=>br (!UQ.2.1) (some (r,4,())) (some (UQ.1,0,())))):=by kernel_rfl
def QI:Any:=.one ⟨Bf,apL,0,fun x=>IK F0 x.1 x.2.1⟩
theorem al3:bz 146 QI:=aA Xq ⟨cL,Ny,ayW,al1,trivial⟩ func146 ab (by kernel_rfl)
def wU:=[(211,AO)]
def wV:Nat->Option Hint:=look [(2,{live:=[2,3,4,6],yz:=[(4,7,3,.int .i64),(4,9,76,K4),(4,10,74,K9),(4,11,5,.int .u8),(4,13,146,qT)],xl:=[3,4],rl:=[4,5]})]
def qM (i c c1 r r1 r2 r3 r4 r5:Int)(r6:ByteArray)(r7:List Int)(r8:ByteArray)(r9:List D4)(ij:List D9)(dB:List Int)(cP:Int)(cp:List l5)(t4 t41 t42 t43 t44 t45:Int)(t46 t47:ByteArray)(t48:Int)(xs:List Int)(aQ:List D4)(ba:List D9)(bp:List Int)(bQ:List l5):= eD 41 [cW 2,cW 3,cW 4,(6,bW i)] [(2,[aq c,aq c1]),(3,[aq r,aq r1,aq r2,aq r3,aq r4,aq r5,.str r6,.ro false 3 (.int .i64) r7,.str r8,.ro false 76 (K4) r9,.ro false 74 (K9) ij,.ro false 5 (.int .u8) dB,aq cP,.ro false 146 (qT) cp]),(4,[aq t4,aq t41,aq t42,aq t43,aq t44,aq t45,.str t46,.own 1000000 none,.str t47,.own 1000001 none,.own 1000002 none,.own 1000003 none,aq t48,.own 1000004 none])] [aB 1000000 3 (.int .i64) xs,aB 1000001 76 K4 aQ,aB 1000002 74 K9 ba,aB 1000003 5 (.int .u8) bp,aB 1000004 146 qT bQ]
def AZ (t5 t4 t41 t42 t43 t44 t45:Int)(t46:ByteArray)(t47:List Int)(t48:ByteArray)(t49:List D4)(gf:List D9)(gh:List Int)(gi:Int)(gj:List l5):= eD 41 [cW 4,(5,bW t5)] [(4,[aq t4,aq t41,aq t42,aq t43,aq t44,aq t45,.str t46,.ro false 3 (.int .i64) t47,.str t48,.ro false 76 (K4) t49,.ro false 74 (K9) gf,.ro false 5 (.int .u8) gh,aq gi,.ro false 146 (qT) gj])] []
def Lf (r r1 r2 r3 r4 r5:Int)(r6:ByteArray)(r7:List Int)(r8:ByteArray)(r9:List D4)(ij:List D9)(dB:List Int)(cP:Int)(cp:List l5)(t4 t41 t42 t43 t44 t45:Int)(t46 t47:ByteArray)(t48:Int)(xs:List Int)(aQ:List D4)(ba:List D9)(bp:List Int)(bQ:List l5):= eD 41 [cW 3,cW 4] [(3,[aq r,aq r1,aq r2,aq r3,aq r4,aq r5,.str r6,.ro false 3 (.int .i64) r7,.str r8,.ro false 76 (K4) r9,.ro false 74 (K9) ij,.ro false 5 (.int .u8) dB,aq cP,.ro false 146 (qT) cp]),(4,[aq t4,aq t41,aq t42,aq t43,aq t44,aq t45,.str t46,.own 1000000 none,.str t47,.own 1000001 none,.own 1000002 none,.own 1000003 none,aq t48,.own 1000004 none])] [aB 1000000 3 (.int .i64) xs,aB 1000001 76 K4 aQ,aB 1000002 74 K9 ba,aB 1000003 5 (.int .u8) bp,aB 1000004 146 qT bQ]
def wW (st:St):Option U:=gQ wU F wV [.r,.l,.r,.b,.i] f147 J n st
def qN:=jG wU F wV [.r,.l,.r,.b] f147 apL 0
theorem Fk (i c c1 r r1 r2 r3 r4 r5:Int)(r6:ByteArray)(r7:List Int)(r8:ByteArray)(r9:List D4)(ij:List D9)(dB:List Int)(cP:Int)(cp:List l5)(t4 t41 t42 t43 t44 t45:Int)(t46 t47:ByteArray)(t48:Int)(xs:List Int)(aQ:List D4)(ba:List D9)(bp:List Int)(bQ:List l5):wW F J (n+1) (qM i c c1 r r1 r2 r3 r4 r5 r6 r7 r8 r9 ij dB cP cp t4 t41 t42 t43 t44 t45 t46 t47 t48 xs aQ ba bp bQ)=br (decide (i>=0)) (ck (cr i (ij.length:Int)) (br (!((aU ij i K9.aG).2.1.toList==al.toList)) ((oW F0 (c,c1) (r,r1,r2,(r3,r4,(r5,r6,r7),r8),r9,ij,(dB,cP),cp) (aU ij i K9.aG).1 (aU ij i K9.aG).2.1 true).bind fun uD=>br (!uD.2.1) (J .ret (AZ 3 r r1 r2 r3 r4 r5 r6 r7 r8 r9 ij dB cP cp)) (J .ret (AZ 0 uD.1.1 uD.1.2.1 uD.1.2.2.1 uD.1.2.2.2.1.1 uD.1.2.2.2.1.2.1 uD.1.2.2.2.1.2.2.1.1 uD.1.2.2.2.1.2.2.1.2.1 uD.1.2.2.2.1.2.2.1.2.2 uD.1.2.2.2.1.2.2.2 uD.1.2.2.2.2.1 uD.1.2.2.2.2.2.1 uD.1.2.2.2.2.2.2.1.1 uD.1.2.2.2.2.2.2.1.2 uD.1.2.2.2.2.2.2.2))) (wW F J n (qM (ak (i-1)) c c1 r r1 r2 r3 r4 r5 r6 r7 r8 r9 ij dB cP cp t4 t41 t42 t43 t44 t45 t46 t47 t48 xs aQ ba bp bQ)))) (J (.exit 0) (Lf r r1 r2 r3 r4 r5 r6 r7 r8 r9 ij dB cP cp t4 t41 t42 t43 t44 t45 t46 t47 t48 xs aQ ba bp bQ)):=by kernel_rfl
theorem Lg (t5 t4 t41 t42 t43 t44 t45:Int)(t46:ByteArray)(t47:List Int)(t48:ByteArray)(t49:List D4)(gf:List D9)(gh:List Int)(gi:Int)(gj:List l5):qN F .ret (AZ t5 t4 t41 t42 t43 t44 t45 t46 t47 t48 t49 gf gh gi gj)=some ((t4,t41,t42,(t43,t44,(t45,t46,t47),t48),t49,gf,(gh,gi),gj),t5,()):=by kernel_rfl
theorem Y7 (r r1 r2 r3 r4 r5:Int)(r6:ByteArray)(r7:List Int)(r8:ByteArray)(r9:List D4)(ij:List D9)(dB:List Int)(cP:Int)(cp:List l5)(t4 t41 t42 t43 t44 t45:Int)(t46 t47:ByteArray)(t48:Int)(xs:List Int)(aQ:List D4)(ba:List D9)(bp:List Int)(bQ:List l5):qN F (.exit 0) (Lf r r1 r2 r3 r4 r5 r6 r7 r8 r9 ij dB cP cp t4 t41 t42 t43 t44 t45 t46 t47 t48 xs aQ ba bp bQ)=some ((r,r1,r2,(r3,r4,(r5,r6,r7),r8),r9,ij,(dB,cP),cp),3,()):=by kernel_rfl
def Em (c:D1)(r:bD):=bJ wU F wV f147 Bf apL 0 (c,r,())
theorem ahD (c:D1)(r:bD):Em F c r=wW F (qN F) F.n (qM (ak ((r.2.2.2.2.2.1.length:Int)-1)) c.1 c.2 r.1 r.2.1 r.2.2.1 r.2.2.2.1.1 r.2.2.2.1.2.1 r.2.2.2.1.2.2.1.1 r.2.2.2.1.2.2.1.2.1 r.2.2.2.1.2.2.1.2.2 r.2.2.2.1.2.2.2 r.2.2.2.2.1 r.2.2.2.2.2.1 r.2.2.2.2.2.2.1.1 r.2.2.2.2.2.2.1.2 r.2.2.2.2.2.2.2 0 0 0 0 0 0 al al 0 [] [] [] [] []):=by kernel_rfl
def NN:Any:=.one ⟨Bf,apL,0,fun x=>Em F0 x.1 x.2.1⟩
theorem ahE:bz 147 NN:=aA wU ⟨OG,trivial⟩ func147 wV (by kernel_rfl)
def ajy:=[(47,cO),(79,ch),(204,mf),(212,lO),(213,uZ)]
def Yl (c:D1)(r:bD):=bJ ajy F ab f148 Bf ik 2 (c,r,())
theorem awz (c:D1)(r:bD):Yl F c r=(db F0 c r).bind fun dB=>br (!dB.1) ((aE F0 r).bind fun dW=>some (dW.1,false,())) (br (r.2.1==60) ((aE F0 r).bind fun dW=>some (dW.1,false,())) ((aE F0 r).bind fun ia=>(tD F0 c (ak (ia.1.2.1+1))).bind fun UG=>br (UG.1==r.1) ((fB F0 c ia.1.2.2.2.2.2.1 (ak (ia.1.2.1+1),al,[r.1])).bind fun r44=>br (!r44.2.1) ((aE F0 r).bind fun r66=>some (r66.1,false,())) (some ((ia.1.1,ak (ia.1.2.1+1),ia.1.2.2.1,ia.1.2.2.2.1,ia.1.2.2.2.2.1,r44.1,ia.1.2.2.2.2.2.2),true,()))) ((nL F0 c (ia.1.1,ak (ia.1.2.1+1),ia.1.2.2) UG.1 (3,ak (ia.1.2.1+1),(al,0,al,[]),(0,al,[]),r.2.2.2.1.2.2.1,r.1,0,0,0,0)).bind fun r60=>br (!r60.2.1) ((aE F0 r).bind fun r66=>some (r66.1,false,())) (some (r60.1,true,()))))):=by kernel_rfl
def aaH:Any:=.one ⟨Bf,ik,2,fun x=>Yl F0 x.1 x.2.1⟩
theorem awA:bz 148 aaH:=aA ajy ⟨dr,cL,tE,tC,IA,trivial⟩ func148 ab (by kernel_rfl)
def aaI:=[(41,lJ),(42,pC)]
def NO (d:D14)(keep:Int):=bJ aaI F ab f12 aEk qf 1 (d,keep,())
theorem apM (d:D14)(keep:Int):NO F d keep=(mc F0 d).bind fun r7=>(rF F0 d).bind fun r9=>br r9.1 (ck (okT (ak (d.2+(if (ak ((d.1.length:Int)-d.2))<(if 0>keep then 0 else keep) then (ak ((d.1.length:Int)-d.2)) else (if 0>keep then 0 else keep)))) (r7.1.1.length:Int)) (some ((r7.1.1.take (ak (d.2+(if (ak ((d.1.length:Int)-d.2))<(if 0>keep then 0 else keep) then (ak ((d.1.length:Int)-d.2)) else (if 0>keep then 0 else keep)))).toNat,ak (d.2+(if (ak ((d.1.length:Int)-d.2))<(if 0>keep then 0 else keep) then (ak ((d.1.length:Int)-d.2)) else (if 0>keep then 0 else keep)))),()))) (some (r7.1,())):=by kernel_rfl
def Um:Any:=.one ⟨aEk,qf,1,fun x=>NO F0 x.1 x.2.1⟩
theorem apN:bz 12 Um:=aA aaI ⟨tg,Aj,trivial⟩ func12 ab (by kernel_rfl)
def R3: Option (Args Bn):=bJ aF F ab f43 [] Bn 2 (())
theorem al4: R3 F= some ((0,0,(0,al,[]),al),()):=by kernel_rfl
def QJ:Any:=.one ⟨[],Bn,2,fun x=>R3 F0⟩
theorem al5:bz 43 QJ:=aA aF trivial func43 ab (by kernel_rfl)
def aaJ:=[(87,jz),(88,xm),(89,lG),(90,kS)]
def NP (c:D1)(b:List Int):=bJ aaJ F ab f45 S2 ajb 2 (c,b,())
theorem apO (c:D1)(b:List Int):NP F c b=(bX F0 (b,0,false)).bind fun cP=>(bX F0 cP.2.1).bind fun l6=>(nz F0 l6.2.1).bind fun fD=>(gW F0 fD.2.1).bind fun EH=>br EH.2.1.2.2 (some ((0,0,(0,al,[]),al),false,())) (br (EH.2.1.2.1 != (b.length:Int)) (some ((0,0,(0,al,[]),al),false,())) ((lE F0 c (cP.1.1,l6.1.1,fD.1.1,EH.1.1)).bind fun UQ=>br (!UQ.1) (some ((0,0,(0,al,[]),al),false,())) (some ((cP.1.1,l6.1.1,fD.1.1,EH.1.1),true,())))):=by kernel_rfl
def Un:Any:=.one ⟨S2,ajb,2,fun x=>NP F0 x.1 x.2.1⟩
theorem apP:bz 45 Un:=aA aaJ ⟨oJ,M9,uo,rC,trivial⟩ func45 ab (by kernel_rfl)
def wX:=[(43,QJ),(44,Cl),(45,Un)]
def wY:Nat->Option Hint:=look [(3,{live:=[1,2,4,6,7],yz:=[(4,4,3,.int .i64)],rl:=[4,5]})]
def lR (b:List Int)(size c c1 t4 t41 t42:Int)(t43 t44:ByteArray)(s s1 s2:Int)(s3 s4:ByteArray)(xs aQ:List Int):= eD 51 [(1,j9 5 (.int .u8) b),cW 2,cW 4,cW 6,(7,bW size)] [(2,[aq c,aq c1]),(4,[aq t4,aq t41,aq t42,.str t43,.own 1000000 none,.str t44]),(6,[aq s,aq s1,aq s2,.str s3,.own 1000001 none,.str s4])] [aB 1000000 3 (.int .i64) xs,aB 1000001 3 (.int .i64) aQ]
def lS (t5 t4 t41 t42:Int)(t43 t44:ByteArray)(xs:List Int):= eD 51 [cW 4,(5,bW t5)] [(4,[aq t4,aq t41,aq t42,.str t43,.own 1000000 none,.str t44])] [aB 1000000 3 (.int .i64) xs]
def pK (st:St):Option U:=gQ wX F wY [.r,.r,.r,.b,.i] f14 J n st
def qO:=jG wX F wY [.r,.r,.r,.b] f14 atW 2
theorem Fl (b:List Int)(size c c1 t4 t41 t42:Int)(t43 t44:ByteArray)(s s1 s2:Int)(s3 s4:ByteArray)(xs aQ:List Int):pK F J (n+1) (lR b size c c1 t4 t41 t42 t43 t44 s s1 s2 s3 s4 xs aQ)=(oK F0 b size).bind fun o9=>br (!o9.2.2.1) (J .ret (lS size s s1 s2 s3 s4 aQ)) (br (decide (o9.2.1>=(b.length:Int))) (J .ret (lS size s s1 s2 s3 s4 aQ)) (ck (cr o9.2.1 (b.length:Int)) (br ((aU b o9.2.1 0) != 10) (J .ret (lS size s s1 s2 s3 s4 aQ)) (ck (decide ((o9.1.size:Int)<=F.mem)) ((NP F0 (c,c1) (bytesOf o9.1)).bind fun r41=>br (!r41.2.1) (J .ret (lS size s s1 s2 s3 s4 aQ)) (pK F J n (lR b (ak (o9.2.1+1)) c c1 t4 t41 t42 t43 t44 r41.1.1 r41.1.2.1 r41.1.2.2.1.1 r41.1.2.2.1.2.1 r41.1.2.2.2 xs r41.1.2.2.1.2.2))))))):=by kernel_rfl
theorem Lh (t5 t4 t41 t42:Int)(t43 t44:ByteArray)(xs:List Int):qO F .ret (lS t5 t4 t41 t42 t43 t44 xs)=some ((t4,t41,(t42,t43,xs),t44),t5,()):=by kernel_rfl
def En (c:D1)(b:List Int):=bJ wX F wY f14 S2 atW 2 (c,b,())
theorem ahF (c:D1)(b:List Int):En F c b=(R3 F0).bind fun cP=>pK F (qO F) F.n (lR b 0 c.1 c.2 0 0 0 al al cP.1.1 cP.1.2.1 cP.1.2.2.1.1 cP.1.2.2.1.2.1 cP.1.2.2.2 [] cP.1.2.2.1.2.2):=by kernel_rfl
def NQ:Any:=.one ⟨S2,atW,2,fun x=>En F0 x.1 x.2.1⟩
theorem ahG:bz 14 NQ:=aA wX ⟨al5,TT,apP,trivial⟩ func14 wY (by kernel_rfl)
def ajz:=[(14,NQ),(47,cO),(79,ch)]
def ajA:Nat->Option Hint:=look [(900005,{live:=[],mat:=[(3,0,di),(5,0,K12)]})]
def QK (c:D1)(r:bD):=bJ ajz F ajA f149 Bf S5 1 (c,r,())
theorem awB (c:D1)(r:bD):QK F c r=(db F0 c r).bind fun ij=>br (!ij.1) ((aE F0 r).bind fun cp=>some (cp.1,())) ((En F0 c r.2.2.2.2.2.2.1.1).bind fun dW=>ck (SJ 0 dW.2.1 (r.2.2.2.2.2.2.1.1.length:Int)) (ck (fp F 0 ((r.2.2.2.2.2.2.1.1.take dW.2.1.toNat).drop (0:Int).toNat).length 1) (some ((r.1,(if 60<(if 1>(if (ak (dW.1.2.2.1.1+1))>dW.1.1 then (ak (dW.1.2.2.1.1+1)) else dW.1.1) then 1 else (if (ak (dW.1.2.2.1.1+1))>dW.1.1 then (ak (dW.1.2.2.1.1+1)) else dW.1.1)) then 60 else (if 1>(if (ak (dW.1.2.2.1.1+1))>dW.1.1 then (ak (dW.1.2.2.1.1+1)) else dW.1.1) then 1 else (if (ak (dW.1.2.2.1.1+1))>dW.1.1 then (ak (dW.1.2.2.1.1+1)) else dW.1.1)),(0,dW.1,[],[],([]++((r.2.2.2.2.2.2.1.1.take dW.2.1.toNat).drop (0:Int).toNat),dW.2.1),[]))),())))):=by kernel_rfl
def aaK:Any:=.one ⟨Bf,S5,1,fun x=>QK F0 x.1 x.2.1⟩
theorem awC:bz 149 aaK:=aA ajz ⟨ahG,dr,cL,trivial⟩ func149 ajA (by kernel_rfl)
def Xr:=[(12,Um),(79,ch),(143,OI),(146,QI),(147,NN),(148,aaH),(149,aaK)]
abbrev aH4:List (Ty×Bool):=[(K1,true),(di,true),(K45,true)]
def IL (c:D1)(r:bD)(d:D45):=bJ Xr F ab f84 aH4 apL 0 (c,r,d,())
theorem al6 (c:D1)(r:bD)(d:D45):IL F c r d=(aE F0 r).bind fun dB=>br (d.1==1) ((IK F0 c r).bind fun uD=>some (uD.1,uD.2.1,())) (br (d.1==6) ((Em F0 c r).bind fun xW=>some (xW.1,xW.2.1,())) (br (d.1==7) ((Yl F0 c r).bind fun r48=>br (!r48.2.1) (some (r,3,())) (some (r48.1,0,()))) (br (d.1==8) ((NO F0 r.2.2.2.2.2.2.1 d.2.2.1).bind fun r57=>(QK F0 c (dB.1.1,dB.1.2.1,dB.1.2.2.1,dB.1.2.2.2.1,dB.1.2.2.2.2.1,dB.1.2.2.2.2.2.1,r57.1,dB.1.2.2.2.2.2.2.2)).bind fun Ja=>some (Ja.1,0,())) ((Je F0 c r d.2.2.2).bind fun dW=>br dW.2.1 (br (!(d.2.2.2.1==4)) (some (r,3,())) (some (dW.1,0,()))) (some (r,3,())))))):=by kernel_rfl
def QL:Any:=.one ⟨aH4,apL,0,fun x=>IL F0 x.1 x.2.1 x.2.2.1⟩
theorem al7:bz 84 QL:=aA Xr ⟨apN,cL,aeK,al3,ahE,awA,awC,trivial⟩ func84 ab (by kernel_rfl)
def atY:=[(34,j5),(38,gX),(67,bR),(81,Qi),(82,Nq),(83,QC),(84,QL)]
def amn (w:o8)(d:D45):=bJ atY F ab f39 ajk aep 0 (w,d,())
theorem aBP (w:o8)(d:D45):amn F w d=(dA F0 w).bind fun ij=>br (!ij.1) (some (((0,0),[],[],[],[]),1,())) ((bg F0 d.1 1 10).bind fun pa=>br (!pa.1) (some (((0,0),[],[],[],[]),1,())) ((Is F0 w d).bind fun gL=>br (!gL.1) ((aS F0 w).bind fun Wl=>some (Wl.1,2,())) ((aS F0 w).bind fun Bg=>br (d.1==2) ((DX F0 w d.2.1).bind fun Ya=>br (Ya.2.1==0) ((dA F0 Ya.1).bind fun r72=>br (!r72.1) (br (4 != 0) ((aS F0 w).bind fun Jc=>some (Jc.1,4,())) (some (Ya.1,0,()))) (br (Ya.2.1 != 0) ((aS F0 w).bind fun Jc=>some (Jc.1,Ya.2.1,())) (some (Ya.1,0,())))) (br (Ya.2.1 != 0) ((aS F0 w).bind fun Jc=>some (Jc.1,Ya.2.1,())) (some (Ya.1,0,())))) (br (d.1==3) ((o4 F0 w d).bind fun fc=>br (fc.2.1==0) ((dA F0 fc.1).bind fun r72=>br (!r72.1) (br (4 != 0) ((aS F0 w).bind fun Jc=>some (Jc.1,4,())) (some (fc.1,0,()))) (br (fc.2.1 != 0) ((aS F0 w).bind fun Jc=>some (Jc.1,fc.2.1,())) (some (fc.1,0,())))) (br (fc.2.1 != 0) ((aS F0 w).bind fun Jc=>some (Jc.1,fc.2.1,())) (some (fc.1,0,())))) (br (d.1==4) ((o4 F0 w d).bind fun fc=>br (fc.2.1==0) ((dA F0 fc.1).bind fun r72=>br (!r72.1) (br (4 != 0) ((aS F0 w).bind fun Jc=>some (Jc.1,4,())) (some (fc.1,0,()))) (br (fc.2.1 != 0) ((aS F0 w).bind fun Jc=>some (Jc.1,fc.2.1,())) (some (fc.1,0,())))) (br (fc.2.1 != 0) ((aS F0 w).bind fun Jc=>some (Jc.1,fc.2.1,())) (some (fc.1,0,())))) (br (d.1==5) ((o4 F0 w d).bind fun fc=>br (fc.2.1==0) ((dA F0 fc.1).bind fun r72=>br (!r72.1) (br (4 != 0) ((aS F0 w).bind fun Jc=>some (Jc.1,4,())) (some (fc.1,0,()))) (br (fc.2.1 != 0) ((aS F0 w).bind fun Jc=>some (Jc.1,fc.2.1,())) (some (fc.1,0,())))) (br (fc.2.1 != 0) ((aS F0 w).bind fun Jc=>some (Jc.1,fc.2.1,())) (some (fc.1,0,())))) (br (d.1==10) ((o4 F0 w d).bind fun fc=>br (fc.2.1==0) ((dA F0 fc.1).bind fun r72=>br (!r72.1) (br (4 != 0) ((aS F0 w).bind fun Jc=>some (Jc.1,4,())) (some (fc.1,0,()))) (br (fc.2.1 != 0) ((aS F0 w).bind fun Jc=>some (Jc.1,fc.2.1,())) (some (fc.1,0,())))) (br (fc.2.1 != 0) ((aS F0 w).bind fun Jc=>some (Jc.1,fc.2.1,())) (some (fc.1,0,())))) (ck (cr d.2.1 (w.2.2.1.length:Int)) ((IL F0 w.1 (aU w.2.2.1 d.2.1 di.aG) d).bind fun r44=>ck (cr d.2.1 (Bg.1.2.2.1.length:Int)) (br (r44.2.1==0) ((dA F0 (Bg.1.1,Bg.1.2.1,Bg.1.2.2.1.set d.2.1.toNat r44.1,Bg.1.2.2.2)).bind fun r72=>br (!r72.1) (br (4 != 0) ((aS F0 w).bind fun Jc=>some (Jc.1,4,())) (some ((Bg.1.1,Bg.1.2.1,Bg.1.2.2.1.set d.2.1.toNat r44.1,Bg.1.2.2.2),0,()))) (br (r44.2.1 != 0) ((aS F0 w).bind fun Jc=>some (Jc.1,r44.2.1,())) (some ((Bg.1.1,Bg.1.2.1,Bg.1.2.2.1.set d.2.1.toNat r44.1,Bg.1.2.2.2),0,())))) (br (r44.2.1 != 0) ((aS F0 w).bind fun Jc=>some (Jc.1,r44.2.1,())) (some ((Bg.1.1,Bg.1.2.1,Bg.1.2.2.1.set d.2.1.toNat r44.1,Bg.1.2.2.2),0,()))))))))))))):=by kernel_rfl
def ajB:Any:=.one ⟨ajk,aep,0,fun x=>amn F0 x.1 x.2.1⟩
theorem aBQ:bz 39 ajB:=aA atY ⟨pE,lK,cq,alD,ahh,alX,al7,trivial⟩ func39 ab (by kernel_rfl)
def IM:=[(34,j5),(38,gX),(39,ajB)]
def IN:Nat->Option Hint:=look [(6,{live:=[4,6,7,23,24,25],mat:=[(7,3,.int .i64)],roB:=[(6,2),(6,3),(6,4),(6,5)],yz:=[(4,2,3,.int .i64),(4,3,50,di),(4,4,114,fW),(4,5,127,eu)],xl:=[4,6,7],rl:=[4,5]})]
def rR (t23:List D45)(t24 t25 t4 t41 out bh:Int)(rr:List Int)(ru:List bD)(rv:List cU)(ry:List cH)(xs aQ:List Int)(ba:List bD)(bp:List cU)(bQ:List cH):= eD 45 [cW 4,cW 6,(7,.v (.c (.own 1000000 none))),(23,j9 80 (K45) t23),(24,bW t24),(25,bW t25)] [(4,[aq t4,aq t41,.own 1000001 none,.own 1000002 none,.own 1000003 none,.own 1000004 none]),(6,[aq out,aq bh,.ro false 3 (.int .i64) rr,.ro false 50 (di) ru,.ro false 114 (fW) rv,.ro false 127 (eu) ry])] [aB 1000000 3 (.int .i64) xs,aB 1000001 3 (.int .i64) aQ,aB 1000002 50 di ba,aB 1000003 114 fW bp,aB 1000004 127 eu bQ]
def Uo (t4 t41 out bh:Int)(rr:List Int)(ru:List bD)(rv:List cU)(ry:List cH)(xs aQ:List Int)(ba:List bD)(bp:List cU)(bQ:List cH):= eD 45 [cW 4,cW 6,(7,.v (.c (.own 1000000 none)))] [(4,[aq t4,aq t41,.own 1000001 none,.own 1000002 none,.own 1000003 none,.own 1000004 none]),(6,[aq out,aq bh,.ro false 3 (.int .i64) rr,.ro false 50 (di) ru,.ro false 114 (fW) rv,.ro false 127 (eu) ry])] [aB 1000000 3 (.int .i64) xs,aB 1000001 3 (.int .i64) aQ,aB 1000002 50 di ba,aB 1000003 114 fW bp,aB 1000004 127 eu bQ]
def A0 (st:St):Option U:=gQ IM F IN [.r,.r,.r,.r,.l,.r,.b,.i] f10 J n st
abbrev aH5:List (Ty×Bool):=[(iV,true),(.sl 3 (.int .i64),false)]
def Li:=jG IM F IN [.r,.r,.r,.r,.l,.r,.b] f10 aH5 0
theorem NR (t23:List D45)(t24 t25 t4 t41 out bh:Int)(rr:List Int)(ru:List bD)(rv:List cU)(ry:List cH)(xs aQ:List Int)(ba:List bD)(bp:List cU)(bQ:List cH):A0 F J (n+1) (rR t23 t24 t25 t4 t41 out bh rr ru rv ry xs aQ ba bp bQ)=br (decide (t25<t24)) (ck (cr t25 (t23.length:Int)) ((amn F0 ((out,bh),rr,ru,rv,ry) (aU t23 t25 K45.aG)).bind fun HJ=>br (HJ.2.1==0) (ck (fp F xs.length [HJ.2.1].length 8) (A0 F J n (rR t23 t24 (ak (t25+1)) t4 t41 HJ.1.1.1 HJ.1.1.2 HJ.1.2.1 HJ.1.2.2.1 HJ.1.2.2.2.1 HJ.1.2.2.2.2 (xs++[HJ.2.1]) aQ ba bp bQ))) (ck (fp F xs.length [HJ.2.1].length 8) (A0 F J n (rR t23 t24 (ak (t25+1)) t4 t41 out bh rr ru rv ry (xs++[HJ.2.1]) aQ ba bp bQ))))) (J (.exit 0) (Uo t4 t41 out bh rr ru rv ry xs aQ ba bp bQ)):=by kernel_rfl
theorem ahH (t4 t41 out bh:Int)(rr:List Int)(ru:List bD)(rv:List cU)(ry:List cH)(xs aQ:List Int)(ba:List bD)(bp:List cU)(bQ:List cH):Li F (.exit 0) (Uo t4 t41 out bh rr ru rv ry xs aQ ba bp bQ)=some (((out,bh),rr,ru,rv,ry),xs,()):=by kernel_rfl
def Lj (w:o8)(list:D46):=bJ IM F IN f10 ayO aH5 0 (w,list,())
theorem asJ (w:o8)(list:D46):Lj F w list=(aS F0 w).bind fun cp=>(dA F0 w).bind fun pa=>br (!pa.1) (some (cp.1,[],())) (br (decide ((list.length:Int)>500)) (some (cp.1,[],())) (A0 F (Li F) F.n (rR list (list.length:Int) 0 0 0 cp.1.1.1 cp.1.1.2 cp.1.2.1 cp.1.2.2.1 cp.1.2.2.2.1 cp.1.2.2.2.2 [] [] [] [] []))):=by kernel_rfl
def Xs:Any:=.one ⟨ayO,aH5,0,fun x=>Lj F0 x.1 x.2.1⟩
theorem asK:bz 10 Xs:=aA IM ⟨pE,lK,aBQ,trivial⟩ func10 IN (by kernel_rfl)
end
end Go.Am.Tryz
namespace Go.Am.Tryz
open Go.Am Go.Proofs Go.Proofs.Tryz
noncomputable section
variable {U:Type} (F:sd) (J:Ex->St->Option U) (n:Nat)
def aaL:=[(50,nq)]
def yf (s:ByteArray):=bJ aaL F ab f48 ed dK 1 (s,())
theorem apQ (s:ByteArray):yf F s=(oE F0 s).bind fun r7=>br (!r7.2.1) (some (-1,())) (some ((r7.1.length:Int),())):=by kernel_rfl
def Uq:Any:=.one ⟨ed,dK,1,fun x=>yf F0 x.1⟩
theorem apR:bz 48 Uq:=aA aaL ⟨uP,trivial⟩ func48 ab (by kernel_rfl)
def R4:=[(11,kU),(34,j5),(48,Uq)]
def R5:Nat->Option Hint:=look [(5,{live:=[1,3,11,12,13],xl:=[3],rl:=[2]})]
def tP (top:ByteArray)(t12 t13 w w1:Int)(w2:List Int)(w3:List bD)(w4:List cU)(w5:List cH)(xs:List Int):= eD 32 [cW 1,(3,UP top),(11,.v (.c (.own 1000000 none))),(12,bW t12),(13,bW t13)] [(1,[aq w,aq w1,.ro false 3 (.int .i64) w2,.ro false 50 (di) w3,.ro false 114 (fW) w4,.ro false 127 (eu) w5])] [aB 1000000 3 (.int .i64) xs]
def aaM (top:ByteArray):= cV 32 [(3,UP top)]
def Cv (st:St):Option U:=gQ R4 F R5 [.r,.r,.r,.l,.r,.b,.i] f17 J n st
def IP:=jG R4 F R5 [.r,.r,.r,.l,.r,.b] f17 ed 1
theorem Ur (top:ByteArray)(t12 t13 w w1:Int)(w2:List Int)(w3:List bD)(w4:List cU)(w5:List cH)(xs:List Int):Cv F J (n+1) (tP top t12 t13 w w1 w2 w3 w4 w5 xs)=br (decide (t13<t12)) (ck (cr t13 (xs.length:Int)) (ck (cr (aU xs t13 0) (w3.length:Int)) ((yf F0 (aU w3 (aU xs t13 0) di.aG).2.2.2.1.2.2.2).bind fun Wl=>(yf F0 top).bind fun Bg=>br (decide (Wl.1>Bg.1)) (Cv F J n (tP (aU w3 (aU xs t13 0) di.aG).2.2.2.1.2.2.2 t12 (ak (t13+1)) w w1 w2 w3 w4 w5 xs)) (Cv F J n (tP top t12 (ak (t13+1)) w w1 w2 w3 w4 w5 xs))))) (J (.exit 0) (aaM top)):=by kernel_rfl
theorem apT (top:ByteArray):IP F (.exit 0) (aaM top)=some (top,()):=by kernel_rfl
def aeR (w:o8):=bJ R4 F R5 f17 gE ed 1 (w,())
theorem ayX (w:o8):aeR F w=(dA F0 w).bind fun r8=>br (!r8.1) (some (al,())) ((n6 F0 w).bind fun dB=>Cv F (IP F) F.n (tP al (dB.1.length:Int) 0 w.1.1 w.1.2 w.2.1 w.2.2.1 w.2.2.2.1 w.2.2.2.2 dB.1)):=by kernel_rfl
def aeS:Any:=.one ⟨gE,ed,1,fun x=>aeR F0 x.1⟩
theorem ayY:bz 17 aeS:=aA R4 ⟨rL,pE,apR,trivial⟩ func17 R5 (by kernel_rfl)
def IQ:=[(6,adn),(7,GX),(8,Nd),(9,zb),(10,Xs),(11,kU),(17,aeS),(18,Cs),(19,eX)]
def IS:Nat->Option Hint:=look [(14,{live:=[9,11,12,13],xl:=[11],rl:=[2]})]
def rS (top:ByteArray)(i g g1:Int)(g2:List Int)(g3:List bD)(g4:List cU)(g5:List cH)(xs:List Int):= eD 73 [cW 9,(11,UP top),(12,.v (.c (.own 1000000 none))),(13,bW i)] [(9,[aq g,aq g1,.ro false 3 (.int .i64) g2,.ro false 50 (di) g3,.ro false 114 (fW) g4,.ro false 127 (eu) g5])] [aB 1000000 3 (.int .i64) xs]
def apU (t2:Bool):= cV 73 [(2,SK t2)]
def Us (top:ByteArray):= cV 73 [(11,UP top)]
def A2 (st:St):Option U:=gQ IQ F IS [.r,.r,.r,.r,.r,.r,.r,.r,.r,.r,.l,.r,.b,.i] f4 J n st
def A3:=jG IQ F IS [.r,.r,.r,.r,.r,.r,.r,.r,.r,.r,.l,.r,.b] f4 bd 1
theorem NS (top:ByteArray)(i g g1:Int)(g2:List Int)(g3:List bD)(g4:List cU)(g5:List cH)(xs:List Int):A2 F J (n+1) (rS top i g g1 g2 g3 g4 g5 xs)=br (decide (i<(xs.length:Int))) (ck (cr i (xs.length:Int)) (ck (cr (aU xs i 0) (g3.length:Int)) ((AF F0 top (aU g3 (aU xs i 0) di.aG).2.2.2.1.2.2.2).bind fun r69=>br (!r69.1) (J .ret (apU false)) (A2 F J n (rS top (ak (i+1)) g g1 g2 g3 g4 g5 xs))))) (J (.exit 0) (Us top)):=by kernel_rfl
theorem ahI (top:ByteArray):A3 F (.exit 0) (Us top)=(fi F0 top).bind fun r72=>some (r72.1,()):=by kernel_rfl
def R6 (code:List Int):=bJ IQ F IS f4 mG bd 1 (code,())
theorem asL (code:List Int):R6 F code=(anG F0 code).bind fun pa=>br pa.1 (some (true,())) ((wj F0 code).bind fun Oq=>(uT F0 Oq.1.1 Oq.1.2.1).bind fun uC=>(l9 F0 Oq.1.1 Oq.1.2.1).bind fun qR=>br (!(uC.2.1==qR.2.1)) (some (false,())) (br (!uC.2.1) (some (true,())) ((Lj F0 uC.1 Oq.2.1).bind fun r45=>(aeR F0 r45.1).bind fun r49=>(n6 F0 r45.1).bind fun r51=>A2 F (A3 F) F.n (rS r49.1 0 r45.1.1.1 r45.1.1.2 r45.1.2.1 r45.1.2.2.1 r45.1.2.2.2.1 r45.1.2.2.2.2 r51.1)))):=by kernel_rfl
def apV:Any:=.one ⟨mG,bd,1,fun x=>R6 F0 x.1⟩
theorem asM:bz 4 apV:=aA IQ ⟨ayE,abK,ag8,Po,asK,rL,ayY,T3,gn,trivial⟩ func4 IS (by kernel_rfl)
end
end Go.Am.Tryz
