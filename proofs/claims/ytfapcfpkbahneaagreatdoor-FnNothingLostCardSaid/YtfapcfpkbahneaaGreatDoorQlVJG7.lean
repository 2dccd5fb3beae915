/- Lemmas for the claim. No condition. -/
import Derived.Test.YtfapcfpkbahneaaGreatDoorQlVJG6
set_option linter.all false
set_option maxRecDepth 100000
namespace Go.Am.Tryz
open Go.Am Go.Proofs Go.Proofs.Tryz
noncomputable section
variable {α:Type} (F:rQ) (κ:Ex→St→Option α) (n:Nat)
def wg:=[(101,H7)]
def wh:Nat→Option Hint:=look [(3,{live:=[3,5,10,11,12],mat:=[(5,76,K4)],roB:=[(3,0),(3,1)],xl:=[5],rl:=[4]})]
def iS (t10:List D4)(t11 t12:Int)(l l1:List Int)(xs:List D4):= er 38 [cS 3,(5,.v (.c (.own 1000000 none))),(10,jO 76 (K4) t10),(11,bR t11),(12,bR t12)] [(3,[.ro false 3 (.int .i64) l,.ro false 3 (.int .i64) l1])] [aB 1000000 76 K4 xs]
def wY (xs:List D4):= er 38 [(5,.v (.c (.own 1000000 none)))] [] [aB 1000000 76 K4 xs]
def kF (st:St):Option α:=gW wg F wh [.r,.r,.l,.r,.b,.i] f251 κ n st
def Aj:=jF wg F wh [.r,.r,.l,.r,.b] f251 kl 2
theorem EJ (t10:List D4)(t11 t12:Int)(l l1:List Int)(xs:List D4):kF F κ (n+1) (iS t10 t11 t12 l l1 xs)=br (decide (t12<t11)) (ck (cl t12 (t10.length:Int)) (br ((xs.length:Int)==2) (κ (.exit 0) (wY xs)) ((Ko F0 (l,l1) (aP t10 t12 K4.aG)).bind fun gr=>br (gr.2.1==0) (ck (fg F xs.length [(aP t10 t12 K4.aG)].length 32) (kF F κ n (iS t10 t11 (aj (t12+1)) gr.1.1 gr.1.2 (xs++[(aP t10 t12 K4.aG)])))) (br (gr.2.1==4) (ck (fg F xs.length [(aP t10 t12 K4.aG)].length 32) (kF F κ n (iS t10 t11 (aj (t12+1)) gr.1.1 gr.1.2 (xs++[(aP t10 t12 K4.aG)])))) (kF F κ n (iS t10 t11 (aj (t12+1)) gr.1.1 gr.1.2 xs)))))) (κ (.exit 0) (wY xs)):=by kernel_rfl
theorem GJ (xs:List D4):Aj F (.exit 0) (wY xs)=some (xs,()):=by kernel_rfl
def pK (p:D5)(l:D43):=bF wg F wh f251 ahW kl 2 (p,l,())
theorem agw (p:D5)(l:D43):pK F p l=kF F (Aj F) F.n (iS p (p.length:Int) 0 l.1 l.2 []):=by kernel_rfl
def MX:Any:=.one ⟨ahW,kl,2,fun x=>pK F0 x.1 x.2.1⟩
theorem agx:bm 251 MX:=aA wg ⟨V6,trivial⟩ func251 wh (by kernel_rfl)
def Ak:=[(153,jK),(223,Fz),(347,Oh)]
def Al:Nat→Option Hint:=look [(3,{live:=[3,6,7,8],mat:=[(3,9,.str)],xl:=[3],rl:=[2]})]
def tt (t6:List D4)(t7 t8:Int)(xs:List ByteArray):= er 23 [(3,.v (.c (.own 1000000 none))),(6,jO 76 (K4) t6),(7,bR t7),(8,bR t8)] [] [aB 1000000 9 (.str) xs]
def PV (t2:ByteArray):= cV 23 [(2,Yl t2)]
def MY (xs:List ByteArray):= er 23 [(3,.v (.c (.own 1000000 none)))] [] [aB 1000000 9 (.str) xs]
def An (st:St):Option α:=gW Ak F Al [.r,.r,.l,.r,.b,.i] f332 κ n st
def tu:=jF Ak F Al [.r,.r,.l,.r,.b] f332 ew 1
theorem GK (t6:List D4)(t7 t8:Int)(xs:List ByteArray):An F κ (n+1) (tt t6 t7 t8 xs)=br (decide (t8<t7)) (ck (cl t8 (t6.length:Int)) ((pH F0 (aP t6 t8 K4.aG)).bind fun cj=>br (!cj.1) (κ .ret (PV al)) ((Es F0 (aP t6 t8 K4.aG)).bind fun fh=>ck (fg F xs.length [fh.1].length 16) (An F κ n (tt t6 t7 (aj (t8+1)) (xs++[fh.1])))))) (κ (.exit 0) (MY xs)):=by kernel_rfl
theorem adN (t2:ByteArray):tu F .ret (PV t2)=some (t2,()):=by kernel_rfl
theorem aa0 (xs:List ByteArray):tu F (.exit 0) (MY xs)=(strings_Join F0 xs (ByteArray.mk #[44])).bind fun gr=>some (gr.1,()):=by kernel_rfl
def H8 (list:D5):=bF Ak F Al f332 kl ew 1 (list,())
theorem akP (list:D5):H8 F list=An F (tu F) F.n (tt list (list.length:Int) 0 []):=by kernel_rfl
def PW:Any:=.one ⟨kl,ew,1,fun x=>H8 F0 x.1⟩
theorem akQ:bm 332 PW:=aA Ak ⟨n5,Vs,ajc,trivial⟩ func332 Al (by kernel_rfl)
def DE:=[(19,fB),(153,jK),(162,vH),(332,PW)]
def DF:Nat→Option Hint:=look [(2,{live:=[0,1,2,10,11,12],xl:=[0,1,2],rl:=[6]})]
def wi (up:ByteArray)(view:Int)(list t10:List D4)(t11 t12:Int):= cV 38 [(0,Yl up),(1,bR view),(2,jO 76 (K4) list),(10,jO 76 (K4) t10),(11,bR t11),(12,bR t12)]
def Tq (t6:ByteArray):= cV 38 [(6,Yl t6)]
def PX (up:ByteArray)(view:Int)(list:List D4):= cV 38 [(0,Yl up),(1,bR view),(2,jO 76 (K4) list)]
def DG (st:St):Option α:=gW DE F DF [.r,.l,.r,.b,.i] f302 κ n st
def wj:=jF DE F DF [.r,.l,.r,.b] f302 ew 1
theorem Ks (up:ByteArray)(view:Int)(list t10:List D4)(t11 t12:Int):DG F κ (n+1) (wi up view list t10 t11 t12)=br (decide (t12<t11)) (ck (cl t12 (t10.length:Int)) ((pH F0 (aP t10 t12 K4.aG)).bind fun fh=>br (!fh.1) (κ .ret (Tq al)) (DG F κ n (wi up view list t10 t11 (aj (t12+1)))))) (κ (.exit 0) (PX up view list)):=by kernel_rfl
theorem agy (t6:ByteArray):wj F .ret (Tq t6)=some (t6,()):=by kernel_rfl
theorem adO (up:ByteArray)(view:Int)(list:List D4):wj F (.exit 0) (PX up view list)=ck (okC F up.size (ByteArray.mk #[47]).size) ((la F0 view).bind fun sd=>ck (okC F (up++(ByteArray.mk #[47])).size sd.1.size) (ck (okC F ((up++(ByteArray.mk #[47]))++sd.1).size (ByteArray.mk #[124]).size) ((H8 F0 list).bind fun Bl=>ck (okC F (((up++(ByteArray.mk #[47]))++sd.1)++(ByteArray.mk #[124])).size Bl.1.size) (br (decide ((list.length:Int)>2)) (some (al,())) ((fG F0 ((((up++(ByteArray.mk #[47]))++sd.1)++(ByteArray.mk #[124]))++Bl.1)).bind fun qT=>br (!qT.1) (some (al,())) (some ((((up++(ByteArray.mk #[47]))++sd.1)++(ByteArray.mk #[124]))++Bl.1,()))))))):=by kernel_rfl
def EK (up:ByteArray)(view:Int)(list:D5):=bF DE F DF f302 aB7 ew 1 (up,view,list,())
theorem aon (up:ByteArray)(view:Int)(list:D5):EK F up view list=DG F (wj F) F.n (wi up view list list (list.length:Int) 0):=by kernel_rfl
def Tr:Any:=.one ⟨aB7,ew,1,fun x=>EK F0 x.1 x.2.1 x.2.2.1⟩
theorem aoo:bm 302 Tr:=aA DE ⟨iB,n5,JV,akQ,trivial⟩ func302 DF (by kernel_rfl)
def Ts:=[(71,eS),(159,mV),(192,jc),(302,Tr)]
def uE (c:D1)(q:D9)(view:Int)(list:D5):=bF Ts F ab f250 aB8 ahX 2 (c,q,view,list,())
theorem agz (c:D1)(q:D9)(view:Int)(list:D5):uE F c q view list=(EK F0 q.2.1 view list).bind fun py=>(iE F0 q).bind fun fh=>(n8 F0 c (py.1,fh.1)).bind fun gv=>br (!gv.1) (some ((al,0,al,[]),false,())) ((fa F0 py.1).bind fun xg=>br (xg.1 != view) (some ((al,0,al,[]),false,())) (some ((py.1,fh.1),true,()))):=by kernel_rfl
def MZ:Any:=.one ⟨aB8,ahX,2,fun x=>uE F0 x.1 x.2.1 x.2.2.1 x.2.2.2.1⟩
theorem agA:bm 250 MZ:=aA Ts ⟨gf,vM,nk,aoo,trivial⟩ func250 ab (by kernel_rfl)
def aop:=[(47,cC),(51,FN),(52,wW),(53,Kk),(204,lV),(248,NQ),(250,MZ),(251,MX)]
def adP (c:D1)(r:bz):=bF aop F ab f209 xK ahX 2 (c,r,())
theorem aw8 (c:D1)(r:bz):adP F c r=(c8 F0 c r).bind fun hY=>br (!hY.1) (some ((al,0,al,[]),false,())) ((tf F0 c r.2.1).bind fun oM=>br (oM.1 != r.1) (some ((al,0,al,[]),false,())) (br (decide (r.2.2.1≥r.2.1)) (some ((al,0,al,[]),false,())) (br (r.2.2.2.1.2.2.1.1 != (aj (r.2.1-1))) ((th F0 c r r.2.1).bind fun r42=>br (!r42.1) (some ((al,0,al,[]),false,())) ((nu F0).bind fun r48=>(wX F0 r.2.2.2.1.2.2.1.2.1).bind fun Yt=>(xB F0 r48.1 Yt.1).bind fun W3=>(pK F0 r.2.2.2.2.1 W3.1).bind fun r66=>(uE F0 c r.2.2.2.1.2.2.1 r.2.1 r66.1).bind fun r67=>some (r67.1,r67.2.1,()))) ((nu F0).bind fun r48=>(wX F0 r.2.2.2.1.2.2.1.2.1).bind fun Yt=>(xB F0 r48.1 Yt.1).bind fun W3=>(pK F0 r.2.2.2.2.1 W3.1).bind fun r66=>(uE F0 c r.2.2.2.1.2.2.1 r.2.1 r66.1).bind fun r67=>some (r67.1,r67.2.1,()))))):=by kernel_rfl
def adQ:Any:=.one ⟨xK,ahX,2,fun x=>adP F0 x.1 x.2.1⟩
theorem aw9:bm 209 adQ:=aA aop ⟨da,V7,MR,ZD,tg,adD,agA,agx,trivial⟩ func209 ab (by kernel_rfl)
def Ao:=[(47,cC),(79,b8),(213,uA)]
def Ap:Nat→Option Hint:=look [(5,{live:=[3,4,5,6,8,9],xY:=[(6,7,3,.int .i64),(6,9,76,K4),(6,10,74,K9),(6,11,5,.int .u8),(6,13,146,qK)],xl:=[6,8],rl:=[6,7]})]
def nv (tX c c1 r r1 r2 r3 r4 r5:Int)(r6:ByteArray)(r7:List Int)(r8:ByteArray)(r9:List D4)(hY:List D9)(dA:List Int)(cN:Int)(cj:List lL)(m m1:Int)(m2:ByteArray)(m3:Int)(m4:ByteArray)(m5:List Int)(m6:Int)(m7:ByteArray)(m8:List Int)(m9:Int)(m10:ByteArray)(m11:List Int)(m12 m13 m14 m15 m16 t6 t61 t62 t63 t64 t65:Int)(t66 t67:ByteArray)(t68 out bg re rf rh ri:Int)(JN JO:ByteArray)(JP:Int)(xs:List Int)(aO:List D4)(aY:List D9)(bj:List Int)(bK:List lL)(cA:List Int)(cB:List D4)(cF:List D9)(oN:List Int)(Fw:List lL):= er 43 [cS 3,cS 4,cS 5,cS 6,cS 8,(9,bR tX)] [(3,[aq c,aq c1]),(4,[aq r,aq r1,aq r2,aq r3,aq r4,aq r5,.str r6,.ro false 3 (.int .i64) r7,.str r8,.ro false 76 (K4) r9,.ro false 74 (K9) hY,.ro false 5 (.int .u8) dA,aq cN,.ro false 146 (qK) cj]),(5,[aq m,aq m1,.str m2,aq m3,.str m4,.ro false 3 (.int .i64) m5,aq m6,.str m7,.ro false 3 (.int .i64) m8,aq m9,.str m10,.ro false 3 (.int .i64) m11,aq m12,aq m13,aq m14,aq m15,aq m16]),(6,[aq t6,aq t61,aq t62,aq t63,aq t64,aq t65,.str t66,.own 1000000 none,.str t67,.own 1000001 none,.own 1000002 none,.own 1000003 none,aq t68,.own 1000004 none]),(8,[aq out,aq bg,aq re,aq rf,aq rh,aq ri,.str JN,.own 1000005 none,.str JO,.own 1000006 none,.own 1000007 none,.own 1000008 none,aq JP,.own 1000009 none])] [aB 1000000 3 (.int .i64) xs,aB 1000001 76 K4 aO,aB 1000002 74 K9 aY,aB 1000003 5 (.int .u8) bj,aB 1000004 146 qK bK,aB 1000005 3 (.int .i64) cA,aB 1000006 76 K4 cB,aB 1000007 74 K9 cF,aB 1000008 5 (.int .u8) oN,aB 1000009 146 qK Fw]
def PY (t7:Bool)(t6 t61 t62 t63 t64 t65:Int)(t66 t67:ByteArray)(t68:Int)(xs:List Int)(aO:List D4)(aY:List D9)(bj:List Int)(bK:List lL):= er 43 [cS 6,(7,RP t7)] [(6,[aq t6,aq t61,aq t62,aq t63,aq t64,aq t65,.str t66,.own 1000000 none,.str t67,.own 1000001 none,.own 1000002 none,.own 1000003 none,aq t68,.own 1000004 none])] [aB 1000000 3 (.int .i64) xs,aB 1000001 76 K4 aO,aB 1000002 74 K9 aY,aB 1000003 5 (.int .u8) bj,aB 1000004 146 qK bK]
def M0 (t6 t61 t62 t63 t64 t65:Int)(t66 t67:ByteArray)(t68 out bg re rf rh ri:Int)(JN JO:ByteArray)(JP:Int)(xs:List Int)(aO:List D4)(aY:List D9)(bj:List Int)(bK:List lL)(cA:List Int)(cB:List D4)(cF:List D9)(oN:List Int)(Fw:List lL):= er 43 [cS 6,cS 8] [(6,[aq t6,aq t61,aq t62,aq t63,aq t64,aq t65,.str t66,.own 1000000 none,.str t67,.own 1000001 none,.own 1000002 none,.own 1000003 none,aq t68,.own 1000004 none]),(8,[aq out,aq bg,aq re,aq rf,aq rh,aq ri,.str JN,.own 1000005 none,.str JO,.own 1000006 none,.own 1000007 none,.own 1000008 none,aq JP,.own 1000009 none])] [aB 1000000 3 (.int .i64) xs,aB 1000001 76 K4 aO,aB 1000002 74 K9 aY,aB 1000003 5 (.int .u8) bj,aB 1000004 146 qK bK,aB 1000005 3 (.int .i64) cA,aB 1000006 76 K4 cB,aB 1000007 74 K9 cF,aB 1000008 5 (.int .u8) oN,aB 1000009 146 qK Fw]
def rI (st:St):Option α:=gW Ao F Ap [.r,.r,.r,.l,.r,.b,.i] f210 κ n st
def tv:=jF Ao F Ap [.r,.r,.r,.l,.r,.b] f210 hZ 2
theorem GL (tX c c1 r r1 r2 r3 r4 r5:Int)(r6:ByteArray)(r7:List Int)(r8:ByteArray)(r9:List D4)(hY:List D9)(dA:List Int)(cN:Int)(cj:List lL)(m m1:Int)(m2:ByteArray)(m3:Int)(m4:ByteArray)(m5:List Int)(m6:Int)(m7:ByteArray)(m8:List Int)(m9:Int)(m10:ByteArray)(m11:List Int)(m12 m13 m14 m15 m16 t6 t61 t62 t63 t64 t65:Int)(t66 t67:ByteArray)(t68 out bg re rf rh ri:Int)(JN JO:ByteArray)(JP:Int)(xs:List Int)(aO:List D4)(aY:List D9)(bj:List Int)(bK:List lL)(cA:List Int)(cB:List D4)(cF:List D9)(oN:List Int)(Fw:List lL):rI F κ (n+1) (nv tX c c1 r r1 r2 r3 r4 r5 r6 r7 r8 r9 hY dA cN cj m m1 m2 m3 m4 m5 m6 m7 m8 m9 m10 m11 m12 m13 m14 m15 m16 t6 t61 t62 t63 t64 t65 t66 t67 t68 out bg re rf rh ri JN JO JP xs aO aY bj bK cA cB cF oN Fw)=br (decide (tX<c)) (br (tX==r) (rI F κ n (nv (aj (tX+1)) c c1 r r1 r2 r3 r4 r5 r6 r7 r8 r9 hY dA cN cj m m1 m2 m3 m4 m5 m6 m7 m8 m9 m10 m11 m12 m13 m14 m15 m16 t6 t61 t62 t63 t64 t65 t66 t67 t68 out bg re rf rh ri JN JO JP xs aO aY bj bK cA cB cF oN Fw)) ((nr F0 (c,c1) (out,bg,re,(rf,rh,(ri,JN,cA),JO),cB,cF,(oN,JP),Fw) tX (m,m1,(m2,m3,m4,m5),(m6,m7,m8),(m9,m10,m11),m12,m13,m14,m15,m16)).bind fun qT=>br (!qT.2.1) ((aE F0 (r,r1,r2,(r3,r4,(r5,r6,r7),r8),r9,hY,(dA,cN),cj)).bind fun xm=>κ .ret (PY false xm.1.1 xm.1.2.1 xm.1.2.2.1 xm.1.2.2.2.1.1 xm.1.2.2.2.1.2.1 xm.1.2.2.2.1.2.2.1.1 xm.1.2.2.2.1.2.2.1.2.1 xm.1.2.2.2.1.2.2.2 xm.1.2.2.2.2.2.2.1.2 xm.1.2.2.2.1.2.2.1.2.2 xm.1.2.2.2.2.1 xm.1.2.2.2.2.2.1 xm.1.2.2.2.2.2.2.1.1 xm.1.2.2.2.2.2.2.2)) (rI F κ n (nv (aj (tX+1)) c c1 r r1 r2 r3 r4 r5 r6 r7 r8 r9 hY dA cN cj m m1 m2 m3 m4 m5 m6 m7 m8 m9 m10 m11 m12 m13 m14 m15 m16 t6 t61 t62 t63 t64 t65 t66 t67 t68 qT.1.1 qT.1.2.1 qT.1.2.2.1 qT.1.2.2.2.1.1 qT.1.2.2.2.1.2.1 qT.1.2.2.2.1.2.2.1.1 qT.1.2.2.2.1.2.2.1.2.1 qT.1.2.2.2.1.2.2.2 qT.1.2.2.2.2.2.2.1.2 xs aO aY bj bK qT.1.2.2.2.1.2.2.1.2.2 qT.1.2.2.2.2.1 qT.1.2.2.2.2.2.1 qT.1.2.2.2.2.2.2.1.1 qT.1.2.2.2.2.2.2.2)))) (κ (.exit 0) (M0 t6 t61 t62 t63 t64 t65 t66 t67 t68 out bg re rf rh ri JN JO JP xs aO aY bj bK cA cB cF oN Fw)):=by kernel_rfl
theorem adR (t7:Bool)(t6 t61 t62 t63 t64 t65:Int)(t66 t67:ByteArray)(t68:Int)(xs:List Int)(aO:List D4)(aY:List D9)(bj:List Int)(bK:List lL):tv F .ret (PY t7 t6 t61 t62 t63 t64 t65 t66 t67 t68 xs aO aY bj bK)=some ((t6,t61,t62,(t63,t64,(t65,t66,xs),t67),aO,aY,(bj,t68),bK),t7,()):=by kernel_rfl
theorem aa1 (t6 t61 t62 t63 t64 t65:Int)(t66 t67:ByteArray)(t68 out bg re rf rh ri:Int)(JN JO:ByteArray)(JP:Int)(xs:List Int)(aO:List D4)(aY:List D9)(bj:List Int)(bK:List lL)(cA:List Int)(cB:List D4)(cF:List D9)(oN:List Int)(Fw:List lL):tv F (.exit 0) (M0 t6 t61 t62 t63 t64 t65 t66 t67 t68 out bg re rf rh ri JN JO JP xs aO aY bj bK cA cB cF oN Fw)=some ((out,bg,re,(rf,rh,(ri,JN,cA),JO),cB,cF,(oN,JP),Fw),true,()):=by kernel_rfl
def Aq (c:D1)(r:bz)(m:NA):=bF Ao F Ap f210 YY hZ 2 (c,r,m,())
theorem akR (c:D1)(r:bz)(m:NA):Aq F c r m=(aE F0 r).bind fun cj=>(c8 F0 c r).bind fun oM=>br (!oM.1) (some (cj.1,false,())) (rI F (tv F) F.n (nv 0 c.1 c.2 r.1 r.2.1 r.2.2.1 r.2.2.2.1.1 r.2.2.2.1.2.1 r.2.2.2.1.2.2.1.1 r.2.2.2.1.2.2.1.2.1 r.2.2.2.1.2.2.1.2.2 r.2.2.2.1.2.2.2 r.2.2.2.2.1 r.2.2.2.2.2.1 r.2.2.2.2.2.2.1.1 r.2.2.2.2.2.2.1.2 r.2.2.2.2.2.2.2 m.1 m.2.1 m.2.2.1.1 m.2.2.1.2.1 m.2.2.1.2.2.1 m.2.2.1.2.2.2 m.2.2.2.1.1 m.2.2.2.1.2.1 m.2.2.2.1.2.2 m.2.2.2.2.1.1 m.2.2.2.2.1.2.1 m.2.2.2.2.1.2.2 m.2.2.2.2.2.1 m.2.2.2.2.2.2.1 m.2.2.2.2.2.2.2.1 m.2.2.2.2.2.2.2.2.1 m.2.2.2.2.2.2.2.2.2 0 0 0 0 0 0 al al 0 cj.1.1 cj.1.2.1 cj.1.2.2.1 cj.1.2.2.2.1.1 cj.1.2.2.2.1.2.1 cj.1.2.2.2.1.2.2.1.1 cj.1.2.2.2.1.2.2.1.2.1 cj.1.2.2.2.1.2.2.2 cj.1.2.2.2.2.2.2.1.2 [] [] [] [] [] cj.1.2.2.2.1.2.2.1.2.2 cj.1.2.2.2.2.1 cj.1.2.2.2.2.2.1 cj.1.2.2.2.2.2.2.1.1 cj.1.2.2.2.2.2.2.2)):=by kernel_rfl
def PZ:Any:=.one ⟨YY,hZ,2,fun x=>Aq F0 x.1 x.2.1 x.2.2.1⟩
theorem akS:bm 210 PZ:=aA Ao ⟨da,cL,HY,trivial⟩ func210 Ap (by kernel_rfl)
def Wb:=[(79,b8),(197,wU),(209,adQ),(210,PZ)]
abbrev aoq:List (Ty×Bool):=[(db,true),(.int .i64,false)]
def H9 (c:D1)(r:bz):=bF Wb F ab f146 xK aoq 0 (c,r,())
theorem akT (c:D1)(r:bz):H9 F c r=(adP F0 c r).bind fun cN=>br (!cN.2.1) (some (r,3,())) ((aE F0 r).bind fun dM=>(Aq F0 c (dM.1.1,dM.1.2.1,r.2.1,dM.1.2.2.2) (1,0,cN.1,(0,al,[]),(0,al,[]),0,0,0,0,0)).bind fun UE=>br (!UE.2.1) (some (r,4,())) ((rG F0 c UE.1 cN.1).bind fun TP=>br (!TP.2.1) (some (r,4,())) (some (TP.1,0,())))):=by kernel_rfl
def P0:Any:=.one ⟨xK,aoq,0,fun x=>H9 F0 x.1 x.2.1⟩
theorem akU:bm 146 P0:=aA Wb ⟨cL,MN,aw9,akS,trivial⟩ func146 ab (by kernel_rfl)
def wm:=[(211,Ag)]
def wo:Nat→Option Hint:=look [(2,{live:=[2,3,4,6],xY:=[(4,7,3,.int .i64),(4,9,76,K4),(4,10,74,K9),(4,11,5,.int .u8),(4,13,146,qK)],xl:=[3,4],rl:=[4,5]})]
def qB (i c c1 r r1 r2 r3 r4 r5:Int)(r6:ByteArray)(r7:List Int)(r8:ByteArray)(r9:List D4)(hY:List D9)(dA:List Int)(cN:Int)(cj:List lL)(t4 t41 t42 t43 t44 t45:Int)(t46 t47:ByteArray)(t48:Int)(xs:List Int)(aO:List D4)(aY:List D9)(bj:List Int)(bK:List lL):= er 41 [cS 2,cS 3,cS 4,(6,bR i)] [(2,[aq c,aq c1]),(3,[aq r,aq r1,aq r2,aq r3,aq r4,aq r5,.str r6,.ro false 3 (.int .i64) r7,.str r8,.ro false 76 (K4) r9,.ro false 74 (K9) hY,.ro false 5 (.int .u8) dA,aq cN,.ro false 146 (qK) cj]),(4,[aq t4,aq t41,aq t42,aq t43,aq t44,aq t45,.str t46,.own 1000000 none,.str t47,.own 1000001 none,.own 1000002 none,.own 1000003 none,aq t48,.own 1000004 none])] [aB 1000000 3 (.int .i64) xs,aB 1000001 76 K4 aO,aB 1000002 74 K9 aY,aB 1000003 5 (.int .u8) bj,aB 1000004 146 qK bK]
def Ar (t5 t4 t41 t42 t43 t44 t45:Int)(t46:ByteArray)(t47:List Int)(t48:ByteArray)(t49:List D4)(fW:List D9)(fX:List Int)(fY:Int)(fZ:List lL):= er 41 [cS 4,(5,bR t5)] [(4,[aq t4,aq t41,aq t42,aq t43,aq t44,aq t45,.str t46,.ro false 3 (.int .i64) t47,.str t48,.ro false 76 (K4) t49,.ro false 74 (K9) fW,.ro false 5 (.int .u8) fX,aq fY,.ro false 146 (qK) fZ])] []
def Kt (r r1 r2 r3 r4 r5:Int)(r6:ByteArray)(r7:List Int)(r8:ByteArray)(r9:List D4)(hY:List D9)(dA:List Int)(cN:Int)(cj:List lL)(t4 t41 t42 t43 t44 t45:Int)(t46 t47:ByteArray)(t48:Int)(xs:List Int)(aO:List D4)(aY:List D9)(bj:List Int)(bK:List lL):= er 41 [cS 3,cS 4] [(3,[aq r,aq r1,aq r2,aq r3,aq r4,aq r5,.str r6,.ro false 3 (.int .i64) r7,.str r8,.ro false 76 (K4) r9,.ro false 74 (K9) hY,.ro false 5 (.int .u8) dA,aq cN,.ro false 146 (qK) cj]),(4,[aq t4,aq t41,aq t42,aq t43,aq t44,aq t45,.str t46,.own 1000000 none,.str t47,.own 1000001 none,.own 1000002 none,.own 1000003 none,aq t48,.own 1000004 none])] [aB 1000000 3 (.int .i64) xs,aB 1000001 76 K4 aO,aB 1000002 74 K9 aY,aB 1000003 5 (.int .u8) bj,aB 1000004 146 qK bK]
def wq (st:St):Option α:=gW wm F wo [.r,.l,.r,.b,.i] f147 κ n st
def qC:=jF wm F wo [.r,.l,.r,.b] f147 aoq 0
theorem EL (i c c1 r r1 r2 r3 r4 r5:Int)(r6:ByteArray)(r7:List Int)(r8:ByteArray)(r9:List D4)(hY:List D9)(dA:List Int)(cN:Int)(cj:List lL)(t4 t41 t42 t43 t44 t45:Int)(t46 t47:ByteArray)(t48:Int)(xs:List Int)(aO:List D4)(aY:List D9)(bj:List Int)(bK:List lL):wq F κ (n+1) (qB i c c1 r r1 r2 r3 r4 r5 r6 r7 r8 r9 hY dA cN cj t4 t41 t42 t43 t44 t45 t46 t47 t48 xs aO aY bj bK)=br (decide (i≥0)) (ck (cl i (hY.length:Int)) (br (!((aP hY i K9.aG).2.1.toList==al.toList)) ((oC F0 (c,c1) (r,r1,r2,(r3,r4,(r5,r6,r7),r8),r9,hY,(dA,cN),cj) (aP hY i K9.aG).1 (aP hY i K9.aG).2.1 true).bind fun tW=>br (!tW.2.1) (κ .ret (Ar 3 r r1 r2 r3 r4 r5 r6 r7 r8 r9 hY dA cN cj)) (κ .ret (Ar 0 tW.1.1 tW.1.2.1 tW.1.2.2.1 tW.1.2.2.2.1.1 tW.1.2.2.2.1.2.1 tW.1.2.2.2.1.2.2.1.1 tW.1.2.2.2.1.2.2.1.2.1 tW.1.2.2.2.1.2.2.1.2.2 tW.1.2.2.2.1.2.2.2 tW.1.2.2.2.2.1 tW.1.2.2.2.2.2.1 tW.1.2.2.2.2.2.2.1.1 tW.1.2.2.2.2.2.2.1.2 tW.1.2.2.2.2.2.2.2))) (wq F κ n (qB (aj (i-1)) c c1 r r1 r2 r3 r4 r5 r6 r7 r8 r9 hY dA cN cj t4 t41 t42 t43 t44 t45 t46 t47 t48 xs aO aY bj bK)))) (κ (.exit 0) (Kt r r1 r2 r3 r4 r5 r6 r7 r8 r9 hY dA cN cj t4 t41 t42 t43 t44 t45 t46 t47 t48 xs aO aY bj bK)):=by kernel_rfl
theorem Ku (t5 t4 t41 t42 t43 t44 t45:Int)(t46:ByteArray)(t47:List Int)(t48:ByteArray)(t49:List D4)(fW:List D9)(fX:List Int)(fY:Int)(fZ:List lL):qC F .ret (Ar t5 t4 t41 t42 t43 t44 t45 t46 t47 t48 t49 fW fX fY fZ)=some ((t4,t41,t42,(t43,t44,(t45,t46,t47),t48),t49,fW,(fX,fY),fZ),t5,()):=by kernel_rfl
theorem X2 (r r1 r2 r3 r4 r5:Int)(r6:ByteArray)(r7:List Int)(r8:ByteArray)(r9:List D4)(hY:List D9)(dA:List Int)(cN:Int)(cj:List lL)(t4 t41 t42 t43 t44 t45:Int)(t46 t47:ByteArray)(t48:Int)(xs:List Int)(aO:List D4)(aY:List D9)(bj:List Int)(bK:List lL):qC F (.exit 0) (Kt r r1 r2 r3 r4 r5 r6 r7 r8 r9 hY dA cN cj t4 t41 t42 t43 t44 t45 t46 t47 t48 xs aO aY bj bK)=some ((r,r1,r2,(r3,r4,(r5,r6,r7),r8),r9,hY,(dA,cN),cj),3,()):=by kernel_rfl
def DH (c:D1)(r:bz):=bF wm F wo f147 xK aoq 0 (c,r,())
theorem agB (c:D1)(r:bz):DH F c r=wq F (qC F) F.n (qB (aj ((r.2.2.2.2.2.1.length:Int)-1)) c.1 c.2 r.1 r.2.1 r.2.2.1 r.2.2.2.1.1 r.2.2.2.1.2.1 r.2.2.2.1.2.2.1.1 r.2.2.2.1.2.2.1.2.1 r.2.2.2.1.2.2.1.2.2 r.2.2.2.1.2.2.2 r.2.2.2.2.1 r.2.2.2.2.2.1 r.2.2.2.2.2.2.1.1 r.2.2.2.2.2.2.1.2 r.2.2.2.2.2.2.2 0 0 0 0 0 0 al al 0 [] [] [] [] []):=by kernel_rfl
def M1:Any:=.one ⟨xK,aoq,0,fun x=>DH F0 x.1 x.2.1⟩
theorem agC:bm 147 M1:=aA wm ⟨NP,trivial⟩ func147 wo (by kernel_rfl)
def aip:=[(47,cC),(79,b8),(204,lV),(212,lx),(213,uA)]
def Xe (c:D1)(r:bz):=bF aip F ab f148 xK hZ 2 (c,r,())
theorem auP (c:D1)(r:bz):Xe F c r=(c8 F0 c r).bind fun dA=>br (!dA.1) ((aE F0 r).bind fun dM=>some (dM.1,false,())) (br (r.2.1==60) ((aE F0 r).bind fun dM=>some (dM.1,false,())) ((aE F0 r).bind fun gv=>(tf F0 c (aj (gv.1.2.1+1))).bind fun Ou=>br (Ou.1==r.1) ((fv F0 c gv.1.2.2.2.2.2.1 (aj (gv.1.2.1+1),al,[r.1])).bind fun r44=>br (!r44.2.1) ((aE F0 r).bind fun r66=>some (r66.1,false,())) (some ((gv.1.1,aj (gv.1.2.1+1),gv.1.2.2.1,gv.1.2.2.2.1,gv.1.2.2.2.2.1,r44.1,gv.1.2.2.2.2.2.2),true,()))) ((nr F0 c (gv.1.1,aj (gv.1.2.1+1),gv.1.2.2) Ou.1 (3,aj (gv.1.2.1+1),(al,0,al,[]),(0,al,[]),r.2.2.2.1.2.2.1,r.1,0,0,0,0)).bind fun r60=>br (!r60.2.1) ((aE F0 r).bind fun r66=>some (r66.1,false,())) (some (r60.1,true,()))))):=by kernel_rfl
def ZF:Any:=.one ⟨xK,hZ,2,fun x=>Xe F0 x.1 x.2.1⟩
theorem auQ:bm 148 ZF:=aA aip ⟨da,cL,tg,te,HY,trivial⟩ func148 ab (by kernel_rfl)
def ZG:=[(41,ll),(42,o7)]
def EM (d:D14)(keep:Int):=bF ZG F ab f12 aCr pY 1 (d,keep,())
theorem aor (d:D14)(keep:Int):EM F d keep=(lT F0 d).bind fun r7=>(rv F0 d).bind fun r9=>br r9.1 (ck (okT (aj (d.2+(if (aj ((d.1.length:Int)-d.2))<(if 0>keep then 0 else keep) then (aj ((d.1.length:Int)-d.2)) else (if 0>keep then 0 else keep)))) (r7.1.1.length:Int)) (some ((r7.1.1.take (aj (d.2+(if (aj ((d.1.length:Int)-d.2))<(if 0>keep then 0 else keep) then (aj ((d.1.length:Int)-d.2)) else (if 0>keep then 0 else keep)))).toNat,aj (d.2+(if (aj ((d.1.length:Int)-d.2))<(if 0>keep then 0 else keep) then (aj ((d.1.length:Int)-d.2)) else (if 0>keep then 0 else keep)))),()))) (some (r7.1,())):=by kernel_rfl
def FO:Any:=.one ⟨aCr,pY,1,fun x=>EM F0 x.1 x.2.1⟩
theorem Wc:bm 12 FO:=aA ZG ⟨sU,zH,trivial⟩ func12 ab (by kernel_rfl)
def Q8: Option (Args AM):=bF aF F ab f43 [] AM 2 (())
theorem akV: Q8 F= some ((0,0,(0,al,[]),al),()):=by kernel_rfl
def P1:Any:=.one ⟨[],AM,2,fun x=>Q8 F0⟩
theorem akW:bm 43 P1:=aA aF trivial func43 ab (by kernel_rfl)
def ZH:=[(87,jl),(88,wL),(89,lh),(90,kC)]
def M3 (c:D1)(b:List Int):=bF ZH F ab f45 R7 ah1 2 (c,b,())
theorem aos (c:D1)(b:List Int):M3 F c b=(bT F0 (b,0,false)).bind fun cN=>(bT F0 cN.2.1).bind fun lM=>(mZ F0 lM.2.1).bind fun fh=>(gP F0 fh.2.1).bind fun DY=>br DY.2.1.2.2 (some ((0,0,(0,al,[]),al),false,())) (br (DY.2.1.2.1 != (b.length:Int)) (some ((0,0,(0,al,[]),al),false,())) ((ld F0 c (cN.1.1,lM.1.1,fh.1.1,DY.1.1)).bind fun TP=>br (!TP.1) (some ((0,0,(0,al,[]),al),false,())) (some ((cN.1.1,lM.1.1,fh.1.1,DY.1.1),true,())))):=by kernel_rfl
def Tt:Any:=.one ⟨R7,ah1,2,fun x=>M3 F0 x.1 x.2.1⟩
theorem aot:bm 45 Tt:=aA ZH ⟨oa,Mr,tR,rq,trivial⟩ func45 ab (by kernel_rfl)
def wu:=[(43,P1),(44,BP),(45,Tt)]
def wv:Nat→Option Hint:=look [(3,{live:=[1,2,4,6,7],xY:=[(4,4,3,.int .i64)],rl:=[4,5]})]
def lA (b:List Int)(size c c1 t4 t41 t42:Int)(t43 t44:ByteArray)(s s1 s2:Int)(s3 s4:ByteArray)(xs aO:List Int):= er 51 [(1,jO 5 (.int .u8) b),cS 2,cS 4,cS 6,(7,bR size)] [(2,[aq c,aq c1]),(4,[aq t4,aq t41,aq t42,.str t43,.own 1000000 none,.str t44]),(6,[aq s,aq s1,aq s2,.str s3,.own 1000001 none,.str s4])] [aB 1000000 3 (.int .i64) xs,aB 1000001 3 (.int .i64) aO]
def lB (t5 t4 t41 t42:Int)(t43 t44:ByteArray)(xs:List Int):= er 51 [cS 4,(5,bR t5)] [(4,[aq t4,aq t41,aq t42,.str t43,.own 1000000 none,.str t44])] [aB 1000000 3 (.int .i64) xs]
def pg (st:St):Option α:=gW wu F wv [.r,.r,.r,.b,.i] f14 κ n st
def qD:=jF wu F wv [.r,.r,.r,.b] f14 asl 2
theorem EN (b:List Int)(size c c1 t4 t41 t42:Int)(t43 t44:ByteArray)(s s1 s2:Int)(s3 s4:ByteArray)(xs aO:List Int):pg F κ (n+1) (lA b size c c1 t4 t41 t42 t43 t44 s s1 s2 s3 s4 xs aO)=(og F0 b size).bind fun oM=>br (!oM.2.2.1) (κ .ret (lB size s s1 s2 s3 s4 aO)) (br (decide (oM.2.1≥(b.length:Int))) (κ .ret (lB size s s1 s2 s3 s4 aO)) (ck (cl oM.2.1 (b.length:Int)) (br ((aP b oM.2.1 0) != 10) (κ .ret (lB size s s1 s2 s3 s4 aO)) (ck (decide ((oM.1.size:Int)≤F.mem)) ((M3 F0 (c,c1) (bytesOf oM.1)).bind fun r41=>br (!r41.2.1) (κ .ret (lB size s s1 s2 s3 s4 aO)) (pg F κ n (lA b (aj (oM.2.1+1)) c c1 t4 t41 t42 t43 t44 r41.1.1 r41.1.2.1 r41.1.2.2.1.1 r41.1.2.2.1.2.1 r41.1.2.2.2 xs r41.1.2.2.1.2.2))))))):=by kernel_rfl
theorem Kv (t5 t4 t41 t42:Int)(t43 t44:ByteArray)(xs:List Int):qD F .ret (lB t5 t4 t41 t42 t43 t44 xs)=some ((t4,t41,(t42,t43,xs),t44),t5,()):=by kernel_rfl
def pL (c:D1)(b:List Int):=bF wu F wv f14 R7 asl 2 (c,b,())
theorem agD (c:D1)(b:List Int):pL F c b=(Q8 F0).bind fun cN=>pg F (qD F) F.n (lA b 0 c.1 c.2 0 0 0 al al cN.1.1 cN.1.2.1 cN.1.2.2.1.1 cN.1.2.2.1.2.1 cN.1.2.2.2 [] cN.1.2.2.1.2.2):=by kernel_rfl
def qE:Any:=.one ⟨R7,asl,2,fun x=>pL F0 x.1 x.2.1⟩
theorem B0:bm 14 qE:=aA wu ⟨akW,S1,aot,trivial⟩ func14 wv (by kernel_rfl)
def aiq:=[(14,qE),(47,cC),(79,b8)]
def air:Nat→Option Hint:=look [(900005,{live:=[],mat:=[(3,0,db),(5,0,K12)]})]
def P2 (c:D1)(r:bz):=bF aiq F air f149 xK Sa 1 (c,r,())
theorem auR (c:D1)(r:bz):P2 F c r=(c8 F0 c r).bind fun hY=>br (!hY.1) ((aE F0 r).bind fun cj=>some (cj.1,())) ((pL F0 c r.2.2.2.2.2.2.1.1).bind fun dM=>ck (RN 0 dM.2.1 (r.2.2.2.2.2.2.1.1.length:Int)) (ck (fg F 0 ((r.2.2.2.2.2.2.1.1.take dM.2.1.toNat).drop (0:Int).toNat).length 1) (some ((r.1,(if 60<(if 1>(if (aj (dM.1.2.2.1.1+1))>dM.1.1 then (aj (dM.1.2.2.1.1+1)) else dM.1.1) then 1 else (if (aj (dM.1.2.2.1.1+1))>dM.1.1 then (aj (dM.1.2.2.1.1+1)) else dM.1.1)) then 60 else (if 1>(if (aj (dM.1.2.2.1.1+1))>dM.1.1 then (aj (dM.1.2.2.1.1+1)) else dM.1.1) then 1 else (if (aj (dM.1.2.2.1.1+1))>dM.1.1 then (aj (dM.1.2.2.1.1+1)) else dM.1.1)),(0,dM.1,[],[],([]++((r.2.2.2.2.2.2.1.1.take dM.2.1.toNat).drop (0:Int).toNat),dM.2.1),[]))),())))):=by kernel_rfl
def ZI:Any:=.one ⟨xK,Sa,1,fun x=>P2 F0 x.1 x.2.1⟩
theorem auS:bm 149 ZI:=aA aiq ⟨B0,da,cL,trivial⟩ func149 air (by kernel_rfl)
def Wd:=[(12,FO),(79,b8),(143,NR),(146,P0),(147,M1),(148,ZF),(149,ZI)]
abbrev aF6:List (Ty×Bool):=[(K1,true),(db,true),(K45,true)]
def Ia (c:D1)(r:bz)(d:D45):=bF Wd F ab f84 aF6 aoq 0 (c,r,d,())
theorem akX (c:D1)(r:bz)(d:D45):Ia F c r d=(aE F0 r).bind fun dA=>br (d.1==1) ((H9 F0 c r).bind fun tW=>some (tW.1,tW.2.1,())) (br (d.1==6) ((DH F0 c r).bind fun xm=>some (xm.1,xm.2.1,())) (br (d.1==7) ((Xe F0 c r).bind fun r48=>br (!r48.2.1) (some (r,3,())) (some (r48.1,0,()))) (br (d.1==8) ((EM F0 r.2.2.2.2.2.2.1 d.2.2.1).bind fun r57=>(P2 F0 c (dA.1.1,dA.1.2.1,dA.1.2.2.1,dA.1.2.2.2.1,dA.1.2.2.2.2.1,dA.1.2.2.2.2.2.1,r57.1,dA.1.2.2.2.2.2.2.2)).bind fun Ix=>some (Ix.1,0,())) ((IB F0 c r d.2.2.2).bind fun dM=>br dM.2.1 (br (!(d.2.2.2.1==4)) (some (r,3,())) (some (dM.1,0,()))) (some (r,3,())))))):=by kernel_rfl
def P3:Any:=.one ⟨aF6,aoq,0,fun x=>Ia F0 x.1 x.2.1 x.2.2.1⟩
theorem akY:bm 84 P3:=aA Wd ⟨Wc,cL,adL,akU,agC,auQ,auS,trivial⟩ func84 ab (by kernel_rfl)
def asn:=[(34,nj),(38,gQ),(67,bL),(81,Px),(82,MG),(83,PU),(84,P3)]
def alc (w:pt)(d:D45):=bF asn F ab f39 aia adq 0 (w,d,())
theorem azN (w:pt)(d:D45):alc F w d=(dN F0 w).bind fun hY=>br (!hY.1) (some (((0,0),[],[],[],[]),1,())) ((bd F0 d.1 1 10).bind fun py=>br (!py.1) (some (((0,0),[],[],[],[]),1,())) ((HP F0 w d).bind fun gr=>br (!gr.1) ((aS F0 w).bind fun XQ=>some (XQ.1,2,())) ((aS F0 w).bind fun Bl=>br (d.1==2) ((Ds F0 w d.2.1).bind fun W3=>br (W3.2.1==0) ((dN F0 W3.1).bind fun r72=>br (!r72.1) (br (4 != 0) ((aS F0 w).bind fun Iz=>some (Iz.1,4,())) (some (W3.1,0,()))) (br (W3.2.1 != 0) ((aS F0 w).bind fun Iz=>some (Iz.1,W3.2.1,())) (some (W3.1,0,())))) (br (W3.2.1 != 0) ((aS F0 w).bind fun Iz=>some (Iz.1,W3.2.1,())) (some (W3.1,0,())))) (br (d.1==3) ((oG F0 w d).bind fun eY=>br (eY.2.1==0) ((dN F0 eY.1).bind fun r72=>br (!r72.1) (br (4 != 0) ((aS F0 w).bind fun Iz=>some (Iz.1,4,())) (some (eY.1,0,()))) (br (eY.2.1 != 0) ((aS F0 w).bind fun Iz=>some (Iz.1,eY.2.1,())) (some (eY.1,0,())))) (br (eY.2.1 != 0) ((aS F0 w).bind fun Iz=>some (Iz.1,eY.2.1,())) (some (eY.1,0,())))) (br (d.1==4) ((oG F0 w d).bind fun eY=>br (eY.2.1==0) ((dN F0 eY.1).bind fun r72=>br (!r72.1) (br (4 != 0) ((aS F0 w).bind fun Iz=>some (Iz.1,4,())) (some (eY.1,0,()))) (br (eY.2.1 != 0) ((aS F0 w).bind fun Iz=>some (Iz.1,eY.2.1,())) (some (eY.1,0,())))) (br (eY.2.1 != 0) ((aS F0 w).bind fun Iz=>some (Iz.1,eY.2.1,())) (some (eY.1,0,())))) (br (d.1==5) ((oG F0 w d).bind fun eY=>br (eY.2.1==0) ((dN F0 eY.1).bind fun r72=>br (!r72.1) (br (4 != 0) ((aS F0 w).bind fun Iz=>some (Iz.1,4,())) (some (eY.1,0,()))) (br (eY.2.1 != 0) ((aS F0 w).bind fun Iz=>some (Iz.1,eY.2.1,())) (some (eY.1,0,())))) (br (eY.2.1 != 0) ((aS F0 w).bind fun Iz=>some (Iz.1,eY.2.1,())) (some (eY.1,0,())))) (br (d.1==10) ((oG F0 w d).bind fun eY=>br (eY.2.1==0) ((dN F0 eY.1).bind fun r72=>br (!r72.1) (br (4 != 0) ((aS F0 w).bind fun Iz=>some (Iz.1,4,())) (some (eY.1,0,()))) (br (eY.2.1 != 0) ((aS F0 w).bind fun Iz=>some (Iz.1,eY.2.1,())) (some (eY.1,0,())))) (br (eY.2.1 != 0) ((aS F0 w).bind fun Iz=>some (Iz.1,eY.2.1,())) (some (eY.1,0,())))) (ck (cl d.2.1 (w.2.2.1.length:Int)) ((Ia F0 w.1 (aP w.2.2.1 d.2.1 db.aG) d).bind fun r44=>ck (cl d.2.1 (Bl.1.2.2.1.length:Int)) (br (r44.2.1==0) ((dN F0 (Bl.1.1,Bl.1.2.1,Bl.1.2.2.1.set d.2.1.toNat r44.1,Bl.1.2.2.2)).bind fun r72=>br (!r72.1) (br (4 != 0) ((aS F0 w).bind fun Iz=>some (Iz.1,4,())) (some ((Bl.1.1,Bl.1.2.1,Bl.1.2.2.1.set d.2.1.toNat r44.1,Bl.1.2.2.2),0,()))) (br (r44.2.1 != 0) ((aS F0 w).bind fun Iz=>some (Iz.1,r44.2.1,())) (some ((Bl.1.1,Bl.1.2.1,Bl.1.2.2.1.set d.2.1.toNat r44.1,Bl.1.2.2.2),0,())))) (br (r44.2.1 != 0) ((aS F0 w).bind fun Iz=>some (Iz.1,r44.2.1,())) (some ((Bl.1.1,Bl.1.2.1,Bl.1.2.2.1.set d.2.1.toNat r44.1,Bl.1.2.2.2),0,()))))))))))))):=by kernel_rfl
def ais:Any:=.one ⟨aia,adq,0,fun x=>alc F0 x.1 x.2.1⟩
theorem azO:bm 39 ais:=aA asn ⟨vQ,lq,cm,akt,agf,akO,akY,trivial⟩ func39 ab (by kernel_rfl)
def Ib:=[(34,nj),(38,gQ),(39,ais)]
def Ic:Nat→Option Hint:=look [(6,{live:=[4,6,7,23,24,25],mat:=[(7,3,.int .i64)],roB:=[(6,2),(6,3),(6,4),(6,5)],xY:=[(4,2,3,.int .i64),(4,3,50,db),(4,4,114,fU),(4,5,127,eh)],xl:=[4,6,7],rl:=[4,5]})]
def rJ (t23:List D45)(t24 t25 t4 t41 out bg:Int)(re:List Int)(rf:List bz)(rh:List cU)(ri:List cE)(xs aO:List Int)(aY:List bz)(bj:List cU)(bK:List cE):= er 45 [cS 4,cS 6,(7,.v (.c (.own 1000000 none))),(23,jO 80 (K45) t23),(24,bR t24),(25,bR t25)] [(4,[aq t4,aq t41,.own 1000001 none,.own 1000002 none,.own 1000003 none,.own 1000004 none]),(6,[aq out,aq bg,.ro false 3 (.int .i64) re,.ro false 50 (db) rf,.ro false 114 (fU) rh,.ro false 127 (eh) ri])] [aB 1000000 3 (.int .i64) xs,aB 1000001 3 (.int .i64) aO,aB 1000002 50 db aY,aB 1000003 114 fU bj,aB 1000004 127 eh bK]
def Tu (t4 t41 out bg:Int)(re:List Int)(rf:List bz)(rh:List cU)(ri:List cE)(xs aO:List Int)(aY:List bz)(bj:List cU)(bK:List cE):= er 45 [cS 4,cS 6,(7,.v (.c (.own 1000000 none)))] [(4,[aq t4,aq t41,.own 1000001 none,.own 1000002 none,.own 1000003 none,.own 1000004 none]),(6,[aq out,aq bg,.ro false 3 (.int .i64) re,.ro false 50 (db) rf,.ro false 114 (fU) rh,.ro false 127 (eh) ri])] [aB 1000000 3 (.int .i64) xs,aB 1000001 3 (.int .i64) aO,aB 1000002 50 db aY,aB 1000003 114 fU bj,aB 1000004 127 eh bK]
def As (st:St):Option α:=gW Ib F Ic [.r,.r,.r,.r,.l,.r,.b,.i] f10 κ n st
abbrev aF7:List (Ty×Bool):=[(iM,true),(.sl 3 (.int .i64),false)]
def Kw:=jF Ib F Ic [.r,.r,.r,.r,.l,.r,.b] f10 aF7 0
theorem M4 (t23:List D45)(t24 t25 t4 t41 out bg:Int)(re:List Int)(rf:List bz)(rh:List cU)(ri:List cE)(xs aO:List Int)(aY:List bz)(bj:List cU)(bK:List cE):As F κ (n+1) (rJ t23 t24 t25 t4 t41 out bg re rf rh ri xs aO aY bj bK)=br (decide (t25<t24)) (ck (cl t25 (t23.length:Int)) ((alc F0 ((out,bg),re,rf,rh,ri) (aP t23 t25 K45.aG)).bind fun Ha=>br (Ha.2.1==0) (ck (fg F xs.length [Ha.2.1].length 8) (As F κ n (rJ t23 t24 (aj (t25+1)) t4 t41 Ha.1.1.1 Ha.1.1.2 Ha.1.2.1 Ha.1.2.2.1 Ha.1.2.2.2.1 Ha.1.2.2.2.2 (xs++[Ha.2.1]) aO aY bj bK))) (ck (fg F xs.length [Ha.2.1].length 8) (As F κ n (rJ t23 t24 (aj (t25+1)) t4 t41 out bg re rf rh ri (xs++[Ha.2.1]) aO aY bj bK))))) (κ (.exit 0) (Tu t4 t41 out bg re rf rh ri xs aO aY bj bK)):=by kernel_rfl
theorem agE (t4 t41 out bg:Int)(re:List Int)(rf:List bz)(rh:List cU)(ri:List cE)(xs aO:List Int)(aY:List bz)(bj:List cU)(bK:List cE):Kw F (.exit 0) (Tu t4 t41 out bg re rf rh ri xs aO aY bj bK)=some (((out,bg),re,rf,rh,ri),xs,()):=by kernel_rfl
def Kx (w:pt)(list:D46):=bF Ib F Ic f10 aw1 aF7 0 (w,list,())
theorem aq4 (w:pt)(list:D46):Kx F w list=(aS F0 w).bind fun cj=>(dN F0 w).bind fun py=>br (!py.1) (some (cj.1,[],())) (br (decide ((list.length:Int)>500)) (some (cj.1,[],())) (As F (Kw F) F.n (rJ list (list.length:Int) 0 0 0 cj.1.1.1 cj.1.1.2 cj.1.2.1 cj.1.2.2.1 cj.1.2.2.2.1 cj.1.2.2.2.2 [] [] [] [] []))):=by kernel_rfl
def We:Any:=.one ⟨aw1,aF7,0,fun x=>Kx F0 x.1 x.2.1⟩
theorem aq5:bm 10 We:=aA Ib ⟨vQ,lq,azO,trivial⟩ func10 Ic (by kernel_rfl)
def adS (code:List Int)(i:Int):=bF aF F ab f13 YH dD 1 (code,i,())
theorem azP (code:List Int)(i:Int):adS F code i=br (decide (i<(code.length:Int))) (ck (cl i (code.length:Int)) (some (aj (aP code i 0),()))) (some (Int.tmod (aj ((aj (i*7))+(code.length:Int))) 256,())):=by kernel_rfl
def ait:Any:=.one ⟨YH,dD,1,fun x=>adS F0 x.1 x.2.1⟩
theorem azQ:bm 13 ait:=aA aF trivial func13 ab (by kernel_rfl)
end
end Go.Am.Tryz
namespace Go.Am.Tryz
open Go.Am Go.Proofs Go.Proofs.Tryz
noncomputable section
variable {α:Type} (F:rQ) (κ:Ex→St→Option α) (n:Nat)
def aiu:=[(14,qE),(15,qx),(47,cC)]
def IC (c:D1)(r:bz):=bF aiu F ab f16 xK aZ 1 (c,r,())
theorem auT (c:D1)(r:bz):IC F c r=(pL F0 c r.2.2.2.2.2.2.1.1).bind fun cN=>(c8 F0 c r).bind fun fh=>br fh.1 ((pJ F0 cN.1 r.2.2.2.1).bind fun gr=>br gr.1 (some (cN.2.1==(r.2.2.2.2.2.2.1.1.length:Int),())) (some (false,()))) (some (false,())):=by kernel_rfl
def ZJ:Any:=.one ⟨xK,aZ,1,fun x=>IC F0 x.1 x.2.1⟩
theorem auU:bm 16 ZJ:=aA aiu ⟨B0,BX,da,trivial⟩ func16 ab (by kernel_rfl)
def lC:=[(6,acm),(7,Gn),(8,Mv),(9,yD),(10,We),(11,o9),(12,FO),(13,ait),(14,qE),(15,qx),(16,ZJ)]
def lD:Nat→Option Hint:=look [(13,{live:=[0,9,11,12],rl:=[2]})]
def dO (code:List Int)(i g g1:Int)(g2:List Int)(g3:List bz)(g4:List cU)(g5:List cE)(xs:List Int):= er 108 [(0,jO 5 (.int .u8) code),cS 9,(11,.v (.c (.own 1000000 none))),(12,bR i)] [(9,[aq g,aq g1,.ro false 3 (.int .i64) g2,.ro false 50 (db) g3,.ro false 114 (fU) g4,.ro false 127 (eh) g5])] [aB 1000000 3 (.int .i64) xs]
def jy (t2:Bool):= cV 108 [(2,RP t2)]
def xD   := cV 108 []
def eJ (st:St):Option α:=gW lC F lD [.r,.r,.r,.r,.r,.r,.r,.r,.r,.l,.r,.b,.i] f3 κ n st
def jz:=jF lC F lD [.r,.r,.r,.r,.r,.r,.r,.r,.r,.l,.r,.b] f3 aZ 1
theorem tJ (code:List Int)(i g g1:Int)(g2:List Int)(g3:List bz)(g4:List cU)(g5:List cE)(xs:List Int):eJ F κ (n+1) (dO code i g g1 g2 g3 g4 g5 xs)=br (decide (i<(xs.length:Int))) (ck (cl i (xs.length:Int)) (ck (cl (aP xs i 0) (g3.length:Int)) ((adS F0 code 4).bind fun r70=>(EM F0 (aP g3 (aP xs i 0) db.aG).2.2.2.2.2.2.1 r70.1).bind fun r71=>(pL F0 (g,g1) r71.1.1).bind fun r77=>br (((aP g3 (aP xs i 0) db.aG).2.2.2.2.2.2.2.length:Int)==0) (br ((aP g3 (aP xs i 0) db.aG).2.2.2.2.2.2.1.2==((aP g3 (aP xs i 0) db.aG).2.2.2.2.2.2.1.1.length:Int)) ((pJ F0 r77.1 (aP g3 (aP xs i 0) db.aG).2.2.2.1).bind fun r98=>br (!r98.1) (κ .ret (jy false)) ((IC F0 (g,g1) (aP g3 (aP xs i 0) db.aG)).bind fun afI=>br (!afI.1) (κ .ret (jy false)) (eJ F κ n (dO code (aj (i+1)) g g1 g2 g3 g4 g5 xs)))) ((IC F0 (g,g1) (aP g3 (aP xs i 0) db.aG)).bind fun afI=>br (!afI.1) (κ .ret (jy false)) (eJ F κ n (dO code (aj (i+1)) g g1 g2 g3 g4 g5 xs)))) ((IC F0 (g,g1) (aP g3 (aP xs i 0) db.aG)).bind fun afI=>br (!afI.1) (κ .ret (jy false)) (eJ F κ n (dO code (aj (i+1)) g g1 g2 g3 g4 g5 xs)))))) (κ (.exit 0) (xD)):=by kernel_rfl
theorem NS: jz F (.exit 0) (xD)=some (true,()):=by kernel_rfl
def oH (code:List Int):=bF lC F lD f3 mn aZ 1 (code,())
theorem TM (code:List Int):oH F code=(aml F0 code).bind fun QO=>br QO.1 (some (true,())) ((vG F0 code).bind fun gv=>(ur F0 gv.1.1 gv.1.2.1).bind fun Ou=>(lQ F0 gv.1.1 gv.1.2.1).bind fun Ff=>br (!(Ou.2.1==Ff.2.1)) (some (false,())) (br (!Ou.2.1) (some (true,())) ((Kx F0 Ou.1 gv.2.1).bind fun r48=>(rD F0 r48.1).bind fun r52=>eJ F (jz F) F.n (dO code 0 r48.1.1.1 r48.1.1.2 r48.1.2.1 r48.1.2.2.1 r48.1.2.2.2.1 r48.1.2.2.2.2 r52.1)))):=by kernel_rfl
def Q9:Any:=.one ⟨mn,aZ,1,fun x=>oH F0 x.1⟩
theorem TN:bm 3 Q9:=aA lC ⟨awR,aaL,af6,OD,aq5,zT,Wc,azQ,B0,BX,auU,trivial⟩ func3 lD (by kernel_rfl)
end
end Go.Am.Tryz
