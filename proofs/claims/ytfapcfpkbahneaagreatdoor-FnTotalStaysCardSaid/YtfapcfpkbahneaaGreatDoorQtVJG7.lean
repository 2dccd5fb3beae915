/- Lemmas for the claim. No condition. -/
import Derived.Test.YtfapcfpkbahneaaGreatDoorQtVJG6
set_option linter.all false
set_option maxRecDepth 100000
namespace Go.Am.Tryz
open Go.Am Go.Proofs Go.Proofs.Tryz
noncomputable section
variable {α:Type} (F:rT) (κ:Ex->St->Option α) (n:Nat)
def wx:=[(101,Ip)]
def wy:Nat->Option Hint:=look [(3,{live:=[3,5,10,11,12],mat:=[(5,76,K4)],roB:=[(3,0),(3,1)],xl:=[5],rl:=[4]})]
def iR (t10:List D4)(t11 t12:Int)(l l1:List Int)(xs:List D4):= dY 38 [cL 3,(5,.v (.c (.own 1000000 none))),(10,jO 76 (K4) t10),(11,bE t11),(12,bE t12)] [(3,[.ro false 3 (.int .i64) l,.ro false 3 (.int .i64) l1])] [aA 1000000 76 K4 xs]
def xb (xs:List D4):= dY 38 [(5,.v (.c (.own 1000000 none)))] [] [aA 1000000 76 K4 xs]
def kO (st:St):Option α:=gA wx F wy [.r,.r,.l,.r,.b,.i] f251 κ n st
def As:=jq wx F wy [.r,.r,.l,.r,.b] f251 kz 2
theorem EX (t10:List D4)(t11 t12:Int)(l l1:List Int)(xs:List D4):kO F κ (n+1) (iR t10 t11 t12 l l1 xs)=br (decide (t12<t11)) (ck (cc t12 (t10.length:Int)) (br ((xs.length:Int)==2) (κ (.exit 0) (xb xs)) ((KF F0 (l,l1) (aN t10 t12 K4.aF)).bind fun gB=>br (gB.2.1==0) (ck (fe F xs.length [(aN t10 t12 K4.aF)].length 32) (kO F κ n (iR t10 t11 (aj (t12+1)) gB.1.1 gB.1.2 (xs++[(aN t10 t12 K4.aF)])))) (br (gB.2.1==4) (ck (fe F xs.length [(aN t10 t12 K4.aF)].length 32) (kO F κ n (iR t10 t11 (aj (t12+1)) gB.1.1 gB.1.2 (xs++[(aN t10 t12 K4.aF)])))) (kO F κ n (iR t10 t11 (aj (t12+1)) gB.1.1 gB.1.2 xs)))))) (κ (.exit 0) (xb xs)):=by kernel_rfl
theorem GW (xs:List D4):As F (.exit 0) (xb xs)=some (xs,()):=by kernel_rfl
def pU (p:D5)(l:D43):=bD wx F wy f251 aiA kz 2 (p,l,())
theorem ag4 (p:D5)(l:D43):pU F p l=kO F (As F) F.n (iR p (p.length:Int) 0 l.1 l.2 []):=by kernel_rfl
def No:Any:=.one ⟨aiA,kz,2,fun x=>pU F0 x.1 x.2.1⟩
theorem ag5:bo 251 No:=ay wx ⟨WE,trivial⟩ func251 wy (by kernel_rfl)
def Au:=[(153,jK),(223,FK),(347,OR)]
def Av:Nat->Option Hint:=look [(3,{live:=[3,6,7,8],mat:=[(3,9,.str)],xl:=[3],rl:=[2]})]
def tw (t6:List D4)(t7 t8:Int)(xs:List ByteArray):= dY 23 [(3,.v (.c (.own 1000000 none))),(6,jO 76 (K4) t6),(7,bE t7),(8,bE t8)] [] [aA 1000000 9 (.str) xs]
def Qt (t2:ByteArray):= cJ 23 [(2,Y0 t2)]
def Np (xs:List ByteArray):= dY 23 [(3,.v (.c (.own 1000000 none)))] [] [aA 1000000 9 (.str) xs]
def Aw (st:St):Option α:=gA Au F Av [.r,.r,.l,.r,.b,.i] f332 κ n st
def tz:=jq Au F Av [.r,.r,.l,.r,.b] f332 en 1
theorem GX (t6:List D4)(t7 t8:Int)(xs:List ByteArray):Aw F κ (n+1) (tw t6 t7 t8 xs)=br (decide (t8<t7)) (ck (cc t8 (t6.length:Int)) ((pR F0 (aN t6 t8 K4.aF)).bind fun cg=>br (!cg.1) (κ .ret (Qt al)) ((EG F0 (aN t6 t8 K4.aF)).bind fun fv=>ck (fe F xs.length [fv.1].length 16) (Aw F κ n (tw t6 t7 (aj (t8+1)) (xs++[fv.1])))))) (κ (.exit 0) (Np xs)):=by kernel_rfl
theorem aen (t2:ByteArray):tz F .ret (Qt t2)=some (t2,()):=by kernel_rfl
theorem abC (xs:List ByteArray):tz F (.exit 0) (Np xs)=(strings_Join F0 xs (ByteArray.mk #[44])).bind fun gB=>some (gB.1,()):=by kernel_rfl
def Iq (list:D5):=bD Au F Av f332 kz en 1 (list,())
theorem aln (list:D5):Iq F list=Aw F (tz F) F.n (tw list (list.length:Int) 0 []):=by kernel_rfl
def Qu:Any:=.one ⟨kz,en,1,fun x=>Iq F0 x.1⟩
theorem alo:bo 332 Qu:=ay Au ⟨oo,VZ,ajK,trivial⟩ func332 Av (by kernel_rfl)
def DQ:=[(19,fy),(153,jK),(162,vQ),(332,Qu)]
def DR:Nat->Option Hint:=look [(2,{live:=[0,1,2,10,11,12],xl:=[0,1,2],rl:=[6]})]
def wz (up:ByteArray)(view:Int)(list t10:List D4)(t11 t12:Int):= cJ 38 [(0,Y0 up),(1,bE view),(2,jO 76 (K4) list),(10,jO 76 (K4) t10),(11,bE t11),(12,bE t12)]
def TT (t6:ByteArray):= cJ 38 [(6,Y0 t6)]
def Qv (up:ByteArray)(view:Int)(list:List D4):= cJ 38 [(0,Y0 up),(1,bE view),(2,jO 76 (K4) list)]
def DS (st:St):Option α:=gA DQ F DR [.r,.l,.r,.b,.i] f302 κ n st
def wA:=jq DQ F DR [.r,.l,.r,.b] f302 en 1
theorem KK (up:ByteArray)(view:Int)(list t10:List D4)(t11 t12:Int):DS F κ (n+1) (wz up view list t10 t11 t12)=br (decide (t12<t11)) (ck (cc t12 (t10.length:Int)) ((pR F0 (aN t10 t12 K4.aF)).bind fun fv=>br (!fv.1) (κ .ret (TT al)) (DS F κ n (wz up view list t10 t11 (aj (t12+1)))))) (κ (.exit 0) (Qv up view list)):=by kernel_rfl
theorem ag6 (t6:ByteArray):wA F .ret (TT t6)=some (t6,()):=by kernel_rfl
theorem aeo (up:ByteArray)(view:Int)(list:List D4):wA F (.exit 0) (Qv up view list)=ck (okC F up.size (ByteArray.mk #[47]).size) ((lk F0 view).bind fun sg=>ck (okC F (up++(ByteArray.mk #[47])).size sg.1.size) (ck (okC F ((up++(ByteArray.mk #[47]))++sg.1).size (ByteArray.mk #[124]).size) ((Iq F0 list).bind fun BA=>ck (okC F (((up++(ByteArray.mk #[47]))++sg.1)++(ByteArray.mk #[124])).size BA.1.size) (br (decide ((list.length:Int)>2)) (some (al,())) ((fE F0 ((((up++(ByteArray.mk #[47]))++sg.1)++(ByteArray.mk #[124]))++BA.1)).bind fun qM=>br (!qM.1) (some (al,())) (some ((((up++(ByteArray.mk #[47]))++sg.1)++(ByteArray.mk #[124]))++BA.1,()))))))):=by kernel_rfl
def EY (up:ByteArray)(view:Int)(list:D5):=bD DQ F DR f302 aCx en 1 (up,view,list,())
theorem aoW (up:ByteArray)(view:Int)(list:D5):EY F up view list=DS F (wA F) F.n (wz up view list list (list.length:Int) 0):=by kernel_rfl
def TU:Any:=.one ⟨aCx,en,1,fun x=>EY F0 x.1 x.2.1 x.2.2.1⟩
theorem aoX:bo 302 TU:=ay DQ ⟨iz,oo,Kd,alo,trivial⟩ func302 DR (by kernel_rfl)
def TV:=[(71,eN),(159,mZ),(192,jb),(302,TU)]
def uK (c:D1)(q:D9)(view:Int)(list:D5):=bD TV F ab f250 aCy aiB 2 (c,q,view,list,())
theorem ag7 (c:D1)(q:D9)(view:Int)(list:D5):uK F c q view list=(EY F0 q.2.1 view list).bind fun oW=>(iC F0 q).bind fun fv=>(ou F0 c (oW.1,fv.1)).bind fun gU=>br (!gU.1) (some ((al,0,al,[]),false,())) ((e8 F0 oW.1).bind fun uc=>br (uc.1 != view) (some ((al,0,al,[]),false,())) (some ((oW.1,fv.1),true,()))):=by kernel_rfl
def Nq:Any:=.one ⟨aCy,aiB,2,fun x=>uK F0 x.1 x.2.1 x.2.2.1 x.2.2.2.1⟩
theorem ag8:bo 250 Nq:=ay TV ⟨gb,vV,np,aoX,trivial⟩ func250 ab (by kernel_rfl)
def aoY:=[(47,cO),(51,wo),(52,oM),(53,Ao),(204,lU),(248,Om),(250,Nq),(251,No)]
def aep (c:D1)(r:bu):=bD aoY F ab f209 AQ aiB 2 (c,r,())
theorem axF (c:D1)(r:bu):aep F c r=(c9 F0 c r).bind fun gZ=>br (!gZ.1) (some ((al,0,al,[]),false,())) ((ti F0 c r.2.1).bind fun nL=>br (nL.1 != r.1) (some ((al,0,al,[]),false,())) (br (decide (r.2.2.1>=r.2.1)) (some ((al,0,al,[]),false,())) (br (r.2.2.2.1.2.2.1.1 != (aj (r.2.1-1))) ((tk F0 c r r.2.1).bind fun r42=>br (!r42.1) (some ((al,0,al,[]),false,())) ((kg F0).bind fun r48=>(rK F0 r.2.2.2.1.2.2.1.2.1).bind fun Y8=>(rM F0 r48.1 Y8.1).bind fun XA=>(pU F0 r.2.2.2.2.1 XA.1).bind fun r66=>(uK F0 c r.2.2.2.1.2.2.1 r.2.1 r66.1).bind fun r67=>some (r67.1,r67.2.1,()))) ((kg F0).bind fun r48=>(rK F0 r.2.2.2.1.2.2.1.2.1).bind fun Y8=>(rM F0 r48.1 Y8.1).bind fun XA=>(pU F0 r.2.2.2.2.1 XA.1).bind fun r66=>(uK F0 c r.2.2.2.1.2.2.1 r.2.1 r66.1).bind fun r67=>some (r67.1,r67.2.1,()))))):=by kernel_rfl
def aeq:Any:=.one ⟨AQ,aiB,2,fun x=>aep F0 x.1 x.2.1⟩
theorem axG:bo 209 aeq:=ay aoY ⟨dm,KH,Al,On,tj,aed,ag8,ag5,trivial⟩ func209 ab (by kernel_rfl)
def Ax:=[(47,cO),(79,bY),(213,uH)]
def Ay:Nat->Option Hint:=look [(5,{live:=[3,4,5,6,8,9],x7:=[(6,7,3,.int .i64),(6,9,76,K4),(6,10,74,K9),(6,11,5,.int .u8),(6,13,146,qN)],xl:=[6,8],rl:=[6,7]})]
def ny (ue c c1 r r1 r2 r3 r4 r5:Int)(r6:ByteArray)(r7:List Int)(r8:ByteArray)(r9:List D4)(gZ:List D9)(dC:List Int)(cR:Int)(cg:List lJ)(m m1:Int)(m2:ByteArray)(m3:Int)(m4:ByteArray)(m5:List Int)(m6:Int)(m7:ByteArray)(m8:List Int)(m9:Int)(m10:ByteArray)(m11:List Int)(m12 m13 m14 m15 m16 t6 t61 t62 t63 t64 t65:Int)(t66 t67:ByteArray)(t68 out bh rh ri rj rk:Int)(J5 J6:ByteArray)(J7:Int)(xs:List Int)(aK:List D4)(aV:List D9)(bm:List Int)(bK:List lJ)(cA:List Int)(cB:List D4)(cE:List D9)(oX:List Int)(FH:List lJ):= dY 43 [cL 3,cL 4,cL 5,cL 6,cL 8,(9,bE ue)] [(3,[aq c,aq c1]),(4,[aq r,aq r1,aq r2,aq r3,aq r4,aq r5,.str r6,.ro false 3 (.int .i64) r7,.str r8,.ro false 76 (K4) r9,.ro false 74 (K9) gZ,.ro false 5 (.int .u8) dC,aq cR,.ro false 146 (qN) cg]),(5,[aq m,aq m1,.str m2,aq m3,.str m4,.ro false 3 (.int .i64) m5,aq m6,.str m7,.ro false 3 (.int .i64) m8,aq m9,.str m10,.ro false 3 (.int .i64) m11,aq m12,aq m13,aq m14,aq m15,aq m16]),(6,[aq t6,aq t61,aq t62,aq t63,aq t64,aq t65,.str t66,.own 1000000 none,.str t67,.own 1000001 none,.own 1000002 none,.own 1000003 none,aq t68,.own 1000004 none]),(8,[aq out,aq bh,aq rh,aq ri,aq rj,aq rk,.str J5,.own 1000005 none,.str J6,.own 1000006 none,.own 1000007 none,.own 1000008 none,aq J7,.own 1000009 none])] [aA 1000000 3 (.int .i64) xs,aA 1000001 76 K4 aK,aA 1000002 74 K9 aV,aA 1000003 5 (.int .u8) bm,aA 1000004 146 qN bK,aA 1000005 3 (.int .i64) cA,aA 1000006 76 K4 cB,aA 1000007 74 K9 cE,aA 1000008 5 (.int .u8) oX,aA 1000009 146 qN FH]
def Qw (t7:Bool)(t6 t61 t62 t63 t64 t65:Int)(t66 t67:ByteArray)(t68:Int)(xs:List Int)(aK:List D4)(aV:List D9)(bm:List Int)(bK:List lJ):= dY 43 [cL 6,(7,OV t7)] [(6,[aq t6,aq t61,aq t62,aq t63,aq t64,aq t65,.str t66,.own 1000000 none,.str t67,.own 1000001 none,.own 1000002 none,.own 1000003 none,aq t68,.own 1000004 none])] [aA 1000000 3 (.int .i64) xs,aA 1000001 76 K4 aK,aA 1000002 74 K9 aV,aA 1000003 5 (.int .u8) bm,aA 1000004 146 qN bK]
def Nr (t6 t61 t62 t63 t64 t65:Int)(t66 t67:ByteArray)(t68 out bh rh ri rj rk:Int)(J5 J6:ByteArray)(J7:Int)(xs:List Int)(aK:List D4)(aV:List D9)(bm:List Int)(bK:List lJ)(cA:List Int)(cB:List D4)(cE:List D9)(oX:List Int)(FH:List lJ):= dY 43 [cL 6,cL 8] [(6,[aq t6,aq t61,aq t62,aq t63,aq t64,aq t65,.str t66,.own 1000000 none,.str t67,.own 1000001 none,.own 1000002 none,.own 1000003 none,aq t68,.own 1000004 none]),(8,[aq out,aq bh,aq rh,aq ri,aq rj,aq rk,.str J5,.own 1000005 none,.str J6,.own 1000006 none,.own 1000007 none,.own 1000008 none,aq J7,.own 1000009 none])] [aA 1000000 3 (.int .i64) xs,aA 1000001 76 K4 aK,aA 1000002 74 K9 aV,aA 1000003 5 (.int .u8) bm,aA 1000004 146 qN bK,aA 1000005 3 (.int .i64) cA,aA 1000006 76 K4 cB,aA 1000007 74 K9 cE,aA 1000008 5 (.int .u8) oX,aA 1000009 146 qN FH]
def rN (st:St):Option α:=gA Ax F Ay [.r,.r,.r,.l,.r,.b,.i] f210 κ n st
def tB:=jq Ax F Ay [.r,.r,.r,.l,.r,.b] f210 hJ 2
theorem GY (ue c c1 r r1 r2 r3 r4 r5:Int)(r6:ByteArray)(r7:List Int)(r8:ByteArray)(r9:List D4)(gZ:List D9)(dC:List Int)(cR:Int)(cg:List lJ)(m m1:Int)(m2:ByteArray)(m3:Int)(m4:ByteArray)(m5:List Int)(m6:Int)(m7:ByteArray)(m8:List Int)(m9:Int)(m10:ByteArray)(m11:List Int)(m12 m13 m14 m15 m16 t6 t61 t62 t63 t64 t65:Int)(t66 t67:ByteArray)(t68 out bh rh ri rj rk:Int)(J5 J6:ByteArray)(J7:Int)(xs:List Int)(aK:List D4)(aV:List D9)(bm:List Int)(bK:List lJ)(cA:List Int)(cB:List D4)(cE:List D9)(oX:List Int)(FH:List lJ):rN F κ (n+1) (ny ue c c1 r r1 r2 r3 r4 r5 r6 r7 r8 r9 gZ dC cR cg m m1 m2 m3 m4 m5 m6 m7 m8 m9 m10 m11 m12 m13 m14 m15 m16 t6 t61 t62 t63 t64 t65 t66 t67 t68 out bh rh ri rj rk J5 J6 J7 xs aK aV bm bK cA cB cE oX FH)=br (decide (ue<c)) (br (ue==r) (rN F κ n (ny (aj (ue+1)) c c1 r r1 r2 r3 r4 r5 r6 r7 r8 r9 gZ dC cR cg m m1 m2 m3 m4 m5 m6 m7 m8 m9 m10 m11 m12 m13 m14 m15 m16 t6 t61 t62 t63 t64 t65 t66 t67 t68 out bh rh ri rj rk J5 J6 J7 xs aK aV bm bK cA cB cE oX FH)) ((nv F0 (c,c1) (out,bh,rh,(ri,rj,(rk,J5,cA),J6),cB,cE,(oX,J7),FH) ue (m,m1,(m2,m3,m4,m5),(m6,m7,m8),(m9,m10,m11),m12,m13,m14,m15,m16)).bind fun qM=>br (!qM.2.1) ((aC F0 (r,r1,r2,(r3,r4,(r5,r6,r7),r8),r9,gZ,(dC,cR),cg)).bind fun xv=>κ .ret (Qw false xv.1.1 xv.1.2.1 xv.1.2.2.1 xv.1.2.2.2.1.1 xv.1.2.2.2.1.2.1 xv.1.2.2.2.1.2.2.1.1 xv.1.2.2.2.1.2.2.1.2.1 xv.1.2.2.2.1.2.2.2 xv.1.2.2.2.2.2.2.1.2 xv.1.2.2.2.1.2.2.1.2.2 xv.1.2.2.2.2.1 xv.1.2.2.2.2.2.1 xv.1.2.2.2.2.2.2.1.1 xv.1.2.2.2.2.2.2.2)) (rN F κ n (ny (aj (ue+1)) c c1 r r1 r2 r3 r4 r5 r6 r7 r8 r9 gZ dC cR cg m m1 m2 m3 m4 m5 m6 m7 m8 m9 m10 m11 m12 m13 m14 m15 m16 t6 t61 t62 t63 t64 t65 t66 t67 t68 qM.1.1 qM.1.2.1 qM.1.2.2.1 qM.1.2.2.2.1.1 qM.1.2.2.2.1.2.1 qM.1.2.2.2.1.2.2.1.1 qM.1.2.2.2.1.2.2.1.2.1 qM.1.2.2.2.1.2.2.2 qM.1.2.2.2.2.2.2.1.2 xs aK aV bm bK qM.1.2.2.2.1.2.2.1.2.2 qM.1.2.2.2.2.1 qM.1.2.2.2.2.2.1 qM.1.2.2.2.2.2.2.1.1 qM.1.2.2.2.2.2.2.2)))) (κ (.exit 0) (Nr t6 t61 t62 t63 t64 t65 t66 t67 t68 out bh rh ri rj rk J5 J6 J7 xs aK aV bm bK cA cB cE oX FH)):=by kernel_rfl
theorem aer (t7:Bool)(t6 t61 t62 t63 t64 t65:Int)(t66 t67:ByteArray)(t68:Int)(xs:List Int)(aK:List D4)(aV:List D9)(bm:List Int)(bK:List lJ):tB F .ret (Qw t7 t6 t61 t62 t63 t64 t65 t66 t67 t68 xs aK aV bm bK)=some ((t6,t61,t62,(t63,t64,(t65,t66,xs),t67),aK,aV,(bm,t68),bK),t7,()):=by kernel_rfl
theorem abD (t6 t61 t62 t63 t64 t65:Int)(t66 t67:ByteArray)(t68 out bh rh ri rj rk:Int)(J5 J6:ByteArray)(J7:Int)(xs:List Int)(aK:List D4)(aV:List D9)(bm:List Int)(bK:List lJ)(cA:List Int)(cB:List D4)(cE:List D9)(oX:List Int)(FH:List lJ):tB F (.exit 0) (Nr t6 t61 t62 t63 t64 t65 t66 t67 t68 out bh rh ri rj rk J5 J6 J7 xs aK aV bm bK cA cB cE oX FH)=some ((out,bh,rh,(ri,rj,(rk,J5,cA),J6),cB,cE,(oX,J7),FH),true,()):=by kernel_rfl
def Az (c:D1)(r:bu)(m:N6):=bD Ax F Ay f210 ZC hJ 2 (c,r,m,())
theorem alp (c:D1)(r:bu)(m:N6):Az F c r m=(aC F0 r).bind fun cg=>(c9 F0 c r).bind fun nL=>br (!nL.1) (some (cg.1,false,())) (rN F (tB F) F.n (ny 0 c.1 c.2 r.1 r.2.1 r.2.2.1 r.2.2.2.1.1 r.2.2.2.1.2.1 r.2.2.2.1.2.2.1.1 r.2.2.2.1.2.2.1.2.1 r.2.2.2.1.2.2.1.2.2 r.2.2.2.1.2.2.2 r.2.2.2.2.1 r.2.2.2.2.2.1 r.2.2.2.2.2.2.1.1 r.2.2.2.2.2.2.1.2 r.2.2.2.2.2.2.2 m.1 m.2.1 m.2.2.1.1 m.2.2.1.2.1 m.2.2.1.2.2.1 m.2.2.1.2.2.2 m.2.2.2.1.1 m.2.2.2.1.2.1 m.2.2.2.1.2.2 m.2.2.2.2.1.1 m.2.2.2.2.1.2.1 m.2.2.2.2.1.2.2 m.2.2.2.2.2.1 m.2.2.2.2.2.2.1 m.2.2.2.2.2.2.2.1 m.2.2.2.2.2.2.2.2.1 m.2.2.2.2.2.2.2.2.2 0 0 0 0 0 0 al al 0 cg.1.1 cg.1.2.1 cg.1.2.2.1 cg.1.2.2.2.1.1 cg.1.2.2.2.1.2.1 cg.1.2.2.2.1.2.2.1.1 cg.1.2.2.2.1.2.2.1.2.1 cg.1.2.2.2.1.2.2.2 cg.1.2.2.2.2.2.2.1.2 [] [] [] [] [] cg.1.2.2.2.1.2.2.1.2.2 cg.1.2.2.2.2.1 cg.1.2.2.2.2.2.1 cg.1.2.2.2.2.2.2.1.1 cg.1.2.2.2.2.2.2.2)):=by kernel_rfl
def Qx:Any:=.one ⟨ZC,hJ,2,fun x=>Az F0 x.1 x.2.1 x.2.2.1⟩
theorem alq:bo 210 Qx:=ay Ax ⟨dm,cK,Ig,trivial⟩ func210 Ay (by kernel_rfl)
def WI:=[(79,bY),(197,w9),(209,aeq),(210,Qx)]
abbrev aoZ:List (Ty×Bool):=[(c8,true),(.int .i64,false)]
def Ir (c:D1)(r:bu):=bD WI F ab f146 AQ aoZ 0 (c,r,())
theorem alr (c:D1)(r:bu):Ir F c r=(aep F0 c r).bind fun cR=>br (!cR.2.1) (some (r,3,())) ((aC F0 r).bind fun dL=>(Az F0 c (dL.1.1,dL.1.2.1,r.2.1,dL.1.2.2.2) (1,0,cR.1,(0,al,[]),(0,al,[]),0,0,0,0,0)).bind fun Vc=>br (!Vc.2.1) (some (r,4,())) ((rJ F0 c Vc.1 cR.1).bind fun Um=>br (!Um.2.1) (some (r,4,())) (some (Um.1,0,())))):=by kernel_rfl
def Qy:Any:=.one ⟨AQ,aoZ,0,fun x=>Ir F0 x.1 x.2.1⟩
theorem als:bo 146 Qy:=ay WI ⟨cK,Nf,axG,alq,trivial⟩ func146 ab (by kernel_rfl)
def wB:=[(211,Ak)]
def wC:Nat->Option Hint:=look [(2,{live:=[2,3,4,6],x7:=[(4,7,3,.int .i64),(4,9,76,K4),(4,10,74,K9),(4,11,5,.int .u8),(4,13,146,qN)],xl:=[3,4],rl:=[4,5]})]
def qF (i c c1 r r1 r2 r3 r4 r5:Int)(r6:ByteArray)(r7:List Int)(r8:ByteArray)(r9:List D4)(gZ:List D9)(dC:List Int)(cR:Int)(cg:List lJ)(t4 t41 t42 t43 t44 t45:Int)(t46 t47:ByteArray)(t48:Int)(xs:List Int)(aK:List D4)(aV:List D9)(bm:List Int)(bK:List lJ):= dY 41 [cL 2,cL 3,cL 4,(6,bE i)] [(2,[aq c,aq c1]),(3,[aq r,aq r1,aq r2,aq r3,aq r4,aq r5,.str r6,.ro false 3 (.int .i64) r7,.str r8,.ro false 76 (K4) r9,.ro false 74 (K9) gZ,.ro false 5 (.int .u8) dC,aq cR,.ro false 146 (qN) cg]),(4,[aq t4,aq t41,aq t42,aq t43,aq t44,aq t45,.str t46,.own 1000000 none,.str t47,.own 1000001 none,.own 1000002 none,.own 1000003 none,aq t48,.own 1000004 none])] [aA 1000000 3 (.int .i64) xs,aA 1000001 76 K4 aK,aA 1000002 74 K9 aV,aA 1000003 5 (.int .u8) bm,aA 1000004 146 qN bK]
def AA (t5 t4 t41 t42 t43 t44 t45:Int)(t46:ByteArray)(t47:List Int)(t48:ByteArray)(t49:List D4)(fU:List D9)(fV:List Int)(fW:Int)(fX:List lJ):= dY 41 [cL 4,(5,bE t5)] [(4,[aq t4,aq t41,aq t42,aq t43,aq t44,aq t45,.str t46,.ro false 3 (.int .i64) t47,.str t48,.ro false 76 (K4) t49,.ro false 74 (K9) fU,.ro false 5 (.int .u8) fV,aq fW,.ro false 146 (qN) fX])] []
def KL (r r1 r2 r3 r4 r5:Int)(r6:ByteArray)(r7:List Int)(r8:ByteArray)(r9:List D4)(gZ:List D9)(dC:List Int)(cR:Int)(cg:List lJ)(t4 t41 t42 t43 t44 t45:Int)(t46 t47:ByteArray)(t48:Int)(xs:List Int)(aK:List D4)(aV:List D9)(bm:List Int)(bK:List lJ):= dY 41 [cL 3,cL 4] [(3,[aq r,aq r1,aq r2,aq r3,aq r4,aq r5,.str r6,.ro false 3 (.int .i64) r7,.str r8,.ro false 76 (K4) r9,.ro false 74 (K9) gZ,.ro false 5 (.int .u8) dC,aq cR,.ro false 146 (qN) cg]),(4,[aq t4,aq t41,aq t42,aq t43,aq t44,aq t45,.str t46,.own 1000000 none,.str t47,.own 1000001 none,.own 1000002 none,.own 1000003 none,aq t48,.own 1000004 none])] [aA 1000000 3 (.int .i64) xs,aA 1000001 76 K4 aK,aA 1000002 74 K9 aV,aA 1000003 5 (.int .u8) bm,aA 1000004 146 qN bK]
def wD (st:St):Option α:=gA wB F wC [.r,.l,.r,.b,.i] f147 κ n st
def qG:=jq wB F wC [.r,.l,.r,.b] f147 aoZ 0
theorem EZ (i c c1 r r1 r2 r3 r4 r5:Int)(r6:ByteArray)(r7:List Int)(r8:ByteArray)(r9:List D4)(gZ:List D9)(dC:List Int)(cR:Int)(cg:List lJ)(t4 t41 t42 t43 t44 t45:Int)(t46 t47:ByteArray)(t48:Int)(xs:List Int)(aK:List D4)(aV:List D9)(bm:List Int)(bK:List lJ):wD F κ (n+1) (qF i c c1 r r1 r2 r3 r4 r5 r6 r7 r8 r9 gZ dC cR cg t4 t41 t42 t43 t44 t45 t46 t47 t48 xs aK aV bm bK)=br (decide (i>=0)) (ck (cc i (gZ.length:Int)) (br (!((aN gZ i K9.aF).2.1.toList==al.toList)) ((oL F0 (c,c1) (r,r1,r2,(r3,r4,(r5,r6,r7),r8),r9,gZ,(dC,cR),cg) (aN gZ i K9.aF).1 (aN gZ i K9.aF).2.1 true).bind fun ud=>br (!ud.2.1) (κ .ret (AA 3 r r1 r2 r3 r4 r5 r6 r7 r8 r9 gZ dC cR cg)) (κ .ret (AA 0 ud.1.1 ud.1.2.1 ud.1.2.2.1 ud.1.2.2.2.1.1 ud.1.2.2.2.1.2.1 ud.1.2.2.2.1.2.2.1.1 ud.1.2.2.2.1.2.2.1.2.1 ud.1.2.2.2.1.2.2.1.2.2 ud.1.2.2.2.1.2.2.2 ud.1.2.2.2.2.1 ud.1.2.2.2.2.2.1 ud.1.2.2.2.2.2.2.1.1 ud.1.2.2.2.2.2.2.1.2 ud.1.2.2.2.2.2.2.2))) (wD F κ n (qF (aj (i-1)) c c1 r r1 r2 r3 r4 r5 r6 r7 r8 r9 gZ dC cR cg t4 t41 t42 t43 t44 t45 t46 t47 t48 xs aK aV bm bK)))) (κ (.exit 0) (KL r r1 r2 r3 r4 r5 r6 r7 r8 r9 gZ dC cR cg t4 t41 t42 t43 t44 t45 t46 t47 t48 xs aK aV bm bK)):=by kernel_rfl
theorem KM (t5 t4 t41 t42 t43 t44 t45:Int)(t46:ByteArray)(t47:List Int)(t48:ByteArray)(t49:List D4)(fU:List D9)(fV:List Int)(fW:Int)(fX:List lJ):qG F .ret (AA t5 t4 t41 t42 t43 t44 t45 t46 t47 t48 t49 fU fV fW fX)=some ((t4,t41,t42,(t43,t44,(t45,t46,t47),t48),t49,fU,(fV,fW),fX),t5,()):=by kernel_rfl
theorem YD (r r1 r2 r3 r4 r5:Int)(r6:ByteArray)(r7:List Int)(r8:ByteArray)(r9:List D4)(gZ:List D9)(dC:List Int)(cR:Int)(cg:List lJ)(t4 t41 t42 t43 t44 t45:Int)(t46 t47:ByteArray)(t48:Int)(xs:List Int)(aK:List D4)(aV:List D9)(bm:List Int)(bK:List lJ):qG F (.exit 0) (KL r r1 r2 r3 r4 r5 r6 r7 r8 r9 gZ dC cR cg t4 t41 t42 t43 t44 t45 t46 t47 t48 xs aK aV bm bK)=some ((r,r1,r2,(r3,r4,(r5,r6,r7),r8),r9,gZ,(dC,cR),cg),3,()):=by kernel_rfl
def DT (c:D1)(r:bu):=bD wB F wC f147 AQ aoZ 0 (c,r,())
theorem ag9 (c:D1)(r:bu):DT F c r=wD F (qG F) F.n (qF (aj ((r.2.2.2.2.2.1.length:Int)-1)) c.1 c.2 r.1 r.2.1 r.2.2.1 r.2.2.2.1.1 r.2.2.2.1.2.1 r.2.2.2.1.2.2.1.1 r.2.2.2.1.2.2.1.2.1 r.2.2.2.1.2.2.1.2.2 r.2.2.2.1.2.2.2 r.2.2.2.2.1 r.2.2.2.2.2.1 r.2.2.2.2.2.2.1.1 r.2.2.2.2.2.2.1.2 r.2.2.2.2.2.2.2 0 0 0 0 0 0 al al 0 [] [] [] [] []):=by kernel_rfl
def Ns:Any:=.one ⟨AQ,aoZ,0,fun x=>DT F0 x.1 x.2.1⟩
theorem aha:bo 147 Ns:=ay wB ⟨Ol,trivial⟩ func147 wC (by kernel_rfl)
def ai4:=[(47,cO),(79,bY),(204,lU),(212,lC),(213,uH)]
def XM (c:D1)(r:bu):=bD ai4 F ab f148 AQ hJ 2 (c,r,())
theorem avl (c:D1)(r:bu):XM F c r=(c9 F0 c r).bind fun dC=>br (!dC.1) ((aC F0 r).bind fun dL=>some (dL.1,false,())) (br (r.2.1==60) ((aC F0 r).bind fun dL=>some (dL.1,false,())) ((aC F0 r).bind fun gU=>(ti F0 c (aj (gU.1.2.1+1))).bind fun Ri=>br (Ri.1==r.1) ((fp F0 c gU.1.2.2.2.2.2.1 (aj (gU.1.2.1+1),al,[r.1])).bind fun r44=>br (!r44.2.1) ((aC F0 r).bind fun r66=>some (r66.1,false,())) (some ((gU.1.1,aj (gU.1.2.1+1),gU.1.2.2.1,gU.1.2.2.2.1,gU.1.2.2.2.2.1,r44.1,gU.1.2.2.2.2.2.2),true,()))) ((nv F0 c (gU.1.1,aj (gU.1.2.1+1),gU.1.2.2) Ri.1 (3,aj (gU.1.2.1+1),(al,0,al,[]),(0,al,[]),r.2.2.2.1.2.2.1,r.1,0,0,0,0)).bind fun r60=>br (!r60.2.1) ((aC F0 r).bind fun r66=>some (r66.1,false,())) (some (r60.1,true,()))))):=by kernel_rfl
def aai:Any:=.one ⟨AQ,hJ,2,fun x=>XM F0 x.1 x.2.1⟩
theorem avm:bo 148 aai:=ay ai4 ⟨dm,cK,tj,th,Ig,trivial⟩ func148 ab (by kernel_rfl)
def aaj:=[(41,lx),(42,pj)]
def Nt (d:D14)(keep:Int):=bD aaj F ab f12 aCR p8 1 (d,keep,())
theorem ao0 (d:D14)(keep:Int):Nt F d keep=(lS F0 d).bind fun r7=>(rA F0 d).bind fun r9=>br r9.1 (ck (okT (aj (d.2+(if (aj ((d.1.length:Int)-d.2))<(if 0>keep then 0 else keep) then (aj ((d.1.length:Int)-d.2)) else (if 0>keep then 0 else keep)))) (r7.1.1.length:Int)) (some ((r7.1.1.take (aj (d.2+(if (aj ((d.1.length:Int)-d.2))<(if 0>keep then 0 else keep) then (aj ((d.1.length:Int)-d.2)) else (if 0>keep then 0 else keep)))).toNat,aj (d.2+(if (aj ((d.1.length:Int)-d.2))<(if 0>keep then 0 else keep) then (aj ((d.1.length:Int)-d.2)) else (if 0>keep then 0 else keep)))),()))) (some (r7.1,())):=by kernel_rfl
def TW:Any:=.one ⟨aCR,p8,1,fun x=>Nt F0 x.1 x.2.1⟩
theorem ao1:bo 12 TW:=ay aaj ⟨sX,zM,trivial⟩ func12 ab (by kernel_rfl)
def RD: Option (Args AX):=bD aE F ab f43 [] AX 2 (())
theorem alu: RD F= some ((0,0,(0,al,[]),al),()):=by kernel_rfl
def Qz:Any:=.one ⟨[],AX,2,fun x=>RD F0⟩
theorem alv:bo 43 Qz:=ay aE trivial func43 ab (by kernel_rfl)
def aak:=[(87,jl),(88,wU),(89,lr),(90,kK)]
def Nu (c:D1)(b:List Int):=bD aak F ab f45 SA aiG 2 (c,b,())
theorem ao2 (c:D1)(b:List Int):Nu F c b=(bR F0 (b,0,false)).bind fun cR=>(bR F0 cR.2.1).bind fun lK=>(ng F0 lK.2.1).bind fun fv=>(gM F0 fv.2.1).bind fun Ej=>br Ej.2.1.2.2 (some ((0,0,(0,al,[]),al),false,())) (br (Ej.2.1.2.1 != (b.length:Int)) (some ((0,0,(0,al,[]),al),false,())) ((ll F0 c (cR.1.1,lK.1.1,fv.1.1,Ej.1.1)).bind fun Um=>br (!Um.1) (some ((0,0,(0,al,[]),al),false,())) (some ((cR.1.1,lK.1.1,fv.1.1,Ej.1.1),true,())))):=by kernel_rfl
def TX:Any:=.one ⟨SA,aiG,2,fun x=>Nu F0 x.1 x.2.1⟩
theorem ao3:bo 45 TX:=ay aak ⟨ow,MQ,tW,rv,trivial⟩ func45 ab (by kernel_rfl)
def wE:=[(43,Qz),(44,B6),(45,TX)]
def wF:Nat->Option Hint:=look [(3,{live:=[1,2,4,6,7],x7:=[(4,4,3,.int .i64)],rl:=[4,5]})]
def lF (b:List Int)(size c c1 t4 t41 t42:Int)(t43 t44:ByteArray)(s s1 s2:Int)(s3 s4:ByteArray)(xs aK:List Int):= dY 51 [(1,jO 5 (.int .u8) b),cL 2,cL 4,cL 6,(7,bE size)] [(2,[aq c,aq c1]),(4,[aq t4,aq t41,aq t42,.str t43,.own 1000000 none,.str t44]),(6,[aq s,aq s1,aq s2,.str s3,.own 1000001 none,.str s4])] [aA 1000000 3 (.int .i64) xs,aA 1000001 3 (.int .i64) aK]
def lG (t5 t4 t41 t42:Int)(t43 t44:ByteArray)(xs:List Int):= dY 51 [cL 4,(5,bE t5)] [(4,[aq t4,aq t41,aq t42,.str t43,.own 1000000 none,.str t44])] [aA 1000000 3 (.int .i64) xs]
def pA (st:St):Option α:=gA wE F wF [.r,.r,.r,.b,.i] f14 κ n st
def qH:=jq wE F wF [.r,.r,.r,.b] f14 asS 2
theorem E0 (b:List Int)(size c c1 t4 t41 t42:Int)(t43 t44:ByteArray)(s s1 s2:Int)(s3 s4:ByteArray)(xs aK:List Int):pA F κ (n+1) (lF b size c c1 t4 t41 t42 t43 t44 s s1 s2 s3 s4 xs aK)=(oz F0 b size).bind fun nL=>br (!nL.2.2.1) (κ .ret (lG size s s1 s2 s3 s4 aK)) (br (decide (nL.2.1>=(b.length:Int))) (κ .ret (lG size s s1 s2 s3 s4 aK)) (ck (cc nL.2.1 (b.length:Int)) (br ((aN b nL.2.1 0) != 10) (κ .ret (lG size s s1 s2 s3 s4 aK)) (ck (decide ((nL.1.size:Int)<=F.mem)) ((Nu F0 (c,c1) (bytesOf nL.1)).bind fun r41=>br (!r41.2.1) (κ .ret (lG size s s1 s2 s3 s4 aK)) (pA F κ n (lF b (aj (nL.2.1+1)) c c1 t4 t41 t42 t43 t44 r41.1.1 r41.1.2.1 r41.1.2.2.1.1 r41.1.2.2.1.2.1 r41.1.2.2.2 xs r41.1.2.2.1.2.2))))))):=by kernel_rfl
theorem KN (t5 t4 t41 t42:Int)(t43 t44:ByteArray)(xs:List Int):qH F .ret (lG t5 t4 t41 t42 t43 t44 xs)=some ((t4,t41,(t42,t43,xs),t44),t5,()):=by kernel_rfl
def DU (c:D1)(b:List Int):=bD wE F wF f14 SA asS 2 (c,b,())
theorem ahb (c:D1)(b:List Int):DU F c b=(RD F0).bind fun cR=>pA F (qH F) F.n (lF b 0 c.1 c.2 0 0 0 al al cR.1.1 cR.1.2.1 cR.1.2.2.1.1 cR.1.2.2.1.2.1 cR.1.2.2.2 [] cR.1.2.2.1.2.2):=by kernel_rfl
def Nv:Any:=.one ⟨SA,asS,2,fun x=>DU F0 x.1 x.2.1⟩
theorem ahc:bo 14 Nv:=ay wE ⟨alv,Ts,ao3,trivial⟩ func14 wF (by kernel_rfl)
def ai5:=[(14,Nv),(47,cO),(79,bY)]
def ai6:Nat->Option Hint:=look [(900005,{live:=[],mat:=[(3,0,c8),(5,0,K12)]})]
def QA (c:D1)(r:bu):=bD ai5 F ai6 f149 AQ SD 1 (c,r,())
theorem avn (c:D1)(r:bu):QA F c r=(c9 F0 c r).bind fun gZ=>br (!gZ.1) ((aC F0 r).bind fun cg=>some (cg.1,())) ((DU F0 c r.2.2.2.2.2.2.1.1).bind fun dL=>ck (Si 0 dL.2.1 (r.2.2.2.2.2.2.1.1.length:Int)) (ck (fe F 0 ((r.2.2.2.2.2.2.1.1.take dL.2.1.toNat).drop (0:Int).toNat).length 1) (some ((r.1,(if 60<(if 1>(if (aj (dL.1.2.2.1.1+1))>dL.1.1 then (aj (dL.1.2.2.1.1+1)) else dL.1.1) then 1 else (if (aj (dL.1.2.2.1.1+1))>dL.1.1 then (aj (dL.1.2.2.1.1+1)) else dL.1.1)) then 60 else (if 1>(if (aj (dL.1.2.2.1.1+1))>dL.1.1 then (aj (dL.1.2.2.1.1+1)) else dL.1.1) then 1 else (if (aj (dL.1.2.2.1.1+1))>dL.1.1 then (aj (dL.1.2.2.1.1+1)) else dL.1.1)),(0,dL.1,[],[],([]++((r.2.2.2.2.2.2.1.1.take dL.2.1.toNat).drop (0:Int).toNat),dL.2.1),[]))),())))):=by kernel_rfl
def aal:Any:=.one ⟨AQ,SD,1,fun x=>QA F0 x.1 x.2.1⟩
theorem avo:bo 149 aal:=ay ai5 ⟨ahc,dm,cK,trivial⟩ func149 ai6 (by kernel_rfl)
def WJ:=[(12,TW),(79,bY),(143,Oq),(146,Qy),(147,Ns),(148,aai),(149,aal)]
abbrev aGq:List (Ty×Bool):=[(K1,true),(c8,true),(K45,true)]
def Is (c:D1)(r:bu)(d:D45):=bD WJ F ab f84 aGq aoZ 0 (c,r,d,())
theorem alw (c:D1)(r:bu)(d:D45):Is F c r d=(aC F0 r).bind fun dC=>br (d.1==1) ((Ir F0 c r).bind fun ud=>some (ud.1,ud.2.1,())) (br (d.1==6) ((DT F0 c r).bind fun xv=>some (xv.1,xv.2.1,())) (br (d.1==7) ((XM F0 c r).bind fun r48=>br (!r48.2.1) (some (r,3,())) (some (r48.1,0,()))) (br (d.1==8) ((Nt F0 r.2.2.2.2.2.2.1 d.2.2.1).bind fun r57=>(QA F0 c (dC.1.1,dC.1.2.1,dC.1.2.2.1,dC.1.2.2.2.1,dC.1.2.2.2.2.1,dC.1.2.2.2.2.2.1,r57.1,dC.1.2.2.2.2.2.2.2)).bind fun IS=>some (IS.1,0,())) ((IW F0 c r d.2.2.2).bind fun dL=>br dL.2.1 (br (!(d.2.2.2.1==4)) (some (r,3,())) (some (dL.1,0,()))) (some (r,3,())))))):=by kernel_rfl
def QB:Any:=.one ⟨aGq,aoZ,0,fun x=>Is F0 x.1 x.2.1 x.2.2.1⟩
theorem alx:bo 84 QB:=ay WJ ⟨ao1,cK,ael,als,aha,avm,avo,trivial⟩ func84 ab (by kernel_rfl)
def asU:=[(34,jS),(38,gN),(67,bL),(81,P6),(82,M6),(83,Qs),(84,QB)]
def alM (w:oV)(d:D45):=bD asU F ab f39 aiQ ad0 0 (w,d,())
theorem aAn (w:oV)(d:D45):alM F w d=(dx F0 w).bind fun gZ=>br (!gZ.1) (some (((0,0),[],[],[],[]),1,())) ((bd F0 d.1 1 10).bind fun oW=>br (!oW.1) (some (((0,0),[],[],[],[]),1,())) ((H5 F0 w d).bind fun gB=>br (!gB.1) ((aR F0 w).bind fun Yr=>some (Yr.1,2,())) ((aR F0 w).bind fun BA=>br (d.1==2) ((DD F0 w d.2.1).bind fun XA=>br (XA.2.1==0) ((dx F0 XA.1).bind fun Zt=>br (!Zt.1) (br (4 != 0) ((aR F0 w).bind fun IU=>some (IU.1,4,())) (some (XA.1,0,()))) (br (XA.2.1 != 0) ((aR F0 w).bind fun IU=>some (IU.1,XA.2.1,())) (some (XA.1,0,())))) (br (XA.2.1 != 0) ((aR F0 w).bind fun IU=>some (IU.1,XA.2.1,())) (some (XA.1,0,())))) (br (d.1==3) ((oP F0 w d).bind fun eV=>br (eV.2.1==0) ((dx F0 eV.1).bind fun Zt=>br (!Zt.1) (br (4 != 0) ((aR F0 w).bind fun IU=>some (IU.1,4,())) (some (eV.1,0,()))) (br (eV.2.1 != 0) ((aR F0 w).bind fun IU=>some (IU.1,eV.2.1,())) (some (eV.1,0,())))) (br (eV.2.1 != 0) ((aR F0 w).bind fun IU=>some (IU.1,eV.2.1,())) (some (eV.1,0,())))) (br (d.1==4) ((oP F0 w d).bind fun eV=>br (eV.2.1==0) ((dx F0 eV.1).bind fun Zt=>br (!Zt.1) (br (4 != 0) ((aR F0 w).bind fun IU=>some (IU.1,4,())) (some (eV.1,0,()))) (br (eV.2.1 != 0) ((aR F0 w).bind fun IU=>some (IU.1,eV.2.1,())) (some (eV.1,0,())))) (br (eV.2.1 != 0) ((aR F0 w).bind fun IU=>some (IU.1,eV.2.1,())) (some (eV.1,0,())))) (br (d.1==5) ((oP F0 w d).bind fun eV=>br (eV.2.1==0) ((dx F0 eV.1).bind fun Zt=>br (!Zt.1) (br (4 != 0) ((aR F0 w).bind fun IU=>some (IU.1,4,())) (some (eV.1,0,()))) (br (eV.2.1 != 0) ((aR F0 w).bind fun IU=>some (IU.1,eV.2.1,())) (some (eV.1,0,())))) (br (eV.2.1 != 0) ((aR F0 w).bind fun IU=>some (IU.1,eV.2.1,())) (some (eV.1,0,())))) (br (d.1==10) ((oP F0 w d).bind fun eV=>br (eV.2.1==0) ((dx F0 eV.1).bind fun Zt=>br (!Zt.1) (br (4 != 0) ((aR F0 w).bind fun IU=>some (IU.1,4,())) (some (eV.1,0,()))) (br (eV.2.1 != 0) ((aR F0 w).bind fun IU=>some (IU.1,eV.2.1,())) (some (eV.1,0,())))) (br (eV.2.1 != 0) ((aR F0 w).bind fun IU=>some (IU.1,eV.2.1,())) (some (eV.1,0,())))) (ck (cc d.2.1 (w.2.2.1.length:Int)) ((Is F0 w.1 (aN w.2.2.1 d.2.1 c8.aF) d).bind fun r44=>ck (cc d.2.1 (BA.1.2.2.1.length:Int)) (br (r44.2.1==0) ((dx F0 (BA.1.1,BA.1.2.1,BA.1.2.2.1.set d.2.1.toNat r44.1,BA.1.2.2.2)).bind fun Zt=>br (!Zt.1) (br (4 != 0) ((aR F0 w).bind fun IU=>some (IU.1,4,())) (some ((BA.1.1,BA.1.2.1,BA.1.2.2.1.set d.2.1.toNat r44.1,BA.1.2.2.2),0,()))) (br (r44.2.1 != 0) ((aR F0 w).bind fun IU=>some (IU.1,r44.2.1,())) (some ((BA.1.1,BA.1.2.1,BA.1.2.2.1.set d.2.1.toNat r44.1,BA.1.2.2.2),0,())))) (br (r44.2.1 != 0) ((aR F0 w).bind fun IU=>some (IU.1,r44.2.1,())) (some ((BA.1.1,BA.1.2.1,BA.1.2.2.1.set d.2.1.toNat r44.1,BA.1.2.2.2),0,()))))))))))))):=by kernel_rfl
def ai7:Any:=.one ⟨aiQ,ad0,0,fun x=>alM F0 x.1 x.2.1⟩
theorem aAo:bo 39 ai7:=ay asU ⟨pq,ly,ch,ak0,agO,alm,alx,trivial⟩ func39 ab (by kernel_rfl)
def It:=[(34,jS),(38,gN),(39,ai7)]
def Iu:Nat->Option Hint:=look [(6,{live:=[4,6,7,23,24,25],mat:=[(7,3,.int .i64)],roB:=[(6,2),(6,3),(6,4),(6,5)],x7:=[(4,2,3,.int .i64),(4,3,50,c8),(4,4,114,fC),(4,5,127,dP)],xl:=[4,6,7],rl:=[4,5]})]
def rO (t23:List D45)(t24 t25 t4 t41 out bh:Int)(rh:List Int)(ri:List bu)(rj:List cG)(rk:List cl)(xs aK:List Int)(aV:List bu)(bm:List cG)(bK:List cl):= dY 45 [cL 4,cL 6,(7,.v (.c (.own 1000000 none))),(23,jO 80 (K45) t23),(24,bE t24),(25,bE t25)] [(4,[aq t4,aq t41,.own 1000001 none,.own 1000002 none,.own 1000003 none,.own 1000004 none]),(6,[aq out,aq bh,.ro false 3 (.int .i64) rh,.ro false 50 (c8) ri,.ro false 114 (fC) rj,.ro false 127 (dP) rk])] [aA 1000000 3 (.int .i64) xs,aA 1000001 3 (.int .i64) aK,aA 1000002 50 c8 aV,aA 1000003 114 fC bm,aA 1000004 127 dP bK]
def TY (t4 t41 out bh:Int)(rh:List Int)(ri:List bu)(rj:List cG)(rk:List cl)(xs aK:List Int)(aV:List bu)(bm:List cG)(bK:List cl):= dY 45 [cL 4,cL 6,(7,.v (.c (.own 1000000 none)))] [(4,[aq t4,aq t41,.own 1000001 none,.own 1000002 none,.own 1000003 none,.own 1000004 none]),(6,[aq out,aq bh,.ro false 3 (.int .i64) rh,.ro false 50 (c8) ri,.ro false 114 (fC) rj,.ro false 127 (dP) rk])] [aA 1000000 3 (.int .i64) xs,aA 1000001 3 (.int .i64) aK,aA 1000002 50 c8 aV,aA 1000003 114 fC bm,aA 1000004 127 dP bK]
def AB (st:St):Option α:=gA It F Iu [.r,.r,.r,.r,.l,.r,.b,.i] f10 κ n st
abbrev aGr:List (Ty×Bool):=[(iL,true),(.sl 3 (.int .i64),false)]
def KO:=jq It F Iu [.r,.r,.r,.r,.l,.r,.b] f10 aGr 0
theorem Nw (t23:List D45)(t24 t25 t4 t41 out bh:Int)(rh:List Int)(ri:List bu)(rj:List cG)(rk:List cl)(xs aK:List Int)(aV:List bu)(bm:List cG)(bK:List cl):AB F κ (n+1) (rO t23 t24 t25 t4 t41 out bh rh ri rj rk xs aK aV bm bK)=br (decide (t25<t24)) (ck (cc t25 (t23.length:Int)) ((alM F0 ((out,bh),rh,ri,rj,rk) (aN t23 t25 K45.aF)).bind fun Ho=>br (Ho.2.1==0) (ck (fe F xs.length [Ho.2.1].length 8) (AB F κ n (rO t23 t24 (aj (t25+1)) t4 t41 Ho.1.1.1 Ho.1.1.2 Ho.1.2.1 Ho.1.2.2.1 Ho.1.2.2.2.1 Ho.1.2.2.2.2 (xs++[Ho.2.1]) aK aV bm bK))) (ck (fe F xs.length [Ho.2.1].length 8) (AB F κ n (rO t23 t24 (aj (t25+1)) t4 t41 out bh rh ri rj rk (xs++[Ho.2.1]) aK aV bm bK))))) (κ (.exit 0) (TY t4 t41 out bh rh ri rj rk xs aK aV bm bK)):=by kernel_rfl
theorem ahd (t4 t41 out bh:Int)(rh:List Int)(ri:List bu)(rj:List cG)(rk:List cl)(xs aK:List Int)(aV:List bu)(bm:List cG)(bK:List cl):KO F (.exit 0) (TY t4 t41 out bh rh ri rj rk xs aK aV bm bK)=some (((out,bh),rh,ri,rj,rk),xs,()):=by kernel_rfl
def KP (w:oV)(list:D46):=bD It F Iu f10 axy aGr 0 (w,list,())
theorem arC (w:oV)(list:D46):KP F w list=(aR F0 w).bind fun cg=>(dx F0 w).bind fun oW=>br (!oW.1) (some (cg.1,[],())) (br (decide ((list.length:Int)>500)) (some (cg.1,[],())) (AB F (KO F) F.n (rO list (list.length:Int) 0 0 0 cg.1.1.1 cg.1.1.2 cg.1.2.1 cg.1.2.2.1 cg.1.2.2.2.1 cg.1.2.2.2.2 [] [] [] [] []))):=by kernel_rfl
def WK:Any:=.one ⟨axy,aGr,0,fun x=>KP F0 x.1 x.2.1⟩
theorem arD:bo 10 WK:=ay It ⟨pq,ly,aAo,trivial⟩ func10 Iu (by kernel_rfl)
end
end Go.Am.Tryz
namespace Go.Am.Tryz
open Go.Am Go.Proofs Go.Proofs.Tryz
noncomputable section
variable {α:Type} (F:rT) (κ:Ex->St->Option α) (n:Nat)
def Iv:Nat->Option Hint:=look [(3,{live:=[3,7,8,9],xl:=[3],rl:=[2]})]
def AD (n1:Int)(t7:List Int)(t8 t9:Int):= cJ 18 [(3,bE n1),(7,jO 3 (.int .i64) t7),(8,bE t8),(9,bE t9)]
def TZ (n1:Int):= cJ 18 [(3,bE n1)]
def Iw (st:St):Option α:=gA aE F Iv [.r,.r,.l,.r,.b,.i] f22 κ n st
def KQ:=jq aE F Iv [.r,.r,.l,.r,.b] f22 dv 1
theorem Nx (n1:Int)(t7:List Int)(t8 t9:Int):Iw F κ (n+1) (AD n1 t7 t8 t9)=br (decide (t9<t8)) (ck (cc t9 (t7.length:Int)) (Iw F κ n (AD (aj (n1+(aN t7 t9 0))) t7 t8 (aj (t9+1))))) (κ (.exit 0) (TZ n1)):=by kernel_rfl
theorem ahe (n1:Int):KQ F (.exit 0) (TZ n1)=some (n1,()):=by kernel_rfl
def KR (l:D43):=bD aE F Iv f22 nR dv 1 (l,())
theorem arE (l:D43):KR F l=Iw F (KQ F) F.n (AD 0 l.1 (l.1.length:Int) 0):=by kernel_rfl
def KS:Any:=.one ⟨nR,dv,1,fun x=>KR F0 x.1⟩
theorem aam:bo 22 KS:=ay aE trivial func22 Iv (by kernel_rfl)
def QC (code:Int):=bD aE F ab f55 dv aZ 1 (code,())
theorem avp (code:Int):QC F code=br (code==0) (some (true,())) (some (code==4,())):=by kernel_rfl
def aan:Any:=.one ⟨dv,aZ,1,fun x=>QC F0 x.1⟩
theorem avq:bo 55 aan:=ay aE trivial func55 ab (by kernel_rfl)
def dV:=[(11,kM),(20,Aq),(22,KS),(34,jS),(51,wo),(52,oM),(53,Ao),(55,aan)]
def dW:Nat->Option Hint:=look [(4,{live:=[1,16,17,18],rl:=[2]}),(11,{live:=[1,5,7,16,17,18,46,47,48],xl:=[1,16,17,18],rl:=[2]}),(14,{live:=[1,5,7,8,9,16,17,18,46,47,48,55,56,57],xl:=[1,5,7,16,17,18,46,47,48],rl:=[2]})]
def eF (i t17 t18 t47 t48 axH t56 t57 w w1:Int)(w2:List Int)(w3:List bu)(w4:List cG)(w5:List cl)(x x1 x2 x3:Int)(xs:List D4)(aK aV:List Int):= dY 91 [cL 1,(5,.v (.c (.own 1000000 none))),(7,.v (.c (.own 1000001 none))),(8,bE i),cL 9,(16,.v (.c (.own 1000002 none))),(17,bE t17),(18,bE t18),(46,.v (.c (.own 1000000 none))),(47,bE t47),(48,bE t48),(55,.v (.c (.own 1000000 (some axH)))),(56,bE t56),(57,bE t57)] [(1,[aq w,aq w1,.ro false 3 (.int .i64) w2,.ro false 50 (c8) w3,.ro false 114 (fC) w4,.ro false 127 (dP) w5]),(9,[aq x,aq x1,aq x2,aq x3])] [aA 1000000 76 K4 xs,aA 1000001 3 (.int .i64) aK,aA 1000002 3 (.int .i64) aV]
def KT (t2:Bool):= cJ 91 [(2,OV t2)]
def GZ (t17 t18 t47 t48 w w1:Int)(w2:List Int)(w3:List bu)(w4:List cG)(w5:List cl)(xs:List D4)(aK aV:List Int):= dY 91 [cL 1,(5,.v (.c (.own 1000000 none))),(7,.v (.c (.own 1000001 none))),(16,.v (.c (.own 1000002 none))),(17,bE t17),(18,bE t18),(46,.v (.c (.own 1000000 none))),(47,bE t47),(48,bE t48)] [(1,[aq w,aq w1,.ro false 3 (.int .i64) w2,.ro false 50 (c8) w3,.ro false 114 (fC) w4,.ro false 127 (dP) w5])] [aA 1000000 76 K4 xs,aA 1000001 3 (.int .i64) aK,aA 1000002 3 (.int .i64) aV]
def fG (st:St):Option α:=gA dV F dW [.r,.r,.l,.r,.b,.i,.r,.r,.l,.b,.r,.r,.r,.r,.r,.b,.i,.r,.r,.l,.b,.r,.r,.b,.i] f23 κ n st
def kj:Ex->St->Option α:=afq Tryz.prog (look dV) F dW [.r,.r,.l,.b,.r,.r,.b] (sub [.r,.r,.l,.r,.b,.i,.r,.r,.l,.b,.r,.r,.r,.r,.r,.b,.i] (j1 f23)) (itk Tryz.prog (look dV) F dW (sub [.r,.r,.l,.r,.b,.i,.r,.r,.l,.b,.r,.r,.r,.r,.r,.b,.i] (j1 f23)) κ n)
def gP (t17 t18 t47 t48 w w1:Int)(w2:List Int)(w3:List bu)(w4:List cG)(w5:List cl)(xs:List D4)(aK aV:List Int):= dY 91 [cL 1,(5,.v (.c (.own 1000000 none))),(7,.v (.c (.own 1000001 none))),(16,.v (.c (.own 1000002 none))),(17,bE t17),(18,bE t18),(46,.v (.c (.own 1000000 none))),(47,bE t47),(48,bE t48)] [(1,[aq w,aq w1,.ro false 3 (.int .i64) w2,.ro false 50 (c8) w3,.ro false 114 (fC) w4,.ro false 127 (dP) w5])] [aA 1000000 76 K4 xs,aA 1000001 3 (.int .i64) aK,aA 1000002 3 (.int .i64) aV]
def xc (t2:Bool):= cJ 91 [(2,OV t2)]
def G5 (t17 t18 w w1:Int)(w2:List Int)(w3:List bu)(w4:List cG)(w5:List cl)(xs:List Int):= dY 91 [cL 1,(16,.v (.c (.own 1000000 none))),(17,bE t17),(18,bE t18)] [(1,[aq w,aq w1,.ro false 3 (.int .i64) w2,.ro false 50 (c8) w3,.ro false 114 (fC) w4,.ro false 127 (dP) w5])] [aA 1000000 3 (.int .i64) xs]
def jW (st:St):Option α:=gA dV F dW [.r,.r,.l,.r,.b,.i,.r,.r,.l,.b,.r,.r,.r,.r,.r,.b,.i] f23 κ n st
def kl:Ex->St->Option α:=afq Tryz.prog (look dV) F dW [.r,.r,.l,.b,.r,.r,.r,.r,.r,.b] (sub [.r,.r,.l,.r,.b,.i] (j1 f23)) (itk Tryz.prog (look dV) F dW (sub [.r,.r,.l,.r,.b,.i] (j1 f23)) κ n)
def km (t17 t18 w w1:Int)(w2:List Int)(w3:List bu)(w4:List cG)(w5:List cl)(xs:List Int):= dY 91 [cL 1,(16,.v (.c (.own 1000000 none))),(17,bE t17),(18,bE t18)] [(1,[aq w,aq w1,.ro false 3 (.int .i64) w2,.ro false 50 (c8) w3,.ro false 114 (fC) w4,.ro false 127 (dP) w5])] [aA 1000000 3 (.int .i64) xs]
def oQ (t2:Bool):= cJ 91 [(2,OV t2)]
def G6   := cJ 91 []
def nz (st:St):Option α:=gA dV F dW [.r,.r,.l,.r,.b,.i] f23 κ n st
def oR:=jq dV F dW [.r,.r,.l,.r,.b] f23 aZ 1
theorem Bc (i t17 t18 t47 t48 axH t56 t57 w w1:Int)(w2:List Int)(w3:List bu)(w4:List cG)(w5:List cl)(x x1 x2 x3:Int)(xs:List D4)(aK aV:List Int):fG F κ (n+1) (eF i t17 t18 t47 t48 axH t56 t57 w w1 w2 w3 w4 w5 x x1 x2 x3 xs aK aV)=br (decide (t57<t56)) (ck (cc t57 axH) (ck (cc i (aK.length:Int)) ((QC F0 (aN aK i 0)).bind fun r66=>br r66.1 (ck (cc t57 (aK.length:Int)) ((QC F0 (aN aK t57 0)).bind fun Zt=>br Zt.1 (br (x==(aN xs t57 K4.aF).1) (br (x3==(aN xs t57 K4.aF).2.2.2) (κ .ret (KT false)) (fG F κ n (eF i t17 t18 t47 t48 axH t56 (aj (t57+1)) w w1 w2 w3 w4 w5 x x1 x2 x3 xs aK aV))) (fG F κ n (eF i t17 t18 t47 t48 axH t56 (aj (t57+1)) w w1 w2 w3 w4 w5 x x1 x2 x3 xs aK aV))) (fG F κ n (eF i t17 t18 t47 t48 axH t56 (aj (t57+1)) w w1 w2 w3 w4 w5 x x1 x2 x3 xs aK aV)))) (fG F κ n (eF i t17 t18 t47 t48 axH t56 (aj (t57+1)) w w1 w2 w3 w4 w5 x x1 x2 x3 xs aK aV))))) (κ (.exit 4) (GZ t17 t18 t47 t48 w w1 w2 w3 w4 w5 xs aK aV)):=by kernel_rfl
theorem Be (t17 t18 t47 t48 w w1:Int)(w2:List Int)(w3:List bu)(w4:List cG)(w5:List cl)(xs:List D4)(aK aV:List Int):jW F κ (n+1) (gP t17 t18 t47 t48 w w1 w2 w3 w4 w5 xs aK aV)=br (decide (t48<t47)) (ck (cc t48 (xs.length:Int)) (ck (okT t48 (xs.length:Int)) (fG F (kj F κ n) F.n (eF t48 t17 t18 t47 t48 t48 t48 0 w w1 w2 w3 w4 w5 (aN xs t48 K4.aF).1 (aN xs t48 K4.aF).2.1 (aN xs t48 K4.aF).2.2.1 (aN xs t48 K4.aF).2.2.2 xs aK aV)))) (κ (.exit 2) (G5 t17 t18 w w1 w2 w3 w4 w5 aV)):=by kernel_rfl
theorem Bf (t17 t18 w w1:Int)(w2:List Int)(w3:List bu)(w4:List cG)(w5:List cl)(xs:List Int):nz F κ (n+1) (km t17 t18 w w1 w2 w3 w4 w5 xs)=br (decide (t18<t17)) (ck (cc t18 (xs.length:Int)) (ck (cc (aN xs t18 0) (w3.length:Int)) ((kh F0 (w,w1) (aN w3 (aN xs t18 0) c8.aF)).bind fun Ri=>(KR F0 Ri.1).bind fun En=>br (En.1 != 400) (κ .ret (oQ false)) (ck (cc (aN xs t18 0) (w3.length:Int)) ((rK F0 (aN w3 (aN xs t18 0) c8.aF).2.2.2.1.2.2.2).bind fun LG=>(kg F0).bind fun r41=>(rM F0 r41.1 LG.1).bind fun OA=>jW F (kl F κ n) F.n (gP t17 t18 (LG.1.length:Int) 0 w w1 w2 w3 w4 w5 LG.1 OA.2.1 xs)))))) (κ (.exit 0) (G6)):=by kernel_rfl
theorem YE (t2:Bool):kj F κ n .ret (KT t2)=κ .ret (xc t2):=by kernel_rfl
theorem WL (t17 t18 t47 t48 w w1:Int)(w2:List Int)(w3:List bu)(w4:List cG)(w5:List cl)(xs:List D4)(aK aV:List Int):kj F κ n (.exit 4) (GZ t17 t18 t47 t48 w w1 w2 w3 w4 w5 xs aK aV)=jW F κ n (gP t17 t18 t47 (aj (t48+1)) w w1 w2 w3 w4 w5 xs aK aV):=by kernel_rfl
theorem YF (t2:Bool):kl F κ n .ret (xc t2)=κ .ret (oQ t2):=by kernel_rfl
theorem WM (t17 t18 w w1:Int)(w2:List Int)(w3:List bu)(w4:List cG)(w5:List cl)(xs:List Int):kl F κ n (.exit 2) (G5 t17 t18 w w1 w2 w3 w4 w5 xs)=nz F κ n (km t17 (aj (t18+1)) w w1 w2 w3 w4 w5 xs):=by kernel_rfl
theorem YG (t2:Bool):oR F .ret (oQ t2)=some (t2,()):=by kernel_rfl
theorem WN: oR F (.exit 0) (G6)=some (true,()):=by kernel_rfl
def AE (w:oV):=bD dV F dW f23 gu aZ 1 (w,())
theorem aes (w:oV):AE F w=(dx F0 w).bind fun cg=>br (!cg.1) (some (false,())) ((nU F0 w).bind fun nL=>nz F (oR F) F.n (km (nL.1.length:Int) 0 w.1.1 w.1.2 w.2.1 w.2.2.1 w.2.2.2.1 w.2.2.2.2 nL.1)):=by kernel_rfl
def KU:Any:=.one ⟨gu,aZ,1,fun x=>AE F0 x.1⟩
theorem aet:bo 23 KU:=ay dV ⟨rG,Oo,aam,pq,KH,Al,On,avq,trivial⟩ func23 dW (by kernel_rfl)
def mb:=[(6,acW),(7,GA),(8,MU),(9,yI),(10,WK),(11,kM),(20,Aq),(21,Ap),(22,KS),(23,KU)]
def mc:Nat->Option Hint:=look [(13,{live:=[9,11,12],xl:=[9],rl:=[2]})]
def gD (i g g1:Int)(g2:List Int)(g3:List bu)(g4:List cG)(g5:List cl)(xs:List Int):= dY 77 [cL 9,(11,.v (.c (.own 1000000 none))),(12,bE i)] [(9,[aq g,aq g1,.ro false 3 (.int .i64) g2,.ro false 50 (c8) g3,.ro false 114 (fC) g4,.ro false 127 (dP) g5])] [aA 1000000 3 (.int .i64) xs]
def Bg (t2:Bool):= cJ 77 [(2,OV t2)]
def AF (g g1:Int)(g2:List Int)(g3:List bu)(g4:List cG)(g5:List cl):= dY 77 [cL 9] [(9,[aq g,aq g1,.ro false 3 (.int .i64) g2,.ro false 50 (c8) g3,.ro false 114 (fC) g4,.ro false 127 (dP) g5])] []
def jm (st:St):Option α:=gA mb F mc [.r,.r,.r,.r,.r,.r,.r,.r,.r,.l,.r,.b,.i] f5 κ n st
def kv:=jq mb F mc [.r,.r,.r,.r,.r,.r,.r,.r,.r,.l,.r,.b] f5 aZ 1
theorem uL (i g g1:Int)(g2:List Int)(g3:List bu)(g4:List cG)(g5:List cl)(xs:List Int):jm F κ (n+1) (gD i g g1 g2 g3 g4 g5 xs)=br (decide (i<(xs.length:Int))) (ck (cc i (xs.length:Int)) (ck (cc (aN xs i 0) (g3.length:Int)) ((kh F0 (g,g1) (aN g3 (aN xs i 0) c8.aF)).bind fun r66=>(pT F0 r66.1).bind fun XB=>br (!XB.1) (κ .ret (Bg false)) ((KR F0 r66.1).bind fun Zt=>br (Zt.1 != 400) (κ .ret (Bg false)) (jm F κ n (gD (aj (i+1)) g g1 g2 g3 g4 g5 xs)))))) (κ (.exit 0) (AF g g1 g2 g3 g4 g5)):=by kernel_rfl
theorem QD (g g1:Int)(g2:List Int)(g3:List bu)(g4:List cG)(g5:List cl):kv F (.exit 0) (AF g g1 g2 g3 g4 g5)=(AE F0 ((g,g1),g2,g3,g4,g5)).bind fun r76=>some (r76.1,()):=by kernel_rfl
def qI (code:List Int):=bD mb F mc f5 mu aZ 1 (code,())
theorem WO (code:List Int):qI F code=(amT F0 code).bind fun oW=>br oW.1 (some (true,())) ((vP F0 code).bind fun N7=>(uB F0 N7.1.1 N7.1.2.1).bind fun uc=>(lP F0 N7.1.1 N7.1.2.1).bind fun qM=>br (!(uc.2.1==qM.2.1)) (some (false,())) (br (!uc.2.1) (some (true,())) ((KP F0 uc.1 N7.2.1).bind fun r45=>(nU F0 r45.1).bind fun r49=>jm F (kv F) F.n (gD 0 r45.1.1.1 r45.1.1.2 r45.1.2.1 r45.1.2.2.1 r45.1.2.2.2.1 r45.1.2.2.2.2 r49.1)))):=by kernel_rfl
def Uh:Any:=.one ⟨mu,aZ,1,fun x=>qI F0 x.1⟩
theorem WQ:bo 5 Uh:=ay mb ⟨axo,abm,agF,Pb,arD,rG,Oo,Qp,aam,aet,trivial⟩ func5 mc (by kernel_rfl)
end
end Go.Am.Tryz
