/- Lemmas for the claim. No condition. -/
import Derived.Test.YtfapcfpkbahneaaGreatDoorQtVJG5
set_option linter.all false
set_option maxRecDepth 100000
namespace Go.Am.Tryz
open Go.Am Go.Proofs Go.Proofs.Tryz
noncomputable section
variable {α:Type} (F:rT) (κ:Ex->St->Option α) (n:Nat)
def jd:=[(137,P7),(138,Wm),(139,FR),(140,fc),(141,aaa)]
def je:Nat->Option Hint:=look [(4,{live:=[1,2,4,6,7,8,28,29,30],x7:=[(4,2,3,.int .i64),(4,3,50,c8),(4,4,114,fC),(4,5,127,dP)],xl:=[1,2,4,6,7,8],rl:=[4,5]}),(7,{live:=[1,2,4,6,7,8,28,29,30,37,38,39],xl:=[1,2,4,6,7,8,28,29,30],rl:=[4,5]})]
def qA (a t29 t30 t38 t39 w w1:Int)(w2:List Int)(w3:List bu)(w4:List cG)(w5:List cl)(t4 t41 r r1 r2 r3 r4 r5:Int)(r6 r7:ByteArray)(r8 out bh:Int)(xs:List lJ)(aK:List cl)(aV:List Int)(bm:List bu)(bK:List cG)(cA:List cl)(cB:List Int)(cE:List D4)(oX:List D9)(FH:List Int)(BW:List lJ)(AR:List Int)(BX:List bu)(Og:List cG)(aD5:List cl):= dY 67 [(1,bE a),cL 2,cL 4,cL 6,(7,.v (.c (.own 1000000 none))),cL 8,(28,.v (.c (.own 1000000 none))),(29,bE t29),(30,bE t30),(37,.v (.c (.own 1000001 none))),(38,bE t38),(39,bE t39)] [(2,[aq w,aq w1,.ro false 3 (.int .i64) w2,.ro false 50 (c8) w3,.ro false 114 (fC) w4,.ro false 127 (dP) w5]),(4,[aq t4,aq t41,.own 1000002 none,.own 1000003 none,.own 1000004 none,.own 1000005 none]),(6,[aq r,aq r1,aq r2,aq r3,aq r4,aq r5,.str r6,.own 1000006 none,.str r7,.own 1000007 none,.own 1000008 none,.own 1000009 none,aq r8,.own 1000010 none]),(8,[aq out,aq bh,.own 1000011 none,.own 1000012 none,.own 1000013 none,.own 1000014 none])] [aA 1000000 146 qN xs,aA 1000001 127 dP aK,aA 1000002 3 (.int .i64) aV,aA 1000003 50 c8 bm,aA 1000004 114 fC bK,aA 1000005 127 dP cA,aA 1000006 3 (.int .i64) cB,aA 1000007 76 K4 cE,aA 1000008 74 K9 oX,aA 1000009 5 (.int .u8) FH,aA 1000010 146 qN BW,aA 1000011 3 (.int .i64) AR,aA 1000012 50 c8 BX,aA 1000013 114 fC Og,aA 1000014 127 dP aD5]
def M4 (t5 t4 t41:Int)(t42:List Int)(t43:List bu)(t44:List cG)(t45:List cl):= dY 67 [cL 4,(5,bE t5)] [(4,[aq t4,aq t41,.ro false 3 (.int .i64) t42,.ro false 50 (c8) t43,.ro false 114 (fC) t44,.ro false 127 (dP) t45])] []
def Kt (a t29 t30 w w1:Int)(w2:List Int)(w3:List bu)(w4:List cG)(w5:List cl)(t4 t41 r r1 r2 r3 r4 r5:Int)(r6 r7:ByteArray)(r8 out bh:Int)(xs:List lJ)(aK:List Int)(aV:List bu)(bm:List cG)(bK:List cl)(cA:List Int)(cB:List D4)(cE:List D9)(oX:List Int)(FH:List lJ)(BW:List Int)(AR:List bu)(BX:List cG)(Og:List cl):= dY 67 [(1,bE a),cL 2,cL 4,cL 6,(7,.v (.c (.own 1000000 none))),cL 8,(28,.v (.c (.own 1000000 none))),(29,bE t29),(30,bE t30)] [(2,[aq w,aq w1,.ro false 3 (.int .i64) w2,.ro false 50 (c8) w3,.ro false 114 (fC) w4,.ro false 127 (dP) w5]),(4,[aq t4,aq t41,.own 1000001 none,.own 1000002 none,.own 1000003 none,.own 1000004 none]),(6,[aq r,aq r1,aq r2,aq r3,aq r4,aq r5,.str r6,.own 1000005 none,.str r7,.own 1000006 none,.own 1000007 none,.own 1000008 none,aq r8,.own 1000009 none]),(8,[aq out,aq bh,.own 1000010 none,.own 1000011 none,.own 1000012 none,.own 1000013 none])] [aA 1000000 146 qN xs,aA 1000001 3 (.int .i64) aK,aA 1000002 50 c8 aV,aA 1000003 114 fC bm,aA 1000004 127 dP bK,aA 1000005 3 (.int .i64) cA,aA 1000006 76 K4 cB,aA 1000007 74 K9 cE,aA 1000008 5 (.int .u8) oX,aA 1000009 146 qN FH,aA 1000010 3 (.int .i64) BW,aA 1000011 50 c8 AR,aA 1000012 114 fC BX,aA 1000013 127 dP Og]
def wb (st:St):Option α:=gA jd F je [.r,.r,.r,.l,.r,.b,.i,.r,.r,.l,.b,.r,.r,.b,.i] f82 κ n st
def qB:Ex->St->Option α:=afq Tryz.prog (look jd) F je [.r,.r,.l,.b,.r,.r,.b] (sub [.r,.r,.r,.l,.r,.b,.i] (j1 f82)) (itk Tryz.prog (look jd) F je (sub [.r,.r,.r,.l,.r,.b,.i] (j1 f82)) κ n)
def lB (a t29 t30 w w1:Int)(w2:List Int)(w3:List bu)(w4:List cG)(w5:List cl)(t4 t41 r r1 r2 r3 r4 r5:Int)(r6 r7:ByteArray)(r8 out bh:Int)(xs:List lJ)(aK:List Int)(aV:List bu)(bm:List cG)(bK:List cl)(cA:List Int)(cB:List D4)(cE:List D9)(oX:List Int)(FH:List lJ)(BW:List Int)(AR:List bu)(BX:List cG)(Og:List cl):= dY 67 [(1,bE a),cL 2,cL 4,cL 6,(7,.v (.c (.own 1000000 none))),cL 8,(28,.v (.c (.own 1000000 none))),(29,bE t29),(30,bE t30)] [(2,[aq w,aq w1,.ro false 3 (.int .i64) w2,.ro false 50 (c8) w3,.ro false 114 (fC) w4,.ro false 127 (dP) w5]),(4,[aq t4,aq t41,.own 1000001 none,.own 1000002 none,.own 1000003 none,.own 1000004 none]),(6,[aq r,aq r1,aq r2,aq r3,aq r4,aq r5,.str r6,.own 1000005 none,.str r7,.own 1000006 none,.own 1000007 none,.own 1000008 none,aq r8,.own 1000009 none]),(8,[aq out,aq bh,.own 1000010 none,.own 1000011 none,.own 1000012 none,.own 1000013 none])] [aA 1000000 146 qN xs,aA 1000001 3 (.int .i64) aK,aA 1000002 50 c8 aV,aA 1000003 114 fC bm,aA 1000004 127 dP bK,aA 1000005 3 (.int .i64) cA,aA 1000006 76 K4 cB,aA 1000007 74 K9 cE,aA 1000008 5 (.int .u8) oX,aA 1000009 146 qN FH,aA 1000010 3 (.int .i64) BW,aA 1000011 50 c8 AR,aA 1000012 114 fC BX,aA 1000013 127 dP Og]
def M5 (t5 t4 t41:Int)(t42:List Int)(t43:List bu)(t44:List cG)(t45:List cl):= dY 67 [cL 4,(5,bE t5)] [(4,[aq t4,aq t41,.ro false 3 (.int .i64) t42,.ro false 50 (c8) t43,.ro false 114 (fC) t44,.ro false 127 (dP) t45])] []
def w7 (a w w1:Int)(w2:List Int)(w3:List bu)(w4:List cG)(w5:List cl)(t4 t41 r r1 r2 r3 r4 r5:Int)(r6 r7:ByteArray)(r8 out bh:Int)(xs:List lJ)(aK:List Int)(aV:List bu)(bm:List cG)(bK:List cl)(cA:List Int)(cB:List D4)(cE:List D9)(oX:List Int)(FH:List lJ)(BW:List Int)(AR:List bu)(BX:List cG)(Og:List cl):= dY 67 [(1,bE a),cL 2,cL 4,cL 6,(7,.v (.c (.own 1000000 none))),cL 8] [(2,[aq w,aq w1,.ro false 3 (.int .i64) w2,.ro false 50 (c8) w3,.ro false 114 (fC) w4,.ro false 127 (dP) w5]),(4,[aq t4,aq t41,.own 1000001 none,.own 1000002 none,.own 1000003 none,.own 1000004 none]),(6,[aq r,aq r1,aq r2,aq r3,aq r4,aq r5,.str r6,.own 1000005 none,.str r7,.own 1000006 none,.own 1000007 none,.own 1000008 none,aq r8,.own 1000009 none]),(8,[aq out,aq bh,.own 1000010 none,.own 1000011 none,.own 1000012 none,.own 1000013 none])] [aA 1000000 146 qN xs,aA 1000001 3 (.int .i64) aK,aA 1000002 50 c8 aV,aA 1000003 114 fC bm,aA 1000004 127 dP bK,aA 1000005 3 (.int .i64) cA,aA 1000006 76 K4 cB,aA 1000007 74 K9 cE,aA 1000008 5 (.int .u8) oX,aA 1000009 146 qN FH,aA 1000010 3 (.int .i64) BW,aA 1000011 50 c8 AR,aA 1000012 114 fC BX,aA 1000013 127 dP Og]
def pr (st:St):Option α:=gA jd F je [.r,.r,.r,.l,.r,.b,.i] f82 κ n st
abbrev ad0:List (Ty×Bool):=[(iL,true),(.int .i64,false)]
def gf:=jq jd F je [.r,.r,.r,.l,.r,.b] f82 ad0 0
theorem EP (a t29 t30 t38 t39 w w1:Int)(w2:List Int)(w3:List bu)(w4:List cG)(w5:List cl)(t4 t41 r r1 r2 r3 r4 r5:Int)(r6 r7:ByteArray)(r8 out bh:Int)(xs:List lJ)(aK:List cl)(aV:List Int)(bm:List bu)(bK:List cG)(cA:List cl)(cB:List Int)(cE:List D4)(oX:List D9)(FH:List Int)(BW:List lJ)(AR:List Int)(BX:List bu)(Og:List cG)(aD5:List cl):wb F κ (n+1) (qA a t29 t30 t38 t39 w w1 w2 w3 w4 w5 t4 t41 r r1 r2 r3 r4 r5 r6 r7 r8 out bh xs aK aV bm bK cA cB cE oX FH BW AR BX Og aD5)=br (decide (t39<t38)) (ck (cc t39 (aK.length:Int)) ((dJ F0 aD5 (aN aK t39 dP.aF)).bind fun QW=>br (!QW.1) (κ .ret (M4 4 w w1 w2 w3 w4 w5)) (wb F κ n (qA a t29 t30 t38 (aj (t39+1)) w w1 w2 w3 w4 w5 t4 t41 r r1 r2 r3 r4 r5 r6 r7 r8 out bh xs aK aV bm bK cA cB cE oX FH BW AR BX Og aD5)))) (κ (.exit 2) (Kt a t29 t30 w w1 w2 w3 w4 w5 t4 t41 r r1 r2 r3 r4 r5 r6 r7 r8 out bh xs aV bm bK cA cB cE oX FH BW AR BX Og aD5)):=by kernel_rfl
theorem ER (a t29 t30 w w1:Int)(w2:List Int)(w3:List bu)(w4:List cG)(w5:List cl)(t4 t41 r r1 r2 r3 r4 r5:Int)(r6 r7:ByteArray)(r8 out bh:Int)(xs:List lJ)(aK:List Int)(aV:List bu)(bm:List cG)(bK:List cl)(cA:List Int)(cB:List D4)(cE:List D9)(oX:List Int)(FH:List lJ)(BW:List Int)(AR:List bu)(BX:List cG)(Og:List cl):pr F κ (n+1) (lB a t29 t30 w w1 w2 w3 w4 w5 t4 t41 r r1 r2 r3 r4 r5 r6 r7 r8 out bh xs aK aV bm bK cA cB cE oX FH BW AR BX Og)=br (decide (t30<t29)) (ck (cc t30 (xs.length:Int)) ((EO F0 a (aN xs t30 qN.aF).2).bind fun Hr=>wb F (qB F κ n) F.n (qA a t29 t30 (Hr.1.length:Int) 0 w w1 w2 w3 w4 w5 t4 t41 r r1 r2 r3 r4 r5 r6 r7 r8 out bh xs Hr.1 aK aV bm bK cA cB cE oX FH BW AR BX Og))) (κ (.exit 0) (w7 a w w1 w2 w3 w4 w5 t4 t41 r r1 r2 r3 r4 r5 r6 r7 r8 out bh xs aK aV bm bK cA cB cE oX FH BW AR BX Og)):=by kernel_rfl
theorem abw (t5 t4 t41:Int)(t42:List Int)(t43:List bu)(t44:List cG)(t45:List cl):qB F κ n .ret (M4 t5 t4 t41 t42 t43 t44 t45)=κ .ret (M5 t5 t4 t41 t42 t43 t44 t45):=by kernel_rfl
theorem Yx (a t29 t30 w w1:Int)(w2:List Int)(w3:List bu)(w4:List cG)(w5:List cl)(t4 t41 r r1 r2 r3 r4 r5:Int)(r6 r7:ByteArray)(r8 out bh:Int)(xs:List lJ)(aK:List Int)(aV:List bu)(bm:List cG)(bK:List cl)(cA:List Int)(cB:List D4)(cE:List D9)(oX:List Int)(FH:List lJ)(BW:List Int)(AR:List bu)(BX:List cG)(Og:List cl):qB F κ n (.exit 2) (Kt a t29 t30 w w1 w2 w3 w4 w5 t4 t41 r r1 r2 r3 r4 r5 r6 r7 r8 out bh xs aK aV bm bK cA cB cE oX FH BW AR BX Og)=pr F κ n (lB a t29 (aj (t30+1)) w w1 w2 w3 w4 w5 t4 t41 r r1 r2 r3 r4 r5 r6 r7 r8 out bh xs aK aV bm bK cA cB cE oX FH BW AR BX Og):=by kernel_rfl
theorem abx (t5 t4 t41:Int)(t42:List Int)(t43:List bu)(t44:List cG)(t45:List cl):gf F .ret (M5 t5 t4 t41 t42 t43 t44 t45)=some (((t4,t41),t42,t43,t44,t45),t5,()):=by kernel_rfl
theorem Yy (a w w1:Int)(w2:List Int)(w3:List bu)(w4:List cG)(w5:List cl)(t4 t41 r r1 r2 r3 r4 r5:Int)(r6 r7:ByteArray)(r8 out bh:Int)(xs:List lJ)(aK:List Int)(aV:List bu)(bm:List cG)(bK:List cl)(cA:List Int)(cB:List D4)(cE:List D9)(oX:List Int)(FH:List lJ)(BW:List Int)(AR:List bu)(BX:List cG)(Og:List cl):gf F (.exit 0) (w7 a w w1 w2 w3 w4 w5 t4 t41 r r1 r2 r3 r4 r5 r6 r7 r8 out bh xs aK aV bm bK cA cB cE oX FH BW AR BX Og)=br (decide ((aj ((w4.length:Int)+(xs.length:Int)))>60)) (some (((w,w1),w2,w3,w4,w5),4,())) (ck (cc a (AR.length:Int)) ((Qb F0 ((out,bh),BW,AR.set a.toNat (r,r1,r2,(r3,r4,(r5,r6,cA),r7),cB,cE,(oX,r8),FH),BX,Og) xs).bind fun r66=>some (r66.1,0,()))):=by kernel_rfl
def DD (w:oV)(a:Int):=bD jd F je f82 ad0 ad0 0 (w,a,())
theorem agN (w:oV)(a:Int):DD F w a=ck (cc a (w.2.2.1.length:Int)) ((H6 F0 w.1 (aN w.2.2.1 a c8.aF)).bind fun gU=>(Rx F0 w a gU.2.1).bind fun BA=>pr F (gf F) F.n (lB a (gU.2.1.length:Int) 0 w.1.1 w.1.2 w.2.1 w.2.2.1 w.2.2.2.1 w.2.2.2.2 0 0 gU.1.1 gU.1.2.1 gU.1.2.2.1 gU.1.2.2.2.1.1 gU.1.2.2.2.1.2.1 gU.1.2.2.2.1.2.2.1.1 gU.1.2.2.2.1.2.2.1.2.1 gU.1.2.2.2.1.2.2.2 gU.1.2.2.2.2.2.2.1.2 BA.1.1.1 BA.1.1.2 gU.2.1 [] [] [] [] gU.1.2.2.2.1.2.2.1.2.2 gU.1.2.2.2.2.1 gU.1.2.2.2.2.2.1 gU.1.2.2.2.2.2.2.1.1 gU.1.2.2.2.2.2.2.2 BA.1.2.1 BA.1.2.2.1 BA.1.2.2.2.1 BA.1.2.2.2.2)):=by kernel_rfl
def M6:Any:=.one ⟨ad0,ad0,0,fun x=>DD F0 x.1 x.2.1⟩
theorem agO:bo 82 M6:=ay jd ⟨ak2,art,Wk,jc,avb,trivial⟩ func82 je (by kernel_rfl)
def Wq:=[(192,jb)]
def H8 (a b:D9):=bD Wq F ab f294 xq gV 2 (a,b,())
theorem ak8 (a b:D9):H8 F a b=br (decide (a.1>b.1)) ((iC F0 a).bind fun dC=>some (dC.1,())) ((iC F0 b).bind fun cg=>some (cg.1,())):=by kernel_rfl
def Qc:Any:=.one ⟨xq,gV,2,fun x=>H8 F0 x.1 x.2.1⟩
theorem ak9:bo 294 Qc:=ay Wq ⟨np,trivial⟩ func294 ab (by kernel_rfl)
def Wr:=[(50,rr),(219,Dt)]
def H9 (name:ByteArray):=bD Wr F ab f295 en aCz 1 (name,())
theorem ala (name:ByteArray):H9 F name=(rq F0 name).bind fun r9=>br (decide ((r9.1.length:Int)<3)) (some (al,false,())) (ck (cc (aj ((r9.1.length:Int)-1)) (r9.1.length:Int)) (ck (cc (aj ((r9.1.length:Int)-2)) (r9.1.length:Int)) (br ((aN r9.1 (aj ((r9.1.length:Int)-1)) (0,[])).1 != (aj ((aN r9.1 (aj ((r9.1.length:Int)-2)) (0,[])).1+1))) (some (al,false,())) (ck (cc (aj ((r9.1.length:Int)-2)) (r9.1.length:Int)) (ck (cc (aj ((r9.1.length:Int)-3)) (r9.1.length:Int)) (br ((aN r9.1 (aj ((r9.1.length:Int)-2)) (0,[])).1 != (aj ((aN r9.1 (aj ((r9.1.length:Int)-3)) (0,[])).1+1))) (some (al,false,())) ((sQ F0 name).bind fun r49=>(sQ F0 r49.1).bind fun Fb=>some (Fb.1,true,())))))))):=by kernel_rfl
def Qd:Any:=.one ⟨en,aCz,1,fun x=>H9 F0 x.1⟩
theorem alb:bo 295 Qd:=ay Wr ⟨Dl,Rv,trivial⟩ func295 ab (by kernel_rfl)
def p6 (s wc:ByteArray):=bD aE F ab f95 Zu aZ 1 (s,wc,())
theorem Oh (s wc:ByteArray):p6 F s wc=br (decide ((s.size:Int)>=(wc.size:Int))) (ck (Si 0 (wc.size:Int) (s.size:Int)) (some ((s.extract (0:Int).toNat (wc.size:Int).toNat).toList==wc.toList,()))) (some (false,())):=by kernel_rfl
def tO:Any:=.one ⟨Zu,aZ,1,fun x=>p6 F0 x.1 x.2.1⟩
theorem Oi:bo 95 tO:=ay aE trivial func95 ab (by kernel_rfl)
def GP:=[(95,tO)]
def Ab (s wc:ByteArray):=bD GP F ab f49 Zu aZ 1 (s,wc,())
theorem Ws (s wc:ByteArray):Ab F s wc=(p6 F0 s wc).bind fun r7=>some (r7.1,()):=by kernel_rfl
def A8:Any:=.one ⟨Zu,aZ,1,fun x=>Ab F0 x.1 x.2.1⟩
theorem Wt:bo 49 A8:=ay GP ⟨Oi,trivial⟩ func49 ab (by kernel_rfl)
def Wu:=[(19,fy),(49,A8)]
def Ia (s t:ByteArray):=bD Wu F ab f18 Zu aZ 1 (s,t,())
theorem alc (s t:ByteArray):Ia F s t=(fE F0 s).bind fun r6=>br r6.1 ((fE F0 t).bind fun r9=>br r9.1 ((Ab F0 s t).bind fun lK=>br lK.1 (br ((s.size:Int)==(t.size:Int)) (some (true,())) (ck (cc (t.size:Int) (s.size:Int)) (some ((lL s (t.size:Int))==47,())))) (some (false,()))) (some (false,()))) (some (false,())):=by kernel_rfl
def Qe:Any:=.one ⟨Zu,aZ,1,fun x=>Ia F0 x.1 x.2.1⟩
theorem ald:bo 18 Qe:=ay Wu ⟨iz,Wt,trivial⟩ func18 ab (by kernel_rfl)
def aoD:=[(18,Qe),(71,eN),(90,kK),(133,lv),(152,jL),(219,Dt),(294,Qc),(295,Qd)]
def Qf (c:D1)(s:Ua)(q:D9):=bD aoD F ab f245 aCA AX 2 (c,s,q,())
theorem axB (c:D1)(s:Ua)(q:D9):Qf F c s q=(lR F0 s).bind fun dC=>(ll F0 c s).bind fun lK=>br (!lK.1) (some (dC.1,())) ((mX F0 c q).bind fun dL=>br (!dL.1) (some (dC.1,())) ((H8 F0 q s.2.2.1).bind fun uc=>(sQ F0 q.2.1).bind fun Ho=>(e8 F0 Ho.1).bind fun ud=>(H9 F0 q.2.1).bind fun LG=>br LG.2.1 ((Ia F0 LG.1 s.2.2.2).bind fun pI=>br pI.1 (some ((dC.1.1,(if ud.1>s.2.1 then ud.1 else s.2.1,(uc.1,LG.1))),())) (some ((dC.1.1,(if ud.1>s.2.1 then ud.1 else s.2.1,(uc.1,dC.1.2.2.2))),()))) (some ((dC.1.1,(if ud.1>s.2.1 then ud.1 else s.2.1,(uc.1,dC.1.2.2.2))),())))):=by kernel_rfl
def Ib:Any:=.one ⟨aCA,AX,2,fun x=>Qf F0 x.1 x.2.1 x.2.2.1⟩
theorem Wv:bo 245 Ib:=ay aoD ⟨ald,gb,rv,sS,oq,Rv,ak9,alb,trivial⟩ func245 ab (by kernel_rfl)
def Ww:=[(71,eN),(90,kK),(159,mZ)]
def Ic (c:D1)(s:Ua)(b:D15):=bD Ww F ab f296 aiE aZ 1 (c,s,b,())
theorem ale (c:D1)(s:Ua)(b:D15):Ic F c s b=(ll F0 c s).bind fun r9=>br r9.1 ((ou F0 c b).bind fun cg=>br cg.1 ((e8 F0 b.1).bind fun N7=>br (decide (N7.1>s.1)) (some (decide (b.2.1>=s.2.1),())) (some (false,()))) (some (false,()))) (some (false,())):=by kernel_rfl
def Qg:Any:=.one ⟨aiE,aZ,1,fun x=>Ic F0 x.1 x.2.1 x.2.2.1⟩
theorem alf:bo 296 Qg:=ay Ww ⟨gb,rv,vV,trivial⟩ func296 ab (by kernel_rfl)
def aiX:=[(71,eN),(133,lv),(296,Qg)]
def XJ (c:D1)(s:Ua)(b:D15):=bD aiX F ab f246 aiE aiG 2 (c,s,b,())
theorem avc (c:D1)(s:Ua)(b:D15):XJ F c s b=(lR F0 s).bind fun gZ=>(Ic F0 c s b).bind fun lK=>br (!lK.1) (some (gZ.1,false,())) ((e8 F0 b.1).bind fun dL=>some ((dL.1,gZ.1.2),true,())):=by kernel_rfl
def aab:Any:=.one ⟨aiE,aiG,2,fun x=>XJ F0 x.1 x.2.1 x.2.2.1⟩
theorem avd:bo 246 aab:=ay aiX ⟨gb,sS,alf,trivial⟩ func246 ab (by kernel_rfl)
def TE:=[(46,kJ)]
def DE (a b:Ua):=bD TE F ab f15 aCB aZ 1 (a,b,())
theorem agP (a b:Ua):DE F a b=br (a.1==b.1) (br (a.2.1==b.2.1) ((jJ F0 a.2.2.1 b.2.2.1).bind fun gB=>br gB.1 (some (a.2.2.2.toList==b.2.2.2.toList,())) (some (false,()))) (some (false,()))) (some (false,())):=by kernel_rfl
def M7:Any:=.one ⟨aCB,aZ,1,fun x=>DE F0 x.1 x.2.1⟩
theorem agQ:bo 15 M7:=ay TE ⟨rn,trivial⟩ func15 ab (by kernel_rfl)
def Qh:=[(90,kK),(206,s9),(207,Cc),(208,td)]
def Ac (c:D1)(s:Ua):=bD Qh F ab f329 Su mu 2 (c,s,())
theorem ad1 (c:D1)(s:Ua):Ac F c s=(ll F0 c s).bind fun r8=>br (!r8.1) (some ([],())) ((lA F0 [s.1,s.2.1]).bind fun oW=>(te F0 c s.2.2.1).bind fun dL=>ck (fe F oW.1.length dL.1.length 1) ((oJ F0 s.2.2.2).bind fun r24=>ck (fe F (oW.1++dL.1).length r24.1.length 1) (some ((oW.1++dL.1)++r24.1,())))):=by kernel_rfl
def Ku:Any:=.one ⟨Su,mu,2,fun x=>Ac F0 x.1 x.2.1⟩
theorem ad2:bo 329 Ku:=ay Qh ⟨rv,FU,TC,FV,trivial⟩ func329 ab (by kernel_rfl)
def Qi:=[(151,ja),(329,Ku)]
def Ad (c:D1)(s:Ua):=bD Qi F ab f298 Su mu 2 (c,s,())
theorem ad3 (c:D1)(s:Ua):Ad F c s=(Ac F0 c s).bind fun r8=>br ((r8.1.length:Int)==0) (some ([],())) ((fF F0 (r8.1.length:Int)).bind fun lK=>ck (fe F lK.1.length r8.1.length 1) (ck (fe F (lK.1++r8.1).length [10].length 1) (some ((lK.1++r8.1)++[10],())))):=by kernel_rfl
def Kv:Any:=.one ⟨Su,mu,2,fun x=>Ad F0 x.1 x.2.1⟩
theorem ad4:bo 298 Kv:=ay Qi ⟨nc,ad2,trivial⟩ func298 ab (by kernel_rfl)
def aac:=[(41,lx),(42,pj)]
def M8 (d:D14)(b:List Int):=bD aac F ab f297 aCC aCD 2 (d,b,())
theorem aoE (d:D14)(b:List Int):M8 F d b=(lS F0 d).bind fun r8=>(rA F0 d).bind fun gZ=>br (!gZ.1) (some (r8.1,false,())) (br (decide ((aj ((d.1.length:Int)+(b.length:Int)))>100000)) (some (r8.1,false,())) (ck (fe F r8.1.1.length b.length 1) (some ((r8.1.1++b,r8.1.2),true,())))):=by kernel_rfl
def TF:Any:=.one ⟨aCC,aCD,2,fun x=>M8 F0 x.1 x.2.1⟩
theorem aoF:bo 297 TF:=ay aac ⟨sX,zM,trivial⟩ func297 ab (by kernel_rfl)
def ad5:=[(15,M7),(47,cO),(79,bY),(133,lv),(297,TF),(298,Kv)]
abbrev aGo:List (Ty×Bool):=[(K1,true),(c8,true),(K12,true)]
def w8 (c:D1)(r:bu)(s:Ua):=bD ad5 F ab f247 aGo hJ 2 (c,r,s,())
theorem aru (c:D1)(r:bu)(s:Ua):w8 F c r s=(aC F0 r).bind fun cR=>(c9 F0 c r).bind fun oW=>br (!oW.1) (some (cR.1,false,())) ((DE F0 s r.2.2.2.1).bind fun gU=>br gU.1 (some (cR.1,true,())) ((Ad F0 c s).bind fun Vc=>(M8 F0 r.2.2.2.2.2.2.1 Vc.1).bind fun Ri=>(lR F0 s).bind fun ud=>br (!Ri.2.1) ((aC F0 r).bind fun QW=>some (QW.1,false,())) ((c9 F0 c (cR.1.1,cR.1.2.1,cR.1.2.2.1,ud.1,cR.1.2.2.2.2.1,cR.1.2.2.2.2.2.1,Ri.1,cR.1.2.2.2.2.2.2.2)).bind fun r42=>br (!r42.1) ((aC F0 r).bind fun QW=>some (QW.1,false,())) (some ((cR.1.1,cR.1.2.1,cR.1.2.2.1,ud.1,cR.1.2.2.2.2.1,cR.1.2.2.2.2.2.1,Ri.1,cR.1.2.2.2.2.2.2.2),true,()))))):=by kernel_rfl
def Ae:Any:=.one ⟨aGo,hJ,2,fun x=>w8 F0 x.1 x.2.1 x.2.2.1⟩
theorem Oj:bo 247 Ae:=ay ad5 ⟨agQ,dm,cK,sS,aoF,ad4,trivial⟩ func247 ab (by kernel_rfl)
def aad:=[(31,ga),(40,dS),(348,ui),(350,AU)]
def ES (s:List Int)(i:Int):=bD aad F ab f333 ake kB 2 (s,i,())
theorem aoG (s:List Int)(i:Int):ES F s i=(ea F0 s i).bind fun r8=>br r8.1 ((eM F0 s).bind fun gZ=>some (gZ.1,())) (br (decide ((qO (fun e_=>geP e_ i) s 0)<0)) ((eM F0 s).bind fun dL=>ck (aij (s.length:Int) dL.1.length [i].length) (some (dL.1.take (s.length:Int).toNat++[i]++dL.1.drop (s.length:Int).toNat,()))) ((eM F0 s).bind fun dL=>ck (aij (qO (fun e_=>geP e_ i) s 0) dL.1.length [i].length) (some (dL.1.take (qO (fun e_=>geP e_ i) s 0).toNat++[i]++dL.1.drop (qO (fun e_=>geP e_ i) s 0).toNat,())))):=by kernel_rfl
def TG:Any:=.one ⟨ake,kB,2,fun x=>ES F0 x.1 x.2.1⟩
theorem aoH:bo 333 TG:=ay aad ⟨jR,fo,OT,U5,trivial⟩ func333 ab (by kernel_rfl)
def ns:=[(333,TG)]
def nu:Nat->Option Hint:=look [(3,{live:=[1,5,10,11,12],mat:=[(5,3,.int .i64)],xl:=[1,5],rl:=[4]}),(8,{live:=[5,20,21,22],xl:=[5],rl:=[4]})]
def tf (t20:List Int)(t21 t22:Int)(xs:List Int):= dY 31 [(5,.v (.c (.own 1000000 none))),(20,jO 3 (.int .i64) t20),(21,bE t21),(22,bE t22)] [] [aA 1000000 3 (.int .i64) xs]
def M9 (xs:List Int):= dY 31 [(5,.v (.c (.own 1000000 none)))] [] [aA 1000000 3 (.int .i64) xs]
def Af (st:St):Option α:=gA ns F nu [.r,.r,.r,.l,.r,.b,.i] f306 κ n st
def Cd:=jq ns F nu [.r,.r,.r,.l,.r,.b] f306 kB 2
def tg (b t10:List Int)(t11 t12:Int)(xs:List Int):= dY 31 [(1,jO 3 (.int .i64) b),(5,.v (.c (.own 1000000 none))),(10,jO 3 (.int .i64) t10),(11,bE t11),(12,bE t12)] [] [aA 1000000 3 (.int .i64) xs]
def Na (b xs:List Int):= dY 31 [(1,jO 3 (.int .i64) b),(5,.v (.c (.own 1000000 none)))] [] [aA 1000000 3 (.int .i64) xs]
def Ag (st:St):Option α:=gA ns F nu [.r,.r,.l,.r,.b,.i] f306 κ n st
def Ce:=jq ns F nu [.r,.r,.l,.r,.b] f306 kB 2
theorem GQ (t20:List Int)(t21 t22:Int)(xs:List Int):Af F κ (n+1) (tf t20 t21 t22 xs)=br (decide (t22<t21)) (ck (cc t22 (t20.length:Int)) ((ES F0 xs (aN t20 t22 0)).bind fun Vc=>Af F κ n (tf t20 t21 (aj (t22+1)) Vc.1))) (κ (.exit 2) (M9 xs)):=by kernel_rfl
theorem GR (b t10:List Int)(t11 t12:Int)(xs:List Int):Ag F κ (n+1) (tg b t10 t11 t12 xs)=br (decide (t12<t11)) (ck (cc t12 (t10.length:Int)) ((ES F0 xs (aN t10 t12 0)).bind fun N7=>Ag F κ n (tg b t10 t11 (aj (t12+1)) N7.1))) (κ (.exit 0) (Na b xs)):=by kernel_rfl
theorem aby (xs:List Int):Cd F (.exit 2) (M9 xs)=some (xs,()):=by kernel_rfl
theorem abz (b xs:List Int):Ce F (.exit 0) (Na b xs)=Af F (Cd F) F.n (tf b (b.length:Int) 0 xs):=by kernel_rfl
def Ie (a b:List Int):=bD ns F nu f306 ajR kB 2 (a,b,())
theorem alg (a b:List Int):Ie F a b=Ag F (Ce F) F.n (tg b a (a.length:Int) 0 []):=by kernel_rfl
def Qj:Any:=.one ⟨ajR,kB,2,fun x=>Ie F0 x.1 x.2.1⟩
theorem alh:bo 306 Qj:=ay ns ⟨aoH,trivial⟩ func306 nu (by kernel_rfl)
def TH:=[(306,Qj)]
def DF (a b:D9):=bD TH F ab f258 xq aiH 2 (a,b,())
theorem agR (a b:D9):DF F a b=br (a.1 != b.1) (some ((0,al,[]),false,())) (br (!(a.2.1.toList==b.2.1.toList)) (some ((0,al,[]),false,())) ((Ie F0 a.2.2 b.2.2).bind fun BA=>some ((a.1,a.2.1,BA.1),true,()))):=by kernel_rfl
def Nb:Any:=.one ⟨xq,aiH,2,fun x=>DF F0 x.1 x.2.1⟩
theorem agS:bo 258 Nb:=ay TH ⟨alh,trivial⟩ func258 ab (by kernel_rfl)
def we:=[(93,B2),(135,wX),(155,ph),(156,p4),(193,iP),(258,Nb),(259,yf)]
def wg:Nat->Option Hint:=look [(5,{live:=[1,3,5,8,9],xl:=[1,3,5,8,9],rl:=[6,7]})]
def qC (list:List D9)(k c c1 p:Int)(p1:ByteArray)(p2:List Int)(xs:List D9):= dY 71 [(1,jO 74 (K9) list),cL 3,cL 5,(8,.v (.c (.own 1000000 none))),(9,bE k)] [(3,[aq c,aq c1]),(5,[aq p,.str p1,.ro false 3 (.int .i64) p2])] [aA 1000000 74 K9 xs]
def oK (list:List D9)(k c c1 p:Int)(p1:ByteArray)(p2:List Int)(xs:List D9):= dY 71 [(1,jO 74 (K9) list),cL 3,cL 5,(8,.v (.c (.own 1000000 none))),(9,bE k)] [(3,[aq c,aq c1]),(5,[aq p,.str p1,.ro false 3 (.int .i64) p2])] [aA 1000000 74 K9 xs]
def wh (st:St):Option α:=gA we F wg [.r,.r,.r,.r,.l,.b,.i] f212 κ n st
def qD:=jq we F wg [.r,.r,.r,.r,.l,.b] f212 asP 2
theorem ET (list:List D9)(k c c1 p:Int)(p1:ByteArray)(p2:List Int)(xs:List D9):wh F κ (n+1) (qC list k c c1 p p1 p2 xs)=br (decide (k<(xs.length:Int))) (ck (cc k (xs.length:Int)) ((gd F0 (aN xs k K9.aF) (p,p1,p2)).bind fun Vc=>br (decide (Vc.1<0)) (wh F κ n (qC list (aj (k+1)) c c1 p p1 p2 xs)) (κ (.exit 0) (oK list k c c1 p p1 p2 xs)))) (κ (.exit 0) (oK list k c c1 p p1 p2 xs)):=by kernel_rfl
theorem Yz (list:List D9)(k c c1 p:Int)(p1:ByteArray)(p2:List Int)(xs:List D9):qD F (.exit 0) (oK list k c c1 p p1 p2 xs)=br (decide (k<(xs.length:Int))) (ck (cc k (xs.length:Int)) ((gd F0 (aN xs k K9.aF) (p,p1,p2)).bind fun OA=>br (OA.1==0) (ck (cc k (xs.length:Int)) ((DF F0 (aN xs k K9.aF) (p,p1,p2)).bind fun XA=>ck (cc k (xs.length:Int)) ((lq F0 (c,c1) (xs.set k.toNat XA.1)).bind fun r66=>br (!r66.1) ((fm F0 list).bind fun r69=>some (r69.1,false,())) (some (xs.set k.toNat XA.1,true,()))))) ((fP F0 (p,p1,p2)).bind fun IS=>ck (aij k xs.length [IS.1].length) ((lq F0 (c,c1) (xs.take k.toNat++[IS.1]++xs.drop k.toNat)).bind fun r66=>br (!r66.1) ((fm F0 list).bind fun r69=>some (r69.1,false,())) (some (xs.take k.toNat++[IS.1]++xs.drop k.toNat,true,())))))) ((fP F0 (p,p1,p2)).bind fun IS=>ck (aij k xs.length [IS.1].length) ((lq F0 (c,c1) (xs.take k.toNat++[IS.1]++xs.drop k.toNat)).bind fun r66=>br (!r66.1) ((fm F0 list).bind fun r69=>some (r69.1,false,())) (some (xs.take k.toNat++[IS.1]++xs.drop k.toNat,true,())))):=by kernel_rfl
def fp (c:D1)(list:D13)(p:D9):=bD we F wg f212 aCE asP 2 (c,list,p,())
theorem agT (c:D1)(list:D13)(p:D9):fp F c list p=(ry F0 c p).bind fun cR=>br (!cR.1) ((fm F0 list).bind fun oW=>some (oW.1,false,())) ((fm F0 list).bind fun fv=>wh F (qD F) F.n (qC list 0 c.1 c.2 p.1 p.2.1 p.2.2 fv.1)):=by kernel_rfl
def lC:Any:=.one ⟨aCE,asP,2,fun x=>fp F0 x.1 x.2.1 x.2.2.1⟩
theorem th:bo 212 lC:=ay we ⟨To,MV,zI,EM,nq,agS,T9,trivial⟩ func212 wg (by kernel_rfl)
def wi:=[(193,iP)]
def wj:Nat->Option Hint:=look [(2,{live:=[1,2,6,9,10,11],x7:=[(6,2,3,.int .i64)],xl:=[1,2,6],rl:=[6]})]
def lD (view:Int)(name:ByteArray)(t9:List D9)(t10 t11 t6:Int)(t61:ByteArray)(xs:List Int):= dY 31 [(1,bE view),(2,Y0 name),cL 6,(9,jO 74 (K9) t9),(10,bE t10),(11,bE t11)] [(6,[aq t6,.str t61,.own 1000000 none])] [aA 1000000 3 (.int .i64) xs]
def Nc (t6:Int)(t61:ByteArray)(xs:List Int):= dY 31 [cL 6] [(6,[aq t6,.str t61,.own 1000000 none])] [aA 1000000 3 (.int .i64) xs]
def Kw (view:Int)(name:ByteArray)(t6:Int)(t61:ByteArray)(xs:List Int):= dY 31 [(1,bE view),(2,Y0 name),cL 6] [(6,[aq t6,.str t61,.own 1000000 none])] [aA 1000000 3 (.int .i64) xs]
def pt (st:St):Option α:=gA wi F wj [.r,.l,.r,.b,.i] f252 κ n st
def qE:=jq wi F wj [.r,.l,.r,.b] f252 gV 2
theorem EU (view:Int)(name:ByteArray)(t9:List D9)(t10 t11 t6:Int)(t61:ByteArray)(xs:List Int):pt F κ (n+1) (lD view name t9 t10 t11 t6 t61 xs)=br (decide (t11<t10)) (ck (cc t11 (t9.length:Int)) (br ((aN t9 t11 K9.aF).1==view) (br ((aN t9 t11 K9.aF).2.1.toList==name.toList) ((fP F0 (aN t9 t11 K9.aF)).bind fun uc=>κ .ret (Nc uc.1.1 uc.1.2.1 uc.1.2.2)) (pt F κ n (lD view name t9 t10 (aj (t11+1)) t6 t61 xs))) (pt F κ n (lD view name t9 t10 (aj (t11+1)) t6 t61 xs)))) (κ (.exit 0) (Kw view name t6 t61 xs)):=by kernel_rfl
theorem abA (t6:Int)(t61:ByteArray)(xs:List Int):qE F .ret (Nc t6 t61 xs)=some ((t6,t61,xs),()):=by kernel_rfl
theorem YA (view:Int)(name:ByteArray)(t6:Int)(t61:ByteArray)(xs:List Int):qE F (.exit 0) (Kw view name t6 t61 xs)=some ((view,name,[]),()):=by kernel_rfl
def uG (list:D13)(view:Int)(name:ByteArray):=bD wi F wj f252 aCt gV 2 (list,view,name,())
theorem agU (list:D13)(view:Int)(name:ByteArray):uG F list view name=pt F (qE F) F.n (lD view name list (list.length:Int) 0 0 al []):=by kernel_rfl
def Ah:Any:=.one ⟨aCt,gV,2,fun x=>uG F0 x.1 x.2.1 x.2.2.1⟩
theorem Qk:bo 252 Ah:=ay wi ⟨nq,trivial⟩ func252 wj (by kernel_rfl)
def aiY:=[(32,dA)]
def ti (c:D1)(view:Int):=bD aiY F ab f204 aiw dv 1 (c,view,())
theorem ave (c:D1)(view:Int):ti F c view=(eZ F0 c).bind fun r6=>br (!r6.1) (some (-1,())) (br (decide (view<0)) (some (-1,())) (ck (!(c.1==0)) (some (Int.tmod view c.1,())))):=by kernel_rfl
def lU:Any:=.one ⟨aiw,dv,1,fun x=>ti F0 x.1 x.2.1⟩
theorem tj:bo 204 lU:=ay aiY ⟨eE,trivial⟩ func204 ab (by kernel_rfl)
def aae:=[(152,jL),(192,jb)]
def EV (c:D1)(p:D9):=bD aae F ab f253 F9 aiH 2 (c,p,())
theorem aoI (c:D1)(p:D9):EV F c p=(iC F0 p).bind fun lK=>(mX F0 c lK.1).bind fun fv=>br (!fv.1) (some ((0,al,[]),false,())) (br (lK.1.1==0) (some ((0,al,[]),false,())) (some (lK.1,true,()))):=by kernel_rfl
def TI:Any:=.one ⟨F9,aiH,2,fun x=>EV F0 x.1 x.2.1⟩
theorem aoJ:bo 253 TI:=ay aae ⟨oq,np,trivial⟩ func253 ab (by kernel_rfl)
def aiZ:=[(47,cO),(79,bY),(194,Ca)]
def nv (c:D1)(r:bu)(ue:Int)(m:N6):=bD aiZ F ab f213 aCF hJ 2 (c,r,ue,m,())
theorem avf (c:D1)(r:bu)(ue:Int)(m:N6):nv F c r ue m=(aC F0 r).bind fun cR=>(zV F0 m).bind fun fv=>ck (fe F cR.1.2.2.2.2.2.2.2.length [(ue,fv.1)].length 224) ((c9 F0 c (cR.1.1,cR.1.2.1,cR.1.2.2.1,cR.1.2.2.2.1,cR.1.2.2.2.2.1,cR.1.2.2.2.2.2.1,cR.1.2.2.2.2.2.2.1,cR.1.2.2.2.2.2.2.2++[(ue,fv.1)])).bind fun r24=>br (!r24.1) ((aC F0 r).bind fun BA=>some (BA.1,false,())) (some ((cR.1.1,cR.1.2.1,cR.1.2.2.1,cR.1.2.2.2.1,cR.1.2.2.2.2.1,cR.1.2.2.2.2.2.1,cR.1.2.2.2.2.2.2.1,cR.1.2.2.2.2.2.2.2++[(ue,fv.1)]),true,()))):=by kernel_rfl
def uH:Any:=.one ⟨aCF,hJ,2,fun x=>nv F0 x.1 x.2.1 x.2.2.1 x.2.2.2.1⟩
theorem Ig:bo 213 uH:=ay aiZ ⟨dm,cK,Tw,trivial⟩ func213 ab (by kernel_rfl)
def ad6:=[(204,lU),(213,uH),(245,Ib),(247,Ae)]
def Kx (c:D1)(r:bu)(q:D9):=bD ad6 F ab f254 aiI hJ 0 (c,r,q,())
theorem arv (c:D1)(r:bu)(q:D9):Kx F c r q=(Qf F0 c r.2.2.2.1 q).bind fun dL=>(w8 F0 c r dL.1).bind fun Ej=>br (!Ej.2.1) (some (r,false,())) (br (decide ((aj (q.1+1))>60)) (some (Ej.1,true,())) ((ti F0 c (aj (q.1+1))).bind fun LG=>br (LG.1 != r.1) ((nv F0 c (Ej.1.1,(if (aj (q.1+1))>Ej.1.2.1 then (aj (q.1+1)) else Ej.1.2.1,Ej.1.2.2)) LG.1 (3,aj (q.1+1),(al,0,al,[]),(0,al,[]),q,r.1,0,0,0,0)).bind fun r52=>some (r52.1,r52.2.1,())) (some ((Ej.1.1,(if (aj (q.1+1))>Ej.1.2.1 then (aj (q.1+1)) else Ej.1.2.1,Ej.1.2.2)),true,())))):=by kernel_rfl
def Wx:Any:=.one ⟨aiI,hJ,0,fun x=>Kx F0 x.1 x.2.1 x.2.2.1⟩
theorem arw:bo 254 Wx:=ay ad6 ⟨tj,Ig,Wv,Oj,trivial⟩ func254 ab (by kernel_rfl)
def ai0:=[(32,dA),(67,bL)]
def IV (c:D1)(view i:Int):=bD ai0 F ab f303 Px dv 1 (c,view,i,())
theorem avg (c:D1)(view i:Int):IV F c view i=(eZ F0 c).bind fun r8=>br (!r8.1) (some (-1,())) (br (decide (view<0)) (some (-1,())) ((bd F0 i 0 (aj (c.1-1))).bind fun dL=>br (!dL.1) (some (-1,())) (ck (!(c.1==0)) (ck (!(c.1==0)) (some (Int.tmod (aj ((aj (i-(Int.tmod view c.1)))+c.1)) c.1,())))))):=by kernel_rfl
def DG:Any:=.one ⟨Px,dv,1,fun x=>IV F0 x.1 x.2.1 x.2.2.1⟩
theorem Ry:bo 303 DG:=ay ai0 ⟨eE,ch,trivial⟩ func303 ab (by kernel_rfl)
def ai1:=[(32,dA),(67,bL)]
def XK (c:D1)(view anI:Int):=bD ai1 F ab f305 Px dv 1 (c,view,anI,())
theorem avh (c:D1)(view anI:Int):XK F c view anI=(eZ F0 c).bind fun r8=>br (!r8.1) (some (-1,())) (br (decide (view<0)) (some (-1,())) ((bd F0 anI 0 (aj (c.1-1))).bind fun dL=>br (!dL.1) (some (-1,())) (ck (!(c.1==0)) (ck (!(c.1==0)) (some (Int.tmod (aj ((Int.tmod view c.1)+anI)) c.1,())))))):=by kernel_rfl
def aaf:Any:=.one ⟨Px,dv,1,fun x=>XK F0 x.1 x.2.1 x.2.2.1⟩
theorem avi:bo 305 aaf:=ay ai1 ⟨eE,ch,trivial⟩ func305 ab (by kernel_rfl)
def asT:=[(303,DG),(305,aaf)]
def XL (c:D1)(view i:Int):=bD asT F ab f257 Px dv 1 (c,view,i,())
theorem aAm (c:D1)(view i:Int):XL F c view i=(IV F0 c view i).bind fun dC=>br (decide (dC.1<1)) (some (-1,())) (ck (!(c.2==0)) ((XK F0 c view (aj (Int.tdiv (aj (dC.1-1)) c.2))).bind fun gU=>some (gU.1,()))):=by kernel_rfl
def Wy:Any:=.one ⟨Px,dv,1,fun x=>XL F0 x.1 x.2.1 x.2.2.1⟩
theorem aoK:bo 257 Wy:=ay asT ⟨Ry,avi,trivial⟩ func257 ab (by kernel_rfl)
end
end Go.Am.Tryz
namespace Go.Am.Tryz
open Go.Am Go.Proofs Go.Proofs.Tryz
noncomputable section
variable {α:Type} (F:rT) (κ:Ex->St->Option α) (n:Nat)
def Rz:=[(257,Wy),(303,DG)]
def RA:Nat->Option Hint:=look [(2,{live:=[1,2,3,7],mat:=[(7,3,.int .i64)],xl:=[7],rl:=[6]})]
def Ih (view i c c1:Int)(xs:List Int):= dY 22 [(1,bE view),(2,bE i),cL 3,(7,.v (.c (.own 1000000 none)))] [(3,[aq c,aq c1])] [aA 1000000 3 (.int .i64) xs]
def Ok (xs:List Int):= dY 22 [(7,.v (.c (.own 1000000 none)))] [] [aA 1000000 3 (.int .i64) xs]
def RB (st:St):Option α:=gA Rz F RA [.r,.r,.l,.b,.i] f304 κ n st
def ad7:=jq Rz F RA [.r,.r,.l,.b] f304 kB 2
theorem TJ (view i c c1:Int)(xs:List Int):RB F κ (n+1) (Ih view i c c1 xs)=(IV F0 (c,c1) view i).bind fun dC=>br (decide (dC.1>=0)) (ck (fe F xs.length [i].length 8) ((XL F0 (c,c1) view i).bind fun nL=>RB F κ n (Ih view nL.1 c c1 (xs++[i])))) (κ (.exit 0) (Ok xs)):=by kernel_rfl
theorem aoL (xs:List Int):ad7 F (.exit 0) (Ok xs)=some (xs,()):=by kernel_rfl
def ad8 (c:D1)(view i:Int):=bD Rz F RA f304 Px kB 2 (c,view,i,())
theorem axC (c:D1)(view i:Int):ad8 F c view i=RB F (ad7 F) F.n (Ih view i c.1 c.2 []):=by kernel_rfl
def ad9:Any:=.one ⟨Px,kB,2,fun x=>ad8 F0 x.1 x.2.1 x.2.2.1⟩
theorem axD:bo 304 ad9:=ay Rz ⟨aoK,Ry,trivial⟩ func304 RA (by kernel_rfl)
def Ii:=[(40,dS),(303,DG),(304,ad9)]
def Ij:Nat->Option Hint:=look [(3,{live:=[1,2,3,7,8],mat:=[(7,3,.int .i64)],xl:=[7],rl:=[6]})]
def rI (view i k c c1:Int)(xs:List Int):= dY 33 [(1,bE view),(2,bE i),cL 3,(7,.v (.c (.own 1000000 none))),(8,bE k)] [(3,[aq c,aq c1])] [aA 1000000 3 (.int .i64) xs]
def FW (xs:List Int):= dY 33 [(7,.v (.c (.own 1000000 none)))] [] [aA 1000000 3 (.int .i64) xs]
def Ai (st:St):Option α:=gA Ii F Ij [.r,.r,.l,.r,.b,.i] f255 κ n st
def Ky:=jq Ii F Ij [.r,.r,.l,.r,.b] f255 kB 2
theorem Aj (view i k c c1:Int)(xs:List Int):Ai F κ (n+1) (rI view i k c c1 xs)=(IV F0 (c,c1) view i).bind fun cR=>br (decide (cR.1>=0)) (br (decide (k<c)) ((ad8 F0 (c,c1) view k).bind fun Yr=>(ea F0 Yr.1 i).bind fun BA=>br BA.1 (ck (fe F xs.length [k].length 8) (Ai F κ n (rI view i (aj (k+1)) c c1 (xs++[k])))) (Ai F κ n (rI view i (aj (k+1)) c c1 xs))) (κ (.exit 0) (FW xs))) (κ (.exit 0) (FW xs)):=by kernel_rfl
theorem Ql (xs:List Int):Ky F (.exit 0) (FW xs)=some (xs,()):=by kernel_rfl
def RC (c:D1)(view i:Int):=bD Ii F Ij f255 Px kB 2 (c,view,i,())
theorem arx (c:D1)(view i:Int):RC F c view i=Ai F (Ky F) F.n (rI view i 0 c.1 c.2 []):=by kernel_rfl
def Wz:Any:=.one ⟨Px,kB,2,fun x=>RC F0 x.1 x.2.1 x.2.2.1⟩
theorem ary:bo 255 Wz:=ay Ii ⟨fo,Ry,axD,trivial⟩ func255 Ij (by kernel_rfl)
def DH:=[(40,dS)]
def DI:Nat->Option Hint:=look [(3,{live:=[1,5,8,9,10],xl:=[5],rl:=[4]})]
def px (b:List Int)(n1:Int)(t8:List Int)(t9 t10:Int):= cJ 21 [(1,jO 3 (.int .i64) b),(5,bE n1),(8,jO 3 (.int .i64) t8),(9,bE t9),(10,bE t10)]
def Qm (n1:Int):= cJ 21 [(5,bE n1)]
def uI (st:St):Option α:=gA DH F DI [.r,.r,.l,.r,.b,.i] f256 κ n st
def FX:=jq DH F DI [.r,.r,.l,.r,.b] f256 dv 1
theorem Kz (b:List Int)(n1:Int)(t8:List Int)(t9 t10:Int):uI F κ (n+1) (px b n1 t8 t9 t10)=br (decide (t10<t9)) (ck (cc t10 (t8.length:Int)) ((ea F0 b (aN t8 t10 0)).bind fun nL=>br nL.1 (uI F κ n (px b (aj (n1+1)) t8 t9 (aj (t10+1)))) (uI F κ n (px b n1 t8 t9 (aj (t10+1)))))) (κ (.exit 0) (Qm n1)):=by kernel_rfl
theorem aea (n1:Int):FX F (.exit 0) (Qm n1)=some (n1,()):=by kernel_rfl
def Nd (a b:List Int):=bD DH F DI f256 ajR dv 1 (a,b,())
theorem aoM (a b:List Int):Nd F a b=uI F (FX F) F.n (px b 0 a (a.length:Int) 0):=by kernel_rfl
def TK:Any:=.one ⟨ajR,dv,1,fun x=>Nd F0 x.1 x.2.1⟩
theorem aoN:bo 256 TK:=ay DH ⟨fo,trivial⟩ func256 DI (by kernel_rfl)
def aeb:=[(47,cO),(79,bY),(204,lU),(213,uH),(252,Ah),(253,TI),(254,Wx),(255,Wz),(256,TK),(257,Wy)]
def oL (c:D1)(r:bu)(view:Int)(name:ByteArray)(push:Bool):=bD aeb F ab f211 asR hJ 0 (c,r,view,name,push,())
theorem arz (c:D1)(r:bu)(view:Int)(name:ByteArray)(push:Bool):oL F c r view name push=(uG F0 r.2.2.2.2.2.1 view name).bind fun gU=>br ((gU.1.2.2.length:Int)==0) ((aC F0 r).bind fun Hr=>some (Hr.1,false,())) ((c9 F0 c r).bind fun Ri=>br (!Ri.1) ((aC F0 r).bind fun Hr=>some (Hr.1,false,())) (br (name.toList==al.toList) ((aC F0 r).bind fun Hr=>some (Hr.1,false,())) ((ti F0 c view).bind fun xv=>br (xv.1==r.1) ((EV F0 c gU.1).bind fun pI=>br (!pI.2.1) ((aC F0 r).bind fun Y8=>some (Y8.1,false,())) ((Kx F0 c r pI.1).bind fun r58=>br (!r58.2.1) ((aC F0 r).bind fun r64=>some (r64.1,false,())) (some (r58.1,true,())))) ((RC F0 c view r.1).bind fun r70=>br (!push) ((Nd F0 r70.1 gU.1.2.2).bind fun r77=>br (decide (r77.1<(r70.1.length:Int))) ((aC F0 r).bind fun r83=>some (r83.1,false,())) ((XL F0 c view r.1).bind fun r90=>(nv F0 c r r90.1 (2,0,(al,0,al,[]),gU.1,(0,al,[]),0,0,0,0,0)).bind fun r93=>some (r93.1,r93.2.1,()))) ((XL F0 c view r.1).bind fun r90=>(nv F0 c r r90.1 (2,0,(al,0,al,[]),gU.1,(0,al,[]),0,0,0,0,0)).bind fun r93=>some (r93.1,r93.2.1,())))))):=by kernel_rfl
def Ak:Any:=.one ⟨asR,hJ,0,fun x=>oL F0 x.1 x.2.1 x.2.2.1 x.2.2.2.1 x.2.2.2.2.1⟩
theorem Ol:bo 211 Ak:=ay aeb ⟨dm,cK,tj,Ig,Qk,aoJ,arw,ary,aoN,aoK,trivial⟩ func211 ab (by kernel_rfl)
def Qn:=[(47,cO),(71,eN),(79,bY),(159,mZ),(211,Ak),(212,lC),(245,Ib),(246,aab),(247,Ae)]
def rJ (c:D1)(r:bu)(b:D15):=bD Qn F ab f197 aCG hJ 1 (c,r,b,())
theorem aec (c:D1)(r:bu)(b:D15):rJ F c r b=(c9 F0 c r).bind fun oW=>br (!oW.1) ((aC F0 r).bind fun r24=>some (r24.1,false,())) ((ou F0 c b).bind fun Ej=>br (!Ej.1) ((aC F0 r).bind fun r24=>some (r24.1,false,())) ((e8 F0 b.1).bind fun BA=>(Qf F0 c r.2.2.2.1 b.2).bind fun ud=>(aC F0 r).bind fun r35=>br (decide (BA.1>=r.2.1)) ((XJ F0 c ud.1 b).bind fun QW=>(w8 F0 c (r35.1.1,BA.1,r35.1.2.2) QW.1).bind fun Y8=>br (!Y8.2.1) ((aC F0 r).bind fun r59=>some (r59.1,false,())) (br (!QW.2.1) (some (Y8.1,true,())) ((fp F0 c Y8.1.2.2.2.2.2.1 (BA.1,b.1,[r.1])).bind fun r74=>br (!r74.2.1) ((aC F0 r).bind fun r81=>some (r81.1,false,())) ((oL F0 c (Y8.1.1,Y8.1.2.1,Y8.1.2.2.1,Y8.1.2.2.2.1,Y8.1.2.2.2.2.1,r74.1,Y8.1.2.2.2.2.2.2) BA.1 b.1 false).bind fun r88=>some (r88.1,true,()))))) ((w8 F0 c r35.1 ud.1).bind fun Y8=>br (!Y8.2.1) ((aC F0 r).bind fun r59=>some (r59.1,false,())) (some (Y8.1,true,()))))):=by kernel_rfl
def w9:Any:=.one ⟨aCG,hJ,1,fun x=>rJ F0 x.1 x.2.1 x.2.2.1⟩
theorem Nf:bo 197 w9:=ay Qn ⟨dm,gb,cK,vV,Ol,th,Wv,avd,Oj,trivial⟩ func197 ab (by kernel_rfl)
def TL:=[(47,cO),(79,bY),(155,ph),(211,Ak),(212,lC)]
def DJ (c:D1)(r:bu)(p:D9):=bD TL F ab f198 aiI hJ 1 (c,r,p,())
theorem agV (c:D1)(r:bu)(p:D9):DJ F c r p=(c9 F0 c r).bind fun cg=>br (!cg.1) ((aC F0 r).bind fun qM=>some (qM.1,false,())) ((ry F0 c p).bind fun N7=>br (!N7.1) ((aC F0 r).bind fun qM=>some (qM.1,false,())) (br (p.2.1.toList==al.toList) ((aC F0 r).bind fun qM=>some (qM.1,false,())) (br (decide (p.1<r.2.1)) ((aC F0 r).bind fun qM=>some (qM.1,false,())) ((fp F0 c r.2.2.2.2.2.1 p).bind fun xv=>br (!xv.2.1) ((aC F0 r).bind fun QW=>some (QW.1,false,())) ((aC F0 r).bind fun r48=>(oL F0 c (r48.1.1,r48.1.2.1,r48.1.2.2.1,r48.1.2.2.2.1,r48.1.2.2.2.2.1,xv.1,r48.1.2.2.2.2.2.2) p.1 p.2.1 false).bind fun r58=>some (r58.1,true,())))))):=by kernel_rfl
def Ng:Any:=.one ⟨aiI,hJ,1,fun x=>DJ F0 x.1 x.2.1 x.2.2.1⟩
theorem agW:bo 198 Ng:=ay TL ⟨dm,cK,zI,Ol,th,trivial⟩ func198 ab (by kernel_rfl)
def ai2:=[(214,FM),(252,Ah)]
abbrev aGp:List (Ty×Bool):=[(K1,true),(c8,true),(.int .i64,false)]
def tk (c:D1)(r:bu)(view:Int):=bD ai2 F ab f248 aGp aZ 1 (c,r,view,())
theorem avj (c:D1)(r:bu)(view:Int):tk F c r view=(uG F0 r.2.2.2.2.2.1 view al).bind fun gZ=>(EI F0 c).bind fun lK=>some (decide ((gZ.1.2.2.length:Int)>=lK.1),()):=by kernel_rfl
def Om:Any:=.one ⟨aGp,aZ,1,fun x=>tk F0 x.1 x.2.1 x.2.2.1⟩
theorem aed:bo 248 Om:=ay ai2 ⟨V3,Qk,trivial⟩ func248 ab (by kernel_rfl)
def TM:=[(47,cO),(67,bL),(79,bY),(152,jL),(204,lU),(212,lC),(245,Ib),(247,Ae),(248,Om)]
def DK (c:D1)(r:bu)(view:Int)(q:D9)(dk:Int):=bD TM F ab f199 aCH hJ 2 (c,r,view,q,dk,())
theorem agX (c:D1)(r:bu)(view:Int)(q:D9)(dk:Int):DK F c r view q dk=(c9 F0 c r).bind fun nL=>br (!nL.1) ((aC F0 r).bind fun Um=>some (Um.1,false,())) ((bd F0 view 1 60).bind fun Ej=>br (!Ej.1) ((aC F0 r).bind fun Um=>some (Um.1,false,())) ((mX F0 c q).bind fun uc=>br (!uc.1) ((aC F0 r).bind fun Um=>some (Um.1,false,())) ((bd F0 dk 0 (aj (c.1-1))).bind fun qM=>br (!qM.1) ((aC F0 r).bind fun Um=>some (Um.1,false,())) ((Qf F0 c r.2.2.2.1 q).bind fun QW=>(w8 F0 c r QW.1).bind fun pI=>br (!pI.2.1) ((aC F0 r).bind fun Y8=>some (Y8.1,false,())) ((ti F0 c view).bind fun r56=>br (r56.1==r.1) (br (decide (view>=r.2.1)) ((fp F0 c pI.1.2.2.2.2.2.1 (view,al,[dk])).bind fun r74=>br (!r74.2.1) ((aC F0 r).bind fun r81=>some (r81.1,false,())) ((tk F0 c (pI.1.1,(if (if 60<(aj (q.1+1)) then 60 else (aj (q.1+1)))>pI.1.2.1 then (if 60<(aj (q.1+1)) then 60 else (aj (q.1+1))) else pI.1.2.1,(pI.1.2.2.1,pI.1.2.2.2.1,pI.1.2.2.2.2.1,r74.1,pI.1.2.2.2.2.2.2))) view).bind fun r93=>br r93.1 (some ((pI.1.1,(if view>(if (if 60<(aj (q.1+1)) then 60 else (aj (q.1+1)))>pI.1.2.1 then (if 60<(aj (q.1+1)) then 60 else (aj (q.1+1))) else pI.1.2.1) then view else (if (if 60<(aj (q.1+1)) then 60 else (aj (q.1+1)))>pI.1.2.1 then (if 60<(aj (q.1+1)) then 60 else (aj (q.1+1))) else pI.1.2.1),(pI.1.2.2.1,pI.1.2.2.2.1,pI.1.2.2.2.2.1,r74.1,pI.1.2.2.2.2.2.2))),true,())) (some ((pI.1.1,(if (if 60<(aj (q.1+1)) then 60 else (aj (q.1+1)))>pI.1.2.1 then (if 60<(aj (q.1+1)) then 60 else (aj (q.1+1))) else pI.1.2.1,(pI.1.2.2.1,pI.1.2.2.2.1,pI.1.2.2.2.2.1,r74.1,pI.1.2.2.2.2.2.2))),true,())))) ((tk F0 c (pI.1.1,(if (if 60<(aj (q.1+1)) then 60 else (aj (q.1+1)))>pI.1.2.1 then (if 60<(aj (q.1+1)) then 60 else (aj (q.1+1))) else pI.1.2.1,pI.1.2.2)) view).bind fun r93=>br r93.1 (some ((pI.1.1,(if view>(if (if 60<(aj (q.1+1)) then 60 else (aj (q.1+1)))>pI.1.2.1 then (if 60<(aj (q.1+1)) then 60 else (aj (q.1+1))) else pI.1.2.1) then view else (if (if 60<(aj (q.1+1)) then 60 else (aj (q.1+1)))>pI.1.2.1 then (if 60<(aj (q.1+1)) then 60 else (aj (q.1+1))) else pI.1.2.1),pI.1.2.2)),true,())) (some ((pI.1.1,(if (if 60<(aj (q.1+1)) then 60 else (aj (q.1+1)))>pI.1.2.1 then (if 60<(aj (q.1+1)) then 60 else (aj (q.1+1))) else pI.1.2.1,pI.1.2.2)),true,())))) ((tk F0 c (pI.1.1,(if (if 60<(aj (q.1+1)) then 60 else (aj (q.1+1)))>pI.1.2.1 then (if 60<(aj (q.1+1)) then 60 else (aj (q.1+1))) else pI.1.2.1,pI.1.2.2)) view).bind fun r93=>br r93.1 (some ((pI.1.1,(if view>(if (if 60<(aj (q.1+1)) then 60 else (aj (q.1+1)))>pI.1.2.1 then (if 60<(aj (q.1+1)) then 60 else (aj (q.1+1))) else pI.1.2.1) then view else (if (if 60<(aj (q.1+1)) then 60 else (aj (q.1+1)))>pI.1.2.1 then (if 60<(aj (q.1+1)) then 60 else (aj (q.1+1))) else pI.1.2.1),pI.1.2.2)),true,())) (some ((pI.1.1,(if (if 60<(aj (q.1+1)) then 60 else (aj (q.1+1)))>pI.1.2.1 then (if 60<(aj (q.1+1)) then 60 else (aj (q.1+1))) else pI.1.2.1,pI.1.2.2)),true,())))))))):=by kernel_rfl
def Nh:Any:=.one ⟨aCH,hJ,2,fun x=>DK F0 x.1 x.2.1 x.2.2.1 x.2.2.2.1 x.2.2.2.2.1⟩
theorem agY:bo 199 Nh:=ay TM ⟨dm,ch,cK,oq,tj,th,Wv,Oj,aed,trivial⟩ func199 ab (by kernel_rfl)
def WA:=[(92,FO),(134,B9),(299,xm),(301,Eh)]
def Ik (p:D5)(x:D4):=bD WA F ab f249 aCI Ve 2 (p,x,())
theorem ali (p:D5)(x:D4):Ik F p x=br (decide ((qO (fun e_=>Re e_ x) p 0)<0)) ((jx F0 p).bind fun nL=>ck (aij (p.length:Int) nL.1.length [x].length) ((xE F0 (nL.1.take (p.length:Int).toNat++[x]++nL.1.drop (p.length:Int).toNat)).bind fun gB=>br (!gB.1) ((jx F0 p).bind fun Yr=>some (Yr.1,false,())) (some (nL.1.take (p.length:Int).toNat++[x]++nL.1.drop (p.length:Int).toNat,true,())))) ((jx F0 p).bind fun nL=>ck (aij (qO (fun e_=>Re e_ x) p 0) nL.1.length [x].length) ((xE F0 (nL.1.take (qO (fun e_=>Re e_ x) p 0).toNat++[x]++nL.1.drop (qO (fun e_=>Re e_ x) p 0).toNat)).bind fun gB=>br (!gB.1) ((jx F0 p).bind fun Yr=>some (Yr.1,false,())) (some (nL.1.take (qO (fun e_=>Re e_ x) p 0).toNat++[x]++nL.1.drop (qO (fun e_=>Re e_ x) p 0).toNat,true,())))):=by kernel_rfl
def Qo:Any:=.one ⟨aCI,Ve,2,fun x=>Ik F0 x.1 x.2.1⟩
theorem alj:bo 249 Qo:=ay WA ⟨V4,Tu,Rh,Yi,trivial⟩ func249 ab (by kernel_rfl)
def aag:=[(47,cO),(79,bY),(249,Qo)]
def Ni (c:D1)(r:bu)(x:D4):=bD aag F ab f200 aCJ hJ 2 (c,r,x,())
theorem aoO (c:D1)(r:bu)(x:D4):Ni F c r x=(aC F0 r).bind fun cR=>(c9 F0 c r).bind fun oW=>br (!oW.1) (some (cR.1,false,())) ((Ik F0 r.2.2.2.2.1 x).bind fun gB=>some ((cR.1.1,cR.1.2.1,cR.1.2.2.1,cR.1.2.2.2.1,gB.1,cR.1.2.2.2.2.2),gB.2.1,())):=by kernel_rfl
def TN:Any:=.one ⟨aCJ,hJ,2,fun x=>Ni F0 x.1 x.2.1 x.2.2.1⟩
theorem aoP:bo 200 TN:=ay aag ⟨dm,cK,alj,trivial⟩ func200 ab (by kernel_rfl)
def tl:=[(193,iP)]
def tn:Nat->Option Hint:=look [(3,{live:=[1,5,8,9,10],mat:=[(5,74,K9)],xl:=[5],rl:=[4]})]
def kc (view:Int)(t8:List D9)(t9 t10:Int)(xs:List D9):= dY 25 [(1,bE view),(5,.v (.c (.own 1000000 none))),(8,jO 74 (K9) t8),(9,bE t9),(10,bE t10)] [] [aA 1000000 74 K9 xs]
def GS (xs:List D9):= dY 25 [(5,.v (.c (.own 1000000 none)))] [] [aA 1000000 74 K9 xs]
def nx (st:St):Option α:=gA tl F tn [.r,.r,.l,.r,.b,.i] f201 κ n st
def xa:=jq tl F tn [.r,.r,.l,.r,.b] f201 Gg 2
theorem A9 (view:Int)(t8:List D9)(t9 t10:Int)(xs:List D9):nx F κ (n+1) (kc view t8 t9 t10 xs)=br (decide (t10<t9)) (ck (cc t10 (t8.length:Int)) (br (decide ((aN t8 t10 K9.aF).1>=view)) ((fP F0 (aN t8 t10 K9.aF)).bind fun Ej=>ck (fe F xs.length [Ej.1].length 48) (nx F κ n (kc view t8 t9 (aj (t10+1)) (xs++[Ej.1])))) (nx F κ n (kc view t8 t9 (aj (t10+1)) xs)))) (κ (.exit 0) (GS xs)):=by kernel_rfl
theorem WB (xs:List D9):xa F (.exit 0) (GS xs)=some (xs,()):=by kernel_rfl
def iD (list:D13)(view:Int):=bD tl F tn f201 aCK Gg 2 (list,view,())
theorem aee (list:D13)(view:Int):iD F list view=nx F (xa F) F.n (kc view list (list.length:Int) 0 []):=by kernel_rfl
def KA:Any:=.one ⟨aCK,Gg,2,fun x=>iD F0 x.1 x.2.1⟩
theorem aef:bo 201 KA:=ay tl ⟨nq,trivial⟩ func201 tn (by kernel_rfl)
def tp:Nat->Option Hint:=look [(3,{live:=[0,1,2],x7:=[(0,0,3,.int .i64),(0,1,3,.int .i64),(1,0,3,.int .i64)],xl:=[0,1],rl:=[0]})]
def gO (i:Int)(xs aK aV bm:List Int):= dY 15 [cL 0,cL 1,(2,bE i)] [(0,[.own 1000000 none,.own 1000001 none]),(1,[.own 1000002 none,.own 1000003 none])] [aA 1000000 3 (.int .i64) xs,aA 1000001 3 (.int .i64) aK,aA 1000002 3 (.int .i64) aV,aA 1000003 3 (.int .i64) bm]
def GU (xs aK aV bm:List Int):= dY 15 [cL 0,cL 1] [(0,[.own 1000000 none,.own 1000001 none]),(1,[.own 1000002 none,.own 1000003 none])] [aA 1000000 3 (.int .i64) xs,aA 1000001 3 (.int .i64) aK,aA 1000002 3 (.int .i64) aV,aA 1000003 3 (.int .i64) bm]
def jV (st:St):Option α:=gA aE F tp [.r,.r,.l,.r,.b,.i] f52 κ n st
def kf:=jq aE F tp [.r,.r,.l,.r,.b] f52 nR 2
theorem Ba (i:Int)(xs aK aV bm:List Int):jV F κ (n+1) (gO i xs aK aV bm)=br (decide (i<4)) (ck (fe F aV.length [100].length 8) (jV F κ n (gO (aj (i+1)) xs aK (aV++[100]) bm))) (κ (.exit 0) (GU xs aK aV bm)):=by kernel_rfl
theorem WC (xs aK aV bm:List Int):kf F (.exit 0) (GU xs aK aV bm)=some ((aV,bm),()):=by kernel_rfl
def kg: Option (Args nR):=bD aE F tp f52 [] nR 2 (())
theorem aeg: kg F= ck (okM F 4 4 8) (jV F (kf F) F.n (gO 0 [] [] [] (List.replicate (4:Int).toNat 0))):=by kernel_rfl
def oM:Any:=.one ⟨[],nR,2,fun x=>kg F0⟩
theorem Al:bo 52 oM:=ay aE trivial func52 tp (by kernel_rfl)
def Il:=[(50,rr)]
def Im:Nat->Option Hint:=look [(4,{live:=[5,13,14,15],mat:=[(5,76,K4)],xl:=[5],rl:=[2]})]
def An (t14 t15:Int)(xs:List D4)(aK:List D6):= dY 25 [(5,.v (.c (.own 1000000 none))),(13,.v (.c (.own 1000001 none))),(14,bE t14),(15,bE t15)] [] [aA 1000000 76 K4 xs,aA 1000001 157 K6 aK]
def TO (xs:List D4):= dY 25 [(5,.v (.c (.own 1000000 none)))] [] [aA 1000000 76 K4 xs]
def Io (st:St):Option α:=gA Il F Im [.r,.r,.r,.l,.r,.b,.i] f53 κ n st
def KB:=jq Il F Im [.r,.r,.r,.l,.r,.b] f53 kz 2
theorem Nj (t14 t15:Int)(xs:List D4)(aK:List D6):Io F κ (n+1) (An t14 t15 xs aK)=br (decide (t15<t14)) (ck (cc t15 (aK.length:Int)) (ck (fe F xs.length (aN aK t15 (0,[])).2.length 32) (Io F κ n (An t14 (aj (t15+1)) (xs++(aN aK t15 (0,[])).2) aK)))) (κ (.exit 0) (TO xs)):=by kernel_rfl
theorem agZ (xs:List D4):KB F (.exit 0) (TO xs)=some (xs,()):=by kernel_rfl
def rK (s:ByteArray):=bD Il F Im f53 en kz 2 (s,())
theorem arA (s:ByteArray):rK F s=(rq F0 s).bind fun gZ=>Io F (KB F) F.n (An (gZ.1.length:Int) 0 [] gZ.1):=by kernel_rfl
def Ao:Any:=.one ⟨en,kz,2,fun x=>rK F0 x.1⟩
theorem On:bo 53 Ao:=ay Il ⟨Dl,trivial⟩ func53 Im (by kernel_rfl)
def Nk:=[(31,ga)]
def kN (l:D43):=bD Nk F ab f100 nR nR 2 (l,())
theorem abB (l:D43):kN F l=(eM F0 l.1).bind fun r5=>(eM F0 l.2).bind fun r8=>some ((r5.1,r8.1),()):=by kernel_rfl
def tX:Any:=.one ⟨nR,nR,2,fun x=>kN F0 x.1⟩
theorem KC:bo 100 tX:=ay Nk ⟨jR,trivial⟩ func100 ab (by kernel_rfl)
def tt:=[(67,bL)]
def tu:Nat->Option Hint:=look [(2,{live:=[1,2,9,10,11],rl:=[6]})]
def oN (low high:Int)(t9:List Int)(t10 t11:Int):= cJ 21 [(1,bE low),(2,bE high),(9,jO 3 (.int .i64) t9),(10,bE t10),(11,bE t11)]
def KD (t6:Bool):= cJ 21 [(6,OV t6)]
def GV   := cJ 21 []
def tv (st:St):Option α:=gA tt F tu [.r,.l,.r,.b,.i] f54 κ n st
def oO:=jq tt F tu [.r,.l,.r,.b] f54 aZ 1
theorem Bb (low high:Int)(t9:List Int)(t10 t11:Int):tv F κ (n+1) (oN low high t9 t10 t11)=br (decide (t11<t10)) (ck (cc t11 (t9.length:Int)) ((bd F0 (aN t9 t11 0) low high).bind fun N7=>br (!N7.1) (κ .ret (KD false)) (tv F κ n (oN low high t9 t10 (aj (t11+1)))))) (κ (.exit 0) (GV)):=by kernel_rfl
theorem YB (t6:Bool):oO F .ret (KD t6)=some (t6,()):=by kernel_rfl
theorem WD: oO F (.exit 0) (GV)=some (true,()):=by kernel_rfl
abbrev aJD:List (Ty×Bool):=[(.sl 3 (.int .i64),false),(.int .i64,false),(.int .i64,false)]
def rL (list:List Int)(low high:Int):=bD tt F tu f54 aJD aZ 1 (list,low,high,())
theorem aeh (list:List Int)(low high:Int):rL F list low high=tv F (oO F) F.n (oN low high list (list.length:Int) 0):=by kernel_rfl
def KE:Any:=.one ⟨aJD,aZ,1,fun x=>rL F0 x.1 x.2.1 x.2.2.1⟩
theorem aei:bo 54 KE:=ay tt ⟨ch,trivial⟩ func54 tu (by kernel_rfl)
def TP:=[(54,KE)]
def pT (l:D43):=bD TP F ab f21 nR aZ 1 (l,())
theorem ag0 (l:D43):pT F l=br ((l.1.length:Int)==4) (br ((l.2.length:Int)==4) ((rL F0 l.1 0 400).bind fun nL=>br nL.1 ((rL F0 l.2 0 100).bind fun gU=>some (gU.1,())) (some (false,()))) (some (false,()))) (some (false,())):=by kernel_rfl
def Ap:Any:=.one ⟨nR,aZ,1,fun x=>pT F0 x.1⟩
theorem Qp:bo 21 Ap:=ay TP ⟨aei,trivial⟩ func21 ab (by kernel_rfl)
def aoQ:=[(21,Ap),(100,tX),(153,jK)]
def KF (l:D43)(x:D4):=bD aoQ F ab f101 aCu aCv 2 (l,x,())
theorem axE (l:D43)(x:D4):KF F l x=(kN F0 l).bind fun r8=>(pT F0 l).bind fun dC=>br (!dC.1) (some (r8.1,1,())) ((pR F0 x).bind fun oW=>br (!oW.1) (some (r8.1,1,())) (ck (cc x.1 (l.2.length:Int)) (br (decide (x.2.2.2<(aN l.2 x.1 0))) (some (r8.1,2,())) (ck (cc x.1 (l.2.length:Int)) (br (decide (x.2.2.2>(aN l.2 x.1 0))) (some (r8.1,3,())) (ck (cc x.1 (r8.1.2.length:Int)) (ck (cc x.1 (r8.1.2.length:Int)) (ck (cc x.1 (l.1.length:Int)) (br (decide (x.2.2.1>(aN l.1 x.1 0))) (some ((r8.1.1,r8.1.2.set x.1.toNat (aj ((aN r8.1.2 x.1 0)+1))),4,())) (ck (cc x.1 (r8.1.1.length:Int)) (ck (cc x.1 (r8.1.1.length:Int)) (ck (cc x.2.1 ((r8.1.1.set x.1.toNat (aj ((aN r8.1.1 x.1 0)-x.2.2.1))).length:Int)) (ck (cc x.2.1 ((r8.1.1.set x.1.toNat (aj ((aN r8.1.1 x.1 0)-x.2.2.1))).length:Int)) ((pT F0 ((r8.1.1.set x.1.toNat (aj ((aN r8.1.1 x.1 0)-x.2.2.1))).set x.2.1.toNat (aj ((aN (r8.1.1.set x.1.toNat (aj ((aN r8.1.1 x.1 0)-x.2.2.1))) x.2.1 0)+x.2.2.1)),r8.1.2.set x.1.toNat (aj ((aN r8.1.2 x.1 0)+1)))).bind fun r80=>br (!r80.1) ((kN F0 l).bind fun r83=>some (r83.1,1,())) (some (((r8.1.1.set x.1.toNat (aj ((aN r8.1.1 x.1 0)-x.2.2.1))).set x.2.1.toNat (aj ((aN (r8.1.1.set x.1.toNat (aj ((aN r8.1.1 x.1 0)-x.2.2.1))) x.2.1 0)+x.2.2.1)),r8.1.2.set x.1.toNat (aj ((aN r8.1.2 x.1 0)+1))),0,())))))))))))))))):=by kernel_rfl
def Ip:Any:=.one ⟨aCu,aCv,2,fun x=>KF F0 x.1 x.2.1⟩
theorem WE:bo 101 Ip:=ay aoQ ⟨Qp,KC,oo,trivial⟩ func101 ab (by kernel_rfl)
def DL:=[(100,tX),(101,Ip)]
def DM:Nat->Option Hint:=look [(4,{live:=[4,6,7,14,15,16],mat:=[(7,3,.int .i64)],x7:=[(4,0,3,.int .i64),(4,1,3,.int .i64)],xl:=[4,6,7],rl:=[4,5]})]
def wm (t14:List D4)(t15 t16:Int)(xs aK aV bm bK:List Int):= dY 34 [cL 4,cL 6,(7,.v (.c (.own 1000000 none))),(14,jO 76 (K4) t14),(15,bE t15),(16,bE t16)] [(4,[.own 1000001 none,.own 1000002 none]),(6,[.own 1000003 none,.own 1000004 none])] [aA 1000000 3 (.int .i64) xs,aA 1000001 3 (.int .i64) aK,aA 1000002 3 (.int .i64) aV,aA 1000003 3 (.int .i64) bm,aA 1000004 3 (.int .i64) bK]
def Qq (xs aK aV bm bK:List Int):= dY 34 [cL 4,cL 6,(7,.v (.c (.own 1000000 none)))] [(4,[.own 1000001 none,.own 1000002 none]),(6,[.own 1000003 none,.own 1000004 none])] [aA 1000000 3 (.int .i64) xs,aA 1000001 3 (.int .i64) aK,aA 1000002 3 (.int .i64) aV,aA 1000003 3 (.int .i64) bm,aA 1000004 3 (.int .i64) bK]
def DN (st:St):Option α:=gA DL F DM [.r,.r,.r,.l,.r,.b,.i] f51 κ n st
def FY:=jq DL F DM [.r,.r,.r,.l,.r,.b] f51 asN 2
theorem KG (t14:List D4)(t15 t16:Int)(xs aK aV bm bK:List Int):DN F κ (n+1) (wm t14 t15 t16 xs aK aV bm bK)=br (decide (t16<t15)) (ck (cc t16 (t14.length:Int)) ((KF F0 (bm,bK) (aN t14 t16 K4.aF)).bind fun sg=>ck (fe F xs.length [sg.2.1].length 8) (DN F κ n (wm t14 t15 (aj (t16+1)) (xs++[sg.2.1]) aK aV sg.1.1 sg.1.2)))) (κ (.exit 0) (Qq xs aK aV bm bK)):=by kernel_rfl
theorem aej (xs aK aV bm bK:List Int):FY F (.exit 0) (Qq xs aK aV bm bK)=some ((bm,bK),xs,()):=by kernel_rfl
def rM (l:D43)(list:D5):=bD DL F DM f51 aCw asN 2 (l,list,())
theorem aoR (l:D43)(list:D5):rM F l list=(kN F0 l).bind fun cg=>DN F (FY F) F.n (wm list (list.length:Int) 0 [] [] [] cg.1.1 cg.1.2):=by kernel_rfl
def wo:Any:=.one ⟨aCw,asN,2,fun x=>rM F0 x.1 x.2.1⟩
theorem KH:bo 51 wo:=ay DL ⟨KC,WE,trivial⟩ func51 DM (by kernel_rfl)
def aek:=[(47,cO),(51,wo),(52,oM),(53,Ao)]
def kh (c:D1)(r:bu):=bD aek F ab f20 AQ nR 2 (c,r,())
theorem arB (c:D1)(r:bu):kh F c r=(c9 F0 c r).bind fun r9=>br (!r9.1) (some (([],[]),())) ((kg F0).bind fun cg=>(rK F0 r.2.2.2.1.2.2.2).bind fun fv=>(rM F0 cg.1 fv.1).bind fun N7=>some (N7.1,())):=by kernel_rfl
def Aq:Any:=.one ⟨AQ,nR,2,fun x=>kh F0 x.1 x.2.1⟩
theorem Oo:bo 20 Aq:=ay aek ⟨dm,KH,Al,On,trivial⟩ func20 ab (by kernel_rfl)
def wq:=[(101,Ip)]
def wu:Nat->Option Hint:=look [(3,{live:=[3,5,10,11,12],mat:=[(5,76,K4)],xl:=[5],rl:=[4]})]
def lE (t10:List D4)(t11 t12:Int)(l l1:List Int)(xs:List D4):= dY 30 [cL 3,(5,.v (.c (.own 1000000 none))),(10,jO 76 (K4) t10),(11,bE t11),(12,bE t12)] [(3,[.ro false 3 (.int .i64) l,.ro false 3 (.int .i64) l1])] [aA 1000000 76 K4 xs]
def KI (xs:List D4):= dY 30 [(5,.v (.c (.own 1000000 none)))] [] [aA 1000000 76 K4 xs]
def py (st:St):Option α:=gA wq F wu [.r,.r,.l,.r,.b,.i] f202 κ n st
def Ar:=jq wq F wu [.r,.r,.l,.r,.b] f202 kz 2
theorem EW (t10:List D4)(t11 t12:Int)(l l1:List Int)(xs:List D4):py F κ (n+1) (lE t10 t11 t12 l l1 xs)=br (decide (t12<t11)) (ck (cc t12 (t10.length:Int)) ((KF F0 (l,l1) (aN t10 t12 K4.aF)).bind fun dL=>br (dL.2.1 != 2) (ck (fe F xs.length [(aN t10 t12 K4.aF)].length 32) (py F κ n (lE t10 t11 (aj (t12+1)) l l1 (xs++[(aN t10 t12 K4.aF)])))) (py F κ n (lE t10 t11 (aj (t12+1)) l l1 xs)))) (κ (.exit 0) (KI xs)):=by kernel_rfl
theorem YC (xs:List D4):Ar F (.exit 0) (KI xs)=some (xs,()):=by kernel_rfl
def jM (p:D5)(l:D43):=bD wq F wu f202 aiA kz 2 (p,l,())
theorem ag1 (p:D5)(l:D43):jM F p l=py F (Ar F) F.n (lE p (p.length:Int) 0 l.1 l.2 []):=by kernel_rfl
def Nl:Any:=.one ⟨aiA,kz,2,fun x=>jM F0 x.1 x.2.1⟩
theorem ag2:bo 202 Nl:=ay wq ⟨WE,trivial⟩ func202 wu (by kernel_rfl)
def ai3:=[(20,Aq),(79,bY),(94,na),(197,w9),(198,Ng),(199,Nh),(200,TN),(201,KA),(202,Nl)]
def IW (c:D1)(r:bu)(m:N6):=bD ai3 F ab f143 ZC hJ 1 (c,r,m,())
theorem avk (c:D1)(r:bu)(m:N6):IW F c r m=(gL F0 c m).bind fun cR=>br (!cR.1) ((aC F0 r).bind fun oW=>some (oW.1,false,())) (br (m.1==1) ((rJ F0 c r m.2.2.1).bind fun ud=>br (!ud.2.1) ((aC F0 r).bind fun r63=>some (r63.1,false,())) ((iD F0 ud.1.2.2.2.2.2.1 (aj (ud.1.2.1-1))).bind fun r69=>(kh F0 c (ud.1.1,ud.1.2.1,ud.1.2.2.1,ud.1.2.2.2.1,ud.1.2.2.2.2.1,r69.1,ud.1.2.2.2.2.2.2)).bind fun LW=>(jM F0 ud.1.2.2.2.2.1 LW.1).bind fun r76=>some ((ud.1.1,ud.1.2.1,ud.1.2.2.1,ud.1.2.2.2.1,r76.1,r69.1,ud.1.2.2.2.2.2.2),true,()))) (br (m.1==2) ((DJ F0 c r m.2.2.2.1).bind fun OA=>br (!OA.2.1) ((aC F0 r).bind fun r63=>some (r63.1,false,())) ((iD F0 OA.1.2.2.2.2.2.1 (aj (OA.1.2.1-1))).bind fun r69=>(kh F0 c (OA.1.1,OA.1.2.1,OA.1.2.2.1,OA.1.2.2.2.1,OA.1.2.2.2.2.1,r69.1,OA.1.2.2.2.2.2.2)).bind fun LW=>(jM F0 OA.1.2.2.2.2.1 LW.1).bind fun r76=>some ((OA.1.1,OA.1.2.1,OA.1.2.2.1,OA.1.2.2.2.1,r76.1,r69.1,OA.1.2.2.2.2.2.2),true,()))) (br (m.1==3) ((DK F0 c r m.2.1 m.2.2.2.2.1 m.2.2.2.2.2.1).bind fun r57=>br (!r57.2.1) ((aC F0 r).bind fun r63=>some (r63.1,false,())) ((iD F0 r57.1.2.2.2.2.2.1 (aj (r57.1.2.1-1))).bind fun r69=>(kh F0 c (r57.1.1,r57.1.2.1,r57.1.2.2.1,r57.1.2.2.2.1,r57.1.2.2.2.2.1,r69.1,r57.1.2.2.2.2.2.2)).bind fun LW=>(jM F0 r57.1.2.2.2.2.1 LW.1).bind fun r76=>some ((r57.1.1,r57.1.2.1,r57.1.2.2.1,r57.1.2.2.2.1,r76.1,r69.1,r57.1.2.2.2.2.2.2),true,()))) ((Ni F0 c r m.2.2.2.2.2.2).bind fun sg=>br (!sg.2.1) ((aC F0 r).bind fun r63=>some (r63.1,false,())) ((iD F0 sg.1.2.2.2.2.2.1 (aj (sg.1.2.1-1))).bind fun r69=>(kh F0 c (sg.1.1,sg.1.2.1,sg.1.2.2.1,sg.1.2.2.2.1,sg.1.2.2.2.2.1,r69.1,sg.1.2.2.2.2.2.2)).bind fun LW=>(jM F0 sg.1.2.2.2.2.1 LW.1).bind fun r76=>some ((sg.1.1,sg.1.2.1,sg.1.2.2.1,sg.1.2.2.2.1,r76.1,r69.1,sg.1.2.2.2.2.2.2),true,())))))):=by kernel_rfl
def Oq:Any:=.one ⟨ZC,hJ,1,fun x=>IW F0 x.1 x.2.1 x.2.2.1⟩
theorem ael:bo 143 Oq:=ay ai3 ⟨Oo,cK,uz,Nf,agW,agY,aoP,aef,ag2,trivial⟩ func143 ab (by kernel_rfl)
def DO:=[(40,dS),(140,fc)]
def DP:Nat->Option Hint:=look [(2,{live:=[0,1,2,3,13,14,15],rl:=[10]})]
def pz (liars:List Int)(list:List cl)(view:Int)(name:ByteArray)(t13:List Int)(t14 t15:Int):= cJ 33 [(0,jO 3 (.int .i64) liars),(1,jO 127 (dP) list),(2,bE view),(3,Y0 name),(13,jO 3 (.int .i64) t13),(14,bE t14),(15,bE t15)]
def TQ (t10:Bool):= cJ 33 [(10,OV t10)]
def Qr   := cJ 33 []
def uJ (st:St):Option α:=gA DO F DP [.r,.l,.r,.b,.i] f203 κ n st
def wv:=jq DO F DP [.r,.l,.r,.b] f203 aZ 1
theorem KJ (liars:List Int)(list:List cl)(view:Int)(name:ByteArray)(t13:List Int)(t14 t15:Int):uJ F κ (n+1) (pz liars list view name t13 t14 t15)=br (decide (t15<t14)) (ck (cc t15 (t13.length:Int)) ((ea F0 liars (aN t13 t15 0)).bind fun gU=>br (!gU.1) ((dJ F0 list (view,name,aN t13 t15 0)).bind fun Ri=>br (!Ri.1) (κ .ret (TQ false)) (uJ F κ n (pz liars list view name t13 t14 (aj (t15+1))))) (uJ F κ n (pz liars list view name t13 t14 (aj (t15+1)))))) (κ (.exit 0) (Qr)):=by kernel_rfl
theorem ag3 (t10:Bool):wv F .ret (TQ t10)=some (t10,()):=by kernel_rfl
theorem aem: wv F (.exit 0) (Qr)=some (true,()):=by kernel_rfl
def xI (liars:List Int)(list:D38)(view:Int)(name:ByteArray)(dk:List Int):=bD DO F DP f203 aCL aZ 1 (liars,list,view,name,dk,())
theorem aoS (liars:List Int)(list:D38)(view:Int)(name:ByteArray)(dk:List Int):xI F liars list view name dk=uJ F (wv F) F.n (pz liars list view name dk (dk.length:Int) 0):=by kernel_rfl
def TR:Any:=.one ⟨aCL,aZ,1,fun x=>xI F0 x.1 x.2.1 x.2.2.1 x.2.2.2.1 x.2.2.2.2.1⟩
theorem aoT:bo 203 TR:=ay DO ⟨fo,jc,trivial⟩ func203 DP (by kernel_rfl)
def aah:=[(40,dS),(46,kJ),(71,eN),(94,na),(203,TR),(204,lU),(205,BZ)]
def Nn (c:D1)(liars:List Int)(list:D38)(m:N6):=bD aah F ab f144 aCM aZ 1 (c,liars,list,m,())
theorem aoU (c:D1)(liars:List Int)(list:D38)(m:N6):Nn F c liars list m=(gL F0 c m).bind fun cR=>br (!cR.1) (some (false,())) (br (m.1==4) (some (true,())) (br (m.1==2) ((xI F0 liars list m.2.2.2.1.1 m.2.2.2.1.2.1 m.2.2.2.1.2.2).bind fun Um=>some (Um.1,())) (br (m.1==1) ((e8 F0 m.2.2.1.1).bind fun r49=>(ti F0 c r49.1).bind fun Fb=>(ea F0 liars Fb.1).bind fun r51=>br (!r51.1) (some (false,())) ((sN F0).bind fun XA=>(jJ F0 m.2.2.1.2 XA.1).bind fun r55=>br r55.1 (some (true,())) ((xI F0 liars list m.2.2.1.2.1 m.2.2.1.2.2.1 m.2.2.1.2.2.2).bind fun eV=>some (eV.1,())))) ((ea F0 liars m.2.2.2.2.2.1).bind fun gU=>br (!gU.1) (some (false,())) ((sN F0).bind fun XA=>(jJ F0 m.2.2.2.2.1 XA.1).bind fun r55=>br r55.1 (some (true,())) ((xI F0 liars list m.2.2.2.2.1.1 m.2.2.2.2.1.2.1 m.2.2.2.2.1.2.2).bind fun eV=>some (eV.1,()))))))):=by kernel_rfl
def TS:Any:=.one ⟨aCM,aZ,1,fun x=>Nn F0 x.1 x.2.1 x.2.2.1 x.2.2.2.1⟩
theorem aoV:bo 144 TS:=ay aah ⟨fo,rn,gb,uz,aoT,tj,Tk,trivial⟩ func144 ab (by kernel_rfl)
def WG:=[(11,kM),(38,gN),(40,dS),(70,Kl),(80,zX),(142,ye),(143,Oq),(144,TS),(145,Aa)]
def WH:Nat->Option Hint:=look [(900015,{live:=[],mat:=[(2,0,iL)]})]
def oP (w:oV)(d:D45):=bD WG F WH f83 aiQ ad0 0 (w,d,())
theorem alk (w:oV)(d:D45):oP F w d=(aR F0 w).bind fun dC=>br (d.1==3) (ck (cc d.2.1 (w.2.2.2.1.length:Int)) (ck (Si d.2.1 (aj (d.2.1+1)) (dC.1.2.2.2.1.length:Int)) ((Kk F0 w.1 (aN w.2.2.2.1 d.2.1 (0,[])).2).bind fun r60=>br r60.2.1 ((nU F0 w).bind fun r66=>(ea F0 r66.1 (aN w.2.2.2.1 d.2.1 (0,[])).1).bind fun r69=>br r69.1 (ck (cc (aN w.2.2.2.1 d.2.1 (0,[])).1 (w.2.2.1.length:Int)) ((IW F0 w.1 (aN w.2.2.1 (aN w.2.2.2.1 d.2.1 (0,[])).1 c8.aF) r60.1).bind fun r85=>ck (cc (aN w.2.2.2.1 d.2.1 (0,[])).1 (dC.1.2.2.1.length:Int)) (some ((dC.1.1,dC.1.2.1,dC.1.2.2.1.set (aN w.2.2.2.1 d.2.1 (0,[])).1.toNat r85.1,dC.1.2.2.2.1.take d.2.1.toNat++dC.1.2.2.2.1.drop (aj (d.2.1+1)).toNat,dC.1.2.2.2.2),0,())))) (some ((dC.1.1,dC.1.2.1,dC.1.2.2.1,dC.1.2.2.2.1.take d.2.1.toNat++dC.1.2.2.2.1.drop (aj (d.2.1+1)).toNat,dC.1.2.2.2.2),0,()))) (some ((dC.1.1,dC.1.2.1,dC.1.2.2.1,dC.1.2.2.2.1.take d.2.1.toNat++dC.1.2.2.2.1.drop (aj (d.2.1+1)).toNat,dC.1.2.2.2.2),0,()))))) (br (d.1==4) (ck (Si d.2.1 (aj (d.2.1+1)) (dC.1.2.2.2.1.length:Int)) (some ((dC.1.1,dC.1.2.1,dC.1.2.2.1,dC.1.2.2.2.1.take d.2.1.toNat++dC.1.2.2.2.1.drop (aj (d.2.1+1)).toNat,dC.1.2.2.2.2),0,()))) (br (d.1==5) (ck (cc d.2.1 (w.2.2.2.1.length:Int)) ((uC F0 (aN w.2.2.2.1 d.2.1 (0,[]))).bind fun ani=>ck (fe F dC.1.2.2.2.1.length [ani.1].length 32) (some ((dC.1.1,dC.1.2.1,dC.1.2.2.1,dC.1.2.2.2.1++[ani.1],dC.1.2.2.2.2),0,())))) ((Nn F0 w.1 w.2.1 w.2.2.2.2 d.2.2.2).bind fun gB=>br (!gB.1) (some (w,5,())) ((uF F0 w.1 d.2.2.2).bind fun ud=>ck (fe F dC.1.2.2.2.1.length [(d.2.1,ud.1)].length 32) (some ((dC.1.1,dC.1.2.1,dC.1.2.2.1,dC.1.2.2.2.1++[(d.2.1,ud.1)],dC.1.2.2.2.2),0,())))))):=by kernel_rfl
def Qs:Any:=.one ⟨aiQ,ad0,0,fun x=>oP F0 x.1 x.2.1⟩
theorem alm:bo 83 Qs:=ay WG ⟨rG,ly,fo,Z3,P2,T7,ael,aoV,P9,trivial⟩ func83 WH (by kernel_rfl)
end
end Go.Am.Tryz
