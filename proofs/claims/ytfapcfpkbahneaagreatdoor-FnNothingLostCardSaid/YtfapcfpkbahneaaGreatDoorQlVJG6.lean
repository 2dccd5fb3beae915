/- Lemmas for the claim. No condition. -/
import Derived.Test.YtfapcfpkbahneaaGreatDoorQlVJG5
set_option linter.all false
set_option maxRecDepth 100000
namespace Go.Am.Tryz
open Go.Am Go.Proofs Go.Proofs.Tryz
noncomputable section
variable {α:Type} (F:rQ) (κ:Ex→St→Option α) (n:Nat)
def je:=[(137,Py),(138,VO),(139,FG),(140,ff),(141,Zw)]
def jf:Nat→Option Hint:=look [(4,{live:=[1,2,4,6,7,8,28,29,30],xY:=[(4,2,3,.int .i64),(4,3,50,db),(4,4,114,fU),(4,5,127,eh)],xl:=[1,2,4,6,7,8],rl:=[4,5]}),(7,{live:=[1,2,4,6,7,8,28,29,30,37,38,39],xl:=[1,2,4,6,7,8,28,29,30],rl:=[4,5]})]
def qv (a t29 t30 t38 t39 w w1:Int)(w2:List Int)(w3:List bz)(w4:List cU)(w5:List cE)(t4 t41 r r1 r2 r3 r4 r5:Int)(r6 r7:ByteArray)(r8 out bg:Int)(xs:List lL)(aO:List cE)(aY:List Int)(bj:List bz)(bK:List cU)(cA:List cE)(cB:List Int)(cF:List D4)(oN:List D9)(Fw:List Int)(BG:List lL)(AG:List Int)(BH:List bz)(NK:List cU)(aDH:List cE):= er 67 [(1,bR a),cS 2,cS 4,cS 6,(7,.v (.c (.own 1000000 none))),cS 8,(28,.v (.c (.own 1000000 none))),(29,bR t29),(30,bR t30),(37,.v (.c (.own 1000001 none))),(38,bR t38),(39,bR t39)] [(2,[aq w,aq w1,.ro false 3 (.int .i64) w2,.ro false 50 (db) w3,.ro false 114 (fU) w4,.ro false 127 (eh) w5]),(4,[aq t4,aq t41,.own 1000002 none,.own 1000003 none,.own 1000004 none,.own 1000005 none]),(6,[aq r,aq r1,aq r2,aq r3,aq r4,aq r5,.str r6,.own 1000006 none,.str r7,.own 1000007 none,.own 1000008 none,.own 1000009 none,aq r8,.own 1000010 none]),(8,[aq out,aq bg,.own 1000011 none,.own 1000012 none,.own 1000013 none,.own 1000014 none])] [aB 1000000 146 qK xs,aB 1000001 127 eh aO,aB 1000002 3 (.int .i64) aY,aB 1000003 50 db bj,aB 1000004 114 fU bK,aB 1000005 127 eh cA,aB 1000006 3 (.int .i64) cB,aB 1000007 76 K4 cF,aB 1000008 74 K9 oN,aB 1000009 5 (.int .u8) Fw,aB 1000010 146 qK BG,aB 1000011 3 (.int .i64) AG,aB 1000012 50 db BH,aB 1000013 114 fU NK,aB 1000014 127 eh aDH]
def ME (t5 t4 t41:Int)(t42:List Int)(t43:List bz)(t44:List cU)(t45:List cE):= er 67 [cS 4,(5,bR t5)] [(4,[aq t4,aq t41,.ro false 3 (.int .i64) t42,.ro false 50 (db) t43,.ro false 114 (fU) t44,.ro false 127 (eh) t45])] []
def Kb (a t29 t30 w w1:Int)(w2:List Int)(w3:List bz)(w4:List cU)(w5:List cE)(t4 t41 r r1 r2 r3 r4 r5:Int)(r6 r7:ByteArray)(r8 out bg:Int)(xs:List lL)(aO:List Int)(aY:List bz)(bj:List cU)(bK:List cE)(cA:List Int)(cB:List D4)(cF:List D9)(oN:List Int)(Fw:List lL)(BG:List Int)(AG:List bz)(BH:List cU)(NK:List cE):= er 67 [(1,bR a),cS 2,cS 4,cS 6,(7,.v (.c (.own 1000000 none))),cS 8,(28,.v (.c (.own 1000000 none))),(29,bR t29),(30,bR t30)] [(2,[aq w,aq w1,.ro false 3 (.int .i64) w2,.ro false 50 (db) w3,.ro false 114 (fU) w4,.ro false 127 (eh) w5]),(4,[aq t4,aq t41,.own 1000001 none,.own 1000002 none,.own 1000003 none,.own 1000004 none]),(6,[aq r,aq r1,aq r2,aq r3,aq r4,aq r5,.str r6,.own 1000005 none,.str r7,.own 1000006 none,.own 1000007 none,.own 1000008 none,aq r8,.own 1000009 none]),(8,[aq out,aq bg,.own 1000010 none,.own 1000011 none,.own 1000012 none,.own 1000013 none])] [aB 1000000 146 qK xs,aB 1000001 3 (.int .i64) aO,aB 1000002 50 db aY,aB 1000003 114 fU bj,aB 1000004 127 eh bK,aB 1000005 3 (.int .i64) cA,aB 1000006 76 K4 cB,aB 1000007 74 K9 cF,aB 1000008 5 (.int .u8) oN,aB 1000009 146 qK Fw,aB 1000010 3 (.int .i64) BG,aB 1000011 50 db AG,aB 1000012 114 fU BH,aB 1000013 127 eh NK]
def vV (st:St):Option α:=gW je F jf [.r,.r,.r,.l,.r,.b,.i,.r,.r,.l,.b,.r,.r,.b,.i] f82 κ n st
def qw:Ex→St→Option α:=alH Tryz.prog (look je) F jf [.r,.r,.l,.b,.r,.r,.b] (sub [.r,.r,.r,.l,.r,.b,.i] (nO f82)) (itk Tryz.prog (look je) F jf (sub [.r,.r,.r,.l,.r,.b,.i] (nO f82)) κ n)
def lv (a t29 t30 w w1:Int)(w2:List Int)(w3:List bz)(w4:List cU)(w5:List cE)(t4 t41 r r1 r2 r3 r4 r5:Int)(r6 r7:ByteArray)(r8 out bg:Int)(xs:List lL)(aO:List Int)(aY:List bz)(bj:List cU)(bK:List cE)(cA:List Int)(cB:List D4)(cF:List D9)(oN:List Int)(Fw:List lL)(BG:List Int)(AG:List bz)(BH:List cU)(NK:List cE):= er 67 [(1,bR a),cS 2,cS 4,cS 6,(7,.v (.c (.own 1000000 none))),cS 8,(28,.v (.c (.own 1000000 none))),(29,bR t29),(30,bR t30)] [(2,[aq w,aq w1,.ro false 3 (.int .i64) w2,.ro false 50 (db) w3,.ro false 114 (fU) w4,.ro false 127 (eh) w5]),(4,[aq t4,aq t41,.own 1000001 none,.own 1000002 none,.own 1000003 none,.own 1000004 none]),(6,[aq r,aq r1,aq r2,aq r3,aq r4,aq r5,.str r6,.own 1000005 none,.str r7,.own 1000006 none,.own 1000007 none,.own 1000008 none,aq r8,.own 1000009 none]),(8,[aq out,aq bg,.own 1000010 none,.own 1000011 none,.own 1000012 none,.own 1000013 none])] [aB 1000000 146 qK xs,aB 1000001 3 (.int .i64) aO,aB 1000002 50 db aY,aB 1000003 114 fU bj,aB 1000004 127 eh bK,aB 1000005 3 (.int .i64) cA,aB 1000006 76 K4 cB,aB 1000007 74 K9 cF,aB 1000008 5 (.int .u8) oN,aB 1000009 146 qK Fw,aB 1000010 3 (.int .i64) BG,aB 1000011 50 db AG,aB 1000012 114 fU BH,aB 1000013 127 eh NK]
def MF (t5 t4 t41:Int)(t42:List Int)(t43:List bz)(t44:List cU)(t45:List cE):= er 67 [cS 4,(5,bR t5)] [(4,[aq t4,aq t41,.ro false 3 (.int .i64) t42,.ro false 50 (db) t43,.ro false 114 (fU) t44,.ro false 127 (eh) t45])] []
def wS (a w w1:Int)(w2:List Int)(w3:List bz)(w4:List cU)(w5:List cE)(t4 t41 r r1 r2 r3 r4 r5:Int)(r6 r7:ByteArray)(r8 out bg:Int)(xs:List lL)(aO:List Int)(aY:List bz)(bj:List cU)(bK:List cE)(cA:List Int)(cB:List D4)(cF:List D9)(oN:List Int)(Fw:List lL)(BG:List Int)(AG:List bz)(BH:List cU)(NK:List cE):= er 67 [(1,bR a),cS 2,cS 4,cS 6,(7,.v (.c (.own 1000000 none))),cS 8] [(2,[aq w,aq w1,.ro false 3 (.int .i64) w2,.ro false 50 (db) w3,.ro false 114 (fU) w4,.ro false 127 (eh) w5]),(4,[aq t4,aq t41,.own 1000001 none,.own 1000002 none,.own 1000003 none,.own 1000004 none]),(6,[aq r,aq r1,aq r2,aq r3,aq r4,aq r5,.str r6,.own 1000005 none,.str r7,.own 1000006 none,.own 1000007 none,.own 1000008 none,aq r8,.own 1000009 none]),(8,[aq out,aq bg,.own 1000010 none,.own 1000011 none,.own 1000012 none,.own 1000013 none])] [aB 1000000 146 qK xs,aB 1000001 3 (.int .i64) aO,aB 1000002 50 db aY,aB 1000003 114 fU bj,aB 1000004 127 eh bK,aB 1000005 3 (.int .i64) cA,aB 1000006 76 K4 cB,aB 1000007 74 K9 cF,aB 1000008 5 (.int .u8) oN,aB 1000009 146 qK Fw,aB 1000010 3 (.int .i64) BG,aB 1000011 50 db AG,aB 1000012 114 fU BH,aB 1000013 127 eh NK]
def pa (st:St):Option α:=gW je F jf [.r,.r,.r,.l,.r,.b,.i] f82 κ n st
abbrev adq:List (Ty×Bool):=[(iM,true),(.int .i64,false)]
def gi:=jF je F jf [.r,.r,.r,.l,.r,.b] f82 adq 0
theorem EC (a t29 t30 t38 t39 w w1:Int)(w2:List Int)(w3:List bz)(w4:List cU)(w5:List cE)(t4 t41 r r1 r2 r3 r4 r5:Int)(r6 r7:ByteArray)(r8 out bg:Int)(xs:List lL)(aO:List cE)(aY:List Int)(bj:List bz)(bK:List cU)(cA:List cE)(cB:List Int)(cF:List D4)(oN:List D9)(Fw:List Int)(BG:List lL)(AG:List Int)(BH:List bz)(NK:List cU)(aDH:List cE):vV F κ (n+1) (qv a t29 t30 t38 t39 w w1 w2 w3 w4 w5 t4 t41 r r1 r2 r3 r4 r5 r6 r7 r8 out bg xs aO aY bj bK cA cB cF oN Fw BG AG BH NK aDH)=br (decide (t39<t38)) (ck (cl t39 (aO.length:Int)) ((dK F0 aDH (aP aO t39 eh.aG)).bind fun Qu=>br (!Qu.1) (κ .ret (ME 4 w w1 w2 w3 w4 w5)) (vV F κ n (qv a t29 t30 t38 (aj (t39+1)) w w1 w2 w3 w4 w5 t4 t41 r r1 r2 r3 r4 r5 r6 r7 r8 out bg xs aO aY bj bK cA cB cF oN Fw BG AG BH NK aDH)))) (κ (.exit 2) (Kb a t29 t30 w w1 w2 w3 w4 w5 t4 t41 r r1 r2 r3 r4 r5 r6 r7 r8 out bg xs aY bj bK cA cB cF oN Fw BG AG BH NK aDH)):=by kernel_rfl
theorem ED (a t29 t30 w w1:Int)(w2:List Int)(w3:List bz)(w4:List cU)(w5:List cE)(t4 t41 r r1 r2 r3 r4 r5:Int)(r6 r7:ByteArray)(r8 out bg:Int)(xs:List lL)(aO:List Int)(aY:List bz)(bj:List cU)(bK:List cE)(cA:List Int)(cB:List D4)(cF:List D9)(oN:List Int)(Fw:List lL)(BG:List Int)(AG:List bz)(BH:List cU)(NK:List cE):pa F κ (n+1) (lv a t29 t30 w w1 w2 w3 w4 w5 t4 t41 r r1 r2 r3 r4 r5 r6 r7 r8 out bg xs aO aY bj bK cA cB cF oN Fw BG AG BH NK)=br (decide (t30<t29)) (ck (cl t30 (xs.length:Int)) ((EB F0 a (aP xs t30 qK.aG).2).bind fun Ff=>vV F (qw F κ n) F.n (qv a t29 t30 (Ff.1.length:Int) 0 w w1 w2 w3 w4 w5 t4 t41 r r1 r2 r3 r4 r5 r6 r7 r8 out bg xs Ff.1 aO aY bj bK cA cB cF oN Fw BG AG BH NK))) (κ (.exit 0) (wS a w w1 w2 w3 w4 w5 t4 t41 r r1 r2 r3 r4 r5 r6 r7 r8 out bg xs aO aY bj bK cA cB cF oN Fw BG AG BH NK)):=by kernel_rfl
theorem aaU (t5 t4 t41:Int)(t42:List Int)(t43:List bz)(t44:List cU)(t45:List cE):qw F κ n .ret (ME t5 t4 t41 t42 t43 t44 t45)=κ .ret (MF t5 t4 t41 t42 t43 t44 t45):=by kernel_rfl
theorem XW (a t29 t30 w w1:Int)(w2:List Int)(w3:List bz)(w4:List cU)(w5:List cE)(t4 t41 r r1 r2 r3 r4 r5:Int)(r6 r7:ByteArray)(r8 out bg:Int)(xs:List lL)(aO:List Int)(aY:List bz)(bj:List cU)(bK:List cE)(cA:List Int)(cB:List D4)(cF:List D9)(oN:List Int)(Fw:List lL)(BG:List Int)(AG:List bz)(BH:List cU)(NK:List cE):qw F κ n (.exit 2) (Kb a t29 t30 w w1 w2 w3 w4 w5 t4 t41 r r1 r2 r3 r4 r5 r6 r7 r8 out bg xs aO aY bj bK cA cB cF oN Fw BG AG BH NK)=pa F κ n (lv a t29 (aj (t30+1)) w w1 w2 w3 w4 w5 t4 t41 r r1 r2 r3 r4 r5 r6 r7 r8 out bg xs aO aY bj bK cA cB cF oN Fw BG AG BH NK):=by kernel_rfl
theorem aaV (t5 t4 t41:Int)(t42:List Int)(t43:List bz)(t44:List cU)(t45:List cE):gi F .ret (MF t5 t4 t41 t42 t43 t44 t45)=some (((t4,t41),t42,t43,t44,t45),t5,()):=by kernel_rfl
theorem XX (a w w1:Int)(w2:List Int)(w3:List bz)(w4:List cU)(w5:List cE)(t4 t41 r r1 r2 r3 r4 r5:Int)(r6 r7:ByteArray)(r8 out bg:Int)(xs:List lL)(aO:List Int)(aY:List bz)(bj:List cU)(bK:List cE)(cA:List Int)(cB:List D4)(cF:List D9)(oN:List Int)(Fw:List lL)(BG:List Int)(AG:List bz)(BH:List cU)(NK:List cE):gi F (.exit 0) (wS a w w1 w2 w3 w4 w5 t4 t41 r r1 r2 r3 r4 r5 r6 r7 r8 out bg xs aO aY bj bK cA cB cF oN Fw BG AG BH NK)=br (decide ((aj ((w4.length:Int)+(xs.length:Int)))>60)) (some (((w,w1),w2,w3,w4,w5),4,())) (ck (cl a (AG.length:Int)) ((PC F0 ((out,bg),BG,AG.set a.toNat (r,r1,r2,(r3,r4,(r5,r6,cA),r7),cB,cF,(oN,r8),Fw),BH,NK) xs).bind fun r66=>some (r66.1,0,()))):=by kernel_rfl
def Ds (w:pt)(a:Int):=bF je F jf f82 adq adq 0 (w,a,())
theorem age (w:pt)(a:Int):Ds F w a=ck (cl a (w.2.2.1.length:Int)) ((HQ F0 w.1 (aP w.2.2.1 a db.aG)).bind fun gv=>(Q2 F0 w a gv.2.1).bind fun Bl=>pa F (gi F) F.n (lv a (gv.2.1.length:Int) 0 w.1.1 w.1.2 w.2.1 w.2.2.1 w.2.2.2.1 w.2.2.2.2 0 0 gv.1.1 gv.1.2.1 gv.1.2.2.1 gv.1.2.2.2.1.1 gv.1.2.2.2.1.2.1 gv.1.2.2.2.1.2.2.1.1 gv.1.2.2.2.1.2.2.1.2.1 gv.1.2.2.2.1.2.2.2 gv.1.2.2.2.2.2.2.1.2 Bl.1.1.1 Bl.1.1.2 gv.2.1 [] [] [] [] gv.1.2.2.2.1.2.2.1.2.2 gv.1.2.2.2.2.1 gv.1.2.2.2.2.2.1 gv.1.2.2.2.2.2.2.1.1 gv.1.2.2.2.2.2.2.2 Bl.1.2.1 Bl.1.2.2.1 Bl.1.2.2.2.1 Bl.1.2.2.2.2)):=by kernel_rfl
def MG:Any:=.one ⟨adq,adq,0,fun x=>Ds F0 x.1 x.2.1⟩
theorem agf:bm 82 MG:=aA je ⟨akv,aqU,VM,jd,auF,trivial⟩ func82 jf (by kernel_rfl)
def VS:=[(192,jc)]
def HS (a b:D9):=bF VS F ab f294 xi gX 2 (a,b,())
theorem akB (a b:D9):HS F a b=br (decide (a.1>b.1)) ((iE F0 a).bind fun dA=>some (dA.1,())) ((iE F0 b).bind fun cj=>some (cj.1,())):=by kernel_rfl
def PD:Any:=.one ⟨xi,gX,2,fun x=>HS F0 x.1 x.2.1⟩
theorem akC:bm 294 PD:=aA VS ⟨nk,trivial⟩ func294 ab (by kernel_rfl)
def VT:=[(50,rn),(219,Dg)]
def HT (name:ByteArray):=bF VT F ab f295 ew aB9 1 (name,())
theorem akD (name:ByteArray):HT F name=(rm F0 name).bind fun r9=>br (decide ((r9.1.length:Int)<3)) (some (al,false,())) (ck (cl (aj ((r9.1.length:Int)-1)) (r9.1.length:Int)) (ck (cl (aj ((r9.1.length:Int)-2)) (r9.1.length:Int)) (br ((aP r9.1 (aj ((r9.1.length:Int)-1)) (0,[])).1 != (aj ((aP r9.1 (aj ((r9.1.length:Int)-2)) (0,[])).1+1))) (some (al,false,())) (ck (cl (aj ((r9.1.length:Int)-2)) (r9.1.length:Int)) (ck (cl (aj ((r9.1.length:Int)-3)) (r9.1.length:Int)) (br ((aP r9.1 (aj ((r9.1.length:Int)-2)) (0,[])).1 != (aj ((aP r9.1 (aj ((r9.1.length:Int)-3)) (0,[])).1+1))) (some (al,false,())) ((sN F0 name).bind fun r49=>(sN F0 r49.1).bind fun EY=>some (EY.1,true,())))))))):=by kernel_rfl
def PE:Any:=.one ⟨ew,aB9,1,fun x=>HT F0 x.1⟩
theorem akE:bm 295 PE:=aA VT ⟨Da,Q0,trivial⟩ func295 ab (by kernel_rfl)
def pU (s vW:ByteArray):=bF aF F ab f95 YP aZ 1 (s,vW,())
theorem NL (s vW:ByteArray):pU F s vW=br (decide ((s.size:Int)≥(vW.size:Int))) (ck (RN 0 (vW.size:Int) (s.size:Int)) (some ((s.extract (0:Int).toNat (vW.size:Int).toNat).toList==vW.toList,()))) (some (false,())):=by kernel_rfl
def tI:Any:=.one ⟨YP,aZ,1,fun x=>pU F0 x.1 x.2.1⟩
theorem NM:bm 95 tI:=aA aF trivial func95 ab (by kernel_rfl)
def GC:=[(95,tI)]
def z6 (s vW:ByteArray):=bF GC F ab f49 YP aZ 1 (s,vW,())
theorem VU (s vW:ByteArray):z6 F s vW=(pU F0 s vW).bind fun r7=>some (r7.1,()):=by kernel_rfl
def AX:Any:=.one ⟨YP,aZ,1,fun x=>z6 F0 x.1 x.2.1⟩
theorem VV:bm 49 AX:=aA GC ⟨NM,trivial⟩ func49 ab (by kernel_rfl)
def VW:=[(19,fB),(49,AX)]
def HU (s t:ByteArray):=bF VW F ab f18 YP aZ 1 (s,t,())
theorem akF (s t:ByteArray):HU F s t=(fG F0 s).bind fun r6=>br r6.1 ((fG F0 t).bind fun r9=>br r9.1 ((z6 F0 s t).bind fun lM=>br lM.1 (br ((s.size:Int)==(t.size:Int)) (some (true,())) (ck (cl (t.size:Int) (s.size:Int)) (some ((lN s (t.size:Int))==47,())))) (some (false,()))) (some (false,()))) (some (false,())):=by kernel_rfl
def PF:Any:=.one ⟨YP,aZ,1,fun x=>HU F0 x.1 x.2.1⟩
theorem akG:bm 18 PF:=aA VW ⟨iB,VV,trivial⟩ func18 ab (by kernel_rfl)
def an4:=[(18,PF),(71,eS),(90,kC),(133,lk),(152,jL),(219,Dg),(294,PD),(295,PE)]
def PG (c:D1)(s:TF)(q:D9):=bF an4 F ab f245 aCa AM 2 (c,s,q,())
theorem aw4 (c:D1)(s:TF)(q:D9):PG F c s q=(lS F0 s).bind fun dA=>(ld F0 c s).bind fun lM=>br (!lM.1) (some (dA.1,())) ((mT F0 c q).bind fun dM=>br (!dM.1) (some (dA.1,())) ((HS F0 q s.2.2.1).bind fun xg=>(sN F0 q.2.1).bind fun Ha=>(fa F0 Ha.1).bind fun tW=>(HT F0 q.2.1).bind fun Qs=>br Qs.2.1 ((HU F0 Qs.1 s.2.2.2).bind fun px=>br px.1 (some ((dA.1.1,(if tW.1>s.2.1 then tW.1 else s.2.1,(xg.1,Qs.1))),())) (some ((dA.1.1,(if tW.1>s.2.1 then tW.1 else s.2.1,(xg.1,dA.1.2.2.2))),()))) (some ((dA.1.1,(if tW.1>s.2.1 then tW.1 else s.2.1,(xg.1,dA.1.2.2.2))),())))):=by kernel_rfl
def HV:Any:=.one ⟨aCa,AM,2,fun x=>PG F0 x.1 x.2.1 x.2.2.1⟩
theorem VX:bm 245 HV:=aA an4 ⟨akG,gf,rq,sP,n6,Q0,akC,akE,trivial⟩ func245 ab (by kernel_rfl)
def VY:=[(71,eS),(90,kC),(159,mV)]
def HW (c:D1)(s:TF)(b:D15):=bF VY F ab f296 ahZ aZ 1 (c,s,b,())
theorem akH (c:D1)(s:TF)(b:D15):HW F c s b=(ld F0 c s).bind fun r9=>br r9.1 ((n8 F0 c b).bind fun cj=>br cj.1 ((fa F0 b.1).bind fun QO=>br (decide (QO.1>s.1)) (some (decide (b.2.1≥s.2.1),())) (some (false,()))) (some (false,()))) (some (false,())):=by kernel_rfl
def PH:Any:=.one ⟨ahZ,aZ,1,fun x=>HW F0 x.1 x.2.1 x.2.2.1⟩
theorem akI:bm 296 PH:=aA VY ⟨gf,rq,vM,trivial⟩ func296 ab (by kernel_rfl)
def aii:=[(71,eS),(133,lk),(296,PH)]
def Xb (c:D1)(s:TF)(b:D15):=bF aii F ab f246 ahZ ah1 2 (c,s,b,())
theorem auG (c:D1)(s:TF)(b:D15):Xb F c s b=(lS F0 s).bind fun hY=>(HW F0 c s b).bind fun lM=>br (!lM.1) (some (hY.1,false,())) ((fa F0 b.1).bind fun dM=>some ((dM.1,hY.1.2),true,())):=by kernel_rfl
def Zx:Any:=.one ⟨ahZ,ah1,2,fun x=>Xb F0 x.1 x.2.1 x.2.2.1⟩
theorem auH:bm 246 Zx:=aA aii ⟨gf,sP,akI,trivial⟩ func246 ab (by kernel_rfl)
def Tb:=[(46,kB)]
def pJ (a b:TF):=bF Tb F ab f15 aCb aZ 1 (a,b,())
theorem agh (a b:TF):pJ F a b=br (a.1==b.1) (br (a.2.1==b.2.1) ((jJ F0 a.2.2.1 b.2.2.1).bind fun gr=>br gr.1 (some (a.2.2.2.toList==b.2.2.2.toList,())) (some (false,()))) (some (false,()))) (some (false,())):=by kernel_rfl
def qx:Any:=.one ⟨aCb,aZ,1,fun x=>pJ F0 x.1 x.2.1⟩
theorem BX:bm 15 qx:=aA Tb ⟨rk,trivial⟩ func15 ab (by kernel_rfl)
def PI:=[(90,kC),(206,s5),(207,BW),(208,s7)]
def z7 (c:D1)(s:TF):=bF PI F ab f329 RZ mn 2 (c,s,())
theorem adr (c:D1)(s:TF):z7 F c s=(ld F0 c s).bind fun r8=>br (!r8.1) (some ([],())) ((lu F0 [s.1,s.2.1]).bind fun py=>(s9 F0 c s.2.2.1).bind fun dM=>ck (fg F py.1.length dM.1.length 1) ((oA F0 s.2.2.2).bind fun r24=>ck (fg F (py.1++dM.1).length r24.1.length 1) (some ((py.1++dM.1)++r24.1,())))):=by kernel_rfl
def Kc:Any:=.one ⟨RZ,mn,2,fun x=>z7 F0 x.1 x.2.1⟩
theorem ads:bm 329 Kc:=aA PI ⟨rq,FI,S9,FJ,trivial⟩ func329 ab (by kernel_rfl)
def PJ:=[(151,jb),(329,Kc)]
def z8 (c:D1)(s:TF):=bF PJ F ab f298 RZ mn 2 (c,s,())
theorem adt (c:D1)(s:TF):z8 F c s=(z7 F0 c s).bind fun r8=>br ((r8.1.length:Int)==0) (some ([],())) ((fH F0 (r8.1.length:Int)).bind fun lM=>ck (fg F lM.1.length r8.1.length 1) (ck (fg F (lM.1++r8.1).length [10].length 1) (some ((lM.1++r8.1)++[10],())))):=by kernel_rfl
def Kd:Any:=.one ⟨RZ,mn,2,fun x=>z8 F0 x.1 x.2.1⟩
theorem adu:bm 298 Kd:=aA PJ ⟨mX,ads,trivial⟩ func298 ab (by kernel_rfl)
def Zy:=[(41,ll),(42,o7)]
def MH (d:D14)(b:List Int):=bF Zy F ab f297 aCc aCd 2 (d,b,())
theorem an5 (d:D14)(b:List Int):MH F d b=(lT F0 d).bind fun r8=>(rv F0 d).bind fun hY=>br (!hY.1) (some (r8.1,false,())) (br (decide ((aj ((d.1.length:Int)+(b.length:Int)))>100000)) (some (r8.1,false,())) (ck (fg F r8.1.1.length b.length 1) (some ((r8.1.1++b,r8.1.2),true,())))):=by kernel_rfl
def Tc:Any:=.one ⟨aCc,aCd,2,fun x=>MH F0 x.1 x.2.1⟩
theorem an6:bm 297 Tc:=aA Zy ⟨sU,zH,trivial⟩ func297 ab (by kernel_rfl)
def adv:=[(15,qx),(47,cC),(79,b8),(133,lk),(297,Tc),(298,Kd)]
abbrev aF4:List (Ty×Bool):=[(K1,true),(db,true),(K12,true)]
def wT (c:D1)(r:bz)(s:TF):=bF adv F ab f247 aF4 hZ 2 (c,r,s,())
theorem aqV (c:D1)(r:bz)(s:TF):wT F c r s=(aE F0 r).bind fun cN=>(c8 F0 c r).bind fun py=>br (!py.1) (some (cN.1,false,())) ((pJ F0 s r.2.2.2.1).bind fun gv=>br gv.1 (some (cN.1,true,())) ((z8 F0 c s).bind fun UE=>(MH F0 r.2.2.2.2.2.2.1 UE.1).bind fun Ou=>(lS F0 s).bind fun tW=>br (!Ou.2.1) ((aE F0 r).bind fun Qu=>some (Qu.1,false,())) ((c8 F0 c (cN.1.1,cN.1.2.1,cN.1.2.2.1,tW.1,cN.1.2.2.2.2.1,cN.1.2.2.2.2.2.1,Ou.1,cN.1.2.2.2.2.2.2.2)).bind fun r42=>br (!r42.1) ((aE F0 r).bind fun Qu=>some (Qu.1,false,())) (some ((cN.1.1,cN.1.2.1,cN.1.2.2.1,tW.1,cN.1.2.2.2.2.1,cN.1.2.2.2.2.2.1,Ou.1,cN.1.2.2.2.2.2.2.2),true,()))))):=by kernel_rfl
def Aa:Any:=.one ⟨aF4,hZ,2,fun x=>wT F0 x.1 x.2.1 x.2.2.1⟩
theorem NN:bm 247 Aa:=aA adv ⟨BX,da,cL,sP,an6,adu,trivial⟩ func247 ab (by kernel_rfl)
def Zz:=[(31,gd),(40,dX),(348,ub),(350,AK)]
def EE (s:List Int)(i:Int):=bF Zz F ab f333 ajG kp 2 (s,i,())
theorem an7 (s:List Int)(i:Int):EE F s i=(eb F0 s i).bind fun r8=>br r8.1 ((eR F0 s).bind fun hY=>some (hY.1,())) (br (decide ((qL (fun e_=>geP e_ i) s 0)<0)) ((eR F0 s).bind fun dM=>ck (ahH (s.length:Int) dM.1.length [i].length) (some (dM.1.take (s.length:Int).toNat++[i]++dM.1.drop (s.length:Int).toNat,()))) ((eR F0 s).bind fun dM=>ck (ahH (qL (fun e_=>geP e_ i) s 0) dM.1.length [i].length) (some (dM.1.take (qL (fun e_=>geP e_ i) s 0).toNat++[i]++dM.1.drop (qL (fun e_=>geP e_ i) s 0).toNat,())))):=by kernel_rfl
def Td:Any:=.one ⟨ajG,kp,2,fun x=>EE F0 x.1 x.2.1⟩
theorem an8:bm 333 Td:=aA Zz ⟨jR,fu,Oj,Ux,trivial⟩ func333 ab (by kernel_rfl)
def np:=[(333,Td)]
def nq:Nat→Option Hint:=look [(3,{live:=[1,5,10,11,12],mat:=[(5,3,.int .i64)],xl:=[1,5],rl:=[4]}),(8,{live:=[5,20,21,22],xl:=[5],rl:=[4]})]
def ta (t20:List Int)(t21 t22:Int)(xs:List Int):= er 31 [(5,.v (.c (.own 1000000 none))),(20,jO 3 (.int .i64) t20),(21,bR t21),(22,bR t22)] [] [aB 1000000 3 (.int .i64) xs]
def MI (xs:List Int):= er 31 [(5,.v (.c (.own 1000000 none)))] [] [aB 1000000 3 (.int .i64) xs]
def Ab (st:St):Option α:=gW np F nq [.r,.r,.r,.l,.r,.b,.i] f306 κ n st
def BY:=jF np F nq [.r,.r,.r,.l,.r,.b] f306 kp 2
def td (b t10:List Int)(t11 t12:Int)(xs:List Int):= er 31 [(1,jO 3 (.int .i64) b),(5,.v (.c (.own 1000000 none))),(10,jO 3 (.int .i64) t10),(11,bR t11),(12,bR t12)] [] [aB 1000000 3 (.int .i64) xs]
def MJ (b xs:List Int):= er 31 [(1,jO 3 (.int .i64) b),(5,.v (.c (.own 1000000 none)))] [] [aB 1000000 3 (.int .i64) xs]
def Ac (st:St):Option α:=gW np F nq [.r,.r,.l,.r,.b,.i] f306 κ n st
def BZ:=jF np F nq [.r,.r,.l,.r,.b] f306 kp 2
theorem GD (t20:List Int)(t21 t22:Int)(xs:List Int):Ab F κ (n+1) (ta t20 t21 t22 xs)=br (decide (t22<t21)) (ck (cl t22 (t20.length:Int)) ((EE F0 xs (aP t20 t22 0)).bind fun UE=>Ab F κ n (ta t20 t21 (aj (t22+1)) UE.1))) (κ (.exit 2) (MI xs)):=by kernel_rfl
theorem GF (b t10:List Int)(t11 t12:Int)(xs:List Int):Ac F κ (n+1) (td b t10 t11 t12 xs)=br (decide (t12<t11)) (ck (cl t12 (t10.length:Int)) ((EE F0 xs (aP t10 t12 0)).bind fun QO=>Ac F κ n (td b t10 t11 (aj (t12+1)) QO.1))) (κ (.exit 0) (MJ b xs)):=by kernel_rfl
theorem aaW (xs:List Int):BY F (.exit 2) (MI xs)=some (xs,()):=by kernel_rfl
theorem aaX (b xs:List Int):BZ F (.exit 0) (MJ b xs)=Ab F (BY F) F.n (ta b (b.length:Int) 0 xs):=by kernel_rfl
def HX (a b:List Int):=bF np F nq f306 ajj kp 2 (a,b,())
theorem akJ (a b:List Int):HX F a b=Ac F (BZ F) F.n (td b a (a.length:Int) 0 []):=by kernel_rfl
def PK:Any:=.one ⟨ajj,kp,2,fun x=>HX F0 x.1 x.2.1⟩
theorem akK:bm 306 PK:=aA np ⟨an8,trivial⟩ func306 nq (by kernel_rfl)
def Te:=[(306,PK)]
def Dt (a b:D9):=bF Te F ab f258 xi ah2 2 (a,b,())
theorem agi (a b:D9):Dt F a b=br (a.1 != b.1) (some ((0,al,[]),false,())) (br (!(a.2.1.toList==b.2.1.toList)) (some ((0,al,[]),false,())) ((HX F0 a.2.2 b.2.2).bind fun Bl=>some ((a.1,a.2.1,Bl.1),true,()))):=by kernel_rfl
def MK:Any:=.one ⟨xi,ah2,2,fun x=>Dt F0 x.1 x.2.1⟩
theorem agj:bm 258 MK:=aA Te ⟨akK,trivial⟩ func258 ab (by kernel_rfl)
def vX:=[(93,BL),(135,wO),(155,o6),(156,pS),(193,iQ),(258,MK),(259,ya)]
def vY:Nat→Option Hint:=look [(5,{live:=[1,3,5,8,9],xl:=[1,3,5,8,9],rl:=[6,7]})]
def qy (list:List D9)(k c c1 p:Int)(p1:ByteArray)(p2:List Int)(xs:List D9):= er 71 [(1,jO 74 (K9) list),cS 3,cS 5,(8,.v (.c (.own 1000000 none))),(9,bR k)] [(3,[aq c,aq c1]),(5,[aq p,.str p1,.ro false 3 (.int .i64) p2])] [aB 1000000 74 K9 xs]
def oB (list:List D9)(k c c1 p:Int)(p1:ByteArray)(p2:List Int)(xs:List D9):= er 71 [(1,jO 74 (K9) list),cS 3,cS 5,(8,.v (.c (.own 1000000 none))),(9,bR k)] [(3,[aq c,aq c1]),(5,[aq p,.str p1,.ro false 3 (.int .i64) p2])] [aB 1000000 74 K9 xs]
def vZ (st:St):Option α:=gW vX F vY [.r,.r,.r,.r,.l,.b,.i] f212 κ n st
def qz:=jF vX F vY [.r,.r,.r,.r,.l,.b] f212 ash 2
theorem EF (list:List D9)(k c c1 p:Int)(p1:ByteArray)(p2:List Int)(xs:List D9):vZ F κ (n+1) (qy list k c c1 p p1 p2 xs)=br (decide (k<(xs.length:Int))) (ck (cl k (xs.length:Int)) ((gh F0 (aP xs k K9.aG) (p,p1,p2)).bind fun UE=>br (decide (UE.1<0)) (vZ F κ n (qy list (aj (k+1)) c c1 p p1 p2 xs)) (κ (.exit 0) (oB list k c c1 p p1 p2 xs)))) (κ (.exit 0) (oB list k c c1 p p1 p2 xs)):=by kernel_rfl
theorem XY (list:List D9)(k c c1 p:Int)(p1:ByteArray)(p2:List Int)(xs:List D9):qz F (.exit 0) (oB list k c c1 p p1 p2 xs)=br (decide (k<(xs.length:Int))) (ck (cl k (xs.length:Int)) ((gh F0 (aP xs k K9.aG) (p,p1,p2)).bind fun Qt=>br (Qt.1==0) (ck (cl k (xs.length:Int)) ((Dt F0 (aP xs k K9.aG) (p,p1,p2)).bind fun W3=>ck (cl k (xs.length:Int)) ((lg F0 (c,c1) (xs.set k.toNat W3.1)).bind fun r66=>br (!r66.1) ((fq F0 list).bind fun r69=>some (r69.1,false,())) (some (xs.set k.toNat W3.1,true,()))))) ((fQ F0 (p,p1,p2)).bind fun Ix=>ck (ahH k xs.length [Ix.1].length) ((lg F0 (c,c1) (xs.take k.toNat++[Ix.1]++xs.drop k.toNat)).bind fun r66=>br (!r66.1) ((fq F0 list).bind fun r69=>some (r69.1,false,())) (some (xs.take k.toNat++[Ix.1]++xs.drop k.toNat,true,())))))) ((fQ F0 (p,p1,p2)).bind fun Ix=>ck (ahH k xs.length [Ix.1].length) ((lg F0 (c,c1) (xs.take k.toNat++[Ix.1]++xs.drop k.toNat)).bind fun r66=>br (!r66.1) ((fq F0 list).bind fun r69=>some (r69.1,false,())) (some (xs.take k.toNat++[Ix.1]++xs.drop k.toNat,true,())))):=by kernel_rfl
def fv (c:D1)(list:D13)(p:D9):=bF vX F vY f212 aCe ash 2 (c,list,p,())
theorem agk (c:D1)(list:D13)(p:D9):fv F c list p=(rr F0 c p).bind fun cN=>br (!cN.1) ((fq F0 list).bind fun py=>some (py.1,false,())) ((fq F0 list).bind fun fh=>vZ F (qz F) F.n (qy list 0 c.1 c.2 p.1 p.2.1 p.2.2 fh.1)):=by kernel_rfl
def lx:Any:=.one ⟨aCe,ash,2,fun x=>fv F0 x.1 x.2.1 x.2.2.1⟩
theorem te:bm 212 lx:=aA vX ⟨SW,Mw,zD,Ez,nm,agj,TE,trivial⟩ func212 vY (by kernel_rfl)
def v7:=[(193,iQ)]
def v8:Nat→Option Hint:=look [(2,{live:=[1,2,6,9,10,11],xY:=[(6,2,3,.int .i64)],xl:=[1,2,6],rl:=[6]})]
def ly (view:Int)(name:ByteArray)(t9:List D9)(t10 t11 t6:Int)(t61:ByteArray)(xs:List Int):= er 31 [(1,bR view),(2,Yl name),cS 6,(9,jO 74 (K9) t9),(10,bR t10),(11,bR t11)] [(6,[aq t6,.str t61,.own 1000000 none])] [aB 1000000 3 (.int .i64) xs]
def ML (t6:Int)(t61:ByteArray)(xs:List Int):= er 31 [cS 6] [(6,[aq t6,.str t61,.own 1000000 none])] [aB 1000000 3 (.int .i64) xs]
def Ke (view:Int)(name:ByteArray)(t6:Int)(t61:ByteArray)(xs:List Int):= er 31 [(1,bR view),(2,Yl name),cS 6] [(6,[aq t6,.str t61,.own 1000000 none])] [aB 1000000 3 (.int .i64) xs]
def pb (st:St):Option α:=gW v7 F v8 [.r,.l,.r,.b,.i] f252 κ n st
def qA:=jF v7 F v8 [.r,.l,.r,.b] f252 gX 2
theorem EG (view:Int)(name:ByteArray)(t9:List D9)(t10 t11 t6:Int)(t61:ByteArray)(xs:List Int):pb F κ (n+1) (ly view name t9 t10 t11 t6 t61 xs)=br (decide (t11<t10)) (ck (cl t11 (t9.length:Int)) (br ((aP t9 t11 K9.aG).1==view) (br ((aP t9 t11 K9.aG).2.1.toList==name.toList) ((fQ F0 (aP t9 t11 K9.aG)).bind fun xg=>κ .ret (ML xg.1.1 xg.1.2.1 xg.1.2.2)) (pb F κ n (ly view name t9 t10 (aj (t11+1)) t6 t61 xs))) (pb F κ n (ly view name t9 t10 (aj (t11+1)) t6 t61 xs)))) (κ (.exit 0) (Ke view name t6 t61 xs)):=by kernel_rfl
theorem aaY (t6:Int)(t61:ByteArray)(xs:List Int):qA F .ret (ML t6 t61 xs)=some ((t6,t61,xs),()):=by kernel_rfl
theorem XZ (view:Int)(name:ByteArray)(t6:Int)(t61:ByteArray)(xs:List Int):qA F (.exit 0) (Ke view name t6 t61 xs)=some ((view,name,[]),()):=by kernel_rfl
def uz (list:D13)(view:Int)(name:ByteArray):=bF v7 F v8 f252 aB3 gX 2 (list,view,name,())
theorem agl (list:D13)(view:Int)(name:ByteArray):uz F list view name=pb F (qA F) F.n (ly view name list (list.length:Int) 0 0 al []):=by kernel_rfl
def Ad:Any:=.one ⟨aB3,gX,2,fun x=>uz F0 x.1 x.2.1 x.2.2.1⟩
theorem PL:bm 252 Ad:=aA v7 ⟨nm,trivial⟩ func252 v8 (by kernel_rfl)
def aij:=[(32,dx)]
def tf (c:D1)(view:Int):=bF aij F ab f204 ahT dD 1 (c,view,())
theorem auI (c:D1)(view:Int):tf F c view=(e9 F0 c).bind fun r6=>br (!r6.1) (some (-1,())) (br (decide (view<0)) (some (-1,())) (ck (!(c.1==0)) (some (Int.tmod view c.1,())))):=by kernel_rfl
def lV:Any:=.one ⟨ahT,dD,1,fun x=>tf F0 x.1 x.2.1⟩
theorem tg:bm 204 lV:=aA aij ⟨eI,trivial⟩ func204 ab (by kernel_rfl)
def ZA:=[(152,jL),(192,jc)]
def EH (c:D1)(p:D9):=bF ZA F ab f253 FW ah2 2 (c,p,())
theorem an9 (c:D1)(p:D9):EH F c p=(iE F0 p).bind fun lM=>(mT F0 c lM.1).bind fun fh=>br (!fh.1) (some ((0,al,[]),false,())) (br (lM.1.1==0) (some ((0,al,[]),false,())) (some (lM.1,true,()))):=by kernel_rfl
def Tf:Any:=.one ⟨FW,ah2,2,fun x=>EH F0 x.1 x.2.1⟩
theorem aoa:bm 253 Tf:=aA ZA ⟨n6,nk,trivial⟩ func253 ab (by kernel_rfl)
def aik:=[(47,cC),(79,b8),(194,BU)]
def nr (c:D1)(r:bz)(tX:Int)(m:NA):=bF aik F ab f213 aCf hZ 2 (c,r,tX,m,())
theorem auJ (c:D1)(r:bz)(tX:Int)(m:NA):nr F c r tX m=(aE F0 r).bind fun cN=>(zQ F0 m).bind fun fh=>ck (fg F cN.1.2.2.2.2.2.2.2.length [(tX,fh.1)].length 224) ((c8 F0 c (cN.1.1,cN.1.2.1,cN.1.2.2.1,cN.1.2.2.2.1,cN.1.2.2.2.2.1,cN.1.2.2.2.2.2.1,cN.1.2.2.2.2.2.2.1,cN.1.2.2.2.2.2.2.2++[(tX,fh.1)])).bind fun r24=>br (!r24.1) ((aE F0 r).bind fun Bl=>some (Bl.1,false,())) (some ((cN.1.1,cN.1.2.1,cN.1.2.2.1,cN.1.2.2.2.1,cN.1.2.2.2.2.1,cN.1.2.2.2.2.2.1,cN.1.2.2.2.2.2.2.1,cN.1.2.2.2.2.2.2.2++[(tX,fh.1)]),true,()))):=by kernel_rfl
def uA:Any:=.one ⟨aCf,hZ,2,fun x=>nr F0 x.1 x.2.1 x.2.2.1 x.2.2.2.1⟩
theorem HY:bm 213 uA:=aA aik ⟨da,cL,S5,trivial⟩ func213 ab (by kernel_rfl)
def adw:=[(204,lV),(213,uA),(245,HV),(247,Aa)]
def Kf (c:D1)(r:bz)(q:D9):=bF adw F ab f254 ah3 hZ 0 (c,r,q,())
theorem aqW (c:D1)(r:bz)(q:D9):Kf F c r q=(PG F0 c r.2.2.2.1 q).bind fun dM=>(wT F0 c r dM.1).bind fun DY=>br (!DY.2.1) (some (r,false,())) (br (decide ((aj (q.1+1))>60)) (some (DY.1,true,())) ((tf F0 c (aj (q.1+1))).bind fun Qs=>br (Qs.1 != r.1) ((nr F0 c (DY.1.1,(if (aj (q.1+1))>DY.1.2.1 then (aj (q.1+1)) else DY.1.2.1,DY.1.2.2)) Qs.1 (3,aj (q.1+1),(al,0,al,[]),(0,al,[]),q,r.1,0,0,0,0)).bind fun r52=>some (r52.1,r52.2.1,())) (some ((DY.1.1,(if (aj (q.1+1))>DY.1.2.1 then (aj (q.1+1)) else DY.1.2.1,DY.1.2.2)),true,())))):=by kernel_rfl
def VZ:Any:=.one ⟨ah3,hZ,0,fun x=>Kf F0 x.1 x.2.1 x.2.2.1⟩
theorem aqX:bm 254 VZ:=aA adw ⟨tg,HY,VX,NN,trivial⟩ func254 ab (by kernel_rfl)
def ail:=[(32,dx),(67,bL)]
def IA (c:D1)(view i:Int):=bF ail F ab f303 OY dD 1 (c,view,i,())
theorem auK (c:D1)(view i:Int):IA F c view i=(e9 F0 c).bind fun r8=>br (!r8.1) (some (-1,())) (br (decide (view<0)) (some (-1,())) ((bd F0 i 0 (aj (c.1-1))).bind fun dM=>br (!dM.1) (some (-1,())) (ck (!(c.1==0)) (ck (!(c.1==0)) (some (Int.tmod (aj ((aj (i-(Int.tmod view c.1)))+c.1)) c.1,())))))):=by kernel_rfl
def Du:Any:=.one ⟨OY,dD,1,fun x=>IA F0 x.1 x.2.1 x.2.2.1⟩
theorem Q3:bm 303 Du:=aA ail ⟨eI,cm,trivial⟩ func303 ab (by kernel_rfl)
def aim:=[(32,dx),(67,bL)]
def Xc (c:D1)(view am7:Int):=bF aim F ab f305 OY dD 1 (c,view,am7,())
theorem auL (c:D1)(view am7:Int):Xc F c view am7=(e9 F0 c).bind fun r8=>br (!r8.1) (some (-1,())) (br (decide (view<0)) (some (-1,())) ((bd F0 am7 0 (aj (c.1-1))).bind fun dM=>br (!dM.1) (some (-1,())) (ck (!(c.1==0)) (ck (!(c.1==0)) (some (Int.tmod (aj ((Int.tmod view c.1)+am7)) c.1,())))))):=by kernel_rfl
def ZB:Any:=.one ⟨OY,dD,1,fun x=>Xc F0 x.1 x.2.1 x.2.2.1⟩
theorem auM:bm 305 ZB:=aA aim ⟨eI,cm,trivial⟩ func305 ab (by kernel_rfl)
def asm:=[(303,Du),(305,ZB)]
def Xd (c:D1)(view i:Int):=bF asm F ab f257 OY dD 1 (c,view,i,())
theorem azM (c:D1)(view i:Int):Xd F c view i=(IA F0 c view i).bind fun dA=>br (decide (dA.1<1)) (some (-1,())) (ck (!(c.2==0)) ((Xc F0 c view (aj (Int.tdiv (aj (dA.1-1)) c.2))).bind fun gv=>some (gv.1,()))):=by kernel_rfl
def V0:Any:=.one ⟨OY,dD,1,fun x=>Xd F0 x.1 x.2.1 x.2.2.1⟩
theorem aob:bm 257 V0:=aA asm ⟨Q3,auM,trivial⟩ func257 ab (by kernel_rfl)
end
end Go.Am.Tryz
namespace Go.Am.Tryz
open Go.Am Go.Proofs Go.Proofs.Tryz
noncomputable section
variable {α:Type} (F:rQ) (κ:Ex→St→Option α) (n:Nat)
def Q4:=[(257,V0),(303,Du)]
def Q5:Nat→Option Hint:=look [(2,{live:=[1,2,3,7],mat:=[(7,3,.int .i64)],xl:=[7],rl:=[6]})]
def HZ (view i c c1:Int)(xs:List Int):= er 22 [(1,bR view),(2,bR i),cS 3,(7,.v (.c (.own 1000000 none)))] [(3,[aq c,aq c1])] [aB 1000000 3 (.int .i64) xs]
def NO (xs:List Int):= er 22 [(7,.v (.c (.own 1000000 none)))] [] [aB 1000000 3 (.int .i64) xs]
def Q6 (st:St):Option α:=gW Q4 F Q5 [.r,.r,.l,.b,.i] f304 κ n st
def adx:=jF Q4 F Q5 [.r,.r,.l,.b] f304 kp 2
theorem Tg (view i c c1:Int)(xs:List Int):Q6 F κ (n+1) (HZ view i c c1 xs)=(IA F0 (c,c1) view i).bind fun dA=>br (decide (dA.1≥0)) (ck (fg F xs.length [i].length 8) ((Xd F0 (c,c1) view i).bind fun oM=>Q6 F κ n (HZ view oM.1 c c1 (xs++[i])))) (κ (.exit 0) (NO xs)):=by kernel_rfl
theorem aoc (xs:List Int):adx F (.exit 0) (NO xs)=some (xs,()):=by kernel_rfl
def ady (c:D1)(view i:Int):=bF Q4 F Q5 f304 OY kp 2 (c,view,i,())
theorem aw5 (c:D1)(view i:Int):ady F c view i=Q6 F (adx F) F.n (HZ view i c.1 c.2 []):=by kernel_rfl
def adz:Any:=.one ⟨OY,kp,2,fun x=>ady F0 x.1 x.2.1 x.2.2.1⟩
theorem aw6:bm 304 adz:=aA Q4 ⟨aob,Q3,trivial⟩ func304 Q5 (by kernel_rfl)
def H0:=[(40,dX),(303,Du),(304,adz)]
def H2:Nat→Option Hint:=look [(3,{live:=[1,2,3,7,8],mat:=[(7,3,.int .i64)],xl:=[7],rl:=[6]})]
def rF (view i k c c1:Int)(xs:List Int):= er 33 [(1,bR view),(2,bR i),cS 3,(7,.v (.c (.own 1000000 none))),(8,bR k)] [(3,[aq c,aq c1])] [aB 1000000 3 (.int .i64) xs]
def FK (xs:List Int):= er 33 [(7,.v (.c (.own 1000000 none)))] [] [aB 1000000 3 (.int .i64) xs]
def Ae (st:St):Option α:=gW H0 F H2 [.r,.r,.l,.r,.b,.i] f255 κ n st
def Kg:=jF H0 F H2 [.r,.r,.l,.r,.b] f255 kp 2
theorem Af (view i k c c1:Int)(xs:List Int):Ae F κ (n+1) (rF view i k c c1 xs)=(IA F0 (c,c1) view i).bind fun cN=>br (decide (cN.1≥0)) (br (decide (k<c)) ((ady F0 (c,c1) view k).bind fun XQ=>(eb F0 XQ.1 i).bind fun Bl=>br Bl.1 (ck (fg F xs.length [k].length 8) (Ae F κ n (rF view i (aj (k+1)) c c1 (xs++[k])))) (Ae F κ n (rF view i (aj (k+1)) c c1 xs))) (κ (.exit 0) (FK xs))) (κ (.exit 0) (FK xs)):=by kernel_rfl
theorem PN (xs:List Int):Kg F (.exit 0) (FK xs)=some (xs,()):=by kernel_rfl
def Q7 (c:D1)(view i:Int):=bF H0 F H2 f255 OY kp 2 (c,view,i,())
theorem aqY (c:D1)(view i:Int):Q7 F c view i=Ae F (Kg F) F.n (rF view i 0 c.1 c.2 []):=by kernel_rfl
def V1:Any:=.one ⟨OY,kp,2,fun x=>Q7 F0 x.1 x.2.1 x.2.2.1⟩
theorem aqZ:bm 255 V1:=aA H0 ⟨fu,Q3,aw6,trivial⟩ func255 H2 (by kernel_rfl)
def Dv:=[(40,dX)]
def Dw:Nat→Option Hint:=look [(3,{live:=[1,5,8,9,10],xl:=[5],rl:=[4]})]
def pc (b:List Int)(n1:Int)(t8:List Int)(t9 t10:Int):= cV 21 [(1,jO 3 (.int .i64) b),(5,bR n1),(8,jO 3 (.int .i64) t8),(9,bR t9),(10,bR t10)]
def PO (n1:Int):= cV 21 [(5,bR n1)]
def uB (st:St):Option α:=gW Dv F Dw [.r,.r,.l,.r,.b,.i] f256 κ n st
def FL:=jF Dv F Dw [.r,.r,.l,.r,.b] f256 dD 1
theorem Kh (b:List Int)(n1:Int)(t8:List Int)(t9 t10:Int):uB F κ (n+1) (pc b n1 t8 t9 t10)=br (decide (t10<t9)) (ck (cl t10 (t8.length:Int)) ((eb F0 b (aP t8 t10 0)).bind fun oM=>br oM.1 (uB F κ n (pc b (aj (n1+1)) t8 t9 (aj (t10+1)))) (uB F κ n (pc b n1 t8 t9 (aj (t10+1)))))) (κ (.exit 0) (PO n1)):=by kernel_rfl
theorem adA (n1:Int):FL F (.exit 0) (PO n1)=some (n1,()):=by kernel_rfl
def MM (a b:List Int):=bF Dv F Dw f256 ajj dD 1 (a,b,())
theorem aod (a b:List Int):MM F a b=uB F (FL F) F.n (pc b 0 a (a.length:Int) 0):=by kernel_rfl
def Th:Any:=.one ⟨ajj,dD,1,fun x=>MM F0 x.1 x.2.1⟩
theorem aoe:bm 256 Th:=aA Dv ⟨fu,trivial⟩ func256 Dw (by kernel_rfl)
def adB:=[(47,cC),(79,b8),(204,lV),(213,uA),(252,Ad),(253,Tf),(254,VZ),(255,V1),(256,Th),(257,V0)]
def oC (c:D1)(r:bz)(view:Int)(name:ByteArray)(push:Bool):=bF adB F ab f211 asj hZ 0 (c,r,view,name,push,())
theorem aq0 (c:D1)(r:bz)(view:Int)(name:ByteArray)(push:Bool):oC F c r view name push=(uz F0 r.2.2.2.2.2.1 view name).bind fun gv=>br ((gv.1.2.2.length:Int)==0) ((aE F0 r).bind fun Ff=>some (Ff.1,false,())) ((c8 F0 c r).bind fun Ou=>br (!Ou.1) ((aE F0 r).bind fun Ff=>some (Ff.1,false,())) (br (name.toList==al.toList) ((aE F0 r).bind fun Ff=>some (Ff.1,false,())) ((tf F0 c view).bind fun xm=>br (xm.1==r.1) ((EH F0 c gv.1).bind fun px=>br (!px.2.1) ((aE F0 r).bind fun Yt=>some (Yt.1,false,())) ((Kf F0 c r px.1).bind fun r58=>br (!r58.2.1) ((aE F0 r).bind fun r64=>some (r64.1,false,())) (some (r58.1,true,())))) ((Q7 F0 c view r.1).bind fun r70=>br (!push) ((MM F0 r70.1 gv.1.2.2).bind fun r77=>br (decide (r77.1<(r70.1.length:Int))) ((aE F0 r).bind fun r83=>some (r83.1,false,())) ((Xd F0 c view r.1).bind fun r90=>(nr F0 c r r90.1 (2,0,(al,0,al,[]),gv.1,(0,al,[]),0,0,0,0,0)).bind fun r93=>some (r93.1,r93.2.1,()))) ((Xd F0 c view r.1).bind fun r90=>(nr F0 c r r90.1 (2,0,(al,0,al,[]),gv.1,(0,al,[]),0,0,0,0,0)).bind fun r93=>some (r93.1,r93.2.1,())))))):=by kernel_rfl
def Ag:Any:=.one ⟨asj,hZ,0,fun x=>oC F0 x.1 x.2.1 x.2.2.1 x.2.2.2.1 x.2.2.2.2.1⟩
theorem NP:bm 211 Ag:=aA adB ⟨da,cL,tg,HY,PL,aoa,aqX,aqZ,aoe,aob,trivial⟩ func211 ab (by kernel_rfl)
def PQ:=[(47,cC),(71,eS),(79,b8),(159,mV),(211,Ag),(212,lx),(245,HV),(246,Zx),(247,Aa)]
def rG (c:D1)(r:bz)(b:D15):=bF PQ F ab f197 aCg hZ 1 (c,r,b,())
theorem adC (c:D1)(r:bz)(b:D15):rG F c r b=(c8 F0 c r).bind fun py=>br (!py.1) ((aE F0 r).bind fun r24=>some (r24.1,false,())) ((n8 F0 c b).bind fun DY=>br (!DY.1) ((aE F0 r).bind fun r24=>some (r24.1,false,())) ((fa F0 b.1).bind fun Bl=>(PG F0 c r.2.2.2.1 b.2).bind fun tW=>(aE F0 r).bind fun r35=>br (decide (Bl.1≥r.2.1)) ((Xb F0 c tW.1 b).bind fun Qu=>(wT F0 c (r35.1.1,Bl.1,r35.1.2.2) Qu.1).bind fun Yt=>br (!Yt.2.1) ((aE F0 r).bind fun r59=>some (r59.1,false,())) (br (!Qu.2.1) (some (Yt.1,true,())) ((fv F0 c Yt.1.2.2.2.2.2.1 (Bl.1,b.1,[r.1])).bind fun r74=>br (!r74.2.1) ((aE F0 r).bind fun r81=>some (r81.1,false,())) ((oC F0 c (Yt.1.1,Yt.1.2.1,Yt.1.2.2.1,Yt.1.2.2.2.1,Yt.1.2.2.2.2.1,r74.1,Yt.1.2.2.2.2.2.2) Bl.1 b.1 false).bind fun r88=>some (r88.1,true,()))))) ((wT F0 c r35.1 tW.1).bind fun Yt=>br (!Yt.2.1) ((aE F0 r).bind fun r59=>some (r59.1,false,())) (some (Yt.1,true,()))))):=by kernel_rfl
def wU:Any:=.one ⟨aCg,hZ,1,fun x=>rG F0 x.1 x.2.1 x.2.2.1⟩
theorem MN:bm 197 wU:=aA PQ ⟨da,gf,cL,vM,NP,te,VX,auH,NN,trivial⟩ func197 ab (by kernel_rfl)
def Ti:=[(47,cC),(79,b8),(155,o6),(211,Ag),(212,lx)]
def Dx (c:D1)(r:bz)(p:D9):=bF Ti F ab f198 ah3 hZ 1 (c,r,p,())
theorem agm (c:D1)(r:bz)(p:D9):Dx F c r p=(c8 F0 c r).bind fun cj=>br (!cj.1) ((aE F0 r).bind fun qT=>some (qT.1,false,())) ((rr F0 c p).bind fun QO=>br (!QO.1) ((aE F0 r).bind fun qT=>some (qT.1,false,())) (br (p.2.1.toList==al.toList) ((aE F0 r).bind fun qT=>some (qT.1,false,())) (br (decide (p.1<r.2.1)) ((aE F0 r).bind fun qT=>some (qT.1,false,())) ((fv F0 c r.2.2.2.2.2.1 p).bind fun xm=>br (!xm.2.1) ((aE F0 r).bind fun Qu=>some (Qu.1,false,())) ((aE F0 r).bind fun r48=>(oC F0 c (r48.1.1,r48.1.2.1,r48.1.2.2.1,r48.1.2.2.2.1,r48.1.2.2.2.2.1,xm.1,r48.1.2.2.2.2.2.2) p.1 p.2.1 false).bind fun r58=>some (r58.1,true,())))))):=by kernel_rfl
def MO:Any:=.one ⟨ah3,hZ,1,fun x=>Dx F0 x.1 x.2.1 x.2.2.1⟩
theorem agn:bm 198 MO:=aA Ti ⟨da,cL,zD,NP,te,trivial⟩ func198 ab (by kernel_rfl)
def ain:=[(214,FB),(252,Ad)]
abbrev aF5:List (Ty×Bool):=[(K1,true),(db,true),(.int .i64,false)]
def th (c:D1)(r:bz)(view:Int):=bF ain F ab f248 aF5 aZ 1 (c,r,view,())
theorem auN (c:D1)(r:bz)(view:Int):th F c r view=(uz F0 r.2.2.2.2.2.1 view al).bind fun hY=>(Eu F0 c).bind fun lM=>some (decide ((hY.1.2.2.length:Int)≥lM.1),()):=by kernel_rfl
def NQ:Any:=.one ⟨aF5,aZ,1,fun x=>th F0 x.1 x.2.1 x.2.2.1⟩
theorem adD:bm 248 NQ:=aA ain ⟨Vw,PL,trivial⟩ func248 ab (by kernel_rfl)
def Tj:=[(47,cC),(67,bL),(79,b8),(152,jL),(204,lV),(212,lx),(245,HV),(247,Aa),(248,NQ)]
def Dy (c:D1)(r:bz)(view:Int)(q:D9)(dm:Int):=bF Tj F ab f199 aCh hZ 2 (c,r,view,q,dm,())
theorem ago (c:D1)(r:bz)(view:Int)(q:D9)(dm:Int):Dy F c r view q dm=(c8 F0 c r).bind fun oM=>br (!oM.1) ((aE F0 r).bind fun TP=>some (TP.1,false,())) ((bd F0 view 1 60).bind fun DY=>br (!DY.1) ((aE F0 r).bind fun TP=>some (TP.1,false,())) ((mT F0 c q).bind fun xg=>br (!xg.1) ((aE F0 r).bind fun TP=>some (TP.1,false,())) ((bd F0 dm 0 (aj (c.1-1))).bind fun qT=>br (!qT.1) ((aE F0 r).bind fun TP=>some (TP.1,false,())) ((PG F0 c r.2.2.2.1 q).bind fun Qu=>(wT F0 c r Qu.1).bind fun px=>br (!px.2.1) ((aE F0 r).bind fun Yt=>some (Yt.1,false,())) ((tf F0 c view).bind fun r56=>br (r56.1==r.1) (br (decide (view≥r.2.1)) ((fv F0 c px.1.2.2.2.2.2.1 (view,al,[dm])).bind fun r74=>br (!r74.2.1) ((aE F0 r).bind fun r81=>some (r81.1,false,())) ((th F0 c (px.1.1,(if (if 60<(aj (q.1+1)) then 60 else (aj (q.1+1)))>px.1.2.1 then (if 60<(aj (q.1+1)) then 60 else (aj (q.1+1))) else px.1.2.1,(px.1.2.2.1,px.1.2.2.2.1,px.1.2.2.2.2.1,r74.1,px.1.2.2.2.2.2.2))) view).bind fun r93=>br r93.1 (some ((px.1.1,(if view>(if (if 60<(aj (q.1+1)) then 60 else (aj (q.1+1)))>px.1.2.1 then (if 60<(aj (q.1+1)) then 60 else (aj (q.1+1))) else px.1.2.1) then view else (if (if 60<(aj (q.1+1)) then 60 else (aj (q.1+1)))>px.1.2.1 then (if 60<(aj (q.1+1)) then 60 else (aj (q.1+1))) else px.1.2.1),(px.1.2.2.1,px.1.2.2.2.1,px.1.2.2.2.2.1,r74.1,px.1.2.2.2.2.2.2))),true,())) (some ((px.1.1,(if (if 60<(aj (q.1+1)) then 60 else (aj (q.1+1)))>px.1.2.1 then (if 60<(aj (q.1+1)) then 60 else (aj (q.1+1))) else px.1.2.1,(px.1.2.2.1,px.1.2.2.2.1,px.1.2.2.2.2.1,r74.1,px.1.2.2.2.2.2.2))),true,())))) ((th F0 c (px.1.1,(if (if 60<(aj (q.1+1)) then 60 else (aj (q.1+1)))>px.1.2.1 then (if 60<(aj (q.1+1)) then 60 else (aj (q.1+1))) else px.1.2.1,px.1.2.2)) view).bind fun r93=>br r93.1 (some ((px.1.1,(if view>(if (if 60<(aj (q.1+1)) then 60 else (aj (q.1+1)))>px.1.2.1 then (if 60<(aj (q.1+1)) then 60 else (aj (q.1+1))) else px.1.2.1) then view else (if (if 60<(aj (q.1+1)) then 60 else (aj (q.1+1)))>px.1.2.1 then (if 60<(aj (q.1+1)) then 60 else (aj (q.1+1))) else px.1.2.1),px.1.2.2)),true,())) (some ((px.1.1,(if (if 60<(aj (q.1+1)) then 60 else (aj (q.1+1)))>px.1.2.1 then (if 60<(aj (q.1+1)) then 60 else (aj (q.1+1))) else px.1.2.1,px.1.2.2)),true,())))) ((th F0 c (px.1.1,(if (if 60<(aj (q.1+1)) then 60 else (aj (q.1+1)))>px.1.2.1 then (if 60<(aj (q.1+1)) then 60 else (aj (q.1+1))) else px.1.2.1,px.1.2.2)) view).bind fun r93=>br r93.1 (some ((px.1.1,(if view>(if (if 60<(aj (q.1+1)) then 60 else (aj (q.1+1)))>px.1.2.1 then (if 60<(aj (q.1+1)) then 60 else (aj (q.1+1))) else px.1.2.1) then view else (if (if 60<(aj (q.1+1)) then 60 else (aj (q.1+1)))>px.1.2.1 then (if 60<(aj (q.1+1)) then 60 else (aj (q.1+1))) else px.1.2.1),px.1.2.2)),true,())) (some ((px.1.1,(if (if 60<(aj (q.1+1)) then 60 else (aj (q.1+1)))>px.1.2.1 then (if 60<(aj (q.1+1)) then 60 else (aj (q.1+1))) else px.1.2.1,px.1.2.2)),true,())))))))):=by kernel_rfl
def MP:Any:=.one ⟨aCh,hZ,2,fun x=>Dy F0 x.1 x.2.1 x.2.2.1 x.2.2.2.1 x.2.2.2.2.1⟩
theorem agp:bm 199 MP:=aA Tj ⟨da,cm,cL,n6,tg,te,VX,NN,adD,trivial⟩ func199 ab (by kernel_rfl)
def V2:=[(92,FD),(134,BS),(299,xe),(301,DW)]
def H3 (p:D5)(x:D4):=bF V2 F ab f249 aCi UG 2 (p,x,())
theorem akL (p:D5)(x:D4):H3 F p x=br (decide ((qL (fun e_=>QL e_ x) p 0)<0)) ((jv F0 p).bind fun oM=>ck (ahH (p.length:Int) oM.1.length [x].length) ((xw F0 (oM.1.take (p.length:Int).toNat++[x]++oM.1.drop (p.length:Int).toNat)).bind fun gr=>br (!gr.1) ((jv F0 p).bind fun XQ=>some (XQ.1,false,())) (some (oM.1.take (p.length:Int).toNat++[x]++oM.1.drop (p.length:Int).toNat,true,())))) ((jv F0 p).bind fun oM=>ck (ahH (qL (fun e_=>QL e_ x) p 0) oM.1.length [x].length) ((xw F0 (oM.1.take (qL (fun e_=>QL e_ x) p 0).toNat++[x]++oM.1.drop (qL (fun e_=>QL e_ x) p 0).toNat)).bind fun gr=>br (!gr.1) ((jv F0 p).bind fun XQ=>some (XQ.1,false,())) (some (oM.1.take (qL (fun e_=>QL e_ x) p 0).toNat++[x]++oM.1.drop (qL (fun e_=>QL e_ x) p 0).toNat,true,())))):=by kernel_rfl
def PR:Any:=.one ⟨aCi,UG,2,fun x=>H3 F0 x.1 x.2.1⟩
theorem akM:bm 249 PR:=aA V2 ⟨Vx,S3,QN,XH,trivial⟩ func249 ab (by kernel_rfl)
def ZC:=[(47,cC),(79,b8),(249,PR)]
def MQ (c:D1)(r:bz)(x:D4):=bF ZC F ab f200 aCj hZ 2 (c,r,x,())
theorem aof (c:D1)(r:bz)(x:D4):MQ F c r x=(aE F0 r).bind fun cN=>(c8 F0 c r).bind fun py=>br (!py.1) (some (cN.1,false,())) ((H3 F0 r.2.2.2.2.1 x).bind fun gr=>some ((cN.1.1,cN.1.2.1,cN.1.2.2.1,cN.1.2.2.2.1,gr.1,cN.1.2.2.2.2.2),gr.2.1,())):=by kernel_rfl
def Tk:Any:=.one ⟨aCj,hZ,2,fun x=>MQ F0 x.1 x.2.1 x.2.2.1⟩
theorem aog:bm 200 Tk:=aA ZC ⟨da,cL,akM,trivial⟩ func200 ab (by kernel_rfl)
def ti:=[(193,iQ)]
def tj:Nat→Option Hint:=look [(3,{live:=[1,5,8,9,10],mat:=[(5,74,K9)],xl:=[5],rl:=[4]})]
def j7 (view:Int)(t8:List D9)(t9 t10:Int)(xs:List D9):= er 25 [(1,bR view),(5,.v (.c (.own 1000000 none))),(8,jO 74 (K9) t8),(9,bR t9),(10,bR t10)] [] [aB 1000000 74 K9 xs]
def GG (xs:List D9):= er 25 [(5,.v (.c (.own 1000000 none)))] [] [aB 1000000 74 K9 xs]
def ns (st:St):Option α:=gW ti F tj [.r,.r,.l,.r,.b,.i] f201 κ n st
def wV:=jF ti F tj [.r,.r,.l,.r,.b] f201 F3 2
theorem AY (view:Int)(t8:List D9)(t9 t10:Int)(xs:List D9):ns F κ (n+1) (j7 view t8 t9 t10 xs)=br (decide (t10<t9)) (ck (cl t10 (t8.length:Int)) (br (decide ((aP t8 t10 K9.aG).1≥view)) ((fQ F0 (aP t8 t10 K9.aG)).bind fun DY=>ck (fg F xs.length [DY.1].length 48) (ns F κ n (j7 view t8 t9 (aj (t10+1)) (xs++[DY.1])))) (ns F κ n (j7 view t8 t9 (aj (t10+1)) xs)))) (κ (.exit 0) (GG xs)):=by kernel_rfl
theorem V3 (xs:List D9):wV F (.exit 0) (GG xs)=some (xs,()):=by kernel_rfl
def iF (list:D13)(view:Int):=bF ti F tj f201 aCk F3 2 (list,view,())
theorem adE (list:D13)(view:Int):iF F list view=ns F (wV F) F.n (j7 view list (list.length:Int) 0 []):=by kernel_rfl
def Ki:Any:=.one ⟨aCk,F3,2,fun x=>iF F0 x.1 x.2.1⟩
theorem adF:bm 201 Ki:=aA ti ⟨nm,trivial⟩ func201 tj (by kernel_rfl)
def tk:Nat→Option Hint:=look [(3,{live:=[0,1,2],xY:=[(0,0,3,.int .i64),(0,1,3,.int .i64),(1,0,3,.int .i64)],xl:=[0,1],rl:=[0]})]
def gR (i:Int)(xs aO aY bj:List Int):= er 15 [cS 0,cS 1,(2,bR i)] [(0,[.own 1000000 none,.own 1000001 none]),(1,[.own 1000002 none,.own 1000003 none])] [aB 1000000 3 (.int .i64) xs,aB 1000001 3 (.int .i64) aO,aB 1000002 3 (.int .i64) aY,aB 1000003 3 (.int .i64) bj]
def GH (xs aO aY bj:List Int):= er 15 [cS 0,cS 1] [(0,[.own 1000000 none,.own 1000001 none]),(1,[.own 1000002 none,.own 1000003 none])] [aB 1000000 3 (.int .i64) xs,aB 1000001 3 (.int .i64) aO,aB 1000002 3 (.int .i64) aY,aB 1000003 3 (.int .i64) bj]
def jU (st:St):Option α:=gW aF F tk [.r,.r,.l,.r,.b,.i] f52 κ n st
def j8:=jF aF F tk [.r,.r,.l,.r,.b] f52 p9 2
theorem AZ (i:Int)(xs aO aY bj:List Int):jU F κ (n+1) (gR i xs aO aY bj)=br (decide (i<4)) (ck (fg F aY.length [100].length 8) (jU F κ n (gR (aj (i+1)) xs aO (aY++[100]) bj))) (κ (.exit 0) (GH xs aO aY bj)):=by kernel_rfl
theorem V4 (xs aO aY bj:List Int):j8 F (.exit 0) (GH xs aO aY bj)=some ((aY,bj),()):=by kernel_rfl
def nu: Option (Args p9):=bF aF F tk f52 [] p9 2 (())
theorem adG: nu F= ck (okM F 4 4 8) (jU F (j8 F) F.n (gR 0 [] [] [] (List.replicate (4:Int).toNat 0))):=by kernel_rfl
def wW:Any:=.one ⟨[],p9,2,fun x=>nu F0⟩
theorem MR:bm 52 wW:=aA aF trivial func52 tk (by kernel_rfl)
def H4:=[(50,rn)]
def H5:Nat→Option Hint:=look [(4,{live:=[5,13,14,15],mat:=[(5,76,K4)],xl:=[5],rl:=[2]})]
def Ah (t14 t15:Int)(xs:List D4)(aO:List D6):= er 25 [(5,.v (.c (.own 1000000 none))),(13,.v (.c (.own 1000001 none))),(14,bR t14),(15,bR t15)] [] [aB 1000000 76 K4 xs,aB 1000001 157 K6 aO]
def Tl (xs:List D4):= er 25 [(5,.v (.c (.own 1000000 none)))] [] [aB 1000000 76 K4 xs]
def H6 (st:St):Option α:=gW H4 F H5 [.r,.r,.r,.l,.r,.b,.i] f53 κ n st
def Kj:=jF H4 F H5 [.r,.r,.r,.l,.r,.b] f53 kl 2
theorem MS (t14 t15:Int)(xs:List D4)(aO:List D6):H6 F κ (n+1) (Ah t14 t15 xs aO)=br (decide (t15<t14)) (ck (cl t15 (aO.length:Int)) (ck (fg F xs.length (aP aO t15 (0,[])).2.length 32) (H6 F κ n (Ah t14 (aj (t15+1)) (xs++(aP aO t15 (0,[])).2) aO)))) (κ (.exit 0) (Tl xs)):=by kernel_rfl
theorem agq (xs:List D4):Kj F (.exit 0) (Tl xs)=some (xs,()):=by kernel_rfl
def wX (s:ByteArray):=bF H4 F H5 f53 ew kl 2 (s,())
theorem aq1 (s:ByteArray):wX F s=(rm F0 s).bind fun hY=>H6 F (Kj F) F.n (Ah (hY.1.length:Int) 0 [] hY.1):=by kernel_rfl
def Kk:Any:=.one ⟨ew,kl,2,fun x=>wX F0 x.1⟩
theorem ZD:bm 53 Kk:=aA H4 ⟨Da,trivial⟩ func53 H5 (by kernel_rfl)
def MT:=[(31,gd)]
def kE (l:D43):=bF MT F ab f100 p9 p9 2 (l,())
theorem aaZ (l:D43):kE F l=(eR F0 l.1).bind fun r5=>(eR F0 l.2).bind fun r8=>some ((r5.1,r8.1),()):=by kernel_rfl
def tS:Any:=.one ⟨p9,p9,2,fun x=>kE F0 x.1⟩
theorem Kl:bm 100 tS:=aA MT ⟨jR,trivial⟩ func100 ab (by kernel_rfl)
def tl:=[(67,bL)]
def tn:Nat→Option Hint:=look [(2,{live:=[1,2,9,10,11],rl:=[6]})]
def oD (low high:Int)(t9:List Int)(t10 t11:Int):= cV 21 [(1,bR low),(2,bR high),(9,jO 3 (.int .i64) t9),(10,bR t10),(11,bR t11)]
def Km (t6:Bool):= cV 21 [(6,RP t6)]
def GI   := cV 21 []
def tp (st:St):Option α:=gW tl F tn [.r,.l,.r,.b,.i] f54 κ n st
def oE:=jF tl F tn [.r,.l,.r,.b] f54 aZ 1
theorem A0 (low high:Int)(t9:List Int)(t10 t11:Int):tp F κ (n+1) (oD low high t9 t10 t11)=br (decide (t11<t10)) (ck (cl t11 (t9.length:Int)) ((bd F0 (aP t9 t11 0) low high).bind fun QO=>br (!QO.1) (κ .ret (Km false)) (tp F κ n (oD low high t9 t10 (aj (t11+1)))))) (κ (.exit 0) (GI)):=by kernel_rfl
theorem X0 (t6:Bool):oE F .ret (Km t6)=some (t6,()):=by kernel_rfl
theorem V5: oE F (.exit 0) (GI)=some (true,()):=by kernel_rfl
abbrev aJr:List (Ty×Bool):=[(.sl 3 (.int .i64),false),(.int .i64,false),(.int .i64,false)]
def rH (list:List Int)(low high:Int):=bF tl F tn f54 aJr aZ 1 (list,low,high,())
theorem adH (list:List Int)(low high:Int):rH F list low high=tp F (oE F) F.n (oD low high list (list.length:Int) 0):=by kernel_rfl
def Kn:Any:=.one ⟨aJr,aZ,1,fun x=>rH F0 x.1 x.2.1 x.2.2.1⟩
theorem adI:bm 54 Kn:=aA tl ⟨cm,trivial⟩ func54 tn (by kernel_rfl)
def Tm:=[(54,Kn)]
def uC (l:D43):=bF Tm F ab f21 p9 aZ 1 (l,())
theorem agr (l:D43):uC F l=br ((l.1.length:Int)==4) (br ((l.2.length:Int)==4) ((rH F0 l.1 0 400).bind fun oM=>br oM.1 ((rH F0 l.2 0 100).bind fun gv=>some (gv.1,())) (some (false,()))) (some (false,()))) (some (false,())):=by kernel_rfl
def MU:Any:=.one ⟨p9,aZ,1,fun x=>uC F0 x.1⟩
theorem ags:bm 21 MU:=aA Tm ⟨adI,trivial⟩ func21 ab (by kernel_rfl)
def aoh:=[(21,MU),(100,tS),(153,jK)]
def Ko (l:D43)(x:D4):=bF aoh F ab f101 aB5 aB4 2 (l,x,())
theorem aw7 (l:D43)(x:D4):Ko F l x=(kE F0 l).bind fun r8=>(uC F0 l).bind fun dA=>br (!dA.1) (some (r8.1,1,())) ((pH F0 x).bind fun py=>br (!py.1) (some (r8.1,1,())) (ck (cl x.1 (l.2.length:Int)) (br (decide (x.2.2.2<(aP l.2 x.1 0))) (some (r8.1,2,())) (ck (cl x.1 (l.2.length:Int)) (br (decide (x.2.2.2>(aP l.2 x.1 0))) (some (r8.1,3,())) (ck (cl x.1 (r8.1.2.length:Int)) (ck (cl x.1 (r8.1.2.length:Int)) (ck (cl x.1 (l.1.length:Int)) (br (decide (x.2.2.1>(aP l.1 x.1 0))) (some ((r8.1.1,r8.1.2.set x.1.toNat (aj ((aP r8.1.2 x.1 0)+1))),4,())) (ck (cl x.1 (r8.1.1.length:Int)) (ck (cl x.1 (r8.1.1.length:Int)) (ck (cl x.2.1 ((r8.1.1.set x.1.toNat (aj ((aP r8.1.1 x.1 0)-x.2.2.1))).length:Int)) (ck (cl x.2.1 ((r8.1.1.set x.1.toNat (aj ((aP r8.1.1 x.1 0)-x.2.2.1))).length:Int)) ((uC F0 ((r8.1.1.set x.1.toNat (aj ((aP r8.1.1 x.1 0)-x.2.2.1))).set x.2.1.toNat (aj ((aP (r8.1.1.set x.1.toNat (aj ((aP r8.1.1 x.1 0)-x.2.2.1))) x.2.1 0)+x.2.2.1)),r8.1.2.set x.1.toNat (aj ((aP r8.1.2 x.1 0)+1)))).bind fun r80=>br (!r80.1) ((kE F0 l).bind fun r83=>some (r83.1,1,())) (some (((r8.1.1.set x.1.toNat (aj ((aP r8.1.1 x.1 0)-x.2.2.1))).set x.2.1.toNat (aj ((aP (r8.1.1.set x.1.toNat (aj ((aP r8.1.1 x.1 0)-x.2.2.1))) x.2.1 0)+x.2.2.1)),r8.1.2.set x.1.toNat (aj ((aP r8.1.2 x.1 0)+1))),0,())))))))))))))))):=by kernel_rfl
def H7:Any:=.one ⟨aB5,aB4,2,fun x=>Ko F0 x.1 x.2.1⟩
theorem V6:bm 101 H7:=aA aoh ⟨ags,Kl,n5,trivial⟩ func101 ab (by kernel_rfl)
def Dz:=[(100,tS),(101,H7)]
def DA:Nat→Option Hint:=look [(4,{live:=[4,6,7,14,15,16],mat:=[(7,3,.int .i64)],xY:=[(4,0,3,.int .i64),(4,1,3,.int .i64)],xl:=[4,6,7],rl:=[4,5]})]
def wa (t14:List D4)(t15 t16:Int)(xs aO aY bj bK:List Int):= er 34 [cS 4,cS 6,(7,.v (.c (.own 1000000 none))),(14,jO 76 (K4) t14),(15,bR t15),(16,bR t16)] [(4,[.own 1000001 none,.own 1000002 none]),(6,[.own 1000003 none,.own 1000004 none])] [aB 1000000 3 (.int .i64) xs,aB 1000001 3 (.int .i64) aO,aB 1000002 3 (.int .i64) aY,aB 1000003 3 (.int .i64) bj,aB 1000004 3 (.int .i64) bK]
def PS (xs aO aY bj bK:List Int):= er 34 [cS 4,cS 6,(7,.v (.c (.own 1000000 none)))] [(4,[.own 1000001 none,.own 1000002 none]),(6,[.own 1000003 none,.own 1000004 none])] [aB 1000000 3 (.int .i64) xs,aB 1000001 3 (.int .i64) aO,aB 1000002 3 (.int .i64) aY,aB 1000003 3 (.int .i64) bj,aB 1000004 3 (.int .i64) bK]
def DB (st:St):Option α:=gW Dz F DA [.r,.r,.r,.l,.r,.b,.i] f51 κ n st
def FM:=jF Dz F DA [.r,.r,.r,.l,.r,.b] f51 asf 2
theorem Kp (t14:List D4)(t15 t16:Int)(xs aO aY bj bK:List Int):DB F κ (n+1) (wa t14 t15 t16 xs aO aY bj bK)=br (decide (t16<t15)) (ck (cl t16 (t14.length:Int)) ((Ko F0 (bj,bK) (aP t14 t16 K4.aG)).bind fun sd=>ck (fg F xs.length [sd.2.1].length 8) (DB F κ n (wa t14 t15 (aj (t16+1)) (xs++[sd.2.1]) aO aY sd.1.1 sd.1.2)))) (κ (.exit 0) (PS xs aO aY bj bK)):=by kernel_rfl
theorem adJ (xs aO aY bj bK:List Int):FM F (.exit 0) (PS xs aO aY bj bK)=some ((bj,bK),xs,()):=by kernel_rfl
def xB (l:D43)(list:D5):=bF Dz F DA f51 aB6 asf 2 (l,list,())
theorem aoi (l:D43)(list:D5):xB F l list=(kE F0 l).bind fun cj=>DB F (FM F) F.n (wa list (list.length:Int) 0 [] [] [] cj.1.1 cj.1.2):=by kernel_rfl
def FN:Any:=.one ⟨aB6,asf,2,fun x=>xB F0 x.1 x.2.1⟩
theorem V7:bm 51 FN:=aA Dz ⟨Kl,V6,trivial⟩ func51 DA (by kernel_rfl)
def adK:=[(47,cC),(51,FN),(52,wW),(53,Kk)]
def oF (c:D1)(r:bz):=bF adK F ab f20 xK p9 2 (c,r,())
theorem aq2 (c:D1)(r:bz):oF F c r=(c8 F0 c r).bind fun r9=>br (!r9.1) (some (([],[]),())) ((nu F0).bind fun cj=>(wX F0 r.2.2.2.1.2.2.2).bind fun fh=>(xB F0 cj.1 fh.1).bind fun QO=>some (QO.1,())):=by kernel_rfl
def V8:Any:=.one ⟨xK,p9,2,fun x=>oF F0 x.1 x.2.1⟩
theorem aq3:bm 20 V8:=aA adK ⟨da,V7,MR,ZD,trivial⟩ func20 ab (by kernel_rfl)
def wb:=[(101,H7)]
def wc:Nat→Option Hint:=look [(3,{live:=[3,5,10,11,12],mat:=[(5,76,K4)],xl:=[5],rl:=[4]})]
def lz (t10:List D4)(t11 t12:Int)(l l1:List Int)(xs:List D4):= er 30 [cS 3,(5,.v (.c (.own 1000000 none))),(10,jO 76 (K4) t10),(11,bR t11),(12,bR t12)] [(3,[.ro false 3 (.int .i64) l,.ro false 3 (.int .i64) l1])] [aB 1000000 76 K4 xs]
def Kq (xs:List D4):= er 30 [(5,.v (.c (.own 1000000 none)))] [] [aB 1000000 76 K4 xs]
def pe (st:St):Option α:=gW wb F wc [.r,.r,.l,.r,.b,.i] f202 κ n st
def Ai:=jF wb F wc [.r,.r,.l,.r,.b] f202 kl 2
theorem EI (t10:List D4)(t11 t12:Int)(l l1:List Int)(xs:List D4):pe F κ (n+1) (lz t10 t11 t12 l l1 xs)=br (decide (t12<t11)) (ck (cl t12 (t10.length:Int)) ((Ko F0 (l,l1) (aP t10 t12 K4.aG)).bind fun dM=>br (dM.2.1 != 2) (ck (fg F xs.length [(aP t10 t12 K4.aG)].length 32) (pe F κ n (lz t10 t11 (aj (t12+1)) l l1 (xs++[(aP t10 t12 K4.aG)])))) (pe F κ n (lz t10 t11 (aj (t12+1)) l l1 xs)))) (κ (.exit 0) (Kq xs)):=by kernel_rfl
theorem X1 (xs:List D4):Ai F (.exit 0) (Kq xs)=some (xs,()):=by kernel_rfl
def jM (p:D5)(l:D43):=bF wb F wc f202 ahW kl 2 (p,l,())
theorem agt (p:D5)(l:D43):jM F p l=pe F (Ai F) F.n (lz p (p.length:Int) 0 l.1 l.2 []):=by kernel_rfl
def MV:Any:=.one ⟨ahW,kl,2,fun x=>jM F0 x.1 x.2.1⟩
theorem agu:bm 202 MV:=aA wb ⟨V6,trivial⟩ func202 wc (by kernel_rfl)
def aio:=[(20,V8),(79,b8),(94,mW),(197,wU),(198,MO),(199,MP),(200,Tk),(201,Ki),(202,MV)]
def IB (c:D1)(r:bz)(m:NA):=bF aio F ab f143 YY hZ 1 (c,r,m,())
theorem auO (c:D1)(r:bz)(m:NA):IB F c r m=(gO F0 c m).bind fun cN=>br (!cN.1) ((aE F0 r).bind fun py=>some (py.1,false,())) (br (m.1==1) ((rG F0 c r m.2.2.1).bind fun tW=>br (!tW.2.1) ((aE F0 r).bind fun r63=>some (r63.1,false,())) ((iF F0 tW.1.2.2.2.2.2.1 (aj (tW.1.2.1-1))).bind fun r69=>(oF F0 c (tW.1.1,tW.1.2.1,tW.1.2.2.1,tW.1.2.2.2.1,tW.1.2.2.2.2.1,r69.1,tW.1.2.2.2.2.2.2)).bind fun Lu=>(jM F0 tW.1.2.2.2.2.1 Lu.1).bind fun r76=>some ((tW.1.1,tW.1.2.1,tW.1.2.2.1,tW.1.2.2.2.1,r76.1,r69.1,tW.1.2.2.2.2.2.2),true,()))) (br (m.1==2) ((Dx F0 c r m.2.2.2.1).bind fun Qt=>br (!Qt.2.1) ((aE F0 r).bind fun r63=>some (r63.1,false,())) ((iF F0 Qt.1.2.2.2.2.2.1 (aj (Qt.1.2.1-1))).bind fun r69=>(oF F0 c (Qt.1.1,Qt.1.2.1,Qt.1.2.2.1,Qt.1.2.2.2.1,Qt.1.2.2.2.2.1,r69.1,Qt.1.2.2.2.2.2.2)).bind fun Lu=>(jM F0 Qt.1.2.2.2.2.1 Lu.1).bind fun r76=>some ((Qt.1.1,Qt.1.2.1,Qt.1.2.2.1,Qt.1.2.2.2.1,r76.1,r69.1,Qt.1.2.2.2.2.2.2),true,()))) (br (m.1==3) ((Dy F0 c r m.2.1 m.2.2.2.2.1 m.2.2.2.2.2.1).bind fun r57=>br (!r57.2.1) ((aE F0 r).bind fun r63=>some (r63.1,false,())) ((iF F0 r57.1.2.2.2.2.2.1 (aj (r57.1.2.1-1))).bind fun r69=>(oF F0 c (r57.1.1,r57.1.2.1,r57.1.2.2.1,r57.1.2.2.2.1,r57.1.2.2.2.2.1,r69.1,r57.1.2.2.2.2.2.2)).bind fun Lu=>(jM F0 r57.1.2.2.2.2.1 Lu.1).bind fun r76=>some ((r57.1.1,r57.1.2.1,r57.1.2.2.1,r57.1.2.2.2.1,r76.1,r69.1,r57.1.2.2.2.2.2.2),true,()))) ((MQ F0 c r m.2.2.2.2.2.2).bind fun sd=>br (!sd.2.1) ((aE F0 r).bind fun r63=>some (r63.1,false,())) ((iF F0 sd.1.2.2.2.2.2.1 (aj (sd.1.2.1-1))).bind fun r69=>(oF F0 c (sd.1.1,sd.1.2.1,sd.1.2.2.1,sd.1.2.2.2.1,sd.1.2.2.2.2.1,r69.1,sd.1.2.2.2.2.2.2)).bind fun Lu=>(jM F0 sd.1.2.2.2.2.1 Lu.1).bind fun r76=>some ((sd.1.1,sd.1.2.1,sd.1.2.2.1,sd.1.2.2.2.1,r76.1,r69.1,sd.1.2.2.2.2.2.2),true,())))))):=by kernel_rfl
def NR:Any:=.one ⟨YY,hZ,1,fun x=>IB F0 x.1 x.2.1 x.2.2.1⟩
theorem adL:bm 143 NR:=aA aio ⟨aq3,cL,uo,MN,agn,agp,aog,adF,agu,trivial⟩ func143 ab (by kernel_rfl)
def DC:=[(40,dX),(140,ff)]
def DD:Nat→Option Hint:=look [(2,{live:=[0,1,2,3,13,14,15],rl:=[10]})]
def pf (liars:List Int)(list:List cE)(view:Int)(name:ByteArray)(t13:List Int)(t14 t15:Int):= cV 33 [(0,jO 3 (.int .i64) liars),(1,jO 127 (eh) list),(2,bR view),(3,Yl name),(13,jO 3 (.int .i64) t13),(14,bR t14),(15,bR t15)]
def Tn (t10:Bool):= cV 33 [(10,RP t10)]
def PT   := cV 33 []
def uD (st:St):Option α:=gW DC F DD [.r,.l,.r,.b,.i] f203 κ n st
def we:=jF DC F DD [.r,.l,.r,.b] f203 aZ 1
theorem Kr (liars:List Int)(list:List cE)(view:Int)(name:ByteArray)(t13:List Int)(t14 t15:Int):uD F κ (n+1) (pf liars list view name t13 t14 t15)=br (decide (t15<t14)) (ck (cl t15 (t13.length:Int)) ((eb F0 liars (aP t13 t15 0)).bind fun gv=>br (!gv.1) ((dK F0 list (view,name,aP t13 t15 0)).bind fun Ou=>br (!Ou.1) (κ .ret (Tn false)) (uD F κ n (pf liars list view name t13 t14 (aj (t15+1))))) (uD F κ n (pf liars list view name t13 t14 (aj (t15+1)))))) (κ (.exit 0) (PT)):=by kernel_rfl
theorem agv (t10:Bool):we F .ret (Tn t10)=some (t10,()):=by kernel_rfl
theorem adM: we F (.exit 0) (PT)=some (true,()):=by kernel_rfl
def xC (liars:List Int)(list:D38)(view:Int)(name:ByteArray)(dm:List Int):=bF DC F DD f203 aCl aZ 1 (liars,list,view,name,dm,())
theorem aoj (liars:List Int)(list:D38)(view:Int)(name:ByteArray)(dm:List Int):xC F liars list view name dm=uD F (we F) F.n (pf liars list view name dm (dm.length:Int) 0):=by kernel_rfl
def To:Any:=.one ⟨aCl,aZ,1,fun x=>xC F0 x.1 x.2.1 x.2.2.1 x.2.2.2.1 x.2.2.2.2.1⟩
theorem aok:bm 203 To:=aA DC ⟨fu,jd,trivial⟩ func203 DD (by kernel_rfl)
def ZE:=[(40,dX),(46,kB),(71,eS),(94,mW),(203,To),(204,lV),(205,BJ)]
def MW (c:D1)(liars:List Int)(list:D38)(m:NA):=bF ZE F ab f144 aCm aZ 1 (c,liars,list,m,())
theorem aol (c:D1)(liars:List Int)(list:D38)(m:NA):MW F c liars list m=(gO F0 c m).bind fun cN=>br (!cN.1) (some (false,())) (br (m.1==4) (some (true,())) (br (m.1==2) ((xC F0 liars list m.2.2.2.1.1 m.2.2.2.1.2.1 m.2.2.2.1.2.2).bind fun TP=>some (TP.1,())) (br (m.1==1) ((fa F0 m.2.2.1.1).bind fun r49=>(tf F0 c r49.1).bind fun EY=>(eb F0 liars EY.1).bind fun r51=>br (!r51.1) (some (false,())) ((sK F0).bind fun W3=>(jJ F0 m.2.2.1.2 W3.1).bind fun r55=>br r55.1 (some (true,())) ((xC F0 liars list m.2.2.1.2.1 m.2.2.1.2.2.1 m.2.2.1.2.2.2).bind fun eY=>some (eY.1,())))) ((eb F0 liars m.2.2.2.2.2.1).bind fun gv=>br (!gv.1) (some (false,())) ((sK F0).bind fun W3=>(jJ F0 m.2.2.2.2.1 W3.1).bind fun r55=>br r55.1 (some (true,())) ((xC F0 liars list m.2.2.2.2.1.1 m.2.2.2.2.1.2.1 m.2.2.2.2.1.2.2).bind fun eY=>some (eY.1,()))))))):=by kernel_rfl
def Tp:Any:=.one ⟨aCm,aZ,1,fun x=>MW F0 x.1 x.2.1 x.2.2.1 x.2.2.2.1⟩
theorem aom:bm 144 Tp:=aA ZE ⟨fu,rk,gf,uo,aok,tg,SR,trivial⟩ func144 ab (by kernel_rfl)
def V9:=[(11,o9),(38,gQ),(40,dX),(70,J3),(80,zS),(142,x9),(143,NR),(144,Tp),(145,zZ)]
def Wa:Nat→Option Hint:=look [(900015,{live:=[],mat:=[(2,0,iM)]})]
def oG (w:pt)(d:D45):=bF V9 F Wa f83 aia adq 0 (w,d,())
theorem akN (w:pt)(d:D45):oG F w d=(aS F0 w).bind fun dA=>br (d.1==3) (ck (cl d.2.1 (w.2.2.2.1.length:Int)) (ck (RN d.2.1 (aj (d.2.1+1)) (dA.1.2.2.2.1.length:Int)) ((J2 F0 w.1 (aP w.2.2.2.1 d.2.1 (0,[])).2).bind fun r60=>br r60.2.1 ((rD F0 w).bind fun r66=>(eb F0 r66.1 (aP w.2.2.2.1 d.2.1 (0,[])).1).bind fun r69=>br r69.1 (ck (cl (aP w.2.2.2.1 d.2.1 (0,[])).1 (w.2.2.1.length:Int)) ((IB F0 w.1 (aP w.2.2.1 (aP w.2.2.2.1 d.2.1 (0,[])).1 db.aG) r60.1).bind fun r85=>ck (cl (aP w.2.2.2.1 d.2.1 (0,[])).1 (dA.1.2.2.1.length:Int)) (some ((dA.1.1,dA.1.2.1,dA.1.2.2.1.set (aP w.2.2.2.1 d.2.1 (0,[])).1.toNat r85.1,dA.1.2.2.2.1.take d.2.1.toNat++dA.1.2.2.2.1.drop (aj (d.2.1+1)).toNat,dA.1.2.2.2.2),0,())))) (some ((dA.1.1,dA.1.2.1,dA.1.2.2.1,dA.1.2.2.2.1.take d.2.1.toNat++dA.1.2.2.2.1.drop (aj (d.2.1+1)).toNat,dA.1.2.2.2.2),0,()))) (some ((dA.1.1,dA.1.2.1,dA.1.2.2.1,dA.1.2.2.2.1.take d.2.1.toNat++dA.1.2.2.2.1.drop (aj (d.2.1+1)).toNat,dA.1.2.2.2.2),0,()))))) (br (d.1==4) (ck (RN d.2.1 (aj (d.2.1+1)) (dA.1.2.2.2.1.length:Int)) (some ((dA.1.1,dA.1.2.1,dA.1.2.2.1,dA.1.2.2.2.1.take d.2.1.toNat++dA.1.2.2.2.1.drop (aj (d.2.1+1)).toNat,dA.1.2.2.2.2),0,()))) (br (d.1==5) (ck (cl d.2.1 (w.2.2.2.1.length:Int)) ((uv F0 (aP w.2.2.2.1 d.2.1 (0,[]))).bind fun amJ=>ck (fg F dA.1.2.2.2.1.length [amJ.1].length 32) (some ((dA.1.1,dA.1.2.1,dA.1.2.2.1,dA.1.2.2.2.1++[amJ.1],dA.1.2.2.2.2),0,())))) ((MW F0 w.1 w.2.1 w.2.2.2.2 d.2.2.2).bind fun gr=>br (!gr.1) (some (w,5,())) ((uy F0 w.1 d.2.2.2).bind fun tW=>ck (fg F dA.1.2.2.2.1.length [(d.2.1,tW.1)].length 32) (some ((dA.1.1,dA.1.2.1,dA.1.2.2.1,dA.1.2.2.2.1++[(d.2.1,tW.1)],dA.1.2.2.2.2),0,())))))):=by kernel_rfl
def PU:Any:=.one ⟨aia,adq,0,fun x=>oG F0 x.1 x.2.1⟩
theorem akO:bm 83 PU:=aA V9 ⟨zT,lq,fu,Zp,Pt,TC,adL,aom,PA,trivial⟩ func83 Wa (by kernel_rfl)
end
end Go.Am.Tryz
