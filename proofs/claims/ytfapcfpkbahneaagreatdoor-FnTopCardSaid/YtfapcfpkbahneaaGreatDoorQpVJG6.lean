/- No condition. -/
import Derived.Test.YtfapcfpkbahneaaGreatDoorQpVJG5
set_option linter.all false
set_option maxRecDepth 100000
namespace Go.Am.Tryz
open Go.Am Go.Proofs Go.Proofs.Tryz
noncomputable section
variable {U:Type} (F:sd) (J:Ex->St->Option U) (n:Nat)
def jr:=[(137,Qj),(138,W3),(139,Gc),(140,fo),(141,aay)]
def js:Nat->Option Hint:=look [(4,{live:=[1,2,4,6,7,8,28,29,30],yz:=[(4,2,3,.int .i64),(4,3,50,di),(4,4,114,fW),(4,5,127,eu)],xl:=[1,2,4,6,7,8],rl:=[4,5]}),(7,{live:=[1,2,4,6,7,8,28,29,30,37,38,39],xl:=[1,2,4,6,7,8,28,29,30],rl:=[4,5]})]
def qH (a t29 t30 t38 t39 w w1:Int)(w2:List Int)(w3:List bD)(w4:List cU)(w5:List cH)(t4 t41 r r1 r2 r3 r4 r5:Int)(r6 r7:ByteArray)(r8 out bh:Int)(xs:List l5)(aQ:List cH)(ba:List Int)(bp:List bD)(bQ:List cU)(cD:List cH)(cE:List Int)(cI:List D4)(pb:List D9)(F2:List Int)(Cc:List l5)(Bh:List Int)(Cd:List bD)(OB:List cU)(aFE:List cH):= eD 67 [(1,bW a),cW 2,cW 4,cW 6,(7,.v (.c (.own 1000000 none))),cW 8,(28,.v (.c (.own 1000000 none))),(29,bW t29),(30,bW t30),(37,.v (.c (.own 1000001 none))),(38,bW t38),(39,bW t39)] [(2,[aq w,aq w1,.ro false 3 (.int .i64) w2,.ro false 50 (di) w3,.ro false 114 (fW) w4,.ro false 127 (eu) w5]),(4,[aq t4,aq t41,.own 1000002 none,.own 1000003 none,.own 1000004 none,.own 1000005 none]),(6,[aq r,aq r1,aq r2,aq r3,aq r4,aq r5,.str r6,.own 1000006 none,.str r7,.own 1000007 none,.own 1000008 none,.own 1000009 none,aq r8,.own 1000010 none]),(8,[aq out,aq bh,.own 1000011 none,.own 1000012 none,.own 1000013 none,.own 1000014 none])] [aB 1000000 146 qT xs,aB 1000001 127 eu aQ,aB 1000002 3 (.int .i64) ba,aB 1000003 50 di bp,aB 1000004 114 fW bQ,aB 1000005 127 eu cD,aB 1000006 3 (.int .i64) cE,aB 1000007 76 K4 cI,aB 1000008 74 K9 pb,aB 1000009 5 (.int .u8) F2,aB 1000010 146 qT Cc,aB 1000011 3 (.int .i64) Bh,aB 1000012 50 di Cd,aB 1000013 114 fW OB,aB 1000014 127 eu aFE]
def No (t5 t4 t41:Int)(t42:List Int)(t43:List bD)(t44:List cU)(t45:List cH):= eD 67 [cW 4,(5,bW t5)] [(4,[aq t4,aq t41,.ro false 3 (.int .i64) t42,.ro false 50 (di) t43,.ro false 114 (fW) t44,.ro false 127 (eu) t45])] []
def KO (a t29 t30 w w1:Int)(w2:List Int)(w3:List bD)(w4:List cU)(w5:List cH)(t4 t41 r r1 r2 r3 r4 r5:Int)(r6 r7:ByteArray)(r8 out bh:Int)(xs:List l5)(aQ:List Int)(ba:List bD)(bp:List cU)(bQ:List cH)(cD:List Int)(cE:List D4)(cI:List D9)(pb:List Int)(F2:List l5)(Cc:List Int)(Bh:List bD)(Cd:List cU)(OB:List cH):= eD 67 [(1,bW a),cW 2,cW 4,cW 6,(7,.v (.c (.own 1000000 none))),cW 8,(28,.v (.c (.own 1000000 none))),(29,bW t29),(30,bW t30)] [(2,[aq w,aq w1,.ro false 3 (.int .i64) w2,.ro false 50 (di) w3,.ro false 114 (fW) w4,.ro false 127 (eu) w5]),(4,[aq t4,aq t41,.own 1000001 none,.own 1000002 none,.own 1000003 none,.own 1000004 none]),(6,[aq r,aq r1,aq r2,aq r3,aq r4,aq r5,.str r6,.own 1000005 none,.str r7,.own 1000006 none,.own 1000007 none,.own 1000008 none,aq r8,.own 1000009 none]),(8,[aq out,aq bh,.own 1000010 none,.own 1000011 none,.own 1000012 none,.own 1000013 none])] [aB 1000000 146 qT xs,aB 1000001 3 (.int .i64) aQ,aB 1000002 50 di ba,aB 1000003 114 fW bp,aB 1000004 127 eu bQ,aB 1000005 3 (.int .i64) cD,aB 1000006 76 K4 cE,aB 1000007 74 K9 cI,aB 1000008 5 (.int .u8) pb,aB 1000009 146 qT F2,aB 1000010 3 (.int .i64) Cc,aB 1000011 50 di Bh,aB 1000012 114 fW Cd,aB 1000013 127 eu OB]
def wF (st:St):Option U:=gQ jr F js [.r,.r,.r,.l,.r,.b,.i,.r,.r,.l,.b,.r,.r,.b,.i] f82 J n st
def qI:Ex->St->Option U:=am0 Tryz.prog (look jr) F js [.r,.r,.l,.b,.r,.r,.b] (sub [.r,.r,.r,.l,.r,.b,.i] (oh f82)) (itk Tryz.prog (look jr) F js (sub [.r,.r,.r,.l,.r,.b,.i] (oh f82)) J n)
def lN (a t29 t30 w w1:Int)(w2:List Int)(w3:List bD)(w4:List cU)(w5:List cH)(t4 t41 r r1 r2 r3 r4 r5:Int)(r6 r7:ByteArray)(r8 out bh:Int)(xs:List l5)(aQ:List Int)(ba:List bD)(bp:List cU)(bQ:List cH)(cD:List Int)(cE:List D4)(cI:List D9)(pb:List Int)(F2:List l5)(Cc:List Int)(Bh:List bD)(Cd:List cU)(OB:List cH):= eD 67 [(1,bW a),cW 2,cW 4,cW 6,(7,.v (.c (.own 1000000 none))),cW 8,(28,.v (.c (.own 1000000 none))),(29,bW t29),(30,bW t30)] [(2,[aq w,aq w1,.ro false 3 (.int .i64) w2,.ro false 50 (di) w3,.ro false 114 (fW) w4,.ro false 127 (eu) w5]),(4,[aq t4,aq t41,.own 1000001 none,.own 1000002 none,.own 1000003 none,.own 1000004 none]),(6,[aq r,aq r1,aq r2,aq r3,aq r4,aq r5,.str r6,.own 1000005 none,.str r7,.own 1000006 none,.own 1000007 none,.own 1000008 none,aq r8,.own 1000009 none]),(8,[aq out,aq bh,.own 1000010 none,.own 1000011 none,.own 1000012 none,.own 1000013 none])] [aB 1000000 146 qT xs,aB 1000001 3 (.int .i64) aQ,aB 1000002 50 di ba,aB 1000003 114 fW bp,aB 1000004 127 eu bQ,aB 1000005 3 (.int .i64) cD,aB 1000006 76 K4 cE,aB 1000007 74 K9 cI,aB 1000008 5 (.int .u8) pb,aB 1000009 146 qT F2,aB 1000010 3 (.int .i64) Cc,aB 1000011 50 di Bh,aB 1000012 114 fW Cd,aB 1000013 127 eu OB]
def Np (t5 t4 t41:Int)(t42:List Int)(t43:List bD)(t44:List cU)(t45:List cH):= eD 67 [cW 4,(5,bW t5)] [(4,[aq t4,aq t41,.ro false 3 (.int .i64) t42,.ro false 50 (di) t43,.ro false 114 (fW) t44,.ro false 127 (eu) t45])] []
def xv (a w w1:Int)(w2:List Int)(w3:List bD)(w4:List cU)(w5:List cH)(t4 t41 r r1 r2 r3 r4 r5:Int)(r6 r7:ByteArray)(r8 out bh:Int)(xs:List l5)(aQ:List Int)(ba:List bD)(bp:List cU)(bQ:List cH)(cD:List Int)(cE:List D4)(cI:List D9)(pb:List Int)(F2:List l5)(Cc:List Int)(Bh:List bD)(Cd:List cU)(OB:List cH):= eD 67 [(1,bW a),cW 2,cW 4,cW 6,(7,.v (.c (.own 1000000 none))),cW 8] [(2,[aq w,aq w1,.ro false 3 (.int .i64) w2,.ro false 50 (di) w3,.ro false 114 (fW) w4,.ro false 127 (eu) w5]),(4,[aq t4,aq t41,.own 1000001 none,.own 1000002 none,.own 1000003 none,.own 1000004 none]),(6,[aq r,aq r1,aq r2,aq r3,aq r4,aq r5,.str r6,.own 1000005 none,.str r7,.own 1000006 none,.own 1000007 none,.own 1000008 none,aq r8,.own 1000009 none]),(8,[aq out,aq bh,.own 1000010 none,.own 1000011 none,.own 1000012 none,.own 1000013 none])] [aB 1000000 146 qT xs,aB 1000001 3 (.int .i64) aQ,aB 1000002 50 di ba,aB 1000003 114 fW bp,aB 1000004 127 eu bQ,aB 1000005 3 (.int .i64) cD,aB 1000006 76 K4 cE,aB 1000007 74 K9 cI,aB 1000008 5 (.int .u8) pb,aB 1000009 146 qT F2,aB 1000010 3 (.int .i64) Cc,aB 1000011 50 di Bh,aB 1000012 114 fW Cd,aB 1000013 127 eu OB]
def pF (st:St):Option U:=gQ jr F js [.r,.r,.r,.l,.r,.b,.i] f82 J n st
abbrev aep:List (Ty×Bool):=[(iV,true),(.int .i64,false)]
def gr:=jG jr F js [.r,.r,.r,.l,.r,.b] f82 aep 0
theorem Fa (a t29 t30 t38 t39 w w1:Int)(w2:List Int)(w3:List bD)(w4:List cU)(w5:List cH)(t4 t41 r r1 r2 r3 r4 r5:Int)(r6 r7:ByteArray)(r8 out bh:Int)(xs:List l5)(aQ:List cH)(ba:List Int)(bp:List bD)(bQ:List cU)(cD:List cH)(cE:List Int)(cI:List D4)(pb:List D9)(F2:List Int)(Cc:List l5)(Bh:List Int)(Cd:List bD)(OB:List cU)(aFE:List cH):wF F J (n+1) (qH a t29 t30 t38 t39 w w1 w2 w3 w4 w5 t4 t41 r r1 r2 r3 r4 r5 r6 r7 r8 out bh xs aQ ba bp bQ cD cE cI pb F2 Cc Bh Cd OB aFE)=br (decide (t39<t38)) (ck (cr t39 (aQ.length:Int)) ((dU F0 aFE (aU aQ t39 eu.aG)).bind fun Rh=>br (!Rh.1) (J .ret (No 4 w w1 w2 w3 w4 w5)) (wF F J n (qH a t29 t30 t38 (ak (t39+1)) w w1 w2 w3 w4 w5 t4 t41 r r1 r2 r3 r4 r5 r6 r7 r8 out bh xs aQ ba bp bQ cD cE cI pb F2 Cc Bh Cd OB aFE)))) (J (.exit 2) (KO a t29 t30 w w1 w2 w3 w4 w5 t4 t41 r r1 r2 r3 r4 r5 r6 r7 r8 out bh xs ba bp bQ cD cE cI pb F2 Cc Bh Cd OB aFE)):=by kernel_rfl
theorem Fb (a t29 t30 w w1:Int)(w2:List Int)(w3:List bD)(w4:List cU)(w5:List cH)(t4 t41 r r1 r2 r3 r4 r5:Int)(r6 r7:ByteArray)(r8 out bh:Int)(xs:List l5)(aQ:List Int)(ba:List bD)(bp:List cU)(bQ:List cH)(cD:List Int)(cE:List D4)(cI:List D9)(pb:List Int)(F2:List l5)(Cc:List Int)(Bh:List bD)(Cd:List cU)(OB:List cH):pF F J (n+1) (lN a t29 t30 w w1 w2 w3 w4 w5 t4 t41 r r1 r2 r3 r4 r5 r6 r7 r8 out bh xs aQ ba bp bQ cD cE cI pb F2 Cc Bh Cd OB)=br (decide (t30<t29)) (ck (cr t30 (xs.length:Int)) ((E9 F0 a (aU xs t30 qT.aG).2).bind fun HM=>wF F (qI F J n) F.n (qH a t29 t30 (HM.1.length:Int) 0 w w1 w2 w3 w4 w5 t4 t41 r r1 r2 r3 r4 r5 r6 r7 r8 out bh xs HM.1 aQ ba bp bQ cD cE cI pb F2 Cc Bh Cd OB))) (J (.exit 0) (xv a w w1 w2 w3 w4 w5 t4 t41 r r1 r2 r3 r4 r5 r6 r7 r8 out bh xs aQ ba bp bQ cD cE cI pb F2 Cc Bh Cd OB)):=by kernel_rfl
theorem abT (t5 t4 t41:Int)(t42:List Int)(t43:List bD)(t44:List cU)(t45:List cH):qI F J n .ret (No t5 t4 t41 t42 t43 t44 t45)=J .ret (Np t5 t4 t41 t42 t43 t44 t45):=by kernel_rfl
theorem Y1 (a t29 t30 w w1:Int)(w2:List Int)(w3:List bD)(w4:List cU)(w5:List cH)(t4 t41 r r1 r2 r3 r4 r5:Int)(r6 r7:ByteArray)(r8 out bh:Int)(xs:List l5)(aQ:List Int)(ba:List bD)(bp:List cU)(bQ:List cH)(cD:List Int)(cE:List D4)(cI:List D9)(pb:List Int)(F2:List l5)(Cc:List Int)(Bh:List bD)(Cd:List cU)(OB:List cH):qI F J n (.exit 2) (KO a t29 t30 w w1 w2 w3 w4 w5 t4 t41 r r1 r2 r3 r4 r5 r6 r7 r8 out bh xs aQ ba bp bQ cD cE cI pb F2 Cc Bh Cd OB)=pF F J n (lN a t29 (ak (t30+1)) w w1 w2 w3 w4 w5 t4 t41 r r1 r2 r3 r4 r5 r6 r7 r8 out bh xs aQ ba bp bQ cD cE cI pb F2 Cc Bh Cd OB):=by kernel_rfl
theorem abU (t5 t4 t41:Int)(t42:List Int)(t43:List bD)(t44:List cU)(t45:List cH):gr F .ret (Np t5 t4 t41 t42 t43 t44 t45)=some (((t4,t41),t42,t43,t44,t45),t5,()):=by kernel_rfl
theorem Y2 (a w w1:Int)(w2:List Int)(w3:List bD)(w4:List cU)(w5:List cH)(t4 t41 r r1 r2 r3 r4 r5:Int)(r6 r7:ByteArray)(r8 out bh:Int)(xs:List l5)(aQ:List Int)(ba:List bD)(bp:List cU)(bQ:List cH)(cD:List Int)(cE:List D4)(cI:List D9)(pb:List Int)(F2:List l5)(Cc:List Int)(Bh:List bD)(Cd:List cU)(OB:List cH):gr F (.exit 0) (xv a w w1 w2 w3 w4 w5 t4 t41 r r1 r2 r3 r4 r5 r6 r7 r8 out bh xs aQ ba bp bQ cD cE cI pb F2 Cc Bh Cd OB)=br (decide ((ak ((w4.length:Int)+(xs.length:Int)))>60)) (some (((w,w1),w2,w3,w4,w5),4,())) (ck (cr a (Bh.length:Int)) ((Qn F0 ((out,bh),Cc,Bh.set a.toNat (r,r1,r2,(r3,r4,(r5,r6,cD),r7),cE,cI,(pb,r8),F2),Cd,OB) xs).bind fun r66=>some (r66.1,0,()))):=by kernel_rfl
def DX (w:o8)(a:Int):=bJ jr F js f82 aep aep 0 (w,a,())
theorem ahg (w:o8)(a:Int):DX F w a=ck (cr a (w.2.2.1.length:Int)) ((It F0 w.1 (aU w.2.2.1 a di.aG)).bind fun ia=>(RV F0 w a ia.2.1).bind fun Bg=>pF F (gr F) F.n (lN a (ia.2.1.length:Int) 0 w.1.1 w.1.2 w.2.1 w.2.2.1 w.2.2.2.1 w.2.2.2.2 0 0 ia.1.1 ia.1.2.1 ia.1.2.2.1 ia.1.2.2.2.1.1 ia.1.2.2.2.1.2.1 ia.1.2.2.2.1.2.2.1.1 ia.1.2.2.2.1.2.2.1.2.1 ia.1.2.2.2.1.2.2.2 ia.1.2.2.2.2.2.2.1.2 Bg.1.1.1 Bg.1.1.2 ia.2.1 [] [] [] [] ia.1.2.2.2.1.2.2.1.2.2 ia.1.2.2.2.2.1 ia.1.2.2.2.2.2.1 ia.1.2.2.2.2.2.2.1.1 ia.1.2.2.2.2.2.2.2 Bg.1.2.1 Bg.1.2.2.1 Bg.1.2.2.2.1 Bg.1.2.2.2.2)):=by kernel_rfl
def Nq:Any:=.one ⟨aep,aep,0,fun x=>DX F0 x.1 x.2.1⟩
theorem ahh:bz 82 Nq:=aA jr ⟨alF,asz,WZ,jq,awp,trivial⟩ func82 js (by kernel_rfl)
def W7:=[(192,jo)]
def Iv (a b:D9):=bJ W7 F ab f294 xT ib 2 (a,b,())
theorem alL (a b:D9):Iv F a b=br (decide (a.1>b.1)) ((iN F0 a).bind fun dB=>some (dB.1,())) ((iN F0 b).bind fun cp=>some (cp.1,())):=by kernel_rfl
def Qo:Any:=.one ⟨xT,ib,2,fun x=>Iv F0 x.1 x.2.1⟩
theorem alM:bz 294 Qo:=aA W7 ⟨nG,trivial⟩ func294 ab (by kernel_rfl)
def W8:=[(50,nq),(219,DN)]
def Iw (name:ByteArray):=bJ W8 F ab f295 ed aD2 1 (name,())
theorem alN (name:ByteArray):Iw F name=(oE F0 name).bind fun r9=>br (decide ((r9.1.length:Int)<3)) (some (al,false,())) (ck (cr (ak ((r9.1.length:Int)-1)) (r9.1.length:Int)) (ck (cr (ak ((r9.1.length:Int)-2)) (r9.1.length:Int)) (br ((aU r9.1 (ak ((r9.1.length:Int)-1)) (0,[])).1 != (ak ((aU r9.1 (ak ((r9.1.length:Int)-2)) (0,[])).1+1))) (some (al,false,())) (ck (cr (ak ((r9.1.length:Int)-2)) (r9.1.length:Int)) (ck (cr (ak ((r9.1.length:Int)-3)) (r9.1.length:Int)) (br ((aU r9.1 (ak ((r9.1.length:Int)-2)) (0,[])).1 != (ak ((aU r9.1 (ak ((r9.1.length:Int)-3)) (0,[])).1+1))) (some (al,false,())) ((s6 F0 name).bind fun r49=>(s6 F0 r49.1).bind fun Fw=>some (Fw.1,true,())))))))):=by kernel_rfl
def Qp:Any:=.one ⟨ed,aD2,1,fun x=>Iw F0 x.1⟩
theorem alO:bz 295 Qp:=aA W8 ⟨uP,RT,trivial⟩ func295 ab (by kernel_rfl)
def qb (s wG:ByteArray):=bJ aF F ab f95 ZR bd 1 (s,wG,())
theorem OC (s wG:ByteArray):qb F s wG=br (decide ((s.size:Int)>=(wG.size:Int))) (ck (SJ 0 (wG.size:Int) (s.size:Int)) (some ((s.extract (0:Int).toNat (wG.size:Int).toNat).toList==wG.toList,()))) (some (false,())):=by kernel_rfl
def uc:Any:=.one ⟨ZR,bd,1,fun x=>qb F0 x.1 x.2.1⟩
theorem OD:bz 95 uc:=aA aF trivial func95 ab (by kernel_rfl)
def Hg:=[(95,uc)]
def AE (s wG:ByteArray):=bJ Hg F ab f49 ZR bd 1 (s,wG,())
theorem W9 (s wG:ByteArray):AE F s wG=(qb F0 s wG).bind fun r7=>some (r7.1,()):=by kernel_rfl
def Bx:Any:=.one ⟨ZR,bd,1,fun x=>AE F0 x.1 x.2.1⟩
theorem Xa:bz 49 Bx:=aA Hg ⟨OD,trivial⟩ func49 ab (by kernel_rfl)
def Xb:=[(19,eX),(49,Bx)]
def AF (s t:ByteArray):=bJ Xb F ab f18 ZR bd 1 (s,t,())
theorem alP (s t:ByteArray):AF F s t=(fi F0 s).bind fun r6=>br r6.1 ((fi F0 t).bind fun r9=>br r9.1 ((AE F0 s t).bind fun l6=>br l6.1 (br ((s.size:Int)==(t.size:Int)) (some (true,())) (ck (cr (t.size:Int) (s.size:Int)) (some ((kc s (t.size:Int))==47,())))) (some (false,()))) (some (false,()))) (some (false,())):=by kernel_rfl
def Cs:Any:=.one ⟨ZR,bd,1,fun x=>AF F0 x.1 x.2.1⟩
theorem T3:bz 18 Cs:=aA Xb ⟨gn,Xa,trivial⟩ func18 ab (by kernel_rfl)
def apo:=[(18,Cs),(71,eY),(90,kS),(133,lI),(152,jX),(219,DN),(294,Qo),(295,Qp)]
def Qq (c:D1)(s:UF)(q:D9):=bJ apo F ab f245 aD3 Bn 2 (c,s,q,())
theorem ayR (c:D1)(s:UF)(q:D9):Qq F c s q=(mb F0 s).bind fun dB=>(lE F0 c s).bind fun l6=>br (!l6.1) (some (dB.1,())) ((nr F0 c q).bind fun dW=>br (!dW.1) (some (dB.1,())) ((Iv F0 q s.2.2.1).bind fun uC=>(s6 F0 q.2.1).bind fun HJ=>(fj F0 HJ.1).bind fun uD=>(Iw F0 q.2.1).bind fun Re=>br Re.2.1 ((AF F0 Re.1 s.2.2.2).bind fun pN=>br pN.1 (some ((dB.1.1,(if uD.1>s.2.1 then uD.1 else s.2.1,(uC.1,Re.1))),())) (some ((dB.1.1,(if uD.1>s.2.1 then uD.1 else s.2.1,(uC.1,dB.1.2.2.2))),()))) (some ((dB.1.1,(if uD.1>s.2.1 then uD.1 else s.2.1,(uC.1,dB.1.2.2.2))),())))):=by kernel_rfl
def Ix:Any:=.one ⟨aD3,Bn,2,fun x=>Qq F0 x.1 x.2.1 x.2.2.1⟩
theorem Xc:bz 245 Ix:=aA apo ⟨T3,gp,rC,s9,oF,RT,alM,alO,trivial⟩ func245 ab (by kernel_rfl)
def Xd:=[(71,eY),(90,kS),(159,nu)]
def Iy (c:D1)(s:UF)(b:D15):=bJ Xd F ab f296 ai9 bd 1 (c,s,b,())
theorem alQ (c:D1)(s:UF)(b:D15):Iy F c s b=(lE F0 c s).bind fun r9=>br r9.1 ((oH F0 c b).bind fun cp=>br cp.1 ((fj F0 b.1).bind fun Oq=>br (decide (Oq.1>s.1)) (some (decide (b.2.1>=s.2.1),())) (some (false,()))) (some (false,()))) (some (false,())):=by kernel_rfl
def Qr:Any:=.one ⟨ai9,bd,1,fun x=>Iy F0 x.1 x.2.1 x.2.2.1⟩
theorem alR:bz 296 Qr:=aA Xd ⟨gp,rC,wx,trivial⟩ func296 ab (by kernel_rfl)
def ajr:=[(71,eY),(133,lI),(296,Qr)]
def Yi (c:D1)(s:UF)(b:D15):=bJ ajr F ab f246 ai9 ajb 2 (c,s,b,())
theorem awq (c:D1)(s:UF)(b:D15):Yi F c s b=(mb F0 s).bind fun ij=>(Iy F0 c s b).bind fun l6=>br (!l6.1) (some (ij.1,false,())) ((fj F0 b.1).bind fun dW=>some ((dW.1,ij.1.2),true,())):=by kernel_rfl
def aaz:Any:=.one ⟨ai9,ajb,2,fun x=>Yi F0 x.1 x.2.1 x.2.2.1⟩
theorem awr:bz 246 aaz:=aA ajr ⟨gp,s9,alR,trivial⟩ func246 ab (by kernel_rfl)
def T4:=[(46,kR)]
def DY (a b:UF):=bJ T4 F ab f15 aD4 bd 1 (a,b,())
theorem ahi (a b:UF):DY F a b=br (a.1==b.1) (br (a.2.1==b.2.1) ((jV F0 a.2.2.1 b.2.2.1).bind fun gL=>br gL.1 (some (a.2.2.2.toList==b.2.2.2.toList,())) (some (false,()))) (some (false,()))) (some (false,())):=by kernel_rfl
def Nr:Any:=.one ⟨aD4,bd,1,fun x=>DY F0 x.1 x.2.1⟩
theorem ahj:bz 15 Nr:=aA T4 ⟨rA,trivial⟩ func15 ab (by kernel_rfl)
def Qs:=[(90,kS),(206,tt),(207,Cr),(208,tv)]
def AG (c:D1)(s:UF):=bJ Qs F ab f329 SV mG 2 (c,s,())
theorem aeq (c:D1)(s:UF):AG F c s=(lE F0 c s).bind fun r8=>br (!r8.1) (some ([],())) ((lM F0 [s.1,s.2.1]).bind fun pa=>(tw F0 c s.2.2.1).bind fun dW=>ck (fp F pa.1.length dW.1.length 1) ((oU F0 s.2.2.2).bind fun r24=>ck (fp F (pa.1++dW.1).length r24.1.length 1) (some ((pa.1++dW.1)++r24.1,())))):=by kernel_rfl
def KP:Any:=.one ⟨SV,mG,2,fun x=>AG F0 x.1 x.2.1⟩
theorem aer:bz 329 KP:=aA Qs ⟨rC,Gf,T1,Gg,trivial⟩ func329 ab (by kernel_rfl)
def Qt:=[(151,jn),(329,KP)]
def AH (c:D1)(s:UF):=bJ Qt F ab f298 SV mG 2 (c,s,())
theorem aes (c:D1)(s:UF):AH F c s=(AG F0 c s).bind fun r8=>br ((r8.1.length:Int)==0) (some ([],())) ((fM F0 (r8.1.length:Int)).bind fun l6=>ck (fp F l6.1.length r8.1.length 1) (ck (fp F (l6.1++r8.1).length [10].length 1) (some ((l6.1++r8.1)++[10],())))):=by kernel_rfl
def KQ:Any:=.one ⟨SV,mG,2,fun x=>AH F0 x.1 x.2.1⟩
theorem aet:bz 298 KQ:=aA Qt ⟨nx,aer,trivial⟩ func298 ab (by kernel_rfl)
def aaA:=[(41,lJ),(42,pC)]
def Ns (d:D14)(b:List Int):=bJ aaA F ab f297 aD5 aD6 2 (d,b,())
theorem apq (d:D14)(b:List Int):Ns F d b=(mc F0 d).bind fun r8=>(rF F0 d).bind fun ij=>br (!ij.1) (some (r8.1,false,())) (br (decide ((ak ((d.1.length:Int)+(b.length:Int)))>100000)) (some (r8.1,false,())) (ck (fp F r8.1.1.length b.length 1) (some ((r8.1.1++b,r8.1.2),true,())))):=by kernel_rfl
def T5:Any:=.one ⟨aD5,aD6,2,fun x=>Ns F0 x.1 x.2.1⟩
theorem apr:bz 297 T5:=aA aaA ⟨tg,Aj,trivial⟩ func297 ab (by kernel_rfl)
def aeu:=[(15,Nr),(47,cO),(79,ch),(133,lI),(297,T5),(298,KQ)]
abbrev aH2:List (Ty×Bool):=[(K1,true),(di,true),(K12,true)]
def xw (c:D1)(r:bD)(s:UF):=bJ aeu F ab f247 aH2 ik 2 (c,r,s,())
theorem asA (c:D1)(r:bD)(s:UF):xw F c r s=(aE F0 r).bind fun cP=>(db F0 c r).bind fun pa=>br (!pa.1) (some (cP.1,false,())) ((DY F0 s r.2.2.2.1).bind fun ia=>br ia.1 (some (cP.1,true,())) ((AH F0 c s).bind fun VM=>(Ns F0 r.2.2.2.2.2.2.1 VM.1).bind fun UG=>(mb F0 s).bind fun uD=>br (!UG.2.1) ((aE F0 r).bind fun Rh=>some (Rh.1,false,())) ((db F0 c (cP.1.1,cP.1.2.1,cP.1.2.2.1,uD.1,cP.1.2.2.2.2.1,cP.1.2.2.2.2.2.1,UG.1,cP.1.2.2.2.2.2.2.2)).bind fun r42=>br (!r42.1) ((aE F0 r).bind fun Rh=>some (Rh.1,false,())) (some ((cP.1.1,cP.1.2.1,cP.1.2.2.1,uD.1,cP.1.2.2.2.2.1,cP.1.2.2.2.2.2.1,UG.1,cP.1.2.2.2.2.2.2.2),true,()))))):=by kernel_rfl
def AI:Any:=.one ⟨aH2,ik,2,fun x=>xw F0 x.1 x.2.1 x.2.2.1⟩
theorem OE:bz 247 AI:=aA aeu ⟨ahj,dr,cL,s9,apr,aet,trivial⟩ func247 ab (by kernel_rfl)
def aaB:=[(31,gm),(40,ef),(348,uF),(350,Bl)]
def Fc (s:List Int)(i:Int):=bJ aaB F ab f333 akP kI 2 (s,i,())
theorem aps (s:List Int)(i:Int):Fc F s i=(er F0 s i).bind fun r8=>br r8.1 ((eW F0 s).bind fun ij=>some (ij.1,())) (br (decide ((qW (fun e_=>geP e_ i) s 0)<0)) ((eW F0 s).bind fun dW=>ck (aiR (s.length:Int) dW.1.length [i].length) (some (dW.1.take (s.length:Int).toNat++[i]++dW.1.drop (s.length:Int).toNat,()))) ((eW F0 s).bind fun dW=>ck (aiR (qW (fun e_=>geP e_ i) s 0) dW.1.length [i].length) (some (dW.1.take (qW (fun e_=>geP e_ i) s 0).toNat++[i]++dW.1.drop (qW (fun e_=>geP e_ i) s 0).toNat,())))):=by kernel_rfl
def T6:Any:=.one ⟨akP,kI,2,fun x=>Fc F0 x.1 x.2.1⟩
theorem apt:bz 333 T6:=aA aaB ⟨j4,fA,O6,VF,trivial⟩ func333 ab (by kernel_rfl)
def nJ:=[(333,T6)]
def nK:Nat->Option Hint:=look [(3,{live:=[1,5,10,11,12],mat:=[(5,3,.int .i64)],xl:=[1,5],rl:=[4]}),(8,{live:=[5,20,21,22],xl:=[5],rl:=[4]})]
def tz (t20:List Int)(t21 t22:Int)(xs:List Int):= eD 31 [(5,.v (.c (.own 1000000 none))),(20,j9 3 (.int .i64) t20),(21,bW t21),(22,bW t22)] [] [aB 1000000 3 (.int .i64) xs]
def Nt (xs:List Int):= eD 31 [(5,.v (.c (.own 1000000 none)))] [] [aB 1000000 3 (.int .i64) xs]
def AJ (st:St):Option U:=gQ nJ F nK [.r,.r,.r,.l,.r,.b,.i] f306 J n st
def Ct:=jG nJ F nK [.r,.r,.r,.l,.r,.b] f306 kI 2
def tB (b t10:List Int)(t11 t12:Int)(xs:List Int):= eD 31 [(1,j9 3 (.int .i64) b),(5,.v (.c (.own 1000000 none))),(10,j9 3 (.int .i64) t10),(11,bW t11),(12,bW t12)] [] [aB 1000000 3 (.int .i64) xs]
def Nu (b xs:List Int):= eD 31 [(1,j9 3 (.int .i64) b),(5,.v (.c (.own 1000000 none)))] [] [aB 1000000 3 (.int .i64) xs]
def AK (st:St):Option U:=gQ nJ F nK [.r,.r,.l,.r,.b,.i] f306 J n st
def Cu:=jG nJ F nK [.r,.r,.l,.r,.b] f306 kI 2
theorem Hh (t20:List Int)(t21 t22:Int)(xs:List Int):AJ F J (n+1) (tz t20 t21 t22 xs)=br (decide (t22<t21)) (ck (cr t22 (t20.length:Int)) ((Fc F0 xs (aU t20 t22 0)).bind fun VM=>AJ F J n (tz t20 t21 (ak (t22+1)) VM.1))) (J (.exit 2) (Nt xs)):=by kernel_rfl
theorem Hi (b t10:List Int)(t11 t12:Int)(xs:List Int):AK F J (n+1) (tB b t10 t11 t12 xs)=br (decide (t12<t11)) (ck (cr t12 (t10.length:Int)) ((Fc F0 xs (aU t10 t12 0)).bind fun Oq=>AK F J n (tB b t10 t11 (ak (t12+1)) Oq.1))) (J (.exit 0) (Nu b xs)):=by kernel_rfl
theorem abV (xs:List Int):Ct F (.exit 2) (Nt xs)=some (xs,()):=by kernel_rfl
theorem abW (b xs:List Int):Cu F (.exit 0) (Nu b xs)=AJ F (Ct F) F.n (tz b (b.length:Int) 0 xs):=by kernel_rfl
def Iz (a b:List Int):=bJ nJ F nK f306 aks kI 2 (a,b,())
theorem alS (a b:List Int):Iz F a b=AK F (Cu F) F.n (tB b a (a.length:Int) 0 []):=by kernel_rfl
def Qu:Any:=.one ⟨aks,kI,2,fun x=>Iz F0 x.1 x.2.1⟩
theorem alT:bz 306 Qu:=aA nJ ⟨apt,trivial⟩ func306 nK (by kernel_rfl)
def T7:=[(306,Qu)]
def DZ (a b:D9):=bJ T7 F ab f258 xT ajc 2 (a,b,())
theorem ahk (a b:D9):DZ F a b=br (a.1 != b.1) (some ((0,al,[]),false,())) (br (!(a.2.1.toList==b.2.1.toList)) (some ((0,al,[]),false,())) ((Iz F0 a.2.2 b.2.2).bind fun Bg=>some ((a.1,a.2.1,Bg.1),true,()))):=by kernel_rfl
def Nv:Any:=.one ⟨xT,ajc,2,fun x=>DZ F0 x.1 x.2.1⟩
theorem ahl:bz 258 Nv:=aA T7 ⟨alT,trivial⟩ func258 ab (by kernel_rfl)
def wH:=[(93,Ch),(135,xp),(155,pB),(156,p9),(193,iZ),(258,Nv),(259,yH)]
def wI:Nat->Option Hint:=look [(5,{live:=[1,3,5,8,9],xl:=[1,3,5,8,9],rl:=[6,7]})]
def qJ (list:List D9)(k c c1 p:Int)(p1:ByteArray)(p2:List Int)(xs:List D9):= eD 71 [(1,j9 74 (K9) list),cW 3,cW 5,(8,.v (.c (.own 1000000 none))),(9,bW k)] [(3,[aq c,aq c1]),(5,[aq p,.str p1,.ro false 3 (.int .i64) p2])] [aB 1000000 74 K9 xs]
def oV (list:List D9)(k c c1 p:Int)(p1:ByteArray)(p2:List Int)(xs:List D9):= eD 71 [(1,j9 74 (K9) list),cW 3,cW 5,(8,.v (.c (.own 1000000 none))),(9,bW k)] [(3,[aq c,aq c1]),(5,[aq p,.str p1,.ro false 3 (.int .i64) p2])] [aB 1000000 74 K9 xs]
def wJ (st:St):Option U:=gQ wH F wI [.r,.r,.r,.r,.l,.b,.i] f212 J n st
def qK:=jG wH F wI [.r,.r,.r,.r,.l,.b] f212 atT 2
theorem Fe (list:List D9)(k c c1 p:Int)(p1:ByteArray)(p2:List Int)(xs:List D9):wJ F J (n+1) (qJ list k c c1 p p1 p2 xs)=br (decide (k<(xs.length:Int))) (ck (cr k (xs.length:Int)) ((gq F0 (aU xs k K9.aG) (p,p1,p2)).bind fun VM=>br (decide (VM.1<0)) (wJ F J n (qJ list (ak (k+1)) c c1 p p1 p2 xs)) (J (.exit 0) (oV list k c c1 p p1 p2 xs)))) (J (.exit 0) (oV list k c c1 p p1 p2 xs)):=by kernel_rfl
theorem Y3 (list:List D9)(k c c1 p:Int)(p1:ByteArray)(p2:List Int)(xs:List D9):qK F (.exit 0) (oV list k c c1 p p1 p2 xs)=br (decide (k<(xs.length:Int))) (ck (cr k (xs.length:Int)) ((gq F0 (aU xs k K9.aG) (p,p1,p2)).bind fun Rg=>br (Rg.1==0) (ck (cr k (xs.length:Int)) ((DZ F0 (aU xs k K9.aG) (p,p1,p2)).bind fun Ya=>ck (cr k (xs.length:Int)) ((lF F0 (c,c1) (xs.set k.toNat Ya.1)).bind fun r66=>br (!r66.1) ((fz F0 list).bind fun r69=>some (r69.1,false,())) (some (xs.set k.toNat Ya.1,true,()))))) ((fY F0 (p,p1,p2)).bind fun Ja=>ck (aiR k xs.length [Ja.1].length) ((lF F0 (c,c1) (xs.take k.toNat++[Ja.1]++xs.drop k.toNat)).bind fun r66=>br (!r66.1) ((fz F0 list).bind fun r69=>some (r69.1,false,())) (some (xs.take k.toNat++[Ja.1]++xs.drop k.toNat,true,())))))) ((fY F0 (p,p1,p2)).bind fun Ja=>ck (aiR k xs.length [Ja.1].length) ((lF F0 (c,c1) (xs.take k.toNat++[Ja.1]++xs.drop k.toNat)).bind fun r66=>br (!r66.1) ((fz F0 list).bind fun r69=>some (r69.1,false,())) (some (xs.take k.toNat++[Ja.1]++xs.drop k.toNat,true,())))):=by kernel_rfl
def fB (c:D1)(list:D13)(p:D9):=bJ wH F wI f212 aD7 atT 2 (c,list,p,())
theorem ahm (c:D1)(list:D13)(p:D9):fB F c list p=(rD F0 c p).bind fun cP=>br (!cP.1) ((fz F0 list).bind fun pa=>some (pa.1,false,())) ((fz F0 list).bind fun fD=>wJ F (qK F) F.n (qJ list 0 c.1 c.2 p.1 p.2.1 p.2.2 fD.1)):=by kernel_rfl
def lO:Any:=.one ⟨aD7,atT,2,fun x=>fB F0 x.1 x.2.1 x.2.2.1⟩
theorem tC:bz 212 lO:=aA wH ⟨TP,Nf,Af,E7,nH,ahl,UE,trivial⟩ func212 wI (by kernel_rfl)
def wK:=[(193,iZ)]
def wL:Nat->Option Hint:=look [(2,{live:=[1,2,6,9,10,11],yz:=[(6,2,3,.int .i64)],xl:=[1,2,6],rl:=[6]})]
def lP (view:Int)(name:ByteArray)(t9:List D9)(t10 t11 t6:Int)(t61:ByteArray)(xs:List Int):= eD 31 [(1,bW view),(2,UP name),cW 6,(9,j9 74 (K9) t9),(10,bW t10),(11,bW t11)] [(6,[aq t6,.str t61,.own 1000000 none])] [aB 1000000 3 (.int .i64) xs]
def Nw (t6:Int)(t61:ByteArray)(xs:List Int):= eD 31 [cW 6] [(6,[aq t6,.str t61,.own 1000000 none])] [aB 1000000 3 (.int .i64) xs]
def KR (view:Int)(name:ByteArray)(t6:Int)(t61:ByteArray)(xs:List Int):= eD 31 [(1,bW view),(2,UP name),cW 6] [(6,[aq t6,.str t61,.own 1000000 none])] [aB 1000000 3 (.int .i64) xs]
def pG (st:St):Option U:=gQ wK F wL [.r,.l,.r,.b,.i] f252 J n st
def qL:=jG wK F wL [.r,.l,.r,.b] f252 ib 2
theorem Ff (view:Int)(name:ByteArray)(t9:List D9)(t10 t11 t6:Int)(t61:ByteArray)(xs:List Int):pG F J (n+1) (lP view name t9 t10 t11 t6 t61 xs)=br (decide (t11<t10)) (ck (cr t11 (t9.length:Int)) (br ((aU t9 t11 K9.aG).1==view) (br ((aU t9 t11 K9.aG).2.1.toList==name.toList) ((fY F0 (aU t9 t11 K9.aG)).bind fun uC=>J .ret (Nw uC.1.1 uC.1.2.1 uC.1.2.2)) (pG F J n (lP view name t9 t10 (ak (t11+1)) t6 t61 xs))) (pG F J n (lP view name t9 t10 (ak (t11+1)) t6 t61 xs)))) (J (.exit 0) (KR view name t6 t61 xs)):=by kernel_rfl
theorem abX (t6:Int)(t61:ByteArray)(xs:List Int):qL F .ret (Nw t6 t61 xs)=some ((t6,t61,xs),()):=by kernel_rfl
theorem Y4 (view:Int)(name:ByteArray)(t6:Int)(t61:ByteArray)(xs:List Int):qL F (.exit 0) (KR view name t6 t61 xs)=some ((view,name,[]),()):=by kernel_rfl
def uY (list:D13)(view:Int)(name:ByteArray):=bJ wK F wL f252 aDW ib 2 (list,view,name,())
theorem ahn (list:D13)(view:Int)(name:ByteArray):uY F list view name=pG F (qL F) F.n (lP view name list (list.length:Int) 0 0 al []):=by kernel_rfl
def AL:Any:=.one ⟨aDW,ib,2,fun x=>uY F0 x.1 x.2.1 x.2.2.1⟩
theorem Qv:bz 252 AL:=aA wK ⟨nH,trivial⟩ func252 wL (by kernel_rfl)
def ajs:=[(32,dD)]
def tD (c:D1)(view:Int):=bJ ajs F ab f204 ai2 dK 1 (c,view,())
theorem aws (c:D1)(view:Int):tD F c view=(fh F0 c).bind fun r6=>br (!r6.1) (some (-1,())) (br (decide (view<0)) (some (-1,())) (ck (!(c.1==0)) (some (Int.tmod view c.1,())))):=by kernel_rfl
def mf:Any:=.one ⟨ai2,dK,1,fun x=>tD F0 x.1 x.2.1⟩
theorem tE:bz 204 mf:=aA ajs ⟨eP,trivial⟩ func204 ab (by kernel_rfl)
def aaC:=[(152,jX),(192,jo)]
def Fg (c:D1)(p:D9):=bJ aaC F ab f253 Gx ajc 2 (c,p,())
theorem apu (c:D1)(p:D9):Fg F c p=(iN F0 p).bind fun l6=>(nr F0 c l6.1).bind fun fD=>br (!fD.1) (some ((0,al,[]),false,())) (br (l6.1.1==0) (some ((0,al,[]),false,())) (some (l6.1,true,()))):=by kernel_rfl
def T8:Any:=.one ⟨Gx,ajc,2,fun x=>Fg F0 x.1 x.2.1⟩
theorem apv:bz 253 T8:=aA aaC ⟨oF,nG,trivial⟩ func253 ab (by kernel_rfl)
def ajt:=[(47,cO),(79,ch),(194,Cp)]
def nL (c:D1)(r:bD)(sN:Int)(m:Oo):=bJ ajt F ab f213 aD8 ik 2 (c,r,sN,m,())
theorem awt (c:D1)(r:bD)(sN:Int)(m:Oo):nL F c r sN m=(aE F0 r).bind fun cP=>(Au F0 m).bind fun fD=>ck (fp F cP.1.2.2.2.2.2.2.2.length [(sN,fD.1)].length 224) ((db F0 c (cP.1.1,cP.1.2.1,cP.1.2.2.1,cP.1.2.2.2.1,cP.1.2.2.2.2.1,cP.1.2.2.2.2.2.1,cP.1.2.2.2.2.2.2.1,cP.1.2.2.2.2.2.2.2++[(sN,fD.1)])).bind fun r24=>br (!r24.1) ((aE F0 r).bind fun Bg=>some (Bg.1,false,())) (some ((cP.1.1,cP.1.2.1,cP.1.2.2.1,cP.1.2.2.2.1,cP.1.2.2.2.2.1,cP.1.2.2.2.2.2.1,cP.1.2.2.2.2.2.2.1,cP.1.2.2.2.2.2.2.2++[(sN,fD.1)]),true,()))):=by kernel_rfl
def uZ:Any:=.one ⟨aD8,ik,2,fun x=>nL F0 x.1 x.2.1 x.2.2.1 x.2.2.2.1⟩
theorem IA:bz 213 uZ:=aA ajt ⟨dr,cL,TX,trivial⟩ func213 ab (by kernel_rfl)
def aev:=[(204,mf),(213,uZ),(245,Ix),(247,AI)]
def KS (c:D1)(r:bD)(q:D9):=bJ aev F ab f254 ajd ik 0 (c,r,q,())
theorem asB (c:D1)(r:bD)(q:D9):KS F c r q=(Qq F0 c r.2.2.2.1 q).bind fun dW=>(xw F0 c r dW.1).bind fun EH=>br (!EH.2.1) (some (r,false,())) (br (decide ((ak (q.1+1))>60)) (some (EH.1,true,())) ((tD F0 c (ak (q.1+1))).bind fun Re=>br (Re.1 != r.1) ((nL F0 c (EH.1.1,(if (ak (q.1+1))>EH.1.2.1 then (ak (q.1+1)) else EH.1.2.1,EH.1.2.2)) Re.1 (3,ak (q.1+1),(al,0,al,[]),(0,al,[]),q,r.1,0,0,0,0)).bind fun r52=>some (r52.1,r52.2.1,())) (some ((EH.1.1,(if (ak (q.1+1))>EH.1.2.1 then (ak (q.1+1)) else EH.1.2.1,EH.1.2.2)),true,())))):=by kernel_rfl
def Xe:Any:=.one ⟨ajd,ik,0,fun x=>KS F0 x.1 x.2.1 x.2.2.1⟩
theorem asC:bz 254 Xe:=aA aev ⟨tE,IA,Xc,OE,trivial⟩ func254 ab (by kernel_rfl)
def aju:=[(32,dD),(67,bR)]
def Jd (c:D1)(view i:Int):=bJ aju F ab f303 PJ dK 1 (c,view,i,())
theorem awu (c:D1)(view i:Int):Jd F c view i=(fh F0 c).bind fun r8=>br (!r8.1) (some (-1,())) (br (decide (view<0)) (some (-1,())) ((bg F0 i 0 (ak (c.1-1))).bind fun dW=>br (!dW.1) (some (-1,())) (ck (!(c.1==0)) (ck (!(c.1==0)) (some (Int.tmod (ak ((ak (i-(Int.tmod view c.1)))+c.1)) c.1,())))))):=by kernel_rfl
def D0:Any:=.one ⟨PJ,dK,1,fun x=>Jd F0 x.1 x.2.1 x.2.2.1⟩
theorem RW:bz 303 D0:=aA aju ⟨eP,cq,trivial⟩ func303 ab (by kernel_rfl)
def ajv:=[(32,dD),(67,bR)]
def Yj (c:D1)(view aot:Int):=bJ ajv F ab f305 PJ dK 1 (c,view,aot,())
theorem awv (c:D1)(view aot:Int):Yj F c view aot=(fh F0 c).bind fun r8=>br (!r8.1) (some (-1,())) (br (decide (view<0)) (some (-1,())) ((bg F0 aot 0 (ak (c.1-1))).bind fun dW=>br (!dW.1) (some (-1,())) (ck (!(c.1==0)) (ck (!(c.1==0)) (some (Int.tmod (ak ((Int.tmod view c.1)+aot)) c.1,())))))):=by kernel_rfl
def aaD:Any:=.one ⟨PJ,dK,1,fun x=>Yj F0 x.1 x.2.1 x.2.2.1⟩
theorem aww:bz 305 aaD:=aA ajv ⟨eP,cq,trivial⟩ func305 ab (by kernel_rfl)
def atX:=[(303,D0),(305,aaD)]
def Yk (c:D1)(view i:Int):=bJ atX F ab f257 PJ dK 1 (c,view,i,())
theorem aBO (c:D1)(view i:Int):Yk F c view i=(Jd F0 c view i).bind fun dB=>br (decide (dB.1<1)) (some (-1,())) (ck (!(c.2==0)) ((Yj F0 c view (ak (Int.tdiv (ak (dB.1-1)) c.2))).bind fun ia=>some (ia.1,()))):=by kernel_rfl
def Xf:Any:=.one ⟨PJ,dK,1,fun x=>Yk F0 x.1 x.2.1 x.2.2.1⟩
theorem apw:bz 257 Xf:=aA atX ⟨RW,aww,trivial⟩ func257 ab (by kernel_rfl)
end
end Go.Am.Tryz
namespace Go.Am.Tryz
open Go.Am Go.Proofs Go.Proofs.Tryz
noncomputable section
variable {U:Type} (F:sd) (J:Ex->St->Option U) (n:Nat)
def RX:=[(257,Xf),(303,D0)]
def RY:Nat->Option Hint:=look [(2,{live:=[1,2,3,7],mat:=[(7,3,.int .i64)],xl:=[7],rl:=[6]})]
def IB (view i c c1:Int)(xs:List Int):= eD 22 [(1,bW view),(2,bW i),cW 3,(7,.v (.c (.own 1000000 none)))] [(3,[aq c,aq c1])] [aB 1000000 3 (.int .i64) xs]
def OF (xs:List Int):= eD 22 [(7,.v (.c (.own 1000000 none)))] [] [aB 1000000 3 (.int .i64) xs]
def RZ (st:St):Option U:=gQ RX F RY [.r,.r,.l,.b,.i] f304 J n st
def aew:=jG RX F RY [.r,.r,.l,.b] f304 kI 2
theorem T9 (view i c c1:Int)(xs:List Int):RZ F J (n+1) (IB view i c c1 xs)=(Jd F0 (c,c1) view i).bind fun dB=>br (decide (dB.1>=0)) (ck (fp F xs.length [i].length 8) ((Yk F0 (c,c1) view i).bind fun o9=>RZ F J n (IB view o9.1 c c1 (xs++[i])))) (J (.exit 0) (OF xs)):=by kernel_rfl
theorem apx (xs:List Int):aew F (.exit 0) (OF xs)=some (xs,()):=by kernel_rfl
def aex (c:D1)(view i:Int):=bJ RX F RY f304 PJ kI 2 (c,view,i,())
theorem ayS (c:D1)(view i:Int):aex F c view i=RZ F (aew F) F.n (IB view i c.1 c.2 []):=by kernel_rfl
def aey:Any:=.one ⟨PJ,kI,2,fun x=>aex F0 x.1 x.2.1 x.2.2.1⟩
theorem ayT:bz 304 aey:=aA RX ⟨apw,RW,trivial⟩ func304 RY (by kernel_rfl)
def IC:=[(40,ef),(303,D0),(304,aey)]
def ID:Nat->Option Hint:=look [(3,{live:=[1,2,3,7,8],mat:=[(7,3,.int .i64)],xl:=[7],rl:=[6]})]
def rN (view i k c c1:Int)(xs:List Int):= eD 33 [(1,bW view),(2,bW i),cW 3,(7,.v (.c (.own 1000000 none))),(8,bW k)] [(3,[aq c,aq c1])] [aB 1000000 3 (.int .i64) xs]
def Gi (xs:List Int):= eD 33 [(7,.v (.c (.own 1000000 none)))] [] [aB 1000000 3 (.int .i64) xs]
def AM (st:St):Option U:=gQ IC F ID [.r,.r,.l,.r,.b,.i] f255 J n st
def KT:=jG IC F ID [.r,.r,.l,.r,.b] f255 kI 2
theorem AN (view i k c c1:Int)(xs:List Int):AM F J (n+1) (rN view i k c c1 xs)=(Jd F0 (c,c1) view i).bind fun cP=>br (decide (cP.1>=0)) (br (decide (k<c)) ((aex F0 (c,c1) view k).bind fun Wl=>(er F0 Wl.1 i).bind fun Bg=>br Bg.1 (ck (fp F xs.length [k].length 8) (AM F J n (rN view i (ak (k+1)) c c1 (xs++[k])))) (AM F J n (rN view i (ak (k+1)) c c1 xs))) (J (.exit 0) (Gi xs))) (J (.exit 0) (Gi xs)):=by kernel_rfl
theorem Qw (xs:List Int):KT F (.exit 0) (Gi xs)=some (xs,()):=by kernel_rfl
def R2 (c:D1)(view i:Int):=bJ IC F ID f255 PJ kI 2 (c,view,i,())
theorem asD (c:D1)(view i:Int):R2 F c view i=AM F (KT F) F.n (rN view i 0 c.1 c.2 []):=by kernel_rfl
def Xg:Any:=.one ⟨PJ,kI,2,fun x=>R2 F0 x.1 x.2.1 x.2.2.1⟩
theorem asE:bz 255 Xg:=aA IC ⟨fA,RW,ayT,trivial⟩ func255 ID (by kernel_rfl)
def D7:=[(40,ef)]
def Ea:Nat->Option Hint:=look [(3,{live:=[1,5,8,9,10],xl:=[5],rl:=[4]})]
def pH (b:List Int)(n1:Int)(t8:List Int)(t9 t10:Int):= cV 21 [(1,j9 3 (.int .i64) b),(5,bW n1),(8,j9 3 (.int .i64) t8),(9,bW t9),(10,bW t10)]
def Qx (n1:Int):= cV 21 [(5,bW n1)]
def u1 (st:St):Option U:=gQ D7 F Ea [.r,.r,.l,.r,.b,.i] f256 J n st
def Gj:=jG D7 F Ea [.r,.r,.l,.r,.b] f256 dK 1
theorem KU (b:List Int)(n1:Int)(t8:List Int)(t9 t10:Int):u1 F J (n+1) (pH b n1 t8 t9 t10)=br (decide (t10<t9)) (ck (cr t10 (t8.length:Int)) ((er F0 b (aU t8 t10 0)).bind fun o9=>br o9.1 (u1 F J n (pH b (ak (n1+1)) t8 t9 (ak (t10+1)))) (u1 F J n (pH b n1 t8 t9 (ak (t10+1)))))) (J (.exit 0) (Qx n1)):=by kernel_rfl
theorem aez (n1:Int):Gj F (.exit 0) (Qx n1)=some (n1,()):=by kernel_rfl
def Nx (a b:List Int):=bJ D7 F Ea f256 aks dK 1 (a,b,())
theorem apy (a b:List Int):Nx F a b=u1 F (Gj F) F.n (pH b 0 a (a.length:Int) 0):=by kernel_rfl
def Ua:Any:=.one ⟨aks,dK,1,fun x=>Nx F0 x.1 x.2.1⟩
theorem apz:bz 256 Ua:=aA D7 ⟨fA,trivial⟩ func256 Ea (by kernel_rfl)
def aeA:=[(47,cO),(79,ch),(204,mf),(213,uZ),(252,AL),(253,T8),(254,Xe),(255,Xg),(256,Ua),(257,Xf)]
def oW (c:D1)(r:bD)(view:Int)(name:ByteArray)(push:Bool):=bJ aeA F ab f211 atV ik 0 (c,r,view,name,push,())
theorem asF (c:D1)(r:bD)(view:Int)(name:ByteArray)(push:Bool):oW F c r view name push=(uY F0 r.2.2.2.2.2.1 view name).bind fun ia=>br ((ia.1.2.2.length:Int)==0) ((aE F0 r).bind fun HM=>some (HM.1,false,())) ((db F0 c r).bind fun UG=>br (!UG.1) ((aE F0 r).bind fun HM=>some (HM.1,false,())) (br (name.toList==al.toList) ((aE F0 r).bind fun HM=>some (HM.1,false,())) ((tD F0 c view).bind fun xW=>br (xW.1==r.1) ((Fg F0 c ia.1).bind fun pN=>br (!pN.2.1) ((aE F0 r).bind fun Zw=>some (Zw.1,false,())) ((KS F0 c r pN.1).bind fun r58=>br (!r58.2.1) ((aE F0 r).bind fun r64=>some (r64.1,false,())) (some (r58.1,true,())))) ((R2 F0 c view r.1).bind fun r70=>br (!push) ((Nx F0 r70.1 ia.1.2.2).bind fun r77=>br (decide (r77.1<(r70.1.length:Int))) ((aE F0 r).bind fun r83=>some (r83.1,false,())) ((Yk F0 c view r.1).bind fun r90=>(nL F0 c r r90.1 (2,0,(al,0,al,[]),ia.1,(0,al,[]),0,0,0,0,0)).bind fun r93=>some (r93.1,r93.2.1,()))) ((Yk F0 c view r.1).bind fun r90=>(nL F0 c r r90.1 (2,0,(al,0,al,[]),ia.1,(0,al,[]),0,0,0,0,0)).bind fun r93=>some (r93.1,r93.2.1,())))))):=by kernel_rfl
def AO:Any:=.one ⟨atV,ik,0,fun x=>oW F0 x.1 x.2.1 x.2.2.1 x.2.2.2.1 x.2.2.2.2.1⟩
theorem OG:bz 211 AO:=aA aeA ⟨dr,cL,tE,IA,Qv,apv,asC,asE,apz,apw,trivial⟩ func211 ab (by kernel_rfl)
def Qy:=[(47,cO),(71,eY),(79,ch),(159,nu),(211,AO),(212,lO),(245,Ix),(246,aaz),(247,AI)]
def rO (c:D1)(r:bD)(b:D15):=bJ Qy F ab f197 aD9 ik 1 (c,r,b,())
theorem aeB (c:D1)(r:bD)(b:D15):rO F c r b=(db F0 c r).bind fun pa=>br (!pa.1) ((aE F0 r).bind fun r24=>some (r24.1,false,())) ((oH F0 c b).bind fun EH=>br (!EH.1) ((aE F0 r).bind fun r24=>some (r24.1,false,())) ((fj F0 b.1).bind fun Bg=>(Qq F0 c r.2.2.2.1 b.2).bind fun uD=>(aE F0 r).bind fun r35=>br (decide (Bg.1>=r.2.1)) ((Yi F0 c uD.1 b).bind fun Rh=>(xw F0 c (r35.1.1,Bg.1,r35.1.2.2) Rh.1).bind fun Zw=>br (!Zw.2.1) ((aE F0 r).bind fun r59=>some (r59.1,false,())) (br (!Rh.2.1) (some (Zw.1,true,())) ((fB F0 c Zw.1.2.2.2.2.2.1 (Bg.1,b.1,[r.1])).bind fun r74=>br (!r74.2.1) ((aE F0 r).bind fun r81=>some (r81.1,false,())) ((oW F0 c (Zw.1.1,Zw.1.2.1,Zw.1.2.2.1,Zw.1.2.2.2.1,Zw.1.2.2.2.2.1,r74.1,Zw.1.2.2.2.2.2.2) Bg.1 b.1 false).bind fun r88=>some (r88.1,true,()))))) ((xw F0 c r35.1 uD.1).bind fun Zw=>br (!Zw.2.1) ((aE F0 r).bind fun r59=>some (r59.1,false,())) (some (Zw.1,true,()))))):=by kernel_rfl
def xy:Any:=.one ⟨aD9,ik,1,fun x=>rO F0 x.1 x.2.1 x.2.2.1⟩
theorem Ny:bz 197 xy:=aA Qy ⟨dr,gp,cL,wx,OG,tC,Xc,awr,OE,trivial⟩ func197 ab (by kernel_rfl)
def Ub:=[(47,cO),(79,ch),(155,pB),(211,AO),(212,lO)]
def Ec (c:D1)(r:bD)(p:D9):=bJ Ub F ab f198 ajd ik 1 (c,r,p,())
theorem aho (c:D1)(r:bD)(p:D9):Ec F c r p=(db F0 c r).bind fun cp=>br (!cp.1) ((aE F0 r).bind fun qR=>some (qR.1,false,())) ((rD F0 c p).bind fun Oq=>br (!Oq.1) ((aE F0 r).bind fun qR=>some (qR.1,false,())) (br (p.2.1.toList==al.toList) ((aE F0 r).bind fun qR=>some (qR.1,false,())) (br (decide (p.1<r.2.1)) ((aE F0 r).bind fun qR=>some (qR.1,false,())) ((fB F0 c r.2.2.2.2.2.1 p).bind fun xW=>br (!xW.2.1) ((aE F0 r).bind fun Rh=>some (Rh.1,false,())) ((aE F0 r).bind fun r48=>(oW F0 c (r48.1.1,r48.1.2.1,r48.1.2.2.1,r48.1.2.2.2.1,r48.1.2.2.2.2.1,xW.1,r48.1.2.2.2.2.2.2) p.1 p.2.1 false).bind fun r58=>some (r58.1,true,())))))):=by kernel_rfl
def Nz:Any:=.one ⟨ajd,ik,1,fun x=>Ec F0 x.1 x.2.1 x.2.2.1⟩
theorem ahp:bz 198 Nz:=aA Ub ⟨dr,cL,Af,OG,tC,trivial⟩ func198 ab (by kernel_rfl)
def ajw:=[(214,F7),(252,AL)]
abbrev aH3:List (Ty×Bool):=[(K1,true),(di,true),(.int .i64,false)]
def tF (c:D1)(r:bD)(view:Int):=bJ ajw F ab f248 aH3 bd 1 (c,r,view,())
theorem awx (c:D1)(r:bD)(view:Int):tF F c r view=(uY F0 r.2.2.2.2.2.1 view al).bind fun ij=>(E3 F0 c).bind fun l6=>some (decide ((ij.1.2.2.length:Int)>=l6.1),()):=by kernel_rfl
def OH:Any:=.one ⟨aH3,bd,1,fun x=>tF F0 x.1 x.2.1 x.2.2.1⟩
theorem aeC:bz 248 OH:=aA ajw ⟨WH,Qv,trivial⟩ func248 ab (by kernel_rfl)
def Uc:=[(47,cO),(67,bR),(79,ch),(152,jX),(204,mf),(212,lO),(245,Ix),(247,AI),(248,OH)]
def Ed (c:D1)(r:bD)(view:Int)(q:D9)(dk:Int):=bJ Uc F ab f199 aEa ik 2 (c,r,view,q,dk,())
theorem ahq (c:D1)(r:bD)(view:Int)(q:D9)(dk:Int):Ed F c r view q dk=(db F0 c r).bind fun o9=>br (!o9.1) ((aE F0 r).bind fun UQ=>some (UQ.1,false,())) ((bg F0 view 1 60).bind fun EH=>br (!EH.1) ((aE F0 r).bind fun UQ=>some (UQ.1,false,())) ((nr F0 c q).bind fun uC=>br (!uC.1) ((aE F0 r).bind fun UQ=>some (UQ.1,false,())) ((bg F0 dk 0 (ak (c.1-1))).bind fun qR=>br (!qR.1) ((aE F0 r).bind fun UQ=>some (UQ.1,false,())) ((Qq F0 c r.2.2.2.1 q).bind fun Rh=>(xw F0 c r Rh.1).bind fun pN=>br (!pN.2.1) ((aE F0 r).bind fun Zw=>some (Zw.1,false,())) ((tD F0 c view).bind fun r56=>br (r56.1==r.1) (br (decide (view>=r.2.1)) ((fB F0 c pN.1.2.2.2.2.2.1 (view,al,[dk])).bind fun r74=>br (!r74.2.1) ((aE F0 r).bind fun r81=>some (r81.1,false,())) ((tF F0 c (pN.1.1,(if (if 60<(ak (q.1+1)) then 60 else (ak (q.1+1)))>pN.1.2.1 then (if 60<(ak (q.1+1)) then 60 else (ak (q.1+1))) else pN.1.2.1,(pN.1.2.2.1,pN.1.2.2.2.1,pN.1.2.2.2.2.1,r74.1,pN.1.2.2.2.2.2.2))) view).bind fun r93=>br r93.1 (some ((pN.1.1,(if view>(if (if 60<(ak (q.1+1)) then 60 else (ak (q.1+1)))>pN.1.2.1 then (if 60<(ak (q.1+1)) then 60 else (ak (q.1+1))) else pN.1.2.1) then view else (if (if 60<(ak (q.1+1)) then 60 else (ak (q.1+1)))>pN.1.2.1 then (if 60<(ak (q.1+1)) then 60 else (ak (q.1+1))) else pN.1.2.1),(pN.1.2.2.1,pN.1.2.2.2.1,pN.1.2.2.2.2.1,r74.1,pN.1.2.2.2.2.2.2))),true,())) (some ((pN.1.1,(if (if 60<(ak (q.1+1)) then 60 else (ak (q.1+1)))>pN.1.2.1 then (if 60<(ak (q.1+1)) then 60 else (ak (q.1+1))) else pN.1.2.1,(pN.1.2.2.1,pN.1.2.2.2.1,pN.1.2.2.2.2.1,r74.1,pN.1.2.2.2.2.2.2))),true,())))) ((tF F0 c (pN.1.1,(if (if 60<(ak (q.1+1)) then 60 else (ak (q.1+1)))>pN.1.2.1 then (if 60<(ak (q.1+1)) then 60 else (ak (q.1+1))) else pN.1.2.1,pN.1.2.2)) view).bind fun r93=>br r93.1 (some ((pN.1.1,(if view>(if (if 60<(ak (q.1+1)) then 60 else (ak (q.1+1)))>pN.1.2.1 then (if 60<(ak (q.1+1)) then 60 else (ak (q.1+1))) else pN.1.2.1) then view else (if (if 60<(ak (q.1+1)) then 60 else (ak (q.1+1)))>pN.1.2.1 then (if 60<(ak (q.1+1)) then 60 else (ak (q.1+1))) else pN.1.2.1),pN.1.2.2)),true,())) (some ((pN.1.1,(if (if 60<(ak (q.1+1)) then 60 else (ak (q.1+1)))>pN.1.2.1 then (if 60<(ak (q.1+1)) then 60 else (ak (q.1+1))) else pN.1.2.1,pN.1.2.2)),true,())))) ((tF F0 c (pN.1.1,(if (if 60<(ak (q.1+1)) then 60 else (ak (q.1+1)))>pN.1.2.1 then (if 60<(ak (q.1+1)) then 60 else (ak (q.1+1))) else pN.1.2.1,pN.1.2.2)) view).bind fun r93=>br r93.1 (some ((pN.1.1,(if view>(if (if 60<(ak (q.1+1)) then 60 else (ak (q.1+1)))>pN.1.2.1 then (if 60<(ak (q.1+1)) then 60 else (ak (q.1+1))) else pN.1.2.1) then view else (if (if 60<(ak (q.1+1)) then 60 else (ak (q.1+1)))>pN.1.2.1 then (if 60<(ak (q.1+1)) then 60 else (ak (q.1+1))) else pN.1.2.1),pN.1.2.2)),true,())) (some ((pN.1.1,(if (if 60<(ak (q.1+1)) then 60 else (ak (q.1+1)))>pN.1.2.1 then (if 60<(ak (q.1+1)) then 60 else (ak (q.1+1))) else pN.1.2.1,pN.1.2.2)),true,())))))))):=by kernel_rfl
def NA:Any:=.one ⟨aEa,ik,2,fun x=>Ed F0 x.1 x.2.1 x.2.2.1 x.2.2.2.1 x.2.2.2.2.1⟩
theorem ahr:bz 199 NA:=aA Uc ⟨dr,cq,cL,oF,tE,tC,Xc,OE,aeC,trivial⟩ func199 ab (by kernel_rfl)
def Xh:=[(92,F9),(134,Co),(299,xQ),(301,EF)]
def IE (p:D5)(x:D4):=bJ Xh F ab f249 aEb VO 2 (p,x,())
theorem alU (p:D5)(x:D4):IE F p x=br (decide ((qW (fun e_=>RC e_ x) p 0)<0)) ((jL F0 p).bind fun o9=>ck (aiR (p.length:Int) o9.1.length [x].length) ((x9 F0 (o9.1.take (p.length:Int).toNat++[x]++o9.1.drop (p.length:Int).toNat)).bind fun gL=>br (!gL.1) ((jL F0 p).bind fun Wl=>some (Wl.1,false,())) (some (o9.1.take (p.length:Int).toNat++[x]++o9.1.drop (p.length:Int).toNat,true,())))) ((jL F0 p).bind fun o9=>ck (aiR (qW (fun e_=>RC e_ x) p 0) o9.1.length [x].length) ((x9 F0 (o9.1.take (qW (fun e_=>RC e_ x) p 0).toNat++[x]++o9.1.drop (qW (fun e_=>RC e_ x) p 0).toNat)).bind fun gL=>br (!gL.1) ((jL F0 p).bind fun Wl=>some (Wl.1,false,())) (some (o9.1.take (qW (fun e_=>RC e_ x) p 0).toNat++[x]++o9.1.drop (qW (fun e_=>RC e_ x) p 0).toNat,true,())))):=by kernel_rfl
def Qz:Any:=.one ⟨aEb,VO,2,fun x=>IE F0 x.1 x.2.1⟩
theorem alV:bz 249 Qz:=aA Xh ⟨WJ,TV,RE,YN,trivial⟩ func249 ab (by kernel_rfl)
def aaE:=[(47,cO),(79,ch),(249,Qz)]
def NB (c:D1)(r:bD)(x:D4):=bJ aaE F ab f200 aEc ik 2 (c,r,x,())
theorem apA (c:D1)(r:bD)(x:D4):NB F c r x=(aE F0 r).bind fun cP=>(db F0 c r).bind fun pa=>br (!pa.1) (some (cP.1,false,())) ((IE F0 r.2.2.2.2.1 x).bind fun gL=>some ((cP.1.1,cP.1.2.1,cP.1.2.2.1,cP.1.2.2.2.1,gL.1,cP.1.2.2.2.2.2),gL.2.1,())):=by kernel_rfl
def Ud:Any:=.one ⟨aEc,ik,2,fun x=>NB F0 x.1 x.2.1 x.2.2.1⟩
theorem apB:bz 200 Ud:=aA aaE ⟨dr,cL,alV,trivial⟩ func200 ab (by kernel_rfl)
def tG:=[(193,iZ)]
def tH:Nat->Option Hint:=look [(3,{live:=[1,5,8,9,10],mat:=[(5,74,K9)],xl:=[5],rl:=[4]})]
def kt (view:Int)(t8:List D9)(t9 t10:Int)(xs:List D9):= eD 25 [(1,bW view),(5,.v (.c (.own 1000000 none))),(8,j9 74 (K9) t8),(9,bW t9),(10,bW t10)] [] [aB 1000000 74 K9 xs]
def Hj (xs:List D9):= eD 25 [(5,.v (.c (.own 1000000 none)))] [] [aB 1000000 74 K9 xs]
def nM (st:St):Option U:=gQ tG F tH [.r,.r,.l,.r,.b,.i] f201 J n st
def xz:=jG tG F tH [.r,.r,.l,.r,.b] f201 GD 2
theorem By (view:Int)(t8:List D9)(t9 t10:Int)(xs:List D9):nM F J (n+1) (kt view t8 t9 t10 xs)=br (decide (t10<t9)) (ck (cr t10 (t8.length:Int)) (br (decide ((aU t8 t10 K9.aG).1>=view)) ((fY F0 (aU t8 t10 K9.aG)).bind fun EH=>ck (fp F xs.length [EH.1].length 48) (nM F J n (kt view t8 t9 (ak (t10+1)) (xs++[EH.1])))) (nM F J n (kt view t8 t9 (ak (t10+1)) xs)))) (J (.exit 0) (Hj xs)):=by kernel_rfl
theorem Xi (xs:List D9):xz F (.exit 0) (Hj xs)=some (xs,()):=by kernel_rfl
def iO (list:D13)(view:Int):=bJ tG F tH f201 aEd GD 2 (list,view,())
theorem aeD (list:D13)(view:Int):iO F list view=nM F (xz F) F.n (kt view list (list.length:Int) 0 []):=by kernel_rfl
def KV:Any:=.one ⟨aEd,GD,2,fun x=>iO F0 x.1 x.2.1⟩
theorem aeE:bz 201 KV:=aA tG ⟨nH,trivial⟩ func201 tH (by kernel_rfl)
def tI:Nat->Option Hint:=look [(3,{live:=[0,1,2],yz:=[(0,0,3,.int .i64),(0,1,3,.int .i64),(1,0,3,.int .i64)],xl:=[0,1],rl:=[0]})]
def gY (i:Int)(xs aQ ba bp:List Int):= eD 15 [cW 0,cW 1,(2,bW i)] [(0,[.own 1000000 none,.own 1000001 none]),(1,[.own 1000002 none,.own 1000003 none])] [aB 1000000 3 (.int .i64) xs,aB 1000001 3 (.int .i64) aQ,aB 1000002 3 (.int .i64) ba,aB 1000003 3 (.int .i64) bp]
def Hk (xs aQ ba bp:List Int):= eD 15 [cW 0,cW 1] [(0,[.own 1000000 none,.own 1000001 none]),(1,[.own 1000002 none,.own 1000003 none])] [aB 1000000 3 (.int .i64) xs,aB 1000001 3 (.int .i64) aQ,aB 1000002 3 (.int .i64) ba,aB 1000003 3 (.int .i64) bp]
def j8 (st:St):Option U:=gQ aF F tI [.r,.r,.l,.r,.b,.i] f52 J n st
def ku:=jG aF F tI [.r,.r,.l,.r,.b] f52 qm 2
theorem Bz (i:Int)(xs aQ ba bp:List Int):j8 F J (n+1) (gY i xs aQ ba bp)=br (decide (i<4)) (ck (fp F ba.length [100].length 8) (j8 F J n (gY (ak (i+1)) xs aQ (ba++[100]) bp))) (J (.exit 0) (Hk xs aQ ba bp)):=by kernel_rfl
theorem Xj (xs aQ ba bp:List Int):ku F (.exit 0) (Hk xs aQ ba bp)=some ((ba,bp),()):=by kernel_rfl
def nN: Option (Args qm):=bJ aF F tI f52 [] qm 2 (())
theorem aeF: nN F= ck (okM F 4 4 8) (j8 F (ku F) F.n (gY 0 [] [] [] (List.replicate (4:Int).toNat 0))):=by kernel_rfl
def xA:Any:=.one ⟨[],qm,2,fun x=>nN F0⟩
theorem NC:bz 52 xA:=aA aF trivial func52 tI (by kernel_rfl)
def IF:=[(50,nq)]
def IG:Nat->Option Hint:=look [(4,{live:=[5,13,14,15],mat:=[(5,76,K4)],xl:=[5],rl:=[2]})]
def AP (t14 t15:Int)(xs:List D4)(aQ:List D6):= eD 25 [(5,.v (.c (.own 1000000 none))),(13,.v (.c (.own 1000001 none))),(14,bW t14),(15,bW t15)] [] [aB 1000000 76 K4 xs,aB 1000001 157 K6 aQ]
def Ue (xs:List D4):= eD 25 [(5,.v (.c (.own 1000000 none)))] [] [aB 1000000 76 K4 xs]
def IH (st:St):Option U:=gQ IF F IG [.r,.r,.r,.l,.r,.b,.i] f53 J n st
def KW:=jG IF F IG [.r,.r,.r,.l,.r,.b] f53 kF 2
theorem ND (t14 t15:Int)(xs:List D4)(aQ:List D6):IH F J (n+1) (AP t14 t15 xs aQ)=br (decide (t15<t14)) (ck (cr t15 (aQ.length:Int)) (ck (fp F xs.length (aU aQ t15 (0,[])).2.length 32) (IH F J n (AP t14 (ak (t15+1)) (xs++(aU aQ t15 (0,[])).2) aQ)))) (J (.exit 0) (Ue xs)):=by kernel_rfl
theorem ahs (xs:List D4):KW F (.exit 0) (Ue xs)=some (xs,()):=by kernel_rfl
def xB (s:ByteArray):=bJ IF F IG f53 ed kF 2 (s,())
theorem asG (s:ByteArray):xB F s=(oE F0 s).bind fun ij=>IH F (KW F) F.n (AP (ij.1.length:Int) 0 [] ij.1):=by kernel_rfl
def KX:Any:=.one ⟨ed,kF,2,fun x=>xB F0 x.1⟩
theorem aaF:bz 53 KX:=aA IF ⟨uP,trivial⟩ func53 IG (by kernel_rfl)
def NF:=[(31,gm)]
def kV (l:D43):=bJ NF F ab f100 qm qm 2 (l,())
theorem abY (l:D43):kV F l=(eW F0 l.1).bind fun r5=>(eW F0 l.2).bind fun r8=>some ((r5.1,r8.1),()):=by kernel_rfl
def uq:Any:=.one ⟨qm,qm,2,fun x=>kV F0 x.1⟩
theorem KY:bz 100 uq:=aA NF ⟨j4,trivial⟩ func100 ab (by kernel_rfl)
def tJ:=[(67,bR)]
def tK:Nat->Option Hint:=look [(2,{live:=[1,2,9,10,11],rl:=[6]})]
def oX (low high:Int)(t9:List Int)(t10 t11:Int):= cV 21 [(1,bW low),(2,bW high),(9,j9 3 (.int .i64) t9),(10,bW t10),(11,bW t11)]
def KZ (t6:Bool):= cV 21 [(6,SK t6)]
def Hl   := cV 21 []
def tL (st:St):Option U:=gQ tJ F tK [.r,.l,.r,.b,.i] f54 J n st
def oY:=jG tJ F tK [.r,.l,.r,.b] f54 bd 1
theorem BA (low high:Int)(t9:List Int)(t10 t11:Int):tL F J (n+1) (oX low high t9 t10 t11)=br (decide (t11<t10)) (ck (cr t11 (t9.length:Int)) ((bg F0 (aU t9 t11 0) low high).bind fun Oq=>br (!Oq.1) (J .ret (KZ false)) (tL F J n (oX low high t9 t10 (ak (t11+1)))))) (J (.exit 0) (Hl)):=by kernel_rfl
theorem Y5 (t6:Bool):oY F .ret (KZ t6)=some (t6,()):=by kernel_rfl
theorem Xk: oY F (.exit 0) (Hl)=some (true,()):=by kernel_rfl
abbrev aLD:List (Ty×Bool):=[(.sl 3 (.int .i64),false),(.int .i64,false),(.int .i64,false)]
def rP (list:List Int)(low high:Int):=bJ tJ F tK f54 aLD bd 1 (list,low,high,())
theorem aeG (list:List Int)(low high:Int):rP F list low high=tL F (oY F) F.n (oX low high list (list.length:Int) 0):=by kernel_rfl
def K0:Any:=.one ⟨aLD,bd,1,fun x=>rP F0 x.1 x.2.1 x.2.2.1⟩
theorem aeH:bz 54 K0:=aA tJ ⟨cq,trivial⟩ func54 tK (by kernel_rfl)
def Uf:=[(54,K0)]
def u2 (l:D43):=bJ Uf F ab f21 qm bd 1 (l,())
theorem aht (l:D43):u2 F l=br ((l.1.length:Int)==4) (br ((l.2.length:Int)==4) ((rP F0 l.1 0 400).bind fun o9=>br o9.1 ((rP F0 l.2 0 100).bind fun ia=>some (ia.1,())) (some (false,()))) (some (false,()))) (some (false,())):=by kernel_rfl
def NG:Any:=.one ⟨qm,bd,1,fun x=>u2 F0 x.1⟩
theorem ahu:bz 21 NG:=aA Uf ⟨aeH,trivial⟩ func21 ab (by kernel_rfl)
def apC:=[(21,NG),(100,uq),(153,jW)]
def La (l:D43)(x:D4):=bJ apC F ab f101 aDY aDX 2 (l,x,())
theorem ayU (l:D43)(x:D4):La F l x=(kV F0 l).bind fun r8=>(u2 F0 l).bind fun dB=>br (!dB.1) (some (r8.1,1,())) ((pW F0 x).bind fun pa=>br (!pa.1) (some (r8.1,1,())) (ck (cr x.1 (l.2.length:Int)) (br (decide (x.2.2.2<(aU l.2 x.1 0))) (some (r8.1,2,())) (ck (cr x.1 (l.2.length:Int)) (br (decide (x.2.2.2>(aU l.2 x.1 0))) (some (r8.1,3,())) (ck (cr x.1 (r8.1.2.length:Int)) (ck (cr x.1 (r8.1.2.length:Int)) (ck (cr x.1 (l.1.length:Int)) (br (decide (x.2.2.1>(aU l.1 x.1 0))) (some ((r8.1.1,r8.1.2.set x.1.toNat (ak ((aU r8.1.2 x.1 0)+1))),4,())) (ck (cr x.1 (r8.1.1.length:Int)) (ck (cr x.1 (r8.1.1.length:Int)) (ck (cr x.2.1 ((r8.1.1.set x.1.toNat (ak ((aU r8.1.1 x.1 0)-x.2.2.1))).length:Int)) (ck (cr x.2.1 ((r8.1.1.set x.1.toNat (ak ((aU r8.1.1 x.1 0)-x.2.2.1))).length:Int)) ((u2 F0 ((r8.1.1.set x.1.toNat (ak ((aU r8.1.1 x.1 0)-x.2.2.1))).set x.2.1.toNat (ak ((aU (r8.1.1.set x.1.toNat (ak ((aU r8.1.1 x.1 0)-x.2.2.1))) x.2.1 0)+x.2.2.1)),r8.1.2.set x.1.toNat (ak ((aU r8.1.2 x.1 0)+1)))).bind fun r80=>br (!r80.1) ((kV F0 l).bind fun r83=>some (r83.1,1,())) (some (((r8.1.1.set x.1.toNat (ak ((aU r8.1.1 x.1 0)-x.2.2.1))).set x.2.1.toNat (ak ((aU (r8.1.1.set x.1.toNat (ak ((aU r8.1.1 x.1 0)-x.2.2.1))) x.2.1 0)+x.2.2.1)),r8.1.2.set x.1.toNat (ak ((aU r8.1.2 x.1 0)+1))),0,())))))))))))))))):=by kernel_rfl
def II:Any:=.one ⟨aDY,aDX,2,fun x=>La F0 x.1 x.2.1⟩
theorem Xl:bz 101 II:=aA apC ⟨ahu,KY,oD,trivial⟩ func101 ab (by kernel_rfl)
def Ee:=[(100,uq),(101,II)]
def Ef:Nat->Option Hint:=look [(4,{live:=[4,6,7,14,15,16],mat:=[(7,3,.int .i64)],yz:=[(4,0,3,.int .i64),(4,1,3,.int .i64)],xl:=[4,6,7],rl:=[4,5]})]
def wM (t14:List D4)(t15 t16:Int)(xs aQ ba bp bQ:List Int):= eD 34 [cW 4,cW 6,(7,.v (.c (.own 1000000 none))),(14,j9 76 (K4) t14),(15,bW t15),(16,bW t16)] [(4,[.own 1000001 none,.own 1000002 none]),(6,[.own 1000003 none,.own 1000004 none])] [aB 1000000 3 (.int .i64) xs,aB 1000001 3 (.int .i64) aQ,aB 1000002 3 (.int .i64) ba,aB 1000003 3 (.int .i64) bp,aB 1000004 3 (.int .i64) bQ]
def QA (xs aQ ba bp bQ:List Int):= eD 34 [cW 4,cW 6,(7,.v (.c (.own 1000000 none)))] [(4,[.own 1000001 none,.own 1000002 none]),(6,[.own 1000003 none,.own 1000004 none])] [aB 1000000 3 (.int .i64) xs,aB 1000001 3 (.int .i64) aQ,aB 1000002 3 (.int .i64) ba,aB 1000003 3 (.int .i64) bp,aB 1000004 3 (.int .i64) bQ]
def Eg (st:St):Option U:=gQ Ee F Ef [.r,.r,.r,.l,.r,.b,.i] f51 J n st
def Gl:=jG Ee F Ef [.r,.r,.r,.l,.r,.b] f51 atQ 2
theorem Lb (t14:List D4)(t15 t16:Int)(xs aQ ba bp bQ:List Int):Eg F J (n+1) (wM t14 t15 t16 xs aQ ba bp bQ)=br (decide (t16<t15)) (ck (cr t16 (t14.length:Int)) ((La F0 (bp,bQ) (aU t14 t16 K4.aG)).bind fun sw=>ck (fp F xs.length [sw.2.1].length 8) (Eg F J n (wM t14 t15 (ak (t16+1)) (xs++[sw.2.1]) aQ ba sw.1.1 sw.1.2)))) (J (.exit 0) (QA xs aQ ba bp bQ)):=by kernel_rfl
theorem aeI (xs aQ ba bp bQ:List Int):Gl F (.exit 0) (QA xs aQ ba bp bQ)=some ((bp,bQ),xs,()):=by kernel_rfl
def yd (l:D43)(list:D5):=bJ Ee F Ef f51 aDZ atQ 2 (l,list,())
theorem apD (l:D43)(list:D5):yd F l list=(kV F0 l).bind fun cp=>Eg F (Gl F) F.n (wM list (list.length:Int) 0 [] [] [] cp.1.1 cp.1.2):=by kernel_rfl
def Gm:Any:=.one ⟨aDZ,atQ,2,fun x=>yd F0 x.1 x.2.1⟩
theorem Xm:bz 51 Gm:=aA Ee ⟨KY,Xl,trivial⟩ func51 Ef (by kernel_rfl)
def aeJ:=[(47,cO),(51,Gm),(52,xA),(53,KX)]
def oZ (c:D1)(r:bD):=bJ aeJ F ab f20 Bf qm 2 (c,r,())
theorem asH (c:D1)(r:bD):oZ F c r=(db F0 c r).bind fun r9=>br (!r9.1) (some (([],[]),())) ((nN F0).bind fun cp=>(xB F0 r.2.2.2.1.2.2.2).bind fun fD=>(yd F0 cp.1 fD.1).bind fun Oq=>some (Oq.1,())):=by kernel_rfl
def Xn:Any:=.one ⟨Bf,qm,2,fun x=>oZ F0 x.1 x.2.1⟩
theorem asI:bz 20 Xn:=aA aeJ ⟨dr,Xm,NC,aaF,trivial⟩ func20 ab (by kernel_rfl)
def wN:=[(101,II)]
def wO:Nat->Option Hint:=look [(3,{live:=[3,5,10,11,12],mat:=[(5,76,K4)],xl:=[5],rl:=[4]})]
def lQ (t10:List D4)(t11 t12:Int)(l l1:List Int)(xs:List D4):= eD 30 [cW 3,(5,.v (.c (.own 1000000 none))),(10,j9 76 (K4) t10),(11,bW t11),(12,bW t12)] [(3,[.ro false 3 (.int .i64) l,.ro false 3 (.int .i64) l1])] [aB 1000000 76 K4 xs]
def Lc (xs:List D4):= eD 30 [(5,.v (.c (.own 1000000 none)))] [] [aB 1000000 76 K4 xs]
def pI (st:St):Option U:=gQ wN F wO [.r,.r,.l,.r,.b,.i] f202 J n st
def AQ:=jG wN F wO [.r,.r,.l,.r,.b] f202 kF 2
theorem Fh (t10:List D4)(t11 t12:Int)(l l1:List Int)(xs:List D4):pI F J (n+1) (lQ t10 t11 t12 l l1 xs)=br (decide (t12<t11)) (ck (cr t12 (t10.length:Int)) ((La F0 (l,l1) (aU t10 t12 K4.aG)).bind fun dW=>br (dW.2.1 != 2) (ck (fp F xs.length [(aU t10 t12 K4.aG)].length 32) (pI F J n (lQ t10 t11 (ak (t12+1)) l l1 (xs++[(aU t10 t12 K4.aG)])))) (pI F J n (lQ t10 t11 (ak (t12+1)) l l1 xs)))) (J (.exit 0) (Lc xs)):=by kernel_rfl
theorem Y6 (xs:List D4):AQ F (.exit 0) (Lc xs)=some (xs,()):=by kernel_rfl
def jY (p:D5)(l:D43):=bJ wN F wO f202 ai6 kF 2 (p,l,())
theorem ahv (p:D5)(l:D43):jY F p l=pI F (AQ F) F.n (lQ p (p.length:Int) 0 l.1 l.2 []):=by kernel_rfl
def NH:Any:=.one ⟨ai6,kF,2,fun x=>jY F0 x.1 x.2.1⟩
theorem ahw:bz 202 NH:=aA wN ⟨Xl,trivial⟩ func202 wO (by kernel_rfl)
def ajx:=[(20,Xn),(79,ch),(94,nv),(197,xy),(198,Nz),(199,NA),(200,Ud),(201,KV),(202,NH)]
def Je (c:D1)(r:bD)(m:Oo):=bJ ajx F ab f143 Z0 ik 1 (c,r,m,())
theorem awy (c:D1)(r:bD)(m:Oo):Je F c r m=(gV F0 c m).bind fun cP=>br (!cP.1) ((aE F0 r).bind fun pa=>some (pa.1,false,())) (br (m.1==1) ((rO F0 c r m.2.2.1).bind fun uD=>br (!uD.2.1) ((aE F0 r).bind fun r63=>some (r63.1,false,())) ((iO F0 uD.1.2.2.2.2.2.1 (ak (uD.1.2.1-1))).bind fun r69=>(oZ F0 c (uD.1.1,uD.1.2.1,uD.1.2.2.1,uD.1.2.2.2.1,uD.1.2.2.2.2.1,r69.1,uD.1.2.2.2.2.2.2)).bind fun Mg=>(jY F0 uD.1.2.2.2.2.1 Mg.1).bind fun r76=>some ((uD.1.1,uD.1.2.1,uD.1.2.2.1,uD.1.2.2.2.1,r76.1,r69.1,uD.1.2.2.2.2.2.2),true,()))) (br (m.1==2) ((Ec F0 c r m.2.2.2.1).bind fun Rg=>br (!Rg.2.1) ((aE F0 r).bind fun r63=>some (r63.1,false,())) ((iO F0 Rg.1.2.2.2.2.2.1 (ak (Rg.1.2.1-1))).bind fun r69=>(oZ F0 c (Rg.1.1,Rg.1.2.1,Rg.1.2.2.1,Rg.1.2.2.2.1,Rg.1.2.2.2.2.1,r69.1,Rg.1.2.2.2.2.2.2)).bind fun Mg=>(jY F0 Rg.1.2.2.2.2.1 Mg.1).bind fun r76=>some ((Rg.1.1,Rg.1.2.1,Rg.1.2.2.1,Rg.1.2.2.2.1,r76.1,r69.1,Rg.1.2.2.2.2.2.2),true,()))) (br (m.1==3) ((Ed F0 c r m.2.1 m.2.2.2.2.1 m.2.2.2.2.2.1).bind fun r57=>br (!r57.2.1) ((aE F0 r).bind fun r63=>some (r63.1,false,())) ((iO F0 r57.1.2.2.2.2.2.1 (ak (r57.1.2.1-1))).bind fun r69=>(oZ F0 c (r57.1.1,r57.1.2.1,r57.1.2.2.1,r57.1.2.2.2.1,r57.1.2.2.2.2.1,r69.1,r57.1.2.2.2.2.2.2)).bind fun Mg=>(jY F0 r57.1.2.2.2.2.1 Mg.1).bind fun r76=>some ((r57.1.1,r57.1.2.1,r57.1.2.2.1,r57.1.2.2.2.1,r76.1,r69.1,r57.1.2.2.2.2.2.2),true,()))) ((NB F0 c r m.2.2.2.2.2.2).bind fun sw=>br (!sw.2.1) ((aE F0 r).bind fun r63=>some (r63.1,false,())) ((iO F0 sw.1.2.2.2.2.2.1 (ak (sw.1.2.1-1))).bind fun r69=>(oZ F0 c (sw.1.1,sw.1.2.1,sw.1.2.2.1,sw.1.2.2.2.1,sw.1.2.2.2.2.1,r69.1,sw.1.2.2.2.2.2.2)).bind fun Mg=>(jY F0 sw.1.2.2.2.2.1 Mg.1).bind fun r76=>some ((sw.1.1,sw.1.2.1,sw.1.2.2.1,sw.1.2.2.2.1,r76.1,r69.1,sw.1.2.2.2.2.2.2),true,())))))):=by kernel_rfl
def OI:Any:=.one ⟨Z0,ik,1,fun x=>Je F0 x.1 x.2.1 x.2.2.1⟩
theorem aeK:bz 143 OI:=aA ajx ⟨asI,cL,uR,Ny,ahp,ahr,apB,aeE,ahw,trivial⟩ func143 ab (by kernel_rfl)
def Eh:=[(40,ef),(140,fo)]
def Ei:Nat->Option Hint:=look [(2,{live:=[0,1,2,3,13,14,15],rl:=[10]})]
def pJ (liars:List Int)(list:List cH)(view:Int)(name:ByteArray)(t13:List Int)(t14 t15:Int):= cV 33 [(0,j9 3 (.int .i64) liars),(1,j9 127 (eu) list),(2,bW view),(3,UP name),(13,j9 3 (.int .i64) t13),(14,bW t14),(15,bW t15)]
def Ug (t10:Bool):= cV 33 [(10,SK t10)]
def QB   := cV 33 []
def u3 (st:St):Option U:=gQ Eh F Ei [.r,.l,.r,.b,.i] f203 J n st
def wP:=jG Eh F Ei [.r,.l,.r,.b] f203 bd 1
theorem Ld (liars:List Int)(list:List cH)(view:Int)(name:ByteArray)(t13:List Int)(t14 t15:Int):u3 F J (n+1) (pJ liars list view name t13 t14 t15)=br (decide (t15<t14)) (ck (cr t15 (t13.length:Int)) ((er F0 liars (aU t13 t15 0)).bind fun ia=>br (!ia.1) ((dU F0 list (view,name,aU t13 t15 0)).bind fun UG=>br (!UG.1) (J .ret (Ug false)) (u3 F J n (pJ liars list view name t13 t14 (ak (t15+1))))) (u3 F J n (pJ liars list view name t13 t14 (ak (t15+1)))))) (J (.exit 0) (QB)):=by kernel_rfl
theorem ahx (t10:Bool):wP F .ret (Ug t10)=some (t10,()):=by kernel_rfl
theorem aeL: wP F (.exit 0) (QB)=some (true,()):=by kernel_rfl
def ye (liars:List Int)(list:D38)(view:Int)(name:ByteArray)(dk:List Int):=bJ Eh F Ei f203 aEe bd 1 (liars,list,view,name,dk,())
theorem apE (liars:List Int)(list:D38)(view:Int)(name:ByteArray)(dk:List Int):ye F liars list view name dk=u3 F (wP F) F.n (pJ liars list view name dk (dk.length:Int) 0):=by kernel_rfl
def Uh:Any:=.one ⟨aEe,bd,1,fun x=>ye F0 x.1 x.2.1 x.2.2.1 x.2.2.2.1 x.2.2.2.2.1⟩
theorem apF:bz 203 Uh:=aA Eh ⟨fA,jq,trivial⟩ func203 Ei (by kernel_rfl)
def aaG:=[(40,ef),(46,kR),(71,eY),(94,nv),(203,Uh),(204,mf),(205,Cf)]
def NI (c:D1)(liars:List Int)(list:D38)(m:Oo):=bJ aaG F ab f144 aEf bd 1 (c,liars,list,m,())
theorem apG (c:D1)(liars:List Int)(list:D38)(m:Oo):NI F c liars list m=(gV F0 c m).bind fun cP=>br (!cP.1) (some (false,())) (br (m.1==4) (some (true,())) (br (m.1==2) ((ye F0 liars list m.2.2.2.1.1 m.2.2.2.1.2.1 m.2.2.2.1.2.2).bind fun UQ=>some (UQ.1,())) (br (m.1==1) ((fj F0 m.2.2.1.1).bind fun r49=>(tD F0 c r49.1).bind fun Fw=>(er F0 liars Fw.1).bind fun r51=>br (!r51.1) (some (false,())) ((sZ F0).bind fun Ya=>(jV F0 m.2.2.1.2 Ya.1).bind fun r55=>br r55.1 (some (true,())) ((ye F0 liars list m.2.2.1.2.1 m.2.2.1.2.2.1 m.2.2.1.2.2.2).bind fun fc=>some (fc.1,())))) ((er F0 liars m.2.2.2.2.2.1).bind fun ia=>br (!ia.1) (some (false,())) ((sZ F0).bind fun Ya=>(jV F0 m.2.2.2.2.1 Ya.1).bind fun r55=>br r55.1 (some (true,())) ((ye F0 liars list m.2.2.2.2.1.1 m.2.2.2.2.1.2.1 m.2.2.2.2.1.2.2).bind fun fc=>some (fc.1,()))))))):=by kernel_rfl
def Ui:Any:=.one ⟨aEf,bd,1,fun x=>NI F0 x.1 x.2.1 x.2.2.1 x.2.2.2.1⟩
theorem apH:bz 144 Ui:=aA aaG ⟨fA,rA,gp,uR,apF,tE,TL,trivial⟩ func144 ab (by kernel_rfl)
def Xo:=[(11,kU),(38,gX),(40,ef),(70,KG),(80,Aw),(142,yG),(143,OI),(144,Ui),(145,AD)]
def Xp:Nat->Option Hint:=look [(900015,{live:=[],mat:=[(2,0,iV)]})]
def o4 (w:o8)(d:D45):=bJ Xo F Xp f83 ajk aep 0 (w,d,())
theorem alW (w:o8)(d:D45):o4 F w d=(aS F0 w).bind fun dB=>br (d.1==3) (ck (cr d.2.1 (w.2.2.2.1.length:Int)) (ck (SJ d.2.1 (ak (d.2.1+1)) (dB.1.2.2.2.1.length:Int)) ((KF F0 w.1 (aU w.2.2.2.1 d.2.1 (0,[])).2).bind fun r60=>br r60.2.1 ((n6 F0 w).bind fun r66=>(er F0 r66.1 (aU w.2.2.2.1 d.2.1 (0,[])).1).bind fun r69=>br r69.1 (ck (cr (aU w.2.2.2.1 d.2.1 (0,[])).1 (w.2.2.1.length:Int)) ((Je F0 w.1 (aU w.2.2.1 (aU w.2.2.2.1 d.2.1 (0,[])).1 di.aG) r60.1).bind fun r85=>ck (cr (aU w.2.2.2.1 d.2.1 (0,[])).1 (dB.1.2.2.1.length:Int)) (some ((dB.1.1,dB.1.2.1,dB.1.2.2.1.set (aU w.2.2.2.1 d.2.1 (0,[])).1.toNat r85.1,dB.1.2.2.2.1.take d.2.1.toNat++dB.1.2.2.2.1.drop (ak (d.2.1+1)).toNat,dB.1.2.2.2.2),0,())))) (some ((dB.1.1,dB.1.2.1,dB.1.2.2.1,dB.1.2.2.2.1.take d.2.1.toNat++dB.1.2.2.2.1.drop (ak (d.2.1+1)).toNat,dB.1.2.2.2.2),0,()))) (some ((dB.1.1,dB.1.2.1,dB.1.2.2.1,dB.1.2.2.2.1.take d.2.1.toNat++dB.1.2.2.2.1.drop (ak (d.2.1+1)).toNat,dB.1.2.2.2.2),0,()))))) (br (d.1==4) (ck (SJ d.2.1 (ak (d.2.1+1)) (dB.1.2.2.2.1.length:Int)) (some ((dB.1.1,dB.1.2.1,dB.1.2.2.1,dB.1.2.2.2.1.take d.2.1.toNat++dB.1.2.2.2.1.drop (ak (d.2.1+1)).toNat,dB.1.2.2.2.2),0,()))) (br (d.1==5) (ck (cr d.2.1 (w.2.2.2.1.length:Int)) ((uU F0 (aU w.2.2.2.1 d.2.1 (0,[]))).bind fun an4=>ck (fp F dB.1.2.2.2.1.length [an4.1].length 32) (some ((dB.1.1,dB.1.2.1,dB.1.2.2.1,dB.1.2.2.2.1++[an4.1],dB.1.2.2.2.2),0,())))) ((NI F0 w.1 w.2.1 w.2.2.2.2 d.2.2.2).bind fun gL=>br (!gL.1) (some (w,5,())) ((uX F0 w.1 d.2.2.2).bind fun uD=>ck (fp F dB.1.2.2.2.1.length [(d.2.1,uD.1)].length 32) (some ((dB.1.1,dB.1.2.1,dB.1.2.2.1,dB.1.2.2.2.1++[(d.2.1,uD.1)],dB.1.2.2.2.2),0,())))))):=by kernel_rfl
def QC:Any:=.one ⟨ajk,aep,0,fun x=>o4 F0 x.1 x.2.1⟩
theorem alX:bz 83 QC:=aA Xo ⟨rL,lK,fA,aar,Qe,UC,aeK,apH,Ql,trivial⟩ func83 Xp (by kernel_rfl)
end
end Go.Am.Tryz
