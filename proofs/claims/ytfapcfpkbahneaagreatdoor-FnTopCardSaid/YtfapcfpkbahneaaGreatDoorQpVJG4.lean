/- No condition. -/
import Derived.Test.YtfapcfpkbahneaaGreatDoorQpVJG3
set_option linter.all false
set_option maxRecDepth 100000
namespace Go.Am.Tryz
open Go.Am Go.Proofs Go.Proofs.Tryz
noncomputable section
variable {U:Type} (F:sd) (J:Ex->St->Option U) (n:Nat)
def zV:=[(238,Wy)]
def zW:Nat->Option Hint:=look [(3,{live:=[1,2,4,6,7],yz:=[(4,2,3,.int .i64),(4,3,50,di),(4,4,114,fW),(4,5,127,eu)],xl:=[2,4],rl:=[4,5]})]
def sX (a i p p1 w w1 t4 t41 r r1 r2 r3 r4 r5:Int)(r6:ByteArray)(r7:List Int)(r8:ByteArray)(r9:List D4)(ij:List D9)(dB:List Int)(cP:Int)(cp:List l5)(xs:List Int)(aQ:List bD)(ba:List cU)(bp:List cH)(bQ:List Int)(cD:List bD)(cE:List cU)(cI:List cH):St:={nt:=59,tm:=[(1,bW a),cW 2,cW 4,cW 6,(7,bW i)],bx:=[(2,[aq w,aq w1,.own 1000000 none,.own 1000001 none,.own 1000002 none,.own 1000003 none]),(4,[aq t4,aq t41,.own 1000004 none,.own 1000005 none,.own 1000006 none,.own 1000007 none]),(6,[aq r,aq r1,aq r2,aq r3,aq r4,aq r5,.str r6,.ro true 3 (.int .i64) r7,.str r8,.ro true 76 (K4) r9,.ro true 74 (K9) ij,.ro true 5 (.int .u8) dB,aq cP,.ro true 146 (qT) cp])],bl:=[aB 1000000 3 (.int .i64) xs,aB 1000001 50 di aQ,aB 1000002 114 fW ba,aB 1000003 127 eu bp,aB 1000004 3 (.int .i64) bQ,aB 1000005 50 di cD,aB 1000006 114 fW cE,aB 1000007 127 eu cI],sp:=.v (.agg [aq p,aq p1,.own 1000000 none,.own 1000001 none,.own 1000002 none,.own 1000003 none])}
def Cb (t5 p p1 t4 t41:Int)(xs:List Int)(aQ:List bD)(ba:List cU)(bp:List cH):St:={nt:=59,tm:=[cW 4,(5,bW t5)],bx:=[(4,[aq t4,aq t41,.own 1000000 none,.own 1000001 none,.own 1000002 none,.own 1000003 none])],bl:=[aB 1000000 3 (.int .i64) xs,aB 1000001 50 di aQ,aB 1000002 114 fW ba,aB 1000003 127 eu bp],sp:=.v (.agg [aq p,aq p1,.own 1000000 none,.own 1000001 none,.own 1000002 none,.own 1000003 none])}
def MP (p p1 w w1 t4 t41:Int)(xs:List Int)(aQ:List bD)(ba:List cU)(bp:List cH)(bQ:List Int)(cD:List bD)(cE:List cU)(cI:List cH):St:={nt:=59,tm:=[cW 2,cW 4],bx:=[(2,[aq w,aq w1,.own 1000000 none,.own 1000001 none,.own 1000002 none,.own 1000003 none]),(4,[aq t4,aq t41,.own 1000004 none,.own 1000005 none,.own 1000006 none,.own 1000007 none])],bl:=[aB 1000000 3 (.int .i64) xs,aB 1000001 50 di aQ,aB 1000002 114 fW ba,aB 1000003 127 eu bp,aB 1000004 3 (.int .i64) bQ,aB 1000005 50 di cD,aB 1000006 114 fW cE,aB 1000007 127 eu cI],sp:=.v (.agg [aq p,aq p1,.own 1000000 none,.own 1000001 none,.own 1000002 none,.own 1000003 none])}
def zX (st:St):Option U:=gQ zV F zW [.r,.r,.l,.r,.b,.i] f177 J n st
def sY:=am0 Tryz.prog (look zV) F zW [.r,.r,.l,.r,.b] (oh f177) (aA9 Tryz.prog f177 (iV,true) (.int .i64,false) (iV,true))
theorem GW (a i p p1 w w1 t4 t41 r r1 r2 r3 r4 r5:Int)(r6:ByteArray)(r7:List Int)(r8:ByteArray)(r9:List D4)(ij:List D9)(dB:List Int)(cP:Int)(cp:List l5)(xs:List Int)(aQ:List bD)(ba:List cU)(bp:List cH)(bQ:List Int)(cD:List bD)(cE:List cU)(cI:List cH):zX F J (n+1) (sX a i p p1 w w1 t4 t41 r r1 r2 r3 r4 r5 r6 r7 r8 r9 ij dB cP cp xs aQ ba bp bQ cD cE cI)=br (decide (i>=0)) (ck (cr i (ij.length:Int)) (br ((aU ij i K9.aG).2.1.toList==al.toList) (zX F J n (sX a (ak (i-1)) p p1 w w1 t4 t41 r r1 r2 r3 r4 r5 r6 r7 r8 r9 ij dB cP cp xs aQ ba bp bQ cD cE cI)) (ck (cr i (ij.length:Int)) (ck (cr i (ij.length:Int)) ((RQ F0 (w,w1) (r,r1,r2,(r3,r4,(r5,r6,r7),r8),r9,ij,(dB,cP),cp) (aU ij i K9.aG).1 (aU ij i K9.aG).2.1 true).bind fun Rh=>br (!Rh.2.1) (J .ret (Cb 3 p p1 w w1 xs aQ ba bp)) (ck (cr a (aQ.length:Int)) (J .ret (Cb 0 p p1 w w1 xs (aQ.set a.toNat Rh.1) ba bp)))))))) (J (.exit 0) (MP p p1 w w1 t4 t41 xs aQ ba bp bQ cD cE cI)):=by kernel_rfl
theorem MQ (t5 p p1 t4 t41:Int)(xs:List Int)(aQ:List bD)(ba:List cU)(bp:List cH):sY F .ret (Cb t5 p p1 t4 t41 xs aQ ba bp)=br (t5==0) (some (((t4,t41),xs,aQ,ba,bp),t5,iV.aG)) (some (iV.aG,t5,(p,p1),xs,aQ,ba,bp)):=by kernel_rfl
theorem abI (p p1 w w1 t4 t41:Int)(xs:List Int)(aQ:List bD)(ba:List cU)(bp:List cH)(bQ:List Int)(cD:List bD)(cE:List cU)(cI:List cH):sY F (.exit 0) (MP p p1 w w1 t4 t41 xs aQ ba bp bQ cD cE cI)=some (iV.aG,3,(p,p1),xs,aQ,ba,bp):=by kernel_rfl
def Ic (w:o8)(a:Int):Option (o8×Int×o8):=arF Tryz.prog (look zV) F zW f177 [(iV,true),(.int .i64,false)] 0 (iV,true) (.int .i64,false) (iV,true) (w,a,())
theorem alh (w:o8)(a:Int):Ic F w a=ck (cr a (w.2.2.1.length:Int)) (zX F (sY F) F.n (sX a (ak (((aU w.2.2.1 a di.aG).2.2.2.2.2.1.length:Int)-1)) w.1.1 w.1.2 w.1.1 w.1.2 0 0 (aU w.2.2.1 a di.aG).1 (aU w.2.2.1 a di.aG).2.1 (aU w.2.2.1 a di.aG).2.2.1 (aU w.2.2.1 a di.aG).2.2.2.1.1 (aU w.2.2.1 a di.aG).2.2.2.1.2.1 (aU w.2.2.1 a di.aG).2.2.2.1.2.2.1.1 (aU w.2.2.1 a di.aG).2.2.2.1.2.2.1.2.1 (aU w.2.2.1 a di.aG).2.2.2.1.2.2.1.2.2 (aU w.2.2.1 a di.aG).2.2.2.1.2.2.2 (aU w.2.2.1 a di.aG).2.2.2.2.1 (aU w.2.2.1 a di.aG).2.2.2.2.2.1 (aU w.2.2.1 a di.aG).2.2.2.2.2.2.1.1 (aU w.2.2.1 a di.aG).2.2.2.2.2.2.1.2 (aU w.2.2.1 a di.aG).2.2.2.2.2.2.2 w.2.1 w.2.2.1 w.2.2.2.1 w.2.2.2.2 [] [] [] [])):=by kernel_rfl
def P0:Any:=.sel ⟨[(iV,true),(.int .i64,false)],0,(iV,true),(.int .i64,false),(iV,true),fun x=>Ic F0 x.1 x.2.1⟩
theorem ali:bz 177 P0:=ok4 (show yF Tryz.prog TB zV from⟨asn,trivial⟩) func177 (by kernel_rfl) (by kernel_rfl) zW (by kernel_rfl) (by kernel_rfl)
def Z7:=[(60,iG),(65,ko),(104,mU),(126,pq)]
abbrev aEk:List (Ty×Bool):=[(K14,true),(.int .i64,false)]
def MR (d:D14)(keep:Int):=bJ Z7 F ab f178 aEk qf 2 (d,keep,())
theorem aoR (d:D14)(keep:Int):MR F d keep=(jH F0 d).bind fun r8=>(nZ F0 d).bind fun ij=>br (!ij.1) (some (r8.1,())) ((b8 F0 keep (ak ((d.1.length:Int)-d.2))).bind fun gL=>(eK F0 0 gL.1).bind fun sw=>ck (SJ 0 (ak (d.2+sw.1)) (d.1.length:Int)) (ck (fp F 0 ((d.1.take (ak (d.2+sw.1)).toNat).drop (0:Int).toNat).length 1) (some (([]++((d.1.take (ak (d.2+sw.1)).toNat).drop (0:Int).toNat),ak (d.2+sw.1)),())))):=by kernel_rfl
def TG:Any:=.one ⟨aEk,qf,2,fun x=>MR F0 x.1 x.2.1⟩
theorem aoS:bz 178 TG:=aA Z7 ⟨l8,pS,vD,yZ,trivial⟩ func178 ab (by kernel_rfl)
def RR: Option (Args Bn):=bJ aF F ab f288 [] Bn 2 (())
theorem alj: RR F= some ((0,0,(0,al,[]),al),()):=by kernel_rfl
def P1:Any:=.one ⟨[],Bn,2,fun x=>RR F0⟩
theorem alk:bz 288 P1:=aA aF trivial func288 ab (by kernel_rfl)
def Z8:=[(123,jh),(128,pr),(129,sx),(130,JX)]
def MS (c:D1)(b:List Int):=bJ Z8 F ab f289 S2 ajb 2 (c,b,())
theorem aoT (c:D1)(b:List Int):MS F c b=(dw F0 (b,0,true)).bind fun cp=>(dw F0 cp.2.1).bind fun o9=>(BR F0 o9.2.1).bind fun dW=>(ov F0 dW.2.1).bind fun gL=>br (!gL.2.1.2.2) (some ((0,0,(0,al,[]),al),false,())) (br (gL.2.1.2.1 != (b.length:Int)) (some ((0,0,(0,al,[]),al),false,())) ((jS F0 c (cp.1.1,o9.1.1,dW.1.1,gL.1.1)).bind fun r41=>br (!r41.1) (some ((0,0,(0,al,[]),al),false,())) (some ((cp.1.1,o9.1.1,dW.1.1,gL.1.1),true,())))):=by kernel_rfl
def TH:Any:=.one ⟨S2,ajb,2,fun x=>MS F0 x.1 x.2.1⟩
theorem aoU:bz 289 TH:=aA Z8 ⟨mI,y8,FM,ZL,trivial⟩ func289 ab (by kernel_rfl)
def wg:=[(186,vp),(288,P1),(289,TH)]
def wh:Nat->Option Hint:=look [(3,{live:=[1,2,4,6,7],yz:=[(4,4,3,.int .i64)],rl:=[4,5]})]
def qx (b:List Int)(iW c c1 t4 t41 t42:Int)(t43 t44:ByteArray)(JO aoV aoW:Int)(aoX aoY:ByteArray)(xs aQ:List Int):= eD 62 [(1,j9 5 (.int .u8) b),cW 2,cW 4,cW 6,(7,bW iW)] [(2,[aq c,aq c1]),(4,[aq t4,aq t41,aq t42,.str t43,.own 1000000 none,.str t44]),(6,[aq JO,aq aoV,aq aoW,.str aoX,.own 1000001 none,.str aoY])] [aB 1000000 3 (.int .i64) xs,aB 1000001 3 (.int .i64) aQ]
def lC (t5 t4 t41 t42:Int)(t43 t44:ByteArray)(xs:List Int):= eD 62 [cW 4,(5,bW t5)] [(4,[aq t4,aq t41,aq t42,.str t43,.own 1000000 none,.str t44])] [aB 1000000 3 (.int .i64) xs]
def wi (st:St):Option U:=gQ wg F wh [.r,.r,.r,.b,.i] f239 J n st
abbrev atW:List (Ty×Bool):=[(K12,true),(.int .i64,false)]
def zY:=jG wg F wh [.r,.r,.r,.b] f239 atW 2
theorem EZ (b:List Int)(iW c c1 t4 t41 t42:Int)(t43 t44:ByteArray)(JO aoV aoW:Int)(aoX aoY:ByteArray)(xs aQ:List Int):wi F J (n+1) (qx b iW c c1 t4 t41 t42 t43 t44 JO aoV aoW aoX aoY xs aQ)=(lv F0 b iW).bind fun fD=>br (!fD.2.2.1) (J .ret (lC iW JO aoV aoW aoX aoY aQ)) (br (decide (fD.1>=(ak ((b.length:Int)-fD.2.1)))) (J .ret (lC iW JO aoV aoW aoX aoY aQ)) (ck (cr (ak (fD.2.1+fD.1)) (b.length:Int)) (br ((aU b (ak (fD.2.1+fD.1)) 0) != 10) (J .ret (lC iW JO aoV aoW aoX aoY aQ)) (ck (SJ fD.2.1 (ak (fD.2.1+fD.1)) (b.length:Int)) ((MS F0 (c,c1) ((b.take (ak (fD.2.1+fD.1)).toNat).drop fD.2.1.toNat)).bind fun Fw=>br (!Fw.2.1) (J .ret (lC iW JO aoV aoW aoX aoY aQ)) (wi F J n (qx b (ak ((ak (fD.2.1+fD.1))+1)) c c1 t4 t41 t42 t43 t44 Fw.1.1 Fw.1.2.1 Fw.1.2.2.1.1 Fw.1.2.2.1.2.1 Fw.1.2.2.2 xs Fw.1.2.2.1.2.2))))))):=by kernel_rfl
theorem Kv (t5 t4 t41 t42:Int)(t43 t44:ByteArray)(xs:List Int):zY F .ret (lC t5 t4 t41 t42 t43 t44 xs)=some ((t4,t41,(t42,t43,xs),t44),t5,()):=by kernel_rfl
def DE (c:D1)(b:List Int):=bJ wg F wh f239 S2 atW 2 (c,b,())
theorem agU (c:D1)(b:List Int):DE F c b=(RR F0).bind fun cp=>wi F (zY F) F.n (qx b 0 c.1 c.2 0 0 0 al al cp.1.1 cp.1.2.1 cp.1.2.2.1.1 cp.1.2.2.1.2.1 cp.1.2.2.2 [] cp.1.2.2.1.2.2):=by kernel_rfl
def MT:Any:=.one ⟨S2,atW,2,fun x=>DE F0 x.1 x.2.1⟩
theorem agV:bz 239 MT:=aA wg ⟨JV,alk,aoU,trivial⟩ func239 wh (by kernel_rfl)
def aji:=[(58,cB),(60,iG),(65,ko),(73,c9),(239,MT)]
def P2 (c:D1)(r:bD):=bJ aji F ab f179 Bf S5 2 (c,r,())
theorem awb (c:D1)(r:bD):P2 F c r=(ez F0 c r).bind fun ij=>br (!ij.1) ((bo F0 r).bind fun cp=>some (cp.1,())) ((DE F0 c r.2.2.2.2.2.2.1.1).bind fun dW=>(eK F0 dW.1.1 (ak (dW.1.2.2.1.1+1))).bind fun VM=>(eK F0 VM.1 1).bind fun UG=>(b8 F0 60 UG.1).bind fun FP=>ck (SJ 0 dW.2.1 (r.2.2.2.2.2.2.1.1.length:Int)) (ck (fp F 0 ((r.2.2.2.2.2.2.1.1.take dW.2.1.toNat).drop (0:Int).toNat).length 1) (some ((r.1,FP.1,0,dW.1,[],[],([]++((r.2.2.2.2.2.2.1.1.take dW.2.1.toNat).drop (0:Int).toNat),dW.2.1),[]),())))):=by kernel_rfl
def Z9:Any:=.one ⟨Bf,S5,2,fun x=>P2 F0 x.1 x.2.1⟩
theorem awc:bz 179 Z9:=aA aji ⟨c7,l8,pS,dH,agV,trivial⟩ func179 ab (by kernel_rfl)
def ajj:=[(58,cB),(73,c9),(106,jU),(240,lA),(241,nh)]
def Ye (c:D1)(r:bD):=bJ ajj F ab f180 Bf ik 2 (c,r,())
theorem awd (c:D1)(r:bD):Ye F c r=(bo F0 r).bind fun cp=>(ez F0 c r).bind fun o9=>br (!o9.1) (some (cp.1,false,())) (br (decide (r.2.1>=60)) (some (cp.1,false,())) ((mX F0 c (ak (r.2.1+1))).bind fun r31=>br (r31.1==r.1) ((fX F0 c cp.1.2.2.2.2.2.1 (ak (r.2.1+1),al,[r.1])).bind fun Rh=>br (!Rh.2.1) ((bo F0 r).bind fun r52=>some (r52.1,false,())) (some ((cp.1.1,ak (r.2.1+1),cp.1.2.2.1,cp.1.2.2.2.1,cp.1.2.2.2.2.1,Rh.1,cp.1.2.2.2.2.2.2),true,()))) ((gl F0 c (cp.1.1,ak (r.2.1+1),cp.1.2.2) r31.1 (3,ak (r.2.1+1),(al,0,al,[]),(0,al,[]),r.2.2.2.1.2.2.1,r.1,0,0,0,0)).bind fun ZU=>br (!ZU.1.2.1) ((bo F0 r).bind fun r74=>some (r74.1,false,())) (some (ZU.1.1,true,()))))):=by kernel_rfl
def aaa:Any:=.one ⟨Bf,ik,2,fun x=>Ye F0 x.1 x.2.1⟩
theorem awe:bz 180 aaa:=aA ajj ⟨c7,dH,oz,sM,vZ,trivial⟩ func180 ab (by kernel_rfl)
def aab:=[(58,cB),(172,Ov),(175,TC),(176,PZ),(177,P0),(178,TG),(179,Z9),(180,aaa)]
def MU (w:o8)(d:D45):Option (o8×Int×o8):=arF Tryz.prog (look aab) F ab f121 [(iV,true),(K45,true)] 0 (iV,true) (.int .i64,false) (iV,true) (w,d,())
theorem aoZ (w:o8)(d:D45):MU F w d=ck (cr d.2.1 (w.2.2.1.length:Int)) (br (d.1==1) ((ML F0 w d.2.1).bind fun HJ=>br (HJ.2.1==0) (some (HJ.1,0,iV.aG)) (br (HJ.2.1==0) (none) (some (iV.aG,HJ.2.1,w.1,HJ.2.2.2)))) (br (d.1==2) ((Ib F0 w d.2.1).bind fun Rg=>br (Rg.2.1==0) (some (Rg.1,0,iV.aG)) (br (Rg.2.1==0) (none) (some (iV.aG,Rg.2.1,w.1,Rg.2.2.2)))) (br (d.1==6) ((Ic F0 w d.2.1).bind fun Ya=>br (Ya.2.1==0) (some (Ya.1,0,iV.aG)) (br (Ya.2.1==0) (none) (some (iV.aG,Ya.2.1,w.1,Ya.2.2.2)))) (br (d.1==8) ((bo F0 (aU w.2.2.1 d.2.1 di.aG)).bind fun r62=>(MR F0 (aU w.2.2.1 d.2.1 di.aG).2.2.2.2.2.2.1 d.2.2.1).bind fun r67=>(P2 F0 w.1 (r62.1.1,r62.1.2.1,r62.1.2.2.1,r62.1.2.2.2.1,r62.1.2.2.2.2.1,r62.1.2.2.2.2.2.1,r67.1,r62.1.2.2.2.2.2.2.2)).bind fun r76=>ck (cr d.2.1 (w.2.2.1.length:Int)) (some ((w.1,w.2.1,w.2.2.1.set d.2.1.toNat r76.1,w.2.2.2),0,iV.aG))) (br (d.1==7) ((Ye F0 w.1 (aU w.2.2.1 d.2.1 di.aG)).bind fun r85=>br (!r85.2.1) (some (iV.aG,3,w)) (ck (cr d.2.1 (w.2.2.1.length:Int)) (some ((w.1,w.2.1,w.2.2.1.set d.2.1.toNat r85.1,w.2.2.2),0,iV.aG)))) ((PR F0 w.1 (aU w.2.2.1 d.2.1 di.aG) d.2.2.2).bind fun asf=>br (!asf.2.1) (some (iV.aG,3,w)) (br (d.2.2.2.1 != 4) (some (iV.aG,3,w)) (ck (cr d.2.1 (w.2.2.1.length:Int)) (some ((w.1,w.2.1,w.2.2.1.set d.2.1.toNat asf.1,w.2.2.2),0,iV.aG)))))))))):=by kernel_rfl
def TI:Any:=.sel ⟨[(iV,true),(K45,true)],0,(iV,true),(.int .i64,false),(iV,true),fun x=>MU F0 x.1 x.2.1⟩
theorem ao0:bz 121 TI:=ok4 (show yF Tryz.prog TB aab from⟨c7,adZ,aoO,alg,ali,aoS,awc,awe,trivial⟩) func121 (by kernel_rfl) (by kernel_rfl) ab (by kernel_rfl) (by kernel_rfl)
def aac:=[(62,dC),(118,Ts),(119,TA),(120,F1),(121,TI)]
def MV (w:o8)(d:D45):Option (o8×Int×o8):=arF Tryz.prog (look aac) F ab f66 [(iV,true),(K45,true)] 0 (iV,true) (.int .i64,false) (iV,true) (w,d,())
theorem ao1 (w:o8)(d:D45):MV F w d=br (d.1==3) ((x6 F0 w d).bind fun ia=>br (ia.2.1==0) (some (ia.1,0,iV.aG)) (br (ia.2.1==0) (none) (some (iV.aG,ia.2.1,w.1,ia.2.2.2)))) (br (d.1==4) ((x6 F0 w d).bind fun ia=>br (ia.2.1==0) (some (ia.1,0,iV.aG)) (br (ia.2.1==0) (none) (some (iV.aG,ia.2.1,w.1,ia.2.2.2)))) (br (d.1==5) ((x6 F0 w d).bind fun ia=>br (ia.2.1==0) (some (ia.1,0,iV.aG)) (br (ia.2.1==0) (none) (some (iV.aG,ia.2.1,w.1,ia.2.2.2)))) (br (d.1==10) ((MJ F0 w d).bind fun r31=>br (r31.2.1==0) (some (r31.1,0,iV.aG)) (br (r31.2.1==0) (none) (some (iV.aG,r31.2.1,w.1,r31.2.2.2)))) ((EY F0 w).bind fun HM=>(dN F0 HM.1 d.2.1).bind fun xW=>br (!xW.1) (some (iV.aG,2,w)) ((MU F0 w d).bind fun Rh=>br (Rh.2.1==0) (some (Rh.1,0,iV.aG)) (br (Rh.2.1==0) (none) (some (iV.aG,Rh.2.1,w.1,Rh.2.2.2)))))))):=by kernel_rfl
def TJ:Any:=.sel ⟨[(iV,true),(K45,true)],0,(iV,true),(.int .i64,false),(iV,true),fun x=>MV F0 x.1 x.2.1⟩
theorem ao2:bz 66 TJ:=ok4 (show yF Tryz.prog TB aac from⟨eL,aoE,aoL,Wu,ao0,trivial⟩) func66 (by kernel_rfl) (by kernel_rfl) ab (by kernel_rfl) (by kernel_rfl)
def Wz:=[(66,TJ)]
abbrev ajk:List (Ty×Bool):=[(iV,true),(K45,true)]
def Ie (w:o8)(d:D45):=EG Wz F ab f30 ajk 0 (.own true) gE [] 2 (w,d,())
theorem alm (w:o8)(d:D45):Ie F w d=(MV F0 w d).bind fun ij=>br (ij.2.1==0) (br (0 != 0) (none) (some ((ij.1,()),()))) (br (ij.2.1 != 0) (some (((w.1,ij.2.2.2),()),())) (none)):=by kernel_rfl
def P3:Any:=.two ⟨ajk,0,(.own true),gE,2,[],fun x=>Ie F0 x.1 x.2.1⟩
theorem aln:bz 30 P3:=aBL Wz ⟨ao2,trivial⟩ func30 ab (by kernel_rfl)
def qy:=[(24,VH),(25,Bm),(26,BY),(27,e9),(28,S7),(29,EU),(30,P3)]
def qz:Nat->Option Hint:=look [(7,{live:=[2,4,5,6,7,8,9],yz:=[(2,2,3,.int .i64),(2,3,50,di),(2,4,114,fW),(2,5,127,eu)],xl:=[2,5,7],rl:=[2,3]})]
def mw (n1 i t2 t21:Int)(t12:List Int)(t121 t122 start Ow w w1:Int)(xs:List D45)(aQ:List Int)(ba:List bD)(bp:List cU)(bQ:List cH)(cD:List Int)(cE:List bD)(cI:List cU)(pb:List cH)(F2:List Int)(Cc:List bD)(Bh:List cU)(Cd:List cH):= eD 39 [cW 2,(4,.v (.c (.ptr 12 0))),cW 5,cW 6,(7,.v (.c (.own 1000000 none))),(8,bW n1),(9,bW i)] [(2,[aq t2,aq t21,.own 1000001 none,.own 1000002 none,.own 1000003 none,.own 1000004 none]),(12,[.ro false 5 (.int .u8) t12,aq t121,aq t122]),(5,[aq start,aq Ow,.own 1000005 none,.own 1000006 none,.own 1000007 none,.own 1000008 none]),(6,[aq w,aq w1,.own 1000009 none,.own 1000010 none,.own 1000011 none,.own 1000012 none])] [aB 1000000 80 K45 xs,aB 1000001 3 (.int .i64) aQ,aB 1000002 50 di ba,aB 1000003 114 fW bp,aB 1000004 127 eu bQ,aB 1000005 3 (.int .i64) cD,(1000006,some ⟨50,di,cE,false,true⟩),(1000007,some ⟨114,fW,cI,false,true⟩),aB 1000008 127 eu pb,aB 1000009 3 (.int .i64) F2,aB 1000010 50 di Cc,aB 1000011 114 fW Bh,aB 1000012 127 eu Cd]
def E0 (t2 t21 start Ow:Int)(xs:List D45)(aQ:List Int)(ba:List bD)(bp:List cU)(bQ:List cH)(cD:List Int)(cE:List bD)(cI:List cU)(pb:List cH):= eD 39 [cW 2,cW 5,(7,.v (.c (.own 1000000 none)))] [(2,[aq t2,aq t21,.own 1000001 none,.own 1000002 none,.own 1000003 none,.own 1000004 none]),(5,[aq start,aq Ow,.own 1000005 none,.own 1000006 none,.own 1000007 none,.own 1000008 none])] [aB 1000000 80 K45 xs,aB 1000001 3 (.int .i64) aQ,aB 1000002 50 di ba,aB 1000003 114 fW bp,aB 1000004 127 eu bQ,aB 1000005 3 (.int .i64) cD,(1000006,some ⟨50,di,cE,false,true⟩),(1000007,some ⟨114,fW,cI,false,true⟩),aB 1000008 127 eu pb]
def qA (st:St):Option U:=gQ qy F qz [.r,.r,.r,.r,.r,.r,.l,.r,.b,.i] f7 J n st
abbrev ayO:List (Ty×Bool):=[(iV,true),(K46,false)]
def um:=jG qy F qz [.r,.r,.r,.r,.r,.r,.l,.r,.b] f7 ayO 0
theorem zZ (n1 i t2 t21:Int)(t12:List Int)(t121 t122 start Ow w w1:Int)(xs:List D45)(aQ:List Int)(ba:List bD)(bp:List cU)(bQ:List cH)(cD:List Int)(cE:List bD)(cI:List cU)(pb:List cH)(F2:List Int)(Cc:List bD)(Bh:List cU)(Cd:List cH):qA F J (n+1) (mw n1 i t2 t21 t12 t121 t122 start Ow w w1 xs aQ ba bp bQ cD cE cI pb F2 Cc Bh Cd)=br (decide (i<n1)) ((sG F0 (t12,t121,t122) ((w,w1),F2,Cc,Bh,Cd)).bind fun UG=>ck (fp F xs.length [UG.1.1].length 240) ((Ie F0 ((w,w1),F2,Cc,Bh,Cd) UG.1.1).bind fun r36=>qA F J n (mw n1 (ak (i+1)) t2 t21 UG.2.1.1 UG.2.1.2.1 UG.2.1.2.2 start Ow r36.1.1.1.1 r36.1.1.1.2 (xs++[UG.1.1]) aQ ba bp bQ cD cE cI pb r36.1.1.2.1 r36.1.1.2.2.1 r36.1.1.2.2.2.1 r36.1.1.2.2.2.2))) (J (.exit 0) (E0 t2 t21 start Ow xs aQ ba bp bQ cD cE cI pb)):=by kernel_rfl
theorem UK (t2 t21 start Ow:Int)(xs:List D45)(aQ:List Int)(ba:List bD)(bp:List cU)(bQ:List cH)(cD:List Int)(cE:List bD)(cI:List cU)(pb:List cH):um F (.exit 0) (E0 t2 t21 start Ow xs aQ ba bp bQ cD cE cI pb)=some (((start,Ow),cD,cE,cI,pb),xs,()):=by kernel_rfl
def wj (code:List Int):=bJ qy F qz f7 mG ayO 0 (code,())
theorem abJ (code:List Int):wj F code=(JH F0 code).bind fun cP=>(qh F0 cP.1.1).bind fun l6=>(zj F0 l6.1.1).bind fun o9=>(Mk F0 code 70 140).bind fun EH=>(ax F0 l6.2.1 EH.1).bind fun ia=>qA F (um F) F.n (mw ia.1.1 0 0 0 ia.2.1.1 ia.2.1.2.1 ia.2.1.2.2 l6.1.1.1.1 l6.1.1.1.2 o9.1.1.1 o9.1.1.2 [] [] [] [] [] l6.1.1.2.1 l6.1.1.2.2.1 l6.1.1.2.2.2.1 l6.1.1.2.2.2.2 o9.1.2.1 o9.1.2.2.1 o9.1.2.2.2.1 o9.1.2.2.2.2):=by kernel_rfl
def GX:Any:=.one ⟨mG,ayO,0,fun x=>wj F0 x.1⟩
theorem abK:bz 7 GX:=aA qy ⟨arY,V0,S6,gC,aoa,YV,aln,trivial⟩ func7 qz (by kernel_rfl)
def eW (l:List Int):=bJ aF F ab f31 kI kI 2 (l,())
theorem Ce (l:List Int):eW F l=ck (fp F 0 l.length 8) (some ([]++l,())):=by kernel_rfl
def gm:Any:=.one ⟨kI,kI,2,fun x=>eW F0 x.1⟩
theorem j4:bz 31 gm:=aA aF trivial func31 ab (by kernel_rfl)
def bg (n1 low high:Int):=bJ aF F ab f67 aDL bd 1 (n1,low,high,())
theorem ao3 (n1 low high:Int):bg F n1 low high=br (decide (n1>=low)) (some (decide (n1<=high),())) (some (false,())):=by kernel_rfl
def bR:Any:=.one ⟨aDL,bd,1,fun x=>bg F0 x.1 x.2.1 x.2.2.1⟩
theorem cq:bz 67 bR:=aA aF trivial func67 ab (by kernel_rfl)
def aad:=[(67,bR)]
def fh (c:D1):=bJ aad F ab f32 SN bd 1 (c,())
theorem ao4 (c:D1):fh F c=(bg F0 c.1 4 7).bind fun r5=>br r5.1 ((bg F0 c.2 1 6).bind fun r9=>some (r9.1,())) (some (false,())):=by kernel_rfl
def dD:Any:=.one ⟨SN,bd,1,fun x=>fh F0 x.1⟩
theorem eP:bz 32 dD:=aA aad ⟨cq,trivial⟩ func32 ab (by kernel_rfl)
def sZ: Option (Args ib):=bJ aF F ab f205 [] ib 2 (())
theorem TK: sZ F= some ((0,al,[]),()):=by kernel_rfl
def Cf:Any:=.one ⟨[],ib,2,fun x=>sZ F0⟩
theorem TL:bz 205 Cf:=aA aF trivial func205 ab (by kernel_rfl)
def jI:Nat->Option Hint:=look [(4,{live:=[0,1,12,13],rl:=[4]})]
def ir (s1 s2:List Int)(t12 t13:Int):= cV 26 [(0,j9 3 (.int .i64) s1),(1,j9 3 (.int .i64) s2),(12,bW t12),(13,bW t13)]
def uO (t4:Bool):= cV 26 [(4,SK t4)]
def tY   := cV 26 []
def jJ (st:St):Option U:=gQ aF F jI [.r,.r,.l,.r,.b,.i] f91 J n st
def iu:=jG aF F jI [.r,.r,.l,.r,.b] f91 bd 1
theorem qB (s1 s2:List Int)(t12 t13:Int):jJ F J (n+1) (ir s1 s2 t12 t13)=br (decide (t13<t12)) (ck (cr t13 (s1.length:Int)) (ck (cr t13 (s2.length:Int)) (br ((aU s1 t13 0) != (aU s2 t13 0)) (J .ret (uO false)) (jJ F J n (ir s1 s2 t12 (ak (t13+1))))))) (J (.exit 0) (tY)):=by kernel_rfl
theorem LK (t4:Bool):iu F .ret (uO t4)=some (t4,()):=by kernel_rfl
theorem Kw: iu F (.exit 0) (tY)=some (true,()):=by kernel_rfl
def iK (s1 s2:List Int):=bJ aF F jI f91 aks bd 1 (s1,s2,())
theorem P4 (s1 s2:List Int):iK F s1 s2=br ((s1.length:Int) != (s2.length:Int)) (some (false,())) (jJ F (iu F) F.n (ir s1 s2 (s1.length:Int) 0)):=by kernel_rfl
def ma:Any:=.one ⟨aks,bd,1,fun x=>iK F0 x.1 x.2.1⟩
theorem x8:bz 91 ma:=aA aF trivial func91 jI (by kernel_rfl)
def aae:=[(91,ma)]
def jV (a b:D9):=bJ aae F ab f46 xT bd 1 (a,b,())
theorem WA (a b:D9):jV F a b=br (a.1==b.1) (br (a.2.1.toList==b.2.1.toList) ((iK F0 a.2.2 b.2.2).bind fun gL=>some (gL.1,())) (some (false,()))) (some (false,())):=by kernel_rfl
def kR:Any:=.one ⟨xT,bd,1,fun x=>jV F0 x.1 x.2.1⟩
theorem rA:bz 46 kR:=aA aae ⟨x8,trivial⟩ func46 ab (by kernel_rfl)
def ad5:=[(160,LW)]
def xj (s:ByteArray)(by1:Int):=bJ ad5 F ab f96 Zr ayF 1 (s,by1,())
theorem aso (s:ByteArray)(by1:Int):xj F s by1=(strings_Split F0 s (strOf [by1])).bind fun r9=>some (r9.1,()):=by kernel_rfl
def Kx:Any:=.one ⟨Zr,ayF,1,fun x=>xj F0 x.1 x.2.1⟩
theorem aaf:bz 96 Kx:=aA ad5 ⟨agb,trivial⟩ func96 ab (by kernel_rfl)
end
end Go.Am.Tryz
namespace Go.Am.Tryz
open Go.Am Go.Proofs Go.Proofs.Tryz
noncomputable section
variable {U:Type} (F:sd) (J:Ex->St->Option U) (n:Nat)
def aag:=[(222,O3)]
def lD (n1:Int):=bJ aag F ab f162 dK ed 1 (n1,())
theorem ao5 (n1:Int):lD F n1=(strconv_Itoa F0 n1).bind fun r4=>some (r4.1,()):=by kernel_rfl
def wm:Any:=.one ⟨dK,ed,1,fun x=>lD F0 x.1⟩
theorem Ky:bz 162 wm:=aA aag ⟨akk,trivial⟩ func162 ab (by kernel_rfl)
def DF:=[(162,wm)]
def DG:Nat->Option Hint:=look [(5,{live:=[0,4,5],xl:=[0,4],rl:=[2,3]})]
def wo (s:ByteArray)(n1 i:Int):= cV 43 [(0,UP s),(4,bW n1),(5,bW i)]
def F3 (t2:Int)(t3:Bool):= cV 43 [(2,bW t2),(3,SK t3)]
def P5 (s:ByteArray)(n1:Int):= cV 43 [(0,UP s),(4,bW n1)]
def DH (st:St):Option U:=gQ DF F DG [.r,.r,.r,.l,.r,.b,.i] f98 J n st
def wq:=jG DF F DG [.r,.r,.r,.l,.r,.b] f98 atK 1
theorem Kz (s:ByteArray)(n1 i:Int):DH F J (n+1) (wo s n1 i)=br (decide (i<(s.size:Int))) (ck (cr i (s.size:Int)) (br (decide ((kc s i)<48)) (J .ret (F3 0 false)) (ck (cr i (s.size:Int)) (br (decide ((kc s i)>57)) (J .ret (F3 0 false)) (ck (cr i (s.size:Int)) (DH F J n (wo s (ak ((ak (10*n1))+(ak (IntKind.wrap .u8 ((kc s i)-48))))) (ak (i+1))))))))) (J (.exit 0) (P5 s n1)):=by kernel_rfl
theorem agW (t2:Int)(t3:Bool):wq F .ret (F3 t2 t3)=some (t2,t3,()):=by kernel_rfl
theorem ad6 (s:ByteArray)(n1:Int):wq F (.exit 0) (P5 s n1)=(lD F0 n1).bind fun Re=>br (!(Re.1.toList==s.toList)) (some (0,false,())) (some (n1,true,())):=by kernel_rfl
def n5 (s:ByteArray):=bJ DF F DG f98 ed atK 1 (s,())
theorem ao6 (s:ByteArray):n5 F s=br (decide ((s.size:Int)<1)) (some (0,false,())) (br (decide ((s.size:Int)>6)) (some (0,false,())) (DH F (wq F) F.n (wo s 0 0))):=by kernel_rfl
def F4:Any:=.one ⟨ed,atK,1,fun x=>n5 F0 x.1⟩
theorem WB:bz 98 F4:=aA DF ⟨Ky,trivial⟩ func98 DG (by kernel_rfl)
def ajl:=[(67,bR)]
def pW (x:D4):=bJ ajl F ab f153 Zu bd 1 (x,())
theorem awf (x:D4):pW F x=(bg F0 x.1 0 3).bind fun r5=>br r5.1 ((bg F0 x.2.1 0 3).bind fun r9=>br r9.1 ((bg F0 x.2.2.1 0 1000).bind fun l6=>br l6.1 ((bg F0 x.2.2.2 0 99).bind fun dW=>some (dW.1,())) (some (false,()))) (some (false,()))) (some (false,())):=by kernel_rfl
def jW:Any:=.one ⟨Zu,bd,1,fun x=>pW F0 x.1⟩
theorem oD:bz 153 jW:=aA ajl ⟨cq,trivial⟩ func153 ab (by kernel_rfl)
def aah:=[(153,jW),(162,wm)]
def E1 (x:D4):=bJ aah F ab f223 Zu ed 1 (x,())
theorem ao7 (x:D4):E1 F x=(pW F0 x).bind fun r4=>br (!r4.1) (some (al,())) ((lD F0 x.1).bind fun r8=>ck (okC F r8.1.size (ByteArray.mk #[62]).size) ((lD F0 x.2.1).bind fun cP=>ck (okC F (r8.1++(ByteArray.mk #[62])).size cP.1.size) (ck (okC F ((r8.1++(ByteArray.mk #[62]))++cP.1).size (ByteArray.mk #[58]).size) ((lD F0 x.2.2.1).bind fun fD=>ck (okC F (((r8.1++(ByteArray.mk #[62]))++cP.1)++(ByteArray.mk #[58])).size fD.1.size) (ck (okC F ((((r8.1++(ByteArray.mk #[62]))++cP.1)++(ByteArray.mk #[58]))++fD.1).size (ByteArray.mk #[35]).size) ((lD F0 x.2.2.2).bind fun gL=>ck (okC F (((((r8.1++(ByteArray.mk #[62]))++cP.1)++(ByteArray.mk #[58]))++fD.1)++(ByteArray.mk #[35])).size gL.1.size) (some ((((((r8.1++(ByteArray.mk #[62]))++cP.1)++(ByteArray.mk #[58]))++fD.1)++(ByteArray.mk #[35]))++gL.1,())))))))):=by kernel_rfl
def F5:Any:=.one ⟨Zu,ed,1,fun x=>E1 F0 x.1⟩
theorem WC:bz 223 F5:=aA aah ⟨oD,Ky,trivial⟩ func223 ab (by kernel_rfl)
def ajm:=[(97,FD),(98,F4),(153,jW),(223,F5)]
def Yf (s:ByteArray):=bJ ajm F ab f163 ed aDM 1 (s,())
theorem awg (s:ByteArray):Yf F0 s=(strings_Cut F0 s (ByteArray.mk #[62])).bind fun ayP=>(strings_Cut F0 ayP.2.1 (ByteArray.mk #[58])).bind fun ayQ=>(strings_Cut F0 ayQ.2.1 (ByteArray.mk #[35])).bind fun ajn=>ck (cr 0 4) ((n5 F0 (aU [ayP.1,ayQ.1,ajn.1,ajn.2.1] 0 ByteArray.empty)).bind fun aHY=>ck (cr 1 4) ((n5 F0 (aU [ayP.1,ayQ.1,ajn.1,ajn.2.1] 1 ByteArray.empty)).bind fun aHZ=>ck (cr 2 4) ((n5 F0 (aU [ayP.1,ayQ.1,ajn.1,ajn.2.1] 2 ByteArray.empty)).bind fun aH0=>ck (cr 3 4) ((n5 F0 (aU [ayP.1,ayQ.1,ajn.1,ajn.2.1] 3 ByteArray.empty)).bind fun aH1=>(pW F0 (aHY.1,aHZ.1,aH0.1,aH1.1)).bind fun aOG=>br (!aOG.1) (some ((0,0,0,0),false,())) ((E1 F0 (aHY.1,aHZ.1,aH0.1,aH1.1)).bind fun aOH=>br (!(aOH.1.toList==s.toList)) (some ((0,0,0,0),false,())) (some ((aHY.1,aHZ.1,aH0.1,aH1.1),true,()))))))):=by kernel_rfl
def aai:Any:=.one ⟨ed,aDM,1,fun x=>Yf F0 x.1⟩
theorem awh:bz 163 aai:=aA ajm ⟨VD,WB,oD,WC,trivial⟩ func163 ab (by kernel_rfl)
def Ig:=[(96,Kx),(163,aai)]
def Ih:Nat->Option Hint:=look [(5,{live:=[4,12,13,14],mat:=[(4,76,K4)],xl:=[4],rl:=[2,3]})]
def z6 (t12:List ByteArray)(t13 t14:Int)(xs:List D4):= eD 31 [(4,.v (.c (.own 1000000 none))),(12,.v (.c (.ro true 9 (.str) t12))),(13,bW t13),(14,bW t14)] [] [aB 1000000 76 K4 xs]
def WD (t3:Bool):= cV 31 [(2,.v (.c (.nil))),(3,SK t3)]
def TM (xs:List D4):= eD 31 [(4,.v (.c (.own 1000000 none)))] [] [aB 1000000 76 K4 xs]
def Ii (st:St):Option U:=gQ Ig F Ih [.r,.r,.r,.l,.r,.b,.i] f99 J n st
def z7:=jG Ig F Ih [.r,.r,.r,.l,.r,.b] f99 VO 2
theorem MW (t12:List ByteArray)(t13 t14:Int)(xs:List D4):Ii F J (n+1) (z6 t12 t13 t14 xs)=br (decide (t14<t13)) (ck (cr t14 (t12.length:Int)) ((Yf F0 (aU t12 t14 ByteArray.empty)).bind fun EH=>br (!EH.2.1) (J .ret (WD false)) (ck (fp F xs.length [EH.1].length 32) (Ii F J n (z6 t12 t13 (ak (t14+1)) (xs++[EH.1])))))) (J (.exit 0) (TM xs)):=by kernel_rfl
theorem alo (t3:Bool):z7 F .ret (WD t3)=some ([],t3,()):=by kernel_rfl
theorem agX (xs:List D4):z7 F (.exit 0) (TM xs)=some (xs,true,()):=by kernel_rfl
def KA (s:ByteArray):=bJ Ig F Ih f99 ed VO 2 (s,())
theorem asp (s:ByteArray):KA F s=br (s.toList==al.toList) (some ([],true,())) ((xj F0 s 44).bind fun cP=>Ii F (z7 F) F.n (z6 cP.1 (cP.1.length:Int) 0 [])):=by kernel_rfl
def WE:Any:=.one ⟨ed,VO,2,fun x=>KA F0 x.1⟩
theorem asq:bz 99 WE:=aA Ig ⟨aaf,awh,trivial⟩ func99 Ih (by kernel_rfl)
def Ij:=[(67,bR),(96,Kx),(97,FD),(98,F4),(99,WE)]
def Ik:Nat->Option Hint:=look [(9,{live:=[5,6,31,32,33],mat:=[(5,157,K6)],xl:=[5],rl:=[2,3]})]
def z8 (JO:Int)(t31:List ByteArray)(t32 t33:Int)(xs:List D6):= eD 84 [(5,.v (.c (.own 1000000 none))),(6,bW JO),(31,.v (.c (.ro true 9 (.str) t31))),(32,bW t32),(33,bW t33)] [] [aB 1000000 157 K6 xs]
def np (t3:Bool):= cV 84 [(2,.v (.c (.nil))),(3,SK t3)]
def TN (xs:List D6):= eD 84 [(5,.v (.c (.own 1000000 none)))] [] [aB 1000000 157 K6 xs]
def Il (st:St):Option U:=gQ Ij F Ik [.r,.r,.r,.r,.r,.r,.l,.r,.b,.i] f50 J n st
def Aa:=jG Ij F Ik [.r,.r,.r,.r,.r,.r,.l,.r,.b] f50 atL 2
theorem MX (JO:Int)(t31:List ByteArray)(t32 t33:Int)(xs:List D6):Il F J (n+1) (z8 JO t31 t32 t33 xs)=br (decide (t33<t32)) (ck (cr t33 (t31.length:Int)) ((strings_Cut F0 (aU t31 t33 ByteArray.empty) (ByteArray.mk #[124])).bind fun Re=>(n5 F0 Re.1).bind fun r45=>(KA F0 Re.2.1).bind fun Fw=>br (!Re.2.2.1) (J .ret (np false)) (br (!r45.2.1) (J .ret (np false)) (br (!Fw.2.1) (J .ret (np false)) ((bg F0 r45.1 (ak (JO+1)) 60).bind fun r67=>br (!r67.1) (J .ret (np false)) (br (decide ((Fw.1.length:Int)>2)) (J .ret (np false)) (ck (fp F xs.length [(r45.1,Fw.1)].length 32) (Il F J n (z8 r45.1 t31 t32 (ak (t33+1)) (xs++[(r45.1,Fw.1)])))))))))) (J (.exit 0) (TN xs)):=by kernel_rfl
theorem alp (t3:Bool):Aa F .ret (np t3)=some ([],t3,()):=by kernel_rfl
theorem agY (xs:List D6):Aa F (.exit 0) (TN xs)=some (xs,true,()):=by kernel_rfl
def oE (s:ByteArray):=bJ Ij F Ik f50 ed atL 2 (s,())
theorem asr (s:ByteArray):oE F s=br (s.toList==al.toList) (some ([],true,())) ((xj F0 s 47).bind fun dW=>ck (cr 0 (dW.1.length:Int)) (br (!((aU dW.1 0 ByteArray.empty).toList==al.toList)) (some ([],false,())) (br (decide ((ak ((dW.1.length:Int)-1))>30)) (some ([],false,())) (ck (SJ 1 (dW.1.length:Int) (dW.1.length:Int)) (Il F (Aa F) F.n (z8 0 ((dW.1.take (dW.1.length:Int).toNat).drop (1:Int).toNat) (((dW.1.take (dW.1.length:Int).toNat).drop (1:Int).toNat).length:Int) 0 [])))))):=by kernel_rfl
def nq:Any:=.one ⟨ed,atL,2,fun x=>oE F0 x.1⟩
theorem uP:bz 50 nq:=aA Ij ⟨cq,aaf,VD,WB,asq,trivial⟩ func50 Ik (by kernel_rfl)
def aaj:=[(50,nq)]
def fi (s:ByteArray):=bJ aaj F ab f19 ed bd 1 (s,())
theorem ao8 (s:ByteArray):fi F s=(oE F0 s).bind fun r7=>some (r7.2.1,()):=by kernel_rfl
def eX:Any:=.one ⟨ed,bd,1,fun x=>fi F0 x.1⟩
theorem gn:bz 19 eX:=aA aaj ⟨uP,trivial⟩ func19 ab (by kernel_rfl)
def aak:=[(50,nq)]
def fj (s:ByteArray):=bJ aak F ab f71 ed dK 1 (s,())
theorem ao9 (s:ByteArray):fj F s=(oE F0 s).bind fun r7=>br ((r7.1.length:Int)==0) (some (0,())) (ck (cr (ak ((r7.1.length:Int)-1)) (r7.1.length:Int)) (some ((aU r7.1 (ak ((r7.1.length:Int)-1)) (0,[])).1,()))):=by kernel_rfl
def eY:Any:=.one ⟨ed,dK,1,fun x=>fj F0 x.1⟩
theorem gp:bz 71 eY:=aA aak ⟨uP,trivial⟩ func71 ab (by kernel_rfl)
def Im:Nat->Option Hint:=look [(2,{live:=[0,1,7,8,9],rl:=[4]})]
def rB (n1:Int)(s t7:List Int)(t8 t9:Int):= cV 35 [(0,bW n1),(1,j9 3 (.int .i64) s),(7,j9 3 (.int .i64) t7),(8,bW t8),(9,bW t9)]
def Ab (t4:Bool):= cV 35 [(4,SK t4)]
def TO   := cV 35 []
def Ac (st:St):Option U:=gQ aF F Im [.r,.l,.r,.b,.i] f68 J n st
def Ad:=jG aF F Im [.r,.l,.r,.b] f68 bd 1
theorem MY (n1:Int)(s t7:List Int)(t8 t9:Int):Ac F J (n+1) (rB n1 s t7 t8 t9)=br (decide (t9<t8)) (ck (cr t9 (t7.length:Int)) (br (decide ((aU t7 t9 0)<0)) (J .ret (Ab false)) (br (decide ((aU t7 t9 0)>=n1)) (J .ret (Ab false)) (br (decide (t9>0)) (ck (cr (ak (t9-1)) (s.length:Int)) (br (decide ((aU s (ak (t9-1)) 0)>=(aU t7 t9 0))) (J .ret (Ab false)) (Ac F J n (rB n1 s t7 t8 (ak (t9+1)))))) (Ac F J n (rB n1 s t7 t8 (ak (t9+1)))))))) (J (.exit 0) (TO)):=by kernel_rfl
theorem alq (t4:Bool):Ad F .ret (Ab t4)=some (t4,()):=by kernel_rfl
theorem agZ: Ad F (.exit 0) (TO)=some (true,()):=by kernel_rfl
def xk (n1:Int)(s:List Int):=bJ aF F Im f68 aDN bd 1 (n1,s,())
theorem ass (n1:Int)(s:List Int):xk F n1 s=Ac F (Ad F) F.n (rB n1 s s (s.length:Int) 0):=by kernel_rfl
def Ae:Any:=.one ⟨aDN,bd,1,fun x=>xk F0 x.1 x.2.1⟩
theorem Ox:bz 68 Ae:=aA aF trivial func68 Im (by kernel_rfl)
def aal:=[(32,dD)]
def E2 (c:D1):=bJ aal F ab f69 SN dK 1 (c,())
theorem apa (c:D1):E2 F c=(fh F0 c).bind fun r4=>br (!r4.1) (some (0,())) (some (ak (Int.tdiv (ak (c.1-1)) 3),())):=by kernel_rfl
def F6:Any:=.one ⟨SN,dK,1,fun x=>E2 F0 x.1⟩
theorem WG:bz 69 F6:=aA aal ⟨eP,trivial⟩ func69 ab (by kernel_rfl)
def aam:=[(32,dD),(69,F6)]
def E3 (c:D1):=bJ aam F ab f214 SN dK 1 (c,())
theorem apb (c:D1):E3 F c=(fh F0 c).bind fun r4=>br (!r4.1) (some (0,())) ((E2 F0 c).bind fun r9=>some (ak (c.1-r9.1),())):=by kernel_rfl
def F7:Any:=.one ⟨SN,dK,1,fun x=>E3 F0 x.1⟩
theorem WH:bz 214 F7:=aA aam ⟨eP,WG,trivial⟩ func214 ab (by kernel_rfl)
def ajo:=[(19,eX),(32,dD),(46,kR),(68,Ae),(71,eY),(205,Cf),(214,F7)]
def nr (c:D1)(q:D9):=bJ ajo F ab f152 Gx bd 1 (c,q,())
theorem awi (c:D1)(q:D9):nr F c q=(fh F0 c).bind fun r6=>br (!r6.1) (some (false,())) ((sZ F0).bind fun r9=>(jV F0 q r9.1).bind fun ij=>br ij.1 (some (true,())) (br (decide (q.1>=1)) ((fi F0 q.2.1).bind fun Oq=>br Oq.1 ((fj F0 q.2.1).bind fun Wl=>br (q.1==Wl.1) ((xk F0 c.1 q.2.2).bind fun uD=>br uD.1 ((E3 F0 c).bind fun xW=>some (decide ((q.2.2.length:Int)>=xW.1),())) (some (false,()))) (some (false,()))) (some (false,()))) (some (false,())))):=by kernel_rfl
def jX:Any:=.one ⟨Gx,bd,1,fun x=>nr F0 x.1 x.2.1⟩
theorem oF:bz 152 jX:=aA ajo ⟨gn,eP,rA,Ox,gp,TL,WH,trivial⟩ func152 ab (by kernel_rfl)
def aan:=[(19,eX),(67,bR),(152,jX)]
def lE (c:D1)(s:UF):=bJ aan F ab f90 SV bd 1 (c,s,())
theorem apc (c:D1)(s:UF):lE F c s=(bg F0 s.1 0 60).bind fun r7=>br r7.1 ((bg F0 s.2.1 0 60).bind fun dB=>br dB.1 ((nr F0 c s.2.2.1).bind fun fD=>br fD.1 ((fi F0 s.2.2.2).bind fun gL=>some (gL.1,())) (some (false,()))) (some (false,()))) (some (false,())):=by kernel_rfl
def kS:Any:=.one ⟨SV,bd,1,fun x=>lE F0 x.1 x.2.1⟩
theorem rC:bz 90 kS:=aA aan ⟨gn,cq,oF,trivial⟩ func90 ab (by kernel_rfl)
def DI (a b:D4):=bJ aF F ab f154 aDO bd 1 (a,b,())
theorem ag0 (a b:D4):DI F a b=br (decide (a.1<b.1)) (some (true,())) (br (a.1==b.1) (some (decide (a.2.2.2<b.2.2.2),())) (some (false,()))):=by kernel_rfl
def MZ:Any:=.one ⟨aDO,bd,1,fun x=>DI F0 x.1 x.2.1⟩
theorem ag1:bz 154 MZ:=aA aF trivial func154 ab (by kernel_rfl)
def DJ:=[(153,jW),(154,MZ)]
def DK:Nat->Option Hint:=look [(2,{live:=[0,5,6,7],xl:=[0],rl:=[2]})]
def pA (p t5:List D4)(t6 t7:Int):= cV 33 [(0,j9 76 (K4) p),(5,j9 76 (K4) t5),(6,bW t6),(7,bW t7)]
def F8 (t2:Bool):= cV 33 [(2,SK t2)]
def P6 (p:List D4):= cV 33 [(0,j9 76 (K4) p)]
def uQ (st:St):Option U:=gQ DJ F DK [.r,.l,.r,.b,.i] f92 J n st
def wu:=jG DJ F DK [.r,.l,.r,.b] f92 bd 1
theorem KB (p t5:List D4)(t6 t7:Int):uQ F J (n+1) (pA p t5 t6 t7)=br (decide (t7<t6)) (ck (cr t7 (t5.length:Int)) ((pW F0 (aU t5 t7 K4.aG)).bind fun cp=>br (!cp.1) (J .ret (F8 false)) (br (decide (t7>0)) (ck (cr (ak (t7-1)) (p.length:Int)) ((DI F0 (aU p (ak (t7-1)) K4.aG) (aU t5 t7 K4.aG)).bind fun Wl=>br (!Wl.1) (J .ret (F8 false)) (uQ F J n (pA p t5 t6 (ak (t7+1)))))) (uQ F J n (pA p t5 t6 (ak (t7+1))))))) (J (.exit 0) (P6 p)):=by kernel_rfl
theorem ag2 (t2:Bool):wu F .ret (F8 t2)=some (t2,()):=by kernel_rfl
theorem ad7 (p:List D4):wu F (.exit 0) (P6 p)=some (decide ((p.length:Int)<=12),()):=by kernel_rfl
def x9 (p:D5):=bJ DJ F DK f92 kF bd 1 (p,())
theorem apd (p:D5):x9 F p=uQ F (wu F) F.n (pA p p (p.length:Int) 0):=by kernel_rfl
def F9:Any:=.one ⟨kF,bd,1,fun x=>x9 F0 x.1⟩
theorem WJ:bz 92 F9:=aA DJ ⟨oD,ag1,trivial⟩ func92 DK (by kernel_rfl)
def aao:=[(19,eX),(32,dD),(67,bR),(68,Ae),(71,eY)]
def rD (c:D1)(p:D9):=bJ aao F ab f155 Gx bd 1 (c,p,())
theorem ape (c:D1)(p:D9):rD F c p=(fh F0 c).bind fun r6=>br r6.1 ((bg F0 p.1 1 60).bind fun ij=>br ij.1 (br (p.2.1.toList==al.toList) ((xk F0 c.1 p.2.2).bind fun r35=>br r35.1 (some (decide ((p.2.2.length:Int)>0),())) (some (false,()))) ((fi F0 p.2.1).bind fun dW=>br dW.1 ((fj F0 p.2.1).bind fun sw=>br (sw.1==p.1) ((xk F0 c.1 p.2.2).bind fun r35=>br r35.1 (some (decide ((p.2.2.length:Int)>0),())) (some (false,()))) (some (false,()))) (some (false,())))) (some (false,()))) (some (false,())):=by kernel_rfl
def pB:Any:=.one ⟨Gx,bd,1,fun x=>rD F0 x.1 x.2.1⟩
theorem Af:bz 155 pB:=aA aao ⟨gn,eP,cq,Ox,gp,trivial⟩ func155 ab (by kernel_rfl)
def DL (x:Int):=bJ aF F ab f260 dK bd 1 (x,())
theorem P7 (x:Int):DL F x=some (x != x,()):=by kernel_rfl
def M0:Any:=.one ⟨dK,bd,1,fun x=>DL F0 x.1⟩
theorem ag3:bz 260 M0:=aA aF trivial func260 ab (by kernel_rfl)
def M1:=[(260,M0)]
def wv (x y:Int):=bJ M1 F ab f215 atM dK 1 (x,y,())
theorem abL (x y:Int):wv F x y=(DL F0 x).bind fun r8=>(DL F0 y).bind fun ij=>br r8.1 (br ij.1 (some (0,())) (some (-1,()))) (br ij.1 (some (1,())) (br (decide (x<y)) (some (-1,())) (br (decide (x>y)) (some (1,())) (some (0,()))))):=by kernel_rfl
def GY:Any:=.one ⟨atM,dK,1,fun x=>wv F0 x.1 x.2.1⟩
theorem abM:bz 215 GY:=aA M1 ⟨ag3,trivial⟩ func215 ab (by kernel_rfl)
def s0 (x:ByteArray):=bJ aF F ab f261 ed bd 1 (x,())
theorem GZ (x:ByteArray):s0 F x=some (!(x.toList==x.toList),()):=by kernel_rfl
def E4:Any:=.one ⟨ed,bd,1,fun x=>s0 F0 x.1⟩
theorem YX:bz 261 E4:=aA aF trivial func261 ab (by kernel_rfl)
def E5:=[(261,E4)]
def oG (x y:ByteArray):=bJ E5 F ab f216 ZR dK 1 (x,y,())
theorem UL (x y:ByteArray):oG F x y=(s0 F0 x).bind fun r8=>(s0 F0 y).bind fun ij=>br r8.1 (br ij.1 (some (0,())) (some (-1,()))) (br ij.1 (some (1,())) (br (Op.bytesLess x.toList y.toList) (some (-1,())) (br (!(Op.bytesLess x.toList y.toList || (x.toList==y.toList))) (some (1,())) (some (0,()))))):=by kernel_rfl
def Ag:Any:=.one ⟨ZR,dK,1,fun x=>oG F0 x.1 x.2.1⟩
theorem UM:bz 216 Ag:=aA E5 ⟨YX,trivial⟩ func216 ab (by kernel_rfl)
def G5:=[(215,GY),(216,Ag)]
def gq (a b:D9):=bJ G5 F ab f156 xT dK 1 (a,b,())
theorem E6 (a b:D9):gq F a b=(wv F0 a.1 b.1).bind fun ij=>br (ij.1 != 0) (some (ij.1,())) ((oG F0 a.2.1 b.2.1).bind fun Oq=>some (Oq.1,())):=by kernel_rfl
def p9:Any:=.one ⟨xT,dK,1,fun x=>gq F0 x.1 x.2.1⟩
theorem E7:bz 156 p9:=aA G5 ⟨abM,UM,trivial⟩ func156 ab (by kernel_rfl)
def Ah:=[(155,pB),(156,p9)]
def Ai:Nat->Option Hint:=look [(2,{live:=[1,2,7,8,9],xl:=[1],rl:=[4]})]
def ns (list t7:List D9)(t8 t9 c c1:Int):= eD 36 [(1,j9 74 (K9) list),cW 2,(7,j9 74 (K9) t7),(8,bW t8),(9,bW t9)] [(2,[aq c,aq c1])] []
def Cg (t4:Bool):= cV 36 [(4,SK t4)]
def M3 (list:List D9):= cV 36 [(1,j9 74 (K9) list)]
def rE (st:St):Option U:=gQ Ah F Ai [.r,.l,.r,.b,.i] f93 J n st
def s5:=jG Ah F Ai [.r,.l,.r,.b] f93 bd 1
theorem G6 (list t7:List D9)(t8 t9 c c1:Int):rE F J (n+1) (ns list t7 t8 t9 c c1)=br (decide (t9<t8)) (ck (cr t9 (t7.length:Int)) ((rD F0 (c,c1) (aU t7 t9 K9.aG)).bind fun o9=>br (!o9.1) (J .ret (Cg false)) (br (decide (t9>0)) (ck (cr (ak (t9-1)) (list.length:Int)) ((gq F0 (aU list (ak (t9-1)) K9.aG) (aU t7 t9 K9.aG)).bind fun VM=>br (decide (VM.1>=0)) (J .ret (Cg false)) (rE F J n (ns list t7 t8 (ak (t9+1)) c c1)))) (rE F J n (ns list t7 t8 (ak (t9+1)) c c1))))) (J (.exit 0) (M3 list)):=by kernel_rfl
theorem ad8 (t4:Bool):s5 F .ret (Cg t4)=some (t4,()):=by kernel_rfl
theorem abN (list:List D9):s5 F (.exit 0) (M3 list)=some (decide ((list.length:Int)<=20),()):=by kernel_rfl
def lF (c:D1)(list:D13):=bJ Ah F Ai f93 aDP bd 1 (c,list,())
theorem alr (c:D1)(list:D13):lF F c list=rE F (s5 F) F.n (ns list list (list.length:Int) 0 c.1 c.2):=by kernel_rfl
def Ch:Any:=.one ⟨aDP,bd,1,fun x=>lF F0 x.1 x.2.1⟩
theorem TP:bz 93 Ch:=aA Ah ⟨Af,E7,trivial⟩ func93 Ai (by kernel_rfl)
def aap:=[(67,bR)]
def rF (d:D14):=bJ aap F ab f42 qf bd 1 (d,())
theorem apf (d:D14):rF F d=br (decide ((d.1.length:Int)<=100000)) ((bg F0 d.2 0 (d.1.length:Int)).bind fun cp=>some (cp.1,())) (some (false,())):=by kernel_rfl
def pC:Any:=.one ⟨qf,bd,1,fun x=>rF F0 x.1⟩
theorem Aj:bz 42 pC:=aA aap ⟨cq,trivial⟩ func42 ab (by kernel_rfl)
def ad9:Nat->Option Hint:=look [(900008,{live:=[],mat:=[(1,0,K21)]})]
def RS (m:Oo):=bJ aF F ad9 f158 xV xV 0 (m,())
theorem ast (m:Oo):RS F m=br (m.1==1) (some ((m.1,0,m.2.2.1,(0,al,[]),(0,al,[]),0,0,0,0,0),())) (br (m.1==2) (some ((m.1,0,(al,0,al,[]),m.2.2.2.1,(0,al,[]),0,0,0,0,0),())) (br (m.1==3) (some ((m.1,m.2.1,(al,0,al,[]),(0,al,[]),m.2.2.2.2.1,m.2.2.2.2.2.1,0,0,0,0),())) (br (m.1==4) (some ((m.1,0,(al,0,al,[]),(0,al,[]),(0,al,[]),0,m.2.2.2.2.2.2),())) (some ((m.1,0,(al,0,al,[]),(0,al,[]),(0,al,[]),0,0,0,0,0),()))))):=by kernel_rfl
def WK:Any:=.one ⟨xV,xV,0,fun x=>RS F0 x.1⟩
theorem asu:bz 158 WK:=aA aF trivial func158 ad9 (by kernel_rfl)
def P8:=[(46,kR)]
def Ak (a b:D15):=bJ P8 F ab f217 aDQ bd 1 (a,b,())
theorem aea (a b:D15):Ak F a b=br (a.1.toList==b.1.toList) ((jV F0 a.2 b.2).bind fun pa=>some (pa.1,())) (some (false,())):=by kernel_rfl
def KC:Any:=.one ⟨aDQ,bd,1,fun x=>Ak F0 x.1 x.2.1⟩
theorem aeb:bz 217 KC:=aA P8 ⟨rA,trivial⟩ func217 ab (by kernel_rfl)
end
end Go.Am.Tryz
