/- Lemmas for the claim. No condition. -/
import Derived.Test.YtfapcfpkbahneaaGreatDoorQlVJG3
set_option linter.all false
set_option maxRecDepth 100000
namespace Go.Am.Tryz
open Go.Am Go.Proofs Go.Proofs.Tryz
noncomputable section
variable {α:Type} (F:rQ) (κ:Ex→St→Option α) (n:Nat)
def zo:=[(238,Vo)]
def zp:Nat→Option Hint:=look [(3,{live:=[1,2,4,6,7],xY:=[(4,2,3,.int .i64),(4,3,50,db),(4,4,114,fU),(4,5,127,eh)],xl:=[2,4],rl:=[4,5]})]
def sI (a i p p1 w w1 t4 t41 r r1 r2 r3 r4 r5:Int)(r6:ByteArray)(r7:List Int)(r8:ByteArray)(r9:List D4)(hY:List D9)(dA:List Int)(cN:Int)(cj:List lL)(xs:List Int)(aO:List bz)(aY:List cU)(bj:List cE)(bK:List Int)(cA:List bz)(cB:List cU)(cF:List cE):St:={nt:=59,tm:=[(1,bR a),cS 2,cS 4,cS 6,(7,bR i)],bx:=[(2,[aq w,aq w1,.own 1000000 none,.own 1000001 none,.own 1000002 none,.own 1000003 none]),(4,[aq t4,aq t41,.own 1000004 none,.own 1000005 none,.own 1000006 none,.own 1000007 none]),(6,[aq r,aq r1,aq r2,aq r3,aq r4,aq r5,.str r6,.ro true 3 (.int .i64) r7,.str r8,.ro true 76 (K4) r9,.ro true 74 (K9) hY,.ro true 5 (.int .u8) dA,aq cN,.ro true 146 (qK) cj])],bl:=[aB 1000000 3 (.int .i64) xs,aB 1000001 50 db aO,aB 1000002 114 fU aY,aB 1000003 127 eh bj,aB 1000004 3 (.int .i64) bK,aB 1000005 50 db cA,aB 1000006 114 fU cB,aB 1000007 127 eh cF],sp:=.v (.agg [aq p,aq p1,.own 1000000 none,.own 1000001 none,.own 1000002 none,.own 1000003 none])}
def BF (t5 p p1 t4 t41:Int)(xs:List Int)(aO:List bz)(aY:List cU)(bj:List cE):St:={nt:=59,tm:=[cS 4,(5,bR t5)],bx:=[(4,[aq t4,aq t41,.own 1000000 none,.own 1000001 none,.own 1000002 none,.own 1000003 none])],bl:=[aB 1000000 3 (.int .i64) xs,aB 1000001 50 db aO,aB 1000002 114 fU aY,aB 1000003 127 eh bj],sp:=.v (.agg [aq p,aq p1,.own 1000000 none,.own 1000001 none,.own 1000002 none,.own 1000003 none])}
def L8 (p p1 w w1 t4 t41:Int)(xs:List Int)(aO:List bz)(aY:List cU)(bj:List cE)(bK:List Int)(cA:List bz)(cB:List cU)(cF:List cE):St:={nt:=59,tm:=[cS 2,cS 4],bx:=[(2,[aq w,aq w1,.own 1000000 none,.own 1000001 none,.own 1000002 none,.own 1000003 none]),(4,[aq t4,aq t41,.own 1000004 none,.own 1000005 none,.own 1000006 none,.own 1000007 none])],bl:=[aB 1000000 3 (.int .i64) xs,aB 1000001 50 db aO,aB 1000002 114 fU aY,aB 1000003 127 eh bj,aB 1000004 3 (.int .i64) bK,aB 1000005 50 db cA,aB 1000006 114 fU cB,aB 1000007 127 eh cF],sp:=.v (.agg [aq p,aq p1,.own 1000000 none,.own 1000001 none,.own 1000002 none,.own 1000003 none])}
def zq (st:St):Option α:=gW zo F zp [.r,.r,.l,.r,.b,.i] f177 κ n st
def sJ:=alH Tryz.prog (look zo) F zp [.r,.r,.l,.r,.b] (nO f177) (ay8 Tryz.prog f177 (iM,true) (.int .i64,false) (iM,true))
theorem Gm (a i p p1 w w1 t4 t41 r r1 r2 r3 r4 r5:Int)(r6:ByteArray)(r7:List Int)(r8:ByteArray)(r9:List D4)(hY:List D9)(dA:List Int)(cN:Int)(cj:List lL)(xs:List Int)(aO:List bz)(aY:List cU)(bj:List cE)(bK:List Int)(cA:List bz)(cB:List cU)(cF:List cE):zq F κ (n+1) (sI a i p p1 w w1 t4 t41 r r1 r2 r3 r4 r5 r6 r7 r8 r9 hY dA cN cj xs aO aY bj bK cA cB cF)=br (decide (i≥0)) (ck (cl i (hY.length:Int)) (br ((aP hY i K9.aG).2.1.toList==al.toList) (zq F κ n (sI a (aj (i-1)) p p1 w w1 t4 t41 r r1 r2 r3 r4 r5 r6 r7 r8 r9 hY dA cN cj xs aO aY bj bK cA cB cF)) (ck (cl i (hY.length:Int)) (ck (cl i (hY.length:Int)) ((QX F0 (w,w1) (r,r1,r2,(r3,r4,(r5,r6,r7),r8),r9,hY,(dA,cN),cj) (aP hY i K9.aG).1 (aP hY i K9.aG).2.1 true).bind fun Qu=>br (!Qu.2.1) (κ .ret (BF 3 p p1 w w1 xs aO aY bj)) (ck (cl a (aO.length:Int)) (κ .ret (BF 0 p p1 w w1 xs (aO.set a.toNat Qu.1) aY bj)))))))) (κ (.exit 0) (L8 p p1 w w1 t4 t41 xs aO aY bj bK cA cB cF)):=by kernel_rfl
theorem L9 (t5 p p1 t4 t41:Int)(xs:List Int)(aO:List bz)(aY:List cU)(bj:List cE):sJ F .ret (BF t5 p p1 t4 t41 xs aO aY bj)=br (t5==0) (some (((t4,t41),xs,aO,aY,bj),t5,iM.aG)) (some (iM.aG,t5,(p,p1),xs,aO,aY,bj)):=by kernel_rfl
theorem aaJ (p p1 w w1 t4 t41:Int)(xs:List Int)(aO:List bz)(aY:List cU)(bj:List cE)(bK:List Int)(cA:List bz)(cB:List cU)(cF:List cE):sJ F (.exit 0) (L8 p p1 w w1 t4 t41 xs aO aY bj bK cA cB cF)=some (iM.aG,3,(p,p1),xs,aO,aY,bj):=by kernel_rfl
def HC (w:pt)(a:Int):Option (pt×Int×pt):=ap0 Tryz.prog (look zo) F zp f177 [(iM,true),(.int .i64,false)] 0 (iM,true) (.int .i64,false) (iM,true) (w,a,())
theorem aj9 (w:pt)(a:Int):HC F w a=ck (cl a (w.2.2.1.length:Int)) (zq F (sJ F) F.n (sI a (aj (((aP w.2.2.1 a db.aG).2.2.2.2.2.1.length:Int)-1)) w.1.1 w.1.2 w.1.1 w.1.2 0 0 (aP w.2.2.1 a db.aG).1 (aP w.2.2.1 a db.aG).2.1 (aP w.2.2.1 a db.aG).2.2.1 (aP w.2.2.1 a db.aG).2.2.2.1.1 (aP w.2.2.1 a db.aG).2.2.2.1.2.1 (aP w.2.2.1 a db.aG).2.2.2.1.2.2.1.1 (aP w.2.2.1 a db.aG).2.2.2.1.2.2.1.2.1 (aP w.2.2.1 a db.aG).2.2.2.1.2.2.1.2.2 (aP w.2.2.1 a db.aG).2.2.2.1.2.2.2 (aP w.2.2.1 a db.aG).2.2.2.2.1 (aP w.2.2.1 a db.aG).2.2.2.2.2.1 (aP w.2.2.1 a db.aG).2.2.2.2.2.2.1.1 (aP w.2.2.1 a db.aG).2.2.2.2.2.2.1.2 (aP w.2.2.1 a db.aG).2.2.2.2.2.2.2 w.2.1 w.2.2.1 w.2.2.2.1 w.2.2.2.2 [] [] [] [])):=by kernel_rfl
def Pe:Any:=.sel ⟨[(iM,true),(.int .i64,false)],0,(iM,true),(.int .i64,false),(iM,true),fun x=>HC F0 x.1 x.2.1⟩
theorem aka:bm 177 Pe:=ok4 (show x8 Tryz.prog TB zo from⟨aqI,trivial⟩) func177 (by kernel_rfl) (by kernel_rfl) zp (by kernel_rfl) (by kernel_rfl)
def Y5:=[(60,iw),(65,j3),(104,mE),(126,oV)]
abbrev aCr:List (Ty×Bool):=[(K14,true),(.int .i64,false)]
def Ma (d:D14)(keep:Int):=bF Y5 F ab f178 aCr pY 2 (d,keep,())
theorem anw (d:D14)(keep:Int):Ma F d keep=(jr F0 d).bind fun r8=>(nI F0 d).bind fun hY=>br (!hY.1) (some (r8.1,())) ((bV F0 keep (aj ((d.1.length:Int)-d.2))).bind fun gr=>(eD F0 0 gr.1).bind fun sd=>ck (RN 0 (aj (d.2+sd.1)) (d.1.length:Int)) (ck (fg F 0 ((d.1.take (aj (d.2+sd.1)).toNat).drop (0:Int).toNat).length 1) (some (([]++((d.1.take (aj (d.2+sd.1)).toNat).drop (0:Int).toNat),aj (d.2+sd.1)),())))):=by kernel_rfl
def SM:Any:=.one ⟨aCr,pY,2,fun x=>Ma F0 x.1 x.2.1⟩
theorem anx:bm 178 SM:=aA Y5 ⟨lP,pD,u5,yu,trivial⟩ func178 ab (by kernel_rfl)
def QY: Option (Args AM):=bF aF F ab f288 [] AM 2 (())
theorem akb: QY F= some ((0,0,(0,al,[]),al),()):=by kernel_rfl
def Pf:Any:=.one ⟨[],AM,2,fun x=>QY F0⟩
theorem akc:bm 288 Pf:=aA aF trivial func288 ab (by kernel_rfl)
def Y6:=[(123,iW),(128,oW),(129,se),(130,Jk)]
def Mb (c:D1)(b:List Int):=bF Y6 F ab f289 R7 ah1 2 (c,b,())
theorem anz (c:D1)(b:List Int):Mb F c b=(dt F0 (b,0,true)).bind fun cj=>(dt F0 cj.2.1).bind fun oM=>(Bn F0 oM.2.1).bind fun dM=>(nV F0 dM.2.1).bind fun gr=>br (!gr.2.1.2.2) (some ((0,0,(0,al,[]),al),false,())) (br (gr.2.1.2.1 != (b.length:Int)) (some ((0,0,(0,al,[]),al),false,())) ((jG F0 c (cj.1.1,oM.1.1,dM.1.1,gr.1.1)).bind fun r41=>br (!r41.1) (some ((0,0,(0,al,[]),al),false,())) (some ((cj.1.1,oM.1.1,dM.1.1,gr.1.1),true,())))):=by kernel_rfl
def SN:Any:=.one ⟨R7,ah1,2,fun x=>Mb F0 x.1 x.2.1⟩
theorem anA:bm 289 SN:=aA Y6 ⟨mq,yA,Fg,YJ,trivial⟩ func289 ab (by kernel_rfl)
def vD:=[(186,uV),(288,Pf),(289,SN)]
def vE:Nat→Option Hint:=look [(3,{live:=[1,2,4,6,7],xY:=[(4,4,3,.int .i64)],rl:=[4,5]})]
def qj (b:List Int)(iN c c1 t4 t41 t42:Int)(t43 t44:ByteArray)(last anB anC:Int)(anD anE:ByteArray)(xs aO:List Int):= er 62 [(1,jO 5 (.int .u8) b),cS 2,cS 4,cS 6,(7,bR iN)] [(2,[aq c,aq c1]),(4,[aq t4,aq t41,aq t42,.str t43,.own 1000000 none,.str t44]),(6,[aq last,aq anB,aq anC,.str anD,.own 1000001 none,.str anE])] [aB 1000000 3 (.int .i64) xs,aB 1000001 3 (.int .i64) aO]
def k9 (t5 t4 t41 t42:Int)(t43 t44:ByteArray)(xs:List Int):= er 62 [cS 4,(5,bR t5)] [(4,[aq t4,aq t41,aq t42,.str t43,.own 1000000 none,.str t44])] [aB 1000000 3 (.int .i64) xs]
def vF (st:St):Option α:=gW vD F vE [.r,.r,.r,.b,.i] f239 κ n st
abbrev asl:List (Ty×Bool):=[(K12,true),(.int .i64,false)]
def zr:=jF vD F vE [.r,.r,.r,.b] f239 asl 2
theorem Eo (b:List Int)(iN c c1 t4 t41 t42:Int)(t43 t44:ByteArray)(last anB anC:Int)(anD anE:ByteArray)(xs aO:List Int):vF F κ (n+1) (qj b iN c c1 t4 t41 t42 t43 t44 last anB anC anD anE xs aO)=(kU F0 b iN).bind fun fh=>br (!fh.2.2.1) (κ .ret (k9 iN last anB anC anD anE aO)) (br (decide (fh.1≥(aj ((b.length:Int)-fh.2.1)))) (κ .ret (k9 iN last anB anC anD anE aO)) (ck (cl (aj (fh.2.1+fh.1)) (b.length:Int)) (br ((aP b (aj (fh.2.1+fh.1)) 0) != 10) (κ .ret (k9 iN last anB anC anD anE aO)) (ck (RN fh.2.1 (aj (fh.2.1+fh.1)) (b.length:Int)) ((Mb F0 (c,c1) ((b.take (aj (fh.2.1+fh.1)).toNat).drop fh.2.1.toNat)).bind fun EY=>br (!EY.2.1) (κ .ret (k9 iN last anB anC anD anE aO)) (vF F κ n (qj b (aj ((aj (fh.2.1+fh.1))+1)) c c1 t4 t41 t42 t43 t44 EY.1.1 EY.1.2.1 EY.1.2.2.1.1 EY.1.2.2.1.2.1 EY.1.2.2.2 xs EY.1.2.2.1.2.2))))))):=by kernel_rfl
theorem JS (t5 t4 t41 t42:Int)(t43 t44:ByteArray)(xs:List Int):zr F .ret (k9 t5 t4 t41 t42 t43 t44 xs)=some ((t4,t41,(t42,t43,xs),t44),t5,()):=by kernel_rfl
def C6 (c:D1)(b:List Int):=bF vD F vE f239 R7 asl 2 (c,b,())
theorem afS (c:D1)(b:List Int):C6 F c b=(QY F0).bind fun cj=>vF F (zr F) F.n (qj b 0 c.1 c.2 0 0 0 al al cj.1.1 cj.1.2.1 cj.1.2.2.1.1 cj.1.2.2.1.2.1 cj.1.2.2.2 [] cj.1.2.2.1.2.2):=by kernel_rfl
def Mc:Any:=.one ⟨R7,asl,2,fun x=>C6 F0 x.1 x.2.1⟩
theorem afT:bm 239 Mc:=aA vD ⟨Ji,akc,anA,trivial⟩ func239 vE (by kernel_rfl)
def ah8:=[(58,cq),(60,iw),(65,j3),(73,c7),(239,Mc)]
def Pg (c:D1)(r:bz):=bF ah8 F ab f179 xK Sa 2 (c,r,())
theorem auq (c:D1)(r:bz):Pg F c r=(ec F0 c r).bind fun hY=>br (!hY.1) ((bh F0 r).bind fun cj=>some (cj.1,())) ((C6 F0 c r.2.2.2.2.2.2.1.1).bind fun dM=>(eD F0 dM.1.1 (aj (dM.1.2.2.1.1+1))).bind fun UE=>(eD F0 UE.1 1).bind fun Ou=>(bV F0 60 Ou.1).bind fun Fj=>ck (RN 0 dM.2.1 (r.2.2.2.2.2.2.1.1.length:Int)) (ck (fg F 0 ((r.2.2.2.2.2.2.1.1.take dM.2.1.toNat).drop (0:Int).toNat).length 1) (some ((r.1,Fj.1,0,dM.1,[],[],([]++((r.2.2.2.2.2.2.1.1.take dM.2.1.toNat).drop (0:Int).toNat),dM.2.1),[]),())))):=by kernel_rfl
def Y7:Any:=.one ⟨xK,Sa,2,fun x=>Pg F0 x.1 x.2.1⟩
theorem aur:bm 179 Y7:=aA ah8 ⟨cY,lP,pD,dB,afT,trivial⟩ func179 ab (by kernel_rfl)
def ah9:=[(58,cq),(73,c7),(106,jI),(240,kY),(241,mO)]
def W7 (c:D1)(r:bz):=bF ah9 F ab f180 xK hZ 2 (c,r,())
theorem aus (c:D1)(r:bz):W7 F c r=(bh F0 r).bind fun cj=>(ec F0 c r).bind fun oM=>br (!oM.1) (some (cj.1,false,())) (br (decide (r.2.1≥60)) (some (cj.1,false,())) ((mH F0 c (aj (r.2.1+1))).bind fun r31=>br (r31.1==r.1) ((fP F0 c cj.1.2.2.2.2.2.1 (aj (r.2.1+1),al,[r.1])).bind fun Qu=>br (!Qu.2.1) ((bh F0 r).bind fun r52=>some (r52.1,false,())) (some ((cj.1.1,aj (r.2.1+1),cj.1.2.2.1,cj.1.2.2.2.1,cj.1.2.2.2.2.1,Qu.1,cj.1.2.2.2.2.2.2),true,()))) ((gb F0 c (cj.1.1,aj (r.2.1+1),cj.1.2.2) r31.1 (3,aj (r.2.1+1),(al,0,al,[]),(0,al,[]),r.2.2.2.1.2.2.1,r.1,0,0,0,0)).bind fun YS=>br (!YS.1.2.1) ((bh F0 r).bind fun r74=>some (r74.1,false,())) (some (YS.1.1,true,()))))):=by kernel_rfl
def Y8:Any:=.one ⟨xK,hZ,2,fun x=>W7 F0 x.1 x.2.1⟩
theorem aut:bm 180 Y8:=aA ah9 ⟨cY,dB,nX,sy,vw,trivial⟩ func180 ab (by kernel_rfl)
def Y9:=[(58,cq),(172,ND),(175,SH),(176,Pd),(177,Pe),(178,SM),(179,Y7),(180,Y8)]
def Md (w:pt)(d:D45):Option (pt×Int×pt):=ap0 Tryz.prog (look Y9) F ab f121 [(iM,true),(K45,true)] 0 (iM,true) (.int .i64,false) (iM,true) (w,d,())
theorem anF (w:pt)(d:D45):Md F w d=ck (cl d.2.1 (w.2.2.1.length:Int)) (br (d.1==1) ((L4 F0 w d.2.1).bind fun Ha=>br (Ha.2.1==0) (some (Ha.1,0,iM.aG)) (br (Ha.2.1==0) (none) (some (iM.aG,Ha.2.1,w.1,Ha.2.2.2)))) (br (d.1==2) ((HB F0 w d.2.1).bind fun Qt=>br (Qt.2.1==0) (some (Qt.1,0,iM.aG)) (br (Qt.2.1==0) (none) (some (iM.aG,Qt.2.1,w.1,Qt.2.2.2)))) (br (d.1==6) ((HC F0 w d.2.1).bind fun W3=>br (W3.2.1==0) (some (W3.1,0,iM.aG)) (br (W3.2.1==0) (none) (some (iM.aG,W3.2.1,w.1,W3.2.2.2)))) (br (d.1==8) ((bh F0 (aP w.2.2.1 d.2.1 db.aG)).bind fun r62=>(Ma F0 (aP w.2.2.1 d.2.1 db.aG).2.2.2.2.2.2.1 d.2.2.1).bind fun r67=>(Pg F0 w.1 (r62.1.1,r62.1.2.1,r62.1.2.2.1,r62.1.2.2.2.1,r62.1.2.2.2.2.1,r62.1.2.2.2.2.2.1,r67.1,r62.1.2.2.2.2.2.2.2)).bind fun r76=>ck (cl d.2.1 (w.2.2.1.length:Int)) (some ((w.1,w.2.1,w.2.2.1.set d.2.1.toNat r76.1,w.2.2.2),0,iM.aG))) (br (d.1==7) ((W7 F0 w.1 (aP w.2.2.1 d.2.1 db.aG)).bind fun r85=>br (!r85.2.1) (some (iM.aG,3,w)) (ck (cl d.2.1 (w.2.2.1.length:Int)) (some ((w.1,w.2.1,w.2.2.1.set d.2.1.toNat r85.1,w.2.2.2),0,iM.aG)))) ((O4 F0 w.1 (aP w.2.2.1 d.2.1 db.aG) d.2.2.2).bind fun aqB=>br (!aqB.2.1) (some (iM.aG,3,w)) (br (d.2.2.2.1 != 4) (some (iM.aG,3,w)) (ck (cl d.2.1 (w.2.2.1.length:Int)) (some ((w.1,w.2.1,w.2.2.1.set d.2.1.toNat aqB.1,w.2.2.2),0,iM.aG)))))))))):=by kernel_rfl
def SO:Any:=.sel ⟨[(iM,true),(K45,true)],0,(iM,true),(.int .i64,false),(iM,true),fun x=>Md F0 x.1 x.2.1⟩
theorem anG:bm 121 SO:=ok4 (show x8 Tryz.prog TB Y9 from⟨cY,acY,ant,aj8,aka,anx,aur,aut,trivial⟩) func121 (by kernel_rfl) (by kernel_rfl) ab (by kernel_rfl) (by kernel_rfl)
def Za:=[(62,dw),(118,Sz),(119,SG),(120,Fv),(121,SO)]
def Me (w:pt)(d:D45):Option (pt×Int×pt):=ap0 Tryz.prog (look Za) F ab f66 [(iM,true),(K45,true)] 0 (iM,true) (.int .i64,false) (iM,true) (w,d,())
theorem anH (w:pt)(d:D45):Me F w d=br (d.1==3) ((xr F0 w d).bind fun gv=>br (gv.2.1==0) (some (gv.1,0,iM.aG)) (br (gv.2.1==0) (none) (some (iM.aG,gv.2.1,w.1,gv.2.2.2)))) (br (d.1==4) ((xr F0 w d).bind fun gv=>br (gv.2.1==0) (some (gv.1,0,iM.aG)) (br (gv.2.1==0) (none) (some (iM.aG,gv.2.1,w.1,gv.2.2.2)))) (br (d.1==5) ((xr F0 w d).bind fun gv=>br (gv.2.1==0) (some (gv.1,0,iM.aG)) (br (gv.2.1==0) (none) (some (iM.aG,gv.2.1,w.1,gv.2.2.2)))) (br (d.1==10) ((L0 F0 w d).bind fun r31=>br (r31.2.1==0) (some (r31.1,0,iM.aG)) (br (r31.2.1==0) (none) (some (iM.aG,r31.2.1,w.1,r31.2.2.2)))) ((En F0 w).bind fun Ff=>(dG F0 Ff.1 d.2.1).bind fun xm=>br (!xm.1) (some (iM.aG,2,w)) ((Md F0 w d).bind fun Qu=>br (Qu.2.1==0) (some (Qu.1,0,iM.aG)) (br (Qu.2.1==0) (none) (some (iM.aG,Qu.2.1,w.1,Qu.2.2.2)))))))):=by kernel_rfl
def SP:Any:=.sel ⟨[(iM,true),(K45,true)],0,(iM,true),(.int .i64,false),(iM,true),fun x=>Me F0 x.1 x.2.1⟩
theorem anI:bm 66 SP:=ok4 (show x8 Tryz.prog TB Za from⟨eE,anj,anq,Vk,anG,trivial⟩) func66 (by kernel_rfl) (by kernel_rfl) ab (by kernel_rfl) (by kernel_rfl)
def Vp:=[(66,SP)]
abbrev aia:List (Ty×Bool):=[(iM,true),(K45,true)]
def HD (w:pt)(d:D45):=DX Vp F ab f30 aia 0 (.own true) gY [] 2 (w,d,())
theorem akd (w:pt)(d:D45):HD F w d=(Me F0 w d).bind fun hY=>br (hY.2.1==0) (br (0 != 0) (none) (some ((hY.1,()),()))) (br (hY.2.1 != 0) (some (((w.1,hY.2.2.2),()),())) (none)):=by kernel_rfl
def Ph:Any:=.two ⟨aia,0,(.own true),gY,2,[],fun x=>HD F0 x.1 x.2.1⟩
theorem ake:bm 30 Ph:=azK Vp ⟨anI,trivial⟩ func30 ab (by kernel_rfl)
def qk:=[(24,Uz),(25,AL),(26,Bt),(27,eV),(28,Sc),(29,Ej),(30,Ph)]
def ql:Nat→Option Hint:=look [(7,{live:=[2,4,5,6,7,8,9],xY:=[(2,2,3,.int .i64),(2,3,50,db),(2,4,114,fU),(2,5,127,eh)],xl:=[2,5,7],rl:=[2,3]})]
def ma (n1 i t2 t21:Int)(t12:List Int)(t121 t122 start NF w w1:Int)(xs:List D45)(aO:List Int)(aY:List bz)(bj:List cU)(bK:List cE)(cA:List Int)(cB:List bz)(cF:List cU)(oN:List cE)(Fw:List Int)(BG:List bz)(AG:List cU)(BH:List cE):= er 39 [cS 2,(4,.v (.c (.ptr 12 0))),cS 5,cS 6,(7,.v (.c (.own 1000000 none))),(8,bR n1),(9,bR i)] [(2,[aq t2,aq t21,.own 1000001 none,.own 1000002 none,.own 1000003 none,.own 1000004 none]),(12,[.ro false 5 (.int .u8) t12,aq t121,aq t122]),(5,[aq start,aq NF,.own 1000005 none,.own 1000006 none,.own 1000007 none,.own 1000008 none]),(6,[aq w,aq w1,.own 1000009 none,.own 1000010 none,.own 1000011 none,.own 1000012 none])] [aB 1000000 80 K45 xs,aB 1000001 3 (.int .i64) aO,aB 1000002 50 db aY,aB 1000003 114 fU bj,aB 1000004 127 eh bK,aB 1000005 3 (.int .i64) cA,(1000006,some ⟨50,db,cB,false,true⟩),(1000007,some ⟨114,fU,cF,false,true⟩),aB 1000008 127 eh oN,aB 1000009 3 (.int .i64) Fw,aB 1000010 50 db BG,aB 1000011 114 fU AG,aB 1000012 127 eh BH]
def Ep (t2 t21 start NF:Int)(xs:List D45)(aO:List Int)(aY:List bz)(bj:List cU)(bK:List cE)(cA:List Int)(cB:List bz)(cF:List cU)(oN:List cE):= er 39 [cS 2,cS 5,(7,.v (.c (.own 1000000 none)))] [(2,[aq t2,aq t21,.own 1000001 none,.own 1000002 none,.own 1000003 none,.own 1000004 none]),(5,[aq start,aq NF,.own 1000005 none,.own 1000006 none,.own 1000007 none,.own 1000008 none])] [aB 1000000 80 K45 xs,aB 1000001 3 (.int .i64) aO,aB 1000002 50 db aY,aB 1000003 114 fU bj,aB 1000004 127 eh bK,aB 1000005 3 (.int .i64) cA,(1000006,some ⟨50,db,cB,false,true⟩),(1000007,some ⟨114,fU,cF,false,true⟩),aB 1000008 127 eh oN]
def qm (st:St):Option α:=gW qk F ql [.r,.r,.r,.r,.r,.r,.l,.r,.b,.i] f7 κ n st
abbrev aw1:List (Ty×Bool):=[(iM,true),(K46,false)]
def tQ:=jF qk F ql [.r,.r,.r,.r,.r,.r,.l,.r,.b] f7 aw1 0
theorem zt (n1 i t2 t21:Int)(t12:List Int)(t121 t122 start NF w w1:Int)(xs:List D45)(aO:List Int)(aY:List bz)(bj:List cU)(bK:List cE)(cA:List Int)(cB:List bz)(cF:List cU)(oN:List cE)(Fw:List Int)(BG:List bz)(AG:List cU)(BH:List cE):qm F κ (n+1) (ma n1 i t2 t21 t12 t121 t122 start NF w w1 xs aO aY bj bK cA cB cF oN Fw BG AG BH)=br (decide (i<n1)) ((so F0 (t12,t121,t122) ((w,w1),Fw,BG,AG,BH)).bind fun Ou=>ck (fg F xs.length [Ou.1.1].length 240) ((HD F0 ((w,w1),Fw,BG,AG,BH) Ou.1.1).bind fun r36=>qm F κ n (ma n1 (aj (i+1)) t2 t21 Ou.2.1.1 Ou.2.1.2.1 Ou.2.1.2.2 start NF r36.1.1.1.1 r36.1.1.1.2 (xs++[Ou.1.1]) aO aY bj bK cA cB cF oN r36.1.1.2.1 r36.1.1.2.2.1 r36.1.1.2.2.2.1 r36.1.1.2.2.2.2))) (κ (.exit 0) (Ep t2 t21 start NF xs aO aY bj bK cA cB cF oN)):=by kernel_rfl
theorem TJ (t2 t21 start NF:Int)(xs:List D45)(aO:List Int)(aY:List bz)(bj:List cU)(bK:List cE)(cA:List Int)(cB:List bz)(cF:List cU)(oN:List cE):tQ F (.exit 0) (Ep t2 t21 start NF xs aO aY bj bK cA cB cF oN)=some (((start,NF),cA,cB,cF,oN),xs,()):=by kernel_rfl
def vG (code:List Int):=bF qk F ql f7 mn aw1 0 (code,())
theorem aaK (code:List Int):vG F code=(I5 F0 code).bind fun cN=>(p4 F0 cN.1.1).bind fun lM=>(yL F0 lM.1.1).bind fun oM=>(Ly F0 code 70 140).bind fun DY=>(ax F0 lM.2.1 DY.1).bind fun gv=>qm F (tQ F) F.n (ma gv.1.1 0 0 0 gv.2.1.1 gv.2.1.2.1 gv.2.1.2.2 lM.1.1.1.1 lM.1.1.1.2 oM.1.1.1 oM.1.1.2 [] [] [] [] [] lM.1.1.2.1 lM.1.1.2.2.1 lM.1.1.2.2.2.1 lM.1.1.2.2.2.2 oM.1.2.1 oM.1.2.2.1 oM.1.2.2.2.1 oM.1.2.2.2.2):=by kernel_rfl
def Gn:Any:=.one ⟨mn,aw1,0,fun x=>vG F0 x.1⟩
theorem aaL:bm 7 Gn:=aA qk ⟨aqk,US,Sb,gu,amP,XP,ake,trivial⟩ func7 ql (by kernel_rfl)
def eR (l:List Int):=bF aF F ab f31 kp kp 2 (l,())
theorem BI (l:List Int):eR F l=ck (fg F 0 l.length 8) (some ([]++l,())):=by kernel_rfl
def gd:Any:=.one ⟨kp,kp,2,fun x=>eR F0 x.1⟩
theorem jR:bm 31 gd:=aA aF trivial func31 ab (by kernel_rfl)
def bd (n1 low high:Int):=bF aF F ab f67 aBS aZ 1 (n1,low,high,())
theorem anJ (n1 low high:Int):bd F n1 low high=br (decide (n1≥low)) (some (decide (n1≤high),())) (some (false,())):=by kernel_rfl
def bL:Any:=.one ⟨aBS,aZ,1,fun x=>bd F0 x.1 x.2.1 x.2.2.1⟩
theorem cm:bm 67 bL:=aA aF trivial func67 ab (by kernel_rfl)
def Zb:=[(67,bL)]
def e9 (c:D1):=bF Zb F ab f32 RS aZ 1 (c,())
theorem anK (c:D1):e9 F c=(bd F0 c.1 4 7).bind fun r5=>br r5.1 ((bd F0 c.2 1 6).bind fun r9=>some (r9.1,())) (some (false,())):=by kernel_rfl
def dx:Any:=.one ⟨RS,aZ,1,fun x=>e9 F0 x.1⟩
theorem eI:bm 32 dx:=aA Zb ⟨cm,trivial⟩ func32 ab (by kernel_rfl)
def sK: Option (Args gX):=bF aF F ab f205 [] gX 2 (())
theorem SQ: sK F= some ((0,al,[]),()):=by kernel_rfl
def BJ:Any:=.one ⟨[],gX,2,fun x=>sK F0⟩
theorem SR:bm 205 BJ:=aA aF trivial func205 ab (by kernel_rfl)
def js:Nat→Option Hint:=look [(4,{live:=[0,1,12,13],rl:=[4]})]
def ic (s1 s2:List Int)(t12 t13:Int):= cV 26 [(0,jO 3 (.int .i64) s1),(1,jO 3 (.int .i64) s2),(12,bR t12),(13,bR t13)]
def uk (t4:Bool):= cV 26 [(4,RP t4)]
def tE   := cV 26 []
def jt (st:St):Option α:=gW aF F js [.r,.r,.l,.r,.b,.i] f91 κ n st
def ie:=jF aF F js [.r,.r,.l,.r,.b] f91 aZ 1
theorem qn (s1 s2:List Int)(t12 t13:Int):jt F κ (n+1) (ic s1 s2 t12 t13)=br (decide (t13<t12)) (ck (cl t13 (s1.length:Int)) (ck (cl t13 (s2.length:Int)) (br ((aP s1 t13 0) != (aP s2 t13 0)) (κ .ret (uk false)) (jt F κ n (ic s1 s2 t12 (aj (t13+1))))))) (κ (.exit 0) (tE)):=by kernel_rfl
theorem KU (t4:Bool):ie F .ret (uk t4)=some (t4,()):=by kernel_rfl
theorem JT: ie F (.exit 0) (tE)=some (true,()):=by kernel_rfl
def iA (s1 s2:List Int):=bF aF F js f91 ajj aZ 1 (s1,s2,())
theorem Pj (s1 s2:List Int):iA F s1 s2=br ((s1.length:Int) != (s2.length:Int)) (some (false,())) (jt F (ie F) F.n (ic s1 s2 (s1.length:Int) 0)):=by kernel_rfl
def lR:Any:=.one ⟨ajj,aZ,1,fun x=>iA F0 x.1 x.2.1⟩
theorem xv:bm 91 lR:=aA aF trivial func91 js (by kernel_rfl)
def Zc:=[(91,lR)]
def jJ (a b:D9):=bF Zc F ab f46 xi aZ 1 (a,b,())
theorem Vq (a b:D9):jJ F a b=br (a.1==b.1) (br (a.2.1.toList==b.2.1.toList) ((iA F0 a.2.2 b.2.2).bind fun gr=>some (gr.1,())) (some (false,()))) (some (false,())):=by kernel_rfl
def kB:Any:=.one ⟨xi,aZ,1,fun x=>jJ F0 x.1 x.2.1⟩
theorem rk:bm 46 kB:=aA Zc ⟨xv,trivial⟩ func46 ab (by kernel_rfl)
def ac4:=[(160,Lc)]
def wJ (s:ByteArray)(by1:Int):=bF ac4 F ab f96 Yo awS 1 (s,by1,())
theorem aqJ (s:ByteArray)(by1:Int):wJ F s by1=(strings_Split F0 s (strOf [by1])).bind fun r9=>some (r9.1,()):=by kernel_rfl
def JU:Any:=.one ⟨Yo,awS,1,fun x=>wJ F0 x.1 x.2.1⟩
theorem Zd:bm 96 JU:=aA ac4 ⟨afa,trivial⟩ func96 ab (by kernel_rfl)
end
end Go.Am.Tryz
namespace Go.Am.Tryz
open Go.Am Go.Proofs Go.Proofs.Tryz
noncomputable section
variable {α:Type} (F:rQ) (κ:Ex→St→Option α) (n:Nat)
def Ze:=[(222,Og)]
def la (n1:Int):=bF Ze F ab f162 dD ew 1 (n1,())
theorem anL (n1:Int):la F n1=(strconv_Itoa F0 n1).bind fun r4=>some (r4.1,()):=by kernel_rfl
def vH:Any:=.one ⟨dD,ew,1,fun x=>la F0 x.1⟩
theorem JV:bm 162 vH:=aA Ze ⟨ajb,trivial⟩ func162 ab (by kernel_rfl)
def C7:=[(162,vH)]
def C8:Nat→Option Hint:=look [(5,{live:=[0,4,5],xl:=[0,4],rl:=[2,3]})]
def vI (s:ByteArray)(n1 i:Int):= cV 43 [(0,Yl s),(4,bR n1),(5,bR i)]
def Fx (t2:Int)(t3:Bool):= cV 43 [(2,bR t2),(3,RP t3)]
def Pk (s:ByteArray)(n1:Int):= cV 43 [(0,Yl s),(4,bR n1)]
def C9 (st:St):Option α:=gW C7 F C8 [.r,.r,.r,.l,.r,.b,.i] f98 κ n st
def vJ:=jF C7 F C8 [.r,.r,.r,.l,.r,.b] f98 ar9 1
theorem JW (s:ByteArray)(n1 i:Int):C9 F κ (n+1) (vI s n1 i)=br (decide (i<(s.size:Int))) (ck (cl i (s.size:Int)) (br (decide ((lN s i)<48)) (κ .ret (Fx 0 false)) (ck (cl i (s.size:Int)) (br (decide ((lN s i)>57)) (κ .ret (Fx 0 false)) (ck (cl i (s.size:Int)) (C9 F κ n (vI s (aj ((aj (10*n1))+(aj (IntKind.wrap .u8 ((lN s i)-48))))) (aj (i+1))))))))) (κ (.exit 0) (Pk s n1)):=by kernel_rfl
theorem afU (t2:Int)(t3:Bool):vJ F .ret (Fx t2 t3)=some (t2,t3,()):=by kernel_rfl
theorem ac5 (s:ByteArray)(n1:Int):vJ F (.exit 0) (Pk s n1)=(la F0 n1).bind fun Qs=>br (!(Qs.1.toList==s.toList)) (some (0,false,())) (some (n1,true,())):=by kernel_rfl
def nK (s:ByteArray):=bF C7 F C8 f98 ew ar9 1 (s,())
theorem anM (s:ByteArray):nK F s=br (decide ((s.size:Int)<1)) (some (0,false,())) (br (decide ((s.size:Int)>6)) (some (0,false,())) (C9 F (vJ F) F.n (vI s 0 0))):=by kernel_rfl
def Fy:Any:=.one ⟨ew,ar9,1,fun x=>nK F0 x.1⟩
theorem Vr:bm 98 Fy:=aA C7 ⟨JV,trivial⟩ func98 C8 (by kernel_rfl)
def aib:=[(67,bL)]
def pH (x:D4):=bF aib F ab f153 Yr aZ 1 (x,())
theorem auu (x:D4):pH F x=(bd F0 x.1 0 3).bind fun r5=>br r5.1 ((bd F0 x.2.1 0 3).bind fun r9=>br r9.1 ((bd F0 x.2.2.1 0 1000).bind fun lM=>br lM.1 ((bd F0 x.2.2.2 0 99).bind fun dM=>some (dM.1,())) (some (false,()))) (some (false,()))) (some (false,())):=by kernel_rfl
def jK:Any:=.one ⟨Yr,aZ,1,fun x=>pH F0 x.1⟩
theorem n5:bm 153 jK:=aA aib ⟨cm,trivial⟩ func153 ab (by kernel_rfl)
def Zf:=[(153,jK),(162,vH)]
def Es (x:D4):=bF Zf F ab f223 Yr ew 1 (x,())
theorem anN (x:D4):Es F x=(pH F0 x).bind fun r4=>br (!r4.1) (some (al,())) ((la F0 x.1).bind fun r8=>ck (okC F r8.1.size (ByteArray.mk #[62]).size) ((la F0 x.2.1).bind fun cN=>ck (okC F (r8.1++(ByteArray.mk #[62])).size cN.1.size) (ck (okC F ((r8.1++(ByteArray.mk #[62]))++cN.1).size (ByteArray.mk #[58]).size) ((la F0 x.2.2.1).bind fun fh=>ck (okC F (((r8.1++(ByteArray.mk #[62]))++cN.1)++(ByteArray.mk #[58])).size fh.1.size) (ck (okC F ((((r8.1++(ByteArray.mk #[62]))++cN.1)++(ByteArray.mk #[58]))++fh.1).size (ByteArray.mk #[35]).size) ((la F0 x.2.2.2).bind fun gr=>ck (okC F (((((r8.1++(ByteArray.mk #[62]))++cN.1)++(ByteArray.mk #[58]))++fh.1)++(ByteArray.mk #[35])).size gr.1.size) (some ((((((r8.1++(ByteArray.mk #[62]))++cN.1)++(ByteArray.mk #[58]))++fh.1)++(ByteArray.mk #[35]))++gr.1,())))))))):=by kernel_rfl
def Fz:Any:=.one ⟨Yr,ew,1,fun x=>Es F0 x.1⟩
theorem Vs:bm 223 Fz:=aA Zf ⟨n5,JV,trivial⟩ func223 ab (by kernel_rfl)
def aic:=[(97,E5),(98,Fy),(153,jK),(223,Fz)]
def W8 (s:ByteArray):=bF aic F ab f163 ew aBT 1 (s,())
theorem auv (s:ByteArray):W8 F0 s=(strings_Cut F0 s (ByteArray.mk #[62])).bind fun aw2=>(strings_Cut F0 aw2.2.1 (ByteArray.mk #[58])).bind fun aw3=>(strings_Cut F0 aw3.2.1 (ByteArray.mk #[35])).bind fun aid=>ck (cl 0 4) ((nK F0 (aP [aw2.1,aw3.1,aid.1,aid.2.1] 0 ByteArray.empty)).bind fun aF0=>ck (cl 1 4) ((nK F0 (aP [aw2.1,aw3.1,aid.1,aid.2.1] 1 ByteArray.empty)).bind fun aF1=>ck (cl 2 4) ((nK F0 (aP [aw2.1,aw3.1,aid.1,aid.2.1] 2 ByteArray.empty)).bind fun aF2=>ck (cl 3 4) ((nK F0 (aP [aw2.1,aw3.1,aid.1,aid.2.1] 3 ByteArray.empty)).bind fun aF3=>(pH F0 (aF0.1,aF1.1,aF2.1,aF3.1)).bind fun aMu=>br (!aMu.1) (some ((0,0,0,0),false,())) ((Es F0 (aF0.1,aF1.1,aF2.1,aF3.1)).bind fun aMv=>br (!(aMv.1.toList==s.toList)) (some ((0,0,0,0),false,())) (some ((aF0.1,aF1.1,aF2.1,aF3.1),true,()))))))):=by kernel_rfl
def Zg:Any:=.one ⟨ew,aBT,1,fun x=>W8 F0 x.1⟩
theorem auw:bm 163 Zg:=aA aic ⟨Uv,Vr,n5,Vs,trivial⟩ func163 ab (by kernel_rfl)
def HE:=[(96,JU),(163,Zg)]
def HF:Nat→Option Hint:=look [(5,{live:=[4,12,13,14],mat:=[(4,76,K4)],xl:=[4],rl:=[2,3]})]
def zu (t12:List ByteArray)(t13 t14:Int)(xs:List D4):= er 31 [(4,.v (.c (.own 1000000 none))),(12,.v (.c (.ro true 9 (.str) t12))),(13,bR t13),(14,bR t14)] [] [aB 1000000 76 K4 xs]
def Vt (t3:Bool):= cV 31 [(2,.v (.c (.nil))),(3,RP t3)]
def SS (xs:List D4):= er 31 [(4,.v (.c (.own 1000000 none)))] [] [aB 1000000 76 K4 xs]
def HG (st:St):Option α:=gW HE F HF [.r,.r,.r,.l,.r,.b,.i] f99 κ n st
def zw:=jF HE F HF [.r,.r,.r,.l,.r,.b] f99 UG 2
theorem Mf (t12:List ByteArray)(t13 t14:Int)(xs:List D4):HG F κ (n+1) (zu t12 t13 t14 xs)=br (decide (t14<t13)) (ck (cl t14 (t12.length:Int)) ((W8 F0 (aP t12 t14 ByteArray.empty)).bind fun DY=>br (!DY.2.1) (κ .ret (Vt false)) (ck (fg F xs.length [DY.1].length 32) (HG F κ n (zu t12 t13 (aj (t14+1)) (xs++[DY.1])))))) (κ (.exit 0) (SS xs)):=by kernel_rfl
theorem akf (t3:Bool):zw F .ret (Vt t3)=some ([],t3,()):=by kernel_rfl
theorem afV (xs:List D4):zw F (.exit 0) (SS xs)=some (xs,true,()):=by kernel_rfl
def JX (s:ByteArray):=bF HE F HF f99 ew UG 2 (s,())
theorem aqK (s:ByteArray):JX F s=br (s.toList==al.toList) (some ([],true,())) ((wJ F0 s 44).bind fun cN=>HG F (zw F) F.n (zu cN.1 (cN.1.length:Int) 0 [])):=by kernel_rfl
def Vu:Any:=.one ⟨ew,UG,2,fun x=>JX F0 x.1⟩
theorem aqL:bm 99 Vu:=aA HE ⟨Zd,auw,trivial⟩ func99 HF (by kernel_rfl)
def HH:=[(67,bL),(96,JU),(97,E5),(98,Fy),(99,Vu)]
def HI:Nat→Option Hint:=look [(9,{live:=[5,6,31,32,33],mat:=[(5,157,K6)],xl:=[5],rl:=[2,3]})]
def zx (last:Int)(t31:List ByteArray)(t32 t33:Int)(xs:List D6):= er 84 [(5,.v (.c (.own 1000000 none))),(6,bR last),(31,.v (.c (.ro true 9 (.str) t31))),(32,bR t32),(33,bR t33)] [] [aB 1000000 157 K6 xs]
def mS (t3:Bool):= cV 84 [(2,.v (.c (.nil))),(3,RP t3)]
def SU (xs:List D6):= er 84 [(5,.v (.c (.own 1000000 none)))] [] [aB 1000000 157 K6 xs]
def HJ (st:St):Option α:=gW HH F HI [.r,.r,.r,.r,.r,.r,.l,.r,.b,.i] f50 κ n st
def zy:=jF HH F HI [.r,.r,.r,.r,.r,.r,.l,.r,.b] f50 asa 2
theorem Mg (last:Int)(t31:List ByteArray)(t32 t33:Int)(xs:List D6):HJ F κ (n+1) (zx last t31 t32 t33 xs)=br (decide (t33<t32)) (ck (cl t33 (t31.length:Int)) ((strings_Cut F0 (aP t31 t33 ByteArray.empty) (ByteArray.mk #[124])).bind fun Qs=>(nK F0 Qs.1).bind fun r45=>(JX F0 Qs.2.1).bind fun EY=>br (!Qs.2.2.1) (κ .ret (mS false)) (br (!r45.2.1) (κ .ret (mS false)) (br (!EY.2.1) (κ .ret (mS false)) ((bd F0 r45.1 (aj (last+1)) 60).bind fun r67=>br (!r67.1) (κ .ret (mS false)) (br (decide ((EY.1.length:Int)>2)) (κ .ret (mS false)) (ck (fg F xs.length [(r45.1,EY.1)].length 32) (HJ F κ n (zx r45.1 t31 t32 (aj (t33+1)) (xs++[(r45.1,EY.1)])))))))))) (κ (.exit 0) (SU xs)):=by kernel_rfl
theorem akg (t3:Bool):zy F .ret (mS t3)=some ([],t3,()):=by kernel_rfl
theorem afW (xs:List D6):zy F (.exit 0) (SU xs)=some (xs,true,()):=by kernel_rfl
def rm (s:ByteArray):=bF HH F HI f50 ew asa 2 (s,())
theorem aqM (s:ByteArray):rm F s=br (s.toList==al.toList) (some ([],true,())) ((wJ F0 s 47).bind fun dM=>ck (cl 0 (dM.1.length:Int)) (br (!((aP dM.1 0 ByteArray.empty).toList==al.toList)) (some ([],false,())) (br (decide ((aj ((dM.1.length:Int)-1))>30)) (some ([],false,())) (ck (RN 1 (dM.1.length:Int) (dM.1.length:Int)) (HJ F (zy F) F.n (zx 0 ((dM.1.take (dM.1.length:Int).toNat).drop (1:Int).toNat) (((dM.1.take (dM.1.length:Int).toNat).drop (1:Int).toNat).length:Int) 0 [])))))):=by kernel_rfl
def rn:Any:=.one ⟨ew,asa,2,fun x=>rm F0 x.1⟩
theorem Da:bm 50 rn:=aA HH ⟨cm,Zd,Uv,Vr,aqL,trivial⟩ func50 HI (by kernel_rfl)
def Zh:=[(50,rn)]
def fG (s:ByteArray):=bF Zh F ab f19 ew aZ 1 (s,())
theorem anO (s:ByteArray):fG F s=(rm F0 s).bind fun r7=>some (r7.2.1,()):=by kernel_rfl
def fB:Any:=.one ⟨ew,aZ,1,fun x=>fG F0 x.1⟩
theorem iB:bm 19 fB:=aA Zh ⟨Da,trivial⟩ func19 ab (by kernel_rfl)
def Zi:=[(50,rn)]
def fa (s:ByteArray):=bF Zi F ab f71 ew dD 1 (s,())
theorem anP (s:ByteArray):fa F s=(rm F0 s).bind fun r7=>br ((r7.1.length:Int)==0) (some (0,())) (ck (cl (aj ((r7.1.length:Int)-1)) (r7.1.length:Int)) (some ((aP r7.1 (aj ((r7.1.length:Int)-1)) (0,[])).1,()))):=by kernel_rfl
def eS:Any:=.one ⟨ew,dD,1,fun x=>fa F0 x.1⟩
theorem gf:bm 71 eS:=aA Zi ⟨Da,trivial⟩ func71 ab (by kernel_rfl)
def HK:Nat→Option Hint:=look [(2,{live:=[0,1,7,8,9],rl:=[4]})]
def rp (n1:Int)(s t7:List Int)(t8 t9:Int):= cV 35 [(0,bR n1),(1,jO 3 (.int .i64) s),(7,jO 3 (.int .i64) t7),(8,bR t8),(9,bR t9)]
def zz (t4:Bool):= cV 35 [(4,RP t4)]
def SV   := cV 35 []
def zA (st:St):Option α:=gW aF F HK [.r,.l,.r,.b,.i] f68 κ n st
def zB:=jF aF F HK [.r,.l,.r,.b] f68 aZ 1
theorem Mh (n1:Int)(s t7:List Int)(t8 t9:Int):zA F κ (n+1) (rp n1 s t7 t8 t9)=br (decide (t9<t8)) (ck (cl t9 (t7.length:Int)) (br (decide ((aP t7 t9 0)<0)) (κ .ret (zz false)) (br (decide ((aP t7 t9 0)≥n1)) (κ .ret (zz false)) (br (decide (t9>0)) (ck (cl (aj (t9-1)) (s.length:Int)) (br (decide ((aP s (aj (t9-1)) 0)≥(aP t7 t9 0))) (κ .ret (zz false)) (zA F κ n (rp n1 s t7 t8 (aj (t9+1)))))) (zA F κ n (rp n1 s t7 t8 (aj (t9+1)))))))) (κ (.exit 0) (SV)):=by kernel_rfl
theorem akh (t4:Bool):zB F .ret (zz t4)=some (t4,()):=by kernel_rfl
theorem afX: zB F (.exit 0) (SV)=some (true,()):=by kernel_rfl
def wK (n1:Int)(s:List Int):=bF aF F HK f68 aBU aZ 1 (n1,s,())
theorem aqN (n1:Int)(s:List Int):wK F n1 s=zA F (zB F) F.n (rp n1 s s (s.length:Int) 0):=by kernel_rfl
def zC:Any:=.one ⟨aBU,aZ,1,fun x=>wK F0 x.1 x.2.1⟩
theorem NG:bm 68 zC:=aA aF trivial func68 HK (by kernel_rfl)
def Zj:=[(32,dx)]
def Et (c:D1):=bF Zj F ab f69 RS dD 1 (c,())
theorem anQ (c:D1):Et F c=(e9 F0 c).bind fun r4=>br (!r4.1) (some (0,())) (some (aj (Int.tdiv (aj (c.1-1)) 3),())):=by kernel_rfl
def FA:Any:=.one ⟨RS,dD,1,fun x=>Et F0 x.1⟩
theorem Vv:bm 69 FA:=aA Zj ⟨eI,trivial⟩ func69 ab (by kernel_rfl)
def Zk:=[(32,dx),(69,FA)]
def Eu (c:D1):=bF Zk F ab f214 RS dD 1 (c,())
theorem anR (c:D1):Eu F c=(e9 F0 c).bind fun r4=>br (!r4.1) (some (0,())) ((Et F0 c).bind fun r9=>some (aj (c.1-r9.1),())):=by kernel_rfl
def FB:Any:=.one ⟨RS,dD,1,fun x=>Eu F0 x.1⟩
theorem Vw:bm 214 FB:=aA Zk ⟨eI,Vv,trivial⟩ func214 ab (by kernel_rfl)
def aie:=[(19,fB),(32,dx),(46,kB),(68,zC),(71,eS),(205,BJ),(214,FB)]
def mT (c:D1)(q:D9):=bF aie F ab f152 FW aZ 1 (c,q,())
theorem auy (c:D1)(q:D9):mT F c q=(e9 F0 c).bind fun r6=>br (!r6.1) (some (false,())) ((sK F0).bind fun r9=>(jJ F0 q r9.1).bind fun hY=>br hY.1 (some (true,())) (br (decide (q.1≥1)) ((fG F0 q.2.1).bind fun QO=>br QO.1 ((fa F0 q.2.1).bind fun XQ=>br (q.1==XQ.1) ((wK F0 c.1 q.2.2).bind fun tW=>br tW.1 ((Eu F0 c).bind fun xm=>some (decide ((q.2.2.length:Int)≥xm.1),())) (some (false,()))) (some (false,()))) (some (false,()))) (some (false,())))):=by kernel_rfl
def jL:Any:=.one ⟨FW,aZ,1,fun x=>mT F0 x.1 x.2.1⟩
theorem n6:bm 152 jL:=aA aie ⟨iB,eI,rk,NG,gf,SR,Vw,trivial⟩ func152 ab (by kernel_rfl)
def Zl:=[(19,fB),(67,bL),(152,jL)]
def ld (c:D1)(s:TF):=bF Zl F ab f90 RZ aZ 1 (c,s,())
theorem anS (c:D1)(s:TF):ld F c s=(bd F0 s.1 0 60).bind fun r7=>br r7.1 ((bd F0 s.2.1 0 60).bind fun dA=>br dA.1 ((mT F0 c s.2.2.1).bind fun fh=>br fh.1 ((fG F0 s.2.2.2).bind fun gr=>some (gr.1,())) (some (false,()))) (some (false,()))) (some (false,())):=by kernel_rfl
def kC:Any:=.one ⟨RZ,aZ,1,fun x=>ld F0 x.1 x.2.1⟩
theorem rq:bm 90 kC:=aA Zl ⟨iB,cm,n6,trivial⟩ func90 ab (by kernel_rfl)
def Db (a b:D4):=bF aF F ab f154 aBV aZ 1 (a,b,())
theorem afY (a b:D4):Db F a b=br (decide (a.1<b.1)) (some (true,())) (br (a.1==b.1) (some (decide (a.2.2.2<b.2.2.2),())) (some (false,()))):=by kernel_rfl
def Mi:Any:=.one ⟨aBV,aZ,1,fun x=>Db F0 x.1 x.2.1⟩
theorem afZ:bm 154 Mi:=aA aF trivial func154 ab (by kernel_rfl)
def Dc:=[(153,jK),(154,Mi)]
def Dd:Nat→Option Hint:=look [(2,{live:=[0,5,6,7],xl:=[0],rl:=[2]})]
def o5 (p t5:List D4)(t6 t7:Int):= cV 33 [(0,jO 76 (K4) p),(5,jO 76 (K4) t5),(6,bR t6),(7,bR t7)]
def FC (t2:Bool):= cV 33 [(2,RP t2)]
def Pl (p:List D4):= cV 33 [(0,jO 76 (K4) p)]
def um (st:St):Option α:=gW Dc F Dd [.r,.l,.r,.b,.i] f92 κ n st
def vK:=jF Dc F Dd [.r,.l,.r,.b] f92 aZ 1
theorem JY (p t5:List D4)(t6 t7:Int):um F κ (n+1) (o5 p t5 t6 t7)=br (decide (t7<t6)) (ck (cl t7 (t5.length:Int)) ((pH F0 (aP t5 t7 K4.aG)).bind fun cj=>br (!cj.1) (κ .ret (FC false)) (br (decide (t7>0)) (ck (cl (aj (t7-1)) (p.length:Int)) ((Db F0 (aP p (aj (t7-1)) K4.aG) (aP t5 t7 K4.aG)).bind fun XQ=>br (!XQ.1) (κ .ret (FC false)) (um F κ n (o5 p t5 t6 (aj (t7+1)))))) (um F κ n (o5 p t5 t6 (aj (t7+1))))))) (κ (.exit 0) (Pl p)):=by kernel_rfl
theorem af0 (t2:Bool):vK F .ret (FC t2)=some (t2,()):=by kernel_rfl
theorem ac6 (p:List D4):vK F (.exit 0) (Pl p)=some (decide ((p.length:Int)≤12),()):=by kernel_rfl
def xw (p:D5):=bF Dc F Dd f92 kl aZ 1 (p,())
theorem anT (p:D5):xw F p=um F (vK F) F.n (o5 p p (p.length:Int) 0):=by kernel_rfl
def FD:Any:=.one ⟨kl,aZ,1,fun x=>xw F0 x.1⟩
theorem Vx:bm 92 FD:=aA Dc ⟨n5,afZ,trivial⟩ func92 Dd (by kernel_rfl)
def Zm:=[(19,fB),(32,dx),(67,bL),(68,zC),(71,eS)]
def rr (c:D1)(p:D9):=bF Zm F ab f155 FW aZ 1 (c,p,())
theorem anU (c:D1)(p:D9):rr F c p=(e9 F0 c).bind fun r6=>br r6.1 ((bd F0 p.1 1 60).bind fun hY=>br hY.1 (br (p.2.1.toList==al.toList) ((wK F0 c.1 p.2.2).bind fun r35=>br r35.1 (some (decide ((p.2.2.length:Int)>0),())) (some (false,()))) ((fG F0 p.2.1).bind fun dM=>br dM.1 ((fa F0 p.2.1).bind fun sd=>br (sd.1==p.1) ((wK F0 c.1 p.2.2).bind fun r35=>br r35.1 (some (decide ((p.2.2.length:Int)>0),())) (some (false,()))) (some (false,()))) (some (false,())))) (some (false,()))) (some (false,())):=by kernel_rfl
def o6:Any:=.one ⟨FW,aZ,1,fun x=>rr F0 x.1 x.2.1⟩
theorem zD:bm 155 o6:=aA Zm ⟨iB,eI,cm,NG,gf,trivial⟩ func155 ab (by kernel_rfl)
def De (x:Int):=bF aF F ab f260 dD aZ 1 (x,())
theorem Pm (x:Int):De F x=some (x != x,()):=by kernel_rfl
def Mj:Any:=.one ⟨dD,aZ,1,fun x=>De F0 x.1⟩
theorem af1:bm 260 Mj:=aA aF trivial func260 ab (by kernel_rfl)
def Mk:=[(260,Mj)]
def vL (x y:Int):=bF Mk F ab f215 asb dD 1 (x,y,())
theorem aaM (x y:Int):vL F x y=(De F0 x).bind fun r8=>(De F0 y).bind fun hY=>br r8.1 (br hY.1 (some (0,())) (some (-1,()))) (br hY.1 (some (1,())) (br (decide (x<y)) (some (-1,())) (br (decide (x>y)) (some (1,())) (some (0,()))))):=by kernel_rfl
def Gp:Any:=.one ⟨asb,dD,1,fun x=>vL F0 x.1 x.2.1⟩
theorem aaN:bm 215 Gp:=aA Mk ⟨af1,trivial⟩ func215 ab (by kernel_rfl)
def sL (x:ByteArray):=bF aF F ab f261 ew aZ 1 (x,())
theorem Gq (x:ByteArray):sL F x=some (!(x.toList==x.toList),()):=by kernel_rfl
def Ev:Any:=.one ⟨ew,aZ,1,fun x=>sL F0 x.1⟩
theorem XS:bm 261 Ev:=aA aF trivial func261 ab (by kernel_rfl)
def Ew:=[(261,Ev)]
def n7 (x y:ByteArray):=bF Ew F ab f216 YP dD 1 (x,y,())
theorem TK (x y:ByteArray):n7 F x y=(sL F0 x).bind fun r8=>(sL F0 y).bind fun hY=>br r8.1 (br hY.1 (some (0,())) (some (-1,()))) (br hY.1 (some (1,())) (br (Op.bytesLess x.toList y.toList) (some (-1,())) (br (!(Op.bytesLess x.toList y.toList || (x.toList==y.toList))) (some (1,())) (some (0,()))))):=by kernel_rfl
def zE:Any:=.one ⟨YP,dD,1,fun x=>n7 F0 x.1 x.2.1⟩
theorem TL:bm 216 zE:=aA Ew ⟨XS,trivial⟩ func216 ab (by kernel_rfl)
def Gr:=[(215,Gp),(216,zE)]
def gh (a b:D9):=bF Gr F ab f156 xi dD 1 (a,b,())
theorem Ey (a b:D9):gh F a b=(vL F0 a.1 b.1).bind fun hY=>br (hY.1 != 0) (some (hY.1,())) ((n7 F0 a.2.1 b.2.1).bind fun QO=>some (QO.1,())):=by kernel_rfl
def pS:Any:=.one ⟨xi,dD,1,fun x=>gh F0 x.1 x.2.1⟩
theorem Ez:bm 156 pS:=aA Gr ⟨aaN,TL,trivial⟩ func156 ab (by kernel_rfl)
def zF:=[(155,o6),(156,pS)]
def zG:Nat→Option Hint:=look [(2,{live:=[1,2,7,8,9],xl:=[1],rl:=[4]})]
def mU (list t7:List D9)(t8 t9 c c1:Int):= er 36 [(1,jO 74 (K9) list),cS 2,(7,jO 74 (K9) t7),(8,bR t8),(9,bR t9)] [(2,[aq c,aq c1])] []
def BK (t4:Bool):= cV 36 [(4,RP t4)]
def Ml (list:List D9):= cV 36 [(1,jO 74 (K9) list)]
def ru (st:St):Option α:=gW zF F zG [.r,.l,.r,.b,.i] f93 κ n st
def sM:=jF zF F zG [.r,.l,.r,.b] f93 aZ 1
theorem Gs (list t7:List D9)(t8 t9 c c1:Int):ru F κ (n+1) (mU list t7 t8 t9 c c1)=br (decide (t9<t8)) (ck (cl t9 (t7.length:Int)) ((rr F0 (c,c1) (aP t7 t9 K9.aG)).bind fun oM=>br (!oM.1) (κ .ret (BK false)) (br (decide (t9>0)) (ck (cl (aj (t9-1)) (list.length:Int)) ((gh F0 (aP list (aj (t9-1)) K9.aG) (aP t7 t9 K9.aG)).bind fun UE=>br (decide (UE.1≥0)) (κ .ret (BK false)) (ru F κ n (mU list t7 t8 (aj (t9+1)) c c1)))) (ru F κ n (mU list t7 t8 (aj (t9+1)) c c1))))) (κ (.exit 0) (Ml list)):=by kernel_rfl
theorem ac7 (t4:Bool):sM F .ret (BK t4)=some (t4,()):=by kernel_rfl
theorem aaO (list:List D9):sM F (.exit 0) (Ml list)=some (decide ((list.length:Int)≤20),()):=by kernel_rfl
def lg (c:D1)(list:D13):=bF zF F zG f93 aBW aZ 1 (c,list,())
theorem aki (c:D1)(list:D13):lg F c list=ru F (sM F) F.n (mU list list (list.length:Int) 0 c.1 c.2):=by kernel_rfl
def BL:Any:=.one ⟨aBW,aZ,1,fun x=>lg F0 x.1 x.2.1⟩
theorem SW:bm 93 BL:=aA zF ⟨zD,Ez,trivial⟩ func93 zG (by kernel_rfl)
def Zn:=[(67,bL)]
def rv (d:D14):=bF Zn F ab f42 pY aZ 1 (d,())
theorem anV (d:D14):rv F d=br (decide ((d.1.length:Int)≤100000)) ((bd F0 d.2 0 (d.1.length:Int)).bind fun cj=>some (cj.1,())) (some (false,())):=by kernel_rfl
def o7:Any:=.one ⟨pY,aZ,1,fun x=>rv F0 x.1⟩
theorem zH:bm 42 o7:=aA Zn ⟨cm,trivial⟩ func42 ab (by kernel_rfl)
def ac8:Nat→Option Hint:=look [(900008,{live:=[],mat:=[(1,0,K21)]})]
def QZ (m:NA):=bF aF F ac8 f158 xk xk 0 (m,())
theorem aqO (m:NA):QZ F m=br (m.1==1) (some ((m.1,0,m.2.2.1,(0,al,[]),(0,al,[]),0,0,0,0,0),())) (br (m.1==2) (some ((m.1,0,(al,0,al,[]),m.2.2.2.1,(0,al,[]),0,0,0,0,0),())) (br (m.1==3) (some ((m.1,m.2.1,(al,0,al,[]),(0,al,[]),m.2.2.2.2.1,m.2.2.2.2.2.1,0,0,0,0),())) (br (m.1==4) (some ((m.1,0,(al,0,al,[]),(0,al,[]),(0,al,[]),0,m.2.2.2.2.2.2),())) (some ((m.1,0,(al,0,al,[]),(0,al,[]),(0,al,[]),0,0,0,0,0),()))))):=by kernel_rfl
def Vy:Any:=.one ⟨xk,xk,0,fun x=>QZ F0 x.1⟩
theorem aqP:bm 158 Vy:=aA aF trivial func158 ac8 (by kernel_rfl)
def Pn:=[(46,kB)]
def zI (a b:D15):=bF Pn F ab f217 aBX aZ 1 (a,b,())
theorem ac9 (a b:D15):zI F a b=br (a.1.toList==b.1.toList) ((jJ F0 a.2 b.2).bind fun py=>some (py.1,())) (some (false,())):=by kernel_rfl
def JZ:Any:=.one ⟨aBX,aZ,1,fun x=>zI F0 x.1 x.2.1⟩
theorem ada:bm 217 JZ:=aA Pn ⟨rk,trivial⟩ func217 ab (by kernel_rfl)
end
end Go.Am.Tryz
