/- Lemmas for the claim. No condition. -/
import Derived.Test.YtfapcfpkbahneaaGreatDoorQtVJG3
set_option linter.all false
set_option maxRecDepth 100000
namespace Go.Am.Tryz
open Go.Am Go.Proofs Go.Proofs.Tryz
noncomputable section
variable {α:Type} (F:rT) (κ:Ex->St->Option α) (n:Nat)
def zu:=[(238,VV)]
def zw:Nat->Option Hint:=look [(3,{live:=[1,2,4,6,7],x7:=[(4,2,3,.int .i64),(4,3,50,c8),(4,4,114,fC),(4,5,127,dP)],xl:=[2,4],rl:=[4,5]})]
def sL (a i p p1 w w1 t4 t41 r r1 r2 r3 r4 r5:Int)(r6:ByteArray)(r7:List Int)(r8:ByteArray)(r9:List D4)(gZ:List D9)(dC:List Int)(cR:Int)(cg:List lJ)(xs:List Int)(aK:List bu)(aV:List cG)(bm:List cl)(bK:List Int)(cA:List bu)(cB:List cG)(cE:List cl):St:={nt:=59,tm:=[(1,bE a),cL 2,cL 4,cL 6,(7,bE i)],bx:=[(2,[aq w,aq w1,.own 1000000 none,.own 1000001 none,.own 1000002 none,.own 1000003 none]),(4,[aq t4,aq t41,.own 1000004 none,.own 1000005 none,.own 1000006 none,.own 1000007 none]),(6,[aq r,aq r1,aq r2,aq r3,aq r4,aq r5,.str r6,.ro true 3 (.int .i64) r7,.str r8,.ro true 76 (K4) r9,.ro true 74 (K9) gZ,.ro true 5 (.int .u8) dC,aq cR,.ro true 146 (qN) cg])],bl:=[aA 1000000 3 (.int .i64) xs,aA 1000001 50 c8 aK,aA 1000002 114 fC aV,aA 1000003 127 dP bm,aA 1000004 3 (.int .i64) bK,aA 1000005 50 c8 cA,aA 1000006 114 fC cB,aA 1000007 127 dP cE],sp:=.v (.agg [aq p,aq p1,.own 1000000 none,.own 1000001 none,.own 1000002 none,.own 1000003 none])}
def BV (t5 p p1 t4 t41:Int)(xs:List Int)(aK:List bu)(aV:List cG)(bm:List cl):St:={nt:=59,tm:=[cL 4,(5,bE t5)],bx:=[(4,[aq t4,aq t41,.own 1000000 none,.own 1000001 none,.own 1000002 none,.own 1000003 none])],bl:=[aA 1000000 3 (.int .i64) xs,aA 1000001 50 c8 aK,aA 1000002 114 fC aV,aA 1000003 127 dP bm],sp:=.v (.agg [aq p,aq p1,.own 1000000 none,.own 1000001 none,.own 1000002 none,.own 1000003 none])}
def Mx (p p1 w w1 t4 t41:Int)(xs:List Int)(aK:List bu)(aV:List cG)(bm:List cl)(bK:List Int)(cA:List bu)(cB:List cG)(cE:List cl):St:={nt:=59,tm:=[cL 2,cL 4],bx:=[(2,[aq w,aq w1,.own 1000000 none,.own 1000001 none,.own 1000002 none,.own 1000003 none]),(4,[aq t4,aq t41,.own 1000004 none,.own 1000005 none,.own 1000006 none,.own 1000007 none])],bl:=[aA 1000000 3 (.int .i64) xs,aA 1000001 50 c8 aK,aA 1000002 114 fC aV,aA 1000003 127 dP bm,aA 1000004 3 (.int .i64) bK,aA 1000005 50 c8 cA,aA 1000006 114 fC cB,aA 1000007 127 dP cE],sp:=.v (.agg [aq p,aq p1,.own 1000000 none,.own 1000001 none,.own 1000002 none,.own 1000003 none])}
def zx (st:St):Option α:=gA zu F zw [.r,.r,.l,.r,.b,.i] f177 κ n st
def sM:=afq Tryz.prog (look zu) F zw [.r,.r,.l,.r,.b] (j1 f177) (azG Tryz.prog f177 (iL,true) (.int .i64,false) (iL,true))
theorem Gz (a i p p1 w w1 t4 t41 r r1 r2 r3 r4 r5:Int)(r6:ByteArray)(r7:List Int)(r8:ByteArray)(r9:List D4)(gZ:List D9)(dC:List Int)(cR:Int)(cg:List lJ)(xs:List Int)(aK:List bu)(aV:List cG)(bm:List cl)(bK:List Int)(cA:List bu)(cB:List cG)(cE:List cl):zx F κ (n+1) (sL a i p p1 w w1 t4 t41 r r1 r2 r3 r4 r5 r6 r7 r8 r9 gZ dC cR cg xs aK aV bm bK cA cB cE)=br (decide (i>=0)) (ck (cc i (gZ.length:Int)) (br ((aN gZ i K9.aF).2.1.toList==al.toList) (zx F κ n (sL a (aj (i-1)) p p1 w w1 t4 t41 r r1 r2 r3 r4 r5 r6 r7 r8 r9 gZ dC cR cg xs aK aV bm bK cA cB cE)) (ck (cc i (gZ.length:Int)) (ck (cc i (gZ.length:Int)) ((Rr F0 (w,w1) (r,r1,r2,(r3,r4,(r5,r6,r7),r8),r9,gZ,(dC,cR),cg) (aN gZ i K9.aF).1 (aN gZ i K9.aF).2.1 true).bind fun QW=>br (!QW.2.1) (κ .ret (BV 3 p p1 w w1 xs aK aV bm)) (ck (cc a (aK.length:Int)) (κ .ret (BV 0 p p1 w w1 xs (aK.set a.toNat QW.1) aV bm)))))))) (κ (.exit 0) (Mx p p1 w w1 t4 t41 xs aK aV bm bK cA cB cE)):=by kernel_rfl
theorem My (t5 p p1 t4 t41:Int)(xs:List Int)(aK:List bu)(aV:List cG)(bm:List cl):sM F .ret (BV t5 p p1 t4 t41 xs aK aV bm)=br (t5==0) (some (((t4,t41),xs,aK,aV,bm),t5,iL.aF)) (some (iL.aF,t5,(p,p1),xs,aK,aV,bm)):=by kernel_rfl
theorem abk (p p1 w w1 t4 t41:Int)(xs:List Int)(aK:List bu)(aV:List cG)(bm:List cl)(bK:List Int)(cA:List bu)(cB:List cG)(cE:List cl):sM F (.exit 0) (Mx p p1 w w1 t4 t41 xs aK aV bm bK cA cB cE)=some (iL.aF,3,(p,p1),xs,aK,aV,bm):=by kernel_rfl
def HR (w:oV)(a:Int):Option (oV×Int×oV):=aqx Tryz.prog (look zu) F zw f177 [(iL,true),(.int .i64,false)] 0 (iL,true) (.int .i64,false) (iL,true) (w,a,())
theorem akG (w:oV)(a:Int):HR F w a=ck (cc a (w.2.2.1.length:Int)) (zx F (sM F) F.n (sL a (aj (((aN w.2.2.1 a c8.aF).2.2.2.2.2.1.length:Int)-1)) w.1.1 w.1.2 w.1.1 w.1.2 0 0 (aN w.2.2.1 a c8.aF).1 (aN w.2.2.1 a c8.aF).2.1 (aN w.2.2.1 a c8.aF).2.2.1 (aN w.2.2.1 a c8.aF).2.2.2.1.1 (aN w.2.2.1 a c8.aF).2.2.2.1.2.1 (aN w.2.2.1 a c8.aF).2.2.2.1.2.2.1.1 (aN w.2.2.1 a c8.aF).2.2.2.1.2.2.1.2.1 (aN w.2.2.1 a c8.aF).2.2.2.1.2.2.1.2.2 (aN w.2.2.1 a c8.aF).2.2.2.1.2.2.2 (aN w.2.2.1 a c8.aF).2.2.2.2.1 (aN w.2.2.1 a c8.aF).2.2.2.2.2.1 (aN w.2.2.1 a c8.aF).2.2.2.2.2.2.1.1 (aN w.2.2.1 a c8.aF).2.2.2.2.2.2.1.2 (aN w.2.2.1 a c8.aF).2.2.2.2.2.2.2 w.2.1 w.2.2.1 w.2.2.2.1 w.2.2.2.2 [] [] [] [])):=by kernel_rfl
def PN:Any:=.sel ⟨[(iL,true),(.int .i64,false)],0,(iL,true),(.int .i64,false),(iL,true),fun x=>HR F0 x.1 x.2.1⟩
theorem akH:bo 177 PN:=ok4 (show yd Tryz.prog TB zu from⟨are,trivial⟩) func177 (by kernel_rfl) (by kernel_rfl) zw (by kernel_rfl) (by kernel_rfl)
def ZJ:=[(60,iu),(65,j8),(104,mI),(126,o9)]
abbrev aCR:List (Ty×Bool):=[(K14,true),(.int .i64,false)]
def Mz (d:D14)(keep:Int):=bD ZJ F ab f178 aCR p8 2 (d,keep,())
theorem an6 (d:D14)(keep:Int):Mz F d keep=(jt F0 d).bind fun r8=>(nQ F0 d).bind fun gZ=>br (!gZ.1) (some (r8.1,())) ((bU F0 keep (aj ((d.1.length:Int)-d.2))).bind fun gB=>(ez F0 0 gB.1).bind fun sg=>ck (Si 0 (aj (d.2+sg.1)) (d.1.length:Int)) (ck (fe F 0 ((d.1.take (aj (d.2+sg.1)).toNat).drop (0:Int).toNat).length 1) (some (([]++((d.1.take (aj (d.2+sg.1)).toNat).drop (0:Int).toNat),aj (d.2+sg.1)),())))):=by kernel_rfl
def Tf:Any:=.one ⟨aCR,p8,2,fun x=>Mz F0 x.1 x.2.1⟩
theorem an7:bo 178 Tf:=ay ZJ ⟨lO,pN,vi,yz,trivial⟩ func178 ab (by kernel_rfl)
def Rs: Option (Args AX):=bD aE F ab f288 [] AX 2 (())
theorem akI: Rs F= some ((0,0,(0,al,[]),al),()):=by kernel_rfl
def PO:Any:=.one ⟨[],AX,2,fun x=>Rs F0⟩
theorem akJ:bo 288 PO:=ay aE trivial func288 ab (by kernel_rfl)
def ZK:=[(123,iV),(128,pa),(129,sh),(130,JC)]
def MA (c:D1)(b:List Int):=bD ZK F ab f289 SA aiG 2 (c,b,())
theorem an8 (c:D1)(b:List Int):MA F c b=(dt F0 (b,0,true)).bind fun cg=>(dt F0 cg.2.1).bind fun nL=>(BC F0 nL.2.1).bind fun dL=>(n8 F0 dL.2.1).bind fun gB=>br (!gB.2.1.2.2) (some ((0,0,(0,al,[]),al),false,())) (br (gB.2.1.2.1 != (b.length:Int)) (some ((0,0,(0,al,[]),al),false,())) ((jG F0 c (cg.1.1,nL.1.1,dL.1.1,gB.1.1)).bind fun r41=>br (!r41.1) (some ((0,0,(0,al,[]),al),false,())) (some ((cg.1.1,nL.1.1,dL.1.1,gB.1.1),true,())))):=by kernel_rfl
def Tg:Any:=.one ⟨SA,aiG,2,fun x=>MA F0 x.1 x.2.1⟩
theorem an9:bo 289 Tg:=ay ZK ⟨mw,yF,Fu,Zn,trivial⟩ func289 ab (by kernel_rfl)
def vM:=[(186,u5),(288,PO),(289,Tg)]
def vN:Nat->Option Hint:=look [(3,{live:=[1,2,4,6,7],x7:=[(4,4,3,.int .i64)],rl:=[4,5]})]
def qo (b:List Int)(iM c c1 t4 t41 t42:Int)(t43 t44:ByteArray)(Jt aoa aob:Int)(aoc aod:ByteArray)(xs aK:List Int):= dY 62 [(1,jO 5 (.int .u8) b),cL 2,cL 4,cL 6,(7,bE iM)] [(2,[aq c,aq c1]),(4,[aq t4,aq t41,aq t42,.str t43,.own 1000000 none,.str t44]),(6,[aq Jt,aq aoa,aq aob,.str aoc,.own 1000001 none,.str aod])] [aA 1000000 3 (.int .i64) xs,aA 1000001 3 (.int .i64) aK]
def lj (t5 t4 t41 t42:Int)(t43 t44:ByteArray)(xs:List Int):= dY 62 [cL 4,(5,bE t5)] [(4,[aq t4,aq t41,aq t42,.str t43,.own 1000000 none,.str t44])] [aA 1000000 3 (.int .i64) xs]
def vO (st:St):Option α:=gA vM F vN [.r,.r,.r,.b,.i] f239 κ n st
abbrev asS:List (Ty×Bool):=[(K12,true),(.int .i64,false)]
def zy:=jq vM F vN [.r,.r,.r,.b] f239 asS 2
theorem EE (b:List Int)(iM c c1 t4 t41 t42:Int)(t43 t44:ByteArray)(Jt aoa aob:Int)(aoc aod:ByteArray)(xs aK:List Int):vO F κ (n+1) (qo b iM c c1 t4 t41 t42 t43 t44 Jt aoa aob aoc aod xs aK)=(kZ F0 b iM).bind fun fv=>br (!fv.2.2.1) (κ .ret (lj iM Jt aoa aob aoc aod aK)) (br (decide (fv.1>=(aj ((b.length:Int)-fv.2.1)))) (κ .ret (lj iM Jt aoa aob aoc aod aK)) (ck (cc (aj (fv.2.1+fv.1)) (b.length:Int)) (br ((aN b (aj (fv.2.1+fv.1)) 0) != 10) (κ .ret (lj iM Jt aoa aob aoc aod aK)) (ck (Si fv.2.1 (aj (fv.2.1+fv.1)) (b.length:Int)) ((MA F0 (c,c1) ((b.take (aj (fv.2.1+fv.1)).toNat).drop fv.2.1.toNat)).bind fun Fb=>br (!Fb.2.1) (κ .ret (lj iM Jt aoa aob aoc aod aK)) (vO F κ n (qo b (aj ((aj (fv.2.1+fv.1))+1)) c c1 t4 t41 t42 t43 t44 Fb.1.1 Fb.1.2.1 Fb.1.2.2.1.1 Fb.1.2.2.1.2.1 Fb.1.2.2.2 xs Fb.1.2.2.1.2.2))))))):=by kernel_rfl
theorem Ka (t5 t4 t41 t42:Int)(t43 t44:ByteArray)(xs:List Int):zy F .ret (lj t5 t4 t41 t42 t43 t44 xs)=some ((t4,t41,(t42,t43,xs),t44),t5,()):=by kernel_rfl
def Dh (c:D1)(b:List Int):=bD vM F vN f239 SA asS 2 (c,b,())
theorem agr (c:D1)(b:List Int):Dh F c b=(Rs F0).bind fun cg=>vO F (zy F) F.n (qo b 0 c.1 c.2 0 0 0 al al cg.1.1 cg.1.2.1 cg.1.2.2.1.1 cg.1.2.2.1.2.1 cg.1.2.2.2 [] cg.1.2.2.1.2.2):=by kernel_rfl
def MB:Any:=.one ⟨SA,asS,2,fun x=>Dh F0 x.1 x.2.1⟩
theorem ags:bo 239 MB:=ay vM ⟨JA,akJ,an9,trivial⟩ func239 vN (by kernel_rfl)
def aiO:=[(58,cm),(60,iu),(65,j8),(73,cZ),(239,MB)]
def PQ (c:D1)(r:bu):=bD aiO F ab f179 AQ SD 2 (c,r,())
theorem auX (c:D1)(r:bu):PQ F c r=(eb F0 c r).bind fun gZ=>br (!gZ.1) ((bj F0 r).bind fun cg=>some (cg.1,())) ((Dh F0 c r.2.2.2.2.2.2.1.1).bind fun dL=>(ez F0 dL.1.1 (aj (dL.1.2.2.1.1+1))).bind fun Vc=>(ez F0 Vc.1 1).bind fun Ri=>(bU F0 60 Ri.1).bind fun En=>ck (Si 0 dL.2.1 (r.2.2.2.2.2.2.1.1.length:Int)) (ck (fe F 0 ((r.2.2.2.2.2.2.1.1.take dL.2.1.toNat).drop (0:Int).toNat).length 1) (some ((r.1,En.1,0,dL.1,[],[],([]++((r.2.2.2.2.2.2.1.1.take dL.2.1.toNat).drop (0:Int).toNat),dL.2.1),[]),())))):=by kernel_rfl
def ZL:Any:=.one ⟨AQ,SD,2,fun x=>PQ F0 x.1 x.2.1⟩
theorem auY:bo 179 ZL:=ay aiO ⟨cX,lO,pN,dD,ags,trivial⟩ func179 ab (by kernel_rfl)
def aiP:=[(58,cm),(73,cZ),(106,jI),(240,lg),(241,mS)]
def XF (c:D1)(r:bu):=bD aiP F ab f180 AQ hJ 2 (c,r,())
theorem auZ (c:D1)(r:bu):XF F c r=(bj F0 r).bind fun cg=>(eb F0 c r).bind fun nL=>br (!nL.1) (some (cg.1,false,())) (br (decide (r.2.1>=60)) (some (cg.1,false,())) ((mL F0 c (aj (r.2.1+1))).bind fun r31=>br (r31.1==r.1) ((fO F0 c cg.1.2.2.2.2.2.1 (aj (r.2.1+1),al,[r.1])).bind fun QW=>br (!QW.2.1) ((bj F0 r).bind fun r52=>some (r52.1,false,())) (some ((cg.1.1,aj (r.2.1+1),cg.1.2.2.1,cg.1.2.2.2.1,cg.1.2.2.2.2.1,QW.1,cg.1.2.2.2.2.2.2),true,()))) ((fZ F0 c (cg.1.1,aj (r.2.1+1),cg.1.2.2) r31.1 (3,aj (r.2.1+1),(al,0,al,[]),(0,al,[]),r.2.2.2.1.2.2.1,r.1,0,0,0,0)).bind fun XB=>br (!XB.1.2.1) ((bj F0 r).bind fun r74=>some (r74.1,false,())) (some (XB.1.1,true,()))))):=by kernel_rfl
def ZM:Any:=.one ⟨AQ,hJ,2,fun x=>XF F0 x.1 x.2.1⟩
theorem au0:bo 180 ZM:=ay aiP ⟨cX,dD,oa,sC,vF,trivial⟩ func180 ab (by kernel_rfl)
def ZN:=[(58,cm),(172,Oa),(175,Tb),(176,PL),(177,PN),(178,Tf),(179,ZL),(180,ZM)]
def MC (w:oV)(d:D45):Option (oV×Int×oV):=aqx Tryz.prog (look ZN) F ab f121 [(iL,true),(K45,true)] 0 (iL,true) (.int .i64,false) (iL,true) (w,d,())
theorem aoe (w:oV)(d:D45):MC F w d=ck (cc d.2.1 (w.2.2.1.length:Int)) (br (d.1==1) ((Mt F0 w d.2.1).bind fun Ho=>br (Ho.2.1==0) (some (Ho.1,0,iL.aF)) (br (Ho.2.1==0) (none) (some (iL.aF,Ho.2.1,w.1,Ho.2.2.2)))) (br (d.1==2) ((HQ F0 w d.2.1).bind fun OA=>br (OA.2.1==0) (some (OA.1,0,iL.aF)) (br (OA.2.1==0) (none) (some (iL.aF,OA.2.1,w.1,OA.2.2.2)))) (br (d.1==6) ((HR F0 w d.2.1).bind fun XA=>br (XA.2.1==0) (some (XA.1,0,iL.aF)) (br (XA.2.1==0) (none) (some (iL.aF,XA.2.1,w.1,XA.2.2.2)))) (br (d.1==8) ((bj F0 (aN w.2.2.1 d.2.1 c8.aF)).bind fun r62=>(Mz F0 (aN w.2.2.1 d.2.1 c8.aF).2.2.2.2.2.2.1 d.2.2.1).bind fun r67=>(PQ F0 w.1 (r62.1.1,r62.1.2.1,r62.1.2.2.1,r62.1.2.2.2.1,r62.1.2.2.2.2.1,r62.1.2.2.2.2.2.1,r67.1,r62.1.2.2.2.2.2.2.2)).bind fun r76=>ck (cc d.2.1 (w.2.2.1.length:Int)) (some ((w.1,w.2.1,w.2.2.1.set d.2.1.toNat r76.1,w.2.2.2),0,iL.aF))) (br (d.1==7) ((XF F0 w.1 (aN w.2.2.1 d.2.1 c8.aF)).bind fun r85=>br (!r85.2.1) (some (iL.aF,3,w)) (ck (cc d.2.1 (w.2.2.1.length:Int)) (some ((w.1,w.2.1,w.2.2.1.set d.2.1.toNat r85.1,w.2.2.2),0,iL.aF)))) ((PD F0 w.1 (aN w.2.2.1 d.2.1 c8.aF) d.2.2.2).bind fun aq8=>br (!aq8.2.1) (some (iL.aF,3,w)) (br (d.2.2.2.1 != 4) (some (iL.aF,3,w)) (ck (cc d.2.1 (w.2.2.1.length:Int)) (some ((w.1,w.2.1,w.2.2.1.set d.2.1.toNat aq8.1,w.2.2.2),0,iL.aF)))))))))):=by kernel_rfl
def Th:Any:=.sel ⟨[(iL,true),(K45,true)],0,(iL,true),(.int .i64,false),(iL,true),fun x=>MC F0 x.1 x.2.1⟩
theorem aof:bo 121 Th:=ok4 (show yd Tryz.prog TB ZN from⟨cX,adA,an3,akF,akH,an7,auY,au0,trivial⟩) func121 (by kernel_rfl) (by kernel_rfl) ab (by kernel_rfl) (by kernel_rfl)
def ZO:=[(62,dz),(118,S3),(119,Ta),(120,FG),(121,Th)]
def MD (w:oV)(d:D45):Option (oV×Int×oV):=aqx Tryz.prog (look ZO) F ab f66 [(iL,true),(K45,true)] 0 (iL,true) (.int .i64,false) (iL,true) (w,d,())
theorem aog (w:oV)(d:D45):MD F w d=br (d.1==3) ((xB F0 w d).bind fun gU=>br (gU.2.1==0) (some (gU.1,0,iL.aF)) (br (gU.2.1==0) (none) (some (iL.aF,gU.2.1,w.1,gU.2.2.2)))) (br (d.1==4) ((xB F0 w d).bind fun gU=>br (gU.2.1==0) (some (gU.1,0,iL.aF)) (br (gU.2.1==0) (none) (some (iL.aF,gU.2.1,w.1,gU.2.2.2)))) (br (d.1==5) ((xB F0 w d).bind fun gU=>br (gU.2.1==0) (some (gU.1,0,iL.aF)) (br (gU.2.1==0) (none) (some (iL.aF,gU.2.1,w.1,gU.2.2.2)))) (br (d.1==10) ((Mr F0 w d).bind fun r31=>br (r31.2.1==0) (some (r31.1,0,iL.aF)) (br (r31.2.1==0) (none) (some (iL.aF,r31.2.1,w.1,r31.2.2.2)))) ((ED F0 w).bind fun Hr=>(dE F0 Hr.1 d.2.1).bind fun xv=>br (!xv.1) (some (iL.aF,2,w)) ((MC F0 w d).bind fun QW=>br (QW.2.1==0) (some (QW.1,0,iL.aF)) (br (QW.2.1==0) (none) (some (iL.aF,QW.2.1,w.1,QW.2.2.2)))))))):=by kernel_rfl
def Ti:Any:=.sel ⟨[(iL,true),(K45,true)],0,(iL,true),(.int .i64,false),(iL,true),fun x=>MD F0 x.1 x.2.1⟩
theorem aoh:bo 66 Ti:=ok4 (show yd Tryz.prog TB ZO from⟨eA,anT,an0,VR,aof,trivial⟩) func66 (by kernel_rfl) (by kernel_rfl) ab (by kernel_rfl) (by kernel_rfl)
def VW:=[(66,Ti)]
abbrev aiQ:List (Ty×Bool):=[(iL,true),(K45,true)]
def HS (w:oV)(d:D45):=Ei VW F ab f30 aiQ 0 (.own true) gu [] 2 (w,d,())
theorem akK (w:oV)(d:D45):HS F w d=(MD F0 w d).bind fun gZ=>br (gZ.2.1==0) (br (0 != 0) (none) (some ((gZ.1,()),()))) (br (gZ.2.1 != 0) (some (((w.1,gZ.2.2.2),()),())) (none)):=by kernel_rfl
def PR:Any:=.two ⟨aiQ,0,(.own true),gu,2,[],fun x=>HS F0 x.1 x.2.1⟩
theorem akL:bo 30 PR:=aAi VW ⟨aoh,trivial⟩ func30 ab (by kernel_rfl)
def qp:=[(24,U7),(25,AW),(26,BI),(27,eR),(28,SF),(29,Ez),(30,PR)]
def qq:Nat->Option Hint:=look [(7,{live:=[2,4,5,6,7,8,9],x7:=[(2,2,3,.int .i64),(2,3,50,c8),(2,4,114,fC),(2,5,127,dP)],xl:=[2,5,7],rl:=[2,3]})]
def ma (n1 i t2 t21:Int)(t12:List Int)(t121 t122 start Ob w w1:Int)(xs:List D45)(aK:List Int)(aV:List bu)(bm:List cG)(bK:List cl)(cA:List Int)(cB:List bu)(cE:List cG)(oX:List cl)(FH:List Int)(BW:List bu)(AR:List cG)(BX:List cl):= dY 39 [cL 2,(4,.v (.c (.ptr 12 0))),cL 5,cL 6,(7,.v (.c (.own 1000000 none))),(8,bE n1),(9,bE i)] [(2,[aq t2,aq t21,.own 1000001 none,.own 1000002 none,.own 1000003 none,.own 1000004 none]),(12,[.ro false 5 (.int .u8) t12,aq t121,aq t122]),(5,[aq start,aq Ob,.own 1000005 none,.own 1000006 none,.own 1000007 none,.own 1000008 none]),(6,[aq w,aq w1,.own 1000009 none,.own 1000010 none,.own 1000011 none,.own 1000012 none])] [aA 1000000 80 K45 xs,aA 1000001 3 (.int .i64) aK,aA 1000002 50 c8 aV,aA 1000003 114 fC bm,aA 1000004 127 dP bK,aA 1000005 3 (.int .i64) cA,(1000006,some ⟨50,c8,cB,false,true⟩),(1000007,some ⟨114,fC,cE,false,true⟩),aA 1000008 127 dP oX,aA 1000009 3 (.int .i64) FH,aA 1000010 50 c8 BW,aA 1000011 114 fC AR,aA 1000012 127 dP BX]
def EF (t2 t21 start Ob:Int)(xs:List D45)(aK:List Int)(aV:List bu)(bm:List cG)(bK:List cl)(cA:List Int)(cB:List bu)(cE:List cG)(oX:List cl):= dY 39 [cL 2,cL 5,(7,.v (.c (.own 1000000 none)))] [(2,[aq t2,aq t21,.own 1000001 none,.own 1000002 none,.own 1000003 none,.own 1000004 none]),(5,[aq start,aq Ob,.own 1000005 none,.own 1000006 none,.own 1000007 none,.own 1000008 none])] [aA 1000000 80 K45 xs,aA 1000001 3 (.int .i64) aK,aA 1000002 50 c8 aV,aA 1000003 114 fC bm,aA 1000004 127 dP bK,aA 1000005 3 (.int .i64) cA,(1000006,some ⟨50,c8,cB,false,true⟩),(1000007,some ⟨114,fC,cE,false,true⟩),aA 1000008 127 dP oX]
def qt (st:St):Option α:=gA qp F qq [.r,.r,.r,.r,.r,.r,.l,.r,.b,.i] f7 κ n st
abbrev axy:List (Ty×Bool):=[(iL,true),(K46,false)]
def tV:=jq qp F qq [.r,.r,.r,.r,.r,.r,.l,.r,.b] f7 axy 0
theorem zz (n1 i t2 t21:Int)(t12:List Int)(t121 t122 start Ob w w1:Int)(xs:List D45)(aK:List Int)(aV:List bu)(bm:List cG)(bK:List cl)(cA:List Int)(cB:List bu)(cE:List cG)(oX:List cl)(FH:List Int)(BW:List bu)(AR:List cG)(BX:List cl):qt F κ (n+1) (ma n1 i t2 t21 t12 t121 t122 start Ob w w1 xs aK aV bm bK cA cB cE oX FH BW AR BX)=br (decide (i<n1)) ((su F0 (t12,t121,t122) ((w,w1),FH,BW,AR,BX)).bind fun Ri=>ck (fe F xs.length [Ri.1.1].length 240) ((HS F0 ((w,w1),FH,BW,AR,BX) Ri.1.1).bind fun r36=>qt F κ n (ma n1 (aj (i+1)) t2 t21 Ri.2.1.1 Ri.2.1.2.1 Ri.2.1.2.2 start Ob r36.1.1.1.1 r36.1.1.1.2 (xs++[Ri.1.1]) aK aV bm bK cA cB cE oX r36.1.1.2.1 r36.1.1.2.2.1 r36.1.1.2.2.2.1 r36.1.1.2.2.2.2))) (κ (.exit 0) (EF t2 t21 start Ob xs aK aV bm bK cA cB cE oX)):=by kernel_rfl
theorem Ue (t2 t21 start Ob:Int)(xs:List D45)(aK:List Int)(aV:List bu)(bm:List cG)(bK:List cl)(cA:List Int)(cB:List bu)(cE:List cG)(oX:List cl):tV F (.exit 0) (EF t2 t21 start Ob xs aK aV bm bK cA cB cE oX)=some (((start,Ob),cA,cB,cE,oX),xs,()):=by kernel_rfl
def vP (code:List Int):=bD qp F qq f7 mu axy 0 (code,())
theorem abl (code:List Int):vP F code=(Jm F0 code).bind fun cR=>(qa F0 cR.1.1).bind fun lK=>(yQ F0 lK.1.1).bind fun nL=>(L0 F0 code 70 140).bind fun Ej=>(ax F0 lK.2.1 Ej.1).bind fun gU=>qt F (tV F) F.n (ma gU.1.1 0 0 0 gU.2.1.1 gU.2.1.2.1 gU.2.1.2.2 lK.1.1.1.1 lK.1.1.1.2 nL.1.1.1 nL.1.1.2 [] [] [] [] [] lK.1.1.2.1 lK.1.1.2.2.1 lK.1.1.2.2.2.1 lK.1.1.2.2.2.2 nL.1.2.1 nL.1.2.2.1 nL.1.2.2.2.1 nL.1.2.2.2.2):=by kernel_rfl
def GA:Any:=.one ⟨mu,axy,0,fun x=>vP F0 x.1⟩
theorem abm:bo 7 GA:=ay qp ⟨aqR,Vq,SE,gq,ano,Yq,akL,trivial⟩ func7 qq (by kernel_rfl)
def eM (l:List Int):=bD aE F ab f31 kB kB 2 (l,())
theorem BY (l:List Int):eM F l=ck (fe F 0 l.length 8) (some ([]++l,())):=by kernel_rfl
def ga:Any:=.one ⟨kB,kB,2,fun x=>eM F0 x.1⟩
theorem jR:bo 31 ga:=ay aE trivial func31 ab (by kernel_rfl)
def bd (n1 low high:Int):=bD aE F ab f67 aCi aZ 1 (n1,low,high,())
theorem aoi (n1 low high:Int):bd F n1 low high=br (decide (n1>=low)) (some (decide (n1<=high),())) (some (false,())):=by kernel_rfl
def bL:Any:=.one ⟨aCi,aZ,1,fun x=>bd F0 x.1 x.2.1 x.2.2.1⟩
theorem ch:bo 67 bL:=ay aE trivial func67 ab (by kernel_rfl)
def ZP:=[(67,bL)]
def eZ (c:D1):=bD ZP F ab f32 Sl aZ 1 (c,())
theorem aoj (c:D1):eZ F c=(bd F0 c.1 4 7).bind fun r5=>br r5.1 ((bd F0 c.2 1 6).bind fun r9=>some (r9.1,())) (some (false,())):=by kernel_rfl
def dA:Any:=.one ⟨Sl,aZ,1,fun x=>eZ F0 x.1⟩
theorem eE:bo 32 dA:=ay ZP ⟨ch,trivial⟩ func32 ab (by kernel_rfl)
def sN: Option (Args gV):=bD aE F ab f205 [] gV 2 (())
theorem Tj: sN F= some ((0,al,[]),()):=by kernel_rfl
def BZ:Any:=.one ⟨[],gV,2,fun x=>sN F0⟩
theorem Tk:bo 205 BZ:=ay aE trivial func205 ab (by kernel_rfl)
def ju:Nat->Option Hint:=look [(4,{live:=[0,1,12,13],rl:=[4]})]
def hZ (s1 s2:List Int)(t12 t13:Int):= cJ 26 [(0,jO 3 (.int .i64) s1),(1,jO 3 (.int .i64) s2),(12,bE t12),(13,bE t13)]
def ux (t4:Bool):= cJ 26 [(4,OV t4)]
def tK   := cJ 26 []
def jv (st:St):Option α:=gA aE F ju [.r,.r,.l,.r,.b,.i] f91 κ n st
def ia:=jq aE F ju [.r,.r,.l,.r,.b] f91 aZ 1
theorem qu (s1 s2:List Int)(t12 t13:Int):jv F κ (n+1) (hZ s1 s2 t12 t13)=br (decide (t13<t12)) (ck (cc t13 (s1.length:Int)) (ck (cc t13 (s2.length:Int)) (br ((aN s1 t13 0) != (aN s2 t13 0)) (κ .ret (ux false)) (jv F κ n (hZ s1 s2 t12 (aj (t13+1))))))) (κ (.exit 0) (tK)):=by kernel_rfl
theorem Lp (t4:Bool):ia F .ret (ux t4)=some (t4,()):=by kernel_rfl
theorem Kb: ia F (.exit 0) (tK)=some (true,()):=by kernel_rfl
def iy (s1 s2:List Int):=bD aE F ju f91 ajR aZ 1 (s1,s2,())
theorem PS (s1 s2:List Int):iy F s1 s2=br ((s1.length:Int) != (s2.length:Int)) (some (false,())) (jv F (ia F) F.n (hZ s1 s2 (s1.length:Int) 0)):=by kernel_rfl
def lQ:Any:=.one ⟨ajR,aZ,1,fun x=>iy F0 x.1 x.2.1⟩
theorem xD:bo 91 lQ:=ay aE trivial func91 ju (by kernel_rfl)
def ZQ:=[(91,lQ)]
def jJ (a b:D9):=bD ZQ F ab f46 xq aZ 1 (a,b,())
theorem VX (a b:D9):jJ F a b=br (a.1==b.1) (br (a.2.1.toList==b.2.1.toList) ((iy F0 a.2.2 b.2.2).bind fun gB=>some (gB.1,())) (some (false,()))) (some (false,())):=by kernel_rfl
def kJ:Any:=.one ⟨xq,aZ,1,fun x=>jJ F0 x.1 x.2.1⟩
theorem rn:bo 46 kJ:=ay ZQ ⟨xD,trivial⟩ func46 ab (by kernel_rfl)
def adG:=[(160,LB)]
def wS (s:ByteArray)(by1:Int):=bD adG F ab f96 Y3 axp 1 (s,by1,())
theorem arf (s:ByteArray)(by1:Int):wS F s by1=(strings_Split F0 s (strOf [by1])).bind fun r9=>some (r9.1,()):=by kernel_rfl
def Kc:Any:=.one ⟨Y3,axp,1,fun x=>wS F0 x.1 x.2.1⟩
theorem ZR:bo 96 Kc:=ay adG ⟨afJ,trivial⟩ func96 ab (by kernel_rfl)
end
end Go.Am.Tryz
namespace Go.Am.Tryz
open Go.Am Go.Proofs Go.Proofs.Tryz
noncomputable section
variable {α:Type} (F:rT) (κ:Ex->St->Option α) (n:Nat)
def ZS:=[(222,OQ)]
def lk (n1:Int):=bD ZS F ab f162 dv en 1 (n1,())
theorem aok (n1:Int):lk F n1=(strconv_Itoa F0 n1).bind fun r4=>some (r4.1,()):=by kernel_rfl
def vQ:Any:=.one ⟨dv,en,1,fun x=>lk F0 x.1⟩
theorem Kd:bo 162 vQ:=ay ZS ⟨ajJ,trivial⟩ func162 ab (by kernel_rfl)
def Di:=[(162,vQ)]
def Dj:Nat->Option Hint:=look [(5,{live:=[0,4,5],xl:=[0,4],rl:=[2,3]})]
def vR (s:ByteArray)(n1 i:Int):= cJ 43 [(0,Y0 s),(4,bE n1),(5,bE i)]
def FI (t2:Int)(t3:Bool):= cJ 43 [(2,bE t2),(3,OV t3)]
def PT (s:ByteArray)(n1:Int):= cJ 43 [(0,Y0 s),(4,bE n1)]
def Dk (st:St):Option α:=gA Di F Dj [.r,.r,.r,.l,.r,.b,.i] f98 κ n st
def vS:=jq Di F Dj [.r,.r,.r,.l,.r,.b] f98 asH 1
theorem Ke (s:ByteArray)(n1 i:Int):Dk F κ (n+1) (vR s n1 i)=br (decide (i<(s.size:Int))) (ck (cc i (s.size:Int)) (br (decide ((lL s i)<48)) (κ .ret (FI 0 false)) (ck (cc i (s.size:Int)) (br (decide ((lL s i)>57)) (κ .ret (FI 0 false)) (ck (cc i (s.size:Int)) (Dk F κ n (vR s (aj ((aj (10*n1))+(aj (IntKind.wrap .u8 ((lL s i)-48))))) (aj (i+1))))))))) (κ (.exit 0) (PT s n1)):=by kernel_rfl
theorem agt (t2:Int)(t3:Bool):vS F .ret (FI t2 t3)=some (t2,t3,()):=by kernel_rfl
theorem adH (s:ByteArray)(n1:Int):vS F (.exit 0) (PT s n1)=(lk F0 n1).bind fun LG=>br (!(LG.1.toList==s.toList)) (some (0,false,())) (some (n1,true,())):=by kernel_rfl
def nT (s:ByteArray):=bD Di F Dj f98 en asH 1 (s,())
theorem aol (s:ByteArray):nT F s=br (decide ((s.size:Int)<1)) (some (0,false,())) (br (decide ((s.size:Int)>6)) (some (0,false,())) (Dk F (vS F) F.n (vR s 0 0))):=by kernel_rfl
def FJ:Any:=.one ⟨en,asH,1,fun x=>nT F0 x.1⟩
theorem VY:bo 98 FJ:=ay Di ⟨Kd,trivial⟩ func98 Dj (by kernel_rfl)
def aiR:=[(67,bL)]
def pR (x:D4):=bD aiR F ab f153 Y6 aZ 1 (x,())
theorem au1 (x:D4):pR F x=(bd F0 x.1 0 3).bind fun r5=>br r5.1 ((bd F0 x.2.1 0 3).bind fun r9=>br r9.1 ((bd F0 x.2.2.1 0 1000).bind fun lK=>br lK.1 ((bd F0 x.2.2.2 0 99).bind fun dL=>some (dL.1,())) (some (false,()))) (some (false,()))) (some (false,())):=by kernel_rfl
def jK:Any:=.one ⟨Y6,aZ,1,fun x=>pR F0 x.1⟩
theorem oo:bo 153 jK:=ay aiR ⟨ch,trivial⟩ func153 ab (by kernel_rfl)
def ZT:=[(153,jK),(162,vQ)]
def EG (x:D4):=bD ZT F ab f223 Y6 en 1 (x,())
theorem aom (x:D4):EG F x=(pR F0 x).bind fun r4=>br (!r4.1) (some (al,())) ((lk F0 x.1).bind fun r8=>ck (okC F r8.1.size (ByteArray.mk #[62]).size) ((lk F0 x.2.1).bind fun cR=>ck (okC F (r8.1++(ByteArray.mk #[62])).size cR.1.size) (ck (okC F ((r8.1++(ByteArray.mk #[62]))++cR.1).size (ByteArray.mk #[58]).size) ((lk F0 x.2.2.1).bind fun fv=>ck (okC F (((r8.1++(ByteArray.mk #[62]))++cR.1)++(ByteArray.mk #[58])).size fv.1.size) (ck (okC F ((((r8.1++(ByteArray.mk #[62]))++cR.1)++(ByteArray.mk #[58]))++fv.1).size (ByteArray.mk #[35]).size) ((lk F0 x.2.2.2).bind fun gB=>ck (okC F (((((r8.1++(ByteArray.mk #[62]))++cR.1)++(ByteArray.mk #[58]))++fv.1)++(ByteArray.mk #[35])).size gB.1.size) (some ((((((r8.1++(ByteArray.mk #[62]))++cR.1)++(ByteArray.mk #[58]))++fv.1)++(ByteArray.mk #[35]))++gB.1,())))))))):=by kernel_rfl
def FK:Any:=.one ⟨Y6,en,1,fun x=>EG F0 x.1⟩
theorem VZ:bo 223 FK:=ay ZT ⟨oo,Kd,trivial⟩ func223 ab (by kernel_rfl)
def aiS:=[(97,Fj),(98,FJ),(153,jK),(223,FK)]
def XG (s:ByteArray):=bD aiS F ab f163 en aCj 1 (s,())
theorem au2 (s:ByteArray):XG F0 s=(strings_Cut F0 s (ByteArray.mk #[62])).bind fun axz=>(strings_Cut F0 axz.2.1 (ByteArray.mk #[58])).bind fun axA=>(strings_Cut F0 axA.2.1 (ByteArray.mk #[35])).bind fun aiT=>ck (cc 0 4) ((nT F0 (aN [axz.1,axA.1,aiT.1,aiT.2.1] 0 ByteArray.empty)).bind fun aGk=>ck (cc 1 4) ((nT F0 (aN [axz.1,axA.1,aiT.1,aiT.2.1] 1 ByteArray.empty)).bind fun aGl=>ck (cc 2 4) ((nT F0 (aN [axz.1,axA.1,aiT.1,aiT.2.1] 2 ByteArray.empty)).bind fun aGm=>ck (cc 3 4) ((nT F0 (aN [axz.1,axA.1,aiT.1,aiT.2.1] 3 ByteArray.empty)).bind fun aGn=>(pR F0 (aGk.1,aGl.1,aGm.1,aGn.1)).bind fun aMA=>br (!aMA.1) (some ((0,0,0,0),false,())) ((EG F0 (aGk.1,aGl.1,aGm.1,aGn.1)).bind fun aMB=>br (!(aMB.1.toList==s.toList)) (some ((0,0,0,0),false,())) (some ((aGk.1,aGl.1,aGm.1,aGn.1),true,()))))))):=by kernel_rfl
def ZU:Any:=.one ⟨en,aCj,1,fun x=>XG F0 x.1⟩
theorem au3:bo 163 ZU:=ay aiS ⟨U3,VY,oo,VZ,trivial⟩ func163 ab (by kernel_rfl)
def HT:=[(96,Kc),(163,ZU)]
def HU:Nat->Option Hint:=look [(5,{live:=[4,12,13,14],mat:=[(4,76,K4)],xl:=[4],rl:=[2,3]})]
def zA (t12:List ByteArray)(t13 t14:Int)(xs:List D4):= dY 31 [(4,.v (.c (.own 1000000 none))),(12,.v (.c (.ro true 9 (.str) t12))),(13,bE t13),(14,bE t14)] [] [aA 1000000 76 K4 xs]
def V0 (t3:Bool):= cJ 31 [(2,.v (.c (.nil))),(3,OV t3)]
def Tl (xs:List D4):= dY 31 [(4,.v (.c (.own 1000000 none)))] [] [aA 1000000 76 K4 xs]
def HV (st:St):Option α:=gA HT F HU [.r,.r,.r,.l,.r,.b,.i] f99 κ n st
def zB:=jq HT F HU [.r,.r,.r,.l,.r,.b] f99 Ve 2
theorem ME (t12:List ByteArray)(t13 t14:Int)(xs:List D4):HV F κ (n+1) (zA t12 t13 t14 xs)=br (decide (t14<t13)) (ck (cc t14 (t12.length:Int)) ((XG F0 (aN t12 t14 ByteArray.empty)).bind fun Ej=>br (!Ej.2.1) (κ .ret (V0 false)) (ck (fe F xs.length [Ej.1].length 32) (HV F κ n (zA t12 t13 (aj (t14+1)) (xs++[Ej.1])))))) (κ (.exit 0) (Tl xs)):=by kernel_rfl
theorem akM (t3:Bool):zB F .ret (V0 t3)=some ([],t3,()):=by kernel_rfl
theorem agu (xs:List D4):zB F (.exit 0) (Tl xs)=some (xs,true,()):=by kernel_rfl
def Kf (s:ByteArray):=bD HT F HU f99 en Ve 2 (s,())
theorem arh (s:ByteArray):Kf F s=br (s.toList==al.toList) (some ([],true,())) ((wS F0 s 44).bind fun cR=>HV F (zB F) F.n (zA cR.1 (cR.1.length:Int) 0 [])):=by kernel_rfl
def V1:Any:=.one ⟨en,Ve,2,fun x=>Kf F0 x.1⟩
theorem ari:bo 99 V1:=ay HT ⟨ZR,au3,trivial⟩ func99 HU (by kernel_rfl)
def HW:=[(67,bL),(96,Kc),(97,Fj),(98,FJ),(99,V1)]
def HX:Nat->Option Hint:=look [(9,{live:=[5,6,31,32,33],mat:=[(5,157,K6)],xl:=[5],rl:=[2,3]})]
def zC (Jt:Int)(t31:List ByteArray)(t32 t33:Int)(xs:List D6):= dY 84 [(5,.v (.c (.own 1000000 none))),(6,bE Jt),(31,.v (.c (.ro true 9 (.str) t31))),(32,bE t32),(33,bE t33)] [] [aA 1000000 157 K6 xs]
def mW (t3:Bool):= cJ 84 [(2,.v (.c (.nil))),(3,OV t3)]
def Tm (xs:List D6):= dY 84 [(5,.v (.c (.own 1000000 none)))] [] [aA 1000000 157 K6 xs]
def HY (st:St):Option α:=gA HW F HX [.r,.r,.r,.r,.r,.r,.l,.r,.b,.i] f50 κ n st
def zD:=jq HW F HX [.r,.r,.r,.r,.r,.r,.l,.r,.b] f50 asI 2
theorem MF (Jt:Int)(t31:List ByteArray)(t32 t33:Int)(xs:List D6):HY F κ (n+1) (zC Jt t31 t32 t33 xs)=br (decide (t33<t32)) (ck (cc t33 (t31.length:Int)) ((strings_Cut F0 (aN t31 t33 ByteArray.empty) (ByteArray.mk #[124])).bind fun LG=>(nT F0 LG.1).bind fun r45=>(Kf F0 LG.2.1).bind fun Fb=>br (!LG.2.2.1) (κ .ret (mW false)) (br (!r45.2.1) (κ .ret (mW false)) (br (!Fb.2.1) (κ .ret (mW false)) ((bd F0 r45.1 (aj (Jt+1)) 60).bind fun r67=>br (!r67.1) (κ .ret (mW false)) (br (decide ((Fb.1.length:Int)>2)) (κ .ret (mW false)) (ck (fe F xs.length [(r45.1,Fb.1)].length 32) (HY F κ n (zC r45.1 t31 t32 (aj (t33+1)) (xs++[(r45.1,Fb.1)])))))))))) (κ (.exit 0) (Tm xs)):=by kernel_rfl
theorem akN (t3:Bool):zD F .ret (mW t3)=some ([],t3,()):=by kernel_rfl
theorem agv (xs:List D6):zD F (.exit 0) (Tm xs)=some (xs,true,()):=by kernel_rfl
def rq (s:ByteArray):=bD HW F HX f50 en asI 2 (s,())
theorem arj (s:ByteArray):rq F s=br (s.toList==al.toList) (some ([],true,())) ((wS F0 s 47).bind fun dL=>ck (cc 0 (dL.1.length:Int)) (br (!((aN dL.1 0 ByteArray.empty).toList==al.toList)) (some ([],false,())) (br (decide ((aj ((dL.1.length:Int)-1))>30)) (some ([],false,())) (ck (Si 1 (dL.1.length:Int) (dL.1.length:Int)) (HY F (zD F) F.n (zC 0 ((dL.1.take (dL.1.length:Int).toNat).drop (1:Int).toNat) (((dL.1.take (dL.1.length:Int).toNat).drop (1:Int).toNat).length:Int) 0 [])))))):=by kernel_rfl
def rr:Any:=.one ⟨en,asI,2,fun x=>rq F0 x.1⟩
theorem Dl:bo 50 rr:=ay HW ⟨ch,ZR,U3,VY,ari,trivial⟩ func50 HX (by kernel_rfl)
def ZV:=[(50,rr)]
def fE (s:ByteArray):=bD ZV F ab f19 en aZ 1 (s,())
theorem aon (s:ByteArray):fE F s=(rq F0 s).bind fun r7=>some (r7.2.1,()):=by kernel_rfl
def fy:Any:=.one ⟨en,aZ,1,fun x=>fE F0 x.1⟩
theorem iz:bo 19 fy:=ay ZV ⟨Dl,trivial⟩ func19 ab (by kernel_rfl)
def ZW:=[(50,rr)]
def e8 (s:ByteArray):=bD ZW F ab f71 en dv 1 (s,())
theorem aoo (s:ByteArray):e8 F s=(rq F0 s).bind fun r7=>br ((r7.1.length:Int)==0) (some (0,())) (ck (cc (aj ((r7.1.length:Int)-1)) (r7.1.length:Int)) (some ((aN r7.1 (aj ((r7.1.length:Int)-1)) (0,[])).1,()))):=by kernel_rfl
def eN:Any:=.one ⟨en,dv,1,fun x=>e8 F0 x.1⟩
theorem gb:bo 71 eN:=ay ZW ⟨Dl,trivial⟩ func71 ab (by kernel_rfl)
def HZ:Nat->Option Hint:=look [(2,{live:=[0,1,7,8,9],rl:=[4]})]
def ru (n1:Int)(s t7:List Int)(t8 t9:Int):= cJ 35 [(0,bE n1),(1,jO 3 (.int .i64) s),(7,jO 3 (.int .i64) t7),(8,bE t8),(9,bE t9)]
def zE (t4:Bool):= cJ 35 [(4,OV t4)]
def Tn   := cJ 35 []
def zF (st:St):Option α:=gA aE F HZ [.r,.l,.r,.b,.i] f68 κ n st
def zG:=jq aE F HZ [.r,.l,.r,.b] f68 aZ 1
theorem MG (n1:Int)(s t7:List Int)(t8 t9:Int):zF F κ (n+1) (ru n1 s t7 t8 t9)=br (decide (t9<t8)) (ck (cc t9 (t7.length:Int)) (br (decide ((aN t7 t9 0)<0)) (κ .ret (zE false)) (br (decide ((aN t7 t9 0)>=n1)) (κ .ret (zE false)) (br (decide (t9>0)) (ck (cc (aj (t9-1)) (s.length:Int)) (br (decide ((aN s (aj (t9-1)) 0)>=(aN t7 t9 0))) (κ .ret (zE false)) (zF F κ n (ru n1 s t7 t8 (aj (t9+1)))))) (zF F κ n (ru n1 s t7 t8 (aj (t9+1)))))))) (κ (.exit 0) (Tn)):=by kernel_rfl
theorem akO (t4:Bool):zG F .ret (zE t4)=some (t4,()):=by kernel_rfl
theorem agw: zG F (.exit 0) (Tn)=some (true,()):=by kernel_rfl
def wT (n1:Int)(s:List Int):=bD aE F HZ f68 aCk aZ 1 (n1,s,())
theorem ark (n1:Int)(s:List Int):wT F n1 s=zF F (zG F) F.n (ru n1 s s (s.length:Int) 0):=by kernel_rfl
def zH:Any:=.one ⟨aCk,aZ,1,fun x=>wT F0 x.1 x.2.1⟩
theorem Oc:bo 68 zH:=ay aE trivial func68 HZ (by kernel_rfl)
def ZX:=[(32,dA)]
def EH (c:D1):=bD ZX F ab f69 Sl dv 1 (c,())
theorem aop (c:D1):EH F c=(eZ F0 c).bind fun r4=>br (!r4.1) (some (0,())) (some (aj (Int.tdiv (aj (c.1-1)) 3),())):=by kernel_rfl
def FL:Any:=.one ⟨Sl,dv,1,fun x=>EH F0 x.1⟩
theorem V2:bo 69 FL:=ay ZX ⟨eE,trivial⟩ func69 ab (by kernel_rfl)
def ZY:=[(32,dA),(69,FL)]
def EI (c:D1):=bD ZY F ab f214 Sl dv 1 (c,())
theorem aoq (c:D1):EI F c=(eZ F0 c).bind fun r4=>br (!r4.1) (some (0,())) ((EH F0 c).bind fun r9=>some (aj (c.1-r9.1),())):=by kernel_rfl
def FM:Any:=.one ⟨Sl,dv,1,fun x=>EI F0 x.1⟩
theorem V3:bo 214 FM:=ay ZY ⟨eE,V2,trivial⟩ func214 ab (by kernel_rfl)
def aiU:=[(19,fy),(32,dA),(46,kJ),(68,zH),(71,eN),(205,BZ),(214,FM)]
def mX (c:D1)(q:D9):=bD aiU F ab f152 F9 aZ 1 (c,q,())
theorem au4 (c:D1)(q:D9):mX F c q=(eZ F0 c).bind fun r6=>br (!r6.1) (some (false,())) ((sN F0).bind fun r9=>(jJ F0 q r9.1).bind fun gZ=>br gZ.1 (some (true,())) (br (decide (q.1>=1)) ((fE F0 q.2.1).bind fun N7=>br N7.1 ((e8 F0 q.2.1).bind fun Yr=>br (q.1==Yr.1) ((wT F0 c.1 q.2.2).bind fun ud=>br ud.1 ((EI F0 c).bind fun xv=>some (decide ((q.2.2.length:Int)>=xv.1),())) (some (false,()))) (some (false,()))) (some (false,()))) (some (false,())))):=by kernel_rfl
def jL:Any:=.one ⟨F9,aZ,1,fun x=>mX F0 x.1 x.2.1⟩
theorem oq:bo 152 jL:=ay aiU ⟨iz,eE,rn,Oc,gb,Tk,V3,trivial⟩ func152 ab (by kernel_rfl)
def ZZ:=[(19,fy),(67,bL),(152,jL)]
def ll (c:D1)(s:Ua):=bD ZZ F ab f90 Su aZ 1 (c,s,())
theorem aor (c:D1)(s:Ua):ll F c s=(bd F0 s.1 0 60).bind fun r7=>br r7.1 ((bd F0 s.2.1 0 60).bind fun dC=>br dC.1 ((mX F0 c s.2.2.1).bind fun fv=>br fv.1 ((fE F0 s.2.2.2).bind fun gB=>some (gB.1,())) (some (false,()))) (some (false,()))) (some (false,())):=by kernel_rfl
def kK:Any:=.one ⟨Su,aZ,1,fun x=>ll F0 x.1 x.2.1⟩
theorem rv:bo 90 kK:=ay ZZ ⟨iz,ch,oq,trivial⟩ func90 ab (by kernel_rfl)
def Dm (a b:D4):=bD aE F ab f154 aCl aZ 1 (a,b,())
theorem agx (a b:D4):Dm F a b=br (decide (a.1<b.1)) (some (true,())) (br (a.1==b.1) (some (decide (a.2.2.2<b.2.2.2),())) (some (false,()))):=by kernel_rfl
def MH:Any:=.one ⟨aCl,aZ,1,fun x=>Dm F0 x.1 x.2.1⟩
theorem agy:bo 154 MH:=ay aE trivial func154 ab (by kernel_rfl)
def Dn:=[(153,jK),(154,MH)]
def Dp:Nat->Option Hint:=look [(2,{live:=[0,5,6,7],xl:=[0],rl:=[2]})]
def pg (p t5:List D4)(t6 t7:Int):= cJ 33 [(0,jO 76 (K4) p),(5,jO 76 (K4) t5),(6,bE t6),(7,bE t7)]
def FN (t2:Bool):= cJ 33 [(2,OV t2)]
def PU (p:List D4):= cJ 33 [(0,jO 76 (K4) p)]
def uy (st:St):Option α:=gA Dn F Dp [.r,.l,.r,.b,.i] f92 κ n st
def vT:=jq Dn F Dp [.r,.l,.r,.b] f92 aZ 1
theorem Kg (p t5:List D4)(t6 t7:Int):uy F κ (n+1) (pg p t5 t6 t7)=br (decide (t7<t6)) (ck (cc t7 (t5.length:Int)) ((pR F0 (aN t5 t7 K4.aF)).bind fun cg=>br (!cg.1) (κ .ret (FN false)) (br (decide (t7>0)) (ck (cc (aj (t7-1)) (p.length:Int)) ((Dm F0 (aN p (aj (t7-1)) K4.aF) (aN t5 t7 K4.aF)).bind fun Yr=>br (!Yr.1) (κ .ret (FN false)) (uy F κ n (pg p t5 t6 (aj (t7+1)))))) (uy F κ n (pg p t5 t6 (aj (t7+1))))))) (κ (.exit 0) (PU p)):=by kernel_rfl
theorem agz (t2:Bool):vT F .ret (FN t2)=some (t2,()):=by kernel_rfl
theorem adI (p:List D4):vT F (.exit 0) (PU p)=some (decide ((p.length:Int)<=12),()):=by kernel_rfl
def xE (p:D5):=bD Dn F Dp f92 kz aZ 1 (p,())
theorem aos (p:D5):xE F p=uy F (vT F) F.n (pg p p (p.length:Int) 0):=by kernel_rfl
def FO:Any:=.one ⟨kz,aZ,1,fun x=>xE F0 x.1⟩
theorem V4:bo 92 FO:=ay Dn ⟨oo,agy,trivial⟩ func92 Dp (by kernel_rfl)
def Z0:=[(19,fy),(32,dA),(67,bL),(68,zH),(71,eN)]
def ry (c:D1)(p:D9):=bD Z0 F ab f155 F9 aZ 1 (c,p,())
theorem aot (c:D1)(p:D9):ry F c p=(eZ F0 c).bind fun r6=>br r6.1 ((bd F0 p.1 1 60).bind fun gZ=>br gZ.1 (br (p.2.1.toList==al.toList) ((wT F0 c.1 p.2.2).bind fun r35=>br r35.1 (some (decide ((p.2.2.length:Int)>0),())) (some (false,()))) ((fE F0 p.2.1).bind fun dL=>br dL.1 ((e8 F0 p.2.1).bind fun sg=>br (sg.1==p.1) ((wT F0 c.1 p.2.2).bind fun r35=>br r35.1 (some (decide ((p.2.2.length:Int)>0),())) (some (false,()))) (some (false,()))) (some (false,())))) (some (false,()))) (some (false,())):=by kernel_rfl
def ph:Any:=.one ⟨F9,aZ,1,fun x=>ry F0 x.1 x.2.1⟩
theorem zI:bo 155 ph:=ay Z0 ⟨iz,eE,ch,Oc,gb,trivial⟩ func155 ab (by kernel_rfl)
def Dq (x:Int):=bD aE F ab f260 dv aZ 1 (x,())
theorem PV (x:Int):Dq F x=some (x != x,()):=by kernel_rfl
def MI:Any:=.one ⟨dv,aZ,1,fun x=>Dq F0 x.1⟩
theorem agA:bo 260 MI:=ay aE trivial func260 ab (by kernel_rfl)
def MJ:=[(260,MI)]
def vU (x y:Int):=bD MJ F ab f215 asJ dv 1 (x,y,())
theorem abn (x y:Int):vU F x y=(Dq F0 x).bind fun r8=>(Dq F0 y).bind fun gZ=>br r8.1 (br gZ.1 (some (0,())) (some (-1,()))) (br gZ.1 (some (1,())) (br (decide (x<y)) (some (-1,())) (br (decide (x>y)) (some (1,())) (some (0,()))))):=by kernel_rfl
def GB:Any:=.one ⟨asJ,dv,1,fun x=>vU F0 x.1 x.2.1⟩
theorem abo:bo 215 GB:=ay MJ ⟨agA,trivial⟩ func215 ab (by kernel_rfl)
def sO (x:ByteArray):=bD aE F ab f261 en aZ 1 (x,())
theorem GC (x:ByteArray):sO F x=some (!(x.toList==x.toList),()):=by kernel_rfl
def EJ:Any:=.one ⟨en,aZ,1,fun x=>sO F0 x.1⟩
theorem Yt:bo 261 EJ:=ay aE trivial func261 ab (by kernel_rfl)
def EK:=[(261,EJ)]
def ot (x y:ByteArray):=bD EK F ab f216 Zu dv 1 (x,y,())
theorem Uf (x y:ByteArray):ot F x y=(sO F0 x).bind fun r8=>(sO F0 y).bind fun gZ=>br r8.1 (br gZ.1 (some (0,())) (some (-1,()))) (br gZ.1 (some (1,())) (br (Op.bytesLess x.toList y.toList) (some (-1,())) (br (!(Op.bytesLess x.toList y.toList || (x.toList==y.toList))) (some (1,())) (some (0,()))))):=by kernel_rfl
def zJ:Any:=.one ⟨Zu,dv,1,fun x=>ot F0 x.1 x.2.1⟩
theorem Ug:bo 216 zJ:=ay EK ⟨Yt,trivial⟩ func216 ab (by kernel_rfl)
def GD:=[(215,GB),(216,zJ)]
def gd (a b:D9):=bD GD F ab f156 xq dv 1 (a,b,())
theorem EL (a b:D9):gd F a b=(vU F0 a.1 b.1).bind fun gZ=>br (gZ.1 != 0) (some (gZ.1,())) ((ot F0 a.2.1 b.2.1).bind fun N7=>some (N7.1,())):=by kernel_rfl
def p4:Any:=.one ⟨xq,dv,1,fun x=>gd F0 x.1 x.2.1⟩
theorem EM:bo 156 p4:=ay GD ⟨abo,Ug,trivial⟩ func156 ab (by kernel_rfl)
def zK:=[(155,ph),(156,p4)]
def zL:Nat->Option Hint:=look [(2,{live:=[1,2,7,8,9],xl:=[1],rl:=[4]})]
def mY (list t7:List D9)(t8 t9 c c1:Int):= dY 36 [(1,jO 74 (K9) list),cL 2,(7,jO 74 (K9) t7),(8,bE t8),(9,bE t9)] [(2,[aq c,aq c1])] []
def B0 (t4:Bool):= cJ 36 [(4,OV t4)]
def MK (list:List D9):= cJ 36 [(1,jO 74 (K9) list)]
def rz (st:St):Option α:=gA zK F zL [.r,.l,.r,.b,.i] f93 κ n st
def sP:=jq zK F zL [.r,.l,.r,.b] f93 aZ 1
theorem GF (list t7:List D9)(t8 t9 c c1:Int):rz F κ (n+1) (mY list t7 t8 t9 c c1)=br (decide (t9<t8)) (ck (cc t9 (t7.length:Int)) ((ry F0 (c,c1) (aN t7 t9 K9.aF)).bind fun nL=>br (!nL.1) (κ .ret (B0 false)) (br (decide (t9>0)) (ck (cc (aj (t9-1)) (list.length:Int)) ((gd F0 (aN list (aj (t9-1)) K9.aF) (aN t7 t9 K9.aF)).bind fun Vc=>br (decide (Vc.1>=0)) (κ .ret (B0 false)) (rz F κ n (mY list t7 t8 (aj (t9+1)) c c1)))) (rz F κ n (mY list t7 t8 (aj (t9+1)) c c1))))) (κ (.exit 0) (MK list)):=by kernel_rfl
theorem adJ (t4:Bool):sP F .ret (B0 t4)=some (t4,()):=by kernel_rfl
theorem abp (list:List D9):sP F (.exit 0) (MK list)=some (decide ((list.length:Int)<=20),()):=by kernel_rfl
def lq (c:D1)(list:D13):=bD zK F zL f93 aCm aZ 1 (c,list,())
theorem akP (c:D1)(list:D13):lq F c list=rz F (sP F) F.n (mY list list (list.length:Int) 0 c.1 c.2):=by kernel_rfl
def B2:Any:=.one ⟨aCm,aZ,1,fun x=>lq F0 x.1 x.2.1⟩
theorem To:bo 93 B2:=ay zK ⟨zI,EM,trivial⟩ func93 zL (by kernel_rfl)
def Z1:=[(67,bL)]
def rA (d:D14):=bD Z1 F ab f42 p8 aZ 1 (d,())
theorem aou (d:D14):rA F d=br (decide ((d.1.length:Int)<=100000)) ((bd F0 d.2 0 (d.1.length:Int)).bind fun cg=>some (cg.1,())) (some (false,())):=by kernel_rfl
def pj:Any:=.one ⟨p8,aZ,1,fun x=>rA F0 x.1⟩
theorem zM:bo 42 pj:=ay Z1 ⟨ch,trivial⟩ func42 ab (by kernel_rfl)
def adK:Nat->Option Hint:=look [(900008,{live:=[],mat:=[(1,0,K21)]})]
def Ru (m:N6):=bD aE F adK f158 xu xu 0 (m,())
theorem arl (m:N6):Ru F m=br (m.1==1) (some ((m.1,0,m.2.2.1,(0,al,[]),(0,al,[]),0,0,0,0,0),())) (br (m.1==2) (some ((m.1,0,(al,0,al,[]),m.2.2.2.1,(0,al,[]),0,0,0,0,0),())) (br (m.1==3) (some ((m.1,m.2.1,(al,0,al,[]),(0,al,[]),m.2.2.2.2.1,m.2.2.2.2.2.1,0,0,0,0),())) (br (m.1==4) (some ((m.1,0,(al,0,al,[]),(0,al,[]),(0,al,[]),0,m.2.2.2.2.2.2),())) (some ((m.1,0,(al,0,al,[]),(0,al,[]),(0,al,[]),0,0,0,0,0),()))))):=by kernel_rfl
def V5:Any:=.one ⟨xu,xu,0,fun x=>Ru F0 x.1⟩
theorem arn:bo 158 V5:=ay aE trivial func158 adK (by kernel_rfl)
def PW:=[(46,kJ)]
def zN (a b:D15):=bD PW F ab f217 aCn aZ 1 (a,b,())
theorem adL (a b:D15):zN F a b=br (a.1.toList==b.1.toList) ((jJ F0 a.2 b.2).bind fun oW=>some (oW.1,())) (some (false,())):=by kernel_rfl
def Kh:Any:=.one ⟨aCn,aZ,1,fun x=>zN F0 x.1 x.2.1⟩
theorem adM:bo 217 Kh:=ay PW ⟨rn,trivial⟩ func217 ab (by kernel_rfl)
end
end Go.Am.Tryz
