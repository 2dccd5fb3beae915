/- Lemmas for the claim. No condition. -/
import Derived.Test.YtfapcfpkbahneaaGreatDoorQlVJG2
set_option linter.all false
set_option maxRecDepth 100000
namespace Go.Am.Tryz
open Go.Am Go.Proofs Go.Proofs.Tryz
noncomputable section
variable {α:Type} (F:rQ) (κ:Ex→St→Option α) (n:Nat)
def yV:=[(115,hU),(276,iZ),(277,sq)]
def yW:Nat→Option Hint:=look [(6,{live:=[3,5,6],xl:=[5],rl:=[4]})]
def sr (i q:Int)(q1:ByteArray)(q2 xs:List Int):= er 41 [cS 3,(5,.v (.c (.own 1000000 none))),(6,bR i)] [(3,[aq q,.str q1,.ro false 3 (.int .i64) q2])] [aB 1000000 5 (.int .u8) xs]
def LJ (xs:List Int):= er 41 [(5,.v (.c (.own 1000000 none)))] [] [aB 1000000 5 (.int .u8) xs]
def yX (st:St):Option α:=gW yV F yW [.r,.r,.r,.r,.l,.r,.b,.i] f278 κ n st
def Bw:=jF yV F yW [.r,.r,.r,.r,.l,.r,.b] f278 mn 2
theorem Gb (i q:Int)(q1:ByteArray)(q2 xs:List Int):yX F κ (n+1) (sr i q q1 q2 xs)=br (decide (i<(q2.length:Int))) (ck (cl i (q2.length:Int)) ((e8 F0 (aP q2 i 0)).bind fun TP=>ck (fg F xs.length TP.1.length 1) (yX F κ n (sr (aj (i+1)) q q1 q2 (xs++TP.1))))) (κ (.exit 0) (LJ xs)):=by kernel_rfl
theorem aaB (xs:List Int):Bw F (.exit 0) (LJ xs)=some (xs,()):=by kernel_rfl
def su (c:D1)(q:D9):=bF yV F yW f278 FW mn 2 (c,q,())
theorem ajS (c:D1)(q:D9):su F c q=(kv F0 c q).bind fun r9=>br (!r9.1) (some ([],())) ((e8 F0 q.1).bind fun lM=>(nY F0 q.2.1).bind fun fh=>ck (fg F lM.1.length fh.1.length 1) ((e8 F0 (q.2.2.length:Int)).bind fun sd=>ck (fg F (lM.1++fh.1).length sd.1.length 1) (yX F (Bw F) F.n (sr 0 q.1 q.2.1 q.2.2 ((lM.1++fh.1)++sd.1))))):=by kernel_rfl
def Bx:Any:=.one ⟨FW,mn,2,fun x=>su F0 x.1 x.2.1⟩
theorem Sk:bm 278 Bx:=aA yV ⟨kR,mL,Fq,trivial⟩ func278 yW (by kernel_rfl)
def OV:=[(123,iW),(276,iZ),(277,sq),(278,Bx)]
def yY (c:D1)(s:TF):=bF OV F ab f340 RZ mn 2 (c,s,())
theorem acM (c:D1)(s:TF):yY F c s=(jG F0 c s).bind fun r8=>br (!r8.1) (some ([],())) ((e8 F0 s.1).bind fun cj=>(e8 F0 s.2.1).bind fun oM=>ck (fg F cj.1.length oM.1.length 1) ((su F0 c s.2.2.1).bind fun gr=>ck (fg F (cj.1++oM.1).length gr.1.length 1) ((nY F0 s.2.2.2).bind fun Bl=>ck (fg F ((cj.1++oM.1)++gr.1).length Bl.1.length 1) (some (((cj.1++oM.1)++gr.1)++Bl.1,()))))):=by kernel_rfl
def JC:Any:=.one ⟨RZ,mn,2,fun x=>yY F0 x.1 x.2.1⟩
theorem acN:bm 340 JC:=aA OV ⟨mq,mL,Fq,Sk,trivial⟩ func340 ab (by kernel_rfl)
def OW:=[(276,iZ),(340,JC)]
def yZ (c:D1)(s:TF):=bF OW F ab f322 RZ mn 2 (c,s,())
theorem acO (c:D1)(s:TF):yZ F c s=(yY F0 c s).bind fun r9=>br ((r9.1.length:Int)==0) (some ([],())) ((e8 F0 (r9.1.length:Int)).bind fun oM=>ck (fg F oM.1.length r9.1.length 1) (ck (fg F (oM.1++r9.1).length [10].length 1) (some ((oM.1++r9.1)++[10],())))):=by kernel_rfl
def JD:Any:=.one ⟨RZ,mn,2,fun x=>yZ F0 x.1 x.2.1⟩
theorem acP:bm 322 JD:=aA OW ⟨mL,acN,trivial⟩ func322 ab (by kernel_rfl)
def YR:=[(104,mE),(126,oV)]
abbrev aCc:List (Ty×Bool):=[(K14,true),(.sl 5 (.int .u8),false)]
abbrev aCd:List (Ty×Bool):=[(K14,true),(.bool,false)]
def LK (d:D14)(b:List Int):=bF YR F ab f321 aCc aCd 2 (d,b,())
theorem am1 (d:D14)(b:List Int):LK F d b=(jr F0 d).bind fun r8=>ck (fg F r8.1.1.length b.length 1) ((nI F0 d).bind fun py=>br (!py.1) ((jr F0 d).bind fun sd=>some (sd.1,false,())) ((nI F0 (r8.1.1++b,r8.1.2)).bind fun dM=>br (!dM.1) ((jr F0 d).bind fun sd=>some (sd.1,false,())) (some ((r8.1.1++b,r8.1.2),true,())))):=by kernel_rfl
def Sl:Any:=.one ⟨aCc,aCd,2,fun x=>LK F0 x.1 x.2.1⟩
theorem am2:bm 321 Sl:=aA YR ⟨u5,yu,trivial⟩ func321 ab (by kernel_rfl)
def Sm:=[(102,mD),(123,iW),(320,LH),(321,Sl),(322,JD)]
def fp (c:D1)(r:bz)(s:TF):Option (bz×Bool×bz):=ap0 Tryz.prog (look Sm) F ab f283 [(K1,true),(db,true),(K12,true)] 1 (db,true) (.bool,false) (db,true) (c,r,s,())
theorem afA (c:D1)(r:bz)(s:TF):fp F c r s=(CN F0 r.2.2.2.1 s).bind fun cj=>br cj.1 (some (r,true,db.aG)) ((yZ F0 c s).bind fun DY=>(LK F0 r.2.2.2.2.2.2.1 DY.1).bind fun gv=>br (!gv.2.1) (some (db.aG,false,r)) ((jG F0 c s).bind fun Ou=>br (!Ou.1) (some (db.aG,false,r)) ((nW F0 s).bind fun r36=>some ((r.1,r.2.1,r.2.2.1,r36.1,r.2.2.2.2.1,r.2.2.2.2.2.1,gv.1,r.2.2.2.2.2.2.2),true,db.aG)))):=by kernel_rfl
def qg:Any:=.sel ⟨[(K1,true),(db,true),(K12,true)],1,(db,true),(.bool,false),(db,true),fun x=>fp F0 x.1 x.2.1 x.2.2.1⟩
theorem By:bm 283 qg:=ok4 (show x8 Tryz.prog TB Sm from⟨u1,mq,afz,am2,acP,trivial⟩) func283 (by kernel_rfl) (by kernel_rfl) ab (by kernel_rfl) (by kernel_rfl)
def mM:=[(171,Fo)]
def mN:Nat→Option Hint:=look [(3,{live:=[0,1,5,6],xl:=[1,5],rl:=[4]}),(7,{live:=[1,5,7],xl:=[5],rl:=[4]})]
def sw (b:List Int)(i:Int)(xs:List Int):= er 34 [(1,jO 3 (.int .i64) b),(5,.v (.c (.own 1000000 none))),(7,bR i)] [] [aB 1000000 3 (.int .i64) xs]
def LL (xs:List Int):= er 34 [(5,.v (.c (.own 1000000 none)))] [] [aB 1000000 3 (.int .i64) xs]
def y3 (st:St):Option α:=gW mM F mN [.r,.r,.r,.l,.r,.b,.i] f327 κ n st
def Bz:=jF mM F mN [.r,.r,.r,.l,.r,.b] f327 kp 2
def sx (a b:List Int)(i:Int)(xs:List Int):= er 34 [(0,jO 3 (.int .i64) a),(1,jO 3 (.int .i64) b),(5,.v (.c (.own 1000000 none))),(6,bR i)] [] [aB 1000000 3 (.int .i64) xs]
def LM (b xs:List Int):= er 34 [(1,jO 3 (.int .i64) b),(5,.v (.c (.own 1000000 none)))] [] [aB 1000000 3 (.int .i64) xs]
def y4 (st:St):Option α:=gW mM F mN [.r,.r,.l,.r,.b,.i] f327 κ n st
def BA:=jF mM F mN [.r,.r,.l,.r,.b] f327 kp 2
theorem Gc (b:List Int)(i:Int)(xs:List Int):y3 F κ (n+1) (sw b i xs)=br (decide (i<(b.length:Int))) (ck (cl i (b.length:Int)) ((xo F0 xs (aP b i 0)).bind fun Ha=>y3 F κ n (sw b (aj (i+1)) Ha.1))) (κ (.exit 2) (LL xs)):=by kernel_rfl
theorem Ge (a b:List Int)(i:Int)(xs:List Int):y4 F κ (n+1) (sx a b i xs)=br (decide (i<(a.length:Int))) (ck (cl i (a.length:Int)) ((xo F0 xs (aP a i 0)).bind fun DY=>y4 F κ n (sx a b (aj (i+1)) DY.1))) (κ (.exit 0) (LM b xs)):=by kernel_rfl
theorem aaC (xs:List Int):Bz F (.exit 2) (LL xs)=some (xs,()):=by kernel_rfl
theorem aaD (b xs:List Int):BA F (.exit 0) (LM b xs)=y3 F (Bz F) F.n (sw b 0 xs):=by kernel_rfl
def Hs (a b:List Int):=bF mM F mN f327 ajj kp 2 (a,b,())
theorem ajT (a b:List Int):Hs F a b=y4 F (BA F) F.n (sx a b 0 []):=by kernel_rfl
def OX:Any:=.one ⟨ajj,kp,2,fun x=>Hs F0 x.1 x.2.1⟩
theorem ajU:bm 327 OX:=aA mM ⟨U3,trivial⟩ func327 mN (by kernel_rfl)
def Sn:=[(327,OX)]
abbrev ah2:List (Ty×Bool):=[(K9,true),(.bool,false)]
def CR (a b:D9):=bF Sn F ab f290 xi ah2 2 (a,b,())
theorem afB (a b:D9):CR F a b=br (a.1 != b.1) (some ((0,al,[]),false,())) (br (!(a.2.1.toList==b.2.1.toList)) (some ((0,al,[]),false,())) ((Hs F0 a.2.2 b.2.2).bind fun Bl=>some ((a.1,a.2.1,Bl.1),true,()))):=by kernel_rfl
def LN:Any:=.one ⟨xi,ah2,2,fun x=>CR F0 x.1 x.2.1⟩
theorem afC:bm 290 LN:=aA Sn ⟨ajU,trivial⟩ func290 ab (by kernel_rfl)
def vu:=[(103,yF),(125,Bj),(164,jP),(183,oU),(184,wC),(290,LN)]
def vv:Nat→Option Hint:=look [(4,{live:=[1,3,5,8,9,10],xl:=[1,3,5,8,9],rl:=[6,7]})]
def ga (list:List D9)(put:Bool)(i c c1 p:Int)(p1:ByteArray)(p2:List Int)(xs:List D9):= er 74 [(1,jO 74 (K9) list),cS 3,cS 5,(8,.v (.c (.own 1000000 none))),(9,RP put),(10,bR i)] [(3,[aq c,aq c1]),(5,[aq p,.str p1,.ro false 3 (.int .i64) p2])] [aB 1000000 74 K9 xs]
def JE (list:List D9)(put:Bool)(c c1 p:Int)(p1:ByteArray)(p2:List Int)(xs:List D9):= er 74 [(1,jO 74 (K9) list),cS 3,cS 5,(8,.v (.c (.own 1000000 none))),(9,RP put)] [(3,[aq c,aq c1]),(5,[aq p,.str p1,.ro false 3 (.int .i64) p2])] [aB 1000000 74 K9 xs]
def ja (st:St):Option α:=gW vu F vv [.r,.r,.r,.l,.r,.b,.i] f240 κ n st
abbrev ash:List (Ty×Bool):=[(K13,false),(.bool,false)]
def y5:=jF vu F vv [.r,.r,.r,.l,.r,.b] f240 ash 2
theorem kX (list:List D9)(put:Bool)(i c c1 p:Int)(p1:ByteArray)(p2:List Int)(xs:List D9):ja F κ (n+1) (ga list put i c c1 p p1 p2 xs)=br (decide (i<(list.length:Int))) (ck (cl i (list.length:Int)) ((ia F0 (aP list i K9.aG)).bind fun XQ=>br (!put) ((qU F0 XQ.1 (p,p1,p2)).bind fun r31=>br (!r31.1) ((CR F0 XQ.1 (p,p1,p2)).bind fun Ff=>br Ff.2.1 (ck (fg F xs.length [Ff.1].length 48) (ja F κ n (ga list true (aj (i+1)) c c1 p p1 p2 (xs++[Ff.1])))) ((ia F0 (p,p1,p2)).bind fun px=>ck (fg F xs.length [px.1].length 48) (ck (fg F (xs++[px.1]).length [XQ.1].length 48) (ja F κ n (ga list true (aj (i+1)) c c1 p p1 p2 ((xs++[px.1])++[XQ.1])))))) (ck (fg F xs.length [XQ.1].length 48) (ja F κ n (ga list put (aj (i+1)) c c1 p p1 p2 (xs++[XQ.1]))))) (ck (fg F xs.length [XQ.1].length 48) (ja F κ n (ga list put (aj (i+1)) c c1 p p1 p2 (xs++[XQ.1])))))) (κ (.exit 0) (JE list put c c1 p p1 p2 xs)):=by kernel_rfl
theorem Gf (list:List D9)(put:Bool)(c c1 p:Int)(p1:ByteArray)(p2:List Int)(xs:List D9):y5 F (.exit 0) (JE list put c c1 p p1 p2 xs)=br (!put) ((ia F0 (p,p1,p2)).bind fun r58=>ck (fg F xs.length [r58.1].length 48) ((nT F0 (c,c1) (xs++[r58.1])).bind fun r63=>br (!r63.1) ((ib F0 list).bind fun r72=>some (r72.1,false,())) ((kS F0 (c,c1) (p,p1,p2)).bind fun YS=>br (!YS.1) ((ib F0 list).bind fun r72=>some (r72.1,false,())) (some (xs++[r58.1],true,()))))) ((nT F0 (c,c1) xs).bind fun r63=>br (!r63.1) ((ib F0 list).bind fun r72=>some (r72.1,false,())) ((kS F0 (c,c1) (p,p1,p2)).bind fun YS=>br (!YS.1) ((ib F0 list).bind fun r72=>some (r72.1,false,())) (some (xs,true,())))):=by kernel_rfl
abbrev aCe:List (Ty×Bool):=[(K1,true),(K13,false),(K9,true)]
def fP (c:D1)(list:D13)(p:D9):=bF vu F vv f240 aCe ash 2 (c,list,p,())
theorem afD (c:D1)(list:D13)(p:D9):fP F c list p=ja F (y5 F) F.n (ga list false 0 c.1 c.2 p.1 p.2.1 p.2.2 []):=by kernel_rfl
def kY:Any:=.one ⟨aCe,ash,2,fun x=>fP F0 x.1 x.2.1 x.2.2.1⟩
theorem sy:bm 240 kY:=aA vu ⟨OE,R2,oX,yp,Lj,afC,trivial⟩ func240 vv (by kernel_rfl)
def YT:=[(115,hU)]
def Ek (c:D1)(p:D9):=bF YT F ab f341 FW ah2 2 (c,p,())
theorem am3 (c:D1)(p:D9):Ek F c p=ck (fg F 0 p.2.2.length 8) (br (p.2.1.toList==al.toList) (some ((0,al,[]),false,())) ((kv F0 c (p.1,p.2.1,[]++p.2.2)).bind fun gr=>br (!gr.1) (some ((0,al,[]),false,())) (some ((p.1,p.2.1,[]++p.2.2),true,())))):=by kernel_rfl
def Sp:Any:=.one ⟨FW,ah2,2,fun x=>Ek F0 x.1 x.2.1⟩
theorem am4:bm 341 Sp:=aA YT ⟨kR,trivial⟩ func341 ab (by kernel_rfl)
def Vc:=[(72,cK),(127,j1),(165,Bq)]
abbrev aCf:List (Ty×Bool):=[(K1,true),(db,true),(.int .i64,false),(K21,true)]
def gb (c:D1)(r:bz)(tX:Int)(m:NA):=DX Vc F ab f241 aCf 1 (.own true) hZ [] 2 (c,r,tX,m,())
theorem ajV (c:D1)(r:bz)(tX:Int)(m:NA):gb F c r tX m=br (decide ((r.2.2.2.2.2.2.2.length:Int)≥30)) (some ((r,false,()),())) ((fV F0 c m).bind fun fh=>br (!fh.1) (some ((r,false,()),())) ((bZ F0 tX 0 (aj (c.1-1))).bind fun XQ=>br (!XQ.1) (some ((r,false,()),())) (br (tX==r.1) (some ((r,false,()),())) ((yG F0 m).bind fun Qs=>ck (fg F r.2.2.2.2.2.2.2.length [(tX,Qs.1)].length 224) (some (((r.1,r.2.1,r.2.2.1,r.2.2.2.1,r.2.2.2.2.1,r.2.2.2.2.2.1,r.2.2.2.2.2.2.1,r.2.2.2.2.2.2.2++[(tX,Qs.1)]),true,()),())))))):=by kernel_rfl
def mO:Any:=.two ⟨aCf,1,(.own true),hZ,2,[],fun x=>gb F0 x.1 x.2.1 x.2.2.1 x.2.2.2.1⟩
theorem vw:bm 241 mO:=azK Vc ⟨dh,pz,R9,trivial⟩ func241 ab (by kernel_rfl)
def YU:=[(60,iw),(106,jI),(241,mO),(280,Hr),(283,qg),(341,Sp)]
abbrev ah3:List (Ty×Bool):=[(K1,true),(db,true),(K9,true)]
def LO (c:D1)(r:bz)(p:D9):=DX YU F ab f323 ah3 1 (.own true) hZ [] 2 (c,r,p,())
theorem am5 (c:D1)(r:bz)(p:D9):LO F c r p=(Ek F0 c p).bind fun QO=>br (!QO.2.1) (some ((r,false,()),())) ((OS F0 c r.2.2.2.1 QO.1).bind fun r31=>(fp F0 c r r31.1).bind fun Ha=>br Ha.2.1 (br (decide ((aj (p.1+1))>60)) (some ((Ha.1,true,()),())) ((eD F0 Ha.1.2.1 (aj (p.1+1))).bind fun px=>(mH F0 c (aj (p.1+1))).bind fun r51=>br (r51.1==r.1) (some (((Ha.1.1,px.1,Ha.1.2.2),true,()),())) ((mH F0 c (aj (p.1+1))).bind fun Ix=>(gb F0 c (Ha.1.1,px.1,Ha.1.2.2) Ix.1 (3,aj (p.1+1),(al,0,al,[]),(0,al,[]),QO.1,r.1,0,0,0,0)).bind fun r67=>some ((r67.1.1,r67.1.2.1,()),())))) (some (((r.1,r.2.1,r.2.2.1,(r.2.2.2.1.1,r.2.2.2.1.2.1,(r.2.2.2.1.2.2.1.1,r.2.2.2.1.2.2.1.2.1,Ha.2.2.2.2.2.1.2.2.1.2.2),r.2.2.2.1.2.2.2),Ha.2.2.2.2.2.2.1,Ha.2.2.2.2.2.2.2.1,(Ha.2.2.2.2.2.2.2.2.1.1,r.2.2.2.2.2.2.1.2),Ha.2.2.2.2.2.2.2.2.2),false,()),()))):=by kernel_rfl
def Sq:Any:=.two ⟨ah3,1,(.own true),hZ,2,[],fun x=>LO F0 x.1 x.2.1 x.2.2.1⟩
theorem am6:bm 323 Sq:=azK YU ⟨lP,nX,vw,U9,By,am4,trivial⟩ func323 ab (by kernel_rfl)
def ah4:=[(35,de),(72,cK)]
abbrev OY:List (Ty×Bool):=[(K1,true),(.int .i64,false),(.int .i64,false)]
def Iy (c:D1)(view i:Int):=bF ah4 F ab f342 OY dD 1 (c,view,i,())
theorem auk (c:D1)(view i:Int):Iy F c view i=(eC F0 c).bind fun r8=>br (!r8.1) (some (-1,())) (br (decide (view<0)) (some (-1,())) ((bZ F0 i 0 (aj (c.1-1))).bind fun dM=>br (!dM.1) (some (-1,())) (ck (!(c.1==0)) (ck (!(c.1==0)) (some (Int.tmod (aj ((aj (i+c.1))-(Int.tmod view c.1))) c.1,())))))):=by kernel_rfl
def CS:Any:=.one ⟨OY,dD,1,fun x=>Iy F0 x.1 x.2.1 x.2.2.1⟩
theorem QS:bm 342 CS:=aA ah4 ⟨dV,dh,trivial⟩ func342 ab (by kernel_rfl)
def ah5:=[(35,de),(72,cK)]
def W4 (c:D1)(view am7:Int):=bF ah5 F ab f345 OY dD 1 (c,view,am7,())
theorem aul (c:D1)(view am7:Int):W4 F c view am7=(eC F0 c).bind fun r8=>br (!r8.1) (some (-1,())) (br (decide (view<0)) (some (-1,())) ((bZ F0 am7 0 (aj (c.1-1))).bind fun dM=>br (!dM.1) (some (-1,())) (ck (!(c.1==0)) (ck (!(c.1==0)) (some (Int.tmod (aj ((Int.tmod view c.1)+am7)) c.1,())))))):=by kernel_rfl
def YV:Any:=.one ⟨OY,dD,1,fun x=>W4 F0 x.1 x.2.1 x.2.2.1⟩
theorem aum:bm 345 YV:=aA ah5 ⟨dV,dh,trivial⟩ func345 ab (by kernel_rfl)
def asi:=[(342,CS),(345,YV)]
def W5 (c:D1)(view i:Int):=bF asi F ab f326 OY dD 1 (c,view,i,())
theorem azL (c:D1)(view i:Int):W5 F c view i=(Iy F0 c view i).bind fun dA=>br (decide (dA.1≤0)) (some (-1,())) (ck (!(c.2==0)) ((W4 F0 c view (aj (Int.tdiv (aj (dA.1-1)) c.2))).bind fun gv=>some (gv.1,()))):=by kernel_rfl
def Vd:Any:=.one ⟨OY,dD,1,fun x=>W5 F0 x.1 x.2.1 x.2.2.1⟩
theorem am8:bm 326 Vd:=aA asi ⟨QS,aum,trivial⟩ func326 ab (by kernel_rfl)
def QT:=[(326,Vd),(342,CS)]
def QU:Nat→Option Hint:=look [(2,{live:=[1,2,3,7],xl:=[7],rl:=[6]})]
def Ht (view i c c1:Int)(xs:List Int):= er 23 [(1,bR view),(2,bR i),cS 3,(7,.v (.c (.own 1000000 none)))] [(3,[aq c,aq c1])] [aB 1000000 3 (.int .i64) xs]
def NC (xs:List Int):= er 23 [(7,.v (.c (.own 1000000 none)))] [] [aB 1000000 3 (.int .i64) xs]
def QV (st:St):Option α:=gW QT F QU [.r,.r,.l,.b,.i] f343 κ n st
def acQ:=jF QT F QU [.r,.r,.l,.b] f343 kp 2
theorem Sr (view i c c1:Int)(xs:List Int):QV F κ (n+1) (Ht view i c c1 xs)=(Iy F0 (c,c1) view i).bind fun cN=>br (decide (cN.1≥0)) (ck (fg F xs.length [i].length 8) ((W5 F0 (c,c1) view i).bind fun gv=>QV F κ n (Ht view gv.1 c c1 (xs++[i])))) (κ (.exit 0) (NC xs)):=by kernel_rfl
theorem am9 (xs:List Int):acQ F (.exit 0) (NC xs)=some (xs,()):=by kernel_rfl
def acR (c:D1)(view i:Int):=bF QT F QU f343 OY kp 2 (c,view,i,())
theorem awZ (c:D1)(view i:Int):acR F c view i=QV F (acQ F) F.n (Ht view i c.1 c.2 []):=by kernel_rfl
def acS:Any:=.one ⟨OY,kp,2,fun x=>acR F0 x.1 x.2.1 x.2.2.1⟩
theorem aw0:bm 343 acS:=aA QT ⟨am8,QS,trivial⟩ func343 QU (by kernel_rfl)
def Hu:=[(35,de),(62,dw),(342,CS),(343,acS)]
def Hv:Nat→Option Hint:=look [(5,{live:=[1,2,3,7,8],xl:=[7],rl:=[6]})]
def ra (view i k c c1:Int)(xs:List Int):= er 38 [(1,bR view),(2,bR i),cS 3,(7,.v (.c (.own 1000000 none))),(8,bR k)] [(3,[aq c,aq c1])] [aB 1000000 3 (.int .i64) xs]
def Fs (xs:List Int):= er 38 [(7,.v (.c (.own 1000000 none)))] [] [aB 1000000 3 (.int .i64) xs]
def y6 (st:St):Option α:=gW Hu F Hv [.r,.r,.r,.l,.r,.b,.i] f324 κ n st
def JF:=jF Hu F Hv [.r,.r,.r,.l,.r,.b] f324 kp 2
theorem y7 (view i k c c1:Int)(xs:List Int):y6 F κ (n+1) (ra view i k c c1 xs)=br (decide (k<c)) ((Iy F0 (c,c1) view i).bind fun gr=>br (decide (gr.1≥0)) ((acR F0 (c,c1) view k).bind fun Fj=>(dG F0 Fj.1 i).bind fun Ha=>br Ha.1 (ck (fg F xs.length [k].length 8) (y6 F κ n (ra view i (aj (k+1)) c c1 (xs++[k])))) (y6 F κ n (ra view i (aj (k+1)) c c1 xs))) (κ (.exit 0) (Fs xs))) (κ (.exit 0) (Fs xs)):=by kernel_rfl
theorem OZ (xs:List Int):JF F (.exit 0) (Fs xs)=some (xs,()):=by kernel_rfl
def QW (c:D1)(view i:Int):=bF Hu F Hv f324 OY kp 2 (c,view,i,())
theorem aqx (c:D1)(view i:Int):QW F c view i=(eC F0 c).bind fun dA=>br (!dA.1) (some ([],())) (y6 F (JF F) F.n (ra view i 0 c.1 c.2 [])):=by kernel_rfl
def Ve:Any:=.one ⟨OY,kp,2,fun x=>QW F0 x.1 x.2.1 x.2.2.1⟩
theorem aqy:bm 324 Ve:=aA Hu ⟨dV,eE,QS,aw0,trivial⟩ func324 Hv (by kernel_rfl)
def aaE (on:Bool):=bF aF F ab f344 aZ dD 1 (on,())
theorem aqz (on:Bool):aaE F on=br on (some (1,())) (some (0,())):=by kernel_rfl
def Vf:Any:=.one ⟨aZ,dD,1,fun x=>aaE F0 x.1⟩
theorem aqA:bm 344 Vf:=aA aF trivial func344 ab (by kernel_rfl)
def CT:=[(62,dw),(344,Vf)]
def CU:Nat→Option Hint:=look [(3,{live:=[0,1,5,6],xl:=[5],rl:=[4]})]
def vx (a b:List Int)(n1 i:Int):= cV 23 [(0,jO 3 (.int .i64) a),(1,jO 3 (.int .i64) b),(5,bR n1),(6,bR i)]
def O0 (n1:Int):= cV 23 [(5,bR n1)]
def CW (st:St):Option α:=gW CT F CU [.r,.r,.l,.r,.b,.i] f325 κ n st
def Ft:=jF CT F CU [.r,.r,.l,.r,.b] f325 dD 1
theorem JG (a b:List Int)(n1 i:Int):CW F κ (n+1) (vx a b n1 i)=br (decide (i<(a.length:Int))) (ck (cl i (a.length:Int)) ((dG F0 b (aP a i 0)).bind fun dM=>(aaE F0 dM.1).bind fun DY=>CW F κ n (vx a b (aj (n1+DY.1)) (aj (i+1))))) (κ (.exit 0) (O0 n1)):=by kernel_rfl
theorem acT (n1:Int):Ft F (.exit 0) (O0 n1)=some (n1,()):=by kernel_rfl
def LP (a b:List Int):=bF CT F CU f325 ajj dD 1 (a,b,())
theorem ana (a b:List Int):LP F a b=CW F (Ft F) F.n (vx a b 0 0):=by kernel_rfl
def Ss:Any:=.one ⟨ajj,dD,1,fun x=>LP F0 x.1 x.2.1⟩
theorem anb:bm 325 Ss:=aA CT ⟨eE,aqA,trivial⟩ func325 CU (by kernel_rfl)
def Su:=[(106,jI),(107,p8),(241,mO),(323,Sq),(324,Ve),(325,Ss),(326,Vd)]
abbrev asj:List (Ty×Bool):=[(K1,true),(db,true),(.int .i64,false),(.str,false),(.bool,false)]
def pE (c:D1)(r:bz)(view:Int)(name:ByteArray)(push:Bool):=DX Su F ab f287 asj 1 (.own true) hZ [] 2 (c,r,view,name,push,())
theorem afE (c:D1)(r:bz)(view:Int)(name:ByteArray)(push:Bool):pE F c r view name push=(pA F0 r.2.2.2.2.2.1 view name).bind fun gr=>br ((gr.1.2.2.length:Int)==0) (some ((r,false,()),())) (br (name.toList==al.toList) (some ((r,false,()),())) ((mH F0 c view).bind fun qT=>br (qT.1==r.1) ((LO F0 c r gr.1).bind fun r42=>some ((r42.1.1,r42.1.2.1,()),())) ((QW F0 c view r.1).bind fun r51=>br (!push) ((LP F0 r51.1 gr.1.2.2).bind fun r58=>br (decide (r58.1<(r51.1.length:Int))) (some ((r,false,()),())) ((W5 F0 c view r.1).bind fun r71=>(gb F0 c r r71.1 (2,0,(al,0,al,[]),gr.1,(0,al,[]),0,0,0,0,0)).bind fun r74=>some ((r74.1.1,r74.1.2.1,()),()))) ((W5 F0 c view r.1).bind fun r71=>(gb F0 c r r71.1 (2,0,(al,0,al,[]),gr.1,(0,al,[]),0,0,0,0,0)).bind fun r74=>some ((r74.1.1,r74.1.2.1,()),()))))):=by kernel_rfl
def qh:Any:=.two ⟨asj,1,(.own true),hZ,2,[],fun x=>pE F0 x.1 x.2.1 x.2.2.1 x.2.2.2.1 x.2.2.2.2.1⟩
theorem BB:bm 287 qh:=azK Su ⟨nX,Bu,vw,am6,aqy,anb,am8,trivial⟩ func287 ab (by kernel_rfl)
def YW:=[(58,cq),(78,dW),(240,kY),(287,qh)]
abbrev aFZ:List (Ty×Bool):=[(K1,true),(db,true),(.str,false)]
def nJ (c:D1)(r:bz)(name:ByteArray):=DX YW F ab f284 aFZ 1 (.own true) hZ [] 2 (c,r,name,())
theorem ane (c:D1)(r:bz)(name:ByteArray):nJ F c r name=(ea F0 name).bind fun fh=>(fP F0 c r.2.2.2.2.2.1 (fh.1,name,[r.1])).bind fun sd=>br (!sd.2.1) (some ((r,false,()),())) ((bh F0 (r.1,r.2.1,r.2.2.1,r.2.2.2.1,r.2.2.2.2.1,sd.1,r.2.2.2.2.2.2)).bind fun qT=>(ea F0 name).bind fun r36=>(pE F0 c qT.1 r36.1 name false).bind fun TP=>br TP.1.2.1 (some ((TP.1.1,true,()),())) (some (((r.1,r.2.1,r.2.2.1,r.2.2.2.1,r.2.2.2.2.1,sd.1,r.2.2.2.2.2.2),true,()),()))):=by kernel_rfl
def Sv:Any:=.two ⟨aFZ,1,(.own true),hZ,2,[],fun x=>nJ F0 x.1 x.2.1 x.2.2.1⟩
theorem anf:bm 284 Sv:=azK YW ⟨cY,fo,sy,BB,trivial⟩ func284 ab (by kernel_rfl)
def O1:=[(58,cq),(73,c7),(78,dW),(169,mv),(280,Hr),(281,Bv),(282,YQ),(283,qg),(284,Sv)]
abbrev aCg:List (Ty×Bool):=[(K1,true),(db,true),(K15,true)]
def rb (c:D1)(r:bz)(b:D15):=bF O1 F ab f235 aCg hZ 2 (c,r,b,())
theorem acU (c:D1)(r:bz)(b:D15):rb F c r b=(bh F0 r).bind fun fh=>(ec F0 c r).bind fun DY=>br (!DY.1) (some (fh.1,false,())) ((nU F0 c b).bind fun XQ=>br (!XQ.1) (some (fh.1,false,())) ((bh F0 r).bind fun Fj=>(OS F0 c r.2.2.2.1 b.2).bind fun r36=>(ea F0 b.1).bind fun Qs=>br (decide (Qs.1≥r.2.1)) ((yU F0 c r36.1 b).bind fun r48=>br (decide (Qs.1≥r.2.1)) (br r48.1 ((OT F0 c r36.1 b).bind fun Ix=>(fp F0 c (Fj.1.1,Qs.1,Fj.1.2.2) Ix.1).bind fun YS=>br YS.2.1 (br r48.1 ((nJ F0 c YS.1 b.1).bind fun r80=>br (!r80.1.2.1) (some (fh.1,false,())) (some (r80.1.1,true,()))) (some (YS.1,true,()))) (some (fh.1,false,()))) ((fp F0 c (Fj.1.1,Qs.1,Fj.1.2.2) r36.1).bind fun YS=>br YS.2.1 (br r48.1 ((nJ F0 c YS.1 b.1).bind fun r80=>br (!r80.1.2.1) (some (fh.1,false,())) (some (r80.1.1,true,()))) (some (YS.1,true,()))) (some (fh.1,false,())))) (br r48.1 ((OT F0 c r36.1 b).bind fun Ix=>(fp F0 c Fj.1 Ix.1).bind fun YS=>br YS.2.1 (br r48.1 ((nJ F0 c YS.1 b.1).bind fun r80=>br (!r80.1.2.1) (some (fh.1,false,())) (some (r80.1.1,true,()))) (some (YS.1,true,()))) (some (fh.1,false,()))) ((fp F0 c Fj.1 r36.1).bind fun YS=>br YS.2.1 (br r48.1 ((nJ F0 c YS.1 b.1).bind fun r80=>br (!r80.1.2.1) (some (fh.1,false,())) (some (r80.1.1,true,()))) (some (YS.1,true,()))) (some (fh.1,false,()))))) (br (decide (Qs.1≥r.2.1)) ((fp F0 c (Fj.1.1,Qs.1,Fj.1.2.2) r36.1).bind fun YS=>br YS.2.1 (some (YS.1,true,())) (some (fh.1,false,()))) ((fp F0 c Fj.1 r36.1).bind fun YS=>br YS.2.1 (some (YS.1,true,())) (some (fh.1,false,())))))):=by kernel_rfl
def wH:Any:=.one ⟨aCg,hZ,2,fun x=>rb F0 x.1 x.2.1 x.2.2.1⟩
theorem LQ:bm 235 wH:=aA O1 ⟨cY,dB,fo,uS,U9,Si,auj,By,anf,trivial⟩ func235 ab (by kernel_rfl)
def Sw:=[(58,cq),(73,c7),(183,oU),(240,kY),(287,qh)]
def CX (c:D1)(r:bz)(p:D9):=bF Sw F ab f272 ah3 hZ 2 (c,r,p,())
theorem afF (c:D1)(r:bz)(p:D9):CX F c r p=(bh F0 r).bind fun py=>(ec F0 c r).bind fun QO=>br (!QO.1) (some (py.1,false,())) ((kS F0 c p).bind fun sd=>br (!sd.1) (some (py.1,false,())) (br (p.2.1.toList==al.toList) (some (py.1,false,())) (br (decide (p.1<r.2.1)) (some (py.1,false,())) ((bh F0 r).bind fun xm=>(fP F0 c r.2.2.2.2.2.1 p).bind fun Qu=>br (!Qu.2.1) (some (py.1,false,())) ((bh F0 (xm.1.1,xm.1.2.1,xm.1.2.2.1,xm.1.2.2.2.1,xm.1.2.2.2.2.1,Qu.1,xm.1.2.2.2.2.2.2)).bind fun r57=>(pE F0 c r57.1 p.1 p.2.1 false).bind fun r62=>br r62.1.2.1 (some (r62.1.1,true,())) (some ((xm.1.1,xm.1.2.1,xm.1.2.2.1,xm.1.2.2.2.1,xm.1.2.2.2.2.1,Qu.1,xm.1.2.2.2.2.2.2),true,()))))))):=by kernel_rfl
def LR:Any:=.one ⟨ah3,hZ,2,fun x=>CX F0 x.1 x.2.1 x.2.2.1⟩
theorem afG:bm 272 LR:=aA Sw ⟨cY,dB,yp,sy,BB,trivial⟩ func272 ab (by kernel_rfl)
def Sx:=[(58,cq),(60,iw),(65,j3),(72,cK),(73,c7),(106,jI),(107,p8),(108,uN),(115,hU),(240,kY),(280,Hr),(283,qg)]
abbrev aCh:List (Ty×Bool):=[(K1,true),(db,true),(.int .i64,false),(K9,true),(.int .i64,false)]
def CY (c:D1)(r:bz)(view:Int)(q:D9)(dm:Int):=bF Sx F ab f273 aCh hZ 2 (c,r,view,q,dm,())
theorem afH (c:D1)(r:bz)(view:Int)(q:D9)(dm:Int):CY F c r view q dm=(bh F0 r).bind fun QO=>(ec F0 c r).bind fun gv=>br (!gv.1) (some (QO.1,false,())) ((bZ F0 view 1 60).bind fun XQ=>br (!XQ.1) (some (QO.1,false,())) ((kv F0 c q).bind fun r31=>br (!r31.1) (some (QO.1,false,())) ((bZ F0 dm 0 (aj (c.1-1))).bind fun Qs=>br (!Qs.1) (some (QO.1,false,())) ((bh F0 r).bind fun Qu=>(OS F0 c r.2.2.2.1 q).bind fun r51=>(fp F0 c Qu.1 r51.1).bind fun r52=>br r52.2.1 ((mH F0 c view).bind fun r60=>br (r60.1==r.1) (br (decide (view≥r.2.1)) ((fP F0 c r52.1.2.2.2.2.2.1 (view,al,[dm])).bind fun Iz=>br (!Iz.2.1) (some (QO.1,false,())) ((pA F0 Iz.1 view al).bind fun r88=>(xh F0 c).bind fun r92=>br (decide ((r88.1.2.2.length:Int)≥r92.1)) ((eD F0 r52.1.2.1 view).bind fun r97=>(bV F0 (aj (q.1+1)) 60).bind fun aqB=>(eD F0 r97.1 aqB.1).bind fun afI=>some ((r52.1.1,afI.1,r52.1.2.2.1,r52.1.2.2.2.1,r52.1.2.2.2.2.1,Iz.1,r52.1.2.2.2.2.2.2),true,())) ((bV F0 (aj (q.1+1)) 60).bind fun aqB=>(eD F0 r52.1.2.1 aqB.1).bind fun afI=>some ((r52.1.1,afI.1,r52.1.2.2.1,r52.1.2.2.2.1,r52.1.2.2.2.2.1,Iz.1,r52.1.2.2.2.2.2.2),true,())))) ((bV F0 (aj (q.1+1)) 60).bind fun aqB=>(eD F0 r52.1.2.1 aqB.1).bind fun afI=>some ((r52.1.1,afI.1,r52.1.2.2),true,()))) ((bV F0 (aj (q.1+1)) 60).bind fun aqB=>(eD F0 r52.1.2.1 aqB.1).bind fun afI=>some ((r52.1.1,afI.1,r52.1.2.2),true,()))) (some (QO.1,false,())))))):=by kernel_rfl
def LS:Any:=.one ⟨aCh,hZ,2,fun x=>CY F0 x.1 x.2.1 x.2.2.1 x.2.2.2.1 x.2.2.2.2.1⟩
theorem afJ:bm 273 LS:=aA Sx ⟨cY,lP,pD,dh,dB,nX,Bu,Jc,kR,sy,U9,By,trivial⟩ func273 ab (by kernel_rfl)
def y8:=[(124,Fc),(182,yo)]
def y9:Nat→Option Hint:=look [(2,{live:=[0,3,6],xl:=[0,3,6],rl:=[4,5]})]
def sA (p:List D4)(iN x x1 x2 x3:Int):= er 43 [(0,jO 76 (K4) p),cS 3,(6,bR iN)] [(3,[aq x,aq x1,aq x2,aq x3])] []
def qi (p:List D4)(iN x x1 x2 x3:Int):= er 43 [(0,jO 76 (K4) p),cS 3,(6,bR iN)] [(3,[aq x,aq x1,aq x2,aq x3])] []
def za (st:St):Option α:=gW y8 F y9 [.r,.r,.l,.b,.i] f316 κ n st
def sB:=jF y8 F y9 [.r,.r,.l,.b] f316 UG 2
theorem Gg (p:List D4)(iN x x1 x2 x3:Int):za F κ (n+1) (sA p iN x x1 x2 x3)=br (decide (iN<(p.length:Int))) (ck (cl iN (p.length:Int)) ((ud F0 (aP p iN K4.aG) (x,x1,x2,x3)).bind fun QO=>br QO.1 (za F κ n (sA p (aj (iN+1)) x x1 x2 x3)) (κ (.exit 0) (qi p iN x x1 x2 x3)))) (κ (.exit 0) (qi p iN x x1 x2 x3)):=by kernel_rfl
theorem aaF (p:List D4)(iN x x1 x2 x3:Int):sB F (.exit 0) (qi p iN x x1 x2 x3)=ck (RN 0 iN (p.length:Int)) (ck (fg F 0 ((p.take iN.toNat).drop (0:Int).toNat).length 32) (ck (fg F ([]++((p.take iN.toNat).drop (0:Int).toNat)).length [(x,x1,x2,x3)].length 32) (ck (RN iN (p.length:Int) (p.length:Int)) (ck (fg F (([]++((p.take iN.toNat).drop (0:Int).toNat))++[(x,x1,x2,x3)]).length ((p.take (p.length:Int).toNat).drop iN.toNat).length 32) ((DZ F0 ((([]++((p.take iN.toNat).drop (0:Int).toNat))++[(x,x1,x2,x3)])++((p.take (p.length:Int).toNat).drop iN.toNat))).bind fun Ff=>br (!Ff.1) (ck (fg F 0 p.length 32) (some ([]++p,false,()))) (some ((([]++((p.take iN.toNat).drop (0:Int).toNat))++[(x,x1,x2,x3)])++((p.take (p.length:Int).toNat).drop iN.toNat),true,()))))))):=by kernel_rfl
abbrev aCi:List (Ty×Bool):=[(K5,false),(K4,true)]
def Hw (p:D5)(x:D4):=bF y8 F y9 f316 aCi UG 2 (p,x,())
theorem ajW (p:D5)(x:D4):Hw F p x=za F (sB F) F.n (sA p 0 x.1 x.2.1 x.2.2.1 x.2.2.2):=by kernel_rfl
def O2:Any:=.one ⟨aCi,UG,2,fun x=>Hw F0 x.1 x.2.1⟩
theorem ajX:bm 316 O2:=aA y8 ⟨UI,Oq,trivial⟩ func316 y9 (by kernel_rfl)
def YX:=[(58,cq),(73,c7),(316,O2)]
abbrev aCj:List (Ty×Bool):=[(K1,true),(db,true),(K4,true)]
def LU (c:D1)(r:bz)(x:D4):=bF YX F ab f274 aCj hZ 2 (c,r,x,())
theorem ang (c:D1)(r:bz)(x:D4):LU F c r x=(bh F0 r).bind fun cN=>(ec F0 c r).bind fun py=>br (!py.1) (some (cN.1,false,())) ((Hw F0 r.2.2.2.2.1 x).bind fun gr=>br gr.2.1 (some ((cN.1.1,cN.1.2.1,cN.1.2.2.1,cN.1.2.2.2.1,gr.1,cN.1.2.2.2.2.2),gr.2.1,())) (some (cN.1,gr.2.1,()))):=by kernel_rfl
def Sy:Any:=.one ⟨aCj,hZ,2,fun x=>LU F0 x.1 x.2.1 x.2.2.1⟩
theorem anh:bm 274 Sy:=aA YX ⟨cY,dB,ajX,trivial⟩ func274 ab (by kernel_rfl)
def Vg:=[(235,wH),(272,LR),(273,LS),(274,Sy)]
abbrev YY:List (Ty×Bool):=[(K1,true),(db,true),(K21,true)]
def Hy (c:D1)(r:bz)(m:NA):=bF Vg F ab f228 YY hZ 2 (c,r,m,())
theorem ajY (c:D1)(r:bz)(m:NA):Hy F c r m=br (m.1==1) ((rb F0 c r m.2.2.1).bind fun XQ=>some (XQ.1,XQ.2.1,())) (br (m.1==2) ((CX F0 c r m.2.2.2.1).bind fun Ff=>some (Ff.1,Ff.2.1,())) (br (m.1==3) ((CY F0 c r m.2.1 m.2.2.2.2.1 m.2.2.2.2.2.1).bind fun Yt=>some (Yt.1,Yt.2.1,())) ((LU F0 c r m.2.2.2.2.2.2).bind fun r63=>some (r63.1,r63.2.1,())))):=by kernel_rfl
def O3:Any:=.one ⟨YY,hZ,2,fun x=>Hy F0 x.1 x.2.1 x.2.2.1⟩
theorem ajZ:bm 228 O3:=aA Vg ⟨LQ,afG,afJ,anh,trivial⟩ func228 ab (by kernel_rfl)
def sC:=[(164,jP)]
def sD:Nat→Option Hint:=look [(3,{live:=[0,1,5,6],xl:=[5],rl:=[4]})]
def j4 (list:List D9)(view i:Int)(xs:List D9):= er 30 [(0,jO 74 (K9) list),(1,bR view),(5,.v (.c (.own 1000000 none))),(6,bR i)] [] [aB 1000000 74 K9 xs]
def Gi (xs:List D9):= er 30 [(5,.v (.c (.own 1000000 none)))] [] [aB 1000000 74 K9 xs]
def mP (st:St):Option α:=gW sC F sD [.r,.r,.l,.r,.b,.i] f229 κ n st
def wI:=jF sC F sD [.r,.r,.l,.r,.b] f229 F3 2
theorem AR (list:List D9)(view i:Int)(xs:List D9):mP F κ (n+1) (j4 list view i xs)=br (decide (i<(list.length:Int))) (ck (cl i (list.length:Int)) (br (decide ((aP list i K9.aG).1≥view)) (ck (cl i (list.length:Int)) ((ia F0 (aP list i K9.aG)).bind fun xg=>ck (fg F xs.length [xg.1].length 48) (mP F κ n (j4 list view (aj (i+1)) (xs++[xg.1]))))) (mP F κ n (j4 list view (aj (i+1)) xs)))) (κ (.exit 0) (Gi xs)):=by kernel_rfl
theorem Vh (xs:List D9):wI F (.exit 0) (Gi xs)=some (xs,()):=by kernel_rfl
abbrev aCk:List (Ty×Bool):=[(K13,false),(.int .i64,false)]
def zb (list:D13)(view:Int):=bF sC F sD f229 aCk F3 2 (list,view,())
theorem acV (list:D13)(view:Int):zb F list view=mP F (wI F) F.n (j4 list view 0 []):=by kernel_rfl
def JH:Any:=.one ⟨aCk,F3,2,fun x=>zb F0 x.1 x.2.1⟩
theorem acW:bm 229 JH:=aA sC ⟨oX,trivial⟩ func229 sD (by kernel_rfl)
def acX:=[(73,c7),(109,Fl),(110,wE),(111,Jr)]
def JI (c:D1)(r:bz):=bF acX F ab f231 xK p9 2 (c,r,())
theorem aqC (c:D1)(r:bz):JI F c r=(ec F0 c r).bind fun r9=>br (!r9.1) (some (([],[]),())) ((mI F0).bind fun cj=>(wF F0 r.2.2.2.1.2.2.2).bind fun fh=>(xn F0 cj.1 fh.1).bind fun QO=>some (QO.1,())):=by kernel_rfl
def Vi:Any:=.one ⟨xK,p9,2,fun x=>JI F0 x.1 x.2.1⟩
theorem aqD:bm 231 Vi:=aA acX ⟨dB,UZ,LB,YN,trivial⟩ func231 ab (by kernel_rfl)
end
end Go.Am.Tryz
namespace Go.Am.Tryz
open Go.Am Go.Proofs Go.Proofs.Tryz
noncomputable section
variable {α:Type} (F:rQ) (κ:Ex→St→Option α) (n:Nat)
def vy:=[(167,Hl)]
def vz:Nat→Option Hint:=look [(3,{live:=[0,3,5,6],xl:=[5],rl:=[4]})]
def kZ (p:List D4)(i:Int)(l l1:List Int)(xs:List D4):= er 35 [(0,jO 76 (K4) p),cS 3,(5,.v (.c (.own 1000000 none))),(6,bR i)] [(3,[.ro false 3 (.int .i64) l,.ro false 3 (.int .i64) l1])] [aB 1000000 76 K4 xs]
def JJ (xs:List D4):= er 35 [(5,.v (.c (.own 1000000 none)))] [] [aB 1000000 76 K4 xs]
def oZ (st:St):Option α:=gW vy F vz [.r,.r,.l,.r,.b,.i] f230 κ n st
def zc:=jF vy F vz [.r,.r,.l,.r,.b] f230 kl 2
theorem El (p:List D4)(i:Int)(l l1:List Int)(xs:List D4):oZ F κ (n+1) (kZ p i l l1 xs)=br (decide (i<(p.length:Int))) (ck (cl i (p.length:Int)) ((Jv F0 (l,l1) (aP p i K4.aG)).bind fun gr=>br (gr.2.1 != 2) (ck (cl i (p.length:Int)) (ck (fg F xs.length [(aP p i K4.aG)].length 32) (oZ F κ n (kZ p (aj (i+1)) l l1 (xs++[(aP p i K4.aG)]))))) (oZ F κ n (kZ p (aj (i+1)) l l1 xs)))) (κ (.exit 0) (JJ xs)):=by kernel_rfl
theorem XR (xs:List D4):zc F (.exit 0) (JJ xs)=some (xs,()):=by kernel_rfl
def CZ (p:D5)(l:D43):=bF vy F vz f230 ahW kl 2 (p,l,())
theorem afK (p:D5)(l:D43):CZ F p l=oZ F (zc F) F.n (kZ p 0 l.1 l.2 []):=by kernel_rfl
def LV:Any:=.one ⟨ahW,kl,2,fun x=>CZ F0 x.1 x.2.1⟩
theorem afL:bm 230 LV:=aA vy ⟨UY,trivial⟩ func230 vz (by kernel_rfl)
def ah6:=[(58,cq),(73,c7),(127,j1),(228,O3),(229,JH),(230,LV),(231,Vi)]
def O4 (c:D1)(r:bz)(m:NA):=bF ah6 F ab f172 YY hZ 2 (c,r,m,())
theorem aun (c:D1)(r:bz)(m:NA):O4 F c r m=(ec F0 c r).bind fun cN=>br (!cN.1) ((bh F0 r).bind fun gv=>some (gv.1,false,())) ((fV F0 c m).bind fun fh=>br (!fh.1) ((bh F0 r).bind fun gv=>some (gv.1,false,())) ((Hy F0 c r m).bind fun xg=>br (!xg.2.1) ((bh F0 r).bind fun Ha=>some (Ha.1,false,())) ((zb F0 xg.1.2.2.2.2.2.1 (aj (xg.1.2.1-1))).bind fun TP=>(JI F0 c (xg.1.1,xg.1.2.1,xg.1.2.2.1,xg.1.2.2.2.1,xg.1.2.2.2.2.1,TP.1,xg.1.2.2.2.2.2.2)).bind fun r44=>(CZ F0 xg.1.2.2.2.2.1 r44.1).bind fun r45=>some ((xg.1.1,xg.1.2.1,xg.1.2.2.1,xg.1.2.2.2.1,r45.1,TP.1,xg.1.2.2.2.2.2.2),true,())))):=by kernel_rfl
def ND:Any:=.one ⟨YY,hZ,2,fun x=>O4 F0 x.1 x.2.1 x.2.2.1⟩
theorem acY:bm 172 ND:=aA ah6 ⟨cY,dB,pz,ajZ,acW,afL,aqD,trivial⟩ func172 ab (by kernel_rfl)
def YZ:=[(62,dw),(72,cK),(76,Jm),(172,ND)]
def xr (w:pt)(d:D45):Option (pt×Int×pt):=ap0 Tryz.prog (look YZ) F ab f118 [(iM,true),(K45,true)] 0 (iM,true) (.int .i64,false) (iM,true) (w,d,())
theorem ani (w:pt)(d:D45):xr F w d=(bZ F0 d.2.1 0 (aj ((w.2.2.2.1.length:Int)-1))).bind fun fh=>br (!fh.1) (some (iM.aG,2,w)) (ck (cl d.2.1 (w.2.2.2.1.length:Int)) (br (d.1==5) (br (decide ((w.2.2.2.1.length:Int)≥60)) (some (iM.aG,4,w)) (ck (fg F 0 (aP w.2.2.2.1 d.2.1 (0,[])).2.length 1) (ck (fg F w.2.2.2.1.length [((aP w.2.2.2.1 d.2.1 (0,[])).1,[]++(aP w.2.2.2.1 d.2.1 (0,[])).2)].length 32) (some ((w.1,w.2.1,w.2.2.1,w.2.2.2.1++[((aP w.2.2.2.1 d.2.1 (0,[])).1,[]++(aP w.2.2.2.1 d.2.1 (0,[])).2)],w.2.2.2.2),0,iM.aG))))) (ck (okT d.2.1 (w.2.2.2.1.length:Int)) (ck (RN (aj (d.2.1+1)) (w.2.2.2.1.length:Int) (w.2.2.2.1.length:Int)) (ck (fg F 0 (w.2.2.2.1.take d.2.1.toNat).length 32) (ck (fg F ([]++(w.2.2.2.1.take d.2.1.toNat)).length ((w.2.2.2.1.take (w.2.2.2.1.length:Int).toNat).drop (aj (d.2.1+1)).toNat).length 32) (br (d.1==3) ((dG F0 w.2.1 (aP w.2.2.2.1 d.2.1 (0,[])).1).bind fun r70=>br (!r70.1) ((Jl F0 w.1 (aP w.2.2.2.1 d.2.1 (0,[])).2).bind fun Iz=>ck (cl (aP w.2.2.2.1 d.2.1 (0,[])).1 (w.2.2.1.length:Int)) ((O4 F0 w.1 (aP w.2.2.1 (aP w.2.2.2.1 d.2.1 (0,[])).1 db.aG) Iz.1).bind fun r91=>br r91.2.1 (ck (cl (aP w.2.2.2.1 d.2.1 (0,[])).1 (w.2.2.1.length:Int)) (some ((w.1,w.2.1,w.2.2.1.set (aP w.2.2.2.1 d.2.1 (0,[])).1.toNat r91.1,([]++(w.2.2.2.1.take d.2.1.toNat))++((w.2.2.2.1.take (w.2.2.2.1.length:Int).toNat).drop (aj (d.2.1+1)).toNat),w.2.2.2.2),0,iM.aG))) (some ((w.1,w.2.1,w.2.2.1,([]++(w.2.2.2.1.take d.2.1.toNat))++((w.2.2.2.1.take (w.2.2.2.1.length:Int).toNat).drop (aj (d.2.1+1)).toNat),w.2.2.2.2),0,iM.aG)))) (some ((w.1,w.2.1,w.2.2.1,([]++(w.2.2.2.1.take d.2.1.toNat))++((w.2.2.2.1.take (w.2.2.2.1.length:Int).toNat).drop (aj (d.2.1+1)).toNat),w.2.2.2.2),0,iM.aG))) (some ((w.1,w.2.1,w.2.2.1,([]++(w.2.2.2.1.take d.2.1.toNat))++((w.2.2.2.1.take (w.2.2.2.1.length:Int).toNat).drop (aj (d.2.1+1)).toNat),w.2.2.2.2),0,iM.aG))))))))):=by kernel_rfl
def Sz:Any:=.sel ⟨[(iM,true),(K45,true)],0,(iM,true),(.int .i64,false),(iM,true),fun x=>xr F0 x.1 x.2.1⟩
theorem anj:bm 118 Sz:=ok4 (show x8 Tryz.prog TB YZ from⟨eE,dh,YK,acY,trivial⟩) func118 (by kernel_rfl) (by kernel_rfl) ab (by kernel_rfl) (by kernel_rfl)
def C0:Nat→Option Hint:=look [(2,{live:=[0,1,2,3,9],rl:=[8]})]
def ky (list:List cE)(view:Int)(name:ByteArray)(dm i:Int):= cV 41 [(0,jO 127 (eh) list),(1,bR view),(2,Yl name),(3,bR dm),(9,bR i)]
def SA (t8:Bool):= cV 41 [(8,RP t8)]
def O5   := cV 41 []
def pF (st:St):Option α:=gW aF F C0 [.r,.l,.r,.b,.i] f275 κ n st
def vA:=jF aF F C0 [.r,.l,.r,.b] f275 aZ 1
theorem JK (list:List cE)(view:Int)(name:ByteArray)(dm i:Int):pF F κ (n+1) (ky list view name dm i)=br (decide (i<(list.length:Int))) (ck (cl i (list.length:Int)) (br ((aP list i eh.aG).1==view) (ck (cl i (list.length:Int)) (br ((aP list i eh.aG).2.1.toList==name.toList) (ck (cl i (list.length:Int)) (br ((aP list i eh.aG).2.2==dm) (κ .ret (SA true)) (pF F κ n (ky list view name dm (aj (i+1)))))) (pF F κ n (ky list view name dm (aj (i+1)))))) (pF F κ n (ky list view name dm (aj (i+1)))))) (κ (.exit 0) (O5)):=by kernel_rfl
theorem afM (t8:Bool):vA F .ret (SA t8)=some (t8,()):=by kernel_rfl
theorem acZ: vA F (.exit 0) (O5)=some (false,()):=by kernel_rfl
abbrev aJq:List (Ty×Bool):=[(K38,false),(.int .i64,false),(.str,false),(.int .i64,false)]
def Em (list:D38)(view:Int)(name:ByteArray)(dm:Int):=bF aF F C0 f275 aJq aZ 1 (list,view,name,dm,())
theorem ank (list:D38)(view:Int)(name:ByteArray)(dm:Int):Em F list view name dm=pF F (vA F) F.n (ky list view name dm 0):=by kernel_rfl
def Fu:Any:=.one ⟨aJq,aZ,1,fun x=>Em F0 x.1 x.2.1 x.2.2.1 x.2.2.2.1⟩
theorem Vj:bm 275 Fu:=aA aF trivial func275 C0 (by kernel_rfl)
def C1:=[(62,dw),(275,Fu)]
def C2:Nat→Option Hint:=look [(2,{live:=[0,1,2,3,4,11],rl:=[10]})]
def o4 (liars:List Int)(list:List cE)(view:Int)(name:ByteArray)(dm:List Int)(i:Int):= cV 36 [(0,jO 3 (.int .i64) liars),(1,jO 127 (eh) list),(2,bR view),(3,Yl name),(4,jO 3 (.int .i64) dm),(11,bR i)]
def SB (t10:Bool):= cV 36 [(10,RP t10)]
def O6   := cV 36 []
def uj (st:St):Option α:=gW C1 F C2 [.r,.l,.r,.b,.i] f232 κ n st
def vB:=jF C1 F C2 [.r,.l,.r,.b] f232 aZ 1
theorem JL (liars:List Int)(list:List cE)(view:Int)(name:ByteArray)(dm:List Int)(i:Int):uj F κ (n+1) (o4 liars list view name dm i)=br (decide (i<(dm.length:Int))) (ck (cl i (dm.length:Int)) ((dG F0 liars (aP dm i 0)).bind fun sd=>br (!sd.1) (ck (cl i (dm.length:Int)) ((Em F0 list view name (aP dm i 0)).bind fun tW=>br (!tW.1) (κ .ret (SB false)) (uj F κ n (o4 liars list view name dm (aj (i+1)))))) (uj F κ n (o4 liars list view name dm (aj (i+1)))))) (κ (.exit 0) (O6)):=by kernel_rfl
theorem afN (t10:Bool):vB F .ret (SB t10)=some (t10,()):=by kernel_rfl
theorem ac0: vB F (.exit 0) (O6)=some (true,()):=by kernel_rfl
abbrev aCl:List (Ty×Bool):=[(.sl 3 (.int .i64),false),(K38,false),(.int .i64,false),(.str,false),(.sl 3 (.int .i64),false)]
def xu (liars:List Int)(list:D38)(view:Int)(name:ByteArray)(dm:List Int):=bF C1 F C2 f232 aCl aZ 1 (liars,list,view,name,dm,())
theorem anl (liars:List Int)(list:D38)(view:Int)(name:ByteArray)(dm:List Int):xu F liars list view name dm=uj F (vB F) F.n (o4 liars list view name dm 0):=by kernel_rfl
def SC:Any:=.one ⟨aCl,aZ,1,fun x=>xu F0 x.1 x.2.1 x.2.2.1 x.2.2.2.1 x.2.2.2.2.1⟩
theorem anm:bm 232 SC:=aA C1 ⟨eE,Vj,trivial⟩ func232 C2 (by kernel_rfl)
def Y0:=[(62,dw),(78,dW),(106,jI),(127,j1),(232,SC)]
abbrev aCm:List (Ty×Bool):=[(K1,true),(.sl 3 (.int .i64),false),(K38,false),(K21,true)]
def LW (c:D1)(liars:List Int)(list:D38)(m:NA):=bF Y0 F ab f173 aCm aZ 1 (c,liars,list,m,())
theorem ann (c:D1)(liars:List Int)(list:D38)(m:NA):LW F c liars list m=(fV F0 c m).bind fun dA=>br (!dA.1) (some (false,())) (br (m.1==1) ((ea F0 m.2.2.1.1).bind fun gr=>(mH F0 c gr.1).bind fun sd=>(dG F0 liars sd.1).bind fun r24=>br r24.1 ((xu F0 liars list m.2.2.1.2.1 m.2.2.1.2.2.1 m.2.2.1.2.2.2).bind fun xm=>some (xm.1,())) (some (false,()))) (br (m.1==2) ((xu F0 liars list m.2.2.2.1.1 m.2.2.2.1.2.1 m.2.2.2.1.2.2).bind fun r55=>some (r55.1,())) (br (m.1==3) ((dG F0 liars m.2.2.2.2.2.1).bind fun Ix=>br Ix.1 ((xu F0 liars list m.2.2.2.2.1.1 m.2.2.2.2.1.2.1 m.2.2.2.2.1.2.2).bind fun r74=>some (r74.1,())) (some (false,()))) (some (true,()))))):=by kernel_rfl
def SD:Any:=.one ⟨aCm,aZ,1,fun x=>LW F0 x.1 x.2.1 x.2.2.1 x.2.2.2.1⟩
theorem ano:bm 173 SD:=aA Y0 ⟨eE,fo,nX,pz,anm,trivial⟩ func173 ab (by kernel_rfl)
def zd:=[(276,iZ)]
def ze:Nat→Option Hint:=look [(3,{live:=[0,3,4],xl:=[3],rl:=[2]})]
def sE (list:List Int)(i:Int)(xs:List Int):= er 20 [(0,jO 3 (.int .i64) list),(3,.v (.c (.own 1000000 none))),(4,bR i)] [] [aB 1000000 5 (.int .u8) xs]
def LX (xs:List Int):= er 20 [(3,.v (.c (.own 1000000 none)))] [] [aB 1000000 5 (.int .u8) xs]
def zf (st:St):Option α:=gW zd F ze [.r,.r,.l,.r,.b,.i] f279 κ n st
def BC:=jF zd F ze [.r,.r,.l,.r,.b] f279 mn 2
theorem Gj (list:List Int)(i:Int)(xs:List Int):zf F κ (n+1) (sE list i xs)=br (decide (i<(list.length:Int))) (ck (cl i (list.length:Int)) ((e8 F0 (aP list i 0)).bind fun fh=>ck (fg F xs.length fh.1.length 1) (zf F κ n (sE list (aj (i+1)) (xs++fh.1))))) (κ (.exit 0) (LX xs)):=by kernel_rfl
theorem aaG (xs:List Int):BC F (.exit 0) (LX xs)=some (xs,()):=by kernel_rfl
def sF (list:List Int):=bF zd F ze f279 kp mn 2 (list,())
theorem aj0 (list:List Int):sF F list=zf F (BC F) F.n (sE list 0 []):=by kernel_rfl
def O7:Any:=.one ⟨kp,mn,2,fun x=>sF F0 x.1⟩
theorem aj1:bm 279 O7:=aA zd ⟨mL,trivial⟩ func279 ze (by kernel_rfl)
def SE:=[(127,j1),(276,iZ),(277,sq),(278,Bx),(279,O7)]
def C3 (c:D1)(m:NA):=bF SE F ab f233 ahS mn 2 (c,m,())
theorem afO (c:D1)(m:NA):C3 F c m=(fV F0 c m).bind fun r8=>br (!r8.1) (some ([],())) ((e8 F0 m.1).bind fun cj=>br (m.1==1) ((nY F0 m.2.2.1.1).bind fun gr=>ck (fg F cj.1.length gr.1.length 1) ((su F0 c m.2.2.1.2).bind fun Ou=>ck (fg F (cj.1++gr.1).length Ou.1.length 1) (some ((cj.1++gr.1)++Ou.1,())))) (br (m.1==2) ((e8 F0 m.2.2.2.1.1).bind fun Ff=>ck (fg F cj.1.length Ff.1.length 1) ((nY F0 m.2.2.2.1.2.1).bind fun Qt=>ck (fg F (cj.1++Ff.1).length Qt.1.length 1) ((e8 F0 (m.2.2.2.1.2.2.length:Int)).bind fun EY=>ck (fg F ((cj.1++Ff.1)++Qt.1).length EY.1.length 1) ((sF F0 m.2.2.2.1.2.2).bind fun r56=>ck (fg F (((cj.1++Ff.1)++Qt.1)++EY.1).length r56.1.length 1) (some ((((cj.1++Ff.1)++Qt.1)++EY.1)++r56.1,())))))) (br (m.1==3) ((sF F0 [m.2.1,m.2.2.2.2.2.1]).bind fun r66=>ck (fg F cj.1.length r66.1.length 1) ((su F0 c m.2.2.2.2.1).bind fun r72=>ck (fg F (cj.1++r66.1).length r72.1.length 1) (some ((cj.1++r66.1)++r72.1,())))) ((sF F0 [m.2.2.2.2.2.2.1,m.2.2.2.2.2.2.2.1,m.2.2.2.2.2.2.2.2.1,m.2.2.2.2.2.2.2.2.2]).bind fun r88=>ck (fg F cj.1.length r88.1.length 1) (some (cj.1++r88.1,())))))):=by kernel_rfl
def LY:Any:=.one ⟨ahS,mn,2,fun x=>C3 F0 x.1 x.2.1⟩
theorem afP:bm 233 LY:=aA SE ⟨pz,mL,Fq,Sk,aj1,trivial⟩ func233 ab (by kernel_rfl)
def zg:=[(72,cK),(233,LY)]
def zh:Nat→Option Hint:=look [(2,{live:=[1,2,4,5],aJz:=true,xY:=[(4,2,3,.int .i64),(4,3,50,db),(4,4,114,fU),(4,5,127,eh)],xl:=[2,4],rl:=[4]})]
def gN (list:List lL)(i w w1 t4 t41:Int)(xs:List Int)(aO:List bz)(aY:List cU)(bj:List cE)(bK:List Int)(cA:List bz)(cB:List cU)(cF:List cE):St:={nt:=55,tm:=[(1,jO 146 (qK) list),cS 2,cS 4,(5,bR i)],bx:=[(2,[aq w,aq w1,.own 1000000 none,.own 1000001 none,.own 1000002 none,.own 1000003 none]),(4,[aq t4,aq t41,.own 1000004 none,.own 1000005 none,.own 1000006 none,.own 1000007 none])],bl:=[aB 1000000 3 (.int .i64) xs,aB 1000001 50 db aO,aB 1000002 114 fU aY,aB 1000003 127 eh bj,aB 1000004 3 (.int .i64) bK,aB 1000005 50 db cA,aB 1000006 114 fU cB,aB 1000007 127 eh cF],sp:=.v (.c (.none))}
def LZ (w w1 t4 t41:Int)(xs:List Int)(aO:List bz)(aY:List cU)(bj:List cE)(bK:List Int)(cA:List bz)(cB:List cU)(cF:List cE):St:={nt:=55,tm:=[cS 2,cS 4],bx:=[(2,[aq w,aq w1,.own 1000000 none,.own 1000001 none,.own 1000002 none,.own 1000003 none]),(4,[aq t4,aq t41,.own 1000004 none,.own 1000005 none,.own 1000006 none,.own 1000007 none])],bl:=[aB 1000000 3 (.int .i64) xs,aB 1000001 50 db aO,aB 1000002 114 fU aY,aB 1000003 127 eh bj,aB 1000004 3 (.int .i64) bK,aB 1000005 50 db cA,aB 1000006 114 fU cB,aB 1000007 127 eh cF],sp:=.v (.c (.none))}
def j5 (st:St):Option α:=gW zg F zh [.r,.l,.r,.b,.i] f174 κ n st
def BD:=awP zg F zh [.r,.l,.r,.b] f174 (.own true) gY [] 2
theorem Gk (list:List lL)(i w w1 t4 t41:Int)(xs:List Int)(aO:List bz)(aY:List cU)(bj:List cE)(bK:List Int)(cA:List bz)(cB:List cU)(cF:List cE):j5 F κ (n+1) (gN list i w w1 t4 t41 xs aO aY bj bK cA cB cF)=br (decide (i<(list.length:Int))) (ck (cl i (list.length:Int)) ((C3 F0 (w,w1) (aP list i qK.aG).2).bind fun DY=>br (decide ((aY.length:Int)<60)) (br (decide ((DY.1.length:Int)>0)) (ck (cl i (list.length:Int)) ((bZ F0 (aP list i qK.aG).1 0 (aj (w-1))).bind fun xm=>br xm.1 (ck (cl i (list.length:Int)) (ck (fg F aY.length [((aP list i qK.aG).1,DY.1)].length 32) (j5 F κ n (gN list (aj (i+1)) w w1 t4 t41 xs aO (aY++[((aP list i qK.aG).1,DY.1)]) bj bK cA cB cF)))) (j5 F κ n (gN list (aj (i+1)) w w1 t4 t41 xs aO aY bj bK cA cB cF)))) (j5 F κ n (gN list (aj (i+1)) w w1 t4 t41 xs aO aY bj bK cA cB cF))) (j5 F κ n (gN list (aj (i+1)) w w1 t4 t41 xs aO aY bj bK cA cB cF)))) (κ (.exit 0) (LZ w w1 t4 t41 xs aO aY bj bK cA cB cF)):=by kernel_rfl
theorem aaH (w w1 t4 t41:Int)(xs:List Int)(aO:List bz)(aY:List cU)(bj:List cE)(bK:List Int)(cA:List bz)(cB:List cU)(cF:List cE):BD F (.exit 0) (LZ w w1 t4 t41 xs aO aY bj bK cA cB cF)=some ((((w,w1),xs,aO,aY,bj),()),()):=by kernel_rfl
abbrev aCn:List (Ty×Bool):=[(iM,true),(K23,false)]
def zi (w:pt)(list:D23):=DX zg F zh f174 aCn 0 (.own true) gY [] 2 (w,list,())
theorem aj2 (w:pt)(list:D23):zi F w list=j5 F (BD F) F.n (gN list 0 w.1.1 w.1.2 0 0 w.2.1 w.2.2.1 w.2.2.2.1 w.2.2.2.2 [] [] [] []):=by kernel_rfl
def BE:Any:=.two ⟨aCn,0,(.own true),gY,2,[],fun x=>zi F0 x.1 x.2.1⟩
theorem SF:bm 174 BE:=azK zg ⟨dh,afP,trivial⟩ func174 zh (by kernel_rfl)
def Y1:=[(72,cK),(173,SD),(174,BE)]
def L0 (w:pt)(d:D45):Option (pt×Int×pt):=ap0 Tryz.prog (look Y1) F ab f119 [(iM,true),(K45,true)] 0 (iM,true) (.int .i64,false) (iM,true) (w,d,())
theorem anp (w:pt)(d:D45):L0 F w d=(bZ F0 d.2.1 0 (aj (w.1.1-1))).bind fun cN=>br (!cN.1) (some (iM.aG,2,w)) ((LW F0 w.1 w.2.1 w.2.2.2.2 d.2.2.2).bind fun sd=>br (!sd.1) (some (iM.aG,5,w)) (br (decide ((w.2.2.2.1.length:Int)≥60)) (some (iM.aG,4,w)) ((zi F0 w [(d.2.1,d.2.2.2)]).bind fun TP=>some (TP.1.1,0,iM.aG)))):=by kernel_rfl
def SG:Any:=.sel ⟨[(iM,true),(K45,true)],0,(iM,true),(.int .i64,false),(iM,true),fun x=>L0 F0 x.1 x.2.1⟩
theorem anq:bm 119 SG:=ok4 (show x8 Tryz.prog TB Y1 from⟨dh,ano,SF,trivial⟩) func119 (by kernel_rfl) (by kernel_rfl) ab (by kernel_rfl) (by kernel_rfl)
def C4:=[(62,dw)]
def C5:Nat→Option Hint:=look [(3,{live:=[1,3,4],xl:=[3],rl:=[2]})]
def kz (i w w1:Int)(w2:List Int)(w3:List bz)(w4:List cU)(w5:List cE)(xs:List Int):= er 23 [cS 1,(3,.v (.c (.own 1000000 none))),(4,bR i)] [(1,[aq w,aq w1,.ro false 3 (.int .i64) w2,.ro false 50 (db) w3,.ro false 114 (fU) w4,.ro false 127 (eh) w5])] [aB 1000000 3 (.int .i64) xs]
def O8 (xs:List Int):= er 23 [(3,.v (.c (.own 1000000 none)))] [] [aB 1000000 3 (.int .i64) xs]
def pG (st:St):Option α:=gW C4 F C5 [.r,.r,.l,.r,.b,.i] f120 κ n st
def vC:=jF C4 F C5 [.r,.r,.l,.r,.b] f120 kp 2
theorem JM (i w w1:Int)(w2:List Int)(w3:List bz)(w4:List cU)(w5:List cE)(xs:List Int):pG F κ (n+1) (kz i w w1 w2 w3 w4 w5 xs)=br (decide (i<(w3.length:Int))) ((dG F0 w2 i).bind fun oM=>br (!oM.1) (ck (fg F xs.length [i].length 8) (pG F κ n (kz (aj (i+1)) w w1 w2 w3 w4 w5 (xs++[i])))) (pG F κ n (kz (aj (i+1)) w w1 w2 w3 w4 w5 xs))) (κ (.exit 0) (O8 xs)):=by kernel_rfl
theorem ac1 (xs:List Int):vC F (.exit 0) (O8 xs)=some (xs,()):=by kernel_rfl
def En (w:pt):=bF C4 F C5 f120 gY kp 2 (w,())
theorem anr (w:pt):En F w=pG F (vC F) F.n (kz 0 w.1.1 w.1.2 w.2.1 w.2.2.1 w.2.2.2.1 w.2.2.2.2 []):=by kernel_rfl
def Fv:Any:=.one ⟨gY,kp,2,fun x=>En F0 x.1⟩
theorem Vk:bm 120 Fv:=aA C4 ⟨eE,trivial⟩ func120 C5 (by kernel_rfl)
def zj:=[(58,cq),(73,c7),(241,mO)]
def zk:Nat→Option Hint:=look [(5,{live:=[3,4,5,6,8,9],xY:=[(6,7,3,.int .i64),(6,9,76,K4),(6,10,74,K9),(6,11,5,.int .u8),(6,13,146,qK)],xl:=[6,8],rl:=[6,7]})]
def mQ (i c c1 r r1 r2 r3 r4 r5:Int)(r6:ByteArray)(r7:List Int)(r8:ByteArray)(r9:List D4)(hY:List D9)(dA:List Int)(cN:Int)(cj:List lL)(m m1:Int)(m2:ByteArray)(m3:Int)(m4:ByteArray)(m5:List Int)(m6:Int)(m7:ByteArray)(m8:List Int)(m9:Int)(m10:ByteArray)(m11:List Int)(m12 m13 m14 m15 m16 t6 t61 t62 t63 t64 t65:Int)(t66 t67:ByteArray)(t68 out bg re rf rh ri:Int)(JN JO:ByteArray)(JP:Int)(xs:List Int)(aO:List D4)(aY:List D9)(bj:List Int)(bK:List lL)(cA:List Int)(cB:List D4)(cF:List D9)(oN:List Int)(Fw:List lL):= er 43 [cS 3,cS 4,cS 5,cS 6,cS 8,(9,bR i)] [(3,[aq c,aq c1]),(4,[aq r,aq r1,aq r2,aq r3,aq r4,aq r5,.str r6,.ro false 3 (.int .i64) r7,.str r8,.ro false 76 (K4) r9,.ro false 74 (K9) hY,.ro false 5 (.int .u8) dA,aq cN,.ro false 146 (qK) cj]),(5,[aq m,aq m1,.str m2,aq m3,.str m4,.ro false 3 (.int .i64) m5,aq m6,.str m7,.ro false 3 (.int .i64) m8,aq m9,.str m10,.ro false 3 (.int .i64) m11,aq m12,aq m13,aq m14,aq m15,aq m16]),(6,[aq t6,aq t61,aq t62,aq t63,aq t64,aq t65,.str t66,.own 1000000 none,.str t67,.own 1000001 none,.own 1000002 none,.own 1000003 none,aq t68,.own 1000004 none]),(8,[aq out,aq bg,aq re,aq rf,aq rh,aq ri,.str JN,.own 1000005 none,.str JO,.own 1000006 none,.own 1000007 none,.own 1000008 none,aq JP,.own 1000009 none])] [aB 1000000 3 (.int .i64) xs,aB 1000001 76 K4 aO,aB 1000002 74 K9 aY,aB 1000003 5 (.int .u8) bj,aB 1000004 146 qK bK,aB 1000005 3 (.int .i64) cA,aB 1000006 76 K4 cB,aB 1000007 74 K9 cF,aB 1000008 5 (.int .u8) oN,aB 1000009 146 qK Fw]
def O9 (t7:Bool)(t6 t61 t62 t63 t64 t65:Int)(t66 t67:ByteArray)(t68:Int)(xs:List Int)(aO:List D4)(aY:List D9)(bj:List Int)(bK:List lL):= er 43 [cS 6,(7,RP t7)] [(6,[aq t6,aq t61,aq t62,aq t63,aq t64,aq t65,.str t66,.own 1000000 none,.str t67,.own 1000001 none,.own 1000002 none,.own 1000003 none,aq t68,.own 1000004 none])] [aB 1000000 3 (.int .i64) xs,aB 1000001 76 K4 aO,aB 1000002 74 K9 aY,aB 1000003 5 (.int .u8) bj,aB 1000004 146 qK bK]
def L3 (t6 t61 t62 t63 t64 t65:Int)(t66 t67:ByteArray)(t68 out bg re rf rh ri:Int)(JN JO:ByteArray)(JP:Int)(xs:List Int)(aO:List D4)(aY:List D9)(bj:List Int)(bK:List lL)(cA:List Int)(cB:List D4)(cF:List D9)(oN:List Int)(Fw:List lL):= er 43 [cS 6,cS 8] [(6,[aq t6,aq t61,aq t62,aq t63,aq t64,aq t65,.str t66,.own 1000000 none,.str t67,.own 1000001 none,.own 1000002 none,.own 1000003 none,aq t68,.own 1000004 none]),(8,[aq out,aq bg,aq re,aq rf,aq rh,aq ri,.str JN,.own 1000005 none,.str JO,.own 1000006 none,.own 1000007 none,.own 1000008 none,aq JP,.own 1000009 none])] [aB 1000000 3 (.int .i64) xs,aB 1000001 76 K4 aO,aB 1000002 74 K9 aY,aB 1000003 5 (.int .u8) bj,aB 1000004 146 qK bK,aB 1000005 3 (.int .i64) cA,aB 1000006 76 K4 cB,aB 1000007 74 K9 cF,aB 1000008 5 (.int .u8) oN,aB 1000009 146 qK Fw]
def rj (st:St):Option α:=gW zj F zk [.r,.r,.r,.l,.r,.b,.i] f234 κ n st
def sG:=jF zj F zk [.r,.r,.r,.l,.r,.b] f234 hZ 2
theorem Gl (i c c1 r r1 r2 r3 r4 r5:Int)(r6:ByteArray)(r7:List Int)(r8:ByteArray)(r9:List D4)(hY:List D9)(dA:List Int)(cN:Int)(cj:List lL)(m m1:Int)(m2:ByteArray)(m3:Int)(m4:ByteArray)(m5:List Int)(m6:Int)(m7:ByteArray)(m8:List Int)(m9:Int)(m10:ByteArray)(m11:List Int)(m12 m13 m14 m15 m16 t6 t61 t62 t63 t64 t65:Int)(t66 t67:ByteArray)(t68 out bg re rf rh ri:Int)(JN JO:ByteArray)(JP:Int)(xs:List Int)(aO:List D4)(aY:List D9)(bj:List Int)(bK:List lL)(cA:List Int)(cB:List D4)(cF:List D9)(oN:List Int)(Fw:List lL):rj F κ (n+1) (mQ i c c1 r r1 r2 r3 r4 r5 r6 r7 r8 r9 hY dA cN cj m m1 m2 m3 m4 m5 m6 m7 m8 m9 m10 m11 m12 m13 m14 m15 m16 t6 t61 t62 t63 t64 t65 t66 t67 t68 out bg re rf rh ri JN JO JP xs aO aY bj bK cA cB cF oN Fw)=br (decide (i<c)) (br (i==r) (rj F κ n (mQ (aj (i+1)) c c1 r r1 r2 r3 r4 r5 r6 r7 r8 r9 hY dA cN cj m m1 m2 m3 m4 m5 m6 m7 m8 m9 m10 m11 m12 m13 m14 m15 m16 t6 t61 t62 t63 t64 t65 t66 t67 t68 out bg re rf rh ri JN JO JP xs aO aY bj bK cA cB cF oN Fw)) ((gb F0 (c,c1) (out,bg,re,(rf,rh,(ri,JN,cA),JO),cB,cF,(oN,JP),Fw) i (m,m1,(m2,m3,m4,m5),(m6,m7,m8),(m9,m10,m11),m12,m13,m14,m15,m16)).bind fun qT=>br (!qT.1.2.1) ((bh F0 (r,r1,r2,(r3,r4,(r5,r6,r7),r8),r9,hY,(dA,cN),cj)).bind fun xm=>κ .ret (O9 false xm.1.1 xm.1.2.1 xm.1.2.2.1 xm.1.2.2.2.1.1 xm.1.2.2.2.1.2.1 xm.1.2.2.2.1.2.2.1.1 xm.1.2.2.2.1.2.2.1.2.1 xm.1.2.2.2.1.2.2.2 xm.1.2.2.2.2.2.2.1.2 xm.1.2.2.2.1.2.2.1.2.2 xm.1.2.2.2.2.1 xm.1.2.2.2.2.2.1 xm.1.2.2.2.2.2.2.1.1 xm.1.2.2.2.2.2.2.2)) (rj F κ n (mQ (aj (i+1)) c c1 r r1 r2 r3 r4 r5 r6 r7 r8 r9 hY dA cN cj m m1 m2 m3 m4 m5 m6 m7 m8 m9 m10 m11 m12 m13 m14 m15 m16 t6 t61 t62 t63 t64 t65 t66 t67 t68 qT.1.1.1 qT.1.1.2.1 qT.1.1.2.2.1 qT.1.1.2.2.2.1.1 qT.1.1.2.2.2.1.2.1 qT.1.1.2.2.2.1.2.2.1.1 qT.1.1.2.2.2.1.2.2.1.2.1 qT.1.1.2.2.2.1.2.2.2 qT.1.1.2.2.2.2.2.2.1.2 xs aO aY bj bK qT.1.1.2.2.2.1.2.2.1.2.2 qT.1.1.2.2.2.2.1 qT.1.1.2.2.2.2.2.1 qT.1.1.2.2.2.2.2.2.1.1 qT.1.1.2.2.2.2.2.2.2)))) (κ (.exit 0) (L3 t6 t61 t62 t63 t64 t65 t66 t67 t68 out bg re rf rh ri JN JO JP xs aO aY bj bK cA cB cF oN Fw)):=by kernel_rfl
theorem ac2 (t7:Bool)(t6 t61 t62 t63 t64 t65:Int)(t66 t67:ByteArray)(t68:Int)(xs:List Int)(aO:List D4)(aY:List D9)(bj:List Int)(bK:List lL):sG F .ret (O9 t7 t6 t61 t62 t63 t64 t65 t66 t67 t68 xs aO aY bj bK)=some ((t6,t61,t62,(t63,t64,(t65,t66,xs),t67),aO,aY,(bj,t68),bK),t7,()):=by kernel_rfl
theorem aaI (t6 t61 t62 t63 t64 t65:Int)(t66 t67:ByteArray)(t68 out bg re rf rh ri:Int)(JN JO:ByteArray)(JP:Int)(xs:List Int)(aO:List D4)(aY:List D9)(bj:List Int)(bK:List lL)(cA:List Int)(cB:List D4)(cF:List D9)(oN:List Int)(Fw:List lL):sG F (.exit 0) (L3 t6 t61 t62 t63 t64 t65 t66 t67 t68 out bg re rf rh ri JN JO JP xs aO aY bj bK cA cB cF oN Fw)=some ((out,bg,re,(rf,rh,(ri,JN,cA),JO),cB,cF,(oN,JP),Fw),true,()):=by kernel_rfl
def zl (c:D1)(r:bz)(m:NA):=bF zj F zk f234 YY hZ 2 (c,r,m,())
theorem aj3 (c:D1)(r:bz)(m:NA):zl F c r m=(bh F0 r).bind fun cj=>(ec F0 c r).bind fun oM=>br (!oM.1) (some (cj.1,false,())) (rj F (sG F) F.n (mQ 0 c.1 c.2 r.1 r.2.1 r.2.2.1 r.2.2.2.1.1 r.2.2.2.1.2.1 r.2.2.2.1.2.2.1.1 r.2.2.2.1.2.2.1.2.1 r.2.2.2.1.2.2.1.2.2 r.2.2.2.1.2.2.2 r.2.2.2.2.1 r.2.2.2.2.2.1 r.2.2.2.2.2.2.1.1 r.2.2.2.2.2.2.1.2 r.2.2.2.2.2.2.2 m.1 m.2.1 m.2.2.1.1 m.2.2.1.2.1 m.2.2.1.2.2.1 m.2.2.1.2.2.2 m.2.2.2.1.1 m.2.2.2.1.2.1 m.2.2.2.1.2.2 m.2.2.2.2.1.1 m.2.2.2.2.1.2.1 m.2.2.2.2.1.2.2 m.2.2.2.2.2.1 m.2.2.2.2.2.2.1 m.2.2.2.2.2.2.2.1 m.2.2.2.2.2.2.2.2.1 m.2.2.2.2.2.2.2.2.2 0 0 0 0 0 0 al al 0 cj.1.1 cj.1.2.1 cj.1.2.2.1 cj.1.2.2.2.1.1 cj.1.2.2.2.1.2.1 cj.1.2.2.2.1.2.2.1.1 cj.1.2.2.2.1.2.2.1.2.1 cj.1.2.2.2.1.2.2.2 cj.1.2.2.2.2.2.2.1.2 [] [] [] [] [] cj.1.2.2.2.1.2.2.1.2.2 cj.1.2.2.2.2.1 cj.1.2.2.2.2.2.1 cj.1.2.2.2.2.2.2.1.1 cj.1.2.2.2.2.2.2.2)):=by kernel_rfl
def Pb:Any:=.one ⟨YY,hZ,2,fun x=>zl F0 x.1 x.2.1 x.2.2.1⟩
theorem aj4:bm 234 Pb:=aA zj ⟨cY,dB,vw,trivial⟩ func234 zk (by kernel_rfl)
def Y2:=[(58,cq),(61,QP),(234,Pb),(235,wH)]
def L4 (w:pt)(a:Int):Option (pt×Int×pt):=ap0 Tryz.prog (look Y2) F ab f175 [(iM,true),(.int .i64,false)] 0 (iM,true) (.int .i64,false) (iM,true) (w,a,())
theorem ans (w:pt)(a:Int):L4 F w a=ck (cl a (w.2.2.1.length:Int)) ((U2 F0 w.1 (aP w.2.2.1 a db.aG)).bind fun gv=>br (!gv.2.1) (some (iM.aG,3,w)) (ck (cl a (w.2.2.1.length:Int)) ((bh F0 (aP w.2.2.1 a db.aG)).bind fun Ha=>(zl F0 w.1 (Ha.1.1,Ha.1.2.1,Ha.1.2.1,Ha.1.2.2.2) (1,0,gv.1,(0,al,[]),(0,al,[]),0,0,0,0,0)).bind fun r42=>(rb F0 w.1 r42.1 gv.1).bind fun EY=>br (!r42.2.1) (some (iM.aG,4,w)) (br (!EY.2.1) (some (iM.aG,4,w)) (ck (cl a (w.2.2.1.length:Int)) (some ((w.1,w.2.1,w.2.2.1.set a.toNat EY.1,w.2.2.2),0,iM.aG))))))):=by kernel_rfl
def SH:Any:=.sel ⟨[(iM,true),(.int .i64,false)],0,(iM,true),(.int .i64,false),(iM,true),fun x=>L4 F0 x.1 x.2.1⟩
theorem ant:bm 175 SH:=ok4 (show x8 Tryz.prog TB Y2 from⟨cY,ahY,aj4,LQ,trivial⟩) func175 (by kernel_rfl) (by kernel_rfl) ab (by kernel_rfl) (by kernel_rfl)
def ah7:=[(104,mE),(126,oV)]
def W6 (d:D14):=bF ah7 F ab f285 pY pY 2 (d,())
theorem auo (d:D14):W6 F d=(jr F0 d).bind fun r5=>(nI F0 d).bind fun r7=>br r7.1 (some ((r5.1.1,(d.1.length:Int)),())) (some (r5.1,())):=by kernel_rfl
def Y3:Any:=.one ⟨pY,pY,2,fun x=>W6 F0 x.1⟩
theorem aup:bm 285 Y3:=aA ah7 ⟨u5,yu,trivial⟩ func285 ab (by kernel_rfl)
def Vl:=[(58,cq),(73,c7),(105,yI),(285,Y3)]
abbrev aCo:List (Ty×Bool):=[(db,true),(K23,false)]
def Hz (c:D1)(r:bz):=bF Vl F ab f236 xK aCo 2 (c,r,())
theorem aj5 (c:D1)(r:bz):Hz F c r=(bh F0 r).bind fun r8=>(ec F0 c r).bind fun dA=>br (!dA.1) (some (r8.1,[],())) ((W6 F0 r.2.2.2.2.2.2.1).bind fun fh=>(ug F0 r.2.2.2.2.2.2.2).bind fun sd=>some ((r8.1.1,r8.1.2.1,r8.1.2.2.1,r8.1.2.2.2.1,r8.1.2.2.2.2.1,r8.1.2.2.2.2.2.1,fh.1,[]),sd.1,())):=by kernel_rfl
def Pc:Any:=.one ⟨xK,aCo,2,fun x=>Hz F0 x.1 x.2.1⟩
theorem aj6:bm 236 Pc:=aA Vl ⟨cY,dB,OF,aup,trivial⟩ func236 ab (by kernel_rfl)
def Y4:=[(62,dw)]
abbrev aCp:List (Ty×Bool):=[(.int .i64,false),(K21,true)]
def L5 (id:Int)(m:NA):=bF Y4 F ab f286 aCp [(K38,false)] 2 (id,m,())
theorem anu (id:Int)(m:NA):L5 F id m=br (m.1==2) (br (m.1==4) (some ([],())) (br (m.2.2.2.1.2.1.toList==al.toList) (some ([],())) ((dG F0 m.2.2.2.1.2.2 id).bind fun Qs=>br (!Qs.1) (some ([],())) (some ([(m.2.2.2.1.1,m.2.2.2.1.2.1,id)],()))))) (br (m.1==1) (br (m.1==4) (some ([],())) (br (m.2.2.1.2.2.1.toList==al.toList) (some ([],())) ((dG F0 m.2.2.1.2.2.2 id).bind fun Qs=>br (!Qs.1) (some ([],())) (some ([(m.2.2.1.2.1,m.2.2.1.2.2.1,id)],()))))) (br (m.1==4) (some ([],())) (br (m.2.2.2.2.1.2.1.toList==al.toList) (some ([],())) ((dG F0 m.2.2.2.2.1.2.2 id).bind fun Qs=>br (!Qs.1) (some ([],())) (some ([(m.2.2.2.2.1.1,m.2.2.2.2.1.2.1,id)],())))))):=by kernel_rfl
def SJ:Any:=.one ⟨aCp,[(K38,false)],2,fun x=>L5 F0 x.1 x.2.1⟩
theorem anv:bm 286 SJ:=aA Y4 ⟨eE,trivial⟩ func286 ab (by kernel_rfl)
def nZ:=[(26,Bt),(62,dw),(120,Fv),(275,Fu),(286,SJ)]
def n4:Nat→Option Hint:=look [(5,{live:=[1,2,6,7,8],xY:=[(6,2,3,.int .i64),(6,3,50,db),(6,4,114,fU),(6,5,127,eh)],xl:=[6,7],rl:=[6]}),(9,{live:=[1,2,6,7,8,9,10],xl:=[1,2,6,7,8],rl:=[6]})]
def mR (id:Int)(list:List lL)(i k t6 t61 out bg:Int)(xs:List cE)(aO:List Int)(aY:List bz)(bj:List cU)(bK:List cE)(cA:List Int)(cB:List bz)(cF:List cU)(oN:List cE):= er 66 [(1,bR id),(2,jO 146 (qK) list),cS 6,cS 7,(8,bR i),(9,.v (.c (.own 1000000 none))),(10,bR k)] [(6,[aq t6,aq t61,.own 1000001 none,.own 1000002 none,.own 1000003 none,.own 1000004 none]),(7,[aq out,aq bg,.own 1000005 none,.own 1000006 none,.own 1000007 none,.own 1000008 none])] [aB 1000000 127 eh xs,aB 1000001 3 (.int .i64) aO,aB 1000002 50 db aY,aB 1000003 114 fU bj,aB 1000004 127 eh bK,aB 1000005 3 (.int .i64) cA,aB 1000006 50 db cB,aB 1000007 114 fU cF,aB 1000008 127 eh oN]
def SK (id:Int)(list:List lL)(i t6 t61 out bg:Int)(xs:List Int)(aO:List bz)(aY:List cU)(bj:List cE)(bK:List Int)(cA:List bz)(cB:List cU)(cF:List cE):= er 66 [(1,bR id),(2,jO 146 (qK) list),cS 6,cS 7,(8,bR i)] [(6,[aq t6,aq t61,.own 1000000 none,.own 1000001 none,.own 1000002 none,.own 1000003 none]),(7,[aq out,aq bg,.own 1000004 none,.own 1000005 none,.own 1000006 none,.own 1000007 none])] [aB 1000000 3 (.int .i64) xs,aB 1000001 50 db aO,aB 1000002 114 fU aY,aB 1000003 127 eh bj,aB 1000004 3 (.int .i64) bK,aB 1000005 50 db cA,aB 1000006 114 fU cB,aB 1000007 127 eh cF]
def sH (st:St):Option α:=gW nZ F n4 [.r,.r,.r,.l,.r,.b,.i,.r,.l,.b,.r,.r,.b,.i] f237 κ n st
def JQ:Ex→St→Option α:=alH Tryz.prog (look nZ) F n4 [.r,.l,.b,.r,.r,.b] (sub [.r,.r,.r,.l,.r,.b,.i] (nO f237)) (itk Tryz.prog (look nZ) F n4 (sub [.r,.r,.r,.l,.r,.b,.i] (nO f237)) κ n)
def zm (id:Int)(list:List lL)(i t6 t61 out bg:Int)(xs:List Int)(aO:List bz)(aY:List cU)(bj:List cE)(bK:List Int)(cA:List bz)(cB:List cU)(cF:List cE):= er 66 [(1,bR id),(2,jO 146 (qK) list),cS 6,cS 7,(8,bR i)] [(6,[aq t6,aq t61,.own 1000000 none,.own 1000001 none,.own 1000002 none,.own 1000003 none]),(7,[aq out,aq bg,.own 1000004 none,.own 1000005 none,.own 1000006 none,.own 1000007 none])] [aB 1000000 3 (.int .i64) xs,aB 1000001 50 db aO,aB 1000002 114 fU aY,aB 1000003 127 eh bj,aB 1000004 3 (.int .i64) bK,aB 1000005 50 db cA,aB 1000006 114 fU cB,aB 1000007 127 eh cF]
def SL (t6 t61 out bg:Int)(xs:List Int)(aO:List bz)(aY:List cU)(bj:List cE)(bK:List Int)(cA:List bz)(cB:List cU)(cF:List cE):= er 66 [cS 6,cS 7] [(6,[aq t6,aq t61,.own 1000000 none,.own 1000001 none,.own 1000002 none,.own 1000003 none]),(7,[aq out,aq bg,.own 1000004 none,.own 1000005 none,.own 1000006 none,.own 1000007 none])] [aB 1000000 3 (.int .i64) xs,aB 1000001 50 db aO,aB 1000002 114 fU aY,aB 1000003 127 eh bj,aB 1000004 3 (.int .i64) bK,aB 1000005 50 db cA,aB 1000006 114 fU cB,aB 1000007 127 eh cF]
def HA (st:St):Option α:=gW nZ F n4 [.r,.r,.r,.l,.r,.b,.i] f237 κ n st
def zn:=jF nZ F n4 [.r,.r,.r,.l,.r,.b] f237 gY 2
theorem L6 (id:Int)(list:List lL)(i k t6 t61 out bg:Int)(xs:List cE)(aO:List Int)(aY:List bz)(bj:List cU)(bK:List cE)(cA:List Int)(cB:List bz)(cF:List cU)(oN:List cE):sH F κ (n+1) (mR id list i k t6 t61 out bg xs aO aY bj bK cA cB cF oN)=br (decide (k<(xs.length:Int))) (ck (cl k (xs.length:Int)) (br (decide ((oN.length:Int)<300)) ((Em F0 oN (aP xs k eh.aG).1 (aP xs k eh.aG).2.1 (aP xs k eh.aG).2.2).bind fun r56=>br (!r56.1) (ck (fg F oN.length [(aP xs k eh.aG)].length 32) (sH F κ n (mR id list i (aj (k+1)) t6 t61 out bg xs aO aY bj bK cA cB cF (oN++[(aP xs k eh.aG)])))) (sH F κ n (mR id list i (aj (k+1)) t6 t61 out bg xs aO aY bj bK cA cB cF oN))) (sH F κ n (mR id list i (aj (k+1)) t6 t61 out bg xs aO aY bj bK cA cB cF oN)))) (κ (.exit 2) (SK id list i t6 t61 out bg aO aY bj bK cA cB cF oN)):=by kernel_rfl
theorem L7 (id:Int)(list:List lL)(i t6 t61 out bg:Int)(xs:List Int)(aO:List bz)(aY:List cU)(bj:List cE)(bK:List Int)(cA:List bz)(cB:List cU)(cF:List cE):HA F κ (n+1) (zm id list i t6 t61 out bg xs aO aY bj bK cA cB cF)=br (decide (i<(list.length:Int))) (ck (cl i (list.length:Int)) ((L5 F0 id (aP list i qK.aG).2).bind fun Ha=>sH F (JQ F κ n) F.n (mR id list i 0 t6 t61 out bg Ha.1 xs aO aY bj bK cA cB cF))) (κ (.exit 0) (SL t6 t61 out bg xs aO aY bj bK cA cB cF)):=by kernel_rfl
theorem afQ (id:Int)(list:List lL)(i t6 t61 out bg:Int)(xs:List Int)(aO:List bz)(aY:List cU)(bj:List cE)(bK:List Int)(cA:List bz)(cB:List cU)(cF:List cE):JQ F κ n (.exit 2) (SK id list i t6 t61 out bg xs aO aY bj bK cA cB cF)=HA F κ n (zm id list (aj (i+1)) t6 t61 out bg xs aO aY bj bK cA cB cF):=by kernel_rfl
theorem afR (t6 t61 out bg:Int)(xs:List Int)(aO:List bz)(aY:List cU)(bj:List cE)(bK:List Int)(cA:List bz)(cB:List cU)(cF:List cE):zn F (.exit 0) (SL t6 t61 out bg xs aO aY bj bK cA cB cF)=some (((out,bg),bK,cA,cB,cF),()):=by kernel_rfl
abbrev aCq:List (Ty×Bool):=[(iM,true),(.int .i64,false),(K23,false)]
def JR (w:pt)(id:Int)(list:D23):=bF nZ F n4 f237 aCq gY 2 (w,id,list,())
theorem aqF (w:pt)(id:Int)(list:D23):JR F w id list=(yL F0 w).bind fun cj=>(En F0 w).bind fun py=>(dG F0 py.1 id).bind fun fh=>br (!fh.1) (some (cj.1,())) (HA F (zn F) F.n (zm id list 0 0 0 cj.1.1.1 cj.1.1.2 [] [] [] [] cj.1.2.1 cj.1.2.2.1 cj.1.2.2.2.1 cj.1.2.2.2.2)):=by kernel_rfl
def Vm:Any:=.one ⟨aCq,gY,2,fun x=>JR F0 x.1 x.2.1 x.2.2.1⟩
theorem aqG:bm 237 Vm:=aA nZ ⟨Sb,eE,Vk,Vj,anv,trivial⟩ func237 n4 (by kernel_rfl)
def Vn:=[(174,BE),(236,Pc),(237,Vm)]
def HB (w:pt)(a:Int):Option (pt×Int×pt):=ap0 Tryz.prog (look Vn) F ab f176 [(iM,true),(.int .i64,false)] 0 (iM,true) (.int .i64,false) (iM,true) (w,a,())
theorem aj7 (w:pt)(a:Int):HB F w a=ck (cl a (w.2.2.1.length:Int)) ((Hz F0 w.1 (aP w.2.2.1 a db.aG)).bind fun oM=>br (decide ((aj ((w.2.2.2.1.length:Int)+(oM.2.1.length:Int)))>60)) (some (iM.aG,4,w)) (br (decide ((aj ((w.2.2.2.2.length:Int)+(oM.2.1.length:Int)))>300)) (some (iM.aG,4,w)) (ck (cl a (w.2.2.1.length:Int)) ((JR F0 (w.1,w.2.1,w.2.2.1.set a.toNat oM.1,w.2.2.2) a oM.2.1).bind fun r44=>(zi F0 r44.1 oM.2.1).bind fun Qu=>some (Qu.1.1,0,iM.aG))))):=by kernel_rfl
def Pd:Any:=.sel ⟨[(iM,true),(.int .i64,false)],0,(iM,true),(.int .i64,false),(iM,true),fun x=>HB F0 x.1 x.2.1⟩
theorem aj8:bm 176 Pd:=ok4 (show x8 Tryz.prog TB Vn from⟨SF,aj6,aqG,trivial⟩) func176 (by kernel_rfl) (by kernel_rfl) ab (by kernel_rfl) (by kernel_rfl)
def ac3:=[(58,cq),(73,c7),(287,qh)]
def QX (c:D1)(r:bz)(view:Int)(name:ByteArray)(push:Bool):=bF ac3 F ab f238 asj hZ 2 (c,r,view,name,push,())
theorem aqH (c:D1)(r:bz)(view:Int)(name:ByteArray)(push:Bool):QX F c r view name push=(ec F0 c r).bind fun oM=>br (!oM.1) ((bh F0 r).bind fun dM=>some (dM.1,false,())) ((bh F0 r).bind fun sd=>(pE F0 c sd.1 view name push).bind fun Bl=>br (!Bl.1.2.1) ((bh F0 r).bind fun tW=>some (tW.1,false,())) (some (Bl.1.1,true,()))):=by kernel_rfl
def Vo:Any:=.one ⟨asj,hZ,2,fun x=>QX F0 x.1 x.2.1 x.2.2.1 x.2.2.2.1 x.2.2.2.2.1⟩
theorem aqI:bm 238 Vo:=aA ac3 ⟨cY,dB,BB,trivial⟩ func238 ab (by kernel_rfl)
end
end Go.Am.Tryz
