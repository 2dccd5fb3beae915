/- Lemmas for the claim. No condition. -/
import Derived.Test.YtfapcfpkbahneaaGreatDoorQtVJG2
set_option linter.all false
set_option maxRecDepth 100000
namespace Go.Am.Tryz
open Go.Am Go.Proofs Go.Proofs.Tryz
noncomputable section
variable {α:Type} (F:rT) (κ:Ex->St->Option α) (n:Nat)
def y3:=[(115,gY),(276,iY),(277,sw)]
def y4:Nat->Option Hint:=look [(6,{live:=[3,5,6],xl:=[5],rl:=[4]})]
def sx (i q:Int)(q1:ByteArray)(q2 xs:List Int):= dY 41 [cL 3,(5,.v (.c (.own 1000000 none))),(6,bE i)] [(3,[aq q,.str q1,.ro false 3 (.int .i64) q2])] [aA 1000000 5 (.int .u8) xs]
def Mb (xs:List Int):= dY 41 [(5,.v (.c (.own 1000000 none)))] [] [aA 1000000 5 (.int .u8) xs]
def y5 (st:St):Option α:=gA y3 F y4 [.r,.r,.r,.r,.l,.r,.b,.i] f278 κ n st
def BL:=jq y3 F y4 [.r,.r,.r,.r,.l,.r,.b] f278 mu 2
theorem Gq (i q:Int)(q1:ByteArray)(q2 xs:List Int):y5 F κ (n+1) (sx i q q1 q2 xs)=br (decide (i<(q2.length:Int))) (ck (cc i (q2.length:Int)) ((eY F0 (aN q2 i 0)).bind fun Um=>ck (fe F xs.length Um.1.length 1) (y5 F κ n (sx (aj (i+1)) q q1 q2 (xs++Um.1))))) (κ (.exit 0) (Mb xs)):=by kernel_rfl
theorem abc (xs:List Int):BL F (.exit 0) (Mb xs)=some (xs,()):=by kernel_rfl
def sy (c:D1)(q:D9):=bD y3 F y4 f278 F9 mu 2 (c,q,())
theorem akp (c:D1)(q:D9):sy F c q=(kF F0 c q).bind fun r9=>br (!r9.1) (some ([],())) ((eY F0 q.1).bind fun lK=>(og F0 q.2.1).bind fun fv=>ck (fe F lK.1.length fv.1.length 1) ((eY F0 (q.2.2.length:Int)).bind fun sg=>ck (fe F (lK.1++fv.1).length sg.1.length 1) (y5 F (BL F) F.n (sx 0 q.1 q.2.1 q.2.2 ((lK.1++fv.1)++sg.1))))):=by kernel_rfl
def BM:Any:=.one ⟨F9,mu,2,fun x=>sy F0 x.1 x.2.1⟩
theorem SO:bo 278 BM:=ay y3 ⟨kW,mP,FC,trivial⟩ func278 y4 (by kernel_rfl)
def Pu:=[(123,iV),(276,iY),(277,sw),(278,BM)]
def y6 (c:D1)(s:Ua):=bD Pu F ab f340 Su mu 2 (c,s,())
theorem ado (c:D1)(s:Ua):y6 F c s=(jG F0 c s).bind fun r8=>br (!r8.1) (some ([],())) ((eY F0 s.1).bind fun cg=>(eY F0 s.2.1).bind fun nL=>ck (fe F cg.1.length nL.1.length 1) ((sy F0 c s.2.2.1).bind fun gB=>ck (fe F (cg.1++nL.1).length gB.1.length 1) ((og F0 s.2.2.2).bind fun BA=>ck (fe F ((cg.1++nL.1)++gB.1).length BA.1.length 1) (some (((cg.1++nL.1)++gB.1)++BA.1,()))))):=by kernel_rfl
def JU:Any:=.one ⟨Su,mu,2,fun x=>y6 F0 x.1 x.2.1⟩
theorem adp:bo 340 JU:=ay Pu ⟨mw,mP,FC,SO,trivial⟩ func340 ab (by kernel_rfl)
def Pv:=[(276,iY),(340,JU)]
def y7 (c:D1)(s:Ua):=bD Pv F ab f322 Su mu 2 (c,s,())
theorem adq (c:D1)(s:Ua):y7 F c s=(y6 F0 c s).bind fun r9=>br ((r9.1.length:Int)==0) (some ([],())) ((eY F0 (r9.1.length:Int)).bind fun nL=>ck (fe F nL.1.length r9.1.length 1) (ck (fe F (nL.1++r9.1).length [10].length 1) (some ((nL.1++r9.1)++[10],())))):=by kernel_rfl
def JV:Any:=.one ⟨Su,mu,2,fun x=>y7 F0 x.1 x.2.1⟩
theorem adr:bo 322 JV:=ay Pv ⟨mP,adp,trivial⟩ func322 ab (by kernel_rfl)
def Zw:=[(104,mI),(126,o9)]
abbrev aCC:List (Ty×Bool):=[(K14,true),(.sl 5 (.int .u8),false)]
abbrev aCD:List (Ty×Bool):=[(K14,true),(.bool,false)]
def Mc (d:D14)(b:List Int):=bD Zw F ab f321 aCC aCD 2 (d,b,())
theorem anC (d:D14)(b:List Int):Mc F d b=(jt F0 d).bind fun r8=>ck (fe F r8.1.1.length b.length 1) ((nQ F0 d).bind fun oW=>br (!oW.1) ((jt F0 d).bind fun sg=>some (sg.1,false,())) ((nQ F0 (r8.1.1++b,r8.1.2)).bind fun dL=>br (!dL.1) ((jt F0 d).bind fun sg=>some (sg.1,false,())) (some ((r8.1.1++b,r8.1.2),true,())))):=by kernel_rfl
def SP:Any:=.one ⟨aCC,aCD,2,fun x=>Mc F0 x.1 x.2.1⟩
theorem anD:bo 321 SP:=ay Zw ⟨vi,yz,trivial⟩ func321 ab (by kernel_rfl)
def SQ:=[(102,mH),(123,iV),(320,L9),(321,SP),(322,JV)]
def fk (c:D1)(r:bu)(s:Ua):Option (bu×Bool×bu):=aqx Tryz.prog (look SQ) F ab f283 [(K1,true),(c8,true),(K12,true)] 1 (c8,true) (.bool,false) (c8,true) (c,r,s,())
theorem af9 (c:D1)(r:bu)(s:Ua):fk F c r s=(CZ F0 r.2.2.2.1 s).bind fun cg=>br cg.1 (some (r,true,c8.aF)) ((y7 F0 c s).bind fun Ej=>(Mc F0 r.2.2.2.2.2.2.1 Ej.1).bind fun gU=>br (!gU.2.1) (some (c8.aF,false,r)) ((jG F0 c s).bind fun Ri=>br (!Ri.1) (some (c8.aF,false,r)) ((n9 F0 s).bind fun r36=>some ((r.1,r.2.1,r.2.2.1,r36.1,r.2.2.2.2.1,r.2.2.2.2.2.1,gU.1,r.2.2.2.2.2.2.2),true,c8.aF)))):=by kernel_rfl
def ql:Any:=.sel ⟨[(K1,true),(c8,true),(K12,true)],1,(c8,true),(.bool,false),(c8,true),fun x=>fk F0 x.1 x.2.1 x.2.2.1⟩
theorem BN:bo 283 ql:=ok4 (show yd Tryz.prog TB SQ from⟨ve,mw,af8,anD,adr,trivial⟩) func283 (by kernel_rfl) (by kernel_rfl) ab (by kernel_rfl) (by kernel_rfl)
def mQ:=[(171,FA)]
def mR:Nat->Option Hint:=look [(3,{live:=[0,1,5,6],xl:=[1,5],rl:=[4]}),(7,{live:=[1,5,7],xl:=[5],rl:=[4]})]
def sA (b:List Int)(i:Int)(xs:List Int):= dY 34 [(1,jO 3 (.int .i64) b),(5,.v (.c (.own 1000000 none))),(7,bE i)] [] [aA 1000000 3 (.int .i64) xs]
def Md (xs:List Int):= dY 34 [(5,.v (.c (.own 1000000 none)))] [] [aA 1000000 3 (.int .i64) xs]
def y8 (st:St):Option α:=gA mQ F mR [.r,.r,.r,.l,.r,.b,.i] f327 κ n st
def BO:=jq mQ F mR [.r,.r,.r,.l,.r,.b] f327 kB 2
def sB (a b:List Int)(i:Int)(xs:List Int):= dY 34 [(0,jO 3 (.int .i64) a),(1,jO 3 (.int .i64) b),(5,.v (.c (.own 1000000 none))),(6,bE i)] [] [aA 1000000 3 (.int .i64) xs]
def Me (b xs:List Int):= dY 34 [(1,jO 3 (.int .i64) b),(5,.v (.c (.own 1000000 none)))] [] [aA 1000000 3 (.int .i64) xs]
def y9 (st:St):Option α:=gA mQ F mR [.r,.r,.l,.r,.b,.i] f327 κ n st
def BP:=jq mQ F mR [.r,.r,.l,.r,.b] f327 kB 2
theorem Gr (b:List Int)(i:Int)(xs:List Int):y8 F κ (n+1) (sA b i xs)=br (decide (i<(b.length:Int))) (ck (cc i (b.length:Int)) ((xy F0 xs (aN b i 0)).bind fun Ho=>y8 F κ n (sA b (aj (i+1)) Ho.1))) (κ (.exit 2) (Md xs)):=by kernel_rfl
theorem Gs (a b:List Int)(i:Int)(xs:List Int):y9 F κ (n+1) (sB a b i xs)=br (decide (i<(a.length:Int))) (ck (cc i (a.length:Int)) ((xy F0 xs (aN a i 0)).bind fun Ej=>y9 F κ n (sB a b (aj (i+1)) Ej.1))) (κ (.exit 0) (Me b xs)):=by kernel_rfl
theorem abd (xs:List Int):BO F (.exit 2) (Md xs)=some (xs,()):=by kernel_rfl
theorem abe (b xs:List Int):BP F (.exit 0) (Me b xs)=y8 F (BO F) F.n (sA b 0 xs):=by kernel_rfl
def HI (a b:List Int):=bD mQ F mR f327 ajR kB 2 (a,b,())
theorem akq (a b:List Int):HI F a b=y9 F (BP F) F.n (sB a b 0 []):=by kernel_rfl
def Pw:Any:=.one ⟨ajR,kB,2,fun x=>HI F0 x.1 x.2.1⟩
theorem akr:bo 327 Pw:=ay mQ ⟨VA,trivial⟩ func327 mR (by kernel_rfl)
def SR:=[(327,Pw)]
abbrev aiH:List (Ty×Bool):=[(K9,true),(.bool,false)]
def C3 (a b:D9):=bD SR F ab f290 xq aiH 2 (a,b,())
theorem aga (a b:D9):C3 F a b=br (a.1 != b.1) (some ((0,al,[]),false,())) (br (!(a.2.1.toList==b.2.1.toList)) (some ((0,al,[]),false,())) ((HI F0 a.2.2 b.2.2).bind fun BA=>some ((a.1,a.2.1,BA.1),true,()))):=by kernel_rfl
def Mf:Any:=.one ⟨xq,aiH,2,fun x=>C3 F0 x.1 x.2.1⟩
theorem agb:bo 290 Mf:=ay SR ⟨akr,trivial⟩ func290 ab (by kernel_rfl)
def vD:=[(103,yK),(125,By),(164,jP),(183,o8),(184,wL),(290,Mf)]
def vE:Nat->Option Hint:=look [(4,{live:=[1,3,5,8,9,10],xl:=[1,3,5,8,9],rl:=[6,7]})]
def fY (list:List D9)(put:Bool)(i c c1 p:Int)(p1:ByteArray)(p2:List Int)(xs:List D9):= dY 74 [(1,jO 74 (K9) list),cL 3,cL 5,(8,.v (.c (.own 1000000 none))),(9,OV put),(10,bE i)] [(3,[aq c,aq c1]),(5,[aq p,.str p1,.ro false 3 (.int .i64) p2])] [aA 1000000 74 K9 xs]
def JW (list:List D9)(put:Bool)(c c1 p:Int)(p1:ByteArray)(p2:List Int)(xs:List D9):= dY 74 [(1,jO 74 (K9) list),cL 3,cL 5,(8,.v (.c (.own 1000000 none))),(9,OV put)] [(3,[aq c,aq c1]),(5,[aq p,.str p1,.ro false 3 (.int .i64) p2])] [aA 1000000 74 K9 xs]
def iZ (st:St):Option α:=gA vD F vE [.r,.r,.r,.l,.r,.b,.i] f240 κ n st
abbrev asP:List (Ty×Bool):=[(K13,false),(.bool,false)]
def za:=jq vD F vE [.r,.r,.r,.l,.r,.b] f240 asP 2
theorem ld (list:List D9)(put:Bool)(i c c1 p:Int)(p1:ByteArray)(p2:List Int)(xs:List D9):iZ F κ (n+1) (fY list put i c c1 p p1 p2 xs)=br (decide (i<(list.length:Int))) (ck (cc i (list.length:Int)) ((hU F0 (aN list i K9.aF)).bind fun Yr=>br (!put) ((qW F0 Yr.1 (p,p1,p2)).bind fun r31=>br (!r31.1) ((C3 F0 Yr.1 (p,p1,p2)).bind fun Hr=>br Hr.2.1 (ck (fe F xs.length [Hr.1].length 48) (iZ F κ n (fY list true (aj (i+1)) c c1 p p1 p2 (xs++[Hr.1])))) ((hU F0 (p,p1,p2)).bind fun pI=>ck (fe F xs.length [pI.1].length 48) (ck (fe F (xs++[pI.1]).length [Yr.1].length 48) (iZ F κ n (fY list true (aj (i+1)) c c1 p p1 p2 ((xs++[pI.1])++[Yr.1])))))) (ck (fe F xs.length [Yr.1].length 48) (iZ F κ n (fY list put (aj (i+1)) c c1 p p1 p2 (xs++[Yr.1]))))) (ck (fe F xs.length [Yr.1].length 48) (iZ F κ n (fY list put (aj (i+1)) c c1 p p1 p2 (xs++[Yr.1])))))) (κ (.exit 0) (JW list put c c1 p p1 p2 xs)):=by kernel_rfl
theorem Gt (list:List D9)(put:Bool)(c c1 p:Int)(p1:ByteArray)(p2:List Int)(xs:List D9):za F (.exit 0) (JW list put c c1 p p1 p2 xs)=br (!put) ((hU F0 (p,p1,p2)).bind fun r58=>ck (fe F xs.length [r58.1].length 48) ((n6 F0 (c,c1) (xs++[r58.1])).bind fun r63=>br (!r63.1) ((hY F0 list).bind fun Zt=>some (Zt.1,false,())) ((kX F0 (c,c1) (p,p1,p2)).bind fun XB=>br (!XB.1) ((hY F0 list).bind fun Zt=>some (Zt.1,false,())) (some (xs++[r58.1],true,()))))) ((n6 F0 (c,c1) xs).bind fun r63=>br (!r63.1) ((hY F0 list).bind fun Zt=>some (Zt.1,false,())) ((kX F0 (c,c1) (p,p1,p2)).bind fun XB=>br (!XB.1) ((hY F0 list).bind fun Zt=>some (Zt.1,false,())) (some (xs,true,())))):=by kernel_rfl
abbrev aCE:List (Ty×Bool):=[(K1,true),(K13,false),(K9,true)]
def fO (c:D1)(list:D13)(p:D9):=bD vD F vE f240 aCE asP 2 (c,list,p,())
theorem agc (c:D1)(list:D13)(p:D9):fO F c list p=iZ F (za F) F.n (fY list false 0 c.1 c.2 p.1 p.2.1 p.2.2 []):=by kernel_rfl
def lg:Any:=.one ⟨aCE,asP,2,fun x=>fO F0 x.1 x.2.1 x.2.2.1⟩
theorem sC:bo 240 lg:=ay vD ⟨Pc,Sv,pb,yw,LK,agb,trivial⟩ func240 vE (by kernel_rfl)
def Zx:=[(115,gY)]
def EA (c:D1)(p:D9):=bD Zx F ab f341 F9 aiH 2 (c,p,())
theorem anE (c:D1)(p:D9):EA F c p=ck (fe F 0 p.2.2.length 8) (br (p.2.1.toList==al.toList) (some ((0,al,[]),false,())) ((kF F0 c (p.1,p.2.1,[]++p.2.2)).bind fun gB=>br (!gB.1) (some ((0,al,[]),false,())) (some ((p.1,p.2.1,[]++p.2.2),true,())))):=by kernel_rfl
def SS:Any:=.one ⟨F9,aiH,2,fun x=>EA F0 x.1 x.2.1⟩
theorem anF:bo 341 SS:=ay Zx ⟨kW,trivial⟩ func341 ab (by kernel_rfl)
def VJ:=[(72,cI),(127,j6),(165,BF)]
abbrev aCF:List (Ty×Bool):=[(K1,true),(c8,true),(.int .i64,false),(K21,true)]
def fZ (c:D1)(r:bu)(ue:Int)(m:N6):=Ei VJ F ab f241 aCF 1 (.own true) hJ [] 2 (c,r,ue,m,())
theorem aks (c:D1)(r:bu)(ue:Int)(m:N6):fZ F c r ue m=br (decide ((r.2.2.2.2.2.2.2.length:Int)>=30)) (some ((r,false,()),())) ((fT F0 c m).bind fun fv=>br (!fv.1) (some ((r,false,()),())) ((bX F0 ue 0 (aj (c.1-1))).bind fun Yr=>br (!Yr.1) (some ((r,false,()),())) (br (ue==r.1) (some ((r,false,()),())) ((yL F0 m).bind fun LG=>ck (fe F r.2.2.2.2.2.2.2.length [(ue,LG.1)].length 224) (some (((r.1,r.2.1,r.2.2.1,r.2.2.2.1,r.2.2.2.2.1,r.2.2.2.2.2.1,r.2.2.2.2.2.2.1,r.2.2.2.2.2.2.2++[(ue,LG.1)]),true,()),())))))):=by kernel_rfl
def mS:Any:=.two ⟨aCF,1,(.own true),hJ,2,[],fun x=>fZ F0 x.1 x.2.1 x.2.2.1 x.2.2.2.1⟩
theorem vF:bo 241 mS:=aAi VJ ⟨dh,pJ,SC,trivial⟩ func241 ab (by kernel_rfl)
def Zy:=[(60,iu),(106,jI),(241,mS),(280,HH),(283,ql),(341,SS)]
abbrev aiI:List (Ty×Bool):=[(K1,true),(c8,true),(K9,true)]
def Mg (c:D1)(r:bu)(p:D9):=Ei Zy F ab f323 aiI 1 (.own true) hJ [] 2 (c,r,p,())
theorem anG (c:D1)(r:bu)(p:D9):Mg F c r p=(EA F0 c p).bind fun N7=>br (!N7.2.1) (some ((r,false,()),())) ((Pr F0 c r.2.2.2.1 N7.1).bind fun r31=>(fk F0 c r r31.1).bind fun Ho=>br Ho.2.1 (br (decide ((aj (p.1+1))>60)) (some ((Ho.1,true,()),())) ((ez F0 Ho.1.2.1 (aj (p.1+1))).bind fun pI=>(mL F0 c (aj (p.1+1))).bind fun r51=>br (r51.1==r.1) (some (((Ho.1.1,pI.1,Ho.1.2.2),true,()),())) ((mL F0 c (aj (p.1+1))).bind fun IS=>(fZ F0 c (Ho.1.1,pI.1,Ho.1.2.2) IS.1 (3,aj (p.1+1),(al,0,al,[]),(0,al,[]),N7.1,r.1,0,0,0,0)).bind fun r67=>some ((r67.1.1,r67.1.2.1,()),())))) (some (((r.1,r.2.1,r.2.2.1,(r.2.2.2.1.1,r.2.2.2.1.2.1,(r.2.2.2.1.2.2.1.1,r.2.2.2.1.2.2.1.2.1,Ho.2.2.2.2.2.1.2.2.1.2.2),r.2.2.2.1.2.2.2),Ho.2.2.2.2.2.2.1,Ho.2.2.2.2.2.2.2.1,(Ho.2.2.2.2.2.2.2.2.1.1,r.2.2.2.2.2.2.1.2),Ho.2.2.2.2.2.2.2.2.2),false,()),()))):=by kernel_rfl
def SU:Any:=.two ⟨aiI,1,(.own true),hJ,2,[],fun x=>Mg F0 x.1 x.2.1 x.2.2.1⟩
theorem anH:bo 323 SU:=aAi Zy ⟨lO,oa,vF,VG,BN,anF,trivial⟩ func323 ab (by kernel_rfl)
def aiJ:=[(35,dd),(72,cI)]
abbrev Px:List (Ty×Bool):=[(K1,true),(.int .i64,false),(.int .i64,false)]
def IT (c:D1)(view i:Int):=bD aiJ F ab f342 Px dv 1 (c,view,i,())
theorem auR (c:D1)(view i:Int):IT F c view i=(ey F0 c).bind fun r8=>br (!r8.1) (some (-1,())) (br (decide (view<0)) (some (-1,())) ((bX F0 i 0 (aj (c.1-1))).bind fun dL=>br (!dL.1) (some (-1,())) (ck (!(c.1==0)) (ck (!(c.1==0)) (some (Int.tmod (aj ((aj (i+c.1))-(Int.tmod view c.1))) c.1,())))))):=by kernel_rfl
def C4:Any:=.one ⟨Px,dv,1,fun x=>IT F0 x.1 x.2.1 x.2.2.1⟩
theorem Rm:bo 342 C4:=ay aiJ ⟨dQ,dh,trivial⟩ func342 ab (by kernel_rfl)
def aiK:=[(35,dd),(72,cI)]
def XC (c:D1)(view anI:Int):=bD aiK F ab f345 Px dv 1 (c,view,anI,())
theorem auS (c:D1)(view anI:Int):XC F c view anI=(ey F0 c).bind fun r8=>br (!r8.1) (some (-1,())) (br (decide (view<0)) (some (-1,())) ((bX F0 anI 0 (aj (c.1-1))).bind fun dL=>br (!dL.1) (some (-1,())) (ck (!(c.1==0)) (ck (!(c.1==0)) (some (Int.tmod (aj ((Int.tmod view c.1)+anI)) c.1,())))))):=by kernel_rfl
def Zz:Any:=.one ⟨Px,dv,1,fun x=>XC F0 x.1 x.2.1 x.2.2.1⟩
theorem auT:bo 345 Zz:=ay aiK ⟨dQ,dh,trivial⟩ func345 ab (by kernel_rfl)
def asQ:=[(342,C4),(345,Zz)]
def XD (c:D1)(view i:Int):=bD asQ F ab f326 Px dv 1 (c,view,i,())
theorem aAk (c:D1)(view i:Int):XD F c view i=(IT F0 c view i).bind fun dC=>br (decide (dC.1<=0)) (some (-1,())) (ck (!(c.2==0)) ((XC F0 c view (aj (Int.tdiv (aj (dC.1-1)) c.2))).bind fun gU=>some (gU.1,()))):=by kernel_rfl
def VK:Any:=.one ⟨Px,dv,1,fun x=>XD F0 x.1 x.2.1 x.2.2.1⟩
theorem anJ:bo 326 VK:=ay asQ ⟨Rm,auT,trivial⟩ func326 ab (by kernel_rfl)
def Rn:=[(326,VK),(342,C4)]
def Ro:Nat->Option Hint:=look [(2,{live:=[1,2,3,7],xl:=[7],rl:=[6]})]
def HJ (view i c c1:Int)(xs:List Int):= dY 23 [(1,bE view),(2,bE i),cL 3,(7,.v (.c (.own 1000000 none)))] [(3,[aq c,aq c1])] [aA 1000000 3 (.int .i64) xs]
def N9 (xs:List Int):= dY 23 [(7,.v (.c (.own 1000000 none)))] [] [aA 1000000 3 (.int .i64) xs]
def Rp (st:St):Option α:=gA Rn F Ro [.r,.r,.l,.b,.i] f343 κ n st
def ads:=jq Rn F Ro [.r,.r,.l,.b] f343 kB 2
theorem SV (view i c c1:Int)(xs:List Int):Rp F κ (n+1) (HJ view i c c1 xs)=(IT F0 (c,c1) view i).bind fun cR=>br (decide (cR.1>=0)) (ck (fe F xs.length [i].length 8) ((XD F0 (c,c1) view i).bind fun gU=>Rp F κ n (HJ view gU.1 c c1 (xs++[i])))) (κ (.exit 0) (N9 xs)):=by kernel_rfl
theorem anK (xs:List Int):ads F (.exit 0) (N9 xs)=some (xs,()):=by kernel_rfl
def adt (c:D1)(view i:Int):=bD Rn F Ro f343 Px kB 2 (c,view,i,())
theorem axw (c:D1)(view i:Int):adt F c view i=Rp F (ads F) F.n (HJ view i c.1 c.2 []):=by kernel_rfl
def adu:Any:=.one ⟨Px,kB,2,fun x=>adt F0 x.1 x.2.1 x.2.2.1⟩
theorem axx:bo 343 adu:=ay Rn ⟨anJ,Rm,trivial⟩ func343 Ro (by kernel_rfl)
def HK:=[(35,dd),(62,dz),(342,C4),(343,adu)]
def HL:Nat->Option Hint:=look [(5,{live:=[1,2,3,7,8],xl:=[7],rl:=[6]})]
def re (view i k c c1:Int)(xs:List Int):= dY 38 [(1,bE view),(2,bE i),cL 3,(7,.v (.c (.own 1000000 none))),(8,bE k)] [(3,[aq c,aq c1])] [aA 1000000 3 (.int .i64) xs]
def FD (xs:List Int):= dY 38 [(7,.v (.c (.own 1000000 none)))] [] [aA 1000000 3 (.int .i64) xs]
def zb (st:St):Option α:=gA HK F HL [.r,.r,.r,.l,.r,.b,.i] f324 κ n st
def JX:=jq HK F HL [.r,.r,.r,.l,.r,.b] f324 kB 2
theorem zc (view i k c c1:Int)(xs:List Int):zb F κ (n+1) (re view i k c c1 xs)=br (decide (k<c)) ((IT F0 (c,c1) view i).bind fun gB=>br (decide (gB.1>=0)) ((adt F0 (c,c1) view k).bind fun En=>(dE F0 En.1 i).bind fun Ho=>br Ho.1 (ck (fe F xs.length [k].length 8) (zb F κ n (re view i (aj (k+1)) c c1 (xs++[k])))) (zb F κ n (re view i (aj (k+1)) c c1 xs))) (κ (.exit 0) (FD xs))) (κ (.exit 0) (FD xs)):=by kernel_rfl
theorem Py (xs:List Int):JX F (.exit 0) (FD xs)=some (xs,()):=by kernel_rfl
def Rq (c:D1)(view i:Int):=bD HK F HL f324 Px kB 2 (c,view,i,())
theorem aq4 (c:D1)(view i:Int):Rq F c view i=(ey F0 c).bind fun dC=>br (!dC.1) (some ([],())) (zb F (JX F) F.n (re view i 0 c.1 c.2 [])):=by kernel_rfl
def VL:Any:=.one ⟨Px,kB,2,fun x=>Rq F0 x.1 x.2.1 x.2.2.1⟩
theorem aq5:bo 324 VL:=ay HK ⟨dQ,eA,Rm,axx,trivial⟩ func324 HL (by kernel_rfl)
def abf (on:Bool):=bD aE F ab f344 aZ dv 1 (on,())
theorem aq6 (on:Bool):abf F on=br on (some (1,())) (some (0,())):=by kernel_rfl
def VM:Any:=.one ⟨aZ,dv,1,fun x=>abf F0 x.1⟩
theorem aq7:bo 344 VM:=ay aE trivial func344 ab (by kernel_rfl)
def C5:=[(62,dz),(344,VM)]
def C6:Nat->Option Hint:=look [(3,{live:=[0,1,5,6],xl:=[5],rl:=[4]})]
def vG (a b:List Int)(n1 i:Int):= cJ 23 [(0,jO 3 (.int .i64) a),(1,jO 3 (.int .i64) b),(5,bE n1),(6,bE i)]
def Pz (n1:Int):= cJ 23 [(5,bE n1)]
def C7 (st:St):Option α:=gA C5 F C6 [.r,.r,.l,.r,.b,.i] f325 κ n st
def FE:=jq C5 F C6 [.r,.r,.l,.r,.b] f325 dv 1
theorem JY (a b:List Int)(n1 i:Int):C7 F κ (n+1) (vG a b n1 i)=br (decide (i<(a.length:Int))) (ck (cc i (a.length:Int)) ((dE F0 b (aN a i 0)).bind fun dL=>(abf F0 dL.1).bind fun Ej=>C7 F κ n (vG a b (aj (n1+Ej.1)) (aj (i+1))))) (κ (.exit 0) (Pz n1)):=by kernel_rfl
theorem adv (n1:Int):FE F (.exit 0) (Pz n1)=some (n1,()):=by kernel_rfl
def Mh (a b:List Int):=bD C5 F C6 f325 ajR dv 1 (a,b,())
theorem anL (a b:List Int):Mh F a b=C7 F (FE F) F.n (vG a b 0 0):=by kernel_rfl
def SW:Any:=.one ⟨ajR,dv,1,fun x=>Mh F0 x.1 x.2.1⟩
theorem anM:bo 325 SW:=ay C5 ⟨eA,aq7,trivial⟩ func325 C6 (by kernel_rfl)
def SX:=[(106,jI),(107,qf),(241,mS),(323,SU),(324,VL),(325,SW),(326,VK)]
abbrev asR:List (Ty×Bool):=[(K1,true),(c8,true),(.int .i64,false),(.str,false),(.bool,false)]
def pO (c:D1)(r:bu)(view:Int)(name:ByteArray)(push:Bool):=Ei SX F ab f287 asR 1 (.own true) hJ [] 2 (c,r,view,name,push,())
theorem agd (c:D1)(r:bu)(view:Int)(name:ByteArray)(push:Bool):pO F c r view name push=(pK F0 r.2.2.2.2.2.1 view name).bind fun gB=>br ((gB.1.2.2.length:Int)==0) (some ((r,false,()),())) (br (name.toList==al.toList) (some ((r,false,()),())) ((mL F0 c view).bind fun qM=>br (qM.1==r.1) ((Mg F0 c r gB.1).bind fun r42=>some ((r42.1.1,r42.1.2.1,()),())) ((Rq F0 c view r.1).bind fun r51=>br (!push) ((Mh F0 r51.1 gB.1.2.2).bind fun r58=>br (decide (r58.1<(r51.1.length:Int))) (some ((r,false,()),())) ((XD F0 c view r.1).bind fun r71=>(fZ F0 c r r71.1 (2,0,(al,0,al,[]),gB.1,(0,al,[]),0,0,0,0,0)).bind fun r74=>some ((r74.1.1,r74.1.2.1,()),()))) ((XD F0 c view r.1).bind fun r71=>(fZ F0 c r r71.1 (2,0,(al,0,al,[]),gB.1,(0,al,[]),0,0,0,0,0)).bind fun r74=>some ((r74.1.1,r74.1.2.1,()),()))))):=by kernel_rfl
def qm:Any:=.two ⟨asR,1,(.own true),hJ,2,[],fun x=>pO F0 x.1 x.2.1 x.2.2.1 x.2.2.2.1 x.2.2.2.2.1⟩
theorem BQ:bo 287 qm:=aAi SX ⟨oa,BJ,vF,anH,aq5,anM,anJ,trivial⟩ func287 ab (by kernel_rfl)
def ZA:=[(58,cm),(78,dR),(240,lg),(287,qm)]
abbrev aGj:List (Ty×Bool):=[(K1,true),(c8,true),(.str,false)]
def nS (c:D1)(r:bu)(name:ByteArray):=Ei ZA F ab f284 aGj 1 (.own true) hJ [] 2 (c,r,name,())
theorem anO (c:D1)(r:bu)(name:ByteArray):nS F c r name=(dZ F0 name).bind fun fv=>(fO F0 c r.2.2.2.2.2.1 (fv.1,name,[r.1])).bind fun sg=>br (!sg.2.1) (some ((r,false,()),())) ((bj F0 (r.1,r.2.1,r.2.2.1,r.2.2.2.1,r.2.2.2.2.1,sg.1,r.2.2.2.2.2.2)).bind fun qM=>(dZ F0 name).bind fun r36=>(pO F0 c qM.1 r36.1 name false).bind fun Um=>br Um.1.2.1 (some ((Um.1.1,true,()),())) (some (((r.1,r.2.1,r.2.2.1,r.2.2.2.1,r.2.2.2.2.1,sg.1,r.2.2.2.2.2.2),true,()),()))):=by kernel_rfl
def SY:Any:=.two ⟨aGj,1,(.own true),hJ,2,[],fun x=>nS F0 x.1 x.2.1 x.2.2.1⟩
theorem anP:bo 284 SY:=aAi ZA ⟨cX,fj,sC,BQ,trivial⟩ func284 ab (by kernel_rfl)
def PA:=[(58,cm),(73,cZ),(78,dR),(169,mz),(280,HH),(281,BK),(282,Zv),(283,ql),(284,SY)]
abbrev aCG:List (Ty×Bool):=[(K1,true),(c8,true),(K15,true)]
def rf (c:D1)(r:bu)(b:D15):=bD PA F ab f235 aCG hJ 2 (c,r,b,())
theorem adw (c:D1)(r:bu)(b:D15):rf F c r b=(bj F0 r).bind fun fv=>(eb F0 c r).bind fun Ej=>br (!Ej.1) (some (fv.1,false,())) ((n7 F0 c b).bind fun Yr=>br (!Yr.1) (some (fv.1,false,())) ((bj F0 r).bind fun En=>(Pr F0 c r.2.2.2.1 b.2).bind fun r36=>(dZ F0 b.1).bind fun LG=>br (decide (LG.1>=r.2.1)) ((yZ F0 c r36.1 b).bind fun r48=>br (decide (LG.1>=r.2.1)) (br r48.1 ((Ps F0 c r36.1 b).bind fun IS=>(fk F0 c (En.1.1,LG.1,En.1.2.2) IS.1).bind fun XB=>br XB.2.1 (br r48.1 ((nS F0 c XB.1 b.1).bind fun r80=>br (!r80.1.2.1) (some (fv.1,false,())) (some (r80.1.1,true,()))) (some (XB.1,true,()))) (some (fv.1,false,()))) ((fk F0 c (En.1.1,LG.1,En.1.2.2) r36.1).bind fun XB=>br XB.2.1 (br r48.1 ((nS F0 c XB.1 b.1).bind fun r80=>br (!r80.1.2.1) (some (fv.1,false,())) (some (r80.1.1,true,()))) (some (XB.1,true,()))) (some (fv.1,false,())))) (br r48.1 ((Ps F0 c r36.1 b).bind fun IS=>(fk F0 c En.1 IS.1).bind fun XB=>br XB.2.1 (br r48.1 ((nS F0 c XB.1 b.1).bind fun r80=>br (!r80.1.2.1) (some (fv.1,false,())) (some (r80.1.1,true,()))) (some (XB.1,true,()))) (some (fv.1,false,()))) ((fk F0 c En.1 r36.1).bind fun XB=>br XB.2.1 (br r48.1 ((nS F0 c XB.1 b.1).bind fun r80=>br (!r80.1.2.1) (some (fv.1,false,())) (some (r80.1.1,true,()))) (some (XB.1,true,()))) (some (fv.1,false,()))))) (br (decide (LG.1>=r.2.1)) ((fk F0 c (En.1.1,LG.1,En.1.2.2) r36.1).bind fun XB=>br XB.2.1 (some (XB.1,true,())) (some (fv.1,false,()))) ((fk F0 c En.1 r36.1).bind fun XB=>br XB.2.1 (some (XB.1,true,())) (some (fv.1,false,())))))):=by kernel_rfl
def wQ:Any:=.one ⟨aCG,hJ,2,fun x=>rf F0 x.1 x.2.1 x.2.2.1⟩
theorem Mi:bo 235 wQ:=ay PA ⟨cX,dD,fj,u2,VG,SM,auQ,BN,anP,trivial⟩ func235 ab (by kernel_rfl)
def SZ:=[(58,cm),(73,cZ),(183,o8),(240,lg),(287,qm)]
def C8 (c:D1)(r:bu)(p:D9):=bD SZ F ab f272 aiI hJ 2 (c,r,p,())
theorem age (c:D1)(r:bu)(p:D9):C8 F c r p=(bj F0 r).bind fun oW=>(eb F0 c r).bind fun N7=>br (!N7.1) (some (oW.1,false,())) ((kX F0 c p).bind fun sg=>br (!sg.1) (some (oW.1,false,())) (br (p.2.1.toList==al.toList) (some (oW.1,false,())) (br (decide (p.1<r.2.1)) (some (oW.1,false,())) ((bj F0 r).bind fun xv=>(fO F0 c r.2.2.2.2.2.1 p).bind fun QW=>br (!QW.2.1) (some (oW.1,false,())) ((bj F0 (xv.1.1,xv.1.2.1,xv.1.2.2.1,xv.1.2.2.2.1,xv.1.2.2.2.2.1,QW.1,xv.1.2.2.2.2.2.2)).bind fun r57=>(pO F0 c r57.1 p.1 p.2.1 false).bind fun r62=>br r62.1.2.1 (some (r62.1.1,true,())) (some ((xv.1.1,xv.1.2.1,xv.1.2.2.1,xv.1.2.2.2.1,xv.1.2.2.2.2.1,QW.1,xv.1.2.2.2.2.2.2),true,()))))))):=by kernel_rfl
def Mj:Any:=.one ⟨aiI,hJ,2,fun x=>C8 F0 x.1 x.2.1 x.2.2.1⟩
theorem agf:bo 272 Mj:=ay SZ ⟨cX,dD,yw,sC,BQ,trivial⟩ func272 ab (by kernel_rfl)
def S1:=[(58,cm),(60,iu),(65,j8),(72,cI),(73,cZ),(106,jI),(107,qf),(108,uW),(115,gY),(240,lg),(280,HH),(283,ql)]
abbrev aCH:List (Ty×Bool):=[(K1,true),(c8,true),(.int .i64,false),(K9,true),(.int .i64,false)]
def C9 (c:D1)(r:bu)(view:Int)(q:D9)(dk:Int):=bD S1 F ab f273 aCH hJ 2 (c,r,view,q,dk,())
theorem agh (c:D1)(r:bu)(view:Int)(q:D9)(dk:Int):C9 F c r view q dk=(bj F0 r).bind fun N7=>(eb F0 c r).bind fun gU=>br (!gU.1) (some (N7.1,false,())) ((bX F0 view 1 60).bind fun Yr=>br (!Yr.1) (some (N7.1,false,())) ((kF F0 c q).bind fun r31=>br (!r31.1) (some (N7.1,false,())) ((bX F0 dk 0 (aj (c.1-1))).bind fun LG=>br (!LG.1) (some (N7.1,false,())) ((bj F0 r).bind fun QW=>(Pr F0 c r.2.2.2.1 q).bind fun r51=>(fk F0 c QW.1 r51.1).bind fun r52=>br r52.2.1 ((mL F0 c view).bind fun r60=>br (r60.1==r.1) (br (decide (view>=r.2.1)) ((fO F0 c r52.1.2.2.2.2.2.1 (view,al,[dk])).bind fun IU=>br (!IU.2.1) (some (N7.1,false,())) ((pK F0 IU.1 view al).bind fun r88=>(xp F0 c).bind fun r92=>br (decide ((r88.1.2.2.length:Int)>=r92.1)) ((ez F0 r52.1.2.1 view).bind fun r97=>(bU F0 (aj (q.1+1)) 60).bind fun aq8=>(ez F0 r97.1 aq8.1).bind fun aAl=>some ((r52.1.1,aAl.1,r52.1.2.2.1,r52.1.2.2.2.1,r52.1.2.2.2.2.1,IU.1,r52.1.2.2.2.2.2.2),true,())) ((bU F0 (aj (q.1+1)) 60).bind fun aq8=>(ez F0 r52.1.2.1 aq8.1).bind fun aAl=>some ((r52.1.1,aAl.1,r52.1.2.2.1,r52.1.2.2.2.1,r52.1.2.2.2.2.1,IU.1,r52.1.2.2.2.2.2.2),true,())))) ((bU F0 (aj (q.1+1)) 60).bind fun aq8=>(ez F0 r52.1.2.1 aq8.1).bind fun aAl=>some ((r52.1.1,aAl.1,r52.1.2.2),true,()))) ((bU F0 (aj (q.1+1)) 60).bind fun aq8=>(ez F0 r52.1.2.1 aq8.1).bind fun aAl=>some ((r52.1.1,aAl.1,r52.1.2.2),true,()))) (some (N7.1,false,())))))):=by kernel_rfl
def Mk:Any:=.one ⟨aCH,hJ,2,fun x=>C9 F0 x.1 x.2.1 x.2.2.1 x.2.2.2.1 x.2.2.2.2.1⟩
theorem agi:bo 273 Mk:=ay S1 ⟨cX,lO,pN,dh,dD,oa,BJ,Ju,kW,sC,VG,BN,trivial⟩ func273 ab (by kernel_rfl)
def zd:=[(124,Fs),(182,yv)]
def ze:Nat->Option Hint:=look [(2,{live:=[0,3,6],xl:=[0,3,6],rl:=[4,5]})]
def sD (p:List D4)(iM x x1 x2 x3:Int):= dY 43 [(0,jO 76 (K4) p),cL 3,(6,bE iM)] [(3,[aq x,aq x1,aq x2,aq x3])] []
def qn (p:List D4)(iM x x1 x2 x3:Int):= dY 43 [(0,jO 76 (K4) p),cL 3,(6,bE iM)] [(3,[aq x,aq x1,aq x2,aq x3])] []
def zf (st:St):Option α:=gA zd F ze [.r,.r,.l,.b,.i] f316 κ n st
def sE:=jq zd F ze [.r,.r,.l,.b] f316 Ve 2
theorem Gu (p:List D4)(iM x x1 x2 x3:Int):zf F κ (n+1) (sD p iM x x1 x2 x3)=br (decide (iM<(p.length:Int))) (ck (cc iM (p.length:Int)) ((uk F0 (aN p iM K4.aF) (x,x1,x2,x3)).bind fun N7=>br N7.1 (zf F κ n (sD p (aj (iM+1)) x x1 x2 x3)) (κ (.exit 0) (qn p iM x x1 x2 x3)))) (κ (.exit 0) (qn p iM x x1 x2 x3)):=by kernel_rfl
theorem abg (p:List D4)(iM x x1 x2 x3:Int):sE F (.exit 0) (qn p iM x x1 x2 x3)=ck (Si 0 iM (p.length:Int)) (ck (fe F 0 ((p.take iM.toNat).drop (0:Int).toNat).length 32) (ck (fe F ([]++((p.take iM.toNat).drop (0:Int).toNat)).length [(x,x1,x2,x3)].length 32) (ck (Si iM (p.length:Int) (p.length:Int)) (ck (fe F (([]++((p.take iM.toNat).drop (0:Int).toNat))++[(x,x1,x2,x3)]).length ((p.take (p.length:Int).toNat).drop iM.toNat).length 32) ((Ek F0 ((([]++((p.take iM.toNat).drop (0:Int).toNat))++[(x,x1,x2,x3)])++((p.take (p.length:Int).toNat).drop iM.toNat))).bind fun Hr=>br (!Hr.1) (ck (fe F 0 p.length 32) (some ([]++p,false,()))) (some ((([]++((p.take iM.toNat).drop (0:Int).toNat))++[(x,x1,x2,x3)])++((p.take (p.length:Int).toNat).drop iM.toNat),true,()))))))):=by kernel_rfl
abbrev aCI:List (Ty×Bool):=[(K5,false),(K4,true)]
def HM (p:D5)(x:D4):=bD zd F ze f316 aCI Ve 2 (p,x,())
theorem akt (p:D5)(x:D4):HM F p x=zf F (sE F) F.n (sD p 0 x.1 x.2.1 x.2.2.1 x.2.2.2):=by kernel_rfl
def PB:Any:=.one ⟨aCI,Ve,2,fun x=>HM F0 x.1 x.2.1⟩
theorem aku:bo 316 PB:=ay zd ⟨Vg,O0,trivial⟩ func316 ze (by kernel_rfl)
def ZB:=[(58,cm),(73,cZ),(316,PB)]
abbrev aCJ:List (Ty×Bool):=[(K1,true),(c8,true),(K4,true)]
def Ml (c:D1)(r:bu)(x:D4):=bD ZB F ab f274 aCJ hJ 2 (c,r,x,())
theorem anQ (c:D1)(r:bu)(x:D4):Ml F c r x=(bj F0 r).bind fun cR=>(eb F0 c r).bind fun oW=>br (!oW.1) (some (cR.1,false,())) ((HM F0 r.2.2.2.2.1 x).bind fun gB=>br gB.2.1 (some ((cR.1.1,cR.1.2.1,cR.1.2.2.1,cR.1.2.2.2.1,gB.1,cR.1.2.2.2.2.2),gB.2.1,())) (some (cR.1,gB.2.1,()))):=by kernel_rfl
def S2:Any:=.one ⟨aCJ,hJ,2,fun x=>Ml F0 x.1 x.2.1 x.2.2.1⟩
theorem anR:bo 274 S2:=ay ZB ⟨cX,dD,aku,trivial⟩ func274 ab (by kernel_rfl)
def VN:=[(235,wQ),(272,Mj),(273,Mk),(274,S2)]
abbrev ZC:List (Ty×Bool):=[(K1,true),(c8,true),(K21,true)]
def HN (c:D1)(r:bu)(m:N6):=bD VN F ab f228 ZC hJ 2 (c,r,m,())
theorem akv (c:D1)(r:bu)(m:N6):HN F c r m=br (m.1==1) ((rf F0 c r m.2.2.1).bind fun Yr=>some (Yr.1,Yr.2.1,())) (br (m.1==2) ((C8 F0 c r m.2.2.2.1).bind fun Hr=>some (Hr.1,Hr.2.1,())) (br (m.1==3) ((C9 F0 c r m.2.1 m.2.2.2.2.1 m.2.2.2.2.2.1).bind fun Y8=>some (Y8.1,Y8.2.1,())) ((Ml F0 c r m.2.2.2.2.2.2).bind fun r63=>some (r63.1,r63.2.1,())))):=by kernel_rfl
def PC:Any:=.one ⟨ZC,hJ,2,fun x=>HN F0 x.1 x.2.1 x.2.2.1⟩
theorem akw:bo 228 PC:=ay VN ⟨Mi,agf,agi,anR,trivial⟩ func228 ab (by kernel_rfl)
def sF:=[(164,jP)]
def sG:Nat->Option Hint:=look [(3,{live:=[0,1,5,6],xl:=[5],rl:=[4]})]
def j9 (list:List D9)(view i:Int)(xs:List D9):= dY 30 [(0,jO 74 (K9) list),(1,bE view),(5,.v (.c (.own 1000000 none))),(6,bE i)] [] [aA 1000000 74 K9 xs]
def Gv (xs:List D9):= dY 30 [(5,.v (.c (.own 1000000 none)))] [] [aA 1000000 74 K9 xs]
def mT (st:St):Option α:=gA sF F sG [.r,.r,.l,.r,.b,.i] f229 κ n st
def wR:=jq sF F sG [.r,.r,.l,.r,.b] f229 Gg 2
theorem A3 (list:List D9)(view i:Int)(xs:List D9):mT F κ (n+1) (j9 list view i xs)=br (decide (i<(list.length:Int))) (ck (cc i (list.length:Int)) (br (decide ((aN list i K9.aF).1>=view)) (ck (cc i (list.length:Int)) ((hU F0 (aN list i K9.aF)).bind fun uc=>ck (fe F xs.length [uc.1].length 48) (mT F κ n (j9 list view (aj (i+1)) (xs++[uc.1]))))) (mT F κ n (j9 list view (aj (i+1)) xs)))) (κ (.exit 0) (Gv xs)):=by kernel_rfl
theorem VO (xs:List D9):wR F (.exit 0) (Gv xs)=some (xs,()):=by kernel_rfl
abbrev aCK:List (Ty×Bool):=[(K13,false),(.int .i64,false)]
def zg (list:D13)(view:Int):=bD sF F sG f229 aCK Gg 2 (list,view,())
theorem adx (list:D13)(view:Int):zg F list view=mT F (wR F) F.n (j9 list view 0 []):=by kernel_rfl
def JZ:Any:=.one ⟨aCK,Gg,2,fun x=>zg F0 x.1 x.2.1⟩
theorem ady:bo 229 JZ:=ay sF ⟨pb,trivial⟩ func229 sG (by kernel_rfl)
def adz:=[(73,cZ),(109,Fy),(110,wN),(111,JJ)]
def J0 (c:D1)(r:bu):=bD adz F ab f231 AQ nR 2 (c,r,())
theorem aq9 (c:D1)(r:bu):J0 F c r=(eb F0 c r).bind fun r9=>br (!r9.1) (some (([],[]),())) ((mM F0).bind fun cg=>(wO F0 r.2.2.2.1.2.2.2).bind fun fv=>(xw F0 cg.1 fv.1).bind fun N7=>some (N7.1,())):=by kernel_rfl
def VP:Any:=.one ⟨AQ,nR,2,fun x=>J0 F0 x.1 x.2.1⟩
theorem ara:bo 231 VP:=ay adz ⟨dD,Vw,L4,Zr,trivial⟩ func231 ab (by kernel_rfl)
end
end Go.Am.Tryz
namespace Go.Am.Tryz
open Go.Am Go.Proofs Go.Proofs.Tryz
noncomputable section
variable {α:Type} (F:rT) (κ:Ex->St->Option α) (n:Nat)
def vH:=[(167,HB)]
def vI:Nat->Option Hint:=look [(3,{live:=[0,3,5,6],xl:=[5],rl:=[4]})]
def lh (p:List D4)(i:Int)(l l1:List Int)(xs:List D4):= dY 35 [(0,jO 76 (K4) p),cL 3,(5,.v (.c (.own 1000000 none))),(6,bE i)] [(3,[.ro false 3 (.int .i64) l,.ro false 3 (.int .i64) l1])] [aA 1000000 76 K4 xs]
def J1 (xs:List D4):= dY 35 [(5,.v (.c (.own 1000000 none)))] [] [aA 1000000 76 K4 xs]
def pe (st:St):Option α:=gA vH F vI [.r,.r,.l,.r,.b,.i] f230 κ n st
def zh:=jq vH F vI [.r,.r,.l,.r,.b] f230 kz 2
theorem EB (p:List D4)(i:Int)(l l1:List Int)(xs:List D4):pe F κ (n+1) (lh p i l l1 xs)=br (decide (i<(p.length:Int))) (ck (cc i (p.length:Int)) ((JN F0 (l,l1) (aN p i K4.aF)).bind fun gB=>br (gB.2.1 != 2) (ck (cc i (p.length:Int)) (ck (fe F xs.length [(aN p i K4.aF)].length 32) (pe F κ n (lh p (aj (i+1)) l l1 (xs++[(aN p i K4.aF)]))))) (pe F κ n (lh p (aj (i+1)) l l1 xs)))) (κ (.exit 0) (J1 xs)):=by kernel_rfl
theorem Ys (xs:List D4):zh F (.exit 0) (J1 xs)=some (xs,()):=by kernel_rfl
def Da (p:D5)(l:D43):=bD vH F vI f230 aiA kz 2 (p,l,())
theorem agj (p:D5)(l:D43):Da F p l=pe F (zh F) F.n (lh p 0 l.1 l.2 []):=by kernel_rfl
def Mm:Any:=.one ⟨aiA,kz,2,fun x=>Da F0 x.1 x.2.1⟩
theorem agk:bo 230 Mm:=ay vH ⟨Vv,trivial⟩ func230 vI (by kernel_rfl)
def aiL:=[(58,cm),(73,cZ),(127,j6),(228,PC),(229,JZ),(230,Mm),(231,VP)]
def PD (c:D1)(r:bu)(m:N6):=bD aiL F ab f172 ZC hJ 2 (c,r,m,())
theorem auU (c:D1)(r:bu)(m:N6):PD F c r m=(eb F0 c r).bind fun cR=>br (!cR.1) ((bj F0 r).bind fun gU=>some (gU.1,false,())) ((fT F0 c m).bind fun fv=>br (!fv.1) ((bj F0 r).bind fun gU=>some (gU.1,false,())) ((HN F0 c r m).bind fun uc=>br (!uc.2.1) ((bj F0 r).bind fun Ho=>some (Ho.1,false,())) ((zg F0 uc.1.2.2.2.2.2.1 (aj (uc.1.2.1-1))).bind fun Um=>(J0 F0 c (uc.1.1,uc.1.2.1,uc.1.2.2.1,uc.1.2.2.2.1,uc.1.2.2.2.2.1,Um.1,uc.1.2.2.2.2.2.2)).bind fun r44=>(Da F0 uc.1.2.2.2.2.1 r44.1).bind fun r45=>some ((uc.1.1,uc.1.2.1,uc.1.2.2.1,uc.1.2.2.2.1,r45.1,Um.1,uc.1.2.2.2.2.2.2),true,())))):=by kernel_rfl
def Oa:Any:=.one ⟨ZC,hJ,2,fun x=>PD F0 x.1 x.2.1 x.2.2.1⟩
theorem adA:bo 172 Oa:=ay aiL ⟨cX,dD,pJ,akw,ady,agk,ara,trivial⟩ func172 ab (by kernel_rfl)
def ZD:=[(62,dz),(72,cI),(76,JE),(172,Oa)]
def xB (w:oV)(d:D45):Option (oV×Int×oV):=aqx Tryz.prog (look ZD) F ab f118 [(iL,true),(K45,true)] 0 (iL,true) (.int .i64,false) (iL,true) (w,d,())
theorem anS (w:oV)(d:D45):xB F w d=(bX F0 d.2.1 0 (aj ((w.2.2.2.1.length:Int)-1))).bind fun fv=>br (!fv.1) (some (iL.aF,2,w)) (ck (cc d.2.1 (w.2.2.2.1.length:Int)) (br (d.1==5) (br (decide ((w.2.2.2.1.length:Int)>=60)) (some (iL.aF,4,w)) (ck (fe F 0 (aN w.2.2.2.1 d.2.1 (0,[])).2.length 1) (ck (fe F w.2.2.2.1.length [((aN w.2.2.2.1 d.2.1 (0,[])).1,[]++(aN w.2.2.2.1 d.2.1 (0,[])).2)].length 32) (some ((w.1,w.2.1,w.2.2.1,w.2.2.2.1++[((aN w.2.2.2.1 d.2.1 (0,[])).1,[]++(aN w.2.2.2.1 d.2.1 (0,[])).2)],w.2.2.2.2),0,iL.aF))))) (ck (okT d.2.1 (w.2.2.2.1.length:Int)) (ck (Si (aj (d.2.1+1)) (w.2.2.2.1.length:Int) (w.2.2.2.1.length:Int)) (ck (fe F 0 (w.2.2.2.1.take d.2.1.toNat).length 32) (ck (fe F ([]++(w.2.2.2.1.take d.2.1.toNat)).length ((w.2.2.2.1.take (w.2.2.2.1.length:Int).toNat).drop (aj (d.2.1+1)).toNat).length 32) (br (d.1==3) ((dE F0 w.2.1 (aN w.2.2.2.1 d.2.1 (0,[])).1).bind fun r70=>br (!r70.1) ((JD F0 w.1 (aN w.2.2.2.1 d.2.1 (0,[])).2).bind fun IU=>ck (cc (aN w.2.2.2.1 d.2.1 (0,[])).1 (w.2.2.1.length:Int)) ((PD F0 w.1 (aN w.2.2.1 (aN w.2.2.2.1 d.2.1 (0,[])).1 c8.aF) IU.1).bind fun r91=>br r91.2.1 (ck (cc (aN w.2.2.2.1 d.2.1 (0,[])).1 (w.2.2.1.length:Int)) (some ((w.1,w.2.1,w.2.2.1.set (aN w.2.2.2.1 d.2.1 (0,[])).1.toNat r91.1,([]++(w.2.2.2.1.take d.2.1.toNat))++((w.2.2.2.1.take (w.2.2.2.1.length:Int).toNat).drop (aj (d.2.1+1)).toNat),w.2.2.2.2),0,iL.aF))) (some ((w.1,w.2.1,w.2.2.1,([]++(w.2.2.2.1.take d.2.1.toNat))++((w.2.2.2.1.take (w.2.2.2.1.length:Int).toNat).drop (aj (d.2.1+1)).toNat),w.2.2.2.2),0,iL.aF)))) (some ((w.1,w.2.1,w.2.2.1,([]++(w.2.2.2.1.take d.2.1.toNat))++((w.2.2.2.1.take (w.2.2.2.1.length:Int).toNat).drop (aj (d.2.1+1)).toNat),w.2.2.2.2),0,iL.aF))) (some ((w.1,w.2.1,w.2.2.1,([]++(w.2.2.2.1.take d.2.1.toNat))++((w.2.2.2.1.take (w.2.2.2.1.length:Int).toNat).drop (aj (d.2.1+1)).toNat),w.2.2.2.2),0,iL.aF))))))))):=by kernel_rfl
def S3:Any:=.sel ⟨[(iL,true),(K45,true)],0,(iL,true),(.int .i64,false),(iL,true),fun x=>xB F0 x.1 x.2.1⟩
theorem anT:bo 118 S3:=ok4 (show yd Tryz.prog TB ZD from⟨eA,dh,Zo,adA,trivial⟩) func118 (by kernel_rfl) (by kernel_rfl) ab (by kernel_rfl) (by kernel_rfl)
def Db:Nat->Option Hint:=look [(2,{live:=[0,1,2,3,9],rl:=[8]})]
def kH (list:List cl)(view:Int)(name:ByteArray)(dk i:Int):= cJ 41 [(0,jO 127 (dP) list),(1,bE view),(2,Y0 name),(3,bE dk),(9,bE i)]
def S4 (t8:Bool):= cJ 41 [(8,OV t8)]
def PE   := cJ 41 []
def pP (st:St):Option α:=gA aE F Db [.r,.l,.r,.b,.i] f275 κ n st
def vJ:=jq aE F Db [.r,.l,.r,.b] f275 aZ 1
theorem J2 (list:List cl)(view:Int)(name:ByteArray)(dk i:Int):pP F κ (n+1) (kH list view name dk i)=br (decide (i<(list.length:Int))) (ck (cc i (list.length:Int)) (br ((aN list i dP.aF).1==view) (ck (cc i (list.length:Int)) (br ((aN list i dP.aF).2.1.toList==name.toList) (ck (cc i (list.length:Int)) (br ((aN list i dP.aF).2.2==dk) (κ .ret (S4 true)) (pP F κ n (kH list view name dk (aj (i+1)))))) (pP F κ n (kH list view name dk (aj (i+1)))))) (pP F κ n (kH list view name dk (aj (i+1)))))) (κ (.exit 0) (PE)):=by kernel_rfl
theorem agl (t8:Bool):vJ F .ret (S4 t8)=some (t8,()):=by kernel_rfl
theorem adB: vJ F (.exit 0) (PE)=some (false,()):=by kernel_rfl
abbrev aJC:List (Ty×Bool):=[(K38,false),(.int .i64,false),(.str,false),(.int .i64,false)]
def EC (list:D38)(view:Int)(name:ByteArray)(dk:Int):=bD aE F Db f275 aJC aZ 1 (list,view,name,dk,())
theorem anU (list:D38)(view:Int)(name:ByteArray)(dk:Int):EC F list view name dk=pP F (vJ F) F.n (kH list view name dk 0):=by kernel_rfl
def FF:Any:=.one ⟨aJC,aZ,1,fun x=>EC F0 x.1 x.2.1 x.2.2.1 x.2.2.2.1⟩
theorem VQ:bo 275 FF:=ay aE trivial func275 Db (by kernel_rfl)
def Dc:=[(62,dz),(275,FF)]
def Dd:Nat->Option Hint:=look [(2,{live:=[0,1,2,3,4,11],rl:=[10]})]
def pf (liars:List Int)(list:List cl)(view:Int)(name:ByteArray)(dk:List Int)(i:Int):= cJ 36 [(0,jO 3 (.int .i64) liars),(1,jO 127 (dP) list),(2,bE view),(3,Y0 name),(4,jO 3 (.int .i64) dk),(11,bE i)]
def S5 (t10:Bool):= cJ 36 [(10,OV t10)]
def PF   := cJ 36 []
def uw (st:St):Option α:=gA Dc F Dd [.r,.l,.r,.b,.i] f232 κ n st
def vK:=jq Dc F Dd [.r,.l,.r,.b] f232 aZ 1
theorem J3 (liars:List Int)(list:List cl)(view:Int)(name:ByteArray)(dk:List Int)(i:Int):uw F κ (n+1) (pf liars list view name dk i)=br (decide (i<(dk.length:Int))) (ck (cc i (dk.length:Int)) ((dE F0 liars (aN dk i 0)).bind fun sg=>br (!sg.1) (ck (cc i (dk.length:Int)) ((EC F0 list view name (aN dk i 0)).bind fun ud=>br (!ud.1) (κ .ret (S5 false)) (uw F κ n (pf liars list view name dk (aj (i+1)))))) (uw F κ n (pf liars list view name dk (aj (i+1)))))) (κ (.exit 0) (PF)):=by kernel_rfl
theorem agm (t10:Bool):vK F .ret (S5 t10)=some (t10,()):=by kernel_rfl
theorem adC: vK F (.exit 0) (PF)=some (true,()):=by kernel_rfl
abbrev aCL:List (Ty×Bool):=[(.sl 3 (.int .i64),false),(K38,false),(.int .i64,false),(.str,false),(.sl 3 (.int .i64),false)]
def xC (liars:List Int)(list:D38)(view:Int)(name:ByteArray)(dk:List Int):=bD Dc F Dd f232 aCL aZ 1 (liars,list,view,name,dk,())
theorem anV (liars:List Int)(list:D38)(view:Int)(name:ByteArray)(dk:List Int):xC F liars list view name dk=uw F (vK F) F.n (pf liars list view name dk 0):=by kernel_rfl
def S6:Any:=.one ⟨aCL,aZ,1,fun x=>xC F0 x.1 x.2.1 x.2.2.1 x.2.2.2.1 x.2.2.2.2.1⟩
theorem anW:bo 232 S6:=ay Dc ⟨eA,VQ,trivial⟩ func232 Dd (by kernel_rfl)
def ZE:=[(62,dz),(78,dR),(106,jI),(127,j6),(232,S6)]
abbrev aCM:List (Ty×Bool):=[(K1,true),(.sl 3 (.int .i64),false),(K38,false),(K21,true)]
def Mn (c:D1)(liars:List Int)(list:D38)(m:N6):=bD ZE F ab f173 aCM aZ 1 (c,liars,list,m,())
theorem anX (c:D1)(liars:List Int)(list:D38)(m:N6):Mn F c liars list m=(fT F0 c m).bind fun dC=>br (!dC.1) (some (false,())) (br (m.1==1) ((dZ F0 m.2.2.1.1).bind fun gB=>(mL F0 c gB.1).bind fun sg=>(dE F0 liars sg.1).bind fun r24=>br r24.1 ((xC F0 liars list m.2.2.1.2.1 m.2.2.1.2.2.1 m.2.2.1.2.2.2).bind fun xv=>some (xv.1,())) (some (false,()))) (br (m.1==2) ((xC F0 liars list m.2.2.2.1.1 m.2.2.2.1.2.1 m.2.2.2.1.2.2).bind fun r55=>some (r55.1,())) (br (m.1==3) ((dE F0 liars m.2.2.2.2.2.1).bind fun IS=>br IS.1 ((xC F0 liars list m.2.2.2.2.1.1 m.2.2.2.2.1.2.1 m.2.2.2.2.1.2.2).bind fun r74=>some (r74.1,())) (some (false,()))) (some (true,()))))):=by kernel_rfl
def S7:Any:=.one ⟨aCM,aZ,1,fun x=>Mn F0 x.1 x.2.1 x.2.2.1 x.2.2.2.1⟩
theorem anY:bo 173 S7:=ay ZE ⟨eA,fj,oa,pJ,anW,trivial⟩ func173 ab (by kernel_rfl)
def zi:=[(276,iY)]
def zj:Nat->Option Hint:=look [(3,{live:=[0,3,4],xl:=[3],rl:=[2]})]
def sH (list:List Int)(i:Int)(xs:List Int):= dY 20 [(0,jO 3 (.int .i64) list),(3,.v (.c (.own 1000000 none))),(4,bE i)] [] [aA 1000000 5 (.int .u8) xs]
def Mo (xs:List Int):= dY 20 [(3,.v (.c (.own 1000000 none)))] [] [aA 1000000 5 (.int .u8) xs]
def zk (st:St):Option α:=gA zi F zj [.r,.r,.l,.r,.b,.i] f279 κ n st
def BR:=jq zi F zj [.r,.r,.l,.r,.b] f279 mu 2
theorem Gw (list:List Int)(i:Int)(xs:List Int):zk F κ (n+1) (sH list i xs)=br (decide (i<(list.length:Int))) (ck (cc i (list.length:Int)) ((eY F0 (aN list i 0)).bind fun fv=>ck (fe F xs.length fv.1.length 1) (zk F κ n (sH list (aj (i+1)) (xs++fv.1))))) (κ (.exit 0) (Mo xs)):=by kernel_rfl
theorem abh (xs:List Int):BR F (.exit 0) (Mo xs)=some (xs,()):=by kernel_rfl
def sI (list:List Int):=bD zi F zj f279 kB mu 2 (list,())
theorem akx (list:List Int):sI F list=zk F (BR F) F.n (sH list 0 []):=by kernel_rfl
def PG:Any:=.one ⟨kB,mu,2,fun x=>sI F0 x.1⟩
theorem aky:bo 279 PG:=ay zi ⟨mP,trivial⟩ func279 zj (by kernel_rfl)
def S8:=[(127,j6),(276,iY),(277,sw),(278,BM),(279,PG)]
def De (c:D1)(m:N6):=bD S8 F ab f233 aiv mu 2 (c,m,())
theorem agn (c:D1)(m:N6):De F c m=(fT F0 c m).bind fun r8=>br (!r8.1) (some ([],())) ((eY F0 m.1).bind fun cg=>br (m.1==1) ((og F0 m.2.2.1.1).bind fun gB=>ck (fe F cg.1.length gB.1.length 1) ((sy F0 c m.2.2.1.2).bind fun Ri=>ck (fe F (cg.1++gB.1).length Ri.1.length 1) (some ((cg.1++gB.1)++Ri.1,())))) (br (m.1==2) ((eY F0 m.2.2.2.1.1).bind fun Hr=>ck (fe F cg.1.length Hr.1.length 1) ((og F0 m.2.2.2.1.2.1).bind fun OA=>ck (fe F (cg.1++Hr.1).length OA.1.length 1) ((eY F0 (m.2.2.2.1.2.2.length:Int)).bind fun Fb=>ck (fe F ((cg.1++Hr.1)++OA.1).length Fb.1.length 1) ((sI F0 m.2.2.2.1.2.2).bind fun r56=>ck (fe F (((cg.1++Hr.1)++OA.1)++Fb.1).length r56.1.length 1) (some ((((cg.1++Hr.1)++OA.1)++Fb.1)++r56.1,())))))) (br (m.1==3) ((sI F0 [m.2.1,m.2.2.2.2.2.1]).bind fun r66=>ck (fe F cg.1.length r66.1.length 1) ((sy F0 c m.2.2.2.2.1).bind fun Zt=>ck (fe F (cg.1++r66.1).length Zt.1.length 1) (some ((cg.1++r66.1)++Zt.1,())))) ((sI F0 [m.2.2.2.2.2.2.1,m.2.2.2.2.2.2.2.1,m.2.2.2.2.2.2.2.2.1,m.2.2.2.2.2.2.2.2.2]).bind fun r88=>ck (fe F cg.1.length r88.1.length 1) (some (cg.1++r88.1,())))))):=by kernel_rfl
def Mp:Any:=.one ⟨aiv,mu,2,fun x=>De F0 x.1 x.2.1⟩
theorem ago:bo 233 Mp:=ay S8 ⟨pJ,mP,FC,SO,aky,trivial⟩ func233 ab (by kernel_rfl)
def zl:=[(72,cI),(233,Mp)]
def zm:Nat->Option Hint:=look [(2,{live:=[1,2,4,5],aJN:=true,x7:=[(4,2,3,.int .i64),(4,3,50,c8),(4,4,114,fC),(4,5,127,dP)],xl:=[2,4],rl:=[4]})]
def gK (list:List lJ)(i w w1 t4 t41:Int)(xs:List Int)(aK:List bu)(aV:List cG)(bm:List cl)(bK:List Int)(cA:List bu)(cB:List cG)(cE:List cl):St:={nt:=55,tm:=[(1,jO 146 (qN) list),cL 2,cL 4,(5,bE i)],bx:=[(2,[aq w,aq w1,.own 1000000 none,.own 1000001 none,.own 1000002 none,.own 1000003 none]),(4,[aq t4,aq t41,.own 1000004 none,.own 1000005 none,.own 1000006 none,.own 1000007 none])],bl:=[aA 1000000 3 (.int .i64) xs,aA 1000001 50 c8 aK,aA 1000002 114 fC aV,aA 1000003 127 dP bm,aA 1000004 3 (.int .i64) bK,aA 1000005 50 c8 cA,aA 1000006 114 fC cB,aA 1000007 127 dP cE],sp:=.v (.c (.none))}
def Mq (w w1 t4 t41:Int)(xs:List Int)(aK:List bu)(aV:List cG)(bm:List cl)(bK:List Int)(cA:List bu)(cB:List cG)(cE:List cl):St:={nt:=55,tm:=[cL 2,cL 4],bx:=[(2,[aq w,aq w1,.own 1000000 none,.own 1000001 none,.own 1000002 none,.own 1000003 none]),(4,[aq t4,aq t41,.own 1000004 none,.own 1000005 none,.own 1000006 none,.own 1000007 none])],bl:=[aA 1000000 3 (.int .i64) xs,aA 1000001 50 c8 aK,aA 1000002 114 fC aV,aA 1000003 127 dP bm,aA 1000004 3 (.int .i64) bK,aA 1000005 50 c8 cA,aA 1000006 114 fC cB,aA 1000007 127 dP cE],sp:=.v (.c (.none))}
def ka (st:St):Option α:=gA zl F zm [.r,.l,.r,.b,.i] f174 κ n st
def BS:=axm zl F zm [.r,.l,.r,.b] f174 (.own true) gu [] 2
theorem Gx (list:List lJ)(i w w1 t4 t41:Int)(xs:List Int)(aK:List bu)(aV:List cG)(bm:List cl)(bK:List Int)(cA:List bu)(cB:List cG)(cE:List cl):ka F κ (n+1) (gK list i w w1 t4 t41 xs aK aV bm bK cA cB cE)=br (decide (i<(list.length:Int))) (ck (cc i (list.length:Int)) ((De F0 (w,w1) (aN list i qN.aF).2).bind fun Ej=>br (decide ((aV.length:Int)<60)) (br (decide ((Ej.1.length:Int)>0)) (ck (cc i (list.length:Int)) ((bX F0 (aN list i qN.aF).1 0 (aj (w-1))).bind fun xv=>br xv.1 (ck (cc i (list.length:Int)) (ck (fe F aV.length [((aN list i qN.aF).1,Ej.1)].length 32) (ka F κ n (gK list (aj (i+1)) w w1 t4 t41 xs aK (aV++[((aN list i qN.aF).1,Ej.1)]) bm bK cA cB cE)))) (ka F κ n (gK list (aj (i+1)) w w1 t4 t41 xs aK aV bm bK cA cB cE)))) (ka F κ n (gK list (aj (i+1)) w w1 t4 t41 xs aK aV bm bK cA cB cE))) (ka F κ n (gK list (aj (i+1)) w w1 t4 t41 xs aK aV bm bK cA cB cE)))) (κ (.exit 0) (Mq w w1 t4 t41 xs aK aV bm bK cA cB cE)):=by kernel_rfl
theorem abi (w w1 t4 t41:Int)(xs:List Int)(aK:List bu)(aV:List cG)(bm:List cl)(bK:List Int)(cA:List bu)(cB:List cG)(cE:List cl):BS F (.exit 0) (Mq w w1 t4 t41 xs aK aV bm bK cA cB cE)=some ((((w,w1),xs,aK,aV,bm),()),()):=by kernel_rfl
abbrev aCN:List (Ty×Bool):=[(iL,true),(K23,false)]
def zn (w:oV)(list:D23):=Ei zl F zm f174 aCN 0 (.own true) gu [] 2 (w,list,())
theorem akz (w:oV)(list:D23):zn F w list=ka F (BS F) F.n (gK list 0 w.1.1 w.1.2 0 0 w.2.1 w.2.2.1 w.2.2.2.1 w.2.2.2.2 [] [] [] []):=by kernel_rfl
def BU:Any:=.two ⟨aCN,0,(.own true),gu,2,[],fun x=>zn F0 x.1 x.2.1⟩
theorem S9:bo 174 BU:=aAi zl ⟨dh,ago,trivial⟩ func174 zm (by kernel_rfl)
def ZF:=[(72,cI),(173,S7),(174,BU)]
def Mr (w:oV)(d:D45):Option (oV×Int×oV):=aqx Tryz.prog (look ZF) F ab f119 [(iL,true),(K45,true)] 0 (iL,true) (.int .i64,false) (iL,true) (w,d,())
theorem anZ (w:oV)(d:D45):Mr F w d=(bX F0 d.2.1 0 (aj (w.1.1-1))).bind fun cR=>br (!cR.1) (some (iL.aF,2,w)) ((Mn F0 w.1 w.2.1 w.2.2.2.2 d.2.2.2).bind fun sg=>br (!sg.1) (some (iL.aF,5,w)) (br (decide ((w.2.2.2.1.length:Int)>=60)) (some (iL.aF,4,w)) ((zn F0 w [(d.2.1,d.2.2.2)]).bind fun Um=>some (Um.1.1,0,iL.aF)))):=by kernel_rfl
def Ta:Any:=.sel ⟨[(iL,true),(K45,true)],0,(iL,true),(.int .i64,false),(iL,true),fun x=>Mr F0 x.1 x.2.1⟩
theorem an0:bo 119 Ta:=ok4 (show yd Tryz.prog TB ZF from⟨dh,anY,S9,trivial⟩) func119 (by kernel_rfl) (by kernel_rfl) ab (by kernel_rfl) (by kernel_rfl)
def Df:=[(62,dz)]
def Dg:Nat->Option Hint:=look [(3,{live:=[1,3,4],xl:=[3],rl:=[2]})]
def kI (i w w1:Int)(w2:List Int)(w3:List bu)(w4:List cG)(w5:List cl)(xs:List Int):= dY 23 [cL 1,(3,.v (.c (.own 1000000 none))),(4,bE i)] [(1,[aq w,aq w1,.ro false 3 (.int .i64) w2,.ro false 50 (c8) w3,.ro false 114 (fC) w4,.ro false 127 (dP) w5])] [aA 1000000 3 (.int .i64) xs]
def PH (xs:List Int):= dY 23 [(3,.v (.c (.own 1000000 none)))] [] [aA 1000000 3 (.int .i64) xs]
def pQ (st:St):Option α:=gA Df F Dg [.r,.r,.l,.r,.b,.i] f120 κ n st
def vL:=jq Df F Dg [.r,.r,.l,.r,.b] f120 kB 2
theorem J4 (i w w1:Int)(w2:List Int)(w3:List bu)(w4:List cG)(w5:List cl)(xs:List Int):pQ F κ (n+1) (kI i w w1 w2 w3 w4 w5 xs)=br (decide (i<(w3.length:Int))) ((dE F0 w2 i).bind fun nL=>br (!nL.1) (ck (fe F xs.length [i].length 8) (pQ F κ n (kI (aj (i+1)) w w1 w2 w3 w4 w5 (xs++[i])))) (pQ F κ n (kI (aj (i+1)) w w1 w2 w3 w4 w5 xs))) (κ (.exit 0) (PH xs)):=by kernel_rfl
theorem adD (xs:List Int):vL F (.exit 0) (PH xs)=some (xs,()):=by kernel_rfl
def ED (w:oV):=bD Df F Dg f120 gu kB 2 (w,())
theorem an1 (w:oV):ED F w=pQ F (vL F) F.n (kI 0 w.1.1 w.1.2 w.2.1 w.2.2.1 w.2.2.2.1 w.2.2.2.2 []):=by kernel_rfl
def FG:Any:=.one ⟨gu,kB,2,fun x=>ED F0 x.1⟩
theorem VR:bo 120 FG:=ay Df ⟨eA,trivial⟩ func120 Dg (by kernel_rfl)
def zo:=[(58,cm),(73,cZ),(241,mS)]
def zp:Nat->Option Hint:=look [(5,{live:=[3,4,5,6,8,9],x7:=[(6,7,3,.int .i64),(6,9,76,K4),(6,10,74,K9),(6,11,5,.int .u8),(6,13,146,qN)],xl:=[6,8],rl:=[6,7]})]
def mU (i c c1 r r1 r2 r3 r4 r5:Int)(r6:ByteArray)(r7:List Int)(r8:ByteArray)(r9:List D4)(gZ:List D9)(dC:List Int)(cR:Int)(cg:List lJ)(m m1:Int)(m2:ByteArray)(m3:Int)(m4:ByteArray)(m5:List Int)(m6:Int)(m7:ByteArray)(m8:List Int)(m9:Int)(m10:ByteArray)(m11:List Int)(m12 m13 m14 m15 m16 t6 t61 t62 t63 t64 t65:Int)(t66 t67:ByteArray)(t68 out bh rh ri rj rk:Int)(J5 J6:ByteArray)(J7:Int)(xs:List Int)(aK:List D4)(aV:List D9)(bm:List Int)(bK:List lJ)(cA:List Int)(cB:List D4)(cE:List D9)(oX:List Int)(FH:List lJ):= dY 43 [cL 3,cL 4,cL 5,cL 6,cL 8,(9,bE i)] [(3,[aq c,aq c1]),(4,[aq r,aq r1,aq r2,aq r3,aq r4,aq r5,.str r6,.ro false 3 (.int .i64) r7,.str r8,.ro false 76 (K4) r9,.ro false 74 (K9) gZ,.ro false 5 (.int .u8) dC,aq cR,.ro false 146 (qN) cg]),(5,[aq m,aq m1,.str m2,aq m3,.str m4,.ro false 3 (.int .i64) m5,aq m6,.str m7,.ro false 3 (.int .i64) m8,aq m9,.str m10,.ro false 3 (.int .i64) m11,aq m12,aq m13,aq m14,aq m15,aq m16]),(6,[aq t6,aq t61,aq t62,aq t63,aq t64,aq t65,.str t66,.own 1000000 none,.str t67,.own 1000001 none,.own 1000002 none,.own 1000003 none,aq t68,.own 1000004 none]),(8,[aq out,aq bh,aq rh,aq ri,aq rj,aq rk,.str J5,.own 1000005 none,.str J6,.own 1000006 none,.own 1000007 none,.own 1000008 none,aq J7,.own 1000009 none])] [aA 1000000 3 (.int .i64) xs,aA 1000001 76 K4 aK,aA 1000002 74 K9 aV,aA 1000003 5 (.int .u8) bm,aA 1000004 146 qN bK,aA 1000005 3 (.int .i64) cA,aA 1000006 76 K4 cB,aA 1000007 74 K9 cE,aA 1000008 5 (.int .u8) oX,aA 1000009 146 qN FH]
def PI (t7:Bool)(t6 t61 t62 t63 t64 t65:Int)(t66 t67:ByteArray)(t68:Int)(xs:List Int)(aK:List D4)(aV:List D9)(bm:List Int)(bK:List lJ):= dY 43 [cL 6,(7,OV t7)] [(6,[aq t6,aq t61,aq t62,aq t63,aq t64,aq t65,.str t66,.own 1000000 none,.str t67,.own 1000001 none,.own 1000002 none,.own 1000003 none,aq t68,.own 1000004 none])] [aA 1000000 3 (.int .i64) xs,aA 1000001 76 K4 aK,aA 1000002 74 K9 aV,aA 1000003 5 (.int .u8) bm,aA 1000004 146 qN bK]
def Ms (t6 t61 t62 t63 t64 t65:Int)(t66 t67:ByteArray)(t68 out bh rh ri rj rk:Int)(J5 J6:ByteArray)(J7:Int)(xs:List Int)(aK:List D4)(aV:List D9)(bm:List Int)(bK:List lJ)(cA:List Int)(cB:List D4)(cE:List D9)(oX:List Int)(FH:List lJ):= dY 43 [cL 6,cL 8] [(6,[aq t6,aq t61,aq t62,aq t63,aq t64,aq t65,.str t66,.own 1000000 none,.str t67,.own 1000001 none,.own 1000002 none,.own 1000003 none,aq t68,.own 1000004 none]),(8,[aq out,aq bh,aq rh,aq ri,aq rj,aq rk,.str J5,.own 1000005 none,.str J6,.own 1000006 none,.own 1000007 none,.own 1000008 none,aq J7,.own 1000009 none])] [aA 1000000 3 (.int .i64) xs,aA 1000001 76 K4 aK,aA 1000002 74 K9 aV,aA 1000003 5 (.int .u8) bm,aA 1000004 146 qN bK,aA 1000005 3 (.int .i64) cA,aA 1000006 76 K4 cB,aA 1000007 74 K9 cE,aA 1000008 5 (.int .u8) oX,aA 1000009 146 qN FH]
def rm (st:St):Option α:=gA zo F zp [.r,.r,.r,.l,.r,.b,.i] f234 κ n st
def sJ:=jq zo F zp [.r,.r,.r,.l,.r,.b] f234 hJ 2
theorem Gy (i c c1 r r1 r2 r3 r4 r5:Int)(r6:ByteArray)(r7:List Int)(r8:ByteArray)(r9:List D4)(gZ:List D9)(dC:List Int)(cR:Int)(cg:List lJ)(m m1:Int)(m2:ByteArray)(m3:Int)(m4:ByteArray)(m5:List Int)(m6:Int)(m7:ByteArray)(m8:List Int)(m9:Int)(m10:ByteArray)(m11:List Int)(m12 m13 m14 m15 m16 t6 t61 t62 t63 t64 t65:Int)(t66 t67:ByteArray)(t68 out bh rh ri rj rk:Int)(J5 J6:ByteArray)(J7:Int)(xs:List Int)(aK:List D4)(aV:List D9)(bm:List Int)(bK:List lJ)(cA:List Int)(cB:List D4)(cE:List D9)(oX:List Int)(FH:List lJ):rm F κ (n+1) (mU i c c1 r r1 r2 r3 r4 r5 r6 r7 r8 r9 gZ dC cR cg m m1 m2 m3 m4 m5 m6 m7 m8 m9 m10 m11 m12 m13 m14 m15 m16 t6 t61 t62 t63 t64 t65 t66 t67 t68 out bh rh ri rj rk J5 J6 J7 xs aK aV bm bK cA cB cE oX FH)=br (decide (i<c)) (br (i==r) (rm F κ n (mU (aj (i+1)) c c1 r r1 r2 r3 r4 r5 r6 r7 r8 r9 gZ dC cR cg m m1 m2 m3 m4 m5 m6 m7 m8 m9 m10 m11 m12 m13 m14 m15 m16 t6 t61 t62 t63 t64 t65 t66 t67 t68 out bh rh ri rj rk J5 J6 J7 xs aK aV bm bK cA cB cE oX FH)) ((fZ F0 (c,c1) (out,bh,rh,(ri,rj,(rk,J5,cA),J6),cB,cE,(oX,J7),FH) i (m,m1,(m2,m3,m4,m5),(m6,m7,m8),(m9,m10,m11),m12,m13,m14,m15,m16)).bind fun qM=>br (!qM.1.2.1) ((bj F0 (r,r1,r2,(r3,r4,(r5,r6,r7),r8),r9,gZ,(dC,cR),cg)).bind fun xv=>κ .ret (PI false xv.1.1 xv.1.2.1 xv.1.2.2.1 xv.1.2.2.2.1.1 xv.1.2.2.2.1.2.1 xv.1.2.2.2.1.2.2.1.1 xv.1.2.2.2.1.2.2.1.2.1 xv.1.2.2.2.1.2.2.2 xv.1.2.2.2.2.2.2.1.2 xv.1.2.2.2.1.2.2.1.2.2 xv.1.2.2.2.2.1 xv.1.2.2.2.2.2.1 xv.1.2.2.2.2.2.2.1.1 xv.1.2.2.2.2.2.2.2)) (rm F κ n (mU (aj (i+1)) c c1 r r1 r2 r3 r4 r5 r6 r7 r8 r9 gZ dC cR cg m m1 m2 m3 m4 m5 m6 m7 m8 m9 m10 m11 m12 m13 m14 m15 m16 t6 t61 t62 t63 t64 t65 t66 t67 t68 qM.1.1.1 qM.1.1.2.1 qM.1.1.2.2.1 qM.1.1.2.2.2.1.1 qM.1.1.2.2.2.1.2.1 qM.1.1.2.2.2.1.2.2.1.1 qM.1.1.2.2.2.1.2.2.1.2.1 qM.1.1.2.2.2.1.2.2.2 qM.1.1.2.2.2.2.2.2.1.2 xs aK aV bm bK qM.1.1.2.2.2.1.2.2.1.2.2 qM.1.1.2.2.2.2.1 qM.1.1.2.2.2.2.2.1 qM.1.1.2.2.2.2.2.2.1.1 qM.1.1.2.2.2.2.2.2.2)))) (κ (.exit 0) (Ms t6 t61 t62 t63 t64 t65 t66 t67 t68 out bh rh ri rj rk J5 J6 J7 xs aK aV bm bK cA cB cE oX FH)):=by kernel_rfl
theorem adE (t7:Bool)(t6 t61 t62 t63 t64 t65:Int)(t66 t67:ByteArray)(t68:Int)(xs:List Int)(aK:List D4)(aV:List D9)(bm:List Int)(bK:List lJ):sJ F .ret (PI t7 t6 t61 t62 t63 t64 t65 t66 t67 t68 xs aK aV bm bK)=some ((t6,t61,t62,(t63,t64,(t65,t66,xs),t67),aK,aV,(bm,t68),bK),t7,()):=by kernel_rfl
theorem abj (t6 t61 t62 t63 t64 t65:Int)(t66 t67:ByteArray)(t68 out bh rh ri rj rk:Int)(J5 J6:ByteArray)(J7:Int)(xs:List Int)(aK:List D4)(aV:List D9)(bm:List Int)(bK:List lJ)(cA:List Int)(cB:List D4)(cE:List D9)(oX:List Int)(FH:List lJ):sJ F (.exit 0) (Ms t6 t61 t62 t63 t64 t65 t66 t67 t68 out bh rh ri rj rk J5 J6 J7 xs aK aV bm bK cA cB cE oX FH)=some ((out,bh,rh,(ri,rj,(rk,J5,cA),J6),cB,cE,(oX,J7),FH),true,()):=by kernel_rfl
def zq (c:D1)(r:bu)(m:N6):=bD zo F zp f234 ZC hJ 2 (c,r,m,())
theorem akA (c:D1)(r:bu)(m:N6):zq F c r m=(bj F0 r).bind fun cg=>(eb F0 c r).bind fun nL=>br (!nL.1) (some (cg.1,false,())) (rm F (sJ F) F.n (mU 0 c.1 c.2 r.1 r.2.1 r.2.2.1 r.2.2.2.1.1 r.2.2.2.1.2.1 r.2.2.2.1.2.2.1.1 r.2.2.2.1.2.2.1.2.1 r.2.2.2.1.2.2.1.2.2 r.2.2.2.1.2.2.2 r.2.2.2.2.1 r.2.2.2.2.2.1 r.2.2.2.2.2.2.1.1 r.2.2.2.2.2.2.1.2 r.2.2.2.2.2.2.2 m.1 m.2.1 m.2.2.1.1 m.2.2.1.2.1 m.2.2.1.2.2.1 m.2.2.1.2.2.2 m.2.2.2.1.1 m.2.2.2.1.2.1 m.2.2.2.1.2.2 m.2.2.2.2.1.1 m.2.2.2.2.1.2.1 m.2.2.2.2.1.2.2 m.2.2.2.2.2.1 m.2.2.2.2.2.2.1 m.2.2.2.2.2.2.2.1 m.2.2.2.2.2.2.2.2.1 m.2.2.2.2.2.2.2.2.2 0 0 0 0 0 0 al al 0 cg.1.1 cg.1.2.1 cg.1.2.2.1 cg.1.2.2.2.1.1 cg.1.2.2.2.1.2.1 cg.1.2.2.2.1.2.2.1.1 cg.1.2.2.2.1.2.2.1.2.1 cg.1.2.2.2.1.2.2.2 cg.1.2.2.2.2.2.2.1.2 [] [] [] [] [] cg.1.2.2.2.1.2.2.1.2.2 cg.1.2.2.2.2.1 cg.1.2.2.2.2.2.1 cg.1.2.2.2.2.2.2.1.1 cg.1.2.2.2.2.2.2.2)):=by kernel_rfl
def PJ:Any:=.one ⟨ZC,hJ,2,fun x=>zq F0 x.1 x.2.1 x.2.2.1⟩
theorem akB:bo 234 PJ:=ay zo ⟨cX,dD,vF,trivial⟩ func234 zp (by kernel_rfl)
def ZG:=[(58,cm),(61,Rj),(234,PJ),(235,wQ)]
def Mt (w:oV)(a:Int):Option (oV×Int×oV):=aqx Tryz.prog (look ZG) F ab f175 [(iL,true),(.int .i64,false)] 0 (iL,true) (.int .i64,false) (iL,true) (w,a,())
theorem an2 (w:oV)(a:Int):Mt F w a=ck (cc a (w.2.2.1.length:Int)) ((Vz F0 w.1 (aN w.2.2.1 a c8.aF)).bind fun gU=>br (!gU.2.1) (some (iL.aF,3,w)) (ck (cc a (w.2.2.1.length:Int)) ((bj F0 (aN w.2.2.1 a c8.aF)).bind fun Ho=>(zq F0 w.1 (Ho.1.1,Ho.1.2.1,Ho.1.2.1,Ho.1.2.2.2) (1,0,gU.1,(0,al,[]),(0,al,[]),0,0,0,0,0)).bind fun r42=>(rf F0 w.1 r42.1 gU.1).bind fun Fb=>br (!r42.2.1) (some (iL.aF,4,w)) (br (!Fb.2.1) (some (iL.aF,4,w)) (ck (cc a (w.2.2.1.length:Int)) (some ((w.1,w.2.1,w.2.2.1.set a.toNat Fb.1,w.2.2.2),0,iL.aF))))))):=by kernel_rfl
def Tb:Any:=.sel ⟨[(iL,true),(.int .i64,false)],0,(iL,true),(.int .i64,false),(iL,true),fun x=>Mt F0 x.1 x.2.1⟩
theorem an3:bo 175 Tb:=ok4 (show yd Tryz.prog TB ZG from⟨cX,aiC,akB,Mi,trivial⟩) func175 (by kernel_rfl) (by kernel_rfl) ab (by kernel_rfl) (by kernel_rfl)
def aiN:=[(104,mI),(126,o9)]
def XE (d:D14):=bD aiN F ab f285 p8 p8 2 (d,())
theorem auV (d:D14):XE F d=(jt F0 d).bind fun r5=>(nQ F0 d).bind fun r7=>br r7.1 (some ((r5.1.1,(d.1.length:Int)),())) (some (r5.1,())):=by kernel_rfl
def ZH:Any:=.one ⟨p8,p8,2,fun x=>XE F0 x.1⟩
theorem auW:bo 285 ZH:=ay aiN ⟨vi,yz,trivial⟩ func285 ab (by kernel_rfl)
def VS:=[(58,cm),(73,cZ),(105,yN),(285,ZH)]
abbrev aCO:List (Ty×Bool):=[(c8,true),(K23,false)]
def HO (c:D1)(r:bu):=bD VS F ab f236 AQ aCO 2 (c,r,())
theorem akC (c:D1)(r:bu):HO F c r=(bj F0 r).bind fun r8=>(eb F0 c r).bind fun dC=>br (!dC.1) (some (r8.1,[],())) ((XE F0 r.2.2.2.2.2.2.1).bind fun fv=>(uq F0 r.2.2.2.2.2.2.2).bind fun sg=>some ((r8.1.1,r8.1.2.1,r8.1.2.2.1,r8.1.2.2.2.1,r8.1.2.2.2.2.1,r8.1.2.2.2.2.2.1,fv.1,[]),sg.1,())):=by kernel_rfl
def PK:Any:=.one ⟨AQ,aCO,2,fun x=>HO F0 x.1 x.2.1⟩
theorem akD:bo 236 PK:=ay VS ⟨cX,dD,Pd,auW,trivial⟩ func236 ab (by kernel_rfl)
def ZI:=[(62,dz)]
abbrev aCP:List (Ty×Bool):=[(.int .i64,false),(K21,true)]
def Mu (id:Int)(m:N6):=bD ZI F ab f286 aCP [(K38,false)] 2 (id,m,())
theorem an4 (id:Int)(m:N6):Mu F id m=br (m.1==2) (br (m.1==4) (some ([],())) (br (m.2.2.2.1.2.1.toList==al.toList) (some ([],())) ((dE F0 m.2.2.2.1.2.2 id).bind fun LG=>br (!LG.1) (some ([],())) (some ([(m.2.2.2.1.1,m.2.2.2.1.2.1,id)],()))))) (br (m.1==1) (br (m.1==4) (some ([],())) (br (m.2.2.1.2.2.1.toList==al.toList) (some ([],())) ((dE F0 m.2.2.1.2.2.2 id).bind fun LG=>br (!LG.1) (some ([],())) (some ([(m.2.2.1.2.1,m.2.2.1.2.2.1,id)],()))))) (br (m.1==4) (some ([],())) (br (m.2.2.2.2.1.2.1.toList==al.toList) (some ([],())) ((dE F0 m.2.2.2.2.1.2.2 id).bind fun LG=>br (!LG.1) (some ([],())) (some ([(m.2.2.2.2.1.1,m.2.2.2.2.1.2.1,id)],())))))):=by kernel_rfl
def Tc:Any:=.one ⟨aCP,[(K38,false)],2,fun x=>Mu F0 x.1 x.2.1⟩
theorem an5:bo 286 Tc:=ay ZI ⟨eA,trivial⟩ func286 ab (by kernel_rfl)
def oh:=[(26,BI),(62,dz),(120,FG),(275,FF),(286,Tc)]
def om:Nat->Option Hint:=look [(5,{live:=[1,2,6,7,8],x7:=[(6,2,3,.int .i64),(6,3,50,c8),(6,4,114,fC),(6,5,127,dP)],xl:=[6,7],rl:=[6]}),(9,{live:=[1,2,6,7,8,9,10],xl:=[1,2,6,7,8],rl:=[6]})]
def mV (id:Int)(list:List lJ)(i k t6 t61 out bh:Int)(xs:List cl)(aK:List Int)(aV:List bu)(bm:List cG)(bK:List cl)(cA:List Int)(cB:List bu)(cE:List cG)(oX:List cl):= dY 66 [(1,bE id),(2,jO 146 (qN) list),cL 6,cL 7,(8,bE i),(9,.v (.c (.own 1000000 none))),(10,bE k)] [(6,[aq t6,aq t61,.own 1000001 none,.own 1000002 none,.own 1000003 none,.own 1000004 none]),(7,[aq out,aq bh,.own 1000005 none,.own 1000006 none,.own 1000007 none,.own 1000008 none])] [aA 1000000 127 dP xs,aA 1000001 3 (.int .i64) aK,aA 1000002 50 c8 aV,aA 1000003 114 fC bm,aA 1000004 127 dP bK,aA 1000005 3 (.int .i64) cA,aA 1000006 50 c8 cB,aA 1000007 114 fC cE,aA 1000008 127 dP oX]
def Td (id:Int)(list:List lJ)(i t6 t61 out bh:Int)(xs:List Int)(aK:List bu)(aV:List cG)(bm:List cl)(bK:List Int)(cA:List bu)(cB:List cG)(cE:List cl):= dY 66 [(1,bE id),(2,jO 146 (qN) list),cL 6,cL 7,(8,bE i)] [(6,[aq t6,aq t61,.own 1000000 none,.own 1000001 none,.own 1000002 none,.own 1000003 none]),(7,[aq out,aq bh,.own 1000004 none,.own 1000005 none,.own 1000006 none,.own 1000007 none])] [aA 1000000 3 (.int .i64) xs,aA 1000001 50 c8 aK,aA 1000002 114 fC aV,aA 1000003 127 dP bm,aA 1000004 3 (.int .i64) bK,aA 1000005 50 c8 cA,aA 1000006 114 fC cB,aA 1000007 127 dP cE]
def sK (st:St):Option α:=gA oh F om [.r,.r,.r,.l,.r,.b,.i,.r,.l,.b,.r,.r,.b,.i] f237 κ n st
def J8:Ex->St->Option α:=afq Tryz.prog (look oh) F om [.r,.l,.b,.r,.r,.b] (sub [.r,.r,.r,.l,.r,.b,.i] (j1 f237)) (itk Tryz.prog (look oh) F om (sub [.r,.r,.r,.l,.r,.b,.i] (j1 f237)) κ n)
def zr (id:Int)(list:List lJ)(i t6 t61 out bh:Int)(xs:List Int)(aK:List bu)(aV:List cG)(bm:List cl)(bK:List Int)(cA:List bu)(cB:List cG)(cE:List cl):= dY 66 [(1,bE id),(2,jO 146 (qN) list),cL 6,cL 7,(8,bE i)] [(6,[aq t6,aq t61,.own 1000000 none,.own 1000001 none,.own 1000002 none,.own 1000003 none]),(7,[aq out,aq bh,.own 1000004 none,.own 1000005 none,.own 1000006 none,.own 1000007 none])] [aA 1000000 3 (.int .i64) xs,aA 1000001 50 c8 aK,aA 1000002 114 fC aV,aA 1000003 127 dP bm,aA 1000004 3 (.int .i64) bK,aA 1000005 50 c8 cA,aA 1000006 114 fC cB,aA 1000007 127 dP cE]
def Te (t6 t61 out bh:Int)(xs:List Int)(aK:List bu)(aV:List cG)(bm:List cl)(bK:List Int)(cA:List bu)(cB:List cG)(cE:List cl):= dY 66 [cL 6,cL 7] [(6,[aq t6,aq t61,.own 1000000 none,.own 1000001 none,.own 1000002 none,.own 1000003 none]),(7,[aq out,aq bh,.own 1000004 none,.own 1000005 none,.own 1000006 none,.own 1000007 none])] [aA 1000000 3 (.int .i64) xs,aA 1000001 50 c8 aK,aA 1000002 114 fC aV,aA 1000003 127 dP bm,aA 1000004 3 (.int .i64) bK,aA 1000005 50 c8 cA,aA 1000006 114 fC cB,aA 1000007 127 dP cE]
def HP (st:St):Option α:=gA oh F om [.r,.r,.r,.l,.r,.b,.i] f237 κ n st
def zt:=jq oh F om [.r,.r,.r,.l,.r,.b] f237 gu 2
theorem Mv (id:Int)(list:List lJ)(i k t6 t61 out bh:Int)(xs:List cl)(aK:List Int)(aV:List bu)(bm:List cG)(bK:List cl)(cA:List Int)(cB:List bu)(cE:List cG)(oX:List cl):sK F κ (n+1) (mV id list i k t6 t61 out bh xs aK aV bm bK cA cB cE oX)=br (decide (k<(xs.length:Int))) (ck (cc k (xs.length:Int)) (br (decide ((oX.length:Int)<300)) ((EC F0 oX (aN xs k dP.aF).1 (aN xs k dP.aF).2.1 (aN xs k dP.aF).2.2).bind fun r56=>br (!r56.1) (ck (fe F oX.length [(aN xs k dP.aF)].length 32) (sK F κ n (mV id list i (aj (k+1)) t6 t61 out bh xs aK aV bm bK cA cB cE (oX++[(aN xs k dP.aF)])))) (sK F κ n (mV id list i (aj (k+1)) t6 t61 out bh xs aK aV bm bK cA cB cE oX))) (sK F κ n (mV id list i (aj (k+1)) t6 t61 out bh xs aK aV bm bK cA cB cE oX)))) (κ (.exit 2) (Td id list i t6 t61 out bh aK aV bm bK cA cB cE oX)):=by kernel_rfl
theorem Mw (id:Int)(list:List lJ)(i t6 t61 out bh:Int)(xs:List Int)(aK:List bu)(aV:List cG)(bm:List cl)(bK:List Int)(cA:List bu)(cB:List cG)(cE:List cl):HP F κ (n+1) (zr id list i t6 t61 out bh xs aK aV bm bK cA cB cE)=br (decide (i<(list.length:Int))) (ck (cc i (list.length:Int)) ((Mu F0 id (aN list i qN.aF).2).bind fun Ho=>sK F (J8 F κ n) F.n (mV id list i 0 t6 t61 out bh Ho.1 xs aK aV bm bK cA cB cE))) (κ (.exit 0) (Te t6 t61 out bh xs aK aV bm bK cA cB cE)):=by kernel_rfl
theorem agp (id:Int)(list:List lJ)(i t6 t61 out bh:Int)(xs:List Int)(aK:List bu)(aV:List cG)(bm:List cl)(bK:List Int)(cA:List bu)(cB:List cG)(cE:List cl):J8 F κ n (.exit 2) (Td id list i t6 t61 out bh xs aK aV bm bK cA cB cE)=HP F κ n (zr id list (aj (i+1)) t6 t61 out bh xs aK aV bm bK cA cB cE):=by kernel_rfl
theorem agq (t6 t61 out bh:Int)(xs:List Int)(aK:List bu)(aV:List cG)(bm:List cl)(bK:List Int)(cA:List bu)(cB:List cG)(cE:List cl):zt F (.exit 0) (Te t6 t61 out bh xs aK aV bm bK cA cB cE)=some (((out,bh),bK,cA,cB,cE),()):=by kernel_rfl
abbrev aCQ:List (Ty×Bool):=[(iL,true),(.int .i64,false),(K23,false)]
def J9 (w:oV)(id:Int)(list:D23):=bD oh F om f237 aCQ gu 2 (w,id,list,())
theorem arb (w:oV)(id:Int)(list:D23):J9 F w id list=(yQ F0 w).bind fun cg=>(ED F0 w).bind fun oW=>(dE F0 oW.1 id).bind fun fv=>br (!fv.1) (some (cg.1,())) (HP F (zt F) F.n (zr id list 0 0 0 cg.1.1.1 cg.1.1.2 [] [] [] [] cg.1.2.1 cg.1.2.2.1 cg.1.2.2.2.1 cg.1.2.2.2.2)):=by kernel_rfl
def VT:Any:=.one ⟨aCQ,gu,2,fun x=>J9 F0 x.1 x.2.1 x.2.2.1⟩
theorem arc:bo 237 VT:=ay oh ⟨SE,eA,VR,VQ,an5,trivial⟩ func237 om (by kernel_rfl)
def VU:=[(174,BU),(236,PK),(237,VT)]
def HQ (w:oV)(a:Int):Option (oV×Int×oV):=aqx Tryz.prog (look VU) F ab f176 [(iL,true),(.int .i64,false)] 0 (iL,true) (.int .i64,false) (iL,true) (w,a,())
theorem akE (w:oV)(a:Int):HQ F w a=ck (cc a (w.2.2.1.length:Int)) ((HO F0 w.1 (aN w.2.2.1 a c8.aF)).bind fun nL=>br (decide ((aj ((w.2.2.2.1.length:Int)+(nL.2.1.length:Int)))>60)) (some (iL.aF,4,w)) (br (decide ((aj ((w.2.2.2.2.length:Int)+(nL.2.1.length:Int)))>300)) (some (iL.aF,4,w)) (ck (cc a (w.2.2.1.length:Int)) ((J9 F0 (w.1,w.2.1,w.2.2.1.set a.toNat nL.1,w.2.2.2) a nL.2.1).bind fun r44=>(zn F0 r44.1 nL.2.1).bind fun QW=>some (QW.1.1,0,iL.aF))))):=by kernel_rfl
def PL:Any:=.sel ⟨[(iL,true),(.int .i64,false)],0,(iL,true),(.int .i64,false),(iL,true),fun x=>HQ F0 x.1 x.2.1⟩
theorem akF:bo 176 PL:=ok4 (show yd Tryz.prog TB VU from⟨S9,akD,arc,trivial⟩) func176 (by kernel_rfl) (by kernel_rfl) ab (by kernel_rfl) (by kernel_rfl)
def adF:=[(58,cm),(73,cZ),(287,qm)]
def Rr (c:D1)(r:bu)(view:Int)(name:ByteArray)(push:Bool):=bD adF F ab f238 asR hJ 2 (c,r,view,name,push,())
theorem ard (c:D1)(r:bu)(view:Int)(name:ByteArray)(push:Bool):Rr F c r view name push=(eb F0 c r).bind fun nL=>br (!nL.1) ((bj F0 r).bind fun dL=>some (dL.1,false,())) ((bj F0 r).bind fun sg=>(pO F0 c sg.1 view name push).bind fun BA=>br (!BA.1.2.1) ((bj F0 r).bind fun ud=>some (ud.1,false,())) (some (BA.1.1,true,()))):=by kernel_rfl
def VV:Any:=.one ⟨asR,hJ,2,fun x=>Rr F0 x.1 x.2.1 x.2.2.1 x.2.2.2.1 x.2.2.2.2.1⟩
theorem are:bo 238 VV:=ay adF ⟨cX,dD,BQ,trivial⟩ func238 ab (by kernel_rfl)
end
end Go.Am.Tryz
