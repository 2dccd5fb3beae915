/- No condition. -/
import Derived.Test.YtfapcfpkbahneaaGreatDoorQpVJG2
set_option linter.all false
set_option maxRecDepth 100000
namespace Go.Am.Tryz
open Go.Am Go.Proofs Go.Proofs.Tryz
noncomputable section
variable {U:Type} (F:sd) (J:Ex->St->Option U) (n:Nat)
def zu:=[(115,ig),(276,jl),(277,sH)]
def zw:Nat->Option Hint:=look [(6,{live:=[3,5,6],xl:=[5],rl:=[4]})]
def sI (i q:Int)(q1:ByteArray)(q2 xs:List Int):= eD 41 [cW 3,(5,.v (.c (.own 1000000 none))),(6,bW i)] [(3,[aq q,.str q1,.ro false 3 (.int .i64) q2])] [aB 1000000 5 (.int .u8) xs]
def Mt (xs:List Int):= eD 41 [(5,.v (.c (.own 1000000 none)))] [] [aB 1000000 5 (.int .u8) xs]
def zx (st:St):Option U:=gQ zu F zw [.r,.r,.r,.r,.l,.r,.b,.i] f278 J n st
def B2:=jG zu F zw [.r,.r,.r,.r,.l,.r,.b] f278 mG 2
theorem GM (i q:Int)(q1:ByteArray)(q2 xs:List Int):zx F J (n+1) (sI i q q1 q2 xs)=br (decide (i<(q2.length:Int))) (ck (cr i (q2.length:Int)) ((fg F0 (aU q2 i 0)).bind fun UQ=>ck (fp F xs.length UQ.1.length 1) (zx F J n (sI (ak (i+1)) q q1 q2 (xs++UQ.1))))) (J (.exit 0) (Mt xs)):=by kernel_rfl
theorem abA (xs:List Int):B2 F (.exit 0) (Mt xs)=some (xs,()):=by kernel_rfl
def sJ (c:D1)(q:D9):=bJ zu F zw f278 Gx mG 2 (c,q,())
theorem ak0 (c:D1)(q:D9):sJ F c q=(kN F0 c q).bind fun r9=>br (!r9.1) (some ([],())) ((fg F0 q.1).bind fun l6=>(oA F0 q.2.1).bind fun fD=>ck (fp F l6.1.length fD.1.length 1) ((fg F0 (q.2.2.length:Int)).bind fun sw=>ck (fp F (l6.1++fD.1).length sw.1.length 1) (zx F (B2 F) F.n (sI 0 q.1 q.2.1 q.2.2 ((l6.1++fD.1)++sw.1))))):=by kernel_rfl
def B3:Any:=.one ⟨Gx,mG,2,fun x=>sJ F0 x.1 x.2.1⟩
theorem Tf:bz 278 B3:=aA zu ⟨ll,nc,FW,trivial⟩ func278 zw (by kernel_rfl)
def PG:=[(123,jh),(276,jl),(277,sH),(278,B3)]
def zy (c:D1)(s:UF):=bJ PG F ab f340 SV mG 2 (c,s,())
theorem adN (c:D1)(s:UF):zy F c s=(jS F0 c s).bind fun r8=>br (!r8.1) (some ([],())) ((fg F0 s.1).bind fun cp=>(fg F0 s.2.1).bind fun o9=>ck (fp F cp.1.length o9.1.length 1) ((sJ F0 c s.2.2.1).bind fun gL=>ck (fp F (cp.1++o9.1).length gL.1.length 1) ((oA F0 s.2.2.2).bind fun Bg=>ck (fp F ((cp.1++o9.1)++gL.1).length Bg.1.length 1) (some (((cp.1++o9.1)++gL.1)++Bg.1,()))))):=by kernel_rfl
def Kf:Any:=.one ⟨SV,mG,2,fun x=>zy F0 x.1 x.2.1⟩
theorem adO:bz 340 Kf:=aA PG ⟨mI,nc,FW,Tf,trivial⟩ func340 ab (by kernel_rfl)
def PH:=[(276,jl),(340,Kf)]
def zz (c:D1)(s:UF):=bJ PH F ab f322 SV mG 2 (c,s,())
theorem adP (c:D1)(s:UF):zz F c s=(zy F0 c s).bind fun r9=>br ((r9.1.length:Int)==0) (some ([],())) ((fg F0 (r9.1.length:Int)).bind fun o9=>ck (fp F o9.1.length r9.1.length 1) (ck (fp F (o9.1++r9.1).length [10].length 1) (some ((o9.1++r9.1)++[10],())))):=by kernel_rfl
def Kg:Any:=.one ⟨SV,mG,2,fun x=>zz F0 x.1 x.2.1⟩
theorem adQ:bz 322 Kg:=aA PH ⟨nc,adO,trivial⟩ func322 ab (by kernel_rfl)
def ZT:=[(104,mU),(126,pq)]
abbrev aD5:List (Ty×Bool):=[(K14,true),(.sl 5 (.int .u8),false)]
abbrev aD6:List (Ty×Bool):=[(K14,true),(.bool,false)]
def Mu (d:D14)(b:List Int):=bJ ZT F ab f321 aD5 aD6 2 (d,b,())
theorem aon (d:D14)(b:List Int):Mu F d b=(jH F0 d).bind fun r8=>ck (fp F r8.1.1.length b.length 1) ((nZ F0 d).bind fun pa=>br (!pa.1) ((jH F0 d).bind fun sw=>some (sw.1,false,())) ((nZ F0 (r8.1.1++b,r8.1.2)).bind fun dW=>br (!dW.1) ((jH F0 d).bind fun sw=>some (sw.1,false,())) (some ((r8.1.1++b,r8.1.2),true,())))):=by kernel_rfl
def Tg:Any:=.one ⟨aD5,aD6,2,fun x=>Mu F0 x.1 x.2.1⟩
theorem aoo:bz 321 Tg:=aA ZT ⟨vD,yZ,trivial⟩ func321 ab (by kernel_rfl)
def Th:=[(102,mT),(123,jh),(320,Mr),(321,Tg),(322,Kg)]
def fy (c:D1)(r:bD)(s:UF):Option (bD×Bool×bD):=arF Tryz.prog (look Th) F ab f283 [(K1,true),(di,true),(K12,true)] 1 (di,true) (.bool,false) (di,true) (c,r,s,())
theorem agD (c:D1)(r:bD)(s:UF):fy F c r s=(Dk F0 r.2.2.2.1 s).bind fun cp=>br cp.1 (some (r,true,di.aG)) ((zz F0 c s).bind fun EH=>(Mu F0 r.2.2.2.2.2.2.1 EH.1).bind fun ia=>br (!ia.2.1) (some (di.aG,false,r)) ((jS F0 c s).bind fun UG=>br (!UG.1) (some (di.aG,false,r)) ((ow F0 s).bind fun r36=>some ((r.1,r.2.1,r.2.2.1,r36.1,r.2.2.2.2.1,r.2.2.2.2.2.1,ia.1,r.2.2.2.2.2.2.2),true,di.aG)))):=by kernel_rfl
def qu:Any:=.sel ⟨[(K1,true),(di,true),(K12,true)],1,(di,true),(.bool,false),(di,true),fun x=>fy F0 x.1 x.2.1 x.2.2.1⟩
theorem B4:bz 283 qu:=ok4 (show yF Tryz.prog TB Th from⟨vz,mI,agC,aoo,adQ,trivial⟩) func283 (by kernel_rfl) (by kernel_rfl) ab (by kernel_rfl) (by kernel_rfl)
def nd:=[(171,FU)]
def ng:Nat->Option Hint:=look [(3,{live:=[0,1,5,6],xl:=[1,5],rl:=[4]}),(7,{live:=[1,5,7],xl:=[5],rl:=[4]})]
def sK (b:List Int)(i:Int)(xs:List Int):= eD 34 [(1,j9 3 (.int .i64) b),(5,.v (.c (.own 1000000 none))),(7,bW i)] [] [aB 1000000 3 (.int .i64) xs]
def Mv (xs:List Int):= eD 34 [(5,.v (.c (.own 1000000 none)))] [] [aB 1000000 3 (.int .i64) xs]
def zA (st:St):Option U:=gQ nd F ng [.r,.r,.r,.l,.r,.b,.i] f327 J n st
def B5:=jG nd F ng [.r,.r,.r,.l,.r,.b] f327 kI 2
def sL (a b:List Int)(i:Int)(xs:List Int):= eD 34 [(0,j9 3 (.int .i64) a),(1,j9 3 (.int .i64) b),(5,.v (.c (.own 1000000 none))),(6,bW i)] [] [aB 1000000 3 (.int .i64) xs]
def Mw (b xs:List Int):= eD 34 [(1,j9 3 (.int .i64) b),(5,.v (.c (.own 1000000 none)))] [] [aB 1000000 3 (.int .i64) xs]
def zB (st:St):Option U:=gQ nd F ng [.r,.r,.l,.r,.b,.i] f327 J n st
def B6:=jG nd F ng [.r,.r,.l,.r,.b] f327 kI 2
theorem GN (b:List Int)(i:Int)(xs:List Int):zA F J (n+1) (sK b i xs)=br (decide (i<(b.length:Int))) (ck (cr i (b.length:Int)) ((xY F0 xs (aU b i 0)).bind fun HJ=>zA F J n (sK b (ak (i+1)) HJ.1))) (J (.exit 2) (Mv xs)):=by kernel_rfl
theorem GO (a b:List Int)(i:Int)(xs:List Int):zB F J (n+1) (sL a b i xs)=br (decide (i<(a.length:Int))) (ck (cr i (a.length:Int)) ((xY F0 xs (aU a i 0)).bind fun EH=>zB F J n (sL a b (ak (i+1)) EH.1))) (J (.exit 0) (Mw b xs)):=by kernel_rfl
theorem abB (xs:List Int):B5 F (.exit 2) (Mv xs)=some (xs,()):=by kernel_rfl
theorem abC (b xs:List Int):B6 F (.exit 0) (Mw b xs)=zA F (B5 F) F.n (sK b 0 xs):=by kernel_rfl
def H3 (a b:List Int):=bJ nd F ng f327 aks kI 2 (a,b,())
theorem ak1 (a b:List Int):H3 F a b=zB F (B6 F) F.n (sL a b 0 []):=by kernel_rfl
def PI:Any:=.one ⟨aks,kI,2,fun x=>H3 F0 x.1 x.2.1⟩
theorem ak2:bz 327 PI:=aA nd ⟨Wa,trivial⟩ func327 ng (by kernel_rfl)
def Ti:=[(327,PI)]
abbrev ajc:List (Ty×Bool):=[(K9,true),(.bool,false)]
def Dp (a b:D9):=bJ Ti F ab f290 xT ajc 2 (a,b,())
theorem agE (a b:D9):Dp F a b=br (a.1 != b.1) (some ((0,al,[]),false,())) (br (!(a.2.1.toList==b.2.1.toList)) (some ((0,al,[]),false,())) ((H3 F0 a.2.2 b.2.2).bind fun Bg=>some ((a.1,a.2.1,Bg.1),true,()))):=by kernel_rfl
def Mx:Any:=.one ⟨xT,ajc,2,fun x=>Dp F0 x.1 x.2.1⟩
theorem agF:bz 290 Mx:=aA Ti ⟨ak2,trivial⟩ func290 ab (by kernel_rfl)
def vX:=[(103,zd),(125,BO),(164,j2),(183,po),(184,xc),(290,Mx)]
def vY:Nat->Option Hint:=look [(4,{live:=[1,3,5,8,9,10],xl:=[1,3,5,8,9],rl:=[6,7]})]
def gk (list:List D9)(put:Bool)(i c c1 p:Int)(p1:ByteArray)(p2:List Int)(xs:List D9):= eD 74 [(1,j9 74 (K9) list),cW 3,cW 5,(8,.v (.c (.own 1000000 none))),(9,SK put),(10,bW i)] [(3,[aq c,aq c1]),(5,[aq p,.str p1,.ro false 3 (.int .i64) p2])] [aB 1000000 74 K9 xs]
def Kh (list:List D9)(put:Bool)(c c1 p:Int)(p1:ByteArray)(p2:List Int)(xs:List D9):= eD 74 [(1,j9 74 (K9) list),cW 3,cW 5,(8,.v (.c (.own 1000000 none))),(9,SK put)] [(3,[aq c,aq c1]),(5,[aq p,.str p1,.ro false 3 (.int .i64) p2])] [aB 1000000 74 K9 xs]
def jm (st:St):Option U:=gQ vX F vY [.r,.r,.r,.l,.r,.b,.i] f240 J n st
abbrev atT:List (Ty×Bool):=[(K13,false),(.bool,false)]
def zC:=jG vX F vY [.r,.r,.r,.l,.r,.b] f240 atT 2
theorem lz (list:List D9)(put:Bool)(i c c1 p:Int)(p1:ByteArray)(p2:List Int)(xs:List D9):jm F J (n+1) (gk list put i c c1 p p1 p2 xs)=br (decide (i<(list.length:Int))) (ck (cr i (list.length:Int)) ((il F0 (aU list i K9.aG)).bind fun Wl=>br (!put) ((re F0 Wl.1 (p,p1,p2)).bind fun r31=>br (!r31.1) ((Dp F0 Wl.1 (p,p1,p2)).bind fun HM=>br HM.2.1 (ck (fp F xs.length [HM.1].length 48) (jm F J n (gk list true (ak (i+1)) c c1 p p1 p2 (xs++[HM.1])))) ((il F0 (p,p1,p2)).bind fun pN=>ck (fp F xs.length [pN.1].length 48) (ck (fp F (xs++[pN.1]).length [Wl.1].length 48) (jm F J n (gk list true (ak (i+1)) c c1 p p1 p2 ((xs++[pN.1])++[Wl.1])))))) (ck (fp F xs.length [Wl.1].length 48) (jm F J n (gk list put (ak (i+1)) c c1 p p1 p2 (xs++[Wl.1]))))) (ck (fp F xs.length [Wl.1].length 48) (jm F J n (gk list put (ak (i+1)) c c1 p p1 p2 (xs++[Wl.1])))))) (J (.exit 0) (Kh list put c c1 p p1 p2 xs)):=by kernel_rfl
theorem GP (list:List D9)(put:Bool)(c c1 p:Int)(p1:ByteArray)(p2:List Int)(xs:List D9):zC F (.exit 0) (Kh list put c c1 p p1 p2 xs)=br (!put) ((il F0 (p,p1,p2)).bind fun r58=>ck (fp F xs.length [r58.1].length 48) ((ot F0 (c,c1) (xs++[r58.1])).bind fun r63=>br (!r63.1) ((iq F0 list).bind fun r72=>some (r72.1,false,())) ((lq F0 (c,c1) (p,p1,p2)).bind fun ZU=>br (!ZU.1) ((iq F0 list).bind fun r72=>some (r72.1,false,())) (some (xs++[r58.1],true,()))))) ((ot F0 (c,c1) xs).bind fun r63=>br (!r63.1) ((iq F0 list).bind fun r72=>some (r72.1,false,())) ((lq F0 (c,c1) (p,p1,p2)).bind fun ZU=>br (!ZU.1) ((iq F0 list).bind fun r72=>some (r72.1,false,())) (some (xs,true,())))):=by kernel_rfl
abbrev aD7:List (Ty×Bool):=[(K1,true),(K13,false),(K9,true)]
def fX (c:D1)(list:D13)(p:D9):=bJ vX F vY f240 aD7 atT 2 (c,list,p,())
theorem agG (c:D1)(list:D13)(p:D9):fX F c list p=jm F (zC F) F.n (gk list false 0 c.1 c.2 p.1 p.2.1 p.2.2 []):=by kernel_rfl
def lA:Any:=.one ⟨aD7,atT,2,fun x=>fX F0 x.1 x.2.1 x.2.2.1⟩
theorem sM:bz 240 lA:=aA vX ⟨Pp,SW,pt,yW,L5,agF,trivial⟩ func240 vY (by kernel_rfl)
def ZV:=[(115,ig)]
def EV (c:D1)(p:D9):=bJ ZV F ab f341 Gx ajc 2 (c,p,())
theorem aop (c:D1)(p:D9):EV F c p=ck (fp F 0 p.2.2.length 8) (br (p.2.1.toList==al.toList) (some ((0,al,[]),false,())) ((kN F0 c (p.1,p.2.1,[]++p.2.2)).bind fun gL=>br (!gL.1) (some ((0,al,[]),false,())) (some ((p.1,p.2.1,[]++p.2.2),true,())))):=by kernel_rfl
def Tj:Any:=.one ⟨Gx,ajc,2,fun x=>EV F0 x.1 x.2.1⟩
theorem aoq:bz 341 Tj:=aA ZV ⟨ll,trivial⟩ func341 ab (by kernel_rfl)
def Wm:=[(72,cK),(127,kl),(165,BV)]
abbrev aD8:List (Ty×Bool):=[(K1,true),(di,true),(.int .i64,false),(K21,true)]
def gl (c:D1)(r:bD)(sN:Int)(m:Oo):=EG Wm F ab f241 aD8 1 (.own true) ik [] 2 (c,r,sN,m,())
theorem ak3 (c:D1)(r:bD)(sN:Int)(m:Oo):gl F c r sN m=br (decide ((r.2.2.2.2.2.2.2.length:Int)>=30)) (some ((r,false,()),())) ((gd F0 c m).bind fun fD=>br (!fD.1) (some ((r,false,()),())) ((cg F0 sN 0 (ak (c.1-1))).bind fun Wl=>br (!Wl.1) (some ((r,false,()),())) (br (sN==r.1) (some ((r,false,()),())) ((ze F0 m).bind fun Re=>ck (fp F r.2.2.2.2.2.2.2.length [(sN,Re.1)].length 224) (some (((r.1,r.2.1,r.2.2.1,r.2.2.2.1,r.2.2.2.2.1,r.2.2.2.2.2.1,r.2.2.2.2.2.2.1,r.2.2.2.2.2.2.2++[(sN,Re.1)]),true,()),())))))):=by kernel_rfl
def nh:Any:=.two ⟨aD8,1,(.own true),ik,2,[],fun x=>gl F0 x.1 x.2.1 x.2.2.1 x.2.2.2.1⟩
theorem vZ:bz 241 nh:=aBL Wm ⟨dq,pO,S4,trivial⟩ func241 ab (by kernel_rfl)
def ZW:=[(60,iG),(106,jU),(241,nh),(280,H2),(283,qu),(341,Tj)]
abbrev ajd:List (Ty×Bool):=[(K1,true),(di,true),(K9,true)]
def My (c:D1)(r:bD)(p:D9):=EG ZW F ab f323 ajd 1 (.own true) ik [] 2 (c,r,p,())
theorem aor (c:D1)(r:bD)(p:D9):My F c r p=(EV F0 c p).bind fun Oq=>br (!Oq.2.1) (some ((r,false,()),())) ((PD F0 c r.2.2.2.1 Oq.1).bind fun r31=>(fy F0 c r r31.1).bind fun HJ=>br HJ.2.1 (br (decide ((ak (p.1+1))>60)) (some ((HJ.1,true,()),())) ((eK F0 HJ.1.2.1 (ak (p.1+1))).bind fun pN=>(mX F0 c (ak (p.1+1))).bind fun r51=>br (r51.1==r.1) (some (((HJ.1.1,pN.1,HJ.1.2.2),true,()),())) ((mX F0 c (ak (p.1+1))).bind fun Ja=>(gl F0 c (HJ.1.1,pN.1,HJ.1.2.2) Ja.1 (3,ak (p.1+1),(al,0,al,[]),(0,al,[]),Oq.1,r.1,0,0,0,0)).bind fun r67=>some ((r67.1.1,r67.1.2.1,()),())))) (some (((r.1,r.2.1,r.2.2.1,(r.2.2.2.1.1,r.2.2.2.1.2.1,(r.2.2.2.1.2.2.1.1,r.2.2.2.1.2.2.1.2.1,HJ.2.2.2.2.2.1.2.2.1.2.2),r.2.2.2.1.2.2.2),HJ.2.2.2.2.2.2.1,HJ.2.2.2.2.2.2.2.1,(HJ.2.2.2.2.2.2.2.2.1.1,r.2.2.2.2.2.2.1.2),HJ.2.2.2.2.2.2.2.2.2),false,()),()))):=by kernel_rfl
def Tk:Any:=.two ⟨ajd,1,(.own true),ik,2,[],fun x=>My F0 x.1 x.2.1 x.2.2.1⟩
theorem aos:bz 323 Tk:=aBL ZW ⟨l8,oz,vZ,Wi,B4,aoq,trivial⟩ func323 ab (by kernel_rfl)
def aje:=[(35,dh),(72,cK)]
abbrev PJ:List (Ty×Bool):=[(K1,true),(.int .i64,false),(.int .i64,false)]
def Jb (c:D1)(view i:Int):=bJ aje F ab f342 PJ dK 1 (c,view,i,())
theorem av5 (c:D1)(view i:Int):Jb F c view i=(eJ F0 c).bind fun r8=>br (!r8.1) (some (-1,())) (br (decide (view<0)) (some (-1,())) ((cg F0 i 0 (ak (c.1-1))).bind fun dW=>br (!dW.1) (some (-1,())) (ck (!(c.1==0)) (ck (!(c.1==0)) (some (Int.tmod (ak ((ak (i+c.1))-(Int.tmod view c.1))) c.1,())))))):=by kernel_rfl
def Dq:Any:=.one ⟨PJ,dK,1,fun x=>Jb F0 x.1 x.2.1 x.2.2.1⟩
theorem RJ:bz 342 Dq:=aA aje ⟨ec,dq,trivial⟩ func342 ab (by kernel_rfl)
def ajf:=[(35,dh),(72,cK)]
def Yb (c:D1)(view aot:Int):=bJ ajf F ab f345 PJ dK 1 (c,view,aot,())
theorem av6 (c:D1)(view aot:Int):Yb F c view aot=(eJ F0 c).bind fun r8=>br (!r8.1) (some (-1,())) (br (decide (view<0)) (some (-1,())) ((cg F0 aot 0 (ak (c.1-1))).bind fun dW=>br (!dW.1) (some (-1,())) (ck (!(c.1==0)) (ck (!(c.1==0)) (some (Int.tmod (ak ((Int.tmod view c.1)+aot)) c.1,())))))):=by kernel_rfl
def ZX:Any:=.one ⟨PJ,dK,1,fun x=>Yb F0 x.1 x.2.1 x.2.2.1⟩
theorem av7:bz 345 ZX:=aA ajf ⟨ec,dq,trivial⟩ func345 ab (by kernel_rfl)
def atU:=[(342,Dq),(345,ZX)]
def Yc (c:D1)(view i:Int):=bJ atU F ab f326 PJ dK 1 (c,view,i,())
theorem aBM (c:D1)(view i:Int):Yc F c view i=(Jb F0 c view i).bind fun dB=>br (decide (dB.1<=0)) (some (-1,())) (ck (!(c.2==0)) ((Yb F0 c view (ak (Int.tdiv (ak (dB.1-1)) c.2))).bind fun ia=>some (ia.1,()))):=by kernel_rfl
def Wn:Any:=.one ⟨PJ,dK,1,fun x=>Yc F0 x.1 x.2.1 x.2.2.1⟩
theorem aou:bz 326 Wn:=aA atU ⟨RJ,av7,trivial⟩ func326 ab (by kernel_rfl)
def RL:=[(326,Wn),(342,Dq)]
def RM:Nat->Option Hint:=look [(2,{live:=[1,2,3,7],xl:=[7],rl:=[6]})]
def H4 (view i c c1:Int)(xs:List Int):= eD 23 [(1,bW view),(2,bW i),cW 3,(7,.v (.c (.own 1000000 none)))] [(3,[aq c,aq c1])] [aB 1000000 3 (.int .i64) xs]
def Ou (xs:List Int):= eD 23 [(7,.v (.c (.own 1000000 none)))] [] [aB 1000000 3 (.int .i64) xs]
def RN (st:St):Option U:=gQ RL F RM [.r,.r,.l,.b,.i] f343 J n st
def adR:=jG RL F RM [.r,.r,.l,.b] f343 kI 2
theorem Tl (view i c c1:Int)(xs:List Int):RN F J (n+1) (H4 view i c c1 xs)=(Jb F0 (c,c1) view i).bind fun cP=>br (decide (cP.1>=0)) (ck (fp F xs.length [i].length 8) ((Yc F0 (c,c1) view i).bind fun ia=>RN F J n (H4 view ia.1 c c1 (xs++[i])))) (J (.exit 0) (Ou xs)):=by kernel_rfl
theorem aov (xs:List Int):adR F (.exit 0) (Ou xs)=some (xs,()):=by kernel_rfl
def adS (c:D1)(view i:Int):=bJ RL F RM f343 PJ kI 2 (c,view,i,())
theorem ayM (c:D1)(view i:Int):adS F c view i=RN F (adR F) F.n (H4 view i c.1 c.2 []):=by kernel_rfl
def adT:Any:=.one ⟨PJ,kI,2,fun x=>adS F0 x.1 x.2.1 x.2.2.1⟩
theorem ayN:bz 343 adT:=aA RL ⟨aou,RJ,trivial⟩ func343 RM (by kernel_rfl)
def H5:=[(35,dh),(62,dC),(342,Dq),(343,adT)]
def H6:Nat->Option Hint:=look [(5,{live:=[1,2,3,7,8],xl:=[7],rl:=[6]})]
def rp (view i k c c1:Int)(xs:List Int):= eD 38 [(1,bW view),(2,bW i),cW 3,(7,.v (.c (.own 1000000 none))),(8,bW k)] [(3,[aq c,aq c1])] [aB 1000000 3 (.int .i64) xs]
def FX (xs:List Int):= eD 38 [(7,.v (.c (.own 1000000 none)))] [] [aB 1000000 3 (.int .i64) xs]
def zD (st:St):Option U:=gQ H5 F H6 [.r,.r,.r,.l,.r,.b,.i] f324 J n st
def Ki:=jG H5 F H6 [.r,.r,.r,.l,.r,.b] f324 kI 2
theorem zE (view i k c c1:Int)(xs:List Int):zD F J (n+1) (rp view i k c c1 xs)=br (decide (k<c)) ((Jb F0 (c,c1) view i).bind fun gL=>br (decide (gL.1>=0)) ((adS F0 (c,c1) view k).bind fun FP=>(dN F0 FP.1 i).bind fun HJ=>br HJ.1 (ck (fp F xs.length [k].length 8) (zD F J n (rp view i (ak (k+1)) c c1 (xs++[k])))) (zD F J n (rp view i (ak (k+1)) c c1 xs))) (J (.exit 0) (FX xs))) (J (.exit 0) (FX xs)):=by kernel_rfl
theorem PK (xs:List Int):Ki F (.exit 0) (FX xs)=some (xs,()):=by kernel_rfl
def RP (c:D1)(view i:Int):=bJ H5 F H6 f324 PJ kI 2 (c,view,i,())
theorem asb (c:D1)(view i:Int):RP F c view i=(eJ F0 c).bind fun dB=>br (!dB.1) (some ([],())) (zD F (Ki F) F.n (rp view i 0 c.1 c.2 [])):=by kernel_rfl
def Wo:Any:=.one ⟨PJ,kI,2,fun x=>RP F0 x.1 x.2.1 x.2.2.1⟩
theorem asc:bz 324 Wo:=aA H5 ⟨ec,eL,RJ,ayN,trivial⟩ func324 H6 (by kernel_rfl)
def abD (on:Bool):=bJ aF F ab f344 bd dK 1 (on,())
theorem asd (on:Bool):abD F on=br on (some (1,())) (some (0,())):=by kernel_rfl
def Wp:Any:=.one ⟨bd,dK,1,fun x=>abD F0 x.1⟩
theorem ase:bz 344 Wp:=aA aF trivial func344 ab (by kernel_rfl)
def Ds:=[(62,dC),(344,Wp)]
def Dt:Nat->Option Hint:=look [(3,{live:=[0,1,5,6],xl:=[5],rl:=[4]})]
def v7 (a b:List Int)(n1 i:Int):= cV 23 [(0,j9 3 (.int .i64) a),(1,j9 3 (.int .i64) b),(5,bW n1),(6,bW i)]
def PL (n1:Int):= cV 23 [(5,bW n1)]
def Du (st:St):Option U:=gQ Ds F Dt [.r,.r,.l,.r,.b,.i] f325 J n st
def FY:=jG Ds F Dt [.r,.r,.l,.r,.b] f325 dK 1
theorem Kj (a b:List Int)(n1 i:Int):Du F J (n+1) (v7 a b n1 i)=br (decide (i<(a.length:Int))) (ck (cr i (a.length:Int)) ((dN F0 b (aU a i 0)).bind fun dW=>(abD F0 dW.1).bind fun EH=>Du F J n (v7 a b (ak (n1+EH.1)) (ak (i+1))))) (J (.exit 0) (PL n1)):=by kernel_rfl
theorem adU (n1:Int):FY F (.exit 0) (PL n1)=some (n1,()):=by kernel_rfl
def Mz (a b:List Int):=bJ Ds F Dt f325 aks dK 1 (a,b,())
theorem aow (a b:List Int):Mz F a b=Du F (FY F) F.n (v7 a b 0 0):=by kernel_rfl
def Tm:Any:=.one ⟨aks,dK,1,fun x=>Mz F0 x.1 x.2.1⟩
theorem aox:bz 325 Tm:=aA Ds ⟨eL,ase,trivial⟩ func325 Dt (by kernel_rfl)
def Tn:=[(106,jU),(107,ql),(241,nh),(323,Tk),(324,Wo),(325,Tm),(326,Wn)]
abbrev atV:List (Ty×Bool):=[(K1,true),(di,true),(.int .i64,false),(.str,false),(.bool,false)]
def pT (c:D1)(r:bD)(view:Int)(name:ByteArray)(push:Bool):=EG Tn F ab f287 atV 1 (.own true) ik [] 2 (c,r,view,name,push,())
theorem agH (c:D1)(r:bD)(view:Int)(name:ByteArray)(push:Bool):pT F c r view name push=(pP F0 r.2.2.2.2.2.1 view name).bind fun gL=>br ((gL.1.2.2.length:Int)==0) (some ((r,false,()),())) (br (name.toList==al.toList) (some ((r,false,()),())) ((mX F0 c view).bind fun qR=>br (qR.1==r.1) ((My F0 c r gL.1).bind fun r42=>some ((r42.1.1,r42.1.2.1,()),())) ((RP F0 c view r.1).bind fun r51=>br (!push) ((Mz F0 r51.1 gL.1.2.2).bind fun r58=>br (decide (r58.1<(r51.1.length:Int))) (some ((r,false,()),())) ((Yc F0 c view r.1).bind fun r71=>(gl F0 c r r71.1 (2,0,(al,0,al,[]),gL.1,(0,al,[]),0,0,0,0,0)).bind fun r74=>some ((r74.1.1,r74.1.2.1,()),()))) ((Yc F0 c view r.1).bind fun r71=>(gl F0 c r r71.1 (2,0,(al,0,al,[]),gL.1,(0,al,[]),0,0,0,0,0)).bind fun r74=>some ((r74.1.1,r74.1.2.1,()),()))))):=by kernel_rfl
def qv:Any:=.two ⟨atV,1,(.own true),ik,2,[],fun x=>pT F0 x.1 x.2.1 x.2.2.1 x.2.2.2.1 x.2.2.2.2.1⟩
theorem B7:bz 287 qv:=aBL Tn ⟨oz,BZ,vZ,aos,asc,aox,aou,trivial⟩ func287 ab (by kernel_rfl)
def ZY:=[(58,cB),(78,ee),(240,lA),(287,qv)]
abbrev aHX:List (Ty×Bool):=[(K1,true),(di,true),(.str,false)]
def n4 (c:D1)(r:bD)(name:ByteArray):=EG ZY F ab f284 aHX 1 (.own true) ik [] 2 (c,r,name,())
theorem aoz (c:D1)(r:bD)(name:ByteArray):n4 F c r name=(ep F0 name).bind fun fD=>(fX F0 c r.2.2.2.2.2.1 (fD.1,name,[r.1])).bind fun sw=>br (!sw.2.1) (some ((r,false,()),())) ((bo F0 (r.1,r.2.1,r.2.2.1,r.2.2.2.1,r.2.2.2.2.1,sw.1,r.2.2.2.2.2.2)).bind fun qR=>(ep F0 name).bind fun r36=>(pT F0 c qR.1 r36.1 name false).bind fun UQ=>br UQ.1.2.1 (some ((UQ.1.1,true,()),())) (some (((r.1,r.2.1,r.2.2.1,r.2.2.2.1,r.2.2.2.2.1,sw.1,r.2.2.2.2.2.2),true,()),()))):=by kernel_rfl
def To:Any:=.two ⟨aHX,1,(.own true),ik,2,[],fun x=>n4 F0 x.1 x.2.1 x.2.2.1⟩
theorem aoA:bz 284 To:=aBL ZY ⟨c7,fx,sM,B7,trivial⟩ func284 ab (by kernel_rfl)
def PN:=[(58,cB),(73,c9),(78,ee),(169,mL),(280,H2),(281,B0),(282,ZS),(283,qu),(284,To)]
abbrev aD9:List (Ty×Bool):=[(K1,true),(di,true),(K15,true)]
def rq (c:D1)(r:bD)(b:D15):=bJ PN F ab f235 aD9 ik 2 (c,r,b,())
theorem adV (c:D1)(r:bD)(b:D15):rq F c r b=(bo F0 r).bind fun fD=>(ez F0 c r).bind fun EH=>br (!EH.1) (some (fD.1,false,())) ((ou F0 c b).bind fun Wl=>br (!Wl.1) (some (fD.1,false,())) ((bo F0 r).bind fun FP=>(PD F0 c r.2.2.2.1 b.2).bind fun r36=>(ep F0 b.1).bind fun Re=>br (decide (Re.1>=r.2.1)) ((zt F0 c r36.1 b).bind fun r48=>br (decide (Re.1>=r.2.1)) (br r48.1 ((PE F0 c r36.1 b).bind fun Ja=>(fy F0 c (FP.1.1,Re.1,FP.1.2.2) Ja.1).bind fun ZU=>br ZU.2.1 (br r48.1 ((n4 F0 c ZU.1 b.1).bind fun r80=>br (!r80.1.2.1) (some (fD.1,false,())) (some (r80.1.1,true,()))) (some (ZU.1,true,()))) (some (fD.1,false,()))) ((fy F0 c (FP.1.1,Re.1,FP.1.2.2) r36.1).bind fun ZU=>br ZU.2.1 (br r48.1 ((n4 F0 c ZU.1 b.1).bind fun r80=>br (!r80.1.2.1) (some (fD.1,false,())) (some (r80.1.1,true,()))) (some (ZU.1,true,()))) (some (fD.1,false,())))) (br r48.1 ((PE F0 c r36.1 b).bind fun Ja=>(fy F0 c FP.1 Ja.1).bind fun ZU=>br ZU.2.1 (br r48.1 ((n4 F0 c ZU.1 b.1).bind fun r80=>br (!r80.1.2.1) (some (fD.1,false,())) (some (r80.1.1,true,()))) (some (ZU.1,true,()))) (some (fD.1,false,()))) ((fy F0 c FP.1 r36.1).bind fun ZU=>br ZU.2.1 (br r48.1 ((n4 F0 c ZU.1 b.1).bind fun r80=>br (!r80.1.2.1) (some (fD.1,false,())) (some (r80.1.1,true,()))) (some (ZU.1,true,()))) (some (fD.1,false,()))))) (br (decide (Re.1>=r.2.1)) ((fy F0 c (FP.1.1,Re.1,FP.1.2.2) r36.1).bind fun ZU=>br ZU.2.1 (some (ZU.1,true,())) (some (fD.1,false,()))) ((fy F0 c FP.1 r36.1).bind fun ZU=>br ZU.2.1 (some (ZU.1,true,())) (some (fD.1,false,())))))):=by kernel_rfl
def xh:Any:=.one ⟨aD9,ik,2,fun x=>rq F0 x.1 x.2.1 x.2.2.1⟩
theorem MA:bz 235 xh:=aA PN ⟨c7,dH,fx,vm,Wi,Td,av4,B4,aoA,trivial⟩ func235 ab (by kernel_rfl)
def Tp:=[(58,cB),(73,c9),(183,po),(240,lA),(287,qv)]
def Dv (c:D1)(r:bD)(p:D9):=bJ Tp F ab f272 ajd ik 2 (c,r,p,())
theorem agI (c:D1)(r:bD)(p:D9):Dv F c r p=(bo F0 r).bind fun pa=>(ez F0 c r).bind fun Oq=>br (!Oq.1) (some (pa.1,false,())) ((lq F0 c p).bind fun sw=>br (!sw.1) (some (pa.1,false,())) (br (p.2.1.toList==al.toList) (some (pa.1,false,())) (br (decide (p.1<r.2.1)) (some (pa.1,false,())) ((bo F0 r).bind fun xW=>(fX F0 c r.2.2.2.2.2.1 p).bind fun Rh=>br (!Rh.2.1) (some (pa.1,false,())) ((bo F0 (xW.1.1,xW.1.2.1,xW.1.2.2.1,xW.1.2.2.2.1,xW.1.2.2.2.2.1,Rh.1,xW.1.2.2.2.2.2.2)).bind fun r57=>(pT F0 c r57.1 p.1 p.2.1 false).bind fun r62=>br r62.1.2.1 (some (r62.1.1,true,())) (some ((xW.1.1,xW.1.2.1,xW.1.2.2.1,xW.1.2.2.2.1,xW.1.2.2.2.2.1,Rh.1,xW.1.2.2.2.2.2.2),true,()))))))):=by kernel_rfl
def MB:Any:=.one ⟨ajd,ik,2,fun x=>Dv F0 x.1 x.2.1 x.2.2.1⟩
theorem agJ:bz 272 MB:=aA Tp ⟨c7,dH,yW,sM,B7,trivial⟩ func272 ab (by kernel_rfl)
def Tq:=[(58,cB),(60,iG),(65,ko),(72,cK),(73,c9),(106,jU),(107,ql),(108,vh),(115,ig),(240,lA),(280,H2),(283,qu)]
abbrev aEa:List (Ty×Bool):=[(K1,true),(di,true),(.int .i64,false),(K9,true),(.int .i64,false)]
def Dw (c:D1)(r:bD)(view:Int)(q:D9)(dk:Int):=bJ Tq F ab f273 aEa ik 2 (c,r,view,q,dk,())
theorem agK (c:D1)(r:bD)(view:Int)(q:D9)(dk:Int):Dw F c r view q dk=(bo F0 r).bind fun Oq=>(ez F0 c r).bind fun ia=>br (!ia.1) (some (Oq.1,false,())) ((cg F0 view 1 60).bind fun Wl=>br (!Wl.1) (some (Oq.1,false,())) ((kN F0 c q).bind fun r31=>br (!r31.1) (some (Oq.1,false,())) ((cg F0 dk 0 (ak (c.1-1))).bind fun Re=>br (!Re.1) (some (Oq.1,false,())) ((bo F0 r).bind fun Rh=>(PD F0 c r.2.2.2.1 q).bind fun r51=>(fy F0 c Rh.1 r51.1).bind fun r52=>br r52.2.1 ((mX F0 c view).bind fun r60=>br (r60.1==r.1) (br (decide (view>=r.2.1)) ((fX F0 c r52.1.2.2.2.2.2.1 (view,al,[dk])).bind fun Jc=>br (!Jc.2.1) (some (Oq.1,false,())) ((pP F0 Jc.1 view al).bind fun r88=>(xS F0 c).bind fun r92=>br (decide ((r88.1.2.2.length:Int)>=r92.1)) ((eK F0 r52.1.2.1 view).bind fun r97=>(b8 F0 (ak (q.1+1)) 60).bind fun asf=>(eK F0 r97.1 asf.1).bind fun aBN=>some ((r52.1.1,aBN.1,r52.1.2.2.1,r52.1.2.2.2.1,r52.1.2.2.2.2.1,Jc.1,r52.1.2.2.2.2.2.2),true,())) ((b8 F0 (ak (q.1+1)) 60).bind fun asf=>(eK F0 r52.1.2.1 asf.1).bind fun aBN=>some ((r52.1.1,aBN.1,r52.1.2.2.1,r52.1.2.2.2.1,r52.1.2.2.2.2.1,Jc.1,r52.1.2.2.2.2.2.2),true,())))) ((b8 F0 (ak (q.1+1)) 60).bind fun asf=>(eK F0 r52.1.2.1 asf.1).bind fun aBN=>some ((r52.1.1,aBN.1,r52.1.2.2),true,()))) ((b8 F0 (ak (q.1+1)) 60).bind fun asf=>(eK F0 r52.1.2.1 asf.1).bind fun aBN=>some ((r52.1.1,aBN.1,r52.1.2.2),true,()))) (some (Oq.1,false,())))))):=by kernel_rfl
def MC:Any:=.one ⟨aEa,ik,2,fun x=>Dw F0 x.1 x.2.1 x.2.2.1 x.2.2.2.1 x.2.2.2.2.1⟩
theorem agL:bz 273 MC:=aA Tq ⟨c7,l8,pS,dq,dH,oz,BZ,JP,ll,sM,Wi,B4,trivial⟩ func273 ab (by kernel_rfl)
def zF:=[(124,FK),(182,yV)]
def zG:Nat->Option Hint:=look [(2,{live:=[0,3,6],xl:=[0,3,6],rl:=[4,5]})]
def sO (p:List D4)(iW x x1 x2 x3:Int):= eD 43 [(0,j9 76 (K4) p),cW 3,(6,bW iW)] [(3,[aq x,aq x1,aq x2,aq x3])] []
def qw (p:List D4)(iW x x1 x2 x3:Int):= eD 43 [(0,j9 76 (K4) p),cW 3,(6,bW iW)] [(3,[aq x,aq x1,aq x2,aq x3])] []
def zH (st:St):Option U:=gQ zF F zG [.r,.r,.l,.b,.i] f316 J n st
def sP:=jG zF F zG [.r,.r,.l,.b] f316 VO 2
theorem GQ (p:List D4)(iW x x1 x2 x3:Int):zH F J (n+1) (sO p iW x x1 x2 x3)=br (decide (iW<(p.length:Int))) (ck (cr iW (p.length:Int)) ((uH F0 (aU p iW K4.aG) (x,x1,x2,x3)).bind fun Oq=>br Oq.1 (zH F J n (sO p (ak (iW+1)) x x1 x2 x3)) (J (.exit 0) (qw p iW x x1 x2 x3)))) (J (.exit 0) (qw p iW x x1 x2 x3)):=by kernel_rfl
theorem abE (p:List D4)(iW x x1 x2 x3:Int):sP F (.exit 0) (qw p iW x x1 x2 x3)=ck (SJ 0 iW (p.length:Int)) (ck (fp F 0 ((p.take iW.toNat).drop (0:Int).toNat).length 32) (ck (fp F ([]++((p.take iW.toNat).drop (0:Int).toNat)).length [(x,x1,x2,x3)].length 32) (ck (SJ iW (p.length:Int) (p.length:Int)) (ck (fp F (([]++((p.take iW.toNat).drop (0:Int).toNat))++[(x,x1,x2,x3)]).length ((p.take (p.length:Int).toNat).drop iW.toNat).length 32) ((EI F0 ((([]++((p.take iW.toNat).drop (0:Int).toNat))++[(x,x1,x2,x3)])++((p.take (p.length:Int).toNat).drop iW.toNat))).bind fun HM=>br (!HM.1) (ck (fp F 0 p.length 32) (some ([]++p,false,()))) (some ((([]++((p.take iW.toNat).drop (0:Int).toNat))++[(x,x1,x2,x3)])++((p.take (p.length:Int).toNat).drop iW.toNat),true,()))))))):=by kernel_rfl
abbrev aEb:List (Ty×Bool):=[(K5,false),(K4,true)]
def H7 (p:D5)(x:D4):=bJ zF F zG f316 aEb VO 2 (p,x,())
theorem ak4 (p:D5)(x:D4):H7 F p x=zH F (sP F) F.n (sO p 0 x.1 x.2.1 x.2.2.1 x.2.2.2):=by kernel_rfl
def PO:Any:=.one ⟨aEb,VO,2,fun x=>H7 F0 x.1 x.2.1⟩
theorem ak5:bz 316 PO:=aA zF ⟨VQ,Pd,trivial⟩ func316 zG (by kernel_rfl)
def ZZ:=[(58,cB),(73,c9),(316,PO)]
abbrev aEc:List (Ty×Bool):=[(K1,true),(di,true),(K4,true)]
def MD (c:D1)(r:bD)(x:D4):=bJ ZZ F ab f274 aEc ik 2 (c,r,x,())
theorem aoB (c:D1)(r:bD)(x:D4):MD F c r x=(bo F0 r).bind fun cP=>(ez F0 c r).bind fun pa=>br (!pa.1) (some (cP.1,false,())) ((H7 F0 r.2.2.2.2.1 x).bind fun gL=>br gL.2.1 (some ((cP.1.1,cP.1.2.1,cP.1.2.2.1,cP.1.2.2.2.1,gL.1,cP.1.2.2.2.2.2),gL.2.1,())) (some (cP.1,gL.2.1,()))):=by kernel_rfl
def Tr:Any:=.one ⟨aEc,ik,2,fun x=>MD F0 x.1 x.2.1 x.2.2.1⟩
theorem aoC:bz 274 Tr:=aA ZZ ⟨c7,dH,ak5,trivial⟩ func274 ab (by kernel_rfl)
def Wq:=[(235,xh),(272,MB),(273,MC),(274,Tr)]
abbrev Z0:List (Ty×Bool):=[(K1,true),(di,true),(K21,true)]
def H8 (c:D1)(r:bD)(m:Oo):=bJ Wq F ab f228 Z0 ik 2 (c,r,m,())
theorem ak6 (c:D1)(r:bD)(m:Oo):H8 F c r m=br (m.1==1) ((rq F0 c r m.2.2.1).bind fun Wl=>some (Wl.1,Wl.2.1,())) (br (m.1==2) ((Dv F0 c r m.2.2.2.1).bind fun HM=>some (HM.1,HM.2.1,())) (br (m.1==3) ((Dw F0 c r m.2.1 m.2.2.2.2.1 m.2.2.2.2.2.1).bind fun Zw=>some (Zw.1,Zw.2.1,())) ((MD F0 c r m.2.2.2.2.2.2).bind fun r63=>some (r63.1,r63.2.1,())))):=by kernel_rfl
def PQ:Any:=.one ⟨Z0,ik,2,fun x=>H8 F0 x.1 x.2.1 x.2.2.1⟩
theorem ak7:bz 228 PQ:=aA Wq ⟨MA,agJ,agL,aoC,trivial⟩ func228 ab (by kernel_rfl)
def sQ:=[(164,j2)]
def sR:Nat->Option Hint:=look [(3,{live:=[0,1,5,6],xl:=[5],rl:=[4]})]
def kp (list:List D9)(view i:Int)(xs:List D9):= eD 30 [(0,j9 74 (K9) list),(1,bW view),(5,.v (.c (.own 1000000 none))),(6,bW i)] [] [aB 1000000 74 K9 xs]
def GR (xs:List D9):= eD 30 [(5,.v (.c (.own 1000000 none)))] [] [aB 1000000 74 K9 xs]
def ni (st:St):Option U:=gQ sQ F sR [.r,.r,.l,.r,.b,.i] f229 J n st
def xi:=jG sQ F sR [.r,.r,.l,.r,.b] f229 GD 2
theorem Bs (list:List D9)(view i:Int)(xs:List D9):ni F J (n+1) (kp list view i xs)=br (decide (i<(list.length:Int))) (ck (cr i (list.length:Int)) (br (decide ((aU list i K9.aG).1>=view)) (ck (cr i (list.length:Int)) ((il F0 (aU list i K9.aG)).bind fun uC=>ck (fp F xs.length [uC.1].length 48) (ni F J n (kp list view (ak (i+1)) (xs++[uC.1]))))) (ni F J n (kp list view (ak (i+1)) xs)))) (J (.exit 0) (GR xs)):=by kernel_rfl
theorem Wr (xs:List D9):xi F (.exit 0) (GR xs)=some (xs,()):=by kernel_rfl
abbrev aEd:List (Ty×Bool):=[(K13,false),(.int .i64,false)]
def zI (list:D13)(view:Int):=bJ sQ F sR f229 aEd GD 2 (list,view,())
theorem adW (list:D13)(view:Int):zI F list view=ni F (xi F) F.n (kp list view 0 []):=by kernel_rfl
def Kk:Any:=.one ⟨aEd,GD,2,fun x=>zI F0 x.1 x.2.1⟩
theorem adX:bz 229 Kk:=aA sQ ⟨pt,trivial⟩ func229 sR (by kernel_rfl)
def adY:=[(73,c9),(109,FR),(110,xe),(111,J4)]
def Kl (c:D1)(r:bD):=bJ adY F ab f231 Bf qm 2 (c,r,())
theorem asg (c:D1)(r:bD):Kl F c r=(ez F0 c r).bind fun r9=>br (!r9.1) (some (([],[]),())) ((mY F0).bind fun cp=>(xf F0 r.2.2.2.1.2.2.2).bind fun fD=>(xX F0 cp.1 fD.1).bind fun Oq=>some (Oq.1,())):=by kernel_rfl
def Ws:Any:=.one ⟨Bf,qm,2,fun x=>Kl F0 x.1 x.2.1⟩
theorem ash:bz 231 Ws:=aA adY ⟨dH,V6,Mm,ZP,trivial⟩ func231 ab (by kernel_rfl)
end
end Go.Am.Tryz
namespace Go.Am.Tryz
open Go.Am Go.Proofs Go.Proofs.Tryz
noncomputable section
variable {U:Type} (F:sd) (J:Ex->St->Option U) (n:Nat)
def v8:=[(167,HV)]
def wa:Nat->Option Hint:=look [(3,{live:=[0,3,5,6],xl:=[5],rl:=[4]})]
def lB (p:List D4)(i:Int)(l l1:List Int)(xs:List D4):= eD 35 [(0,j9 76 (K4) p),cW 3,(5,.v (.c (.own 1000000 none))),(6,bW i)] [(3,[.ro false 3 (.int .i64) l,.ro false 3 (.int .i64) l1])] [aB 1000000 76 K4 xs]
def Km (xs:List D4):= eD 35 [(5,.v (.c (.own 1000000 none)))] [] [aB 1000000 76 K4 xs]
def py (st:St):Option U:=gQ v8 F wa [.r,.r,.l,.r,.b,.i] f230 J n st
def zJ:=jG v8 F wa [.r,.r,.l,.r,.b] f230 kF 2
theorem EW (p:List D4)(i:Int)(l l1:List Int)(xs:List D4):py F J (n+1) (lB p i l l1 xs)=br (decide (i<(p.length:Int))) (ck (cr i (p.length:Int)) ((J8 F0 (l,l1) (aU p i K4.aG)).bind fun gL=>br (gL.2.1 != 2) (ck (cr i (p.length:Int)) (ck (fp F xs.length [(aU p i K4.aG)].length 32) (py F J n (lB p (ak (i+1)) l l1 (xs++[(aU p i K4.aG)]))))) (py F J n (lB p (ak (i+1)) l l1 xs)))) (J (.exit 0) (Km xs)):=by kernel_rfl
theorem YW (xs:List D4):zJ F (.exit 0) (Km xs)=some (xs,()):=by kernel_rfl
def Dx (p:D5)(l:D43):=bJ v8 F wa f230 ai6 kF 2 (p,l,())
theorem agM (p:D5)(l:D43):Dx F p l=py F (zJ F) F.n (lB p 0 l.1 l.2 []):=by kernel_rfl
def ME:Any:=.one ⟨ai6,kF,2,fun x=>Dx F0 x.1 x.2.1⟩
theorem agN:bz 230 ME:=aA v8 ⟨V5,trivial⟩ func230 wa (by kernel_rfl)
def ajg:=[(58,cB),(73,c9),(127,kl),(228,PQ),(229,Kk),(230,ME),(231,Ws)]
def PR (c:D1)(r:bD)(m:Oo):=bJ ajg F ab f172 Z0 ik 2 (c,r,m,())
theorem av8 (c:D1)(r:bD)(m:Oo):PR F c r m=(ez F0 c r).bind fun cP=>br (!cP.1) ((bo F0 r).bind fun ia=>some (ia.1,false,())) ((gd F0 c m).bind fun fD=>br (!fD.1) ((bo F0 r).bind fun ia=>some (ia.1,false,())) ((H8 F0 c r m).bind fun uC=>br (!uC.2.1) ((bo F0 r).bind fun HJ=>some (HJ.1,false,())) ((zI F0 uC.1.2.2.2.2.2.1 (ak (uC.1.2.1-1))).bind fun UQ=>(Kl F0 c (uC.1.1,uC.1.2.1,uC.1.2.2.1,uC.1.2.2.2.1,uC.1.2.2.2.2.1,UQ.1,uC.1.2.2.2.2.2.2)).bind fun r44=>(Dx F0 uC.1.2.2.2.2.1 r44.1).bind fun r45=>some ((uC.1.1,uC.1.2.1,uC.1.2.2.1,uC.1.2.2.2.1,r45.1,UQ.1,uC.1.2.2.2.2.2.2),true,())))):=by kernel_rfl
def Ov:Any:=.one ⟨Z0,ik,2,fun x=>PR F0 x.1 x.2.1 x.2.2.1⟩
theorem adZ:bz 172 Ov:=aA ajg ⟨c7,dH,pO,ak7,adX,agN,ash,trivial⟩ func172 ab (by kernel_rfl)
def Z1:=[(62,dC),(72,cK),(76,JZ),(172,Ov)]
def x6 (w:o8)(d:D45):Option (o8×Int×o8):=arF Tryz.prog (look Z1) F ab f118 [(iV,true),(K45,true)] 0 (iV,true) (.int .i64,false) (iV,true) (w,d,())
theorem aoD (w:o8)(d:D45):x6 F w d=(cg F0 d.2.1 0 (ak ((w.2.2.2.1.length:Int)-1))).bind fun fD=>br (!fD.1) (some (iV.aG,2,w)) (ck (cr d.2.1 (w.2.2.2.1.length:Int)) (br (d.1==5) (br (decide ((w.2.2.2.1.length:Int)>=60)) (some (iV.aG,4,w)) (ck (fp F 0 (aU w.2.2.2.1 d.2.1 (0,[])).2.length 1) (ck (fp F w.2.2.2.1.length [((aU w.2.2.2.1 d.2.1 (0,[])).1,[]++(aU w.2.2.2.1 d.2.1 (0,[])).2)].length 32) (some ((w.1,w.2.1,w.2.2.1,w.2.2.2.1++[((aU w.2.2.2.1 d.2.1 (0,[])).1,[]++(aU w.2.2.2.1 d.2.1 (0,[])).2)],w.2.2.2.2),0,iV.aG))))) (ck (okT d.2.1 (w.2.2.2.1.length:Int)) (ck (SJ (ak (d.2.1+1)) (w.2.2.2.1.length:Int) (w.2.2.2.1.length:Int)) (ck (fp F 0 (w.2.2.2.1.take d.2.1.toNat).length 32) (ck (fp F ([]++(w.2.2.2.1.take d.2.1.toNat)).length ((w.2.2.2.1.take (w.2.2.2.1.length:Int).toNat).drop (ak (d.2.1+1)).toNat).length 32) (br (d.1==3) ((dN F0 w.2.1 (aU w.2.2.2.1 d.2.1 (0,[])).1).bind fun r70=>br (!r70.1) ((JY F0 w.1 (aU w.2.2.2.1 d.2.1 (0,[])).2).bind fun Jc=>ck (cr (aU w.2.2.2.1 d.2.1 (0,[])).1 (w.2.2.1.length:Int)) ((PR F0 w.1 (aU w.2.2.1 (aU w.2.2.2.1 d.2.1 (0,[])).1 di.aG) Jc.1).bind fun r91=>br r91.2.1 (ck (cr (aU w.2.2.2.1 d.2.1 (0,[])).1 (w.2.2.1.length:Int)) (some ((w.1,w.2.1,w.2.2.1.set (aU w.2.2.2.1 d.2.1 (0,[])).1.toNat r91.1,([]++(w.2.2.2.1.take d.2.1.toNat))++((w.2.2.2.1.take (w.2.2.2.1.length:Int).toNat).drop (ak (d.2.1+1)).toNat),w.2.2.2.2),0,iV.aG))) (some ((w.1,w.2.1,w.2.2.1,([]++(w.2.2.2.1.take d.2.1.toNat))++((w.2.2.2.1.take (w.2.2.2.1.length:Int).toNat).drop (ak (d.2.1+1)).toNat),w.2.2.2.2),0,iV.aG)))) (some ((w.1,w.2.1,w.2.2.1,([]++(w.2.2.2.1.take d.2.1.toNat))++((w.2.2.2.1.take (w.2.2.2.1.length:Int).toNat).drop (ak (d.2.1+1)).toNat),w.2.2.2.2),0,iV.aG))) (some ((w.1,w.2.1,w.2.2.1,([]++(w.2.2.2.1.take d.2.1.toNat))++((w.2.2.2.1.take (w.2.2.2.1.length:Int).toNat).drop (ak (d.2.1+1)).toNat),w.2.2.2.2),0,iV.aG))))))))):=by kernel_rfl
def Ts:Any:=.sel ⟨[(iV,true),(K45,true)],0,(iV,true),(.int .i64,false),(iV,true),fun x=>x6 F0 x.1 x.2.1⟩
theorem aoE:bz 118 Ts:=ok4 (show yF Tryz.prog TB Z1 from⟨eL,dq,ZM,adZ,trivial⟩) func118 (by kernel_rfl) (by kernel_rfl) ab (by kernel_rfl) (by kernel_rfl)
def Dy:Nat->Option Hint:=look [(2,{live:=[0,1,2,3,9],rl:=[8]})]
def kP (list:List cH)(view:Int)(name:ByteArray)(dk i:Int):= cV 41 [(0,j9 127 (eu) list),(1,bW view),(2,UP name),(3,bW dk),(9,bW i)]
def Tt (t8:Bool):= cV 41 [(8,SK t8)]
def PS   := cV 41 []
def pU (st:St):Option U:=gQ aF F Dy [.r,.l,.r,.b,.i] f275 J n st
def wb:=jG aF F Dy [.r,.l,.r,.b] f275 bd 1
theorem Kn (list:List cH)(view:Int)(name:ByteArray)(dk i:Int):pU F J (n+1) (kP list view name dk i)=br (decide (i<(list.length:Int))) (ck (cr i (list.length:Int)) (br ((aU list i eu.aG).1==view) (ck (cr i (list.length:Int)) (br ((aU list i eu.aG).2.1.toList==name.toList) (ck (cr i (list.length:Int)) (br ((aU list i eu.aG).2.2==dk) (J .ret (Tt true)) (pU F J n (kP list view name dk (ak (i+1)))))) (pU F J n (kP list view name dk (ak (i+1)))))) (pU F J n (kP list view name dk (ak (i+1)))))) (J (.exit 0) (PS)):=by kernel_rfl
theorem agO (t8:Bool):wb F .ret (Tt t8)=some (t8,()):=by kernel_rfl
theorem ad0: wb F (.exit 0) (PS)=some (false,()):=by kernel_rfl
abbrev aLC:List (Ty×Bool):=[(K38,false),(.int .i64,false),(.str,false),(.int .i64,false)]
def EX (list:D38)(view:Int)(name:ByteArray)(dk:Int):=bJ aF F Dy f275 aLC bd 1 (list,view,name,dk,())
theorem aoF (list:D38)(view:Int)(name:ByteArray)(dk:Int):EX F list view name dk=pU F (wb F) F.n (kP list view name dk 0):=by kernel_rfl
def FZ:Any:=.one ⟨aLC,bd,1,fun x=>EX F0 x.1 x.2.1 x.2.2.1 x.2.2.2.1⟩
theorem Wt:bz 275 FZ:=aA aF trivial func275 Dy (by kernel_rfl)
def Dz:=[(62,dC),(275,FZ)]
def DA:Nat->Option Hint:=look [(2,{live:=[0,1,2,3,4,11],rl:=[10]})]
def pz (liars:List Int)(list:List cH)(view:Int)(name:ByteArray)(dk:List Int)(i:Int):= cV 36 [(0,j9 3 (.int .i64) liars),(1,j9 127 (eu) list),(2,bW view),(3,UP name),(4,j9 3 (.int .i64) dk),(11,bW i)]
def Tu (t10:Bool):= cV 36 [(10,SK t10)]
def PT   := cV 36 []
def uN (st:St):Option U:=gQ Dz F DA [.r,.l,.r,.b,.i] f232 J n st
def wc:=jG Dz F DA [.r,.l,.r,.b] f232 bd 1
theorem Ko (liars:List Int)(list:List cH)(view:Int)(name:ByteArray)(dk:List Int)(i:Int):uN F J (n+1) (pz liars list view name dk i)=br (decide (i<(dk.length:Int))) (ck (cr i (dk.length:Int)) ((dN F0 liars (aU dk i 0)).bind fun sw=>br (!sw.1) (ck (cr i (dk.length:Int)) ((EX F0 list view name (aU dk i 0)).bind fun uD=>br (!uD.1) (J .ret (Tu false)) (uN F J n (pz liars list view name dk (ak (i+1)))))) (uN F J n (pz liars list view name dk (ak (i+1)))))) (J (.exit 0) (PT)):=by kernel_rfl
theorem agP (t10:Bool):wc F .ret (Tu t10)=some (t10,()):=by kernel_rfl
theorem ad1: wc F (.exit 0) (PT)=some (true,()):=by kernel_rfl
abbrev aEe:List (Ty×Bool):=[(.sl 3 (.int .i64),false),(K38,false),(.int .i64,false),(.str,false),(.sl 3 (.int .i64),false)]
def x7 (liars:List Int)(list:D38)(view:Int)(name:ByteArray)(dk:List Int):=bJ Dz F DA f232 aEe bd 1 (liars,list,view,name,dk,())
theorem aoG (liars:List Int)(list:D38)(view:Int)(name:ByteArray)(dk:List Int):x7 F liars list view name dk=uN F (wc F) F.n (pz liars list view name dk 0):=by kernel_rfl
def Tv:Any:=.one ⟨aEe,bd,1,fun x=>x7 F0 x.1 x.2.1 x.2.2.1 x.2.2.2.1 x.2.2.2.2.1⟩
theorem aoH:bz 232 Tv:=aA Dz ⟨eL,Wt,trivial⟩ func232 DA (by kernel_rfl)
def Z2:=[(62,dC),(78,ee),(106,jU),(127,kl),(232,Tv)]
abbrev aEf:List (Ty×Bool):=[(K1,true),(.sl 3 (.int .i64),false),(K38,false),(K21,true)]
def MF (c:D1)(liars:List Int)(list:D38)(m:Oo):=bJ Z2 F ab f173 aEf bd 1 (c,liars,list,m,())
theorem aoI (c:D1)(liars:List Int)(list:D38)(m:Oo):MF F c liars list m=(gd F0 c m).bind fun dB=>br (!dB.1) (some (false,())) (br (m.1==1) ((ep F0 m.2.2.1.1).bind fun gL=>(mX F0 c gL.1).bind fun sw=>(dN F0 liars sw.1).bind fun r24=>br r24.1 ((x7 F0 liars list m.2.2.1.2.1 m.2.2.1.2.2.1 m.2.2.1.2.2.2).bind fun xW=>some (xW.1,())) (some (false,()))) (br (m.1==2) ((x7 F0 liars list m.2.2.2.1.1 m.2.2.2.1.2.1 m.2.2.2.1.2.2).bind fun r55=>some (r55.1,())) (br (m.1==3) ((dN F0 liars m.2.2.2.2.2.1).bind fun Ja=>br Ja.1 ((x7 F0 liars list m.2.2.2.2.1.1 m.2.2.2.2.1.2.1 m.2.2.2.2.1.2.2).bind fun r74=>some (r74.1,())) (some (false,()))) (some (true,()))))):=by kernel_rfl
def Tw:Any:=.one ⟨aEf,bd,1,fun x=>MF F0 x.1 x.2.1 x.2.2.1 x.2.2.2.1⟩
theorem aoJ:bz 173 Tw:=aA Z2 ⟨eL,fx,oz,pO,aoH,trivial⟩ func173 ab (by kernel_rfl)
def zK:=[(276,jl)]
def zL:Nat->Option Hint:=look [(3,{live:=[0,3,4],xl:=[3],rl:=[2]})]
def sS (list:List Int)(i:Int)(xs:List Int):= eD 20 [(0,j9 3 (.int .i64) list),(3,.v (.c (.own 1000000 none))),(4,bW i)] [] [aB 1000000 5 (.int .u8) xs]
def MG (xs:List Int):= eD 20 [(3,.v (.c (.own 1000000 none)))] [] [aB 1000000 5 (.int .u8) xs]
def zM (st:St):Option U:=gQ zK F zL [.r,.r,.l,.r,.b,.i] f279 J n st
def B8:=jG zK F zL [.r,.r,.l,.r,.b] f279 mG 2
theorem GS (list:List Int)(i:Int)(xs:List Int):zM F J (n+1) (sS list i xs)=br (decide (i<(list.length:Int))) (ck (cr i (list.length:Int)) ((fg F0 (aU list i 0)).bind fun fD=>ck (fp F xs.length fD.1.length 1) (zM F J n (sS list (ak (i+1)) (xs++fD.1))))) (J (.exit 0) (MG xs)):=by kernel_rfl
theorem abF (xs:List Int):B8 F (.exit 0) (MG xs)=some (xs,()):=by kernel_rfl
def sU (list:List Int):=bJ zK F zL f279 kI mG 2 (list,())
theorem ak8 (list:List Int):sU F list=zM F (B8 F) F.n (sS list 0 []):=by kernel_rfl
def PU:Any:=.one ⟨kI,mG,2,fun x=>sU F0 x.1⟩
theorem ak9:bz 279 PU:=aA zK ⟨nc,trivial⟩ func279 zL (by kernel_rfl)
def Tx:=[(127,kl),(276,jl),(277,sH),(278,B3),(279,PU)]
def DB (c:D1)(m:Oo):=bJ Tx F ab f233 ai1 mG 2 (c,m,())
theorem agQ (c:D1)(m:Oo):DB F c m=(gd F0 c m).bind fun r8=>br (!r8.1) (some ([],())) ((fg F0 m.1).bind fun cp=>br (m.1==1) ((oA F0 m.2.2.1.1).bind fun gL=>ck (fp F cp.1.length gL.1.length 1) ((sJ F0 c m.2.2.1.2).bind fun UG=>ck (fp F (cp.1++gL.1).length UG.1.length 1) (some ((cp.1++gL.1)++UG.1,())))) (br (m.1==2) ((fg F0 m.2.2.2.1.1).bind fun HM=>ck (fp F cp.1.length HM.1.length 1) ((oA F0 m.2.2.2.1.2.1).bind fun Rg=>ck (fp F (cp.1++HM.1).length Rg.1.length 1) ((fg F0 (m.2.2.2.1.2.2.length:Int)).bind fun Fw=>ck (fp F ((cp.1++HM.1)++Rg.1).length Fw.1.length 1) ((sU F0 m.2.2.2.1.2.2).bind fun r56=>ck (fp F (((cp.1++HM.1)++Rg.1)++Fw.1).length r56.1.length 1) (some ((((cp.1++HM.1)++Rg.1)++Fw.1)++r56.1,())))))) (br (m.1==3) ((sU F0 [m.2.1,m.2.2.2.2.2.1]).bind fun r66=>ck (fp F cp.1.length r66.1.length 1) ((sJ F0 c m.2.2.2.2.1).bind fun r72=>ck (fp F (cp.1++r66.1).length r72.1.length 1) (some ((cp.1++r66.1)++r72.1,())))) ((sU F0 [m.2.2.2.2.2.2.1,m.2.2.2.2.2.2.2.1,m.2.2.2.2.2.2.2.2.1,m.2.2.2.2.2.2.2.2.2]).bind fun r88=>ck (fp F cp.1.length r88.1.length 1) (some (cp.1++r88.1,())))))):=by kernel_rfl
def MH:Any:=.one ⟨ai1,mG,2,fun x=>DB F0 x.1 x.2.1⟩
theorem agR:bz 233 MH:=aA Tx ⟨pO,nc,FW,Tf,ak9,trivial⟩ func233 ab (by kernel_rfl)
def zN:=[(72,cK),(233,MH)]
def zO:Nat->Option Hint:=look [(2,{live:=[1,2,4,5],aLP:=true,yz:=[(4,2,3,.int .i64),(4,3,50,di),(4,4,114,fW),(4,5,127,eu)],xl:=[2,4],rl:=[4]})]
def gU (list:List l5)(i w w1 t4 t41:Int)(xs:List Int)(aQ:List bD)(ba:List cU)(bp:List cH)(bQ:List Int)(cD:List bD)(cE:List cU)(cI:List cH):St:={nt:=55,tm:=[(1,j9 146 (qT) list),cW 2,cW 4,(5,bW i)],bx:=[(2,[aq w,aq w1,.own 1000000 none,.own 1000001 none,.own 1000002 none,.own 1000003 none]),(4,[aq t4,aq t41,.own 1000004 none,.own 1000005 none,.own 1000006 none,.own 1000007 none])],bl:=[aB 1000000 3 (.int .i64) xs,aB 1000001 50 di aQ,aB 1000002 114 fW ba,aB 1000003 127 eu bp,aB 1000004 3 (.int .i64) bQ,aB 1000005 50 di cD,aB 1000006 114 fW cE,aB 1000007 127 eu cI],sp:=.v (.c (.none))}
def MI (w w1 t4 t41:Int)(xs:List Int)(aQ:List bD)(ba:List cU)(bp:List cH)(bQ:List Int)(cD:List bD)(cE:List cU)(cI:List cH):St:={nt:=55,tm:=[cW 2,cW 4],bx:=[(2,[aq w,aq w1,.own 1000000 none,.own 1000001 none,.own 1000002 none,.own 1000003 none]),(4,[aq t4,aq t41,.own 1000004 none,.own 1000005 none,.own 1000006 none,.own 1000007 none])],bl:=[aB 1000000 3 (.int .i64) xs,aB 1000001 50 di aQ,aB 1000002 114 fW ba,aB 1000003 127 eu bp,aB 1000004 3 (.int .i64) bQ,aB 1000005 50 di cD,aB 1000006 114 fW cE,aB 1000007 127 eu cI],sp:=.v (.c (.none))}
def kq (st:St):Option U:=gQ zN F zO [.r,.l,.r,.b,.i] f174 J n st
def B9:=ayC zN F zO [.r,.l,.r,.b] f174 (.own true) gE [] 2
theorem GU (list:List l5)(i w w1 t4 t41:Int)(xs:List Int)(aQ:List bD)(ba:List cU)(bp:List cH)(bQ:List Int)(cD:List bD)(cE:List cU)(cI:List cH):kq F J (n+1) (gU list i w w1 t4 t41 xs aQ ba bp bQ cD cE cI)=br (decide (i<(list.length:Int))) (ck (cr i (list.length:Int)) ((DB F0 (w,w1) (aU list i qT.aG).2).bind fun EH=>br (decide ((ba.length:Int)<60)) (br (decide ((EH.1.length:Int)>0)) (ck (cr i (list.length:Int)) ((cg F0 (aU list i qT.aG).1 0 (ak (w-1))).bind fun xW=>br xW.1 (ck (cr i (list.length:Int)) (ck (fp F ba.length [((aU list i qT.aG).1,EH.1)].length 32) (kq F J n (gU list (ak (i+1)) w w1 t4 t41 xs aQ (ba++[((aU list i qT.aG).1,EH.1)]) bp bQ cD cE cI)))) (kq F J n (gU list (ak (i+1)) w w1 t4 t41 xs aQ ba bp bQ cD cE cI)))) (kq F J n (gU list (ak (i+1)) w w1 t4 t41 xs aQ ba bp bQ cD cE cI))) (kq F J n (gU list (ak (i+1)) w w1 t4 t41 xs aQ ba bp bQ cD cE cI)))) (J (.exit 0) (MI w w1 t4 t41 xs aQ ba bp bQ cD cE cI)):=by kernel_rfl
theorem abG (w w1 t4 t41:Int)(xs:List Int)(aQ:List bD)(ba:List cU)(bp:List cH)(bQ:List Int)(cD:List bD)(cE:List cU)(cI:List cH):B9 F (.exit 0) (MI w w1 t4 t41 xs aQ ba bp bQ cD cE cI)=some ((((w,w1),xs,aQ,ba,bp),()),()):=by kernel_rfl
abbrev aEg:List (Ty×Bool):=[(iV,true),(K23,false)]
def zP (w:o8)(list:D23):=EG zN F zO f174 aEg 0 (.own true) gE [] 2 (w,list,())
theorem ala (w:o8)(list:D23):zP F w list=kq F (B9 F) F.n (gU list 0 w.1.1 w.1.2 0 0 w.2.1 w.2.2.1 w.2.2.2.1 w.2.2.2.2 [] [] [] []):=by kernel_rfl
def Ca:Any:=.two ⟨aEg,0,(.own true),gE,2,[],fun x=>zP F0 x.1 x.2.1⟩
theorem Tz:bz 174 Ca:=aBL zN ⟨dq,agR,trivial⟩ func174 zO (by kernel_rfl)
def Z3:=[(72,cK),(173,Tw),(174,Ca)]
def MJ (w:o8)(d:D45):Option (o8×Int×o8):=arF Tryz.prog (look Z3) F ab f119 [(iV,true),(K45,true)] 0 (iV,true) (.int .i64,false) (iV,true) (w,d,())
theorem aoK (w:o8)(d:D45):MJ F w d=(cg F0 d.2.1 0 (ak (w.1.1-1))).bind fun cP=>br (!cP.1) (some (iV.aG,2,w)) ((MF F0 w.1 w.2.1 w.2.2.2.2 d.2.2.2).bind fun sw=>br (!sw.1) (some (iV.aG,5,w)) (br (decide ((w.2.2.2.1.length:Int)>=60)) (some (iV.aG,4,w)) ((zP F0 w [(d.2.1,d.2.2.2)]).bind fun UQ=>some (UQ.1.1,0,iV.aG)))):=by kernel_rfl
def TA:Any:=.sel ⟨[(iV,true),(K45,true)],0,(iV,true),(.int .i64,false),(iV,true),fun x=>MJ F0 x.1 x.2.1⟩
theorem aoL:bz 119 TA:=ok4 (show yF Tryz.prog TB Z3 from⟨dq,aoJ,Tz,trivial⟩) func119 (by kernel_rfl) (by kernel_rfl) ab (by kernel_rfl) (by kernel_rfl)
def DC:=[(62,dC)]
def DD:Nat->Option Hint:=look [(3,{live:=[1,3,4],xl:=[3],rl:=[2]})]
def kQ (i w w1:Int)(w2:List Int)(w3:List bD)(w4:List cU)(w5:List cH)(xs:List Int):= eD 23 [cW 1,(3,.v (.c (.own 1000000 none))),(4,bW i)] [(1,[aq w,aq w1,.ro false 3 (.int .i64) w2,.ro false 50 (di) w3,.ro false 114 (fW) w4,.ro false 127 (eu) w5])] [aB 1000000 3 (.int .i64) xs]
def PV (xs:List Int):= eD 23 [(3,.v (.c (.own 1000000 none)))] [] [aB 1000000 3 (.int .i64) xs]
def pV (st:St):Option U:=gQ DC F DD [.r,.r,.l,.r,.b,.i] f120 J n st
def we:=jG DC F DD [.r,.r,.l,.r,.b] f120 kI 2
theorem Kp (i w w1:Int)(w2:List Int)(w3:List bD)(w4:List cU)(w5:List cH)(xs:List Int):pV F J (n+1) (kQ i w w1 w2 w3 w4 w5 xs)=br (decide (i<(w3.length:Int))) ((dN F0 w2 i).bind fun o9=>br (!o9.1) (ck (fp F xs.length [i].length 8) (pV F J n (kQ (ak (i+1)) w w1 w2 w3 w4 w5 (xs++[i])))) (pV F J n (kQ (ak (i+1)) w w1 w2 w3 w4 w5 xs))) (J (.exit 0) (PV xs)):=by kernel_rfl
theorem ad2 (xs:List Int):we F (.exit 0) (PV xs)=some (xs,()):=by kernel_rfl
def EY (w:o8):=bJ DC F DD f120 gE kI 2 (w,())
theorem aoM (w:o8):EY F w=pV F (we F) F.n (kQ 0 w.1.1 w.1.2 w.2.1 w.2.2.1 w.2.2.2.1 w.2.2.2.2 []):=by kernel_rfl
def F1:Any:=.one ⟨gE,kI,2,fun x=>EY F0 x.1⟩
theorem Wu:bz 120 F1:=aA DC ⟨eL,trivial⟩ func120 DD (by kernel_rfl)
def zQ:=[(58,cB),(73,c9),(241,nh)]
def zR:Nat->Option Hint:=look [(5,{live:=[3,4,5,6,8,9],yz:=[(6,7,3,.int .i64),(6,9,76,K4),(6,10,74,K9),(6,11,5,.int .u8),(6,13,146,qT)],xl:=[6,8],rl:=[6,7]})]
def nm (i c c1 r r1 r2 r3 r4 r5:Int)(r6:ByteArray)(r7:List Int)(r8:ByteArray)(r9:List D4)(ij:List D9)(dB:List Int)(cP:Int)(cp:List l5)(m m1:Int)(m2:ByteArray)(m3:Int)(m4:ByteArray)(m5:List Int)(m6:Int)(m7:ByteArray)(m8:List Int)(m9:Int)(m10:ByteArray)(m11:List Int)(m12 m13 m14 m15 m16 t6 t61 t62 t63 t64 t65:Int)(t66 t67:ByteArray)(t68 out bh rr ru rv ry:Int)(Kq Kr:ByteArray)(Ks:Int)(xs:List Int)(aQ:List D4)(ba:List D9)(bp:List Int)(bQ:List l5)(cD:List Int)(cE:List D4)(cI:List D9)(pb:List Int)(F2:List l5):= eD 43 [cW 3,cW 4,cW 5,cW 6,cW 8,(9,bW i)] [(3,[aq c,aq c1]),(4,[aq r,aq r1,aq r2,aq r3,aq r4,aq r5,.str r6,.ro false 3 (.int .i64) r7,.str r8,.ro false 76 (K4) r9,.ro false 74 (K9) ij,.ro false 5 (.int .u8) dB,aq cP,.ro false 146 (qT) cp]),(5,[aq m,aq m1,.str m2,aq m3,.str m4,.ro false 3 (.int .i64) m5,aq m6,.str m7,.ro false 3 (.int .i64) m8,aq m9,.str m10,.ro false 3 (.int .i64) m11,aq m12,aq m13,aq m14,aq m15,aq m16]),(6,[aq t6,aq t61,aq t62,aq t63,aq t64,aq t65,.str t66,.own 1000000 none,.str t67,.own 1000001 none,.own 1000002 none,.own 1000003 none,aq t68,.own 1000004 none]),(8,[aq out,aq bh,aq rr,aq ru,aq rv,aq ry,.str Kq,.own 1000005 none,.str Kr,.own 1000006 none,.own 1000007 none,.own 1000008 none,aq Ks,.own 1000009 none])] [aB 1000000 3 (.int .i64) xs,aB 1000001 76 K4 aQ,aB 1000002 74 K9 ba,aB 1000003 5 (.int .u8) bp,aB 1000004 146 qT bQ,aB 1000005 3 (.int .i64) cD,aB 1000006 76 K4 cE,aB 1000007 74 K9 cI,aB 1000008 5 (.int .u8) pb,aB 1000009 146 qT F2]
def PW (t7:Bool)(t6 t61 t62 t63 t64 t65:Int)(t66 t67:ByteArray)(t68:Int)(xs:List Int)(aQ:List D4)(ba:List D9)(bp:List Int)(bQ:List l5):= eD 43 [cW 6,(7,SK t7)] [(6,[aq t6,aq t61,aq t62,aq t63,aq t64,aq t65,.str t66,.own 1000000 none,.str t67,.own 1000001 none,.own 1000002 none,.own 1000003 none,aq t68,.own 1000004 none])] [aB 1000000 3 (.int .i64) xs,aB 1000001 76 K4 aQ,aB 1000002 74 K9 ba,aB 1000003 5 (.int .u8) bp,aB 1000004 146 qT bQ]
def MK (t6 t61 t62 t63 t64 t65:Int)(t66 t67:ByteArray)(t68 out bh rr ru rv ry:Int)(Kq Kr:ByteArray)(Ks:Int)(xs:List Int)(aQ:List D4)(ba:List D9)(bp:List Int)(bQ:List l5)(cD:List Int)(cE:List D4)(cI:List D9)(pb:List Int)(F2:List l5):= eD 43 [cW 6,cW 8] [(6,[aq t6,aq t61,aq t62,aq t63,aq t64,aq t65,.str t66,.own 1000000 none,.str t67,.own 1000001 none,.own 1000002 none,.own 1000003 none,aq t68,.own 1000004 none]),(8,[aq out,aq bh,aq rr,aq ru,aq rv,aq ry,.str Kq,.own 1000005 none,.str Kr,.own 1000006 none,.own 1000007 none,.own 1000008 none,aq Ks,.own 1000009 none])] [aB 1000000 3 (.int .i64) xs,aB 1000001 76 K4 aQ,aB 1000002 74 K9 ba,aB 1000003 5 (.int .u8) bp,aB 1000004 146 qT bQ,aB 1000005 3 (.int .i64) cD,aB 1000006 76 K4 cE,aB 1000007 74 K9 cI,aB 1000008 5 (.int .u8) pb,aB 1000009 146 qT F2]
def rz (st:St):Option U:=gQ zQ F zR [.r,.r,.r,.l,.r,.b,.i] f234 J n st
def sV:=jG zQ F zR [.r,.r,.r,.l,.r,.b] f234 ik 2
theorem GV (i c c1 r r1 r2 r3 r4 r5:Int)(r6:ByteArray)(r7:List Int)(r8:ByteArray)(r9:List D4)(ij:List D9)(dB:List Int)(cP:Int)(cp:List l5)(m m1:Int)(m2:ByteArray)(m3:Int)(m4:ByteArray)(m5:List Int)(m6:Int)(m7:ByteArray)(m8:List Int)(m9:Int)(m10:ByteArray)(m11:List Int)(m12 m13 m14 m15 m16 t6 t61 t62 t63 t64 t65:Int)(t66 t67:ByteArray)(t68 out bh rr ru rv ry:Int)(Kq Kr:ByteArray)(Ks:Int)(xs:List Int)(aQ:List D4)(ba:List D9)(bp:List Int)(bQ:List l5)(cD:List Int)(cE:List D4)(cI:List D9)(pb:List Int)(F2:List l5):rz F J (n+1) (nm i c c1 r r1 r2 r3 r4 r5 r6 r7 r8 r9 ij dB cP cp m m1 m2 m3 m4 m5 m6 m7 m8 m9 m10 m11 m12 m13 m14 m15 m16 t6 t61 t62 t63 t64 t65 t66 t67 t68 out bh rr ru rv ry Kq Kr Ks xs aQ ba bp bQ cD cE cI pb F2)=br (decide (i<c)) (br (i==r) (rz F J n (nm (ak (i+1)) c c1 r r1 r2 r3 r4 r5 r6 r7 r8 r9 ij dB cP cp m m1 m2 m3 m4 m5 m6 m7 m8 m9 m10 m11 m12 m13 m14 m15 m16 t6 t61 t62 t63 t64 t65 t66 t67 t68 out bh rr ru rv ry Kq Kr Ks xs aQ ba bp bQ cD cE cI pb F2)) ((gl F0 (c,c1) (out,bh,rr,(ru,rv,(ry,Kq,cD),Kr),cE,cI,(pb,Ks),F2) i (m,m1,(m2,m3,m4,m5),(m6,m7,m8),(m9,m10,m11),m12,m13,m14,m15,m16)).bind fun qR=>br (!qR.1.2.1) ((bo F0 (r,r1,r2,(r3,r4,(r5,r6,r7),r8),r9,ij,(dB,cP),cp)).bind fun xW=>J .ret (PW false xW.1.1 xW.1.2.1 xW.1.2.2.1 xW.1.2.2.2.1.1 xW.1.2.2.2.1.2.1 xW.1.2.2.2.1.2.2.1.1 xW.1.2.2.2.1.2.2.1.2.1 xW.1.2.2.2.1.2.2.2 xW.1.2.2.2.2.2.2.1.2 xW.1.2.2.2.1.2.2.1.2.2 xW.1.2.2.2.2.1 xW.1.2.2.2.2.2.1 xW.1.2.2.2.2.2.2.1.1 xW.1.2.2.2.2.2.2.2)) (rz F J n (nm (ak (i+1)) c c1 r r1 r2 r3 r4 r5 r6 r7 r8 r9 ij dB cP cp m m1 m2 m3 m4 m5 m6 m7 m8 m9 m10 m11 m12 m13 m14 m15 m16 t6 t61 t62 t63 t64 t65 t66 t67 t68 qR.1.1.1 qR.1.1.2.1 qR.1.1.2.2.1 qR.1.1.2.2.2.1.1 qR.1.1.2.2.2.1.2.1 qR.1.1.2.2.2.1.2.2.1.1 qR.1.1.2.2.2.1.2.2.1.2.1 qR.1.1.2.2.2.1.2.2.2 qR.1.1.2.2.2.2.2.2.1.2 xs aQ ba bp bQ qR.1.1.2.2.2.1.2.2.1.2.2 qR.1.1.2.2.2.2.1 qR.1.1.2.2.2.2.2.1 qR.1.1.2.2.2.2.2.2.1.1 qR.1.1.2.2.2.2.2.2.2)))) (J (.exit 0) (MK t6 t61 t62 t63 t64 t65 t66 t67 t68 out bh rr ru rv ry Kq Kr Ks xs aQ ba bp bQ cD cE cI pb F2)):=by kernel_rfl
theorem ad3 (t7:Bool)(t6 t61 t62 t63 t64 t65:Int)(t66 t67:ByteArray)(t68:Int)(xs:List Int)(aQ:List D4)(ba:List D9)(bp:List Int)(bQ:List l5):sV F .ret (PW t7 t6 t61 t62 t63 t64 t65 t66 t67 t68 xs aQ ba bp bQ)=some ((t6,t61,t62,(t63,t64,(t65,t66,xs),t67),aQ,ba,(bp,t68),bQ),t7,()):=by kernel_rfl
theorem abH (t6 t61 t62 t63 t64 t65:Int)(t66 t67:ByteArray)(t68 out bh rr ru rv ry:Int)(Kq Kr:ByteArray)(Ks:Int)(xs:List Int)(aQ:List D4)(ba:List D9)(bp:List Int)(bQ:List l5)(cD:List Int)(cE:List D4)(cI:List D9)(pb:List Int)(F2:List l5):sV F (.exit 0) (MK t6 t61 t62 t63 t64 t65 t66 t67 t68 out bh rr ru rv ry Kq Kr Ks xs aQ ba bp bQ cD cE cI pb F2)=some ((out,bh,rr,(ru,rv,(ry,Kq,cD),Kr),cE,cI,(pb,Ks),F2),true,()):=by kernel_rfl
def zS (c:D1)(r:bD)(m:Oo):=bJ zQ F zR f234 Z0 ik 2 (c,r,m,())
theorem alb (c:D1)(r:bD)(m:Oo):zS F c r m=(bo F0 r).bind fun cp=>(ez F0 c r).bind fun o9=>br (!o9.1) (some (cp.1,false,())) (rz F (sV F) F.n (nm 0 c.1 c.2 r.1 r.2.1 r.2.2.1 r.2.2.2.1.1 r.2.2.2.1.2.1 r.2.2.2.1.2.2.1.1 r.2.2.2.1.2.2.1.2.1 r.2.2.2.1.2.2.1.2.2 r.2.2.2.1.2.2.2 r.2.2.2.2.1 r.2.2.2.2.2.1 r.2.2.2.2.2.2.1.1 r.2.2.2.2.2.2.1.2 r.2.2.2.2.2.2.2 m.1 m.2.1 m.2.2.1.1 m.2.2.1.2.1 m.2.2.1.2.2.1 m.2.2.1.2.2.2 m.2.2.2.1.1 m.2.2.2.1.2.1 m.2.2.2.1.2.2 m.2.2.2.2.1.1 m.2.2.2.2.1.2.1 m.2.2.2.2.1.2.2 m.2.2.2.2.2.1 m.2.2.2.2.2.2.1 m.2.2.2.2.2.2.2.1 m.2.2.2.2.2.2.2.2.1 m.2.2.2.2.2.2.2.2.2 0 0 0 0 0 0 al al 0 cp.1.1 cp.1.2.1 cp.1.2.2.1 cp.1.2.2.2.1.1 cp.1.2.2.2.1.2.1 cp.1.2.2.2.1.2.2.1.1 cp.1.2.2.2.1.2.2.1.2.1 cp.1.2.2.2.1.2.2.2 cp.1.2.2.2.2.2.2.1.2 [] [] [] [] [] cp.1.2.2.2.1.2.2.1.2.2 cp.1.2.2.2.2.1 cp.1.2.2.2.2.2.1 cp.1.2.2.2.2.2.2.1.1 cp.1.2.2.2.2.2.2.2)):=by kernel_rfl
def PX:Any:=.one ⟨Z0,ik,2,fun x=>zS F0 x.1 x.2.1 x.2.2.1⟩
theorem alc:bz 234 PX:=aA zQ ⟨c7,dH,vZ,trivial⟩ func234 zR (by kernel_rfl)
def Z4:=[(58,cB),(61,RF),(234,PX),(235,xh)]
def ML (w:o8)(a:Int):Option (o8×Int×o8):=arF Tryz.prog (look Z4) F ab f175 [(iV,true),(.int .i64,false)] 0 (iV,true) (.int .i64,false) (iV,true) (w,a,())
theorem aoN (w:o8)(a:Int):ML F w a=ck (cr a (w.2.2.1.length:Int)) ((V9 F0 w.1 (aU w.2.2.1 a di.aG)).bind fun ia=>br (!ia.2.1) (some (iV.aG,3,w)) (ck (cr a (w.2.2.1.length:Int)) ((bo F0 (aU w.2.2.1 a di.aG)).bind fun HJ=>(zS F0 w.1 (HJ.1.1,HJ.1.2.1,HJ.1.2.1,HJ.1.2.2.2) (1,0,ia.1,(0,al,[]),(0,al,[]),0,0,0,0,0)).bind fun r42=>(rq F0 w.1 r42.1 ia.1).bind fun Fw=>br (!r42.2.1) (some (iV.aG,4,w)) (br (!Fw.2.1) (some (iV.aG,4,w)) (ck (cr a (w.2.2.1.length:Int)) (some ((w.1,w.2.1,w.2.2.1.set a.toNat Fw.1,w.2.2.2),0,iV.aG))))))):=by kernel_rfl
def TC:Any:=.sel ⟨[(iV,true),(.int .i64,false)],0,(iV,true),(.int .i64,false),(iV,true),fun x=>ML F0 x.1 x.2.1⟩
theorem aoO:bz 175 TC:=ok4 (show yF Tryz.prog TB Z4 from⟨c7,ai8,alc,MA,trivial⟩) func175 (by kernel_rfl) (by kernel_rfl) ab (by kernel_rfl) (by kernel_rfl)
def ajh:=[(104,mU),(126,pq)]
def Yd (d:D14):=bJ ajh F ab f285 qf qf 2 (d,())
theorem av9 (d:D14):Yd F d=(jH F0 d).bind fun r5=>(nZ F0 d).bind fun r7=>br r7.1 (some ((r5.1.1,(d.1.length:Int)),())) (some (r5.1,())):=by kernel_rfl
def Z5:Any:=.one ⟨qf,qf,2,fun x=>Yd F0 x.1⟩
theorem awa:bz 285 Z5:=aA ajh ⟨vD,yZ,trivial⟩ func285 ab (by kernel_rfl)
def Wv:=[(58,cB),(73,c9),(105,zg),(285,Z5)]
abbrev aEh:List (Ty×Bool):=[(di,true),(K23,false)]
def H9 (c:D1)(r:bD):=bJ Wv F ab f236 Bf aEh 2 (c,r,())
theorem ald (c:D1)(r:bD):H9 F c r=(bo F0 r).bind fun r8=>(ez F0 c r).bind fun dB=>br (!dB.1) (some (r8.1,[],())) ((Yd F0 r.2.2.2.2.2.2.1).bind fun fD=>(uK F0 r.2.2.2.2.2.2.2).bind fun sw=>some ((r8.1.1,r8.1.2.1,r8.1.2.2.1,r8.1.2.2.2.1,r8.1.2.2.2.2.1,r8.1.2.2.2.2.2.1,fD.1,[]),sw.1,())):=by kernel_rfl
def PY:Any:=.one ⟨Bf,aEh,2,fun x=>H9 F0 x.1 x.2.1⟩
theorem ale:bz 236 PY:=aA Wv ⟨c7,dH,Pq,awa,trivial⟩ func236 ab (by kernel_rfl)
def Z6:=[(62,dC)]
abbrev aEi:List (Ty×Bool):=[(.int .i64,false),(K21,true)]
def MM (id:Int)(m:Oo):=bJ Z6 F ab f286 aEi [(K38,false)] 2 (id,m,())
theorem aoP (id:Int)(m:Oo):MM F id m=br (m.1==2) (br (m.1==4) (some ([],())) (br (m.2.2.2.1.2.1.toList==al.toList) (some ([],())) ((dN F0 m.2.2.2.1.2.2 id).bind fun Re=>br (!Re.1) (some ([],())) (some ([(m.2.2.2.1.1,m.2.2.2.1.2.1,id)],()))))) (br (m.1==1) (br (m.1==4) (some ([],())) (br (m.2.2.1.2.2.1.toList==al.toList) (some ([],())) ((dN F0 m.2.2.1.2.2.2 id).bind fun Re=>br (!Re.1) (some ([],())) (some ([(m.2.2.1.2.1,m.2.2.1.2.2.1,id)],()))))) (br (m.1==4) (some ([],())) (br (m.2.2.2.2.1.2.1.toList==al.toList) (some ([],())) ((dN F0 m.2.2.2.2.1.2.2 id).bind fun Re=>br (!Re.1) (some ([],())) (some ([(m.2.2.2.2.1.1,m.2.2.2.2.1.2.1,id)],())))))):=by kernel_rfl
def TD:Any:=.one ⟨aEi,[(K38,false)],2,fun x=>MM F0 x.1 x.2.1⟩
theorem aoQ:bz 286 TD:=aA Z6 ⟨eL,trivial⟩ func286 ab (by kernel_rfl)
def oB:=[(26,BY),(62,dC),(120,F1),(275,FZ),(286,TD)]
def oC:Nat->Option Hint:=look [(5,{live:=[1,2,6,7,8],yz:=[(6,2,3,.int .i64),(6,3,50,di),(6,4,114,fW),(6,5,127,eu)],xl:=[6,7],rl:=[6]}),(9,{live:=[1,2,6,7,8,9,10],xl:=[1,2,6,7,8],rl:=[6]})]
def nn (id:Int)(list:List l5)(i k t6 t61 out bh:Int)(xs:List cH)(aQ:List Int)(ba:List bD)(bp:List cU)(bQ:List cH)(cD:List Int)(cE:List bD)(cI:List cU)(pb:List cH):= eD 66 [(1,bW id),(2,j9 146 (qT) list),cW 6,cW 7,(8,bW i),(9,.v (.c (.own 1000000 none))),(10,bW k)] [(6,[aq t6,aq t61,.own 1000001 none,.own 1000002 none,.own 1000003 none,.own 1000004 none]),(7,[aq out,aq bh,.own 1000005 none,.own 1000006 none,.own 1000007 none,.own 1000008 none])] [aB 1000000 127 eu xs,aB 1000001 3 (.int .i64) aQ,aB 1000002 50 di ba,aB 1000003 114 fW bp,aB 1000004 127 eu bQ,aB 1000005 3 (.int .i64) cD,aB 1000006 50 di cE,aB 1000007 114 fW cI,aB 1000008 127 eu pb]
def TE (id:Int)(list:List l5)(i t6 t61 out bh:Int)(xs:List Int)(aQ:List bD)(ba:List cU)(bp:List cH)(bQ:List Int)(cD:List bD)(cE:List cU)(cI:List cH):= eD 66 [(1,bW id),(2,j9 146 (qT) list),cW 6,cW 7,(8,bW i)] [(6,[aq t6,aq t61,.own 1000000 none,.own 1000001 none,.own 1000002 none,.own 1000003 none]),(7,[aq out,aq bh,.own 1000004 none,.own 1000005 none,.own 1000006 none,.own 1000007 none])] [aB 1000000 3 (.int .i64) xs,aB 1000001 50 di aQ,aB 1000002 114 fW ba,aB 1000003 127 eu bp,aB 1000004 3 (.int .i64) bQ,aB 1000005 50 di cD,aB 1000006 114 fW cE,aB 1000007 127 eu cI]
def sW (st:St):Option U:=gQ oB F oC [.r,.r,.r,.l,.r,.b,.i,.r,.l,.b,.r,.r,.b,.i] f237 J n st
def Kt:Ex->St->Option U:=am0 Tryz.prog (look oB) F oC [.r,.l,.b,.r,.r,.b] (sub [.r,.r,.r,.l,.r,.b,.i] (oh f237)) (itk Tryz.prog (look oB) F oC (sub [.r,.r,.r,.l,.r,.b,.i] (oh f237)) J n)
def zT (id:Int)(list:List l5)(i t6 t61 out bh:Int)(xs:List Int)(aQ:List bD)(ba:List cU)(bp:List cH)(bQ:List Int)(cD:List bD)(cE:List cU)(cI:List cH):= eD 66 [(1,bW id),(2,j9 146 (qT) list),cW 6,cW 7,(8,bW i)] [(6,[aq t6,aq t61,.own 1000000 none,.own 1000001 none,.own 1000002 none,.own 1000003 none]),(7,[aq out,aq bh,.own 1000004 none,.own 1000005 none,.own 1000006 none,.own 1000007 none])] [aB 1000000 3 (.int .i64) xs,aB 1000001 50 di aQ,aB 1000002 114 fW ba,aB 1000003 127 eu bp,aB 1000004 3 (.int .i64) bQ,aB 1000005 50 di cD,aB 1000006 114 fW cE,aB 1000007 127 eu cI]
def TF (t6 t61 out bh:Int)(xs:List Int)(aQ:List bD)(ba:List cU)(bp:List cH)(bQ:List Int)(cD:List bD)(cE:List cU)(cI:List cH):= eD 66 [cW 6,cW 7] [(6,[aq t6,aq t61,.own 1000000 none,.own 1000001 none,.own 1000002 none,.own 1000003 none]),(7,[aq out,aq bh,.own 1000004 none,.own 1000005 none,.own 1000006 none,.own 1000007 none])] [aB 1000000 3 (.int .i64) xs,aB 1000001 50 di aQ,aB 1000002 114 fW ba,aB 1000003 127 eu bp,aB 1000004 3 (.int .i64) bQ,aB 1000005 50 di cD,aB 1000006 114 fW cE,aB 1000007 127 eu cI]
def Ia (st:St):Option U:=gQ oB F oC [.r,.r,.r,.l,.r,.b,.i] f237 J n st
def zU:=jG oB F oC [.r,.r,.r,.l,.r,.b] f237 gE 2
theorem MN (id:Int)(list:List l5)(i k t6 t61 out bh:Int)(xs:List cH)(aQ:List Int)(ba:List bD)(bp:List cU)(bQ:List cH)(cD:List Int)(cE:List bD)(cI:List cU)(pb:List cH):sW F J (n+1) (nn id list i k t6 t61 out bh xs aQ ba bp bQ cD cE cI pb)=br (decide (k<(xs.length:Int))) (ck (cr k (xs.length:Int)) (br (decide ((pb.length:Int)<300)) ((EX F0 pb (aU xs k eu.aG).1 (aU xs k eu.aG).2.1 (aU xs k eu.aG).2.2).bind fun r56=>br (!r56.1) (ck (fp F pb.length [(aU xs k eu.aG)].length 32) (sW F J n (nn id list i (ak (k+1)) t6 t61 out bh xs aQ ba bp bQ cD cE cI (pb++[(aU xs k eu.aG)])))) (sW F J n (nn id list i (ak (k+1)) t6 t61 out bh xs aQ ba bp bQ cD cE cI pb))) (sW F J n (nn id list i (ak (k+1)) t6 t61 out bh xs aQ ba bp bQ cD cE cI pb)))) (J (.exit 2) (TE id list i t6 t61 out bh aQ ba bp bQ cD cE cI pb)):=by kernel_rfl
theorem MO (id:Int)(list:List l5)(i t6 t61 out bh:Int)(xs:List Int)(aQ:List bD)(ba:List cU)(bp:List cH)(bQ:List Int)(cD:List bD)(cE:List cU)(cI:List cH):Ia F J (n+1) (zT id list i t6 t61 out bh xs aQ ba bp bQ cD cE cI)=br (decide (i<(list.length:Int))) (ck (cr i (list.length:Int)) ((MM F0 id (aU list i qT.aG).2).bind fun HJ=>sW F (Kt F J n) F.n (nn id list i 0 t6 t61 out bh HJ.1 xs aQ ba bp bQ cD cE cI))) (J (.exit 0) (TF t6 t61 out bh xs aQ ba bp bQ cD cE cI)):=by kernel_rfl
theorem agS (id:Int)(list:List l5)(i t6 t61 out bh:Int)(xs:List Int)(aQ:List bD)(ba:List cU)(bp:List cH)(bQ:List Int)(cD:List bD)(cE:List cU)(cI:List cH):Kt F J n (.exit 2) (TE id list i t6 t61 out bh xs aQ ba bp bQ cD cE cI)=Ia F J n (zT id list (ak (i+1)) t6 t61 out bh xs aQ ba bp bQ cD cE cI):=by kernel_rfl
theorem agT (t6 t61 out bh:Int)(xs:List Int)(aQ:List bD)(ba:List cU)(bp:List cH)(bQ:List Int)(cD:List bD)(cE:List cU)(cI:List cH):zU F (.exit 0) (TF t6 t61 out bh xs aQ ba bp bQ cD cE cI)=some (((out,bh),bQ,cD,cE,cI),()):=by kernel_rfl
abbrev aEj:List (Ty×Bool):=[(iV,true),(.int .i64,false),(K23,false)]
def Ku (w:o8)(id:Int)(list:D23):=bJ oB F oC f237 aEj gE 2 (w,id,list,())
theorem asj (w:o8)(id:Int)(list:D23):Ku F w id list=(zj F0 w).bind fun cp=>(EY F0 w).bind fun pa=>(dN F0 pa.1 id).bind fun fD=>br (!fD.1) (some (cp.1,())) (Ia F (zU F) F.n (zT id list 0 0 0 cp.1.1.1 cp.1.1.2 [] [] [] [] cp.1.2.1 cp.1.2.2.1 cp.1.2.2.2.1 cp.1.2.2.2.2)):=by kernel_rfl
def Ww:Any:=.one ⟨aEj,gE,2,fun x=>Ku F0 x.1 x.2.1 x.2.2.1⟩
theorem asl:bz 237 Ww:=aA oB ⟨S6,eL,Wu,Wt,aoQ,trivial⟩ func237 oC (by kernel_rfl)
def Wx:=[(174,Ca),(236,PY),(237,Ww)]
def Ib (w:o8)(a:Int):Option (o8×Int×o8):=arF Tryz.prog (look Wx) F ab f176 [(iV,true),(.int .i64,false)] 0 (iV,true) (.int .i64,false) (iV,true) (w,a,())
theorem alf (w:o8)(a:Int):Ib F w a=ck (cr a (w.2.2.1.length:Int)) ((H9 F0 w.1 (aU w.2.2.1 a di.aG)).bind fun o9=>br (decide ((ak ((w.2.2.2.1.length:Int)+(o9.2.1.length:Int)))>60)) (some (iV.aG,4,w)) (br (decide ((ak ((w.2.2.2.2.length:Int)+(o9.2.1.length:Int)))>300)) (some (iV.aG,4,w)) (ck (cr a (w.2.2.1.length:Int)) ((Ku F0 (w.1,w.2.1,w.2.2.1.set a.toNat o9.1,w.2.2.2) a o9.2.1).bind fun r44=>(zP F0 r44.1 o9.2.1).bind fun Rh=>some (Rh.1.1,0,iV.aG))))):=by kernel_rfl
def PZ:Any:=.sel ⟨[(iV,true),(.int .i64,false)],0,(iV,true),(.int .i64,false),(iV,true),fun x=>Ib F0 x.1 x.2.1⟩
theorem alg:bz 176 PZ:=ok4 (show yF Tryz.prog TB Wx from⟨Tz,ale,asl,trivial⟩) func176 (by kernel_rfl) (by kernel_rfl) ab (by kernel_rfl) (by kernel_rfl)
def ad4:=[(58,cB),(73,c9),(287,qv)]
def RQ (c:D1)(r:bD)(view:Int)(name:ByteArray)(push:Bool):=bJ ad4 F ab f238 atV ik 2 (c,r,view,name,push,())
theorem asm (c:D1)(r:bD)(view:Int)(name:ByteArray)(push:Bool):RQ F c r view name push=(ez F0 c r).bind fun o9=>br (!o9.1) ((bo F0 r).bind fun dW=>some (dW.1,false,())) ((bo F0 r).bind fun sw=>(pT F0 c sw.1 view name push).bind fun Bg=>br (!Bg.1.2.1) ((bo F0 r).bind fun uD=>some (uD.1,false,())) (some (Bg.1.1,true,()))):=by kernel_rfl
def Wy:Any:=.one ⟨atV,ik,2,fun x=>RQ F0 x.1 x.2.1 x.2.2.1 x.2.2.2.1 x.2.2.2.2.1⟩
theorem asn:bz 238 Wy:=aA ad4 ⟨c7,dH,B7,trivial⟩ func238 ab (by kernel_rfl)
end
end Go.Am.Tryz
