/- No condition. -/
import Derived.Test.YtnllfndlcahalaaGreatDoorQfWJG2
set_option linter.all false
set_option maxRecDepth 100000
namespace Go.Am.Tryz
open Go.Am Go.Proofs Go.Proofs.Tryz
noncomputable section
variable {U:Type} (F:rH) (J:Ex->St->Option U) (n:Nat)
def y4:=[(134,gA),(300,ih),(301,r4)]
def y5:Nat->Option Hint:=look [(6,{live:=[3,5,6],xl:=[5],rl:=[4]})]
def r5 (i q:Int)(a:ByteArray)(b c:List Int):= cR 41 [b1 3,(5,.v (.c (.own 1000000 none))),(6,bb i)] [(3,[ao q,.str a,.ro false 3 (.int .i64) b])] [az 1000000 5 (.int .u8) c]
def MW (a:List Int):= cR 41 [(5,.v (.c (.own 1000000 none)))] [] [az 1000000 5 (.int .u8) a]
def y6 (a:St):Option U:=fe y4 F y5 [.r,.r,.r,.r,.l,.r,.b,.i] f302 J n a
def Cx:=hH y4 F y5 [.r,.r,.r,.r,.l,.r,.b] f302 l1 2
def Hh (i q:Int)(c:ByteArray)(a b:List Int):y6 F J (n+1) (r5 i q c a b)=br (decide (i<(a.length:Int))) (ck (bE i (a.length:Int)) ((eo F0 (aH a i 0)).bind fun d=>ck (en F b.length d.1.length 1) (y6 F J n (r5 (aj (i+1)) q c a (b++d.1))))) (J (.exit 0) (MW b)):=by kernel_rfl
def acb (a:List Int):Cx F (.exit 0) (MW a)=some (a,()):=by kernel_rfl
def r6 (c:D1)(q:D9):=bm y4 F y5 f302 G3 l1 2 (c,q,())
def alk (c:D1)(q:D9):r6 F c q=(ku F0 c q).bind fun e=>br (!e.1) (some ([],())) ((eo F0 q.1).bind fun a=>(nF F0 q.2.1).bind fun b=>ck (en F a.1.length b.1.length 1) ((eo F0 (q.2.2.length:Int)).bind fun d=>ck (en F (a.1++b.1).length d.1.length 1) (y6 F (Cx F) F.n (r5 0 q.1 q.2.1 q.2.2 ((a.1++b.1)++d.1))))):=by kernel_rfl
def Cy:Any:=.one ⟨G3,l1,2,fun x=>r6 F0 x.1 x.2.1⟩
def TC:a8 302 Cy:=aq y4 ⟨kN,mo,Gw,trivial⟩ func302 y5 (by kernel_rfl)
def Qd:=[(141,ic),(300,ih),(301,r4),(302,Cy)]
def y7 (c:D1)(s:U0):=bm Qd F ad f364 Tf l1 2 (c,s,())
def aek (c:D1)(s:U0):y7 F c s=(jj F0 c s).bind fun f=>br (!f.1) (some ([],())) ((eo F0 s.1).bind fun a=>(eo F0 s.2.1).bind fun b=>ck (en F a.1.length b.1.length 1) ((r6 F0 c s.2.2.1).bind fun d=>ck (en F (a.1++b.1).length d.1.length 1) ((nF F0 s.2.2.2).bind fun e=>ck (en F ((a.1++b.1)++d.1).length e.1.length 1) (some (((a.1++b.1)++d.1)++e.1,()))))):=by kernel_rfl
def KM:Any:=.one ⟨Tf,l1,2,fun x=>y7 F0 x.1 x.2.1⟩
def ael:a8 364 KM:=aq Qd ⟨l3,mo,Gw,TC,trivial⟩ func364 ad (by kernel_rfl)
def Qe:=[(300,ih),(364,KM)]
def y8 (c:D1)(s:U0):=bm Qe F ad f342 Tf l1 2 (c,s,())
def aem (c:D1)(s:U0):y8 F c s=(y7 F0 c s).bind fun a=>br ((a.1.length:Int)==0) (some ([],())) ((eo F0 (a.1.length:Int)).bind fun b=>ck (en F b.1.length a.1.length 1) (ck (en F (b.1++a.1).length [10].length 1) (some ((b.1++a.1)++[10],())))):=by kernel_rfl
def KN:Any:=.one ⟨Tf,l1,2,fun x=>y8 F0 x.1 x.2.1⟩
def aen:a8 342 KN:=aq Qe ⟨mo,ael,trivial⟩ func342 ad (by kernel_rfl)
def aau:=[(123,mg),(144,ou)]
abbrev aDA:List (Ty×Bool):=[(K14,true),(.sl 5 (.int .u8),false)]
abbrev aDB:List (Ty×Bool):=[(K14,true),(.bool,false)]
def MX (d:D14)(b:List Int):=bm aau F ad f341 aDA aDB 2 (d,b,())
def aor (d:D14)(b:List Int):MX F d b=(iP F0 d).bind fun a=>ck (en F a.1.1.length b.length 1) ((nm F0 d).bind fun e=>br (!e.1) ((iP F0 d).bind fun c=>some (c.1,false,())) ((nm F0 (a.1.1++b,a.1.2)).bind fun f=>br (!f.1) ((iP F0 d).bind fun c=>some (c.1,false,())) (some ((a.1.1++b,a.1.2),true,())))):=by kernel_rfl
def TD:Any:=.one ⟨aDA,aDB,2,fun x=>MX F0 x.1 x.2.1⟩
def aos:a8 341 TD:=aq aau ⟨uQ,yC,trivial⟩ func341 ad (by kernel_rfl)
def TE:=[(121,mf),(141,ic),(340,MU),(341,TD),(342,KN)]
def eI (c:D1)(r:a7)(s:U0):Option (a7×Bool×a7):=arE Tryz.prog (look TE) F ad f307 [(K1,true),(b8,true),(K12,true)] 1 (b8,true) (.bool,false) (b8,true) (c,r,s,())
def aha (c:D1)(r:a7)(s:U0):eI F c r s=(DR F0 r.2.2.2.1 s).bind fun b=>br b.1 (some (r,true,b8.aC)) ((y8 F0 c s).bind fun d=>(MX F0 r.2.2.2.2.2.2.1 d.1).bind fun a=>br (!a.2.1) (some (b8.aC,false,r)) ((jj F0 c s).bind fun e=>br (!e.1) (some (b8.aC,false,r)) ((nD F0 s).bind fun f=>some ((r.1,r.2.1,r.2.2.1,f.1,r.2.2.2.2.1,r.2.2.2.2.2.1,a.1,r.2.2.2.2.2.2.2),true,b8.aC)))):=by kernel_rfl
def pz:Any:=.sel ⟨[(K1,true),(b8,true),(K12,true)],1,(b8,true),(.bool,false),(b8,true),fun x=>eI F0 x.1 x.2.1 x.2.2.1⟩
def Cz:a8 307 pz:=ok4 (show yh Tryz.prog TB TE from⟨uM,l3,ag9,aos,aen,trivial⟩) func307 (by kernel_rfl) (by kernel_rfl) ad (by kernel_rfl) (by kernel_rfl)
def mq:=[(201,Gu)]
def mr:Nat->Option Hint:=look [(3,{live:=[0,1,5,6],xl:=[1,5],rl:=[4]}),(7,{live:=[1,5,7],xl:=[5],rl:=[4]})]
def r7 (b:List Int)(i:Int)(a:List Int):= cR 34 [(1,ia 3 (.int .i64) b),(5,.v (.c (.own 1000000 none))),(7,bb i)] [] [az 1000000 3 (.int .i64) a]
def MY (a:List Int):= cR 34 [(5,.v (.c (.own 1000000 none)))] [] [az 1000000 3 (.int .i64) a]
def y9 (a:St):Option U:=fe mq F mr [.r,.r,.r,.l,.r,.b,.i] f347 J n a
def CA:=hH mq F mr [.r,.r,.r,.l,.r,.b] f347 ko 2
def r8 (a b:List Int)(i:Int)(c:List Int):= cR 34 [(0,ia 3 (.int .i64) a),(1,ia 3 (.int .i64) b),(5,.v (.c (.own 1000000 none))),(6,bb i)] [] [az 1000000 3 (.int .i64) c]
def MZ (b a:List Int):= cR 34 [(1,ia 3 (.int .i64) b),(5,.v (.c (.own 1000000 none)))] [] [az 1000000 3 (.int .i64) a]
def za (a:St):Option U:=fe mq F mr [.r,.r,.l,.r,.b,.i] f347 J n a
def CB:=hH mq F mr [.r,.r,.l,.r,.b] f347 ko 2
def Hi (b:List Int)(i:Int)(a:List Int):y9 F J (n+1) (r7 b i a)=br (decide (i<(b.length:Int))) (ck (bE i (b.length:Int)) ((w3 F0 a (aH b i 0)).bind fun c=>y9 F J n (r7 b (aj (i+1)) c.1))) (J (.exit 2) (MY a)):=by kernel_rfl
def Hj (a b:List Int)(i:Int)(c:List Int):za F J (n+1) (r8 a b i c)=br (decide (i<(a.length:Int))) (ck (bE i (a.length:Int)) ((w3 F0 c (aH a i 0)).bind fun d=>za F J n (r8 a b (aj (i+1)) d.1))) (J (.exit 0) (MZ b c)):=by kernel_rfl
def acd (a:List Int):CA F (.exit 2) (MY a)=some (a,()):=by kernel_rfl
def ace (b a:List Int):CB F (.exit 0) (MZ b a)=y9 F (CA F) F.n (r7 b 0 a):=by kernel_rfl
def IC (a b:List Int):=bm mq F mr f347 akN ko 2 (a,b,())
def alm (a b:List Int):IC F a b=za F (CB F) F.n (r8 a b 0 []):=by kernel_rfl
def Qf:Any:=.one ⟨akN,ko,2,fun x=>IC F0 x.1 x.2.1⟩
def aln:a8 347 Qf:=aq mq ⟨Wu,trivial⟩ func347 mr (by kernel_rfl)
def TF:=[(347,Qf)]
abbrev ajD:List (Ty×Bool):=[(K9,true),(.bool,false)]
def DV (a b:D9):=bm TF F ad f314 wX ajD 2 (a,b,())
def ahb (a b:D9):DV F a b=br (a.1 != b.1) (some ((0,ak,[]),false,())) (br (!(a.2.1.toList==b.2.1.toList)) (some ((0,ak,[]),false,())) ((IC F0 a.2.2 b.2.2).bind fun c=>some ((a.1,a.2.1,c.1),true,()))):=by kernel_rfl
def M0:Any:=.one ⟨wX,ajD,2,fun x=>DV F0 x.1 x.2.1⟩
def ahc:a8 314 M0:=aq TF ⟨aln,trivial⟩ func314 ad (by kernel_rfl)
def vd:=[(122,yN),(143,Cl),(194,jF),(213,ot),(214,wg),(314,M0)]
def ve:Nat->Option Hint:=look [(4,{live:=[1,3,5,8,9,10],xl:=[1,3,5,8,9],rl:=[6,7]})]
def ft (e:List D9)(put:Bool)(i c a p:Int)(b:ByteArray)(d:List Int)(f:List D9):= cR 74 [(1,ia 50 (K9) e),b1 3,b1 5,(8,.v (.c (.own 1000000 none))),(9,JH put),(10,bb i)] [(3,[ao c,ao a]),(5,[ao p,.str b,.ro false 3 (.int .i64) d])] [az 1000000 50 K9 f]
def KO (e:List D9)(put:Bool)(c a p:Int)(b:ByteArray)(d:List Int)(f:List D9):= cR 74 [(1,ia 50 (K9) e),b1 3,b1 5,(8,.v (.c (.own 1000000 none))),(9,JH put)] [(3,[ao c,ao a]),(5,[ao p,.str b,.ro false 3 (.int .i64) d])] [az 1000000 50 K9 f]
def ij (a:St):Option U:=fe vd F ve [.r,.r,.r,.l,.r,.b,.i] f268 J n a
abbrev atG:List (Ty×Bool):=[(K13,false),(.bool,false)]
def zb:=hH vd F ve [.r,.r,.r,.l,.r,.b] f268 atG 2
def kT (e:List D9)(put:Bool)(i c g p:Int)(b:ByteArray)(d:List Int)(a:List D9):ij F J (n+1) (ft e put i c g p b d a)=br (decide (i<(e.length:Int))) (ck (bE i (e.length:Int)) ((gC F0 (aH e i K9.aC)).bind fun f=>br (!put) ((p9 F0 f.1 (p,b,d)).bind fun k=>br (!k.1) ((DV F0 f.1 (p,b,d)).bind fun h=>br h.2.1 (ck (en F a.length [h.1].length 48) (ij F J n (ft e true (aj (i+1)) c g p b d (a++[h.1])))) ((gC F0 (p,b,d)).bind fun j=>ck (en F a.length [j.1].length 48) (ck (en F (a++[j.1]).length [f.1].length 48) (ij F J n (ft e true (aj (i+1)) c g p b d ((a++[j.1])++[f.1])))))) (ck (en F a.length [f.1].length 48) (ij F J n (ft e put (aj (i+1)) c g p b d (a++[f.1]))))) (ck (en F a.length [f.1].length 48) (ij F J n (ft e put (aj (i+1)) c g p b d (a++[f.1])))))) (J (.exit 0) (KO e put c g p b d a)):=by kernel_rfl
def Hk (e:List D9)(put:Bool)(c d p:Int)(f:ByteArray)(g:List Int)(b:List D9):zb F (.exit 0) (KO e put c d p f g b)=br (!put) ((gC F0 (p,f,g)).bind fun h=>ck (en F b.length [h.1].length 48) ((nA F0 (c,d) (b++[h.1])).bind fun i=>br (!i.1) ((gD F0 e).bind fun a=>some (a.1,false,())) ((kO F0 (c,d) (p,f,g)).bind fun j=>br (!j.1) ((gD F0 e).bind fun a=>some (a.1,false,())) (some (b++[h.1],true,()))))) ((nA F0 (c,d) b).bind fun i=>br (!i.1) ((gD F0 e).bind fun a=>some (a.1,false,())) ((kO F0 (c,d) (p,f,g)).bind fun j=>br (!j.1) ((gD F0 e).bind fun a=>some (a.1,false,())) (some (b,true,())))):=by kernel_rfl
abbrev aDC:List (Ty×Bool):=[(K1,true),(K13,false),(K9,true)]
def fk (c:D1)(a:D13)(p:D9):=bm vd F ve f268 aDC atG 2 (c,a,p,())
def ahd (c:D1)(a:D13)(p:D9):fk F c a p=ij F (zb F) F.n (ft a false 0 c.1 c.2 p.1 p.2.1 p.2.2 []):=by kernel_rfl
def kU:Any:=.one ⟨aDC,atG,2,fun x=>fk F0 x.1 x.2.1 x.2.2.1⟩
def r9:a8 268 kU:=aq vd ⟨PX,Tg,ow,yz,Mz,ahc,trivial⟩ func268 ve (by kernel_rfl)
def aav:=[(134,gA)]
def Fp (c:D1)(p:D9):=bm aav F ad f365 G3 ajD 2 (c,p,())
def aot (c:D1)(p:D9):Fp F c p=ck (en F 0 p.2.2.length 8) (br (p.2.1.toList==ak.toList) (some ((0,ak,[]),false,())) ((ku F0 c (p.1,p.2.1,[]++p.2.2)).bind fun a=>br (!a.1) (some ((0,ak,[]),false,())) (some ((p.1,p.2.1,[]++p.2.2),true,())))):=by kernel_rfl
def TG:Any:=.one ⟨G3,ajD,2,fun x=>Fp F0 x.1 x.2.1⟩
def aou:a8 365 TG:=aq aav ⟨kN,trivial⟩ func365 ad (by kernel_rfl)
def WD:=[(73,b9),(145,jT),(195,Cr)]
abbrev aDD:List (Ty×Bool):=[(K1,true),(b8,true),(.int .i64,false),(K21,true)]
def fu (c:D1)(r:a7)(a:Int)(m:OZ):=Fa WD F ad f269 aDD 1 (.own true) gB [] 2 (c,r,a,m,())
def alo (c:D1)(r:a7)(a:Int)(m:OZ):fu F c r a m=br (decide ((r.2.2.2.2.2.2.2.length:Int)>=30)) (some ((r,false,()),())) ((fs F0 c m).bind fun d=>br (!d.1) (some ((r,false,()),())) ((bN F0 a 0 (aj (c.1-1))).bind fun e=>br (!e.1) (some ((r,false,()),())) (br (a==r.1) (some ((r,false,()),())) ((yO F0 m).bind fun b=>ck (en F r.2.2.2.2.2.2.2.length [(a,b.1)].length 224) (some (((r.1,r.2.1,r.2.2.1,r.2.2.2.1,r.2.2.2.2.1,r.2.2.2.2.2.1,r.2.2.2.2.2.2.1,r.2.2.2.2.2.2.2++[(a,b.1)]),true,()),())))))):=by kernel_rfl
def mu:Any:=.two ⟨aDD,1,(.own true),gB,2,[],fun x=>fu F0 x.1 x.2.1 x.2.2.1 x.2.2.2.1⟩
def vf:a8 269 mu:=aBf WD ⟨cA,oQ,Tn,trivial⟩ func269 ad (by kernel_rfl)
def aaw:=[(66,gR),(125,jw),(269,mu),(304,IB),(307,pz),(365,TG)]
abbrev ajE:List (Ty×Bool):=[(K1,true),(b8,true),(K9,true)]
def M1 (c:D1)(r:a7)(p:D9):=Fa aaw F ad f343 ajE 1 (.own true) gB [] 2 (c,r,p,())
def aov (c:D1)(r:a7)(p:D9):M1 F c r p=(Fp F0 c p).bind fun b=>br (!b.2.1) (some ((r,false,()),())) ((Qa F0 c r.2.2.2.1 b.1).bind fun f=>(eI F0 c r f.1).bind fun a=>br a.2.1 (br (decide ((aj (p.1+1))>60)) (some ((a.1,true,()),())) ((dK F0 a.1.2.1 (aj (p.1+1))).bind fun d=>(mj F0 c (aj (p.1+1))).bind fun g=>br (g.1==r.1) (some (((a.1.1,d.1,a.1.2.2),true,()),())) ((mj F0 c (aj (p.1+1))).bind fun h=>(fu F0 c (a.1.1,d.1,a.1.2.2) h.1 (3,aj (p.1+1),(ak,0,ak,[]),(0,ak,[]),b.1,r.1,0,0,0,0)).bind fun e=>some ((e.1.1,e.1.2.1,()),())))) (some (((r.1,r.2.1,r.2.2.1,(r.2.2.2.1.1,r.2.2.2.1.2.1,(r.2.2.2.1.2.2.1.1,r.2.2.2.1.2.2.1.2.1,a.2.2.2.2.2.1.2.2.1.2.2),r.2.2.2.1.2.2.2),a.2.2.2.2.2.2.1,a.2.2.2.2.2.2.2.1,(a.2.2.2.2.2.2.2.2.1.1,r.2.2.2.2.2.2.1.2),a.2.2.2.2.2.2.2.2.2),false,()),()))):=by kernel_rfl
def TH:Any:=.two ⟨ajE,1,(.own true),gB,2,[],fun x=>M1 F0 x.1 x.2.1 x.2.2.1⟩
def aow:a8 343 TH:=aBf aaw ⟨lA,nE,vf,WA,Cz,aou,trivial⟩ func343 ad (by kernel_rfl)
def ajF:=[(32,cx),(73,b9)]
abbrev Qg:List (Ty×Bool):=[(K1,true),(.int .i64,false),(.int .i64,false)]
def JI (c:D1)(a i:Int):=bm ajF F ad f366 Qg cF 1 (c,a,i,())
def avU (c:D1)(a i:Int):JI F c a i=(dJ F0 c).bind fun b=>br (!b.1) (some (-1,())) (br (decide (a<0)) (some (-1,())) ((bN F0 i 0 (aj (c.1-1))).bind fun d=>br (!d.1) (some (-1,())) (ck (!(c.1==0)) (ck (!(c.1==0)) (some (Int.tmod (aj ((aj (i+c.1))-(Int.tmod a c.1))) c.1,())))))):=by kernel_rfl
def DW:Any:=.one ⟨Qg,cF,1,fun x=>JI F0 x.1 x.2.1 x.2.2.1⟩
def R6:a8 366 DW:=aq ajF ⟨dh,cA,trivial⟩ func366 ad (by kernel_rfl)
def ajG:=[(32,cx),(73,b9)]
def YE (c:D1)(b a:Int):=bm ajG F ad f369 Qg cF 1 (c,b,a,())
def avV (c:D1)(b a:Int):YE F c b a=(dJ F0 c).bind fun d=>br (!d.1) (some (-1,())) (br (decide (b<0)) (some (-1,())) ((bN F0 a 0 (aj (c.1-1))).bind fun e=>br (!e.1) (some (-1,())) (ck (!(c.1==0)) (ck (!(c.1==0)) (some (Int.tmod (aj ((Int.tmod b c.1)+a)) c.1,())))))):=by kernel_rfl
def aax:Any:=.one ⟨Qg,cF,1,fun x=>YE F0 x.1 x.2.1 x.2.2.1⟩
def avW:a8 369 aax:=aq ajG ⟨dh,cA,trivial⟩ func369 ad (by kernel_rfl)
def atH:=[(366,DW),(369,aax)]
def YF (c:D1)(a i:Int):=bm atH F ad f346 Qg cF 1 (c,a,i,())
def aBg (c:D1)(a i:Int):YF F c a i=(JI F0 c a i).bind fun b=>br (decide (b.1<=0)) (some (-1,())) (ck (!(c.2==0)) ((YE F0 c a (aj (Int.tdiv (aj (b.1-1)) c.2))).bind fun d=>some (d.1,()))):=by kernel_rfl
def WE:Any:=.one ⟨Qg,cF,1,fun x=>YF F0 x.1 x.2.1 x.2.2.1⟩
def aox:a8 346 WE:=aq atH ⟨R6,avW,trivial⟩ func346 ad (by kernel_rfl)
def R7:=[(346,WE),(366,DW)]
def R8:Nat->Option Hint:=look [(2,{live:=[1,2,3,7],xl:=[7],rl:=[6]})]
def ID (b i c a:Int)(d:List Int):= cR 23 [(1,bb b),(2,bb i),b1 3,(7,.v (.c (.own 1000000 none)))] [(3,[ao c,ao a])] [az 1000000 3 (.int .i64) d]
def O1 (a:List Int):= cR 23 [(7,.v (.c (.own 1000000 none)))] [] [az 1000000 3 (.int .i64) a]
def R9 (a:St):Option U:=fe R7 F R8 [.r,.r,.l,.b,.i] f367 J n a
def aeo:=hH R7 F R8 [.r,.r,.l,.b] f367 ko 2
def TI (b i c a:Int)(d:List Int):R9 F J (n+1) (ID b i c a d)=(JI F0 (c,a) b i).bind fun e=>br (decide (e.1>=0)) (ck (en F d.length [i].length 8) ((YF F0 (c,a) b i).bind fun f=>R9 F J n (ID b f.1 c a (d++[i])))) (J (.exit 0) (O1 d)):=by kernel_rfl
def aoy (a:List Int):aeo F (.exit 0) (O1 a)=some (a,()):=by kernel_rfl
def aep (c:D1)(a i:Int):=bm R7 F R8 f367 Qg ko 2 (c,a,i,())
def ayu (c:D1)(a i:Int):aep F c a i=R9 F (aeo F) F.n (ID a i c.1 c.2 []):=by kernel_rfl
def aeq:Any:=.one ⟨Qg,ko,2,fun x=>aep F0 x.1 x.2.1 x.2.2.1⟩
def ayv:a8 367 aeq:=aq R7 ⟨aox,R6,trivial⟩ func367 R8 (by kernel_rfl)
def IE:=[(32,cx),(68,cN),(366,DW),(367,aeq)]
def IF:Nat->Option Hint:=look [(5,{live:=[1,2,3,7,8],xl:=[7],rl:=[6]})]
def q1 (b i k c a:Int)(d:List Int):= cR 38 [(1,bb b),(2,bb i),b1 3,(7,.v (.c (.own 1000000 none))),(8,bb k)] [(3,[ao c,ao a])] [az 1000000 3 (.int .i64) d]
def Gx (a:List Int):= cR 38 [(7,.v (.c (.own 1000000 none)))] [] [az 1000000 3 (.int .i64) a]
def zs (a:St):Option U:=fe IE F IF [.r,.r,.r,.l,.r,.b,.i] f344 J n a
def KP:=hH IE F IF [.r,.r,.r,.l,.r,.b] f344 ko 2
def zv (d i k c b:Int)(a:List Int):zs F J (n+1) (q1 d i k c b a)=br (decide (k<c)) ((JI F0 (c,b) d i).bind fun e=>br (decide (e.1>=0)) ((aep F0 (c,b) d k).bind fun f=>(cX F0 f.1 i).bind fun g=>br g.1 (ck (en F a.length [k].length 8) (zs F J n (q1 d i (aj (k+1)) c b (a++[k])))) (zs F J n (q1 d i (aj (k+1)) c b a))) (J (.exit 0) (Gx a))) (J (.exit 0) (Gx a)):=by kernel_rfl
def Qh (a:List Int):KP F (.exit 0) (Gx a)=some (a,()):=by kernel_rfl
def Sa (c:D1)(a i:Int):=bm IE F IF f344 Qg ko 2 (c,a,i,())
def ar9 (c:D1)(a i:Int):Sa F c a i=(dJ F0 c).bind fun b=>br (!b.1) (some ([],())) (zs F (KP F) F.n (q1 a i 0 c.1 c.2 [])):=by kernel_rfl
def WG:Any:=.one ⟨Qg,ko,2,fun x=>Sa F0 x.1 x.2.1 x.2.2.1⟩
def asa:a8 344 WG:=aq IE ⟨dh,dL,R6,ayv,trivial⟩ func344 IF (by kernel_rfl)
def acf (a:Bool):=bm aB F ad f368 aP cF 1 (a,())
def asb (a:Bool):acf F a=br a (some (1,())) (some (0,())):=by kernel_rfl
def WH:Any:=.one ⟨aP,cF,1,fun x=>acf F0 x.1⟩
def asc:a8 368 WH:=aq aB trivial func368 ad (by kernel_rfl)
def DX:=[(68,cN),(368,WH)]
def DY:Nat->Option Hint:=look [(3,{live:=[0,1,5,6],xl:=[5],rl:=[4]})]
def vg (a b:List Int)(c i:Int):= bU 23 [(0,ia 3 (.int .i64) a),(1,ia 3 (.int .i64) b),(5,bb c),(6,bb i)]
def Qi (a:Int):= bU 23 [(5,bb a)]
def DZ (a:St):Option U:=fe DX F DY [.r,.r,.l,.r,.b,.i] f345 J n a
def Gy:=hH DX F DY [.r,.r,.l,.r,.b] f345 cF 1
def KQ (a b:List Int)(c i:Int):DZ F J (n+1) (vg a b c i)=br (decide (i<(a.length:Int))) (ck (bE i (a.length:Int)) ((cX F0 b (aH a i 0)).bind fun d=>(acf F0 d.1).bind fun e=>DZ F J n (vg a b (aj (c+e.1)) (aj (i+1))))) (J (.exit 0) (Qi c)):=by kernel_rfl
def aer (a:Int):Gy F (.exit 0) (Qi a)=some (a,()):=by kernel_rfl
def M3 (a b:List Int):=bm DX F DY f345 akN cF 1 (a,b,())
def aoz (a b:List Int):M3 F a b=DZ F (Gy F) F.n (vg a b 0 0):=by kernel_rfl
def TJ:Any:=.one ⟨akN,cF,1,fun x=>M3 F0 x.1 x.2.1⟩
def aoA:a8 345 TJ:=aq DX ⟨dL,asc,trivial⟩ func345 DY (by kernel_rfl)
def TK:=[(125,jw),(126,pq),(269,mu),(343,TH),(344,WG),(345,TJ),(346,WE)]
abbrev atI:List (Ty×Bool):=[(K1,true),(b8,true),(.int .i64,false),(.str,false),(.bool,false)]
def oV (c:D1)(r:a7)(a:Int)(name:ByteArray)(b:Bool):=Fa TK F ad f311 atI 1 (.own true) gB [] 2 (c,r,a,name,b,())
def ahe (c:D1)(r:a7)(a:Int)(name:ByteArray)(h:Bool):oV F c r a name h=(oR F0 r.2.2.2.2.2.1 a name).bind fun b=>br ((b.1.2.2.length:Int)==0) (some ((r,false,()),())) (br (name.toList==ak.toList) (some ((r,false,()),())) ((mj F0 c a).bind fun i=>br (i.1==r.1) ((M1 F0 c r b.1).bind fun f=>some ((f.1.1,f.1.2.1,()),())) ((Sa F0 c a r.1).bind fun g=>br (!h) ((M3 F0 g.1 b.1.2.2).bind fun j=>br (decide (j.1<(g.1.length:Int))) (some ((r,false,()),())) ((YF F0 c a r.1).bind fun e=>(fu F0 c r e.1 (2,0,(ak,0,ak,[]),b.1,(0,ak,[]),0,0,0,0,0)).bind fun d=>some ((d.1.1,d.1.2.1,()),()))) ((YF F0 c a r.1).bind fun e=>(fu F0 c r e.1 (2,0,(ak,0,ak,[]),b.1,(0,ak,[]),0,0,0,0,0)).bind fun d=>some ((d.1.1,d.1.2.1,()),()))))):=by kernel_rfl
def pA:Any:=.two ⟨atI,1,(.own true),gB,2,[],fun x=>oV F0 x.1 x.2.1 x.2.2.1 x.2.2.2.1 x.2.2.2.2.1⟩
def CC:a8 311 pA:=aBf TK ⟨nE,Cv,vf,aow,asa,aoA,aox,trivial⟩ func311 ad (by kernel_rfl)
def aay:=[(64,bY),(79,di),(268,kU),(311,pA)]
abbrev aGM:List (Ty×Bool):=[(K1,true),(b8,true),(.str,false)]
def np (c:D1)(r:a7)(name:ByteArray):=Fa aay F ad f308 aGM 1 (.own true) gB [] 2 (c,r,name,())
def aoB (c:D1)(r:a7)(name:ByteArray):np F c r name=(du F0 name).bind fun d=>(fk F0 c r.2.2.2.2.2.1 (d.1,name,[r.1])).bind fun a=>br (!a.2.1) (some ((r,false,()),())) ((ba F0 (r.1,r.2.1,r.2.2.1,r.2.2.2.1,r.2.2.2.2.1,a.1,r.2.2.2.2.2.2)).bind fun e=>(du F0 name).bind fun f=>(oV F0 c e.1 f.1 name false).bind fun b=>br b.1.2.1 (some ((b.1.1,true,()),())) (some (((r.1,r.2.1,r.2.2.1,r.2.2.2.1,r.2.2.2.2.1,a.1,r.2.2.2.2.2.2),true,()),()))):=by kernel_rfl
def TL:Any:=.two ⟨aGM,1,(.own true),gB,2,[],fun x=>np F0 x.1 x.2.1 x.2.2.1⟩
def aoC:a8 308 TL:=aBf aay ⟨cl,eH,r9,CC,trivial⟩ func308 ad (by kernel_rfl)
def Qj:=[(64,bY),(74,cn),(79,di),(199,l6),(304,IB),(305,Cw),(306,aat),(307,pz),(308,TL)]
abbrev aDE:List (Ty×Bool):=[(K1,true),(b8,true),(K15,true)]
def q2 (c:D1)(r:a7)(b:D15):=bm Qj F ad f263 aDE gB 2 (c,r,b,())
def aes (c:D1)(r:a7)(b:D15):q2 F c r b=(ba F0 r).bind fun d=>(dx F0 c r).bind fun k=>br (!k.1) (some (d.1,false,())) ((nB F0 c b).bind fun l=>br (!l.1) (some (d.1,false,())) ((ba F0 r).bind fun f=>(Qa F0 c r.2.2.2.1 b.2).bind fun g=>(du F0 b.1).bind fun h=>br (decide (h.1>=r.2.1)) ((y3 F0 c g.1 b).bind fun i=>br (decide (h.1>=r.2.1)) (br i.1 ((Qb F0 c g.1 b).bind fun j=>(eI F0 c (f.1.1,h.1,f.1.2.2) j.1).bind fun a=>br a.2.1 (br i.1 ((np F0 c a.1 b.1).bind fun e=>br (!e.1.2.1) (some (d.1,false,())) (some (e.1.1,true,()))) (some (a.1,true,()))) (some (d.1,false,()))) ((eI F0 c (f.1.1,h.1,f.1.2.2) g.1).bind fun a=>br a.2.1 (br i.1 ((np F0 c a.1 b.1).bind fun e=>br (!e.1.2.1) (some (d.1,false,())) (some (e.1.1,true,()))) (some (a.1,true,()))) (some (d.1,false,())))) (br i.1 ((Qb F0 c g.1 b).bind fun j=>(eI F0 c f.1 j.1).bind fun a=>br a.2.1 (br i.1 ((np F0 c a.1 b.1).bind fun e=>br (!e.1.2.1) (some (d.1,false,())) (some (e.1.1,true,()))) (some (a.1,true,()))) (some (d.1,false,()))) ((eI F0 c f.1 g.1).bind fun a=>br a.2.1 (br i.1 ((np F0 c a.1 b.1).bind fun e=>br (!e.1.2.1) (some (d.1,false,())) (some (e.1.1,true,()))) (some (a.1,true,()))) (some (d.1,false,()))))) (br (decide (h.1>=r.2.1)) ((eI F0 c (f.1.1,h.1,f.1.2.2) g.1).bind fun a=>br a.2.1 (some (a.1,true,())) (some (d.1,false,()))) ((eI F0 c f.1 g.1).bind fun a=>br a.2.1 (some (a.1,true,())) (some (d.1,false,())))))):=by kernel_rfl
def wo:Any:=.one ⟨aDE,gB,2,fun x=>q2 F0 x.1 x.2.1 x.2.2.1⟩
def M4:a8 263 wo:=aq Qj ⟨cl,cU,eH,uE,WA,Tz,avT,Cz,aoC,trivial⟩ func263 ad (by kernel_rfl)
def TM:=[(64,bY),(74,cn),(213,ot),(268,kU),(311,pA)]
def D0 (c:D1)(r:a7)(p:D9):=bm TM F ad f296 ajE gB 2 (c,r,p,())
def ahf (c:D1)(r:a7)(p:D9):D0 F c r p=(ba F0 r).bind fun b=>(dx F0 c r).bind fun f=>br (!f.1) (some (b.1,false,())) ((kO F0 c p).bind fun g=>br (!g.1) (some (b.1,false,())) (br (p.2.1.toList==ak.toList) (some (b.1,false,())) (br (decide (p.1<r.2.1)) (some (b.1,false,())) ((ba F0 r).bind fun a=>(fk F0 c r.2.2.2.2.2.1 p).bind fun d=>br (!d.2.1) (some (b.1,false,())) ((ba F0 (a.1.1,a.1.2.1,a.1.2.2.1,a.1.2.2.2.1,a.1.2.2.2.2.1,d.1,a.1.2.2.2.2.2.2)).bind fun h=>(oV F0 c h.1 p.1 p.2.1 false).bind fun e=>br e.1.2.1 (some (e.1.1,true,())) (some ((a.1.1,a.1.2.1,a.1.2.2.1,a.1.2.2.2.1,a.1.2.2.2.2.1,d.1,a.1.2.2.2.2.2.2),true,()))))))):=by kernel_rfl
def M5:Any:=.one ⟨ajE,gB,2,fun x=>D0 F0 x.1 x.2.1 x.2.2.1⟩
def ahg:a8 296 M5:=aq TM ⟨cl,cU,yz,r9,CC,trivial⟩ func296 ad (by kernel_rfl)
def TN:=[(64,bY),(66,gR),(71,jV),(73,b9),(74,cn),(125,jw),(126,pq),(127,uz),(134,gA),(268,kU),(304,IB),(307,pz)]
abbrev aDF:List (Ty×Bool):=[(K1,true),(b8,true),(.int .i64,false),(K9,true),(.int .i64,false)]
def D7 (c:D1)(r:a7)(a:Int)(q:D9)(cw:Int):=bm TN F ad f297 aDF gB 2 (c,r,a,q,cw,())
def ahh (c:D1)(r:a7)(e:Int)(q:D9)(cw:Int):D7 F c r e q cw=(ba F0 r).bind fun f=>(dx F0 c r).bind fun h=>br (!h.1) (some (f.1,false,())) ((bN F0 e 1 60).bind fun i=>br (!i.1) (some (f.1,false,())) ((ku F0 c q).bind fun j=>br (!j.1) (some (f.1,false,())) ((bN F0 cw 0 (aj (c.1-1))).bind fun k=>br (!k.1) (some (f.1,false,())) ((ba F0 r).bind fun l=>(Qa F0 c r.2.2.2.1 q).bind fun m=>(eI F0 c l.1 m.1).bind fun a=>br a.2.1 ((mj F0 c e).bind fun o=>br (o.1==r.1) (br (decide (e>=r.2.1)) ((fk F0 c a.1.2.2.2.2.2.1 (e,ak,[cw])).bind fun g=>br (!g.2.1) (some (f.1,false,())) ((oR F0 g.1 e ak).bind fun p=>(wW F0 c).bind fun s=>br (decide ((p.1.2.2.length:Int)>=s.1)) ((dK F0 a.1.2.1 e).bind fun t=>(bK F0 (aj (q.1+1)) 60).bind fun b=>(dK F0 t.1 b.1).bind fun d=>some ((a.1.1,d.1,a.1.2.2.1,a.1.2.2.2.1,a.1.2.2.2.2.1,g.1,a.1.2.2.2.2.2.2),true,())) ((bK F0 (aj (q.1+1)) 60).bind fun b=>(dK F0 a.1.2.1 b.1).bind fun d=>some ((a.1.1,d.1,a.1.2.2.1,a.1.2.2.2.1,a.1.2.2.2.2.1,g.1,a.1.2.2.2.2.2.2),true,())))) ((bK F0 (aj (q.1+1)) 60).bind fun b=>(dK F0 a.1.2.1 b.1).bind fun d=>some ((a.1.1,d.1,a.1.2.2),true,()))) ((bK F0 (aj (q.1+1)) 60).bind fun b=>(dK F0 a.1.2.1 b.1).bind fun d=>some ((a.1.1,d.1,a.1.2.2),true,()))) (some (f.1,false,())))))):=by kernel_rfl
def M6:Any:=.one ⟨aDF,gB,2,fun x=>D7 F0 x.1 x.2.1 x.2.2.1 x.2.2.2.1 x.2.2.2.2.1⟩
def ahi:a8 297 M6:=aq TN ⟨cl,lA,oU,cA,cU,nE,Cv,Km,kN,r9,WA,Cz,trivial⟩ func297 ad (by kernel_rfl)
def zJ:=[(142,Gl),(212,yy)]
def zU:Nat->Option Hint:=look [(2,{live:=[0,3,6],xl:=[0,3,6],rl:=[4,5]})]
def sa (p:List D4)(a x b c d:Int):= cR 43 [(0,ia 52 (K4) p),b1 3,(6,bb a)] [(3,[ao x,ao b,ao c,ao d])] []
def pB (p:List D4)(a x b c d:Int):= cR 43 [(0,ia 52 (K4) p),b1 3,(6,bb a)] [(3,[ao x,ao b,ao c,ao d])] []
def zV (a:St):Option U:=fe zJ F zU [.r,.r,.l,.b,.i] f336 J n a
def sd:=hH zJ F zU [.r,.r,.l,.b] f336 V7 2
def Hl (p:List D4)(a x b c d:Int):zV F J (n+1) (sa p a x b c d)=br (decide (a<(p.length:Int))) (ck (bE a (p.length:Int)) ((tO F0 (aH p a K4.aC) (x,b,c,d)).bind fun e=>br e.1 (zV F J n (sa p (aj (a+1)) x b c d)) (J (.exit 0) (pB p a x b c d)))) (J (.exit 0) (pB p a x b c d)):=by kernel_rfl
def acg (p:List D4)(a x b c d:Int):sd F (.exit 0) (pB p a x b c d)=ck (RZ 0 a (p.length:Int)) (ck (en F 0 ((p.take a.toNat).drop (0:Int).toNat).length 32) (ck (en F ([]++((p.take a.toNat).drop (0:Int).toNat)).length [(x,b,c,d)].length 32) (ck (RZ a (p.length:Int) (p.length:Int)) (ck (en F (([]++((p.take a.toNat).drop (0:Int).toNat))++[(x,b,c,d)]).length ((p.take (p.length:Int).toNat).drop a.toNat).length 32) ((Fb F0 ((([]++((p.take a.toNat).drop (0:Int).toNat))++[(x,b,c,d)])++((p.take (p.length:Int).toNat).drop a.toNat))).bind fun e=>br (!e.1) (ck (en F 0 p.length 32) (some ([]++p,false,()))) (some ((([]++((p.take a.toNat).drop (0:Int).toNat))++[(x,b,c,d)])++((p.take (p.length:Int).toNat).drop a.toNat),true,()))))))):=by kernel_rfl
abbrev aDG:List (Ty×Bool):=[(K5,false),(K4,true)]
def IG (p:D5)(x:D4):=bm zJ F zU f336 aDG V7 2 (p,x,())
def alp (p:D5)(x:D4):IG F p x=zV F (sd F) F.n (sa p 0 x.1 x.2.1 x.2.2.1 x.2.2.2):=by kernel_rfl
def Qk:Any:=.one ⟨aDG,V7,2,fun x=>IG F0 x.1 x.2.1⟩
def alq:a8 336 Qk:=aq zJ ⟨V9,PK,trivial⟩ func336 zU (by kernel_rfl)
def aaz:=[(64,bY),(74,cn),(336,Qk)]
abbrev aDH:List (Ty×Bool):=[(K1,true),(b8,true),(K4,true)]
def M7 (c:D1)(r:a7)(x:D4):=bm aaz F ad f298 aDH gB 2 (c,r,x,())
def aoD (c:D1)(r:a7)(x:D4):M7 F c r x=(ba F0 r).bind fun a=>(dx F0 c r).bind fun d=>br (!d.1) (some (a.1,false,())) ((IG F0 r.2.2.2.2.1 x).bind fun b=>br b.2.1 (some ((a.1.1,a.1.2.1,a.1.2.2.1,a.1.2.2.2.1,b.1,a.1.2.2.2.2.2),b.2.1,())) (some (a.1,b.2.1,()))):=by kernel_rfl
def TO:Any:=.one ⟨aDH,gB,2,fun x=>M7 F0 x.1 x.2.1 x.2.2.1⟩
def aoE:a8 298 TO:=aq aaz ⟨cl,cU,alq,trivial⟩ func298 ad (by kernel_rfl)
def WJ:=[(263,wo),(296,M5),(297,M6),(298,TO)]
abbrev aaA:List (Ty×Bool):=[(K1,true),(b8,true),(K21,true)]
def IH (c:D1)(r:a7)(m:OZ):=bm WJ F ad f256 aaA gB 2 (c,r,m,())
def alr (c:D1)(r:a7)(m:OZ):IH F c r m=br (m.1==1) ((q2 F0 c r m.2.2.1).bind fun a=>some (a.1,a.2.1,())) (br (m.1==2) ((D0 F0 c r m.2.2.2.1).bind fun b=>some (b.1,b.2.1,())) (br (m.1==3) ((D7 F0 c r m.2.1 m.2.2.2.2.1 m.2.2.2.2.2.1).bind fun d=>some (d.1,d.2.1,())) ((M7 F0 c r m.2.2.2.2.2.2).bind fun e=>some (e.1,e.2.1,())))):=by kernel_rfl
def Ql:Any:=.one ⟨aaA,gB,2,fun x=>IH F0 x.1 x.2.1 x.2.2.1⟩
def als:a8 256 Ql:=aq WJ ⟨M4,ahg,ahi,aoE,trivial⟩ func256 ad (by kernel_rfl)
def se:=[(194,jF)]
def sf:Nat->Option Hint:=look [(3,{live:=[0,1,5,6],xl:=[5],rl:=[4]})]
def jW (a:List D9)(b i:Int)(c:List D9):= cR 30 [(0,ia 50 (K9) a),(1,bb b),(5,.v (.c (.own 1000000 none))),(6,bb i)] [] [az 1000000 50 K9 c]
def Hm (a:List D9):= cR 30 [(5,.v (.c (.own 1000000 none)))] [] [az 1000000 50 K9 a]
def mv (a:St):Option U:=fe se F sf [.r,.r,.l,.r,.b,.i] f257 J n a
def wq:=hH se F sf [.r,.r,.l,.r,.b] f257 G9 2
def BP (a:List D9)(c i:Int)(b:List D9):mv F J (n+1) (jW a c i b)=br (decide (i<(a.length:Int))) (ck (bE i (a.length:Int)) (br (decide ((aH a i K9.aC).1>=c)) (ck (bE i (a.length:Int)) ((gC F0 (aH a i K9.aC)).bind fun d=>ck (en F b.length [d.1].length 48) (mv F J n (jW a c (aj (i+1)) (b++[d.1]))))) (mv F J n (jW a c (aj (i+1)) b)))) (J (.exit 0) (Hm b)):=by kernel_rfl
def WK (a:List D9):wq F (.exit 0) (Hm a)=some (a,()):=by kernel_rfl
abbrev aDI:List (Ty×Bool):=[(K13,false),(.int .i64,false)]
def z1 (a:D13)(b:Int):=bm se F sf f257 aDI G9 2 (a,b,())
def aet (a:D13)(b:Int):z1 F a b=mv F (wq F) F.n (jW a b 0 []):=by kernel_rfl
def KR:Any:=.one ⟨aDI,G9,2,fun x=>z1 F0 x.1 x.2.1⟩
def aeu:a8 257 KR:=aq se ⟨ow,trivial⟩ func257 sf (by kernel_rfl)
def aev:=[(74,cn),(128,Gs),(129,wi),(130,KB)]
def KS (c:D1)(r:a7):=bm aev F ad f259 x4 nn 2 (c,r,())
def asd (c:D1)(r:a7):KS F c r=(dx F0 c r).bind fun a=>br (!a.1) (some (([],[]),())) ((ml F0).bind fun b=>(wj F0 r.2.2.2.1.2.2.2).bind fun d=>(w2 F0 b.1 d.1).bind fun e=>some (e.1,())):=by kernel_rfl
def WL:Any:=.one ⟨x4,nn,2,fun x=>KS F0 x.1 x.2.1⟩
def ase:a8 259 WL:=aq aev ⟨cU,Wq,MP,aar,trivial⟩ func259 ad (by kernel_rfl)
end
end Go.Am.Tryz
namespace Go.Am.Tryz
open Go.Am Go.Proofs Go.Proofs.Tryz
noncomputable section
variable {U:Type} (F:rH) (J:Ex->St->Option U) (n:Nat)
def vh:=[(197,Iv)]
def vi:Nat->Option Hint:=look [(3,{live:=[0,3,5,6],xl:=[5],rl:=[4]})]
def kV (p:List D4)(i:Int)(l a:List Int)(b:List D4):= cR 35 [(0,ia 52 (K4) p),b1 3,(5,.v (.c (.own 1000000 none))),(6,bb i)] [(3,[.ro false 3 (.int .i64) l,.ro false 3 (.int .i64) a])] [az 1000000 52 K4 b]
def KT (a:List D4):= cR 35 [(5,.v (.c (.own 1000000 none)))] [] [az 1000000 52 K4 a]
def oz (a:St):Option U:=fe vh F vi [.r,.r,.l,.r,.b,.i] f258 J n a
def z6:=hH vh F vi [.r,.r,.l,.r,.b] f258 kl 2
def Fq (p:List D4)(i:Int)(l b:List Int)(a:List D4):oz F J (n+1) (kV p i l b a)=br (decide (i<(p.length:Int))) (ck (bE i (p.length:Int)) ((KF F0 (l,b) (aH p i K4.aC)).bind fun c=>br (c.2.1 != 2) (ck (bE i (p.length:Int)) (ck (en F a.length [(aH p i K4.aC)].length 32) (oz F J n (kV p (aj (i+1)) l b (a++[(aH p i K4.aC)]))))) (oz F J n (kV p (aj (i+1)) l b a)))) (J (.exit 0) (KT a)):=by kernel_rfl
def Zq (a:List D4):z6 F (.exit 0) (KT a)=some (a,()):=by kernel_rfl
def Ea (p:D5)(l:D43):=bm vh F vi f258 ajx kl 2 (p,l,())
def ahj (p:D5)(l:D43):Ea F p l=oz F (z6 F) F.n (kV p 0 l.1 l.2 []):=by kernel_rfl
def M8:Any:=.one ⟨ajx,kl,2,fun x=>Ea F0 x.1 x.2.1⟩
def ahk:a8 258 M8:=aq vh ⟨Wp,trivial⟩ func258 vi (by kernel_rfl)
def ajH:=[(64,bY),(74,cn),(145,jT),(256,Ql),(257,KR),(258,M8),(259,WL)]
def Qm (c:D1)(r:a7)(m:OZ):=bm ajH F ad f202 aaA gB 2 (c,r,m,())
def avX (c:D1)(r:a7)(m:OZ):Qm F c r m=(dx F0 c r).bind fun e=>br (!e.1) ((ba F0 r).bind fun b=>some (b.1,false,())) ((fs F0 c m).bind fun f=>br (!f.1) ((ba F0 r).bind fun b=>some (b.1,false,())) ((IH F0 c r m).bind fun a=>br (!a.2.1) ((ba F0 r).bind fun g=>some (g.1,false,())) ((z1 F0 a.1.2.2.2.2.2.1 (aj (a.1.2.1-1))).bind fun d=>(KS F0 c (a.1.1,a.1.2.1,a.1.2.2.1,a.1.2.2.2.1,a.1.2.2.2.2.1,d.1,a.1.2.2.2.2.2.2)).bind fun h=>(Ea F0 a.1.2.2.2.2.1 h.1).bind fun i=>some ((a.1.1,a.1.2.1,a.1.2.2.1,a.1.2.2.2.1,i.1,d.1,a.1.2.2.2.2.2.2),true,())))):=by kernel_rfl
def O2:Any:=.one ⟨aaA,gB,2,fun x=>Qm F0 x.1 x.2.1 x.2.2.1⟩
def aew:a8 202 O2:=aq ajH ⟨cl,cU,oQ,als,aeu,ahk,ase,trivial⟩ func202 ad (by kernel_rfl)
def aaB:=[(68,cN),(73,b9),(77,Kw),(202,O2)]
def w6 (w:lx)(d:D45):Option (lx×Int×lx):=arE Tryz.prog (look aaB) F ad f137 [(hJ,true),(K45,true)] 0 (hJ,true) (.int .i64,false) (hJ,true) (w,d,())
def aoF (w:lx)(d:D45):w6 F w d=(bN F0 d.2.1 0 (aj ((w.2.2.2.1.length:Int)-1))).bind fun b=>br (!b.1) (some (hJ.aC,2,w)) (ck (bE d.2.1 (w.2.2.2.1.length:Int)) (br (d.1==5) (br (decide ((w.2.2.2.1.length:Int)>=60)) (some (hJ.aC,4,w)) (ck (en F 0 (aH w.2.2.2.1 d.2.1 (0,[])).2.length 1) (ck (en F w.2.2.2.1.length [((aH w.2.2.2.1 d.2.1 (0,[])).1,[]++(aH w.2.2.2.1 d.2.1 (0,[])).2)].length 32) (some ((w.1,w.2.1,w.2.2.1,w.2.2.2.1++[((aH w.2.2.2.1 d.2.1 (0,[])).1,[]++(aH w.2.2.2.1 d.2.1 (0,[])).2)],w.2.2.2.2),0,hJ.aC))))) (ck (okT d.2.1 (w.2.2.2.1.length:Int)) (ck (RZ (aj (d.2.1+1)) (w.2.2.2.1.length:Int) (w.2.2.2.1.length:Int)) (ck (en F 0 (w.2.2.2.1.take d.2.1.toNat).length 32) (ck (en F ([]++(w.2.2.2.1.take d.2.1.toNat)).length ((w.2.2.2.1.take (w.2.2.2.1.length:Int).toNat).drop (aj (d.2.1+1)).toNat).length 32) (br (d.1==3) ((cX F0 w.2.1 (aH w.2.2.2.1 d.2.1 (0,[])).1).bind fun c=>br (!c.1) ((Kv F0 w.1 (aH w.2.2.2.1 d.2.1 (0,[])).2).bind fun e=>ck (bE (aH w.2.2.2.1 d.2.1 (0,[])).1 (w.2.2.1.length:Int)) ((Qm F0 w.1 (aH w.2.2.1 (aH w.2.2.2.1 d.2.1 (0,[])).1 b8.aC) e.1).bind fun a=>br a.2.1 (ck (bE (aH w.2.2.2.1 d.2.1 (0,[])).1 (w.2.2.1.length:Int)) (some ((w.1,w.2.1,w.2.2.1.set (aH w.2.2.2.1 d.2.1 (0,[])).1.toNat a.1,([]++(w.2.2.2.1.take d.2.1.toNat))++((w.2.2.2.1.take (w.2.2.2.1.length:Int).toNat).drop (aj (d.2.1+1)).toNat),w.2.2.2.2),0,hJ.aC))) (some ((w.1,w.2.1,w.2.2.1,([]++(w.2.2.2.1.take d.2.1.toNat))++((w.2.2.2.1.take (w.2.2.2.1.length:Int).toNat).drop (aj (d.2.1+1)).toNat),w.2.2.2.2),0,hJ.aC)))) (some ((w.1,w.2.1,w.2.2.1,([]++(w.2.2.2.1.take d.2.1.toNat))++((w.2.2.2.1.take (w.2.2.2.1.length:Int).toNat).drop (aj (d.2.1+1)).toNat),w.2.2.2.2),0,hJ.aC))) (some ((w.1,w.2.1,w.2.2.1,([]++(w.2.2.2.1.take d.2.1.toNat))++((w.2.2.2.1.take (w.2.2.2.1.length:Int).toNat).drop (aj (d.2.1+1)).toNat),w.2.2.2.2),0,hJ.aC))))))))):=by kernel_rfl
def TP:Any:=.sel ⟨[(hJ,true),(K45,true)],0,(hJ,true),(.int .i64,false),(hJ,true),fun x=>w6 F0 x.1 x.2.1⟩
def aoG:a8 137 TP:=ok4 (show yh Tryz.prog TB aaB from⟨dL,cA,aao,aew,trivial⟩) func137 (by kernel_rfl) (by kernel_rfl) ad (by kernel_rfl) (by kernel_rfl)
def Eb:Nat->Option Hint:=look [(2,{live:=[0,1,2,3,9],rl:=[8]})]
def kx (a:List bF)(b:Int)(name:ByteArray)(cw i:Int):= bU 41 [(0,ia 41 (cz) a),(1,bb b),(2,Z0 name),(3,bb cw),(9,bb i)]
def TQ (a:Bool):= bU 41 [(8,JH a)]
def Qn   := bU 41 []
def oW (a:St):Option U:=fe aB F Eb [.r,.l,.r,.b,.i] f299 J n a
def vj:=hH aB F Eb [.r,.l,.r,.b] f299 aP 1
def KU (a:List bF)(b:Int)(name:ByteArray)(cw i:Int):oW F J (n+1) (kx a b name cw i)=br (decide (i<(a.length:Int))) (ck (bE i (a.length:Int)) (br ((aH a i cz.aC).1==b) (ck (bE i (a.length:Int)) (br ((aH a i cz.aC).2.1.toList==name.toList) (ck (bE i (a.length:Int)) (br ((aH a i cz.aC).2.2==cw) (J .ret (TQ true)) (oW F J n (kx a b name cw (aj (i+1)))))) (oW F J n (kx a b name cw (aj (i+1)))))) (oW F J n (kx a b name cw (aj (i+1)))))) (J (.exit 0) (Qn)):=by kernel_rfl
def ahl (a:Bool):vj F .ret (TQ a)=some (a,()):=by kernel_rfl
def aex: vj F (.exit 0) (Qn)=some (false,()):=by kernel_rfl
abbrev aJV:List (Ty×Bool):=[(K38,false),(.int .i64,false),(.str,false),(.int .i64,false)]
def Fs (a:D38)(b:Int)(name:ByteArray)(cw:Int):=bm aB F Eb f299 aJV aP 1 (a,b,name,cw,())
def aoH (a:D38)(b:Int)(name:ByteArray)(cw:Int):Fs F a b name cw=oW F (vj F) F.n (kx a b name cw 0):=by kernel_rfl
def Gz:Any:=.one ⟨aJV,aP,1,fun x=>Fs F0 x.1 x.2.1 x.2.2.1 x.2.2.2.1⟩
def WM:a8 299 Gz:=aq aB trivial func299 Eb (by kernel_rfl)
def Ec:=[(68,cN),(299,Gz)]
def Ed:Nat->Option Hint:=look [(2,{live:=[0,1,2,3,4,11],rl:=[10]})]
def oA (liars:List Int)(a:List bF)(b:Int)(name:ByteArray)(cw:List Int)(i:Int):= bU 36 [(0,ia 3 (.int .i64) liars),(1,ia 41 (cz) a),(2,bb b),(3,Z0 name),(4,ia 3 (.int .i64) cw),(11,bb i)]
def TR (a:Bool):= bU 36 [(10,JH a)]
def Qo   := bU 36 []
def tU (a:St):Option U:=fe Ec F Ed [.r,.l,.r,.b,.i] f260 J n a
def vk:=hH Ec F Ed [.r,.l,.r,.b] f260 aP 1
def KV (liars:List Int)(a:List bF)(b:Int)(name:ByteArray)(cw:List Int)(i:Int):tU F J (n+1) (oA liars a b name cw i)=br (decide (i<(cw.length:Int))) (ck (bE i (cw.length:Int)) ((cX F0 liars (aH cw i 0)).bind fun c=>br (!c.1) (ck (bE i (cw.length:Int)) ((Fs F0 a b name (aH cw i 0)).bind fun d=>br (!d.1) (J .ret (TR false)) (tU F J n (oA liars a b name cw (aj (i+1)))))) (tU F J n (oA liars a b name cw (aj (i+1)))))) (J (.exit 0) (Qo)):=by kernel_rfl
def ahm (a:Bool):vk F .ret (TR a)=some (a,()):=by kernel_rfl
def aey: vk F (.exit 0) (Qo)=some (true,()):=by kernel_rfl
abbrev aDJ:List (Ty×Bool):=[(.sl 3 (.int .i64),false),(K38,false),(.int .i64,false),(.str,false),(.sl 3 (.int .i64),false)]
def w7 (liars:List Int)(a:D38)(b:Int)(name:ByteArray)(cw:List Int):=bm Ec F Ed f260 aDJ aP 1 (liars,a,b,name,cw,())
def aoI (liars:List Int)(a:D38)(b:Int)(name:ByteArray)(cw:List Int):w7 F liars a b name cw=tU F (vk F) F.n (oA liars a b name cw 0):=by kernel_rfl
def TS:Any:=.one ⟨aDJ,aP,1,fun x=>w7 F0 x.1 x.2.1 x.2.2.1 x.2.2.2.1 x.2.2.2.2.1⟩
def aoJ:a8 260 TS:=aq Ec ⟨dL,WM,trivial⟩ func260 Ed (by kernel_rfl)
def aaC:=[(68,cN),(79,di),(125,jw),(145,jT),(260,TS)]
abbrev aDK:List (Ty×Bool):=[(K1,true),(.sl 3 (.int .i64),false),(K38,false),(K21,true)]
def M9 (c:D1)(liars:List Int)(a:D38)(m:OZ):=bm aaC F ad f203 aDK aP 1 (c,liars,a,m,())
def aoK (c:D1)(liars:List Int)(a:D38)(m:OZ):M9 F c liars a m=(fs F0 c m).bind fun b=>br (!b.1) (some (false,())) (br (m.1==1) ((du F0 m.2.2.1.1).bind fun d=>(mj F0 c d.1).bind fun e=>(cX F0 liars e.1).bind fun f=>br f.1 ((w7 F0 liars a m.2.2.1.2.1 m.2.2.1.2.2.1 m.2.2.1.2.2.2).bind fun g=>some (g.1,())) (some (false,()))) (br (m.1==2) ((w7 F0 liars a m.2.2.2.1.1 m.2.2.2.1.2.1 m.2.2.2.1.2.2).bind fun h=>some (h.1,())) (br (m.1==3) ((cX F0 liars m.2.2.2.2.2.1).bind fun i=>br i.1 ((w7 F0 liars a m.2.2.2.2.1.1 m.2.2.2.2.1.2.1 m.2.2.2.2.1.2.2).bind fun j=>some (j.1,())) (some (false,()))) (some (true,()))))):=by kernel_rfl
def TT:Any:=.one ⟨aDK,aP,1,fun x=>M9 F0 x.1 x.2.1 x.2.2.1 x.2.2.2.1⟩
def aoL:a8 203 TT:=aq aaC ⟨dL,eH,nE,oQ,aoJ,trivial⟩ func203 ad (by kernel_rfl)
def z7:=[(300,ih)]
def z8:Nat->Option Hint:=look [(3,{live:=[0,3,4],xl:=[3],rl:=[2]})]
def sg (a:List Int)(i:Int)(b:List Int):= cR 20 [(0,ia 3 (.int .i64) a),(3,.v (.c (.own 1000000 none))),(4,bb i)] [] [az 1000000 5 (.int .u8) b]
def Na (a:List Int):= cR 20 [(3,.v (.c (.own 1000000 none)))] [] [az 1000000 5 (.int .u8) a]
def Aa (a:St):Option U:=fe z7 F z8 [.r,.r,.l,.r,.b,.i] f303 J n a
def CD:=hH z7 F z8 [.r,.r,.l,.r,.b] f303 l1 2
def Hn (a:List Int)(i:Int)(b:List Int):Aa F J (n+1) (sg a i b)=br (decide (i<(a.length:Int))) (ck (bE i (a.length:Int)) ((eo F0 (aH a i 0)).bind fun c=>ck (en F b.length c.1.length 1) (Aa F J n (sg a (aj (i+1)) (b++c.1))))) (J (.exit 0) (Na b)):=by kernel_rfl
def ach (a:List Int):CD F (.exit 0) (Na a)=some (a,()):=by kernel_rfl
def sh (a:List Int):=bm z7 F z8 f303 ko l1 2 (a,())
def alu (a:List Int):sh F a=Aa F (CD F) F.n (sg a 0 []):=by kernel_rfl
def Qp:Any:=.one ⟨ko,l1,2,fun x=>sh F0 x.1⟩
def alv:a8 303 Qp:=aq z7 ⟨mo,trivial⟩ func303 z8 (by kernel_rfl)
def TU:=[(145,jT),(300,ih),(301,r4),(302,Cy),(303,Qp)]
def Ee (c:D1)(m:OZ):=bm TU F ad f261 ajt l1 2 (c,m,())
def ahn (c:D1)(m:OZ):Ee F c m=(fs F0 c m).bind fun l=>br (!l.1) (some ([],())) ((eo F0 m.1).bind fun a=>br (m.1==1) ((nF F0 m.2.2.1.1).bind fun e=>ck (en F a.1.length e.1.length 1) ((r6 F0 c m.2.2.1.2).bind fun h=>ck (en F (a.1++e.1).length h.1.length 1) (some ((a.1++e.1)++h.1,())))) (br (m.1==2) ((eo F0 m.2.2.2.1.1).bind fun b=>ck (en F a.1.length b.1.length 1) ((nF F0 m.2.2.2.1.2.1).bind fun d=>ck (en F (a.1++b.1).length d.1.length 1) ((eo F0 (m.2.2.2.1.2.2.length:Int)).bind fun f=>ck (en F ((a.1++b.1)++d.1).length f.1.length 1) ((sh F0 m.2.2.2.1.2.2).bind fun i=>ck (en F (((a.1++b.1)++d.1)++f.1).length i.1.length 1) (some ((((a.1++b.1)++d.1)++f.1)++i.1,())))))) (br (m.1==3) ((sh F0 [m.2.1,m.2.2.2.2.2.1]).bind fun g=>ck (en F a.1.length g.1.length 1) ((r6 F0 c m.2.2.2.2.1).bind fun j=>ck (en F (a.1++g.1).length j.1.length 1) (some ((a.1++g.1)++j.1,())))) ((sh F0 [m.2.2.2.2.2.2.1,m.2.2.2.2.2.2.2.1,m.2.2.2.2.2.2.2.2.1,m.2.2.2.2.2.2.2.2.2]).bind fun k=>ck (en F a.1.length k.1.length 1) (some (a.1++k.1,())))))):=by kernel_rfl
def Nb:Any:=.one ⟨ajt,l1,2,fun x=>Ee F0 x.1 x.2.1⟩
def aho:a8 261 Nb:=aq TU ⟨oQ,mo,Gw,TC,alv,trivial⟩ func261 ad (by kernel_rfl)
def Ab:=[(73,b9),(261,Nb)]
def Ac:Nat->Option Hint:=look [(2,{live:=[1,2,4,5],aJ1:=true,yc:=[(4,2,3,.int .i64),(4,3,65,b8),(4,4,105,ek),(4,5,41,cz)],xl:=[2,4],rl:=[4]})]
def gb (j:List lv)(i w a k l:Int)(m:List Int)(b:List a7)(c:List bS)(d:List bF)(e:List Int)(f:List a7)(g:List bS)(h:List bF):St:={nt:=55,tm:=[(1,ia 136 (pY) j),b1 2,b1 4,(5,bb i)],bx:=[(2,[ao w,ao a,.own 1000000 none,.own 1000001 none,.own 1000002 none,.own 1000003 none]),(4,[ao k,ao l,.own 1000004 none,.own 1000005 none,.own 1000006 none,.own 1000007 none])],bl:=[az 1000000 3 (.int .i64) m,az 1000001 65 b8 b,az 1000002 105 ek c,az 1000003 41 cz d,az 1000004 3 (.int .i64) e,az 1000005 65 b8 f,az 1000006 105 ek g,az 1000007 41 cz h],sp:=.v (.c (.none))}
def Nc (w a i j:Int)(k:List Int)(b:List a7)(c:List bS)(d:List bF)(e:List Int)(f:List a7)(g:List bS)(h:List bF):St:={nt:=55,tm:=[b1 2,b1 4],bx:=[(2,[ao w,ao a,.own 1000000 none,.own 1000001 none,.own 1000002 none,.own 1000003 none]),(4,[ao i,ao j,.own 1000004 none,.own 1000005 none,.own 1000006 none,.own 1000007 none])],bl:=[az 1000000 3 (.int .i64) k,az 1000001 65 b8 b,az 1000002 105 ek c,az 1000003 41 cz d,az 1000004 3 (.int .i64) e,az 1000005 65 b8 f,az 1000006 105 ek g,az 1000007 41 cz h],sp:=.v (.c (.none))}
def jX (a:St):Option U:=fe Ab F Ac [.r,.l,.r,.b,.i] f204 J n a
def CE:=ayn Ab F Ac [.r,.l,.r,.b] f204 (.own true) jE [] 2
def Ho (a:List lv)(i w c k l:Int)(m:List Int)(d:List a7)(b:List bS)(e:List bF)(f:List Int)(g:List a7)(h:List bS)(j:List bF):jX F J (n+1) (gb a i w c k l m d b e f g h j)=br (decide (i<(a.length:Int))) (ck (bE i (a.length:Int)) ((Ee F0 (w,c) (aH a i pY.aC).2).bind fun o=>br (decide ((b.length:Int)<60)) (br (decide ((o.1.length:Int)>0)) (ck (bE i (a.length:Int)) ((bN F0 (aH a i pY.aC).1 0 (aj (w-1))).bind fun p=>br p.1 (ck (bE i (a.length:Int)) (ck (en F b.length [((aH a i pY.aC).1,o.1)].length 32) (jX F J n (gb a (aj (i+1)) w c k l m d (b++[((aH a i pY.aC).1,o.1)]) e f g h j)))) (jX F J n (gb a (aj (i+1)) w c k l m d b e f g h j)))) (jX F J n (gb a (aj (i+1)) w c k l m d b e f g h j))) (jX F J n (gb a (aj (i+1)) w c k l m d b e f g h j)))) (J (.exit 0) (Nc w c k l m d b e f g h j)):=by kernel_rfl
def aci (w a j k:Int)(e:List Int)(b:List a7)(c:List bS)(d:List bF)(f:List Int)(g:List a7)(h:List bS)(i:List bF):CE F (.exit 0) (Nc w a j k e b c d f g h i)=some ((((w,a),e,b,c,d),()),()):=by kernel_rfl
abbrev aDL:List (Ty×Bool):=[(hJ,true),(K23,false)]
def Ad (w:lx)(a:D23):=Fa Ab F Ac f204 aDL 0 (.own true) jE [] 2 (w,a,())
def alw (w:lx)(a:D23):Ad F w a=jX F (CE F) F.n (gb a 0 w.1.1 w.1.2 0 0 w.2.1 w.2.2.1 w.2.2.2.1 w.2.2.2.2 [] [] [] []):=by kernel_rfl
def CF:Any:=.two ⟨aDL,0,(.own true),jE,2,[],fun x=>Ad F0 x.1 x.2.1⟩
def TV:a8 204 CF:=aBf Ab ⟨cA,aho,trivial⟩ func204 Ac (by kernel_rfl)
def aaD:=[(73,b9),(203,TT),(204,CF)]
def Nd (w:lx)(d:D45):Option (lx×Int×lx):=arE Tryz.prog (look aaD) F ad f138 [(hJ,true),(K45,true)] 0 (hJ,true) (.int .i64,false) (hJ,true) (w,d,())
def aoM (w:lx)(d:D45):Nd F w d=(bN F0 d.2.1 0 (aj (w.1.1-1))).bind fun a=>br (!a.1) (some (hJ.aC,2,w)) ((M9 F0 w.1 w.2.1 w.2.2.2.2 d.2.2.2).bind fun b=>br (!b.1) (some (hJ.aC,5,w)) (br (decide ((w.2.2.2.1.length:Int)>=60)) (some (hJ.aC,4,w)) ((Ad F0 w [(d.2.1,d.2.2.2)]).bind fun c=>some (c.1.1,0,hJ.aC)))):=by kernel_rfl
def TW:Any:=.sel ⟨[(hJ,true),(K45,true)],0,(hJ,true),(.int .i64,false),(hJ,true),fun x=>Nd F0 x.1 x.2.1⟩
def aoN:a8 138 TW:=ok4 (show yh Tryz.prog TB aaD from⟨cA,aoL,TV,trivial⟩) func138 (by kernel_rfl) (by kernel_rfl) ad (by kernel_rfl) (by kernel_rfl)
def Ef:=[(68,cN)]
def Eg:Nat->Option Hint:=look [(3,{live:=[1,3,4],xl:=[3],rl:=[2]})]
def ky (i w a:Int)(b:List Int)(c:List a7)(d:List bS)(e:List bF)(f:List Int):= cR 23 [b1 1,(3,.v (.c (.own 1000000 none))),(4,bb i)] [(1,[ao w,ao a,.ro false 3 (.int .i64) b,.ro false 65 (b8) c,.ro false 105 (ek) d,.ro false 41 (cz) e])] [az 1000000 3 (.int .i64) f]
def Qq (a:List Int):= cR 23 [(3,.v (.c (.own 1000000 none)))] [] [az 1000000 3 (.int .i64) a]
def oX (a:St):Option U:=fe Ef F Eg [.r,.r,.l,.r,.b,.i] f139 J n a
def vl:=hH Ef F Eg [.r,.r,.l,.r,.b] f139 ko 2
def KW (i w d:Int)(b:List Int)(c:List a7)(e:List bS)(f:List bF)(a:List Int):oX F J (n+1) (ky i w d b c e f a)=br (decide (i<(c.length:Int))) ((cX F0 b i).bind fun g=>br (!g.1) (ck (en F a.length [i].length 8) (oX F J n (ky (aj (i+1)) w d b c e f (a++[i])))) (oX F J n (ky (aj (i+1)) w d b c e f a))) (J (.exit 0) (Qq a)):=by kernel_rfl
def aez (a:List Int):vl F (.exit 0) (Qq a)=some (a,()):=by kernel_rfl
def Ft (w:lx):=bm Ef F Eg f139 jE ko 2 (w,())
def aoO (w:lx):Ft F w=oX F (vl F) F.n (ky 0 w.1.1 w.1.2 w.2.1 w.2.2.1 w.2.2.2.1 w.2.2.2.2 []):=by kernel_rfl
def GA:Any:=.one ⟨jE,ko,2,fun x=>Ft F0 x.1⟩
def WN:a8 139 GA:=aq Ef ⟨dL,trivial⟩ func139 Eg (by kernel_rfl)
def Ae:=[(64,bY),(74,cn),(269,mu)]
def Af:Nat->Option Hint:=look [(5,{live:=[3,4,5,6,8,9],yc:=[(6,7,3,.int .i64),(6,9,52,K4),(6,10,50,K9),(6,11,5,.int .u8),(6,13,136,pY)],xl:=[6,8],rl:=[6,7]})]
def mw (i c a r b d e f g:Int)(h:ByteArray)(j:List Int)(k:ByteArray)(l:List D4)(o:List D9)(p:List Int)(q:Int)(s:List lv)(m M:Int)(m2:ByteArray)(N:Int)(O:ByteArray)(P:List Int)(Q:Int)(R:ByteArray)(S:List Int)(T:Int)(W:ByteArray)(X:List Int)(Y Z qd qe qf qg qh qi qj qk ql:Int)(qm qn:ByteArray)(qo qp t u v w x:Int)(y z:ByteArray)(A:Int)(qq:List Int)(B:List D4)(C:List D9)(D:List Int)(E:List lv)(G:List Int)(H:List D4)(I:List D9)(K:List Int)(L:List lv):= cR 43 [b1 3,b1 4,b1 5,b1 6,b1 8,(9,bb i)] [(3,[ao c,ao a]),(4,[ao r,ao b,ao d,ao e,ao f,ao g,.str h,.ro false 3 (.int .i64) j,.str k,.ro false 52 (K4) l,.ro false 50 (K9) o,.ro false 5 (.int .u8) p,ao q,.ro false 136 (pY) s]),(5,[ao m,ao M,.str m2,ao N,.str O,.ro false 3 (.int .i64) P,ao Q,.str R,.ro false 3 (.int .i64) S,ao T,.str W,.ro false 3 (.int .i64) X,ao Y,ao Z,ao qd,ao qe,ao qf]),(6,[ao qg,ao qh,ao qi,ao qj,ao qk,ao ql,.str qm,.own 1000000 none,.str qn,.own 1000001 none,.own 1000002 none,.own 1000003 none,ao qo,.own 1000004 none]),(8,[ao qp,ao t,ao u,ao v,ao w,ao x,.str y,.own 1000005 none,.str z,.own 1000006 none,.own 1000007 none,.own 1000008 none,ao A,.own 1000009 none])] [az 1000000 3 (.int .i64) qq,az 1000001 52 K4 B,az 1000002 50 K9 C,az 1000003 5 (.int .u8) D,az 1000004 136 pY E,az 1000005 3 (.int .i64) G,az 1000006 52 K4 H,az 1000007 50 K9 I,az 1000008 5 (.int .u8) K,az 1000009 136 pY L]
def Qr (e:Bool)(f g h i j k:Int)(l m:ByteArray)(o:Int)(p:List Int)(a:List D4)(b:List D9)(c:List Int)(d:List lv):= cR 43 [b1 6,(7,JH e)] [(6,[ao f,ao g,ao h,ao i,ao j,ao k,.str l,.own 1000000 none,.str m,.own 1000001 none,.own 1000002 none,.own 1000003 none,ao o,.own 1000004 none])] [az 1000000 3 (.int .i64) p,az 1000001 52 K4 a,az 1000002 50 K9 b,az 1000003 5 (.int .u8) c,az 1000004 136 pY d]
def Nf (s t u v w x:Int)(y z:ByteArray)(A B a b c d e:Int)(f g:ByteArray)(h:Int)(C:List Int)(i:List D4)(j:List D9)(k:List Int)(l:List lv)(m:List Int)(o:List D4)(p:List D9)(q:List Int)(r:List lv):= cR 43 [b1 6,b1 8] [(6,[ao s,ao t,ao u,ao v,ao w,ao x,.str y,.own 1000000 none,.str z,.own 1000001 none,.own 1000002 none,.own 1000003 none,ao A,.own 1000004 none]),(8,[ao B,ao a,ao b,ao c,ao d,ao e,.str f,.own 1000005 none,.str g,.own 1000006 none,.own 1000007 none,.own 1000008 none,ao h,.own 1000009 none])] [az 1000000 3 (.int .i64) C,az 1000001 52 K4 i,az 1000002 50 K9 j,az 1000003 5 (.int .u8) k,az 1000004 136 pY l,az 1000005 3 (.int .i64) m,az 1000006 52 K4 o,az 1000007 50 K9 p,az 1000008 5 (.int .u8) q,az 1000009 136 pY r]
def q3 (a:St):Option U:=fe Ae F Af [.r,.r,.r,.l,.r,.b,.i] f262 J n a
def si:=hH Ae F Af [.r,.r,.r,.l,.r,.b] f262 gB 2
def Hp (i c d r e f g h j:Int)(k:ByteArray)(l:List Int)(o:ByteArray)(p:List D4)(q:List D9)(s:List Int)(t:Int)(u:List lv)(m O:Int)(m2:ByteArray)(P:Int)(Q:ByteArray)(R:List Int)(S:Int)(T:ByteArray)(W:List Int)(X:Int)(Y:ByteArray)(Z:List Int)(qd qe qf qg qh qi qj qk ql qm qn:Int)(qo qp:ByteArray)(qq qt v w x y z:Int)(A B:ByteArray)(C:Int)(qu:List Int)(D:List D4)(E:List D9)(G:List Int)(H:List lv)(I:List Int)(K:List D4)(L:List D9)(M:List Int)(N:List lv):q3 F J (n+1) (mw i c d r e f g h j k l o p q s t u m O m2 P Q R S T W X Y Z qd qe qf qg qh qi qj qk ql qm qn qo qp qq qt v w x y z A B C qu D E G H I K L M N)=br (decide (i<c)) (br (i==r) (q3 F J n (mw (aj (i+1)) c d r e f g h j k l o p q s t u m O m2 P Q R S T W X Y Z qd qe qf qg qh qi qj qk ql qm qn qo qp qq qt v w x y z A B C qu D E G H I K L M N)) ((fu F0 (c,d) (qt,v,w,(x,y,(z,A,I),B),K,L,(M,C),N) i (m,O,(m2,P,Q,R),(S,T,W),(X,Y,Z),qd,qe,qf,qg,qh)).bind fun a=>br (!a.1.2.1) ((ba F0 (r,e,f,(g,h,(j,k,l),o),p,q,(s,t),u)).bind fun b=>J .ret (Qr false b.1.1 b.1.2.1 b.1.2.2.1 b.1.2.2.2.1.1 b.1.2.2.2.1.2.1 b.1.2.2.2.1.2.2.1.1 b.1.2.2.2.1.2.2.1.2.1 b.1.2.2.2.1.2.2.2 b.1.2.2.2.2.2.2.1.2 b.1.2.2.2.1.2.2.1.2.2 b.1.2.2.2.2.1 b.1.2.2.2.2.2.1 b.1.2.2.2.2.2.2.1.1 b.1.2.2.2.2.2.2.2)) (q3 F J n (mw (aj (i+1)) c d r e f g h j k l o p q s t u m O m2 P Q R S T W X Y Z qd qe qf qg qh qi qj qk ql qm qn qo qp qq a.1.1.1 a.1.1.2.1 a.1.1.2.2.1 a.1.1.2.2.2.1.1 a.1.1.2.2.2.1.2.1 a.1.1.2.2.2.1.2.2.1.1 a.1.1.2.2.2.1.2.2.1.2.1 a.1.1.2.2.2.1.2.2.2 a.1.1.2.2.2.2.2.2.1.2 qu D E G H a.1.1.2.2.2.1.2.2.1.2.2 a.1.1.2.2.2.2.1 a.1.1.2.2.2.2.2.1 a.1.1.2.2.2.2.2.2.1.1 a.1.1.2.2.2.2.2.2.2)))) (J (.exit 0) (Nf qi qj qk ql qm qn qo qp qq qt v w x y z A B C qu D E G H I K L M N)):=by kernel_rfl
def aeA (e:Bool)(f g h i j k:Int)(l m:ByteArray)(o:Int)(p:List Int)(a:List D4)(b:List D9)(c:List Int)(d:List lv):si F .ret (Qr e f g h i j k l m o p a b c d)=some ((f,g,h,(i,j,(k,l,p),m),a,b,(c,o),d),e,()):=by kernel_rfl
def acj (t u v w x y:Int)(z A:ByteArray)(B o a b c d e:Int)(f g:ByteArray)(h:Int)(C:List Int)(p:List D4)(q:List D9)(r:List Int)(s:List lv)(i:List Int)(j:List D4)(k:List D9)(l:List Int)(m:List lv):si F (.exit 0) (Nf t u v w x y z A B o a b c d e f g h C p q r s i j k l m)=some ((o,a,b,(c,d,(e,f,i),g),j,k,(l,h),m),true,()):=by kernel_rfl
def Ag (c:D1)(r:a7)(m:OZ):=bm Ae F Af f262 aaA gB 2 (c,r,m,())
def alx (c:D1)(r:a7)(m:OZ):Ag F c r m=(ba F0 r).bind fun a=>(dx F0 c r).bind fun b=>br (!b.1) (some (a.1,false,())) (q3 F (si F) F.n (mw 0 c.1 c.2 r.1 r.2.1 r.2.2.1 r.2.2.2.1.1 r.2.2.2.1.2.1 r.2.2.2.1.2.2.1.1 r.2.2.2.1.2.2.1.2.1 r.2.2.2.1.2.2.1.2.2 r.2.2.2.1.2.2.2 r.2.2.2.2.1 r.2.2.2.2.2.1 r.2.2.2.2.2.2.1.1 r.2.2.2.2.2.2.1.2 r.2.2.2.2.2.2.2 m.1 m.2.1 m.2.2.1.1 m.2.2.1.2.1 m.2.2.1.2.2.1 m.2.2.1.2.2.2 m.2.2.2.1.1 m.2.2.2.1.2.1 m.2.2.2.1.2.2 m.2.2.2.2.1.1 m.2.2.2.2.1.2.1 m.2.2.2.2.1.2.2 m.2.2.2.2.2.1 m.2.2.2.2.2.2.1 m.2.2.2.2.2.2.2.1 m.2.2.2.2.2.2.2.2.1 m.2.2.2.2.2.2.2.2.2 0 0 0 0 0 0 ak ak 0 a.1.1 a.1.2.1 a.1.2.2.1 a.1.2.2.2.1.1 a.1.2.2.2.1.2.1 a.1.2.2.2.1.2.2.1.1 a.1.2.2.2.1.2.2.1.2.1 a.1.2.2.2.1.2.2.2 a.1.2.2.2.2.2.2.1.2 [] [] [] [] [] a.1.2.2.2.1.2.2.1.2.2 a.1.2.2.2.2.1 a.1.2.2.2.2.2.1 a.1.2.2.2.2.2.2.1.1 a.1.2.2.2.2.2.2.2)):=by kernel_rfl
def Qs:Any:=.one ⟨aaA,gB,2,fun x=>Ag F0 x.1 x.2.1 x.2.2.1⟩
def aly:a8 262 Qs:=aq Ae ⟨cl,cU,vf,trivial⟩ func262 Af (by kernel_rfl)
def aaE:=[(64,bY),(67,R3),(262,Qs),(263,wo)]
def Ng (w:lx)(a:Int):Option (lx×Int×lx):=arE Tryz.prog (look aaE) F ad f205 [(hJ,true),(.int .i64,false)] 0 (hJ,true) (.int .i64,false) (hJ,true) (w,a,())
def aoP (w:lx)(a:Int):Ng F w a=ck (bE a (w.2.2.1.length:Int)) ((Wt F0 w.1 (aH w.2.2.1 a b8.aC)).bind fun c=>br (!c.2.1) (some (hJ.aC,3,w)) (ck (bE a (w.2.2.1.length:Int)) ((ba F0 (aH w.2.2.1 a b8.aC)).bind fun b=>(Ag F0 w.1 (b.1.1,b.1.2.1,b.1.2.1,b.1.2.2.2) (1,0,c.1,(0,ak,[]),(0,ak,[]),0,0,0,0,0)).bind fun d=>(q2 F0 w.1 d.1 c.1).bind fun e=>br (!d.2.1) (some (hJ.aC,4,w)) (br (!e.2.1) (some (hJ.aC,4,w)) (ck (bE a (w.2.2.1.length:Int)) (some ((w.1,w.2.1,w.2.2.1.set a.toNat e.1,w.2.2.2),0,hJ.aC))))))):=by kernel_rfl
def TX:Any:=.sel ⟨[(hJ,true),(.int .i64,false)],0,(hJ,true),(.int .i64,false),(hJ,true),fun x=>Ng F0 x.1 x.2.1⟩
def aoQ:a8 205 TX:=ok4 (show yh Tryz.prog TB aaE from⟨cl,ajz,aly,M4,trivial⟩) func205 (by kernel_rfl) (by kernel_rfl) ad (by kernel_rfl) (by kernel_rfl)
def ajI:=[(123,mg),(144,ou)]
def YG (d:D14):=bm ajI F ad f309 pf pf 2 (d,())
def avY (d:D14):YG F d=(iP F0 d).bind fun a=>(nm F0 d).bind fun b=>br b.1 (some ((a.1.1,(d.1.length:Int)),())) (some (a.1,())):=by kernel_rfl
def aaF:Any:=.one ⟨pf,pf,2,fun x=>YG F0 x.1⟩
def avZ:a8 309 aaF:=aq ajI ⟨uQ,yC,trivial⟩ func309 ad (by kernel_rfl)
def WO:=[(64,bY),(74,cn),(124,yQ),(309,aaF)]
abbrev aDM:List (Ty×Bool):=[(b8,true),(K23,false)]
def II (c:D1)(r:a7):=bm WO F ad f264 x4 aDM 2 (c,r,())
def alz (c:D1)(r:a7):II F c r=(ba F0 r).bind fun a=>(dx F0 c r).bind fun b=>br (!b.1) (some (a.1,[],())) ((YG F0 r.2.2.2.2.2.2.1).bind fun d=>(tR F0 r.2.2.2.2.2.2.2).bind fun e=>some ((a.1.1,a.1.2.1,a.1.2.2.1,a.1.2.2.2.1,a.1.2.2.2.2.1,a.1.2.2.2.2.2.1,d.1,[]),e.1,())):=by kernel_rfl
def Qt:Any:=.one ⟨x4,aDM,2,fun x=>II F0 x.1 x.2.1⟩
def alA:a8 264 Qt:=aq WO ⟨cl,cU,PY,avZ,trivial⟩ func264 ad (by kernel_rfl)
def aaG:=[(68,cN)]
abbrev aDN:List (Ty×Bool):=[(.int .i64,false),(K21,true)]
def Nh (a:Int)(m:OZ):=bm aaG F ad f310 aDN [(K38,false)] 2 (a,m,())
def aoR (a:Int)(m:OZ):Nh F a m=br (m.1==2) (br (m.1==4) (some ([],())) (br (m.2.2.2.1.2.1.toList==ak.toList) (some ([],())) ((cX F0 m.2.2.2.1.2.2 a).bind fun b=>br (!b.1) (some ([],())) (some ([(m.2.2.2.1.1,m.2.2.2.1.2.1,a)],()))))) (br (m.1==1) (br (m.1==4) (some ([],())) (br (m.2.2.1.2.2.1.toList==ak.toList) (some ([],())) ((cX F0 m.2.2.1.2.2.2 a).bind fun b=>br (!b.1) (some ([],())) (some ([(m.2.2.1.2.1,m.2.2.1.2.2.1,a)],()))))) (br (m.1==4) (some ([],())) (br (m.2.2.2.2.1.2.1.toList==ak.toList) (some ([],())) ((cX F0 m.2.2.2.2.1.2.2 a).bind fun b=>br (!b.1) (some ([],())) (some ([(m.2.2.2.2.1.1,m.2.2.2.2.1.2.1,a)],())))))):=by kernel_rfl
def TY:Any:=.one ⟨aDN,[(K38,false)],2,fun x=>Nh F0 x.1 x.2.1⟩
def aoS:a8 310 TY:=aq aaG ⟨dL,trivial⟩ func310 ad (by kernel_rfl)
def nG:=[(24,Cu),(68,cN),(139,GA),(299,Gz),(310,TY)]
def nH:Nat->Option Hint:=look [(5,{live:=[1,2,6,7,8],yc:=[(6,2,3,.int .i64),(6,3,65,b8),(6,4,105,ek),(6,5,41,cz)],xl:=[6,7],rl:=[6]}),(9,{live:=[1,2,6,7,8,9,10],xl:=[1,2,6,7,8],rl:=[6]})]
def mx (l:Int)(m:List lv)(i k o p q a:Int)(r:List bF)(b:List Int)(c:List a7)(d:List bS)(e:List bF)(f:List Int)(g:List a7)(h:List bS)(j:List bF):= cR 66 [(1,bb l),(2,ia 136 (pY) m),b1 6,b1 7,(8,bb i),(9,.v (.c (.own 1000000 none))),(10,bb k)] [(6,[ao o,ao p,.own 1000001 none,.own 1000002 none,.own 1000003 none,.own 1000004 none]),(7,[ao q,ao a,.own 1000005 none,.own 1000006 none,.own 1000007 none,.own 1000008 none])] [az 1000000 41 cz r,az 1000001 3 (.int .i64) b,az 1000002 65 b8 c,az 1000003 105 ek d,az 1000004 41 cz e,az 1000005 3 (.int .i64) f,az 1000006 65 b8 g,az 1000007 105 ek h,az 1000008 41 cz j]
def TZ (j:Int)(k:List lv)(i l m o a:Int)(p:List Int)(b:List a7)(c:List bS)(d:List bF)(e:List Int)(f:List a7)(g:List bS)(h:List bF):= cR 66 [(1,bb j),(2,ia 136 (pY) k),b1 6,b1 7,(8,bb i)] [(6,[ao l,ao m,.own 1000000 none,.own 1000001 none,.own 1000002 none,.own 1000003 none]),(7,[ao o,ao a,.own 1000004 none,.own 1000005 none,.own 1000006 none,.own 1000007 none])] [az 1000000 3 (.int .i64) p,az 1000001 65 b8 b,az 1000002 105 ek c,az 1000003 41 cz d,az 1000004 3 (.int .i64) e,az 1000005 65 b8 f,az 1000006 105 ek g,az 1000007 41 cz h]
def sj (a:St):Option U:=fe nG F nH [.r,.r,.r,.l,.r,.b,.i,.r,.l,.b,.r,.r,.b,.i] f265 J n a
def KX:Ex->St->Option U:=Vy Tryz.prog (look nG) F nH [.r,.l,.b,.r,.r,.b] (sub [.r,.r,.r,.l,.r,.b,.i] (eW f265)) (itk Tryz.prog (look nG) F nH (sub [.r,.r,.r,.l,.r,.b,.i] (eW f265)) J n)
def Ah (j:Int)(k:List lv)(i l m o a:Int)(p:List Int)(b:List a7)(c:List bS)(d:List bF)(e:List Int)(f:List a7)(g:List bS)(h:List bF):= cR 66 [(1,bb j),(2,ia 136 (pY) k),b1 6,b1 7,(8,bb i)] [(6,[ao l,ao m,.own 1000000 none,.own 1000001 none,.own 1000002 none,.own 1000003 none]),(7,[ao o,ao a,.own 1000004 none,.own 1000005 none,.own 1000006 none,.own 1000007 none])] [az 1000000 3 (.int .i64) p,az 1000001 65 b8 b,az 1000002 105 ek c,az 1000003 41 cz d,az 1000004 3 (.int .i64) e,az 1000005 65 b8 f,az 1000006 105 ek g,az 1000007 41 cz h]
def T0 (i j k a:Int)(l:List Int)(b:List a7)(c:List bS)(d:List bF)(e:List Int)(f:List a7)(g:List bS)(h:List bF):= cR 66 [b1 6,b1 7] [(6,[ao i,ao j,.own 1000000 none,.own 1000001 none,.own 1000002 none,.own 1000003 none]),(7,[ao k,ao a,.own 1000004 none,.own 1000005 none,.own 1000006 none,.own 1000007 none])] [az 1000000 3 (.int .i64) l,az 1000001 65 b8 b,az 1000002 105 ek c,az 1000003 41 cz d,az 1000004 3 (.int .i64) e,az 1000005 65 b8 f,az 1000006 105 ek g,az 1000007 41 cz h]
def IJ (a:St):Option U:=fe nG F nH [.r,.r,.r,.l,.r,.b,.i] f265 J n a
def Ai:=hH nG F nH [.r,.r,.r,.l,.r,.b] f265 jE 2
def Ni (m:Int)(o:List lv)(i k p q r c:Int)(a:List bF)(d:List Int)(e:List a7)(f:List bS)(g:List bF)(h:List Int)(j:List a7)(l:List bS)(b:List bF):sj F J (n+1) (mx m o i k p q r c a d e f g h j l b)=br (decide (k<(a.length:Int))) (ck (bE k (a.length:Int)) (br (decide ((b.length:Int)<300)) ((Fs F0 b (aH a k cz.aC).1 (aH a k cz.aC).2.1 (aH a k cz.aC).2.2).bind fun s=>br (!s.1) (ck (en F b.length [(aH a k cz.aC)].length 32) (sj F J n (mx m o i (aj (k+1)) p q r c a d e f g h j l (b++[(aH a k cz.aC)])))) (sj F J n (mx m o i (aj (k+1)) p q r c a d e f g h j l b))) (sj F J n (mx m o i (aj (k+1)) p q r c a d e f g h j l b)))) (J (.exit 2) (TZ m o i p q r c d e f g h j l b)):=by kernel_rfl
def Nj (k:Int)(a:List lv)(i l m o b:Int)(p:List Int)(c:List a7)(d:List bS)(e:List bF)(f:List Int)(g:List a7)(h:List bS)(j:List bF):IJ F J (n+1) (Ah k a i l m o b p c d e f g h j)=br (decide (i<(a.length:Int))) (ck (bE i (a.length:Int)) ((Nh F0 k (aH a i pY.aC).2).bind fun q=>sj F (KX F J n) F.n (mx k a i 0 l m o b q.1 p c d e f g h j))) (J (.exit 0) (T0 l m o b p c d e f g h j)):=by kernel_rfl
def ahp (j:Int)(k:List lv)(i l m o a:Int)(p:List Int)(b:List a7)(c:List bS)(d:List bF)(e:List Int)(f:List a7)(g:List bS)(h:List bF):KX F J n (.exit 2) (TZ j k i l m o a p b c d e f g h)=IJ F J n (Ah j k (aj (i+1)) l m o a p b c d e f g h):=by kernel_rfl
def ahq (j k f a:Int)(l:List Int)(g:List a7)(h:List bS)(i:List bF)(b:List Int)(c:List a7)(d:List bS)(e:List bF):Ai F (.exit 0) (T0 j k f a l g h i b c d e)=some (((f,a),b,c,d,e),()):=by kernel_rfl
abbrev aDO:List (Ty×Bool):=[(hJ,true),(.int .i64,false),(K23,false)]
def KY (w:lx)(a:Int)(b:D23):=bm nG F nH f265 aDO jE 2 (w,a,b,())
def asf (w:lx)(b:Int)(c:D23):KY F w b c=(yT F0 w).bind fun a=>(Ft F0 w).bind fun d=>(cX F0 d.1 b).bind fun e=>br (!e.1) (some (a.1,())) (IJ F (Ai F) F.n (Ah b c 0 0 0 a.1.1.1 a.1.1.2 [] [] [] [] a.1.2.1 a.1.2.2.1 a.1.2.2.2.1 a.1.2.2.2.2)):=by kernel_rfl
def WQ:Any:=.one ⟨aDO,jE,2,fun x=>KY F0 x.1 x.2.1 x.2.2.1⟩
def asg:a8 265 WQ:=aq nG ⟨Tp,dL,WN,WM,aoS,trivial⟩ func265 nH (by kernel_rfl)
def WR:=[(204,CF),(264,Qt),(265,WQ)]
def IK (w:lx)(a:Int):Option (lx×Int×lx):=arE Tryz.prog (look WR) F ad f206 [(hJ,true),(.int .i64,false)] 0 (hJ,true) (.int .i64,false) (hJ,true) (w,a,())
def alB (w:lx)(a:Int):IK F w a=ck (bE a (w.2.2.1.length:Int)) ((II F0 w.1 (aH w.2.2.1 a b8.aC)).bind fun b=>br (decide ((aj ((w.2.2.2.1.length:Int)+(b.2.1.length:Int)))>60)) (some (hJ.aC,4,w)) (br (decide ((aj ((w.2.2.2.2.length:Int)+(b.2.1.length:Int)))>300)) (some (hJ.aC,4,w)) (ck (bE a (w.2.2.1.length:Int)) ((KY F0 (w.1,w.2.1,w.2.2.1.set a.toNat b.1,w.2.2.2) a b.2.1).bind fun c=>(Ad F0 c.1 b.2.1).bind fun d=>some (d.1.1,0,hJ.aC))))):=by kernel_rfl
def Qu:Any:=.sel ⟨[(hJ,true),(.int .i64,false)],0,(hJ,true),(.int .i64,false),(hJ,true),fun x=>IK F0 x.1 x.2.1⟩
def alC:a8 206 Qu:=ok4 (show yh Tryz.prog TB WR from⟨TV,alA,asg,trivial⟩) func206 (by kernel_rfl) (by kernel_rfl) ad (by kernel_rfl) (by kernel_rfl)
def aeB:=[(64,bY),(74,cn),(311,pA)]
def Sb (c:D1)(r:a7)(a:Int)(name:ByteArray)(b:Bool):=bm aeB F ad f266 atI gB 2 (c,r,a,name,b,())
def ash (c:D1)(r:a7)(b:Int)(name:ByteArray)(d:Bool):Sb F c r b name d=(dx F0 c r).bind fun e=>br (!e.1) ((ba F0 r).bind fun f=>some (f.1,false,())) ((ba F0 r).bind fun g=>(oV F0 c g.1 b name d).bind fun a=>br (!a.1.2.1) ((ba F0 r).bind fun h=>some (h.1,false,())) (some (a.1.1,true,()))):=by kernel_rfl
def WS:Any:=.one ⟨atI,gB,2,fun x=>Sb F0 x.1 x.2.1 x.2.2.1 x.2.2.2.1 x.2.2.2.2.1⟩
def asi:a8 266 WS:=aq aeB ⟨cl,cU,CC,trivial⟩ func266 ad (by kernel_rfl)
end
end Go.Am.Tryz
