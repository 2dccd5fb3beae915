/- No condition. -/
import Derived.Test.YtnllfndlcahalaaGreatDoorQvWJG4
set_option linter.all false
set_option maxRecDepth 100000
namespace Go.Am.Tryz
open Go.Am Go.Proofs Go.Proofs.Tryz
noncomputable section
variable {U:Type} (F:p5) (J:Ex->St->Option U) (n:Nat)
def UD:=[(115,lI)]
def Ey (a b:D9):=bj UD F ad f251 w3 aO 1 (a,b,())
def ais (a b:D9):Ey F a b=br (a.1==b.1) (br (a.2.1.toList==b.2.1.toList) ((hf F0 a.2.2 b.2.2).bind fun c=>some (c.1,())) (some (false,()))) (some (false,())):=by kernel_rfl
def NZ:Any:=.one ⟨w3,aO,1,fun x=>Ey F0 x.1 x.2.1⟩
def ait:a1 251 NZ:=aq UD ⟨xJ,trivial⟩ func251 ad (by kernel_rfl)
def Xx:=[(55,kD),(250,Lw),(251,NZ)]
def Jf (a b:Po):=bj Xx F ad f192 aD6 aO 1 (a,b,())
def amD (a b:Po):Jf F a b=br (a.1==b.1) (br (a.2.1==b.2.1) ((AI F0 a.2.2.1 b.2.2.1).bind fun c=>br c.1 ((Ey F0 a.2.2.2.1 b.2.2.2.1).bind fun d=>br d.1 ((jy F0 a.2.2.2.2.1 b.2.2.2.2.1).bind fun e=>br e.1 (br (a.2.2.2.2.2.1==b.2.2.2.2.2.1) (some ((a.2.2.2.2.2.2.1==b.2.2.2.2.2.2.1)&&((a.2.2.2.2.2.2.2.1==b.2.2.2.2.2.2.2.1)&&((a.2.2.2.2.2.2.2.2.1==b.2.2.2.2.2.2.2.2.1)&&((a.2.2.2.2.2.2.2.2.2==b.2.2.2.2.2.2.2.2.2)&&true))),())) (some (false,()))) (some (false,()))) (some (false,()))) (some (false,()))) (some (false,()))) (some (false,())):=by kernel_rfl
def Q2:Any:=.one ⟨aD6,aO,1,fun x=>Jf F0 x.1 x.2.1⟩
def amE:a1 192 Q2:=aq Xx ⟨q8,afv,ait,trivial⟩ func192 ad (by kernel_rfl)
def ey:Nat->Option Hint:=look [(2,{live:=[0,1,5],rl:=[4]})]
def dG (s:ByteArray)(c i:Int):= bP 19 [(0,qqs s),(1,.v (.c (.int .u8 c))),(5,a8 i)]
def lQ (a:Int):= bP 19 [(4,a8 a)]
def AJ   := bP 19 []
def ez (a:St):Option U:=ff aA F ey [.r,.l,.r,.b,.i] f244 J n a
def ga:=hQ aA F ey [.r,.l,.r,.b] f244 cE 1
def jZ (s:ByteArray)(c i:Int):ez F J (n+1) (dG s c i)=br (decide (i>=0)) (ck (bG i (s.size:Int)) (br ((jP s i)==c) (J .ret (lQ i)) (ez F J n (dG s c (aj (i-1)))))) (J (.exit 0) (AJ)):=by kernel_rfl
def AK (a:Int):ga F .ret (lQ a)=some (a,()):=by kernel_rfl
def iU (s:ByteArray)(c:Int):=bj aA F ey f244 aaD cE 1 (s,c,())
def CT (s:ByteArray)(c:Int):iU F s c=ez F (ga F) F.n (dG s c (aj ((s.size:Int)-1))):=by kernel_rfl
def lR:Any:=.one ⟨aaD,cE,1,fun x=>iU F0 x.1 x.2.1⟩
def CU:a1 244 lR:=aq aA trivial func244 ey (by kernel_rfl)
def xV:=[(244,lR)]
def pf (s:ByteArray)(c:Int):=bj xV F ad f183 aaD cE 1 (s,c,())
def Pt (s:ByteArray)(c:Int):pf F s c=(iU F0 s c).bind fun a=>some (a.1,()):=by kernel_rfl
def ti:Any:=.one ⟨aaD,cE,1,fun x=>pf F0 x.1 x.2.1⟩
def Pu:a1 183 ti:=aq xV ⟨CU,trivial⟩ func183 ad (by kernel_rfl)
def akE:=[(60,eS),(183,ti)]
def sy (s:ByteArray):=bj akE F ad f108 dC dC 1 (s,())
def aw0 (s:ByteArray):sy F s=(e7 F0 s).bind fun b=>br (!b.1) (some (ak,())) (br (s.toList==ak.toList) (some (ak,())) ((pf F0 s 47).bind fun a=>ck (Tx 0 a.1 (s.size:Int)) (some (s.extract (0:Int).toNat a.1.toNat,())))):=by kernel_rfl
def Ez:Any:=.one ⟨dC,dC,1,fun x=>sy F0 x.1⟩
def SJ:a1 108 Ez:=aq akE ⟨hl,Pu,trivial⟩ func108 ad (by kernel_rfl)
def Xy:=[(60,eS),(107,jA),(108,Ez)]
def nO (c:D1)(b:D15):=bj Xy F ad f48 aD7 aO 1 (c,b,())
def amF (c:D1)(b:D15):nO F c b=(mD F0 c b.2).bind fun a=>br a.1 (br (!(b.1.toList==ak.toList)) ((e7 F0 b.1).bind fun d=>br d.1 ((sy F0 b.1).bind fun e=>some (e.1.toList==b.2.2.1.toList,())) (some (false,()))) (some (false,()))) (some (false,())):=by kernel_rfl
def mF:Any:=.one ⟨aD7,aO,1,fun x=>nO F0 x.1 x.2.1⟩
def vx:a1 48 mF:=aq Xy ⟨hl,nM,SJ,trivial⟩ func48 ad (by kernel_rfl)
def afw:=[(30,cM),(41,bA),(48,mF),(104,jz),(107,jA),(190,oG),(192,Q2),(193,Xw)]
def gm (c:D1)(m:Po):=bj afw F ad f119 akk aO 1 (c,m,())
def atj (c:D1)(m:Po):gm F c m=(eu F0 c).bind fun a=>br (!a.1) (some (false,())) ((SH F0 m).bind fun b=>(Jf F0 m b.1).bind fun d=>br (!d.1) (some (false,())) (br (m.1==1) ((nO F0 c m.2.2.1).bind fun e=>some (e.1,())) (br (m.1==2) ((rf F0 c m.2.2.2.1).bind fun f=>br f.1 (some (!(m.2.2.2.1.2.1.toList==ak.toList),())) (some (false,()))) (br (m.1==3) ((aZ F0 m.2.1 1 60).bind fun g=>br g.1 ((mD F0 c m.2.2.2.2.1).bind fun h=>br h.1 ((aZ F0 m.2.2.2.2.2.1 0 (aj (c.1-1))).bind fun i=>some (i.1,())) (some (false,()))) (some (false,()))) (br (m.1==4) ((o4 F0 m.2.2.2.2.2.2).bind fun j=>some (j.1,())) (some (false,()))))))):=by kernel_rfl
def mG:Any:=.one ⟨akk,aO,1,fun x=>gm F0 x.1 x.2.1⟩
def ua:a1 119 mG:=aq afw ⟨dP,bW,vx,nL,nM,AD,amE,ati,trivial⟩ func119 ad (by kernel_rfl)
def Jg:=[(30,cM),(41,bA),(50,kE),(116,GX),(117,CS),(118,oH),(119,mG)]
def Jh:Nat->Option Hint:=look [(4,{live:=[2,3,64,65,66],rl:=[4]})]
def AL (q:List lD)(s t c a r b d e f g:Int)(h:ByteArray)(i:List Int)(j:ByteArray)(k:List D4)(l:List D9)(m:List Int)(o:Int)(p:List lD):= cQ 92 [b0 2,b0 3,(64,hV 136 (p2) q),(65,a8 s),(66,a8 t)] [(2,[ao c,ao a]),(3,[ao r,ao b,ao d,ao e,ao f,ao g,.str h,.ro false 3 (.int .i64) i,.str j,.ro false 52 (K4) k,.ro false 50 (K9) l,.ro false 5 (.int .u8) m,ao o,.ro false 136 (p2) p])] []
def AM (a:Bool):= bP 92 [(4,Ir a)]
def UE   := bP 92 []
def Ji (a:St):Option U:=ff Jg F Jh [.r,.r,.l,.r,.b,.i] f58 J n a
def AN:=hQ Jg F Jh [.r,.r,.l,.r,.b] f58 aO 1
def N1 (b:List lD)(e a c d r f g h i j:Int)(k:ByteArray)(l:List Int)(m:ByteArray)(o:List D4)(p:List D9)(q:List Int)(s:Int)(t:List lD):Ji F J (n+1) (AL b e a c d r f g h i j k l m o p q s t)=br (decide (a<e)) (ck (bG a (b.length:Int)) ((gm F0 (c,d) (aI b a p2.az).2).bind fun u=>br (!u.1) (J .ret (AM false)) ((aZ F0 (aI b a p2.az).1 0 (aj (c-1))).bind fun v=>br (!v.1) (J .ret (AM false)) (br ((aI b a p2.az).1==r) (J .ret (AM false)) (Ji F J n (AL b e (aj (a+1)) c d r f g h i j k l m o p q s t)))))) (J (.exit 0) (UE)):=by kernel_rfl
def amG (a:Bool):AN F .ret (AM a)=some (a,()):=by kernel_rfl
def aiu: AN F (.exit 0) (UE)=some (true,()):=by kernel_rfl
def cq (c:D1)(r:a7):=bj Jg F Jh f58 x8 aO 1 (c,r,())
def atk (c:D1)(r:a7):cq F c r=(eu F0 c).bind fun a=>br (!a.1) (some (false,())) ((aZ F0 r.1 0 (aj (c.1-1))).bind fun b=>br (!b.1) (some (false,())) ((aZ F0 r.2.1 1 60).bind fun d=>br (!d.1) (some (false,())) ((aZ F0 r.2.2.1 0 60).bind fun e=>br (!e.1) (some (false,())) ((k3 F0 c r.2.2.2.1).bind fun f=>br (!f.1) (some (false,())) ((xU F0 r.2.2.2.2.1).bind fun g=>br (!g.1) (some (false,())) ((k4 F0 c r.2.2.2.2.2.1).bind fun h=>br (!h.1) (some (false,())) ((ri F0 r.2.2.2.2.2.2.1).bind fun i=>br (!i.1) (some (false,())) (br (decide ((r.2.2.2.2.2.2.2.length:Int)>30)) (some (false,())) (Ji F (AN F) F.n (AL r.2.2.2.2.2.2.2 (r.2.2.2.2.2.2.2.length:Int) 0 c.1 c.2 r.1 r.2.1 r.2.2.1 r.2.2.2.1.1 r.2.2.2.1.2.1 r.2.2.2.1.2.2.1.1 r.2.2.2.1.2.2.1.2.1 r.2.2.2.1.2.2.1.2.2 r.2.2.2.1.2.2.2 r.2.2.2.2.1 r.2.2.2.2.2.1 r.2.2.2.2.2.2.1.1 r.2.2.2.2.2.2.1.2 r.2.2.2.2.2.2.2)))))))))):=by kernel_rfl
def b2:Any:=.one ⟨x8,aO,1,fun x=>cq F0 x.1 x.2.1⟩
def cu:a1 58 b2:=aq Jg ⟨dP,bW,re,Xv,UC,AH,ua,trivial⟩ func58 Jh (by kernel_rfl)
def abA:=[(58,b2)]
def N2 (c:D1)(a:Int):=bj abA F ad f31 akl gH 2 (c,a,())
def ap6 (c:D1)(a:Int):N2 F c a=(cq F0 c (a,1,0,(0,0,(0,ak,[]),ak),[],[],([],0),[])).bind fun b=>br (!b.1) (some ((0,0,0,(0,0,(0,ak,[]),ak),[],[],([],0),[]),false,())) (some ((a,1,0,(0,0,(0,ak,[]),ak),[],[],([],0),[]),true,())):=by kernel_rfl
def UF:Any:=.one ⟨akl,gH,2,fun x=>N2 F0 x.1 x.2.1⟩
def ap7:a1 31 UF:=aq abA ⟨cu,trivial⟩ func31 ad (by kernel_rfl)
def EA:=[(41,bA)]
def EB:Nat->Option Hint:=look [(4,{live:=[0,3],mat:=[(3,5,.int .u8)],xl:=[0,3],rl:=[2]})]
def oI (a:Int)(b:List Int):= cQ 23 [(0,a8 a),(3,.v (.c (.own 1000000 none)))] [] [ay 1000000 5 (.int .u8) b]
def Q3 (a:Int)(b:List Int):= cQ 23 [(0,a8 a),(3,.v (.c (.own 1000000 none)))] [] [ay 1000000 5 (.int .u8) b]
def ub (a:St):Option U:=ff EA F EB [.r,.r,.r,.l,.b,.i] f170 J n a
def vy:=hQ EA F EB [.r,.r,.r,.l,.b] f170 lF 2
def nP (a:Int)(b:List Int):ub F J (n+1) (oI a b)=br (decide (a>=128)) (ck (ep F b.length [IntKind.wrap .u8 (aj ((Int.tmod a 128)+128))].length 1) (ub F J n (oI (aj (Int.tdiv a 128)) (b++[IntKind.wrap .u8 (aj ((Int.tmod a 128)+128))])))) (J (.exit 0) (Q3 a b)):=by kernel_rfl
def pM (a:Int)(b:List Int):vy F (.exit 0) (Q3 a b)=ck (ep F b.length [IntKind.wrap .u8 (a)].length 1) (some (b++[IntKind.wrap .u8 (a)],())):=by kernel_rfl
def e8 (a:Int):=bj EA F EB f170 cE lF 2 (a,())
def Xz (a:Int):e8 F a=(aZ F0 a 0 2147483647).bind fun b=>br (!b.1) (some ([],())) (ub F (vy F) F.n (oI a [])):=by kernel_rfl
def iu:Any:=.one ⟨cE,lF,2,fun x=>e8 F0 x.1⟩
def mH:a1 170 iu:=aq EA ⟨bW,trivial⟩ func170 EB (by kernel_rfl)
def EC:=[(41,bA),(170,iu)]
def ED:Nat->Option Hint:=look [(5,{live:=[0,1,7,8],rl:=[4,5,6]})]
def vz (b:List Int)(a c i:Int):= bP 55 [(0,hV 5 (.int .u8) b),(1,a8 a),(7,a8 c),(8,a8 i)]
def GY (a b:Int)(c:Bool):= bP 55 [(4,a8 a),(5,a8 b),(6,Ir c)]
def CW   := bP 55 []
def EE (a:St):Option U:=ff EC F ED [.r,.r,.r,.l,.r,.b,.i] f111 J n a
def vA:=hQ EC F ED [.r,.r,.r,.l,.r,.b] f111 auz 1
def Lx (b:List Int)(a c i:Int):EE F J (n+1) (vz b a c i)=br (decide (i<5)) (br (decide ((aj (a+i))<(b.length:Int))) (ck (bG (aj (a+i)) (b.length:Int)) (ck (decide (0<=(aj (7*i)))) (br (decide ((aj (aI b (aj (a+i)) 0))<128)) ((e8 F0 (aj (c+(aj ((Int.tmod (aj (aI b (aj (a+i)) 0)) 128)*2 ^ (min (aj (7*i)).toNat 64)))))).bind fun d=>br ((d.1.length:Int) != (aj (i+1))) (J .ret (GY 0 0 false)) (J .ret (GY (aj (c+(aj ((Int.tmod (aj (aI b (aj (a+i)) 0)) 128)*2 ^ (min (aj (7*i)).toNat 64))))) (aj ((aj (a+i))+1)) true))) (EE F J n (vz b a (aj (c+(aj ((Int.tmod (aj (aI b (aj (a+i)) 0)) 128)*2 ^ (min (aj (7*i)).toNat 64))))) (aj (i+1))))))) (J (.exit 0) (CW))) (J (.exit 0) (CW)):=by kernel_rfl
def Q4 (a b:Int)(c:Bool):vA F .ret (GY a b c)=some (a,b,c,()):=by kernel_rfl
def N3: vA F (.exit 0) (CW)=some (0,0,false,()):=by kernel_rfl
def x0 (b:List Int)(a:Int):=bj EC F ED f111 WK auz 1 (b,a,())
def ap8 (b:List Int)(a:Int):x0 F b a=(aZ F0 a 0 (aj ((b.length:Int)-1))).bind fun c=>br (!c.1) (some (0,0,false,())) (EE F (vA F) F.n (vz b a 0 0)):=by kernel_rfl
def GZ:Any:=.one ⟨WK,auz,1,fun x=>x0 F0 x.1 x.2.1⟩
def XA:a1 111 GZ:=aq EC ⟨bW,mH,trivial⟩ func111 ED (by kernel_rfl)
def N4:=[(111,GZ)]
def bH (r:D32):=Fl N4 F ad f112 hX 0 .cur cE hX 1 (r,())
def ac7 (r:D32):bH F r=(x0 F0 r.1 r.2.1).bind fun a=>br r.2.2 (some ((0,()),(r.1,r.2.1,true),())) (br (!a.2.2.1) (some ((0,()),(r.1,r.2.1,true),())) (some ((a.1,()),(r.1,a.2.1,r.2.2),()))):=by kernel_rfl
def iF:Any:=.two ⟨hX,0,.cur,cE,1,hX,fun x=>bH F0 x.1⟩
def nQ:a1 112 iF:=Wt N4 ⟨XA,trivial⟩ func112 ad (by kernel_rfl)
def XB:=[(111,GZ)]
def nR (b:List Int)(a:Int):=bj XB F ad f53 WK aD8 1 (b,a,())
def amH (b:List Int)(c:Int):nR F b c=(x0 F0 b c).bind fun a=>br (!a.2.2.1) (some (ak,0,false,())) (br (decide (a.1>(aj ((b.length:Int)-a.2.1)))) (some (ak,0,false,())) (ck (Tx a.2.1 (aj (a.2.1+a.1)) (b.length:Int)) (some (strOf ((b.take (aj (a.2.1+a.1)).toNat).drop a.2.1.toNat),aj (a.2.1+a.1),true,())))):=by kernel_rfl
def CX:Any:=.one ⟨WK,aD8,1,fun x=>nR F0 x.1 x.2.1⟩
def UG:a1 53 CX:=aq XB ⟨XA,trivial⟩ func53 ad (by kernel_rfl)
def Ly:=[(53,CX)]
def gn (r:D32):=Fl Ly F ad f114 hX 0 .cur dC hX 1 (r,())
def ZZ (r:D32):gn F r=(nR F0 r.1 r.2.1).bind fun a=>br r.2.2 (some ((ak,()),(r.1,r.2.1,true),())) (br (!a.2.2.1) (some ((ak,()),(r.1,r.2.1,true),())) (some ((a.1,()),(r.1,a.2.1,r.2.2),()))):=by kernel_rfl
def k5:Any:=.two ⟨hX,0,.cur,dC,1,hX,fun x=>gn F0 x.1⟩
def tC:a1 114 k5:=Wt Ly ⟨UG,trivial⟩ func114 ad (by kernel_rfl)
def nS:=[(112,iF)]
def nT:Nat->Option Hint:=look [(4,{live:=[0,3,4,5],mat:=[(3,3,.int .i64)],xl:=[3],rl:=[2]})]
def k6 (d i:Int)(a:List Int)(b:Int)(c:Bool)(e:List Int):St:={nt:=26,tm:=[(0,.v (.c (.ptr 4000000 0))),(3,.v (.c (.own 1000000 none))),(4,a8 d),(5,a8 i)],bx:=[(4000000,[.ro true 5 (.int .u8) a,ao b,.bool c])],bl:=[ay 1000000 3 (.int .i64) e],sp:=.v (.c (.ptr 4000000 0))}
def kd (a:List Int)(b:Int)(c:Bool)(d:List Int):St:={nt:=26,tm:=[(3,.v (.c (.own 1000000 none)))],bx:=[(4000000,[.ro true 5 (.int .u8) a,ao b,.bool c])],bl:=[ay 1000000 3 (.int .i64) d],sp:=.v (.c (.ptr 4000000 0))}
def nU (a:St):Option U:=ff nS F nT [.r,.r,.r,.l,.r,.b,.i] f120 J n a
def rj:=azd nS F nT [.r,.r,.r,.l,.r,.b] f120 .cur kr hX 2
def x1 (f i:Int)(d:List Int)(e:Int)(a:Bool)(c:List Int):nU F J (n+1) (k6 f i d e a c)=br (decide (i<f)) (br (!a) ((bH F0 (d,e,a)).bind fun b=>ck (ep F c.length [b.1.1].length 8) (nU F J n (k6 f (aj (i+1)) b.2.1.1 b.2.1.2.1 b.2.1.2.2 (c++[b.1.1])))) (J (.exit 0) (kd d e a c))) (J (.exit 0) (kd d e a c)):=by kernel_rfl
def SK (a:List Int)(b:Int)(c:Bool)(d:List Int):rj F (.exit 0) (kd a b c d)=some ((d,()),(a,b,c),()):=by kernel_rfl
def mI (r:D32):=Fl nS F nT f120 hX 0 .cur kr hX 2 (r,())
def Z0 (r:D32):mI F r=(bH F0 r).bind fun a=>nU F (rj F) F.n (k6 a.1.1 0 a.2.1.1 a.2.1.2.1 a.2.1.2.2 []):=by kernel_rfl
def rk:Any:=.two ⟨hX,0,.cur,kr,2,hX,fun x=>mI F0 x.1⟩
def HM:a1 120 rk:=Wt nS ⟨nQ,trivial⟩ func120 nT (by kernel_rfl)
def Q5:=[(112,iF),(114,k5),(120,rk)]
def mJ (r:D32):=Fl Q5 F ad f113 hX 0 .cur gB hX 2 (r,())
def afx (r:D32):mJ F r=(bH F0 r).bind fun a=>(gn F0 a.2.1).bind fun b=>(mI F0 b.2.1).bind fun c=>some (((a.1.1,b.1.1,c.1.1),()),c.2.1,()):=by kernel_rfl
def wA:Any:=.two ⟨hX,0,.cur,gB,2,hX,fun x=>mJ F0 x.1⟩
def N5:a1 113 wA:=Wt Q5 ⟨nQ,tC,HM,trivial⟩ func113 ad (by kernel_rfl)
def afy:=[(112,iF),(113,wA),(114,k5),(119,mG),(120,rk)]
def CY (c:D1)(b:List Int):=bj afy F ad f59 TP aD9 2 (c,b,())
def atl (c:D1)(b:List Int):CY F c b=(bH F0 (b,0,false)).bind fun a=>br (a.1.1==1) ((gn F0 a.2.1).bind fun i=>(mJ F0 i.2.1).bind fun e=>br e.2.1.2.2 (some ((0,0,(ak,0,ak,[]),(0,ak,[]),(0,ak,[]),0,0,0,0,0),false,())) (br (e.2.1.2.1 != (b.length:Int)) (some ((0,0,(ak,0,ak,[]),(0,ak,[]),(0,ak,[]),0,0,0,0,0),false,())) ((gm F0 c (a.1.1,0,(i.1.1,e.1.1),(0,ak,[]),(0,ak,[]),0,0,0,0,0)).bind fun d=>br (!d.1) (some ((0,0,(ak,0,ak,[]),(0,ak,[]),(0,ak,[]),0,0,0,0,0),false,())) (some ((a.1.1,0,(i.1.1,e.1.1),(0,ak,[]),(0,ak,[]),0,0,0,0,0),true,()))))) (br (a.1.1==2) ((bH F0 a.2.1).bind fun j=>(gn F0 j.2.1).bind fun k=>(mI F0 k.2.1).bind fun f=>br f.2.1.2.2 (some ((0,0,(ak,0,ak,[]),(0,ak,[]),(0,ak,[]),0,0,0,0,0),false,())) (br (f.2.1.2.1 != (b.length:Int)) (some ((0,0,(ak,0,ak,[]),(0,ak,[]),(0,ak,[]),0,0,0,0,0),false,())) ((gm F0 c (a.1.1,0,(ak,0,ak,[]),(j.1.1,k.1.1,f.1.1),(0,ak,[]),0,0,0,0,0)).bind fun d=>br (!d.1) (some ((0,0,(ak,0,ak,[]),(0,ak,[]),(0,ak,[]),0,0,0,0,0),false,())) (some ((a.1.1,0,(ak,0,ak,[]),(j.1.1,k.1.1,f.1.1),(0,ak,[]),0,0,0,0,0),true,()))))) (br (a.1.1==3) ((bH F0 a.2.1).bind fun l=>(bH F0 l.2.1).bind fun m=>(mJ F0 m.2.1).bind fun g=>br g.2.1.2.2 (some ((0,0,(ak,0,ak,[]),(0,ak,[]),(0,ak,[]),0,0,0,0,0),false,())) (br (g.2.1.2.1 != (b.length:Int)) (some ((0,0,(ak,0,ak,[]),(0,ak,[]),(0,ak,[]),0,0,0,0,0),false,())) ((gm F0 c (a.1.1,l.1.1,(ak,0,ak,[]),(0,ak,[]),g.1.1,m.1.1,0,0,0,0)).bind fun d=>br (!d.1) (some ((0,0,(ak,0,ak,[]),(0,ak,[]),(0,ak,[]),0,0,0,0,0),false,())) (some ((a.1.1,l.1.1,(ak,0,ak,[]),(0,ak,[]),g.1.1,m.1.1,0,0,0,0),true,()))))) (br (a.1.1==4) ((bH F0 a.2.1).bind fun o=>(bH F0 o.2.1).bind fun p=>(bH F0 p.2.1).bind fun q=>(bH F0 q.2.1).bind fun h=>br h.2.1.2.2 (some ((0,0,(ak,0,ak,[]),(0,ak,[]),(0,ak,[]),0,0,0,0,0),false,())) (br (h.2.1.2.1 != (b.length:Int)) (some ((0,0,(ak,0,ak,[]),(0,ak,[]),(0,ak,[]),0,0,0,0,0),false,())) ((gm F0 c (a.1.1,0,(ak,0,ak,[]),(0,ak,[]),(0,ak,[]),0,o.1.1,p.1.1,q.1.1,h.1.1)).bind fun d=>br (!d.1) (some ((0,0,(ak,0,ak,[]),(0,ak,[]),(0,ak,[]),0,0,0,0,0),false,())) (some ((a.1.1,0,(ak,0,ak,[]),(0,ak,[]),(0,ak,[]),0,o.1.1,p.1.1,q.1.1,h.1.1),true,()))))) (br a.2.1.2.2 (some ((0,0,(ak,0,ak,[]),(0,ak,[]),(0,ak,[]),0,0,0,0,0),false,())) (br (a.2.1.2.1 != (b.length:Int)) (some ((0,0,(ak,0,ak,[]),(0,ak,[]),(0,ak,[]),0,0,0,0,0),false,())) ((gm F0 c (a.1.1,0,(ak,0,ak,[]),(0,ak,[]),(0,ak,[]),0,0,0,0,0)).bind fun d=>br (!d.1) (some ((0,0,(ak,0,ak,[]),(0,ak,[]),(0,ak,[]),0,0,0,0,0),false,())) (some ((a.1.1,0,(ak,0,ak,[]),(0,ak,[]),(0,ak,[]),0,0,0,0,0),true,())))))))):=by kernel_rfl
def AO:Any:=.one ⟨TP,aD9,2,fun x=>CY F0 x.1 x.2.1⟩
def Pv:a1 59 AO:=aq afy ⟨nQ,N5,tC,ua,HM,trivial⟩ func59 ad (by kernel_rfl)
def ho:=[(30,cM),(41,bA),(49,eb),(56,AB),(57,GU),(58,b2),(59,AO),(60,eS)]
def hz:Nat->Option Hint:=look [(5,{live:=[1,3,54,55,56],xl:=[1,3],rl:=[2]}),(11,{live:=[1,3,73,74,75],xl:=[1,3],rl:=[2]}),(18,{live:=[3,99,100,101],rl:=[2]})]
def mK (b:List bE)(d e c a:Int):= cQ 127 [b0 3,(99,hV 41 (cl) b),(100,a8 d),(101,a8 e)] [(3,[ao c,ao a])] []
def sz (a:Bool):= bP 127 [(2,Ir a)]
def N6   := bP 127 []
def rm (a:St):Option U:=ff ho F hz [.r,.r,.r,.r,.r,.l,.r,.b,.i] f20 J n a
def mL:=hQ ho F hz [.r,.r,.r,.r,.r,.l,.r,.b] f20 aO 1
def mM (h:List bS)(i j w a:Int)(b:List Int)(d:List a7)(e:List bS)(f:List bE)(c g:Int):= cQ 127 [b0 1,b0 3,(73,hV 105 (eo) h),(74,a8 i),(75,a8 j)] [(1,[ao w,ao a,.ro false 3 (.int .i64) b,.ro false 65 (ca) d,.ro false 105 (eo) e,.ro false 41 (cl) f]),(3,[ao c,ao g])] []
def CZ (a:Bool):= bP 127 [(2,Ir a)]
def N7 (w a:Int)(b:List Int)(d:List a7)(e:List bS)(f:List bE)(c g:Int):= cQ 127 [b0 1,b0 3] [(1,[ao w,ao a,.ro false 3 (.int .i64) b,.ro false 65 (ca) d,.ro false 105 (eo) e,.ro false 41 (cl) f]),(3,[ao c,ao g])] []
def rn (a:St):Option U:=ff ho F hz [.r,.r,.r,.r,.l,.r,.b,.i] f20 J n a
def mN:=hQ ho F hz [.r,.r,.r,.r,.l,.r,.b] f20 aO 1
def mO (h:List a7)(i j w a:Int)(b:List Int)(d:List a7)(e:List bS)(f:List bE)(c g:Int):= cQ 127 [b0 1,b0 3,(54,hV 65 (ca) h),(55,a8 i),(56,a8 j)] [(1,[ao w,ao a,.ro false 3 (.int .i64) b,.ro false 65 (ca) d,.ro false 105 (eo) e,.ro false 41 (cl) f]),(3,[ao c,ao g])] []
def C0 (a:Bool):= bP 127 [(2,Ir a)]
def N8 (w a:Int)(b:List Int)(d:List a7)(e:List bS)(f:List bE)(c g:Int):= cQ 127 [b0 1,b0 3] [(1,[ao w,ao a,.ro false 3 (.int .i64) b,.ro false 65 (ca) d,.ro false 105 (eo) e,.ro false 41 (cl) f]),(3,[ao c,ao g])] []
def rq (a:St):Option U:=ff ho F hz [.r,.r,.r,.l,.r,.b,.i] f20 J n a
def mP:=hQ ho F hz [.r,.r,.r,.l,.r,.b] f20 aO 1
def HN (b:List bE)(d a c e:Int):rm F J (n+1) (mK b d a c e)=br (decide (a<d)) (ck (bG a (b.length:Int)) ((aZ F0 (aI b a cl.az).2.2 0 (aj (c-1))).bind fun f=>br (!f.1) (J .ret (sz false)) ((e7 F0 (aI b a cl.az).2.1).bind fun g=>br (!g.1) (J .ret (sz false)) ((ew F0 (aI b a cl.az).2.1).bind fun h=>br (h.1 != (aI b a cl.az).1) (J .ret (sz false)) (rm F J n (mK b d (aj (a+1)) c e)))))) (J (.exit 4) (N6)):=by kernel_rfl
def HO (b:List bS)(j a w e:Int)(f:List Int)(g:List a7)(h:List bS)(i:List bE)(c d:Int):rn F J (n+1) (mM b j a w e f g h i c d)=br (decide (a<j)) (ck (bG a (b.length:Int)) ((CY F0 (c,d) (aI b a (0,[])).2).bind fun k=>br (!k.2.1) (J .ret (CZ false)) ((aZ F0 (aI b a (0,[])).1 0 (aj (c-1))).bind fun l=>br (!l.1) (J .ret (CZ false)) (rn F J n (mM b j (aj (a+1)) w e f g h i c d))))) (J (.exit 2) (N7 w e f g h i c d)):=by kernel_rfl
def HP (b:List a7)(j a w e:Int)(f:List Int)(g:List a7)(h:List bS)(i:List bE)(c d:Int):rq F J (n+1) (mO b j a w e f g h i c d)=br (decide (a<j)) (ck (bG a (b.length:Int)) ((cq F0 (c,d) (aI b a ca.az)).bind fun k=>br (!k.1) (J .ret (C0 false)) (br ((aI b a ca.az).1 != a) (J .ret (C0 false)) (rq F J n (mO b j (aj (a+1)) w e f g h i c d))))) (J (.exit 0) (N8 w e f g h i c d)):=by kernel_rfl
def afz (a:Bool):mL F .ret (sz a)=some (a,()):=by kernel_rfl
def ac8: mL F (.exit 4) (N6)=some (true,()):=by kernel_rfl
def afA (a:Bool):mN F .ret (CZ a)=some (a,()):=by kernel_rfl
def ac9 (w d:Int)(e:List Int)(f:List a7)(g:List bS)(a:List bE)(c b:Int):mN F (.exit 2) (N7 w d e f g a c b)=rm F (mL F) F.n (mK a (a.length:Int) 0 c b):=by kernel_rfl
def afB (a:Bool):mP F .ret (C0 a)=some (a,()):=by kernel_rfl
def ada (w b:Int)(d:List Int)(e:List a7)(a:List bS)(f:List bE)(c g:Int):mP F (.exit 0) (N8 w b d e a f c g)=rn F (mN F) F.n (mM a (a.length:Int) 0 w b d e a f c g):=by kernel_rfl
def b4 (w:lE):=bj ho F hz f20 dy aO 1 (w,())
def amI (w:lE):b4 F w=(eu F0 w.1).bind fun a=>br (!a.1) (some (false,())) ((wz F0 w.1.1 w.2.1).bind fun b=>br (!b.1) (some (false,())) ((FI F0 w.1).bind fun c=>br (decide ((w.2.1.length:Int)>c.1)) (some (false,())) (br ((w.2.2.1.length:Int) != w.1.1) (some (false,())) (br (decide ((w.2.2.2.1.length:Int)>60)) (some (false,())) (br (decide ((w.2.2.2.2.length:Int)>300)) (some (false,())) (rq F (mP F) F.n (mO w.2.2.1 (w.2.2.1.length:Int) 0 w.1.1 w.1.2 w.2.1 w.2.2.1 w.2.2.2.1 w.2.2.2.2 w.1.1 w.1.2))))))):=by kernel_rfl
def dm:Any:=.one ⟨dy,aO,1,fun x=>b4 F0 x.1⟩
def eT:a1 20 dm:=aq ho ⟨dP,bW,fA,Ps,Xt,cu,Pv,hl,trivial⟩ func20 hz (by kernel_rfl)
def vB:=[(20,dm),(29,fz),(30,cM),(31,UF)]
def vC:Nat->Option Hint:=look [(3,{live:=[2,4,6,7],yh:=[(4,2,3,.int .i64),(4,3,65,ca),(4,4,105,eo),(4,5,41,cl),(6,3,65,ca),(6,4,105,eo),(6,5,41,cl)],xl:=[4,6],rl:=[4,5]})]
def pN (i c a l m w b:Int)(o:List Int)(d:List a7)(e:List bS)(f:List bE)(g:List Int)(h:List a7)(j:List bS)(k:List bE):= cQ 41 [b0 2,b0 4,b0 6,(7,a8 i)] [(2,[ao c,ao a]),(4,[ao l,ao m,.own 1000000 none,.own 1000001 none,.own 1000002 none,.own 1000003 none]),(6,[ao w,ao b,.own 1000004 none,.own 1000005 none,.own 1000006 none,.own 1000007 none])] [ay 1000000 3 (.int .i64) o,ay 1000001 65 ca d,ay 1000002 105 eo e,ay 1000003 41 cl f,ay 1000004 3 (.int .i64) g,ay 1000005 65 ca h,ay 1000006 105 eo j,ay 1000007 41 cl k]
def wB (i j w a:Int)(k:List Int)(b:List a7)(c:List bS)(d:List bE)(e:List Int)(f:List a7)(g:List bS)(h:List bE):= cQ 41 [b0 4,b0 6] [(4,[ao i,ao j,.own 1000000 none,.own 1000001 none,.own 1000002 none,.own 1000003 none]),(6,[ao w,ao a,.own 1000004 none,.own 1000005 none,.own 1000006 none,.own 1000007 none])] [ay 1000000 3 (.int .i64) k,ay 1000001 65 ca b,ay 1000002 105 eo c,ay 1000003 41 cl d,ay 1000004 3 (.int .i64) e,ay 1000005 65 ca f,ay 1000006 105 eo g,ay 1000007 41 cl h]
def vD (a:St):Option U:=ff vB F vC [.r,.r,.l,.r,.b,.i] f8 J n a
def AP:=hQ vB F vC [.r,.r,.l,.r,.b] f8 akm 2
def FO (i c b l m w d:Int)(o:List Int)(e:List a7)(f:List bS)(g:List bE)(h:List Int)(a:List a7)(j:List bS)(k:List bE):vD F J (n+1) (pN i c b l m w d o e f g h a j k)=(eu F0 (c,b)).bind fun q=>br q.1 (br (decide (i<c)) ((N2 F0 (c,b) i).bind fun p=>ck (ep F a.length [p.1].length 208) (vD F J n (pN (aj (i+1)) c b l m w d o e f g h (a++[p.1]) j k))) (J (.exit 0) (wB l m w d o e f g h a j k))) (J (.exit 0) (wB l m w d o e f g h a j k)):=by kernel_rfl
def Z1 (j k w a:Int)(l:List Int)(f:List a7)(g:List bS)(h:List bE)(b:List Int)(c:List a7)(d:List bS)(e:List bE):AP F (.exit 0) (wB j k w a l f g h b c d e)=(b4 F0 ((w,a),b,c,d,e)).bind fun i=>br (!i.1) (some (((0,0),[],[],[],[]),false,())) (some (((w,a),b,c,d,e),true,())):=by kernel_rfl
def fo (c:D1)(liars:List Int):=bj vB F vC f8 auA akm 2 (c,liars,())
def aiv (c:D1)(liars:List Int):fo F c liars=(ea F0 liars).bind fun a=>vD F (AP F) F.n (pN 0 c.1 c.2 0 0 c.1 c.2 [] [] [] [] a.1 [] [] []):=by kernel_rfl
def afC:Any:=.one ⟨auA,akm,2,fun x=>fo F0 x.1 x.2.1⟩
def aiw:a1 8 afC:=aq vB ⟨eT,jI,dP,ap7,trivial⟩ func8 vC (by kernel_rfl)
def abB:=[(29,fz)]
def hD (q:D9):=bj abB F ad f47 gB gB 2 (q,())
def ap9 (q:D9):hD F q=(ea F0 q.2.2).bind fun a=>some ((q.1,q.2.1,a.1),()):=by kernel_rfl
def iv:Any:=.one ⟨gB,gB,2,fun x=>hD F0 x.1⟩
def mQ:a1 47 iv:=aq abB ⟨jI,trivial⟩ func47 ad (by kernel_rfl)
def UH:=[(47,iv)]
def lJ (s:Vt):=bj UH F ad f151 BR BR 2 (s,())
def aix (s:Vt):lJ F s=(hD F0 s.2.2.1).bind fun a=>some ((s.1,s.2.1,a.1,s.2.2.2),()):=by kernel_rfl
def k7:Any:=.one ⟨BR,BR,2,fun x=>lJ F0 x.1⟩
def sA:a1 151 k7:=aq UH ⟨mQ,trivial⟩ func151 ad (by kernel_rfl)
def iV (p:D5):=bj aA F ad f152 km km 2 (p,())
def amJ (p:D5):iV F p=ck (ep F 0 p.length 32) (some ([]++p,())):=by kernel_rfl
def C1:Any:=.one ⟨km,km,2,fun x=>iV F0 x.1⟩
def UI:a1 152 C1:=aq aA trivial func152 ad (by kernel_rfl)
def UJ:=[(29,fz)]
def fp (p:D9):=bj UJ F ad f222 gB gB 2 (p,())
def aiy (p:D9):fp F p=(ea F0 p.2.2).bind fun a=>some ((p.1,p.2.1,a.1),()):=by kernel_rfl
def hZ:Any:=.one ⟨gB,gB,2,fun x=>fp F0 x.1⟩
def mR:a1 222 hZ:=aq UJ ⟨jI,trivial⟩ func222 ad (by kernel_rfl)
def sB:=[(222,hZ)]
def sC:Nat->Option Hint:=look [(3,{live:=[3,6,7,8],mat:=[(3,50,K9)],xl:=[3],rl:=[2]})]
def nV (a:List D9)(b c:Int)(d:List D9):= cQ 19 [(3,.v (.c (.own 1000000 none))),(6,hV 50 (K9) a),(7,a8 b),(8,a8 c)] [] [ay 1000000 50 K9 d]
def HQ (a:List D9):= cQ 19 [(3,.v (.c (.own 1000000 none)))] [] [ay 1000000 50 K9 a]
def sD (a:St):Option U:=ff sB F sC [.r,.r,.l,.r,.b,.i] f153 J n a
def wC:=hQ sB F sC [.r,.r,.l,.r,.b] f153 Hp 2
def BY (b:List D9)(d a:Int)(c:List D9):sD F J (n+1) (nV b d a c)=br (decide (a<d)) (ck (bG a (b.length:Int)) ((fp F0 (aI b a K9.az)).bind fun e=>ck (ep F c.length [e.1].length 48) (sD F J n (nV b d (aj (a+1)) (c++[e.1]))))) (J (.exit 0) (HQ c)):=by kernel_rfl
def XC (a:List D9):wC F (.exit 0) (HQ a)=some (a,()):=by kernel_rfl
def eL (a:D13):=bj sB F sC f153 Hp Hp 2 (a,())
def afD (a:D13):eL F a=sD F (wC F) F.n (nV a (a.length:Int) 0 []):=by kernel_rfl
def wD:Any:=.one ⟨Hp,Hp,2,fun x=>eL F0 x.1⟩
def N9:a1 153 wD:=aq sB ⟨mR,trivial⟩ func153 sC (by kernel_rfl)
def lK (d:D14):=bj aA F ad f154 po po 2 (d,())
def aiz (d:D14):lK F d=ck (ep F 0 d.1.length 1) (some (([]++d.1,d.2),())):=by kernel_rfl
def k8:Any:=.one ⟨po,po,2,fun x=>lK F0 x.1⟩
def sE:a1 154 k8:=aq aA trivial func154 ad (by kernel_rfl)
def Q6:=[(47,iv)]
def AQ (b:D15):=bj Q6 F ad f272 akn akn 2 (b,())
def afE (b:D15):AQ F b=(hD F0 b.2).bind fun a=>some ((b.1,a.1),()):=by kernel_rfl
def LA:Any:=.one ⟨akn,akn,2,fun x=>AQ F0 x.1⟩
def afF:a1 272 LA:=aq Q6 ⟨mQ,trivial⟩ func272 ad (by kernel_rfl)
end
end Go.Am.Tryz
namespace Go.Am.Tryz
open Go.Am Go.Proofs Go.Proofs.Tryz
noncomputable section
variable {U:Type} (F:p5) (J:Ex->St->Option U) (n:Nat)
def XD:=[(47,iv),(222,hZ),(272,LA)]
def AR (m:Po):=bj XD F ad f223 w5 w5 2 (m,())
def amK (m:Po):AR F m=(AQ F0 m.2.2.1).bind fun a=>(fp F0 m.2.2.2.1).bind fun b=>(hD F0 m.2.2.2.2.1).bind fun c=>some ((m.1,m.2.1,a.1,b.1,c.1,m.2.2.2.2.2),()):=by kernel_rfl
def C2:Any:=.one ⟨w5,w5,2,fun x=>AR F0 x.1⟩
def UK:a1 223 C2:=aq XD ⟨mQ,mR,afF,trivial⟩ func223 ad (by kernel_rfl)
def sF:=[(223,C2)]
def sG:Nat->Option Hint:=look [(3,{live:=[3,6,7,8],mat:=[(3,136,p2)],xl:=[3],rl:=[2]})]
def nW (a:List lD)(b c:Int)(d:List lD):= cQ 23 [(3,.v (.c (.own 1000000 none))),(6,hV 136 (p2) a),(7,a8 b),(8,a8 c)] [] [ay 1000000 136 p2 d]
def HR (a:List lD):= cQ 23 [(3,.v (.c (.own 1000000 none)))] [] [ay 1000000 136 p2 a]
def sH (a:St):Option U:=ff sF F sG [.r,.r,.l,.r,.b,.i] f155 J n a
def wE:=hQ sF F sG [.r,.r,.l,.r,.b] f155 aaZ 2
def BZ (b:List lD)(d a:Int)(c:List lD):sH F J (n+1) (nW b d a c)=br (decide (a<d)) (ck (bG a (b.length:Int)) ((AR F0 (aI b a p2.az).2).bind fun e=>ck (ep F c.length [((aI b a p2.az).1,e.1)].length 224) (sH F J n (nW b d (aj (a+1)) (c++[((aI b a p2.az).1,e.1)]))))) (J (.exit 0) (HR c)):=by kernel_rfl
def XE (a:List lD):wE F (.exit 0) (HR a)=some (a,()):=by kernel_rfl
def AS (a:D23):=bj sF F sG f155 aaZ aaZ 2 (a,())
def afG (a:D23):AS F a=sH F (wE F) F.n (nW a (a.length:Int) 0 []):=by kernel_rfl
def LB:Any:=.one ⟨aaZ,aaZ,2,fun x=>AS F0 x.1⟩
def afH:a1 155 LB:=aq sF ⟨UK,trivial⟩ func155 sG (by kernel_rfl)
def XF:=[(151,k7),(152,C1),(153,wD),(154,k8),(155,LB)]
def aB (r:a7):=bj XF F ad f80 TS TS 2 (r,())
def amL (r:a7):aB F r=(lJ F0 r.2.2.2.1).bind fun a=>(iV F0 r.2.2.2.2.1).bind fun b=>(eL F0 r.2.2.2.2.2.1).bind fun c=>(lK F0 r.2.2.2.2.2.2.1).bind fun d=>(AS F0 r.2.2.2.2.2.2.2).bind fun e=>some ((r.1,r.2.1,r.2.2.1,a.1,b.1,c.1,d.1,e.1),()):=by kernel_rfl
def bO:Any:=.one ⟨TS,TS,2,fun x=>aB F0 x.1⟩
def b8:a1 80 bO:=aq XF ⟨sA,UI,N9,sE,afH,trivial⟩ func80 ad (by kernel_rfl)
def UL:Nat->Option Hint:=look [(900001,{live:=[],mat:=[(1,0,eo)]})]
def uc (x:bS):=bj aA F UL f81 [(eo,true)] [(eo,true)] 2 (x,())
def aiA (x:bS):uc F x=ck (ep F 0 x.2.length 1) (some ((x.1,[]++x.2),())):=by kernel_rfl
def AT:Any:=.one ⟨[(eo,true)],[(eo,true)],2,fun x=>uc F0 x.1⟩
def Q7:a1 81 AT:=aq aA trivial func81 UL (by kernel_rfl)
def jJ:=[(29,fz),(80,bO),(81,AT)]
def jK:Nat->Option Hint:=look [(3,{live:=[1,2,3,18,19,20],yh:=[(2,2,3,.int .i64),(2,3,65,ca),(2,4,105,eo),(2,5,41,cl),(3,3,65,ca),(3,4,105,eo)],xl:=[1,2,3],rl:=[2]}),(8,{live:=[2,3,33,34,35],xl:=[2,3],rl:=[2]}),(900001,{live:=[],mat:=[(1,0,hU)]})]
def nX (i:List bS)(j k l m o a:Int)(p:List Int)(b:List a7)(c:List bS)(d:List bE)(e:List Int)(f:List a7)(g:List bS)(h:List bE):= cQ 48 [b0 2,b0 3,(33,hV 105 (eo) i),(34,a8 j),(35,a8 k)] [(2,[ao l,ao m,.own 1000000 none,.own 1000001 none,.own 1000002 none,.own 1000003 none]),(3,[ao o,ao a,.own 1000004 none,.own 1000005 none,.own 1000006 none,.own 1000007 none])] [ay 1000000 3 (.int .i64) p,ay 1000001 65 ca b,ay 1000002 105 eo c,ay 1000003 41 cl d,ay 1000004 3 (.int .i64) e,ay 1000005 65 ca f,ay 1000006 105 eo g,ay 1000007 41 cl h]
def HS (i j k a:Int)(l:List Int)(b:List a7)(c:List bS)(d:List bE)(e:List Int)(f:List a7)(g:List bS)(h:List bE):= cQ 48 [b0 2,b0 3] [(2,[ao i,ao j,.own 1000000 none,.own 1000001 none,.own 1000002 none,.own 1000003 none]),(3,[ao k,ao a,.own 1000004 none,.own 1000005 none,.own 1000006 none,.own 1000007 none])] [ay 1000000 3 (.int .i64) l,ay 1000001 65 ca b,ay 1000002 105 eo c,ay 1000003 41 cl d,ay 1000004 3 (.int .i64) e,ay 1000005 65 ca f,ay 1000006 105 eo g,ay 1000007 41 cl h]
def sI (a:St):Option U:=ff jJ F jK [.r,.r,.r,.l,.r,.b,.i] f35 J n a
def wF:=hQ jJ F jK [.r,.r,.r,.l,.r,.b] f35 dy 2
def nY (w:lE)(i:List a7)(j k l m o a:Int)(p:List Int)(b:List a7)(c:List bS)(d:List bE)(e:List Int)(f:List a7)(g:List bS)(h:List bE):= cQ 48 [(1,.v (.c (.Vn false (hU) w 0))),b0 2,b0 3,(18,hV 65 (ca) i),(19,a8 j),(20,a8 k)] [(2,[ao l,ao m,.own 1000000 none,.own 1000001 none,.own 1000002 none,.own 1000003 none]),(3,[ao o,ao a,.own 1000004 none,.own 1000005 none,.own 1000006 none,.own 1000007 none])] [ay 1000000 3 (.int .i64) p,ay 1000001 65 ca b,ay 1000002 105 eo c,ay 1000003 41 cl d,ay 1000004 3 (.int .i64) e,ay 1000005 65 ca f,ay 1000006 105 eo g,ay 1000007 41 cl h]
def HT (w:lE)(i j k a:Int)(l:List Int)(b:List a7)(c:List bS)(d:List bE)(e:List Int)(f:List a7)(g:List bS)(h:List bE):= cQ 48 [(1,.v (.c (.Vn false (hU) w 0))),b0 2,b0 3] [(2,[ao i,ao j,.own 1000000 none,.own 1000001 none,.own 1000002 none,.own 1000003 none]),(3,[ao k,ao a,.own 1000004 none,.own 1000005 none,.own 1000006 none,.own 1000007 none])] [ay 1000000 3 (.int .i64) l,ay 1000001 65 ca b,ay 1000002 105 eo c,ay 1000003 41 cl d,ay 1000004 3 (.int .i64) e,ay 1000005 65 ca f,ay 1000006 105 eo g,ay 1000007 41 cl h]
def sJ (a:St):Option U:=ff jJ F jK [.r,.r,.l,.r,.b,.i] f35 J n a
def wG:=hQ jJ F jK [.r,.r,.l,.r,.b] f35 dy 2
def B0 (c:List bS)(k a l m o d:Int)(p:List Int)(e:List a7)(f:List bS)(g:List bE)(h:List Int)(i:List a7)(b:List bS)(j:List bE):sI F J (n+1) (nX c k a l m o d p e f g h i b j)=br (decide (a<k)) (ck (bG a (c.length:Int)) ((uc F0 (aI c a (0,[]))).bind fun q=>ck (ep F b.length [q.1].length 32) (sI F J n (nX c k (aj (a+1)) l m o d p e f g h i (b++[q.1]) j)))) (J (.exit 2) (HS l m o d p e f g h i b j)):=by kernel_rfl
def B2 (w:lE)(c:List a7)(k a l m o d:Int)(p:List Int)(e:List a7)(f:List bS)(g:List bE)(h:List Int)(b:List a7)(i:List bS)(j:List bE):sJ F J (n+1) (nY w c k a l m o d p e f g h b i j)=br (decide (a<k)) (ck (bG a (c.length:Int)) ((aB F0 (aI c a ca.az)).bind fun q=>ck (ep F b.length [q.1].length 208) (sJ F J n (nY w c k (aj (a+1)) l m o d p e f g h (b++[q.1]) i j)))) (J (.exit 0) (HT w l m o d p e f g h b i j)):=by kernel_rfl
def XG (j k f a:Int)(l:List Int)(g:List a7)(h:List bS)(i:List bE)(b:List Int)(c:List a7)(d:List bS)(e:List bE):wF F (.exit 2) (HS j k f a l g h i b c d e)=some (((f,a),b,c,d,e),()):=by kernel_rfl
def XH (w:lE)(i j k a:Int)(l:List Int)(b:List a7)(c:List bS)(d:List bE)(e:List Int)(f:List a7)(g:List bS)(h:List bE):wG F (.exit 0) (HT w i j k a l b c d e f g h)=sI F (wF F) F.n (nX w.2.2.2.1 (w.2.2.2.1.length:Int) 0 i j k a l b c d e f g h):=by kernel_rfl
def aS (w:lE):=bj jJ F jK f35 dy dy 2 (w,())
def afI (w:lE):aS F w=(ea F0 w.2.1).bind fun a=>ck (ep F 0 w.2.2.2.2.length 32) (sJ F (wG F) F.n (nY w w.2.2.1 (w.2.2.1.length:Int) 0 0 0 w.1.1 w.1.2 [] [] [] [] a.1 [] [] ([]++w.2.2.2.2))):=by kernel_rfl
def gp:Any:=.one ⟨dy,dy,2,fun x=>aS F0 x.1⟩
def k9:a1 35 gp:=aq jJ ⟨jI,b8,Q7,trivial⟩ func35 jK (by kernel_rfl)
def iW:Nat->Option Hint:=look [(2,{live:=[0,1,7,8],rl:=[4]})]
def gM (s:List Int)(v a b:Int):= bP 19 [(0,hV 3 (.int .i64) s),(1,a8 v),(7,a8 a),(8,a8 b)]
def ud (a:Int):= bP 19 [(4,a8 a)]
def tj   := bP 19 []
def iX (a:St):Option U:=ff aA F iW [.r,.l,.r,.b,.i] f188 J n a
def gN:=hQ aA F iW [.r,.l,.r,.b] f188 cE 1
def pO (s:List Int)(v b a:Int):iX F J (n+1) (gM s v b a)=br (decide (a<b)) (ck (bG a (s.length:Int)) (br (v==(aI s a 0)) (J .ret (ud a)) (iX F J n (gM s v b (aj (a+1)))))) (J (.exit 0) (tj)):=by kernel_rfl
def MG (a:Int):gN F .ret (ud a)=some (a,()):=by kernel_rfl
def LC: gN F (.exit 0) (tj)=some (-1,()):=by kernel_rfl
def la (s:List Int)(v:Int):=bj aA F iW f188 acQ cE 1 (s,v,())
def Q8 (s:List Int)(v:Int):la F s v=iX F (gN F) F.n (gM s v (s.length:Int) 0):=by kernel_rfl
def ue:Any:=.one ⟨acQ,cE,1,fun x=>la F0 x.1 x.2.1⟩
def Q9:a1 188 ue:=aq aA trivial func188 iW (by kernel_rfl)
def tk:=[(188,ue)]
def h7 (s:List Int)(v:Int):=bj tk F ad f110 acQ aO 1 (s,v,())
def LD (s:List Int)(v:Int):h7 F s v=(la F0 s v).bind fun a=>some (decide (a.1>=0),()):=by kernel_rfl
def pP:Any:=.one ⟨acQ,aO,1,fun x=>h7 F0 x.1 x.2.1⟩
def LF:a1 110 pP:=aq tk ⟨Q9,trivial⟩ func110 ad (by kernel_rfl)
def abC:=[(110,pP)]
def c7 (s:List Int)(i:Int):=bj abC F ad f51 acQ aO 1 (s,i,())
def aqa (s:List Int)(i:Int):c7 F s i=(h7 F0 s i).bind fun a=>some (a.1,()):=by kernel_rfl
def cN:Any:=.one ⟨acQ,aO,1,fun x=>c7 F0 x.1 x.2.1⟩
def dQ:a1 51 cN:=aq abC ⟨LF,trivial⟩ func51 ad (by kernel_rfl)
def EF:=[(51,cN)]
def EG:Nat->Option Hint:=look [(3,{live:=[1,3,7,8],mat:=[(3,3,.int .i64)],xl:=[3],rl:=[2]})]
def kF (f g w a:Int)(b:List Int)(c:List a7)(d:List bS)(e:List bE)(h:List Int):= cQ 22 [b0 1,(3,.v (.c (.own 1000000 none))),(7,a8 f),(8,a8 g)] [(1,[ao w,ao a,.ro false 3 (.int .i64) b,.ro false 65 (ca) c,.ro false 105 (eo) d,.ro false 41 (cl) e])] [ay 1000000 3 (.int .i64) h]
def Ra (a:List Int):= cQ 22 [(3,.v (.c (.own 1000000 none)))] [] [ay 1000000 3 (.int .i64) a]
def o5 (a:St):Option U:=ff EF F EG [.r,.r,.l,.r,.b,.i] f17 J n a
def vE:=hQ EF F EG [.r,.r,.l,.r,.b] f17 kr 2
def LG (d a w e:Int)(c:List Int)(f:List a7)(g:List bS)(h:List bE)(b:List Int):o5 F J (n+1) (kF d a w e c f g h b)=br (decide (a<d)) ((c7 F0 c a).bind fun i=>br (!i.1) (ck (ep F b.length [a].length 8) (o5 F J n (kF d (aj (a+1)) w e c f g h (b++[a])))) (o5 F J n (kF d (aj (a+1)) w e c f g h b))) (J (.exit 0) (Ra b)):=by kernel_rfl
def afJ (a:List Int):vE F (.exit 0) (Ra a)=some (a,()):=by kernel_rfl
def hH (w:lE):=bj EF F EG f17 dy kr 2 (w,())
def aqb (w:lE):hH F w=o5 F (vE F) F.n (kF (w.2.2.1.length:Int) 0 w.1.1 w.1.2 w.2.1 w.2.2.1 w.2.2.2.1 w.2.2.2.2 []):=by kernel_rfl
def fY:Any:=.one ⟨dy,kr,2,fun x=>hH F0 x.1⟩
def j0:a1 17 fY:=aq EF ⟨dQ,trivial⟩ func17 EG (by kernel_rfl)
def XI:=[(17,fY),(41,bA),(51,cN)]
def Jj (w:lE)(d:D45):=bj XI F ad f42 afo aO 1 (w,d,())
def amM (w:lE)(d:D45):Jj F w d=br (d.1==3) ((aZ F0 d.2.1 0 (aj ((w.2.2.2.1.length:Int)-1))).bind fun a=>some (a.1,())) (br (d.1==4) ((aZ F0 d.2.1 0 (aj ((w.2.2.2.1.length:Int)-1))).bind fun a=>some (a.1,())) (br (d.1==5) ((aZ F0 d.2.1 0 (aj ((w.2.2.2.1.length:Int)-1))).bind fun a=>some (a.1,())) (br (d.1==10) ((aZ F0 d.2.1 0 (aj (w.1.1-1))).bind fun b=>some (b.1,())) ((hH F0 w).bind fun c=>(c7 F0 c.1 d.2.1).bind fun e=>some (e.1,()))))):=by kernel_rfl
def Rb:Any:=.one ⟨afo,aO,1,fun x=>Jj F0 x.1 x.2.1⟩
def amN:a1 42 Rb:=aq XI ⟨j0,bW,dQ,trivial⟩ func42 ad (by kernel_rfl)
def akF:=[(118,oH),(154,k8)]
def Zg (d:D14):=bj akF F ad f159 po po 2 (d,())
def aw1 (d:D14):Zg F d=(lK F0 d).bind fun a=>(ri F0 d).bind fun b=>br b.1 (some ((a.1.1,(d.1.length:Int)),())) (some (a.1,())):=by kernel_rfl
def abD:Any:=.one ⟨po,po,2,fun x=>Zg F0 x.1⟩
def aw2:a1 159 abD:=aq akF ⟨AH,sE,trivial⟩ func159 ad (by kernel_rfl)
def XJ:=[(58,b2),(80,bO),(159,abD)]
def Jk (c:D1)(r:a7):=bj XJ F ad f90 x8 aEu 2 (c,r,())
def amO (c:D1)(r:a7):Jk F c r=(aB F0 r).bind fun a=>(cq F0 c r).bind fun b=>br (!b.1) (some (a.1,[],())) ((Zg F0 a.1.2.2.2.2.2.2.1).bind fun d=>some ((a.1.1,a.1.2.1,a.1.2.2.1,a.1.2.2.2.1,a.1.2.2.2.2.1,a.1.2.2.2.2.2.1,d.1,[]),a.1.2.2.2.2.2.2.2,())):=by kernel_rfl
def Rc:Any:=.one ⟨x8,aEu,2,fun x=>Jk F0 x.1 x.2.1⟩
def amP:a1 90 Rc:=aq XJ ⟨cu,b8,aw2,trivial⟩ func90 ad (by kernel_rfl)
def abE:=[(51,cN)]
def FP (a:Int)(m:Po):=bj abE F ad f92 aEv [(K38,false)] 2 (a,m,())
def aqc (a:Int)(m:Po):FP F a m=br (m.1==4) (some ([],())) (br (m.1==2) (br (m.2.2.2.1.2.1.toList==ak.toList) (some ([],())) ((c7 F0 m.2.2.2.1.2.2 a).bind fun b=>br (!b.1) (some ([],())) (some ([(m.2.2.2.1.1,m.2.2.2.1.2.1,a)],())))) (br (m.1==1) (br (m.2.2.1.2.2.1.toList==ak.toList) (some ([],())) ((c7 F0 m.2.2.1.2.2.2 a).bind fun b=>br (!b.1) (some ([],())) (some ([(m.2.2.1.2.1,m.2.2.1.2.2.1,a)],())))) (br (m.2.2.2.2.1.2.1.toList==ak.toList) (some ([],())) ((c7 F0 m.2.2.2.2.1.2.2 a).bind fun b=>br (!b.1) (some ([],())) (some ([(m.2.2.2.2.1.1,m.2.2.2.2.1.2.1,a)],())))))):=by kernel_rfl
def G0:Any:=.one ⟨aEv,[(K38,false)],2,fun x=>FP F0 x.1 x.2.1⟩
def XK:a1 92 G0:=aq abE ⟨dQ,trivial⟩ func92 ad (by kernel_rfl)
def Oa:Nat->Option Hint:=look [(2,{live:=[0,3,7,8],rl:=[4]})]
def EH (s:List bE)(c d v:Int)(a:ByteArray)(b:Int):= cQ 19 [(0,hV 41 (cl) s),b0 3,(7,a8 c),(8,a8 d)] [(3,[ao v,.str a,ao b])] []
def abF (a:Int):= bP 19 [(4,a8 a)]
def XL   := bP 19 []
def Ob (a:St):Option U:=ff aA F Oa [.r,.l,.r,.b,.i] f160 J n a
def EI:=hQ aA F Oa [.r,.l,.r,.b] f160 cE 1
def Re (s:List bE)(d a v:Int)(b:ByteArray)(c:Int):Ob F J (n+1) (EH s d a v b c)=br (decide (a<d)) (ck (bG a (s.length:Int)) (br ((v==(aI s a cl.az).1)&&((b.toList==(aI s a cl.az).2.1.toList)&&((c==(aI s a cl.az).2.2)&&true))) (J .ret (abF a)) (Ob F J n (EH s d (aj (a+1)) v b c)))) (J (.exit 0) (XL)):=by kernel_rfl
def aqd (a:Int):EI F .ret (abF a)=some (a,()):=by kernel_rfl
def amQ: EI F (.exit 0) (XL)=some (-1,()):=by kernel_rfl
abbrev aEy:List (Ty×Bool):=[(K38,false),(cl,true)]
def Zh (s:D38)(v:bE):=bj aA F Oa f160 aEy cE 1 (s,v,())
def aw3 (s:D38)(v:bE):Zh F s v=Ob F (EI F) F.n (EH s (s.length:Int) 0 v.1 v.2.1 v.2.2):=by kernel_rfl
def abG:Any:=.one ⟨aEy,cE,1,fun x=>Zh F0 x.1 x.2.1⟩
def aw4:a1 160 abG:=aq aA trivial func160 Oa (by kernel_rfl)
def pQ:=[(160,abG)]
def c9 (s:D38)(v:bE):=bj pQ F ad f93 aEy aO 1 (s,v,())
def G1 (s:D38)(v:bE):c9 F s v=(Zh F0 s v).bind fun a=>some (decide (a.1>=0),()):=by kernel_rfl
def eA:Any:=.one ⟨aEy,aO,1,fun x=>c9 F0 x.1 x.2.1⟩
def iw:a1 93 eA:=aq pQ ⟨aw4,trivial⟩ func93 ad (by kernel_rfl)
def nZ:=[(17,fY),(35,gp),(51,cN),(92,G0),(93,eA)]
def n0:Nat->Option Hint:=look [(5,{live:=[1,6,7,20,21,22],yh:=[(6,2,3,.int .i64),(6,3,65,ca),(6,4,105,eo),(6,5,41,cl)],xl:=[6,7],rl:=[6]}),(8,{live:=[1,6,7,20,21,22,29,30,31],xl:=[1,6,7,20,21,22],rl:=[6]})]
def mS (j:Int)(k:List lD)(l m o p q r s a:Int)(t:List bE)(b:List Int)(c:List a7)(d:List bS)(e:List bE)(f:List Int)(g:List a7)(h:List bS)(i:List bE):= cQ 55 [(1,a8 j),b0 6,b0 7,(20,hV 136 (p2) k),(21,a8 l),(22,a8 m),(29,.v (.c (.own 1000000 none))),(30,a8 o),(31,a8 p)] [(6,[ao q,ao r,.own 1000001 none,.own 1000002 none,.own 1000003 none,.own 1000004 none]),(7,[ao s,ao a,.own 1000005 none,.own 1000006 none,.own 1000007 none,.own 1000008 none])] [ay 1000000 41 cl t,ay 1000001 3 (.int .i64) b,ay 1000002 65 ca c,ay 1000003 105 eo d,ay 1000004 41 cl e,ay 1000005 3 (.int .i64) f,ay 1000006 65 ca g,ay 1000007 105 eo h,ay 1000008 41 cl i]
def UM (i:Int)(j:List lD)(k l m o p a:Int)(q:List Int)(b:List a7)(c:List bS)(d:List bE)(e:List Int)(f:List a7)(g:List bS)(h:List bE):= cQ 55 [(1,a8 i),b0 6,b0 7,(20,hV 136 (p2) j),(21,a8 k),(22,a8 l)] [(6,[ao m,ao o,.own 1000000 none,.own 1000001 none,.own 1000002 none,.own 1000003 none]),(7,[ao p,ao a,.own 1000004 none,.own 1000005 none,.own 1000006 none,.own 1000007 none])] [ay 1000000 3 (.int .i64) q,ay 1000001 65 ca b,ay 1000002 105 eo c,ay 1000003 41 cl d,ay 1000004 3 (.int .i64) e,ay 1000005 65 ca f,ay 1000006 105 eo g,ay 1000007 41 cl h]
def sK (a:St):Option U:=ff nZ F n0 [.r,.r,.r,.l,.r,.b,.i,.r,.r,.l,.b,.r,.r,.b,.i] f91 J n a
def LH:Ex->St->Option U:=V0 Tryz.prog (look nZ) F n0 [.r,.r,.l,.b,.r,.r,.b] (sub [.r,.r,.r,.l,.r,.b,.i] (eX f91)) (itk Tryz.prog (look nZ) F n0 (sub [.r,.r,.r,.l,.r,.b,.i] (eX f91)) J n)
def AU (i:Int)(j:List lD)(k l m o p a:Int)(q:List Int)(b:List a7)(c:List bS)(d:List bE)(e:List Int)(f:List a7)(g:List bS)(h:List bE):= cQ 55 [(1,a8 i),b0 6,b0 7,(20,hV 136 (p2) j),(21,a8 k),(22,a8 l)] [(6,[ao m,ao o,.own 1000000 none,.own 1000001 none,.own 1000002 none,.own 1000003 none]),(7,[ao p,ao a,.own 1000004 none,.own 1000005 none,.own 1000006 none,.own 1000007 none])] [ay 1000000 3 (.int .i64) q,ay 1000001 65 ca b,ay 1000002 105 eo c,ay 1000003 41 cl d,ay 1000004 3 (.int .i64) e,ay 1000005 65 ca f,ay 1000006 105 eo g,ay 1000007 41 cl h]
def UN (i j k a:Int)(l:List Int)(b:List a7)(c:List bS)(d:List bE)(e:List Int)(f:List a7)(g:List bS)(h:List bE):= cQ 55 [b0 6,b0 7] [(6,[ao i,ao j,.own 1000000 none,.own 1000001 none,.own 1000002 none,.own 1000003 none]),(7,[ao k,ao a,.own 1000004 none,.own 1000005 none,.own 1000006 none,.own 1000007 none])] [ay 1000000 3 (.int .i64) l,ay 1000001 65 ca b,ay 1000002 105 eo c,ay 1000003 41 cl d,ay 1000004 3 (.int .i64) e,ay 1000005 65 ca f,ay 1000006 105 eo g,ay 1000007 41 cl h]
def Jl (a:St):Option U:=ff nZ F n0 [.r,.r,.r,.l,.r,.b,.i] f91 J n a
def AW:=hQ nZ F n0 [.r,.r,.r,.l,.r,.b] f91 dy 2
def Oc (l:Int)(m:List lD)(o p q a r s t d:Int)(c:List bE)(e:List Int)(f:List a7)(g:List bS)(h:List bE)(i:List Int)(j:List a7)(k:List bS)(b:List bE):sK F J (n+1) (mS l m o p q a r s t d c e f g h i j k b)=br (decide (a<q)) (ck (bG a (c.length:Int)) ((c9 F0 b (aI c a cl.az)).bind fun u=>br (!u.1) (br (decide ((b.length:Int)<300)) (ck (ep F b.length [(aI c a cl.az)].length 32) (sK F J n (mS l m o p q (aj (a+1)) r s t d c e f g h i j k (b++[(aI c a cl.az)])))) (sK F J n (mS l m o p q (aj (a+1)) r s t d c e f g h i j k b))) (sK F J n (mS l m o p q (aj (a+1)) r s t d c e f g h i j k b)))) (J (.exit 2) (UM l m o p r s t d e f g h i j k b)):=by kernel_rfl
def Od (k:Int)(b:List lD)(l a m o p c:Int)(q:List Int)(d:List a7)(e:List bS)(f:List bE)(g:List Int)(h:List a7)(i:List bS)(j:List bE):Jl F J (n+1) (AU k b l a m o p c q d e f g h i j)=br (decide (a<l)) (ck (bG a (b.length:Int)) ((FP F0 k (aI b a p2.az).2).bind fun r=>sK F (LH F J n) F.n (mS k b l a (r.1.length:Int) 0 m o p c r.1 q d e f g h i j))) (J (.exit 0) (UN m o p c q d e f g h i j)):=by kernel_rfl
def aiB (i:Int)(j:List lD)(k l m o p a:Int)(q:List Int)(b:List a7)(c:List bS)(d:List bE)(e:List Int)(f:List a7)(g:List bS)(h:List bE):LH F J n (.exit 2) (UM i j k l m o p a q b c d e f g h)=Jl F J n (AU i j k (aj (l+1)) m o p a q b c d e f g h):=by kernel_rfl
def aiC (j k f a:Int)(l:List Int)(g:List a7)(h:List bS)(i:List bE)(b:List Int)(c:List a7)(d:List bS)(e:List bE):AW F (.exit 0) (UN j k f a l g h i b c d e)=some (((f,a),b,c,d,e),()):=by kernel_rfl
def SL (w:lE)(a:Int)(b:D23):=bj nZ F n0 f91 aEw dy 2 (w,a,b,())
def atm (w:lE)(b:Int)(c:D23):SL F w b c=(aS F0 w).bind fun a=>(hH F0 w).bind fun d=>(c7 F0 d.1 b).bind fun e=>br (!e.1) (some (a.1,())) (Jl F (AW F) F.n (AU b c (c.length:Int) 0 0 0 a.1.1.1 a.1.1.2 [] [] [] [] a.1.2.1 a.1.2.2.1 a.1.2.2.2.1 a.1.2.2.2.2)):=by kernel_rfl
def XM:Any:=.one ⟨aEw,dy,2,fun x=>SL F0 x.1 x.2.1 x.2.2.1⟩
def atn:a1 91 XM:=aq nZ ⟨j0,k9,dQ,XK,iw,trivial⟩ func91 n0 (by kernel_rfl)
def XN:=[(170,iu)]
def n1 (s:ByteArray):=bj XN F ad f171 dC lF 2 (s,())
def amR (s:ByteArray):n1 F s=(e8 F0 (s.size:Int)).bind fun a=>ck (okB F a.1.length s.size) (some (a.1++bytesOf s,())):=by kernel_rfl
def sL:Any:=.one ⟨dC,lF,2,fun x=>n1 F0 x.1⟩
def G3:a1 171 sL:=aq XN ⟨mH,trivial⟩ func171 ad (by kernel_rfl)
def AX:=[(170,iu)]
def AY:Nat->Option Hint:=look [(3,{live:=[3,6,7,8],mat:=[(3,5,.int .u8)],xl:=[3],rl:=[2]})]
def sM (a:List Int)(b c:Int)(d:List Int):= cQ 18 [(3,.v (.c (.own 1000000 none))),(6,hV 3 (.int .i64) a),(7,a8 b),(8,a8 c)] [] [ay 1000000 5 (.int .u8) d]
def Oe (a:List Int):= cQ 18 [(3,.v (.c (.own 1000000 none)))] [] [ay 1000000 5 (.int .u8) a]
def AZ (a:St):Option U:=ff AX F AY [.r,.r,.l,.r,.b,.i] f173 J n a
def C3:=hQ AX F AY [.r,.r,.l,.r,.b] f173 lF 2
def HU (b:List Int)(d a:Int)(c:List Int):AZ F J (n+1) (sM b d a c)=br (decide (a<d)) (ck (bG a (b.length:Int)) ((e8 F0 (aI b a 0)).bind fun e=>ck (ep F c.length e.1.length 1) (AZ F J n (sM b d (aj (a+1)) (c++e.1))))) (J (.exit 0) (Oe c)):=by kernel_rfl
def adb (a:List Int):C3 F (.exit 0) (Oe a)=some (a,()):=by kernel_rfl
def ld (a:List Int):=bj AX F AY f173 kr lF 2 (a,())
def amS (a:List Int):ld F a=AZ F (C3 F) F.n (sM a (a.length:Int) 0 []):=by kernel_rfl
def sN:Any:=.one ⟨kr,lF,2,fun x=>ld F0 x.1⟩
def G4:a1 173 sN:=aq AX ⟨mH,trivial⟩ func173 AY (by kernel_rfl)
def XO:=[(107,jA),(170,iu),(171,sL),(173,sN)]
def sO (c:D1)(q:D9):=bj XO F ad f172 Hj lF 2 (c,q,())
def amT (c:D1)(q:D9):sO F c q=(mD F0 c q).bind fun f=>br (!f.1) (some ([],())) ((e8 F0 q.1).bind fun a=>(n1 F0 q.2.1).bind fun b=>ck (ep F a.1.length b.1.length 1) ((e8 F0 (q.2.2.length:Int)).bind fun d=>ck (ep F (a.1++b.1).length d.1.length 1) ((ld F0 q.2.2).bind fun e=>ck (ep F ((a.1++b.1)++d.1).length e.1.length 1) (some (((a.1++b.1)++d.1)++e.1,()))))):=by kernel_rfl
def C4:Any:=.one ⟨Hj,lF,2,fun x=>sO F0 x.1 x.2.1⟩
def UO:a1 172 C4:=aq XO ⟨nM,mH,G3,G4,trivial⟩ func172 ad (by kernel_rfl)
def UP:=[(119,mG),(170,iu),(171,sL),(172,C4),(173,sN)]
def uf (c:D1)(m:Po):=bj UP F ad f98 akk lF 2 (c,m,())
def aiD (c:D1)(m:Po):uf F c m=(gm F0 c m).bind fun l=>br (!l.1) (some ([],())) ((e8 F0 m.1).bind fun a=>br (m.1==1) ((n1 F0 m.2.2.1.1).bind fun e=>ck (ep F a.1.length e.1.length 1) ((sO F0 c m.2.2.1.2).bind fun h=>ck (ep F (a.1++e.1).length h.1.length 1) (some ((a.1++e.1)++h.1,())))) (br (m.1==2) ((e8 F0 m.2.2.2.1.1).bind fun b=>ck (ep F a.1.length b.1.length 1) ((n1 F0 m.2.2.2.1.2.1).bind fun d=>ck (ep F (a.1++b.1).length d.1.length 1) ((e8 F0 (m.2.2.2.1.2.2.length:Int)).bind fun f=>ck (ep F ((a.1++b.1)++d.1).length f.1.length 1) ((ld F0 m.2.2.2.1.2.2).bind fun i=>ck (ep F (((a.1++b.1)++d.1)++f.1).length i.1.length 1) (some ((((a.1++b.1)++d.1)++f.1)++i.1,())))))) (br (m.1==3) ((ld F0 [m.2.1,m.2.2.2.2.2.1]).bind fun g=>ck (ep F a.1.length g.1.length 1) ((sO F0 c m.2.2.2.2.1).bind fun j=>ck (ep F (a.1++g.1).length j.1.length 1) (some ((a.1++g.1)++j.1,())))) ((ld F0 [m.2.2.2.2.2.2.1,m.2.2.2.2.2.2.2.1,m.2.2.2.2.2.2.2.2.1,m.2.2.2.2.2.2.2.2.2]).bind fun k=>ck (ep F a.1.length k.1.length 1) (some (a.1++k.1,())))))):=by kernel_rfl
def A0:Any:=.one ⟨akk,lF,2,fun x=>uf F0 x.1 x.2.1⟩
def Rf:a1 98 A0:=aq UP ⟨ua,mH,G3,UO,G4,trivial⟩ func98 ad (by kernel_rfl)
def Of:=[(20,dm),(35,gp),(41,bA),(98,A0)]
def Og:Nat->Option Hint:=look [(5,{live:=[2,4,5,15,16,17],yh:=[(4,2,3,.int .i64),(4,3,65,ca),(4,4,105,eo),(4,5,41,cl)],xl:=[4,5],rl:=[4]})]
def lL (o:List lD)(p q w a:Int)(b:List Int)(c:List a7)(d:List bS)(e:List bE)(r s t f:Int)(u:List Int)(g:List a7)(h:List bS)(i:List bE)(j:List Int)(k:List a7)(l:List bS)(m:List bE):= cQ 55 [b0 2,b0 4,b0 5,(15,hV 136 (p2) o),(16,a8 p),(17,a8 q)] [(2,[ao w,ao a,.ro false 3 (.int .i64) b,.ro false 65 (ca) c,.ro false 105 (eo) d,.ro false 41 (cl) e]),(4,[ao r,ao s,.own 1000000 none,.own 1000001 none,.own 1000002 none,.own 1000003 none]),(5,[ao t,ao f,.own 1000004 none,.own 1000005 none,.own 1000006 none,.own 1000007 none])] [ay 1000000 3 (.int .i64) u,ay 1000001 65 ca g,ay 1000002 105 eo h,ay 1000003 41 cl i,ay 1000004 3 (.int .i64) j,ay 1000005 65 ca k,ay 1000006 105 eo l,ay 1000007 41 cl m]
def XP (i j k a:Int)(l:List Int)(b:List a7)(c:List bS)(d:List bE)(e:List Int)(f:List a7)(g:List bS)(h:List bE):= cQ 55 [b0 4,b0 5] [(4,[ao i,ao j,.own 1000000 none,.own 1000001 none,.own 1000002 none,.own 1000003 none]),(5,[ao k,ao a,.own 1000004 none,.own 1000005 none,.own 1000006 none,.own 1000007 none])] [ay 1000000 3 (.int .i64) l,ay 1000001 65 ca b,ay 1000002 105 eo c,ay 1000003 41 cl d,ay 1000004 3 (.int .i64) e,ay 1000005 65 ca f,ay 1000006 105 eo g,ay 1000007 41 cl h]
def rr (a:St):Option U:=ff Of F Og [.r,.r,.r,.l,.r,.b,.i] f94 J n a
def Pw:=hQ Of F Og [.r,.r,.r,.l,.r,.b] f94 dy 2
def Rg (b:List lD)(l a w d:Int)(r:List Int)(s:List a7)(t:List bS)(u:List bE)(m o p e:Int)(q:List Int)(f:List a7)(g:List bS)(h:List bE)(i:List Int)(j:List a7)(c:List bS)(k:List bE):rr F J (n+1) (lL b l a w d r s t u m o p e q f g h i j c k)=br (decide (a<l)) (ck (bG a (b.length:Int)) ((uf F0 (w,d) (aI b a p2.az).2).bind fun v=>br (decide ((v.1.length:Int)>0)) ((aZ F0 (aI b a p2.az).1 0 (aj (w-1))).bind fun x=>br x.1 (br (decide ((c.length:Int)<60)) (ck (ep F c.length [((aI b a p2.az).1,v.1)].length 32) (rr F J n (lL b l (aj (a+1)) w d r s t u m o p e q f g h i j (c++[((aI b a p2.az).1,v.1)]) k))) (rr F J n (lL b l (aj (a+1)) w d r s t u m o p e q f g h i j c k))) (rr F J n (lL b l (aj (a+1)) w d r s t u m o p e q f g h i j c k))) (rr F J n (lL b l (aj (a+1)) w d r s t u m o p e q f g h i j c k)))) (J (.exit 0) (XP m o p e q f g h i j c k)):=by kernel_rfl
def amU (j k f a:Int)(l:List Int)(g:List a7)(h:List bS)(i:List bE)(b:List Int)(c:List a7)(d:List bS)(e:List bE):Pw F (.exit 0) (XP j k f a l g h i b c d e)=some (((f,a),b,c,d,e),()):=by kernel_rfl
def Rh (w:lE)(a:D23):=bj Of F Og f94 aEt dy 2 (w,a,())
def aw5 (w:lE)(b:D23):Rh F w b=(aS F0 w).bind fun a=>(b4 F0 w).bind fun c=>br (!c.1) (some (a.1,())) (rr F (Pw F) F.n (lL b (b.length:Int) 0 w.1.1 w.1.2 w.2.1 w.2.2.1 w.2.2.2.1 w.2.2.2.2 0 0 a.1.1.1 a.1.1.2 [] [] [] [] a.1.2.1 a.1.2.2.1 a.1.2.2.2.1 a.1.2.2.2.2)):=by kernel_rfl
def abH:Any:=.one ⟨aEt,dy,2,fun x=>Rh F0 x.1 x.2.1⟩
def aw6:a1 94 abH:=aq Of ⟨eT,k9,bW,Rf,trivial⟩ func94 Og (by kernel_rfl)
end
end Go.Am.Tryz
