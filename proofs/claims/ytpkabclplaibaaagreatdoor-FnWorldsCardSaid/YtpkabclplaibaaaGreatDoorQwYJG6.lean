/- No condition. -/
import Derived.Test.YtpkabclplaibaaaGreatDoorQwYJG5
set_option linter.all false
set_option maxRecDepth 100000
namespace Go.Am.Tryz
open Go.Am Go.Proofs Go.Proofs.Tryz
noncomputable section
variable {U:Type} (F:nY) (J:Ex->St->Option U) (n:Nat)
def Ir:Nat->Option Hint:=look [(2,{live:=[0,1,7,8,9],rl:=[4]})]
def pX (a:Int)(s b:List Int)(c d:Int):= bD 35 [(0,bd a),(1,jN 3 (.int .i64) s),(7,jN 3 (.int .i64) b),(8,bd c),(9,bd d)]
def z7 (a:Bool):= bD 35 [(4,ED a)]
def SE   := bD 35 []
def z8 (a:St):Option U:=ek ax F Ir [.r,.l,.r,.b,.i] f90 J n a
def Aa:=iR ax F Ir [.r,.l,.r,.b] f90 aM 1
def MH (c:Int)(s b:List Int)(d a:Int):z8 F J (n+1) (pX c s b d a)=br (decide (a<d)) (ck (bG a (b.length:Int)) (br (decide ((aL b a 0)<0)) (J .ret (z7 false)) (br (decide ((aL b a 0)>=c)) (J .ret (z7 false)) (br (decide (a>0)) (ck (bG (al (a-1)) (s.length:Int)) (br (decide ((aL s (al (a-1)) 0)>=(aL b a 0))) (J .ret (z7 false)) (z8 F J n (pX c s b d (al (a+1)))))) (z8 F J n (pX c s b d (al (a+1)))))))) (J (.exit 0) (SE)):=by kernel_rfl
def aix (a:Bool):Aa F .ret (z7 a)=some (a,()):=by kernel_rfl
def aeR: Aa F (.exit 0) (SE)=some (true,()):=by kernel_rfl
def vC (a:Int)(s:List Int):=bL ax F Ir f90 ayR aM 1 (a,s,())
def aoo (a:Int)(s:List Int):vC F a s=z8 F (Aa F) F.n (pX a s s (s.length:Int) 0):=by kernel_rfl
def Ab:Any:=.one ⟨ayR,aM,1,fun x=>vC F0 x.1 x.2.1⟩
def NX:bb 90 Ab:=aC ax trivial func90 Ir (by kernel_rfl)
def YW:=[(89,ee)]
def E1 (c:D1):=bL YW F ad f91 Gt dq 1 (c,())
def alT (c:D1):E1 F c=(gh F0 c).bind fun a=>br (!a.1) (some (0,())) (some (al (Int.tdiv (al (c.1-1)) 3),())):=by kernel_rfl
def F9:Any:=.one ⟨Gt,dq,1,fun x=>E1 F0 x.1⟩
def U9:bb 91 F9:=aC YW ⟨gi,trivial⟩ func91 ad (by kernel_rfl)
def QI: Option (Args ez):=bL ax F ad f284 [] ez 2 (())
def aiy: QI F= some ((0,aj,[]),()):=by kernel_rfl
def Pw:Any:=.one ⟨[],ez,2,fun x=>QI F0⟩
def aiz:bb 284 Pw:=aC ax trivial func284 ad (by kernel_rfl)
def hE:Nat->Option Hint:=look [(4,{live:=[0,1,12,13],rl:=[4]})]
def fN (a b:List Int)(c d:Int):= bD 26 [(0,jN 3 (.int .i64) a),(1,jN 3 (.int .i64) b),(12,bd c),(13,bd d)]
def tp (a:Bool):= bD 26 [(4,ED a)]
def sH   := bD 26 []
def hF (a:St):Option U:=ek ax F hE [.r,.r,.l,.r,.b,.i] f286 J n a
def fO:=iR ax F hE [.r,.r,.l,.r,.b] f286 aM 1
def o7 (b c:List Int)(d a:Int):hF F J (n+1) (fN b c d a)=br (decide (a<d)) (ck (bG a (b.length:Int)) (ck (bG a (c.length:Int)) (br ((aL b a 0) != (aL c a 0)) (J .ret (tp false)) (hF F J n (fN b c d (al (a+1))))))) (J (.exit 0) (sH)):=by kernel_rfl
def Lq (a:Bool):fO F .ret (tp a)=some (a,()):=by kernel_rfl
def Km: fO F (.exit 0) (sH)=some (true,()):=by kernel_rfl
def gj (a b:List Int):=bL ax F hE f286 an5 aM 1 (a,b,())
def Px (a b:List Int):gj F a b=br ((a.length:Int) != (b.length:Int)) (some (false,())) (hF F (fO F) F.n (fN a b (a.length:Int) 0)):=by kernel_rfl
def kr:Any:=.one ⟨an5,aM,1,fun x=>gj F0 x.1 x.2.1⟩
def wC:bb 286 kr:=aC ax trivial func286 hE (by kernel_rfl)
def YX:=[(286,kr)]
def mc (a b:D9):=bL YX F ad f232 Bh aM 1 (a,b,())
def Va (a b:D9):mc F a b=br (a.1==b.1) (br (a.2.1.toList==b.2.1.toList) ((gj F0 a.2.2 b.2.2).bind fun c=>some (c.1,())) (some (false,()))) (some (false,())):=by kernel_rfl
def nO:Any:=.one ⟨Bh,aM,1,fun x=>mc F0 x.1 x.2.1⟩
def Ac:bb 232 nO:=aC YX ⟨wC,trivial⟩ func232 ad (by kernel_rfl)
def YY:=[(141,z6)]
def e7 (s:ByteArray):=bL YY F ad f94 df aM 1 (s,())
def alU (s:ByteArray):e7 F s=(Cs F0 s).bind fun a=>some (a.2.1,()):=by kernel_rfl
def e8:Any:=.one ⟨df,aM,1,fun x=>e7 F0 x.1⟩
def iB:bb 94 e8:=aC YY ⟨NW,trivial⟩ func94 ad (by kernel_rfl)
def YZ:=[(141,z6)]
def pY (s:ByteArray):=bL YZ F ad f95 df dq 1 (s,())
def alV (s:ByteArray):pY F s=(Cs F0 s).bind fun a=>br ((a.1.length:Int)==0) (some (0,())) (ck (bG (al ((a.1.length:Int)-1)) (a.1.length:Int)) (some ((aL a.1 (al ((a.1.length:Int)-1)) (0,[])).1,()))):=by kernel_rfl
def uZ:Any:=.one ⟨df,dq,1,fun x=>pY F0 x.1⟩
def Kn:bb 95 uZ:=aC YZ ⟨NW,trivial⟩ func95 ad (by kernel_rfl)
def Y0:=[(89,ee),(91,F9)]
def E2 (c:D1):=bL Y0 F ad f57 Gt dq 1 (c,())
def alW (c:D1):E2 F c=(gh F0 c).bind fun a=>br (!a.1) (some (0,())) ((E1 F0 c).bind fun b=>some (al (c.1-b.1),())):=by kernel_rfl
def Ga:Any:=.one ⟨Gt,dq,1,fun x=>E2 F0 x.1⟩
def Vb:bb 57 Ga:=aC Y0 ⟨gi,U9,trivial⟩ func57 ad (by kernel_rfl)
def agQ:=[(57,Ga),(89,ee),(90,Ab),(94,e8),(95,uZ),(232,nO),(284,Pw)]
def wD (c:D1)(q:D9):=bL agQ F ad f227 LQ aM 1 (c,q,())
def arW (c:D1)(q:D9):wD F c q=(gh F0 c).bind fun a=>br (!a.1) (some (false,())) ((QI F0).bind fun b=>(mc F0 q b.1).bind fun d=>br d.1 (some (true,())) (br (decide (q.1>=1)) ((e7 F0 q.2.1).bind fun e=>br e.1 ((pY F0 q.2.1).bind fun f=>br (q.1==f.1) ((vC F0 c.1 q.2.2).bind fun g=>br g.1 ((E2 F0 c).bind fun h=>some (decide ((q.2.2.length:Int)>=h.1),())) (some (false,()))) (some (false,()))) (some (false,()))) (some (false,())))):=by kernel_rfl
def tr:Any:=.one ⟨LQ,aM,1,fun x=>wD F0 x.1 x.2.1⟩
def Is:bb 227 tr:=aC agQ ⟨Vb,gi,NX,iB,Kn,Ac,aiz,trivial⟩ func227 ad (by kernel_rfl)
def Y1:=[(93,b9),(94,e8),(227,tr)]
def wE (c:D1)(s:D13):=bL Y1 F ad f160 agA aM 1 (c,s,())
def alX (c:D1)(s:D13):wE F c s=(bw F0 s.1 0 60).bind fun a=>br a.1 ((bw F0 s.2.1 0 60).bind fun b=>br b.1 ((wD F0 c s.2.2.1).bind fun d=>br d.1 ((e7 F0 s.2.2.2).bind fun e=>some (e.1,())) (some (false,()))) (some (false,()))) (some (false,())):=by kernel_rfl
def Gb:Any:=.one ⟨agA,aM,1,fun x=>wE F0 x.1 x.2.1⟩
def Vc:bb 160 Gb:=aC Y1 ⟨cM,iB,Is,trivial⟩ func160 ad (by kernel_rfl)
def DO (a b:D4):=bL ax F ad f237 ayS aM 1 (a,b,())
def aeS (a b:D4):DO F a b=br (decide (a.1<b.1)) (some (true,())) (br (a.1==b.1) (some (decide (a.2.2.2<b.2.2.2),())) (some (false,()))):=by kernel_rfl
def MI:Any:=.one ⟨ayS,aM,1,fun x=>DO F0 x.1 x.2.1⟩
def aeT:bb 237 MI:=aC ax trivial func237 ad (by kernel_rfl)
def DP:=[(228,oc),(237,MI)]
def DQ:Nat->Option Hint:=look [(2,{live:=[0,5,6,7],xl:=[0],rl:=[2]})]
def nP (p a:List D4)(b c:Int):= bD 33 [(0,jN 99 (K4) p),(5,jN 99 (K4) a),(6,bd b),(7,bd c)]
def Gc (a:Bool):= bD 33 [(2,ED a)]
def Py (p:List D4):= bD 33 [(0,jN 99 (K4) p)]
def tt (a:St):Option U:=ek DP F DQ [.r,.l,.r,.b,.i] f161 J n a
def u0:=iR DP F DQ [.r,.l,.r,.b] f161 aM 1
def Ko (p b:List D4)(c a:Int):tt F J (n+1) (nP p b c a)=br (decide (a<c)) (ck (bG a (b.length:Int)) ((wB F0 (aL b a K4.az)).bind fun d=>br (!d.1) (J .ret (Gc false)) (br (decide (a>0)) (ck (bG (al (a-1)) (p.length:Int)) ((DO F0 (aL p (al (a-1)) K4.az) (aL b a K4.az)).bind fun e=>br (!e.1) (J .ret (Gc false)) (tt F J n (nP p b c (al (a+1)))))) (tt F J n (nP p b c (al (a+1))))))) (J (.exit 0) (Py p)):=by kernel_rfl
def aeU (a:Bool):u0 F .ret (Gc a)=some (a,()):=by kernel_rfl
def acz (p:List D4):u0 F (.exit 0) (Py p)=some (decide ((p.length:Int)<=12),()):=by kernel_rfl
def MJ (p:D5):=bL DP F DQ f161 kv aM 1 (p,())
def alY (p:D5):MJ F p=tt F (u0 F) F.n (nP p p (p.length:Int) 0):=by kernel_rfl
def SF:Any:=.one ⟨kv,aM,1,fun x=>MJ F0 x.1⟩
def alZ:bb 161 SF:=aC DP ⟨zv,aeT,trivial⟩ func161 DQ (by kernel_rfl)
def Y2:=[(89,ee),(90,Ab),(93,b9),(94,e8),(95,uZ)]
def E3 (c:D1)(p:D9):=bL Y2 F ad f226 LQ aM 1 (c,p,())
def al0 (c:D1)(p:D9):E3 F c p=(gh F0 c).bind fun b=>br b.1 ((bw F0 p.1 1 60).bind fun d=>br d.1 (br (p.2.1.toList==aj.toList) ((vC F0 c.1 p.2.2).bind fun a=>br a.1 (some (decide ((p.2.2.length:Int)>0),())) (some (false,()))) ((e7 F0 p.2.1).bind fun e=>br e.1 ((pY F0 p.2.1).bind fun f=>br (f.1==p.1) ((vC F0 c.1 p.2.2).bind fun a=>br a.1 (some (decide ((p.2.2.length:Int)>0),())) (some (false,()))) (some (false,()))) (some (false,())))) (some (false,()))) (some (false,())):=by kernel_rfl
def Ge:Any:=.one ⟨LQ,aM,1,fun x=>E3 F0 x.1 x.2.1⟩
def Vd:bb 226 Ge:=aC Y2 ⟨gi,NX,cM,iB,Kn,trivial⟩ func226 ad (by kernel_rfl)
def DR (x:Int):=bL ax F ad f314 dq aM 1 (x,())
def Pz (x:Int):DR F x=some (x != x,()):=by kernel_rfl
def MK:Any:=.one ⟨dq,aM,1,fun x=>DR F0 x.1⟩
def aeV:bb 314 MK:=aC ax trivial func314 ad (by kernel_rfl)
def ML:=[(314,MK)]
def u1 (x y:Int):=bL ML F ad f288 apE dq 1 (x,y,())
def aai (x y:Int):u1 F x y=(DR F0 x).bind fun b=>(DR F0 y).bind fun a=>br b.1 (br a.1 (some (0,())) (some (-1,()))) (br a.1 (some (1,())) (br (decide (x<y)) (some (-1,())) (br (decide (x>y)) (some (1,())) (some (0,()))))):=by kernel_rfl
def GW:Any:=.one ⟨apE,dq,1,fun x=>u1 F0 x.1 x.2.1⟩
def aaj:bb 288 GW:=aC ML ⟨aeV,trivial⟩ func288 ad (by kernel_rfl)
def r2 (x:ByteArray):=bL ax F ad f315 df aM 1 (x,())
def GX (x:ByteArray):r2 F x=some (!(x.toList==x.toList),()):=by kernel_rfl
def E4:Any:=.one ⟨df,aM,1,fun x=>r2 F0 x.1⟩
def XA:bb 315 E4:=aC ax trivial func315 ad (by kernel_rfl)
def E5:=[(315,E4)]
def mK (x y:ByteArray):=bL E5 F ad f289 RY dq 1 (x,y,())
def Td (x y:ByteArray):mK F x y=(r2 F0 x).bind fun b=>(r2 F0 y).bind fun a=>br b.1 (br a.1 (some (0,())) (some (-1,()))) (br a.1 (some (1,())) (br (Op.bytesLess x.toList y.toList) (some (-1,())) (br (!(Op.bytesLess x.toList y.toList || (x.toList==y.toList))) (some (1,())) (some (0,()))))):=by kernel_rfl
def Ad:Any:=.one ⟨RY,dq,1,fun x=>mK F0 x.1 x.2.1⟩
def Te:bb 289 Ad:=aC E5 ⟨XA,trivial⟩ func289 ad (by kernel_rfl)
def GY:=[(288,GW),(289,Ad)]
def o8 (a b:D9):=bL GY F ad f238 Bh dq 1 (a,b,())
def Ve (a b:D9):o8 F a b=(u1 F0 a.1 b.1).bind fun c=>br (c.1 != 0) (some (c.1,())) ((mK F0 a.2.1 b.2.1).bind fun d=>some (d.1,())):=by kernel_rfl
def Bs:Any:=.one ⟨Bh,dq,1,fun x=>o8 F0 x.1 x.2.1⟩
def Vf:bb 238 Bs:=aC GY ⟨aaj,Te,trivial⟩ func238 ad (by kernel_rfl)
def Ae:=[(226,Ge),(238,Bs)]
def Af:Nat->Option Hint:=look [(2,{live:=[1,2,7,8,9],xl:=[1],rl:=[4]})]
def lE (b d:List D9)(e f c a:Int):= dN 36 [(1,jN 29 (K9) b),bX 2,(7,jN 29 (K9) d),(8,bd e),(9,bd f)] [(2,[aq c,aq a])] []
def Ct (a:Bool):= bD 36 [(4,ED a)]
def MM (a:List D9):= bD 36 [(1,jN 29 (K9) a)]
def pZ (a:St):Option U:=ek Ae F Af [.r,.l,.r,.b,.i] f162 J n a
def r3:=iR Ae F Af [.r,.l,.r,.b] f162 aM 1
def GZ (b d:List D9)(f a c e:Int):pZ F J (n+1) (lE b d f a c e)=br (decide (a<f)) (ck (bG a (d.length:Int)) ((E3 F0 (c,e) (aL d a K9.az)).bind fun g=>br (!g.1) (J .ret (Ct false)) (br (decide (a>0)) (ck (bG (al (a-1)) (b.length:Int)) ((o8 F0 (aL b (al (a-1)) K9.az) (aL d a K9.az)).bind fun h=>br (decide (h.1>=0)) (J .ret (Ct false)) (pZ F J n (lE b d f (al (a+1)) c e)))) (pZ F J n (lE b d f (al (a+1)) c e))))) (J (.exit 0) (MM b)):=by kernel_rfl
def acA (a:Bool):r3 F .ret (Ct a)=some (a,()):=by kernel_rfl
def aak (a:List D9):r3 F (.exit 0) (MM a)=some (decide ((a.length:Int)<=20),()):=by kernel_rfl
def It (c:D1)(a:D14):=bL Ae F Af f162 ayT aM 1 (c,a,())
def aiA (c:D1)(a:D14):It F c a=pZ F (r3 F) F.n (lE a a (a.length:Int) 0 c.1 c.2):=by kernel_rfl
def PA:Any:=.one ⟨ayT,aM,1,fun x=>It F0 x.1 x.2.1⟩
def aiB:bb 162 PA:=aC Ae ⟨Vd,Vf,trivial⟩ func162 Af (by kernel_rfl)
def Y3:=[(93,b9)]
def MN (d:D15):=bL Y3 F ad f163 wh aM 1 (d,())
def al1 (d:D15):MN F d=br (decide ((d.1.length:Int)<=100000)) ((bw F0 d.2 0 (d.1.length:Int)).bind fun a=>some (a.1,())) (some (false,())):=by kernel_rfl
def SG:Any:=.one ⟨wh,aM,1,fun x=>MN F0 x.1⟩
def al2:bb 163 SG:=aC Y3 ⟨cM,trivial⟩ func163 ad (by kernel_rfl)
def acB:Nat->Option Hint:=look [(900008,{live:=[],mat:=[(1,0,K22)]})]
def QJ (m:T2):=bL ax F acB f224 oK oK 0 (m,())
def aop (m:T2):QJ F m=br (m.1==1) (some ((m.1,0,m.2.2.1,(0,aj,[]),(0,aj,[]),0,0,0,0,0),())) (br (m.1==2) (some ((m.1,0,(aj,0,aj,[]),m.2.2.2.1,(0,aj,[]),0,0,0,0,0),())) (br (m.1==3) (some ((m.1,m.2.1,(aj,0,aj,[]),(0,aj,[]),m.2.2.2.2.1,m.2.2.2.2.2.1,0,0,0,0),())) (br (m.1==4) (some ((m.1,0,(aj,0,aj,[]),(0,aj,[]),(0,aj,[]),0,m.2.2.2.2.2.2),())) (some ((m.1,0,(aj,0,aj,[]),(0,aj,[]),(0,aj,[]),0,0,0,0,0),()))))):=by kernel_rfl
def Vg:Any:=.one ⟨oK,oK,0,fun x=>QJ F0 x.1⟩
def aoq:bb 224 Vg:=aC ax trivial func224 acB (by kernel_rfl)
def PB:=[(232,nO)]
def Ag (a b:D16):=bL PB F ad f281 ayU aM 1 (a,b,())
def acC (a b:D16):Ag F a b=br (a.1.toList==b.1.toList) ((mc F0 a.2 b.2).bind fun c=>some (c.1,())) (some (false,())):=by kernel_rfl
def Kp:Any:=.one ⟨ayU,aM,1,fun x=>Ag F0 x.1 x.2.1⟩
def acD:bb 281 Kp:=aC PB ⟨Ac,trivial⟩ func281 ad (by kernel_rfl)
def SH:=[(286,kr)]
def DS (a b:D9):=bL SH F ad f282 Bh aM 1 (a,b,())
def aeW (a b:D9):DS F a b=br (a.1==b.1) (br (a.2.1.toList==b.2.1.toList) ((gj F0 a.2.2 b.2.2).bind fun c=>some (c.1,())) (some (false,()))) (some (false,())):=by kernel_rfl
def MO:Any:=.one ⟨Bh,aM,1,fun x=>DS F0 x.1 x.2.1⟩
def aeX:bb 282 MO:=aC SH ⟨wC,trivial⟩ func282 ad (by kernel_rfl)
def Vh:=[(232,nO),(281,Kp),(282,MO)]
def Iu (a b:T2):=bL Vh F ad f223 ayV aM 1 (a,b,())
def aiC (a b:T2):Iu F a b=br (a.1==b.1) (br (a.2.1==b.2.1) ((Ag F0 a.2.2.1 b.2.2.1).bind fun c=>br c.1 ((DS F0 a.2.2.2.1 b.2.2.2.1).bind fun d=>br d.1 ((mc F0 a.2.2.2.2.1 b.2.2.2.2.1).bind fun e=>br e.1 (br (a.2.2.2.2.2.1==b.2.2.2.2.2.1) (some ((a.2.2.2.2.2.2.1==b.2.2.2.2.2.2.1)&&((a.2.2.2.2.2.2.2.1==b.2.2.2.2.2.2.2.1)&&((a.2.2.2.2.2.2.2.2.1==b.2.2.2.2.2.2.2.2.1)&&((a.2.2.2.2.2.2.2.2.2==b.2.2.2.2.2.2.2.2.2)&&true))),())) (some (false,()))) (some (false,()))) (some (false,()))) (some (false,()))) (some (false,()))) (some (false,())):=by kernel_rfl
def PC:Any:=.one ⟨ayV,aM,1,fun x=>Iu F0 x.1 x.2.1⟩
def aiD:bb 223 PC:=aC Vh ⟨Ac,acD,aeX,trivial⟩ func223 ad (by kernel_rfl)
def dQ:Nat->Option Hint:=look [(2,{live:=[0,1,5],rl:=[4]})]
def dj (s:ByteArray)(c i:Int):= bD 19 [(0,ZU s),(1,.v (.c (.int .u8 c))),(5,bd i)]
def kx (a:Int):= bD 19 [(4,bd a)]
def Ah   := bD 19 []
def dR (a:St):Option U:=ek ax F dQ [.r,.l,.r,.b,.i] f338 J n a
def fe:=iR ax F dQ [.r,.l,.r,.b] f338 dq 1
def iC (s:ByteArray)(c i:Int):dR F J (n+1) (dj s c i)=br (decide (i>=0)) (ck (bG i (s.size:Int)) (br ((ij s i)==c) (J .ret (kx i)) (dR F J n (dj s c (al (i-1)))))) (J (.exit 0) (Ah)):=by kernel_rfl
def Ai (a:Int):fe F .ret (kx a)=some (a,()):=by kernel_rfl
def hG (s:ByteArray)(c:Int):=bL ax F dQ f338 X4 dq 1 (s,c,())
def Cu (s:ByteArray)(c:Int):hG F s c=dR F (fe F) F.n (dj s c (al ((s.size:Int)-1))):=by kernel_rfl
def ky:Any:=.one ⟨X4,dq,1,fun x=>hG F0 x.1 x.2.1⟩
def Cv:bb 338 ky:=aC ax trivial func338 dQ (by kernel_rfl)
def wF:=[(338,ky)]
def oy (s:ByteArray)(c:Int):=bL wF F ad f313 X4 dq 1 (s,c,())
def NY (s:ByteArray)(c:Int):oy F s c=(hG F0 s c).bind fun a=>some (a.1,()):=by kernel_rfl
def sI:Any:=.one ⟨X4,dq,1,fun x=>oy F0 x.1 x.2.1⟩
def NZ:bb 313 sI:=aC wF ⟨Cv,trivial⟩ func313 ad (by kernel_rfl)
def agR:=[(94,e8),(313,sI)]
def PD (s:ByteArray):=bL agR F ad f283 df df 1 (s,())
def arX (s:ByteArray):PD F s=(e7 F0 s).bind fun b=>br (!b.1) (some (aj,())) (br (s.toList==aj.toList) (some (aj,())) ((oy F0 s 47).bind fun a=>ck (Qw 0 a.1 (s.size:Int)) (some (s.extract (0:Int).toNat a.1.toNat,())))):=by kernel_rfl
def Y4:Any:=.one ⟨df,df,1,fun x=>PD F0 x.1⟩
def arY:bb 283 Y4:=aC agR ⟨iB,NZ,trivial⟩ func283 ad (by kernel_rfl)
def Vi:=[(94,e8),(227,tr),(283,Y4)]
def Iv (c:D1)(b:D16):=bL Vi F ad f225 ayW aM 1 (c,b,())
def aiE (c:D1)(b:D16):Iv F c b=(wD F0 c b.2).bind fun a=>br a.1 (br (!(b.1.toList==aj.toList)) ((e7 F0 b.1).bind fun d=>br d.1 ((PD F0 b.1).bind fun e=>some (e.1.toList==b.2.2.1.toList,())) (some (false,()))) (some (false,()))) (some (false,())):=by kernel_rfl
def PE:Any:=.one ⟨ayW,aM,1,fun x=>Iv F0 x.1 x.2.1⟩
def aiF:bb 225 PE:=aC Vi ⟨iB,Is,arY,trivial⟩ func225 ad (by kernel_rfl)
def acE:=[(89,ee),(93,b9),(223,PC),(224,Vg),(225,PE),(226,Ge),(227,tr),(228,oc)]
def iD (c:D1)(m:T2):=bL acE F ad f149 agC aM 1 (c,m,())
def aor (c:D1)(m:T2):iD F c m=(gh F0 c).bind fun a=>br (!a.1) (some (false,())) ((QJ F0 m).bind fun b=>(Iu F0 m b.1).bind fun d=>br (!d.1) (some (false,())) (br (m.1==1) ((Iv F0 c m.2.2.1).bind fun e=>some (e.1,())) (br (m.1==2) ((E3 F0 c m.2.2.2.1).bind fun f=>br f.1 (some (!(m.2.2.2.1.2.1.toList==aj.toList),())) (some (false,()))) (br (m.1==3) ((bw F0 m.2.1 1 60).bind fun g=>br g.1 ((wD F0 c m.2.2.2.2.1).bind fun h=>br h.1 ((bw F0 m.2.2.2.2.2.1 0 (al (c.1-1))).bind fun i=>some (i.1,())) (some (false,()))) (some (false,()))) (br (m.1==4) ((wB F0 m.2.2.2.2.2.2).bind fun j=>some (j.1,())) (some (false,()))))))):=by kernel_rfl
def Aj:Any:=.one ⟨agC,aM,1,fun x=>iD F0 x.1 x.2.1⟩
def N1:bb 149 Aj:=aC acE ⟨gi,cM,aiD,aoq,aiF,Vd,Is,zv,trivial⟩ func149 ad (by kernel_rfl)
def Iw:=[(89,ee),(93,b9),(149,Aj),(160,Gb),(161,SF),(162,PA),(163,SG)]
def Ix:Nat->Option Hint:=look [(4,{live:=[2,3,64,65,66],rl:=[4]})]
def Ak (q:List A7)(s t c a r b d e f g:Int)(h:ByteArray)(i:List Int)(j:ByteArray)(k:List D4)(l:List D9)(m:List Int)(o:Int)(p:List A7):= dN 92 [bX 2,bX 3,(64,jN 125 (w5) q),(65,bd s),(66,bd t)] [(2,[aq c,aq a]),(3,[aq r,aq b,aq d,aq e,aq f,aq g,.str h,.ro false 3 (.int .i64) i,.str j,.ro false 99 (K4) k,.ro false 29 (K9) l,.ro false 5 (.int .u8) m,aq o,.ro false 125 (w5) p])] []
def Al (a:Bool):= bD 92 [(4,ED a)]
def SJ   := bD 92 []
def Iy (a:St):Option U:=ek Iw F Ix [.r,.r,.l,.r,.b,.i] f92 J n a
def An:=iR Iw F Ix [.r,.r,.l,.r,.b] f92 aM 1
def MP (b:List A7)(e a c d r f g h i j:Int)(k:ByteArray)(l:List Int)(m:ByteArray)(o:List D4)(p:List D9)(q:List Int)(s:Int)(t:List A7):Iy F J (n+1) (Ak b e a c d r f g h i j k l m o p q s t)=br (decide (a<e)) (ck (bG a (b.length:Int)) ((iD F0 (c,d) (aL b a w5.az).2).bind fun u=>br (!u.1) (J .ret (Al false)) ((bw F0 (aL b a w5.az).1 0 (al (c-1))).bind fun v=>br (!v.1) (J .ret (Al false)) (br ((aL b a w5.az).1==r) (J .ret (Al false)) (Iy F J n (Ak b e (al (a+1)) c d r f g h i j k l m o p q s t)))))) (J (.exit 0) (SJ)):=by kernel_rfl
def aiG (a:Bool):An F .ret (Al a)=some (a,()):=by kernel_rfl
def aeY: An F (.exit 0) (SJ)=some (true,()):=by kernel_rfl
def p0 (c:D1)(r:bq):=bL Iw F Ix f92 Lp aM 1 (c,r,())
def aos (c:D1)(r:bq):p0 F c r=(gh F0 c).bind fun a=>br (!a.1) (some (false,())) ((bw F0 r.1 0 (al (c.1-1))).bind fun b=>br (!b.1) (some (false,())) ((bw F0 r.2.1 1 60).bind fun d=>br (!d.1) (some (false,())) ((bw F0 r.2.2.1 0 60).bind fun e=>br (!e.1) (some (false,())) ((wE F0 c r.2.2.2.1).bind fun f=>br (!f.1) (some (false,())) ((MJ F0 r.2.2.2.2.1).bind fun g=>br (!g.1) (some (false,())) ((It F0 c r.2.2.2.2.2.1).bind fun h=>br (!h.1) (some (false,())) ((MN F0 r.2.2.2.2.2.2.1).bind fun i=>br (!i.1) (some (false,())) (br (decide ((r.2.2.2.2.2.2.2.length:Int)>30)) (some (false,())) (Iy F (An F) F.n (Ak r.2.2.2.2.2.2.2 (r.2.2.2.2.2.2.2.length:Int) 0 c.1 c.2 r.1 r.2.1 r.2.2.1 r.2.2.2.1.1 r.2.2.2.1.2.1 r.2.2.2.1.2.2.1.1 r.2.2.2.1.2.2.1.2.1 r.2.2.2.1.2.2.1.2.2 r.2.2.2.1.2.2.2 r.2.2.2.2.1 r.2.2.2.2.2.1 r.2.2.2.2.2.2.1.1 r.2.2.2.2.2.2.1.2 r.2.2.2.2.2.2.2)))))))))):=by kernel_rfl
def p1:Any:=.one ⟨Lp,aM,1,fun x=>p0 F0 x.1 x.2.1⟩
def DT:bb 92 p1:=aC Iw ⟨gi,cM,N1,Vc,alZ,aiB,al2,trivial⟩ func92 Ix (by kernel_rfl)
def DU:=[(93,b9)]
def DV:Nat->Option Hint:=look [(4,{live:=[0,3],mat:=[(3,5,.int .u8)],xl:=[0,3],rl:=[2]})]
def nQ (a:Int)(b:List Int):= dN 23 [(0,bd a),(3,.v (.c (.own 1000000 none)))] [] [aF 1000000 5 (.int .u8) b]
def PF (a:Int)(b:List Int):= dN 23 [(0,bd a),(3,.v (.c (.own 1000000 none)))] [] [aF 1000000 5 (.int .u8) b]
def tu (a:St):Option U:=ek DU F DV [.r,.r,.r,.l,.b,.i] f167 J n a
def u2:=iR DU F DV [.r,.r,.r,.l,.b] f167 iY 2
def mL (a:Int)(b:List Int):tu F J (n+1) (nQ a b)=br (decide (a>=128)) (ck (dV F b.length [IntKind.wrap .u8 (al ((Int.tmod a 128)+128))].length 1) (tu F J n (nQ (al (Int.tdiv a 128)) (b++[IntKind.wrap .u8 (al ((Int.tmod a 128)+128))])))) (J (.exit 0) (PF a b)):=by kernel_rfl
def o9 (a:Int)(b:List Int):u2 F (.exit 0) (PF a b)=ck (dV F b.length [IntKind.wrap .u8 (a)].length 1) (some (b++[IntKind.wrap .u8 (a)],())):=by kernel_rfl
def e9 (a:Int):=bL DU F DV f167 dq iY 2 (a,())
def Vj (a:Int):e9 F a=(bw F0 a 0 2147483647).bind fun b=>br (!b.1) (some ([],())) (tu F (u2 F) F.n (nQ a [])):=by kernel_rfl
def jA:Any:=.one ⟨dq,iY,2,fun x=>e9 F0 x.1⟩
def p2:bb 167 jA:=aC DU ⟨cM,trivial⟩ func167 DV (by kernel_rfl)
def DW:=[(93,b9),(167,jA)]
def DX:Nat->Option Hint:=look [(5,{live:=[0,1,7,8],rl:=[4,5,6]})]
def u3 (b:List Int)(a c i:Int):= bD 55 [(0,jN 5 (.int .u8) b),(1,bd a),(7,bd c),(8,bd i)]
def Gf (a b:Int)(c:Bool):= bD 55 [(4,bd a),(5,bd b),(6,ED c)]
def Cw   := bD 55 []
def DY (a:St):Option U:=ek DW F DX [.r,.r,.r,.l,.r,.b,.i] f221 J n a
def u4:=iR DW F DX [.r,.r,.r,.l,.r,.b] f221 apG 1
def Kq (b:List Int)(a c i:Int):DY F J (n+1) (u3 b a c i)=br (decide (i<5)) (br (decide ((al (a+i))<(b.length:Int))) (ck (bG (al (a+i)) (b.length:Int)) (ck (decide (0<=(al (7*i)))) (br (decide ((al (aL b (al (a+i)) 0))<128)) ((e9 F0 (al (c+(al ((Int.tmod (al (aL b (al (a+i)) 0)) 128)*2 ^ (min (al (7*i)).toNat 64)))))).bind fun d=>br ((d.1.length:Int) != (al (i+1))) (J .ret (Gf 0 0 false)) (J .ret (Gf (al (c+(al ((Int.tmod (al (aL b (al (a+i)) 0)) 128)*2 ^ (min (al (7*i)).toNat 64))))) (al ((al (a+i))+1)) true))) (DY F J n (u3 b a (al (c+(al ((Int.tmod (al (aL b (al (a+i)) 0)) 128)*2 ^ (min (al (7*i)).toNat 64))))) (al (i+1))))))) (J (.exit 0) (Cw))) (J (.exit 0) (Cw)):=by kernel_rfl
def PG (a b:Int)(c:Bool):u4 F .ret (Gf a b c)=some (a,b,c,()):=by kernel_rfl
def MQ: u4 F (.exit 0) (Cw)=some (0,0,false,()):=by kernel_rfl
def wG (b:List Int)(a:Int):=bL DW F DX f221 agD apG 1 (b,a,())
def al3 (b:List Int)(a:Int):wG F b a=(bw F0 a 0 (al ((b.length:Int)-1))).bind fun c=>br (!c.1) (some (0,0,false,())) (DY F (u4 F) F.n (u3 b a 0 0)):=by kernel_rfl
def Gg:Any:=.one ⟨agD,apG,1,fun x=>wG F0 x.1 x.2.1⟩
def Vk:bb 221 Gg:=aC DW ⟨cM,p2,trivial⟩ func221 DX (by kernel_rfl)
def MR:=[(221,Gg)]
def bB (r:D33):=fJ MR F ad f145 gy 0 .cur dq gy 1 (r,())
def aal (r:D33):bB F r=(wG F0 r.1 r.2.1).bind fun a=>br r.2.2 (some ((0,()),(r.1,r.2.1,true),())) (br (!a.2.2.1) (some ((0,()),(r.1,r.2.1,true),())) (some ((a.1,()),(r.1,a.2.1,r.2.2),()))):=by kernel_rfl
def gZ:Any:=.two ⟨gy,0,.cur,dq,1,gy,fun x=>bB F0 x.1⟩
def mM:bb 145 gZ:=jh MR ⟨Vk,trivial⟩ func145 ad (by kernel_rfl)
def Vl:=[(221,Gg)]
def mN (b:List Int)(a:Int):=bL Vl F ad f222 agD ayX 1 (b,a,())
def aiH (b:List Int)(c:Int):mN F b c=(wG F0 b c).bind fun a=>br (!a.2.2.1) (some (aj,0,false,())) (br (decide (a.1>(al ((b.length:Int)-a.2.1)))) (some (aj,0,false,())) (ck (Qw a.2.1 (al (a.2.1+a.1)) (b.length:Int)) (some (strOf ((b.take (al (a.2.1+a.1)).toNat).drop a.2.1.toNat),al (a.2.1+a.1),true,())))):=by kernel_rfl
def Cx:Any:=.one ⟨agD,ayX,1,fun x=>mN F0 x.1 x.2.1⟩
def SK:bb 222 Cx:=aC Vl ⟨Vk,trivial⟩ func222 ad (by kernel_rfl)
def Kr:=[(222,Cx)]
def fw (r:D33):=fJ Kr F ad f146 gy 0 .cur df gy 1 (r,())
def XB (r:D33):fw F r=(mN F0 r.1 r.2.1).bind fun a=>br r.2.2 (some ((aj,()),(r.1,r.2.1,true),())) (br (!a.2.2.1) (some ((aj,()),(r.1,r.2.1,true),())) (some ((a.1,()),(r.1,a.2.1,r.2.2),()))):=by kernel_rfl
def j4:Any:=.two ⟨gy,0,.cur,df,1,gy,fun x=>fw F0 x.1⟩
def sU:bb 146 j4:=jh Kr ⟨SK,trivial⟩ func146 ad (by kernel_rfl)
def mO:=[(145,gZ)]
def mP:Nat->Option Hint:=look [(4,{live:=[0,3,4,5],mat:=[(3,3,.int .i64)],xl:=[3],rl:=[2]})]
def j5 (d i:Int)(a:List Int)(b:Int)(c:Bool)(e:List Int):St:={nt:=26,tm:=[(0,.v (.c (.ptr 4000000 0))),(3,.v (.c (.own 1000000 none))),(4,bd d),(5,bd i)],bx:=[(4000000,[.ro true 5 (.int .u8) a,aq b,.bool c])],bl:=[aF 1000000 3 (.int .i64) e],sp:=.v (.c (.ptr 4000000 0))}
def iW (a:List Int)(b:Int)(c:Bool)(d:List Int):St:={nt:=26,tm:=[(3,.v (.c (.own 1000000 none)))],bx:=[(4000000,[.ro true 5 (.int .u8) a,aq b,.bool c])],bl:=[aF 1000000 3 (.int .i64) d],sp:=.v (.c (.ptr 4000000 0))}
def mQ (a:St):Option U:=ek mO F mP [.r,.r,.r,.l,.r,.b,.i] f148 J n a
def p3:=Lo mO F mP [.r,.r,.r,.l,.r,.b] f148 .cur pt gy 2
def wH (f i:Int)(d:List Int)(e:Int)(a:Bool)(c:List Int):mQ F J (n+1) (j5 f i d e a c)=br (decide (i<f)) (br (!a) ((bB F0 (d,e,a)).bind fun b=>ck (dV F c.length [b.1.1].length 8) (mQ F J n (j5 f (al (i+1)) b.2.1.1 b.2.1.2.1 b.2.1.2.2 (c++[b.1.1])))) (J (.exit 0) (iW d e a c))) (J (.exit 0) (iW d e a c)):=by kernel_rfl
def QK (a:List Int)(b:Int)(c:Bool)(d:List Int):p3 F (.exit 0) (iW a b c d)=some ((d,()),(a,b,c),()):=by kernel_rfl
def lF (r:D33):=fJ mO F mP f148 gy 0 .cur pt gy 2 (r,())
def XC (r:D33):lF F r=(bB F0 r).bind fun a=>mQ F (p3 F) F.n (j5 a.1.1 0 a.2.1.1 a.2.1.2.1 a.2.1.2.2 []):=by kernel_rfl
def p4:Any:=.two ⟨gy,0,.cur,pt,2,gy,fun x=>lF F0 x.1⟩
def G0:bb 148 p4:=jh mO ⟨mM,trivial⟩ func148 mP (by kernel_rfl)
end
end Go.Am.Tryz
namespace Go.Am.Tryz
open Go.Am Go.Proofs Go.Proofs.Tryz
noncomputable section
variable {U:Type} (F:nY) (J:Ex->St->Option U) (n:Nat)
def PH:=[(145,gZ),(146,j4),(148,p4)]
def lG (r:D33):=fJ PH F ad f147 gy 0 .cur ez gy 2 (r,())
def acF (r:D33):lG F r=(bB F0 r).bind fun a=>(fw F0 a.2.1).bind fun b=>(lF F0 b.2.1).bind fun c=>some (((a.1.1,b.1.1,c.1.1),()),c.2.1,()):=by kernel_rfl
def vD:Any:=.two ⟨gy,0,.cur,ez,2,gy,fun x=>lG F0 x.1⟩
def MS:bb 147 vD:=jh PH ⟨mM,sU,G0,trivial⟩ func147 ad (by kernel_rfl)
def acG:=[(145,gZ),(146,j4),(147,vD),(148,p4),(149,Aj)]
def Ks (c:D1)(b:List Int):=bL acG F ad f74 RT ayY 2 (c,b,())
def aot (c:D1)(b:List Int):Ks F c b=(bB F0 (b,0,false)).bind fun a=>br (a.1.1==1) ((fw F0 a.2.1).bind fun i=>(lG F0 i.2.1).bind fun e=>br e.2.1.2.2 (some ((0,0,(aj,0,aj,[]),(0,aj,[]),(0,aj,[]),0,0,0,0,0),false,())) (br (e.2.1.2.1 != (b.length:Int)) (some ((0,0,(aj,0,aj,[]),(0,aj,[]),(0,aj,[]),0,0,0,0,0),false,())) ((iD F0 c (a.1.1,0,(i.1.1,e.1.1),(0,aj,[]),(0,aj,[]),0,0,0,0,0)).bind fun d=>br (!d.1) (some ((0,0,(aj,0,aj,[]),(0,aj,[]),(0,aj,[]),0,0,0,0,0),false,())) (some ((a.1.1,0,(i.1.1,e.1.1),(0,aj,[]),(0,aj,[]),0,0,0,0,0),true,()))))) (br (a.1.1==2) ((bB F0 a.2.1).bind fun j=>(fw F0 j.2.1).bind fun k=>(lF F0 k.2.1).bind fun f=>br f.2.1.2.2 (some ((0,0,(aj,0,aj,[]),(0,aj,[]),(0,aj,[]),0,0,0,0,0),false,())) (br (f.2.1.2.1 != (b.length:Int)) (some ((0,0,(aj,0,aj,[]),(0,aj,[]),(0,aj,[]),0,0,0,0,0),false,())) ((iD F0 c (a.1.1,0,(aj,0,aj,[]),(j.1.1,k.1.1,f.1.1),(0,aj,[]),0,0,0,0,0)).bind fun d=>br (!d.1) (some ((0,0,(aj,0,aj,[]),(0,aj,[]),(0,aj,[]),0,0,0,0,0),false,())) (some ((a.1.1,0,(aj,0,aj,[]),(j.1.1,k.1.1,f.1.1),(0,aj,[]),0,0,0,0,0),true,()))))) (br (a.1.1==3) ((bB F0 a.2.1).bind fun l=>(bB F0 l.2.1).bind fun m=>(lG F0 m.2.1).bind fun g=>br g.2.1.2.2 (some ((0,0,(aj,0,aj,[]),(0,aj,[]),(0,aj,[]),0,0,0,0,0),false,())) (br (g.2.1.2.1 != (b.length:Int)) (some ((0,0,(aj,0,aj,[]),(0,aj,[]),(0,aj,[]),0,0,0,0,0),false,())) ((iD F0 c (a.1.1,l.1.1,(aj,0,aj,[]),(0,aj,[]),g.1.1,m.1.1,0,0,0,0)).bind fun d=>br (!d.1) (some ((0,0,(aj,0,aj,[]),(0,aj,[]),(0,aj,[]),0,0,0,0,0),false,())) (some ((a.1.1,l.1.1,(aj,0,aj,[]),(0,aj,[]),g.1.1,m.1.1,0,0,0,0),true,()))))) (br (a.1.1==4) ((bB F0 a.2.1).bind fun o=>(bB F0 o.2.1).bind fun p=>(bB F0 p.2.1).bind fun q=>(bB F0 q.2.1).bind fun h=>br h.2.1.2.2 (some ((0,0,(aj,0,aj,[]),(0,aj,[]),(0,aj,[]),0,0,0,0,0),false,())) (br (h.2.1.2.1 != (b.length:Int)) (some ((0,0,(aj,0,aj,[]),(0,aj,[]),(0,aj,[]),0,0,0,0,0),false,())) ((iD F0 c (a.1.1,0,(aj,0,aj,[]),(0,aj,[]),(0,aj,[]),0,o.1.1,p.1.1,q.1.1,h.1.1)).bind fun d=>br (!d.1) (some ((0,0,(aj,0,aj,[]),(0,aj,[]),(0,aj,[]),0,0,0,0,0),false,())) (some ((a.1.1,0,(aj,0,aj,[]),(0,aj,[]),(0,aj,[]),0,o.1.1,p.1.1,q.1.1,h.1.1),true,()))))) (br a.2.1.2.2 (some ((0,0,(aj,0,aj,[]),(0,aj,[]),(0,aj,[]),0,0,0,0,0),false,())) (br (a.2.1.2.1 != (b.length:Int)) (some ((0,0,(aj,0,aj,[]),(0,aj,[]),(0,aj,[]),0,0,0,0,0),false,())) ((iD F0 c (a.1.1,0,(aj,0,aj,[]),(0,aj,[]),(0,aj,[]),0,0,0,0,0)).bind fun d=>br (!d.1) (some ((0,0,(aj,0,aj,[]),(0,aj,[]),(0,aj,[]),0,0,0,0,0),false,())) (some ((a.1.1,0,(aj,0,aj,[]),(0,aj,[]),(0,aj,[]),0,0,0,0,0),true,())))))))):=by kernel_rfl
def Kt:Any:=.one ⟨RT,ayY,2,fun x=>Ks F0 x.1 x.2.1⟩
def Y5:bb 74 Kt:=aC acG ⟨mM,sU,MS,G0,N1,trivial⟩ func74 ad (by kernel_rfl)
def gk:=[(74,Kt),(89,ee),(90,Ab),(91,F9),(92,p1),(93,b9),(94,e8),(95,uZ)]
def gl:Nat->Option Hint:=look [(5,{live:=[1,3,54,55,56],xl:=[1,3],rl:=[2]}),(11,{live:=[1,3,73,74,75],xl:=[1,3],rl:=[2]}),(18,{live:=[3,99,100,101],rl:=[2]})]
def lH (b:List bK)(d e c a:Int):= dN 127 [bX 3,(99,jN 91 (cA) b),(100,bd d),(101,bd e)] [(3,[aq c,aq a])] []
def r4 (a:Bool):= bD 127 [(2,ED a)]
def MT   := bD 127 []
def p5 (a:St):Option U:=ek gk F gl [.r,.r,.r,.r,.r,.l,.r,.b,.i] f39 J n a
def lI:=iR gk F gl [.r,.r,.r,.r,.r,.l,.r,.b] f39 aM 1
def lJ (h:List bS)(i j w a:Int)(b:List Int)(d:List bq)(e:List bS)(f:List bK)(c g:Int):= dN 127 [bX 1,bX 3,(73,jN 95 (ew) h),(74,bd i),(75,bd j)] [(1,[aq w,aq a,.ro false 3 (.int .i64) b,.ro false 42 (ca) d,.ro false 95 (ew) e,.ro false 91 (cA) f]),(3,[aq c,aq g])] []
def Cy (a:Bool):= bD 127 [(2,ED a)]
def MU (w a:Int)(b:List Int)(d:List bq)(e:List bS)(f:List bK)(c g:Int):= dN 127 [bX 1,bX 3] [(1,[aq w,aq a,.ro false 3 (.int .i64) b,.ro false 42 (ca) d,.ro false 95 (ew) e,.ro false 91 (cA) f]),(3,[aq c,aq g])] []
def p6 (a:St):Option U:=ek gk F gl [.r,.r,.r,.r,.l,.r,.b,.i] f39 J n a
def lK:=iR gk F gl [.r,.r,.r,.r,.l,.r,.b] f39 aM 1
def lL (h:List bq)(i j w a:Int)(b:List Int)(d:List bq)(e:List bS)(f:List bK)(c g:Int):= dN 127 [bX 1,bX 3,(54,jN 42 (ca) h),(55,bd i),(56,bd j)] [(1,[aq w,aq a,.ro false 3 (.int .i64) b,.ro false 42 (ca) d,.ro false 95 (ew) e,.ro false 91 (cA) f]),(3,[aq c,aq g])] []
def Cz (a:Bool):= bD 127 [(2,ED a)]
def MV (w a:Int)(b:List Int)(d:List bq)(e:List bS)(f:List bK)(c g:Int):= dN 127 [bX 1,bX 3] [(1,[aq w,aq a,.ro false 3 (.int .i64) b,.ro false 42 (ca) d,.ro false 95 (ew) e,.ro false 91 (cA) f]),(3,[aq c,aq g])] []
def p7 (a:St):Option U:=ek gk F gl [.r,.r,.r,.l,.r,.b,.i] f39 J n a
def lM:=iR gk F gl [.r,.r,.r,.l,.r,.b] f39 aM 1
def G1 (b:List bK)(d a c e:Int):p5 F J (n+1) (lH b d a c e)=br (decide (a<d)) (ck (bG a (b.length:Int)) ((bw F0 (aL b a cA.az).2.2 0 (al (c-1))).bind fun f=>br (!f.1) (J .ret (r4 false)) ((e7 F0 (aL b a cA.az).2.1).bind fun g=>br (!g.1) (J .ret (r4 false)) ((pY F0 (aL b a cA.az).2.1).bind fun h=>br (h.1 != (aL b a cA.az).1) (J .ret (r4 false)) (p5 F J n (lH b d (al (a+1)) c e)))))) (J (.exit 4) (MT)):=by kernel_rfl
def G3 (b:List bS)(j a w e:Int)(f:List Int)(g:List bq)(h:List bS)(i:List bK)(c d:Int):p6 F J (n+1) (lJ b j a w e f g h i c d)=br (decide (a<j)) (ck (bG a (b.length:Int)) ((Ks F0 (c,d) (aL b a (0,[])).2).bind fun k=>br (!k.2.1) (J .ret (Cy false)) ((bw F0 (aL b a (0,[])).1 0 (al (c-1))).bind fun l=>br (!l.1) (J .ret (Cy false)) (p6 F J n (lJ b j (al (a+1)) w e f g h i c d))))) (J (.exit 2) (MU w e f g h i c d)):=by kernel_rfl
def G4 (b:List bq)(j a w e:Int)(f:List Int)(g:List bq)(h:List bS)(i:List bK)(c d:Int):p7 F J (n+1) (lL b j a w e f g h i c d)=br (decide (a<j)) (ck (bG a (b.length:Int)) ((p0 F0 (c,d) (aL b a ca.az)).bind fun k=>br (!k.1) (J .ret (Cz false)) (br ((aL b a ca.az).1 != a) (J .ret (Cz false)) (p7 F J n (lL b j (al (a+1)) w e f g h i c d))))) (J (.exit 0) (MV w e f g h i c d)):=by kernel_rfl
def acH (a:Bool):lI F .ret (r4 a)=some (a,()):=by kernel_rfl
def aam: lI F (.exit 4) (MT)=some (true,()):=by kernel_rfl
def acI (a:Bool):lK F .ret (Cy a)=some (a,()):=by kernel_rfl
def aan (w d:Int)(e:List Int)(f:List bq)(g:List bS)(a:List bK)(c b:Int):lK F (.exit 2) (MU w d e f g a c b)=p5 F (lI F) F.n (lH a (a.length:Int) 0 c b):=by kernel_rfl
def acJ (a:Bool):lM F .ret (Cz a)=some (a,()):=by kernel_rfl
def aao (w b:Int)(d:List Int)(e:List bq)(a:List bS)(f:List bK)(c g:Int):lM F (.exit 0) (MV w b d e a f c g)=p6 F (lK F) F.n (lJ a (a.length:Int) 0 w b d e a f c g):=by kernel_rfl
def b2 (w:l1):=bL gk F gl f39 fc aM 1 (w,())
def aiI (w:l1):b2 F w=(gh F0 w.1).bind fun a=>br (!a.1) (some (false,())) ((vC F0 w.1.1 w.2.1).bind fun b=>br (!b.1) (some (false,())) ((E1 F0 w.1).bind fun c=>br (decide ((w.2.1.length:Int)>c.1)) (some (false,())) (br ((w.2.2.1.length:Int) != w.1.1) (some (false,())) (br (decide ((w.2.2.2.1.length:Int)>60)) (some (false,())) (br (decide ((w.2.2.2.2.length:Int)>300)) (some (false,())) (p7 F (lM F) F.n (lL w.2.2.1 (w.2.2.1.length:Int) 0 w.1.1 w.1.2 w.2.1 w.2.2.1 w.2.2.2.1 w.2.2.2.2 w.1.1 w.1.2))))))):=by kernel_rfl
def dH:Any:=.one ⟨fc,aM,1,fun x=>b2 F0 x.1⟩
def fa:bb 39 dH:=aC gk ⟨Y5,gi,NX,U9,DT,cM,iB,Kn,trivial⟩ func39 gl (by kernel_rfl)
def hH:Nat->Option Hint:=look [(2,{live:=[0,1,7,8],rl:=[4]})]
def fP (s:List Int)(v a b:Int):= bD 19 [(0,jN 3 (.int .i64) s),(1,bd v),(7,bd a),(8,bd b)]
def tv (a:Int):= bD 19 [(4,bd a)]
def sJ   := bD 19 []
def hI (a:St):Option U:=ek ax F hH [.r,.l,.r,.b,.i] f220 J n a
def fQ:=iR ax F hH [.r,.l,.r,.b] f220 dq 1
def pa (s:List Int)(v b a:Int):hI F J (n+1) (fP s v b a)=br (decide (a<b)) (ck (bG a (s.length:Int)) (br (v==(aL s a 0)) (J .ret (tv a)) (hI F J n (fP s v b (al (a+1)))))) (J (.exit 0) (sJ)):=by kernel_rfl
def Lr (a:Int):fQ F .ret (tv a)=some (a,()):=by kernel_rfl
def Ku: fQ F (.exit 0) (sJ)=some (-1,()):=by kernel_rfl
def j6 (s:List Int)(v:Int):=bL ax F hH f220 X1 dq 1 (s,v,())
def PI (s:List Int)(v:Int):j6 F s v=hI F (fQ F) F.n (fP s v (s.length:Int) 0):=by kernel_rfl
def tw:Any:=.one ⟨X1,dq,1,fun x=>j6 F0 x.1 x.2.1⟩
def PJ:bb 220 tw:=aC ax trivial func220 hH (by kernel_rfl)
def sK:=[(220,tw)]
def gB (s:List Int)(v:Int):=bL sK F ad f144 X1 aM 1 (s,v,())
def Kv (s:List Int)(v:Int):gB F s v=(j6 F0 s v).bind fun a=>some (decide (a.1>=0),()):=by kernel_rfl
def pb:Any:=.one ⟨X1,aM,1,fun x=>gB F0 x.1 x.2.1⟩
def Kw:bb 144 pb:=aC sK ⟨PJ,trivial⟩ func144 ad (by kernel_rfl)
def Y6:=[(144,pb)]
def j7 (s:List Int)(i:Int):=bL Y6 F ad f73 X1 aM 1 (s,i,())
def al4 (s:List Int)(i:Int):j7 F s i=(gB F0 s i).bind fun a=>some (a.1,()):=by kernel_rfl
def nR:Any:=.one ⟨X1,aM,1,fun x=>j7 F0 x.1 x.2.1⟩
def Ao:bb 73 nR:=aC Y6 ⟨Kw,trivial⟩ func73 ad (by kernel_rfl)
def DZ:=[(73,nR)]
def D0:Nat->Option Hint:=look [(3,{live:=[1,3,7,8],mat:=[(3,3,.int .i64)],xl:=[3],rl:=[2]})]
def jB (f g w a:Int)(b:List Int)(c:List bq)(d:List bS)(e:List bK)(h:List Int):= dN 22 [bX 1,(3,.v (.c (.own 1000000 none))),(7,bd f),(8,bd g)] [(1,[aq w,aq a,.ro false 3 (.int .i64) b,.ro false 42 (ca) c,.ro false 95 (ew) d,.ro false 91 (cA) e])] [aF 1000000 3 (.int .i64) h]
def PK (a:List Int):= dN 22 [(3,.v (.c (.own 1000000 none)))] [] [aF 1000000 3 (.int .i64) a]
def oe (a:St):Option U:=ek DZ F D0 [.r,.r,.l,.r,.b,.i] f54 J n a
def u5:=iR DZ F D0 [.r,.r,.l,.r,.b] f54 pt 2
def Kx (d a w e:Int)(c:List Int)(f:List bq)(g:List bS)(h:List bK)(b:List Int):oe F J (n+1) (jB d a w e c f g h b)=br (decide (a<d)) ((j7 F0 c a).bind fun i=>br (!i.1) (ck (dV F b.length [a].length 8) (oe F J n (jB d (al (a+1)) w e c f g h (b++[a])))) (oe F J n (jB d (al (a+1)) w e c f g h b))) (J (.exit 0) (PK b)):=by kernel_rfl
def acK (a:List Int):u5 F (.exit 0) (PK a)=some (a,()):=by kernel_rfl
def gm (w:l1):=bL DZ F D0 f54 fc pt 2 (w,())
def al5 (w:l1):gm F w=oe F (u5 F) F.n (jB (w.2.2.1.length:Int) 0 w.1.1 w.1.2 w.2.1 w.2.2.1 w.2.2.2.1 w.2.2.2.2 []):=by kernel_rfl
def gQ:Any:=.one ⟨fc,pt,2,fun x=>gm F0 x.1⟩
def lN:bb 54 gQ:=aC DZ ⟨Ao,trivial⟩ func54 D0 (by kernel_rfl)
def oz (s a:ByteArray):=bL ax F ad f280 RY aM 1 (s,a,())
def N2 (s a:ByteArray):oz F s a=br (decide ((s.size:Int)>=(a.size:Int))) (ck (Qw 0 (a.size:Int) (s.size:Int)) (some ((s.extract (0:Int).toNat (a.size:Int).toNat).toList==a.toList,()))) (some (false,())):=by kernel_rfl
def sL:Any:=.one ⟨RY,aM,1,fun x=>oz F0 x.1 x.2.1⟩
def N3:bb 280 sL:=aC ax trivial func280 ad (by kernel_rfl)
def G5:=[(280,sL)]
def Ap (s a:ByteArray):=bL G5 F ad f219 RY aM 1 (s,a,())
def Vm (s a:ByteArray):Ap F s a=(oz F0 s a).bind fun b=>some (b.1,()):=by kernel_rfl
def Bt:Any:=.one ⟨RY,aM,1,fun x=>Ap F0 x.1 x.2.1⟩
def Vn:bb 219 Bt:=aC G5 ⟨N3,trivial⟩ func219 ad (by kernel_rfl)
def Vo:=[(94,e8),(219,Bt)]
def Aq (s t:ByteArray):=bL Vo F ad f143 RY aM 1 (s,t,())
def aiJ (s t:ByteArray):Aq F s t=(e7 F0 s).bind fun a=>br a.1 ((e7 F0 t).bind fun b=>br b.1 ((Ap F0 s t).bind fun c=>br c.1 (br ((s.size:Int)==(t.size:Int)) (some (true,())) (ck (bG (t.size:Int) (s.size:Int)) (some ((ij s (t.size:Int))==47,())))) (some (false,()))) (some (false,()))) (some (false,())):=by kernel_rfl
def PL:Any:=.one ⟨RY,aM,1,fun x=>Aq F0 x.1 x.2.1⟩
def aiK:bb 143 PL:=aC Vo ⟨iB,Vn,trivial⟩ func143 ad (by kernel_rfl)
def acL:=[(143,PL)]
def QL (s t:ByteArray):=bL acL F ad f72 RY aM 1 (s,t,())
def aou (s t:ByteArray):QL F s t=(Aq F0 s t).bind fun a=>br a.1 (some (true,())) ((Aq F0 t s).bind fun b=>some (b.1,())):=by kernel_rfl
def Vp:Any:=.one ⟨RY,aM,1,fun x=>QL F0 x.1 x.2.1⟩
def aov:bb 72 Vp:=aC acL ⟨aiK,trivial⟩ func72 ad (by kernel_rfl)
def gR:=[(39,dH),(54,gQ),(72,Vp)]
def gS:Nat->Option Hint:=look [(4,{live:=[1,11,12,13],rl:=[2]}),(7,{live:=[1,4,11,12,13,18,19,20],xl:=[1,11,12,13],rl:=[2]})]
def j8 (a h i j k w b:Int)(c:List Int)(d:List bq)(e:List bS)(f:List bK)(l g:List Int):= dN 42 [bX 1,(4,bd a),(11,.v (.c (.own 1000000 none))),(12,bd h),(13,bd i),(18,.v (.c (.own 1000001 none))),(19,bd j),(20,bd k)] [(1,[aq w,aq b,.ro false 3 (.int .i64) c,.ro false 42 (ca) d,.ro false 95 (ew) e,.ro false 91 (cA) f])] [aF 1000000 3 (.int .i64) l,aF 1000001 3 (.int .i64) g]
def MW (a:Bool):= bD 42 [(2,ED a)]
def Ky (f g w a:Int)(b:List Int)(c:List bq)(d:List bS)(e:List bK)(h:List Int):= dN 42 [bX 1,(11,.v (.c (.own 1000000 none))),(12,bd f),(13,bd g)] [(1,[aq w,aq a,.ro false 3 (.int .i64) b,.ro false 42 (ca) c,.ro false 95 (ew) d,.ro false 91 (cA) e])] [aF 1000000 3 (.int .i64) h]
def nS (a:St):Option U:=ek gR F gS [.r,.r,.l,.r,.b,.i,.r,.r,.l,.b,.r,.r,.b,.i] f28 J n a
def j9:Ex->St->Option U:=S8 Tryz.prog (look gR) F gS [.r,.r,.l,.b,.r,.r,.b] (sub [.r,.r,.l,.r,.b,.i] (dE f28)) (itk Tryz.prog (look gR) F gS (sub [.r,.r,.l,.r,.b,.i] (dE f28)) J n)
def ka (f g w a:Int)(b:List Int)(c:List bq)(d:List bS)(e:List bK)(h:List Int):= dN 42 [bX 1,(11,.v (.c (.own 1000000 none))),(12,bd f),(13,bd g)] [(1,[aq w,aq a,.ro false 3 (.int .i64) b,.ro false 42 (ca) c,.ro false 95 (ew) d,.ro false 91 (cA) e])] [aF 1000000 3 (.int .i64) h]
def Ar (a:Bool):= bD 42 [(2,ED a)]
def Kz   := bD 42 []
def nT (a:St):Option U:=ek gR F gS [.r,.r,.l,.r,.b,.i] f28 J n a
def pc:=iR gR F gS [.r,.r,.l,.r,.b] f28 aM 1
def E6 (a i j k c w e:Int)(f:List Int)(b:List bq)(g:List bS)(h:List bK)(l d:List Int):nS F J (n+1) (j8 a i j k c w e f b g h l d)=br (decide (c<k)) (ck (bG c (d.length:Int)) (ck (bG a (b.length:Int)) (ck (bG (aL d c 0) (b.length:Int)) ((QL F0 (aL b a ca.az).2.2.2.1.2.2.2 (aL b (aL d c 0) ca.az).2.2.2.1.2.2.2).bind fun m=>br (!m.1) (J .ret (MW false)) (nS F J n (j8 a i j k (al (c+1)) w e f b g h l d)))))) (J (.exit 2) (Ky i j w e f b g h l)):=by kernel_rfl
def E7 (h a w c:Int)(d:List Int)(e:List bq)(f:List bS)(g:List bK)(b:List Int):nT F J (n+1) (ka h a w c d e f g b)=br (decide (a<h)) (ck (bG a (b.length:Int)) ((gm F0 ((w,c),d,e,f,g)).bind fun i=>nS F (j9 F J n) F.n (j8 (aL b a 0) h a (i.1.length:Int) 0 w c d e f g b i.1))) (J (.exit 0) (Kz)):=by kernel_rfl
def aap (a:Bool):j9 F J n .ret (MW a)=J .ret (Ar a):=by kernel_rfl
def XD (f g w a:Int)(b:List Int)(c:List bq)(d:List bS)(e:List bK)(h:List Int):j9 F J n (.exit 2) (Ky f g w a b c d e h)=nT F J n (ka f (al (g+1)) w a b c d e h):=by kernel_rfl
def aaq (a:Bool):pc F .ret (Ar a)=some (a,()):=by kernel_rfl
def XE: pc F (.exit 0) (Kz)=some (true,()):=by kernel_rfl
def D7 (w:l1):=bL gR F gS f28 fc aM 1 (w,())
def aeZ (w:l1):D7 F w=(b2 F0 w).bind fun b=>br (!b.1) (some (false,())) ((gm F0 w).bind fun a=>nT F (pc F) F.n (ka (a.1.length:Int) 0 w.1.1 w.1.2 w.2.1 w.2.2.1 w.2.2.2.1 w.2.2.2.2 a.1)):=by kernel_rfl
def MX:Any:=.one ⟨fc,aM,1,fun x=>D7 F0 x.1⟩
def ae0:bb 28 MX:=aC gR ⟨fa,lN,aov,trivial⟩ func28 gS (by kernel_rfl)
def eQ:=[(39,dH),(73,nR)]
def eR:Nat->Option Hint:=look [(4,{live:=[1,11,12,13],rl:=[2]}),(7,{live:=[1,4,11,12,13,18,19,20],xl:=[1,11,12,13],rl:=[2]})]
def c9 (i:List bK)(j k:Int)(l:List bK)(m o w b:Int)(c:List Int)(d:List bq)(e:List bS)(f:List bK)(a:Int)(g:ByteArray)(h:Int):= dN 53 [bX 1,bX 4,(11,jN 91 (cA) i),(12,bd j),(13,bd k),(18,jN 91 (cA) l),(19,bd m),(20,bd o)] [(1,[aq w,aq b,.ro false 3 (.int .i64) c,.ro false 42 (ca) d,.ro false 95 (ew) e,.ro false 91 (cA) f]),(4,[aq a,.str g,aq h])] []
def G6 (a:Bool):= bD 53 [(2,ED a)]
def E8 (f:List bK)(g h w a:Int)(b:List Int)(c:List bq)(d:List bS)(e:List bK):= dN 53 [bX 1,(11,jN 91 (cA) f),(12,bd g),(13,bd h)] [(1,[aq w,aq a,.ro false 3 (.int .i64) b,.ro false 42 (ca) c,.ro false 95 (ew) d,.ro false 91 (cA) e])] []
def dS (a:St):Option U:=ek eQ F eR [.r,.r,.l,.r,.b,.i,.r,.r,.l,.b,.r,.r,.b,.i] f29 J n a
def ha:Ex->St->Option U:=S8 Tryz.prog (look eQ) F eR [.r,.r,.l,.b,.r,.r,.b] (sub [.r,.r,.l,.r,.b,.i] (dE f29)) (itk Tryz.prog (look eQ) F eR (sub [.r,.r,.l,.r,.b,.i] (dE f29)) J n)
def hh (f:List bK)(g h w a:Int)(b:List Int)(c:List bq)(d:List bS)(e:List bK):= dN 53 [bX 1,(11,jN 91 (cA) f),(12,bd g),(13,bd h)] [(1,[aq w,aq a,.ro false 3 (.int .i64) b,.ro false 42 (ca) c,.ro false 95 (ew) d,.ro false 91 (cA) e])] []
def sV (a:Bool):= bD 53 [(2,ED a)]
def E9   := bD 53 []
def kb (a:St):Option U:=ek eQ F eR [.r,.r,.l,.r,.b,.i] f29 J n a
def kS:=iR eQ F eR [.r,.r,.l,.r,.b] f29 aM 1
def As (k:List bK)(l m:Int)(c:List bK)(o b w f:Int)(d:List Int)(g:List bq)(h:List bS)(i:List bK)(a:Int)(j:ByteArray)(e:Int):dS F J (n+1) (c9 k l m c o b w f d g h i a j e)=br (decide (b<o)) (ck (bG b (c.length:Int)) ((j7 F0 d e).bind fun p=>br (!p.1) (br (e==(aL c b cA.az).2.2) (br (a==(aL c b cA.az).1) (br (!(j.toList==(aL c b cA.az).2.1.toList)) (J .ret (G6 false)) (dS F J n (c9 k l m c o (al (b+1)) w f d g h i a j e))) (dS F J n (c9 k l m c o (al (b+1)) w f d g h i a j e))) (dS F J n (c9 k l m c o (al (b+1)) w f d g h i a j e))) (dS F J n (c9 k l m c o (al (b+1)) w f d g h i a j e)))) (J (.exit 2) (E8 k l m w f d g h i)):=by kernel_rfl
def Au (b:List bK)(d a w e:Int)(f:List Int)(g:List bq)(h:List bS)(c:List bK):kb F J (n+1) (hh b d a w e f g h c)=br (decide (a<d)) (ck (bG a (b.length:Int)) (dS F (ha F J n) F.n (c9 b d a c (c.length:Int) 0 w e f g h c (aL b a cA.az).1 (aL b a cA.az).2.1 (aL b a cA.az).2.2))) (J (.exit 0) (E9)):=by kernel_rfl
def Vq (a:Bool):ha F J n .ret (G6 a)=J .ret (sV a):=by kernel_rfl
def Tf (f:List bK)(g h w a:Int)(b:List Int)(c:List bq)(d:List bS)(e:List bK):ha F J n (.exit 2) (E8 f g h w a b c d e)=kb F J n (hh f g (al (h+1)) w a b c d e):=by kernel_rfl
def Vr (a:Bool):kS F .ret (sV a)=some (a,()):=by kernel_rfl
def Tg: kS F (.exit 0) (E9)=some (true,()):=by kernel_rfl
def u6 (w:l1):=bL eQ F eR f29 fc aM 1 (w,())
def aar (w:l1):u6 F w=(b2 F0 w).bind fun a=>br (!a.1) (some (false,())) (kb F (kS F) F.n (hh w.2.2.2.2 (w.2.2.2.2.length:Int) 0 w.1.1 w.1.2 w.2.1 w.2.2.1 w.2.2.2.1 w.2.2.2.2)):=by kernel_rfl
def G7:Any:=.one ⟨fc,aM,1,fun x=>u6 F0 x.1⟩
def aas:bb 29 G7:=aC eQ ⟨fa,Ao,trivial⟩ func29 eR (by kernel_rfl)
def ct:=[(39,dH),(54,gQ),(74,Kt)]
def cu:Nat->Option Hint:=look [(5,{live:=[1,3,18,19,20],mat:=[(3,27,K9)],wk:=[3],xl:=[1,3],rl:=[2]}),(10,{live:=[1,3,36,37,38],xl:=[3],rl:=[2]}),(20,{live:=[3,68,69,70],rl:=[2]}),(23,{live:=[3,11,68,69,70,74,75,76],xl:=[3,68,69,70],rl:=[2]})]
def eY (d e f g a:Int)(b:ByteArray)(c:List Int)(h:List D9):= dN 94 [(3,.v (.c (.own 1000000 none))),bX 11,(68,.v (.c (.own 1000000 none))),(69,bd d),(70,bd e),(74,.v (.c (.own 1000000 none))),(75,bd f),(76,bd g)] [(11,[aq a,.str b,.ro false 3 (.int .i64) c])] [(1000000,some ⟨27,K9,h,false,true⟩)]
def G8 (a:Bool):= bD 94 [(2,ED a)]
def Fa (a b:Int)(c:List D9):= dN 94 [(3,.v (.c (.own 1000000 none))),(68,.v (.c (.own 1000000 none))),(69,bd a),(70,bd b)] [] [(1000000,some ⟨27,K9,c,false,true⟩)]
def gC (a:St):Option U:=ek ct F cu [.r,.r,.r,.r,.r,.l,.r,.b,.i,.r,.r,.l,.b,.r,.r,.b,.i] f30 J n a
def hl:Ex->St->Option U:=S8 Tryz.prog (look ct) F cu [.r,.r,.l,.b,.r,.r,.b] (sub [.r,.r,.r,.r,.r,.l,.r,.b,.i] (dE f30)) (itk Tryz.prog (look ct) F cu (sub [.r,.r,.r,.r,.r,.l,.r,.b,.i] (dE f30)) J n)
def eZ (a b:Int)(c:List D9):= dN 94 [(3,.v (.c (.own 1000000 none))),(68,.v (.c (.own 1000000 none))),(69,bd a),(70,bd b)] [] [(1000000,some ⟨27,K9,c,false,true⟩)]
def sW (a:Bool):= bD 94 [(2,ED a)]
def Fb   := bD 94 []
def gD (a:St):Option U:=ek ct F cu [.r,.r,.r,.r,.r,.l,.r,.b,.i] f30 J n a
def hn:=iR ct F cu [.r,.r,.r,.r,.r,.l,.r,.b] f30 aM 1
def da (f:List bS)(g h w a:Int)(b:List Int)(c:List bq)(d:List bS)(e:List bK)(i:List D9):= dN 94 [bX 1,(3,.v (.c (.own 1000000 none))),(36,jN 95 (ew) f),(37,bd g),(38,bd h)] [(1,[aq w,aq a,.ro false 3 (.int .i64) b,.ro false 42 (ca) c,.ro false 95 (ew) d,.ro false 91 (cA) e])] [(1000000,some ⟨27,K9,i,false,true⟩)]
def p8 (a:List D9):= dN 94 [(3,.v (.c (.own 1000000 none)))] [] [(1000000,some ⟨27,K9,a,false,true⟩)]
def dU (a:St):Option U:=ek ct F cu [.r,.r,.r,.r,.l,.r,.b,.i] f30 J n a
def e1:=iR ct F cu [.r,.r,.r,.r,.l,.r,.b] f30 aM 1
def ho (g h w a:Int)(b:List Int)(c:List bq)(d:List bS)(e:List bK)(i:List D9)(f:List Int):= dN 94 [bX 1,(3,.v (.c (.own 1000000 none))),(18,.v (.c (.own 1000001 none))),(19,bd g),(20,bd h)] [(1,[aq w,aq a,.ro false 3 (.int .i64) b,.ro false 42 (ca) c,.ro false 95 (ew) d,.ro false 91 (cA) e])] [(1000000,some ⟨27,K9,i,false,true⟩),aF 1000001 3 (.int .i64) f]
def Fc (w a:Int)(b:List Int)(c:List bq)(d:List bS)(e:List bK)(f:List D9):= dN 94 [bX 1,(3,.v (.c (.own 1000000 none)))] [(1,[aq w,aq a,.ro false 3 (.int .i64) b,.ro false 42 (ca) c,.ro false 95 (ew) d,.ro false 91 (cA) e])] [(1000000,some ⟨27,K9,f,false,true⟩)]
def kc (a:St):Option U:=ek ct F cu [.r,.r,.r,.l,.r,.b,.i] f30 J n a
def kT:=iR ct F cu [.r,.r,.r,.l,.r,.b] f30 aM 1
def Av (e f g b a:Int)(d:ByteArray)(h:List Int)(c:List D9):gC F J (n+1) (eY e f g b a d h c)=br (decide (b<g)) (ck (bG b (c.length:Int)) (br (a==(aL c b K9.az).1) (br (!(d.toList==(aL c b K9.az).2.1.toList)) (J .ret (G8 false)) (gC F J n (eY e f g (al (b+1)) a d h c))) (gC F J n (eY e f g (al (b+1)) a d h c)))) (J (.exit 7) (Fa e f c)):=by kernel_rfl
def Aw (c a:Int)(b:List D9):gD F J (n+1) (eZ c a b)=br (decide (a<c)) (ck (bG a (b.length:Int)) (gC F (hl F J n) F.n (eY c a (b.length:Int) 0 (aL b a K9.az).1 (aL b a K9.az).2.1 (aL b a K9.az).2.2 b))) (J (.exit 5) (Fb)):=by kernel_rfl
def Ax (d:List bS)(f a w e:Int)(g:List Int)(h:List bq)(i:List bS)(j:List bK)(b:List D9):dU F J (n+1) (da d f a w e g h i j b)=br (decide (a<f)) (ck (bG a (d.length:Int)) ((Ks F0 (w,e) (aL d a (0,[])).2).bind fun c=>br (c.1.1==1) (ck (dV F b.length [c.1.2.2.1.2].length 48) (dU F J n (da d f (al (a+1)) w e g h i j (b++[c.1.2.2.1.2])))) (br (c.1.1==3) (ck (dV F b.length [c.1.2.2.2.2.1].length 48) (dU F J n (da d f (al (a+1)) w e g h i j (b++[c.1.2.2.2.2.1])))) (dU F J n (da d f (al (a+1)) w e g h i j b))))) (J (.exit 2) (p8 b)):=by kernel_rfl
def Ay (i a w e:Int)(f:List Int)(b:List bq)(g:List bS)(h:List bK)(d:List D9)(c:List Int):kc F J (n+1) (ho i a w e f b g h d c)=br (decide (a<i)) (ck (bG a (c.length:Int)) (ck (bG (aL c a 0) (b.length:Int)) (ck (dV F d.length [(aL b (aL c a 0) ca.az).2.2.2.1.2.2.1].length 48) (kc F J n (ho i (al (a+1)) w e f b g h (d++[(aL b (aL c a 0) ca.az).2.2.2.1.2.2.1]) c))))) (J (.exit 0) (Fc w e f b g h d)):=by kernel_rfl
def Vs (a:Bool):hl F J n .ret (G8 a)=J .ret (sW a):=by kernel_rfl
def Th (a b:Int)(c:List D9):hl F J n (.exit 7) (Fa a b c)=gD F J n (eZ a (al (b+1)) c):=by kernel_rfl
def Vt (a:Bool):hn F .ret (sW a)=some (a,()):=by kernel_rfl
def Ti: hn F (.exit 5) (Fb)=some (true,()):=by kernel_rfl
def Tj (a:List D9):e1 F (.exit 2) (p8 a)=gD F (hn F) F.n (eZ (a.length:Int) 0 a):=by kernel_rfl
def Tk (w b:Int)(c:List Int)(d:List bq)(a:List bS)(e:List bK)(f:List D9):kT F (.exit 0) (Fc w b c d a e f)=dU F (e1 F) F.n (da a (a.length:Int) 0 w b c d a e f):=by kernel_rfl
def u7 (w:l1):=bL ct F cu f30 fc aM 1 (w,())
def aat (w:l1):u7 F w=(b2 F0 w).bind fun b=>br (!b.1) (some (false,())) ((gm F0 w).bind fun a=>kc F (kT F) F.n (ho (a.1.length:Int) 0 w.1.1 w.1.2 w.2.1 w.2.2.1 w.2.2.2.1 w.2.2.2.2 [] a.1)):=by kernel_rfl
def G9:Any:=.one ⟨fc,aM,1,fun x=>u7 F0 x.1⟩
def aau:bb 30 G9:=aC ct ⟨fa,lN,Y5,trivial⟩ func30 cu (by kernel_rfl)
def r5:Nat->Option Hint:=look [(3,{live:=[0,1,2],A9:=[(0,0,3,.int .i64),(0,1,3,.int .i64),(1,0,3,.int .i64)],xl:=[0,1],rl:=[0]})]
def fx (i:Int)(d a b c:List Int):= dN 15 [bX 0,bX 1,(2,bd i)] [(0,[.own 1000000 none,.own 1000001 none]),(1,[.own 1000002 none,.own 1000003 none])] [aF 1000000 3 (.int .i64) d,aF 1000001 3 (.int .i64) a,aF 1000002 3 (.int .i64) b,aF 1000003 3 (.int .i64) c]
def Ha (d a b c:List Int):= dN 15 [bX 0,bX 1] [(0,[.own 1000000 none,.own 1000001 none]),(1,[.own 1000002 none,.own 1000003 none])] [aF 1000000 3 (.int .i64) d,aF 1000001 3 (.int .i64) a,aF 1000002 3 (.int .i64) b,aF 1000003 3 (.int .i64) c]
def h8 (a:St):Option U:=ek ax F r5 [.r,.r,.l,.r,.b,.i] f79 J n a
def iE:=iR ax F r5 [.r,.r,.l,.r,.b] f79 l7 2
def Bu (i:Int)(d b a c:List Int):h8 F J (n+1) (fx i d b a c)=br (decide (i<4)) (ck (dV F a.length [100].length 8) (h8 F J n (fx (al (i+1)) d b (a++[100]) c))) (J (.exit 0) (Ha d b a c)):=by kernel_rfl
def Vu (d c a b:List Int):iE F (.exit 0) (Ha d c a b)=some ((a,b),()):=by kernel_rfl
def p9: Option (Args l7):=bL ax F r5 f79 [] l7 2 (())
def acM: p9 F= ck (okM F 4 4 8) (h8 F (iE F) F.n (fx 0 [] [] [] (List.replicate (4:Int).toNat 0))):=by kernel_rfl
def vE:Any:=.one ⟨[],l7,2,fun x=>p9 F0⟩
def MY:bb 79 vE:=aC ax trivial func79 r5 (by kernel_rfl)
def Iz:=[(141,z6)]
def IA:Nat->Option Hint:=look [(4,{live:=[5,13,14,15],mat:=[(5,99,K4)],xl:=[5],rl:=[2]})]
def Az (b c:Int)(d:List D4)(a:List D6):= dN 25 [(5,.v (.c (.own 1000000 none))),(13,.v (.c (.own 1000001 none))),(14,bd b),(15,bd c)] [] [aF 1000000 99 K4 d,aF 1000001 163 K6 a]
def SL (a:List D4):= dN 25 [(5,.v (.c (.own 1000000 none)))] [] [aF 1000000 99 K4 a]
def IB (a:St):Option U:=ek Iz F IA [.r,.r,.r,.l,.r,.b,.i] f77 J n a
def KA:=iR Iz F IA [.r,.r,.r,.l,.r,.b] f77 kv 2
def MZ (d a:Int)(c:List D4)(b:List D6):IB F J (n+1) (Az d a c b)=br (decide (a<d)) (ck (bG a (b.length:Int)) (ck (dV F c.length (aL b a (0,[])).2.length 32) (IB F J n (Az d (al (a+1)) (c++(aL b a (0,[])).2) b)))) (J (.exit 0) (SL c)):=by kernel_rfl
def ae1 (a:List D4):KA F (.exit 0) (SL a)=some (a,()):=by kernel_rfl
def CA (s:ByteArray):=bL Iz F IA f77 df kv 2 (s,())
def aow (s:ByteArray):CA F s=(Cs F0 s).bind fun a=>IB F (KA F) F.n (Az (a.1.length:Int) 0 [] a.1):=by kernel_rfl
def KB:Any:=.one ⟨df,kv,2,fun x=>CA F0 x.1⟩
def Y7:bb 77 KB:=aC Iz ⟨NW,trivial⟩ func77 IA (by kernel_rfl)
def fR (l:List Int):=bL ax F ad f99 pt pt 2 (l,())
def CB (l:List Int):fR F l=ck (dV F 0 l.length 8) (some ([]++l,())):=by kernel_rfl
def gE:Any:=.one ⟨pt,pt,2,fun x=>fR F0 x.1⟩
def lO:bb 99 gE:=aC ax trivial func99 ad (by kernel_rfl)
def M0:=[(99,gE)]
def jC (l:D10):=bL M0 F ad f150 l7 l7 2 (l,())
def aav (l:D10):jC F l=(fR F0 l.1).bind fun a=>(fR F0 l.2).bind fun b=>some ((a.1,b.1),()):=by kernel_rfl
def sX:Any:=.one ⟨l7,l7,2,fun x=>jC F0 x.1⟩
def KC:bb 150 sX:=aC M0 ⟨lO,trivial⟩ func150 ad (by kernel_rfl)
end
end Go.Am.Tryz
