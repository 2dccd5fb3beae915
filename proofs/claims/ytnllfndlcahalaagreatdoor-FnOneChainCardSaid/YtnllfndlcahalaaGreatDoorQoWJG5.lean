/- No condition. -/
import Derived.Test.YtnllfndlcahalaaGreatDoorQoWJG4
set_option linter.all false
set_option maxRecDepth 100000
namespace Go.Am.Tryz
open Go.Am Go.Proofs Go.Proofs.Tryz
noncomputable section
variable {U:Type} (F:rz) (J:Ex->St->Option U) (n:Nat)
def Ua:=[(115,lx)]
def Eh (a b:D9):=bj Ua F ad f251 wP aO 1 (a,b,())
theorem ahD (a b:D9):Eh F a b=br (a.1==b.1) (br (a.2.1.toList==b.2.1.toList) ((gQ F0 a.2.2 b.2.2).bind fun c=>some (c.1,())) (some (false,()))) (some (false,())):=by kernel_rfl
def Nw:Any:=.one ⟨wP,aO,1,fun x=>Eh F0 x.1 x.2.1⟩
theorem ahE:a6 251 Nw:=aq Ua ⟨wY,trivial⟩ func251 ad (by kernel_rfl)
def W3:=[(55,kt),(250,La),(251,Nw)]
def IS (a b:OW):=bj W3 F ad f192 aDi aO 1 (a,b,())
theorem alQ (a b:OW):IS F a b=br (a.1==b.1) (br (a.2.1==b.2.1) ((Au F0 a.2.2.1 b.2.2.1).bind fun c=>br c.1 ((Eh F0 a.2.2.2.1 b.2.2.2.1).bind fun d=>br d.1 ((jj F0 a.2.2.2.2.1 b.2.2.2.2.1).bind fun e=>br e.1 (br (a.2.2.2.2.2.1==b.2.2.2.2.2.1) (some ((a.2.2.2.2.2.2.1==b.2.2.2.2.2.2.1)&&((a.2.2.2.2.2.2.2.1==b.2.2.2.2.2.2.2.1)&&((a.2.2.2.2.2.2.2.2.1==b.2.2.2.2.2.2.2.2.1)&&((a.2.2.2.2.2.2.2.2.2==b.2.2.2.2.2.2.2.2.2)&&true))),())) (some (false,()))) (some (false,()))) (some (false,()))) (some (false,()))) (some (false,()))) (some (false,())):=by kernel_rfl
def QB:Any:=.one ⟨aDi,aO,1,fun x=>IS F0 x.1 x.2.1⟩
theorem alR:a6 192 QB:=aq W3 ⟨qJ,aeK,ahE,trivial⟩ func192 ad (by kernel_rfl)
def et:Nat->Option Hint:=look [(2,{live:=[0,1,5],rl:=[4]})]
def dE (s:ByteArray)(c i:Int):= bO 19 [(0,ZY s),(1,.v (.c (.int .u8 c))),(5,a8 i)]
def lF (a:Int):= bO 19 [(4,a8 a)]
def Av   := bO 19 []
def eu (a:St):Option U:=e9 aA F et [.r,.l,.r,.b,.i] f244 J n a
def fR:=hf aA F et [.r,.l,.r,.b] f244 cE 1
theorem jS (s:ByteArray)(c i:Int):eu F J (n+1) (dE s c i)=br (decide (i>=0)) (ck (bG i (s.size:Int)) (br ((jI s i)==c) (J .ret (lF i)) (eu F J n (dE s c (aj (i-1)))))) (J (.exit 0) (Av)):=by kernel_rfl
theorem Aw (a:Int):fR F .ret (lF a)=some (a,()):=by kernel_rfl
def iO (s:ByteArray)(c:Int):=bj aA F et f244 Z1 cE 1 (s,c,())
theorem CE (s:ByteArray)(c:Int):iO F s c=eu F (fR F) F.n (dE s c (aj ((s.size:Int)-1))):=by kernel_rfl
def lG:Any:=.one ⟨Z1,cE,1,fun x=>iO F0 x.1 x.2.1⟩
theorem CF:a6 244 lG:=aq aA trivial func244 et (by kernel_rfl)
def w2:=[(244,lG)]
def o6 (s:ByteArray)(c:Int):=bj w2 F ad f183 Z1 cE 1 (s,c,())
theorem O1 (s:ByteArray)(c:Int):o6 F s c=(iO F0 s c).bind fun a=>some (a.1,()):=by kernel_rfl
def s5:Any:=.one ⟨Z1,cE,1,fun x=>o6 F0 x.1 x.2.1⟩
theorem O2:a6 183 s5:=aq w2 ⟨CF,trivial⟩ func183 ad (by kernel_rfl)
def ajR:=[(60,eO),(183,s5)]
def sh (s:ByteArray):=bj ajR F ad f108 dB dB 1 (s,())
theorem awd (s:ByteArray):sh F s=(eZ F0 s).bind fun b=>br (!b.1) (some (ak,())) (br (s.toList==ak.toList) (some (ak,())) ((o6 F0 s 47).bind fun a=>ck (S5 0 a.1 (s.size:Int)) (some (s.extract (0:Int).toNat a.1.toNat,())))):=by kernel_rfl
def Ei:Any:=.one ⟨dB,dB,1,fun x=>sh F0 x.1⟩
theorem Sc:a6 108 Ei:=aq ajR ⟨gR,O2,trivial⟩ func108 ad (by kernel_rfl)
def W4:=[(60,eO),(107,ju),(108,Ei)]
def nD (c:D1)(b:D15):=bj W4 F ad f48 aDj aO 1 (c,b,())
theorem alS (c:D1)(b:D15):nD F c b=(mu F0 c b.2).bind fun a=>br a.1 (br (!(b.1.toList==ak.toList)) ((eZ F0 b.1).bind fun d=>br d.1 ((sh F0 b.1).bind fun e=>some (e.1.toList==b.2.2.1.toList,())) (some (false,()))) (some (false,()))) (some (false,())):=by kernel_rfl
def mw:Any:=.one ⟨aDj,aO,1,fun x=>nD F0 x.1 x.2.1⟩
theorem vk:a6 48 mw:=aq W4 ⟨gR,nB,Sc,trivial⟩ func48 ad (by kernel_rfl)
def aeL:=[(30,cN),(41,bA),(48,mw),(104,jt),(107,ju),(190,ou),(192,QB),(193,W2)]
def gb (c:D1)(m:OW):=bj aeL F ad f119 aju aO 1 (c,m,())
theorem asx (c:D1)(m:OW):gb F c m=(ep F0 c).bind fun a=>br (!a.1) (some (false,())) ((Sb F0 m).bind fun b=>(IS F0 m b.1).bind fun d=>br (!d.1) (some (false,())) (br (m.1==1) ((nD F0 c m.2.2.1).bind fun e=>some (e.1,())) (br (m.1==2) ((q2 F0 c m.2.2.2.1).bind fun f=>br f.1 (some (!(m.2.2.2.1.2.1.toList==ak.toList),())) (some (false,()))) (br (m.1==3) ((aZ F0 m.2.1 1 60).bind fun g=>br g.1 ((mu F0 c m.2.2.2.2.1).bind fun h=>br h.1 ((aZ F0 m.2.2.2.2.2.1 0 (aj (c.1-1))).bind fun i=>some (i.1,())) (some (false,()))) (some (false,()))) (br (m.1==4) ((oT F0 m.2.2.2.2.2.2).bind fun j=>some (j.1,())) (some (false,()))))))):=by kernel_rfl
def mx:Any:=.one ⟨aju,aO,1,fun x=>gb F0 x.1 x.2.1⟩
theorem tM:a6 119 mx:=aq aeL ⟨dO,bV,vk,nA,nB,Ao,alR,asw,trivial⟩ func119 ad (by kernel_rfl)
def IT:=[(30,cN),(41,bA),(50,ku),(116,GF),(117,CD),(118,ov),(119,mx)]
def IU:Nat->Option Hint:=look [(4,{live:=[2,3,64,65,66],rl:=[4]})]
def Ax (q:List ll)(s t c a r b d e f g:Int)(h:ByteArray)(i:List Int)(j:ByteArray)(k:List D4)(l:List D9)(m:List Int)(o:Int)(p:List ll):= cQ 92 [b0 2,b0 3,(64,hD 136 (pS) q),(65,a8 s),(66,a8 t)] [(2,[ao c,ao a]),(3,[ao r,ao b,ao d,ao e,ao f,ao g,.str h,.ro false 3 (.int .i64) i,.str j,.ro false 52 (K4) k,.ro false 50 (K9) l,.ro false 5 (.int .u8) m,ao o,.ro false 136 (pS) p])] []
def Ay (a:Bool):= bO 92 [(4,H0 a)]
def Ub   := bO 92 []
def IV (a:St):Option U:=e9 IT F IU [.r,.r,.l,.r,.b,.i] f58 J n a
def Az:=hf IT F IU [.r,.r,.l,.r,.b] f58 aO 1
theorem Nx (b:List ll)(e a c d r f g h i j:Int)(k:ByteArray)(l:List Int)(m:ByteArray)(o:List D4)(p:List D9)(q:List Int)(s:Int)(t:List ll):IV F J (n+1) (Ax b e a c d r f g h i j k l m o p q s t)=br (decide (a<e)) (ck (bG a (b.length:Int)) ((gb F0 (c,d) (aK b a pS.aD).2).bind fun u=>br (!u.1) (J .ret (Ay false)) ((aZ F0 (aK b a pS.aD).1 0 (aj (c-1))).bind fun v=>br (!v.1) (J .ret (Ay false)) (br ((aK b a pS.aD).1==r) (J .ret (Ay false)) (IV F J n (Ax b e (aj (a+1)) c d r f g h i j k l m o p q s t)))))) (J (.exit 0) (Ub)):=by kernel_rfl
theorem alT (a:Bool):Az F .ret (Ay a)=some (a,()):=by kernel_rfl
theorem ahF: Az F (.exit 0) (Ub)=some (true,()):=by kernel_rfl
def cp (c:D1)(r:a1):=bj IT F IU f58 xt aO 1 (c,r,())
theorem asy (c:D1)(r:a1):cp F c r=(ep F0 c).bind fun a=>br (!a.1) (some (false,())) ((aZ F0 r.1 0 (aj (c.1-1))).bind fun b=>br (!b.1) (some (false,())) ((aZ F0 r.2.1 1 60).bind fun d=>br (!d.1) (some (false,())) ((aZ F0 r.2.2.1 0 60).bind fun e=>br (!e.1) (some (false,())) ((kU F0 c r.2.2.2.1).bind fun f=>br (!f.1) (some (false,())) ((wZ F0 r.2.2.2.2.1).bind fun g=>br (!g.1) (some (false,())) ((kV F0 c r.2.2.2.2.2.1).bind fun h=>br (!h.1) (some (false,())) ((q4 F0 r.2.2.2.2.2.2.1).bind fun i=>br (!i.1) (some (false,())) (br (decide ((r.2.2.2.2.2.2.2.length:Int)>30)) (some (false,())) (IV F (Az F) F.n (Ax r.2.2.2.2.2.2.2 (r.2.2.2.2.2.2.2.length:Int) 0 c.1 c.2 r.1 r.2.1 r.2.2.1 r.2.2.2.1.1 r.2.2.2.1.2.1 r.2.2.2.1.2.2.1.1 r.2.2.2.1.2.2.1.2.1 r.2.2.2.1.2.2.1.2.2 r.2.2.2.1.2.2.2 r.2.2.2.2.1 r.2.2.2.2.2.1 r.2.2.2.2.2.2.1.1 r.2.2.2.2.2.2.1.2 r.2.2.2.2.2.2.2)))))))))):=by kernel_rfl
def b1:Any:=.one ⟨xt,aO,1,fun x=>cp F0 x.1 x.2.1⟩
theorem ct:a6 58 b1:=aq IT ⟨dO,bV,q1,W0,T9,As,tM,trivial⟩ func58 IU (by kernel_rfl)
def aaX:=[(58,b1)]
def Ny (c:D1)(a:Int):=bj aaX F ad f31 ajv gx 2 (c,a,())
theorem api (c:D1)(a:Int):Ny F c a=(cp F0 c (a,1,0,(0,0,(0,ak,[]),ak),[],[],([],0),[])).bind fun b=>br (!b.1) (some ((0,0,0,(0,0,(0,ak,[]),ak),[],[],([],0),[]),false,())) (some ((a,1,0,(0,0,(0,ak,[]),ak),[],[],([],0),[]),true,())):=by kernel_rfl
def Uc:Any:=.one ⟨ajv,gx,2,fun x=>Ny F0 x.1 x.2.1⟩
theorem apj:a6 31 Uc:=aq aaX ⟨ct,trivial⟩ func31 ad (by kernel_rfl)
def Ej:=[(41,bA)]
def Ek:Nat->Option Hint:=look [(4,{live:=[0,3],mat:=[(3,5,.int .u8)],xl:=[0,3],rl:=[2]})]
def ow (a:Int)(b:List Int):= cQ 23 [(0,a8 a),(3,.v (.c (.own 1000000 none)))] [] [ay 1000000 5 (.int .u8) b]
def QC (a:Int)(b:List Int):= cQ 23 [(0,a8 a),(3,.v (.c (.own 1000000 none)))] [] [ay 1000000 5 (.int .u8) b]
def tN (a:St):Option U:=e9 Ej F Ek [.r,.r,.r,.l,.b,.i] f170 J n a
def vl:=hf Ej F Ek [.r,.r,.r,.l,.b] f170 lW 2
theorem nE (a:Int)(b:List Int):tN F J (n+1) (ow a b)=br (decide (a>=128)) (ck (ei F b.length [IntKind.wrap .u8 (aj ((Int.tmod a 128)+128))].length 1) (tN F J n (ow (aj (Int.tdiv a 128)) (b++[IntKind.wrap .u8 (aj ((Int.tmod a 128)+128))])))) (J (.exit 0) (QC a b)):=by kernel_rfl
theorem pC (a:Int)(b:List Int):vl F (.exit 0) (QC a b)=ck (ei F b.length [IntKind.wrap .u8 (a)].length 1) (some (b++[IntKind.wrap .u8 (a)],())):=by kernel_rfl
def e5 (a:Int):=bj Ej F Ek f170 cE lW 2 (a,())
theorem W5 (a:Int):e5 F a=(aZ F0 a 0 2147483647).bind fun b=>br (!b.1) (some ([],())) (tN F (vl F) F.n (ow a [])):=by kernel_rfl
def ie:Any:=.one ⟨cE,lW,2,fun x=>e5 F0 x.1⟩
theorem my:a6 170 ie:=aq Ej ⟨bV,trivial⟩ func170 Ek (by kernel_rfl)
def El:=[(41,bA),(170,ie)]
def Em:Nat->Option Hint:=look [(5,{live:=[0,1,7,8],rl:=[4,5,6]})]
def vm (b:List Int)(a c i:Int):= bO 55 [(0,hD 5 (.int .u8) b),(1,a8 a),(7,a8 c),(8,a8 i)]
def GG (a b:Int)(c:Bool):= bO 55 [(4,a8 a),(5,a8 b),(6,H0 c)]
def CG   := bO 55 []
def En (a:St):Option U:=e9 El F Em [.r,.r,.r,.l,.r,.b,.i] f111 J n a
def vn:=hf El F Em [.r,.r,.r,.l,.r,.b] f111 atK 1
theorem Lb (b:List Int)(a c i:Int):En F J (n+1) (vm b a c i)=br (decide (i<5)) (br (decide ((aj (a+i))<(b.length:Int))) (ck (bG (aj (a+i)) (b.length:Int)) (ck (decide (0<=(aj (7*i)))) (br (decide ((aj (aK b (aj (a+i)) 0))<128)) ((e5 F0 (aj (c+(aj ((Int.tmod (aj (aK b (aj (a+i)) 0)) 128)*2 ^ (min (aj (7*i)).toNat 64)))))).bind fun d=>br ((d.1.length:Int) != (aj (i+1))) (J .ret (GG 0 0 false)) (J .ret (GG (aj (c+(aj ((Int.tmod (aj (aK b (aj (a+i)) 0)) 128)*2 ^ (min (aj (7*i)).toNat 64))))) (aj ((aj (a+i))+1)) true))) (En F J n (vm b a (aj (c+(aj ((Int.tmod (aj (aK b (aj (a+i)) 0)) 128)*2 ^ (min (aj (7*i)).toNat 64))))) (aj (i+1))))))) (J (.exit 0) (CG))) (J (.exit 0) (CG)):=by kernel_rfl
theorem QD (a b:Int)(c:Bool):vn F .ret (GG a b c)=some (a,b,c,()):=by kernel_rfl
theorem Nz: vn F (.exit 0) (CG)=some (0,0,false,()):=by kernel_rfl
def w3 (b:List Int)(a:Int):=bj El F Em f111 ajw atK 1 (b,a,())
theorem apk (b:List Int)(a:Int):w3 F b a=(aZ F0 a 0 (aj ((b.length:Int)-1))).bind fun c=>br (!c.1) (some (0,0,false,())) (En F (vn F) F.n (vm b a 0 0)):=by kernel_rfl
def GH:Any:=.one ⟨ajw,atK,1,fun x=>w3 F0 x.1 x.2.1⟩
theorem W6:a6 111 GH:=aq El ⟨bV,my,trivial⟩ func111 Em (by kernel_rfl)
def NA:=[(111,GH)]
def bH (r:D32):=E6 NA F ad f112 hH 0 .cur cE hH 1 (r,())
theorem acq (r:D32):bH F r=(w3 F0 r.1 r.2.1).bind fun a=>br r.2.2 (some ((0,()),(r.1,r.2.1,true),())) (br (!a.2.2.1) (some ((0,()),(r.1,r.2.1,true),())) (some ((a.1,()),(r.1,a.2.1,r.2.2),()))):=by kernel_rfl
def iy:Any:=.two ⟨hH,0,.cur,cE,1,hH,fun x=>bH F0 x.1⟩
theorem nF:a6 112 iy:=VZ NA ⟨W6,trivial⟩ func112 ad (by kernel_rfl)
def W7:=[(111,GH)]
def nG (b:List Int)(a:Int):=bj W7 F ad f53 ajw aDk 1 (b,a,())
theorem alU (b:List Int)(c:Int):nG F b c=(w3 F0 b c).bind fun a=>br (!a.2.2.1) (some (ak,0,false,())) (br (decide (a.1>(aj ((b.length:Int)-a.2.1)))) (some (ak,0,false,())) (ck (S5 a.2.1 (aj (a.2.1+a.1)) (b.length:Int)) (some (strOf ((b.take (aj (a.2.1+a.1)).toNat).drop a.2.1.toNat),aj (a.2.1+a.1),true,())))):=by kernel_rfl
def CH:Any:=.one ⟨ajw,aDk,1,fun x=>nG F0 x.1 x.2.1⟩
theorem Ud:a6 53 CH:=aq W7 ⟨W6,trivial⟩ func53 ad (by kernel_rfl)
def Lc:=[(53,CH)]
def gd (r:D32):=E6 Lc F ad f114 hH 0 .cur dB hH 1 (r,())
theorem Zp (r:D32):gd F r=(nG F0 r.1 r.2.1).bind fun a=>br r.2.2 (some ((ak,()),(r.1,r.2.1,true),())) (br (!a.2.2.1) (some ((ak,()),(r.1,r.2.1,true),())) (some ((a.1,()),(r.1,a.2.1,r.2.2),()))):=by kernel_rfl
def kW:Any:=.two ⟨hH,0,.cur,dB,1,hH,fun x=>gd F0 x.1⟩
theorem tk:a6 114 kW:=VZ Lc ⟨Ud,trivial⟩ func114 ad (by kernel_rfl)
def nH:=[(112,iy)]
def nI:Nat->Option Hint:=look [(4,{live:=[0,3,4,5],mat:=[(3,3,.int .i64)],xl:=[3],rl:=[2]})]
def kX (d i:Int)(a:List Int)(b:Int)(c:Bool)(e:List Int):St:={nt:=26,tm:=[(0,.v (.c (.ptr 4000000 0))),(3,.v (.c (.own 1000000 none))),(4,a8 d),(5,a8 i)],bx:=[(4000000,[.ro true 5 (.int .u8) a,ao b,.bool c])],bl:=[ay 1000000 3 (.int .i64) e],sp:=.v (.c (.ptr 4000000 0))}
def j7 (a:List Int)(b:Int)(c:Bool)(d:List Int):St:={nt:=26,tm:=[(3,.v (.c (.own 1000000 none)))],bx:=[(4000000,[.ro true 5 (.int .u8) a,ao b,.bool c])],bl:=[ay 1000000 3 (.int .i64) d],sp:=.v (.c (.ptr 4000000 0))}
def nJ (a:St):Option U:=e9 nH F nI [.r,.r,.r,.l,.r,.b,.i] f120 J n a
def q5:=ayu nH F nI [.r,.r,.r,.l,.r,.b] f120 .cur kh hH 2
theorem w4 (f i:Int)(d:List Int)(e:Int)(a:Bool)(c:List Int):nJ F J (n+1) (kX f i d e a c)=br (decide (i<f)) (br (!a) ((bH F0 (d,e,a)).bind fun b=>ck (ei F c.length [b.1.1].length 8) (nJ F J n (kX f (aj (i+1)) b.2.1.1 b.2.1.2.1 b.2.1.2.2 (c++[b.1.1])))) (J (.exit 0) (j7 d e a c))) (J (.exit 0) (j7 d e a c)):=by kernel_rfl
theorem Se (a:List Int)(b:Int)(c:Bool)(d:List Int):q5 F (.exit 0) (j7 a b c d)=some ((d,()),(a,b,c),()):=by kernel_rfl
def mz (r:D32):=E6 nH F nI f120 hH 0 .cur kh hH 2 (r,())
theorem Zq (r:D32):mz F r=(bH F0 r).bind fun a=>nJ F (q5 F) F.n (kX a.1.1 0 a.2.1.1 a.2.1.2.1 a.2.1.2.2 []):=by kernel_rfl
def q6:Any:=.two ⟨hH,0,.cur,kh,2,hH,fun x=>mz F0 x.1⟩
theorem Hr:a6 120 q6:=VZ nH ⟨nF,trivial⟩ func120 nI (by kernel_rfl)
def QE:=[(112,iy),(114,kW),(120,q6)]
def mA (r:D32):=E6 QE F ad f113 hH 0 .cur gq hH 2 (r,())
theorem aeM (r:D32):mA F r=(bH F0 r).bind fun a=>(gd F0 a.2.1).bind fun b=>(mz F0 b.2.1).bind fun c=>some (((a.1.1,b.1.1,c.1.1),()),c.2.1,()):=by kernel_rfl
def wh:Any:=.two ⟨hH,0,.cur,gq,2,hH,fun x=>mA F0 x.1⟩
theorem NB:a6 113 wh:=VZ QE ⟨nF,tk,Hr,trivial⟩ func113 ad (by kernel_rfl)
def aeN:=[(112,iy),(113,wh),(114,kW),(119,mx),(120,q6)]
def CI (c:D1)(b:List Int):=bj aeN F ad f59 Tl aDl 2 (c,b,())
theorem asz (c:D1)(b:List Int):CI F c b=(bH F0 (b,0,false)).bind fun a=>br (a.1.1==1) ((gd F0 a.2.1).bind fun i=>(mA F0 i.2.1).bind fun e=>br e.2.1.2.2 (some ((0,0,(ak,0,ak,[]),(0,ak,[]),(0,ak,[]),0,0,0,0,0),false,())) (br (e.2.1.2.1 != (b.length:Int)) (some ((0,0,(ak,0,ak,[]),(0,ak,[]),(0,ak,[]),0,0,0,0,0),false,())) ((gb F0 c (a.1.1,0,(i.1.1,e.1.1),(0,ak,[]),(0,ak,[]),0,0,0,0,0)).bind fun d=>br (!d.1) (some ((0,0,(ak,0,ak,[]),(0,ak,[]),(0,ak,[]),0,0,0,0,0),false,())) (some ((a.1.1,0,(i.1.1,e.1.1),(0,ak,[]),(0,ak,[]),0,0,0,0,0),true,()))))) (br (a.1.1==2) ((bH F0 a.2.1).bind fun j=>(gd F0 j.2.1).bind fun k=>(mz F0 k.2.1).bind fun f=>br f.2.1.2.2 (some ((0,0,(ak,0,ak,[]),(0,ak,[]),(0,ak,[]),0,0,0,0,0),false,())) (br (f.2.1.2.1 != (b.length:Int)) (some ((0,0,(ak,0,ak,[]),(0,ak,[]),(0,ak,[]),0,0,0,0,0),false,())) ((gb F0 c (a.1.1,0,(ak,0,ak,[]),(j.1.1,k.1.1,f.1.1),(0,ak,[]),0,0,0,0,0)).bind fun d=>br (!d.1) (some ((0,0,(ak,0,ak,[]),(0,ak,[]),(0,ak,[]),0,0,0,0,0),false,())) (some ((a.1.1,0,(ak,0,ak,[]),(j.1.1,k.1.1,f.1.1),(0,ak,[]),0,0,0,0,0),true,()))))) (br (a.1.1==3) ((bH F0 a.2.1).bind fun l=>(bH F0 l.2.1).bind fun m=>(mA F0 m.2.1).bind fun g=>br g.2.1.2.2 (some ((0,0,(ak,0,ak,[]),(0,ak,[]),(0,ak,[]),0,0,0,0,0),false,())) (br (g.2.1.2.1 != (b.length:Int)) (some ((0,0,(ak,0,ak,[]),(0,ak,[]),(0,ak,[]),0,0,0,0,0),false,())) ((gb F0 c (a.1.1,l.1.1,(ak,0,ak,[]),(0,ak,[]),g.1.1,m.1.1,0,0,0,0)).bind fun d=>br (!d.1) (some ((0,0,(ak,0,ak,[]),(0,ak,[]),(0,ak,[]),0,0,0,0,0),false,())) (some ((a.1.1,l.1.1,(ak,0,ak,[]),(0,ak,[]),g.1.1,m.1.1,0,0,0,0),true,()))))) (br (a.1.1==4) ((bH F0 a.2.1).bind fun o=>(bH F0 o.2.1).bind fun p=>(bH F0 p.2.1).bind fun q=>(bH F0 q.2.1).bind fun h=>br h.2.1.2.2 (some ((0,0,(ak,0,ak,[]),(0,ak,[]),(0,ak,[]),0,0,0,0,0),false,())) (br (h.2.1.2.1 != (b.length:Int)) (some ((0,0,(ak,0,ak,[]),(0,ak,[]),(0,ak,[]),0,0,0,0,0),false,())) ((gb F0 c (a.1.1,0,(ak,0,ak,[]),(0,ak,[]),(0,ak,[]),0,o.1.1,p.1.1,q.1.1,h.1.1)).bind fun d=>br (!d.1) (some ((0,0,(ak,0,ak,[]),(0,ak,[]),(0,ak,[]),0,0,0,0,0),false,())) (some ((a.1.1,0,(ak,0,ak,[]),(0,ak,[]),(0,ak,[]),0,o.1.1,p.1.1,q.1.1,h.1.1),true,()))))) (br a.2.1.2.2 (some ((0,0,(ak,0,ak,[]),(0,ak,[]),(0,ak,[]),0,0,0,0,0),false,())) (br (a.2.1.2.1 != (b.length:Int)) (some ((0,0,(ak,0,ak,[]),(0,ak,[]),(0,ak,[]),0,0,0,0,0),false,())) ((gb F0 c (a.1.1,0,(ak,0,ak,[]),(0,ak,[]),(0,ak,[]),0,0,0,0,0)).bind fun d=>br (!d.1) (some ((0,0,(ak,0,ak,[]),(0,ak,[]),(0,ak,[]),0,0,0,0,0),false,())) (some ((a.1.1,0,(ak,0,ak,[]),(0,ak,[]),(0,ak,[]),0,0,0,0,0),true,())))))))):=by kernel_rfl
def AA:Any:=.one ⟨Tl,aDl,2,fun x=>CI F0 x.1 x.2.1⟩
theorem O3:a6 59 AA:=aq aeN ⟨nF,NB,tk,tM,Hr,trivial⟩ func59 ad (by kernel_rfl)
def gS:=[(30,cN),(41,bA),(49,dZ),(56,An),(57,GB),(58,b1),(59,AA),(60,eO)]
def gT:Nat->Option Hint:=look [(5,{live:=[1,3,54,55,56],xl:=[1,3],rl:=[2]}),(11,{live:=[1,3,73,74,75],xl:=[1,3],rl:=[2]}),(18,{live:=[3,99,100,101],rl:=[2]})]
def mB (b:List bE)(d e c a:Int):= cQ 127 [b0 3,(99,hD 41 (cz) b),(100,a8 d),(101,a8 e)] [(3,[ao c,ao a])] []
def si (a:Bool):= bO 127 [(2,H0 a)]
def NC   := bO 127 []
def q7 (a:St):Option U:=e9 gS F gT [.r,.r,.r,.r,.r,.l,.r,.b,.i] f20 J n a
def mC:=hf gS F gT [.r,.r,.r,.r,.r,.l,.r,.b] f20 aO 1
def mD (h:List bS)(i j w a:Int)(b:List Int)(d:List a1)(e:List bS)(f:List bE)(c g:Int):= cQ 127 [b0 1,b0 3,(73,hD 105 (eh) h),(74,a8 i),(75,a8 j)] [(1,[ao w,ao a,.ro false 3 (.int .i64) b,.ro false 65 (cd) d,.ro false 105 (eh) e,.ro false 41 (cz) f]),(3,[ao c,ao g])] []
def CJ (a:Bool):= bO 127 [(2,H0 a)]
def ND (w a:Int)(b:List Int)(d:List a1)(e:List bS)(f:List bE)(c g:Int):= cQ 127 [b0 1,b0 3] [(1,[ao w,ao a,.ro false 3 (.int .i64) b,.ro false 65 (cd) d,.ro false 105 (eh) e,.ro false 41 (cz) f]),(3,[ao c,ao g])] []
def q8 (a:St):Option U:=e9 gS F gT [.r,.r,.r,.r,.l,.r,.b,.i] f20 J n a
def mE:=hf gS F gT [.r,.r,.r,.r,.l,.r,.b] f20 aO 1
def mF (h:List a1)(i j w a:Int)(b:List Int)(d:List a1)(e:List bS)(f:List bE)(c g:Int):= cQ 127 [b0 1,b0 3,(54,hD 65 (cd) h),(55,a8 i),(56,a8 j)] [(1,[ao w,ao a,.ro false 3 (.int .i64) b,.ro false 65 (cd) d,.ro false 105 (eh) e,.ro false 41 (cz) f]),(3,[ao c,ao g])] []
def CK (a:Bool):= bO 127 [(2,H0 a)]
def NF (w a:Int)(b:List Int)(d:List a1)(e:List bS)(f:List bE)(c g:Int):= cQ 127 [b0 1,b0 3] [(1,[ao w,ao a,.ro false 3 (.int .i64) b,.ro false 65 (cd) d,.ro false 105 (eh) e,.ro false 41 (cz) f]),(3,[ao c,ao g])] []
def q9 (a:St):Option U:=e9 gS F gT [.r,.r,.r,.l,.r,.b,.i] f20 J n a
def mG:=hf gS F gT [.r,.r,.r,.l,.r,.b] f20 aO 1
theorem Hs (b:List bE)(d a c e:Int):q7 F J (n+1) (mB b d a c e)=br (decide (a<d)) (ck (bG a (b.length:Int)) ((aZ F0 (aK b a cz.aD).2.2 0 (aj (c-1))).bind fun f=>br (!f.1) (J .ret (si false)) ((eZ F0 (aK b a cz.aD).2.1).bind fun g=>br (!g.1) (J .ret (si false)) ((er F0 (aK b a cz.aD).2.1).bind fun h=>br (h.1 != (aK b a cz.aD).1) (J .ret (si false)) (q7 F J n (mB b d (aj (a+1)) c e)))))) (J (.exit 4) (NC)):=by kernel_rfl
theorem Ht (b:List bS)(j a w e:Int)(f:List Int)(g:List a1)(h:List bS)(i:List bE)(c d:Int):q8 F J (n+1) (mD b j a w e f g h i c d)=br (decide (a<j)) (ck (bG a (b.length:Int)) ((CI F0 (c,d) (aK b a (0,[])).2).bind fun k=>br (!k.2.1) (J .ret (CJ false)) ((aZ F0 (aK b a (0,[])).1 0 (aj (c-1))).bind fun l=>br (!l.1) (J .ret (CJ false)) (q8 F J n (mD b j (aj (a+1)) w e f g h i c d))))) (J (.exit 2) (ND w e f g h i c d)):=by kernel_rfl
theorem Hu (b:List a1)(j a w e:Int)(f:List Int)(g:List a1)(h:List bS)(i:List bE)(c d:Int):q9 F J (n+1) (mF b j a w e f g h i c d)=br (decide (a<j)) (ck (bG a (b.length:Int)) ((cp F0 (c,d) (aK b a cd.aD)).bind fun k=>br (!k.1) (J .ret (CK false)) (br ((aK b a cd.aD).1 != a) (J .ret (CK false)) (q9 F J n (mF b j (aj (a+1)) w e f g h i c d))))) (J (.exit 0) (NF w e f g h i c d)):=by kernel_rfl
theorem aeO (a:Bool):mC F .ret (si a)=some (a,()):=by kernel_rfl
theorem acr: mC F (.exit 4) (NC)=some (true,()):=by kernel_rfl
theorem aeP (a:Bool):mE F .ret (CJ a)=some (a,()):=by kernel_rfl
theorem acs (w d:Int)(e:List Int)(f:List a1)(g:List bS)(a:List bE)(c b:Int):mE F (.exit 2) (ND w d e f g a c b)=q7 F (mC F) F.n (mB a (a.length:Int) 0 c b):=by kernel_rfl
theorem aeQ (a:Bool):mG F .ret (CK a)=some (a,()):=by kernel_rfl
theorem acu (w b:Int)(d:List Int)(e:List a1)(a:List bS)(f:List bE)(c g:Int):mG F (.exit 0) (NF w b d e a f c g)=q8 F (mE F) F.n (mD a (a.length:Int) 0 w b d e a f c g):=by kernel_rfl
def bT (w:ko):=bj gS F gT f20 ix aO 1 (w,())
theorem alV (w:ko):bT F w=(ep F0 w.1).bind fun a=>br (!a.1) (some (false,())) ((wg F0 w.1.1 w.2.1).bind fun b=>br (!b.1) (some (false,())) ((Ft F0 w.1).bind fun c=>br (decide ((w.2.1.length:Int)>c.1)) (some (false,())) (br ((w.2.2.1.length:Int) != w.1.1) (some (false,())) (br (decide ((w.2.2.2.1.length:Int)>60)) (some (false,())) (br (decide ((w.2.2.2.2.length:Int)>300)) (some (false,())) (q9 F (mG F) F.n (mF w.2.2.1 (w.2.2.1.length:Int) 0 w.1.1 w.1.2 w.2.1 w.2.2.1 w.2.2.2.1 w.2.2.2.2 w.1.1 w.1.2))))))):=by kernel_rfl
def cx:Any:=.one ⟨ix,aO,1,fun x=>bT F0 x.1⟩
theorem dh:a6 20 cx:=aq gS ⟨dO,bV,fs,O0,WY,ct,O3,gR,trivial⟩ func20 gT (by kernel_rfl)
def vo:=[(20,cx),(29,fq),(30,cN),(31,Uc)]
def vp:Nat->Option Hint:=look [(3,{live:=[2,4,6,7],x3:=[(4,2,3,.int .i64),(4,3,65,cd),(4,4,105,eh),(4,5,41,cz),(6,3,65,cd),(6,4,105,eh),(6,5,41,cz)],xl:=[4,6],rl:=[4,5]})]
def pD (i c a l m w b:Int)(o:List Int)(d:List a1)(e:List bS)(f:List bE)(g:List Int)(h:List a1)(j:List bS)(k:List bE):= cQ 41 [b0 2,b0 4,b0 6,(7,a8 i)] [(2,[ao c,ao a]),(4,[ao l,ao m,.own 1000000 none,.own 1000001 none,.own 1000002 none,.own 1000003 none]),(6,[ao w,ao b,.own 1000004 none,.own 1000005 none,.own 1000006 none,.own 1000007 none])] [ay 1000000 3 (.int .i64) o,ay 1000001 65 cd d,ay 1000002 105 eh e,ay 1000003 41 cz f,ay 1000004 3 (.int .i64) g,ay 1000005 65 cd h,ay 1000006 105 eh j,ay 1000007 41 cz k]
def wi (i j w a:Int)(k:List Int)(b:List a1)(c:List bS)(d:List bE)(e:List Int)(f:List a1)(g:List bS)(h:List bE):= cQ 41 [b0 4,b0 6] [(4,[ao i,ao j,.own 1000000 none,.own 1000001 none,.own 1000002 none,.own 1000003 none]),(6,[ao w,ao a,.own 1000004 none,.own 1000005 none,.own 1000006 none,.own 1000007 none])] [ay 1000000 3 (.int .i64) k,ay 1000001 65 cd b,ay 1000002 105 eh c,ay 1000003 41 cz d,ay 1000004 3 (.int .i64) e,ay 1000005 65 cd f,ay 1000006 105 eh g,ay 1000007 41 cz h]
def vq (a:St):Option U:=e9 vo F vp [.r,.r,.l,.r,.b,.i] f8 J n a
def AB:=hf vo F vp [.r,.r,.l,.r,.b] f8 atL 2
theorem Fz (i c b l m w d:Int)(o:List Int)(e:List a1)(f:List bS)(g:List bE)(h:List Int)(a:List a1)(j:List bS)(k:List bE):vq F J (n+1) (pD i c b l m w d o e f g h a j k)=(ep F0 (c,b)).bind fun q=>br q.1 (br (decide (i<c)) ((Ny F0 (c,b) i).bind fun p=>ck (ei F a.length [p.1].length 208) (vq F J n (pD (aj (i+1)) c b l m w d o e f g h (a++[p.1]) j k))) (J (.exit 0) (wi l m w d o e f g h a j k))) (J (.exit 0) (wi l m w d o e f g h a j k)):=by kernel_rfl
theorem Zr (j k w a:Int)(l:List Int)(f:List a1)(g:List bS)(h:List bE)(b:List Int)(c:List a1)(d:List bS)(e:List bE):AB F (.exit 0) (wi j k w a l f g h b c d e)=(bT F0 ((w,a),b,c,d,e)).bind fun i=>br (!i.1) (some (((0,0),[],[],[],[]),false,())) (some (((w,a),b,c,d,e),true,())):=by kernel_rfl
def tO (c:D1)(liars:List Int):=bj vo F vp f8 aDm atL 2 (c,liars,())
theorem ahG (c:D1)(liars:List Int):tO F c liars=(dY F0 liars).bind fun a=>vq F (AB F) F.n (pD 0 c.1 c.2 0 0 c.1 c.2 [] [] [] [] a.1 [] [] []):=by kernel_rfl
def NG:Any:=.one ⟨aDm,atL,2,fun x=>tO F0 x.1 x.2.1⟩
theorem ahH:a6 8 NG:=aq vo ⟨dh,jB,dO,apj,trivial⟩ func8 vp (by kernel_rfl)
def aaY:=[(29,fq)]
def gU (q:D9):=bj aaY F ad f47 gq gq 2 (q,())
theorem apl (q:D9):gU F q=(dY F0 q.2.2).bind fun a=>some ((q.1,q.2.1,a.1),()):=by kernel_rfl
def ig:Any:=.one ⟨gq,gq,2,fun x=>gU F0 x.1⟩
theorem mH:a6 47 ig:=aq aaY ⟨jB,trivial⟩ func47 ad (by kernel_rfl)
def Ue:=[(47,ig)]
def ly (s:U1):=bj Ue F ad f151 BD BD 2 (s,())
theorem ahI (s:U1):ly F s=(gU F0 s.2.2.1).bind fun a=>some ((s.1,s.2.1,a.1,s.2.2.2),()):=by kernel_rfl
def kY:Any:=.one ⟨BD,BD,2,fun x=>ly F0 x.1⟩
theorem sj:a6 151 kY:=aq Ue ⟨mH,trivial⟩ func151 ad (by kernel_rfl)
def iP (p:D5):=bj aA F ad f152 kd kd 2 (p,())
theorem alW (p:D5):iP F p=ck (ei F 0 p.length 32) (some ([]++p,())):=by kernel_rfl
def CL:Any:=.one ⟨kd,kd,2,fun x=>iP F0 x.1⟩
theorem Uf:a6 152 CL:=aq aA trivial func152 ad (by kernel_rfl)
def Ug:=[(29,fq)]
def fh (p:D9):=bj Ug F ad f222 gq gq 2 (p,())
theorem ahJ (p:D9):fh F p=(dY F0 p.2.2).bind fun a=>some ((p.1,p.2.1,a.1),()):=by kernel_rfl
def hJ:Any:=.one ⟨gq,gq,2,fun x=>fh F0 x.1⟩
theorem mI:a6 222 hJ:=aq Ug ⟨jB,trivial⟩ func222 ad (by kernel_rfl)
def sk:=[(222,hJ)]
def sn:Nat->Option Hint:=look [(3,{live:=[3,6,7,8],mat:=[(3,50,K9)],xl:=[3],rl:=[2]})]
def nK (a:List D9)(b c:Int)(d:List D9):= cQ 19 [(3,.v (.c (.own 1000000 none))),(6,hD 50 (K9) a),(7,a8 b),(8,a8 c)] [] [ay 1000000 50 K9 d]
def Hv (a:List D9):= cQ 19 [(3,.v (.c (.own 1000000 none)))] [] [ay 1000000 50 K9 a]
def so (a:St):Option U:=e9 sk F sn [.r,.r,.l,.r,.b,.i] f153 J n a
def wj:=hf sk F sn [.r,.r,.l,.r,.b] f153 G4 2
theorem BJ (b:List D9)(d a:Int)(c:List D9):so F J (n+1) (nK b d a c)=br (decide (a<d)) (ck (bG a (b.length:Int)) ((fh F0 (aK b a K9.aD)).bind fun e=>ck (ei F c.length [e.1].length 48) (so F J n (nK b d (aj (a+1)) (c++[e.1]))))) (J (.exit 0) (Hv c)):=by kernel_rfl
theorem W8 (a:List D9):wj F (.exit 0) (Hv a)=some (a,()):=by kernel_rfl
def eJ (a:D13):=bj sk F sn f153 G4 G4 2 (a,())
theorem aeR (a:D13):eJ F a=so F (wj F) F.n (nK a (a.length:Int) 0 []):=by kernel_rfl
def wm:Any:=.one ⟨G4,G4,2,fun x=>eJ F0 x.1⟩
theorem NH:a6 153 wm:=aq sk ⟨mI,trivial⟩ func153 sn (by kernel_rfl)
def lz (d:D14):=bj aA F ad f154 pa pa 2 (d,())
theorem ahK (d:D14):lz F d=ck (ei F 0 d.1.length 1) (some (([]++d.1,d.2),())):=by kernel_rfl
def kZ:Any:=.one ⟨pa,pa,2,fun x=>lz F0 x.1⟩
theorem sq:a6 154 kZ:=aq aA trivial func154 ad (by kernel_rfl)
def QF:=[(47,ig)]
def AD (b:D15):=bj QF F ad f272 ajx ajx 2 (b,())
theorem aeS (b:D15):AD F b=(gU F0 b.2).bind fun a=>some ((b.1,a.1),()):=by kernel_rfl
def Ld:Any:=.one ⟨ajx,ajx,2,fun x=>AD F0 x.1⟩
theorem aeT:a6 272 Ld:=aq QF ⟨mH,trivial⟩ func272 ad (by kernel_rfl)
end
end Go.Am.Tryz
namespace Go.Am.Tryz
open Go.Am Go.Proofs Go.Proofs.Tryz
noncomputable section
variable {U:Type} (F:rz) (J:Ex->St->Option U) (n:Nat)
def W9:=[(47,ig),(222,hJ),(272,Ld)]
def AE (m:OW):=bj W9 F ad f223 wR wR 2 (m,())
theorem alX (m:OW):AE F m=(AD F0 m.2.2.1).bind fun a=>(fh F0 m.2.2.2.1).bind fun b=>(gU F0 m.2.2.2.2.1).bind fun c=>some ((m.1,m.2.1,a.1,b.1,c.1,m.2.2.2.2.2),()):=by kernel_rfl
def CM:Any:=.one ⟨wR,wR,2,fun x=>AE F0 x.1⟩
theorem Uh:a6 223 CM:=aq W9 ⟨mH,mI,aeT,trivial⟩ func223 ad (by kernel_rfl)
def sr:=[(223,CM)]
def sv:Nat->Option Hint:=look [(3,{live:=[3,6,7,8],mat:=[(3,136,pS)],xl:=[3],rl:=[2]})]
def nL (a:List ll)(b c:Int)(d:List ll):= cQ 23 [(3,.v (.c (.own 1000000 none))),(6,hD 136 (pS) a),(7,a8 b),(8,a8 c)] [] [ay 1000000 136 pS d]
def Hw (a:List ll):= cQ 23 [(3,.v (.c (.own 1000000 none)))] [] [ay 1000000 136 pS a]
def sw (a:St):Option U:=e9 sr F sv [.r,.r,.l,.r,.b,.i] f155 J n a
def wo:=hf sr F sv [.r,.r,.l,.r,.b] f155 aan 2
theorem BK (b:List ll)(d a:Int)(c:List ll):sw F J (n+1) (nL b d a c)=br (decide (a<d)) (ck (bG a (b.length:Int)) ((AE F0 (aK b a pS.aD).2).bind fun e=>ck (ei F c.length [((aK b a pS.aD).1,e.1)].length 224) (sw F J n (nL b d (aj (a+1)) (c++[((aK b a pS.aD).1,e.1)]))))) (J (.exit 0) (Hw c)):=by kernel_rfl
theorem Xa (a:List ll):wo F (.exit 0) (Hw a)=some (a,()):=by kernel_rfl
def AF (a:D23):=bj sr F sv f155 aan aan 2 (a,())
theorem aeU (a:D23):AF F a=sw F (wo F) F.n (nL a (a.length:Int) 0 []):=by kernel_rfl
def Le:Any:=.one ⟨aan,aan,2,fun x=>AF F0 x.1⟩
theorem aeV:a6 155 Le:=aq sr ⟨Uh,trivial⟩ func155 sv (by kernel_rfl)
def Xb:=[(151,kY),(152,CL),(153,wm),(154,kZ),(155,Le)]
def az (r:a1):=bj Xb F ad f80 MH MH 2 (r,())
theorem alY (r:a1):az F r=(ly F0 r.2.2.2.1).bind fun a=>(iP F0 r.2.2.2.2.1).bind fun b=>(eJ F0 r.2.2.2.2.2.1).bind fun c=>(lz F0 r.2.2.2.2.2.2.1).bind fun d=>(AF F0 r.2.2.2.2.2.2.2).bind fun e=>some ((r.1,r.2.1,r.2.2.1,a.1,b.1,c.1,d.1,e.1),()):=by kernel_rfl
def bN:Any:=.one ⟨MH,MH,2,fun x=>az F0 x.1⟩
theorem b8:a6 80 bN:=aq Xb ⟨sj,Uf,NH,sq,aeV,trivial⟩ func80 ad (by kernel_rfl)
def Ui:Nat->Option Hint:=look [(900001,{live:=[],mat:=[(1,0,eh)]})]
def tP (x:bS):=bj aA F Ui f81 [(eh,true)] [(eh,true)] 2 (x,())
theorem ahL (x:bS):tP F x=ck (ei F 0 x.2.length 1) (some ((x.1,[]++x.2),())):=by kernel_rfl
def AG:Any:=.one ⟨[(eh,true)],[(eh,true)],2,fun x=>tP F0 x.1⟩
theorem QG:a6 81 AG:=aq aA trivial func81 Ui (by kernel_rfl)
def jC:=[(29,fq),(80,bN),(81,AG)]
def jD:Nat->Option Hint:=look [(3,{live:=[1,2,3,18,19,20],x3:=[(2,2,3,.int .i64),(2,3,65,cd),(2,4,105,eh),(2,5,41,cz),(3,3,65,cd),(3,4,105,eh)],xl:=[1,2,3],rl:=[2]}),(8,{live:=[2,3,33,34,35],xl:=[2,3],rl:=[2]}),(900001,{live:=[],mat:=[(1,0,hz)]})]
def nM (i:List bS)(j k l m o a:Int)(p:List Int)(b:List a1)(c:List bS)(d:List bE)(e:List Int)(f:List a1)(g:List bS)(h:List bE):= cQ 48 [b0 2,b0 3,(33,hD 105 (eh) i),(34,a8 j),(35,a8 k)] [(2,[ao l,ao m,.own 1000000 none,.own 1000001 none,.own 1000002 none,.own 1000003 none]),(3,[ao o,ao a,.own 1000004 none,.own 1000005 none,.own 1000006 none,.own 1000007 none])] [ay 1000000 3 (.int .i64) p,ay 1000001 65 cd b,ay 1000002 105 eh c,ay 1000003 41 cz d,ay 1000004 3 (.int .i64) e,ay 1000005 65 cd f,ay 1000006 105 eh g,ay 1000007 41 cz h]
def Hy (i j k a:Int)(l:List Int)(b:List a1)(c:List bS)(d:List bE)(e:List Int)(f:List a1)(g:List bS)(h:List bE):= cQ 48 [b0 2,b0 3] [(2,[ao i,ao j,.own 1000000 none,.own 1000001 none,.own 1000002 none,.own 1000003 none]),(3,[ao k,ao a,.own 1000004 none,.own 1000005 none,.own 1000006 none,.own 1000007 none])] [ay 1000000 3 (.int .i64) l,ay 1000001 65 cd b,ay 1000002 105 eh c,ay 1000003 41 cz d,ay 1000004 3 (.int .i64) e,ay 1000005 65 cd f,ay 1000006 105 eh g,ay 1000007 41 cz h]
def sx (a:St):Option U:=e9 jC F jD [.r,.r,.r,.l,.r,.b,.i] f35 J n a
def wq:=hf jC F jD [.r,.r,.r,.l,.r,.b] f35 ix 2
def nN (w:ko)(i:List a1)(j k l m o a:Int)(p:List Int)(b:List a1)(c:List bS)(d:List bE)(e:List Int)(f:List a1)(g:List bS)(h:List bE):= cQ 48 [(1,.v (.c (.UU false (hz) w 0))),b0 2,b0 3,(18,hD 65 (cd) i),(19,a8 j),(20,a8 k)] [(2,[ao l,ao m,.own 1000000 none,.own 1000001 none,.own 1000002 none,.own 1000003 none]),(3,[ao o,ao a,.own 1000004 none,.own 1000005 none,.own 1000006 none,.own 1000007 none])] [ay 1000000 3 (.int .i64) p,ay 1000001 65 cd b,ay 1000002 105 eh c,ay 1000003 41 cz d,ay 1000004 3 (.int .i64) e,ay 1000005 65 cd f,ay 1000006 105 eh g,ay 1000007 41 cz h]
def Hz (w:ko)(i j k a:Int)(l:List Int)(b:List a1)(c:List bS)(d:List bE)(e:List Int)(f:List a1)(g:List bS)(h:List bE):= cQ 48 [(1,.v (.c (.UU false (hz) w 0))),b0 2,b0 3] [(2,[ao i,ao j,.own 1000000 none,.own 1000001 none,.own 1000002 none,.own 1000003 none]),(3,[ao k,ao a,.own 1000004 none,.own 1000005 none,.own 1000006 none,.own 1000007 none])] [ay 1000000 3 (.int .i64) l,ay 1000001 65 cd b,ay 1000002 105 eh c,ay 1000003 41 cz d,ay 1000004 3 (.int .i64) e,ay 1000005 65 cd f,ay 1000006 105 eh g,ay 1000007 41 cz h]
def sy (a:St):Option U:=e9 jC F jD [.r,.r,.l,.r,.b,.i] f35 J n a
def wu:=hf jC F jD [.r,.r,.l,.r,.b] f35 ix 2
theorem BL (c:List bS)(k a l m o d:Int)(p:List Int)(e:List a1)(f:List bS)(g:List bE)(h:List Int)(i:List a1)(b:List bS)(j:List bE):sx F J (n+1) (nM c k a l m o d p e f g h i b j)=br (decide (a<k)) (ck (bG a (c.length:Int)) ((tP F0 (aK c a (0,[]))).bind fun q=>ck (ei F b.length [q.1].length 32) (sx F J n (nM c k (aj (a+1)) l m o d p e f g h i (b++[q.1]) j)))) (J (.exit 2) (Hy l m o d p e f g h i b j)):=by kernel_rfl
theorem BM (w:ko)(c:List a1)(k a l m o d:Int)(p:List Int)(e:List a1)(f:List bS)(g:List bE)(h:List Int)(b:List a1)(i:List bS)(j:List bE):sy F J (n+1) (nN w c k a l m o d p e f g h b i j)=br (decide (a<k)) (ck (bG a (c.length:Int)) ((az F0 (aK c a cd.aD)).bind fun q=>ck (ei F b.length [q.1].length 208) (sy F J n (nN w c k (aj (a+1)) l m o d p e f g h (b++[q.1]) i j)))) (J (.exit 0) (Hz w l m o d p e f g h b i j)):=by kernel_rfl
theorem Xc (j k f a:Int)(l:List Int)(g:List a1)(h:List bS)(i:List bE)(b:List Int)(c:List a1)(d:List bS)(e:List bE):wq F (.exit 2) (Hy j k f a l g h i b c d e)=some (((f,a),b,c,d,e),()):=by kernel_rfl
theorem Xd (w:ko)(i j k a:Int)(l:List Int)(b:List a1)(c:List bS)(d:List bE)(e:List Int)(f:List a1)(g:List bS)(h:List bE):wu F (.exit 0) (Hz w i j k a l b c d e f g h)=sx F (wq F) F.n (nM w.2.2.2.1 (w.2.2.2.1.length:Int) 0 i j k a l b c d e f g h):=by kernel_rfl
def aS (w:ko):=bj jC F jD f35 ix ix 2 (w,())
theorem aeW (w:ko):aS F w=(dY F0 w.2.1).bind fun a=>ck (ei F 0 w.2.2.2.2.length 32) (sy F (wu F) F.n (nN w w.2.2.1 (w.2.2.1.length:Int) 0 0 0 w.1.1 w.1.2 [] [] [] [] a.1 [] [] ([]++w.2.2.2.2))):=by kernel_rfl
def gf:Any:=.one ⟨ix,ix,2,fun x=>aS F0 x.1⟩
theorem k0:a6 35 gf:=aq jC ⟨jB,b8,QG,trivial⟩ func35 jD (by kernel_rfl)
def iQ:Nat->Option Hint:=look [(2,{live:=[0,1,7,8],rl:=[4]})]
def gC (s:List Int)(v a b:Int):= bO 19 [(0,hD 3 (.int .i64) s),(1,a8 v),(7,a8 a),(8,a8 b)]
def tQ (a:Int):= bO 19 [(4,a8 a)]
def s6   := bO 19 []
def iR (a:St):Option U:=e9 aA F iQ [.r,.l,.r,.b,.i] f188 J n a
def gD:=hf aA F iQ [.r,.l,.r,.b] f188 cE 1
theorem pE (s:List Int)(v b a:Int):iR F J (n+1) (gC s v b a)=br (decide (a<b)) (ck (bG a (s.length:Int)) (br (v==(aK s a 0)) (J .ret (tQ a)) (iR F J n (gC s v b (aj (a+1)))))) (J (.exit 0) (s6)):=by kernel_rfl
theorem Mf (a:Int):gD F .ret (tQ a)=some (a,()):=by kernel_rfl
theorem Lf: gD F (.exit 0) (s6)=some (-1,()):=by kernel_rfl
def k1 (s:List Int)(v:Int):=bj aA F iQ f188 Tv cE 1 (s,v,())
theorem QH (s:List Int)(v:Int):k1 F s v=iR F (gD F) F.n (gC s v (s.length:Int) 0):=by kernel_rfl
def tR:Any:=.one ⟨Tv,cE,1,fun x=>k1 F0 x.1 x.2.1⟩
theorem QI:a6 188 tR:=aq aA trivial func188 iQ (by kernel_rfl)
def s7:=[(188,tR)]
def hK (s:List Int)(v:Int):=bj s7 F ad f110 Tv aO 1 (s,v,())
theorem Lg (s:List Int)(v:Int):hK F s v=(k1 F0 s v).bind fun a=>some (decide (a.1>=0),()):=by kernel_rfl
def pF:Any:=.one ⟨Tv,aO,1,fun x=>hK F0 x.1 x.2.1⟩
theorem Lh:a6 110 pF:=aq s7 ⟨QI,trivial⟩ func110 ad (by kernel_rfl)
def aaZ:=[(110,pF)]
def c7 (s:List Int)(i:Int):=bj aaZ F ad f51 Tv aO 1 (s,i,())
theorem apm (s:List Int)(i:Int):c7 F s i=(hK F0 s i).bind fun a=>some (a.1,()):=by kernel_rfl
def cO:Any:=.one ⟨Tv,aO,1,fun x=>c7 F0 x.1 x.2.1⟩
theorem dP:a6 51 cO:=aq aaZ ⟨Lh,trivial⟩ func51 ad (by kernel_rfl)
def Eo:=[(51,cO)]
def Ep:Nat->Option Hint:=look [(3,{live:=[1,3,7,8],mat:=[(3,3,.int .i64)],xl:=[3],rl:=[2]})]
def kv (f g w a:Int)(b:List Int)(c:List a1)(d:List bS)(e:List bE)(h:List Int):= cQ 22 [b0 1,(3,.v (.c (.own 1000000 none))),(7,a8 f),(8,a8 g)] [(1,[ao w,ao a,.ro false 3 (.int .i64) b,.ro false 65 (cd) c,.ro false 105 (eh) d,.ro false 41 (cz) e])] [ay 1000000 3 (.int .i64) h]
def QJ (a:List Int):= cQ 22 [(3,.v (.c (.own 1000000 none)))] [] [ay 1000000 3 (.int .i64) a]
def oU (a:St):Option U:=e9 Eo F Ep [.r,.r,.l,.r,.b,.i] f17 J n a
def vr:=hf Eo F Ep [.r,.r,.l,.r,.b] f17 kh 2
theorem Li (d a w e:Int)(c:List Int)(f:List a1)(g:List bS)(h:List bE)(b:List Int):oU F J (n+1) (kv d a w e c f g h b)=br (decide (a<d)) ((c7 F0 c a).bind fun i=>br (!i.1) (ck (ei F b.length [a].length 8) (oU F J n (kv d (aj (a+1)) w e c f g h (b++[a])))) (oU F J n (kv d (aj (a+1)) w e c f g h b))) (J (.exit 0) (QJ b)):=by kernel_rfl
theorem aeX (a:List Int):vr F (.exit 0) (QJ a)=some (a,()):=by kernel_rfl
def gV (w:ko):=bj Eo F Ep f17 ix kh 2 (w,())
theorem apn (w:ko):gV F w=oU F (vr F) F.n (kv (w.2.2.1.length:Int) 0 w.1.1 w.1.2 w.2.1 w.2.2.1 w.2.2.2.1 w.2.2.2.2 []):=by kernel_rfl
def fP:Any:=.one ⟨ix,kh,2,fun x=>gV F0 x.1⟩
theorem jT:a6 17 fP:=aq Eo ⟨dP,trivial⟩ func17 Ep (by kernel_rfl)
def Xe:=[(17,fP),(41,bA),(51,cO)]
def IW (w:ko)(d:D45):=bj Xe F ad f42 ajN aO 1 (w,d,())
theorem alZ (w:ko)(d:D45):IW F w d=br (d.1==3) ((aZ F0 d.2.1 0 (aj ((w.2.2.2.1.length:Int)-1))).bind fun a=>some (a.1,())) (br (d.1==4) ((aZ F0 d.2.1 0 (aj ((w.2.2.2.1.length:Int)-1))).bind fun a=>some (a.1,())) (br (d.1==5) ((aZ F0 d.2.1 0 (aj ((w.2.2.2.1.length:Int)-1))).bind fun a=>some (a.1,())) (br (d.1==10) ((aZ F0 d.2.1 0 (aj (w.1.1-1))).bind fun b=>some (b.1,())) ((gV F0 w).bind fun c=>(c7 F0 c.1 d.2.1).bind fun e=>some (e.1,()))))):=by kernel_rfl
def QK:Any:=.one ⟨ajN,aO,1,fun x=>IW F0 x.1 x.2.1⟩
theorem al0:a6 42 QK:=aq Xe ⟨jT,bV,dP,trivial⟩ func42 ad (by kernel_rfl)
def ajS:=[(118,ov),(154,kZ)]
def YG (d:D14):=bj ajS F ad f159 pa pa 2 (d,())
theorem awe (d:D14):YG F d=(lz F0 d).bind fun a=>(q4 F0 d).bind fun b=>br b.1 (some ((a.1.1,(d.1.length:Int)),())) (some (a.1,())):=by kernel_rfl
def aa0:Any:=.one ⟨pa,pa,2,fun x=>YG F0 x.1⟩
theorem awf:a6 159 aa0:=aq ajS ⟨As,sq,trivial⟩ func159 ad (by kernel_rfl)
def Xf:=[(58,b1),(80,bN),(159,aa0)]
def IX (c:D1)(r:a1):=bj Xf F ad f90 xt aDI 2 (c,r,())
theorem al1 (c:D1)(r:a1):IX F c r=(az F0 r).bind fun a=>(cp F0 c r).bind fun b=>br (!b.1) (some (a.1,[],())) ((YG F0 a.1.2.2.2.2.2.2.1).bind fun d=>some ((a.1.1,a.1.2.1,a.1.2.2.1,a.1.2.2.2.1,a.1.2.2.2.2.1,a.1.2.2.2.2.2.1,d.1,[]),a.1.2.2.2.2.2.2.2,())):=by kernel_rfl
def QL:Any:=.one ⟨xt,aDI,2,fun x=>IX F0 x.1 x.2.1⟩
theorem al2:a6 90 QL:=aq Xf ⟨ct,b8,awf,trivial⟩ func90 ad (by kernel_rfl)
def aa1:=[(51,cO)]
def FA (a:Int)(m:OW):=bj aa1 F ad f92 aDJ [(K38,false)] 2 (a,m,())
theorem apo (a:Int)(m:OW):FA F a m=br (m.1==4) (some ([],())) (br (m.1==2) (br (m.2.2.2.1.2.1.toList==ak.toList) (some ([],())) ((c7 F0 m.2.2.2.1.2.2 a).bind fun b=>br (!b.1) (some ([],())) (some ([(m.2.2.2.1.1,m.2.2.2.1.2.1,a)],())))) (br (m.1==1) (br (m.2.2.1.2.2.1.toList==ak.toList) (some ([],())) ((c7 F0 m.2.2.1.2.2.2 a).bind fun b=>br (!b.1) (some ([],())) (some ([(m.2.2.1.2.1,m.2.2.1.2.2.1,a)],())))) (br (m.2.2.2.2.1.2.1.toList==ak.toList) (some ([],())) ((c7 F0 m.2.2.2.2.1.2.2 a).bind fun b=>br (!b.1) (some ([],())) (some ([(m.2.2.2.2.1.1,m.2.2.2.2.1.2.1,a)],())))))):=by kernel_rfl
def GI:Any:=.one ⟨aDJ,[(K38,false)],2,fun x=>FA F0 x.1 x.2.1⟩
theorem Xg:a6 92 GI:=aq aa1 ⟨dP,trivial⟩ func92 ad (by kernel_rfl)
def NI:Nat->Option Hint:=look [(2,{live:=[0,3,7,8],rl:=[4]})]
def Er (s:List bE)(c d v:Int)(a:ByteArray)(b:Int):= cQ 19 [(0,hD 41 (cz) s),b0 3,(7,a8 c),(8,a8 d)] [(3,[ao v,.str a,ao b])] []
def aa2 (a:Int):= bO 19 [(4,a8 a)]
def Xh   := bO 19 []
def NJ (a:St):Option U:=e9 aA F NI [.r,.l,.r,.b,.i] f160 J n a
def Es:=hf aA F NI [.r,.l,.r,.b] f160 cE 1
theorem QM (s:List bE)(d a v:Int)(b:ByteArray)(c:Int):NJ F J (n+1) (Er s d a v b c)=br (decide (a<d)) (ck (bG a (s.length:Int)) (br ((v==(aK s a cz.aD).1)&&((b.toList==(aK s a cz.aD).2.1.toList)&&((c==(aK s a cz.aD).2.2)&&true))) (J .ret (aa2 a)) (NJ F J n (Er s d (aj (a+1)) v b c)))) (J (.exit 0) (Xh)):=by kernel_rfl
theorem apq (a:Int):Es F .ret (aa2 a)=some (a,()):=by kernel_rfl
theorem al3: Es F (.exit 0) (Xh)=some (-1,()):=by kernel_rfl
abbrev aDM:List (Ty×Bool):=[(K38,false),(cz,true)]
def YH (s:D38)(v:bE):=bj aA F NI f160 aDM cE 1 (s,v,())
theorem awg (s:D38)(v:bE):YH F s v=NJ F (Es F) F.n (Er s (s.length:Int) 0 v.1 v.2.1 v.2.2):=by kernel_rfl
def aa3:Any:=.one ⟨aDM,cE,1,fun x=>YH F0 x.1 x.2.1⟩
theorem awh:a6 160 aa3:=aq aA trivial func160 NI (by kernel_rfl)
def pG:=[(160,aa3)]
def c9 (s:D38)(v:bE):=bj pG F ad f93 aDM aO 1 (s,v,())
theorem GJ (s:D38)(v:bE):c9 F s v=(YH F0 s v).bind fun a=>some (decide (a.1>=0),()):=by kernel_rfl
def ew:Any:=.one ⟨aDM,aO,1,fun x=>c9 F0 x.1 x.2.1⟩
theorem ih:a6 93 ew:=aq pG ⟨awh,trivial⟩ func93 ad (by kernel_rfl)
def nO:=[(17,fP),(35,gf),(51,cO),(92,GI),(93,ew)]
def nP:Nat->Option Hint:=look [(5,{live:=[1,6,7,20,21,22],x3:=[(6,2,3,.int .i64),(6,3,65,cd),(6,4,105,eh),(6,5,41,cz)],xl:=[6,7],rl:=[6]}),(8,{live:=[1,6,7,20,21,22,29,30,31],xl:=[1,6,7,20,21,22],rl:=[6]})]
def mJ (j:Int)(k:List ll)(l m o p q r s a:Int)(t:List bE)(b:List Int)(c:List a1)(d:List bS)(e:List bE)(f:List Int)(g:List a1)(h:List bS)(i:List bE):= cQ 55 [(1,a8 j),b0 6,b0 7,(20,hD 136 (pS) k),(21,a8 l),(22,a8 m),(29,.v (.c (.own 1000000 none))),(30,a8 o),(31,a8 p)] [(6,[ao q,ao r,.own 1000001 none,.own 1000002 none,.own 1000003 none,.own 1000004 none]),(7,[ao s,ao a,.own 1000005 none,.own 1000006 none,.own 1000007 none,.own 1000008 none])] [ay 1000000 41 cz t,ay 1000001 3 (.int .i64) b,ay 1000002 65 cd c,ay 1000003 105 eh d,ay 1000004 41 cz e,ay 1000005 3 (.int .i64) f,ay 1000006 65 cd g,ay 1000007 105 eh h,ay 1000008 41 cz i]
def Uj (i:Int)(j:List ll)(k l m o p a:Int)(q:List Int)(b:List a1)(c:List bS)(d:List bE)(e:List Int)(f:List a1)(g:List bS)(h:List bE):= cQ 55 [(1,a8 i),b0 6,b0 7,(20,hD 136 (pS) j),(21,a8 k),(22,a8 l)] [(6,[ao m,ao o,.own 1000000 none,.own 1000001 none,.own 1000002 none,.own 1000003 none]),(7,[ao p,ao a,.own 1000004 none,.own 1000005 none,.own 1000006 none,.own 1000007 none])] [ay 1000000 3 (.int .i64) q,ay 1000001 65 cd b,ay 1000002 105 eh c,ay 1000003 41 cz d,ay 1000004 3 (.int .i64) e,ay 1000005 65 cd f,ay 1000006 105 eh g,ay 1000007 41 cz h]
def sz (a:St):Option U:=e9 nO F nP [.r,.r,.r,.l,.r,.b,.i,.r,.r,.l,.b,.r,.r,.b,.i] f91 J n a
def Lj:Ex->St->Option U:=Vy Tryz.prog (look nO) F nP [.r,.r,.l,.b,.r,.r,.b] (sub [.r,.r,.r,.l,.r,.b,.i] (eU f91)) (itk Tryz.prog (look nO) F nP (sub [.r,.r,.r,.l,.r,.b,.i] (eU f91)) J n)
def AH (i:Int)(j:List ll)(k l m o p a:Int)(q:List Int)(b:List a1)(c:List bS)(d:List bE)(e:List Int)(f:List a1)(g:List bS)(h:List bE):= cQ 55 [(1,a8 i),b0 6,b0 7,(20,hD 136 (pS) j),(21,a8 k),(22,a8 l)] [(6,[ao m,ao o,.own 1000000 none,.own 1000001 none,.own 1000002 none,.own 1000003 none]),(7,[ao p,ao a,.own 1000004 none,.own 1000005 none,.own 1000006 none,.own 1000007 none])] [ay 1000000 3 (.int .i64) q,ay 1000001 65 cd b,ay 1000002 105 eh c,ay 1000003 41 cz d,ay 1000004 3 (.int .i64) e,ay 1000005 65 cd f,ay 1000006 105 eh g,ay 1000007 41 cz h]
def Uk (i j k a:Int)(l:List Int)(b:List a1)(c:List bS)(d:List bE)(e:List Int)(f:List a1)(g:List bS)(h:List bE):= cQ 55 [b0 6,b0 7] [(6,[ao i,ao j,.own 1000000 none,.own 1000001 none,.own 1000002 none,.own 1000003 none]),(7,[ao k,ao a,.own 1000004 none,.own 1000005 none,.own 1000006 none,.own 1000007 none])] [ay 1000000 3 (.int .i64) l,ay 1000001 65 cd b,ay 1000002 105 eh c,ay 1000003 41 cz d,ay 1000004 3 (.int .i64) e,ay 1000005 65 cd f,ay 1000006 105 eh g,ay 1000007 41 cz h]
def IY (a:St):Option U:=e9 nO F nP [.r,.r,.r,.l,.r,.b,.i] f91 J n a
def AI:=hf nO F nP [.r,.r,.r,.l,.r,.b] f91 ix 2
theorem NK (l:Int)(m:List ll)(o p q a r s t d:Int)(c:List bE)(e:List Int)(f:List a1)(g:List bS)(h:List bE)(i:List Int)(j:List a1)(k:List bS)(b:List bE):sz F J (n+1) (mJ l m o p q a r s t d c e f g h i j k b)=br (decide (a<q)) (ck (bG a (c.length:Int)) ((c9 F0 b (aK c a cz.aD)).bind fun u=>br (!u.1) (br (decide ((b.length:Int)<300)) (ck (ei F b.length [(aK c a cz.aD)].length 32) (sz F J n (mJ l m o p q (aj (a+1)) r s t d c e f g h i j k (b++[(aK c a cz.aD)])))) (sz F J n (mJ l m o p q (aj (a+1)) r s t d c e f g h i j k b))) (sz F J n (mJ l m o p q (aj (a+1)) r s t d c e f g h i j k b)))) (J (.exit 2) (Uj l m o p r s t d e f g h i j k b)):=by kernel_rfl
theorem NL (k:Int)(b:List ll)(l a m o p c:Int)(q:List Int)(d:List a1)(e:List bS)(f:List bE)(g:List Int)(h:List a1)(i:List bS)(j:List bE):IY F J (n+1) (AH k b l a m o p c q d e f g h i j)=br (decide (a<l)) (ck (bG a (b.length:Int)) ((FA F0 k (aK b a pS.aD).2).bind fun r=>sz F (Lj F J n) F.n (mJ k b l a (r.1.length:Int) 0 m o p c r.1 q d e f g h i j))) (J (.exit 0) (Uk m o p c q d e f g h i j)):=by kernel_rfl
theorem ahM (i:Int)(j:List ll)(k l m o p a:Int)(q:List Int)(b:List a1)(c:List bS)(d:List bE)(e:List Int)(f:List a1)(g:List bS)(h:List bE):Lj F J n (.exit 2) (Uj i j k l m o p a q b c d e f g h)=IY F J n (AH i j k (aj (l+1)) m o p a q b c d e f g h):=by kernel_rfl
theorem ahN (j k f a:Int)(l:List Int)(g:List a1)(h:List bS)(i:List bE)(b:List Int)(c:List a1)(d:List bS)(e:List bE):AI F (.exit 0) (Uk j k f a l g h i b c d e)=some (((f,a),b,c,d,e),()):=by kernel_rfl
def Sf (w:ko)(a:Int)(b:D23):=bj nO F nP f91 aDK ix 2 (w,a,b,())
theorem asA (w:ko)(b:Int)(c:D23):Sf F w b c=(aS F0 w).bind fun a=>(gV F0 w).bind fun d=>(c7 F0 d.1 b).bind fun e=>br (!e.1) (some (a.1,())) (IY F (AI F) F.n (AH b c (c.length:Int) 0 0 0 a.1.1.1 a.1.1.2 [] [] [] [] a.1.2.1 a.1.2.2.1 a.1.2.2.2.1 a.1.2.2.2.2)):=by kernel_rfl
def Xi:Any:=.one ⟨aDK,ix,2,fun x=>Sf F0 x.1 x.2.1 x.2.2.1⟩
theorem asB:a6 91 Xi:=aq nO ⟨jT,k0,dP,Xg,ih,trivial⟩ func91 nP (by kernel_rfl)
def Xj:=[(170,ie)]
def nQ (s:ByteArray):=bj Xj F ad f171 dB lW 2 (s,())
theorem al4 (s:ByteArray):nQ F s=(e5 F0 (s.size:Int)).bind fun a=>ck (okB F a.1.length s.size) (some (a.1++bytesOf s,())):=by kernel_rfl
def sA:Any:=.one ⟨dB,lW,2,fun x=>nQ F0 x.1⟩
theorem GK:a6 171 sA:=aq Xj ⟨my,trivial⟩ func171 ad (by kernel_rfl)
def AJ:=[(170,ie)]
def AK:Nat->Option Hint:=look [(3,{live:=[3,6,7,8],mat:=[(3,5,.int .u8)],xl:=[3],rl:=[2]})]
def sB (a:List Int)(b c:Int)(d:List Int):= cQ 18 [(3,.v (.c (.own 1000000 none))),(6,hD 3 (.int .i64) a),(7,a8 b),(8,a8 c)] [] [ay 1000000 5 (.int .u8) d]
def NM (a:List Int):= cQ 18 [(3,.v (.c (.own 1000000 none)))] [] [ay 1000000 5 (.int .u8) a]
def AL (a:St):Option U:=e9 AJ F AK [.r,.r,.l,.r,.b,.i] f173 J n a
def CN:=hf AJ F AK [.r,.r,.l,.r,.b] f173 lW 2
theorem HA (b:List Int)(d a:Int)(c:List Int):AL F J (n+1) (sB b d a c)=br (decide (a<d)) (ck (bG a (b.length:Int)) ((e5 F0 (aK b a 0)).bind fun e=>ck (ei F c.length e.1.length 1) (AL F J n (sB b d (aj (a+1)) (c++e.1))))) (J (.exit 0) (NM c)):=by kernel_rfl
theorem acv (a:List Int):CN F (.exit 0) (NM a)=some (a,()):=by kernel_rfl
def k2 (a:List Int):=bj AJ F AK f173 kh lW 2 (a,())
theorem al5 (a:List Int):k2 F a=AL F (CN F) F.n (sB a (a.length:Int) 0 []):=by kernel_rfl
def sC:Any:=.one ⟨kh,lW,2,fun x=>k2 F0 x.1⟩
theorem GL:a6 173 sC:=aq AJ ⟨my,trivial⟩ func173 AK (by kernel_rfl)
def Xk:=[(107,ju),(170,ie),(171,sA),(173,sC)]
def sD (c:D1)(q:D9):=bj Xk F ad f172 GX lW 2 (c,q,())
theorem al6 (c:D1)(q:D9):sD F c q=(mu F0 c q).bind fun f=>br (!f.1) (some ([],())) ((e5 F0 q.1).bind fun a=>(nQ F0 q.2.1).bind fun b=>ck (ei F a.1.length b.1.length 1) ((e5 F0 (q.2.2.length:Int)).bind fun d=>ck (ei F (a.1++b.1).length d.1.length 1) ((k2 F0 q.2.2).bind fun e=>ck (ei F ((a.1++b.1)++d.1).length e.1.length 1) (some (((a.1++b.1)++d.1)++e.1,()))))):=by kernel_rfl
def CO:Any:=.one ⟨GX,lW,2,fun x=>sD F0 x.1 x.2.1⟩
theorem Ul:a6 172 CO:=aq Xk ⟨nB,my,GK,GL,trivial⟩ func172 ad (by kernel_rfl)
def Um:=[(119,mx),(170,ie),(171,sA),(172,CO),(173,sC)]
def tS (c:D1)(m:OW):=bj Um F ad f98 aju lW 2 (c,m,())
theorem ahO (c:D1)(m:OW):tS F c m=(gb F0 c m).bind fun l=>br (!l.1) (some ([],())) ((e5 F0 m.1).bind fun a=>br (m.1==1) ((nQ F0 m.2.2.1.1).bind fun e=>ck (ei F a.1.length e.1.length 1) ((sD F0 c m.2.2.1.2).bind fun h=>ck (ei F (a.1++e.1).length h.1.length 1) (some ((a.1++e.1)++h.1,())))) (br (m.1==2) ((e5 F0 m.2.2.2.1.1).bind fun b=>ck (ei F a.1.length b.1.length 1) ((nQ F0 m.2.2.2.1.2.1).bind fun d=>ck (ei F (a.1++b.1).length d.1.length 1) ((e5 F0 (m.2.2.2.1.2.2.length:Int)).bind fun f=>ck (ei F ((a.1++b.1)++d.1).length f.1.length 1) ((k2 F0 m.2.2.2.1.2.2).bind fun i=>ck (ei F (((a.1++b.1)++d.1)++f.1).length i.1.length 1) (some ((((a.1++b.1)++d.1)++f.1)++i.1,())))))) (br (m.1==3) ((k2 F0 [m.2.1,m.2.2.2.2.2.1]).bind fun g=>ck (ei F a.1.length g.1.length 1) ((sD F0 c m.2.2.2.2.1).bind fun j=>ck (ei F (a.1++g.1).length j.1.length 1) (some ((a.1++g.1)++j.1,())))) ((k2 F0 [m.2.2.2.2.2.2.1,m.2.2.2.2.2.2.2.1,m.2.2.2.2.2.2.2.2.1,m.2.2.2.2.2.2.2.2.2]).bind fun k=>ck (ei F a.1.length k.1.length 1) (some (a.1++k.1,())))))):=by kernel_rfl
def AM:Any:=.one ⟨aju,lW,2,fun x=>tS F0 x.1 x.2.1⟩
theorem QN:a6 98 AM:=aq Um ⟨tM,my,GK,Ul,GL,trivial⟩ func98 ad (by kernel_rfl)
def NN:=[(20,cx),(35,gf),(41,bA),(98,AM)]
def NO:Nat->Option Hint:=look [(5,{live:=[2,4,5,15,16,17],x3:=[(4,2,3,.int .i64),(4,3,65,cd),(4,4,105,eh),(4,5,41,cz)],xl:=[4,5],rl:=[4]})]
def lA (o:List ll)(p q w a:Int)(b:List Int)(c:List a1)(d:List bS)(e:List bE)(r s t f:Int)(u:List Int)(g:List a1)(h:List bS)(i:List bE)(j:List Int)(k:List a1)(l:List bS)(m:List bE):= cQ 55 [b0 2,b0 4,b0 5,(15,hD 136 (pS) o),(16,a8 p),(17,a8 q)] [(2,[ao w,ao a,.ro false 3 (.int .i64) b,.ro false 65 (cd) c,.ro false 105 (eh) d,.ro false 41 (cz) e]),(4,[ao r,ao s,.own 1000000 none,.own 1000001 none,.own 1000002 none,.own 1000003 none]),(5,[ao t,ao f,.own 1000004 none,.own 1000005 none,.own 1000006 none,.own 1000007 none])] [ay 1000000 3 (.int .i64) u,ay 1000001 65 cd g,ay 1000002 105 eh h,ay 1000003 41 cz i,ay 1000004 3 (.int .i64) j,ay 1000005 65 cd k,ay 1000006 105 eh l,ay 1000007 41 cz m]
def Xl (i j k a:Int)(l:List Int)(b:List a1)(c:List bS)(d:List bE)(e:List Int)(f:List a1)(g:List bS)(h:List bE):= cQ 55 [b0 4,b0 5] [(4,[ao i,ao j,.own 1000000 none,.own 1000001 none,.own 1000002 none,.own 1000003 none]),(5,[ao k,ao a,.own 1000004 none,.own 1000005 none,.own 1000006 none,.own 1000007 none])] [ay 1000000 3 (.int .i64) l,ay 1000001 65 cd b,ay 1000002 105 eh c,ay 1000003 41 cz d,ay 1000004 3 (.int .i64) e,ay 1000005 65 cd f,ay 1000006 105 eh g,ay 1000007 41 cz h]
def ra (a:St):Option U:=e9 NN F NO [.r,.r,.r,.l,.r,.b,.i] f94 J n a
def O4:=hf NN F NO [.r,.r,.r,.l,.r,.b] f94 ix 2
theorem QO (b:List ll)(l a w d:Int)(r:List Int)(s:List a1)(t:List bS)(u:List bE)(m o p e:Int)(q:List Int)(f:List a1)(g:List bS)(h:List bE)(i:List Int)(j:List a1)(c:List bS)(k:List bE):ra F J (n+1) (lA b l a w d r s t u m o p e q f g h i j c k)=br (decide (a<l)) (ck (bG a (b.length:Int)) ((tS F0 (w,d) (aK b a pS.aD).2).bind fun v=>br (decide ((v.1.length:Int)>0)) ((aZ F0 (aK b a pS.aD).1 0 (aj (w-1))).bind fun x=>br x.1 (br (decide ((c.length:Int)<60)) (ck (ei F c.length [((aK b a pS.aD).1,v.1)].length 32) (ra F J n (lA b l (aj (a+1)) w d r s t u m o p e q f g h i j (c++[((aK b a pS.aD).1,v.1)]) k))) (ra F J n (lA b l (aj (a+1)) w d r s t u m o p e q f g h i j c k))) (ra F J n (lA b l (aj (a+1)) w d r s t u m o p e q f g h i j c k))) (ra F J n (lA b l (aj (a+1)) w d r s t u m o p e q f g h i j c k)))) (J (.exit 0) (Xl m o p e q f g h i j c k)):=by kernel_rfl
theorem al7 (j k f a:Int)(l:List Int)(g:List a1)(h:List bS)(i:List bE)(b:List Int)(c:List a1)(d:List bS)(e:List bE):O4 F (.exit 0) (Xl j k f a l g h i b c d e)=some (((f,a),b,c,d,e),()):=by kernel_rfl
def QP (w:ko)(a:D23):=bj NN F NO f94 aDH ix 2 (w,a,())
theorem awi (w:ko)(b:D23):QP F w b=(aS F0 w).bind fun a=>(bT F0 w).bind fun c=>br (!c.1) (some (a.1,())) (ra F (O4 F) F.n (lA b (b.length:Int) 0 w.1.1 w.1.2 w.2.1 w.2.2.1 w.2.2.2.1 w.2.2.2.2 0 0 a.1.1.1 a.1.1.2 [] [] [] [] a.1.2.1 a.1.2.2.1 a.1.2.2.2.1 a.1.2.2.2.2)):=by kernel_rfl
def aa4:Any:=.one ⟨aDH,ix,2,fun x=>QP F0 x.1 x.2.1⟩
theorem awj:a6 94 aa4:=aq NN ⟨dh,k0,bV,QN,trivial⟩ func94 NO (by kernel_rfl)
end
end Go.Am.Tryz
