/- No condition. -/
import Derived.Test.YtaheoongenkdbaaGreatDoorQeXJG4
set_option linter.all false
set_option maxRecDepth 100000
namespace Go.Am.Tryz
open Go.Am Go.Proofs Go.Proofs.Tryz
noncomputable section
variable {U:Type} (F:oH) (J:Ex->St->Option U) (n:Nat)
def S6:=[(222,kN)]
def DG (a b:D9):=bn S6 F ab f210 wz aT 1 (a,b,())
def afS (a b:D9):DG F a b=br (a.1==b.1) (br (a.2.1.toList==b.2.1.toList) ((gz F0 a.2.2 b.2.2).bind fun c=>some (c.1,())) (some (false,()))) (some (false,())):=by kernel_rfl
def My:Any:=.one ⟨wz,aT,1,fun x=>DG F0 x.1 x.2.1⟩
def afT:ba 210 My:=aw S6 ⟨wI,trivial⟩ func210 ab (by kernel_rfl)
def VC:=[(161,jU),(209,Ke),(210,My)]
def H7 (a b:NQ):=bn VC F ab f143 aBb aT 1 (a,b,())
def aj1 (a b:NQ):H7 F a b=br (a.1==b.1) (br (a.2.1==b.2.1) ((Aj F0 a.2.2.1 b.2.2.1).bind fun c=>br c.1 ((DG F0 a.2.2.2.1 b.2.2.2.1).bind fun d=>br d.1 ((iE F0 a.2.2.2.2.1 b.2.2.2.2.1).bind fun e=>br e.1 (br (a.2.2.2.2.2.1==b.2.2.2.2.2.1) (some ((a.2.2.2.2.2.2.1==b.2.2.2.2.2.2.1)&&((a.2.2.2.2.2.2.2.1==b.2.2.2.2.2.2.2.1)&&((a.2.2.2.2.2.2.2.2.1==b.2.2.2.2.2.2.2.2.1)&&((a.2.2.2.2.2.2.2.2.2==b.2.2.2.2.2.2.2.2.2)&&true))),())) (some (false,()))) (some (false,()))) (some (false,()))) (some (false,()))) (some (false,()))) (some (false,())):=by kernel_rfl
def Py:Any:=.one ⟨aBb,aT,1,fun x=>H7 F0 x.1 x.2.1⟩
def aj2:ba 143 Py:=aw VC ⟨pR,acZ,afT,trivial⟩ func143 ab (by kernel_rfl)
def ee:Nat->Option Hint:=look [(2,{live:=[0,1,5],rl:=[4]})]
def dy (s:ByteArray)(c i:Int):= b3 19 [(0,Yr s),(1,.v (.c (.int .u8 c))),(5,bq i)]
def kS (a:Int):= b3 19 [(4,bq a)]
def Ak   := b3 19 []
def ef (a:St):Option U:=fy aB F ee [.r,.l,.r,.b,.i] f299 J n a
def fw:=ig aB F ee [.r,.l,.r,.b] f299 c7 1
def jq (s:ByteArray)(c i:Int):ef F J (n+1) (dy s c i)=br (decide (i>=0)) (ck (bO i (s.size:Int)) (br ((gV s i)==c) (J .ret (kS i)) (ef F J n (dy s c (aj (i-1)))))) (J (.exit 0) (Ak)):=by kernel_rfl
def Al (a:Int):fw F .ret (kS a)=some (a,()):=by kernel_rfl
def iq (s:ByteArray)(c:Int):=bn aB F ee f299 Yu c7 1 (s,c,())
def Cg (s:ByteArray)(c:Int):iq F s c=ef F (fw F) F.n (dy s c (aj ((s.size:Int)-1))):=by kernel_rfl
def kT:Any:=.one ⟨Yu,c7,1,fun x=>iq F0 x.1 x.2.1⟩
def Ch:ba 299 kT:=aw aB trivial func299 ee (by kernel_rfl)
def wK:=[(299,kT)]
def oB (s:ByteArray)(c:Int):=bn wK F ab f256 Yu c7 1 (s,c,())
def NW (s:ByteArray)(c:Int):oB F s c=(iq F0 s c).bind fun a=>some (a.1,()):=by kernel_rfl
def sL:Any:=.one ⟨Yu,c7,1,fun x=>oB F0 x.1 x.2.1⟩
def NX:ba 256 sL:=aw wK ⟨Ch,trivial⟩ func256 ab (by kernel_rfl)
def ah3:=[(39,eC),(256,sL)]
def rU (s:ByteArray):=bn ah3 F ab f211 dw dw 1 (s,())
def auk (s:ByteArray):rU F s=(eK F0 s).bind fun b=>br (!b.1) (some (ak,())) (br (s.toList==ak.toList) (some (ak,())) ((oB F0 s 47).bind fun a=>ck (QW 0 a.1 (s.size:Int)) (some (s.extract (0:Int).toNat a.1.toNat,())))):=by kernel_rfl
def DH:Any:=.one ⟨dw,dw,1,fun x=>rU F0 x.1⟩
def Rb:ba 211 DH:=aw ah3 ⟨gA,NX,trivial⟩ func211 ab (by kernel_rfl)
def VD:=[(39,eC),(138,iG),(211,DH)]
def mP (c:D1)(b:D15):=bn VD F ab f145 aBc aT 1 (c,b,())
def aj3 (c:D1)(b:D15):mP F c b=(lR F0 c b.2).bind fun a=>br a.1 (br (!(b.1.toList==ak.toList)) ((eK F0 b.1).bind fun d=>br d.1 ((rU F0 b.1).bind fun e=>some (e.1.toList==b.2.2.1.toList,())) (some (false,()))) (some (false,()))) (some (false,())):=by kernel_rfl
def lT:Any:=.one ⟨aBc,aT,1,fun x=>mP F0 x.1 x.2.1⟩
def uZ:ba 145 lT:=aw VD ⟨gA,mN,Rb,trivial⟩ func145 ab (by kernel_rfl)
def ac0:=[(26,cM),(42,bA),(138,iG),(139,iF),(141,nN),(143,Py),(144,VB),(145,lT)]
def fM (c:D1)(m:NQ):=bn ac0 F ab f77 ahG aT 1 (c,m,())
def aqJ (c:D1)(m:NQ):fM F c m=(ec F0 c).bind fun a=>br (!a.1) (some (false,())) ((Ra F0 m).bind fun b=>(H7 F0 m b.1).bind fun d=>br (!d.1) (some (false,())) (br (m.1==1) ((mP F0 c m.2.2.1).bind fun e=>some (e.1,())) (br (m.1==2) ((pW F0 c m.2.2.2.1).bind fun f=>br f.1 (some (!(m.2.2.2.1.2.1.toList==ak.toList),())) (some (false,()))) (br (m.1==3) ((aY F0 m.2.1 1 60).bind fun g=>br g.1 ((lR F0 c m.2.2.2.2.1).bind fun h=>br h.1 ((aY F0 m.2.2.2.2.2.1 0 (aj (c.1-1))).bind fun i=>some (i.1,())) (some (false,()))) (some (false,()))) (br (m.1==4) ((oj F0 m.2.2.2.2.2.2).bind fun j=>some (j.1,())) (some (false,()))))))):=by kernel_rfl
def lU:Any:=.one ⟨ahG,aT,1,fun x=>fM F0 x.1 x.2.1⟩
def tl:ba 77 lU:=aw ac0 ⟨dI,bT,mN,mM,Ae,aj2,aqI,uZ,trivial⟩ func77 ab (by kernel_rfl)
def H8:=[(26,cM),(42,bA),(73,jV),(74,FZ),(75,Cf),(76,nO),(77,lU)]
def H9:Nat->Option Hint:=look [(4,{live:=[2,3,64,65,66],rl:=[4]})]
def An (q:List kI)(s t c a r b d e f g:Int)(h:ByteArray)(i:List Int)(j:ByteArray)(k:List D4)(l:List D9)(m:List Int)(o:Int)(p:List kI):= di 92 [b9 2,b9 3,(64,ih 119 (px) q),(65,bq s),(66,bq t)] [(2,[an c,an a]),(3,[an r,an b,an d,an e,an f,an g,.str h,.ro false 3 (.int .i64) i,.str j,.ro false 63 (K4) k,.ro false 61 (K9) l,.ro false 5 (.int .u8) m,an o,.ro false 119 (px) p])] []
def Ao (a:Bool):= b3 92 [(4,NR a)]
def S7   := b3 92 []
def Ia (a:St):Option U:=fy H8 F H9 [.r,.r,.l,.r,.b,.i] f34 J n a
def Ap:=ig H8 F H9 [.r,.r,.l,.r,.b] f34 aT 1
def Mz (b:List kI)(e a c d r f g h i j:Int)(k:ByteArray)(l:List Int)(m:ByteArray)(o:List D4)(p:List D9)(q:List Int)(s:Int)(t:List kI):Ia F J (n+1) (An b e a c d r f g h i j k l m o p q s t)=br (decide (a<e)) (ck (bO a (b.length:Int)) ((fM F0 (c,d) (aN b a px.aC).2).bind fun u=>br (!u.1) (J .ret (Ao false)) ((aY F0 (aN b a px.aC).1 0 (aj (c-1))).bind fun v=>br (!v.1) (J .ret (Ao false)) (br ((aN b a px.aC).1==r) (J .ret (Ao false)) (Ia F J n (An b e (aj (a+1)) c d r f g h i j k l m o p q s t)))))) (J (.exit 0) (S7)):=by kernel_rfl
def aj4 (a:Bool):Ap F .ret (Ao a)=some (a,()):=by kernel_rfl
def afU: Ap F (.exit 0) (S7)=some (true,()):=by kernel_rfl
def cq (c:D1)(r:bb):=bn H8 F H9 f34 wX aT 1 (c,r,())
def aqK (c:D1)(r:bb):cq F c r=(ec F0 c).bind fun a=>br (!a.1) (some (false,())) ((aY F0 r.1 0 (aj (c.1-1))).bind fun b=>br (!b.1) (some (false,())) ((aY F0 r.2.1 1 60).bind fun d=>br (!d.1) (some (false,())) ((aY F0 r.2.2.1 0 60).bind fun e=>br (!e.1) (some (false,())) ((km F0 c r.2.2.2.1).bind fun f=>br (!f.1) (some (false,())) ((wJ F0 r.2.2.2.2.1).bind fun g=>br (!g.1) (some (false,())) ((ko F0 c r.2.2.2.2.2.1).bind fun h=>br (!h.1) (some (false,())) ((pY F0 r.2.2.2.2.2.2.1).bind fun i=>br (!i.1) (some (false,())) (br (decide ((r.2.2.2.2.2.2.2.length:Int)>30)) (some (false,())) (Ia F (Ap F) F.n (An r.2.2.2.2.2.2.2 (r.2.2.2.2.2.2.2.length:Int) 0 c.1 c.2 r.1 r.2.1 r.2.2.1 r.2.2.2.1.1 r.2.2.2.1.2.1 r.2.2.2.1.2.2.1.1 r.2.2.2.1.2.2.1.2.1 r.2.2.2.1.2.2.1.2.2 r.2.2.2.1.2.2.2 r.2.2.2.2.1 r.2.2.2.2.2.1 r.2.2.2.2.2.2.1.1 r.2.2.2.2.2.2.1.2 r.2.2.2.2.2.2.2)))))))))):=by kernel_rfl
def bX:Any:=.one ⟨wX,aT,1,fun x=>cq F0 x.1 x.2.1⟩
def ct:ba 34 bX:=aw H8 ⟨dI,bT,pV,VA,S5,Ai,tl,trivial⟩ func34 H9 (by kernel_rfl)
def Zq:=[(34,bX)]
def MA (c:D1)(a:Int):=bn Zq F ab f27 ahH gd 2 (c,a,())
def anC (c:D1)(a:Int):MA F c a=(cq F0 c (a,1,0,(0,0,(0,ak,[]),ak),[],[],([],0),[])).bind fun b=>br (!b.1) (some ((0,0,0,(0,0,(0,ak,[]),ak),[],[],([],0),[]),false,())) (some ((a,1,0,(0,0,(0,ak,[]),ak),[],[],([],0),[]),true,())):=by kernel_rfl
def S8:Any:=.one ⟨ahH,gd,2,fun x=>MA F0 x.1 x.2.1⟩
def anD:ba 27 S8:=aw Zq ⟨ct,trivial⟩ func27 ab (by kernel_rfl)
def DI:=[(42,bA)]
def DJ:Nat->Option Hint:=look [(4,{live:=[0,3],mat:=[(3,5,.int .u8)],xl:=[0,3],rl:=[2]})]
def nP (a:Int)(b:List Int):= di 23 [(0,bq a),(3,.v (.c (.own 1000000 none)))] [] [ay 1000000 5 (.int .u8) b]
def Pz (a:Int)(b:List Int):= di 23 [(0,bq a),(3,.v (.c (.own 1000000 none)))] [] [ay 1000000 5 (.int .u8) b]
def tn (a:St):Option U:=fy DI F DJ [.r,.r,.r,.l,.b,.i] f163 J n a
def u0:=ig DI F DJ [.r,.r,.r,.l,.b] f163 ld 2
def mQ (a:Int)(b:List Int):tn F J (n+1) (nP a b)=br (decide (a>=128)) (ck (eA F b.length [IntKind.wrap .u8 (aj ((Int.tmod a 128)+128))].length 1) (tn F J n (nP (aj (Int.tdiv a 128)) (b++[IntKind.wrap .u8 (aj ((Int.tmod a 128)+128))])))) (J (.exit 0) (Pz a b)):=by kernel_rfl
def o6 (a:Int)(b:List Int):u0 F (.exit 0) (Pz a b)=ck (eA F b.length [IntKind.wrap .u8 (a)].length 1) (some (b++[IntKind.wrap .u8 (a)],())):=by kernel_rfl
def eL (a:Int):=bn DI F DJ f163 c7 ld 2 (a,())
def VE (a:Int):eL F a=(aY F0 a 0 2147483647).bind fun b=>br (!b.1) (some ([],())) (tn F (u0 F) F.n (nP a [])):=by kernel_rfl
def hI:Any:=.one ⟨c7,ld,2,fun x=>eL F0 x.1⟩
def lV:ba 163 hI:=aw DI ⟨bT,trivial⟩ func163 DJ (by kernel_rfl)
def DK:=[(42,bA),(163,hI)]
def DL:Nat->Option Hint:=look [(5,{live:=[0,1,7,8],rl:=[4,5,6]})]
def u1 (b:List Int)(a c i:Int):= b3 55 [(0,ih 5 (.int .u8) b),(1,bq a),(7,bq c),(8,bq i)]
def F1 (a b:Int)(c:Bool):= b3 55 [(4,bq a),(5,bq b),(6,NR c)]
def Ci   := b3 55 []
def DM (a:St):Option U:=fy DK F DL [.r,.r,.r,.l,.r,.b,.i] f192 J n a
def u2:=ig DK F DL [.r,.r,.r,.l,.r,.b] f192 arT 1
def Kf (b:List Int)(a c i:Int):DM F J (n+1) (u1 b a c i)=br (decide (i<5)) (br (decide ((aj (a+i))<(b.length:Int))) (ck (bO (aj (a+i)) (b.length:Int)) (ck (decide (0<=(aj (7*i)))) (br (decide ((aj (aN b (aj (a+i)) 0))<128)) ((eL F0 (aj (c+(aj ((Int.tmod (aj (aN b (aj (a+i)) 0)) 128)*2 ^ (min (aj (7*i)).toNat 64)))))).bind fun d=>br ((d.1.length:Int) != (aj (i+1))) (J .ret (F1 0 0 false)) (J .ret (F1 (aj (c+(aj ((Int.tmod (aj (aN b (aj (a+i)) 0)) 128)*2 ^ (min (aj (7*i)).toNat 64))))) (aj ((aj (a+i))+1)) true))) (DM F J n (u1 b a (aj (c+(aj ((Int.tmod (aj (aN b (aj (a+i)) 0)) 128)*2 ^ (min (aj (7*i)).toNat 64))))) (aj (i+1))))))) (J (.exit 0) (Ci))) (J (.exit 0) (Ci)):=by kernel_rfl
def PA (a b:Int)(c:Bool):u2 F .ret (F1 a b c)=some (a,b,c,()):=by kernel_rfl
def MB: u2 F (.exit 0) (Ci)=some (0,0,false,()):=by kernel_rfl
def wL (b:List Int)(a:Int):=bn DK F DL f192 ahI arT 1 (b,a,())
def anE (b:List Int)(a:Int):wL F b a=(aY F0 a 0 (aj ((b.length:Int)-1))).bind fun c=>br (!c.1) (some (0,0,false,())) (DM F (u2 F) F.n (u1 b a 0 0)):=by kernel_rfl
def F2:Any:=.one ⟨ahI,arT,1,fun x=>wL F0 x.1 x.2.1⟩
def VF:ba 192 F2:=aw DK ⟨bT,lV,trivial⟩ func192 DL (by kernel_rfl)
def MC:=[(192,F2)]
def bF (r:D32):=Ev MC F ab f118 gL 0 .cur c7 gL 1 (r,())
def aaM (r:D32):bF F r=(wL F0 r.1 r.2.1).bind fun a=>br r.2.2 (some ((0,()),(r.1,r.2.1,true),())) (br (!a.2.2.1) (some ((0,()),(r.1,r.2.1,true),())) (some ((a.1,()),(r.1,a.2.1,r.2.2),()))):=by kernel_rfl
def h7:Any:=.two ⟨gL,0,.cur,c7,1,gL,fun x=>bF F0 x.1⟩
def mR:ba 118 h7:=UC MC ⟨VF,trivial⟩ func118 ab (by kernel_rfl)
def VG:=[(192,F2)]
def mS (b:List Int)(a:Int):=bn VG F ab f173 ahI aBd 1 (b,a,())
def aj5 (b:List Int)(c:Int):mS F b c=(wL F0 b c).bind fun a=>br (!a.2.2.1) (some (ak,0,false,())) (br (decide (a.1>(aj ((b.length:Int)-a.2.1)))) (some (ak,0,false,())) (ck (QW a.2.1 (aj (a.2.1+a.1)) (b.length:Int)) (some (strOf ((b.take (aj (a.2.1+a.1)).toNat).drop a.2.1.toNat),aj (a.2.1+a.1),true,())))):=by kernel_rfl
def Cj:Any:=.one ⟨ahI,aBd,1,fun x=>mS F0 x.1 x.2.1⟩
def S9:ba 173 Cj:=aw VG ⟨VF,trivial⟩ func173 ab (by kernel_rfl)
def Kg:=[(173,Cj)]
def fN (r:D32):=Ev Kg F ab f119 gL 0 .cur dw gL 1 (r,())
def XU (r:D32):fN F r=(mS F0 r.1 r.2.1).bind fun a=>br r.2.2 (some ((ak,()),(r.1,r.2.1,true),())) (br (!a.2.2.1) (some ((ak,()),(r.1,r.2.1,true),())) (some ((a.1,()),(r.1,a.2.1,r.2.2),()))):=by kernel_rfl
def kp:Any:=.two ⟨gL,0,.cur,dw,1,gL,fun x=>fN F0 x.1⟩
def sW:ba 119 kp:=UC Kg ⟨S9,trivial⟩ func119 ab (by kernel_rfl)
def mT:=[(118,h7)]
def mU:Nat->Option Hint:=look [(4,{live:=[0,3,4,5],mat:=[(3,3,.int .i64)],xl:=[3],rl:=[2]})]
def kq (d i:Int)(a:List Int)(b:Int)(c:Bool)(e:List Int):St:={nt:=26,tm:=[(0,.v (.c (.ptr 4000000 0))),(3,.v (.c (.own 1000000 none))),(4,bq d),(5,bq i)],bx:=[(4000000,[.ro true 5 (.int .u8) a,an b,.bool c])],bl:=[ay 1000000 3 (.int .i64) e],sp:=.v (.c (.ptr 4000000 0))}
def jz (a:List Int)(b:Int)(c:Bool)(d:List Int):St:={nt:=26,tm:=[(3,.v (.c (.own 1000000 none)))],bx:=[(4000000,[.ro true 5 (.int .u8) a,an b,.bool c])],bl:=[ay 1000000 3 (.int .i64) d],sp:=.v (.c (.ptr 4000000 0))}
def mV (a:St):Option U:=fy mT F mU [.r,.r,.r,.l,.r,.b,.i] f121 J n a
def pZ:=aww mT F mU [.r,.r,.r,.l,.r,.b] f121 .cur jK gL 2
def wM (f i:Int)(d:List Int)(e:Int)(a:Bool)(c:List Int):mV F J (n+1) (kq f i d e a c)=br (decide (i<f)) (br (!a) ((bF F0 (d,e,a)).bind fun b=>ck (eA F c.length [b.1.1].length 8) (mV F J n (kq f (aj (i+1)) b.2.1.1 b.2.1.2.1 b.2.1.2.2 (c++[b.1.1])))) (J (.exit 0) (jz d e a c))) (J (.exit 0) (jz d e a c)):=by kernel_rfl
def Rc (a:List Int)(b:Int)(c:Bool)(d:List Int):pZ F (.exit 0) (jz a b c d)=some ((d,()),(a,b,c),()):=by kernel_rfl
def lW (r:D32):=Ev mT F mU f121 gL 0 .cur jK gL 2 (r,())
def XV (r:D32):lW F r=(bF F0 r).bind fun a=>mV F (pZ F) F.n (kq a.1.1 0 a.2.1.1 a.2.1.2.1 a.2.1.2.2 []):=by kernel_rfl
def p0:Any:=.two ⟨gL,0,.cur,jK,2,gL,fun x=>lW F0 x.1⟩
def GP:ba 121 p0:=UC mT ⟨mR,trivial⟩ func121 mU (by kernel_rfl)
def PB:=[(118,h7),(119,kp),(121,p0)]
def lX (r:D32):=Ev PB F ab f120 gL 0 .cur fY gL 2 (r,())
def ac1 (r:D32):lX F r=(bF F0 r).bind fun a=>(fN F0 a.2.1).bind fun b=>(lW F0 b.2.1).bind fun c=>some (((a.1.1,b.1.1,c.1.1),()),c.2.1,()):=by kernel_rfl
def vK:Any:=.two ⟨gL,0,.cur,fY,2,gL,fun x=>lX F0 x.1⟩
def MD:ba 120 vK:=UC PB ⟨mR,sW,GP,trivial⟩ func120 ab (by kernel_rfl)
def ac2:=[(77,lU),(118,h7),(119,kp),(120,vK),(121,p0)]
def Kh (c:D1)(b:List Int):=bn ac2 F ab f61 Sf aBe 2 (c,b,())
def aqL (c:D1)(b:List Int):Kh F c b=(bF F0 (b,0,false)).bind fun a=>br (a.1.1==1) ((fN F0 a.2.1).bind fun i=>(lX F0 i.2.1).bind fun e=>br e.2.1.2.2 (some ((0,0,(ak,0,ak,[]),(0,ak,[]),(0,ak,[]),0,0,0,0,0),false,())) (br (e.2.1.2.1 != (b.length:Int)) (some ((0,0,(ak,0,ak,[]),(0,ak,[]),(0,ak,[]),0,0,0,0,0),false,())) ((fM F0 c (a.1.1,0,(i.1.1,e.1.1),(0,ak,[]),(0,ak,[]),0,0,0,0,0)).bind fun d=>br (!d.1) (some ((0,0,(ak,0,ak,[]),(0,ak,[]),(0,ak,[]),0,0,0,0,0),false,())) (some ((a.1.1,0,(i.1.1,e.1.1),(0,ak,[]),(0,ak,[]),0,0,0,0,0),true,()))))) (br (a.1.1==2) ((bF F0 a.2.1).bind fun j=>(fN F0 j.2.1).bind fun k=>(lW F0 k.2.1).bind fun f=>br f.2.1.2.2 (some ((0,0,(ak,0,ak,[]),(0,ak,[]),(0,ak,[]),0,0,0,0,0),false,())) (br (f.2.1.2.1 != (b.length:Int)) (some ((0,0,(ak,0,ak,[]),(0,ak,[]),(0,ak,[]),0,0,0,0,0),false,())) ((fM F0 c (a.1.1,0,(ak,0,ak,[]),(j.1.1,k.1.1,f.1.1),(0,ak,[]),0,0,0,0,0)).bind fun d=>br (!d.1) (some ((0,0,(ak,0,ak,[]),(0,ak,[]),(0,ak,[]),0,0,0,0,0),false,())) (some ((a.1.1,0,(ak,0,ak,[]),(j.1.1,k.1.1,f.1.1),(0,ak,[]),0,0,0,0,0),true,()))))) (br (a.1.1==3) ((bF F0 a.2.1).bind fun l=>(bF F0 l.2.1).bind fun m=>(lX F0 m.2.1).bind fun g=>br g.2.1.2.2 (some ((0,0,(ak,0,ak,[]),(0,ak,[]),(0,ak,[]),0,0,0,0,0),false,())) (br (g.2.1.2.1 != (b.length:Int)) (some ((0,0,(ak,0,ak,[]),(0,ak,[]),(0,ak,[]),0,0,0,0,0),false,())) ((fM F0 c (a.1.1,l.1.1,(ak,0,ak,[]),(0,ak,[]),g.1.1,m.1.1,0,0,0,0)).bind fun d=>br (!d.1) (some ((0,0,(ak,0,ak,[]),(0,ak,[]),(0,ak,[]),0,0,0,0,0),false,())) (some ((a.1.1,l.1.1,(ak,0,ak,[]),(0,ak,[]),g.1.1,m.1.1,0,0,0,0),true,()))))) (br (a.1.1==4) ((bF F0 a.2.1).bind fun o=>(bF F0 o.2.1).bind fun p=>(bF F0 p.2.1).bind fun q=>(bF F0 q.2.1).bind fun h=>br h.2.1.2.2 (some ((0,0,(ak,0,ak,[]),(0,ak,[]),(0,ak,[]),0,0,0,0,0),false,())) (br (h.2.1.2.1 != (b.length:Int)) (some ((0,0,(ak,0,ak,[]),(0,ak,[]),(0,ak,[]),0,0,0,0,0),false,())) ((fM F0 c (a.1.1,0,(ak,0,ak,[]),(0,ak,[]),(0,ak,[]),0,o.1.1,p.1.1,q.1.1,h.1.1)).bind fun d=>br (!d.1) (some ((0,0,(ak,0,ak,[]),(0,ak,[]),(0,ak,[]),0,0,0,0,0),false,())) (some ((a.1.1,0,(ak,0,ak,[]),(0,ak,[]),(0,ak,[]),0,o.1.1,p.1.1,q.1.1,h.1.1),true,()))))) (br a.2.1.2.2 (some ((0,0,(ak,0,ak,[]),(0,ak,[]),(0,ak,[]),0,0,0,0,0),false,())) (br (a.2.1.2.1 != (b.length:Int)) (some ((0,0,(ak,0,ak,[]),(0,ak,[]),(0,ak,[]),0,0,0,0,0),false,())) ((fM F0 c (a.1.1,0,(ak,0,ak,[]),(0,ak,[]),(0,ak,[]),0,0,0,0,0)).bind fun d=>br (!d.1) (some ((0,0,(ak,0,ak,[]),(0,ak,[]),(0,ak,[]),0,0,0,0,0),false,())) (some ((a.1.1,0,(ak,0,ak,[]),(0,ak,[]),(0,ak,[]),0,0,0,0,0),true,())))))))):=by kernel_rfl
def Ki:Any:=.one ⟨Sf,aBe,2,fun x=>Kh F0 x.1 x.2.1⟩
def Zr:ba 61 Ki:=aw ac2 ⟨tl,mR,sW,MD,GP,trivial⟩ func61 ab (by kernel_rfl)
def gB:=[(26,cM),(34,bX),(39,eC),(41,FW),(42,bA),(60,Ad),(61,Ki),(62,dQ)]
def gC:Nat->Option Hint:=look [(5,{live:=[1,3,54,55,56],xl:=[1,3],rl:=[2]}),(11,{live:=[1,3,73,74,75],xl:=[1,3],rl:=[2]}),(18,{live:=[3,99,100,101],rl:=[2]})]
def lY (b:List bS)(d e c a:Int):= di 127 [b9 3,(99,ih 95 (cZ) b),(100,bq d),(101,bq e)] [(3,[an c,an a])] []
def rV (a:Bool):= b3 127 [(2,NR a)]
def ME   := b3 127 []
def p1 (a:St):Option U:=fy gB F gC [.r,.r,.r,.r,.r,.l,.r,.b,.i] f28 J n a
def lZ:=ig gB F gC [.r,.r,.r,.r,.r,.l,.r,.b] f28 aT 1
def l0 (h:List b0)(i j w a:Int)(b:List Int)(d:List bb)(e:List b0)(f:List bS)(c g:Int):= di 127 [b9 1,b9 3,(73,ih 102 (eI) h),(74,bq i),(75,bq j)] [(1,[an w,an a,.ro false 3 (.int .i64) b,.ro false 50 (cl) d,.ro false 102 (eI) e,.ro false 95 (cZ) f]),(3,[an c,an g])] []
def Ck (a:Bool):= b3 127 [(2,NR a)]
def MF (w a:Int)(b:List Int)(d:List bb)(e:List b0)(f:List bS)(c g:Int):= di 127 [b9 1,b9 3] [(1,[an w,an a,.ro false 3 (.int .i64) b,.ro false 50 (cl) d,.ro false 102 (eI) e,.ro false 95 (cZ) f]),(3,[an c,an g])] []
def p2 (a:St):Option U:=fy gB F gC [.r,.r,.r,.r,.l,.r,.b,.i] f28 J n a
def l1:=ig gB F gC [.r,.r,.r,.r,.l,.r,.b] f28 aT 1
def l2 (h:List bb)(i j w a:Int)(b:List Int)(d:List bb)(e:List b0)(f:List bS)(c g:Int):= di 127 [b9 1,b9 3,(54,ih 50 (cl) h),(55,bq i),(56,bq j)] [(1,[an w,an a,.ro false 3 (.int .i64) b,.ro false 50 (cl) d,.ro false 102 (eI) e,.ro false 95 (cZ) f]),(3,[an c,an g])] []
def Cl (a:Bool):= b3 127 [(2,NR a)]
def MG (w a:Int)(b:List Int)(d:List bb)(e:List b0)(f:List bS)(c g:Int):= di 127 [b9 1,b9 3] [(1,[an w,an a,.ro false 3 (.int .i64) b,.ro false 50 (cl) d,.ro false 102 (eI) e,.ro false 95 (cZ) f]),(3,[an c,an g])] []
def p3 (a:St):Option U:=fy gB F gC [.r,.r,.r,.l,.r,.b,.i] f28 J n a
def l3:=ig gB F gC [.r,.r,.r,.l,.r,.b] f28 aT 1
def GQ (b:List bS)(d a c e:Int):p1 F J (n+1) (lY b d a c e)=br (decide (a<d)) (ck (bO a (b.length:Int)) ((aY F0 (aN b a cZ.aC).2.2 0 (aj (c-1))).bind fun f=>br (!f.1) (J .ret (rV false)) ((eK F0 (aN b a cZ.aC).2.1).bind fun g=>br (!g.1) (J .ret (rV false)) ((ed F0 (aN b a cZ.aC).2.1).bind fun h=>br (h.1 != (aN b a cZ.aC).1) (J .ret (rV false)) (p1 F J n (lY b d (aj (a+1)) c e)))))) (J (.exit 4) (ME)):=by kernel_rfl
def GR (b:List b0)(j a w e:Int)(f:List Int)(g:List bb)(h:List b0)(i:List bS)(c d:Int):p2 F J (n+1) (l0 b j a w e f g h i c d)=br (decide (a<j)) (ck (bO a (b.length:Int)) ((Kh F0 (c,d) (aN b a (0,[])).2).bind fun k=>br (!k.2.1) (J .ret (Ck false)) ((aY F0 (aN b a (0,[])).1 0 (aj (c-1))).bind fun l=>br (!l.1) (J .ret (Ck false)) (p2 F J n (l0 b j (aj (a+1)) w e f g h i c d))))) (J (.exit 2) (MF w e f g h i c d)):=by kernel_rfl
def GS (b:List bb)(j a w e:Int)(f:List Int)(g:List bb)(h:List b0)(i:List bS)(c d:Int):p3 F J (n+1) (l2 b j a w e f g h i c d)=br (decide (a<j)) (ck (bO a (b.length:Int)) ((cq F0 (c,d) (aN b a cl.aC)).bind fun k=>br (!k.1) (J .ret (Cl false)) (br ((aN b a cl.aC).1 != a) (J .ret (Cl false)) (p3 F J n (l2 b j (aj (a+1)) w e f g h i c d))))) (J (.exit 0) (MG w e f g h i c d)):=by kernel_rfl
def ac3 (a:Bool):lZ F .ret (rV a)=some (a,()):=by kernel_rfl
def aaN: lZ F (.exit 4) (ME)=some (true,()):=by kernel_rfl
def ac4 (a:Bool):l1 F .ret (Ck a)=some (a,()):=by kernel_rfl
def aaO (w d:Int)(e:List Int)(f:List bb)(g:List b0)(a:List bS)(c b:Int):l1 F (.exit 2) (MF w d e f g a c b)=p1 F (lZ F) F.n (lY a (a.length:Int) 0 c b):=by kernel_rfl
def ac5 (a:Bool):l3 F .ret (Cl a)=some (a,()):=by kernel_rfl
def aaP (w b:Int)(d:List Int)(e:List bb)(a:List b0)(f:List bS)(c g:Int):l3 F (.exit 0) (MG w b d e a f c g)=p2 F (l1 F) F.n (l0 a (a.length:Int) 0 w b d e a f c g):=by kernel_rfl
def cK (w:nz):=bn gB F gC f28 eU aT 1 (w,())
def aj6 (w:nz):cK F w=(ec F0 w.1).bind fun a=>br (!a.1) (some (false,())) ((vJ F0 w.1.1 w.2.1).bind fun b=>br (!b.1) (some (false,())) ((ER F0 w.1).bind fun c=>br (decide ((w.2.1.length:Int)>c.1)) (some (false,())) (br ((w.2.2.1.length:Int) != w.1.1) (some (false,())) (br (decide ((w.2.2.2.1.length:Int)>60)) (some (false,())) (br (decide ((w.2.2.2.2.length:Int)>300)) (some (false,())) (p3 F (l3 F) F.n (l2 w.2.2.1 (w.2.2.1.length:Int) 0 w.1.1 w.1.2 w.2.1 w.2.2.1 w.2.2.2.1 w.2.2.2.2 w.1.1 w.1.2))))))):=by kernel_rfl
def iM:Any:=.one ⟨eU,aT,1,fun x=>cK F0 x.1⟩
def nQ:ba 28 iM:=aw gB ⟨dI,ct,gA,Vy,bT,NV,Zr,fa,trivial⟩ func28 gC (by kernel_rfl)
def u3:=[(25,e9),(26,cM),(27,S8),(28,iM)]
def u4:Nat->Option Hint:=look [(3,{live:=[2,4,6,7],Bg:=[(4,2,3,.int .i64),(4,3,50,cl),(4,4,102,eI),(4,5,95,cZ),(6,3,50,cl),(6,4,102,eI),(6,5,95,cZ)],xl:=[4,6],rl:=[4,5]})]
def o7 (i c a l m w b:Int)(o:List Int)(d:List bb)(e:List b0)(f:List bS)(g:List Int)(h:List bb)(j:List b0)(k:List bS):= di 41 [b9 2,b9 4,b9 6,(7,bq i)] [(2,[an c,an a]),(4,[an l,an m,.own 1000000 none,.own 1000001 none,.own 1000002 none,.own 1000003 none]),(6,[an w,an b,.own 1000004 none,.own 1000005 none,.own 1000006 none,.own 1000007 none])] [ay 1000000 3 (.int .i64) o,ay 1000001 50 cl d,ay 1000002 102 eI e,ay 1000003 95 cZ f,ay 1000004 3 (.int .i64) g,ay 1000005 50 cl h,ay 1000006 102 eI j,ay 1000007 95 cZ k]
def vL (i j w a:Int)(k:List Int)(b:List bb)(c:List b0)(d:List bS)(e:List Int)(f:List bb)(g:List b0)(h:List bS):= di 41 [b9 4,b9 6] [(4,[an i,an j,.own 1000000 none,.own 1000001 none,.own 1000002 none,.own 1000003 none]),(6,[an w,an a,.own 1000004 none,.own 1000005 none,.own 1000006 none,.own 1000007 none])] [ay 1000000 3 (.int .i64) k,ay 1000001 50 cl b,ay 1000002 102 eI c,ay 1000003 95 cZ d,ay 1000004 3 (.int .i64) e,ay 1000005 50 cl f,ay 1000006 102 eI g,ay 1000007 95 cZ h]
def u5 (a:St):Option U:=fy u3 F u4 [.r,.r,.l,.r,.b,.i] f7 J n a
def Aq:=ig u3 F u4 [.r,.r,.l,.r,.b] f7 arU 2
def EX (i c b l m w d:Int)(o:List Int)(e:List bb)(f:List b0)(g:List bS)(h:List Int)(a:List bb)(j:List b0)(k:List bS):u5 F J (n+1) (o7 i c b l m w d o e f g h a j k)=(ec F0 (c,b)).bind fun q=>br q.1 (br (decide (i<c)) ((MA F0 (c,b) i).bind fun p=>ck (eA F a.length [p.1].length 208) (u5 F J n (o7 (aj (i+1)) c b l m w d o e f g h (a++[p.1]) j k))) (J (.exit 0) (vL l m w d o e f g h a j k))) (J (.exit 0) (vL l m w d o e f g h a j k)):=by kernel_rfl
def XW (j k w a:Int)(l:List Int)(f:List bb)(g:List b0)(h:List bS)(b:List Int)(c:List bb)(d:List b0)(e:List bS):Aq F (.exit 0) (vL j k w a l f g h b c d e)=(cK F0 ((w,a),b,c,d,e)).bind fun i=>br (!i.1) (some (((0,0),[],[],[],[]),false,())) (some (((w,a),b,c,d,e),true,())):=by kernel_rfl
def tp (c:D1)(liars:List Int):=bn u3 F u4 f7 aBf arU 2 (c,liars,())
def afV (c:D1)(liars:List Int):tp F c liars=(dP F0 liars).bind fun a=>u5 F (Aq F) F.n (o7 0 c.1 c.2 0 0 c.1 c.2 [] [] [] [] a.1 [] [] []):=by kernel_rfl
def MH:Any:=.one ⟨aBf,arU,2,fun x=>tp F0 x.1 x.2.1⟩
def afW:ba 7 MH:=aw u3 ⟨iL,dI,anD,nQ,trivial⟩ func7 u4 (by kernel_rfl)
def Zs:=[(25,e9)]
def gD (q:D9):=bn Zs F ab f204 fY fY 2 (q,())
def anF (q:D9):gD F q=(dP F0 q.2.2).bind fun a=>some ((q.1,q.2.1,a.1),()):=by kernel_rfl
def hJ:Any:=.one ⟨fY,fY,2,fun x=>gD F0 x.1⟩
def l4:ba 204 hJ:=aw Zs ⟨iL,trivial⟩ func204 ab (by kernel_rfl)
def Ta:=[(204,hJ)]
def kO (s:TN):=bn Ta F ab f132 Bl Bl 2 (s,())
def afX (s:TN):kO F s=(gD F0 s.2.2.1).bind fun a=>some ((s.1,s.2.1,a.1,s.2.2.2),()):=by kernel_rfl
def kr:Any:=.one ⟨Bl,Bl,2,fun x=>kO F0 x.1⟩
def rW:ba 132 kr:=aw Ta ⟨l4,trivial⟩ func132 ab (by kernel_rfl)
def ir (p:D5):=bn aB F ab f133 jH jH 2 (p,())
def aj7 (p:D5):ir F p=ck (eA F 0 p.length 32) (some ([]++p,())):=by kernel_rfl
def Cm:Any:=.one ⟨jH,jH,2,fun x=>ir F0 x.1⟩
def Tb:ba 133 Cm:=aw aB trivial func133 ab (by kernel_rfl)
def Tc:=[(25,e9)]
def eX (p:D9):=bn Tc F ab f205 fY fY 2 (p,())
def afY (p:D9):eX F p=(dP F0 p.2.2).bind fun a=>some ((p.1,p.2.1,a.1),()):=by kernel_rfl
def gN:Any:=.one ⟨fY,fY,2,fun x=>eX F0 x.1⟩
def l5:ba 205 gN:=aw Tc ⟨iL,trivial⟩ func205 ab (by kernel_rfl)
def rX:=[(205,gN)]
def rY:Nat->Option Hint:=look [(3,{live:=[3,6,7,8],mat:=[(3,61,K9)],xl:=[3],rl:=[2]})]
def mW (a:List D9)(b c:Int)(d:List D9):= di 19 [(3,.v (.c (.own 1000000 none))),(6,ih 61 (K9) a),(7,bq b),(8,bq c)] [] [ay 1000000 61 K9 d]
def GU (a:List D9):= di 19 [(3,.v (.c (.own 1000000 none)))] [] [ay 1000000 61 K9 a]
def rZ (a:St):Option U:=fy rX F rY [.r,.r,.l,.r,.b,.i] f134 J n a
def vM:=ig rX F rY [.r,.r,.l,.r,.b] f134 Gr 2
def Br (b:List D9)(d a:Int)(c:List D9):rZ F J (n+1) (mW b d a c)=br (decide (a<d)) (ck (bO a (b.length:Int)) ((eX F0 (aN b a K9.aC)).bind fun e=>ck (eA F c.length [e.1].length 48) (rZ F J n (mW b d (aj (a+1)) (c++[e.1]))))) (J (.exit 0) (GU c)):=by kernel_rfl
def VH (a:List D9):vM F (.exit 0) (GU a)=some (a,()):=by kernel_rfl
def er (a:D13):=bn rX F rY f134 Gr Gr 2 (a,())
def ac6 (a:D13):er F a=rZ F (vM F) F.n (mW a (a.length:Int) 0 []):=by kernel_rfl
def vN:Any:=.one ⟨Gr,Gr,2,fun x=>er F0 x.1⟩
def MI:ba 134 vN:=aw rX ⟨l5,trivial⟩ func134 rY (by kernel_rfl)
def kP (d:D14):=bn aB F ab f135 oJ oJ 2 (d,())
def afZ (d:D14):kP F d=ck (eA F 0 d.1.length 1) (some (([]++d.1,d.2),())):=by kernel_rfl
def ks:Any:=.one ⟨oJ,oJ,2,fun x=>kP F0 x.1⟩
def r0:ba 135 ks:=aw aB trivial func135 ab (by kernel_rfl)
def PC:=[(204,hJ)]
def Ar (b:D15):=bn PC F ab f253 ahJ ahJ 2 (b,())
def ac7 (b:D15):Ar F b=(gD F0 b.2).bind fun a=>some ((b.1,a.1),()):=by kernel_rfl
def Kj:Any:=.one ⟨ahJ,ahJ,2,fun x=>Ar F0 x.1⟩
def ac8:ba 253 Kj:=aw PC ⟨l4,trivial⟩ func253 ab (by kernel_rfl)
end
end Go.Am.Tryz
namespace Go.Am.Tryz
open Go.Am Go.Proofs Go.Proofs.Tryz
noncomputable section
variable {U:Type} (F:oH) (J:Ex->St->Option U) (n:Nat)
def VI:=[(204,hJ),(205,gN),(253,Kj)]
def As (m:NQ):=bn VI F ab f206 wB wB 2 (m,())
def aj8 (m:NQ):As F m=(Ar F0 m.2.2.1).bind fun a=>(eX F0 m.2.2.2.1).bind fun b=>(gD F0 m.2.2.2.2.1).bind fun c=>some ((m.1,m.2.1,a.1,b.1,c.1,m.2.2.2.2.2),()):=by kernel_rfl
def Cn:Any:=.one ⟨wB,wB,2,fun x=>As F0 x.1⟩
def Td:ba 206 Cn:=aw VI ⟨l4,l5,ac8,trivial⟩ func206 ab (by kernel_rfl)
def r3:=[(206,Cn)]
def r4:Nat->Option Hint:=look [(3,{live:=[3,6,7,8],mat:=[(3,119,px)],xl:=[3],rl:=[2]})]
def mX (a:List kI)(b c:Int)(d:List kI):= di 23 [(3,.v (.c (.own 1000000 none))),(6,ih 119 (px) a),(7,bq b),(8,bq c)] [] [ay 1000000 119 px d]
def GV (a:List kI):= di 23 [(3,.v (.c (.own 1000000 none)))] [] [ay 1000000 119 px a]
def r5 (a:St):Option U:=fy r3 F r4 [.r,.r,.l,.r,.b,.i] f136 J n a
def vO:=ig r3 F r4 [.r,.r,.l,.r,.b] f136 YQ 2
def Bs (b:List kI)(d a:Int)(c:List kI):r5 F J (n+1) (mX b d a c)=br (decide (a<d)) (ck (bO a (b.length:Int)) ((As F0 (aN b a px.aC).2).bind fun e=>ck (eA F c.length [((aN b a px.aC).1,e.1)].length 224) (r5 F J n (mX b d (aj (a+1)) (c++[((aN b a px.aC).1,e.1)]))))) (J (.exit 0) (GV c)):=by kernel_rfl
def VJ (a:List kI):vO F (.exit 0) (GV a)=some (a,()):=by kernel_rfl
def Au (a:D23):=bn r3 F r4 f136 YQ YQ 2 (a,())
def ac9 (a:D23):Au F a=r5 F (vO F) F.n (mX a (a.length:Int) 0 []):=by kernel_rfl
def Kk:Any:=.one ⟨YQ,YQ,2,fun x=>Au F0 x.1⟩
def ada:ba 136 Kk:=aw r3 ⟨Td,trivial⟩ func136 r4 (by kernel_rfl)
def VK:=[(132,kr),(133,Cm),(134,vN),(135,ks),(136,Kk)]
def az (r:bb):=bn VK F ab f70 Si Si 2 (r,())
def aj9 (r:bb):az F r=(kO F0 r.2.2.2.1).bind fun a=>(ir F0 r.2.2.2.2.1).bind fun b=>(er F0 r.2.2.2.2.2.1).bind fun c=>(kP F0 r.2.2.2.2.2.2.1).bind fun d=>(Au F0 r.2.2.2.2.2.2.2).bind fun e=>some ((r.1,r.2.1,r.2.2.1,a.1,b.1,c.1,d.1,e.1),()):=by kernel_rfl
def bM:Any:=.one ⟨Si,Si,2,fun x=>az F0 x.1⟩
def b7:ba 70 bM:=aw VK ⟨rW,Tb,MI,r0,ada,trivial⟩ func70 ab (by kernel_rfl)
def Te:Nat->Option Hint:=look [(900001,{live:=[],mat:=[(1,0,eI)]})]
def tr (x:b0):=bn aB F Te f71 [(eI,true)] [(eI,true)] 2 (x,())
def af0 (x:b0):tr F x=ck (eA F 0 x.2.length 1) (some ((x.1,[]++x.2),())):=by kernel_rfl
def Av:Any:=.one ⟨[(eI,true)],[(eI,true)],2,fun x=>tr F0 x.1⟩
def PD:ba 71 Av:=aw aB trivial func71 Te (by kernel_rfl)
def iN:=[(25,e9),(70,bM),(71,Av)]
def iO:Nat->Option Hint:=look [(3,{live:=[1,2,3,18,19,20],Bg:=[(2,2,3,.int .i64),(2,3,50,cl),(2,4,102,eI),(2,5,95,cZ),(3,3,50,cl),(3,4,102,eI)],xl:=[1,2,3],rl:=[2]}),(8,{live:=[2,3,33,34,35],xl:=[2,3],rl:=[2]}),(900001,{live:=[],mat:=[(1,0,gZ)]})]
def mY (i:List b0)(j k l m o a:Int)(p:List Int)(b:List bb)(c:List b0)(d:List bS)(e:List Int)(f:List bb)(g:List b0)(h:List bS):= di 48 [b9 2,b9 3,(33,ih 102 (eI) i),(34,bq j),(35,bq k)] [(2,[an l,an m,.own 1000000 none,.own 1000001 none,.own 1000002 none,.own 1000003 none]),(3,[an o,an a,.own 1000004 none,.own 1000005 none,.own 1000006 none,.own 1000007 none])] [ay 1000000 3 (.int .i64) p,ay 1000001 50 cl b,ay 1000002 102 eI c,ay 1000003 95 cZ d,ay 1000004 3 (.int .i64) e,ay 1000005 50 cl f,ay 1000006 102 eI g,ay 1000007 95 cZ h]
def GW (i j k a:Int)(l:List Int)(b:List bb)(c:List b0)(d:List bS)(e:List Int)(f:List bb)(g:List b0)(h:List bS):= di 48 [b9 2,b9 3] [(2,[an i,an j,.own 1000000 none,.own 1000001 none,.own 1000002 none,.own 1000003 none]),(3,[an k,an a,.own 1000004 none,.own 1000005 none,.own 1000006 none,.own 1000007 none])] [ay 1000000 3 (.int .i64) l,ay 1000001 50 cl b,ay 1000002 102 eI c,ay 1000003 95 cZ d,ay 1000004 3 (.int .i64) e,ay 1000005 50 cl f,ay 1000006 102 eI g,ay 1000007 95 cZ h]
def r6 (a:St):Option U:=fy iN F iO [.r,.r,.r,.l,.r,.b,.i] f32 J n a
def vP:=ig iN F iO [.r,.r,.r,.l,.r,.b] f32 eU 2
def mZ (w:nz)(i:List bb)(j k l m o a:Int)(p:List Int)(b:List bb)(c:List b0)(d:List bS)(e:List Int)(f:List bb)(g:List b0)(h:List bS):= di 48 [(1,.v (.c (.TI false (gZ) w 0))),b9 2,b9 3,(18,ih 50 (cl) i),(19,bq j),(20,bq k)] [(2,[an l,an m,.own 1000000 none,.own 1000001 none,.own 1000002 none,.own 1000003 none]),(3,[an o,an a,.own 1000004 none,.own 1000005 none,.own 1000006 none,.own 1000007 none])] [ay 1000000 3 (.int .i64) p,ay 1000001 50 cl b,ay 1000002 102 eI c,ay 1000003 95 cZ d,ay 1000004 3 (.int .i64) e,ay 1000005 50 cl f,ay 1000006 102 eI g,ay 1000007 95 cZ h]
def GX (w:nz)(i j k a:Int)(l:List Int)(b:List bb)(c:List b0)(d:List bS)(e:List Int)(f:List bb)(g:List b0)(h:List bS):= di 48 [(1,.v (.c (.TI false (gZ) w 0))),b9 2,b9 3] [(2,[an i,an j,.own 1000000 none,.own 1000001 none,.own 1000002 none,.own 1000003 none]),(3,[an k,an a,.own 1000004 none,.own 1000005 none,.own 1000006 none,.own 1000007 none])] [ay 1000000 3 (.int .i64) l,ay 1000001 50 cl b,ay 1000002 102 eI c,ay 1000003 95 cZ d,ay 1000004 3 (.int .i64) e,ay 1000005 50 cl f,ay 1000006 102 eI g,ay 1000007 95 cZ h]
def r7 (a:St):Option U:=fy iN F iO [.r,.r,.l,.r,.b,.i] f32 J n a
def vQ:=ig iN F iO [.r,.r,.l,.r,.b] f32 eU 2
def Bt (c:List b0)(k a l m o d:Int)(p:List Int)(e:List bb)(f:List b0)(g:List bS)(h:List Int)(i:List bb)(b:List b0)(j:List bS):r6 F J (n+1) (mY c k a l m o d p e f g h i b j)=br (decide (a<k)) (ck (bO a (c.length:Int)) ((tr F0 (aN c a (0,[]))).bind fun q=>ck (eA F b.length [q.1].length 32) (r6 F J n (mY c k (aj (a+1)) l m o d p e f g h i (b++[q.1]) j)))) (J (.exit 2) (GW l m o d p e f g h i b j)):=by kernel_rfl
def Bu (w:nz)(c:List bb)(k a l m o d:Int)(p:List Int)(e:List bb)(f:List b0)(g:List bS)(h:List Int)(b:List bb)(i:List b0)(j:List bS):r7 F J (n+1) (mZ w c k a l m o d p e f g h b i j)=br (decide (a<k)) (ck (bO a (c.length:Int)) ((az F0 (aN c a cl.aC)).bind fun q=>ck (eA F b.length [q.1].length 208) (r7 F J n (mZ w c k (aj (a+1)) l m o d p e f g h (b++[q.1]) i j)))) (J (.exit 0) (GX w l m o d p e f g h b i j)):=by kernel_rfl
def VL (j k f a:Int)(l:List Int)(g:List bb)(h:List b0)(i:List bS)(b:List Int)(c:List bb)(d:List b0)(e:List bS):vP F (.exit 2) (GW j k f a l g h i b c d e)=some (((f,a),b,c,d,e),()):=by kernel_rfl
def VM (w:nz)(i j k a:Int)(l:List Int)(b:List bb)(c:List b0)(d:List bS)(e:List Int)(f:List bb)(g:List b0)(h:List bS):vQ F (.exit 0) (GX w i j k a l b c d e f g h)=r6 F (vP F) F.n (mY w.2.2.2.1 (w.2.2.2.1.length:Int) 0 i j k a l b c d e f g h):=by kernel_rfl
def aS (w:nz):=bn iN F iO f32 eU eU 2 (w,())
def adb (w:nz):aS F w=(dP F0 w.2.1).bind fun a=>ck (eA F 0 w.2.2.2.2.length 32) (r7 F (vQ F) F.n (mZ w w.2.2.1 (w.2.2.1.length:Int) 0 0 0 w.1.1 w.1.2 [] [] [] [] a.1 [] [] ([]++w.2.2.2.2))):=by kernel_rfl
def jr:Any:=.one ⟨eU,eU,2,fun x=>aS F0 x.1⟩
def o8:ba 32 jr:=aw iN ⟨iL,b7,PD,trivial⟩ func32 iO (by kernel_rfl)
def iu:Nat->Option Hint:=look [(2,{live:=[0,1,7,8],rl:=[4]})]
def gk (s:List Int)(v a b:Int):= b3 19 [(0,ih 3 (.int .i64) s),(1,bq v),(7,bq a),(8,bq b)]
def tt (a:Int):= b3 19 [(4,bq a)]
def sM   := b3 19 []
def iv (a:St):Option U:=fy aB F iu [.r,.l,.r,.b,.i] f137 J n a
def gl:=ig aB F iu [.r,.l,.r,.b] f137 c7 1
def o9 (s:List Int)(v b a:Int):iv F J (n+1) (gk s v b a)=br (decide (a<b)) (ck (bO a (s.length:Int)) (br (v==(aN s a 0)) (J .ret (tt a)) (iv F J n (gk s v b (aj (a+1)))))) (J (.exit 0) (sM)):=by kernel_rfl
def Lf (a:Int):gl F .ret (tt a)=some (a,()):=by kernel_rfl
def Kl: gl F (.exit 0) (sM)=some (-1,()):=by kernel_rfl
def kt (s:List Int)(v:Int):=bn aB F iu f137 ajp c7 1 (s,v,())
def PE (s:List Int)(v:Int):kt F s v=iv F (gl F) F.n (gk s v (s.length:Int) 0):=by kernel_rfl
def tu:Any:=.one ⟨ajp,c7,1,fun x=>kt F0 x.1 x.2.1⟩
def PF:ba 137 tu:=aw aB trivial func137 iu (by kernel_rfl)
def sN:=[(137,tu)]
def gO (s:List Int)(v:Int):=bn sN F ab f72 ajp aT 1 (s,v,())
def Km (s:List Int)(v:Int):gO F s v=(kt F0 s v).bind fun a=>some (decide (a.1>=0),()):=by kernel_rfl
def pa:Any:=.one ⟨ajp,aT,1,fun x=>gO F0 x.1 x.2.1⟩
def Kn:ba 72 pa:=aw sN ⟨PF,trivial⟩ func72 ab (by kernel_rfl)
def Zt:=[(72,pa)]
def dm (s:List Int)(i:Int):=bn Zt F ab f33 ajp aT 1 (s,i,())
def anG (s:List Int)(i:Int):dm F s i=(gO F0 s i).bind fun a=>some (a.1,()):=by kernel_rfl
def db:Any:=.one ⟨ajp,aT,1,fun x=>dm F0 x.1 x.2.1⟩
def et:ba 33 db:=aw Zt ⟨Kn,trivial⟩ func33 ab (by kernel_rfl)
def DN:=[(33,db)]
def DO:Nat->Option Hint:=look [(3,{live:=[1,3,7,8],mat:=[(3,3,.int .i64)],xl:=[3],rl:=[2]})]
def jW (f g w a:Int)(b:List Int)(c:List bb)(d:List b0)(e:List bS)(h:List Int):= di 22 [b9 1,(3,.v (.c (.own 1000000 none))),(7,bq f),(8,bq g)] [(1,[an w,an a,.ro false 3 (.int .i64) b,.ro false 50 (cl) c,.ro false 102 (eI) d,.ro false 95 (cZ) e])] [ay 1000000 3 (.int .i64) h]
def PG (a:List Int):= di 22 [(3,.v (.c (.own 1000000 none)))] [] [ay 1000000 3 (.int .i64) a]
def om (a:St):Option U:=fy DN F DO [.r,.r,.l,.r,.b,.i] f10 J n a
def u6:=ig DN F DO [.r,.r,.l,.r,.b] f10 jK 2
def Ko (d a w e:Int)(c:List Int)(f:List bb)(g:List b0)(h:List bS)(b:List Int):om F J (n+1) (jW d a w e c f g h b)=br (decide (a<d)) ((dm F0 c a).bind fun i=>br (!i.1) (ck (eA F b.length [a].length 8) (om F J n (jW d (aj (a+1)) w e c f g h (b++[a])))) (om F J n (jW d (aj (a+1)) w e c f g h b))) (J (.exit 0) (PG b)):=by kernel_rfl
def ade (a:List Int):u6 F (.exit 0) (PG a)=some (a,()):=by kernel_rfl
def ku (w:nz):=bn DN F DO f10 eU jK 2 (w,())
def anH (w:nz):ku F w=om F (u6 F) F.n (jW (w.2.2.1.length:Int) 0 w.1.1 w.1.2 w.2.1 w.2.2.1 w.2.2.2.1 w.2.2.2.2 []):=by kernel_rfl
def jX:Any:=.one ⟨eU,jK,2,fun x=>ku F0 x.1⟩
def p4:ba 10 jX:=aw DN ⟨et,trivial⟩ func10 DO (by kernel_rfl)
def VN:=[(10,jX),(33,db),(42,bA)]
def Ib (w:nz)(d:D45):=bn VN F ab f43 ahZ aT 1 (w,d,())
def aka (w:nz)(d:D45):Ib F w d=br (d.1==3) ((aY F0 d.2.1 0 (aj ((w.2.2.2.1.length:Int)-1))).bind fun a=>some (a.1,())) (br (d.1==4) ((aY F0 d.2.1 0 (aj ((w.2.2.2.1.length:Int)-1))).bind fun a=>some (a.1,())) (br (d.1==5) ((aY F0 d.2.1 0 (aj ((w.2.2.2.1.length:Int)-1))).bind fun a=>some (a.1,())) (br (d.1==10) ((aY F0 d.2.1 0 (aj (w.1.1-1))).bind fun b=>some (b.1,())) ((ku F0 w).bind fun c=>(dm F0 c.1 d.2.1).bind fun e=>some (e.1,()))))):=by kernel_rfl
def PH:Any:=.one ⟨ahZ,aT,1,fun x=>Ib F0 x.1 x.2.1⟩
def akb:ba 43 PH:=aw VN ⟨p4,et,bT,trivial⟩ func43 ab (by kernel_rfl)
def ah4:=[(76,nO),(135,ks)]
def Xe (d:D14):=bn ah4 F ab f151 oJ oJ 2 (d,())
def aul (d:D14):Xe F d=(kP F0 d).bind fun a=>(pY F0 d).bind fun b=>br b.1 (some ((a.1.1,(d.1.length:Int)),())) (some (a.1,())):=by kernel_rfl
def Zu:Any:=.one ⟨oJ,oJ,2,fun x=>Xe F0 x.1⟩
def aum:ba 151 Zu:=aw ah4 ⟨Ai,r0,trivial⟩ func151 ab (by kernel_rfl)
def VO:=[(34,bX),(70,bM),(151,Zu)]
def Ic (c:D1)(r:bb):=bn VO F ab f82 wX aBB 2 (c,r,())
def akc (c:D1)(r:bb):Ic F c r=(az F0 r).bind fun a=>(cq F0 c r).bind fun b=>br (!b.1) (some (a.1,[],())) ((Xe F0 a.1.2.2.2.2.2.2.1).bind fun d=>some ((a.1.1,a.1.2.1,a.1.2.2.1,a.1.2.2.2.1,a.1.2.2.2.2.1,a.1.2.2.2.2.2.1,d.1,[]),a.1.2.2.2.2.2.2.2,())):=by kernel_rfl
def PI:Any:=.one ⟨wX,aBB,2,fun x=>Ic F0 x.1 x.2.1⟩
def akd:ba 82 PI:=aw VO ⟨ct,b7,aum,trivial⟩ func82 ab (by kernel_rfl)
def Zv:=[(33,db)]
def EY (a:Int)(m:NQ):=bn Zv F ab f84 aBC [(K38,false)] 2 (a,m,())
def anI (a:Int)(m:NQ):EY F a m=br (m.1==4) (some ([],())) (br (m.1==2) (br (m.2.2.2.1.2.1.toList==ak.toList) (some ([],())) ((dm F0 m.2.2.2.1.2.2 a).bind fun b=>br (!b.1) (some ([],())) (some ([(m.2.2.2.1.1,m.2.2.2.1.2.1,a)],())))) (br (m.1==1) (br (m.2.2.1.2.2.1.toList==ak.toList) (some ([],())) ((dm F0 m.2.2.1.2.2.2 a).bind fun b=>br (!b.1) (some ([],())) (some ([(m.2.2.1.2.1,m.2.2.1.2.2.1,a)],())))) (br (m.2.2.2.2.1.2.1.toList==ak.toList) (some ([],())) ((dm F0 m.2.2.2.2.1.2.2 a).bind fun b=>br (!b.1) (some ([],())) (some ([(m.2.2.2.2.1.1,m.2.2.2.2.1.2.1,a)],())))))):=by kernel_rfl
def F3:Any:=.one ⟨aBC,[(K38,false)],2,fun x=>EY F0 x.1 x.2.1⟩
def VP:ba 84 F3:=aw Zv ⟨et,trivial⟩ func84 ab (by kernel_rfl)
def MJ:Nat->Option Hint:=look [(2,{live:=[0,3,7,8],rl:=[4]})]
def DP (s:List bS)(c d v:Int)(a:ByteArray)(b:Int):= di 19 [(0,ih 95 (cZ) s),b9 3,(7,bq c),(8,bq d)] [(3,[an v,.str a,an b])] []
def Zw (a:Int):= b3 19 [(4,bq a)]
def VQ   := b3 19 []
def MK (a:St):Option U:=fy aB F MJ [.r,.l,.r,.b,.i] f152 J n a
def DQ:=ig aB F MJ [.r,.l,.r,.b] f152 c7 1
def PJ (s:List bS)(d a v:Int)(b:ByteArray)(c:Int):MK F J (n+1) (DP s d a v b c)=br (decide (a<d)) (ck (bO a (s.length:Int)) (br ((v==(aN s a cZ.aC).1)&&((b.toList==(aN s a cZ.aC).2.1.toList)&&((c==(aN s a cZ.aC).2.2)&&true))) (J .ret (Zw a)) (MK F J n (DP s d (aj (a+1)) v b c)))) (J (.exit 0) (VQ)):=by kernel_rfl
def anJ (a:Int):DQ F .ret (Zw a)=some (a,()):=by kernel_rfl
def ake: DQ F (.exit 0) (VQ)=some (-1,()):=by kernel_rfl
abbrev aBF:List (Ty×Bool):=[(K38,false),(cZ,true)]
def Xf (s:D38)(v:bS):=bn aB F MJ f152 aBF c7 1 (s,v,())
def aun (s:D38)(v:bS):Xf F s v=MK F (DQ F) F.n (DP s (s.length:Int) 0 v.1 v.2.1 v.2.2):=by kernel_rfl
def Zx:Any:=.one ⟨aBF,c7,1,fun x=>Xf F0 x.1 x.2.1⟩
def auo:ba 152 Zx:=aw aB trivial func152 MJ (by kernel_rfl)
def pb:=[(152,Zx)]
def cX (s:D38)(v:bS):=bn pb F ab f85 aBF aT 1 (s,v,())
def F4 (s:D38)(v:bS):cX F s v=(Xf F0 s v).bind fun a=>some (decide (a.1>=0),()):=by kernel_rfl
def eh:Any:=.one ⟨aBF,aT,1,fun x=>cX F0 x.1 x.2.1⟩
def hK:ba 85 eh:=aw pb ⟨auo,trivial⟩ func85 ab (by kernel_rfl)
def na:=[(10,jX),(32,jr),(33,db),(84,F3),(85,eh)]
def nc:Nat->Option Hint:=look [(5,{live:=[1,6,7,20,21,22],Bg:=[(6,2,3,.int .i64),(6,3,50,cl),(6,4,102,eI),(6,5,95,cZ)],xl:=[6,7],rl:=[6]}),(8,{live:=[1,6,7,20,21,22,29,30,31],xl:=[1,6,7,20,21,22],rl:=[6]})]
def l6 (j:Int)(k:List kI)(l m o p q r s a:Int)(t:List bS)(b:List Int)(c:List bb)(d:List b0)(e:List bS)(f:List Int)(g:List bb)(h:List b0)(i:List bS):= di 55 [(1,bq j),b9 6,b9 7,(20,ih 119 (px) k),(21,bq l),(22,bq m),(29,.v (.c (.own 1000000 none))),(30,bq o),(31,bq p)] [(6,[an q,an r,.own 1000001 none,.own 1000002 none,.own 1000003 none,.own 1000004 none]),(7,[an s,an a,.own 1000005 none,.own 1000006 none,.own 1000007 none,.own 1000008 none])] [ay 1000000 95 cZ t,ay 1000001 3 (.int .i64) b,ay 1000002 50 cl c,ay 1000003 102 eI d,ay 1000004 95 cZ e,ay 1000005 3 (.int .i64) f,ay 1000006 50 cl g,ay 1000007 102 eI h,ay 1000008 95 cZ i]
def Tf (i:Int)(j:List kI)(k l m o p a:Int)(q:List Int)(b:List bb)(c:List b0)(d:List bS)(e:List Int)(f:List bb)(g:List b0)(h:List bS):= di 55 [(1,bq i),b9 6,b9 7,(20,ih 119 (px) j),(21,bq k),(22,bq l)] [(6,[an m,an o,.own 1000000 none,.own 1000001 none,.own 1000002 none,.own 1000003 none]),(7,[an p,an a,.own 1000004 none,.own 1000005 none,.own 1000006 none,.own 1000007 none])] [ay 1000000 3 (.int .i64) q,ay 1000001 50 cl b,ay 1000002 102 eI c,ay 1000003 95 cZ d,ay 1000004 3 (.int .i64) e,ay 1000005 50 cl f,ay 1000006 102 eI g,ay 1000007 95 cZ h]
def r8 (a:St):Option U:=fy na F nc [.r,.r,.r,.l,.r,.b,.i,.r,.r,.l,.b,.r,.r,.b,.i] f83 J n a
def Kp:Ex->St->Option U:=abL Tryz.prog (look na) F nc [.r,.r,.l,.b,.r,.r,.b] (sub [.r,.r,.r,.l,.r,.b,.i] (gX f83)) (itk Tryz.prog (look na) F nc (sub [.r,.r,.r,.l,.r,.b,.i] (gX f83)) J n)
def Aw (i:Int)(j:List kI)(k l m o p a:Int)(q:List Int)(b:List bb)(c:List b0)(d:List bS)(e:List Int)(f:List bb)(g:List b0)(h:List bS):= di 55 [(1,bq i),b9 6,b9 7,(20,ih 119 (px) j),(21,bq k),(22,bq l)] [(6,[an m,an o,.own 1000000 none,.own 1000001 none,.own 1000002 none,.own 1000003 none]),(7,[an p,an a,.own 1000004 none,.own 1000005 none,.own 1000006 none,.own 1000007 none])] [ay 1000000 3 (.int .i64) q,ay 1000001 50 cl b,ay 1000002 102 eI c,ay 1000003 95 cZ d,ay 1000004 3 (.int .i64) e,ay 1000005 50 cl f,ay 1000006 102 eI g,ay 1000007 95 cZ h]
def Tg (i j k a:Int)(l:List Int)(b:List bb)(c:List b0)(d:List bS)(e:List Int)(f:List bb)(g:List b0)(h:List bS):= di 55 [b9 6,b9 7] [(6,[an i,an j,.own 1000000 none,.own 1000001 none,.own 1000002 none,.own 1000003 none]),(7,[an k,an a,.own 1000004 none,.own 1000005 none,.own 1000006 none,.own 1000007 none])] [ay 1000000 3 (.int .i64) l,ay 1000001 50 cl b,ay 1000002 102 eI c,ay 1000003 95 cZ d,ay 1000004 3 (.int .i64) e,ay 1000005 50 cl f,ay 1000006 102 eI g,ay 1000007 95 cZ h]
def Ie (a:St):Option U:=fy na F nc [.r,.r,.r,.l,.r,.b,.i] f83 J n a
def Ax:=ig na F nc [.r,.r,.r,.l,.r,.b] f83 eU 2
def ML (l:Int)(m:List kI)(o p q a r s t d:Int)(c:List bS)(e:List Int)(f:List bb)(g:List b0)(h:List bS)(i:List Int)(j:List bb)(k:List b0)(b:List bS):r8 F J (n+1) (l6 l m o p q a r s t d c e f g h i j k b)=br (decide (a<q)) (ck (bO a (c.length:Int)) ((cX F0 b (aN c a cZ.aC)).bind fun u=>br (!u.1) (br (decide ((b.length:Int)<300)) (ck (eA F b.length [(aN c a cZ.aC)].length 32) (r8 F J n (l6 l m o p q (aj (a+1)) r s t d c e f g h i j k (b++[(aN c a cZ.aC)])))) (r8 F J n (l6 l m o p q (aj (a+1)) r s t d c e f g h i j k b))) (r8 F J n (l6 l m o p q (aj (a+1)) r s t d c e f g h i j k b)))) (J (.exit 2) (Tf l m o p r s t d e f g h i j k b)):=by kernel_rfl
def MM (k:Int)(b:List kI)(l a m o p c:Int)(q:List Int)(d:List bb)(e:List b0)(f:List bS)(g:List Int)(h:List bb)(i:List b0)(j:List bS):Ie F J (n+1) (Aw k b l a m o p c q d e f g h i j)=br (decide (a<l)) (ck (bO a (b.length:Int)) ((EY F0 k (aN b a px.aC).2).bind fun r=>r8 F (Kp F J n) F.n (l6 k b l a (r.1.length:Int) 0 m o p c r.1 q d e f g h i j))) (J (.exit 0) (Tg m o p c q d e f g h i j)):=by kernel_rfl
def af1 (i:Int)(j:List kI)(k l m o p a:Int)(q:List Int)(b:List bb)(c:List b0)(d:List bS)(e:List Int)(f:List bb)(g:List b0)(h:List bS):Kp F J n (.exit 2) (Tf i j k l m o p a q b c d e f g h)=Ie F J n (Aw i j k (aj (l+1)) m o p a q b c d e f g h):=by kernel_rfl
def af2 (j k f a:Int)(l:List Int)(g:List bb)(h:List b0)(i:List bS)(b:List Int)(c:List bb)(d:List b0)(e:List bS):Ax F (.exit 0) (Tg j k f a l g h i b c d e)=some (((f,a),b,c,d,e),()):=by kernel_rfl
def Re (w:nz)(a:Int)(b:D23):=bn na F nc f83 aBD eU 2 (w,a,b,())
def aqM (w:nz)(b:Int)(c:D23):Re F w b c=(aS F0 w).bind fun a=>(ku F0 w).bind fun d=>(dm F0 d.1 b).bind fun e=>br (!e.1) (some (a.1,())) (Ie F (Ax F) F.n (Aw b c (c.length:Int) 0 0 0 a.1.1.1 a.1.1.2 [] [] [] [] a.1.2.1 a.1.2.2.1 a.1.2.2.2.1 a.1.2.2.2.2)):=by kernel_rfl
def VR:Any:=.one ⟨aBD,eU,2,fun x=>Re F0 x.1 x.2.1 x.2.2.1⟩
def aqN:ba 83 VR:=aw na ⟨p4,o8,et,VP,hK,trivial⟩ func83 nc (by kernel_rfl)
def VS:=[(163,hI)]
def nd (s:ByteArray):=bn VS F ab f164 dw ld 2 (s,())
def akf (s:ByteArray):nd F s=(eL F0 (s.size:Int)).bind fun a=>ck (okB F a.1.length s.size) (some (a.1++bytesOf s,())):=by kernel_rfl
def r9:Any:=.one ⟨dw,ld,2,fun x=>nd F0 x.1⟩
def F5:ba 164 r9:=aw VS ⟨lV,trivial⟩ func164 ab (by kernel_rfl)
def Ay:=[(163,hI)]
def Az:Nat->Option Hint:=look [(3,{live:=[3,6,7,8],mat:=[(3,5,.int .u8)],xl:=[3],rl:=[2]})]
def sa (a:List Int)(b c:Int)(d:List Int):= di 18 [(3,.v (.c (.own 1000000 none))),(6,ih 3 (.int .i64) a),(7,bq b),(8,bq c)] [] [ay 1000000 5 (.int .u8) d]
def MN (a:List Int):= di 18 [(3,.v (.c (.own 1000000 none)))] [] [ay 1000000 5 (.int .u8) a]
def AA (a:St):Option U:=fy Ay F Az [.r,.r,.l,.r,.b,.i] f166 J n a
def Co:=ig Ay F Az [.r,.r,.l,.r,.b] f166 ld 2
def GY (b:List Int)(d a:Int)(c:List Int):AA F J (n+1) (sa b d a c)=br (decide (a<d)) (ck (bO a (b.length:Int)) ((eL F0 (aN b a 0)).bind fun e=>ck (eA F c.length e.1.length 1) (AA F J n (sa b d (aj (a+1)) (c++e.1))))) (J (.exit 0) (MN c)):=by kernel_rfl
def aaQ (a:List Int):Co F (.exit 0) (MN a)=some (a,()):=by kernel_rfl
def kv (a:List Int):=bn Ay F Az f166 jK ld 2 (a,())
def akg (a:List Int):kv F a=AA F (Co F) F.n (sa a (a.length:Int) 0 []):=by kernel_rfl
def sd:Any:=.one ⟨jK,ld,2,fun x=>kv F0 x.1⟩
def F6:ba 166 sd:=aw Ay ⟨lV,trivial⟩ func166 Az (by kernel_rfl)
def VT:=[(138,iG),(163,hI),(164,r9),(166,sd)]
def se (c:D1)(q:D9):=bn VT F ab f165 Gk ld 2 (c,q,())
def akh (c:D1)(q:D9):se F c q=(lR F0 c q).bind fun f=>br (!f.1) (some ([],())) ((eL F0 q.1).bind fun a=>(nd F0 q.2.1).bind fun b=>ck (eA F a.1.length b.1.length 1) ((eL F0 (q.2.2.length:Int)).bind fun d=>ck (eA F (a.1++b.1).length d.1.length 1) ((kv F0 q.2.2).bind fun e=>ck (eA F ((a.1++b.1)++d.1).length e.1.length 1) (some (((a.1++b.1)++d.1)++e.1,()))))):=by kernel_rfl
def Cp:Any:=.one ⟨Gk,ld,2,fun x=>se F0 x.1 x.2.1⟩
def Th:ba 165 Cp:=aw VT ⟨mN,lV,F5,F6,trivial⟩ func165 ab (by kernel_rfl)
def Ti:=[(77,lU),(163,hI),(164,r9),(165,Cp),(166,sd)]
def tv (c:D1)(m:NQ):=bn Ti F ab f90 ahG ld 2 (c,m,())
def af3 (c:D1)(m:NQ):tv F c m=(fM F0 c m).bind fun l=>br (!l.1) (some ([],())) ((eL F0 m.1).bind fun a=>br (m.1==1) ((nd F0 m.2.2.1.1).bind fun e=>ck (eA F a.1.length e.1.length 1) ((se F0 c m.2.2.1.2).bind fun h=>ck (eA F (a.1++e.1).length h.1.length 1) (some ((a.1++e.1)++h.1,())))) (br (m.1==2) ((eL F0 m.2.2.2.1.1).bind fun b=>ck (eA F a.1.length b.1.length 1) ((nd F0 m.2.2.2.1.2.1).bind fun d=>ck (eA F (a.1++b.1).length d.1.length 1) ((eL F0 (m.2.2.2.1.2.2.length:Int)).bind fun f=>ck (eA F ((a.1++b.1)++d.1).length f.1.length 1) ((kv F0 m.2.2.2.1.2.2).bind fun i=>ck (eA F (((a.1++b.1)++d.1)++f.1).length i.1.length 1) (some ((((a.1++b.1)++d.1)++f.1)++i.1,())))))) (br (m.1==3) ((kv F0 [m.2.1,m.2.2.2.2.2.1]).bind fun g=>ck (eA F a.1.length g.1.length 1) ((se F0 c m.2.2.2.2.1).bind fun j=>ck (eA F (a.1++g.1).length j.1.length 1) (some ((a.1++g.1)++j.1,())))) ((kv F0 [m.2.2.2.2.2.2.1,m.2.2.2.2.2.2.2.1,m.2.2.2.2.2.2.2.2.1,m.2.2.2.2.2.2.2.2.2]).bind fun k=>ck (eA F a.1.length k.1.length 1) (some (a.1++k.1,())))))):=by kernel_rfl
def AB:Any:=.one ⟨ahG,ld,2,fun x=>tv F0 x.1 x.2.1⟩
def PK:ba 90 AB:=aw Ti ⟨tl,lV,F5,Th,F6,trivial⟩ func90 ab (by kernel_rfl)
def MO:=[(28,iM),(32,jr),(42,bA),(90,AB)]
def MP:Nat->Option Hint:=look [(5,{live:=[2,4,5,15,16,17],Bg:=[(4,2,3,.int .i64),(4,3,50,cl),(4,4,102,eI),(4,5,95,cZ)],xl:=[4,5],rl:=[4]})]
def kQ (o:List kI)(p q w a:Int)(b:List Int)(c:List bb)(d:List b0)(e:List bS)(r s t f:Int)(u:List Int)(g:List bb)(h:List b0)(i:List bS)(j:List Int)(k:List bb)(l:List b0)(m:List bS):= di 55 [b9 2,b9 4,b9 5,(15,ih 119 (px) o),(16,bq p),(17,bq q)] [(2,[an w,an a,.ro false 3 (.int .i64) b,.ro false 50 (cl) c,.ro false 102 (eI) d,.ro false 95 (cZ) e]),(4,[an r,an s,.own 1000000 none,.own 1000001 none,.own 1000002 none,.own 1000003 none]),(5,[an t,an f,.own 1000004 none,.own 1000005 none,.own 1000006 none,.own 1000007 none])] [ay 1000000 3 (.int .i64) u,ay 1000001 50 cl g,ay 1000002 102 eI h,ay 1000003 95 cZ i,ay 1000004 3 (.int .i64) j,ay 1000005 50 cl k,ay 1000006 102 eI l,ay 1000007 95 cZ m]
def VU (i j k a:Int)(l:List Int)(b:List bb)(c:List b0)(d:List bS)(e:List Int)(f:List bb)(g:List b0)(h:List bS):= di 55 [b9 4,b9 5] [(4,[an i,an j,.own 1000000 none,.own 1000001 none,.own 1000002 none,.own 1000003 none]),(5,[an k,an a,.own 1000004 none,.own 1000005 none,.own 1000006 none,.own 1000007 none])] [ay 1000000 3 (.int .i64) l,ay 1000001 50 cl b,ay 1000002 102 eI c,ay 1000003 95 cZ d,ay 1000004 3 (.int .i64) e,ay 1000005 50 cl f,ay 1000006 102 eI g,ay 1000007 95 cZ h]
def p5 (a:St):Option U:=fy MO F MP [.r,.r,.r,.l,.r,.b,.i] f86 J n a
def NY:=ig MO F MP [.r,.r,.r,.l,.r,.b] f86 eU 2
def PL (b:List kI)(l a w d:Int)(r:List Int)(s:List bb)(t:List b0)(u:List bS)(m o p e:Int)(q:List Int)(f:List bb)(g:List b0)(h:List bS)(i:List Int)(j:List bb)(c:List b0)(k:List bS):p5 F J (n+1) (kQ b l a w d r s t u m o p e q f g h i j c k)=br (decide (a<l)) (ck (bO a (b.length:Int)) ((tv F0 (w,d) (aN b a px.aC).2).bind fun v=>br (decide ((v.1.length:Int)>0)) ((aY F0 (aN b a px.aC).1 0 (aj (w-1))).bind fun x=>br x.1 (br (decide ((c.length:Int)<60)) (ck (eA F c.length [((aN b a px.aC).1,v.1)].length 32) (p5 F J n (kQ b l (aj (a+1)) w d r s t u m o p e q f g h i j (c++[((aN b a px.aC).1,v.1)]) k))) (p5 F J n (kQ b l (aj (a+1)) w d r s t u m o p e q f g h i j c k))) (p5 F J n (kQ b l (aj (a+1)) w d r s t u m o p e q f g h i j c k))) (p5 F J n (kQ b l (aj (a+1)) w d r s t u m o p e q f g h i j c k)))) (J (.exit 0) (VU m o p e q f g h i j c k)):=by kernel_rfl
def aki (j k f a:Int)(l:List Int)(g:List bb)(h:List b0)(i:List bS)(b:List Int)(c:List bb)(d:List b0)(e:List bS):NY F (.exit 0) (VU j k f a l g h i b c d e)=some (((f,a),b,c,d,e),()):=by kernel_rfl
def PN (w:nz)(a:D23):=bn MO F MP f86 aBA eU 2 (w,a,())
def aup (w:nz)(b:D23):PN F w b=(aS F0 w).bind fun a=>(cK F0 w).bind fun c=>br (!c.1) (some (a.1,())) (p5 F (NY F) F.n (kQ b (b.length:Int) 0 w.1.1 w.1.2 w.2.1 w.2.2.1 w.2.2.2.1 w.2.2.2.2 0 0 a.1.1.1 a.1.1.2 [] [] [] [] a.1.2.1 a.1.2.2.1 a.1.2.2.2.1 a.1.2.2.2.2)):=by kernel_rfl
def Zy:Any:=.one ⟨aBA,eU,2,fun x=>PN F0 x.1 x.2.1⟩
def auq:ba 86 Zy:=aw MO ⟨nQ,o8,bT,PK,trivial⟩ func86 MP (by kernel_rfl)
end
end Go.Am.Tryz
