/- No condition. -/
import Derived.Test.YtpkabclplaibaaaGreatDoorQhYJG4
set_option linter.all false
set_option maxRecDepth 100000
namespace Go.Am.Tryz
open Go.Am Go.Proofs Go.Proofs.Tryz
noncomputable section
variable {U:Type} (F:kk) (J:Ex->St->Option U) (n:Nat)
def k9:=[(97,cc),(98,al),(121,bg),(200,dZ)]
def la:Nat->Option Hint:=look [(3,{live:=[0,3,4],xl:=[0,3],rl:=[2]})]
def hV (i:Int)(a:List Int)(b c:Int)(d:List Int):St:={nt:=31,tm:=[(0,.v (.c (.ptr 4000000 0))),(3,.v (.c (.own 1000000 none))),(4,cD i)],bx:=[(4000000,[.ro true 5 (.int .u8) a,aw b,aw c])],bl:=[aJ 1000000 5 (.int .u8) d],sp:=.v (.c (.ptr 4000000 0))}
def lR (a:List Int)(b c:Int)(d:List Int):St:={nt:=31,tm:=[(0,.v (.c (.ptr 4000000 0))),(3,.v (.c (.own 1000000 none)))],bx:=[(4000000,[.ro true 5 (.int .u8) a,aw b,aw c])],bl:=[aJ 1000000 5 (.int .u8) d],sp:=.v (.c (.ptr 4000000 0))}
def lb (a:St):Option U:=hl k9 F la [.r,.r,.l,.r,.b,.i] f195 J n a
def hW:=EV k9 F la [.r,.r,.l,.r,.b] f195 .cur j6 aX 2
def sN (i:Int)(d:List Int)(e f:Int)(c:List Int):lb F J (n+1) (hV i d e f c)=(af F0 (d,e,f) 4).bind fun a=>br (decide (i<a.1.1)) ((aH F0 a.2.1 [0,1,127,128,300,2147483647]).bind fun b=>(c4 F0 b.1.1).bind fun g=>ck (fc F c.length g.1.length 1) (lb F J n (hV (ak (i+1)) b.2.1.1 b.2.1.2.1 b.2.1.2.2 (c++g.1)))) (J (.exit 0) (lR a.2.1.1 a.2.1.2.1 a.2.1.2.2 c)):=by kernel_rfl
def IX (e:List Int)(f g:Int)(a:List Int):hW F (.exit 0) (lR e f g a)=(cX F0 (e,f,g) 3).bind fun b=>br b.1.1 ((aH F0 b.2.1 [0,128,255]).bind fun c=>(af F0 c.2.1 3).bind fun d=>ck (fc F a.length [IntKind.wrap .u8 (c.1.1),IntKind.wrap .u8 (d.1.1)].length 1) (some ((a++[IntKind.wrap .u8 (c.1.1),IntKind.wrap .u8 (d.1.1)],()),d.2.1,()))) (some ((a,()),b.2.1,())):=by kernel_rfl
def o9 (c:D2):=eX k9 F la f195 aX 0 .cur j6 aX 2 (c,())
def OI (c:D2):o9 F c=lb F (hW F) F.n (hV 0 c.1 c.2.1 c.2.2 []):=by kernel_rfl
def zU:Any:=.two ⟨aX,0,.cur,j6,2,aX,fun x=>o9 F0 x.1⟩
def OJ:bw 195 zU:=hA k9 ⟨cY,ar,bz,fN,trivial⟩ func195 la (by kernel_rfl)
def KF:=[(98,al),(121,bg),(195,zU)]
def A1 (c:D2):=eX KF F ad f131 aX 0 .cur Dt aX 2 (c,())
def Vk (c:D2):A1 F c=(o9 F0 c).bind fun a=>ck (fc F 0 a.1.1.length 1) ((af F0 a.2.1 (ak ((([]++a.1.1).length:Int)+1))).bind fun e=>(af F0 e.2.1 12).bind fun b=>br (b.1.1==0) ((aH F0 b.2.1 [(-1),99]).bind fun f=>some ((([]++a.1.1,f.1.1),()),f.2.1,())) (br (b.1.1==1) ((af F0 b.2.1 2).bind fun d=>ck (okM F (ak (100000+d.1.1)) (ak (100000+d.1.1)) 1) (some (((List.replicate (ak (100000+d.1.1)).toNat 0,e.1.1),()),d.2.1,()))) (some ((([]++a.1.1,e.1.1),()),b.2.1,())))):=by kernel_rfl
def Gm:Any:=.two ⟨aX,0,.cur,Dt,2,aX,fun x=>A1 F0 x.1⟩
def Vl:bw 131 Gm:=hA KF ⟨ar,bz,OJ,trivial⟩ func131 ad (by kernel_rfl)
def zV:=[(98,al),(122,kP),(123,cZ),(125,fV),(186,bW),(187,j9),(205,lP)]
def ld (c:D2)(a:D1):=eX zV F ad f196 IT 0 .cur yP aX 2 (c,a,())
def KG (c:D2)(b:D1):ld F c b=(af F0 c 4).bind fun a=>br (a.1.1==0) ((iN F0 a.2.1 b).bind fun e=>some (((1,0,e.1.1,(0,ah,[]),(0,ah,[]),0,0,0,0,0),()),e.2.1,())) (br (a.1.1==1) ((eM F0 a.2.1 b).bind fun d=>br (d.1.1.2.1.toList==ah.toList) ((dX F0 ah 1 []).bind fun k=>some (((2,0,(ah,0,ah,[]),(1,k.1,d.1.1.2.2),(0,ah,[]),0,0,0,0,0),()),d.2.1,())) (some (((2,0,(ah,0,ah,[]),d.1.1,(0,ah,[]),0,0,0,0,0),()),d.2.1,()))) (br (a.1.1==2) ((af F0 a.2.1 6).bind fun f=>(c8 F0 f.2.1).bind fun g=>(kq F0 g.2.1 b g.1.1).bind fun h=>(af F0 h.2.1 b.1).bind fun i=>some (((3,ak (1+f.1.1),(ah,0,ah,[]),(0,ah,[]),h.1.1,i.1.1,0,0,0,0),()),i.2.1,())) ((cd F0 a.2.1).bind fun j=>some (((4,0,(ah,0,ah,[]),(0,ah,[]),(0,ah,[]),0,j.1.1),()),j.2.1,())))):=by kernel_rfl
def tM:Any:=.two ⟨IT,0,.cur,yP,2,aX,fun x=>ld F0 x.1 x.2.1⟩
def KH:bw 196 tM:=hA zV ⟨ar,uf,dV,lC,cL,rv,zJ,trivial⟩ func196 ad (by kernel_rfl)
def KI:=[(62,mj),(98,al),(121,bg),(192,yx),(196,tM)]
def sO (c:D2)(a:D1):=eX KI F ad f132 IT 0 .cur yP aX 2 (c,a,())
def Vm (c:D2)(d:D1):sO F c d=(ld F0 c d).bind fun a=>(af F0 a.2.1 12).bind fun b=>br (b.1.1==0) ((af F0 b.2.1 7).bind fun e=>some (((ak (e.1.1-1),a.1.1.2),()),e.2.1,())) (br (b.1.1==1) ((aH F0 b.2.1 [(-1),0,61]).bind fun f=>some (((a.1.1.1,f.1.1,a.1.1.2.2),()),f.2.1,())) (br (b.1.1==2) ((aH F0 b.2.1 [(-1),7]).bind fun g=>some (((a.1.1.1,a.1.1.2.1,a.1.1.2.2.1,a.1.1.2.2.2.1,a.1.1.2.2.2.2.1,g.1.1,a.1.1.2.2.2.2.2.2),()),g.2.1,())) (br (b.1.1==3) ((mi F0 b.2.1 d).bind fun h=>some (((a.1.1.1,a.1.1.2.1,a.1.1.2.2.1,h.1.1,a.1.1.2.2.2.2),()),h.2.1,())) (br (b.1.1==4) ((wT F0 b.2.1).bind fun i=>some (((a.1.1.1,a.1.1.2.1,a.1.1.2.2.1,a.1.1.2.2.2.1,a.1.1.2.2.2.2.1,a.1.1.2.2.2.2.2.1,i.1.1),()),i.2.1,())) (some ((a.1.1,()),b.2.1,())))))):=by kernel_rfl
def uK:Any:=.two ⟨IT,0,.cur,yP,2,aX,fun x=>sO F0 x.1 x.2.1⟩
def IC:bw 132 uK:=hA KI ⟨yg,ar,bz,KB,KH,trivial⟩ func132 ad (by kernel_rfl)
def KJ:=[(98,al),(121,bg),(127,tJ),(128,Gi),(129,IB),(130,tL),(131,Gm),(132,uK)]
def KK:Nat->Option Hint:=look [(999998,{live:=[125]}),(900018,{live:=[],mat:=[(5,125,Pm)]})]
def sP (c:D2):=eX KJ F KK f64 aX 0 .cur yQ aX 1 (c,())
def Vn (c:D2):sP F c=(k7 F0 c).bind fun a=>(af F0 a.2.1 16).bind fun b=>br (b.1.1==0) ((aH F0 b.2.1 [(-1),0,3,7]).bind fun f=>some ((a.1.1,(f.1.1,a.1.2.1.2),()),f.2.1,())) (br (b.1.1==1) ((aH F0 b.2.1 [0,1,60,61]).bind fun g=>some ((a.1.1,(a.1.2.1.1,g.1.1,a.1.2.1.2.2),()),g.2.1,())) (br (b.1.1==2) ((aH F0 b.2.1 [(-1),0,60,61]).bind fun h=>some ((a.1.1,(a.1.2.1.1,a.1.2.1.2.1,h.1.1,a.1.2.1.2.2.2),()),h.2.1,())) (br (b.1.1==3) ((A0 F0 b.2.1 a.1.1).bind fun i=>some ((a.1.1,(a.1.2.1.1,a.1.2.1.2.1,a.1.2.1.2.2.1,i.1.1,a.1.2.1.2.2.2.2),()),i.2.1,())) (br (b.1.1==4) ((Eo F0 b.2.1).bind fun j=>some ((a.1.1,(a.1.2.1.1,a.1.2.1.2.1,a.1.2.1.2.2.1,a.1.2.1.2.2.2.1,j.1.1,a.1.2.1.2.2.2.2.2),()),j.2.1,())) (br (b.1.1==5) ((k8 F0 b.2.1 a.1.1).bind fun k=>some ((a.1.1,(a.1.2.1.1,a.1.2.1.2.1,a.1.2.1.2.2.1,a.1.2.1.2.2.2.1,a.1.2.1.2.2.2.2.1,k.1.1,a.1.2.1.2.2.2.2.2.2),()),k.2.1,())) (br (b.1.1==6) ((A1 F0 b.2.1).bind fun l=>some ((a.1.1,(a.1.2.1.1,a.1.2.1.2.1,a.1.2.1.2.2.1,a.1.2.1.2.2.2.1,a.1.2.1.2.2.2.2.1,a.1.2.1.2.2.2.2.2.1,l.1.1,a.1.2.1.2.2.2.2.2.2.2),()),l.2.1,())) (br (b.1.1==7) ((af F0 b.2.1 5).bind fun d=>(sO F0 d.2.1 a.1.1).bind fun e=>ck (fc F a.1.2.1.2.2.2.2.2.2.2.length [(d.1.1,e.1.1)].length 224) (some ((a.1.1,(a.1.2.1.1,a.1.2.1.2.1,a.1.2.1.2.2.1,a.1.2.1.2.2.2.1,a.1.2.1.2.2.2.2.1,a.1.2.1.2.2.2.2.2.1,a.1.2.1.2.2.2.2.2.2.1,a.1.2.1.2.2.2.2.2.2.2++[(d.1.1,e.1.1)]),()),e.2.1,()))) (some ((a.1.1,a.1.2.1,()),b.2.1,()))))))))):=by kernel_rfl
def uL:Any:=.two ⟨aX,0,.cur,yQ,1,aX,fun x=>sP F0 x.1⟩
def ID:bw 64 uL:=hA KJ ⟨ar,bz,Ky,Vj,Yl,KE,Vl,IC,trivial⟩ func64 KK (by kernel_rfl)
def CD:=[(59,fD),(64,uL)]
def mP (a:List Int):=cE CD F ad f11 j6 yX 0 (a,())
def Mq (a:List Int):mP F a=(gW F0 a).bind fun b=>(sP F0 b.1.1).bind fun c=>some (c.1.2.1,()):=by kernel_rfl
def wU:Any:=.one ⟨j6,yX,0,fun x=>mP F0 x.1⟩
def Mr:bw 11 wU:=aM CD ⟨kp,ID,trivial⟩ func11 ad (by kernel_rfl)
def Ep:=[(61,hE),(98,al),(121,bg)]
def pa (c:D2):=eX Ep F ad f96 aX 0 .cur MN aX 1 (c,())
def OK (c:D2):pa F c=(gj F0 c).bind fun b=>(af F0 b.2.1 12).bind fun a=>br (a.1.1==0) ((aH F0 a.2.1 [0,3,8,(-1)]).bind fun d=>some (((d.1.1,b.1.1.2),()),d.2.1,())) (br (a.1.1==1) ((aH F0 a.2.1 [0,6,7]).bind fun e=>some (((b.1.1.1,e.1.1),()),e.2.1,())) (some ((b.1.1,()),a.2.1,()))):=by kernel_rfl
def z1:Any:=.two ⟨aX,0,.cur,MN,1,aX,fun x=>pa F0 x.1⟩
def OL:bw 96 z1:=hA Ep ⟨pn,ar,bz,trivial⟩ func96 ad (by kernel_rfl)
def jT:=[(98,al),(119,bK),(123,cZ)]
def jU:Nat->Option Hint:=look [(3,{live:=[0,3,4],xl:=[3],rl:=[2]})]
def gP (i:Int)(a:List Int)(b c:Int)(d:List et):St:={nt:=25,tm:=[(0,.v (.c (.ptr 4000000 0))),(3,.v (.c (.own 1000000 none))),(4,cD i)],bx:=[(4000000,[.ro true 5 (.int .u8) a,aw b,aw c])],bl:=[aJ 1000000 91 iV d],sp:=.v (.c (.ptr 4000000 0))}
def tN (a:List Int)(b c:Int)(d:List et):St:={nt:=25,tm:=[(3,.v (.c (.own 1000000 none)))],bx:=[(4000000,[.ro true 5 (.int .u8) a,aw b,aw c])],bl:=[aJ 1000000 91 iV d],sp:=.v (.c (.ptr 4000000 0))}
def jV (a:St):Option U:=hl jT F jU [.r,.r,.l,.r,.b,.i] f135 J n a
def lS:=EV jT F jU [.r,.r,.l,.r,.b] f135 .cur aeW aX 2
def p3 (i:Int)(e:List Int)(f g:Int)(d:List et):jV F J (n+1) (gP i e f g d)=(af F0 (e,f,g) 8).bind fun a=>br (decide (i<a.1.1)) ((c8 F0 a.2.1).bind fun c=>(bY F0 c.1.1).bind fun h=>(af F0 c.2.1 4).bind fun b=>ck (fc F d.length [(h.1,c.1.1,b.1.1)].length 32) (jV F J n (gP (ak (i+1)) b.2.1.1 b.2.1.2.1 b.2.1.2.2 (d++[(h.1,c.1.1,b.1.1)])))) (J (.exit 0) (tN a.2.1.1 a.2.1.2.1 a.2.1.2.2 d)):=by kernel_rfl
def sQ (a:List Int)(b c:Int)(d:List et):lS F (.exit 0) (tN a b c d)=some ((d,()),(a,b,c),()):=by kernel_rfl
def mQ (c:D2):=eX jT F jU f135 aX 0 .cur aeW aX 2 (c,())
def Ms (c:D2):mQ F c=jV F (lS F) F.n (gP 0 c.1 c.2.1 c.2.2 []):=by kernel_rfl
def wV:Any:=.two ⟨aX,0,.cur,aeW,2,aX,fun x=>mQ F0 x.1⟩
def Mt:bw 135 wV:=hA jT ⟨ar,cg,dV,trivial⟩ func135 jU (by kernel_rfl)
def KL:=[(58,fF),(64,uL),(96,z1),(98,al),(132,uK),(133,kF),(134,sv),(135,wV),(136,kI)]
def A2 (c:D2):=eX KL F ad f65 aX 0 .cur fL aX 1 (c,())
def Vo (c:D2):A2 F c=(gK F0 c).bind fun a=>(af F0 a.2.1 20).bind fun b=>br (b.1.1==0) ((pa F0 b.2.1).bind fun f=>some (((f.1.1,a.1.1.2),()),f.2.1,())) (br (b.1.1==1) ((fE F0 b.2.1 4).bind fun g=>some (((a.1.1.1,g.1.1,a.1.1.2.2),()),g.2.1,())) (br (b.1.1==2) ((sP F0 b.2.1).bind fun h=>ck (b5 0 (a.1.1.2.2.1.length:Int)) (some (((a.1.1.1,a.1.1.2.1,a.1.1.2.2.1.set (0:Int).toNat h.1.2.1,a.1.1.2.2.2),()),h.2.1,()))) (br (b.1.1==3) ((af F0 b.2.1 8).bind fun d=>(sO F0 d.2.1 a.1.1.1).bind fun i=>(nR F0 a.1.1.1 i.1.1).bind fun j=>ck (fc F a.1.1.2.2.2.1.length [(ak (d.1.1-1),j.1)].length 32) (some (((a.1.1.1,a.1.1.2.1,a.1.1.2.2.1,a.1.1.2.2.2.1++[(ak (d.1.1-1),j.1)],a.1.1.2.2.2.2),()),i.2.1,()))) (br (b.1.1==4) ((mQ F0 b.2.1).bind fun e=>ck (fc F a.1.1.2.2.2.2.length e.1.1.length 32) (some (((a.1.1.1,a.1.1.2.1,a.1.1.2.2.1,a.1.1.2.2.2.1,a.1.1.2.2.2.2++e.1.1),()),e.2.1,()))) (br (b.1.1==5) ((gN F0 b.2.1 a.1.1.1).bind fun k=>ck (b5 1 (a.1.1.2.2.1.length:Int)) (some (((a.1.1.1,a.1.1.2.1,a.1.1.2.2.1.set (1:Int).toNat ((bd a.1.1.2.2.1 1 dU.aI).1,(bd a.1.1.2.2.1 1 dU.aI).2.1,(bd a.1.1.2.2.1 1 dU.aI).2.2.1,k.1.1,(bd a.1.1.2.2.1 1 dU.aI).2.2.2.2),a.1.1.2.2.2),()),k.2.1,()))) (br (b.1.1==6) (ck (okT (ak ((a.1.1.2.2.1.length:Int)-1)) (a.1.1.2.2.1.length:Int)) (some (((a.1.1.1,a.1.1.2.1,a.1.1.2.2.1.take (ak ((a.1.1.2.2.1.length:Int)-1)).toNat,a.1.1.2.2.2),()),b.2.1,()))) (some ((a.1.1,()),b.2.1,())))))))):=by kernel_rfl
def Gn:Any:=.two ⟨aX,0,.cur,fL,1,aX,fun x=>A2 F0 x.1⟩
def Vp:bw 65 Gn:=hA KL ⟨kM,ID,OL,ar,IC,wQ,F5,Mt,wR,trivial⟩ func65 ad (by kernel_rfl)
def wW:=[(59,fD),(65,Gn)]
def jW (a:List Int):=cE wW F ad f12 j6 fL 0 (a,())
def IY (a:List Int):jW F a=(gW F0 a).bind fun b=>(A2 F0 b.1.1).bind fun c=>some (c.1.1,()):=by kernel_rfl
def sR:Any:=.one ⟨j6,fL,0,fun x=>jW F0 x.1⟩
def IZ:bw 12 sR:=aM wW ⟨kp,Vp,trivial⟩ func12 ad (by kernel_rfl)
def QE:=[(276,C8)]
def pA (s:ByteArray)(a:Int):=cE QE F ad f211 aba aeP 1 (s,a,())
def aam (s:ByteArray)(a:Int):pA F s a=(strings_Split F0 s (strOf [a])).bind fun b=>some (b.1,()):=by kernel_rfl
def CE:Any:=.one ⟨aba,aeP,1,fun x=>pA F0 x.1 x.2.1⟩
def NC:bw 211 CE:=aM QE ⟨RN,trivial⟩ func211 ad (by kernel_rfl)
def ND:=[(137,Fm)]
def cy (a:Int):=cE ND F ad f66 gg bJ 1 (a,())
def Ym (a:Int):cy F a=(strconv_Itoa F0 a).bind fun b=>some (b.1,()):=by kernel_rfl
def ea:Any:=.one ⟨gg,bJ,1,fun x=>cy F0 x.1⟩
def fQ:bw 66 ea:=aM ND ⟨Uj,trivial⟩ func66 ad (by kernel_rfl)
end
end Go.Am.Tryz
namespace Go.Am.Tryz
open Go.Am Go.Proofs Go.Proofs.Tryz
noncomputable section
variable {U:Type} (F:kk) (J:Ex->St->Option U) (n:Nat)
def vS:=[(66,ea)]
def vT:Nat->Option Hint:=look [(5,{live:=[0,4,5],xl:=[0,4],rl:=[2,3]})]
def pb (s:ByteArray)(a i:Int):= dG 43 [(0,C9 s),(4,cD a),(5,cD i)]
def yz (a:Int)(b:Bool):= dG 43 [(2,cD a),(3,Uk b)]
def Gp (s:ByteArray)(a:Int):= dG 43 [(0,C9 s),(4,cD a)]
def vU (a:St):Option U:=hl vS F vT [.r,.r,.r,.l,.r,.b,.i] f213 J n a
def pc:=p9 vS F vT [.r,.r,.r,.l,.r,.b] f213 abb 1
def CF (s:ByteArray)(a i:Int):vU F J (n+1) (pb s a i)=br (decide (i<(s.size:Int))) (ck (b5 i (s.size:Int)) (br (decide ((gf s i)<48)) (J .ret (yz 0 false)) (ck (b5 i (s.size:Int)) (br (decide ((gf s i)>57)) (J .ret (yz 0 false)) (ck (b5 i (s.size:Int)) (vU F J n (pb s (ak ((ak (10*a))+(ak (IntKind.wrap .u8 ((gf s i)-48))))) (ak (i+1))))))))) (J (.exit 0) (Gp s a)):=by kernel_rfl
def Sy (a:Int)(b:Bool):pc F .ret (yz a b)=some (a,b,()):=by kernel_rfl
def QF (s:ByteArray)(a:Int):pc F (.exit 0) (Gp s a)=(cy F0 a).bind fun b=>br (!(b.1.toList==s.toList)) (some (0,false,())) (some (a,true,())):=by kernel_rfl
def jq (s:ByteArray):=cE vS F vT f213 bJ abb 1 (s,())
def Yn (s:ByteArray):jq F s=br (decide ((s.size:Int)<1)) (some (0,false,())) (br (decide ((s.size:Int)>6)) (some (0,false,())) (vU F (pc F) F.n (pb s 0 0))):=by kernel_rfl
def yA:Any:=.one ⟨bJ,abb,1,fun x=>jq F0 x.1⟩
def KM:bw 213 yA:=aM vS ⟨fQ,trivial⟩ func213 vT (by kernel_rfl)
def jr (a low high:Int):=cE aN F ad f93 ajh b3 1 (a,low,high,())
def Yo (a low high:Int):jr F a low high=br (decide (a>=low)) (some (decide (a<=high),())) (some (false,())):=by kernel_rfl
def yB:Any:=.one ⟨ajh,b3,1,fun x=>jr F0 x.1 x.2.1 x.2.2.1⟩
def KN:bw 93 yB:=aM aN trivial func93 ad (by kernel_rfl)
def TR:=[(93,yB)]
def Gq (x:D4):=cE TR F ad f228 HF b3 1 (x,())
def adb (x:D4):Gq F x=(jr F0 x.1 0 3).bind fun a=>br a.1 ((jr F0 x.2.1 0 3).bind fun b=>br b.1 ((jr F0 x.2.2.1 0 1000).bind fun c=>br c.1 ((jr F0 x.2.2.2 0 99).bind fun d=>some (d.1,())) (some (false,()))) (some (false,()))) (some (false,())):=by kernel_rfl
def E0:Any:=.one ⟨HF,b3,1,fun x=>Gq F0 x.1⟩
def QG:bw 228 E0:=aM TR ⟨KN,trivial⟩ func228 ad (by kernel_rfl)
def NF:=[(66,ea),(228,E0)]
def Er (x:D4):=cE NF F ad f312 HF bJ 1 (x,())
def Yp (x:D4):Er F x=(Gq F0 x).bind fun e=>br (!e.1) (some (ah,())) ((cy F0 x.1).bind fun a=>ck (gy F a.1.size (ByteArray.mk #[62]).size) ((cy F0 x.2.1).bind fun b=>ck (gy F (a.1++(ByteArray.mk #[62])).size b.1.size) (ck (gy F ((a.1++(ByteArray.mk #[62]))++b.1).size (ByteArray.mk #[58]).size) ((cy F0 x.2.2.1).bind fun c=>ck (gy F (((a.1++(ByteArray.mk #[62]))++b.1)++(ByteArray.mk #[58])).size c.1.size) (ck (gy F ((((a.1++(ByteArray.mk #[62]))++b.1)++(ByteArray.mk #[58]))++c.1).size (ByteArray.mk #[35]).size) ((cy F0 x.2.2.2).bind fun d=>ck (gy F (((((a.1++(ByteArray.mk #[62]))++b.1)++(ByteArray.mk #[58]))++c.1)++(ByteArray.mk #[35])).size d.1.size) (some ((((((a.1++(ByteArray.mk #[62]))++b.1)++(ByteArray.mk #[58]))++c.1)++(ByteArray.mk #[35]))++d.1,())))))))):=by kernel_rfl
def IE:Any:=.one ⟨HF,bJ,1,fun x=>Er F0 x.1⟩
def Yq:bw 312 IE:=aM NF ⟨fQ,QG,trivial⟩ func312 ad (by kernel_rfl)
def TS:=[(212,x7),(213,yA),(228,E0),(312,IE)]
def LN (s:ByteArray):=cE TS F ad f278 bJ aji 1 (s,())
def ade (s:ByteArray):LN F0 s=(strings_Cut F0 s (ByteArray.mk #[62])).bind fun b=>(strings_Cut F0 b.2.1 (ByteArray.mk #[58])).bind fun c=>(strings_Cut F0 c.2.1 (ByteArray.mk #[35])).bind fun a=>ck (b5 0 4) ((jq F0 (bd [b.1,c.1,a.1,a.2.1] 0 ByteArray.empty)).bind fun d=>ck (b5 1 4) ((jq F0 (bd [b.1,c.1,a.1,a.2.1] 1 ByteArray.empty)).bind fun e=>ck (b5 2 4) ((jq F0 (bd [b.1,c.1,a.1,a.2.1] 2 ByteArray.empty)).bind fun f=>ck (b5 3 4) ((jq F0 (bd [b.1,c.1,a.1,a.2.1] 3 ByteArray.empty)).bind fun g=>(Gq F0 (d.1,e.1,f.1,g.1)).bind fun h=>br (!h.1) (some ((0,0,0,0),false,())) ((Er F0 (d.1,e.1,f.1,g.1)).bind fun i=>br (!(i.1.toList==s.toList)) (some ((0,0,0,0),false,())) (some ((d.1,e.1,f.1,g.1),true,()))))))):=by kernel_rfl
def NG:Any:=.one ⟨bJ,aji,1,fun x=>LN F0 x.1⟩
def adf:bw 278 NG:=aM TS ⟨JF,KM,QG,Yq,trivial⟩ func278 ad (by kernel_rfl)
def A3:=[(211,CE),(278,NG)]
def A4:Nat->Option Hint:=look [(5,{live:=[4,12,13,14],mat:=[(4,99,K4)],xl:=[4],rl:=[2,3]})]
def sS (a:List ByteArray)(b c:Int)(d:List D4):= hD 31 [(4,.v (.c (.own 1000000 none))),(12,.v (.c (.ro true 9 (.str) a))),(13,cD b),(14,cD c)] [] [aJ 1000000 99 K4 d]
def KO (a:Bool):= dG 31 [(2,.v (.c (.nil))),(3,Uk a)]
def IF (a:List D4):= hD 31 [(4,.v (.c (.own 1000000 none)))] [] [aJ 1000000 99 K4 a]
def A5 (a:St):Option U:=hl A3 F A4 [.r,.r,.r,.l,.r,.b,.i] f214 J n a
def sT:=p9 A3 F A4 [.r,.r,.r,.l,.r,.b] f214 P0 2
def Es (b:List ByteArray)(e a:Int)(c:List D4):A5 F J (n+1) (sS b e a c)=br (decide (a<e)) (ck (b5 a (b.length:Int)) ((LN F0 (bd b a ByteArray.empty)).bind fun d=>br (!d.2.1) (J .ret (KO false)) (ck (fc F c.length [d.1].length 32) (A5 F J n (sS b e (ak (a+1)) (c++[d.1])))))) (J (.exit 0) (IF c)):=by kernel_rfl
def Vq (a:Bool):sT F .ret (KO a)=some ([],a,()):=by kernel_rfl
def Sz (a:List D4):sT F (.exit 0) (IF a)=some (a,true,()):=by kernel_rfl
def CG (s:ByteArray):=cE A3 F A4 f214 bJ P0 2 (s,())
def aan (s:ByteArray):CG F s=br (s.toList==ah.toList) (some ([],true,())) ((pA F0 s 44).bind fun a=>A5 F (sT F) F.n (sS a.1 (a.1.length:Int) 0 [])):=by kernel_rfl
def KP:Any:=.one ⟨bJ,P0,2,fun x=>CG F0 x.1⟩
def aao:bw 214 KP:=aM A3 ⟨NC,adf,trivial⟩ func214 A4 (by kernel_rfl)
def A6:=[(93,yB),(211,CE),(212,x7),(213,yA),(214,KP)]
def A7:Nat->Option Hint:=look [(9,{live:=[5,6,31,32,33],mat:=[(5,163,K6)],xl:=[5],rl:=[2,3]})]
def sU (a:Int)(b:List ByteArray)(c d:Int)(e:List D6):= hD 84 [(5,.v (.c (.own 1000000 none))),(6,cD a),(31,.v (.c (.ro true 9 (.str) b))),(32,cD c),(33,cD d)] [] [aJ 1000000 163 K6 e]
def iO (a:Bool):= dG 84 [(2,.v (.c (.nil))),(3,Uk a)]
def IG (a:List D6):= hD 84 [(5,.v (.c (.own 1000000 none)))] [] [aJ 1000000 163 K6 a]
def A8 (a:St):Option U:=hl A6 F A7 [.r,.r,.r,.r,.r,.r,.l,.r,.b,.i] f141 J n a
def sV:=p9 A6 F A7 [.r,.r,.r,.r,.r,.r,.l,.r,.b] f141 abc 2
def Et (h:Int)(d:List ByteArray)(g b:Int)(e:List D6):A8 F J (n+1) (sU h d g b e)=br (decide (b<g)) (ck (b5 b (d.length:Int)) ((strings_Cut F0 (bd d b ByteArray.empty) (ByteArray.mk #[124])).bind fun f=>(jq F0 f.1).bind fun a=>(CG F0 f.2.1).bind fun c=>br (!f.2.2.1) (J .ret (iO false)) (br (!a.2.1) (J .ret (iO false)) (br (!c.2.1) (J .ret (iO false)) ((jr F0 a.1 (ak (h+1)) 60).bind fun i=>br (!i.1) (J .ret (iO false)) (br (decide ((c.1.length:Int)>2)) (J .ret (iO false)) (ck (fc F e.length [(a.1,c.1)].length 32) (A8 F J n (sU a.1 d g (ak (b+1)) (e++[(a.1,c.1)])))))))))) (J (.exit 0) (IG e)):=by kernel_rfl
def Vr (a:Bool):sV F .ret (iO a)=some ([],a,()):=by kernel_rfl
def SA (a:List D6):sV F (.exit 0) (IG a)=some (a,true,()):=by kernel_rfl
def Hc (s:ByteArray):=cE A6 F A7 f141 bJ abc 2 (s,())
def aap (s:ByteArray):Hc F s=br (s.toList==ah.toList) (some ([],true,())) ((pA F0 s 47).bind fun a=>ck (b5 0 (a.1.length:Int)) (br (!((bd a.1 0 ByteArray.empty).toList==ah.toList)) (some ([],false,())) (br (decide ((ak ((a.1.length:Int)-1))>30)) (some ([],false,())) (ck (I5 1 (a.1.length:Int) (a.1.length:Int)) (A8 F (sV F) F.n (sU 0 ((a.1.take (a.1.length:Int).toNat).drop (1:Int).toNat) (((a.1.take (a.1.length:Int).toNat).drop (1:Int).toNat).length:Int) 0 [])))))):=by kernel_rfl
def KR:Any:=.one ⟨bJ,abc,2,fun x=>Hc F0 x.1⟩
def aaq:bw 141 KR:=aM A6 ⟨KN,NC,JF,KM,aao,trivial⟩ func141 A7 (by kernel_rfl)
def NH:=[(141,KR)]
def wX (s:ByteArray):=cE NH F ad f70 bJ gg 1 (s,())
def Yr (s:ByteArray):wX F s=(Hc F0 s).bind fun a=>br (!a.2.1) (some (-1,())) (some ((a.1.length:Int),())):=by kernel_rfl
def IH:Any:=.one ⟨bJ,gg,1,fun x=>wX F0 x.1⟩
def Ys:bw 70 IH:=aM NH ⟨aaq,trivial⟩ func70 ad (by kernel_rfl)
def Gr (r:cN):=cE aN F ad f25 yX gg 1 (r,())
def adg (r:cN):Gr F r=some (ak ((ak ((r.2.2.2.2.1.length:Int)+(r.2.2.2.2.2.1.length:Int)))+(r.2.2.2.2.2.2.2.length:Int)),()):=by kernel_rfl
def E1:Any:=.one ⟨yX,gg,1,fun x=>Gr F0 x.1⟩
def QH:bw 25 E1:=aM aN trivial func25 ad (by kernel_rfl)
def vV:=[(66,ea),(69,ud)]
def vW:Nat->Option Hint:=look [(3,{live:=[1,5,8,9,10],mat:=[(5,9,.str)],xl:=[1,5],rl:=[4]})]
def kj (a:ByteArray)(b:List Int)(c d:Int)(e:List ByteArray):= hD 23 [(1,C9 a),(5,.v (.c (.own 1000000 none))),(8,x0 3 (.int .i64) b),(9,cD c),(10,cD d)] [] [aJ 1000000 9 (.str) e]
def Gs (a:ByteArray)(b:List ByteArray):= hD 23 [(1,C9 a),(5,.v (.c (.own 1000000 none)))] [] [aJ 1000000 9 (.str) b]
def nV (a:St):Option U:=hl vV F vW [.r,.r,.l,.r,.b,.i] f67 J n a
def pd:=p9 vV F vW [.r,.r,.l,.r,.b] f67 bJ 1
def jX (d:ByteArray)(b:List Int)(e a:Int)(c:List ByteArray):nV F J (n+1) (kj d b e a c)=br (decide (a<e)) (ck (b5 a (b.length:Int)) ((cy F0 (bd b a 0)).bind fun f=>ck (fc F c.length [f.1].length 16) (nV F J n (kj d b e (ak (a+1)) (c++[f.1]))))) (J (.exit 0) (Gs d c)):=by kernel_rfl
def Eu (a:ByteArray)(b:List ByteArray):pd F (.exit 0) (Gs a b)=(strings_Join F0 b a).bind fun c=>some (c.1,()):=by kernel_rfl
abbrev apw:List (Ty×Bool):=[(.sl 3 (.int .i64),false),(.str,false)]
def lT (b:List Int)(a:ByteArray):=cE vV F vW f67 apw bJ 1 (b,a,())
def KS (a:List Int)(b:ByteArray):lT F a b=nV F (pd F) F.n (kj b a (a.length:Int) 0 []):=by kernel_rfl
def yC:Any:=.one ⟨apw,bJ,1,fun x=>lT F0 x.1 x.2.1⟩
def KT:bw 67 yC:=aM vV ⟨fQ,HC,trivial⟩ func67 vW (by kernel_rfl)
def KU:=[(25,E1),(67,yC),(70,IH)]
def sW (r:cN):=cE KU F ad f22 yX bJ 1 (r,())
def Vs (r:cN):sW F r=(wX F0 r.2.2.2.1.2.2.2).bind fun a=>(Gr F0 r).bind fun b=>(lT F0 [r.1,r.2.1,r.2.2.2.1.1,r.2.2.2.1.2.1,r.2.2.2.1.2.2.1.1,a.1,b.1] (ByteArray.mk #[32])).bind fun c=>some (c.1,()):=by kernel_rfl
def uM:Any:=.one ⟨yX,bJ,1,fun x=>sW F0 x.1⟩
def II:bw 22 uM:=aM KU ⟨QH,KT,Ys,trivial⟩ func22 ad (by kernel_rfl)
def mR:=[(22,uM),(66,ea)]
def mS:Nat->Option Hint:=look [(3,{live:=[1,3,7,8,9],xl:=[1,3],rl:=[2]})]
def jY (f:ByteArray)(g:List cN)(h i w a:Int)(b:List Int)(c:List cN)(d:List fi)(e:List et):= hD 33 [de 1,(3,C9 f),(7,x0 42 (dU) g),(8,cD h),(9,cD i)] [(1,[aw w,aw a,.ro false 3 (.int .i64) b,.ro false 42 (dU) c,.ro false 95 (tn) d,.ro false 91 (iV) e])] []
def z6 (f:ByteArray)(w a:Int)(b:List Int)(c:List cN)(d:List fi)(e:List et):= hD 33 [de 1,(3,C9 f)] [(1,[aw w,aw a,.ro false 3 (.int .i64) b,.ro false 42 (dU) c,.ro false 95 (tn) d,.ro false 91 (iV) e])] []
def mT (a:St):Option U:=hl mR F mS [.r,.r,.l,.r,.b,.i] f13 J n a
def pB:=p9 mR F mS [.r,.r,.l,.r,.b] f13 bJ 1
def tO (b:ByteArray)(c:List cN)(j a w d:Int)(e:List Int)(f:List cN)(g:List fi)(h:List et):mT F J (n+1) (jY b c j a w d e f g h)=br (decide (a<j)) (ck (b5 a (c.length:Int)) ((sW F0 (bd c a dU.aI)).bind fun i=>ck (gy F i.1.size (ByteArray.mk #[10]).size) (ck (gy F b.size (i.1++(ByteArray.mk #[10])).size) (mT F J n (jY (b++(i.1++(ByteArray.mk #[10]))) c j (ak (a+1)) w d e f g h))))) (J (.exit 0) (z6 b w d e f g h)):=by kernel_rfl
def KV (a:ByteArray)(w f:Int)(g:List Int)(h:List cN)(d:List fi)(e:List et):pB F (.exit 0) (z6 a w f g h d e)=ck (gy F a.size (ByteArray.mk #[110,101,116,32]).size) ((cy F0 (d.length:Int)).bind fun b=>ck (gy F (a++(ByteArray.mk #[110,101,116,32])).size b.1.size) (ck (gy F ((a++(ByteArray.mk #[110,101,116,32]))++b.1).size (ByteArray.mk #[32,115,97,105,100,32]).size) ((cy F0 (e.length:Int)).bind fun c=>ck (gy F (((a++(ByteArray.mk #[110,101,116,32]))++b.1)++(ByteArray.mk #[32,115,97,105,100,32])).size c.1.size) (ck (gy F ((((a++(ByteArray.mk #[110,101,116,32]))++b.1)++(ByteArray.mk #[32,115,97,105,100,32]))++c.1).size (ByteArray.mk #[10]).size) (some (((((a++(ByteArray.mk #[110,101,116,32]))++b.1)++(ByteArray.mk #[32,115,97,105,100,32]))++c.1)++(ByteArray.mk #[10]),())))))):=by kernel_rfl
def sX (w:tv):=cE mR F mS f13 fL bJ 1 (w,())
def QI (w:tv):sX F w=mT F (pB F) F.n (jY ah w.2.2.1 (w.2.2.1.length:Int) 0 w.1.1 w.1.2 w.2.1 w.2.2.1 w.2.2.2.1 w.2.2.2.2):=by kernel_rfl
def CH:Any:=.one ⟨fL,bJ,1,fun x=>sX F0 x.1⟩
def QJ:bw 13 CH:=aM mR ⟨II,fQ,trivial⟩ func13 mS (by kernel_rfl)
def KW:=[(67,yC)]
def gQ (s:List Int):=cE KW F ad f14 qc bJ 1 (s,())
def Vt (s:List Int):gQ F s=(lT F0 s (ByteArray.mk #[44])).bind fun a=>ck (gy F (ByteArray.mk #[123]).size a.1.size) (ck (gy F ((ByteArray.mk #[123])++a.1).size (ByteArray.mk #[125]).size) (some (((ByteArray.mk #[123])++a.1)++(ByteArray.mk #[125]),()))):=by kernel_rfl
def mU:Any:=.one ⟨qc,bJ,1,fun x=>gQ F0 x.1⟩
def yD:bw 14 mU:=aM KW ⟨KT,trivial⟩ func14 ad (by kernel_rfl)
def sY:=[(68,cF)]
def sZ:Nat->Option Hint:=look [(3,{live:=[0,3,4],xl:=[3],rl:=[2]})]
def iP (s:List Int)(a:ByteArray)(i:Int):= dG 24 [(0,x0 3 (.int .i64) s),(3,C9 a),(4,cD i)]
def Ev (a:ByteArray):= dG 24 [(3,C9 a)]
def lU (a:St):Option U:=hl sY F sZ [.r,.r,.l,.r,.b,.i] f15 J n a
def uN:=p9 sY F sZ [.r,.r,.l,.r,.b] f15 bJ 1
def z7 (s:List Int)(a:ByteArray)(i:Int):lU F J (n+1) (iP s a i)=br (decide (i<(s.length:Int))) (br (decide (i>0)) (ck (gy F a.size (ByteArray.mk #[44]).size) (ck (b5 i (s.length:Int)) ((bB F0 (bd s i 0)).bind fun b=>ck (gy F (a++(ByteArray.mk #[44])).size b.1.size) (lU F J n (iP s ((a++(ByteArray.mk #[44]))++b.1) (ak (i+1))))))) (ck (b5 i (s.length:Int)) ((bB F0 (bd s i 0)).bind fun b=>ck (gy F a.size b.1.size) (lU F J n (iP s (a++b.1) (ak (i+1))))))) (J (.exit 0) (Ev a)):=by kernel_rfl
def OM (a:ByteArray):uN F (.exit 0) (Ev a)=ck (gy F a.size (ByteArray.mk #[125]).size) (some (a++(ByteArray.mk #[125]),())):=by kernel_rfl
def gR (s:List Int):=cE sY F sZ f15 qc bJ 1 (s,())
def Vu (s:List Int):gR F s=lU F (uN F) F.n (iP s (ByteArray.mk #[123]) 0):=by kernel_rfl
def mV:Any:=.one ⟨qc,bJ,1,fun x=>gR F0 x.1⟩
def yE:bw 15 mV:=aM sY ⟨dk,trivial⟩ func15 sZ (by kernel_rfl)
def NI:=[(14,mU),(66,ea)]
def Ew (q:D9):=cE NI F ad f16 iW bJ 1 (q,())
def Yt (q:D9):Ew F q=br (q.2.1.toList==ah.toList) ((cy F0 q.1).bind fun a=>ck (gy F a.1.size (ByteArray.mk #[32]).size) (ck (gy F (a.1++(ByteArray.mk #[32])).size (ByteArray.mk #[115,116,97,114,116]).size) (ck (gy F ((a.1++(ByteArray.mk #[32]))++(ByteArray.mk #[115,116,97,114,116])).size (ByteArray.mk #[32]).size) ((gQ F0 q.2.2).bind fun b=>ck (gy F (((a.1++(ByteArray.mk #[32]))++(ByteArray.mk #[115,116,97,114,116]))++(ByteArray.mk #[32])).size b.1.size) (some ((((a.1++(ByteArray.mk #[32]))++(ByteArray.mk #[115,116,97,114,116]))++(ByteArray.mk #[32]))++b.1,())))))) ((cy F0 q.1).bind fun a=>ck (gy F a.1.size (ByteArray.mk #[32]).size) (ck (gy F (a.1++(ByteArray.mk #[32])).size q.2.1.size) (ck (gy F ((a.1++(ByteArray.mk #[32]))++q.2.1).size (ByteArray.mk #[32]).size) ((gQ F0 q.2.2).bind fun b=>ck (gy F (((a.1++(ByteArray.mk #[32]))++q.2.1)++(ByteArray.mk #[32])).size b.1.size) (some ((((a.1++(ByteArray.mk #[32]))++q.2.1)++(ByteArray.mk #[32]))++b.1,())))))):=by kernel_rfl
def IJ:Any:=.one ⟨iW,bJ,1,fun x=>Ew F0 x.1⟩
def Yu:bw 16 IJ:=aM NI ⟨yD,fQ,trivial⟩ func16 ad (by kernel_rfl)
def NJ:=[(15,mV),(68,cF)]
def Ey (q:D9):=cE NJ F ad f17 iW bJ 1 (q,())
def Yv (q:D9):Ey F q=br (q.2.1.toList==ah.toList) ((bB F0 q.1).bind fun a=>ck (gy F a.1.size (ByteArray.mk #[32]).size) (ck (gy F (a.1++(ByteArray.mk #[32])).size (ByteArray.mk #[115,116,97,114,116]).size) (ck (gy F ((a.1++(ByteArray.mk #[32]))++(ByteArray.mk #[115,116,97,114,116])).size (ByteArray.mk #[32]).size) ((gR F0 q.2.2).bind fun b=>ck (gy F (((a.1++(ByteArray.mk #[32]))++(ByteArray.mk #[115,116,97,114,116]))++(ByteArray.mk #[32])).size b.1.size) (some ((((a.1++(ByteArray.mk #[32]))++(ByteArray.mk #[115,116,97,114,116]))++(ByteArray.mk #[32]))++b.1,())))))) ((bB F0 q.1).bind fun a=>ck (gy F a.1.size (ByteArray.mk #[32]).size) (ck (gy F (a.1++(ByteArray.mk #[32])).size q.2.1.size) (ck (gy F ((a.1++(ByteArray.mk #[32]))++q.2.1).size (ByteArray.mk #[32]).size) ((gR F0 q.2.2).bind fun b=>ck (gy F (((a.1++(ByteArray.mk #[32]))++q.2.1)++(ByteArray.mk #[32])).size b.1.size) (some ((((a.1++(ByteArray.mk #[32]))++q.2.1)++(ByteArray.mk #[32]))++b.1,())))))):=by kernel_rfl
def IK:Any:=.one ⟨iW,bJ,1,fun x=>Ey F0 x.1⟩
def Yw:bw 17 IK:=aM NJ ⟨yE,dk,trivial⟩ func17 ad (by kernel_rfl)
def IL:=[(14,mU),(66,ea)]
def vX (p:D9):=cE IL F ad f18 iW bJ 1 (p,())
def SB (p:D9):vX F p=br (p.2.1.toList==ah.toList) (ck (gy F (ByteArray.mk #[108,97,116,101]).size (ByteArray.mk #[32]).size) ((cy F0 p.1).bind fun a=>ck (gy F ((ByteArray.mk #[108,97,116,101])++(ByteArray.mk #[32])).size a.1.size) (ck (gy F (((ByteArray.mk #[108,97,116,101])++(ByteArray.mk #[32]))++a.1).size (ByteArray.mk #[32]).size) ((gQ F0 p.2.2).bind fun b=>ck (gy F ((((ByteArray.mk #[108,97,116,101])++(ByteArray.mk #[32]))++a.1)++(ByteArray.mk #[32])).size b.1.size) (some (((((ByteArray.mk #[108,97,116,101])++(ByteArray.mk #[32]))++a.1)++(ByteArray.mk #[32]))++b.1,())))))) (ck (gy F (ByteArray.mk #[118,111,116,101]).size (ByteArray.mk #[32]).size) ((cy F0 p.1).bind fun a=>ck (gy F ((ByteArray.mk #[118,111,116,101])++(ByteArray.mk #[32])).size a.1.size) (ck (gy F (((ByteArray.mk #[118,111,116,101])++(ByteArray.mk #[32]))++a.1).size (ByteArray.mk #[32]).size) ((gQ F0 p.2.2).bind fun b=>ck (gy F ((((ByteArray.mk #[118,111,116,101])++(ByteArray.mk #[32]))++a.1)++(ByteArray.mk #[32])).size b.1.size) (some (((((ByteArray.mk #[118,111,116,101])++(ByteArray.mk #[32]))++a.1)++(ByteArray.mk #[32]))++b.1,())))))):=by kernel_rfl
def Ez:Any:=.one ⟨iW,bJ,1,fun x=>vX F0 x.1⟩
def SC:bw 18 Ez:=aM IL ⟨yD,fQ,trivial⟩ func18 ad (by kernel_rfl)
def IM:=[(15,mV),(68,cF)]
def vY (p:D9):=cE IM F ad f19 iW bJ 1 (p,())
def SD (p:D9):vY F p=br (p.2.1.toList==ah.toList) (ck (gy F (ByteArray.mk #[108,97,116,101]).size (ByteArray.mk #[32]).size) ((bB F0 p.1).bind fun a=>ck (gy F ((ByteArray.mk #[108,97,116,101])++(ByteArray.mk #[32])).size a.1.size) (ck (gy F (((ByteArray.mk #[108,97,116,101])++(ByteArray.mk #[32]))++a.1).size (ByteArray.mk #[32]).size) ((gR F0 p.2.2).bind fun b=>ck (gy F ((((ByteArray.mk #[108,97,116,101])++(ByteArray.mk #[32]))++a.1)++(ByteArray.mk #[32])).size b.1.size) (some (((((ByteArray.mk #[108,97,116,101])++(ByteArray.mk #[32]))++a.1)++(ByteArray.mk #[32]))++b.1,())))))) (ck (gy F (ByteArray.mk #[118,111,116,101]).size (ByteArray.mk #[32]).size) ((bB F0 p.1).bind fun a=>ck (gy F ((ByteArray.mk #[118,111,116,101])++(ByteArray.mk #[32])).size a.1.size) (ck (gy F (((ByteArray.mk #[118,111,116,101])++(ByteArray.mk #[32]))++a.1).size (ByteArray.mk #[32]).size) ((gR F0 p.2.2).bind fun b=>ck (gy F ((((ByteArray.mk #[118,111,116,101])++(ByteArray.mk #[32]))++a.1)++(ByteArray.mk #[32])).size b.1.size) (some (((((ByteArray.mk #[118,111,116,101])++(ByteArray.mk #[32]))++a.1)++(ByteArray.mk #[32]))++b.1,())))))):=by kernel_rfl
def EA:Any:=.one ⟨iW,bJ,1,fun x=>vY F0 x.1⟩
def SE:bw 19 EA:=aM IM ⟨yE,dk,trivial⟩ func19 ad (by kernel_rfl)
def eP:=[(66,ea),(69,ud)]
def eQ:Nat->Option Hint:=look [(3,{live:=[1,3,9,10,11],mat:=[(3,9,.str)],xl:=[1,3],rl:=[2]}),(9,{live:=[3,25,26,27],xl:=[3],rl:=[2]})]
def hX (a:List Int)(b c:Int)(d:List ByteArray):= hD 39 [(3,.v (.c (.own 1000000 none))),(25,x0 3 (.int .i64) a),(26,cD b),(27,cD c)] [] [aJ 1000000 9 (.str) d]
def wY (a:List ByteArray):= hD 39 [(3,.v (.c (.own 1000000 none)))] [] [aJ 1000000 9 (.str) a]
def lg (a:St):Option U:=hl eP F eQ [.r,.r,.r,.r,.l,.r,.b,.i] f20 J n a
def nv:=p9 eP F eQ [.r,.r,.r,.r,.l,.r,.b] f20 bJ 1
def hY (b:List Int)(c d:Int)(l a:List Int)(e:List ByteArray):= hD 39 [de 1,(3,.v (.c (.own 1000000 none))),(9,x0 3 (.int .i64) b),(10,cD c),(11,cD d)] [(1,[.ro false 3 (.int .i64) l,.ro false 3 (.int .i64) a])] [aJ 1000000 9 (.str) e]
def wZ (l a:List Int)(b:List ByteArray):= hD 39 [de 1,(3,.v (.c (.own 1000000 none)))] [(1,[.ro false 3 (.int .i64) l,.ro false 3 (.int .i64) a])] [aJ 1000000 9 (.str) b]
def lh (a:St):Option U:=hl eP F eQ [.r,.r,.l,.r,.b,.i] f20 J n a
def nx:=p9 eP F eQ [.r,.r,.l,.r,.b] f20 bJ 1
def s0 (b:List Int)(d a:Int)(c:List ByteArray):lg F J (n+1) (hX b d a c)=br (decide (a<d)) (ck (b5 a (b.length:Int)) ((cy F0 (bd b a 0)).bind fun e=>ck (fc F c.length [e.1].length 16) (lg F J n (hX b d (ak (a+1)) (c++[e.1]))))) (J (.exit 2) (wY c)):=by kernel_rfl
def s3 (b:List Int)(e a:Int)(l d:List Int)(c:List ByteArray):lh F J (n+1) (hY b e a l d c)=br (decide (a<e)) (ck (b5 a (b.length:Int)) ((cy F0 (bd b a 0)).bind fun f=>ck (fc F c.length [f.1].length 16) (lh F J n (hY b e (ak (a+1)) l d (c++[f.1]))))) (J (.exit 0) (wZ l d c)):=by kernel_rfl
def I0 (a:List ByteArray):nv F (.exit 2) (wY a)=(strings_Join F0 a (ByteArray.mk #[32])).bind fun b=>some (b.1,()):=by kernel_rfl
def I1 (l a:List Int)(b:List ByteArray):nx F (.exit 0) (wZ l a b)=ck (fc F b.length [(ByteArray.mk #[47])].length 16) (lg F (nv F) F.n (hX a (a.length:Int) 0 (b++[(ByteArray.mk #[47])]))):=by kernel_rfl
def pe (l:D10):=cE eP F eQ f20 lD bJ 1 (l,())
def ON (l:D10):pe F l=lh F (nx F) F.n (hY l.1 (l.1.length:Int) 0 l.1 l.2 []):=by kernel_rfl
def z8:Any:=.one ⟨lD,bJ,1,fun x=>pe F0 x.1⟩
def OO:bw 20 z8:=aM eP ⟨fQ,HC,trivial⟩ func20 eQ (by kernel_rfl)
def eR:=[(68,cF)]
def eS:Nat->Option Hint:=look [(3,{live:=[1,3,4],xl:=[1,3],rl:=[2]}),(8,{live:=[1,3,5],xl:=[3],rl:=[2]})]
def hZ (b:ByteArray)(i:Int)(l a:List Int):= hD 41 [de 1,(3,C9 b),(5,cD i)] [(1,[.ro false 3 (.int .i64) l,.ro false 3 (.int .i64) a])] []
def w2 (a:ByteArray):= dG 41 [(3,C9 a)]
def lj (a:St):Option U:=hl eR F eS [.r,.r,.r,.r,.l,.r,.b,.i] f21 J n a
def ny:=p9 eR F eS [.r,.r,.r,.r,.l,.r,.b] f21 bJ 1
def h7 (b:ByteArray)(i:Int)(l a:List Int):= hD 41 [de 1,(3,C9 b),(4,cD i)] [(1,[.ro false 3 (.int .i64) l,.ro false 3 (.int .i64) a])] []
def w3 (b:ByteArray)(l a:List Int):= hD 41 [de 1,(3,C9 b)] [(1,[.ro false 3 (.int .i64) l,.ro false 3 (.int .i64) a])] []
def lk (a:St):Option U:=hl eR F eS [.r,.r,.l,.r,.b,.i] f21 J n a
def nz:=p9 eR F eS [.r,.r,.l,.r,.b] f21 bJ 1
def s4 (b:ByteArray)(i:Int)(l a:List Int):lj F J (n+1) (hZ b i l a)=br (decide (i<(a.length:Int))) (ck (gy F b.size (ByteArray.mk #[32]).size) (ck (b5 i (a.length:Int)) ((bB F0 (bd a i 0)).bind fun c=>ck (gy F (b++(ByteArray.mk #[32])).size c.1.size) (lj F J n (hZ ((b++(ByteArray.mk #[32]))++c.1) (ak (i+1)) l a))))) (J (.exit 2) (w2 b)):=by kernel_rfl
def s5 (a:ByteArray)(i:Int)(l b:List Int):lk F J (n+1) (h7 a i l b)=br (decide (i<(l.length:Int))) (ck (b5 i (l.length:Int)) ((bB F0 (bd l i 0)).bind fun c=>ck (gy F a.size c.1.size) (ck (gy F (a++c.1).size (ByteArray.mk #[32]).size) (lk F J n (h7 ((a++c.1)++(ByteArray.mk #[32])) (ak (i+1)) l b))))) (J (.exit 0) (w3 a l b)):=by kernel_rfl
def I2 (a:ByteArray):ny F (.exit 2) (w2 a)=some (a,()):=by kernel_rfl
def I3 (a:ByteArray)(l b:List Int):nz F (.exit 0) (w3 a l b)=ck (gy F a.size (ByteArray.mk #[47]).size) (lj F (ny F) F.n (hZ (a++(ByteArray.mk #[47])) 0 l b)):=by kernel_rfl
def pf (l:D10):=cE eR F eS f21 lD bJ 1 (l,())
def OP (l:D10):pf F l=lk F (nz F) F.n (h7 ah 0 l.1 l.2):=by kernel_rfl
def Aa:Any:=.one ⟨lD,bJ,1,fun x=>pf F0 x.1⟩
def OQ:bw 21 Aa:=aM eR ⟨dk,trivial⟩ func21 eS (by kernel_rfl)
def NK:=[(142,ij)]
def w4 (s:ByteArray):=cE NK F ad f71 bJ gg 1 (s,())
def Yx (s:ByteArray):w4 F s=(jy F0 s).bind fun a=>br (!a.2.1) (some (-1,())) (some ((a.1.length:Int),())):=by kernel_rfl
def IN:Any:=.one ⟨bJ,gg,1,fun x=>w4 F0 x.1⟩
def Yy:bw 71 IN:=aM NK ⟨nH,trivial⟩ func71 ad (by kernel_rfl)
def Gt (r:cN):=cE aN F ad f26 yX gg 1 (r,())
def adh (r:cN):Gt F r=some (ak ((ak ((r.2.2.2.2.1.length:Int)+(r.2.2.2.2.2.1.length:Int)))+(r.2.2.2.2.2.2.2.length:Int)),()):=by kernel_rfl
def E2:Any:=.one ⟨yX,gg,1,fun x=>Gt F0 x.1⟩
def QK:bw 26 E2:=aM aN trivial func26 ad (by kernel_rfl)
def s6:=[(26,E2),(68,cF),(71,IN)]
def s7:Nat->Option Hint:=look [(4,{live:=[3,4,5],xl:=[4],rl:=[2]})]
def iQ (a:ByteArray)(i:Int)(b:List Int):= hD 43 [(3,.v (.c (.own 1000000 none))),(4,C9 a),(5,cD i)] [] [aJ 1000000 3 (.int .i64) b]
def EB (a:ByteArray):= dG 43 [(4,C9 a)]
def lV (a:St):Option U:=hl s6 F s7 [.r,.r,.r,.l,.r,.b,.i] f23 J n a
def mW:=p9 s6 F s7 [.r,.r,.r,.l,.r,.b] f23 bJ 1
def Ab (a:ByteArray)(i:Int)(b:List Int):lV F J (n+1) (iQ a i b)=br (decide (i<(b.length:Int))) (ck (gy F a.size (ByteArray.mk #[32]).size) (ck (b5 i (b.length:Int)) ((bB F0 (bd b i 0)).bind fun c=>ck (gy F (a++(ByteArray.mk #[32])).size c.1.size) (lV F J n (iQ ((a++(ByteArray.mk #[32]))++c.1) (ak (i+1)) b))))) (J (.exit 0) (EB a)):=by kernel_rfl
def OR (a:ByteArray):mW F (.exit 0) (EB a)=some (a,()):=by kernel_rfl
def s8 (r:cN):=cE s6 F s7 f23 yX bJ 1 (r,())
def Vv (r:cN):s8 F r=(w4 F0 r.2.2.2.1.2.2.2).bind fun a=>(Gt F0 r).bind fun b=>(bB F0 r.1).bind fun c=>lV F (mW F) F.n (iQ c.1 0 [r.2.1,r.2.2.2.1.1,r.2.2.2.1.2.1,r.2.2.2.1.2.2.1.1,a.1,b.1]):=by kernel_rfl
def uO:Any:=.one ⟨yX,bJ,1,fun x=>s8 F0 x.1⟩
def IP:bw 23 uO:=aM s6 ⟨QK,dk,Yy,trivial⟩ func23 s7 (by kernel_rfl)
def mX:=[(23,uO),(68,cF)]
def mY:Nat->Option Hint:=look [(3,{live:=[1,3,4],xl:=[1,3],rl:=[2]})]
def jZ (f:ByteArray)(i w a:Int)(b:List Int)(c:List cN)(d:List fi)(e:List et):= hD 35 [de 1,(3,C9 f),(4,cD i)] [(1,[aw w,aw a,.ro false 3 (.int .i64) b,.ro false 42 (dU) c,.ro false 95 (tn) d,.ro false 91 (iV) e])] []
def Ac (f:ByteArray)(w a:Int)(b:List Int)(c:List cN)(d:List fi)(e:List et):= hD 35 [de 1,(3,C9 f)] [(1,[aw w,aw a,.ro false 3 (.int .i64) b,.ro false 42 (dU) c,.ro false 95 (tn) d,.ro false 91 (iV) e])] []
def mZ (a:St):Option U:=hl mX F mY [.r,.r,.l,.r,.b,.i] f24 J n a
def pC:=p9 mX F mY [.r,.r,.l,.r,.b] f24 bJ 1
def tP (b:ByteArray)(i w c:Int)(d:List Int)(a:List cN)(e:List fi)(f:List et):mZ F J (n+1) (jZ b i w c d a e f)=br (decide (i<(a.length:Int))) (ck (b5 i (a.length:Int)) ((s8 F0 (bd a i dU.aI)).bind fun g=>ck (gy F b.size g.1.size) (ck (gy F (b++g.1).size (ByteArray.mk #[10]).size) (mZ F J n (jZ ((b++g.1)++(ByteArray.mk #[10])) (ak (i+1)) w c d a e f))))) (J (.exit 0) (Ac b w c d a e f)):=by kernel_rfl
def KX (a:ByteArray)(w f:Int)(g:List Int)(h:List cN)(d:List fi)(e:List et):pC F (.exit 0) (Ac a w f g h d e)=ck (gy F a.size (ByteArray.mk #[110,101,116,32]).size) ((bB F0 (d.length:Int)).bind fun b=>ck (gy F (a++(ByteArray.mk #[110,101,116,32])).size b.1.size) (ck (gy F ((a++(ByteArray.mk #[110,101,116,32]))++b.1).size (ByteArray.mk #[32,115,97,105,100,32]).size) ((bB F0 (e.length:Int)).bind fun c=>ck (gy F (((a++(ByteArray.mk #[110,101,116,32]))++b.1)++(ByteArray.mk #[32,115,97,105,100,32])).size c.1.size) (ck (gy F ((((a++(ByteArray.mk #[110,101,116,32]))++b.1)++(ByteArray.mk #[32,115,97,105,100,32]))++c.1).size (ByteArray.mk #[10]).size) (some (((((a++(ByteArray.mk #[110,101,116,32]))++b.1)++(ByteArray.mk #[32,115,97,105,100,32]))++c.1)++(ByteArray.mk #[10]),())))))):=by kernel_rfl
def s9 (w:tv):=cE mX F mY f24 fL bJ 1 (w,())
def QL (w:tv):s9 F w=mZ F (pC F) F.n (jZ ah 0 w.1.1 w.1.2 w.2.1 w.2.2.1 w.2.2.2.1 w.2.2.2.2):=by kernel_rfl
def CI:Any:=.one ⟨fL,bJ,1,fun x=>s9 F0 x.1⟩
def QM:bw 24 CI:=aM mX ⟨IP,dk,trivial⟩ func24 mY (by kernel_rfl)
def KY:=[(6,PS),(7,wm),(8,yL),(9,tA),(10,pS),(11,wU),(12,sR),(13,CH),(14,mU),(15,mV),(16,IJ),(17,IK),(18,Ez),(19,EA),(20,z8),(21,Aa),(22,uM),(23,uO),(24,CI),(25,E1),(26,E2)]
def A9 (a:List Int):=cE KY F ad f3 j6 b3 1 (a,())
def Vw (a:List Int):A9 F a=(W0 F0 a).bind fun i=>br i.1 (some (true,())) ((mc F0 a).bind fun d=>(oh F0 a).bind fun e=>(kQ F0 a).bind fun f=>(hH F0 a).bind fun g=>(mP F0 a).bind fun c=>(jW F0 a).bind fun h=>(sX F0 h.1).bind fun b=>(gQ F0 d.1).bind fun j=>(gR F0 d.1).bind fun k=>br (!(j.1.toList==k.1.toList)) (some (false,())) ((Ew F0 e.1).bind fun l=>(Ey F0 e.1).bind fun m=>br (!(l.1.toList==m.1.toList)) (some (false,())) ((vX F0 f.1).bind fun o=>(vY F0 f.1).bind fun p=>br (!(o.1.toList==p.1.toList)) (some (false,())) ((pe F0 g.1).bind fun q=>(pf F0 g.1).bind fun r=>br (!(q.1.toList==r.1.toList)) (some (false,())) ((sW F0 c.1).bind fun s=>(s8 F0 c.1).bind fun t=>br (!(s.1.toList==t.1.toList)) (some (false,())) ((s9 F0 h.1).bind fun u=>br (!(b.1.toList==u.1.toList)) (some (false,())) ((Gr F0 c.1).bind fun v=>(Gt F0 c.1).bind fun w=>br (v.1 != w.1) (some (false,())) (br (decide ((b.1.size:Int)>0)) (ck (b5 (ak ((b.1.size:Int)-1)) (b.1.size:Int)) (some ((gf b.1 (ak ((b.1.size:Int)-1)))==10,()))) (some (false,())))))))))):=by kernel_rfl
def SF:Any:=.one ⟨j6,b3,1,fun x=>A9 F0 x.1⟩
def Vx:bw 3 SF:=aM KY ⟨aeO,L9,Om,JS,G0,Mr,IZ,QJ,yD,yE,Yu,Yw,SC,SE,OO,OQ,II,IP,QM,QH,QK,trivial⟩ func3 ad (by kernel_rfl)
end
end Go.Am.Tryz
