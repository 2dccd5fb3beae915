/- No condition. -/
import Derived.Test.YtpkabclplaibaaaGreatDoorQwYJG4
set_option linter.all false
set_option maxRecDepth 100000
namespace Go.Am.Tryz
open Go.Am Go.Proofs Go.Proofs.Tryz
noncomputable section
variable {U:Type} (F:nY) (J:Ex->St->Option U) (n:Nat)
def o3:=[(97,cl),(98,av),(121,bN),(200,e4)]
def o4:Nat->Option Hint:=look [(3,{live:=[0,3,4],xl:=[0,3],rl:=[2]})]
def kQ (i:Int)(a:List Int)(b c:Int)(d:List Int):St:={nt:=31,tm:=[(0,.v (.c (.ptr 4000000 0))),(3,.v (.c (.own 1000000 none))),(4,bd i)],bx:=[(4000000,[.ro true 5 (.int .u8) a,aq b,aq c])],bl:=[aF 1000000 5 (.int .u8) d],sp:=.v (.c (.ptr 4000000 0))}
def pV (a:List Int)(b c:Int)(d:List Int):St:={nt:=31,tm:=[(0,.v (.c (.ptr 4000000 0))),(3,.v (.c (.own 1000000 none)))],bx:=[(4000000,[.ro true 5 (.int .u8) a,aq b,aq c])],bl:=[aF 1000000 5 (.int .u8) d],sp:=.v (.c (.ptr 4000000 0))}
def o5 (a:St):Option U:=ek o3 F o4 [.r,.r,.l,.r,.b,.i] f195 J n a
def kR:=Lo o3 F o4 [.r,.r,.l,.r,.b] f195 .cur iY bs 2
def zb (i:Int)(d:List Int)(e f:Int)(c:List Int):o5 F J (n+1) (kQ i d e f c)=(af F0 (d,e,f) 4).bind fun a=>br (decide (i<a.1.1)) ((aZ F0 a.2.1 [0,1,127,128,300,2147483647]).bind fun b=>(dx F0 b.1.1).bind fun g=>ck (dV F c.length g.1.length 1) (o5 F J n (kQ (al (i+1)) b.2.1.1 b.2.1.2.1 b.2.1.2.2 (c++g.1)))) (J (.exit 0) (pV a.2.1.1 a.2.1.2.1 a.2.1.2.2 c)):=by kernel_rfl
def Tc (e:List Int)(f g:Int)(a:List Int):kR F (.exit 0) (pV e f g a)=(c7 F0 (e,f,g) 3).bind fun b=>br b.1.1 ((aZ F0 b.2.1 [0,128,255]).bind fun c=>(af F0 c.2.1 3).bind fun d=>ck (dV F a.length [IntKind.wrap .u8 (c.1.1),IntKind.wrap .u8 (d.1.1)].length 1) (some ((a++[IntKind.wrap .u8 (c.1.1),IntKind.wrap .u8 (d.1.1)],()),d.2.1,()))) (some ((a,()),b.2.1,())):=by kernel_rfl
def uW (c:D2):=fJ o3 F o4 f195 bs 0 .cur iY bs 2 (c,())
def aaf (c:D2):uW F c=o5 F (kR F) F.n (kQ 0 c.1 c.2.1 c.2.2 []):=by kernel_rfl
def GU:Any:=.two ⟨bs,0,.cur,iY,2,bs,fun x=>uW F0 x.1⟩
def aag:bb 195 GU:=jh o3 ⟨c0,ay,b6,iy,trivial⟩ func195 o4 (by kernel_rfl)
def UY:=[(98,av),(121,bN),(195,GU)]
def Ii (c:D2):=fJ UY F ad f131 bs 0 .cur wh bs 2 (c,())
def aip (c:D2):Ii F c=(uW F0 c).bind fun a=>ck (dV F 0 a.1.1.length 1) ((af F0 a.2.1 (al ((([]++a.1.1).length:Int)+1))).bind fun e=>(af F0 e.2.1 12).bind fun b=>br (b.1.1==0) ((aZ F0 b.2.1 [(-1),99]).bind fun f=>some ((([]++a.1.1,f.1.1),()),f.2.1,())) (br (b.1.1==1) ((af F0 b.2.1 2).bind fun d=>ck (okM F (al (100000+d.1.1)) (al (100000+d.1.1)) 1) (some (((List.replicate (al (100000+d.1.1)).toNat 0,e.1.1),()),d.2.1,()))) (some ((([]++a.1.1,e.1.1),()),b.2.1,())))):=by kernel_rfl
def Pt:Any:=.two ⟨bs,0,.cur,wh,2,bs,fun x=>Ii F0 x.1⟩
def aiq:bb 131 Pt:=jh UY ⟨ay,b6,aag,trivial⟩ func131 ad (by kernel_rfl)
def GV:=[(98,av),(122,oH),(123,ds),(125,iS),(186,cT),(187,nD),(205,pT)]
def o6 (c:D2)(a:D1):=fJ GV F ad f196 wc 0 .cur oK bs 2 (c,a,())
def UZ (c:D2)(b:D1):o6 F c b=(af F0 c 4).bind fun a=>br (a.1.1==0) ((lC F0 a.2.1 b).bind fun e=>some (((1,0,e.1.1,(0,aj,[]),(0,aj,[]),0,0,0,0,0),()),e.2.1,())) (br (a.1.1==1) ((gx F0 a.2.1 b).bind fun d=>br (d.1.1.2.1.toList==aj.toList) ((e2 F0 aj 1 []).bind fun k=>some (((2,0,(aj,0,aj,[]),(1,k.1,d.1.1.2.2),(0,aj,[]),0,0,0,0,0),()),d.2.1,())) (some (((2,0,(aj,0,aj,[]),d.1.1,(0,aj,[]),0,0,0,0,0),()),d.2.1,()))) (br (a.1.1==2) ((af F0 a.2.1 6).bind fun f=>(dG F0 f.2.1).bind fun g=>(n2 F0 g.2.1 b g.1.1).bind fun h=>(af F0 h.2.1 b.1).bind fun i=>some (((3,al (1+f.1.1),(aj,0,aj,[]),(0,aj,[]),h.1.1,i.1.1,0,0,0,0),()),i.2.1,())) ((c3 F0 a.2.1).bind fun j=>some (((4,0,(aj,0,aj,[]),(0,aj,[]),(0,aj,[]),0,j.1.1),()),j.2.1,())))):=by kernel_rfl
def Bq:Any:=.two ⟨wc,0,.cur,oK,2,bs,fun x=>o6 F0 x.1 x.2.1⟩
def U0:bb 196 Bq:=jh GV ⟨ay,B1,eX,pH,dO,x2,GS,trivial⟩ func196 ad (by kernel_rfl)
def U1:=[(62,B2),(98,av),(121,bN),(192,F2),(196,Bq)]
def rX (c:D2)(a:D1):=fJ U1 F ad f132 wc 0 .cur oK bs 2 (c,a,())
def air (c:D2)(d:D1):rX F c d=(o6 F0 c d).bind fun a=>(af F0 a.2.1 12).bind fun b=>br (b.1.1==0) ((af F0 b.2.1 7).bind fun e=>some (((al (e.1.1-1),a.1.1.2),()),e.2.1,())) (br (b.1.1==1) ((aZ F0 b.2.1 [(-1),0,61]).bind fun f=>some (((a.1.1.1,f.1.1,a.1.1.2.2),()),f.2.1,())) (br (b.1.1==2) ((aZ F0 b.2.1 [(-1),7]).bind fun g=>some (((a.1.1.1,a.1.1.2.1,a.1.1.2.2.1,a.1.1.2.2.2.1,a.1.1.2.2.2.2.1,g.1.1,a.1.1.2.2.2.2.2.2),()),g.2.1,())) (br (b.1.1==3) ((x5 F0 b.2.1 d).bind fun h=>some (((a.1.1.1,a.1.1.2.1,a.1.1.2.2.1,h.1.1,a.1.1.2.2.2.2),()),h.2.1,())) (br (b.1.1==4) ((EZ F0 b.2.1).bind fun i=>some (((a.1.1.1,a.1.1.2.1,a.1.1.2.2.1,a.1.1.2.2.2.1,a.1.1.2.2.2.2.1,a.1.1.2.2.2.2.2.1,i.1.1),()),i.2.1,())) (some ((a.1.1,()),b.2.1,())))))):=by kernel_rfl
def rY:Any:=.two ⟨wc,0,.cur,oK,2,bs,fun x=>rX F0 x.1 x.2.1⟩
def F4:bb 132 rY:=jh U1 ⟨RJ,ay,b6,UU,U0,trivial⟩ func132 ad (by kernel_rfl)
def U2:=[(98,av),(121,bN),(127,Bn),(128,Pp),(129,SA),(130,Bp),(131,Pt),(132,rY)]
def U3:Nat->Option Hint:=look [(999998,{live:=[125]}),(900018,{live:=[],mat:=[(5,125,w5)]})]
def Ij (c:D2):=fJ U2 F U3 f64 bs 0 .cur Lp bs 1 (c,())
def ais (c:D2):Ij F c=(o1 F0 c).bind fun a=>(af F0 a.2.1 16).bind fun b=>br (b.1.1==0) ((aZ F0 b.2.1 [(-1),0,3,7]).bind fun f=>some ((a.1.1,(f.1.1,a.1.2.1.2),()),f.2.1,())) (br (b.1.1==1) ((aZ F0 b.2.1 [0,1,60,61]).bind fun g=>some ((a.1.1,(a.1.2.1.1,g.1.1,a.1.2.1.2.2),()),g.2.1,())) (br (b.1.1==2) ((aZ F0 b.2.1 [(-1),0,60,61]).bind fun h=>some ((a.1.1,(a.1.2.1.1,a.1.2.1.2.1,h.1.1,a.1.2.1.2.2.2),()),h.2.1,())) (br (b.1.1==3) ((Ih F0 b.2.1 a.1.1).bind fun i=>some ((a.1.1,(a.1.2.1.1,a.1.2.1.2.1,a.1.2.1.2.2.1,i.1.1,a.1.2.1.2.2.2.2),()),i.2.1,())) (br (b.1.1==4) ((MC F0 b.2.1).bind fun j=>some ((a.1.1,(a.1.2.1.1,a.1.2.1.2.1,a.1.2.1.2.2.1,a.1.2.1.2.2.2.1,j.1.1,a.1.2.1.2.2.2.2.2),()),j.2.1,())) (br (b.1.1==5) ((o2 F0 b.2.1 a.1.1).bind fun k=>some ((a.1.1,(a.1.2.1.1,a.1.2.1.2.1,a.1.2.1.2.2.1,a.1.2.1.2.2.2.1,a.1.2.1.2.2.2.2.1,k.1.1,a.1.2.1.2.2.2.2.2.2),()),k.2.1,())) (br (b.1.1==6) ((Ii F0 b.2.1).bind fun l=>some ((a.1.1,(a.1.2.1.1,a.1.2.1.2.1,a.1.2.1.2.2.1,a.1.2.1.2.2.2.1,a.1.2.1.2.2.2.2.1,a.1.2.1.2.2.2.2.2.1,l.1.1,a.1.2.1.2.2.2.2.2.2.2),()),l.2.1,())) (br (b.1.1==7) ((af F0 b.2.1 5).bind fun d=>(rX F0 d.2.1 a.1.1).bind fun e=>ck (dV F a.1.2.1.2.2.2.2.2.2.2.length [(d.1.1,e.1.1)].length 224) (some ((a.1.1,(a.1.2.1.1,a.1.2.1.2.1,a.1.2.1.2.2.1,a.1.2.1.2.2.2.1,a.1.2.1.2.2.2.2.1,a.1.2.1.2.2.2.2.2.1,a.1.2.1.2.2.2.2.2.2.1,a.1.2.1.2.2.2.2.2.2.2++[(d.1.1,e.1.1)]),()),e.2.1,()))) (some ((a.1.1,a.1.2.1,()),b.2.1,()))))))))):=by kernel_rfl
def Pu:Any:=.two ⟨bs,0,.cur,Lp,1,bs,fun x=>Ij F0 x.1⟩
def ait:bb 64 Pu:=jh U2 ⟨ay,b6,UR,aio,alM,UX,aiq,F4,trivial⟩ func64 U3 (by kernel_rfl)
def MD:=[(61,Gu),(98,av),(121,bN)]
def nN (c:D2):=fJ MD F ad f96 bs 0 .cur Gt bs 1 (c,())
def aah (c:D2):nN F c=(tN F0 c).bind fun b=>(af F0 b.2.1 12).bind fun a=>br (a.1.1==0) ((aZ F0 a.2.1 [0,3,8,(-1)]).bind fun d=>some (((d.1.1,b.1.1.2),()),d.2.1,())) (br (a.1.1==1) ((aZ F0 a.2.1 [0,6,7]).bind fun e=>some (((b.1.1.1,e.1.1),()),e.2.1,())) (some ((b.1.1,()),a.2.1,()))):=by kernel_rfl
def sT:Any:=.two ⟨bs,0,.cur,Gt,1,bs,fun x=>nN F0 x.1⟩
def Ki:bb 96 sT:=jh MD ⟨ZW,ay,b6,trivial⟩ func96 ad (by kernel_rfl)
def mH:=[(98,av),(119,b7),(123,ds)]
def mI:Nat->Option Hint:=look [(3,{live:=[0,3,4],xl:=[3],rl:=[2]})]
def j3 (i:Int)(a:List Int)(b c:Int)(d:List bK):St:={nt:=25,tm:=[(0,.v (.c (.ptr 4000000 0))),(3,.v (.c (.own 1000000 none))),(4,bd i)],bx:=[(4000000,[.ro true 5 (.int .u8) a,aq b,aq c])],bl:=[aF 1000000 91 cA d],sp:=.v (.c (.ptr 4000000 0))}
def Br (a:List Int)(b c:Int)(d:List bK):St:={nt:=25,tm:=[(3,.v (.c (.own 1000000 none)))],bx:=[(4000000,[.ro true 5 (.int .u8) a,aq b,aq c])],bl:=[aF 1000000 91 cA d],sp:=.v (.c (.ptr 4000000 0))}
def mJ (a:St):Option U:=ek mH F mI [.r,.r,.l,.r,.b,.i] f135 J n a
def pW:=Lo mH F mI [.r,.r,.l,.r,.b] f135 .cur alz bs 2
def wA (i:Int)(e:List Int)(f g:Int)(d:List bK):mJ F J (n+1) (j3 i e f g d)=(af F0 (e,f,g) 8).bind fun a=>br (decide (i<a.1.1)) ((dG F0 a.2.1).bind fun c=>(cr F0 c.1.1).bind fun h=>(af F0 c.2.1 4).bind fun b=>ck (dV F d.length [(h.1,c.1.1,b.1.1)].length 32) (mJ F J n (j3 (al (i+1)) b.2.1.1 b.2.1.2.1 b.2.1.2.2 (d++[(h.1,c.1.1,b.1.1)])))) (J (.exit 0) (Br a.2.1.1 a.2.1.2.1 a.2.1.2.2 d)):=by kernel_rfl
def zs (a:List Int)(b c:Int)(d:List bK):pW F (.exit 0) (Br a b c d)=some ((d,()),(a,b,c),()):=by kernel_rfl
def rZ (c:D2):=fJ mH F mI f135 bs 0 .cur alz bs 2 (c,())
def Xy (c:D2):rZ F c=mJ F (pW F) F.n (j3 0 c.1 c.2.1 c.2.2 []):=by kernel_rfl
def E0:Any:=.two ⟨bs,0,.cur,alz,2,bs,fun x=>rZ F0 x.1⟩
def Xz:bb 135 E0:=jh mH ⟨ay,cL,eX,trivial⟩ func135 mI (by kernel_rfl)
def U4:=[(58,iq),(64,Pu),(96,sT),(98,av),(132,rY),(133,ot),(134,yS),(135,E0),(136,ow)]
def r0 (c:D2):=fJ U4 F ad f65 bs 0 .cur fc bs 1 (c,())
def aiu (c:D2):r0 F c=(jY F0 c).bind fun a=>(af F0 a.2.1 20).bind fun b=>br (b.1.1==0) ((nN F0 b.2.1).bind fun f=>some (((f.1.1,a.1.1.2),()),f.2.1,())) (br (b.1.1==1) ((il F0 b.2.1 4).bind fun g=>some (((a.1.1.1,g.1.1,a.1.1.2.2),()),g.2.1,())) (br (b.1.1==2) ((Ij F0 b.2.1).bind fun h=>ck (bG 0 (a.1.1.2.2.1.length:Int)) (some (((a.1.1.1,a.1.1.2.1,a.1.1.2.2.1.set (0:Int).toNat h.1.2.1,a.1.1.2.2.2),()),h.2.1,()))) (br (b.1.1==3) ((af F0 b.2.1 8).bind fun d=>(rX F0 d.2.1 a.1.1.1).bind fun i=>(tj F0 a.1.1.1 i.1.1).bind fun j=>ck (dV F a.1.1.2.2.2.1.length [(al (d.1.1-1),j.1)].length 32) (some (((a.1.1.1,a.1.1.2.1,a.1.1.2.2.1,a.1.1.2.2.2.1++[(al (d.1.1-1),j.1)],a.1.1.2.2.2.2),()),i.2.1,()))) (br (b.1.1==4) ((rZ F0 b.2.1).bind fun e=>ck (dV F a.1.1.2.2.2.2.length e.1.1.length 32) (some (((a.1.1.1,a.1.1.2.1,a.1.1.2.2.1,a.1.1.2.2.2.1,a.1.1.2.2.2.2++e.1.1),()),e.2.1,()))) (br (b.1.1==5) ((j1 F0 b.2.1 a.1.1.1).bind fun k=>ck (bG 1 (a.1.1.2.2.1.length:Int)) (some (((a.1.1.1,a.1.1.2.1,a.1.1.2.2.1.set (1:Int).toNat ((aL a.1.1.2.2.1 1 ca.az).1,(aL a.1.1.2.2.1 1 ca.az).2.1,(aL a.1.1.2.2.1 1 ca.az).2.2.1,k.1.1,(aL a.1.1.2.2.1 1 ca.az).2.2.2.2),a.1.1.2.2.2),()),k.2.1,()))) (br (b.1.1==6) (ck (okT (al ((a.1.1.2.2.1.length:Int)-1)) (a.1.1.2.2.1.length:Int)) (some (((a.1.1.1,a.1.1.2.1,a.1.1.2.2.1.take (al ((a.1.1.2.2.1.length:Int)-1)).toNat,a.1.1.2.2.2),()),b.2.1,()))) (some ((a.1.1,()),b.2.1,())))))))):=by kernel_rfl
def r1:Any:=.two ⟨bs,0,.cur,fc,1,bs,fun x=>r0 F0 x.1⟩
def F5:bb 65 r1:=jh U4 ⟨oE,ait,Ki,ay,F4,EW,Pc,Xz,EX,trivial⟩ func65 ad (by kernel_rfl)
def acx:=[(276,LA)]
def vB (s:ByteArray)(a:Int):=bL acx F ad f211 X4 atU 1 (s,a,())
def aok (s:ByteArray)(a:Int):vB F s a=(strings_Split F0 s (strOf [a])).bind fun b=>some (b.1,()):=by kernel_rfl
def Kj:Any:=.one ⟨X4,atU,1,fun x=>vB F0 x.1 x.2.1⟩
def YR:bb 211 Kj:=aC acx ⟨aeb,trivial⟩ func211 ad (by kernel_rfl)
def YS:=[(137,Ou)]
def ma (a:Int):=bL YS F ad f66 dq df 1 (a,())
def alN (a:Int):ma F a=(strconv_Itoa F0 a).bind fun b=>some (b.1,()):=by kernel_rfl
def F6:Any:=.one ⟨dq,df,1,fun x=>ma F0 x.1⟩
def U5:bb 66 F6:=aC YS ⟨ahs,trivial⟩ func66 ad (by kernel_rfl)
end
end Go.Am.Tryz
namespace Go.Am.Tryz
open Go.Am Go.Proofs Go.Proofs.Tryz
noncomputable section
variable {U:Type} (F:nY) (J:Ex->St->Option U) (n:Nat)
def DL:=[(66,F6)]
def DM:Nat->Option Hint:=look [(5,{live:=[0,4,5],xl:=[0,4],rl:=[2,3]})]
def uX (s:ByteArray)(a i:Int):= bD 43 [(0,ZU s),(4,bd a),(5,bd i)]
def F7 (a:Int)(b:Bool):= bD 43 [(2,bd a),(3,ED b)]
def Pv (s:ByteArray)(a:Int):= bD 43 [(0,ZU s),(4,bd a)]
def DN (a:St):Option U:=ek DL F DM [.r,.r,.r,.l,.r,.b,.i] f213 J n a
def uY:=iR DL F DM [.r,.r,.r,.l,.r,.b] f213 apC 1
def Kk (s:ByteArray)(a i:Int):DN F J (n+1) (uX s a i)=br (decide (i<(s.size:Int))) (ck (bG i (s.size:Int)) (br (decide ((ij s i)<48)) (J .ret (F7 0 false)) (ck (bG i (s.size:Int)) (br (decide ((ij s i)>57)) (J .ret (F7 0 false)) (ck (bG i (s.size:Int)) (DN F J n (uX s (al ((al (10*a))+(al (IntKind.wrap .u8 ((ij s i)-48))))) (al (i+1))))))))) (J (.exit 0) (Pv s a)):=by kernel_rfl
def aeO (a:Int)(b:Bool):uY F .ret (F7 a b)=some (a,b,()):=by kernel_rfl
def acy (s:ByteArray)(a:Int):uY F (.exit 0) (Pv s a)=(ma F0 a).bind fun b=>br (!(b.1.toList==s.toList)) (some (0,false,())) (some (a,true,())):=by kernel_rfl
def mb (s:ByteArray):=bL DL F DM f213 df apC 1 (s,())
def alO (s:ByteArray):mb F s=br (decide ((s.size:Int)<1)) (some (0,false,())) (br (decide ((s.size:Int)>6)) (some (0,false,())) (DN F (uY F) F.n (uX s 0 0))):=by kernel_rfl
def F8:Any:=.one ⟨df,apC,1,fun x=>mb F0 x.1⟩
def U6:bb 213 F8:=aC DL ⟨U5,trivial⟩ func213 DM (by kernel_rfl)
def bw (a low high:Int):=bL ax F ad f93 ayN aM 1 (a,low,high,())
def alP (a low high:Int):bw F a low high=br (decide (a>=low)) (some (decide (a<=high),())) (some (false,())):=by kernel_rfl
def b9:Any:=.one ⟨ayN,aM,1,fun x=>bw F0 x.1 x.2.1 x.2.2.1⟩
def cM:bb 93 b9:=aC ax trivial func93 ad (by kernel_rfl)
def agO:=[(93,b9)]
def wB (x:D4):=bL agO F ad f228 Rx aM 1 (x,())
def arT (x:D4):wB F x=(bw F0 x.1 0 3).bind fun a=>br a.1 ((bw F0 x.2.1 0 3).bind fun b=>br b.1 ((bw F0 x.2.2.1 0 1000).bind fun c=>br c.1 ((bw F0 x.2.2.2 0 99).bind fun d=>some (d.1,())) (some (false,()))) (some (false,()))) (some (false,())):=by kernel_rfl
def oc:Any:=.one ⟨Rx,aM,1,fun x=>wB F0 x.1⟩
def zv:bb 228 oc:=aC agO ⟨cM,trivial⟩ func228 ad (by kernel_rfl)
def YT:=[(66,F6),(228,oc)]
def ME (x:D4):=bL YT F ad f312 Rx df 1 (x,())
def alQ (x:D4):ME F x=(wB F0 x).bind fun e=>br (!e.1) (some (aj,())) ((ma F0 x.1).bind fun a=>ck (Ru F a.1.size (ByteArray.mk #[62]).size) ((ma F0 x.2.1).bind fun b=>ck (Ru F (a.1++(ByteArray.mk #[62])).size b.1.size) (ck (Ru F ((a.1++(ByteArray.mk #[62]))++b.1).size (ByteArray.mk #[58]).size) ((ma F0 x.2.2.1).bind fun c=>ck (Ru F (((a.1++(ByteArray.mk #[62]))++b.1)++(ByteArray.mk #[58])).size c.1.size) (ck (Ru F ((((a.1++(ByteArray.mk #[62]))++b.1)++(ByteArray.mk #[58]))++c.1).size (ByteArray.mk #[35]).size) ((ma F0 x.2.2.2).bind fun d=>ck (Ru F (((((a.1++(ByteArray.mk #[62]))++b.1)++(ByteArray.mk #[58]))++c.1)++(ByteArray.mk #[35])).size d.1.size) (some ((((((a.1++(ByteArray.mk #[62]))++b.1)++(ByteArray.mk #[58]))++c.1)++(ByteArray.mk #[35]))++d.1,())))))))):=by kernel_rfl
def SB:Any:=.one ⟨Rx,df,1,fun x=>ME F0 x.1⟩
def alR:bb 312 SB:=aC YT ⟨U5,zv,trivial⟩ func312 ad (by kernel_rfl)
def agP:=[(212,FC),(213,F8),(228,oc),(312,SB)]
def WS (s:ByteArray):=bL agP F ad f278 df ayO 1 (s,())
def arU (s:ByteArray):WS F0 s=(strings_Cut F0 s (ByteArray.mk #[62])).bind fun b=>(strings_Cut F0 b.2.1 (ByteArray.mk #[58])).bind fun c=>(strings_Cut F0 c.2.1 (ByteArray.mk #[35])).bind fun a=>ck (bG 0 4) ((mb F0 (aL [b.1,c.1,a.1,a.2.1] 0 ByteArray.empty)).bind fun d=>ck (bG 1 4) ((mb F0 (aL [b.1,c.1,a.1,a.2.1] 1 ByteArray.empty)).bind fun e=>ck (bG 2 4) ((mb F0 (aL [b.1,c.1,a.1,a.2.1] 2 ByteArray.empty)).bind fun f=>ck (bG 3 4) ((mb F0 (aL [b.1,c.1,a.1,a.2.1] 3 ByteArray.empty)).bind fun g=>(wB F0 (d.1,e.1,f.1,g.1)).bind fun h=>br (!h.1) (some ((0,0,0,0),false,())) ((ME F0 (d.1,e.1,f.1,g.1)).bind fun i=>br (!(i.1.toList==s.toList)) (some ((0,0,0,0),false,())) (some ((d.1,e.1,f.1,g.1),true,()))))))):=by kernel_rfl
def YU:Any:=.one ⟨df,ayO,1,fun x=>WS F0 x.1⟩
def arV:bb 278 YU:=aC agP ⟨T1,U6,zv,alR,trivial⟩ func278 ad (by kernel_rfl)
def Ik:=[(211,Kj),(278,YU)]
def Il:Nat->Option Hint:=look [(5,{live:=[4,12,13,14],mat:=[(4,99,K4)],xl:=[4],rl:=[2,3]})]
def zJ (a:List ByteArray)(b c:Int)(d:List D4):= dN 31 [(4,.v (.c (.own 1000000 none))),(12,.v (.c (.ro true 9 (.str) a))),(13,bd b),(14,bd c)] [] [aF 1000000 99 K4 d]
def U7 (a:Bool):= bD 31 [(2,.v (.c (.nil))),(3,ED a)]
def SC (a:List D4):= dN 31 [(4,.v (.c (.own 1000000 none)))] [] [aF 1000000 99 K4 a]
def Im (a:St):Option U:=ek Ik F Il [.r,.r,.r,.l,.r,.b,.i] f214 J n a
def zU:=iR Ik F Il [.r,.r,.r,.l,.r,.b] f214 abQ 2
def MF (b:List ByteArray)(e a:Int)(c:List D4):Im F J (n+1) (zJ b e a c)=br (decide (a<e)) (ck (bG a (b.length:Int)) ((WS F0 (aL b a ByteArray.empty)).bind fun d=>br (!d.2.1) (J .ret (U7 false)) (ck (dV F c.length [d.1].length 32) (Im F J n (zJ b e (al (a+1)) (c++[d.1])))))) (J (.exit 0) (SC c)):=by kernel_rfl
def aiv (a:Bool):zU F .ret (U7 a)=some ([],a,()):=by kernel_rfl
def aeP (a:List D4):zU F (.exit 0) (SC a)=some (a,true,()):=by kernel_rfl
def Kl (s:ByteArray):=bL Ik F Il f214 df abQ 2 (s,())
def aol (s:ByteArray):Kl F s=br (s.toList==aj.toList) (some ([],true,())) ((vB F0 s 44).bind fun a=>Im F (zU F) F.n (zJ a.1 (a.1.length:Int) 0 [])):=by kernel_rfl
def U8:Any:=.one ⟨df,abQ,2,fun x=>Kl F0 x.1⟩
def aom:bb 214 U8:=aC Ik ⟨YR,arV,trivial⟩ func214 Il (by kernel_rfl)
def Io:=[(93,b9),(211,Kj),(212,FC),(213,F8),(214,U8)]
def Ip:Nat->Option Hint:=look [(9,{live:=[5,6,31,32,33],mat:=[(5,163,K6)],xl:=[5],rl:=[2,3]})]
def zV (a:Int)(b:List ByteArray)(c d:Int)(e:List D6):= dN 84 [(5,.v (.c (.own 1000000 none))),(6,bd a),(31,.v (.c (.ro true 9 (.str) b))),(32,bd c),(33,bd d)] [] [aF 1000000 163 K6 e]
def lD (a:Bool):= bD 84 [(2,.v (.c (.nil))),(3,ED a)]
def SD (a:List D6):= dN 84 [(5,.v (.c (.own 1000000 none)))] [] [aF 1000000 163 K6 a]
def Iq (a:St):Option U:=ek Io F Ip [.r,.r,.r,.r,.r,.r,.l,.r,.b,.i] f141 J n a
def z1:=iR Io F Ip [.r,.r,.r,.r,.r,.r,.l,.r,.b] f141 apD 2
def MG (h:Int)(d:List ByteArray)(g b:Int)(e:List D6):Iq F J (n+1) (zV h d g b e)=br (decide (b<g)) (ck (bG b (d.length:Int)) ((strings_Cut F0 (aL d b ByteArray.empty) (ByteArray.mk #[124])).bind fun f=>(mb F0 f.1).bind fun a=>(Kl F0 f.2.1).bind fun c=>br (!f.2.2.1) (J .ret (lD false)) (br (!a.2.1) (J .ret (lD false)) (br (!c.2.1) (J .ret (lD false)) ((bw F0 a.1 (al (h+1)) 60).bind fun i=>br (!i.1) (J .ret (lD false)) (br (decide ((c.1.length:Int)>2)) (J .ret (lD false)) (ck (dV F e.length [(a.1,c.1)].length 32) (Iq F J n (zV a.1 d g (al (b+1)) (e++[(a.1,c.1)])))))))))) (J (.exit 0) (SD e)):=by kernel_rfl
def aiw (a:Bool):z1 F .ret (lD a)=some ([],a,()):=by kernel_rfl
def aeQ (a:List D6):z1 F (.exit 0) (SD a)=some (a,true,()):=by kernel_rfl
def Cs (s:ByteArray):=bL Io F Ip f141 df apD 2 (s,())
def aon (s:ByteArray):Cs F s=br (s.toList==aj.toList) (some ([],true,())) ((vB F0 s 47).bind fun a=>ck (bG 0 (a.1.length:Int)) (br (!((aL a.1 0 ByteArray.empty).toList==aj.toList)) (some ([],false,())) (br (decide ((al ((a.1.length:Int)-1))>30)) (some ([],false,())) (ck (Qw 1 (a.1.length:Int) (a.1.length:Int)) (Iq F (z1 F) F.n (zV 0 ((a.1.take (a.1.length:Int).toNat).drop (1:Int).toNat) (((a.1.take (a.1.length:Int).toNat).drop (1:Int).toNat).length:Int) 0 [])))))):=by kernel_rfl
def z6:Any:=.one ⟨df,apD,2,fun x=>Cs F0 x.1⟩
def NW:bb 141 z6:=aC Io ⟨cM,YR,T1,U6,aom,trivial⟩ func141 Ip (by kernel_rfl)
def YV:=[(93,b9)]
def gh (c:D1):=bL YV F ad f89 Gt aM 1 (c,())
def alS (c:D1):gh F c=(bw F0 c.1 4 7).bind fun a=>br a.1 ((bw F0 c.2 1 6).bind fun b=>some (b.1,())) (some (false,())):=by kernel_rfl
def ee:Any:=.one ⟨Gt,aM,1,fun x=>gh F0 x.1⟩
def gi:bb 89 ee:=aC YV ⟨cM,trivial⟩ func89 ad (by kernel_rfl)
end
end Go.Am.Tryz
