/- No condition. -/
import Derived.Test.YtpkabclplaibaaaGreatDoorQjYJG4
set_option linter.all false
set_option maxRecDepth 100000
namespace Go.Am.Tryz
open Go.Am Go.Proofs Go.Proofs.Tryz
noncomputable section
variable {U:Type} (F:nP) (J:Ex->St->Option U) (n:Nat)
def oy:=[(97,cA),(98,av),(121,bH),(200,e1)]
def oz:Nat->Option Hint:=look [(3,{live:=[0,3,4],xl:=[0,3],rl:=[2]})]
def kI (i:Int)(a:List Int)(b c:Int)(d:List Int):St:={nt:=31,tm:=[(0,.v (.c (.ptr 4000000 0))),(3,.v (.c (.own 1000000 none))),(4,a7 i)],bx:=[(4000000,[.ro true 5 (.int .u8) a,ar b,ar c])],bl:=[aP 1000000 5 (.int .u8) d],sp:=.v (.c (.ptr 4000000 0))}
def pf (a:List Int)(b c:Int)(d:List Int):St:={nt:=31,tm:=[(0,.v (.c (.ptr 4000000 0))),(3,.v (.c (.own 1000000 none)))],bx:=[(4000000,[.ro true 5 (.int .u8) a,ar b,ar c])],bl:=[aP 1000000 5 (.int .u8) d],sp:=.v (.c (.ptr 4000000 0))}
def oA (a:St):Option U:=eo oy F oz [.r,.r,.l,.r,.b,.i] f195 J n a
def kJ:=L7 oy F oz [.r,.r,.l,.r,.b] f195 .cur uv bn 2
def x9 (i:Int)(d:List Int)(e f:Int)(c:List Int):oA F J (n+1) (kI i d e f c)=(af F0 (d,e,f) 4).bind fun a=>br (decide (i<a.1.1)) ((aU F0 a.2.1 [0,1,127,128,300,2147483647]).bind fun b=>(dv F0 b.1.1).bind fun g=>ck (fA F c.length g.1.length 1) (oA F J n (kI (ak (i+1)) b.2.1.1 b.2.1.2.1 b.2.1.2.2 (c++g.1)))) (J (.exit 0) (pf a.2.1.1 a.2.1.2.1 a.2.1.2.2 c)):=by kernel_rfl
def Q1 (e:List Int)(f g:Int)(a:List Int):kJ F (.exit 0) (pf e f g a)=(dm F0 (e,f,g) 3).bind fun b=>br b.1.1 ((aU F0 b.2.1 [0,128,255]).bind fun c=>(af F0 c.2.1 3).bind fun d=>ck (fA F a.length [IntKind.wrap .u8 (c.1.1),IntKind.wrap .u8 (d.1.1)].length 1) (some ((a++[IntKind.wrap .u8 (c.1.1),IntKind.wrap .u8 (d.1.1)],()),d.2.1,()))) (some ((a,()),b.2.1,())):=by kernel_rfl
def tR (c:D2):=fR oy F oz f195 bn 0 .cur uv bn 2 (c,())
def XZ (c:D2):tR F c=oA F (kJ F) F.n (kI 0 c.1 c.2.1 c.2.2 []):=by kernel_rfl
def Ft:Any:=.two ⟨bn,0,.cur,uv,2,bn,fun x=>tR F0 x.1⟩
def X0:a8 195 Ft:=jy oy ⟨dp,aA,bU,ih,trivial⟩ func195 oz (by kernel_rfl)
def SR:=[(98,av),(121,bH),(195,Ft)]
def GR (c:D2):=fR SR F ab f131 bn 0 .cur E5 bn 2 (c,())
def afG (c:D2):GR F c=(tR F0 c).bind fun a=>ck (fA F 0 a.1.1.length 1) ((af F0 a.2.1 (ak ((([]++a.1.1).length:Int)+1))).bind fun e=>(af F0 e.2.1 12).bind fun b=>br (b.1.1==0) ((aU F0 b.2.1 [(-1),99]).bind fun f=>some ((([]++a.1.1,f.1.1),()),f.2.1,())) (br (b.1.1==1) ((af F0 b.2.1 2).bind fun d=>ck (okM F (ak (100000+d.1.1)) (ak (100000+d.1.1)) 1) (some (((List.replicate (ak (100000+d.1.1)).toNat 0,e.1.1),()),d.2.1,()))) (some ((([]++a.1.1,e.1.1),()),b.2.1,())))):=by kernel_rfl
def Nz:Any:=.two ⟨bn,0,.cur,E5,2,bn,fun x=>GR F0 x.1⟩
def afH:a8 131 Nz:=jy SR ⟨aA,bU,X0,trivial⟩ func131 ab (by kernel_rfl)
def Fu:=[(98,av),(122,n5),(123,dq),(125,iK),(186,cM),(187,mY),(205,pd)]
def oB (c:D2)(a:D1):=fR Fu F ab f196 zs 0 .cur u3 bn 2 (c,a,())
def SS (c:D2)(b:D1):oB F c b=(af F0 c 4).bind fun a=>br (a.1.1==0) ((lr F0 a.2.1 b).bind fun e=>some (((1,0,e.1.1,(0,ai,[]),(0,ai,[]),0,0,0,0,0),()),e.2.1,())) (br (a.1.1==1) ((gk F0 a.2.1 b).bind fun d=>br (d.1.1.2.1.toList==ai.toList) ((eY F0 ai 1 []).bind fun k=>some (((2,0,(ai,0,ai,[]),(1,k.1,d.1.1.2.2),(0,ai,[]),0,0,0,0,0),()),d.2.1,())) (some (((2,0,(ai,0,ai,[]),d.1.1,(0,ai,[]),0,0,0,0,0),()),d.2.1,()))) (br (a.1.1==2) ((af F0 a.2.1 6).bind fun f=>(dD F0 f.2.1).bind fun g=>(nD F0 g.2.1 b g.1.1).bind fun h=>(af F0 h.2.1 b.1).bind fun i=>some (((3,ak (1+f.1.1),(ai,0,ai,[]),(0,ai,[]),h.1.1,i.1.1,0,0,0,0),()),i.2.1,())) ((cZ F0 a.2.1).bind fun j=>some (((4,0,(ai,0,ai,[]),(0,ai,[]),(0,ai,[]),0,j.1.1),()),j.2.1,())))):=by kernel_rfl
def Ab:Any:=.two ⟨zs,0,.cur,u3,2,bn,fun x=>oB F0 x.1 x.2.1⟩
def SU:a8 196 Ab:=jy Fu ⟨aA,AJ,eT,o0,dI,vR,Fs,trivial⟩ func196 ab (by kernel_rfl)
def SV:=[(62,AK),(98,av),(121,bH),(192,EE),(196,Ab)]
def ya (c:D2)(a:D1):=fR SV F ab f132 zs 0 .cur u3 bn 2 (c,a,())
def afI (c:D2)(d:D1):ya F c d=(oB F0 c d).bind fun a=>(af F0 a.2.1 12).bind fun b=>br (b.1.1==0) ((af F0 b.2.1 7).bind fun e=>some (((ak (e.1.1-1),a.1.1.2),()),e.2.1,())) (br (b.1.1==1) ((aU F0 b.2.1 [(-1),0,61]).bind fun f=>some (((a.1.1.1,f.1.1,a.1.1.2.2),()),f.2.1,())) (br (b.1.1==2) ((aU F0 b.2.1 [(-1),7]).bind fun g=>some (((a.1.1.1,a.1.1.2.1,a.1.1.2.2.1,a.1.1.2.2.2.1,a.1.1.2.2.2.2.1,g.1.1,a.1.1.2.2.2.2.2.2),()),g.2.1,())) (br (b.1.1==3) ((vU F0 b.2.1 d).bind fun h=>some (((a.1.1.1,a.1.1.2.1,a.1.1.2.2.1,h.1.1,a.1.1.2.2.2.2),()),h.2.1,())) (br (b.1.1==4) ((Dw F0 b.2.1).bind fun i=>some (((a.1.1.1,a.1.1.2.1,a.1.1.2.2.1,a.1.1.2.2.2.1,a.1.1.2.2.2.2.1,a.1.1.2.2.2.2.2.1,i.1.1),()),i.2.1,())) (some ((a.1.1,()),b.2.1,())))))):=by kernel_rfl
def Be:Any:=.two ⟨zs,0,.cur,u3,2,bn,fun x=>ya F0 x.1 x.2.1⟩
def Qw:a8 132 Be:=jy SV ⟨PI,aA,bU,SO,SU,trivial⟩ func132 ab (by kernel_rfl)
def SW:=[(98,av),(121,bH),(127,z7),(128,Nv),(129,Qv),(130,Aa),(131,Nz),(132,Be)]
def SX:Nat->Option Hint:=look [(999998,{live:=[125]}),(900018,{live:=[],mat:=[(5,125,RT)]})]
def GS (c:D2):=fR SW F SX f64 bn 0 .cur Gv bn 1 (c,())
def afJ (c:D2):GS F c=(ov F0 c).bind fun a=>(af F0 a.2.1 16).bind fun b=>br (b.1.1==0) ((aU F0 b.2.1 [(-1),0,3,7]).bind fun f=>some ((a.1.1,(f.1.1,a.1.2.1.2),()),f.2.1,())) (br (b.1.1==1) ((aU F0 b.2.1 [0,1,60,61]).bind fun g=>some ((a.1.1,(a.1.2.1.1,g.1.1,a.1.2.1.2.2),()),g.2.1,())) (br (b.1.1==2) ((aU F0 b.2.1 [(-1),0,60,61]).bind fun h=>some ((a.1.1,(a.1.2.1.1,a.1.2.1.2.1,h.1.1,a.1.2.1.2.2.2),()),h.2.1,())) (br (b.1.1==3) ((GQ F0 b.2.1 a.1.1).bind fun i=>some ((a.1.1,(a.1.2.1.1,a.1.2.1.2.1,a.1.2.1.2.2.1,i.1.1,a.1.2.1.2.2.2.2),()),i.2.1,())) (br (b.1.1==4) ((KU F0 b.2.1).bind fun j=>some ((a.1.1,(a.1.2.1.1,a.1.2.1.2.1,a.1.2.1.2.2.1,a.1.2.1.2.2.2.1,j.1.1,a.1.2.1.2.2.2.2.2),()),j.2.1,())) (br (b.1.1==5) ((ow F0 b.2.1 a.1.1).bind fun k=>some ((a.1.1,(a.1.2.1.1,a.1.2.1.2.1,a.1.2.1.2.2.1,a.1.2.1.2.2.2.1,a.1.2.1.2.2.2.2.1,k.1.1,a.1.2.1.2.2.2.2.2.2),()),k.2.1,())) (br (b.1.1==6) ((GR F0 b.2.1).bind fun l=>some ((a.1.1,(a.1.2.1.1,a.1.2.1.2.1,a.1.2.1.2.2.1,a.1.2.1.2.2.2.1,a.1.2.1.2.2.2.2.1,a.1.2.1.2.2.2.2.2.1,l.1.1,a.1.2.1.2.2.2.2.2.2.2),()),l.2.1,())) (br (b.1.1==7) ((af F0 b.2.1 5).bind fun d=>(ya F0 d.2.1 a.1.1).bind fun e=>ck (fA F a.1.2.1.2.2.2.2.2.2.2.length [(d.1.1,e.1.1)].length 224) (some ((a.1.1,(a.1.2.1.1,a.1.2.1.2.1,a.1.2.1.2.2.1,a.1.2.1.2.2.2.1,a.1.2.1.2.2.2.2.1,a.1.2.1.2.2.2.2.2.1,a.1.2.1.2.2.2.2.2.2.1,a.1.2.1.2.2.2.2.2.2.2++[(d.1.1,e.1.1)]),()),e.2.1,()))) (some ((a.1.1,a.1.2.1,()),b.2.1,()))))))))):=by kernel_rfl
def NA:Any:=.two ⟨bn,0,.cur,Gv,1,bn,fun x=>GS F0 x.1⟩
def afK:a8 64 NA:=jy SW ⟨aA,bU,SL,afF,aiR,SQ,afH,Qw,trivial⟩ func64 SX (by kernel_rfl)
def KV:=[(61,E0),(98,av),(121,bH)]
def tS (c:D2):=fR KV F ab f96 bn 0 .cur EZ bn 1 (c,())
def X1 (c:D2):tS F c=(sN F0 c).bind fun b=>(af F0 b.2.1 12).bind fun a=>br (a.1.1==0) ((aU F0 a.2.1 [0,3,8,(-1)]).bind fun d=>some (((d.1.1,b.1.1.2),()),d.2.1,())) (br (a.1.1==1) ((aU F0 a.2.1 [0,6,7]).bind fun e=>some (((b.1.1.1,e.1.1),()),e.2.1,())) (some ((b.1.1,()),a.2.1,()))):=by kernel_rfl
def Fv:Any:=.two ⟨bn,0,.cur,EZ,1,bn,fun x=>tS F0 x.1⟩
def X2:a8 96 Fv:=jy KV ⟨XF,aA,bU,trivial⟩ func96 ab (by kernel_rfl)
def mn:=[(98,av),(119,bV),(123,dq)]
def mo:Nat->Option Hint:=look [(3,{live:=[0,3,4],xl:=[3],rl:=[2]})]
def jP (i:Int)(a:List Int)(b c:Int)(d:List b3):St:={nt:=25,tm:=[(0,.v (.c (.ptr 4000000 0))),(3,.v (.c (.own 1000000 none))),(4,a7 i)],bx:=[(4000000,[.ro true 5 (.int .u8) a,ar b,ar c])],bl:=[aP 1000000 91 dC d],sp:=.v (.c (.ptr 4000000 0))}
def Ac (a:List Int)(b c:Int)(d:List b3):St:={nt:=25,tm:=[(3,.v (.c (.own 1000000 none)))],bx:=[(4000000,[.ro true 5 (.int .u8) a,ar b,ar c])],bl:=[aP 1000000 91 dC d],sp:=.v (.c (.ptr 4000000 0))}
def mq (a:St):Option U:=eo mn F mo [.r,.r,.l,.r,.b,.i] f135 J n a
def pg:=L7 mn F mo [.r,.r,.l,.r,.b] f135 .cur aqz bn 2
def vc (i:Int)(e:List Int)(f g:Int)(d:List b3):mq F J (n+1) (jP i e f g d)=(af F0 (e,f,g) 8).bind fun a=>br (decide (i<a.1.1)) ((dD F0 a.2.1).bind fun c=>(cc F0 c.1.1).bind fun h=>(af F0 c.2.1 4).bind fun b=>ck (fA F d.length [(h.1,c.1.1,b.1.1)].length 32) (mq F J n (jP (ak (i+1)) b.2.1.1 b.2.1.2.1 b.2.1.2.2 (d++[(h.1,c.1.1,b.1.1)])))) (J (.exit 0) (Ac a.2.1.1 a.2.1.2.1 a.2.1.2.2 d)):=by kernel_rfl
def yb (a:List Int)(b c:Int)(d:List b3):pg F (.exit 0) (Ac a b c d)=some ((d,()),(a,b,c),()):=by kernel_rfl
def rf (c:D2):=fR mn F mo f135 bn 0 .cur aqz bn 2 (c,())
def Ve (c:D2):rf F c=mq F (pg F) F.n (jP 0 c.1 c.2.1 c.2.2 []):=by kernel_rfl
def Dx:Any:=.two ⟨bn,0,.cur,aqz,2,bn,fun x=>rf F0 x.1⟩
def Vf:a8 135 Dx:=jy mn ⟨aA,cD,eT,trivial⟩ func135 mo (by kernel_rfl)
def SY:=[(58,l3),(64,NA),(96,Fv),(98,av),(132,Be),(133,nU),(134,w5),(135,Dx),(136,nX)]
def GU (c:D2):=fR SY F ab f65 bn 0 .cur eI bn 1 (c,())
def afL (c:D2):GU F c=(jK F0 c).bind fun a=>(af F0 a.2.1 20).bind fun b=>br (b.1.1==0) ((tS F0 b.2.1).bind fun f=>some (((f.1.1,a.1.1.2),()),f.2.1,())) (br (b.1.1==1) ((kT F0 b.2.1 4).bind fun g=>some (((a.1.1.1,g.1.1,a.1.1.2.2),()),g.2.1,())) (br (b.1.1==2) ((GS F0 b.2.1).bind fun h=>ck (bh 0 (a.1.1.2.2.1.length:Int)) (some (((a.1.1.1,a.1.1.2.1,a.1.1.2.2.1.set (0:Int).toNat h.1.2.1,a.1.1.2.2.2),()),h.2.1,()))) (br (b.1.1==3) ((af F0 b.2.1 8).bind fun d=>(ya F0 d.2.1 a.1.1.1).bind fun i=>(sn F0 a.1.1.1 i.1.1).bind fun j=>ck (fA F a.1.1.2.2.2.1.length [(ak (d.1.1-1),j.1)].length 32) (some (((a.1.1.1,a.1.1.2.1,a.1.1.2.2.1,a.1.1.2.2.2.1++[(ak (d.1.1-1),j.1)],a.1.1.2.2.2.2),()),i.2.1,()))) (br (b.1.1==4) ((rf F0 b.2.1).bind fun e=>ck (fA F a.1.1.2.2.2.2.length e.1.1.length 32) (some (((a.1.1.1,a.1.1.2.1,a.1.1.2.2.1,a.1.1.2.2.2.1,a.1.1.2.2.2.2++e.1.1),()),e.2.1,()))) (br (b.1.1==5) ((jN F0 b.2.1 a.1.1.1).bind fun k=>ck (bh 1 (a.1.1.2.2.1.length:Int)) (some (((a.1.1.1,a.1.1.2.1,a.1.1.2.2.1.set (1:Int).toNat ((aJ a.1.1.2.2.1 1 cC.aw).1,(aJ a.1.1.2.2.1 1 cC.aw).2.1,(aJ a.1.1.2.2.1 1 cC.aw).2.2.1,k.1.1,(aJ a.1.1.2.2.1 1 cC.aw).2.2.2.2),a.1.1.2.2.2),()),k.2.1,()))) (br (b.1.1==6) (ck (okT (ak ((a.1.1.2.2.1.length:Int)-1)) (a.1.1.2.2.1.length:Int)) (some (((a.1.1.1,a.1.1.2.1,a.1.1.2.2.1.take (ak ((a.1.1.2.2.1.length:Int)-1)).toNat,a.1.1.2.2.2),()),b.2.1,()))) (some ((a.1.1,()),b.2.1,())))))))):=by kernel_rfl
def NB:Any:=.two ⟨bn,0,.cur,eI,1,bn,fun x=>GU F0 x.1⟩
def afM:a8 65 NB:=jy SY ⟨vH,afK,X2,aA,Qw,Dt,Ni,Vf,Du,trivial⟩ func65 ab (by kernel_rfl)
def aad:=[(276,JS)]
def uD (s:ByteArray)(a:Int):=bM aad F ab f211 VT aqs 1 (s,a,())
def alj (s:ByteArray)(a:Int):uD F s a=(strings_Split F0 s (strOf [a])).bind fun b=>some (b.1,()):=by kernel_rfl
def IK:Any:=.one ⟨VT,aqs,1,fun x=>uD F0 x.1 x.2.1⟩
def WD:a8 211 IK:=aG aad ⟨abG,trivial⟩ func211 ab (by kernel_rfl)
def WE:=[(137,MC)]
def lU (a:Int):=bM WE F ab f66 c8 dc 1 (a,())
def aiS (a:Int):lU F a=(strconv_Itoa F0 a).bind fun b=>some (b.1,()):=by kernel_rfl
def EG:Any:=.one ⟨c8,dc,1,fun x=>lU F0 x.1⟩
def SZ:a8 66 EG:=aG WE ⟨aeJ,trivial⟩ func66 ab (by kernel_rfl)
end
end Go.Am.Tryz
namespace Go.Am.Tryz
open Go.Am Go.Proofs Go.Proofs.Tryz
noncomputable section
variable {U:Type} (F:nP) (J:Ex->St->Option U) (n:Nat)
def Cq:=[(66,EG)]
def Cr:Nat->Option Hint:=look [(5,{live:=[0,4,5],xl:=[0,4],rl:=[2,3]})]
def tT (s:ByteArray)(a i:Int):= bk 43 [(0,XD s),(4,a7 a),(5,a7 i)]
def EH (a:Int)(b:Bool):= bk 43 [(2,a7 a),(3,vE b)]
def NC (s:ByteArray)(a:Int):= bk 43 [(0,XD s),(4,a7 a)]
def Cs (a:St):Option U:=eo Cq F Cr [.r,.r,.r,.l,.r,.b,.i] f213 J n a
def tU:=jx Cq F Cr [.r,.r,.r,.l,.r,.b] f213 amu 1
def IL (s:ByteArray)(a i:Int):Cs F J (n+1) (tT s a i)=br (decide (i<(s.size:Int))) (ck (bh i (s.size:Int)) (br (decide ((kc s i)<48)) (J .ret (EH 0 false)) (ck (bh i (s.size:Int)) (br (decide ((kc s i)>57)) (J .ret (EH 0 false)) (ck (bh i (s.size:Int)) (Cs F J n (tT s (ak ((ak (10*a))+(ak (IntKind.wrap .u8 ((kc s i)-48))))) (ak (i+1))))))))) (J (.exit 0) (NC s a)):=by kernel_rfl
def aco (a:Int)(b:Bool):tU F .ret (EH a b)=some (a,b,()):=by kernel_rfl
def aae (s:ByteArray)(a:Int):tU F (.exit 0) (NC s a)=(lU F0 a).bind fun b=>br (!(b.1.toList==s.toList)) (some (0,false,())) (some (a,true,())):=by kernel_rfl
def lV (s:ByteArray):=bM Cq F Cr f213 dc amu 1 (s,())
def aiT (s:ByteArray):lV F s=br (decide ((s.size:Int)<1)) (some (0,false,())) (br (decide ((s.size:Int)>6)) (some (0,false,())) (Cs F (tU F) F.n (tT s 0 0))):=by kernel_rfl
def EI:Any:=.one ⟨dc,amu,1,fun x=>lV F0 x.1⟩
def S0:a8 213 EI:=aG Cq ⟨SZ,trivial⟩ func213 Cr (by kernel_rfl)
def bz (a low high:Int):=bM ax F ab f93 avh aI 1 (a,low,high,())
def aiU (a low high:Int):bz F a low high=br (decide (a>=low)) (some (decide (a<=high),())) (some (false,())):=by kernel_rfl
def b6:Any:=.one ⟨avh,aI,1,fun x=>bz F0 x.1 x.2.1 x.2.2.1⟩
def cV:a8 93 b6:=aG ax trivial func93 ab (by kernel_rfl)
def aea:=[(93,b6)]
def vd (x:D4):=bM aea F ab f228 Px aI 1 (x,())
def aoC (x:D4):vd F x=(bz F0 x.1 0 3).bind fun a=>br a.1 ((bz F0 x.2.1 0 3).bind fun b=>br b.1 ((bz F0 x.2.2.1 0 1000).bind fun c=>br c.1 ((bz F0 x.2.2.2 0 99).bind fun d=>some (d.1,())) (some (false,()))) (some (false,()))) (some (false,())):=by kernel_rfl
def nL:Any:=.one ⟨Px,aI,1,fun x=>vd F0 x.1⟩
def yc:a8 228 nL:=aG aea ⟨cV,trivial⟩ func228 ab (by kernel_rfl)
def WG:=[(66,EG),(228,nL)]
def KW (x:D4):=bM WG F ab f312 Px dc 1 (x,())
def aiV (x:D4):KW F x=(vd F0 x).bind fun e=>br (!e.1) (some (ai,())) ((lU F0 x.1).bind fun a=>ck (JH F a.1.size (ByteArray.mk #[62]).size) ((lU F0 x.2.1).bind fun b=>ck (JH F (a.1++(ByteArray.mk #[62])).size b.1.size) (ck (JH F ((a.1++(ByteArray.mk #[62]))++b.1).size (ByteArray.mk #[58]).size) ((lU F0 x.2.2.1).bind fun c=>ck (JH F (((a.1++(ByteArray.mk #[62]))++b.1)++(ByteArray.mk #[58])).size c.1.size) (ck (JH F ((((a.1++(ByteArray.mk #[62]))++b.1)++(ByteArray.mk #[58]))++c.1).size (ByteArray.mk #[35]).size) ((lU F0 x.2.2.2).bind fun d=>ck (JH F (((((a.1++(ByteArray.mk #[62]))++b.1)++(ByteArray.mk #[58]))++c.1)++(ByteArray.mk #[35])).size d.1.size) (some ((((((a.1++(ByteArray.mk #[62]))++b.1)++(ByteArray.mk #[58]))++c.1)++(ByteArray.mk #[35]))++d.1,())))))))):=by kernel_rfl
def Qx:Any:=.one ⟨Px,dc,1,fun x=>KW F0 x.1⟩
def aiW:a8 312 Qx:=aG WG ⟨SZ,yc,trivial⟩ func312 ab (by kernel_rfl)
def aeb:=[(212,Eh),(213,EI),(228,nL),(312,Qx)]
def Uy (s:ByteArray):=bM aeb F ab f278 dc avi 1 (s,())
def aoD (s:ByteArray):Uy F0 s=(strings_Cut F0 s (ByteArray.mk #[62])).bind fun b=>(strings_Cut F0 b.2.1 (ByteArray.mk #[58])).bind fun c=>(strings_Cut F0 c.2.1 (ByteArray.mk #[35])).bind fun a=>ck (bh 0 4) ((lV F0 (aJ [b.1,c.1,a.1,a.2.1] 0 ByteArray.empty)).bind fun d=>ck (bh 1 4) ((lV F0 (aJ [b.1,c.1,a.1,a.2.1] 1 ByteArray.empty)).bind fun e=>ck (bh 2 4) ((lV F0 (aJ [b.1,c.1,a.1,a.2.1] 2 ByteArray.empty)).bind fun f=>ck (bh 3 4) ((lV F0 (aJ [b.1,c.1,a.1,a.2.1] 3 ByteArray.empty)).bind fun g=>(vd F0 (d.1,e.1,f.1,g.1)).bind fun h=>br (!h.1) (some ((0,0,0,0),false,())) ((KW F0 (d.1,e.1,f.1,g.1)).bind fun i=>br (!(i.1.toList==s.toList)) (some ((0,0,0,0),false,())) (some ((d.1,e.1,f.1,g.1),true,()))))))):=by kernel_rfl
def WH:Any:=.one ⟨dc,avi,1,fun x=>Uy F0 x.1⟩
def aoE:a8 278 WH:=aG aeb ⟨RS,S0,yc,aiW,trivial⟩ func278 ab (by kernel_rfl)
def GV:=[(211,IK),(278,WH)]
def GW:Nat->Option Hint:=look [(5,{live:=[4,12,13,14],mat:=[(4,99,K4)],xl:=[4],rl:=[2,3]})]
def yd (a:List ByteArray)(b c:Int)(d:List D4):= ei 31 [(4,.v (.c (.own 1000000 none))),(12,.v (.c (.ro true 9 (.str) a))),(13,a7 b),(14,a7 c)] [] [aP 1000000 99 K4 d]
def S1 (a:Bool):= bk 31 [(2,.v (.c (.nil))),(3,vE a)]
def Qy (a:List D4):= ei 31 [(4,.v (.c (.own 1000000 none)))] [] [aP 1000000 99 K4 a]
def GX (a:St):Option U:=eo GV F GW [.r,.r,.r,.l,.r,.b,.i] f214 J n a
def ye:=jx GV F GW [.r,.r,.r,.l,.r,.b] f214 Zz 2
def KX (b:List ByteArray)(e a:Int)(c:List D4):GX F J (n+1) (yd b e a c)=br (decide (a<e)) (ck (bh a (b.length:Int)) ((Uy F0 (aJ b a ByteArray.empty)).bind fun d=>br (!d.2.1) (J .ret (S1 false)) (ck (fA F c.length [d.1].length 32) (GX F J n (yd b e (ak (a+1)) (c++[d.1])))))) (J (.exit 0) (Qy c)):=by kernel_rfl
def afN (a:Bool):ye F .ret (S1 a)=some ([],a,()):=by kernel_rfl
def acp (a:List D4):ye F (.exit 0) (Qy a)=some (a,true,()):=by kernel_rfl
def IM (s:ByteArray):=bM GV F GW f214 dc Zz 2 (s,())
def alk (s:ByteArray):IM F s=br (s.toList==ai.toList) (some ([],true,())) ((uD F0 s 44).bind fun a=>GX F (ye F) F.n (yd a.1 (a.1.length:Int) 0 [])):=by kernel_rfl
def S2:Any:=.one ⟨dc,Zz,2,fun x=>IM F0 x.1⟩
def alm:a8 214 S2:=aG GV ⟨WD,aoE,trivial⟩ func214 GW (by kernel_rfl)
def GY:=[(93,b6),(211,IK),(212,Eh),(213,EI),(214,S2)]
def GZ:Nat->Option Hint:=look [(9,{live:=[5,6,31,32,33],mat:=[(5,163,K6)],xl:=[5],rl:=[2,3]})]
def yf (a:Int)(b:List ByteArray)(c d:Int)(e:List D6):= ei 84 [(5,.v (.c (.own 1000000 none))),(6,a7 a),(31,.v (.c (.ro true 9 (.str) b))),(32,a7 c),(33,a7 d)] [] [aP 1000000 163 K6 e]
def lu (a:Bool):= bk 84 [(2,.v (.c (.nil))),(3,vE a)]
def Qz (a:List D6):= ei 84 [(5,.v (.c (.own 1000000 none)))] [] [aP 1000000 163 K6 a]
def G0 (a:St):Option U:=eo GY F GZ [.r,.r,.r,.r,.r,.r,.l,.r,.b,.i] f141 J n a
def yg:=jx GY F GZ [.r,.r,.r,.r,.r,.r,.l,.r,.b] f141 amv 2
def KY (h:Int)(d:List ByteArray)(g b:Int)(e:List D6):G0 F J (n+1) (yf h d g b e)=br (decide (b<g)) (ck (bh b (d.length:Int)) ((strings_Cut F0 (aJ d b ByteArray.empty) (ByteArray.mk #[124])).bind fun f=>(lV F0 f.1).bind fun a=>(IM F0 f.2.1).bind fun c=>br (!f.2.2.1) (J .ret (lu false)) (br (!a.2.1) (J .ret (lu false)) (br (!c.2.1) (J .ret (lu false)) ((bz F0 a.1 (ak (h+1)) 60).bind fun i=>br (!i.1) (J .ret (lu false)) (br (decide ((c.1.length:Int)>2)) (J .ret (lu false)) (ck (fA F e.length [(a.1,c.1)].length 32) (G0 F J n (yf a.1 d g (ak (b+1)) (e++[(a.1,c.1)])))))))))) (J (.exit 0) (Qz e)):=by kernel_rfl
def afO (a:Bool):yg F .ret (lu a)=some ([],a,()):=by kernel_rfl
def acq (a:List D6):yg F (.exit 0) (Qz a)=some (a,true,()):=by kernel_rfl
def Bf (s:ByteArray):=bM GY F GZ f141 dc amv 2 (s,())
def aln (s:ByteArray):Bf F s=br (s.toList==ai.toList) (some ([],true,())) ((uD F0 s 47).bind fun a=>ck (bh 0 (a.1.length:Int)) (br (!((aJ a.1 0 ByteArray.empty).toList==ai.toList)) (some ([],false,())) (br (decide ((ak ((a.1.length:Int)-1))>30)) (some ([],false,())) (ck (Oy 1 (a.1.length:Int) (a.1.length:Int)) (G0 F (yg F) F.n (yf 0 ((a.1.take (a.1.length:Int).toNat).drop (1:Int).toNat) (((a.1.take (a.1.length:Int).toNat).drop (1:Int).toNat).length:Int) 0 [])))))):=by kernel_rfl
def yh:Any:=.one ⟨dc,amv,2,fun x=>Bf F0 x.1⟩
def Me:a8 141 yh:=aG GY ⟨cV,WD,RS,S0,alm,trivial⟩ func141 GZ (by kernel_rfl)
def Uz (r:bL):=bM ax F ab f25 Wi c8 1 (r,())
def aoF (r:bL):Uz F r=some (ak ((ak ((r.2.2.2.2.1.length:Int)+(r.2.2.2.2.2.1.length:Int)))+(r.2.2.2.2.2.2.2.length:Int)),()):=by kernel_rfl
def WI:Any:=.one ⟨Wi,c8,1,fun x=>Uz F0 x.1⟩
def aoG:a8 25 WI:=aG ax trivial func25 ab (by kernel_rfl)
def UA (r:bL):=bM ax F ab f26 Wi c8 1 (r,())
def aoH (r:bL):UA F r=some (ak ((ak ((r.2.2.2.2.1.length:Int)+(r.2.2.2.2.2.1.length:Int)))+(r.2.2.2.2.2.2.2.length:Int)),()):=by kernel_rfl
def WJ:Any:=.one ⟨Wi,c8,1,fun x=>UA F0 x.1⟩
def aoI:a8 26 WJ:=aG ax trivial func26 ab (by kernel_rfl)
def Fw:=[(59,RU),(65,NB)]
def oC (a:List Int):=bM Fw F ab f27 uv eI 0 (a,())
def S3 (a:List Int):oC F a=(HT F0 a).bind fun b=>(GU F0 b.1.1).bind fun c=>some (c.1.1,()):=by kernel_rfl
def Ad:Any:=.one ⟨uv,eI,0,fun x=>oC F0 x.1⟩
def S4:a8 27 Ad:=aG Fw ⟨akW,afM,trivial⟩ func27 ab (by kernel_rfl)
def WK:=[(93,b6)]
def hR (c:D1):=bM WK F ab f89 EZ aI 1 (c,())
def aiX (c:D1):hR F c=(bz F0 c.1 4 7).bind fun a=>br a.1 ((bz F0 c.2 1 6).bind fun b=>some (b.1,())) (some (false,())):=by kernel_rfl
def e2:Any:=.one ⟨EZ,aI,1,fun x=>hR F0 x.1⟩
def il:a8 89 e2:=aG WK ⟨cV,trivial⟩ func89 ab (by kernel_rfl)
end
end Go.Am.Tryz
