/- No condition. -/
import Derived.Test.YtpkabclplaibaaaGreatDoorQhYJG1
set_option linter.all false
set_option maxRecDepth 100000
namespace Go.Am.Tryz
open Go.Am Go.Proofs Go.Proofs.Tryz
noncomputable section
variable {U:Type} (F:kk) (J:Ex->St->Option U) (n:Nat)
def rK:=[(254,kb),(255,pr)]
def rL:Nat->Option Hint:=look [(2,{live:=[1,2,5],xl:=[1],rl:=[4]})]
def il (b:List D9)(i c a:Int):= hD 39 [(1,x0 29 (K9) b),de 2,(5,cD i)] [(2,[aw c,aw a])] []
def uh (a:Bool):= dG 39 [(4,Uk a)]
def Ds (a:List D9):= dG 39 [(1,x0 29 (K9) a)]
def lI (a:St):Option U:=hl rK F rL [.r,.l,.r,.b,.i] f179 J n a
def mn:=p9 rK F rL [.r,.l,.r,.b] f179 b3 1
def yO (a:List D9)(i c b:Int):lI F J (n+1) (il a i c b)=br (decide (i<(a.length:Int))) (ck (b5 i (a.length:Int)) ((gD F0 (c,b) (bd a i K9.aI)).bind fun d=>br (!d.1) (J .ret (uh false)) (br (decide (i>0)) (ck (b5 (ak (i-1)) (a.length:Int)) (ck (b5 i (a.length:Int)) ((lH F0 (bd a (ak (i-1)) K9.aI) (bd a i K9.aI)).bind fun e=>br (!e.1) (J .ret (uh false)) (lI F J n (il a (ak (i+1)) c b))))) (lI F J n (il a (ak (i+1)) c b))))) (J (.exit 0) (Ds a)):=by kernel_rfl
def P5 (a:Bool):mn F .ret (uh a)=some (a,()):=by kernel_rfl
def On (a:List D9):mn F (.exit 0) (Ds a)=some (decide ((a.length:Int)<=20),()):=by kernel_rfl
def jE (c:D1)(a:D14):=cE rK F rL f179 [(K1,true),(K14,false)] b3 1 (c,a,())
def Ur (c:D1)(a:D14):jE F c a=lI F (mn F) F.n (il a 0 c.1 c.2):=by kernel_rfl
def ui:Any:=.one ⟨[(K1,true),(K14,false)],b3,1,fun x=>jE F0 x.1 x.2.1⟩
def HR:bw 179 ui:=aM rK ⟨rJ,Dq,trivial⟩ func179 rL (by kernel_rfl)
def M6:=[(117,bA)]
abbrev Dt:List (Ty×Bool):=[(K15,true)]
def jj (d:D15):=cE M6 F ad f180 Dt b3 1 (d,())
def Xr (d:D15):jj F d=br (decide ((d.1.length:Int)<=100000)) ((bn F0 d.2 0 (d.1.length:Int)).bind fun a=>some (a.1,())) (some (false,())):=by kernel_rfl
def kc:Any:=.one ⟨Dt,b3,1,fun x=>jj F0 x.1⟩
def rM:bw 180 kc:=aM M6 ⟨bX,trivial⟩ func180 ad (by kernel_rfl)
def vm:Nat->Option Hint:=look [(2,{live:=[0,1,5],xl:=[0,1],rl:=[4]})]
def ou (a b:List Int)(i:Int):= dG 32 [(0,x0 3 (.int .i64) a),(1,x0 3 (.int .i64) b),(5,cD i)]
def HS (a:Bool):= dG 32 [(4,Uk a)]
def uj (a b:List Int):= dG 32 [(0,x0 3 (.int .i64) a),(1,x0 3 (.int .i64) b)]
def vn (a:St):Option U:=hl aN F vm [.r,.l,.r,.b,.i] f287 J n a
def ov:=p9 aN F vm [.r,.l,.r,.b] f287 b3 1
def B6 (a b:List Int)(i:Int):vn F J (n+1) (ou a b i)=br (decide (i<(a.length:Int))) (br (decide (i<(b.length:Int))) (ck (b5 i (a.length:Int)) (ck (b5 i (b.length:Int)) (br ((bd a i 0) != (bd b i 0)) (J .ret (HS false)) (vn F J n (ou a b (ak (i+1))))))) (J (.exit 0) (uj a b))) (J (.exit 0) (uj a b)):=by kernel_rfl
def R2 (a:Bool):ov F .ret (HS a)=some (a,()):=by kernel_rfl
def P6 (a b:List Int):ov F (.exit 0) (uj a b)=some ((a.length:Int)==(b.length:Int),()):=by kernel_rfl
abbrev abe:List (Ty×Bool):=[(.sl 3 (.int .i64),false),(.sl 3 (.int .i64),false)]
def wA (a b:List Int):=cE aN F vm f287 abe b3 1 (a,b,())
def Xs (a b:List Int):wA F a b=vn F (ov F) F.n (ou a b 0):=by kernel_rfl
def yj:Any:=.one ⟨abe,b3,1,fun x=>wA F0 x.1 x.2.1⟩
def JV:bw 287 yj:=aM aN trivial func287 vm (by kernel_rfl)
def M7:=[(287,yj)]
def pU (a b:D9):=cE M7 F ad f236 M5 b3 1 (a,b,())
def Xt (a b:D9):pU F a b=br (a.1==b.1) (br (a.2.1.toList==b.2.1.toList) ((wA F0 a.2.2 b.2.2).bind fun c=>some (c.1,())) (some (false,()))) (some (false,())):=by kernel_rfl
def ow:Any:=.one ⟨M5,b3,1,fun x=>pU F0 x.1 x.2.1⟩
def B7:bw 236 ow:=aM M7 ⟨JV,trivial⟩ func236 ad (by kernel_rfl)
def FA:=[(236,ow)]
def rN (a b:D16):=cE FA F ad f245 [(K16,true),(K16,true)] b3 1 (a,b,())
def P7 (a b:D16):rN F a b=br (a.1.toList==b.1.toList) ((pU F0 a.2 b.2).bind fun c=>some (c.1,())) (some (false,())):=by kernel_rfl
def B8:Any:=.one ⟨[(K16,true),(K16,true)],b3,1,fun x=>rN F0 x.1 x.2.1⟩
def P8:bw 245 B8:=aM FA ⟨B7,trivial⟩ func245 ad (by kernel_rfl)
def JW:=[(287,yj)]
def Ay (a b:D9):=cE JW F ad f246 M5 b3 1 (a,b,())
def Us (a b:D9):Ay F a b=br (a.1==b.1) (br (a.2.1.toList==b.2.1.toList) ((wA F0 a.2.2 b.2.2).bind fun c=>some (c.1,())) (some (false,()))) (some (false,())):=by kernel_rfl
def FB:Any:=.one ⟨M5,b3,1,fun x=>Ay F0 x.1 x.2.1⟩
def Ut:bw 246 FB:=aM JW ⟨JV,trivial⟩ func246 ad (by kernel_rfl)
def JX:=[(236,ow),(245,B8),(246,FB)]
def gE (a b:WZ):=cE JX F ad f175 [(K22,true),(K22,true)] b3 1 (a,b,())
def Uu (a b:WZ):gE F a b=br (a.1==b.1) (br (a.2.1==b.2.1) ((rN F0 a.2.2.1 b.2.2.1).bind fun c=>br c.1 ((Ay F0 a.2.2.2.1 b.2.2.2.1).bind fun d=>br d.1 ((pU F0 a.2.2.2.2.1 b.2.2.2.2.1).bind fun e=>br e.1 (br (a.2.2.2.2.2.1==b.2.2.2.2.2.1) (some ((a.2.2.2.2.2.2.1==b.2.2.2.2.2.2.1)&&((a.2.2.2.2.2.2.2.1==b.2.2.2.2.2.2.2.1)&&((a.2.2.2.2.2.2.2.2.1==b.2.2.2.2.2.2.2.2.1)&&((a.2.2.2.2.2.2.2.2.2==b.2.2.2.2.2.2.2.2.2)&&true))),())) (some (false,()))) (some (false,()))) (some (false,()))) (some (false,()))) (some (false,()))) (some (false,())):=by kernel_rfl
def FC:Any:=.one ⟨[(K22,true),(K22,true)],b3,1,fun x=>gE F0 x.1 x.2.1⟩
def Uv:bw 175 FC:=aM JX ⟨B7,P8,Ut,trivial⟩ func175 ad (by kernel_rfl)
def JY:=[(175,FC)]
abbrev yP:List (Ty×Bool):=[(K22,true)]
def Az (m:WZ):=cE JY F ad f256 yP b3 1 (m,())
def Uw (m:WZ):Az F m=br (m.1==1) ((gE F0 (m.1,0,m.2.2.1,(0,ah,[]),(0,ah,[]),0,0,0,0,0) m).bind fun a=>some (a.1,())) (br (m.1==2) ((gE F0 (m.1,0,(ah,0,ah,[]),m.2.2.2.1,(0,ah,[]),0,0,0,0,0) m).bind fun a=>some (a.1,())) (br (m.1==3) ((gE F0 (m.1,m.2.1,(ah,0,ah,[]),(0,ah,[]),m.2.2.2.2.1,m.2.2.2.2.2.1,0,0,0,0) m).bind fun a=>some (a.1,())) (br (m.1==4) ((gE F0 (m.1,0,(ah,0,ah,[]),(0,ah,[]),(0,ah,[]),0,m.2.2.2.2.2.2) m).bind fun a=>some (a.1,())) ((gE F0 (m.1,0,(ah,0,ah,[]),(0,ah,[]),(0,ah,[]),0,0,0,0,0) m).bind fun a=>some (a.1,()))))):=by kernel_rfl
def FD:Any:=.one ⟨yP,b3,1,fun x=>Az F0 x.1⟩
def Ux:bw 256 FD:=aM JY ⟨Uv,trivial⟩ func256 ad (by kernel_rfl)
def Du:=[(118,dq),(189,dK)]
def Dv:Nat->Option Hint:=look [(4,{live:=[0,3],xl:=[0,3],rl:=[2]})]
def vo (s:ByteArray)(k:Int):= dG 25 [(0,C9 s),(3,cD k)]
def rO (s:ByteArray)(k:Int):= dG 25 [(0,C9 s),(3,cD k)]
def Dw (a:St):Option U:=hl Du F Dv [.r,.r,.r,.l,.b,.i] f270 J n a
def M8:=p9 Du F Dv [.r,.r,.r,.l,.b] f270 bJ 1
def FE (s:ByteArray)(k:Int):Dw F J (n+1) (vo s k)=br (decide (k>0)) (ck (b5 (ak (k-1)) (s.size:Int)) (br ((gf s (ak (k-1))) != 47) (Dw F J n (vo s (ak (k-1)))) (J (.exit 0) (rO s k)))) (J (.exit 0) (rO s k)):=by kernel_rfl
def Uy (s:ByteArray)(k:Int):M8 F (.exit 0) (rO s k)=(cO F0 (ak (k-1)) 0).bind fun a=>ck (I5 0 a.1 (s.size:Int)) (some (s.extract (0:Int).toNat a.1.toNat,())):=by kernel_rfl
def TH (s:ByteArray):=cE Du F Dv f270 bJ bJ 1 (s,())
def P9:∃f,f= @TH:=⟨_,rfl⟩
def iq:=Classical.choose P9
def M9: @iq= @TH:=Classical.choose_spec P9
def acY (s:ByteArray):iq F s=(dz F0 s).bind fun a=>br (!a.1) (some (ah,())) (Dw F (M8 F) F.n (vo s (s.size:Int))):=by rw[M9];kernel_rfl
def nM:Any:=.one ⟨bJ,bJ,1,fun x=>iq F0 x.1⟩
def AA:bw 270 nM:=ok1 (show re Tryz.prog TB Du from⟨eD,fs,trivial⟩) func270 (by kernel_rfl) (by kernel_rfl) Dv (by rw[M9];kernel_rfl)
def JZ:=[(118,dq),(251,eu),(270,nM)]
def jF (c:D1)(b:D16):=cE JZ F ad f257 [(K1,true),(K16,true)] b3 1 (c,b,())
def Uz (c:D1)(b:D16):jF F c b=(gk F0 c b.2).bind fun a=>br a.1 ((dz F0 b.1).bind fun d=>br d.1 (br (!(b.1.toList==ah.toList)) ((iq F0 b.1).bind fun e=>some (e.1.toList==b.2.2.1.toList,())) (some (false,()))) (some (false,()))) (some (false,())):=by kernel_rfl
def ir:Any:=.one ⟨[(K1,true),(K16,true)],b3,1,fun x=>jF F0 x.1 x.2.1⟩
def oy:bw 257 ir:=aM JZ ⟨eD,gC,AA,trivial⟩ func257 ad (by kernel_rfl)
def Qa:=[(101,bS),(117,bA),(251,eu),(252,gX),(254,kb),(256,FD),(257,ir)]
abbrev ajk:List (Ty×Bool):=[(K1,true),(K22,true)]
def dL (c:D1)(m:WZ):=cE Qa F ad f181 ajk b3 1 (c,m,())
def Z5 (c:D1)(m:WZ):dL F c m=(c0 F0 c).bind fun a=>br (!a.1) (some (false,())) ((Az F0 m).bind fun b=>br (!b.1) (some (false,())) (br (m.1==1) ((jF F0 c m.2.2.1).bind fun d=>some (d.1,())) (br (m.1==2) ((gD F0 c m.2.2.2.1).bind fun e=>br e.1 (some (!(m.2.2.2.1.2.1.toList==ah.toList),())) (some (false,()))) (br (m.1==3) ((bn F0 m.2.1 1 60).bind fun f=>br f.1 ((gk F0 c m.2.2.2.2.1).bind fun g=>br g.1 ((bn F0 m.2.2.2.2.2.1 0 (ak (c.1-1))).bind fun h=>some (h.1,())) (some (false,()))) (some (false,()))) (br (m.1==4) ((me F0 m.2.2.2.2.2.2).bind fun i=>some (i.1,())) (some (false,()))))))):=by kernel_rfl
def fK:Any:=.one ⟨ajk,b3,1,fun x=>dL F0 x.1 x.2.1⟩
def kr:bw 181 fK:=aM Qa ⟨cG,bX,gC,mf,rJ,Ux,oy,trivial⟩ func181 ad (by kernel_rfl)
def AB:=[(101,bS),(117,bA),(177,eZ),(178,yi),(179,ui),(180,kc),(181,fK)]
def AD:Nat->Option Hint:=look [(4,{live:=[2,3,5],rl:=[4]})]
def rP (i c a r b d e f g:Int)(h:ByteArray)(j:List Int)(k:ByteArray)(l:List D4)(m:List D9)(o:List Int)(p:Int)(q:List ML):= hD 102 [de 2,de 3,(5,cD i)] [(2,[aw c,aw a]),(3,[aw r,aw b,aw d,aw e,aw f,aw g,.str h,.ro false 3 (.int .i64) j,.str k,.ro false 99 (K4) l,.ro false 29 (K9) m,.ro false 5 (.int .u8) o,aw p,.ro false 125 (Pm) q])] []
def rQ (a:Bool):= dG 102 [(4,Uk a)]
def HT   := dG 102 []
def AE (a:St):Option U:=hl AB F AD [.r,.r,.l,.r,.b,.i] f115 J n a
def rR:=p9 AB F AD [.r,.r,.l,.r,.b] f115 b3 1
def Dx (i c b r d e f g h:Int)(j:ByteArray)(k:List Int)(l:ByteArray)(m:List D4)(o:List D9)(p:List Int)(q:Int)(a:List ML):AE F J (n+1) (rP i c b r d e f g h j k l m o p q a)=br (decide (i<(a.length:Int))) (ck (b5 i (a.length:Int)) ((dL F0 (c,b) (bd a i Pm.aI).2).bind fun s=>br (!s.1) (J .ret (rQ false)) (ck (b5 i (a.length:Int)) ((bn F0 (bd a i Pm.aI).1 0 (ak (c-1))).bind fun t=>br (!t.1) (J .ret (rQ false)) (ck (b5 i (a.length:Int)) (br ((bd a i Pm.aI).1==r) (J .ret (rQ false)) (AE F J n (rP (ak (i+1)) c b r d e f g h j k l m o p q a)))))))) (J (.exit 0) (HT)):=by kernel_rfl
def UA (a:Bool):rR F .ret (rQ a)=some (a,()):=by kernel_rfl
def R3: rR F (.exit 0) (HT)=some (true,()):=by kernel_rfl
abbrev yQ:List (Ty×Bool):=[(K1,true),(dU,true)]
def cQ (c:D1)(r:cN):=cE AB F AD f115 yQ b3 1 (c,r,())
def Z6 (c:D1)(r:cN):cQ F c r=(c0 F0 c).bind fun a=>br (!a.1) (some (false,())) ((bn F0 r.1 0 (ak (c.1-1))).bind fun b=>br (!b.1) (some (false,())) ((bn F0 r.2.1 1 60).bind fun d=>br (!d.1) (some (false,())) ((bn F0 r.2.2.1 0 60).bind fun e=>br (!e.1) (some (false,())) ((ft F0 c r.2.2.2.1).bind fun f=>br (!f.1) (some (false,())) ((wz F0 r.2.2.2.2.1).bind fun g=>br (!g.1) (some (false,())) ((jE F0 c r.2.2.2.2.2.1).bind fun h=>br (!h.1) (some (false,())) ((jj F0 r.2.2.2.2.2.2.1).bind fun i=>br (!i.1) (some (false,())) (br (decide ((r.2.2.2.2.2.2.2.length:Int)>30)) (some (false,())) (AE F (rR F) F.n (rP 0 c.1 c.2 r.1 r.2.1 r.2.2.1 r.2.2.2.1.1 r.2.2.2.1.2.1 r.2.2.2.1.2.2.1.1 r.2.2.2.1.2.2.1.2.1 r.2.2.2.1.2.2.1.2.2 r.2.2.2.1.2.2.2 r.2.2.2.2.1 r.2.2.2.2.2.1 r.2.2.2.2.2.2.1.1 r.2.2.2.2.2.2.1.2 r.2.2.2.2.2.2.2)))))))))):=by kernel_rfl
def bN:Any:=.one ⟨yQ,b3,1,fun x=>cQ F0 x.1 x.2.1⟩
def cn:bw 115 bN:=aM AB ⟨cG,bX,ik,JU,HR,rM,kr,trivial⟩ func115 AD (by kernel_rfl)
def Na:=[(115,bN)]
abbrev rS:List (Ty×Bool):=[(dU,true),(.bool,false)]
abbrev ajl:List (Ty×Bool):=[(K1,true),(.int .i64,false)]
def Dy (c:D1)(a:Int):=cE Na F ad f102 ajl rS 2 (c,a,())
def Xu (c:D1)(a:Int):Dy F c a=(cQ F0 c (a,1,0,(0,0,(0,ah,[]),ah),[],[],([],0),[])).bind fun b=>br (!b.1) (some ((0,0,0,(0,0,(0,ah,[]),ah),[],[],([],0),[]),false,())) (some ((a,1,0,(0,0,(0,ah,[]),ah),[],[],([],0),[]),true,())):=by kernel_rfl
def HU:Any:=.one ⟨ajl,rS,2,fun x=>Dy F0 x.1 x.2.1⟩
def Xv:bw 102 HU:=aM Na ⟨cn,trivial⟩ func102 ad (by kernel_rfl)
def Nb:=[(101,bS)]
def Dz (c:D1):=cE Nb F ad f114 MN gg 1 (c,())
def Xw (c:D1):Dz F c=(c0 F0 c).bind fun a=>br (!a.1) (some (0,())) (some (ak (Int.tdiv (ak (c.1-1)) 3),())):=by kernel_rfl
def HV:Any:=.one ⟨MN,gg,1,fun x=>Dz F0 x.1⟩
def Xx:bw 114 HV:=aM Nb ⟨cG,trivial⟩ func114 ad (by kernel_rfl)
def vp:Nat->Option Hint:=look [(3,{live:=[0,1,7,8],rl:=[4,5,6]})]
def oz (b:List Int)(a c k:Int):= dG 55 [(0,x0 5 (.int .u8) b),(1,cD a),(7,cD c),(8,cD k)]
def dY (a b:Int)(c:Bool):= dG 55 [(4,cD a),(5,cD b),(6,Uk c)]
def FF   := dG 55 []
def vq (a:St):Option U:=hl aN F vp [.r,.r,.l,.r,.b,.i] f234 J n a
abbrev amd:List (Ty×Bool):=[(.int .i64,false),(.int .i64,false),(.bool,false)]
def oA:=p9 aN F vp [.r,.r,.l,.r,.b] f234 amd 1
def B9 (b:List Int)(a c k:Int):vq F J (n+1) (oz b a c k)=br (decide (k<5)) (br (decide (a<0)) (J .ret (dY 0 0 false)) (br (decide (a>=(ak ((b.length:Int)-k)))) (J .ret (dY 0 0 false)) (ck (b5 (ak (a+k)) (b.length:Int)) (ck (decide (0<=(ak (7*k)))) (br (decide ((ak (bd b (ak (a+k)) 0))<128)) (br (decide (k>0)) (br ((ak (bd b (ak (a+k)) 0))==0) (J .ret (dY 0 0 false)) (br (decide ((ak (((BitVec.ofInt 64 c ||| BitVec.ofInt 64 (ak ((Int.tmod (ak (bd b (ak (a+k)) 0)) 128)*2 ^ (min (ak (7*k)).toNat 64)))).toNat:Int)))>2147483647)) (J .ret (dY 0 0 false)) (J .ret (dY (ak (((BitVec.ofInt 64 c ||| BitVec.ofInt 64 (ak ((Int.tmod (ak (bd b (ak (a+k)) 0)) 128)*2 ^ (min (ak (7*k)).toNat 64)))).toNat:Int))) (ak ((ak (a+k))+1)) true)))) (br (decide ((ak (((BitVec.ofInt 64 c ||| BitVec.ofInt 64 (ak ((Int.tmod (ak (bd b (ak (a+k)) 0)) 128)*2 ^ (min (ak (7*k)).toNat 64)))).toNat:Int)))>2147483647)) (J .ret (dY 0 0 false)) (J .ret (dY (ak (((BitVec.ofInt 64 c ||| BitVec.ofInt 64 (ak ((Int.tmod (ak (bd b (ak (a+k)) 0)) 128)*2 ^ (min (ak (7*k)).toNat 64)))).toNat:Int))) (ak ((ak (a+k))+1)) true)))) (vq F J n (oz b a (ak (((BitVec.ofInt 64 c ||| BitVec.ofInt 64 (ak ((Int.tmod (ak (bd b (ak (a+k)) 0)) 128)*2 ^ (min (ak (7*k)).toNat 64)))).toNat:Int))) (ak (k+1))))))))) (J (.exit 0) (FF)):=by kernel_rfl
def uk (a b:Int)(c:Bool):oA F .ret (dY a b c)=some (a,b,c,()):=by kernel_rfl
def Qb: oA F (.exit 0) (FF)=some (0,0,false,()):=by kernel_rfl
abbrev ajm:List (Ty×Bool):=[(.sl 5 (.int .u8),false),(.int .i64,false)]
def gF (b:List Int)(a:Int):=cE aN F vp f234 ajm amd 1 (b,a,())
def Xy (b:List Int)(a:Int):gF F b a=vq F (oA F) F.n (oz b a 0 0):=by kernel_rfl
def oB:Any:=.one ⟨ajm,amd,1,fun x=>gF F0 x.1 x.2.1⟩
def Ca:bw 234 oB:=aM aN trivial func234 vp (by kernel_rfl)
def Nc:=[(234,oB)]
abbrev wB:List (Ty×Bool):=[(K33,true)]
def b7 (c:D33):=eX Nc F ad f182 wB 0 .cur gg wB 1 (c,())
def Xz (c:D33):b7 F c=(gF F0 c.1 c.2.1).bind fun a=>br (!a.2.2.1) (some ((0,()),(c.1,c.2.1,false),())) (br (!c.2.2) (some ((0,()),(c.1,c.2.1,false),())) (some ((a.1,()),(c.1,a.2.1,c.2.2),()))):=by kernel_rfl
def kd:Any:=.two ⟨wB,0,.cur,gg,1,wB,fun x=>b7 F0 x.1⟩
def rT:bw 182 kd:=hA Nc ⟨Ca,trivial⟩ func182 ad (by kernel_rfl)
def J0:=[(234,oB)]
abbrev apf:List (Ty×Bool):=[(.str,false),(.int .i64,false),(.bool,false)]
def AF (b:List Int)(a:Int):=cE J0 F ad f258 ajm apf 1 (b,a,())
def UB (b:List Int)(c:Int):AF F b c=(gF F0 b c).bind fun a=>br (!a.2.2.1) (some (ah,0,false,())) (br (decide (a.1>(ak ((b.length:Int)-a.2.1)))) (some (ah,0,false,())) (ck (I5 a.2.1 (ak (a.2.1+a.1)) (b.length:Int)) (some (strOf ((b.take (ak (a.2.1+a.1)).toNat).drop a.2.1.toNat),ak (a.2.1+a.1),true,())))):=by kernel_rfl
def FG:Any:=.one ⟨ajm,apf,1,fun x=>AF F0 x.1 x.2.1⟩
def UC:bw 258 FG:=aM J0 ⟨Ca,trivial⟩ func258 ad (by kernel_rfl)
def J1:=[(258,FG)]
def jG (c:D33):=eX J1 F ad f183 wB 0 .cur bJ wB 1 (c,())
def UD (c:D33):jG F c=(AF F0 c.1 c.2.1).bind fun a=>br (!a.2.2.1) (some ((ah,()),(c.1,c.2.1,false),())) (br (!c.2.2) (some ((ah,()),(c.1,c.2.1,false),())) (some ((a.1,()),(c.1,a.2.1,c.2.2),()))):=by kernel_rfl
def mo:Any:=.two ⟨wB,0,.cur,bJ,1,wB,fun x=>jG F0 x.1⟩
def yk:bw 183 mo:=hA J1 ⟨UC,trivial⟩ func183 ad (by kernel_rfl)
def vr:=[(182,kd)]
def vt:Nat->Option Hint:=look [(4,{live:=[0,3,4,5],xl:=[3],rl:=[2]})]
def oC (a i:Int)(b:List Int)(c:Int)(d:Bool)(e:List Int):St:={nt:=28,tm:=[(0,.v (.c (.ptr 4000000 0))),(3,.v (.c (.own 1000000 none))),(4,cD a),(5,cD i)],bx:=[(4000000,[.ro true 5 (.int .u8) b,aw c,.bool d])],bl:=[aJ 1000000 3 (.int .i64) e],sp:=.v (.c (.ptr 4000000 0))}
def mq (a:List Int)(b:Int)(c:Bool)(d:List Int):St:={nt:=28,tm:=[(3,.v (.c (.own 1000000 none)))],bx:=[(4000000,[.ro true 5 (.int .u8) a,aw b,.bool c])],bl:=[aJ 1000000 3 (.int .i64) d],sp:=.v (.c (.ptr 4000000 0))}
def vu (a:St):Option U:=hl vr F vt [.r,.r,.r,.l,.r,.b,.i] f185 J n a
def yl:=EV vr F vt [.r,.r,.r,.l,.r,.b] f185 .cur qc wB 2
def Cb (f i:Int)(d:List Int)(e:Int)(a:Bool)(c:List Int):vu F J (n+1) (oC f i d e a c)=br (decide (i<f)) (br a ((b7 F0 (d,e,a)).bind fun b=>ck (fc F c.length [b.1.1].length 8) (vu F J n (oC f (ak (i+1)) b.2.1.1 b.2.1.2.1 b.2.1.2.2 (c++[b.1.1])))) (J (.exit 0) (mq d e a c))) (J (.exit 0) (mq d e a c)):=by kernel_rfl
def Qc (a:List Int)(b:Int)(c:Bool)(d:List Int):yl F (.exit 0) (mq a b c d)=some ((d,()),(a,b,c),()):=by kernel_rfl
def wC (c:D33):=eX vr F vt f185 wB 0 .cur qc wB 2 (c,())
def XA (c:D33):wC F c=(b7 F0 c).bind fun a=>vu F (yl F) F.n (oC a.1.1 0 a.2.1.1 a.2.1.2.1 a.2.1.2.2 []):=by kernel_rfl
def ym:Any:=.two ⟨wB,0,.cur,qc,2,wB,fun x=>wC F0 x.1⟩
def J2:bw 185 ym:=hA vr ⟨rT,trivial⟩ func185 vt (by kernel_rfl)
def Qd:=[(182,kd),(183,mo),(185,ym)]
def um (c:D33):=eX Qd F ad f184 wB 0 .cur iW wB 2 (c,())
def Z7 (c:D33):um F c=(b7 F0 c).bind fun a=>(jG F0 a.2.1).bind fun b=>(wC F0 b.2.1).bind fun d=>some (((a.1.1,b.1.1,d.1.1),()),d.2.1,()):=by kernel_rfl
def Cc:Any:=.two ⟨wB,0,.cur,iW,2,wB,fun x=>um F0 x.1⟩
def Nd:bw 184 Cc:=hA Qd ⟨rT,yk,J2,trivial⟩ func184 ad (by kernel_rfl)
def Qe:=[(181,fK),(182,kd),(183,mo),(184,Cc),(185,ym)]
abbrev abf:List (Ty×Bool):=[(K1,true),(.sl 5 (.int .u8),false)]
def Cd (c:D1)(b:List Int):=cE Qe F ad f116 abf [(K22,true),(.bool,false)] 2 (c,b,())
def Z8 (c:D1)(b:List Int):Cd F c b=(b7 F0 (b,0,true)).bind fun a=>br (a.1.1==1) ((jG F0 a.2.1).bind fun i=>(um F0 i.2.1).bind fun e=>br (!e.2.1.2.2) (some ((0,0,(ah,0,ah,[]),(0,ah,[]),(0,ah,[]),0,0,0,0,0),false,())) (br (e.2.1.2.1 != (b.length:Int)) (some ((0,0,(ah,0,ah,[]),(0,ah,[]),(0,ah,[]),0,0,0,0,0),false,())) ((dL F0 c (a.1.1,0,(i.1.1,e.1.1),(0,ah,[]),(0,ah,[]),0,0,0,0,0)).bind fun d=>br (!d.1) (some ((0,0,(ah,0,ah,[]),(0,ah,[]),(0,ah,[]),0,0,0,0,0),false,())) (some ((a.1.1,0,(i.1.1,e.1.1),(0,ah,[]),(0,ah,[]),0,0,0,0,0),true,()))))) (br (a.1.1==2) ((b7 F0 a.2.1).bind fun j=>(jG F0 j.2.1).bind fun k=>(wC F0 k.2.1).bind fun f=>br (!f.2.1.2.2) (some ((0,0,(ah,0,ah,[]),(0,ah,[]),(0,ah,[]),0,0,0,0,0),false,())) (br (f.2.1.2.1 != (b.length:Int)) (some ((0,0,(ah,0,ah,[]),(0,ah,[]),(0,ah,[]),0,0,0,0,0),false,())) ((dL F0 c (a.1.1,0,(ah,0,ah,[]),(j.1.1,k.1.1,f.1.1),(0,ah,[]),0,0,0,0,0)).bind fun d=>br (!d.1) (some ((0,0,(ah,0,ah,[]),(0,ah,[]),(0,ah,[]),0,0,0,0,0),false,())) (some ((a.1.1,0,(ah,0,ah,[]),(j.1.1,k.1.1,f.1.1),(0,ah,[]),0,0,0,0,0),true,()))))) (br (a.1.1==3) ((b7 F0 a.2.1).bind fun l=>(b7 F0 l.2.1).bind fun m=>(um F0 m.2.1).bind fun g=>br (!g.2.1.2.2) (some ((0,0,(ah,0,ah,[]),(0,ah,[]),(0,ah,[]),0,0,0,0,0),false,())) (br (g.2.1.2.1 != (b.length:Int)) (some ((0,0,(ah,0,ah,[]),(0,ah,[]),(0,ah,[]),0,0,0,0,0),false,())) ((dL F0 c (a.1.1,l.1.1,(ah,0,ah,[]),(0,ah,[]),g.1.1,m.1.1,0,0,0,0)).bind fun d=>br (!d.1) (some ((0,0,(ah,0,ah,[]),(0,ah,[]),(0,ah,[]),0,0,0,0,0),false,())) (some ((a.1.1,l.1.1,(ah,0,ah,[]),(0,ah,[]),g.1.1,m.1.1,0,0,0,0),true,()))))) (br (a.1.1==4) ((b7 F0 a.2.1).bind fun o=>(b7 F0 o.2.1).bind fun p=>(b7 F0 p.2.1).bind fun q=>(b7 F0 q.2.1).bind fun h=>br (!h.2.1.2.2) (some ((0,0,(ah,0,ah,[]),(0,ah,[]),(0,ah,[]),0,0,0,0,0),false,())) (br (h.2.1.2.1 != (b.length:Int)) (some ((0,0,(ah,0,ah,[]),(0,ah,[]),(0,ah,[]),0,0,0,0,0),false,())) ((dL F0 c (a.1.1,0,(ah,0,ah,[]),(0,ah,[]),(0,ah,[]),0,o.1.1,p.1.1,q.1.1,h.1.1)).bind fun d=>br (!d.1) (some ((0,0,(ah,0,ah,[]),(0,ah,[]),(0,ah,[]),0,0,0,0,0),false,())) (some ((a.1.1,0,(ah,0,ah,[]),(0,ah,[]),(0,ah,[]),0,o.1.1,p.1.1,q.1.1,h.1.1),true,()))))) (br (!a.2.1.2.2) (some ((0,0,(ah,0,ah,[]),(0,ah,[]),(0,ah,[]),0,0,0,0,0),false,())) (br (a.2.1.2.1 != (b.length:Int)) (some ((0,0,(ah,0,ah,[]),(0,ah,[]),(0,ah,[]),0,0,0,0,0),false,())) ((dL F0 c (a.1.1,0,(ah,0,ah,[]),(0,ah,[]),(0,ah,[]),0,0,0,0,0)).bind fun d=>br (!d.1) (some ((0,0,(ah,0,ah,[]),(0,ah,[]),(0,ah,[]),0,0,0,0,0),false,())) (some ((a.1.1,0,(ah,0,ah,[]),(0,ah,[]),(0,ah,[]),0,0,0,0,0),true,())))))))):=by kernel_rfl
def Ce:Any:=.one ⟨abf,[(K22,true),(.bool,false)],2,fun x=>Cd F0 x.1 x.2.1⟩
def Nf:bw 116 Ce:=aM Qe ⟨kr,rT,yk,Nd,J2,trivial⟩ func116 ad (by kernel_rfl)
def eF:=[(101,bS),(113,rH),(114,HV),(115,bN),(116,Ce),(117,bA),(118,dq),(119,bK)]
def eG:Nat->Option Hint:=look [(4,{live:=[1,3],xl:=[1],rl:=[2]}),(9,{live:=[1,4],xl:=[1],rl:=[2]}),(15,{live:=[1,7],rl:=[2]})]
def iu (i w a:Int)(b:List Int)(c:List cN)(d:List fi)(e:List et):= hD 147 [de 1,(7,cD i)] [(1,[aw w,aw a,.ro false 3 (.int .i64) b,.ro false 42 (dU) c,.ro false 95 (tn) d,.ro false 91 (iV) e])] []
def mr (a:Bool):= dG 147 [(2,Uk a)]
def DA   := dG 147 []
def lJ (a:St):Option U:=hl eF F eG [.r,.r,.r,.r,.l,.r,.b,.i] f56 J n a
def iv:=p9 eF F eG [.r,.r,.r,.r,.l,.r,.b] f56 b3 1
def iw (i w a:Int)(b:List Int)(c:List cN)(d:List fi)(e:List et):= hD 147 [de 1,(4,cD i)] [(1,[aw w,aw a,.ro false 3 (.int .i64) b,.ro false 42 (dU) c,.ro false 95 (tn) d,.ro false 91 (iV) e])] []
def uo (a:Bool):= dG 147 [(2,Uk a)]
def DB (w a:Int)(b:List Int)(c:List cN)(d:List fi)(e:List et):= hD 147 [de 1] [(1,[aw w,aw a,.ro false 3 (.int .i64) b,.ro false 42 (dU) c,.ro false 95 (tn) d,.ro false 91 (iV) e])] []
def lK (a:St):Option U:=hl eF F eG [.r,.r,.r,.l,.r,.b,.i] f56 J n a
def ix:=p9 eF F eG [.r,.r,.r,.l,.r,.b] f56 b3 1
def iy (i w a:Int)(b:List Int)(c:List cN)(d:List fi)(e:List et):= hD 147 [de 1,(3,cD i)] [(1,[aw w,aw a,.ro false 3 (.int .i64) b,.ro false 42 (dU) c,.ro false 95 (tn) d,.ro false 91 (iV) e])] []
def uq (a:Bool):= dG 147 [(2,Uk a)]
def DC (w a:Int)(b:List Int)(c:List cN)(d:List fi)(e:List et):= hD 147 [de 1] [(1,[aw w,aw a,.ro false 3 (.int .i64) b,.ro false 42 (dU) c,.ro false 95 (tn) d,.ro false 91 (iV) e])] []
def lL (a:St):Option U:=hl eF F eG [.r,.r,.l,.r,.b,.i] f56 J n a
def iz:=p9 eF F eG [.r,.r,.l,.r,.b] f56 b3 1
def yR (i w b:Int)(c:List Int)(d:List cN)(e:List fi)(a:List et):lJ F J (n+1) (iu i w b c d e a)=br (decide (i<(a.length:Int))) (ck (b5 i (a.length:Int)) ((bn F0 (bd a i iV.aI).2.2 0 (ak (w-1))).bind fun f=>br (!f.1) (J .ret (mr false)) ((dz F0 (bd a i iV.aI).2.1).bind fun g=>br (!g.1) (J .ret (mr false)) ((bY F0 (bd a i iV.aI).2.1).bind fun h=>br (h.1 != (bd a i iV.aI).1) (J .ret (mr false)) (lJ F J n (iu (ak (i+1)) w b c d e a)))))) (J (.exit 4) (DA)):=by kernel_rfl
def yS (i w b:Int)(c:List Int)(d:List cN)(a:List fi)(e:List et):lK F J (n+1) (iw i w b c d a e)=br (decide (i<(a.length:Int))) (ck (b5 i (a.length:Int)) ((Cd F0 (w,b) (bd a i (0,[])).2).bind fun f=>br (!f.2.1) (J .ret (uo false)) (ck (b5 i (a.length:Int)) ((bn F0 (bd a i (0,[])).1 0 (ak (w-1))).bind fun g=>br (!g.1) (J .ret (uo false)) (lK F J n (iw (ak (i+1)) w b c d a e)))))) (J (.exit 2) (DB w b c d a e)):=by kernel_rfl
def yT (i w b:Int)(c:List Int)(a:List cN)(d:List fi)(e:List et):lL F J (n+1) (iy i w b c a d e)=br (decide (i<(a.length:Int))) (ck (b5 i (a.length:Int)) (br ((bd a i dU.aI).1 != i) (J .ret (uq false)) (ck (b5 i (a.length:Int)) ((cQ F0 (w,b) (bd a i dU.aI)).bind fun f=>br (!f.1) (J .ret (uq false)) (lL F J n (iy (ak (i+1)) w b c a d e)))))) (J (.exit 0) (DC w b c a d e)):=by kernel_rfl
def Qf (a:Bool):iv F .ret (mr a)=some (a,()):=by kernel_rfl
def Oo: iv F (.exit 4) (DA)=some (true,()):=by kernel_rfl
def Qg (a:Bool):ix F .ret (uo a)=some (a,()):=by kernel_rfl
def Oq (w a:Int)(b:List Int)(c:List cN)(d:List fi)(e:List et):ix F (.exit 2) (DB w a b c d e)=lJ F (iv F) F.n (iu 0 w a b c d e):=by kernel_rfl
def Qh (a:Bool):iz F .ret (uq a)=some (a,()):=by kernel_rfl
def Ot (w a:Int)(b:List Int)(c:List cN)(d:List fi)(e:List et):iz F (.exit 0) (DC w a b c d e)=lK F (ix F) F.n (iw 0 w a b c d e):=by kernel_rfl
abbrev fL:List (Ty×Bool):=[(fj,true)]
def rU (w:tv):=cE eF F eG f56 fL b3 1 (w,())
def UE (w:tv):rU F w=(c0 F0 w.1).bind fun a=>br (!a.1) (some (false,())) ((ug F0 w.1.1 w.2.1).bind fun b=>br (!b.1) (some (false,())) ((Dz F0 w.1).bind fun c=>br (decide ((w.2.1.length:Int)>c.1)) (some (false,())) (br ((w.2.2.1.length:Int) != w.1.1) (some (false,())) (br (decide ((w.2.2.2.1.length:Int)>60)) (some (false,())) (br (decide ((w.2.2.2.2.length:Int)>300)) (some (false,())) (lL F (iz F) F.n (iy 0 w.1.1 w.1.2 w.2.1 w.2.2.1 w.2.2.2.1 w.2.2.2.2))))))):=by kernel_rfl
def FH:Any:=.one ⟨fL,b3,1,fun x=>rU F0 x.1⟩
def UF:bw 56 FH:=aM eF ⟨cG,EW,Xx,cn,Nf,bX,eD,cg,trivial⟩ func56 eG (by kernel_rfl)
def oD:=[(56,FH),(101,bS),(102,HU)]
def oE:Nat->Option Hint:=look [(3,{live:=[2,4,6,7],CY:=[(4,2,3,.int .i64),(4,3,42,dU),(4,4,95,tn),(4,5,91,iV),(6,3,42,dU),(6,4,95,tn),(6,5,91,iV)],xl:=[4,6],rl:=[4,5]})]
def kT (i c a l m w b:Int)(o:List Int)(d:List cN)(e:List fi)(f:List et)(g:List Int)(h:List cN)(j:List fi)(k:List et):= hD 42 [de 2,de 4,de 6,(7,cD i)] [(2,[aw c,aw a]),(4,[aw l,aw m,.own 1000000 none,.own 1000001 none,.own 1000002 none,.own 1000003 none]),(6,[aw w,aw b,.own 1000004 none,.own 1000005 none,.own 1000006 none,.own 1000007 none])] [aJ 1000000 3 (.int .i64) o,aJ 1000001 42 dU d,aJ 1000002 95 tn e,aJ 1000003 91 iV f,aJ 1000004 3 (.int .i64) g,aJ 1000005 42 dU h,aJ 1000006 95 tn j,aJ 1000007 91 iV k]
def pt (i j w a:Int)(k:List Int)(b:List cN)(c:List fi)(d:List et)(e:List Int)(f:List cN)(g:List fi)(h:List et):= hD 42 [de 4,de 6] [(4,[aw i,aw j,.own 1000000 none,.own 1000001 none,.own 1000002 none,.own 1000003 none]),(6,[aw w,aw a,.own 1000004 none,.own 1000005 none,.own 1000006 none,.own 1000007 none])] [aJ 1000000 3 (.int .i64) k,aJ 1000001 42 dU b,aJ 1000002 95 tn c,aJ 1000003 91 iV d,aJ 1000004 3 (.int .i64) e,aJ 1000005 42 dU f,aJ 1000006 95 tn g,aJ 1000007 91 iV h]
def oF (a:St):Option U:=hl oD F oE [.r,.r,.l,.r,.b,.i] f44 J n a
abbrev ame:List (Ty×Bool):=[(fj,true),(.bool,false)]
def rV:=p9 oD F oE [.r,.r,.l,.r,.b] f44 ame 2
def wD (i c b l m w d:Int)(o:List Int)(e:List cN)(f:List fi)(g:List et)(h:List Int)(a:List cN)(j:List fi)(k:List et):oF F J (n+1) (kT i c b l m w d o e f g h a j k)=br (decide (i<c)) ((c0 F0 (c,b)).bind fun q=>br q.1 ((Dy F0 (c,b) i).bind fun p=>ck (fc F a.length [p.1].length 208) (oF F J n (kT (ak (i+1)) c b l m w d o e f g h (a++[p.1]) j k))) (J (.exit 0) (pt l m w d o e f g h a j k))) (J (.exit 0) (pt l m w d o e f g h a j k)):=by kernel_rfl
def Mg (j k w a:Int)(l:List Int)(f:List cN)(g:List fi)(h:List et)(b:List Int)(c:List cN)(d:List fi)(e:List et):rV F (.exit 0) (pt j k w a l f g h b c d e)=(rU F0 ((w,a),b,c,d,e)).bind fun i=>br (!i.1) (some (((0,0),[],[],[],[]),false,())) (some (((w,a),b,c,d,e),true,())):=by kernel_rfl
abbrev apg:List (Ty×Bool):=[(K1,true),(.sl 3 (.int .i64),false)]
def nN (c:D1)(a:List Int):=cE oD F oE f44 apg ame 2 (c,a,())
def R4 (c:D1)(a:List Int):nN F c a=ck (fc F 0 a.length 8) (oF F (rV F) F.n (kT 0 c.1 c.2 0 0 c.1 c.2 [] [] [] [] ([]++a) [] [] [])):=by kernel_rfl
def DD:Any:=.one ⟨apg,ame,2,fun x=>nN F0 x.1 x.2.1⟩
def R5:bw 44 DD:=aM oD ⟨UF,cG,Xv,trivial⟩ func44 oE (by kernel_rfl)
def yU:=[(44,DD),(97,cc),(98,al),(121,bg)]
def kU (c:D2):=eX yU F ad f197 aX 0 .cur fL aX 2 (c,())
def J3 (c:D2):kU F c=(aH F0 c [4,4,4,5,7]).bind fun a=>(af F0 a.2.1 3).bind fun b=>(cX F0 b.2.1 3).bind fun d=>br (!d.1.1) ((af F0 d.2.1 a.1.1).bind fun f=>(nN F0 (a.1.1,ak (1+b.1.1)) [f.1.1]).bind fun e=>some ((e.1,()),f.2.1,())) ((nN F0 (a.1.1,ak (1+b.1.1)) []).bind fun e=>some ((e.1,()),d.2.1,())):=by kernel_rfl
def tE:Any:=.two ⟨aX,0,.cur,fL,2,aX,fun x=>kU F0 x.1⟩
def J4:bw 197 tE:=hA yU ⟨R5,cY,ar,bz,trivial⟩ func197 ad (by kernel_rfl)
def TI:=[(101,bS)]
def iA (c:D1)(a:Int):=cE TI F ad f301 ajl gg 1 (c,a,())
def acZ (c:D1)(a:Int):iA F c a=(c0 F0 c).bind fun b=>br (!b.1) (some (-1,())) (br (decide (a<0)) (some (-1,())) (ck (!(c.1==0)) (some (Int.tmod a c.1,())))):=by kernel_rfl
def fu:Any:=.one ⟨ajl,gg,1,fun x=>iA F0 x.1 x.2.1⟩
def jH:bw 301 fu:=aM TI ⟨cG,trivial⟩ func301 ad (by kernel_rfl)
def ew (p:D9):=cE aN F ad f262 iW iW 2 (p,())
def UG (p:D9):ew F p=ck (fc F 0 p.2.2.length 8) (some ((p.1,p.2.1,[]++p.2.2),())):=by kernel_rfl
def fy:Any:=.one ⟨iW,iW,2,fun x=>ew F0 x.1⟩
def kf:bw 262 fy:=aM aN trivial func262 ad (by kernel_rfl)
end
end Go.Am.Tryz
namespace Go.Am.Tryz
open Go.Am Go.Proofs Go.Proofs.Tryz
noncomputable section
variable {U:Type} (F:kk) (J:Ex->St->Option U) (n:Nat)
def oG:=[(262,fy)]
def oH:Nat->Option Hint:=look [(2,{live:=[0,1,2,6,7],CY:=[(6,2,3,.int .i64)],xl:=[1,2,6],rl:=[6]})]
def gG (a:List D9)(b:Int)(name:ByteArray)(i c:Int)(d:ByteArray)(e:List Int):= hD 38 [(0,x0 29 (K9) a),(1,cD b),(2,C9 name),de 6,(7,cD i)] [(6,[aw c,.str d,.own 1000000 none])] [aJ 1000000 3 (.int .i64) e]
def DE (a:Int)(b:ByteArray)(c:List Int):= hD 38 [de 6] [(6,[aw a,.str b,.own 1000000 none])] [aJ 1000000 3 (.int .i64) c]
def Cf (a:Int)(name:ByteArray)(b:Int)(c:ByteArray)(d:List Int):= hD 38 [(1,cD a),(2,C9 name),de 6] [(6,[aw b,.str c,.own 1000000 none])] [aJ 1000000 3 (.int .i64) d]
def kg (a:St):Option U:=hl oG F oH [.r,.l,.r,.b,.i] f302 J n a
def kV:=p9 oG F oH [.r,.l,.r,.b] f302 iW 2
def wE (a:List D9)(b:Int)(name:ByteArray)(i c:Int)(d:ByteArray)(e:List Int):kg F J (n+1) (gG a b name i c d e)=br (decide (i<(a.length:Int))) (ck (b5 i (a.length:Int)) (br ((bd a i K9.aI).1==b) (ck (b5 i (a.length:Int)) (br ((bd a i K9.aI).2.1.toList==name.toList) (ck (b5 i (a.length:Int)) ((ew F0 (bd a i K9.aI)).bind fun f=>J .ret (DE f.1.1 f.1.2.1 f.1.2.2))) (kg F J n (gG a b name (ak (i+1)) c d e)))) (kg F J n (gG a b name (ak (i+1)) c d e)))) (J (.exit 0) (Cf b name c d e)):=by kernel_rfl
def Ou (a:Int)(b:ByteArray)(c:List Int):kV F .ret (DE a b c)=some ((a,b,c),()):=by kernel_rfl
def Mh (a:Int)(name:ByteArray)(b:Int)(c:ByteArray)(d:List Int):kV F (.exit 0) (Cf a name b c d)=some ((a,name,[]),()):=by kernel_rfl
abbrev aph:List (Ty×Bool):=[(K14,false),(.int .i64,false),(.str,false)]
def ks (a:D14)(b:Int)(name:ByteArray):=cE oG F oH f302 aph iW 2 (a,b,name,())
def R6 (a:D14)(b:Int)(name:ByteArray):ks F a b name=kg F (kV F) F.n (gG a b name 0 0 ah []):=by kernel_rfl
def kW:Any:=.one ⟨aph,iW,2,fun x=>ks F0 x.1 x.2.1 x.2.2.1⟩
def ur:bw 302 kW:=aM oG ⟨kf,trivial⟩ func302 oH (by kernel_rfl)
def AG:=[(142,ij)]
def AH:Nat->Option Hint:=look [(4,{live:=[3,4,6],xl:=[3],rl:=[2]})]
def rW (i:Int)(b:List D4)(a:List D6):= hD 27 [(3,.v (.c (.own 1000000 none))),(4,.v (.c (.own 1000001 none))),(6,cD i)] [] [aJ 1000000 99 K4 b,aJ 1000001 163 K6 a]
def HW (a:List D4):= hD 27 [(3,.v (.c (.own 1000000 none)))] [] [aJ 1000000 99 K4 a]
def AI (a:St):Option U:=hl AG F AH [.r,.r,.r,.l,.r,.b,.i] f157 J n a
def Cg:=p9 AG F AH [.r,.r,.r,.l,.r,.b] f157 rk 2
def DF (i:Int)(b:List D4)(a:List D6):AI F J (n+1) (rW i b a)=br (decide (i<(a.length:Int))) (ck (b5 i (a.length:Int)) (ck (fc F b.length (bd a i (0,[])).2.length 32) (AI F J n (rW (ak (i+1)) (b++(bd a i (0,[])).2) a)))) (J (.exit 0) (HW b)):=by kernel_rfl
def R7 (a:List D4):Cg F (.exit 0) (HW a)=some (a,()):=by kernel_rfl
def pw (s:ByteArray):=cE AG F AH f157 bJ rk 2 (s,())
def Z9 (s:ByteArray):pw F s=(jy F0 s).bind fun a=>AI F (Cg F) F.n (rW 0 [] a.1):=by kernel_rfl
def Ch:Any:=.one ⟨bJ,rk,2,fun x=>pw F0 x.1⟩
def Ng:bw 157 Ch:=aM AG ⟨nH,trivial⟩ func157 AH (by kernel_rfl)
def vv:=[(190,rC),(233,oi)]
def vw:Nat->Option Hint:=look [(4,{live:=[1,4,6,7,8],CY:=[(4,0,3,.int .i64),(4,1,3,.int .i64)],xl:=[4,6,7],rl:=[4,5]})]
def oI (e:List D4)(i:Int)(f a b c d:List Int):= hD 36 [(1,x0 99 (K4) e),de 4,de 6,(7,.v (.c (.own 1000000 none))),(8,cD i)] [(4,[.own 1000001 none,.own 1000002 none]),(6,[.own 1000003 none,.own 1000004 none])] [aJ 1000000 3 (.int .i64) f,aJ 1000001 3 (.int .i64) a,aJ 1000002 3 (.int .i64) b,aJ 1000003 3 (.int .i64) c,aJ 1000004 3 (.int .i64) d]
def FI (e a b c d:List Int):= hD 36 [de 4,de 6,(7,.v (.c (.own 1000000 none)))] [(4,[.own 1000001 none,.own 1000002 none]),(6,[.own 1000003 none,.own 1000004 none])] [aJ 1000000 3 (.int .i64) e,aJ 1000001 3 (.int .i64) a,aJ 1000002 3 (.int .i64) b,aJ 1000003 3 (.int .i64) c,aJ 1000004 3 (.int .i64) d]
def vx (a:St):Option U:=hl vv F vw [.r,.r,.r,.l,.r,.b,.i] f155 J n a
abbrev amf:List (Ty×Bool):=[(K10,true),(.sl 3 (.int .i64),false)]
def yn:=p9 vv F vw [.r,.r,.r,.l,.r,.b] f155 amf 2
def Ci (a:List D4)(i:Int)(c d e f g:List Int):vx F J (n+1) (oI a i c d e f g)=br (decide (i<(a.length:Int))) (ck (b5 i (a.length:Int)) ((wx F0 (f,g) (bd a i K4.aI)).bind fun b=>ck (fc F c.length [b.2.1].length 8) (vx F J n (oI a (ak (i+1)) (c++[b.2.1]) d e b.1.1 b.1.2)))) (J (.exit 0) (FI c d e f g)):=by kernel_rfl
def Qi (c d e a b:List Int):yn F (.exit 0) (FI c d e a b)=some ((a,b),c,()):=by kernel_rfl
def pV (l:D10)(a:D5):=cE vv F vw f155 [(K10,true),(K5,false)] amf 2 (l,a,())
def XB (l:D10)(b:D5):pV F l b=(lE F0 l).bind fun a=>vx F (yn F) F.n (oI b 0 [] [] [] a.1.1 a.1.2):=by kernel_rfl
def yo:Any:=.one ⟨[(K10,true),(K5,false)],amf,2,fun x=>pV F0 x.1 x.2.1⟩
def J5:bw 155 yo:=aM vv ⟨Dm,B1,trivial⟩ func155 vw (by kernel_rfl)
def oJ:=[(190,rC),(233,oi)]
def oK:Nat->Option Hint:=look [(4,{live:=[0,5,6,7],xl:=[5],rl:=[4]})]
def eN (p:List D4)(i:Int)(c:List D4)(a b:List Int):= hD 48 [(0,x0 99 (K4) p),(5,.v (.c (.own 1000000 none))),de 6,(7,cD i)] [(6,[.own 1000001 none,.own 1000002 none])] [aJ 1000000 99 K4 c,aJ 1000001 3 (.int .i64) a,aJ 1000002 3 (.int .i64) b]
def px (a:List D4):= hD 48 [(5,.v (.c (.own 1000000 none)))] [] [aJ 1000000 99 K4 a]
def gl (a:St):Option U:=hl oJ F oK [.r,.r,.r,.l,.r,.b,.i] f303 J n a
def rX:=p9 oJ F oK [.r,.r,.r,.l,.r,.b] f303 rk 2
def wF (p:List D4)(i:Int)(a:List D4)(c d:List Int):gl F J (n+1) (eN p i a c d)=br (decide (i<(p.length:Int))) (br (decide ((a.length:Int)<2)) (ck (b5 i (p.length:Int)) ((wx F0 (c,d) (bd p i K4.aI)).bind fun b=>br (b.2.1==0) (ck (b5 i (p.length:Int)) (ck (fc F a.length [(bd p i K4.aI)].length 32) (gl F J n (eN p (ak (i+1)) (a++[(bd p i K4.aI)]) b.1.1 b.1.2)))) (br (b.2.1==4) (ck (b5 i (p.length:Int)) (ck (fc F a.length [(bd p i K4.aI)].length 32) (gl F J n (eN p (ak (i+1)) (a++[(bd p i K4.aI)]) b.1.1 b.1.2)))) (gl F J n (eN p (ak (i+1)) a c d))))) (J (.exit 0) (px a))) (J (.exit 0) (px a)):=by kernel_rfl
def yV (a:List D4):rX F (.exit 0) (px a)=some (a,()):=by kernel_rfl
abbrev ajn:List (Ty×Bool):=[(K5,false),(K10,true)]
def kt (p:D5)(l:D10):=cE oJ F oK f303 ajn rk 2 (p,l,())
def R8 (p:D5)(l:D10):kt F p l=(lE F0 l).bind fun a=>gl F (rX F) F.n (eN p 0 [] a.1.1 a.1.2):=by kernel_rfl
def DG:Any:=.one ⟨ajn,rk,2,fun x=>kt F0 x.1 x.2.1⟩
def R9:bw 303 DG:=aM oJ ⟨Dm,B1,trivial⟩ func303 oK (by kernel_rfl)
def fv (q:D9):=cE aN F ad f293 iW iW 2 (q,())
def XC (q:D9):fv F q=ck (fc F 0 q.2.2.length 8) (some ((q.1,q.2.1,[]++q.2.2),())):=by kernel_rfl
def e1:Any:=.one ⟨iW,iW,2,fun x=>fv F0 x.1⟩
def iB:bw 293 e1:=aM aN trivial func293 ad (by kernel_rfl)
def HX:=[(119,bK),(187,j9),(257,ir),(293,e1)]
abbrev api:List (Ty×Bool):=[(K1,true),(K9,true),(.int .i64,false),(K5,false)]
abbrev ajo:List (Ty×Bool):=[(K16,true),(.bool,false)]
def fw (c:D1)(q:D9)(a:Int)(b:D5):=cE HX F ad f268 api ajo 2 (c,q,a,b,())
def FJ (c:D1)(q:D9)(b:Int)(e:D5):fw F c q b e=(dX F0 q.2.1 b e).bind fun a=>(fv F0 q).bind fun d=>(jF F0 c (a.1,d.1)).bind fun f=>br (!f.1) (some ((ah,0,ah,[]),false,())) ((bY F0 a.1).bind fun g=>br (g.1 != b) (some ((ah,0,ah,[]),false,())) (some ((a.1,d.1),true,()))):=by kernel_rfl
def kX:Any:=.one ⟨api,ajo,2,fun x=>fw F0 x.1 x.2.1 x.2.2.1 x.2.2.2.1⟩
def uu:bw 268 kX:=aM HX ⟨cg,rv,oy,iB,trivial⟩ func268 ad (by kernel_rfl)
def XD:=[(115,bN),(155,yo),(156,jA),(157,Ch),(268,kX),(295,oq),(301,fu),(302,kW),(303,DG)]
def J6 (c:D1)(r:cN):=cE XD F ad f265 yQ ajo 2 (c,r,())
def aeR (c:D1)(r:cN):J6 F c r=(cQ F0 c r).bind fun g=>br (!g.1) (some ((ah,0,ah,[]),false,())) ((iA F0 c r.2.1).bind fun h=>br (h.1 != r.1) (some ((ah,0,ah,[]),false,())) (br (decide (r.2.2.1>=r.2.1)) (some ((ah,0,ah,[]),false,())) ((ks F0 r.2.2.2.2.2.1 r.2.1 ah).bind fun i=>br (r.2.2.2.1.2.2.1.1 != (ak (r.2.1-1))) ((pT F0 c).bind fun j=>br (decide ((i.1.2.2.length:Int)<j.1)) (some ((ah,0,ah,[]),false,())) ((fJ F0).bind fun b=>(pw F0 r.2.2.2.1.2.2.1.2.1).bind fun d=>(pV F0 b.1 d.1).bind fun e=>(kt F0 r.2.2.2.2.1 e.1).bind fun f=>(fw F0 c r.2.2.2.1.2.2.1 r.2.1 f.1).bind fun a=>some (a.1,a.2.1,()))) ((fJ F0).bind fun b=>(pw F0 r.2.2.2.1.2.2.1.2.1).bind fun d=>(pV F0 b.1 d.1).bind fun e=>(kt F0 r.2.2.2.2.1 e.1).bind fun f=>(fw F0 c r.2.2.2.1.2.2.1 r.2.1 f.1).bind fun a=>some (a.1,a.2.1,()))))):=by kernel_rfl
def G1:Any:=.one ⟨yQ,ajo,2,fun x=>J6 F0 x.1 x.2.1⟩
def TJ:bw 265 G1:=aM XD ⟨cn,J5,rA,Ng,uu,B4,jH,ur,R9,trivial⟩ func265 ad (by kernel_rfl)
def bh (a b:Int):=cE aN F ad f267 ajj gg 1 (a,b,())
def aaa (a b:Int):bh F a b=br (decide (a<b)) (some (a,())) (some (b,())):=by kernel_rfl
def fM:Any:=.one ⟨ajj,gg,1,fun x=>bh F0 x.1 x.2.1⟩
def ku:bw 267 fM:=aM aN trivial func267 ad (by kernel_rfl)
def hI:=[(97,cc),(98,al),(120,j7),(187,j9),(267,fM),(270,nM)]
def hJ:Nat->Option Hint:=look [(11,{live:=[3,4,5,6,7,9],CY:=[(4,5,3,.int .i64),(4,8,3,.int .i64),(4,11,3,.int .i64)],xl:=[4,5,6,7],rl:=[4]})]
def bP (r:Int)(name:ByteArray)(i:Int)(a:List Int)(b c w d:Int)(e:List Int)(f:List cN)(g:List fi)(h:List et)(s t:Int)(u:ByteArray)(v:Int)(x:ByteArray)(y:Int)(z:ByteArray)(A:Int)(B:ByteArray)(C j k l m:Int)(D o p q:List Int):St:={nt:=89,tm:=[de 3,de 4,(5,cD r),(6,C9 name),(7,.v (.c (.own 1000000 none))),(9,cD i)],bx:=[(4000000,[.ro true 5 (.int .u8) a,aw b,aw c]),(3,[aw w,aw d,.ro false 3 (.int .i64) e,.ro false 42 (dU) f,.ro false 95 (tn) g,.ro false 91 (iV) h]),(4,[aw s,aw t,.str u,aw v,.str x,.own 1000001 none,aw y,.str z,.own 1000002 none,aw A,.str B,.own 1000003 none,aw C,aw j,aw k,aw l,aw m])],bl:=[aJ 1000000 3 (.int .i64) D,aJ 1000001 3 (.int .i64) o,aJ 1000002 3 (.int .i64) p,aJ 1000003 3 (.int .i64) q],sp:=.v (.c (.ptr 4000000 0))}
def rY (k:Int)(name:ByteArray)(a:List Int)(b c l m:Int)(o:ByteArray)(p:Int)(q:ByteArray)(r:Int)(s:ByteArray)(t:Int)(u:ByteArray)(v d e f g:Int)(w h i j:List Int):St:={nt:=89,tm:=[de 4,(5,cD k),(6,C9 name),(7,.v (.c (.own 1000000 none)))],bx:=[(4000000,[.ro true 5 (.int .u8) a,aw b,aw c]),(4,[aw l,aw m,.str o,aw p,.str q,.own 1000001 none,aw r,.str s,.own 1000002 none,aw t,.str u,.own 1000003 none,aw v,aw d,aw e,aw f,aw g])],bl:=[aJ 1000000 3 (.int .i64) w,aJ 1000001 3 (.int .i64) h,aJ 1000002 3 (.int .i64) i,aJ 1000003 3 (.int .i64) j],sp:=.v (.c (.ptr 4000000 0))}
def ca (a:St):Option U:=hl hI F hJ [.r,.r,.r,.r,.r,.l,.r,.b,.i] f304 J n a
def df:=EV hI F hJ [.r,.r,.r,.r,.r,.l,.r,.b] f304 .cur yP aX 2
def nO (b:Int)(name:ByteArray)(i:Int)(c:List Int)(d e w A:Int)(B:List Int)(C:List cN)(D:List fi)(a:List et)(o p:Int)(q:ByteArray)(r:Int)(s:ByteArray)(t:Int)(u:ByteArray)(v:Int)(x:ByteArray)(y f g h j:Int)(z k l m:List Int):ca F J (n+1) (bP b name i c d e w A B C D a o p q r s t u v x y f g h j z k l m)=br (decide (i<(a.length:Int))) (ck (b5 i (a.length:Int)) (br ((bd a i iV.aI).1==b) (ck (b5 i (a.length:Int)) (br ((bd a i iV.aI).2.1.toList==name.toList) (ck (b5 i (a.length:Int)) ((iZ F0 z (bd a i iV.aI).2.2).bind fun E=>ca F J n (bP b name (ak (i+1)) c d e w A B C D a o p q r s t u v x y f g h j E.1 k l m))) (ca F J n (bP b name (ak (i+1)) c d e w A B C D a o p q r s t u v x y f g h j z k l m)))) (ca F J n (bP b name (ak (i+1)) c d e w A B C D a o p q r s t u v x y f g h j z k l m)))) (J (.exit 0) (rY b name c d e o p q r s t u v x y f g h j z k l m)):=by kernel_rfl
def FK (d:Int)(name:ByteArray)(a:List Int)(b c m o:Int)(p:ByteArray)(q:Int)(r:ByteArray)(s:Int)(t:ByteArray)(u:Int)(v:ByteArray)(w f g h i:Int)(e j k l:List Int):df F (.exit 0) (rY d name a b c m o p q r s t u v w f g h i e j k l)=some (((2,0,(ah,0,ah,[]),(d,name,e),(0,ah,[]),0,0,0,0,0),()),(a,b,c),()):=by kernel_rfl
abbrev abg:List (Ty×Bool):=[(K2,true),(fj,true)]
def kY (c:D2)(w:tv):=eX hI F hJ f304 abg 0 .cur yP aX 2 (c,w,())
def J7 (c:D2)(w:tv):kY F c w=(af F0 c 4).bind fun d=>(dX F0 ah (ak (1+d.1.1)) []).bind fun e=>ck (fc F 0 w.2.1.length 8) (br (decide ((w.2.2.2.2.length:Int)>0)) ((bh F0 (w.2.2.2.2.length:Int) 8).bind fun f=>(af F0 d.2.1 f.1).bind fun a=>ck (b5 (ak ((ak ((w.2.2.2.2.length:Int)-1))-a.1.1)) (w.2.2.2.2.length:Int)) ((cX F0 a.2.1 3).bind fun b=>br b.1.1 ((iq F0 (bd w.2.2.2.2 (ak ((ak ((w.2.2.2.2.length:Int)-1))-a.1.1)) iV.aI).2.1).bind fun g=>(dX F0 g.1 (bd w.2.2.2.2 (ak ((ak ((w.2.2.2.2.length:Int)-1))-a.1.1)) iV.aI).1 [(1,0,1,0)]).bind fun h=>ca F (df F) F.n (bP (bd w.2.2.2.2 (ak ((ak ((w.2.2.2.2.length:Int)-1))-a.1.1)) iV.aI).1 h.1 0 b.2.1.1 b.2.1.2.1 b.2.1.2.2 w.1.1 w.1.2 w.2.1 w.2.2.1 w.2.2.2.1 w.2.2.2.2 0 0 ah 0 ah 0 ah 0 ah 0 0 0 0 0 ([]++w.2.1) [] [] [])) (ca F (df F) F.n (bP (bd w.2.2.2.2 (ak ((ak ((w.2.2.2.2.length:Int)-1))-a.1.1)) iV.aI).1 (bd w.2.2.2.2 (ak ((ak ((w.2.2.2.2.length:Int)-1))-a.1.1)) iV.aI).2.1 0 b.2.1.1 b.2.1.2.1 b.2.1.2.2 w.1.1 w.1.2 w.2.1 w.2.2.1 w.2.2.2.1 w.2.2.2.2 0 0 ah 0 ah 0 ah 0 ah 0 0 0 0 0 ([]++w.2.1) [] [] [])))) (ca F (df F) F.n (bP (ak (1+d.1.1)) e.1 0 d.2.1.1 d.2.1.2.1 d.2.1.2.2 w.1.1 w.1.2 w.2.1 w.2.2.1 w.2.2.2.1 w.2.2.2.2 0 0 ah 0 ah 0 ah 0 ah 0 0 0 0 0 ([]++w.2.1) [] [] []))):=by kernel_rfl
def tF:Any:=.two ⟨abg,0,.cur,yP,2,aX,fun x=>kY F0 x.1 x.2.1⟩
def J8:bw 304 tF:=hA hI ⟨cY,ar,rh,rv,ku,AA,trivial⟩ func304 hJ (by kernel_rfl)
def AJ: Option (Args iW):=cE aN F ad f305 [] iW 2 (())
def UH: AJ F= some ((0,ah,[]),()):=by kernel_rfl
def FL:Any:=.one ⟨[],iW,2,fun x=>AJ F0⟩
def UI:bw 305 FL:=aM aN trivial func305 ad (by kernel_rfl)
def kZ:=[(97,cc),(98,al),(186,bW),(251,eu),(267,fM),(268,kX),(293,e1),(301,fu),(304,tF),(305,FL)]
def k0:Nat->Option Hint:=look [(17,{live:=[0,3,4,6,7,8,9],CY:=[(4,5,3,.int .i64),(4,8,3,.int .i64),(4,11,3,.int .i64)],xl:=[0,3,4,6,8],rl:=[4]})]
def aY (c9 t k:Int)(a:List Int)(b c w d:Int)(e:List Int)(f:List cN)(g:List fi)(h:List et)(u v:Int)(x:ByteArray)(y:Int)(z:ByteArray)(A:Int)(B:ByteArray)(C:Int)(D:ByteArray)(E i j l m q:Int)(o:ByteArray)(G p r s:List Int):St:={nt:=115,tm:=[(0,.v (.c (.ptr 4000000 0))),de 3,de 4,de 6,(7,cD c9),(8,cD t),(9,cD k)],bx:=[(4000000,[.ro true 5 (.int .u8) a,aw b,aw c]),(3,[aw w,aw d,.ro false 3 (.int .i64) e,.ro false 42 (dU) f,.ro false 95 (tn) g,.ro false 91 (iV) h]),(4,[aw u,aw v,.str x,aw y,.str z,.own 1000000 none,aw A,.str B,.own 1000001 none,aw C,.str D,.own 1000002 none,aw E,aw i,aw j,aw l,aw m]),(6,[aw q,.str o,.own 1000003 none])],bl:=[aJ 1000000 3 (.int .i64) G,aJ 1000001 3 (.int .i64) p,aJ 1000002 3 (.int .i64) r,aJ 1000003 3 (.int .i64) s],sp:=.v (.c (.ptr 4000000 0))}
def eH (s:Int)(a:List Int)(b c w d:Int)(e:List Int)(f:List cN)(g:List fi)(h:List et)(t u:Int)(v:ByteArray)(x:Int)(y:ByteArray)(z:Int)(A:ByteArray)(B:Int)(C:ByteArray)(D i j k l q:Int)(m:ByteArray)(E o p r:List Int):St:={nt:=115,tm:=[(0,.v (.c (.ptr 4000000 0))),de 3,de 4,de 6,(8,cD s)],bx:=[(4000000,[.ro true 5 (.int .u8) a,aw b,aw c]),(3,[aw w,aw d,.ro false 3 (.int .i64) e,.ro false 42 (dU) f,.ro false 95 (tn) g,.ro false 91 (iV) h]),(4,[aw t,aw u,.str v,aw x,.str y,.own 1000000 none,aw z,.str A,.own 1000001 none,aw B,.str C,.own 1000002 none,aw D,aw i,aw j,aw k,aw l]),(6,[aw q,.str m,.own 1000003 none])],bl:=[aJ 1000000 3 (.int .i64) E,aJ 1000001 3 (.int .i64) o,aJ 1000002 3 (.int .i64) p,aJ 1000003 3 (.int .i64) r],sp:=.v (.c (.ptr 4000000 0))}
def bj (a:St):Option U:=hl kZ F k0 [.r,.r,.r,.r,.r,.r,.r,.r,.l,.r,.b,.i] f266 J n a
def aZ:=EV kZ F k0 [.r,.r,.r,.r,.r,.r,.r,.r,.l,.r,.b] f266 .cur yP aX 2
def rZ (c9 a k:Int)(c:List Int)(d e w b:Int)(f:List Int)(g:List cN)(h:List fi)(i:List et)(u v:Int)(x:ByteArray)(y:Int)(z:ByteArray)(A:Int)(B:ByteArray)(C:Int)(D:ByteArray)(E j l m o q:Int)(p:ByteArray)(G r s t:List Int):bj F J (n+1) (aY c9 a k c d e w b f g h i u v x y z A B C D E j l m o q p G r s t)=br (decide (k<7)) (br (decide (a<60)) ((iA F0 (w,b) a).bind fun H=>br (H.1 != c9) (bj F J n (aY c9 (ak (a+1)) (ak (k+1)) c d e w b f g h i u v x y z A B C D E j l m o q p G r s t)) (J (.exit 1) (eH a c d e w b f g h i u v x y z A B C D E j l m o q p G r s t))) (J (.exit 1) (eH a c d e w b f g h i u v x y z A B C D E j l m o q p G r s t))) (J (.exit 1) (eH a c d e w b f g h i u v x y z A B C D E j l m o q p G r s t)):=by kernel_rfl
def IU (h:Int)(a:List Int)(b c w d:Int)(i:List Int)(j:List cN)(k:List fi)(l:List et)(v x:Int)(y:ByteArray)(z:Int)(A:ByteArray)(B:Int)(C:ByteArray)(D:Int)(E:ByteArray)(G m o p r q:Int)(e:ByteArray)(H s t f:List Int):aZ F (.exit 1) (eH h a b c w d i j k l v x y z A B C D E G m o p r q e H s t f)=(cd F0 (a,b,c)).bind fun g=>(fw F0 (w,d) (q,e,f) h [g.1.1]).bind fun u=>some (((1,0,u.1,(0,ah,[]),(0,ah,[]),0,0,0,0,0),()),g.2.1,()):=by kernel_rfl
def e2 (c:D2)(w:tv):=eX kZ F k0 f266 abg 0 .cur yP aX 2 (c,w,())
def Ov (c:D2)(w:tv):e2 F c w=(kY F0 c w).bind fun b=>(gk F0 w.1 b.1.1.2.2.2.1).bind fun k=>br (!k.1) ((AJ F0).bind fun d=>br (decide ((w.2.2.1.length:Int)>0)) ((cX F0 b.2.1 2).bind fun i=>br i.1.1 ((af F0 i.2.1 (w.2.2.1.length:Int)).bind fun j=>ck (b5 j.1.1 (w.2.2.1.length:Int)) ((fv F0 (bd w.2.2.1 j.1.1 dU.aI).2.2.2.1.2.2.1).bind fun h=>br (decide ((w.2.1.length:Int)>0)) ((af F0 j.2.1 (w.2.1.length:Int)).bind fun f=>ck (b5 f.1.1 (w.2.1.length:Int)) ((af F0 f.2.1 4).bind fun a=>br (a.1.1==0) (some ((b.1.1,()),a.2.1,())) (br (a.1.1==1) ((af F0 a.2.1 2).bind fun e=>(bh F0 (ak ((ak (h.1.1+1))+e.1.1)) 60).bind fun g=>some (((3,g.1,(ah,0,ah,[]),(0,ah,[]),h.1,bd w.2.1 f.1.1 0,0,0,0,0),()),e.2.1,())) (bj F (aZ F) F.n (aY (bd w.2.1 f.1.1 0) (ak (h.1.1+1)) 0 a.2.1.1 a.2.1.2.1 a.2.1.2.2 w.1.1 w.1.2 w.2.1 w.2.2.1 w.2.2.2.1 w.2.2.2.2 0 0 ah 0 ah 0 ah 0 ah 0 0 0 0 0 h.1.1 h.1.2.1 [] [] [] h.1.2.2))))) ((af F0 j.2.1 4).bind fun a=>br (a.1.1==0) (some ((b.1.1,()),a.2.1,())) (br (a.1.1==1) ((af F0 a.2.1 2).bind fun e=>(bh F0 (ak ((ak (h.1.1+1))+e.1.1)) 60).bind fun g=>some (((3,g.1,(ah,0,ah,[]),(0,ah,[]),h.1,0,0,0,0,0),()),e.2.1,())) (bj F (aZ F) F.n (aY 0 (ak (h.1.1+1)) 0 a.2.1.1 a.2.1.2.1 a.2.1.2.2 w.1.1 w.1.2 w.2.1 w.2.2.1 w.2.2.2.1 w.2.2.2.2 0 0 ah 0 ah 0 ah 0 ah 0 0 0 0 0 h.1.1 h.1.2.1 [] [] [] h.1.2.2)))))) (br (decide ((w.2.1.length:Int)>0)) ((af F0 i.2.1 (w.2.1.length:Int)).bind fun f=>ck (b5 f.1.1 (w.2.1.length:Int)) ((af F0 f.2.1 4).bind fun a=>br (a.1.1==0) (some ((b.1.1,()),a.2.1,())) (br (a.1.1==1) ((af F0 a.2.1 2).bind fun e=>(bh F0 (ak ((ak (d.1.1+1))+e.1.1)) 60).bind fun g=>some (((3,g.1,(ah,0,ah,[]),(0,ah,[]),d.1,bd w.2.1 f.1.1 0,0,0,0,0),()),e.2.1,())) (bj F (aZ F) F.n (aY (bd w.2.1 f.1.1 0) (ak (d.1.1+1)) 0 a.2.1.1 a.2.1.2.1 a.2.1.2.2 w.1.1 w.1.2 w.2.1 w.2.2.1 w.2.2.2.1 w.2.2.2.2 0 0 ah 0 ah 0 ah 0 ah 0 0 0 0 0 d.1.1 d.1.2.1 [] [] [] d.1.2.2))))) ((af F0 i.2.1 4).bind fun a=>br (a.1.1==0) (some ((b.1.1,()),a.2.1,())) (br (a.1.1==1) ((af F0 a.2.1 2).bind fun e=>(bh F0 (ak ((ak (d.1.1+1))+e.1.1)) 60).bind fun g=>some (((3,g.1,(ah,0,ah,[]),(0,ah,[]),d.1,0,0,0,0,0),()),e.2.1,())) (bj F (aZ F) F.n (aY 0 (ak (d.1.1+1)) 0 a.2.1.1 a.2.1.2.1 a.2.1.2.2 w.1.1 w.1.2 w.2.1 w.2.2.1 w.2.2.2.1 w.2.2.2.2 0 0 ah 0 ah 0 ah 0 ah 0 0 0 0 0 d.1.1 d.1.2.1 [] [] [] d.1.2.2)))))) (br (decide ((w.2.1.length:Int)>0)) ((af F0 b.2.1 (w.2.1.length:Int)).bind fun f=>ck (b5 f.1.1 (w.2.1.length:Int)) ((af F0 f.2.1 4).bind fun a=>br (a.1.1==0) (some ((b.1.1,()),a.2.1,())) (br (a.1.1==1) ((af F0 a.2.1 2).bind fun e=>(bh F0 (ak ((ak (d.1.1+1))+e.1.1)) 60).bind fun g=>some (((3,g.1,(ah,0,ah,[]),(0,ah,[]),d.1,bd w.2.1 f.1.1 0,0,0,0,0),()),e.2.1,())) (bj F (aZ F) F.n (aY (bd w.2.1 f.1.1 0) (ak (d.1.1+1)) 0 a.2.1.1 a.2.1.2.1 a.2.1.2.2 w.1.1 w.1.2 w.2.1 w.2.2.1 w.2.2.2.1 w.2.2.2.2 0 0 ah 0 ah 0 ah 0 ah 0 0 0 0 0 d.1.1 d.1.2.1 [] [] [] d.1.2.2))))) ((af F0 b.2.1 4).bind fun a=>br (a.1.1==0) (some ((b.1.1,()),a.2.1,())) (br (a.1.1==1) ((af F0 a.2.1 2).bind fun e=>(bh F0 (ak ((ak (d.1.1+1))+e.1.1)) 60).bind fun g=>some (((3,g.1,(ah,0,ah,[]),(0,ah,[]),d.1,0,0,0,0,0),()),e.2.1,())) (bj F (aZ F) F.n (aY 0 (ak (d.1.1+1)) 0 a.2.1.1 a.2.1.2.1 a.2.1.2.2 w.1.1 w.1.2 w.2.1 w.2.2.1 w.2.2.2.1 w.2.2.2.2 0 0 ah 0 ah 0 ah 0 ah 0 0 0 0 0 d.1.1 d.1.2.1 [] [] [] d.1.2.2)))))) (br (decide ((w.2.1.length:Int)>0)) ((af F0 b.2.1 (w.2.1.length:Int)).bind fun f=>ck (b5 f.1.1 (w.2.1.length:Int)) ((af F0 f.2.1 4).bind fun a=>br (a.1.1==0) (some ((b.1.1,()),a.2.1,())) (br (a.1.1==1) ((af F0 a.2.1 2).bind fun e=>(bh F0 (ak ((ak (b.1.1.2.2.2.1.1+1))+e.1.1)) 60).bind fun g=>some (((3,g.1,(ah,0,ah,[]),(0,ah,[]),b.1.1.2.2.2.1,bd w.2.1 f.1.1 0,0,0,0,0),()),e.2.1,())) (bj F (aZ F) F.n (aY (bd w.2.1 f.1.1 0) (ak (b.1.1.2.2.2.1.1+1)) 0 a.2.1.1 a.2.1.2.1 a.2.1.2.2 w.1.1 w.1.2 w.2.1 w.2.2.1 w.2.2.2.1 w.2.2.2.2 0 0 ah 0 ah 0 ah 0 ah 0 0 0 0 0 b.1.1.2.2.2.1.1 b.1.1.2.2.2.1.2.1 [] [] [] b.1.1.2.2.2.1.2.2))))) ((af F0 b.2.1 4).bind fun a=>br (a.1.1==0) (some ((b.1.1,()),a.2.1,())) (br (a.1.1==1) ((af F0 a.2.1 2).bind fun e=>(bh F0 (ak ((ak (b.1.1.2.2.2.1.1+1))+e.1.1)) 60).bind fun g=>some (((3,g.1,(ah,0,ah,[]),(0,ah,[]),b.1.1.2.2.2.1,0,0,0,0,0),()),e.2.1,())) (bj F (aZ F) F.n (aY 0 (ak (b.1.1.2.2.2.1.1+1)) 0 a.2.1.1 a.2.1.2.1 a.2.1.2.2 w.1.1 w.1.2 w.2.1 w.2.2.1 w.2.2.2.1 w.2.2.2.2 0 0 ah 0 ah 0 ah 0 ah 0 0 0 0 0 b.1.1.2.2.2.1.1 b.1.1.2.2.2.1.2.1 [] [] [] b.1.1.2.2.2.1.2.2))))):=by kernel_rfl
def yW:Any:=.two ⟨abg,0,.cur,yP,2,aX,fun x=>e2 F0 x.1 x.2.1⟩
def Ow:bw 266 yW:=hA kZ ⟨cY,ar,cL,gC,ku,uu,iB,jH,J8,UI,trivial⟩ func266 k0 (by kernel_rfl)
end
end Go.Am.Tryz
