/- Lemmas for the claim. No condition. -/
import Derived.Test.YtfapcfpkbahneaaGreatDoorQlVJG4
set_option linter.all false
set_option maxRecDepth 100000
namespace Go.Am.Tryz
open Go.Am Go.Proofs Go.Proofs.Tryz
noncomputable section
variable {α:Type} (F:rQ) (κ:Ex→St→Option α) (n:Nat)
def SX:=[(91,lR)]
def Df (a b:D9):=bF SX F ab f218 xi aZ 1 (a,b,())
theorem af2 (a b:D9):Df F a b=br (a.1==b.1) (br (a.2.1.toList==b.2.1.toList) ((iA F0 a.2.2 b.2.2).bind fun gr=>some (gr.1,())) (some (false,()))) (some (false,())):=by kernel_rfl
def Mm:Any:=.one ⟨xi,aZ,1,fun x=>Df F0 x.1 x.2.1⟩
theorem af3:bm 218 Mm:=aA SX ⟨xv,trivial⟩ func218 ab (by kernel_rfl)
def Vz:=[(46,kB),(217,JZ),(218,Mm)]
def HL (a b:NA):=bF Vz F ab f157 aBY aZ 1 (a,b,())
theorem akj (a b:NA):HL F a b=br (a.1==b.1) (br (a.2.1==b.2.1) ((zI F0 a.2.2.1 b.2.2.1).bind fun gr=>br gr.1 ((Df F0 a.2.2.2.1 b.2.2.2.1).bind fun Ou=>br Ou.1 ((jJ F0 a.2.2.2.2.1 b.2.2.2.2.1).bind fun r36=>br r36.1 (br (a.2.2.2.2.2.1==b.2.2.2.2.2.1) (some ((a.2.2.2.2.2.2.1==b.2.2.2.2.2.2.1)&&((a.2.2.2.2.2.2.2.1==b.2.2.2.2.2.2.2.1)&&((a.2.2.2.2.2.2.2.2.1==b.2.2.2.2.2.2.2.2.1)&&((a.2.2.2.2.2.2.2.2.2==b.2.2.2.2.2.2.2.2.2)&&true))),())) (some (false,()))) (some (false,()))) (some (false,()))) (some (false,()))) (some (false,()))) (some (false,())):=by kernel_rfl
def Po:Any:=.one ⟨aBY,aZ,1,fun x=>HL F0 x.1 x.2.1⟩
theorem akk:bm 157 Po:=aA Vz ⟨rk,ada,af3,trivial⟩ func157 ab (by kernel_rfl)
def fc:Nat→Option Hint:=look [(2,{live:=[0,1,5],rl:=[4]})]
def eA (s:ByteArray)(c i:Int):= cV 19 [(0,Yl s),(1,.v (.c (.int .u8 c))),(5,bR i)]
def l4 (t4:Int):= cV 19 [(4,bR t4)]
def zJ   := cV 19 []
def fe (st:St):Option α:=gW aF F fc [.r,.l,.r,.b,.i] f309 κ n st
def gy:=jF aF F fc [.r,.l,.r,.b] f309 dD 1
theorem j6 (s:ByteArray)(c i:Int):fe F κ (n+1) (eA s c i)=br (decide (i≥0)) (ck (cl i (s.size:Int)) (br ((lN s i)==c) (κ .ret (l4 i)) (fe F κ n (eA s c (aj (i-1)))))) (κ (.exit 0) (zJ)):=by kernel_rfl
theorem zK (t4:Int):gy F .ret (l4 t4)=some (t4,()):=by kernel_rfl
def ju (s:ByteArray)(c:Int):=bF aF F fc f309 Yo dD 1 (s,c,())
theorem BM (s:ByteArray)(c:Int):ju F s c=fe F (gy F) F.n (eA s c (aj ((s.size:Int)-1))):=by kernel_rfl
def l5:Any:=.one ⟨Yo,dD,1,fun x=>ju F0 x.1 x.2.1⟩
theorem BN:bm 309 l5:=aA aF trivial func309 fc (by kernel_rfl)
def xy:=[(309,l5)]
def pT (s:ByteArray)(c:Int):=bF xy F ab f262 Yo dD 1 (s,c,())
theorem NH (s:ByteArray)(c:Int):pT F s c=(ju F0 s c).bind fun r7=>some (r7.1,()):=by kernel_rfl
def tF:Any:=.one ⟨Yo,dD,1,fun x=>pT F0 x.1 x.2.1⟩
theorem NI:bm 262 tF:=aA xy ⟨BN,trivial⟩ func262 ab (by kernel_rfl)
def aif:=[(19,fB),(262,tF)]
def sN (s:ByteArray):=bF aif F ab f219 ew ew 1 (s,())
theorem auz (s:ByteArray):sN F s=(fG F0 s).bind fun r4=>br (!r4.1) (some (al,())) (br (s.toList==al.toList) (some (al,())) ((pT F0 s 47).bind fun cN=>ck (RN 0 cN.1 (s.size:Int)) (some (s.extract (0:Int).toNat cN.1.toNat,())))):=by kernel_rfl
def Dg:Any:=.one ⟨ew,ew,1,fun x=>sN F0 x.1⟩
theorem Q0:bm 219 Dg:=aA aif ⟨iB,NI,trivial⟩ func219 ab (by kernel_rfl)
def VA:=[(19,fB),(152,jL),(219,Dg)]
def n8 (c:D1)(b:D15):=bF VA F ab f159 aBZ aZ 1 (c,b,())
theorem akl (c:D1)(b:D15):n8 F c b=(mT F0 c b.2).bind fun r8=>br r8.1 (br (!(b.1.toList==al.toList)) ((fG F0 b.1).bind fun fh=>br fh.1 ((sN F0 b.1).bind fun gr=>some (gr.1.toList==b.2.2.1.toList,())) (some (false,()))) (some (false,()))) (some (false,())):=by kernel_rfl
def mV:Any:=.one ⟨aBZ,aZ,1,fun x=>n8 F0 x.1 x.2.1⟩
theorem vM:bm 159 mV:=aA VA ⟨iB,n6,Q0,trivial⟩ func159 ab (by kernel_rfl)
def adb:=[(32,dx),(67,bL),(152,jL),(153,jK),(155,o6),(157,Po),(158,Vy),(159,mV)]
def gO (c:D1)(m:NA):=bF adb F ab f94 ahS aZ 1 (c,m,())
theorem aqQ (c:D1)(m:NA):gO F c m=(e9 F0 c).bind fun r6=>br (!r6.1) (some (false,())) ((QZ F0 m).bind fun dA=>(HL F0 m dA.1).bind fun cN=>br (!cN.1) (some (false,())) (br (m.1==1) ((n8 F0 c m.2.2.1).bind fun gr=>some (gr.1,())) (br (m.1==2) ((rr F0 c m.2.2.2.1).bind fun UE=>br UE.1 (some (!(m.2.2.2.1.2.1.toList==al.toList),())) (some (false,()))) (br (m.1==3) ((bd F0 m.2.1 1 60).bind fun Qs=>br Qs.1 ((mT F0 c m.2.2.2.2.1).bind fun r44=>br r44.1 ((bd F0 m.2.2.2.2.2.1 0 (aj (c.1-1))).bind fun r52=>some (r52.1,())) (some (false,()))) (some (false,()))) (br (m.1==4) ((pH F0 m.2.2.2.2.2.2).bind fun r58=>some (r58.1,())) (some (false,()))))))):=by kernel_rfl
def mW:Any:=.one ⟨ahS,aZ,1,fun x=>gO F0 x.1 x.2.1⟩
theorem uo:bm 94 mW:=aA adb ⟨eI,cm,n6,n5,zD,akk,aqP,vM,trivial⟩ func94 ab (by kernel_rfl)
def HM:=[(32,dx),(42,o7),(67,bL),(90,kC),(92,FD),(93,BL),(94,mW)]
def HN:Nat→Option Hint:=look [(4,{live:=[2,3,64,65,66],rl:=[4]})]
def zL (t64:List lL)(t65 t66 c c1 r r1 r2 r3 r4 r5:Int)(r6:ByteArray)(r7:List Int)(r8:ByteArray)(r9:List D4)(hY:List D9)(dA:List Int)(cN:Int)(cj:List lL):= er 92 [cS 2,cS 3,(64,jO 146 (qK) t64),(65,bR t65),(66,bR t66)] [(2,[aq c,aq c1]),(3,[aq r,aq r1,aq r2,aq r3,aq r4,aq r5,.str r6,.ro false 3 (.int .i64) r7,.str r8,.ro false 76 (K4) r9,.ro false 74 (K9) hY,.ro false 5 (.int .u8) dA,aq cN,.ro false 146 (qK) cj])] []
def zM (t4:Bool):= cV 92 [(4,RP t4)]
def SY   := cV 92 []
def HO (st:St):Option α:=gW HM F HN [.r,.r,.l,.r,.b,.i] f47 κ n st
def zN:=jF HM F HN [.r,.r,.l,.r,.b] f47 aZ 1
theorem Mn (t64:List lL)(t65 t66 c c1 r r1 r2 r3 r4 r5:Int)(r6:ByteArray)(r7:List Int)(r8:ByteArray)(r9:List D4)(hY:List D9)(dA:List Int)(cN:Int)(cj:List lL):HO F κ (n+1) (zL t64 t65 t66 c c1 r r1 r2 r3 r4 r5 r6 r7 r8 r9 hY dA cN cj)=br (decide (t66<t65)) (ck (cl t66 (t64.length:Int)) ((gO F0 (c,c1) (aP t64 t66 qK.aG).2).bind fun r73=>br (!r73.1) (κ .ret (zM false)) ((bd F0 (aP t64 t66 qK.aG).1 0 (aj (c-1))).bind fun r81=>br (!r81.1) (κ .ret (zM false)) (br ((aP t64 t66 qK.aG).1==r) (κ .ret (zM false)) (HO F κ n (zL t64 t65 (aj (t66+1)) c c1 r r1 r2 r3 r4 r5 r6 r7 r8 r9 hY dA cN cj)))))) (κ (.exit 0) (SY)):=by kernel_rfl
theorem akm (t4:Bool):zN F .ret (zM t4)=some (t4,()):=by kernel_rfl
theorem af4: zN F (.exit 0) (SY)=some (true,()):=by kernel_rfl
def c8 (c:D1)(r:bz):=bF HM F HN f47 xK aZ 1 (c,r,())
theorem aqR (c:D1)(r:bz):c8 F c r=(e9 F0 c).bind fun r8=>br (!r8.1) (some (false,())) ((bd F0 r.1 0 (aj (c.1-1))).bind fun oM=>br (!oM.1) (some (false,())) ((bd F0 r.2.1 1 60).bind fun gr=>br (!gr.1) (some (false,())) ((bd F0 r.2.2.1 0 60).bind fun UE=>br (!UE.1) (some (false,())) ((ld F0 c r.2.2.2.1).bind fun r35=>br (!r35.1) (some (false,())) ((xw F0 r.2.2.2.2.1).bind fun r41=>br (!r41.1) (some (false,())) ((lg F0 c r.2.2.2.2.2.1).bind fun r48=>br (!r48.1) (some (false,())) ((rv F0 r.2.2.2.2.2.2.1).bind fun W3=>br (!W3.1) (some (false,())) (br (decide ((r.2.2.2.2.2.2.2.length:Int)>30)) (some (false,())) (HO F (zN F) F.n (zL r.2.2.2.2.2.2.2 (r.2.2.2.2.2.2.2.length:Int) 0 c.1 c.2 r.1 r.2.1 r.2.2.1 r.2.2.2.1.1 r.2.2.2.1.2.1 r.2.2.2.1.2.2.1.1 r.2.2.2.1.2.2.1.2.1 r.2.2.2.1.2.2.1.2.2 r.2.2.2.1.2.2.2 r.2.2.2.2.1 r.2.2.2.2.2.1 r.2.2.2.2.2.2.1.1 r.2.2.2.2.2.2.1.2 r.2.2.2.2.2.2.2)))))))))):=by kernel_rfl
def cC:Any:=.one ⟨xK,aZ,1,fun x=>c8 F0 x.1 x.2.1⟩
theorem da:bm 47 cC:=aA HM ⟨eI,zH,cm,rq,Vx,SW,uo,trivial⟩ func47 HN (by kernel_rfl)
def Zo:=[(47,cC)]
def Mo (c:D1)(id:Int):=bF Zo F ab f33 ahT hZ 2 (c,id,())
theorem anW (c:D1)(id:Int):Mo F c id=(c8 F0 c (id,1,0,(0,0,(0,al,[]),al),[],[],([],0),[])).bind fun dA=>br (!dA.1) (some ((0,0,0,(0,0,(0,al,[]),al),[],[],([],0),[]),false,())) (some ((id,1,0,(0,0,(0,al,[]),al),[],[],([],0),[]),true,())):=by kernel_rfl
def SZ:Any:=.one ⟨ahT,hZ,2,fun x=>Mo F0 x.1 x.2.1⟩
theorem anX:bm 33 SZ:=aA Zo ⟨da,trivial⟩ func33 ab (by kernel_rfl)
def Dh:=[(67,bL)]
def Di:Nat→Option Hint:=look [(4,{live:=[0,3],mat:=[(3,5,.int .u8)],xl:=[0,3],rl:=[2]})]
def o8 (n1:Int)(xs:List Int):= er 23 [(0,bR n1),(3,.v (.c (.own 1000000 none)))] [] [aB 1000000 5 (.int .u8) xs]
def Pp (n1:Int)(xs:List Int):= er 23 [(0,bR n1),(3,.v (.c (.own 1000000 none)))] [] [aB 1000000 5 (.int .u8) xs]
def uq (st:St):Option α:=gW Dh F Di [.r,.r,.r,.l,.b,.i] f151 κ n st
def vN:=jF Dh F Di [.r,.r,.r,.l,.b] f151 mn 2
theorem n9 (n1:Int)(xs:List Int):uq F κ (n+1) (o8 n1 xs)=br (decide (n1≥128)) (ck (fg F xs.length [IntKind.wrap .u8 (aj ((Int.tmod n1 128)+128))].length 1) (uq F κ n (o8 (aj (Int.tdiv n1 128)) (xs++[IntKind.wrap .u8 (aj ((Int.tmod n1 128)+128))])))) (κ (.exit 0) (Pp n1 xs)):=by kernel_rfl
theorem qo (n1:Int)(xs:List Int):vN F (.exit 0) (Pp n1 xs)=ck (fg F xs.length [IntKind.wrap .u8 (n1)].length 1) (some (xs++[IntKind.wrap .u8 (n1)],())):=by kernel_rfl
def fH (n1:Int):=bF Dh F Di f151 dD mn 2 (n1,())
theorem VB (n1:Int):fH F n1=(bd F0 n1 0 2147483647).bind fun r5=>br (!r5.1) (some ([],())) (uq F (vN F) F.n (o8 n1 [])):=by kernel_rfl
def jb:Any:=.one ⟨dD,mn,2,fun x=>fH F0 x.1⟩
theorem mX:bm 151 jb:=aA Dh ⟨cm,trivial⟩ func151 Di (by kernel_rfl)
def Dj:=[(67,bL),(151,jb)]
def Dk:Nat→Option Hint:=look [(5,{live:=[0,1,7,8],rl:=[4,5,6]})]
def vO (b:List Int)(iN n1 i:Int):= cV 55 [(0,jO 5 (.int .u8) b),(1,bR iN),(7,bR n1),(8,bR i)]
def FE (t4 t5:Int)(t6:Bool):= cV 55 [(4,bR t4),(5,bR t5),(6,RP t6)]
def BO   := cV 55 []
def Dl (st:St):Option α:=gW Dj F Dk [.r,.r,.r,.l,.r,.b,.i] f86 κ n st
def vP:=jF Dj F Dk [.r,.r,.r,.l,.r,.b] f86 asc 1
theorem J0 (b:List Int)(iN n1 i:Int):Dl F κ (n+1) (vO b iN n1 i)=br (decide (i<5)) (br (decide ((aj (iN+i))<(b.length:Int))) (ck (cl (aj (iN+i)) (b.length:Int)) (ck (decide (0≤(aj (7*i)))) (br (decide ((aj (aP b (aj (iN+i)) 0))<128)) ((fH F0 (aj (n1+(aj ((Int.tmod (aj (aP b (aj (iN+i)) 0)) 128)*2 ^ (min (aj (7*i)).toNat 64)))))).bind fun r45=>br ((r45.1.length:Int) != (aj (i+1))) (κ .ret (FE 0 0 false)) (κ .ret (FE (aj (n1+(aj ((Int.tmod (aj (aP b (aj (iN+i)) 0)) 128)*2 ^ (min (aj (7*i)).toNat 64))))) (aj ((aj (iN+i))+1)) true))) (Dl F κ n (vO b iN (aj (n1+(aj ((Int.tmod (aj (aP b (aj (iN+i)) 0)) 128)*2 ^ (min (aj (7*i)).toNat 64))))) (aj (i+1))))))) (κ (.exit 0) (BO))) (κ (.exit 0) (BO)):=by kernel_rfl
theorem Pq (t4 t5:Int)(t6:Bool):vP F .ret (FE t4 t5 t6)=some (t4,t5,t6,()):=by kernel_rfl
theorem Mp: vP F (.exit 0) (BO)=some (0,0,false,()):=by kernel_rfl
def xz (b:List Int)(iN:Int):=bF Dj F Dk f86 YH asc 1 (b,iN,())
theorem anY (b:List Int)(iN:Int):xz F b iN=(bd F0 iN 0 (aj ((b.length:Int)-1))).bind fun lM=>br (!lM.1) (some (0,0,false,())) (Dl F (vP F) F.n (vO b iN 0 0)):=by kernel_rfl
def FF:Any:=.one ⟨YH,asc,1,fun x=>xz F0 x.1 x.2.1⟩
theorem VC:bm 86 FF:=aA Dj ⟨cm,mX,trivial⟩ func86 Dk (by kernel_rfl)
def Mq:=[(86,FF)]
def bT (r:D32):=DX Mq F ab f87 iO 0 .cur dD iO 1 (r,())
theorem aaP (r:D32):bT F r=(xz F0 r.1 r.2.1).bind fun py=>br r.2.2 (some ((0,()),(r.1,r.2.1,true),())) (br (!py.2.2.1) (some ((0,()),(r.1,r.2.1,true),())) (some ((py.1,()),(r.1,py.2.1,r.2.2),()))):=by kernel_rfl
def jl:Any:=.two ⟨iO,0,.cur,dD,1,iO,fun x=>bT F0 x.1⟩
theorem oa:bm 87 jl:=Uy Mq ⟨VC,trivial⟩ func87 ab (by kernel_rfl)
def VD:=[(86,FF)]
def og (b:List Int)(iN:Int):=bF VD F ab f44 YH aB0 1 (b,iN,())
theorem akn (b:List Int)(iN:Int):og F b iN=(xz F0 b iN).bind fun cj=>br (!cj.2.2.1) (some (al,0,false,())) (br (decide (cj.1>(aj ((b.length:Int)-cj.2.1)))) (some (al,0,false,())) (ck (RN cj.2.1 (aj (cj.2.1+cj.1)) (b.length:Int)) (some (strOf ((b.take (aj (cj.2.1+cj.1)).toNat).drop cj.2.1.toNat),aj (cj.2.1+cj.1),true,())))):=by kernel_rfl
def BP:Any:=.one ⟨YH,aB0,1,fun x=>og F0 x.1 x.2.1⟩
theorem S1:bm 44 BP:=aA VD ⟨VC,trivial⟩ func44 ab (by kernel_rfl)
def J1:=[(44,BP)]
def gP (r:D32):=DX J1 F ab f89 iO 0 .cur ew iO 1 (r,())
theorem XT (r:D32):gP F r=(og F0 r.1 r.2.1).bind fun py=>br r.2.2 (some ((al,()),(r.1,r.2.1,true),())) (br (!py.2.2.1) (some ((al,()),(r.1,r.2.1,true),())) (some ((py.1,()),(r.1,py.2.1,r.2.2),()))):=by kernel_rfl
def lh:Any:=.two ⟨iO,0,.cur,ew,1,iO,fun x=>gP F0 x.1⟩
theorem tR:bm 89 lh:=Uy J1 ⟨S1,trivial⟩ func89 ab (by kernel_rfl)
def oh:=[(87,jl)]
def om:Nat→Option Hint:=look [(4,{live:=[0,3,4,5],mat:=[(3,3,.int .i64)],xl:=[3],rl:=[2]})]
def lj (count i:Int)(aC:List Int)(au:Int)(ar:Bool)(xs:List Int):St:={nt:=26,tm:=[(0,.v (.c (.ptr 4000000 0))),(3,.v (.c (.own 1000000 none))),(4,bR count),(5,bR i)],bx:=[(4000000,[.ro true 5 (.int .u8) aC,aq au,.bool ar])],bl:=[aB 1000000 3 (.int .i64) xs],sp:=.v (.c (.ptr 4000000 0))}
def kf (aC:List Int)(au:Int)(ar:Bool)(xs:List Int):St:={nt:=26,tm:=[(3,.v (.c (.own 1000000 none)))],bx:=[(4000000,[.ro true 5 (.int .u8) aC,aq au,.bool ar])],bl:=[aB 1000000 3 (.int .i64) xs],sp:=.v (.c (.ptr 4000000 0))}
def oo (st:St):Option α:=gW oh F om [.r,.r,.r,.l,.r,.b,.i] f122 κ n st
def ry:=awP oh F om [.r,.r,.r,.l,.r,.b] f122 .cur kp iO 2
theorem xA (count i:Int)(aC:List Int)(au:Int)(ar:Bool)(xs:List Int):oo F κ (n+1) (lj count i aC au ar xs)=br (decide (i<count)) (br (!ar) ((bT F0 (aC,au,ar)).bind fun gr=>ck (fg F xs.length [gr.1.1].length 8) (oo F κ n (lj count (aj (i+1)) gr.2.1.1 gr.2.1.2.1 gr.2.1.2.2 (xs++[gr.1.1])))) (κ (.exit 0) (kf aC au ar xs))) (κ (.exit 0) (kf aC au ar xs)):=by kernel_rfl
theorem Q1 (aC:List Int)(au:Int)(ar:Bool)(xs:List Int):ry F (.exit 0) (kf aC au ar xs)=some ((xs,()),(aC,au,ar),()):=by kernel_rfl
def mY (r:D32):=DX oh F om f122 iO 0 .cur kp iO 2 (r,())
theorem XU (r:D32):mY F r=(bT F0 r).bind fun r7=>oo F (ry F) F.n (lj r7.1.1 0 r7.2.1.1 r7.2.1.2.1 r7.2.1.2.2 []):=by kernel_rfl
def rz:Any:=.two ⟨iO,0,.cur,kp,2,iO,fun x=>mY F0 x.1⟩
theorem Gt:bm 122 rz:=Uy oh ⟨oa,trivial⟩ func122 om (by kernel_rfl)
def Pr:=[(87,jl),(89,lh),(122,rz)]
def mZ (r:D32):=DX Pr F ab f88 iO 0 .cur gX iO 2 (r,())
theorem ade (r:D32):mZ F r=(bT F0 r).bind fun r5=>(gP F0 r5.2.1).bind fun r8=>(mY F0 r8.2.1).bind fun dA=>some (((r5.1.1,r8.1.1,dA.1.1),()),dA.2.1,()):=by kernel_rfl
def wL:Any:=.two ⟨iO,0,.cur,gX,2,iO,fun x=>mZ F0 x.1⟩
theorem Mr:bm 88 wL:=Uy Pr ⟨oa,tR,Gt,trivial⟩ func88 ab (by kernel_rfl)
def adf:=[(87,jl),(88,wL),(89,lh),(94,mW),(122,rz)]
def J2 (c:D1)(b:List Int):=bF adf F ab f70 R7 aB1 2 (c,b,())
theorem aqS (c:D1)(b:List Int):J2 F c b=(bT F0 (b,0,false)).bind fun cN=>br (cN.1.1==1) ((gP F0 cN.2.1).bind fun dM=>(mZ F0 dM.2.1).bind fun sd=>br sd.2.1.2.2 (some ((0,0,(al,0,al,[]),(0,al,[]),(0,al,[]),0,0,0,0,0),false,())) (br (sd.2.1.2.1 != (b.length:Int)) (some ((0,0,(al,0,al,[]),(0,al,[]),(0,al,[]),0,0,0,0,0),false,())) ((gO F0 c (cN.1.1,0,(dM.1.1,sd.1.1),(0,al,[]),(0,al,[]),0,0,0,0,0)).bind fun r79=>br (!r79.1) (some ((0,0,(al,0,al,[]),(0,al,[]),(0,al,[]),0,0,0,0,0),false,())) (some ((cN.1.1,0,(dM.1.1,sd.1.1),(0,al,[]),(0,al,[]),0,0,0,0,0),true,()))))) (br (cN.1.1==2) ((bT F0 cN.2.1).bind fun Ou=>(gP F0 Ou.2.1).bind fun tW=>(mY F0 tW.2.1).bind fun Ff=>br Ff.2.1.2.2 (some ((0,0,(al,0,al,[]),(0,al,[]),(0,al,[]),0,0,0,0,0),false,())) (br (Ff.2.1.2.1 != (b.length:Int)) (some ((0,0,(al,0,al,[]),(0,al,[]),(0,al,[]),0,0,0,0,0),false,())) ((gO F0 c (cN.1.1,0,(al,0,al,[]),(Ou.1.1,tW.1.1,Ff.1.1),(0,al,[]),0,0,0,0,0)).bind fun r79=>br (!r79.1) (some ((0,0,(al,0,al,[]),(0,al,[]),(0,al,[]),0,0,0,0,0),false,())) (some ((cN.1.1,0,(al,0,al,[]),(Ou.1.1,tW.1.1,Ff.1.1),(0,al,[]),0,0,0,0,0),true,()))))) (br (cN.1.1==3) ((bT F0 cN.2.1).bind fun Qt=>(bT F0 Qt.2.1).bind fun r45=>(mZ F0 r45.2.1).bind fun r49=>br r49.2.1.2.2 (some ((0,0,(al,0,al,[]),(0,al,[]),(0,al,[]),0,0,0,0,0),false,())) (br (r49.2.1.2.1 != (b.length:Int)) (some ((0,0,(al,0,al,[]),(0,al,[]),(0,al,[]),0,0,0,0,0),false,())) ((gO F0 c (cN.1.1,Qt.1.1,(al,0,al,[]),(0,al,[]),r49.1.1,r45.1.1,0,0,0,0)).bind fun r79=>br (!r79.1) (some ((0,0,(al,0,al,[]),(0,al,[]),(0,al,[]),0,0,0,0,0),false,())) (some ((cN.1.1,Qt.1.1,(al,0,al,[]),(0,al,[]),r49.1.1,r45.1.1,0,0,0,0),true,()))))) (br (cN.1.1==4) ((bT F0 cN.2.1).bind fun W3=>(bT F0 W3.2.1).bind fun r56=>(bT F0 r56.2.1).bind fun r58=>(bT F0 r58.2.1).bind fun r60=>br r60.2.1.2.2 (some ((0,0,(al,0,al,[]),(0,al,[]),(0,al,[]),0,0,0,0,0),false,())) (br (r60.2.1.2.1 != (b.length:Int)) (some ((0,0,(al,0,al,[]),(0,al,[]),(0,al,[]),0,0,0,0,0),false,())) ((gO F0 c (cN.1.1,0,(al,0,al,[]),(0,al,[]),(0,al,[]),0,W3.1.1,r56.1.1,r58.1.1,r60.1.1)).bind fun r79=>br (!r79.1) (some ((0,0,(al,0,al,[]),(0,al,[]),(0,al,[]),0,0,0,0,0),false,())) (some ((cN.1.1,0,(al,0,al,[]),(0,al,[]),(0,al,[]),0,W3.1.1,r56.1.1,r58.1.1,r60.1.1),true,()))))) (br cN.2.1.2.2 (some ((0,0,(al,0,al,[]),(0,al,[]),(0,al,[]),0,0,0,0,0),false,())) (br (cN.2.1.2.1 != (b.length:Int)) (some ((0,0,(al,0,al,[]),(0,al,[]),(0,al,[]),0,0,0,0,0),false,())) ((gO F0 c (cN.1.1,0,(al,0,al,[]),(0,al,[]),(0,al,[]),0,0,0,0,0)).bind fun r79=>br (!r79.1) (some ((0,0,(al,0,al,[]),(0,al,[]),(0,al,[]),0,0,0,0,0),false,())) (some ((cN.1.1,0,(al,0,al,[]),(0,al,[]),(0,al,[]),0,0,0,0,0),true,())))))))):=by kernel_rfl
def J3:Any:=.one ⟨R7,aB1,2,fun x=>J2 F0 x.1 x.2.1⟩
theorem Zp:bm 70 J3:=aA adf ⟨oa,Mr,tR,uo,Gt,trivial⟩ func70 ab (by kernel_rfl)
def iC:=[(19,fB),(32,dx),(47,cC),(67,bL),(68,zC),(69,FA),(70,J3),(71,eS)]
def iD:Nat→Option Hint:=look [(5,{live:=[1,3,54,55,56],xl:=[1,3],rl:=[2]}),(11,{live:=[1,3,73,74,75],xl:=[1,3],rl:=[2]}),(18,{live:=[3,99,100,101],rl:=[2]})]
def na (t99:List cE)(t100 t101 c c1:Int):= er 127 [cS 3,(99,jO 127 (eh) t99),(100,bR t100),(101,bR t101)] [(3,[aq c,aq c1])] []
def sO (t2:Bool):= cV 127 [(2,RP t2)]
def Ms   := cV 127 []
def rA (st:St):Option α:=gW iC F iD [.r,.r,.r,.r,.r,.l,.r,.b,.i] f34 κ n st
def nc:=jF iC F iD [.r,.r,.r,.r,.r,.l,.r,.b] f34 aZ 1
def nd (t73:List cU)(t74 t75 w w1:Int)(w2:List Int)(w3:List bz)(w4:List cU)(w5:List cE)(c c1:Int):= er 127 [cS 1,cS 3,(73,jO 114 (fU) t73),(74,bR t74),(75,bR t75)] [(1,[aq w,aq w1,.ro false 3 (.int .i64) w2,.ro false 50 (db) w3,.ro false 114 (fU) w4,.ro false 127 (eh) w5]),(3,[aq c,aq c1])] []
def BQ (t2:Bool):= cV 127 [(2,RP t2)]
def Mt (w w1:Int)(w2:List Int)(w3:List bz)(w4:List cU)(w5:List cE)(c c1:Int):= er 127 [cS 1,cS 3] [(1,[aq w,aq w1,.ro false 3 (.int .i64) w2,.ro false 50 (db) w3,.ro false 114 (fU) w4,.ro false 127 (eh) w5]),(3,[aq c,aq c1])] []
def rB (st:St):Option α:=gW iC F iD [.r,.r,.r,.r,.l,.r,.b,.i] f34 κ n st
def ng:=jF iC F iD [.r,.r,.r,.r,.l,.r,.b] f34 aZ 1
def nh (t54:List bz)(t55 t56 w w1:Int)(w2:List Int)(w3:List bz)(w4:List cU)(w5:List cE)(c c1:Int):= er 127 [cS 1,cS 3,(54,jO 50 (db) t54),(55,bR t55),(56,bR t56)] [(1,[aq w,aq w1,.ro false 3 (.int .i64) w2,.ro false 50 (db) w3,.ro false 114 (fU) w4,.ro false 127 (eh) w5]),(3,[aq c,aq c1])] []
def BR (t2:Bool):= cV 127 [(2,RP t2)]
def Mu (w w1:Int)(w2:List Int)(w3:List bz)(w4:List cU)(w5:List cE)(c c1:Int):= er 127 [cS 1,cS 3] [(1,[aq w,aq w1,.ro false 3 (.int .i64) w2,.ro false 50 (db) w3,.ro false 114 (fU) w4,.ro false 127 (eh) w5]),(3,[aq c,aq c1])] []
def rC (st:St):Option α:=gW iC F iD [.r,.r,.r,.l,.r,.b,.i] f34 κ n st
def ni:=jF iC F iD [.r,.r,.r,.l,.r,.b] f34 aZ 1
theorem Gu (t99:List cE)(t100 t101 c c1:Int):rA F κ (n+1) (na t99 t100 t101 c c1)=br (decide (t101<t100)) (ck (cl t101 (t99.length:Int)) ((bd F0 (aP t99 t101 eh.aG).2.2 0 (aj (c-1))).bind fun amJ=>br (!amJ.1) (κ .ret (sO false)) ((fG F0 (aP t99 t101 eh.aG).2.1).bind fun aOx=>br (!aOx.1) (κ .ret (sO false)) ((fa F0 (aP t99 t101 eh.aG).2.1).bind fun aOy=>br (aOy.1 != (aP t99 t101 eh.aG).1) (κ .ret (sO false)) (rA F κ n (na t99 t100 (aj (t101+1)) c c1)))))) (κ (.exit 4) (Ms)):=by kernel_rfl
theorem Gv (t73:List cU)(t74 t75 w w1:Int)(w2:List Int)(w3:List bz)(w4:List cU)(w5:List cE)(c c1:Int):rB F κ (n+1) (nd t73 t74 t75 w w1 w2 w3 w4 w5 c c1)=br (decide (t75<t74)) (ck (cl t75 (t73.length:Int)) ((J2 F0 (c,c1) (aP t73 t75 (0,[])).2).bind fun r83=>br (!r83.2.1) (κ .ret (BQ false)) ((bd F0 (aP t73 t75 (0,[])).1 0 (aj (c-1))).bind fun r94=>br (!r94.1) (κ .ret (BQ false)) (rB F κ n (nd t73 t74 (aj (t75+1)) w w1 w2 w3 w4 w5 c c1))))) (κ (.exit 2) (Mt w w1 w2 w3 w4 w5 c c1)):=by kernel_rfl
theorem Gw (t54:List bz)(t55 t56 w w1:Int)(w2:List Int)(w3:List bz)(w4:List cU)(w5:List cE)(c c1:Int):rC F κ (n+1) (nh t54 t55 t56 w w1 w2 w3 w4 w5 c c1)=br (decide (t56<t55)) (ck (cl t56 (t54.length:Int)) ((c8 F0 (c,c1) (aP t54 t56 db.aG)).bind fun r63=>br (!r63.1) (κ .ret (BR false)) (br ((aP t54 t56 db.aG).1 != t56) (κ .ret (BR false)) (rC F κ n (nh t54 t55 (aj (t56+1)) w w1 w2 w3 w4 w5 c c1))))) (κ (.exit 0) (Mu w w1 w2 w3 w4 w5 c c1)):=by kernel_rfl
theorem adg (t2:Bool):nc F .ret (sO t2)=some (t2,()):=by kernel_rfl
theorem aaQ: nc F (.exit 4) (Ms)=some (true,()):=by kernel_rfl
theorem adh (t2:Bool):ng F .ret (BQ t2)=some (t2,()):=by kernel_rfl
theorem aaR (w w1:Int)(w2:List Int)(w3:List bz)(w4:List cU)(w5:List cE)(c c1:Int):ng F (.exit 2) (Mt w w1 w2 w3 w4 w5 c c1)=rA F (nc F) F.n (na w5 (w5.length:Int) 0 c c1):=by kernel_rfl
theorem adi (t2:Bool):ni F .ret (BR t2)=some (t2,()):=by kernel_rfl
theorem aaS (w w1:Int)(w2:List Int)(w3:List bz)(w4:List cU)(w5:List cE)(c c1:Int):ni F (.exit 0) (Mu w w1 w2 w3 w4 w5 c c1)=rB F (ng F) F.n (nd w4 (w4.length:Int) 0 w w1 w2 w3 w4 w5 c c1):=by kernel_rfl
def dN (w:pt):=bF iC F iD f34 gY aZ 1 (w,())
theorem ako (w:pt):dN F w=(e9 F0 w.1).bind fun py=>br (!py.1) (some (false,())) ((wK F0 w.1.1 w.2.1).bind fun gr=>br (!gr.1) (some (false,())) ((Et F0 w.1).bind fun Fj=>br (decide ((w.2.1.length:Int)>Fj.1)) (some (false,())) (br ((w.2.2.1.length:Int) != w.1.1) (some (false,())) (br (decide ((w.2.2.2.1.length:Int)>60)) (some (false,())) (br (decide ((w.2.2.2.2.length:Int)>300)) (some (false,())) (rC F (ni F) F.n (nh w.2.2.1 (w.2.2.1.length:Int) 0 w.1.1 w.1.2 w.2.1 w.2.2.1 w.2.2.2.1 w.2.2.2.2 w.1.1 w.1.2))))))):=by kernel_rfl
def nj:Any:=.one ⟨gY,aZ,1,fun x=>dN F0 x.1⟩
theorem vQ:bm 34 nj:=aA iC ⟨iB,eI,da,cm,NG,Vv,Zp,gf,trivial⟩ func34 iD (by kernel_rfl)
def vR:=[(31,gd),(32,dx),(33,SZ),(34,nj)]
def vS:Nat→Option Hint:=look [(3,{live:=[2,4,6,7],xY:=[(4,2,3,.int .i64),(4,3,50,db),(4,4,114,fU),(4,5,127,eh),(6,3,50,db),(6,4,114,fU),(6,5,127,eh)],xl:=[4,6],rl:=[4,5]})]
def qp (i c c1 t4 t41 w w1:Int)(xs:List Int)(aO:List bz)(aY:List cU)(bj:List cE)(bK:List Int)(cA:List bz)(cB:List cU)(cF:List cE):= er 41 [cS 2,cS 4,cS 6,(7,bR i)] [(2,[aq c,aq c1]),(4,[aq t4,aq t41,.own 1000000 none,.own 1000001 none,.own 1000002 none,.own 1000003 none]),(6,[aq w,aq w1,.own 1000004 none,.own 1000005 none,.own 1000006 none,.own 1000007 none])] [aB 1000000 3 (.int .i64) xs,aB 1000001 50 db aO,aB 1000002 114 fU aY,aB 1000003 127 eh bj,aB 1000004 3 (.int .i64) bK,aB 1000005 50 db cA,aB 1000006 114 fU cB,aB 1000007 127 eh cF]
def wM (t4 t41 w w1:Int)(xs:List Int)(aO:List bz)(aY:List cU)(bj:List cE)(bK:List Int)(cA:List bz)(cB:List cU)(cF:List cE):= er 41 [cS 4,cS 6] [(4,[aq t4,aq t41,.own 1000000 none,.own 1000001 none,.own 1000002 none,.own 1000003 none]),(6,[aq w,aq w1,.own 1000004 none,.own 1000005 none,.own 1000006 none,.own 1000007 none])] [aB 1000000 3 (.int .i64) xs,aB 1000001 50 db aO,aB 1000002 114 fU aY,aB 1000003 127 eh bj,aB 1000004 3 (.int .i64) bK,aB 1000005 50 db cA,aB 1000006 114 fU cB,aB 1000007 127 eh cF]
def vT (st:St):Option α:=gW vR F vS [.r,.r,.l,.r,.b,.i] f8 κ n st
def zO:=jF vR F vS [.r,.r,.l,.r,.b] f8 ase 2
theorem EA (i c c1 t4 t41 w w1:Int)(xs:List Int)(aO:List bz)(aY:List cU)(bj:List cE)(bK:List Int)(cA:List bz)(cB:List cU)(cF:List cE):vT F κ (n+1) (qp i c c1 t4 t41 w w1 xs aO aY bj bK cA cB cF)=(e9 F0 (c,c1)).bind fun py=>br py.1 (br (decide (i<c)) ((Mo F0 (c,c1) i).bind fun Bl=>ck (fg F cA.length [Bl.1].length 208) (vT F κ n (qp (aj (i+1)) c c1 t4 t41 w w1 xs aO aY bj bK (cA++[Bl.1]) cB cF))) (κ (.exit 0) (wM t4 t41 w w1 xs aO aY bj bK cA cB cF))) (κ (.exit 0) (wM t4 t41 w w1 xs aO aY bj bK cA cB cF)):=by kernel_rfl
theorem XV (t4 t41 w w1:Int)(xs:List Int)(aO:List bz)(aY:List cU)(bj:List cE)(bK:List Int)(cA:List bz)(cB:List cU)(cF:List cE):zO F (.exit 0) (wM t4 t41 w w1 xs aO aY bj bK cA cB cF)=(dN F0 ((w,w1),bK,cA,cB,cF)).bind fun Ff=>br (!Ff.1) (some (((0,0),[],[],[],[]),false,())) (some (((w,w1),bK,cA,cB,cF),true,())):=by kernel_rfl
def ur (c:D1)(liars:List Int):=bF vR F vS f8 aB2 ase 2 (c,liars,())
theorem af5 (c:D1)(liars:List Int):ur F c liars=(eR F0 liars).bind fun cN=>vT F (zO F) F.n (qp 0 c.1 c.2 0 0 c.1 c.2 [] [] [] [] cN.1 [] [] []):=by kernel_rfl
def Mv:Any:=.one ⟨aB2,ase,2,fun x=>ur F0 x.1 x.2.1⟩
theorem af6:bm 8 Mv:=aA vR ⟨jR,eI,anX,vQ,trivial⟩ func8 vS (by kernel_rfl)
def Zq:=[(31,gd)]
def iE (q:D9):=bF Zq F ab f192 gX gX 2 (q,())
theorem anZ (q:D9):iE F q=(eR F0 q.2.2).bind fun r5=>some ((q.1,q.2.1,r5.1),()):=by kernel_rfl
def jc:Any:=.one ⟨gX,gX,2,fun x=>iE F0 x.1⟩
theorem nk:bm 192 jc:=aA Zq ⟨jR,trivial⟩ func192 ab (by kernel_rfl)
def S2:=[(192,jc)]
def lS (s:TF):=bF S2 F ab f133 AM AM 2 (s,())
theorem af7 (s:TF):lS F s=(iE F0 s.2.2.1).bind fun r5=>some ((s.1,s.2.1,r5.1,s.2.2.2),()):=by kernel_rfl
def lk:Any:=.one ⟨AM,AM,2,fun x=>lS F0 x.1⟩
theorem sP:bm 133 lk:=aA S2 ⟨nk,trivial⟩ func133 ab (by kernel_rfl)
def jv (p:D5):=bF aF F ab f134 kl kl 2 (p,())
theorem akp (p:D5):jv F p=ck (fg F 0 p.length 32) (some ([]++p,())):=by kernel_rfl
def BS:Any:=.one ⟨kl,kl,2,fun x=>jv F0 x.1⟩
theorem S3:bm 134 BS:=aA aF trivial func134 ab (by kernel_rfl)
def S4:=[(31,gd)]
def fQ (p:D9):=bF S4 F ab f193 gX gX 2 (p,())
theorem af8 (p:D9):fQ F p=(eR F0 p.2.2).bind fun r5=>some ((p.1,p.2.1,r5.1),()):=by kernel_rfl
def iQ:Any:=.one ⟨gX,gX,2,fun x=>fQ F0 x.1⟩
theorem nm:bm 193 iQ:=aA S4 ⟨jR,trivial⟩ func193 ab (by kernel_rfl)
def sQ:=[(193,iQ)]
def sR:Nat→Option Hint:=look [(3,{live:=[3,6,7,8],mat:=[(3,74,K9)],xl:=[3],rl:=[2]})]
def oq (t6:List D9)(t7 t8:Int)(xs:List D9):= er 19 [(3,.v (.c (.own 1000000 none))),(6,jO 74 (K9) t6),(7,bR t7),(8,bR t8)] [] [aB 1000000 74 K9 xs]
def Gx (xs:List D9):= er 19 [(3,.v (.c (.own 1000000 none)))] [] [aB 1000000 74 K9 xs]
def sS (st:St):Option α:=gW sQ F sR [.r,.r,.l,.r,.b,.i] f135 κ n st
def wN:=jF sQ F sR [.r,.r,.l,.r,.b] f135 F3 2
theorem AS (t6:List D9)(t7 t8:Int)(xs:List D9):sS F κ (n+1) (oq t6 t7 t8 xs)=br (decide (t8<t7)) (ck (cl t8 (t6.length:Int)) ((fQ F0 (aP t6 t8 K9.aG)).bind fun lM=>ck (fg F xs.length [lM.1].length 48) (sS F κ n (oq t6 t7 (aj (t8+1)) (xs++[lM.1]))))) (κ (.exit 0) (Gx xs)):=by kernel_rfl
theorem VE (xs:List D9):wN F (.exit 0) (Gx xs)=some (xs,()):=by kernel_rfl
def fq (list:D13):=bF sQ F sR f135 F3 F3 2 (list,())
theorem adj (list:D13):fq F list=sS F (wN F) F.n (oq list (list.length:Int) 0 []):=by kernel_rfl
def wO:Any:=.one ⟨F3,F3,2,fun x=>fq F0 x.1⟩
theorem Mw:bm 135 wO:=aA sQ ⟨nm,trivial⟩ func135 sR (by kernel_rfl)
def lT (d:D14):=bF aF F ab f41 pY pY 2 (d,())
theorem af9 (d:D14):lT F d=ck (fg F 0 d.1.length 1) (some (([]++d.1,d.2),())):=by kernel_rfl
def ll:Any:=.one ⟨pY,pY,2,fun x=>lT F0 x.1⟩
theorem sU:bm 41 ll:=aA aF trivial func41 ab (by kernel_rfl)
def Ps:=[(192,jc)]
def zP (b:D15):=bF Ps F ab f244 ahU ahU 2 (b,())
theorem adk (b:D15):zP F b=(iE F0 b.2).bind fun r7=>some ((b.1,r7.1),()):=by kernel_rfl
def J4:Any:=.one ⟨ahU,ahU,2,fun x=>zP F0 x.1⟩
theorem adl:bm 244 J4:=aA Ps ⟨nk,trivial⟩ func244 ab (by kernel_rfl)
end
end Go.Am.Tryz
namespace Go.Am.Tryz
open Go.Am Go.Proofs Go.Proofs.Tryz
noncomputable section
variable {α:Type} (F:rQ) (κ:Ex→St→Option α) (n:Nat)
def VF:=[(192,jc),(193,iQ),(244,J4)]
def zQ (m:NA):=bF VF F ab f194 xk xk 2 (m,())
theorem akq (m:NA):zQ F m=(zP F0 m.2.2.1).bind fun r5=>(fQ F0 m.2.2.2.1).bind fun r9=>(iE F0 m.2.2.2.2.1).bind fun cj=>some ((m.1,m.2.1,r5.1,r9.1,cj.1,m.2.2.2.2.2),()):=by kernel_rfl
def BU:Any:=.one ⟨xk,xk,2,fun x=>zQ F0 x.1⟩
theorem S5:bm 194 BU:=aA VF ⟨nk,nm,adl,trivial⟩ func194 ab (by kernel_rfl)
def sV:=[(194,BU)]
def sW:Nat→Option Hint:=look [(3,{live:=[3,6,7,8],mat:=[(3,146,qK)],xl:=[3],rl:=[2]})]
def ot (t6:List lL)(t7 t8:Int)(xs:List lL):= er 23 [(3,.v (.c (.own 1000000 none))),(6,jO 146 (qK) t6),(7,bR t7),(8,bR t8)] [] [aB 1000000 146 qK xs]
def Gy (xs:List lL):= er 23 [(3,.v (.c (.own 1000000 none)))] [] [aB 1000000 146 qK xs]
def sX (st:St):Option α:=gW sV F sW [.r,.r,.l,.r,.b,.i] f136 κ n st
def wP:=jF sV F sW [.r,.r,.l,.r,.b] f136 YM 2
theorem AT (t6:List lL)(t7 t8:Int)(xs:List lL):sX F κ (n+1) (ot t6 t7 t8 xs)=br (decide (t8<t7)) (ck (cl t8 (t6.length:Int)) ((zQ F0 (aP t6 t8 qK.aG).2).bind fun fh=>ck (fg F xs.length [((aP t6 t8 qK.aG).1,fh.1)].length 224) (sX F κ n (ot t6 t7 (aj (t8+1)) (xs++[((aP t6 t8 qK.aG).1,fh.1)]))))) (κ (.exit 0) (Gy xs)):=by kernel_rfl
theorem VG (xs:List lL):wP F (.exit 0) (Gy xs)=some (xs,()):=by kernel_rfl
def zR (list:D23):=bF sV F sW f136 YM YM 2 (list,())
theorem adm (list:D23):zR F list=sX F (wP F) F.n (ot list (list.length:Int) 0 []):=by kernel_rfl
def J5:Any:=.one ⟨YM,YM,2,fun x=>zR F0 x.1⟩
theorem adn:bm 136 J5:=aA sV ⟨S5,trivial⟩ func136 sW (by kernel_rfl)
def VH:=[(41,ll),(133,lk),(134,BS),(135,wO),(136,J5)]
def aE (r:bz):=bF VH F ab f79 Sa Sa 2 (r,())
theorem akr (r:bz):aE F r=(lS F0 r.2.2.2.1).bind fun r5=>(jv F0 r.2.2.2.2.1).bind fun r9=>(fq F0 r.2.2.2.2.2.1).bind fun cj=>(lT F0 r.2.2.2.2.2.2.1).bind fun fh=>(zR F0 r.2.2.2.2.2.2.2).bind fun gv=>some ((r.1,r.2.1,r.2.2.1,r5.1,r9.1,cj.1,fh.1,gv.1),()):=by kernel_rfl
def b8:Any:=.one ⟨Sa,Sa,2,fun x=>aE F0 x.1⟩
theorem cL:bm 79 b8:=aA VH ⟨sU,sP,S3,Mw,adn,trivial⟩ func79 ab (by kernel_rfl)
def S6:Nat→Option Hint:=look [(900001,{live:=[],mat:=[(1,0,fU)]})]
def uv (x:cU):=bF aF F S6 f80 [(fU,true)] [(fU,true)] 2 (x,())
theorem aga (x:cU):uv F x=ck (fg F 0 x.2.length 1) (some ((x.1,[]++x.2),())):=by kernel_rfl
def zS:Any:=.one ⟨[(fU,true)],[(fU,true)],2,fun x=>uv F0 x.1⟩
theorem Pt:bm 80 zS:=aA aF trivial func80 S6 (by kernel_rfl)
def jS:=[(31,gd),(79,b8),(80,zS)]
def jT:Nat→Option Hint:=look [(3,{live:=[1,2,3,18,19,20],xY:=[(2,2,3,.int .i64),(2,3,50,db),(2,4,114,fU),(2,5,127,eh),(3,3,50,db),(3,4,114,fU)],xl:=[1,2,3],rl:=[2]}),(8,{live:=[2,3,33,34,35],xl:=[2,3],rl:=[2]}),(900001,{live:=[],mat:=[(1,0,iM)]})]
def ou (t33:List cU)(t34 t35 t2 t21 out bg:Int)(xs:List Int)(aO:List bz)(aY:List cU)(bj:List cE)(bK:List Int)(cA:List bz)(cB:List cU)(cF:List cE):= er 48 [cS 2,cS 3,(33,jO 114 (fU) t33),(34,bR t34),(35,bR t35)] [(2,[aq t2,aq t21,.own 1000000 none,.own 1000001 none,.own 1000002 none,.own 1000003 none]),(3,[aq out,aq bg,.own 1000004 none,.own 1000005 none,.own 1000006 none,.own 1000007 none])] [aB 1000000 3 (.int .i64) xs,aB 1000001 50 db aO,aB 1000002 114 fU aY,aB 1000003 127 eh bj,aB 1000004 3 (.int .i64) bK,aB 1000005 50 db cA,aB 1000006 114 fU cB,aB 1000007 127 eh cF]
def Gz (t2 t21 out bg:Int)(xs:List Int)(aO:List bz)(aY:List cU)(bj:List cE)(bK:List Int)(cA:List bz)(cB:List cU)(cF:List cE):= er 48 [cS 2,cS 3] [(2,[aq t2,aq t21,.own 1000000 none,.own 1000001 none,.own 1000002 none,.own 1000003 none]),(3,[aq out,aq bg,.own 1000004 none,.own 1000005 none,.own 1000006 none,.own 1000007 none])] [aB 1000000 3 (.int .i64) xs,aB 1000001 50 db aO,aB 1000002 114 fU aY,aB 1000003 127 eh bj,aB 1000004 3 (.int .i64) bK,aB 1000005 50 db cA,aB 1000006 114 fU cB,aB 1000007 127 eh cF]
def sY (st:St):Option α:=gW jS F jT [.r,.r,.r,.l,.r,.b,.i] f38 κ n st
def wQ:=jF jS F jT [.r,.r,.r,.l,.r,.b] f38 gY 2
def ov (w:pt)(t18:List bz)(t19 t20 t2 t21 out bg:Int)(xs:List Int)(aO:List bz)(aY:List cU)(bj:List cE)(bK:List Int)(cA:List bz)(cB:List cU)(cF:List cE):= er 48 [(1,.v (.c (.Tz false (iM) w 0))),cS 2,cS 3,(18,jO 50 (db) t18),(19,bR t19),(20,bR t20)] [(2,[aq t2,aq t21,.own 1000000 none,.own 1000001 none,.own 1000002 none,.own 1000003 none]),(3,[aq out,aq bg,.own 1000004 none,.own 1000005 none,.own 1000006 none,.own 1000007 none])] [aB 1000000 3 (.int .i64) xs,aB 1000001 50 db aO,aB 1000002 114 fU aY,aB 1000003 127 eh bj,aB 1000004 3 (.int .i64) bK,aB 1000005 50 db cA,aB 1000006 114 fU cB,aB 1000007 127 eh cF]
def GA (w:pt)(t2 t21 out bg:Int)(xs:List Int)(aO:List bz)(aY:List cU)(bj:List cE)(bK:List Int)(cA:List bz)(cB:List cU)(cF:List cE):= er 48 [(1,.v (.c (.Tz false (iM) w 0))),cS 2,cS 3] [(2,[aq t2,aq t21,.own 1000000 none,.own 1000001 none,.own 1000002 none,.own 1000003 none]),(3,[aq out,aq bg,.own 1000004 none,.own 1000005 none,.own 1000006 none,.own 1000007 none])] [aB 1000000 3 (.int .i64) xs,aB 1000001 50 db aO,aB 1000002 114 fU aY,aB 1000003 127 eh bj,aB 1000004 3 (.int .i64) bK,aB 1000005 50 db cA,aB 1000006 114 fU cB,aB 1000007 127 eh cF]
def sZ (st:St):Option α:=gW jS F jT [.r,.r,.l,.r,.b,.i] f38 κ n st
def wR:=jF jS F jT [.r,.r,.l,.r,.b] f38 gY 2
theorem AU (t33:List cU)(t34 t35 t2 t21 out bg:Int)(xs:List Int)(aO:List bz)(aY:List cU)(bj:List cE)(bK:List Int)(cA:List bz)(cB:List cU)(cF:List cE):sY F κ (n+1) (ou t33 t34 t35 t2 t21 out bg xs aO aY bj bK cA cB cF)=br (decide (t35<t34)) (ck (cl t35 (t33.length:Int)) ((uv F0 (aP t33 t35 (0,[]))).bind fun r42=>ck (fg F cB.length [r42.1].length 32) (sY F κ n (ou t33 t34 (aj (t35+1)) t2 t21 out bg xs aO aY bj bK cA (cB++[r42.1]) cF)))) (κ (.exit 2) (Gz t2 t21 out bg xs aO aY bj bK cA cB cF)):=by kernel_rfl
theorem AW (w:pt)(t18:List bz)(t19 t20 t2 t21 out bg:Int)(xs:List Int)(aO:List bz)(aY:List cU)(bj:List cE)(bK:List Int)(cA:List bz)(cB:List cU)(cF:List cE):sZ F κ (n+1) (ov w t18 t19 t20 t2 t21 out bg xs aO aY bj bK cA cB cF)=br (decide (t20<t19)) (ck (cl t20 (t18.length:Int)) ((aE F0 (aP t18 t20 db.aG)).bind fun Bl=>ck (fg F cA.length [Bl.1].length 208) (sZ F κ n (ov w t18 t19 (aj (t20+1)) t2 t21 out bg xs aO aY bj bK (cA++[Bl.1]) cB cF)))) (κ (.exit 0) (GA w t2 t21 out bg xs aO aY bj bK cA cB cF)):=by kernel_rfl
theorem VI (t2 t21 out bg:Int)(xs:List Int)(aO:List bz)(aY:List cU)(bj:List cE)(bK:List Int)(cA:List bz)(cB:List cU)(cF:List cE):wQ F (.exit 2) (Gz t2 t21 out bg xs aO aY bj bK cA cB cF)=some (((out,bg),bK,cA,cB,cF),()):=by kernel_rfl
theorem VJ (w:pt)(t2 t21 out bg:Int)(xs:List Int)(aO:List bz)(aY:List cU)(bj:List cE)(bK:List Int)(cA:List bz)(cB:List cU)(cF:List cE):wR F (.exit 0) (GA w t2 t21 out bg xs aO aY bj bK cA cB cF)=sY F (wQ F) F.n (ou w.2.2.2.1 (w.2.2.2.1.length:Int) 0 t2 t21 out bg xs aO aY bj bK cA cB cF):=by kernel_rfl
def aS (w:pt):=bF jS F jT f38 gY gY 2 (w,())
theorem ado (w:pt):aS F w=(eR F0 w.2.1).bind fun cN=>ck (fg F 0 w.2.2.2.2.length 32) (sZ F (wR F) F.n (ov w w.2.2.1 (w.2.2.1.length:Int) 0 0 0 w.1.1 w.1.2 [] [] [] [] cN.1 [] [] ([]++w.2.2.2.2))):=by kernel_rfl
def gQ:Any:=.one ⟨gY,gY,2,fun x=>aS F0 x.1⟩
theorem lq:bm 38 gQ:=aA jS ⟨jR,cL,Pt,trivial⟩ func38 jT (by kernel_rfl)
def jw:Nat→Option Hint:=look [(2,{live:=[0,1,7,8],rl:=[4]})]
def ig (s:List Int)(v t7 t8:Int):= cV 19 [(0,jO 3 (.int .i64) s),(1,bR v),(7,bR t7),(8,bR t8)]
def uw (t4:Int):= cV 19 [(4,bR t4)]
def tG   := cV 19 []
def jx (st:St):Option α:=gW aF F jw [.r,.l,.r,.b,.i] f150 κ n st
def ij:=jF aF F jw [.r,.l,.r,.b] f150 dD 1
theorem qq (s:List Int)(v t7 t8:Int):jx F κ (n+1) (ig s v t7 t8)=br (decide (t8<t7)) (ck (cl t8 (s.length:Int)) (br (v==(aP s t8 0)) (κ .ret (uw t8)) (jx F κ n (ig s v t7 (aj (t8+1)))))) (κ (.exit 0) (tG)):=by kernel_rfl
theorem KV (t4:Int):ij F .ret (uw t4)=some (t4,()):=by kernel_rfl
theorem J6: ij F (.exit 0) (tG)=some (-1,()):=by kernel_rfl
def lr (s:List Int)(v:Int):=bF aF F jw f150 ajG dD 1 (s,v,())
theorem Pu (s:List Int)(v:Int):lr F s v=jx F (ij F) F.n (ig s v (s.length:Int) 0):=by kernel_rfl
def ux:Any:=.one ⟨ajG,dD,1,fun x=>lr F0 x.1 x.2.1⟩
theorem Pv:bm 150 ux:=aA aF trivial func150 jw (by kernel_rfl)
def tH:=[(150,ux)]
def iR (s:List Int)(v:Int):=bF tH F ab f85 ajG aZ 1 (s,v,())
theorem J7 (s:List Int)(v:Int):iR F s v=(lr F0 s v).bind fun r7=>some (decide (r7.1≥0),()):=by kernel_rfl
def qt:Any:=.one ⟨ajG,aZ,1,fun x=>iR F0 x.1 x.2.1⟩
theorem J8:bm 85 qt:=aA tH ⟨Pv,trivial⟩ func85 ab (by kernel_rfl)
def Zr:=[(85,qt)]
def eb (s:List Int)(i:Int):=bF Zr F ab f40 ajG aZ 1 (s,i,())
theorem an0 (s:List Int)(i:Int):eb F s i=(iR F0 s i).bind fun r7=>some (r7.1,()):=by kernel_rfl
def dX:Any:=.one ⟨ajG,aZ,1,fun x=>eb F0 x.1 x.2.1⟩
theorem fu:bm 40 dX:=aA Zr ⟨J8,trivial⟩ func40 ab (by kernel_rfl)
def Dm:=[(40,dX)]
def Dn:Nat→Option Hint:=look [(3,{live:=[1,3,7,8],mat:=[(3,3,.int .i64)],xl:=[3],rl:=[2]})]
def kD (t7 t8 w w1:Int)(w2:List Int)(w3:List bz)(w4:List cU)(w5:List cE)(xs:List Int):= er 22 [cS 1,(3,.v (.c (.own 1000000 none))),(7,bR t7),(8,bR t8)] [(1,[aq w,aq w1,.ro false 3 (.int .i64) w2,.ro false 50 (db) w3,.ro false 114 (fU) w4,.ro false 127 (eh) w5])] [aB 1000000 3 (.int .i64) xs]
def Pw (xs:List Int):= er 22 [(3,.v (.c (.own 1000000 none)))] [] [aB 1000000 3 (.int .i64) xs]
def pI (st:St):Option α:=gW Dm F Dn [.r,.r,.l,.r,.b,.i] f11 κ n st
def vU:=jF Dm F Dn [.r,.r,.l,.r,.b] f11 kp 2
theorem J9 (t7 t8 w w1:Int)(w2:List Int)(w3:List bz)(w4:List cU)(w5:List cE)(xs:List Int):pI F κ (n+1) (kD t7 t8 w w1 w2 w3 w4 w5 xs)=br (decide (t8<t7)) ((eb F0 w2 t8).bind fun lM=>br (!lM.1) (ck (fg F xs.length [t8].length 8) (pI F κ n (kD t7 (aj (t8+1)) w w1 w2 w3 w4 w5 (xs++[t8])))) (pI F κ n (kD t7 (aj (t8+1)) w w1 w2 w3 w4 w5 xs))) (κ (.exit 0) (Pw xs)):=by kernel_rfl
theorem adp (xs:List Int):vU F (.exit 0) (Pw xs)=some (xs,()):=by kernel_rfl
def rD (w:pt):=bF Dm F Dn f11 gY kp 2 (w,())
theorem an1 (w:pt):rD F w=pI F (vU F) F.n (kD (w.2.2.1.length:Int) 0 w.1.1 w.1.2 w.2.1 w.2.2.1 w.2.2.2.1 w.2.2.2.2 []):=by kernel_rfl
def o9:Any:=.one ⟨gY,kp,2,fun x=>rD F0 x.1⟩
theorem zT:bm 11 o9:=aA Dm ⟨fu,trivial⟩ func11 Dn (by kernel_rfl)
def VK:=[(11,o9),(40,dX),(67,bL)]
def HP (w:pt)(d:D45):=bF VK F ab f81 aia aZ 1 (w,d,())
theorem aks (w:pt)(d:D45):HP F w d=br (d.1==3) ((bd F0 d.2.1 0 (aj ((w.2.2.2.1.length:Int)-1))).bind fun fh=>some (fh.1,())) (br (d.1==4) ((bd F0 d.2.1 0 (aj ((w.2.2.2.1.length:Int)-1))).bind fun fh=>some (fh.1,())) (br (d.1==5) ((bd F0 d.2.1 0 (aj ((w.2.2.2.1.length:Int)-1))).bind fun fh=>some (fh.1,())) (br (d.1==10) ((bd F0 d.2.1 0 (aj (w.1.1-1))).bind fun xg=>some (xg.1,())) ((rD F0 w).bind fun UE=>(eb F0 UE.1 d.2.1).bind fun r31=>some (r31.1,()))))):=by kernel_rfl
def Px:Any:=.one ⟨aia,aZ,1,fun x=>HP F0 x.1 x.2.1⟩
theorem akt:bm 81 Px:=aA VK ⟨zT,fu,cm,trivial⟩ func81 ab (by kernel_rfl)
def aih:=[(41,ll),(42,o7)]
def W9 (d:D14):=bF aih F ab f195 pY pY 2 (d,())
theorem auA (d:D14):W9 F d=(lT F0 d).bind fun r5=>(rv F0 d).bind fun r7=>br r7.1 (some ((r5.1.1,(d.1.length:Int)),())) (some (r5.1,())):=by kernel_rfl
def Zs:Any:=.one ⟨pY,pY,2,fun x=>W9 F0 x.1⟩
theorem auB:bm 195 Zs:=aA aih ⟨sU,zH,trivial⟩ func195 ab (by kernel_rfl)
def VL:=[(47,cC),(79,b8),(195,Zs)]
def HQ (c:D1)(r:bz):=bF VL F ab f137 xK aCo 2 (c,r,())
theorem aku (c:D1)(r:bz):HQ F c r=(aE F0 r).bind fun r9=>(c8 F0 c r).bind fun cN=>br (!cN.1) (some (r9.1,[],())) ((W9 F0 r9.1.2.2.2.2.2.2.1).bind fun DY=>some ((r9.1.1,r9.1.2.1,r9.1.2.2.1,r9.1.2.2.2.1,r9.1.2.2.2.2.1,r9.1.2.2.2.2.2.1,DY.1,[]),r9.1.2.2.2.2.2.2.2,())):=by kernel_rfl
def Py:Any:=.one ⟨xK,aCo,2,fun x=>HQ F0 x.1 x.2.1⟩
theorem akv:bm 137 Py:=aA VL ⟨da,cL,auB,trivial⟩ func137 ab (by kernel_rfl)
def Zt:=[(40,dX)]
def EB (id:Int)(m:NA):=bF Zt F ab f139 aCp [(K38,false)] 2 (id,m,())
theorem an2 (id:Int)(m:NA):EB F id m=br (m.1==4) (some ([],())) (br (m.1==2) (br (m.2.2.2.1.2.1.toList==al.toList) (some ([],())) ((eb F0 m.2.2.2.1.2.2 id).bind fun Qu=>br (!Qu.1) (some ([],())) (some ([(m.2.2.2.1.1,m.2.2.2.1.2.1,id)],())))) (br (m.1==1) (br (m.2.2.1.2.2.1.toList==al.toList) (some ([],())) ((eb F0 m.2.2.1.2.2.2 id).bind fun Qu=>br (!Qu.1) (some ([],())) (some ([(m.2.2.1.2.1,m.2.2.1.2.2.1,id)],())))) (br (m.2.2.2.2.1.2.1.toList==al.toList) (some ([],())) ((eb F0 m.2.2.2.2.1.2.2 id).bind fun Qu=>br (!Qu.1) (some ([],())) (some ([(m.2.2.2.2.1.1,m.2.2.2.2.1.2.1,id)],())))))):=by kernel_rfl
def FG:Any:=.one ⟨aCp,[(K38,false)],2,fun x=>EB F0 x.1 x.2.1⟩
theorem VM:bm 139 FG:=aA Zt ⟨fu,trivial⟩ func139 ab (by kernel_rfl)
def Mx:Nat→Option Hint:=look [(2,{live:=[0,3,7,8],rl:=[4]})]
def Dp (s:List cE)(t7 t8 v:Int)(v1:ByteArray)(v2:Int):= er 19 [(0,jO 127 (eh) s),cS 3,(7,bR t7),(8,bR t8)] [(3,[aq v,.str v1,aq v2])] []
def Zu (t4:Int):= cV 19 [(4,bR t4)]
def VN   := cV 19 []
def My (st:St):Option α:=gW aF F Mx [.r,.l,.r,.b,.i] f196 κ n st
def Dq:=jF aF F Mx [.r,.l,.r,.b] f196 dD 1
theorem Pz (s:List cE)(t7 t8 v:Int)(v1:ByteArray)(v2:Int):My F κ (n+1) (Dp s t7 t8 v v1 v2)=br (decide (t8<t7)) (ck (cl t8 (s.length:Int)) (br ((v==(aP s t8 eh.aG).1)&&((v1.toList==(aP s t8 eh.aG).2.1.toList)&&((v2==(aP s t8 eh.aG).2.2)&&true))) (κ .ret (Zu t8)) (My F κ n (Dp s t7 (aj (t8+1)) v v1 v2)))) (κ (.exit 0) (VN)):=by kernel_rfl
theorem an3 (t4:Int):Dq F .ret (Zu t4)=some (t4,()):=by kernel_rfl
theorem akw: Dq F (.exit 0) (VN)=some (-1,()):=by kernel_rfl
abbrev aCs:List (Ty×Bool):=[(K38,false),(eh,true)]
def Xa (s:D38)(v:cE):=bF aF F Mx f196 aCs dD 1 (s,v,())
theorem auC (s:D38)(v:cE):Xa F s v=My F (Dq F) F.n (Dp s (s.length:Int) 0 v.1 v.2.1 v.2.2):=by kernel_rfl
def Zv:Any:=.one ⟨aCs,dD,1,fun x=>Xa F0 x.1 x.2.1⟩
theorem auD:bm 196 Zv:=aA aF trivial func196 Mx (by kernel_rfl)
def qu:=[(196,Zv)]
def dK (s:D38)(v:cE):=bF qu F ab f140 aCs aZ 1 (s,v,())
theorem FH (s:D38)(v:cE):dK F s v=(Xa F0 s v).bind fun r7=>some (decide (r7.1≥0),()):=by kernel_rfl
def ff:Any:=.one ⟨aCs,aZ,1,fun x=>dK F0 x.1 x.2.1⟩
theorem jd:bm 140 ff:=aA qu ⟨auD,trivial⟩ func140 ab (by kernel_rfl)
def ow:=[(11,o9),(38,gQ),(40,dX),(139,FG),(140,ff)]
def oz:Nat→Option Hint:=look [(5,{live:=[1,6,7,20,21,22],xY:=[(6,2,3,.int .i64),(6,3,50,db),(6,4,114,fU),(6,5,127,eh)],xl:=[6,7],rl:=[6]}),(8,{live:=[1,6,7,20,21,22,29,30,31],xl:=[1,6,7,20,21,22],rl:=[6]})]
def nn (id:Int)(t20:List lL)(t21 t22 t30 t31 t6 t61 out bg:Int)(xs:List cE)(aO:List Int)(aY:List bz)(bj:List cU)(bK:List cE)(cA:List Int)(cB:List bz)(cF:List cU)(oN:List cE):= er 55 [(1,bR id),cS 6,cS 7,(20,jO 146 (qK) t20),(21,bR t21),(22,bR t22),(29,.v (.c (.own 1000000 none))),(30,bR t30),(31,bR t31)] [(6,[aq t6,aq t61,.own 1000001 none,.own 1000002 none,.own 1000003 none,.own 1000004 none]),(7,[aq out,aq bg,.own 1000005 none,.own 1000006 none,.own 1000007 none,.own 1000008 none])] [aB 1000000 127 eh xs,aB 1000001 3 (.int .i64) aO,aB 1000002 50 db aY,aB 1000003 114 fU bj,aB 1000004 127 eh bK,aB 1000005 3 (.int .i64) cA,aB 1000006 50 db cB,aB 1000007 114 fU cF,aB 1000008 127 eh oN]
def S7 (id:Int)(t20:List lL)(t21 t22 t6 t61 out bg:Int)(xs:List Int)(aO:List bz)(aY:List cU)(bj:List cE)(bK:List Int)(cA:List bz)(cB:List cU)(cF:List cE):= er 55 [(1,bR id),cS 6,cS 7,(20,jO 146 (qK) t20),(21,bR t21),(22,bR t22)] [(6,[aq t6,aq t61,.own 1000000 none,.own 1000001 none,.own 1000002 none,.own 1000003 none]),(7,[aq out,aq bg,.own 1000004 none,.own 1000005 none,.own 1000006 none,.own 1000007 none])] [aB 1000000 3 (.int .i64) xs,aB 1000001 50 db aO,aB 1000002 114 fU aY,aB 1000003 127 eh bj,aB 1000004 3 (.int .i64) bK,aB 1000005 50 db cA,aB 1000006 114 fU cB,aB 1000007 127 eh cF]
def s0 (st:St):Option α:=gW ow F oz [.r,.r,.r,.l,.r,.b,.i,.r,.r,.l,.b,.r,.r,.b,.i] f138 κ n st
def Ka:Ex→St→Option α:=alH Tryz.prog (look ow) F oz [.r,.r,.l,.b,.r,.r,.b] (sub [.r,.r,.r,.l,.r,.b,.i] (nO f138)) (itk Tryz.prog (look ow) F oz (sub [.r,.r,.r,.l,.r,.b,.i] (nO f138)) κ n)
def zU (id:Int)(t20:List lL)(t21 t22 t6 t61 out bg:Int)(xs:List Int)(aO:List bz)(aY:List cU)(bj:List cE)(bK:List Int)(cA:List bz)(cB:List cU)(cF:List cE):= er 55 [(1,bR id),cS 6,cS 7,(20,jO 146 (qK) t20),(21,bR t21),(22,bR t22)] [(6,[aq t6,aq t61,.own 1000000 none,.own 1000001 none,.own 1000002 none,.own 1000003 none]),(7,[aq out,aq bg,.own 1000004 none,.own 1000005 none,.own 1000006 none,.own 1000007 none])] [aB 1000000 3 (.int .i64) xs,aB 1000001 50 db aO,aB 1000002 114 fU aY,aB 1000003 127 eh bj,aB 1000004 3 (.int .i64) bK,aB 1000005 50 db cA,aB 1000006 114 fU cB,aB 1000007 127 eh cF]
def S8 (t6 t61 out bg:Int)(xs:List Int)(aO:List bz)(aY:List cU)(bj:List cE)(bK:List Int)(cA:List bz)(cB:List cU)(cF:List cE):= er 55 [cS 6,cS 7] [(6,[aq t6,aq t61,.own 1000000 none,.own 1000001 none,.own 1000002 none,.own 1000003 none]),(7,[aq out,aq bg,.own 1000004 none,.own 1000005 none,.own 1000006 none,.own 1000007 none])] [aB 1000000 3 (.int .i64) xs,aB 1000001 50 db aO,aB 1000002 114 fU aY,aB 1000003 127 eh bj,aB 1000004 3 (.int .i64) bK,aB 1000005 50 db cA,aB 1000006 114 fU cB,aB 1000007 127 eh cF]
def HR (st:St):Option α:=gW ow F oz [.r,.r,.r,.l,.r,.b,.i] f138 κ n st
def zV:=jF ow F oz [.r,.r,.r,.l,.r,.b] f138 gY 2
theorem Mz (id:Int)(t20:List lL)(t21 t22 t30 t31 t6 t61 out bg:Int)(xs:List cE)(aO:List Int)(aY:List bz)(bj:List cU)(bK:List cE)(cA:List Int)(cB:List bz)(cF:List cU)(oN:List cE):s0 F κ (n+1) (nn id t20 t21 t22 t30 t31 t6 t61 out bg xs aO aY bj bK cA cB cF oN)=br (decide (t31<t30)) (ck (cl t31 (xs.length:Int)) ((dK F0 oN (aP xs t31 eh.aG)).bind fun TP=>br (!TP.1) (br (decide ((oN.length:Int)<300)) (ck (fg F oN.length [(aP xs t31 eh.aG)].length 32) (s0 F κ n (nn id t20 t21 t22 t30 (aj (t31+1)) t6 t61 out bg xs aO aY bj bK cA cB cF (oN++[(aP xs t31 eh.aG)])))) (s0 F κ n (nn id t20 t21 t22 t30 (aj (t31+1)) t6 t61 out bg xs aO aY bj bK cA cB cF oN))) (s0 F κ n (nn id t20 t21 t22 t30 (aj (t31+1)) t6 t61 out bg xs aO aY bj bK cA cB cF oN)))) (κ (.exit 2) (S7 id t20 t21 t22 t6 t61 out bg aO aY bj bK cA cB cF oN)):=by kernel_rfl
theorem MA (id:Int)(t20:List lL)(t21 t22 t6 t61 out bg:Int)(xs:List Int)(aO:List bz)(aY:List cU)(bj:List cE)(bK:List Int)(cA:List bz)(cB:List cU)(cF:List cE):HR F κ (n+1) (zU id t20 t21 t22 t6 t61 out bg xs aO aY bj bK cA cB cF)=br (decide (t22<t21)) (ck (cl t22 (t20.length:Int)) ((EB F0 id (aP t20 t22 qK.aG).2).bind fun Ou=>s0 F (Ka F κ n) F.n (nn id t20 t21 t22 (Ou.1.length:Int) 0 t6 t61 out bg Ou.1 xs aO aY bj bK cA cB cF))) (κ (.exit 0) (S8 t6 t61 out bg xs aO aY bj bK cA cB cF)):=by kernel_rfl
theorem agb (id:Int)(t20:List lL)(t21 t22 t6 t61 out bg:Int)(xs:List Int)(aO:List bz)(aY:List cU)(bj:List cE)(bK:List Int)(cA:List bz)(cB:List cU)(cF:List cE):Ka F κ n (.exit 2) (S7 id t20 t21 t22 t6 t61 out bg xs aO aY bj bK cA cB cF)=HR F κ n (zU id t20 t21 (aj (t22+1)) t6 t61 out bg xs aO aY bj bK cA cB cF):=by kernel_rfl
theorem agc (t6 t61 out bg:Int)(xs:List Int)(aO:List bz)(aY:List cU)(bj:List cE)(bK:List Int)(cA:List bz)(cB:List cU)(cF:List cE):zV F (.exit 0) (S8 t6 t61 out bg xs aO aY bj bK cA cB cF)=some (((out,bg),bK,cA,cB,cF),()):=by kernel_rfl
def Q2 (w:pt)(id:Int)(list:D23):=bF ow F oz f138 aCq gY 2 (w,id,list,())
theorem aqT (w:pt)(id:Int)(list:D23):Q2 F w id list=(aS F0 w).bind fun cj=>(rD F0 w).bind fun py=>(eb F0 py.1 id).bind fun fh=>br (!fh.1) (some (cj.1,())) (HR F (zV F) F.n (zU id list (list.length:Int) 0 0 0 cj.1.1.1 cj.1.1.2 [] [] [] [] cj.1.2.1 cj.1.2.2.1 cj.1.2.2.2.1 cj.1.2.2.2.2)):=by kernel_rfl
def VO:Any:=.one ⟨aCq,gY,2,fun x=>Q2 F0 x.1 x.2.1 x.2.2.1⟩
theorem aqU:bm 138 VO:=aA ow ⟨zT,lq,fu,VM,jd,trivial⟩ func138 oz (by kernel_rfl)
def VP:=[(151,jb)]
def oA (s:ByteArray):=bF VP F ab f206 ew mn 2 (s,())
theorem akx (s:ByteArray):oA F s=(fH F0 (s.size:Int)).bind fun r5=>ck (okB F r5.1.length s.size) (some (r5.1++bytesOf s,())):=by kernel_rfl
def s5:Any:=.one ⟨ew,mn,2,fun x=>oA F0 x.1⟩
theorem FI:bm 206 s5:=aA VP ⟨mX,trivial⟩ func206 ab (by kernel_rfl)
def zW:=[(151,jb)]
def zX:Nat→Option Hint:=look [(3,{live:=[3,6,7,8],mat:=[(3,5,.int .u8)],xl:=[3],rl:=[2]})]
def s6 (t6:List Int)(t7 t8:Int)(xs:List Int):= er 18 [(3,.v (.c (.own 1000000 none))),(6,jO 3 (.int .i64) t6),(7,bR t7),(8,bR t8)] [] [aB 1000000 5 (.int .u8) xs]
def MB (xs:List Int):= er 18 [(3,.v (.c (.own 1000000 none)))] [] [aB 1000000 5 (.int .u8) xs]
def zY (st:St):Option α:=gW zW F zX [.r,.r,.l,.r,.b,.i] f208 κ n st
def BV:=jF zW F zX [.r,.r,.l,.r,.b] f208 mn 2
theorem GB (t6:List Int)(t7 t8:Int)(xs:List Int):zY F κ (n+1) (s6 t6 t7 t8 xs)=br (decide (t8<t7)) (ck (cl t8 (t6.length:Int)) ((fH F0 (aP t6 t8 0)).bind fun lM=>ck (fg F xs.length lM.1.length 1) (zY F κ n (s6 t6 t7 (aj (t8+1)) (xs++lM.1))))) (κ (.exit 0) (MB xs)):=by kernel_rfl
theorem aaT (xs:List Int):BV F (.exit 0) (MB xs)=some (xs,()):=by kernel_rfl
def lu (list:List Int):=bF zW F zX f208 kp mn 2 (list,())
theorem aky (list:List Int):lu F list=zY F (BV F) F.n (s6 list (list.length:Int) 0 []):=by kernel_rfl
def s7:Any:=.one ⟨kp,mn,2,fun x=>lu F0 x.1⟩
theorem FJ:bm 208 s7:=aA zW ⟨mX,trivial⟩ func208 zX (by kernel_rfl)
def VQ:=[(151,jb),(152,jL),(206,s5),(208,s7)]
def s9 (c:D1)(q:D9):=bF VQ F ab f207 FW mn 2 (c,q,())
theorem akz (c:D1)(q:D9):s9 F c q=(mT F0 c q).bind fun r8=>br (!r8.1) (some ([],())) ((fH F0 q.1).bind fun cN=>(oA F0 q.2.1).bind fun py=>ck (fg F cN.1.length py.1.length 1) ((fH F0 (q.2.2.length:Int)).bind fun gv=>ck (fg F (cN.1++py.1).length gv.1.length 1) ((lu F0 q.2.2).bind fun xg=>ck (fg F ((cN.1++py.1)++gv.1).length xg.1.length 1) (some (((cN.1++py.1)++gv.1)++xg.1,()))))):=by kernel_rfl
def BW:Any:=.one ⟨FW,mn,2,fun x=>s9 F0 x.1 x.2.1⟩
theorem S9:bm 207 BW:=aA VQ ⟨mX,n6,FI,FJ,trivial⟩ func207 ab (by kernel_rfl)
def Ta:=[(94,mW),(151,jb),(206,s5),(207,BW),(208,s7)]
def uy (c:D1)(m:NA):=bF Ta F ab f145 ahS mn 2 (c,m,())
theorem agd (c:D1)(m:NA):uy F c m=(gO F0 c m).bind fun r8=>br (!r8.1) (some ([],())) ((fH F0 m.1).bind fun cN=>br (m.1==1) ((oA F0 m.2.2.1.1).bind fun gv=>ck (fg F cN.1.length gv.1.length 1) ((s9 F0 c m.2.2.1.2).bind fun UE=>ck (fg F (cN.1++gv.1).length UE.1.length 1) (some ((cN.1++gv.1)++UE.1,())))) (br (m.1==2) ((fH F0 m.2.2.2.1.1).bind fun r36=>ck (fg F cN.1.length r36.1.length 1) ((oA F0 m.2.2.2.1.2.1).bind fun r42=>ck (fg F (cN.1++r36.1).length r42.1.length 1) ((fH F0 (m.2.2.2.1.2.2.length:Int)).bind fun r49=>ck (fg F ((cN.1++r36.1)++r42.1).length r49.1.length 1) ((lu F0 m.2.2.2.1.2.2).bind fun r55=>ck (fg F (((cN.1++r36.1)++r42.1)++r49.1).length r55.1.length 1) (some ((((cN.1++r36.1)++r42.1)++r49.1)++r55.1,())))))) (br (m.1==3) ((lu F0 [m.2.1,m.2.2.2.2.2.1]).bind fun eY=>ck (fg F cN.1.length eY.1.length 1) ((s9 F0 c m.2.2.2.2.1).bind fun r71=>ck (fg F (cN.1++eY.1).length r71.1.length 1) (some ((cN.1++eY.1)++r71.1,())))) ((lu F0 [m.2.2.2.2.2.2.1,m.2.2.2.2.2.2.2.1,m.2.2.2.2.2.2.2.2.1,m.2.2.2.2.2.2.2.2.2]).bind fun r87=>ck (fg F cN.1.length r87.1.length 1) (some (cN.1++r87.1,())))))):=by kernel_rfl
def zZ:Any:=.one ⟨ahS,mn,2,fun x=>uy F0 x.1 x.2.1⟩
theorem PA:bm 145 zZ:=aA Ta ⟨uo,mX,FI,S9,FJ,trivial⟩ func145 ab (by kernel_rfl)
def MC:=[(34,nj),(38,gQ),(67,bL),(145,zZ)]
def MD:Nat→Option Hint:=look [(5,{live:=[2,4,5,15,16,17],xY:=[(4,2,3,.int .i64),(4,3,50,db),(4,4,114,fU),(4,5,127,eh)],xl:=[4,5],rl:=[4]})]
def lU (t15:List lL)(t16 t17 w w1:Int)(w2:List Int)(w3:List bz)(w4:List cU)(w5:List cE)(t4 t41 out bg:Int)(xs:List Int)(aO:List bz)(aY:List cU)(bj:List cE)(bK:List Int)(cA:List bz)(cB:List cU)(cF:List cE):= er 55 [cS 2,cS 4,cS 5,(15,jO 146 (qK) t15),(16,bR t16),(17,bR t17)] [(2,[aq w,aq w1,.ro false 3 (.int .i64) w2,.ro false 50 (db) w3,.ro false 114 (fU) w4,.ro false 127 (eh) w5]),(4,[aq t4,aq t41,.own 1000000 none,.own 1000001 none,.own 1000002 none,.own 1000003 none]),(5,[aq out,aq bg,.own 1000004 none,.own 1000005 none,.own 1000006 none,.own 1000007 none])] [aB 1000000 3 (.int .i64) xs,aB 1000001 50 db aO,aB 1000002 114 fU aY,aB 1000003 127 eh bj,aB 1000004 3 (.int .i64) bK,aB 1000005 50 db cA,aB 1000006 114 fU cB,aB 1000007 127 eh cF]
def VR (t4 t41 out bg:Int)(xs:List Int)(aO:List bz)(aY:List cU)(bj:List cE)(bK:List Int)(cA:List bz)(cB:List cU)(cF:List cE):= er 55 [cS 4,cS 5] [(4,[aq t4,aq t41,.own 1000000 none,.own 1000001 none,.own 1000002 none,.own 1000003 none]),(5,[aq out,aq bg,.own 1000004 none,.own 1000005 none,.own 1000006 none,.own 1000007 none])] [aB 1000000 3 (.int .i64) xs,aB 1000001 50 db aO,aB 1000002 114 fU aY,aB 1000003 127 eh bj,aB 1000004 3 (.int .i64) bK,aB 1000005 50 db cA,aB 1000006 114 fU cB,aB 1000007 127 eh cF]
def rE (st:St):Option α:=gW MC F MD [.r,.r,.r,.l,.r,.b,.i] f141 κ n st
def NJ:=jF MC F MD [.r,.r,.r,.l,.r,.b] f141 gY 2
theorem PB (t15:List lL)(t16 t17 w w1:Int)(w2:List Int)(w3:List bz)(w4:List cU)(w5:List cE)(t4 t41 out bg:Int)(xs:List Int)(aO:List bz)(aY:List cU)(bj:List cE)(bK:List Int)(cA:List bz)(cB:List cU)(cF:List cE):rE F κ (n+1) (lU t15 t16 t17 w w1 w2 w3 w4 w5 t4 t41 out bg xs aO aY bj bK cA cB cF)=br (decide (t17<t16)) (ck (cl t17 (t15.length:Int)) ((uy F0 (w,w1) (aP t15 t17 qK.aG).2).bind fun XQ=>br (decide ((XQ.1.length:Int)>0)) ((bd F0 (aP t15 t17 qK.aG).1 0 (aj (w-1))).bind fun r36=>br r36.1 (br (decide ((cB.length:Int)<60)) (ck (fg F cB.length [((aP t15 t17 qK.aG).1,XQ.1)].length 32) (rE F κ n (lU t15 t16 (aj (t17+1)) w w1 w2 w3 w4 w5 t4 t41 out bg xs aO aY bj bK cA (cB++[((aP t15 t17 qK.aG).1,XQ.1)]) cF))) (rE F κ n (lU t15 t16 (aj (t17+1)) w w1 w2 w3 w4 w5 t4 t41 out bg xs aO aY bj bK cA cB cF))) (rE F κ n (lU t15 t16 (aj (t17+1)) w w1 w2 w3 w4 w5 t4 t41 out bg xs aO aY bj bK cA cB cF))) (rE F κ n (lU t15 t16 (aj (t17+1)) w w1 w2 w3 w4 w5 t4 t41 out bg xs aO aY bj bK cA cB cF)))) (κ (.exit 0) (VR t4 t41 out bg xs aO aY bj bK cA cB cF)):=by kernel_rfl
theorem akA (t4 t41 out bg:Int)(xs:List Int)(aO:List bz)(aY:List cU)(bj:List cE)(bK:List Int)(cA:List bz)(cB:List cU)(cF:List cE):NJ F (.exit 0) (VR t4 t41 out bg xs aO aY bj bK cA cB cF)=some (((out,bg),bK,cA,cB,cF),()):=by kernel_rfl
def PC (w:pt)(list:D23):=bF MC F MD f141 aCn gY 2 (w,list,())
theorem auE (w:pt)(list:D23):PC F w list=(aS F0 w).bind fun hY=>(dN F0 w).bind fun cN=>br (!cN.1) (some (hY.1,())) (rE F (NJ F) F.n (lU list (list.length:Int) 0 w.1.1 w.1.2 w.2.1 w.2.2.1 w.2.2.2.1 w.2.2.2.2 0 0 hY.1.1.1 hY.1.1.2 [] [] [] [] hY.1.2.1 hY.1.2.2.1 hY.1.2.2.2.1 hY.1.2.2.2.2)):=by kernel_rfl
def Zw:Any:=.one ⟨aCn,gY,2,fun x=>PC F0 x.1 x.2.1⟩
theorem auF:bm 141 Zw:=aA MC ⟨vQ,lq,cm,PA,trivial⟩ func141 MD (by kernel_rfl)
end
end Go.Am.Tryz
