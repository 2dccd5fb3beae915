/- Lemmas for the claim. No condition. -/
import Derived.Test.YtfapcfpkbahneaaGreatDoorQtVJG4
set_option linter.all false
set_option maxRecDepth 100000
namespace Go.Am.Tryz
open Go.Am Go.Proofs Go.Proofs.Tryz
noncomputable section
variable {α:Type} (F:rT) (κ:Ex->St->Option α) (n:Nat)
def Tp:=[(91,lQ)]
def Ds (a b:D9):=bD Tp F ab f218 xq aZ 1 (a,b,())
theorem agB (a b:D9):Ds F a b=br (a.1==b.1) (br (a.2.1.toList==b.2.1.toList) ((iy F0 a.2.2 b.2.2).bind fun gB=>some (gB.1,())) (some (false,()))) (some (false,())):=by kernel_rfl
def ML:Any:=.one ⟨xq,aZ,1,fun x=>Ds F0 x.1 x.2.1⟩
theorem agC:bo 218 ML:=ay Tp ⟨xD,trivial⟩ func218 ab (by kernel_rfl)
def V6:=[(46,kJ),(217,Kh),(218,ML)]
def H0 (a b:N6):=bD V6 F ab f157 aCo aZ 1 (a,b,())
theorem akQ (a b:N6):H0 F a b=br (a.1==b.1) (br (a.2.1==b.2.1) ((zN F0 a.2.2.1 b.2.2.1).bind fun gB=>br gB.1 ((Ds F0 a.2.2.2.1 b.2.2.2.1).bind fun Ri=>br Ri.1 ((jJ F0 a.2.2.2.2.1 b.2.2.2.2.1).bind fun r36=>br r36.1 (br (a.2.2.2.2.2.1==b.2.2.2.2.2.1) (some ((a.2.2.2.2.2.2.1==b.2.2.2.2.2.2.1)&&((a.2.2.2.2.2.2.2.1==b.2.2.2.2.2.2.2.1)&&((a.2.2.2.2.2.2.2.2.1==b.2.2.2.2.2.2.2.2.1)&&((a.2.2.2.2.2.2.2.2.2==b.2.2.2.2.2.2.2.2.2)&&true))),())) (some (false,()))) (some (false,()))) (some (false,()))) (some (false,()))) (some (false,()))) (some (false,())):=by kernel_rfl
def PX:Any:=.one ⟨aCo,aZ,1,fun x=>H0 F0 x.1 x.2.1⟩
theorem akR:bo 157 PX:=ay V6 ⟨rn,adM,agC,trivial⟩ func157 ab (by kernel_rfl)
def e9:Nat->Option Hint:=look [(2,{live:=[0,1,5],rl:=[4]})]
def er (s:ByteArray)(c i:Int):= cJ 19 [(0,Y0 s),(1,.v (.c (.int .u8 c))),(5,bE i)]
def lY (t4:Int):= cJ 19 [(4,bE t4)]
def zO   := cJ 19 []
def fa (st:St):Option α:=gA aE F e9 [.r,.l,.r,.b,.i] f309 κ n st
def gw:=jq aE F e9 [.r,.l,.r,.b] f309 dv 1
theorem kb (s:ByteArray)(c i:Int):fa F κ (n+1) (er s c i)=br (decide (i>=0)) (ck (cc i (s.size:Int)) (br ((lL s i)==c) (κ .ret (lY i)) (fa F κ n (er s c (aj (i-1)))))) (κ (.exit 0) (zO)):=by kernel_rfl
theorem zP (t4:Int):gw F .ret (lY t4)=some (t4,()):=by kernel_rfl
def jw (s:ByteArray)(c:Int):=bD aE F e9 f309 Y3 dv 1 (s,c,())
theorem B3 (s:ByteArray)(c:Int):jw F s c=fa F (gw F) F.n (er s c (aj ((s.size:Int)-1))):=by kernel_rfl
def lZ:Any:=.one ⟨Y3,dv,1,fun x=>jw F0 x.1 x.2.1⟩
theorem B4:bo 309 lZ:=ay aE trivial func309 e9 (by kernel_rfl)
def xF:=[(309,lZ)]
def p5 (s:ByteArray)(c:Int):=bD xF F ab f262 Y3 dv 1 (s,c,())
theorem Od (s:ByteArray)(c:Int):p5 F s c=(jw F0 s c).bind fun r7=>some (r7.1,()):=by kernel_rfl
def tL:Any:=.one ⟨Y3,dv,1,fun x=>p5 F0 x.1 x.2.1⟩
theorem Oe:bo 262 tL:=ay xF ⟨B4,trivial⟩ func262 ab (by kernel_rfl)
def aiV:=[(19,fy),(262,tL)]
def sQ (s:ByteArray):=bD aiV F ab f219 en en 1 (s,())
theorem au5 (s:ByteArray):sQ F s=(fE F0 s).bind fun r4=>br (!r4.1) (some (al,())) (br (s.toList==al.toList) (some (al,())) ((p5 F0 s 47).bind fun cR=>ck (Si 0 cR.1 (s.size:Int)) (some (s.extract (0:Int).toNat cR.1.toNat,())))):=by kernel_rfl
def Dt:Any:=.one ⟨en,en,1,fun x=>sQ F0 x.1⟩
theorem Rv:bo 219 Dt:=ay aiV ⟨iz,Oe,trivial⟩ func219 ab (by kernel_rfl)
def V7:=[(19,fy),(152,jL),(219,Dt)]
def ou (c:D1)(b:D15):=bD V7 F ab f159 aCp aZ 1 (c,b,())
theorem akS (c:D1)(b:D15):ou F c b=(mX F0 c b.2).bind fun r8=>br r8.1 (br (!(b.1.toList==al.toList)) ((fE F0 b.1).bind fun fv=>br fv.1 ((sQ F0 b.1).bind fun gB=>some (gB.1.toList==b.2.2.1.toList,())) (some (false,()))) (some (false,()))) (some (false,())):=by kernel_rfl
def mZ:Any:=.one ⟨aCp,aZ,1,fun x=>ou F0 x.1 x.2.1⟩
theorem vV:bo 159 mZ:=ay V7 ⟨iz,oq,Rv,trivial⟩ func159 ab (by kernel_rfl)
def adN:=[(32,dA),(67,bL),(152,jL),(153,jK),(155,ph),(157,PX),(158,V5),(159,mZ)]
def gL (c:D1)(m:N6):=bD adN F ab f94 aiv aZ 1 (c,m,())
theorem aro (c:D1)(m:N6):gL F c m=(eZ F0 c).bind fun r6=>br (!r6.1) (some (false,())) ((Ru F0 m).bind fun dC=>(H0 F0 m dC.1).bind fun cR=>br (!cR.1) (some (false,())) (br (m.1==1) ((ou F0 c m.2.2.1).bind fun gB=>some (gB.1,())) (br (m.1==2) ((ry F0 c m.2.2.2.1).bind fun Vc=>br Vc.1 (some (!(m.2.2.2.1.2.1.toList==al.toList),())) (some (false,()))) (br (m.1==3) ((bd F0 m.2.1 1 60).bind fun LG=>br LG.1 ((mX F0 c m.2.2.2.2.1).bind fun r44=>br r44.1 ((bd F0 m.2.2.2.2.2.1 0 (aj (c.1-1))).bind fun r52=>some (r52.1,())) (some (false,()))) (some (false,()))) (br (m.1==4) ((pR F0 m.2.2.2.2.2.2).bind fun r58=>some (r58.1,())) (some (false,()))))))):=by kernel_rfl
def na:Any:=.one ⟨aiv,aZ,1,fun x=>gL F0 x.1 x.2.1⟩
theorem uz:bo 94 na:=ay adN ⟨eE,ch,oq,oo,zI,akR,arn,vV,trivial⟩ func94 ab (by kernel_rfl)
def H2:=[(32,dA),(42,pj),(67,bL),(90,kK),(92,FO),(93,B2),(94,na)]
def H3:Nat->Option Hint:=look [(4,{live:=[2,3,64,65,66],rl:=[4]})]
def zQ (t64:List lJ)(t65 t66 c c1 r r1 r2 r3 r4 r5:Int)(r6:ByteArray)(r7:List Int)(r8:ByteArray)(r9:List D4)(gZ:List D9)(dC:List Int)(cR:Int)(cg:List lJ):= dY 92 [cL 2,cL 3,(64,jO 146 (qN) t64),(65,bE t65),(66,bE t66)] [(2,[aq c,aq c1]),(3,[aq r,aq r1,aq r2,aq r3,aq r4,aq r5,.str r6,.ro false 3 (.int .i64) r7,.str r8,.ro false 76 (K4) r9,.ro false 74 (K9) gZ,.ro false 5 (.int .u8) dC,aq cR,.ro false 146 (qN) cg])] []
def zR (t4:Bool):= cJ 92 [(4,OV t4)]
def Tq   := cJ 92 []
def H4 (st:St):Option α:=gA H2 F H3 [.r,.r,.l,.r,.b,.i] f47 κ n st
def zS:=jq H2 F H3 [.r,.r,.l,.r,.b] f47 aZ 1
theorem MM (t64:List lJ)(t65 t66 c c1 r r1 r2 r3 r4 r5:Int)(r6:ByteArray)(r7:List Int)(r8:ByteArray)(r9:List D4)(gZ:List D9)(dC:List Int)(cR:Int)(cg:List lJ):H4 F κ (n+1) (zQ t64 t65 t66 c c1 r r1 r2 r3 r4 r5 r6 r7 r8 r9 gZ dC cR cg)=br (decide (t66<t65)) (ck (cc t66 (t64.length:Int)) ((gL F0 (c,c1) (aN t64 t66 qN.aF).2).bind fun r73=>br (!r73.1) (κ .ret (zR false)) ((bd F0 (aN t64 t66 qN.aF).1 0 (aj (c-1))).bind fun r81=>br (!r81.1) (κ .ret (zR false)) (br ((aN t64 t66 qN.aF).1==r) (κ .ret (zR false)) (H4 F κ n (zQ t64 t65 (aj (t66+1)) c c1 r r1 r2 r3 r4 r5 r6 r7 r8 r9 gZ dC cR cg)))))) (κ (.exit 0) (Tq)):=by kernel_rfl
theorem akT (t4:Bool):zS F .ret (zR t4)=some (t4,()):=by kernel_rfl
theorem agD: zS F (.exit 0) (Tq)=some (true,()):=by kernel_rfl
def c9 (c:D1)(r:bu):=bD H2 F H3 f47 AQ aZ 1 (c,r,())
theorem arp (c:D1)(r:bu):c9 F c r=(eZ F0 c).bind fun r8=>br (!r8.1) (some (false,())) ((bd F0 r.1 0 (aj (c.1-1))).bind fun nL=>br (!nL.1) (some (false,())) ((bd F0 r.2.1 1 60).bind fun gB=>br (!gB.1) (some (false,())) ((bd F0 r.2.2.1 0 60).bind fun Vc=>br (!Vc.1) (some (false,())) ((ll F0 c r.2.2.2.1).bind fun r35=>br (!r35.1) (some (false,())) ((xE F0 r.2.2.2.2.1).bind fun r41=>br (!r41.1) (some (false,())) ((lq F0 c r.2.2.2.2.2.1).bind fun r48=>br (!r48.1) (some (false,())) ((rA F0 r.2.2.2.2.2.2.1).bind fun XA=>br (!XA.1) (some (false,())) (br (decide ((r.2.2.2.2.2.2.2.length:Int)>30)) (some (false,())) (H4 F (zS F) F.n (zQ r.2.2.2.2.2.2.2 (r.2.2.2.2.2.2.2.length:Int) 0 c.1 c.2 r.1 r.2.1 r.2.2.1 r.2.2.2.1.1 r.2.2.2.1.2.1 r.2.2.2.1.2.2.1.1 r.2.2.2.1.2.2.1.2.1 r.2.2.2.1.2.2.1.2.2 r.2.2.2.1.2.2.2 r.2.2.2.2.1 r.2.2.2.2.2.1 r.2.2.2.2.2.2.1.1 r.2.2.2.2.2.2.1.2 r.2.2.2.2.2.2.2)))))))))):=by kernel_rfl
def cO:Any:=.one ⟨AQ,aZ,1,fun x=>c9 F0 x.1 x.2.1⟩
theorem dm:bo 47 cO:=ay H2 ⟨eE,zM,ch,rv,V4,To,uz,trivial⟩ func47 H3 (by kernel_rfl)
def Z2:=[(47,cO)]
def MN (c:D1)(id:Int):=bD Z2 F ab f33 aiw hJ 2 (c,id,())
theorem aov (c:D1)(id:Int):MN F c id=(c9 F0 c (id,1,0,(0,0,(0,al,[]),al),[],[],([],0),[])).bind fun dC=>br (!dC.1) (some ((0,0,0,(0,0,(0,al,[]),al),[],[],([],0),[]),false,())) (some ((id,1,0,(0,0,(0,al,[]),al),[],[],([],0),[]),true,())):=by kernel_rfl
def Tr:Any:=.one ⟨aiw,hJ,2,fun x=>MN F0 x.1 x.2.1⟩
theorem aow:bo 33 Tr:=ay Z2 ⟨dm,trivial⟩ func33 ab (by kernel_rfl)
def Du:=[(67,bL)]
def Dv:Nat->Option Hint:=look [(4,{live:=[0,3],mat:=[(3,5,.int .u8)],xl:=[0,3],rl:=[2]})]
def po (n1:Int)(xs:List Int):= dY 23 [(0,bE n1),(3,.v (.c (.own 1000000 none)))] [] [aA 1000000 5 (.int .u8) xs]
def PY (n1:Int)(xs:List Int):= dY 23 [(0,bE n1),(3,.v (.c (.own 1000000 none)))] [] [aA 1000000 5 (.int .u8) xs]
def uA (st:St):Option α:=gA Du F Dv [.r,.r,.r,.l,.b,.i] f151 κ n st
def vW:=jq Du F Dv [.r,.r,.r,.l,.b] f151 mu 2
theorem ov (n1:Int)(xs:List Int):uA F κ (n+1) (po n1 xs)=br (decide (n1>=128)) (ck (fe F xs.length [IntKind.wrap .u8 (aj ((Int.tmod n1 128)+128))].length 1) (uA F κ n (po (aj (Int.tdiv n1 128)) (xs++[IntKind.wrap .u8 (aj ((Int.tmod n1 128)+128))])))) (κ (.exit 0) (PY n1 xs)):=by kernel_rfl
theorem qv (n1:Int)(xs:List Int):vW F (.exit 0) (PY n1 xs)=ck (fe F xs.length [IntKind.wrap .u8 (n1)].length 1) (some (xs++[IntKind.wrap .u8 (n1)],())):=by kernel_rfl
def fF (n1:Int):=bD Du F Dv f151 dv mu 2 (n1,())
theorem V8 (n1:Int):fF F n1=(bd F0 n1 0 2147483647).bind fun r5=>br (!r5.1) (some ([],())) (uA F (vW F) F.n (po n1 [])):=by kernel_rfl
def ja:Any:=.one ⟨dv,mu,2,fun x=>fF F0 x.1⟩
theorem nc:bo 151 ja:=ay Du ⟨ch,trivial⟩ func151 Dv (by kernel_rfl)
def Dw:=[(67,bL),(151,ja)]
def Dx:Nat->Option Hint:=look [(5,{live:=[0,1,7,8],rl:=[4,5,6]})]
def vX (b:List Int)(iM n1 i:Int):= cJ 55 [(0,jO 5 (.int .u8) b),(1,bE iM),(7,bE n1),(8,bE i)]
def FP (t4 t5:Int)(t6:Bool):= cJ 55 [(4,bE t4),(5,bE t5),(6,OV t6)]
def B5   := cJ 55 []
def Dy (st:St):Option α:=gA Dw F Dx [.r,.r,.r,.l,.r,.b,.i] f86 κ n st
def vY:=jq Dw F Dx [.r,.r,.r,.l,.r,.b] f86 asK 1
theorem Ki (b:List Int)(iM n1 i:Int):Dy F κ (n+1) (vX b iM n1 i)=br (decide (i<5)) (br (decide ((aj (iM+i))<(b.length:Int))) (ck (cc (aj (iM+i)) (b.length:Int)) (ck (decide (0<=(aj (7*i)))) (br (decide ((aj (aN b (aj (iM+i)) 0))<128)) ((fF F0 (aj (n1+(aj ((Int.tmod (aj (aN b (aj (iM+i)) 0)) 128)*2 ^ (min (aj (7*i)).toNat 64)))))).bind fun r45=>br ((r45.1.length:Int) != (aj (i+1))) (κ .ret (FP 0 0 false)) (κ .ret (FP (aj (n1+(aj ((Int.tmod (aj (aN b (aj (iM+i)) 0)) 128)*2 ^ (min (aj (7*i)).toNat 64))))) (aj ((aj (iM+i))+1)) true))) (Dy F κ n (vX b iM (aj (n1+(aj ((Int.tmod (aj (aN b (aj (iM+i)) 0)) 128)*2 ^ (min (aj (7*i)).toNat 64))))) (aj (i+1))))))) (κ (.exit 0) (B5))) (κ (.exit 0) (B5)):=by kernel_rfl
theorem PZ (t4 t5:Int)(t6:Bool):vY F .ret (FP t4 t5 t6)=some (t4,t5,t6,()):=by kernel_rfl
theorem MO: vY F (.exit 0) (B5)=some (0,0,false,()):=by kernel_rfl
def xG (b:List Int)(iM:Int):=bD Dw F Dx f86 aix asK 1 (b,iM,())
theorem aox (b:List Int)(iM:Int):xG F b iM=(bd F0 iM 0 (aj ((b.length:Int)-1))).bind fun lK=>br (!lK.1) (some (0,0,false,())) (Dy F (vY F) F.n (vX b iM 0 0)):=by kernel_rfl
def FQ:Any:=.one ⟨aix,asK,1,fun x=>xG F0 x.1 x.2.1⟩
theorem V9:bo 86 FQ:=ay Dw ⟨ch,nc,trivial⟩ func86 Dx (by kernel_rfl)
def MP:=[(86,FQ)]
def bR (r:D32):=Ei MP F ab f87 iN 0 .cur dv iN 1 (r,())
theorem abq (r:D32):bR F r=(xG F0 r.1 r.2.1).bind fun oW=>br r.2.2 (some ((0,()),(r.1,r.2.1,true),())) (br (!oW.2.2.1) (some ((0,()),(r.1,r.2.1,true),())) (some ((oW.1,()),(r.1,oW.2.1,r.2.2),()))):=by kernel_rfl
def jl:Any:=.two ⟨iN,0,.cur,dv,1,iN,fun x=>bR F0 x.1⟩
theorem ow:bo 87 jl:=U6 MP ⟨V9,trivial⟩ func87 ab (by kernel_rfl)
def Wa:=[(86,FQ)]
def oz (b:List Int)(iM:Int):=bD Wa F ab f44 aix aCq 1 (b,iM,())
theorem akU (b:List Int)(iM:Int):oz F b iM=(xG F0 b iM).bind fun cg=>br (!cg.2.2.1) (some (al,0,false,())) (br (decide (cg.1>(aj ((b.length:Int)-cg.2.1)))) (some (al,0,false,())) (ck (Si cg.2.1 (aj (cg.2.1+cg.1)) (b.length:Int)) (some (strOf ((b.take (aj (cg.2.1+cg.1)).toNat).drop cg.2.1.toNat),aj (cg.2.1+cg.1),true,())))):=by kernel_rfl
def B6:Any:=.one ⟨aix,aCq,1,fun x=>oz F0 x.1 x.2.1⟩
theorem Ts:bo 44 B6:=ay Wa ⟨V9,trivial⟩ func44 ab (by kernel_rfl)
def Kj:=[(44,B6)]
def gM (r:D32):=Ei Kj F ab f89 iN 0 .cur en iN 1 (r,())
theorem Yu (r:D32):gM F r=(oz F0 r.1 r.2.1).bind fun oW=>br r.2.2 (some ((al,()),(r.1,r.2.1,true),())) (br (!oW.2.2.1) (some ((al,()),(r.1,r.2.1,true),())) (some ((oW.1,()),(r.1,oW.2.1,r.2.2),()))):=by kernel_rfl
def lr:Any:=.two ⟨iN,0,.cur,en,1,iN,fun x=>gM F0 x.1⟩
theorem tW:bo 89 lr:=U6 Kj ⟨Ts,trivial⟩ func89 ab (by kernel_rfl)
def oA:=[(87,jl)]
def oB:Nat->Option Hint:=look [(4,{live:=[0,3,4,5],mat:=[(3,3,.int .i64)],xl:=[3],rl:=[2]})]
def lu (count i:Int)(aB:List Int)(au:Int)(ar:Bool)(xs:List Int):St:={nt:=26,tm:=[(0,.v (.c (.ptr 4000000 0))),(3,.v (.c (.own 1000000 none))),(4,bE count),(5,bE i)],bx:=[(4000000,[.ro true 5 (.int .u8) aB,aq au,.bool ar])],bl:=[aA 1000000 3 (.int .i64) xs],sp:=.v (.c (.ptr 4000000 0))}
def ku (aB:List Int)(au:Int)(ar:Bool)(xs:List Int):St:={nt:=26,tm:=[(3,.v (.c (.own 1000000 none)))],bx:=[(4000000,[.ro true 5 (.int .u8) aB,aq au,.bool ar])],bl:=[aA 1000000 3 (.int .i64) xs],sp:=.v (.c (.ptr 4000000 0))}
def oC (st:St):Option α:=gA oA F oB [.r,.r,.r,.l,.r,.b,.i] f122 κ n st
def rB:=axm oA F oB [.r,.r,.r,.l,.r,.b] f122 .cur kB iN 2
theorem xH (count i:Int)(aB:List Int)(au:Int)(ar:Bool)(xs:List Int):oC F κ (n+1) (lu count i aB au ar xs)=br (decide (i<count)) (br (!ar) ((bR F0 (aB,au,ar)).bind fun gB=>ck (fe F xs.length [gB.1.1].length 8) (oC F κ n (lu count (aj (i+1)) gB.2.1.1 gB.2.1.2.1 gB.2.1.2.2 (xs++[gB.1.1])))) (κ (.exit 0) (ku aB au ar xs))) (κ (.exit 0) (ku aB au ar xs)):=by kernel_rfl
theorem Rw (aB:List Int)(au:Int)(ar:Bool)(xs:List Int):rB F (.exit 0) (ku aB au ar xs)=some ((xs,()),(aB,au,ar),()):=by kernel_rfl
def nd (r:D32):=Ei oA F oB f122 iN 0 .cur kB iN 2 (r,())
theorem Yv (r:D32):nd F r=(bR F0 r).bind fun r7=>oC F (rB F) F.n (lu r7.1.1 0 r7.2.1.1 r7.2.1.2.1 r7.2.1.2.2 []):=by kernel_rfl
def rC:Any:=.two ⟨iN,0,.cur,kB,2,iN,fun x=>nd F0 x.1⟩
theorem GG:bo 122 rC:=U6 oA ⟨ow,trivial⟩ func122 oB (by kernel_rfl)
def P0:=[(87,jl),(89,lr),(122,rC)]
def ng (r:D32):=Ei P0 F ab f88 iN 0 .cur gV iN 2 (r,())
theorem adO (r:D32):ng F r=(bR F0 r).bind fun r5=>(gM F0 r5.2.1).bind fun r8=>(nd F0 r8.2.1).bind fun dC=>some (((r5.1.1,r8.1.1,dC.1.1),()),dC.2.1,()):=by kernel_rfl
def wU:Any:=.two ⟨iN,0,.cur,gV,2,iN,fun x=>ng F0 x.1⟩
theorem MQ:bo 88 wU:=U6 P0 ⟨ow,tW,GG,trivial⟩ func88 ab (by kernel_rfl)
def adP:=[(87,jl),(88,wU),(89,lr),(94,na),(122,rC)]
def Kk (c:D1)(b:List Int):=bD adP F ab f70 SA aCr 2 (c,b,())
theorem arq (c:D1)(b:List Int):Kk F c b=(bR F0 (b,0,false)).bind fun cR=>br (cR.1.1==1) ((gM F0 cR.2.1).bind fun dL=>(ng F0 dL.2.1).bind fun sg=>br sg.2.1.2.2 (some ((0,0,(al,0,al,[]),(0,al,[]),(0,al,[]),0,0,0,0,0),false,())) (br (sg.2.1.2.1 != (b.length:Int)) (some ((0,0,(al,0,al,[]),(0,al,[]),(0,al,[]),0,0,0,0,0),false,())) ((gL F0 c (cR.1.1,0,(dL.1.1,sg.1.1),(0,al,[]),(0,al,[]),0,0,0,0,0)).bind fun r79=>br (!r79.1) (some ((0,0,(al,0,al,[]),(0,al,[]),(0,al,[]),0,0,0,0,0),false,())) (some ((cR.1.1,0,(dL.1.1,sg.1.1),(0,al,[]),(0,al,[]),0,0,0,0,0),true,()))))) (br (cR.1.1==2) ((bR F0 cR.2.1).bind fun Ri=>(gM F0 Ri.2.1).bind fun ud=>(nd F0 ud.2.1).bind fun Hr=>br Hr.2.1.2.2 (some ((0,0,(al,0,al,[]),(0,al,[]),(0,al,[]),0,0,0,0,0),false,())) (br (Hr.2.1.2.1 != (b.length:Int)) (some ((0,0,(al,0,al,[]),(0,al,[]),(0,al,[]),0,0,0,0,0),false,())) ((gL F0 c (cR.1.1,0,(al,0,al,[]),(Ri.1.1,ud.1.1,Hr.1.1),(0,al,[]),0,0,0,0,0)).bind fun r79=>br (!r79.1) (some ((0,0,(al,0,al,[]),(0,al,[]),(0,al,[]),0,0,0,0,0),false,())) (some ((cR.1.1,0,(al,0,al,[]),(Ri.1.1,ud.1.1,Hr.1.1),(0,al,[]),0,0,0,0,0),true,()))))) (br (cR.1.1==3) ((bR F0 cR.2.1).bind fun OA=>(bR F0 OA.2.1).bind fun r45=>(ng F0 r45.2.1).bind fun r49=>br r49.2.1.2.2 (some ((0,0,(al,0,al,[]),(0,al,[]),(0,al,[]),0,0,0,0,0),false,())) (br (r49.2.1.2.1 != (b.length:Int)) (some ((0,0,(al,0,al,[]),(0,al,[]),(0,al,[]),0,0,0,0,0),false,())) ((gL F0 c (cR.1.1,OA.1.1,(al,0,al,[]),(0,al,[]),r49.1.1,r45.1.1,0,0,0,0)).bind fun r79=>br (!r79.1) (some ((0,0,(al,0,al,[]),(0,al,[]),(0,al,[]),0,0,0,0,0),false,())) (some ((cR.1.1,OA.1.1,(al,0,al,[]),(0,al,[]),r49.1.1,r45.1.1,0,0,0,0),true,()))))) (br (cR.1.1==4) ((bR F0 cR.2.1).bind fun XA=>(bR F0 XA.2.1).bind fun r56=>(bR F0 r56.2.1).bind fun r58=>(bR F0 r58.2.1).bind fun r60=>br r60.2.1.2.2 (some ((0,0,(al,0,al,[]),(0,al,[]),(0,al,[]),0,0,0,0,0),false,())) (br (r60.2.1.2.1 != (b.length:Int)) (some ((0,0,(al,0,al,[]),(0,al,[]),(0,al,[]),0,0,0,0,0),false,())) ((gL F0 c (cR.1.1,0,(al,0,al,[]),(0,al,[]),(0,al,[]),0,XA.1.1,r56.1.1,r58.1.1,r60.1.1)).bind fun r79=>br (!r79.1) (some ((0,0,(al,0,al,[]),(0,al,[]),(0,al,[]),0,0,0,0,0),false,())) (some ((cR.1.1,0,(al,0,al,[]),(0,al,[]),(0,al,[]),0,XA.1.1,r56.1.1,r58.1.1,r60.1.1),true,()))))) (br cR.2.1.2.2 (some ((0,0,(al,0,al,[]),(0,al,[]),(0,al,[]),0,0,0,0,0),false,())) (br (cR.2.1.2.1 != (b.length:Int)) (some ((0,0,(al,0,al,[]),(0,al,[]),(0,al,[]),0,0,0,0,0),false,())) ((gL F0 c (cR.1.1,0,(al,0,al,[]),(0,al,[]),(0,al,[]),0,0,0,0,0)).bind fun r79=>br (!r79.1) (some ((0,0,(al,0,al,[]),(0,al,[]),(0,al,[]),0,0,0,0,0),false,())) (some ((cR.1.1,0,(al,0,al,[]),(0,al,[]),(0,al,[]),0,0,0,0,0),true,())))))))):=by kernel_rfl
def Kl:Any:=.one ⟨SA,aCr,2,fun x=>Kk F0 x.1 x.2.1⟩
theorem Z3:bo 70 Kl:=ay adP ⟨ow,MQ,tW,uz,GG,trivial⟩ func70 ab (by kernel_rfl)
def iA:=[(19,fy),(32,dA),(47,cO),(67,bL),(68,zH),(69,FL),(70,Kl),(71,eN)]
def iB:Nat->Option Hint:=look [(5,{live:=[1,3,54,55,56],xl:=[1,3],rl:=[2]}),(11,{live:=[1,3,73,74,75],xl:=[1,3],rl:=[2]}),(18,{live:=[3,99,100,101],rl:=[2]})]
def nh (t99:List cl)(t100 t101 c c1:Int):= dY 127 [cL 3,(99,jO 127 (dP) t99),(100,bE t100),(101,bE t101)] [(3,[aq c,aq c1])] []
def sR (t2:Bool):= cJ 127 [(2,OV t2)]
def MR   := cJ 127 []
def rD (st:St):Option α:=gA iA F iB [.r,.r,.r,.r,.r,.l,.r,.b,.i] f34 κ n st
def ni:=jq iA F iB [.r,.r,.r,.r,.r,.l,.r,.b] f34 aZ 1
def nj (t73:List cG)(t74 t75 w w1:Int)(w2:List Int)(w3:List bu)(w4:List cG)(w5:List cl)(c c1:Int):= dY 127 [cL 1,cL 3,(73,jO 114 (fC) t73),(74,bE t74),(75,bE t75)] [(1,[aq w,aq w1,.ro false 3 (.int .i64) w2,.ro false 50 (c8) w3,.ro false 114 (fC) w4,.ro false 127 (dP) w5]),(3,[aq c,aq c1])] []
def B7 (t2:Bool):= cJ 127 [(2,OV t2)]
def MS (w w1:Int)(w2:List Int)(w3:List bu)(w4:List cG)(w5:List cl)(c c1:Int):= dY 127 [cL 1,cL 3] [(1,[aq w,aq w1,.ro false 3 (.int .i64) w2,.ro false 50 (c8) w3,.ro false 114 (fC) w4,.ro false 127 (dP) w5]),(3,[aq c,aq c1])] []
def rE (st:St):Option α:=gA iA F iB [.r,.r,.r,.r,.l,.r,.b,.i] f34 κ n st
def nk:=jq iA F iB [.r,.r,.r,.r,.l,.r,.b] f34 aZ 1
def nm (t54:List bu)(t55 t56 w w1:Int)(w2:List Int)(w3:List bu)(w4:List cG)(w5:List cl)(c c1:Int):= dY 127 [cL 1,cL 3,(54,jO 50 (c8) t54),(55,bE t55),(56,bE t56)] [(1,[aq w,aq w1,.ro false 3 (.int .i64) w2,.ro false 50 (c8) w3,.ro false 114 (fC) w4,.ro false 127 (dP) w5]),(3,[aq c,aq c1])] []
def B8 (t2:Bool):= cJ 127 [(2,OV t2)]
def MT (w w1:Int)(w2:List Int)(w3:List bu)(w4:List cG)(w5:List cl)(c c1:Int):= dY 127 [cL 1,cL 3] [(1,[aq w,aq w1,.ro false 3 (.int .i64) w2,.ro false 50 (c8) w3,.ro false 114 (fC) w4,.ro false 127 (dP) w5]),(3,[aq c,aq c1])] []
def rF (st:St):Option α:=gA iA F iB [.r,.r,.r,.l,.r,.b,.i] f34 κ n st
def nn:=jq iA F iB [.r,.r,.r,.l,.r,.b] f34 aZ 1
theorem GH (t99:List cl)(t100 t101 c c1:Int):rD F κ (n+1) (nh t99 t100 t101 c c1)=br (decide (t101<t100)) (ck (cc t101 (t99.length:Int)) ((bd F0 (aN t99 t101 dP.aF).2.2 0 (aj (c-1))).bind fun ani=>br (!ani.1) (κ .ret (sR false)) ((fE F0 (aN t99 t101 dP.aF).2.1).bind fun aOE=>br (!aOE.1) (κ .ret (sR false)) ((e8 F0 (aN t99 t101 dP.aF).2.1).bind fun aOF=>br (aOF.1 != (aN t99 t101 dP.aF).1) (κ .ret (sR false)) (rD F κ n (nh t99 t100 (aj (t101+1)) c c1)))))) (κ (.exit 4) (MR)):=by kernel_rfl
theorem GI (t73:List cG)(t74 t75 w w1:Int)(w2:List Int)(w3:List bu)(w4:List cG)(w5:List cl)(c c1:Int):rE F κ (n+1) (nj t73 t74 t75 w w1 w2 w3 w4 w5 c c1)=br (decide (t75<t74)) (ck (cc t75 (t73.length:Int)) ((Kk F0 (c,c1) (aN t73 t75 (0,[])).2).bind fun r83=>br (!r83.2.1) (κ .ret (B7 false)) ((bd F0 (aN t73 t75 (0,[])).1 0 (aj (c-1))).bind fun r94=>br (!r94.1) (κ .ret (B7 false)) (rE F κ n (nj t73 t74 (aj (t75+1)) w w1 w2 w3 w4 w5 c c1))))) (κ (.exit 2) (MS w w1 w2 w3 w4 w5 c c1)):=by kernel_rfl
theorem GJ (t54:List bu)(t55 t56 w w1:Int)(w2:List Int)(w3:List bu)(w4:List cG)(w5:List cl)(c c1:Int):rF F κ (n+1) (nm t54 t55 t56 w w1 w2 w3 w4 w5 c c1)=br (decide (t56<t55)) (ck (cc t56 (t54.length:Int)) ((c9 F0 (c,c1) (aN t54 t56 c8.aF)).bind fun r63=>br (!r63.1) (κ .ret (B8 false)) (br ((aN t54 t56 c8.aF).1 != t56) (κ .ret (B8 false)) (rF F κ n (nm t54 t55 (aj (t56+1)) w w1 w2 w3 w4 w5 c c1))))) (κ (.exit 0) (MT w w1 w2 w3 w4 w5 c c1)):=by kernel_rfl
theorem adQ (t2:Bool):ni F .ret (sR t2)=some (t2,()):=by kernel_rfl
theorem abr: ni F (.exit 4) (MR)=some (true,()):=by kernel_rfl
theorem adR (t2:Bool):nk F .ret (B7 t2)=some (t2,()):=by kernel_rfl
theorem abt (w w1:Int)(w2:List Int)(w3:List bu)(w4:List cG)(w5:List cl)(c c1:Int):nk F (.exit 2) (MS w w1 w2 w3 w4 w5 c c1)=rD F (ni F) F.n (nh w5 (w5.length:Int) 0 c c1):=by kernel_rfl
theorem adS (t2:Bool):nn F .ret (B8 t2)=some (t2,()):=by kernel_rfl
theorem abu (w w1:Int)(w2:List Int)(w3:List bu)(w4:List cG)(w5:List cl)(c c1:Int):nn F (.exit 0) (MT w w1 w2 w3 w4 w5 c c1)=rE F (nk F) F.n (nj w4 (w4.length:Int) 0 w w1 w2 w3 w4 w5 c c1):=by kernel_rfl
def dx (w:oV):=bD iA F iB f34 gu aZ 1 (w,())
theorem akV (w:oV):dx F w=(eZ F0 w.1).bind fun oW=>br (!oW.1) (some (false,())) ((wT F0 w.1.1 w.2.1).bind fun gB=>br (!gB.1) (some (false,())) ((EH F0 w.1).bind fun En=>br (decide ((w.2.1.length:Int)>En.1)) (some (false,())) (br ((w.2.2.1.length:Int) != w.1.1) (some (false,())) (br (decide ((w.2.2.2.1.length:Int)>60)) (some (false,())) (br (decide ((w.2.2.2.2.length:Int)>300)) (some (false,())) (rF F (nn F) F.n (nm w.2.2.1 (w.2.2.1.length:Int) 0 w.1.1 w.1.2 w.2.1 w.2.2.1 w.2.2.2.1 w.2.2.2.2 w.1.1 w.1.2))))))):=by kernel_rfl
def jS:Any:=.one ⟨gu,aZ,1,fun x=>dx F0 x.1⟩
theorem pq:bo 34 jS:=ay iA ⟨iz,eE,dm,ch,Oc,V2,Z3,gb,trivial⟩ func34 iB (by kernel_rfl)
def vZ:=[(31,ga),(32,dA),(33,Tr),(34,jS)]
def v7:Nat->Option Hint:=look [(3,{live:=[2,4,6,7],x7:=[(4,2,3,.int .i64),(4,3,50,c8),(4,4,114,fC),(4,5,127,dP),(6,3,50,c8),(6,4,114,fC),(6,5,127,dP)],xl:=[4,6],rl:=[4,5]})]
def qw (i c c1 t4 t41 w w1:Int)(xs:List Int)(aK:List bu)(aV:List cG)(bm:List cl)(bK:List Int)(cA:List bu)(cB:List cG)(cE:List cl):= dY 41 [cL 2,cL 4,cL 6,(7,bE i)] [(2,[aq c,aq c1]),(4,[aq t4,aq t41,.own 1000000 none,.own 1000001 none,.own 1000002 none,.own 1000003 none]),(6,[aq w,aq w1,.own 1000004 none,.own 1000005 none,.own 1000006 none,.own 1000007 none])] [aA 1000000 3 (.int .i64) xs,aA 1000001 50 c8 aK,aA 1000002 114 fC aV,aA 1000003 127 dP bm,aA 1000004 3 (.int .i64) bK,aA 1000005 50 c8 cA,aA 1000006 114 fC cB,aA 1000007 127 dP cE]
def wV (t4 t41 w w1:Int)(xs:List Int)(aK:List bu)(aV:List cG)(bm:List cl)(bK:List Int)(cA:List bu)(cB:List cG)(cE:List cl):= dY 41 [cL 4,cL 6] [(4,[aq t4,aq t41,.own 1000000 none,.own 1000001 none,.own 1000002 none,.own 1000003 none]),(6,[aq w,aq w1,.own 1000004 none,.own 1000005 none,.own 1000006 none,.own 1000007 none])] [aA 1000000 3 (.int .i64) xs,aA 1000001 50 c8 aK,aA 1000002 114 fC aV,aA 1000003 127 dP bm,aA 1000004 3 (.int .i64) bK,aA 1000005 50 c8 cA,aA 1000006 114 fC cB,aA 1000007 127 dP cE]
def v8 (st:St):Option α:=gA vZ F v7 [.r,.r,.l,.r,.b,.i] f8 κ n st
def zT:=jq vZ F v7 [.r,.r,.l,.r,.b] f8 asM 2
theorem EN (i c c1 t4 t41 w w1:Int)(xs:List Int)(aK:List bu)(aV:List cG)(bm:List cl)(bK:List Int)(cA:List bu)(cB:List cG)(cE:List cl):v8 F κ (n+1) (qw i c c1 t4 t41 w w1 xs aK aV bm bK cA cB cE)=(eZ F0 (c,c1)).bind fun oW=>br oW.1 (br (decide (i<c)) ((MN F0 (c,c1) i).bind fun BA=>ck (fe F cA.length [BA.1].length 208) (v8 F κ n (qw (aj (i+1)) c c1 t4 t41 w w1 xs aK aV bm bK (cA++[BA.1]) cB cE))) (κ (.exit 0) (wV t4 t41 w w1 xs aK aV bm bK cA cB cE))) (κ (.exit 0) (wV t4 t41 w w1 xs aK aV bm bK cA cB cE)):=by kernel_rfl
theorem Yw (t4 t41 w w1:Int)(xs:List Int)(aK:List bu)(aV:List cG)(bm:List cl)(bK:List Int)(cA:List bu)(cB:List cG)(cE:List cl):zT F (.exit 0) (wV t4 t41 w w1 xs aK aV bm bK cA cB cE)=(dx F0 ((w,w1),bK,cA,cB,cE)).bind fun Hr=>br (!Hr.1) (some (((0,0),[],[],[],[]),false,())) (some (((w,w1),bK,cA,cB,cE),true,())):=by kernel_rfl
def uB (c:D1)(liars:List Int):=bD vZ F v7 f8 aCs asM 2 (c,liars,())
theorem agE (c:D1)(liars:List Int):uB F c liars=(eM F0 liars).bind fun cR=>v8 F (zT F) F.n (qw 0 c.1 c.2 0 0 c.1 c.2 [] [] [] [] cR.1 [] [] []):=by kernel_rfl
def MU:Any:=.one ⟨aCs,asM,2,fun x=>uB F0 x.1 x.2.1⟩
theorem agF:bo 8 MU:=ay vZ ⟨jR,eE,aow,pq,trivial⟩ func8 v7 (by kernel_rfl)
def Z4:=[(31,ga)]
def iC (q:D9):=bD Z4 F ab f192 gV gV 2 (q,())
theorem aoy (q:D9):iC F q=(eM F0 q.2.2).bind fun r5=>some ((q.1,q.2.1,r5.1),()):=by kernel_rfl
def jb:Any:=.one ⟨gV,gV,2,fun x=>iC F0 x.1⟩
theorem np:bo 192 jb:=ay Z4 ⟨jR,trivial⟩ func192 ab (by kernel_rfl)
def Tt:=[(192,jb)]
def lR (s:Ua):=bD Tt F ab f133 AX AX 2 (s,())
theorem agG (s:Ua):lR F s=(iC F0 s.2.2.1).bind fun r5=>some ((s.1,s.2.1,r5.1,s.2.2.2),()):=by kernel_rfl
def lv:Any:=.one ⟨AX,AX,2,fun x=>lR F0 x.1⟩
theorem sS:bo 133 lv:=ay Tt ⟨np,trivial⟩ func133 ab (by kernel_rfl)
def jx (p:D5):=bD aE F ab f134 kz kz 2 (p,())
theorem akW (p:D5):jx F p=ck (fe F 0 p.length 32) (some ([]++p,())):=by kernel_rfl
def B9:Any:=.one ⟨kz,kz,2,fun x=>jx F0 x.1⟩
theorem Tu:bo 134 B9:=ay aE trivial func134 ab (by kernel_rfl)
def Tv:=[(31,ga)]
def fP (p:D9):=bD Tv F ab f193 gV gV 2 (p,())
theorem agH (p:D9):fP F p=(eM F0 p.2.2).bind fun r5=>some ((p.1,p.2.1,r5.1),()):=by kernel_rfl
def iP:Any:=.one ⟨gV,gV,2,fun x=>fP F0 x.1⟩
theorem nq:bo 193 iP:=ay Tv ⟨jR,trivial⟩ func193 ab (by kernel_rfl)
def sU:=[(193,iP)]
def sV:Nat->Option Hint:=look [(3,{live:=[3,6,7,8],mat:=[(3,74,K9)],xl:=[3],rl:=[2]})]
def oD (t6:List D9)(t7 t8:Int)(xs:List D9):= dY 19 [(3,.v (.c (.own 1000000 none))),(6,jO 74 (K9) t6),(7,bE t7),(8,bE t8)] [] [aA 1000000 74 K9 xs]
def GK (xs:List D9):= dY 19 [(3,.v (.c (.own 1000000 none)))] [] [aA 1000000 74 K9 xs]
def sW (st:St):Option α:=gA sU F sV [.r,.r,.l,.r,.b,.i] f135 κ n st
def wW:=jq sU F sV [.r,.r,.l,.r,.b] f135 Gg 2
theorem A4 (t6:List D9)(t7 t8:Int)(xs:List D9):sW F κ (n+1) (oD t6 t7 t8 xs)=br (decide (t8<t7)) (ck (cc t8 (t6.length:Int)) ((fP F0 (aN t6 t8 K9.aF)).bind fun lK=>ck (fe F xs.length [lK.1].length 48) (sW F κ n (oD t6 t7 (aj (t8+1)) (xs++[lK.1]))))) (κ (.exit 0) (GK xs)):=by kernel_rfl
theorem Wb (xs:List D9):wW F (.exit 0) (GK xs)=some (xs,()):=by kernel_rfl
def fm (list:D13):=bD sU F sV f135 Gg Gg 2 (list,())
theorem adT (list:D13):fm F list=sW F (wW F) F.n (oD list (list.length:Int) 0 []):=by kernel_rfl
def wX:Any:=.one ⟨Gg,Gg,2,fun x=>fm F0 x.1⟩
theorem MV:bo 135 wX:=ay sU ⟨nq,trivial⟩ func135 sV (by kernel_rfl)
def lS (d:D14):=bD aE F ab f41 p8 p8 2 (d,())
theorem agI (d:D14):lS F d=ck (fe F 0 d.1.length 1) (some (([]++d.1,d.2),())):=by kernel_rfl
def lx:Any:=.one ⟨p8,p8,2,fun x=>lS F0 x.1⟩
theorem sX:bo 41 lx:=ay aE trivial func41 ab (by kernel_rfl)
def P1:=[(192,jb)]
def zU (b:D15):=bD P1 F ab f244 aiy aiy 2 (b,())
theorem adU (b:D15):zU F b=(iC F0 b.2).bind fun r7=>some ((b.1,r7.1),()):=by kernel_rfl
def Km:Any:=.one ⟨aiy,aiy,2,fun x=>zU F0 x.1⟩
theorem adV:bo 244 Km:=ay P1 ⟨np,trivial⟩ func244 ab (by kernel_rfl)
end
end Go.Am.Tryz
namespace Go.Am.Tryz
open Go.Am Go.Proofs Go.Proofs.Tryz
noncomputable section
variable {α:Type} (F:rT) (κ:Ex->St->Option α) (n:Nat)
def Wc:=[(192,jb),(193,iP),(244,Km)]
def zV (m:N6):=bD Wc F ab f194 xu xu 2 (m,())
theorem akX (m:N6):zV F m=(zU F0 m.2.2.1).bind fun r5=>(fP F0 m.2.2.2.1).bind fun r9=>(iC F0 m.2.2.2.2.1).bind fun cg=>some ((m.1,m.2.1,r5.1,r9.1,cg.1,m.2.2.2.2.2),()):=by kernel_rfl
def Ca:Any:=.one ⟨xu,xu,2,fun x=>zV F0 x.1⟩
theorem Tw:bo 194 Ca:=ay Wc ⟨np,nq,adV,trivial⟩ func194 ab (by kernel_rfl)
def sY:=[(194,Ca)]
def sZ:Nat->Option Hint:=look [(3,{live:=[3,6,7,8],mat:=[(3,146,qN)],xl:=[3],rl:=[2]})]
def oE (t6:List lJ)(t7 t8:Int)(xs:List lJ):= dY 23 [(3,.v (.c (.own 1000000 none))),(6,jO 146 (qN) t6),(7,bE t7),(8,bE t8)] [] [aA 1000000 146 qN xs]
def GL (xs:List lJ):= dY 23 [(3,.v (.c (.own 1000000 none)))] [] [aA 1000000 146 qN xs]
def s0 (st:St):Option α:=gA sY F sZ [.r,.r,.l,.r,.b,.i] f136 κ n st
def wY:=jq sY F sZ [.r,.r,.l,.r,.b] f136 Zq 2
theorem A5 (t6:List lJ)(t7 t8:Int)(xs:List lJ):s0 F κ (n+1) (oE t6 t7 t8 xs)=br (decide (t8<t7)) (ck (cc t8 (t6.length:Int)) ((zV F0 (aN t6 t8 qN.aF).2).bind fun fv=>ck (fe F xs.length [((aN t6 t8 qN.aF).1,fv.1)].length 224) (s0 F κ n (oE t6 t7 (aj (t8+1)) (xs++[((aN t6 t8 qN.aF).1,fv.1)]))))) (κ (.exit 0) (GL xs)):=by kernel_rfl
theorem Wd (xs:List lJ):wY F (.exit 0) (GL xs)=some (xs,()):=by kernel_rfl
def zW (list:D23):=bD sY F sZ f136 Zq Zq 2 (list,())
theorem adW (list:D23):zW F list=s0 F (wY F) F.n (oE list (list.length:Int) 0 []):=by kernel_rfl
def Kn:Any:=.one ⟨Zq,Zq,2,fun x=>zW F0 x.1⟩
theorem adX:bo 136 Kn:=ay sY ⟨Tw,trivial⟩ func136 sZ (by kernel_rfl)
def We:=[(41,lx),(133,lv),(134,B9),(135,wX),(136,Kn)]
def aC (r:bu):=bD We F ab f79 SD SD 2 (r,())
theorem akY (r:bu):aC F r=(lR F0 r.2.2.2.1).bind fun r5=>(jx F0 r.2.2.2.2.1).bind fun r9=>(fm F0 r.2.2.2.2.2.1).bind fun cg=>(lS F0 r.2.2.2.2.2.2.1).bind fun fv=>(zW F0 r.2.2.2.2.2.2.2).bind fun gU=>some ((r.1,r.2.1,r.2.2.1,r5.1,r9.1,cg.1,fv.1,gU.1),()):=by kernel_rfl
def bY:Any:=.one ⟨SD,SD,2,fun x=>aC F0 x.1⟩
theorem cK:bo 79 bY:=ay We ⟨sX,sS,Tu,MV,adX,trivial⟩ func79 ab (by kernel_rfl)
def Tx:Nat->Option Hint:=look [(900001,{live:=[],mat:=[(1,0,fC)]})]
def uC (x:cG):=bD aE F Tx f80 [(fC,true)] [(fC,true)] 2 (x,())
theorem agJ (x:cG):uC F x=ck (fe F 0 x.2.length 1) (some ((x.1,[]++x.2),())):=by kernel_rfl
def zX:Any:=.one ⟨[(fC,true)],[(fC,true)],2,fun x=>uC F0 x.1⟩
theorem P2:bo 80 zX:=ay aE trivial func80 Tx (by kernel_rfl)
def jT:=[(31,ga),(79,bY),(80,zX)]
def jU:Nat->Option Hint:=look [(3,{live:=[1,2,3,18,19,20],x7:=[(2,2,3,.int .i64),(2,3,50,c8),(2,4,114,fC),(2,5,127,dP),(3,3,50,c8),(3,4,114,fC)],xl:=[1,2,3],rl:=[2]}),(8,{live:=[2,3,33,34,35],xl:=[2,3],rl:=[2]}),(900001,{live:=[],mat:=[(1,0,iL)]})]
def oF (t33:List cG)(t34 t35 t2 t21 out bh:Int)(xs:List Int)(aK:List bu)(aV:List cG)(bm:List cl)(bK:List Int)(cA:List bu)(cB:List cG)(cE:List cl):= dY 48 [cL 2,cL 3,(33,jO 114 (fC) t33),(34,bE t34),(35,bE t35)] [(2,[aq t2,aq t21,.own 1000000 none,.own 1000001 none,.own 1000002 none,.own 1000003 none]),(3,[aq out,aq bh,.own 1000004 none,.own 1000005 none,.own 1000006 none,.own 1000007 none])] [aA 1000000 3 (.int .i64) xs,aA 1000001 50 c8 aK,aA 1000002 114 fC aV,aA 1000003 127 dP bm,aA 1000004 3 (.int .i64) bK,aA 1000005 50 c8 cA,aA 1000006 114 fC cB,aA 1000007 127 dP cE]
def GM (t2 t21 out bh:Int)(xs:List Int)(aK:List bu)(aV:List cG)(bm:List cl)(bK:List Int)(cA:List bu)(cB:List cG)(cE:List cl):= dY 48 [cL 2,cL 3] [(2,[aq t2,aq t21,.own 1000000 none,.own 1000001 none,.own 1000002 none,.own 1000003 none]),(3,[aq out,aq bh,.own 1000004 none,.own 1000005 none,.own 1000006 none,.own 1000007 none])] [aA 1000000 3 (.int .i64) xs,aA 1000001 50 c8 aK,aA 1000002 114 fC aV,aA 1000003 127 dP bm,aA 1000004 3 (.int .i64) bK,aA 1000005 50 c8 cA,aA 1000006 114 fC cB,aA 1000007 127 dP cE]
def s5 (st:St):Option α:=gA jT F jU [.r,.r,.r,.l,.r,.b,.i] f38 κ n st
def wZ:=jq jT F jU [.r,.r,.r,.l,.r,.b] f38 gu 2
def oG (w:oV)(t18:List bu)(t19 t20 t2 t21 out bh:Int)(xs:List Int)(aK:List bu)(aV:List cG)(bm:List cl)(bK:List Int)(cA:List bu)(cB:List cG)(cE:List cl):= dY 48 [(1,.v (.c (.T5 false (iL) w 0))),cL 2,cL 3,(18,jO 50 (c8) t18),(19,bE t19),(20,bE t20)] [(2,[aq t2,aq t21,.own 1000000 none,.own 1000001 none,.own 1000002 none,.own 1000003 none]),(3,[aq out,aq bh,.own 1000004 none,.own 1000005 none,.own 1000006 none,.own 1000007 none])] [aA 1000000 3 (.int .i64) xs,aA 1000001 50 c8 aK,aA 1000002 114 fC aV,aA 1000003 127 dP bm,aA 1000004 3 (.int .i64) bK,aA 1000005 50 c8 cA,aA 1000006 114 fC cB,aA 1000007 127 dP cE]
def GN (w:oV)(t2 t21 out bh:Int)(xs:List Int)(aK:List bu)(aV:List cG)(bm:List cl)(bK:List Int)(cA:List bu)(cB:List cG)(cE:List cl):= dY 48 [(1,.v (.c (.T5 false (iL) w 0))),cL 2,cL 3] [(2,[aq t2,aq t21,.own 1000000 none,.own 1000001 none,.own 1000002 none,.own 1000003 none]),(3,[aq out,aq bh,.own 1000004 none,.own 1000005 none,.own 1000006 none,.own 1000007 none])] [aA 1000000 3 (.int .i64) xs,aA 1000001 50 c8 aK,aA 1000002 114 fC aV,aA 1000003 127 dP bm,aA 1000004 3 (.int .i64) bK,aA 1000005 50 c8 cA,aA 1000006 114 fC cB,aA 1000007 127 dP cE]
def s6 (st:St):Option α:=gA jT F jU [.r,.r,.l,.r,.b,.i] f38 κ n st
def w6:=jq jT F jU [.r,.r,.l,.r,.b] f38 gu 2
theorem A6 (t33:List cG)(t34 t35 t2 t21 out bh:Int)(xs:List Int)(aK:List bu)(aV:List cG)(bm:List cl)(bK:List Int)(cA:List bu)(cB:List cG)(cE:List cl):s5 F κ (n+1) (oF t33 t34 t35 t2 t21 out bh xs aK aV bm bK cA cB cE)=br (decide (t35<t34)) (ck (cc t35 (t33.length:Int)) ((uC F0 (aN t33 t35 (0,[]))).bind fun r42=>ck (fe F cB.length [r42.1].length 32) (s5 F κ n (oF t33 t34 (aj (t35+1)) t2 t21 out bh xs aK aV bm bK cA (cB++[r42.1]) cE)))) (κ (.exit 2) (GM t2 t21 out bh xs aK aV bm bK cA cB cE)):=by kernel_rfl
theorem A7 (w:oV)(t18:List bu)(t19 t20 t2 t21 out bh:Int)(xs:List Int)(aK:List bu)(aV:List cG)(bm:List cl)(bK:List Int)(cA:List bu)(cB:List cG)(cE:List cl):s6 F κ (n+1) (oG w t18 t19 t20 t2 t21 out bh xs aK aV bm bK cA cB cE)=br (decide (t20<t19)) (ck (cc t20 (t18.length:Int)) ((aC F0 (aN t18 t20 c8.aF)).bind fun BA=>ck (fe F cA.length [BA.1].length 208) (s6 F κ n (oG w t18 t19 (aj (t20+1)) t2 t21 out bh xs aK aV bm bK (cA++[BA.1]) cB cE)))) (κ (.exit 0) (GN w t2 t21 out bh xs aK aV bm bK cA cB cE)):=by kernel_rfl
theorem Wg (t2 t21 out bh:Int)(xs:List Int)(aK:List bu)(aV:List cG)(bm:List cl)(bK:List Int)(cA:List bu)(cB:List cG)(cE:List cl):wZ F (.exit 2) (GM t2 t21 out bh xs aK aV bm bK cA cB cE)=some (((out,bh),bK,cA,cB,cE),()):=by kernel_rfl
theorem Wh (w:oV)(t2 t21 out bh:Int)(xs:List Int)(aK:List bu)(aV:List cG)(bm:List cl)(bK:List Int)(cA:List bu)(cB:List cG)(cE:List cl):w6 F (.exit 0) (GN w t2 t21 out bh xs aK aV bm bK cA cB cE)=s5 F (wZ F) F.n (oF w.2.2.2.1 (w.2.2.2.1.length:Int) 0 t2 t21 out bh xs aK aV bm bK cA cB cE):=by kernel_rfl
def aR (w:oV):=bD jT F jU f38 gu gu 2 (w,())
theorem adY (w:oV):aR F w=(eM F0 w.2.1).bind fun cR=>ck (fe F 0 w.2.2.2.2.length 32) (s6 F (w6 F) F.n (oG w w.2.2.1 (w.2.2.1.length:Int) 0 0 0 w.1.1 w.1.2 [] [] [] [] cR.1 [] [] ([]++w.2.2.2.2))):=by kernel_rfl
def gN:Any:=.one ⟨gu,gu,2,fun x=>aR F0 x.1⟩
theorem ly:bo 38 gN:=ay jT ⟨jR,cK,P2,trivial⟩ func38 jU (by kernel_rfl)
def jy:Nat->Option Hint:=look [(2,{live:=[0,1,7,8],rl:=[4]})]
def ib (s:List Int)(v t7 t8:Int):= cJ 19 [(0,jO 3 (.int .i64) s),(1,bE v),(7,bE t7),(8,bE t8)]
def uD (t4:Int):= cJ 19 [(4,bE t4)]
def tM   := cJ 19 []
def jz (st:St):Option α:=gA aE F jy [.r,.l,.r,.b,.i] f150 κ n st
def ic:=jq aE F jy [.r,.l,.r,.b] f150 dv 1
theorem qx (s:List Int)(v t7 t8:Int):jz F κ (n+1) (ib s v t7 t8)=br (decide (t8<t7)) (ck (cc t8 (s.length:Int)) (br (v==(aN s t8 0)) (κ .ret (uD t8)) (jz F κ n (ib s v t7 (aj (t8+1)))))) (κ (.exit 0) (tM)):=by kernel_rfl
theorem Lq (t4:Int):ic F .ret (uD t4)=some (t4,()):=by kernel_rfl
theorem Ko: ic F (.exit 0) (tM)=some (-1,()):=by kernel_rfl
def lz (s:List Int)(v:Int):=bD aE F jy f150 ake dv 1 (s,v,())
theorem P3 (s:List Int)(v:Int):lz F s v=jz F (ic F) F.n (ib s v (s.length:Int) 0):=by kernel_rfl
def uE:Any:=.one ⟨ake,dv,1,fun x=>lz F0 x.1 x.2.1⟩
theorem P4:bo 150 uE:=ay aE trivial func150 jy (by kernel_rfl)
def tN:=[(150,uE)]
def iQ (s:List Int)(v:Int):=bD tN F ab f85 ake aZ 1 (s,v,())
theorem Kp (s:List Int)(v:Int):iQ F s v=(lz F0 s v).bind fun r7=>some (decide (r7.1>=0),()):=by kernel_rfl
def qy:Any:=.one ⟨ake,aZ,1,fun x=>iQ F0 x.1 x.2.1⟩
theorem Kq:bo 85 qy:=ay tN ⟨P4,trivial⟩ func85 ab (by kernel_rfl)
def Z5:=[(85,qy)]
def ea (s:List Int)(i:Int):=bD Z5 F ab f40 ake aZ 1 (s,i,())
theorem aoz (s:List Int)(i:Int):ea F s i=(iQ F0 s i).bind fun r7=>some (r7.1,()):=by kernel_rfl
def dS:Any:=.one ⟨ake,aZ,1,fun x=>ea F0 x.1 x.2.1⟩
theorem fo:bo 40 dS:=ay Z5 ⟨Kq,trivial⟩ func40 ab (by kernel_rfl)
def Dz:=[(40,dS)]
def DA:Nat->Option Hint:=look [(3,{live:=[1,3,7,8],mat:=[(3,3,.int .i64)],xl:=[3],rl:=[2]})]
def kL (t7 t8 w w1:Int)(w2:List Int)(w3:List bu)(w4:List cG)(w5:List cl)(xs:List Int):= dY 22 [cL 1,(3,.v (.c (.own 1000000 none))),(7,bE t7),(8,bE t8)] [(1,[aq w,aq w1,.ro false 3 (.int .i64) w2,.ro false 50 (c8) w3,.ro false 114 (fC) w4,.ro false 127 (dP) w5])] [aA 1000000 3 (.int .i64) xs]
def P5 (xs:List Int):= dY 22 [(3,.v (.c (.own 1000000 none)))] [] [aA 1000000 3 (.int .i64) xs]
def pS (st:St):Option α:=gA Dz F DA [.r,.r,.l,.r,.b,.i] f11 κ n st
def wa:=jq Dz F DA [.r,.r,.l,.r,.b] f11 kB 2
theorem Kr (t7 t8 w w1:Int)(w2:List Int)(w3:List bu)(w4:List cG)(w5:List cl)(xs:List Int):pS F κ (n+1) (kL t7 t8 w w1 w2 w3 w4 w5 xs)=br (decide (t8<t7)) ((ea F0 w2 t8).bind fun lK=>br (!lK.1) (ck (fe F xs.length [t8].length 8) (pS F κ n (kL t7 (aj (t8+1)) w w1 w2 w3 w4 w5 (xs++[t8])))) (pS F κ n (kL t7 (aj (t8+1)) w w1 w2 w3 w4 w5 xs))) (κ (.exit 0) (P5 xs)):=by kernel_rfl
theorem adZ (xs:List Int):wa F (.exit 0) (P5 xs)=some (xs,()):=by kernel_rfl
def nU (w:oV):=bD Dz F DA f11 gu kB 2 (w,())
theorem aoA (w:oV):nU F w=pS F (wa F) F.n (kL (w.2.2.1.length:Int) 0 w.1.1 w.1.2 w.2.1 w.2.2.1 w.2.2.2.1 w.2.2.2.2 []):=by kernel_rfl
def kM:Any:=.one ⟨gu,kB,2,fun x=>nU F0 x.1⟩
theorem rG:bo 11 kM:=ay Dz ⟨fo,trivial⟩ func11 DA (by kernel_rfl)
def Wi:=[(11,kM),(40,dS),(67,bL)]
def H5 (w:oV)(d:D45):=bD Wi F ab f81 aiQ aZ 1 (w,d,())
theorem akZ (w:oV)(d:D45):H5 F w d=br (d.1==3) ((bd F0 d.2.1 0 (aj ((w.2.2.2.1.length:Int)-1))).bind fun fv=>some (fv.1,())) (br (d.1==4) ((bd F0 d.2.1 0 (aj ((w.2.2.2.1.length:Int)-1))).bind fun fv=>some (fv.1,())) (br (d.1==5) ((bd F0 d.2.1 0 (aj ((w.2.2.2.1.length:Int)-1))).bind fun fv=>some (fv.1,())) (br (d.1==10) ((bd F0 d.2.1 0 (aj (w.1.1-1))).bind fun uc=>some (uc.1,())) ((nU F0 w).bind fun Vc=>(ea F0 Vc.1 d.2.1).bind fun r31=>some (r31.1,()))))):=by kernel_rfl
def P6:Any:=.one ⟨aiQ,aZ,1,fun x=>H5 F0 x.1 x.2.1⟩
theorem ak0:bo 81 P6:=ay Wi ⟨rG,fo,ch,trivial⟩ func81 ab (by kernel_rfl)
def aiW:=[(41,lx),(42,pj)]
def XH (d:D14):=bD aiW F ab f195 p8 p8 2 (d,())
theorem au6 (d:D14):XH F d=(lS F0 d).bind fun r5=>(rA F0 d).bind fun r7=>br r7.1 (some ((r5.1.1,(d.1.length:Int)),())) (some (r5.1,())):=by kernel_rfl
def Z6:Any:=.one ⟨p8,p8,2,fun x=>XH F0 x.1⟩
theorem au7:bo 195 Z6:=ay aiW ⟨sX,zM,trivial⟩ func195 ab (by kernel_rfl)
def Wj:=[(47,cO),(79,bY),(195,Z6)]
def H6 (c:D1)(r:bu):=bD Wj F ab f137 AQ aCO 2 (c,r,())
theorem ak1 (c:D1)(r:bu):H6 F c r=(aC F0 r).bind fun r9=>(c9 F0 c r).bind fun cR=>br (!cR.1) (some (r9.1,[],())) ((XH F0 r9.1.2.2.2.2.2.2.1).bind fun Ej=>some ((r9.1.1,r9.1.2.1,r9.1.2.2.1,r9.1.2.2.2.1,r9.1.2.2.2.2.1,r9.1.2.2.2.2.2.1,Ej.1,[]),r9.1.2.2.2.2.2.2.2,())):=by kernel_rfl
def P7:Any:=.one ⟨AQ,aCO,2,fun x=>H6 F0 x.1 x.2.1⟩
theorem ak2:bo 137 P7:=ay Wj ⟨dm,cK,au7,trivial⟩ func137 ab (by kernel_rfl)
def Z7:=[(40,dS)]
def EO (id:Int)(m:N6):=bD Z7 F ab f139 aCP [(K38,false)] 2 (id,m,())
theorem aoB (id:Int)(m:N6):EO F id m=br (m.1==4) (some ([],())) (br (m.1==2) (br (m.2.2.2.1.2.1.toList==al.toList) (some ([],())) ((ea F0 m.2.2.2.1.2.2 id).bind fun QW=>br (!QW.1) (some ([],())) (some ([(m.2.2.2.1.1,m.2.2.2.1.2.1,id)],())))) (br (m.1==1) (br (m.2.2.1.2.2.1.toList==al.toList) (some ([],())) ((ea F0 m.2.2.1.2.2.2 id).bind fun QW=>br (!QW.1) (some ([],())) (some ([(m.2.2.1.2.1,m.2.2.1.2.2.1,id)],())))) (br (m.2.2.2.2.1.2.1.toList==al.toList) (some ([],())) ((ea F0 m.2.2.2.2.1.2.2 id).bind fun QW=>br (!QW.1) (some ([],())) (some ([(m.2.2.2.2.1.1,m.2.2.2.2.1.2.1,id)],())))))):=by kernel_rfl
def FR:Any:=.one ⟨aCP,[(K38,false)],2,fun x=>EO F0 x.1 x.2.1⟩
theorem Wk:bo 139 FR:=ay Z7 ⟨fo,trivial⟩ func139 ab (by kernel_rfl)
def MW:Nat->Option Hint:=look [(2,{live:=[0,3,7,8],rl:=[4]})]
def DB (s:List cl)(t7 t8 v:Int)(v1:ByteArray)(v2:Int):= dY 19 [(0,jO 127 (dP) s),cL 3,(7,bE t7),(8,bE t8)] [(3,[aq v,.str v1,aq v2])] []
def Z8 (t4:Int):= cJ 19 [(4,bE t4)]
def Wl   := cJ 19 []
def MX (st:St):Option α:=gA aE F MW [.r,.l,.r,.b,.i] f196 κ n st
def DC:=jq aE F MW [.r,.l,.r,.b] f196 dv 1
theorem P8 (s:List cl)(t7 t8 v:Int)(v1:ByteArray)(v2:Int):MX F κ (n+1) (DB s t7 t8 v v1 v2)=br (decide (t8<t7)) (ck (cc t8 (s.length:Int)) (br ((v==(aN s t8 dP.aF).1)&&((v1.toList==(aN s t8 dP.aF).2.1.toList)&&((v2==(aN s t8 dP.aF).2.2)&&true))) (κ .ret (Z8 t8)) (MX F κ n (DB s t7 (aj (t8+1)) v v1 v2)))) (κ (.exit 0) (Wl)):=by kernel_rfl
theorem aoC (t4:Int):DC F .ret (Z8 t4)=some (t4,()):=by kernel_rfl
theorem ak3: DC F (.exit 0) (Wl)=some (-1,()):=by kernel_rfl
abbrev aCT:List (Ty×Bool):=[(K38,false),(dP,true)]
def XI (s:D38)(v:cl):=bD aE F MW f196 aCT dv 1 (s,v,())
theorem au8 (s:D38)(v:cl):XI F s v=MX F (DC F) F.n (DB s (s.length:Int) 0 v.1 v.2.1 v.2.2):=by kernel_rfl
def Z9:Any:=.one ⟨aCT,dv,1,fun x=>XI F0 x.1 x.2.1⟩
theorem au9:bo 196 Z9:=ay aE trivial func196 MW (by kernel_rfl)
def qz:=[(196,Z9)]
def dJ (s:D38)(v:cl):=bD qz F ab f140 aCT aZ 1 (s,v,())
theorem FT (s:D38)(v:cl):dJ F s v=(XI F0 s v).bind fun r7=>some (decide (r7.1>=0),()):=by kernel_rfl
def fc:Any:=.one ⟨aCT,aZ,1,fun x=>dJ F0 x.1 x.2.1⟩
theorem jc:bo 140 fc:=ay qz ⟨au9,trivial⟩ func140 ab (by kernel_rfl)
def oH:=[(11,kM),(38,gN),(40,dS),(139,FR),(140,fc)]
def oI:Nat->Option Hint:=look [(5,{live:=[1,6,7,20,21,22],x7:=[(6,2,3,.int .i64),(6,3,50,c8),(6,4,114,fC),(6,5,127,dP)],xl:=[6,7],rl:=[6]}),(8,{live:=[1,6,7,20,21,22,29,30,31],xl:=[1,6,7,20,21,22],rl:=[6]})]
def nr (id:Int)(t20:List lJ)(t21 t22 t30 t31 t6 t61 out bh:Int)(xs:List cl)(aK:List Int)(aV:List bu)(bm:List cG)(bK:List cl)(cA:List Int)(cB:List bu)(cE:List cG)(oX:List cl):= dY 55 [(1,bE id),cL 6,cL 7,(20,jO 146 (qN) t20),(21,bE t21),(22,bE t22),(29,.v (.c (.own 1000000 none))),(30,bE t30),(31,bE t31)] [(6,[aq t6,aq t61,.own 1000001 none,.own 1000002 none,.own 1000003 none,.own 1000004 none]),(7,[aq out,aq bh,.own 1000005 none,.own 1000006 none,.own 1000007 none,.own 1000008 none])] [aA 1000000 127 dP xs,aA 1000001 3 (.int .i64) aK,aA 1000002 50 c8 aV,aA 1000003 114 fC bm,aA 1000004 127 dP bK,aA 1000005 3 (.int .i64) cA,aA 1000006 50 c8 cB,aA 1000007 114 fC cE,aA 1000008 127 dP oX]
def Tz (id:Int)(t20:List lJ)(t21 t22 t6 t61 out bh:Int)(xs:List Int)(aK:List bu)(aV:List cG)(bm:List cl)(bK:List Int)(cA:List bu)(cB:List cG)(cE:List cl):= dY 55 [(1,bE id),cL 6,cL 7,(20,jO 146 (qN) t20),(21,bE t21),(22,bE t22)] [(6,[aq t6,aq t61,.own 1000000 none,.own 1000001 none,.own 1000002 none,.own 1000003 none]),(7,[aq out,aq bh,.own 1000004 none,.own 1000005 none,.own 1000006 none,.own 1000007 none])] [aA 1000000 3 (.int .i64) xs,aA 1000001 50 c8 aK,aA 1000002 114 fC aV,aA 1000003 127 dP bm,aA 1000004 3 (.int .i64) bK,aA 1000005 50 c8 cA,aA 1000006 114 fC cB,aA 1000007 127 dP cE]
def s7 (st:St):Option α:=gA oH F oI [.r,.r,.r,.l,.r,.b,.i,.r,.r,.l,.b,.r,.r,.b,.i] f138 κ n st
def Ks:Ex->St->Option α:=afq Tryz.prog (look oH) F oI [.r,.r,.l,.b,.r,.r,.b] (sub [.r,.r,.r,.l,.r,.b,.i] (j1 f138)) (itk Tryz.prog (look oH) F oI (sub [.r,.r,.r,.l,.r,.b,.i] (j1 f138)) κ n)
def zY (id:Int)(t20:List lJ)(t21 t22 t6 t61 out bh:Int)(xs:List Int)(aK:List bu)(aV:List cG)(bm:List cl)(bK:List Int)(cA:List bu)(cB:List cG)(cE:List cl):= dY 55 [(1,bE id),cL 6,cL 7,(20,jO 146 (qN) t20),(21,bE t21),(22,bE t22)] [(6,[aq t6,aq t61,.own 1000000 none,.own 1000001 none,.own 1000002 none,.own 1000003 none]),(7,[aq out,aq bh,.own 1000004 none,.own 1000005 none,.own 1000006 none,.own 1000007 none])] [aA 1000000 3 (.int .i64) xs,aA 1000001 50 c8 aK,aA 1000002 114 fC aV,aA 1000003 127 dP bm,aA 1000004 3 (.int .i64) bK,aA 1000005 50 c8 cA,aA 1000006 114 fC cB,aA 1000007 127 dP cE]
def TA (t6 t61 out bh:Int)(xs:List Int)(aK:List bu)(aV:List cG)(bm:List cl)(bK:List Int)(cA:List bu)(cB:List cG)(cE:List cl):= dY 55 [cL 6,cL 7] [(6,[aq t6,aq t61,.own 1000000 none,.own 1000001 none,.own 1000002 none,.own 1000003 none]),(7,[aq out,aq bh,.own 1000004 none,.own 1000005 none,.own 1000006 none,.own 1000007 none])] [aA 1000000 3 (.int .i64) xs,aA 1000001 50 c8 aK,aA 1000002 114 fC aV,aA 1000003 127 dP bm,aA 1000004 3 (.int .i64) bK,aA 1000005 50 c8 cA,aA 1000006 114 fC cB,aA 1000007 127 dP cE]
def H7 (st:St):Option α:=gA oH F oI [.r,.r,.r,.l,.r,.b,.i] f138 κ n st
def zZ:=jq oH F oI [.r,.r,.r,.l,.r,.b] f138 gu 2
theorem MY (id:Int)(t20:List lJ)(t21 t22 t30 t31 t6 t61 out bh:Int)(xs:List cl)(aK:List Int)(aV:List bu)(bm:List cG)(bK:List cl)(cA:List Int)(cB:List bu)(cE:List cG)(oX:List cl):s7 F κ (n+1) (nr id t20 t21 t22 t30 t31 t6 t61 out bh xs aK aV bm bK cA cB cE oX)=br (decide (t31<t30)) (ck (cc t31 (xs.length:Int)) ((dJ F0 oX (aN xs t31 dP.aF)).bind fun Um=>br (!Um.1) (br (decide ((oX.length:Int)<300)) (ck (fe F oX.length [(aN xs t31 dP.aF)].length 32) (s7 F κ n (nr id t20 t21 t22 t30 (aj (t31+1)) t6 t61 out bh xs aK aV bm bK cA cB cE (oX++[(aN xs t31 dP.aF)])))) (s7 F κ n (nr id t20 t21 t22 t30 (aj (t31+1)) t6 t61 out bh xs aK aV bm bK cA cB cE oX))) (s7 F κ n (nr id t20 t21 t22 t30 (aj (t31+1)) t6 t61 out bh xs aK aV bm bK cA cB cE oX)))) (κ (.exit 2) (Tz id t20 t21 t22 t6 t61 out bh aK aV bm bK cA cB cE oX)):=by kernel_rfl
theorem MZ (id:Int)(t20:List lJ)(t21 t22 t6 t61 out bh:Int)(xs:List Int)(aK:List bu)(aV:List cG)(bm:List cl)(bK:List Int)(cA:List bu)(cB:List cG)(cE:List cl):H7 F κ (n+1) (zY id t20 t21 t22 t6 t61 out bh xs aK aV bm bK cA cB cE)=br (decide (t22<t21)) (ck (cc t22 (t20.length:Int)) ((EO F0 id (aN t20 t22 qN.aF).2).bind fun Ri=>s7 F (Ks F κ n) F.n (nr id t20 t21 t22 (Ri.1.length:Int) 0 t6 t61 out bh Ri.1 xs aK aV bm bK cA cB cE))) (κ (.exit 0) (TA t6 t61 out bh xs aK aV bm bK cA cB cE)):=by kernel_rfl
theorem agK (id:Int)(t20:List lJ)(t21 t22 t6 t61 out bh:Int)(xs:List Int)(aK:List bu)(aV:List cG)(bm:List cl)(bK:List Int)(cA:List bu)(cB:List cG)(cE:List cl):Ks F κ n (.exit 2) (Tz id t20 t21 t22 t6 t61 out bh xs aK aV bm bK cA cB cE)=H7 F κ n (zY id t20 t21 (aj (t22+1)) t6 t61 out bh xs aK aV bm bK cA cB cE):=by kernel_rfl
theorem agL (t6 t61 out bh:Int)(xs:List Int)(aK:List bu)(aV:List cG)(bm:List cl)(bK:List Int)(cA:List bu)(cB:List cG)(cE:List cl):zZ F (.exit 0) (TA t6 t61 out bh xs aK aV bm bK cA cB cE)=some (((out,bh),bK,cA,cB,cE),()):=by kernel_rfl
def Rx (w:oV)(id:Int)(list:D23):=bD oH F oI f138 aCQ gu 2 (w,id,list,())
theorem ars (w:oV)(id:Int)(list:D23):Rx F w id list=(aR F0 w).bind fun cg=>(nU F0 w).bind fun oW=>(ea F0 oW.1 id).bind fun fv=>br (!fv.1) (some (cg.1,())) (H7 F (zZ F) F.n (zY id list (list.length:Int) 0 0 0 cg.1.1.1 cg.1.1.2 [] [] [] [] cg.1.2.1 cg.1.2.2.1 cg.1.2.2.2.1 cg.1.2.2.2.2)):=by kernel_rfl
def Wm:Any:=.one ⟨aCQ,gu,2,fun x=>Rx F0 x.1 x.2.1 x.2.2.1⟩
theorem art:bo 138 Wm:=ay oH ⟨rG,ly,fo,Wk,jc,trivial⟩ func138 oI (by kernel_rfl)
def Wn:=[(151,ja)]
def oJ (s:ByteArray):=bD Wn F ab f206 en mu 2 (s,())
theorem ak4 (s:ByteArray):oJ F s=(fF F0 (s.size:Int)).bind fun r5=>ck (okB F r5.1.length s.size) (some (r5.1++bytesOf s,())):=by kernel_rfl
def s9:Any:=.one ⟨en,mu,2,fun x=>oJ F0 x.1⟩
theorem FU:bo 206 s9:=ay Wn ⟨nc,trivial⟩ func206 ab (by kernel_rfl)
def z6:=[(151,ja)]
def z7:Nat->Option Hint:=look [(3,{live:=[3,6,7,8],mat:=[(3,5,.int .u8)],xl:=[3],rl:=[2]})]
def ta (t6:List Int)(t7 t8:Int)(xs:List Int):= dY 18 [(3,.v (.c (.own 1000000 none))),(6,jO 3 (.int .i64) t6),(7,bE t7),(8,bE t8)] [] [aA 1000000 5 (.int .u8) xs]
def M0 (xs:List Int):= dY 18 [(3,.v (.c (.own 1000000 none)))] [] [aA 1000000 5 (.int .u8) xs]
def z8 (st:St):Option α:=gA z6 F z7 [.r,.r,.l,.r,.b,.i] f208 κ n st
def Cb:=jq z6 F z7 [.r,.r,.l,.r,.b] f208 mu 2
theorem GO (t6:List Int)(t7 t8:Int)(xs:List Int):z8 F κ (n+1) (ta t6 t7 t8 xs)=br (decide (t8<t7)) (ck (cc t8 (t6.length:Int)) ((fF F0 (aN t6 t8 0)).bind fun lK=>ck (fe F xs.length lK.1.length 1) (z8 F κ n (ta t6 t7 (aj (t8+1)) (xs++lK.1))))) (κ (.exit 0) (M0 xs)):=by kernel_rfl
theorem abv (xs:List Int):Cb F (.exit 0) (M0 xs)=some (xs,()):=by kernel_rfl
def lA (list:List Int):=bD z6 F z7 f208 kB mu 2 (list,())
theorem ak5 (list:List Int):lA F list=z8 F (Cb F) F.n (ta list (list.length:Int) 0 []):=by kernel_rfl
def td:Any:=.one ⟨kB,mu,2,fun x=>lA F0 x.1⟩
theorem FV:bo 208 td:=ay z6 ⟨nc,trivial⟩ func208 z7 (by kernel_rfl)
def Wo:=[(151,ja),(152,jL),(206,s9),(208,td)]
def te (c:D1)(q:D9):=bD Wo F ab f207 F9 mu 2 (c,q,())
theorem ak6 (c:D1)(q:D9):te F c q=(mX F0 c q).bind fun r8=>br (!r8.1) (some ([],())) ((fF F0 q.1).bind fun cR=>(oJ F0 q.2.1).bind fun oW=>ck (fe F cR.1.length oW.1.length 1) ((fF F0 (q.2.2.length:Int)).bind fun gU=>ck (fe F (cR.1++oW.1).length gU.1.length 1) ((lA F0 q.2.2).bind fun uc=>ck (fe F ((cR.1++oW.1)++gU.1).length uc.1.length 1) (some (((cR.1++oW.1)++gU.1)++uc.1,()))))):=by kernel_rfl
def Cc:Any:=.one ⟨F9,mu,2,fun x=>te F0 x.1 x.2.1⟩
theorem TC:bo 207 Cc:=ay Wo ⟨nc,oq,FU,FV,trivial⟩ func207 ab (by kernel_rfl)
def TD:=[(94,na),(151,ja),(206,s9),(207,Cc),(208,td)]
def uF (c:D1)(m:N6):=bD TD F ab f145 aiv mu 2 (c,m,())
theorem agM (c:D1)(m:N6):uF F c m=(gL F0 c m).bind fun r8=>br (!r8.1) (some ([],())) ((fF F0 m.1).bind fun cR=>br (m.1==1) ((oJ F0 m.2.2.1.1).bind fun gU=>ck (fe F cR.1.length gU.1.length 1) ((te F0 c m.2.2.1.2).bind fun Vc=>ck (fe F (cR.1++gU.1).length Vc.1.length 1) (some ((cR.1++gU.1)++Vc.1,())))) (br (m.1==2) ((fF F0 m.2.2.2.1.1).bind fun r36=>ck (fe F cR.1.length r36.1.length 1) ((oJ F0 m.2.2.2.1.2.1).bind fun r42=>ck (fe F (cR.1++r36.1).length r42.1.length 1) ((fF F0 (m.2.2.2.1.2.2.length:Int)).bind fun r49=>ck (fe F ((cR.1++r36.1)++r42.1).length r49.1.length 1) ((lA F0 m.2.2.2.1.2.2).bind fun r55=>ck (fe F (((cR.1++r36.1)++r42.1)++r49.1).length r55.1.length 1) (some ((((cR.1++r36.1)++r42.1)++r49.1)++r55.1,())))))) (br (m.1==3) ((lA F0 [m.2.1,m.2.2.2.2.2.1]).bind fun eV=>ck (fe F cR.1.length eV.1.length 1) ((te F0 c m.2.2.2.2.1).bind fun r71=>ck (fe F (cR.1++eV.1).length r71.1.length 1) (some ((cR.1++eV.1)++r71.1,())))) ((lA F0 [m.2.2.2.2.2.2.1,m.2.2.2.2.2.2.2.1,m.2.2.2.2.2.2.2.2.1,m.2.2.2.2.2.2.2.2.2]).bind fun r87=>ck (fe F cR.1.length r87.1.length 1) (some (cR.1++r87.1,())))))):=by kernel_rfl
def Aa:Any:=.one ⟨aiv,mu,2,fun x=>uF F0 x.1 x.2.1⟩
theorem P9:bo 145 Aa:=ay TD ⟨uz,nc,FU,TC,FV,trivial⟩ func145 ab (by kernel_rfl)
def M1:=[(34,jS),(38,gN),(67,bL),(145,Aa)]
def M3:Nat->Option Hint:=look [(5,{live:=[2,4,5,15,16,17],x7:=[(4,2,3,.int .i64),(4,3,50,c8),(4,4,114,fC),(4,5,127,dP)],xl:=[4,5],rl:=[4]})]
def lT (t15:List lJ)(t16 t17 w w1:Int)(w2:List Int)(w3:List bu)(w4:List cG)(w5:List cl)(t4 t41 out bh:Int)(xs:List Int)(aK:List bu)(aV:List cG)(bm:List cl)(bK:List Int)(cA:List bu)(cB:List cG)(cE:List cl):= dY 55 [cL 2,cL 4,cL 5,(15,jO 146 (qN) t15),(16,bE t16),(17,bE t17)] [(2,[aq w,aq w1,.ro false 3 (.int .i64) w2,.ro false 50 (c8) w3,.ro false 114 (fC) w4,.ro false 127 (dP) w5]),(4,[aq t4,aq t41,.own 1000000 none,.own 1000001 none,.own 1000002 none,.own 1000003 none]),(5,[aq out,aq bh,.own 1000004 none,.own 1000005 none,.own 1000006 none,.own 1000007 none])] [aA 1000000 3 (.int .i64) xs,aA 1000001 50 c8 aK,aA 1000002 114 fC aV,aA 1000003 127 dP bm,aA 1000004 3 (.int .i64) bK,aA 1000005 50 c8 cA,aA 1000006 114 fC cB,aA 1000007 127 dP cE]
def Wp (t4 t41 out bh:Int)(xs:List Int)(aK:List bu)(aV:List cG)(bm:List cl)(bK:List Int)(cA:List bu)(cB:List cG)(cE:List cl):= dY 55 [cL 4,cL 5] [(4,[aq t4,aq t41,.own 1000000 none,.own 1000001 none,.own 1000002 none,.own 1000003 none]),(5,[aq out,aq bh,.own 1000004 none,.own 1000005 none,.own 1000006 none,.own 1000007 none])] [aA 1000000 3 (.int .i64) xs,aA 1000001 50 c8 aK,aA 1000002 114 fC aV,aA 1000003 127 dP bm,aA 1000004 3 (.int .i64) bK,aA 1000005 50 c8 cA,aA 1000006 114 fC cB,aA 1000007 127 dP cE]
def rH (st:St):Option α:=gA M1 F M3 [.r,.r,.r,.l,.r,.b,.i] f141 κ n st
def Of:=jq M1 F M3 [.r,.r,.r,.l,.r,.b] f141 gu 2
theorem Qa (t15:List lJ)(t16 t17 w w1:Int)(w2:List Int)(w3:List bu)(w4:List cG)(w5:List cl)(t4 t41 out bh:Int)(xs:List Int)(aK:List bu)(aV:List cG)(bm:List cl)(bK:List Int)(cA:List bu)(cB:List cG)(cE:List cl):rH F κ (n+1) (lT t15 t16 t17 w w1 w2 w3 w4 w5 t4 t41 out bh xs aK aV bm bK cA cB cE)=br (decide (t17<t16)) (ck (cc t17 (t15.length:Int)) ((uF F0 (w,w1) (aN t15 t17 qN.aF).2).bind fun Yr=>br (decide ((Yr.1.length:Int)>0)) ((bd F0 (aN t15 t17 qN.aF).1 0 (aj (w-1))).bind fun r36=>br r36.1 (br (decide ((cB.length:Int)<60)) (ck (fe F cB.length [((aN t15 t17 qN.aF).1,Yr.1)].length 32) (rH F κ n (lT t15 t16 (aj (t17+1)) w w1 w2 w3 w4 w5 t4 t41 out bh xs aK aV bm bK cA (cB++[((aN t15 t17 qN.aF).1,Yr.1)]) cE))) (rH F κ n (lT t15 t16 (aj (t17+1)) w w1 w2 w3 w4 w5 t4 t41 out bh xs aK aV bm bK cA cB cE))) (rH F κ n (lT t15 t16 (aj (t17+1)) w w1 w2 w3 w4 w5 t4 t41 out bh xs aK aV bm bK cA cB cE))) (rH F κ n (lT t15 t16 (aj (t17+1)) w w1 w2 w3 w4 w5 t4 t41 out bh xs aK aV bm bK cA cB cE)))) (κ (.exit 0) (Wp t4 t41 out bh xs aK aV bm bK cA cB cE)):=by kernel_rfl
theorem ak7 (t4 t41 out bh:Int)(xs:List Int)(aK:List bu)(aV:List cG)(bm:List cl)(bK:List Int)(cA:List bu)(cB:List cG)(cE:List cl):Of F (.exit 0) (Wp t4 t41 out bh xs aK aV bm bK cA cB cE)=some (((out,bh),bK,cA,cB,cE),()):=by kernel_rfl
def Qb (w:oV)(list:D23):=bD M1 F M3 f141 aCN gu 2 (w,list,())
theorem ava (w:oV)(list:D23):Qb F w list=(aR F0 w).bind fun gZ=>(dx F0 w).bind fun cR=>br (!cR.1) (some (gZ.1,())) (rH F (Of F) F.n (lT list (list.length:Int) 0 w.1.1 w.1.2 w.2.1 w.2.2.1 w.2.2.2.1 w.2.2.2.2 0 0 gZ.1.1.1 gZ.1.1.2 [] [] [] [] gZ.1.2.1 gZ.1.2.2.1 gZ.1.2.2.2.1 gZ.1.2.2.2.2)):=by kernel_rfl
def aaa:Any:=.one ⟨aCN,gu,2,fun x=>Qb F0 x.1 x.2.1⟩
theorem avb:bo 141 aaa:=ay M1 ⟨pq,ly,ch,P9,trivial⟩ func141 M3 (by kernel_rfl)
end
end Go.Am.Tryz
