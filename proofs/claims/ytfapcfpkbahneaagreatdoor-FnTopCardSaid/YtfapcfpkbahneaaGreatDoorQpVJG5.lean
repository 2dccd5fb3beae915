/- No condition. -/
import Derived.Test.YtfapcfpkbahneaaGreatDoorQpVJG4
set_option linter.all false
set_option maxRecDepth 100000
namespace Go.Am.Tryz
open Go.Am Go.Proofs Go.Proofs.Tryz
noncomputable section
variable {U:Type} (F:sd) (J:Ex->St->Option U) (n:Nat)
def TQ:=[(91,ma)]
def DM (a b:D9):=bJ TQ F ab f218 xT bd 1 (a,b,())
theorem ag4 (a b:D9):DM F a b=br (a.1==b.1) (br (a.2.1.toList==b.2.1.toList) ((iK F0 a.2.2 b.2.2).bind fun gL=>some (gL.1,())) (some (false,()))) (some (false,())):=by kernel_rfl
def M4:Any:=.one ⟨xT,bd,1,fun x=>DM F0 x.1 x.2.1⟩
theorem ag5:bz 218 M4:=aA TQ ⟨x8,trivial⟩ func218 ab (by kernel_rfl)
def WL:=[(46,kR),(217,KC),(218,M4)]
def Io (a b:Oo):=bJ WL F ab f157 aDR bd 1 (a,b,())
theorem als (a b:Oo):Io F a b=br (a.1==b.1) (br (a.2.1==b.2.1) ((Ak F0 a.2.2.1 b.2.2.1).bind fun gL=>br gL.1 ((DM F0 a.2.2.2.1 b.2.2.2.1).bind fun UG=>br UG.1 ((jV F0 a.2.2.2.2.1 b.2.2.2.2.1).bind fun r36=>br r36.1 (br (a.2.2.2.2.2.1==b.2.2.2.2.2.1) (some ((a.2.2.2.2.2.2.1==b.2.2.2.2.2.2.1)&&((a.2.2.2.2.2.2.2.1==b.2.2.2.2.2.2.2.1)&&((a.2.2.2.2.2.2.2.2.1==b.2.2.2.2.2.2.2.2.1)&&((a.2.2.2.2.2.2.2.2.2==b.2.2.2.2.2.2.2.2.2)&&true))),())) (some (false,()))) (some (false,()))) (some (false,()))) (some (false,()))) (some (false,()))) (some (false,())):=by kernel_rfl
def P9:Any:=.one ⟨aDR,bd,1,fun x=>Io F0 x.1 x.2.1⟩
theorem alu:bz 157 P9:=aA WL ⟨rA,aeb,ag5,trivial⟩ func157 ab (by kernel_rfl)
def fk:Nat->Option Hint:=look [(2,{live:=[0,1,5],rl:=[4]})]
def eH (s:ByteArray)(c i:Int):= cV 19 [(0,UP s),(1,.v (.c (.int .u8 c))),(5,bW i)]
def mj (t4:Int):= cV 19 [(4,bW t4)]
def Al   := cV 19 []
def fm (st:St):Option U:=gQ aF F fk [.r,.l,.r,.b,.i] f309 J n st
def gG:=jG aF F fk [.r,.l,.r,.b] f309 dK 1
theorem kr (s:ByteArray)(c i:Int):fm F J (n+1) (eH s c i)=br (decide (i>=0)) (ck (cr i (s.size:Int)) (br ((kc s i)==c) (J .ret (mj i)) (fm F J n (eH s c (ak (i-1)))))) (J (.exit 0) (Al)):=by kernel_rfl
theorem An (t4:Int):gG F .ret (mj t4)=some (t4,()):=by kernel_rfl
def jK (s:ByteArray)(c:Int):=bJ aF F fk f309 Zr dK 1 (s,c,())
theorem Ci (s:ByteArray)(c:Int):jK F s c=fm F (gG F) F.n (eH s c (ak ((s.size:Int)-1))):=by kernel_rfl
def ml:Any:=.one ⟨Zr,dK,1,fun x=>jK F0 x.1 x.2.1⟩
theorem Cj:bz 309 ml:=aA aF trivial func309 fk (by kernel_rfl)
def ya:=[(309,ml)]
def qa (s:ByteArray)(c:Int):=bJ ya F ab f262 Zr dK 1 (s,c,())
theorem Oy (s:ByteArray)(c:Int):qa F s c=(jK F0 s c).bind fun r7=>some (r7.1,()):=by kernel_rfl
def tZ:Any:=.one ⟨Zr,dK,1,fun x=>qa F0 x.1 x.2.1⟩
theorem Oz:bz 262 tZ:=aA ya ⟨Cj,trivial⟩ func262 ab (by kernel_rfl)
def ajp:=[(19,eX),(262,tZ)]
def s6 (s:ByteArray):=bJ ajp F ab f219 ed ed 1 (s,())
theorem awj (s:ByteArray):s6 F s=(fi F0 s).bind fun r4=>br (!r4.1) (some (al,())) (br (s.toList==al.toList) (some (al,())) ((qa F0 s 47).bind fun cP=>ck (SJ 0 cP.1 (s.size:Int)) (some (s.extract (0:Int).toNat cP.1.toNat,())))):=by kernel_rfl
def DN:Any:=.one ⟨ed,ed,1,fun x=>s6 F0 x.1⟩
theorem RT:bz 219 DN:=aA ajp ⟨gn,Oz,trivial⟩ func219 ab (by kernel_rfl)
def WM:=[(19,eX),(152,jX),(219,DN)]
def oH (c:D1)(b:D15):=bJ WM F ab f159 aDS bd 1 (c,b,())
theorem alv (c:D1)(b:D15):oH F c b=(nr F0 c b.2).bind fun r8=>br r8.1 (br (!(b.1.toList==al.toList)) ((fi F0 b.1).bind fun fD=>br fD.1 ((s6 F0 b.1).bind fun gL=>some (gL.1.toList==b.2.2.1.toList,())) (some (false,()))) (some (false,()))) (some (false,())):=by kernel_rfl
def nu:Any:=.one ⟨aDS,bd,1,fun x=>oH F0 x.1 x.2.1⟩
theorem wx:bz 159 nu:=aA WM ⟨gn,oF,RT,trivial⟩ func159 ab (by kernel_rfl)
def aec:=[(32,dD),(67,bR),(152,jX),(153,jW),(155,pB),(157,P9),(158,WK),(159,nu)]
def gV (c:D1)(m:Oo):=bJ aec F ab f94 ai1 bd 1 (c,m,())
theorem asv (c:D1)(m:Oo):gV F c m=(fh F0 c).bind fun r6=>br (!r6.1) (some (false,())) ((RS F0 m).bind fun dB=>(Io F0 m dB.1).bind fun cP=>br (!cP.1) (some (false,())) (br (m.1==1) ((oH F0 c m.2.2.1).bind fun gL=>some (gL.1,())) (br (m.1==2) ((rD F0 c m.2.2.2.1).bind fun VM=>br VM.1 (some (!(m.2.2.2.1.2.1.toList==al.toList),())) (some (false,()))) (br (m.1==3) ((bg F0 m.2.1 1 60).bind fun Re=>br Re.1 ((nr F0 c m.2.2.2.2.1).bind fun r44=>br r44.1 ((bg F0 m.2.2.2.2.2.1 0 (ak (c.1-1))).bind fun r52=>some (r52.1,())) (some (false,()))) (some (false,()))) (br (m.1==4) ((pW F0 m.2.2.2.2.2.2).bind fun r58=>some (r58.1,())) (some (false,()))))))):=by kernel_rfl
def nv:Any:=.one ⟨ai1,bd,1,fun x=>gV F0 x.1 x.2.1⟩
theorem uR:bz 94 nv:=aA aec ⟨eP,cq,oF,oD,Af,alu,asu,wx,trivial⟩ func94 ab (by kernel_rfl)
def Ip:=[(32,dD),(42,pC),(67,bR),(90,kS),(92,F9),(93,Ch),(94,nv)]
def Iq:Nat->Option Hint:=look [(4,{live:=[2,3,64,65,66],rl:=[4]})]
def Ao (t64:List l5)(t65 t66 c c1 r r1 r2 r3 r4 r5:Int)(r6:ByteArray)(r7:List Int)(r8:ByteArray)(r9:List D4)(ij:List D9)(dB:List Int)(cP:Int)(cp:List l5):= eD 92 [cW 2,cW 3,(64,j9 146 (qT) t64),(65,bW t65),(66,bW t66)] [(2,[aq c,aq c1]),(3,[aq r,aq r1,aq r2,aq r3,aq r4,aq r5,.str r6,.ro false 3 (.int .i64) r7,.str r8,.ro false 76 (K4) r9,.ro false 74 (K9) ij,.ro false 5 (.int .u8) dB,aq cP,.ro false 146 (qT) cp])] []
def Ap (t4:Bool):= cV 92 [(4,SK t4)]
def TR   := cV 92 []
def Ir (st:St):Option U:=gQ Ip F Iq [.r,.r,.l,.r,.b,.i] f47 J n st
def Aq:=jG Ip F Iq [.r,.r,.l,.r,.b] f47 bd 1
theorem M5 (t64:List l5)(t65 t66 c c1 r r1 r2 r3 r4 r5:Int)(r6:ByteArray)(r7:List Int)(r8:ByteArray)(r9:List D4)(ij:List D9)(dB:List Int)(cP:Int)(cp:List l5):Ir F J (n+1) (Ao t64 t65 t66 c c1 r r1 r2 r3 r4 r5 r6 r7 r8 r9 ij dB cP cp)=br (decide (t66<t65)) (ck (cr t66 (t64.length:Int)) ((gV F0 (c,c1) (aU t64 t66 qT.aG).2).bind fun r73=>br (!r73.1) (J .ret (Ap false)) ((bg F0 (aU t64 t66 qT.aG).1 0 (ak (c-1))).bind fun r81=>br (!r81.1) (J .ret (Ap false)) (br ((aU t64 t66 qT.aG).1==r) (J .ret (Ap false)) (Ir F J n (Ao t64 t65 (ak (t66+1)) c c1 r r1 r2 r3 r4 r5 r6 r7 r8 r9 ij dB cP cp)))))) (J (.exit 0) (TR)):=by kernel_rfl
theorem alw (t4:Bool):Aq F .ret (Ap t4)=some (t4,()):=by kernel_rfl
theorem ag6: Aq F (.exit 0) (TR)=some (true,()):=by kernel_rfl
def db (c:D1)(r:bD):=bJ Ip F Iq f47 Bf bd 1 (c,r,())
theorem asw (c:D1)(r:bD):db F c r=(fh F0 c).bind fun r8=>br (!r8.1) (some (false,())) ((bg F0 r.1 0 (ak (c.1-1))).bind fun o9=>br (!o9.1) (some (false,())) ((bg F0 r.2.1 1 60).bind fun gL=>br (!gL.1) (some (false,())) ((bg F0 r.2.2.1 0 60).bind fun VM=>br (!VM.1) (some (false,())) ((lE F0 c r.2.2.2.1).bind fun r35=>br (!r35.1) (some (false,())) ((x9 F0 r.2.2.2.2.1).bind fun r41=>br (!r41.1) (some (false,())) ((lF F0 c r.2.2.2.2.2.1).bind fun r48=>br (!r48.1) (some (false,())) ((rF F0 r.2.2.2.2.2.2.1).bind fun Ya=>br (!Ya.1) (some (false,())) (br (decide ((r.2.2.2.2.2.2.2.length:Int)>30)) (some (false,())) (Ir F (Aq F) F.n (Ao r.2.2.2.2.2.2.2 (r.2.2.2.2.2.2.2.length:Int) 0 c.1 c.2 r.1 r.2.1 r.2.2.1 r.2.2.2.1.1 r.2.2.2.1.2.1 r.2.2.2.1.2.2.1.1 r.2.2.2.1.2.2.1.2.1 r.2.2.2.1.2.2.1.2.2 r.2.2.2.1.2.2.2 r.2.2.2.2.1 r.2.2.2.2.2.1 r.2.2.2.2.2.2.1.1 r.2.2.2.2.2.2.1.2 r.2.2.2.2.2.2.2)))))))))):=by kernel_rfl
def cO:Any:=.one ⟨Bf,bd,1,fun x=>db F0 x.1 x.2.1⟩
theorem dr:bz 47 cO:=aA Ip ⟨eP,Aj,cq,rC,WJ,TP,uR,trivial⟩ func47 Iq (by kernel_rfl)
def aaq:=[(47,cO)]
def M6 (c:D1)(id:Int):=bJ aaq F ab f33 ai2 ik 2 (c,id,())
theorem apg (c:D1)(id:Int):M6 F c id=(db F0 c (id,1,0,(0,0,(0,al,[]),al),[],[],([],0),[])).bind fun dB=>br (!dB.1) (some ((0,0,0,(0,0,(0,al,[]),al),[],[],([],0),[]),false,())) (some ((id,1,0,(0,0,(0,al,[]),al),[],[],([],0),[]),true,())):=by kernel_rfl
def TS:Any:=.one ⟨ai2,ik,2,fun x=>M6 F0 x.1 x.2.1⟩
theorem aph:bz 33 TS:=aA aaq ⟨dr,trivial⟩ func33 ab (by kernel_rfl)
def DO:=[(67,bR)]
def DP:Nat->Option Hint:=look [(4,{live:=[0,3],mat:=[(3,5,.int .u8)],xl:=[0,3],rl:=[2]})]
def pD (n1:Int)(xs:List Int):= eD 23 [(0,bW n1),(3,.v (.c (.own 1000000 none)))] [] [aB 1000000 5 (.int .u8) xs]
def Qa (n1:Int)(xs:List Int):= eD 23 [(0,bW n1),(3,.v (.c (.own 1000000 none)))] [] [aB 1000000 5 (.int .u8) xs]
def uS (st:St):Option U:=gQ DO F DP [.r,.r,.r,.l,.b,.i] f151 J n st
def wy:=jG DO F DP [.r,.r,.r,.l,.b] f151 mG 2
theorem oI (n1:Int)(xs:List Int):uS F J (n+1) (pD n1 xs)=br (decide (n1>=128)) (ck (fp F xs.length [IntKind.wrap .u8 (ak ((Int.tmod n1 128)+128))].length 1) (uS F J n (pD (ak (Int.tdiv n1 128)) (xs++[IntKind.wrap .u8 (ak ((Int.tmod n1 128)+128))])))) (J (.exit 0) (Qa n1 xs)):=by kernel_rfl
theorem qC (n1:Int)(xs:List Int):wy F (.exit 0) (Qa n1 xs)=ck (fp F xs.length [IntKind.wrap .u8 (n1)].length 1) (some (xs++[IntKind.wrap .u8 (n1)],())):=by kernel_rfl
def fM (n1:Int):=bJ DO F DP f151 dK mG 2 (n1,())
theorem WN (n1:Int):fM F n1=(bg F0 n1 0 2147483647).bind fun r5=>br (!r5.1) (some ([],())) (uS F (wy F) F.n (pD n1 [])):=by kernel_rfl
def jn:Any:=.one ⟨dK,mG,2,fun x=>fM F0 x.1⟩
theorem nx:bz 151 jn:=aA DO ⟨cq,trivial⟩ func151 DP (by kernel_rfl)
def DQ:=[(67,bR),(151,jn)]
def DR:Nat->Option Hint:=look [(5,{live:=[0,1,7,8],rl:=[4,5,6]})]
def wz (b:List Int)(iW n1 i:Int):= cV 55 [(0,j9 5 (.int .u8) b),(1,bW iW),(7,bW n1),(8,bW i)]
def Ga (t4 t5:Int)(t6:Bool):= cV 55 [(4,bW t4),(5,bW t5),(6,SK t6)]
def Ck   := cV 55 []
def DS (st:St):Option U:=gQ DQ F DR [.r,.r,.r,.l,.r,.b,.i] f86 J n st
def wA:=jG DQ F DR [.r,.r,.r,.l,.r,.b] f86 atN 1
theorem KD (b:List Int)(iW n1 i:Int):DS F J (n+1) (wz b iW n1 i)=br (decide (i<5)) (br (decide ((ak (iW+i))<(b.length:Int))) (ck (cr (ak (iW+i)) (b.length:Int)) (ck (decide (0<=(ak (7*i)))) (br (decide ((ak (aU b (ak (iW+i)) 0))<128)) ((fM F0 (ak (n1+(ak ((Int.tmod (ak (aU b (ak (iW+i)) 0)) 128)*2 ^ (min (ak (7*i)).toNat 64)))))).bind fun r45=>br ((r45.1.length:Int) != (ak (i+1))) (J .ret (Ga 0 0 false)) (J .ret (Ga (ak (n1+(ak ((Int.tmod (ak (aU b (ak (iW+i)) 0)) 128)*2 ^ (min (ak (7*i)).toNat 64))))) (ak ((ak (iW+i))+1)) true))) (DS F J n (wz b iW (ak (n1+(ak ((Int.tmod (ak (aU b (ak (iW+i)) 0)) 128)*2 ^ (min (ak (7*i)).toNat 64))))) (ak (i+1))))))) (J (.exit 0) (Ck))) (J (.exit 0) (Ck)):=by kernel_rfl
theorem Qb (t4 t5:Int)(t6:Bool):wA F .ret (Ga t4 t5 t6)=some (t4,t5,t6,()):=by kernel_rfl
theorem M7: wA F (.exit 0) (Ck)=some (0,0,false,()):=by kernel_rfl
def yb (b:List Int)(iW:Int):=bJ DQ F DR f86 ai3 atN 1 (b,iW,())
theorem api (b:List Int)(iW:Int):yb F b iW=(bg F0 iW 0 (ak ((b.length:Int)-1))).bind fun l6=>br (!l6.1) (some (0,0,false,())) (DS F (wA F) F.n (wz b iW 0 0)):=by kernel_rfl
def Gb:Any:=.one ⟨ai3,atN,1,fun x=>yb F0 x.1 x.2.1⟩
theorem WO:bz 86 Gb:=aA DQ ⟨cq,nx,trivial⟩ func86 DR (by kernel_rfl)
def M8:=[(86,Gb)]
def bX (r:D32):=EG M8 F ab f87 iX 0 .cur dK iX 1 (r,())
theorem abO (r:D32):bX F r=(yb F0 r.1 r.2.1).bind fun pa=>br r.2.2 (some ((0,()),(r.1,r.2.1,true),())) (br (!pa.2.2.1) (some ((0,()),(r.1,r.2.1,true),())) (some ((pa.1,()),(r.1,pa.2.1,r.2.2),()))):=by kernel_rfl
def jz:Any:=.two ⟨iX,0,.cur,dK,1,iX,fun x=>bX F0 x.1⟩
theorem oJ:bz 87 jz:=VG M8 ⟨WO,trivial⟩ func87 ab (by kernel_rfl)
def WQ:=[(86,Gb)]
def oK (b:List Int)(iW:Int):=bJ WQ F ab f44 ai3 aDT 1 (b,iW,())
theorem alx (b:List Int)(iW:Int):oK F b iW=(yb F0 b iW).bind fun cp=>br (!cp.2.2.1) (some (al,0,false,())) (br (decide (cp.1>(ak ((b.length:Int)-cp.2.1)))) (some (al,0,false,())) (ck (SJ cp.2.1 (ak (cp.2.1+cp.1)) (b.length:Int)) (some (strOf ((b.take (ak (cp.2.1+cp.1)).toNat).drop cp.2.1.toNat),ak (cp.2.1+cp.1),true,())))):=by kernel_rfl
def Cl:Any:=.one ⟨ai3,aDT,1,fun x=>oK F0 x.1 x.2.1⟩
theorem TT:bz 44 Cl:=aA WQ ⟨WO,trivial⟩ func44 ab (by kernel_rfl)
def KE:=[(44,Cl)]
def gW (r:D32):=EG KE F ab f89 iX 0 .cur ed iX 1 (r,())
theorem YY (r:D32):gW F r=(oK F0 r.1 r.2.1).bind fun pa=>br r.2.2 (some ((al,()),(r.1,r.2.1,true),())) (br (!pa.2.2.1) (some ((al,()),(r.1,r.2.1,true),())) (some ((pa.1,()),(r.1,pa.2.1,r.2.2),()))):=by kernel_rfl
def lG:Any:=.two ⟨iX,0,.cur,ed,1,iX,fun x=>gW F0 x.1⟩
theorem uo:bz 89 lG:=VG KE ⟨TT,trivial⟩ func89 ab (by kernel_rfl)
def oL:=[(87,jz)]
def oM:Nat->Option Hint:=look [(4,{live:=[0,3,4,5],mat:=[(3,3,.int .i64)],xl:=[3],rl:=[2]})]
def lH (count i:Int)(aD:List Int)(au:Int)(ar:Bool)(xs:List Int):St:={nt:=26,tm:=[(0,.v (.c (.ptr 4000000 0))),(3,.v (.c (.own 1000000 none))),(4,bW count),(5,bW i)],bx:=[(4000000,[.ro true 5 (.int .u8) aD,aq au,.bool ar])],bl:=[aB 1000000 3 (.int .i64) xs],sp:=.v (.c (.ptr 4000000 0))}
def kB (aD:List Int)(au:Int)(ar:Bool)(xs:List Int):St:={nt:=26,tm:=[(3,.v (.c (.own 1000000 none)))],bx:=[(4000000,[.ro true 5 (.int .u8) aD,aq au,.bool ar])],bl:=[aB 1000000 3 (.int .i64) xs],sp:=.v (.c (.ptr 4000000 0))}
def oN (st:St):Option U:=gQ oL F oM [.r,.r,.r,.l,.r,.b,.i] f122 J n st
def rG:=ayC oL F oM [.r,.r,.r,.l,.r,.b] f122 .cur kI iX 2
theorem yc (count i:Int)(aD:List Int)(au:Int)(ar:Bool)(xs:List Int):oN F J (n+1) (lH count i aD au ar xs)=br (decide (i<count)) (br (!ar) ((bX F0 (aD,au,ar)).bind fun gL=>ck (fp F xs.length [gL.1.1].length 8) (oN F J n (lH count (ak (i+1)) gL.2.1.1 gL.2.1.2.1 gL.2.1.2.2 (xs++[gL.1.1])))) (J (.exit 0) (kB aD au ar xs))) (J (.exit 0) (kB aD au ar xs)):=by kernel_rfl
theorem RU (aD:List Int)(au:Int)(ar:Bool)(xs:List Int):rG F (.exit 0) (kB aD au ar xs)=some ((xs,()),(aD,au,ar),()):=by kernel_rfl
def ny (r:D32):=EG oL F oM f122 iX 0 .cur kI iX 2 (r,())
theorem YZ (r:D32):ny F r=(bX F0 r).bind fun r7=>oN F (rG F) F.n (lH r7.1.1 0 r7.2.1.1 r7.2.1.2.1 r7.2.1.2.2 []):=by kernel_rfl
def rH:Any:=.two ⟨iX,0,.cur,kI,2,iX,fun x=>ny F0 x.1⟩
theorem G7:bz 122 rH:=VG oL ⟨oJ,trivial⟩ func122 oM (by kernel_rfl)
def Qc:=[(87,jz),(89,lG),(122,rH)]
def nz (r:D32):=EG Qc F ab f88 iX 0 .cur ib iX 2 (r,())
theorem aed (r:D32):nz F r=(bX F0 r).bind fun r5=>(gW F0 r5.2.1).bind fun r8=>(ny F0 r8.2.1).bind fun dB=>some (((r5.1.1,r8.1.1,dB.1.1),()),dB.2.1,()):=by kernel_rfl
def xm:Any:=.two ⟨iX,0,.cur,ib,2,iX,fun x=>nz F0 x.1⟩
theorem M9:bz 88 xm:=VG Qc ⟨oJ,uo,G7,trivial⟩ func88 ab (by kernel_rfl)
def aee:=[(87,jz),(88,xm),(89,lG),(94,nv),(122,rH)]
def KF (c:D1)(b:List Int):=bJ aee F ab f70 S2 aDU 2 (c,b,())
theorem asx (c:D1)(b:List Int):KF F c b=(bX F0 (b,0,false)).bind fun cP=>br (cP.1.1==1) ((gW F0 cP.2.1).bind fun dW=>(nz F0 dW.2.1).bind fun sw=>br sw.2.1.2.2 (some ((0,0,(al,0,al,[]),(0,al,[]),(0,al,[]),0,0,0,0,0),false,())) (br (sw.2.1.2.1 != (b.length:Int)) (some ((0,0,(al,0,al,[]),(0,al,[]),(0,al,[]),0,0,0,0,0),false,())) ((gV F0 c (cP.1.1,0,(dW.1.1,sw.1.1),(0,al,[]),(0,al,[]),0,0,0,0,0)).bind fun r79=>br (!r79.1) (some ((0,0,(al,0,al,[]),(0,al,[]),(0,al,[]),0,0,0,0,0),false,())) (some ((cP.1.1,0,(dW.1.1,sw.1.1),(0,al,[]),(0,al,[]),0,0,0,0,0),true,()))))) (br (cP.1.1==2) ((bX F0 cP.2.1).bind fun UG=>(gW F0 UG.2.1).bind fun uD=>(ny F0 uD.2.1).bind fun HM=>br HM.2.1.2.2 (some ((0,0,(al,0,al,[]),(0,al,[]),(0,al,[]),0,0,0,0,0),false,())) (br (HM.2.1.2.1 != (b.length:Int)) (some ((0,0,(al,0,al,[]),(0,al,[]),(0,al,[]),0,0,0,0,0),false,())) ((gV F0 c (cP.1.1,0,(al,0,al,[]),(UG.1.1,uD.1.1,HM.1.1),(0,al,[]),0,0,0,0,0)).bind fun r79=>br (!r79.1) (some ((0,0,(al,0,al,[]),(0,al,[]),(0,al,[]),0,0,0,0,0),false,())) (some ((cP.1.1,0,(al,0,al,[]),(UG.1.1,uD.1.1,HM.1.1),(0,al,[]),0,0,0,0,0),true,()))))) (br (cP.1.1==3) ((bX F0 cP.2.1).bind fun Rg=>(bX F0 Rg.2.1).bind fun r45=>(nz F0 r45.2.1).bind fun r49=>br r49.2.1.2.2 (some ((0,0,(al,0,al,[]),(0,al,[]),(0,al,[]),0,0,0,0,0),false,())) (br (r49.2.1.2.1 != (b.length:Int)) (some ((0,0,(al,0,al,[]),(0,al,[]),(0,al,[]),0,0,0,0,0),false,())) ((gV F0 c (cP.1.1,Rg.1.1,(al,0,al,[]),(0,al,[]),r49.1.1,r45.1.1,0,0,0,0)).bind fun r79=>br (!r79.1) (some ((0,0,(al,0,al,[]),(0,al,[]),(0,al,[]),0,0,0,0,0),false,())) (some ((cP.1.1,Rg.1.1,(al,0,al,[]),(0,al,[]),r49.1.1,r45.1.1,0,0,0,0),true,()))))) (br (cP.1.1==4) ((bX F0 cP.2.1).bind fun Ya=>(bX F0 Ya.2.1).bind fun r56=>(bX F0 r56.2.1).bind fun r58=>(bX F0 r58.2.1).bind fun r60=>br r60.2.1.2.2 (some ((0,0,(al,0,al,[]),(0,al,[]),(0,al,[]),0,0,0,0,0),false,())) (br (r60.2.1.2.1 != (b.length:Int)) (some ((0,0,(al,0,al,[]),(0,al,[]),(0,al,[]),0,0,0,0,0),false,())) ((gV F0 c (cP.1.1,0,(al,0,al,[]),(0,al,[]),(0,al,[]),0,Ya.1.1,r56.1.1,r58.1.1,r60.1.1)).bind fun r79=>br (!r79.1) (some ((0,0,(al,0,al,[]),(0,al,[]),(0,al,[]),0,0,0,0,0),false,())) (some ((cP.1.1,0,(al,0,al,[]),(0,al,[]),(0,al,[]),0,Ya.1.1,r56.1.1,r58.1.1,r60.1.1),true,()))))) (br cP.2.1.2.2 (some ((0,0,(al,0,al,[]),(0,al,[]),(0,al,[]),0,0,0,0,0),false,())) (br (cP.2.1.2.1 != (b.length:Int)) (some ((0,0,(al,0,al,[]),(0,al,[]),(0,al,[]),0,0,0,0,0),false,())) ((gV F0 c (cP.1.1,0,(al,0,al,[]),(0,al,[]),(0,al,[]),0,0,0,0,0)).bind fun r79=>br (!r79.1) (some ((0,0,(al,0,al,[]),(0,al,[]),(0,al,[]),0,0,0,0,0),false,())) (some ((cP.1.1,0,(al,0,al,[]),(0,al,[]),(0,al,[]),0,0,0,0,0),true,())))))))):=by kernel_rfl
def KG:Any:=.one ⟨S2,aDU,2,fun x=>KF F0 x.1 x.2.1⟩
theorem aar:bz 70 KG:=aA aee ⟨oJ,M9,uo,uR,G7,trivial⟩ func70 ab (by kernel_rfl)
def iL:=[(19,eX),(32,dD),(47,cO),(67,bR),(68,Ae),(69,F6),(70,KG),(71,eY)]
def iM:Nat->Option Hint:=look [(5,{live:=[1,3,54,55,56],xl:=[1,3],rl:=[2]}),(11,{live:=[1,3,73,74,75],xl:=[1,3],rl:=[2]}),(18,{live:=[3,99,100,101],rl:=[2]})]
def nA (t99:List cH)(t100 t101 c c1:Int):= eD 127 [cW 3,(99,j9 127 (eu) t99),(100,bW t100),(101,bW t101)] [(3,[aq c,aq c1])] []
def s7 (t2:Bool):= cV 127 [(2,SK t2)]
def Na   := cV 127 []
def rI (st:St):Option U:=gQ iL F iM [.r,.r,.r,.r,.r,.l,.r,.b,.i] f34 J n st
def nB:=jG iL F iM [.r,.r,.r,.r,.r,.l,.r,.b] f34 bd 1
def nC (t73:List cU)(t74 t75 w w1:Int)(w2:List Int)(w3:List bD)(w4:List cU)(w5:List cH)(c c1:Int):= eD 127 [cW 1,cW 3,(73,j9 114 (fW) t73),(74,bW t74),(75,bW t75)] [(1,[aq w,aq w1,.ro false 3 (.int .i64) w2,.ro false 50 (di) w3,.ro false 114 (fW) w4,.ro false 127 (eu) w5]),(3,[aq c,aq c1])] []
def Cm (t2:Bool):= cV 127 [(2,SK t2)]
def Nb (w w1:Int)(w2:List Int)(w3:List bD)(w4:List cU)(w5:List cH)(c c1:Int):= eD 127 [cW 1,cW 3] [(1,[aq w,aq w1,.ro false 3 (.int .i64) w2,.ro false 50 (di) w3,.ro false 114 (fW) w4,.ro false 127 (eu) w5]),(3,[aq c,aq c1])] []
def rJ (st:St):Option U:=gQ iL F iM [.r,.r,.r,.r,.l,.r,.b,.i] f34 J n st
def nD:=jG iL F iM [.r,.r,.r,.r,.l,.r,.b] f34 bd 1
def nE (t54:List bD)(t55 t56 w w1:Int)(w2:List Int)(w3:List bD)(w4:List cU)(w5:List cH)(c c1:Int):= eD 127 [cW 1,cW 3,(54,j9 50 (di) t54),(55,bW t55),(56,bW t56)] [(1,[aq w,aq w1,.ro false 3 (.int .i64) w2,.ro false 50 (di) w3,.ro false 114 (fW) w4,.ro false 127 (eu) w5]),(3,[aq c,aq c1])] []
def Cn (t2:Bool):= cV 127 [(2,SK t2)]
def Nc (w w1:Int)(w2:List Int)(w3:List bD)(w4:List cU)(w5:List cH)(c c1:Int):= eD 127 [cW 1,cW 3] [(1,[aq w,aq w1,.ro false 3 (.int .i64) w2,.ro false 50 (di) w3,.ro false 114 (fW) w4,.ro false 127 (eu) w5]),(3,[aq c,aq c1])] []
def rK (st:St):Option U:=gQ iL F iM [.r,.r,.r,.l,.r,.b,.i] f34 J n st
def nF:=jG iL F iM [.r,.r,.r,.l,.r,.b] f34 bd 1
theorem G8 (t99:List cH)(t100 t101 c c1:Int):rI F J (n+1) (nA t99 t100 t101 c c1)=br (decide (t101<t100)) (ck (cr t101 (t99.length:Int)) ((bg F0 (aU t99 t101 eu.aG).2.2 0 (ak (c-1))).bind fun an4=>br (!an4.1) (J .ret (s7 false)) ((fi F0 (aU t99 t101 eu.aG).2.1).bind fun aQL=>br (!aQL.1) (J .ret (s7 false)) ((fj F0 (aU t99 t101 eu.aG).2.1).bind fun aQM=>br (aQM.1 != (aU t99 t101 eu.aG).1) (J .ret (s7 false)) (rI F J n (nA t99 t100 (ak (t101+1)) c c1)))))) (J (.exit 4) (Na)):=by kernel_rfl
theorem G9 (t73:List cU)(t74 t75 w w1:Int)(w2:List Int)(w3:List bD)(w4:List cU)(w5:List cH)(c c1:Int):rJ F J (n+1) (nC t73 t74 t75 w w1 w2 w3 w4 w5 c c1)=br (decide (t75<t74)) (ck (cr t75 (t73.length:Int)) ((KF F0 (c,c1) (aU t73 t75 (0,[])).2).bind fun r83=>br (!r83.2.1) (J .ret (Cm false)) ((bg F0 (aU t73 t75 (0,[])).1 0 (ak (c-1))).bind fun r94=>br (!r94.1) (J .ret (Cm false)) (rJ F J n (nC t73 t74 (ak (t75+1)) w w1 w2 w3 w4 w5 c c1))))) (J (.exit 2) (Nb w w1 w2 w3 w4 w5 c c1)):=by kernel_rfl
theorem Ha (t54:List bD)(t55 t56 w w1:Int)(w2:List Int)(w3:List bD)(w4:List cU)(w5:List cH)(c c1:Int):rK F J (n+1) (nE t54 t55 t56 w w1 w2 w3 w4 w5 c c1)=br (decide (t56<t55)) (ck (cr t56 (t54.length:Int)) ((db F0 (c,c1) (aU t54 t56 di.aG)).bind fun r63=>br (!r63.1) (J .ret (Cn false)) (br ((aU t54 t56 di.aG).1 != t56) (J .ret (Cn false)) (rK F J n (nE t54 t55 (ak (t56+1)) w w1 w2 w3 w4 w5 c c1))))) (J (.exit 0) (Nc w w1 w2 w3 w4 w5 c c1)):=by kernel_rfl
theorem aef (t2:Bool):nB F .ret (s7 t2)=some (t2,()):=by kernel_rfl
theorem abP: nB F (.exit 4) (Na)=some (true,()):=by kernel_rfl
theorem aeg (t2:Bool):nD F .ret (Cm t2)=some (t2,()):=by kernel_rfl
theorem abQ (w w1:Int)(w2:List Int)(w3:List bD)(w4:List cU)(w5:List cH)(c c1:Int):nD F (.exit 2) (Nb w w1 w2 w3 w4 w5 c c1)=rI F (nB F) F.n (nA w5 (w5.length:Int) 0 c c1):=by kernel_rfl
theorem aeh (t2:Bool):nF F .ret (Cn t2)=some (t2,()):=by kernel_rfl
theorem abR (w w1:Int)(w2:List Int)(w3:List bD)(w4:List cU)(w5:List cH)(c c1:Int):nF F (.exit 0) (Nc w w1 w2 w3 w4 w5 c c1)=rJ F (nD F) F.n (nC w4 (w4.length:Int) 0 w w1 w2 w3 w4 w5 c c1):=by kernel_rfl
def dA (w:o8):=bJ iL F iM f34 gE bd 1 (w,())
theorem aly (w:o8):dA F w=(fh F0 w.1).bind fun pa=>br (!pa.1) (some (false,())) ((xk F0 w.1.1 w.2.1).bind fun gL=>br (!gL.1) (some (false,())) ((E2 F0 w.1).bind fun FP=>br (decide ((w.2.1.length:Int)>FP.1)) (some (false,())) (br ((w.2.2.1.length:Int) != w.1.1) (some (false,())) (br (decide ((w.2.2.2.1.length:Int)>60)) (some (false,())) (br (decide ((w.2.2.2.2.length:Int)>300)) (some (false,())) (rK F (nF F) F.n (nE w.2.2.1 (w.2.2.1.length:Int) 0 w.1.1 w.1.2 w.2.1 w.2.2.1 w.2.2.2.1 w.2.2.2.2 w.1.1 w.1.2))))))):=by kernel_rfl
def j5:Any:=.one ⟨gE,bd,1,fun x=>dA F0 x.1⟩
theorem pE:bz 34 j5:=aA iL ⟨gn,eP,dr,cq,Ox,WG,aar,gp,trivial⟩ func34 iM (by kernel_rfl)
def wB:=[(31,gm),(32,dD),(33,TS),(34,j5)]
def wC:Nat->Option Hint:=look [(3,{live:=[2,4,6,7],yz:=[(4,2,3,.int .i64),(4,3,50,di),(4,4,114,fW),(4,5,127,eu),(6,3,50,di),(6,4,114,fW),(6,5,127,eu)],xl:=[4,6],rl:=[4,5]})]
def qD (i c c1 t4 t41 w w1:Int)(xs:List Int)(aQ:List bD)(ba:List cU)(bp:List cH)(bQ:List Int)(cD:List bD)(cE:List cU)(cI:List cH):= eD 41 [cW 2,cW 4,cW 6,(7,bW i)] [(2,[aq c,aq c1]),(4,[aq t4,aq t41,.own 1000000 none,.own 1000001 none,.own 1000002 none,.own 1000003 none]),(6,[aq w,aq w1,.own 1000004 none,.own 1000005 none,.own 1000006 none,.own 1000007 none])] [aB 1000000 3 (.int .i64) xs,aB 1000001 50 di aQ,aB 1000002 114 fW ba,aB 1000003 127 eu bp,aB 1000004 3 (.int .i64) bQ,aB 1000005 50 di cD,aB 1000006 114 fW cE,aB 1000007 127 eu cI]
def xn (t4 t41 w w1:Int)(xs:List Int)(aQ:List bD)(ba:List cU)(bp:List cH)(bQ:List Int)(cD:List bD)(cE:List cU)(cI:List cH):= eD 41 [cW 4,cW 6] [(4,[aq t4,aq t41,.own 1000000 none,.own 1000001 none,.own 1000002 none,.own 1000003 none]),(6,[aq w,aq w1,.own 1000004 none,.own 1000005 none,.own 1000006 none,.own 1000007 none])] [aB 1000000 3 (.int .i64) xs,aB 1000001 50 di aQ,aB 1000002 114 fW ba,aB 1000003 127 eu bp,aB 1000004 3 (.int .i64) bQ,aB 1000005 50 di cD,aB 1000006 114 fW cE,aB 1000007 127 eu cI]
def wD (st:St):Option U:=gQ wB F wC [.r,.r,.l,.r,.b,.i] f8 J n st
def Ar:=jG wB F wC [.r,.r,.l,.r,.b] f8 atP 2
theorem E8 (i c c1 t4 t41 w w1:Int)(xs:List Int)(aQ:List bD)(ba:List cU)(bp:List cH)(bQ:List Int)(cD:List bD)(cE:List cU)(cI:List cH):wD F J (n+1) (qD i c c1 t4 t41 w w1 xs aQ ba bp bQ cD cE cI)=(fh F0 (c,c1)).bind fun pa=>br pa.1 (br (decide (i<c)) ((M6 F0 (c,c1) i).bind fun Bg=>ck (fp F cD.length [Bg.1].length 208) (wD F J n (qD (ak (i+1)) c c1 t4 t41 w w1 xs aQ ba bp bQ (cD++[Bg.1]) cE cI))) (J (.exit 0) (xn t4 t41 w w1 xs aQ ba bp bQ cD cE cI))) (J (.exit 0) (xn t4 t41 w w1 xs aQ ba bp bQ cD cE cI)):=by kernel_rfl
theorem Y0 (t4 t41 w w1:Int)(xs:List Int)(aQ:List bD)(ba:List cU)(bp:List cH)(bQ:List Int)(cD:List bD)(cE:List cU)(cI:List cH):Ar F (.exit 0) (xn t4 t41 w w1 xs aQ ba bp bQ cD cE cI)=(dA F0 ((w,w1),bQ,cD,cE,cI)).bind fun HM=>br (!HM.1) (some (((0,0),[],[],[],[]),false,())) (some (((w,w1),bQ,cD,cE,cI),true,())):=by kernel_rfl
def uT (c:D1)(liars:List Int):=bJ wB F wC f8 aDV atP 2 (c,liars,())
theorem ag7 (c:D1)(liars:List Int):uT F c liars=(eW F0 liars).bind fun cP=>wD F (Ar F) F.n (qD 0 c.1 c.2 0 0 c.1 c.2 [] [] [] [] cP.1 [] [] []):=by kernel_rfl
def Nd:Any:=.one ⟨aDV,atP,2,fun x=>uT F0 x.1 x.2.1⟩
theorem ag8:bz 8 Nd:=aA wB ⟨j4,eP,aph,pE,trivial⟩ func8 wC (by kernel_rfl)
def aas:=[(31,gm)]
def iN (q:D9):=bJ aas F ab f192 ib ib 2 (q,())
theorem apj (q:D9):iN F q=(eW F0 q.2.2).bind fun r5=>some ((q.1,q.2.1,r5.1),()):=by kernel_rfl
def jo:Any:=.one ⟨ib,ib,2,fun x=>iN F0 x.1⟩
theorem nG:bz 192 jo:=aA aas ⟨j4,trivial⟩ func192 ab (by kernel_rfl)
def TU:=[(192,jo)]
def mb (s:UF):=bJ TU F ab f133 Bn Bn 2 (s,())
theorem ag9 (s:UF):mb F s=(iN F0 s.2.2.1).bind fun r5=>some ((s.1,s.2.1,r5.1,s.2.2.2),()):=by kernel_rfl
def lI:Any:=.one ⟨Bn,Bn,2,fun x=>mb F0 x.1⟩
theorem s9:bz 133 lI:=aA TU ⟨nG,trivial⟩ func133 ab (by kernel_rfl)
def jL (p:D5):=bJ aF F ab f134 kF kF 2 (p,())
theorem alz (p:D5):jL F p=ck (fp F 0 p.length 32) (some ([]++p,())):=by kernel_rfl
def Co:Any:=.one ⟨kF,kF,2,fun x=>jL F0 x.1⟩
theorem TV:bz 134 Co:=aA aF trivial func134 ab (by kernel_rfl)
def TW:=[(31,gm)]
def fY (p:D9):=bJ TW F ab f193 ib ib 2 (p,())
theorem aha (p:D9):fY F p=(eW F0 p.2.2).bind fun r5=>some ((p.1,p.2.1,r5.1),()):=by kernel_rfl
def iZ:Any:=.one ⟨ib,ib,2,fun x=>fY F0 x.1⟩
theorem nH:bz 193 iZ:=aA TW ⟨j4,trivial⟩ func193 ab (by kernel_rfl)
def td:=[(193,iZ)]
def te:Nat->Option Hint:=look [(3,{live:=[3,6,7,8],mat:=[(3,74,K9)],xl:=[3],rl:=[2]})]
def oO (t6:List D9)(t7 t8:Int)(xs:List D9):= eD 19 [(3,.v (.c (.own 1000000 none))),(6,j9 74 (K9) t6),(7,bW t7),(8,bW t8)] [] [aB 1000000 74 K9 xs]
def Hb (xs:List D9):= eD 19 [(3,.v (.c (.own 1000000 none)))] [] [aB 1000000 74 K9 xs]
def tf (st:St):Option U:=gQ td F te [.r,.r,.l,.r,.b,.i] f135 J n st
def xo:=jG td F te [.r,.r,.l,.r,.b] f135 GD 2
theorem Bt (t6:List D9)(t7 t8:Int)(xs:List D9):tf F J (n+1) (oO t6 t7 t8 xs)=br (decide (t8<t7)) (ck (cr t8 (t6.length:Int)) ((fY F0 (aU t6 t8 K9.aG)).bind fun l6=>ck (fp F xs.length [l6.1].length 48) (tf F J n (oO t6 t7 (ak (t8+1)) (xs++[l6.1]))))) (J (.exit 0) (Hb xs)):=by kernel_rfl
theorem WR (xs:List D9):xo F (.exit 0) (Hb xs)=some (xs,()):=by kernel_rfl
def fz (list:D13):=bJ td F te f135 GD GD 2 (list,())
theorem aei (list:D13):fz F list=tf F (xo F) F.n (oO list (list.length:Int) 0 []):=by kernel_rfl
def xp:Any:=.one ⟨GD,GD,2,fun x=>fz F0 x.1⟩
theorem Nf:bz 135 xp:=aA td ⟨nH,trivial⟩ func135 te (by kernel_rfl)
def mc (d:D14):=bJ aF F ab f41 qf qf 2 (d,())
theorem ahb (d:D14):mc F d=ck (fp F 0 d.1.length 1) (some (([]++d.1,d.2),())):=by kernel_rfl
def lJ:Any:=.one ⟨qf,qf,2,fun x=>mc F0 x.1⟩
theorem tg:bz 41 lJ:=aA aF trivial func41 ab (by kernel_rfl)
def Qd:=[(192,jo)]
def As (b:D15):=bJ Qd F ab f244 ai4 ai4 2 (b,())
theorem aej (b:D15):As F b=(iN F0 b.2).bind fun r7=>some ((b.1,r7.1),()):=by kernel_rfl
def KH:Any:=.one ⟨ai4,ai4,2,fun x=>As F0 x.1⟩
theorem aek:bz 244 KH:=aA Qd ⟨nG,trivial⟩ func244 ab (by kernel_rfl)
end
end Go.Am.Tryz
namespace Go.Am.Tryz
open Go.Am Go.Proofs Go.Proofs.Tryz
noncomputable section
variable {U:Type} (F:sd) (J:Ex->St->Option U) (n:Nat)
def WS:=[(192,jo),(193,iZ),(244,KH)]
def Au (m:Oo):=bJ WS F ab f194 xV xV 2 (m,())
theorem alA (m:Oo):Au F m=(As F0 m.2.2.1).bind fun r5=>(fY F0 m.2.2.2.1).bind fun r9=>(iN F0 m.2.2.2.2.1).bind fun cp=>some ((m.1,m.2.1,r5.1,r9.1,cp.1,m.2.2.2.2.2),()):=by kernel_rfl
def Cp:Any:=.one ⟨xV,xV,2,fun x=>Au F0 x.1⟩
theorem TX:bz 194 Cp:=aA WS ⟨nG,nH,aek,trivial⟩ func194 ab (by kernel_rfl)
def th:=[(194,Cp)]
def ti:Nat->Option Hint:=look [(3,{live:=[3,6,7,8],mat:=[(3,146,qT)],xl:=[3],rl:=[2]})]
def oP (t6:List l5)(t7 t8:Int)(xs:List l5):= eD 23 [(3,.v (.c (.own 1000000 none))),(6,j9 146 (qT) t6),(7,bW t7),(8,bW t8)] [] [aB 1000000 146 qT xs]
def Hc (xs:List l5):= eD 23 [(3,.v (.c (.own 1000000 none)))] [] [aB 1000000 146 qT xs]
def tj (st:St):Option U:=gQ th F ti [.r,.r,.l,.r,.b,.i] f136 J n st
def xq:=jG th F ti [.r,.r,.l,.r,.b] f136 ZO 2
theorem Bu (t6:List l5)(t7 t8:Int)(xs:List l5):tj F J (n+1) (oP t6 t7 t8 xs)=br (decide (t8<t7)) (ck (cr t8 (t6.length:Int)) ((Au F0 (aU t6 t8 qT.aG).2).bind fun fD=>ck (fp F xs.length [((aU t6 t8 qT.aG).1,fD.1)].length 224) (tj F J n (oP t6 t7 (ak (t8+1)) (xs++[((aU t6 t8 qT.aG).1,fD.1)]))))) (J (.exit 0) (Hc xs)):=by kernel_rfl
theorem WT (xs:List l5):xq F (.exit 0) (Hc xs)=some (xs,()):=by kernel_rfl
def Av (list:D23):=bJ th F ti f136 ZO ZO 2 (list,())
theorem ael (list:D23):Av F list=tj F (xq F) F.n (oP list (list.length:Int) 0 []):=by kernel_rfl
def KI:Any:=.one ⟨ZO,ZO,2,fun x=>Av F0 x.1⟩
theorem aem:bz 136 KI:=aA th ⟨TX,trivial⟩ func136 ti (by kernel_rfl)
def WU:=[(41,lJ),(133,lI),(134,Co),(135,xp),(136,KI)]
def aE (r:bD):=bJ WU F ab f79 S5 S5 2 (r,())
theorem alB (r:bD):aE F r=(mb F0 r.2.2.2.1).bind fun r5=>(jL F0 r.2.2.2.2.1).bind fun r9=>(fz F0 r.2.2.2.2.2.1).bind fun cp=>(mc F0 r.2.2.2.2.2.2.1).bind fun fD=>(Av F0 r.2.2.2.2.2.2.2).bind fun ia=>some ((r.1,r.2.1,r.2.2.1,r5.1,r9.1,cp.1,fD.1,ia.1),()):=by kernel_rfl
def ch:Any:=.one ⟨S5,S5,2,fun x=>aE F0 x.1⟩
theorem cL:bz 79 ch:=aA WU ⟨tg,s9,TV,Nf,aem,trivial⟩ func79 ab (by kernel_rfl)
def TY:Nat->Option Hint:=look [(900001,{live:=[],mat:=[(1,0,fW)]})]
def uU (x:cU):=bJ aF F TY f80 [(fW,true)] [(fW,true)] 2 (x,())
theorem ahc (x:cU):uU F x=ck (fp F 0 x.2.length 1) (some ((x.1,[]++x.2),())):=by kernel_rfl
def Aw:Any:=.one ⟨[(fW,true)],[(fW,true)],2,fun x=>uU F0 x.1⟩
theorem Qe:bz 80 Aw:=aA aF trivial func80 TY (by kernel_rfl)
def j6:=[(31,gm),(79,ch),(80,Aw)]
def j7:Nat->Option Hint:=look [(3,{live:=[1,2,3,18,19,20],yz:=[(2,2,3,.int .i64),(2,3,50,di),(2,4,114,fW),(2,5,127,eu),(3,3,50,di),(3,4,114,fW)],xl:=[1,2,3],rl:=[2]}),(8,{live:=[2,3,33,34,35],xl:=[2,3],rl:=[2]}),(900001,{live:=[],mat:=[(1,0,iV)]})]
def oQ (t33:List cU)(t34 t35 t2 t21 out bh:Int)(xs:List Int)(aQ:List bD)(ba:List cU)(bp:List cH)(bQ:List Int)(cD:List bD)(cE:List cU)(cI:List cH):= eD 48 [cW 2,cW 3,(33,j9 114 (fW) t33),(34,bW t34),(35,bW t35)] [(2,[aq t2,aq t21,.own 1000000 none,.own 1000001 none,.own 1000002 none,.own 1000003 none]),(3,[aq out,aq bh,.own 1000004 none,.own 1000005 none,.own 1000006 none,.own 1000007 none])] [aB 1000000 3 (.int .i64) xs,aB 1000001 50 di aQ,aB 1000002 114 fW ba,aB 1000003 127 eu bp,aB 1000004 3 (.int .i64) bQ,aB 1000005 50 di cD,aB 1000006 114 fW cE,aB 1000007 127 eu cI]
def Hd (t2 t21 out bh:Int)(xs:List Int)(aQ:List bD)(ba:List cU)(bp:List cH)(bQ:List Int)(cD:List bD)(cE:List cU)(cI:List cH):= eD 48 [cW 2,cW 3] [(2,[aq t2,aq t21,.own 1000000 none,.own 1000001 none,.own 1000002 none,.own 1000003 none]),(3,[aq out,aq bh,.own 1000004 none,.own 1000005 none,.own 1000006 none,.own 1000007 none])] [aB 1000000 3 (.int .i64) xs,aB 1000001 50 di aQ,aB 1000002 114 fW ba,aB 1000003 127 eu bp,aB 1000004 3 (.int .i64) bQ,aB 1000005 50 di cD,aB 1000006 114 fW cE,aB 1000007 127 eu cI]
def tk (st:St):Option U:=gQ j6 F j7 [.r,.r,.r,.l,.r,.b,.i] f38 J n st
def xr:=jG j6 F j7 [.r,.r,.r,.l,.r,.b] f38 gE 2
def oR (w:o8)(t18:List bD)(t19 t20 t2 t21 out bh:Int)(xs:List Int)(aQ:List bD)(ba:List cU)(bp:List cH)(bQ:List Int)(cD:List bD)(cE:List cU)(cI:List cH):= eD 48 [(1,.v (.c (.UA false (iV) w 0))),cW 2,cW 3,(18,j9 50 (di) t18),(19,bW t19),(20,bW t20)] [(2,[aq t2,aq t21,.own 1000000 none,.own 1000001 none,.own 1000002 none,.own 1000003 none]),(3,[aq out,aq bh,.own 1000004 none,.own 1000005 none,.own 1000006 none,.own 1000007 none])] [aB 1000000 3 (.int .i64) xs,aB 1000001 50 di aQ,aB 1000002 114 fW ba,aB 1000003 127 eu bp,aB 1000004 3 (.int .i64) bQ,aB 1000005 50 di cD,aB 1000006 114 fW cE,aB 1000007 127 eu cI]
def He (w:o8)(t2 t21 out bh:Int)(xs:List Int)(aQ:List bD)(ba:List cU)(bp:List cH)(bQ:List Int)(cD:List bD)(cE:List cU)(cI:List cH):= eD 48 [(1,.v (.c (.UA false (iV) w 0))),cW 2,cW 3] [(2,[aq t2,aq t21,.own 1000000 none,.own 1000001 none,.own 1000002 none,.own 1000003 none]),(3,[aq out,aq bh,.own 1000004 none,.own 1000005 none,.own 1000006 none,.own 1000007 none])] [aB 1000000 3 (.int .i64) xs,aB 1000001 50 di aQ,aB 1000002 114 fW ba,aB 1000003 127 eu bp,aB 1000004 3 (.int .i64) bQ,aB 1000005 50 di cD,aB 1000006 114 fW cE,aB 1000007 127 eu cI]
def tl (st:St):Option U:=gQ j6 F j7 [.r,.r,.l,.r,.b,.i] f38 J n st
def xu:=jG j6 F j7 [.r,.r,.l,.r,.b] f38 gE 2
theorem Bv (t33:List cU)(t34 t35 t2 t21 out bh:Int)(xs:List Int)(aQ:List bD)(ba:List cU)(bp:List cH)(bQ:List Int)(cD:List bD)(cE:List cU)(cI:List cH):tk F J (n+1) (oQ t33 t34 t35 t2 t21 out bh xs aQ ba bp bQ cD cE cI)=br (decide (t35<t34)) (ck (cr t35 (t33.length:Int)) ((uU F0 (aU t33 t35 (0,[]))).bind fun r42=>ck (fp F cE.length [r42.1].length 32) (tk F J n (oQ t33 t34 (ak (t35+1)) t2 t21 out bh xs aQ ba bp bQ cD (cE++[r42.1]) cI)))) (J (.exit 2) (Hd t2 t21 out bh xs aQ ba bp bQ cD cE cI)):=by kernel_rfl
theorem Bw (w:o8)(t18:List bD)(t19 t20 t2 t21 out bh:Int)(xs:List Int)(aQ:List bD)(ba:List cU)(bp:List cH)(bQ:List Int)(cD:List bD)(cE:List cU)(cI:List cH):tl F J (n+1) (oR w t18 t19 t20 t2 t21 out bh xs aQ ba bp bQ cD cE cI)=br (decide (t20<t19)) (ck (cr t20 (t18.length:Int)) ((aE F0 (aU t18 t20 di.aG)).bind fun Bg=>ck (fp F cD.length [Bg.1].length 208) (tl F J n (oR w t18 t19 (ak (t20+1)) t2 t21 out bh xs aQ ba bp bQ (cD++[Bg.1]) cE cI)))) (J (.exit 0) (He w t2 t21 out bh xs aQ ba bp bQ cD cE cI)):=by kernel_rfl
theorem WV (t2 t21 out bh:Int)(xs:List Int)(aQ:List bD)(ba:List cU)(bp:List cH)(bQ:List Int)(cD:List bD)(cE:List cU)(cI:List cH):xr F (.exit 2) (Hd t2 t21 out bh xs aQ ba bp bQ cD cE cI)=some (((out,bh),bQ,cD,cE,cI),()):=by kernel_rfl
theorem WW (w:o8)(t2 t21 out bh:Int)(xs:List Int)(aQ:List bD)(ba:List cU)(bp:List cH)(bQ:List Int)(cD:List bD)(cE:List cU)(cI:List cH):xu F (.exit 0) (He w t2 t21 out bh xs aQ ba bp bQ cD cE cI)=tk F (xr F) F.n (oQ w.2.2.2.1 (w.2.2.2.1.length:Int) 0 t2 t21 out bh xs aQ ba bp bQ cD cE cI):=by kernel_rfl
def aS (w:o8):=bJ j6 F j7 f38 gE gE 2 (w,())
theorem aen (w:o8):aS F w=(eW F0 w.2.1).bind fun cP=>ck (fp F 0 w.2.2.2.2.length 32) (tl F (xu F) F.n (oR w w.2.2.1 (w.2.2.1.length:Int) 0 0 0 w.1.1 w.1.2 [] [] [] [] cP.1 [] [] ([]++w.2.2.2.2))):=by kernel_rfl
def gX:Any:=.one ⟨gE,gE,2,fun x=>aS F0 x.1⟩
theorem lK:bz 38 gX:=aA j6 ⟨j4,cL,Qe,trivial⟩ func38 j7 (by kernel_rfl)
def jM:Nat->Option Hint:=look [(2,{live:=[0,1,7,8],rl:=[4]})]
def iv (s:List Int)(v t7 t8:Int):= cV 19 [(0,j9 3 (.int .i64) s),(1,bW v),(7,bW t7),(8,bW t8)]
def uV (t4:Int):= cV 19 [(4,bW t4)]
def ua   := cV 19 []
def jN (st:St):Option U:=gQ aF F jM [.r,.l,.r,.b,.i] f150 J n st
def iw:=jG aF F jM [.r,.l,.r,.b] f150 dK 1
theorem qE (s:List Int)(v t7 t8:Int):jN F J (n+1) (iv s v t7 t8)=br (decide (t8<t7)) (ck (cr t8 (s.length:Int)) (br (v==(aU s t8 0)) (J .ret (uV t8)) (jN F J n (iv s v t7 (ak (t8+1)))))) (J (.exit 0) (ua)):=by kernel_rfl
theorem LL (t4:Int):iw F .ret (uV t4)=some (t4,()):=by kernel_rfl
theorem KJ: iw F (.exit 0) (ua)=some (-1,()):=by kernel_rfl
def lL (s:List Int)(v:Int):=bJ aF F jM f150 akP dK 1 (s,v,())
theorem Qf (s:List Int)(v:Int):lL F s v=jN F (iw F) F.n (iv s v (s.length:Int) 0):=by kernel_rfl
def uW:Any:=.one ⟨akP,dK,1,fun x=>lL F0 x.1 x.2.1⟩
theorem Qg:bz 150 uW:=aA aF trivial func150 jM (by kernel_rfl)
def ub:=[(150,uW)]
def ja (s:List Int)(v:Int):=bJ ub F ab f85 akP bd 1 (s,v,())
theorem KK (s:List Int)(v:Int):ja F s v=(lL F0 s v).bind fun r7=>some (decide (r7.1>=0),()):=by kernel_rfl
def qF:Any:=.one ⟨akP,bd,1,fun x=>ja F0 x.1 x.2.1⟩
theorem KL:bz 85 qF:=aA ub ⟨Qg,trivial⟩ func85 ab (by kernel_rfl)
def aat:=[(85,qF)]
def er (s:List Int)(i:Int):=bJ aat F ab f40 akP bd 1 (s,i,())
theorem apk (s:List Int)(i:Int):er F s i=(ja F0 s i).bind fun r7=>some (r7.1,()):=by kernel_rfl
def ef:Any:=.one ⟨akP,bd,1,fun x=>er F0 x.1 x.2.1⟩
theorem fA:bz 40 ef:=aA aat ⟨KL,trivial⟩ func40 ab (by kernel_rfl)
def DT:=[(40,ef)]
def DU:Nat->Option Hint:=look [(3,{live:=[1,3,7,8],mat:=[(3,3,.int .i64)],xl:=[3],rl:=[2]})]
def kT (t7 t8 w w1:Int)(w2:List Int)(w3:List bD)(w4:List cU)(w5:List cH)(xs:List Int):= eD 22 [cW 1,(3,.v (.c (.own 1000000 none))),(7,bW t7),(8,bW t8)] [(1,[aq w,aq w1,.ro false 3 (.int .i64) w2,.ro false 50 (di) w3,.ro false 114 (fW) w4,.ro false 127 (eu) w5])] [aB 1000000 3 (.int .i64) xs]
def Qh (xs:List Int):= eD 22 [(3,.v (.c (.own 1000000 none)))] [] [aB 1000000 3 (.int .i64) xs]
def pX (st:St):Option U:=gQ DT F DU [.r,.r,.l,.r,.b,.i] f11 J n st
def wE:=jG DT F DU [.r,.r,.l,.r,.b] f11 kI 2
theorem KM (t7 t8 w w1:Int)(w2:List Int)(w3:List bD)(w4:List cU)(w5:List cH)(xs:List Int):pX F J (n+1) (kT t7 t8 w w1 w2 w3 w4 w5 xs)=br (decide (t8<t7)) ((er F0 w2 t8).bind fun l6=>br (!l6.1) (ck (fp F xs.length [t8].length 8) (pX F J n (kT t7 (ak (t8+1)) w w1 w2 w3 w4 w5 (xs++[t8])))) (pX F J n (kT t7 (ak (t8+1)) w w1 w2 w3 w4 w5 xs))) (J (.exit 0) (Qh xs)):=by kernel_rfl
theorem aeo (xs:List Int):wE F (.exit 0) (Qh xs)=some (xs,()):=by kernel_rfl
def n6 (w:o8):=bJ DT F DU f11 gE kI 2 (w,())
theorem apl (w:o8):n6 F w=pX F (wE F) F.n (kT (w.2.2.1.length:Int) 0 w.1.1 w.1.2 w.2.1 w.2.2.1 w.2.2.2.1 w.2.2.2.2 []):=by kernel_rfl
def kU:Any:=.one ⟨gE,kI,2,fun x=>n6 F0 x.1⟩
theorem rL:bz 11 kU:=aA DT ⟨fA,trivial⟩ func11 DU (by kernel_rfl)
def WX:=[(11,kU),(40,ef),(67,bR)]
def Is (w:o8)(d:D45):=bJ WX F ab f81 ajk bd 1 (w,d,())
theorem alC (w:o8)(d:D45):Is F w d=br (d.1==3) ((bg F0 d.2.1 0 (ak ((w.2.2.2.1.length:Int)-1))).bind fun fD=>some (fD.1,())) (br (d.1==4) ((bg F0 d.2.1 0 (ak ((w.2.2.2.1.length:Int)-1))).bind fun fD=>some (fD.1,())) (br (d.1==5) ((bg F0 d.2.1 0 (ak ((w.2.2.2.1.length:Int)-1))).bind fun fD=>some (fD.1,())) (br (d.1==10) ((bg F0 d.2.1 0 (ak (w.1.1-1))).bind fun uC=>some (uC.1,())) ((n6 F0 w).bind fun VM=>(er F0 VM.1 d.2.1).bind fun r31=>some (r31.1,()))))):=by kernel_rfl
def Qi:Any:=.one ⟨ajk,bd,1,fun x=>Is F0 x.1 x.2.1⟩
theorem alD:bz 81 Qi:=aA WX ⟨rL,fA,cq,trivial⟩ func81 ab (by kernel_rfl)
def ajq:=[(41,lJ),(42,pC)]
def Yg (d:D14):=bJ ajq F ab f195 qf qf 2 (d,())
theorem awk (d:D14):Yg F d=(mc F0 d).bind fun r5=>(rF F0 d).bind fun r7=>br r7.1 (some ((r5.1.1,(d.1.length:Int)),())) (some (r5.1,())):=by kernel_rfl
def aau:Any:=.one ⟨qf,qf,2,fun x=>Yg F0 x.1⟩
theorem awl:bz 195 aau:=aA ajq ⟨tg,Aj,trivial⟩ func195 ab (by kernel_rfl)
def WY:=[(47,cO),(79,ch),(195,aau)]
def It (c:D1)(r:bD):=bJ WY F ab f137 Bf aEh 2 (c,r,())
theorem alE (c:D1)(r:bD):It F c r=(aE F0 r).bind fun r9=>(db F0 c r).bind fun cP=>br (!cP.1) (some (r9.1,[],())) ((Yg F0 r9.1.2.2.2.2.2.2.1).bind fun EH=>some ((r9.1.1,r9.1.2.1,r9.1.2.2.1,r9.1.2.2.2.1,r9.1.2.2.2.2.1,r9.1.2.2.2.2.2.1,EH.1,[]),r9.1.2.2.2.2.2.2.2,())):=by kernel_rfl
def Qj:Any:=.one ⟨Bf,aEh,2,fun x=>It F0 x.1 x.2.1⟩
theorem alF:bz 137 Qj:=aA WY ⟨dr,cL,awl,trivial⟩ func137 ab (by kernel_rfl)
def aav:=[(40,ef)]
def E9 (id:Int)(m:Oo):=bJ aav F ab f139 aEi [(K38,false)] 2 (id,m,())
theorem apm (id:Int)(m:Oo):E9 F id m=br (m.1==4) (some ([],())) (br (m.1==2) (br (m.2.2.2.1.2.1.toList==al.toList) (some ([],())) ((er F0 m.2.2.2.1.2.2 id).bind fun Rh=>br (!Rh.1) (some ([],())) (some ([(m.2.2.2.1.1,m.2.2.2.1.2.1,id)],())))) (br (m.1==1) (br (m.2.2.1.2.2.1.toList==al.toList) (some ([],())) ((er F0 m.2.2.1.2.2.2 id).bind fun Rh=>br (!Rh.1) (some ([],())) (some ([(m.2.2.1.2.1,m.2.2.1.2.2.1,id)],())))) (br (m.2.2.2.2.1.2.1.toList==al.toList) (some ([],())) ((er F0 m.2.2.2.2.1.2.2 id).bind fun Rh=>br (!Rh.1) (some ([],())) (some ([(m.2.2.2.2.1.1,m.2.2.2.2.1.2.1,id)],())))))):=by kernel_rfl
def Gc:Any:=.one ⟨aEi,[(K38,false)],2,fun x=>E9 F0 x.1 x.2.1⟩
theorem WZ:bz 139 Gc:=aA aav ⟨fA,trivial⟩ func139 ab (by kernel_rfl)
def Ng:Nat->Option Hint:=look [(2,{live:=[0,3,7,8],rl:=[4]})]
def DV (s:List cH)(t7 t8 v:Int)(v1:ByteArray)(v2:Int):= eD 19 [(0,j9 127 (eu) s),cW 3,(7,bW t7),(8,bW t8)] [(3,[aq v,.str v1,aq v2])] []
def aaw (t4:Int):= cV 19 [(4,bW t4)]
def W0   := cV 19 []
def Nh (st:St):Option U:=gQ aF F Ng [.r,.l,.r,.b,.i] f196 J n st
def DW:=jG aF F Ng [.r,.l,.r,.b] f196 dK 1
theorem Qk (s:List cH)(t7 t8 v:Int)(v1:ByteArray)(v2:Int):Nh F J (n+1) (DV s t7 t8 v v1 v2)=br (decide (t8<t7)) (ck (cr t8 (s.length:Int)) (br ((v==(aU s t8 eu.aG).1)&&((v1.toList==(aU s t8 eu.aG).2.1.toList)&&((v2==(aU s t8 eu.aG).2.2)&&true))) (J .ret (aaw t8)) (Nh F J n (DV s t7 (ak (t8+1)) v v1 v2)))) (J (.exit 0) (W0)):=by kernel_rfl
theorem apn (t4:Int):DW F .ret (aaw t4)=some (t4,()):=by kernel_rfl
theorem alG: DW F (.exit 0) (W0)=some (-1,()):=by kernel_rfl
abbrev aEm:List (Ty×Bool):=[(K38,false),(eu,true)]
def Yh (s:D38)(v:cH):=bJ aF F Ng f196 aEm dK 1 (s,v,())
theorem awm (s:D38)(v:cH):Yh F s v=Nh F (DW F) F.n (DV s (s.length:Int) 0 v.1 v.2.1 v.2.2):=by kernel_rfl
def aax:Any:=.one ⟨aEm,dK,1,fun x=>Yh F0 x.1 x.2.1⟩
theorem awn:bz 196 aax:=aA aF trivial func196 Ng (by kernel_rfl)
def qG:=[(196,aax)]
def dU (s:D38)(v:cH):=bJ qG F ab f140 aEm bd 1 (s,v,())
theorem Ge (s:D38)(v:cH):dU F s v=(Yh F0 s v).bind fun r7=>some (decide (r7.1>=0),()):=by kernel_rfl
def fo:Any:=.one ⟨aEm,bd,1,fun x=>dU F0 x.1 x.2.1⟩
theorem jq:bz 140 fo:=aA qG ⟨awn,trivial⟩ func140 ab (by kernel_rfl)
def oS:=[(11,kU),(38,gX),(40,ef),(139,Gc),(140,fo)]
def oT:Nat->Option Hint:=look [(5,{live:=[1,6,7,20,21,22],yz:=[(6,2,3,.int .i64),(6,3,50,di),(6,4,114,fW),(6,5,127,eu)],xl:=[6,7],rl:=[6]}),(8,{live:=[1,6,7,20,21,22,29,30,31],xl:=[1,6,7,20,21,22],rl:=[6]})]
def nI (id:Int)(t20:List l5)(t21 t22 t30 t31 t6 t61 out bh:Int)(xs:List cH)(aQ:List Int)(ba:List bD)(bp:List cU)(bQ:List cH)(cD:List Int)(cE:List bD)(cI:List cU)(pb:List cH):= eD 55 [(1,bW id),cW 6,cW 7,(20,j9 146 (qT) t20),(21,bW t21),(22,bW t22),(29,.v (.c (.own 1000000 none))),(30,bW t30),(31,bW t31)] [(6,[aq t6,aq t61,.own 1000001 none,.own 1000002 none,.own 1000003 none,.own 1000004 none]),(7,[aq out,aq bh,.own 1000005 none,.own 1000006 none,.own 1000007 none,.own 1000008 none])] [aB 1000000 127 eu xs,aB 1000001 3 (.int .i64) aQ,aB 1000002 50 di ba,aB 1000003 114 fW bp,aB 1000004 127 eu bQ,aB 1000005 3 (.int .i64) cD,aB 1000006 50 di cE,aB 1000007 114 fW cI,aB 1000008 127 eu pb]
def TZ (id:Int)(t20:List l5)(t21 t22 t6 t61 out bh:Int)(xs:List Int)(aQ:List bD)(ba:List cU)(bp:List cH)(bQ:List Int)(cD:List bD)(cE:List cU)(cI:List cH):= eD 55 [(1,bW id),cW 6,cW 7,(20,j9 146 (qT) t20),(21,bW t21),(22,bW t22)] [(6,[aq t6,aq t61,.own 1000000 none,.own 1000001 none,.own 1000002 none,.own 1000003 none]),(7,[aq out,aq bh,.own 1000004 none,.own 1000005 none,.own 1000006 none,.own 1000007 none])] [aB 1000000 3 (.int .i64) xs,aB 1000001 50 di aQ,aB 1000002 114 fW ba,aB 1000003 127 eu bp,aB 1000004 3 (.int .i64) bQ,aB 1000005 50 di cD,aB 1000006 114 fW cE,aB 1000007 127 eu cI]
def tp (st:St):Option U:=gQ oS F oT [.r,.r,.r,.l,.r,.b,.i,.r,.r,.l,.b,.r,.r,.b,.i] f138 J n st
def KN:Ex->St->Option U:=am0 Tryz.prog (look oS) F oT [.r,.r,.l,.b,.r,.r,.b] (sub [.r,.r,.r,.l,.r,.b,.i] (oh f138)) (itk Tryz.prog (look oS) F oT (sub [.r,.r,.r,.l,.r,.b,.i] (oh f138)) J n)
def Ax (id:Int)(t20:List l5)(t21 t22 t6 t61 out bh:Int)(xs:List Int)(aQ:List bD)(ba:List cU)(bp:List cH)(bQ:List Int)(cD:List bD)(cE:List cU)(cI:List cH):= eD 55 [(1,bW id),cW 6,cW 7,(20,j9 146 (qT) t20),(21,bW t21),(22,bW t22)] [(6,[aq t6,aq t61,.own 1000000 none,.own 1000001 none,.own 1000002 none,.own 1000003 none]),(7,[aq out,aq bh,.own 1000004 none,.own 1000005 none,.own 1000006 none,.own 1000007 none])] [aB 1000000 3 (.int .i64) xs,aB 1000001 50 di aQ,aB 1000002 114 fW ba,aB 1000003 127 eu bp,aB 1000004 3 (.int .i64) bQ,aB 1000005 50 di cD,aB 1000006 114 fW cE,aB 1000007 127 eu cI]
def T0 (t6 t61 out bh:Int)(xs:List Int)(aQ:List bD)(ba:List cU)(bp:List cH)(bQ:List Int)(cD:List bD)(cE:List cU)(cI:List cH):= eD 55 [cW 6,cW 7] [(6,[aq t6,aq t61,.own 1000000 none,.own 1000001 none,.own 1000002 none,.own 1000003 none]),(7,[aq out,aq bh,.own 1000004 none,.own 1000005 none,.own 1000006 none,.own 1000007 none])] [aB 1000000 3 (.int .i64) xs,aB 1000001 50 di aQ,aB 1000002 114 fW ba,aB 1000003 127 eu bp,aB 1000004 3 (.int .i64) bQ,aB 1000005 50 di cD,aB 1000006 114 fW cE,aB 1000007 127 eu cI]
def Iu (st:St):Option U:=gQ oS F oT [.r,.r,.r,.l,.r,.b,.i] f138 J n st
def Ay:=jG oS F oT [.r,.r,.r,.l,.r,.b] f138 gE 2
theorem Ni (id:Int)(t20:List l5)(t21 t22 t30 t31 t6 t61 out bh:Int)(xs:List cH)(aQ:List Int)(ba:List bD)(bp:List cU)(bQ:List cH)(cD:List Int)(cE:List bD)(cI:List cU)(pb:List cH):tp F J (n+1) (nI id t20 t21 t22 t30 t31 t6 t61 out bh xs aQ ba bp bQ cD cE cI pb)=br (decide (t31<t30)) (ck (cr t31 (xs.length:Int)) ((dU F0 pb (aU xs t31 eu.aG)).bind fun UQ=>br (!UQ.1) (br (decide ((pb.length:Int)<300)) (ck (fp F pb.length [(aU xs t31 eu.aG)].length 32) (tp F J n (nI id t20 t21 t22 t30 (ak (t31+1)) t6 t61 out bh xs aQ ba bp bQ cD cE cI (pb++[(aU xs t31 eu.aG)])))) (tp F J n (nI id t20 t21 t22 t30 (ak (t31+1)) t6 t61 out bh xs aQ ba bp bQ cD cE cI pb))) (tp F J n (nI id t20 t21 t22 t30 (ak (t31+1)) t6 t61 out bh xs aQ ba bp bQ cD cE cI pb)))) (J (.exit 2) (TZ id t20 t21 t22 t6 t61 out bh aQ ba bp bQ cD cE cI pb)):=by kernel_rfl
theorem Nj (id:Int)(t20:List l5)(t21 t22 t6 t61 out bh:Int)(xs:List Int)(aQ:List bD)(ba:List cU)(bp:List cH)(bQ:List Int)(cD:List bD)(cE:List cU)(cI:List cH):Iu F J (n+1) (Ax id t20 t21 t22 t6 t61 out bh xs aQ ba bp bQ cD cE cI)=br (decide (t22<t21)) (ck (cr t22 (t20.length:Int)) ((E9 F0 id (aU t20 t22 qT.aG).2).bind fun UG=>tp F (KN F J n) F.n (nI id t20 t21 t22 (UG.1.length:Int) 0 t6 t61 out bh UG.1 xs aQ ba bp bQ cD cE cI))) (J (.exit 0) (T0 t6 t61 out bh xs aQ ba bp bQ cD cE cI)):=by kernel_rfl
theorem ahd (id:Int)(t20:List l5)(t21 t22 t6 t61 out bh:Int)(xs:List Int)(aQ:List bD)(ba:List cU)(bp:List cH)(bQ:List Int)(cD:List bD)(cE:List cU)(cI:List cH):KN F J n (.exit 2) (TZ id t20 t21 t22 t6 t61 out bh xs aQ ba bp bQ cD cE cI)=Iu F J n (Ax id t20 t21 (ak (t22+1)) t6 t61 out bh xs aQ ba bp bQ cD cE cI):=by kernel_rfl
theorem ahe (t6 t61 out bh:Int)(xs:List Int)(aQ:List bD)(ba:List cU)(bp:List cH)(bQ:List Int)(cD:List bD)(cE:List cU)(cI:List cH):Ay F (.exit 0) (T0 t6 t61 out bh xs aQ ba bp bQ cD cE cI)=some (((out,bh),bQ,cD,cE,cI),()):=by kernel_rfl
def RV (w:o8)(id:Int)(list:D23):=bJ oS F oT f138 aEj gE 2 (w,id,list,())
theorem asy (w:o8)(id:Int)(list:D23):RV F w id list=(aS F0 w).bind fun cp=>(n6 F0 w).bind fun pa=>(er F0 pa.1 id).bind fun fD=>br (!fD.1) (some (cp.1,())) (Iu F (Ay F) F.n (Ax id list (list.length:Int) 0 0 0 cp.1.1.1 cp.1.1.2 [] [] [] [] cp.1.2.1 cp.1.2.2.1 cp.1.2.2.2.1 cp.1.2.2.2.2)):=by kernel_rfl
def W3:Any:=.one ⟨aEj,gE,2,fun x=>RV F0 x.1 x.2.1 x.2.2.1⟩
theorem asz:bz 138 W3:=aA oS ⟨rL,lK,fA,WZ,jq,trivial⟩ func138 oT (by kernel_rfl)
def W4:=[(151,jn)]
def oU (s:ByteArray):=bJ W4 F ab f206 ed mG 2 (s,())
theorem alH (s:ByteArray):oU F s=(fM F0 (s.size:Int)).bind fun r5=>ck (okB F r5.1.length s.size) (some (r5.1++bytesOf s,())):=by kernel_rfl
def tt:Any:=.one ⟨ed,mG,2,fun x=>oU F0 x.1⟩
theorem Gf:bz 206 tt:=aA W4 ⟨nx,trivial⟩ func206 ab (by kernel_rfl)
def Az:=[(151,jn)]
def AA:Nat->Option Hint:=look [(3,{live:=[3,6,7,8],mat:=[(3,5,.int .u8)],xl:=[3],rl:=[2]})]
def tu (t6:List Int)(t7 t8:Int)(xs:List Int):= eD 18 [(3,.v (.c (.own 1000000 none))),(6,j9 3 (.int .i64) t6),(7,bW t7),(8,bW t8)] [] [aB 1000000 5 (.int .u8) xs]
def Nk (xs:List Int):= eD 18 [(3,.v (.c (.own 1000000 none)))] [] [aB 1000000 5 (.int .u8) xs]
def AB (st:St):Option U:=gQ Az F AA [.r,.r,.l,.r,.b,.i] f208 J n st
def Cq:=jG Az F AA [.r,.r,.l,.r,.b] f208 mG 2
theorem Hf (t6:List Int)(t7 t8:Int)(xs:List Int):AB F J (n+1) (tu t6 t7 t8 xs)=br (decide (t8<t7)) (ck (cr t8 (t6.length:Int)) ((fM F0 (aU t6 t8 0)).bind fun l6=>ck (fp F xs.length l6.1.length 1) (AB F J n (tu t6 t7 (ak (t8+1)) (xs++l6.1))))) (J (.exit 0) (Nk xs)):=by kernel_rfl
theorem abS (xs:List Int):Cq F (.exit 0) (Nk xs)=some (xs,()):=by kernel_rfl
def lM (list:List Int):=bJ Az F AA f208 kI mG 2 (list,())
theorem alI (list:List Int):lM F list=AB F (Cq F) F.n (tu list (list.length:Int) 0 []):=by kernel_rfl
def tv:Any:=.one ⟨kI,mG,2,fun x=>lM F0 x.1⟩
theorem Gg:bz 208 tv:=aA Az ⟨nx,trivial⟩ func208 AA (by kernel_rfl)
def W5:=[(151,jn),(152,jX),(206,tt),(208,tv)]
def tw (c:D1)(q:D9):=bJ W5 F ab f207 Gx mG 2 (c,q,())
theorem alJ (c:D1)(q:D9):tw F c q=(nr F0 c q).bind fun r8=>br (!r8.1) (some ([],())) ((fM F0 q.1).bind fun cP=>(oU F0 q.2.1).bind fun pa=>ck (fp F cP.1.length pa.1.length 1) ((fM F0 (q.2.2.length:Int)).bind fun ia=>ck (fp F (cP.1++pa.1).length ia.1.length 1) ((lM F0 q.2.2).bind fun uC=>ck (fp F ((cP.1++pa.1)++ia.1).length uC.1.length 1) (some (((cP.1++pa.1)++ia.1)++uC.1,()))))):=by kernel_rfl
def Cr:Any:=.one ⟨Gx,mG,2,fun x=>tw F0 x.1 x.2.1⟩
theorem T1:bz 207 Cr:=aA W5 ⟨nx,oF,Gf,Gg,trivial⟩ func207 ab (by kernel_rfl)
def T2:=[(94,nv),(151,jn),(206,tt),(207,Cr),(208,tv)]
def uX (c:D1)(m:Oo):=bJ T2 F ab f145 ai1 mG 2 (c,m,())
theorem ahf (c:D1)(m:Oo):uX F c m=(gV F0 c m).bind fun r8=>br (!r8.1) (some ([],())) ((fM F0 m.1).bind fun cP=>br (m.1==1) ((oU F0 m.2.2.1.1).bind fun ia=>ck (fp F cP.1.length ia.1.length 1) ((tw F0 c m.2.2.1.2).bind fun VM=>ck (fp F (cP.1++ia.1).length VM.1.length 1) (some ((cP.1++ia.1)++VM.1,())))) (br (m.1==2) ((fM F0 m.2.2.2.1.1).bind fun r36=>ck (fp F cP.1.length r36.1.length 1) ((oU F0 m.2.2.2.1.2.1).bind fun r42=>ck (fp F (cP.1++r36.1).length r42.1.length 1) ((fM F0 (m.2.2.2.1.2.2.length:Int)).bind fun r49=>ck (fp F ((cP.1++r36.1)++r42.1).length r49.1.length 1) ((lM F0 m.2.2.2.1.2.2).bind fun r55=>ck (fp F (((cP.1++r36.1)++r42.1)++r49.1).length r55.1.length 1) (some ((((cP.1++r36.1)++r42.1)++r49.1)++r55.1,())))))) (br (m.1==3) ((lM F0 [m.2.1,m.2.2.2.2.2.1]).bind fun fc=>ck (fp F cP.1.length fc.1.length 1) ((tw F0 c m.2.2.2.2.1).bind fun r71=>ck (fp F (cP.1++fc.1).length r71.1.length 1) (some ((cP.1++fc.1)++r71.1,())))) ((lM F0 [m.2.2.2.2.2.2.1,m.2.2.2.2.2.2.2.1,m.2.2.2.2.2.2.2.2.1,m.2.2.2.2.2.2.2.2.2]).bind fun r87=>ck (fp F cP.1.length r87.1.length 1) (some (cP.1++r87.1,())))))):=by kernel_rfl
def AD:Any:=.one ⟨ai1,mG,2,fun x=>uX F0 x.1 x.2.1⟩
theorem Ql:bz 145 AD:=aA T2 ⟨uR,nx,Gf,T1,Gg,trivial⟩ func145 ab (by kernel_rfl)
def Nl:=[(34,j5),(38,gX),(67,bR),(145,AD)]
def Nn:Nat->Option Hint:=look [(5,{live:=[2,4,5,15,16,17],yz:=[(4,2,3,.int .i64),(4,3,50,di),(4,4,114,fW),(4,5,127,eu)],xl:=[4,5],rl:=[4]})]
def me (t15:List l5)(t16 t17 w w1:Int)(w2:List Int)(w3:List bD)(w4:List cU)(w5:List cH)(t4 t41 out bh:Int)(xs:List Int)(aQ:List bD)(ba:List cU)(bp:List cH)(bQ:List Int)(cD:List bD)(cE:List cU)(cI:List cH):= eD 55 [cW 2,cW 4,cW 5,(15,j9 146 (qT) t15),(16,bW t16),(17,bW t17)] [(2,[aq w,aq w1,.ro false 3 (.int .i64) w2,.ro false 50 (di) w3,.ro false 114 (fW) w4,.ro false 127 (eu) w5]),(4,[aq t4,aq t41,.own 1000000 none,.own 1000001 none,.own 1000002 none,.own 1000003 none]),(5,[aq out,aq bh,.own 1000004 none,.own 1000005 none,.own 1000006 none,.own 1000007 none])] [aB 1000000 3 (.int .i64) xs,aB 1000001 50 di aQ,aB 1000002 114 fW ba,aB 1000003 127 eu bp,aB 1000004 3 (.int .i64) bQ,aB 1000005 50 di cD,aB 1000006 114 fW cE,aB 1000007 127 eu cI]
def W6 (t4 t41 out bh:Int)(xs:List Int)(aQ:List bD)(ba:List cU)(bp:List cH)(bQ:List Int)(cD:List bD)(cE:List cU)(cI:List cH):= eD 55 [cW 4,cW 5] [(4,[aq t4,aq t41,.own 1000000 none,.own 1000001 none,.own 1000002 none,.own 1000003 none]),(5,[aq out,aq bh,.own 1000004 none,.own 1000005 none,.own 1000006 none,.own 1000007 none])] [aB 1000000 3 (.int .i64) xs,aB 1000001 50 di aQ,aB 1000002 114 fW ba,aB 1000003 127 eu bp,aB 1000004 3 (.int .i64) bQ,aB 1000005 50 di cD,aB 1000006 114 fW cE,aB 1000007 127 eu cI]
def rM (st:St):Option U:=gQ Nl F Nn [.r,.r,.r,.l,.r,.b,.i] f141 J n st
def OA:=jG Nl F Nn [.r,.r,.r,.l,.r,.b] f141 gE 2
theorem Qm (t15:List l5)(t16 t17 w w1:Int)(w2:List Int)(w3:List bD)(w4:List cU)(w5:List cH)(t4 t41 out bh:Int)(xs:List Int)(aQ:List bD)(ba:List cU)(bp:List cH)(bQ:List Int)(cD:List bD)(cE:List cU)(cI:List cH):rM F J (n+1) (me t15 t16 t17 w w1 w2 w3 w4 w5 t4 t41 out bh xs aQ ba bp bQ cD cE cI)=br (decide (t17<t16)) (ck (cr t17 (t15.length:Int)) ((uX F0 (w,w1) (aU t15 t17 qT.aG).2).bind fun Wl=>br (decide ((Wl.1.length:Int)>0)) ((bg F0 (aU t15 t17 qT.aG).1 0 (ak (w-1))).bind fun r36=>br r36.1 (br (decide ((cE.length:Int)<60)) (ck (fp F cE.length [((aU t15 t17 qT.aG).1,Wl.1)].length 32) (rM F J n (me t15 t16 (ak (t17+1)) w w1 w2 w3 w4 w5 t4 t41 out bh xs aQ ba bp bQ cD (cE++[((aU t15 t17 qT.aG).1,Wl.1)]) cI))) (rM F J n (me t15 t16 (ak (t17+1)) w w1 w2 w3 w4 w5 t4 t41 out bh xs aQ ba bp bQ cD cE cI))) (rM F J n (me t15 t16 (ak (t17+1)) w w1 w2 w3 w4 w5 t4 t41 out bh xs aQ ba bp bQ cD cE cI))) (rM F J n (me t15 t16 (ak (t17+1)) w w1 w2 w3 w4 w5 t4 t41 out bh xs aQ ba bp bQ cD cE cI)))) (J (.exit 0) (W6 t4 t41 out bh xs aQ ba bp bQ cD cE cI)):=by kernel_rfl
theorem alK (t4 t41 out bh:Int)(xs:List Int)(aQ:List bD)(ba:List cU)(bp:List cH)(bQ:List Int)(cD:List bD)(cE:List cU)(cI:List cH):OA F (.exit 0) (W6 t4 t41 out bh xs aQ ba bp bQ cD cE cI)=some (((out,bh),bQ,cD,cE,cI),()):=by kernel_rfl
def Qn (w:o8)(list:D23):=bJ Nl F Nn f141 aEg gE 2 (w,list,())
theorem awo (w:o8)(list:D23):Qn F w list=(aS F0 w).bind fun ij=>(dA F0 w).bind fun cP=>br (!cP.1) (some (ij.1,())) (rM F (OA F) F.n (me list (list.length:Int) 0 w.1.1 w.1.2 w.2.1 w.2.2.1 w.2.2.2.1 w.2.2.2.2 0 0 ij.1.1.1 ij.1.1.2 [] [] [] [] ij.1.2.1 ij.1.2.2.1 ij.1.2.2.2.1 ij.1.2.2.2.2)):=by kernel_rfl
def aay:Any:=.one ⟨aEg,gE,2,fun x=>Qn F0 x.1 x.2.1⟩
theorem awp:bz 141 aay:=aA Nl ⟨pE,lK,cq,Ql,trivial⟩ func141 Nn (by kernel_rfl)
end
end Go.Am.Tryz
