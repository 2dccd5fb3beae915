/- No condition. -/
import Derived.Test.YtfapcfpkbahneaaGreatDoorProg
import Derived.Test.YtfapcfpkbahneaaGreatDoorQpVJS1
set_option linter.all false
set_option maxRecDepth 100000
namespace Go.Am.Tryz
open Go.Am Go.Proofs Go.Proofs.Tryz
abbrev K1:Ty:=.pair (.int .i64) (.int .i64)
abbrev D1:=Int×Int
abbrev K2:Ty:=.pair (.sl 5 (.int .u8)) (K1)
abbrev D2:=List Int×D1
abbrev K3:Ty:=.pair (.int .i64) (K1)
abbrev D3:=Int×D1
abbrev K4:Ty:=.pair (.int .i64) (K3)
abbrev D4:=Int×D3
abbrev K5:Ty:=.sl 76 (K4)
abbrev D5:=List D4
abbrev K6:Ty:=.pair (.int .i64) (K5)
abbrev D6:=Int×D5
abbrev K7:Ty:=.sl 157 (K6)
abbrev K8:Ty:=.pair (.str) (.sl 3 (.int .i64))
abbrev D8:=ByteArray×List Int
abbrev K9:Ty:=.pair (.int .i64) (K8)
abbrev D9:=Int×D8
abbrev K10:Ty:=.pair (K9) (.str)
abbrev D10:=D9×ByteArray
abbrev K11:Ty:=.pair (.int .i64) (K10)
abbrev D11:=Int×D10
abbrev K12:Ty:=.pair (.int .i64) (K11)
abbrev UF:=Int×D11
abbrev K13:Ty:=.sl 74 (K9)
abbrev D13:=List D9
abbrev K14:Ty:=.pair (.sl 5 (.int .u8)) (.int .i64)
abbrev D14:=List Int×Int
abbrev K15:Ty:=.pair (.str) (K9)
abbrev D15:=ByteArray×D9
abbrev K16:Ty:=.pair (.int .i64) (K4)
abbrev D16:=Int×D4
abbrev K17:Ty:=.pair (K9) (K16)
abbrev D17:=D9×D16
abbrev K18:Ty:=.pair (K9) (K17)
abbrev D18:=D9×D17
abbrev K19:Ty:=.pair (K15) (K18)
abbrev D19:=D15×D18
abbrev K20:Ty:=.pair (.int .i64) (K19)
abbrev D20:=Int×D19
abbrev K21:Ty:=.pair (.int .i64) (K20)
abbrev Oo:=Int×D20
abbrev qT:Ty:=.pair (.int .i64) (K21)
abbrev l5:=Int×Oo
abbrev K23:Ty:=.sl 146 (qT)
abbrev D23:=List l5
abbrev K24:Ty:=.pair (K14) (K23)
abbrev D24:=D14×D23
abbrev K25:Ty:=.pair (K13) (K24)
abbrev D25:=D13×D24
abbrev K26:Ty:=.pair (K5) (K25)
abbrev D26:=D5×D25
abbrev K27:Ty:=.pair (K12) (K26)
abbrev D27:=UF×D26
abbrev K28:Ty:=.pair (.int .i64) (K27)
abbrev D28:=Int×D27
abbrev K29:Ty:=.pair (.int .i64) (K28)
abbrev D29:=Int×D28
abbrev di:Ty:=.pair (.int .i64) (K29)
abbrev bD:=Int×D29
abbrev K31:Ty:=.pair (.int .i64) (.bool)
abbrev D31:=Int×Bool
abbrev K32:Ty:=.pair (.sl 5 (.int .u8)) (K31)
abbrev D32:=List Int×D31
abbrev K33:Ty:=.sl 50 (di)
abbrev D33:=List bD
abbrev fW:Ty:=.pair (.int .i64) (.sl 5 (.int .u8))
abbrev cU:=Int×List Int
abbrev K35:Ty:=.sl 114 (fW)
abbrev D35:=List cU
abbrev K36:Ty:=.pair (.str) (.int .i64)
abbrev D36:=ByteArray×Int
abbrev eu:Ty:=.pair (.int .i64) (K36)
abbrev cH:=Int×D36
abbrev K38:Ty:=.sl 127 (eu)
abbrev D38:=List cH
abbrev K39:Ty:=.pair (K35) (K38)
abbrev D39:=D35×D38
abbrev K40:Ty:=.pair (K33) (K39)
abbrev D40:=D33×D39
abbrev K41:Ty:=.pair (.sl 3 (.int .i64)) (K40)
abbrev D41:=List Int×D40
abbrev iV:Ty:=.pair (K1) (K41)
abbrev o8:=D1×D41
abbrev K43:Ty:=.pair (.sl 3 (.int .i64)) (.sl 3 (.int .i64))
abbrev D43:=List Int×List Int
abbrev K44:Ty:=.pair (.int .i64) (qT)
abbrev D44:=Int×l5
abbrev K45:Ty:=.pair (.int .i64) (K44)
abbrev D45:=Int×D44
abbrev K46:Ty:=.sl 80 (K45)
abbrev D46:=List D45
def ab:Nat->Option Hint:=look []
def aF:List (Nat×Any):=[]
noncomputable section
variable {U:Type} (C:List (Nat×Any)) (F:sd) (H:Nat->Option Hint)
abbrev bz (f:Nat)(c:Any):Prop:=tX Tryz.prog TB f c
def bJ (fn:Func)(ps rs:List (Ty×Bool))(m:Nat)(x:Args ps):=aLR Tryz.prog (look C) F H fn ps rs m x
def EG (fn:Func)(ps:List (Ty×Bool))(i:Nat)(pm:PM)(rs qs:List (Ty×Bool))(m:Nat)(x:Args ps):=aDe Tryz.prog (look C) F H fn ps i pm rs qs m x
def gQ (p:List At)(fn:Func)(J:Ex->St->Option U)(n:Nat)(st:St):Option U:=lp Tryz.prog (look C) F H (sub p (oh fn)) J n st
def jG (p:List At)(fn:Func)(rs:List (Ty×Bool))(m:Nat):=am0 Tryz.prog (look C) F H p (oh fn) (fin Tryz.prog fn rs m)
def ayC (p:List At)(fn:Func)(pm:PM)(rs qs:List (Ty×Bool))(m:Nat):=am0 Tryz.prog (look C) F H p (oh fn) (aNx Tryz.prog fn pm rs qs m)
def eD (n:Nat)(t:List (Nat×AV))(b:List (Nat×List AC))(l:List (Nat×Option gB)):St:={nt:=n,tm:=t,bx:=b,bl:=l}
def cV (n:Nat)(t:List (Nat×AV)):St:={nt:=n,tm:=t,bx:=[],bl:=[]}
def bW (t:Int):AV:=.v (.c (.int .i64 t))
def aq (t:Int):AC:=.int .i64 t
def cW (d:Nat):Nat×AV:=(d,.v (.c (.ptr d 0)))
abbrev al:ByteArray:=ByteArray.mk #[]
def aB (i:Nat)(e:TypeId)(t:Ty)(x:List t.D):Nat×Option gB:=(i,some ⟨e,t,x,true,true⟩)
def SK (b:Bool):AV:=.v (.c (.bool b))
def UP (b:ByteArray):AV:=.v (.c (.str b))
def j9 (e:Nat)(t:Ty)(x:List t.D):AV:=.v (.c (.ro false e t x))
theorem aA {f : FuncId} {fn : Func} (l : List (Nat × Any)) (hl : yF Tryz.prog TB l) (hf : Tryz.prog.funcs[f]? = some fn) (H : Nat → Option Hint) {ps rs : List (Ty × Bool)} {m : Nat} {g : Args ps → Option (Args rs)} (hg : (fn.name == "runtime.NumGoroutine" || fn.body.isNone, fun x => bJ l F0 H fn ps rs m x) = (false, g)) : bz f (.one ⟨ps, rs, m, g⟩) :=
 ok1 hl hf (aip.1 (Prod.mk.inj hg).1).1 (aip.1 (Prod.mk.inj hg).1).2 H (Prod.mk.inj hg).2
theorem aBL {f : FuncId} {fn : Func} (l : List (Nat × Any)) (hl : yF Tryz.prog TB l) (hf : Tryz.prog.funcs[f]? = some fn) (H : Nat → Option Hint) {ps rs : List (Ty × Bool)} {i m : Nat} {pm : PM} {g : Args ps → Option (Args rs × Args [])} (hg : (fn.name == "runtime.NumGoroutine" || fn.body.isNone, fun x => EG l F0 H fn ps i pm rs [] m x) = (false, g)) : bz f (.two ⟨ps, i, pm, rs, m, [], g⟩) :=
 ok2 hl hf (aip.1 (Prod.mk.inj hg).1).1 (aip.1 (Prod.mk.inj hg).1).2 H (Prod.mk.inj hg).2
theorem VG {f : FuncId} {fn : Func} (l : List (Nat × Any)) (hl : yF Tryz.prog TB l) (hf : Tryz.prog.funcs[f]? = some fn) (H : Nat → Option Hint) {ps rs : List (Ty × Bool)} {i m : Nat} {pm : PM} {p : Ty × Bool} {g : Args ps → Option (Args rs × Args [p])} (hg : (og ps i, fn.name == "runtime.NumGoroutine" || fn.body.isNone, fun x => EG l F0 H fn ps i pm rs [p] m x) = (some p, false, g)) : bz f (.two ⟨ps, i, pm, rs, m, [p], g⟩) :=
 ok3 hl hf (aip.1 (Prod.mk.inj (Prod.mk.inj hg).2).1).1 (aip.1 (Prod.mk.inj (Prod.mk.inj hg).2).1).2 H (Prod.mk.inj hg).1 (Prod.mk.inj (Prod.mk.inj hg).2).2
end
noncomputable section
variable {U:Type} (F:sd) (J:Ex->St->Option U) (n:Nat)
abbrev mG:List (Ty×Bool):=[(.sl 5 (.int .u8),false)]
abbrev bd:List (Ty×Bool):=[(.bool,false)]
def anG (code:List Int):=bJ aF F ab f6 mG bd 1 (code,())
theorem ayD (code:List Int):anG F code=some (decide ((code.length:Int)>1048576),()):=by kernel_rfl
def adn:Any:=.one ⟨mG,bd,1,fun x=>anG F0 x.1⟩
theorem ayE:bz 6 adn:=aA aF trivial func6 ab (by kernel_rfl)
def Hw:Nat->Option Hint:=look [(3,{live:=[0,3,4],xl:=[0,3],rl:=[2]})]
def yI (code:List Int)(h i:Int)(p:List Int):St:={nt:=32,tm:=[(0,j9 5 (.int .u8) code),(3,bW h),(4,bW i)],bx:=[],bl:=[],sp:=j9 5 (.int .u8) p}
def FE (code:List Int)(h:Int)(p:List Int):St:={nt:=32,tm:=[(0,j9 5 (.int .u8) code),(3,bW h)],bx:=[],bl:=[],sp:=j9 5 (.int .u8) p}
def Hy (st:St):Option U:=gQ aF F Hw [.r,.r,.l,.r,.b,.i] f24 J n st
abbrev kg:List (Ty×Bool):=[(K2,true)]
def JG:=ayC aF F Hw [.r,.r,.l,.r,.b] f24 .rd kg [] 5
theorem LX (code:List Int)(h i:Int)(p:List Int):Hy F J (n+1) (yI code h i p)=br (decide (i<(code.length:Int))) (br (decide (i<4000)) (ck (cr i (code.length:Int)) (Hy F J n (yI code (ak (((BitVec.ofInt 64 (ak ((ak ((ak (h*131))+(ak (aU code i 0))))+7)) &&& BitVec.ofInt 64 1073741823).toNat:Int))) (ak (i+1)) p))) (J (.exit 0) (FE code h p))) (J (.exit 0) (FE code h p)):=by kernel_rfl
theorem O8 (code:List Int)(h:Int)(p:List Int):JG F (.exit 0) (FE code h p)=some (((code,0,h),()),()):=by kernel_rfl
def JH (code:List Int):=EG aF F Hw f24 mG 0 .rd kg [] 5 (code,())
theorem arX (code:List Int):JH F code=Hy F (JG F) F.n (yI code (ak (26583+(code.length:Int))) 0 code):=by kernel_rfl
def VH:Any:=.two ⟨mG,0,.rd,kg,5,[],fun x=>JH F0 x.1⟩
theorem arY:bz 24 VH:=aBL aF trivial func24 Hw (by kernel_rfl)
abbrev dK:List (Ty×Bool):=[(.int .i64,false)]
def lh (c:D2):=EG aF F ab f59 kg 0 .cur dK kg 1 (c,())
theorem anH (c:D2):lh F c=br (decide (c.2.1<(c.1.length:Int))) (ck (cr c.2.1 (c.1.length:Int)) (some ((ak (((BitVec.ofInt 64 (ak ((ak (((BitVec.ofInt 64 (ak (((BitVec.ofInt 64 (Int.fdiv (ak ((ak (c.2.2*6364136223846793005))+1442695040888963407)) (2 ^ (min (33:Int).toNat 64))) ^^^ BitVec.ofInt 64 (Int.fdiv (ak ((ak (c.2.2*6364136223846793005))+1442695040888963407)) (2 ^ (min (45:Int).toNat 64)))).toNat:Int))) &&& BitVec.ofInt 64 255).toNat:Int)))+(ak (aU c.1 c.2.1 0)))) &&& BitVec.ofInt 64 255).toNat:Int)),()),(c.1,ak (c.2.1+1),ak ((ak (c.2.2*6364136223846793005))+1442695040888963407)),()))) (some ((ak (((BitVec.ofInt 64 (ak (((BitVec.ofInt 64 (Int.fdiv (ak ((ak (c.2.2*6364136223846793005))+1442695040888963407)) (2 ^ (min (33:Int).toNat 64))) ^^^ BitVec.ofInt 64 (Int.fdiv (ak ((ak (c.2.2*6364136223846793005))+1442695040888963407)) (2 ^ (min (45:Int).toNat 64)))).toNat:Int))) &&& BitVec.ofInt 64 255).toNat:Int)),()),(c.1,c.2.1,ak ((ak (c.2.2*6364136223846793005))+1442695040888963407)),())):=by kernel_rfl
def SL:Any:=.two ⟨kg,0,.cur,dK,1,kg,fun x=>lh F0 x.1⟩
theorem anI:bz 59 SL:=VG aF trivial func59 ab (by kernel_rfl)
def VI:=[(59,SL)]
abbrev aDK:List (Ty×Bool):=[(K2,true),(.int .i64,false)]
def ax (c:D2)(n1:Int):=EG VI F ab f27 aDK 0 .cur dK kg 1 (c,n1,())
theorem SM (c:D2)(n1:Int):ax F c n1=br (decide (n1<=0)) (some ((0,()),c,())) (br (decide (n1<=256)) ((lh F0 c).bind fun l6=>ck (!(n1==0)) (some ((Int.tmod l6.1.1 n1,()),l6.2.1,()))) ((lh F0 c).bind fun Oq=>(lh F0 Oq.2.1).bind fun EH=>(lh F0 EH.2.1).bind fun gL=>(lh F0 gL.2.1).bind fun r24=>ck (!(n1==0)) (some ((Int.tmod (ak ((ak ((ak ((ak (Oq.1.1*16777216))+(ak (EH.1.1*65536))))+(ak (gL.1.1*256))))+r24.1.1)) n1,()),r24.2.1,())))):=by kernel_rfl
def e9:Any:=.two ⟨aDK,0,.cur,dK,1,kg,fun x=>ax F0 x.1 x.2.1⟩
theorem gC:bz 27 e9:=VG VI ⟨anI,trivial⟩ func27 ab (by kernel_rfl)
def O9:=[(27,e9)]
abbrev aHU:List (Ty×Bool):=[(K2,true),(.sl 3 (.int .i64),false)]
def kh (c:D2)(list:List Int):=EG O9 F ab f56 aHU 0 .cur dK kg 1 (c,list,())
theorem ado (c:D2)(list:List Int):kh F c list=(ax F0 c (list.length:Int)).bind fun r9=>ck (cr r9.1.1 (list.length:Int)) (some ((aU list r9.1.1 0,()),r9.2.1,())):=by kernel_rfl
def oq:Any:=.two ⟨aHU,0,.cur,dK,1,kg,fun x=>kh F0 x.1 x.2.1⟩
theorem yJ:bz 56 oq:=VG O9 ⟨gC,trivial⟩ func56 ab (by kernel_rfl)
def Zp:=[(27,e9)]
def nX (c:D2)(n1:Int):=EG Zp F ab f57 aDK 0 .cur bd kg 1 (c,n1,())
theorem anJ (c:D2)(n1:Int):nX F c n1=(ax F0 c n1).bind fun r7=>some ((r7.1.1==0,()),r7.2.1,()):=by kernel_rfl
def pg:Any:=.two ⟨aDK,0,.cur,bd,1,kg,fun x=>nX F0 x.1 x.2.1⟩
theorem yK:bz 57 pg:=VG Zp ⟨gC,trivial⟩ func57 ab (by kernel_rfl)
abbrev aDL:List (Ty×Bool):=[(.int .i64,false),(.int .i64,false),(.int .i64,false)]
def cg (x lo hi:Int):=bJ aF F ab f72 aDL bd 1 (x,lo,hi,())
theorem avV (x lo hi:Int):cg F x lo hi=br (decide (x>=lo)) (some (decide (x<=hi),())) (some (false,())):=by kernel_rfl
def cK:Any:=.one ⟨aDL,bd,1,fun x=>cg F0 x.1 x.2.1 x.2.2.1⟩
theorem dq:bz 72 cK:=aA aF trivial func72 ab (by kernel_rfl)
def Zq:=[(72,cK)]
abbrev SN:List (Ty×Bool):=[(K1,true)]
def eJ (c:D1):=bJ Zq F ab f35 SN bd 1 (c,())
theorem anK (c:D1):eJ F c=(cg F0 c.1 4 7).bind fun r5=>br r5.1 ((cg F0 c.2 1 6).bind fun r9=>some (r9.1,())) (some (false,())):=by kernel_rfl
def dh:Any:=.one ⟨SN,bd,1,fun x=>eJ F0 x.1⟩
theorem ec:bz 35 dh:=aA Zq ⟨dq,trivial⟩ func35 ab (by kernel_rfl)
def Hz:Nat->Option Hint:=look [(4,{live:=[0,1,5,6,7],xl:=[5],rl:=[4]})]
def mH (s:ByteArray)(by1 fa i:Int)(xs:List ByteArray):= eD 36 [(0,UP s),(1,.v (.c (.int .u8 by1))),(5,.v (.c (.own 1000000 none))),(6,bW fa),(7,bW i)] [] [aB 1000000 9 (.str) xs]
def SO (xs:List ByteArray):= eD 36 [(5,.v (.c (.own 1000000 none)))] [] [aB 1000000 9 (.str) xs]
def sk (st:St):Option U:=gQ aF F Hz [.r,.r,.r,.l,.r,.b,.i] f188 J n st
abbrev ayF:List (Ty×Bool):=[(.sl 9 (.str),false)]
def JI:=jG aF F Hz [.r,.r,.r,.l,.r,.b] f188 ayF 2
theorem LY (s:ByteArray)(by1 fa i:Int)(xs:List ByteArray):sk F J (n+1) (mH s by1 fa i xs)=br (decide (i<=(s.size:Int))) (br (i==(s.size:Int)) (ck (SJ fa i (s.size:Int)) (ck (fp F xs.length [s.extract fa.toNat i.toNat].length 16) (sk F J n (mH s by1 (ak (i+1)) (ak (i+1)) (xs++[s.extract fa.toNat i.toNat]))))) (ck (cr i (s.size:Int)) (br ((kc s i)==by1) (ck (SJ fa i (s.size:Int)) (ck (fp F xs.length [s.extract fa.toNat i.toNat].length 16) (sk F J n (mH s by1 (ak (i+1)) (ak (i+1)) (xs++[s.extract fa.toNat i.toNat]))))) (sk F J n (mH s by1 fa (ak (i+1)) xs))))) (J (.exit 0) (SO xs)):=by kernel_rfl
theorem agc (xs:List ByteArray):JI F (.exit 0) (SO xs)=some (xs,()):=by kernel_rfl
abbrev Zr:List (Ty×Bool):=[(.str,false),(.int .u8,false)]
def xb (s:ByteArray)(by1:Int):=bJ aF F Hz f188 Zr ayF 2 (s,by1,())
theorem arZ (s:ByteArray)(by1:Int):xb F s by1=sk F (JI F) F.n (mH s by1 0 0 []):=by kernel_rfl
def JJ:Any:=.one ⟨Zr,ayF,2,fun x=>xb F0 x.1 x.2.1⟩
theorem Zs:bz 188 JJ:=aA aF trivial func188 Hz (by kernel_rfl)
def HA:Nat->Option Hint:=look [(2,{live:=[0,1,7],rl:=[4,5,6]})]
def yL (s:ByteArray)(by1 i:Int):= cV 26 [(0,UP s),(1,.v (.c (.int .u8 by1))),(7,bW i)]
def VJ (t4 t5:ByteArray)(t6:Bool):= cV 26 [(4,UP t4),(5,UP t5),(6,SK t6)]
def SP   := cV 26 []
def HB (st:St):Option U:=gQ aF F HA [.r,.l,.r,.b,.i] f189 J n st
abbrev aHV:List (Ty×Bool):=[(.str,false),(.str,false),(.bool,false)]
def yM:=jG aF F HA [.r,.l,.r,.b] f189 aHV 1
theorem LZ (s:ByteArray)(by1 i:Int):HB F J (n+1) (yL s by1 i)=br (decide (i<(s.size:Int))) (ck (cr i (s.size:Int)) (br ((kc s i)==by1) (ck (SJ 0 i (s.size:Int)) (ck (SJ (ak (i+1)) (s.size:Int) (s.size:Int)) (J .ret (VJ (s.extract (0:Int).toNat i.toNat) (s.extract (ak (i+1)).toNat (s.size:Int).toNat) true)))) (HB F J n (yL s by1 (ak (i+1)))))) (J (.exit 0) (SP)):=by kernel_rfl
theorem ako (t4 t5:ByteArray)(t6:Bool):yM F .ret (VJ t4 t5 t6)=some (t4,t5,t6,()):=by kernel_rfl
theorem agd: yM F (.exit 0) (SP)=some (al,al,false,()):=by kernel_rfl
def jg (s:ByteArray)(by1:Int):=bJ aF F HA f189 Zr aHV 1 (s,by1,())
theorem ar0 (s:ByteArray)(by1:Int):jg F s by1=HB F (yM F) F.n (yL s by1 0):=by kernel_rfl
def JK:Any:=.one ⟨Zr,aHV,1,fun x=>jg F0 x.1 x.2.1⟩
theorem Zt:bz 189 JK:=aA aF trivial func189 HA (by kernel_rfl)
def CT:Nat->Option Hint:=look [(5,{live:=[0,3,4],xl:=[3,4],rl:=[2]})]
def ph (n1:Int)(below:Bool)(out:ByteArray):= cV 31 [(0,bW n1),(3,SK below),(4,UP out)]
def Pb (below:Bool)(out:ByteArray):= cV 31 [(3,SK below),(4,UP out)]
def uG (st:St):Option U:=gQ aF F CT [.r,.r,.r,.r,.l,.b,.i] f226 J n st
abbrev ed:List (Ty×Bool):=[(.str,false)]
def FF:=jG aF F CT [.r,.r,.r,.r,.l,.b] f226 ed 1
theorem JL (n1:Int)(below:Bool)(out:ByteArray):uG F J (n+1) (ph n1 below out)=br (n1 != 0) (br (decide ((Int.tmod n1 10)<0)) (ck (okC F (strOf [IntKind.wrap .u8 (ak (48+(ak (0-(Int.tmod n1 10)))))]).size out.size) (uG F J n (ph (ak (Int.tdiv n1 10)) below ((strOf [IntKind.wrap .u8 (ak (48+(ak (0-(Int.tmod n1 10)))))])++out)))) (ck (okC F (strOf [IntKind.wrap .u8 (ak (48+(Int.tmod n1 10)))]).size out.size) (uG F J n (ph (ak (Int.tdiv n1 10)) below ((strOf [IntKind.wrap .u8 (ak (48+(Int.tmod n1 10)))])++out))))) (J (.exit 0) (Pb below out)):=by kernel_rfl
theorem adp (below:Bool)(out:ByteArray):FF F (.exit 0) (Pb below out)=br below (ck (okC F (ByteArray.mk #[45]).size out.size) (some ((ByteArray.mk #[45])++out,()))) (some (out,())):=by kernel_rfl
def lj (n1:Int):=bJ aF F CT f226 dK ed 1 (n1,())
theorem anL (n1:Int):lj F n1=br (n1==0) (some (ByteArray.mk #[48],())) (uG F (FF F) F.n (ph n1 (decide (n1<0)) al)):=by kernel_rfl
def ve:Any:=.one ⟨dK,ed,1,fun x=>lj F0 x.1⟩
theorem JM:bz 226 ve:=aA aF trivial func226 CT (by kernel_rfl)
def CU:=[(226,ve)]
def CW:Nat->Option Hint:=look [(5,{live:=[0,4,5],xl:=[0,4],rl:=[2,3]})]
def vf (s:ByteArray)(n1 i:Int):= cV 43 [(0,UP s),(4,bW n1),(5,bW i)]
def FG (t2:Int)(t3:Bool):= cV 43 [(2,bW t2),(3,SK t3)]
def Pc (s:ByteArray)(n1:Int):= cV 43 [(0,UP s),(4,bW n1)]
def CX (st:St):Option U:=gQ CU F CW [.r,.r,.r,.l,.r,.b,.i] f190 J n st
abbrev atK:List (Ty×Bool):=[(.int .i64,false),(.bool,false)]
def vg:=jG CU F CW [.r,.r,.r,.l,.r,.b] f190 atK 1
theorem JN (s:ByteArray)(n1 i:Int):CX F J (n+1) (vf s n1 i)=br (decide (i<(s.size:Int))) (ck (cr i (s.size:Int)) (br (decide ((kc s i)<48)) (J .ret (FG 0 false)) (ck (cr i (s.size:Int)) (br (decide ((kc s i)>57)) (J .ret (FG 0 false)) (ck (cr i (s.size:Int)) (CX F J n (vf s (ak ((ak ((ak (10*n1))+(ak (kc s i))))-48)) (ak (i+1))))))))) (J (.exit 0) (Pc s n1)):=by kernel_rfl
theorem age (t2:Int)(t3:Bool):vg F .ret (FG t2 t3)=some (t2,t3,()):=by kernel_rfl
theorem adq (s:ByteArray)(n1:Int):vg F (.exit 0) (Pc s n1)=(lj F0 n1).bind fun Re=>br (!(Re.1.toList==s.toList)) (some (0,false,())) (some (n1,true,())):=by kernel_rfl
def nY (s:ByteArray):=bJ CU F CW f190 ed atK 1 (s,())
theorem anM (s:ByteArray):nY F s=br (decide ((s.size:Int)<1)) (some (0,false,())) (br (decide ((s.size:Int)>6)) (some (0,false,())) (CX F (vg F) F.n (vf s 0 0))):=by kernel_rfl
def FH:Any:=.one ⟨ed,atK,1,fun x=>nY F0 x.1⟩
theorem VK:bz 190 FH:=aA CU ⟨JM,trivial⟩ func190 CW (by kernel_rfl)
def aiW:=[(72,cK)]
abbrev Zu:List (Ty×Bool):=[(K4,true)]
def so (x:D4):=bJ aiW F ab f181 Zu bd 1 (x,())
theorem avW (x:D4):so F x=(cg F0 x.1 0 3).bind fun r5=>br r5.1 ((cg F0 x.2.1 0 3).bind fun r9=>br r9.1 ((cg F0 x.2.2.1 0 1000).bind fun l6=>br l6.1 ((cg F0 x.2.2.2 0 99).bind fun dW=>some (dW.1,())) (some (false,()))) (some (false,()))) (some (false,())):=by kernel_rfl
def l7:Any:=.one ⟨Zu,bd,1,fun x=>so F0 x.1⟩
theorem sq:bz 181 l7:=aA aiW ⟨dq,trivial⟩ func181 ab (by kernel_rfl)
def Zv:=[(181,l7),(226,ve)]
def xR (x:D4):=bJ Zv F ab f271 Zu ed 1 (x,())
theorem anN (x:D4):xR F x=(so F0 x).bind fun r4=>br (!r4.1) (some (al,())) ((lj F0 x.1).bind fun r8=>ck (okC F r8.1.size (ByteArray.mk #[62]).size) ((lj F0 x.2.1).bind fun cP=>ck (okC F (r8.1++(ByteArray.mk #[62])).size cP.1.size) (ck (okC F ((r8.1++(ByteArray.mk #[62]))++cP.1).size (ByteArray.mk #[58]).size) ((lj F0 x.2.2.1).bind fun fD=>ck (okC F (((r8.1++(ByteArray.mk #[62]))++cP.1)++(ByteArray.mk #[58])).size fD.1.size) (ck (okC F ((((r8.1++(ByteArray.mk #[62]))++cP.1)++(ByteArray.mk #[58]))++fD.1).size (ByteArray.mk #[35]).size) ((lj F0 x.2.2.2).bind fun gL=>ck (okC F (((((r8.1++(ByteArray.mk #[62]))++cP.1)++(ByteArray.mk #[58]))++fD.1)++(ByteArray.mk #[35])).size gL.1.size) (some ((((((r8.1++(ByteArray.mk #[62]))++cP.1)++(ByteArray.mk #[58]))++fD.1)++(ByteArray.mk #[35]))++gL.1,())))))))):=by kernel_rfl
def FI:Any:=.one ⟨Zu,ed,1,fun x=>xR F0 x.1⟩
theorem VL:bz 271 FI:=aA Zv ⟨sq,JM,trivial⟩ func271 ab (by kernel_rfl)
def aiX:=[(189,JK),(190,FH),(271,FI)]
abbrev aDM:List (Ty×Bool):=[(K4,true),(.bool,false)]
def X9 (s:ByteArray):=bJ aiX F ab f243 ed aDM 1 (s,())
theorem avX (s:ByteArray):X9 F s=(jg F0 s 62).bind fun o9=>(jg F0 o9.2.1 58).bind fun gL=>(jg F0 gL.2.1 35).bind fun VM=>(nY F0 o9.1).bind fun r35=>(nY F0 gL.1).bind fun r41=>(nY F0 VM.1).bind fun pN=>(nY F0 VM.2.1).bind fun Zw=>br (s.toList==al.toList) (some ((0,0,0,0),false,())) ((xR F0 (r35.1,r41.1,pN.1,Zw.1)).bind fun Ja=>br (!(Ja.1.toList==s.toList)) (some ((0,0,0,0),false,())) (some ((r35.1,r41.1,pN.1,Zw.1),true,()))):=by kernel_rfl
def Zx:Any:=.one ⟨ed,aDM,1,fun x=>X9 F0 x.1⟩
theorem avY:bz 243 Zx:=aA aiX ⟨Zt,VK,VL,trivial⟩ func243 ab (by kernel_rfl)
def HC:=[(188,JJ),(243,Zx)]
def HD:Nat->Option Hint:=look [(6,{live:=[4,5,6],xl:=[4],rl:=[2,3]})]
def yN (i:Int)(xs:List D4)(aQ:List ByteArray):= eD 37 [(4,.v (.c (.own 1000000 none))),(5,.v (.c (.own 1000001 none))),(6,bW i)] [] [aB 1000000 76 K4 xs,aB 1000001 9 (.str) aQ]
def VN (t3:Bool)(xs:List D4):= eD 37 [(2,.v (.c (.own 1000000 none))),(3,SK t3)] [] [aB 1000000 76 K4 xs]
def SQ (xs:List D4):= eD 37 [(4,.v (.c (.own 1000000 none)))] [] [aB 1000000 76 K4 xs]
def HE (st:St):Option U:=gQ HC F HD [.r,.r,.r,.r,.l,.r,.b,.i] f191 J n st
abbrev VO:List (Ty×Bool):=[(K5,false),(.bool,false)]
def yO:=jG HC F HD [.r,.r,.r,.r,.l,.r,.b] f191 VO 2
theorem L0 (i:Int)(xs:List D4)(aQ:List ByteArray):HE F J (n+1) (yN i xs aQ)=br (decide (i<(aQ.length:Int))) (ck (cr i (aQ.length:Int)) ((X9 F0 (aU aQ i ByteArray.empty)).bind fun uC=>br (!uC.2.1) (J .ret (VN false [])) (ck (fp F xs.length [uC.1].length 32) (HE F J n (yN (ak (i+1)) (xs++[uC.1]) aQ))))) (J (.exit 0) (SQ xs)):=by kernel_rfl
theorem akp (t3:Bool)(xs:List D4):yO F .ret (VN t3 xs)=some (xs,t3,()):=by kernel_rfl
theorem agf (xs:List D4):yO F (.exit 0) (SQ xs)=some (xs,true,()):=by kernel_rfl
def BL (s:ByteArray):=bJ HC F HD f191 ed VO 2 (s,())
theorem ar1 (s:ByteArray):BL F s=br (s.toList==al.toList) (some ([],true,())) ((xb F0 s 44).bind fun l6=>HE F (yO F) F.n (yN 0 [] l6.1)):=by kernel_rfl
def VP:Any:=.one ⟨ed,VO,2,fun x=>BL F0 x.1⟩
theorem ar2:bz 191 VP:=aA HC ⟨Zs,avY,trivial⟩ func191 HD (by kernel_rfl)
def HF:=[(188,JJ),(189,JK),(190,FH),(191,VP)]
def HG:Nat->Option Hint:=look [(10,{live:=[4,5,6,7,8],xl:=[5],rl:=[2,3]})]
def yP (JO i:Int)(xs aQ:List D6)(ba:List ByteArray):= eD 91 [(4,.v (.c (.own 1000000 none))),(5,.v (.c (.own 1000001 none))),(6,.v (.c (.own 1000002 none))),(7,bW JO),(8,bW i)] [] [aB 1000000 157 K6 xs,aB 1000001 157 K6 aQ,aB 1000002 9 (.str) ba]
def kj (t3:Bool)(xs:List D6):= eD 91 [(2,.v (.c (.own 1000000 none))),(3,SK t3)] [] [aB 1000000 157 K6 xs]
def SR (xs:List D6):= eD 91 [(5,.v (.c (.own 1000000 none)))] [] [aB 1000000 157 K6 xs]
def HH (st:St):Option U:=gQ HF F HG [.r,.r,.r,.r,.r,.r,.r,.l,.r,.b,.i] f132 J n st
abbrev atL:List (Ty×Bool):=[(K7,false),(.bool,false)]
def yQ:=jG HF F HG [.r,.r,.r,.r,.r,.r,.r,.l,.r,.b] f132 atL 2
theorem L3 (JO i:Int)(xs aQ:List D6)(ba:List ByteArray):HH F J (n+1) (yP JO i xs aQ ba)=br (decide (i<(ba.length:Int))) (ck (cr i (ba.length:Int)) ((jg F0 (aU ba i ByteArray.empty) 124).bind fun r44=>(nY F0 r44.1).bind fun Fw=>(BL F0 r44.2.1).bind fun r55=>br (!r44.2.2.1) (J .ret (kj false xs)) (br (!Fw.2.1) (J .ret (kj false xs)) (br (!r55.2.1) (J .ret (kj false xs)) (br (decide (Fw.1<=JO)) (J .ret (kj false xs)) (br (decide (Fw.1>60)) (J .ret (kj false xs)) (br (decide ((r55.1.length:Int)>2)) (J .ret (kj false xs)) (ck (fp F aQ.length [(Fw.1,r55.1)].length 32) (HH F J n (yP Fw.1 (ak (i+1)) xs (aQ++[(Fw.1,r55.1)]) ba)))))))))) (J (.exit 0) (SR aQ)):=by kernel_rfl
theorem SS (t3:Bool)(xs:List D6):yQ F .ret (kj t3 xs)=some (xs,t3,()):=by kernel_rfl
theorem agh (xs:List D6):yQ F (.exit 0) (SR xs)=some (xs,true,()):=by kernel_rfl
def q9 (s:ByteArray):=bJ HF F HG f132 ed atL 2 (s,())
theorem ar3 (s:ByteArray):q9 F s=br (s.toList==al.toList) (some ([],true,())) ((xb F0 s 47).bind fun gL=>ck (cr 0 (gL.1.length:Int)) (br (!((aU gL.1 0 ByteArray.empty).toList==al.toList)) (some ([],false,())) (br (decide ((gL.1.length:Int)>31)) (some ([],false,())) (HH F (yQ F) F.n (yP 0 1 [] [] gL.1))))):=by kernel_rfl
def ra:Any:=.one ⟨ed,atL,2,fun x=>q9 F0 x.1⟩
theorem CY:bz 132 ra:=aA HF ⟨Zs,Zt,VK,ar2,trivial⟩ func132 HG (by kernel_rfl)
def Zy:=[(132,ra)]
def fL (s:ByteArray):=bJ Zy F ab f77 ed bd 1 (s,())
theorem anO (s:ByteArray):fL F s=(q9 F0 s).bind fun r7=>some (r7.2.1,()):=by kernel_rfl
def fG:Any:=.one ⟨ed,bd,1,fun x=>fL F0 x.1⟩
theorem iF:bz 77 fG:=aA Zy ⟨CY,trivial⟩ func77 ab (by kernel_rfl)
def Zz:=[(132,ra)]
def ep (s:ByteArray):=bJ Zz F ab f78 ed dK 1 (s,())
theorem anP (s:ByteArray):ep F s=(q9 F0 s).bind fun r7=>br (!r7.2.1) (some (0,())) (br ((r7.1.length:Int)==0) (some (0,())) (ck (cr (ak ((r7.1.length:Int)-1)) (r7.1.length:Int)) (some ((aU r7.1 (ak ((r7.1.length:Int)-1)) (0,[])).1,())))):=by kernel_rfl
def ee:Any:=.one ⟨ed,dK,1,fun x=>ep F0 x.1⟩
theorem fx:bz 78 ee:=aA Zz ⟨CY,trivial⟩ func78 ab (by kernel_rfl)
def HI:Nat->Option Hint:=look [(2,{live:=[0,1,5],rl:=[4]})]
def rb (n1:Int)(s:List Int)(i:Int):= cV 41 [(0,bW n1),(1,j9 3 (.int .i64) s),(5,bW i)]
def yR (t4:Bool):= cV 41 [(4,SK t4)]
def SU   := cV 41 []
def yS (st:St):Option U:=gQ aF F HI [.r,.l,.r,.b,.i] f74 J n st
def yT:=jG aF F HI [.r,.l,.r,.b] f74 bd 1
theorem L4 (n1:Int)(s:List Int)(i:Int):yS F J (n+1) (rb n1 s i)=br (decide (i<(s.length:Int))) (ck (cr i (s.length:Int)) (br (decide ((aU s i 0)<0)) (J .ret (yR false)) (ck (cr i (s.length:Int)) (br (decide ((aU s i 0)>=n1)) (J .ret (yR false)) (br (decide (i>0)) (ck (cr (ak (i-1)) (s.length:Int)) (ck (cr i (s.length:Int)) (br (decide ((aU s (ak (i-1)) 0)>=(aU s i 0))) (J .ret (yR false)) (yS F J n (rb n1 s (ak (i+1))))))) (yS F J n (rb n1 s (ak (i+1))))))))) (J (.exit 0) (SU)):=by kernel_rfl
theorem akq (t4:Bool):yT F .ret (yR t4)=some (t4,()):=by kernel_rfl
theorem agi: yT F (.exit 0) (SU)=some (true,()):=by kernel_rfl
abbrev aDN:List (Ty×Bool):=[(.int .i64,false),(.sl 3 (.int .i64),false)]
def BM (n1:Int)(s:List Int):=bJ aF F HI f74 aDN bd 1 (n1,s,())
theorem ar4 (n1:Int)(s:List Int):BM F n1 s=yS F (yT F) F.n (rb n1 s 0):=by kernel_rfl
def yU:Any:=.one ⟨aDN,bd,1,fun x=>BM F0 x.1 x.2.1⟩
theorem Ot:bz 74 yU:=aA aF trivial func74 HI (by kernel_rfl)
def ZA:=[(35,dh)]
def xS (c:D1):=bJ ZA F ab f108 SN dK 1 (c,())
theorem anQ (c:D1):xS F c=(eJ F0 c).bind fun r4=>br (!r4.1) (some (0,())) (some (ak (c.1-(ak (Int.tdiv (ak (c.1-1)) 3))),())):=by kernel_rfl
def vh:Any:=.one ⟨SN,dK,1,fun x=>xS F0 x.1⟩
theorem JP:bz 108 vh:=aA ZA ⟨ec,trivial⟩ func108 ab (by kernel_rfl)
def aiZ:=[(35,dh),(74,yU),(77,fG),(78,ee),(108,vh)]
abbrev Gx:List (Ty×Bool):=[(K1,true),(K9,true)]
def kN (c:D1)(q:D9):=bJ aiZ F ab f115 Gx bd 1 (c,q,())
theorem avZ (c:D1)(q:D9):kN F c q=(eJ F0 c).bind fun r6=>br (!r6.1) (some (false,())) ((fL F0 q.2.1).bind fun dB=>br (!dB.1) (some (false,())) ((ep F0 q.2.1).bind fun fD=>br (fD.1 != q.1) (some (false,())) (br (q.2.1.toList==al.toList) (some ((q.2.2.length:Int)==0,())) ((BM F0 c.1 q.2.2).bind fun uD=>br uD.1 ((xS F0 c).bind fun Re=>some (decide ((q.2.2.length:Int)>=Re.1),())) (some (false,())))))):=by kernel_rfl
def ig:Any:=.one ⟨Gx,bd,1,fun x=>kN F0 x.1 x.2.1⟩
theorem ll:bz 115 ig:=aA aiZ ⟨ec,Ot,iF,fx,JP,trivial⟩ func115 ab (by kernel_rfl)
def ZB:=[(72,cK),(77,fG),(115,ig)]
abbrev SV:List (Ty×Bool):=[(K1,true),(K12,true)]
def jS (c:D1)(s:UF):=bJ ZB F ab f123 SV bd 1 (c,s,())
theorem anR (c:D1)(s:UF):jS F c s=(cg F0 s.1 0 60).bind fun r7=>br r7.1 ((cg F0 s.2.1 0 60).bind fun dB=>br dB.1 ((kN F0 c s.2.2.1).bind fun fD=>br fD.1 ((fL F0 s.2.2.2).bind fun gL=>some (gL.1,())) (some (false,()))) (some (false,()))) (some (false,())):=by kernel_rfl
def jh:Any:=.one ⟨SV,bd,1,fun x=>jS F0 x.1 x.2.1⟩
theorem mI:bz 123 jh:=aA ZB ⟨dq,iF,ll,trivial⟩ func123 ab (by kernel_rfl)
abbrev aDO:List (Ty×Bool):=[(K4,true),(K4,true)]
def uH (a b:D4):=bJ aF F ab f182 aDO bd 1 (a,b,())
theorem agj (a b:D4):uH F a b=br (decide (a.1<b.1)) (some (true,())) (br (a.1==b.1) (some (decide (a.2.2.2<b.2.2.2),())) (some (false,()))):=by kernel_rfl
def yV:Any:=.one ⟨aDO,bd,1,fun x=>uH F0 x.1 x.2.1⟩
theorem Pd:bz 182 yV:=aA aF trivial func182 ab (by kernel_rfl)
def CZ:=[(181,l7),(182,yV)]
def C0:Nat->Option Hint:=look [(2,{live:=[0,3],xl:=[0],rl:=[2]})]
def pj (p:List D4)(i:Int):= cV 36 [(0,j9 76 (K4) p),(3,bW i)]
def FJ (t2:Bool):= cV 36 [(2,SK t2)]
def Pe (p:List D4):= cV 36 [(0,j9 76 (K4) p)]
def uI (st:St):Option U:=gQ CZ F C0 [.r,.l,.r,.b,.i] f124 J n st
def vi:=jG CZ F C0 [.r,.l,.r,.b] f124 bd 1
theorem JQ (p:List D4)(i:Int):uI F J (n+1) (pj p i)=br (decide (i<(p.length:Int))) (ck (cr i (p.length:Int)) ((so F0 (aU p i K4.aG)).bind fun l6=>br (!l6.1) (J .ret (FJ false)) (br (decide (i>0)) (ck (cr (ak (i-1)) (p.length:Int)) (ck (cr i (p.length:Int)) ((uH F0 (aU p (ak (i-1)) K4.aG) (aU p i K4.aG)).bind fun UG=>br (!UG.1) (J .ret (FJ false)) (uI F J n (pj p (ak (i+1))))))) (uI F J n (pj p (ak (i+1))))))) (J (.exit 0) (Pe p)):=by kernel_rfl
theorem agk (t2:Bool):vi F .ret (FJ t2)=some (t2,()):=by kernel_rfl
theorem adr (p:List D4):vi F (.exit 0) (Pe p)=some (decide ((p.length:Int)<=12),()):=by kernel_rfl
abbrev kF:List (Ty×Bool):=[(K5,false)]
def EI (p:D5):=bJ CZ F C0 f124 kF bd 1 (p,())
theorem anS (p:D5):EI F p=uI F (vi F) F.n (pj p 0):=by kernel_rfl
def FK:Any:=.one ⟨kF,bd,1,fun x=>EI F0 x.1⟩
theorem VQ:bz 124 FK:=aA CZ ⟨sq,Pd,trivial⟩ func124 C0 (by kernel_rfl)
def ZC:=[(35,dh),(72,cK),(74,yU),(77,fG),(78,ee)]
def lq (c:D1)(p:D9):=bJ ZC F ab f183 Gx bd 1 (c,p,())
theorem anT (c:D1)(p:D9):lq F c p=(eJ F0 c).bind fun r6=>br (!r6.1) (some (false,())) ((cg F0 p.1 1 60).bind fun dB=>br (!dB.1) (some (false,())) ((BM F0 c.1 p.2.2).bind fun dW=>br (!dW.1) (some (false,())) (br ((p.2.2.length:Int)==0) (some (false,())) (br (p.2.1.toList==al.toList) (some (true,())) ((fL F0 p.2.1).bind fun qR=>br qR.1 ((ep F0 p.2.1).bind fun UQ=>some (UQ.1==p.1,())) (some (false,()))))))):=by kernel_rfl
def po:Any:=.one ⟨Gx,bd,1,fun x=>lq F0 x.1 x.2.1⟩
theorem yW:bz 183 po:=aA ZC ⟨ec,dq,Ot,iF,fx,trivial⟩ func183 ab (by kernel_rfl)
abbrev xT:List (Ty×Bool):=[(K9,true),(K9,true)]
def re (a b:D9):=bJ aF F ab f184 xT bd 1 (a,b,())
theorem ads (a b:D9):re F a b=br (decide (a.1<b.1)) (some (true,())) (br (a.1==b.1) (some (Op.bytesLess a.2.1.toList b.2.1.toList,())) (some (false,()))):=by kernel_rfl
def xc:Any:=.one ⟨xT,bd,1,fun x=>re F0 x.1 x.2.1⟩
theorem L5:bz 184 xc:=aA aF trivial func184 ab (by kernel_rfl)
def yX:=[(183,po),(184,xc)]
def yY:Nat->Option Hint:=look [(2,{live:=[1,2,5],xl:=[1],rl:=[4]})]
def mJ (list:List D9)(i c c1:Int):= eD 39 [(1,j9 74 (K9) list),cW 2,(5,bW i)] [(2,[aq c,aq c1])] []
def BN (t4:Bool):= cV 39 [(4,SK t4)]
def L6 (list:List D9):= cV 39 [(1,j9 74 (K9) list)]
def rf (st:St):Option U:=gQ yX F yY [.r,.l,.r,.b,.i] f125 J n st
def sr:=jG yX F yY [.r,.l,.r,.b] f125 bd 1
theorem Gy (list:List D9)(i c c1:Int):rf F J (n+1) (mJ list i c c1)=br (decide (i<(list.length:Int))) (ck (cr i (list.length:Int)) ((lq F0 (c,c1) (aU list i K9.aG)).bind fun fD=>br (!fD.1) (J .ret (BN false)) (br (decide (i>0)) (ck (cr (ak (i-1)) (list.length:Int)) (ck (cr i (list.length:Int)) ((re F0 (aU list (ak (i-1)) K9.aG) (aU list i K9.aG)).bind fun HJ=>br (!HJ.1) (J .ret (BN false)) (rf F J n (mJ list (ak (i+1)) c c1))))) (rf F J n (mJ list (ak (i+1)) c c1))))) (J (.exit 0) (L6 list)):=by kernel_rfl
theorem adt (t4:Bool):sr F .ret (BN t4)=some (t4,()):=by kernel_rfl
theorem abp (list:List D9):sr F (.exit 0) (L6 list)=some (decide ((list.length:Int)<=20),()):=by kernel_rfl
abbrev aDP:List (Ty×Bool):=[(K1,true),(K13,false)]
def ot (c:D1)(list:D13):=bJ yX F yY f125 aDP bd 1 (c,list,())
theorem akr (c:D1)(list:D13):ot F c list=rf F (sr F) F.n (mJ list 0 c.1 c.2):=by kernel_rfl
def BO:Any:=.one ⟨aDP,bd,1,fun x=>ot F0 x.1 x.2.1⟩
theorem SW:bz 125 BO:=aA yX ⟨yW,L5,trivial⟩ func125 yY (by kernel_rfl)
def ZD:=[(72,cK)]
abbrev qf:List (Ty×Bool):=[(K14,true)]
def nZ (d:D14):=bJ ZD F ab f126 qf bd 1 (d,())
theorem anU (d:D14):nZ F d=br (decide ((d.1.length:Int)<=100000)) ((cg F0 d.2 0 (d.1.length:Int)).bind fun cp=>some (cp.1,())) (some (false,())):=by kernel_rfl
def pq:Any:=.one ⟨qf,bd,1,fun x=>nZ F0 x.1⟩
theorem yZ:bz 126 pq:=aA ZD ⟨dq,trivial⟩ func126 ab (by kernel_rfl)
def C1:Nat->Option Hint:=look [(2,{live:=[0,1,5],xl:=[0,1],rl:=[4]})]
def vj (a b:List Int)(i:Int):= cV 32 [(0,j9 3 (.int .i64) a),(1,j9 3 (.int .i64) b),(5,bW i)]
def SX (t4:Bool):= cV 32 [(4,SK t4)]
def BP (a b:List Int):= cV 32 [(0,j9 3 (.int .i64) a),(1,j9 3 (.int .i64) b)]
def C2 (st:St):Option U:=gQ aF F C1 [.r,.l,.r,.b,.i] f328 J n st
def vk:=jG aF F C1 [.r,.l,.r,.b] f328 bd 1
theorem JR (a b:List Int)(i:Int):C2 F J (n+1) (vj a b i)=br (decide (i<(a.length:Int))) (br (decide (i<(b.length:Int))) (ck (cr i (a.length:Int)) (ck (cr i (b.length:Int)) (br ((aU a i 0) != (aU b i 0)) (J .ret (SX false)) (C2 F J n (vj a b (ak (i+1))))))) (J (.exit 0) (BP a b))) (J (.exit 0) (BP a b)):=by kernel_rfl
theorem agl (t4:Bool):vk F .ret (SX t4)=some (t4,()):=by kernel_rfl
theorem adu (a b:List Int):vk F (.exit 0) (BP a b)=some ((a.length:Int)==(b.length:Int),()):=by kernel_rfl
abbrev aks:List (Ty×Bool):=[(.sl 3 (.int .i64),false),(.sl 3 (.int .i64),false)]
def EJ (a b:List Int):=bJ aF F C1 f328 aks bd 1 (a,b,())
theorem anV (a b:List Int):EJ F a b=C2 F (vk F) F.n (vj a b 0):=by kernel_rfl
def FL:Any:=.one ⟨aks,bd,1,fun x=>EJ F0 x.1 x.2.1⟩
theorem VR:bz 328 FL:=aA aF trivial func328 C1 (by kernel_rfl)
def ZE:=[(328,FL)]
def xU (a b:D9):=bJ ZE F ab f293 xT bd 1 (a,b,())
theorem anW (a b:D9):xU F a b=br (a.1==b.1) (br (a.2.1.toList==b.2.1.toList) ((EJ F0 a.2.2 b.2.2).bind fun gL=>some (gL.1,())) (some (false,()))) (some (false,())):=by kernel_rfl
def vl:Any:=.one ⟨xT,bd,1,fun x=>xU F0 x.1 x.2.1⟩
theorem JS:bz 293 vl:=aA ZE ⟨VR,trivial⟩ func293 ab (by kernel_rfl)
def Pf:=[(293,vl)]
abbrev aDQ:List (Ty×Bool):=[(K15,true),(K15,true)]
def y3 (a b:D15):=bJ Pf F ab f291 aDQ bd 1 (a,b,())
theorem adv (a b:D15):y3 F a b=br (a.1.toList==b.1.toList) ((xU F0 a.2 b.2).bind fun pa=>some (pa.1,())) (some (false,())):=by kernel_rfl
def JT:Any:=.one ⟨aDQ,bd,1,fun x=>y3 F0 x.1 x.2.1⟩
theorem adw:bz 291 JT:=aA Pf ⟨JS,trivial⟩ func291 ab (by kernel_rfl)
def VS:=[(328,FL)]
def HK (a b:D9):=bJ VS F ab f292 xT bd 1 (a,b,())
theorem akt (a b:D9):HK F a b=br (a.1==b.1) (br (a.2.1.toList==b.2.1.toList) ((EJ F0 a.2.2 b.2.2).bind fun gL=>some (gL.1,())) (some (false,()))) (some (false,())):=by kernel_rfl
def Pg:Any:=.one ⟨xT,bd,1,fun x=>HK F0 x.1 x.2.1⟩
theorem aku:bz 292 Pg:=aA VS ⟨VR,trivial⟩ func292 ab (by kernel_rfl)
end
end Go.Am.Tryz
namespace Go.Am.Tryz
open Go.Am Go.Proofs Go.Proofs.Tryz
noncomputable section
variable {U:Type} (F:sd) (J:Ex->St->Option U) (n:Nat)
def VT:=[(291,JT),(292,Pg),(293,vl)]
abbrev aDR:List (Ty×Bool):=[(K21,true),(K21,true)]
def lr (a b:Oo):=bJ VT F ab f242 aDR bd 1 (a,b,())
theorem akv (a b:Oo):lr F a b=br (a.1==b.1) (br (a.2.1==b.2.1) ((y3 F0 a.2.2.1 b.2.2.1).bind fun gL=>br gL.1 ((HK F0 a.2.2.2.1 b.2.2.2.1).bind fun UG=>br UG.1 ((xU F0 a.2.2.2.2.1 b.2.2.2.2.1).bind fun r36=>br r36.1 (br (a.2.2.2.2.2.1==b.2.2.2.2.2.1) (some ((a.2.2.2.2.2.2.1==b.2.2.2.2.2.2.1)&&((a.2.2.2.2.2.2.2.1==b.2.2.2.2.2.2.2.1)&&((a.2.2.2.2.2.2.2.2.1==b.2.2.2.2.2.2.2.2.1)&&((a.2.2.2.2.2.2.2.2.2==b.2.2.2.2.2.2.2.2.2)&&true))),())) (some (false,()))) (some (false,()))) (some (false,()))) (some (false,()))) (some (false,()))) (some (false,())):=by kernel_rfl
def Ph:Any:=.one ⟨aDR,bd,1,fun x=>lr F0 x.1 x.2.1⟩
theorem akw:bz 242 Ph:=aA VT ⟨adw,aku,JS,trivial⟩ func242 ab (by kernel_rfl)
def VU:=[(242,Ph)]
abbrev xV:List (Ty×Bool):=[(K21,true)]
def HL (m:Oo):=bJ VU F ab f185 xV bd 1 (m,())
theorem akx (m:Oo):HL F m=br (m.1==1) ((lr F0 (m.1,0,m.2.2.1,(0,al,[]),(0,al,[]),0,0,0,0,0) m).bind fun HM=>some (HM.1,())) (br (m.1==2) ((lr F0 (m.1,0,(al,0,al,[]),m.2.2.2.1,(0,al,[]),0,0,0,0,0) m).bind fun HM=>some (HM.1,())) (br (m.1==3) ((lr F0 (m.1,m.2.1,(al,0,al,[]),(0,al,[]),m.2.2.2.2.1,m.2.2.2.2.2.1,0,0,0,0) m).bind fun HM=>some (HM.1,())) (br (m.1==4) ((lr F0 (m.1,0,(al,0,al,[]),(0,al,[]),(0,al,[]),0,m.2.2.2.2.2.2) m).bind fun HM=>some (HM.1,())) ((lr F0 (m.1,0,(al,0,al,[]),(0,al,[]),(0,al,[]),0,0,0,0,0) m).bind fun HM=>some (HM.1,()))))):=by kernel_rfl
def Pj:Any:=.one ⟨xV,bd,1,fun x=>HL F0 x.1⟩
theorem aky:bz 185 Pj:=aA VU ⟨akw,trivial⟩ func185 ab (by kernel_rfl)
abbrev atM:List (Ty×Bool):=[(.int .i64,false),(.int .i64,false)]
def eK (a b:Int):=bJ aF F ab f60 atM dK 1 (a,b,())
theorem ZF (a b:Int):eK F a b=br (decide (a>b)) (some (a,())) (some (b,())):=by kernel_rfl
def iG:Any:=.one ⟨atM,dK,1,fun x=>eK F0 x.1 x.2.1⟩
theorem l8:bz 60 iG:=aA aF trivial func60 ab (by kernel_rfl)
def L7:=[(60,iG),(77,fG)]
def L8:Nat->Option Hint:=look [(4,{live:=[0,3],xl:=[0,3],rl:=[2]})]
def C3 (s:ByteArray)(k:Int):= cV 25 [(0,UP s),(3,bW k)]
def y4 (s:ByteArray)(k:Int):= cV 25 [(0,UP s),(3,bW k)]
def L9 (st:St):Option U:=gQ L7 F L8 [.r,.r,.r,.l,.b,.i] f170 J n st
def ZG:=jG L7 F L8 [.r,.r,.r,.l,.b] f170 ed 1
theorem Pk (s:ByteArray)(k:Int):L9 F J (n+1) (C3 s k)=br (decide (k>0)) (ck (cr (ak (k-1)) (s.size:Int)) (br ((kc s (ak (k-1))) != 47) (L9 F J n (C3 s (ak (k-1)))) (J (.exit 0) (y4 s k)))) (J (.exit 0) (y4 s k)):=by kernel_rfl
theorem akz (s:ByteArray)(k:Int):ZG F (.exit 0) (y4 s k)=(eK F0 (ak (k-1)) 0).bind fun sw=>ck (SJ 0 sw.1 (s.size:Int)) (some (s.extract (0:Int).toNat sw.1.toNat,())):=by kernel_rfl
def ai0 (s:ByteArray):=bJ L7 F L8 f170 ed ed 1 (s,())
theorem adx:∃f,f= @ai0:=⟨_,rfl⟩
def mK:=Classical.choose adx
theorem ZH: @mK= @ai0:=Classical.choose_spec adx
theorem av0 (s:ByteArray):mK F s=(fL F0 s).bind fun r5=>br (!r5.1) (some (al,())) (L9 F (ZG F) F.n (C3 s (s.size:Int))):=by rw[ZH];kernel_rfl
def uJ:Any:=.one ⟨ed,ed,1,fun x=>mK F0 x.1⟩
theorem HN:bz 170 uJ:=ok1 (show yF Tryz.prog TB L7 from⟨l8,iF,trivial⟩) func170 (by kernel_rfl) (by kernel_rfl) L8 (by rw[ZH];kernel_rfl)
def VV:=[(77,fG),(115,ig),(170,uJ)]
abbrev aDS:List (Ty×Bool):=[(K1,true),(K15,true)]
def ou (c:D1)(b:D15):=bJ VV F ab f169 aDS bd 1 (c,b,())
theorem akA (c:D1)(b:D15):ou F c b=(kN F0 c b.2).bind fun r8=>br r8.1 ((fL F0 b.1).bind fun cP=>br cP.1 (br (!(b.1.toList==al.toList)) ((mK F0 b.1).bind fun gL=>some (gL.1.toList==b.2.2.1.toList,())) (some (false,()))) (some (false,()))) (some (false,())):=by kernel_rfl
def mL:Any:=.one ⟨aDS,bd,1,fun x=>ou F0 x.1 x.2.1⟩
theorem vm:bz 169 mL:=aA VV ⟨iF,ll,HN,trivial⟩ func169 ab (by kernel_rfl)
def ady:=[(35,dh),(72,cK),(115,ig),(169,mL),(181,l7),(183,po),(185,Pj)]
abbrev ai1:List (Ty×Bool):=[(K1,true),(K21,true)]
def gd (c:D1)(m:Oo):=bJ ady F ab f127 ai1 bd 1 (c,m,())
theorem ar5 (c:D1)(m:Oo):gd F c m=(eJ F0 c).bind fun r6=>br (!r6.1) (some (false,())) ((HL F0 m).bind fun ij=>br (!ij.1) (some (false,())) (br (m.1==1) ((ou F0 c m.2.2.1).bind fun EH=>some (EH.1,())) (br (m.1==2) ((lq F0 c m.2.2.2.1).bind fun uC=>br uC.1 (some (!(m.2.2.2.1.2.1.toList==al.toList),())) (some (false,()))) (br (m.1==3) ((cg F0 m.2.1 1 60).bind fun HM=>br HM.1 ((kN F0 c m.2.2.2.2.1).bind fun r42=>br r42.1 ((cg F0 m.2.2.2.2.2.1 0 (ak (c.1-1))).bind fun Fw=>some (Fw.1,())) (some (false,()))) (some (false,()))) (br (m.1==4) ((so F0 m.2.2.2.2.2.2).bind fun r56=>some (r56.1,())) (some (false,()))))))):=by kernel_rfl
def kl:Any:=.one ⟨ai1,bd,1,fun x=>gd F0 x.1 x.2.1⟩
theorem pO:bz 127 kl:=aA ady ⟨ec,dq,ll,vm,sq,yW,aky,trivial⟩ func127 ab (by kernel_rfl)
def HO:=[(35,dh),(72,cK),(123,jh),(124,FK),(125,BO),(126,pq),(127,kl)]
def HP:Nat->Option Hint:=look [(4,{live:=[2,3,5],rl:=[4]})]
def y5 (i c c1 r r1 r2 r3 r4 r5:Int)(r6:ByteArray)(r7:List Int)(r8:ByteArray)(r9:List D4)(ij:List D9)(dB:List Int)(cP:Int)(cp:List l5):= eD 102 [cW 2,cW 3,(5,bW i)] [(2,[aq c,aq c1]),(3,[aq r,aq r1,aq r2,aq r3,aq r4,aq r5,.str r6,.ro false 3 (.int .i64) r7,.str r8,.ro false 76 (K4) r9,.ro false 74 (K9) ij,.ro false 5 (.int .u8) dB,aq cP,.ro false 146 (qT) cp])] []
def y6 (t4:Bool):= cV 102 [(4,SK t4)]
def SY   := cV 102 []
def HQ (st:St):Option U:=gQ HO F HP [.r,.r,.l,.r,.b,.i] f73 J n st
def y7:=jG HO F HP [.r,.r,.l,.r,.b] f73 bd 1
theorem Ma (i c c1 r r1 r2 r3 r4 r5:Int)(r6:ByteArray)(r7:List Int)(r8:ByteArray)(r9:List D4)(ij:List D9)(dB:List Int)(cP:Int)(cp:List l5):HQ F J (n+1) (y5 i c c1 r r1 r2 r3 r4 r5 r6 r7 r8 r9 ij dB cP cp)=br (decide (i<(cp.length:Int))) (ck (cr i (cp.length:Int)) ((gd F0 (c,c1) (aU cp i qT.aG).2).bind fun r76=>br (!r76.1) (J .ret (y6 false)) (ck (cr i (cp.length:Int)) ((cg F0 (aU cp i qT.aG).1 0 (ak (c-1))).bind fun r88=>br (!r88.1) (J .ret (y6 false)) (ck (cr i (cp.length:Int)) (br ((aU cp i qT.aG).1==r) (J .ret (y6 false)) (HQ F J n (y5 (ak (i+1)) c c1 r r1 r2 r3 r4 r5 r6 r7 r8 r9 ij dB cP cp)))))))) (J (.exit 0) (SY)):=by kernel_rfl
theorem akB (t4:Bool):y7 F .ret (y6 t4)=some (t4,()):=by kernel_rfl
theorem agm: y7 F (.exit 0) (SY)=some (true,()):=by kernel_rfl
abbrev Bf:List (Ty×Bool):=[(K1,true),(di,true)]
def ez (c:D1)(r:bD):=bJ HO F HP f73 Bf bd 1 (c,r,())
theorem ar6 (c:D1)(r:bD):ez F c r=(eJ F0 c).bind fun r7=>br (!r7.1) (some (false,())) ((cg F0 r.1 0 (ak (c.1-1))).bind fun pa=>br (!pa.1) (some (false,())) ((cg F0 r.2.1 1 60).bind fun ia=>br (!ia.1) (some (false,())) ((cg F0 r.2.2.1 0 60).bind fun Bg=>br (!Bg.1) (some (false,())) ((jS F0 c r.2.2.2.1).bind fun qR=>br (!qR.1) (some (false,())) ((EI F0 r.2.2.2.2.1).bind fun xW=>br (!xW.1) (some (false,())) ((ot F0 c r.2.2.2.2.2.1).bind fun pN=>br (!pN.1) (some (false,())) ((nZ F0 r.2.2.2.2.2.2.1).bind fun Zw=>br (!Zw.1) (some (false,())) (br (decide ((r.2.2.2.2.2.2.2.length:Int)>30)) (some (false,())) (HQ F (y7 F) F.n (y5 0 c.1 c.2 r.1 r.2.1 r.2.2.1 r.2.2.2.1.1 r.2.2.2.1.2.1 r.2.2.2.1.2.2.1.1 r.2.2.2.1.2.2.1.2.1 r.2.2.2.1.2.2.1.2.2 r.2.2.2.1.2.2.2 r.2.2.2.2.1 r.2.2.2.2.2.1 r.2.2.2.2.2.2.1.1 r.2.2.2.2.2.2.1.2 r.2.2.2.2.2.2.2)))))))))):=by kernel_rfl
def c9:Any:=.one ⟨Bf,bd,1,fun x=>ez F0 x.1 x.2.1⟩
theorem dH:bz 73 c9:=aA HO ⟨ec,dq,mI,VQ,SW,yZ,pO,trivial⟩ func73 HP (by kernel_rfl)
def ZI:=[(73,c9)]
abbrev ai2:List (Ty×Bool):=[(K1,true),(.int .i64,false)]
abbrev ik:List (Ty×Bool):=[(di,true),(.bool,false)]
def Mb (c:D1)(id:Int):=bJ ZI F ab f36 ai2 ik 2 (c,id,())
theorem anX (c:D1)(id:Int):Mb F c id=(ez F0 c (id,1,0,(0,0,(0,al,[]),al),[],[],([],0),[])).bind fun dB=>br (!dB.1) (some ((0,0,0,(0,0,(0,al,[]),al),[],[],([],0),[]),false,())) (some ((id,1,0,(0,0,(0,al,[]),al),[],[],([],0),[]),true,())):=by kernel_rfl
def SZ:Any:=.one ⟨ai2,ik,2,fun x=>Mb F0 x.1 x.2.1⟩
theorem anY:bz 36 SZ:=aA ZI ⟨dH,trivial⟩ func36 ab (by kernel_rfl)
def ZJ:=[(35,dh)]
def Mc (c:D1):=bJ ZJ F ab f75 SN dK 1 (c,())
theorem anZ (c:D1):Mc F c=(eJ F0 c).bind fun r4=>br (!r4.1) (some (0,())) (some (ak (Int.tdiv (ak (c.1-1)) 3),())):=by kernel_rfl
def S1:Any:=.one ⟨SN,dK,1,fun x=>Mc F0 x.1⟩
theorem an0:bz 75 S1:=aA ZJ ⟨ec,trivial⟩ func75 ab (by kernel_rfl)
def C4:Nat->Option Hint:=look [(3,{live:=[0,1,7,8],rl:=[4,5,6]})]
def vn (b:List Int)(iW n1 k:Int):= cV 55 [(0,j9 5 (.int .u8) b),(1,bW iW),(7,bW n1),(8,bW k)]
def gD (t4 t5:Int)(t6:Bool):= cV 55 [(4,bW t4),(5,bW t5),(6,SK t6)]
def Pl   := cV 55 []
def C5 (st:St):Option U:=gQ aF F C4 [.r,.r,.l,.r,.b,.i] f186 J n st
abbrev atN:List (Ty×Bool):=[(.int .i64,false),(.int .i64,false),(.bool,false)]
def vo:=jG aF F C4 [.r,.r,.l,.r,.b] f186 atN 1
theorem JU (b:List Int)(iW n1 k:Int):C5 F J (n+1) (vn b iW n1 k)=br (decide (k<5)) (br (decide (iW<0)) (J .ret (gD 0 0 false)) (br (decide (iW>=(ak ((b.length:Int)-k)))) (J .ret (gD 0 0 false)) (ck (cr (ak (iW+k)) (b.length:Int)) (ck (decide (0<=(ak (7*k)))) (br (decide ((ak (aU b (ak (iW+k)) 0))<128)) (br (decide (k>0)) (br ((ak (aU b (ak (iW+k)) 0))==0) (J .ret (gD 0 0 false)) (br (decide ((ak (((BitVec.ofInt 64 n1 ||| BitVec.ofInt 64 (ak ((Int.tmod (ak (aU b (ak (iW+k)) 0)) 128)*2 ^ (min (ak (7*k)).toNat 64)))).toNat:Int)))>2147483647)) (J .ret (gD 0 0 false)) (J .ret (gD (ak (((BitVec.ofInt 64 n1 ||| BitVec.ofInt 64 (ak ((Int.tmod (ak (aU b (ak (iW+k)) 0)) 128)*2 ^ (min (ak (7*k)).toNat 64)))).toNat:Int))) (ak ((ak (iW+k))+1)) true)))) (br (decide ((ak (((BitVec.ofInt 64 n1 ||| BitVec.ofInt 64 (ak ((Int.tmod (ak (aU b (ak (iW+k)) 0)) 128)*2 ^ (min (ak (7*k)).toNat 64)))).toNat:Int)))>2147483647)) (J .ret (gD 0 0 false)) (J .ret (gD (ak (((BitVec.ofInt 64 n1 ||| BitVec.ofInt 64 (ak ((Int.tmod (ak (aU b (ak (iW+k)) 0)) 128)*2 ^ (min (ak (7*k)).toNat 64)))).toNat:Int))) (ak ((ak (iW+k))+1)) true)))) (C5 F J n (vn b iW (ak (((BitVec.ofInt 64 n1 ||| BitVec.ofInt 64 (ak ((Int.tmod (ak (aU b (ak (iW+k)) 0)) 128)*2 ^ (min (ak (7*k)).toNat 64)))).toNat:Int))) (ak (k+1))))))))) (J (.exit 0) (Pl)):=by kernel_rfl
theorem BQ (t4 t5:Int)(t6:Bool):vo F .ret (gD t4 t5 t6)=some (t4,t5,t6,()):=by kernel_rfl
theorem adz: vo F (.exit 0) (Pl)=some (0,0,false,()):=by kernel_rfl
abbrev ai3:List (Ty×Bool):=[(.sl 5 (.int .u8),false),(.int .i64,false)]
def lv (b:List Int)(iW:Int):=bJ aF F C4 f186 ai3 atN 1 (b,iW,())
theorem an1 (b:List Int)(iW:Int):lv F b iW=C5 F (vo F) F.n (vn b iW 0 0):=by kernel_rfl
def vp:Any:=.one ⟨ai3,atN,1,fun x=>lv F0 x.1 x.2.1⟩
theorem JV:bz 186 vp:=aA aF trivial func186 C4 (by kernel_rfl)
def ZK:=[(186,vp)]
abbrev iX:List (Ty×Bool):=[(K32,true)]
def dw (c:D32):=EG ZK F ab f128 iX 0 .cur dK iX 1 (c,())
theorem an2 (c:D32):dw F c=(lv F0 c.1 c.2.1).bind fun pa=>br (!pa.2.2.1) (some ((0,()),(c.1,c.2.1,false),())) (br (!c.2.2) (some ((0,()),(c.1,c.2.1,false),())) (some ((pa.1,()),(c.1,pa.2.1,c.2.2),()))):=by kernel_rfl
def pr:Any:=.two ⟨iX,0,.cur,dK,1,iX,fun x=>dw F0 x.1⟩
theorem y8:bz 128 pr:=VG ZK ⟨JV,trivial⟩ func128 ab (by kernel_rfl)
def VW:=[(186,vp)]
abbrev aDT:List (Ty×Bool):=[(.str,false),(.int .i64,false),(.bool,false)]
def HR (b:List Int)(iW:Int):=bJ VW F ab f187 ai3 aDT 1 (b,iW,())
theorem akC (b:List Int)(iW:Int):HR F b iW=(lv F0 b iW).bind fun cp=>br (!cp.2.2.1) (some (al,0,false,())) (br (decide (cp.1>(ak ((b.length:Int)-cp.2.1)))) (some (al,0,false,())) (ck (SJ cp.2.1 (ak (cp.2.1+cp.1)) (b.length:Int)) (some (strOf ((b.take (ak (cp.2.1+cp.1)).toNat).drop cp.2.1.toNat),ak (cp.2.1+cp.1),true,())))):=by kernel_rfl
def Pm:Any:=.one ⟨ai3,aDT,1,fun x=>HR F0 x.1 x.2.1⟩
theorem akD:bz 187 Pm:=aA VW ⟨JV,trivial⟩ func187 ab (by kernel_rfl)
def VX:=[(187,Pm)]
def ov (c:D32):=EG VX F ab f129 iX 0 .cur ed iX 1 (c,())
theorem akE (c:D32):ov F c=(HR F0 c.1 c.2.1).bind fun pa=>br (!pa.2.2.1) (some ((al,()),(c.1,c.2.1,false),())) (br (!c.2.2) (some ((al,()),(c.1,c.2.1,false),())) (some ((pa.1,()),(c.1,pa.2.1,c.2.2),()))):=by kernel_rfl
def sx:Any:=.two ⟨iX,0,.cur,ed,1,iX,fun x=>ov F0 x.1⟩
theorem FM:bz 129 sx:=VG VX ⟨akD,trivial⟩ func129 ab (by kernel_rfl)
def C6:=[(128,pr)]
def C7:Nat->Option Hint:=look [(4,{live:=[0,3,4,5],xl:=[3],rl:=[2]})]
def vq (n1 i:Int)(aD:List Int)(au:Int)(ar:Bool)(xs:List Int):St:={nt:=28,tm:=[(0,.v (.c (.ptr 4000000 0))),(3,.v (.c (.own 1000000 none))),(4,bW n1),(5,bW i)],bx:=[(4000000,[.ro true 5 (.int .u8) aD,aq au,.bool ar])],bl:=[aB 1000000 3 (.int .i64) xs],sp:=.v (.c (.ptr 4000000 0))}
def sy (aD:List Int)(au:Int)(ar:Bool)(xs:List Int):St:={nt:=28,tm:=[(3,.v (.c (.own 1000000 none)))],bx:=[(4000000,[.ro true 5 (.int .u8) aD,aq au,.bool ar])],bl:=[aB 1000000 3 (.int .i64) xs],sp:=.v (.c (.ptr 4000000 0))}
def C8 (st:St):Option U:=gQ C6 F C7 [.r,.r,.r,.l,.r,.b,.i] f131 J n st
abbrev kI:List (Ty×Bool):=[(.sl 3 (.int .i64),false)]
def FN:=ayC C6 F C7 [.r,.r,.r,.l,.r,.b] f131 .cur kI iX 2
theorem JW (n1 i:Int)(aD:List Int)(au:Int)(ar:Bool)(xs:List Int):C8 F J (n+1) (vq n1 i aD au ar xs)=br (decide (i<n1)) (br ar ((dw F0 (aD,au,ar)).bind fun gL=>ck (fp F xs.length [gL.1.1].length 8) (C8 F J n (vq n1 (ak (i+1)) gL.2.1.1 gL.2.1.2.1 gL.2.1.2.2 (xs++[gL.1.1])))) (J (.exit 0) (sy aD au ar xs))) (J (.exit 0) (sy aD au ar xs)):=by kernel_rfl
theorem adA (aD:List Int)(au:Int)(ar:Bool)(xs:List Int):FN F (.exit 0) (sy aD au ar xs)=some ((xs,()),(aD,au,ar),()):=by kernel_rfl
def EK (c:D32):=EG C6 F C7 f131 iX 0 .cur kI iX 2 (c,())
theorem an3 (c:D32):EK F c=(dw F0 c).bind fun r9=>C8 F (FN F) F.n (vq r9.1.1 0 r9.2.1.1 r9.2.1.2.1 r9.2.1.2.2 []):=by kernel_rfl
def FO:Any:=.two ⟨iX,0,.cur,kI,2,iX,fun x=>EK F0 x.1⟩
theorem VY:bz 131 FO:=VG C6 ⟨y8,trivial⟩ func131 C7 (by kernel_rfl)
def adB:=[(128,pr),(129,sx),(131,FO)]
abbrev ib:List (Ty×Bool):=[(K9,true)]
def BR (c:D32):=EG adB F ab f130 iX 0 .cur ib iX 2 (c,())
theorem ar7 (c:D32):BR F c=(dw F0 c).bind fun r6=>(ov F0 r6.2.1).bind fun r9=>(EK F0 r9.2.1).bind fun cP=>some (((r6.1.1,r9.1.1,cP.1.1),()),cP.2.1,()):=by kernel_rfl
def JX:Any:=.two ⟨iX,0,.cur,ib,2,iX,fun x=>BR F0 x.1⟩
theorem ZL:bz 130 JX:=VG adB ⟨y8,FM,VY,trivial⟩ func130 ab (by kernel_rfl)
def adC:=[(127,kl),(128,pr),(129,sx),(130,JX),(131,FO)]
abbrev aDU:List (Ty×Bool):=[(K21,true),(.bool,false)]
abbrev S2:List (Ty×Bool):=[(K1,true),(.sl 5 (.int .u8),false)]
def JY (c:D1)(b:List Int):=bJ adC F ab f76 S2 aDU 2 (c,b,())
theorem ar8 (c:D1)(b:List Int):JY F c b=(dw F0 (b,0,true)).bind fun cp=>br (cp.1.1==1) ((ov F0 cp.2.1).bind fun EH=>(BR F0 EH.2.1).bind fun r24=>br (!r24.2.1.2.2) (some ((0,0,(al,0,al,[]),(0,al,[]),(0,al,[]),0,0,0,0,0),false,())) (br (r24.2.1.2.1 != (b.length:Int)) (some ((0,0,(al,0,al,[]),(0,al,[]),(0,al,[]),0,0,0,0,0),false,())) ((gd F0 c (cp.1.1,0,(EH.1.1,r24.1.1),(0,al,[]),(0,al,[]),0,0,0,0,0)).bind fun r87=>br (!r87.1) (some ((0,0,(al,0,al,[]),(0,al,[]),(0,al,[]),0,0,0,0,0),false,())) (some ((cp.1.1,0,(EH.1.1,r24.1.1),(0,al,[]),(0,al,[]),0,0,0,0,0),true,()))))) (br (cp.1.1==2) ((dw F0 cp.2.1).bind fun FP=>(ov F0 FP.2.1).bind fun qR=>(EK F0 qR.2.1).bind fun UQ=>br (!UQ.2.1.2.2) (some ((0,0,(al,0,al,[]),(0,al,[]),(0,al,[]),0,0,0,0,0),false,())) (br (UQ.2.1.2.1 != (b.length:Int)) (some ((0,0,(al,0,al,[]),(0,al,[]),(0,al,[]),0,0,0,0,0),false,())) ((gd F0 c (cp.1.1,0,(al,0,al,[]),(FP.1.1,qR.1.1,UQ.1.1),(0,al,[]),0,0,0,0,0)).bind fun r87=>br (!r87.1) (some ((0,0,(al,0,al,[]),(0,al,[]),(0,al,[]),0,0,0,0,0),false,())) (some ((cp.1.1,0,(al,0,al,[]),(FP.1.1,qR.1.1,UQ.1.1),(0,al,[]),0,0,0,0,0),true,()))))) (br (cp.1.1==3) ((dw F0 cp.2.1).bind fun r44=>(dw F0 r44.2.1).bind fun pN=>(BR F0 pN.2.1).bind fun Fw=>br (!Fw.2.1.2.2) (some ((0,0,(al,0,al,[]),(0,al,[]),(0,al,[]),0,0,0,0,0),false,())) (br (Fw.2.1.2.1 != (b.length:Int)) (some ((0,0,(al,0,al,[]),(0,al,[]),(0,al,[]),0,0,0,0,0),false,())) ((gd F0 c (cp.1.1,r44.1.1,(al,0,al,[]),(0,al,[]),Fw.1.1,pN.1.1,0,0,0,0)).bind fun r87=>br (!r87.1) (some ((0,0,(al,0,al,[]),(0,al,[]),(0,al,[]),0,0,0,0,0),false,())) (some ((cp.1.1,r44.1.1,(al,0,al,[]),(0,al,[]),Fw.1.1,pN.1.1,0,0,0,0),true,()))))) (br (cp.1.1==4) ((dw F0 cp.2.1).bind fun r55=>(dw F0 r55.2.1).bind fun r59=>(dw F0 r59.2.1).bind fun r63=>(dw F0 r63.2.1).bind fun r67=>br (!r67.2.1.2.2) (some ((0,0,(al,0,al,[]),(0,al,[]),(0,al,[]),0,0,0,0,0),false,())) (br (r67.2.1.2.1 != (b.length:Int)) (some ((0,0,(al,0,al,[]),(0,al,[]),(0,al,[]),0,0,0,0,0),false,())) ((gd F0 c (cp.1.1,0,(al,0,al,[]),(0,al,[]),(0,al,[]),0,r55.1.1,r59.1.1,r63.1.1,r67.1.1)).bind fun r87=>br (!r87.1) (some ((0,0,(al,0,al,[]),(0,al,[]),(0,al,[]),0,0,0,0,0),false,())) (some ((cp.1.1,0,(al,0,al,[]),(0,al,[]),(0,al,[]),0,r55.1.1,r59.1.1,r63.1.1,r67.1.1),true,()))))) (br (!cp.2.1.2.2) (some ((0,0,(al,0,al,[]),(0,al,[]),(0,al,[]),0,0,0,0,0),false,())) (br (cp.2.1.2.1 != (b.length:Int)) (some ((0,0,(al,0,al,[]),(0,al,[]),(0,al,[]),0,0,0,0,0),false,())) ((gd F0 c (cp.1.1,0,(al,0,al,[]),(0,al,[]),(0,al,[]),0,0,0,0,0)).bind fun r87=>br (!r87.1) (some ((0,0,(al,0,al,[]),(0,al,[]),(0,al,[]),0,0,0,0,0),false,())) (some ((cp.1.1,0,(al,0,al,[]),(0,al,[]),(0,al,[]),0,0,0,0,0),true,())))))))):=by kernel_rfl
def JZ:Any:=.one ⟨S2,aDU,2,fun x=>JY F0 x.1 x.2.1⟩
theorem ZM:bz 76 JZ:=aA adC ⟨pO,y8,FM,ZL,VY,trivial⟩ func76 ab (by kernel_rfl)
def iH:=[(35,dh),(72,cK),(73,c9),(74,yU),(75,S1),(76,JZ),(77,fG),(78,ee)]
def iI:Nat->Option Hint:=look [(4,{live:=[1,3],xl:=[1],rl:=[2]}),(9,{live:=[1,4],xl:=[1],rl:=[2]}),(15,{live:=[1,7],rl:=[2]})]
def mM (i w w1:Int)(w2:List Int)(w3:List bD)(w4:List cU)(w5:List cH):= eD 147 [cW 1,(7,bW i)] [(1,[aq w,aq w1,.ro false 3 (.int .i64) w2,.ro false 50 (di) w3,.ro false 114 (fW) w4,.ro false 127 (eu) w5])] []
def sA (t2:Bool):= cV 147 [(2,SK t2)]
def Md   := cV 147 []
def rh (st:St):Option U:=gQ iH F iI [.r,.r,.r,.r,.l,.r,.b,.i] f37 J n st
def mN:=jG iH F iI [.r,.r,.r,.r,.l,.r,.b] f37 bd 1
def mO (i w w1:Int)(w2:List Int)(w3:List bD)(w4:List cU)(w5:List cH):= eD 147 [cW 1,(4,bW i)] [(1,[aq w,aq w1,.ro false 3 (.int .i64) w2,.ro false 50 (di) w3,.ro false 114 (fW) w4,.ro false 127 (eu) w5])] []
def BS (t2:Bool):= cV 147 [(2,SK t2)]
def Me (w w1:Int)(w2:List Int)(w3:List bD)(w4:List cU)(w5:List cH):= eD 147 [cW 1] [(1,[aq w,aq w1,.ro false 3 (.int .i64) w2,.ro false 50 (di) w3,.ro false 114 (fW) w4,.ro false 127 (eu) w5])] []
def ri (st:St):Option U:=gQ iH F iI [.r,.r,.r,.l,.r,.b,.i] f37 J n st
def mP:=jG iH F iI [.r,.r,.r,.l,.r,.b] f37 bd 1
def mQ (i w w1:Int)(w2:List Int)(w3:List bD)(w4:List cU)(w5:List cH):= eD 147 [cW 1,(3,bW i)] [(1,[aq w,aq w1,.ro false 3 (.int .i64) w2,.ro false 50 (di) w3,.ro false 114 (fW) w4,.ro false 127 (eu) w5])] []
def BU (t2:Bool):= cV 147 [(2,SK t2)]
def Mf (w w1:Int)(w2:List Int)(w3:List bD)(w4:List cU)(w5:List cH):= eD 147 [cW 1] [(1,[aq w,aq w1,.ro false 3 (.int .i64) w2,.ro false 50 (di) w3,.ro false 114 (fW) w4,.ro false 127 (eu) w5])] []
def rj (st:St):Option U:=gQ iH F iI [.r,.r,.l,.r,.b,.i] f37 J n st
def mR:=jG iH F iI [.r,.r,.l,.r,.b] f37 bd 1
theorem Gz (i w w1:Int)(w2:List Int)(w3:List bD)(w4:List cU)(w5:List cH):rh F J (n+1) (mM i w w1 w2 w3 w4 w5)=br (decide (i<(w5.length:Int))) (ck (cr i (w5.length:Int)) ((cg F0 (aU w5 i eu.aG).2.2 0 (ak (w-1))).bind fun aQH=>br (!aQH.1) (J .ret (sA false)) ((fL F0 (aU w5 i eu.aG).2.1).bind fun aQI=>br (!aQI.1) (J .ret (sA false)) ((ep F0 (aU w5 i eu.aG).2.1).bind fun aQJ=>br (aQJ.1 != (aU w5 i eu.aG).1) (J .ret (sA false)) (rh F J n (mM (ak (i+1)) w w1 w2 w3 w4 w5)))))) (J (.exit 4) (Md)):=by kernel_rfl
theorem GA (i w w1:Int)(w2:List Int)(w3:List bD)(w4:List cU)(w5:List cH):ri F J (n+1) (mO i w w1 w2 w3 w4 w5)=br (decide (i<(w4.length:Int))) (ck (cr i (w4.length:Int)) ((JY F0 (w,w1) (aU w4 i (0,[])).2).bind fun r94=>br (!r94.2.1) (J .ret (BS false)) (ck (cr i (w4.length:Int)) ((cg F0 (aU w4 i (0,[])).1 0 (ak (w-1))).bind fun an4=>br (!an4.1) (J .ret (BS false)) (ri F J n (mO (ak (i+1)) w w1 w2 w3 w4 w5)))))) (J (.exit 2) (Me w w1 w2 w3 w4 w5)):=by kernel_rfl
theorem GB (i w w1:Int)(w2:List Int)(w3:List bD)(w4:List cU)(w5:List cH):rj F J (n+1) (mQ i w w1 w2 w3 w4 w5)=br (decide (i<(w3.length:Int))) (ck (cr i (w3.length:Int)) (br ((aU w3 i di.aG).1 != i) (J .ret (BU false)) (ck (cr i (w3.length:Int)) ((ez F0 (w,w1) (aU w3 i di.aG)).bind fun Mg=>br (!Mg.1) (J .ret (BU false)) (rj F J n (mQ (ak (i+1)) w w1 w2 w3 w4 w5)))))) (J (.exit 0) (Mf w w1 w2 w3 w4 w5)):=by kernel_rfl
theorem adD (t2:Bool):mN F .ret (sA t2)=some (t2,()):=by kernel_rfl
theorem abq: mN F (.exit 4) (Md)=some (true,()):=by kernel_rfl
theorem adE (t2:Bool):mP F .ret (BS t2)=some (t2,()):=by kernel_rfl
theorem abr (w w1:Int)(w2:List Int)(w3:List bD)(w4:List cU)(w5:List cH):mP F (.exit 2) (Me w w1 w2 w3 w4 w5)=rh F (mN F) F.n (mM 0 w w1 w2 w3 w4 w5):=by kernel_rfl
theorem adF (t2:Bool):mR F .ret (BU t2)=some (t2,()):=by kernel_rfl
theorem abt (w w1:Int)(w2:List Int)(w3:List bD)(w4:List cU)(w5:List cH):mR F (.exit 0) (Mf w w1 w2 w3 w4 w5)=ri F (mP F) F.n (mO 0 w w1 w2 w3 w4 w5):=by kernel_rfl
abbrev gE:List (Ty×Bool):=[(iV,true)]
def y9 (w:o8):=bJ iH F iI f37 gE bd 1 (w,())
theorem akF (w:o8):y9 F w=(eJ F0 w.1).bind fun dB=>br (!dB.1) (some (false,())) ((BM F0 w.1.1 w.2.1).bind fun dW=>br (!dW.1) (some (false,())) ((Mc F0 w.1).bind fun VM=>br (decide ((w.2.1.length:Int)>VM.1)) (some (false,())) (br ((w.2.2.1.length:Int) != w.1.1) (some (false,())) (br (decide ((w.2.2.2.1.length:Int)>60)) (some (false,())) (br (decide ((w.2.2.2.2.length:Int)>300)) (some (false,())) (rj F (mR F) F.n (mQ 0 w.1.1 w.1.2 w.2.1 w.2.2.1 w.2.2.2.1 w.2.2.2.2))))))):=by kernel_rfl
def Pn:Any:=.one ⟨gE,bd,1,fun x=>y9 F0 x.1⟩
theorem akG:bz 37 Pn:=aA iH ⟨ec,dq,dH,Ot,an0,ZM,iF,fx,trivial⟩ func37 iI (by kernel_rfl)
def vr:=[(35,dh),(36,SZ),(37,Pn)]
def vu:Nat->Option Hint:=look [(3,{live:=[2,4,6,7],yz:=[(4,2,3,.int .i64),(4,3,50,di),(4,4,114,fW),(4,5,127,eu),(6,3,50,di),(6,4,114,fW),(6,5,127,eu)],xl:=[4,6],rl:=[4,5]})]
def qg (i c c1 t4 t41 w w1:Int)(xs:List Int)(aQ:List bD)(ba:List cU)(bp:List cH)(bQ:List Int)(cD:List bD)(cE:List cU)(cI:List cH):= eD 42 [cW 2,cW 4,cW 6,(7,bW i)] [(2,[aq c,aq c1]),(4,[aq t4,aq t41,.own 1000000 none,.own 1000001 none,.own 1000002 none,.own 1000003 none]),(6,[aq w,aq w1,.own 1000004 none,.own 1000005 none,.own 1000006 none,.own 1000007 none])] [aB 1000000 3 (.int .i64) xs,aB 1000001 50 di aQ,aB 1000002 114 fW ba,aB 1000003 127 eu bp,aB 1000004 3 (.int .i64) bQ,aB 1000005 50 di cD,aB 1000006 114 fW cE,aB 1000007 127 eu cI]
def xd (t4 t41 w w1:Int)(xs:List Int)(aQ:List bD)(ba:List cU)(bp:List cH)(bQ:List Int)(cD:List bD)(cE:List cU)(cI:List cH):= eD 42 [cW 4,cW 6] [(4,[aq t4,aq t41,.own 1000000 none,.own 1000001 none,.own 1000002 none,.own 1000003 none]),(6,[aq w,aq w1,.own 1000004 none,.own 1000005 none,.own 1000006 none,.own 1000007 none])] [aB 1000000 3 (.int .i64) xs,aB 1000001 50 di aQ,aB 1000002 114 fW ba,aB 1000003 127 eu bp,aB 1000004 3 (.int .i64) bQ,aB 1000005 50 di cD,aB 1000006 114 fW cE,aB 1000007 127 eu cI]
def vv (st:St):Option U:=gQ vr F vu [.r,.r,.l,.r,.b,.i] f9 J n st
abbrev atP:List (Ty×Bool):=[(iV,true),(.bool,false)]
def za:=jG vr F vu [.r,.r,.l,.r,.b] f9 atP 2
theorem EL (i c c1 t4 t41 w w1:Int)(xs:List Int)(aQ:List bD)(ba:List cU)(bp:List cH)(bQ:List Int)(cD:List bD)(cE:List cU)(cI:List cH):vv F J (n+1) (qg i c c1 t4 t41 w w1 xs aQ ba bp bQ cD cE cI)=br (decide (i<c)) ((eJ F0 (c,c1)).bind fun ia=>br ia.1 ((Mb F0 (c,c1) i).bind fun VM=>ck (fp F cD.length [VM.1].length 208) (vv F J n (qg (ak (i+1)) c c1 t4 t41 w w1 xs aQ ba bp bQ (cD++[VM.1]) cE cI))) (J (.exit 0) (xd t4 t41 w w1 xs aQ ba bp bQ cD cE cI))) (J (.exit 0) (xd t4 t41 w w1 xs aQ ba bp bQ cD cE cI)):=by kernel_rfl
theorem YO (t4 t41 w w1:Int)(xs:List Int)(aQ:List bD)(ba:List cU)(bp:List cH)(bQ:List Int)(cD:List bD)(cE:List cU)(cI:List cH):za F (.exit 0) (xd t4 t41 w w1 xs aQ ba bp bQ cD cE cI)=(y9 F0 ((w,w1),bQ,cD,cE,cI)).bind fun UQ=>br (!UQ.1) (some (((0,0),[],[],[],[]),false,())) (some (((w,w1),bQ,cD,cE,cI),true,())):=by kernel_rfl
abbrev aDV:List (Ty×Bool):=[(K1,true),(.sl 3 (.int .i64),false)]
def l9 (c:D1)(liars:List Int):=bJ vr F vu f9 aDV atP 2 (c,liars,())
theorem agn (c:D1)(liars:List Int):l9 F c liars=ck (fp F 0 liars.length 8) (vv F (za F) F.n (qg 0 c.1 c.2 0 0 c.1 c.2 [] [] [] [] ([]++liars) [] [] [])):=by kernel_rfl
def zb:Any:=.one ⟨aDV,atP,2,fun x=>l9 F0 x.1 x.2.1⟩
theorem Po:bz 9 zb:=aA vr ⟨ec,anY,akG,trivial⟩ func9 vu (by kernel_rfl)
def GC:=[(9,zb),(27,e9),(56,oq),(57,pg)]
def qh (c:D2):=EG GC F ab f25 kg 0 .cur gE kg 2 (c,())
theorem VZ (c:D2):qh F c=(kh F0 c [4,4,4,5,7]).bind fun r9=>(ax F0 r9.2.1 3).bind fun dB=>(nX F0 dB.2.1 3).bind fun o9=>br (!o9.1.1) ((ax F0 o9.2.1 r9.1.1).bind fun ia=>(l9 F0 (r9.1.1,ak (1+dB.1.1)) [ia.1.1]).bind fun uC=>some ((uC.1,()),ia.2.1,())) ((l9 F0 (r9.1.1,ak (1+dB.1.1)) []).bind fun uC=>some ((uC.1,()),o9.2.1,())):=by kernel_rfl
def Bm:Any:=.two ⟨kg,0,.cur,gE,2,kg,fun x=>qh F0 x.1⟩
theorem V0:bz 25 Bm:=VG GC ⟨Po,gC,yJ,yK,trivial⟩ func25 ab (by kernel_rfl)
def jT (q:D9):=bJ aF F ab f117 ib ib 2 (q,())
theorem an5 (q:D9):jT F q=ck (fp F 0 q.2.2.length 8) (some ((q.1,q.2.1,[]++q.2.2),())):=by kernel_rfl
def ji:Any:=.one ⟨ib,ib,2,fun x=>jT F0 x.1⟩
theorem mS:bz 117 ji:=aA aF trivial func117 ab (by kernel_rfl)
def V1:=[(117,ji)]
abbrev Bn:List (Ty×Bool):=[(K12,true)]
def ow (s:UF):=bJ V1 F ab f102 Bn Bn 2 (s,())
theorem akH (s:UF):ow F s=(jT F0 s.2.2.1).bind fun r5=>some ((s.1,s.2.1,r5.1,s.2.2.2),()):=by kernel_rfl
def mT:Any:=.one ⟨Bn,Bn,2,fun x=>ow F0 x.1⟩
theorem vz:bz 102 mT:=aA V1 ⟨mS,trivial⟩ func102 ab (by kernel_rfl)
def il (p:D9):=bJ aF F ab f164 ib ib 2 (p,())
theorem akI (p:D9):il F p=ck (fp F 0 p.2.2.length 8) (some ((p.1,p.2.1,[]++p.2.2),())):=by kernel_rfl
def j2:Any:=.one ⟨ib,ib,2,fun x=>il F0 x.1⟩
theorem pt:bz 164 j2:=aA aF trivial func164 ab (by kernel_rfl)
def vA:=[(164,j2)]
def vB:Nat->Option Hint:=look [(3,{live:=[0,3,4],xl:=[3],rl:=[2]})]
def qi (list:List D9)(i:Int)(xs:List D9):= eD 21 [(0,j9 74 (K9) list),(3,.v (.c (.own 1000000 none))),(4,bW i)] [] [aB 1000000 74 K9 xs]
def J0 (xs:List D9):= eD 21 [(3,.v (.c (.own 1000000 none)))] [] [aB 1000000 74 K9 xs]
def vC (st:St):Option U:=gQ vA F vB [.r,.r,.l,.r,.b,.i] f103 J n st
abbrev GD:List (Ty×Bool):=[(K13,false)]
def zc:=jG vA F vB [.r,.r,.l,.r,.b] f103 GD 2
theorem EM (list:List D9)(i:Int)(xs:List D9):vC F J (n+1) (qi list i xs)=br (decide (i<(list.length:Int))) (ck (cr i (list.length:Int)) ((il F0 (aU list i K9.aG)).bind fun fD=>ck (fp F xs.length [fD.1].length 48) (vC F J n (qi list (ak (i+1)) (xs++[fD.1]))))) (J (.exit 0) (J0 xs)):=by kernel_rfl
theorem YP (xs:List D9):zc F (.exit 0) (J0 xs)=some (xs,()):=by kernel_rfl
def iq (list:D13):=bJ vA F vB f103 GD GD 2 (list,())
theorem ago (list:D13):iq F list=vC F (zc F) F.n (qi list 0 []):=by kernel_rfl
def zd:Any:=.one ⟨GD,GD,2,fun x=>iq F0 x.1⟩
theorem Pp:bz 103 zd:=aA vA ⟨pt,trivial⟩ func103 vB (by kernel_rfl)
def jH (d:D14):=bJ aF F ab f104 qf qf 2 (d,())
theorem akJ (d:D14):jH F d=ck (fp F 0 d.1.length 1) (some (([]++d.1,d.2),())):=by kernel_rfl
def mU:Any:=.one ⟨qf,qf,2,fun x=>jH F0 x.1⟩
theorem vD:bz 104 mU:=aA aF trivial func104 ab (by kernel_rfl)
def ZN:=[(117,ji)]
abbrev ai4:List (Ty×Bool):=[(K15,true)]
def Mh (b:D15):=bJ ZN F ab f224 ai4 ai4 2 (b,())
theorem an6 (b:D15):Mh F b=(jT F0 b.2).bind fun r7=>some ((b.1,r7.1),()):=by kernel_rfl
def S3:Any:=.one ⟨ai4,ai4,2,fun x=>Mh F0 x.1⟩
theorem an7:bz 224 S3:=aA ZN ⟨mS,trivial⟩ func224 ab (by kernel_rfl)
def V2:=[(117,ji),(164,j2),(224,S3)]
def ze (m:Oo):=bJ V2 F ab f165 xV xV 2 (m,())
theorem akK (m:Oo):ze F m=(Mh F0 m.2.2.1).bind fun r5=>(il F0 m.2.2.2.1).bind fun r9=>(jT F0 m.2.2.2.2.1).bind fun cp=>some ((m.1,m.2.1,r5.1,r9.1,cp.1,m.2.2.2.2.2),()):=by kernel_rfl
def BV:Any:=.one ⟨xV,xV,2,fun x=>ze F0 x.1⟩
theorem S4:bz 165 BV:=aA V2 ⟨mS,pt,an7,trivial⟩ func165 ab (by kernel_rfl)
def vE:=[(165,BV)]
def vF:Nat->Option Hint:=look [(3,{live:=[0,3,4],xl:=[3],rl:=[2]})]
def qj (list:List l5)(i:Int)(xs:List l5):= eD 28 [(0,j9 146 (qT) list),(3,.v (.c (.own 1000000 none))),(4,bW i)] [] [aB 1000000 146 qT xs]
def J1 (xs:List l5):= eD 28 [(3,.v (.c (.own 1000000 none)))] [] [aB 1000000 146 qT xs]
def vG (st:St):Option U:=gQ vE F vF [.r,.r,.l,.r,.b,.i] f105 J n st
abbrev ZO:List (Ty×Bool):=[(K23,false)]
def zf:=jG vE F vF [.r,.r,.l,.r,.b] f105 ZO 2
theorem EN (list:List l5)(i:Int)(xs:List l5):vG F J (n+1) (qj list i xs)=br (decide (i<(list.length:Int))) (ck (cr i (list.length:Int)) (ck (cr i (list.length:Int)) ((ze F0 (aU list i qT.aG).2).bind fun sw=>ck (fp F xs.length [((aU list i qT.aG).1,sw.1)].length 224) (vG F J n (qj list (ak (i+1)) (xs++[((aU list i qT.aG).1,sw.1)])))))) (J (.exit 0) (J1 xs)):=by kernel_rfl
theorem YQ (xs:List l5):zf F (.exit 0) (J1 xs)=some (xs,()):=by kernel_rfl
def uK (list:D23):=bJ vE F vF f105 ZO ZO 2 (list,())
theorem agp (list:D23):uK F list=vG F (zf F) F.n (qj list 0 []):=by kernel_rfl
def zg:Any:=.one ⟨ZO,ZO,2,fun x=>uK F0 x.1⟩
theorem Pq:bz 105 zg:=aA vE ⟨S4,trivial⟩ func105 vF (by kernel_rfl)
end
end Go.Am.Tryz
