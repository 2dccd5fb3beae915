/- No condition. -/
import Derived.Test.YtnllfndlcahalaaGreatDoorProg
import Derived.Test.YtnllfndlcahalaaGreatDoorQoWJS1
set_option linter.all false
set_option maxRecDepth 100000
namespace Go.Am.Tryz
open Go.Am Go.Proofs Go.Proofs.Tryz
abbrev K1:Ty:=.pair (.int .i64) (.int .i64)
abbrev D1:=Int×Int
abbrev K2:Ty:=.pair (.sl 5 (.int .u8)) (K1)
abbrev D2:=List Int×D1
abbrev K3:Ty:=.pair (.int .i64) (K1)
abbrev D3:=Int×D1
abbrev K4:Ty:=.pair (.int .i64) (K3)
abbrev D4:=Int×D3
abbrev K5:Ty:=.sl 52 (K4)
abbrev D5:=List D4
abbrev K6:Ty:=.pair (.int .i64) (K5)
abbrev D6:=Int×D5
abbrev K7:Ty:=.sl 157 (K6)
abbrev K8:Ty:=.pair (.str) (.sl 3 (.int .i64))
abbrev D8:=ByteArray×List Int
abbrev K9:Ty:=.pair (.int .i64) (K8)
abbrev D9:=Int×D8
abbrev K10:Ty:=.pair (K9) (.str)
abbrev D10:=D9×ByteArray
abbrev K11:Ty:=.pair (.int .i64) (K10)
abbrev D11:=Int×D10
abbrev K12:Ty:=.pair (.int .i64) (K11)
abbrev U1:=Int×D11
abbrev K13:Ty:=.sl 50 (K9)
abbrev D13:=List D9
abbrev K14:Ty:=.pair (.sl 5 (.int .u8)) (.int .i64)
abbrev D14:=List Int×Int
abbrev K15:Ty:=.pair (.str) (K9)
abbrev D15:=ByteArray×D9
abbrev K16:Ty:=.pair (.int .i64) (K4)
abbrev D16:=Int×D4
abbrev K17:Ty:=.pair (K9) (K16)
abbrev D17:=D9×D16
abbrev K18:Ty:=.pair (K9) (K17)
abbrev D18:=D9×D17
abbrev K19:Ty:=.pair (K15) (K18)
abbrev D19:=D15×D18
abbrev K20:Ty:=.pair (.int .i64) (K19)
abbrev D20:=Int×D19
abbrev K21:Ty:=.pair (.int .i64) (K20)
abbrev OW:=Int×D20
abbrev pS:Ty:=.pair (.int .i64) (K21)
abbrev ll:=Int×OW
abbrev K23:Ty:=.sl 136 (pS)
abbrev D23:=List ll
abbrev K24:Ty:=.pair (K14) (K23)
abbrev D24:=D14×D23
abbrev K25:Ty:=.pair (K13) (K24)
abbrev D25:=D13×D24
abbrev K26:Ty:=.pair (K5) (K25)
abbrev D26:=D5×D25
abbrev K27:Ty:=.pair (K12) (K26)
abbrev D27:=U1×D26
abbrev K28:Ty:=.pair (.int .i64) (K27)
abbrev D28:=Int×D27
abbrev K29:Ty:=.pair (.int .i64) (K28)
abbrev D29:=Int×D28
abbrev cd:Ty:=.pair (.int .i64) (K29)
abbrev a1:=Int×D29
abbrev K31:Ty:=.pair (.int .i64) (.bool)
abbrev D31:=Int×Bool
abbrev K32:Ty:=.pair (.sl 5 (.int .u8)) (K31)
abbrev D32:=List Int×D31
abbrev K33:Ty:=.sl 65 (cd)
abbrev D33:=List a1
abbrev eh:Ty:=.pair (.int .i64) (.sl 5 (.int .u8))
abbrev bS:=Int×List Int
abbrev K35:Ty:=.sl 105 (eh)
abbrev D35:=List bS
abbrev K36:Ty:=.pair (.str) (.int .i64)
abbrev D36:=ByteArray×Int
abbrev cz:Ty:=.pair (.int .i64) (K36)
abbrev bE:=Int×D36
abbrev K38:Ty:=.sl 41 (cz)
abbrev D38:=List bE
abbrev K39:Ty:=.pair (K35) (K38)
abbrev D39:=D35×D38
abbrev K40:Ty:=.pair (K33) (K39)
abbrev D40:=D33×D39
abbrev K41:Ty:=.pair (.sl 3 (.int .i64)) (K40)
abbrev D41:=List Int×D40
abbrev hz:Ty:=.pair (K1) (K41)
abbrev ko:=D1×D41
abbrev K43:Ty:=.pair (.sl 3 (.int .i64)) (.sl 3 (.int .i64))
abbrev D43:=List Int×List Int
abbrev K44:Ty:=.pair (.int .i64) (pS)
abbrev D44:=Int×ll
abbrev K45:Ty:=.pair (.int .i64) (K44)
abbrev D45:=Int×D44
abbrev K46:Ty:=.sl 56 (K45)
abbrev D46:=List D45
def ad:Nat->Option Hint:=look []
def aA:List (Nat×Any):=[]
noncomputable section
variable {U:Type} (C:List (Nat×Any)) (F:rz) (H:Nat->Option Hint)
abbrev a6 (f:Nat)(c:Any):Prop:=s0 Tryz.prog TB f c
def bj (b:Func)(a c:List (Ty×Bool))(m:Nat)(x:Args a):=aJX Tryz.prog (look C) F H b a c m x
def E6 (c:Func)(a:List (Ty×Bool))(i:Nat)(d:PM)(e b:List (Ty×Bool))(m:Nat)(x:Args a):=aCP Tryz.prog (look C) F H c a i d e b m x
def e9 (p:List At)(a:Func)(J:Ex->St->Option U)(n:Nat)(b:St):Option U:=lp Tryz.prog (look C) F H (sub p (eU a)) J n b
def hf (p:List At)(a:Func)(b:List (Ty×Bool))(m:Nat):=Vy Tryz.prog (look C) F H p (eU a) (fin Tryz.prog a b m)
def ayu (p:List At)(a:Func)(c:PM)(d b:List (Ty×Bool))(m:Nat):=Vy Tryz.prog (look C) F H p (eU a) (aKZ Tryz.prog a c d b m)
def cQ (n:Nat)(t:List (Nat×AV))(b:List (Nat×List AC))(l:List (Nat×Option fK)):St:={nt:=n,tm:=t,bx:=b,bl:=l}
def bO (n:Nat)(t:List (Nat×AV)):St:={nt:=n,tm:=t,bx:=[],bl:=[]}
def a8 (t:Int):AV:=.v (.c (.int .i64 t))
def ao (t:Int):AC:=.int .i64 t
def b0 (d:Nat):Nat×AV:=(d,.v (.c (.ptr d 0)))
abbrev ak:ByteArray:=ByteArray.mk #[]
def ay (i:Nat)(e:TypeId)(t:Ty)(x:List t.D):Nat×Option fK:=(i,some ⟨e,t,x,true,true⟩)
def H0 (b:Bool):AV:=.v (.c (.bool b))
def ZY (b:ByteArray):AV:=.v (.c (.str b))
def hD (e:Nat)(t:Ty)(x:List t.D):AV:=.v (.c (.ro false e t x))
theorem aq {f : FuncId} {a : Func} (l : List (Nat × Any)) (e : x8 Tryz.prog TB l) (h : Tryz.prog.funcs[f]? = some a) (H : Nat → Option Hint) {b d : List (Ty × Bool)} {m : Nat} {g : Args b → Option (Args d)} (c : (a.name == "runtime.NumGoroutine" || a.body.isNone, fun x => bj l F0 H a b d m x) = (false, g)) : a6 f (.one ⟨b, d, m, g⟩) :=
 ok1 e h (ai3.1 (Pn c).1).1 (ai3.1 (Pn c).1).2 H (Pn c).2
theorem aBg {f : FuncId} {a : Func} (l : List (Nat × Any)) (h : x8 Tryz.prog TB l) (j : Tryz.prog.funcs[f]? = some a) (H : Nat → Option Hint) {b d : List (Ty × Bool)} {i m : Nat} {e : PM} {g : Args b → Option (Args d × Args [])} (c : (a.name == "runtime.NumGoroutine" || a.body.isNone, fun x => E6 l F0 H a b i e d [] m x) = (false, g)) : a6 f (.two ⟨b, i, e, d, m, [], g⟩) :=
 ok2 h j (ai3.1 (Pn c).1).1 (ai3.1 (Pn c).1).2 H (Pn c).2
theorem VZ {f : FuncId} {c : Func} (l : List (Nat × Any)) (h : x8 Tryz.prog TB l) (j : Tryz.prog.funcs[f]? = some c) (H : Nat → Option Hint) {a d : List (Ty × Bool)} {i m : Nat} {e : PM} {p : Ty × Bool} {g : Args a → Option (Args d × Args [p])} (b : (nk a i, c.name == "runtime.NumGoroutine" || c.body.isNone, fun x => E6 l F0 H c a i e d [p] m x) = (some p, false, g)) : a6 f (.two ⟨a, i, e, d, m, [p], g⟩) :=
 ok3 h j (ai3.1 (Pn (Pn b).2).1).1 (ai3.1 (Pn (Pn b).2).1).2 H (Pn b).1 (Pn (Pn b).2).2
end
noncomputable section
variable {U:Type} (F:rz) (J:Ex->St->Option U) (n:Nat)
abbrev aO:List (Ty×Bool):=[(.bool,false)]
abbrev lW:List (Ty×Bool):=[(.sl 5 (.int .u8),false)]
def anT (a:List Int):=bj aA F ad f6 lW aO 1 (a,())
theorem ayv (a:List Int):anT F a=some (decide ((a.length:Int)>1048576),()):=by kernel_rfl
def adX:Any:=.one ⟨lW,aO,1,fun x=>anT F0 x.1⟩
theorem ayw:a6 6 adX:=aq aA trivial func6 ad (by kernel_rfl)
def H2:Nat->Option Hint:=look [(3,{live:=[0,3,4],xl:=[0,3],rl:=[2]})]
def yb (a:List Int)(h i:Int)(p:List Int):St:={nt:=32,tm:=[(0,hD 5 (.int .u8) a),(3,a8 h),(4,a8 i)],bx:=[],bl:=[],sp:=hD 5 (.int .u8) p}
def Ga (a:List Int)(h:Int)(p:List Int):St:={nt:=32,tm:=[(0,hD 5 (.int .u8) a),(3,a8 h)],bx:=[],bl:=[],sp:=hD 5 (.int .u8) p}
def H3 (a:St):Option U:=e9 aA F H2 [.r,.r,.l,.r,.b,.i] f22 J n a
abbrev jK:List (Ty×Bool):=[(K2,true)]
def J9:=ayu aA F H2 [.r,.r,.l,.r,.b] f22 .rd jK [] 5
theorem Mp (a:List Int)(h i:Int)(p:List Int):H3 F J (n+1) (yb a h i p)=br (decide (i<(a.length:Int))) (br (decide (i<4000)) (ck (bG i (a.length:Int)) (H3 F J n (yb a (aj (((BitVec.ofInt 64 (aj ((aj ((aj (h*131))+(aj (aK a i 0))))+7)) &&& BitVec.ofInt 64 1073741823).toNat:Int))) (aj (i+1)) p))) (J (.exit 0) (Ga a h p))) (J (.exit 0) (Ga a h p)):=by kernel_rfl
theorem PD (a:List Int)(h:Int)(p:List Int):J9 F (.exit 0) (Ga a h p)=some (((a,0,h),()),()):=by kernel_rfl
def Ka (a:List Int):=E6 aA F H2 f22 lW 0 .rd jK [] 5 (a,())
theorem ar1 (a:List Int):Ka F a=H3 F (J9 F) F.n (yb a (aj (26583+(a.length:Int))) 0 a):=by kernel_rfl
def V0:Any:=.two ⟨lW,0,.rd,jK,5,[],fun x=>Ka F0 x.1⟩
theorem ar2:a6 22 V0:=aBg aA trivial func22 H2 (by kernel_rfl)
abbrev cE:List (Ty×Bool):=[(.int .i64,false)]
def kH (c:D2):=E6 aA F ad f65 jK 0 .cur cE jK 1 (c,())
theorem anU (c:D2):kH F c=br (decide (c.2.1<(c.1.length:Int))) (ck (bG c.2.1 (c.1.length:Int)) (some ((aj (((BitVec.ofInt 64 (aj ((aj (((BitVec.ofInt 64 (aj (((BitVec.ofInt 64 (Int.fdiv (aj ((aj (c.2.2*6364136223846793005))+1442695040888963407)) (2 ^ (min (33:Int).toNat 64))) ^^^ BitVec.ofInt 64 (Int.fdiv (aj ((aj (c.2.2*6364136223846793005))+1442695040888963407)) (2 ^ (min (45:Int).toNat 64)))).toNat:Int))) &&& BitVec.ofInt 64 255).toNat:Int)))+(aj (aK c.1 c.2.1 0)))) &&& BitVec.ofInt 64 255).toNat:Int)),()),(c.1,aj (c.2.1+1),aj ((aj (c.2.2*6364136223846793005))+1442695040888963407)),()))) (some ((aj (((BitVec.ofInt 64 (aj (((BitVec.ofInt 64 (Int.fdiv (aj ((aj (c.2.2*6364136223846793005))+1442695040888963407)) (2 ^ (min (33:Int).toNat 64))) ^^^ BitVec.ofInt 64 (Int.fdiv (aj ((aj (c.2.2*6364136223846793005))+1442695040888963407)) (2 ^ (min (45:Int).toNat 64)))).toNat:Int))) &&& BitVec.ofInt 64 255).toNat:Int)),()),(c.1,c.2.1,aj ((aj (c.2.2*6364136223846793005))+1442695040888963407)),())):=by kernel_rfl
def S6:Any:=.two ⟨jK,0,.cur,cE,1,jK,fun x=>kH F0 x.1⟩
theorem anV:a6 65 S6:=VZ aA trivial func65 ad (by kernel_rfl)
def V1:=[(65,S6)]
abbrev aDb:List (Ty×Bool):=[(K2,true),(.int .i64,false)]
def av (c:D2)(a:Int):=E6 V1 F ad f25 aDb 0 .cur cE jK 1 (c,a,())
theorem S7 (c:D2)(a:Int):av F c a=br (decide (a<=0)) (some ((0,()),c,())) (br (decide (a<=256)) ((kH F0 c).bind fun b=>ck (!(a==0)) (some ((Int.tmod b.1.1 a,()),b.2.1,()))) ((kH F0 c).bind fun d=>(kH F0 d.2.1).bind fun e=>(kH F0 e.2.1).bind fun f=>(kH F0 f.2.1).bind fun g=>ck (!(a==0)) (some ((Int.tmod (aj ((aj ((aj ((aj (d.1.1*16777216))+(aj (e.1.1*65536))))+(aj (f.1.1*256))))+g.1.1)) a,()),g.2.1,())))):=by kernel_rfl
def ed:Any:=.two ⟨aDb,0,.cur,cE,1,jK,fun x=>av F0 x.1 x.2.1⟩
theorem fN:a6 25 ed:=VZ V1 ⟨anV,trivial⟩ func25 ad (by kernel_rfl)
def PE:=[(25,ed)]
abbrev aGw:List (Ty×Bool):=[(K2,true),(.sl 3 (.int .i64),false)]
def jL (c:D2)(a:List Int):=E6 PE F ad f62 aGw 0 .cur cE jK 1 (c,a,())
theorem adY (c:D2)(a:List Int):jL F c a=(av F0 c (a.length:Int)).bind fun b=>ck (bG b.1.1 (a.length:Int)) (some ((aK a b.1.1 0,()),b.2.1,())):=by kernel_rfl
def np:Any:=.two ⟨aGw,0,.cur,cE,1,jK,fun x=>jL F0 x.1 x.2.1⟩
theorem yc:a6 62 np:=VZ PE ⟨fN,trivial⟩ func62 ad (by kernel_rfl)
def ZZ:=[(25,ed)]
def mX (c:D2)(a:Int):=E6 ZZ F ad f63 aDb 0 .cur aO jK 1 (c,a,())
theorem anW (c:D2)(a:Int):mX F c a=(av F0 c a).bind fun b=>some ((b.1.1==0,()),b.2.1,()):=by kernel_rfl
def oa:Any:=.two ⟨aDb,0,.cur,aO,1,jK,fun x=>mX F0 x.1 x.2.1⟩
theorem yd:a6 63 oa:=VZ ZZ ⟨fN,trivial⟩ func63 ad (by kernel_rfl)
abbrev aDc:List (Ty×Bool):=[(.int .i64,false),(.int .i64,false),(.int .i64,false)]
def bM (x a b:Int):=bj aA F ad f73 aDc aO 1 (x,a,b,())
theorem avQ (x a b:Int):bM F x a b=br (decide (x>=a)) (some (decide (x<=b),())) (some (false,())):=by kernel_rfl
def b7:Any:=.one ⟨aDc,aO,1,fun x=>bM F0 x.1 x.2.1 x.2.2.1⟩
theorem cA:a6 73 b7:=aq aA trivial func73 ad (by kernel_rfl)
def Z0:=[(73,b7)]
abbrev S8:List (Ty×Bool):=[(K1,true)]
def dI (c:D1):=bj Z0 F ad f32 S8 aO 1 (c,())
theorem anX (c:D1):dI F c=(bM F0 c.1 4 7).bind fun a=>br a.1 ((bM F0 c.2 1 6).bind fun b=>some (b.1,())) (some (false,())):=by kernel_rfl
def cw:Any:=.one ⟨S8,aO,1,fun x=>dI F0 x.1⟩
theorem de:a6 32 cw:=aq Z0 ⟨cA,trivial⟩ func32 ad (by kernel_rfl)
def H4:Nat->Option Hint:=look [(4,{live:=[0,1,5,6,7],xl:=[5],rl:=[4]})]
def lX (s:ByteArray)(a b i:Int)(c:List ByteArray):= cQ 36 [(0,ZY s),(1,.v (.c (.int .u8 a))),(5,.v (.c (.own 1000000 none))),(6,a8 b),(7,a8 i)] [] [ay 1000000 9 (.str) c]
def S9 (a:List ByteArray):= cQ 36 [(5,.v (.c (.own 1000000 none)))] [] [ay 1000000 9 (.str) a]
def rH (a:St):Option U:=e9 aA F H4 [.r,.r,.r,.l,.r,.b,.i] f218 J n a
abbrev ayx:List (Ty×Bool):=[(.sl 9 (.str),false)]
def Kb:=hf aA F H4 [.r,.r,.r,.l,.r,.b] f218 ayx 2
theorem Mq (s:ByteArray)(c a i:Int)(b:List ByteArray):rH F J (n+1) (lX s c a i b)=br (decide (i<=(s.size:Int))) (br (i==(s.size:Int)) (ck (S5 a i (s.size:Int)) (ck (ei F b.length [s.extract a.toNat i.toNat].length 16) (rH F J n (lX s c (aj (i+1)) (aj (i+1)) (b++[s.extract a.toNat i.toNat]))))) (ck (bG i (s.size:Int)) (br ((jI s i)==c) (ck (S5 a i (s.size:Int)) (ck (ei F b.length [s.extract a.toNat i.toNat].length 16) (rH F J n (lX s c (aj (i+1)) (aj (i+1)) (b++[s.extract a.toNat i.toNat]))))) (rH F J n (lX s c a (aj (i+1)) b))))) (J (.exit 0) (S9 b)):=by kernel_rfl
theorem agO (a:List ByteArray):Kb F (.exit 0) (S9 a)=some (a,()):=by kernel_rfl
abbrev Z1:List (Ty×Bool):=[(.str,false),(.int .u8,false)]
def vX (s:ByteArray)(a:Int):=bj aA F H4 f218 Z1 ayx 2 (s,a,())
theorem ar3 (s:ByteArray)(a:Int):vX F s a=rH F (Kb F) F.n (lX s a 0 0 []):=by kernel_rfl
def Kc:Any:=.one ⟨Z1,ayx,2,fun x=>vX F0 x.1 x.2.1⟩
theorem Z2:a6 218 Kc:=aq aA trivial func218 H4 (by kernel_rfl)
def H5:Nat->Option Hint:=look [(2,{live:=[0,1,7],rl:=[4,5,6]})]
def ye (s:ByteArray)(a i:Int):= bO 26 [(0,ZY s),(1,.v (.c (.int .u8 a))),(7,a8 i)]
def V2 (a b:ByteArray)(c:Bool):= bO 26 [(4,ZY a),(5,ZY b),(6,H0 c)]
def Ta   := bO 26 []
def H6 (a:St):Option U:=e9 aA F H5 [.r,.l,.r,.b,.i] f219 J n a
abbrev aGx:List (Ty×Bool):=[(.str,false),(.str,false),(.bool,false)]
def yf:=hf aA F H5 [.r,.l,.r,.b] f219 aGx 1
theorem Mr (s:ByteArray)(a i:Int):H6 F J (n+1) (ye s a i)=br (decide (i<(s.size:Int))) (ck (bG i (s.size:Int)) (br ((jI s i)==a) (ck (S5 0 i (s.size:Int)) (ck (S5 (aj (i+1)) (s.size:Int) (s.size:Int)) (J .ret (V2 (s.extract (0:Int).toNat i.toNat) (s.extract (aj (i+1)).toNat (s.size:Int).toNat) true)))) (H6 F J n (ye s a (aj (i+1)))))) (J (.exit 0) (Ta)):=by kernel_rfl
theorem akM (a b:ByteArray)(c:Bool):yf F .ret (V2 a b c)=some (a,b,c,()):=by kernel_rfl
theorem agP: yf F (.exit 0) (Ta)=some (ak,ak,false,()):=by kernel_rfl
def h7 (s:ByteArray)(a:Int):=bj aA F H5 f219 Z1 aGx 1 (s,a,())
theorem ar4 (s:ByteArray)(a:Int):h7 F s a=H6 F (yf F) F.n (ye s a 0):=by kernel_rfl
def Kd:Any:=.one ⟨Z1,aGx,1,fun x=>h7 F0 x.1 x.2.1⟩
theorem Z3:a6 219 Kd:=aq aA trivial func219 H5 (by kernel_rfl)
def Dg:Nat->Option Hint:=look [(5,{live:=[0,3,4],xl:=[3,4],rl:=[2]})]
def oc (a:Int)(b:Bool)(c:ByteArray):= bO 31 [(0,a8 a),(3,H0 b),(4,ZY c)]
def PF (a:Bool)(b:ByteArray):= bO 31 [(3,H0 a),(4,ZY b)]
def tC (a:St):Option U:=e9 aA F Dg [.r,.r,.r,.r,.l,.b,.i] f254 J n a
abbrev dB:List (Ty×Bool):=[(.str,false)]
def Gb:=hf aA F Dg [.r,.r,.r,.r,.l,.b] f254 dB 1
theorem Ke (a:Int)(c:Bool)(b:ByteArray):tC F J (n+1) (oc a c b)=br (a != 0) (br (decide ((Int.tmod a 10)<0)) (ck (UW F (strOf [IntKind.wrap .u8 (aj (48+(aj (0-(Int.tmod a 10)))))]).size b.size) (tC F J n (oc (aj (Int.tdiv a 10)) c ((strOf [IntKind.wrap .u8 (aj (48+(aj (0-(Int.tmod a 10)))))])++b)))) (ck (UW F (strOf [IntKind.wrap .u8 (aj (48+(Int.tmod a 10)))]).size b.size) (tC F J n (oc (aj (Int.tdiv a 10)) c ((strOf [IntKind.wrap .u8 (aj (48+(Int.tmod a 10)))])++b))))) (J (.exit 0) (PF c b)):=by kernel_rfl
theorem adZ (b:Bool)(a:ByteArray):Gb F (.exit 0) (PF b a)=br b (ck (UW F (ByteArray.mk #[45]).size a.size) (some ((ByteArray.mk #[45])++a,()))) (some (a,())):=by kernel_rfl
def kI (a:Int):=bj aA F Dg f254 cE dB 1 (a,())
theorem anY (a:Int):kI F a=br (a==0) (some (ByteArray.mk #[48],())) (tC F (Gb F) F.n (oc a (decide (a<0)) ak)):=by kernel_rfl
def ug:Any:=.one ⟨cE,dB,1,fun x=>kI F0 x.1⟩
theorem Kf:a6 254 ug:=aq aA trivial func254 Dg (by kernel_rfl)
def Dh:=[(254,ug)]
def Di:Nat->Option Hint:=look [(5,{live:=[0,4,5],xl:=[0,4],rl:=[2,3]})]
def uh (s:ByteArray)(a i:Int):= bO 43 [(0,ZY s),(4,a8 a),(5,a8 i)]
def Gc (a:Int)(b:Bool):= bO 43 [(2,a8 a),(3,H0 b)]
def PG (s:ByteArray)(a:Int):= bO 43 [(0,ZY s),(4,a8 a)]
def Dj (a:St):Option U:=e9 Dh F Di [.r,.r,.r,.l,.r,.b,.i] f220 J n a
abbrev atH:List (Ty×Bool):=[(.int .i64,false),(.bool,false)]
def ui:=hf Dh F Di [.r,.r,.r,.l,.r,.b] f220 atH 1
theorem Kg (s:ByteArray)(a i:Int):Dj F J (n+1) (uh s a i)=br (decide (i<(s.size:Int))) (ck (bG i (s.size:Int)) (br (decide ((jI s i)<48)) (J .ret (Gc 0 false)) (ck (bG i (s.size:Int)) (br (decide ((jI s i)>57)) (J .ret (Gc 0 false)) (ck (bG i (s.size:Int)) (Dj F J n (uh s (aj ((aj ((aj (10*a))+(aj (jI s i))))-48)) (aj (i+1))))))))) (J (.exit 0) (PG s a)):=by kernel_rfl
theorem agQ (a:Int)(b:Bool):ui F .ret (Gc a b)=some (a,b,()):=by kernel_rfl
theorem ad0 (s:ByteArray)(a:Int):ui F (.exit 0) (PG s a)=(kI F0 a).bind fun b=>br (!(b.1.toList==s.toList)) (some (0,false,())) (some (a,true,())):=by kernel_rfl
def mY (s:ByteArray):=bj Dh F Di f220 dB atH 1 (s,())
theorem anZ (s:ByteArray):mY F s=br (decide ((s.size:Int)<1)) (some (0,false,())) (br (decide ((s.size:Int)>6)) (some (0,false,())) (Dj F (ui F) F.n (uh s 0 0))):=by kernel_rfl
def Ge:Any:=.one ⟨dB,atH,1,fun x=>mY F0 x.1⟩
theorem V3:a6 220 Ge:=aq Dh ⟨Kf,trivial⟩ func220 Di (by kernel_rfl)
def ajq:=[(73,b7)]
abbrev Z4:List (Ty×Bool):=[(K4,true)]
def rI (x:D4):=bj ajq F ad f211 Z4 aO 1 (x,())
theorem avR (x:D4):rI F x=(bM F0 x.1 0 3).bind fun a=>br a.1 ((bM F0 x.2.1 0 3).bind fun b=>br b.1 ((bM F0 x.2.2.1 0 1000).bind fun c=>br c.1 ((bM F0 x.2.2.2 0 99).bind fun d=>some (d.1,())) (some (false,()))) (some (false,()))) (some (false,())):=by kernel_rfl
def lq:Any:=.one ⟨Z4,aO,1,fun x=>rI F0 x.1⟩
theorem rJ:a6 211 lq:=aq ajq ⟨cA,trivial⟩ func211 ad (by kernel_rfl)
def Z5:=[(211,lq),(254,ug)]
def wN (x:D4):=bj Z5 F ad f295 Z4 dB 1 (x,())
theorem an0 (x:D4):wN F x=(rI F0 x).bind fun e=>br (!e.1) (some (ak,())) ((kI F0 x.1).bind fun a=>ck (UW F a.1.size (ByteArray.mk #[62]).size) ((kI F0 x.2.1).bind fun b=>ck (UW F (a.1++(ByteArray.mk #[62])).size b.1.size) (ck (UW F ((a.1++(ByteArray.mk #[62]))++b.1).size (ByteArray.mk #[58]).size) ((kI F0 x.2.2.1).bind fun c=>ck (UW F (((a.1++(ByteArray.mk #[62]))++b.1)++(ByteArray.mk #[58])).size c.1.size) (ck (UW F ((((a.1++(ByteArray.mk #[62]))++b.1)++(ByteArray.mk #[58]))++c.1).size (ByteArray.mk #[35]).size) ((kI F0 x.2.2.2).bind fun d=>ck (UW F (((((a.1++(ByteArray.mk #[62]))++b.1)++(ByteArray.mk #[58]))++c.1)++(ByteArray.mk #[35])).size d.1.size) (some ((((((a.1++(ByteArray.mk #[62]))++b.1)++(ByteArray.mk #[58]))++c.1)++(ByteArray.mk #[35]))++d.1,())))))))):=by kernel_rfl
def Gf:Any:=.one ⟨Z4,dB,1,fun x=>wN F0 x.1⟩
theorem V4:a6 295 Gf:=aq Z5 ⟨rJ,Kf,trivial⟩ func295 ad (by kernel_rfl)
def ajr:=[(219,Kd),(220,Ge),(295,Gf)]
abbrev aDd:List (Ty×Bool):=[(K4,true),(.bool,false)]
def YA (s:ByteArray):=bj ajr F ad f271 dB aDd 1 (s,())
theorem avS (s:ByteArray):YA F s=(h7 F0 s 62).bind fun a=>(h7 F0 a.2.1 58).bind fun b=>(h7 F0 b.2.1 35).bind fun c=>(mY F0 a.1).bind fun d=>(mY F0 b.1).bind fun e=>(mY F0 c.1).bind fun f=>(mY F0 c.2.1).bind fun g=>br (s.toList==ak.toList) (some ((0,0,0,0),false,())) ((wN F0 (d.1,e.1,f.1,g.1)).bind fun h=>br (!(h.1.toList==s.toList)) (some ((0,0,0,0),false,())) (some ((d.1,e.1,f.1,g.1),true,()))):=by kernel_rfl
def Z6:Any:=.one ⟨dB,aDd,1,fun x=>YA F0 x.1⟩
theorem avT:a6 271 Z6:=aq ajr ⟨Z3,V3,V4,trivial⟩ func271 ad (by kernel_rfl)
def H7:=[(218,Kc),(271,Z6)]
def H8:Nat->Option Hint:=look [(6,{live:=[4,5,6],xl:=[4],rl:=[2,3]})]
def yg (i:Int)(b:List D4)(a:List ByteArray):= cQ 37 [(4,.v (.c (.own 1000000 none))),(5,.v (.c (.own 1000001 none))),(6,a8 i)] [] [ay 1000000 52 K4 b,ay 1000001 9 (.str) a]
def V5 (a:Bool)(b:List D4):= cQ 37 [(2,.v (.c (.own 1000000 none))),(3,H0 a)] [] [ay 1000000 52 K4 b]
def Tb (a:List D4):= cQ 37 [(4,.v (.c (.own 1000000 none)))] [] [ay 1000000 52 K4 a]
def H9 (a:St):Option U:=e9 H7 F H8 [.r,.r,.r,.r,.l,.r,.b,.i] f221 J n a
abbrev V6:List (Ty×Bool):=[(K5,false),(.bool,false)]
def yh:=hf H7 F H8 [.r,.r,.r,.r,.l,.r,.b] f221 V6 2
theorem Ms (i:Int)(b:List D4)(a:List ByteArray):H9 F J (n+1) (yg i b a)=br (decide (i<(a.length:Int))) (ck (bG i (a.length:Int)) ((YA F0 (aK a i ByteArray.empty)).bind fun c=>br (!c.2.1) (J .ret (V5 false [])) (ck (ei F b.length [c.1].length 32) (H9 F J n (yg (aj (i+1)) (b++[c.1]) a))))) (J (.exit 0) (Tb b)):=by kernel_rfl
theorem akN (a:Bool)(b:List D4):yh F .ret (V5 a b)=some (b,a,()):=by kernel_rfl
theorem agR (a:List D4):yh F (.exit 0) (Tb a)=some (a,true,()):=by kernel_rfl
def Cb (s:ByteArray):=bj H7 F H8 f221 dB V6 2 (s,())
theorem ar5 (s:ByteArray):Cb F s=br (s.toList==ak.toList) (some ([],true,())) ((vX F0 s 44).bind fun a=>H9 F (yh F) F.n (yg 0 [] a.1)):=by kernel_rfl
def V7:Any:=.one ⟨dB,V6,2,fun x=>Cb F0 x.1⟩
theorem ar6:a6 221 V7:=aq H7 ⟨Z2,avT,trivial⟩ func221 H8 (by kernel_rfl)
def Ia:=[(218,Kc),(219,Kd),(220,Ge),(221,V7)]
def Ib:Nat->Option Hint:=look [(10,{live:=[4,5,6,7,8],xl:=[5],rl:=[2,3]})]
def yi (c i:Int)(d a:List D6)(b:List ByteArray):= cQ 91 [(4,.v (.c (.own 1000000 none))),(5,.v (.c (.own 1000001 none))),(6,.v (.c (.own 1000002 none))),(7,a8 c),(8,a8 i)] [] [ay 1000000 157 K6 d,ay 1000001 157 K6 a,ay 1000002 9 (.str) b]
def jM (a:Bool)(b:List D6):= cQ 91 [(2,.v (.c (.own 1000000 none))),(3,H0 a)] [] [ay 1000000 157 K6 b]
def Tc (a:List D6):= cQ 91 [(5,.v (.c (.own 1000000 none)))] [] [ay 1000000 157 K6 a]
def Ic (a:St):Option U:=e9 Ia F Ib [.r,.r,.r,.r,.r,.r,.r,.l,.r,.b,.i] f150 J n a
abbrev atI:List (Ty×Bool):=[(K7,false),(.bool,false)]
def yj:=hf Ia F Ib [.r,.r,.r,.r,.r,.r,.r,.l,.r,.b] f150 atI 2
theorem Mt (g i:Int)(a d:List D6)(c:List ByteArray):Ic F J (n+1) (yi g i a d c)=br (decide (i<(c.length:Int))) (ck (bG i (c.length:Int)) ((h7 F0 (aK c i ByteArray.empty) 124).bind fun f=>(mY F0 f.1).bind fun b=>(Cb F0 f.2.1).bind fun e=>br (!f.2.2.1) (J .ret (jM false a)) (br (!b.2.1) (J .ret (jM false a)) (br (!e.2.1) (J .ret (jM false a)) (br (decide (b.1<=g)) (J .ret (jM false a)) (br (decide (b.1>60)) (J .ret (jM false a)) (br (decide ((e.1.length:Int)>2)) (J .ret (jM false a)) (ck (ei F d.length [(b.1,e.1)].length 32) (Ic F J n (yi b.1 (aj (i+1)) a (d++[(b.1,e.1)]) c)))))))))) (J (.exit 0) (Tc d)):=by kernel_rfl
theorem Td (a:Bool)(b:List D6):yj F .ret (jM a b)=some (b,a,()):=by kernel_rfl
theorem agS (a:List D6):yj F (.exit 0) (Tc a)=some (a,true,()):=by kernel_rfl
def pZ (s:ByteArray):=bj Ia F Ib f150 dB atI 2 (s,())
theorem ar7 (s:ByteArray):pZ F s=br (s.toList==ak.toList) (some ([],true,())) ((vX F0 s 47).bind fun a=>ck (bG 0 (a.1.length:Int)) (br (!((aK a.1 0 ByteArray.empty).toList==ak.toList)) (some ([],false,())) (br (decide ((a.1.length:Int)>31)) (some ([],false,())) (Ic F (yj F) F.n (yi 0 1 [] [] a.1))))):=by kernel_rfl
def p0:Any:=.one ⟨dB,atI,2,fun x=>pZ F0 x.1⟩
theorem Dk:a6 150 p0:=aq Ia ⟨Z2,Z3,V3,ar6,trivial⟩ func150 Ib (by kernel_rfl)
def Z7:=[(150,p0)]
def eY (s:ByteArray):=bj Z7 F ad f78 dB aO 1 (s,())
theorem an1 (s:ByteArray):eY F s=(pZ F0 s).bind fun a=>some (a.2.1,()):=by kernel_rfl
def eN:Any:=.one ⟨dB,aO,1,fun x=>eY F0 x.1⟩
theorem gL:a6 78 eN:=aq Z7 ⟨Dk,trivial⟩ func78 ad (by kernel_rfl)
def Z8:=[(150,p0)]
def du (s:ByteArray):=bj Z8 F ad f79 dB cE 1 (s,())
theorem an2 (s:ByteArray):du F s=(pZ F0 s).bind fun a=>br (!a.2.1) (some (0,())) (br ((a.1.length:Int)==0) (some (0,())) (ck (bG (aj ((a.1.length:Int)-1)) (a.1.length:Int)) (some ((aK a.1 (aj ((a.1.length:Int)-1)) (0,[])).1,())))):=by kernel_rfl
def df:Any:=.one ⟨dB,cE,1,fun x=>du F0 x.1⟩
theorem eH:a6 79 df:=aq Z8 ⟨Dk,trivial⟩ func79 ad (by kernel_rfl)
def Ie:Nat->Option Hint:=look [(2,{live:=[0,1,5],rl:=[4]})]
def p1 (a:Int)(s:List Int)(i:Int):= bO 41 [(0,a8 a),(1,hD 3 (.int .i64) s),(5,a8 i)]
def yk (a:Bool):= bO 41 [(4,H0 a)]
def Te   := bO 41 []
def yl (a:St):Option U:=e9 aA F Ie [.r,.l,.r,.b,.i] f75 J n a
def ym:=hf aA F Ie [.r,.l,.r,.b] f75 aO 1
theorem Mu (a:Int)(s:List Int)(i:Int):yl F J (n+1) (p1 a s i)=br (decide (i<(s.length:Int))) (ck (bG i (s.length:Int)) (br (decide ((aK s i 0)<0)) (J .ret (yk false)) (ck (bG i (s.length:Int)) (br (decide ((aK s i 0)>=a)) (J .ret (yk false)) (br (decide (i>0)) (ck (bG (aj (i-1)) (s.length:Int)) (ck (bG i (s.length:Int)) (br (decide ((aK s (aj (i-1)) 0)>=(aK s i 0))) (J .ret (yk false)) (yl F J n (p1 a s (aj (i+1))))))) (yl F J n (p1 a s (aj (i+1))))))))) (J (.exit 0) (Te)):=by kernel_rfl
theorem akO (a:Bool):ym F .ret (yk a)=some (a,()):=by kernel_rfl
theorem agT: ym F (.exit 0) (Te)=some (true,()):=by kernel_rfl
abbrev aDe:List (Ty×Bool):=[(.int .i64,false),(.sl 3 (.int .i64),false)]
def Cc (a:Int)(s:List Int):=bj aA F Ie f75 aDe aO 1 (a,s,())
theorem ar8 (a:Int)(s:List Int):Cc F a s=yl F (ym F) F.n (p1 a s 0):=by kernel_rfl
def yn:Any:=.one ⟨aDe,aO,1,fun x=>Cc F0 x.1 x.2.1⟩
theorem OX:a6 75 yn:=aq aA trivial func75 Ie (by kernel_rfl)
def Z9:=[(32,cw)]
def wO (c:D1):=bj Z9 F ad f127 S8 cE 1 (c,())
theorem an3 (c:D1):wO F c=(dI F0 c).bind fun a=>br (!a.1) (some (0,())) (some (aj (c.1-(aj (Int.tdiv (aj (c.1-1)) 3))),())):=by kernel_rfl
def uj:Any:=.one ⟨S8,cE,1,fun x=>wO F0 x.1⟩
theorem Kh:a6 127 uj:=aq Z9 ⟨de,trivial⟩ func127 ad (by kernel_rfl)
def ajs:=[(32,cw),(75,yn),(78,eN),(79,df),(127,uj)]
abbrev GX:List (Ty×Bool):=[(K1,true),(K9,true)]
def kp (c:D1)(q:D9):=bj ajs F ad f134 GX aO 1 (c,q,())
theorem avU (c:D1)(q:D9):kp F c q=(dI F0 c).bind fun a=>br (!a.1) (some (false,())) ((eY F0 q.2.1).bind fun b=>br (!b.1) (some (false,())) ((du F0 q.2.1).bind fun d=>br (d.1 != q.1) (some (false,())) (br (q.2.1.toList==ak.toList) (some ((q.2.2.length:Int)==0,())) ((Cc F0 c.1 q.2.2).bind fun e=>br e.1 ((wO F0 c).bind fun f=>some (decide ((q.2.2.length:Int)>=f.1),())) (some (false,())))))):=by kernel_rfl
def gw:Any:=.one ⟨GX,aO,1,fun x=>kp F0 x.1 x.2.1⟩
theorem kJ:a6 134 gw:=aq ajs ⟨de,OX,gL,eH,Kh,trivial⟩ func134 ad (by kernel_rfl)
def aaa:=[(73,b7),(78,eN),(134,gw)]
abbrev Tf:List (Ty×Bool):=[(K1,true),(K12,true)]
def iX (c:D1)(s:U1):=bj aaa F ad f141 Tf aO 1 (c,s,())
theorem an4 (c:D1)(s:U1):iX F c s=(bM F0 s.1 0 60).bind fun a=>br a.1 ((bM F0 s.2.1 0 60).bind fun b=>br b.1 ((kp F0 c s.2.2.1).bind fun d=>br d.1 ((eY F0 s.2.2.2).bind fun e=>some (e.1,())) (some (false,()))) (some (false,()))) (some (false,())):=by kernel_rfl
def h8:Any:=.one ⟨Tf,aO,1,fun x=>iX F0 x.1 x.2.1⟩
theorem lY:a6 141 h8:=aq aaa ⟨cA,gL,kJ,trivial⟩ func141 ad (by kernel_rfl)
abbrev aDf:List (Ty×Bool):=[(K4,true),(K4,true)]
def tD (a b:D4):=bj aA F ad f212 aDf aO 1 (a,b,())
theorem agU (a b:D4):tD F a b=br (decide (a.1<b.1)) (some (true,())) (br (a.1==b.1) (some (decide (a.2.2.2<b.2.2.2),())) (some (false,()))):=by kernel_rfl
def yo:Any:=.one ⟨aDf,aO,1,fun x=>tD F0 x.1 x.2.1⟩
theorem PH:a6 212 yo:=aq aA trivial func212 ad (by kernel_rfl)
def Dl:=[(211,lq),(212,yo)]
def Dm:Nat->Option Hint:=look [(2,{live:=[0,3],xl:=[0],rl:=[2]})]
def od (p:List D4)(i:Int):= bO 36 [(0,hD 52 (K4) p),(3,a8 i)]
def Gg (a:Bool):= bO 36 [(2,H0 a)]
def PI (p:List D4):= bO 36 [(0,hD 52 (K4) p)]
def tE (a:St):Option U:=e9 Dl F Dm [.r,.l,.r,.b,.i] f142 J n a
def uk:=hf Dl F Dm [.r,.l,.r,.b] f142 aO 1
theorem Ki (p:List D4)(i:Int):tE F J (n+1) (od p i)=br (decide (i<(p.length:Int))) (ck (bG i (p.length:Int)) ((rI F0 (aK p i K4.aD)).bind fun a=>br (!a.1) (J .ret (Gg false)) (br (decide (i>0)) (ck (bG (aj (i-1)) (p.length:Int)) (ck (bG i (p.length:Int)) ((tD F0 (aK p (aj (i-1)) K4.aD) (aK p i K4.aD)).bind fun b=>br (!b.1) (J .ret (Gg false)) (tE F J n (od p (aj (i+1))))))) (tE F J n (od p (aj (i+1))))))) (J (.exit 0) (PI p)):=by kernel_rfl
theorem agV (a:Bool):uk F .ret (Gg a)=some (a,()):=by kernel_rfl
theorem ad1 (p:List D4):uk F (.exit 0) (PI p)=some (decide ((p.length:Int)<=12),()):=by kernel_rfl
abbrev kd:List (Ty×Bool):=[(K5,false)]
def E7 (p:D5):=bj Dl F Dm f142 kd aO 1 (p,())
theorem an5 (p:D5):E7 F p=tE F (uk F) F.n (od p 0):=by kernel_rfl
def Gi:Any:=.one ⟨kd,aO,1,fun x=>E7 F0 x.1⟩
theorem V8:a6 142 Gi:=aq Dl ⟨rJ,PH,trivial⟩ func142 Dm (by kernel_rfl)
def aab:=[(32,cw),(73,b7),(75,yn),(78,eN),(79,df)]
def kK (c:D1)(p:D9):=bj aab F ad f213 GX aO 1 (c,p,())
theorem an6 (c:D1)(p:D9):kK F c p=(dI F0 c).bind fun a=>br (!a.1) (some (false,())) ((bM F0 p.1 1 60).bind fun b=>br (!b.1) (some (false,())) ((Cc F0 c.1 p.2.2).bind fun d=>br (!d.1) (some (false,())) (br ((p.2.2.length:Int)==0) (some (false,())) (br (p.2.1.toList==ak.toList) (some (true,())) ((eY F0 p.2.1).bind fun e=>br e.1 ((du F0 p.2.1).bind fun f=>some (f.1==p.1,())) (some (false,()))))))):=by kernel_rfl
def og:Any:=.one ⟨GX,aO,1,fun x=>kK F0 x.1 x.2.1⟩
theorem yp:a6 213 og:=aq aab ⟨de,cA,OX,gL,eH,trivial⟩ func213 ad (by kernel_rfl)
abbrev wP:List (Ty×Bool):=[(K9,true),(K9,true)]
def p2 (a b:D9):=bj aA F ad f214 wP aO 1 (a,b,())
theorem ad2 (a b:D9):p2 F a b=br (decide (a.1<b.1)) (some (true,())) (br (a.1==b.1) (some (Op.bytesLess a.2.1.toList b.2.1.toList,())) (some (false,()))):=by kernel_rfl
def vY:Any:=.one ⟨wP,aO,1,fun x=>p2 F0 x.1 x.2.1⟩
theorem Mv:a6 214 vY:=aq aA trivial func214 ad (by kernel_rfl)
def yq:=[(213,og),(214,vY)]
def yr:Nat->Option Hint:=look [(2,{live:=[1,2,5],xl:=[1],rl:=[4]})]
def lZ (b:List D9)(i c a:Int):= cQ 39 [(1,hD 50 (K9) b),b0 2,(5,a8 i)] [(2,[ao c,ao a])] []
def Cd (a:Bool):= bO 39 [(4,H0 a)]
def Mw (a:List D9):= bO 39 [(1,hD 50 (K9) a)]
def p3 (a:St):Option U:=e9 yq F yr [.r,.l,.r,.b,.i] f143 J n a
def rK:=hf yq F yr [.r,.l,.r,.b] f143 aO 1
theorem GY (a:List D9)(i c b:Int):p3 F J (n+1) (lZ a i c b)=br (decide (i<(a.length:Int))) (ck (bG i (a.length:Int)) ((kK F0 (c,b) (aK a i K9.aD)).bind fun d=>br (!d.1) (J .ret (Cd false)) (br (decide (i>0)) (ck (bG (aj (i-1)) (a.length:Int)) (ck (bG i (a.length:Int)) ((p2 F0 (aK a (aj (i-1)) K9.aD) (aK a i K9.aD)).bind fun e=>br (!e.1) (J .ret (Cd false)) (p3 F J n (lZ a (aj (i+1)) c b))))) (p3 F J n (lZ a (aj (i+1)) c b))))) (J (.exit 0) (Mw a)):=by kernel_rfl
theorem ad3 (a:Bool):rK F .ret (Cd a)=some (a,()):=by kernel_rfl
theorem ab0 (a:List D9):rK F (.exit 0) (Mw a)=some (decide ((a.length:Int)<=20),()):=by kernel_rfl
abbrev aDg:List (Ty×Bool):=[(K1,true),(K13,false)]
def nq (c:D1)(a:D13):=bj yq F yr f143 aDg aO 1 (c,a,())
theorem akP (c:D1)(a:D13):nq F c a=p3 F (rK F) F.n (lZ a 0 c.1 c.2):=by kernel_rfl
def Ce:Any:=.one ⟨aDg,aO,1,fun x=>nq F0 x.1 x.2.1⟩
theorem Tg:a6 143 Ce:=aq yq ⟨yp,Mv,trivial⟩ func143 yr (by kernel_rfl)
def aac:=[(73,b7)]
abbrev pa:List (Ty×Bool):=[(K14,true)]
def mZ (d:D14):=bj aac F ad f144 pa aO 1 (d,())
theorem an7 (d:D14):mZ F d=br (decide ((d.1.length:Int)<=100000)) ((bM F0 d.2 0 (d.1.length:Int)).bind fun a=>some (a.1,())) (some (false,())):=by kernel_rfl
def oh:Any:=.one ⟨pa,aO,1,fun x=>mZ F0 x.1⟩
theorem yt:a6 144 oh:=aq aac ⟨cA,trivial⟩ func144 ad (by kernel_rfl)
def Dn:Nat->Option Hint:=look [(2,{live:=[0,1,5],xl:=[0,1],rl:=[4]})]
def um (a b:List Int)(i:Int):= bO 32 [(0,hD 3 (.int .i64) a),(1,hD 3 (.int .i64) b),(5,a8 i)]
def Th (a:Bool):= bO 32 [(4,H0 a)]
def Cf (a b:List Int):= bO 32 [(0,hD 3 (.int .i64) a),(1,hD 3 (.int .i64) b)]
def Dp (a:St):Option U:=e9 aA F Dn [.r,.l,.r,.b,.i] f348 J n a
def uo:=hf aA F Dn [.r,.l,.r,.b] f348 aO 1
theorem Kj (a b:List Int)(i:Int):Dp F J (n+1) (um a b i)=br (decide (i<(a.length:Int))) (br (decide (i<(b.length:Int))) (ck (bG i (a.length:Int)) (ck (bG i (b.length:Int)) (br ((aK a i 0) != (aK b i 0)) (J .ret (Th false)) (Dp F J n (um a b (aj (i+1))))))) (J (.exit 0) (Cf a b))) (J (.exit 0) (Cf a b)):=by kernel_rfl
theorem agW (a:Bool):uo F .ret (Th a)=some (a,()):=by kernel_rfl
theorem ad4 (a b:List Int):uo F (.exit 0) (Cf a b)=some ((a.length:Int)==(b.length:Int),()):=by kernel_rfl
abbrev akQ:List (Ty×Bool):=[(.sl 3 (.int .i64),false),(.sl 3 (.int .i64),false)]
def E8 (a b:List Int):=bj aA F Dn f348 akQ aO 1 (a,b,())
theorem an8 (a b:List Int):E8 F a b=Dp F (uo F) F.n (um a b 0):=by kernel_rfl
def Gj:Any:=.one ⟨akQ,aO,1,fun x=>E8 F0 x.1 x.2.1⟩
theorem V9:a6 348 Gj:=aq aA trivial func348 Dn (by kernel_rfl)
def aad:=[(348,Gj)]
def wQ (a b:D9):=bj aad F ad f317 wP aO 1 (a,b,())
theorem an9 (a b:D9):wQ F a b=br (a.1==b.1) (br (a.2.1.toList==b.2.1.toList) ((E8 F0 a.2.2 b.2.2).bind fun c=>some (c.1,())) (some (false,()))) (some (false,())):=by kernel_rfl
def uq:Any:=.one ⟨wP,aO,1,fun x=>wQ F0 x.1 x.2.1⟩
theorem Kk:a6 317 uq:=aq aad ⟨V9,trivial⟩ func317 ad (by kernel_rfl)
def PJ:=[(317,uq)]
abbrev aDh:List (Ty×Bool):=[(K15,true),(K15,true)]
def yu (a b:D15):=bj PJ F ad f315 aDh aO 1 (a,b,())
theorem ad5 (a b:D15):yu F a b=br (a.1.toList==b.1.toList) ((wQ F0 a.2 b.2).bind fun c=>some (c.1,())) (some (false,())):=by kernel_rfl
def Kl:Any:=.one ⟨aDh,aO,1,fun x=>yu F0 x.1 x.2.1⟩
theorem ad6:a6 315 Kl:=aq PJ ⟨Kk,trivial⟩ func315 ad (by kernel_rfl)
def Wa:=[(348,Gj)]
def Ig (a b:D9):=bj Wa F ad f316 wP aO 1 (a,b,())
theorem akR (a b:D9):Ig F a b=br (a.1==b.1) (br (a.2.1.toList==b.2.1.toList) ((E8 F0 a.2.2 b.2.2).bind fun c=>some (c.1,())) (some (false,()))) (some (false,())):=by kernel_rfl
def PK:Any:=.one ⟨wP,aO,1,fun x=>Ig F0 x.1 x.2.1⟩
theorem akS:a6 316 PK:=aq Wa ⟨V9,trivial⟩ func316 ad (by kernel_rfl)
end
end Go.Am.Tryz
namespace Go.Am.Tryz
open Go.Am Go.Proofs Go.Proofs.Tryz
noncomputable section
variable {U:Type} (F:rz) (J:Ex->St->Option U) (n:Nat)
def Wb:=[(315,Kl),(316,PK),(317,uq)]
abbrev aDi:List (Ty×Bool):=[(K21,true),(K21,true)]
def kL (a b:OW):=bj Wb F ad f270 aDi aO 1 (a,b,())
theorem akT (a b:OW):kL F a b=br (a.1==b.1) (br (a.2.1==b.2.1) ((yu F0 a.2.2.1 b.2.2.1).bind fun c=>br c.1 ((Ig F0 a.2.2.2.1 b.2.2.2.1).bind fun d=>br d.1 ((wQ F0 a.2.2.2.2.1 b.2.2.2.2.1).bind fun e=>br e.1 (br (a.2.2.2.2.2.1==b.2.2.2.2.2.1) (some ((a.2.2.2.2.2.2.1==b.2.2.2.2.2.2.1)&&((a.2.2.2.2.2.2.2.1==b.2.2.2.2.2.2.2.1)&&((a.2.2.2.2.2.2.2.2.1==b.2.2.2.2.2.2.2.2.1)&&((a.2.2.2.2.2.2.2.2.2==b.2.2.2.2.2.2.2.2.2)&&true))),())) (some (false,()))) (some (false,()))) (some (false,()))) (some (false,()))) (some (false,()))) (some (false,())):=by kernel_rfl
def PL:Any:=.one ⟨aDi,aO,1,fun x=>kL F0 x.1 x.2.1⟩
theorem akU:a6 270 PL:=aq Wb ⟨ad6,akS,Kk,trivial⟩ func270 ad (by kernel_rfl)
def Wc:=[(270,PL)]
abbrev wR:List (Ty×Bool):=[(K21,true)]
def Ih (m:OW):=bj Wc F ad f215 wR aO 1 (m,())
theorem akV (m:OW):Ih F m=br (m.1==1) ((kL F0 (m.1,0,m.2.2.1,(0,ak,[]),(0,ak,[]),0,0,0,0,0) m).bind fun a=>some (a.1,())) (br (m.1==2) ((kL F0 (m.1,0,(ak,0,ak,[]),m.2.2.2.1,(0,ak,[]),0,0,0,0,0) m).bind fun a=>some (a.1,())) (br (m.1==3) ((kL F0 (m.1,m.2.1,(ak,0,ak,[]),(0,ak,[]),m.2.2.2.2.1,m.2.2.2.2.2.1,0,0,0,0) m).bind fun a=>some (a.1,())) (br (m.1==4) ((kL F0 (m.1,0,(ak,0,ak,[]),(0,ak,[]),(0,ak,[]),0,m.2.2.2.2.2.2) m).bind fun a=>some (a.1,())) ((kL F0 (m.1,0,(ak,0,ak,[]),(0,ak,[]),(0,ak,[]),0,0,0,0,0) m).bind fun a=>some (a.1,()))))):=by kernel_rfl
def PN:Any:=.one ⟨wR,aO,1,fun x=>Ih F0 x.1⟩
theorem akW:a6 215 PN:=aq Wc ⟨akU,trivial⟩ func215 ad (by kernel_rfl)
abbrev atJ:List (Ty×Bool):=[(.int .i64,false),(.int .i64,false)]
def dJ (a b:Int):=bj aA F ad f66 atJ cE 1 (a,b,())
theorem aae (a b:Int):dJ F a b=br (decide (a>b)) (some (a,())) (some (b,())):=by kernel_rfl
def gM:Any:=.one ⟨atJ,cE,1,fun x=>dJ F0 x.1 x.2.1⟩
theorem lr:a6 66 gM:=aq aA trivial func66 ad (by kernel_rfl)
def Mx:=[(66,gM),(78,eN)]
def My:Nat->Option Hint:=look [(4,{live:=[0,3],xl:=[0,3],rl:=[2]})]
def Dq (s:ByteArray)(k:Int):= bO 25 [(0,ZY s),(3,a8 k)]
def yv (s:ByteArray)(k:Int):= bO 25 [(0,ZY s),(3,a8 k)]
def Mz (a:St):Option U:=e9 Mx F My [.r,.r,.r,.l,.b,.i] f200 J n a
def aaf:=hf Mx F My [.r,.r,.r,.l,.b] f200 dB 1
theorem PO (s:ByteArray)(k:Int):Mz F J (n+1) (Dq s k)=br (decide (k>0)) (ck (bG (aj (k-1)) (s.size:Int)) (br ((jI s (aj (k-1))) != 47) (Mz F J n (Dq s (aj (k-1)))) (J (.exit 0) (yv s k)))) (J (.exit 0) (yv s k)):=by kernel_rfl
theorem akX (s:ByteArray)(k:Int):aaf F (.exit 0) (yv s k)=(dJ F0 (aj (k-1)) 0).bind fun a=>ck (S5 0 a.1 (s.size:Int)) (some (s.extract (0:Int).toNat a.1.toNat,())):=by kernel_rfl
def ajt (s:ByteArray):=bj Mx F My f200 dB dB 1 (s,())
theorem ad7:∃f,f= @ajt:=⟨_,rfl⟩
def l0:=Classical.choose ad7
theorem aag: @l0= @ajt:=Classical.choose_spec ad7
theorem avV (s:ByteArray):l0 F s=(eY F0 s).bind fun a=>br (!a.1) (some (ak,())) (Mz F (aaf F) F.n (Dq s (s.size:Int))):=by rw[aag];kernel_rfl
def tF:Any:=.one ⟨dB,dB,1,fun x=>l0 F0 x.1⟩
theorem Ii:a6 200 tF:=ok1 (show x8 Tryz.prog TB Mx from⟨lr,gL,trivial⟩) func200 (by kernel_rfl) (by kernel_rfl) My (by rw[aag];kernel_rfl)
def Wd:=[(78,eN),(134,gw),(200,tF)]
abbrev aDj:List (Ty×Bool):=[(K1,true),(K15,true)]
def nr (c:D1)(b:D15):=bj Wd F ad f199 aDj aO 1 (c,b,())
theorem akY (c:D1)(b:D15):nr F c b=(kp F0 c b.2).bind fun a=>br a.1 ((eY F0 b.1).bind fun d=>br d.1 (br (!(b.1.toList==ak.toList)) ((l0 F0 b.1).bind fun e=>some (e.1.toList==b.2.2.1.toList,())) (some (false,()))) (some (false,()))) (some (false,())):=by kernel_rfl
def l1:Any:=.one ⟨aDj,aO,1,fun x=>nr F0 x.1 x.2.1⟩
theorem ur:a6 199 l1:=aq Wd ⟨gL,kJ,Ii,trivial⟩ func199 ad (by kernel_rfl)
def ad8:=[(32,cw),(73,b7),(134,gw),(199,l1),(211,lq),(213,og),(215,PN)]
abbrev aju:List (Ty×Bool):=[(K1,true),(K21,true)]
def fm (c:D1)(m:OW):=bj ad8 F ad f145 aju aO 1 (c,m,())
theorem ar9 (c:D1)(m:OW):fm F c m=(dI F0 c).bind fun a=>br (!a.1) (some (false,())) ((Ih F0 m).bind fun b=>br (!b.1) (some (false,())) (br (m.1==1) ((nr F0 c m.2.2.1).bind fun d=>some (d.1,())) (br (m.1==2) ((kK F0 c m.2.2.2.1).bind fun e=>br e.1 (some (!(m.2.2.2.1.2.1.toList==ak.toList),())) (some (false,()))) (br (m.1==3) ((bM F0 m.2.1 1 60).bind fun f=>br f.1 ((kp F0 c m.2.2.2.2.1).bind fun g=>br g.1 ((bM F0 m.2.2.2.2.2.1 0 (aj (c.1-1))).bind fun h=>some (h.1,())) (some (false,()))) (some (false,()))) (br (m.1==4) ((rI F0 m.2.2.2.2.2.2).bind fun i=>some (i.1,())) (some (false,()))))))):=by kernel_rfl
def jN:Any:=.one ⟨aju,aO,1,fun x=>fm F0 x.1 x.2.1⟩
theorem oL:a6 145 jN:=aq ad8 ⟨de,cA,kJ,ur,rJ,yp,akW,trivial⟩ func145 ad (by kernel_rfl)
def Ij:=[(32,cw),(73,b7),(141,h8),(142,Gi),(143,Ce),(144,oh),(145,jN)]
def Ik:Nat->Option Hint:=look [(4,{live:=[2,3,5],rl:=[4]})]
def yw (i c a r b d e f g:Int)(h:ByteArray)(j:List Int)(k:ByteArray)(l:List D4)(m:List D9)(o:List Int)(p:Int)(q:List ll):= cQ 102 [b0 2,b0 3,(5,a8 i)] [(2,[ao c,ao a]),(3,[ao r,ao b,ao d,ao e,ao f,ao g,.str h,.ro false 3 (.int .i64) j,.str k,.ro false 52 (K4) l,.ro false 50 (K9) m,.ro false 5 (.int .u8) o,ao p,.ro false 136 (pS) q])] []
def yx (a:Bool):= bO 102 [(4,H0 a)]
def Ti   := bO 102 []
def Il (a:St):Option U:=e9 Ij F Ik [.r,.r,.l,.r,.b,.i] f74 J n a
def yy:=hf Ij F Ik [.r,.r,.l,.r,.b] f74 aO 1
theorem MA (i c b r d e f g h:Int)(j:ByteArray)(k:List Int)(l:ByteArray)(m:List D4)(o:List D9)(p:List Int)(q:Int)(a:List ll):Il F J (n+1) (yw i c b r d e f g h j k l m o p q a)=br (decide (i<(a.length:Int))) (ck (bG i (a.length:Int)) ((fm F0 (c,b) (aK a i pS.aD).2).bind fun s=>br (!s.1) (J .ret (yx false)) (ck (bG i (a.length:Int)) ((bM F0 (aK a i pS.aD).1 0 (aj (c-1))).bind fun t=>br (!t.1) (J .ret (yx false)) (ck (bG i (a.length:Int)) (br ((aK a i pS.aD).1==r) (J .ret (yx false)) (Il F J n (yw (aj (i+1)) c b r d e f g h j k l m o p q a)))))))) (J (.exit 0) (Ti)):=by kernel_rfl
theorem akZ (a:Bool):yy F .ret (yx a)=some (a,()):=by kernel_rfl
theorem agX: yy F (.exit 0) (Ti)=some (true,()):=by kernel_rfl
abbrev xt:List (Ty×Bool):=[(K1,true),(cd,true)]
def dx (c:D1)(r:a1):=bj Ij F Ik f74 xt aO 1 (c,r,())
theorem asa (c:D1)(r:a1):dx F c r=(dI F0 c).bind fun a=>br (!a.1) (some (false,())) ((bM F0 r.1 0 (aj (c.1-1))).bind fun b=>br (!b.1) (some (false,())) ((bM F0 r.2.1 1 60).bind fun d=>br (!d.1) (some (false,())) ((bM F0 r.2.2.1 0 60).bind fun e=>br (!e.1) (some (false,())) ((iX F0 c r.2.2.2.1).bind fun f=>br (!f.1) (some (false,())) ((E7 F0 r.2.2.2.2.1).bind fun g=>br (!g.1) (some (false,())) ((nq F0 c r.2.2.2.2.2.1).bind fun h=>br (!h.1) (some (false,())) ((mZ F0 r.2.2.2.2.2.2.1).bind fun i=>br (!i.1) (some (false,())) (br (decide ((r.2.2.2.2.2.2.2.length:Int)>30)) (some (false,())) (Il F (yy F) F.n (yw 0 c.1 c.2 r.1 r.2.1 r.2.2.1 r.2.2.2.1.1 r.2.2.2.1.2.1 r.2.2.2.1.2.2.1.1 r.2.2.2.1.2.2.1.2.1 r.2.2.2.1.2.2.1.2.2 r.2.2.2.1.2.2.2 r.2.2.2.2.1 r.2.2.2.2.2.1 r.2.2.2.2.2.2.1.1 r.2.2.2.2.2.2.1.2 r.2.2.2.2.2.2.2)))))))))):=by kernel_rfl
def cn:Any:=.one ⟨xt,aO,1,fun x=>dx F0 x.1 x.2.1⟩
theorem cT:a6 74 cn:=aq Ij ⟨de,cA,lY,V8,Tg,yt,oL,trivial⟩ func74 Ik (by kernel_rfl)
def aah:=[(74,cn)]
abbrev gx:List (Ty×Bool):=[(cd,true),(.bool,false)]
abbrev ajv:List (Ty×Bool):=[(K1,true),(.int .i64,false)]
def MB (c:D1)(a:Int):=bj aah F ad f33 ajv gx 2 (c,a,())
theorem aoa (c:D1)(a:Int):MB F c a=(dx F0 c (a,1,0,(0,0,(0,ak,[]),ak),[],[],([],0),[])).bind fun b=>br (!b.1) (some ((0,0,0,(0,0,(0,ak,[]),ak),[],[],([],0),[]),false,())) (some ((a,1,0,(0,0,(0,ak,[]),ak),[],[],([],0),[]),true,())):=by kernel_rfl
def Tj:Any:=.one ⟨ajv,gx,2,fun x=>MB F0 x.1 x.2.1⟩
theorem aob:a6 33 Tj:=aq aah ⟨cT,trivial⟩ func33 ad (by kernel_rfl)
def aai:=[(32,cw)]
def MC (c:D1):=bj aai F ad f76 S8 cE 1 (c,())
theorem aoc (c:D1):MC F c=(dI F0 c).bind fun a=>br (!a.1) (some (0,())) (some (aj (Int.tdiv (aj (c.1-1)) 3),())):=by kernel_rfl
def Tk:Any:=.one ⟨S8,cE,1,fun x=>MC F0 x.1⟩
theorem aod:a6 76 Tk:=aq aai ⟨de,trivial⟩ func76 ad (by kernel_rfl)
def Ds:Nat->Option Hint:=look [(3,{live:=[0,1,7,8],rl:=[4,5,6]})]
def uu (b:List Int)(a c k:Int):= bO 55 [(0,hD 5 (.int .u8) b),(1,a8 a),(7,a8 c),(8,a8 k)]
def fO (a b:Int)(c:Bool):= bO 55 [(4,a8 a),(5,a8 b),(6,H0 c)]
def PQ   := bO 55 []
def Dt (a:St):Option U:=e9 aA F Ds [.r,.r,.l,.r,.b,.i] f216 J n a
abbrev atK:List (Ty×Bool):=[(.int .i64,false),(.int .i64,false),(.bool,false)]
def uv:=hf aA F Ds [.r,.r,.l,.r,.b] f216 atK 1
theorem Km (b:List Int)(a c k:Int):Dt F J (n+1) (uu b a c k)=br (decide (k<5)) (br (decide (a<0)) (J .ret (fO 0 0 false)) (br (decide (a>=(aj ((b.length:Int)-k)))) (J .ret (fO 0 0 false)) (ck (bG (aj (a+k)) (b.length:Int)) (ck (decide (0<=(aj (7*k)))) (br (decide ((aj (aK b (aj (a+k)) 0))<128)) (br (decide (k>0)) (br ((aj (aK b (aj (a+k)) 0))==0) (J .ret (fO 0 0 false)) (br (decide ((aj (((BitVec.ofInt 64 c ||| BitVec.ofInt 64 (aj ((Int.tmod (aj (aK b (aj (a+k)) 0)) 128)*2 ^ (min (aj (7*k)).toNat 64)))).toNat:Int)))>2147483647)) (J .ret (fO 0 0 false)) (J .ret (fO (aj (((BitVec.ofInt 64 c ||| BitVec.ofInt 64 (aj ((Int.tmod (aj (aK b (aj (a+k)) 0)) 128)*2 ^ (min (aj (7*k)).toNat 64)))).toNat:Int))) (aj ((aj (a+k))+1)) true)))) (br (decide ((aj (((BitVec.ofInt 64 c ||| BitVec.ofInt 64 (aj ((Int.tmod (aj (aK b (aj (a+k)) 0)) 128)*2 ^ (min (aj (7*k)).toNat 64)))).toNat:Int)))>2147483647)) (J .ret (fO 0 0 false)) (J .ret (fO (aj (((BitVec.ofInt 64 c ||| BitVec.ofInt 64 (aj ((Int.tmod (aj (aK b (aj (a+k)) 0)) 128)*2 ^ (min (aj (7*k)).toNat 64)))).toNat:Int))) (aj ((aj (a+k))+1)) true)))) (Dt F J n (uu b a (aj (((BitVec.ofInt 64 c ||| BitVec.ofInt 64 (aj ((Int.tmod (aj (aK b (aj (a+k)) 0)) 128)*2 ^ (min (aj (7*k)).toNat 64)))).toNat:Int))) (aj (k+1))))))))) (J (.exit 0) (PQ)):=by kernel_rfl
theorem Cg (a b:Int)(c:Bool):uv F .ret (fO a b c)=some (a,b,c,()):=by kernel_rfl
theorem ad9: uv F (.exit 0) (PQ)=some (0,0,false,()):=by kernel_rfl
abbrev ajw:List (Ty×Bool):=[(.sl 5 (.int .u8),false),(.int .i64,false)]
def kM (b:List Int)(a:Int):=bj aA F Ds f216 ajw atK 1 (b,a,())
theorem aoe (b:List Int)(a:Int):kM F b a=Dt F (uv F) F.n (uu b a 0 0):=by kernel_rfl
def uw:Any:=.one ⟨ajw,atK,1,fun x=>kM F0 x.1 x.2.1⟩
theorem Kn:a6 216 uw:=aq aA trivial func216 Ds (by kernel_rfl)
def aaj:=[(216,uw)]
abbrev hH:List (Ty×Bool):=[(K32,true)]
def cH (c:D32):=E6 aaj F ad f146 hH 0 .cur cE hH 1 (c,())
theorem aof (c:D32):cH F c=(kM F0 c.1 c.2.1).bind fun a=>br (!a.2.2.1) (some ((0,()),(c.1,c.2.1,false),())) (br (!c.2.2) (some ((0,()),(c.1,c.2.1,false),())) (some ((a.1,()),(c.1,a.2.1,c.2.2),()))):=by kernel_rfl
def oi:Any:=.two ⟨hH,0,.cur,cE,1,hH,fun x=>cH F0 x.1⟩
theorem yz:a6 146 oi:=VZ aaj ⟨Kn,trivial⟩ func146 ad (by kernel_rfl)
def We:=[(216,uw)]
abbrev aDk:List (Ty×Bool):=[(.str,false),(.int .i64,false),(.bool,false)]
def Im (b:List Int)(a:Int):=bj We F ad f217 ajw aDk 1 (b,a,())
theorem ak0 (b:List Int)(c:Int):Im F b c=(kM F0 b c).bind fun a=>br (!a.2.2.1) (some (ak,0,false,())) (br (decide (a.1>(aj ((b.length:Int)-a.2.1)))) (some (ak,0,false,())) (ck (S5 a.2.1 (aj (a.2.1+a.1)) (b.length:Int)) (some (strOf ((b.take (aj (a.2.1+a.1)).toNat).drop a.2.1.toNat),aj (a.2.1+a.1),true,())))):=by kernel_rfl
def PR:Any:=.one ⟨ajw,aDk,1,fun x=>Im F0 x.1 x.2.1⟩
theorem ak1:a6 217 PR:=aq We ⟨Kn,trivial⟩ func217 ad (by kernel_rfl)
def Wg:=[(217,PR)]
def ns (c:D32):=E6 Wg F ad f147 hH 0 .cur dB hH 1 (c,())
theorem ak2 (c:D32):ns F c=(Im F0 c.1 c.2.1).bind fun a=>br (!a.2.2.1) (some ((ak,()),(c.1,c.2.1,false),())) (br (!c.2.2) (some ((ak,()),(c.1,c.2.1,false),())) (some ((a.1,()),(c.1,a.2.1,c.2.2),()))):=by kernel_rfl
def rL:Any:=.two ⟨hH,0,.cur,dB,1,hH,fun x=>ns F0 x.1⟩
theorem Gk:a6 147 rL:=VZ Wg ⟨ak1,trivial⟩ func147 ad (by kernel_rfl)
def Du:=[(146,oi)]
def Dv:Nat->Option Hint:=look [(4,{live:=[0,3,4,5],xl:=[3],rl:=[2]})]
def ux (a i:Int)(b:List Int)(c:Int)(d:Bool)(e:List Int):St:={nt:=28,tm:=[(0,.v (.c (.ptr 4000000 0))),(3,.v (.c (.own 1000000 none))),(4,a8 a),(5,a8 i)],bx:=[(4000000,[.ro true 5 (.int .u8) b,ao c,.bool d])],bl:=[ay 1000000 3 (.int .i64) e],sp:=.v (.c (.ptr 4000000 0))}
def rM (a:List Int)(b:Int)(c:Bool)(d:List Int):St:={nt:=28,tm:=[(3,.v (.c (.own 1000000 none)))],bx:=[(4000000,[.ro true 5 (.int .u8) a,ao b,.bool c])],bl:=[ay 1000000 3 (.int .i64) d],sp:=.v (.c (.ptr 4000000 0))}
def Dw (a:St):Option U:=e9 Du F Dv [.r,.r,.r,.l,.r,.b,.i] f149 J n a
abbrev kh:List (Ty×Bool):=[(.sl 3 (.int .i64),false)]
def Gl:=ayu Du F Dv [.r,.r,.r,.l,.r,.b] f149 .cur kh hH 2
theorem Ko (f i:Int)(d:List Int)(e:Int)(a:Bool)(c:List Int):Dw F J (n+1) (ux f i d e a c)=br (decide (i<f)) (br a ((cH F0 (d,e,a)).bind fun b=>ck (ei F c.length [b.1.1].length 8) (Dw F J n (ux f (aj (i+1)) b.2.1.1 b.2.1.2.1 b.2.1.2.2 (c++[b.1.1])))) (J (.exit 0) (rM d e a c))) (J (.exit 0) (rM d e a c)):=by kernel_rfl
theorem aea (a:List Int)(b:Int)(c:Bool)(d:List Int):Gl F (.exit 0) (rM a b c d)=some ((d,()),(a,b,c),()):=by kernel_rfl
def E9 (c:D32):=E6 Du F Dv f149 hH 0 .cur kh hH 2 (c,())
theorem aog (c:D32):E9 F c=(cH F0 c).bind fun a=>Dw F (Gl F) F.n (ux a.1.1 0 a.2.1.1 a.2.1.2.1 a.2.1.2.2 []):=by kernel_rfl
def Gm:Any:=.two ⟨hH,0,.cur,kh,2,hH,fun x=>E9 F0 x.1⟩
theorem Wh:a6 149 Gm:=VZ Du ⟨yz,trivial⟩ func149 Dv (by kernel_rfl)
def aeb:=[(146,oi),(147,rL),(149,Gm)]
abbrev gq:List (Ty×Bool):=[(K9,true)]
def Ch (c:D32):=E6 aeb F ad f148 hH 0 .cur gq hH 2 (c,())
theorem asb (c:D32):Ch F c=(cH F0 c).bind fun a=>(ns F0 a.2.1).bind fun b=>(E9 F0 b.2.1).bind fun d=>some (((a.1.1,b.1.1,d.1.1),()),d.2.1,()):=by kernel_rfl
def Kp:Any:=.two ⟨hH,0,.cur,gq,2,hH,fun x=>Ch F0 x.1⟩
theorem aak:a6 148 Kp:=VZ aeb ⟨yz,Gk,Wh,trivial⟩ func148 ad (by kernel_rfl)
def aec:=[(145,jN),(146,oi),(147,rL),(148,Kp),(149,Gm)]
abbrev Tl:List (Ty×Bool):=[(K1,true),(.sl 5 (.int .u8),false)]
abbrev aDl:List (Ty×Bool):=[(K21,true),(.bool,false)]
def Kq (c:D1)(b:List Int):=bj aec F ad f77 Tl aDl 2 (c,b,())
theorem asc (c:D1)(b:List Int):Kq F c b=(cH F0 (b,0,true)).bind fun a=>br (a.1.1==1) ((ns F0 a.2.1).bind fun i=>(Ch F0 i.2.1).bind fun e=>br (!e.2.1.2.2) (some ((0,0,(ak,0,ak,[]),(0,ak,[]),(0,ak,[]),0,0,0,0,0),false,())) (br (e.2.1.2.1 != (b.length:Int)) (some ((0,0,(ak,0,ak,[]),(0,ak,[]),(0,ak,[]),0,0,0,0,0),false,())) ((fm F0 c (a.1.1,0,(i.1.1,e.1.1),(0,ak,[]),(0,ak,[]),0,0,0,0,0)).bind fun d=>br (!d.1) (some ((0,0,(ak,0,ak,[]),(0,ak,[]),(0,ak,[]),0,0,0,0,0),false,())) (some ((a.1.1,0,(i.1.1,e.1.1),(0,ak,[]),(0,ak,[]),0,0,0,0,0),true,()))))) (br (a.1.1==2) ((cH F0 a.2.1).bind fun j=>(ns F0 j.2.1).bind fun k=>(E9 F0 k.2.1).bind fun f=>br (!f.2.1.2.2) (some ((0,0,(ak,0,ak,[]),(0,ak,[]),(0,ak,[]),0,0,0,0,0),false,())) (br (f.2.1.2.1 != (b.length:Int)) (some ((0,0,(ak,0,ak,[]),(0,ak,[]),(0,ak,[]),0,0,0,0,0),false,())) ((fm F0 c (a.1.1,0,(ak,0,ak,[]),(j.1.1,k.1.1,f.1.1),(0,ak,[]),0,0,0,0,0)).bind fun d=>br (!d.1) (some ((0,0,(ak,0,ak,[]),(0,ak,[]),(0,ak,[]),0,0,0,0,0),false,())) (some ((a.1.1,0,(ak,0,ak,[]),(j.1.1,k.1.1,f.1.1),(0,ak,[]),0,0,0,0,0),true,()))))) (br (a.1.1==3) ((cH F0 a.2.1).bind fun l=>(cH F0 l.2.1).bind fun m=>(Ch F0 m.2.1).bind fun g=>br (!g.2.1.2.2) (some ((0,0,(ak,0,ak,[]),(0,ak,[]),(0,ak,[]),0,0,0,0,0),false,())) (br (g.2.1.2.1 != (b.length:Int)) (some ((0,0,(ak,0,ak,[]),(0,ak,[]),(0,ak,[]),0,0,0,0,0),false,())) ((fm F0 c (a.1.1,l.1.1,(ak,0,ak,[]),(0,ak,[]),g.1.1,m.1.1,0,0,0,0)).bind fun d=>br (!d.1) (some ((0,0,(ak,0,ak,[]),(0,ak,[]),(0,ak,[]),0,0,0,0,0),false,())) (some ((a.1.1,l.1.1,(ak,0,ak,[]),(0,ak,[]),g.1.1,m.1.1,0,0,0,0),true,()))))) (br (a.1.1==4) ((cH F0 a.2.1).bind fun o=>(cH F0 o.2.1).bind fun p=>(cH F0 p.2.1).bind fun q=>(cH F0 q.2.1).bind fun h=>br (!h.2.1.2.2) (some ((0,0,(ak,0,ak,[]),(0,ak,[]),(0,ak,[]),0,0,0,0,0),false,())) (br (h.2.1.2.1 != (b.length:Int)) (some ((0,0,(ak,0,ak,[]),(0,ak,[]),(0,ak,[]),0,0,0,0,0),false,())) ((fm F0 c (a.1.1,0,(ak,0,ak,[]),(0,ak,[]),(0,ak,[]),0,o.1.1,p.1.1,q.1.1,h.1.1)).bind fun d=>br (!d.1) (some ((0,0,(ak,0,ak,[]),(0,ak,[]),(0,ak,[]),0,0,0,0,0),false,())) (some ((a.1.1,0,(ak,0,ak,[]),(0,ak,[]),(0,ak,[]),0,o.1.1,p.1.1,q.1.1,h.1.1),true,()))))) (br (!a.2.1.2.2) (some ((0,0,(ak,0,ak,[]),(0,ak,[]),(0,ak,[]),0,0,0,0,0),false,())) (br (a.2.1.2.1 != (b.length:Int)) (some ((0,0,(ak,0,ak,[]),(0,ak,[]),(0,ak,[]),0,0,0,0,0),false,())) ((fm F0 c (a.1.1,0,(ak,0,ak,[]),(0,ak,[]),(0,ak,[]),0,0,0,0,0)).bind fun d=>br (!d.1) (some ((0,0,(ak,0,ak,[]),(0,ak,[]),(0,ak,[]),0,0,0,0,0),false,())) (some ((a.1.1,0,(ak,0,ak,[]),(0,ak,[]),(0,ak,[]),0,0,0,0,0),true,())))))))):=by kernel_rfl
def Kr:Any:=.one ⟨Tl,aDl,2,fun x=>Kq F0 x.1 x.2.1⟩
theorem aal:a6 77 Kr:=aq aec ⟨oL,yz,Gk,aak,Wh,trivial⟩ func77 ad (by kernel_rfl)
def gN:=[(32,cw),(73,b7),(74,cn),(75,yn),(76,Tk),(77,Kr),(78,eN),(79,df)]
def gO:Nat->Option Hint:=look [(4,{live:=[1,3],xl:=[1],rl:=[2]}),(9,{live:=[1,4],xl:=[1],rl:=[2]}),(15,{live:=[1,7],rl:=[2]})]
def l2 (i w a:Int)(b:List Int)(c:List a1)(d:List bS)(e:List bE):= cQ 147 [b0 1,(7,a8 i)] [(1,[ao w,ao a,.ro false 3 (.int .i64) b,.ro false 65 (cd) c,.ro false 105 (eh) d,.ro false 41 (cz) e])] []
def rN (a:Bool):= bO 147 [(2,H0 a)]
def MD   := bO 147 []
def p4 (a:St):Option U:=e9 gN F gO [.r,.r,.r,.r,.l,.r,.b,.i] f34 J n a
def l3:=hf gN F gO [.r,.r,.r,.r,.l,.r,.b] f34 aO 1
def l4 (i w a:Int)(b:List Int)(c:List a1)(d:List bS)(e:List bE):= cQ 147 [b0 1,(4,a8 i)] [(1,[ao w,ao a,.ro false 3 (.int .i64) b,.ro false 65 (cd) c,.ro false 105 (eh) d,.ro false 41 (cz) e])] []
def Ci (a:Bool):= bO 147 [(2,H0 a)]
def ME (w a:Int)(b:List Int)(c:List a1)(d:List bS)(e:List bE):= cQ 147 [b0 1] [(1,[ao w,ao a,.ro false 3 (.int .i64) b,.ro false 65 (cd) c,.ro false 105 (eh) d,.ro false 41 (cz) e])] []
def p5 (a:St):Option U:=e9 gN F gO [.r,.r,.r,.l,.r,.b,.i] f34 J n a
def l5:=hf gN F gO [.r,.r,.r,.l,.r,.b] f34 aO 1
def l6 (i w a:Int)(b:List Int)(c:List a1)(d:List bS)(e:List bE):= cQ 147 [b0 1,(3,a8 i)] [(1,[ao w,ao a,.ro false 3 (.int .i64) b,.ro false 65 (cd) c,.ro false 105 (eh) d,.ro false 41 (cz) e])] []
def Cj (a:Bool):= bO 147 [(2,H0 a)]
def MF (w a:Int)(b:List Int)(c:List a1)(d:List bS)(e:List bE):= cQ 147 [b0 1] [(1,[ao w,ao a,.ro false 3 (.int .i64) b,.ro false 65 (cd) c,.ro false 105 (eh) d,.ro false 41 (cz) e])] []
def p6 (a:St):Option U:=e9 gN F gO [.r,.r,.l,.r,.b,.i] f34 J n a
def l7:=hf gN F gO [.r,.r,.l,.r,.b] f34 aO 1
theorem GZ (i w b:Int)(c:List Int)(d:List a1)(e:List bS)(a:List bE):p4 F J (n+1) (l2 i w b c d e a)=br (decide (i<(a.length:Int))) (ck (bG i (a.length:Int)) ((bM F0 (aK a i cz.aD).2.2 0 (aj (w-1))).bind fun f=>br (!f.1) (J .ret (rN false)) ((eY F0 (aK a i cz.aD).2.1).bind fun g=>br (!g.1) (J .ret (rN false)) ((du F0 (aK a i cz.aD).2.1).bind fun h=>br (h.1 != (aK a i cz.aD).1) (J .ret (rN false)) (p4 F J n (l2 (aj (i+1)) w b c d e a)))))) (J (.exit 4) (MD)):=by kernel_rfl
theorem G0 (i w b:Int)(c:List Int)(d:List a1)(a:List bS)(e:List bE):p5 F J (n+1) (l4 i w b c d a e)=br (decide (i<(a.length:Int))) (ck (bG i (a.length:Int)) ((Kq F0 (w,b) (aK a i (0,[])).2).bind fun f=>br (!f.2.1) (J .ret (Ci false)) (ck (bG i (a.length:Int)) ((bM F0 (aK a i (0,[])).1 0 (aj (w-1))).bind fun g=>br (!g.1) (J .ret (Ci false)) (p5 F J n (l4 (aj (i+1)) w b c d a e)))))) (J (.exit 2) (ME w b c d a e)):=by kernel_rfl
theorem G1 (i w b:Int)(c:List Int)(a:List a1)(d:List bS)(e:List bE):p6 F J (n+1) (l6 i w b c a d e)=br (decide (i<(a.length:Int))) (ck (bG i (a.length:Int)) (br ((aK a i cd.aD).1 != i) (J .ret (Cj false)) (ck (bG i (a.length:Int)) ((dx F0 (w,b) (aK a i cd.aD)).bind fun f=>br (!f.1) (J .ret (Cj false)) (p6 F J n (l6 (aj (i+1)) w b c a d e)))))) (J (.exit 0) (MF w b c a d e)):=by kernel_rfl
theorem aed (a:Bool):l3 F .ret (rN a)=some (a,()):=by kernel_rfl
theorem ab1: l3 F (.exit 4) (MD)=some (true,()):=by kernel_rfl
theorem aee (a:Bool):l5 F .ret (Ci a)=some (a,()):=by kernel_rfl
theorem ab2 (w a:Int)(b:List Int)(c:List a1)(d:List bS)(e:List bE):l5 F (.exit 2) (ME w a b c d e)=p4 F (l3 F) F.n (l2 0 w a b c d e):=by kernel_rfl
theorem aef (a:Bool):l7 F .ret (Cj a)=some (a,()):=by kernel_rfl
theorem ab3 (w a:Int)(b:List Int)(c:List a1)(d:List bS)(e:List bE):l7 F (.exit 0) (MF w a b c d e)=p5 F (l5 F) F.n (l4 0 w a b c d e):=by kernel_rfl
abbrev ix:List (Ty×Bool):=[(hz,true)]
def yA (w:ko):=bj gN F gO f34 ix aO 1 (w,())
theorem ak3 (w:ko):yA F w=(dI F0 w.1).bind fun a=>br (!a.1) (some (false,())) ((Cc F0 w.1.1 w.2.1).bind fun b=>br (!b.1) (some (false,())) ((MC F0 w.1).bind fun c=>br (decide ((w.2.1.length:Int)>c.1)) (some (false,())) (br ((w.2.2.1.length:Int) != w.1.1) (some (false,())) (br (decide ((w.2.2.2.1.length:Int)>60)) (some (false,())) (br (decide ((w.2.2.2.2.length:Int)>300)) (some (false,())) (p6 F (l7 F) F.n (l6 0 w.1.1 w.1.2 w.2.1 w.2.2.1 w.2.2.2.1 w.2.2.2.2))))))):=by kernel_rfl
def PS:Any:=.one ⟨ix,aO,1,fun x=>yA F0 x.1⟩
theorem ak4:a6 34 PS:=aq gN ⟨de,cA,cT,OX,aod,aal,gL,eH,trivial⟩ func34 gO (by kernel_rfl)
def uy:=[(32,cw),(33,Tj),(34,PS)]
def uz:Nat->Option Hint:=look [(3,{live:=[2,4,6,7],x3:=[(4,2,3,.int .i64),(4,3,65,cd),(4,4,105,eh),(4,5,41,cz),(6,3,65,cd),(6,4,105,eh),(6,5,41,cz)],xl:=[4,6],rl:=[4,5]})]
def pb (i c a l m w b:Int)(o:List Int)(d:List a1)(e:List bS)(f:List bE)(g:List Int)(h:List a1)(j:List bS)(k:List bE):= cQ 42 [b0 2,b0 4,b0 6,(7,a8 i)] [(2,[ao c,ao a]),(4,[ao l,ao m,.own 1000000 none,.own 1000001 none,.own 1000002 none,.own 1000003 none]),(6,[ao w,ao b,.own 1000004 none,.own 1000005 none,.own 1000006 none,.own 1000007 none])] [ay 1000000 3 (.int .i64) o,ay 1000001 65 cd d,ay 1000002 105 eh e,ay 1000003 41 cz f,ay 1000004 3 (.int .i64) g,ay 1000005 65 cd h,ay 1000006 105 eh j,ay 1000007 41 cz k]
def vZ (i j w a:Int)(k:List Int)(b:List a1)(c:List bS)(d:List bE)(e:List Int)(f:List a1)(g:List bS)(h:List bE):= cQ 42 [b0 4,b0 6] [(4,[ao i,ao j,.own 1000000 none,.own 1000001 none,.own 1000002 none,.own 1000003 none]),(6,[ao w,ao a,.own 1000004 none,.own 1000005 none,.own 1000006 none,.own 1000007 none])] [ay 1000000 3 (.int .i64) k,ay 1000001 65 cd b,ay 1000002 105 eh c,ay 1000003 41 cz d,ay 1000004 3 (.int .i64) e,ay 1000005 65 cd f,ay 1000006 105 eh g,ay 1000007 41 cz h]
def uA (a:St):Option U:=e9 uy F uz [.r,.r,.l,.r,.b,.i] f9 J n a
abbrev atL:List (Ty×Bool):=[(hz,true),(.bool,false)]
def yB:=hf uy F uz [.r,.r,.l,.r,.b] f9 atL 2
theorem Fa (i c b l m w d:Int)(o:List Int)(e:List a1)(f:List bS)(g:List bE)(h:List Int)(a:List a1)(j:List bS)(k:List bE):uA F J (n+1) (pb i c b l m w d o e f g h a j k)=br (decide (i<c)) ((dI F0 (c,b)).bind fun q=>br q.1 ((MB F0 (c,b) i).bind fun p=>ck (ei F a.length [p.1].length 208) (uA F J n (pb (aj (i+1)) c b l m w d o e f g h (a++[p.1]) j k))) (J (.exit 0) (vZ l m w d o e f g h a j k))) (J (.exit 0) (vZ l m w d o e f g h a j k)):=by kernel_rfl
theorem Zf (j k w a:Int)(l:List Int)(f:List a1)(g:List bS)(h:List bE)(b:List Int)(c:List a1)(d:List bS)(e:List bE):yB F (.exit 0) (vZ j k w a l f g h b c d e)=(yA F0 ((w,a),b,c,d,e)).bind fun i=>br (!i.1) (some (((0,0),[],[],[],[]),false,())) (some (((w,a),b,c,d,e),true,())):=by kernel_rfl
abbrev aDm:List (Ty×Bool):=[(K1,true),(.sl 3 (.int .i64),false)]
def lv (c:D1)(liars:List Int):=bj uy F uz f9 aDm atL 2 (c,liars,())
theorem agY (c:D1)(liars:List Int):lv F c liars=ck (ei F 0 liars.length 8) (uA F (yB F) F.n (pb 0 c.1 c.2 0 0 c.1 c.2 [] [] [] [] ([]++liars) [] [] [])):=by kernel_rfl
def yC:Any:=.one ⟨aDm,atL,2,fun x=>lv F0 x.1 x.2.1⟩
theorem PT:a6 9 yC:=aq uy ⟨de,aob,ak4,trivial⟩ func9 uz (by kernel_rfl)
def G3:=[(9,yC),(25,ed),(62,np),(63,oa)]
def pc (c:D2):=E6 G3 F ad f23 jK 0 .cur ix jK 2 (c,())
theorem Wi (c:D2):pc F c=(jL F0 c [4,4,4,5,7]).bind fun a=>(av F0 a.2.1 3).bind fun b=>(mX F0 b.2.1 3).bind fun d=>br (!d.1.1) ((av F0 d.2.1 a.1.1).bind fun f=>(lv F0 (a.1.1,aj (1+b.1.1)) [f.1.1]).bind fun e=>some ((e.1,()),f.2.1,())) ((lv F0 (a.1.1,aj (1+b.1.1)) []).bind fun e=>some ((e.1,()),d.2.1,())):=by kernel_rfl
def BC:Any:=.two ⟨jK,0,.cur,ix,2,jK,fun x=>pc F0 x.1⟩
theorem Wj:a6 23 BC:=VZ G3 ⟨PT,fN,yc,yd,trivial⟩ func23 ad (by kernel_rfl)
def iY (q:D9):=bj aA F ad f136 gq gq 2 (q,())
theorem aoh (q:D9):iY F q=ck (ei F 0 q.2.2.length 8) (some ((q.1,q.2.1,[]++q.2.2),())):=by kernel_rfl
def h9:Any:=.one ⟨gq,gq,2,fun x=>iY F0 x.1⟩
theorem l8:a6 136 h9:=aq aA trivial func136 ad (by kernel_rfl)
def Wk:=[(136,h9)]
abbrev BD:List (Ty×Bool):=[(K12,true)]
def nu (s:U1):=bj Wk F ad f121 BD BD 2 (s,())
theorem ak5 (s:U1):nu F s=(iY F0 s.2.2.1).bind fun a=>some ((s.1,s.2.1,a.1,s.2.2.2),()):=by kernel_rfl
def l9:Any:=.one ⟨BD,BD,2,fun x=>nu F0 x.1⟩
theorem uB:a6 121 l9:=aq Wk ⟨l8,trivial⟩ func121 ad (by kernel_rfl)
def gy (p:D9):=bj aA F ad f194 gq gq 2 (p,())
theorem ak6 (p:D9):gy F p=ck (ei F 0 p.2.2.length 8) (some ((p.1,p.2.1,[]++p.2.2),())):=by kernel_rfl
def jz:Any:=.one ⟨gq,gq,2,fun x=>gy F0 x.1⟩
theorem oj:a6 194 jz:=aq aA trivial func194 ad (by kernel_rfl)
def uC:=[(194,jz)]
def uD:Nat->Option Hint:=look [(3,{live:=[0,3,4],xl:=[3],rl:=[2]})]
def pd (a:List D9)(i:Int)(b:List D9):= cQ 21 [(0,hD 50 (K9) a),(3,.v (.c (.own 1000000 none))),(4,a8 i)] [] [ay 1000000 50 K9 b]
def Ks (a:List D9):= cQ 21 [(3,.v (.c (.own 1000000 none)))] [] [ay 1000000 50 K9 a]
def uE (a:St):Option U:=e9 uC F uD [.r,.r,.l,.r,.b,.i] f122 J n a
abbrev G4:List (Ty×Bool):=[(K13,false)]
def yD:=hf uC F uD [.r,.r,.l,.r,.b] f122 G4 2
theorem Fb (a:List D9)(i:Int)(b:List D9):uE F J (n+1) (pd a i b)=br (decide (i<(a.length:Int))) (ck (bG i (a.length:Int)) ((gy F0 (aK a i K9.aD)).bind fun c=>ck (ei F b.length [c.1].length 48) (uE F J n (pd a (aj (i+1)) (b++[c.1]))))) (J (.exit 0) (Ks b)):=by kernel_rfl
theorem Zg (a:List D9):yD F (.exit 0) (Ks a)=some (a,()):=by kernel_rfl
def gz (a:D13):=bj uC F uD f122 G4 G4 2 (a,())
theorem agZ (a:D13):gz F a=uE F (yD F) F.n (pd a 0 []):=by kernel_rfl
def yE:Any:=.one ⟨G4,G4,2,fun x=>gz F0 x.1⟩
theorem PU:a6 122 yE:=aq uC ⟨oj,trivial⟩ func122 uD (by kernel_rfl)
def iL (d:D14):=bj aA F ad f123 pa pa 2 (d,())
theorem ak7 (d:D14):iL F d=ck (ei F 0 d.1.length 1) (some (([]++d.1,d.2),())):=by kernel_rfl
def ma:Any:=.one ⟨pa,pa,2,fun x=>iL F0 x.1⟩
theorem uF:a6 123 ma:=aq aA trivial func123 ad (by kernel_rfl)
def aam:=[(136,h9)]
abbrev ajx:List (Ty×Bool):=[(K15,true)]
def MG (b:D15):=bj aam F ad f252 ajx ajx 2 (b,())
theorem aoi (b:D15):MG F b=(iY F0 b.2).bind fun a=>some ((b.1,a.1),()):=by kernel_rfl
def Tm:Any:=.one ⟨ajx,ajx,2,fun x=>MG F0 x.1⟩
theorem aoj:a6 252 Tm:=aq aam ⟨l8,trivial⟩ func252 ad (by kernel_rfl)
def Wl:=[(136,h9),(194,jz),(252,Tm)]
def yF (m:OW):=bj Wl F ad f195 wR wR 2 (m,())
theorem ak8 (m:OW):yF F m=(MG F0 m.2.2.1).bind fun a=>(gy F0 m.2.2.2.1).bind fun b=>(iY F0 m.2.2.2.2.1).bind fun c=>some ((m.1,m.2.1,a.1,b.1,c.1,m.2.2.2.2.2),()):=by kernel_rfl
def Ck:Any:=.one ⟨wR,wR,2,fun x=>yF F0 x.1⟩
theorem Tn:a6 195 Ck:=aq Wl ⟨l8,oj,aoj,trivial⟩ func195 ad (by kernel_rfl)
def uG:=[(195,Ck)]
def uH:Nat->Option Hint:=look [(3,{live:=[0,3,4],xl:=[3],rl:=[2]})]
def pe (a:List ll)(i:Int)(b:List ll):= cQ 28 [(0,hD 136 (pS) a),(3,.v (.c (.own 1000000 none))),(4,a8 i)] [] [ay 1000000 136 pS b]
def Kt (a:List ll):= cQ 28 [(3,.v (.c (.own 1000000 none)))] [] [ay 1000000 136 pS a]
def uI (a:St):Option U:=e9 uG F uH [.r,.r,.l,.r,.b,.i] f124 J n a
abbrev aan:List (Ty×Bool):=[(K23,false)]
def yG:=hf uG F uH [.r,.r,.l,.r,.b] f124 aan 2
theorem Fc (a:List ll)(i:Int)(b:List ll):uI F J (n+1) (pe a i b)=br (decide (i<(a.length:Int))) (ck (bG i (a.length:Int)) (ck (bG i (a.length:Int)) ((yF F0 (aK a i pS.aD).2).bind fun c=>ck (ei F b.length [((aK a i pS.aD).1,c.1)].length 224) (uI F J n (pe a (aj (i+1)) (b++[((aK a i pS.aD).1,c.1)])))))) (J (.exit 0) (Kt b)):=by kernel_rfl
theorem Zh (a:List ll):yG F (.exit 0) (Kt a)=some (a,()):=by kernel_rfl
def tG (a:D23):=bj uG F uH f124 aan aan 2 (a,())
theorem ag0 (a:D23):tG F a=uI F (yG F) F.n (pe a 0 []):=by kernel_rfl
def yH:Any:=.one ⟨aan,aan,2,fun x=>tG F0 x.1⟩
theorem PV:a6 124 yH:=aq uG ⟨Tn,trivial⟩ func124 uH (by kernel_rfl)
end
end Go.Am.Tryz
