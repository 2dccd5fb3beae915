/- No condition. -/
import Derived.Test.YtnllfndlcahalaaGreatDoorProg
import Derived.Test.YtnllfndlcahalaaGreatDoorQfWJS1
set_option linter.all false
set_option maxRecDepth 100000
namespace Go.Am.Tryz
open Go.Am Go.Proofs Go.Proofs.Tryz
abbrev K1:Ty:=.pair (.int .i64) (.int .i64)
abbrev D1:=Int×Int
abbrev K2:Ty:=.pair (.sl 5 (.int .u8)) (K1)
abbrev D2:=List Int×D1
abbrev K3:Ty:=.pair (.int .i64) (K1)
abbrev D3:=Int×D1
abbrev K4:Ty:=.pair (.int .i64) (K3)
abbrev D4:=Int×D3
abbrev K5:Ty:=.sl 52 (K4)
abbrev D5:=List D4
abbrev K6:Ty:=.pair (.int .i64) (K5)
abbrev D6:=Int×D5
abbrev K7:Ty:=.sl 157 (K6)
abbrev K8:Ty:=.pair (.str) (.sl 3 (.int .i64))
abbrev D8:=ByteArray×List Int
abbrev K9:Ty:=.pair (.int .i64) (K8)
abbrev D9:=Int×D8
abbrev K10:Ty:=.pair (K9) (.str)
abbrev D10:=D9×ByteArray
abbrev K11:Ty:=.pair (.int .i64) (K10)
abbrev D11:=Int×D10
abbrev K12:Ty:=.pair (.int .i64) (K11)
abbrev U0:=Int×D11
abbrev K13:Ty:=.sl 50 (K9)
abbrev D13:=List D9
abbrev K14:Ty:=.pair (.sl 5 (.int .u8)) (.int .i64)
abbrev D14:=List Int×Int
abbrev K15:Ty:=.pair (.str) (K9)
abbrev D15:=ByteArray×D9
abbrev K16:Ty:=.pair (.int .i64) (K4)
abbrev D16:=Int×D4
abbrev K17:Ty:=.pair (K9) (K16)
abbrev D17:=D9×D16
abbrev K18:Ty:=.pair (K9) (K17)
abbrev D18:=D9×D17
abbrev K19:Ty:=.pair (K15) (K18)
abbrev D19:=D15×D18
abbrev K20:Ty:=.pair (.int .i64) (K19)
abbrev D20:=Int×D19
abbrev K21:Ty:=.pair (.int .i64) (K20)
abbrev OZ:=Int×D20
abbrev pY:Ty:=.pair (.int .i64) (K21)
abbrev lv:=Int×OZ
abbrev K23:Ty:=.sl 136 (pY)
abbrev D23:=List lv
abbrev K24:Ty:=.pair (K14) (K23)
abbrev D24:=D14×D23
abbrev K25:Ty:=.pair (K13) (K24)
abbrev D25:=D13×D24
abbrev K26:Ty:=.pair (K5) (K25)
abbrev D26:=D5×D25
abbrev K27:Ty:=.pair (K12) (K26)
abbrev D27:=U0×D26
abbrev K28:Ty:=.pair (.int .i64) (K27)
abbrev D28:=Int×D27
abbrev K29:Ty:=.pair (.int .i64) (K28)
abbrev D29:=Int×D28
abbrev b8:Ty:=.pair (.int .i64) (K29)
abbrev a7:=Int×D29
abbrev K31:Ty:=.pair (.int .i64) (.bool)
abbrev D31:=Int×Bool
abbrev K32:Ty:=.pair (.sl 5 (.int .u8)) (K31)
abbrev D32:=List Int×D31
abbrev K33:Ty:=.sl 65 (b8)
abbrev D33:=List a7
abbrev ek:Ty:=.pair (.int .i64) (.sl 5 (.int .u8))
abbrev bS:=Int×List Int
abbrev K35:Ty:=.sl 105 (ek)
abbrev D35:=List bS
abbrev K36:Ty:=.pair (.str) (.int .i64)
abbrev D36:=ByteArray×Int
abbrev cz:Ty:=.pair (.int .i64) (K36)
abbrev bF:=Int×D36
abbrev K38:Ty:=.sl 41 (cz)
abbrev D38:=List bF
abbrev K39:Ty:=.pair (K35) (K38)
abbrev D39:=D35×D38
abbrev K40:Ty:=.pair (K33) (K39)
abbrev D40:=D33×D39
abbrev K41:Ty:=.pair (.sl 3 (.int .i64)) (K40)
abbrev D41:=List Int×D40
abbrev hJ:Ty:=.pair (K1) (K41)
abbrev lx:=D1×D41
abbrev K43:Ty:=.pair (.sl 3 (.int .i64)) (.sl 3 (.int .i64))
abbrev D43:=List Int×List Int
abbrev K44:Ty:=.pair (.int .i64) (pY)
abbrev D44:=Int×lv
abbrev K45:Ty:=.pair (.int .i64) (K44)
abbrev D45:=Int×D44
abbrev K46:Ty:=.sl 56 (K45)
abbrev D46:=List D45
def ad:Nat->Option Hint:=look []
def aB:List (Nat×Any):=[]
noncomputable section
variable {U:Type} (C:List (Nat×Any)) (F:rH) (H:Nat->Option Hint)
abbrev a8 (f:Nat)(c:Any):Prop:=tg Tryz.prog TB f c
def bm (b:Func)(a c:List (Ty×Bool))(m:Nat)(x:Args a):=aJ3 Tryz.prog (look C) F H b a c m x
def Fa (c:Func)(a:List (Ty×Bool))(i:Nat)(d:PM)(e b:List (Ty×Bool))(m:Nat)(x:Args a):=aCT Tryz.prog (look C) F H c a i d e b m x
def fe (p:List At)(a:Func)(J:Ex->St->Option U)(n:Nat)(b:St):Option U:=lp Tryz.prog (look C) F H (sub p (eW a)) J n b
def hH (p:List At)(a:Func)(b:List (Ty×Bool))(m:Nat):=Vy Tryz.prog (look C) F H p (eW a) (fin Tryz.prog a b m)
def ayn (p:List At)(a:Func)(c:PM)(d b:List (Ty×Bool))(m:Nat):=Vy Tryz.prog (look C) F H p (eW a) (aK3 Tryz.prog a c d b m)
def cR (n:Nat)(t:List (Nat×AV))(b:List (Nat×List AC))(l:List (Nat×Option fN)):St:={nt:=n,tm:=t,bx:=b,bl:=l}
def bU (n:Nat)(t:List (Nat×AV)):St:={nt:=n,tm:=t,bx:=[],bl:=[]}
def bb (t:Int):AV:=.v (.c (.int .i64 t))
def ao (t:Int):AC:=.int .i64 t
def b1 (d:Nat):Nat×AV:=(d,.v (.c (.ptr d 0)))
abbrev ak:ByteArray:=ByteArray.mk #[]
def az (i:Nat)(e:TypeId)(t:Ty)(x:List t.D):Nat×Option fN:=(i,some ⟨e,t,x,true,true⟩)
def JH (b:Bool):AV:=.v (.c (.bool b))
def Z0 (b:ByteArray):AV:=.v (.c (.str b))
def ia (e:Nat)(t:Ty)(x:List t.D):AV:=.v (.c (.ro false e t x))
def aq {f : FuncId} {a : Func} (l : List (Nat × Any)) (e : yh Tryz.prog TB l) (h : Tryz.prog.funcs[f]? = some a) (H : Nat → Option Hint) {b d : List (Ty × Bool)} {m : Nat} {g : Args b → Option (Args d)} (c : (a.name == "runtime.NumGoroutine" || a.body.isNone, fun x => bm l F0 H a b d m x) = (false, g)) : a8 f (.one ⟨b, d, m, g⟩) :=
 ok1 e h (ai3.1 (Pq c).1).1 (ai3.1 (Pq c).1).2 H (Pq c).2
def aBf {f : FuncId} {a : Func} (l : List (Nat × Any)) (h : yh Tryz.prog TB l) (j : Tryz.prog.funcs[f]? = some a) (H : Nat → Option Hint) {b d : List (Ty × Bool)} {i m : Nat} {e : PM} {g : Args b → Option (Args d × Args [])} (c : (a.name == "runtime.NumGoroutine" || a.body.isNone, fun x => Fa l F0 H a b i e d [] m x) = (false, g)) : a8 f (.two ⟨b, i, e, d, m, [], g⟩) :=
 ok2 h j (ai3.1 (Pq c).1).1 (ai3.1 (Pq c).1).2 H (Pq c).2
def V0 {f : FuncId} {c : Func} (l : List (Nat × Any)) (h : yh Tryz.prog TB l) (j : Tryz.prog.funcs[f]? = some c) (H : Nat → Option Hint) {a d : List (Ty × Bool)} {i m : Nat} {e : PM} {p : Ty × Bool} {g : Args a → Option (Args d × Args [p])} (b : (nv a i, c.name == "runtime.NumGoroutine" || c.body.isNone, fun x => Fa l F0 H c a i e d [p] m x) = (some p, false, g)) : a8 f (.two ⟨a, i, e, d, m, [p], g⟩) :=
 ok3 h j (ai3.1 (Pq (Pq b).2).1).1 (ai3.1 (Pq (Pq b).2).1).2 H (Pq b).1 (Pq (Pq b).2).2
end
noncomputable section
variable {U:Type} (F:rH) (J:Ex->St->Option U) (n:Nat)
abbrev aP:List (Ty×Bool):=[(.bool,false)]
abbrev l1:List (Ty×Bool):=[(.sl 5 (.int .u8),false)]
def anP (a:List Int):=bm aB F ad f6 l1 aP 1 (a,())
def ayo (a:List Int):anP F a=some (decide ((a.length:Int)>1048576),()):=by kernel_rfl
def adV:Any:=.one ⟨l1,aP,1,fun x=>anP F0 x.1⟩
def ayp:a8 6 adV:=aq aB trivial func6 ad (by kernel_rfl)
def H6:Nat->Option Hint:=look [(3,{live:=[0,3,4],xl:=[0,3],rl:=[2]})]
def yk (a:List Int)(h i:Int)(p:List Int):St:={nt:=32,tm:=[(0,ia 5 (.int .u8) a),(3,bb h),(4,bb i)],bx:=[],bl:=[],sp:=ia 5 (.int .u8) p}
def Ge (a:List Int)(h:Int)(p:List Int):St:={nt:=32,tm:=[(0,ia 5 (.int .u8) a),(3,bb h)],bx:=[],bl:=[],sp:=ia 5 (.int .u8) p}
def H7 (a:St):Option U:=fe aB F H6 [.r,.r,.l,.r,.b,.i] f22 J n a
abbrev jQ:List (Ty×Bool):=[(K2,true)]
def Ke:=ayn aB F H6 [.r,.r,.l,.r,.b] f22 .rd jQ [] 5
def Mt (a:List Int)(h i:Int)(p:List Int):H7 F J (n+1) (yk a h i p)=br (decide (i<(a.length:Int))) (br (decide (i<4000)) (ck (bE i (a.length:Int)) (H7 F J n (yk a (aj (((BitVec.ofInt 64 (aj ((aj ((aj (h*131))+(aj (aH a i 0))))+7)) &&& BitVec.ofInt 64 1073741823).toNat:Int))) (aj (i+1)) p))) (J (.exit 0) (Ge a h p))) (J (.exit 0) (Ge a h p)):=by kernel_rfl
def PG (a:List Int)(h:Int)(p:List Int):Ke F (.exit 0) (Ge a h p)=some (((a,0,h),()),()):=by kernel_rfl
def Kf (a:List Int):=Fa aB F H6 f22 l1 0 .rd jQ [] 5 (a,())
def arV (a:List Int):Kf F a=H7 F (Ke F) F.n (yk a (aj (26583+(a.length:Int))) 0 a):=by kernel_rfl
def V1:Any:=.two ⟨l1,0,.rd,jQ,5,[],fun x=>Kf F0 x.1⟩
def arW:a8 22 V1:=aBf aB trivial func22 H6 (by kernel_rfl)
abbrev cF:List (Ty×Bool):=[(.int .i64,false)]
def kL (c:D2):=Fa aB F ad f65 jQ 0 .cur cF jQ 1 (c,())
def anQ (c:D2):kL F c=br (decide (c.2.1<(c.1.length:Int))) (ck (bE c.2.1 (c.1.length:Int)) (some ((aj (((BitVec.ofInt 64 (aj ((aj (((BitVec.ofInt 64 (aj (((BitVec.ofInt 64 (Int.fdiv (aj ((aj (c.2.2*6364136223846793005))+1442695040888963407)) (2 ^ (min (33:Int).toNat 64))) ^^^ BitVec.ofInt 64 (Int.fdiv (aj ((aj (c.2.2*6364136223846793005))+1442695040888963407)) (2 ^ (min (45:Int).toNat 64)))).toNat:Int))) &&& BitVec.ofInt 64 255).toNat:Int)))+(aj (aH c.1 c.2.1 0)))) &&& BitVec.ofInt 64 255).toNat:Int)),()),(c.1,aj (c.2.1+1),aj ((aj (c.2.2*6364136223846793005))+1442695040888963407)),()))) (some ((aj (((BitVec.ofInt 64 (aj (((BitVec.ofInt 64 (Int.fdiv (aj ((aj (c.2.2*6364136223846793005))+1442695040888963407)) (2 ^ (min (33:Int).toNat 64))) ^^^ BitVec.ofInt 64 (Int.fdiv (aj ((aj (c.2.2*6364136223846793005))+1442695040888963407)) (2 ^ (min (45:Int).toNat 64)))).toNat:Int))) &&& BitVec.ofInt 64 255).toNat:Int)),()),(c.1,c.2.1,aj ((aj (c.2.2*6364136223846793005))+1442695040888963407)),())):=by kernel_rfl
def S6:Any:=.two ⟨jQ,0,.cur,cF,1,jQ,fun x=>kL F0 x.1⟩
def anR:a8 65 S6:=V0 aB trivial func65 ad (by kernel_rfl)
def V2:=[(65,S6)]
abbrev aDf:List (Ty×Bool):=[(K2,true),(.int .i64,false)]
def ax (c:D2)(a:Int):=Fa V2 F ad f25 aDf 0 .cur cF jQ 1 (c,a,())
def S7 (c:D2)(a:Int):ax F c a=br (decide (a<=0)) (some ((0,()),c,())) (br (decide (a<=256)) ((kL F0 c).bind fun b=>ck (!(a==0)) (some ((Int.tmod b.1.1 a,()),b.2.1,()))) ((kL F0 c).bind fun d=>(kL F0 d.2.1).bind fun e=>(kL F0 e.2.1).bind fun f=>(kL F0 f.2.1).bind fun g=>ck (!(a==0)) (some ((Int.tmod (aj ((aj ((aj ((aj (d.1.1*16777216))+(aj (e.1.1*65536))))+(aj (f.1.1*256))))+g.1.1)) a,()),g.2.1,())))):=by kernel_rfl
def ee:Any:=.two ⟨aDf,0,.cur,cF,1,jQ,fun x=>ax F0 x.1 x.2.1⟩
def fP:a8 25 ee:=V0 V2 ⟨anR,trivial⟩ func25 ad (by kernel_rfl)
def PH:=[(25,ee)]
abbrev aGK:List (Ty×Bool):=[(K2,true),(.sl 3 (.int .i64),false)]
def jR (c:D2)(a:List Int):=Fa PH F ad f62 aGK 0 .cur cF jQ 1 (c,a,())
def adW (c:D2)(a:List Int):jR F c a=(ax F0 c (a.length:Int)).bind fun b=>ck (bE b.1.1 (a.length:Int)) (some ((aH a b.1.1 0,()),b.2.1,())):=by kernel_rfl
def nz:Any:=.two ⟨aGK,0,.cur,cF,1,jQ,fun x=>jR F0 x.1 x.2.1⟩
def yl:a8 62 nz:=V0 PH ⟨fP,trivial⟩ func62 ad (by kernel_rfl)
def Z1:=[(25,ee)]
def nj (c:D2)(a:Int):=Fa Z1 F ad f63 aDf 0 .cur aP jQ 1 (c,a,())
def anS (c:D2)(a:Int):nj F c a=(ax F0 c a).bind fun b=>some ((b.1.1==0,()),b.2.1,()):=by kernel_rfl
def om:Any:=.two ⟨aDf,0,.cur,aP,1,jQ,fun x=>nj F0 x.1 x.2.1⟩
def ym:a8 63 om:=V0 Z1 ⟨fP,trivial⟩ func63 ad (by kernel_rfl)
abbrev aDg:List (Ty×Bool):=[(.int .i64,false),(.int .i64,false),(.int .i64,false)]
def bN (x a b:Int):=bm aB F ad f73 aDg aP 1 (x,a,b,())
def avL (x a b:Int):bN F x a b=br (decide (x>=a)) (some (decide (x<=b),())) (some (false,())):=by kernel_rfl
def b9:Any:=.one ⟨aDg,aP,1,fun x=>bN F0 x.1 x.2.1 x.2.2.1⟩
def cA:a8 73 b9:=aq aB trivial func73 ad (by kernel_rfl)
def Z2:=[(73,b9)]
abbrev S8:List (Ty×Bool):=[(K1,true)]
def dJ (c:D1):=bm Z2 F ad f32 S8 aP 1 (c,())
def anT (c:D1):dJ F c=(bN F0 c.1 4 7).bind fun a=>br a.1 ((bN F0 c.2 1 6).bind fun b=>some (b.1,())) (some (false,())):=by kernel_rfl
def cx:Any:=.one ⟨S8,aP,1,fun x=>dJ F0 x.1⟩
def dh:a8 32 cx:=aq Z2 ⟨cA,trivial⟩ func32 ad (by kernel_rfl)
def H8:Nat->Option Hint:=look [(4,{live:=[0,1,5,6,7],xl:=[5],rl:=[4]})]
def l2 (s:ByteArray)(a b i:Int)(c:List ByteArray):= cR 36 [(0,Z0 s),(1,.v (.c (.int .u8 a))),(5,.v (.c (.own 1000000 none))),(6,bb b),(7,bb i)] [] [az 1000000 9 (.str) c]
def S9 (a:List ByteArray):= cR 36 [(5,.v (.c (.own 1000000 none)))] [] [az 1000000 9 (.str) a]
def rP (a:St):Option U:=fe aB F H8 [.r,.r,.r,.l,.r,.b,.i] f218 J n a
abbrev ayq:List (Ty×Bool):=[(.sl 9 (.str),false)]
def Kg:=hH aB F H8 [.r,.r,.r,.l,.r,.b] f218 ayq 2
def Mu (s:ByteArray)(c a i:Int)(b:List ByteArray):rP F J (n+1) (l2 s c a i b)=br (decide (i<=(s.size:Int))) (br (i==(s.size:Int)) (ck (RZ a i (s.size:Int)) (ck (en F b.length [s.extract a.toNat i.toNat].length 16) (rP F J n (l2 s c (aj (i+1)) (aj (i+1)) (b++[s.extract a.toNat i.toNat]))))) (ck (bE i (s.size:Int)) (br ((jO s i)==c) (ck (RZ a i (s.size:Int)) (ck (en F b.length [s.extract a.toNat i.toNat].length 16) (rP F J n (l2 s c (aj (i+1)) (aj (i+1)) (b++[s.extract a.toNat i.toNat]))))) (rP F J n (l2 s c a (aj (i+1)) b))))) (J (.exit 0) (S9 b)):=by kernel_rfl
def agM (a:List ByteArray):Kg F (.exit 0) (S9 a)=some (a,()):=by kernel_rfl
abbrev Z3:List (Ty×Bool):=[(.str,false),(.int .u8,false)]
def we (s:ByteArray)(a:Int):=bm aB F H8 f218 Z3 ayq 2 (s,a,())
def arX (s:ByteArray)(a:Int):we F s a=rP F (Kg F) F.n (l2 s a 0 0 []):=by kernel_rfl
def Kh:Any:=.one ⟨Z3,ayq,2,fun x=>we F0 x.1 x.2.1⟩
def Z4:a8 218 Kh:=aq aB trivial func218 H8 (by kernel_rfl)
def H9:Nat->Option Hint:=look [(2,{live:=[0,1,7],rl:=[4,5,6]})]
def yn (s:ByteArray)(a i:Int):= bU 26 [(0,Z0 s),(1,.v (.c (.int .u8 a))),(7,bb i)]
def V3 (a b:ByteArray)(c:Bool):= bU 26 [(4,Z0 a),(5,Z0 b),(6,JH c)]
def Ta   := bU 26 []
def Ia (a:St):Option U:=fe aB F H9 [.r,.l,.r,.b,.i] f219 J n a
abbrev aGL:List (Ty×Bool):=[(.str,false),(.str,false),(.bool,false)]
def yo:=hH aB F H9 [.r,.l,.r,.b] f219 aGL 1
def Mv (s:ByteArray)(a i:Int):Ia F J (n+1) (yn s a i)=br (decide (i<(s.size:Int))) (ck (bE i (s.size:Int)) (br ((jO s i)==a) (ck (RZ 0 i (s.size:Int)) (ck (RZ (aj (i+1)) (s.size:Int) (s.size:Int)) (J .ret (V3 (s.extract (0:Int).toNat i.toNat) (s.extract (aj (i+1)).toNat (s.size:Int).toNat) true)))) (Ia F J n (yn s a (aj (i+1)))))) (J (.exit 0) (Ta)):=by kernel_rfl
def akJ (a b:ByteArray)(c:Bool):yo F .ret (V3 a b c)=some (a,b,c,()):=by kernel_rfl
def agN: yo F (.exit 0) (Ta)=some (ak,ak,false,()):=by kernel_rfl
def ib (s:ByteArray)(a:Int):=bm aB F H9 f219 Z3 aGL 1 (s,a,())
def arY (s:ByteArray)(a:Int):ib F s a=Ia F (yo F) F.n (yn s a 0):=by kernel_rfl
def Ki:Any:=.one ⟨Z3,aGL,1,fun x=>ib F0 x.1 x.2.1⟩
def Z5:a8 219 Ki:=aq aB trivial func219 H9 (by kernel_rfl)
def Dq:Nat->Option Hint:=look [(5,{live:=[0,3,4],xl:=[3,4],rl:=[2]})]
def oo (a:Int)(b:Bool)(c:ByteArray):= bU 31 [(0,bb a),(3,JH b),(4,Z0 c)]
def PI (a:Bool)(b:ByteArray):= bU 31 [(3,JH a),(4,Z0 b)]
def tN (a:St):Option U:=fe aB F Dq [.r,.r,.r,.r,.l,.b,.i] f254 J n a
abbrev dC:List (Ty×Bool):=[(.str,false)]
def Gf:=hH aB F Dq [.r,.r,.r,.r,.l,.b] f254 dC 1
def Kj (a:Int)(c:Bool)(b:ByteArray):tN F J (n+1) (oo a c b)=br (a != 0) (br (decide ((Int.tmod a 10)<0)) (ck (UU F (strOf [IntKind.wrap .u8 (aj (48+(aj (0-(Int.tmod a 10)))))]).size b.size) (tN F J n (oo (aj (Int.tdiv a 10)) c ((strOf [IntKind.wrap .u8 (aj (48+(aj (0-(Int.tmod a 10)))))])++b)))) (ck (UU F (strOf [IntKind.wrap .u8 (aj (48+(Int.tmod a 10)))]).size b.size) (tN F J n (oo (aj (Int.tdiv a 10)) c ((strOf [IntKind.wrap .u8 (aj (48+(Int.tmod a 10)))])++b))))) (J (.exit 0) (PI c b)):=by kernel_rfl
def adX (b:Bool)(a:ByteArray):Gf F (.exit 0) (PI b a)=br b (ck (UU F (ByteArray.mk #[45]).size a.size) (some ((ByteArray.mk #[45])++a,()))) (some (a,())):=by kernel_rfl
def kM (a:Int):=bm aB F Dq f254 cF dC 1 (a,())
def anU (a:Int):kM F a=br (a==0) (some (ByteArray.mk #[48],())) (tN F (Gf F) F.n (oo a (decide (a<0)) ak)):=by kernel_rfl
def uw:Any:=.one ⟨cF,dC,1,fun x=>kM F0 x.1⟩
def Kk:a8 254 uw:=aq aB trivial func254 Dq (by kernel_rfl)
def Ds:=[(254,uw)]
def Dt:Nat->Option Hint:=look [(5,{live:=[0,4,5],xl:=[0,4],rl:=[2,3]})]
def ux (s:ByteArray)(a i:Int):= bU 43 [(0,Z0 s),(4,bb a),(5,bb i)]
def Gg (a:Int)(b:Bool):= bU 43 [(2,bb a),(3,JH b)]
def PJ (s:ByteArray)(a:Int):= bU 43 [(0,Z0 s),(4,bb a)]
def Du (a:St):Option U:=fe Ds F Dt [.r,.r,.r,.l,.r,.b,.i] f220 J n a
abbrev atz:List (Ty×Bool):=[(.int .i64,false),(.bool,false)]
def uy:=hH Ds F Dt [.r,.r,.r,.l,.r,.b] f220 atz 1
def Kl (s:ByteArray)(a i:Int):Du F J (n+1) (ux s a i)=br (decide (i<(s.size:Int))) (ck (bE i (s.size:Int)) (br (decide ((jO s i)<48)) (J .ret (Gg 0 false)) (ck (bE i (s.size:Int)) (br (decide ((jO s i)>57)) (J .ret (Gg 0 false)) (ck (bE i (s.size:Int)) (Du F J n (ux s (aj ((aj ((aj (10*a))+(aj (jO s i))))-48)) (aj (i+1))))))))) (J (.exit 0) (PJ s a)):=by kernel_rfl
def agO (a:Int)(b:Bool):uy F .ret (Gg a b)=some (a,b,()):=by kernel_rfl
def adY (s:ByteArray)(a:Int):uy F (.exit 0) (PJ s a)=(kM F0 a).bind fun b=>br (!(b.1.toList==s.toList)) (some (0,false,())) (some (a,true,())):=by kernel_rfl
def nk (s:ByteArray):=bm Ds F Dt f220 dC atz 1 (s,())
def anV (s:ByteArray):nk F s=br (decide ((s.size:Int)<1)) (some (0,false,())) (br (decide ((s.size:Int)>6)) (some (0,false,())) (Du F (uy F) F.n (ux s 0 0))):=by kernel_rfl
def Gi:Any:=.one ⟨dC,atz,1,fun x=>nk F0 x.1⟩
def V4:a8 220 Gi:=aq Ds ⟨Kk,trivial⟩ func220 Dt (by kernel_rfl)
def ajp:=[(73,b9)]
abbrev Z6:List (Ty×Bool):=[(K4,true)]
def rQ (x:D4):=bm ajp F ad f211 Z6 aP 1 (x,())
def avM (x:D4):rQ F x=(bN F0 x.1 0 3).bind fun a=>br a.1 ((bN F0 x.2.1 0 3).bind fun b=>br b.1 ((bN F0 x.2.2.1 0 1000).bind fun c=>br c.1 ((bN F0 x.2.2.2 0 99).bind fun d=>some (d.1,())) (some (false,()))) (some (false,()))) (some (false,())):=by kernel_rfl
def lz:Any:=.one ⟨Z6,aP,1,fun x=>rQ F0 x.1⟩
def rR:a8 211 lz:=aq ajp ⟨cA,trivial⟩ func211 ad (by kernel_rfl)
def Z7:=[(211,lz),(254,uw)]
def wV (x:D4):=bm Z7 F ad f295 Z6 dC 1 (x,())
def anW (x:D4):wV F x=(rQ F0 x).bind fun e=>br (!e.1) (some (ak,())) ((kM F0 x.1).bind fun a=>ck (UU F a.1.size (ByteArray.mk #[62]).size) ((kM F0 x.2.1).bind fun b=>ck (UU F (a.1++(ByteArray.mk #[62])).size b.1.size) (ck (UU F ((a.1++(ByteArray.mk #[62]))++b.1).size (ByteArray.mk #[58]).size) ((kM F0 x.2.2.1).bind fun c=>ck (UU F (((a.1++(ByteArray.mk #[62]))++b.1)++(ByteArray.mk #[58])).size c.1.size) (ck (UU F ((((a.1++(ByteArray.mk #[62]))++b.1)++(ByteArray.mk #[58]))++c.1).size (ByteArray.mk #[35]).size) ((kM F0 x.2.2.2).bind fun d=>ck (UU F (((((a.1++(ByteArray.mk #[62]))++b.1)++(ByteArray.mk #[58]))++c.1)++(ByteArray.mk #[35])).size d.1.size) (some ((((((a.1++(ByteArray.mk #[62]))++b.1)++(ByteArray.mk #[58]))++c.1)++(ByteArray.mk #[35]))++d.1,())))))))):=by kernel_rfl
def Gj:Any:=.one ⟨Z6,dC,1,fun x=>wV F0 x.1⟩
def V5:a8 295 Gj:=aq Z7 ⟨rR,Kk,trivial⟩ func295 ad (by kernel_rfl)
def ajq:=[(219,Ki),(220,Gi),(295,Gj)]
abbrev aDh:List (Ty×Bool):=[(K4,true),(.bool,false)]
def YD (s:ByteArray):=bm ajq F ad f271 dC aDh 1 (s,())
def avN (s:ByteArray):YD F s=(ib F0 s 62).bind fun a=>(ib F0 a.2.1 58).bind fun b=>(ib F0 b.2.1 35).bind fun c=>(nk F0 a.1).bind fun d=>(nk F0 b.1).bind fun e=>(nk F0 c.1).bind fun f=>(nk F0 c.2.1).bind fun g=>br (s.toList==ak.toList) (some ((0,0,0,0),false,())) ((wV F0 (d.1,e.1,f.1,g.1)).bind fun h=>br (!(h.1.toList==s.toList)) (some ((0,0,0,0),false,())) (some ((d.1,e.1,f.1,g.1),true,()))):=by kernel_rfl
def Z8:Any:=.one ⟨dC,aDh,1,fun x=>YD F0 x.1⟩
def avO:a8 271 Z8:=aq ajq ⟨Z5,V4,V5,trivial⟩ func271 ad (by kernel_rfl)
def Ib:=[(218,Kh),(271,Z8)]
def Ic:Nat->Option Hint:=look [(6,{live:=[4,5,6],xl:=[4],rl:=[2,3]})]
def yp (i:Int)(b:List D4)(a:List ByteArray):= cR 37 [(4,.v (.c (.own 1000000 none))),(5,.v (.c (.own 1000001 none))),(6,bb i)] [] [az 1000000 52 K4 b,az 1000001 9 (.str) a]
def V6 (a:Bool)(b:List D4):= cR 37 [(2,.v (.c (.own 1000000 none))),(3,JH a)] [] [az 1000000 52 K4 b]
def Tb (a:List D4):= cR 37 [(4,.v (.c (.own 1000000 none)))] [] [az 1000000 52 K4 a]
def Ie (a:St):Option U:=fe Ib F Ic [.r,.r,.r,.r,.l,.r,.b,.i] f221 J n a
abbrev V7:List (Ty×Bool):=[(K5,false),(.bool,false)]
def yq:=hH Ib F Ic [.r,.r,.r,.r,.l,.r,.b] f221 V7 2
def Mw (i:Int)(b:List D4)(a:List ByteArray):Ie F J (n+1) (yp i b a)=br (decide (i<(a.length:Int))) (ck (bE i (a.length:Int)) ((YD F0 (aH a i ByteArray.empty)).bind fun c=>br (!c.2.1) (J .ret (V6 false [])) (ck (en F b.length [c.1].length 32) (Ie F J n (yp (aj (i+1)) (b++[c.1]) a))))) (J (.exit 0) (Tb b)):=by kernel_rfl
def akK (a:Bool)(b:List D4):yq F .ret (V6 a b)=some (b,a,()):=by kernel_rfl
def agP (a:List D4):yq F (.exit 0) (Tb a)=some (a,true,()):=by kernel_rfl
def Ci (s:ByteArray):=bm Ib F Ic f221 dC V7 2 (s,())
def arZ (s:ByteArray):Ci F s=br (s.toList==ak.toList) (some ([],true,())) ((we F0 s 44).bind fun a=>Ie F (yq F) F.n (yp 0 [] a.1)):=by kernel_rfl
def V8:Any:=.one ⟨dC,V7,2,fun x=>Ci F0 x.1⟩
def ar0:a8 221 V8:=aq Ib ⟨Z4,avO,trivial⟩ func221 Ic (by kernel_rfl)
def Ig:=[(218,Kh),(219,Ki),(220,Gi),(221,V8)]
def Ih:Nat->Option Hint:=look [(10,{live:=[4,5,6,7,8],xl:=[5],rl:=[2,3]})]
def yr (c i:Int)(d a:List D6)(b:List ByteArray):= cR 91 [(4,.v (.c (.own 1000000 none))),(5,.v (.c (.own 1000001 none))),(6,.v (.c (.own 1000002 none))),(7,bb c),(8,bb i)] [] [az 1000000 157 K6 d,az 1000001 157 K6 a,az 1000002 9 (.str) b]
def jS (a:Bool)(b:List D6):= cR 91 [(2,.v (.c (.own 1000000 none))),(3,JH a)] [] [az 1000000 157 K6 b]
def Tc (a:List D6):= cR 91 [(5,.v (.c (.own 1000000 none)))] [] [az 1000000 157 K6 a]
def Ii (a:St):Option U:=fe Ig F Ih [.r,.r,.r,.r,.r,.r,.r,.l,.r,.b,.i] f150 J n a
abbrev atA:List (Ty×Bool):=[(K7,false),(.bool,false)]
def yt:=hH Ig F Ih [.r,.r,.r,.r,.r,.r,.r,.l,.r,.b] f150 atA 2
def Mx (g i:Int)(a d:List D6)(c:List ByteArray):Ii F J (n+1) (yr g i a d c)=br (decide (i<(c.length:Int))) (ck (bE i (c.length:Int)) ((ib F0 (aH c i ByteArray.empty) 124).bind fun f=>(nk F0 f.1).bind fun b=>(Ci F0 f.2.1).bind fun e=>br (!f.2.2.1) (J .ret (jS false a)) (br (!b.2.1) (J .ret (jS false a)) (br (!e.2.1) (J .ret (jS false a)) (br (decide (b.1<=g)) (J .ret (jS false a)) (br (decide (b.1>60)) (J .ret (jS false a)) (br (decide ((e.1.length:Int)>2)) (J .ret (jS false a)) (ck (en F d.length [(b.1,e.1)].length 32) (Ii F J n (yr b.1 (aj (i+1)) a (d++[(b.1,e.1)]) c)))))))))) (J (.exit 0) (Tc d)):=by kernel_rfl
def Td (a:Bool)(b:List D6):yt F .ret (jS a b)=some (b,a,()):=by kernel_rfl
def agQ (a:List D6):yt F (.exit 0) (Tc a)=some (a,true,()):=by kernel_rfl
def p6 (s:ByteArray):=bm Ig F Ih f150 dC atA 2 (s,())
def ar1 (s:ByteArray):p6 F s=br (s.toList==ak.toList) (some ([],true,())) ((we F0 s 47).bind fun a=>ck (bE 0 (a.1.length:Int)) (br (!((aH a.1 0 ByteArray.empty).toList==ak.toList)) (some ([],false,())) (br (decide ((a.1.length:Int)>31)) (some ([],false,())) (Ii F (yt F) F.n (yr 0 1 [] [] a.1))))):=by kernel_rfl
def p7:Any:=.one ⟨dC,atA,2,fun x=>p6 F0 x.1⟩
def Dv:a8 150 p7:=aq Ig ⟨Z4,Z5,V4,ar0,trivial⟩ func150 Ih (by kernel_rfl)
def Z9:=[(150,p7)]
def eZ (s:ByteArray):=bm Z9 F ad f78 dC aP 1 (s,())
def anX (s:ByteArray):eZ F s=(p6 F0 s).bind fun a=>some (a.2.1,()):=by kernel_rfl
def eO:Any:=.one ⟨dC,aP,1,fun x=>eZ F0 x.1⟩
def gQ:a8 78 eO:=aq Z9 ⟨Dv,trivial⟩ func78 ad (by kernel_rfl)
def aaa:=[(150,p7)]
def du (s:ByteArray):=bm aaa F ad f79 dC cF 1 (s,())
def anY (s:ByteArray):du F s=(p6 F0 s).bind fun a=>br (!a.2.1) (some (0,())) (br ((a.1.length:Int)==0) (some (0,())) (ck (bE (aj ((a.1.length:Int)-1)) (a.1.length:Int)) (some ((aH a.1 (aj ((a.1.length:Int)-1)) (0,[])).1,())))):=by kernel_rfl
def di:Any:=.one ⟨dC,cF,1,fun x=>du F0 x.1⟩
def eH:a8 79 di:=aq aaa ⟨Dv,trivial⟩ func79 ad (by kernel_rfl)
def Ij:Nat->Option Hint:=look [(2,{live:=[0,1,5],rl:=[4]})]
def p8 (a:Int)(s:List Int)(i:Int):= bU 41 [(0,bb a),(1,ia 3 (.int .i64) s),(5,bb i)]
def yu (a:Bool):= bU 41 [(4,JH a)]
def Te   := bU 41 []
def yv (a:St):Option U:=fe aB F Ij [.r,.l,.r,.b,.i] f75 J n a
def yw:=hH aB F Ij [.r,.l,.r,.b] f75 aP 1
def My (a:Int)(s:List Int)(i:Int):yv F J (n+1) (p8 a s i)=br (decide (i<(s.length:Int))) (ck (bE i (s.length:Int)) (br (decide ((aH s i 0)<0)) (J .ret (yu false)) (ck (bE i (s.length:Int)) (br (decide ((aH s i 0)>=a)) (J .ret (yu false)) (br (decide (i>0)) (ck (bE (aj (i-1)) (s.length:Int)) (ck (bE i (s.length:Int)) (br (decide ((aH s (aj (i-1)) 0)>=(aH s i 0))) (J .ret (yu false)) (yv F J n (p8 a s (aj (i+1))))))) (yv F J n (p8 a s (aj (i+1))))))))) (J (.exit 0) (Te)):=by kernel_rfl
def akL (a:Bool):yw F .ret (yu a)=some (a,()):=by kernel_rfl
def agR: yw F (.exit 0) (Te)=some (true,()):=by kernel_rfl
abbrev aDi:List (Ty×Bool):=[(.int .i64,false),(.sl 3 (.int .i64),false)]
def Cj (a:Int)(s:List Int):=bm aB F Ij f75 aDi aP 1 (a,s,())
def ar2 (a:Int)(s:List Int):Cj F a s=yv F (yw F) F.n (p8 a s 0):=by kernel_rfl
def yx:Any:=.one ⟨aDi,aP,1,fun x=>Cj F0 x.1 x.2.1⟩
def O0:a8 75 yx:=aq aB trivial func75 Ij (by kernel_rfl)
def aab:=[(32,cx)]
def wW (c:D1):=bm aab F ad f127 S8 cF 1 (c,())
def anZ (c:D1):wW F c=(dJ F0 c).bind fun a=>br (!a.1) (some (0,())) (some (aj (c.1-(aj (Int.tdiv (aj (c.1-1)) 3))),())):=by kernel_rfl
def uz:Any:=.one ⟨S8,cF,1,fun x=>wW F0 x.1⟩
def Km:a8 127 uz:=aq aab ⟨dh,trivial⟩ func127 ad (by kernel_rfl)
def ajr:=[(32,cx),(75,yx),(78,eO),(79,di),(127,uz)]
abbrev G3:List (Ty×Bool):=[(K1,true),(K9,true)]
def ku (c:D1)(q:D9):=bm ajr F ad f134 G3 aP 1 (c,q,())
def avP (c:D1)(q:D9):ku F c q=(dJ F0 c).bind fun a=>br (!a.1) (some (false,())) ((eZ F0 q.2.1).bind fun b=>br (!b.1) (some (false,())) ((du F0 q.2.1).bind fun d=>br (d.1 != q.1) (some (false,())) (br (q.2.1.toList==ak.toList) (some ((q.2.2.length:Int)==0,())) ((Cj F0 c.1 q.2.2).bind fun e=>br e.1 ((wW F0 c).bind fun f=>some (decide ((q.2.2.length:Int)>=f.1),())) (some (false,())))))):=by kernel_rfl
def gA:Any:=.one ⟨G3,aP,1,fun x=>ku F0 x.1 x.2.1⟩
def kN:a8 134 gA:=aq ajr ⟨dh,O0,gQ,eH,Km,trivial⟩ func134 ad (by kernel_rfl)
def aac:=[(73,b9),(78,eO),(134,gA)]
abbrev Tf:List (Ty×Bool):=[(K1,true),(K12,true)]
def jj (c:D1)(s:U0):=bm aac F ad f141 Tf aP 1 (c,s,())
def an0 (c:D1)(s:U0):jj F c s=(bN F0 s.1 0 60).bind fun a=>br a.1 ((bN F0 s.2.1 0 60).bind fun b=>br b.1 ((ku F0 c s.2.2.1).bind fun d=>br d.1 ((eZ F0 s.2.2.2).bind fun e=>some (e.1,())) (some (false,()))) (some (false,()))) (some (false,())):=by kernel_rfl
def ic:Any:=.one ⟨Tf,aP,1,fun x=>jj F0 x.1 x.2.1⟩
def l3:a8 141 ic:=aq aac ⟨cA,gQ,kN,trivial⟩ func141 ad (by kernel_rfl)
abbrev aDj:List (Ty×Bool):=[(K4,true),(K4,true)]
def tO (a b:D4):=bm aB F ad f212 aDj aP 1 (a,b,())
def agS (a b:D4):tO F a b=br (decide (a.1<b.1)) (some (true,())) (br (a.1==b.1) (some (decide (a.2.2.2<b.2.2.2),())) (some (false,()))):=by kernel_rfl
def yy:Any:=.one ⟨aDj,aP,1,fun x=>tO F0 x.1 x.2.1⟩
def PK:a8 212 yy:=aq aB trivial func212 ad (by kernel_rfl)
def Dw:=[(211,lz),(212,yy)]
def Dx:Nat->Option Hint:=look [(2,{live:=[0,3],xl:=[0],rl:=[2]})]
def oq (p:List D4)(i:Int):= bU 36 [(0,ia 52 (K4) p),(3,bb i)]
def Gk (a:Bool):= bU 36 [(2,JH a)]
def PL (p:List D4):= bU 36 [(0,ia 52 (K4) p)]
def tP (a:St):Option U:=fe Dw F Dx [.r,.l,.r,.b,.i] f142 J n a
def uA:=hH Dw F Dx [.r,.l,.r,.b] f142 aP 1
def Kn (p:List D4)(i:Int):tP F J (n+1) (oq p i)=br (decide (i<(p.length:Int))) (ck (bE i (p.length:Int)) ((rQ F0 (aH p i K4.aC)).bind fun a=>br (!a.1) (J .ret (Gk false)) (br (decide (i>0)) (ck (bE (aj (i-1)) (p.length:Int)) (ck (bE i (p.length:Int)) ((tO F0 (aH p (aj (i-1)) K4.aC) (aH p i K4.aC)).bind fun b=>br (!b.1) (J .ret (Gk false)) (tP F J n (oq p (aj (i+1))))))) (tP F J n (oq p (aj (i+1))))))) (J (.exit 0) (PL p)):=by kernel_rfl
def agT (a:Bool):uA F .ret (Gk a)=some (a,()):=by kernel_rfl
def adZ (p:List D4):uA F (.exit 0) (PL p)=some (decide ((p.length:Int)<=12),()):=by kernel_rfl
abbrev kl:List (Ty×Bool):=[(K5,false)]
def Fb (p:D5):=bm Dw F Dx f142 kl aP 1 (p,())
def an1 (p:D5):Fb F p=tP F (uA F) F.n (oq p 0):=by kernel_rfl
def Gl:Any:=.one ⟨kl,aP,1,fun x=>Fb F0 x.1⟩
def V9:a8 142 Gl:=aq Dw ⟨rR,PK,trivial⟩ func142 Dx (by kernel_rfl)
def aad:=[(32,cx),(73,b9),(75,yx),(78,eO),(79,di)]
def kO (c:D1)(p:D9):=bm aad F ad f213 G3 aP 1 (c,p,())
def an2 (c:D1)(p:D9):kO F c p=(dJ F0 c).bind fun a=>br (!a.1) (some (false,())) ((bN F0 p.1 1 60).bind fun b=>br (!b.1) (some (false,())) ((Cj F0 c.1 p.2.2).bind fun d=>br (!d.1) (some (false,())) (br ((p.2.2.length:Int)==0) (some (false,())) (br (p.2.1.toList==ak.toList) (some (true,())) ((eZ F0 p.2.1).bind fun e=>br e.1 ((du F0 p.2.1).bind fun f=>some (f.1==p.1,())) (some (false,()))))))):=by kernel_rfl
def ot:Any:=.one ⟨G3,aP,1,fun x=>kO F0 x.1 x.2.1⟩
def yz:a8 213 ot:=aq aad ⟨dh,cA,O0,gQ,eH,trivial⟩ func213 ad (by kernel_rfl)
abbrev wX:List (Ty×Bool):=[(K9,true),(K9,true)]
def p9 (a b:D9):=bm aB F ad f214 wX aP 1 (a,b,())
def ad0 (a b:D9):p9 F a b=br (decide (a.1<b.1)) (some (true,())) (br (a.1==b.1) (some (Op.bytesLess a.2.1.toList b.2.1.toList,())) (some (false,()))):=by kernel_rfl
def wg:Any:=.one ⟨wX,aP,1,fun x=>p9 F0 x.1 x.2.1⟩
def Mz:a8 214 wg:=aq aB trivial func214 ad (by kernel_rfl)
def yA:=[(213,ot),(214,wg)]
def yB:Nat->Option Hint:=look [(2,{live:=[1,2,5],xl:=[1],rl:=[4]})]
def l4 (b:List D9)(i c a:Int):= cR 39 [(1,ia 50 (K9) b),b1 2,(5,bb i)] [(2,[ao c,ao a])] []
def Ck (a:Bool):= bU 39 [(4,JH a)]
def MA (a:List D9):= bU 39 [(1,ia 50 (K9) a)]
def qa (a:St):Option U:=fe yA F yB [.r,.l,.r,.b,.i] f143 J n a
def rS:=hH yA F yB [.r,.l,.r,.b] f143 aP 1
def G4 (a:List D9)(i c b:Int):qa F J (n+1) (l4 a i c b)=br (decide (i<(a.length:Int))) (ck (bE i (a.length:Int)) ((kO F0 (c,b) (aH a i K9.aC)).bind fun d=>br (!d.1) (J .ret (Ck false)) (br (decide (i>0)) (ck (bE (aj (i-1)) (a.length:Int)) (ck (bE i (a.length:Int)) ((p9 F0 (aH a (aj (i-1)) K9.aC) (aH a i K9.aC)).bind fun e=>br (!e.1) (J .ret (Ck false)) (qa F J n (l4 a (aj (i+1)) c b))))) (qa F J n (l4 a (aj (i+1)) c b))))) (J (.exit 0) (MA a)):=by kernel_rfl
def ad1 (a:Bool):rS F .ret (Ck a)=some (a,()):=by kernel_rfl
def ab1 (a:List D9):rS F (.exit 0) (MA a)=some (decide ((a.length:Int)<=20),()):=by kernel_rfl
abbrev aDk:List (Ty×Bool):=[(K1,true),(K13,false)]
def nA (c:D1)(a:D13):=bm yA F yB f143 aDk aP 1 (c,a,())
def akM (c:D1)(a:D13):nA F c a=qa F (rS F) F.n (l4 a 0 c.1 c.2):=by kernel_rfl
def Cl:Any:=.one ⟨aDk,aP,1,fun x=>nA F0 x.1 x.2.1⟩
def Tg:a8 143 Cl:=aq yA ⟨yz,Mz,trivial⟩ func143 yB (by kernel_rfl)
def aae:=[(73,b9)]
abbrev pf:List (Ty×Bool):=[(K14,true)]
def nm (d:D14):=bm aae F ad f144 pf aP 1 (d,())
def an3 (d:D14):nm F d=br (decide ((d.1.length:Int)<=100000)) ((bN F0 d.2 0 (d.1.length:Int)).bind fun a=>some (a.1,())) (some (false,())):=by kernel_rfl
def ou:Any:=.one ⟨pf,aP,1,fun x=>nm F0 x.1⟩
def yC:a8 144 ou:=aq aae ⟨cA,trivial⟩ func144 ad (by kernel_rfl)
def Dy:Nat->Option Hint:=look [(2,{live:=[0,1,5],xl:=[0,1],rl:=[4]})]
def uB (a b:List Int)(i:Int):= bU 32 [(0,ia 3 (.int .i64) a),(1,ia 3 (.int .i64) b),(5,bb i)]
def Th (a:Bool):= bU 32 [(4,JH a)]
def Cm (a b:List Int):= bU 32 [(0,ia 3 (.int .i64) a),(1,ia 3 (.int .i64) b)]
def Dz (a:St):Option U:=fe aB F Dy [.r,.l,.r,.b,.i] f348 J n a
def uC:=hH aB F Dy [.r,.l,.r,.b] f348 aP 1
def Ko (a b:List Int)(i:Int):Dz F J (n+1) (uB a b i)=br (decide (i<(a.length:Int))) (br (decide (i<(b.length:Int))) (ck (bE i (a.length:Int)) (ck (bE i (b.length:Int)) (br ((aH a i 0) != (aH b i 0)) (J .ret (Th false)) (Dz F J n (uB a b (aj (i+1))))))) (J (.exit 0) (Cm a b))) (J (.exit 0) (Cm a b)):=by kernel_rfl
def agU (a:Bool):uC F .ret (Th a)=some (a,()):=by kernel_rfl
def ad2 (a b:List Int):uC F (.exit 0) (Cm a b)=some ((a.length:Int)==(b.length:Int),()):=by kernel_rfl
abbrev akN:List (Ty×Bool):=[(.sl 3 (.int .i64),false),(.sl 3 (.int .i64),false)]
def Fc (a b:List Int):=bm aB F Dy f348 akN aP 1 (a,b,())
def an4 (a b:List Int):Fc F a b=Dz F (uC F) F.n (uB a b 0):=by kernel_rfl
def Gm:Any:=.one ⟨akN,aP,1,fun x=>Fc F0 x.1 x.2.1⟩
def Wa:a8 348 Gm:=aq aB trivial func348 Dy (by kernel_rfl)
def aaf:=[(348,Gm)]
def wY (a b:D9):=bm aaf F ad f317 wX aP 1 (a,b,())
def an5 (a b:D9):wY F a b=br (a.1==b.1) (br (a.2.1.toList==b.2.1.toList) ((Fc F0 a.2.2 b.2.2).bind fun c=>some (c.1,())) (some (false,()))) (some (false,())):=by kernel_rfl
def uD:Any:=.one ⟨wX,aP,1,fun x=>wY F0 x.1 x.2.1⟩
def Kp:a8 317 uD:=aq aaf ⟨Wa,trivial⟩ func317 ad (by kernel_rfl)
def PN:=[(317,uD)]
abbrev aDl:List (Ty×Bool):=[(K15,true),(K15,true)]
def yD (a b:D15):=bm PN F ad f315 aDl aP 1 (a,b,())
def ad3 (a b:D15):yD F a b=br (a.1.toList==b.1.toList) ((wY F0 a.2 b.2).bind fun c=>some (c.1,())) (some (false,())):=by kernel_rfl
def Kq:Any:=.one ⟨aDl,aP,1,fun x=>yD F0 x.1 x.2.1⟩
def ad4:a8 315 Kq:=aq PN ⟨Kp,trivial⟩ func315 ad (by kernel_rfl)
def Wb:=[(348,Gm)]
def Ik (a b:D9):=bm Wb F ad f316 wX aP 1 (a,b,())
def akO (a b:D9):Ik F a b=br (a.1==b.1) (br (a.2.1.toList==b.2.1.toList) ((Fc F0 a.2.2 b.2.2).bind fun c=>some (c.1,())) (some (false,()))) (some (false,())):=by kernel_rfl
def PO:Any:=.one ⟨wX,aP,1,fun x=>Ik F0 x.1 x.2.1⟩
def akP:a8 316 PO:=aq Wb ⟨Wa,trivial⟩ func316 ad (by kernel_rfl)
end
end Go.Am.Tryz
namespace Go.Am.Tryz
open Go.Am Go.Proofs Go.Proofs.Tryz
noncomputable section
variable {U:Type} (F:rH) (J:Ex->St->Option U) (n:Nat)
def Wc:=[(315,Kq),(316,PO),(317,uD)]
abbrev aDm:List (Ty×Bool):=[(K21,true),(K21,true)]
def kP (a b:OZ):=bm Wc F ad f270 aDm aP 1 (a,b,())
def akQ (a b:OZ):kP F a b=br (a.1==b.1) (br (a.2.1==b.2.1) ((yD F0 a.2.2.1 b.2.2.1).bind fun c=>br c.1 ((Ik F0 a.2.2.2.1 b.2.2.2.1).bind fun d=>br d.1 ((wY F0 a.2.2.2.2.1 b.2.2.2.2.1).bind fun e=>br e.1 (br (a.2.2.2.2.2.1==b.2.2.2.2.2.1) (some ((a.2.2.2.2.2.2.1==b.2.2.2.2.2.2.1)&&((a.2.2.2.2.2.2.2.1==b.2.2.2.2.2.2.2.1)&&((a.2.2.2.2.2.2.2.2.1==b.2.2.2.2.2.2.2.2.1)&&((a.2.2.2.2.2.2.2.2.2==b.2.2.2.2.2.2.2.2.2)&&true))),())) (some (false,()))) (some (false,()))) (some (false,()))) (some (false,()))) (some (false,()))) (some (false,())):=by kernel_rfl
def PQ:Any:=.one ⟨aDm,aP,1,fun x=>kP F0 x.1 x.2.1⟩
def akR:a8 270 PQ:=aq Wc ⟨ad4,akP,Kp,trivial⟩ func270 ad (by kernel_rfl)
def Wd:=[(270,PQ)]
abbrev wZ:List (Ty×Bool):=[(K21,true)]
def Il (m:OZ):=bm Wd F ad f215 wZ aP 1 (m,())
def akS (m:OZ):Il F m=br (m.1==1) ((kP F0 (m.1,0,m.2.2.1,(0,ak,[]),(0,ak,[]),0,0,0,0,0) m).bind fun a=>some (a.1,())) (br (m.1==2) ((kP F0 (m.1,0,(ak,0,ak,[]),m.2.2.2.1,(0,ak,[]),0,0,0,0,0) m).bind fun a=>some (a.1,())) (br (m.1==3) ((kP F0 (m.1,m.2.1,(ak,0,ak,[]),(0,ak,[]),m.2.2.2.2.1,m.2.2.2.2.2.1,0,0,0,0) m).bind fun a=>some (a.1,())) (br (m.1==4) ((kP F0 (m.1,0,(ak,0,ak,[]),(0,ak,[]),(0,ak,[]),0,m.2.2.2.2.2.2) m).bind fun a=>some (a.1,())) ((kP F0 (m.1,0,(ak,0,ak,[]),(0,ak,[]),(0,ak,[]),0,0,0,0,0) m).bind fun a=>some (a.1,()))))):=by kernel_rfl
def PR:Any:=.one ⟨wZ,aP,1,fun x=>Il F0 x.1⟩
def akT:a8 215 PR:=aq Wd ⟨akR,trivial⟩ func215 ad (by kernel_rfl)
abbrev atB:List (Ty×Bool):=[(.int .i64,false),(.int .i64,false)]
def dK (a b:Int):=bm aB F ad f66 atB cF 1 (a,b,())
def aag (a b:Int):dK F a b=br (decide (a>b)) (some (a,())) (some (b,())):=by kernel_rfl
def gR:Any:=.one ⟨atB,cF,1,fun x=>dK F0 x.1 x.2.1⟩
def lA:a8 66 gR:=aq aB trivial func66 ad (by kernel_rfl)
def MB:=[(66,gR),(78,eO)]
def MC:Nat->Option Hint:=look [(4,{live:=[0,3],xl:=[0,3],rl:=[2]})]
def DA (s:ByteArray)(k:Int):= bU 25 [(0,Z0 s),(3,bb k)]
def yE (s:ByteArray)(k:Int):= bU 25 [(0,Z0 s),(3,bb k)]
def MD (a:St):Option U:=fe MB F MC [.r,.r,.r,.l,.b,.i] f200 J n a
def aah:=hH MB F MC [.r,.r,.r,.l,.b] f200 dC 1
def PS (s:ByteArray)(k:Int):MD F J (n+1) (DA s k)=br (decide (k>0)) (ck (bE (aj (k-1)) (s.size:Int)) (br ((jO s (aj (k-1))) != 47) (MD F J n (DA s (aj (k-1)))) (J (.exit 0) (yE s k)))) (J (.exit 0) (yE s k)):=by kernel_rfl
def akU (s:ByteArray)(k:Int):aah F (.exit 0) (yE s k)=(dK F0 (aj (k-1)) 0).bind fun a=>ck (RZ 0 a.1 (s.size:Int)) (some (s.extract (0:Int).toNat a.1.toNat,())):=by kernel_rfl
def ajs (s:ByteArray):=bm MB F MC f200 dC dC 1 (s,())
def ad5:∃f,f= @ajs:=⟨_,rfl⟩
def l5:=Classical.choose ad5
def aai: @l5= @ajs:=Classical.choose_spec ad5
def avQ (s:ByteArray):l5 F s=(eZ F0 s).bind fun a=>br (!a.1) (some (ak,())) (MD F (aah F) F.n (DA s (s.size:Int))):=by rw[aai];kernel_rfl
def tQ:Any:=.one ⟨dC,dC,1,fun x=>l5 F0 x.1⟩
def Im:a8 200 tQ:=ok1 (show yh Tryz.prog TB MB from⟨lA,gQ,trivial⟩) func200 (by kernel_rfl) (by kernel_rfl) MC (by rw[aai];kernel_rfl)
def We:=[(78,eO),(134,gA),(200,tQ)]
abbrev aDn:List (Ty×Bool):=[(K1,true),(K15,true)]
def nB (c:D1)(b:D15):=bm We F ad f199 aDn aP 1 (c,b,())
def akV (c:D1)(b:D15):nB F c b=(ku F0 c b.2).bind fun a=>br a.1 ((eZ F0 b.1).bind fun d=>br d.1 (br (!(b.1.toList==ak.toList)) ((l5 F0 b.1).bind fun e=>some (e.1.toList==b.2.2.1.toList,())) (some (false,()))) (some (false,()))) (some (false,())):=by kernel_rfl
def l6:Any:=.one ⟨aDn,aP,1,fun x=>nB F0 x.1 x.2.1⟩
def uE:a8 199 l6:=aq We ⟨gQ,kN,Im,trivial⟩ func199 ad (by kernel_rfl)
def ad6:=[(32,cx),(73,b9),(134,gA),(199,l6),(211,lz),(213,ot),(215,PR)]
abbrev ajt:List (Ty×Bool):=[(K1,true),(K21,true)]
def fs (c:D1)(m:OZ):=bm ad6 F ad f145 ajt aP 1 (c,m,())
def ar3 (c:D1)(m:OZ):fs F c m=(dJ F0 c).bind fun a=>br (!a.1) (some (false,())) ((Il F0 m).bind fun b=>br (!b.1) (some (false,())) (br (m.1==1) ((nB F0 c m.2.2.1).bind fun d=>some (d.1,())) (br (m.1==2) ((kO F0 c m.2.2.2.1).bind fun e=>br e.1 (some (!(m.2.2.2.1.2.1.toList==ak.toList),())) (some (false,()))) (br (m.1==3) ((bN F0 m.2.1 1 60).bind fun f=>br f.1 ((ku F0 c m.2.2.2.2.1).bind fun g=>br g.1 ((bN F0 m.2.2.2.2.2.1 0 (aj (c.1-1))).bind fun h=>some (h.1,())) (some (false,()))) (some (false,()))) (br (m.1==4) ((rQ F0 m.2.2.2.2.2.2).bind fun i=>some (i.1,())) (some (false,()))))))):=by kernel_rfl
def jT:Any:=.one ⟨ajt,aP,1,fun x=>fs F0 x.1 x.2.1⟩
def oQ:a8 145 jT:=aq ad6 ⟨dh,cA,kN,uE,rR,yz,akT,trivial⟩ func145 ad (by kernel_rfl)
def Io:=[(32,cx),(73,b9),(141,ic),(142,Gl),(143,Cl),(144,ou),(145,jT)]
def Ip:Nat->Option Hint:=look [(4,{live:=[2,3,5],rl:=[4]})]
def yF (i c a r b d e f g:Int)(h:ByteArray)(j:List Int)(k:ByteArray)(l:List D4)(m:List D9)(o:List Int)(p:Int)(q:List lv):= cR 102 [b1 2,b1 3,(5,bb i)] [(2,[ao c,ao a]),(3,[ao r,ao b,ao d,ao e,ao f,ao g,.str h,.ro false 3 (.int .i64) j,.str k,.ro false 52 (K4) l,.ro false 50 (K9) m,.ro false 5 (.int .u8) o,ao p,.ro false 136 (pY) q])] []
def yG (a:Bool):= bU 102 [(4,JH a)]
def Ti   := bU 102 []
def Iq (a:St):Option U:=fe Io F Ip [.r,.r,.l,.r,.b,.i] f74 J n a
def yH:=hH Io F Ip [.r,.r,.l,.r,.b] f74 aP 1
def ME (i c b r d e f g h:Int)(j:ByteArray)(k:List Int)(l:ByteArray)(m:List D4)(o:List D9)(p:List Int)(q:Int)(a:List lv):Iq F J (n+1) (yF i c b r d e f g h j k l m o p q a)=br (decide (i<(a.length:Int))) (ck (bE i (a.length:Int)) ((fs F0 (c,b) (aH a i pY.aC).2).bind fun s=>br (!s.1) (J .ret (yG false)) (ck (bE i (a.length:Int)) ((bN F0 (aH a i pY.aC).1 0 (aj (c-1))).bind fun t=>br (!t.1) (J .ret (yG false)) (ck (bE i (a.length:Int)) (br ((aH a i pY.aC).1==r) (J .ret (yG false)) (Iq F J n (yF (aj (i+1)) c b r d e f g h j k l m o p q a)))))))) (J (.exit 0) (Ti)):=by kernel_rfl
def akW (a:Bool):yH F .ret (yG a)=some (a,()):=by kernel_rfl
def agV: yH F (.exit 0) (Ti)=some (true,()):=by kernel_rfl
abbrev x4:List (Ty×Bool):=[(K1,true),(b8,true)]
def dx (c:D1)(r:a7):=bm Io F Ip f74 x4 aP 1 (c,r,())
def ar4 (c:D1)(r:a7):dx F c r=(dJ F0 c).bind fun a=>br (!a.1) (some (false,())) ((bN F0 r.1 0 (aj (c.1-1))).bind fun b=>br (!b.1) (some (false,())) ((bN F0 r.2.1 1 60).bind fun d=>br (!d.1) (some (false,())) ((bN F0 r.2.2.1 0 60).bind fun e=>br (!e.1) (some (false,())) ((jj F0 c r.2.2.2.1).bind fun f=>br (!f.1) (some (false,())) ((Fb F0 r.2.2.2.2.1).bind fun g=>br (!g.1) (some (false,())) ((nA F0 c r.2.2.2.2.2.1).bind fun h=>br (!h.1) (some (false,())) ((nm F0 r.2.2.2.2.2.2.1).bind fun i=>br (!i.1) (some (false,())) (br (decide ((r.2.2.2.2.2.2.2.length:Int)>30)) (some (false,())) (Iq F (yH F) F.n (yF 0 c.1 c.2 r.1 r.2.1 r.2.2.1 r.2.2.2.1.1 r.2.2.2.1.2.1 r.2.2.2.1.2.2.1.1 r.2.2.2.1.2.2.1.2.1 r.2.2.2.1.2.2.1.2.2 r.2.2.2.1.2.2.2 r.2.2.2.2.1 r.2.2.2.2.2.1 r.2.2.2.2.2.2.1.1 r.2.2.2.2.2.2.1.2 r.2.2.2.2.2.2.2)))))))))):=by kernel_rfl
def cn:Any:=.one ⟨x4,aP,1,fun x=>dx F0 x.1 x.2.1⟩
def cU:a8 74 cn:=aq Io ⟨dh,cA,l3,V9,Tg,yC,oQ,trivial⟩ func74 Ip (by kernel_rfl)
def aaj:=[(74,cn)]
abbrev aju:List (Ty×Bool):=[(K1,true),(.int .i64,false)]
abbrev gB:List (Ty×Bool):=[(b8,true),(.bool,false)]
def MF (c:D1)(a:Int):=bm aaj F ad f33 aju gB 2 (c,a,())
def an6 (c:D1)(a:Int):MF F c a=(dx F0 c (a,1,0,(0,0,(0,ak,[]),ak),[],[],([],0),[])).bind fun b=>br (!b.1) (some ((0,0,0,(0,0,(0,ak,[]),ak),[],[],([],0),[]),false,())) (some ((a,1,0,(0,0,(0,ak,[]),ak),[],[],([],0),[]),true,())):=by kernel_rfl
def Tj:Any:=.one ⟨aju,gB,2,fun x=>MF F0 x.1 x.2.1⟩
def an7:a8 33 Tj:=aq aaj ⟨cU,trivial⟩ func33 ad (by kernel_rfl)
def aak:=[(32,cx)]
def MG (c:D1):=bm aak F ad f76 S8 cF 1 (c,())
def an8 (c:D1):MG F c=(dJ F0 c).bind fun a=>br (!a.1) (some (0,())) (some (aj (Int.tdiv (aj (c.1-1)) 3),())):=by kernel_rfl
def Tk:Any:=.one ⟨S8,cF,1,fun x=>MG F0 x.1⟩
def an9:a8 76 Tk:=aq aak ⟨dh,trivial⟩ func76 ad (by kernel_rfl)
def DB:Nat->Option Hint:=look [(3,{live:=[0,1,7,8],rl:=[4,5,6]})]
def uF (b:List Int)(a c k:Int):= bU 55 [(0,ia 5 (.int .u8) b),(1,bb a),(7,bb c),(8,bb k)]
def fQ (a b:Int)(c:Bool):= bU 55 [(4,bb a),(5,bb b),(6,JH c)]
def PT   := bU 55 []
def DC (a:St):Option U:=fe aB F DB [.r,.r,.l,.r,.b,.i] f216 J n a
abbrev atC:List (Ty×Bool):=[(.int .i64,false),(.int .i64,false),(.bool,false)]
def uG:=hH aB F DB [.r,.r,.l,.r,.b] f216 atC 1
def Kr (b:List Int)(a c k:Int):DC F J (n+1) (uF b a c k)=br (decide (k<5)) (br (decide (a<0)) (J .ret (fQ 0 0 false)) (br (decide (a>=(aj ((b.length:Int)-k)))) (J .ret (fQ 0 0 false)) (ck (bE (aj (a+k)) (b.length:Int)) (ck (decide (0<=(aj (7*k)))) (br (decide ((aj (aH b (aj (a+k)) 0))<128)) (br (decide (k>0)) (br ((aj (aH b (aj (a+k)) 0))==0) (J .ret (fQ 0 0 false)) (br (decide ((aj (((BitVec.ofInt 64 c ||| BitVec.ofInt 64 (aj ((Int.tmod (aj (aH b (aj (a+k)) 0)) 128)*2 ^ (min (aj (7*k)).toNat 64)))).toNat:Int)))>2147483647)) (J .ret (fQ 0 0 false)) (J .ret (fQ (aj (((BitVec.ofInt 64 c ||| BitVec.ofInt 64 (aj ((Int.tmod (aj (aH b (aj (a+k)) 0)) 128)*2 ^ (min (aj (7*k)).toNat 64)))).toNat:Int))) (aj ((aj (a+k))+1)) true)))) (br (decide ((aj (((BitVec.ofInt 64 c ||| BitVec.ofInt 64 (aj ((Int.tmod (aj (aH b (aj (a+k)) 0)) 128)*2 ^ (min (aj (7*k)).toNat 64)))).toNat:Int)))>2147483647)) (J .ret (fQ 0 0 false)) (J .ret (fQ (aj (((BitVec.ofInt 64 c ||| BitVec.ofInt 64 (aj ((Int.tmod (aj (aH b (aj (a+k)) 0)) 128)*2 ^ (min (aj (7*k)).toNat 64)))).toNat:Int))) (aj ((aj (a+k))+1)) true)))) (DC F J n (uF b a (aj (((BitVec.ofInt 64 c ||| BitVec.ofInt 64 (aj ((Int.tmod (aj (aH b (aj (a+k)) 0)) 128)*2 ^ (min (aj (7*k)).toNat 64)))).toNat:Int))) (aj (k+1))))))))) (J (.exit 0) (PT)):=by kernel_rfl
def Cn (a b:Int)(c:Bool):uG F .ret (fQ a b c)=some (a,b,c,()):=by kernel_rfl
def ad7: uG F (.exit 0) (PT)=some (0,0,false,()):=by kernel_rfl
abbrev aal:List (Ty×Bool):=[(.sl 5 (.int .u8),false),(.int .i64,false)]
def kQ (b:List Int)(a:Int):=bm aB F DB f216 aal atC 1 (b,a,())
def aoa (b:List Int)(a:Int):kQ F b a=DC F (uG F) F.n (uF b a 0 0):=by kernel_rfl
def uH:Any:=.one ⟨aal,atC,1,fun x=>kQ F0 x.1 x.2.1⟩
def Ks:a8 216 uH:=aq aB trivial func216 DB (by kernel_rfl)
def aam:=[(216,uH)]
abbrev hK:List (Ty×Bool):=[(K32,true)]
def cI (c:D32):=Fa aam F ad f146 hK 0 .cur cF hK 1 (c,())
def aob (c:D32):cI F c=(kQ F0 c.1 c.2.1).bind fun a=>br (!a.2.2.1) (some ((0,()),(c.1,c.2.1,false),())) (br (!c.2.2) (some ((0,()),(c.1,c.2.1,false),())) (some ((a.1,()),(c.1,a.2.1,c.2.2),()))):=by kernel_rfl
def ov:Any:=.two ⟨hK,0,.cur,cF,1,hK,fun x=>cI F0 x.1⟩
def yI:a8 146 ov:=V0 aam ⟨Ks,trivial⟩ func146 ad (by kernel_rfl)
def Wg:=[(216,uH)]
abbrev aDo:List (Ty×Bool):=[(.str,false),(.int .i64,false),(.bool,false)]
def Ir (b:List Int)(a:Int):=bm Wg F ad f217 aal aDo 1 (b,a,())
def akX (b:List Int)(c:Int):Ir F b c=(kQ F0 b c).bind fun a=>br (!a.2.2.1) (some (ak,0,false,())) (br (decide (a.1>(aj ((b.length:Int)-a.2.1)))) (some (ak,0,false,())) (ck (RZ a.2.1 (aj (a.2.1+a.1)) (b.length:Int)) (some (strOf ((b.take (aj (a.2.1+a.1)).toNat).drop a.2.1.toNat),aj (a.2.1+a.1),true,())))):=by kernel_rfl
def PU:Any:=.one ⟨aal,aDo,1,fun x=>Ir F0 x.1 x.2.1⟩
def akY:a8 217 PU:=aq Wg ⟨Ks,trivial⟩ func217 ad (by kernel_rfl)
def Wh:=[(217,PU)]
def nC (c:D32):=Fa Wh F ad f147 hK 0 .cur dC hK 1 (c,())
def akZ (c:D32):nC F c=(Ir F0 c.1 c.2.1).bind fun a=>br (!a.2.2.1) (some ((ak,()),(c.1,c.2.1,false),())) (br (!c.2.2) (some ((ak,()),(c.1,c.2.1,false),())) (some ((a.1,()),(c.1,a.2.1,c.2.2),()))):=by kernel_rfl
def rT:Any:=.two ⟨hK,0,.cur,dC,1,hK,fun x=>nC F0 x.1⟩
def Gn:a8 147 rT:=V0 Wh ⟨akY,trivial⟩ func147 ad (by kernel_rfl)
def DD:=[(146,ov)]
def DE:Nat->Option Hint:=look [(4,{live:=[0,3,4,5],xl:=[3],rl:=[2]})]
def uI (a i:Int)(b:List Int)(c:Int)(d:Bool)(e:List Int):St:={nt:=28,tm:=[(0,.v (.c (.ptr 4000000 0))),(3,.v (.c (.own 1000000 none))),(4,bb a),(5,bb i)],bx:=[(4000000,[.ro true 5 (.int .u8) b,ao c,.bool d])],bl:=[az 1000000 3 (.int .i64) e],sp:=.v (.c (.ptr 4000000 0))}
def rU (a:List Int)(b:Int)(c:Bool)(d:List Int):St:={nt:=28,tm:=[(3,.v (.c (.own 1000000 none)))],bx:=[(4000000,[.ro true 5 (.int .u8) a,ao b,.bool c])],bl:=[az 1000000 3 (.int .i64) d],sp:=.v (.c (.ptr 4000000 0))}
def DF (a:St):Option U:=fe DD F DE [.r,.r,.r,.l,.r,.b,.i] f149 J n a
abbrev ko:List (Ty×Bool):=[(.sl 3 (.int .i64),false)]
def Gp:=ayn DD F DE [.r,.r,.r,.l,.r,.b] f149 .cur ko hK 2
def Kt (f i:Int)(d:List Int)(e:Int)(a:Bool)(c:List Int):DF F J (n+1) (uI f i d e a c)=br (decide (i<f)) (br a ((cI F0 (d,e,a)).bind fun b=>ck (en F c.length [b.1.1].length 8) (DF F J n (uI f (aj (i+1)) b.2.1.1 b.2.1.2.1 b.2.1.2.2 (c++[b.1.1])))) (J (.exit 0) (rU d e a c))) (J (.exit 0) (rU d e a c)):=by kernel_rfl
def ad8 (a:List Int)(b:Int)(c:Bool)(d:List Int):Gp F (.exit 0) (rU a b c d)=some ((d,()),(a,b,c),()):=by kernel_rfl
def Fe (c:D32):=Fa DD F DE f149 hK 0 .cur ko hK 2 (c,())
def aoc (c:D32):Fe F c=(cI F0 c).bind fun a=>DF F (Gp F) F.n (uI a.1.1 0 a.2.1.1 a.2.1.2.1 a.2.1.2.2 []):=by kernel_rfl
def Gq:Any:=.two ⟨hK,0,.cur,ko,2,hK,fun x=>Fe F0 x.1⟩
def Wi:a8 149 Gq:=V0 DD ⟨yI,trivial⟩ func149 DE (by kernel_rfl)
def ad9:=[(146,ov),(147,rT),(149,Gq)]
abbrev gv:List (Ty×Bool):=[(K9,true)]
def Co (c:D32):=Fa ad9 F ad f148 hK 0 .cur gv hK 2 (c,())
def ar5 (c:D32):Co F c=(cI F0 c).bind fun a=>(nC F0 a.2.1).bind fun b=>(Fe F0 b.2.1).bind fun d=>some (((a.1.1,b.1.1,d.1.1),()),d.2.1,()):=by kernel_rfl
def Ku:Any:=.two ⟨hK,0,.cur,gv,2,hK,fun x=>Co F0 x.1⟩
def aan:a8 148 Ku:=V0 ad9 ⟨yI,Gn,Wi,trivial⟩ func148 ad (by kernel_rfl)
def aea:=[(145,jT),(146,ov),(147,rT),(148,Ku),(149,Gq)]
abbrev aDp:List (Ty×Bool):=[(K21,true),(.bool,false)]
abbrev Tl:List (Ty×Bool):=[(K1,true),(.sl 5 (.int .u8),false)]
def Kv (c:D1)(b:List Int):=bm aea F ad f77 Tl aDp 2 (c,b,())
def ar6 (c:D1)(b:List Int):Kv F c b=(cI F0 (b,0,true)).bind fun a=>br (a.1.1==1) ((nC F0 a.2.1).bind fun i=>(Co F0 i.2.1).bind fun e=>br (!e.2.1.2.2) (some ((0,0,(ak,0,ak,[]),(0,ak,[]),(0,ak,[]),0,0,0,0,0),false,())) (br (e.2.1.2.1 != (b.length:Int)) (some ((0,0,(ak,0,ak,[]),(0,ak,[]),(0,ak,[]),0,0,0,0,0),false,())) ((fs F0 c (a.1.1,0,(i.1.1,e.1.1),(0,ak,[]),(0,ak,[]),0,0,0,0,0)).bind fun d=>br (!d.1) (some ((0,0,(ak,0,ak,[]),(0,ak,[]),(0,ak,[]),0,0,0,0,0),false,())) (some ((a.1.1,0,(i.1.1,e.1.1),(0,ak,[]),(0,ak,[]),0,0,0,0,0),true,()))))) (br (a.1.1==2) ((cI F0 a.2.1).bind fun j=>(nC F0 j.2.1).bind fun k=>(Fe F0 k.2.1).bind fun f=>br (!f.2.1.2.2) (some ((0,0,(ak,0,ak,[]),(0,ak,[]),(0,ak,[]),0,0,0,0,0),false,())) (br (f.2.1.2.1 != (b.length:Int)) (some ((0,0,(ak,0,ak,[]),(0,ak,[]),(0,ak,[]),0,0,0,0,0),false,())) ((fs F0 c (a.1.1,0,(ak,0,ak,[]),(j.1.1,k.1.1,f.1.1),(0,ak,[]),0,0,0,0,0)).bind fun d=>br (!d.1) (some ((0,0,(ak,0,ak,[]),(0,ak,[]),(0,ak,[]),0,0,0,0,0),false,())) (some ((a.1.1,0,(ak,0,ak,[]),(j.1.1,k.1.1,f.1.1),(0,ak,[]),0,0,0,0,0),true,()))))) (br (a.1.1==3) ((cI F0 a.2.1).bind fun l=>(cI F0 l.2.1).bind fun m=>(Co F0 m.2.1).bind fun g=>br (!g.2.1.2.2) (some ((0,0,(ak,0,ak,[]),(0,ak,[]),(0,ak,[]),0,0,0,0,0),false,())) (br (g.2.1.2.1 != (b.length:Int)) (some ((0,0,(ak,0,ak,[]),(0,ak,[]),(0,ak,[]),0,0,0,0,0),false,())) ((fs F0 c (a.1.1,l.1.1,(ak,0,ak,[]),(0,ak,[]),g.1.1,m.1.1,0,0,0,0)).bind fun d=>br (!d.1) (some ((0,0,(ak,0,ak,[]),(0,ak,[]),(0,ak,[]),0,0,0,0,0),false,())) (some ((a.1.1,l.1.1,(ak,0,ak,[]),(0,ak,[]),g.1.1,m.1.1,0,0,0,0),true,()))))) (br (a.1.1==4) ((cI F0 a.2.1).bind fun o=>(cI F0 o.2.1).bind fun p=>(cI F0 p.2.1).bind fun q=>(cI F0 q.2.1).bind fun h=>br (!h.2.1.2.2) (some ((0,0,(ak,0,ak,[]),(0,ak,[]),(0,ak,[]),0,0,0,0,0),false,())) (br (h.2.1.2.1 != (b.length:Int)) (some ((0,0,(ak,0,ak,[]),(0,ak,[]),(0,ak,[]),0,0,0,0,0),false,())) ((fs F0 c (a.1.1,0,(ak,0,ak,[]),(0,ak,[]),(0,ak,[]),0,o.1.1,p.1.1,q.1.1,h.1.1)).bind fun d=>br (!d.1) (some ((0,0,(ak,0,ak,[]),(0,ak,[]),(0,ak,[]),0,0,0,0,0),false,())) (some ((a.1.1,0,(ak,0,ak,[]),(0,ak,[]),(0,ak,[]),0,o.1.1,p.1.1,q.1.1,h.1.1),true,()))))) (br (!a.2.1.2.2) (some ((0,0,(ak,0,ak,[]),(0,ak,[]),(0,ak,[]),0,0,0,0,0),false,())) (br (a.2.1.2.1 != (b.length:Int)) (some ((0,0,(ak,0,ak,[]),(0,ak,[]),(0,ak,[]),0,0,0,0,0),false,())) ((fs F0 c (a.1.1,0,(ak,0,ak,[]),(0,ak,[]),(0,ak,[]),0,0,0,0,0)).bind fun d=>br (!d.1) (some ((0,0,(ak,0,ak,[]),(0,ak,[]),(0,ak,[]),0,0,0,0,0),false,())) (some ((a.1.1,0,(ak,0,ak,[]),(0,ak,[]),(0,ak,[]),0,0,0,0,0),true,())))))))):=by kernel_rfl
def Kw:Any:=.one ⟨Tl,aDp,2,fun x=>Kv F0 x.1 x.2.1⟩
def aao:a8 77 Kw:=aq aea ⟨oQ,yI,Gn,aan,Wi,trivial⟩ func77 ad (by kernel_rfl)
def gS:=[(32,cx),(73,b9),(74,cn),(75,yx),(76,Tk),(77,Kw),(78,eO),(79,di)]
def gT:Nat->Option Hint:=look [(4,{live:=[1,3],xl:=[1],rl:=[2]}),(9,{live:=[1,4],xl:=[1],rl:=[2]}),(15,{live:=[1,7],rl:=[2]})]
def l7 (i w a:Int)(b:List Int)(c:List a7)(d:List bS)(e:List bF):= cR 147 [b1 1,(7,bb i)] [(1,[ao w,ao a,.ro false 3 (.int .i64) b,.ro false 65 (b8) c,.ro false 105 (ek) d,.ro false 41 (cz) e])] []
def rV (a:Bool):= bU 147 [(2,JH a)]
def MH   := bU 147 []
def qb (a:St):Option U:=fe gS F gT [.r,.r,.r,.r,.l,.r,.b,.i] f34 J n a
def l8:=hH gS F gT [.r,.r,.r,.r,.l,.r,.b] f34 aP 1
def l9 (i w a:Int)(b:List Int)(c:List a7)(d:List bS)(e:List bF):= cR 147 [b1 1,(4,bb i)] [(1,[ao w,ao a,.ro false 3 (.int .i64) b,.ro false 65 (b8) c,.ro false 105 (ek) d,.ro false 41 (cz) e])] []
def Cp (a:Bool):= bU 147 [(2,JH a)]
def MI (w a:Int)(b:List Int)(c:List a7)(d:List bS)(e:List bF):= cR 147 [b1 1] [(1,[ao w,ao a,.ro false 3 (.int .i64) b,.ro false 65 (b8) c,.ro false 105 (ek) d,.ro false 41 (cz) e])] []
def qc (a:St):Option U:=fe gS F gT [.r,.r,.r,.l,.r,.b,.i] f34 J n a
def ma:=hH gS F gT [.r,.r,.r,.l,.r,.b] f34 aP 1
def mb (i w a:Int)(b:List Int)(c:List a7)(d:List bS)(e:List bF):= cR 147 [b1 1,(3,bb i)] [(1,[ao w,ao a,.ro false 3 (.int .i64) b,.ro false 65 (b8) c,.ro false 105 (ek) d,.ro false 41 (cz) e])] []
def Cq (a:Bool):= bU 147 [(2,JH a)]
def MJ (w a:Int)(b:List Int)(c:List a7)(d:List bS)(e:List bF):= cR 147 [b1 1] [(1,[ao w,ao a,.ro false 3 (.int .i64) b,.ro false 65 (b8) c,.ro false 105 (ek) d,.ro false 41 (cz) e])] []
def qJ (a:St):Option U:=fe gS F gT [.r,.r,.l,.r,.b,.i] f34 J n a
def mc:=hH gS F gT [.r,.r,.l,.r,.b] f34 aP 1
def G5 (i w b:Int)(c:List Int)(d:List a7)(e:List bS)(a:List bF):qb F J (n+1) (l7 i w b c d e a)=br (decide (i<(a.length:Int))) (ck (bE i (a.length:Int)) ((bN F0 (aH a i cz.aC).2.2 0 (aj (w-1))).bind fun f=>br (!f.1) (J .ret (rV false)) ((eZ F0 (aH a i cz.aC).2.1).bind fun g=>br (!g.1) (J .ret (rV false)) ((du F0 (aH a i cz.aC).2.1).bind fun h=>br (h.1 != (aH a i cz.aC).1) (J .ret (rV false)) (qb F J n (l7 (aj (i+1)) w b c d e a)))))) (J (.exit 4) (MH)):=by kernel_rfl
def G6 (i w b:Int)(c:List Int)(d:List a7)(a:List bS)(e:List bF):qc F J (n+1) (l9 i w b c d a e)=br (decide (i<(a.length:Int))) (ck (bE i (a.length:Int)) ((Kv F0 (w,b) (aH a i (0,[])).2).bind fun f=>br (!f.2.1) (J .ret (Cp false)) (ck (bE i (a.length:Int)) ((bN F0 (aH a i (0,[])).1 0 (aj (w-1))).bind fun g=>br (!g.1) (J .ret (Cp false)) (qc F J n (l9 (aj (i+1)) w b c d a e)))))) (J (.exit 2) (MI w b c d a e)):=by kernel_rfl
def G7 (i w b:Int)(c:List Int)(a:List a7)(d:List bS)(e:List bF):qJ F J (n+1) (mb i w b c a d e)=br (decide (i<(a.length:Int))) (ck (bE i (a.length:Int)) (br ((aH a i b8.aC).1 != i) (J .ret (Cq false)) (ck (bE i (a.length:Int)) ((dx F0 (w,b) (aH a i b8.aC)).bind fun f=>br (!f.1) (J .ret (Cq false)) (qJ F J n (mb (aj (i+1)) w b c a d e)))))) (J (.exit 0) (MJ w b c a d e)):=by kernel_rfl
def aeb (a:Bool):l8 F .ret (rV a)=some (a,()):=by kernel_rfl
def ab2: l8 F (.exit 4) (MH)=some (true,()):=by kernel_rfl
def aec (a:Bool):ma F .ret (Cp a)=some (a,()):=by kernel_rfl
def ab3 (w a:Int)(b:List Int)(c:List a7)(d:List bS)(e:List bF):ma F (.exit 2) (MI w a b c d e)=qb F (l8 F) F.n (l7 0 w a b c d e):=by kernel_rfl
def aed (a:Bool):mc F .ret (Cq a)=some (a,()):=by kernel_rfl
def ab4 (w a:Int)(b:List Int)(c:List a7)(d:List bS)(e:List bF):mc F (.exit 0) (MJ w a b c d e)=qc F (ma F) F.n (l9 0 w a b c d e):=by kernel_rfl
abbrev jE:List (Ty×Bool):=[(hJ,true)]
def yJ (w:lx):=bm gS F gT f34 jE aP 1 (w,())
def ak0 (w:lx):yJ F w=(dJ F0 w.1).bind fun a=>br (!a.1) (some (false,())) ((Cj F0 w.1.1 w.2.1).bind fun b=>br (!b.1) (some (false,())) ((MG F0 w.1).bind fun c=>br (decide ((w.2.1.length:Int)>c.1)) (some (false,())) (br ((w.2.2.1.length:Int) != w.1.1) (some (false,())) (br (decide ((w.2.2.2.1.length:Int)>60)) (some (false,())) (br (decide ((w.2.2.2.2.length:Int)>300)) (some (false,())) (qJ F (mc F) F.n (mb 0 w.1.1 w.1.2 w.2.1 w.2.2.1 w.2.2.2.1 w.2.2.2.2))))))):=by kernel_rfl
def PV:Any:=.one ⟨jE,aP,1,fun x=>yJ F0 x.1⟩
def ak1:a8 34 PV:=aq gS ⟨dh,cA,cU,O0,an9,aao,gQ,eH,trivial⟩ func34 gT (by kernel_rfl)
def uJ:=[(32,cx),(33,Tj),(34,PV)]
def uK:Nat->Option Hint:=look [(3,{live:=[2,4,6,7],yc:=[(4,2,3,.int .i64),(4,3,65,b8),(4,4,105,ek),(4,5,41,cz),(6,3,65,b8),(6,4,105,ek),(6,5,41,cz)],xl:=[4,6],rl:=[4,5]})]
def pg (i c a l m w b:Int)(o:List Int)(d:List a7)(e:List bS)(f:List bF)(g:List Int)(h:List a7)(j:List bS)(k:List bF):= cR 42 [b1 2,b1 4,b1 6,(7,bb i)] [(2,[ao c,ao a]),(4,[ao l,ao m,.own 1000000 none,.own 1000001 none,.own 1000002 none,.own 1000003 none]),(6,[ao w,ao b,.own 1000004 none,.own 1000005 none,.own 1000006 none,.own 1000007 none])] [az 1000000 3 (.int .i64) o,az 1000001 65 b8 d,az 1000002 105 ek e,az 1000003 41 cz f,az 1000004 3 (.int .i64) g,az 1000005 65 b8 h,az 1000006 105 ek j,az 1000007 41 cz k]
def wh (i j w a:Int)(k:List Int)(b:List a7)(c:List bS)(d:List bF)(e:List Int)(f:List a7)(g:List bS)(h:List bF):= cR 42 [b1 4,b1 6] [(4,[ao i,ao j,.own 1000000 none,.own 1000001 none,.own 1000002 none,.own 1000003 none]),(6,[ao w,ao a,.own 1000004 none,.own 1000005 none,.own 1000006 none,.own 1000007 none])] [az 1000000 3 (.int .i64) k,az 1000001 65 b8 b,az 1000002 105 ek c,az 1000003 41 cz d,az 1000004 3 (.int .i64) e,az 1000005 65 b8 f,az 1000006 105 ek g,az 1000007 41 cz h]
def uL (a:St):Option U:=fe uJ F uK [.r,.r,.l,.r,.b,.i] f9 J n a
abbrev atD:List (Ty×Bool):=[(hJ,true),(.bool,false)]
def yK:=hH uJ F uK [.r,.r,.l,.r,.b] f9 atD 2
def Ff (i c b l m w d:Int)(o:List Int)(e:List a7)(f:List bS)(g:List bF)(h:List Int)(a:List a7)(j:List bS)(k:List bF):uL F J (n+1) (pg i c b l m w d o e f g h a j k)=br (decide (i<c)) ((dJ F0 (c,b)).bind fun q=>br q.1 ((MF F0 (c,b) i).bind fun p=>ck (en F a.length [p.1].length 208) (uL F J n (pg (aj (i+1)) c b l m w d o e f g h (a++[p.1]) j k))) (J (.exit 0) (wh l m w d o e f g h a j k))) (J (.exit 0) (wh l m w d o e f g h a j k)):=by kernel_rfl
def Zi (j k w a:Int)(l:List Int)(f:List a7)(g:List bS)(h:List bF)(b:List Int)(c:List a7)(d:List bS)(e:List bF):yK F (.exit 0) (wh j k w a l f g h b c d e)=(yJ F0 ((w,a),b,c,d,e)).bind fun i=>br (!i.1) (some (((0,0),[],[],[],[]),false,())) (some (((w,a),b,c,d,e),true,())):=by kernel_rfl
abbrev aDq:List (Ty×Bool):=[(K1,true),(.sl 3 (.int .i64),false)]
def lB (c:D1)(liars:List Int):=bm uJ F uK f9 aDq atD 2 (c,liars,())
def agW (c:D1)(liars:List Int):lB F c liars=ck (en F 0 liars.length 8) (uL F (yK F) F.n (pg 0 c.1 c.2 0 0 c.1 c.2 [] [] [] [] ([]++liars) [] [] [])):=by kernel_rfl
def yL:Any:=.one ⟨aDq,atD,2,fun x=>lB F0 x.1 x.2.1⟩
def PW:a8 9 yL:=aq uJ ⟨dh,an7,ak1,trivial⟩ func9 uK (by kernel_rfl)
def G8:=[(9,yL),(25,ee),(62,nz),(63,om)]
def ph (c:D2):=Fa G8 F ad f23 jQ 0 .cur jE jQ 2 (c,())
def Wj (c:D2):ph F c=(jR F0 c [4,4,4,5,7]).bind fun a=>(ax F0 a.2.1 3).bind fun b=>(nj F0 b.2.1 3).bind fun d=>br (!d.1.1) ((ax F0 d.2.1 a.1.1).bind fun f=>(lB F0 (a.1.1,aj (1+b.1.1)) [f.1.1]).bind fun e=>some ((e.1,()),f.2.1,())) ((lB F0 (a.1.1,aj (1+b.1.1)) []).bind fun e=>some ((e.1,()),d.2.1,())):=by kernel_rfl
def BJ:Any:=.two ⟨jQ,0,.cur,jE,2,jQ,fun x=>ph F0 x.1⟩
def Wk:a8 23 BJ:=V0 G8 ⟨PW,fP,yl,ym,trivial⟩ func23 ad (by kernel_rfl)
def jv (q:D9):=bm aB F ad f136 gv gv 2 (q,())
def aod (q:D9):jv F q=ck (en F 0 q.2.2.length 8) (some ((q.1,q.2.1,[]++q.2.2),())):=by kernel_rfl
def ie:Any:=.one ⟨gv,gv,2,fun x=>jv F0 x.1⟩
def me:a8 136 ie:=aq aB trivial func136 ad (by kernel_rfl)
def Wl:=[(136,ie)]
abbrev BK:List (Ty×Bool):=[(K12,true)]
def nD (s:U0):=bm Wl F ad f121 BK BK 2 (s,())
def ak2 (s:U0):nD F s=(jv F0 s.2.2.1).bind fun a=>some ((s.1,s.2.1,a.1,s.2.2.2),()):=by kernel_rfl
def mf:Any:=.one ⟨BK,BK,2,fun x=>nD F0 x.1⟩
def uM:a8 121 mf:=aq Wl ⟨me,trivial⟩ func121 ad (by kernel_rfl)
def gC (p:D9):=bm aB F ad f194 gv gv 2 (p,())
def ak3 (p:D9):gC F p=ck (en F 0 p.2.2.length 8) (some ((p.1,p.2.1,[]++p.2.2),())):=by kernel_rfl
def jF:Any:=.one ⟨gv,gv,2,fun x=>gC F0 x.1⟩
def ow:a8 194 jF:=aq aB trivial func194 ad (by kernel_rfl)
def uN:=[(194,jF)]
def uO:Nat->Option Hint:=look [(3,{live:=[0,3,4],xl:=[3],rl:=[2]})]
def pj (a:List D9)(i:Int)(b:List D9):= cR 21 [(0,ia 50 (K9) a),(3,.v (.c (.own 1000000 none))),(4,bb i)] [] [az 1000000 50 K9 b]
def Kx (a:List D9):= cR 21 [(3,.v (.c (.own 1000000 none)))] [] [az 1000000 50 K9 a]
def uP (a:St):Option U:=fe uN F uO [.r,.r,.l,.r,.b,.i] f122 J n a
abbrev G9:List (Ty×Bool):=[(K13,false)]
def yM:=hH uN F uO [.r,.r,.l,.r,.b] f122 G9 2
def Fg (a:List D9)(i:Int)(b:List D9):uP F J (n+1) (pj a i b)=br (decide (i<(a.length:Int))) (ck (bE i (a.length:Int)) ((gC F0 (aH a i K9.aC)).bind fun c=>ck (en F b.length [c.1].length 48) (uP F J n (pj a (aj (i+1)) (b++[c.1]))))) (J (.exit 0) (Kx b)):=by kernel_rfl
def Zj (a:List D9):yM F (.exit 0) (Kx a)=some (a,()):=by kernel_rfl
def gD (a:D13):=bm uN F uO f122 G9 G9 2 (a,())
def agX (a:D13):gD F a=uP F (yM F) F.n (pj a 0 []):=by kernel_rfl
def yN:Any:=.one ⟨G9,G9,2,fun x=>gD F0 x.1⟩
def PX:a8 122 yN:=aq uN ⟨ow,trivial⟩ func122 uO (by kernel_rfl)
def iP (d:D14):=bm aB F ad f123 pf pf 2 (d,())
def ak4 (d:D14):iP F d=ck (en F 0 d.1.length 1) (some (([]++d.1,d.2),())):=by kernel_rfl
def mg:Any:=.one ⟨pf,pf,2,fun x=>iP F0 x.1⟩
def uQ:a8 123 mg:=aq aB trivial func123 ad (by kernel_rfl)
def aap:=[(136,ie)]
abbrev ajv:List (Ty×Bool):=[(K15,true)]
def MK (b:D15):=bm aap F ad f252 ajv ajv 2 (b,())
def aoe (b:D15):MK F b=(jv F0 b.2).bind fun a=>some ((b.1,a.1),()):=by kernel_rfl
def Tm:Any:=.one ⟨ajv,ajv,2,fun x=>MK F0 x.1⟩
def aof:a8 252 Tm:=aq aap ⟨me,trivial⟩ func252 ad (by kernel_rfl)
def Wm:=[(136,ie),(194,jF),(252,Tm)]
def yO (m:OZ):=bm Wm F ad f195 wZ wZ 2 (m,())
def ak5 (m:OZ):yO F m=(MK F0 m.2.2.1).bind fun a=>(gC F0 m.2.2.2.1).bind fun b=>(jv F0 m.2.2.2.2.1).bind fun c=>some ((m.1,m.2.1,a.1,b.1,c.1,m.2.2.2.2.2),()):=by kernel_rfl
def Cr:Any:=.one ⟨wZ,wZ,2,fun x=>yO F0 x.1⟩
def Tn:a8 195 Cr:=aq Wm ⟨me,ow,aof,trivial⟩ func195 ad (by kernel_rfl)
def uR:=[(195,Cr)]
def uS:Nat->Option Hint:=look [(3,{live:=[0,3,4],xl:=[3],rl:=[2]})]
def pn (a:List lv)(i:Int)(b:List lv):= cR 28 [(0,ia 136 (pY) a),(3,.v (.c (.own 1000000 none))),(4,bb i)] [] [az 1000000 136 pY b]
def Ky (a:List lv):= cR 28 [(3,.v (.c (.own 1000000 none)))] [] [az 1000000 136 pY a]
def uT (a:St):Option U:=fe uR F uS [.r,.r,.l,.r,.b,.i] f124 J n a
abbrev aaq:List (Ty×Bool):=[(K23,false)]
def yP:=hH uR F uS [.r,.r,.l,.r,.b] f124 aaq 2
def Fh (a:List lv)(i:Int)(b:List lv):uT F J (n+1) (pn a i b)=br (decide (i<(a.length:Int))) (ck (bE i (a.length:Int)) (ck (bE i (a.length:Int)) ((yO F0 (aH a i pY.aC).2).bind fun c=>ck (en F b.length [((aH a i pY.aC).1,c.1)].length 224) (uT F J n (pn a (aj (i+1)) (b++[((aH a i pY.aC).1,c.1)])))))) (J (.exit 0) (Ky b)):=by kernel_rfl
def Zk (a:List lv):yP F (.exit 0) (Ky a)=some (a,()):=by kernel_rfl
def tR (a:D23):=bm uR F uS f124 aaq aaq 2 (a,())
def agY (a:D23):tR F a=uT F (yP F) F.n (pn a 0 []):=by kernel_rfl
def yQ:Any:=.one ⟨aaq,aaq,2,fun x=>tR F0 x.1⟩
def PY:a8 124 yQ:=aq uR ⟨Tn,trivial⟩ func124 uS (by kernel_rfl)
end
end Go.Am.Tryz
