/- No condition. -/
import Derived.Test.YtaheoongenkdbaaGreatDoorProg
import Derived.Test.YtaheoongenkdbaaGreatDoorQeXJS1
set_option linter.all false
set_option maxRecDepth 100000
namespace Go.Am.Tryz
open Go.Am Go.Proofs Go.Proofs.Tryz
abbrev K1:Ty:=.pair (.int .i64) (.int .i64)
abbrev D1:=Int×Int
abbrev K2:Ty:=.pair (.sl 5 (.int .u8)) (K1)
abbrev D2:=List Int×D1
abbrev K3:Ty:=.pair (.int .i64) (K1)
abbrev D3:=Int×D1
abbrev K4:Ty:=.pair (.int .i64) (K3)
abbrev D4:=Int×D3
abbrev K5:Ty:=.sl 63 (K4)
abbrev D5:=List D4
abbrev K6:Ty:=.pair (.int .i64) (K5)
abbrev D6:=Int×D5
abbrev K7:Ty:=.sl 128 (K6)
abbrev K8:Ty:=.pair (.str) (.sl 3 (.int .i64))
abbrev D8:=ByteArray×List Int
abbrev K9:Ty:=.pair (.int .i64) (K8)
abbrev D9:=Int×D8
abbrev K10:Ty:=.pair (K9) (.str)
abbrev D10:=D9×ByteArray
abbrev K11:Ty:=.pair (.int .i64) (K10)
abbrev D11:=Int×D10
abbrev K12:Ty:=.pair (.int .i64) (K11)
abbrev TN:=Int×D11
abbrev K13:Ty:=.sl 61 (K9)
abbrev D13:=List D9
abbrev K14:Ty:=.pair (.sl 5 (.int .u8)) (.int .i64)
abbrev D14:=List Int×Int
abbrev K15:Ty:=.pair (.str) (K9)
abbrev D15:=ByteArray×D9
abbrev K16:Ty:=.pair (.int .i64) (K4)
abbrev D16:=Int×D4
abbrev K17:Ty:=.pair (K9) (K16)
abbrev D17:=D9×D16
abbrev K18:Ty:=.pair (K9) (K17)
abbrev D18:=D9×D17
abbrev K19:Ty:=.pair (K15) (K18)
abbrev D19:=D15×D18
abbrev K20:Ty:=.pair (.int .i64) (K19)
abbrev D20:=Int×D19
abbrev K21:Ty:=.pair (.int .i64) (K20)
abbrev NQ:=Int×D20
abbrev px:Ty:=.pair (.int .i64) (K21)
abbrev kI:=Int×NQ
abbrev K23:Ty:=.sl 119 (px)
abbrev D23:=List kI
abbrev K24:Ty:=.pair (K14) (K23)
abbrev D24:=D14×D23
abbrev K25:Ty:=.pair (K13) (K24)
abbrev D25:=D13×D24
abbrev K26:Ty:=.pair (K5) (K25)
abbrev D26:=D5×D25
abbrev K27:Ty:=.pair (K12) (K26)
abbrev D27:=TN×D26
abbrev K28:Ty:=.pair (.int .i64) (K27)
abbrev D28:=Int×D27
abbrev K29:Ty:=.pair (.int .i64) (K28)
abbrev D29:=Int×D28
abbrev cl:Ty:=.pair (.int .i64) (K29)
abbrev bb:=Int×D29
abbrev K31:Ty:=.pair (.int .i64) (.bool)
abbrev D31:=Int×Bool
abbrev K32:Ty:=.pair (.sl 5 (.int .u8)) (K31)
abbrev D32:=List Int×D31
abbrev K33:Ty:=.sl 50 (cl)
abbrev D33:=List bb
abbrev eI:Ty:=.pair (.int .i64) (.sl 5 (.int .u8))
abbrev b0:=Int×List Int
abbrev K35:Ty:=.sl 102 (eI)
abbrev D35:=List b0
abbrev K36:Ty:=.pair (.str) (.int .i64)
abbrev D36:=ByteArray×Int
abbrev cZ:Ty:=.pair (.int .i64) (K36)
abbrev bS:=Int×D36
abbrev K38:Ty:=.sl 95 (cZ)
abbrev D38:=List bS
abbrev K39:Ty:=.pair (K35) (K38)
abbrev D39:=D35×D38
abbrev K40:Ty:=.pair (K33) (K39)
abbrev D40:=D33×D39
abbrev K41:Ty:=.pair (.sl 3 (.int .i64)) (K40)
abbrev D41:=List Int×D40
abbrev gZ:Ty:=.pair (K1) (K41)
abbrev nz:=D1×D41
abbrev K43:Ty:=.pair (.sl 3 (.int .i64)) (.sl 3 (.int .i64))
abbrev D43:=List Int×List Int
abbrev K44:Ty:=.pair (.int .i64) (px)
abbrev D44:=Int×kI
abbrev K45:Ty:=.pair (.int .i64) (K44)
abbrev D45:=Int×D44
abbrev K46:Ty:=.sl 67 (K45)
def ab:Nat->Option Hint:=look []
def aB:List (Nat×Any):=[]
noncomputable section
variable {U:Type} (C:List (Nat×Any)) (F:oH) (H:Nat->Option Hint)
abbrev ba (f:Nat)(c:Any):Prop:=sJ Tryz.prog TB f c
def bn (b:Func)(a c:List (Ty×Bool))(m:Nat)(x:Args a):=aHY Tryz.prog (look C) F H b a c m x
def Ev (c:Func)(a:List (Ty×Bool))(i:Nat)(d:PM)(e b:List (Ty×Bool))(m:Nat)(x:Args a):=aAI Tryz.prog (look C) F H c a i d e b m x
def fy (p:List At)(a:Func)(J:Ex->St->Option U)(n:Nat)(b:St):Option U:=lp Tryz.prog (look C) F H (sub p (gX a)) J n b
def ig (p:List At)(a:Func)(b:List (Ty×Bool))(m:Nat):=abL Tryz.prog (look C) F H p (gX a) (fin Tryz.prog a b m)
def aww (p:List At)(a:Func)(c:PM)(d b:List (Ty×Bool))(m:Nat):=abL Tryz.prog (look C) F H p (gX a) (aI4 Tryz.prog a c d b m)
def di (n:Nat)(t:List (Nat×AV))(b:List (Nat×List AC))(l:List (Nat×Option fo)):St:={nt:=n,tm:=t,bx:=b,bl:=l}
def b3 (n:Nat)(t:List (Nat×AV)):St:={nt:=n,tm:=t,bx:=[],bl:=[]}
def bq (t:Int):AV:=.v (.c (.int .i64 t))
def an (t:Int):AC:=.int .i64 t
def b9 (d:Nat):Nat×AV:=(d,.v (.c (.ptr d 0)))
abbrev ak:ByteArray:=ByteArray.mk #[]
def ay (i:Nat)(e:TypeId)(t:Ty)(x:List t.D):Nat×Option fo:=(i,some ⟨e,t,x,true,true⟩)
def NR (b:Bool):AV:=.v (.c (.bool b))
def Yr (b:ByteArray):AV:=.v (.c (.str b))
def ih (e:Nat)(t:Ty)(x:List t.D):AV:=.v (.c (.ro false e t x))
def aw {f : FuncId} {a : Func} (l : List (Nat × Any)) (e : xJ Tryz.prog TB l) (h : Tryz.prog.funcs[f]? = some a) (H : Nat → Option Hint) {b d : List (Ty × Bool)} {m : Nat} {g : Args b → Option (Args d)} (c : (a.name == "runtime.NumGoroutine" || a.body.isNone, fun x => bn l F0 H a b d m x) = (false, g)) : ba f (.one ⟨b, d, m, g⟩) :=
 ok1 e h (ahd.1 (Prod.mk.inj c).1).1 (ahd.1 (Prod.mk.inj c).1).2 H (Prod.mk.inj c).2
def azh {f : FuncId} {a : Func} (l : List (Nat × Any)) (h : xJ Tryz.prog TB l) (j : Tryz.prog.funcs[f]? = some a) (H : Nat → Option Hint) {b d : List (Ty × Bool)} {i m : Nat} {e : PM} {g : Args b → Option (Args d × Args [])} (c : (a.name == "runtime.NumGoroutine" || a.body.isNone, fun x => Ev l F0 H a b i e d [] m x) = (false, g)) : ba f (.two ⟨b, i, e, d, m, [], g⟩) :=
 ok2 h j (ahd.1 (Prod.mk.inj c).1).1 (ahd.1 (Prod.mk.inj c).1).2 H (Prod.mk.inj c).2
def UC {f : FuncId} {c : Func} (l : List (Nat × Any)) (h : xJ Tryz.prog TB l) (j : Tryz.prog.funcs[f]? = some c) (H : Nat → Option Hint) {a d : List (Ty × Bool)} {i m : Nat} {e : PM} {p : Ty × Bool} {g : Args a → Option (Args d × Args [p])} (b : (mA a i, c.name == "runtime.NumGoroutine" || c.body.isNone, fun x => Ev l F0 H c a i e d [p] m x) = (some p, false, g)) : ba f (.two ⟨a, i, e, d, m, [p], g⟩) :=
 ok3 h j (ahd.1 (Prod.mk.inj (Prod.mk.inj b).2).1).1 (ahd.1 (Prod.mk.inj (Prod.mk.inj b).2).1).2 H (Prod.mk.inj b).1 (Prod.mk.inj (Prod.mk.inj b).2).2
end
noncomputable section
variable {U:Type} (F:oH) (J:Ex->St->Option U) (n:Nat)
abbrev ld:List (Ty×Bool):=[(.sl 5 (.int .u8),false)]
abbrev aT:List (Ty×Bool):=[(.bool,false)]
def amb (a:List Int):=bn aB F ab f5 ld aT 1 (a,())
def awx (a:List Int):amb F a=some (decide ((a.length:Int)>1048576),()):=by kernel_rfl
def ab9:Any:=.one ⟨ld,aT,1,fun x=>amb F0 x.1⟩
def awy:ba 5 ab9:=aw aB trivial func5 ab (by kernel_rfl)
def Hk:Nat->Option Hint:=look [(3,{live:=[0,3,4],xl:=[0,3],rl:=[2]})]
def x0 (a:List Int)(h i:Int)(p:List Int):St:={nt:=32,tm:=[(0,ih 5 (.int .u8) a),(3,bq h),(4,bq i)],bx:=[],bl:=[],sp:=ih 5 (.int .u8) p}
def Fx (a:List Int)(h:Int)(p:List Int):St:={nt:=32,tm:=[(0,ih 5 (.int .u8) a),(3,bq h)],bx:=[],bl:=[],sp:=ih 5 (.int .u8) p}
def Hl (a:St):Option U:=fy aB F Hk [.r,.r,.l,.r,.b,.i] f18 J n a
abbrev iU:List (Ty×Bool):=[(K2,true)]
def Jm:=aww aB F Hk [.r,.r,.l,.r,.b] f18 .rd iU [] 5
def Lr (a:List Int)(h i:Int)(p:List Int):Hl F J (n+1) (x0 a h i p)=br (decide (i<(a.length:Int))) (br (decide (i<4000)) (ck (bO i (a.length:Int)) (Hl F J n (x0 a (aj (((BitVec.ofInt 64 (aj ((aj ((aj (h*131))+(aj (aN a i 0))))+7)) &&& BitVec.ofInt 64 1073741823).toNat:Int))) (aj (i+1)) p))) (J (.exit 0) (Fx a h p))) (J (.exit 0) (Fx a h p)):=by kernel_rfl
def OA (a:List Int)(h:Int)(p:List Int):Jm F (.exit 0) (Fx a h p)=some (((a,0,h),()),()):=by kernel_rfl
def Jn (a:List Int):=Ev aB F Hk f18 ld 0 .rd iU [] 5 (a,())
def aqe (a:List Int):Jn F a=Hl F (Jm F) F.n (x0 a (aj (26583+(a.length:Int))) 0 a):=by kernel_rfl
def UD:Any:=.two ⟨ld,0,.rd,iU,5,[],fun x=>Jn F0 x.1⟩
def aqf:ba 18 UD:=azh aB trivial func18 Hk (by kernel_rfl)
abbrev c7:List (Ty×Bool):=[(.int .i64,false)]
def j7 (c:D2):=Ev aB F ab f52 iU 0 .cur c7 iU 1 (c,())
def amc (c:D2):j7 F c=br (decide (c.2.1<(c.1.length:Int))) (ck (bO c.2.1 (c.1.length:Int)) (some ((aj (((BitVec.ofInt 64 (aj ((aj (((BitVec.ofInt 64 (aj (((BitVec.ofInt 64 (Int.fdiv (aj ((aj (c.2.2*6364136223846793005))+1442695040888963407)) (2 ^ (min (33:Int).toNat 64))) ^^^ BitVec.ofInt 64 (Int.fdiv (aj ((aj (c.2.2*6364136223846793005))+1442695040888963407)) (2 ^ (min (45:Int).toNat 64)))).toNat:Int))) &&& BitVec.ofInt 64 255).toNat:Int)))+(aj (aN c.1 c.2.1 0)))) &&& BitVec.ofInt 64 255).toNat:Int)),()),(c.1,aj (c.2.1+1),aj ((aj (c.2.2*6364136223846793005))+1442695040888963407)),()))) (some ((aj (((BitVec.ofInt 64 (aj (((BitVec.ofInt 64 (Int.fdiv (aj ((aj (c.2.2*6364136223846793005))+1442695040888963407)) (2 ^ (min (33:Int).toNat 64))) ^^^ BitVec.ofInt 64 (Int.fdiv (aj ((aj (c.2.2*6364136223846793005))+1442695040888963407)) (2 ^ (min (45:Int).toNat 64)))).toNat:Int))) &&& BitVec.ofInt 64 255).toNat:Int)),()),(c.1,c.2.1,aj ((aj (c.2.2*6364136223846793005))+1442695040888963407)),())):=by kernel_rfl
def RZ:Any:=.two ⟨iU,0,.cur,c7,1,iU,fun x=>j7 F0 x.1⟩
def amd:ba 52 RZ:=UC aB trivial func52 ab (by kernel_rfl)
def UE:=[(52,RZ)]
abbrev aA4:List (Ty×Bool):=[(K2,true),(.int .i64,false)]
def au (c:D2)(a:Int):=Ev UE F ab f21 aA4 0 .cur c7 iU 1 (c,a,())
def R0 (c:D2)(a:Int):au F c a=br (decide (a<=0)) (some ((0,()),c,())) (br (decide (a<=256)) ((j7 F0 c).bind fun b=>ck (!(a==0)) (some ((Int.tmod b.1.1 a,()),b.2.1,()))) ((j7 F0 c).bind fun d=>(j7 F0 d.2.1).bind fun e=>(j7 F0 e.2.1).bind fun f=>(j7 F0 f.2.1).bind fun g=>ck (!(a==0)) (some ((Int.tmod (aj ((aj ((aj ((aj (d.1.1*16777216))+(aj (e.1.1*65536))))+(aj (f.1.1*256))))+g.1.1)) a,()),g.2.1,())))):=by kernel_rfl
def dU:Any:=.two ⟨aA4,0,.cur,c7,1,iU,fun x=>au F0 x.1 x.2.1⟩
def fs:ba 21 dU:=UC UE ⟨amd,trivial⟩ func21 ab (by kernel_rfl)
def OB:=[(21,dU)]
abbrev aEs:List (Ty×Bool):=[(K2,true),(.sl 3 (.int .i64),false)]
def iV (c:D2)(a:List Int):=Ev OB F ab f49 aEs 0 .cur c7 iU 1 (c,a,())
def aca (c:D2)(a:List Int):iV F c a=(au F0 c (a.length:Int)).bind fun b=>ck (bO b.1.1 (a.length:Int)) (some ((aN a b.1.1 0,()),b.2.1,())):=by kernel_rfl
def mD:Any:=.two ⟨aEs,0,.cur,c7,1,iU,fun x=>iV F0 x.1 x.2.1⟩
def x1:ba 49 mD:=UC OB ⟨fs,trivial⟩ func49 ab (by kernel_rfl)
def Ys:=[(21,dU)]
def mn (c:D2)(a:Int):=Ev Ys F ab f50 aA4 0 .cur aT iU 1 (c,a,())
def ame (c:D2)(a:Int):mn F c a=(au F0 c a).bind fun b=>some ((b.1.1==0,()),b.2.1,()):=by kernel_rfl
def nC:Any:=.two ⟨aA4,0,.cur,aT,1,iU,fun x=>mn F0 x.1 x.2.1⟩
def x2:ba 50 nC:=UC Ys ⟨fs,trivial⟩ func50 ab (by kernel_rfl)
abbrev aA5:List (Ty×Bool):=[(.int .i64,false),(.int .i64,false),(.int .i64,false)]
def bL (x a b:Int):=bn aB F ab f63 aA5 aT 1 (x,a,b,())
def atV (x a b:Int):bL F x a b=br (decide (x>=a)) (some (decide (x<=b),())) (some (false,())):=by kernel_rfl
def b6:Any:=.one ⟨aA5,aT,1,fun x=>bL F0 x.1 x.2.1 x.2.2.1⟩
def cA:ba 63 b6:=aw aB trivial func63 ab (by kernel_rfl)
def Yt:=[(63,b6)]
abbrev R1:List (Ty×Bool):=[(K1,true)]
def dB (c:D1):=bn Yt F ab f29 R1 aT 1 (c,())
def amf (c:D1):dB F c=(bL F0 c.1 4 7).bind fun a=>br a.1 ((bL F0 c.2 1 6).bind fun b=>some (b.1,())) (some (false,())):=by kernel_rfl
def cw:Any:=.one ⟨R1,aT,1,fun x=>dB F0 x.1⟩
def c9:ba 29 cw:=aw Yt ⟨cA,trivial⟩ func29 ab (by kernel_rfl)
def Hm:Nat->Option Hint:=look [(4,{live:=[0,1,5,6,7],xl:=[5],rl:=[4]})]
def lg (s:ByteArray)(a b i:Int)(c:List ByteArray):= di 36 [(0,Yr s),(1,.v (.c (.int .u8 a))),(5,.v (.c (.own 1000000 none))),(6,bq b),(7,bq i)] [] [ay 1000000 9 (.str) c]
def R2 (a:List ByteArray):= di 36 [(5,.v (.c (.own 1000000 none)))] [] [ay 1000000 9 (.str) a]
def rh (a:St):Option U:=fy aB F Hm [.r,.r,.r,.l,.r,.b,.i] f200 J n a
abbrev awz:List (Ty×Bool):=[(.sl 9 (.str),false)]
def Jo:=ig aB F Hm [.r,.r,.r,.l,.r,.b] f200 awz 2
def Ls (s:ByteArray)(c a i:Int)(b:List ByteArray):rh F J (n+1) (lg s c a i b)=br (decide (i<=(s.size:Int))) (br (i==(s.size:Int)) (ck (QW a i (s.size:Int)) (ck (eA F b.length [s.extract a.toNat i.toNat].length 16) (rh F J n (lg s c (aj (i+1)) (aj (i+1)) (b++[s.extract a.toNat i.toNat]))))) (ck (bO i (s.size:Int)) (br ((gV s i)==c) (ck (QW a i (s.size:Int)) (ck (eA F b.length [s.extract a.toNat i.toNat].length 16) (rh F J n (lg s c (aj (i+1)) (aj (i+1)) (b++[s.extract a.toNat i.toNat]))))) (rh F J n (lg s c a (aj (i+1)) b))))) (J (.exit 0) (R2 b)):=by kernel_rfl
def ae3 (a:List ByteArray):Jo F (.exit 0) (R2 a)=some (a,()):=by kernel_rfl
abbrev Yu:List (Ty×Bool):=[(.str,false),(.int .u8,false)]
def vA (s:ByteArray)(a:Int):=bn aB F Hm f200 Yu awz 2 (s,a,())
def aqg (s:ByteArray)(a:Int):vA F s a=rh F (Jo F) F.n (lg s a 0 0 []):=by kernel_rfl
def Jp:Any:=.one ⟨Yu,awz,2,fun x=>vA F0 x.1 x.2.1⟩
def Yv:ba 200 Jp:=aw aB trivial func200 Hm (by kernel_rfl)
def Hn:Nat->Option Hint:=look [(2,{live:=[0,1,7],rl:=[4,5,6]})]
def x3 (s:ByteArray)(a i:Int):= b3 26 [(0,Yr s),(1,.v (.c (.int .u8 a))),(7,bq i)]
def UF (a b:ByteArray)(c:Bool):= b3 26 [(4,Yr a),(5,Yr b),(6,NR c)]
def R3   := b3 26 []
def Ho (a:St):Option U:=fy aB F Hn [.r,.l,.r,.b,.i] f201 J n a
abbrev aEt:List (Ty×Bool):=[(.str,false),(.str,false),(.bool,false)]
def x4:=ig aB F Hn [.r,.l,.r,.b] f201 aEt 1
def Lt (s:ByteArray)(a i:Int):Ho F J (n+1) (x3 s a i)=br (decide (i<(s.size:Int))) (ck (bO i (s.size:Int)) (br ((gV s i)==a) (ck (QW 0 i (s.size:Int)) (ck (QW (aj (i+1)) (s.size:Int) (s.size:Int)) (J .ret (UF (s.extract (0:Int).toNat i.toNat) (s.extract (aj (i+1)).toNat (s.size:Int).toNat) true)))) (Ho F J n (x3 s a (aj (i+1)))))) (J (.exit 0) (R3)):=by kernel_rfl
def aiY (a b:ByteArray)(c:Bool):x4 F .ret (UF a b c)=some (a,b,c,()):=by kernel_rfl
def ae4: x4 F (.exit 0) (R3)=some (ak,ak,false,()):=by kernel_rfl
def ha (s:ByteArray)(a:Int):=bn aB F Hn f201 Yu aEt 1 (s,a,())
def aqh (s:ByteArray)(a:Int):ha F s a=Ho F (x4 F) F.n (x3 s a 0):=by kernel_rfl
def Jq:Any:=.one ⟨Yu,aEt,1,fun x=>ha F0 x.1 x.2.1⟩
def Yw:ba 201 Jq:=aw aB trivial func201 Hn (by kernel_rfl)
def CM:Nat->Option Hint:=look [(5,{live:=[0,3,4],xl:=[3,4],rl:=[2]})]
def nD (a:Int)(b:Bool)(c:ByteArray):= b3 31 [(0,bq a),(3,NR b),(4,Yr c)]
def OC (a:Bool)(b:ByteArray):= b3 31 [(3,NR a),(4,Yr b)]
def ta (a:St):Option U:=fy aB F CM [.r,.r,.r,.r,.l,.b,.i] f235 J n a
abbrev dw:List (Ty×Bool):=[(.str,false)]
def Fy:=ig aB F CM [.r,.r,.r,.r,.l,.b] f235 dw 1
def Jr (a:Int)(c:Bool)(b:ByteArray):ta F J (n+1) (nD a c b)=br (a != 0) (br (decide ((Int.tmod a 10)<0)) (ck (okC F (strOf [IntKind.wrap .u8 (aj (48+(aj (0-(Int.tmod a 10)))))]).size b.size) (ta F J n (nD (aj (Int.tdiv a 10)) c ((strOf [IntKind.wrap .u8 (aj (48+(aj (0-(Int.tmod a 10)))))])++b)))) (ck (okC F (strOf [IntKind.wrap .u8 (aj (48+(Int.tmod a 10)))]).size b.size) (ta F J n (nD (aj (Int.tdiv a 10)) c ((strOf [IntKind.wrap .u8 (aj (48+(Int.tmod a 10)))])++b))))) (J (.exit 0) (OC c b)):=by kernel_rfl
def acb (b:Bool)(a:ByteArray):Fy F (.exit 0) (OC b a)=br b (ck (okC F (ByteArray.mk #[45]).size a.size) (some ((ByteArray.mk #[45])++a,()))) (some (a,())):=by kernel_rfl
def j8 (a:Int):=bn aB F CM f235 c7 dw 1 (a,())
def amg (a:Int):j8 F a=br (a==0) (some (ByteArray.mk #[48],())) (ta F (Fy F) F.n (nD a (decide (a<0)) ak)):=by kernel_rfl
def tO:Any:=.one ⟨c7,dw,1,fun x=>j8 F0 x.1⟩
def Js:ba 235 tO:=aw aB trivial func235 CM (by kernel_rfl)
def CN:=[(235,tO)]
def CO:Nat->Option Hint:=look [(5,{live:=[0,4,5],xl:=[0,4],rl:=[2,3]})]
def tP (s:ByteArray)(a i:Int):= b3 43 [(0,Yr s),(4,bq a),(5,bq i)]
def Fz (a:Int)(b:Bool):= b3 43 [(2,bq a),(3,NR b)]
def OD (s:ByteArray)(a:Int):= b3 43 [(0,Yr s),(4,bq a)]
def CP (a:St):Option U:=fy CN F CO [.r,.r,.r,.l,.r,.b,.i] f202 J n a
abbrev arQ:List (Ty×Bool):=[(.int .i64,false),(.bool,false)]
def tQ:=ig CN F CO [.r,.r,.r,.l,.r,.b] f202 arQ 1
def Jt (s:ByteArray)(a i:Int):CP F J (n+1) (tP s a i)=br (decide (i<(s.size:Int))) (ck (bO i (s.size:Int)) (br (decide ((gV s i)<48)) (J .ret (Fz 0 false)) (ck (bO i (s.size:Int)) (br (decide ((gV s i)>57)) (J .ret (Fz 0 false)) (ck (bO i (s.size:Int)) (CP F J n (tP s (aj ((aj ((aj (10*a))+(aj (gV s i))))-48)) (aj (i+1))))))))) (J (.exit 0) (OD s a)):=by kernel_rfl
def ae5 (a:Int)(b:Bool):tQ F .ret (Fz a b)=some (a,b,()):=by kernel_rfl
def acd (s:ByteArray)(a:Int):tQ F (.exit 0) (OD s a)=(j8 F0 a).bind fun b=>br (!(b.1.toList==s.toList)) (some (0,false,())) (some (a,true,())):=by kernel_rfl
def mo (s:ByteArray):=bn CN F CO f202 dw arQ 1 (s,())
def amh (s:ByteArray):mo F s=br (decide ((s.size:Int)<1)) (some (0,false,())) (br (decide ((s.size:Int)>6)) (some (0,false,())) (CP F (tQ F) F.n (tP s 0 0))):=by kernel_rfl
def FA:Any:=.one ⟨dw,arQ,1,fun x=>mo F0 x.1⟩
def UG:ba 202 FA:=aw CN ⟨Js,trivial⟩ func202 CO (by kernel_rfl)
def ahC:=[(63,b6)]
abbrev Yx:List (Ty×Bool):=[(K4,true)]
def ri (x:D4):=bn ahC F ab f193 Yx aT 1 (x,())
def atW (x:D4):ri F x=(bL F0 x.1 0 3).bind fun a=>br a.1 ((bL F0 x.2.1 0 3).bind fun b=>br b.1 ((bL F0 x.2.2.1 0 1000).bind fun c=>br c.1 ((bL F0 x.2.2.2 0 99).bind fun d=>some (d.1,())) (some (false,()))) (some (false,()))) (some (false,())):=by kernel_rfl
def kK:Any:=.one ⟨Yx,aT,1,fun x=>ri F0 x.1⟩
def rj:ba 193 kK:=aw ahC ⟨cA,trivial⟩ func193 ab (by kernel_rfl)
def Yy:=[(193,kK),(235,tO)]
def wx (x:D4):=bn Yy F ab f276 Yx dw 1 (x,())
def ami (x:D4):wx F x=(ri F0 x).bind fun e=>br (!e.1) (some (ak,())) ((j8 F0 x.1).bind fun a=>ck (okC F a.1.size (ByteArray.mk #[62]).size) ((j8 F0 x.2.1).bind fun b=>ck (okC F (a.1++(ByteArray.mk #[62])).size b.1.size) (ck (okC F ((a.1++(ByteArray.mk #[62]))++b.1).size (ByteArray.mk #[58]).size) ((j8 F0 x.2.2.1).bind fun c=>ck (okC F (((a.1++(ByteArray.mk #[62]))++b.1)++(ByteArray.mk #[58])).size c.1.size) (ck (okC F ((((a.1++(ByteArray.mk #[62]))++b.1)++(ByteArray.mk #[58]))++c.1).size (ByteArray.mk #[35]).size) ((j8 F0 x.2.2.2).bind fun d=>ck (okC F (((((a.1++(ByteArray.mk #[62]))++b.1)++(ByteArray.mk #[58]))++c.1)++(ByteArray.mk #[35])).size d.1.size) (some ((((((a.1++(ByteArray.mk #[62]))++b.1)++(ByteArray.mk #[58]))++c.1)++(ByteArray.mk #[35]))++d.1,())))))))):=by kernel_rfl
def FB:Any:=.one ⟨Yx,dw,1,fun x=>wx F0 x.1⟩
def UH:ba 276 FB:=aw Yy ⟨rj,Js,trivial⟩ func276 ab (by kernel_rfl)
def ahD:=[(201,Jq),(202,FA),(276,FB)]
abbrev aA6:List (Ty×Bool):=[(K4,true),(.bool,false)]
def W8 (s:ByteArray):=bn ahD F ab f252 dw aA6 1 (s,())
def atX (s:ByteArray):W8 F s=(ha F0 s 62).bind fun a=>(ha F0 a.2.1 58).bind fun b=>(ha F0 b.2.1 35).bind fun c=>(mo F0 a.1).bind fun d=>(mo F0 b.1).bind fun e=>(mo F0 c.1).bind fun f=>(mo F0 c.2.1).bind fun g=>br (s.toList==ak.toList) (some ((0,0,0,0),false,())) ((wx F0 (d.1,e.1,f.1,g.1)).bind fun h=>br (!(h.1.toList==s.toList)) (some ((0,0,0,0),false,())) (some ((d.1,e.1,f.1,g.1),true,()))):=by kernel_rfl
def Yz:Any:=.one ⟨dw,aA6,1,fun x=>W8 F0 x.1⟩
def atY:ba 252 Yz:=aw ahD ⟨Yw,UG,UH,trivial⟩ func252 ab (by kernel_rfl)
def Hp:=[(200,Jp),(252,Yz)]
def Hq:Nat->Option Hint:=look [(6,{live:=[4,5,6],xl:=[4],rl:=[2,3]})]
def x5 (i:Int)(b:List D4)(a:List ByteArray):= di 37 [(4,.v (.c (.own 1000000 none))),(5,.v (.c (.own 1000001 none))),(6,bq i)] [] [ay 1000000 63 K4 b,ay 1000001 9 (.str) a]
def UI (a:Bool)(b:List D4):= di 37 [(2,.v (.c (.own 1000000 none))),(3,NR a)] [] [ay 1000000 63 K4 b]
def R4 (a:List D4):= di 37 [(4,.v (.c (.own 1000000 none)))] [] [ay 1000000 63 K4 a]
def Hr (a:St):Option U:=fy Hp F Hq [.r,.r,.r,.r,.l,.r,.b,.i] f203 J n a
abbrev UJ:List (Ty×Bool):=[(K5,false),(.bool,false)]
def x6:=ig Hp F Hq [.r,.r,.r,.r,.l,.r,.b] f203 UJ 2
def Lu (i:Int)(b:List D4)(a:List ByteArray):Hr F J (n+1) (x5 i b a)=br (decide (i<(a.length:Int))) (ck (bO i (a.length:Int)) ((W8 F0 (aN a i ByteArray.empty)).bind fun c=>br (!c.2.1) (J .ret (UI false [])) (ck (eA F b.length [c.1].length 32) (Hr F J n (x5 (aj (i+1)) (b++[c.1]) a))))) (J (.exit 0) (R4 b)):=by kernel_rfl
def aiZ (a:Bool)(b:List D4):x6 F .ret (UI a b)=some (b,a,()):=by kernel_rfl
def ae6 (a:List D4):x6 F (.exit 0) (R4 a)=some (a,true,()):=by kernel_rfl
def BL (s:ByteArray):=bn Hp F Hq f203 dw UJ 2 (s,())
def aqi (s:ByteArray):BL F s=br (s.toList==ak.toList) (some ([],true,())) ((vA F0 s 44).bind fun a=>Hr F (x6 F) F.n (x5 0 [] a.1)):=by kernel_rfl
def UK:Any:=.one ⟨dw,UJ,2,fun x=>BL F0 x.1⟩
def aqj:ba 203 UK:=aw Hp ⟨Yv,atY,trivial⟩ func203 Hq (by kernel_rfl)
def Hs:=[(200,Jp),(201,Jq),(202,FA),(203,UK)]
def Ht:Nat->Option Hint:=look [(10,{live:=[4,5,6,7,8],xl:=[5],rl:=[2,3]})]
def x7 (c i:Int)(d a:List D6)(b:List ByteArray):= di 91 [(4,.v (.c (.own 1000000 none))),(5,.v (.c (.own 1000001 none))),(6,.v (.c (.own 1000002 none))),(7,bq c),(8,bq i)] [] [ay 1000000 128 K6 d,ay 1000001 128 K6 a,ay 1000002 9 (.str) b]
def iW (a:Bool)(b:List D6):= di 91 [(2,.v (.c (.own 1000000 none))),(3,NR a)] [] [ay 1000000 128 K6 b]
def R5 (a:List D6):= di 91 [(5,.v (.c (.own 1000000 none)))] [] [ay 1000000 128 K6 a]
def Hu (a:St):Option U:=fy Hs F Ht [.r,.r,.r,.r,.r,.r,.r,.l,.r,.b,.i] f131 J n a
abbrev arR:List (Ty×Bool):=[(K7,false),(.bool,false)]
def x8:=ig Hs F Ht [.r,.r,.r,.r,.r,.r,.r,.l,.r,.b] f131 arR 2
def Lv (g i:Int)(a d:List D6)(c:List ByteArray):Hu F J (n+1) (x7 g i a d c)=br (decide (i<(c.length:Int))) (ck (bO i (c.length:Int)) ((ha F0 (aN c i ByteArray.empty) 124).bind fun f=>(mo F0 f.1).bind fun b=>(BL F0 f.2.1).bind fun e=>br (!f.2.2.1) (J .ret (iW false a)) (br (!b.2.1) (J .ret (iW false a)) (br (!e.2.1) (J .ret (iW false a)) (br (decide (b.1<=g)) (J .ret (iW false a)) (br (decide (b.1>60)) (J .ret (iW false a)) (br (decide ((e.1.length:Int)>2)) (J .ret (iW false a)) (ck (eA F d.length [(b.1,e.1)].length 32) (Hu F J n (x7 b.1 (aj (i+1)) a (d++[(b.1,e.1)]) c)))))))))) (J (.exit 0) (R5 d)):=by kernel_rfl
def R6 (a:Bool)(b:List D6):x8 F .ret (iW a b)=some (b,a,()):=by kernel_rfl
def ae7 (a:List D6):x8 F (.exit 0) (R5 a)=some (a,true,()):=by kernel_rfl
def pD (s:ByteArray):=bn Hs F Ht f131 dw arR 2 (s,())
def aqk (s:ByteArray):pD F s=br (s.toList==ak.toList) (some ([],true,())) ((vA F0 s 47).bind fun a=>ck (bO 0 (a.1.length:Int)) (br (!((aN a.1 0 ByteArray.empty).toList==ak.toList)) (some ([],false,())) (br (decide ((a.1.length:Int)>31)) (some ([],false,())) (Hu F (x8 F) F.n (x7 0 1 [] [] a.1))))):=by kernel_rfl
def pE:Any:=.one ⟨dw,arR,2,fun x=>pD F0 x.1⟩
def CQ:ba 131 pE:=aw Hs ⟨Yv,Yw,UG,aqj,trivial⟩ func131 Ht (by kernel_rfl)
def YA:=[(131,pE)]
def eJ (s:ByteArray):=bn YA F ab f68 dw aT 1 (s,())
def amj (s:ByteArray):eJ F s=(pD F0 s).bind fun a=>some (a.2.1,()):=by kernel_rfl
def eB:Any:=.one ⟨dw,aT,1,fun x=>eJ F0 x.1⟩
def gu:ba 68 eB:=aw YA ⟨CQ,trivial⟩ func68 ab (by kernel_rfl)
def YB:=[(131,pE)]
def dk (s:ByteArray):=bn YB F ab f69 dw c7 1 (s,())
def amk (s:ByteArray):dk F s=(pD F0 s).bind fun a=>br (!a.2.1) (some (0,())) (br ((a.1.length:Int)==0) (some (0,())) (ck (bO (aj ((a.1.length:Int)-1)) (a.1.length:Int)) (some ((aN a.1 (aj ((a.1.length:Int)-1)) (0,[])).1,())))):=by kernel_rfl
def da:Any:=.one ⟨dw,c7,1,fun x=>dk F0 x.1⟩
def eo:ba 69 da:=aw YB ⟨CQ,trivial⟩ func69 ab (by kernel_rfl)
def Hv:Nat->Option Hint:=look [(2,{live:=[0,1,5],rl:=[4]})]
def pF (a:Int)(s:List Int)(i:Int):= b3 41 [(0,bq a),(1,ih 3 (.int .i64) s),(5,bq i)]
def x9 (a:Bool):= b3 41 [(4,NR a)]
def R7   := b3 41 []
def ya (a:St):Option U:=fy aB F Hv [.r,.l,.r,.b,.i] f65 J n a
def yb:=ig aB F Hv [.r,.l,.r,.b] f65 aT 1
def Lw (a:Int)(s:List Int)(i:Int):ya F J (n+1) (pF a s i)=br (decide (i<(s.length:Int))) (ck (bO i (s.length:Int)) (br (decide ((aN s i 0)<0)) (J .ret (x9 false)) (ck (bO i (s.length:Int)) (br (decide ((aN s i 0)>=a)) (J .ret (x9 false)) (br (decide (i>0)) (ck (bO (aj (i-1)) (s.length:Int)) (ck (bO i (s.length:Int)) (br (decide ((aN s (aj (i-1)) 0)>=(aN s i 0))) (J .ret (x9 false)) (ya F J n (pF a s (aj (i+1))))))) (ya F J n (pF a s (aj (i+1))))))))) (J (.exit 0) (R7)):=by kernel_rfl
def ai0 (a:Bool):yb F .ret (x9 a)=some (a,()):=by kernel_rfl
def ae8: yb F (.exit 0) (R7)=some (true,()):=by kernel_rfl
abbrev aA7:List (Ty×Bool):=[(.int .i64,false),(.sl 3 (.int .i64),false)]
def BM (a:Int)(s:List Int):=bn aB F Hv f65 aA7 aT 1 (a,s,())
def aql (a:Int)(s:List Int):BM F a s=ya F (yb F) F.n (pF a s 0):=by kernel_rfl
def yc:Any:=.one ⟨aA7,aT,1,fun x=>BM F0 x.1 x.2.1⟩
def NS:ba 65 yc:=aw aB trivial func65 Hv (by kernel_rfl)
def YC:=[(29,cw)]
def wy (c:D1):=bn YC F ab f104 R1 c7 1 (c,())
def aml (c:D1):wy F c=(dB F0 c).bind fun a=>br (!a.1) (some (0,())) (some (aj (c.1-(aj (Int.tdiv (aj (c.1-1)) 3))),())):=by kernel_rfl
def tR:Any:=.one ⟨R1,c7,1,fun x=>wy F0 x.1⟩
def Ju:ba 104 tR:=aw YC ⟨c9,trivial⟩ func104 ab (by kernel_rfl)
def ahE:=[(29,cw),(65,yc),(68,eB),(69,da),(104,tR)]
abbrev Gk:List (Ty×Bool):=[(K1,true),(K9,true)]
def jQ (c:D1)(q:D9):=bn ahE F ab f111 Gk aT 1 (c,q,())
def atZ (c:D1)(q:D9):jQ F c q=(dB F0 c).bind fun a=>br (!a.1) (some (false,())) ((eJ F0 q.2.1).bind fun b=>br (!b.1) (some (false,())) ((dk F0 q.2.1).bind fun d=>br (d.1 != q.1) (some (false,())) (br (q.2.1.toList==ak.toList) (some ((q.2.2.length:Int)==0,())) ((BM F0 c.1 q.2.2).bind fun e=>br e.1 ((wy F0 c).bind fun f=>some (decide ((q.2.2.length:Int)>=f.1),())) (some (false,())))))):=by kernel_rfl
def gb:Any:=.one ⟨Gk,aT,1,fun x=>jQ F0 x.1 x.2.1⟩
def j9:ba 111 gb:=aw ahE ⟨c9,NS,gu,eo,Ju,trivial⟩ func111 ab (by kernel_rfl)
def YD:=[(63,b6),(68,eB),(111,gb)]
abbrev R8:List (Ty×Bool):=[(K1,true),(K12,true)]
def iB (c:D1)(s:TN):=bn YD F ab f122 R8 aT 1 (c,s,())
def amm (c:D1)(s:TN):iB F c s=(bL F0 s.1 0 60).bind fun a=>br a.1 ((bL F0 s.2.1 0 60).bind fun b=>br b.1 ((jQ F0 c s.2.2.1).bind fun d=>br d.1 ((eJ F0 s.2.2.2).bind fun e=>some (e.1,())) (some (false,()))) (some (false,()))) (some (false,())):=by kernel_rfl
def hl:Any:=.one ⟨R8,aT,1,fun x=>iB F0 x.1 x.2.1⟩
def lh:ba 122 hl:=aw YD ⟨cA,gu,j9,trivial⟩ func122 ab (by kernel_rfl)
abbrev aA8:List (Ty×Bool):=[(K4,true),(K4,true)]
def tc (a b:D4):=bn aB F ab f194 aA8 aT 1 (a,b,())
def ae9 (a b:D4):tc F a b=br (decide (a.1<b.1)) (some (true,())) (br (a.1==b.1) (some (decide (a.2.2.2<b.2.2.2),())) (some (false,()))):=by kernel_rfl
def yd:Any:=.one ⟨aA8,aT,1,fun x=>tc F0 x.1 x.2.1⟩
def OE:ba 194 yd:=aw aB trivial func194 ab (by kernel_rfl)
def CR:=[(193,kK),(194,yd)]
def CS:Nat->Option Hint:=look [(2,{live:=[0,3],xl:=[0],rl:=[2]})]
def nE (p:List D4)(i:Int):= b3 36 [(0,ih 63 (K4) p),(3,bq i)]
def FC (a:Bool):= b3 36 [(2,NR a)]
def OF (p:List D4):= b3 36 [(0,ih 63 (K4) p)]
def td (a:St):Option U:=fy CR F CS [.r,.l,.r,.b,.i] f123 J n a
def tS:=ig CR F CS [.r,.l,.r,.b] f123 aT 1
def Jv (p:List D4)(i:Int):td F J (n+1) (nE p i)=br (decide (i<(p.length:Int))) (ck (bO i (p.length:Int)) ((ri F0 (aN p i K4.aC)).bind fun a=>br (!a.1) (J .ret (FC false)) (br (decide (i>0)) (ck (bO (aj (i-1)) (p.length:Int)) (ck (bO i (p.length:Int)) ((tc F0 (aN p (aj (i-1)) K4.aC) (aN p i K4.aC)).bind fun b=>br (!b.1) (J .ret (FC false)) (td F J n (nE p (aj (i+1))))))) (td F J n (nE p (aj (i+1))))))) (J (.exit 0) (OF p)):=by kernel_rfl
def afa (a:Bool):tS F .ret (FC a)=some (a,()):=by kernel_rfl
def ace (p:List D4):tS F (.exit 0) (OF p)=some (decide ((p.length:Int)<=12),()):=by kernel_rfl
abbrev jH:List (Ty×Bool):=[(K5,false)]
def Ew (p:D5):=bn CR F CS f123 jH aT 1 (p,())
def amn (p:D5):Ew F p=td F (tS F) F.n (nE p 0):=by kernel_rfl
def FD:Any:=.one ⟨jH,aT,1,fun x=>Ew F0 x.1⟩
def UL:ba 123 FD:=aw CR ⟨rj,OE,trivial⟩ func123 CS (by kernel_rfl)
def YE:=[(29,cw),(63,b6),(65,yc),(68,eB),(69,da)]
def ka (c:D1)(p:D9):=bn YE F ab f195 Gk aT 1 (c,p,())
def amo (c:D1)(p:D9):ka F c p=(dB F0 c).bind fun a=>br (!a.1) (some (false,())) ((bL F0 p.1 1 60).bind fun b=>br (!b.1) (some (false,())) ((BM F0 c.1 p.2.2).bind fun d=>br (!d.1) (some (false,())) (br ((p.2.2.length:Int)==0) (some (false,())) (br (p.2.1.toList==ak.toList) (some (true,())) ((eJ F0 p.2.1).bind fun e=>br e.1 ((dk F0 p.2.1).bind fun f=>some (f.1==p.1,())) (some (false,()))))))):=by kernel_rfl
def nF:Any:=.one ⟨Gk,aT,1,fun x=>ka F0 x.1 x.2.1⟩
def ye:ba 195 nF:=aw YE ⟨c9,cA,NS,gu,eo,trivial⟩ func195 ab (by kernel_rfl)
abbrev wz:List (Ty×Bool):=[(K9,true),(K9,true)]
def pG (a b:D9):=bn aB F ab f196 wz aT 1 (a,b,())
def acf (a b:D9):pG F a b=br (decide (a.1<b.1)) (some (true,())) (br (a.1==b.1) (some (Op.bytesLess a.2.1.toList b.2.1.toList,())) (some (false,()))):=by kernel_rfl
def vB:Any:=.one ⟨wz,aT,1,fun x=>pG F0 x.1 x.2.1⟩
def Lx:ba 196 vB:=aw aB trivial func196 ab (by kernel_rfl)
def yf:=[(195,nF),(196,vB)]
def yg:Nat->Option Hint:=look [(2,{live:=[1,2,5],xl:=[1],rl:=[4]})]
def lj (b:List D9)(i c a:Int):= di 39 [(1,ih 61 (K9) b),b9 2,(5,bq i)] [(2,[an c,an a])] []
def BN (a:Bool):= b3 39 [(4,NR a)]
def Ly (a:List D9):= b3 39 [(1,ih 61 (K9) a)]
def pH (a:St):Option U:=fy yf F yg [.r,.l,.r,.b,.i] f124 J n a
def rk:=ig yf F yg [.r,.l,.r,.b] f124 aT 1
def Gl (a:List D9)(i c b:Int):pH F J (n+1) (lj a i c b)=br (decide (i<(a.length:Int))) (ck (bO i (a.length:Int)) ((ka F0 (c,b) (aN a i K9.aC)).bind fun d=>br (!d.1) (J .ret (BN false)) (br (decide (i>0)) (ck (bO (aj (i-1)) (a.length:Int)) (ck (bO i (a.length:Int)) ((pG F0 (aN a (aj (i-1)) K9.aC) (aN a i K9.aC)).bind fun e=>br (!e.1) (J .ret (BN false)) (pH F J n (lj a (aj (i+1)) c b))))) (pH F J n (lj a (aj (i+1)) c b))))) (J (.exit 0) (Ly a)):=by kernel_rfl
def acg (a:Bool):rk F .ret (BN a)=some (a,()):=by kernel_rfl
def aao (a:List D9):rk F (.exit 0) (Ly a)=some (decide ((a.length:Int)<=20),()):=by kernel_rfl
abbrev aA9:List (Ty×Bool):=[(K1,true),(K13,false)]
def mE (c:D1)(a:D13):=bn yf F yg f124 aA9 aT 1 (c,a,())
def ai1 (c:D1)(a:D13):mE F c a=pH F (rk F) F.n (lj a 0 c.1 c.2):=by kernel_rfl
def BO:Any:=.one ⟨aA9,aT,1,fun x=>mE F0 x.1 x.2.1⟩
def R9:ba 124 BO:=aw yf ⟨ye,Lx,trivial⟩ func124 yg (by kernel_rfl)
def YF:=[(63,b6)]
abbrev oJ:List (Ty×Bool):=[(K14,true)]
def mq (d:D14):=bn YF F ab f125 oJ aT 1 (d,())
def amp (d:D14):mq F d=br (decide ((d.1.length:Int)<=100000)) ((bL F0 d.2 0 (d.1.length:Int)).bind fun a=>some (a.1,())) (some (false,())):=by kernel_rfl
def nG:Any:=.one ⟨oJ,aT,1,fun x=>mq F0 x.1⟩
def yh:ba 125 nG:=aw YF ⟨cA,trivial⟩ func125 ab (by kernel_rfl)
def CT:Nat->Option Hint:=look [(2,{live:=[0,1,5],xl:=[0,1],rl:=[4]})]
def tT (a b:List Int)(i:Int):= b3 32 [(0,ih 3 (.int .i64) a),(1,ih 3 (.int .i64) b),(5,bq i)]
def Sa (a:Bool):= b3 32 [(4,NR a)]
def BP (a b:List Int):= b3 32 [(0,ih 3 (.int .i64) a),(1,ih 3 (.int .i64) b)]
def CU (a:St):Option U:=fy aB F CT [.r,.l,.r,.b,.i] f326 J n a
def tU:=ig aB F CT [.r,.l,.r,.b] f326 aT 1
def Jw (a b:List Int)(i:Int):CU F J (n+1) (tT a b i)=br (decide (i<(a.length:Int))) (br (decide (i<(b.length:Int))) (ck (bO i (a.length:Int)) (ck (bO i (b.length:Int)) (br ((aN a i 0) != (aN b i 0)) (J .ret (Sa false)) (CU F J n (tT a b (aj (i+1))))))) (J (.exit 0) (BP a b))) (J (.exit 0) (BP a b)):=by kernel_rfl
def afb (a:Bool):tU F .ret (Sa a)=some (a,()):=by kernel_rfl
def ach (a b:List Int):tU F (.exit 0) (BP a b)=some ((a.length:Int)==(b.length:Int),()):=by kernel_rfl
abbrev ai2:List (Ty×Bool):=[(.sl 3 (.int .i64),false),(.sl 3 (.int .i64),false)]
def Ey (a b:List Int):=bn aB F CT f326 ai2 aT 1 (a,b,())
def amq (a b:List Int):Ey F a b=CU F (tU F) F.n (tT a b 0):=by kernel_rfl
def FE:Any:=.one ⟨ai2,aT,1,fun x=>Ey F0 x.1 x.2.1⟩
def UM:ba 326 FE:=aw aB trivial func326 CT (by kernel_rfl)
def YG:=[(326,FE)]
def wA (a b:D9):=bn YG F ab f298 wz aT 1 (a,b,())
def amr (a b:D9):wA F a b=br (a.1==b.1) (br (a.2.1.toList==b.2.1.toList) ((Ey F0 a.2.2 b.2.2).bind fun c=>some (c.1,())) (some (false,()))) (some (false,())):=by kernel_rfl
def tV:Any:=.one ⟨wz,aT,1,fun x=>wA F0 x.1 x.2.1⟩
def Jx:ba 298 tV:=aw YG ⟨UM,trivial⟩ func298 ab (by kernel_rfl)
def OG:=[(298,tV)]
abbrev aBa:List (Ty×Bool):=[(K15,true),(K15,true)]
def yi (a b:D15):=bn OG F ab f296 aBa aT 1 (a,b,())
def aci (a b:D15):yi F a b=br (a.1.toList==b.1.toList) ((wA F0 a.2 b.2).bind fun c=>some (c.1,())) (some (false,())):=by kernel_rfl
def Jy:Any:=.one ⟨aBa,aT,1,fun x=>yi F0 x.1 x.2.1⟩
def acj:ba 296 Jy:=aw OG ⟨Jx,trivial⟩ func296 ab (by kernel_rfl)
def UN:=[(326,FE)]
def Hw (a b:D9):=bn UN F ab f297 wz aT 1 (a,b,())
def ai3 (a b:D9):Hw F a b=br (a.1==b.1) (br (a.2.1.toList==b.2.1.toList) ((Ey F0 a.2.2 b.2.2).bind fun c=>some (c.1,())) (some (false,()))) (some (false,())):=by kernel_rfl
def OH:Any:=.one ⟨wz,aT,1,fun x=>Hw F0 x.1 x.2.1⟩
def ai4:ba 297 OH:=aw UN ⟨UM,trivial⟩ func297 ab (by kernel_rfl)
end
end Go.Am.Tryz
namespace Go.Am.Tryz
open Go.Am Go.Proofs Go.Proofs.Tryz
noncomputable section
variable {U:Type} (F:oH) (J:Ex->St->Option U) (n:Nat)
def UO:=[(296,Jy),(297,OH),(298,tV)]
abbrev aBb:List (Ty×Bool):=[(K21,true),(K21,true)]
def kb (a b:NQ):=bn UO F ab f251 aBb aT 1 (a,b,())
def ai5 (a b:NQ):kb F a b=br (a.1==b.1) (br (a.2.1==b.2.1) ((yi F0 a.2.2.1 b.2.2.1).bind fun c=>br c.1 ((Hw F0 a.2.2.2.1 b.2.2.2.1).bind fun d=>br d.1 ((wA F0 a.2.2.2.2.1 b.2.2.2.2.1).bind fun e=>br e.1 (br (a.2.2.2.2.2.1==b.2.2.2.2.2.1) (some ((a.2.2.2.2.2.2.1==b.2.2.2.2.2.2.1)&&((a.2.2.2.2.2.2.2.1==b.2.2.2.2.2.2.2.1)&&((a.2.2.2.2.2.2.2.2.1==b.2.2.2.2.2.2.2.2.1)&&((a.2.2.2.2.2.2.2.2.2==b.2.2.2.2.2.2.2.2.2)&&true))),())) (some (false,()))) (some (false,()))) (some (false,()))) (some (false,()))) (some (false,()))) (some (false,())):=by kernel_rfl
def OI:Any:=.one ⟨aBb,aT,1,fun x=>kb F0 x.1 x.2.1⟩
def ai6:ba 251 OI:=aw UO ⟨acj,ai4,Jx,trivial⟩ func251 ab (by kernel_rfl)
def UP:=[(251,OI)]
abbrev wB:List (Ty×Bool):=[(K21,true)]
def Hy (m:NQ):=bn UP F ab f197 wB aT 1 (m,())
def ai7 (m:NQ):Hy F m=br (m.1==1) ((kb F0 (m.1,0,m.2.2.1,(0,ak,[]),(0,ak,[]),0,0,0,0,0) m).bind fun a=>some (a.1,())) (br (m.1==2) ((kb F0 (m.1,0,(ak,0,ak,[]),m.2.2.2.1,(0,ak,[]),0,0,0,0,0) m).bind fun a=>some (a.1,())) (br (m.1==3) ((kb F0 (m.1,m.2.1,(ak,0,ak,[]),(0,ak,[]),m.2.2.2.2.1,m.2.2.2.2.2.1,0,0,0,0) m).bind fun a=>some (a.1,())) (br (m.1==4) ((kb F0 (m.1,0,(ak,0,ak,[]),(0,ak,[]),(0,ak,[]),0,m.2.2.2.2.2.2) m).bind fun a=>some (a.1,())) ((kb F0 (m.1,0,(ak,0,ak,[]),(0,ak,[]),(0,ak,[]),0,0,0,0,0) m).bind fun a=>some (a.1,()))))):=by kernel_rfl
def OJ:Any:=.one ⟨wB,aT,1,fun x=>Hy F0 x.1⟩
def ai8:ba 197 OJ:=aw UP ⟨ai6,trivial⟩ func197 ab (by kernel_rfl)
abbrev arS:List (Ty×Bool):=[(.int .i64,false),(.int .i64,false)]
def dC (a b:Int):=bn aB F ab f53 arS c7 1 (a,b,())
def YH (a b:Int):dC F a b=br (decide (a>b)) (some (a,())) (some (b,())):=by kernel_rfl
def gv:Any:=.one ⟨arS,c7,1,fun x=>dC F0 x.1 x.2.1⟩
def kL:ba 53 gv:=aw aB trivial func53 ab (by kernel_rfl)
def LA:=[(53,gv),(68,eB)]
def LB:Nat->Option Hint:=look [(4,{live:=[0,3],xl:=[0,3],rl:=[2]})]
def CW (s:ByteArray)(k:Int):= b3 25 [(0,Yr s),(3,bq k)]
def yj (s:ByteArray)(k:Int):= b3 25 [(0,Yr s),(3,bq k)]
def LC (a:St):Option U:=fy LA F LB [.r,.r,.r,.l,.b,.i] f181 J n a
def YI:=ig LA F LB [.r,.r,.r,.l,.b] f181 dw 1
def OK (s:ByteArray)(k:Int):LC F J (n+1) (CW s k)=br (decide (k>0)) (ck (bO (aj (k-1)) (s.size:Int)) (br ((gV s (aj (k-1))) != 47) (LC F J n (CW s (aj (k-1)))) (J (.exit 0) (yj s k)))) (J (.exit 0) (yj s k)):=by kernel_rfl
def ai9 (s:ByteArray)(k:Int):YI F (.exit 0) (yj s k)=(dC F0 (aj (k-1)) 0).bind fun a=>ck (QW 0 a.1 (s.size:Int)) (some (s.extract (0:Int).toNat a.1.toNat,())):=by kernel_rfl
def ahF (s:ByteArray):=bn LA F LB f181 dw dw 1 (s,())
def ack:∃f,f= @ahF:=⟨_,rfl⟩
def ll:=Classical.choose ack
def YJ: @ll= @ahF:=Classical.choose_spec ack
def at0 (s:ByteArray):ll F s=(eJ F0 s).bind fun a=>br (!a.1) (some (ak,())) (LC F (YI F) F.n (CW s (s.size:Int))):=by rw[YJ];kernel_rfl
def te:Any:=.one ⟨dw,dw,1,fun x=>ll F0 x.1⟩
def Hz:ba 181 te:=ok1 (show xJ Tryz.prog TB LA from⟨kL,gu,trivial⟩) func181 (by kernel_rfl) (by kernel_rfl) LB (by rw[YJ];kernel_rfl)
def UQ:=[(68,eB),(111,gb),(181,te)]
abbrev aBc:List (Ty×Bool):=[(K1,true),(K15,true)]
def mF (c:D1)(b:D15):=bn UQ F ab f180 aBc aT 1 (c,b,())
def aja (c:D1)(b:D15):mF F c b=(jQ F0 c b.2).bind fun a=>br a.1 ((eJ F0 b.1).bind fun d=>br d.1 (br (!(b.1.toList==ak.toList)) ((ll F0 b.1).bind fun e=>some (e.1.toList==b.2.2.1.toList,())) (some (false,()))) (some (false,()))) (some (false,())):=by kernel_rfl
def ln:Any:=.one ⟨aBc,aT,1,fun x=>mF F0 x.1 x.2.1⟩
def tW:ba 180 ln:=aw UQ ⟨gu,j9,Hz,trivial⟩ func180 ab (by kernel_rfl)
def acm:=[(29,cw),(63,b6),(111,gb),(180,ln),(193,kK),(195,nF),(197,OJ)]
abbrev ahG:List (Ty×Bool):=[(K1,true),(K21,true)]
def e4 (c:D1)(m:NQ):=bn acm F ab f126 ahG aT 1 (c,m,())
def aqm (c:D1)(m:NQ):e4 F c m=(dB F0 c).bind fun a=>br (!a.1) (some (false,())) ((Hy F0 m).bind fun b=>br (!b.1) (some (false,())) (br (m.1==1) ((mF F0 c m.2.2.1).bind fun d=>some (d.1,())) (br (m.1==2) ((ka F0 c m.2.2.2.1).bind fun e=>br e.1 (some (!(m.2.2.2.1.2.1.toList==ak.toList),())) (some (false,()))) (br (m.1==3) ((bL F0 m.2.1 1 60).bind fun f=>br f.1 ((jQ F0 c m.2.2.2.2.1).bind fun g=>br g.1 ((bL F0 m.2.2.2.2.2.1 0 (aj (c.1-1))).bind fun h=>some (h.1,())) (some (false,()))) (some (false,()))) (br (m.1==4) ((ri F0 m.2.2.2.2.2.2).bind fun i=>some (i.1,())) (some (false,()))))))):=by kernel_rfl
def iX:Any:=.one ⟨ahG,aT,1,fun x=>e4 F0 x.1 x.2.1⟩
def n8:ba 126 iX:=aw acm ⟨c9,cA,j9,tW,rj,ye,ai8,trivial⟩ func126 ab (by kernel_rfl)
def HA:=[(29,cw),(63,b6),(122,hl),(123,FD),(124,BO),(125,nG),(126,iX)]
def HB:Nat->Option Hint:=look [(4,{live:=[2,3,5],rl:=[4]})]
def yk (i c a r b d e f g:Int)(h:ByteArray)(j:List Int)(k:ByteArray)(l:List D4)(m:List D9)(o:List Int)(p:Int)(q:List kI):= di 102 [b9 2,b9 3,(5,bq i)] [(2,[an c,an a]),(3,[an r,an b,an d,an e,an f,an g,.str h,.ro false 3 (.int .i64) j,.str k,.ro false 63 (K4) l,.ro false 61 (K9) m,.ro false 5 (.int .u8) o,an p,.ro false 119 (px) q])] []
def yl (a:Bool):= b3 102 [(4,NR a)]
def Sb   := b3 102 []
def HC (a:St):Option U:=fy HA F HB [.r,.r,.l,.r,.b,.i] f64 J n a
def ym:=ig HA F HB [.r,.r,.l,.r,.b] f64 aT 1
def LD (i c b r d e f g h:Int)(j:ByteArray)(k:List Int)(l:ByteArray)(m:List D4)(o:List D9)(p:List Int)(q:Int)(a:List kI):HC F J (n+1) (yk i c b r d e f g h j k l m o p q a)=br (decide (i<(a.length:Int))) (ck (bO i (a.length:Int)) ((e4 F0 (c,b) (aN a i px.aC).2).bind fun s=>br (!s.1) (J .ret (yl false)) (ck (bO i (a.length:Int)) ((bL F0 (aN a i px.aC).1 0 (aj (c-1))).bind fun t=>br (!t.1) (J .ret (yl false)) (ck (bO i (a.length:Int)) (br ((aN a i px.aC).1==r) (J .ret (yl false)) (HC F J n (yk (aj (i+1)) c b r d e f g h j k l m o p q a)))))))) (J (.exit 0) (Sb)):=by kernel_rfl
def ajb (a:Bool):ym F .ret (yl a)=some (a,()):=by kernel_rfl
def afc: ym F (.exit 0) (Sb)=some (true,()):=by kernel_rfl
abbrev wX:List (Ty×Bool):=[(K1,true),(cl,true)]
def dp (c:D1)(r:bb):=bn HA F HB f64 wX aT 1 (c,r,())
def aqn (c:D1)(r:bb):dp F c r=(dB F0 c).bind fun a=>br (!a.1) (some (false,())) ((bL F0 r.1 0 (aj (c.1-1))).bind fun b=>br (!b.1) (some (false,())) ((bL F0 r.2.1 1 60).bind fun d=>br (!d.1) (some (false,())) ((bL F0 r.2.2.1 0 60).bind fun e=>br (!e.1) (some (false,())) ((iB F0 c r.2.2.2.1).bind fun f=>br (!f.1) (some (false,())) ((Ew F0 r.2.2.2.2.1).bind fun g=>br (!g.1) (some (false,())) ((mE F0 c r.2.2.2.2.2.1).bind fun h=>br (!h.1) (some (false,())) ((mq F0 r.2.2.2.2.2.2.1).bind fun i=>br (!i.1) (some (false,())) (br (decide ((r.2.2.2.2.2.2.2.length:Int)>30)) (some (false,())) (HC F (ym F) F.n (yk 0 c.1 c.2 r.1 r.2.1 r.2.2.1 r.2.2.2.1.1 r.2.2.2.1.2.1 r.2.2.2.1.2.2.1.1 r.2.2.2.1.2.2.1.2.1 r.2.2.2.1.2.2.1.2.2 r.2.2.2.1.2.2.2 r.2.2.2.2.1 r.2.2.2.2.2.1 r.2.2.2.2.2.2.1.1 r.2.2.2.2.2.2.1.2 r.2.2.2.2.2.2.2)))))))))):=by kernel_rfl
def cp:Any:=.one ⟨wX,aT,1,fun x=>dp F0 x.1 x.2.1⟩
def cP:ba 64 cp:=aw HA ⟨c9,cA,lh,UL,R9,yh,n8,trivial⟩ func64 HB (by kernel_rfl)
def YK:=[(64,cp)]
abbrev ahH:List (Ty×Bool):=[(K1,true),(.int .i64,false)]
abbrev gd:List (Ty×Bool):=[(cl,true),(.bool,false)]
def LF (c:D1)(a:Int):=bn YK F ab f30 ahH gd 2 (c,a,())
def ams (c:D1)(a:Int):LF F c a=(dp F0 c (a,1,0,(0,0,(0,ak,[]),ak),[],[],([],0),[])).bind fun b=>br (!b.1) (some ((0,0,0,(0,0,(0,ak,[]),ak),[],[],([],0),[]),false,())) (some ((a,1,0,(0,0,(0,ak,[]),ak),[],[],([],0),[]),true,())):=by kernel_rfl
def Sc:Any:=.one ⟨ahH,gd,2,fun x=>LF F0 x.1 x.2.1⟩
def amt:ba 30 Sc:=aw YK ⟨cP,trivial⟩ func30 ab (by kernel_rfl)
def YL:=[(29,cw)]
def LG (c:D1):=bn YL F ab f66 R1 c7 1 (c,())
def amu (c:D1):LG F c=(dB F0 c).bind fun a=>br (!a.1) (some (0,())) (some (aj (Int.tdiv (aj (c.1-1)) 3),())):=by kernel_rfl
def Se:Any:=.one ⟨R1,c7,1,fun x=>LG F0 x.1⟩
def amv:ba 66 Se:=aw YL ⟨c9,trivial⟩ func66 ab (by kernel_rfl)
def CX:Nat->Option Hint:=look [(3,{live:=[0,1,7,8],rl:=[4,5,6]})]
def tX (b:List Int)(a c k:Int):= b3 55 [(0,ih 5 (.int .u8) b),(1,bq a),(7,bq c),(8,bq k)]
def ft (a b:Int)(c:Bool):= b3 55 [(4,bq a),(5,bq b),(6,NR c)]
def OL   := b3 55 []
def CY (a:St):Option U:=fy aB F CX [.r,.r,.l,.r,.b,.i] f198 J n a
abbrev arT:List (Ty×Bool):=[(.int .i64,false),(.int .i64,false),(.bool,false)]
def tY:=ig aB F CX [.r,.r,.l,.r,.b] f198 arT 1
def Jz (b:List Int)(a c k:Int):CY F J (n+1) (tX b a c k)=br (decide (k<5)) (br (decide (a<0)) (J .ret (ft 0 0 false)) (br (decide (a>=(aj ((b.length:Int)-k)))) (J .ret (ft 0 0 false)) (ck (bO (aj (a+k)) (b.length:Int)) (ck (decide (0<=(aj (7*k)))) (br (decide ((aj (aN b (aj (a+k)) 0))<128)) (br (decide (k>0)) (br ((aj (aN b (aj (a+k)) 0))==0) (J .ret (ft 0 0 false)) (br (decide ((aj (((BitVec.ofInt 64 c ||| BitVec.ofInt 64 (aj ((Int.tmod (aj (aN b (aj (a+k)) 0)) 128)*2 ^ (min (aj (7*k)).toNat 64)))).toNat:Int)))>2147483647)) (J .ret (ft 0 0 false)) (J .ret (ft (aj (((BitVec.ofInt 64 c ||| BitVec.ofInt 64 (aj ((Int.tmod (aj (aN b (aj (a+k)) 0)) 128)*2 ^ (min (aj (7*k)).toNat 64)))).toNat:Int))) (aj ((aj (a+k))+1)) true)))) (br (decide ((aj (((BitVec.ofInt 64 c ||| BitVec.ofInt 64 (aj ((Int.tmod (aj (aN b (aj (a+k)) 0)) 128)*2 ^ (min (aj (7*k)).toNat 64)))).toNat:Int)))>2147483647)) (J .ret (ft 0 0 false)) (J .ret (ft (aj (((BitVec.ofInt 64 c ||| BitVec.ofInt 64 (aj ((Int.tmod (aj (aN b (aj (a+k)) 0)) 128)*2 ^ (min (aj (7*k)).toNat 64)))).toNat:Int))) (aj ((aj (a+k))+1)) true)))) (CY F J n (tX b a (aj (((BitVec.ofInt 64 c ||| BitVec.ofInt 64 (aj ((Int.tmod (aj (aN b (aj (a+k)) 0)) 128)*2 ^ (min (aj (7*k)).toNat 64)))).toNat:Int))) (aj (k+1))))))))) (J (.exit 0) (OL)):=by kernel_rfl
def BQ (a b:Int)(c:Bool):tY F .ret (ft a b c)=some (a,b,c,()):=by kernel_rfl
def acn: tY F (.exit 0) (OL)=some (0,0,false,()):=by kernel_rfl
abbrev ahI:List (Ty×Bool):=[(.sl 5 (.int .u8),false),(.int .i64,false)]
def kc (b:List Int)(a:Int):=bn aB F CX f198 ahI arT 1 (b,a,())
def amw (b:List Int)(a:Int):kc F b a=CY F (tY F) F.n (tX b a 0 0):=by kernel_rfl
def tZ:Any:=.one ⟨ahI,arT,1,fun x=>kc F0 x.1 x.2.1⟩
def JA:ba 198 tZ:=aw aB trivial func198 CX (by kernel_rfl)
def YM:=[(198,tZ)]
abbrev gL:List (Ty×Bool):=[(K32,true)]
def cG (c:D32):=Ev YM F ab f127 gL 0 .cur c7 gL 1 (c,())
def amx (c:D32):cG F c=(kc F0 c.1 c.2.1).bind fun a=>br (!a.2.2.1) (some ((0,()),(c.1,c.2.1,false),())) (br (!c.2.2) (some ((0,()),(c.1,c.2.1,false),())) (some ((a.1,()),(c.1,a.2.1,c.2.2),()))):=by kernel_rfl
def nH:Any:=.two ⟨gL,0,.cur,c7,1,gL,fun x=>cG F0 x.1⟩
def yn:ba 127 nH:=UC YM ⟨JA,trivial⟩ func127 ab (by kernel_rfl)
def UR:=[(198,tZ)]
abbrev aBd:List (Ty×Bool):=[(.str,false),(.int .i64,false),(.bool,false)]
def HD (b:List Int)(a:Int):=bn UR F ab f199 ahI aBd 1 (b,a,())
def ajc (b:List Int)(c:Int):HD F b c=(kc F0 b c).bind fun a=>br (!a.2.2.1) (some (ak,0,false,())) (br (decide (a.1>(aj ((b.length:Int)-a.2.1)))) (some (ak,0,false,())) (ck (QW a.2.1 (aj (a.2.1+a.1)) (b.length:Int)) (some (strOf ((b.take (aj (a.2.1+a.1)).toNat).drop a.2.1.toNat),aj (a.2.1+a.1),true,())))):=by kernel_rfl
def OM:Any:=.one ⟨ahI,aBd,1,fun x=>HD F0 x.1 x.2.1⟩
def ajd:ba 199 OM:=aw UR ⟨JA,trivial⟩ func199 ab (by kernel_rfl)
def US:=[(199,OM)]
def mG (c:D32):=Ev US F ab f128 gL 0 .cur dw gL 1 (c,())
def aje (c:D32):mG F c=(HD F0 c.1 c.2.1).bind fun a=>br (!a.2.2.1) (some ((ak,()),(c.1,c.2.1,false),())) (br (!c.2.2) (some ((ak,()),(c.1,c.2.1,false),())) (some ((a.1,()),(c.1,a.2.1,c.2.2),()))):=by kernel_rfl
def rm:Any:=.two ⟨gL,0,.cur,dw,1,gL,fun x=>mG F0 x.1⟩
def FF:ba 128 rm:=UC US ⟨ajd,trivial⟩ func128 ab (by kernel_rfl)
def CZ:=[(127,nH)]
def C0:Nat->Option Hint:=look [(4,{live:=[0,3,4,5],xl:=[3],rl:=[2]})]
def ua (a i:Int)(b:List Int)(c:Int)(d:Bool)(e:List Int):St:={nt:=28,tm:=[(0,.v (.c (.ptr 4000000 0))),(3,.v (.c (.own 1000000 none))),(4,bq a),(5,bq i)],bx:=[(4000000,[.ro true 5 (.int .u8) b,an c,.bool d])],bl:=[ay 1000000 3 (.int .i64) e],sp:=.v (.c (.ptr 4000000 0))}
def rn (a:List Int)(b:Int)(c:Bool)(d:List Int):St:={nt:=28,tm:=[(3,.v (.c (.own 1000000 none)))],bx:=[(4000000,[.ro true 5 (.int .u8) a,an b,.bool c])],bl:=[ay 1000000 3 (.int .i64) d],sp:=.v (.c (.ptr 4000000 0))}
def C1 (a:St):Option U:=fy CZ F C0 [.r,.r,.r,.l,.r,.b,.i] f130 J n a
abbrev jK:List (Ty×Bool):=[(.sl 3 (.int .i64),false)]
def FG:=aww CZ F C0 [.r,.r,.r,.l,.r,.b] f130 .cur jK gL 2
def JB (f i:Int)(d:List Int)(e:Int)(a:Bool)(c:List Int):C1 F J (n+1) (ua f i d e a c)=br (decide (i<f)) (br a ((cG F0 (d,e,a)).bind fun b=>ck (eA F c.length [b.1.1].length 8) (C1 F J n (ua f (aj (i+1)) b.2.1.1 b.2.1.2.1 b.2.1.2.2 (c++[b.1.1])))) (J (.exit 0) (rn d e a c))) (J (.exit 0) (rn d e a c)):=by kernel_rfl
def aco (a:List Int)(b:Int)(c:Bool)(d:List Int):FG F (.exit 0) (rn a b c d)=some ((d,()),(a,b,c),()):=by kernel_rfl
def Ez (c:D32):=Ev CZ F C0 f130 gL 0 .cur jK gL 2 (c,())
def amy (c:D32):Ez F c=(cG F0 c).bind fun a=>C1 F (FG F) F.n (ua a.1.1 0 a.2.1.1 a.2.1.2.1 a.2.1.2.2 []):=by kernel_rfl
def FH:Any:=.two ⟨gL,0,.cur,jK,2,gL,fun x=>Ez F0 x.1⟩
def UT:ba 130 FH:=UC CZ ⟨yn,trivial⟩ func130 C0 (by kernel_rfl)
def acp:=[(127,nH),(128,rm),(130,FH)]
abbrev fY:List (Ty×Bool):=[(K9,true)]
def BR (c:D32):=Ev acp F ab f129 gL 0 .cur fY gL 2 (c,())
def aqo (c:D32):BR F c=(cG F0 c).bind fun a=>(mG F0 a.2.1).bind fun b=>(Ez F0 b.2.1).bind fun d=>some (((a.1.1,b.1.1,d.1.1),()),d.2.1,()):=by kernel_rfl
def JC:Any:=.two ⟨gL,0,.cur,fY,2,gL,fun x=>BR F0 x.1⟩
def YN:ba 129 JC:=UC acp ⟨yn,FF,UT,trivial⟩ func129 ab (by kernel_rfl)
def acq:=[(126,iX),(127,nH),(128,rm),(129,JC),(130,FH)]
abbrev Sf:List (Ty×Bool):=[(K1,true),(.sl 5 (.int .u8),false)]
abbrev aBe:List (Ty×Bool):=[(K21,true),(.bool,false)]
def JD (c:D1)(b:List Int):=bn acq F ab f67 Sf aBe 2 (c,b,())
def aqp (c:D1)(b:List Int):JD F c b=(cG F0 (b,0,true)).bind fun a=>br (a.1.1==1) ((mG F0 a.2.1).bind fun i=>(BR F0 i.2.1).bind fun e=>br (!e.2.1.2.2) (some ((0,0,(ak,0,ak,[]),(0,ak,[]),(0,ak,[]),0,0,0,0,0),false,())) (br (e.2.1.2.1 != (b.length:Int)) (some ((0,0,(ak,0,ak,[]),(0,ak,[]),(0,ak,[]),0,0,0,0,0),false,())) ((e4 F0 c (a.1.1,0,(i.1.1,e.1.1),(0,ak,[]),(0,ak,[]),0,0,0,0,0)).bind fun d=>br (!d.1) (some ((0,0,(ak,0,ak,[]),(0,ak,[]),(0,ak,[]),0,0,0,0,0),false,())) (some ((a.1.1,0,(i.1.1,e.1.1),(0,ak,[]),(0,ak,[]),0,0,0,0,0),true,()))))) (br (a.1.1==2) ((cG F0 a.2.1).bind fun j=>(mG F0 j.2.1).bind fun k=>(Ez F0 k.2.1).bind fun f=>br (!f.2.1.2.2) (some ((0,0,(ak,0,ak,[]),(0,ak,[]),(0,ak,[]),0,0,0,0,0),false,())) (br (f.2.1.2.1 != (b.length:Int)) (some ((0,0,(ak,0,ak,[]),(0,ak,[]),(0,ak,[]),0,0,0,0,0),false,())) ((e4 F0 c (a.1.1,0,(ak,0,ak,[]),(j.1.1,k.1.1,f.1.1),(0,ak,[]),0,0,0,0,0)).bind fun d=>br (!d.1) (some ((0,0,(ak,0,ak,[]),(0,ak,[]),(0,ak,[]),0,0,0,0,0),false,())) (some ((a.1.1,0,(ak,0,ak,[]),(j.1.1,k.1.1,f.1.1),(0,ak,[]),0,0,0,0,0),true,()))))) (br (a.1.1==3) ((cG F0 a.2.1).bind fun l=>(cG F0 l.2.1).bind fun m=>(BR F0 m.2.1).bind fun g=>br (!g.2.1.2.2) (some ((0,0,(ak,0,ak,[]),(0,ak,[]),(0,ak,[]),0,0,0,0,0),false,())) (br (g.2.1.2.1 != (b.length:Int)) (some ((0,0,(ak,0,ak,[]),(0,ak,[]),(0,ak,[]),0,0,0,0,0),false,())) ((e4 F0 c (a.1.1,l.1.1,(ak,0,ak,[]),(0,ak,[]),g.1.1,m.1.1,0,0,0,0)).bind fun d=>br (!d.1) (some ((0,0,(ak,0,ak,[]),(0,ak,[]),(0,ak,[]),0,0,0,0,0),false,())) (some ((a.1.1,l.1.1,(ak,0,ak,[]),(0,ak,[]),g.1.1,m.1.1,0,0,0,0),true,()))))) (br (a.1.1==4) ((cG F0 a.2.1).bind fun o=>(cG F0 o.2.1).bind fun p=>(cG F0 p.2.1).bind fun q=>(cG F0 q.2.1).bind fun h=>br (!h.2.1.2.2) (some ((0,0,(ak,0,ak,[]),(0,ak,[]),(0,ak,[]),0,0,0,0,0),false,())) (br (h.2.1.2.1 != (b.length:Int)) (some ((0,0,(ak,0,ak,[]),(0,ak,[]),(0,ak,[]),0,0,0,0,0),false,())) ((e4 F0 c (a.1.1,0,(ak,0,ak,[]),(0,ak,[]),(0,ak,[]),0,o.1.1,p.1.1,q.1.1,h.1.1)).bind fun d=>br (!d.1) (some ((0,0,(ak,0,ak,[]),(0,ak,[]),(0,ak,[]),0,0,0,0,0),false,())) (some ((a.1.1,0,(ak,0,ak,[]),(0,ak,[]),(0,ak,[]),0,o.1.1,p.1.1,q.1.1,h.1.1),true,()))))) (br (!a.2.1.2.2) (some ((0,0,(ak,0,ak,[]),(0,ak,[]),(0,ak,[]),0,0,0,0,0),false,())) (br (a.2.1.2.1 != (b.length:Int)) (some ((0,0,(ak,0,ak,[]),(0,ak,[]),(0,ak,[]),0,0,0,0,0),false,())) ((e4 F0 c (a.1.1,0,(ak,0,ak,[]),(0,ak,[]),(0,ak,[]),0,0,0,0,0)).bind fun d=>br (!d.1) (some ((0,0,(ak,0,ak,[]),(0,ak,[]),(0,ak,[]),0,0,0,0,0),false,())) (some ((a.1.1,0,(ak,0,ak,[]),(0,ak,[]),(0,ak,[]),0,0,0,0,0),true,())))))))):=by kernel_rfl
def JE:Any:=.one ⟨Sf,aBe,2,fun x=>JD F0 x.1 x.2.1⟩
def YO:ba 67 JE:=aw acq ⟨n8,yn,FF,YN,UT,trivial⟩ func67 ab (by kernel_rfl)
def gw:=[(29,cw),(63,b6),(64,cp),(65,yc),(66,Se),(67,JE),(68,eB),(69,da)]
def gx:Nat->Option Hint:=look [(4,{live:=[1,3],xl:=[1],rl:=[2]}),(9,{live:=[1,4],xl:=[1],rl:=[2]}),(15,{live:=[1,7],rl:=[2]})]
def lq (i w a:Int)(b:List Int)(c:List bb)(d:List b0)(e:List bS):= di 147 [b9 1,(7,bq i)] [(1,[an w,an a,.ro false 3 (.int .i64) b,.ro false 50 (cl) c,.ro false 102 (eI) d,.ro false 95 (cZ) e])] []
def rq (a:Bool):= b3 147 [(2,NR a)]
def LH   := b3 147 []
def pI (a:St):Option U:=fy gw F gx [.r,.r,.r,.r,.l,.r,.b,.i] f31 J n a
def lr:=ig gw F gx [.r,.r,.r,.r,.l,.r,.b] f31 aT 1
def lv (i w a:Int)(b:List Int)(c:List bb)(d:List b0)(e:List bS):= di 147 [b9 1,(4,bq i)] [(1,[an w,an a,.ro false 3 (.int .i64) b,.ro false 50 (cl) c,.ro false 102 (eI) d,.ro false 95 (cZ) e])] []
def BS (a:Bool):= b3 147 [(2,NR a)]
def LI (w a:Int)(b:List Int)(c:List bb)(d:List b0)(e:List bS):= di 147 [b9 1] [(1,[an w,an a,.ro false 3 (.int .i64) b,.ro false 50 (cl) c,.ro false 102 (eI) d,.ro false 95 (cZ) e])] []
def pJ (a:St):Option U:=fy gw F gx [.r,.r,.r,.l,.r,.b,.i] f31 J n a
def lx:=ig gw F gx [.r,.r,.r,.l,.r,.b] f31 aT 1
def ly (i w a:Int)(b:List Int)(c:List bb)(d:List b0)(e:List bS):= di 147 [b9 1,(3,bq i)] [(1,[an w,an a,.ro false 3 (.int .i64) b,.ro false 50 (cl) c,.ro false 102 (eI) d,.ro false 95 (cZ) e])] []
def BU (a:Bool):= b3 147 [(2,NR a)]
def LJ (w a:Int)(b:List Int)(c:List bb)(d:List b0)(e:List bS):= di 147 [b9 1] [(1,[an w,an a,.ro false 3 (.int .i64) b,.ro false 50 (cl) c,.ro false 102 (eI) d,.ro false 95 (cZ) e])] []
def pK (a:St):Option U:=fy gw F gx [.r,.r,.l,.r,.b,.i] f31 J n a
def lz:=ig gw F gx [.r,.r,.l,.r,.b] f31 aT 1
def Gm (i w b:Int)(c:List Int)(d:List bb)(e:List b0)(a:List bS):pI F J (n+1) (lq i w b c d e a)=br (decide (i<(a.length:Int))) (ck (bO i (a.length:Int)) ((bL F0 (aN a i cZ.aC).2.2 0 (aj (w-1))).bind fun f=>br (!f.1) (J .ret (rq false)) ((eJ F0 (aN a i cZ.aC).2.1).bind fun g=>br (!g.1) (J .ret (rq false)) ((dk F0 (aN a i cZ.aC).2.1).bind fun h=>br (h.1 != (aN a i cZ.aC).1) (J .ret (rq false)) (pI F J n (lq (aj (i+1)) w b c d e a)))))) (J (.exit 4) (LH)):=by kernel_rfl
def Gn (i w b:Int)(c:List Int)(d:List bb)(a:List b0)(e:List bS):pJ F J (n+1) (lv i w b c d a e)=br (decide (i<(a.length:Int))) (ck (bO i (a.length:Int)) ((JD F0 (w,b) (aN a i (0,[])).2).bind fun f=>br (!f.2.1) (J .ret (BS false)) (ck (bO i (a.length:Int)) ((bL F0 (aN a i (0,[])).1 0 (aj (w-1))).bind fun g=>br (!g.1) (J .ret (BS false)) (pJ F J n (lv (aj (i+1)) w b c d a e)))))) (J (.exit 2) (LI w b c d a e)):=by kernel_rfl
def Gp (i w b:Int)(c:List Int)(a:List bb)(d:List b0)(e:List bS):pK F J (n+1) (ly i w b c a d e)=br (decide (i<(a.length:Int))) (ck (bO i (a.length:Int)) (br ((aN a i cl.aC).1 != i) (J .ret (BU false)) (ck (bO i (a.length:Int)) ((dp F0 (w,b) (aN a i cl.aC)).bind fun f=>br (!f.1) (J .ret (BU false)) (pK F J n (ly (aj (i+1)) w b c a d e)))))) (J (.exit 0) (LJ w b c a d e)):=by kernel_rfl
def acr (a:Bool):lr F .ret (rq a)=some (a,()):=by kernel_rfl
def aap: lr F (.exit 4) (LH)=some (true,()):=by kernel_rfl
def acs (a:Bool):lx F .ret (BS a)=some (a,()):=by kernel_rfl
def aaq (w a:Int)(b:List Int)(c:List bb)(d:List b0)(e:List bS):lx F (.exit 2) (LI w a b c d e)=pI F (lr F) F.n (lq 0 w a b c d e):=by kernel_rfl
def acu (a:Bool):lz F .ret (BU a)=some (a,()):=by kernel_rfl
def aar (w a:Int)(b:List Int)(c:List bb)(d:List b0)(e:List bS):lz F (.exit 0) (LJ w a b c d e)=pJ F (lx F) F.n (lv 0 w a b c d e):=by kernel_rfl
abbrev eU:List (Ty×Bool):=[(gZ,true)]
def yo (w:nz):=bn gw F gx f31 eU aT 1 (w,())
def ajf (w:nz):yo F w=(dB F0 w.1).bind fun a=>br (!a.1) (some (false,())) ((BM F0 w.1.1 w.2.1).bind fun b=>br (!b.1) (some (false,())) ((LG F0 w.1).bind fun c=>br (decide ((w.2.1.length:Int)>c.1)) (some (false,())) (br ((w.2.2.1.length:Int) != w.1.1) (some (false,())) (br (decide ((w.2.2.2.1.length:Int)>60)) (some (false,())) (br (decide ((w.2.2.2.2.length:Int)>300)) (some (false,())) (pK F (lz F) F.n (ly 0 w.1.1 w.1.2 w.2.1 w.2.2.1 w.2.2.2.1 w.2.2.2.2))))))):=by kernel_rfl
def ON:Any:=.one ⟨eU,aT,1,fun x=>yo F0 x.1⟩
def ajg:ba 31 ON:=aw gw ⟨c9,cA,cP,NS,amv,YO,gu,eo,trivial⟩ func31 gx (by kernel_rfl)
def ub:=[(29,cw),(30,Sc),(31,ON)]
def uc:Nat->Option Hint:=look [(3,{live:=[2,4,6,7],Bg:=[(4,2,3,.int .i64),(4,3,50,cl),(4,4,102,eI),(4,5,95,cZ),(6,3,50,cl),(6,4,102,eI),(6,5,95,cZ)],xl:=[4,6],rl:=[4,5]})]
def oK (i c a l m w b:Int)(o:List Int)(d:List bb)(e:List b0)(f:List bS)(g:List Int)(h:List bb)(j:List b0)(k:List bS):= di 42 [b9 2,b9 4,b9 6,(7,bq i)] [(2,[an c,an a]),(4,[an l,an m,.own 1000000 none,.own 1000001 none,.own 1000002 none,.own 1000003 none]),(6,[an w,an b,.own 1000004 none,.own 1000005 none,.own 1000006 none,.own 1000007 none])] [ay 1000000 3 (.int .i64) o,ay 1000001 50 cl d,ay 1000002 102 eI e,ay 1000003 95 cZ f,ay 1000004 3 (.int .i64) g,ay 1000005 50 cl h,ay 1000006 102 eI j,ay 1000007 95 cZ k]
def vC (i j w a:Int)(k:List Int)(b:List bb)(c:List b0)(d:List bS)(e:List Int)(f:List bb)(g:List b0)(h:List bS):= di 42 [b9 4,b9 6] [(4,[an i,an j,.own 1000000 none,.own 1000001 none,.own 1000002 none,.own 1000003 none]),(6,[an w,an a,.own 1000004 none,.own 1000005 none,.own 1000006 none,.own 1000007 none])] [ay 1000000 3 (.int .i64) k,ay 1000001 50 cl b,ay 1000002 102 eI c,ay 1000003 95 cZ d,ay 1000004 3 (.int .i64) e,ay 1000005 50 cl f,ay 1000006 102 eI g,ay 1000007 95 cZ h]
def ud (a:St):Option U:=fy ub F uc [.r,.r,.l,.r,.b,.i] f8 J n a
abbrev arU:List (Ty×Bool):=[(gZ,true),(.bool,false)]
def yp:=ig ub F uc [.r,.r,.l,.r,.b] f8 arU 2
def EA (i c b l m w d:Int)(o:List Int)(e:List bb)(f:List b0)(g:List bS)(h:List Int)(a:List bb)(j:List b0)(k:List bS):ud F J (n+1) (oK i c b l m w d o e f g h a j k)=br (decide (i<c)) ((dB F0 (c,b)).bind fun q=>br q.1 ((LF F0 (c,b) i).bind fun p=>ck (eA F a.length [p.1].length 208) (ud F J n (oK (aj (i+1)) c b l m w d o e f g h (a++[p.1]) j k))) (J (.exit 0) (vC l m w d o e f g h a j k))) (J (.exit 0) (vC l m w d o e f g h a j k)):=by kernel_rfl
def XK (j k w a:Int)(l:List Int)(f:List bb)(g:List b0)(h:List bS)(b:List Int)(c:List bb)(d:List b0)(e:List bS):yp F (.exit 0) (vC j k w a l f g h b c d e)=(yo F0 ((w,a),b,c,d,e)).bind fun i=>br (!i.1) (some (((0,0),[],[],[],[]),false,())) (some (((w,a),b,c,d,e),true,())):=by kernel_rfl
abbrev aBf:List (Ty×Bool):=[(K1,true),(.sl 3 (.int .i64),false)]
def kM (c:D1)(liars:List Int):=bn ub F uc f8 aBf arU 2 (c,liars,())
def afd (c:D1)(liars:List Int):kM F c liars=ck (eA F 0 liars.length 8) (ud F (yp F) F.n (oK 0 c.1 c.2 0 0 c.1 c.2 [] [] [] [] ([]++liars) [] [] [])):=by kernel_rfl
def yq:Any:=.one ⟨aBf,arU,2,fun x=>kM F0 x.1 x.2.1⟩
def OO:ba 8 yq:=aw ub ⟨c9,amt,ajg,trivial⟩ func8 uc (by kernel_rfl)
def Gq:=[(8,yq),(21,dU),(49,mD),(50,nC)]
def oL (c:D2):=Ev Gq F ab f19 iU 0 .cur eU iU 2 (c,())
def UU (c:D2):oL F c=(iV F0 c [4,4,4,5,7]).bind fun a=>(au F0 a.2.1 3).bind fun b=>(mn F0 b.2.1 3).bind fun d=>br (!d.1.1) ((au F0 d.2.1 a.1.1).bind fun f=>(kM F0 (a.1.1,aj (1+b.1.1)) [f.1.1]).bind fun e=>some ((e.1,()),f.2.1,())) ((kM F0 (a.1.1,aj (1+b.1.1)) []).bind fun e=>some ((e.1,()),d.2.1,())):=by kernel_rfl
def Bk:Any:=.two ⟨iU,0,.cur,eU,2,iU,fun x=>oL F0 x.1⟩
def UW:ba 19 Bk:=UC Gq ⟨OO,fs,x1,x2,trivial⟩ func19 ab (by kernel_rfl)
def iC (q:D9):=bn aB F ab f113 fY fY 2 (q,())
def amz (q:D9):iC F q=ck (eA F 0 q.2.2.length 8) (some ((q.1,q.2.1,[]++q.2.2),())):=by kernel_rfl
def ho:Any:=.one ⟨fY,fY,2,fun x=>iC F0 x.1⟩
def lA:ba 113 ho:=aw aB trivial func113 ab (by kernel_rfl)
def UX:=[(113,ho)]
abbrev Bl:List (Ty×Bool):=[(K12,true)]
def mH (s:TN):=bn UX F ab f98 Bl Bl 2 (s,())
def ajh (s:TN):mH F s=(iC F0 s.2.2.1).bind fun a=>some ((s.1,s.2.1,a.1,s.2.2.2),()):=by kernel_rfl
def lB:Any:=.one ⟨Bl,Bl,2,fun x=>mH F0 x.1⟩
def ue:ba 98 lB:=aw UX ⟨lA,trivial⟩ func98 ab (by kernel_rfl)
def gf (p:D9):=bn aB F ab f175 fY fY 2 (p,())
def aji (p:D9):gf F p=ck (eA F 0 p.2.2.length 8) (some ((p.1,p.2.1,[]++p.2.2),())):=by kernel_rfl
def iJ:Any:=.one ⟨fY,fY,2,fun x=>gf F0 x.1⟩
def nI:ba 175 iJ:=aw aB trivial func175 ab (by kernel_rfl)
def uf:=[(175,iJ)]
def ug:Nat->Option Hint:=look [(3,{live:=[0,3,4],xl:=[3],rl:=[2]})]
def oM (a:List D9)(i:Int)(b:List D9):= di 21 [(0,ih 61 (K9) a),(3,.v (.c (.own 1000000 none))),(4,bq i)] [] [ay 1000000 61 K9 b]
def JF (a:List D9):= di 21 [(3,.v (.c (.own 1000000 none)))] [] [ay 1000000 61 K9 a]
def uh (a:St):Option U:=fy uf F ug [.r,.r,.l,.r,.b,.i] f99 J n a
abbrev Gr:List (Ty×Bool):=[(K13,false)]
def yr:=ig uf F ug [.r,.r,.l,.r,.b] f99 Gr 2
def EB (a:List D9)(i:Int)(b:List D9):uh F J (n+1) (oM a i b)=br (decide (i<(a.length:Int))) (ck (bO i (a.length:Int)) ((gf F0 (aN a i K9.aC)).bind fun c=>ck (eA F b.length [c.1].length 48) (uh F J n (oM a (aj (i+1)) (b++[c.1]))))) (J (.exit 0) (JF b)):=by kernel_rfl
def XL (a:List D9):yr F (.exit 0) (JF a)=some (a,()):=by kernel_rfl
def gh (a:D13):=bn uf F ug f99 Gr Gr 2 (a,())
def afe (a:D13):gh F a=uh F (yr F) F.n (oM a 0 []):=by kernel_rfl
def yt:Any:=.one ⟨Gr,Gr,2,fun x=>gh F0 x.1⟩
def OP:ba 99 yt:=aw uf ⟨nI,trivial⟩ func99 ug (by kernel_rfl)
def ij (d:D14):=bn aB F ab f100 oJ oJ 2 (d,())
def ajj (d:D14):ij F d=ck (eA F 0 d.1.length 1) (some (([]++d.1,d.2),())):=by kernel_rfl
def lC:Any:=.one ⟨oJ,oJ,2,fun x=>ij F0 x.1⟩
def ui:ba 100 lC:=aw aB trivial func100 ab (by kernel_rfl)
def YP:=[(113,ho)]
abbrev ahJ:List (Ty×Bool):=[(K15,true)]
def LK (b:D15):=bn YP F ab f233 ahJ ahJ 2 (b,())
def amA (b:D15):LK F b=(iC F0 b.2).bind fun a=>some ((b.1,a.1),()):=by kernel_rfl
def Sg:Any:=.one ⟨ahJ,ahJ,2,fun x=>LK F0 x.1⟩
def amB:ba 233 Sg:=aw YP ⟨lA,trivial⟩ func233 ab (by kernel_rfl)
def UY:=[(113,ho),(175,iJ),(233,Sg)]
def yu (m:NQ):=bn UY F ab f176 wB wB 2 (m,())
def ajk (m:NQ):yu F m=(LK F0 m.2.2.1).bind fun a=>(gf F0 m.2.2.2.1).bind fun b=>(iC F0 m.2.2.2.2.1).bind fun c=>some ((m.1,m.2.1,a.1,b.1,c.1,m.2.2.2.2.2),()):=by kernel_rfl
def BV:Any:=.one ⟨wB,wB,2,fun x=>yu F0 x.1⟩
def Sh:ba 176 BV:=aw UY ⟨lA,nI,amB,trivial⟩ func176 ab (by kernel_rfl)
def uj:=[(176,BV)]
def uk:Nat->Option Hint:=look [(3,{live:=[0,3,4],xl:=[3],rl:=[2]})]
def oN (a:List kI)(i:Int)(b:List kI):= di 28 [(0,ih 119 (px) a),(3,.v (.c (.own 1000000 none))),(4,bq i)] [] [ay 1000000 119 px b]
def JG (a:List kI):= di 28 [(3,.v (.c (.own 1000000 none)))] [] [ay 1000000 119 px a]
def um (a:St):Option U:=fy uj F uk [.r,.r,.l,.r,.b,.i] f101 J n a
abbrev YQ:List (Ty×Bool):=[(K23,false)]
def yv:=ig uj F uk [.r,.r,.l,.r,.b] f101 YQ 2
def EC (a:List kI)(i:Int)(b:List kI):um F J (n+1) (oN a i b)=br (decide (i<(a.length:Int))) (ck (bO i (a.length:Int)) (ck (bO i (a.length:Int)) ((yu F0 (aN a i px.aC).2).bind fun c=>ck (eA F b.length [((aN a i px.aC).1,c.1)].length 224) (um F J n (oN a (aj (i+1)) (b++[((aN a i px.aC).1,c.1)])))))) (J (.exit 0) (JG b)):=by kernel_rfl
def XM (a:List kI):yv F (.exit 0) (JG a)=some (a,()):=by kernel_rfl
def tf (a:D23):=bn uj F uk f101 YQ YQ 2 (a,())
def aff (a:D23):tf F a=um F (yv F) F.n (oN a 0 []):=by kernel_rfl
def yw:Any:=.one ⟨YQ,YQ,2,fun x=>tf F0 x.1⟩
def OQ:ba 101 yw:=aw uj ⟨Sh,trivial⟩ func101 uk (by kernel_rfl)
end
end Go.Am.Tryz
