/- No condition. -/
import Derived.Test.YtpkabclplaibaaaGreatDoorProg
import Derived.Test.YtpkabclplaibaaaGreatDoorQjYJS1
set_option linter.all false
set_option maxRecDepth 100000
namespace Go.Am.Tryz
open Go.Am Go.Proofs Go.Proofs.Tryz
abbrev K1:Ty:=.pair (.int .i64) (.int .i64)
abbrev D1:=Int×Int
abbrev K2:Ty:=.pair (.sl 5 (.int .u8)) (K1)
abbrev D2:=List Int×D1
abbrev K3:Ty:=.pair (.int .i64) (K1)
abbrev D3:=Int×D1
abbrev K4:Ty:=.pair (.int .i64) (K3)
abbrev D4:=Int×D3
abbrev K5:Ty:=.sl 99 (K4)
abbrev D5:=List D4
abbrev K6:Ty:=.pair (.int .i64) (K5)
abbrev D6:=Int×D5
abbrev K7:Ty:=.sl 163 (K6)
abbrev K8:Ty:=.pair (.str) (.sl 3 (.int .i64))
abbrev D8:=ByteArray×List Int
abbrev K9:Ty:=.pair (.int .i64) (K8)
abbrev D9:=Int×D8
abbrev K10:Ty:=.pair (.sl 3 (.int .i64)) (.sl 3 (.int .i64))
abbrev D10:=List Int×List Int
abbrev K11:Ty:=.pair (K9) (.str)
abbrev D11:=D9×ByteArray
abbrev K12:Ty:=.pair (.int .i64) (K11)
abbrev D12:=Int×D11
abbrev K13:Ty:=.pair (.int .i64) (K12)
abbrev D13:=Int×D12
abbrev K14:Ty:=.sl 29 (K9)
abbrev D14:=List D9
abbrev K15:Ty:=.pair (.sl 5 (.int .u8)) (.int .i64)
abbrev D15:=List Int×Int
abbrev K16:Ty:=.pair (.str) (K9)
abbrev D16:=ByteArray×D9
abbrev K17:Ty:=.pair (.int .i64) (K4)
abbrev D17:=Int×D4
abbrev K18:Ty:=.pair (K9) (K17)
abbrev D18:=D9×D17
abbrev K19:Ty:=.pair (K9) (K18)
abbrev D19:=D9×D18
abbrev K20:Ty:=.pair (K16) (K19)
abbrev D20:=D16×D19
abbrev K21:Ty:=.pair (.int .i64) (K20)
abbrev D21:=Int×D20
abbrev K22:Ty:=.pair (.int .i64) (K21)
abbrev Zq:=Int×D21
abbrev RT:Ty:=.pair (.int .i64) (K22)
abbrev Rh:=Int×Zq
abbrev K24:Ty:=.sl 125 (RT)
abbrev D24:=List Rh
abbrev K25:Ty:=.pair (K15) (K24)
abbrev D25:=D15×D24
abbrev K26:Ty:=.pair (K14) (K25)
abbrev D26:=D14×D25
abbrev K27:Ty:=.pair (K5) (K26)
abbrev D27:=D5×D26
abbrev K28:Ty:=.pair (K13) (K27)
abbrev D28:=D13×D27
abbrev K29:Ty:=.pair (.int .i64) (K28)
abbrev D29:=Int×D28
abbrev K30:Ty:=.pair (.int .i64) (K29)
abbrev D30:=Int×D29
abbrev cC:Ty:=.pair (.int .i64) (K30)
abbrev bL:=Int×D30
abbrev K32:Ty:=.pair (.int .i64) (.bool)
abbrev D32:=Int×Bool
abbrev K33:Ty:=.pair (.sl 5 (.int .u8)) (K32)
abbrev D33:=List Int×D32
abbrev K34:Ty:=.sl 42 (cC)
abbrev D34:=List bL
abbrev iT:Ty:=.pair (.int .i64) (.sl 5 (.int .u8))
abbrev cI:=Int×List Int
abbrev K36:Ty:=.sl 95 (iT)
abbrev D36:=List cI
abbrev K37:Ty:=.pair (.str) (.int .i64)
abbrev D37:=ByteArray×Int
abbrev dC:Ty:=.pair (.int .i64) (K37)
abbrev b3:=Int×D37
abbrev K39:Ty:=.sl 91 (dC)
abbrev D39:=List b3
abbrev K40:Ty:=.pair (K36) (K39)
abbrev D40:=D36×D39
abbrev K41:Ty:=.pair (K34) (K40)
abbrev D41:=D34×D40
abbrev K42:Ty:=.pair (.sl 3 (.int .i64)) (K41)
abbrev D42:=List Int×D41
abbrev gN:Ty:=.pair (K1) (K42)
abbrev iU:=D1×D42
abbrev K44:Ty:=.pair (.int .i64) (RT)
abbrev D44:=Int×Rh
abbrev K45:Ty:=.pair (.int .i64) (K44)
abbrev D45:=Int×D44
abbrev K46:Ty:=.sl 27 (K9)
def ab:Nat->Option Hint:=look []
def ax:List (Nat×Any):=[]
noncomputable section
variable {U:Type} (C:List (Nat×Any)) (F:nP) (H:Nat->Option Hint)
abbrev a8 (f:Nat)(c:Any):Prop:=EY Tryz.prog TB f c
def bM (b:Func)(a c:List (Ty×Bool))(m:Nat)(x:Args a):=aBW Tryz.prog (look C) F H b a c m x
def fR (c:Func)(a:List (Ty×Bool))(i:Nat)(d:PM)(e b:List (Ty×Bool))(m:Nat)(x:Args a):=auT Tryz.prog (look C) F H c a i d e b m x
def eo (p:List At)(a:Func)(J:Ex->St->Option U)(n:Nat)(b:St):Option U:=lp Tryz.prog (look C) F H (sub p (cr a)) J n b
def jx (p:List At)(a:Func)(b:List (Ty×Bool))(m:Nat):=JG Tryz.prog (look C) F H p (cr a) (Rw Tryz.prog a b m)
def L7 (p:List At)(a:Func)(c:PM)(d b:List (Ty×Bool))(m:Nat):=JG Tryz.prog (look C) F H p (cr a) (aBY Tryz.prog a c d b m)
def ei (n:Nat)(t:List (Nat×AV))(b:List (Nat×List AC))(l:List (Nat×Option eC)):St:={nt:=n,tm:=t,bx:=b,bl:=l}
def bk (n:Nat)(t:List (Nat×AV)):St:={nt:=n,tm:=t,bx:=[],bl:=[]}
def a7 (t:Int):AV:=.v (.c (.int .i64 t))
def ar (t:Int):AC:=.int .i64 t
def cl (d:Nat):Nat×AV:=(d,.v (.c (.ptr d 0)))
abbrev ai:ByteArray:=ByteArray.mk #[]
def aP (i:Nat)(e:TypeId)(t:Ty)(x:List t.D):Nat×Option eC:=(i,some ⟨e,t,x,true,true⟩)
def vE (b:Bool):AV:=.v (.c (.bool b))
def XD (b:ByteArray):AV:=.v (.c (.str b))
def mU (e:Nat)(t:Ty)(x:List t.D):AV:=.v (.c (.ro false e t x))
def aG {f : FuncId} {a : Func} (l : List (Nat × Any)) (e : vD Tryz.prog TB l) (h : Tryz.prog.funcs[f]? = some a) (H : Nat → Option Hint) {b d : List (Ty × Bool)} {m : Nat} {g : Args b → Option (Args d)} (c : (a.name == "runtime.NumGoroutine" || a.body.isNone, fun x => bM l F0 H a b d m x) = (false, g)) : a8 f (.one ⟨b, d, m, g⟩) :=
 ok1 e h (Ps.1 (Mq c).1).1 (Ps.1 (Mq c).1).2 H (Mq c).2
def atc {f : FuncId} {a : Func} (l : List (Nat × Any)) (h : vD Tryz.prog TB l) (j : Tryz.prog.funcs[f]? = some a) (H : Nat → Option Hint) {b d : List (Ty × Bool)} {i m : Nat} {e : PM} {g : Args b → Option (Args d × Args [])} (c : (a.name == "runtime.NumGoroutine" || a.body.isNone, fun x => fR l F0 H a b i e d [] m x) = (false, g)) : a8 f (.two ⟨b, i, e, d, m, [], g⟩) :=
 ok2 h j (Ps.1 (Mq c).1).1 (Ps.1 (Mq c).1).2 H (Mq c).2
def jy {f : FuncId} {c : Func} (l : List (Nat × Any)) (h : vD Tryz.prog TB l) (j : Tryz.prog.funcs[f]? = some c) (H : Nat → Option Hint) {a d : List (Ty × Bool)} {i m : Nat} {e : PM} {p : Ty × Bool} {g : Args a → Option (Args d × Args [p])} (b : (kb a i, c.name == "runtime.NumGoroutine" || c.body.isNone, fun x => fR l F0 H c a i e d [p] m x) = (some p, false, g)) : a8 f (.two ⟨a, i, e, d, m, [p], g⟩) :=
 ok3 h j (Ps.1 (Mq (Mq b).2).1).1 (Ps.1 (Mq (Mq b).2).1).2 H (Mq b).1 (Mq (Mq b).2).2
end
noncomputable section
variable {U:Type} (F:nP) (J:Ex->St->Option U) (n:Nat)
abbrev aI:List (Ty×Bool):=[(.bool,false)]
abbrev uv:List (Ty×Bool):=[(.sl 5 (.int .u8),false)]
def ahw (a:List Int):=bM ax F ab f6 uv aI 1 (a,())
def aqq (a:List Int):ahw F a=some (decide ((a.length:Int)>1048576),()):=by kernel_rfl
def Zr:Any:=.one ⟨uv,aI,1,fun x=>ahw F0 x.1⟩
def aqr:a8 6 Zr:=aG ax trivial func6 ab (by kernel_rfl)
def F8:Nat->Option Hint:=look [(3,{live:=[0,3,4],xl:=[0,3],rl:=[2]})]
def vF (a:List Int)(h i:Int)(p:List Int):St:={nt:=32,tm:=[(0,mU 5 (.int .u8) a),(3,a7 h),(4,a7 i)],bx:=[],bl:=[],sp:=mU 5 (.int .u8) p}
def Ei (a:List Int)(h:Int)(p:List Int):St:={nt:=32,tm:=[(0,mU 5 (.int .u8) a),(3,a7 h)],bx:=[],bl:=[],sp:=mU 5 (.int .u8) p}
def F9 (a:St):Option U:=eo ax F F8 [.r,.r,.l,.r,.b,.i] f59 J n a
abbrev bn:List (Ty×Bool):=[(K2,true)]
def HS:=L7 ax F F8 [.r,.r,.l,.r,.b] f59 .rd bn [] 5
def JT (a:List Int)(h i:Int)(p:List Int):F9 F J (n+1) (vF a h i p)=br (decide (i<(a.length:Int))) (br (decide (i<4000)) (ck (bh i (a.length:Int)) (F9 F J n (vF a (ak (((BitVec.ofInt 64 (ak ((ak ((ak (h*131))+(ak (aJ a i 0))))+7)) &&& BitVec.ofInt 64 1073741823).toNat:Int))) (ak (i+1)) p))) (J (.exit 0) (Ei a h p))) (J (.exit 0) (Ei a h p)):=by kernel_rfl
def MD (a:List Int)(h:Int)(p:List Int):HS F (.exit 0) (Ei a h p)=some (((a,0,h),()),()):=by kernel_rfl
def HT (a:List Int):=fR ax F F8 f59 uv 0 .rd bn [] 5 (a,())
def akV (a:List Int):HT F a=F9 F (HS F) F.n (vF a (ak (26583+(a.length:Int))) 0 a):=by kernel_rfl
def RU:Any:=.two ⟨uv,0,.rd,bn,5,[],fun x=>HT F0 x.1⟩
def akW:a8 59 RU:=atc ax trivial func59 F8 (by kernel_rfl)
abbrev c8:List (Ty×Bool):=[(.int .i64,false)]
def jz (c:D2):=fR ax F ab f164 bn 0 .cur c8 bn 1 (c,())
def ahx (c:D2):jz F c=br (decide (c.2.1<(c.1.length:Int))) (ck (bh c.2.1 (c.1.length:Int)) (some ((ak (((BitVec.ofInt 64 (ak ((ak (((BitVec.ofInt 64 (ak (((BitVec.ofInt 64 (Int.fdiv (ak ((ak (c.2.2*6364136223846793005))+1442695040888963407)) (2 ^ (min (33:Int).toNat 64))) ^^^ BitVec.ofInt 64 (Int.fdiv (ak ((ak (c.2.2*6364136223846793005))+1442695040888963407)) (2 ^ (min (45:Int).toNat 64)))).toNat:Int))) &&& BitVec.ofInt 64 255).toNat:Int)))+(ak (aJ c.1 c.2.1 0)))) &&& BitVec.ofInt 64 255).toNat:Int)),()),(c.1,ak (c.2.1+1),ak ((ak (c.2.2*6364136223846793005))+1442695040888963407)),()))) (some ((ak (((BitVec.ofInt 64 (ak (((BitVec.ofInt 64 (Int.fdiv (ak ((ak (c.2.2*6364136223846793005))+1442695040888963407)) (2 ^ (min (33:Int).toNat 64))) ^^^ BitVec.ofInt 64 (Int.fdiv (ak ((ak (c.2.2*6364136223846793005))+1442695040888963407)) (2 ^ (min (45:Int).toNat 64)))).toNat:Int))) &&& BitVec.ofInt 64 255).toNat:Int)),()),(c.1,c.2.1,ak ((ak (c.2.2*6364136223846793005))+1442695040888963407)),())):=by kernel_rfl
def Pv:Any:=.two ⟨bn,0,.cur,c8,1,bn,fun x=>jz F0 x.1⟩
def ahy:a8 164 Pv:=jy ax trivial func164 ab (by kernel_rfl)
def RV:=[(164,Pv)]
abbrev amt:List (Ty×Bool):=[(K2,true),(.int .i64,false)]
def af (c:D2)(a:Int):=fR RV F ab f98 amt 0 .cur c8 bn 1 (c,a,())
def Ej (c:D2)(a:Int):af F c a=br (decide (a<=0)) (some ((0,()),c,())) (br (decide (a<=256)) ((jz F0 c).bind fun b=>ck (!(a==0)) (some ((Int.tmod b.1.1 a,()),b.2.1,()))) ((jz F0 c).bind fun d=>(jz F0 d.2.1).bind fun e=>(jz F0 e.2.1).bind fun f=>(jz F0 f.2.1).bind fun g=>ck (!(a==0)) (some ((Int.tmod (ak ((ak ((ak ((ak (d.1.1*16777216))+(ak (e.1.1*65536))))+(ak (f.1.1*256))))+g.1.1)) a,()),g.2.1,())))):=by kernel_rfl
def av:Any:=.two ⟨amt,0,.cur,c8,1,bn,fun x=>af F0 x.1 x.2.1⟩
def aA:a8 98 av:=jy RV ⟨ahy,trivial⟩ func98 ab (by kernel_rfl)
def BE:Nat->Option Hint:=look [(2,{live:=[0,1,5],rl:=[4]})]
def sJ (s:List Int)(i k:Int):= bk 18 [(0,mU 3 (.int .i64) s),(1,a7 i),(5,a7 k)]
def Pw (a:Bool):= bk 18 [(4,vE a)]
def ME   := bk 18 []
def BF (a:St):Option U:=eo ax F BE [.r,.l,.r,.b,.i] f83 J n a
def sK:=jx ax F BE [.r,.l,.r,.b] f83 aI 1
def HU (s:List Int)(i k:Int):BF F J (n+1) (sJ s i k)=br (decide (k<(s.length:Int))) (ck (bh k (s.length:Int)) (br ((aJ s k 0)==i) (J .ret (Pw true)) (BF F J n (sJ s i (ak (k+1)))))) (J (.exit 0) (ME)):=by kernel_rfl
def abH (a:Bool):sK F .ret (Pw a)=some (a,()):=by kernel_rfl
def Zs: sK F (.exit 0) (ME)=some (false,()):=by kernel_rfl
abbrev VQ:List (Ty×Bool):=[(.sl 3 (.int .i64),false),(.int .i64,false)]
def cv (s:List Int)(i:Int):=bM ax F BE f83 VQ aI 1 (s,i,())
def ahz (s:List Int)(i:Int):cv F s i=BF F (sK F) F.n (sJ s i 0):=by kernel_rfl
def b4:Any:=.one ⟨VQ,aI,1,fun x=>cv F0 x.1 x.2.1⟩
def cT:a8 83 b4:=aG ax trivial func83 BE (by kernel_rfl)
def BG:=[(83,b4)]
def BH:Nat->Option Hint:=look [(4,{live:=[0,1,5],xl:=[0,1,5],rl:=[4]})]
def sL (s:List Int)(i a:Int):= bk 41 [(0,mU 3 (.int .i64) s),(1,a7 i),(5,a7 a)]
def pO (s:List Int)(i a:Int):= bk 41 [(0,mU 3 (.int .i64) s),(1,a7 i),(5,a7 a)]
def BI (a:St):Option U:=eo BG F BH [.r,.r,.r,.l,.b,.i] f120 J n a
abbrev pP:List (Ty×Bool):=[(.sl 3 (.int .i64),false)]
def sM:=jx BG F BH [.r,.r,.r,.l,.b] f120 pP 2
def HV (s:List Int)(i a:Int):BI F J (n+1) (sL s i a)=br (decide (a<(s.length:Int))) (ck (bh a (s.length:Int)) (br (decide ((aJ s a 0)<i)) (BI F J n (sL s i (ak (a+1)))) (J (.exit 0) (pO s i a)))) (J (.exit 0) (pO s i a)):=by kernel_rfl
def Zt (s:List Int)(i a:Int):sM F (.exit 0) (pO s i a)=ck (Oy 0 a (s.length:Int)) (ck (fA F 0 ((s.take a.toNat).drop (0:Int).toNat).length 8) (ck (fA F ([]++((s.take a.toNat).drop (0:Int).toNat)).length [i].length 8) (ck (Oy a (s.length:Int) (s.length:Int)) (ck (fA F (([]++((s.take a.toNat).drop (0:Int).toNat))++[i]).length ((s.take (s.length:Int).toNat).drop a.toNat).length 8) (some ((([]++((s.take a.toNat).drop (0:Int).toNat))++[i])++((s.take (s.length:Int).toNat).drop a.toNat),())))))):=by kernel_rfl
def lQ (s:List Int)(i:Int):=bM BG F BH f120 VQ pP 2 (s,i,())
def ahA (s:List Int)(i:Int):lQ F s i=(cv F0 s i).bind fun a=>br a.1 (ck (fA F 0 s.length 8) (some ([]++s,()))) (BI F (sM F) F.n (sL s i 0)):=by kernel_rfl
def mV:Any:=.one ⟨VQ,pP,2,fun x=>lQ F0 x.1 x.2.1⟩
def vG:a8 120 mV:=aG BG ⟨cT,trivial⟩ func120 BH (by kernel_rfl)
def VR:=[(98,av)]
def dm (c:D2)(a:Int):=fR VR F ab f97 amt 0 .cur aI bn 1 (c,a,())
def ahB (c:D2)(a:Int):dm F c a=(af F0 c a).bind fun b=>some ((b.1.1==0,()),b.2.1,()):=by kernel_rfl
def cA:Any:=.two ⟨amt,0,.cur,aI,1,bn,fun x=>dm F0 x.1 x.2.1⟩
def dp:a8 97 cA:=jy VR ⟨aA,trivial⟩ func97 ab (by kernel_rfl)
def MF:=[(98,av)]
abbrev aBx:List (Ty×Bool):=[(K2,true),(.sl 3 (.int .i64),false)]
def aU (c:D2)(a:List Int):=fR MF F ab f121 aBx 0 .cur c8 bn 1 (c,a,())
def Zu (c:D2)(a:List Int):aU F c a=(af F0 c (a.length:Int)).bind fun b=>ck (bh b.1.1 (a.length:Int)) (some ((aJ a b.1.1 0,()),b.2.1,())):=by kernel_rfl
def bH:Any:=.two ⟨aBx,0,.cur,c8,1,bn,fun x=>aU F0 x.1 x.2.1⟩
def bU:a8 121 bH:=jy MF ⟨aA,trivial⟩ func121 ab (by kernel_rfl)
def pQ:=[(97,cA),(98,av),(120,mV),(121,bH)]
def pR:Nat->Option Hint:=look [(3,{live:=[0,1,5,6],xl:=[0,5],rl:=[4]})]
def l1 (a i:Int)(b:List Int)(c d:Int)(e:List Int):St:={nt:=28,tm:=[(0,.v (.c (.ptr 4000000 0))),(1,a7 a),(5,.v (.c (.own 1000000 none))),(6,a7 i)],bx:=[(4000000,[.ro true 5 (.int .u8) b,ar c,ar d])],bl:=[aP 1000000 3 (.int .i64) e],sp:=.v (.c (.ptr 4000000 0))}
def rU (a:List Int)(b c:Int)(d:List Int):St:={nt:=28,tm:=[(0,.v (.c (.ptr 4000000 0))),(5,.v (.c (.own 1000000 none)))],bx:=[(4000000,[.ro true 5 (.int .u8) a,ar b,ar c])],bl:=[aP 1000000 3 (.int .i64) d],sp:=.v (.c (.ptr 4000000 0))}
def pS (a:St):Option U:=eo pQ F pR [.r,.r,.l,.r,.b,.i] f58 J n a
def l2:=L7 pQ F pR [.r,.r,.l,.r,.b] f58 .cur pP bn 2
def y8 (c i:Int)(e:List Int)(f g:Int)(d:List Int):pS F J (n+1) (l1 c i e f g d)=(af F0 (e,f,g) 8).bind fun a=>br (decide (i<a.1.1)) ((af F0 a.2.1 c).bind fun b=>(lQ F0 d b.1.1).bind fun h=>pS F J n (l1 c (ak (i+1)) b.2.1.1 b.2.1.2.1 b.2.1.2.2 h.1)) (J (.exit 0) (rU a.2.1.1 a.2.1.2.1 a.2.1.2.2 d)):=by kernel_rfl
def RW (d:List Int)(e f:Int)(a:List Int):l2 F (.exit 0) (rU d e f a)=(dm F0 (d,e,f) 12).bind fun b=>br b.1.1 ((aU F0 b.2.1 [(-1),0,3,9]).bind fun c=>ck (fA F a.length [c.1.1].length 8) (some ((a++[c.1.1],()),c.2.1,()))) (some ((a,()),b.2.1,())):=by kernel_rfl
def kT (c:D2)(a:Int):=fR pQ F pR f58 amt 0 .cur pP bn 2 (c,a,())
def Zv (c:D2)(a:Int):kT F c a=pS F (l2 F) F.n (l1 a 0 c.1 c.2.1 c.2.2 []):=by kernel_rfl
def l3:Any:=.two ⟨amt,0,.cur,pP,2,bn,fun x=>kT F0 x.1 x.2.1⟩
def vH:a8 58 l3:=jy pQ ⟨dp,aA,vG,bU,trivial⟩ func58 pR (by kernel_rfl)
def JU:=[(98,av)]
abbrev EZ:List (Ty×Bool):=[(K1,true)]
def sN (c:D2):=fR JU F ab f61 bn 0 .cur EZ bn 1 (c,())
def XE (c:D2):sN F c=(af F0 c 4).bind fun a=>(af F0 a.2.1 3).bind fun b=>some (((ak (4+a.1.1),ak (1+b.1.1)),()),b.2.1,()):=by kernel_rfl
def E0:Any:=.two ⟨bn,0,.cur,EZ,1,bn,fun x=>sN F0 x.1⟩
def XF:a8 61 E0:=jy JU ⟨aA,trivial⟩ func61 ab (by kernel_rfl)
def HW:=[(98,av),(121,bH)]
abbrev Px:List (Ty×Bool):=[(K4,true)]
def cZ (c:D2):=fR HW F ab f186 bn 0 .cur Px bn 1 (c,())
def U0 (c:D2):cZ F c=(af F0 c 4).bind fun a=>(af F0 a.2.1 4).bind fun b=>(aU F0 b.2.1 [0,5,60,100,1000]).bind fun d=>(af F0 d.2.1 3).bind fun e=>some (((a.1.1,b.1.1,d.1.1,e.1.1),()),e.2.1,()):=by kernel_rfl
def cM:Any:=.two ⟨bn,0,.cur,Px,1,bn,fun x=>cZ F0 x.1⟩
def dI:a8 186 cM:=jy HW ⟨aA,bU,trivial⟩ func186 ab (by kernel_rfl)
abbrev avh:List (Ty×Bool):=[(.int .i64,false),(.int .i64,false),(.int .i64,false)]
def bD (x a b:Int):=bM ax F ab f117 avh aI 1 (x,a,b,())
def aok (x a b:Int):bD F x a b=br (decide (x>=a)) (some (decide (x<=b),())) (some (false,())):=by kernel_rfl
def bN:Any:=.one ⟨avh,aI,1,fun x=>bD F0 x.1 x.2.1 x.2.2.1⟩
def cb:a8 117 bN:=aG ax trivial func117 ab (by kernel_rfl)
def adU:=[(117,bN)]
def pT (x:D4):=bM adU F ab f252 Px aI 1 (x,())
def aol (x:D4):pT F x=(bD F0 x.1 0 3).bind fun a=>br a.1 ((bD F0 x.2.1 0 3).bind fun b=>br b.1 ((bD F0 x.2.2.1 0 1000).bind fun c=>br c.1 ((bD F0 x.2.2.2 0 99).bind fun d=>some (d.1,())) (some (false,()))) (some (false,()))) (some (false,())):=by kernel_rfl
def kf:Any:=.one ⟨Px,aI,1,fun x=>pT F0 x.1⟩
def pU:a8 252 kf:=aG adU ⟨cb,trivial⟩ func252 ab (by kernel_rfl)
def BJ:Nat->Option Hint:=look [(5,{live:=[0,3,4],xl:=[3,4],rl:=[2]})]
def mW (a:Int)(b:Bool)(c:ByteArray):= bk 31 [(0,a7 a),(3,vE b),(4,XD c)]
def MG (a:Bool)(b:ByteArray):= bk 31 [(3,vE a),(4,XD b)]
def r9 (a:St):Option U:=eo ax F BJ [.r,.r,.r,.r,.l,.b,.i] f68 J n a
abbrev dc:List (Ty×Bool):=[(.str,false)]
def Ek:=jx ax F BJ [.r,.r,.r,.r,.l,.b] f68 dc 1
def HX (a:Int)(c:Bool)(b:ByteArray):r9 F J (n+1) (mW a c b)=br (a != 0) (br (decide ((Int.tmod a 10)<0)) (ck (JH F (strOf [IntKind.wrap .u8 (ak (48+(ak (0-(Int.tmod a 10)))))]).size b.size) (r9 F J n (mW (ak (Int.tdiv a 10)) c ((strOf [IntKind.wrap .u8 (ak (48+(ak (0-(Int.tmod a 10)))))])++b)))) (ck (JH F (strOf [IntKind.wrap .u8 (ak (48+(Int.tmod a 10)))]).size b.size) (r9 F J n (mW (ak (Int.tdiv a 10)) c ((strOf [IntKind.wrap .u8 (ak (48+(Int.tmod a 10)))])++b))))) (J (.exit 0) (MG c b)):=by kernel_rfl
def Zw (b:Bool)(a:ByteArray):Ek F (.exit 0) (MG b a)=br b (ck (JH F (ByteArray.mk #[45]).size a.size) (some ((ByteArray.mk #[45])++a,()))) (some (a,())):=by kernel_rfl
def hK (a:Int):=bM ax F BJ f68 c8 dc 1 (a,())
def ahC (a:Int):hK F a=br (a==0) (some (ByteArray.mk #[48],())) (r9 F (Ek F) F.n (mW a (decide (a<0)) ai)):=by kernel_rfl
def mX:Any:=.one ⟨c8,dc,1,fun x=>hK F0 x.1⟩
def vI:a8 68 mX:=aG ax trivial func68 BJ (by kernel_rfl)
def VS:=[(68,mX),(252,kf)]
def uW (x:D4):=bM VS F ab f296 Px dc 1 (x,())
def ahD (x:D4):uW F x=(pT F0 x).bind fun e=>br (!e.1) (some (ai,())) ((hK F0 x.1).bind fun a=>ck (JH F a.1.size (ByteArray.mk #[62]).size) ((hK F0 x.2.1).bind fun b=>ck (JH F (a.1++(ByteArray.mk #[62])).size b.1.size) (ck (JH F ((a.1++(ByteArray.mk #[62]))++b.1).size (ByteArray.mk #[58]).size) ((hK F0 x.2.2.1).bind fun c=>ck (JH F (((a.1++(ByteArray.mk #[62]))++b.1)++(ByteArray.mk #[58])).size c.1.size) (ck (JH F ((((a.1++(ByteArray.mk #[62]))++b.1)++(ByteArray.mk #[58]))++c.1).size (ByteArray.mk #[35]).size) ((hK F0 x.2.2.2).bind fun d=>ck (JH F (((((a.1++(ByteArray.mk #[62]))++b.1)++(ByteArray.mk #[58]))++c.1)++(ByteArray.mk #[35])).size d.1.size) (some ((((((a.1++(ByteArray.mk #[62]))++b.1)++(ByteArray.mk #[58]))++c.1)++(ByteArray.mk #[35]))++d.1,())))))))):=by kernel_rfl
def El:Any:=.one ⟨Px,dc,1,fun x=>uW F0 x.1⟩
def RX:a8 296 El:=aG VS ⟨vI,pU,trivial⟩ func296 ab (by kernel_rfl)
def vJ:=[(252,kf),(296,El)]
def vK:Nat->Option Hint:=look [(3,{live:=[0,3,4],xl:=[3],rl:=[2]})]
def kU (a:List D4)(b:ByteArray)(i:Int):= bk 29 [(0,mU 99 (K4) a),(3,XD b),(4,a7 i)]
def MH (a:ByteArray):= bk 29 [(2,XD a)]
def JV (a:ByteArray):= bk 29 [(3,XD a)]
def oW (a:St):Option U:=eo vJ F vK [.r,.r,.l,.r,.b,.i] f259 J n a
def pV:=jx vJ F vK [.r,.r,.l,.r,.b] f259 dc 1
def E1 (a:List D4)(b:ByteArray)(i:Int):oW F J (n+1) (kU a b i)=br (decide (i<(a.length:Int))) (ck (bh i (a.length:Int)) ((pT F0 (aJ a i K4.aw)).bind fun d=>br (!d.1) (J .ret (MH ai)) (br (decide (i>0)) (ck (JH F b.size (ByteArray.mk #[44]).size) (ck (bh i (a.length:Int)) ((uW F0 (aJ a i K4.aw)).bind fun c=>ck (JH F (b++(ByteArray.mk #[44])).size c.1.size) (oW F J n (kU a ((b++(ByteArray.mk #[44]))++c.1) (ak (i+1))))))) (ck (bh i (a.length:Int)) ((uW F0 (aJ a i K4.aw)).bind fun c=>ck (JH F b.size c.1.size) (oW F J n (kU a (b++c.1) (ak (i+1))))))))) (J (.exit 0) (JV b)):=by kernel_rfl
def Zx (a:ByteArray):pV F .ret (MH a)=some (a,()):=by kernel_rfl
def XG (a:ByteArray):pV F (.exit 0) (JV a)=some (a,()):=by kernel_rfl
abbrev n2:List (Ty×Bool):=[(K5,false)]
def Ga (a:D5):=bM vJ F vK f259 n2 dc 1 (a,())
def aeK (a:D5):Ga F a=oW F (pV F) F.n (kU a ai 0):=by kernel_rfl
def MI:Any:=.one ⟨n2,dc,1,fun x=>Ga F0 x.1⟩
def aeL:a8 259 MI:=aG vJ ⟨pU,RX,trivial⟩ func259 vK (by kernel_rfl)
def Gb:Nat->Option Hint:=look [(4,{live:=[0,1,5,6,7],xl:=[5],rl:=[4]})]
def kV (s:ByteArray)(a b i:Int)(c:List ByteArray):= ei 36 [(0,XD s),(1,.v (.c (.int .u8 a))),(5,.v (.c (.own 1000000 none))),(6,a7 b),(7,a7 i)] [] [aP 1000000 9 (.str) c]
def Py (a:List ByteArray):= ei 36 [(5,.v (.c (.own 1000000 none)))] [] [aP 1000000 9 (.str) a]
def pW (a:St):Option U:=eo ax F Gb [.r,.r,.r,.l,.r,.b,.i] f215 J n a
abbrev aqs:List (Ty×Bool):=[(.sl 9 (.str),false)]
def HY:=jx ax F Gb [.r,.r,.r,.l,.r,.b] f215 aqs 2
def JW (s:ByteArray)(c a i:Int)(b:List ByteArray):pW F J (n+1) (kV s c a i b)=br (decide (i<=(s.size:Int))) (br (i==(s.size:Int)) (ck (Oy a i (s.size:Int)) (ck (fA F b.length [s.extract a.toNat i.toNat].length 16) (pW F J n (kV s c (ak (i+1)) (ak (i+1)) (b++[s.extract a.toNat i.toNat]))))) (ck (bh i (s.size:Int)) (br ((kc s i)==c) (ck (Oy a i (s.size:Int)) (ck (fA F b.length [s.extract a.toNat i.toNat].length 16) (pW F J n (kV s c (ak (i+1)) (ak (i+1)) (b++[s.extract a.toNat i.toNat]))))) (pW F J n (kV s c a (ak (i+1)) b))))) (J (.exit 0) (Py b)):=by kernel_rfl
def abI (a:List ByteArray):HY F (.exit 0) (Py a)=some (a,()):=by kernel_rfl
abbrev VT:List (Ty×Bool):=[(.str,false),(.int .u8,false)]
def uw (s:ByteArray)(a:Int):=bM ax F Gb f215 VT aqs 2 (s,a,())
def akX (s:ByteArray)(a:Int):uw F s a=pW F (HY F) F.n (kV s a 0 0 []):=by kernel_rfl
def HZ:Any:=.one ⟨VT,aqs,2,fun x=>uw F0 x.1 x.2.1⟩
def VU:a8 215 HZ:=aG ax trivial func215 Gb (by kernel_rfl)
def Gc:Nat->Option Hint:=look [(2,{live:=[0,1,7],rl:=[4,5,6]})]
def vL (s:ByteArray)(a i:Int):= bk 26 [(0,XD s),(1,.v (.c (.int .u8 a))),(7,a7 i)]
def RY (a b:ByteArray)(c:Bool):= bk 26 [(4,XD a),(5,XD b),(6,vE c)]
def Pz   := bk 26 []
def Ge (a:St):Option U:=eo ax F Gc [.r,.l,.r,.b,.i] f216 J n a
abbrev ays:List (Ty×Bool):=[(.str,false),(.str,false),(.bool,false)]
def vM:=jx ax F Gc [.r,.l,.r,.b] f216 ays 1
def JX (s:ByteArray)(a i:Int):Ge F J (n+1) (vL s a i)=br (decide (i<(s.size:Int))) (ck (bh i (s.size:Int)) (br ((kc s i)==a) (ck (Oy 0 i (s.size:Int)) (ck (Oy (ak (i+1)) (s.size:Int) (s.size:Int)) (J .ret (RY (s.extract (0:Int).toNat i.toNat) (s.extract (ak (i+1)).toNat (s.size:Int).toNat) true)))) (Ge F J n (vL s a (ak (i+1)))))) (J (.exit 0) (Pz)):=by kernel_rfl
def aeM (a b:ByteArray)(c:Bool):vM F .ret (RY a b c)=some (a,b,c,()):=by kernel_rfl
def abJ: vM F (.exit 0) (Pz)=some (ai,ai,false,()):=by kernel_rfl
def gy (s:ByteArray)(a:Int):=bM ax F Gc f216 VT ays 1 (s,a,())
def akY (s:ByteArray)(a:Int):gy F s a=Ge F (vM F) F.n (vL s a 0):=by kernel_rfl
def H0:Any:=.one ⟨VT,ays,1,fun x=>gy F0 x.1 x.2.1⟩
def VV:a8 216 H0:=aG ax trivial func216 Gc (by kernel_rfl)
def BK:=[(68,mX)]
def BL:Nat->Option Hint:=look [(5,{live:=[0,4,5],xl:=[0,4],rl:=[2,3]})]
def sO (s:ByteArray)(a i:Int):= bk 43 [(0,XD s),(4,a7 a),(5,a7 i)]
def Em (a:Int)(b:Bool):= bk 43 [(2,a7 a),(3,vE b)]
def MJ (s:ByteArray)(a:Int):= bk 43 [(0,XD s),(4,a7 a)]
def BM (a:St):Option U:=eo BK F BL [.r,.r,.r,.l,.r,.b,.i] f217 J n a
abbrev amu:List (Ty×Bool):=[(.int .i64,false),(.bool,false)]
def sP:=jx BK F BL [.r,.r,.r,.l,.r,.b] f217 amu 1
def H2 (s:ByteArray)(a i:Int):BM F J (n+1) (sO s a i)=br (decide (i<(s.size:Int))) (ck (bh i (s.size:Int)) (br (decide ((kc s i)<48)) (J .ret (Em 0 false)) (ck (bh i (s.size:Int)) (br (decide ((kc s i)>57)) (J .ret (Em 0 false)) (ck (bh i (s.size:Int)) (BM F J n (sO s (ak ((ak ((ak (10*a))+(ak (kc s i))))-48)) (ak (i+1))))))))) (J (.exit 0) (MJ s a)):=by kernel_rfl
def abK (a:Int)(b:Bool):sP F .ret (Em a b)=some (a,b,()):=by kernel_rfl
def Zy (s:ByteArray)(a:Int):sP F (.exit 0) (MJ s a)=(hK F0 a).bind fun b=>br (!(b.1.toList==s.toList)) (some (0,false,())) (some (a,true,())):=by kernel_rfl
def lR (s:ByteArray):=bM BK F BL f217 dc amu 1 (s,())
def ahE (s:ByteArray):lR F s=br (decide ((s.size:Int)<1)) (some (0,false,())) (br (decide ((s.size:Int)>6)) (some (0,false,())) (BM F (sP F) F.n (sO s 0 0))):=by kernel_rfl
def En:Any:=.one ⟨dc,amu,1,fun x=>lR F0 x.1⟩
def RZ:a8 217 En:=aG BK ⟨vI,trivial⟩ func217 BL (by kernel_rfl)
def adV:=[(216,H0),(217,En),(296,El)]
abbrev avi:List (Ty×Bool):=[(K4,true),(.bool,false)]
def Ut (s:ByteArray):=bM adV F ab f279 dc avi 1 (s,())
def aom (s:ByteArray):Ut F s=(gy F0 s 62).bind fun a=>(gy F0 a.2.1 58).bind fun b=>(gy F0 b.2.1 35).bind fun c=>(lR F0 a.1).bind fun d=>(lR F0 b.1).bind fun e=>(lR F0 c.1).bind fun f=>(lR F0 c.2.1).bind fun g=>br (s.toList==ai.toList) (some ((0,0,0,0),false,())) ((uW F0 (d.1,e.1,f.1,g.1)).bind fun h=>br (!(h.1.toList==s.toList)) (some ((0,0,0,0),false,())) (some ((d.1,e.1,f.1,g.1),true,()))):=by kernel_rfl
def VW:Any:=.one ⟨dc,avi,1,fun x=>Ut F0 x.1⟩
def aon:a8 279 VW:=aG adV ⟨VV,RZ,RX,trivial⟩ func279 ab (by kernel_rfl)
def Gf:=[(215,HZ),(279,VW)]
def Gg:Nat->Option Hint:=look [(6,{live:=[4,5,6],xl:=[4],rl:=[2,3]})]
def vN (i:Int)(b:List D4)(a:List ByteArray):= ei 37 [(4,.v (.c (.own 1000000 none))),(5,.v (.c (.own 1000001 none))),(6,a7 i)] [] [aP 1000000 99 K4 b,aP 1000001 9 (.str) a]
def R0 (a:Bool)(b:List D4):= ei 37 [(2,.v (.c (.own 1000000 none))),(3,vE a)] [] [aP 1000000 99 K4 b]
def PA (a:List D4):= ei 37 [(4,.v (.c (.own 1000000 none)))] [] [aP 1000000 99 K4 a]
def Gi (a:St):Option U:=eo Gf F Gg [.r,.r,.r,.r,.l,.r,.b,.i] f218 J n a
abbrev Zz:List (Ty×Bool):=[(K5,false),(.bool,false)]
def vO:=jx Gf F Gg [.r,.r,.r,.r,.l,.r,.b] f218 Zz 2
def JY (i:Int)(b:List D4)(a:List ByteArray):Gi F J (n+1) (vN i b a)=br (decide (i<(a.length:Int))) (ck (bh i (a.length:Int)) ((Ut F0 (aJ a i ByteArray.empty)).bind fun c=>br (!c.2.1) (J .ret (R0 false [])) (ck (fA F b.length [c.1].length 32) (Gi F J n (vN (ak (i+1)) (b++[c.1]) a))))) (J (.exit 0) (PA b)):=by kernel_rfl
def aeN (a:Bool)(b:List D4):vO F .ret (R0 a b)=some (b,a,()):=by kernel_rfl
def abL (a:List D4):vO F (.exit 0) (PA a)=some (a,true,()):=by kernel_rfl
def AI (s:ByteArray):=bM Gf F Gg f218 dc Zz 2 (s,())
def akZ (s:ByteArray):AI F s=br (s.toList==ai.toList) (some ([],true,())) ((uw F0 s 44).bind fun a=>Gi F (vO F) F.n (vN 0 [] a.1)):=by kernel_rfl
def R1:Any:=.one ⟨dc,Zz,2,fun x=>AI F0 x.1⟩
def ak0:a8 218 R1:=aG Gf ⟨VU,aon,trivial⟩ func218 Gg (by kernel_rfl)
def Gj:=[(215,HZ),(216,H0),(217,En),(218,R1)]
def Gk:Nat->Option Hint:=look [(10,{live:=[4,5,6,7,8],xl:=[5],rl:=[2,3]})]
def vP (c i:Int)(d a:List D6)(b:List ByteArray):= ei 91 [(4,.v (.c (.own 1000000 none))),(5,.v (.c (.own 1000001 none))),(6,.v (.c (.own 1000002 none))),(7,a7 c),(8,a7 i)] [] [aP 1000000 163 K6 d,aP 1000001 163 K6 a,aP 1000002 9 (.str) b]
def h9 (a:Bool)(b:List D6):= ei 91 [(2,.v (.c (.own 1000000 none))),(3,vE a)] [] [aP 1000000 163 K6 b]
def PB (a:List D6):= ei 91 [(5,.v (.c (.own 1000000 none)))] [] [aP 1000000 163 K6 a]
def Gl (a:St):Option U:=eo Gj F Gk [.r,.r,.r,.r,.r,.r,.r,.l,.r,.b,.i] f142 J n a
abbrev amv:List (Ty×Bool):=[(K7,false),(.bool,false)]
def vQ:=jx Gj F Gk [.r,.r,.r,.r,.r,.r,.r,.l,.r,.b] f142 amv 2
def JZ (g i:Int)(a d:List D6)(c:List ByteArray):Gl F J (n+1) (vP g i a d c)=br (decide (i<(c.length:Int))) (ck (bh i (c.length:Int)) ((gy F0 (aJ c i ByteArray.empty) 124).bind fun f=>(lR F0 f.1).bind fun b=>(AI F0 f.2.1).bind fun e=>br (!f.2.2.1) (J .ret (h9 false a)) (br (!b.2.1) (J .ret (h9 false a)) (br (!e.2.1) (J .ret (h9 false a)) (br (decide (b.1<=g)) (J .ret (h9 false a)) (br (decide (b.1>60)) (J .ret (h9 false a)) (br (decide ((e.1.length:Int)>2)) (J .ret (h9 false a)) (ck (fA F d.length [(b.1,e.1)].length 32) (Gl F J n (vP b.1 (ak (i+1)) a (d++[(b.1,e.1)]) c)))))))))) (J (.exit 0) (PB d)):=by kernel_rfl
def PC (a:Bool)(b:List D6):vQ F .ret (h9 a b)=some (b,a,()):=by kernel_rfl
def abM (a:List D6):vQ F (.exit 0) (PB a)=some (a,true,()):=by kernel_rfl
def oX (s:ByteArray):=bM Gj F Gk f142 dc amv 2 (s,())
def ak1 (s:ByteArray):oX F s=br (s.toList==ai.toList) (some ([],true,())) ((uw F0 s 47).bind fun a=>ck (bh 0 (a.1.length:Int)) (br (!((aJ a.1 0 ByteArray.empty).toList==ai.toList)) (some ([],false,())) (br (decide ((a.1.length:Int)>31)) (some ([],false,())) (Gl F (vQ F) F.n (vP 0 1 [] [] a.1))))):=by kernel_rfl
def oY:Any:=.one ⟨dc,amv,2,fun x=>oX F0 x.1⟩
def BN:a8 142 oY:=aG Gj ⟨VU,VV,RZ,ak0,trivial⟩ func142 Gk (by kernel_rfl)
def VX:=[(142,oY)]
def ep (s:ByteArray):=bM VX F ab f118 dc aI 1 (s,())
def ahF (s:ByteArray):ep F s=(oX F0 s).bind fun a=>some (a.2.1,()):=by kernel_rfl
def ea:Any:=.one ⟨dc,aI,1,fun x=>ep F0 x.1⟩
def fS:a8 118 ea:=aG VX ⟨BN,trivial⟩ func118 ab (by kernel_rfl)
def BO:=[(68,mX),(118,ea),(252,kf),(259,MI)]
def BP:Nat->Option Hint:=look [(2,{live:=[0,1,2,7],xl:=[0,1,2],rl:=[6]})]
def sQ (a:ByteArray)(b:Int)(c:List D4)(i:Int):= bk 34 [(0,XD a),(1,a7 b),(2,mU 99 (K4) c),(7,a7 i)]
def PD (a:ByteArray):= bk 34 [(6,XD a)]
def MK (a:ByteArray)(b:Int)(c:List D4):= bk 34 [(0,XD a),(1,a7 b),(2,mU 99 (K4) c)]
def BQ (a:St):Option U:=eo BO F BP [.r,.l,.r,.b,.i] f187 J n a
def sR:=jx BO F BP [.r,.l,.r,.b] f187 dc 1
def H3 (b:ByteArray)(c:Int)(a:List D4)(i:Int):BQ F J (n+1) (sQ b c a i)=br (decide (i<(a.length:Int))) (ck (bh i (a.length:Int)) ((pT F0 (aJ a i K4.aw)).bind fun d=>br (!d.1) (J .ret (PD ai)) (BQ F J n (sQ b c a (ak (i+1)))))) (J (.exit 0) (MK b c a)):=by kernel_rfl
def abN (a:ByteArray):sR F .ret (PD a)=some (a,()):=by kernel_rfl
def ZA (a:ByteArray)(d:Int)(e:List D4):sR F (.exit 0) (MK a d e)=ck (JH F a.size (ByteArray.mk #[47]).size) ((hK F0 d).bind fun b=>ck (JH F (a++(ByteArray.mk #[47])).size b.1.size) (ck (JH F ((a++(ByteArray.mk #[47]))++b.1).size (ByteArray.mk #[124]).size) ((Ga F0 e).bind fun c=>ck (JH F (((a++(ByteArray.mk #[47]))++b.1)++(ByteArray.mk #[124])).size c.1.size) ((ep F0 ((((a++(ByteArray.mk #[47]))++b.1)++(ByteArray.mk #[124]))++c.1)).bind fun f=>br (!f.1) (some (ai,())) (some ((((a++(ByteArray.mk #[47]))++b.1)++(ByteArray.mk #[124]))++c.1,())))))):=by kernel_rfl
abbrev aBy:List (Ty×Bool):=[(.str,false),(.int .i64,false),(K5,false)]
def VY (a:ByteArray)(b:Int)(c:D5):=bM BO F BP f187 aBy dc 1 (a,b,c,())
def R2:∃f,f= @VY:=⟨_,rfl⟩
def eY:=Classical.choose R2
def PE: @eY= @VY:=Classical.choose_spec R2
def ahG (a:ByteArray)(b:Int)(c:D5):eY F a b c=BQ F (sR F) F.n (sQ a b c 0):=by rw[PE];kernel_rfl
def mY:Any:=.one ⟨aBy,dc,1,fun x=>eY F0 x.1 x.2.1 x.2.2.1⟩
def vR:a8 187 mY:=ok1 (show vD Tryz.prog TB BO from⟨vI,fS,pU,aeL,trivial⟩) func187 (by kernel_rfl) (by kernel_rfl) BP (by rw[PE];kernel_rfl)
end
end Go.Am.Tryz
namespace Go.Am.Tryz
open Go.Am Go.Proofs Go.Proofs.Tryz
noncomputable section
variable {U:Type} (F:nP) (J:Ex->St->Option U) (n:Nat)
def ee:=[(98,av),(186,cM),(187,mY)]
def ef:Nat->Option Hint:=look [(4,{live:=[0,3,4,5],xl:=[3],rl:=[2]}),(9,{live:=[0,3,4,5,6,7],xl:=[0,3,4,5,6],rl:=[2]})]
def fT (s:ByteArray)(d i k:Int)(a:List Int)(b c:Int)(e:List D4):St:={nt:=37,tm:=[(0,.v (.c (.ptr 4000000 0))),(3,XD s),(4,a7 d),(5,a7 i),(6,.v (.c (.own 1000000 none))),(7,a7 k)],bx:=[(4000000,[.ro true 5 (.int .u8) a,ar b,ar c])],bl:=[aP 1000000 99 K4 e],sp:=.v (.c (.ptr 4000000 0))}
def nS (s:ByteArray)(d i:Int)(a:List Int)(b c:Int)(e:List D4):St:={nt:=37,tm:=[(0,.v (.c (.ptr 4000000 0))),(3,XD s),(4,a7 d),(5,a7 i),(6,.v (.c (.own 1000000 none)))],bx:=[(4000000,[.ro true 5 (.int .u8) a,ar b,ar c])],bl:=[aP 1000000 99 K4 e],sp:=.v (.c (.ptr 4000000 0))}
def ia (a:St):Option U:=eo ee F ef [.r,.r,.r,.l,.r,.b,.i,.r,.l,.b,.r,.r,.l,.r,.b,.i] f123 J n a
def C8:Ex->St->Option U:=JG Tryz.prog (look ee) F ef [.r,.l,.b,.r,.r,.l,.r,.b] (sub [.r,.r,.r,.l,.r,.b,.i] (cr f123)) (itk Tryz.prog (look ee) F ef (sub [.r,.r,.r,.l,.r,.b,.i] (cr f123)) J n)
def jA (s:ByteArray)(d i:Int)(a:List Int)(b c:Int):St:={nt:=37,tm:=[(0,.v (.c (.ptr 4000000 0))),(3,XD s),(4,a7 d),(5,a7 i)],bx:=[(4000000,[.ro true 5 (.int .u8) a,ar b,ar c])],bl:=[],sp:=.v (.c (.ptr 4000000 0))}
def y9 (s:ByteArray)(a:List Int)(b c:Int):St:={nt:=37,tm:=[(3,XD s)],bx:=[(4000000,[.ro true 5 (.int .u8) a,ar b,ar c])],bl:=[],sp:=.v (.c (.ptr 4000000 0))}
def l4 (a:St):Option U:=eo ee F ef [.r,.r,.r,.l,.r,.b,.i] f123 J n a
def oZ:=L7 ee F ef [.r,.r,.r,.l,.r,.b] f123 .cur dc bn 1
def uX (s:ByteArray)(d i k:Int)(e:List Int)(f g:Int)(c:List D4):ia F J (n+1) (fT s d i k e f g c)=(af F0 (e,f,g) 3).bind fun a=>br (decide (k<a.1.1)) ((cZ F0 a.2.1).bind fun b=>ck (fA F c.length [b.1.1].length 32) (ia F J n (fT s d i (ak (k+1)) b.2.1.1 b.2.1.2.1 b.2.1.2.2 (c++[b.1.1])))) (J (.exit 2) (nS s d i a.2.1.1 a.2.1.2.1 a.2.1.2.2 c)):=by kernel_rfl
def uY (s:ByteArray)(f i:Int)(c:List Int)(d e:Int):l4 F J (n+1) (jA s f i c d e)=(af F0 (c,d,e) 6).bind fun a=>br (decide (i<a.1.1)) ((af F0 a.2.1 4).bind fun b=>ia F (C8 F J n) F.n (fT s (ak ((ak (f+1))+(ak (Int.tdiv b.1.1 3)))) i 0 b.2.1.1 b.2.1.2.1 b.2.1.2.2 [])) (J (.exit 0) (y9 s a.2.1.1 a.2.1.2.1 a.2.1.2.2)):=by kernel_rfl
def Oz (s:ByteArray)(a i:Int)(b:List Int)(c d:Int)(e:List D4):C8 F J n (.exit 2) (nS s a i b c d e)=(eY F0 s a e).bind fun f=>l4 F J n (jA f.1 a (ak (i+1)) b c d):=by kernel_rfl
def vS (s:ByteArray)(a:List Int)(b c:Int):oZ F (.exit 0) (y9 s a b c)=some ((s,()),(a,b,c),()):=by kernel_rfl
def dD (c:D2):=fR ee F ef f123 bn 0 .cur dc bn 1 (c,())
def U1 (c:D2):dD F c=l4 F (oZ F) F.n (jA ai 0 0 c.1 c.2.1 c.2.2):=by kernel_rfl
def dq:Any:=.two ⟨bn,0,.cur,dc,1,bn,fun x=>dD F0 x.1⟩
def eT:a8 123 dq:=jy ee ⟨aA,dI,vR,trivial⟩ func123 ef (by kernel_rfl)
def VZ:=[(142,oY)]
def cc (s:ByteArray):=bM VZ F ab f119 dc c8 1 (s,())
def ahH (s:ByteArray):cc F s=(oX F0 s).bind fun a=>br (!a.2.1) (some (0,())) (br ((a.1.length:Int)==0) (some (0,())) (ck (bh (ak ((a.1.length:Int)-1)) (a.1.length:Int)) (some ((aJ a.1 (ak ((a.1.length:Int)-1)) (0,[])).1,())))):=by kernel_rfl
def bV:Any:=.one ⟨dc,c8,1,fun x=>cc F0 x.1⟩
def cD:a8 119 bV:=aG VZ ⟨BN,trivial⟩ func119 ab (by kernel_rfl)
def sS:=[(97,cA),(98,av),(119,bV)]
def sT:Nat->Option Hint:=look [(5,{live:=[0,4,6,7,8],F4:=[(6,2,3,.int .i64),(7,2,3,.int .i64)],xl:=[0,6,7],rl:=[6]})]
def n3 (i:Int)(a:List Int)(b c d e h:Int)(j:ByteArray)(q:Int)(f:ByteArray)(k g:List Int):St:={nt:=56,tm:=[(0,.v (.c (.ptr 4000000 0))),cl 4,cl 6,cl 7,(8,a7 i)],bx:=[(4000000,[.ro true 5 (.int .u8) a,ar b,ar c]),(4,[ar d,ar e]),(6,[ar h,.str j,.own 1000000 none]),(7,[ar q,.str f,.own 1000001 none])],bl:=[aP 1000000 3 (.int .i64) k,aP 1000001 3 (.int .i64) g],sp:=.v (.c (.ptr 4000000 0))}
def ux (a:List Int)(b c f:Int)(g:ByteArray)(q:Int)(d:ByteArray)(h e:List Int):St:={nt:=56,tm:=[(0,.v (.c (.ptr 4000000 0))),cl 6,cl 7],bx:=[(4000000,[.ro true 5 (.int .u8) a,ar b,ar c]),(6,[ar f,.str g,.own 1000000 none]),(7,[ar q,.str d,.own 1000001 none])],bl:=[aP 1000000 3 (.int .i64) h,aP 1000001 3 (.int .i64) e],sp:=.v (.c (.ptr 4000000 0))}
def sU (a:St):Option U:=eo sS F sT [.r,.r,.r,.l,.r,.b,.i] f122 J n a
abbrev gS:List (Ty×Bool):=[(K9,true)]
def n4:=L7 sS F sT [.r,.r,.r,.l,.r,.b] f122 .cur gS bn 2
def C9 (i:Int)(b:List Int)(c d e k g:Int)(h:ByteArray)(q:Int)(f:ByteArray)(j a:List Int):sU F J (n+1) (n3 i b c d e k g h q f j a)=br (decide (i<e)) (ck (fA F a.length [i].length 8) (sU F J n (n3 (ak (i+1)) b c d e k g h q f j (a++[i])))) (J (.exit 0) (ux b c d g h q f j a)):=by kernel_rfl
def U2 (e:List Int)(f g h:Int)(i:ByteArray)(q:Int)(c:ByteArray)(j a:List Int):n4 F (.exit 0) (ux e f g h i q c j a)=(dm F0 (e,f,g) 2).bind fun d=>br d.1.1 (br (decide ((a.length:Int)>0)) ((af F0 d.2.1 (a.length:Int)).bind fun b=>ck (okT b.1.1 (a.length:Int)) (ck (Oy (ak (b.1.1+1)) (a.length:Int) (a.length:Int)) (ck (fA F 0 (a.take b.1.1.toNat).length 8) (ck (fA F ([]++(a.take b.1.1.toNat)).length ((a.take (a.length:Int).toNat).drop (ak (b.1.1+1)).toNat).length 8) (some (((q,c,([]++(a.take b.1.1.toNat))++((a.take (a.length:Int).toNat).drop (ak (b.1.1+1)).toNat)),()),b.2.1,())))))) (some (((q,c,a),()),d.2.1,()))) (some (((q,c,a),()),d.2.1,())):=by kernel_rfl
abbrev aBz:List (Ty×Bool):=[(K2,true),(K1,true),(.str,false)]
def nD (c:D2)(a:D1)(name:ByteArray):=fR sS F sT f122 aBz 0 .cur gS bn 2 (c,a,name,())
def abO (c:D2)(a:D1)(name:ByteArray):nD F c a name=(cc F0 name).bind fun b=>br (name.toList==ai.toList) (some (((b.1,name,[]),()),c,())) (sU F (n4 F) F.n (n3 0 c.1 c.2.1 c.2.2 a.1 a.2 0 ai b.1 name [] [])):=by kernel_rfl
def n5:Any:=.two ⟨aBz,0,.cur,gS,2,bn,fun x=>nD F0 x.1 x.2.1 x.2.2.1⟩
def AJ:a8 122 n5:=jy sS ⟨dp,aA,cD,trivial⟩ func122 sT (by kernel_rfl)
def V0:=[(98,av)]
def J0 (c:D2)(a:List ByteArray):=fR V0 F ab f260 [(K2,true),(.sl 9 (.str),false)] 0 .cur dc bn 1 (c,a,())
def ahI (c:D2)(a:List ByteArray):J0 F c a=(af F0 c (a.length:Int)).bind fun b=>ck (bh b.1.1 (a.length:Int)) (some ((aJ a b.1.1 ByteArray.empty,()),b.2.1,())):=by kernel_rfl
def PF:Any:=.two ⟨[(K2,true),(.sl 9 (.str),false)],0,.cur,dc,1,bn,fun x=>J0 F0 x.1 x.2.1⟩
def ahJ:a8 260 PF:=jy V0 ⟨aA,trivial⟩ func260 ab (by kernel_rfl)
def V1:=[(98,av),(260,PF)]
def J1 (c:D2)(s:ByteArray):=fR V1 F ab f188 [(K2,true),(.str,false)] 0 .cur dc bn 1 (c,s,())
def ahK (c:D2)(s:ByteArray):J1 F c s=(af F0 c (ak ((s.size:Int)+1))).bind fun a=>(af F0 a.2.1 5).bind fun b=>br (b.1.1==0) (ck (Oy 0 a.1.1 (s.size:Int)) (some ((s.extract (0:Int).toNat a.1.1.toNat,()),b.2.1,()))) (br (b.1.1==1) (ck (Oy 0 a.1.1 (s.size:Int)) (ck (Oy a.1.1 (s.size:Int) (s.size:Int)) ((J0 F0 b.2.1 [(ByteArray.mk #[48]),(ByteArray.mk #[44]),(ByteArray.mk #[62]),(ByteArray.mk #[47]),(ByteArray.mk #[124]),(ByteArray.mk #[120]),(ByteArray.mk #[49])]).bind fun d=>ck (JH F (s.extract (0:Int).toNat a.1.1.toNat).size d.1.1.size) (ck (JH F ((s.extract (0:Int).toNat a.1.1.toNat)++d.1.1).size (s.extract a.1.1.toNat (s.size:Int).toNat).size) (some ((((s.extract (0:Int).toNat a.1.1.toNat)++d.1.1)++(s.extract a.1.1.toNat (s.size:Int).toNat),()),d.2.1,())))))) (some ((s,()),b.2.1,()))):=by kernel_rfl
def PG:Any:=.two ⟨[(K2,true),(.str,false)],0,.cur,dc,1,bn,fun x=>J1 F0 x.1 x.2.1⟩
def ahL:a8 188 PG:=jy V1 ⟨aA,ahJ,trivial⟩ func188 ab (by kernel_rfl)
def BR:=[(68,mX),(97,cA),(98,av),(123,dq),(188,PG)]
def BS:Nat->Option Hint:=look [(4,{live:=[0,3,4],xl:=[3],rl:=[2]})]
def sV (s:ByteArray)(i:Int)(a:List Int)(b c:Int):St:={nt:=25,tm:=[(0,.v (.c (.ptr 4000000 0))),(3,XD s),(4,a7 i)],bx:=[(4000000,[.ro true 5 (.int .u8) a,ar b,ar c])],bl:=[],sp:=.v (.c (.ptr 4000000 0))}
def ML (s:ByteArray)(a:List Int)(b c:Int):St:={nt:=25,tm:=[(3,XD s)],bx:=[(4000000,[.ro true 5 (.int .u8) a,ar b,ar c])],bl:=[],sp:=.v (.c (.ptr 4000000 0))}
def BU (a:St):Option U:=eo BR F BS [.r,.l,.r,.t,.r,.l,.r,.b,.i] f124 J n a
def Eo:=L7 BR F BS [.r,.l,.r,.t,.r,.l,.r,.b] f124 .cur dc bn 1
def H4 (s:ByteArray)(i:Int)(c:List Int)(d e:Int):BU F J (n+1) (sV s i c d e)=(af F0 (c,d,e) 2).bind fun a=>br (decide (i<=(ak (30+a.1.1)))) (ck (JH F s.size (ByteArray.mk #[47]).size) ((hK F0 i).bind fun b=>ck (JH F (s++(ByteArray.mk #[47])).size b.1.size) (ck (JH F ((s++(ByteArray.mk #[47]))++b.1).size (ByteArray.mk #[124]).size) (BU F J n (sV (((s++(ByteArray.mk #[47]))++b.1)++(ByteArray.mk #[124])) (ak (i+1)) a.2.1.1 a.2.1.2.1 a.2.1.2.2))))) (J (.exit 0) (ML s a.2.1.1 a.2.1.2.1 a.2.1.2.2)):=by kernel_rfl
def J2 (s:ByteArray)(a:List Int)(b c:Int):Eo F (.exit 0) (ML s a b c)=some ((s,()),(a,b,c),()):=by kernel_rfl
def uZ (c:D2):=fR BR F BS f124 bn 0 .cur dc bn 1 (c,())
def ahM (c:D2):uZ F c=(dm F0 c 20).bind fun a=>br a.1.1 (BU F (Eo F) F.n (sV ai 1 a.2.1.1 a.2.1.2.1 a.2.1.2.2)) ((dD F0 a.2.1).bind fun b=>(J1 F0 b.2.1 b.1.1).bind fun d=>some ((d.1.1,()),d.2.1,())):=by kernel_rfl
def sW:Any:=.two ⟨bn,0,.cur,dc,1,bn,fun x=>uZ F0 x.1⟩
def H5:a8 124 sW:=jy BR ⟨vI,dp,aA,eT,ahL,trivial⟩ func124 BS (by kernel_rfl)
def V2:=[(58,l3),(98,av),(122,n5),(123,dq),(124,sW)]
abbrev zs:List (Ty×Bool):=[(K2,true),(K1,true)]
def J3 (c:D2)(a:D1):=fR V2 F ab f60 zs 0 .cur gS bn 2 (c,a,())
def ahN (c:D2)(d:D1):J3 F c d=(dD F0 c).bind fun e=>(nD F0 e.2.1 d e.1.1).bind fun a=>(af F0 a.2.1 12).bind fun b=>br (b.1.1==0) (some (((ak (a.1.1.1+1),a.1.1.2),()),b.2.1,())) (br (b.1.1==1) ((kT F0 b.2.1 7).bind fun f=>some (((a.1.1.1,a.1.1.2.1,f.1.1),()),f.2.1,())) (br (b.1.1==2) ((uZ F0 b.2.1).bind fun g=>some (((a.1.1.1,g.1.1,a.1.1.2.2),()),g.2.1,())) (some ((a.1.1,()),b.2.1,())))):=by kernel_rfl
def PH:Any:=.two ⟨zs,0,.cur,gS,2,bn,fun x=>J3 F0 x.1 x.2.1⟩
def ahO:a8 60 PH:=jy V2 ⟨vH,aA,AJ,eT,H5,trivial⟩ func60 ab (by kernel_rfl)
abbrev amw:List (Ty×Bool):=[(.int .i64,false),(.int .i64,false)]
def c9 (a b:Int):=bM ax F ab f189 amw c8 1 (a,b,())
def V3 (a b:Int):c9 F a b=br (decide (a>b)) (some (a,())) (some (b,())):=by kernel_rfl
def eG:Any:=.one ⟨amw,c8,1,fun x=>c9 F0 x.1 x.2.1⟩
def hL:a8 189 eG:=aG ax trivial func189 ab (by kernel_rfl)
def kv:=[(97,cA),(98,av),(119,bV),(120,mV),(123,dq),(189,eG)]
def kx:Nat->Option Hint:=look [(6,{live:=[0,3,4,6,7],F4:=[(4,2,3,.int .i64),(6,2,3,.int .i64)],xl:=[4,6],rl:=[4]})]
def cw (i:Int)(a:List Int)(b c d e h:Int)(j:ByteArray)(p:Int)(f:ByteArray)(k g:List Int):St:={nt:=41,tm:=[(0,.v (.c (.ptr 4000000 0))),cl 3,cl 4,cl 6,(7,a7 i)],bx:=[(4000000,[.ro true 5 (.int .u8) a,ar b,ar c]),(3,[ar d,ar e]),(4,[ar h,.str j,.own 1000000 none]),(6,[ar p,.str f,.own 1000001 none])],bl:=[aP 1000000 3 (.int .i64) k,aP 1000001 3 (.int .i64) g],sp:=.v (.c (.ptr 4000000 0))}
def vT (a:List Int)(b c f:Int)(g:ByteArray)(p:Int)(d:ByteArray)(h e:List Int):St:={nt:=41,tm:=[cl 4,cl 6],bx:=[(4000000,[.ro true 5 (.int .u8) a,ar b,ar c]),(4,[ar f,.str g,.own 1000000 none]),(6,[ar p,.str d,.own 1000001 none])],bl:=[aP 1000000 3 (.int .i64) h,aP 1000001 3 (.int .i64) e],sp:=.v (.c (.ptr 4000000 0))}
def c3 (a:St):Option U:=eo kv F kx [.r,.r,.r,.r,.l,.r,.b,.i] f125 J n a
def da:=L7 kv F kx [.r,.r,.r,.r,.l,.r,.b] f125 .cur gS bn 2
def sa (i:Int)(j:List Int)(k l c m f:Int)(g:ByteArray)(p:Int)(d:ByteArray)(h e:List Int):c3 F J (n+1) (cw i j k l c m f g p d h e)=(af F0 (j,k,l) 7).bind fun a=>br (decide (i<(ak (1+a.1.1)))) ((c9 F0 c 4).bind fun o=>(af F0 a.2.1 o.1).bind fun b=>(lQ F0 e b.1.1).bind fun q=>c3 F J n (cw (ak (i+1)) b.2.1.1 b.2.1.2.1 b.2.1.2.2 c m f g p d h q.1)) (J (.exit 0) (vT a.2.1.1 a.2.1.2.1 a.2.1.2.2 f g p d h e)):=by kernel_rfl
def u0 (a:List Int)(b c f:Int)(g:ByteArray)(p:Int)(d:ByteArray)(h e:List Int):da F (.exit 0) (vT a b c f g p d h e)=some (((p,d,e),()),(a,b,c),()):=by kernel_rfl
def gk (c:D2)(a:D1):=fR kv F kx f125 zs 0 .cur gS bn 2 (c,a,())
def R3 (c:D2)(b:D1):gk F c b=(dD F0 c).bind fun e=>(cc F0 e.1.1).bind fun f=>(dm F0 e.2.1 4).bind fun d=>br d.1.1 ((af F0 d.2.1 4).bind fun a=>c3 F (da F) F.n (cw 0 a.2.1.1 a.2.1.2.1 a.2.1.2.2 b.1 b.2 0 ai (ak (1+a.1.1)) ai [] [])) (br (e.1.1.toList==ai.toList) ((af F0 d.2.1 4).bind fun a=>c3 F (da F) F.n (cw 0 a.2.1.1 a.2.1.2.1 a.2.1.2.2 b.1 b.2 0 ai (ak (1+a.1.1)) ai [] [])) (c3 F (da F) F.n (cw 0 d.2.1.1 d.2.1.2.1 d.2.1.2.2 b.1 b.2 0 ai f.1 e.1.1 [] []))):=by kernel_rfl
def iK:Any:=.two ⟨zs,0,.cur,gS,2,bn,fun x=>gk F0 x.1 x.2.1⟩
def o0:a8 125 iK:=jy kv ⟨dp,aA,cD,vG,eT,hL,trivial⟩ func125 kx (by kernel_rfl)
def R4:=[(58,l3),(98,av),(121,bH),(124,sW),(125,iK)]
def vU (c:D2)(a:D1):=fR R4 F ab f62 zs 0 .cur gS bn 2 (c,a,())
def aeO (c:D2)(d:D1):vU F c d=(gk F0 c d).bind fun a=>(af F0 a.2.1 10).bind fun b=>br (b.1.1==0) ((aU F0 b.2.1 [(-1),0,60,61]).bind fun e=>some (((e.1.1,a.1.1.2),()),e.2.1,())) (br (b.1.1==1) ((kT F0 b.2.1 7).bind fun f=>some (((a.1.1.1,a.1.1.2.1,f.1.1),()),f.2.1,())) (br (b.1.1==2) ((uZ F0 b.2.1).bind fun g=>some (((a.1.1.1,g.1.1,a.1.1.2.2),()),g.2.1,())) (some ((a.1.1,()),b.2.1,())))):=by kernel_rfl
def AK:Any:=.two ⟨zs,0,.cur,gS,2,bn,fun x=>vU F0 x.1 x.2.1⟩
def PI:a8 62 AK:=jy R4 ⟨vH,aA,bU,H5,o0,trivial⟩ func62 ab (by kernel_rfl)
def pX:Nat->Option Hint:=look [(3,{live:=[0,1,2],F4:=[(0,0,3,.int .i64),(0,1,3,.int .i64),(1,0,3,.int .i64)],xl:=[0,1],rl:=[0]})]
def fi (i:Int)(d a b c:List Int):= ei 15 [cl 0,cl 1,(2,a7 i)] [(0,[.own 1000000 none,.own 1000001 none]),(1,[.own 1000002 none,.own 1000003 none])] [aP 1000000 3 (.int .i64) d,aP 1000001 3 (.int .i64) a,aP 1000002 3 (.int .i64) b,aP 1000003 3 (.int .i64) c]
def E2 (d a b c:List Int):= ei 15 [cl 0,cl 1] [(0,[.own 1000000 none,.own 1000001 none]),(1,[.own 1000002 none,.own 1000003 none])] [aP 1000000 3 (.int .i64) d,aP 1000001 3 (.int .i64) a,aP 1000002 3 (.int .i64) b,aP 1000003 3 (.int .i64) c]
def hS (a:St):Option U:=eo ax F pX [.r,.r,.l,.r,.b,.i] f156 J n a
abbrev km:List (Ty×Bool):=[(K10,true)]
def ib:=jx ax F pX [.r,.r,.l,.r,.b] f156 km 2
def zv (i:Int)(d b a c:List Int):hS F J (n+1) (fi i d b a c)=br (decide (i<4)) (ck (fA F a.length [100].length 8) (hS F J n (fi (ak (i+1)) d b (a++[100]) c))) (J (.exit 0) (E2 d b a c)):=by kernel_rfl
def R5 (d c a b:List Int):ib F (.exit 0) (E2 d c a b)=some ((a,b),()):=by kernel_rfl
def ic: Option (Args km):=bM ax F pX f156 [] km 2 (())
def ZB: ic F= ck (okM F 4 4 8) (hS F (ib F) F.n (fi 0 [] [] [] (List.replicate (4:Int).toNat 0))):=by kernel_rfl
def l5:Any:=.one ⟨[],km,2,fun x=>ic F0⟩
def vV:a8 156 l5:=aG ax trivial func156 pX (by kernel_rfl)
def o1 (l:D10):=bM ax F ab f233 km km 2 (l,())
def ahP (l:D10):o1 F l=ck (fA F 0 l.1.length 8) (ck (fA F 0 l.2.length 8) (some (([]++l.1,[]++l.2),()))):=by kernel_rfl
def sX:Any:=.one ⟨km,km,2,fun x=>o1 F0 x.1⟩
def H6:a8 233 sX:=aG ax trivial func233 ab (by kernel_rfl)
def sY:=[(117,bN)]
def sZ:Nat->Option Hint:=look [(4,{live:=[1,3],rl:=[2]})]
def n6 (i:Int)(l a:List Int):= ei 34 [cl 1,(3,a7 i)] [(1,[.ro false 3 (.int .i64) l,.ro false 3 (.int .i64) a])] []
def vW (a:Bool):= bk 34 [(2,vE a)]
def H7   := bk 34 []
def s0 (a:St):Option U:=eo sY F sZ [.r,.r,.l,.r,.b,.i] f261 J n a
def n7:=jx sY F sZ [.r,.r,.l,.r,.b] f261 aI 1
def Da (i:Int)(l a:List Int):s0 F J (n+1) (n6 i l a)=br (decide (i<4)) (ck (bh i (l.length:Int)) ((bD F0 (aJ l i 0) 0 400).bind fun b=>br (!b.1) (J .ret (vW false)) (ck (bh i (a.length:Int)) ((bD F0 (aJ a i 0) 0 100).bind fun c=>br (!c.1) (J .ret (vW false)) (s0 F J n (n6 (ak (i+1)) l a)))))) (J (.exit 0) (H7)):=by kernel_rfl
def H8 (a:Bool):n7 F .ret (vW a)=some (a,()):=by kernel_rfl
def U3: n7 F (.exit 0) (H7)=some (true,()):=by kernel_rfl
def sc (l:D10):=bM sY F sZ f261 km aI 1 (l,())
def abP (l:D10):sc F l=br ((l.1.length:Int) != 4) (some (false,())) (br ((l.2.length:Int) != 4) (some (false,())) (s0 F (n7 F) F.n (n6 0 l.1 l.2))):=by kernel_rfl
def J4:Any:=.one ⟨km,aI,1,fun x=>sc F0 x.1⟩
def abQ:a8 261 J4:=aG sY ⟨cb,trivial⟩ func261 sZ (by kernel_rfl)
def ahQ:=[(233,sX),(252,kf),(261,J4)]
abbrev avj:List (Ty×Bool):=[(K10,true),(K4,true)]
abbrev avk:List (Ty×Bool):=[(K10,true),(.int .i64,false)]
def H9 (l:D10)(x:D4):=bM ahQ F ab f190 avj avk 2 (l,x,())
def aqt (l:D10)(x:D4):H9 F l x=(o1 F0 l).bind fun a=>(sc F0 l).bind fun b=>br (!b.1) (some (a.1,1,())) ((pT F0 x).bind fun c=>br (!c.1) (some (a.1,1,())) (ck (bh x.1 (l.2.length:Int)) (br (decide (x.2.2.2<(aJ l.2 x.1 0))) (some (a.1,2,())) (ck (bh x.1 (l.2.length:Int)) (br (decide (x.2.2.2>(aJ l.2 x.1 0))) (some (a.1,3,())) (ck (bh x.1 (a.1.2.length:Int)) (ck (bh x.1 (l.1.length:Int)) (br (decide (x.2.2.1>(aJ l.1 x.1 0))) (some ((a.1.1,a.1.2.set x.1.toNat (ak (x.2.2.2+1))),4,())) (ck (bh x.1 (a.1.1.length:Int)) (ck (bh x.1 (a.1.1.length:Int)) (ck (bh x.2.1 ((a.1.1.set x.1.toNat (ak ((aJ a.1.1 x.1 0)-x.2.2.1))).length:Int)) (ck (bh x.2.1 ((a.1.1.set x.1.toNat (ak ((aJ a.1.1 x.1 0)-x.2.2.1))).length:Int)) ((sc F0 ((a.1.1.set x.1.toNat (ak ((aJ a.1.1 x.1 0)-x.2.2.1))).set x.2.1.toNat (ak ((aJ (a.1.1.set x.1.toNat (ak ((aJ a.1.1 x.1 0)-x.2.2.1))) x.2.1 0)+x.2.2.1)),a.1.2.set x.1.toNat (ak (x.2.2.2+1)))).bind fun d=>br (!d.1) ((o1 F0 l).bind fun e=>some (e.1,1,())) (some (((a.1.1.set x.1.toNat (ak ((aJ a.1.1 x.1 0)-x.2.2.1))).set x.2.1.toNat (ak ((aJ (a.1.1.set x.1.toNat (ak ((aJ a.1.1 x.1 0)-x.2.2.1))) x.2.1 0)+x.2.2.1)),a.1.2.set x.1.toNat (ak (x.2.2.2+1))),0,()))))))))))))))):=by kernel_rfl
def Gm:Any:=.one ⟨avj,avk,2,fun x=>H9 F0 x.1 x.2.1⟩
def R6:a8 190 Gm:=aG ahQ ⟨H6,pU,abQ,trivial⟩ func190 ab (by kernel_rfl)
def V4:=[(117,bN)]
def dr (c:D1):=bM V4 F ab f101 EZ aI 1 (c,())
def ahR (c:D1):dr F c=(bD F0 c.1 4 7).bind fun a=>br a.1 ((bD F0 c.2 1 6).bind fun b=>some (b.1,())) (some (false,())):=by kernel_rfl
def b5:Any:=.one ⟨EZ,aI,1,fun x=>dr F0 x.1⟩
def cU:a8 101 b5:=aG V4 ⟨cb,trivial⟩ func101 ab (by kernel_rfl)
def Gn:Nat->Option Hint:=look [(2,{live:=[0,1,5],rl:=[4]})]
def o2 (a:Int)(s:List Int)(i:Int):= bk 41 [(0,a7 a),(1,mU 3 (.int .i64) s),(5,a7 i)]
def vX (a:Bool):= bk 41 [(4,vE a)]
def PJ   := bk 41 []
def vY (a:St):Option U:=eo ax F Gn [.r,.l,.r,.b,.i] f113 J n a
def vZ:=jx ax F Gn [.r,.l,.r,.b] f113 aI 1
def J5 (a:Int)(s:List Int)(i:Int):vY F J (n+1) (o2 a s i)=br (decide (i<(s.length:Int))) (ck (bh i (s.length:Int)) (br (decide ((aJ s i 0)<0)) (J .ret (vX false)) (ck (bh i (s.length:Int)) (br (decide ((aJ s i 0)>=a)) (J .ret (vX false)) (br (decide (i>0)) (ck (bh (ak (i-1)) (s.length:Int)) (ck (bh i (s.length:Int)) (br (decide ((aJ s (ak (i-1)) 0)>=(aJ s i 0))) (J .ret (vX false)) (vY F J n (o2 a s (ak (i+1))))))) (vY F J n (o2 a s (ak (i+1))))))))) (J (.exit 0) (PJ)):=by kernel_rfl
def aeP (a:Bool):vZ F .ret (vX a)=some (a,()):=by kernel_rfl
def abR: vZ F (.exit 0) (PJ)=some (true,()):=by kernel_rfl
abbrev avl:List (Ty×Bool):=[(.int .i64,false),(.sl 3 (.int .i64),false)]
def AL (a:Int)(s:List Int):=bM ax F Gn f113 avl aI 1 (a,s,())
def ak2 (a:Int)(s:List Int):AL F a s=vY F (vZ F) F.n (o2 a s 0):=by kernel_rfl
def v7:Any:=.one ⟨avl,aI,1,fun x=>AL F0 x.1 x.2.1⟩
def L8:a8 113 v7:=aG ax trivial func113 Gn (by kernel_rfl)
def V5:=[(101,b5)]
def u1 (c:D1):=bM V5 F ab f295 EZ c8 1 (c,())
def ahS (c:D1):u1 F c=(dr F0 c).bind fun a=>br (!a.1) (some (0,())) (some (ak (c.1-(ak (Int.tdiv (ak (c.1-1)) 3))),())):=by kernel_rfl
def s3:Any:=.one ⟨EZ,c8,1,fun x=>u1 F0 x.1⟩
def Ia:a8 295 s3:=aG V5 ⟨cU,trivial⟩ func295 ab (by kernel_rfl)
def adW:=[(101,b5),(113,v7),(118,ea),(119,bV),(295,s3)]
abbrev PK:List (Ty×Bool):=[(K1,true),(K9,true)]
def iV (c:D1)(q:D9):=bM adW F ab f251 PK aI 1 (c,q,())
def aoo (c:D1)(q:D9):iV F c q=(dr F0 c).bind fun a=>br (!a.1) (some (false,())) ((ep F0 q.2.1).bind fun b=>br (!b.1) (some (false,())) ((cc F0 q.2.1).bind fun d=>br (d.1 != q.1) (some (false,())) (br (q.2.1.toList==ai.toList) (some ((q.2.2.length:Int)==0,())) ((AL F0 c.1 q.2.2).bind fun e=>br e.1 ((u1 F0 c).bind fun f=>some (decide ((q.2.2.length:Int)>=f.1),())) (some (false,())))))):=by kernel_rfl
def fD:Any:=.one ⟨PK,aI,1,fun x=>iV F0 x.1 x.2.1⟩
def jB:a8 251 fD:=aG adW ⟨cU,L8,fS,cD,Ia,trivial⟩ func251 ab (by kernel_rfl)
def V6:=[(117,bN),(118,ea),(251,fD)]
abbrev adX:List (Ty×Bool):=[(K1,true),(K13,true)]
def hM (c:D1)(s:D13):=bM V6 F ab f177 adX aI 1 (c,s,())
def ahT (c:D1)(s:D13):hM F c s=(bD F0 s.1 0 60).bind fun a=>br a.1 ((bD F0 s.2.1 0 60).bind fun b=>br b.1 ((iV F0 c s.2.2.1).bind fun d=>br d.1 ((ep F0 s.2.2.2).bind fun e=>some (e.1,())) (some (false,()))) (some (false,()))) (some (false,())):=by kernel_rfl
def gz:Any:=.one ⟨adX,aI,1,fun x=>hM F0 x.1 x.2.1⟩
def kW:a8 177 gz:=aG V6 ⟨cb,fS,jB,trivial⟩ func177 ab (by kernel_rfl)
abbrev avm:List (Ty×Bool):=[(K4,true),(K4,true)]
def sd (a b:D4):=bM ax F ab f253 avm aI 1 (a,b,())
def abS (a b:D4):sd F a b=br (decide (a.1<b.1)) (some (true,())) (br (a.1==b.1) (some (decide (a.2.2.2<b.2.2.2),())) (some (false,()))):=by kernel_rfl
def v8:Any:=.one ⟨avm,aI,1,fun x=>sd F0 x.1 x.2.1⟩
def MM:a8 253 v8:=aG ax trivial func253 ab (by kernel_rfl)
def BV:=[(252,kf),(253,v8)]
def BW:Nat->Option Hint:=look [(2,{live:=[0,3],xl:=[0],rl:=[2]})]
def mZ (p:List D4)(i:Int):= bk 36 [(0,mU 99 (K4) p),(3,a7 i)]
def Ep (a:Bool):= bk 36 [(2,vE a)]
def MN (p:List D4):= bk 36 [(0,mU 99 (K4) p)]
def se (a:St):Option U:=eo BV F BW [.r,.l,.r,.b,.i] f178 J n a
def s4:=jx BV F BW [.r,.l,.r,.b] f178 aI 1
def Ib (p:List D4)(i:Int):se F J (n+1) (mZ p i)=br (decide (i<(p.length:Int))) (ck (bh i (p.length:Int)) ((pT F0 (aJ p i K4.aw)).bind fun a=>br (!a.1) (J .ret (Ep false)) (br (decide (i>0)) (ck (bh (ak (i-1)) (p.length:Int)) (ck (bh i (p.length:Int)) ((sd F0 (aJ p (ak (i-1)) K4.aw) (aJ p i K4.aw)).bind fun b=>br (!b.1) (J .ret (Ep false)) (se F J n (mZ p (ak (i+1))))))) (se F J n (mZ p (ak (i+1))))))) (J (.exit 0) (MN p)):=by kernel_rfl
def abT (a:Bool):s4 F .ret (Ep a)=some (a,()):=by kernel_rfl
def ZC (p:List D4):s4 F (.exit 0) (MN p)=some (decide ((p.length:Int)<=12),()):=by kernel_rfl
def Db (p:D5):=bM BV F BW f178 n2 aI 1 (p,())
def ahU (p:D5):Db F p=se F (s4 F) F.n (mZ p 0):=by kernel_rfl
def Er:Any:=.one ⟨n2,aI,1,fun x=>Db F0 x.1⟩
def R7:a8 178 Er:=aG BV ⟨pU,MM,trivial⟩ func178 BW (by kernel_rfl)
def V7:=[(101,b5),(113,v7),(117,bN),(118,ea),(119,bV)]
def jC (c:D1)(p:D9):=bM V7 F ab f254 PK aI 1 (c,p,())
def ahV (c:D1)(p:D9):jC F c p=(dr F0 c).bind fun a=>br (!a.1) (some (false,())) ((bD F0 p.1 1 60).bind fun b=>br (!b.1) (some (false,())) ((AL F0 c.1 p.2.2).bind fun d=>br (!d.1) (some (false,())) (br ((p.2.2.length:Int)==0) (some (false,())) (br (p.2.1.toList==ai.toList) (some (true,())) ((ep F0 p.2.1).bind fun e=>br e.1 ((cc F0 p.2.1).bind fun f=>some (f.1==p.1,())) (some (false,()))))))):=by kernel_rfl
def na:Any:=.one ⟨PK,aI,1,fun x=>jC F0 x.1 x.2.1⟩
def wa:a8 254 na:=aG V7 ⟨cU,L8,cb,fS,cD,trivial⟩ func254 ab (by kernel_rfl)
abbrev E3:List (Ty×Bool):=[(K9,true),(K9,true)]
def o3 (a b:D9):=bM ax F ab f255 E3 aI 1 (a,b,())
def ZD (a b:D9):o3 F a b=br (decide (a.1<b.1)) (some (true,())) (br (a.1==b.1) (some (Op.bytesLess a.2.1.toList b.2.1.toList,())) (some (false,()))):=by kernel_rfl
def uy:Any:=.one ⟨E3,aI,1,fun x=>o3 F0 x.1 x.2.1⟩
def J6:a8 255 uy:=aG ax trivial func255 ab (by kernel_rfl)
end
end Go.Am.Tryz
