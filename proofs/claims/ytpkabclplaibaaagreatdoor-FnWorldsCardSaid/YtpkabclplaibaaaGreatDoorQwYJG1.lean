/- No condition. -/
import Derived.Test.YtpkabclplaibaaaGreatDoorProg
import Derived.Test.YtpkabclplaibaaaGreatDoorQwYJS1
set_option linter.all false
set_option maxRecDepth 100000
namespace Go.Am.Tryz
open Go.Am Go.Proofs Go.Proofs.Tryz
abbrev K1:Ty:=.pair (.int .i64) (.int .i64)
abbrev D1:=Int×Int
abbrev K2:Ty:=.pair (.sl 5 (.int .u8)) (K1)
abbrev D2:=List Int×D1
abbrev K3:Ty:=.pair (.int .i64) (K1)
abbrev D3:=Int×D1
abbrev K4:Ty:=.pair (.int .i64) (K3)
abbrev D4:=Int×D3
abbrev K5:Ty:=.sl 99 (K4)
abbrev D5:=List D4
abbrev K6:Ty:=.pair (.int .i64) (K5)
abbrev D6:=Int×D5
abbrev K7:Ty:=.sl 163 (K6)
abbrev K8:Ty:=.pair (.str) (.sl 3 (.int .i64))
abbrev D8:=ByteArray×List Int
abbrev K9:Ty:=.pair (.int .i64) (K8)
abbrev D9:=Int×D8
abbrev K10:Ty:=.pair (.sl 3 (.int .i64)) (.sl 3 (.int .i64))
abbrev D10:=List Int×List Int
abbrev K11:Ty:=.pair (K9) (.str)
abbrev D11:=D9×ByteArray
abbrev K12:Ty:=.pair (.int .i64) (K11)
abbrev D12:=Int×D11
abbrev K13:Ty:=.pair (.int .i64) (K12)
abbrev D13:=Int×D12
abbrev K14:Ty:=.sl 29 (K9)
abbrev D14:=List D9
abbrev K15:Ty:=.pair (.sl 5 (.int .u8)) (.int .i64)
abbrev D15:=List Int×Int
abbrev K16:Ty:=.pair (.str) (K9)
abbrev D16:=ByteArray×D9
abbrev K17:Ty:=.pair (.int .i64) (K4)
abbrev D17:=Int×D4
abbrev K18:Ty:=.pair (K9) (K17)
abbrev D18:=D9×D17
abbrev K19:Ty:=.pair (K9) (K18)
abbrev D19:=D9×D18
abbrev K20:Ty:=.pair (K16) (K19)
abbrev D20:=D16×D19
abbrev K21:Ty:=.pair (.int .i64) (K20)
abbrev D21:=Int×D20
abbrev K22:Ty:=.pair (.int .i64) (K21)
abbrev T2:=Int×D21
abbrev w5:Ty:=.pair (.int .i64) (K22)
abbrev A7:=Int×T2
abbrev K24:Ty:=.sl 125 (w5)
abbrev D24:=List A7
abbrev K25:Ty:=.pair (K15) (K24)
abbrev D25:=D15×D24
abbrev K26:Ty:=.pair (K14) (K25)
abbrev D26:=D14×D25
abbrev K27:Ty:=.pair (K5) (K26)
abbrev D27:=D5×D26
abbrev K28:Ty:=.pair (K13) (K27)
abbrev D28:=D13×D27
abbrev K29:Ty:=.pair (.int .i64) (K28)
abbrev D29:=Int×D28
abbrev K30:Ty:=.pair (.int .i64) (K29)
abbrev D30:=Int×D29
abbrev ca:Ty:=.pair (.int .i64) (K30)
abbrev bq:=Int×D30
abbrev K32:Ty:=.pair (.int .i64) (.bool)
abbrev D32:=Int×Bool
abbrev K33:Ty:=.pair (.sl 5 (.int .u8)) (K32)
abbrev D33:=List Int×D32
abbrev K34:Ty:=.sl 42 (ca)
abbrev D34:=List bq
abbrev ew:Ty:=.pair (.int .i64) (.sl 5 (.int .u8))
abbrev bS:=Int×List Int
abbrev K36:Ty:=.sl 95 (ew)
abbrev D36:=List bS
abbrev K37:Ty:=.pair (.str) (.int .i64)
abbrev D37:=ByteArray×Int
abbrev cA:Ty:=.pair (.int .i64) (K37)
abbrev bK:=Int×D37
abbrev K39:Ty:=.sl 91 (cA)
abbrev D39:=List bK
abbrev K40:Ty:=.pair (K36) (K39)
abbrev D40:=D36×D39
abbrev K41:Ty:=.pair (K34) (K40)
abbrev D41:=D34×D40
abbrev K42:Ty:=.pair (.sl 3 (.int .i64)) (K41)
abbrev D42:=List Int×D41
abbrev gq:Ty:=.pair (K1) (K42)
abbrev l1:=D1×D42
abbrev K44:Ty:=.pair (.int .i64) (w5)
abbrev D44:=Int×A7
abbrev K45:Ty:=.pair (.int .i64) (K44)
abbrev D45:=Int×D44
def ad:Nat->Option Hint:=look []
def ax:List (Nat×Any):=[]
noncomputable section
variable {U:Type} (C:List (Nat×Any)) (F:nY) (H:Nat->Option Hint)
abbrev bb (f:Nat)(c:Any):Prop:=Gs Tryz.prog TB f c
def bL (b:Func)(a c:List (Ty×Bool))(m:Nat)(x:Args a):=aFG Tryz.prog (look C) F H b a c m x
def fJ (c:Func)(a:List (Ty×Bool))(i:Nat)(d:PM)(e b:List (Ty×Bool))(m:Nat)(x:Args a):=ayq Tryz.prog (look C) F H c a i d e b m x
def ek (p:List At)(a:Func)(J:Ex->St->Option U)(n:Nat)(b:St):Option U:=lp Tryz.prog (look C) F H (sub p (dE a)) J n b
def iR (p:List At)(a:Func)(b:List (Ty×Bool))(m:Nat):=S8 Tryz.prog (look C) F H p (dE a) (TH Tryz.prog a b m)
def Lo (p:List At)(a:Func)(c:PM)(d b:List (Ty×Bool))(m:Nat):=S8 Tryz.prog (look C) F H p (dE a) (aFI Tryz.prog a c d b m)
def dN (n:Nat)(t:List (Nat×AV))(b:List (Nat×List AC))(l:List (Nat×Option eF)):St:={nt:=n,tm:=t,bx:=b,bl:=l}
def bD (n:Nat)(t:List (Nat×AV)):St:={nt:=n,tm:=t,bx:=[],bl:=[]}
def bd (t:Int):AV:=.v (.c (.int .i64 t))
def aq (t:Int):AC:=.int .i64 t
def bX (d:Nat):Nat×AV:=(d,.v (.c (.ptr d 0)))
abbrev aj:ByteArray:=ByteArray.mk #[]
def aF (i:Nat)(e:TypeId)(t:Ty)(x:List t.D):Nat×Option eF:=(i,some ⟨e,t,x,true,true⟩)
def ED (b:Bool):AV:=.v (.c (.bool b))
def ZU (b:ByteArray):AV:=.v (.c (.str b))
def jN (e:Nat)(t:Ty)(x:List t.D):AV:=.v (.c (.ro false e t x))
def aC {f : FuncId} {a : Func} (l : List (Nat × Any)) (e : w4 Tryz.prog TB l) (h : Tryz.prog.funcs[f]? = some a) (H : Nat → Option Hint) {b d : List (Ty × Bool)} {m : Nat} {g : Args b → Option (Args d)} (c : (a.name == "runtime.NumGoroutine" || a.body.isNone, fun x => bL l F0 H a b d m x) = (false, g)) : bb f (.one ⟨b, d, m, g⟩) :=
 ok1 e h (Rq.1 (Oe c).1).1 (Rq.1 (Oe c).1).2 H (Oe c).2
def awL {f : FuncId} {a : Func} (l : List (Nat × Any)) (h : w4 Tryz.prog TB l) (j : Tryz.prog.funcs[f]? = some a) (H : Nat → Option Hint) {b d : List (Ty × Bool)} {i m : Nat} {e : PM} {g : Args b → Option (Args d × Args [])} (c : (a.name == "runtime.NumGoroutine" || a.body.isNone, fun x => fJ l F0 H a b i e d [] m x) = (false, g)) : bb f (.two ⟨b, i, e, d, m, [], g⟩) :=
 ok2 h j (Rq.1 (Oe c).1).1 (Rq.1 (Oe c).1).2 H (Oe c).2
def jh {f : FuncId} {c : Func} (l : List (Nat × Any)) (h : w4 Tryz.prog TB l) (j : Tryz.prog.funcs[f]? = some c) (H : Nat → Option Hint) {a d : List (Ty × Bool)} {i m : Nat} {e : PM} {p : Ty × Bool} {g : Args a → Option (Args d × Args [p])} (b : (kj a i, c.name == "runtime.NumGoroutine" || c.body.isNone, fun x => fJ l F0 H c a i e d [p] m x) = (some p, false, g)) : bb f (.two ⟨a, i, e, d, m, [p], g⟩) :=
 ok3 h j (Rq.1 (Oe (Oe b).2).1).1 (Rq.1 (Oe (Oe b).2).1).2 H (Oe b).1 (Oe (Oe b).2).2
end
noncomputable section
variable {U:Type} (F:nY) (J:Ex->St->Option U) (n:Nat)
abbrev aM:List (Ty×Bool):=[(.bool,false)]
abbrev iY:List (Ty×Bool):=[(.sl 5 (.int .u8),false)]
def akq (a:List Int):=bL ax F ad f6 iY aM 1 (a,())
def atS (a:List Int):akq F a=some (decide ((a.length:Int)>1048576),()):=by kernel_rfl
def abI:Any:=.one ⟨iY,aM,1,fun x=>akq F0 x.1⟩
def atT:bb 6 abI:=aC ax trivial func6 ad (by kernel_rfl)
def HC:Nat->Option Hint:=look [(3,{live:=[0,3,4],xl:=[0,3],rl:=[2]})]
def w6 (a:List Int)(h i:Int)(p:List Int):St:={nt:=32,tm:=[(0,jN 5 (.int .u8) a),(3,bd h),(4,bd i)],bx:=[],bl:=[],sp:=jN 5 (.int .u8) p}
def FD (a:List Int)(h:Int)(p:List Int):St:={nt:=32,tm:=[(0,jN 5 (.int .u8) a),(3,bd h)],bx:=[],bl:=[],sp:=jN 5 (.int .u8) p}
def HD (a:St):Option U:=ek ax F HC [.r,.r,.l,.r,.b,.i] f59 J n a
abbrev bs:List (Ty×Bool):=[(K2,true)]
def Js:=Lo ax F HC [.r,.r,.l,.r,.b] f59 .rd bs [] 5
def LB (a:List Int)(h i:Int)(p:List Int):HD F J (n+1) (w6 a h i p)=br (decide (i<(a.length:Int))) (br (decide (i<4000)) (ck (bG i (a.length:Int)) (HD F J n (w6 a (al (((BitVec.ofInt 64 (al ((al ((al (h*131))+(al (aL a i 0))))+7)) &&& BitVec.ofInt 64 1073741823).toNat:Int))) (al (i+1)) p))) (J (.exit 0) (FD a h p))) (J (.exit 0) (FD a h p)):=by kernel_rfl
def Ov (a:List Int)(h:Int)(p:List Int):Js F (.exit 0) (FD a h p)=some (((a,0,h),()),()):=by kernel_rfl
def pB (a:List Int):=fJ ax F HC f59 iY 0 .rd bs [] 5 (a,())
def anY (a:List Int):pB F a=HD F (Js F) F.n (w6 a (al (26583+(a.length:Int))) 0 a):=by kernel_rfl
def pC:Any:=.two ⟨iY,0,.rd,bs,5,[],fun x=>pB F0 x.1⟩
def CW:bb 59 pC:=awL ax trivial func59 HC (by kernel_rfl)
abbrev dq:List (Ty×Bool):=[(.int .i64,false)]
def jO (c:D2):=fJ ax F ad f164 bs 0 .cur dq bs 1 (c,())
def akr (c:D2):jO F c=br (decide (c.2.1<(c.1.length:Int))) (ck (bG c.2.1 (c.1.length:Int)) (some ((al (((BitVec.ofInt 64 (al ((al (((BitVec.ofInt 64 (al (((BitVec.ofInt 64 (Int.fdiv (al ((al (c.2.2*6364136223846793005))+1442695040888963407)) (2 ^ (min (33:Int).toNat 64))) ^^^ BitVec.ofInt 64 (Int.fdiv (al ((al (c.2.2*6364136223846793005))+1442695040888963407)) (2 ^ (min (45:Int).toNat 64)))).toNat:Int))) &&& BitVec.ofInt 64 255).toNat:Int)))+(al (aL c.1 c.2.1 0)))) &&& BitVec.ofInt 64 255).toNat:Int)),()),(c.1,al (c.2.1+1),al ((al (c.2.2*6364136223846793005))+1442695040888963407)),()))) (some ((al (((BitVec.ofInt 64 (al (((BitVec.ofInt 64 (Int.fdiv (al ((al (c.2.2*6364136223846793005))+1442695040888963407)) (2 ^ (min (33:Int).toNat 64))) ^^^ BitVec.ofInt 64 (Int.fdiv (al ((al (c.2.2*6364136223846793005))+1442695040888963407)) (2 ^ (min (45:Int).toNat 64)))).toNat:Int))) &&& BitVec.ofInt 64 255).toNat:Int)),()),(c.1,c.2.1,al ((al (c.2.2*6364136223846793005))+1442695040888963407)),())):=by kernel_rfl
def Rv:Any:=.two ⟨bs,0,.cur,dq,1,bs,fun x=>jO F0 x.1⟩
def aks:bb 164 Rv:=jh ax trivial func164 ad (by kernel_rfl)
def T3:=[(164,Rv)]
abbrev apB:List (Ty×Bool):=[(K2,true),(.int .i64,false)]
def af (c:D2)(a:Int):=fJ T3 F ad f98 apB 0 .cur dq bs 1 (c,a,())
def FE (c:D2)(a:Int):af F c a=br (decide (a<=0)) (some ((0,()),c,())) (br (decide (a<=256)) ((jO F0 c).bind fun b=>ck (!(a==0)) (some ((Int.tmod b.1.1 a,()),b.2.1,()))) ((jO F0 c).bind fun d=>(jO F0 d.2.1).bind fun e=>(jO F0 e.2.1).bind fun f=>(jO F0 f.2.1).bind fun g=>ck (!(a==0)) (some ((Int.tmod (al ((al ((al ((al (d.1.1*16777216))+(al (e.1.1*65536))))+(al (f.1.1*256))))+g.1.1)) a,()),g.2.1,())))):=by kernel_rfl
def av:Any:=.two ⟨apB,0,.cur,dq,1,bs,fun x=>af F0 x.1 x.2.1⟩
def ay:bb 98 av:=jh T3 ⟨aks,trivial⟩ func98 ad (by kernel_rfl)
def CX:Nat->Option Hint:=look [(2,{live:=[0,1,5],rl:=[4]})]
def tJ (s:List Int)(i k:Int):= bD 18 [(0,jN 3 (.int .i64) s),(1,bd i),(5,bd k)]
def Rw (a:Bool):= bD 18 [(4,ED a)]
def Ow   := bD 18 []
def CY (a:St):Option U:=ek ax F CX [.r,.l,.r,.b,.i] f83 J n a
def tK:=iR ax F CX [.r,.l,.r,.b] f83 aM 1
def Jt (s:List Int)(i k:Int):CY F J (n+1) (tJ s i k)=br (decide (k<(s.length:Int))) (ck (bG k (s.length:Int)) (br ((aL s k 0)==i) (J .ret (Rw true)) (CY F J n (tJ s i (al (k+1)))))) (J (.exit 0) (Ow)):=by kernel_rfl
def aec (a:Bool):tK F .ret (Rw a)=some (a,()):=by kernel_rfl
def abJ: tK F (.exit 0) (Ow)=some (false,()):=by kernel_rfl
abbrev X1:List (Ty×Bool):=[(.sl 3 (.int .i64),false),(.int .i64,false)]
def cS (s:List Int)(i:Int):=bL ax F CX f83 X1 aM 1 (s,i,())
def akt (s:List Int)(i:Int):cS F s i=CY F (tK F) F.n (tJ s i 0):=by kernel_rfl
def cJ:Any:=.one ⟨X1,aM,1,fun x=>cS F0 x.1 x.2.1⟩
def dr:bb 83 cJ:=aC ax trivial func83 CX (by kernel_rfl)
def CZ:=[(83,cJ)]
def C0:Nat->Option Hint:=look [(4,{live:=[0,1,5],xl:=[0,1,5],rl:=[4]})]
def tL (s:List Int)(i a:Int):= bD 41 [(0,jN 3 (.int .i64) s),(1,bd i),(5,bd a)]
def rf (s:List Int)(i a:Int):= bD 41 [(0,jN 3 (.int .i64) s),(1,bd i),(5,bd a)]
def C1 (a:St):Option U:=ek CZ F C0 [.r,.r,.r,.l,.b,.i] f120 J n a
abbrev pt:List (Ty×Bool):=[(.sl 3 (.int .i64),false)]
def tM:=iR CZ F C0 [.r,.r,.r,.l,.b] f120 pt 2
def Ju (s:List Int)(i a:Int):C1 F J (n+1) (tL s i a)=br (decide (a<(s.length:Int))) (ck (bG a (s.length:Int)) (br (decide ((aL s a 0)<i)) (C1 F J n (tL s i (al (a+1)))) (J (.exit 0) (rf s i a)))) (J (.exit 0) (rf s i a)):=by kernel_rfl
def abK (s:List Int)(i a:Int):tM F (.exit 0) (rf s i a)=ck (Qw 0 a (s.length:Int)) (ck (dV F 0 ((s.take a.toNat).drop (0:Int).toNat).length 8) (ck (dV F ([]++((s.take a.toNat).drop (0:Int).toNat)).length [i].length 8) (ck (Qw a (s.length:Int) (s.length:Int)) (ck (dV F (([]++((s.take a.toNat).drop (0:Int).toNat))++[i]).length ((s.take (s.length:Int).toNat).drop a.toNat).length 8) (some ((([]++((s.take a.toNat).drop (0:Int).toNat))++[i])++((s.take (s.length:Int).toNat).drop a.toNat),())))))):=by kernel_rfl
def l5 (s:List Int)(i:Int):=bL CZ F C0 f120 X1 pt 2 (s,i,())
def aku (s:List Int)(i:Int):l5 F s i=(cS F0 s i).bind fun a=>br a.1 (ck (dV F 0 s.length 8) (some ([]++s,()))) (C1 F (tM F) F.n (tL s i 0)):=by kernel_rfl
def nA:Any:=.one ⟨X1,pt,2,fun x=>l5 F0 x.1 x.2.1⟩
def w7:bb 120 nA:=aC CZ ⟨dr,trivial⟩ func120 C0 (by kernel_rfl)
def X2:=[(98,av)]
def c7 (c:D2)(a:Int):=fJ X2 F ad f97 apB 0 .cur aM bs 1 (c,a,())
def akv (c:D2)(a:Int):c7 F c a=(af F0 c a).bind fun b=>some ((b.1.1==0,()),b.2.1,()):=by kernel_rfl
def cl:Any:=.two ⟨apB,0,.cur,aM,1,bs,fun x=>c7 F0 x.1 x.2.1⟩
def c0:bb 97 cl:=jh X2 ⟨ay,trivial⟩ func97 ad (by kernel_rfl)
def Ox:=[(98,av)]
abbrev aFi:List (Ty×Bool):=[(K2,true),(.sl 3 (.int .i64),false)]
def aZ (c:D2)(a:List Int):=fJ Ox F ad f121 aFi 0 .cur dq bs 1 (c,a,())
def abL (c:D2)(a:List Int):aZ F c a=(af F0 c (a.length:Int)).bind fun b=>ck (bG b.1.1 (a.length:Int)) (some ((aL a b.1.1 0,()),b.2.1,())):=by kernel_rfl
def bN:Any:=.two ⟨aFi,0,.cur,dq,1,bs,fun x=>aZ F0 x.1 x.2.1⟩
def b6:bb 121 bN:=jh Ox ⟨ay,trivial⟩ func121 ad (by kernel_rfl)
def rh:=[(97,cl),(98,av),(120,nA),(121,bN)]
def ri:Nat->Option Hint:=look [(3,{live:=[0,1,5,6],xl:=[0,5],rl:=[4]})]
def mj (a i:Int)(b:List Int)(c d:Int)(e:List Int):St:={nt:=28,tm:=[(0,.v (.c (.ptr 4000000 0))),(1,bd a),(5,.v (.c (.own 1000000 none))),(6,bd i)],bx:=[(4000000,[.ro true 5 (.int .u8) b,aq c,aq d])],bl:=[aF 1000000 3 (.int .i64) e],sp:=.v (.c (.ptr 4000000 0))}
def sR (a:List Int)(b c:Int)(d:List Int):St:={nt:=28,tm:=[(0,.v (.c (.ptr 4000000 0))),(5,.v (.c (.own 1000000 none)))],bx:=[(4000000,[.ro true 5 (.int .u8) a,aq b,aq c])],bl:=[aF 1000000 3 (.int .i64) d],sp:=.v (.c (.ptr 4000000 0))}
def rj (a:St):Option U:=ek rh F ri [.r,.r,.l,.r,.b,.i] f58 J n a
def ml:=Lo rh F ri [.r,.r,.l,.r,.b] f58 .cur pt bs 2
def Be (c i:Int)(e:List Int)(f g:Int)(d:List Int):rj F J (n+1) (mj c i e f g d)=(af F0 (e,f,g) 8).bind fun a=>br (decide (i<a.1.1)) ((af F0 a.2.1 c).bind fun b=>(l5 F0 d b.1.1).bind fun h=>rj F J n (mj c (al (i+1)) b.2.1.1 b.2.1.2.1 b.2.1.2.2 h.1)) (J (.exit 0) (sR a.2.1.1 a.2.1.2.1 a.2.1.2.2 d)):=by kernel_rfl
def T4 (d:List Int)(e f:Int)(a:List Int):ml F (.exit 0) (sR d e f a)=(c7 F0 (d,e,f) 12).bind fun b=>br b.1.1 ((aZ F0 b.2.1 [(-1),0,3,9]).bind fun c=>ck (dV F a.length [c.1.1].length 8) (some ((a++[c.1.1],()),c.2.1,()))) (some ((a,()),b.2.1,())):=by kernel_rfl
def il (c:D2)(a:Int):=fJ rh F ri f58 apB 0 .cur pt bs 2 (c,a,())
def abM (c:D2)(a:Int):il F c a=rj F (ml F) F.n (mj a 0 c.1 c.2.1 c.2.2 []):=by kernel_rfl
def iq:Any:=.two ⟨apB,0,.cur,pt,2,bs,fun x=>il F0 x.1 x.2.1⟩
def oE:bb 58 iq:=jh rh ⟨c0,ay,w7,b6,trivial⟩ func58 ri (by kernel_rfl)
def LC:=[(98,av)]
abbrev Gt:List (Ty×Bool):=[(K1,true)]
def tN (c:D2):=fJ LC F ad f61 bs 0 .cur Gt bs 1 (c,())
def ZV (c:D2):tN F c=(af F0 c 4).bind fun a=>(af F0 a.2.1 3).bind fun b=>some (((al (4+a.1.1),al (1+b.1.1)),()),b.2.1,()):=by kernel_rfl
def Gu:Any:=.two ⟨bs,0,.cur,Gt,1,bs,fun x=>tN F0 x.1⟩
def ZW:bb 61 Gu:=jh LC ⟨ay,trivial⟩ func61 ad (by kernel_rfl)
def Jv:=[(98,av),(121,bN)]
abbrev Rx:List (Ty×Bool):=[(K4,true)]
def c3 (c:D2):=fJ Jv F ad f186 bs 0 .cur Rx bs 1 (c,())
def Xl (c:D2):c3 F c=(af F0 c 4).bind fun a=>(af F0 a.2.1 4).bind fun b=>(aZ F0 b.2.1 [0,5,60,100,1000]).bind fun d=>(af F0 d.2.1 3).bind fun e=>some (((a.1.1,b.1.1,d.1.1,e.1.1),()),e.2.1,()):=by kernel_rfl
def cT:Any:=.two ⟨bs,0,.cur,Rx,1,bs,fun x=>c3 F0 x.1⟩
def dO:bb 186 cT:=jh Jv ⟨ay,b6,trivial⟩ func186 ad (by kernel_rfl)
abbrev ayN:List (Ty×Bool):=[(.int .i64,false),(.int .i64,false),(.int .i64,false)]
def bI (x a b:Int):=bL ax F ad f117 ayN aM 1 (x,a,b,())
def arB (x a b:Int):bI F x a b=br (decide (x>=a)) (some (decide (x<=b),())) (some (false,())):=by kernel_rfl
def bW:Any:=.one ⟨ayN,aM,1,fun x=>bI F0 x.1 x.2.1 x.2.2.1⟩
def cq:bb 117 bW:=aC ax trivial func117 ad (by kernel_rfl)
def agx:=[(117,bW)]
def rk (x:D4):=bL agx F ad f252 Rx aM 1 (x,())
def arC (x:D4):rk F x=(bI F0 x.1 0 3).bind fun a=>br a.1 ((bI F0 x.2.1 0 3).bind fun b=>br b.1 ((bI F0 x.2.2.1 0 1000).bind fun c=>br c.1 ((bI F0 x.2.2.2 0 99).bind fun d=>some (d.1,())) (some (false,()))) (some (false,()))) (some (false,())):=by kernel_rfl
def km:Any:=.one ⟨Rx,aM,1,fun x=>rk F0 x.1⟩
def rm:bb 252 km:=aC agx ⟨cq,trivial⟩ func252 ad (by kernel_rfl)
def C2:Nat->Option Hint:=look [(5,{live:=[0,3,4],xl:=[3,4],rl:=[2]})]
def nB (a:Int)(b:Bool)(c:ByteArray):= bD 31 [(0,bd a),(3,ED b),(4,ZU c)]
def Oy (a:Bool)(b:ByteArray):= bD 31 [(3,ED a),(4,ZU b)]
def s7 (a:St):Option U:=ek ax F C2 [.r,.r,.r,.r,.l,.b,.i] f68 J n a
abbrev df:List (Ty×Bool):=[(.str,false)]
def FF:=iR ax F C2 [.r,.r,.r,.r,.l,.b] f68 df 1
def Jw (a:Int)(c:Bool)(b:ByteArray):s7 F J (n+1) (nB a c b)=br (a != 0) (br (decide ((Int.tmod a 10)<0)) (ck (Ru F (strOf [IntKind.wrap .u8 (al (48+(al (0-(Int.tmod a 10)))))]).size b.size) (s7 F J n (nB (al (Int.tdiv a 10)) c ((strOf [IntKind.wrap .u8 (al (48+(al (0-(Int.tmod a 10)))))])++b)))) (ck (Ru F (strOf [IntKind.wrap .u8 (al (48+(Int.tmod a 10)))]).size b.size) (s7 F J n (nB (al (Int.tdiv a 10)) c ((strOf [IntKind.wrap .u8 (al (48+(Int.tmod a 10)))])++b))))) (J (.exit 0) (Oy c b)):=by kernel_rfl
def abN (b:Bool)(a:ByteArray):FF F (.exit 0) (Oy b a)=br b (ck (Ru F (ByteArray.mk #[45]).size a.size) (some ((ByteArray.mk #[45])++a,()))) (some (a,())):=by kernel_rfl
def hQ (a:Int):=bL ax F C2 f68 dq df 1 (a,())
def akw (a:Int):hQ F a=br (a==0) (some (ByteArray.mk #[48],())) (s7 F (FF F) F.n (nB a (decide (a<0)) aj)):=by kernel_rfl
def nC:Any:=.one ⟨dq,df,1,fun x=>hQ F0 x.1⟩
def w8:bb 68 nC:=aC ax trivial func68 C2 (by kernel_rfl)
def X3:=[(68,nC),(252,km)]
def vZ (x:D4):=bL X3 F ad f296 Rx df 1 (x,())
def akx (x:D4):vZ F x=(rk F0 x).bind fun e=>br (!e.1) (some (aj,())) ((hQ F0 x.1).bind fun a=>ck (Ru F a.1.size (ByteArray.mk #[62]).size) ((hQ F0 x.2.1).bind fun b=>ck (Ru F (a.1++(ByteArray.mk #[62])).size b.1.size) (ck (Ru F ((a.1++(ByteArray.mk #[62]))++b.1).size (ByteArray.mk #[58]).size) ((hQ F0 x.2.2.1).bind fun c=>ck (Ru F (((a.1++(ByteArray.mk #[62]))++b.1)++(ByteArray.mk #[58])).size c.1.size) (ck (Ru F ((((a.1++(ByteArray.mk #[62]))++b.1)++(ByteArray.mk #[58]))++c.1).size (ByteArray.mk #[35]).size) ((hQ F0 x.2.2.2).bind fun d=>ck (Ru F (((((a.1++(ByteArray.mk #[62]))++b.1)++(ByteArray.mk #[58]))++c.1)++(ByteArray.mk #[35])).size d.1.size) (some ((((((a.1++(ByteArray.mk #[62]))++b.1)++(ByteArray.mk #[58]))++c.1)++(ByteArray.mk #[35]))++d.1,())))))))):=by kernel_rfl
def FG:Any:=.one ⟨Rx,df,1,fun x=>vZ F0 x.1⟩
def T5:bb 296 FG:=aC X3 ⟨w8,rm,trivial⟩ func296 ad (by kernel_rfl)
def w9:=[(252,km),(296,FG)]
def xt:Nat->Option Hint:=look [(3,{live:=[0,3,4],xl:=[3],rl:=[2]})]
def k0 (a:List D4)(b:ByteArray)(i:Int):= bD 29 [(0,jN 99 (K4) a),(3,ZU b),(4,bd i)]
def Oz (a:ByteArray):= bD 29 [(2,ZU a)]
def LD (a:ByteArray):= bD 29 [(3,ZU a)]
def pD (a:St):Option U:=ek w9 F xt [.r,.r,.l,.r,.b,.i] f259 J n a
def rn:=iR w9 F xt [.r,.r,.l,.r,.b] f259 df 1
def Gv (a:List D4)(b:ByteArray)(i:Int):pD F J (n+1) (k0 a b i)=br (decide (i<(a.length:Int))) (ck (bG i (a.length:Int)) ((rk F0 (aL a i K4.az)).bind fun d=>br (!d.1) (J .ret (Oz aj)) (br (decide (i>0)) (ck (Ru F b.size (ByteArray.mk #[44]).size) (ck (bG i (a.length:Int)) ((vZ F0 (aL a i K4.az)).bind fun c=>ck (Ru F (b++(ByteArray.mk #[44])).size c.1.size) (pD F J n (k0 a ((b++(ByteArray.mk #[44]))++c.1) (al (i+1))))))) (ck (bG i (a.length:Int)) ((vZ F0 (aL a i K4.az)).bind fun c=>ck (Ru F b.size c.1.size) (pD F J n (k0 a (b++c.1) (al (i+1))))))))) (J (.exit 0) (LD b)):=by kernel_rfl
def abO (a:ByteArray):rn F .ret (Oz a)=some (a,()):=by kernel_rfl
def ZX (a:ByteArray):rn F (.exit 0) (LD a)=some (a,()):=by kernel_rfl
abbrev kv:List (Ty×Bool):=[(K5,false)]
def HE (a:D5):=bL w9 F xt f259 kv df 1 (a,())
def ahu (a:D5):HE F a=pD F (rn F) F.n (k0 a aj 0):=by kernel_rfl
def OA:Any:=.one ⟨kv,df,1,fun x=>HE F0 x.1⟩
def ahv:bb 259 OA:=aC w9 ⟨rm,T5,trivial⟩ func259 xt (by kernel_rfl)
def HF:Nat->Option Hint:=look [(4,{live:=[0,1,5,6,7],xl:=[5],rl:=[4]})]
def k1 (s:ByteArray)(a b i:Int)(c:List ByteArray):= dN 36 [(0,ZU s),(1,.v (.c (.int .u8 a))),(5,.v (.c (.own 1000000 none))),(6,bd b),(7,bd i)] [] [aF 1000000 9 (.str) c]
def Ry (a:List ByteArray):= dN 36 [(5,.v (.c (.own 1000000 none)))] [] [aF 1000000 9 (.str) a]
def rq (a:St):Option U:=ek ax F HF [.r,.r,.r,.l,.r,.b,.i] f215 J n a
abbrev atU:List (Ty×Bool):=[(.sl 9 (.str),false)]
def Jx:=iR ax F HF [.r,.r,.r,.l,.r,.b] f215 atU 2
def LF (s:ByteArray)(c a i:Int)(b:List ByteArray):rq F J (n+1) (k1 s c a i b)=br (decide (i<=(s.size:Int))) (br (i==(s.size:Int)) (ck (Qw a i (s.size:Int)) (ck (dV F b.length [s.extract a.toNat i.toNat].length 16) (rq F J n (k1 s c (al (i+1)) (al (i+1)) (b++[s.extract a.toNat i.toNat]))))) (ck (bG i (s.size:Int)) (br ((ij s i)==c) (ck (Qw a i (s.size:Int)) (ck (dV F b.length [s.extract a.toNat i.toNat].length 16) (rq F J n (k1 s c (al (i+1)) (al (i+1)) (b++[s.extract a.toNat i.toNat]))))) (rq F J n (k1 s c a (al (i+1)) b))))) (J (.exit 0) (Ry b)):=by kernel_rfl
def aed (a:List ByteArray):Jx F (.exit 0) (Ry a)=some (a,()):=by kernel_rfl
abbrev X4:List (Ty×Bool):=[(.str,false),(.int .u8,false)]
def vo (s:ByteArray)(a:Int):=bL ax F HF f215 X4 atU 2 (s,a,())
def anZ (s:ByteArray)(a:Int):vo F s a=rq F (Jx F) F.n (k1 s a 0 0 []):=by kernel_rfl
def Jy:Any:=.one ⟨X4,atU,2,fun x=>vo F0 x.1 x.2.1⟩
def X5:bb 215 Jy:=aC ax trivial func215 HF (by kernel_rfl)
def HG:Nat->Option Hint:=look [(2,{live:=[0,1,7],rl:=[4,5,6]})]
def xx (s:ByteArray)(a i:Int):= bD 26 [(0,ZU s),(1,.v (.c (.int .u8 a))),(7,bd i)]
def T6 (a b:ByteArray)(c:Bool):= bD 26 [(4,ZU a),(5,ZU b),(6,ED c)]
def Rz   := bD 26 []
def HH (a:St):Option U:=ek ax F HG [.r,.l,.r,.b,.i] f216 J n a
abbrev aB8:List (Ty×Bool):=[(.str,false),(.str,false),(.bool,false)]
def xJ:=iR ax F HG [.r,.l,.r,.b] f216 aB8 1
def LG (s:ByteArray)(a i:Int):HH F J (n+1) (xx s a i)=br (decide (i<(s.size:Int))) (ck (bG i (s.size:Int)) (br ((ij s i)==a) (ck (Qw 0 i (s.size:Int)) (ck (Qw (al (i+1)) (s.size:Int) (s.size:Int)) (J .ret (T6 (s.extract (0:Int).toNat i.toNat) (s.extract (al (i+1)).toNat (s.size:Int).toNat) true)))) (HH F J n (xx s a (al (i+1)))))) (J (.exit 0) (Rz)):=by kernel_rfl
def ahw (a b:ByteArray)(c:Bool):xJ F .ret (T6 a b c)=some (a,b,c,()):=by kernel_rfl
def aee: xJ F (.exit 0) (Rz)=some (aj,aj,false,()):=by kernel_rfl
def gL (s:ByteArray)(a:Int):=bL ax F HG f216 X4 aB8 1 (s,a,())
def an0 (s:ByteArray)(a:Int):gL F s a=HH F (xJ F) F.n (xx s a 0):=by kernel_rfl
def Jz:Any:=.one ⟨X4,aB8,1,fun x=>gL F0 x.1 x.2.1⟩
def X6:bb 216 Jz:=aC ax trivial func216 HG (by kernel_rfl)
def C3:=[(68,nC)]
def C4:Nat->Option Hint:=look [(5,{live:=[0,4,5],xl:=[0,4],rl:=[2,3]})]
def tO (s:ByteArray)(a i:Int):= bD 43 [(0,ZU s),(4,bd a),(5,bd i)]
def FH (a:Int)(b:Bool):= bD 43 [(2,bd a),(3,ED b)]
def OB (s:ByteArray)(a:Int):= bD 43 [(0,ZU s),(4,bd a)]
def C5 (a:St):Option U:=ek C3 F C4 [.r,.r,.r,.l,.r,.b,.i] f217 J n a
abbrev apC:List (Ty×Bool):=[(.int .i64,false),(.bool,false)]
def tP:=iR C3 F C4 [.r,.r,.r,.l,.r,.b] f217 apC 1
def JA (s:ByteArray)(a i:Int):C5 F J (n+1) (tO s a i)=br (decide (i<(s.size:Int))) (ck (bG i (s.size:Int)) (br (decide ((ij s i)<48)) (J .ret (FH 0 false)) (ck (bG i (s.size:Int)) (br (decide ((ij s i)>57)) (J .ret (FH 0 false)) (ck (bG i (s.size:Int)) (C5 F J n (tO s (al ((al ((al (10*a))+(al (ij s i))))-48)) (al (i+1))))))))) (J (.exit 0) (OB s a)):=by kernel_rfl
def aef (a:Int)(b:Bool):tP F .ret (FH a b)=some (a,b,()):=by kernel_rfl
def abP (s:ByteArray)(a:Int):tP F (.exit 0) (OB s a)=(hQ F0 a).bind fun b=>br (!(b.1.toList==s.toList)) (some (0,false,())) (some (a,true,())):=by kernel_rfl
def l6 (s:ByteArray):=bL C3 F C4 f217 df apC 1 (s,())
def aky (s:ByteArray):l6 F s=br (decide ((s.size:Int)<1)) (some (0,false,())) (br (decide ((s.size:Int)>6)) (some (0,false,())) (C5 F (tP F) F.n (tO s 0 0))):=by kernel_rfl
def FI:Any:=.one ⟨df,apC,1,fun x=>l6 F0 x.1⟩
def T7:bb 217 FI:=aC C3 ⟨w8,trivial⟩ func217 C4 (by kernel_rfl)
def agy:=[(216,Jz),(217,FI),(296,FG)]
abbrev ayO:List (Ty×Bool):=[(K4,true),(.bool,false)]
def WM (s:ByteArray):=bL agy F ad f279 df ayO 1 (s,())
def arD (s:ByteArray):WM F s=(gL F0 s 62).bind fun a=>(gL F0 a.2.1 58).bind fun b=>(gL F0 b.2.1 35).bind fun c=>(l6 F0 a.1).bind fun d=>(l6 F0 b.1).bind fun e=>(l6 F0 c.1).bind fun f=>(l6 F0 c.2.1).bind fun g=>br (s.toList==aj.toList) (some ((0,0,0,0),false,())) ((vZ F0 (d.1,e.1,f.1,g.1)).bind fun h=>br (!(h.1.toList==s.toList)) (some ((0,0,0,0),false,())) (some ((d.1,e.1,f.1,g.1),true,()))):=by kernel_rfl
def X7:Any:=.one ⟨df,ayO,1,fun x=>WM F0 x.1⟩
def arE:bb 279 X7:=aC agy ⟨X6,T7,T5,trivial⟩ func279 ad (by kernel_rfl)
def HI:=[(215,Jy),(279,X7)]
def HJ:Nat->Option Hint:=look [(6,{live:=[4,5,6],xl:=[4],rl:=[2,3]})]
def xU (i:Int)(b:List D4)(a:List ByteArray):= dN 37 [(4,.v (.c (.own 1000000 none))),(5,.v (.c (.own 1000001 none))),(6,bd i)] [] [aF 1000000 99 K4 b,aF 1000001 9 (.str) a]
def T8 (a:Bool)(b:List D4):= dN 37 [(2,.v (.c (.own 1000000 none))),(3,ED a)] [] [aF 1000000 99 K4 b]
def RA (a:List D4):= dN 37 [(4,.v (.c (.own 1000000 none)))] [] [aF 1000000 99 K4 a]
def HK (a:St):Option U:=ek HI F HJ [.r,.r,.r,.r,.l,.r,.b,.i] f218 J n a
abbrev abQ:List (Ty×Bool):=[(K5,false),(.bool,false)]
def xV:=iR HI F HJ [.r,.r,.r,.r,.l,.r,.b] f218 abQ 2
def LH (i:Int)(b:List D4)(a:List ByteArray):HK F J (n+1) (xU i b a)=br (decide (i<(a.length:Int))) (ck (bG i (a.length:Int)) ((WM F0 (aL a i ByteArray.empty)).bind fun c=>br (!c.2.1) (J .ret (T8 false [])) (ck (dV F b.length [c.1].length 32) (HK F J n (xU (al (i+1)) (b++[c.1]) a))))) (J (.exit 0) (RA b)):=by kernel_rfl
def ahx (a:Bool)(b:List D4):xV F .ret (T8 a b)=some (b,a,()):=by kernel_rfl
def aeg (a:List D4):xV F (.exit 0) (RA a)=some (a,true,()):=by kernel_rfl
def B0 (s:ByteArray):=bL HI F HJ f218 df abQ 2 (s,())
def an1 (s:ByteArray):B0 F s=br (s.toList==aj.toList) (some ([],true,())) ((vo F0 s 44).bind fun a=>HK F (xV F) F.n (xU 0 [] a.1)):=by kernel_rfl
def T9:Any:=.one ⟨df,abQ,2,fun x=>B0 F0 x.1⟩
def an2:bb 218 T9:=aC HI ⟨X5,arE,trivial⟩ func218 HJ (by kernel_rfl)
def HL:=[(215,Jy),(216,Jz),(217,FI),(218,T9)]
def HM:Nat->Option Hint:=look [(10,{live:=[4,5,6,7,8],xl:=[5],rl:=[2,3]})]
def x0 (c i:Int)(d a:List D6)(b:List ByteArray):= dN 91 [(4,.v (.c (.own 1000000 none))),(5,.v (.c (.own 1000001 none))),(6,.v (.c (.own 1000002 none))),(7,bd c),(8,bd i)] [] [aF 1000000 163 K6 d,aF 1000001 163 K6 a,aF 1000002 9 (.str) b]
def ir (a:Bool)(b:List D6):= dN 91 [(2,.v (.c (.own 1000000 none))),(3,ED a)] [] [aF 1000000 163 K6 b]
def RB (a:List D6):= dN 91 [(5,.v (.c (.own 1000000 none)))] [] [aF 1000000 163 K6 a]
def HN (a:St):Option U:=ek HL F HM [.r,.r,.r,.r,.r,.r,.r,.l,.r,.b,.i] f142 J n a
abbrev apD:List (Ty×Bool):=[(K7,false),(.bool,false)]
def x1:=iR HL F HM [.r,.r,.r,.r,.r,.r,.r,.l,.r,.b] f142 apD 2
def LI (g i:Int)(a d:List D6)(c:List ByteArray):HN F J (n+1) (x0 g i a d c)=br (decide (i<(c.length:Int))) (ck (bG i (c.length:Int)) ((gL F0 (aL c i ByteArray.empty) 124).bind fun f=>(l6 F0 f.1).bind fun b=>(B0 F0 f.2.1).bind fun e=>br (!f.2.2.1) (J .ret (ir false a)) (br (!b.2.1) (J .ret (ir false a)) (br (!e.2.1) (J .ret (ir false a)) (br (decide (b.1<=g)) (J .ret (ir false a)) (br (decide (b.1>60)) (J .ret (ir false a)) (br (decide ((e.1.length:Int)>2)) (J .ret (ir false a)) (ck (dV F d.length [(b.1,e.1)].length 32) (HN F J n (x0 b.1 (al (i+1)) a (d++[(b.1,e.1)]) c)))))))))) (J (.exit 0) (RB d)):=by kernel_rfl
def RC (a:Bool)(b:List D6):x1 F .ret (ir a b)=some (b,a,()):=by kernel_rfl
def aeh (a:List D6):x1 F (.exit 0) (RB a)=some (a,true,()):=by kernel_rfl
def pE (s:ByteArray):=bL HL F HM f142 df apD 2 (s,())
def an3 (s:ByteArray):pE F s=br (s.toList==aj.toList) (some ([],true,())) ((vo F0 s 47).bind fun a=>ck (bG 0 (a.1.length:Int)) (br (!((aL a.1 0 ByteArray.empty).toList==aj.toList)) (some ([],false,())) (br (decide ((a.1.length:Int)>31)) (some ([],false,())) (HN F (x1 F) F.n (x0 0 1 [] [] a.1))))):=by kernel_rfl
def pF:Any:=.one ⟨df,apD,2,fun x=>pE F0 x.1⟩
def C6:bb 142 pF:=aC HL ⟨X5,X6,T7,an2,trivial⟩ func142 HM (by kernel_rfl)
def X8:=[(142,pF)]
def ey (s:ByteArray):=bL X8 F ad f118 df aM 1 (s,())
def akz (s:ByteArray):ey F s=(pE F0 s).bind fun a=>some (a.2.1,()):=by kernel_rfl
def ed:Any:=.one ⟨df,aM,1,fun x=>ey F0 x.1⟩
def fY:bb 118 ed:=aC X8 ⟨C6,trivial⟩ func118 ad (by kernel_rfl)
def C7:=[(68,nC),(118,ed),(252,km),(259,OA)]
def C8:Nat->Option Hint:=look [(2,{live:=[0,1,2,7],xl:=[0,1,2],rl:=[6]})]
def tQ (a:ByteArray)(b:Int)(c:List D4)(i:Int):= bD 34 [(0,ZU a),(1,bd b),(2,jN 99 (K4) c),(7,bd i)]
def RD (a:ByteArray):= bD 34 [(6,ZU a)]
def OC (a:ByteArray)(b:Int)(c:List D4):= bD 34 [(0,ZU a),(1,bd b),(2,jN 99 (K4) c)]
def C9 (a:St):Option U:=ek C7 F C8 [.r,.l,.r,.b,.i] f187 J n a
def tR:=iR C7 F C8 [.r,.l,.r,.b] f187 df 1
def JB (b:ByteArray)(c:Int)(a:List D4)(i:Int):C9 F J (n+1) (tQ b c a i)=br (decide (i<(a.length:Int))) (ck (bG i (a.length:Int)) ((rk F0 (aL a i K4.az)).bind fun d=>br (!d.1) (J .ret (RD aj)) (C9 F J n (tQ b c a (al (i+1)))))) (J (.exit 0) (OC b c a)):=by kernel_rfl
def aei (a:ByteArray):tR F .ret (RD a)=some (a,()):=by kernel_rfl
def abR (a:ByteArray)(d:Int)(e:List D4):tR F (.exit 0) (OC a d e)=ck (Ru F a.size (ByteArray.mk #[47]).size) ((hQ F0 d).bind fun b=>ck (Ru F (a++(ByteArray.mk #[47])).size b.1.size) (ck (Ru F ((a++(ByteArray.mk #[47]))++b.1).size (ByteArray.mk #[124]).size) ((HE F0 e).bind fun c=>ck (Ru F (((a++(ByteArray.mk #[47]))++b.1)++(ByteArray.mk #[124])).size c.1.size) ((ey F0 ((((a++(ByteArray.mk #[47]))++b.1)++(ByteArray.mk #[124]))++c.1)).bind fun f=>br (!f.1) (some (aj,())) (some ((((a++(ByteArray.mk #[47]))++b.1)++(ByteArray.mk #[124]))++c.1,())))))):=by kernel_rfl
abbrev aFj:List (Ty×Bool):=[(.str,false),(.int .i64,false),(K5,false)]
def X9 (a:ByteArray)(b:Int)(c:D5):=bL C7 F C8 f187 aFj df 1 (a,b,c,())
def Ua:∃f,f= @X9:=⟨_,rfl⟩
def e2:=Classical.choose Ua
def RE: @e2= @X9:=Classical.choose_spec Ua
def akA (a:ByteArray)(b:Int)(c:D5):e2 F a b c=C9 F (tR F) F.n (tQ a b c 0):=by rw[RE];kernel_rfl
def nD:Any:=.one ⟨aFj,df,1,fun x=>e2 F0 x.1 x.2.1 x.2.2.1⟩
def x2:bb 187 nD:=ok1 (show w4 Tryz.prog TB C7 from⟨w8,fY,rm,ahv,trivial⟩) func187 (by kernel_rfl) (by kernel_rfl) C8 (by rw[RE];kernel_rfl)
end
end Go.Am.Tryz
namespace Go.Am.Tryz
open Go.Am Go.Proofs Go.Proofs.Tryz
noncomputable section
variable {U:Type} (F:nY) (J:Ex->St->Option U) (n:Nat)
def en:=[(98,av),(186,cT),(187,nD)]
def eo:Nat->Option Hint:=look [(4,{live:=[0,3,4,5],xl:=[3],rl:=[2]}),(9,{live:=[0,3,4,5,6,7],xl:=[0,3,4,5,6],rl:=[2]})]
def fZ (s:ByteArray)(d i k:Int)(a:List Int)(b c:Int)(e:List D4):St:={nt:=37,tm:=[(0,.v (.c (.ptr 4000000 0))),(3,ZU s),(4,bd d),(5,bd i),(6,.v (.c (.own 1000000 none))),(7,bd k)],bx:=[(4000000,[.ro true 5 (.int .u8) a,aq b,aq c])],bl:=[aF 1000000 99 K4 e],sp:=.v (.c (.ptr 4000000 0))}
def oo (s:ByteArray)(d i:Int)(a:List Int)(b c:Int)(e:List D4):St:={nt:=37,tm:=[(0,.v (.c (.ptr 4000000 0))),(3,ZU s),(4,bd d),(5,bd i),(6,.v (.c (.own 1000000 none)))],bx:=[(4000000,[.ro true 5 (.int .u8) a,aq b,aq c])],bl:=[aF 1000000 99 K4 e],sp:=.v (.c (.ptr 4000000 0))}
def iu (a:St):Option U:=ek en F eo [.r,.r,.r,.l,.r,.b,.i,.r,.l,.b,.r,.r,.l,.r,.b,.i] f123 J n a
def EE:Ex->St->Option U:=S8 Tryz.prog (look en) F eo [.r,.l,.b,.r,.r,.l,.r,.b] (sub [.r,.r,.r,.l,.r,.b,.i] (dE f123)) (itk Tryz.prog (look en) F eo (sub [.r,.r,.r,.l,.r,.b,.i] (dE f123)) J n)
def jP (s:ByteArray)(d i:Int)(a:List Int)(b c:Int):St:={nt:=37,tm:=[(0,.v (.c (.ptr 4000000 0))),(3,ZU s),(4,bd d),(5,bd i)],bx:=[(4000000,[.ro true 5 (.int .u8) a,aq b,aq c])],bl:=[],sp:=.v (.c (.ptr 4000000 0))}
def Bf (s:ByteArray)(a:List Int)(b c:Int):St:={nt:=37,tm:=[(3,ZU s)],bx:=[(4000000,[.ro true 5 (.int .u8) a,aq b,aq c])],bl:=[],sp:=.v (.c (.ptr 4000000 0))}
def mm (a:St):Option U:=ek en F eo [.r,.r,.r,.l,.r,.b,.i] f123 J n a
def pG:=Lo en F eo [.r,.r,.r,.l,.r,.b] f123 .cur df bs 1
def v7 (s:ByteArray)(d i k:Int)(e:List Int)(f g:Int)(c:List D4):iu F J (n+1) (fZ s d i k e f g c)=(af F0 (e,f,g) 3).bind fun a=>br (decide (k<a.1.1)) ((c3 F0 a.2.1).bind fun b=>ck (dV F c.length [b.1.1].length 32) (iu F J n (fZ s d i (al (k+1)) b.2.1.1 b.2.1.2.1 b.2.1.2.2 (c++[b.1.1])))) (J (.exit 2) (oo s d i a.2.1.1 a.2.1.2.1 a.2.1.2.2 c)):=by kernel_rfl
def v8 (s:ByteArray)(f i:Int)(c:List Int)(d e:Int):mm F J (n+1) (jP s f i c d e)=(af F0 (c,d,e) 6).bind fun a=>br (decide (i<a.1.1)) ((af F0 a.2.1 4).bind fun b=>iu F (EE F J n) F.n (fZ s (al ((al (f+1))+(al (Int.tdiv b.1.1 3)))) i 0 b.2.1.1 b.2.1.2.1 b.2.1.2.2 [])) (J (.exit 0) (Bf s a.2.1.1 a.2.1.2.1 a.2.1.2.2)):=by kernel_rfl
def Qx (s:ByteArray)(a i:Int)(b:List Int)(c d:Int)(e:List D4):EE F J n (.exit 2) (oo s a i b c d e)=(e2 F0 s a e).bind fun f=>mm F J n (jP f.1 a (al (i+1)) b c d):=by kernel_rfl
def x3 (s:ByteArray)(a:List Int)(b c:Int):pG F (.exit 0) (Bf s a b c)=some ((s,()),(a,b,c),()):=by kernel_rfl
def dG (c:D2):=fJ en F eo f123 bs 0 .cur df bs 1 (c,())
def Xm (c:D2):dG F c=mm F (pG F) F.n (jP aj 0 0 c.1 c.2.1 c.2.2):=by kernel_rfl
def ds:Any:=.two ⟨bs,0,.cur,df,1,bs,fun x=>dG F0 x.1⟩
def eX:bb 123 ds:=jh en ⟨ay,dO,x2,trivial⟩ func123 eo (by kernel_rfl)
def Ya:=[(142,pF)]
def cr (s:ByteArray):=bL Ya F ad f119 df dq 1 (s,())
def akB (s:ByteArray):cr F s=(pE F0 s).bind fun a=>br (!a.2.1) (some (0,())) (br ((a.1.length:Int)==0) (some (0,())) (ck (bG (al ((a.1.length:Int)-1)) (a.1.length:Int)) (some ((aL a.1 (al ((a.1.length:Int)-1)) (0,[])).1,())))):=by kernel_rfl
def b7:Any:=.one ⟨df,dq,1,fun x=>cr F0 x.1⟩
def cL:bb 119 b7:=aC Ya ⟨C6,trivial⟩ func119 ad (by kernel_rfl)
def tS:=[(97,cl),(98,av),(119,b7)]
def tT:Nat->Option Hint:=look [(5,{live:=[0,4,6,7,8],A9:=[(6,2,3,.int .i64),(7,2,3,.int .i64)],xl:=[0,6,7],rl:=[6]})]
def oF (i:Int)(a:List Int)(b c d e h:Int)(j:ByteArray)(q:Int)(f:ByteArray)(k g:List Int):St:={nt:=56,tm:=[(0,.v (.c (.ptr 4000000 0))),bX 4,bX 6,bX 7,(8,bd i)],bx:=[(4000000,[.ro true 5 (.int .u8) a,aq b,aq c]),(4,[aq d,aq e]),(6,[aq h,.str j,.own 1000000 none]),(7,[aq q,.str f,.own 1000001 none])],bl:=[aF 1000000 3 (.int .i64) k,aF 1000001 3 (.int .i64) g],sp:=.v (.c (.ptr 4000000 0))}
def vp (a:List Int)(b c f:Int)(g:ByteArray)(q:Int)(d:ByteArray)(h e:List Int):St:={nt:=56,tm:=[(0,.v (.c (.ptr 4000000 0))),bX 6,bX 7],bx:=[(4000000,[.ro true 5 (.int .u8) a,aq b,aq c]),(6,[aq f,.str g,.own 1000000 none]),(7,[aq q,.str d,.own 1000001 none])],bl:=[aF 1000000 3 (.int .i64) h,aF 1000001 3 (.int .i64) e],sp:=.v (.c (.ptr 4000000 0))}
def tU (a:St):Option U:=ek tS F tT [.r,.r,.r,.l,.r,.b,.i] f122 J n a
abbrev ez:List (Ty×Bool):=[(K9,true)]
def oG:=Lo tS F tT [.r,.r,.r,.l,.r,.b] f122 .cur ez bs 2
def EF (i:Int)(b:List Int)(c d e k g:Int)(h:ByteArray)(q:Int)(f:ByteArray)(j a:List Int):tU F J (n+1) (oF i b c d e k g h q f j a)=br (decide (i<e)) (ck (dV F a.length [i].length 8) (tU F J n (oF (al (i+1)) b c d e k g h q f j (a++[i])))) (J (.exit 0) (vp b c d g h q f j a)):=by kernel_rfl
def Xn (e:List Int)(f g h:Int)(i:ByteArray)(q:Int)(c:ByteArray)(j a:List Int):oG F (.exit 0) (vp e f g h i q c j a)=(c7 F0 (e,f,g) 2).bind fun d=>br d.1.1 (br (decide ((a.length:Int)>0)) ((af F0 d.2.1 (a.length:Int)).bind fun b=>ck (okT b.1.1 (a.length:Int)) (ck (Qw (al (b.1.1+1)) (a.length:Int) (a.length:Int)) (ck (dV F 0 (a.take b.1.1.toNat).length 8) (ck (dV F ([]++(a.take b.1.1.toNat)).length ((a.take (a.length:Int).toNat).drop (al (b.1.1+1)).toNat).length 8) (some (((q,c,([]++(a.take b.1.1.toNat))++((a.take (a.length:Int).toNat).drop (al (b.1.1+1)).toNat)),()),b.2.1,())))))) (some (((q,c,a),()),d.2.1,()))) (some (((q,c,a),()),d.2.1,())):=by kernel_rfl
abbrev aFk:List (Ty×Bool):=[(K2,true),(K1,true),(.str,false)]
def n2 (c:D2)(a:D1)(name:ByteArray):=fJ tS F tT f122 aFk 0 .cur ez bs 2 (c,a,name,())
def aej (c:D2)(a:D1)(name:ByteArray):n2 F c a name=(cr F0 name).bind fun b=>br (name.toList==aj.toList) (some (((b.1,name,[]),()),c,())) (tU F (oG F) F.n (oF 0 c.1 c.2.1 c.2.2 a.1 a.2 0 aj b.1 name [] [])):=by kernel_rfl
def oH:Any:=.two ⟨aFk,0,.cur,ez,2,bs,fun x=>n2 F0 x.1 x.2.1 x.2.2.1⟩
def B1:bb 122 oH:=jh tS ⟨c0,ay,cL,trivial⟩ func122 tT (by kernel_rfl)
def Yb:=[(98,av)]
def LJ (c:D2)(a:List ByteArray):=fJ Yb F ad f260 [(K2,true),(.sl 9 (.str),false)] 0 .cur df bs 1 (c,a,())
def akC (c:D2)(a:List ByteArray):LJ F c a=(af F0 c (a.length:Int)).bind fun b=>ck (bG b.1.1 (a.length:Int)) (some ((aL a b.1.1 ByteArray.empty,()),b.2.1,())):=by kernel_rfl
def RF:Any:=.two ⟨[(K2,true),(.sl 9 (.str),false)],0,.cur,df,1,bs,fun x=>LJ F0 x.1 x.2.1⟩
def akD:bb 260 RF:=jh Yb ⟨ay,trivial⟩ func260 ad (by kernel_rfl)
def Yc:=[(98,av),(260,RF)]
def LK (c:D2)(s:ByteArray):=fJ Yc F ad f188 [(K2,true),(.str,false)] 0 .cur df bs 1 (c,s,())
def akE (c:D2)(s:ByteArray):LK F c s=(af F0 c (al ((s.size:Int)+1))).bind fun a=>(af F0 a.2.1 5).bind fun b=>br (b.1.1==0) (ck (Qw 0 a.1.1 (s.size:Int)) (some ((s.extract (0:Int).toNat a.1.1.toNat,()),b.2.1,()))) (br (b.1.1==1) (ck (Qw 0 a.1.1 (s.size:Int)) (ck (Qw a.1.1 (s.size:Int) (s.size:Int)) ((LJ F0 b.2.1 [(ByteArray.mk #[48]),(ByteArray.mk #[44]),(ByteArray.mk #[62]),(ByteArray.mk #[47]),(ByteArray.mk #[124]),(ByteArray.mk #[120]),(ByteArray.mk #[49])]).bind fun d=>ck (Ru F (s.extract (0:Int).toNat a.1.1.toNat).size d.1.1.size) (ck (Ru F ((s.extract (0:Int).toNat a.1.1.toNat)++d.1.1).size (s.extract a.1.1.toNat (s.size:Int).toNat).size) (some ((((s.extract (0:Int).toNat a.1.1.toNat)++d.1.1)++(s.extract a.1.1.toNat (s.size:Int).toNat),()),d.2.1,())))))) (some ((s,()),b.2.1,()))):=by kernel_rfl
def RG:Any:=.two ⟨[(K2,true),(.str,false)],0,.cur,df,1,bs,fun x=>LK F0 x.1 x.2.1⟩
def akF:bb 188 RG:=jh Yc ⟨ay,akD,trivial⟩ func188 ad (by kernel_rfl)
def Da:=[(68,nC),(97,cl),(98,av),(123,ds),(188,RG)]
def Db:Nat->Option Hint:=look [(4,{live:=[0,3,4],xl:=[3],rl:=[2]})]
def tV (s:ByteArray)(i:Int)(a:List Int)(b c:Int):St:={nt:=25,tm:=[(0,.v (.c (.ptr 4000000 0))),(3,ZU s),(4,bd i)],bx:=[(4000000,[.ro true 5 (.int .u8) a,aq b,aq c])],bl:=[],sp:=.v (.c (.ptr 4000000 0))}
def OD (s:ByteArray)(a:List Int)(b c:Int):St:={nt:=25,tm:=[(3,ZU s)],bx:=[(4000000,[.ro true 5 (.int .u8) a,aq b,aq c])],bl:=[],sp:=.v (.c (.ptr 4000000 0))}
def Dc (a:St):Option U:=ek Da F Db [.r,.l,.r,.t,.r,.l,.r,.b,.i] f124 J n a
def FJ:=Lo Da F Db [.r,.l,.r,.t,.r,.l,.r,.b] f124 .cur df bs 1
def JC (s:ByteArray)(i:Int)(c:List Int)(d e:Int):Dc F J (n+1) (tV s i c d e)=(af F0 (c,d,e) 2).bind fun a=>br (decide (i<=(al (30+a.1.1)))) (ck (Ru F s.size (ByteArray.mk #[47]).size) ((hQ F0 i).bind fun b=>ck (Ru F (s++(ByteArray.mk #[47])).size b.1.size) (ck (Ru F ((s++(ByteArray.mk #[47]))++b.1).size (ByteArray.mk #[124]).size) (Dc F J n (tV (((s++(ByteArray.mk #[47]))++b.1)++(ByteArray.mk #[124])) (al (i+1)) a.2.1.1 a.2.1.2.1 a.2.1.2.2))))) (J (.exit 0) (OD s a.2.1.1 a.2.1.2.1 a.2.1.2.2)):=by kernel_rfl
def LL (s:ByteArray)(a:List Int)(b c:Int):FJ F (.exit 0) (OD s a b c)=some ((s,()),(a,b,c),()):=by kernel_rfl
def wa (c:D2):=fJ Da F Db f124 bs 0 .cur df bs 1 (c,())
def akG (c:D2):wa F c=(c7 F0 c 20).bind fun a=>br a.1.1 (Dc F (FJ F) F.n (tV aj 1 a.2.1.1 a.2.1.2.1 a.2.1.2.2)) ((dG F0 a.2.1).bind fun b=>(LK F0 b.2.1 b.1.1).bind fun d=>some ((d.1.1,()),d.2.1,())):=by kernel_rfl
def tW:Any:=.two ⟨bs,0,.cur,df,1,bs,fun x=>wa F0 x.1⟩
def JD:bb 124 tW:=jh Da ⟨w8,c0,ay,eX,akF,trivial⟩ func124 Db (by kernel_rfl)
def Yd:=[(58,iq),(98,av),(122,oH),(123,ds),(124,tW)]
abbrev wc:List (Ty×Bool):=[(K2,true),(K1,true)]
def LM (c:D2)(a:D1):=fJ Yd F ad f60 wc 0 .cur ez bs 2 (c,a,())
def akH (c:D2)(d:D1):LM F c d=(dG F0 c).bind fun e=>(n2 F0 e.2.1 d e.1.1).bind fun a=>(af F0 a.2.1 12).bind fun b=>br (b.1.1==0) (some (((al (a.1.1.1+1),a.1.1.2),()),b.2.1,())) (br (b.1.1==1) ((il F0 b.2.1 7).bind fun f=>some (((a.1.1.1,a.1.1.2.1,f.1.1),()),f.2.1,())) (br (b.1.1==2) ((wa F0 b.2.1).bind fun g=>some (((a.1.1.1,g.1.1,a.1.1.2.2),()),g.2.1,())) (some ((a.1.1,()),b.2.1,())))):=by kernel_rfl
def RH:Any:=.two ⟨wc,0,.cur,ez,2,bs,fun x=>LM F0 x.1 x.2.1⟩
def akI:bb 60 RH:=jh Yd ⟨oE,ay,B1,eX,JD,trivial⟩ func60 ad (by kernel_rfl)
abbrev apE:List (Ty×Bool):=[(.int .i64,false),(.int .i64,false)]
def db (a b:Int):=bL ax F ad f189 apE dq 1 (a,b,())
def Ye (a b:Int):db F a b=br (decide (a>b)) (some (a,())) (some (b,())):=by kernel_rfl
def eM:Any:=.one ⟨apE,dq,1,fun x=>db F0 x.1 x.2.1⟩
def hR:bb 189 eM:=aC ax trivial func189 ad (by kernel_rfl)
def kD:=[(97,cl),(98,av),(119,b7),(120,nA),(123,ds),(189,eM)]
def kE:Nat->Option Hint:=look [(6,{live:=[0,3,4,6,7],A9:=[(4,2,3,.int .i64),(6,2,3,.int .i64)],xl:=[4,6],rl:=[4]})]
def cE (i:Int)(a:List Int)(b c d e h:Int)(j:ByteArray)(p:Int)(f:ByteArray)(k g:List Int):St:={nt:=41,tm:=[(0,.v (.c (.ptr 4000000 0))),bX 3,bX 4,bX 6,(7,bd i)],bx:=[(4000000,[.ro true 5 (.int .u8) a,aq b,aq c]),(3,[aq d,aq e]),(4,[aq h,.str j,.own 1000000 none]),(6,[aq p,.str f,.own 1000001 none])],bl:=[aF 1000000 3 (.int .i64) k,aF 1000001 3 (.int .i64) g],sp:=.v (.c (.ptr 4000000 0))}
def x4 (a:List Int)(b c f:Int)(g:ByteArray)(p:Int)(d:ByteArray)(h e:List Int):St:={nt:=41,tm:=[bX 4,bX 6],bx:=[(4000000,[.ro true 5 (.int .u8) a,aq b,aq c]),(4,[aq f,.str g,.own 1000000 none]),(6,[aq p,.str d,.own 1000001 none])],bl:=[aF 1000000 3 (.int .i64) h,aF 1000001 3 (.int .i64) e],sp:=.v (.c (.ptr 4000000 0))}
def c8 (a:St):Option U:=ek kD F kE [.r,.r,.r,.r,.l,.r,.b,.i] f125 J n a
def dc:=Lo kD F kE [.r,.r,.r,.r,.l,.r,.b] f125 .cur ez bs 2
def s8 (i:Int)(j:List Int)(k l c m f:Int)(g:ByteArray)(p:Int)(d:ByteArray)(h e:List Int):c8 F J (n+1) (cE i j k l c m f g p d h e)=(af F0 (j,k,l) 7).bind fun a=>br (decide (i<(al (1+a.1.1)))) ((db F0 c 4).bind fun o=>(af F0 a.2.1 o.1).bind fun b=>(l5 F0 e b.1.1).bind fun q=>c8 F J n (cE (al (i+1)) b.2.1.1 b.2.1.2.1 b.2.1.2.2 c m f g p d h q.1)) (J (.exit 0) (x4 a.2.1.1 a.2.1.2.1 a.2.1.2.2 f g p d h e)):=by kernel_rfl
def we (a:List Int)(b c f:Int)(g:ByteArray)(p:Int)(d:ByteArray)(h e:List Int):dc F (.exit 0) (x4 a b c f g p d h e)=some (((p,d,e),()),(a,b,c),()):=by kernel_rfl
def gx (c:D2)(a:D1):=fJ kD F kE f125 wc 0 .cur ez bs 2 (c,a,())
def Ub (c:D2)(b:D1):gx F c b=(dG F0 c).bind fun e=>(cr F0 e.1.1).bind fun f=>(c7 F0 e.2.1 4).bind fun d=>br d.1.1 ((af F0 d.2.1 4).bind fun a=>c8 F (dc F) F.n (cE 0 a.2.1.1 a.2.1.2.1 a.2.1.2.2 b.1 b.2 0 aj (al (1+a.1.1)) aj [] [])) (br (e.1.1.toList==aj.toList) ((af F0 d.2.1 4).bind fun a=>c8 F (dc F) F.n (cE 0 a.2.1.1 a.2.1.2.1 a.2.1.2.2 b.1 b.2 0 aj (al (1+a.1.1)) aj [] [])) (c8 F (dc F) F.n (cE 0 d.2.1.1 d.2.1.2.1 d.2.1.2.2 b.1 b.2 0 aj f.1 e.1.1 [] []))):=by kernel_rfl
def iS:Any:=.two ⟨wc,0,.cur,ez,2,bs,fun x=>gx F0 x.1 x.2.1⟩
def pH:bb 125 iS:=jh kD ⟨c0,ay,cL,w7,eX,hR,trivial⟩ func125 kE (by kernel_rfl)
def Uc:=[(58,iq),(98,av),(121,bN),(124,tW),(125,iS)]
def x5 (c:D2)(a:D1):=fJ Uc F ad f62 wc 0 .cur ez bs 2 (c,a,())
def ahy (c:D2)(d:D1):x5 F c d=(gx F0 c d).bind fun a=>(af F0 a.2.1 10).bind fun b=>br (b.1.1==0) ((aZ F0 b.2.1 [(-1),0,60,61]).bind fun e=>some (((e.1.1,a.1.1.2),()),e.2.1,())) (br (b.1.1==1) ((il F0 b.2.1 7).bind fun f=>some (((a.1.1.1,a.1.1.2.1,f.1.1),()),f.2.1,())) (br (b.1.1==2) ((wa F0 b.2.1).bind fun g=>some (((a.1.1.1,g.1.1,a.1.1.2.2),()),g.2.1,())) (some ((a.1.1,()),b.2.1,())))):=by kernel_rfl
def B2:Any:=.two ⟨wc,0,.cur,ez,2,bs,fun x=>x5 F0 x.1 x.2.1⟩
def RJ:bb 62 B2:=jh Uc ⟨oE,ay,b6,JD,pH,trivial⟩ func62 ad (by kernel_rfl)
def rr:Nat->Option Hint:=look [(3,{live:=[0,1,2],A9:=[(0,0,3,.int .i64),(0,1,3,.int .i64),(1,0,3,.int .i64)],xl:=[0,1],rl:=[0]})]
def ft (i:Int)(d a b c:List Int):= dN 15 [bX 0,bX 1,(2,bd i)] [(0,[.own 1000000 none,.own 1000001 none]),(1,[.own 1000002 none,.own 1000003 none])] [aF 1000000 3 (.int .i64) d,aF 1000001 3 (.int .i64) a,aF 1000002 3 (.int .i64) b,aF 1000003 3 (.int .i64) c]
def Gw (d a b c:List Int):= dN 15 [bX 0,bX 1] [(0,[.own 1000000 none,.own 1000001 none]),(1,[.own 1000002 none,.own 1000003 none])] [aF 1000000 3 (.int .i64) d,aF 1000001 3 (.int .i64) a,aF 1000002 3 (.int .i64) b,aF 1000003 3 (.int .i64) c]
def hZ (a:St):Option U:=ek ax F rr [.r,.r,.l,.r,.b,.i] f156 J n a
abbrev l7:List (Ty×Bool):=[(K10,true)]
def iv:=iR ax F rr [.r,.r,.l,.r,.b] f156 l7 2
def Bg (i:Int)(d b a c:List Int):hZ F J (n+1) (ft i d b a c)=br (decide (i<4)) (ck (dV F a.length [100].length 8) (hZ F J n (ft (al (i+1)) d b (a++[100]) c))) (J (.exit 0) (Gw d b a c)):=by kernel_rfl
def Ud (d c a b:List Int):iv F (.exit 0) (Gw d c a b)=some ((a,b),()):=by kernel_rfl
def k2: Option (Args l7):=bL ax F rr f156 [] l7 2 (())
def abS: k2 F= ck (okM F 4 4 8) (hZ F (iv F) F.n (ft 0 [] [] [] (List.replicate (4:Int).toNat 0))):=by kernel_rfl
def vq:Any:=.one ⟨[],l7,2,fun x=>k2 F0⟩
def LN:bb 156 vq:=aC ax trivial func156 rr (by kernel_rfl)
def pI (l:D10):=bL ax F ad f233 l7 l7 2 (l,())
def akJ (l:D10):pI F l=ck (dV F 0 l.1.length 8) (ck (dV F 0 l.2.length 8) (some (([]++l.1,[]++l.2),()))):=by kernel_rfl
def tX:Any:=.one ⟨l7,l7,2,fun x=>pI F0 x.1⟩
def JE:bb 233 tX:=aC ax trivial func233 ad (by kernel_rfl)
def tY:=[(117,bW)]
def tZ:Nat->Option Hint:=look [(4,{live:=[1,3],rl:=[2]})]
def oI (i:Int)(l a:List Int):= dN 34 [bX 1,(3,bd i)] [(1,[.ro false 3 (.int .i64) l,.ro false 3 (.int .i64) a])] []
def x6 (a:Bool):= bD 34 [(2,ED a)]
def JF   := bD 34 []
def ua (a:St):Option U:=ek tY F tZ [.r,.r,.l,.r,.b,.i] f261 J n a
def oJ:=iR tY F tZ [.r,.r,.l,.r,.b] f261 aM 1
def EG (i:Int)(l a:List Int):ua F J (n+1) (oI i l a)=br (decide (i<4)) (ck (bG i (l.length:Int)) ((bI F0 (aL l i 0) 0 400).bind fun b=>br (!b.1) (J .ret (x6 false)) (ck (bG i (a.length:Int)) ((bI F0 (aL a i 0) 0 100).bind fun c=>br (!c.1) (J .ret (x6 false)) (ua F J n (oI (al (i+1)) l a)))))) (J (.exit 0) (JF)):=by kernel_rfl
def JG (a:Bool):oJ F .ret (x6 a)=some (a,()):=by kernel_rfl
def Xo: oJ F (.exit 0) (JF)=some (true,()):=by kernel_rfl
def s9 (l:D10):=bL tY F tZ f261 l7 aM 1 (l,())
def aek (l:D10):s9 F l=br ((l.1.length:Int) != 4) (some (false,())) (br ((l.2.length:Int) != 4) (some (false,())) (ua F (oJ F) F.n (oI 0 l.1 l.2))):=by kernel_rfl
def LO:Any:=.one ⟨l7,aM,1,fun x=>s9 F0 x.1⟩
def ael:bb 261 LO:=aC tY ⟨cq,trivial⟩ func261 tZ (by kernel_rfl)
def akK:=[(233,tX),(252,km),(261,LO)]
abbrev ayP:List (Ty×Bool):=[(K10,true),(K4,true)]
abbrev ayQ:List (Ty×Bool):=[(K10,true),(.int .i64,false)]
def JH (l:D10)(x:D4):=bL akK F ad f190 ayP ayQ 2 (l,x,())
def atV (l:D10)(x:D4):JH F l x=(pI F0 l).bind fun a=>(s9 F0 l).bind fun b=>br (!b.1) (some (a.1,1,())) ((rk F0 x).bind fun c=>br (!c.1) (some (a.1,1,())) (ck (bG x.1 (l.2.length:Int)) (br (decide (x.2.2.2<(aL l.2 x.1 0))) (some (a.1,2,())) (ck (bG x.1 (l.2.length:Int)) (br (decide (x.2.2.2>(aL l.2 x.1 0))) (some (a.1,3,())) (ck (bG x.1 (a.1.2.length:Int)) (ck (bG x.1 (l.1.length:Int)) (br (decide (x.2.2.1>(aL l.1 x.1 0))) (some ((a.1.1,a.1.2.set x.1.toNat (al (x.2.2.2+1))),4,())) (ck (bG x.1 (a.1.1.length:Int)) (ck (bG x.1 (a.1.1.length:Int)) (ck (bG x.2.1 ((a.1.1.set x.1.toNat (al ((aL a.1.1 x.1 0)-x.2.2.1))).length:Int)) (ck (bG x.2.1 ((a.1.1.set x.1.toNat (al ((aL a.1.1 x.1 0)-x.2.2.1))).length:Int)) ((s9 F0 ((a.1.1.set x.1.toNat (al ((aL a.1.1 x.1 0)-x.2.2.1))).set x.2.1.toNat (al ((aL (a.1.1.set x.1.toNat (al ((aL a.1.1 x.1 0)-x.2.2.1))) x.2.1 0)+x.2.2.1)),a.1.2.set x.1.toNat (al (x.2.2.2+1)))).bind fun d=>br (!d.1) ((pI F0 l).bind fun e=>some (e.1,1,())) (some (((a.1.1.set x.1.toNat (al ((aL a.1.1 x.1 0)-x.2.2.1))).set x.2.1.toNat (al ((aL (a.1.1.set x.1.toNat (al ((aL a.1.1 x.1 0)-x.2.2.1))) x.2.1 0)+x.2.2.1)),a.1.2.set x.1.toNat (al (x.2.2.2+1))),0,()))))))))))))))):=by kernel_rfl
def HO:Any:=.one ⟨ayP,ayQ,2,fun x=>JH F0 x.1 x.2.1⟩
def Ue:bb 190 HO:=aC akK ⟨JE,rm,ael,trivial⟩ func190 ad (by kernel_rfl)
def Yf:=[(117,bW)]
def dt (c:D1):=bL Yf F ad f101 Gt aM 1 (c,())
def akL (c:D1):dt F c=(bI F0 c.1 4 7).bind fun a=>br a.1 ((bI F0 c.2 1 6).bind fun b=>some (b.1,())) (some (false,())):=by kernel_rfl
def cm:Any:=.one ⟨Gt,aM,1,fun x=>dt F0 x.1⟩
def c1:bb 101 cm:=aC Yf ⟨cq,trivial⟩ func101 ad (by kernel_rfl)
def HP:Nat->Option Hint:=look [(2,{live:=[0,1,5],rl:=[4]})]
def pJ (a:Int)(s:List Int)(i:Int):= bD 41 [(0,bd a),(1,jN 3 (.int .i64) s),(5,bd i)]
def x7 (a:Bool):= bD 41 [(4,ED a)]
def RL   := bD 41 []
def x8 (a:St):Option U:=ek ax F HP [.r,.l,.r,.b,.i] f113 J n a
def x9:=iR ax F HP [.r,.l,.r,.b] f113 aM 1
def LP (a:Int)(s:List Int)(i:Int):x8 F J (n+1) (pJ a s i)=br (decide (i<(s.length:Int))) (ck (bG i (s.length:Int)) (br (decide ((aL s i 0)<0)) (J .ret (x7 false)) (ck (bG i (s.length:Int)) (br (decide ((aL s i 0)>=a)) (J .ret (x7 false)) (br (decide (i>0)) (ck (bG (al (i-1)) (s.length:Int)) (ck (bG i (s.length:Int)) (br (decide ((aL s (al (i-1)) 0)>=(aL s i 0))) (J .ret (x7 false)) (x8 F J n (pJ a s (al (i+1))))))) (x8 F J n (pJ a s (al (i+1))))))))) (J (.exit 0) (RL)):=by kernel_rfl
def ahz (a:Bool):x9 F .ret (x7 a)=some (a,()):=by kernel_rfl
def aem: x9 F (.exit 0) (RL)=some (true,()):=by kernel_rfl
abbrev ayR:List (Ty×Bool):=[(.int .i64,false),(.sl 3 (.int .i64),false)]
def B3 (a:Int)(s:List Int):=bL ax F HP f113 ayR aM 1 (a,s,())
def an4 (a:Int)(s:List Int):B3 F a s=x8 F (x9 F) F.n (pJ a s 0):=by kernel_rfl
def ya:Any:=.one ⟨ayR,aM,1,fun x=>B3 F0 x.1 x.2.1⟩
def NS:bb 113 ya:=aC ax trivial func113 HP (by kernel_rfl)
def Yg:=[(101,cm)]
def wg (c:D1):=bL Yg F ad f295 Gt dq 1 (c,())
def akM (c:D1):wg F c=(dt F0 c).bind fun a=>br (!a.1) (some (0,())) (some (al (c.1-(al (Int.tdiv (al (c.1-1)) 3))),())):=by kernel_rfl
def ub:Any:=.one ⟨Gt,dq,1,fun x=>wg F0 x.1⟩
def JI:bb 295 ub:=aC Yg ⟨c1,trivial⟩ func295 ad (by kernel_rfl)
def agz:=[(101,cm),(113,ya),(118,ed),(119,b7),(295,ub)]
abbrev LQ:List (Ty×Bool):=[(K1,true),(K9,true)]
def jw (c:D1)(q:D9):=bL agz F ad f251 LQ aM 1 (c,q,())
def arF (c:D1)(q:D9):jw F c q=(dt F0 c).bind fun a=>br (!a.1) (some (false,())) ((ey F0 q.2.1).bind fun b=>br (!b.1) (some (false,())) ((cr F0 q.2.1).bind fun d=>br (d.1 != q.1) (some (false,())) (br (q.2.1.toList==aj.toList) (some ((q.2.2.length:Int)==0,())) ((B3 F0 c.1 q.2.2).bind fun e=>br e.1 ((wg F0 c).bind fun f=>some (decide ((q.2.2.length:Int)>=f.1),())) (some (false,())))))):=by kernel_rfl
def fK:Any:=.one ⟨LQ,aM,1,fun x=>jw F0 x.1 x.2.1⟩
def jQ:bb 251 fK:=aC agz ⟨c1,NS,fY,cL,JI,trivial⟩ func251 ad (by kernel_rfl)
def Yh:=[(117,bW),(118,ed),(251,fK)]
abbrev agA:List (Ty×Bool):=[(K1,true),(K13,true)]
def hS (c:D1)(s:D13):=bL Yh F ad f177 agA aM 1 (c,s,())
def akN (c:D1)(s:D13):hS F c s=(bI F0 s.1 0 60).bind fun a=>br a.1 ((bI F0 s.2.1 0 60).bind fun b=>br b.1 ((jw F0 c s.2.2.1).bind fun d=>br d.1 ((ey F0 s.2.2.2).bind fun e=>some (e.1,())) (some (false,()))) (some (false,()))) (some (false,())):=by kernel_rfl
def gM:Any:=.one ⟨agA,aM,1,fun x=>hS F0 x.1 x.2.1⟩
def k3:bb 177 gM:=aC Yh ⟨cq,fY,jQ,trivial⟩ func177 ad (by kernel_rfl)
abbrev ayS:List (Ty×Bool):=[(K4,true),(K4,true)]
def ta (a b:D4):=bL ax F ad f253 ayS aM 1 (a,b,())
def aen (a b:D4):ta F a b=br (decide (a.1<b.1)) (some (true,())) (br (a.1==b.1) (some (decide (a.2.2.2<b.2.2.2),())) (some (false,()))):=by kernel_rfl
def yb:Any:=.one ⟨ayS,aM,1,fun x=>ta F0 x.1 x.2.1⟩
def OE:bb 253 yb:=aC ax trivial func253 ad (by kernel_rfl)
def Dd:=[(252,km),(253,yb)]
def De:Nat->Option Hint:=look [(2,{live:=[0,3],xl:=[0],rl:=[2]})]
def nE (p:List D4)(i:Int):= bD 36 [(0,jN 99 (K4) p),(3,bd i)]
def FK (a:Bool):= bD 36 [(2,ED a)]
def OF (p:List D4):= bD 36 [(0,jN 99 (K4) p)]
def tc (a:St):Option U:=ek Dd F De [.r,.l,.r,.b,.i] f178 J n a
def uc:=iR Dd F De [.r,.l,.r,.b] f178 aM 1
def JJ (p:List D4)(i:Int):tc F J (n+1) (nE p i)=br (decide (i<(p.length:Int))) (ck (bG i (p.length:Int)) ((rk F0 (aL p i K4.az)).bind fun a=>br (!a.1) (J .ret (FK false)) (br (decide (i>0)) (ck (bG (al (i-1)) (p.length:Int)) (ck (bG i (p.length:Int)) ((ta F0 (aL p (al (i-1)) K4.az) (aL p i K4.az)).bind fun b=>br (!b.1) (J .ret (FK false)) (tc F J n (nE p (al (i+1))))))) (tc F J n (nE p (al (i+1))))))) (J (.exit 0) (OF p)):=by kernel_rfl
def aeo (a:Bool):uc F .ret (FK a)=some (a,()):=by kernel_rfl
def abT (p:List D4):uc F (.exit 0) (OF p)=some (decide ((p.length:Int)<=12),()):=by kernel_rfl
def EH (p:D5):=bL Dd F De f178 kv aM 1 (p,())
def akO (p:D5):EH F p=tc F (uc F) F.n (nE p 0):=by kernel_rfl
def FL:Any:=.one ⟨kv,aM,1,fun x=>EH F0 x.1⟩
def Uf:bb 178 FL:=aC Dd ⟨rm,OE,trivial⟩ func178 De (by kernel_rfl)
def Yi:=[(101,cm),(113,ya),(117,bW),(118,ed),(119,b7)]
def jR (c:D1)(p:D9):=bL Yi F ad f254 LQ aM 1 (c,p,())
def akP (c:D1)(p:D9):jR F c p=(dt F0 c).bind fun a=>br (!a.1) (some (false,())) ((bI F0 p.1 1 60).bind fun b=>br (!b.1) (some (false,())) ((B3 F0 c.1 p.2.2).bind fun d=>br (!d.1) (some (false,())) (br ((p.2.2.length:Int)==0) (some (false,())) (br (p.2.1.toList==aj.toList) (some (true,())) ((ey F0 p.2.1).bind fun e=>br e.1 ((cr F0 p.2.1).bind fun f=>some (f.1==p.1,())) (some (false,()))))))):=by kernel_rfl
def nF:Any:=.one ⟨LQ,aM,1,fun x=>jR F0 x.1 x.2.1⟩
def yc:bb 254 nF:=aC Yi ⟨c1,NS,cq,fY,cL,trivial⟩ func254 ad (by kernel_rfl)
abbrev Bh:List (Ty×Bool):=[(K9,true),(K9,true)]
def pK (a b:D9):=bL ax F ad f255 Bh aM 1 (a,b,())
def abU (a b:D9):pK F a b=br (decide (a.1<b.1)) (some (true,())) (br (a.1==b.1) (some (Op.bytesLess a.2.1.toList b.2.1.toList,())) (some (false,()))):=by kernel_rfl
def vr:Any:=.one ⟨Bh,aM,1,fun x=>pK F0 x.1 x.2.1⟩
def LR:bb 255 vr:=aC ax trivial func255 ad (by kernel_rfl)
end
end Go.Am.Tryz
