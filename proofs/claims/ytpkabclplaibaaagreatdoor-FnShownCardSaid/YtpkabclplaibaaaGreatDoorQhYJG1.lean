/- No condition. -/
import Derived.Test.YtpkabclplaibaaaGreatDoorProg
import Derived.Test.YtpkabclplaibaaaGreatDoorQhYJS1
set_option linter.all false
set_option maxRecDepth 100000
namespace Go.Am.Tryz
open Go.Am Go.Proofs Go.Proofs.Tryz
abbrev K1:Ty:=.pair (.int .i64) (.int .i64)
abbrev D1:=Int×Int
abbrev K2:Ty:=.pair (.sl 5 (.int .u8)) (K1)
abbrev D2:=List Int×D1
abbrev K3:Ty:=.pair (.int .i64) (K1)
abbrev D3:=Int×D1
abbrev K4:Ty:=.pair (.int .i64) (K3)
abbrev D4:=Int×D3
abbrev K5:Ty:=.sl 99 (K4)
abbrev D5:=List D4
abbrev K6:Ty:=.pair (.int .i64) (K5)
abbrev D6:=Int×D5
abbrev K7:Ty:=.sl 163 (K6)
abbrev K8:Ty:=.pair (.str) (.sl 3 (.int .i64))
abbrev D8:=ByteArray×List Int
abbrev K9:Ty:=.pair (.int .i64) (K8)
abbrev D9:=Int×D8
abbrev K10:Ty:=.pair (.sl 3 (.int .i64)) (.sl 3 (.int .i64))
abbrev D10:=List Int×List Int
abbrev K11:Ty:=.pair (K9) (.str)
abbrev D11:=D9×ByteArray
abbrev K12:Ty:=.pair (.int .i64) (K11)
abbrev D12:=Int×D11
abbrev K13:Ty:=.pair (.int .i64) (K12)
abbrev D13:=Int×D12
abbrev K14:Ty:=.sl 29 (K9)
abbrev D14:=List D9
abbrev K15:Ty:=.pair (.sl 5 (.int .u8)) (.int .i64)
abbrev D15:=List Int×Int
abbrev K16:Ty:=.pair (.str) (K9)
abbrev D16:=ByteArray×D9
abbrev K17:Ty:=.pair (.int .i64) (K4)
abbrev D17:=Int×D4
abbrev K18:Ty:=.pair (K9) (K17)
abbrev D18:=D9×D17
abbrev K19:Ty:=.pair (K9) (K18)
abbrev D19:=D9×D18
abbrev K20:Ty:=.pair (K16) (K19)
abbrev D20:=D16×D19
abbrev K21:Ty:=.pair (.int .i64) (K20)
abbrev D21:=Int×D20
abbrev K22:Ty:=.pair (.int .i64) (K21)
abbrev WZ:=Int×D21
abbrev Pm:Ty:=.pair (.int .i64) (K22)
abbrev ML:=Int×WZ
abbrev K24:Ty:=.sl 125 (Pm)
abbrev D24:=List ML
abbrev K25:Ty:=.pair (K15) (K24)
abbrev D25:=D15×D24
abbrev K26:Ty:=.pair (K14) (K25)
abbrev D26:=D14×D25
abbrev K27:Ty:=.pair (K5) (K26)
abbrev D27:=D5×D26
abbrev K28:Ty:=.pair (K13) (K27)
abbrev D28:=D13×D27
abbrev K29:Ty:=.pair (.int .i64) (K28)
abbrev D29:=Int×D28
abbrev K30:Ty:=.pair (.int .i64) (K29)
abbrev D30:=Int×D29
abbrev dU:Ty:=.pair (.int .i64) (K30)
abbrev cN:=Int×D30
abbrev K32:Ty:=.pair (.int .i64) (.bool)
abbrev D32:=Int×Bool
abbrev K33:Ty:=.pair (.sl 5 (.int .u8)) (K32)
abbrev D33:=List Int×D32
abbrev K34:Ty:=.sl 42 (dU)
abbrev D34:=List cN
abbrev tn:Ty:=.pair (.int .i64) (.sl 5 (.int .u8))
abbrev fi:=Int×List Int
abbrev K36:Ty:=.sl 95 (tn)
abbrev D36:=List fi
abbrev K37:Ty:=.pair (.str) (.int .i64)
abbrev D37:=ByteArray×Int
abbrev iV:Ty:=.pair (.int .i64) (K37)
abbrev et:=Int×D37
abbrev K39:Ty:=.sl 91 (iV)
abbrev D39:=List et
abbrev K40:Ty:=.pair (K36) (K39)
abbrev D40:=D36×D39
abbrev K41:Ty:=.pair (K34) (K40)
abbrev D41:=D34×D40
abbrev K42:Ty:=.pair (.sl 3 (.int .i64)) (K41)
abbrev D42:=List Int×D41
abbrev fj:Ty:=.pair (K1) (K42)
abbrev tv:=D1×D42
abbrev K44:Ty:=.pair (.int .i64) (Pm)
abbrev D44:=Int×ML
abbrev K45:Ty:=.pair (.int .i64) (K44)
abbrev D45:=Int×D44
def ad:Nat->Option Hint:=look []
def aN:List (Nat×Any):=[]
noncomputable section
variable {U:Type} (C:List (Nat×Any)) (F:kk) (H:Nat->Option Hint)
abbrev bw (f:Nat)(c:Any):Prop:=wi Tryz.prog TB f c
def cE (b:Func)(a c:List (Ty×Bool))(m:Nat)(x:Args a):=apD Tryz.prog (look C) F H b a c m x
def eX (c:Func)(a:List (Ty×Bool))(i:Nat)(d:PM)(e b:List (Ty×Bool))(m:Nat)(x:Args a):=aiR Tryz.prog (look C) F H c a i d e b m x
def hl (p:List At)(a:Func)(J:Ex->St->Option U)(n:Nat)(b:St):Option U:=lp Tryz.prog (look C) F H (sub p (ia a)) J n b
def p9 (p:List At)(a:Func)(b:List (Ty×Bool))(m:Nat):=Wk Tryz.prog (look C) F H p (ia a) (MB Tryz.prog a b m)
def EV (p:List At)(a:Func)(c:PM)(d b:List (Ty×Bool))(m:Nat):=Wk Tryz.prog (look C) F H p (ia a) (apF Tryz.prog a c d b m)
def hD (n:Nat)(t:List (Nat×AV))(b:List (Nat×List AC))(l:List (Nat×Option dD)):St:={nt:=n,tm:=t,bx:=b,bl:=l}
def dG (n:Nat)(t:List (Nat×AV)):St:={nt:=n,tm:=t,bx:=[],bl:=[]}
def cD (t:Int):AV:=.v (.c (.int .i64 t))
def aw (t:Int):AC:=.int .i64 t
def de (d:Nat):Nat×AV:=(d,.v (.c (.ptr d 0)))
abbrev ah:ByteArray:=ByteArray.mk #[]
def aJ (i:Nat)(e:TypeId)(t:Ty)(x:List t.D):Nat×Option dD:=(i,some ⟨e,t,x,true,true⟩)
def Uk (b:Bool):AV:=.v (.c (.bool b))
def C9 (b:ByteArray):AV:=.v (.c (.str b))
def x0 (e:Nat)(t:Ty)(x:List t.D):AV:=.v (.c (.ro false e t x))
def aM {f : FuncId} {a : Func} (l : List (Nat × Any)) (e : re Tryz.prog TB l) (h : Tryz.prog.funcs[f]? = some a) (H : Nat → Option Hint) {b d : List (Ty × Bool)} {m : Nat} {g : Args b → Option (Args d)} (c : (a.name == "runtime.NumGoroutine" || a.body.isNone, fun x => cE l F0 H a b d m x) = (false, g)) : bw f (.one ⟨b, d, m, g⟩) :=
 ok1 e h (HA.1 (E9 c).1).1 (HA.1 (E9 c).1).2 H (E9 c).2
def ahm {f : FuncId} {a : Func} (l : List (Nat × Any)) (h : re Tryz.prog TB l) (j : Tryz.prog.funcs[f]? = some a) (H : Nat → Option Hint) {b d : List (Ty × Bool)} {i m : Nat} {e : PM} {g : Args b → Option (Args d × Args [])} (c : (a.name == "runtime.NumGoroutine" || a.body.isNone, fun x => eX l F0 H a b i e d [] m x) = (false, g)) : bw f (.two ⟨b, i, e, d, m, [], g⟩) :=
 ok2 h j (HA.1 (E9 c).1).1 (HA.1 (E9 c).1).2 H (E9 c).2
def hA {f : FuncId} {c : Func} (l : List (Nat × Any)) (h : re Tryz.prog TB l) (j : Tryz.prog.funcs[f]? = some c) (H : Nat → Option Hint) {a d : List (Ty × Bool)} {i m : Nat} {e : PM} {p : Ty × Bool} {g : Args a → Option (Args d × Args [p])} (b : (gU a i, c.name == "runtime.NumGoroutine" || c.body.isNone, fun x => eX l F0 H c a i e d [p] m x) = (some p, false, g)) : bw f (.two ⟨a, i, e, d, m, [p], g⟩) :=
 ok3 h j (HA.1 (E9 (E9 b).2).1).1 (HA.1 (E9 (E9 b).2).1).2 H (E9 b).1 (E9 (E9 b).2).2
end
noncomputable section
variable {U:Type} (F:kk) (J:Ex->St->Option U) (n:Nat)
abbrev b3:List (Ty×Bool):=[(.bool,false)]
abbrev j6:List (Ty×Bool):=[(.sl 5 (.int .u8),false)]
def W0 (a:List Int):=cE aN F ad f6 j6 b3 1 (a,())
def aeN (a:List Int):W0 F a=some (decide ((a.length:Int)>1048576),()):=by kernel_rfl
def PS:Any:=.one ⟨j6,b3,1,fun x=>W0 F0 x.1⟩
def aeO:bw 6 PS:=aM aN trivial func6 ad (by kernel_rfl)
def Aj:Nat->Option Hint:=look [(3,{live:=[0,3,4],xl:=[0,3],rl:=[2]})]
def rf (a:List Int)(h i:Int)(p:List Int):St:={nt:=32,tm:=[(0,x0 5 (.int .u8) a),(3,cD h),(4,cD i)],bx:=[],bl:=[],sp:=x0 5 (.int .u8) p}
def x8 (a:List Int)(h:Int)(p:List Int):St:={nt:=32,tm:=[(0,x0 5 (.int .u8) a),(3,cD h)],bx:=[],bl:=[],sp:=x0 5 (.int .u8) p}
def Ak (a:St):Option U:=hl aN F Aj [.r,.r,.l,.r,.b,.i] f59 J n a
abbrev aX:List (Ty×Bool):=[(K2,true)]
def BN:=EV aN F Aj [.r,.r,.l,.r,.b] f59 .rd aX [] 5
def Da (a:List Int)(h i:Int)(p:List Int):Ak F J (n+1) (rf a h i p)=br (decide (i<(a.length:Int))) (br (decide (i<4000)) (ck (b5 i (a.length:Int)) (Ak F J n (rf a (ak (((BitVec.ofInt 64 (ak ((ak ((ak (h*131))+(ak (bd a i 0))))+7)) &&& BitVec.ofInt 64 1073741823).toNat:Int))) (ak (i+1)) p))) (J (.exit 0) (x8 a h p))) (J (.exit 0) (x8 a h p)):=by kernel_rfl
def Fo (a:List Int)(h:Int)(p:List Int):BN F (.exit 0) (x8 a h p)=some (((a,0,h),()),()):=by kernel_rfl
def gW (a:List Int):=eX aN F Aj f59 j6 0 .rd aX [] 5 (a,())
def ZY (a:List Int):gW F a=Ak F (BN F) F.n (rf a (ak (26583+(a.length:Int))) 0 a):=by kernel_rfl
def fD:Any:=.two ⟨j6,0,.rd,aX,5,[],fun x=>gW F0 x.1⟩
def kp:bw 59 fD:=ahm aN trivial func59 Aj (by kernel_rfl)
abbrev gg:List (Ty×Bool):=[(.int .i64,false)]
def gz (c:D2):=eX aN F ad f164 aX 0 .cur gg aX 1 (c,())
def W1 (c:D2):gz F c=br (decide (c.2.1<(c.1.length:Int))) (ck (b5 c.2.1 (c.1.length:Int)) (some ((ak (((BitVec.ofInt 64 (ak ((ak (((BitVec.ofInt 64 (ak (((BitVec.ofInt 64 (Int.fdiv (ak ((ak (c.2.2*6364136223846793005))+1442695040888963407)) (2 ^ (min (33:Int).toNat 64))) ^^^ BitVec.ofInt 64 (Int.fdiv (ak ((ak (c.2.2*6364136223846793005))+1442695040888963407)) (2 ^ (min (45:Int).toNat 64)))).toNat:Int))) &&& BitVec.ofInt 64 255).toNat:Int)))+(ak (bd c.1 c.2.1 0)))) &&& BitVec.ofInt 64 255).toNat:Int)),()),(c.1,ak (c.2.1+1),ak ((ak (c.2.2*6364136223846793005))+1442695040888963407)),()))) (some ((ak (((BitVec.ofInt 64 (ak (((BitVec.ofInt 64 (Int.fdiv (ak ((ak (c.2.2*6364136223846793005))+1442695040888963407)) (2 ^ (min (33:Int).toNat 64))) ^^^ BitVec.ofInt 64 (Int.fdiv (ak ((ak (c.2.2*6364136223846793005))+1442695040888963407)) (2 ^ (min (45:Int).toNat 64)))).toNat:Int))) &&& BitVec.ofInt 64 255).toNat:Int)),()),(c.1,c.2.1,ak ((ak (c.2.2*6364136223846793005))+1442695040888963407)),())):=by kernel_rfl
def HD:Any:=.two ⟨aX,0,.cur,gg,1,aX,fun x=>gz F0 x.1⟩
def W2:bw 164 HD:=hA aN trivial func164 ad (by kernel_rfl)
def JG:=[(164,HD)]
abbrev aa9:List (Ty×Bool):=[(K2,true),(.int .i64,false)]
def af (c:D2)(a:Int):=eX JG F ad f98 aa9 0 .cur gg aX 1 (c,a,())
def x9 (c:D2)(a:Int):af F c a=br (decide (a<=0)) (some ((0,()),c,())) (br (decide (a<=256)) ((gz F0 c).bind fun b=>ck (!(a==0)) (some ((Int.tmod b.1.1 a,()),b.2.1,()))) ((gz F0 c).bind fun d=>(gz F0 d.2.1).bind fun e=>(gz F0 e.2.1).bind fun f=>(gz F0 f.2.1).bind fun g=>ck (!(a==0)) (some ((Int.tmod (ak ((ak ((ak ((ak (d.1.1*16777216))+(ak (e.1.1*65536))))+(ak (f.1.1*256))))+g.1.1)) a,()),g.2.1,())))):=by kernel_rfl
def al:Any:=.two ⟨aa9,0,.cur,gg,1,aX,fun x=>af F0 x.1 x.2.1⟩
def ar:bw 98 al:=hA JG ⟨W2,trivial⟩ func98 ad (by kernel_rfl)
def u4:Nat->Option Hint:=look [(2,{live:=[0,1,5],rl:=[4]})]
def n1 (s:List Int)(i k:Int):= dG 18 [(0,x0 3 (.int .i64) s),(1,cD i),(5,cD k)]
def HE (a:Bool):= dG 18 [(4,Uk a)]
def Fp   := dG 18 []
def u5 (a:St):Option U:=hl aN F u4 [.r,.l,.r,.b,.i] f83 J n a
def n2:=p9 aN F u4 [.r,.l,.r,.b] f83 b3 1
def BO (s:List Int)(i k:Int):u5 F J (n+1) (n1 s i k)=br (decide (k<(s.length:Int))) (ck (b5 k (s.length:Int)) (br ((bd s k 0)==i) (J .ret (HE true)) (u5 F J n (n1 s i (ak (k+1)))))) (J (.exit 0) (Fp)):=by kernel_rfl
def RP (a:Bool):n2 F .ret (HE a)=some (a,()):=by kernel_rfl
def PT: n2 F (.exit 0) (Fp)=some (false,()):=by kernel_rfl
abbrev ajg:List (Ty×Bool):=[(.sl 3 (.int .i64),false),(.int .i64,false)]
def cu (s:List Int)(i:Int):=cE aN F u4 f83 ajg b3 1 (s,i,())
def W3 (s:List Int)(i:Int):cu F s i=u5 F (n2 F) F.n (n1 s i 0):=by kernel_rfl
def cb:Any:=.one ⟨ajg,b3,1,fun x=>cu F0 x.1 x.2.1⟩
def cW:bw 83 cb:=aM aN trivial func83 u4 (by kernel_rfl)
def u6:=[(83,cb)]
def u7:Nat->Option Hint:=look [(4,{live:=[0,1,5],xl:=[0,1,5],rl:=[4]})]
def n3 (s:List Int)(i a:Int):= dG 41 [(0,x0 3 (.int .i64) s),(1,cD i),(5,cD a)]
def l8 (s:List Int)(i a:Int):= dG 41 [(0,x0 3 (.int .i64) s),(1,cD i),(5,cD a)]
def u9 (a:St):Option U:=hl u6 F u7 [.r,.r,.r,.l,.b,.i] f120 J n a
abbrev qc:List (Ty×Bool):=[(.sl 3 (.int .i64),false)]
def n4:=p9 u6 F u7 [.r,.r,.r,.l,.b] f120 qc 2
def BP (s:List Int)(i a:Int):u9 F J (n+1) (n3 s i a)=br (decide (a<(s.length:Int))) (ck (b5 a (s.length:Int)) (br (decide ((bd s a 0)<i)) (u9 F J n (n3 s i (ak (a+1)))) (J (.exit 0) (l8 s i a)))) (J (.exit 0) (l8 s i a)):=by kernel_rfl
def PU (s:List Int)(i a:Int):n4 F (.exit 0) (l8 s i a)=ck (I5 0 a (s.length:Int)) (ck (fc F 0 ((s.take a.toNat).drop (0:Int).toNat).length 8) (ck (fc F ([]++((s.take a.toNat).drop (0:Int).toNat)).length [i].length 8) (ck (I5 a (s.length:Int) (s.length:Int)) (ck (fc F (([]++((s.take a.toNat).drop (0:Int).toNat))++[i]).length ((s.take (s.length:Int).toNat).drop a.toNat).length 8) (some ((([]++((s.take a.toNat).drop (0:Int).toNat))++[i])++((s.take (s.length:Int).toNat).drop a.toNat),())))))):=by kernel_rfl
def iZ (s:List Int)(i:Int):=cE u6 F u7 f120 ajg qc 2 (s,i,())
def W4 (s:List Int)(i:Int):iZ F s i=(cu F0 s i).bind fun a=>br a.1 (ck (fc F 0 s.length 8) (some ([]++s,()))) (u9 F (n4 F) F.n (n3 s i 0)):=by kernel_rfl
def j7:Any:=.one ⟨ajg,qc,2,fun x=>iZ F0 x.1 x.2.1⟩
def rh:bw 120 j7:=aM u6 ⟨cW,trivial⟩ func120 u7 (by kernel_rfl)
def MM:=[(98,al)]
def cX (c:D2)(a:Int):=eX MM F ad f97 aa9 0 .cur b3 aX 1 (c,a,())
def W5 (c:D2)(a:Int):cX F c a=(af F0 c a).bind fun b=>some ((b.1.1==0,()),b.2.1,()):=by kernel_rfl
def cc:Any:=.two ⟨aa9,0,.cur,b3,1,aX,fun x=>cX F0 x.1 x.2.1⟩
def cY:bw 97 cc:=hA MM ⟨ar,trivial⟩ func97 ad (by kernel_rfl)
def Fq:=[(98,al)]
abbrev apb:List (Ty×Bool):=[(K2,true),(.sl 3 (.int .i64),false)]
def aH (c:D2)(a:List Int):=eX Fq F ad f121 apb 0 .cur gg aX 1 (c,a,())
def PV (c:D2)(a:List Int):aH F c a=(af F0 c (a.length:Int)).bind fun b=>ck (b5 b.1.1 (a.length:Int)) (some ((bd a b.1.1 0,()),b.2.1,())):=by kernel_rfl
def bg:Any:=.two ⟨apb,0,.cur,gg,1,aX,fun x=>aH F0 x.1 x.2.1⟩
def bz:bw 121 bg:=hA Fq ⟨ar,trivial⟩ func121 ad (by kernel_rfl)
def l9:=[(97,cc),(98,al),(120,j7),(121,bg)]
def ma:Nat->Option Hint:=look [(3,{live:=[0,1,5,6],xl:=[0,5],rl:=[4]})]
def jw (a i:Int)(b:List Int)(c d:Int)(e:List Int):St:={nt:=28,tm:=[(0,.v (.c (.ptr 4000000 0))),(1,cD a),(5,.v (.c (.own 1000000 none))),(6,cD i)],bx:=[(4000000,[.ro true 5 (.int .u8) b,aw c,aw d])],bl:=[aJ 1000000 3 (.int .i64) e],sp:=.v (.c (.ptr 4000000 0))}
def nu (a:List Int)(b c:Int)(d:List Int):St:={nt:=28,tm:=[(0,.v (.c (.ptr 4000000 0))),(5,.v (.c (.own 1000000 none)))],bx:=[(4000000,[.ro true 5 (.int .u8) a,aw b,aw c])],bl:=[aJ 1000000 3 (.int .i64) d],sp:=.v (.c (.ptr 4000000 0))}
def mb (a:St):Option U:=hl l9 F ma [.r,.r,.l,.r,.b,.i] f58 J n a
def jx:=EV l9 F ma [.r,.r,.l,.r,.b] f58 .cur qc aX 2
def tw (c i:Int)(e:List Int)(f g:Int)(d:List Int):mb F J (n+1) (jw c i e f g d)=(af F0 (e,f,g) 8).bind fun a=>br (decide (i<a.1.1)) ((af F0 a.2.1 c).bind fun b=>(iZ F0 d b.1.1).bind fun h=>mb F J n (jw c (ak (i+1)) b.2.1.1 b.2.1.2.1 b.2.1.2.2 h.1)) (J (.exit 0) (nu a.2.1.1 a.2.1.2.1 a.2.1.2.2 d)):=by kernel_rfl
def JH (d:List Int)(e f:Int)(a:List Int):jx F (.exit 0) (nu d e f a)=(cX F0 (d,e,f) 12).bind fun b=>br b.1.1 ((aH F0 b.2.1 [(-1),0,3,9]).bind fun c=>ck (fc F a.length [c.1.1].length 8) (some ((a++[c.1.1],()),c.2.1,()))) (some ((a,()),b.2.1,())):=by kernel_rfl
def fE (c:D2)(a:Int):=eX l9 F ma f58 aa9 0 .cur qc aX 2 (c,a,())
def PW (c:D2)(a:Int):fE F c a=mb F (jx F) F.n (jw a 0 c.1 c.2.1 c.2.2 []):=by kernel_rfl
def fF:Any:=.two ⟨aa9,0,.cur,qc,2,aX,fun x=>fE F0 x.1 x.2.1⟩
def kM:bw 58 fF:=hA l9 ⟨cY,ar,rh,bz,trivial⟩ func58 ma (by kernel_rfl)
def BQ:=[(58,fF),(59,fD)]
def mc (a:List Int):=cE BQ F ad f7 j6 qc 2 (a,())
def L8 (a:List Int):mc F a=(gW F0 a).bind fun b=>(fE F0 b.1.1 7).bind fun c=>some (c.1.1,()):=by kernel_rfl
def wm:Any:=.one ⟨j6,qc,2,fun x=>mc F0 x.1⟩
def L9:bw 7 wm:=aM BQ ⟨kM,kp,trivial⟩ func7 ad (by kernel_rfl)
def Db:=[(98,al)]
abbrev MN:List (Ty×Bool):=[(K1,true)]
def gj (c:D2):=eX Db F ad f61 aX 0 .cur MN aX 1 (c,())
def Oj (c:D2):gj F c=(af F0 c 4).bind fun a=>(af F0 a.2.1 3).bind fun b=>some (((ak (4+a.1.1),ak (1+b.1.1)),()),b.2.1,()):=by kernel_rfl
def hE:Any:=.two ⟨aX,0,.cur,MN,1,aX,fun x=>gj F0 x.1⟩
def pn:bw 61 hE:=hA Db ⟨ar,trivial⟩ func61 ad (by kernel_rfl)
def BR:=[(98,al),(121,bg)]
abbrev HF:List (Ty×Bool):=[(K4,true)]
def cd (c:D2):=eX BR F ad f186 aX 0 .cur HF aX 1 (c,())
def Ma (c:D2):cd F c=(af F0 c 4).bind fun a=>(af F0 a.2.1 4).bind fun b=>(aH F0 b.2.1 [0,5,60,100,1000]).bind fun d=>(af F0 d.2.1 3).bind fun e=>some (((a.1.1,b.1.1,d.1.1,e.1.1),()),e.2.1,()):=by kernel_rfl
def bW:Any:=.two ⟨aX,0,.cur,HF,1,aX,fun x=>cd F0 x.1⟩
def cL:bw 186 bW:=hA BR ⟨ar,bz,trivial⟩ func186 ad (by kernel_rfl)
abbrev ajh:List (Ty×Bool):=[(.int .i64,false),(.int .i64,false),(.int .i64,false)]
def bn (x a b:Int):=cE aN F ad f117 ajh b3 1 (x,a,b,())
def acT (x a b:Int):bn F x a b=br (decide (x>=a)) (some (decide (x<=b),())) (some (false,())):=by kernel_rfl
def bA:Any:=.one ⟨ajh,b3,1,fun x=>bn F0 x.1 x.2.1 x.2.2.1⟩
def bX:bw 117 bA:=aM aN trivial func117 ad (by kernel_rfl)
def TD:=[(117,bA)]
def me (x:D4):=cE TD F ad f252 HF b3 1 (x,())
def acU (x:D4):me F x=(bn F0 x.1 0 3).bind fun a=>br a.1 ((bn F0 x.2.1 0 3).bind fun b=>br b.1 ((bn F0 x.2.2.1 0 1000).bind fun c=>br c.1 ((bn F0 x.2.2.2 0 99).bind fun d=>some (d.1,())) (some (false,()))) (some (false,()))) (some (false,())):=by kernel_rfl
def gX:Any:=.one ⟨HF,b3,1,fun x=>me F0 x.1⟩
def mf:bw 252 gX:=aM TD ⟨bX,trivial⟩ func252 ad (by kernel_rfl)
def va:Nat->Option Hint:=look [(5,{live:=[0,3,4],xl:=[3,4],rl:=[2]})]
def j8 (a:Int)(b:Bool)(c:ByteArray):= dG 31 [(0,cD a),(3,Uk b),(4,C9 c)]
def Fs (a:Bool)(b:ByteArray):= dG 31 [(3,Uk a),(4,C9 b)]
def nG (a:St):Option U:=hl aN F va [.r,.r,.r,.r,.l,.b,.i] f68 J n a
abbrev bJ:List (Ty×Bool):=[(.str,false)]
def ya:=p9 aN F va [.r,.r,.r,.r,.l,.b] f68 bJ 1
def BS (a:Int)(c:Bool)(b:ByteArray):nG F J (n+1) (j8 a c b)=br (a != 0) (br (decide ((Int.tmod a 10)<0)) (ck (gy F (strOf [IntKind.wrap .u8 (ak (48+(ak (0-(Int.tmod a 10)))))]).size b.size) (nG F J n (j8 (ak (Int.tdiv a 10)) c ((strOf [IntKind.wrap .u8 (ak (48+(ak (0-(Int.tmod a 10)))))])++b)))) (ck (gy F (strOf [IntKind.wrap .u8 (ak (48+(Int.tmod a 10)))]).size b.size) (nG F J n (j8 (ak (Int.tdiv a 10)) c ((strOf [IntKind.wrap .u8 (ak (48+(Int.tmod a 10)))])++b))))) (J (.exit 0) (Fs c b)):=by kernel_rfl
def PX (b:Bool)(a:ByteArray):ya F (.exit 0) (Fs b a)=br b (ck (gy F (ByteArray.mk #[45]).size a.size) (some ((ByteArray.mk #[45])++a,()))) (some (a,())):=by kernel_rfl
def bB (a:Int):=cE aN F va f68 gg bJ 1 (a,())
def W6 (a:Int):bB F a=br (a==0) (some (ByteArray.mk #[48],())) (nG F (ya F) F.n (j8 a (decide (a<0)) ah)):=by kernel_rfl
def cF:Any:=.one ⟨gg,bJ,1,fun x=>bB F0 x.1⟩
def dk:bw 68 cF:=aM aN trivial func68 va (by kernel_rfl)
def MO:=[(68,cF),(252,gX)]
def pM (x:D4):=cE MO F ad f296 HF bJ 1 (x,())
def W7 (x:D4):pM F x=(me F0 x).bind fun e=>br (!e.1) (some (ah,())) ((bB F0 x.1).bind fun a=>ck (gy F a.1.size (ByteArray.mk #[62]).size) ((bB F0 x.2.1).bind fun b=>ck (gy F (a.1++(ByteArray.mk #[62])).size b.1.size) (ck (gy F ((a.1++(ByteArray.mk #[62]))++b.1).size (ByteArray.mk #[58]).size) ((bB F0 x.2.2.1).bind fun c=>ck (gy F (((a.1++(ByteArray.mk #[62]))++b.1)++(ByteArray.mk #[58])).size c.1.size) (ck (gy F ((((a.1++(ByteArray.mk #[62]))++b.1)++(ByteArray.mk #[58]))++c.1).size (ByteArray.mk #[35]).size) ((bB F0 x.2.2.2).bind fun d=>ck (gy F (((((a.1++(ByteArray.mk #[62]))++b.1)++(ByteArray.mk #[58]))++c.1)++(ByteArray.mk #[35])).size d.1.size) (some ((((((a.1++(ByteArray.mk #[62]))++b.1)++(ByteArray.mk #[58]))++c.1)++(ByteArray.mk #[35]))++d.1,())))))))):=by kernel_rfl
def yb:Any:=.one ⟨HF,bJ,1,fun x=>pM F0 x.1⟩
def JI:bw 296 yb:=aM MO ⟨dk,mf,trivial⟩ func296 ad (by kernel_rfl)
def ri:=[(252,gX),(296,yb)]
def rj:Nat->Option Hint:=look [(3,{live:=[0,3,4],xl:=[3],rl:=[2]})]
def ig (a:List D4)(b:ByteArray)(i:Int):= dG 29 [(0,x0 99 (K4) a),(3,C9 b),(4,cD i)]
def Ft (a:ByteArray):= dG 29 [(2,C9 a)]
def Dc (a:ByteArray):= dG 29 [(3,C9 a)]
def lA (a:St):Option U:=hl ri F rj [.r,.r,.l,.r,.b,.i] f259 J n a
def mg:=p9 ri F rj [.r,.r,.l,.r,.b] f259 bJ 1
def yK (a:List D4)(b:ByteArray)(i:Int):lA F J (n+1) (ig a b i)=br (decide (i<(a.length:Int))) (ck (b5 i (a.length:Int)) ((me F0 (bd a i K4.aI)).bind fun d=>br (!d.1) (J .ret (Ft ah)) (br (decide (i>0)) (ck (gy F b.size (ByteArray.mk #[44]).size) (ck (b5 i (a.length:Int)) ((pM F0 (bd a i K4.aI)).bind fun c=>ck (gy F (b++(ByteArray.mk #[44])).size c.1.size) (lA F J n (ig a ((b++(ByteArray.mk #[44]))++c.1) (ak (i+1))))))) (ck (b5 i (a.length:Int)) ((pM F0 (bd a i K4.aI)).bind fun c=>ck (gy F b.size c.1.size) (lA F J n (ig a (b++c.1) (ak (i+1))))))))) (J (.exit 0) (Dc b)):=by kernel_rfl
def PY (a:ByteArray):mg F .ret (Ft a)=some (a,()):=by kernel_rfl
def Ok (a:ByteArray):mg F (.exit 0) (Dc a)=some (a,()):=by kernel_rfl
abbrev rk:List (Ty×Bool):=[(K5,false)]
def Al (a:D5):=cE ri F rj f259 rk bJ 1 (a,())
def Ul (a:D5):Al F a=lA F (mg F) F.n (ig a ah 0):=by kernel_rfl
def Fu:Any:=.one ⟨rk,bJ,1,fun x=>Al F0 x.1⟩
def Um:bw 259 Fu:=aM ri ⟨mf,JI,trivial⟩ func259 rj (by kernel_rfl)
def An:Nat->Option Hint:=look [(4,{live:=[0,1,5,6,7],xl:=[5],rl:=[4]})]
def ih (s:ByteArray)(a b i:Int)(c:List ByteArray):= hD 36 [(0,C9 s),(1,.v (.c (.int .u8 a))),(5,.v (.c (.own 1000000 none))),(6,cD b),(7,cD i)] [] [aJ 1000000 9 (.str) c]
def HG (a:List ByteArray):= hD 36 [(5,.v (.c (.own 1000000 none)))] [] [aJ 1000000 9 (.str) a]
def mh (a:St):Option U:=hl aN F An [.r,.r,.r,.l,.r,.b,.i] f215 J n a
abbrev aeP:List (Ty×Bool):=[(.sl 9 (.str),false)]
def BU:=p9 aN F An [.r,.r,.r,.l,.r,.b] f215 aeP 2
def Dd (s:ByteArray)(c a i:Int)(b:List ByteArray):mh F J (n+1) (ih s c a i b)=br (decide (i<=(s.size:Int))) (br (i==(s.size:Int)) (ck (I5 a i (s.size:Int)) (ck (fc F b.length [s.extract a.toNat i.toNat].length 16) (mh F J n (ih s c (ak (i+1)) (ak (i+1)) (b++[s.extract a.toNat i.toNat]))))) (ck (b5 i (s.size:Int)) (br ((gf s i)==c) (ck (I5 a i (s.size:Int)) (ck (fc F b.length [s.extract a.toNat i.toNat].length 16) (mh F J n (ih s c (ak (i+1)) (ak (i+1)) (b++[s.extract a.toNat i.toNat]))))) (mh F J n (ih s c a (ak (i+1)) b))))) (J (.exit 0) (HG b)):=by kernel_rfl
def RQ (a:List ByteArray):BU F (.exit 0) (HG a)=some (a,()):=by kernel_rfl
abbrev aba:List (Ty×Bool):=[(.str,false),(.int .u8,false)]
def po (s:ByteArray)(a:Int):=cE aN F An f215 aba aeP 2 (s,a,())
def ZZ (s:ByteArray)(a:Int):po F s a=mh F (BU F) F.n (ih s a 0 0 []):=by kernel_rfl
def BV:Any:=.one ⟨aba,aeP,2,fun x=>po F0 x.1 x.2.1⟩
def MP:bw 215 BV:=aM aN trivial func215 An (by kernel_rfl)
def Ao:Nat->Option Hint:=look [(2,{live:=[0,1,7],rl:=[4,5,6]})]
def rm (s:ByteArray)(a i:Int):= dG 26 [(0,C9 s),(1,.v (.c (.int .u8 a))),(7,cD i)]
def JJ (a b:ByteArray)(c:Bool):= dG 26 [(4,C9 a),(5,C9 b),(6,Uk c)]
def HH   := dG 26 []
def Ap (a:St):Option U:=hl aN F Ao [.r,.l,.r,.b,.i] f216 J n a
abbrev amc:List (Ty×Bool):=[(.str,false),(.str,false),(.bool,false)]
def rn:=p9 aN F Ao [.r,.l,.r,.b] f216 amc 1
def De (s:ByteArray)(a i:Int):Ap F J (n+1) (rm s a i)=br (decide (i<(s.size:Int))) (ck (b5 i (s.size:Int)) (br ((gf s i)==a) (ck (I5 0 i (s.size:Int)) (ck (I5 (ak (i+1)) (s.size:Int) (s.size:Int)) (J .ret (JJ (s.extract (0:Int).toNat i.toNat) (s.extract (ak (i+1)).toNat (s.size:Int).toNat) true)))) (Ap F J n (rm s a (ak (i+1)))))) (J (.exit 0) (HH)):=by kernel_rfl
def Un (a b:ByteArray)(c:Bool):rn F .ret (JJ a b c)=some (a,b,c,()):=by kernel_rfl
def RR: rn F (.exit 0) (HH)=some (ah,ah,false,()):=by kernel_rfl
def eY (s:ByteArray)(a:Int):=cE aN F Ao f216 aba amc 1 (s,a,())
def Z0 (s:ByteArray)(a:Int):eY F s a=Ap F (rn F) F.n (rm s a 0):=by kernel_rfl
def BW:Any:=.one ⟨aba,amc,1,fun x=>eY F0 x.1 x.2.1⟩
def MQ:bw 216 BW:=aM aN trivial func216 Ao (by kernel_rfl)
def vb:=[(68,cF)]
def vc:Nat->Option Hint:=look [(5,{live:=[0,4,5],xl:=[0,4],rl:=[2,3]})]
def n5 (s:ByteArray)(a i:Int):= dG 43 [(0,C9 s),(4,cD a),(5,cD i)]
def yc (a:Int)(b:Bool):= dG 43 [(2,cD a),(3,Uk b)]
def Fv (s:ByteArray)(a:Int):= dG 43 [(0,C9 s),(4,cD a)]
def vd (a:St):Option U:=hl vb F vc [.r,.r,.r,.l,.r,.b,.i] f217 J n a
abbrev abb:List (Ty×Bool):=[(.int .i64,false),(.bool,false)]
def n6:=p9 vb F vc [.r,.r,.r,.l,.r,.b] f217 abb 1
def BX (s:ByteArray)(a i:Int):vd F J (n+1) (n5 s a i)=br (decide (i<(s.size:Int))) (ck (b5 i (s.size:Int)) (br (decide ((gf s i)<48)) (J .ret (yc 0 false)) (ck (b5 i (s.size:Int)) (br (decide ((gf s i)>57)) (J .ret (yc 0 false)) (ck (b5 i (s.size:Int)) (vd F J n (n5 s (ak ((ak ((ak (10*a))+(ak (gf s i))))-48)) (ak (i+1))))))))) (J (.exit 0) (Fv s a)):=by kernel_rfl
def RS (a:Int)(b:Bool):n6 F .ret (yc a b)=some (a,b,()):=by kernel_rfl
def PZ (s:ByteArray)(a:Int):n6 F (.exit 0) (Fv s a)=(bB F0 a).bind fun b=>br (!(b.1.toList==s.toList)) (some (0,false,())) (some (a,true,())):=by kernel_rfl
def jh (s:ByteArray):=cE vb F vc f217 bJ abb 1 (s,())
def W8 (s:ByteArray):jh F s=br (decide ((s.size:Int)<1)) (some (0,false,())) (br (decide ((s.size:Int)>6)) (some (0,false,())) (vd F (n6 F) F.n (n5 s 0 0))):=by kernel_rfl
def yd:Any:=.one ⟨bJ,abb,1,fun x=>jh F0 x.1⟩
def JK:bw 217 yd:=aM vb ⟨dk,trivial⟩ func217 vc (by kernel_rfl)
def TE:=[(216,BW),(217,yd),(296,yb)]
abbrev aji:List (Ty×Bool):=[(K4,true),(.bool,false)]
def LI (s:ByteArray):=cE TE F ad f279 bJ aji 1 (s,())
def acV (s:ByteArray):LI F s=(eY F0 s 62).bind fun a=>(eY F0 a.2.1 58).bind fun b=>(eY F0 b.2.1 35).bind fun c=>(jh F0 a.1).bind fun d=>(jh F0 b.1).bind fun e=>(jh F0 c.1).bind fun f=>(jh F0 c.2.1).bind fun g=>br (s.toList==ah.toList) (some ((0,0,0,0),false,())) ((pM F0 (d.1,e.1,f.1,g.1)).bind fun h=>br (!(h.1.toList==s.toList)) (some ((0,0,0,0),false,())) (some ((d.1,e.1,f.1,g.1),true,()))):=by kernel_rfl
def MR:Any:=.one ⟨bJ,aji,1,fun x=>LI F0 x.1⟩
def acW:bw 279 MR:=aM TE ⟨MQ,JK,JI,trivial⟩ func279 ad (by kernel_rfl)
def Aq:=[(215,BV),(279,MR)]
def Ar:Nat->Option Hint:=look [(6,{live:=[4,5,6],xl:=[4],rl:=[2,3]})]
def rp (i:Int)(b:List D4)(a:List ByteArray):= hD 37 [(4,.v (.c (.own 1000000 none))),(5,.v (.c (.own 1000001 none))),(6,cD i)] [] [aJ 1000000 99 K4 b,aJ 1000001 9 (.str) a]
def JL (a:Bool)(b:List D4):= hD 37 [(2,.v (.c (.own 1000000 none))),(3,Uk a)] [] [aJ 1000000 99 K4 b]
def HI (a:List D4):= hD 37 [(4,.v (.c (.own 1000000 none)))] [] [aJ 1000000 99 K4 a]
def As (a:St):Option U:=hl Aq F Ar [.r,.r,.r,.r,.l,.r,.b,.i] f218 J n a
abbrev P0:List (Ty×Bool):=[(K5,false),(.bool,false)]
def rq:=p9 Aq F Ar [.r,.r,.r,.r,.l,.r,.b] f218 P0 2
def Df (i:Int)(b:List D4)(a:List ByteArray):As F J (n+1) (rp i b a)=br (decide (i<(a.length:Int))) (ck (b5 i (a.length:Int)) ((LI F0 (bd a i ByteArray.empty)).bind fun c=>br (!c.2.1) (J .ret (JL false [])) (ck (fc F b.length [c.1].length 32) (As F J n (rp (ak (i+1)) (b++[c.1]) a))))) (J (.exit 0) (HI b)):=by kernel_rfl
def Uo (a:Bool)(b:List D4):rq F .ret (JL a b)=some (b,a,()):=by kernel_rfl
def RT (a:List D4):rq F (.exit 0) (HI a)=some (a,true,()):=by kernel_rfl
def ue (s:ByteArray):=cE Aq F Ar f218 bJ P0 2 (s,())
def Z1 (s:ByteArray):ue F s=br (s.toList==ah.toList) (some ([],true,())) ((po F0 s 44).bind fun a=>As F (rq F) F.n (rp 0 [] a.1)):=by kernel_rfl
def JM:Any:=.one ⟨bJ,P0,2,fun x=>ue F0 x.1⟩
def Z2:bw 218 JM:=aM Aq ⟨MP,acW,trivial⟩ func218 Ar (by kernel_rfl)
def Au:=[(215,BV),(216,BW),(217,yd),(218,JM)]
def Av:Nat->Option Hint:=look [(10,{live:=[4,5,6,7,8],xl:=[5],rl:=[2,3]})]
def rr (c i:Int)(d a:List D6)(b:List ByteArray):= hD 91 [(4,.v (.c (.own 1000000 none))),(5,.v (.c (.own 1000001 none))),(6,.v (.c (.own 1000002 none))),(7,cD c),(8,cD i)] [] [aJ 1000000 163 K6 d,aJ 1000001 163 K6 a,aJ 1000002 9 (.str) b]
def fG (a:Bool)(b:List D6):= hD 91 [(2,.v (.c (.own 1000000 none))),(3,Uk a)] [] [aJ 1000000 163 K6 b]
def HJ (a:List D6):= hD 91 [(5,.v (.c (.own 1000000 none)))] [] [aJ 1000000 163 K6 a]
def Aw (a:St):Option U:=hl Au F Av [.r,.r,.r,.r,.r,.r,.r,.l,.r,.b,.i] f142 J n a
abbrev abc:List (Ty×Bool):=[(K7,false),(.bool,false)]
def ru:=p9 Au F Av [.r,.r,.r,.r,.r,.r,.r,.l,.r,.b] f142 abc 2
def Dg (g i:Int)(a d:List D6)(c:List ByteArray):Aw F J (n+1) (rr g i a d c)=br (decide (i<(c.length:Int))) (ck (b5 i (c.length:Int)) ((eY F0 (bd c i ByteArray.empty) 124).bind fun f=>(jh F0 f.1).bind fun b=>(ue F0 f.2.1).bind fun e=>br (!f.2.2.1) (J .ret (fG false a)) (br (!b.2.1) (J .ret (fG false a)) (br (!e.2.1) (J .ret (fG false a)) (br (decide (b.1<=g)) (J .ret (fG false a)) (br (decide (b.1>60)) (J .ret (fG false a)) (br (decide ((e.1.length:Int)>2)) (J .ret (fG false a)) (ck (fc F d.length [(b.1,e.1)].length 32) (Aw F J n (rr b.1 (ak (i+1)) a (d++[(b.1,e.1)]) c)))))))))) (J (.exit 0) (HJ d)):=by kernel_rfl
def HK (a:Bool)(b:List D6):ru F .ret (fG a b)=some (b,a,()):=by kernel_rfl
def RU (a:List D6):ru F (.exit 0) (HJ a)=some (a,true,()):=by kernel_rfl
def jy (s:ByteArray):=cE Au F Av f142 bJ abc 2 (s,())
def Z3 (s:ByteArray):jy F s=br (s.toList==ah.toList) (some ([],true,())) ((po F0 s 47).bind fun a=>ck (b5 0 (a.1.length:Int)) (br (!((bd a.1 0 ByteArray.empty).toList==ah.toList)) (some ([],false,())) (br (decide ((a.1.length:Int)>31)) (some ([],false,())) (Aw F (ru F) F.n (rr 0 1 [] [] a.1))))):=by kernel_rfl
def ij:Any:=.one ⟨bJ,abc,2,fun x=>jy F0 x.1⟩
def nH:bw 142 ij:=aM Au ⟨MP,MQ,JK,Z2,trivial⟩ func142 Av (by kernel_rfl)
def MS:=[(142,ij)]
def dz (s:ByteArray):=cE MS F ad f118 bJ b3 1 (s,())
def W9 (s:ByteArray):dz F s=(jy F0 s).bind fun a=>some (a.2.1,()):=by kernel_rfl
def dq:Any:=.one ⟨bJ,b3,1,fun x=>dz F0 x.1⟩
def eD:bw 118 dq:=aM MS ⟨nH,trivial⟩ func118 ad (by kernel_rfl)
def ve:=[(68,cF),(118,dq),(252,gX),(259,Fu)]
def vf:Nat->Option Hint:=look [(2,{live:=[0,1,2,7],xl:=[0,1,2],rl:=[6]})]
def n7 (a:ByteArray)(b:Int)(c:List D4)(i:Int):= dG 34 [(0,C9 a),(1,cD b),(2,x0 99 (K4) c),(7,cD i)]
def HL (a:ByteArray):= dG 34 [(6,C9 a)]
def Fw (a:ByteArray)(b:Int)(c:List D4):= dG 34 [(0,C9 a),(1,cD b),(2,x0 99 (K4) c)]
def vg (a:St):Option U:=hl ve F vf [.r,.l,.r,.b,.i] f187 J n a
def n8:=p9 ve F vf [.r,.l,.r,.b] f187 bJ 1
def BY (b:ByteArray)(c:Int)(a:List D4)(i:Int):vg F J (n+1) (n7 b c a i)=br (decide (i<(a.length:Int))) (ck (b5 i (a.length:Int)) ((me F0 (bd a i K4.aI)).bind fun d=>br (!d.1) (J .ret (HL ah)) (vg F J n (n7 b c a (ak (i+1)))))) (J (.exit 0) (Fw b c a)):=by kernel_rfl
def RV (a:ByteArray):n8 F .ret (HL a)=some (a,()):=by kernel_rfl
def P1 (a:ByteArray)(d:Int)(e:List D4):n8 F (.exit 0) (Fw a d e)=ck (gy F a.size (ByteArray.mk #[47]).size) ((bB F0 d).bind fun b=>ck (gy F (a++(ByteArray.mk #[47])).size b.1.size) (ck (gy F ((a++(ByteArray.mk #[47]))++b.1).size (ByteArray.mk #[124]).size) ((Al F0 e).bind fun c=>ck (gy F (((a++(ByteArray.mk #[47]))++b.1)++(ByteArray.mk #[124])).size c.1.size) ((dz F0 ((((a++(ByteArray.mk #[47]))++b.1)++(ByteArray.mk #[124]))++c.1)).bind fun f=>br (!f.1) (some (ah,())) (some ((((a++(ByteArray.mk #[47]))++b.1)++(ByteArray.mk #[124]))++c.1,())))))):=by kernel_rfl
abbrev apc:List (Ty×Bool):=[(.str,false),(.int .i64,false),(K5,false)]
def MT (a:ByteArray)(b:Int)(c:D5):=cE ve F vf f187 apc bJ 1 (a,b,c,())
def JN:∃f,f= @MT:=⟨_,rfl⟩
def dX:=Classical.choose JN
def HM: @dX= @MT:=Classical.choose_spec JN
def Xa (a:ByteArray)(b:Int)(c:D5):dX F a b c=vg F (n8 F) F.n (n7 a b c 0):=by rw[HM];kernel_rfl
def j9:Any:=.one ⟨apc,bJ,1,fun x=>dX F0 x.1 x.2.1 x.2.2.1⟩
def rv:bw 187 j9:=ok1 (show re Tryz.prog TB ve from⟨dk,eD,mf,Um,trivial⟩) func187 (by kernel_rfl) (by kernel_rfl) vf (by rw[HM];kernel_rfl)
end
end Go.Am.Tryz
namespace Go.Am.Tryz
open Go.Am Go.Proofs Go.Proofs.Tryz
noncomputable section
variable {U:Type} (F:kk) (J:Ex->St->Option U) (n:Nat)
def dt:=[(98,al),(186,bW),(187,j9)]
def du:Nat->Option Hint:=look [(4,{live:=[0,3,4,5],xl:=[3],rl:=[2]}),(9,{live:=[0,3,4,5,6,7],xl:=[0,3,4,5,6],rl:=[2]})]
def eE (s:ByteArray)(d i k:Int)(a:List Int)(b c:Int)(e:List D4):St:={nt:=37,tm:=[(0,.v (.c (.ptr 4000000 0))),(3,C9 s),(4,cD d),(5,cD i),(6,.v (.c (.own 1000000 none))),(7,cD k)],bx:=[(4000000,[.ro true 5 (.int .u8) a,aw b,aw c])],bl:=[aJ 1000000 99 K4 e],sp:=.v (.c (.ptr 4000000 0))}
def kD (s:ByteArray)(d i:Int)(a:List Int)(b c:Int)(e:List D4):St:={nt:=37,tm:=[(0,.v (.c (.ptr 4000000 0))),(3,C9 s),(4,cD d),(5,cD i),(6,.v (.c (.own 1000000 none)))],bx:=[(4000000,[.ro true 5 (.int .u8) a,aw b,aw c])],bl:=[aJ 1000000 99 K4 e],sp:=.v (.c (.ptr 4000000 0))}
def fH (a:St):Option U:=hl dt F du [.r,.r,.r,.l,.r,.b,.i,.r,.l,.b,.r,.r,.l,.r,.b,.i] f123 J n a
def wo:Ex->St->Option U:=Wk Tryz.prog (look dt) F du [.r,.l,.b,.r,.r,.l,.r,.b] (sub [.r,.r,.r,.l,.r,.b,.i] (ia f123)) (itk Tryz.prog (look dt) F du (sub [.r,.r,.r,.l,.r,.b,.i] (ia f123)) J n)
def gA (s:ByteArray)(d i:Int)(a:List Int)(b c:Int):St:={nt:=37,tm:=[(0,.v (.c (.ptr 4000000 0))),(3,C9 s),(4,cD d),(5,cD i)],bx:=[(4000000,[.ro true 5 (.int .u8) a,aw b,aw c])],bl:=[],sp:=.v (.c (.ptr 4000000 0))}
def tz (s:ByteArray)(a:List Int)(b c:Int):St:={nt:=37,tm:=[(3,C9 s)],bx:=[(4000000,[.ro true 5 (.int .u8) a,aw b,aw c])],bl:=[],sp:=.v (.c (.ptr 4000000 0))}
def jz (a:St):Option U:=hl dt F du [.r,.r,.r,.l,.r,.b,.i] f123 J n a
def lB:=EV dt F du [.r,.r,.r,.l,.r,.b] f123 .cur bJ aX 1
def pN (s:ByteArray)(d i k:Int)(e:List Int)(f g:Int)(c:List D4):fH F J (n+1) (eE s d i k e f g c)=(af F0 (e,f,g) 3).bind fun a=>br (decide (k<a.1.1)) ((cd F0 a.2.1).bind fun b=>ck (fc F c.length [b.1.1].length 32) (fH F J n (eE s d i (ak (k+1)) b.2.1.1 b.2.1.2.1 b.2.1.2.2 (c++[b.1.1])))) (J (.exit 2) (kD s d i a.2.1.1 a.2.1.2.1 a.2.1.2.2 c)):=by kernel_rfl
def pO (s:ByteArray)(f i:Int)(c:List Int)(d e:Int):jz F J (n+1) (gA s f i c d e)=(af F0 (c,d,e) 6).bind fun a=>br (decide (i<a.1.1)) ((af F0 a.2.1 4).bind fun b=>fH F (wo F J n) F.n (eE s (ak ((ak (f+1))+(ak (Int.tdiv b.1.1 3)))) i 0 b.2.1.1 b.2.1.2.1 b.2.1.2.2 [])) (J (.exit 0) (tz s a.2.1.1 a.2.1.2.1 a.2.1.2.2)):=by kernel_rfl
def GY (s:ByteArray)(a i:Int)(b:List Int)(c d:Int)(e:List D4):wo F J n (.exit 2) (kD s a i b c d e)=(dX F0 s a e).bind fun f=>jz F J n (gA f.1 a (ak (i+1)) b c d):=by kernel_rfl
def ry (s:ByteArray)(a:List Int)(b c:Int):lB F (.exit 0) (tz s a b c)=some ((s,()),(a,b,c),()):=by kernel_rfl
def c8 (c:D2):=eX dt F du f123 aX 0 .cur bJ aX 1 (c,())
def Mb (c:D2):c8 F c=jz F (lB F) F.n (gA ah 0 0 c.1 c.2.1 c.2.2):=by kernel_rfl
def cZ:Any:=.two ⟨aX,0,.cur,bJ,1,aX,fun x=>c8 F0 x.1⟩
def dV:bw 123 cZ:=hA dt ⟨ar,cL,rv,trivial⟩ func123 du (by kernel_rfl)
def MU:=[(142,ij)]
def bY (s:ByteArray):=cE MU F ad f119 bJ gg 1 (s,())
def Xb (s:ByteArray):bY F s=(jy F0 s).bind fun a=>br (!a.2.1) (some (0,())) (br ((a.1.length:Int)==0) (some (0,())) (ck (b5 (ak ((a.1.length:Int)-1)) (a.1.length:Int)) (some ((bd a.1 (ak ((a.1.length:Int)-1)) (0,[])).1,())))):=by kernel_rfl
def bK:Any:=.one ⟨bJ,gg,1,fun x=>bY F0 x.1⟩
def cg:bw 119 bK:=aM MU ⟨nH,trivial⟩ func119 ad (by kernel_rfl)
def n9:=[(97,cc),(98,al),(119,bK)]
def oa:Nat->Option Hint:=look [(5,{live:=[0,4,6,7,8],CY:=[(6,2,3,.int .i64),(7,2,3,.int .i64)],xl:=[0,6,7],rl:=[6]})]
def kN (i:Int)(a:List Int)(b c d e h:Int)(j:ByteArray)(q:Int)(f:ByteArray)(k g:List Int):St:={nt:=56,tm:=[(0,.v (.c (.ptr 4000000 0))),de 4,de 6,de 7,(8,cD i)],bx:=[(4000000,[.ro true 5 (.int .u8) a,aw b,aw c]),(4,[aw d,aw e]),(6,[aw h,.str j,.own 1000000 none]),(7,[aw q,.str f,.own 1000001 none])],bl:=[aJ 1000000 3 (.int .i64) k,aJ 1000001 3 (.int .i64) g],sp:=.v (.c (.ptr 4000000 0))}
def pq (a:List Int)(b c f:Int)(g:ByteArray)(q:Int)(d:ByteArray)(h e:List Int):St:={nt:=56,tm:=[(0,.v (.c (.ptr 4000000 0))),de 6,de 7],bx:=[(4000000,[.ro true 5 (.int .u8) a,aw b,aw c]),(6,[aw f,.str g,.own 1000000 none]),(7,[aw q,.str d,.own 1000001 none])],bl:=[aJ 1000000 3 (.int .i64) h,aJ 1000001 3 (.int .i64) e],sp:=.v (.c (.ptr 4000000 0))}
def oc (a:St):Option U:=hl n9 F oa [.r,.r,.r,.l,.r,.b,.i] f122 J n a
abbrev iW:List (Ty×Bool):=[(K9,true)]
def kO:=EV n9 F oa [.r,.r,.r,.l,.r,.b] f122 .cur iW aX 2
def wq (i:Int)(b:List Int)(c d e k g:Int)(h:ByteArray)(q:Int)(f:ByteArray)(j a:List Int):oc F J (n+1) (kN i b c d e k g h q f j a)=br (decide (i<e)) (ck (fc F a.length [i].length 8) (oc F J n (kN (ak (i+1)) b c d e k g h q f j (a++[i])))) (J (.exit 0) (pq b c d g h q f j a)):=by kernel_rfl
def Mc (e:List Int)(f g h:Int)(i:ByteArray)(q:Int)(c:ByteArray)(j a:List Int):kO F (.exit 0) (pq e f g h i q c j a)=(cX F0 (e,f,g) 2).bind fun d=>br d.1.1 (br (decide ((a.length:Int)>0)) ((af F0 d.2.1 (a.length:Int)).bind fun b=>ck (okT b.1.1 (a.length:Int)) (ck (I5 (ak (b.1.1+1)) (a.length:Int) (a.length:Int)) (ck (fc F 0 (a.take b.1.1.toNat).length 8) (ck (fc F ([]++(a.take b.1.1.toNat)).length ((a.take (a.length:Int).toNat).drop (ak (b.1.1+1)).toNat).length 8) (some (((q,c,([]++(a.take b.1.1.toNat))++((a.take (a.length:Int).toNat).drop (ak (b.1.1+1)).toNat)),()),b.2.1,())))))) (some (((q,c,a),()),d.2.1,()))) (some (((q,c,a),()),d.2.1,())):=by kernel_rfl
abbrev apd:List (Ty×Bool):=[(K2,true),(K1,true),(.str,false)]
def kq (c:D2)(a:D1)(name:ByteArray):=eX n9 F oa f122 apd 0 .cur iW aX 2 (c,a,name,())
def RW (c:D2)(a:D1)(name:ByteArray):kq F c a name=(bY F0 name).bind fun b=>br (name.toList==ah.toList) (some (((b.1,name,[]),()),c,())) (oc F (kO F) F.n (kN 0 c.1 c.2.1 c.2.2 a.1 a.2 0 ah b.1 name [] [])):=by kernel_rfl
def kP:Any:=.two ⟨apd,0,.cur,iW,2,aX,fun x=>kq F0 x.1 x.2.1 x.2.2.1⟩
def uf:bw 122 kP:=hA n9 ⟨cY,ar,cg,trivial⟩ func122 oa (by kernel_rfl)
def MV:=[(98,al)]
def Dh (c:D2)(a:List ByteArray):=eX MV F ad f260 [(K2,true),(.sl 9 (.str),false)] 0 .cur bJ aX 1 (c,a,())
def Xc (c:D2)(a:List ByteArray):Dh F c a=(af F0 c (a.length:Int)).bind fun b=>ck (b5 b.1.1 (a.length:Int)) (some ((bd a b.1.1 ByteArray.empty,()),b.2.1,())):=by kernel_rfl
def HN:Any:=.two ⟨[(K2,true),(.sl 9 (.str),false)],0,.cur,bJ,1,aX,fun x=>Dh F0 x.1 x.2.1⟩
def Xd:bw 260 HN:=hA MV ⟨ar,trivial⟩ func260 ad (by kernel_rfl)
def MW:=[(98,al),(260,HN)]
def Di (c:D2)(s:ByteArray):=eX MW F ad f188 [(K2,true),(.str,false)] 0 .cur bJ aX 1 (c,s,())
def Xe (c:D2)(s:ByteArray):Di F c s=(af F0 c (ak ((s.size:Int)+1))).bind fun a=>(af F0 a.2.1 5).bind fun b=>br (b.1.1==0) (ck (I5 0 a.1.1 (s.size:Int)) (some ((s.extract (0:Int).toNat a.1.1.toNat,()),b.2.1,()))) (br (b.1.1==1) (ck (I5 0 a.1.1 (s.size:Int)) (ck (I5 a.1.1 (s.size:Int) (s.size:Int)) ((Dh F0 b.2.1 [(ByteArray.mk #[48]),(ByteArray.mk #[44]),(ByteArray.mk #[62]),(ByteArray.mk #[47]),(ByteArray.mk #[124]),(ByteArray.mk #[120]),(ByteArray.mk #[49])]).bind fun d=>ck (gy F (s.extract (0:Int).toNat a.1.1.toNat).size d.1.1.size) (ck (gy F ((s.extract (0:Int).toNat a.1.1.toNat)++d.1.1).size (s.extract a.1.1.toNat (s.size:Int).toNat).size) (some ((((s.extract (0:Int).toNat a.1.1.toNat)++d.1.1)++(s.extract a.1.1.toNat (s.size:Int).toNat),()),d.2.1,())))))) (some ((s,()),b.2.1,()))):=by kernel_rfl
def HO:Any:=.two ⟨[(K2,true),(.str,false)],0,.cur,bJ,1,aX,fun x=>Di F0 x.1 x.2.1⟩
def Xf:bw 188 HO:=hA MW ⟨ar,Xd,trivial⟩ func188 ad (by kernel_rfl)
def vh:=[(68,cF),(97,cc),(98,al),(123,cZ),(188,HO)]
def vi:Nat->Option Hint:=look [(4,{live:=[0,3,4],xl:=[3],rl:=[2]})]
def oe (s:ByteArray)(i:Int)(a:List Int)(b c:Int):St:={nt:=25,tm:=[(0,.v (.c (.ptr 4000000 0))),(3,C9 s),(4,cD i)],bx:=[(4000000,[.ro true 5 (.int .u8) a,aw b,aw c])],bl:=[],sp:=.v (.c (.ptr 4000000 0))}
def Fx (s:ByteArray)(a:List Int)(b c:Int):St:={nt:=25,tm:=[(3,C9 s)],bx:=[(4000000,[.ro true 5 (.int .u8) a,aw b,aw c])],bl:=[],sp:=.v (.c (.ptr 4000000 0))}
def vj (a:St):Option U:=hl vh F vi [.r,.l,.r,.t,.r,.l,.r,.b,.i] f124 J n a
def ye:=EV vh F vi [.r,.l,.r,.t,.r,.l,.r,.b] f124 .cur bJ aX 1
def BZ (s:ByteArray)(i:Int)(c:List Int)(d e:Int):vj F J (n+1) (oe s i c d e)=(af F0 (c,d,e) 2).bind fun a=>br (decide (i<=(ak (30+a.1.1)))) (ck (gy F s.size (ByteArray.mk #[47]).size) ((bB F0 i).bind fun b=>ck (gy F (s++(ByteArray.mk #[47])).size b.1.size) (ck (gy F ((s++(ByteArray.mk #[47]))++b.1).size (ByteArray.mk #[124]).size) (vj F J n (oe (((s++(ByteArray.mk #[47]))++b.1)++(ByteArray.mk #[124])) (ak (i+1)) a.2.1.1 a.2.1.2.1 a.2.1.2.2))))) (J (.exit 0) (Fx s a.2.1.1 a.2.1.2.1 a.2.1.2.2)):=by kernel_rfl
def Dj (s:ByteArray)(a:List Int)(b c:Int):ye F (.exit 0) (Fx s a b c)=some ((s,()),(a,b,c),()):=by kernel_rfl
def pP (c:D2):=eX vh F vi f124 aX 0 .cur bJ aX 1 (c,())
def Xg (c:D2):pP F c=(cX F0 c 20).bind fun a=>br a.1.1 (vj F (ye F) F.n (oe ah 1 a.2.1.1 a.2.1.2.1 a.2.1.2.2)) ((c8 F0 a.2.1).bind fun b=>(Di F0 b.2.1 b.1.1).bind fun d=>some ((d.1.1,()),d.2.1,())):=by kernel_rfl
def og:Any:=.two ⟨aX,0,.cur,bJ,1,aX,fun x=>pP F0 x.1⟩
def B0:bw 124 og:=hA vh ⟨dk,cY,ar,dV,Xf,trivial⟩ func124 vi (by kernel_rfl)
def MX:=[(58,fF),(98,al),(122,kP),(123,cZ),(124,og)]
abbrev IT:List (Ty×Bool):=[(K2,true),(K1,true)]
def wu (c:D2)(a:D1):=eX MX F ad f60 IT 0 .cur iW aX 2 (c,a,())
def Xh (c:D2)(d:D1):wu F c d=(c8 F0 c).bind fun e=>(kq F0 e.2.1 d e.1.1).bind fun a=>(af F0 a.2.1 12).bind fun b=>br (b.1.1==0) (some (((ak (a.1.1.1+1),a.1.1.2),()),b.2.1,())) (br (b.1.1==1) ((fE F0 b.2.1 7).bind fun f=>some (((a.1.1.1,a.1.1.2.1,f.1.1),()),f.2.1,())) (br (b.1.1==2) ((pP F0 b.2.1).bind fun g=>some (((a.1.1.1,g.1.1,a.1.1.2.2),()),g.2.1,())) (some ((a.1.1,()),b.2.1,())))):=by kernel_rfl
def yf:Any:=.two ⟨IT,0,.cur,iW,2,aX,fun x=>wu F0 x.1 x.2.1⟩
def JO:bw 60 yf:=hA MX ⟨kM,ar,uf,dV,B0,trivial⟩ func60 ad (by kernel_rfl)
def Dk:=[(59,fD),(60,yf),(61,hE)]
def oh (a:List Int):=cE Dk F ad f8 j6 iW 2 (a,())
def Ol (b:List Int):oh F b=(gW F0 b).bind fun c=>(gj F0 c.1.1).bind fun a=>(wu F0 a.2.1 a.1.1).bind fun d=>some (d.1.1,()):=by kernel_rfl
def yL:Any:=.one ⟨j6,iW,2,fun x=>oh F0 x.1⟩
def Om:bw 8 yL:=aM Dk ⟨kp,JO,pn,trivial⟩ func8 ad (by kernel_rfl)
abbrev ajj:List (Ty×Bool):=[(.int .i64,false),(.int .i64,false)]
def cO (a b:Int):=cE aN F ad f189 ajj gg 1 (a,b,())
def MY (a b:Int):cO F a b=br (decide (a>b)) (some (a,())) (some (b,())):=by kernel_rfl
def dK:Any:=.one ⟨ajj,gg,1,fun x=>cO F0 x.1 x.2.1⟩
def fs:bw 189 dK:=aM aN trivial func189 ad (by kernel_rfl)
def hF:=[(97,cc),(98,al),(119,bK),(120,j7),(123,cZ),(189,dK)]
def hG:Nat->Option Hint:=look [(6,{live:=[0,3,4,6,7],CY:=[(4,2,3,.int .i64),(6,2,3,.int .i64)],xl:=[4,6],rl:=[4]})]
def b6 (i:Int)(a:List Int)(b c d e h:Int)(j:ByteArray)(p:Int)(f:ByteArray)(k g:List Int):St:={nt:=41,tm:=[(0,.v (.c (.ptr 4000000 0))),de 3,de 4,de 6,(7,cD i)],bx:=[(4000000,[.ro true 5 (.int .u8) a,aw b,aw c]),(3,[aw d,aw e]),(4,[aw h,.str j,.own 1000000 none]),(6,[aw p,.str f,.own 1000001 none])],bl:=[aJ 1000000 3 (.int .i64) k,aJ 1000001 3 (.int .i64) g],sp:=.v (.c (.ptr 4000000 0))}
def rz (a:List Int)(b c f:Int)(g:ByteArray)(p:Int)(d:ByteArray)(h e:List Int):St:={nt:=41,tm:=[de 4,de 6],bx:=[(4000000,[.ro true 5 (.int .u8) a,aw b,aw c]),(4,[aw f,.str g,.own 1000000 none]),(6,[aw p,.str d,.own 1000001 none])],bl:=[aJ 1000000 3 (.int .i64) h,aJ 1000001 3 (.int .i64) e],sp:=.v (.c (.ptr 4000000 0))}
def cM (a:St):Option U:=hl hF F hG [.r,.r,.r,.r,.l,.r,.b,.i] f125 J n a
def cP:=EV hF F hG [.r,.r,.r,.r,.l,.r,.b] f125 .cur iW aX 2
def nI (i:Int)(j:List Int)(k l c m f:Int)(g:ByteArray)(p:Int)(d:ByteArray)(h e:List Int):cM F J (n+1) (b6 i j k l c m f g p d h e)=(af F0 (j,k,l) 7).bind fun a=>br (decide (i<(ak (1+a.1.1)))) ((cO F0 c 4).bind fun o=>(af F0 a.2.1 o.1).bind fun b=>(iZ F0 e b.1.1).bind fun q=>cM F J n (b6 (ak (i+1)) b.2.1.1 b.2.1.2.1 b.2.1.2.2 c m f g p d h q.1)) (J (.exit 0) (rz a.2.1.1 a.2.1.2.1 a.2.1.2.2 f g p d h e)):=by kernel_rfl
def pQ (a:List Int)(b c f:Int)(g:ByteArray)(p:Int)(d:ByteArray)(h e:List Int):cP F (.exit 0) (rz a b c f g p d h e)=some (((p,d,e),()),(a,b,c),()):=by kernel_rfl
def eM (c:D2)(a:D1):=eX hF F hG f125 IT 0 .cur iW aX 2 (c,a,())
def JP (c:D2)(b:D1):eM F c b=(c8 F0 c).bind fun e=>(bY F0 e.1.1).bind fun f=>(cX F0 e.2.1 4).bind fun d=>br d.1.1 ((af F0 d.2.1 4).bind fun a=>cM F (cP F) F.n (b6 0 a.2.1.1 a.2.1.2.1 a.2.1.2.2 b.1 b.2 0 ah (ak (1+a.1.1)) ah [] [])) (br (e.1.1.toList==ah.toList) ((af F0 d.2.1 4).bind fun a=>cM F (cP F) F.n (b6 0 a.2.1.1 a.2.1.2.1 a.2.1.2.2 b.1 b.2 0 ah (ak (1+a.1.1)) ah [] [])) (cM F (cP F) F.n (b6 0 d.2.1.1 d.2.1.2.1 d.2.1.2.2 b.1 b.2 0 ah f.1 e.1.1 [] []))):=by kernel_rfl
def fV:Any:=.two ⟨IT,0,.cur,iW,2,aX,fun x=>eM F0 x.1 x.2.1⟩
def lC:bw 125 fV:=hA hF ⟨cY,ar,cg,rh,dV,fs,trivial⟩ func125 hG (by kernel_rfl)
def JQ:=[(58,fF),(98,al),(121,bg),(124,og),(125,fV)]
def mi (c:D2)(a:D1):=eX JQ F ad f62 IT 0 .cur iW aX 2 (c,a,())
def Up (c:D2)(d:D1):mi F c d=(eM F0 c d).bind fun a=>(af F0 a.2.1 10).bind fun b=>br (b.1.1==0) ((aH F0 b.2.1 [(-1),0,60,61]).bind fun e=>some (((e.1.1,a.1.1.2),()),e.2.1,())) (br (b.1.1==1) ((fE F0 b.2.1 7).bind fun f=>some (((a.1.1.1,a.1.1.2.1,f.1.1),()),f.2.1,())) (br (b.1.1==2) ((pP F0 b.2.1).bind fun g=>some (((a.1.1.1,g.1.1,a.1.1.2.2),()),g.2.1,())) (some ((a.1.1,()),b.2.1,())))):=by kernel_rfl
def mj:Any:=.two ⟨IT,0,.cur,iW,2,aX,fun x=>mi F0 x.1 x.2.1⟩
def yg:bw 62 mj:=hA JQ ⟨kM,ar,bz,B0,lC,trivial⟩ func62 ad (by kernel_rfl)
def yM:=[(59,fD),(61,hE),(62,mj)]
def kQ (a:List Int):=cE yM F ad f9 j6 iW 2 (a,())
def JR (b:List Int):kQ F b=(gW F0 b).bind fun c=>(gj F0 c.1.1).bind fun a=>(mi F0 a.2.1 a.1.1).bind fun d=>some (d.1.1,()):=by kernel_rfl
def tA:Any:=.one ⟨j6,iW,2,fun x=>kQ F0 x.1⟩
def JS:bw 9 tA:=aM yM ⟨kp,pn,yg,trivial⟩ func9 ad (by kernel_rfl)
def ml:Nat->Option Hint:=look [(3,{live:=[0,1,2],CY:=[(0,0,3,.int .i64),(0,1,3,.int .i64),(1,0,3,.int .i64)],xl:=[0,1],rl:=[0]})]
def eg (i:Int)(d a b c:List Int):= hD 15 [de 0,de 1,(2,cD i)] [(0,[.own 1000000 none,.own 1000001 none]),(1,[.own 1000002 none,.own 1000003 none])] [aJ 1000000 3 (.int .i64) d,aJ 1000001 3 (.int .i64) a,aJ 1000002 3 (.int .i64) b,aJ 1000003 3 (.int .i64) c]
def yN (d a b c:List Int):= hD 15 [de 0,de 1] [(0,[.own 1000000 none,.own 1000001 none]),(1,[.own 1000002 none,.own 1000003 none])] [aJ 1000000 3 (.int .i64) d,aJ 1000001 3 (.int .i64) a,aJ 1000002 3 (.int .i64) b,aJ 1000003 3 (.int .i64) c]
def fx (a:St):Option U:=hl aN F ml [.r,.r,.l,.r,.b,.i] f156 J n a
abbrev lD:List (Ty×Bool):=[(K10,true)]
def fI:=p9 aN F ml [.r,.r,.l,.r,.b] f156 lD 2
def tB (i:Int)(d b a c:List Int):fx F J (n+1) (eg i d b a c)=br (decide (i<4)) (ck (fc F a.length [100].length 8) (fx F J n (eg (ak (i+1)) d b (a++[100]) c))) (J (.exit 0) (yN d b a c)):=by kernel_rfl
def JT (d c a b:List Int):fI F (.exit 0) (yN d c a b)=some ((a,b),()):=by kernel_rfl
def fJ: Option (Args lD):=cE aN F ml f156 [] lD 2 (())
def P2: fJ F= ck (okM F 4 4 8) (fx F (fI F) F.n (eg 0 [] [] [] (List.replicate (4:Int).toNat 0))):=by kernel_rfl
def jA:Any:=.one ⟨[],lD,2,fun x=>fJ F0⟩
def rA:bw 156 jA:=aM aN trivial func156 ml (by kernel_rfl)
def lE (l:D10):=cE aN F ad f233 lD lD 2 (l,())
def Xi (l:D10):lE F l=ck (fc F 0 l.1.length 8) (ck (fc F 0 l.2.length 8) (some (([]++l.1,[]++l.2),()))):=by kernel_rfl
def oi:Any:=.one ⟨lD,lD,2,fun x=>lE F0 x.1⟩
def B1:bw 233 oi:=aM aN trivial func233 ad (by kernel_rfl)
def oj:=[(117,bA)]
def om:Nat->Option Hint:=look [(4,{live:=[1,3],rl:=[2]})]
def kR (i:Int)(l a:List Int):= hD 34 [de 1,(3,cD i)] [(1,[.ro false 3 (.int .i64) l,.ro false 3 (.int .i64) a])] []
def rB (a:Bool):= dG 34 [(2,Uk a)]
def B2   := dG 34 []
def oo (a:St):Option U:=hl oj F om [.r,.r,.l,.r,.b,.i] f261 J n a
def kS:=p9 oj F om [.r,.r,.l,.r,.b] f261 b3 1
def wv (i:Int)(l a:List Int):oo F J (n+1) (kR i l a)=br (decide (i<4)) (ck (b5 i (l.length:Int)) ((bn F0 (bd l i 0) 0 400).bind fun b=>br (!b.1) (J .ret (rB false)) (ck (b5 i (a.length:Int)) ((bn F0 (bd a i 0) 0 100).bind fun c=>br (!c.1) (J .ret (rB false)) (oo F J n (kR (ak (i+1)) l a)))))) (J (.exit 0) (B2)):=by kernel_rfl
def B3 (a:Bool):kS F .ret (rB a)=some (a,()):=by kernel_rfl
def Md: kS F (.exit 0) (B2)=some (true,()):=by kernel_rfl
def nJ (l:D10):=cE oj F om f261 lD b3 1 (l,())
def RX (l:D10):nJ F l=br ((l.1.length:Int) != 4) (some (false,())) (br ((l.2.length:Int) != 4) (some (false,())) (oo F (kS F) F.n (kR 0 l.1 l.2))):=by kernel_rfl
def Dl:Any:=.one ⟨lD,b3,1,fun x=>nJ F0 x.1⟩
def RY:bw 261 Dl:=aM oj ⟨bX,trivial⟩ func261 om (by kernel_rfl)
def Xj:=[(233,oi),(252,gX),(261,Dl)]
def wx (l:D10)(x:D4):=cE Xj F ad f190 [(K10,true),(K4,true)] [(K10,true),(.int .i64,false)] 2 (l,x,())
def aeQ (l:D10)(x:D4):wx F l x=(lE F0 l).bind fun a=>(nJ F0 l).bind fun b=>br (!b.1) (some (a.1,1,())) ((me F0 x).bind fun c=>br (!c.1) (some (a.1,1,())) (ck (b5 x.1 (l.2.length:Int)) (br (decide (x.2.2.2<(bd l.2 x.1 0))) (some (a.1,2,())) (ck (b5 x.1 (l.2.length:Int)) (br (decide (x.2.2.2>(bd l.2 x.1 0))) (some (a.1,3,())) (ck (b5 x.1 (a.1.2.length:Int)) (ck (b5 x.1 (l.1.length:Int)) (br (decide (x.2.2.1>(bd l.1 x.1 0))) (some ((a.1.1,a.1.2.set x.1.toNat (ak (x.2.2.2+1))),4,())) (ck (b5 x.1 (a.1.1.length:Int)) (ck (b5 x.1 (a.1.1.length:Int)) (ck (b5 x.2.1 ((a.1.1.set x.1.toNat (ak ((bd a.1.1 x.1 0)-x.2.2.1))).length:Int)) (ck (b5 x.2.1 ((a.1.1.set x.1.toNat (ak ((bd a.1.1 x.1 0)-x.2.2.1))).length:Int)) ((nJ F0 ((a.1.1.set x.1.toNat (ak ((bd a.1.1 x.1 0)-x.2.2.1))).set x.2.1.toNat (ak ((bd (a.1.1.set x.1.toNat (ak ((bd a.1.1 x.1 0)-x.2.2.1))) x.2.1 0)+x.2.2.1)),a.1.2.set x.1.toNat (ak (x.2.2.2+1)))).bind fun d=>br (!d.1) ((lE F0 l).bind fun e=>some (e.1,1,())) (some (((a.1.1.set x.1.toNat (ak ((bd a.1.1 x.1 0)-x.2.2.1))).set x.2.1.toNat (ak ((bd (a.1.1.set x.1.toNat (ak ((bd a.1.1 x.1 0)-x.2.2.1))) x.2.1 0)+x.2.2.1)),a.1.2.set x.1.toNat (ak (x.2.2.2+1))),0,()))))))))))))))):=by kernel_rfl
def rC:Any:=.one ⟨[(K10,true),(K4,true)],[(K10,true),(.int .i64,false)],2,fun x=>wx F0 x.1 x.2.1⟩
def Dm:bw 190 rC:=aM Xj ⟨B1,mf,RY,trivial⟩ func190 ad (by kernel_rfl)
def jB:=[(98,al),(156,jA),(186,bW),(190,rC)]
def jC:Nat->Option Hint:=look [(3,{live:=[0,2,3,4],CY:=[(2,0,3,.int .i64),(2,1,3,.int .i64)],xl:=[2,3],rl:=[2]})]
def gB (i:Int)(a:List Int)(b c:Int)(g d e f:List Int):St:={nt:=29,tm:=[(0,.v (.c (.ptr 4000000 0))),de 2,de 3,(4,cD i)],bx:=[(4000000,[.ro true 5 (.int .u8) a,aw b,aw c]),(2,[.own 1000000 none,.own 1000001 none]),(3,[.own 1000002 none,.own 1000003 none])],bl:=[aJ 1000000 3 (.int .i64) g,aJ 1000001 3 (.int .i64) d,aJ 1000002 3 (.int .i64) e,aJ 1000003 3 (.int .i64) f],sp:=.v (.c (.ptr 4000000 0))}
def tC (a:List Int)(b c:Int)(g d e f:List Int):St:={nt:=29,tm:=[de 2,de 3],bx:=[(4000000,[.ro true 5 (.int .u8) a,aw b,aw c]),(2,[.own 1000000 none,.own 1000001 none]),(3,[.own 1000002 none,.own 1000003 none])],bl:=[aJ 1000000 3 (.int .i64) g,aJ 1000001 3 (.int .i64) d,aJ 1000002 3 (.int .i64) e,aJ 1000003 3 (.int .i64) f],sp:=.v (.c (.ptr 4000000 0))}
def jD (a:St):Option U:=hl jB F jC [.r,.r,.l,.r,.b,.i] f126 J n a
def lF:=EV jB F jC [.r,.r,.l,.r,.b] f126 .cur lD aX 2
def pR (i:Int)(g:List Int)(h j:Int)(f d e b:List Int):jD F J (n+1) (gB i g h j f d e b)=(af F0 (g,h,j) 6).bind fun c=>br (decide (i<c.1.1)) ((cd F0 c.2.1).bind fun a=>ck (b5 a.1.1.1 (b.length:Int)) ((wx F0 (e,b) (a.1.1.1,a.1.1.2.1,a.1.1.2.2.1,bd b a.1.1.1 0)).bind fun k=>jD F J n (gB (ak (i+1)) a.2.1.1 a.2.1.2.1 a.2.1.2.2 f d k.1.1 k.1.2))) (J (.exit 0) (tC c.2.1.1 c.2.1.2.1 c.2.1.2.2 f d e b)):=by kernel_rfl
def rD (a:List Int)(b c:Int)(g f d e:List Int):lF F (.exit 0) (tC a b c g f d e)=some (((d,e),()),(a,b,c),()):=by kernel_rfl
def mm (c:D2):=eX jB F jC f126 aX 0 .cur lD aX 2 (c,())
def Me (c:D2):mm F c=(fJ F0).bind fun a=>jD F (lF F) F.n (gB 0 c.1 c.2.1 c.2.2 [] [] a.1.1 a.1.2):=by kernel_rfl
def wy:Any:=.two ⟨aX,0,.cur,lD,2,aX,fun x=>mm F0 x.1⟩
def Mf:bw 126 wy:=hA jB ⟨ar,rA,cL,Dm,trivial⟩ func126 jC (by kernel_rfl)
def MZ:=[(98,al),(121,bg),(126,wy)]
def Dn (c:D2):=eX MZ F ad f63 aX 0 .cur lD aX 2 (c,())
def Xk (c:D2):Dn F c=(mm F0 c).bind fun a=>(af F0 a.2.1 10).bind fun b=>br (b.1.1==0) ((aH F0 b.2.1 [(-1),400,401]).bind fun d=>ck (b5 1 (a.1.1.1.length:Int)) (some (((a.1.1.1.set (1:Int).toNat d.1.1,a.1.1.2),()),d.2.1,()))) (br (b.1.1==1) ((aH F0 b.2.1 [(-1),99,100,101]).bind fun e=>ck (b5 2 (a.1.1.2.length:Int)) (some (((a.1.1.1,a.1.1.2.set (2:Int).toNat e.1.1),()),e.2.1,()))) (br (b.1.1==2) (ck (fc F a.1.1.1.length [1].length 8) (some (((a.1.1.1++[1],a.1.1.2),()),b.2.1,()))) (some ((a.1.1,()),b.2.1,())))):=by kernel_rfl
def HP:Any:=.two ⟨aX,0,.cur,lD,2,aX,fun x=>Dn F0 x.1⟩
def Xl:bw 63 HP:=hA MZ ⟨ar,bz,Mf,trivial⟩ func63 ad (by kernel_rfl)
def tD:=[(59,fD),(63,HP)]
def hH (a:List Int):=cE tD F ad f10 j6 lD 2 (a,())
def GZ (a:List Int):hH F a=(gW F0 a).bind fun b=>(Dn F0 b.1.1).bind fun c=>some (c.1.1,()):=by kernel_rfl
def pS:Any:=.one ⟨j6,lD,2,fun x=>hH F0 x.1⟩
def G0:bw 10 pS:=aM tD ⟨kp,Xl,trivial⟩ func10 ad (by kernel_rfl)
def M0:=[(117,bA)]
def c0 (c:D1):=cE M0 F ad f101 MN b3 1 (c,())
def Xm (c:D1):c0 F c=(bn F0 c.1 4 7).bind fun a=>br a.1 ((bn F0 c.2 1 6).bind fun b=>some (b.1,())) (some (false,())):=by kernel_rfl
def bS:Any:=.one ⟨MN,b3,1,fun x=>c0 F0 x.1⟩
def cG:bw 101 bS:=aM M0 ⟨bX,trivial⟩ func101 ad (by kernel_rfl)
def Ax:Nat->Option Hint:=look [(2,{live:=[0,1,5],rl:=[4]})]
def lG (a:Int)(s:List Int)(i:Int):= dG 41 [(0,cD a),(1,x0 3 (.int .i64) s),(5,cD i)]
def rE (a:Bool):= dG 41 [(4,Uk a)]
def HQ   := dG 41 []
def rF (a:St):Option U:=hl aN F Ax [.r,.l,.r,.b,.i] f113 J n a
def rG:=p9 aN F Ax [.r,.l,.r,.b] f113 b3 1
def Dp (a:Int)(s:List Int)(i:Int):rF F J (n+1) (lG a s i)=br (decide (i<(s.length:Int))) (ck (b5 i (s.length:Int)) (br (decide ((bd s i 0)<0)) (J .ret (rE false)) (ck (b5 i (s.length:Int)) (br (decide ((bd s i 0)>=a)) (J .ret (rE false)) (br (decide (i>0)) (ck (b5 (ak (i-1)) (s.length:Int)) (ck (b5 i (s.length:Int)) (br (decide ((bd s (ak (i-1)) 0)>=(bd s i 0))) (J .ret (rE false)) (rF F J n (lG a s (ak (i+1))))))) (rF F J n (lG a s (ak (i+1))))))))) (J (.exit 0) (HQ)):=by kernel_rfl
def Uq (a:Bool):rG F .ret (rE a)=some (a,()):=by kernel_rfl
def RZ: rG F (.exit 0) (HQ)=some (true,()):=by kernel_rfl
abbrev ape:List (Ty×Bool):=[(.int .i64,false),(.sl 3 (.int .i64),false)]
def ug (a:Int)(s:List Int):=cE aN F Ax f113 ape b3 1 (a,s,())
def Z4 (a:Int)(s:List Int):ug F a s=rF F (rG F) F.n (lG a s 0):=by kernel_rfl
def rH:Any:=.one ⟨ape,b3,1,fun x=>ug F0 x.1 x.2.1⟩
def EW:bw 113 rH:=aM aN trivial func113 Ax (by kernel_rfl)
def M1:=[(101,bS)]
def pT (c:D1):=cE M1 F ad f295 MN gg 1 (c,())
def Xn (c:D1):pT F c=(c0 F0 c).bind fun a=>br (!a.1) (some (0,())) (some (ak (c.1-(ak (Int.tdiv (ak (c.1-1)) 3))),())):=by kernel_rfl
def oq:Any:=.one ⟨MN,gg,1,fun x=>pT F0 x.1⟩
def B4:bw 295 oq:=aM M1 ⟨cG,trivial⟩ func295 ad (by kernel_rfl)
def TF:=[(101,bS),(113,rH),(118,dq),(119,bK),(295,oq)]
abbrev TG:List (Ty×Bool):=[(K1,true),(K9,true)]
def gk (c:D1)(q:D9):=cE TF F ad f251 TG b3 1 (c,q,())
def acX (c:D1)(q:D9):gk F c q=(c0 F0 c).bind fun a=>br (!a.1) (some (false,())) ((dz F0 q.2.1).bind fun b=>br (!b.1) (some (false,())) ((bY F0 q.2.1).bind fun d=>br (d.1 != q.1) (some (false,())) (br (q.2.1.toList==ah.toList) (some ((q.2.2.length:Int)==0,())) ((ug F0 c.1 q.2.2).bind fun e=>br e.1 ((pT F0 c).bind fun f=>some (decide ((q.2.2.length:Int)>=f.1),())) (some (false,())))))):=by kernel_rfl
def eu:Any:=.one ⟨TG,b3,1,fun x=>gk F0 x.1 x.2.1⟩
def gC:bw 251 eu:=aM TF ⟨cG,EW,eD,cg,B4,trivial⟩ func251 ad (by kernel_rfl)
def M3:=[(117,bA),(118,dq),(251,eu)]
abbrev abd:List (Ty×Bool):=[(K1,true),(K13,true)]
def ft (c:D1)(s:D13):=cE M3 F ad f177 abd b3 1 (c,s,())
def Xo (c:D1)(s:D13):ft F c s=(bn F0 s.1 0 60).bind fun a=>br a.1 ((bn F0 s.2.1 0 60).bind fun b=>br b.1 ((gk F0 c s.2.2.1).bind fun d=>br d.1 ((dz F0 s.2.2.2).bind fun e=>some (e.1,())) (some (false,()))) (some (false,()))) (some (false,())):=by kernel_rfl
def eZ:Any:=.one ⟨abd,b3,1,fun x=>ft F0 x.1 x.2.1⟩
def ik:bw 177 eZ:=aM M3 ⟨bX,eD,gC,trivial⟩ func177 ad (by kernel_rfl)
def nK (a b:D4):=cE aN F ad f253 [(K4,true),(K4,true)] b3 1 (a,b,())
def R0 (a b:D4):nK F a b=br (decide (a.1<b.1)) (some (true,())) (br (a.1==b.1) (some (decide (a.2.2.2<b.2.2.2),())) (some (false,()))):=by kernel_rfl
def rI:Any:=.one ⟨[(K4,true),(K4,true)],b3,1,fun x=>nK F0 x.1 x.2.1⟩
def Fy:bw 253 rI:=aM aN trivial func253 ad (by kernel_rfl)
def vk:=[(252,gX),(253,rI)]
def vl:Nat->Option Hint:=look [(2,{live:=[0,3],xl:=[0],rl:=[2]})]
def ka (p:List D4)(i:Int):= dG 36 [(0,x0 99 (K4) p),(3,cD i)]
def yh (a:Bool):= dG 36 [(2,Uk a)]
def Fz (p:List D4):= dG 36 [(0,x0 99 (K4) p)]
def nL (a:St):Option U:=hl vk F vl [.r,.l,.r,.b,.i] f178 J n a
def ot:=p9 vk F vl [.r,.l,.r,.b] f178 b3 1
def B5 (p:List D4)(i:Int):nL F J (n+1) (ka p i)=br (decide (i<(p.length:Int))) (ck (b5 i (p.length:Int)) ((me F0 (bd p i K4.aI)).bind fun a=>br (!a.1) (J .ret (yh false)) (br (decide (i>0)) (ck (b5 (ak (i-1)) (p.length:Int)) (ck (b5 i (p.length:Int)) ((nK F0 (bd p (ak (i-1)) K4.aI) (bd p i K4.aI)).bind fun b=>br (!b.1) (J .ret (yh false)) (nL F J n (ka p (ak (i+1))))))) (nL F J n (ka p (ak (i+1))))))) (J (.exit 0) (Fz p)):=by kernel_rfl
def R1 (a:Bool):ot F .ret (yh a)=some (a,()):=by kernel_rfl
def P3 (p:List D4):ot F (.exit 0) (Fz p)=some (decide ((p.length:Int)<=12),()):=by kernel_rfl
def wz (p:D5):=cE vk F vl f178 rk b3 1 (p,())
def Xp (p:D5):wz F p=nL F (ot F) F.n (ka p 0):=by kernel_rfl
def yi:Any:=.one ⟨rk,b3,1,fun x=>wz F0 x.1⟩
def JU:bw 178 yi:=aM vk ⟨mf,Fy,trivial⟩ func178 vl (by kernel_rfl)
def M4:=[(101,bS),(113,rH),(117,bA),(118,dq),(119,bK)]
def gD (c:D1)(p:D9):=cE M4 F ad f254 TG b3 1 (c,p,())
def Xq (c:D1)(p:D9):gD F c p=(c0 F0 c).bind fun a=>br (!a.1) (some (false,())) ((bn F0 p.1 1 60).bind fun b=>br (!b.1) (some (false,())) ((ug F0 c.1 p.2.2).bind fun d=>br (!d.1) (some (false,())) (br ((p.2.2.length:Int)==0) (some (false,())) (br (p.2.1.toList==ah.toList) (some (true,())) ((dz F0 p.2.1).bind fun e=>br e.1 ((bY F0 p.2.1).bind fun f=>some (f.1==p.1,())) (some (false,()))))))):=by kernel_rfl
def kb:Any:=.one ⟨TG,b3,1,fun x=>gD F0 x.1 x.2.1⟩
def rJ:bw 254 kb:=aM M4 ⟨cG,EW,bX,eD,cg,trivial⟩ func254 ad (by kernel_rfl)
abbrev M5:List (Ty×Bool):=[(K9,true),(K9,true)]
def lH (a b:D9):=cE aN F ad f255 M5 b3 1 (a,b,())
def P4 (a b:D9):lH F a b=br (decide (a.1<b.1)) (some (true,())) (br (a.1==b.1) (some (Op.bytesLess a.2.1.toList b.2.1.toList,())) (some (false,()))):=by kernel_rfl
def pr:Any:=.one ⟨M5,b3,1,fun x=>lH F0 x.1 x.2.1⟩
def Dq:bw 255 pr:=aM aN trivial func255 ad (by kernel_rfl)
end
end Go.Am.Tryz
