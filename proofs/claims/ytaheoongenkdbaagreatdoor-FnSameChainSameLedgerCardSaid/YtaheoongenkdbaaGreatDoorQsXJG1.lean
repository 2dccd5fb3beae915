/- No condition. -/
import Derived.Test.YtaheoongenkdbaaGreatDoorProg
import Derived.Test.YtaheoongenkdbaaGreatDoorQsXJS1
set_option linter.all false
set_option maxRecDepth 100000
namespace Go.Am.Tryz
open Go.Am Go.Proofs Go.Proofs.Tryz
abbrev K1:Ty:=.pair (.int .i64) (.int .i64)
abbrev D1:=Int×Int
abbrev K2:Ty:=.pair (.sl 5 (.int .u8)) (K1)
abbrev D2:=List Int×D1
abbrev K3:Ty:=.pair (.int .i64) (K1)
abbrev D3:=Int×D1
abbrev K4:Ty:=.pair (.int .i64) (K3)
abbrev D4:=Int×D3
abbrev K5:Ty:=.sl 63 (K4)
abbrev D5:=List D4
abbrev K6:Ty:=.pair (.int .i64) (K5)
abbrev D6:=Int×D5
abbrev K7:Ty:=.sl 128 (K6)
abbrev K8:Ty:=.pair (.str) (.sl 3 (.int .i64))
abbrev D8:=ByteArray×List Int
abbrev K9:Ty:=.pair (.int .i64) (K8)
abbrev D9:=Int×D8
abbrev K10:Ty:=.pair (K9) (.str)
abbrev D10:=D9×ByteArray
abbrev K11:Ty:=.pair (.int .i64) (K10)
abbrev D11:=Int×D10
abbrev K12:Ty:=.pair (.int .i64) (K11)
abbrev SC:=Int×D11
abbrev K13:Ty:=.sl 61 (K9)
abbrev D13:=List D9
abbrev K14:Ty:=.pair (.sl 5 (.int .u8)) (.int .i64)
abbrev D14:=List Int×Int
abbrev K15:Ty:=.pair (.str) (K9)
abbrev D15:=ByteArray×D9
abbrev K16:Ty:=.pair (.int .i64) (K4)
abbrev D16:=Int×D4
abbrev K17:Ty:=.pair (K9) (K16)
abbrev D17:=D9×D16
abbrev K18:Ty:=.pair (K9) (K17)
abbrev D18:=D9×D17
abbrev K19:Ty:=.pair (K15) (K18)
abbrev D19:=D15×D18
abbrev K20:Ty:=.pair (.int .i64) (K19)
abbrev D20:=Int×D19
abbrev K21:Ty:=.pair (.int .i64) (K20)
abbrev MO:=Int×D20
abbrev nV:Ty:=.pair (.int .i64) (K21)
abbrev iO:=Int×MO
abbrev K23:Ty:=.sl 119 (nV)
abbrev D23:=List iO
abbrev K24:Ty:=.pair (K14) (K23)
abbrev D24:=D14×D23
abbrev K25:Ty:=.pair (K13) (K24)
abbrev D25:=D13×D24
abbrev K26:Ty:=.pair (K5) (K25)
abbrev D26:=D5×D25
abbrev K27:Ty:=.pair (K12) (K26)
abbrev D27:=SC×D26
abbrev K28:Ty:=.pair (.int .i64) (K27)
abbrev D28:=Int×D27
abbrev K29:Ty:=.pair (.int .i64) (K28)
abbrev D29:=Int×D28
abbrev bD:Ty:=.pair (.int .i64) (K29)
abbrev a6:=Int×D29
abbrev K31:Ty:=.pair (.int .i64) (.bool)
abbrev D31:=Int×Bool
abbrev K32:Ty:=.pair (.sl 5 (.int .u8)) (K31)
abbrev D32:=List Int×D31
abbrev K33:Ty:=.sl 50 (bD)
abbrev D33:=List a6
abbrev eH:Ty:=.pair (.int .i64) (.sl 5 (.int .u8))
abbrev bZ:=Int×List Int
abbrev K35:Ty:=.sl 102 (eH)
abbrev D35:=List bZ
abbrev K36:Ty:=.pair (.str) (.int .i64)
abbrev D36:=ByteArray×Int
abbrev c8:Ty:=.pair (.int .i64) (K36)
abbrev bT:=Int×D36
abbrev K38:Ty:=.sl 95 (c8)
abbrev D38:=List bT
abbrev K39:Ty:=.pair (K35) (K38)
abbrev D39:=D35×D38
abbrev K40:Ty:=.pair (K33) (K39)
abbrev D40:=D33×D39
abbrev K41:Ty:=.pair (.sl 3 (.int .i64)) (K40)
abbrev D41:=List Int×D40
abbrev gp:Ty:=.pair (K1) (K41)
abbrev nx:=D1×D41
abbrev K43:Ty:=.pair (.sl 3 (.int .i64)) (.sl 3 (.int .i64))
abbrev D43:=List Int×List Int
abbrev K44:Ty:=.pair (.int .i64) (nV)
abbrev D44:=Int×iO
abbrev K45:Ty:=.pair (.int .i64) (K44)
abbrev D45:=Int×D44
abbrev K46:Ty:=.sl 67 (K45)
abbrev D46:=List D45
def ab:Nat->Option Hint:=look []
def aB:List (Nat×Any):=[]
noncomputable section
variable {U:Type} (C:List (Nat×Any)) (F:nT) (H:Nat->Option Hint)
abbrev aX (f:Nat)(c:Any):Prop:=rO Tryz.prog TB f c
def bh (b:Func)(a c:List (Ty×Bool))(m:Nat)(x:Args a):=aEb Tryz.prog (look C) F H b a c m x
def Dp (c:Func)(a:List (Ty×Bool))(i:Nat)(d:PM)(e b:List (Ty×Bool))(m:Nat)(x:Args a):=axU Tryz.prog (look C) F H c a i d e b m x
def fp (p:List At)(a:Func)(J:Ex->St->Option U)(n:Nat)(b:St):Option U:=lp Tryz.prog (look C) F H (sub p (iu a)) J n b
def gU (p:List At)(a:Func)(b:List (Ty×Bool))(m:Nat):=adj Tryz.prog (look C) F H p (iu a) (fin Tryz.prog a b m)
def atV (p:List At)(a:Func)(c:PM)(d b:List (Ty×Bool))(m:Nat):=adj Tryz.prog (look C) F H p (iu a) (aE8 Tryz.prog a c d b m)
def di (n:Nat)(t:List (Nat×AV))(b:List (Nat×List AC))(l:List (Nat×Option fa)):St:={nt:=n,tm:=t,bx:=b,bl:=l}
def b2 (n:Nat)(t:List (Nat×AV)):St:={nt:=n,tm:=t,bx:=[],bl:=[]}
def bp (t:Int):AV:=.v (.c (.int .i64 t))
def an (t:Int):AC:=.int .i64 t
def b0 (d:Nat):Nat×AV:=(d,.v (.c (.ptr d 0)))
abbrev aj:ByteArray:=ByteArray.mk #[]
def ax (i:Nat)(e:TypeId)(t:Ty)(x:List t.D):Nat×Option fa:=(i,some ⟨e,t,x,true,true⟩)
def Pw (b:Bool):AV:=.v (.c (.bool b))
def W8 (b:ByteArray):AV:=.v (.c (.str b))
def hM (e:Nat)(t:Ty)(x:List t.D):AV:=.v (.c (.ro false e t x))
def aw {f : FuncId} {a : Func} (l : List (Nat × Any)) (e : wb Tryz.prog TB l) (h : Tryz.prog.funcs[f]? = some a) (H : Nat → Option Hint) {b d : List (Ty × Bool)} {m : Nat} {g : Args b → Option (Args d)} (c : (a.name == "runtime.NumGoroutine" || a.body.isNone, fun x => bh l F0 H a b d m x) = (false, g)) : aX f (.one ⟨b, d, m, g⟩) :=
 ok1 e h (afA.1 (Prod.mk.inj c).1).1 (afA.1 (Prod.mk.inj c).1).2 H (Prod.mk.inj c).2
def awv {f : FuncId} {a : Func} (l : List (Nat × Any)) (h : wb Tryz.prog TB l) (j : Tryz.prog.funcs[f]? = some a) (H : Nat → Option Hint) {b d : List (Ty × Bool)} {i m : Nat} {e : PM} {g : Args b → Option (Args d × Args [])} (c : (a.name == "runtime.NumGoroutine" || a.body.isNone, fun x => Dp l F0 H a b i e d [] m x) = (false, g)) : aX f (.two ⟨b, i, e, d, m, [], g⟩) :=
 ok2 h j (afA.1 (Prod.mk.inj c).1).1 (afA.1 (Prod.mk.inj c).1).2 H (Prod.mk.inj c).2
def Tq {f : FuncId} {c : Func} (l : List (Nat × Any)) (h : wb Tryz.prog TB l) (j : Tryz.prog.funcs[f]? = some c) (H : Nat → Option Hint) {a d : List (Ty × Bool)} {i m : Nat} {e : PM} {p : Ty × Bool} {g : Args a → Option (Args d × Args [p])} (b : (l1 a i, c.name == "runtime.NumGoroutine" || c.body.isNone, fun x => Dp l F0 H c a i e d [p] m x) = (some p, false, g)) : aX f (.two ⟨a, i, e, d, m, [p], g⟩) :=
 ok3 h j (afA.1 (Prod.mk.inj (Prod.mk.inj b).2).1).1 (afA.1 (Prod.mk.inj (Prod.mk.inj b).2).1).2 H (Prod.mk.inj b).1 (Prod.mk.inj (Prod.mk.inj b).2).2
end
noncomputable section
variable {U:Type} (F:nT) (J:Ex->St->Option U) (n:Nat)
abbrev aS:List (Ty×Bool):=[(.bool,false)]
abbrev kH:List (Ty×Bool):=[(.sl 5 (.int .u8),false)]
def akk (a:List Int):=bh aB F ab f5 kH aS 1 (a,())
def atW (a:List Int):akk F a=some (decide ((a.length:Int)>1048576),()):=by kernel_rfl
def aaP:Any:=.one ⟨kH,aS,1,fun x=>akk F0 x.1⟩
def atX:aX 5 aaP:=aw aB trivial func5 ab (by kernel_rfl)
def Gb:Nat->Option Hint:=look [(3,{live:=[0,3,4],xl:=[0,3],rl:=[2]})]
def wg (a:List Int)(h i:Int)(p:List Int):St:={nt:=32,tm:=[(0,hM 5 (.int .u8) a),(3,bp h),(4,bp i)],bx:=[],bl:=[],sp:=hM 5 (.int .u8) p}
def Ev (a:List Int)(h:Int)(p:List Int):St:={nt:=32,tm:=[(0,hM 5 (.int .u8) a),(3,bp h)],bx:=[],bl:=[],sp:=hM 5 (.int .u8) p}
def Gc (a:St):Option U:=fp aB F Gb [.r,.r,.l,.r,.b,.i] f18 J n a
abbrev iv:List (Ty×Bool):=[(K2,true)]
def Ig:=atV aB F Gb [.r,.r,.l,.r,.b] f18 .rd iv [] 5
def Kf (a:List Int)(h i:Int)(p:List Int):Gc F J (n+1) (wg a h i p)=br (decide (i<(a.length:Int))) (br (decide (i<4000)) (ck (bN i (a.length:Int)) (Gc F J n (wg a (ai (((BitVec.ofInt 64 (ai ((ai ((ai (h*131))+(ai (ay a i 0))))+7)) &&& BitVec.ofInt 64 1073741823).toNat:Int))) (ai (i+1)) p))) (J (.exit 0) (Ev a h p))) (J (.exit 0) (Ev a h p)):=by kernel_rfl
def Nw (a:List Int)(h:Int)(p:List Int):Ig F (.exit 0) (Ev a h p)=some (((a,0,h),()),()):=by kernel_rfl
def Ih (a:List Int):=Dp aB F Gb f18 kH 0 .rd iv [] 5 (a,())
def an1 (a:List Int):Ih F a=Gc F (Ig F) F.n (wg a (ai (26583+(a.length:Int))) 0 a):=by kernel_rfl
def Tr:Any:=.two ⟨kH,0,.rd,iv,5,[],fun x=>Ih F0 x.1⟩
def an2:aX 18 Tr:=awv aB trivial func18 Gb (by kernel_rfl)
abbrev cX:List (Ty×Bool):=[(.int .i64,false)]
def jA (c:D2):=Dp aB F ab f52 iv 0 .cur cX iv 1 (c,())
def akl (c:D2):jA F c=br (decide (c.2.1<(c.1.length:Int))) (ck (bN c.2.1 (c.1.length:Int)) (some ((ai (((BitVec.ofInt 64 (ai ((ai (((BitVec.ofInt 64 (ai (((BitVec.ofInt 64 (Int.fdiv (ai ((ai (c.2.2*6364136223846793005))+1442695040888963407)) (2 ^ (min (33:Int).toNat 64))) ^^^ BitVec.ofInt 64 (Int.fdiv (ai ((ai (c.2.2*6364136223846793005))+1442695040888963407)) (2 ^ (min (45:Int).toNat 64)))).toNat:Int))) &&& BitVec.ofInt 64 255).toNat:Int)))+(ai (ay c.1 c.2.1 0)))) &&& BitVec.ofInt 64 255).toNat:Int)),()),(c.1,ai (c.2.1+1),ai ((ai (c.2.2*6364136223846793005))+1442695040888963407)),()))) (some ((ai (((BitVec.ofInt 64 (ai (((BitVec.ofInt 64 (Int.fdiv (ai ((ai (c.2.2*6364136223846793005))+1442695040888963407)) (2 ^ (min (33:Int).toNat 64))) ^^^ BitVec.ofInt 64 (Int.fdiv (ai ((ai (c.2.2*6364136223846793005))+1442695040888963407)) (2 ^ (min (45:Int).toNat 64)))).toNat:Int))) &&& BitVec.ofInt 64 255).toNat:Int)),()),(c.1,c.2.1,ai ((ai (c.2.2*6364136223846793005))+1442695040888963407)),())):=by kernel_rfl
def QP:Any:=.two ⟨iv,0,.cur,cX,1,iv,fun x=>jA F0 x.1⟩
def akm:aX 52 QP:=Tq aB trivial func52 ab (by kernel_rfl)
def Ts:=[(52,QP)]
abbrev ayg:List (Ty×Bool):=[(K2,true),(.int .i64,false)]
def au (c:D2)(a:Int):=Dp Ts F ab f21 ayg 0 .cur cX iv 1 (c,a,())
def QQ (c:D2)(a:Int):au F c a=br (decide (a<=0)) (some ((0,()),c,())) (br (decide (a<=256)) ((jA F0 c).bind fun b=>ck (!(a==0)) (some ((Int.tmod b.1.1 a,()),b.2.1,()))) ((jA F0 c).bind fun d=>(jA F0 d.2.1).bind fun e=>(jA F0 e.2.1).bind fun f=>(jA F0 f.2.1).bind fun g=>ck (!(a==0)) (some ((Int.tmod (ai ((ai ((ai ((ai (d.1.1*16777216))+(ai (e.1.1*65536))))+(ai (f.1.1*256))))+g.1.1)) a,()),g.2.1,())))):=by kernel_rfl
def dQ:Any:=.two ⟨ayg,0,.cur,cX,1,iv,fun x=>au F0 x.1 x.2.1⟩
def ff:aX 21 dQ:=Tq Ts ⟨akm,trivial⟩ func21 ab (by kernel_rfl)
def Nx:=[(21,dQ)]
abbrev aBn:List (Ty×Bool):=[(K2,true),(.sl 3 (.int .i64),false)]
def iw (c:D2)(a:List Int):=Dp Nx F ab f49 aBn 0 .cur cX iv 1 (c,a,())
def aaQ (c:D2)(a:List Int):iw F c a=(au F0 c (a.length:Int)).bind fun b=>ck (bN b.1.1 (a.length:Int)) (some ((ay a b.1.1 0,()),b.2.1,())):=by kernel_rfl
def l4:Any:=.two ⟨aBn,0,.cur,cX,1,iv,fun x=>iw F0 x.1 x.2.1⟩
def wh:aX 49 l4:=Tq Nx ⟨ff,trivial⟩ func49 ab (by kernel_rfl)
def W9:=[(21,dQ)]
def lU (c:D2)(a:Int):=Dp W9 F ab f50 ayg 0 .cur aS iv 1 (c,a,())
def akn (c:D2)(a:Int):lU F c a=(au F0 c a).bind fun b=>some ((b.1.1==0,()),b.2.1,()):=by kernel_rfl
def mK:Any:=.two ⟨ayg,0,.cur,aS,1,iv,fun x=>lU F0 x.1 x.2.1⟩
def wi:aX 50 mK:=Tq W9 ⟨ff,trivial⟩ func50 ab (by kernel_rfl)
abbrev ayh:List (Ty×Bool):=[(.int .i64,false),(.int .i64,false),(.int .i64,false)]
def bI (x a b:Int):=bh aB F ab f63 ayh aS 1 (x,a,b,())
def arC (x a b:Int):bI F x a b=br (decide (x>=a)) (some (decide (x<=b),())) (some (false,())):=by kernel_rfl
def bY:Any:=.one ⟨ayh,aS,1,fun x=>bI F0 x.1 x.2.1 x.2.2.1⟩
def cB:aX 63 bY:=aw aB trivial func63 ab (by kernel_rfl)
def Xa:=[(63,bY)]
abbrev QR:List (Ty×Bool):=[(K1,true)]
def dy (c:D1):=bh Xa F ab f29 QR aS 1 (c,())
def ako (c:D1):dy F c=(bI F0 c.1 4 7).bind fun a=>br a.1 ((bI F0 c.2 1 6).bind fun b=>some (b.1,())) (some (false,())):=by kernel_rfl
def cu:Any:=.one ⟨QR,aS,1,fun x=>dy F0 x.1⟩
def c9:aX 29 cu:=aw Xa ⟨cB,trivial⟩ func29 ab (by kernel_rfl)
def Ge:Nat->Option Hint:=look [(4,{live:=[0,1,5,6,7],xl:=[5],rl:=[4]})]
def kI (s:ByteArray)(a b i:Int)(c:List ByteArray):= di 36 [(0,W8 s),(1,.v (.c (.int .u8 a))),(5,.v (.c (.own 1000000 none))),(6,bp b),(7,bp i)] [] [ax 1000000 9 (.str) c]
def QS (a:List ByteArray):= di 36 [(5,.v (.c (.own 1000000 none)))] [] [ax 1000000 9 (.str) a]
def pH (a:St):Option U:=fp aB F Ge [.r,.r,.r,.l,.r,.b,.i] f200 J n a
abbrev atY:List (Ty×Bool):=[(.sl 9 (.str),false)]
def Ii:=gU aB F Ge [.r,.r,.r,.l,.r,.b] f200 atY 2
def Kg (s:ByteArray)(c a i:Int)(b:List ByteArray):pH F J (n+1) (kI s c a i b)=br (decide (i<=(s.size:Int))) (br (i==(s.size:Int)) (ck (QN a i (s.size:Int)) (ck (ee F b.length [s.extract a.toNat i.toNat].length 16) (pH F J n (kI s c (ai (i+1)) (ai (i+1)) (b++[s.extract a.toNat i.toNat]))))) (ck (bN i (s.size:Int)) (br ((iq s i)==c) (ck (QN a i (s.size:Int)) (ck (ee F b.length [s.extract a.toNat i.toNat].length 16) (pH F J n (kI s c (ai (i+1)) (ai (i+1)) (b++[s.extract a.toNat i.toNat]))))) (pH F J n (kI s c a (ai (i+1)) b))))) (J (.exit 0) (QS b)):=by kernel_rfl
def adx (a:List ByteArray):Ii F (.exit 0) (QS a)=some (a,()):=by kernel_rfl
abbrev Xb:List (Ty×Bool):=[(.str,false),(.int .u8,false)]
def uI (s:ByteArray)(a:Int):=bh aB F Ge f200 Xb atY 2 (s,a,())
def an3 (s:ByteArray)(a:Int):uI F s a=pH F (Ii F) F.n (kI s a 0 0 []):=by kernel_rfl
def Ij:Any:=.one ⟨Xb,atY,2,fun x=>uI F0 x.1 x.2.1⟩
def Xc:aX 200 Ij:=aw aB trivial func200 Ge (by kernel_rfl)
def Gf:Nat->Option Hint:=look [(2,{live:=[0,1,7],rl:=[4,5,6]})]
def wj (s:ByteArray)(a i:Int):= b2 26 [(0,W8 s),(1,.v (.c (.int .u8 a))),(7,bp i)]
def Tt (a b:ByteArray)(c:Bool):= b2 26 [(4,W8 a),(5,W8 b),(6,Pw c)]
def QT   := b2 26 []
def Gg (a:St):Option U:=fp aB F Gf [.r,.l,.r,.b,.i] f201 J n a
abbrev aBo:List (Ty×Bool):=[(.str,false),(.str,false),(.bool,false)]
def wm:=gU aB F Gf [.r,.l,.r,.b] f201 aBo 1
def Kh (s:ByteArray)(a i:Int):Gg F J (n+1) (wj s a i)=br (decide (i<(s.size:Int))) (ck (bN i (s.size:Int)) (br ((iq s i)==a) (ck (QN 0 i (s.size:Int)) (ck (QN (ai (i+1)) (s.size:Int) (s.size:Int)) (J .ret (Tt (s.extract (0:Int).toNat i.toNat) (s.extract (ai (i+1)).toNat (s.size:Int).toNat) true)))) (Gg F J n (wj s a (ai (i+1)))))) (J (.exit 0) (QT)):=by kernel_rfl
def ahg (a b:ByteArray)(c:Bool):wm F .ret (Tt a b c)=some (a,b,c,()):=by kernel_rfl
def ady: wm F (.exit 0) (QT)=some (aj,aj,false,()):=by kernel_rfl
def gA (s:ByteArray)(a:Int):=bh aB F Gf f201 Xb aBo 1 (s,a,())
def an4 (s:ByteArray)(a:Int):gA F s a=Gg F (wm F) F.n (wj s a 0):=by kernel_rfl
def Ik:Any:=.one ⟨Xb,aBo,1,fun x=>gA F0 x.1 x.2.1⟩
def Xd:aX 201 Ik:=aw aB trivial func201 Gf (by kernel_rfl)
def BS:Nat->Option Hint:=look [(5,{live:=[0,3,4],xl:=[3,4],rl:=[2]})]
def mL (a:Int)(b:Bool)(c:ByteArray):= b2 31 [(0,bp a),(3,Pw b),(4,W8 c)]
def Ny (a:Bool)(b:ByteArray):= b2 31 [(3,Pw a),(4,W8 b)]
def sd (a:St):Option U:=fp aB F BS [.r,.r,.r,.r,.l,.b,.i] f235 J n a
abbrev dt:List (Ty×Bool):=[(.str,false)]
def Ew:=gU aB F BS [.r,.r,.r,.r,.l,.b] f235 dt 1
def Il (a:Int)(c:Bool)(b:ByteArray):sd F J (n+1) (mL a c b)=br (a != 0) (br (decide ((Int.tmod a 10)<0)) (ck (okC F (strOf [IntKind.wrap .u8 (ai (48+(ai (0-(Int.tmod a 10)))))]).size b.size) (sd F J n (mL (ai (Int.tdiv a 10)) c ((strOf [IntKind.wrap .u8 (ai (48+(ai (0-(Int.tmod a 10)))))])++b)))) (ck (okC F (strOf [IntKind.wrap .u8 (ai (48+(Int.tmod a 10)))]).size b.size) (sd F J n (mL (ai (Int.tdiv a 10)) c ((strOf [IntKind.wrap .u8 (ai (48+(Int.tmod a 10)))])++b))))) (J (.exit 0) (Ny c b)):=by kernel_rfl
def aaR (b:Bool)(a:ByteArray):Ew F (.exit 0) (Ny b a)=br b (ck (okC F (ByteArray.mk #[45]).size a.size) (some ((ByteArray.mk #[45])++a,()))) (some (a,())):=by kernel_rfl
def jB (a:Int):=bh aB F BS f235 cX dt 1 (a,())
def akp (a:Int):jB F a=br (a==0) (some (ByteArray.mk #[48],())) (sd F (Ew F) F.n (mL a (decide (a<0)) aj)):=by kernel_rfl
def sN:Any:=.one ⟨cX,dt,1,fun x=>jB F0 x.1⟩
def Im:aX 235 sN:=aw aB trivial func235 BS (by kernel_rfl)
def BU:=[(235,sN)]
def BV:Nat->Option Hint:=look [(5,{live:=[0,4,5],xl:=[0,4],rl:=[2,3]})]
def sO (s:ByteArray)(a i:Int):= b2 43 [(0,W8 s),(4,bp a),(5,bp i)]
def Ey (a:Int)(b:Bool):= b2 43 [(2,bp a),(3,Pw b)]
def Nz (s:ByteArray)(a:Int):= b2 43 [(0,W8 s),(4,bp a)]
def BW (a:St):Option U:=fp BU F BV [.r,.r,.r,.l,.r,.b,.i] f202 J n a
abbrev apH:List (Ty×Bool):=[(.int .i64,false),(.bool,false)]
def sP:=gU BU F BV [.r,.r,.r,.l,.r,.b] f202 apH 1
def Io (s:ByteArray)(a i:Int):BW F J (n+1) (sO s a i)=br (decide (i<(s.size:Int))) (ck (bN i (s.size:Int)) (br (decide ((iq s i)<48)) (J .ret (Ey 0 false)) (ck (bN i (s.size:Int)) (br (decide ((iq s i)>57)) (J .ret (Ey 0 false)) (ck (bN i (s.size:Int)) (BW F J n (sO s (ai ((ai ((ai (10*a))+(ai (iq s i))))-48)) (ai (i+1))))))))) (J (.exit 0) (Nz s a)):=by kernel_rfl
def adz (a:Int)(b:Bool):sP F .ret (Ey a b)=some (a,b,()):=by kernel_rfl
def aaS (s:ByteArray)(a:Int):sP F (.exit 0) (Nz s a)=(jB F0 a).bind fun b=>br (!(b.1.toList==s.toList)) (some (0,false,())) (some (a,true,())):=by kernel_rfl
def lV (s:ByteArray):=bh BU F BV f202 dt apH 1 (s,())
def akq (s:ByteArray):lV F s=br (decide ((s.size:Int)<1)) (some (0,false,())) (br (decide ((s.size:Int)>6)) (some (0,false,())) (BW F (sP F) F.n (sO s 0 0))):=by kernel_rfl
def Ez:Any:=.one ⟨dt,apH,1,fun x=>lV F0 x.1⟩
def Tu:aX 202 Ez:=aw BU ⟨Im,trivial⟩ func202 BV (by kernel_rfl)
def af0:=[(63,bY)]
abbrev Xe:List (Ty×Bool):=[(K4,true)]
def pI (x:D4):=bh af0 F ab f193 Xe aS 1 (x,())
def arD (x:D4):pI F x=(bI F0 x.1 0 3).bind fun a=>br a.1 ((bI F0 x.2.1 0 3).bind fun b=>br b.1 ((bI F0 x.2.2.1 0 1000).bind fun c=>br c.1 ((bI F0 x.2.2.2 0 99).bind fun d=>some (d.1,())) (some (false,()))) (some (false,()))) (some (false,())):=by kernel_rfl
def j6:Any:=.one ⟨Xe,aS,1,fun x=>pI F0 x.1⟩
def pJ:aX 193 j6:=aw af0 ⟨cB,trivial⟩ func193 ab (by kernel_rfl)
def Xf:=[(193,j6),(235,sN)]
def vo (x:D4):=bh Xf F ab f276 Xe dt 1 (x,())
def akr (x:D4):vo F x=(pI F0 x).bind fun e=>br (!e.1) (some (aj,())) ((jB F0 x.1).bind fun a=>ck (okC F a.1.size (ByteArray.mk #[62]).size) ((jB F0 x.2.1).bind fun b=>ck (okC F (a.1++(ByteArray.mk #[62])).size b.1.size) (ck (okC F ((a.1++(ByteArray.mk #[62]))++b.1).size (ByteArray.mk #[58]).size) ((jB F0 x.2.2.1).bind fun c=>ck (okC F (((a.1++(ByteArray.mk #[62]))++b.1)++(ByteArray.mk #[58])).size c.1.size) (ck (okC F ((((a.1++(ByteArray.mk #[62]))++b.1)++(ByteArray.mk #[58]))++c.1).size (ByteArray.mk #[35]).size) ((jB F0 x.2.2.2).bind fun d=>ck (okC F (((((a.1++(ByteArray.mk #[62]))++b.1)++(ByteArray.mk #[58]))++c.1)++(ByteArray.mk #[35])).size d.1.size) (some ((((((a.1++(ByteArray.mk #[62]))++b.1)++(ByteArray.mk #[58]))++c.1)++(ByteArray.mk #[35]))++d.1,())))))))):=by kernel_rfl
def EA:Any:=.one ⟨Xe,dt,1,fun x=>vo F0 x.1⟩
def Tv:aX 276 EA:=aw Xf ⟨pJ,Im,trivial⟩ func276 ab (by kernel_rfl)
def af1:=[(201,Ik),(202,Ez),(276,EA)]
abbrev ayi:List (Ty×Bool):=[(K4,true),(.bool,false)]
def VL (s:ByteArray):=bh af1 F ab f252 dt ayi 1 (s,())
def arE (s:ByteArray):VL F s=(gA F0 s 62).bind fun a=>(gA F0 a.2.1 58).bind fun b=>(gA F0 b.2.1 35).bind fun c=>(lV F0 a.1).bind fun d=>(lV F0 b.1).bind fun e=>(lV F0 c.1).bind fun f=>(lV F0 c.2.1).bind fun g=>br (s.toList==aj.toList) (some ((0,0,0,0),false,())) ((vo F0 (d.1,e.1,f.1,g.1)).bind fun h=>br (!(h.1.toList==s.toList)) (some ((0,0,0,0),false,())) (some ((d.1,e.1,f.1,g.1),true,()))):=by kernel_rfl
def Xg:Any:=.one ⟨dt,ayi,1,fun x=>VL F0 x.1⟩
def arF:aX 252 Xg:=aw af1 ⟨Xd,Tu,Tv,trivial⟩ func252 ab (by kernel_rfl)
def Gi:=[(200,Ij),(252,Xg)]
def Gj:Nat->Option Hint:=look [(6,{live:=[4,5,6],xl:=[4],rl:=[2,3]})]
def wo (i:Int)(b:List D4)(a:List ByteArray):= di 37 [(4,.v (.c (.own 1000000 none))),(5,.v (.c (.own 1000001 none))),(6,bp i)] [] [ax 1000000 63 K4 b,ax 1000001 9 (.str) a]
def Tw (a:Bool)(b:List D4):= di 37 [(2,.v (.c (.own 1000000 none))),(3,Pw a)] [] [ax 1000000 63 K4 b]
def QU (a:List D4):= di 37 [(4,.v (.c (.own 1000000 none)))] [] [ax 1000000 63 K4 a]
def Gk (a:St):Option U:=fp Gi F Gj [.r,.r,.r,.r,.l,.r,.b,.i] f203 J n a
abbrev Tx:List (Ty×Bool):=[(K5,false),(.bool,false)]
def wq:=gU Gi F Gj [.r,.r,.r,.r,.l,.r,.b] f203 Tx 2
def Ki (i:Int)(b:List D4)(a:List ByteArray):Gk F J (n+1) (wo i b a)=br (decide (i<(a.length:Int))) (ck (bN i (a.length:Int)) ((VL F0 (ay a i ByteArray.empty)).bind fun c=>br (!c.2.1) (J .ret (Tw false [])) (ck (ee F b.length [c.1].length 32) (Gk F J n (wo (ai (i+1)) (b++[c.1]) a))))) (J (.exit 0) (QU b)):=by kernel_rfl
def ahh (a:Bool)(b:List D4):wq F .ret (Tw a b)=some (b,a,()):=by kernel_rfl
def adA (a:List D4):wq F (.exit 0) (QU a)=some (a,true,()):=by kernel_rfl
def AR (s:ByteArray):=bh Gi F Gj f203 dt Tx 2 (s,())
def an5 (s:ByteArray):AR F s=br (s.toList==aj.toList) (some ([],true,())) ((uI F0 s 44).bind fun a=>Gk F (wq F) F.n (wo 0 [] a.1)):=by kernel_rfl
def Tz:Any:=.one ⟨dt,Tx,2,fun x=>AR F0 x.1⟩
def an6:aX 203 Tz:=aw Gi ⟨Xc,arF,trivial⟩ func203 Gj (by kernel_rfl)
def Gl:=[(200,Ij),(201,Ik),(202,Ez),(203,Tz)]
def Gm:Nat->Option Hint:=look [(10,{live:=[4,5,6,7,8],xl:=[5],rl:=[2,3]})]
def wu (c i:Int)(d a:List D6)(b:List ByteArray):= di 91 [(4,.v (.c (.own 1000000 none))),(5,.v (.c (.own 1000001 none))),(6,.v (.c (.own 1000002 none))),(7,bp c),(8,bp i)] [] [ax 1000000 128 K6 d,ax 1000001 128 K6 a,ax 1000002 9 (.str) b]
def ix (a:Bool)(b:List D6):= di 91 [(2,.v (.c (.own 1000000 none))),(3,Pw a)] [] [ax 1000000 128 K6 b]
def QV (a:List D6):= di 91 [(5,.v (.c (.own 1000000 none)))] [] [ax 1000000 128 K6 a]
def Gn (a:St):Option U:=fp Gl F Gm [.r,.r,.r,.r,.r,.r,.r,.l,.r,.b,.i] f131 J n a
abbrev apI:List (Ty×Bool):=[(K7,false),(.bool,false)]
def wv:=gU Gl F Gm [.r,.r,.r,.r,.r,.r,.r,.l,.r,.b] f131 apI 2
def Kj (g i:Int)(a d:List D6)(c:List ByteArray):Gn F J (n+1) (wu g i a d c)=br (decide (i<(c.length:Int))) (ck (bN i (c.length:Int)) ((gA F0 (ay c i ByteArray.empty) 124).bind fun f=>(lV F0 f.1).bind fun b=>(AR F0 f.2.1).bind fun e=>br (!f.2.2.1) (J .ret (ix false a)) (br (!b.2.1) (J .ret (ix false a)) (br (!e.2.1) (J .ret (ix false a)) (br (decide (b.1<=g)) (J .ret (ix false a)) (br (decide (b.1>60)) (J .ret (ix false a)) (br (decide ((e.1.length:Int)>2)) (J .ret (ix false a)) (ck (ee F d.length [(b.1,e.1)].length 32) (Gn F J n (wu b.1 (ai (i+1)) a (d++[(b.1,e.1)]) c)))))))))) (J (.exit 0) (QV d)):=by kernel_rfl
def QW (a:Bool)(b:List D6):wv F .ret (ix a b)=some (b,a,()):=by kernel_rfl
def adB (a:List D6):wv F (.exit 0) (QV a)=some (a,true,()):=by kernel_rfl
def oO (s:ByteArray):=bh Gl F Gm f131 dt apI 2 (s,())
def an7 (s:ByteArray):oO F s=br (s.toList==aj.toList) (some ([],true,())) ((uI F0 s 47).bind fun a=>ck (bN 0 (a.1.length:Int)) (br (!((ay a.1 0 ByteArray.empty).toList==aj.toList)) (some ([],false,())) (br (decide ((a.1.length:Int)>31)) (some ([],false,())) (Gn F (wv F) F.n (wu 0 1 [] [] a.1))))):=by kernel_rfl
def oP:Any:=.one ⟨dt,apI,2,fun x=>oO F0 x.1⟩
def BX:aX 131 oP:=aw Gl ⟨Xc,Xd,Tu,an6,trivial⟩ func131 Gm (by kernel_rfl)
def Xh:=[(131,oP)]
def eB (s:ByteArray):=bh Xh F ab f68 dt aS 1 (s,())
def aks (s:ByteArray):eB F s=(oO F0 s).bind fun a=>some (a.2.1,()):=by kernel_rfl
def et:Any:=.one ⟨dt,aS,1,fun x=>eB F0 x.1⟩
def fX:aX 68 et:=aw Xh ⟨BX,trivial⟩ func68 ab (by kernel_rfl)
def Xi:=[(131,oP)]
def df (s:ByteArray):=bh Xi F ab f69 dt cX 1 (s,())
def akt (s:ByteArray):df F s=(oO F0 s).bind fun a=>br (!a.2.1) (some (0,())) (br ((a.1.length:Int)==0) (some (0,())) (ck (bN (ai ((a.1.length:Int)-1)) (a.1.length:Int)) (some ((ay a.1 (ai ((a.1.length:Int)-1)) (0,[])).1,())))):=by kernel_rfl
def da:Any:=.one ⟨dt,cX,1,fun x=>df F0 x.1⟩
def ej:aX 69 da:=aw Xi ⟨BX,trivial⟩ func69 ab (by kernel_rfl)
def Gp:Nat->Option Hint:=look [(2,{live:=[0,1,5],rl:=[4]})]
def oQ (a:Int)(s:List Int)(i:Int):= b2 41 [(0,bp a),(1,hM 3 (.int .i64) s),(5,bp i)]
def wx (a:Bool):= b2 41 [(4,Pw a)]
def QX   := b2 41 []
def wy (a:St):Option U:=fp aB F Gp [.r,.l,.r,.b,.i] f65 J n a
def wz:=gU aB F Gp [.r,.l,.r,.b] f65 aS 1
def Kk (a:Int)(s:List Int)(i:Int):wy F J (n+1) (oQ a s i)=br (decide (i<(s.length:Int))) (ck (bN i (s.length:Int)) (br (decide ((ay s i 0)<0)) (J .ret (wx false)) (ck (bN i (s.length:Int)) (br (decide ((ay s i 0)>=a)) (J .ret (wx false)) (br (decide (i>0)) (ck (bN (ai (i-1)) (s.length:Int)) (ck (bN i (s.length:Int)) (br (decide ((ay s (ai (i-1)) 0)>=(ay s i 0))) (J .ret (wx false)) (wy F J n (oQ a s (ai (i+1))))))) (wy F J n (oQ a s (ai (i+1))))))))) (J (.exit 0) (QX)):=by kernel_rfl
def ahi (a:Bool):wz F .ret (wx a)=some (a,()):=by kernel_rfl
def adC: wz F (.exit 0) (QX)=some (true,()):=by kernel_rfl
abbrev ayj:List (Ty×Bool):=[(.int .i64,false),(.sl 3 (.int .i64),false)]
def AS (a:Int)(s:List Int):=bh aB F Gp f65 ayj aS 1 (a,s,())
def an8 (a:Int)(s:List Int):AS F a s=wy F (wz F) F.n (oQ a s 0):=by kernel_rfl
def wA:Any:=.one ⟨ayj,aS,1,fun x=>AS F0 x.1 x.2.1⟩
def MP:aX 65 wA:=aw aB trivial func65 Gp (by kernel_rfl)
def Xj:=[(29,cu)]
def vp (c:D1):=bh Xj F ab f104 QR cX 1 (c,())
def aku (c:D1):vp F c=(dy F0 c).bind fun a=>br (!a.1) (some (0,())) (some (ai (c.1-(ai (Int.tdiv (ai (c.1-1)) 3))),())):=by kernel_rfl
def sQ:Any:=.one ⟨QR,cX,1,fun x=>vp F0 x.1⟩
def Ip:aX 104 sQ:=aw Xj ⟨c9,trivial⟩ func104 ab (by kernel_rfl)
def af2:=[(29,cu),(65,wA),(68,et),(69,da),(104,sQ)]
abbrev Ff:List (Ty×Bool):=[(K1,true),(K9,true)]
def iX (c:D1)(q:D9):=bh af2 F ab f111 Ff aS 1 (c,q,())
def arG (c:D1)(q:D9):iX F c q=(dy F0 c).bind fun a=>br (!a.1) (some (false,())) ((eB F0 q.2.1).bind fun b=>br (!b.1) (some (false,())) ((df F0 q.2.1).bind fun d=>br (d.1 != q.1) (some (false,())) (br (q.2.1.toList==aj.toList) (some ((q.2.2.length:Int)==0,())) ((AS F0 c.1 q.2.2).bind fun e=>br e.1 ((vp F0 c).bind fun f=>some (decide ((q.2.2.length:Int)>=f.1),())) (some (false,())))))):=by kernel_rfl
def fJ:Any:=.one ⟨Ff,aS,1,fun x=>iX F0 x.1 x.2.1⟩
def jC:aX 111 fJ:=aw af2 ⟨c9,MP,fX,ej,Ip,trivial⟩ func111 ab (by kernel_rfl)
def Xk:=[(63,bY),(68,et),(111,fJ)]
abbrev QY:List (Ty×Bool):=[(K1,true),(K12,true)]
def hO (c:D1)(s:SC):=bh Xk F ab f122 QY aS 1 (c,s,())
def akv (c:D1)(s:SC):hO F c s=(bI F0 s.1 0 60).bind fun a=>br a.1 ((bI F0 s.2.1 0 60).bind fun b=>br b.1 ((iX F0 c s.2.2.1).bind fun d=>br d.1 ((eB F0 s.2.2.2).bind fun e=>some (e.1,())) (some (false,()))) (some (false,()))) (some (false,())):=by kernel_rfl
def gB:Any:=.one ⟨QY,aS,1,fun x=>hO F0 x.1 x.2.1⟩
def kJ:aX 122 gB:=aw Xk ⟨cB,fX,jC,trivial⟩ func122 ab (by kernel_rfl)
abbrev ayk:List (Ty×Bool):=[(K4,true),(K4,true)]
def se (a b:D4):=bh aB F ab f194 ayk aS 1 (a,b,())
def adD (a b:D4):se F a b=br (decide (a.1<b.1)) (some (true,())) (br (a.1==b.1) (some (decide (a.2.2.2<b.2.2.2),())) (some (false,()))):=by kernel_rfl
def wB:Any:=.one ⟨ayk,aS,1,fun x=>se F0 x.1 x.2.1⟩
def NA:aX 194 wB:=aw aB trivial func194 ab (by kernel_rfl)
def BY:=[(193,j6),(194,wB)]
def BZ:Nat->Option Hint:=look [(2,{live:=[0,3],xl:=[0],rl:=[2]})]
def mM (p:List D4)(i:Int):= b2 36 [(0,hM 63 (K4) p),(3,bp i)]
def EB (a:Bool):= b2 36 [(2,Pw a)]
def NB (p:List D4):= b2 36 [(0,hM 63 (K4) p)]
def sf (a:St):Option U:=fp BY F BZ [.r,.l,.r,.b,.i] f123 J n a
def sR:=gU BY F BZ [.r,.l,.r,.b] f123 aS 1
def Iq (p:List D4)(i:Int):sf F J (n+1) (mM p i)=br (decide (i<(p.length:Int))) (ck (bN i (p.length:Int)) ((pI F0 (ay p i K4.aq)).bind fun a=>br (!a.1) (J .ret (EB false)) (br (decide (i>0)) (ck (bN (ai (i-1)) (p.length:Int)) (ck (bN i (p.length:Int)) ((se F0 (ay p (ai (i-1)) K4.aq) (ay p i K4.aq)).bind fun b=>br (!b.1) (J .ret (EB false)) (sf F J n (mM p (ai (i+1))))))) (sf F J n (mM p (ai (i+1))))))) (J (.exit 0) (NB p)):=by kernel_rfl
def adE (a:Bool):sR F .ret (EB a)=some (a,()):=by kernel_rfl
def aaT (p:List D4):sR F (.exit 0) (NB p)=some (decide ((p.length:Int)<=12),()):=by kernel_rfl
abbrev iP:List (Ty×Bool):=[(K5,false)]
def Dq (p:D5):=bh BY F BZ f123 iP aS 1 (p,())
def akw (p:D5):Dq F p=sf F (sR F) F.n (mM p 0):=by kernel_rfl
def EC:Any:=.one ⟨iP,aS,1,fun x=>Dq F0 x.1⟩
def TA:aX 123 EC:=aw BY ⟨pJ,NA,trivial⟩ func123 BZ (by kernel_rfl)
def Xl:=[(29,cu),(63,bY),(65,wA),(68,et),(69,da)]
def jD (c:D1)(p:D9):=bh Xl F ab f195 Ff aS 1 (c,p,())
def akx (c:D1)(p:D9):jD F c p=(dy F0 c).bind fun a=>br (!a.1) (some (false,())) ((bI F0 p.1 1 60).bind fun b=>br (!b.1) (some (false,())) ((AS F0 c.1 p.2.2).bind fun d=>br (!d.1) (some (false,())) (br ((p.2.2.length:Int)==0) (some (false,())) (br (p.2.1.toList==aj.toList) (some (true,())) ((eB F0 p.2.1).bind fun e=>br e.1 ((df F0 p.2.1).bind fun f=>some (f.1==p.1,())) (some (false,()))))))):=by kernel_rfl
def mN:Any:=.one ⟨Ff,aS,1,fun x=>jD F0 x.1 x.2.1⟩
def wC:aX 195 mN:=aw Xl ⟨c9,cB,MP,fX,ej,trivial⟩ func195 ab (by kernel_rfl)
abbrev vq:List (Ty×Bool):=[(K9,true),(K9,true)]
def oR (a b:D9):=bh aB F ab f196 vq aS 1 (a,b,())
def aaU (a b:D9):oR F a b=br (decide (a.1<b.1)) (some (true,())) (br (a.1==b.1) (some (Op.bytesLess a.2.1.toList b.2.1.toList,())) (some (false,()))):=by kernel_rfl
def uJ:Any:=.one ⟨vq,aS,1,fun x=>oR F0 x.1 x.2.1⟩
def Kl:aX 196 uJ:=aw aB trivial func196 ab (by kernel_rfl)
def wD:=[(195,mN),(196,uJ)]
def wE:Nat->Option Hint:=look [(2,{live:=[1,2,5],xl:=[1],rl:=[4]})]
def kK (b:List D9)(i c a:Int):= di 39 [(1,hM 61 (K9) b),b0 2,(5,bp i)] [(2,[an c,an a])] []
def AT (a:Bool):= b2 39 [(4,Pw a)]
def Km (a:List D9):= b2 39 [(1,hM 61 (K9) a)]
def oS (a:St):Option U:=fp wD F wE [.r,.l,.r,.b,.i] f124 J n a
def pK:=gU wD F wE [.r,.l,.r,.b] f124 aS 1
def Fg (a:List D9)(i c b:Int):oS F J (n+1) (kK a i c b)=br (decide (i<(a.length:Int))) (ck (bN i (a.length:Int)) ((jD F0 (c,b) (ay a i K9.aq)).bind fun d=>br (!d.1) (J .ret (AT false)) (br (decide (i>0)) (ck (bN (ai (i-1)) (a.length:Int)) (ck (bN i (a.length:Int)) ((oR F0 (ay a (ai (i-1)) K9.aq) (ay a i K9.aq)).bind fun e=>br (!e.1) (J .ret (AT false)) (oS F J n (kK a (ai (i+1)) c b))))) (oS F J n (kK a (ai (i+1)) c b))))) (J (.exit 0) (Km a)):=by kernel_rfl
def aaV (a:Bool):pK F .ret (AT a)=some (a,()):=by kernel_rfl
def Y7 (a:List D9):pK F (.exit 0) (Km a)=some (decide ((a.length:Int)<=20),()):=by kernel_rfl
abbrev ayl:List (Ty×Bool):=[(K1,true),(K13,false)]
def l5 (c:D1)(a:D13):=bh wD F wE f124 ayl aS 1 (c,a,())
def ahj (c:D1)(a:D13):l5 F c a=oS F (pK F) F.n (kK a 0 c.1 c.2):=by kernel_rfl
def AU:Any:=.one ⟨ayl,aS,1,fun x=>l5 F0 x.1 x.2.1⟩
def QZ:aX 124 AU:=aw wD ⟨wC,Kl,trivial⟩ func124 wE (by kernel_rfl)
def Xm:=[(63,bY)]
abbrev nW:List (Ty×Bool):=[(K14,true)]
def lW (d:D14):=bh Xm F ab f125 nW aS 1 (d,())
def aky (d:D14):lW F d=br (decide ((d.1.length:Int)<=100000)) ((bI F0 d.2 0 (d.1.length:Int)).bind fun a=>some (a.1,())) (some (false,())):=by kernel_rfl
def mO:Any:=.one ⟨nW,aS,1,fun x=>lW F0 x.1⟩
def wF:aX 125 mO:=aw Xm ⟨cB,trivial⟩ func125 ab (by kernel_rfl)
def B0:Nat->Option Hint:=look [(2,{live:=[0,1,5],xl:=[0,1],rl:=[4]})]
def sS (a b:List Int)(i:Int):= b2 32 [(0,hM 3 (.int .i64) a),(1,hM 3 (.int .i64) b),(5,bp i)]
def Q0 (a:Bool):= b2 32 [(4,Pw a)]
def AW (a b:List Int):= b2 32 [(0,hM 3 (.int .i64) a),(1,hM 3 (.int .i64) b)]
def B2 (a:St):Option U:=fp aB F B0 [.r,.l,.r,.b,.i] f326 J n a
def sT:=gU aB F B0 [.r,.l,.r,.b] f326 aS 1
def Ir (a b:List Int)(i:Int):B2 F J (n+1) (sS a b i)=br (decide (i<(a.length:Int))) (br (decide (i<(b.length:Int))) (ck (bN i (a.length:Int)) (ck (bN i (b.length:Int)) (br ((ay a i 0) != (ay b i 0)) (J .ret (Q0 false)) (B2 F J n (sS a b (ai (i+1))))))) (J (.exit 0) (AW a b))) (J (.exit 0) (AW a b)):=by kernel_rfl
def adF (a:Bool):sT F .ret (Q0 a)=some (a,()):=by kernel_rfl
def aaW (a b:List Int):sT F (.exit 0) (AW a b)=some ((a.length:Int)==(b.length:Int),()):=by kernel_rfl
abbrev aaX:List (Ty×Bool):=[(.sl 3 (.int .i64),false),(.sl 3 (.int .i64),false)]
def Ds (a b:List Int):=bh aB F B0 f326 aaX aS 1 (a,b,())
def akz (a b:List Int):Ds F a b=B2 F (sT F) F.n (sS a b 0):=by kernel_rfl
def ED:Any:=.one ⟨aaX,aS,1,fun x=>Ds F0 x.1 x.2.1⟩
def TC:aX 326 ED:=aw aB trivial func326 B0 (by kernel_rfl)
def Xn:=[(326,ED)]
def vr (a b:D9):=bh Xn F ab f298 vq aS 1 (a,b,())
def akA (a b:D9):vr F a b=br (a.1==b.1) (br (a.2.1.toList==b.2.1.toList) ((Ds F0 a.2.2 b.2.2).bind fun c=>some (c.1,())) (some (false,()))) (some (false,())):=by kernel_rfl
def sU:Any:=.one ⟨vq,aS,1,fun x=>vr F0 x.1 x.2.1⟩
def Is:aX 298 sU:=aw Xn ⟨TC,trivial⟩ func298 ab (by kernel_rfl)
def NC:=[(298,sU)]
abbrev aym:List (Ty×Bool):=[(K15,true),(K15,true)]
def wG (a b:D15):=bh NC F ab f296 aym aS 1 (a,b,())
def aaY (a b:D15):wG F a b=br (a.1.toList==b.1.toList) ((vr F0 a.2 b.2).bind fun c=>some (c.1,())) (some (false,())):=by kernel_rfl
def It:Any:=.one ⟨aym,aS,1,fun x=>wG F0 x.1 x.2.1⟩
def aaZ:aX 296 It:=aw NC ⟨Is,trivial⟩ func296 ab (by kernel_rfl)
def TD:=[(326,ED)]
def Gq (a b:D9):=bh TD F ab f297 vq aS 1 (a,b,())
def ahk (a b:D9):Gq F a b=br (a.1==b.1) (br (a.2.1.toList==b.2.1.toList) ((Ds F0 a.2.2 b.2.2).bind fun c=>some (c.1,())) (some (false,()))) (some (false,())):=by kernel_rfl
def ND:Any:=.one ⟨vq,aS,1,fun x=>Gq F0 x.1 x.2.1⟩
def ahl:aX 297 ND:=aw TD ⟨TC,trivial⟩ func297 ab (by kernel_rfl)
end
end Go.Am.Tryz
namespace Go.Am.Tryz
open Go.Am Go.Proofs Go.Proofs.Tryz
noncomputable section
variable {U:Type} (F:nT) (J:Ex->St->Option U) (n:Nat)
def TE:=[(296,It),(297,ND),(298,sU)]
abbrev ayn:List (Ty×Bool):=[(K21,true),(K21,true)]
def jE (a b:MO):=bh TE F ab f251 ayn aS 1 (a,b,())
def ahm (a b:MO):jE F a b=br (a.1==b.1) (br (a.2.1==b.2.1) ((wG F0 a.2.2.1 b.2.2.1).bind fun c=>br c.1 ((Gq F0 a.2.2.2.1 b.2.2.2.1).bind fun d=>br d.1 ((vr F0 a.2.2.2.2.1 b.2.2.2.2.1).bind fun e=>br e.1 (br (a.2.2.2.2.2.1==b.2.2.2.2.2.1) (some ((a.2.2.2.2.2.2.1==b.2.2.2.2.2.2.1)&&((a.2.2.2.2.2.2.2.1==b.2.2.2.2.2.2.2.1)&&((a.2.2.2.2.2.2.2.2.1==b.2.2.2.2.2.2.2.2.1)&&((a.2.2.2.2.2.2.2.2.2==b.2.2.2.2.2.2.2.2.2)&&true))),())) (some (false,()))) (some (false,()))) (some (false,()))) (some (false,()))) (some (false,()))) (some (false,())):=by kernel_rfl
def NF:Any:=.one ⟨ayn,aS,1,fun x=>jE F0 x.1 x.2.1⟩
def ahn:aX 251 NF:=aw TE ⟨aaZ,ahl,Is,trivial⟩ func251 ab (by kernel_rfl)
def TF:=[(251,NF)]
abbrev vt:List (Ty×Bool):=[(K21,true)]
def Gr (m:MO):=bh TF F ab f197 vt aS 1 (m,())
def aho (m:MO):Gr F m=br (m.1==1) ((jE F0 (m.1,0,m.2.2.1,(0,aj,[]),(0,aj,[]),0,0,0,0,0) m).bind fun a=>some (a.1,())) (br (m.1==2) ((jE F0 (m.1,0,(aj,0,aj,[]),m.2.2.2.1,(0,aj,[]),0,0,0,0,0) m).bind fun a=>some (a.1,())) (br (m.1==3) ((jE F0 (m.1,m.2.1,(aj,0,aj,[]),(0,aj,[]),m.2.2.2.2.1,m.2.2.2.2.2.1,0,0,0,0) m).bind fun a=>some (a.1,())) (br (m.1==4) ((jE F0 (m.1,0,(aj,0,aj,[]),(0,aj,[]),(0,aj,[]),0,m.2.2.2.2.2.2) m).bind fun a=>some (a.1,())) ((jE F0 (m.1,0,(aj,0,aj,[]),(0,aj,[]),(0,aj,[]),0,0,0,0,0) m).bind fun a=>some (a.1,()))))):=by kernel_rfl
def NG:Any:=.one ⟨vt,aS,1,fun x=>Gr F0 x.1⟩
def ahp:aX 197 NG:=aw TF ⟨ahn,trivial⟩ func197 ab (by kernel_rfl)
abbrev apJ:List (Ty×Bool):=[(.int .i64,false),(.int .i64,false)]
def dz (a b:Int):=bh aB F ab f53 apJ cX 1 (a,b,())
def Xo (a b:Int):dz F a b=br (decide (a>b)) (some (a,())) (some (b,())):=by kernel_rfl
def fY:Any:=.one ⟨apJ,cX,1,fun x=>dz F0 x.1 x.2.1⟩
def j7:aX 53 fY:=aw aB trivial func53 ab (by kernel_rfl)
def Kn:=[(53,fY),(68,et)]
def Ko:Nat->Option Hint:=look [(4,{live:=[0,3],xl:=[0,3],rl:=[2]})]
def B3 (s:ByteArray)(k:Int):= b2 25 [(0,W8 s),(3,bp k)]
def wH (s:ByteArray)(k:Int):= b2 25 [(0,W8 s),(3,bp k)]
def Kp (a:St):Option U:=fp Kn F Ko [.r,.r,.r,.l,.b,.i] f181 J n a
def Xp:=gU Kn F Ko [.r,.r,.r,.l,.b] f181 dt 1
def NH (s:ByteArray)(k:Int):Kp F J (n+1) (B3 s k)=br (decide (k>0)) (ck (bN (ai (k-1)) (s.size:Int)) (br ((iq s (ai (k-1))) != 47) (Kp F J n (B3 s (ai (k-1)))) (J (.exit 0) (wH s k)))) (J (.exit 0) (wH s k)):=by kernel_rfl
def ahq (s:ByteArray)(k:Int):Xp F (.exit 0) (wH s k)=(dz F0 (ai (k-1)) 0).bind fun a=>ck (QN 0 a.1 (s.size:Int)) (some (s.extract (0:Int).toNat a.1.toNat,())):=by kernel_rfl
def af3 (s:ByteArray):=bh Kn F Ko f181 dt dt 1 (s,())
def aa0:∃f,f= @af3:=⟨_,rfl⟩
def kL:=Classical.choose aa0
def Xq: @kL= @af3:=Classical.choose_spec aa0
def arH (s:ByteArray):kL F s=(eB F0 s).bind fun a=>br (!a.1) (some (aj,())) (Kp F (Xp F) F.n (B3 s (s.size:Int))):=by rw[Xq];kernel_rfl
def sg:Any:=.one ⟨dt,dt,1,fun x=>kL F0 x.1⟩
def Gs:aX 181 sg:=ok1 (show wb Tryz.prog TB Kn from⟨j7,fX,trivial⟩) func181 (by kernel_rfl) (by kernel_rfl) Ko (by rw[Xq];kernel_rfl)
def TG:=[(68,et),(111,fJ),(181,sg)]
abbrev ayo:List (Ty×Bool):=[(K1,true),(K15,true)]
def l6 (c:D1)(b:D15):=bh TG F ab f180 ayo aS 1 (c,b,())
def ahr (c:D1)(b:D15):l6 F c b=(iX F0 c b.2).bind fun a=>br a.1 ((eB F0 b.1).bind fun d=>br d.1 (br (!(b.1.toList==aj.toList)) ((kL F0 b.1).bind fun e=>some (e.1.toList==b.2.2.1.toList,())) (some (false,()))) (some (false,()))) (some (false,())):=by kernel_rfl
def kM:Any:=.one ⟨ayo,aS,1,fun x=>l6 F0 x.1 x.2.1⟩
def sV:aX 180 kM:=aw TG ⟨fX,jC,Gs,trivial⟩ func180 ab (by kernel_rfl)
def aa1:=[(29,cu),(63,bY),(111,fJ),(180,kM),(193,j6),(195,mN),(197,NG)]
abbrev af4:List (Ty×Bool):=[(K1,true),(K21,true)]
def eR (c:D1)(m:MO):=bh aa1 F ab f126 af4 aS 1 (c,m,())
def an9 (c:D1)(m:MO):eR F c m=(dy F0 c).bind fun a=>br (!a.1) (some (false,())) ((Gr F0 m).bind fun b=>br (!b.1) (some (false,())) (br (m.1==1) ((l6 F0 c m.2.2.1).bind fun d=>some (d.1,())) (br (m.1==2) ((jD F0 c m.2.2.2.1).bind fun e=>br e.1 (some (!(m.2.2.2.1.2.1.toList==aj.toList),())) (some (false,()))) (br (m.1==3) ((bI F0 m.2.1 1 60).bind fun f=>br f.1 ((iX F0 c m.2.2.2.2.1).bind fun g=>br g.1 ((bI F0 m.2.2.2.2.2.1 0 (ai (c.1-1))).bind fun h=>some (h.1,())) (some (false,()))) (some (false,()))) (br (m.1==4) ((pI F0 m.2.2.2.2.2.2).bind fun i=>some (i.1,())) (some (false,()))))))):=by kernel_rfl
def iy:Any:=.one ⟨af4,aS,1,fun x=>eR F0 x.1 x.2.1⟩
def ny:aX 126 iy:=aw aa1 ⟨c9,cB,jC,sV,pJ,wC,ahp,trivial⟩ func126 ab (by kernel_rfl)
def Gt:=[(29,cu),(63,bY),(122,gB),(123,EC),(124,AU),(125,mO),(126,iy)]
def Gu:Nat->Option Hint:=look [(4,{live:=[2,3,5],rl:=[4]})]
def wI (i c a r b d e f g:Int)(h:ByteArray)(j:List Int)(k:ByteArray)(l:List D4)(m:List D9)(o:List Int)(p:Int)(q:List iO):= di 102 [b0 2,b0 3,(5,bp i)] [(2,[an c,an a]),(3,[an r,an b,an d,an e,an f,an g,.str h,.ro false 3 (.int .i64) j,.str k,.ro false 63 (K4) l,.ro false 61 (K9) m,.ro false 5 (.int .u8) o,an p,.ro false 119 (nV) q])] []
def wJ (a:Bool):= b2 102 [(4,Pw a)]
def Q1   := b2 102 []
def Gv (a:St):Option U:=fp Gt F Gu [.r,.r,.l,.r,.b,.i] f64 J n a
def wK:=gU Gt F Gu [.r,.r,.l,.r,.b] f64 aS 1
def Kq (i c b r d e f g h:Int)(j:ByteArray)(k:List Int)(l:ByteArray)(m:List D4)(o:List D9)(p:List Int)(q:Int)(a:List iO):Gv F J (n+1) (wI i c b r d e f g h j k l m o p q a)=br (decide (i<(a.length:Int))) (ck (bN i (a.length:Int)) ((eR F0 (c,b) (ay a i nV.aq).2).bind fun s=>br (!s.1) (J .ret (wJ false)) (ck (bN i (a.length:Int)) ((bI F0 (ay a i nV.aq).1 0 (ai (c-1))).bind fun t=>br (!t.1) (J .ret (wJ false)) (ck (bN i (a.length:Int)) (br ((ay a i nV.aq).1==r) (J .ret (wJ false)) (Gv F J n (wI (ai (i+1)) c b r d e f g h j k l m o p q a)))))))) (J (.exit 0) (Q1)):=by kernel_rfl
def ahs (a:Bool):wK F .ret (wJ a)=some (a,()):=by kernel_rfl
def adG: wK F (.exit 0) (Q1)=some (true,()):=by kernel_rfl
abbrev An:List (Ty×Bool):=[(K1,true),(bD,true)]
def dj (c:D1)(r:a6):=bh Gt F Gu f64 An aS 1 (c,r,())
def aoa (c:D1)(r:a6):dj F c r=(dy F0 c).bind fun a=>br (!a.1) (some (false,())) ((bI F0 r.1 0 (ai (c.1-1))).bind fun b=>br (!b.1) (some (false,())) ((bI F0 r.2.1 1 60).bind fun d=>br (!d.1) (some (false,())) ((bI F0 r.2.2.1 0 60).bind fun e=>br (!e.1) (some (false,())) ((hO F0 c r.2.2.2.1).bind fun f=>br (!f.1) (some (false,())) ((Dq F0 r.2.2.2.2.1).bind fun g=>br (!g.1) (some (false,())) ((l5 F0 c r.2.2.2.2.2.1).bind fun h=>br (!h.1) (some (false,())) ((lW F0 r.2.2.2.2.2.2.1).bind fun i=>br (!i.1) (some (false,())) (br (decide ((r.2.2.2.2.2.2.2.length:Int)>30)) (some (false,())) (Gv F (wK F) F.n (wI 0 c.1 c.2 r.1 r.2.1 r.2.2.1 r.2.2.2.1.1 r.2.2.2.1.2.1 r.2.2.2.1.2.2.1.1 r.2.2.2.1.2.2.1.2.1 r.2.2.2.1.2.2.1.2.2 r.2.2.2.1.2.2.2 r.2.2.2.2.1 r.2.2.2.2.2.1 r.2.2.2.2.2.2.1.1 r.2.2.2.2.2.2.1.2 r.2.2.2.2.2.2.2)))))))))):=by kernel_rfl
def cn:Any:=.one ⟨An,aS,1,fun x=>dj F0 x.1 x.2.1⟩
def cP:aX 64 cn:=aw Gt ⟨c9,cB,kJ,TA,QZ,wF,ny,trivial⟩ func64 Gu (by kernel_rfl)
def Xr:=[(64,cn)]
abbrev fK:List (Ty×Bool):=[(bD,true),(.bool,false)]
abbrev af5:List (Ty×Bool):=[(K1,true),(.int .i64,false)]
def Kr (c:D1)(a:Int):=bh Xr F ab f30 af5 fK 2 (c,a,())
def akB (c:D1)(a:Int):Kr F c a=(dj F0 c (a,1,0,(0,0,(0,aj,[]),aj),[],[],([],0),[])).bind fun b=>br (!b.1) (some ((0,0,0,(0,0,(0,aj,[]),aj),[],[],([],0),[]),false,())) (some ((a,1,0,(0,0,(0,aj,[]),aj),[],[],([],0),[]),true,())):=by kernel_rfl
def Q2:Any:=.one ⟨af5,fK,2,fun x=>Kr F0 x.1 x.2.1⟩
def akC:aX 30 Q2:=aw Xr ⟨cP,trivial⟩ func30 ab (by kernel_rfl)
def Xs:=[(29,cu)]
def Ks (c:D1):=bh Xs F ab f66 QR cX 1 (c,())
def akD (c:D1):Ks F c=(dy F0 c).bind fun a=>br (!a.1) (some (0,())) (some (ai (Int.tdiv (ai (c.1-1)) 3),())):=by kernel_rfl
def Q3:Any:=.one ⟨QR,cX,1,fun x=>Ks F0 x.1⟩
def akE:aX 66 Q3:=aw Xs ⟨c9,trivial⟩ func66 ab (by kernel_rfl)
def B4:Nat->Option Hint:=look [(3,{live:=[0,1,7,8],rl:=[4,5,6]})]
def sW (b:List Int)(a c k:Int):= b2 55 [(0,hM 5 (.int .u8) b),(1,bp a),(7,bp c),(8,bp k)]
def fg (a b:Int)(c:Bool):= b2 55 [(4,bp a),(5,bp b),(6,Pw c)]
def NI   := b2 55 []
def B5 (a:St):Option U:=fp aB F B4 [.r,.r,.l,.r,.b,.i] f198 J n a
abbrev apK:List (Ty×Bool):=[(.int .i64,false),(.int .i64,false),(.bool,false)]
def sX:=gU aB F B4 [.r,.r,.l,.r,.b] f198 apK 1
def Iu (b:List Int)(a c k:Int):B5 F J (n+1) (sW b a c k)=br (decide (k<5)) (br (decide (a<0)) (J .ret (fg 0 0 false)) (br (decide (a>=(ai ((b.length:Int)-k)))) (J .ret (fg 0 0 false)) (ck (bN (ai (a+k)) (b.length:Int)) (ck (decide (0<=(ai (7*k)))) (br (decide ((ai (ay b (ai (a+k)) 0))<128)) (br (decide (k>0)) (br ((ai (ay b (ai (a+k)) 0))==0) (J .ret (fg 0 0 false)) (br (decide ((ai (((BitVec.ofInt 64 c ||| BitVec.ofInt 64 (ai ((Int.tmod (ai (ay b (ai (a+k)) 0)) 128)*2 ^ (min (ai (7*k)).toNat 64)))).toNat:Int)))>2147483647)) (J .ret (fg 0 0 false)) (J .ret (fg (ai (((BitVec.ofInt 64 c ||| BitVec.ofInt 64 (ai ((Int.tmod (ai (ay b (ai (a+k)) 0)) 128)*2 ^ (min (ai (7*k)).toNat 64)))).toNat:Int))) (ai ((ai (a+k))+1)) true)))) (br (decide ((ai (((BitVec.ofInt 64 c ||| BitVec.ofInt 64 (ai ((Int.tmod (ai (ay b (ai (a+k)) 0)) 128)*2 ^ (min (ai (7*k)).toNat 64)))).toNat:Int)))>2147483647)) (J .ret (fg 0 0 false)) (J .ret (fg (ai (((BitVec.ofInt 64 c ||| BitVec.ofInt 64 (ai ((Int.tmod (ai (ay b (ai (a+k)) 0)) 128)*2 ^ (min (ai (7*k)).toNat 64)))).toNat:Int))) (ai ((ai (a+k))+1)) true)))) (B5 F J n (sW b a (ai (((BitVec.ofInt 64 c ||| BitVec.ofInt 64 (ai ((Int.tmod (ai (ay b (ai (a+k)) 0)) 128)*2 ^ (min (ai (7*k)).toNat 64)))).toNat:Int))) (ai (k+1))))))))) (J (.exit 0) (NI)):=by kernel_rfl
def AX (a b:Int)(c:Bool):sX F .ret (fg a b c)=some (a,b,c,()):=by kernel_rfl
def aa2: sX F (.exit 0) (NI)=some (0,0,false,()):=by kernel_rfl
abbrev af6:List (Ty×Bool):=[(.sl 5 (.int .u8),false),(.int .i64,false)]
def jF (b:List Int)(a:Int):=bh aB F B4 f198 af6 apK 1 (b,a,())
def akF (b:List Int)(a:Int):jF F b a=B5 F (sX F) F.n (sW b a 0 0):=by kernel_rfl
def sY:Any:=.one ⟨af6,apK,1,fun x=>jF F0 x.1 x.2.1⟩
def Iv:aX 198 sY:=aw aB trivial func198 B4 (by kernel_rfl)
def Xt:=[(198,sY)]
abbrev gq:List (Ty×Bool):=[(K32,true)]
def cH (c:D32):=Dp Xt F ab f127 gq 0 .cur cX gq 1 (c,())
def akG (c:D32):cH F c=(jF F0 c.1 c.2.1).bind fun a=>br (!a.2.2.1) (some ((0,()),(c.1,c.2.1,false),())) (br (!c.2.2) (some ((0,()),(c.1,c.2.1,false),())) (some ((a.1,()),(c.1,a.2.1,c.2.2),()))):=by kernel_rfl
def mP:Any:=.two ⟨gq,0,.cur,cX,1,gq,fun x=>cH F0 x.1⟩
def wL:aX 127 mP:=Tq Xt ⟨Iv,trivial⟩ func127 ab (by kernel_rfl)
def TH:=[(198,sY)]
abbrev ayp:List (Ty×Bool):=[(.str,false),(.int .i64,false),(.bool,false)]
def Gw (b:List Int)(a:Int):=bh TH F ab f199 af6 ayp 1 (b,a,())
def aht (b:List Int)(c:Int):Gw F b c=(jF F0 b c).bind fun a=>br (!a.2.2.1) (some (aj,0,false,())) (br (decide (a.1>(ai ((b.length:Int)-a.2.1)))) (some (aj,0,false,())) (ck (QN a.2.1 (ai (a.2.1+a.1)) (b.length:Int)) (some (strOf ((b.take (ai (a.2.1+a.1)).toNat).drop a.2.1.toNat),ai (a.2.1+a.1),true,())))):=by kernel_rfl
def NJ:Any:=.one ⟨af6,ayp,1,fun x=>Gw F0 x.1 x.2.1⟩
def ahu:aX 199 NJ:=aw TH ⟨Iv,trivial⟩ func199 ab (by kernel_rfl)
def TI:=[(199,NJ)]
def l7 (c:D32):=Dp TI F ab f128 gq 0 .cur dt gq 1 (c,())
def ahv (c:D32):l7 F c=(Gw F0 c.1 c.2.1).bind fun a=>br (!a.2.2.1) (some ((aj,()),(c.1,c.2.1,false),())) (br (!c.2.2) (some ((aj,()),(c.1,c.2.1,false),())) (some ((a.1,()),(c.1,a.2.1,c.2.2),()))):=by kernel_rfl
def pL:Any:=.two ⟨gq,0,.cur,dt,1,gq,fun x=>l7 F0 x.1⟩
def EE:aX 128 pL:=Tq TI ⟨ahu,trivial⟩ func128 ab (by kernel_rfl)
def B6:=[(127,mP)]
def B7:Nat->Option Hint:=look [(4,{live:=[0,3,4,5],xl:=[3],rl:=[2]})]
def sZ (a i:Int)(b:List Int)(c:Int)(d:Bool)(e:List Int):St:={nt:=28,tm:=[(0,.v (.c (.ptr 4000000 0))),(3,.v (.c (.own 1000000 none))),(4,bp a),(5,bp i)],bx:=[(4000000,[.ro true 5 (.int .u8) b,an c,.bool d])],bl:=[ax 1000000 3 (.int .i64) e],sp:=.v (.c (.ptr 4000000 0))}
def pM (a:List Int)(b:Int)(c:Bool)(d:List Int):St:={nt:=28,tm:=[(3,.v (.c (.own 1000000 none)))],bx:=[(4000000,[.ro true 5 (.int .u8) a,an b,.bool c])],bl:=[ax 1000000 3 (.int .i64) d],sp:=.v (.c (.ptr 4000000 0))}
def B8 (a:St):Option U:=fp B6 F B7 [.r,.r,.r,.l,.r,.b,.i] f130 J n a
abbrev iT:List (Ty×Bool):=[(.sl 3 (.int .i64),false)]
def EF:=atV B6 F B7 [.r,.r,.r,.l,.r,.b] f130 .cur iT gq 2
def Iw (f i:Int)(d:List Int)(e:Int)(a:Bool)(c:List Int):B8 F J (n+1) (sZ f i d e a c)=br (decide (i<f)) (br a ((cH F0 (d,e,a)).bind fun b=>ck (ee F c.length [b.1.1].length 8) (B8 F J n (sZ f (ai (i+1)) b.2.1.1 b.2.1.2.1 b.2.1.2.2 (c++[b.1.1])))) (J (.exit 0) (pM d e a c))) (J (.exit 0) (pM d e a c)):=by kernel_rfl
def aa3 (a:List Int)(b:Int)(c:Bool)(d:List Int):EF F (.exit 0) (pM a b c d)=some ((d,()),(a,b,c),()):=by kernel_rfl
def Dt (c:D32):=Dp B6 F B7 f130 gq 0 .cur iT gq 2 (c,())
def akH (c:D32):Dt F c=(cH F0 c).bind fun a=>B8 F (EF F) F.n (sZ a.1.1 0 a.2.1.1 a.2.1.2.1 a.2.1.2.2 []):=by kernel_rfl
def EG:Any:=.two ⟨gq,0,.cur,iT,2,gq,fun x=>Dt F0 x.1⟩
def TJ:aX 130 EG:=Tq B6 ⟨wL,trivial⟩ func130 B7 (by kernel_rfl)
def aa4:=[(127,mP),(128,pL),(130,EG)]
abbrev fF:List (Ty×Bool):=[(K9,true)]
def AY (c:D32):=Dp aa4 F ab f129 gq 0 .cur fF gq 2 (c,())
def aob (c:D32):AY F c=(cH F0 c).bind fun a=>(l7 F0 a.2.1).bind fun b=>(Dt F0 b.2.1).bind fun d=>some (((a.1.1,b.1.1,d.1.1),()),d.2.1,()):=by kernel_rfl
def Ix:Any:=.two ⟨gq,0,.cur,fF,2,gq,fun x=>AY F0 x.1⟩
def Xu:aX 129 Ix:=Tq aa4 ⟨wL,EE,TJ,trivial⟩ func129 ab (by kernel_rfl)
def aa5:=[(126,iy),(127,mP),(128,pL),(129,Ix),(130,EG)]
abbrev Q4:List (Ty×Bool):=[(K1,true),(.sl 5 (.int .u8),false)]
abbrev ayq:List (Ty×Bool):=[(K21,true),(.bool,false)]
def Iy (c:D1)(b:List Int):=bh aa5 F ab f67 Q4 ayq 2 (c,b,())
def aoc (c:D1)(b:List Int):Iy F c b=(cH F0 (b,0,true)).bind fun a=>br (a.1.1==1) ((l7 F0 a.2.1).bind fun i=>(AY F0 i.2.1).bind fun e=>br (!e.2.1.2.2) (some ((0,0,(aj,0,aj,[]),(0,aj,[]),(0,aj,[]),0,0,0,0,0),false,())) (br (e.2.1.2.1 != (b.length:Int)) (some ((0,0,(aj,0,aj,[]),(0,aj,[]),(0,aj,[]),0,0,0,0,0),false,())) ((eR F0 c (a.1.1,0,(i.1.1,e.1.1),(0,aj,[]),(0,aj,[]),0,0,0,0,0)).bind fun d=>br (!d.1) (some ((0,0,(aj,0,aj,[]),(0,aj,[]),(0,aj,[]),0,0,0,0,0),false,())) (some ((a.1.1,0,(i.1.1,e.1.1),(0,aj,[]),(0,aj,[]),0,0,0,0,0),true,()))))) (br (a.1.1==2) ((cH F0 a.2.1).bind fun j=>(l7 F0 j.2.1).bind fun k=>(Dt F0 k.2.1).bind fun f=>br (!f.2.1.2.2) (some ((0,0,(aj,0,aj,[]),(0,aj,[]),(0,aj,[]),0,0,0,0,0),false,())) (br (f.2.1.2.1 != (b.length:Int)) (some ((0,0,(aj,0,aj,[]),(0,aj,[]),(0,aj,[]),0,0,0,0,0),false,())) ((eR F0 c (a.1.1,0,(aj,0,aj,[]),(j.1.1,k.1.1,f.1.1),(0,aj,[]),0,0,0,0,0)).bind fun d=>br (!d.1) (some ((0,0,(aj,0,aj,[]),(0,aj,[]),(0,aj,[]),0,0,0,0,0),false,())) (some ((a.1.1,0,(aj,0,aj,[]),(j.1.1,k.1.1,f.1.1),(0,aj,[]),0,0,0,0,0),true,()))))) (br (a.1.1==3) ((cH F0 a.2.1).bind fun l=>(cH F0 l.2.1).bind fun m=>(AY F0 m.2.1).bind fun g=>br (!g.2.1.2.2) (some ((0,0,(aj,0,aj,[]),(0,aj,[]),(0,aj,[]),0,0,0,0,0),false,())) (br (g.2.1.2.1 != (b.length:Int)) (some ((0,0,(aj,0,aj,[]),(0,aj,[]),(0,aj,[]),0,0,0,0,0),false,())) ((eR F0 c (a.1.1,l.1.1,(aj,0,aj,[]),(0,aj,[]),g.1.1,m.1.1,0,0,0,0)).bind fun d=>br (!d.1) (some ((0,0,(aj,0,aj,[]),(0,aj,[]),(0,aj,[]),0,0,0,0,0),false,())) (some ((a.1.1,l.1.1,(aj,0,aj,[]),(0,aj,[]),g.1.1,m.1.1,0,0,0,0),true,()))))) (br (a.1.1==4) ((cH F0 a.2.1).bind fun o=>(cH F0 o.2.1).bind fun p=>(cH F0 p.2.1).bind fun q=>(cH F0 q.2.1).bind fun h=>br (!h.2.1.2.2) (some ((0,0,(aj,0,aj,[]),(0,aj,[]),(0,aj,[]),0,0,0,0,0),false,())) (br (h.2.1.2.1 != (b.length:Int)) (some ((0,0,(aj,0,aj,[]),(0,aj,[]),(0,aj,[]),0,0,0,0,0),false,())) ((eR F0 c (a.1.1,0,(aj,0,aj,[]),(0,aj,[]),(0,aj,[]),0,o.1.1,p.1.1,q.1.1,h.1.1)).bind fun d=>br (!d.1) (some ((0,0,(aj,0,aj,[]),(0,aj,[]),(0,aj,[]),0,0,0,0,0),false,())) (some ((a.1.1,0,(aj,0,aj,[]),(0,aj,[]),(0,aj,[]),0,o.1.1,p.1.1,q.1.1,h.1.1),true,()))))) (br (!a.2.1.2.2) (some ((0,0,(aj,0,aj,[]),(0,aj,[]),(0,aj,[]),0,0,0,0,0),false,())) (br (a.2.1.2.1 != (b.length:Int)) (some ((0,0,(aj,0,aj,[]),(0,aj,[]),(0,aj,[]),0,0,0,0,0),false,())) ((eR F0 c (a.1.1,0,(aj,0,aj,[]),(0,aj,[]),(0,aj,[]),0,0,0,0,0)).bind fun d=>br (!d.1) (some ((0,0,(aj,0,aj,[]),(0,aj,[]),(0,aj,[]),0,0,0,0,0),false,())) (some ((a.1.1,0,(aj,0,aj,[]),(0,aj,[]),(0,aj,[]),0,0,0,0,0),true,())))))))):=by kernel_rfl
def Iz:Any:=.one ⟨Q4,ayq,2,fun x=>Iy F0 x.1 x.2.1⟩
def Xv:aX 67 Iz:=aw aa5 ⟨ny,wL,EE,Xu,TJ,trivial⟩ func67 ab (by kernel_rfl)
def fZ:=[(29,cu),(63,bY),(64,cn),(65,wA),(66,Q3),(67,Iz),(68,et),(69,da)]
def ga:Nat->Option Hint:=look [(4,{live:=[1,3],xl:=[1],rl:=[2]}),(9,{live:=[1,4],xl:=[1],rl:=[2]}),(15,{live:=[1,7],rl:=[2]})]
def kN (i w a:Int)(b:List Int)(c:List a6)(d:List bZ)(e:List bT):= di 147 [b0 1,(7,bp i)] [(1,[an w,an a,.ro false 3 (.int .i64) b,.ro false 50 (bD) c,.ro false 102 (eH) d,.ro false 95 (c8) e])] []
def pN (a:Bool):= b2 147 [(2,Pw a)]
def Kt   := b2 147 []
def oT (a:St):Option U:=fp fZ F ga [.r,.r,.r,.r,.l,.r,.b,.i] f31 J n a
def kO:=gU fZ F ga [.r,.r,.r,.r,.l,.r,.b] f31 aS 1
def kP (i w a:Int)(b:List Int)(c:List a6)(d:List bZ)(e:List bT):= di 147 [b0 1,(4,bp i)] [(1,[an w,an a,.ro false 3 (.int .i64) b,.ro false 50 (bD) c,.ro false 102 (eH) d,.ro false 95 (c8) e])] []
def AZ (a:Bool):= b2 147 [(2,Pw a)]
def Ku (w a:Int)(b:List Int)(c:List a6)(d:List bZ)(e:List bT):= di 147 [b0 1] [(1,[an w,an a,.ro false 3 (.int .i64) b,.ro false 50 (bD) c,.ro false 102 (eH) d,.ro false 95 (c8) e])] []
def oU (a:St):Option U:=fp fZ F ga [.r,.r,.r,.l,.r,.b,.i] f31 J n a
def kQ:=gU fZ F ga [.r,.r,.r,.l,.r,.b] f31 aS 1
def kR (i w a:Int)(b:List Int)(c:List a6)(d:List bZ)(e:List bT):= di 147 [b0 1,(3,bp i)] [(1,[an w,an a,.ro false 3 (.int .i64) b,.ro false 50 (bD) c,.ro false 102 (eH) d,.ro false 95 (c8) e])] []
def A0 (a:Bool):= b2 147 [(2,Pw a)]
def Kv (w a:Int)(b:List Int)(c:List a6)(d:List bZ)(e:List bT):= di 147 [b0 1] [(1,[an w,an a,.ro false 3 (.int .i64) b,.ro false 50 (bD) c,.ro false 102 (eH) d,.ro false 95 (c8) e])] []
def oV (a:St):Option U:=fp fZ F ga [.r,.r,.l,.r,.b,.i] f31 J n a
def kS:=gU fZ F ga [.r,.r,.l,.r,.b] f31 aS 1
def Fh (i w b:Int)(c:List Int)(d:List a6)(e:List bZ)(a:List bT):oT F J (n+1) (kN i w b c d e a)=br (decide (i<(a.length:Int))) (ck (bN i (a.length:Int)) ((bI F0 (ay a i c8.aq).2.2 0 (ai (w-1))).bind fun f=>br (!f.1) (J .ret (pN false)) ((eB F0 (ay a i c8.aq).2.1).bind fun g=>br (!g.1) (J .ret (pN false)) ((df F0 (ay a i c8.aq).2.1).bind fun h=>br (h.1 != (ay a i c8.aq).1) (J .ret (pN false)) (oT F J n (kN (ai (i+1)) w b c d e a)))))) (J (.exit 4) (Kt)):=by kernel_rfl
def Fi (i w b:Int)(c:List Int)(d:List a6)(a:List bZ)(e:List bT):oU F J (n+1) (kP i w b c d a e)=br (decide (i<(a.length:Int))) (ck (bN i (a.length:Int)) ((Iy F0 (w,b) (ay a i (0,[])).2).bind fun f=>br (!f.2.1) (J .ret (AZ false)) (ck (bN i (a.length:Int)) ((bI F0 (ay a i (0,[])).1 0 (ai (w-1))).bind fun g=>br (!g.1) (J .ret (AZ false)) (oU F J n (kP (ai (i+1)) w b c d a e)))))) (J (.exit 2) (Ku w b c d a e)):=by kernel_rfl
def Fj (i w b:Int)(c:List Int)(a:List a6)(d:List bZ)(e:List bT):oV F J (n+1) (kR i w b c a d e)=br (decide (i<(a.length:Int))) (ck (bN i (a.length:Int)) (br ((ay a i bD.aq).1 != i) (J .ret (A0 false)) (ck (bN i (a.length:Int)) ((dj F0 (w,b) (ay a i bD.aq)).bind fun f=>br (!f.1) (J .ret (A0 false)) (oV F J n (kR (ai (i+1)) w b c a d e)))))) (J (.exit 0) (Kv w b c a d e)):=by kernel_rfl
def aa6 (a:Bool):kO F .ret (pN a)=some (a,()):=by kernel_rfl
def Y8: kO F (.exit 4) (Kt)=some (true,()):=by kernel_rfl
def aa7 (a:Bool):kQ F .ret (AZ a)=some (a,()):=by kernel_rfl
def Y9 (w a:Int)(b:List Int)(c:List a6)(d:List bZ)(e:List bT):kQ F (.exit 2) (Ku w a b c d e)=oT F (kO F) F.n (kN 0 w a b c d e):=by kernel_rfl
def aa8 (a:Bool):kS F .ret (A0 a)=some (a,()):=by kernel_rfl
def Za (w a:Int)(b:List Int)(c:List a6)(d:List bZ)(e:List bT):kS F (.exit 0) (Kv w a b c d e)=oU F (kQ F) F.n (kP 0 w a b c d e):=by kernel_rfl
abbrev fG:List (Ty×Bool):=[(gp,true)]
def wM (w:nx):=bh fZ F ga f31 fG aS 1 (w,())
def ahw (w:nx):wM F w=(dy F0 w.1).bind fun a=>br (!a.1) (some (false,())) ((AS F0 w.1.1 w.2.1).bind fun b=>br (!b.1) (some (false,())) ((Ks F0 w.1).bind fun c=>br (decide ((w.2.1.length:Int)>c.1)) (some (false,())) (br ((w.2.2.1.length:Int) != w.1.1) (some (false,())) (br (decide ((w.2.2.2.1.length:Int)>60)) (some (false,())) (br (decide ((w.2.2.2.2.length:Int)>300)) (some (false,())) (oV F (kS F) F.n (kR 0 w.1.1 w.1.2 w.2.1 w.2.2.1 w.2.2.2.1 w.2.2.2.2))))))):=by kernel_rfl
def NK:Any:=.one ⟨fG,aS,1,fun x=>wM F0 x.1⟩
def ahx:aX 31 NK:=aw fZ ⟨c9,cB,cP,MP,akE,Xv,fX,ej,trivial⟩ func31 ga (by kernel_rfl)
def s0:=[(29,cu),(30,Q2),(31,NK)]
def s4:Nat->Option Hint:=look [(3,{live:=[2,4,6,7],vW:=[(4,2,3,.int .i64),(4,3,50,bD),(4,4,102,eH),(4,5,95,c8),(6,3,50,bD),(6,4,102,eH),(6,5,95,c8)],xl:=[4,6],rl:=[4,5]})]
def nX (i c a l m w b:Int)(o:List Int)(d:List a6)(e:List bZ)(f:List bT)(g:List Int)(h:List a6)(j:List bZ)(k:List bT):= di 42 [b0 2,b0 4,b0 6,(7,bp i)] [(2,[an c,an a]),(4,[an l,an m,.own 1000000 none,.own 1000001 none,.own 1000002 none,.own 1000003 none]),(6,[an w,an b,.own 1000004 none,.own 1000005 none,.own 1000006 none,.own 1000007 none])] [ax 1000000 3 (.int .i64) o,ax 1000001 50 bD d,ax 1000002 102 eH e,ax 1000003 95 c8 f,ax 1000004 3 (.int .i64) g,ax 1000005 50 bD h,ax 1000006 102 eH j,ax 1000007 95 c8 k]
def uK (i j w a:Int)(k:List Int)(b:List a6)(c:List bZ)(d:List bT)(e:List Int)(f:List a6)(g:List bZ)(h:List bT):= di 42 [b0 4,b0 6] [(4,[an i,an j,.own 1000000 none,.own 1000001 none,.own 1000002 none,.own 1000003 none]),(6,[an w,an a,.own 1000004 none,.own 1000005 none,.own 1000006 none,.own 1000007 none])] [ax 1000000 3 (.int .i64) k,ax 1000001 50 bD b,ax 1000002 102 eH c,ax 1000003 95 c8 d,ax 1000004 3 (.int .i64) e,ax 1000005 50 bD f,ax 1000006 102 eH g,ax 1000007 95 c8 h]
def s5 (a:St):Option U:=fp s0 F s4 [.r,.r,.l,.r,.b,.i] f8 J n a
abbrev apL:List (Ty×Bool):=[(gp,true),(.bool,false)]
def wN:=gU s0 F s4 [.r,.r,.l,.r,.b] f8 apL 2
def Du (i c b l m w d:Int)(o:List Int)(e:List a6)(f:List bZ)(g:List bT)(h:List Int)(a:List a6)(j:List bZ)(k:List bT):s5 F J (n+1) (nX i c b l m w d o e f g h a j k)=br (decide (i<c)) ((dy F0 (c,b)).bind fun q=>br q.1 ((Kr F0 (c,b) i).bind fun p=>ck (ee F a.length [p.1].length 208) (s5 F J n (nX (ai (i+1)) c b l m w d o e f g h (a++[p.1]) j k))) (J (.exit 0) (uK l m w d o e f g h a j k))) (J (.exit 0) (uK l m w d o e f g h a j k)):=by kernel_rfl
def Ws (j k w a:Int)(l:List Int)(f:List a6)(g:List bZ)(h:List bT)(b:List Int)(c:List a6)(d:List bZ)(e:List bT):wN F (.exit 0) (uK j k w a l f g h b c d e)=(wM F0 ((w,a),b,c,d,e)).bind fun i=>br (!i.1) (some (((0,0),[],[],[],[]),false,())) (some (((w,a),b,c,d,e),true,())):=by kernel_rfl
abbrev ayr:List (Ty×Bool):=[(K1,true),(.sl 3 (.int .i64),false)]
def j8 (c:D1)(a:List Int):=bh s0 F s4 f8 ayr apL 2 (c,a,())
def adH (c:D1)(a:List Int):j8 F c a=ck (ee F 0 a.length 8) (s5 F (wN F) F.n (nX 0 c.1 c.2 0 0 c.1 c.2 [] [] [] [] ([]++a) [] [] [])):=by kernel_rfl
def wO:Any:=.one ⟨ayr,apL,2,fun x=>j8 F0 x.1 x.2.1⟩
def NL:aX 8 wO:=aw s0 ⟨c9,akC,ahx,trivial⟩ func8 s4 (by kernel_rfl)
def Fk:=[(8,wO),(21,dQ),(49,l4),(50,mK)]
def nY (c:D2):=Dp Fk F ab f19 iv 0 .cur fG iv 2 (c,())
def TK (c:D2):nY F c=(iw F0 c [4,4,4,5,7]).bind fun a=>(au F0 a.2.1 3).bind fun b=>(lU F0 b.2.1 3).bind fun d=>br (!d.1.1) ((au F0 d.2.1 a.1.1).bind fun f=>(j8 F0 (a.1.1,ai (1+b.1.1)) [f.1.1]).bind fun e=>some ((e.1,()),f.2.1,())) ((j8 F0 (a.1.1,ai (1+b.1.1)) []).bind fun e=>some ((e.1,()),d.2.1,())):=by kernel_rfl
def Ap:Any:=.two ⟨iv,0,.cur,fG,2,iv,fun x=>nY F0 x.1⟩
def TL:aX 19 Ap:=Tq Fk ⟨NL,ff,wh,wi,trivial⟩ func19 ab (by kernel_rfl)
def hQ (q:D9):=bh aB F ab f113 fF fF 2 (q,())
def akI (q:D9):hQ F q=ck (ee F 0 q.2.2.length 8) (some ((q.1,q.2.1,[]++q.2.2),())):=by kernel_rfl
def gC:Any:=.one ⟨fF,fF,2,fun x=>hQ F0 x.1⟩
def kT:aX 113 gC:=aw aB trivial func113 ab (by kernel_rfl)
def TM:=[(113,gC)]
abbrev Aq:List (Ty×Bool):=[(K12,true)]
def l8 (s:SC):=bh TM F ab f98 Aq Aq 2 (s,())
def ahy (s:SC):l8 F s=(hQ F0 s.2.2.1).bind fun a=>some ((s.1,s.2.1,a.1,s.2.2.2),()):=by kernel_rfl
def kU:Any:=.one ⟨Aq,Aq,2,fun x=>l8 F0 x.1⟩
def s6:aX 98 kU:=aw TM ⟨kT,trivial⟩ func98 ab (by kernel_rfl)
def fL (p:D9):=bh aB F ab f175 fF fF 2 (p,())
def ahz (p:D9):fL F p=ck (ee F 0 p.2.2.length 8) (some ((p.1,p.2.1,[]++p.2.2),())):=by kernel_rfl
def h7:Any:=.one ⟨fF,fF,2,fun x=>fL F0 x.1⟩
def mQ:aX 175 h7:=aw aB trivial func175 ab (by kernel_rfl)
def s7:=[(175,h7)]
def s9:Nat->Option Hint:=look [(3,{live:=[0,3,4],xl:=[3],rl:=[2]})]
def nZ (a:List D9)(i:Int)(b:List D9):= di 21 [(0,hM 61 (K9) a),(3,.v (.c (.own 1000000 none))),(4,bp i)] [] [ax 1000000 61 K9 b]
def IA (a:List D9):= di 21 [(3,.v (.c (.own 1000000 none)))] [] [ax 1000000 61 K9 a]
def ta (a:St):Option U:=fp s7 F s9 [.r,.r,.l,.r,.b,.i] f99 J n a
abbrev Fl:List (Ty×Bool):=[(K13,false)]
def wP:=gU s7 F s9 [.r,.r,.l,.r,.b] f99 Fl 2
def Dv (a:List D9)(i:Int)(b:List D9):ta F J (n+1) (nZ a i b)=br (decide (i<(a.length:Int))) (ck (bN i (a.length:Int)) ((fL F0 (ay a i K9.aq)).bind fun c=>ck (ee F b.length [c.1].length 48) (ta F J n (nZ a (ai (i+1)) (b++[c.1]))))) (J (.exit 0) (IA b)):=by kernel_rfl
def Wt (a:List D9):wP F (.exit 0) (IA a)=some (a,()):=by kernel_rfl
def fM (a:D13):=bh s7 F s9 f99 Fl Fl 2 (a,())
def adI (a:D13):fM F a=ta F (wP F) F.n (nZ a 0 []):=by kernel_rfl
def wQ:Any:=.one ⟨Fl,Fl,2,fun x=>fM F0 x.1⟩
def NM:aX 99 wQ:=aw s7 ⟨mQ,trivial⟩ func99 s9 (by kernel_rfl)
def gV (d:D14):=bh aB F ab f100 nW nW 2 (d,())
def ahA (d:D14):gV F d=ck (ee F 0 d.1.length 1) (some (([]++d.1,d.2),())):=by kernel_rfl
def kV:Any:=.one ⟨nW,nW,2,fun x=>gV F0 x.1⟩
def tc:aX 100 kV:=aw aB trivial func100 ab (by kernel_rfl)
def Xw:=[(113,gC)]
abbrev af7:List (Ty×Bool):=[(K15,true)]
def Kw (b:D15):=bh Xw F ab f233 af7 af7 2 (b,())
def akJ (b:D15):Kw F b=(hQ F0 b.2).bind fun a=>some ((b.1,a.1),()):=by kernel_rfl
def Q5:Any:=.one ⟨af7,af7,2,fun x=>Kw F0 x.1⟩
def akK:aX 233 Q5:=aw Xw ⟨kT,trivial⟩ func233 ab (by kernel_rfl)
def TN:=[(113,gC),(175,h7),(233,Q5)]
def wR (m:MO):=bh TN F ab f176 vt vt 2 (m,())
def ahB (m:MO):wR F m=(Kw F0 m.2.2.1).bind fun a=>(fL F0 m.2.2.2.1).bind fun b=>(hQ F0 m.2.2.2.2.1).bind fun c=>some ((m.1,m.2.1,a.1,b.1,c.1,m.2.2.2.2.2),()):=by kernel_rfl
def A2:Any:=.one ⟨vt,vt,2,fun x=>wR F0 x.1⟩
def Q6:aX 176 A2:=aw TN ⟨kT,mQ,akK,trivial⟩ func176 ab (by kernel_rfl)
def td:=[(176,A2)]
def te:Nat->Option Hint:=look [(3,{live:=[0,3,4],xl:=[3],rl:=[2]})]
def n0 (a:List iO)(i:Int)(b:List iO):= di 28 [(0,hM 119 (nV) a),(3,.v (.c (.own 1000000 none))),(4,bp i)] [] [ax 1000000 119 nV b]
def IB (a:List iO):= di 28 [(3,.v (.c (.own 1000000 none)))] [] [ax 1000000 119 nV a]
def tf (a:St):Option U:=fp td F te [.r,.r,.l,.r,.b,.i] f101 J n a
abbrev Xx:List (Ty×Bool):=[(K23,false)]
def wS:=gU td F te [.r,.r,.l,.r,.b] f101 Xx 2
def Dw (a:List iO)(i:Int)(b:List iO):tf F J (n+1) (n0 a i b)=br (decide (i<(a.length:Int))) (ck (bN i (a.length:Int)) (ck (bN i (a.length:Int)) ((wR F0 (ay a i nV.aq).2).bind fun c=>ck (ee F b.length [((ay a i nV.aq).1,c.1)].length 224) (tf F J n (n0 a (ai (i+1)) (b++[((ay a i nV.aq).1,c.1)])))))) (J (.exit 0) (IB b)):=by kernel_rfl
def Wu (a:List iO):wS F (.exit 0) (IB a)=some (a,()):=by kernel_rfl
def sh (a:D23):=bh td F te f101 Xx Xx 2 (a,())
def adJ (a:D23):sh F a=tf F (wS F) F.n (n0 a 0 []):=by kernel_rfl
def wT:Any:=.one ⟨Xx,Xx,2,fun x=>sh F0 x.1⟩
def NN:aX 101 wT:=aw td ⟨Q6,trivial⟩ func101 te (by kernel_rfl)
end
end Go.Am.Tryz
