/- No condition. -/
import Derived.Test.YtnllfndlcahalaaGreatDoorProg
import Derived.Test.YtnllfndlcahalaaGreatDoorQvWJS1
set_option linter.all false
set_option maxRecDepth 100000
namespace Go.Am.Tryz
open Go.Am Go.Proofs Go.Proofs.Tryz
abbrev K1:Ty:=.pair (.int .i64) (.int .i64)
abbrev D1:=Int×Int
abbrev K2:Ty:=.pair (.sl 5 (.int .u8)) (K1)
abbrev D2:=List Int×D1
abbrev K3:Ty:=.pair (.int .i64) (K1)
abbrev D3:=Int×D1
abbrev K4:Ty:=.pair (.int .i64) (K3)
abbrev D4:=Int×D3
abbrev K5:Ty:=.sl 52 (K4)
abbrev D5:=List D4
abbrev K6:Ty:=.pair (.int .i64) (K5)
abbrev D6:=Int×D5
abbrev K7:Ty:=.sl 157 (K6)
abbrev K8:Ty:=.pair (.str) (.sl 3 (.int .i64))
abbrev D8:=ByteArray×List Int
abbrev K9:Ty:=.pair (.int .i64) (K8)
abbrev D9:=Int×D8
abbrev K10:Ty:=.pair (K9) (.str)
abbrev D10:=D9×ByteArray
abbrev K11:Ty:=.pair (.int .i64) (K10)
abbrev D11:=Int×D10
abbrev K12:Ty:=.pair (.int .i64) (K11)
abbrev Vt:=Int×D11
abbrev K13:Ty:=.sl 50 (K9)
abbrev D13:=List D9
abbrev K14:Ty:=.pair (.sl 5 (.int .u8)) (.int .i64)
abbrev D14:=List Int×Int
abbrev K15:Ty:=.pair (.str) (K9)
abbrev D15:=ByteArray×D9
abbrev K16:Ty:=.pair (.int .i64) (K4)
abbrev D16:=Int×D4
abbrev K17:Ty:=.pair (K9) (K16)
abbrev D17:=D9×D16
abbrev K18:Ty:=.pair (K9) (K17)
abbrev D18:=D9×D17
abbrev K19:Ty:=.pair (K15) (K18)
abbrev D19:=D15×D18
abbrev K20:Ty:=.pair (.int .i64) (K19)
abbrev D20:=Int×D19
abbrev K21:Ty:=.pair (.int .i64) (K20)
abbrev Po:=Int×D20
abbrev p2:Ty:=.pair (.int .i64) (K21)
abbrev lD:=Int×Po
abbrev K23:Ty:=.sl 136 (p2)
abbrev D23:=List lD
abbrev K24:Ty:=.pair (K14) (K23)
abbrev D24:=D14×D23
abbrev K25:Ty:=.pair (K13) (K24)
abbrev D25:=D13×D24
abbrev K26:Ty:=.pair (K5) (K25)
abbrev D26:=D5×D25
abbrev K27:Ty:=.pair (K12) (K26)
abbrev D27:=Vt×D26
abbrev K28:Ty:=.pair (.int .i64) (K27)
abbrev D28:=Int×D27
abbrev K29:Ty:=.pair (.int .i64) (K28)
abbrev D29:=Int×D28
abbrev ca:Ty:=.pair (.int .i64) (K29)
abbrev a7:=Int×D29
abbrev K31:Ty:=.pair (.int .i64) (.bool)
abbrev D31:=Int×Bool
abbrev K32:Ty:=.pair (.sl 5 (.int .u8)) (K31)
abbrev D32:=List Int×D31
abbrev K33:Ty:=.sl 65 (ca)
abbrev D33:=List a7
abbrev eo:Ty:=.pair (.int .i64) (.sl 5 (.int .u8))
abbrev bS:=Int×List Int
abbrev K35:Ty:=.sl 105 (eo)
abbrev D35:=List bS
abbrev K36:Ty:=.pair (.str) (.int .i64)
abbrev D36:=ByteArray×Int
abbrev cl:Ty:=.pair (.int .i64) (K36)
abbrev bE:=Int×D36
abbrev K38:Ty:=.sl 41 (cl)
abbrev D38:=List bE
abbrev K39:Ty:=.pair (K35) (K38)
abbrev D39:=D35×D38
abbrev K40:Ty:=.pair (K33) (K39)
abbrev D40:=D33×D39
abbrev K41:Ty:=.pair (.sl 3 (.int .i64)) (K40)
abbrev D41:=List Int×D40
abbrev hU:Ty:=.pair (K1) (K41)
abbrev lE:=D1×D41
abbrev K43:Ty:=.pair (.sl 3 (.int .i64)) (.sl 3 (.int .i64))
abbrev D43:=List Int×List Int
abbrev K44:Ty:=.pair (.int .i64) (p2)
abbrev D44:=Int×lD
abbrev K45:Ty:=.pair (.int .i64) (K44)
abbrev D45:=Int×D44
abbrev K46:Ty:=.sl 56 (K45)
abbrev D46:=List D45
def ad:Nat->Option Hint:=look []
def aA:List (Nat×Any):=[]
noncomputable section
variable {U:Type} (C:List (Nat×Any)) (F:p5) (H:Nat->Option Hint)
abbrev a1 (f:Nat)(c:Any):Prop:=tg Tryz.prog TB f c
def bj (b:Func)(a c:List (Ty×Bool))(m:Nat)(x:Args a):=aKP Tryz.prog (look C) F H b a c m x
def Fl (c:Func)(a:List (Ty×Bool))(i:Nat)(d:PM)(e b:List (Ty×Bool))(m:Nat)(x:Args a):=aDD Tryz.prog (look C) F H c a i d e b m x
def ff (p:List At)(a:Func)(J:Ex->St->Option U)(n:Nat)(b:St):Option U:=lp Tryz.prog (look C) F H (sub p (eX a)) J n b
def hQ (p:List At)(a:Func)(b:List (Ty×Bool))(m:Nat):=V0 Tryz.prog (look C) F H p (eX a) (fin Tryz.prog a b m)
def azd (p:List At)(a:Func)(c:PM)(d b:List (Ty×Bool))(m:Nat):=V0 Tryz.prog (look C) F H p (eX a) (aLQ Tryz.prog a c d b m)
def cQ (n:Nat)(t:List (Nat×AV))(b:List (Nat×List AC))(l:List (Nat×Option fU)):St:={nt:=n,tm:=t,bx:=b,bl:=l}
def bP (n:Nat)(t:List (Nat×AV)):St:={nt:=n,tm:=t,bx:=[],bl:=[]}
def a8 (t:Int):AV:=.v (.c (.int .i64 t))
def ao (t:Int):AC:=.int .i64 t
def b0 (d:Nat):Nat×AV:=(d,.v (.c (.ptr d 0)))
abbrev ak:ByteArray:=ByteArray.mk #[]
def ay (i:Nat)(e:TypeId)(t:Ty)(x:List t.D):Nat×Option fU:=(i,some ⟨e,t,x,true,true⟩)
def Ir (b:Bool):AV:=.v (.c (.bool b))
def qqs (b:ByteArray):AV:=.v (.c (.str b))
def hV (e:Nat)(t:Ty)(x:List t.D):AV:=.v (.c (.ro false e t x))
def aq {f : FuncId} {a : Func} (l : List (Nat × Any)) (e : ym Tryz.prog TB l) (h : Tryz.prog.funcs[f]? = some a) (H : Nat → Option Hint) {b d : List (Ty × Bool)} {m : Nat} {g : Args b → Option (Args d)} (c : (a.name == "runtime.NumGoroutine" || a.body.isNone, fun x => bj l F0 H a b d m x) = (false, g)) : a1 f (.one ⟨b, d, m, g⟩) :=
 ok1 e h (ajU.1 (PQ c).1).1 (ajU.1 (PQ c).1).2 H (PQ c).2
def aB3 {f : FuncId} {a : Func} (l : List (Nat × Any)) (h : ym Tryz.prog TB l) (j : Tryz.prog.funcs[f]? = some a) (H : Nat → Option Hint) {b d : List (Ty × Bool)} {i m : Nat} {e : PM} {g : Args b → Option (Args d × Args [])} (c : (a.name == "runtime.NumGoroutine" || a.body.isNone, fun x => Fl l F0 H a b i e d [] m x) = (false, g)) : a1 f (.two ⟨b, i, e, d, m, [], g⟩) :=
 ok2 h j (ajU.1 (PQ c).1).1 (ajU.1 (PQ c).1).2 H (PQ c).2
def Wt {f : FuncId} {c : Func} (l : List (Nat × Any)) (h : ym Tryz.prog TB l) (j : Tryz.prog.funcs[f]? = some c) (H : Nat → Option Hint) {a d : List (Ty × Bool)} {i m : Nat} {e : PM} {p : Ty × Bool} {g : Args a → Option (Args d × Args [p])} (b : (nz a i, c.name == "runtime.NumGoroutine" || c.body.isNone, fun x => Fl l F0 H c a i e d [p] m x) = (some p, false, g)) : a1 f (.two ⟨a, i, e, d, m, [p], g⟩) :=
 ok3 h j (ajU.1 (PQ (PQ b).2).1).1 (ajU.1 (PQ (PQ b).2).1).2 H (PQ b).1 (PQ (PQ b).2).2
end
noncomputable section
variable {U:Type} (F:p5) (J:Ex->St->Option U) (n:Nat)
abbrev aO:List (Ty×Bool):=[(.bool,false)]
abbrev lF:List (Ty×Bool):=[(.sl 5 (.int .u8),false)]
def Fm (a:List Int):=bj aA F ad f6 lF aO 1 (a,())
def aze (a:List Int):Fm F a=some (decide ((a.length:Int)>1048576),()):=by kernel_rfl
def awC:Any:=.one ⟨lF,aO,1,fun x=>Fm F0 x.1⟩
def azf:a1 6 awC:=aq aA trivial func6 ad (by kernel_rfl)
def Is:Nat->Option Hint:=look [(3,{live:=[0,3,4],xl:=[0,3],rl:=[2]})]
def yp (a:List Int)(h i:Int)(p:List Int):St:={nt:=32,tm:=[(0,hV 5 (.int .u8) a),(3,a8 h),(4,a8 i)],bx:=[],bl:=[],sp:=hV 5 (.int .u8) p}
def Gu (a:List Int)(h:Int)(p:List Int):St:={nt:=32,tm:=[(0,hV 5 (.int .u8) a),(3,a8 h)],bx:=[],bl:=[],sp:=hV 5 (.int .u8) p}
def It (a:St):Option U:=ff aA F Is [.r,.r,.l,.r,.b,.i] f22 J n a
abbrev jR:List (Ty×Bool):=[(K2,true)]
def Kv:=azd aA F Is [.r,.r,.l,.r,.b] f22 .rd jR [] 5
def MR (a:List Int)(h i:Int)(p:List Int):It F J (n+1) (yp a h i p)=br (decide (i<(a.length:Int))) (br (decide (i<4000)) (ck (bG i (a.length:Int)) (It F J n (yp a (aj (((BitVec.ofInt 64 (aj ((aj ((aj (h*131))+(aj (aI a i 0))))+7)) &&& BitVec.ofInt 64 1073741823).toNat:Int))) (aj (i+1)) p))) (J (.exit 0) (Gu a h p))) (J (.exit 0) (Gu a h p)):=by kernel_rfl
def P6 (a:List Int)(h:Int)(p:List Int):Kv F (.exit 0) (Gu a h p)=some (((a,0,h),()),()):=by kernel_rfl
def Kw (a:List Int):=Fl aA F Is f22 lF 0 .rd jR [] 5 (a,())
def asO (a:List Int):Kw F a=It F (Kv F) F.n (yp a (aj (26583+(a.length:Int))) 0 a):=by kernel_rfl
def Wu:Any:=.two ⟨lF,0,.rd,jR,5,[],fun x=>Kw F0 x.1⟩
def asP:a1 22 Wu:=aB3 aA trivial func22 Is (by kernel_rfl)
abbrev cE:List (Ty×Bool):=[(.int .i64,false)]
def kQ (c:D2):=Fl aA F ad f65 jR 0 .cur cE jR 1 (c,())
def aoG (c:D2):kQ F c=br (decide (c.2.1<(c.1.length:Int))) (ck (bG c.2.1 (c.1.length:Int)) (some ((aj (((BitVec.ofInt 64 (aj ((aj (((BitVec.ofInt 64 (aj (((BitVec.ofInt 64 (Int.fdiv (aj ((aj (c.2.2*6364136223846793005))+1442695040888963407)) (2 ^ (min (33:Int).toNat 64))) ^^^ BitVec.ofInt 64 (Int.fdiv (aj ((aj (c.2.2*6364136223846793005))+1442695040888963407)) (2 ^ (min (45:Int).toNat 64)))).toNat:Int))) &&& BitVec.ofInt 64 255).toNat:Int)))+(aj (aI c.1 c.2.1 0)))) &&& BitVec.ofInt 64 255).toNat:Int)),()),(c.1,aj (c.2.1+1),aj ((aj (c.2.2*6364136223846793005))+1442695040888963407)),()))) (some ((aj (((BitVec.ofInt 64 (aj (((BitVec.ofInt 64 (Int.fdiv (aj ((aj (c.2.2*6364136223846793005))+1442695040888963407)) (2 ^ (min (33:Int).toNat 64))) ^^^ BitVec.ofInt 64 (Int.fdiv (aj ((aj (c.2.2*6364136223846793005))+1442695040888963407)) (2 ^ (min (45:Int).toNat 64)))).toNat:Int))) &&& BitVec.ofInt 64 255).toNat:Int)),()),(c.1,c.2.1,aj ((aj (c.2.2*6364136223846793005))+1442695040888963407)),())):=by kernel_rfl
def Tz:Any:=.two ⟨jR,0,.cur,cE,1,jR,fun x=>kQ F0 x.1⟩
def aoH:a1 65 Tz:=Wt aA trivial func65 ad (by kernel_rfl)
def Wv:=[(65,Tz)]
abbrev aDZ:List (Ty×Bool):=[(K2,true),(.int .i64,false)]
def av (c:D2)(a:Int):=Fl Wv F ad f25 aDZ 0 .cur cE jR 1 (c,a,())
def TA (c:D2)(a:Int):av F c a=br (decide (a<=0)) (some ((0,()),c,())) (br (decide (a<=256)) ((kQ F0 c).bind fun b=>ck (!(a==0)) (some ((Int.tmod b.1.1 a,()),b.2.1,()))) ((kQ F0 c).bind fun d=>(kQ F0 d.2.1).bind fun e=>(kQ F0 e.2.1).bind fun f=>(kQ F0 f.2.1).bind fun g=>ck (!(a==0)) (some ((Int.tmod (aj ((aj ((aj ((aj (d.1.1*16777216))+(aj (e.1.1*65536))))+(aj (f.1.1*256))))+g.1.1)) a,()),g.2.1,())))):=by kernel_rfl
def eh:Any:=.two ⟨aDZ,0,.cur,cE,1,jR,fun x=>av F0 x.1 x.2.1⟩
def fW:a1 25 eh:=Wt Wv ⟨aoH,trivial⟩ func25 ad (by kernel_rfl)
def P7:=[(25,eh)]
abbrev aHo:List (Ty×Bool):=[(K2,true),(.sl 3 (.int .i64),false)]
def jS (c:D2)(a:List Int):=Fl P7 F ad f62 aHo 0 .cur cE jR 1 (c,a,())
def aeG (c:D2)(a:List Int):jS F c a=(av F0 c (a.length:Int)).bind fun b=>ck (bG b.1.1 (a.length:Int)) (some ((aI a b.1.1 0,()),b.2.1,())):=by kernel_rfl
def nC:Any:=.two ⟨aHo,0,.cur,cE,1,jR,fun x=>jS F0 x.1 x.2.1⟩
def yq:a1 62 nC:=Wt P7 ⟨fW,trivial⟩ func62 ad (by kernel_rfl)
def aaB:=[(25,eh)]
def nm (c:D2)(a:Int):=Fl aaB F ad f63 aDZ 0 .cur aO jR 1 (c,a,())
def aoI (c:D2)(a:Int):nm F c a=(av F0 c a).bind fun b=>some ((b.1.1==0,()),b.2.1,()):=by kernel_rfl
def ou:Any:=.two ⟨aDZ,0,.cur,aO,1,jR,fun x=>nm F0 x.1 x.2.1⟩
def yr:a1 63 ou:=Wt aaB ⟨fW,trivial⟩ func63 ad (by kernel_rfl)
abbrev aD0:List (Ty×Bool):=[(.int .i64,false),(.int .i64,false),(.int .i64,false)]
def bN (x a b:Int):=bj aA F ad f73 aD0 aO 1 (x,a,b,())
def awD (x a b:Int):bN F x a b=br (decide (x>=a)) (some (decide (x<=b),())) (some (false,())):=by kernel_rfl
def b7:Any:=.one ⟨aD0,aO,1,fun x=>bN F0 x.1 x.2.1 x.2.2.1⟩
def cz:a1 73 b7:=aq aA trivial func73 ad (by kernel_rfl)
def aaC:=[(73,b7)]
abbrev TC:List (Ty×Bool):=[(K1,true)]
def dJ (c:D1):=bj aaC F ad f32 TC aO 1 (c,())
def aoJ (c:D1):dJ F c=(bN F0 c.1 4 7).bind fun a=>br a.1 ((bN F0 c.2 1 6).bind fun b=>some (b.1,())) (some (false,())):=by kernel_rfl
def cx:Any:=.one ⟨TC,aO,1,fun x=>dJ F0 x.1⟩
def de:a1 32 cx:=aq aaC ⟨cz,trivial⟩ func32 ad (by kernel_rfl)
def Iu:Nat->Option Hint:=look [(4,{live:=[0,1,5,6,7],xl:=[5],rl:=[4]})]
def l6 (s:ByteArray)(a b i:Int)(c:List ByteArray):= cQ 36 [(0,qqs s),(1,.v (.c (.int .u8 a))),(5,.v (.c (.own 1000000 none))),(6,a8 b),(7,a8 i)] [] [ay 1000000 9 (.str) c]
def TD (a:List ByteArray):= cQ 36 [(5,.v (.c (.own 1000000 none)))] [] [ay 1000000 9 (.str) a]
def rS (a:St):Option U:=ff aA F Iu [.r,.r,.r,.l,.r,.b,.i] f218 J n a
abbrev azg:List (Ty×Bool):=[(.sl 9 (.str),false)]
def Kx:=hQ aA F Iu [.r,.r,.r,.l,.r,.b] f218 azg 2
def MS (s:ByteArray)(c a i:Int)(b:List ByteArray):rS F J (n+1) (l6 s c a i b)=br (decide (i<=(s.size:Int))) (br (i==(s.size:Int)) (ck (Tx a i (s.size:Int)) (ck (ep F b.length [s.extract a.toNat i.toNat].length 16) (rS F J n (l6 s c (aj (i+1)) (aj (i+1)) (b++[s.extract a.toNat i.toNat]))))) (ck (bG i (s.size:Int)) (br ((jP s i)==c) (ck (Tx a i (s.size:Int)) (ck (ep F b.length [s.extract a.toNat i.toNat].length 16) (rS F J n (l6 s c (aj (i+1)) (aj (i+1)) (b++[s.extract a.toNat i.toNat]))))) (rS F J n (l6 s c a (aj (i+1)) b))))) (J (.exit 0) (TD b)):=by kernel_rfl
def ahC (a:List ByteArray):Kx F (.exit 0) (TD a)=some (a,()):=by kernel_rfl
abbrev aaD:List (Ty×Bool):=[(.str,false),(.int .u8,false)]
def wi (s:ByteArray)(a:Int):=bj aA F Iu f218 aaD azg 2 (s,a,())
def asQ (s:ByteArray)(a:Int):wi F s a=rS F (Kx F) F.n (l6 s a 0 0 []):=by kernel_rfl
def Ky:Any:=.one ⟨aaD,azg,2,fun x=>wi F0 x.1 x.2.1⟩
def aaE:a1 218 Ky:=aq aA trivial func218 Iu (by kernel_rfl)
def Iv:Nat->Option Hint:=look [(2,{live:=[0,1,7],rl:=[4,5,6]})]
def yt (s:ByteArray)(a i:Int):= bP 26 [(0,qqs s),(1,.v (.c (.int .u8 a))),(7,a8 i)]
def Ww (a b:ByteArray)(c:Bool):= bP 26 [(4,qqs a),(5,qqs b),(6,Ir c)]
def TE   := bP 26 []
def Iw (a:St):Option U:=ff aA F Iv [.r,.l,.r,.b,.i] f219 J n a
abbrev aHp:List (Ty×Bool):=[(.str,false),(.str,false),(.bool,false)]
def yu:=hQ aA F Iv [.r,.l,.r,.b] f219 aHp 1
def MT (s:ByteArray)(a i:Int):Iw F J (n+1) (yt s a i)=br (decide (i<(s.size:Int))) (ck (bG i (s.size:Int)) (br ((jP s i)==a) (ck (Tx 0 i (s.size:Int)) (ck (Tx (aj (i+1)) (s.size:Int) (s.size:Int)) (J .ret (Ww (s.extract (0:Int).toNat i.toNat) (s.extract (aj (i+1)).toNat (s.size:Int).toNat) true)))) (Iw F J n (yt s a (aj (i+1)))))) (J (.exit 0) (TE)):=by kernel_rfl
def alB (a b:ByteArray)(c:Bool):yu F .ret (Ww a b c)=some (a,b,c,()):=by kernel_rfl
def ahD: yu F (.exit 0) (TE)=some (ak,ak,false,()):=by kernel_rfl
def ih (s:ByteArray)(a:Int):=bj aA F Iv f219 aaD aHp 1 (s,a,())
def asR (s:ByteArray)(a:Int):ih F s a=Iw F (yu F) F.n (yt s a 0):=by kernel_rfl
def Kz:Any:=.one ⟨aaD,aHp,1,fun x=>ih F0 x.1 x.2.1⟩
def aaF:a1 219 Kz:=aq aA trivial func219 Iv (by kernel_rfl)
def Dx:Nat->Option Hint:=look [(5,{live:=[0,3,4],xl:=[3,4],rl:=[2]})]
def ov (a:Int)(b:Bool)(c:ByteArray):= bP 31 [(0,a8 a),(3,Ir b),(4,qqs c)]
def P8 (a:Bool)(b:ByteArray):= bP 31 [(3,Ir a),(4,qqs b)]
def tQ (a:St):Option U:=ff aA F Dx [.r,.r,.r,.r,.l,.b,.i] f254 J n a
abbrev dC:List (Ty×Bool):=[(.str,false)]
def Gv:=hQ aA F Dx [.r,.r,.r,.r,.l,.b] f254 dC 1
def KA (a:Int)(c:Bool)(b:ByteArray):tQ F J (n+1) (ov a c b)=br (a != 0) (br (decide ((Int.tmod a 10)<0)) (ck (Vo F (strOf [IntKind.wrap .u8 (aj (48+(aj (0-(Int.tmod a 10)))))]).size b.size) (tQ F J n (ov (aj (Int.tdiv a 10)) c ((strOf [IntKind.wrap .u8 (aj (48+(aj (0-(Int.tmod a 10)))))])++b)))) (ck (Vo F (strOf [IntKind.wrap .u8 (aj (48+(Int.tmod a 10)))]).size b.size) (tQ F J n (ov (aj (Int.tdiv a 10)) c ((strOf [IntKind.wrap .u8 (aj (48+(Int.tmod a 10)))])++b))))) (J (.exit 0) (P8 c b)):=by kernel_rfl
def aeH (b:Bool)(a:ByteArray):Gv F (.exit 0) (P8 b a)=br b (ck (Vo F (ByteArray.mk #[45]).size a.size) (some ((ByteArray.mk #[45])++a,()))) (some (a,())):=by kernel_rfl
def kR (a:Int):=bj aA F Dx f254 cE dC 1 (a,())
def aoK (a:Int):kR F a=br (a==0) (some (ByteArray.mk #[48],())) (tQ F (Gv F) F.n (ov a (decide (a<0)) ak)):=by kernel_rfl
def ux:Any:=.one ⟨cE,dC,1,fun x=>kR F0 x.1⟩
def KB:a1 254 ux:=aq aA trivial func254 Dx (by kernel_rfl)
def Dy:=[(254,ux)]
def Dz:Nat->Option Hint:=look [(5,{live:=[0,4,5],xl:=[0,4],rl:=[2,3]})]
def uy (s:ByteArray)(a i:Int):= bP 43 [(0,qqs s),(4,a8 a),(5,a8 i)]
def Gw (a:Int)(b:Bool):= bP 43 [(2,a8 a),(3,Ir b)]
def P9 (s:ByteArray)(a:Int):= bP 43 [(0,qqs s),(4,a8 a)]
def DA (a:St):Option U:=ff Dy F Dz [.r,.r,.r,.l,.r,.b,.i] f220 J n a
abbrev auv:List (Ty×Bool):=[(.int .i64,false),(.bool,false)]
def uz:=hQ Dy F Dz [.r,.r,.r,.l,.r,.b] f220 auv 1
def KC (s:ByteArray)(a i:Int):DA F J (n+1) (uy s a i)=br (decide (i<(s.size:Int))) (ck (bG i (s.size:Int)) (br (decide ((jP s i)<48)) (J .ret (Gw 0 false)) (ck (bG i (s.size:Int)) (br (decide ((jP s i)>57)) (J .ret (Gw 0 false)) (ck (bG i (s.size:Int)) (DA F J n (uy s (aj ((aj ((aj (10*a))+(aj (jP s i))))-48)) (aj (i+1))))))))) (J (.exit 0) (P9 s a)):=by kernel_rfl
def ahE (a:Int)(b:Bool):uz F .ret (Gw a b)=some (a,b,()):=by kernel_rfl
def aeI (s:ByteArray)(a:Int):uz F (.exit 0) (P9 s a)=(kR F0 a).bind fun b=>br (!(b.1.toList==s.toList)) (some (0,false,())) (some (a,true,())):=by kernel_rfl
def nn (s:ByteArray):=bj Dy F Dz f220 dC auv 1 (s,())
def aoL (s:ByteArray):nn F s=br (decide ((s.size:Int)<1)) (some (0,false,())) (br (decide ((s.size:Int)>6)) (some (0,false,())) (DA F (uz F) F.n (uy s 0 0))):=by kernel_rfl
def Gx:Any:=.one ⟨dC,auv,1,fun x=>nn F0 x.1⟩
def Wx:a1 220 Gx:=aq Dy ⟨KB,trivial⟩ func220 Dz (by kernel_rfl)
def akg:=[(73,b7)]
abbrev aaG:List (Ty×Bool):=[(K4,true)]
def rT (x:D4):=bj akg F ad f211 aaG aO 1 (x,())
def awE (x:D4):rT F x=(bN F0 x.1 0 3).bind fun a=>br a.1 ((bN F0 x.2.1 0 3).bind fun b=>br b.1 ((bN F0 x.2.2.1 0 1000).bind fun c=>br c.1 ((bN F0 x.2.2.2 0 99).bind fun d=>some (d.1,())) (some (false,()))) (some (false,()))) (some (false,())):=by kernel_rfl
def lG:Any:=.one ⟨aaG,aO,1,fun x=>rT F0 x.1⟩
def rU:a1 211 lG:=aq akg ⟨cz,trivial⟩ func211 ad (by kernel_rfl)
def aaH:=[(211,lG),(254,ux)]
def wZ (x:D4):=bj aaH F ad f295 aaG dC 1 (x,())
def aoM (x:D4):wZ F x=(rT F0 x).bind fun e=>br (!e.1) (some (ak,())) ((kR F0 x.1).bind fun a=>ck (Vo F a.1.size (ByteArray.mk #[62]).size) ((kR F0 x.2.1).bind fun b=>ck (Vo F (a.1++(ByteArray.mk #[62])).size b.1.size) (ck (Vo F ((a.1++(ByteArray.mk #[62]))++b.1).size (ByteArray.mk #[58]).size) ((kR F0 x.2.2.1).bind fun c=>ck (Vo F (((a.1++(ByteArray.mk #[62]))++b.1)++(ByteArray.mk #[58])).size c.1.size) (ck (Vo F ((((a.1++(ByteArray.mk #[62]))++b.1)++(ByteArray.mk #[58]))++c.1).size (ByteArray.mk #[35]).size) ((kR F0 x.2.2.2).bind fun d=>ck (Vo F (((((a.1++(ByteArray.mk #[62]))++b.1)++(ByteArray.mk #[58]))++c.1)++(ByteArray.mk #[35])).size d.1.size) (some ((((((a.1++(ByteArray.mk #[62]))++b.1)++(ByteArray.mk #[58]))++c.1)++(ByteArray.mk #[35]))++d.1,())))))))):=by kernel_rfl
def Gy:Any:=.one ⟨aaG,dC,1,fun x=>wZ F0 x.1⟩
def Wy:a1 295 Gy:=aq aaH ⟨rU,KB,trivial⟩ func295 ad (by kernel_rfl)
def akh:=[(219,Kz),(220,Gx),(295,Gy)]
abbrev aD1:List (Ty×Bool):=[(K4,true),(.bool,false)]
def Za (s:ByteArray):=bj akh F ad f271 dC aD1 1 (s,())
def awF (s:ByteArray):Za F s=(ih F0 s 62).bind fun a=>(ih F0 a.2.1 58).bind fun b=>(ih F0 b.2.1 35).bind fun c=>(nn F0 a.1).bind fun d=>(nn F0 b.1).bind fun e=>(nn F0 c.1).bind fun f=>(nn F0 c.2.1).bind fun g=>br (s.toList==ak.toList) (some ((0,0,0,0),false,())) ((wZ F0 (d.1,e.1,f.1,g.1)).bind fun h=>br (!(h.1.toList==s.toList)) (some ((0,0,0,0),false,())) (some ((d.1,e.1,f.1,g.1),true,()))):=by kernel_rfl
def aaI:Any:=.one ⟨dC,aD1,1,fun x=>Za F0 x.1⟩
def awG:a1 271 aaI:=aq akh ⟨aaF,Wx,Wy,trivial⟩ func271 ad (by kernel_rfl)
def Ix:=[(218,Ky),(271,aaI)]
def Iy:Nat->Option Hint:=look [(6,{live:=[4,5,6],xl:=[4],rl:=[2,3]})]
def yv (i:Int)(b:List D4)(a:List ByteArray):= cQ 37 [(4,.v (.c (.own 1000000 none))),(5,.v (.c (.own 1000001 none))),(6,a8 i)] [] [ay 1000000 52 K4 b,ay 1000001 9 (.str) a]
def Wz (a:Bool)(b:List D4):= cQ 37 [(2,.v (.c (.own 1000000 none))),(3,Ir a)] [] [ay 1000000 52 K4 b]
def TF (a:List D4):= cQ 37 [(4,.v (.c (.own 1000000 none)))] [] [ay 1000000 52 K4 a]
def Iz (a:St):Option U:=ff Ix F Iy [.r,.r,.r,.r,.l,.r,.b,.i] f221 J n a
abbrev WA:List (Ty×Bool):=[(K5,false),(.bool,false)]
def yw:=hQ Ix F Iy [.r,.r,.r,.r,.l,.r,.b] f221 WA 2
def MU (i:Int)(b:List D4)(a:List ByteArray):Iz F J (n+1) (yv i b a)=br (decide (i<(a.length:Int))) (ck (bG i (a.length:Int)) ((Za F0 (aI a i ByteArray.empty)).bind fun c=>br (!c.2.1) (J .ret (Wz false [])) (ck (ep F b.length [c.1].length 32) (Iz F J n (yv (aj (i+1)) (b++[c.1]) a))))) (J (.exit 0) (TF b)):=by kernel_rfl
def alC (a:Bool)(b:List D4):yw F .ret (Wz a b)=some (b,a,()):=by kernel_rfl
def ahF (a:List D4):yw F (.exit 0) (TF a)=some (a,true,()):=by kernel_rfl
def Cq (s:ByteArray):=bj Ix F Iy f221 dC WA 2 (s,())
def asS (s:ByteArray):Cq F s=br (s.toList==ak.toList) (some ([],true,())) ((wi F0 s 44).bind fun a=>Iz F (yw F) F.n (yv 0 [] a.1)):=by kernel_rfl
def WB:Any:=.one ⟨dC,WA,2,fun x=>Cq F0 x.1⟩
def asT:a1 221 WB:=aq Ix ⟨aaE,awG,trivial⟩ func221 Iy (by kernel_rfl)
def IA:=[(218,Ky),(219,Kz),(220,Gx),(221,WB)]
def IB:Nat->Option Hint:=look [(10,{live:=[4,5,6,7,8],xl:=[5],rl:=[2,3]})]
def yx (c i:Int)(d a:List D6)(b:List ByteArray):= cQ 91 [(4,.v (.c (.own 1000000 none))),(5,.v (.c (.own 1000001 none))),(6,.v (.c (.own 1000002 none))),(7,a8 c),(8,a8 i)] [] [ay 1000000 157 K6 d,ay 1000001 157 K6 a,ay 1000002 9 (.str) b]
def jT (a:Bool)(b:List D6):= cQ 91 [(2,.v (.c (.own 1000000 none))),(3,Ir a)] [] [ay 1000000 157 K6 b]
def TG (a:List D6):= cQ 91 [(5,.v (.c (.own 1000000 none)))] [] [ay 1000000 157 K6 a]
def IC (a:St):Option U:=ff IA F IB [.r,.r,.r,.r,.r,.r,.r,.l,.r,.b,.i] f150 J n a
abbrev auw:List (Ty×Bool):=[(K7,false),(.bool,false)]
def yy:=hQ IA F IB [.r,.r,.r,.r,.r,.r,.r,.l,.r,.b] f150 auw 2
def MV (g i:Int)(a d:List D6)(c:List ByteArray):IC F J (n+1) (yx g i a d c)=br (decide (i<(c.length:Int))) (ck (bG i (c.length:Int)) ((ih F0 (aI c i ByteArray.empty) 124).bind fun f=>(nn F0 f.1).bind fun b=>(Cq F0 f.2.1).bind fun e=>br (!f.2.2.1) (J .ret (jT false a)) (br (!b.2.1) (J .ret (jT false a)) (br (!e.2.1) (J .ret (jT false a)) (br (decide (b.1<=g)) (J .ret (jT false a)) (br (decide (b.1>60)) (J .ret (jT false a)) (br (decide ((e.1.length:Int)>2)) (J .ret (jT false a)) (ck (ep F d.length [(b.1,e.1)].length 32) (IC F J n (yx b.1 (aj (i+1)) a (d++[(b.1,e.1)]) c)))))))))) (J (.exit 0) (TG d)):=by kernel_rfl
def TH (a:Bool)(b:List D6):yy F .ret (jT a b)=some (b,a,()):=by kernel_rfl
def ahG (a:List D6):yy F (.exit 0) (TG a)=some (a,true,()):=by kernel_rfl
def qa (s:ByteArray):=bj IA F IB f150 dC auw 2 (s,())
def asU (s:ByteArray):qa F s=br (s.toList==ak.toList) (some ([],true,())) ((wi F0 s 47).bind fun a=>ck (bG 0 (a.1.length:Int)) (br (!((aI a.1 0 ByteArray.empty).toList==ak.toList)) (some ([],false,())) (br (decide ((a.1.length:Int)>31)) (some ([],false,())) (IC F (yy F) F.n (yx 0 1 [] [] a.1))))):=by kernel_rfl
def qb:Any:=.one ⟨dC,auw,2,fun x=>qa F0 x.1⟩
def DB:a1 150 qb:=aq IA ⟨aaE,aaF,Wx,asT,trivial⟩ func150 IB (by kernel_rfl)
def aaJ:=[(150,qb)]
def e6 (s:ByteArray):=bj aaJ F ad f78 dC aO 1 (s,())
def aoN (s:ByteArray):e6 F s=(qa F0 s).bind fun a=>some (a.2.1,()):=by kernel_rfl
def eQ:Any:=.one ⟨dC,aO,1,fun x=>e6 F0 x.1⟩
def gW:a1 78 eQ:=aq aaJ ⟨DB,trivial⟩ func78 ad (by kernel_rfl)
def aaK:=[(150,qb)]
def dt (s:ByteArray):=bj aaK F ad f79 dC cE 1 (s,())
def aoO (s:ByteArray):dt F s=(qa F0 s).bind fun a=>br (!a.2.1) (some (0,())) (br ((a.1.length:Int)==0) (some (0,())) (ck (bG (aj ((a.1.length:Int)-1)) (a.1.length:Int)) (some ((aI a.1 (aj ((a.1.length:Int)-1)) (0,[])).1,())))):=by kernel_rfl
def df:Any:=.one ⟨dC,cE,1,fun x=>dt F0 x.1⟩
def eJ:a1 79 df:=aq aaK ⟨DB,trivial⟩ func79 ad (by kernel_rfl)
def ID:Nat->Option Hint:=look [(2,{live:=[0,1,5],rl:=[4]})]
def qc (a:Int)(s:List Int)(i:Int):= bP 41 [(0,a8 a),(1,hV 3 (.int .i64) s),(5,a8 i)]
def yz (a:Bool):= bP 41 [(4,Ir a)]
def TI   := bP 41 []
def yA (a:St):Option U:=ff aA F ID [.r,.l,.r,.b,.i] f75 J n a
def yB:=hQ aA F ID [.r,.l,.r,.b] f75 aO 1
def MW (a:Int)(s:List Int)(i:Int):yA F J (n+1) (qc a s i)=br (decide (i<(s.length:Int))) (ck (bG i (s.length:Int)) (br (decide ((aI s i 0)<0)) (J .ret (yz false)) (ck (bG i (s.length:Int)) (br (decide ((aI s i 0)>=a)) (J .ret (yz false)) (br (decide (i>0)) (ck (bG (aj (i-1)) (s.length:Int)) (ck (bG i (s.length:Int)) (br (decide ((aI s (aj (i-1)) 0)>=(aI s i 0))) (J .ret (yz false)) (yA F J n (qc a s (aj (i+1))))))) (yA F J n (qc a s (aj (i+1))))))))) (J (.exit 0) (TI)):=by kernel_rfl
def alD (a:Bool):yB F .ret (yz a)=some (a,()):=by kernel_rfl
def ahH: yB F (.exit 0) (TI)=some (true,()):=by kernel_rfl
abbrev aD2:List (Ty×Bool):=[(.int .i64,false),(.sl 3 (.int .i64),false)]
def Cr (a:Int)(s:List Int):=bj aA F ID f75 aD2 aO 1 (a,s,())
def asV (a:Int)(s:List Int):Cr F a s=yA F (yB F) F.n (qc a s 0):=by kernel_rfl
def yC:Any:=.one ⟨aD2,aO,1,fun x=>Cr F0 x.1 x.2.1⟩
def Pp:a1 75 yC:=aq aA trivial func75 ID (by kernel_rfl)
def aaL:=[(32,cx)]
def w2 (c:D1):=bj aaL F ad f127 TC cE 1 (c,())
def aoP (c:D1):w2 F c=(dJ F0 c).bind fun a=>br (!a.1) (some (0,())) (some (aj (c.1-(aj (Int.tdiv (aj (c.1-1)) 3))),())):=by kernel_rfl
def uA:Any:=.one ⟨TC,cE,1,fun x=>w2 F0 x.1⟩
def KD:a1 127 uA:=aq aaL ⟨de,trivial⟩ func127 ad (by kernel_rfl)
def aki:=[(32,cx),(75,yC),(78,eQ),(79,df),(127,uA)]
abbrev Hj:List (Ty×Bool):=[(K1,true),(K9,true)]
def ky (c:D1)(q:D9):=bj aki F ad f134 Hj aO 1 (c,q,())
def awH (c:D1)(q:D9):ky F c q=(dJ F0 c).bind fun a=>br (!a.1) (some (false,())) ((e6 F0 q.2.1).bind fun b=>br (!b.1) (some (false,())) ((dt F0 q.2.1).bind fun d=>br (d.1 != q.1) (some (false,())) (br (q.2.1.toList==ak.toList) (some ((q.2.2.length:Int)==0,())) ((Cr F0 c.1 q.2.2).bind fun e=>br e.1 ((w2 F0 c).bind fun f=>some (decide ((q.2.2.length:Int)>=f.1),())) (some (false,())))))):=by kernel_rfl
def gG:Any:=.one ⟨Hj,aO,1,fun x=>ky F0 x.1 x.2.1⟩
def kS:a1 134 gG:=aq aki ⟨de,Pp,gW,eJ,KD,trivial⟩ func134 ad (by kernel_rfl)
def aaM:=[(73,b7),(78,eQ),(134,gG)]
abbrev TJ:List (Ty×Bool):=[(K1,true),(K12,true)]
def jv (c:D1)(s:Vt):=bj aaM F ad f141 TJ aO 1 (c,s,())
def aoQ (c:D1)(s:Vt):jv F c s=(bN F0 s.1 0 60).bind fun a=>br a.1 ((bN F0 s.2.1 0 60).bind fun b=>br b.1 ((ky F0 c s.2.2.1).bind fun d=>br d.1 ((e6 F0 s.2.2.2).bind fun e=>some (e.1,())) (some (false,()))) (some (false,()))) (some (false,())):=by kernel_rfl
def ij:Any:=.one ⟨TJ,aO,1,fun x=>jv F0 x.1 x.2.1⟩
def l7:a1 141 ij:=aq aaM ⟨cz,gW,kS,trivial⟩ func141 ad (by kernel_rfl)
abbrev aD3:List (Ty×Bool):=[(K4,true),(K4,true)]
def tR (a b:D4):=bj aA F ad f212 aD3 aO 1 (a,b,())
def ahI (a b:D4):tR F a b=br (decide (a.1<b.1)) (some (true,())) (br (a.1==b.1) (some (decide (a.2.2.2<b.2.2.2),())) (some (false,()))):=by kernel_rfl
def yD:Any:=.one ⟨aD3,aO,1,fun x=>tR F0 x.1 x.2.1⟩
def Qa:a1 212 yD:=aq aA trivial func212 ad (by kernel_rfl)
def DC:=[(211,lG),(212,yD)]
def DD:Nat->Option Hint:=look [(2,{live:=[0,3],xl:=[0],rl:=[2]})]
def ow (p:List D4)(i:Int):= bP 36 [(0,hV 52 (K4) p),(3,a8 i)]
def Gz (a:Bool):= bP 36 [(2,Ir a)]
def Qb (p:List D4):= bP 36 [(0,hV 52 (K4) p)]
def tS (a:St):Option U:=ff DC F DD [.r,.l,.r,.b,.i] f142 J n a
def uB:=hQ DC F DD [.r,.l,.r,.b] f142 aO 1
def KE (p:List D4)(i:Int):tS F J (n+1) (ow p i)=br (decide (i<(p.length:Int))) (ck (bG i (p.length:Int)) ((rT F0 (aI p i K4.az)).bind fun a=>br (!a.1) (J .ret (Gz false)) (br (decide (i>0)) (ck (bG (aj (i-1)) (p.length:Int)) (ck (bG i (p.length:Int)) ((tR F0 (aI p (aj (i-1)) K4.az) (aI p i K4.az)).bind fun b=>br (!b.1) (J .ret (Gz false)) (tS F J n (ow p (aj (i+1))))))) (tS F J n (ow p (aj (i+1))))))) (J (.exit 0) (Qb p)):=by kernel_rfl
def ahJ (a:Bool):uB F .ret (Gz a)=some (a,()):=by kernel_rfl
def aeJ (p:List D4):uB F (.exit 0) (Qb p)=some (decide ((p.length:Int)<=12),()):=by kernel_rfl
abbrev km:List (Ty×Bool):=[(K5,false)]
def Fo (p:D5):=bj DC F DD f142 km aO 1 (p,())
def aoR (p:D5):Fo F p=tS F (uB F) F.n (ow p 0):=by kernel_rfl
def GA:Any:=.one ⟨km,aO,1,fun x=>Fo F0 x.1⟩
def WC:a1 142 GA:=aq DC ⟨rU,Qa,trivial⟩ func142 DD (by kernel_rfl)
def aaN:=[(32,cx),(73,b7),(75,yC),(78,eQ),(79,df)]
def kT (c:D1)(p:D9):=bj aaN F ad f213 Hj aO 1 (c,p,())
def aoS (c:D1)(p:D9):kT F c p=(dJ F0 c).bind fun a=>br (!a.1) (some (false,())) ((bN F0 p.1 1 60).bind fun b=>br (!b.1) (some (false,())) ((Cr F0 c.1 p.2.2).bind fun d=>br (!d.1) (some (false,())) (br ((p.2.2.length:Int)==0) (some (false,())) (br (p.2.1.toList==ak.toList) (some (true,())) ((e6 F0 p.2.1).bind fun e=>br e.1 ((dt F0 p.2.1).bind fun f=>some (f.1==p.1,())) (some (false,()))))))):=by kernel_rfl
def oy:Any:=.one ⟨Hj,aO,1,fun x=>kT F0 x.1 x.2.1⟩
def yE:a1 213 oy:=aq aaN ⟨de,cz,Pp,gW,eJ,trivial⟩ func213 ad (by kernel_rfl)
abbrev w3:List (Ty×Bool):=[(K9,true),(K9,true)]
def qJ (a b:D9):=bj aA F ad f214 w3 aO 1 (a,b,())
def aeK (a b:D9):qJ F a b=br (decide (a.1<b.1)) (some (true,())) (br (a.1==b.1) (some (Op.bytesLess a.2.1.toList b.2.1.toList,())) (some (false,()))):=by kernel_rfl
def wj:Any:=.one ⟨w3,aO,1,fun x=>qJ F0 x.1 x.2.1⟩
def MX:a1 214 wj:=aq aA trivial func214 ad (by kernel_rfl)
def yF:=[(213,oy),(214,wj)]
def yG:Nat->Option Hint:=look [(2,{live:=[1,2,5],xl:=[1],rl:=[4]})]
def l8 (b:List D9)(i c a:Int):= cQ 39 [(1,hV 50 (K9) b),b0 2,(5,a8 i)] [(2,[ao c,ao a])] []
def Cs (a:Bool):= bP 39 [(4,Ir a)]
def MY (a:List D9):= bP 39 [(1,hV 50 (K9) a)]
def qU (a:St):Option U:=ff yF F yG [.r,.l,.r,.b,.i] f143 J n a
def rV:=hQ yF F yG [.r,.l,.r,.b] f143 aO 1
def Hk (a:List D9)(i c b:Int):qU F J (n+1) (l8 a i c b)=br (decide (i<(a.length:Int))) (ck (bG i (a.length:Int)) ((kT F0 (c,b) (aI a i K9.az)).bind fun d=>br (!d.1) (J .ret (Cs false)) (br (decide (i>0)) (ck (bG (aj (i-1)) (a.length:Int)) (ck (bG i (a.length:Int)) ((qJ F0 (aI a (aj (i-1)) K9.az) (aI a i K9.az)).bind fun e=>br (!e.1) (J .ret (Cs false)) (qU F J n (l8 a (aj (i+1)) c b))))) (qU F J n (l8 a (aj (i+1)) c b))))) (J (.exit 0) (MY a)):=by kernel_rfl
def aeL (a:Bool):rV F .ret (Cs a)=some (a,()):=by kernel_rfl
def acI (a:List D9):rV F (.exit 0) (MY a)=some (decide ((a.length:Int)<=20),()):=by kernel_rfl
abbrev aD4:List (Ty×Bool):=[(K1,true),(K13,false)]
def nD (c:D1)(a:D13):=bj yF F yG f143 aD4 aO 1 (c,a,())
def alE (c:D1)(a:D13):nD F c a=qU F (rV F) F.n (l8 a 0 c.1 c.2):=by kernel_rfl
def Ct:Any:=.one ⟨aD4,aO,1,fun x=>nD F0 x.1 x.2.1⟩
def TK:a1 143 Ct:=aq yF ⟨yE,MX,trivial⟩ func143 yG (by kernel_rfl)
def aaO:=[(73,b7)]
abbrev po:List (Ty×Bool):=[(K14,true)]
def np (d:D14):=bj aaO F ad f144 po aO 1 (d,())
def aoT (d:D14):np F d=br (decide ((d.1.length:Int)<=100000)) ((bN F0 d.2 0 (d.1.length:Int)).bind fun a=>some (a.1,())) (some (false,())):=by kernel_rfl
def oz:Any:=.one ⟨po,aO,1,fun x=>np F0 x.1⟩
def yH:a1 144 oz:=aq aaO ⟨cz,trivial⟩ func144 ad (by kernel_rfl)
def DE:Nat->Option Hint:=look [(2,{live:=[0,1,5],xl:=[0,1],rl:=[4]})]
def uC (a b:List Int)(i:Int):= bP 32 [(0,hV 3 (.int .i64) a),(1,hV 3 (.int .i64) b),(5,a8 i)]
def TL (a:Bool):= bP 32 [(4,Ir a)]
def Cu (a b:List Int):= bP 32 [(0,hV 3 (.int .i64) a),(1,hV 3 (.int .i64) b)]
def DF (a:St):Option U:=ff aA F DE [.r,.l,.r,.b,.i] f348 J n a
def uD:=hQ aA F DE [.r,.l,.r,.b] f348 aO 1
def KF (a b:List Int)(i:Int):DF F J (n+1) (uC a b i)=br (decide (i<(a.length:Int))) (br (decide (i<(b.length:Int))) (ck (bG i (a.length:Int)) (ck (bG i (b.length:Int)) (br ((aI a i 0) != (aI b i 0)) (J .ret (TL false)) (DF F J n (uC a b (aj (i+1))))))) (J (.exit 0) (Cu a b))) (J (.exit 0) (Cu a b)):=by kernel_rfl
def ahK (a:Bool):uD F .ret (TL a)=some (a,()):=by kernel_rfl
def aeM (a b:List Int):uD F (.exit 0) (Cu a b)=some ((a.length:Int)==(b.length:Int),()):=by kernel_rfl
abbrev alF:List (Ty×Bool):=[(.sl 3 (.int .i64),false),(.sl 3 (.int .i64),false)]
def Fp (a b:List Int):=bj aA F DE f348 alF aO 1 (a,b,())
def aoU (a b:List Int):Fp F a b=DF F (uD F) F.n (uC a b 0):=by kernel_rfl
def GB:Any:=.one ⟨alF,aO,1,fun x=>Fp F0 x.1 x.2.1⟩
def WD:a1 348 GB:=aq aA trivial func348 DE (by kernel_rfl)
def aaP:=[(348,GB)]
def w4 (a b:D9):=bj aaP F ad f317 w3 aO 1 (a,b,())
def aoV (a b:D9):w4 F a b=br (a.1==b.1) (br (a.2.1.toList==b.2.1.toList) ((Fp F0 a.2.2 b.2.2).bind fun c=>some (c.1,())) (some (false,()))) (some (false,())):=by kernel_rfl
def uE:Any:=.one ⟨w3,aO,1,fun x=>w4 F0 x.1 x.2.1⟩
def KG:a1 317 uE:=aq aaP ⟨WD,trivial⟩ func317 ad (by kernel_rfl)
def Qc:=[(317,uE)]
abbrev aD5:List (Ty×Bool):=[(K15,true),(K15,true)]
def yI (a b:D15):=bj Qc F ad f315 aD5 aO 1 (a,b,())
def aeN (a b:D15):yI F a b=br (a.1.toList==b.1.toList) ((w4 F0 a.2 b.2).bind fun c=>some (c.1,())) (some (false,())):=by kernel_rfl
def KH:Any:=.one ⟨aD5,aO,1,fun x=>yI F0 x.1 x.2.1⟩
def aeO:a1 315 KH:=aq Qc ⟨KG,trivial⟩ func315 ad (by kernel_rfl)
def WE:=[(348,GB)]
def IE (a b:D9):=bj WE F ad f316 w3 aO 1 (a,b,())
def alG (a b:D9):IE F a b=br (a.1==b.1) (br (a.2.1.toList==b.2.1.toList) ((Fp F0 a.2.2 b.2.2).bind fun c=>some (c.1,())) (some (false,()))) (some (false,())):=by kernel_rfl
def Qd:Any:=.one ⟨w3,aO,1,fun x=>IE F0 x.1 x.2.1⟩
def alH:a1 316 Qd:=aq WE ⟨WD,trivial⟩ func316 ad (by kernel_rfl)
end
end Go.Am.Tryz
namespace Go.Am.Tryz
open Go.Am Go.Proofs Go.Proofs.Tryz
noncomputable section
variable {U:Type} (F:p5) (J:Ex->St->Option U) (n:Nat)
def WG:=[(315,KH),(316,Qd),(317,uE)]
abbrev aD6:List (Ty×Bool):=[(K21,true),(K21,true)]
def kU (a b:Po):=bj WG F ad f270 aD6 aO 1 (a,b,())
def alI (a b:Po):kU F a b=br (a.1==b.1) (br (a.2.1==b.2.1) ((yI F0 a.2.2.1 b.2.2.1).bind fun c=>br c.1 ((IE F0 a.2.2.2.1 b.2.2.2.1).bind fun d=>br d.1 ((w4 F0 a.2.2.2.2.1 b.2.2.2.2.1).bind fun e=>br e.1 (br (a.2.2.2.2.2.1==b.2.2.2.2.2.1) (some ((a.2.2.2.2.2.2.1==b.2.2.2.2.2.2.1)&&((a.2.2.2.2.2.2.2.1==b.2.2.2.2.2.2.2.1)&&((a.2.2.2.2.2.2.2.2.1==b.2.2.2.2.2.2.2.2.1)&&((a.2.2.2.2.2.2.2.2.2==b.2.2.2.2.2.2.2.2.2)&&true))),())) (some (false,()))) (some (false,()))) (some (false,()))) (some (false,()))) (some (false,()))) (some (false,())):=by kernel_rfl
def Qe:Any:=.one ⟨aD6,aO,1,fun x=>kU F0 x.1 x.2.1⟩
def alJ:a1 270 Qe:=aq WG ⟨aeO,alH,KG,trivial⟩ func270 ad (by kernel_rfl)
def WH:=[(270,Qe)]
abbrev w5:List (Ty×Bool):=[(K21,true)]
def IF (m:Po):=bj WH F ad f215 w5 aO 1 (m,())
def alK (m:Po):IF F m=br (m.1==1) ((kU F0 (m.1,0,m.2.2.1,(0,ak,[]),(0,ak,[]),0,0,0,0,0) m).bind fun a=>some (a.1,())) (br (m.1==2) ((kU F0 (m.1,0,(ak,0,ak,[]),m.2.2.2.1,(0,ak,[]),0,0,0,0,0) m).bind fun a=>some (a.1,())) (br (m.1==3) ((kU F0 (m.1,m.2.1,(ak,0,ak,[]),(0,ak,[]),m.2.2.2.2.1,m.2.2.2.2.2.1,0,0,0,0) m).bind fun a=>some (a.1,())) (br (m.1==4) ((kU F0 (m.1,0,(ak,0,ak,[]),(0,ak,[]),(0,ak,[]),0,m.2.2.2.2.2.2) m).bind fun a=>some (a.1,())) ((kU F0 (m.1,0,(ak,0,ak,[]),(0,ak,[]),(0,ak,[]),0,0,0,0,0) m).bind fun a=>some (a.1,()))))):=by kernel_rfl
def Qf:Any:=.one ⟨w5,aO,1,fun x=>IF F0 x.1⟩
def alL:a1 215 Qf:=aq WH ⟨alJ,trivial⟩ func215 ad (by kernel_rfl)
abbrev auy:List (Ty×Bool):=[(.int .i64,false),(.int .i64,false)]
def dK (a b:Int):=bj aA F ad f66 auy cE 1 (a,b,())
def aaQ (a b:Int):dK F a b=br (decide (a>b)) (some (a,())) (some (b,())):=by kernel_rfl
def gX:Any:=.one ⟨auy,cE,1,fun x=>dK F0 x.1 x.2.1⟩
def lH:a1 66 gX:=aq aA trivial func66 ad (by kernel_rfl)
def MZ:=[(66,gX),(78,eQ)]
def M0:Nat->Option Hint:=look [(4,{live:=[0,3],xl:=[0,3],rl:=[2]})]
def DG (s:ByteArray)(k:Int):= bP 25 [(0,qqs s),(3,a8 k)]
def yJ (s:ByteArray)(k:Int):= bP 25 [(0,qqs s),(3,a8 k)]
def M1 (a:St):Option U:=ff MZ F M0 [.r,.r,.r,.l,.b,.i] f200 J n a
def aaR:=hQ MZ F M0 [.r,.r,.r,.l,.b] f200 dC 1
def Qg (s:ByteArray)(k:Int):M1 F J (n+1) (DG s k)=br (decide (k>0)) (ck (bG (aj (k-1)) (s.size:Int)) (br ((jP s (aj (k-1))) != 47) (M1 F J n (DG s (aj (k-1)))) (J (.exit 0) (yJ s k)))) (J (.exit 0) (yJ s k)):=by kernel_rfl
def alM (s:ByteArray)(k:Int):aaR F (.exit 0) (yJ s k)=(dK F0 (aj (k-1)) 0).bind fun a=>ck (Tx 0 a.1 (s.size:Int)) (some (s.extract (0:Int).toNat a.1.toNat,())):=by kernel_rfl
def akj (s:ByteArray):=bj MZ F M0 f200 dC dC 1 (s,())
def aeP:∃f,f= @akj:=⟨_,rfl⟩
def l9:=Classical.choose aeP
def aaS: @l9= @akj:=PN aeP
def awI (s:ByteArray):l9 F s=(e6 F0 s).bind fun a=>br (!a.1) (some (ak,())) (M1 F (aaR F) F.n (DG s (s.size:Int))):=by rw[aaS];kernel_rfl
def tT:Any:=.one ⟨dC,dC,1,fun x=>l9 F0 x.1⟩
def IG:a1 200 tT:=ok1 (show ym Tryz.prog TB MZ from⟨lH,gW,trivial⟩) func200 (by kernel_rfl) (by kernel_rfl) M0 (by rw[aaS];kernel_rfl)
def WJ:=[(78,eQ),(134,gG),(200,tT)]
abbrev aD7:List (Ty×Bool):=[(K1,true),(K15,true)]
def nE (c:D1)(b:D15):=bj WJ F ad f199 aD7 aO 1 (c,b,())
def alN (c:D1)(b:D15):nE F c b=(ky F0 c b.2).bind fun a=>br a.1 ((e6 F0 b.1).bind fun d=>br d.1 (br (!(b.1.toList==ak.toList)) ((l9 F0 b.1).bind fun e=>some (e.1.toList==b.2.2.1.toList,())) (some (false,()))) (some (false,()))) (some (false,())):=by kernel_rfl
def ma:Any:=.one ⟨aD7,aO,1,fun x=>nE F0 x.1 x.2.1⟩
def uF:a1 199 ma:=aq WJ ⟨gW,kS,IG,trivial⟩ func199 ad (by kernel_rfl)
def aeQ:=[(32,cx),(73,b7),(134,gG),(199,ma),(211,lG),(213,oy),(215,Qf)]
abbrev akk:List (Ty×Bool):=[(K1,true),(K21,true)]
def fw (c:D1)(m:Po):=bj aeQ F ad f145 akk aO 1 (c,m,())
def asW (c:D1)(m:Po):fw F c m=(dJ F0 c).bind fun a=>br (!a.1) (some (false,())) ((IF F0 m).bind fun b=>br (!b.1) (some (false,())) (br (m.1==1) ((nE F0 c m.2.2.1).bind fun d=>some (d.1,())) (br (m.1==2) ((kT F0 c m.2.2.2.1).bind fun e=>br e.1 (some (!(m.2.2.2.1.2.1.toList==ak.toList),())) (some (false,()))) (br (m.1==3) ((bN F0 m.2.1 1 60).bind fun f=>br f.1 ((ky F0 c m.2.2.2.2.1).bind fun g=>br g.1 ((bN F0 m.2.2.2.2.2.1 0 (aj (c.1-1))).bind fun h=>some (h.1,())) (some (false,()))) (some (false,()))) (br (m.1==4) ((rT F0 m.2.2.2.2.2.2).bind fun i=>some (i.1,())) (some (false,()))))))):=by kernel_rfl
def jU:Any:=.one ⟨akk,aO,1,fun x=>fw F0 x.1 x.2.1⟩
def oU:a1 145 jU:=aq aeQ ⟨de,cz,kS,uF,rU,yE,alL,trivial⟩ func145 ad (by kernel_rfl)
def IH:=[(32,cx),(73,b7),(141,ij),(142,GA),(143,Ct),(144,oz),(145,jU)]
def II:Nat->Option Hint:=look [(4,{live:=[2,3,5],rl:=[4]})]
def yK (i c a r b d e f g:Int)(h:ByteArray)(j:List Int)(k:ByteArray)(l:List D4)(m:List D9)(o:List Int)(p:Int)(q:List lD):= cQ 102 [b0 2,b0 3,(5,a8 i)] [(2,[ao c,ao a]),(3,[ao r,ao b,ao d,ao e,ao f,ao g,.str h,.ro false 3 (.int .i64) j,.str k,.ro false 52 (K4) l,.ro false 50 (K9) m,.ro false 5 (.int .u8) o,ao p,.ro false 136 (p2) q])] []
def yL (a:Bool):= bP 102 [(4,Ir a)]
def TM   := bP 102 []
def IJ (a:St):Option U:=ff IH F II [.r,.r,.l,.r,.b,.i] f74 J n a
def yM:=hQ IH F II [.r,.r,.l,.r,.b] f74 aO 1
def M3 (i c b r d e f g h:Int)(j:ByteArray)(k:List Int)(l:ByteArray)(m:List D4)(o:List D9)(p:List Int)(q:Int)(a:List lD):IJ F J (n+1) (yK i c b r d e f g h j k l m o p q a)=br (decide (i<(a.length:Int))) (ck (bG i (a.length:Int)) ((fw F0 (c,b) (aI a i p2.az).2).bind fun s=>br (!s.1) (J .ret (yL false)) (ck (bG i (a.length:Int)) ((bN F0 (aI a i p2.az).1 0 (aj (c-1))).bind fun t=>br (!t.1) (J .ret (yL false)) (ck (bG i (a.length:Int)) (br ((aI a i p2.az).1==r) (J .ret (yL false)) (IJ F J n (yK (aj (i+1)) c b r d e f g h j k l m o p q a)))))))) (J (.exit 0) (TM)):=by kernel_rfl
def alO (a:Bool):yM F .ret (yL a)=some (a,()):=by kernel_rfl
def ahL: yM F (.exit 0) (TM)=some (true,()):=by kernel_rfl
abbrev x8:List (Ty×Bool):=[(K1,true),(ca,true)]
def dw (c:D1)(r:a7):=bj IH F II f74 x8 aO 1 (c,r,())
def asX (c:D1)(r:a7):dw F c r=(dJ F0 c).bind fun a=>br (!a.1) (some (false,())) ((bN F0 r.1 0 (aj (c.1-1))).bind fun b=>br (!b.1) (some (false,())) ((bN F0 r.2.1 1 60).bind fun d=>br (!d.1) (some (false,())) ((bN F0 r.2.2.1 0 60).bind fun e=>br (!e.1) (some (false,())) ((jv F0 c r.2.2.2.1).bind fun f=>br (!f.1) (some (false,())) ((Fo F0 r.2.2.2.2.1).bind fun g=>br (!g.1) (some (false,())) ((nD F0 c r.2.2.2.2.2.1).bind fun h=>br (!h.1) (some (false,())) ((np F0 r.2.2.2.2.2.2.1).bind fun i=>br (!i.1) (some (false,())) (br (decide ((r.2.2.2.2.2.2.2.length:Int)>30)) (some (false,())) (IJ F (yM F) F.n (yK 0 c.1 c.2 r.1 r.2.1 r.2.2.1 r.2.2.2.1.1 r.2.2.2.1.2.1 r.2.2.2.1.2.2.1.1 r.2.2.2.1.2.2.1.2.1 r.2.2.2.1.2.2.1.2.2 r.2.2.2.1.2.2.2 r.2.2.2.2.1 r.2.2.2.2.2.1 r.2.2.2.2.2.2.1.1 r.2.2.2.2.2.2.1.2 r.2.2.2.2.2.2.2)))))))))):=by kernel_rfl
def cp:Any:=.one ⟨x8,aO,1,fun x=>dw F0 x.1 x.2.1⟩
def cT:a1 74 cp:=aq IH ⟨de,cz,l7,WC,TK,yH,oU,trivial⟩ func74 II (by kernel_rfl)
def aaT:=[(74,cp)]
abbrev akl:List (Ty×Bool):=[(K1,true),(.int .i64,false)]
abbrev gH:List (Ty×Bool):=[(ca,true),(.bool,false)]
def M4 (c:D1)(a:Int):=bj aaT F ad f33 akl gH 2 (c,a,())
def aoW (c:D1)(a:Int):M4 F c a=(dw F0 c (a,1,0,(0,0,(0,ak,[]),ak),[],[],([],0),[])).bind fun b=>br (!b.1) (some ((0,0,0,(0,0,(0,ak,[]),ak),[],[],([],0),[]),false,())) (some ((a,1,0,(0,0,(0,ak,[]),ak),[],[],([],0),[]),true,())):=by kernel_rfl
def TN:Any:=.one ⟨akl,gH,2,fun x=>M4 F0 x.1 x.2.1⟩
def aoX:a1 33 TN:=aq aaT ⟨cT,trivial⟩ func33 ad (by kernel_rfl)
def aaU:=[(32,cx)]
def M5 (c:D1):=bj aaU F ad f76 TC cE 1 (c,())
def aoY (c:D1):M5 F c=(dJ F0 c).bind fun a=>br (!a.1) (some (0,())) (some (aj (Int.tdiv (aj (c.1-1)) 3),())):=by kernel_rfl
def TO:Any:=.one ⟨TC,cE,1,fun x=>M5 F0 x.1⟩
def aoZ:a1 76 TO:=aq aaU ⟨de,trivial⟩ func76 ad (by kernel_rfl)
def DH:Nat->Option Hint:=look [(3,{live:=[0,1,7,8],rl:=[4,5,6]})]
def uG (b:List Int)(a c k:Int):= bP 55 [(0,hV 5 (.int .u8) b),(1,a8 a),(7,a8 c),(8,a8 k)]
def fX (a b:Int)(c:Bool):= bP 55 [(4,a8 a),(5,a8 b),(6,Ir c)]
def Qh   := bP 55 []
def DI (a:St):Option U:=ff aA F DH [.r,.r,.l,.r,.b,.i] f216 J n a
abbrev auz:List (Ty×Bool):=[(.int .i64,false),(.int .i64,false),(.bool,false)]
def uH:=hQ aA F DH [.r,.r,.l,.r,.b] f216 auz 1
def KI (b:List Int)(a c k:Int):DI F J (n+1) (uG b a c k)=br (decide (k<5)) (br (decide (a<0)) (J .ret (fX 0 0 false)) (br (decide (a>=(aj ((b.length:Int)-k)))) (J .ret (fX 0 0 false)) (ck (bG (aj (a+k)) (b.length:Int)) (ck (decide (0<=(aj (7*k)))) (br (decide ((aj (aI b (aj (a+k)) 0))<128)) (br (decide (k>0)) (br ((aj (aI b (aj (a+k)) 0))==0) (J .ret (fX 0 0 false)) (br (decide ((aj (((BitVec.ofInt 64 c ||| BitVec.ofInt 64 (aj ((Int.tmod (aj (aI b (aj (a+k)) 0)) 128)*2 ^ (min (aj (7*k)).toNat 64)))).toNat:Int)))>2147483647)) (J .ret (fX 0 0 false)) (J .ret (fX (aj (((BitVec.ofInt 64 c ||| BitVec.ofInt 64 (aj ((Int.tmod (aj (aI b (aj (a+k)) 0)) 128)*2 ^ (min (aj (7*k)).toNat 64)))).toNat:Int))) (aj ((aj (a+k))+1)) true)))) (br (decide ((aj (((BitVec.ofInt 64 c ||| BitVec.ofInt 64 (aj ((Int.tmod (aj (aI b (aj (a+k)) 0)) 128)*2 ^ (min (aj (7*k)).toNat 64)))).toNat:Int)))>2147483647)) (J .ret (fX 0 0 false)) (J .ret (fX (aj (((BitVec.ofInt 64 c ||| BitVec.ofInt 64 (aj ((Int.tmod (aj (aI b (aj (a+k)) 0)) 128)*2 ^ (min (aj (7*k)).toNat 64)))).toNat:Int))) (aj ((aj (a+k))+1)) true)))) (DI F J n (uG b a (aj (((BitVec.ofInt 64 c ||| BitVec.ofInt 64 (aj ((Int.tmod (aj (aI b (aj (a+k)) 0)) 128)*2 ^ (min (aj (7*k)).toNat 64)))).toNat:Int))) (aj (k+1))))))))) (J (.exit 0) (Qh)):=by kernel_rfl
def Cv (a b:Int)(c:Bool):uH F .ret (fX a b c)=some (a,b,c,()):=by kernel_rfl
def aeR: uH F (.exit 0) (Qh)=some (0,0,false,()):=by kernel_rfl
abbrev WK:List (Ty×Bool):=[(.sl 5 (.int .u8),false),(.int .i64,false)]
def kV (b:List Int)(a:Int):=bj aA F DH f216 WK auz 1 (b,a,())
def ao0 (b:List Int)(a:Int):kV F b a=DI F (uH F) F.n (uG b a 0 0):=by kernel_rfl
def uI:Any:=.one ⟨WK,auz,1,fun x=>kV F0 x.1 x.2.1⟩
def KJ:a1 216 uI:=aq aA trivial func216 DH (by kernel_rfl)
def aaV:=[(216,uI)]
abbrev hX:List (Ty×Bool):=[(K32,true)]
def cI (c:D32):=Fl aaV F ad f146 hX 0 .cur cE hX 1 (c,())
def ao1 (c:D32):cI F c=(kV F0 c.1 c.2.1).bind fun a=>br (!a.2.2.1) (some ((0,()),(c.1,c.2.1,false),())) (br (!c.2.2) (some ((0,()),(c.1,c.2.1,false),())) (some ((a.1,()),(c.1,a.2.1,c.2.2),()))):=by kernel_rfl
def oA:Any:=.two ⟨hX,0,.cur,cE,1,hX,fun x=>cI F0 x.1⟩
def yN:a1 146 oA:=Wt aaV ⟨KJ,trivial⟩ func146 ad (by kernel_rfl)
def WL:=[(216,uI)]
abbrev aD8:List (Ty×Bool):=[(.str,false),(.int .i64,false),(.bool,false)]
def IK (b:List Int)(a:Int):=bj WL F ad f217 WK aD8 1 (b,a,())
def alP (b:List Int)(c:Int):IK F b c=(kV F0 b c).bind fun a=>br (!a.2.2.1) (some (ak,0,false,())) (br (decide (a.1>(aj ((b.length:Int)-a.2.1)))) (some (ak,0,false,())) (ck (Tx a.2.1 (aj (a.2.1+a.1)) (b.length:Int)) (some (strOf ((b.take (aj (a.2.1+a.1)).toNat).drop a.2.1.toNat),aj (a.2.1+a.1),true,())))):=by kernel_rfl
def Qi:Any:=.one ⟨WK,aD8,1,fun x=>IK F0 x.1 x.2.1⟩
def alQ:a1 217 Qi:=aq WL ⟨KJ,trivial⟩ func217 ad (by kernel_rfl)
def WM:=[(217,Qi)]
def nF (c:D32):=Fl WM F ad f147 hX 0 .cur dC hX 1 (c,())
def alR (c:D32):nF F c=(IK F0 c.1 c.2.1).bind fun a=>br (!a.2.2.1) (some ((ak,()),(c.1,c.2.1,false),())) (br (!c.2.2) (some ((ak,()),(c.1,c.2.1,false),())) (some ((a.1,()),(c.1,a.2.1,c.2.2),()))):=by kernel_rfl
def rW:Any:=.two ⟨hX,0,.cur,dC,1,hX,fun x=>nF F0 x.1⟩
def GC:a1 147 rW:=Wt WM ⟨alQ,trivial⟩ func147 ad (by kernel_rfl)
def DJ:=[(146,oA)]
def DK:Nat->Option Hint:=look [(4,{live:=[0,3,4,5],xl:=[3],rl:=[2]})]
def uJ (a i:Int)(b:List Int)(c:Int)(d:Bool)(e:List Int):St:={nt:=28,tm:=[(0,.v (.c (.ptr 4000000 0))),(3,.v (.c (.own 1000000 none))),(4,a8 a),(5,a8 i)],bx:=[(4000000,[.ro true 5 (.int .u8) b,ao c,.bool d])],bl:=[ay 1000000 3 (.int .i64) e],sp:=.v (.c (.ptr 4000000 0))}
def rX (a:List Int)(b:Int)(c:Bool)(d:List Int):St:={nt:=28,tm:=[(3,.v (.c (.own 1000000 none)))],bx:=[(4000000,[.ro true 5 (.int .u8) a,ao b,.bool c])],bl:=[ay 1000000 3 (.int .i64) d],sp:=.v (.c (.ptr 4000000 0))}
def DL (a:St):Option U:=ff DJ F DK [.r,.r,.r,.l,.r,.b,.i] f149 J n a
abbrev kr:List (Ty×Bool):=[(.sl 3 (.int .i64),false)]
def GD:=azd DJ F DK [.r,.r,.r,.l,.r,.b] f149 .cur kr hX 2
def KK (f i:Int)(d:List Int)(e:Int)(a:Bool)(c:List Int):DL F J (n+1) (uJ f i d e a c)=br (decide (i<f)) (br a ((cI F0 (d,e,a)).bind fun b=>ck (ep F c.length [b.1.1].length 8) (DL F J n (uJ f (aj (i+1)) b.2.1.1 b.2.1.2.1 b.2.1.2.2 (c++[b.1.1])))) (J (.exit 0) (rX d e a c))) (J (.exit 0) (rX d e a c)):=by kernel_rfl
def aeS (a:List Int)(b:Int)(c:Bool)(d:List Int):GD F (.exit 0) (rX a b c d)=some ((d,()),(a,b,c),()):=by kernel_rfl
def Fq (c:D32):=Fl DJ F DK f149 hX 0 .cur kr hX 2 (c,())
def ao2 (c:D32):Fq F c=(cI F0 c).bind fun a=>DL F (GD F) F.n (uJ a.1.1 0 a.2.1.1 a.2.1.2.1 a.2.1.2.2 []):=by kernel_rfl
def GF:Any:=.two ⟨hX,0,.cur,kr,2,hX,fun x=>Fq F0 x.1⟩
def WN:a1 149 GF:=Wt DJ ⟨yN,trivial⟩ func149 DK (by kernel_rfl)
def aeT:=[(146,oA),(147,rW),(149,GF)]
abbrev gB:List (Ty×Bool):=[(K9,true)]
def Cw (c:D32):=Fl aeT F ad f148 hX 0 .cur gB hX 2 (c,())
def asY (c:D32):Cw F c=(cI F0 c).bind fun a=>(nF F0 a.2.1).bind fun b=>(Fq F0 b.2.1).bind fun d=>some (((a.1.1,b.1.1,d.1.1),()),d.2.1,()):=by kernel_rfl
def KL:Any:=.two ⟨hX,0,.cur,gB,2,hX,fun x=>Cw F0 x.1⟩
def aaW:a1 148 KL:=Wt aeT ⟨yN,GC,WN,trivial⟩ func148 ad (by kernel_rfl)
def aeU:=[(145,jU),(146,oA),(147,rW),(148,KL),(149,GF)]
abbrev aD9:List (Ty×Bool):=[(K21,true),(.bool,false)]
abbrev TP:List (Ty×Bool):=[(K1,true),(.sl 5 (.int .u8),false)]
def KM (c:D1)(b:List Int):=bj aeU F ad f77 TP aD9 2 (c,b,())
def asZ (c:D1)(b:List Int):KM F c b=(cI F0 (b,0,true)).bind fun a=>br (a.1.1==1) ((nF F0 a.2.1).bind fun i=>(Cw F0 i.2.1).bind fun e=>br (!e.2.1.2.2) (some ((0,0,(ak,0,ak,[]),(0,ak,[]),(0,ak,[]),0,0,0,0,0),false,())) (br (e.2.1.2.1 != (b.length:Int)) (some ((0,0,(ak,0,ak,[]),(0,ak,[]),(0,ak,[]),0,0,0,0,0),false,())) ((fw F0 c (a.1.1,0,(i.1.1,e.1.1),(0,ak,[]),(0,ak,[]),0,0,0,0,0)).bind fun d=>br (!d.1) (some ((0,0,(ak,0,ak,[]),(0,ak,[]),(0,ak,[]),0,0,0,0,0),false,())) (some ((a.1.1,0,(i.1.1,e.1.1),(0,ak,[]),(0,ak,[]),0,0,0,0,0),true,()))))) (br (a.1.1==2) ((cI F0 a.2.1).bind fun j=>(nF F0 j.2.1).bind fun k=>(Fq F0 k.2.1).bind fun f=>br (!f.2.1.2.2) (some ((0,0,(ak,0,ak,[]),(0,ak,[]),(0,ak,[]),0,0,0,0,0),false,())) (br (f.2.1.2.1 != (b.length:Int)) (some ((0,0,(ak,0,ak,[]),(0,ak,[]),(0,ak,[]),0,0,0,0,0),false,())) ((fw F0 c (a.1.1,0,(ak,0,ak,[]),(j.1.1,k.1.1,f.1.1),(0,ak,[]),0,0,0,0,0)).bind fun d=>br (!d.1) (some ((0,0,(ak,0,ak,[]),(0,ak,[]),(0,ak,[]),0,0,0,0,0),false,())) (some ((a.1.1,0,(ak,0,ak,[]),(j.1.1,k.1.1,f.1.1),(0,ak,[]),0,0,0,0,0),true,()))))) (br (a.1.1==3) ((cI F0 a.2.1).bind fun l=>(cI F0 l.2.1).bind fun m=>(Cw F0 m.2.1).bind fun g=>br (!g.2.1.2.2) (some ((0,0,(ak,0,ak,[]),(0,ak,[]),(0,ak,[]),0,0,0,0,0),false,())) (br (g.2.1.2.1 != (b.length:Int)) (some ((0,0,(ak,0,ak,[]),(0,ak,[]),(0,ak,[]),0,0,0,0,0),false,())) ((fw F0 c (a.1.1,l.1.1,(ak,0,ak,[]),(0,ak,[]),g.1.1,m.1.1,0,0,0,0)).bind fun d=>br (!d.1) (some ((0,0,(ak,0,ak,[]),(0,ak,[]),(0,ak,[]),0,0,0,0,0),false,())) (some ((a.1.1,l.1.1,(ak,0,ak,[]),(0,ak,[]),g.1.1,m.1.1,0,0,0,0),true,()))))) (br (a.1.1==4) ((cI F0 a.2.1).bind fun o=>(cI F0 o.2.1).bind fun p=>(cI F0 p.2.1).bind fun q=>(cI F0 q.2.1).bind fun h=>br (!h.2.1.2.2) (some ((0,0,(ak,0,ak,[]),(0,ak,[]),(0,ak,[]),0,0,0,0,0),false,())) (br (h.2.1.2.1 != (b.length:Int)) (some ((0,0,(ak,0,ak,[]),(0,ak,[]),(0,ak,[]),0,0,0,0,0),false,())) ((fw F0 c (a.1.1,0,(ak,0,ak,[]),(0,ak,[]),(0,ak,[]),0,o.1.1,p.1.1,q.1.1,h.1.1)).bind fun d=>br (!d.1) (some ((0,0,(ak,0,ak,[]),(0,ak,[]),(0,ak,[]),0,0,0,0,0),false,())) (some ((a.1.1,0,(ak,0,ak,[]),(0,ak,[]),(0,ak,[]),0,o.1.1,p.1.1,q.1.1,h.1.1),true,()))))) (br (!a.2.1.2.2) (some ((0,0,(ak,0,ak,[]),(0,ak,[]),(0,ak,[]),0,0,0,0,0),false,())) (br (a.2.1.2.1 != (b.length:Int)) (some ((0,0,(ak,0,ak,[]),(0,ak,[]),(0,ak,[]),0,0,0,0,0),false,())) ((fw F0 c (a.1.1,0,(ak,0,ak,[]),(0,ak,[]),(0,ak,[]),0,0,0,0,0)).bind fun d=>br (!d.1) (some ((0,0,(ak,0,ak,[]),(0,ak,[]),(0,ak,[]),0,0,0,0,0),false,())) (some ((a.1.1,0,(ak,0,ak,[]),(0,ak,[]),(0,ak,[]),0,0,0,0,0),true,())))))))):=by kernel_rfl
def KN:Any:=.one ⟨TP,aD9,2,fun x=>KM F0 x.1 x.2.1⟩
def aaX:a1 77 KN:=aq aeU ⟨oU,yN,GC,aaW,WN,trivial⟩ func77 ad (by kernel_rfl)
def gY:=[(32,cx),(73,b7),(74,cp),(75,yC),(76,TO),(77,KN),(78,eQ),(79,df)]
def gZ:Nat->Option Hint:=look [(4,{live:=[1,3],xl:=[1],rl:=[2]}),(9,{live:=[1,4],xl:=[1],rl:=[2]}),(15,{live:=[1,7],rl:=[2]})]
def mb (i w a:Int)(b:List Int)(c:List a7)(d:List bS)(e:List bE):= cQ 147 [b0 1,(7,a8 i)] [(1,[ao w,ao a,.ro false 3 (.int .i64) b,.ro false 65 (ca) c,.ro false 105 (eo) d,.ro false 41 (cl) e])] []
def rY (a:Bool):= bP 147 [(2,Ir a)]
def M6   := bP 147 []
def qV (a:St):Option U:=ff gY F gZ [.r,.r,.r,.r,.l,.r,.b,.i] f34 J n a
def mc:=hQ gY F gZ [.r,.r,.r,.r,.l,.r,.b] f34 aO 1
def me (i w a:Int)(b:List Int)(c:List a7)(d:List bS)(e:List bE):= cQ 147 [b0 1,(4,a8 i)] [(1,[ao w,ao a,.ro false 3 (.int .i64) b,.ro false 65 (ca) c,.ro false 105 (eo) d,.ro false 41 (cl) e])] []
def Cx (a:Bool):= bP 147 [(2,Ir a)]
def M7 (w a:Int)(b:List Int)(c:List a7)(d:List bS)(e:List bE):= cQ 147 [b0 1] [(1,[ao w,ao a,.ro false 3 (.int .i64) b,.ro false 65 (ca) c,.ro false 105 (eo) d,.ro false 41 (cl) e])] []
def q0 (a:St):Option U:=ff gY F gZ [.r,.r,.r,.l,.r,.b,.i] f34 J n a
def mf:=hQ gY F gZ [.r,.r,.r,.l,.r,.b] f34 aO 1
def mg (i w a:Int)(b:List Int)(c:List a7)(d:List bS)(e:List bE):= cQ 147 [b0 1,(3,a8 i)] [(1,[ao w,ao a,.ro false 3 (.int .i64) b,.ro false 65 (ca) c,.ro false 105 (eo) d,.ro false 41 (cl) e])] []
def Cy (a:Bool):= bP 147 [(2,Ir a)]
def M8 (w a:Int)(b:List Int)(c:List a7)(d:List bS)(e:List bE):= cQ 147 [b0 1] [(1,[ao w,ao a,.ro false 3 (.int .i64) b,.ro false 65 (ca) c,.ro false 105 (eo) d,.ro false 41 (cl) e])] []
def q1 (a:St):Option U:=ff gY F gZ [.r,.r,.l,.r,.b,.i] f34 J n a
def mh:=hQ gY F gZ [.r,.r,.l,.r,.b] f34 aO 1
def Hl (i w b:Int)(c:List Int)(d:List a7)(e:List bS)(a:List bE):qV F J (n+1) (mb i w b c d e a)=br (decide (i<(a.length:Int))) (ck (bG i (a.length:Int)) ((bN F0 (aI a i cl.az).2.2 0 (aj (w-1))).bind fun f=>br (!f.1) (J .ret (rY false)) ((e6 F0 (aI a i cl.az).2.1).bind fun g=>br (!g.1) (J .ret (rY false)) ((dt F0 (aI a i cl.az).2.1).bind fun h=>br (h.1 != (aI a i cl.az).1) (J .ret (rY false)) (qV F J n (mb (aj (i+1)) w b c d e a)))))) (J (.exit 4) (M6)):=by kernel_rfl
def Hm (i w b:Int)(c:List Int)(d:List a7)(a:List bS)(e:List bE):q0 F J (n+1) (me i w b c d a e)=br (decide (i<(a.length:Int))) (ck (bG i (a.length:Int)) ((KM F0 (w,b) (aI a i (0,[])).2).bind fun f=>br (!f.2.1) (J .ret (Cx false)) (ck (bG i (a.length:Int)) ((bN F0 (aI a i (0,[])).1 0 (aj (w-1))).bind fun g=>br (!g.1) (J .ret (Cx false)) (q0 F J n (me (aj (i+1)) w b c d a e)))))) (J (.exit 2) (M7 w b c d a e)):=by kernel_rfl
def Hn (i w b:Int)(c:List Int)(a:List a7)(d:List bS)(e:List bE):q1 F J (n+1) (mg i w b c a d e)=br (decide (i<(a.length:Int))) (ck (bG i (a.length:Int)) (br ((aI a i ca.az).1 != i) (J .ret (Cy false)) (ck (bG i (a.length:Int)) ((dw F0 (w,b) (aI a i ca.az)).bind fun f=>br (!f.1) (J .ret (Cy false)) (q1 F J n (mg (aj (i+1)) w b c a d e)))))) (J (.exit 0) (M8 w b c a d e)):=by kernel_rfl
def aeV (a:Bool):mc F .ret (rY a)=some (a,()):=by kernel_rfl
def acJ: mc F (.exit 4) (M6)=some (true,()):=by kernel_rfl
def aeW (a:Bool):mf F .ret (Cx a)=some (a,()):=by kernel_rfl
def acK (w a:Int)(b:List Int)(c:List a7)(d:List bS)(e:List bE):mf F (.exit 2) (M7 w a b c d e)=qV F (mc F) F.n (mb 0 w a b c d e):=by kernel_rfl
def aeX (a:Bool):mh F .ret (Cy a)=some (a,()):=by kernel_rfl
def acL (w a:Int)(b:List Int)(c:List a7)(d:List bS)(e:List bE):mh F (.exit 0) (M8 w a b c d e)=q0 F (mf F) F.n (me 0 w a b c d e):=by kernel_rfl
abbrev dy:List (Ty×Bool):=[(hU,true)]
def yO (w:lE):=bj gY F gZ f34 dy aO 1 (w,())
def alS (w:lE):yO F w=(dJ F0 w.1).bind fun a=>br (!a.1) (some (false,())) ((Cr F0 w.1.1 w.2.1).bind fun b=>br (!b.1) (some (false,())) ((M5 F0 w.1).bind fun c=>br (decide ((w.2.1.length:Int)>c.1)) (some (false,())) (br ((w.2.2.1.length:Int) != w.1.1) (some (false,())) (br (decide ((w.2.2.2.1.length:Int)>60)) (some (false,())) (br (decide ((w.2.2.2.2.length:Int)>300)) (some (false,())) (q1 F (mh F) F.n (mg 0 w.1.1 w.1.2 w.2.1 w.2.2.1 w.2.2.2.1 w.2.2.2.2))))))):=by kernel_rfl
def Qj:Any:=.one ⟨dy,aO,1,fun x=>yO F0 x.1⟩
def alT:a1 34 Qj:=aq gY ⟨de,cz,cT,Pp,aoZ,aaX,gW,eJ,trivial⟩ func34 gZ (by kernel_rfl)
def uK:=[(32,cx),(33,TN),(34,Qj)]
def uL:Nat->Option Hint:=look [(3,{live:=[2,4,6,7],yh:=[(4,2,3,.int .i64),(4,3,65,ca),(4,4,105,eo),(4,5,41,cl),(6,3,65,ca),(6,4,105,eo),(6,5,41,cl)],xl:=[4,6],rl:=[4,5]})]
def pq (i c a l m w b:Int)(o:List Int)(d:List a7)(e:List bS)(f:List bE)(g:List Int)(h:List a7)(j:List bS)(k:List bE):= cQ 42 [b0 2,b0 4,b0 6,(7,a8 i)] [(2,[ao c,ao a]),(4,[ao l,ao m,.own 1000000 none,.own 1000001 none,.own 1000002 none,.own 1000003 none]),(6,[ao w,ao b,.own 1000004 none,.own 1000005 none,.own 1000006 none,.own 1000007 none])] [ay 1000000 3 (.int .i64) o,ay 1000001 65 ca d,ay 1000002 105 eo e,ay 1000003 41 cl f,ay 1000004 3 (.int .i64) g,ay 1000005 65 ca h,ay 1000006 105 eo j,ay 1000007 41 cl k]
def wm (i j w a:Int)(k:List Int)(b:List a7)(c:List bS)(d:List bE)(e:List Int)(f:List a7)(g:List bS)(h:List bE):= cQ 42 [b0 4,b0 6] [(4,[ao i,ao j,.own 1000000 none,.own 1000001 none,.own 1000002 none,.own 1000003 none]),(6,[ao w,ao a,.own 1000004 none,.own 1000005 none,.own 1000006 none,.own 1000007 none])] [ay 1000000 3 (.int .i64) k,ay 1000001 65 ca b,ay 1000002 105 eo c,ay 1000003 41 cl d,ay 1000004 3 (.int .i64) e,ay 1000005 65 ca f,ay 1000006 105 eo g,ay 1000007 41 cl h]
def uM (a:St):Option U:=ff uK F uL [.r,.r,.l,.r,.b,.i] f9 J n a
abbrev akm:List (Ty×Bool):=[(hU,true),(.bool,false)]
def yP:=hQ uK F uL [.r,.r,.l,.r,.b] f9 akm 2
def Fs (i c b l m w d:Int)(o:List Int)(e:List a7)(f:List bS)(g:List bE)(h:List Int)(a:List a7)(j:List bS)(k:List bE):uM F J (n+1) (pq i c b l m w d o e f g h a j k)=br (decide (i<c)) ((dJ F0 (c,b)).bind fun q=>br q.1 ((M4 F0 (c,b) i).bind fun p=>ck (ep F a.length [p.1].length 208) (uM F J n (pq (aj (i+1)) c b l m w d o e f g h (a++[p.1]) j k))) (J (.exit 0) (wm l m w d o e f g h a j k))) (J (.exit 0) (wm l m w d o e f g h a j k)):=by kernel_rfl
def ZO (j k w a:Int)(l:List Int)(f:List a7)(g:List bS)(h:List bE)(b:List Int)(c:List a7)(d:List bS)(e:List bE):yP F (.exit 0) (wm j k w a l f g h b c d e)=(yO F0 ((w,a),b,c,d,e)).bind fun i=>br (!i.1) (some (((0,0),[],[],[],[]),false,())) (some (((w,a),b,c,d,e),true,())):=by kernel_rfl
abbrev auA:List (Ty×Bool):=[(K1,true),(.sl 3 (.int .i64),false)]
def dZ (c:D1)(liars:List Int):=bj uK F uL f9 auA akm 2 (c,liars,())
def ahM (c:D1)(liars:List Int):dZ F c liars=ck (ep F 0 liars.length 8) (uM F (yP F) F.n (pq 0 c.1 c.2 0 0 c.1 c.2 [] [] [] [] ([]++liars) [] [] [])):=by kernel_rfl
def M9:Any:=.one ⟨auA,akm,2,fun x=>dZ F0 x.1 x.2.1⟩
def Qk:a1 9 M9:=aq uK ⟨de,aoX,alT,trivial⟩ func9 uL (by kernel_rfl)
def Ho:=[(9,M9),(25,eh),(62,nC),(63,ou)]
def pr (c:D2):=Fl Ho F ad f23 jR 0 .cur dy jR 2 (c,())
def WO (c:D2):pr F c=(jS F0 c [4,4,4,5,7]).bind fun a=>(av F0 a.2.1 3).bind fun b=>(nm F0 b.2.1 3).bind fun d=>br (!d.1.1) ((av F0 d.2.1 a.1.1).bind fun f=>(dZ F0 (a.1.1,aj (1+b.1.1)) [f.1.1]).bind fun e=>some ((e.1,()),f.2.1,())) ((dZ F0 (a.1.1,aj (1+b.1.1)) []).bind fun e=>some ((e.1,()),d.2.1,())):=by kernel_rfl
def BQ:Any:=.two ⟨jR,0,.cur,dy,2,jR,fun x=>pr F0 x.1⟩
def WQ:a1 23 BQ:=Wt Ho ⟨Qk,fW,yq,yr,trivial⟩ func23 ad (by kernel_rfl)
def jw (q:D9):=bj aA F ad f136 gB gB 2 (q,())
def ao3 (q:D9):jw F q=ck (ep F 0 q.2.2.length 8) (some ((q.1,q.2.1,[]++q.2.2),())):=by kernel_rfl
def ik:Any:=.one ⟨gB,gB,2,fun x=>jw F0 x.1⟩
def mi:a1 136 ik:=aq aA trivial func136 ad (by kernel_rfl)
def WR:=[(136,ik)]
abbrev BR:List (Ty×Bool):=[(K12,true)]
def nG (s:Vt):=bj WR F ad f121 BR BR 2 (s,())
def alU (s:Vt):nG F s=(jw F0 s.2.2.1).bind fun a=>some ((s.1,s.2.1,a.1,s.2.2.2),()):=by kernel_rfl
def mj:Any:=.one ⟨BR,BR,2,fun x=>nG F0 x.1⟩
def uN:a1 121 mj:=aq WR ⟨mi,trivial⟩ func121 ad (by kernel_rfl)
def gI (p:D9):=bj aA F ad f194 gB gB 2 (p,())
def alV (p:D9):gI F p=ck (ep F 0 p.2.2.length 8) (some ((p.1,p.2.1,[]++p.2.2),())):=by kernel_rfl
def jG:Any:=.one ⟨gB,gB,2,fun x=>gI F0 x.1⟩
def oB:a1 194 jG:=aq aA trivial func194 ad (by kernel_rfl)
def uO:=[(194,jG)]
def uP:Nat->Option Hint:=look [(3,{live:=[0,3,4],xl:=[3],rl:=[2]})]
def pt (a:List D9)(i:Int)(b:List D9):= cQ 21 [(0,hV 50 (K9) a),(3,.v (.c (.own 1000000 none))),(4,a8 i)] [] [ay 1000000 50 K9 b]
def KO (a:List D9):= cQ 21 [(3,.v (.c (.own 1000000 none)))] [] [ay 1000000 50 K9 a]
def uQ (a:St):Option U:=ff uO F uP [.r,.r,.l,.r,.b,.i] f122 J n a
abbrev Hp:List (Ty×Bool):=[(K13,false)]
def yQ:=hQ uO F uP [.r,.r,.l,.r,.b] f122 Hp 2
def Ft (a:List D9)(i:Int)(b:List D9):uQ F J (n+1) (pt a i b)=br (decide (i<(a.length:Int))) (ck (bG i (a.length:Int)) ((gI F0 (aI a i K9.az)).bind fun c=>ck (ep F b.length [c.1].length 48) (uQ F J n (pt a (aj (i+1)) (b++[c.1]))))) (J (.exit 0) (KO b)):=by kernel_rfl
def ZP (a:List D9):yQ F (.exit 0) (KO a)=some (a,()):=by kernel_rfl
def gJ (a:D13):=bj uO F uP f122 Hp Hp 2 (a,())
def ahN (a:D13):gJ F a=uQ F (yQ F) F.n (pt a 0 []):=by kernel_rfl
def yR:Any:=.one ⟨Hp,Hp,2,fun x=>gJ F0 x.1⟩
def Ql:a1 122 yR:=aq uO ⟨oB,trivial⟩ func122 uP (by kernel_rfl)
def iR (d:D14):=bj aA F ad f123 po po 2 (d,())
def alW (d:D14):iR F d=ck (ep F 0 d.1.length 1) (some (([]++d.1,d.2),())):=by kernel_rfl
def ml:Any:=.one ⟨po,po,2,fun x=>iR F0 x.1⟩
def uR:a1 123 ml:=aq aA trivial func123 ad (by kernel_rfl)
def aaY:=[(136,ik)]
abbrev akn:List (Ty×Bool):=[(K15,true)]
def Na (b:D15):=bj aaY F ad f252 akn akn 2 (b,())
def ao4 (b:D15):Na F b=(jw F0 b.2).bind fun a=>some ((b.1,a.1),()):=by kernel_rfl
def TQ:Any:=.one ⟨akn,akn,2,fun x=>Na F0 x.1⟩
def ao5:a1 252 TQ:=aq aaY ⟨mi,trivial⟩ func252 ad (by kernel_rfl)
def WS:=[(136,ik),(194,jG),(252,TQ)]
def yS (m:Po):=bj WS F ad f195 w5 w5 2 (m,())
def alX (m:Po):yS F m=(Na F0 m.2.2.1).bind fun a=>(gI F0 m.2.2.2.1).bind fun b=>(jw F0 m.2.2.2.2.1).bind fun c=>some ((m.1,m.2.1,a.1,b.1,c.1,m.2.2.2.2.2),()):=by kernel_rfl
def Cz:Any:=.one ⟨w5,w5,2,fun x=>yS F0 x.1⟩
def TR:a1 195 Cz:=aq WS ⟨mi,oB,ao5,trivial⟩ func195 ad (by kernel_rfl)
def uS:=[(195,Cz)]
def uT:Nat->Option Hint:=look [(3,{live:=[0,3,4],xl:=[3],rl:=[2]})]
def pw (a:List lD)(i:Int)(b:List lD):= cQ 28 [(0,hV 136 (p2) a),(3,.v (.c (.own 1000000 none))),(4,a8 i)] [] [ay 1000000 136 p2 b]
def KP (a:List lD):= cQ 28 [(3,.v (.c (.own 1000000 none)))] [] [ay 1000000 136 p2 a]
def uU (a:St):Option U:=ff uS F uT [.r,.r,.l,.r,.b,.i] f124 J n a
abbrev aaZ:List (Ty×Bool):=[(K23,false)]
def yT:=hQ uS F uT [.r,.r,.l,.r,.b] f124 aaZ 2
def Fu (a:List lD)(i:Int)(b:List lD):uU F J (n+1) (pw a i b)=br (decide (i<(a.length:Int))) (ck (bG i (a.length:Int)) (ck (bG i (a.length:Int)) ((yS F0 (aI a i p2.az).2).bind fun c=>ck (ep F b.length [((aI a i p2.az).1,c.1)].length 224) (uU F J n (pw a (aj (i+1)) (b++[((aI a i p2.az).1,c.1)])))))) (J (.exit 0) (KP b)):=by kernel_rfl
def ZQ (a:List lD):yT F (.exit 0) (KP a)=some (a,()):=by kernel_rfl
def tU (a:D23):=bj uS F uT f124 aaZ aaZ 2 (a,())
def ahO (a:D23):tU F a=uU F (yT F) F.n (pw a 0 []):=by kernel_rfl
def yU:Any:=.one ⟨aaZ,aaZ,2,fun x=>tU F0 x.1⟩
def Qm:a1 124 yU:=aq uS ⟨TR,trivial⟩ func124 uT (by kernel_rfl)
end
end Go.Am.Tryz
