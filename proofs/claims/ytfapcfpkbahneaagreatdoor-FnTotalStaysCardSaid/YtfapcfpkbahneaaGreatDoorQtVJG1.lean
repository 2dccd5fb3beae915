/- Lemmas for the claim. No condition. -/
import Derived.Test.YtfapcfpkbahneaaGreatDoorProg
import Derived.Test.YtfapcfpkbahneaaGreatDoorQtVJS1
set_option linter.all false
set_option maxRecDepth 100000
namespace Go.Am.Tryz
open Go.Am Go.Proofs Go.Proofs.Tryz
abbrev K1:Ty:=.pair (.int .i64) (.int .i64)
abbrev D1:=Int×Int
abbrev K2:Ty:=.pair (.sl 5 (.int .u8)) (K1)
abbrev D2:=List Int×D1
abbrev K3:Ty:=.pair (.int .i64) (K1)
abbrev D3:=Int×D1
abbrev K4:Ty:=.pair (.int .i64) (K3)
abbrev D4:=Int×D3
abbrev K5:Ty:=.sl 76 (K4)
abbrev D5:=List D4
abbrev K6:Ty:=.pair (.int .i64) (K5)
abbrev D6:=Int×D5
abbrev K7:Ty:=.sl 157 (K6)
abbrev K8:Ty:=.pair (.str) (.sl 3 (.int .i64))
abbrev D8:=ByteArray×List Int
abbrev K9:Ty:=.pair (.int .i64) (K8)
abbrev D9:=Int×D8
abbrev K10:Ty:=.pair (K9) (.str)
abbrev D10:=D9×ByteArray
abbrev K11:Ty:=.pair (.int .i64) (K10)
abbrev D11:=Int×D10
abbrev K12:Ty:=.pair (.int .i64) (K11)
abbrev Ua:=Int×D11
abbrev K13:Ty:=.sl 74 (K9)
abbrev D13:=List D9
abbrev K14:Ty:=.pair (.sl 5 (.int .u8)) (.int .i64)
abbrev D14:=List Int×Int
abbrev K15:Ty:=.pair (.str) (K9)
abbrev D15:=ByteArray×D9
abbrev K16:Ty:=.pair (.int .i64) (K4)
abbrev D16:=Int×D4
abbrev K17:Ty:=.pair (K9) (K16)
abbrev D17:=D9×D16
abbrev K18:Ty:=.pair (K9) (K17)
abbrev D18:=D9×D17
abbrev K19:Ty:=.pair (K15) (K18)
abbrev D19:=D15×D18
abbrev K20:Ty:=.pair (.int .i64) (K19)
abbrev D20:=Int×D19
abbrev K21:Ty:=.pair (.int .i64) (K20)
abbrev N6:=Int×D20
abbrev qN:Ty:=.pair (.int .i64) (K21)
abbrev lJ:=Int×N6
abbrev K23:Ty:=.sl 146 (qN)
abbrev D23:=List lJ
abbrev K24:Ty:=.pair (K14) (K23)
abbrev D24:=D14×D23
abbrev K25:Ty:=.pair (K13) (K24)
abbrev D25:=D13×D24
abbrev K26:Ty:=.pair (K5) (K25)
abbrev D26:=D5×D25
abbrev K27:Ty:=.pair (K12) (K26)
abbrev D27:=Ua×D26
abbrev K28:Ty:=.pair (.int .i64) (K27)
abbrev D28:=Int×D27
abbrev K29:Ty:=.pair (.int .i64) (K28)
abbrev D29:=Int×D28
abbrev c8:Ty:=.pair (.int .i64) (K29)
abbrev bu:=Int×D29
abbrev K31:Ty:=.pair (.int .i64) (.bool)
abbrev D31:=Int×Bool
abbrev K32:Ty:=.pair (.sl 5 (.int .u8)) (K31)
abbrev D32:=List Int×D31
abbrev K33:Ty:=.sl 50 (c8)
abbrev D33:=List bu
abbrev fC:Ty:=.pair (.int .i64) (.sl 5 (.int .u8))
abbrev cG:=Int×List Int
abbrev K35:Ty:=.sl 114 (fC)
abbrev D35:=List cG
abbrev K36:Ty:=.pair (.str) (.int .i64)
abbrev D36:=ByteArray×Int
abbrev dP:Ty:=.pair (.int .i64) (K36)
abbrev cl:=Int×D36
abbrev K38:Ty:=.sl 127 (dP)
abbrev D38:=List cl
abbrev K39:Ty:=.pair (K35) (K38)
abbrev D39:=D35×D38
abbrev K40:Ty:=.pair (K33) (K39)
abbrev D40:=D33×D39
abbrev K41:Ty:=.pair (.sl 3 (.int .i64)) (K40)
abbrev D41:=List Int×D40
abbrev iL:Ty:=.pair (K1) (K41)
abbrev oV:=D1×D41
abbrev K43:Ty:=.pair (.sl 3 (.int .i64)) (.sl 3 (.int .i64))
abbrev D43:=List Int×List Int
abbrev K44:Ty:=.pair (.int .i64) (qN)
abbrev D44:=Int×lJ
abbrev K45:Ty:=.pair (.int .i64) (K44)
abbrev D45:=Int×D44
abbrev K46:Ty:=.sl 80 (K45)
abbrev D46:=List D45
def ab:Nat->Option Hint:=look []
def aE:List (Nat×Any):=[]
noncomputable section
variable {α:Type} (C:List (Nat×Any)) (F:rT) (H:Nat->Option Hint)
abbrev bo (f:Nat)(c:Any):Prop:=tJ Tryz.prog TB f c
def bD (fn:Func)(ps rs:List (Ty×Bool))(m:Nat)(x:Args ps):=aJP Tryz.prog (look C) F H fn ps rs m x
def Ei (fn:Func)(ps:List (Ty×Bool))(i:Nat)(pm:PM)(rs qs:List (Ty×Bool))(m:Nat)(x:Args ps):=aBM Tryz.prog (look C) F H fn ps i pm rs qs m x
def gA (p:List At)(fn:Func)(κ:Ex->St->Option α)(n:Nat)(st:St):Option α:=lp Tryz.prog (look C) F H (sub p (j1 fn)) κ n st
def jq (p:List At)(fn:Func)(rs:List (Ty×Bool))(m:Nat):=afq Tryz.prog (look C) F H p (j1 fn) (fin Tryz.prog fn rs m)
def axm (p:List At)(fn:Func)(pm:PM)(rs qs:List (Ty×Bool))(m:Nat):=afq Tryz.prog (look C) F H p (j1 fn) (aLp Tryz.prog fn pm rs qs m)
def dY (n:Nat)(t:List (Nat×AV))(b:List (Nat×List AC))(l:List (Nat×Option gp)):St:={nt:=n,tm:=t,bx:=b,bl:=l}
def cJ (n:Nat)(t:List (Nat×AV)):St:={nt:=n,tm:=t,bx:=[],bl:=[]}
def bE (t:Int):AV:=.v (.c (.int .i64 t))
def aq (t:Int):AC:=.int .i64 t
def cL (d:Nat):Nat×AV:=(d,.v (.c (.ptr d 0)))
abbrev al:ByteArray:=ByteArray.mk #[]
def aA (i:Nat)(e:TypeId)(t:Ty)(x:List t.D):Nat×Option gp:=(i,some ⟨e,t,x,true,true⟩)
def OV (b:Bool):AV:=.v (.c (.bool b))
def Y0 (b:ByteArray):AV:=.v (.c (.str b))
def jO (e:Nat)(t:Ty)(x:List t.D):AV:=.v (.c (.ro false e t x))
theorem ay {f : FuncId} {fn : Func} (l : List (Nat × Any)) (hl : yd Tryz.prog TB l) (hf : Tryz.prog.funcs[f]? = some fn) (H : Nat → Option Hint) {ps rs : List (Ty × Bool)} {m : Nat} {g : Args ps → Option (Args rs)} (hg : (fn.name == "runtime.NumGoroutine" || fn.body.isNone, fun x => bD l F0 H fn ps rs m x) = (false, g)) : bo f (.one ⟨ps, rs, m, g⟩) :=
 ok1 hl hf (ahR.1 (Prod.mk.inj hg).1).1 (ahR.1 (Prod.mk.inj hg).1).2 H (Prod.mk.inj hg).2
theorem aAi {f : FuncId} {fn : Func} (l : List (Nat × Any)) (hl : yd Tryz.prog TB l) (hf : Tryz.prog.funcs[f]? = some fn) (H : Nat → Option Hint) {ps rs : List (Ty × Bool)} {i m : Nat} {pm : PM} {g : Args ps → Option (Args rs × Args [])} (hg : (fn.name == "runtime.NumGoroutine" || fn.body.isNone, fun x => Ei l F0 H fn ps i pm rs [] m x) = (false, g)) : bo f (.two ⟨ps, i, pm, rs, m, [], g⟩) :=
 ok2 hl hf (ahR.1 (Prod.mk.inj hg).1).1 (ahR.1 (Prod.mk.inj hg).1).2 H (Prod.mk.inj hg).2
theorem U6 {f : FuncId} {fn : Func} (l : List (Nat × Any)) (hl : yd Tryz.prog TB l) (hf : Tryz.prog.funcs[f]? = some fn) (H : Nat → Option Hint) {ps rs : List (Ty × Bool)} {i m : Nat} {pm : PM} {p : Ty × Bool} {g : Args ps → Option (Args rs × Args [p])} (hg : (nX ps i, fn.name == "runtime.NumGoroutine" || fn.body.isNone, fun x => Ei l F0 H fn ps i pm rs [p] m x) = (some p, false, g)) : bo f (.two ⟨ps, i, pm, rs, m, [p], g⟩) :=
 ok3 hl hf (ahR.1 (Prod.mk.inj (Prod.mk.inj hg).2).1).1 (ahR.1 (Prod.mk.inj (Prod.mk.inj hg).2).1).2 H (Prod.mk.inj hg).1 (Prod.mk.inj (Prod.mk.inj hg).2).2
end
noncomputable section
variable {α:Type} (F:rT) (κ:Ex->St->Option α) (n:Nat)
abbrev aZ:List (Ty×Bool):=[(.bool,false)]
abbrev mu:List (Ty×Bool):=[(.sl 5 (.int .u8),false)]
def amT (code:List Int):=bD aE F ab f6 mu aZ 1 (code,())
theorem axn (code:List Int):amT F code=some (decide ((code.length:Int)>1048576),()):=by kernel_rfl
def acW:Any:=.one ⟨mu,aZ,1,fun x=>amT F0 x.1⟩
theorem axo:bo 6 acW:=ay aE trivial func6 ab (by kernel_rfl)
def Hc:Nat->Option Hint:=look [(3,{live:=[0,3,4],xl:=[0,3],rl:=[2]})]
def yg (code:List Int)(h i:Int)(p:List Int):St:={nt:=32,tm:=[(0,jO 5 (.int .u8) code),(3,bE h),(4,bE i)],bx:=[],bl:=[],sp:=jO 5 (.int .u8) p}
def Fk (code:List Int)(h:Int)(p:List Int):St:={nt:=32,tm:=[(0,jO 5 (.int .u8) code),(3,bE h)],bx:=[],bl:=[],sp:=jO 5 (.int .u8) p}
def Hd (st:St):Option α:=gA aE F Hc [.r,.r,.l,.r,.b,.i] f24 κ n st
abbrev j3:List (Ty×Bool):=[(K2,true)]
def Jl:=axm aE F Hc [.r,.r,.l,.r,.b] f24 .rd j3 [] 5
theorem LC (code:List Int)(h i:Int)(p:List Int):Hd F κ (n+1) (yg code h i p)=br (decide (i<(code.length:Int))) (br (decide (i<4000)) (ck (cc i (code.length:Int)) (Hd F κ n (yg code (aj (((BitVec.ofInt 64 (aj ((aj ((aj (h*131))+(aj (aN code i 0))))+7)) &&& BitVec.ofInt 64 1073741823).toNat:Int))) (aj (i+1)) p))) (κ (.exit 0) (Fk code h p))) (κ (.exit 0) (Fk code h p)):=by kernel_rfl
theorem OW (code:List Int)(h:Int)(p:List Int):Jl F (.exit 0) (Fk code h p)=some (((code,0,h),()),()):=by kernel_rfl
def Jm (code:List Int):=Ei aE F Hc f24 mu 0 .rd j3 [] 5 (code,())
theorem aqQ (code:List Int):Jm F code=Hd F (Jl F) F.n (yg code (aj (26583+(code.length:Int))) 0 code):=by kernel_rfl
def U7:Any:=.two ⟨mu,0,.rd,j3,5,[],fun x=>Jm F0 x.1⟩
theorem aqR:bo 24 U7:=aAi aE trivial func24 Hc (by kernel_rfl)
abbrev dv:List (Ty×Bool):=[(.int .i64,false)]
def kU (c:D2):=Ei aE F ab f59 j3 0 .cur dv j3 1 (c,())
theorem amU (c:D2):kU F c=br (decide (c.2.1<(c.1.length:Int))) (ck (cc c.2.1 (c.1.length:Int)) (some ((aj (((BitVec.ofInt 64 (aj ((aj (((BitVec.ofInt 64 (aj (((BitVec.ofInt 64 (Int.fdiv (aj ((aj (c.2.2*6364136223846793005))+1442695040888963407)) (2 ^ (min (33:Int).toNat 64))) ^^^ BitVec.ofInt 64 (Int.fdiv (aj ((aj (c.2.2*6364136223846793005))+1442695040888963407)) (2 ^ (min (45:Int).toNat 64)))).toNat:Int))) &&& BitVec.ofInt 64 255).toNat:Int)))+(aj (aN c.1 c.2.1 0)))) &&& BitVec.ofInt 64 255).toNat:Int)),()),(c.1,aj (c.2.1+1),aj ((aj (c.2.2*6364136223846793005))+1442695040888963407)),()))) (some ((aj (((BitVec.ofInt 64 (aj (((BitVec.ofInt 64 (Int.fdiv (aj ((aj (c.2.2*6364136223846793005))+1442695040888963407)) (2 ^ (min (33:Int).toNat 64))) ^^^ BitVec.ofInt 64 (Int.fdiv (aj ((aj (c.2.2*6364136223846793005))+1442695040888963407)) (2 ^ (min (45:Int).toNat 64)))).toNat:Int))) &&& BitVec.ofInt 64 255).toNat:Int)),()),(c.1,c.2.1,aj ((aj (c.2.2*6364136223846793005))+1442695040888963407)),())):=by kernel_rfl
def Sj:Any:=.two ⟨j3,0,.cur,dv,1,j3,fun x=>kU F0 x.1⟩
theorem amV:bo 59 Sj:=U6 aE trivial func59 ab (by kernel_rfl)
def U8:=[(59,Sj)]
abbrev aCh:List (Ty×Bool):=[(K2,true),(.int .i64,false)]
def ax (c:D2)(n1:Int):=Ei U8 F ab f27 aCh 0 .cur dv j3 1 (c,n1,())
theorem Sk (c:D2)(n1:Int):ax F c n1=br (decide (n1<=0)) (some ((0,()),c,())) (br (decide (n1<=256)) ((kU F0 c).bind fun lK=>ck (!(n1==0)) (some ((Int.tmod lK.1.1 n1,()),lK.2.1,()))) ((kU F0 c).bind fun N7=>(kU F0 N7.2.1).bind fun Ej=>(kU F0 Ej.2.1).bind fun gB=>(kU F0 gB.2.1).bind fun r24=>ck (!(n1==0)) (some ((Int.tmod (aj ((aj ((aj ((aj (N7.1.1*16777216))+(aj (Ej.1.1*65536))))+(aj (gB.1.1*256))))+r24.1.1)) n1,()),r24.2.1,())))):=by kernel_rfl
def eR:Any:=.two ⟨aCh,0,.cur,dv,1,j3,fun x=>ax F0 x.1 x.2.1⟩
theorem gq:bo 27 eR:=U6 U8 ⟨amV,trivial⟩ func27 ab (by kernel_rfl)
def OX:=[(27,eR)]
abbrev aGg:List (Ty×Bool):=[(K2,true),(.sl 3 (.int .i64),false)]
def j4 (c:D2)(list:List Int):=Ei OX F ab f56 aGg 0 .cur dv j3 1 (c,list,())
theorem acX (c:D2)(list:List Int):j4 F c list=(ax F0 c (list.length:Int)).bind fun r9=>ck (cc r9.1.1 (list.length:Int)) (some ((aN list r9.1.1 0,()),r9.2.1,())):=by kernel_rfl
def n5:Any:=.two ⟨aGg,0,.cur,dv,1,j3,fun x=>j4 F0 x.1 x.2.1⟩
theorem yh:bo 56 n5:=U6 OX ⟨gq,trivial⟩ func56 ab (by kernel_rfl)
def Y1:=[(27,eR)]
def nO (c:D2)(n1:Int):=Ei Y1 F ab f57 aCh 0 .cur aZ j3 1 (c,n1,())
theorem amW (c:D2)(n1:Int):nO F c n1=(ax F0 c n1).bind fun r7=>some ((r7.1.1==0,()),r7.2.1,()):=by kernel_rfl
def o5:Any:=.two ⟨aCh,0,.cur,aZ,1,j3,fun x=>nO F0 x.1 x.2.1⟩
theorem yi:bo 57 o5:=U6 Y1 ⟨gq,trivial⟩ func57 ab (by kernel_rfl)
abbrev aCi:List (Ty×Bool):=[(.int .i64,false),(.int .i64,false),(.int .i64,false)]
def bX (x lo hi:Int):=bD aE F ab f72 aCi aZ 1 (x,lo,hi,())
theorem auH (x lo hi:Int):bX F x lo hi=br (decide (x>=lo)) (some (decide (x<=hi),())) (some (false,())):=by kernel_rfl
def cI:Any:=.one ⟨aCi,aZ,1,fun x=>bX F0 x.1 x.2.1 x.2.2.1⟩
theorem dh:bo 72 cI:=ay aE trivial func72 ab (by kernel_rfl)
def Y2:=[(72,cI)]
abbrev Sl:List (Ty×Bool):=[(K1,true)]
def ey (c:D1):=bD Y2 F ab f35 Sl aZ 1 (c,())
theorem amX (c:D1):ey F c=(bX F0 c.1 4 7).bind fun r5=>br r5.1 ((bX F0 c.2 1 6).bind fun r9=>some (r9.1,())) (some (false,())):=by kernel_rfl
def dd:Any:=.one ⟨Sl,aZ,1,fun x=>ey F0 x.1⟩
theorem dQ:bo 35 dd:=ay Y2 ⟨dh,trivial⟩ func35 ab (by kernel_rfl)
def He:Nat->Option Hint:=look [(4,{live:=[0,1,5,6,7],xl:=[5],rl:=[4]})]
def mv (s:ByteArray)(by1 eT i:Int)(xs:List ByteArray):= dY 36 [(0,Y0 s),(1,.v (.c (.int .u8 by1))),(5,.v (.c (.own 1000000 none))),(6,bE eT),(7,bE i)] [] [aA 1000000 9 (.str) xs]
def Sm (xs:List ByteArray):= dY 36 [(5,.v (.c (.own 1000000 none)))] [] [aA 1000000 9 (.str) xs]
def sa (st:St):Option α:=gA aE F He [.r,.r,.r,.l,.r,.b,.i] f188 κ n st
abbrev axp:List (Ty×Bool):=[(.sl 9 (.str),false)]
def Jn:=jq aE F He [.r,.r,.r,.l,.r,.b] f188 axp 2
theorem LD (s:ByteArray)(by1 eT i:Int)(xs:List ByteArray):sa F κ (n+1) (mv s by1 eT i xs)=br (decide (i<=(s.size:Int))) (br (i==(s.size:Int)) (ck (Si eT i (s.size:Int)) (ck (fe F xs.length [s.extract eT.toNat i.toNat].length 16) (sa F κ n (mv s by1 (aj (i+1)) (aj (i+1)) (xs++[s.extract eT.toNat i.toNat]))))) (ck (cc i (s.size:Int)) (br ((lL s i)==by1) (ck (Si eT i (s.size:Int)) (ck (fe F xs.length [s.extract eT.toNat i.toNat].length 16) (sa F κ n (mv s by1 (aj (i+1)) (aj (i+1)) (xs++[s.extract eT.toNat i.toNat]))))) (sa F κ n (mv s by1 eT (aj (i+1)) xs))))) (κ (.exit 0) (Sm xs)):=by kernel_rfl
theorem afK (xs:List ByteArray):Jn F (.exit 0) (Sm xs)=some (xs,()):=by kernel_rfl
abbrev Y3:List (Ty×Bool):=[(.str,false),(.int .u8,false)]
def wK (s:ByteArray)(by1:Int):=bD aE F He f188 Y3 axp 2 (s,by1,())
theorem aqS (s:ByteArray)(by1:Int):wK F s by1=sa F (Jn F) F.n (mv s by1 0 0 []):=by kernel_rfl
def Jo:Any:=.one ⟨Y3,axp,2,fun x=>wK F0 x.1 x.2.1⟩
theorem Y4:bo 188 Jo:=ay aE trivial func188 He (by kernel_rfl)
def Hf:Nat->Option Hint:=look [(2,{live:=[0,1,7],rl:=[4,5,6]})]
def yj (s:ByteArray)(by1 i:Int):= cJ 26 [(0,Y0 s),(1,.v (.c (.int .u8 by1))),(7,bE i)]
def U9 (t4 t5:ByteArray)(t6:Bool):= cJ 26 [(4,Y0 t4),(5,Y0 t5),(6,OV t6)]
def Sn   := cJ 26 []
def Hg (st:St):Option α:=gA aE F Hf [.r,.l,.r,.b,.i] f189 κ n st
abbrev aGh:List (Ty×Bool):=[(.str,false),(.str,false),(.bool,false)]
def yk:=jq aE F Hf [.r,.l,.r,.b] f189 aGh 1
theorem LF (s:ByteArray)(by1 i:Int):Hg F κ (n+1) (yj s by1 i)=br (decide (i<(s.size:Int))) (ck (cc i (s.size:Int)) (br ((lL s i)==by1) (ck (Si 0 i (s.size:Int)) (ck (Si (aj (i+1)) (s.size:Int) (s.size:Int)) (κ .ret (U9 (s.extract (0:Int).toNat i.toNat) (s.extract (aj (i+1)).toNat (s.size:Int).toNat) true)))) (Hg F κ n (yj s by1 (aj (i+1)))))) (κ (.exit 0) (Sn)):=by kernel_rfl
theorem ajN (t4 t5:ByteArray)(t6:Bool):yk F .ret (U9 t4 t5 t6)=some (t4,t5,t6,()):=by kernel_rfl
theorem afL: yk F (.exit 0) (Sn)=some (al,al,false,()):=by kernel_rfl
def iU (s:ByteArray)(by1:Int):=bD aE F Hf f189 Y3 aGh 1 (s,by1,())
theorem aqT (s:ByteArray)(by1:Int):iU F s by1=Hg F (yk F) F.n (yj s by1 0):=by kernel_rfl
def Jp:Any:=.one ⟨Y3,aGh,1,fun x=>iU F0 x.1 x.2.1⟩
theorem Y5:bo 189 Jp:=ay aE trivial func189 Hf (by kernel_rfl)
def Cy:Nat->Option Hint:=look [(5,{live:=[0,3,4],xl:=[3,4],rl:=[2]})]
def o6 (n1:Int)(below:Bool)(out:ByteArray):= cJ 31 [(0,bE n1),(3,OV below),(4,Y0 out)]
def OY (below:Bool)(out:ByteArray):= cJ 31 [(3,OV below),(4,Y0 out)]
def uj (st:St):Option α:=gA aE F Cy [.r,.r,.r,.r,.l,.b,.i] f226 κ n st
abbrev en:List (Ty×Bool):=[(.str,false)]
def Fl:=jq aE F Cy [.r,.r,.r,.r,.l,.b] f226 en 1
theorem Jq (n1:Int)(below:Bool)(out:ByteArray):uj F κ (n+1) (o6 n1 below out)=br (n1 != 0) (br (decide ((Int.tmod n1 10)<0)) (ck (okC F (strOf [IntKind.wrap .u8 (aj (48+(aj (0-(Int.tmod n1 10)))))]).size out.size) (uj F κ n (o6 (aj (Int.tdiv n1 10)) below ((strOf [IntKind.wrap .u8 (aj (48+(aj (0-(Int.tmod n1 10)))))])++out)))) (ck (okC F (strOf [IntKind.wrap .u8 (aj (48+(Int.tmod n1 10)))]).size out.size) (uj F κ n (o6 (aj (Int.tdiv n1 10)) below ((strOf [IntKind.wrap .u8 (aj (48+(Int.tmod n1 10)))])++out))))) (κ (.exit 0) (OY below out)):=by kernel_rfl
theorem acY (below:Bool)(out:ByteArray):Fl F (.exit 0) (OY below out)=br below (ck (okC F (ByteArray.mk #[45]).size out.size) (some ((ByteArray.mk #[45])++out,()))) (some (out,())):=by kernel_rfl
def kV (n1:Int):=bD aE F Cy f226 dv en 1 (n1,())
theorem amY (n1:Int):kV F n1=br (n1==0) (some (ByteArray.mk #[48],())) (uj F (Fl F) F.n (o6 n1 (decide (n1<0)) al)):=by kernel_rfl
def uT:Any:=.one ⟨dv,en,1,fun x=>kV F0 x.1⟩
theorem Jr:bo 226 uT:=ay aE trivial func226 Cy (by kernel_rfl)
def Cz:=[(226,uT)]
def CA:Nat->Option Hint:=look [(5,{live:=[0,4,5],xl:=[0,4],rl:=[2,3]})]
def uU (s:ByteArray)(n1 i:Int):= cJ 43 [(0,Y0 s),(4,bE n1),(5,bE i)]
def Fm (t2:Int)(t3:Bool):= cJ 43 [(2,bE t2),(3,OV t3)]
def OZ (s:ByteArray)(n1:Int):= cJ 43 [(0,Y0 s),(4,bE n1)]
def CB (st:St):Option α:=gA Cz F CA [.r,.r,.r,.l,.r,.b,.i] f190 κ n st
abbrev asH:List (Ty×Bool):=[(.int .i64,false),(.bool,false)]
def uV:=jq Cz F CA [.r,.r,.r,.l,.r,.b] f190 asH 1
theorem Js (s:ByteArray)(n1 i:Int):CB F κ (n+1) (uU s n1 i)=br (decide (i<(s.size:Int))) (ck (cc i (s.size:Int)) (br (decide ((lL s i)<48)) (κ .ret (Fm 0 false)) (ck (cc i (s.size:Int)) (br (decide ((lL s i)>57)) (κ .ret (Fm 0 false)) (ck (cc i (s.size:Int)) (CB F κ n (uU s (aj ((aj ((aj (10*n1))+(aj (lL s i))))-48)) (aj (i+1))))))))) (κ (.exit 0) (OZ s n1)):=by kernel_rfl
theorem afM (t2:Int)(t3:Bool):uV F .ret (Fm t2 t3)=some (t2,t3,()):=by kernel_rfl
theorem acZ (s:ByteArray)(n1:Int):uV F (.exit 0) (OZ s n1)=(kV F0 n1).bind fun LG=>br (!(LG.1.toList==s.toList)) (some (0,false,())) (some (n1,true,())):=by kernel_rfl
def nP (s:ByteArray):=bD Cz F CA f190 en asH 1 (s,())
theorem amZ (s:ByteArray):nP F s=br (decide ((s.size:Int)<1)) (some (0,false,())) (br (decide ((s.size:Int)>6)) (some (0,false,())) (CB F (uV F) F.n (uU s 0 0))):=by kernel_rfl
def Fo:Any:=.one ⟨en,asH,1,fun x=>nP F0 x.1⟩
theorem Va:bo 190 Fo:=ay Cz ⟨Jr,trivial⟩ func190 CA (by kernel_rfl)
def aiq:=[(72,cI)]
abbrev Y6:List (Ty×Bool):=[(K4,true)]
def sd (x:D4):=bD aiq F ab f181 Y6 aZ 1 (x,())
theorem auI (x:D4):sd F x=(bX F0 x.1 0 3).bind fun r5=>br r5.1 ((bX F0 x.2.1 0 3).bind fun r9=>br r9.1 ((bX F0 x.2.2.1 0 1000).bind fun lK=>br lK.1 ((bX F0 x.2.2.2 0 99).bind fun dL=>some (dL.1,())) (some (false,()))) (some (false,()))) (some (false,())):=by kernel_rfl
def lN:Any:=.one ⟨Y6,aZ,1,fun x=>sd F0 x.1⟩
theorem se:bo 181 lN:=ay aiq ⟨dh,trivial⟩ func181 ab (by kernel_rfl)
def Y7:=[(181,lN),(226,uT)]
def xn (x:D4):=bD Y7 F ab f271 Y6 en 1 (x,())
theorem am0 (x:D4):xn F x=(sd F0 x).bind fun r4=>br (!r4.1) (some (al,())) ((kV F0 x.1).bind fun r8=>ck (okC F r8.1.size (ByteArray.mk #[62]).size) ((kV F0 x.2.1).bind fun cR=>ck (okC F (r8.1++(ByteArray.mk #[62])).size cR.1.size) (ck (okC F ((r8.1++(ByteArray.mk #[62]))++cR.1).size (ByteArray.mk #[58]).size) ((kV F0 x.2.2.1).bind fun fv=>ck (okC F (((r8.1++(ByteArray.mk #[62]))++cR.1)++(ByteArray.mk #[58])).size fv.1.size) (ck (okC F ((((r8.1++(ByteArray.mk #[62]))++cR.1)++(ByteArray.mk #[58]))++fv.1).size (ByteArray.mk #[35]).size) ((kV F0 x.2.2.2).bind fun gB=>ck (okC F (((((r8.1++(ByteArray.mk #[62]))++cR.1)++(ByteArray.mk #[58]))++fv.1)++(ByteArray.mk #[35])).size gB.1.size) (some ((((((r8.1++(ByteArray.mk #[62]))++cR.1)++(ByteArray.mk #[58]))++fv.1)++(ByteArray.mk #[35]))++gB.1,())))))))):=by kernel_rfl
def Fp:Any:=.one ⟨Y6,en,1,fun x=>xn F0 x.1⟩
theorem Vb:bo 271 Fp:=ay Y7 ⟨se,Jr,trivial⟩ func271 ab (by kernel_rfl)
def air:=[(189,Jp),(190,Fo),(271,Fp)]
abbrev aCj:List (Ty×Bool):=[(K4,true),(.bool,false)]
def Xz (s:ByteArray):=bD air F ab f243 en aCj 1 (s,())
theorem auJ (s:ByteArray):Xz F s=(iU F0 s 62).bind fun nL=>(iU F0 nL.2.1 58).bind fun gB=>(iU F0 gB.2.1 35).bind fun Vc=>(nP F0 nL.1).bind fun r35=>(nP F0 gB.1).bind fun r41=>(nP F0 Vc.1).bind fun pI=>(nP F0 Vc.2.1).bind fun Y8=>br (s.toList==al.toList) (some ((0,0,0,0),false,())) ((xn F0 (r35.1,r41.1,pI.1,Y8.1)).bind fun IS=>br (!(IS.1.toList==s.toList)) (some ((0,0,0,0),false,())) (some ((r35.1,r41.1,pI.1,Y8.1),true,()))):=by kernel_rfl
def Y9:Any:=.one ⟨en,aCj,1,fun x=>Xz F0 x.1⟩
theorem auK:bo 243 Y9:=ay air ⟨Y5,Va,Vb,trivial⟩ func243 ab (by kernel_rfl)
def Hh:=[(188,Jo),(243,Y9)]
def Hi:Nat->Option Hint:=look [(6,{live:=[4,5,6],xl:=[4],rl:=[2,3]})]
def yl (i:Int)(xs:List D4)(aK:List ByteArray):= dY 37 [(4,.v (.c (.own 1000000 none))),(5,.v (.c (.own 1000001 none))),(6,bE i)] [] [aA 1000000 76 K4 xs,aA 1000001 9 (.str) aK]
def Vd (t3:Bool)(xs:List D4):= dY 37 [(2,.v (.c (.own 1000000 none))),(3,OV t3)] [] [aA 1000000 76 K4 xs]
def Sp (xs:List D4):= dY 37 [(4,.v (.c (.own 1000000 none)))] [] [aA 1000000 76 K4 xs]
def Hj (st:St):Option α:=gA Hh F Hi [.r,.r,.r,.r,.l,.r,.b,.i] f191 κ n st
abbrev Ve:List (Ty×Bool):=[(K5,false),(.bool,false)]
def ym:=jq Hh F Hi [.r,.r,.r,.r,.l,.r,.b] f191 Ve 2
theorem LH (i:Int)(xs:List D4)(aK:List ByteArray):Hj F κ (n+1) (yl i xs aK)=br (decide (i<(aK.length:Int))) (ck (cc i (aK.length:Int)) ((Xz F0 (aN aK i ByteArray.empty)).bind fun uc=>br (!uc.2.1) (κ .ret (Vd false [])) (ck (fe F xs.length [uc.1].length 32) (Hj F κ n (yl (aj (i+1)) (xs++[uc.1]) aK))))) (κ (.exit 0) (Sp xs)):=by kernel_rfl
theorem ajO (t3:Bool)(xs:List D4):ym F .ret (Vd t3 xs)=some (xs,t3,()):=by kernel_rfl
theorem afN (xs:List D4):ym F (.exit 0) (Sp xs)=some (xs,true,()):=by kernel_rfl
def Bv (s:ByteArray):=bD Hh F Hi f191 en Ve 2 (s,())
theorem aqU (s:ByteArray):Bv F s=br (s.toList==al.toList) (some ([],true,())) ((wK F0 s 44).bind fun lK=>Hj F (ym F) F.n (yl 0 [] lK.1)):=by kernel_rfl
def Vf:Any:=.one ⟨en,Ve,2,fun x=>Bv F0 x.1⟩
theorem aqV:bo 191 Vf:=ay Hh ⟨Y4,auK,trivial⟩ func191 Hi (by kernel_rfl)
def Hk:=[(188,Jo),(189,Jp),(190,Fo),(191,Vf)]
def Hl:Nat->Option Hint:=look [(10,{live:=[4,5,6,7,8],xl:=[5],rl:=[2,3]})]
def yn (Jt i:Int)(xs aK:List D6)(aV:List ByteArray):= dY 91 [(4,.v (.c (.own 1000000 none))),(5,.v (.c (.own 1000001 none))),(6,.v (.c (.own 1000002 none))),(7,bE Jt),(8,bE i)] [] [aA 1000000 157 K6 xs,aA 1000001 157 K6 aK,aA 1000002 9 (.str) aV]
def j5 (t3:Bool)(xs:List D6):= dY 91 [(2,.v (.c (.own 1000000 none))),(3,OV t3)] [] [aA 1000000 157 K6 xs]
def Sq (xs:List D6):= dY 91 [(5,.v (.c (.own 1000000 none)))] [] [aA 1000000 157 K6 xs]
def Hm (st:St):Option α:=gA Hk F Hl [.r,.r,.r,.r,.r,.r,.r,.l,.r,.b,.i] f132 κ n st
abbrev asI:List (Ty×Bool):=[(K7,false),(.bool,false)]
def yo:=jq Hk F Hl [.r,.r,.r,.r,.r,.r,.r,.l,.r,.b] f132 asI 2
theorem LI (Jt i:Int)(xs aK:List D6)(aV:List ByteArray):Hm F κ (n+1) (yn Jt i xs aK aV)=br (decide (i<(aV.length:Int))) (ck (cc i (aV.length:Int)) ((iU F0 (aN aV i ByteArray.empty) 124).bind fun r44=>(nP F0 r44.1).bind fun Fb=>(Bv F0 r44.2.1).bind fun r55=>br (!r44.2.2.1) (κ .ret (j5 false xs)) (br (!Fb.2.1) (κ .ret (j5 false xs)) (br (!r55.2.1) (κ .ret (j5 false xs)) (br (decide (Fb.1<=Jt)) (κ .ret (j5 false xs)) (br (decide (Fb.1>60)) (κ .ret (j5 false xs)) (br (decide ((r55.1.length:Int)>2)) (κ .ret (j5 false xs)) (ck (fe F aK.length [(Fb.1,r55.1)].length 32) (Hm F κ n (yn Fb.1 (aj (i+1)) xs (aK++[(Fb.1,r55.1)]) aV)))))))))) (κ (.exit 0) (Sq aK)):=by kernel_rfl
theorem Sr (t3:Bool)(xs:List D6):yo F .ret (j5 t3 xs)=some (xs,t3,()):=by kernel_rfl
theorem afO (xs:List D6):yo F (.exit 0) (Sq xs)=some (xs,true,()):=by kernel_rfl
def qT (s:ByteArray):=bD Hk F Hl f132 en asI 2 (s,())
theorem aqW (s:ByteArray):qT F s=br (s.toList==al.toList) (some ([],true,())) ((wK F0 s 47).bind fun gB=>ck (cc 0 (gB.1.length:Int)) (br (!((aN gB.1 0 ByteArray.empty).toList==al.toList)) (some ([],false,())) (br (decide ((gB.1.length:Int)>31)) (some ([],false,())) (Hm F (yo F) F.n (yn 0 1 [] [] gB.1))))):=by kernel_rfl
def qU:Any:=.one ⟨en,asI,2,fun x=>qT F0 x.1⟩
theorem CC:bo 132 qU:=ay Hk ⟨Y4,Y5,Va,aqV,trivial⟩ func132 Hl (by kernel_rfl)
def Za:=[(132,qU)]
def fD (s:ByteArray):=bD Za F ab f77 en aZ 1 (s,())
theorem am1 (s:ByteArray):fD F s=(qT F0 s).bind fun r7=>some (r7.2.1,()):=by kernel_rfl
def fx:Any:=.one ⟨en,aZ,1,fun x=>fD F0 x.1⟩
theorem ir:bo 77 fx:=ay Za ⟨CC,trivial⟩ func77 ab (by kernel_rfl)
def Zb:=[(132,qU)]
def dZ (s:ByteArray):=bD Zb F ab f78 en dv 1 (s,())
theorem am2 (s:ByteArray):dZ F s=(qT F0 s).bind fun r7=>br (!r7.2.1) (some (0,())) (br ((r7.1.length:Int)==0) (some (0,())) (ck (cc (aj ((r7.1.length:Int)-1)) (r7.1.length:Int)) (some ((aN r7.1 (aj ((r7.1.length:Int)-1)) (0,[])).1,())))):=by kernel_rfl
def dR:Any:=.one ⟨en,dv,1,fun x=>dZ F0 x.1⟩
theorem fj:bo 78 dR:=ay Zb ⟨CC,trivial⟩ func78 ab (by kernel_rfl)
def Hn:Nat->Option Hint:=look [(2,{live:=[0,1,5],rl:=[4]})]
def qV (n1:Int)(s:List Int)(i:Int):= cJ 41 [(0,bE n1),(1,jO 3 (.int .i64) s),(5,bE i)]
def yp (t4:Bool):= cJ 41 [(4,OV t4)]
def Ss   := cJ 41 []
def yq (st:St):Option α:=gA aE F Hn [.r,.l,.r,.b,.i] f74 κ n st
def yr:=jq aE F Hn [.r,.l,.r,.b] f74 aZ 1
theorem LJ (n1:Int)(s:List Int)(i:Int):yq F κ (n+1) (qV n1 s i)=br (decide (i<(s.length:Int))) (ck (cc i (s.length:Int)) (br (decide ((aN s i 0)<0)) (κ .ret (yp false)) (ck (cc i (s.length:Int)) (br (decide ((aN s i 0)>=n1)) (κ .ret (yp false)) (br (decide (i>0)) (ck (cc (aj (i-1)) (s.length:Int)) (ck (cc i (s.length:Int)) (br (decide ((aN s (aj (i-1)) 0)>=(aN s i 0))) (κ .ret (yp false)) (yq F κ n (qV n1 s (aj (i+1))))))) (yq F κ n (qV n1 s (aj (i+1))))))))) (κ (.exit 0) (Ss)):=by kernel_rfl
theorem ajP (t4:Bool):yr F .ret (yp t4)=some (t4,()):=by kernel_rfl
theorem afP: yr F (.exit 0) (Ss)=some (true,()):=by kernel_rfl
abbrev aCk:List (Ty×Bool):=[(.int .i64,false),(.sl 3 (.int .i64),false)]
def Bw (n1:Int)(s:List Int):=bD aE F Hn f74 aCk aZ 1 (n1,s,())
theorem aqX (n1:Int)(s:List Int):Bw F n1 s=yq F (yr F) F.n (qV n1 s 0):=by kernel_rfl
def yu:Any:=.one ⟨aCk,aZ,1,fun x=>Bw F0 x.1 x.2.1⟩
theorem N8:bo 74 yu:=ay aE trivial func74 Hn (by kernel_rfl)
def Zc:=[(35,dd)]
def xp (c:D1):=bD Zc F ab f108 Sl dv 1 (c,())
theorem am3 (c:D1):xp F c=(ey F0 c).bind fun r4=>br (!r4.1) (some (0,())) (some (aj (c.1-(aj (Int.tdiv (aj (c.1-1)) 3))),())):=by kernel_rfl
def uW:Any:=.one ⟨Sl,dv,1,fun x=>xp F0 x.1⟩
theorem Ju:bo 108 uW:=ay Zc ⟨dQ,trivial⟩ func108 ab (by kernel_rfl)
def ait:=[(35,dd),(74,yu),(77,fx),(78,dR),(108,uW)]
abbrev F9:List (Ty×Bool):=[(K1,true),(K9,true)]
def kF (c:D1)(q:D9):=bD ait F ab f115 F9 aZ 1 (c,q,())
theorem auL (c:D1)(q:D9):kF F c q=(ey F0 c).bind fun r6=>br (!r6.1) (some (false,())) ((fD F0 q.2.1).bind fun dC=>br (!dC.1) (some (false,())) ((dZ F0 q.2.1).bind fun fv=>br (fv.1 != q.1) (some (false,())) (br (q.2.1.toList==al.toList) (some ((q.2.2.length:Int)==0,())) ((Bw F0 c.1 q.2.2).bind fun ud=>br ud.1 ((xp F0 c).bind fun LG=>some (decide ((q.2.2.length:Int)>=LG.1),())) (some (false,())))))):=by kernel_rfl
def gY:Any:=.one ⟨F9,aZ,1,fun x=>kF F0 x.1 x.2.1⟩
theorem kW:bo 115 gY:=ay ait ⟨dQ,N8,ir,fj,Ju,trivial⟩ func115 ab (by kernel_rfl)
def Zd:=[(72,cI),(77,fx),(115,gY)]
abbrev Su:List (Ty×Bool):=[(K1,true),(K12,true)]
def jG (c:D1)(s:Ua):=bD Zd F ab f123 Su aZ 1 (c,s,())
theorem am4 (c:D1)(s:Ua):jG F c s=(bX F0 s.1 0 60).bind fun r7=>br r7.1 ((bX F0 s.2.1 0 60).bind fun dC=>br dC.1 ((kF F0 c s.2.2.1).bind fun fv=>br fv.1 ((fD F0 s.2.2.2).bind fun gB=>some (gB.1,())) (some (false,()))) (some (false,()))) (some (false,())):=by kernel_rfl
def iV:Any:=.one ⟨Su,aZ,1,fun x=>jG F0 x.1 x.2.1⟩
theorem mw:bo 123 iV:=ay Zd ⟨dh,ir,kW,trivial⟩ func123 ab (by kernel_rfl)
abbrev aCl:List (Ty×Bool):=[(K4,true),(K4,true)]
def uk (a b:D4):=bD aE F ab f182 aCl aZ 1 (a,b,())
theorem afQ (a b:D4):uk F a b=br (decide (a.1<b.1)) (some (true,())) (br (a.1==b.1) (some (decide (a.2.2.2<b.2.2.2),())) (some (false,()))):=by kernel_rfl
def yv:Any:=.one ⟨aCl,aZ,1,fun x=>uk F0 x.1 x.2.1⟩
theorem O0:bo 182 yv:=ay aE trivial func182 ab (by kernel_rfl)
def CD:=[(181,lN),(182,yv)]
def CE:Nat->Option Hint:=look [(2,{live:=[0,3],xl:=[0],rl:=[2]})]
def o7 (p:List D4)(i:Int):= cJ 36 [(0,jO 76 (K4) p),(3,bE i)]
def Fq (t2:Bool):= cJ 36 [(2,OV t2)]
def O1 (p:List D4):= cJ 36 [(0,jO 76 (K4) p)]
def um (st:St):Option α:=gA CD F CE [.r,.l,.r,.b,.i] f124 κ n st
def uX:=jq CD F CE [.r,.l,.r,.b] f124 aZ 1
theorem Jv (p:List D4)(i:Int):um F κ (n+1) (o7 p i)=br (decide (i<(p.length:Int))) (ck (cc i (p.length:Int)) ((sd F0 (aN p i K4.aF)).bind fun lK=>br (!lK.1) (κ .ret (Fq false)) (br (decide (i>0)) (ck (cc (aj (i-1)) (p.length:Int)) (ck (cc i (p.length:Int)) ((uk F0 (aN p (aj (i-1)) K4.aF) (aN p i K4.aF)).bind fun Ri=>br (!Ri.1) (κ .ret (Fq false)) (um F κ n (o7 p (aj (i+1))))))) (um F κ n (o7 p (aj (i+1))))))) (κ (.exit 0) (O1 p)):=by kernel_rfl
theorem afR (t2:Bool):uX F .ret (Fq t2)=some (t2,()):=by kernel_rfl
theorem ac0 (p:List D4):uX F (.exit 0) (O1 p)=some (decide ((p.length:Int)<=12),()):=by kernel_rfl
abbrev kz:List (Ty×Bool):=[(K5,false)]
def Ek (p:D5):=bD CD F CE f124 kz aZ 1 (p,())
theorem am5 (p:D5):Ek F p=um F (uX F) F.n (o7 p 0):=by kernel_rfl
def Fs:Any:=.one ⟨kz,aZ,1,fun x=>Ek F0 x.1⟩
theorem Vg:bo 124 Fs:=ay CD ⟨se,O0,trivial⟩ func124 CE (by kernel_rfl)
def Ze:=[(35,dd),(72,cI),(74,yu),(77,fx),(78,dR)]
def kX (c:D1)(p:D9):=bD Ze F ab f183 F9 aZ 1 (c,p,())
theorem am6 (c:D1)(p:D9):kX F c p=(ey F0 c).bind fun r6=>br (!r6.1) (some (false,())) ((bX F0 p.1 1 60).bind fun dC=>br (!dC.1) (some (false,())) ((Bw F0 c.1 p.2.2).bind fun dL=>br (!dL.1) (some (false,())) (br ((p.2.2.length:Int)==0) (some (false,())) (br (p.2.1.toList==al.toList) (some (true,())) ((fD F0 p.2.1).bind fun qM=>br qM.1 ((dZ F0 p.2.1).bind fun Um=>some (Um.1==p.1,())) (some (false,()))))))):=by kernel_rfl
def o8:Any:=.one ⟨F9,aZ,1,fun x=>kX F0 x.1 x.2.1⟩
theorem yw:bo 183 o8:=ay Ze ⟨dQ,dh,N8,ir,fj,trivial⟩ func183 ab (by kernel_rfl)
abbrev xq:List (Ty×Bool):=[(K9,true),(K9,true)]
def qW (a b:D9):=bD aE F ab f184 xq aZ 1 (a,b,())
theorem ac1 (a b:D9):qW F a b=br (decide (a.1<b.1)) (some (true,())) (br (a.1==b.1) (some (Op.bytesLess a.2.1.toList b.2.1.toList,())) (some (false,()))):=by kernel_rfl
def wL:Any:=.one ⟨xq,aZ,1,fun x=>qW F0 x.1 x.2.1⟩
theorem LK:bo 184 wL:=ay aE trivial func184 ab (by kernel_rfl)
def yx:=[(183,o8),(184,wL)]
def yy:Nat->Option Hint:=look [(2,{live:=[1,2,5],xl:=[1],rl:=[4]})]
def mx (list:List D9)(i c c1:Int):= dY 39 [(1,jO 74 (K9) list),cL 2,(5,bE i)] [(2,[aq c,aq c1])] []
def Bx (t4:Bool):= cJ 39 [(4,OV t4)]
def LL (list:List D9):= cJ 39 [(1,jO 74 (K9) list)]
def qX (st:St):Option α:=gA yx F yy [.r,.l,.r,.b,.i] f125 κ n st
def sf:=jq yx F yy [.r,.l,.r,.b] f125 aZ 1
theorem Ga (list:List D9)(i c c1:Int):qX F κ (n+1) (mx list i c c1)=br (decide (i<(list.length:Int))) (ck (cc i (list.length:Int)) ((kX F0 (c,c1) (aN list i K9.aF)).bind fun fv=>br (!fv.1) (κ .ret (Bx false)) (br (decide (i>0)) (ck (cc (aj (i-1)) (list.length:Int)) (ck (cc i (list.length:Int)) ((qW F0 (aN list (aj (i-1)) K9.aF) (aN list i K9.aF)).bind fun Ho=>br (!Ho.1) (κ .ret (Bx false)) (qX F κ n (mx list (aj (i+1)) c c1))))) (qX F κ n (mx list (aj (i+1)) c c1))))) (κ (.exit 0) (LL list)):=by kernel_rfl
theorem ac2 (t4:Bool):sf F .ret (Bx t4)=some (t4,()):=by kernel_rfl
theorem aa2 (list:List D9):sf F (.exit 0) (LL list)=some (decide ((list.length:Int)<=20),()):=by kernel_rfl
abbrev aCm:List (Ty×Bool):=[(K1,true),(K13,false)]
def n6 (c:D1)(list:D13):=bD yx F yy f125 aCm aZ 1 (c,list,())
theorem ajQ (c:D1)(list:D13):n6 F c list=qX F (sf F) F.n (mx list 0 c.1 c.2):=by kernel_rfl
def By:Any:=.one ⟨aCm,aZ,1,fun x=>n6 F0 x.1 x.2.1⟩
theorem Sv:bo 125 By:=ay yx ⟨yw,LK,trivial⟩ func125 yy (by kernel_rfl)
def Zf:=[(72,cI)]
abbrev p8:List (Ty×Bool):=[(K14,true)]
def nQ (d:D14):=bD Zf F ab f126 p8 aZ 1 (d,())
theorem am7 (d:D14):nQ F d=br (decide ((d.1.length:Int)<=100000)) ((bX F0 d.2 0 (d.1.length:Int)).bind fun cg=>some (cg.1,())) (some (false,())):=by kernel_rfl
def o9:Any:=.one ⟨p8,aZ,1,fun x=>nQ F0 x.1⟩
theorem yz:bo 126 o9:=ay Zf ⟨dh,trivial⟩ func126 ab (by kernel_rfl)
def CF:Nat->Option Hint:=look [(2,{live:=[0,1,5],xl:=[0,1],rl:=[4]})]
def uY (a b:List Int)(i:Int):= cJ 32 [(0,jO 3 (.int .i64) a),(1,jO 3 (.int .i64) b),(5,bE i)]
def Sw (t4:Bool):= cJ 32 [(4,OV t4)]
def Bz (a b:List Int):= cJ 32 [(0,jO 3 (.int .i64) a),(1,jO 3 (.int .i64) b)]
def CG (st:St):Option α:=gA aE F CF [.r,.l,.r,.b,.i] f328 κ n st
def uZ:=jq aE F CF [.r,.l,.r,.b] f328 aZ 1
theorem Jw (a b:List Int)(i:Int):CG F κ (n+1) (uY a b i)=br (decide (i<(a.length:Int))) (br (decide (i<(b.length:Int))) (ck (cc i (a.length:Int)) (ck (cc i (b.length:Int)) (br ((aN a i 0) != (aN b i 0)) (κ .ret (Sw false)) (CG F κ n (uY a b (aj (i+1))))))) (κ (.exit 0) (Bz a b))) (κ (.exit 0) (Bz a b)):=by kernel_rfl
theorem afS (t4:Bool):uZ F .ret (Sw t4)=some (t4,()):=by kernel_rfl
theorem ac3 (a b:List Int):uZ F (.exit 0) (Bz a b)=some ((a.length:Int)==(b.length:Int),()):=by kernel_rfl
abbrev ajR:List (Ty×Bool):=[(.sl 3 (.int .i64),false),(.sl 3 (.int .i64),false)]
def El (a b:List Int):=bD aE F CF f328 ajR aZ 1 (a,b,())
theorem am8 (a b:List Int):El F a b=CG F (uZ F) F.n (uY a b 0):=by kernel_rfl
def Ft:Any:=.one ⟨ajR,aZ,1,fun x=>El F0 x.1 x.2.1⟩
theorem Vh:bo 328 Ft:=ay aE trivial func328 CF (by kernel_rfl)
def Zg:=[(328,Ft)]
def xr (a b:D9):=bD Zg F ab f293 xq aZ 1 (a,b,())
theorem am9 (a b:D9):xr F a b=br (a.1==b.1) (br (a.2.1.toList==b.2.1.toList) ((El F0 a.2.2 b.2.2).bind fun gB=>some (gB.1,())) (some (false,()))) (some (false,())):=by kernel_rfl
def u1:Any:=.one ⟨xq,aZ,1,fun x=>xr F0 x.1 x.2.1⟩
theorem Jx:bo 293 u1:=ay Zg ⟨Vh,trivial⟩ func293 ab (by kernel_rfl)
def O2:=[(293,u1)]
abbrev aCn:List (Ty×Bool):=[(K15,true),(K15,true)]
def yA (a b:D15):=bD O2 F ab f291 aCn aZ 1 (a,b,())
theorem ac4 (a b:D15):yA F a b=br (a.1.toList==b.1.toList) ((xr F0 a.2 b.2).bind fun oW=>some (oW.1,())) (some (false,())):=by kernel_rfl
def Jy:Any:=.one ⟨aCn,aZ,1,fun x=>yA F0 x.1 x.2.1⟩
theorem ac5:bo 291 Jy:=ay O2 ⟨Jx,trivial⟩ func291 ab (by kernel_rfl)
def Vi:=[(328,Ft)]
def Hp (a b:D9):=bD Vi F ab f292 xq aZ 1 (a,b,())
theorem ajS (a b:D9):Hp F a b=br (a.1==b.1) (br (a.2.1.toList==b.2.1.toList) ((El F0 a.2.2 b.2.2).bind fun gB=>some (gB.1,())) (some (false,()))) (some (false,())):=by kernel_rfl
def O3:Any:=.one ⟨xq,aZ,1,fun x=>Hp F0 x.1 x.2.1⟩
theorem ajT:bo 292 O3:=ay Vi ⟨Vh,trivial⟩ func292 ab (by kernel_rfl)
end
end Go.Am.Tryz
namespace Go.Am.Tryz
open Go.Am Go.Proofs Go.Proofs.Tryz
noncomputable section
variable {α:Type} (F:rT) (κ:Ex->St->Option α) (n:Nat)
def Vj:=[(291,Jy),(292,O3),(293,u1)]
abbrev aCo:List (Ty×Bool):=[(K21,true),(K21,true)]
def kY (a b:N6):=bD Vj F ab f242 aCo aZ 1 (a,b,())
theorem ajU (a b:N6):kY F a b=br (a.1==b.1) (br (a.2.1==b.2.1) ((yA F0 a.2.2.1 b.2.2.1).bind fun gB=>br gB.1 ((Hp F0 a.2.2.2.1 b.2.2.2.1).bind fun Ri=>br Ri.1 ((xr F0 a.2.2.2.2.1 b.2.2.2.2.1).bind fun r36=>br r36.1 (br (a.2.2.2.2.2.1==b.2.2.2.2.2.1) (some ((a.2.2.2.2.2.2.1==b.2.2.2.2.2.2.1)&&((a.2.2.2.2.2.2.2.1==b.2.2.2.2.2.2.2.1)&&((a.2.2.2.2.2.2.2.2.1==b.2.2.2.2.2.2.2.2.1)&&((a.2.2.2.2.2.2.2.2.2==b.2.2.2.2.2.2.2.2.2)&&true))),())) (some (false,()))) (some (false,()))) (some (false,()))) (some (false,()))) (some (false,()))) (some (false,())):=by kernel_rfl
def O4:Any:=.one ⟨aCo,aZ,1,fun x=>kY F0 x.1 x.2.1⟩
theorem ajV:bo 242 O4:=ay Vj ⟨ac5,ajT,Jx,trivial⟩ func242 ab (by kernel_rfl)
def Vk:=[(242,O4)]
abbrev xu:List (Ty×Bool):=[(K21,true)]
def Hq (m:N6):=bD Vk F ab f185 xu aZ 1 (m,())
theorem ajW (m:N6):Hq F m=br (m.1==1) ((kY F0 (m.1,0,m.2.2.1,(0,al,[]),(0,al,[]),0,0,0,0,0) m).bind fun Hr=>some (Hr.1,())) (br (m.1==2) ((kY F0 (m.1,0,(al,0,al,[]),m.2.2.2.1,(0,al,[]),0,0,0,0,0) m).bind fun Hr=>some (Hr.1,())) (br (m.1==3) ((kY F0 (m.1,m.2.1,(al,0,al,[]),(0,al,[]),m.2.2.2.2.1,m.2.2.2.2.2.1,0,0,0,0) m).bind fun Hr=>some (Hr.1,())) (br (m.1==4) ((kY F0 (m.1,0,(al,0,al,[]),(0,al,[]),(0,al,[]),0,m.2.2.2.2.2.2) m).bind fun Hr=>some (Hr.1,())) ((kY F0 (m.1,0,(al,0,al,[]),(0,al,[]),(0,al,[]),0,0,0,0,0) m).bind fun Hr=>some (Hr.1,()))))):=by kernel_rfl
def O5:Any:=.one ⟨xu,aZ,1,fun x=>Hq F0 x.1⟩
theorem ajX:bo 185 O5:=ay Vk ⟨ajV,trivial⟩ func185 ab (by kernel_rfl)
abbrev asJ:List (Ty×Bool):=[(.int .i64,false),(.int .i64,false)]
def ez (a b:Int):=bD aE F ab f60 asJ dv 1 (a,b,())
theorem Zh (a b:Int):ez F a b=br (decide (a>b)) (some (a,())) (some (b,())):=by kernel_rfl
def iu:Any:=.one ⟨asJ,dv,1,fun x=>ez F0 x.1 x.2.1⟩
theorem lO:bo 60 iu:=ay aE trivial func60 ab (by kernel_rfl)
def LM:=[(60,iu),(77,fx)]
def LN:Nat->Option Hint:=look [(4,{live:=[0,3],xl:=[0,3],rl:=[2]})]
def CH (s:ByteArray)(k:Int):= cJ 25 [(0,Y0 s),(3,bE k)]
def yB (s:ByteArray)(k:Int):= cJ 25 [(0,Y0 s),(3,bE k)]
def LO (st:St):Option α:=gA LM F LN [.r,.r,.r,.l,.b,.i] f170 κ n st
def Zi:=jq LM F LN [.r,.r,.r,.l,.b] f170 en 1
theorem O6 (s:ByteArray)(k:Int):LO F κ (n+1) (CH s k)=br (decide (k>0)) (ck (cc (aj (k-1)) (s.size:Int)) (br ((lL s (aj (k-1))) != 47) (LO F κ n (CH s (aj (k-1)))) (κ (.exit 0) (yB s k)))) (κ (.exit 0) (yB s k)):=by kernel_rfl
theorem ajY (s:ByteArray)(k:Int):Zi F (.exit 0) (yB s k)=(ez F0 (aj (k-1)) 0).bind fun sg=>ck (Si 0 sg.1 (s.size:Int)) (some (s.extract (0:Int).toNat sg.1.toNat,())):=by kernel_rfl
def aiu (s:ByteArray):=bD LM F LN f170 en en 1 (s,())
theorem ac6:∃f,f= @aiu:=⟨_,rfl⟩
def my:=Classical.choose ac6
theorem Zj: @my= @aiu:=Classical.choose_spec ac6
theorem auM (s:ByteArray):my F s=(fD F0 s).bind fun r5=>br (!r5.1) (some (al,())) (LO F (Zi F) F.n (CH s (s.size:Int))):=by rw[Zj];kernel_rfl
def uo:Any:=.one ⟨en,en,1,fun x=>my F0 x.1⟩
theorem Hs:bo 170 uo:=ok1 (show yd Tryz.prog TB LM from⟨lO,ir,trivial⟩) func170 (by kernel_rfl) (by kernel_rfl) LN (by rw[Zj];kernel_rfl)
def Vl:=[(77,fx),(115,gY),(170,uo)]
abbrev aCp:List (Ty×Bool):=[(K1,true),(K15,true)]
def n7 (c:D1)(b:D15):=bD Vl F ab f169 aCp aZ 1 (c,b,())
theorem ajZ (c:D1)(b:D15):n7 F c b=(kF F0 c b.2).bind fun r8=>br r8.1 ((fD F0 b.1).bind fun cR=>br cR.1 (br (!(b.1.toList==al.toList)) ((my F0 b.1).bind fun gB=>some (gB.1.toList==b.2.2.1.toList,())) (some (false,()))) (some (false,()))) (some (false,())):=by kernel_rfl
def mz:Any:=.one ⟨aCp,aZ,1,fun x=>n7 F0 x.1 x.2.1⟩
theorem u2:bo 169 mz:=ay Vl ⟨ir,kW,Hs,trivial⟩ func169 ab (by kernel_rfl)
def ac7:=[(35,dd),(72,cI),(115,gY),(169,mz),(181,lN),(183,o8),(185,O5)]
abbrev aiv:List (Ty×Bool):=[(K1,true),(K21,true)]
def fT (c:D1)(m:N6):=bD ac7 F ab f127 aiv aZ 1 (c,m,())
theorem aqY (c:D1)(m:N6):fT F c m=(ey F0 c).bind fun r6=>br (!r6.1) (some (false,())) ((Hq F0 m).bind fun gZ=>br (!gZ.1) (some (false,())) (br (m.1==1) ((n7 F0 c m.2.2.1).bind fun Ej=>some (Ej.1,())) (br (m.1==2) ((kX F0 c m.2.2.2.1).bind fun uc=>br uc.1 (some (!(m.2.2.2.1.2.1.toList==al.toList),())) (some (false,()))) (br (m.1==3) ((bX F0 m.2.1 1 60).bind fun Hr=>br Hr.1 ((kF F0 c m.2.2.2.2.1).bind fun r42=>br r42.1 ((bX F0 m.2.2.2.2.2.1 0 (aj (c.1-1))).bind fun Fb=>some (Fb.1,())) (some (false,()))) (some (false,()))) (br (m.1==4) ((sd F0 m.2.2.2.2.2.2).bind fun r56=>some (r56.1,())) (some (false,()))))))):=by kernel_rfl
def j6:Any:=.one ⟨aiv,aZ,1,fun x=>fT F0 x.1 x.2.1⟩
theorem pJ:bo 127 j6:=ay ac7 ⟨dQ,dh,kW,u2,se,yw,ajX,trivial⟩ func127 ab (by kernel_rfl)
def Ht:=[(35,dd),(72,cI),(123,iV),(124,Fs),(125,By),(126,o9),(127,j6)]
def Hu:Nat->Option Hint:=look [(4,{live:=[2,3,5],rl:=[4]})]
def yC (i c c1 r r1 r2 r3 r4 r5:Int)(r6:ByteArray)(r7:List Int)(r8:ByteArray)(r9:List D4)(gZ:List D9)(dC:List Int)(cR:Int)(cg:List lJ):= dY 102 [cL 2,cL 3,(5,bE i)] [(2,[aq c,aq c1]),(3,[aq r,aq r1,aq r2,aq r3,aq r4,aq r5,.str r6,.ro false 3 (.int .i64) r7,.str r8,.ro false 76 (K4) r9,.ro false 74 (K9) gZ,.ro false 5 (.int .u8) dC,aq cR,.ro false 146 (qN) cg])] []
def yD (t4:Bool):= cJ 102 [(4,OV t4)]
def Sx   := cJ 102 []
def Hv (st:St):Option α:=gA Ht F Hu [.r,.r,.l,.r,.b,.i] f73 κ n st
def yE:=jq Ht F Hu [.r,.r,.l,.r,.b] f73 aZ 1
theorem LP (i c c1 r r1 r2 r3 r4 r5:Int)(r6:ByteArray)(r7:List Int)(r8:ByteArray)(r9:List D4)(gZ:List D9)(dC:List Int)(cR:Int)(cg:List lJ):Hv F κ (n+1) (yC i c c1 r r1 r2 r3 r4 r5 r6 r7 r8 r9 gZ dC cR cg)=br (decide (i<(cg.length:Int))) (ck (cc i (cg.length:Int)) ((fT F0 (c,c1) (aN cg i qN.aF).2).bind fun r76=>br (!r76.1) (κ .ret (yD false)) (ck (cc i (cg.length:Int)) ((bX F0 (aN cg i qN.aF).1 0 (aj (c-1))).bind fun r88=>br (!r88.1) (κ .ret (yD false)) (ck (cc i (cg.length:Int)) (br ((aN cg i qN.aF).1==r) (κ .ret (yD false)) (Hv F κ n (yC (aj (i+1)) c c1 r r1 r2 r3 r4 r5 r6 r7 r8 r9 gZ dC cR cg)))))))) (κ (.exit 0) (Sx)):=by kernel_rfl
theorem aj0 (t4:Bool):yE F .ret (yD t4)=some (t4,()):=by kernel_rfl
theorem afT: yE F (.exit 0) (Sx)=some (true,()):=by kernel_rfl
abbrev AQ:List (Ty×Bool):=[(K1,true),(c8,true)]
def eb (c:D1)(r:bu):=bD Ht F Hu f73 AQ aZ 1 (c,r,())
theorem aqZ (c:D1)(r:bu):eb F c r=(ey F0 c).bind fun r7=>br (!r7.1) (some (false,())) ((bX F0 r.1 0 (aj (c.1-1))).bind fun oW=>br (!oW.1) (some (false,())) ((bX F0 r.2.1 1 60).bind fun gU=>br (!gU.1) (some (false,())) ((bX F0 r.2.2.1 0 60).bind fun BA=>br (!BA.1) (some (false,())) ((jG F0 c r.2.2.2.1).bind fun qM=>br (!qM.1) (some (false,())) ((Ek F0 r.2.2.2.2.1).bind fun xv=>br (!xv.1) (some (false,())) ((n6 F0 c r.2.2.2.2.2.1).bind fun pI=>br (!pI.1) (some (false,())) ((nQ F0 r.2.2.2.2.2.2.1).bind fun Y8=>br (!Y8.1) (some (false,())) (br (decide ((r.2.2.2.2.2.2.2.length:Int)>30)) (some (false,())) (Hv F (yE F) F.n (yC 0 c.1 c.2 r.1 r.2.1 r.2.2.1 r.2.2.2.1.1 r.2.2.2.1.2.1 r.2.2.2.1.2.2.1.1 r.2.2.2.1.2.2.1.2.1 r.2.2.2.1.2.2.1.2.2 r.2.2.2.1.2.2.2 r.2.2.2.2.1 r.2.2.2.2.2.1 r.2.2.2.2.2.2.1.1 r.2.2.2.2.2.2.1.2 r.2.2.2.2.2.2.2)))))))))):=by kernel_rfl
def cZ:Any:=.one ⟨AQ,aZ,1,fun x=>eb F0 x.1 x.2.1⟩
theorem dD:bo 73 cZ:=ay Ht ⟨dQ,dh,mw,Vg,Sv,yz,pJ,trivial⟩ func73 Hu (by kernel_rfl)
def Zk:=[(73,cZ)]
abbrev aiw:List (Ty×Bool):=[(K1,true),(.int .i64,false)]
abbrev hJ:List (Ty×Bool):=[(c8,true),(.bool,false)]
def LQ (c:D1)(id:Int):=bD Zk F ab f36 aiw hJ 2 (c,id,())
theorem ana (c:D1)(id:Int):LQ F c id=(eb F0 c (id,1,0,(0,0,(0,al,[]),al),[],[],([],0),[])).bind fun dC=>br (!dC.1) (some ((0,0,0,(0,0,(0,al,[]),al),[],[],([],0),[]),false,())) (some ((id,1,0,(0,0,(0,al,[]),al),[],[],([],0),[]),true,())):=by kernel_rfl
def Sy:Any:=.one ⟨aiw,hJ,2,fun x=>LQ F0 x.1 x.2.1⟩
theorem anb:bo 36 Sy:=ay Zk ⟨dD,trivial⟩ func36 ab (by kernel_rfl)
def Zl:=[(35,dd)]
def LR (c:D1):=bD Zl F ab f75 Sl dv 1 (c,())
theorem anc (c:D1):LR F c=(ey F0 c).bind fun r4=>br (!r4.1) (some (0,())) (some (aj (Int.tdiv (aj (c.1-1)) 3),())):=by kernel_rfl
def Sz:Any:=.one ⟨Sl,dv,1,fun x=>LR F0 x.1⟩
theorem ane:bo 75 Sz:=ay Zl ⟨dQ,trivial⟩ func75 ab (by kernel_rfl)
def CI:Nat->Option Hint:=look [(3,{live:=[0,1,7,8],rl:=[4,5,6]})]
def u3 (b:List Int)(iM n1 k:Int):= cJ 55 [(0,jO 5 (.int .u8) b),(1,bE iM),(7,bE n1),(8,bE k)]
def gr (t4 t5:Int)(t6:Bool):= cJ 55 [(4,bE t4),(5,bE t5),(6,OV t6)]
def O7   := cJ 55 []
def CJ (st:St):Option α:=gA aE F CI [.r,.r,.l,.r,.b,.i] f186 κ n st
abbrev asK:List (Ty×Bool):=[(.int .i64,false),(.int .i64,false),(.bool,false)]
def u4:=jq aE F CI [.r,.r,.l,.r,.b] f186 asK 1
theorem Jz (b:List Int)(iM n1 k:Int):CJ F κ (n+1) (u3 b iM n1 k)=br (decide (k<5)) (br (decide (iM<0)) (κ .ret (gr 0 0 false)) (br (decide (iM>=(aj ((b.length:Int)-k)))) (κ .ret (gr 0 0 false)) (ck (cc (aj (iM+k)) (b.length:Int)) (ck (decide (0<=(aj (7*k)))) (br (decide ((aj (aN b (aj (iM+k)) 0))<128)) (br (decide (k>0)) (br ((aj (aN b (aj (iM+k)) 0))==0) (κ .ret (gr 0 0 false)) (br (decide ((aj (((BitVec.ofInt 64 n1 ||| BitVec.ofInt 64 (aj ((Int.tmod (aj (aN b (aj (iM+k)) 0)) 128)*2 ^ (min (aj (7*k)).toNat 64)))).toNat:Int)))>2147483647)) (κ .ret (gr 0 0 false)) (κ .ret (gr (aj (((BitVec.ofInt 64 n1 ||| BitVec.ofInt 64 (aj ((Int.tmod (aj (aN b (aj (iM+k)) 0)) 128)*2 ^ (min (aj (7*k)).toNat 64)))).toNat:Int))) (aj ((aj (iM+k))+1)) true)))) (br (decide ((aj (((BitVec.ofInt 64 n1 ||| BitVec.ofInt 64 (aj ((Int.tmod (aj (aN b (aj (iM+k)) 0)) 128)*2 ^ (min (aj (7*k)).toNat 64)))).toNat:Int)))>2147483647)) (κ .ret (gr 0 0 false)) (κ .ret (gr (aj (((BitVec.ofInt 64 n1 ||| BitVec.ofInt 64 (aj ((Int.tmod (aj (aN b (aj (iM+k)) 0)) 128)*2 ^ (min (aj (7*k)).toNat 64)))).toNat:Int))) (aj ((aj (iM+k))+1)) true)))) (CJ F κ n (u3 b iM (aj (((BitVec.ofInt 64 n1 ||| BitVec.ofInt 64 (aj ((Int.tmod (aj (aN b (aj (iM+k)) 0)) 128)*2 ^ (min (aj (7*k)).toNat 64)))).toNat:Int))) (aj (k+1))))))))) (κ (.exit 0) (O7)):=by kernel_rfl
theorem BB (t4 t5:Int)(t6:Bool):u4 F .ret (gr t4 t5 t6)=some (t4,t5,t6,()):=by kernel_rfl
theorem ac8: u4 F (.exit 0) (O7)=some (0,0,false,()):=by kernel_rfl
abbrev aix:List (Ty×Bool):=[(.sl 5 (.int .u8),false),(.int .i64,false)]
def kZ (b:List Int)(iM:Int):=bD aE F CI f186 aix asK 1 (b,iM,())
theorem anf (b:List Int)(iM:Int):kZ F b iM=CJ F (u4 F) F.n (u3 b iM 0 0):=by kernel_rfl
def u5:Any:=.one ⟨aix,asK,1,fun x=>kZ F0 x.1 x.2.1⟩
theorem JA:bo 186 u5:=ay aE trivial func186 CI (by kernel_rfl)
def Zm:=[(186,u5)]
abbrev iN:List (Ty×Bool):=[(K32,true)]
def dt (c:D32):=Ei Zm F ab f128 iN 0 .cur dv iN 1 (c,())
theorem ang (c:D32):dt F c=(kZ F0 c.1 c.2.1).bind fun oW=>br (!oW.2.2.1) (some ((0,()),(c.1,c.2.1,false),())) (br (!c.2.2) (some ((0,()),(c.1,c.2.1,false),())) (some ((oW.1,()),(c.1,oW.2.1,c.2.2),()))):=by kernel_rfl
def pa:Any:=.two ⟨iN,0,.cur,dv,1,iN,fun x=>dt F0 x.1⟩
theorem yF:bo 128 pa:=U6 Zm ⟨JA,trivial⟩ func128 ab (by kernel_rfl)
def Vm:=[(186,u5)]
abbrev aCq:List (Ty×Bool):=[(.str,false),(.int .i64,false),(.bool,false)]
def Hw (b:List Int)(iM:Int):=bD Vm F ab f187 aix aCq 1 (b,iM,())
theorem aj1 (b:List Int)(iM:Int):Hw F b iM=(kZ F0 b iM).bind fun cg=>br (!cg.2.2.1) (some (al,0,false,())) (br (decide (cg.1>(aj ((b.length:Int)-cg.2.1)))) (some (al,0,false,())) (ck (Si cg.2.1 (aj (cg.2.1+cg.1)) (b.length:Int)) (some (strOf ((b.take (aj (cg.2.1+cg.1)).toNat).drop cg.2.1.toNat),aj (cg.2.1+cg.1),true,())))):=by kernel_rfl
def O8:Any:=.one ⟨aix,aCq,1,fun x=>Hw F0 x.1 x.2.1⟩
theorem aj2:bo 187 O8:=ay Vm ⟨JA,trivial⟩ func187 ab (by kernel_rfl)
def Vn:=[(187,O8)]
def n8 (c:D32):=Ei Vn F ab f129 iN 0 .cur en iN 1 (c,())
theorem aj3 (c:D32):n8 F c=(Hw F0 c.1 c.2.1).bind fun oW=>br (!oW.2.2.1) (some ((al,()),(c.1,c.2.1,false),())) (br (!c.2.2) (some ((al,()),(c.1,c.2.1,false),())) (some ((oW.1,()),(c.1,oW.2.1,c.2.2),()))):=by kernel_rfl
def sh:Any:=.two ⟨iN,0,.cur,en,1,iN,fun x=>n8 F0 x.1⟩
theorem Fu:bo 129 sh:=U6 Vn ⟨aj2,trivial⟩ func129 ab (by kernel_rfl)
def CK:=[(128,pa)]
def CL:Nat->Option Hint:=look [(4,{live:=[0,3,4,5],xl:=[3],rl:=[2]})]
def u6 (n1 i:Int)(aB:List Int)(au:Int)(ar:Bool)(xs:List Int):St:={nt:=28,tm:=[(0,.v (.c (.ptr 4000000 0))),(3,.v (.c (.own 1000000 none))),(4,bE n1),(5,bE i)],bx:=[(4000000,[.ro true 5 (.int .u8) aB,aq au,.bool ar])],bl:=[aA 1000000 3 (.int .i64) xs],sp:=.v (.c (.ptr 4000000 0))}
def si (aB:List Int)(au:Int)(ar:Bool)(xs:List Int):St:={nt:=28,tm:=[(3,.v (.c (.own 1000000 none)))],bx:=[(4000000,[.ro true 5 (.int .u8) aB,aq au,.bool ar])],bl:=[aA 1000000 3 (.int .i64) xs],sp:=.v (.c (.ptr 4000000 0))}
def CM (st:St):Option α:=gA CK F CL [.r,.r,.r,.l,.r,.b,.i] f131 κ n st
abbrev kB:List (Ty×Bool):=[(.sl 3 (.int .i64),false)]
def Fv:=axm CK F CL [.r,.r,.r,.l,.r,.b] f131 .cur kB iN 2
theorem JB (n1 i:Int)(aB:List Int)(au:Int)(ar:Bool)(xs:List Int):CM F κ (n+1) (u6 n1 i aB au ar xs)=br (decide (i<n1)) (br ar ((dt F0 (aB,au,ar)).bind fun gB=>ck (fe F xs.length [gB.1.1].length 8) (CM F κ n (u6 n1 (aj (i+1)) gB.2.1.1 gB.2.1.2.1 gB.2.1.2.2 (xs++[gB.1.1])))) (κ (.exit 0) (si aB au ar xs))) (κ (.exit 0) (si aB au ar xs)):=by kernel_rfl
theorem ac9 (aB:List Int)(au:Int)(ar:Bool)(xs:List Int):Fv F (.exit 0) (si aB au ar xs)=some ((xs,()),(aB,au,ar),()):=by kernel_rfl
def Em (c:D32):=Ei CK F CL f131 iN 0 .cur kB iN 2 (c,())
theorem anh (c:D32):Em F c=(dt F0 c).bind fun r9=>CM F (Fv F) F.n (u6 r9.1.1 0 r9.2.1.1 r9.2.1.2.1 r9.2.1.2.2 []):=by kernel_rfl
def Fw:Any:=.two ⟨iN,0,.cur,kB,2,iN,fun x=>Em F0 x.1⟩
theorem Vo:bo 131 Fw:=U6 CK ⟨yF,trivial⟩ func131 CL (by kernel_rfl)
def ada:=[(128,pa),(129,sh),(131,Fw)]
abbrev gV:List (Ty×Bool):=[(K9,true)]
def BC (c:D32):=Ei ada F ab f130 iN 0 .cur gV iN 2 (c,())
theorem aq0 (c:D32):BC F c=(dt F0 c).bind fun r6=>(n8 F0 r6.2.1).bind fun r9=>(Em F0 r9.2.1).bind fun cR=>some (((r6.1.1,r9.1.1,cR.1.1),()),cR.2.1,()):=by kernel_rfl
def JC:Any:=.two ⟨iN,0,.cur,gV,2,iN,fun x=>BC F0 x.1⟩
theorem Zn:bo 130 JC:=U6 ada ⟨yF,Fu,Vo,trivial⟩ func130 ab (by kernel_rfl)
def adb:=[(127,j6),(128,pa),(129,sh),(130,JC),(131,Fw)]
abbrev SA:List (Ty×Bool):=[(K1,true),(.sl 5 (.int .u8),false)]
abbrev aCr:List (Ty×Bool):=[(K21,true),(.bool,false)]
def JD (c:D1)(b:List Int):=bD adb F ab f76 SA aCr 2 (c,b,())
theorem aq1 (c:D1)(b:List Int):JD F c b=(dt F0 (b,0,true)).bind fun cg=>br (cg.1.1==1) ((n8 F0 cg.2.1).bind fun Ej=>(BC F0 Ej.2.1).bind fun r24=>br (!r24.2.1.2.2) (some ((0,0,(al,0,al,[]),(0,al,[]),(0,al,[]),0,0,0,0,0),false,())) (br (r24.2.1.2.1 != (b.length:Int)) (some ((0,0,(al,0,al,[]),(0,al,[]),(0,al,[]),0,0,0,0,0),false,())) ((fT F0 c (cg.1.1,0,(Ej.1.1,r24.1.1),(0,al,[]),(0,al,[]),0,0,0,0,0)).bind fun r87=>br (!r87.1) (some ((0,0,(al,0,al,[]),(0,al,[]),(0,al,[]),0,0,0,0,0),false,())) (some ((cg.1.1,0,(Ej.1.1,r24.1.1),(0,al,[]),(0,al,[]),0,0,0,0,0),true,()))))) (br (cg.1.1==2) ((dt F0 cg.2.1).bind fun En=>(n8 F0 En.2.1).bind fun qM=>(Em F0 qM.2.1).bind fun Um=>br (!Um.2.1.2.2) (some ((0,0,(al,0,al,[]),(0,al,[]),(0,al,[]),0,0,0,0,0),false,())) (br (Um.2.1.2.1 != (b.length:Int)) (some ((0,0,(al,0,al,[]),(0,al,[]),(0,al,[]),0,0,0,0,0),false,())) ((fT F0 c (cg.1.1,0,(al,0,al,[]),(En.1.1,qM.1.1,Um.1.1),(0,al,[]),0,0,0,0,0)).bind fun r87=>br (!r87.1) (some ((0,0,(al,0,al,[]),(0,al,[]),(0,al,[]),0,0,0,0,0),false,())) (some ((cg.1.1,0,(al,0,al,[]),(En.1.1,qM.1.1,Um.1.1),(0,al,[]),0,0,0,0,0),true,()))))) (br (cg.1.1==3) ((dt F0 cg.2.1).bind fun r44=>(dt F0 r44.2.1).bind fun pI=>(BC F0 pI.2.1).bind fun Fb=>br (!Fb.2.1.2.2) (some ((0,0,(al,0,al,[]),(0,al,[]),(0,al,[]),0,0,0,0,0),false,())) (br (Fb.2.1.2.1 != (b.length:Int)) (some ((0,0,(al,0,al,[]),(0,al,[]),(0,al,[]),0,0,0,0,0),false,())) ((fT F0 c (cg.1.1,r44.1.1,(al,0,al,[]),(0,al,[]),Fb.1.1,pI.1.1,0,0,0,0)).bind fun r87=>br (!r87.1) (some ((0,0,(al,0,al,[]),(0,al,[]),(0,al,[]),0,0,0,0,0),false,())) (some ((cg.1.1,r44.1.1,(al,0,al,[]),(0,al,[]),Fb.1.1,pI.1.1,0,0,0,0),true,()))))) (br (cg.1.1==4) ((dt F0 cg.2.1).bind fun r55=>(dt F0 r55.2.1).bind fun r59=>(dt F0 r59.2.1).bind fun r63=>(dt F0 r63.2.1).bind fun r67=>br (!r67.2.1.2.2) (some ((0,0,(al,0,al,[]),(0,al,[]),(0,al,[]),0,0,0,0,0),false,())) (br (r67.2.1.2.1 != (b.length:Int)) (some ((0,0,(al,0,al,[]),(0,al,[]),(0,al,[]),0,0,0,0,0),false,())) ((fT F0 c (cg.1.1,0,(al,0,al,[]),(0,al,[]),(0,al,[]),0,r55.1.1,r59.1.1,r63.1.1,r67.1.1)).bind fun r87=>br (!r87.1) (some ((0,0,(al,0,al,[]),(0,al,[]),(0,al,[]),0,0,0,0,0),false,())) (some ((cg.1.1,0,(al,0,al,[]),(0,al,[]),(0,al,[]),0,r55.1.1,r59.1.1,r63.1.1,r67.1.1),true,()))))) (br (!cg.2.1.2.2) (some ((0,0,(al,0,al,[]),(0,al,[]),(0,al,[]),0,0,0,0,0),false,())) (br (cg.2.1.2.1 != (b.length:Int)) (some ((0,0,(al,0,al,[]),(0,al,[]),(0,al,[]),0,0,0,0,0),false,())) ((fT F0 c (cg.1.1,0,(al,0,al,[]),(0,al,[]),(0,al,[]),0,0,0,0,0)).bind fun r87=>br (!r87.1) (some ((0,0,(al,0,al,[]),(0,al,[]),(0,al,[]),0,0,0,0,0),false,())) (some ((cg.1.1,0,(al,0,al,[]),(0,al,[]),(0,al,[]),0,0,0,0,0),true,())))))))):=by kernel_rfl
def JE:Any:=.one ⟨SA,aCr,2,fun x=>JD F0 x.1 x.2.1⟩
theorem Zo:bo 76 JE:=ay adb ⟨pJ,yF,Fu,Zn,Vo,trivial⟩ func76 ab (by kernel_rfl)
def iv:=[(35,dd),(72,cI),(73,cZ),(74,yu),(75,Sz),(76,JE),(77,fx),(78,dR)]
def iw:Nat->Option Hint:=look [(4,{live:=[1,3],xl:=[1],rl:=[2]}),(9,{live:=[1,4],xl:=[1],rl:=[2]}),(15,{live:=[1,7],rl:=[2]})]
def mA (i w w1:Int)(w2:List Int)(w3:List bu)(w4:List cG)(w5:List cl):= dY 147 [cL 1,(7,bE i)] [(1,[aq w,aq w1,.ro false 3 (.int .i64) w2,.ro false 50 (c8) w3,.ro false 114 (fC) w4,.ro false 127 (dP) w5])] []
def sj (t2:Bool):= cJ 147 [(2,OV t2)]
def LS   := cJ 147 []
def qY (st:St):Option α:=gA iv F iw [.r,.r,.r,.r,.l,.r,.b,.i] f37 κ n st
def mB:=jq iv F iw [.r,.r,.r,.r,.l,.r,.b] f37 aZ 1
def mC (i w w1:Int)(w2:List Int)(w3:List bu)(w4:List cG)(w5:List cl):= dY 147 [cL 1,(4,bE i)] [(1,[aq w,aq w1,.ro false 3 (.int .i64) w2,.ro false 50 (c8) w3,.ro false 114 (fC) w4,.ro false 127 (dP) w5])] []
def BD (t2:Bool):= cJ 147 [(2,OV t2)]
def LU (w w1:Int)(w2:List Int)(w3:List bu)(w4:List cG)(w5:List cl):= dY 147 [cL 1] [(1,[aq w,aq w1,.ro false 3 (.int .i64) w2,.ro false 50 (c8) w3,.ro false 114 (fC) w4,.ro false 127 (dP) w5])] []
def qZ (st:St):Option α:=gA iv F iw [.r,.r,.r,.l,.r,.b,.i] f37 κ n st
def mD:=jq iv F iw [.r,.r,.r,.l,.r,.b] f37 aZ 1
def mE (i w w1:Int)(w2:List Int)(w3:List bu)(w4:List cG)(w5:List cl):= dY 147 [cL 1,(3,bE i)] [(1,[aq w,aq w1,.ro false 3 (.int .i64) w2,.ro false 50 (c8) w3,.ro false 114 (fC) w4,.ro false 127 (dP) w5])] []
def BE (t2:Bool):= cJ 147 [(2,OV t2)]
def LV (w w1:Int)(w2:List Int)(w3:List bu)(w4:List cG)(w5:List cl):= dY 147 [cL 1] [(1,[aq w,aq w1,.ro false 3 (.int .i64) w2,.ro false 50 (c8) w3,.ro false 114 (fC) w4,.ro false 127 (dP) w5])] []
def q0 (st:St):Option α:=gA iv F iw [.r,.r,.l,.r,.b,.i] f37 κ n st
def mF:=jq iv F iw [.r,.r,.l,.r,.b] f37 aZ 1
theorem Gb (i w w1:Int)(w2:List Int)(w3:List bu)(w4:List cG)(w5:List cl):qY F κ (n+1) (mA i w w1 w2 w3 w4 w5)=br (decide (i<(w5.length:Int))) (ck (cc i (w5.length:Int)) ((bX F0 (aN w5 i dP.aF).2.2 0 (aj (w-1))).bind fun aOA=>br (!aOA.1) (κ .ret (sj false)) ((fD F0 (aN w5 i dP.aF).2.1).bind fun aOB=>br (!aOB.1) (κ .ret (sj false)) ((dZ F0 (aN w5 i dP.aF).2.1).bind fun aOC=>br (aOC.1 != (aN w5 i dP.aF).1) (κ .ret (sj false)) (qY F κ n (mA (aj (i+1)) w w1 w2 w3 w4 w5)))))) (κ (.exit 4) (LS)):=by kernel_rfl
theorem Gc (i w w1:Int)(w2:List Int)(w3:List bu)(w4:List cG)(w5:List cl):qZ F κ (n+1) (mC i w w1 w2 w3 w4 w5)=br (decide (i<(w4.length:Int))) (ck (cc i (w4.length:Int)) ((JD F0 (w,w1) (aN w4 i (0,[])).2).bind fun r94=>br (!r94.2.1) (κ .ret (BD false)) (ck (cc i (w4.length:Int)) ((bX F0 (aN w4 i (0,[])).1 0 (aj (w-1))).bind fun ani=>br (!ani.1) (κ .ret (BD false)) (qZ F κ n (mC (aj (i+1)) w w1 w2 w3 w4 w5)))))) (κ (.exit 2) (LU w w1 w2 w3 w4 w5)):=by kernel_rfl
theorem Ge (i w w1:Int)(w2:List Int)(w3:List bu)(w4:List cG)(w5:List cl):q0 F κ (n+1) (mE i w w1 w2 w3 w4 w5)=br (decide (i<(w3.length:Int))) (ck (cc i (w3.length:Int)) (br ((aN w3 i c8.aF).1 != i) (κ .ret (BE false)) (ck (cc i (w3.length:Int)) ((eb F0 (w,w1) (aN w3 i c8.aF)).bind fun LW=>br (!LW.1) (κ .ret (BE false)) (q0 F κ n (mE (aj (i+1)) w w1 w2 w3 w4 w5)))))) (κ (.exit 0) (LV w w1 w2 w3 w4 w5)):=by kernel_rfl
theorem ade (t2:Bool):mB F .ret (sj t2)=some (t2,()):=by kernel_rfl
theorem aa3: mB F (.exit 4) (LS)=some (true,()):=by kernel_rfl
theorem adf (t2:Bool):mD F .ret (BD t2)=some (t2,()):=by kernel_rfl
theorem aa4 (w w1:Int)(w2:List Int)(w3:List bu)(w4:List cG)(w5:List cl):mD F (.exit 2) (LU w w1 w2 w3 w4 w5)=qY F (mB F) F.n (mA 0 w w1 w2 w3 w4 w5):=by kernel_rfl
theorem adg (t2:Bool):mF F .ret (BE t2)=some (t2,()):=by kernel_rfl
theorem aa5 (w w1:Int)(w2:List Int)(w3:List bu)(w4:List cG)(w5:List cl):mF F (.exit 0) (LV w w1 w2 w3 w4 w5)=qZ F (mD F) F.n (mC 0 w w1 w2 w3 w4 w5):=by kernel_rfl
abbrev gu:List (Ty×Bool):=[(iL,true)]
def yG (w:oV):=bD iv F iw f37 gu aZ 1 (w,())
theorem aj4 (w:oV):yG F w=(ey F0 w.1).bind fun dC=>br (!dC.1) (some (false,())) ((Bw F0 w.1.1 w.2.1).bind fun dL=>br (!dL.1) (some (false,())) ((LR F0 w.1).bind fun Vc=>br (decide ((w.2.1.length:Int)>Vc.1)) (some (false,())) (br ((w.2.2.1.length:Int) != w.1.1) (some (false,())) (br (decide ((w.2.2.2.1.length:Int)>60)) (some (false,())) (br (decide ((w.2.2.2.2.length:Int)>300)) (some (false,())) (q0 F (mF F) F.n (mE 0 w.1.1 w.1.2 w.2.1 w.2.2.1 w.2.2.2.1 w.2.2.2.2))))))):=by kernel_rfl
def O9:Any:=.one ⟨gu,aZ,1,fun x=>yG F0 x.1⟩
theorem aj5:bo 37 O9:=ay iv ⟨dQ,dh,dD,N8,ane,Zo,ir,fj,trivial⟩ func37 iw (by kernel_rfl)
def u7:=[(35,dd),(36,Sy),(37,O9)]
def u9:Nat->Option Hint:=look [(3,{live:=[2,4,6,7],x7:=[(4,2,3,.int .i64),(4,3,50,c8),(4,4,114,fC),(4,5,127,dP),(6,3,50,c8),(6,4,114,fC),(6,5,127,dP)],xl:=[4,6],rl:=[4,5]})]
def p9 (i c c1 t4 t41 w w1:Int)(xs:List Int)(aK:List bu)(aV:List cG)(bm:List cl)(bK:List Int)(cA:List bu)(cB:List cG)(cE:List cl):= dY 42 [cL 2,cL 4,cL 6,(7,bE i)] [(2,[aq c,aq c1]),(4,[aq t4,aq t41,.own 1000000 none,.own 1000001 none,.own 1000002 none,.own 1000003 none]),(6,[aq w,aq w1,.own 1000004 none,.own 1000005 none,.own 1000006 none,.own 1000007 none])] [aA 1000000 3 (.int .i64) xs,aA 1000001 50 c8 aK,aA 1000002 114 fC aV,aA 1000003 127 dP bm,aA 1000004 3 (.int .i64) bK,aA 1000005 50 c8 cA,aA 1000006 114 fC cB,aA 1000007 127 dP cE]
def wM (t4 t41 w w1:Int)(xs:List Int)(aK:List bu)(aV:List cG)(bm:List cl)(bK:List Int)(cA:List bu)(cB:List cG)(cE:List cl):= dY 42 [cL 4,cL 6] [(4,[aq t4,aq t41,.own 1000000 none,.own 1000001 none,.own 1000002 none,.own 1000003 none]),(6,[aq w,aq w1,.own 1000004 none,.own 1000005 none,.own 1000006 none,.own 1000007 none])] [aA 1000000 3 (.int .i64) xs,aA 1000001 50 c8 aK,aA 1000002 114 fC aV,aA 1000003 127 dP bm,aA 1000004 3 (.int .i64) bK,aA 1000005 50 c8 cA,aA 1000006 114 fC cB,aA 1000007 127 dP cE]
def vd (st:St):Option α:=gA u7 F u9 [.r,.r,.l,.r,.b,.i] f9 κ n st
abbrev asM:List (Ty×Bool):=[(iL,true),(.bool,false)]
def yH:=jq u7 F u9 [.r,.r,.l,.r,.b] f9 asM 2
theorem Eo (i c c1 t4 t41 w w1:Int)(xs:List Int)(aK:List bu)(aV:List cG)(bm:List cl)(bK:List Int)(cA:List bu)(cB:List cG)(cE:List cl):vd F κ (n+1) (p9 i c c1 t4 t41 w w1 xs aK aV bm bK cA cB cE)=br (decide (i<c)) ((ey F0 (c,c1)).bind fun gU=>br gU.1 ((LQ F0 (c,c1) i).bind fun Vc=>ck (fe F cA.length [Vc.1].length 208) (vd F κ n (p9 (aj (i+1)) c c1 t4 t41 w w1 xs aK aV bm bK (cA++[Vc.1]) cB cE))) (κ (.exit 0) (wM t4 t41 w w1 xs aK aV bm bK cA cB cE))) (κ (.exit 0) (wM t4 t41 w w1 xs aK aV bm bK cA cB cE)):=by kernel_rfl
theorem Yj (t4 t41 w w1:Int)(xs:List Int)(aK:List bu)(aV:List cG)(bm:List cl)(bK:List Int)(cA:List bu)(cB:List cG)(cE:List cl):yH F (.exit 0) (wM t4 t41 w w1 xs aK aV bm bK cA cB cE)=(yG F0 ((w,w1),bK,cA,cB,cE)).bind fun Um=>br (!Um.1) (some (((0,0),[],[],[],[]),false,())) (some (((w,w1),bK,cA,cB,cE),true,())):=by kernel_rfl
abbrev aCs:List (Ty×Bool):=[(K1,true),(.sl 3 (.int .i64),false)]
def lP (c:D1)(liars:List Int):=bD u7 F u9 f9 aCs asM 2 (c,liars,())
theorem afU (c:D1)(liars:List Int):lP F c liars=ck (fe F 0 liars.length 8) (vd F (yH F) F.n (p9 0 c.1 c.2 0 0 c.1 c.2 [] [] [] [] ([]++liars) [] [] [])):=by kernel_rfl
def yI:Any:=.one ⟨aCs,asM,2,fun x=>lP F0 x.1 x.2.1⟩
theorem Pb:bo 9 yI:=ay u7 ⟨dQ,anb,aj5,trivial⟩ func9 u9 (by kernel_rfl)
def Gf:=[(9,yI),(27,eR),(56,n5),(57,o5)]
def qa (c:D2):=Ei Gf F ab f25 j3 0 .cur gu j3 2 (c,())
theorem Vp (c:D2):qa F c=(j4 F0 c [4,4,4,5,7]).bind fun r9=>(ax F0 r9.2.1 3).bind fun dC=>(nO F0 dC.2.1 3).bind fun nL=>br (!nL.1.1) ((ax F0 nL.2.1 r9.1.1).bind fun gU=>(lP F0 (r9.1.1,aj (1+dC.1.1)) [gU.1.1]).bind fun uc=>some ((uc.1,()),gU.2.1,())) ((lP F0 (r9.1.1,aj (1+dC.1.1)) []).bind fun uc=>some ((uc.1,()),nL.2.1,())):=by kernel_rfl
def AW:Any:=.two ⟨j3,0,.cur,gu,2,j3,fun x=>qa F0 x.1⟩
theorem Vq:bo 25 AW:=U6 Gf ⟨Pb,gq,yh,yi,trivial⟩ func25 ab (by kernel_rfl)
def jH (q:D9):=bD aE F ab f117 gV gV 2 (q,())
theorem anj (q:D9):jH F q=ck (fe F 0 q.2.2.length 8) (some ((q.1,q.2.1,[]++q.2.2),())):=by kernel_rfl
def iW:Any:=.one ⟨gV,gV,2,fun x=>jH F0 x.1⟩
theorem mG:bo 117 iW:=ay aE trivial func117 ab (by kernel_rfl)
def Vr:=[(117,iW)]
abbrev AX:List (Ty×Bool):=[(K12,true)]
def n9 (s:Ua):=bD Vr F ab f102 AX AX 2 (s,())
theorem aj6 (s:Ua):n9 F s=(jH F0 s.2.2.1).bind fun r5=>some ((s.1,s.2.1,r5.1,s.2.2.2),()):=by kernel_rfl
def mH:Any:=.one ⟨AX,AX,2,fun x=>n9 F0 x.1⟩
theorem ve:bo 102 mH:=ay Vr ⟨mG,trivial⟩ func102 ab (by kernel_rfl)
def hU (p:D9):=bD aE F ab f164 gV gV 2 (p,())
theorem aj7 (p:D9):hU F p=ck (fe F 0 p.2.2.length 8) (some ((p.1,p.2.1,[]++p.2.2),())):=by kernel_rfl
def jP:Any:=.one ⟨gV,gV,2,fun x=>hU F0 x.1⟩
theorem pb:bo 164 jP:=ay aE trivial func164 ab (by kernel_rfl)
def vf:=[(164,jP)]
def vg:Nat->Option Hint:=look [(3,{live:=[0,3,4],xl:=[3],rl:=[2]})]
def qb (list:List D9)(i:Int)(xs:List D9):= dY 21 [(0,jO 74 (K9) list),(3,.v (.c (.own 1000000 none))),(4,bE i)] [] [aA 1000000 74 K9 xs]
def JF (xs:List D9):= dY 21 [(3,.v (.c (.own 1000000 none)))] [] [aA 1000000 74 K9 xs]
def vh (st:St):Option α:=gA vf F vg [.r,.r,.l,.r,.b,.i] f103 κ n st
abbrev Gg:List (Ty×Bool):=[(K13,false)]
def yJ:=jq vf F vg [.r,.r,.l,.r,.b] f103 Gg 2
theorem Ep (list:List D9)(i:Int)(xs:List D9):vh F κ (n+1) (qb list i xs)=br (decide (i<(list.length:Int))) (ck (cc i (list.length:Int)) ((hU F0 (aN list i K9.aF)).bind fun fv=>ck (fe F xs.length [fv.1].length 48) (vh F κ n (qb list (aj (i+1)) (xs++[fv.1]))))) (κ (.exit 0) (JF xs)):=by kernel_rfl
theorem Yk (xs:List D9):yJ F (.exit 0) (JF xs)=some (xs,()):=by kernel_rfl
def hY (list:D13):=bD vf F vg f103 Gg Gg 2 (list,())
theorem afV (list:D13):hY F list=vh F (yJ F) F.n (qb list 0 []):=by kernel_rfl
def yK:Any:=.one ⟨Gg,Gg,2,fun x=>hY F0 x.1⟩
theorem Pc:bo 103 yK:=ay vf ⟨pb,trivial⟩ func103 vg (by kernel_rfl)
def jt (d:D14):=bD aE F ab f104 p8 p8 2 (d,())
theorem aj8 (d:D14):jt F d=ck (fe F 0 d.1.length 1) (some (([]++d.1,d.2),())):=by kernel_rfl
def mI:Any:=.one ⟨p8,p8,2,fun x=>jt F0 x.1⟩
theorem vi:bo 104 mI:=ay aE trivial func104 ab (by kernel_rfl)
def Zp:=[(117,iW)]
abbrev aiy:List (Ty×Bool):=[(K15,true)]
def LX (b:D15):=bD Zp F ab f224 aiy aiy 2 (b,())
theorem ank (b:D15):LX F b=(jH F0 b.2).bind fun r7=>some ((b.1,r7.1),()):=by kernel_rfl
def SB:Any:=.one ⟨aiy,aiy,2,fun x=>LX F0 x.1⟩
theorem anl:bo 224 SB:=ay Zp ⟨mG,trivial⟩ func224 ab (by kernel_rfl)
def Vs:=[(117,iW),(164,jP),(224,SB)]
def yL (m:N6):=bD Vs F ab f165 xu xu 2 (m,())
theorem aj9 (m:N6):yL F m=(LX F0 m.2.2.1).bind fun r5=>(hU F0 m.2.2.2.1).bind fun r9=>(jH F0 m.2.2.2.2.1).bind fun cg=>some ((m.1,m.2.1,r5.1,r9.1,cg.1,m.2.2.2.2.2),()):=by kernel_rfl
def BF:Any:=.one ⟨xu,xu,2,fun x=>yL F0 x.1⟩
theorem SC:bo 165 BF:=ay Vs ⟨mG,pb,anl,trivial⟩ func165 ab (by kernel_rfl)
def vj:=[(165,BF)]
def vk:Nat->Option Hint:=look [(3,{live:=[0,3,4],xl:=[3],rl:=[2]})]
def qd (list:List lJ)(i:Int)(xs:List lJ):= dY 28 [(0,jO 146 (qN) list),(3,.v (.c (.own 1000000 none))),(4,bE i)] [] [aA 1000000 146 qN xs]
def JG (xs:List lJ):= dY 28 [(3,.v (.c (.own 1000000 none)))] [] [aA 1000000 146 qN xs]
def vl (st:St):Option α:=gA vj F vk [.r,.r,.l,.r,.b,.i] f105 κ n st
abbrev Zq:List (Ty×Bool):=[(K23,false)]
def yM:=jq vj F vk [.r,.r,.l,.r,.b] f105 Zq 2
theorem Es (list:List lJ)(i:Int)(xs:List lJ):vl F κ (n+1) (qd list i xs)=br (decide (i<(list.length:Int))) (ck (cc i (list.length:Int)) (ck (cc i (list.length:Int)) ((yL F0 (aN list i qN.aF).2).bind fun sg=>ck (fe F xs.length [((aN list i qN.aF).1,sg.1)].length 224) (vl F κ n (qd list (aj (i+1)) (xs++[((aN list i qN.aF).1,sg.1)])))))) (κ (.exit 0) (JG xs)):=by kernel_rfl
theorem Yl (xs:List lJ):yM F (.exit 0) (JG xs)=some (xs,()):=by kernel_rfl
def uq (list:D23):=bD vj F vk f105 Zq Zq 2 (list,())
theorem afW (list:D23):uq F list=vl F (yM F) F.n (qd list 0 []):=by kernel_rfl
def yN:Any:=.one ⟨Zq,Zq,2,fun x=>uq F0 x.1⟩
theorem Pd:bo 105 yN:=ay vj ⟨SC,trivial⟩ func105 vk (by kernel_rfl)
end
end Go.Am.Tryz
