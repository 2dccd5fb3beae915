/- Lemmas for the claim. No condition. -/
import Derived.Test.YtfapcfpkbahneaaGreatDoorProg
import Derived.Test.YtfapcfpkbahneaaGreatDoorQlVJS1
set_option linter.all false
set_option maxRecDepth 100000
namespace Go.Am.Tryz
open Go.Am Go.Proofs Go.Proofs.Tryz
abbrev K1:Ty:=.pair (.int .i64) (.int .i64)
abbrev D1:=Int×Int
abbrev K2:Ty:=.pair (.sl 5 (.int .u8)) (K1)
abbrev D2:=List Int×D1
abbrev K3:Ty:=.pair (.int .i64) (K1)
abbrev D3:=Int×D1
abbrev K4:Ty:=.pair (.int .i64) (K3)
abbrev D4:=Int×D3
abbrev K5:Ty:=.sl 76 (K4)
abbrev D5:=List D4
abbrev K6:Ty:=.pair (.int .i64) (K5)
abbrev D6:=Int×D5
abbrev K7:Ty:=.sl 157 (K6)
abbrev K8:Ty:=.pair (.str) (.sl 3 (.int .i64))
abbrev D8:=ByteArray×List Int
abbrev K9:Ty:=.pair (.int .i64) (K8)
abbrev D9:=Int×D8
abbrev K10:Ty:=.pair (K9) (.str)
abbrev D10:=D9×ByteArray
abbrev K11:Ty:=.pair (.int .i64) (K10)
abbrev D11:=Int×D10
abbrev K12:Ty:=.pair (.int .i64) (K11)
abbrev TF:=Int×D11
abbrev K13:Ty:=.sl 74 (K9)
abbrev D13:=List D9
abbrev K14:Ty:=.pair (.sl 5 (.int .u8)) (.int .i64)
abbrev D14:=List Int×Int
abbrev K15:Ty:=.pair (.str) (K9)
abbrev D15:=ByteArray×D9
abbrev K16:Ty:=.pair (.int .i64) (K4)
abbrev D16:=Int×D4
abbrev K17:Ty:=.pair (K9) (K16)
abbrev D17:=D9×D16
abbrev K18:Ty:=.pair (K9) (K17)
abbrev D18:=D9×D17
abbrev K19:Ty:=.pair (K15) (K18)
abbrev D19:=D15×D18
abbrev K20:Ty:=.pair (.int .i64) (K19)
abbrev D20:=Int×D19
abbrev K21:Ty:=.pair (.int .i64) (K20)
abbrev NA:=Int×D20
abbrev qK:Ty:=.pair (.int .i64) (K21)
abbrev lL:=Int×NA
abbrev K23:Ty:=.sl 146 (qK)
abbrev D23:=List lL
abbrev K24:Ty:=.pair (K14) (K23)
abbrev D24:=D14×D23
abbrev K25:Ty:=.pair (K13) (K24)
abbrev D25:=D13×D24
abbrev K26:Ty:=.pair (K5) (K25)
abbrev D26:=D5×D25
abbrev K27:Ty:=.pair (K12) (K26)
abbrev D27:=TF×D26
abbrev K28:Ty:=.pair (.int .i64) (K27)
abbrev D28:=Int×D27
abbrev K29:Ty:=.pair (.int .i64) (K28)
abbrev D29:=Int×D28
abbrev db:Ty:=.pair (.int .i64) (K29)
abbrev bz:=Int×D29
abbrev K31:Ty:=.pair (.int .i64) (.bool)
abbrev D31:=Int×Bool
abbrev K32:Ty:=.pair (.sl 5 (.int .u8)) (K31)
abbrev D32:=List Int×D31
abbrev K33:Ty:=.sl 50 (db)
abbrev D33:=List bz
abbrev fU:Ty:=.pair (.int .i64) (.sl 5 (.int .u8))
abbrev cU:=Int×List Int
abbrev K35:Ty:=.sl 114 (fU)
abbrev D35:=List cU
abbrev K36:Ty:=.pair (.str) (.int .i64)
abbrev D36:=ByteArray×Int
abbrev eh:Ty:=.pair (.int .i64) (K36)
abbrev cE:=Int×D36
abbrev K38:Ty:=.sl 127 (eh)
abbrev D38:=List cE
abbrev K39:Ty:=.pair (K35) (K38)
abbrev D39:=D35×D38
abbrev K40:Ty:=.pair (K33) (K39)
abbrev D40:=D33×D39
abbrev K41:Ty:=.pair (.sl 3 (.int .i64)) (K40)
abbrev D41:=List Int×D40
abbrev iM:Ty:=.pair (K1) (K41)
abbrev pt:=D1×D41
abbrev K43:Ty:=.pair (.sl 3 (.int .i64)) (.sl 3 (.int .i64))
abbrev D43:=List Int×List Int
abbrev K44:Ty:=.pair (.int .i64) (qK)
abbrev D44:=Int×lL
abbrev K45:Ty:=.pair (.int .i64) (K44)
abbrev D45:=Int×D44
abbrev K46:Ty:=.sl 80 (K45)
abbrev D46:=List D45
def ab:Nat→Option Hint:=look []
def aF:List (Nat×Any):=[]
noncomputable section
variable {α:Type} (C:List (Nat×Any)) (F:rQ) (H:Nat→Option Hint)
abbrev bm (f:Nat)(c:Any):Prop:=tD Tryz.prog TB f c
def bF (fn:Func)(ps rs:List (Ty×Bool))(m:Nat)(x:Args ps):=aJB Tryz.prog (look C) F H fn ps rs m x
def DX (fn:Func)(ps:List (Ty×Bool))(i:Nat)(pm:PM)(rs qs:List (Ty×Bool))(m:Nat)(x:Args ps):=aBl Tryz.prog (look C) F H fn ps i pm rs qs m x
def gW (p:List At)(fn:Func)(κ:Ex→St→Option α)(n:Nat)(st:St):Option α:=lp Tryz.prog (look C) F H (sub p (nO fn)) κ n st
def jF (p:List At)(fn:Func)(rs:List (Ty×Bool))(m:Nat):=alH Tryz.prog (look C) F H p (nO fn) (fin Tryz.prog fn rs m)
def awP (p:List At)(fn:Func)(pm:PM)(rs qs:List (Ty×Bool))(m:Nat):=alH Tryz.prog (look C) F H p (nO fn) (aLk Tryz.prog fn pm rs qs m)
def er (n:Nat)(t:List (Nat×AV))(b:List (Nat×List AC))(l:List (Nat×Option gq)):St:={nt:=n,tm:=t,bx:=b,bl:=l}
def cV (n:Nat)(t:List (Nat×AV)):St:={nt:=n,tm:=t,bx:=[],bl:=[]}
def bR (t:Int):AV:=.v (.c (.int .i64 t))
def aq (t:Int):AC:=.int .i64 t
def cS (d:Nat):Nat×AV:=(d,.v (.c (.ptr d 0)))
abbrev al:ByteArray:=ByteArray.mk #[]
def aB (i:Nat)(e:TypeId)(t:Ty)(x:List t.D):Nat×Option gq:=(i,some ⟨e,t,x,true,true⟩)
def RP (b:Bool):AV:=.v (.c (.bool b))
def Yl (b:ByteArray):AV:=.v (.c (.str b))
def jO (e:Nat)(t:Ty)(x:List t.D):AV:=.v (.c (.ro false e t x))
theorem aA {f : FuncId} {fn : Func} (l : List (Nat × Any)) (hl : x8 Tryz.prog TB l) (hf : Tryz.prog.funcs[f]? = some fn) (H : Nat → Option Hint) {ps rs : List (Ty × Bool)} {m : Nat} {g : Args ps → Option (Args rs)} (hg : (fn.name == "runtime.NumGoroutine" || fn.body.isNone, fun x => bF l F0 H fn ps rs m x) = (false, g)) : bm f (.one ⟨ps, rs, m, g⟩) :=
 ok1 hl hf (ahg.1 (Prod.mk.inj hg).1).1 (ahg.1 (Prod.mk.inj hg).1).2 H (Prod.mk.inj hg).2
theorem azK {f : FuncId} {fn : Func} (l : List (Nat × Any)) (hl : x8 Tryz.prog TB l) (hf : Tryz.prog.funcs[f]? = some fn) (H : Nat → Option Hint) {ps rs : List (Ty × Bool)} {i m : Nat} {pm : PM} {g : Args ps → Option (Args rs × Args [])} (hg : (fn.name == "runtime.NumGoroutine" || fn.body.isNone, fun x => DX l F0 H fn ps i pm rs [] m x) = (false, g)) : bm f (.two ⟨ps, i, pm, rs, m, [], g⟩) :=
 ok2 hl hf (ahg.1 (Prod.mk.inj hg).1).1 (ahg.1 (Prod.mk.inj hg).1).2 H (Prod.mk.inj hg).2
theorem Uy {f : FuncId} {fn : Func} (l : List (Nat × Any)) (hl : x8 Tryz.prog TB l) (hf : Tryz.prog.funcs[f]? = some fn) (H : Nat → Option Hint) {ps rs : List (Ty × Bool)} {i m : Nat} {pm : PM} {p : Ty × Bool} {g : Args ps → Option (Args rs × Args [p])} (hg : (nN ps i, fn.name == "runtime.NumGoroutine" || fn.body.isNone, fun x => DX l F0 H fn ps i pm rs [p] m x) = (some p, false, g)) : bm f (.two ⟨ps, i, pm, rs, m, [p], g⟩) :=
 ok3 hl hf (ahg.1 (Prod.mk.inj (Prod.mk.inj hg).2).1).1 (ahg.1 (Prod.mk.inj (Prod.mk.inj hg).2).1).2 H (Prod.mk.inj hg).1 (Prod.mk.inj (Prod.mk.inj hg).2).2
end
noncomputable section
variable {α:Type} (F:rQ) (κ:Ex→St→Option α) (n:Nat)
abbrev aZ:List (Ty×Bool):=[(.bool,false)]
abbrev mn:List (Ty×Bool):=[(.sl 5 (.int .u8),false)]
def aml (code:List Int):=bF aF F ab f6 mn aZ 1 (code,())
theorem awQ (code:List Int):aml F code=some (decide ((code.length:Int)>1048576),()):=by kernel_rfl
def acm:Any:=.one ⟨mn,aZ,1,fun x=>aml F0 x.1⟩
theorem awR:bm 6 acm:=aA aF trivial func6 ab (by kernel_rfl)
def GS:Nat→Option Hint:=look [(3,{live:=[0,3,4],xl:=[0,3],rl:=[2]})]
def yb (code:List Int)(h i:Int)(p:List Int):St:={nt:=32,tm:=[(0,jO 5 (.int .u8) code),(3,bR h),(4,bR i)],bx:=[],bl:=[],sp:=jO 5 (.int .u8) p}
def E6 (code:List Int)(h:Int)(p:List Int):St:={nt:=32,tm:=[(0,jO 5 (.int .u8) code),(3,bR h)],bx:=[],bl:=[],sp:=jO 5 (.int .u8) p}
def GU (st:St):Option α:=gW aF F GS [.r,.r,.l,.r,.b,.i] f24 κ n st
abbrev jX:List (Ty×Bool):=[(K2,true)]
def I4:=awP aF F GS [.r,.r,.l,.r,.b] f24 .rd jX [] 5
theorem Ld (code:List Int)(h i:Int)(p:List Int):GU F κ (n+1) (yb code h i p)=br (decide (i<(code.length:Int))) (br (decide (i<4000)) (ck (cl i (code.length:Int)) (GU F κ n (yb code (aj (((BitVec.ofInt 64 (aj ((aj ((aj (h*131))+(aj (aP code i 0))))+7)) &&& BitVec.ofInt 64 1073741823).toNat:Int))) (aj (i+1)) p))) (κ (.exit 0) (E6 code h p))) (κ (.exit 0) (E6 code h p)):=by kernel_rfl
theorem Ol (code:List Int)(h:Int)(p:List Int):I4 F (.exit 0) (E6 code h p)=some (((code,0,h),()),()):=by kernel_rfl
def I5 (code:List Int):=DX aF F GS f24 mn 0 .rd jX [] 5 (code,())
theorem aqj (code:List Int):I5 F code=GU F (I4 F) F.n (yb code (aj (26583+(code.length:Int))) 0 code):=by kernel_rfl
def Uz:Any:=.two ⟨mn,0,.rd,jX,5,[],fun x=>I5 F0 x.1⟩
theorem aqk:bm 24 Uz:=azK aF trivial func24 GS (by kernel_rfl)
abbrev dD:List (Ty×Bool):=[(.int .i64,false)]
def kP (c:D2):=DX aF F ab f59 jX 0 .cur dD jX 1 (c,())
theorem amm (c:D2):kP F c=br (decide (c.2.1<(c.1.length:Int))) (ck (cl c.2.1 (c.1.length:Int)) (some ((aj (((BitVec.ofInt 64 (aj ((aj (((BitVec.ofInt 64 (aj (((BitVec.ofInt 64 (Int.fdiv (aj ((aj (c.2.2*6364136223846793005))+1442695040888963407)) (2 ^ (min (33:Int).toNat 64))) ^^^ BitVec.ofInt 64 (Int.fdiv (aj ((aj (c.2.2*6364136223846793005))+1442695040888963407)) (2 ^ (min (45:Int).toNat 64)))).toNat:Int))) &&& BitVec.ofInt 64 255).toNat:Int)))+(aj (aP c.1 c.2.1 0)))) &&& BitVec.ofInt 64 255).toNat:Int)),()),(c.1,aj (c.2.1+1),aj ((aj (c.2.2*6364136223846793005))+1442695040888963407)),()))) (some ((aj (((BitVec.ofInt 64 (aj (((BitVec.ofInt 64 (Int.fdiv (aj ((aj (c.2.2*6364136223846793005))+1442695040888963407)) (2 ^ (min (33:Int).toNat 64))) ^^^ BitVec.ofInt 64 (Int.fdiv (aj ((aj (c.2.2*6364136223846793005))+1442695040888963407)) (2 ^ (min (45:Int).toNat 64)))).toNat:Int))) &&& BitVec.ofInt 64 255).toNat:Int)),()),(c.1,c.2.1,aj ((aj (c.2.2*6364136223846793005))+1442695040888963407)),())):=by kernel_rfl
def RQ:Any:=.two ⟨jX,0,.cur,dD,1,jX,fun x=>kP F0 x.1⟩
theorem amn:bm 59 RQ:=Uy aF trivial func59 ab (by kernel_rfl)
def UA:=[(59,RQ)]
abbrev aBR:List (Ty×Bool):=[(K2,true),(.int .i64,false)]
def ax (c:D2)(n1:Int):=DX UA F ab f27 aBR 0 .cur dD jX 1 (c,n1,())
theorem RR (c:D2)(n1:Int):ax F c n1=br (decide (n1≤0)) (some ((0,()),c,())) (br (decide (n1≤256)) ((kP F0 c).bind fun lM=>ck (!(n1==0)) (some ((Int.tmod lM.1.1 n1,()),lM.2.1,()))) ((kP F0 c).bind fun QO=>(kP F0 QO.2.1).bind fun DY=>(kP F0 DY.2.1).bind fun gr=>(kP F0 gr.2.1).bind fun r24=>ck (!(n1==0)) (some ((Int.tmod (aj ((aj ((aj ((aj (QO.1.1*16777216))+(aj (DY.1.1*65536))))+(aj (gr.1.1*256))))+r24.1.1)) n1,()),r24.2.1,())))):=by kernel_rfl
def eV:Any:=.two ⟨aBR,0,.cur,dD,1,jX,fun x=>ax F0 x.1 x.2.1⟩
theorem gu:bm 27 eV:=Uy UA ⟨amn,trivial⟩ func27 ab (by kernel_rfl)
def Om:=[(27,eV)]
abbrev aFW:List (Ty×Bool):=[(K2,true),(.sl 3 (.int .i64),false)]
def jY (c:D2)(list:List Int):=DX Om F ab f56 aFW 0 .cur dD jX 1 (c,list,())
theorem acn (c:D2)(list:List Int):jY F c list=(ax F0 c (list.length:Int)).bind fun r9=>ck (cl r9.1.1 (list.length:Int)) (some ((aP list r9.1.1 0,()),r9.2.1,())):=by kernel_rfl
def nS:Any:=.two ⟨aFW,0,.cur,dD,1,jX,fun x=>jY F0 x.1 x.2.1⟩
theorem yc:bm 56 nS:=Uy Om ⟨gu,trivial⟩ func56 ab (by kernel_rfl)
def Ym:=[(27,eV)]
def nG (c:D2)(n1:Int):=DX Ym F ab f57 aBR 0 .cur aZ jX 1 (c,n1,())
theorem amo (c:D2)(n1:Int):nG F c n1=(ax F0 c n1).bind fun r7=>some ((r7.1.1==0,()),r7.2.1,()):=by kernel_rfl
def oR:Any:=.two ⟨aBR,0,.cur,aZ,1,jX,fun x=>nG F0 x.1 x.2.1⟩
theorem yd:bm 57 oR:=Uy Ym ⟨gu,trivial⟩ func57 ab (by kernel_rfl)
abbrev aBS:List (Ty×Bool):=[(.int .i64,false),(.int .i64,false),(.int .i64,false)]
def bZ (x lo hi:Int):=bF aF F ab f72 aBS aZ 1 (x,lo,hi,())
theorem aua (x lo hi:Int):bZ F x lo hi=br (decide (x≥lo)) (some (decide (x≤hi),())) (some (false,())):=by kernel_rfl
def cK:Any:=.one ⟨aBS,aZ,1,fun x=>bZ F0 x.1 x.2.1 x.2.2.1⟩
theorem dh:bm 72 cK:=aA aF trivial func72 ab (by kernel_rfl)
def Yn:=[(72,cK)]
abbrev RS:List (Ty×Bool):=[(K1,true)]
def eC (c:D1):=bF Yn F ab f35 RS aZ 1 (c,())
theorem amp (c:D1):eC F c=(bZ F0 c.1 4 7).bind fun r5=>br r5.1 ((bZ F0 c.2 1 6).bind fun r9=>some (r9.1,())) (some (false,())):=by kernel_rfl
def de:Any:=.one ⟨RS,aZ,1,fun x=>eC F0 x.1⟩
theorem dV:bm 35 de:=aA Yn ⟨dh,trivial⟩ func35 ab (by kernel_rfl)
def GV:Nat→Option Hint:=look [(4,{live:=[0,1,5,6,7],xl:=[5],rl:=[4]})]
def mo (s:ByteArray)(by1 eX i:Int)(xs:List ByteArray):= er 36 [(0,Yl s),(1,.v (.c (.int .u8 by1))),(5,.v (.c (.own 1000000 none))),(6,bR eX),(7,bR i)] [] [aB 1000000 9 (.str) xs]
def RT (xs:List ByteArray):= er 36 [(5,.v (.c (.own 1000000 none)))] [] [aB 1000000 9 (.str) xs]
def rX (st:St):Option α:=gW aF F GV [.r,.r,.r,.l,.r,.b,.i] f188 κ n st
abbrev awS:List (Ty×Bool):=[(.sl 9 (.str),false)]
def I6:=jF aF F GV [.r,.r,.r,.l,.r,.b] f188 awS 2
theorem Le (s:ByteArray)(by1 eX i:Int)(xs:List ByteArray):rX F κ (n+1) (mo s by1 eX i xs)=br (decide (i≤(s.size:Int))) (br (i==(s.size:Int)) (ck (RN eX i (s.size:Int)) (ck (fg F xs.length [s.extract eX.toNat i.toNat].length 16) (rX F κ n (mo s by1 (aj (i+1)) (aj (i+1)) (xs++[s.extract eX.toNat i.toNat]))))) (ck (cl i (s.size:Int)) (br ((lN s i)==by1) (ck (RN eX i (s.size:Int)) (ck (fg F xs.length [s.extract eX.toNat i.toNat].length 16) (rX F κ n (mo s by1 (aj (i+1)) (aj (i+1)) (xs++[s.extract eX.toNat i.toNat]))))) (rX F κ n (mo s by1 eX (aj (i+1)) xs))))) (κ (.exit 0) (RT xs)):=by kernel_rfl
theorem afb (xs:List ByteArray):I6 F (.exit 0) (RT xs)=some (xs,()):=by kernel_rfl
abbrev Yo:List (Ty×Bool):=[(.str,false),(.int .u8,false)]
def wB (s:ByteArray)(by1:Int):=bF aF F GV f188 Yo awS 2 (s,by1,())
theorem aql (s:ByteArray)(by1:Int):wB F s by1=rX F (I6 F) F.n (mo s by1 0 0 []):=by kernel_rfl
def I7:Any:=.one ⟨Yo,awS,2,fun x=>wB F0 x.1 x.2.1⟩
theorem Yp:bm 188 I7:=aA aF trivial func188 GV (by kernel_rfl)
def GW:Nat→Option Hint:=look [(2,{live:=[0,1,7],rl:=[4,5,6]})]
def ye (s:ByteArray)(by1 i:Int):= cV 26 [(0,Yl s),(1,.v (.c (.int .u8 by1))),(7,bR i)]
def UB (t4 t5:ByteArray)(t6:Bool):= cV 26 [(4,Yl t4),(5,Yl t5),(6,RP t6)]
def RU   := cV 26 []
def GX (st:St):Option α:=gW aF F GW [.r,.l,.r,.b,.i] f189 κ n st
abbrev aFX:List (Ty×Bool):=[(.str,false),(.str,false),(.bool,false)]
def yf:=jF aF F GW [.r,.l,.r,.b] f189 aFX 1
theorem Lf (s:ByteArray)(by1 i:Int):GX F κ (n+1) (ye s by1 i)=br (decide (i<(s.size:Int))) (ck (cl i (s.size:Int)) (br ((lN s i)==by1) (ck (RN 0 i (s.size:Int)) (ck (RN (aj (i+1)) (s.size:Int) (s.size:Int)) (κ .ret (UB (s.extract (0:Int).toNat i.toNat) (s.extract (aj (i+1)).toNat (s.size:Int).toNat) true)))) (GX F κ n (ye s by1 (aj (i+1)))))) (κ (.exit 0) (RU)):=by kernel_rfl
theorem ajf (t4 t5:ByteArray)(t6:Bool):yf F .ret (UB t4 t5 t6)=some (t4,t5,t6,()):=by kernel_rfl
theorem afc: yf F (.exit 0) (RU)=some (al,al,false,()):=by kernel_rfl
def iV (s:ByteArray)(by1:Int):=bF aF F GW f189 Yo aFX 1 (s,by1,())
theorem aqm (s:ByteArray)(by1:Int):iV F s by1=GX F (yf F) F.n (ye s by1 0):=by kernel_rfl
def I8:Any:=.one ⟨Yo,aFX,1,fun x=>iV F0 x.1 x.2.1⟩
theorem Yq:bm 189 I8:=aA aF trivial func189 GW (by kernel_rfl)
def Cn:Nat→Option Hint:=look [(5,{live:=[0,3,4],xl:=[3,4],rl:=[2]})]
def oS (n1:Int)(below:Bool)(out:ByteArray):= cV 31 [(0,bR n1),(3,RP below),(4,Yl out)]
def On (below:Bool)(out:ByteArray):= cV 31 [(3,RP below),(4,Yl out)]
def uc (st:St):Option α:=gW aF F Cn [.r,.r,.r,.r,.l,.b,.i] f226 κ n st
abbrev ew:List (Ty×Bool):=[(.str,false)]
def E7:=jF aF F Cn [.r,.r,.r,.r,.l,.b] f226 ew 1
theorem I9 (n1:Int)(below:Bool)(out:ByteArray):uc F κ (n+1) (oS n1 below out)=br (n1 != 0) (br (decide ((Int.tmod n1 10)<0)) (ck (okC F (strOf [IntKind.wrap .u8 (aj (48+(aj (0-(Int.tmod n1 10)))))]).size out.size) (uc F κ n (oS (aj (Int.tdiv n1 10)) below ((strOf [IntKind.wrap .u8 (aj (48+(aj (0-(Int.tmod n1 10)))))])++out)))) (ck (okC F (strOf [IntKind.wrap .u8 (aj (48+(Int.tmod n1 10)))]).size out.size) (uc F κ n (oS (aj (Int.tdiv n1 10)) below ((strOf [IntKind.wrap .u8 (aj (48+(Int.tmod n1 10)))])++out))))) (κ (.exit 0) (On below out)):=by kernel_rfl
theorem aco (below:Bool)(out:ByteArray):E7 F (.exit 0) (On below out)=br below (ck (okC F (ByteArray.mk #[45]).size out.size) (some ((ByteArray.mk #[45])++out,()))) (some (out,())):=by kernel_rfl
def kQ (n1:Int):=bF aF F Cn f226 dD ew 1 (n1,())
theorem amq (n1:Int):kQ F n1=br (n1==0) (some (ByteArray.mk #[48],())) (uc F (E7 F) F.n (oS n1 (decide (n1<0)) al)):=by kernel_rfl
def uK:Any:=.one ⟨dD,ew,1,fun x=>kQ F0 x.1⟩
theorem Ja:bm 226 uK:=aA aF trivial func226 Cn (by kernel_rfl)
def Co:=[(226,uK)]
def Cp:Nat→Option Hint:=look [(5,{live:=[0,4,5],xl:=[0,4],rl:=[2,3]})]
def uL (s:ByteArray)(n1 i:Int):= cV 43 [(0,Yl s),(4,bR n1),(5,bR i)]
def E8 (t2:Int)(t3:Bool):= cV 43 [(2,bR t2),(3,RP t3)]
def Oo (s:ByteArray)(n1:Int):= cV 43 [(0,Yl s),(4,bR n1)]
def Cq (st:St):Option α:=gW Co F Cp [.r,.r,.r,.l,.r,.b,.i] f190 κ n st
abbrev ar9:List (Ty×Bool):=[(.int .i64,false),(.bool,false)]
def uM:=jF Co F Cp [.r,.r,.r,.l,.r,.b] f190 ar9 1
theorem Jb (s:ByteArray)(n1 i:Int):Cq F κ (n+1) (uL s n1 i)=br (decide (i<(s.size:Int))) (ck (cl i (s.size:Int)) (br (decide ((lN s i)<48)) (κ .ret (E8 0 false)) (ck (cl i (s.size:Int)) (br (decide ((lN s i)>57)) (κ .ret (E8 0 false)) (ck (cl i (s.size:Int)) (Cq F κ n (uL s (aj ((aj ((aj (10*n1))+(aj (lN s i))))-48)) (aj (i+1))))))))) (κ (.exit 0) (Oo s n1)):=by kernel_rfl
theorem afd (t2:Int)(t3:Bool):uM F .ret (E8 t2 t3)=some (t2,t3,()):=by kernel_rfl
theorem acp (s:ByteArray)(n1:Int):uM F (.exit 0) (Oo s n1)=(kQ F0 n1).bind fun Qs=>br (!(Qs.1.toList==s.toList)) (some (0,false,())) (some (n1,true,())):=by kernel_rfl
def nH (s:ByteArray):=bF Co F Cp f190 ew ar9 1 (s,())
theorem amr (s:ByteArray):nH F s=br (decide ((s.size:Int)<1)) (some (0,false,())) (br (decide ((s.size:Int)>6)) (some (0,false,())) (Cq F (uM F) F.n (uL s 0 0))):=by kernel_rfl
def E9:Any:=.one ⟨ew,ar9,1,fun x=>nH F0 x.1⟩
theorem UC:bm 190 E9:=aA Co ⟨Ja,trivial⟩ func190 Cp (by kernel_rfl)
def ahN:=[(72,cK)]
abbrev Yr:List (Ty×Bool):=[(K4,true)]
def rY (x:D4):=bF ahN F ab f181 Yr aZ 1 (x,())
theorem aub (x:D4):rY F x=(bZ F0 x.1 0 3).bind fun r5=>br r5.1 ((bZ F0 x.2.1 0 3).bind fun r9=>br r9.1 ((bZ F0 x.2.2.1 0 1000).bind fun lM=>br lM.1 ((bZ F0 x.2.2.2 0 99).bind fun dM=>some (dM.1,())) (some (false,()))) (some (false,()))) (some (false,())):=by kernel_rfl
def lO:Any:=.one ⟨Yr,aZ,1,fun x=>rY F0 x.1⟩
theorem rZ:bm 181 lO:=aA ahN ⟨dh,trivial⟩ func181 ab (by kernel_rfl)
def Ys:=[(181,lO),(226,uK)]
def xf (x:D4):=bF Ys F ab f271 Yr ew 1 (x,())
theorem ams (x:D4):xf F x=(rY F0 x).bind fun r4=>br (!r4.1) (some (al,())) ((kQ F0 x.1).bind fun r8=>ck (okC F r8.1.size (ByteArray.mk #[62]).size) ((kQ F0 x.2.1).bind fun cN=>ck (okC F (r8.1++(ByteArray.mk #[62])).size cN.1.size) (ck (okC F ((r8.1++(ByteArray.mk #[62]))++cN.1).size (ByteArray.mk #[58]).size) ((kQ F0 x.2.2.1).bind fun fh=>ck (okC F (((r8.1++(ByteArray.mk #[62]))++cN.1)++(ByteArray.mk #[58])).size fh.1.size) (ck (okC F ((((r8.1++(ByteArray.mk #[62]))++cN.1)++(ByteArray.mk #[58]))++fh.1).size (ByteArray.mk #[35]).size) ((kQ F0 x.2.2.2).bind fun gr=>ck (okC F (((((r8.1++(ByteArray.mk #[62]))++cN.1)++(ByteArray.mk #[58]))++fh.1)++(ByteArray.mk #[35])).size gr.1.size) (some ((((((r8.1++(ByteArray.mk #[62]))++cN.1)++(ByteArray.mk #[58]))++fh.1)++(ByteArray.mk #[35]))++gr.1,())))))))):=by kernel_rfl
def Fa:Any:=.one ⟨Yr,ew,1,fun x=>xf F0 x.1⟩
theorem UD:bm 271 Fa:=aA Ys ⟨rZ,Ja,trivial⟩ func271 ab (by kernel_rfl)
def ahO:=[(189,I8),(190,E9),(271,Fa)]
abbrev aBT:List (Ty×Bool):=[(K4,true),(.bool,false)]
def W0 (s:ByteArray):=bF ahO F ab f243 ew aBT 1 (s,())
theorem auc (s:ByteArray):W0 F s=(iV F0 s 62).bind fun oM=>(iV F0 oM.2.1 58).bind fun gr=>(iV F0 gr.2.1 35).bind fun UE=>(nH F0 oM.1).bind fun r35=>(nH F0 gr.1).bind fun r41=>(nH F0 UE.1).bind fun px=>(nH F0 UE.2.1).bind fun Yt=>br (s.toList==al.toList) (some ((0,0,0,0),false,())) ((xf F0 (r35.1,r41.1,px.1,Yt.1)).bind fun Ix=>br (!(Ix.1.toList==s.toList)) (some ((0,0,0,0),false,())) (some ((r35.1,r41.1,px.1,Yt.1),true,()))):=by kernel_rfl
def Yu:Any:=.one ⟨ew,aBT,1,fun x=>W0 F0 x.1⟩
theorem aud:bm 243 Yu:=aA ahO ⟨Yq,UC,UD,trivial⟩ func243 ab (by kernel_rfl)
def GY:=[(188,I7),(243,Yu)]
def GZ:Nat→Option Hint:=look [(6,{live:=[4,5,6],xl:=[4],rl:=[2,3]})]
def yg (i:Int)(xs:List D4)(aO:List ByteArray):= er 37 [(4,.v (.c (.own 1000000 none))),(5,.v (.c (.own 1000001 none))),(6,bR i)] [] [aB 1000000 76 K4 xs,aB 1000001 9 (.str) aO]
def UF (t3:Bool)(xs:List D4):= er 37 [(2,.v (.c (.own 1000000 none))),(3,RP t3)] [] [aB 1000000 76 K4 xs]
def RV (xs:List D4):= er 37 [(4,.v (.c (.own 1000000 none)))] [] [aB 1000000 76 K4 xs]
def G5 (st:St):Option α:=gW GY F GZ [.r,.r,.r,.r,.l,.r,.b,.i] f191 κ n st
abbrev UG:List (Ty×Bool):=[(K5,false),(.bool,false)]
def yh:=jF GY F GZ [.r,.r,.r,.r,.l,.r,.b] f191 UG 2
theorem Lg (i:Int)(xs:List D4)(aO:List ByteArray):G5 F κ (n+1) (yg i xs aO)=br (decide (i<(aO.length:Int))) (ck (cl i (aO.length:Int)) ((W0 F0 (aP aO i ByteArray.empty)).bind fun xg=>br (!xg.2.1) (κ .ret (UF false [])) (ck (fg F xs.length [xg.1].length 32) (G5 F κ n (yg (aj (i+1)) (xs++[xg.1]) aO))))) (κ (.exit 0) (RV xs)):=by kernel_rfl
theorem ajg (t3:Bool)(xs:List D4):yh F .ret (UF t3 xs)=some (xs,t3,()):=by kernel_rfl
theorem afe (xs:List D4):yh F (.exit 0) (RV xs)=some (xs,true,()):=by kernel_rfl
def Bg (s:ByteArray):=bF GY F GZ f191 ew UG 2 (s,())
theorem aqn (s:ByteArray):Bg F s=br (s.toList==al.toList) (some ([],true,())) ((wB F0 s 44).bind fun lM=>G5 F (yh F) F.n (yg 0 [] lM.1)):=by kernel_rfl
def UH:Any:=.one ⟨ew,UG,2,fun x=>Bg F0 x.1⟩
theorem aqo:bm 191 UH:=aA GY ⟨Yp,aud,trivial⟩ func191 GZ (by kernel_rfl)
def G6:=[(188,I7),(189,I8),(190,E9),(191,UH)]
def G7:Nat→Option Hint:=look [(10,{live:=[4,5,6,7,8],xl:=[5],rl:=[2,3]})]
def yi (last i:Int)(xs aO:List D6)(aY:List ByteArray):= er 91 [(4,.v (.c (.own 1000000 none))),(5,.v (.c (.own 1000001 none))),(6,.v (.c (.own 1000002 none))),(7,bR last),(8,bR i)] [] [aB 1000000 157 K6 xs,aB 1000001 157 K6 aO,aB 1000002 9 (.str) aY]
def jZ (t3:Bool)(xs:List D6):= er 91 [(2,.v (.c (.own 1000000 none))),(3,RP t3)] [] [aB 1000000 157 K6 xs]
def RW (xs:List D6):= er 91 [(5,.v (.c (.own 1000000 none)))] [] [aB 1000000 157 K6 xs]
def G8 (st:St):Option α:=gW G6 F G7 [.r,.r,.r,.r,.r,.r,.r,.l,.r,.b,.i] f132 κ n st
abbrev asa:List (Ty×Bool):=[(K7,false),(.bool,false)]
def yj:=jF G6 F G7 [.r,.r,.r,.r,.r,.r,.r,.l,.r,.b] f132 asa 2
theorem Lh (last i:Int)(xs aO:List D6)(aY:List ByteArray):G8 F κ (n+1) (yi last i xs aO aY)=br (decide (i<(aY.length:Int))) (ck (cl i (aY.length:Int)) ((iV F0 (aP aY i ByteArray.empty) 124).bind fun r44=>(nH F0 r44.1).bind fun EY=>(Bg F0 r44.2.1).bind fun r55=>br (!r44.2.2.1) (κ .ret (jZ false xs)) (br (!EY.2.1) (κ .ret (jZ false xs)) (br (!r55.2.1) (κ .ret (jZ false xs)) (br (decide (EY.1≤last)) (κ .ret (jZ false xs)) (br (decide (EY.1>60)) (κ .ret (jZ false xs)) (br (decide ((r55.1.length:Int)>2)) (κ .ret (jZ false xs)) (ck (fg F aO.length [(EY.1,r55.1)].length 32) (G8 F κ n (yi EY.1 (aj (i+1)) xs (aO++[(EY.1,r55.1)]) aY)))))))))) (κ (.exit 0) (RW aO)):=by kernel_rfl
theorem RX (t3:Bool)(xs:List D6):yj F .ret (jZ t3 xs)=some (xs,t3,()):=by kernel_rfl
theorem aff (xs:List D6):yj F (.exit 0) (RW xs)=some (xs,true,()):=by kernel_rfl
def qQ (s:ByteArray):=bF G6 F G7 f132 ew asa 2 (s,())
theorem aqp (s:ByteArray):qQ F s=br (s.toList==al.toList) (some ([],true,())) ((wB F0 s 47).bind fun gr=>ck (cl 0 (gr.1.length:Int)) (br (!((aP gr.1 0 ByteArray.empty).toList==al.toList)) (some ([],false,())) (br (decide ((gr.1.length:Int)>31)) (some ([],false,())) (G8 F (yj F) F.n (yi 0 1 [] [] gr.1))))):=by kernel_rfl
def qR:Any:=.one ⟨ew,asa,2,fun x=>qQ F0 x.1⟩
theorem Cr:bm 132 qR:=aA G6 ⟨Yp,Yq,UC,aqo,trivial⟩ func132 G7 (by kernel_rfl)
def Yv:=[(132,qR)]
def fF (s:ByteArray):=bF Yv F ab f77 ew aZ 1 (s,())
theorem amt (s:ByteArray):fF F s=(qQ F0 s).bind fun r7=>some (r7.2.1,()):=by kernel_rfl
def fA:Any:=.one ⟨ew,aZ,1,fun x=>fF F0 x.1⟩
theorem iv:bm 77 fA:=aA Yv ⟨Cr,trivial⟩ func77 ab (by kernel_rfl)
def Yw:=[(132,qR)]
def ea (s:ByteArray):=bF Yw F ab f78 ew dD 1 (s,())
theorem amu (s:ByteArray):ea F s=(qQ F0 s).bind fun r7=>br (!r7.2.1) (some (0,())) (br ((r7.1.length:Int)==0) (some (0,())) (ck (cl (aj ((r7.1.length:Int)-1)) (r7.1.length:Int)) (some ((aP r7.1 (aj ((r7.1.length:Int)-1)) (0,[])).1,())))):=by kernel_rfl
def dW:Any:=.one ⟨ew,dD,1,fun x=>ea F0 x.1⟩
theorem fo:bm 78 dW:=aA Yw ⟨Cr,trivial⟩ func78 ab (by kernel_rfl)
def G9:Nat→Option Hint:=look [(2,{live:=[0,1,5],rl:=[4]})]
def qS (n1:Int)(s:List Int)(i:Int):= cV 41 [(0,bR n1),(1,jO 3 (.int .i64) s),(5,bR i)]
def yk (t4:Bool):= cV 41 [(4,RP t4)]
def RY   := cV 41 []
def yl (st:St):Option α:=gW aF F G9 [.r,.l,.r,.b,.i] f74 κ n st
def ym:=jF aF F G9 [.r,.l,.r,.b] f74 aZ 1
theorem Li (n1:Int)(s:List Int)(i:Int):yl F κ (n+1) (qS n1 s i)=br (decide (i<(s.length:Int))) (ck (cl i (s.length:Int)) (br (decide ((aP s i 0)<0)) (κ .ret (yk false)) (ck (cl i (s.length:Int)) (br (decide ((aP s i 0)≥n1)) (κ .ret (yk false)) (br (decide (i>0)) (ck (cl (aj (i-1)) (s.length:Int)) (ck (cl i (s.length:Int)) (br (decide ((aP s (aj (i-1)) 0)≥(aP s i 0))) (κ .ret (yk false)) (yl F κ n (qS n1 s (aj (i+1))))))) (yl F κ n (qS n1 s (aj (i+1))))))))) (κ (.exit 0) (RY)):=by kernel_rfl
theorem ajh (t4:Bool):ym F .ret (yk t4)=some (t4,()):=by kernel_rfl
theorem afg: ym F (.exit 0) (RY)=some (true,()):=by kernel_rfl
abbrev aBU:List (Ty×Bool):=[(.int .i64,false),(.sl 3 (.int .i64),false)]
def Bh (n1:Int)(s:List Int):=bF aF F G9 f74 aBU aZ 1 (n1,s,())
theorem aqq (n1:Int)(s:List Int):Bh F n1 s=yl F (ym F) F.n (qS n1 s 0):=by kernel_rfl
def yn:Any:=.one ⟨aBU,aZ,1,fun x=>Bh F0 x.1 x.2.1⟩
theorem NB:bm 74 yn:=aA aF trivial func74 G9 (by kernel_rfl)
def Yx:=[(35,de)]
def xh (c:D1):=bF Yx F ab f108 RS dD 1 (c,())
theorem amv (c:D1):xh F c=(eC F0 c).bind fun r4=>br (!r4.1) (some (0,())) (some (aj (c.1-(aj (Int.tdiv (aj (c.1-1)) 3))),())):=by kernel_rfl
def uN:Any:=.one ⟨RS,dD,1,fun x=>xh F0 x.1⟩
theorem Jc:bm 108 uN:=aA Yx ⟨dV,trivial⟩ func108 ab (by kernel_rfl)
def ahQ:=[(35,de),(74,yn),(77,fA),(78,dW),(108,uN)]
abbrev FW:List (Ty×Bool):=[(K1,true),(K9,true)]
def kv (c:D1)(q:D9):=bF ahQ F ab f115 FW aZ 1 (c,q,())
theorem aue (c:D1)(q:D9):kv F c q=(eC F0 c).bind fun r6=>br (!r6.1) (some (false,())) ((fF F0 q.2.1).bind fun dA=>br (!dA.1) (some (false,())) ((ea F0 q.2.1).bind fun fh=>br (fh.1 != q.1) (some (false,())) (br (q.2.1.toList==al.toList) (some ((q.2.2.length:Int)==0,())) ((Bh F0 c.1 q.2.2).bind fun tW=>br tW.1 ((xh F0 c).bind fun Qs=>some (decide ((q.2.2.length:Int)≥Qs.1),())) (some (false,())))))):=by kernel_rfl
def hU:Any:=.one ⟨FW,aZ,1,fun x=>kv F0 x.1 x.2.1⟩
theorem kR:bm 115 hU:=aA ahQ ⟨dV,NB,iv,fo,Jc,trivial⟩ func115 ab (by kernel_rfl)
def Yy:=[(72,cK),(77,fA),(115,hU)]
abbrev RZ:List (Ty×Bool):=[(K1,true),(K12,true)]
def jG (c:D1)(s:TF):=bF Yy F ab f123 RZ aZ 1 (c,s,())
theorem amw (c:D1)(s:TF):jG F c s=(bZ F0 s.1 0 60).bind fun r7=>br r7.1 ((bZ F0 s.2.1 0 60).bind fun dA=>br dA.1 ((kv F0 c s.2.2.1).bind fun fh=>br fh.1 ((fF F0 s.2.2.2).bind fun gr=>some (gr.1,())) (some (false,()))) (some (false,()))) (some (false,())):=by kernel_rfl
def iW:Any:=.one ⟨RZ,aZ,1,fun x=>jG F0 x.1 x.2.1⟩
theorem mq:bm 123 iW:=aA Yy ⟨dh,iv,kR,trivial⟩ func123 ab (by kernel_rfl)
abbrev aBV:List (Ty×Bool):=[(K4,true),(K4,true)]
def ud (a b:D4):=bF aF F ab f182 aBV aZ 1 (a,b,())
theorem afh (a b:D4):ud F a b=br (decide (a.1<b.1)) (some (true,())) (br (a.1==b.1) (some (decide (a.2.2.2<b.2.2.2),())) (some (false,()))):=by kernel_rfl
def yo:Any:=.one ⟨aBV,aZ,1,fun x=>ud F0 x.1 x.2.1⟩
theorem Oq:bm 182 yo:=aA aF trivial func182 ab (by kernel_rfl)
def Cs:=[(181,lO),(182,yo)]
def Ct:Nat→Option Hint:=look [(2,{live:=[0,3],xl:=[0],rl:=[2]})]
def oT (p:List D4)(i:Int):= cV 36 [(0,jO 76 (K4) p),(3,bR i)]
def Fb (t2:Bool):= cV 36 [(2,RP t2)]
def Ot (p:List D4):= cV 36 [(0,jO 76 (K4) p)]
def ue (st:St):Option α:=gW Cs F Ct [.r,.l,.r,.b,.i] f124 κ n st
def uO:=jF Cs F Ct [.r,.l,.r,.b] f124 aZ 1
theorem Jd (p:List D4)(i:Int):ue F κ (n+1) (oT p i)=br (decide (i<(p.length:Int))) (ck (cl i (p.length:Int)) ((rY F0 (aP p i K4.aG)).bind fun lM=>br (!lM.1) (κ .ret (Fb false)) (br (decide (i>0)) (ck (cl (aj (i-1)) (p.length:Int)) (ck (cl i (p.length:Int)) ((ud F0 (aP p (aj (i-1)) K4.aG) (aP p i K4.aG)).bind fun Ou=>br (!Ou.1) (κ .ret (Fb false)) (ue F κ n (oT p (aj (i+1))))))) (ue F κ n (oT p (aj (i+1))))))) (κ (.exit 0) (Ot p)):=by kernel_rfl
theorem afi (t2:Bool):uO F .ret (Fb t2)=some (t2,()):=by kernel_rfl
theorem acq (p:List D4):uO F (.exit 0) (Ot p)=some (decide ((p.length:Int)≤12),()):=by kernel_rfl
abbrev kl:List (Ty×Bool):=[(K5,false)]
def DZ (p:D5):=bF Cs F Ct f124 kl aZ 1 (p,())
theorem amx (p:D5):DZ F p=ue F (uO F) F.n (oT p 0):=by kernel_rfl
def Fc:Any:=.one ⟨kl,aZ,1,fun x=>DZ F0 x.1⟩
theorem UI:bm 124 Fc:=aA Cs ⟨rZ,Oq,trivial⟩ func124 Ct (by kernel_rfl)
def Yz:=[(35,de),(72,cK),(74,yn),(77,fA),(78,dW)]
def kS (c:D1)(p:D9):=bF Yz F ab f183 FW aZ 1 (c,p,())
theorem amy (c:D1)(p:D9):kS F c p=(eC F0 c).bind fun r6=>br (!r6.1) (some (false,())) ((bZ F0 p.1 1 60).bind fun dA=>br (!dA.1) (some (false,())) ((Bh F0 c.1 p.2.2).bind fun dM=>br (!dM.1) (some (false,())) (br ((p.2.2.length:Int)==0) (some (false,())) (br (p.2.1.toList==al.toList) (some (true,())) ((fF F0 p.2.1).bind fun qT=>br qT.1 ((ea F0 p.2.1).bind fun TP=>some (TP.1==p.1,())) (some (false,()))))))):=by kernel_rfl
def oU:Any:=.one ⟨FW,aZ,1,fun x=>kS F0 x.1 x.2.1⟩
theorem yp:bm 183 oU:=aA Yz ⟨dV,dh,NB,iv,fo,trivial⟩ func183 ab (by kernel_rfl)
abbrev xi:List (Ty×Bool):=[(K9,true),(K9,true)]
def qU (a b:D9):=bF aF F ab f184 xi aZ 1 (a,b,())
theorem acr (a b:D9):qU F a b=br (decide (a.1<b.1)) (some (true,())) (br (a.1==b.1) (some (Op.bytesLess a.2.1.toList b.2.1.toList,())) (some (false,()))):=by kernel_rfl
def wC:Any:=.one ⟨xi,aZ,1,fun x=>qU F0 x.1 x.2.1⟩
theorem Lj:bm 184 wC:=aA aF trivial func184 ab (by kernel_rfl)
def yq:=[(183,oU),(184,wC)]
def yr:Nat→Option Hint:=look [(2,{live:=[1,2,5],xl:=[1],rl:=[4]})]
def mr (list:List D9)(i c c1:Int):= er 39 [(1,jO 74 (K9) list),cS 2,(5,bR i)] [(2,[aq c,aq c1])] []
def Bi (t4:Bool):= cV 39 [(4,RP t4)]
def Lk (list:List D9):= cV 39 [(1,jO 74 (K9) list)]
def qV (st:St):Option α:=gW yq F yr [.r,.l,.r,.b,.i] f125 κ n st
def sa:=jF yq F yr [.r,.l,.r,.b] f125 aZ 1
theorem FX (list:List D9)(i c c1:Int):qV F κ (n+1) (mr list i c c1)=br (decide (i<(list.length:Int))) (ck (cl i (list.length:Int)) ((kS F0 (c,c1) (aP list i K9.aG)).bind fun fh=>br (!fh.1) (κ .ret (Bi false)) (br (decide (i>0)) (ck (cl (aj (i-1)) (list.length:Int)) (ck (cl i (list.length:Int)) ((qU F0 (aP list (aj (i-1)) K9.aG) (aP list i K9.aG)).bind fun Ha=>br (!Ha.1) (κ .ret (Bi false)) (qV F κ n (mr list (aj (i+1)) c c1))))) (qV F κ n (mr list (aj (i+1)) c c1))))) (κ (.exit 0) (Lk list)):=by kernel_rfl
theorem acs (t4:Bool):sa F .ret (Bi t4)=some (t4,()):=by kernel_rfl
theorem aaq (list:List D9):sa F (.exit 0) (Lk list)=some (decide ((list.length:Int)≤20),()):=by kernel_rfl
abbrev aBW:List (Ty×Bool):=[(K1,true),(K13,false)]
def nT (c:D1)(list:D13):=bF yq F yr f125 aBW aZ 1 (c,list,())
theorem aji (c:D1)(list:D13):nT F c list=qV F (sa F) F.n (mr list 0 c.1 c.2):=by kernel_rfl
def Bj:Any:=.one ⟨aBW,aZ,1,fun x=>nT F0 x.1 x.2.1⟩
theorem R2:bm 125 Bj:=aA yq ⟨yp,Lj,trivial⟩ func125 yr (by kernel_rfl)
def YA:=[(72,cK)]
abbrev pY:List (Ty×Bool):=[(K14,true)]
def nI (d:D14):=bF YA F ab f126 pY aZ 1 (d,())
theorem amz (d:D14):nI F d=br (decide ((d.1.length:Int)≤100000)) ((bZ F0 d.2 0 (d.1.length:Int)).bind fun cj=>some (cj.1,())) (some (false,())):=by kernel_rfl
def oV:Any:=.one ⟨pY,aZ,1,fun x=>nI F0 x.1⟩
theorem yu:bm 126 oV:=aA YA ⟨dh,trivial⟩ func126 ab (by kernel_rfl)
def Cu:Nat→Option Hint:=look [(2,{live:=[0,1,5],xl:=[0,1],rl:=[4]})]
def uP (a b:List Int)(i:Int):= cV 32 [(0,jO 3 (.int .i64) a),(1,jO 3 (.int .i64) b),(5,bR i)]
def R3 (t4:Bool):= cV 32 [(4,RP t4)]
def Bk (a b:List Int):= cV 32 [(0,jO 3 (.int .i64) a),(1,jO 3 (.int .i64) b)]
def Cv (st:St):Option α:=gW aF F Cu [.r,.l,.r,.b,.i] f328 κ n st
def uQ:=jF aF F Cu [.r,.l,.r,.b] f328 aZ 1
theorem Je (a b:List Int)(i:Int):Cv F κ (n+1) (uP a b i)=br (decide (i<(a.length:Int))) (br (decide (i<(b.length:Int))) (ck (cl i (a.length:Int)) (ck (cl i (b.length:Int)) (br ((aP a i 0) != (aP b i 0)) (κ .ret (R3 false)) (Cv F κ n (uP a b (aj (i+1))))))) (κ (.exit 0) (Bk a b))) (κ (.exit 0) (Bk a b)):=by kernel_rfl
theorem afj (t4:Bool):uQ F .ret (R3 t4)=some (t4,()):=by kernel_rfl
theorem acu (a b:List Int):uQ F (.exit 0) (Bk a b)=some ((a.length:Int)==(b.length:Int),()):=by kernel_rfl
abbrev ajj:List (Ty×Bool):=[(.sl 3 (.int .i64),false),(.sl 3 (.int .i64),false)]
def D0 (a b:List Int):=bF aF F Cu f328 ajj aZ 1 (a,b,())
theorem amA (a b:List Int):D0 F a b=Cv F (uQ F) F.n (uP a b 0):=by kernel_rfl
def Fe:Any:=.one ⟨ajj,aZ,1,fun x=>D0 F0 x.1 x.2.1⟩
theorem UJ:bm 328 Fe:=aA aF trivial func328 Cu (by kernel_rfl)
def YB:=[(328,Fe)]
def xj (a b:D9):=bF YB F ab f293 xi aZ 1 (a,b,())
theorem amB (a b:D9):xj F a b=br (a.1==b.1) (br (a.2.1.toList==b.2.1.toList) ((D0 F0 a.2.2 b.2.2).bind fun gr=>some (gr.1,())) (some (false,()))) (some (false,())):=by kernel_rfl
def uR:Any:=.one ⟨xi,aZ,1,fun x=>xj F0 x.1 x.2.1⟩
theorem Jf:bm 293 uR:=aA YB ⟨UJ,trivial⟩ func293 ab (by kernel_rfl)
def Ov:=[(293,uR)]
abbrev aBX:List (Ty×Bool):=[(K15,true),(K15,true)]
def yv (a b:D15):=bF Ov F ab f291 aBX aZ 1 (a,b,())
theorem acv (a b:D15):yv F a b=br (a.1.toList==b.1.toList) ((xj F0 a.2 b.2).bind fun py=>some (py.1,())) (some (false,())):=by kernel_rfl
def Jg:Any:=.one ⟨aBX,aZ,1,fun x=>yv F0 x.1 x.2.1⟩
theorem acw:bm 291 Jg:=aA Ov ⟨Jf,trivial⟩ func291 ab (by kernel_rfl)
def UK:=[(328,Fe)]
def Hb (a b:D9):=bF UK F ab f292 xi aZ 1 (a,b,())
theorem ajk (a b:D9):Hb F a b=br (a.1==b.1) (br (a.2.1.toList==b.2.1.toList) ((D0 F0 a.2.2 b.2.2).bind fun gr=>some (gr.1,())) (some (false,()))) (some (false,())):=by kernel_rfl
def Ow:Any:=.one ⟨xi,aZ,1,fun x=>Hb F0 x.1 x.2.1⟩
theorem ajl:bm 292 Ow:=aA UK ⟨UJ,trivial⟩ func292 ab (by kernel_rfl)
end
end Go.Am.Tryz
namespace Go.Am.Tryz
open Go.Am Go.Proofs Go.Proofs.Tryz
noncomputable section
variable {α:Type} (F:rQ) (κ:Ex→St→Option α) (n:Nat)
def UL:=[(291,Jg),(292,Ow),(293,uR)]
abbrev aBY:List (Ty×Bool):=[(K21,true),(K21,true)]
def kT (a b:NA):=bF UL F ab f242 aBY aZ 1 (a,b,())
theorem ajm (a b:NA):kT F a b=br (a.1==b.1) (br (a.2.1==b.2.1) ((yv F0 a.2.2.1 b.2.2.1).bind fun gr=>br gr.1 ((Hb F0 a.2.2.2.1 b.2.2.2.1).bind fun Ou=>br Ou.1 ((xj F0 a.2.2.2.2.1 b.2.2.2.2.1).bind fun r36=>br r36.1 (br (a.2.2.2.2.2.1==b.2.2.2.2.2.1) (some ((a.2.2.2.2.2.2.1==b.2.2.2.2.2.2.1)&&((a.2.2.2.2.2.2.2.1==b.2.2.2.2.2.2.2.1)&&((a.2.2.2.2.2.2.2.2.1==b.2.2.2.2.2.2.2.2.1)&&((a.2.2.2.2.2.2.2.2.2==b.2.2.2.2.2.2.2.2.2)&&true))),())) (some (false,()))) (some (false,()))) (some (false,()))) (some (false,()))) (some (false,()))) (some (false,())):=by kernel_rfl
def Ox:Any:=.one ⟨aBY,aZ,1,fun x=>kT F0 x.1 x.2.1⟩
theorem ajn:bm 242 Ox:=aA UL ⟨acw,ajl,Jf,trivial⟩ func242 ab (by kernel_rfl)
def UM:=[(242,Ox)]
abbrev xk:List (Ty×Bool):=[(K21,true)]
def Hc (m:NA):=bF UM F ab f185 xk aZ 1 (m,())
theorem ajo (m:NA):Hc F m=br (m.1==1) ((kT F0 (m.1,0,m.2.2.1,(0,al,[]),(0,al,[]),0,0,0,0,0) m).bind fun Ff=>some (Ff.1,())) (br (m.1==2) ((kT F0 (m.1,0,(al,0,al,[]),m.2.2.2.1,(0,al,[]),0,0,0,0,0) m).bind fun Ff=>some (Ff.1,())) (br (m.1==3) ((kT F0 (m.1,m.2.1,(al,0,al,[]),(0,al,[]),m.2.2.2.2.1,m.2.2.2.2.2.1,0,0,0,0) m).bind fun Ff=>some (Ff.1,())) (br (m.1==4) ((kT F0 (m.1,0,(al,0,al,[]),(0,al,[]),(0,al,[]),0,m.2.2.2.2.2.2) m).bind fun Ff=>some (Ff.1,())) ((kT F0 (m.1,0,(al,0,al,[]),(0,al,[]),(0,al,[]),0,0,0,0,0) m).bind fun Ff=>some (Ff.1,()))))):=by kernel_rfl
def Oy:Any:=.one ⟨xk,aZ,1,fun x=>Hc F0 x.1⟩
theorem ajp:bm 185 Oy:=aA UM ⟨ajn,trivial⟩ func185 ab (by kernel_rfl)
abbrev asb:List (Ty×Bool):=[(.int .i64,false),(.int .i64,false)]
def eD (a b:Int):=bF aF F ab f60 asb dD 1 (a,b,())
theorem YC (a b:Int):eD F a b=br (decide (a>b)) (some (a,())) (some (b,())):=by kernel_rfl
def iw:Any:=.one ⟨asb,dD,1,fun x=>eD F0 x.1 x.2.1⟩
theorem lP:bm 60 iw:=aA aF trivial func60 ab (by kernel_rfl)
def Ll:=[(60,iw),(77,fA)]
def Lm:Nat→Option Hint:=look [(4,{live:=[0,3],xl:=[0,3],rl:=[2]})]
def Cw (s:ByteArray)(k:Int):= cV 25 [(0,Yl s),(3,bR k)]
def yw (s:ByteArray)(k:Int):= cV 25 [(0,Yl s),(3,bR k)]
def Ln (st:St):Option α:=gW Ll F Lm [.r,.r,.r,.l,.b,.i] f170 κ n st
def YD:=jF Ll F Lm [.r,.r,.r,.l,.b] f170 ew 1
theorem Oz (s:ByteArray)(k:Int):Ln F κ (n+1) (Cw s k)=br (decide (k>0)) (ck (cl (aj (k-1)) (s.size:Int)) (br ((lN s (aj (k-1))) != 47) (Ln F κ n (Cw s (aj (k-1)))) (κ (.exit 0) (yw s k)))) (κ (.exit 0) (yw s k)):=by kernel_rfl
theorem ajq (s:ByteArray)(k:Int):YD F (.exit 0) (yw s k)=(eD F0 (aj (k-1)) 0).bind fun sd=>ck (RN 0 sd.1 (s.size:Int)) (some (s.extract (0:Int).toNat sd.1.toNat,())):=by kernel_rfl
def ahR (s:ByteArray):=bF Ll F Lm f170 ew ew 1 (s,())
theorem acx:∃f,f= @ahR:=⟨_,rfl⟩
def mu:=Classical.choose acx
theorem YE: @mu= @ahR:=Classical.choose_spec acx
theorem auf (s:ByteArray):mu F s=(fF F0 s).bind fun r5=>br (!r5.1) (some (al,())) (Ln F (YD F) F.n (Cw s (s.size:Int))):=by rw[YE];kernel_rfl
def uf:Any:=.one ⟨ew,ew,1,fun x=>mu F0 x.1⟩
theorem Hd:bm 170 uf:=ok1 (show x8 Tryz.prog TB Ll from⟨lP,iv,trivial⟩) func170 (by kernel_rfl) (by kernel_rfl) Lm (by rw[YE];kernel_rfl)
def UN:=[(77,fA),(115,hU),(170,uf)]
abbrev aBZ:List (Ty×Bool):=[(K1,true),(K15,true)]
def nU (c:D1)(b:D15):=bF UN F ab f169 aBZ aZ 1 (c,b,())
theorem ajr (c:D1)(b:D15):nU F c b=(kv F0 c b.2).bind fun r8=>br r8.1 ((fF F0 b.1).bind fun cN=>br cN.1 (br (!(b.1.toList==al.toList)) ((mu F0 b.1).bind fun gr=>some (gr.1.toList==b.2.2.1.toList,())) (some (false,()))) (some (false,()))) (some (false,())):=by kernel_rfl
def mv:Any:=.one ⟨aBZ,aZ,1,fun x=>nU F0 x.1 x.2.1⟩
theorem uS:bm 169 mv:=aA UN ⟨iv,kR,Hd,trivial⟩ func169 ab (by kernel_rfl)
def acy:=[(35,de),(72,cK),(115,hU),(169,mv),(181,lO),(183,oU),(185,Oy)]
abbrev ahS:List (Ty×Bool):=[(K1,true),(K21,true)]
def fV (c:D1)(m:NA):=bF acy F ab f127 ahS aZ 1 (c,m,())
theorem aqr (c:D1)(m:NA):fV F c m=(eC F0 c).bind fun r6=>br (!r6.1) (some (false,())) ((Hc F0 m).bind fun hY=>br (!hY.1) (some (false,())) (br (m.1==1) ((nU F0 c m.2.2.1).bind fun DY=>some (DY.1,())) (br (m.1==2) ((kS F0 c m.2.2.2.1).bind fun xg=>br xg.1 (some (!(m.2.2.2.1.2.1.toList==al.toList),())) (some (false,()))) (br (m.1==3) ((bZ F0 m.2.1 1 60).bind fun Ff=>br Ff.1 ((kv F0 c m.2.2.2.2.1).bind fun r42=>br r42.1 ((bZ F0 m.2.2.2.2.2.1 0 (aj (c.1-1))).bind fun EY=>some (EY.1,())) (some (false,()))) (some (false,()))) (br (m.1==4) ((rY F0 m.2.2.2.2.2.2).bind fun r56=>some (r56.1,())) (some (false,()))))))):=by kernel_rfl
def j1:Any:=.one ⟨ahS,aZ,1,fun x=>fV F0 x.1 x.2.1⟩
theorem pz:bm 127 j1:=aA acy ⟨dV,dh,kR,uS,rZ,yp,ajp,trivial⟩ func127 ab (by kernel_rfl)
def He:=[(35,de),(72,cK),(123,iW),(124,Fc),(125,Bj),(126,oV),(127,j1)]
def Hf:Nat→Option Hint:=look [(4,{live:=[2,3,5],rl:=[4]})]
def yx (i c c1 r r1 r2 r3 r4 r5:Int)(r6:ByteArray)(r7:List Int)(r8:ByteArray)(r9:List D4)(hY:List D9)(dA:List Int)(cN:Int)(cj:List lL):= er 102 [cS 2,cS 3,(5,bR i)] [(2,[aq c,aq c1]),(3,[aq r,aq r1,aq r2,aq r3,aq r4,aq r5,.str r6,.ro false 3 (.int .i64) r7,.str r8,.ro false 76 (K4) r9,.ro false 74 (K9) hY,.ro false 5 (.int .u8) dA,aq cN,.ro false 146 (qK) cj])] []
def yy (t4:Bool):= cV 102 [(4,RP t4)]
def R4   := cV 102 []
def Hg (st:St):Option α:=gW He F Hf [.r,.r,.l,.r,.b,.i] f73 κ n st
def yz:=jF He F Hf [.r,.r,.l,.r,.b] f73 aZ 1
theorem Lo (i c c1 r r1 r2 r3 r4 r5:Int)(r6:ByteArray)(r7:List Int)(r8:ByteArray)(r9:List D4)(hY:List D9)(dA:List Int)(cN:Int)(cj:List lL):Hg F κ (n+1) (yx i c c1 r r1 r2 r3 r4 r5 r6 r7 r8 r9 hY dA cN cj)=br (decide (i<(cj.length:Int))) (ck (cl i (cj.length:Int)) ((fV F0 (c,c1) (aP cj i qK.aG).2).bind fun r76=>br (!r76.1) (κ .ret (yy false)) (ck (cl i (cj.length:Int)) ((bZ F0 (aP cj i qK.aG).1 0 (aj (c-1))).bind fun r88=>br (!r88.1) (κ .ret (yy false)) (ck (cl i (cj.length:Int)) (br ((aP cj i qK.aG).1==r) (κ .ret (yy false)) (Hg F κ n (yx (aj (i+1)) c c1 r r1 r2 r3 r4 r5 r6 r7 r8 r9 hY dA cN cj)))))))) (κ (.exit 0) (R4)):=by kernel_rfl
theorem ajs (t4:Bool):yz F .ret (yy t4)=some (t4,()):=by kernel_rfl
theorem afk: yz F (.exit 0) (R4)=some (true,()):=by kernel_rfl
abbrev xK:List (Ty×Bool):=[(K1,true),(db,true)]
def ec (c:D1)(r:bz):=bF He F Hf f73 xK aZ 1 (c,r,())
theorem aqs (c:D1)(r:bz):ec F c r=(eC F0 c).bind fun r7=>br (!r7.1) (some (false,())) ((bZ F0 r.1 0 (aj (c.1-1))).bind fun py=>br (!py.1) (some (false,())) ((bZ F0 r.2.1 1 60).bind fun gv=>br (!gv.1) (some (false,())) ((bZ F0 r.2.2.1 0 60).bind fun Bl=>br (!Bl.1) (some (false,())) ((jG F0 c r.2.2.2.1).bind fun qT=>br (!qT.1) (some (false,())) ((DZ F0 r.2.2.2.2.1).bind fun xm=>br (!xm.1) (some (false,())) ((nT F0 c r.2.2.2.2.2.1).bind fun px=>br (!px.1) (some (false,())) ((nI F0 r.2.2.2.2.2.2.1).bind fun Yt=>br (!Yt.1) (some (false,())) (br (decide ((r.2.2.2.2.2.2.2.length:Int)>30)) (some (false,())) (Hg F (yz F) F.n (yx 0 c.1 c.2 r.1 r.2.1 r.2.2.1 r.2.2.2.1.1 r.2.2.2.1.2.1 r.2.2.2.1.2.2.1.1 r.2.2.2.1.2.2.1.2.1 r.2.2.2.1.2.2.1.2.2 r.2.2.2.1.2.2.2 r.2.2.2.2.1 r.2.2.2.2.2.1 r.2.2.2.2.2.2.1.1 r.2.2.2.2.2.2.1.2 r.2.2.2.2.2.2.2)))))))))):=by kernel_rfl
def c7:Any:=.one ⟨xK,aZ,1,fun x=>ec F0 x.1 x.2.1⟩
theorem dB:bm 73 c7:=aA He ⟨dV,dh,mq,UI,R2,yu,pz,trivial⟩ func73 Hf (by kernel_rfl)
def YF:=[(73,c7)]
abbrev hZ:List (Ty×Bool):=[(db,true),(.bool,false)]
abbrev ahT:List (Ty×Bool):=[(K1,true),(.int .i64,false)]
def Lp (c:D1)(id:Int):=bF YF F ab f36 ahT hZ 2 (c,id,())
theorem amC (c:D1)(id:Int):Lp F c id=(ec F0 c (id,1,0,(0,0,(0,al,[]),al),[],[],([],0),[])).bind fun dA=>br (!dA.1) (some ((0,0,0,(0,0,(0,al,[]),al),[],[],([],0),[]),false,())) (some ((id,1,0,(0,0,(0,al,[]),al),[],[],([],0),[]),true,())):=by kernel_rfl
def R5:Any:=.one ⟨ahT,hZ,2,fun x=>Lp F0 x.1 x.2.1⟩
theorem amD:bm 36 R5:=aA YF ⟨dB,trivial⟩ func36 ab (by kernel_rfl)
def YG:=[(35,de)]
def Lq (c:D1):=bF YG F ab f75 RS dD 1 (c,())
theorem amE (c:D1):Lq F c=(eC F0 c).bind fun r4=>br (!r4.1) (some (0,())) (some (aj (Int.tdiv (aj (c.1-1)) 3),())):=by kernel_rfl
def R6:Any:=.one ⟨RS,dD,1,fun x=>Lq F0 x.1⟩
theorem amF:bm 75 R6:=aA YG ⟨dV,trivial⟩ func75 ab (by kernel_rfl)
def Cx:Nat→Option Hint:=look [(3,{live:=[0,1,7,8],rl:=[4,5,6]})]
def uT (b:List Int)(iN n1 k:Int):= cV 55 [(0,jO 5 (.int .u8) b),(1,bR iN),(7,bR n1),(8,bR k)]
def gw (t4 t5:Int)(t6:Bool):= cV 55 [(4,bR t4),(5,bR t5),(6,RP t6)]
def OA   := cV 55 []
def Cy (st:St):Option α:=gW aF F Cx [.r,.r,.l,.r,.b,.i] f186 κ n st
abbrev asc:List (Ty×Bool):=[(.int .i64,false),(.int .i64,false),(.bool,false)]
def uU:=jF aF F Cx [.r,.r,.l,.r,.b] f186 asc 1
theorem Jh (b:List Int)(iN n1 k:Int):Cy F κ (n+1) (uT b iN n1 k)=br (decide (k<5)) (br (decide (iN<0)) (κ .ret (gw 0 0 false)) (br (decide (iN≥(aj ((b.length:Int)-k)))) (κ .ret (gw 0 0 false)) (ck (cl (aj (iN+k)) (b.length:Int)) (ck (decide (0≤(aj (7*k)))) (br (decide ((aj (aP b (aj (iN+k)) 0))<128)) (br (decide (k>0)) (br ((aj (aP b (aj (iN+k)) 0))==0) (κ .ret (gw 0 0 false)) (br (decide ((aj (((BitVec.ofInt 64 n1 ||| BitVec.ofInt 64 (aj ((Int.tmod (aj (aP b (aj (iN+k)) 0)) 128)*2 ^ (min (aj (7*k)).toNat 64)))).toNat:Int)))>2147483647)) (κ .ret (gw 0 0 false)) (κ .ret (gw (aj (((BitVec.ofInt 64 n1 ||| BitVec.ofInt 64 (aj ((Int.tmod (aj (aP b (aj (iN+k)) 0)) 128)*2 ^ (min (aj (7*k)).toNat 64)))).toNat:Int))) (aj ((aj (iN+k))+1)) true)))) (br (decide ((aj (((BitVec.ofInt 64 n1 ||| BitVec.ofInt 64 (aj ((Int.tmod (aj (aP b (aj (iN+k)) 0)) 128)*2 ^ (min (aj (7*k)).toNat 64)))).toNat:Int)))>2147483647)) (κ .ret (gw 0 0 false)) (κ .ret (gw (aj (((BitVec.ofInt 64 n1 ||| BitVec.ofInt 64 (aj ((Int.tmod (aj (aP b (aj (iN+k)) 0)) 128)*2 ^ (min (aj (7*k)).toNat 64)))).toNat:Int))) (aj ((aj (iN+k))+1)) true)))) (Cy F κ n (uT b iN (aj (((BitVec.ofInt 64 n1 ||| BitVec.ofInt 64 (aj ((Int.tmod (aj (aP b (aj (iN+k)) 0)) 128)*2 ^ (min (aj (7*k)).toNat 64)))).toNat:Int))) (aj (k+1))))))))) (κ (.exit 0) (OA)):=by kernel_rfl
theorem Bm (t4 t5:Int)(t6:Bool):uU F .ret (gw t4 t5 t6)=some (t4,t5,t6,()):=by kernel_rfl
theorem acz: uU F (.exit 0) (OA)=some (0,0,false,()):=by kernel_rfl
abbrev YH:List (Ty×Bool):=[(.sl 5 (.int .u8),false),(.int .i64,false)]
def kU (b:List Int)(iN:Int):=bF aF F Cx f186 YH asc 1 (b,iN,())
theorem amG (b:List Int)(iN:Int):kU F b iN=Cy F (uU F) F.n (uT b iN 0 0):=by kernel_rfl
def uV:Any:=.one ⟨YH,asc,1,fun x=>kU F0 x.1 x.2.1⟩
theorem Ji:bm 186 uV:=aA aF trivial func186 Cx (by kernel_rfl)
def YI:=[(186,uV)]
abbrev iO:List (Ty×Bool):=[(K32,true)]
def dt (c:D32):=DX YI F ab f128 iO 0 .cur dD iO 1 (c,())
theorem amH (c:D32):dt F c=(kU F0 c.1 c.2.1).bind fun py=>br (!py.2.2.1) (some ((0,()),(c.1,c.2.1,false),())) (br (!c.2.2) (some ((0,()),(c.1,c.2.1,false),())) (some ((py.1,()),(c.1,py.2.1,c.2.2),()))):=by kernel_rfl
def oW:Any:=.two ⟨iO,0,.cur,dD,1,iO,fun x=>dt F0 x.1⟩
theorem yA:bm 128 oW:=Uy YI ⟨Ji,trivial⟩ func128 ab (by kernel_rfl)
def UO:=[(186,uV)]
abbrev aB0:List (Ty×Bool):=[(.str,false),(.int .i64,false),(.bool,false)]
def Hh (b:List Int)(iN:Int):=bF UO F ab f187 YH aB0 1 (b,iN,())
theorem ajt (b:List Int)(iN:Int):Hh F b iN=(kU F0 b iN).bind fun cj=>br (!cj.2.2.1) (some (al,0,false,())) (br (decide (cj.1>(aj ((b.length:Int)-cj.2.1)))) (some (al,0,false,())) (ck (RN cj.2.1 (aj (cj.2.1+cj.1)) (b.length:Int)) (some (strOf ((b.take (aj (cj.2.1+cj.1)).toNat).drop cj.2.1.toNat),aj (cj.2.1+cj.1),true,())))):=by kernel_rfl
def OB:Any:=.one ⟨YH,aB0,1,fun x=>Hh F0 x.1 x.2.1⟩
theorem aju:bm 187 OB:=aA UO ⟨Ji,trivial⟩ func187 ab (by kernel_rfl)
def UP:=[(187,OB)]
def nV (c:D32):=DX UP F ab f129 iO 0 .cur ew iO 1 (c,())
theorem ajv (c:D32):nV F c=(Hh F0 c.1 c.2.1).bind fun py=>br (!py.2.2.1) (some ((al,()),(c.1,c.2.1,false),())) (br (!c.2.2) (some ((al,()),(c.1,c.2.1,false),())) (some ((py.1,()),(c.1,py.2.1,c.2.2),()))):=by kernel_rfl
def se:Any:=.two ⟨iO,0,.cur,ew,1,iO,fun x=>nV F0 x.1⟩
theorem Fg:bm 129 se:=Uy UP ⟨aju,trivial⟩ func129 ab (by kernel_rfl)
def Cz:=[(128,oW)]
def CA:Nat→Option Hint:=look [(4,{live:=[0,3,4,5],xl:=[3],rl:=[2]})]
def uW (n1 i:Int)(aC:List Int)(au:Int)(ar:Bool)(xs:List Int):St:={nt:=28,tm:=[(0,.v (.c (.ptr 4000000 0))),(3,.v (.c (.own 1000000 none))),(4,bR n1),(5,bR i)],bx:=[(4000000,[.ro true 5 (.int .u8) aC,aq au,.bool ar])],bl:=[aB 1000000 3 (.int .i64) xs],sp:=.v (.c (.ptr 4000000 0))}
def sf (aC:List Int)(au:Int)(ar:Bool)(xs:List Int):St:={nt:=28,tm:=[(3,.v (.c (.own 1000000 none)))],bx:=[(4000000,[.ro true 5 (.int .u8) aC,aq au,.bool ar])],bl:=[aB 1000000 3 (.int .i64) xs],sp:=.v (.c (.ptr 4000000 0))}
def CB (st:St):Option α:=gW Cz F CA [.r,.r,.r,.l,.r,.b,.i] f131 κ n st
abbrev kp:List (Ty×Bool):=[(.sl 3 (.int .i64),false)]
def Fh:=awP Cz F CA [.r,.r,.r,.l,.r,.b] f131 .cur kp iO 2
theorem Jj (n1 i:Int)(aC:List Int)(au:Int)(ar:Bool)(xs:List Int):CB F κ (n+1) (uW n1 i aC au ar xs)=br (decide (i<n1)) (br ar ((dt F0 (aC,au,ar)).bind fun gr=>ck (fg F xs.length [gr.1.1].length 8) (CB F κ n (uW n1 (aj (i+1)) gr.2.1.1 gr.2.1.2.1 gr.2.1.2.2 (xs++[gr.1.1])))) (κ (.exit 0) (sf aC au ar xs))) (κ (.exit 0) (sf aC au ar xs)):=by kernel_rfl
theorem acA (aC:List Int)(au:Int)(ar:Bool)(xs:List Int):Fh F (.exit 0) (sf aC au ar xs)=some ((xs,()),(aC,au,ar),()):=by kernel_rfl
def D7 (c:D32):=DX Cz F CA f131 iO 0 .cur kp iO 2 (c,())
theorem amI (c:D32):D7 F c=(dt F0 c).bind fun r9=>CB F (Fh F) F.n (uW r9.1.1 0 r9.2.1.1 r9.2.1.2.1 r9.2.1.2.2 []):=by kernel_rfl
def Fi:Any:=.two ⟨iO,0,.cur,kp,2,iO,fun x=>D7 F0 x.1⟩
theorem UQ:bm 131 Fi:=Uy Cz ⟨yA,trivial⟩ func131 CA (by kernel_rfl)
def acB:=[(128,oW),(129,se),(131,Fi)]
abbrev gX:List (Ty×Bool):=[(K9,true)]
def Bn (c:D32):=DX acB F ab f130 iO 0 .cur gX iO 2 (c,())
theorem aqt (c:D32):Bn F c=(dt F0 c).bind fun r6=>(nV F0 r6.2.1).bind fun r9=>(D7 F0 r9.2.1).bind fun cN=>some (((r6.1.1,r9.1.1,cN.1.1),()),cN.2.1,()):=by kernel_rfl
def Jk:Any:=.two ⟨iO,0,.cur,gX,2,iO,fun x=>Bn F0 x.1⟩
theorem YJ:bm 130 Jk:=Uy acB ⟨yA,Fg,UQ,trivial⟩ func130 ab (by kernel_rfl)
def acC:=[(127,j1),(128,oW),(129,se),(130,Jk),(131,Fi)]
abbrev R7:List (Ty×Bool):=[(K1,true),(.sl 5 (.int .u8),false)]
abbrev aB1:List (Ty×Bool):=[(K21,true),(.bool,false)]
def Jl (c:D1)(b:List Int):=bF acC F ab f76 R7 aB1 2 (c,b,())
theorem aqu (c:D1)(b:List Int):Jl F c b=(dt F0 (b,0,true)).bind fun cj=>br (cj.1.1==1) ((nV F0 cj.2.1).bind fun DY=>(Bn F0 DY.2.1).bind fun r24=>br (!r24.2.1.2.2) (some ((0,0,(al,0,al,[]),(0,al,[]),(0,al,[]),0,0,0,0,0),false,())) (br (r24.2.1.2.1 != (b.length:Int)) (some ((0,0,(al,0,al,[]),(0,al,[]),(0,al,[]),0,0,0,0,0),false,())) ((fV F0 c (cj.1.1,0,(DY.1.1,r24.1.1),(0,al,[]),(0,al,[]),0,0,0,0,0)).bind fun r87=>br (!r87.1) (some ((0,0,(al,0,al,[]),(0,al,[]),(0,al,[]),0,0,0,0,0),false,())) (some ((cj.1.1,0,(DY.1.1,r24.1.1),(0,al,[]),(0,al,[]),0,0,0,0,0),true,()))))) (br (cj.1.1==2) ((dt F0 cj.2.1).bind fun Fj=>(nV F0 Fj.2.1).bind fun qT=>(D7 F0 qT.2.1).bind fun TP=>br (!TP.2.1.2.2) (some ((0,0,(al,0,al,[]),(0,al,[]),(0,al,[]),0,0,0,0,0),false,())) (br (TP.2.1.2.1 != (b.length:Int)) (some ((0,0,(al,0,al,[]),(0,al,[]),(0,al,[]),0,0,0,0,0),false,())) ((fV F0 c (cj.1.1,0,(al,0,al,[]),(Fj.1.1,qT.1.1,TP.1.1),(0,al,[]),0,0,0,0,0)).bind fun r87=>br (!r87.1) (some ((0,0,(al,0,al,[]),(0,al,[]),(0,al,[]),0,0,0,0,0),false,())) (some ((cj.1.1,0,(al,0,al,[]),(Fj.1.1,qT.1.1,TP.1.1),(0,al,[]),0,0,0,0,0),true,()))))) (br (cj.1.1==3) ((dt F0 cj.2.1).bind fun r44=>(dt F0 r44.2.1).bind fun px=>(Bn F0 px.2.1).bind fun EY=>br (!EY.2.1.2.2) (some ((0,0,(al,0,al,[]),(0,al,[]),(0,al,[]),0,0,0,0,0),false,())) (br (EY.2.1.2.1 != (b.length:Int)) (some ((0,0,(al,0,al,[]),(0,al,[]),(0,al,[]),0,0,0,0,0),false,())) ((fV F0 c (cj.1.1,r44.1.1,(al,0,al,[]),(0,al,[]),EY.1.1,px.1.1,0,0,0,0)).bind fun r87=>br (!r87.1) (some ((0,0,(al,0,al,[]),(0,al,[]),(0,al,[]),0,0,0,0,0),false,())) (some ((cj.1.1,r44.1.1,(al,0,al,[]),(0,al,[]),EY.1.1,px.1.1,0,0,0,0),true,()))))) (br (cj.1.1==4) ((dt F0 cj.2.1).bind fun r55=>(dt F0 r55.2.1).bind fun r59=>(dt F0 r59.2.1).bind fun r63=>(dt F0 r63.2.1).bind fun r67=>br (!r67.2.1.2.2) (some ((0,0,(al,0,al,[]),(0,al,[]),(0,al,[]),0,0,0,0,0),false,())) (br (r67.2.1.2.1 != (b.length:Int)) (some ((0,0,(al,0,al,[]),(0,al,[]),(0,al,[]),0,0,0,0,0),false,())) ((fV F0 c (cj.1.1,0,(al,0,al,[]),(0,al,[]),(0,al,[]),0,r55.1.1,r59.1.1,r63.1.1,r67.1.1)).bind fun r87=>br (!r87.1) (some ((0,0,(al,0,al,[]),(0,al,[]),(0,al,[]),0,0,0,0,0),false,())) (some ((cj.1.1,0,(al,0,al,[]),(0,al,[]),(0,al,[]),0,r55.1.1,r59.1.1,r63.1.1,r67.1.1),true,()))))) (br (!cj.2.1.2.2) (some ((0,0,(al,0,al,[]),(0,al,[]),(0,al,[]),0,0,0,0,0),false,())) (br (cj.2.1.2.1 != (b.length:Int)) (some ((0,0,(al,0,al,[]),(0,al,[]),(0,al,[]),0,0,0,0,0),false,())) ((fV F0 c (cj.1.1,0,(al,0,al,[]),(0,al,[]),(0,al,[]),0,0,0,0,0)).bind fun r87=>br (!r87.1) (some ((0,0,(al,0,al,[]),(0,al,[]),(0,al,[]),0,0,0,0,0),false,())) (some ((cj.1.1,0,(al,0,al,[]),(0,al,[]),(0,al,[]),0,0,0,0,0),true,())))))))):=by kernel_rfl
def Jm:Any:=.one ⟨R7,aB1,2,fun x=>Jl F0 x.1 x.2.1⟩
theorem YK:bm 76 Jm:=aA acC ⟨pz,yA,Fg,YJ,UQ,trivial⟩ func76 ab (by kernel_rfl)
def ix:=[(35,de),(72,cK),(73,c7),(74,yn),(75,R6),(76,Jm),(77,fA),(78,dW)]
def iy:Nat→Option Hint:=look [(4,{live:=[1,3],xl:=[1],rl:=[2]}),(9,{live:=[1,4],xl:=[1],rl:=[2]}),(15,{live:=[1,7],rl:=[2]})]
def mw (i w w1:Int)(w2:List Int)(w3:List bz)(w4:List cU)(w5:List cE):= er 147 [cS 1,(7,bR i)] [(1,[aq w,aq w1,.ro false 3 (.int .i64) w2,.ro false 50 (db) w3,.ro false 114 (fU) w4,.ro false 127 (eh) w5])] []
def sg (t2:Bool):= cV 147 [(2,RP t2)]
def Lr   := cV 147 []
def qW (st:St):Option α:=gW ix F iy [.r,.r,.r,.r,.l,.r,.b,.i] f37 κ n st
def mx:=jF ix F iy [.r,.r,.r,.r,.l,.r,.b] f37 aZ 1
def my (i w w1:Int)(w2:List Int)(w3:List bz)(w4:List cU)(w5:List cE):= er 147 [cS 1,(4,bR i)] [(1,[aq w,aq w1,.ro false 3 (.int .i64) w2,.ro false 50 (db) w3,.ro false 114 (fU) w4,.ro false 127 (eh) w5])] []
def Bo (t2:Bool):= cV 147 [(2,RP t2)]
def Ls (w w1:Int)(w2:List Int)(w3:List bz)(w4:List cU)(w5:List cE):= er 147 [cS 1] [(1,[aq w,aq w1,.ro false 3 (.int .i64) w2,.ro false 50 (db) w3,.ro false 114 (fU) w4,.ro false 127 (eh) w5])] []
def qX (st:St):Option α:=gW ix F iy [.r,.r,.r,.l,.r,.b,.i] f37 κ n st
def mz:=jF ix F iy [.r,.r,.r,.l,.r,.b] f37 aZ 1
def mA (i w w1:Int)(w2:List Int)(w3:List bz)(w4:List cU)(w5:List cE):= er 147 [cS 1,(3,bR i)] [(1,[aq w,aq w1,.ro false 3 (.int .i64) w2,.ro false 50 (db) w3,.ro false 114 (fU) w4,.ro false 127 (eh) w5])] []
def Bp (t2:Bool):= cV 147 [(2,RP t2)]
def Lt (w w1:Int)(w2:List Int)(w3:List bz)(w4:List cU)(w5:List cE):= er 147 [cS 1] [(1,[aq w,aq w1,.ro false 3 (.int .i64) w2,.ro false 50 (db) w3,.ro false 114 (fU) w4,.ro false 127 (eh) w5])] []
def qY (st:St):Option α:=gW ix F iy [.r,.r,.l,.r,.b,.i] f37 κ n st
def mB:=jF ix F iy [.r,.r,.l,.r,.b] f37 aZ 1
theorem FY (i w w1:Int)(w2:List Int)(w3:List bz)(w4:List cU)(w5:List cE):qW F κ (n+1) (mw i w w1 w2 w3 w4 w5)=br (decide (i<(w5.length:Int))) (ck (cl i (w5.length:Int)) ((bZ F0 (aP w5 i eh.aG).2.2 0 (aj (w-1))).bind fun aOt=>br (!aOt.1) (κ .ret (sg false)) ((fF F0 (aP w5 i eh.aG).2.1).bind fun aOu=>br (!aOu.1) (κ .ret (sg false)) ((ea F0 (aP w5 i eh.aG).2.1).bind fun aOv=>br (aOv.1 != (aP w5 i eh.aG).1) (κ .ret (sg false)) (qW F κ n (mw (aj (i+1)) w w1 w2 w3 w4 w5)))))) (κ (.exit 4) (Lr)):=by kernel_rfl
theorem FZ (i w w1:Int)(w2:List Int)(w3:List bz)(w4:List cU)(w5:List cE):qX F κ (n+1) (my i w w1 w2 w3 w4 w5)=br (decide (i<(w4.length:Int))) (ck (cl i (w4.length:Int)) ((Jl F0 (w,w1) (aP w4 i (0,[])).2).bind fun r94=>br (!r94.2.1) (κ .ret (Bo false)) (ck (cl i (w4.length:Int)) ((bZ F0 (aP w4 i (0,[])).1 0 (aj (w-1))).bind fun amJ=>br (!amJ.1) (κ .ret (Bo false)) (qX F κ n (my (aj (i+1)) w w1 w2 w3 w4 w5)))))) (κ (.exit 2) (Ls w w1 w2 w3 w4 w5)):=by kernel_rfl
theorem F1 (i w w1:Int)(w2:List Int)(w3:List bz)(w4:List cU)(w5:List cE):qY F κ (n+1) (mA i w w1 w2 w3 w4 w5)=br (decide (i<(w3.length:Int))) (ck (cl i (w3.length:Int)) (br ((aP w3 i db.aG).1 != i) (κ .ret (Bp false)) (ck (cl i (w3.length:Int)) ((ec F0 (w,w1) (aP w3 i db.aG)).bind fun Lu=>br (!Lu.1) (κ .ret (Bp false)) (qY F κ n (mA (aj (i+1)) w w1 w2 w3 w4 w5)))))) (κ (.exit 0) (Lt w w1 w2 w3 w4 w5)):=by kernel_rfl
theorem acD (t2:Bool):mx F .ret (sg t2)=some (t2,()):=by kernel_rfl
theorem aar: mx F (.exit 4) (Lr)=some (true,()):=by kernel_rfl
theorem acE (t2:Bool):mz F .ret (Bo t2)=some (t2,()):=by kernel_rfl
theorem aas (w w1:Int)(w2:List Int)(w3:List bz)(w4:List cU)(w5:List cE):mz F (.exit 2) (Ls w w1 w2 w3 w4 w5)=qW F (mx F) F.n (mw 0 w w1 w2 w3 w4 w5):=by kernel_rfl
theorem acF (t2:Bool):mB F .ret (Bp t2)=some (t2,()):=by kernel_rfl
theorem aat (w w1:Int)(w2:List Int)(w3:List bz)(w4:List cU)(w5:List cE):mB F (.exit 0) (Lt w w1 w2 w3 w4 w5)=qX F (mz F) F.n (my 0 w w1 w2 w3 w4 w5):=by kernel_rfl
abbrev gY:List (Ty×Bool):=[(iM,true)]
def yB (w:pt):=bF ix F iy f37 gY aZ 1 (w,())
theorem ajw (w:pt):yB F w=(eC F0 w.1).bind fun dA=>br (!dA.1) (some (false,())) ((Bh F0 w.1.1 w.2.1).bind fun dM=>br (!dM.1) (some (false,())) ((Lq F0 w.1).bind fun UE=>br (decide ((w.2.1.length:Int)>UE.1)) (some (false,())) (br ((w.2.2.1.length:Int) != w.1.1) (some (false,())) (br (decide ((w.2.2.2.1.length:Int)>60)) (some (false,())) (br (decide ((w.2.2.2.2.length:Int)>300)) (some (false,())) (qY F (mB F) F.n (mA 0 w.1.1 w.1.2 w.2.1 w.2.2.1 w.2.2.2.1 w.2.2.2.2))))))):=by kernel_rfl
def OC:Any:=.one ⟨gY,aZ,1,fun x=>yB F0 x.1⟩
theorem ajx:bm 37 OC:=aA ix ⟨dV,dh,dB,NB,amF,YK,iv,fo,trivial⟩ func37 iy (by kernel_rfl)
def uX:=[(35,de),(36,R5),(37,OC)]
def uY:Nat→Option Hint:=look [(3,{live:=[2,4,6,7],xY:=[(4,2,3,.int .i64),(4,3,50,db),(4,4,114,fU),(4,5,127,eh),(6,3,50,db),(6,4,114,fU),(6,5,127,eh)],xl:=[4,6],rl:=[4,5]})]
def pZ (i c c1 t4 t41 w w1:Int)(xs:List Int)(aO:List bz)(aY:List cU)(bj:List cE)(bK:List Int)(cA:List bz)(cB:List cU)(cF:List cE):= er 42 [cS 2,cS 4,cS 6,(7,bR i)] [(2,[aq c,aq c1]),(4,[aq t4,aq t41,.own 1000000 none,.own 1000001 none,.own 1000002 none,.own 1000003 none]),(6,[aq w,aq w1,.own 1000004 none,.own 1000005 none,.own 1000006 none,.own 1000007 none])] [aB 1000000 3 (.int .i64) xs,aB 1000001 50 db aO,aB 1000002 114 fU aY,aB 1000003 127 eh bj,aB 1000004 3 (.int .i64) bK,aB 1000005 50 db cA,aB 1000006 114 fU cB,aB 1000007 127 eh cF]
def wD (t4 t41 w w1:Int)(xs:List Int)(aO:List bz)(aY:List cU)(bj:List cE)(bK:List Int)(cA:List bz)(cB:List cU)(cF:List cE):= er 42 [cS 4,cS 6] [(4,[aq t4,aq t41,.own 1000000 none,.own 1000001 none,.own 1000002 none,.own 1000003 none]),(6,[aq w,aq w1,.own 1000004 none,.own 1000005 none,.own 1000006 none,.own 1000007 none])] [aB 1000000 3 (.int .i64) xs,aB 1000001 50 db aO,aB 1000002 114 fU aY,aB 1000003 127 eh bj,aB 1000004 3 (.int .i64) bK,aB 1000005 50 db cA,aB 1000006 114 fU cB,aB 1000007 127 eh cF]
def uZ (st:St):Option α:=gW uX F uY [.r,.r,.l,.r,.b,.i] f9 κ n st
abbrev ase:List (Ty×Bool):=[(iM,true),(.bool,false)]
def yC:=jF uX F uY [.r,.r,.l,.r,.b] f9 ase 2
theorem Ea (i c c1 t4 t41 w w1:Int)(xs:List Int)(aO:List bz)(aY:List cU)(bj:List cE)(bK:List Int)(cA:List bz)(cB:List cU)(cF:List cE):uZ F κ (n+1) (pZ i c c1 t4 t41 w w1 xs aO aY bj bK cA cB cF)=br (decide (i<c)) ((eC F0 (c,c1)).bind fun gv=>br gv.1 ((Lp F0 (c,c1) i).bind fun UE=>ck (fg F cA.length [UE.1].length 208) (uZ F κ n (pZ (aj (i+1)) c c1 t4 t41 w w1 xs aO aY bj bK (cA++[UE.1]) cB cF))) (κ (.exit 0) (wD t4 t41 w w1 xs aO aY bj bK cA cB cF))) (κ (.exit 0) (wD t4 t41 w w1 xs aO aY bj bK cA cB cF)):=by kernel_rfl
theorem XI (t4 t41 w w1:Int)(xs:List Int)(aO:List bz)(aY:List cU)(bj:List cE)(bK:List Int)(cA:List bz)(cB:List cU)(cF:List cE):yC F (.exit 0) (wD t4 t41 w w1 xs aO aY bj bK cA cB cF)=(yB F0 ((w,w1),bK,cA,cB,cF)).bind fun TP=>br (!TP.1) (some (((0,0),[],[],[],[]),false,())) (some (((w,w1),bK,cA,cB,cF),true,())):=by kernel_rfl
abbrev aB2:List (Ty×Bool):=[(K1,true),(.sl 3 (.int .i64),false)]
def lQ (c:D1)(liars:List Int):=bF uX F uY f9 aB2 ase 2 (c,liars,())
theorem afl (c:D1)(liars:List Int):lQ F c liars=ck (fg F 0 liars.length 8) (uZ F (yC F) F.n (pZ 0 c.1 c.2 0 0 c.1 c.2 [] [] [] [] ([]++liars) [] [] [])):=by kernel_rfl
def yD:Any:=.one ⟨aB2,ase,2,fun x=>lQ F0 x.1 x.2.1⟩
theorem OD:bm 9 yD:=aA uX ⟨dV,amD,ajx,trivial⟩ func9 uY (by kernel_rfl)
def F2:=[(9,yD),(27,eV),(56,nS),(57,oR)]
def p4 (c:D2):=DX F2 F ab f25 jX 0 .cur gY jX 2 (c,())
theorem UR (c:D2):p4 F c=(jY F0 c [4,4,4,5,7]).bind fun r9=>(ax F0 r9.2.1 3).bind fun dA=>(nG F0 dA.2.1 3).bind fun oM=>br (!oM.1.1) ((ax F0 oM.2.1 r9.1.1).bind fun gv=>(lQ F0 (r9.1.1,aj (1+dA.1.1)) [gv.1.1]).bind fun xg=>some ((xg.1,()),gv.2.1,())) ((lQ F0 (r9.1.1,aj (1+dA.1.1)) []).bind fun xg=>some ((xg.1,()),oM.2.1,())):=by kernel_rfl
def AL:Any:=.two ⟨jX,0,.cur,gY,2,jX,fun x=>p4 F0 x.1⟩
theorem US:bm 25 AL:=Uy F2 ⟨OD,gu,yc,yd,trivial⟩ func25 ab (by kernel_rfl)
def jH (q:D9):=bF aF F ab f117 gX gX 2 (q,())
theorem amK (q:D9):jH F q=ck (fg F 0 q.2.2.length 8) (some ((q.1,q.2.1,[]++q.2.2),())):=by kernel_rfl
def iX:Any:=.one ⟨gX,gX,2,fun x=>jH F0 x.1⟩
theorem mC:bm 117 iX:=aA aF trivial func117 ab (by kernel_rfl)
def UT:=[(117,iX)]
abbrev AM:List (Ty×Bool):=[(K12,true)]
def nW (s:TF):=bF UT F ab f102 AM AM 2 (s,())
theorem ajy (s:TF):nW F s=(jH F0 s.2.2.1).bind fun r5=>some ((s.1,s.2.1,r5.1,s.2.2.2),()):=by kernel_rfl
def mD:Any:=.one ⟨AM,AM,2,fun x=>nW F0 x.1⟩
theorem u1:bm 102 mD:=aA UT ⟨mC,trivial⟩ func102 ab (by kernel_rfl)
def ia (p:D9):=bF aF F ab f164 gX gX 2 (p,())
theorem ajz (p:D9):ia F p=ck (fg F 0 p.2.2.length 8) (some ((p.1,p.2.1,[]++p.2.2),())):=by kernel_rfl
def jP:Any:=.one ⟨gX,gX,2,fun x=>ia F0 x.1⟩
theorem oX:bm 164 jP:=aA aF trivial func164 ab (by kernel_rfl)
def u2:=[(164,jP)]
def u3:Nat→Option Hint:=look [(3,{live:=[0,3,4],xl:=[3],rl:=[2]})]
def p5 (list:List D9)(i:Int)(xs:List D9):= er 21 [(0,jO 74 (K9) list),(3,.v (.c (.own 1000000 none))),(4,bR i)] [] [aB 1000000 74 K9 xs]
def Jn (xs:List D9):= er 21 [(3,.v (.c (.own 1000000 none)))] [] [aB 1000000 74 K9 xs]
def u4 (st:St):Option α:=gW u2 F u3 [.r,.r,.l,.r,.b,.i] f103 κ n st
abbrev F3:List (Ty×Bool):=[(K13,false)]
def yE:=jF u2 F u3 [.r,.r,.l,.r,.b] f103 F3 2
theorem Ec (list:List D9)(i:Int)(xs:List D9):u4 F κ (n+1) (p5 list i xs)=br (decide (i<(list.length:Int))) (ck (cl i (list.length:Int)) ((ia F0 (aP list i K9.aG)).bind fun fh=>ck (fg F xs.length [fh.1].length 48) (u4 F κ n (p5 list (aj (i+1)) (xs++[fh.1]))))) (κ (.exit 0) (Jn xs)):=by kernel_rfl
theorem XJ (xs:List D9):yE F (.exit 0) (Jn xs)=some (xs,()):=by kernel_rfl
def ib (list:D13):=bF u2 F u3 f103 F3 F3 2 (list,())
theorem afm (list:D13):ib F list=u4 F (yE F) F.n (p5 list 0 []):=by kernel_rfl
def yF:Any:=.one ⟨F3,F3,2,fun x=>ib F0 x.1⟩
theorem OE:bm 103 yF:=aA u2 ⟨oX,trivial⟩ func103 u3 (by kernel_rfl)
def jr (d:D14):=bF aF F ab f104 pY pY 2 (d,())
theorem ajA (d:D14):jr F d=ck (fg F 0 d.1.length 1) (some (([]++d.1,d.2),())):=by kernel_rfl
def mE:Any:=.one ⟨pY,pY,2,fun x=>jr F0 x.1⟩
theorem u5:bm 104 mE:=aA aF trivial func104 ab (by kernel_rfl)
def YL:=[(117,iX)]
abbrev ahU:List (Ty×Bool):=[(K15,true)]
def Lv (b:D15):=bF YL F ab f224 ahU ahU 2 (b,())
theorem amL (b:D15):Lv F b=(jH F0 b.2).bind fun r7=>some ((b.1,r7.1),()):=by kernel_rfl
def R8:Any:=.one ⟨ahU,ahU,2,fun x=>Lv F0 x.1⟩
theorem amM:bm 224 R8:=aA YL ⟨mC,trivial⟩ func224 ab (by kernel_rfl)
def UU:=[(117,iX),(164,jP),(224,R8)]
def yG (m:NA):=bF UU F ab f165 xk xk 2 (m,())
theorem ajB (m:NA):yG F m=(Lv F0 m.2.2.1).bind fun r5=>(ia F0 m.2.2.2.1).bind fun r9=>(jH F0 m.2.2.2.2.1).bind fun cj=>some ((m.1,m.2.1,r5.1,r9.1,cj.1,m.2.2.2.2.2),()):=by kernel_rfl
def Bq:Any:=.one ⟨xk,xk,2,fun x=>yG F0 x.1⟩
theorem R9:bm 165 Bq:=aA UU ⟨mC,oX,amM,trivial⟩ func165 ab (by kernel_rfl)
def u6:=[(165,Bq)]
def u7:Nat→Option Hint:=look [(3,{live:=[0,3,4],xl:=[3],rl:=[2]})]
def p6 (list:List lL)(i:Int)(xs:List lL):= er 28 [(0,jO 146 (qK) list),(3,.v (.c (.own 1000000 none))),(4,bR i)] [] [aB 1000000 146 qK xs]
def Jo (xs:List lL):= er 28 [(3,.v (.c (.own 1000000 none)))] [] [aB 1000000 146 qK xs]
def u9 (st:St):Option α:=gW u6 F u7 [.r,.r,.l,.r,.b,.i] f105 κ n st
abbrev YM:List (Ty×Bool):=[(K23,false)]
def yH:=jF u6 F u7 [.r,.r,.l,.r,.b] f105 YM 2
theorem Ed (list:List lL)(i:Int)(xs:List lL):u9 F κ (n+1) (p6 list i xs)=br (decide (i<(list.length:Int))) (ck (cl i (list.length:Int)) (ck (cl i (list.length:Int)) ((yG F0 (aP list i qK.aG).2).bind fun sd=>ck (fg F xs.length [((aP list i qK.aG).1,sd.1)].length 224) (u9 F κ n (p6 list (aj (i+1)) (xs++[((aP list i qK.aG).1,sd.1)])))))) (κ (.exit 0) (Jo xs)):=by kernel_rfl
theorem XK (xs:List lL):yH F (.exit 0) (Jo xs)=some (xs,()):=by kernel_rfl
def ug (list:D23):=bF u6 F u7 f105 YM YM 2 (list,())
theorem afn (list:D23):ug F list=u9 F (yH F) F.n (p6 list 0 []):=by kernel_rfl
def yI:Any:=.one ⟨YM,YM,2,fun x=>ug F0 x.1⟩
theorem OF:bm 105 yI:=aA u6 ⟨R9,trivial⟩ func105 u7 (by kernel_rfl)
end
end Go.Am.Tryz
