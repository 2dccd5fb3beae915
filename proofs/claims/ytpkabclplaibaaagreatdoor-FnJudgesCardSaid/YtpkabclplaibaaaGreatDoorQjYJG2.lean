/- No condition. -/
import Derived.Test.YtpkabclplaibaaaGreatDoorQjYJG1
set_option linter.all false
set_option maxRecDepth 100000
namespace Go.Am.Tryz
open Go.Am Go.Proofs Go.Proofs.Tryz
noncomputable section
variable {U:Type} (F:nP) (J:Ex->St->Option U) (n:Nat)
def wc:=[(254,na),(255,uy)]
def we:Nat->Option Hint:=look [(2,{live:=[1,2,5],xl:=[1],rl:=[4]})]
def kX (b:List D9)(i c a:Int):= ei 39 [(1,mU 29 (K9) b),cl 2,(5,a7 i)] [(2,[ar c,ar a])] []
def AM (a:Bool):= bk 39 [(4,vE a)]
def J7 (a:List D9):= bk 39 [(1,mU 29 (K9) a)]
def o4 (a:St):Option U:=eo wc F we [.r,.l,.r,.b,.i] f179 J n a
def pY:=jx wc F we [.r,.l,.r,.b] f179 aI 1
def E4 (a:List D9)(i c b:Int):o4 F J (n+1) (kX a i c b)=br (decide (i<(a.length:Int))) (ck (bh i (a.length:Int)) ((jC F0 (c,b) (aJ a i K9.aw)).bind fun d=>br (!d.1) (J .ret (AM false)) (br (decide (i>0)) (ck (bh (ak (i-1)) (a.length:Int)) (ck (bh i (a.length:Int)) ((o3 F0 (aJ a (ak (i-1)) K9.aw) (aJ a i K9.aw)).bind fun e=>br (!e.1) (J .ret (AM false)) (o4 F J n (kX a (ak (i+1)) c b))))) (o4 F J n (kX a (ak (i+1)) c b))))) (J (.exit 0) (J7 a)):=by kernel_rfl
def ZE (a:Bool):pY F .ret (AM a)=some (a,()):=by kernel_rfl
def XH (a:List D9):pY F (.exit 0) (J7 a)=some (decide ((a.length:Int)<=20),()):=by kernel_rfl
abbrev avn:List (Ty×Bool):=[(K1,true),(K14,false)]
def l6 (c:D1)(a:D14):=bM wc F we f179 avn aI 1 (c,a,())
def aeQ (c:D1)(a:D14):l6 F c a=o4 F (pY F) F.n (kX a 0 c.1 c.2):=by kernel_rfl
def AN:Any:=.one ⟨avn,aI,1,fun x=>l6 F0 x.1 x.2.1⟩
def PL:a8 179 AN:=aG wc ⟨wa,J6,trivial⟩ func179 we (by kernel_rfl)
def V8:=[(117,bN)]
abbrev E5:List (Ty×Bool):=[(K15,true)]
def lS (d:D15):=bM V8 F ab f180 E5 aI 1 (d,())
def ahW (d:D15):lS F d=br (decide ((d.1.length:Int)<=100000)) ((bD F0 d.2 0 (d.1.length:Int)).bind fun a=>some (a.1,())) (some (false,())):=by kernel_rfl
def nc:Any:=.one ⟨E5,aI,1,fun x=>lS F0 x.1⟩
def wg:a8 180 nc:=aG V8 ⟨cb,trivial⟩ func180 ab (by kernel_rfl)
def BX:Nat->Option Hint:=look [(2,{live:=[0,1,5],xl:=[0,1],rl:=[4]})]
def s5 (a b:List Int)(i:Int):= bk 32 [(0,mU 3 (.int .i64) a),(1,mU 3 (.int .i64) b),(5,a7 i)]
def PN (a:Bool):= bk 32 [(4,vE a)]
def AO (a b:List Int):= bk 32 [(0,mU 3 (.int .i64) a),(1,mU 3 (.int .i64) b)]
def BY (a:St):Option U:=eo ax F BX [.r,.l,.r,.b,.i] f287 J n a
def s6:=jx ax F BX [.r,.l,.r,.b] f287 aI 1
def Ic (a b:List Int)(i:Int):BY F J (n+1) (s5 a b i)=br (decide (i<(a.length:Int))) (br (decide (i<(b.length:Int))) (ck (bh i (a.length:Int)) (ck (bh i (b.length:Int)) (br ((aJ a i 0) != (aJ b i 0)) (J .ret (PN false)) (BY F J n (s5 a b (ak (i+1))))))) (J (.exit 0) (AO a b))) (J (.exit 0) (AO a b)):=by kernel_rfl
def abU (a:Bool):s6 F .ret (PN a)=some (a,()):=by kernel_rfl
def ZF (a b:List Int):s6 F (.exit 0) (AO a b)=some ((a.length:Int)==(b.length:Int),()):=by kernel_rfl
abbrev adY:List (Ty×Bool):=[(.sl 3 (.int .i64),false),(.sl 3 (.int .i64),false)]
def Dc (a b:List Int):=bM ax F BX f287 adY aI 1 (a,b,())
def ahX (a b:List Int):Dc F a b=BY F (s6 F) F.n (s5 a b 0):=by kernel_rfl
def Es:Any:=.one ⟨adY,aI,1,fun x=>Dc F0 x.1 x.2.1⟩
def R8:a8 287 Es:=aG ax trivial func287 BX (by kernel_rfl)
def V9:=[(287,Es)]
def u2 (a b:D9):=bM V9 F ab f236 E3 aI 1 (a,b,())
def ahY (a b:D9):u2 F a b=br (a.1==b.1) (br (a.2.1.toList==b.2.1.toList) ((Dc F0 a.2.2 b.2.2).bind fun c=>some (c.1,())) (some (false,()))) (some (false,())):=by kernel_rfl
def s7:Any:=.one ⟨E3,aI,1,fun x=>u2 F0 x.1 x.2.1⟩
def Ie:a8 236 s7:=aG V9 ⟨R8,trivial⟩ func236 ab (by kernel_rfl)
def MO:=[(236,s7)]
abbrev avo:List (Ty×Bool):=[(K16,true),(K16,true)]
def wh (a b:D16):=bM MO F ab f245 avo aI 1 (a,b,())
def ZG (a b:D16):wh F a b=br (a.1.toList==b.1.toList) ((u2 F0 a.2 b.2).bind fun c=>some (c.1,())) (some (false,())):=by kernel_rfl
def Ig:Any:=.one ⟨avo,aI,1,fun x=>wh F0 x.1 x.2.1⟩
def ZH:a8 245 Ig:=aG MO ⟨Ie,trivial⟩ func245 ab (by kernel_rfl)
def R9:=[(287,Es)]
def Gp (a b:D9):=bM R9 F ab f246 E3 aI 1 (a,b,())
def aeR (a b:D9):Gp F a b=br (a.1==b.1) (br (a.2.1.toList==b.2.1.toList) ((Dc F0 a.2.2 b.2.2).bind fun c=>some (c.1,())) (some (false,()))) (some (false,())):=by kernel_rfl
def MP:Any:=.one ⟨E3,aI,1,fun x=>Gp F0 x.1 x.2.1⟩
def aeS:a8 246 MP:=aG R9 ⟨R8,trivial⟩ func246 ab (by kernel_rfl)
def Sa:=[(236,s7),(245,Ig),(246,MP)]
abbrev avp:List (Ty×Bool):=[(K22,true),(K22,true)]
def jD (a b:Zq):=bM Sa F ab f175 avp aI 1 (a,b,())
def aeT (a b:Zq):jD F a b=br (a.1==b.1) (br (a.2.1==b.2.1) ((wh F0 a.2.2.1 b.2.2.1).bind fun c=>br c.1 ((Gp F0 a.2.2.2.1 b.2.2.2.1).bind fun d=>br d.1 ((u2 F0 a.2.2.2.2.1 b.2.2.2.2.1).bind fun e=>br e.1 (br (a.2.2.2.2.2.1==b.2.2.2.2.2.1) (some ((a.2.2.2.2.2.2.1==b.2.2.2.2.2.2.1)&&((a.2.2.2.2.2.2.2.1==b.2.2.2.2.2.2.2.1)&&((a.2.2.2.2.2.2.2.2.1==b.2.2.2.2.2.2.2.2.1)&&((a.2.2.2.2.2.2.2.2.2==b.2.2.2.2.2.2.2.2.2)&&true))),())) (some (false,()))) (some (false,()))) (some (false,()))) (some (false,()))) (some (false,()))) (some (false,())):=by kernel_rfl
def MQ:Any:=.one ⟨avp,aI,1,fun x=>jD F0 x.1 x.2.1⟩
def aeU:a8 175 MQ:=aG Sa ⟨Ie,ZH,aeS,trivial⟩ func175 ab (by kernel_rfl)
def Sb:=[(175,MQ)]
abbrev u3:List (Ty×Bool):=[(K22,true)]
def Gq (m:Zq):=bM Sb F ab f256 u3 aI 1 (m,())
def aeV (m:Zq):Gq F m=br (m.1==1) ((jD F0 (m.1,0,m.2.2.1,(0,ai,[]),(0,ai,[]),0,0,0,0,0) m).bind fun a=>some (a.1,())) (br (m.1==2) ((jD F0 (m.1,0,(ai,0,ai,[]),m.2.2.2.1,(0,ai,[]),0,0,0,0,0) m).bind fun a=>some (a.1,())) (br (m.1==3) ((jD F0 (m.1,m.2.1,(ai,0,ai,[]),(0,ai,[]),m.2.2.2.2.1,m.2.2.2.2.2.1,0,0,0,0) m).bind fun a=>some (a.1,())) (br (m.1==4) ((jD F0 (m.1,0,(ai,0,ai,[]),(0,ai,[]),(0,ai,[]),0,m.2.2.2.2.2.2) m).bind fun a=>some (a.1,())) ((jD F0 (m.1,0,(ai,0,ai,[]),(0,ai,[]),(0,ai,[]),0,0,0,0,0) m).bind fun a=>some (a.1,()))))):=by kernel_rfl
def MR:Any:=.one ⟨u3,aI,1,fun x=>Gq F0 x.1⟩
def aeW:a8 256 MR:=aG Sb ⟨aeU,trivial⟩ func256 ab (by kernel_rfl)
def J8:=[(118,ea),(189,eG)]
def J9:Nat->Option Hint:=look [(4,{live:=[0,3],xl:=[0,3],rl:=[2]})]
def BZ (s:ByteArray)(k:Int):= bk 25 [(0,XD s),(3,a7 k)]
def wi (s:ByteArray)(k:Int):= bk 25 [(0,XD s),(3,a7 k)]
def Ka (a:St):Option U:=eo J8 F J9 [.r,.r,.r,.l,.b,.i] f270 J n a
def Wa:=jx J8 F J9 [.r,.r,.r,.l,.b] f270 dc 1
def MS (s:ByteArray)(k:Int):Ka F J (n+1) (BZ s k)=br (decide (k>0)) (ck (bh (ak (k-1)) (s.size:Int)) (br ((kc s (ak (k-1))) != 47) (Ka F J n (BZ s (ak (k-1)))) (J (.exit 0) (wi s k)))) (J (.exit 0) (wi s k)):=by kernel_rfl
def aeX (s:ByteArray)(k:Int):Wa F (.exit 0) (wi s k)=(c9 F0 (ak (k-1)) 0).bind fun a=>ck (Oy 0 a.1 (s.size:Int)) (some (s.extract (0:Int).toNat a.1.toNat,())):=by kernel_rfl
def adZ (s:ByteArray):=bM J8 F J9 f270 dc dc 1 (s,())
def ZI:∃f,f= @adZ:=⟨_,rfl⟩
def kY:=Classical.choose ZI
def Wb: @kY= @adZ:=Classical.choose_spec ZI
def aop (s:ByteArray):kY F s=(ep F0 s).bind fun a=>br (!a.1) (some (ai,())) (Ka F (Wa F) F.n (BZ s (s.size:Int))):=by rw[Wb];kernel_rfl
def sf:Any:=.one ⟨dc,dc,1,fun x=>kY F0 x.1⟩
def Gr:a8 270 sf:=ok1 (show vD Tryz.prog TB J8 from⟨fS,hL,trivial⟩) func270 (by kernel_rfl) (by kernel_rfl) J9 (by rw[Wb];kernel_rfl)
def Sc:=[(118,ea),(251,fD),(270,sf)]
abbrev avq:List (Ty×Bool):=[(K1,true),(K16,true)]
def l7 (c:D1)(b:D16):=bM Sc F ab f257 avq aI 1 (c,b,())
def aeY (c:D1)(b:D16):l7 F c b=(iV F0 c b.2).bind fun a=>br a.1 ((ep F0 b.1).bind fun d=>br d.1 (br (!(b.1.toList==ai.toList)) ((kY F0 b.1).bind fun e=>some (e.1.toList==b.2.2.1.toList,())) (some (false,()))) (some (false,()))) (some (false,())):=by kernel_rfl
def kZ:Any:=.one ⟨avq,aI,1,fun x=>l7 F0 x.1 x.2.1⟩
def s8:a8 257 kZ:=aG Sc ⟨fS,jB,Gr,trivial⟩ func257 ab (by kernel_rfl)
def ZJ:=[(101,b5),(117,bN),(251,fD),(252,kf),(254,na),(256,MR),(257,kZ)]
abbrev amx:List (Ty×Bool):=[(K1,true),(K22,true)]
def eH (c:D1)(m:Zq):=bM ZJ F ab f181 amx aI 1 (c,m,())
def ak3 (c:D1)(m:Zq):eH F c m=(dr F0 c).bind fun a=>br (!a.1) (some (false,())) ((Gq F0 m).bind fun b=>br (!b.1) (some (false,())) (br (m.1==1) ((l7 F0 c m.2.2.1).bind fun d=>some (d.1,())) (br (m.1==2) ((jC F0 c m.2.2.2.1).bind fun e=>br e.1 (some (!(m.2.2.2.1.2.1.toList==ai.toList),())) (some (false,()))) (br (m.1==3) ((bD F0 m.2.1 1 60).bind fun f=>br f.1 ((iV F0 c m.2.2.2.2.1).bind fun g=>br g.1 ((bD F0 m.2.2.2.2.2.1 0 (ak (c.1-1))).bind fun h=>some (h.1,())) (some (false,()))) (some (false,()))) (br (m.1==4) ((pT F0 m.2.2.2.2.2.2).bind fun i=>some (i.1,())) (some (false,()))))))):=by kernel_rfl
def ie:Any:=.one ⟨amx,aI,1,fun x=>eH F0 x.1 x.2.1⟩
def nE:a8 181 ie:=aG ZJ ⟨cU,cb,jB,pU,wa,aeW,s8,trivial⟩ func181 ab (by kernel_rfl)
def Gs:=[(101,b5),(117,bN),(177,gz),(178,Er),(179,AN),(180,nc),(181,ie)]
def Gt:Nat->Option Hint:=look [(4,{live:=[2,3,5],rl:=[4]})]
def wj (i c a r b d e f g:Int)(h:ByteArray)(j:List Int)(k:ByteArray)(l:List D4)(m:List D9)(o:List Int)(p:Int)(q:List Rh):= ei 102 [cl 2,cl 3,(5,a7 i)] [(2,[ar c,ar a]),(3,[ar r,ar b,ar d,ar e,ar f,ar g,.str h,.ro false 3 (.int .i64) j,.str k,.ro false 99 (K4) l,.ro false 29 (K9) m,.ro false 5 (.int .u8) o,ar p,.ro false 125 (RT) q])] []
def wm (a:Bool):= bk 102 [(4,vE a)]
def PO   := bk 102 []
def Gu (a:St):Option U:=eo Gs F Gt [.r,.r,.l,.r,.b,.i] f115 J n a
def wo:=jx Gs F Gt [.r,.r,.l,.r,.b] f115 aI 1
def Kb (i c b r d e f g h:Int)(j:ByteArray)(k:List Int)(l:ByteArray)(m:List D4)(o:List D9)(p:List Int)(q:Int)(a:List Rh):Gu F J (n+1) (wj i c b r d e f g h j k l m o p q a)=br (decide (i<(a.length:Int))) (ck (bh i (a.length:Int)) ((eH F0 (c,b) (aJ a i RT.aw).2).bind fun s=>br (!s.1) (J .ret (wm false)) (ck (bh i (a.length:Int)) ((bD F0 (aJ a i RT.aw).1 0 (ak (c-1))).bind fun t=>br (!t.1) (J .ret (wm false)) (ck (bh i (a.length:Int)) (br ((aJ a i RT.aw).1==r) (J .ret (wm false)) (Gu F J n (wj (ak (i+1)) c b r d e f g h j k l m o p q a)))))))) (J (.exit 0) (PO)):=by kernel_rfl
def aeZ (a:Bool):wo F .ret (wm a)=some (a,()):=by kernel_rfl
def abV: wo F (.exit 0) (PO)=some (true,()):=by kernel_rfl
abbrev Gv:List (Ty×Bool):=[(K1,true),(cC,true)]
def cR (c:D1)(r:bL):=bM Gs F Gt f115 Gv aI 1 (c,r,())
def ak4 (c:D1)(r:bL):cR F c r=(dr F0 c).bind fun a=>br (!a.1) (some (false,())) ((bD F0 r.1 0 (ak (c.1-1))).bind fun b=>br (!b.1) (some (false,())) ((bD F0 r.2.1 1 60).bind fun d=>br (!d.1) (some (false,())) ((bD F0 r.2.2.1 0 60).bind fun e=>br (!e.1) (some (false,())) ((hM F0 c r.2.2.2.1).bind fun f=>br (!f.1) (some (false,())) ((Db F0 r.2.2.2.2.1).bind fun g=>br (!g.1) (some (false,())) ((l6 F0 c r.2.2.2.2.2.1).bind fun h=>br (!h.1) (some (false,())) ((lS F0 r.2.2.2.2.2.2.1).bind fun i=>br (!i.1) (some (false,())) (br (decide ((r.2.2.2.2.2.2.2.length:Int)>30)) (some (false,())) (Gu F (wo F) F.n (wj 0 c.1 c.2 r.1 r.2.1 r.2.2.1 r.2.2.2.1.1 r.2.2.2.1.2.1 r.2.2.2.1.2.2.1.1 r.2.2.2.1.2.2.1.2.1 r.2.2.2.1.2.2.1.2.2 r.2.2.2.1.2.2.2 r.2.2.2.2.1 r.2.2.2.2.2.1 r.2.2.2.2.2.2.1.1 r.2.2.2.2.2.2.1.2 r.2.2.2.2.2.2.2)))))))))):=by kernel_rfl
def bP:Any:=.one ⟨Gv,aI,1,fun x=>cR F0 x.1 x.2.1⟩
def cm:a8 115 bP:=aG Gs ⟨cU,cb,kW,R7,PL,wg,nE,trivial⟩ func115 Gt (by kernel_rfl)
def Wc:=[(115,bP)]
abbrev wq:List (Ty×Bool):=[(cC,true),(.bool,false)]
abbrev avr:List (Ty×Bool):=[(K1,true),(.int .i64,false)]
def Kc (c:D1)(a:Int):=bM Wc F ab f102 avr wq 2 (c,a,())
def ahZ (c:D1)(a:Int):Kc F c a=(cR F0 c (a,1,0,(0,0,(0,ai,[]),ai),[],[],([],0),[])).bind fun b=>br (!b.1) (some ((0,0,0,(0,0,(0,ai,[]),ai),[],[],([],0),[]),false,())) (some ((a,1,0,(0,0,(0,ai,[]),ai),[],[],([],0),[]),true,())):=by kernel_rfl
def PQ:Any:=.one ⟨avr,wq,2,fun x=>Kc F0 x.1 x.2.1⟩
def ah0:a8 102 PQ:=aG Wc ⟨cm,trivial⟩ func102 ab (by kernel_rfl)
def Wd:=[(101,b5)]
def Kd (c:D1):=bM Wd F ab f114 EZ c8 1 (c,())
def ah1 (c:D1):Kd F c=(dr F0 c).bind fun a=>br (!a.1) (some (0,())) (some (ak (Int.tdiv (ak (c.1-1)) 3),())):=by kernel_rfl
def PR:Any:=.one ⟨EZ,c8,1,fun x=>Kd F0 x.1⟩
def ah2:a8 114 PR:=aG Wd ⟨cU,trivial⟩ func114 ab (by kernel_rfl)
def B0:Nat->Option Hint:=look [(3,{live:=[0,1,7,8],rl:=[4,5,6]})]
def s9 (b:List Int)(a c k:Int):= bk 55 [(0,mU 5 (.int .u8) b),(1,a7 a),(7,a7 c),(8,a7 k)]
def eZ (a b:Int)(c:Bool):= bk 55 [(4,a7 a),(5,a7 b),(6,vE c)]
def MT   := bk 55 []
def B1 (a:St):Option U:=eo ax F B0 [.r,.r,.l,.r,.b,.i] f234 J n a
abbrev amy:List (Ty×Bool):=[(.int .i64,false),(.int .i64,false),(.bool,false)]
def ta:=jx ax F B0 [.r,.r,.l,.r,.b] f234 amy 1
def Ih (b:List Int)(a c k:Int):B1 F J (n+1) (s9 b a c k)=br (decide (k<5)) (br (decide (a<0)) (J .ret (eZ 0 0 false)) (br (decide (a>=(ak ((b.length:Int)-k)))) (J .ret (eZ 0 0 false)) (ck (bh (ak (a+k)) (b.length:Int)) (ck (decide (0<=(ak (7*k)))) (br (decide ((ak (aJ b (ak (a+k)) 0))<128)) (br (decide (k>0)) (br ((ak (aJ b (ak (a+k)) 0))==0) (J .ret (eZ 0 0 false)) (br (decide ((ak (((BitVec.ofInt 64 c ||| BitVec.ofInt 64 (ak ((Int.tmod (ak (aJ b (ak (a+k)) 0)) 128)*2 ^ (min (ak (7*k)).toNat 64)))).toNat:Int)))>2147483647)) (J .ret (eZ 0 0 false)) (J .ret (eZ (ak (((BitVec.ofInt 64 c ||| BitVec.ofInt 64 (ak ((Int.tmod (ak (aJ b (ak (a+k)) 0)) 128)*2 ^ (min (ak (7*k)).toNat 64)))).toNat:Int))) (ak ((ak (a+k))+1)) true)))) (br (decide ((ak (((BitVec.ofInt 64 c ||| BitVec.ofInt 64 (ak ((Int.tmod (ak (aJ b (ak (a+k)) 0)) 128)*2 ^ (min (ak (7*k)).toNat 64)))).toNat:Int)))>2147483647)) (J .ret (eZ 0 0 false)) (J .ret (eZ (ak (((BitVec.ofInt 64 c ||| BitVec.ofInt 64 (ak ((Int.tmod (ak (aJ b (ak (a+k)) 0)) 128)*2 ^ (min (ak (7*k)).toNat 64)))).toNat:Int))) (ak ((ak (a+k))+1)) true)))) (B1 F J n (s9 b a (ak (((BitVec.ofInt 64 c ||| BitVec.ofInt 64 (ak ((Int.tmod (ak (aJ b (ak (a+k)) 0)) 128)*2 ^ (min (ak (7*k)).toNat 64)))).toNat:Int))) (ak (k+1))))))))) (J (.exit 0) (MT)):=by kernel_rfl
def AP (a b:Int)(c:Bool):ta F .ret (eZ a b c)=some (a,b,c,()):=by kernel_rfl
def ZK: ta F (.exit 0) (MT)=some (0,0,false,()):=by kernel_rfl
abbrev ad0:List (Ty×Bool):=[(.sl 5 (.int .u8),false),(.int .i64,false)]
def jE (b:List Int)(a:Int):=bM ax F B0 f234 ad0 amy 1 (b,a,())
def ah3 (b:List Int)(a:Int):jE F b a=B1 F (ta F) F.n (s9 b a 0 0):=by kernel_rfl
def tc:Any:=.one ⟨ad0,amy,1,fun x=>jE F0 x.1 x.2.1⟩
def Ii:a8 234 tc:=aG ax trivial func234 B0 (by kernel_rfl)
def We:=[(234,tc)]
abbrev gl:List (Ty×Bool):=[(K33,true)]
def cx (c:D33):=fR We F ab f182 gl 0 .cur c8 gl 1 (c,())
def ah4 (c:D33):cx F c=(jE F0 c.1 c.2.1).bind fun a=>br (!a.2.2.1) (some ((0,()),(c.1,c.2.1,false),())) (br (!c.2.2) (some ((0,()),(c.1,c.2.1,false),())) (some ((a.1,()),(c.1,a.2.1,c.2.2),()))):=by kernel_rfl
def nd:Any:=.two ⟨gl,0,.cur,c8,1,gl,fun x=>cx F0 x.1⟩
def wu:a8 182 nd:=jy We ⟨Ii,trivial⟩ func182 ab (by kernel_rfl)
def Sd:=[(234,tc)]
abbrev avs:List (Ty×Bool):=[(.str,false),(.int .i64,false),(.bool,false)]
def Gw (b:List Int)(a:Int):=bM Sd F ab f258 ad0 avs 1 (b,a,())
def ae0 (b:List Int)(c:Int):Gw F b c=(jE F0 b c).bind fun a=>br (!a.2.2.1) (some (ai,0,false,())) (br (decide (a.1>(ak ((b.length:Int)-a.2.1)))) (some (ai,0,false,())) (ck (Oy a.2.1 (ak (a.2.1+a.1)) (b.length:Int)) (some (strOf ((b.take (ak (a.2.1+a.1)).toNat).drop a.2.1.toNat),ak (a.2.1+a.1),true,())))):=by kernel_rfl
def MU:Any:=.one ⟨ad0,avs,1,fun x=>Gw F0 x.1 x.2.1⟩
def ae1:a8 258 MU:=aG Sd ⟨Ii,trivial⟩ func258 ab (by kernel_rfl)
def Se:=[(258,MU)]
def l8 (c:D33):=fR Se F ab f183 gl 0 .cur dc gl 1 (c,())
def ae2 (c:D33):l8 F c=(Gw F0 c.1 c.2.1).bind fun a=>br (!a.2.2.1) (some ((ai,()),(c.1,c.2.1,false),())) (br (!c.2.2) (some ((ai,()),(c.1,c.2.1,false),())) (some ((a.1,()),(c.1,a.2.1,c.2.2),()))):=by kernel_rfl
def pZ:Any:=.two ⟨gl,0,.cur,dc,1,gl,fun x=>l8 F0 x.1⟩
def Et:a8 183 pZ:=jy Se ⟨ae1,trivial⟩ func183 ab (by kernel_rfl)
def B2:=[(182,nd)]
def B3:Nat->Option Hint:=look [(4,{live:=[0,3,4,5],xl:=[3],rl:=[2]})]
def td (a i:Int)(b:List Int)(c:Int)(d:Bool)(e:List Int):St:={nt:=28,tm:=[(0,.v (.c (.ptr 4000000 0))),(3,.v (.c (.own 1000000 none))),(4,a7 a),(5,a7 i)],bx:=[(4000000,[.ro true 5 (.int .u8) b,ar c,.bool d])],bl:=[aP 1000000 3 (.int .i64) e],sp:=.v (.c (.ptr 4000000 0))}
def p0 (a:List Int)(b:Int)(c:Bool)(d:List Int):St:={nt:=28,tm:=[(3,.v (.c (.own 1000000 none)))],bx:=[(4000000,[.ro true 5 (.int .u8) a,ar b,.bool c])],bl:=[aP 1000000 3 (.int .i64) d],sp:=.v (.c (.ptr 4000000 0))}
def B4 (a:St):Option U:=eo B2 F B3 [.r,.r,.r,.l,.r,.b,.i] f185 J n a
def Eu:=L7 B2 F B3 [.r,.r,.r,.l,.r,.b] f185 .cur pP gl 2
def Ij (f i:Int)(d:List Int)(e:Int)(a:Bool)(c:List Int):B4 F J (n+1) (td f i d e a c)=br (decide (i<f)) (br a ((cx F0 (d,e,a)).bind fun b=>ck (fA F c.length [b.1.1].length 8) (B4 F J n (td f (ak (i+1)) b.2.1.1 b.2.1.2.1 b.2.1.2.2 (c++[b.1.1])))) (J (.exit 0) (p0 d e a c))) (J (.exit 0) (p0 d e a c)):=by kernel_rfl
def ZL (a:List Int)(b:Int)(c:Bool)(d:List Int):Eu F (.exit 0) (p0 a b c d)=some ((d,()),(a,b,c),()):=by kernel_rfl
def Dd (c:D33):=fR B2 F B3 f185 gl 0 .cur pP gl 2 (c,())
def ah5 (c:D33):Dd F c=(cx F0 c).bind fun a=>B4 F (Eu F) F.n (td a.1.1 0 a.2.1.1 a.2.1.2.1 a.2.1.2.2 []):=by kernel_rfl
def Ev:Any:=.two ⟨gl,0,.cur,pP,2,gl,fun x=>Dd F0 x.1⟩
def Sf:a8 185 Ev:=jy B2 ⟨wu,trivial⟩ func185 B3 (by kernel_rfl)
def ZM:=[(182,nd),(183,pZ),(185,Ev)]
def AQ (c:D33):=fR ZM F ab f184 gl 0 .cur gS gl 2 (c,())
def ak5 (c:D33):AQ F c=(cx F0 c).bind fun a=>(l8 F0 a.2.1).bind fun b=>(Dd F0 b.2.1).bind fun d=>some (((a.1.1,b.1.1,d.1.1),()),d.2.1,()):=by kernel_rfl
def Ik:Any:=.two ⟨gl,0,.cur,gS,2,gl,fun x=>AQ F0 x.1⟩
def Wg:a8 184 Ik:=jy ZM ⟨wu,Et,Sf,trivial⟩ func184 ab (by kernel_rfl)
def ZN:=[(181,ie),(182,nd),(183,pZ),(184,Ik),(185,Ev)]
abbrev avt:List (Ty×Bool):=[(K22,true),(.bool,false)]
abbrev PS:List (Ty×Bool):=[(K1,true),(.sl 5 (.int .u8),false)]
def AR (c:D1)(b:List Int):=bM ZN F ab f116 PS avt 2 (c,b,())
def ak6 (c:D1)(b:List Int):AR F c b=(cx F0 (b,0,true)).bind fun a=>br (a.1.1==1) ((l8 F0 a.2.1).bind fun i=>(AQ F0 i.2.1).bind fun e=>br (!e.2.1.2.2) (some ((0,0,(ai,0,ai,[]),(0,ai,[]),(0,ai,[]),0,0,0,0,0),false,())) (br (e.2.1.2.1 != (b.length:Int)) (some ((0,0,(ai,0,ai,[]),(0,ai,[]),(0,ai,[]),0,0,0,0,0),false,())) ((eH F0 c (a.1.1,0,(i.1.1,e.1.1),(0,ai,[]),(0,ai,[]),0,0,0,0,0)).bind fun d=>br (!d.1) (some ((0,0,(ai,0,ai,[]),(0,ai,[]),(0,ai,[]),0,0,0,0,0),false,())) (some ((a.1.1,0,(i.1.1,e.1.1),(0,ai,[]),(0,ai,[]),0,0,0,0,0),true,()))))) (br (a.1.1==2) ((cx F0 a.2.1).bind fun j=>(l8 F0 j.2.1).bind fun k=>(Dd F0 k.2.1).bind fun f=>br (!f.2.1.2.2) (some ((0,0,(ai,0,ai,[]),(0,ai,[]),(0,ai,[]),0,0,0,0,0),false,())) (br (f.2.1.2.1 != (b.length:Int)) (some ((0,0,(ai,0,ai,[]),(0,ai,[]),(0,ai,[]),0,0,0,0,0),false,())) ((eH F0 c (a.1.1,0,(ai,0,ai,[]),(j.1.1,k.1.1,f.1.1),(0,ai,[]),0,0,0,0,0)).bind fun d=>br (!d.1) (some ((0,0,(ai,0,ai,[]),(0,ai,[]),(0,ai,[]),0,0,0,0,0),false,())) (some ((a.1.1,0,(ai,0,ai,[]),(j.1.1,k.1.1,f.1.1),(0,ai,[]),0,0,0,0,0),true,()))))) (br (a.1.1==3) ((cx F0 a.2.1).bind fun l=>(cx F0 l.2.1).bind fun m=>(AQ F0 m.2.1).bind fun g=>br (!g.2.1.2.2) (some ((0,0,(ai,0,ai,[]),(0,ai,[]),(0,ai,[]),0,0,0,0,0),false,())) (br (g.2.1.2.1 != (b.length:Int)) (some ((0,0,(ai,0,ai,[]),(0,ai,[]),(0,ai,[]),0,0,0,0,0),false,())) ((eH F0 c (a.1.1,l.1.1,(ai,0,ai,[]),(0,ai,[]),g.1.1,m.1.1,0,0,0,0)).bind fun d=>br (!d.1) (some ((0,0,(ai,0,ai,[]),(0,ai,[]),(0,ai,[]),0,0,0,0,0),false,())) (some ((a.1.1,l.1.1,(ai,0,ai,[]),(0,ai,[]),g.1.1,m.1.1,0,0,0,0),true,()))))) (br (a.1.1==4) ((cx F0 a.2.1).bind fun o=>(cx F0 o.2.1).bind fun p=>(cx F0 p.2.1).bind fun q=>(cx F0 q.2.1).bind fun h=>br (!h.2.1.2.2) (some ((0,0,(ai,0,ai,[]),(0,ai,[]),(0,ai,[]),0,0,0,0,0),false,())) (br (h.2.1.2.1 != (b.length:Int)) (some ((0,0,(ai,0,ai,[]),(0,ai,[]),(0,ai,[]),0,0,0,0,0),false,())) ((eH F0 c (a.1.1,0,(ai,0,ai,[]),(0,ai,[]),(0,ai,[]),0,o.1.1,p.1.1,q.1.1,h.1.1)).bind fun d=>br (!d.1) (some ((0,0,(ai,0,ai,[]),(0,ai,[]),(0,ai,[]),0,0,0,0,0),false,())) (some ((a.1.1,0,(ai,0,ai,[]),(0,ai,[]),(0,ai,[]),0,o.1.1,p.1.1,q.1.1,h.1.1),true,()))))) (br (!a.2.1.2.2) (some ((0,0,(ai,0,ai,[]),(0,ai,[]),(0,ai,[]),0,0,0,0,0),false,())) (br (a.2.1.2.1 != (b.length:Int)) (some ((0,0,(ai,0,ai,[]),(0,ai,[]),(0,ai,[]),0,0,0,0,0),false,())) ((eH F0 c (a.1.1,0,(ai,0,ai,[]),(0,ai,[]),(0,ai,[]),0,0,0,0,0)).bind fun d=>br (!d.1) (some ((0,0,(ai,0,ai,[]),(0,ai,[]),(0,ai,[]),0,0,0,0,0),false,())) (some ((a.1.1,0,(ai,0,ai,[]),(0,ai,[]),(0,ai,[]),0,0,0,0,0),true,())))))))):=by kernel_rfl
def wv:Any:=.one ⟨PS,avt,2,fun x=>AR F0 x.1 x.2.1⟩
def L9:a8 116 wv:=aG ZN ⟨nE,wu,Et,Wg,Sf,trivial⟩ func116 ab (by kernel_rfl)
def fU:=[(101,b5),(113,v7),(114,PR),(115,bP),(116,wv),(117,bN),(118,ea),(119,bV)]
def fV:Nat->Option Hint:=look [(4,{live:=[1,3],xl:=[1],rl:=[2]}),(9,{live:=[1,4],xl:=[1],rl:=[2]}),(15,{live:=[1,7],rl:=[2]})]
def k0 (i w a:Int)(b:List Int)(c:List bL)(d:List cI)(e:List b3):= ei 147 [cl 1,(7,a7 i)] [(1,[ar w,ar a,.ro false 3 (.int .i64) b,.ro false 42 (cC) c,.ro false 95 (iT) d,.ro false 91 (dC) e])] []
def p1 (a:Bool):= bk 147 [(2,vE a)]
def Ke   := bk 147 []
def o5 (a:St):Option U:=eo fU F fV [.r,.r,.r,.r,.l,.r,.b,.i] f56 J n a
def k1:=jx fU F fV [.r,.r,.r,.r,.l,.r,.b] f56 aI 1
def k2 (i w a:Int)(b:List Int)(c:List bL)(d:List cI)(e:List b3):= ei 147 [cl 1,(4,a7 i)] [(1,[ar w,ar a,.ro false 3 (.int .i64) b,.ro false 42 (cC) c,.ro false 95 (iT) d,.ro false 91 (dC) e])] []
def AS (a:Bool):= bk 147 [(2,vE a)]
def Kf (w a:Int)(b:List Int)(c:List bL)(d:List cI)(e:List b3):= ei 147 [cl 1] [(1,[ar w,ar a,.ro false 3 (.int .i64) b,.ro false 42 (cC) c,.ro false 95 (iT) d,.ro false 91 (dC) e])] []
def o6 (a:St):Option U:=eo fU F fV [.r,.r,.r,.l,.r,.b,.i] f56 J n a
def k3:=jx fU F fV [.r,.r,.r,.l,.r,.b] f56 aI 1
def k4 (i w a:Int)(b:List Int)(c:List bL)(d:List cI)(e:List b3):= ei 147 [cl 1,(3,a7 i)] [(1,[ar w,ar a,.ro false 3 (.int .i64) b,.ro false 42 (cC) c,.ro false 95 (iT) d,.ro false 91 (dC) e])] []
def AT (a:Bool):= bk 147 [(2,vE a)]
def Kg (w a:Int)(b:List Int)(c:List bL)(d:List cI)(e:List b3):= ei 147 [cl 1] [(1,[ar w,ar a,.ro false 3 (.int .i64) b,.ro false 42 (cC) c,.ro false 95 (iT) d,.ro false 91 (dC) e])] []
def o7 (a:St):Option U:=eo fU F fV [.r,.r,.l,.r,.b,.i] f56 J n a
def k5:=jx fU F fV [.r,.r,.l,.r,.b] f56 aI 1
def E6 (i w b:Int)(c:List Int)(d:List bL)(e:List cI)(a:List b3):o5 F J (n+1) (k0 i w b c d e a)=br (decide (i<(a.length:Int))) (ck (bh i (a.length:Int)) ((bD F0 (aJ a i dC.aw).2.2 0 (ak (w-1))).bind fun f=>br (!f.1) (J .ret (p1 false)) ((ep F0 (aJ a i dC.aw).2.1).bind fun g=>br (!g.1) (J .ret (p1 false)) ((cc F0 (aJ a i dC.aw).2.1).bind fun h=>br (h.1 != (aJ a i dC.aw).1) (J .ret (p1 false)) (o5 F J n (k0 (ak (i+1)) w b c d e a)))))) (J (.exit 4) (Ke)):=by kernel_rfl
def E7 (i w b:Int)(c:List Int)(d:List bL)(a:List cI)(e:List b3):o6 F J (n+1) (k2 i w b c d a e)=br (decide (i<(a.length:Int))) (ck (bh i (a.length:Int)) ((AR F0 (w,b) (aJ a i (0,[])).2).bind fun f=>br (!f.2.1) (J .ret (AS false)) (ck (bh i (a.length:Int)) ((bD F0 (aJ a i (0,[])).1 0 (ak (w-1))).bind fun g=>br (!g.1) (J .ret (AS false)) (o6 F J n (k2 (ak (i+1)) w b c d a e)))))) (J (.exit 2) (Kf w b c d a e)):=by kernel_rfl
def E8 (i w b:Int)(c:List Int)(a:List bL)(d:List cI)(e:List b3):o7 F J (n+1) (k4 i w b c a d e)=br (decide (i<(a.length:Int))) (ck (bh i (a.length:Int)) (br ((aJ a i cC.aw).1 != i) (J .ret (AT false)) (ck (bh i (a.length:Int)) ((cR F0 (w,b) (aJ a i cC.aw)).bind fun f=>br (!f.1) (J .ret (AT false)) (o7 F J n (k4 (ak (i+1)) w b c a d e)))))) (J (.exit 0) (Kg w b c a d e)):=by kernel_rfl
def ZO (a:Bool):k1 F .ret (p1 a)=some (a,()):=by kernel_rfl
def XI: k1 F (.exit 4) (Ke)=some (true,()):=by kernel_rfl
def ZP (a:Bool):k3 F .ret (AS a)=some (a,()):=by kernel_rfl
def XJ (w a:Int)(b:List Int)(c:List bL)(d:List cI)(e:List b3):k3 F (.exit 2) (Kf w a b c d e)=o5 F (k1 F) F.n (k0 0 w a b c d e):=by kernel_rfl
def ZQ (a:Bool):k5 F .ret (AT a)=some (a,()):=by kernel_rfl
def XK (w a:Int)(b:List Int)(c:List bL)(d:List cI)(e:List b3):k5 F (.exit 0) (Kg w a b c d e)=o6 F (k3 F) F.n (k2 0 w a b c d e):=by kernel_rfl
abbrev eI:List (Ty×Bool):=[(gN,true)]
def eJ (w:iU):=bM fU F fV f56 eI aI 1 (w,())
def ae3 (w:iU):eJ F w=(dr F0 w.1).bind fun a=>br (!a.1) (some (false,())) ((AL F0 w.1.1 w.2.1).bind fun b=>br (!b.1) (some (false,())) ((Kd F0 w.1).bind fun c=>br (decide ((w.2.1.length:Int)>c.1)) (some (false,())) (br ((w.2.2.1.length:Int) != w.1.1) (some (false,())) (br (decide ((w.2.2.2.1.length:Int)>60)) (some (false,())) (br (decide ((w.2.2.2.2.length:Int)>300)) (some (false,())) (o7 F (k5 F) F.n (k4 0 w.1.1 w.1.2 w.2.1 w.2.2.1 w.2.2.2.1 w.2.2.2.2))))))):=by kernel_rfl
def er:Any:=.one ⟨eI,aI,1,fun x=>eJ F0 x.1⟩
def gA:a8 56 er:=aG fU ⟨cU,L8,ah2,cm,L9,cb,fS,cD,trivial⟩ func56 fV (by kernel_rfl)
def te:=[(56,er),(101,b5),(102,PQ)]
def tf:Nat->Option Hint:=look [(3,{live:=[2,4,6,7],F4:=[(4,2,3,.int .i64),(4,3,42,cC),(4,4,95,iT),(4,5,91,dC),(6,3,42,cC),(6,4,95,iT),(6,5,91,dC)],xl:=[4,6],rl:=[4,5]})]
def n8 (i c a l m w b:Int)(o:List Int)(d:List bL)(e:List cI)(f:List b3)(g:List Int)(h:List bL)(j:List cI)(k:List b3):= ei 42 [cl 2,cl 4,cl 6,(7,a7 i)] [(2,[ar c,ar a]),(4,[ar l,ar m,.own 1000000 none,.own 1000001 none,.own 1000002 none,.own 1000003 none]),(6,[ar w,ar b,.own 1000004 none,.own 1000005 none,.own 1000006 none,.own 1000007 none])] [aP 1000000 3 (.int .i64) o,aP 1000001 42 cC d,aP 1000002 95 iT e,aP 1000003 91 dC f,aP 1000004 3 (.int .i64) g,aP 1000005 42 cC h,aP 1000006 95 iT j,aP 1000007 91 dC k]
def uz (i j w a:Int)(k:List Int)(b:List bL)(c:List cI)(d:List b3)(e:List Int)(f:List bL)(g:List cI)(h:List b3):= ei 42 [cl 4,cl 6] [(4,[ar i,ar j,.own 1000000 none,.own 1000001 none,.own 1000002 none,.own 1000003 none]),(6,[ar w,ar a,.own 1000004 none,.own 1000005 none,.own 1000006 none,.own 1000007 none])] [aP 1000000 3 (.int .i64) k,aP 1000001 42 cC b,aP 1000002 95 iT c,aP 1000003 91 dC d,aP 1000004 3 (.int .i64) e,aP 1000005 42 cC f,aP 1000006 95 iT g,aP 1000007 91 dC h]
def tg (a:St):Option U:=eo te F tf [.r,.r,.l,.r,.b,.i] f44 J n a
abbrev ayt:List (Ty×Bool):=[(gN,true),(.bool,false)]
def wx:=jx te F tf [.r,.r,.l,.r,.b] f44 ayt 2
def De (i c b l m w d:Int)(o:List Int)(e:List bL)(f:List cI)(g:List b3)(h:List Int)(a:List bL)(j:List cI)(k:List b3):tg F J (n+1) (n8 i c b l m w d o e f g h a j k)=br (decide (i<c)) ((dr F0 (c,b)).bind fun q=>br q.1 ((Kc F0 (c,b) i).bind fun p=>ck (fA F a.length [p.1].length 208) (tg F J n (n8 (ak (i+1)) c b l m w d o e f g h (a++[p.1]) j k))) (J (.exit 0) (uz l m w d o e f g h a j k))) (J (.exit 0) (uz l m w d o e f g h a j k)):=by kernel_rfl
def U4 (j k w a:Int)(l:List Int)(f:List bL)(g:List cI)(h:List b3)(b:List Int)(c:List bL)(d:List cI)(e:List b3):wx F (.exit 0) (uz j k w a l f g h b c d e)=(eJ F0 ((w,a),b,c,d,e)).bind fun i=>br (!i.1) (some (((0,0),[],[],[],[]),false,())) (some (((w,a),b,c,d,e),true,())):=by kernel_rfl
abbrev aBA:List (Ty×Bool):=[(K1,true),(.sl 3 (.int .i64),false)]
def sg (c:D1)(a:List Int):=bM te F tf f44 aBA ayt 2 (c,a,())
def abW (c:D1)(a:List Int):sg F c a=ck (fA F 0 a.length 8) (tg F (wx F) F.n (n8 0 c.1 c.2 0 0 c.1 c.2 [] [] [] [] ([]++a) [] [] [])):=by kernel_rfl
def Kh:Any:=.one ⟨aBA,ayt,2,fun x=>sg F0 x.1 x.2.1⟩
def abX:a8 44 Kh:=aG te ⟨gA,cU,ah0,trivial⟩ func44 tf (by kernel_rfl)
def E9:=[(44,Kh),(97,cA),(98,av),(121,bH)]
def n9 (c:D2):=fR E9 F ab f197 bn 0 .cur eI bn 2 (c,())
def Sg (c:D2):n9 F c=(aU F0 c [4,4,4,5,7]).bind fun a=>(af F0 a.2.1 3).bind fun b=>(dm F0 b.2.1 3).bind fun d=>br (!d.1.1) ((af F0 d.2.1 a.1.1).bind fun f=>(sg F0 (a.1.1,ak (1+b.1.1)) [f.1.1]).bind fun e=>some ((e.1,()),f.2.1,())) ((sg F0 (a.1.1,ak (1+b.1.1)) []).bind fun e=>some ((e.1,()),d.2.1,())):=by kernel_rfl
def zJ:Any:=.two ⟨bn,0,.cur,eI,2,bn,fun x=>n9 F0 x.1⟩
def Sh:a8 197 zJ:=jy E9 ⟨abX,dp,aA,bU,trivial⟩ func197 ab (by kernel_rfl)
def ad1:=[(101,b5)]
def k6 (c:D1)(a:Int):=bM ad1 F ab f301 avr c8 1 (c,a,())
def aoq (c:D1)(a:Int):k6 F c a=(dr F0 c).bind fun b=>br (!b.1) (some (-1,())) (br (decide (a<0)) (some (-1,())) (ck (!(c.1==0)) (some (Int.tmod a c.1,())))):=by kernel_rfl
def hN:Any:=.one ⟨avr,c8,1,fun x=>k6 F0 x.1 x.2.1⟩
def l9:a8 301 hN:=aG ad1 ⟨cU,trivial⟩ func301 ab (by kernel_rfl)
def fE (p:D9):=bM ax F ab f262 gS gS 2 (p,())
def ae4 (p:D9):fE F p=ck (fA F 0 p.2.2.length 8) (some ((p.1,p.2.1,[]++p.2.2),())):=by kernel_rfl
def hU:Any:=.one ⟨gS,gS,2,fun x=>fE F0 x.1⟩
def ng:a8 262 hU:=aG ax trivial func262 ab (by kernel_rfl)
end
end Go.Am.Tryz
namespace Go.Am.Tryz
open Go.Am Go.Proofs Go.Proofs.Tryz
noncomputable section
variable {U:Type} (F:nP) (J:Ex->St->Option U) (n:Nat)
def th:=[(262,hU)]
def ti:Nat->Option Hint:=look [(2,{live:=[0,1,2,6,7],F4:=[(6,2,3,.int .i64)],xl:=[1,2,6],rl:=[6]})]
def jF (a:List D9)(b:Int)(name:ByteArray)(i c:Int)(d:ByteArray)(e:List Int):= ei 38 [(0,mU 29 (K9) a),(1,a7 b),(2,XD name),cl 6,(7,a7 i)] [(6,[ar c,.str d,.own 1000000 none])] [aP 1000000 3 (.int .i64) e]
def Ki (a:Int)(b:ByteArray)(c:List Int):= ei 38 [cl 6] [(6,[ar a,.str b,.own 1000000 none])] [aP 1000000 3 (.int .i64) c]
def Il (a:Int)(name:ByteArray)(b:Int)(c:ByteArray)(d:List Int):= ei 38 [(1,a7 a),(2,XD name),cl 6] [(6,[ar b,.str c,.own 1000000 none])] [aP 1000000 3 (.int .i64) d]
def nh (a:St):Option U:=eo th F ti [.r,.l,.r,.b,.i] f302 J n a
def oa:=jx th F ti [.r,.l,.r,.b] f302 gS 2
def Df (a:List D9)(b:Int)(name:ByteArray)(i c:Int)(d:ByteArray)(e:List Int):nh F J (n+1) (jF a b name i c d e)=br (decide (i<(a.length:Int))) (ck (bh i (a.length:Int)) (br ((aJ a i K9.aw).1==b) (ck (bh i (a.length:Int)) (br ((aJ a i K9.aw).2.1.toList==name.toList) (ck (bh i (a.length:Int)) ((fE F0 (aJ a i K9.aw)).bind fun f=>J .ret (Ki f.1.1 f.1.2.1 f.1.2.2))) (nh F J n (jF a b name (ak (i+1)) c d e)))) (nh F J n (jF a b name (ak (i+1)) c d e)))) (J (.exit 0) (Il b name c d e)):=by kernel_rfl
def XL (a:Int)(b:ByteArray)(c:List Int):oa F .ret (Ki a b c)=some ((a,b,c),()):=by kernel_rfl
def U5 (a:Int)(name:ByteArray)(b:Int)(c:ByteArray)(d:List Int):oa F (.exit 0) (Il a name b c d)=some ((a,name,[]),()):=by kernel_rfl
abbrev aBB:List (Ty×Bool):=[(K14,false),(.int .i64,false),(.str,false)]
def nF (a:D14)(b:Int)(name:ByteArray):=bM th F ti f302 aBB gS 2 (a,b,name,())
def abY (a:D14)(b:Int)(name:ByteArray):nF F a b name=nh F (oa F) F.n (jF a b name 0 0 ai []):=by kernel_rfl
def oc:Any:=.one ⟨aBB,gS,2,fun x=>nF F0 x.1 x.2.1 x.2.2.1⟩
def AU:a8 302 oc:=aG th ⟨ng,trivial⟩ func302 ti (by kernel_rfl)
def Gx:=[(142,oY)]
def Gy:Nat->Option Hint:=look [(4,{live:=[3,4,6],xl:=[3],rl:=[2]})]
def wy (i:Int)(b:List D4)(a:List D6):= ei 27 [(3,.v (.c (.own 1000000 none))),(4,.v (.c (.own 1000001 none))),(6,a7 i)] [] [aP 1000000 99 K4 b,aP 1000001 163 K6 a]
def PT (a:List D4):= ei 27 [(3,.v (.c (.own 1000000 none)))] [] [aP 1000000 99 K4 a]
def Gz (a:St):Option U:=eo Gx F Gy [.r,.r,.r,.l,.r,.b,.i] f157 J n a
def Im:=jx Gx F Gy [.r,.r,.r,.l,.r,.b] f157 n2 2
def Kj (i:Int)(b:List D4)(a:List D6):Gz F J (n+1) (wy i b a)=br (decide (i<(a.length:Int))) (ck (bh i (a.length:Int)) (ck (fA F b.length (aJ a i (0,[])).2.length 32) (Gz F J n (wy (ak (i+1)) (b++(aJ a i (0,[])).2) a)))) (J (.exit 0) (PT b)):=by kernel_rfl
def abZ (a:List D4):Im F (.exit 0) (PT a)=some (a,()):=by kernel_rfl
def o8 (s:ByteArray):=bM Gx F Gy f157 dc n2 2 (s,())
def ak7 (s:ByteArray):o8 F s=(oX F0 s).bind fun a=>Gz F (Im F) F.n (wy 0 [] a.1):=by kernel_rfl
def wz:Any:=.one ⟨dc,n2,2,fun x=>o8 F0 x.1⟩
def Ma:a8 157 wz:=aG Gx ⟨BN,trivial⟩ func157 Gy (by kernel_rfl)
def B5:=[(190,Gm),(233,sX)]
def B6:Nat->Option Hint:=look [(4,{live:=[1,4,6,7,8],F4:=[(4,0,3,.int .i64),(4,1,3,.int .i64)],xl:=[4,6,7],rl:=[4,5]})]
def tj (e:List D4)(i:Int)(f a b c d:List Int):= ei 36 [(1,mU 99 (K4) e),cl 4,cl 6,(7,.v (.c (.own 1000000 none))),(8,a7 i)] [(4,[.own 1000001 none,.own 1000002 none]),(6,[.own 1000003 none,.own 1000004 none])] [aP 1000000 3 (.int .i64) f,aP 1000001 3 (.int .i64) a,aP 1000002 3 (.int .i64) b,aP 1000003 3 (.int .i64) c,aP 1000004 3 (.int .i64) d]
def MV (e a b c d:List Int):= ei 36 [cl 4,cl 6,(7,.v (.c (.own 1000000 none)))] [(4,[.own 1000001 none,.own 1000002 none]),(6,[.own 1000003 none,.own 1000004 none])] [aP 1000000 3 (.int .i64) e,aP 1000001 3 (.int .i64) a,aP 1000002 3 (.int .i64) b,aP 1000003 3 (.int .i64) c,aP 1000004 3 (.int .i64) d]
def B7 (a:St):Option U:=eo B5 F B6 [.r,.r,.r,.l,.r,.b,.i] f155 J n a
abbrev amz:List (Ty×Bool):=[(K10,true),(.sl 3 (.int .i64),false)]
def Ew:=jx B5 F B6 [.r,.r,.r,.l,.r,.b] f155 amz 2
def Io (a:List D4)(i:Int)(c d e f g:List Int):B7 F J (n+1) (tj a i c d e f g)=br (decide (i<(a.length:Int))) (ck (bh i (a.length:Int)) ((H9 F0 (f,g) (aJ a i K4.aw)).bind fun b=>ck (fA F c.length [b.2.1].length 8) (B7 F J n (tj a (ak (i+1)) (c++[b.2.1]) d e b.1.1 b.1.2)))) (J (.exit 0) (MV c d e f g)):=by kernel_rfl
def ZR (c d e a b:List Int):Ew F (.exit 0) (MV c d e a b)=some ((a,b),c,()):=by kernel_rfl
abbrev avu:List (Ty×Bool):=[(K10,true),(K5,false)]
def o9 (l:D10)(a:D5):=bM B5 F B6 f155 avu amz 2 (l,a,())
def ah6 (l:D10)(b:D5):o9 F l b=(o1 F0 l).bind fun a=>B7 F (Ew F) F.n (tj b 0 [] [] [] a.1.1 a.1.2):=by kernel_rfl
def tk:Any:=.one ⟨avu,amz,2,fun x=>o9 F0 x.1 x.2.1⟩
def Ip:a8 155 tk:=aG B5 ⟨R6,H6,trivial⟩ func155 B6 (by kernel_rfl)
def tl:=[(190,Gm),(233,sX)]
def tn:Nat->Option Hint:=look [(4,{live:=[0,5,6,7],xl:=[5],rl:=[4]})]
def gm (p:List D4)(i:Int)(c:List D4)(a b:List Int):= ei 48 [(0,mU 99 (K4) p),(5,.v (.c (.own 1000000 none))),cl 6,(7,a7 i)] [(6,[.own 1000001 none,.own 1000002 none])] [aP 1000000 99 K4 c,aP 1000001 3 (.int .i64) a,aP 1000002 3 (.int .i64) b]
def uA (a:List D4):= ei 48 [(5,.v (.c (.own 1000000 none)))] [] [aP 1000000 99 K4 a]
def iW (a:St):Option U:=eo tl F tn [.r,.r,.r,.l,.r,.b,.i] f303 J n a
def wA:=jx tl F tn [.r,.r,.r,.l,.r,.b] f303 n2 2
def Dg (p:List D4)(i:Int)(a:List D4)(c d:List Int):iW F J (n+1) (gm p i a c d)=br (decide (i<(p.length:Int))) (br (decide ((a.length:Int)<2)) (ck (bh i (p.length:Int)) ((H9 F0 (c,d) (aJ p i K4.aw)).bind fun b=>br (b.2.1==0) (ck (bh i (p.length:Int)) (ck (fA F a.length [(aJ p i K4.aw)].length 32) (iW F J n (gm p (ak (i+1)) (a++[(aJ p i K4.aw)]) b.1.1 b.1.2)))) (br (b.2.1==4) (ck (bh i (p.length:Int)) (ck (fA F a.length [(aJ p i K4.aw)].length 32) (iW F J n (gm p (ak (i+1)) (a++[(aJ p i K4.aw)]) b.1.1 b.1.2)))) (iW F J n (gm p (ak (i+1)) a c d))))) (J (.exit 0) (uA a))) (J (.exit 0) (uA a)):=by kernel_rfl
def Fa (a:List D4):wA F (.exit 0) (uA a)=some (a,()):=by kernel_rfl
abbrev avv:List (Ty×Bool):=[(K5,false),(K10,true)]
def nG (p:D5)(l:D10):=bM tl F tn f303 avv n2 2 (p,l,())
def ab0 (p:D5)(l:D10):nG F p l=(o1 F0 l).bind fun a=>iW F (wA F) F.n (gm p 0 [] a.1.1 a.1.2):=by kernel_rfl
def Kk:Any:=.one ⟨avv,n2,2,fun x=>nG F0 x.1 x.2.1⟩
def ab1:a8 303 Kk:=aG tl ⟨R6,H6,trivial⟩ func303 tn (by kernel_rfl)
def hO (q:D9):=bM ax F ab f293 gS gS 2 (q,())
def ah7 (q:D9):hO F q=ck (fA F 0 q.2.2.length 8) (some ((q.1,q.2.1,[]++q.2.2),())):=by kernel_rfl
def gB:Any:=.one ⟨gS,gS,2,fun x=>hO F0 x.1⟩
def k7:a8 293 gB:=aG ax trivial func293 ab (by kernel_rfl)
def PU:=[(119,bV),(187,mY),(257,kZ),(293,gB)]
abbrev avw:List (Ty×Bool):=[(K16,true),(.bool,false)]
abbrev aBC:List (Ty×Bool):=[(K1,true),(K9,true),(.int .i64,false),(K5,false)]
def hQ (c:D1)(q:D9)(a:Int)(b:D5):=bM PU F ab f268 aBC avw 2 (c,q,a,b,())
def MW (c:D1)(q:D9)(b:Int)(e:D5):hQ F c q b e=(eY F0 q.2.1 b e).bind fun a=>(hO F0 q).bind fun d=>(l7 F0 c (a.1,d.1)).bind fun f=>br (!f.1) (some ((ai,0,ai,[]),false,())) ((cc F0 a.1).bind fun g=>br (g.1 != b) (some ((ai,0,ai,[]),false,())) (some ((a.1,d.1),true,()))):=by kernel_rfl
def oe:Any:=.one ⟨aBC,avw,2,fun x=>hQ F0 x.1 x.2.1 x.2.2.1 x.2.2.2.1⟩
def AW:a8 268 oe:=aG PU ⟨cD,vR,s8,k7,trivial⟩ func268 ab (by kernel_rfl)
def ah8:=[(115,bP),(155,tk),(156,l5),(157,wz),(268,oe),(295,s3),(301,hN),(302,oc),(303,Kk)]
def Si (c:D1)(r:bL):=bM ah8 F ab f265 Gv avw 2 (c,r,())
def aqu (c:D1)(r:bL):Si F c r=(cR F0 c r).bind fun g=>br (!g.1) (some ((ai,0,ai,[]),false,())) ((k6 F0 c r.2.1).bind fun h=>br (h.1 != r.1) (some ((ai,0,ai,[]),false,())) (br (decide (r.2.2.1>=r.2.1)) (some ((ai,0,ai,[]),false,())) ((nF F0 r.2.2.2.2.2.1 r.2.1 ai).bind fun i=>br (r.2.2.2.1.2.2.1.1 != (ak (r.2.1-1))) ((u1 F0 c).bind fun j=>br (decide ((i.1.2.2.length:Int)<j.1)) (some ((ai,0,ai,[]),false,())) ((ic F0).bind fun b=>(o8 F0 r.2.2.2.1.2.2.1.2.1).bind fun d=>(o9 F0 b.1 d.1).bind fun e=>(nG F0 r.2.2.2.2.1 e.1).bind fun f=>(hQ F0 c r.2.2.2.1.2.2.1 r.2.1 f.1).bind fun a=>some (a.1,a.2.1,()))) ((ic F0).bind fun b=>(o8 F0 r.2.2.2.1.2.2.1.2.1).bind fun d=>(o9 F0 b.1 d.1).bind fun e=>(nG F0 r.2.2.2.2.1 e.1).bind fun f=>(hQ F0 c r.2.2.2.1.2.2.1 r.2.1 f.1).bind fun a=>some (a.1,a.2.1,()))))):=by kernel_rfl
def OA:Any:=.one ⟨Gv,avw,2,fun x=>Si F0 x.1 x.2.1⟩
def ad2:a8 265 OA:=aG ah8 ⟨cm,Ip,vV,Ma,AW,Ia,l9,AU,ab1,trivial⟩ func265 ab (by kernel_rfl)
def bA (a b:Int):=bM ax F ab f267 amw c8 1 (a,b,())
def ak8 (a b:Int):bA F a b=br (decide (a<b)) (some (a,())) (some (b,())):=by kernel_rfl
def ig:Any:=.one ⟨amw,c8,1,fun x=>bA F0 x.1 x.2.1⟩
def nH:a8 267 ig:=aG ax trivial func267 ab (by kernel_rfl)
def ky:=[(97,cA),(98,av),(120,mV),(187,mY),(267,ig),(270,sf)]
def kz:Nat->Option Hint:=look [(11,{live:=[3,4,5,6,7,9],F4:=[(4,5,3,.int .i64),(4,8,3,.int .i64),(4,11,3,.int .i64)],xl:=[4,5,6,7],rl:=[4]})]
def bZ (r:Int)(name:ByteArray)(i:Int)(a:List Int)(b c w d:Int)(e:List Int)(f:List bL)(g:List cI)(h:List b3)(s t:Int)(u:ByteArray)(v:Int)(x:ByteArray)(y:Int)(z:ByteArray)(A:Int)(B:ByteArray)(C j k l m:Int)(D o p q:List Int):St:={nt:=89,tm:=[cl 3,cl 4,(5,a7 r),(6,XD name),(7,.v (.c (.own 1000000 none))),(9,a7 i)],bx:=[(4000000,[.ro true 5 (.int .u8) a,ar b,ar c]),(3,[ar w,ar d,.ro false 3 (.int .i64) e,.ro false 42 (cC) f,.ro false 95 (iT) g,.ro false 91 (dC) h]),(4,[ar s,ar t,.str u,ar v,.str x,.own 1000001 none,ar y,.str z,.own 1000002 none,ar A,.str B,.own 1000003 none,ar C,ar j,ar k,ar l,ar m])],bl:=[aP 1000000 3 (.int .i64) D,aP 1000001 3 (.int .i64) o,aP 1000002 3 (.int .i64) p,aP 1000003 3 (.int .i64) q],sp:=.v (.c (.ptr 4000000 0))}
def wB (k:Int)(name:ByteArray)(a:List Int)(b c l m:Int)(o:ByteArray)(p:Int)(q:ByteArray)(r:Int)(s:ByteArray)(t:Int)(u:ByteArray)(v d e f g:Int)(w h i j:List Int):St:={nt:=89,tm:=[cl 4,(5,a7 k),(6,XD name),(7,.v (.c (.own 1000000 none)))],bx:=[(4000000,[.ro true 5 (.int .u8) a,ar b,ar c]),(4,[ar l,ar m,.str o,ar p,.str q,.own 1000001 none,ar r,.str s,.own 1000002 none,ar t,.str u,.own 1000003 none,ar v,ar d,ar e,ar f,ar g])],bl:=[aP 1000000 3 (.int .i64) w,aP 1000001 3 (.int .i64) h,aP 1000002 3 (.int .i64) i,aP 1000003 3 (.int .i64) j],sp:=.v (.c (.ptr 4000000 0))}
def cz (a:St):Option U:=eo ky F kz [.r,.r,.r,.r,.r,.l,.r,.b,.i] f304 J n a
def dR:=L7 ky F kz [.r,.r,.r,.r,.r,.l,.r,.b] f304 .cur u3 bn 2
def sh (b:Int)(name:ByteArray)(i:Int)(c:List Int)(d e w A:Int)(B:List Int)(C:List bL)(D:List cI)(a:List b3)(o p:Int)(q:ByteArray)(r:Int)(s:ByteArray)(t:Int)(u:ByteArray)(v:Int)(x:ByteArray)(y f g h j:Int)(z k l m:List Int):cz F J (n+1) (bZ b name i c d e w A B C D a o p q r s t u v x y f g h j z k l m)=br (decide (i<(a.length:Int))) (ck (bh i (a.length:Int)) (br ((aJ a i dC.aw).1==b) (ck (bh i (a.length:Int)) (br ((aJ a i dC.aw).2.1.toList==name.toList) (ck (bh i (a.length:Int)) ((lQ F0 z (aJ a i dC.aw).2.2).bind fun E=>cz F J n (bZ b name (ak (i+1)) c d e w A B C D a o p q r s t u v x y f g h j E.1 k l m))) (cz F J n (bZ b name (ak (i+1)) c d e w A B C D a o p q r s t u v x y f g h j z k l m)))) (cz F J n (bZ b name (ak (i+1)) c d e w A B C D a o p q r s t u v x y f g h j z k l m)))) (J (.exit 0) (wB b name c d e o p q r s t u v x y f g h j z k l m)):=by kernel_rfl
def MX (d:Int)(name:ByteArray)(a:List Int)(b c m o:Int)(p:ByteArray)(q:Int)(r:ByteArray)(s:Int)(t:ByteArray)(u:Int)(v:ByteArray)(w f g h i:Int)(e j k l:List Int):dR F (.exit 0) (wB d name a b c m o p q r s t u v w f g h i e j k l)=some (((2,0,(ai,0,ai,[]),(d,name,e),(0,ai,[]),0,0,0,0,0),()),(a,b,c),()):=by kernel_rfl
abbrev amA:List (Ty×Bool):=[(K2,true),(gN,true)]
def og (c:D2)(w:iU):=fR ky F kz f304 amA 0 .cur u3 bn 2 (c,w,())
def Sj (c:D2)(w:iU):og F c w=(af F0 c 4).bind fun d=>(eY F0 ai (ak (1+d.1.1)) []).bind fun e=>ck (fA F 0 w.2.1.length 8) (br (decide ((w.2.2.2.2.length:Int)>0)) ((bA F0 (w.2.2.2.2.length:Int) 8).bind fun f=>(af F0 d.2.1 f.1).bind fun a=>ck (bh (ak ((ak ((w.2.2.2.2.length:Int)-1))-a.1.1)) (w.2.2.2.2.length:Int)) ((dm F0 a.2.1 3).bind fun b=>br b.1.1 ((kY F0 (aJ w.2.2.2.2 (ak ((ak ((w.2.2.2.2.length:Int)-1))-a.1.1)) dC.aw).2.1).bind fun g=>(eY F0 g.1 (aJ w.2.2.2.2 (ak ((ak ((w.2.2.2.2.length:Int)-1))-a.1.1)) dC.aw).1 [(1,0,1,0)]).bind fun h=>cz F (dR F) F.n (bZ (aJ w.2.2.2.2 (ak ((ak ((w.2.2.2.2.length:Int)-1))-a.1.1)) dC.aw).1 h.1 0 b.2.1.1 b.2.1.2.1 b.2.1.2.2 w.1.1 w.1.2 w.2.1 w.2.2.1 w.2.2.2.1 w.2.2.2.2 0 0 ai 0 ai 0 ai 0 ai 0 0 0 0 0 ([]++w.2.1) [] [] [])) (cz F (dR F) F.n (bZ (aJ w.2.2.2.2 (ak ((ak ((w.2.2.2.2.length:Int)-1))-a.1.1)) dC.aw).1 (aJ w.2.2.2.2 (ak ((ak ((w.2.2.2.2.length:Int)-1))-a.1.1)) dC.aw).2.1 0 b.2.1.1 b.2.1.2.1 b.2.1.2.2 w.1.1 w.1.2 w.2.1 w.2.2.1 w.2.2.2.1 w.2.2.2.2 0 0 ai 0 ai 0 ai 0 ai 0 0 0 0 0 ([]++w.2.1) [] [] [])))) (cz F (dR F) F.n (bZ (ak (1+d.1.1)) e.1 0 d.2.1.1 d.2.1.2.1 d.2.1.2.2 w.1.1 w.1.2 w.2.1 w.2.2.1 w.2.2.2.1 w.2.2.2.2 0 0 ai 0 ai 0 ai 0 ai 0 0 0 0 0 ([]++w.2.1) [] [] []))):=by kernel_rfl
def zU:Any:=.two ⟨amA,0,.cur,u3,2,bn,fun x=>og F0 x.1 x.2.1⟩
def Sk:a8 304 zU:=jy ky ⟨dp,aA,vG,vR,nH,Gr,trivial⟩ func304 kz (by kernel_rfl)
def GA: Option (Args gS):=bM ax F ab f305 [] gS 2 (())
def ae5: GA F= some ((0,ai,[]),()):=by kernel_rfl
def MY:Any:=.one ⟨[],gS,2,fun x=>GA F0⟩
def ae6:a8 305 MY:=aG ax trivial func305 ab (by kernel_rfl)
def oh:=[(97,cA),(98,av),(186,cM),(251,fD),(267,ig),(268,oe),(293,gB),(301,hN),(304,zU),(305,MY)]
def oi:Nat->Option Hint:=look [(17,{live:=[0,3,4,6,7,8,9],F4:=[(4,5,3,.int .i64),(4,8,3,.int .i64),(4,11,3,.int .i64)],xl:=[0,3,4,6,8],rl:=[4]})]
def ba (dE t k:Int)(a:List Int)(b c w d:Int)(e:List Int)(f:List bL)(g:List cI)(h:List b3)(u v:Int)(x:ByteArray)(y:Int)(z:ByteArray)(A:Int)(B:ByteArray)(C:Int)(D:ByteArray)(E i j l m q:Int)(o:ByteArray)(G p r s:List Int):St:={nt:=115,tm:=[(0,.v (.c (.ptr 4000000 0))),cl 3,cl 4,cl 6,(7,a7 dE),(8,a7 t),(9,a7 k)],bx:=[(4000000,[.ro true 5 (.int .u8) a,ar b,ar c]),(3,[ar w,ar d,.ro false 3 (.int .i64) e,.ro false 42 (cC) f,.ro false 95 (iT) g,.ro false 91 (dC) h]),(4,[ar u,ar v,.str x,ar y,.str z,.own 1000000 none,ar A,.str B,.own 1000001 none,ar C,.str D,.own 1000002 none,ar E,ar i,ar j,ar l,ar m]),(6,[ar q,.str o,.own 1000003 none])],bl:=[aP 1000000 3 (.int .i64) G,aP 1000001 3 (.int .i64) p,aP 1000002 3 (.int .i64) r,aP 1000003 3 (.int .i64) s],sp:=.v (.c (.ptr 4000000 0))}
def fW (s:Int)(a:List Int)(b c w d:Int)(e:List Int)(f:List bL)(g:List cI)(h:List b3)(t u:Int)(v:ByteArray)(x:Int)(y:ByteArray)(z:Int)(A:ByteArray)(B:Int)(C:ByteArray)(D i j k l q:Int)(m:ByteArray)(E o p r:List Int):St:={nt:=115,tm:=[(0,.v (.c (.ptr 4000000 0))),cl 3,cl 4,cl 6,(8,a7 s)],bx:=[(4000000,[.ro true 5 (.int .u8) a,ar b,ar c]),(3,[ar w,ar d,.ro false 3 (.int .i64) e,.ro false 42 (cC) f,.ro false 95 (iT) g,.ro false 91 (dC) h]),(4,[ar t,ar u,.str v,ar x,.str y,.own 1000000 none,ar z,.str A,.own 1000001 none,ar B,.str C,.own 1000002 none,ar D,ar i,ar j,ar k,ar l]),(6,[ar q,.str m,.own 1000003 none])],bl:=[aP 1000000 3 (.int .i64) E,aP 1000001 3 (.int .i64) o,aP 1000002 3 (.int .i64) p,aP 1000003 3 (.int .i64) r],sp:=.v (.c (.ptr 4000000 0))}
def bB (a:St):Option U:=eo oh F oi [.r,.r,.r,.r,.r,.r,.r,.r,.l,.r,.b,.i] f266 J n a
def bb:=L7 oh F oi [.r,.r,.r,.r,.r,.r,.r,.r,.l,.r,.b] f266 .cur u3 bn 2
def wC (dE a k:Int)(c:List Int)(d e w b:Int)(f:List Int)(g:List bL)(h:List cI)(i:List b3)(u v:Int)(x:ByteArray)(y:Int)(z:ByteArray)(A:Int)(B:ByteArray)(C:Int)(D:ByteArray)(E j l m o q:Int)(p:ByteArray)(G r s t:List Int):bB F J (n+1) (ba dE a k c d e w b f g h i u v x y z A B C D E j l m o q p G r s t)=br (decide (k<7)) (br (decide (a<60)) ((k6 F0 (w,b) a).bind fun H=>br (H.1 != dE) (bB F J n (ba dE (ak (a+1)) (ak (k+1)) c d e w b f g h i u v x y z A B C D E j l m o q p G r s t)) (J (.exit 1) (fW a c d e w b f g h i u v x y z A B C D E j l m o q p G r s t))) (J (.exit 1) (fW a c d e w b f g h i u v x y z A B C D E j l m o q p G r s t))) (J (.exit 1) (fW a c d e w b f g h i u v x y z A B C D E j l m o q p G r s t)):=by kernel_rfl
def QY (h:Int)(a:List Int)(b c w d:Int)(i:List Int)(j:List bL)(k:List cI)(l:List b3)(v x:Int)(y:ByteArray)(z:Int)(A:ByteArray)(B:Int)(C:ByteArray)(D:Int)(E:ByteArray)(G m o p r q:Int)(e:ByteArray)(H s t f:List Int):bb F (.exit 1) (fW h a b c w d i j k l v x y z A B C D E G m o p r q e H s t f)=(cZ F0 (a,b,c)).bind fun g=>(hQ F0 (w,d) (q,e,f) h [g.1.1]).bind fun u=>some (((1,0,u.1,(0,ai,[]),(0,ai,[]),0,0,0,0,0),()),g.2.1,()):=by kernel_rfl
def gC (c:D2)(w:iU):=fR oh F oi f266 amA 0 .cur u3 bn 2 (c,w,())
def XM (c:D2)(w:iU):gC F c w=(og F0 c w).bind fun b=>(iV F0 w.1 b.1.1.2.2.2.1).bind fun k=>br (!k.1) ((GA F0).bind fun d=>br (decide ((w.2.2.1.length:Int)>0)) ((dm F0 b.2.1 2).bind fun i=>br i.1.1 ((af F0 i.2.1 (w.2.2.1.length:Int)).bind fun j=>ck (bh j.1.1 (w.2.2.1.length:Int)) ((hO F0 (aJ w.2.2.1 j.1.1 cC.aw).2.2.2.1.2.2.1).bind fun h=>br (decide ((w.2.1.length:Int)>0)) ((af F0 j.2.1 (w.2.1.length:Int)).bind fun f=>ck (bh f.1.1 (w.2.1.length:Int)) ((af F0 f.2.1 4).bind fun a=>br (a.1.1==0) (some ((b.1.1,()),a.2.1,())) (br (a.1.1==1) ((af F0 a.2.1 2).bind fun e=>(bA F0 (ak ((ak (h.1.1+1))+e.1.1)) 60).bind fun g=>some (((3,g.1,(ai,0,ai,[]),(0,ai,[]),h.1,aJ w.2.1 f.1.1 0,0,0,0,0),()),e.2.1,())) (bB F (bb F) F.n (ba (aJ w.2.1 f.1.1 0) (ak (h.1.1+1)) 0 a.2.1.1 a.2.1.2.1 a.2.1.2.2 w.1.1 w.1.2 w.2.1 w.2.2.1 w.2.2.2.1 w.2.2.2.2 0 0 ai 0 ai 0 ai 0 ai 0 0 0 0 0 h.1.1 h.1.2.1 [] [] [] h.1.2.2))))) ((af F0 j.2.1 4).bind fun a=>br (a.1.1==0) (some ((b.1.1,()),a.2.1,())) (br (a.1.1==1) ((af F0 a.2.1 2).bind fun e=>(bA F0 (ak ((ak (h.1.1+1))+e.1.1)) 60).bind fun g=>some (((3,g.1,(ai,0,ai,[]),(0,ai,[]),h.1,0,0,0,0,0),()),e.2.1,())) (bB F (bb F) F.n (ba 0 (ak (h.1.1+1)) 0 a.2.1.1 a.2.1.2.1 a.2.1.2.2 w.1.1 w.1.2 w.2.1 w.2.2.1 w.2.2.2.1 w.2.2.2.2 0 0 ai 0 ai 0 ai 0 ai 0 0 0 0 0 h.1.1 h.1.2.1 [] [] [] h.1.2.2)))))) (br (decide ((w.2.1.length:Int)>0)) ((af F0 i.2.1 (w.2.1.length:Int)).bind fun f=>ck (bh f.1.1 (w.2.1.length:Int)) ((af F0 f.2.1 4).bind fun a=>br (a.1.1==0) (some ((b.1.1,()),a.2.1,())) (br (a.1.1==1) ((af F0 a.2.1 2).bind fun e=>(bA F0 (ak ((ak (d.1.1+1))+e.1.1)) 60).bind fun g=>some (((3,g.1,(ai,0,ai,[]),(0,ai,[]),d.1,aJ w.2.1 f.1.1 0,0,0,0,0),()),e.2.1,())) (bB F (bb F) F.n (ba (aJ w.2.1 f.1.1 0) (ak (d.1.1+1)) 0 a.2.1.1 a.2.1.2.1 a.2.1.2.2 w.1.1 w.1.2 w.2.1 w.2.2.1 w.2.2.2.1 w.2.2.2.2 0 0 ai 0 ai 0 ai 0 ai 0 0 0 0 0 d.1.1 d.1.2.1 [] [] [] d.1.2.2))))) ((af F0 i.2.1 4).bind fun a=>br (a.1.1==0) (some ((b.1.1,()),a.2.1,())) (br (a.1.1==1) ((af F0 a.2.1 2).bind fun e=>(bA F0 (ak ((ak (d.1.1+1))+e.1.1)) 60).bind fun g=>some (((3,g.1,(ai,0,ai,[]),(0,ai,[]),d.1,0,0,0,0,0),()),e.2.1,())) (bB F (bb F) F.n (ba 0 (ak (d.1.1+1)) 0 a.2.1.1 a.2.1.2.1 a.2.1.2.2 w.1.1 w.1.2 w.2.1 w.2.2.1 w.2.2.2.1 w.2.2.2.2 0 0 ai 0 ai 0 ai 0 ai 0 0 0 0 0 d.1.1 d.1.2.1 [] [] [] d.1.2.2)))))) (br (decide ((w.2.1.length:Int)>0)) ((af F0 b.2.1 (w.2.1.length:Int)).bind fun f=>ck (bh f.1.1 (w.2.1.length:Int)) ((af F0 f.2.1 4).bind fun a=>br (a.1.1==0) (some ((b.1.1,()),a.2.1,())) (br (a.1.1==1) ((af F0 a.2.1 2).bind fun e=>(bA F0 (ak ((ak (d.1.1+1))+e.1.1)) 60).bind fun g=>some (((3,g.1,(ai,0,ai,[]),(0,ai,[]),d.1,aJ w.2.1 f.1.1 0,0,0,0,0),()),e.2.1,())) (bB F (bb F) F.n (ba (aJ w.2.1 f.1.1 0) (ak (d.1.1+1)) 0 a.2.1.1 a.2.1.2.1 a.2.1.2.2 w.1.1 w.1.2 w.2.1 w.2.2.1 w.2.2.2.1 w.2.2.2.2 0 0 ai 0 ai 0 ai 0 ai 0 0 0 0 0 d.1.1 d.1.2.1 [] [] [] d.1.2.2))))) ((af F0 b.2.1 4).bind fun a=>br (a.1.1==0) (some ((b.1.1,()),a.2.1,())) (br (a.1.1==1) ((af F0 a.2.1 2).bind fun e=>(bA F0 (ak ((ak (d.1.1+1))+e.1.1)) 60).bind fun g=>some (((3,g.1,(ai,0,ai,[]),(0,ai,[]),d.1,0,0,0,0,0),()),e.2.1,())) (bB F (bb F) F.n (ba 0 (ak (d.1.1+1)) 0 a.2.1.1 a.2.1.2.1 a.2.1.2.2 w.1.1 w.1.2 w.2.1 w.2.2.1 w.2.2.2.1 w.2.2.2.2 0 0 ai 0 ai 0 ai 0 ai 0 0 0 0 0 d.1.1 d.1.2.1 [] [] [] d.1.2.2)))))) (br (decide ((w.2.1.length:Int)>0)) ((af F0 b.2.1 (w.2.1.length:Int)).bind fun f=>ck (bh f.1.1 (w.2.1.length:Int)) ((af F0 f.2.1 4).bind fun a=>br (a.1.1==0) (some ((b.1.1,()),a.2.1,())) (br (a.1.1==1) ((af F0 a.2.1 2).bind fun e=>(bA F0 (ak ((ak (b.1.1.2.2.2.1.1+1))+e.1.1)) 60).bind fun g=>some (((3,g.1,(ai,0,ai,[]),(0,ai,[]),b.1.1.2.2.2.1,aJ w.2.1 f.1.1 0,0,0,0,0),()),e.2.1,())) (bB F (bb F) F.n (ba (aJ w.2.1 f.1.1 0) (ak (b.1.1.2.2.2.1.1+1)) 0 a.2.1.1 a.2.1.2.1 a.2.1.2.2 w.1.1 w.1.2 w.2.1 w.2.2.1 w.2.2.2.1 w.2.2.2.2 0 0 ai 0 ai 0 ai 0 ai 0 0 0 0 0 b.1.1.2.2.2.1.1 b.1.1.2.2.2.1.2.1 [] [] [] b.1.1.2.2.2.1.2.2))))) ((af F0 b.2.1 4).bind fun a=>br (a.1.1==0) (some ((b.1.1,()),a.2.1,())) (br (a.1.1==1) ((af F0 a.2.1 2).bind fun e=>(bA F0 (ak ((ak (b.1.1.2.2.2.1.1+1))+e.1.1)) 60).bind fun g=>some (((3,g.1,(ai,0,ai,[]),(0,ai,[]),b.1.1.2.2.2.1,0,0,0,0,0),()),e.2.1,())) (bB F (bb F) F.n (ba 0 (ak (b.1.1.2.2.2.1.1+1)) 0 a.2.1.1 a.2.1.2.1 a.2.1.2.2 w.1.1 w.1.2 w.2.1 w.2.2.1 w.2.2.2.1 w.2.2.2.2 0 0 ai 0 ai 0 ai 0 ai 0 0 0 0 0 b.1.1.2.2.2.1.1 b.1.1.2.2.2.1.2.1 [] [] [] b.1.1.2.2.2.1.2.2))))):=by kernel_rfl
def Fb:Any:=.two ⟨amA,0,.cur,u3,2,bn,fun x=>gC F0 x.1 x.2.1⟩
def XN:a8 266 Fb:=jy oh ⟨dp,aA,dI,jB,nH,AW,k7,l9,Sk,ae6,trivial⟩ func266 oi (by kernel_rfl)
end
end Go.Am.Tryz
