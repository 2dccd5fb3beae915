/- No condition. -/
import Derived.Test.YtpkabclplaibaaaGreatDoorQwYJG1
set_option linter.all false
set_option maxRecDepth 100000
namespace Go.Am.Tryz
open Go.Am Go.Proofs Go.Proofs.Tryz
noncomputable section
variable {U:Type} (F:nY) (J:Ex->St->Option U) (n:Nat)
def yd:=[(254,nF),(255,vr)]
def ye:Nat->Option Hint:=look [(2,{live:=[1,2,5],xl:=[1],rl:=[4]})]
def k4 (b:List D9)(i c a:Int):= dN 39 [(1,jN 29 (K9) b),bX 2,(5,bd i)] [(2,[aq c,aq a])] []
def B4 (a:Bool):= bD 39 [(4,ED a)]
def LS (a:List D9):= bD 39 [(1,jN 29 (K9) a)]
def pL (a:St):Option U:=ek yd F ye [.r,.l,.r,.b,.i] f179 J n a
def ru:=iR yd F ye [.r,.l,.r,.b] f179 aM 1
def Gx (a:List D9)(i c b:Int):pL F J (n+1) (k4 a i c b)=br (decide (i<(a.length:Int))) (ck (bG i (a.length:Int)) ((jR F0 (c,b) (aL a i K9.az)).bind fun d=>br (!d.1) (J .ret (B4 false)) (br (decide (i>0)) (ck (bG (al (i-1)) (a.length:Int)) (ck (bG i (a.length:Int)) ((pK F0 (aL a (al (i-1)) K9.az) (aL a i K9.az)).bind fun e=>br (!e.1) (J .ret (B4 false)) (pL F J n (k4 a (al (i+1)) c b))))) (pL F J n (k4 a (al (i+1)) c b))))) (J (.exit 0) (LS a)):=by kernel_rfl
def abV (a:Bool):ru F .ret (B4 a)=some (a,()):=by kernel_rfl
def ZY (a:List D9):ru F (.exit 0) (LS a)=some (decide ((a.length:Int)<=20),()):=by kernel_rfl
abbrev ayT:List (Ty×Bool):=[(K1,true),(K14,false)]
def mn (c:D1)(a:D14):=bL yd F ye f179 ayT aM 1 (c,a,())
def ahA (c:D1)(a:D14):mn F c a=pL F (ru F) F.n (k4 a 0 c.1 c.2):=by kernel_rfl
def B5:Any:=.one ⟨ayT,aM,1,fun x=>mn F0 x.1 x.2.1⟩
def RM:bb 179 B5:=aC yd ⟨yc,LR,trivial⟩ func179 ye (by kernel_rfl)
def Yj:=[(117,bW)]
abbrev wh:List (Ty×Bool):=[(K15,true)]
def l8 (d:D15):=bL Yj F ad f180 wh aM 1 (d,())
def akQ (d:D15):l8 F d=br (decide ((d.1.length:Int)<=100000)) ((bI F0 d.2 0 (d.1.length:Int)).bind fun a=>some (a.1,())) (some (false,())):=by kernel_rfl
def nG:Any:=.one ⟨wh,aM,1,fun x=>l8 F0 x.1⟩
def yf:bb 180 nG:=aC Yj ⟨cq,trivial⟩ func180 ad (by kernel_rfl)
def Df:Nat->Option Hint:=look [(2,{live:=[0,1,5],xl:=[0,1],rl:=[4]})]
def ud (a b:List Int)(i:Int):= bD 32 [(0,jN 3 (.int .i64) a),(1,jN 3 (.int .i64) b),(5,bd i)]
def RN (a:Bool):= bD 32 [(4,ED a)]
def B6 (a b:List Int):= bD 32 [(0,jN 3 (.int .i64) a),(1,jN 3 (.int .i64) b)]
def Dg (a:St):Option U:=ek ax F Df [.r,.l,.r,.b,.i] f287 J n a
def ue:=iR ax F Df [.r,.l,.r,.b] f287 aM 1
def JK (a b:List Int)(i:Int):Dg F J (n+1) (ud a b i)=br (decide (i<(a.length:Int))) (br (decide (i<(b.length:Int))) (ck (bG i (a.length:Int)) (ck (bG i (b.length:Int)) (br ((aL a i 0) != (aL b i 0)) (J .ret (RN false)) (Dg F J n (ud a b (al (i+1))))))) (J (.exit 0) (B6 a b))) (J (.exit 0) (B6 a b)):=by kernel_rfl
def aep (a:Bool):ue F .ret (RN a)=some (a,()):=by kernel_rfl
def abW (a b:List Int):ue F (.exit 0) (B6 a b)=some ((a.length:Int)==(b.length:Int),()):=by kernel_rfl
abbrev an5:List (Ty×Bool):=[(.sl 3 (.int .i64),false),(.sl 3 (.int .i64),false)]
def EI (a b:List Int):=bL ax F Df f287 an5 aM 1 (a,b,())
def akR (a b:List Int):EI F a b=Dg F (ue F) F.n (ud a b 0):=by kernel_rfl
def FM:Any:=.one ⟨an5,aM,1,fun x=>EI F0 x.1 x.2.1⟩
def Ug:bb 287 FM:=aC ax trivial func287 Df (by kernel_rfl)
def Yk:=[(287,FM)]
def wi (a b:D9):=bL Yk F ad f236 Bh aM 1 (a,b,())
def akS (a b:D9):wi F a b=br (a.1==b.1) (br (a.2.1.toList==b.2.1.toList) ((EI F0 a.2.2 b.2.2).bind fun c=>some (c.1,())) (some (false,()))) (some (false,())):=by kernel_rfl
def uf:Any:=.one ⟨Bh,aM,1,fun x=>wi F0 x.1 x.2.1⟩
def JL:bb 236 uf:=aC Yk ⟨Ug,trivial⟩ func236 ad (by kernel_rfl)
def OG:=[(236,uf)]
abbrev ayU:List (Ty×Bool):=[(K16,true),(K16,true)]
def yg (a b:D16):=bL OG F ad f245 ayU aM 1 (a,b,())
def abX (a b:D16):yg F a b=br (a.1.toList==b.1.toList) ((wi F0 a.2 b.2).bind fun c=>some (c.1,())) (some (false,())):=by kernel_rfl
def JM:Any:=.one ⟨ayU,aM,1,fun x=>yg F0 x.1 x.2.1⟩
def abY:bb 245 JM:=aC OG ⟨JL,trivial⟩ func245 ad (by kernel_rfl)
def Uh:=[(287,FM)]
def HQ (a b:D9):=bL Uh F ad f246 Bh aM 1 (a,b,())
def ahB (a b:D9):HQ F a b=br (a.1==b.1) (br (a.2.1.toList==b.2.1.toList) ((EI F0 a.2.2 b.2.2).bind fun c=>some (c.1,())) (some (false,()))) (some (false,())):=by kernel_rfl
def OH:Any:=.one ⟨Bh,aM,1,fun x=>HQ F0 x.1 x.2.1⟩
def ahC:bb 246 OH:=aC Uh ⟨Ug,trivial⟩ func246 ad (by kernel_rfl)
def Ui:=[(236,uf),(245,JM),(246,OH)]
abbrev ayV:List (Ty×Bool):=[(K22,true),(K22,true)]
def hz (a b:T2):=bL Ui F ad f175 ayV aM 1 (a,b,())
def ahD (a b:T2):hz F a b=br (a.1==b.1) (br (a.2.1==b.2.1) ((yg F0 a.2.2.1 b.2.2.1).bind fun c=>br c.1 ((HQ F0 a.2.2.2.1 b.2.2.2.1).bind fun d=>br d.1 ((wi F0 a.2.2.2.2.1 b.2.2.2.2.1).bind fun e=>br e.1 (br (a.2.2.2.2.2.1==b.2.2.2.2.2.1) (some ((a.2.2.2.2.2.2.1==b.2.2.2.2.2.2.1)&&((a.2.2.2.2.2.2.2.1==b.2.2.2.2.2.2.2.1)&&((a.2.2.2.2.2.2.2.2.1==b.2.2.2.2.2.2.2.2.1)&&((a.2.2.2.2.2.2.2.2.2==b.2.2.2.2.2.2.2.2.2)&&true))),())) (some (false,()))) (some (false,()))) (some (false,()))) (some (false,()))) (some (false,()))) (some (false,())):=by kernel_rfl
def B7:Any:=.one ⟨ayV,aM,1,fun x=>hz F0 x.1 x.2.1⟩
def RP:bb 175 B7:=aC Ui ⟨JL,abY,ahC,trivial⟩ func175 ad (by kernel_rfl)
def Uj:=[(175,B7)]
abbrev oK:List (Ty×Bool):=[(K22,true)]
def HR (m:T2):=bL Uj F ad f256 oK aM 1 (m,())
def ahE (m:T2):HR F m=br (m.1==1) ((hz F0 (m.1,0,m.2.2.1,(0,aj,[]),(0,aj,[]),0,0,0,0,0) m).bind fun a=>some (a.1,())) (br (m.1==2) ((hz F0 (m.1,0,(aj,0,aj,[]),m.2.2.2.1,(0,aj,[]),0,0,0,0,0) m).bind fun a=>some (a.1,())) (br (m.1==3) ((hz F0 (m.1,m.2.1,(aj,0,aj,[]),(0,aj,[]),m.2.2.2.2.1,m.2.2.2.2.2.1,0,0,0,0) m).bind fun a=>some (a.1,())) (br (m.1==4) ((hz F0 (m.1,0,(aj,0,aj,[]),(0,aj,[]),(0,aj,[]),0,m.2.2.2.2.2.2) m).bind fun a=>some (a.1,())) ((hz F0 (m.1,0,(aj,0,aj,[]),(0,aj,[]),(0,aj,[]),0,0,0,0,0) m).bind fun a=>some (a.1,()))))):=by kernel_rfl
def OI:Any:=.one ⟨oK,aM,1,fun x=>HR F0 x.1⟩
def ahF:bb 256 OI:=aC Uj ⟨RP,trivial⟩ func256 ad (by kernel_rfl)
def LU:=[(118,ed),(189,eM)]
def LV:Nat->Option Hint:=look [(4,{live:=[0,3],xl:=[0,3],rl:=[2]})]
def Dh (s:ByteArray)(k:Int):= bD 25 [(0,ZU s),(3,bd k)]
def yh (s:ByteArray)(k:Int):= bD 25 [(0,ZU s),(3,bd k)]
def LW (a:St):Option U:=ek LU F LV [.r,.r,.r,.l,.b,.i] f270 J n a
def Yl:=iR LU F LV [.r,.r,.r,.l,.b] f270 df 1
def OJ (s:ByteArray)(k:Int):LW F J (n+1) (Dh s k)=br (decide (k>0)) (ck (bG (al (k-1)) (s.size:Int)) (br ((ij s (al (k-1))) != 47) (LW F J n (Dh s (al (k-1)))) (J (.exit 0) (yh s k)))) (J (.exit 0) (yh s k)):=by kernel_rfl
def ahG (s:ByteArray)(k:Int):Yl F (.exit 0) (yh s k)=(db F0 (al (k-1)) 0).bind fun a=>ck (Qw 0 a.1 (s.size:Int)) (some (s.extract (0:Int).toNat a.1.toNat,())):=by kernel_rfl
def agB (s:ByteArray):=bL LU F LV f270 df df 1 (s,())
def abZ:∃f,f= @agB:=⟨_,rfl⟩
def k5:=Classical.choose abZ
def Ym: @k5= @agB:=Classical.choose_spec abZ
def arG (s:ByteArray):k5 F s=(ey F0 s).bind fun a=>br (!a.1) (some (aj,())) (LW F (Yl F) F.n (Dh s (s.size:Int))):=by rw[Ym];kernel_rfl
def td:Any:=.one ⟨df,df,1,fun x=>k5 F0 x.1⟩
def HS:bb 270 td:=ok1 (show w4 Tryz.prog TB LU from⟨fY,hR,trivial⟩) func270 (by kernel_rfl) (by kernel_rfl) LV (by rw[Ym];kernel_rfl)
def Uk:=[(118,ed),(251,fK),(270,td)]
abbrev ayW:List (Ty×Bool):=[(K1,true),(K16,true)]
def mo (c:D1)(b:D16):=bL Uk F ad f257 ayW aM 1 (c,b,())
def ahH (c:D1)(b:D16):mo F c b=(jw F0 c b.2).bind fun a=>br a.1 ((ey F0 b.1).bind fun d=>br d.1 (br (!(b.1.toList==aj.toList)) ((k5 F0 b.1).bind fun e=>some (e.1.toList==b.2.2.1.toList,())) (some (false,()))) (some (false,()))) (some (false,())):=by kernel_rfl
def k6:Any:=.one ⟨ayW,aM,1,fun x=>mo F0 x.1 x.2.1⟩
def ug:bb 257 k6:=aC Uk ⟨fY,jQ,HS,trivial⟩ func257 ad (by kernel_rfl)
def ab0:=[(101,cm),(117,bW),(251,fK),(252,km),(254,nF),(256,OI),(257,k6)]
abbrev agC:List (Ty×Bool):=[(K1,true),(K22,true)]
def eN (c:D1)(m:T2):=bL ab0 F ad f181 agC aM 1 (c,m,())
def an6 (c:D1)(m:T2):eN F c m=(dt F0 c).bind fun a=>br (!a.1) (some (false,())) ((HR F0 m).bind fun b=>br (!b.1) (some (false,())) (br (m.1==1) ((mo F0 c m.2.2.1).bind fun d=>some (d.1,())) (br (m.1==2) ((jR F0 c m.2.2.2.1).bind fun e=>br e.1 (some (!(m.2.2.2.1.2.1.toList==aj.toList),())) (some (false,()))) (br (m.1==3) ((bI F0 m.2.1 1 60).bind fun f=>br f.1 ((jw F0 c m.2.2.2.2.1).bind fun g=>br g.1 ((bI F0 m.2.2.2.2.2.1 0 (al (c.1-1))).bind fun h=>some (h.1,())) (some (false,()))) (some (false,()))) (br (m.1==4) ((rk F0 m.2.2.2.2.2.2).bind fun i=>some (i.1,())) (some (false,()))))))):=by kernel_rfl
def iw:Any:=.one ⟨agC,aM,1,fun x=>eN F0 x.1 x.2.1⟩
def n4:bb 181 iw:=aC ab0 ⟨c1,cq,jQ,rm,yc,ahF,ug,trivial⟩ func181 ad (by kernel_rfl)
def HT:=[(101,cm),(117,bW),(177,gM),(178,FL),(179,B5),(180,nG),(181,iw)]
def HU:Nat->Option Hint:=look [(4,{live:=[2,3,5],rl:=[4]})]
def yi (i c a r b d e f g:Int)(h:ByteArray)(j:List Int)(k:ByteArray)(l:List D4)(m:List D9)(o:List Int)(p:Int)(q:List A7):= dN 102 [bX 2,bX 3,(5,bd i)] [(2,[aq c,aq a]),(3,[aq r,aq b,aq d,aq e,aq f,aq g,.str h,.ro false 3 (.int .i64) j,.str k,.ro false 99 (K4) l,.ro false 29 (K9) m,.ro false 5 (.int .u8) o,aq p,.ro false 125 (w5) q])] []
def yj (a:Bool):= bD 102 [(4,ED a)]
def RQ   := bD 102 []
def HV (a:St):Option U:=ek HT F HU [.r,.r,.l,.r,.b,.i] f115 J n a
def yk:=iR HT F HU [.r,.r,.l,.r,.b] f115 aM 1
def LX (i c b r d e f g h:Int)(j:ByteArray)(k:List Int)(l:ByteArray)(m:List D4)(o:List D9)(p:List Int)(q:Int)(a:List A7):HV F J (n+1) (yi i c b r d e f g h j k l m o p q a)=br (decide (i<(a.length:Int))) (ck (bG i (a.length:Int)) ((eN F0 (c,b) (aL a i w5.az).2).bind fun s=>br (!s.1) (J .ret (yj false)) (ck (bG i (a.length:Int)) ((bI F0 (aL a i w5.az).1 0 (al (c-1))).bind fun t=>br (!t.1) (J .ret (yj false)) (ck (bG i (a.length:Int)) (br ((aL a i w5.az).1==r) (J .ret (yj false)) (HV F J n (yi (al (i+1)) c b r d e f g h j k l m o p q a)))))))) (J (.exit 0) (RQ)):=by kernel_rfl
def ahI (a:Bool):yk F .ret (yj a)=some (a,()):=by kernel_rfl
def aeq: yk F (.exit 0) (RQ)=some (true,()):=by kernel_rfl
abbrev Lp:List (Ty×Bool):=[(K1,true),(ca,true)]
def dd (c:D1)(r:bq):=bL HT F HU f115 Lp aM 1 (c,r,())
def an7 (c:D1)(r:bq):dd F c r=(dt F0 c).bind fun a=>br (!a.1) (some (false,())) ((bI F0 r.1 0 (al (c.1-1))).bind fun b=>br (!b.1) (some (false,())) ((bI F0 r.2.1 1 60).bind fun d=>br (!d.1) (some (false,())) ((bI F0 r.2.2.1 0 60).bind fun e=>br (!e.1) (some (false,())) ((hS F0 c r.2.2.2.1).bind fun f=>br (!f.1) (some (false,())) ((EH F0 r.2.2.2.2.1).bind fun g=>br (!g.1) (some (false,())) ((mn F0 c r.2.2.2.2.2.1).bind fun h=>br (!h.1) (some (false,())) ((l8 F0 r.2.2.2.2.2.2.1).bind fun i=>br (!i.1) (some (false,())) (br (decide ((r.2.2.2.2.2.2.2.length:Int)>30)) (some (false,())) (HV F (yk F) F.n (yi 0 c.1 c.2 r.1 r.2.1 r.2.2.1 r.2.2.2.1.1 r.2.2.2.1.2.1 r.2.2.2.1.2.2.1.1 r.2.2.2.1.2.2.1.2.1 r.2.2.2.1.2.2.1.2.2 r.2.2.2.1.2.2.2 r.2.2.2.2.1 r.2.2.2.2.2.1 r.2.2.2.2.2.2.1.1 r.2.2.2.2.2.2.1.2 r.2.2.2.2.2.2.2)))))))))):=by kernel_rfl
def cc:Any:=.one ⟨Lp,aM,1,fun x=>dd F0 x.1 x.2.1⟩
def cO:bb 115 cc:=aC HT ⟨c1,cq,k3,Uf,RM,yf,n4,trivial⟩ func115 HU (by kernel_rfl)
def Yn:=[(115,cc)]
abbrev vu:List (Ty×Bool):=[(ca,true),(.bool,false)]
abbrev apF:List (Ty×Bool):=[(K1,true),(.int .i64,false)]
def LY (c:D1)(a:Int):=bL Yn F ad f102 apF vu 2 (c,a,())
def akT (c:D1)(a:Int):LY F c a=(dd F0 c (a,1,0,(0,0,(0,aj,[]),aj),[],[],([],0),[])).bind fun b=>br (!b.1) (some ((0,0,0,(0,0,(0,aj,[]),aj),[],[],([],0),[]),false,())) (some ((a,1,0,(0,0,(0,aj,[]),aj),[],[],([],0),[]),true,())):=by kernel_rfl
def RR:Any:=.one ⟨apF,vu,2,fun x=>LY F0 x.1 x.2.1⟩
def akU:bb 102 RR:=aC Yn ⟨cO,trivial⟩ func102 ad (by kernel_rfl)
def Yo:=[(101,cm)]
def LZ (c:D1):=bL Yo F ad f114 Gt dq 1 (c,())
def akV (c:D1):LZ F c=(dt F0 c).bind fun a=>br (!a.1) (some (0,())) (some (al (Int.tdiv (al (c.1-1)) 3),())):=by kernel_rfl
def RS:Any:=.one ⟨Gt,dq,1,fun x=>LZ F0 x.1⟩
def akW:bb 114 RS:=aC Yo ⟨c1,trivial⟩ func114 ad (by kernel_rfl)
def Di:Nat->Option Hint:=look [(3,{live:=[0,1,7,8],rl:=[4,5,6]})]
def uh (b:List Int)(a c k:Int):= bD 55 [(0,jN 5 (.int .u8) b),(1,bd a),(7,bd c),(8,bd k)]
def e3 (a b:Int)(c:Bool):= bD 55 [(4,bd a),(5,bd b),(6,ED c)]
def OK   := bD 55 []
def Dj (a:St):Option U:=ek ax F Di [.r,.r,.l,.r,.b,.i] f234 J n a
abbrev apG:List (Ty×Bool):=[(.int .i64,false),(.int .i64,false),(.bool,false)]
def ui:=iR ax F Di [.r,.r,.l,.r,.b] f234 apG 1
def JN (b:List Int)(a c k:Int):Dj F J (n+1) (uh b a c k)=br (decide (k<5)) (br (decide (a<0)) (J .ret (e3 0 0 false)) (br (decide (a>=(al ((b.length:Int)-k)))) (J .ret (e3 0 0 false)) (ck (bG (al (a+k)) (b.length:Int)) (ck (decide (0<=(al (7*k)))) (br (decide ((al (aL b (al (a+k)) 0))<128)) (br (decide (k>0)) (br ((al (aL b (al (a+k)) 0))==0) (J .ret (e3 0 0 false)) (br (decide ((al (((BitVec.ofInt 64 c ||| BitVec.ofInt 64 (al ((Int.tmod (al (aL b (al (a+k)) 0)) 128)*2 ^ (min (al (7*k)).toNat 64)))).toNat:Int)))>2147483647)) (J .ret (e3 0 0 false)) (J .ret (e3 (al (((BitVec.ofInt 64 c ||| BitVec.ofInt 64 (al ((Int.tmod (al (aL b (al (a+k)) 0)) 128)*2 ^ (min (al (7*k)).toNat 64)))).toNat:Int))) (al ((al (a+k))+1)) true)))) (br (decide ((al (((BitVec.ofInt 64 c ||| BitVec.ofInt 64 (al ((Int.tmod (al (aL b (al (a+k)) 0)) 128)*2 ^ (min (al (7*k)).toNat 64)))).toNat:Int)))>2147483647)) (J .ret (e3 0 0 false)) (J .ret (e3 (al (((BitVec.ofInt 64 c ||| BitVec.ofInt 64 (al ((Int.tmod (al (aL b (al (a+k)) 0)) 128)*2 ^ (min (al (7*k)).toNat 64)))).toNat:Int))) (al ((al (a+k))+1)) true)))) (Dj F J n (uh b a (al (((BitVec.ofInt 64 c ||| BitVec.ofInt 64 (al ((Int.tmod (al (aL b (al (a+k)) 0)) 128)*2 ^ (min (al (7*k)).toNat 64)))).toNat:Int))) (al (k+1))))))))) (J (.exit 0) (OK)):=by kernel_rfl
def B8 (a b:Int)(c:Bool):ui F .ret (e3 a b c)=some (a,b,c,()):=by kernel_rfl
def ab1: ui F (.exit 0) (OK)=some (0,0,false,()):=by kernel_rfl
abbrev agD:List (Ty×Bool):=[(.sl 5 (.int .u8),false),(.int .i64,false)]
def jS (b:List Int)(a:Int):=bL ax F Di f234 agD apG 1 (b,a,())
def akX (b:List Int)(a:Int):jS F b a=Dj F (ui F) F.n (uh b a 0 0):=by kernel_rfl
def uj:Any:=.one ⟨agD,apG,1,fun x=>jS F0 x.1 x.2.1⟩
def JO:bb 234 uj:=aC ax trivial func234 Di (by kernel_rfl)
def Yp:=[(234,uj)]
abbrev gy:List (Ty×Bool):=[(K33,true)]
def cF (c:D33):=fJ Yp F ad f182 gy 0 .cur dq gy 1 (c,())
def akY (c:D33):cF F c=(jS F0 c.1 c.2.1).bind fun a=>br (!a.2.2.1) (some ((0,()),(c.1,c.2.1,false),())) (br (!c.2.2) (some ((0,()),(c.1,c.2.1,false),())) (some ((a.1,()),(c.1,a.2.1,c.2.2),()))):=by kernel_rfl
def nH:Any:=.two ⟨gy,0,.cur,dq,1,gy,fun x=>cF F0 x.1⟩
def yl:bb 182 nH:=jh Yp ⟨JO,trivial⟩ func182 ad (by kernel_rfl)
def Ul:=[(234,uj)]
abbrev ayX:List (Ty×Bool):=[(.str,false),(.int .i64,false),(.bool,false)]
def HW (b:List Int)(a:Int):=bL Ul F ad f258 agD ayX 1 (b,a,())
def ahJ (b:List Int)(c:Int):HW F b c=(jS F0 b c).bind fun a=>br (!a.2.2.1) (some (aj,0,false,())) (br (decide (a.1>(al ((b.length:Int)-a.2.1)))) (some (aj,0,false,())) (ck (Qw a.2.1 (al (a.2.1+a.1)) (b.length:Int)) (some (strOf ((b.take (al (a.2.1+a.1)).toNat).drop a.2.1.toNat),al (a.2.1+a.1),true,())))):=by kernel_rfl
def OL:Any:=.one ⟨agD,ayX,1,fun x=>HW F0 x.1 x.2.1⟩
def ahK:bb 258 OL:=aC Ul ⟨JO,trivial⟩ func258 ad (by kernel_rfl)
def Um:=[(258,OL)]
def mq (c:D33):=fJ Um F ad f183 gy 0 .cur df gy 1 (c,())
def ahL (c:D33):mq F c=(HW F0 c.1 c.2.1).bind fun a=>br (!a.2.2.1) (some ((aj,()),(c.1,c.2.1,false),())) (br (!c.2.2) (some ((aj,()),(c.1,c.2.1,false),())) (some ((a.1,()),(c.1,a.2.1,c.2.2),()))):=by kernel_rfl
def rv:Any:=.two ⟨gy,0,.cur,df,1,gy,fun x=>mq F0 x.1⟩
def FN:bb 183 rv:=jh Um ⟨ahK,trivial⟩ func183 ad (by kernel_rfl)
def Dk:=[(182,nH)]
def Dl:Nat->Option Hint:=look [(4,{live:=[0,3,4,5],xl:=[3],rl:=[2]})]
def uk (a i:Int)(b:List Int)(c:Int)(d:Bool)(e:List Int):St:={nt:=28,tm:=[(0,.v (.c (.ptr 4000000 0))),(3,.v (.c (.own 1000000 none))),(4,bd a),(5,bd i)],bx:=[(4000000,[.ro true 5 (.int .u8) b,aq c,.bool d])],bl:=[aF 1000000 3 (.int .i64) e],sp:=.v (.c (.ptr 4000000 0))}
def ry (a:List Int)(b:Int)(c:Bool)(d:List Int):St:={nt:=28,tm:=[(3,.v (.c (.own 1000000 none)))],bx:=[(4000000,[.ro true 5 (.int .u8) a,aq b,.bool c])],bl:=[aF 1000000 3 (.int .i64) d],sp:=.v (.c (.ptr 4000000 0))}
def Dm (a:St):Option U:=ek Dk F Dl [.r,.r,.r,.l,.r,.b,.i] f185 J n a
def FO:=Lo Dk F Dl [.r,.r,.r,.l,.r,.b] f185 .cur pt gy 2
def JP (f i:Int)(d:List Int)(e:Int)(a:Bool)(c:List Int):Dm F J (n+1) (uk f i d e a c)=br (decide (i<f)) (br a ((cF F0 (d,e,a)).bind fun b=>ck (dV F c.length [b.1.1].length 8) (Dm F J n (uk f (al (i+1)) b.2.1.1 b.2.1.2.1 b.2.1.2.2 (c++[b.1.1])))) (J (.exit 0) (ry d e a c))) (J (.exit 0) (ry d e a c)):=by kernel_rfl
def ab2 (a:List Int)(b:Int)(c:Bool)(d:List Int):FO F (.exit 0) (ry a b c d)=some ((d,()),(a,b,c),()):=by kernel_rfl
def EJ (c:D33):=fJ Dk F Dl f185 gy 0 .cur pt gy 2 (c,())
def akZ (c:D33):EJ F c=(cF F0 c).bind fun a=>Dm F (FO F) F.n (uk a.1.1 0 a.2.1.1 a.2.1.2.1 a.2.1.2.2 []):=by kernel_rfl
def FP:Any:=.two ⟨gy,0,.cur,pt,2,gy,fun x=>EJ F0 x.1⟩
def Un:bb 185 FP:=jh Dk ⟨yl,trivial⟩ func185 Dl (by kernel_rfl)
def ab3:=[(182,nH),(183,rv),(185,FP)]
def B9 (c:D33):=fJ ab3 F ad f184 gy 0 .cur ez gy 2 (c,())
def an8 (c:D33):B9 F c=(cF F0 c).bind fun a=>(mq F0 a.2.1).bind fun b=>(EJ F0 b.2.1).bind fun d=>some (((a.1.1,b.1.1,d.1.1),()),d.2.1,()):=by kernel_rfl
def JQ:Any:=.two ⟨gy,0,.cur,ez,2,gy,fun x=>B9 F0 x.1⟩
def Yq:bb 184 JQ:=jh ab3 ⟨yl,FN,Un,trivial⟩ func184 ad (by kernel_rfl)
def ab4:=[(181,iw),(182,nH),(183,rv),(184,JQ),(185,FP)]
abbrev RT:List (Ty×Bool):=[(K1,true),(.sl 5 (.int .u8),false)]
abbrev ayY:List (Ty×Bool):=[(K22,true),(.bool,false)]
def JR (c:D1)(b:List Int):=bL ab4 F ad f116 RT ayY 2 (c,b,())
def an9 (c:D1)(b:List Int):JR F c b=(cF F0 (b,0,true)).bind fun a=>br (a.1.1==1) ((mq F0 a.2.1).bind fun i=>(B9 F0 i.2.1).bind fun e=>br (!e.2.1.2.2) (some ((0,0,(aj,0,aj,[]),(0,aj,[]),(0,aj,[]),0,0,0,0,0),false,())) (br (e.2.1.2.1 != (b.length:Int)) (some ((0,0,(aj,0,aj,[]),(0,aj,[]),(0,aj,[]),0,0,0,0,0),false,())) ((eN F0 c (a.1.1,0,(i.1.1,e.1.1),(0,aj,[]),(0,aj,[]),0,0,0,0,0)).bind fun d=>br (!d.1) (some ((0,0,(aj,0,aj,[]),(0,aj,[]),(0,aj,[]),0,0,0,0,0),false,())) (some ((a.1.1,0,(i.1.1,e.1.1),(0,aj,[]),(0,aj,[]),0,0,0,0,0),true,()))))) (br (a.1.1==2) ((cF F0 a.2.1).bind fun j=>(mq F0 j.2.1).bind fun k=>(EJ F0 k.2.1).bind fun f=>br (!f.2.1.2.2) (some ((0,0,(aj,0,aj,[]),(0,aj,[]),(0,aj,[]),0,0,0,0,0),false,())) (br (f.2.1.2.1 != (b.length:Int)) (some ((0,0,(aj,0,aj,[]),(0,aj,[]),(0,aj,[]),0,0,0,0,0),false,())) ((eN F0 c (a.1.1,0,(aj,0,aj,[]),(j.1.1,k.1.1,f.1.1),(0,aj,[]),0,0,0,0,0)).bind fun d=>br (!d.1) (some ((0,0,(aj,0,aj,[]),(0,aj,[]),(0,aj,[]),0,0,0,0,0),false,())) (some ((a.1.1,0,(aj,0,aj,[]),(j.1.1,k.1.1,f.1.1),(0,aj,[]),0,0,0,0,0),true,()))))) (br (a.1.1==3) ((cF F0 a.2.1).bind fun l=>(cF F0 l.2.1).bind fun m=>(B9 F0 m.2.1).bind fun g=>br (!g.2.1.2.2) (some ((0,0,(aj,0,aj,[]),(0,aj,[]),(0,aj,[]),0,0,0,0,0),false,())) (br (g.2.1.2.1 != (b.length:Int)) (some ((0,0,(aj,0,aj,[]),(0,aj,[]),(0,aj,[]),0,0,0,0,0),false,())) ((eN F0 c (a.1.1,l.1.1,(aj,0,aj,[]),(0,aj,[]),g.1.1,m.1.1,0,0,0,0)).bind fun d=>br (!d.1) (some ((0,0,(aj,0,aj,[]),(0,aj,[]),(0,aj,[]),0,0,0,0,0),false,())) (some ((a.1.1,l.1.1,(aj,0,aj,[]),(0,aj,[]),g.1.1,m.1.1,0,0,0,0),true,()))))) (br (a.1.1==4) ((cF F0 a.2.1).bind fun o=>(cF F0 o.2.1).bind fun p=>(cF F0 p.2.1).bind fun q=>(cF F0 q.2.1).bind fun h=>br (!h.2.1.2.2) (some ((0,0,(aj,0,aj,[]),(0,aj,[]),(0,aj,[]),0,0,0,0,0),false,())) (br (h.2.1.2.1 != (b.length:Int)) (some ((0,0,(aj,0,aj,[]),(0,aj,[]),(0,aj,[]),0,0,0,0,0),false,())) ((eN F0 c (a.1.1,0,(aj,0,aj,[]),(0,aj,[]),(0,aj,[]),0,o.1.1,p.1.1,q.1.1,h.1.1)).bind fun d=>br (!d.1) (some ((0,0,(aj,0,aj,[]),(0,aj,[]),(0,aj,[]),0,0,0,0,0),false,())) (some ((a.1.1,0,(aj,0,aj,[]),(0,aj,[]),(0,aj,[]),0,o.1.1,p.1.1,q.1.1,h.1.1),true,()))))) (br (!a.2.1.2.2) (some ((0,0,(aj,0,aj,[]),(0,aj,[]),(0,aj,[]),0,0,0,0,0),false,())) (br (a.2.1.2.1 != (b.length:Int)) (some ((0,0,(aj,0,aj,[]),(0,aj,[]),(0,aj,[]),0,0,0,0,0),false,())) ((eN F0 c (a.1.1,0,(aj,0,aj,[]),(0,aj,[]),(0,aj,[]),0,0,0,0,0)).bind fun d=>br (!d.1) (some ((0,0,(aj,0,aj,[]),(0,aj,[]),(0,aj,[]),0,0,0,0,0),false,())) (some ((a.1.1,0,(aj,0,aj,[]),(0,aj,[]),(0,aj,[]),0,0,0,0,0),true,())))))))):=by kernel_rfl
def JS:Any:=.one ⟨RT,ayY,2,fun x=>JR F0 x.1 x.2.1⟩
def Yr:bb 116 JS:=aC ab4 ⟨n4,yl,FN,Yq,Un,trivial⟩ func116 ad (by kernel_rfl)
def ga:=[(101,cm),(113,ya),(114,RS),(115,cc),(116,JS),(117,bW),(118,ed),(119,b7)]
def gb:Nat->Option Hint:=look [(4,{live:=[1,3],xl:=[1],rl:=[2]}),(9,{live:=[1,4],xl:=[1],rl:=[2]}),(15,{live:=[1,7],rl:=[2]})]
def k7 (i w a:Int)(b:List Int)(c:List bq)(d:List bS)(e:List bK):= dN 147 [bX 1,(7,bd i)] [(1,[aq w,aq a,.ro false 3 (.int .i64) b,.ro false 42 (ca) c,.ro false 95 (ew) d,.ro false 91 (cA) e])] []
def rz (a:Bool):= bD 147 [(2,ED a)]
def L0   := bD 147 []
def pM (a:St):Option U:=ek ga F gb [.r,.r,.r,.r,.l,.r,.b,.i] f56 J n a
def k8:=iR ga F gb [.r,.r,.r,.r,.l,.r,.b] f56 aM 1
def k9 (i w a:Int)(b:List Int)(c:List bq)(d:List bS)(e:List bK):= dN 147 [bX 1,(4,bd i)] [(1,[aq w,aq a,.ro false 3 (.int .i64) b,.ro false 42 (ca) c,.ro false 95 (ew) d,.ro false 91 (cA) e])] []
def Ca (a:Bool):= bD 147 [(2,ED a)]
def L1 (w a:Int)(b:List Int)(c:List bq)(d:List bS)(e:List bK):= dN 147 [bX 1] [(1,[aq w,aq a,.ro false 3 (.int .i64) b,.ro false 42 (ca) c,.ro false 95 (ew) d,.ro false 91 (cA) e])] []
def pN (a:St):Option U:=ek ga F gb [.r,.r,.r,.l,.r,.b,.i] f56 J n a
def la:=iR ga F gb [.r,.r,.r,.l,.r,.b] f56 aM 1
def lb (i w a:Int)(b:List Int)(c:List bq)(d:List bS)(e:List bK):= dN 147 [bX 1,(3,bd i)] [(1,[aq w,aq a,.ro false 3 (.int .i64) b,.ro false 42 (ca) c,.ro false 95 (ew) d,.ro false 91 (cA) e])] []
def Cb (a:Bool):= bD 147 [(2,ED a)]
def L3 (w a:Int)(b:List Int)(c:List bq)(d:List bS)(e:List bK):= dN 147 [bX 1] [(1,[aq w,aq a,.ro false 3 (.int .i64) b,.ro false 42 (ca) c,.ro false 95 (ew) d,.ro false 91 (cA) e])] []
def pO (a:St):Option U:=ek ga F gb [.r,.r,.l,.r,.b,.i] f56 J n a
def ld:=iR ga F gb [.r,.r,.l,.r,.b] f56 aM 1
def Gy (i w b:Int)(c:List Int)(d:List bq)(e:List bS)(a:List bK):pM F J (n+1) (k7 i w b c d e a)=br (decide (i<(a.length:Int))) (ck (bG i (a.length:Int)) ((bI F0 (aL a i cA.az).2.2 0 (al (w-1))).bind fun f=>br (!f.1) (J .ret (rz false)) ((ey F0 (aL a i cA.az).2.1).bind fun g=>br (!g.1) (J .ret (rz false)) ((cr F0 (aL a i cA.az).2.1).bind fun h=>br (h.1 != (aL a i cA.az).1) (J .ret (rz false)) (pM F J n (k7 (al (i+1)) w b c d e a)))))) (J (.exit 4) (L0)):=by kernel_rfl
def Gz (i w b:Int)(c:List Int)(d:List bq)(a:List bS)(e:List bK):pN F J (n+1) (k9 i w b c d a e)=br (decide (i<(a.length:Int))) (ck (bG i (a.length:Int)) ((JR F0 (w,b) (aL a i (0,[])).2).bind fun f=>br (!f.2.1) (J .ret (Ca false)) (ck (bG i (a.length:Int)) ((bI F0 (aL a i (0,[])).1 0 (al (w-1))).bind fun g=>br (!g.1) (J .ret (Ca false)) (pN F J n (k9 (al (i+1)) w b c d a e)))))) (J (.exit 2) (L1 w b c d a e)):=by kernel_rfl
def GA (i w b:Int)(c:List Int)(a:List bq)(d:List bS)(e:List bK):pO F J (n+1) (lb i w b c a d e)=br (decide (i<(a.length:Int))) (ck (bG i (a.length:Int)) (br ((aL a i ca.az).1 != i) (J .ret (Cb false)) (ck (bG i (a.length:Int)) ((dd F0 (w,b) (aL a i ca.az)).bind fun f=>br (!f.1) (J .ret (Cb false)) (pO F J n (lb (al (i+1)) w b c a d e)))))) (J (.exit 0) (L3 w b c a d e)):=by kernel_rfl
def ab5 (a:Bool):k8 F .ret (rz a)=some (a,()):=by kernel_rfl
def ZZ: k8 F (.exit 4) (L0)=some (true,()):=by kernel_rfl
def ab6 (a:Bool):la F .ret (Ca a)=some (a,()):=by kernel_rfl
def Z0 (w a:Int)(b:List Int)(c:List bq)(d:List bS)(e:List bK):la F (.exit 2) (L1 w a b c d e)=pM F (k8 F) F.n (k7 0 w a b c d e):=by kernel_rfl
def ab7 (a:Bool):ld F .ret (Cb a)=some (a,()):=by kernel_rfl
def Z1 (w a:Int)(b:List Int)(c:List bq)(d:List bS)(e:List bK):ld F (.exit 0) (L3 w a b c d e)=pN F (la F) F.n (k9 0 w a b c d e):=by kernel_rfl
abbrev fc:List (Ty×Bool):=[(gq,true)]
def hA (w:l1):=bL ga F gb f56 fc aM 1 (w,())
def ahM (w:l1):hA F w=(dt F0 w.1).bind fun a=>br (!a.1) (some (false,())) ((B3 F0 w.1.1 w.2.1).bind fun b=>br (!b.1) (some (false,())) ((LZ F0 w.1).bind fun c=>br (decide ((w.2.1.length:Int)>c.1)) (some (false,())) (br ((w.2.2.1.length:Int) != w.1.1) (some (false,())) (br (decide ((w.2.2.2.1.length:Int)>60)) (some (false,())) (br (decide ((w.2.2.2.2.length:Int)>300)) (some (false,())) (pO F (ld F) F.n (lb 0 w.1.1 w.1.2 w.2.1 w.2.2.1 w.2.2.2.1 w.2.2.2.2))))))):=by kernel_rfl
def rA:Any:=.one ⟨fc,aM,1,fun x=>hA F0 x.1⟩
def FQ:bb 56 rA:=aC ga ⟨c1,NS,akW,cO,Yr,cq,fY,cL,trivial⟩ func56 gb (by kernel_rfl)
def um:=[(56,rA),(101,cm),(102,RR)]
def uo:Nat->Option Hint:=look [(3,{live:=[2,4,6,7],A9:=[(4,2,3,.int .i64),(4,3,42,ca),(4,4,95,ew),(4,5,91,cA),(6,3,42,ca),(6,4,95,ew),(6,5,91,cA)],xl:=[4,6],rl:=[4,5]})]
def jT (i c a l m w b:Int)(o:List Int)(d:List bq)(e:List bS)(f:List bK)(g:List Int)(h:List bq)(j:List bS)(k:List bK):= dN 42 [bX 2,bX 4,bX 6,(7,bd i)] [(2,[aq c,aq a]),(4,[aq l,aq m,.own 1000000 none,.own 1000001 none,.own 1000002 none,.own 1000003 none]),(6,[aq w,aq b,.own 1000004 none,.own 1000005 none,.own 1000006 none,.own 1000007 none])] [aF 1000000 3 (.int .i64) o,aF 1000001 42 ca d,aF 1000002 95 ew e,aF 1000003 91 cA f,aF 1000004 3 (.int .i64) g,aF 1000005 42 ca h,aF 1000006 95 ew j,aF 1000007 91 cA k]
def vv (i j w a:Int)(k:List Int)(b:List bq)(c:List bS)(d:List bK)(e:List Int)(f:List bq)(g:List bS)(h:List bK):= dN 42 [bX 4,bX 6] [(4,[aq i,aq j,.own 1000000 none,.own 1000001 none,.own 1000002 none,.own 1000003 none]),(6,[aq w,aq a,.own 1000004 none,.own 1000005 none,.own 1000006 none,.own 1000007 none])] [aF 1000000 3 (.int .i64) k,aF 1000001 42 ca b,aF 1000002 95 ew c,aF 1000003 91 cA d,aF 1000004 3 (.int .i64) e,aF 1000005 42 ca f,aF 1000006 95 ew g,aF 1000007 91 cA h]
def nI (a:St):Option U:=ek um F uo [.r,.r,.l,.r,.b,.i] f44 J n a
abbrev apH:List (Ty×Bool):=[(gq,true),(.bool,false)]
def oL:=iR um F uo [.r,.r,.l,.r,.b] f44 apH 2
def gd (i c b l m w d:Int)(o:List Int)(e:List bq)(f:List bS)(g:List bK)(h:List Int)(a:List bq)(j:List bS)(k:List bK):nI F J (n+1) (jT i c b l m w d o e f g h a j k)=br (decide (i<c)) ((dt F0 (c,b)).bind fun q=>br q.1 ((LY F0 (c,b) i).bind fun p=>ck (dV F a.length [p.1].length 208) (nI F J n (jT (al (i+1)) c b l m w d o e f g h (a++[p.1]) j k))) (J (.exit 0) (vv l m w d o e f g h a j k))) (J (.exit 0) (vv l m w d o e f g h a j k)):=by kernel_rfl
def sS (j k w a:Int)(l:List Int)(f:List bq)(g:List bS)(h:List bK)(b:List Int)(c:List bq)(d:List bS)(e:List bK):oL F (.exit 0) (vv j k w a l f g h b c d e)=(hA F0 ((w,a),b,c,d,e)).bind fun i=>br (!i.1) (some (((0,0),[],[],[],[]),false,())) (some (((w,a),b,c,d,e),true,())):=by kernel_rfl
abbrev apI:List (Ty×Bool):=[(K1,true),(.sl 3 (.int .i64),false)]
def ko (c:D1)(aJ:List Int):=bL um F uo f44 apI apH 2 (c,aJ,())
def OM (c:D1)(aJ:List Int):ko F c aJ=ck (dV F 0 aJ.length 8) (nI F (oL F) F.n (jT 0 c.1 c.2 0 0 c.1 c.2 [] [] [] [] ([]++aJ) [] [] [])):=by kernel_rfl
def ym:Any:=.one ⟨apI,apH,2,fun x=>ko F0 x.1 x.2.1⟩
def ON:bb 44 ym:=aC um ⟨FQ,c1,akU,trivial⟩ func44 uo (by kernel_rfl)
def GB:=[(44,ym),(97,cl),(98,av),(121,bN)]
def oM (c:D2):=fJ GB F ad f197 bs 0 .cur fc bs 2 (c,())
def Uo (c:D2):oM F c=(aZ F0 c [4,4,4,5,7]).bind fun a=>(af F0 a.2.1 3).bind fun b=>(c7 F0 b.2.1 3).bind fun d=>br (!d.1.1) ((af F0 d.2.1 a.1.1).bind fun f=>(ko F0 (a.1.1,al (1+b.1.1)) [f.1.1]).bind fun e=>some ((e.1,()),f.2.1,())) ((ko F0 (a.1.1,al (1+b.1.1)) []).bind fun e=>some ((e.1,()),d.2.1,())):=by kernel_rfl
def Bi:Any:=.two ⟨bs,0,.cur,fc,2,bs,fun x=>oM F0 x.1⟩
def Up:bb 197 Bi:=jh GB ⟨ON,c0,ay,b6,trivial⟩ func197 ad (by kernel_rfl)
def agE:=[(101,cm)]
def lg (c:D1)(a:Int):=bL agE F ad f301 apF dq 1 (c,a,())
def arH (c:D1)(a:Int):lg F c a=(dt F0 c).bind fun b=>br (!b.1) (some (-1,())) (br (decide (a<0)) (some (-1,())) (ck (!(c.1==0)) (some (Int.tmod a c.1,())))):=by kernel_rfl
def hU:Any:=.one ⟨apF,dq,1,fun x=>lg F0 x.1 x.2.1⟩
def mr:bb 301 hU:=aC agE ⟨c1,trivial⟩ func301 ad (by kernel_rfl)
def fL (p:D9):=bL ax F ad f262 ez ez 2 (p,())
def ahN (p:D9):fL F p=ck (dV F 0 p.2.2.length 8) (some ((p.1,p.2.1,[]++p.2.2),())):=by kernel_rfl
def h7:Any:=.one ⟨ez,ez,2,fun x=>fL F0 x.1⟩
def nJ:bb 262 h7:=aC ax trivial func262 ad (by kernel_rfl)
end
end Go.Am.Tryz
namespace Go.Am.Tryz
open Go.Am Go.Proofs Go.Proofs.Tryz
noncomputable section
variable {U:Type} (F:nY) (J:Ex->St->Option U) (n:Nat)
def uq:=[(262,h7)]
def ur:Nat->Option Hint:=look [(2,{live:=[0,1,2,6,7],A9:=[(6,2,3,.int .i64)],xl:=[1,2,6],rl:=[6]})]
def jU (a:List D9)(b:Int)(name:ByteArray)(i c:Int)(d:ByteArray)(e:List Int):= dN 38 [(0,jN 29 (K9) a),(1,bd b),(2,ZU name),bX 6,(7,bd i)] [(6,[aq c,.str d,.own 1000000 none])] [aF 1000000 3 (.int .i64) e]
def L4 (a:Int)(b:ByteArray)(c:List Int):= dN 38 [bX 6] [(6,[aq a,.str b,.own 1000000 none])] [aF 1000000 3 (.int .i64) c]
def JT (a:Int)(name:ByteArray)(b:Int)(c:ByteArray)(d:List Int):= dN 38 [(1,bd a),(2,ZU name),bX 6] [(6,[aq b,.str c,.own 1000000 none])] [aF 1000000 3 (.int .i64) d]
def nK (a:St):Option U:=ek uq F ur [.r,.l,.r,.b,.i] f302 J n a
def oN:=iR uq F ur [.r,.l,.r,.b] f302 ez 2
def EK (a:List D9)(b:Int)(name:ByteArray)(i c:Int)(d:ByteArray)(e:List Int):nK F J (n+1) (jU a b name i c d e)=br (decide (i<(a.length:Int))) (ck (bG i (a.length:Int)) (br ((aL a i K9.az).1==b) (ck (bG i (a.length:Int)) (br ((aL a i K9.az).2.1.toList==name.toList) (ck (bG i (a.length:Int)) ((fL F0 (aL a i K9.az)).bind fun f=>J .ret (L4 f.1.1 f.1.2.1 f.1.2.2))) (nK F J n (jU a b name (al (i+1)) c d e)))) (nK F J n (jU a b name (al (i+1)) c d e)))) (J (.exit 0) (JT b name c d e)):=by kernel_rfl
def Z2 (a:Int)(b:ByteArray)(c:List Int):oN F .ret (L4 a b c)=some ((a,b,c),()):=by kernel_rfl
def Xp (a:Int)(name:ByteArray)(b:Int)(c:ByteArray)(d:List Int):oN F (.exit 0) (JT a name b c d)=some ((a,name,[]),()):=by kernel_rfl
abbrev aFl:List (Ty×Bool):=[(K14,false),(.int .i64,false),(.str,false)]
def n5 (a:D14)(b:Int)(name:ByteArray):=bL uq F ur f302 aFl ez 2 (a,b,name,())
def aer (a:D14)(b:Int)(name:ByteArray):n5 F a b name=nK F (oN F) F.n (jU a b name 0 0 aj []):=by kernel_rfl
def oO:Any:=.one ⟨aFl,ez,2,fun x=>n5 F0 x.1 x.2.1 x.2.2.1⟩
def Cc:bb 302 oO:=aC uq ⟨nJ,trivial⟩ func302 ur (by kernel_rfl)
def HX:=[(142,pF)]
def HY:Nat->Option Hint:=look [(4,{live:=[3,4,6],xl:=[3],rl:=[2]})]
def yn (i:Int)(b:List D4)(a:List D6):= dN 27 [(3,.v (.c (.own 1000000 none))),(4,.v (.c (.own 1000001 none))),(6,bd i)] [] [aF 1000000 99 K4 b,aF 1000001 163 K6 a]
def RU (a:List D4):= dN 27 [(3,.v (.c (.own 1000000 none)))] [] [aF 1000000 99 K4 a]
def HZ (a:St):Option U:=ek HX F HY [.r,.r,.r,.l,.r,.b,.i] f157 J n a
def JU:=iR HX F HY [.r,.r,.r,.l,.r,.b] f157 kv 2
def L5 (i:Int)(b:List D4)(a:List D6):HZ F J (n+1) (yn i b a)=br (decide (i<(a.length:Int))) (ck (bG i (a.length:Int)) (ck (dV F b.length (aL a i (0,[])).2.length 32) (HZ F J n (yn (al (i+1)) (b++(aL a i (0,[])).2) a)))) (J (.exit 0) (RU b)):=by kernel_rfl
def aes (a:List D4):JU F (.exit 0) (RU a)=some (a,()):=by kernel_rfl
def vw (s:ByteArray):=bL HX F HY f157 df kv 2 (s,())
def aoa (s:ByteArray):vw F s=(pE F0 s).bind fun a=>HZ F (JU F) F.n (yn 0 [] a.1):=by kernel_rfl
def JV:Any:=.one ⟨df,kv,2,fun x=>vw F0 x.1⟩
def Ys:bb 157 JV:=aC HX ⟨C6,trivial⟩ func157 HY (by kernel_rfl)
def Dn:=[(190,HO),(233,tX)]
def Dp:Nat->Option Hint:=look [(4,{live:=[1,4,6,7,8],A9:=[(4,0,3,.int .i64),(4,1,3,.int .i64)],xl:=[4,6,7],rl:=[4,5]})]
def uu (e:List D4)(i:Int)(f a b c d:List Int):= dN 36 [(1,jN 99 (K4) e),bX 4,bX 6,(7,.v (.c (.own 1000000 none))),(8,bd i)] [(4,[.own 1000001 none,.own 1000002 none]),(6,[.own 1000003 none,.own 1000004 none])] [aF 1000000 3 (.int .i64) f,aF 1000001 3 (.int .i64) a,aF 1000002 3 (.int .i64) b,aF 1000003 3 (.int .i64) c,aF 1000004 3 (.int .i64) d]
def OO (e a b c d:List Int):= dN 36 [bX 4,bX 6,(7,.v (.c (.own 1000000 none)))] [(4,[.own 1000001 none,.own 1000002 none]),(6,[.own 1000003 none,.own 1000004 none])] [aF 1000000 3 (.int .i64) e,aF 1000001 3 (.int .i64) a,aF 1000002 3 (.int .i64) b,aF 1000003 3 (.int .i64) c,aF 1000004 3 (.int .i64) d]
def Dq (a:St):Option U:=ek Dn F Dp [.r,.r,.r,.l,.r,.b,.i] f155 J n a
abbrev apJ:List (Ty×Bool):=[(K10,true),(.sl 3 (.int .i64),false)]
def FR:=iR Dn F Dp [.r,.r,.r,.l,.r,.b] f155 apJ 2
def JW (a:List D4)(i:Int)(c d e f g:List Int):Dq F J (n+1) (uu a i c d e f g)=br (decide (i<(a.length:Int))) (ck (bG i (a.length:Int)) ((JH F0 (f,g) (aL a i K4.az)).bind fun b=>ck (dV F c.length [b.2.1].length 8) (Dq F J n (uu a (al (i+1)) (c++[b.2.1]) d e b.1.1 b.1.2)))) (J (.exit 0) (OO c d e f g)):=by kernel_rfl
def ab8 (c d e a b:List Int):FR F (.exit 0) (OO c d e a b)=some ((a,b),c,()):=by kernel_rfl
abbrev ayZ:List (Ty×Bool):=[(K10,true),(K5,false)]
def wj (l:D10)(a:D5):=bL Dn F Dp f155 ayZ apJ 2 (l,a,())
def ak0 (l:D10)(b:D5):wj F l b=(pI F0 l).bind fun a=>Dq F (FR F) F.n (uu b 0 [] [] [] a.1.1 a.1.2):=by kernel_rfl
def FT:Any:=.one ⟨ayZ,apJ,2,fun x=>wj F0 x.1 x.2.1⟩
def Uq:bb 155 FT:=aC Dn ⟨Ue,JE,trivial⟩ func155 Dp (by kernel_rfl)
def uv:=[(190,HO),(233,tX)]
def uw:Nat->Option Hint:=look [(4,{live:=[0,5,6,7],xl:=[5],rl:=[4]})]
def gz (p:List D4)(i:Int)(c:List D4)(a b:List Int):= dN 48 [(0,jN 99 (K4) p),(5,.v (.c (.own 1000000 none))),bX 6,(7,bd i)] [(6,[.own 1000001 none,.own 1000002 none])] [aF 1000000 99 K4 c,aF 1000001 3 (.int .i64) a,aF 1000002 3 (.int .i64) b]
def vx (a:List D4):= dN 48 [(5,.v (.c (.own 1000000 none)))] [] [aF 1000000 99 K4 a]
def jx (a:St):Option U:=ek uv F uw [.r,.r,.r,.l,.r,.b,.i] f303 J n a
def yo:=iR uv F uw [.r,.r,.r,.l,.r,.b] f303 kv 2
def EL (p:List D4)(i:Int)(a:List D4)(c d:List Int):jx F J (n+1) (gz p i a c d)=br (decide (i<(p.length:Int))) (br (decide ((a.length:Int)<2)) (ck (bG i (p.length:Int)) ((JH F0 (c,d) (aL p i K4.az)).bind fun b=>br (b.2.1==0) (ck (bG i (p.length:Int)) (ck (dV F a.length [(aL p i K4.az)].length 32) (jx F J n (gz p (al (i+1)) (a++[(aL p i K4.az)]) b.1.1 b.1.2)))) (br (b.2.1==4) (ck (bG i (p.length:Int)) (ck (dV F a.length [(aL p i K4.az)].length 32) (jx F J n (gz p (al (i+1)) (a++[(aL p i K4.az)]) b.1.1 b.1.2)))) (jx F J n (gz p (al (i+1)) a c d))))) (J (.exit 0) (vx a))) (J (.exit 0) (vx a)):=by kernel_rfl
def GC (a:List D4):yo F (.exit 0) (vx a)=some (a,()):=by kernel_rfl
abbrev ay0:List (Ty×Bool):=[(K5,false),(K10,true)]
def n6 (p:D5)(l:D10):=bL uv F uw f303 ay0 kv 2 (p,l,())
def aet (p:D5)(l:D10):n6 F p l=(pI F0 l).bind fun a=>jx F (yo F) F.n (gz p 0 [] a.1.1 a.1.2):=by kernel_rfl
def L6:Any:=.one ⟨ay0,kv,2,fun x=>n6 F0 x.1 x.2.1⟩
def aeu:bb 303 L6:=aC uv ⟨Ue,JE,trivial⟩ func303 uw (by kernel_rfl)
def hV (q:D9):=bL ax F ad f293 ez ez 2 (q,())
def ak1 (q:D9):hV F q=ck (dV F 0 q.2.2.length 8) (some ((q.1,q.2.1,[]++q.2.2),())):=by kernel_rfl
def gN:Any:=.one ⟨ez,ez,2,fun x=>hV F0 x.1⟩
def lh:bb 293 gN:=aC ax trivial func293 ad (by kernel_rfl)
def RV:=[(119,b7),(187,nD),(257,k6),(293,gN)]
abbrev ay1:List (Ty×Bool):=[(K16,true),(.bool,false)]
abbrev aFm:List (Ty×Bool):=[(K1,true),(K9,true),(.int .i64,false),(K5,false)]
def hW (c:D1)(q:D9)(a:Int)(b:D5):=bL RV F ad f268 aFm ay1 2 (c,q,a,b,())
def OP (c:D1)(q:D9)(b:Int)(e:D5):hW F c q b e=(e2 F0 q.2.1 b e).bind fun a=>(hV F0 q).bind fun d=>(mo F0 c (a.1,d.1)).bind fun f=>br (!f.1) (some ((aj,0,aj,[]),false,())) ((cr F0 a.1).bind fun g=>br (g.1 != b) (some ((aj,0,aj,[]),false,())) (some ((a.1,d.1),true,()))):=by kernel_rfl
def oP:Any:=.one ⟨aFm,ay1,2,fun x=>hW F0 x.1 x.2.1 x.2.2.1 x.2.2.2.1⟩
def Cd:bb 268 oP:=aC RV ⟨cL,x2,ug,lh,trivial⟩ func268 ad (by kernel_rfl)
def ak2:=[(115,cc),(155,FT),(156,vq),(157,JV),(268,oP),(295,ub),(301,hU),(302,oO),(303,L6)]
def Ur (c:D1)(r:bq):=bL ak2 F ad f265 Lp ay1 2 (c,r,())
def atW (c:D1)(r:bq):Ur F c r=(dd F0 c r).bind fun g=>br (!g.1) (some ((aj,0,aj,[]),false,())) ((lg F0 c r.2.1).bind fun h=>br (h.1 != r.1) (some ((aj,0,aj,[]),false,())) (br (decide (r.2.2.1>=r.2.1)) (some ((aj,0,aj,[]),false,())) ((n5 F0 r.2.2.2.2.2.1 r.2.1 aj).bind fun i=>br (r.2.2.2.1.2.2.1.1 != (al (r.2.1-1))) ((wg F0 c).bind fun j=>br (decide ((i.1.2.2.length:Int)<j.1)) (some ((aj,0,aj,[]),false,())) ((k2 F0).bind fun b=>(vw F0 r.2.2.2.1.2.2.1.2.1).bind fun d=>(wj F0 b.1 d.1).bind fun e=>(n6 F0 r.2.2.2.2.1 e.1).bind fun f=>(hW F0 c r.2.2.2.1.2.2.1 r.2.1 f.1).bind fun a=>some (a.1,a.2.1,()))) ((k2 F0).bind fun b=>(vw F0 r.2.2.2.1.2.2.1.2.1).bind fun d=>(wj F0 b.1 d.1).bind fun e=>(n6 F0 r.2.2.2.2.1 e.1).bind fun f=>(hW F0 c r.2.2.2.1.2.2.1 r.2.1 f.1).bind fun a=>some (a.1,a.2.1,()))))):=by kernel_rfl
def Qy:Any:=.one ⟨Lp,ay1,2,fun x=>Ur F0 x.1 x.2.1⟩
def agF:bb 265 Qy:=aC ak2 ⟨cO,Uq,LN,Ys,Cd,JI,mr,Cc,aeu,trivial⟩ func265 ad (by kernel_rfl)
def bE (a b:Int):=bL ax F ad f267 apE dq 1 (a,b,())
def aob (a b:Int):bE F a b=br (decide (a<b)) (some (a,())) (some (b,())):=by kernel_rfl
def ix:Any:=.one ⟨apE,dq,1,fun x=>bE F0 x.1 x.2.1⟩
def n7:bb 267 ix:=aC ax trivial func267 ad (by kernel_rfl)
def kF:=[(97,cl),(98,av),(120,nA),(187,nD),(267,ix),(270,td)]
def kG:Nat->Option Hint:=look [(11,{live:=[3,4,5,6,7,9],A9:=[(4,5,3,.int .i64),(4,8,3,.int .i64),(4,11,3,.int .i64)],xl:=[4,5,6,7],rl:=[4]})]
def cg (r:Int)(name:ByteArray)(i:Int)(a:List Int)(b c w d:Int)(e:List Int)(f:List bq)(g:List bS)(h:List bK)(s t:Int)(u:ByteArray)(v:Int)(x:ByteArray)(y:Int)(z:ByteArray)(A:Int)(B:ByteArray)(C j k l m:Int)(D o p q:List Int):St:={nt:=89,tm:=[bX 3,bX 4,(5,bd r),(6,ZU name),(7,.v (.c (.own 1000000 none))),(9,bd i)],bx:=[(4000000,[.ro true 5 (.int .u8) a,aq b,aq c]),(3,[aq w,aq d,.ro false 3 (.int .i64) e,.ro false 42 (ca) f,.ro false 95 (ew) g,.ro false 91 (cA) h]),(4,[aq s,aq t,.str u,aq v,.str x,.own 1000001 none,aq y,.str z,.own 1000002 none,aq A,.str B,.own 1000003 none,aq C,aq j,aq k,aq l,aq m])],bl:=[aF 1000000 3 (.int .i64) D,aF 1000001 3 (.int .i64) o,aF 1000002 3 (.int .i64) p,aF 1000003 3 (.int .i64) q],sp:=.v (.c (.ptr 4000000 0))}
def yp (k:Int)(name:ByteArray)(a:List Int)(b c l m:Int)(o:ByteArray)(p:Int)(q:ByteArray)(r:Int)(s:ByteArray)(t:Int)(u:ByteArray)(v d e f g:Int)(w h i j:List Int):St:={nt:=89,tm:=[bX 4,(5,bd k),(6,ZU name),(7,.v (.c (.own 1000000 none)))],bx:=[(4000000,[.ro true 5 (.int .u8) a,aq b,aq c]),(4,[aq l,aq m,.str o,aq p,.str q,.own 1000001 none,aq r,.str s,.own 1000002 none,aq t,.str u,.own 1000003 none,aq v,aq d,aq e,aq f,aq g])],bl:=[aF 1000000 3 (.int .i64) w,aF 1000001 3 (.int .i64) h,aF 1000002 3 (.int .i64) i,aF 1000003 3 (.int .i64) j],sp:=.v (.c (.ptr 4000000 0))}
def cI (a:St):Option U:=ek kF F kG [.r,.r,.r,.r,.r,.l,.r,.b,.i] f304 J n a
def dW:=Lo kF F kG [.r,.r,.r,.r,.r,.l,.r,.b] f304 .cur oK bs 2
def te (b:Int)(name:ByteArray)(i:Int)(c:List Int)(d e w A:Int)(B:List Int)(C:List bq)(D:List bS)(a:List bK)(o p:Int)(q:ByteArray)(r:Int)(s:ByteArray)(t:Int)(u:ByteArray)(v:Int)(x:ByteArray)(y f g h j:Int)(z k l m:List Int):cI F J (n+1) (cg b name i c d e w A B C D a o p q r s t u v x y f g h j z k l m)=br (decide (i<(a.length:Int))) (ck (bG i (a.length:Int)) (br ((aL a i cA.az).1==b) (ck (bG i (a.length:Int)) (br ((aL a i cA.az).2.1.toList==name.toList) (ck (bG i (a.length:Int)) ((l5 F0 z (aL a i cA.az).2.2).bind fun E=>cI F J n (cg b name (al (i+1)) c d e w A B C D a o p q r s t u v x y f g h j E.1 k l m))) (cI F J n (cg b name (al (i+1)) c d e w A B C D a o p q r s t u v x y f g h j z k l m)))) (cI F J n (cg b name (al (i+1)) c d e w A B C D a o p q r s t u v x y f g h j z k l m)))) (J (.exit 0) (yp b name c d e o p q r s t u v x y f g h j z k l m)):=by kernel_rfl
def OQ (d:Int)(name:ByteArray)(a:List Int)(b c m o:Int)(p:ByteArray)(q:Int)(r:ByteArray)(s:Int)(t:ByteArray)(u:Int)(v:ByteArray)(w f g h i:Int)(e j k l:List Int):dW F (.exit 0) (yp d name a b c m o p q r s t u v w f g h i e j k l)=some (((2,0,(aj,0,aj,[]),(d,name,e),(0,aj,[]),0,0,0,0,0),()),(a,b,c),()):=by kernel_rfl
abbrev apK:List (Ty×Bool):=[(K2,true),(gq,true)]
def oQ (c:D2)(w:l1):=fJ kF F kG f304 apK 0 .cur oK bs 2 (c,w,())
def Us (c:D2)(w:l1):oQ F c w=(af F0 c 4).bind fun d=>(e2 F0 aj (al (1+d.1.1)) []).bind fun e=>ck (dV F 0 w.2.1.length 8) (br (decide ((w.2.2.2.2.length:Int)>0)) ((bE F0 (w.2.2.2.2.length:Int) 8).bind fun f=>(af F0 d.2.1 f.1).bind fun a=>ck (bG (al ((al ((w.2.2.2.2.length:Int)-1))-a.1.1)) (w.2.2.2.2.length:Int)) ((c7 F0 a.2.1 3).bind fun b=>br b.1.1 ((k5 F0 (aL w.2.2.2.2 (al ((al ((w.2.2.2.2.length:Int)-1))-a.1.1)) cA.az).2.1).bind fun g=>(e2 F0 g.1 (aL w.2.2.2.2 (al ((al ((w.2.2.2.2.length:Int)-1))-a.1.1)) cA.az).1 [(1,0,1,0)]).bind fun h=>cI F (dW F) F.n (cg (aL w.2.2.2.2 (al ((al ((w.2.2.2.2.length:Int)-1))-a.1.1)) cA.az).1 h.1 0 b.2.1.1 b.2.1.2.1 b.2.1.2.2 w.1.1 w.1.2 w.2.1 w.2.2.1 w.2.2.2.1 w.2.2.2.2 0 0 aj 0 aj 0 aj 0 aj 0 0 0 0 0 ([]++w.2.1) [] [] [])) (cI F (dW F) F.n (cg (aL w.2.2.2.2 (al ((al ((w.2.2.2.2.length:Int)-1))-a.1.1)) cA.az).1 (aL w.2.2.2.2 (al ((al ((w.2.2.2.2.length:Int)-1))-a.1.1)) cA.az).2.1 0 b.2.1.1 b.2.1.2.1 b.2.1.2.2 w.1.1 w.1.2 w.2.1 w.2.2.1 w.2.2.2.1 w.2.2.2.2 0 0 aj 0 aj 0 aj 0 aj 0 0 0 0 0 ([]++w.2.1) [] [] [])))) (cI F (dW F) F.n (cg (al (1+d.1.1)) e.1 0 d.2.1.1 d.2.1.2.1 d.2.1.2.2 w.1.1 w.1.2 w.2.1 w.2.2.1 w.2.2.2.1 w.2.2.2.2 0 0 aj 0 aj 0 aj 0 aj 0 0 0 0 0 ([]++w.2.1) [] [] []))):=by kernel_rfl
def Bj:Any:=.two ⟨apK,0,.cur,oK,2,bs,fun x=>oQ F0 x.1 x.2.1⟩
def Ut:bb 304 Bj:=jh kF ⟨c0,ay,w7,x2,n7,HS,trivial⟩ func304 kG (by kernel_rfl)
def H0: Option (Args ez):=bL ax F ad f305 [] ez 2 (())
def ahO: H0 F= some ((0,aj,[]),()):=by kernel_rfl
def OR:Any:=.one ⟨[],ez,2,fun x=>H0 F0⟩
def ahP:bb 305 OR:=aC ax trivial func305 ad (by kernel_rfl)
def oR:=[(97,cl),(98,av),(186,cT),(251,fK),(267,ix),(268,oP),(293,gN),(301,hU),(304,Bj),(305,OR)]
def oS:Nat->Option Hint:=look [(17,{live:=[0,3,4,6,7,8,9],A9:=[(4,5,3,.int .i64),(4,8,3,.int .i64),(4,11,3,.int .i64)],xl:=[0,3,4,6,8],rl:=[4]})]
def bj (dJ t k:Int)(a:List Int)(b c w d:Int)(e:List Int)(f:List bq)(g:List bS)(h:List bK)(u v:Int)(x:ByteArray)(y:Int)(z:ByteArray)(A:Int)(B:ByteArray)(C:Int)(D:ByteArray)(E i j l m q:Int)(o:ByteArray)(G p r s:List Int):St:={nt:=115,tm:=[(0,.v (.c (.ptr 4000000 0))),bX 3,bX 4,bX 6,(7,bd dJ),(8,bd t),(9,bd k)],bx:=[(4000000,[.ro true 5 (.int .u8) a,aq b,aq c]),(3,[aq w,aq d,.ro false 3 (.int .i64) e,.ro false 42 (ca) f,.ro false 95 (ew) g,.ro false 91 (cA) h]),(4,[aq u,aq v,.str x,aq y,.str z,.own 1000000 none,aq A,.str B,.own 1000001 none,aq C,.str D,.own 1000002 none,aq E,aq i,aq j,aq l,aq m]),(6,[aq q,.str o,.own 1000003 none])],bl:=[aF 1000000 3 (.int .i64) G,aF 1000001 3 (.int .i64) p,aF 1000002 3 (.int .i64) r,aF 1000003 3 (.int .i64) s],sp:=.v (.c (.ptr 4000000 0))}
def gf (s:Int)(a:List Int)(b c w d:Int)(e:List Int)(f:List bq)(g:List bS)(h:List bK)(t u:Int)(v:ByteArray)(x:Int)(y:ByteArray)(z:Int)(A:ByteArray)(B:Int)(C:ByteArray)(D i j k l q:Int)(m:ByteArray)(E o p r:List Int):St:={nt:=115,tm:=[(0,.v (.c (.ptr 4000000 0))),bX 3,bX 4,bX 6,(8,bd s)],bx:=[(4000000,[.ro true 5 (.int .u8) a,aq b,aq c]),(3,[aq w,aq d,.ro false 3 (.int .i64) e,.ro false 42 (ca) f,.ro false 95 (ew) g,.ro false 91 (cA) h]),(4,[aq t,aq u,.str v,aq x,.str y,.own 1000000 none,aq z,.str A,.own 1000001 none,aq B,.str C,.own 1000002 none,aq D,aq i,aq j,aq k,aq l]),(6,[aq q,.str m,.own 1000003 none])],bl:=[aF 1000000 3 (.int .i64) E,aF 1000001 3 (.int .i64) o,aF 1000002 3 (.int .i64) p,aF 1000003 3 (.int .i64) r],sp:=.v (.c (.ptr 4000000 0))}
def bF (a:St):Option U:=ek oR F oS [.r,.r,.r,.r,.r,.r,.r,.r,.l,.r,.b,.i] f266 J n a
def bk:=Lo oR F oS [.r,.r,.r,.r,.r,.r,.r,.r,.l,.r,.b] f266 .cur oK bs 2
def yq (dJ a k:Int)(c:List Int)(d e w b:Int)(f:List Int)(g:List bq)(h:List bS)(i:List bK)(u v:Int)(x:ByteArray)(y:Int)(z:ByteArray)(A:Int)(B:ByteArray)(C:Int)(D:ByteArray)(E j l m o q:Int)(p:ByteArray)(G r s t:List Int):bF F J (n+1) (bj dJ a k c d e w b f g h i u v x y z A B C D E j l m o q p G r s t)=br (decide (k<7)) (br (decide (a<60)) ((lg F0 (w,b) a).bind fun H=>br (H.1 != dJ) (bF F J n (bj dJ (al (a+1)) (al (k+1)) c d e w b f g h i u v x y z A B C D E j l m o q p G r s t)) (J (.exit 1) (gf a c d e w b f g h i u v x y z A B C D E j l m o q p G r s t))) (J (.exit 1) (gf a c d e w b f g h i u v x y z A B C D E j l m o q p G r s t))) (J (.exit 1) (gf a c d e w b f g h i u v x y z A B C D E j l m o q p G r s t)):=by kernel_rfl
def S9 (h:Int)(a:List Int)(b c w d:Int)(i:List Int)(j:List bq)(k:List bS)(l:List bK)(v x:Int)(y:ByteArray)(z:Int)(A:ByteArray)(B:Int)(C:ByteArray)(D:Int)(E:ByteArray)(G m o p r q:Int)(e:ByteArray)(H s t f:List Int):bk F (.exit 1) (gf h a b c w d i j k l v x y z A B C D E G m o p r q e H s t f)=(c3 F0 (a,b,c)).bind fun g=>(hW F0 (w,d) (q,e,f) h [g.1.1]).bind fun u=>some (((1,0,u.1,(0,aj,[]),(0,aj,[]),0,0,0,0,0),()),g.2.1,()):=by kernel_rfl
def gO (c:D2)(w:l1):=fJ oR F oS f266 apK 0 .cur oK bs 2 (c,w,())
def Z3 (c:D2)(w:l1):gO F c w=(oQ F0 c w).bind fun b=>(jw F0 w.1 b.1.1.2.2.2.1).bind fun k=>br (!k.1) ((H0 F0).bind fun d=>br (decide ((w.2.2.1.length:Int)>0)) ((c7 F0 b.2.1 2).bind fun i=>br i.1.1 ((af F0 i.2.1 (w.2.2.1.length:Int)).bind fun j=>ck (bG j.1.1 (w.2.2.1.length:Int)) ((hV F0 (aL w.2.2.1 j.1.1 ca.az).2.2.2.1.2.2.1).bind fun h=>br (decide ((w.2.1.length:Int)>0)) ((af F0 j.2.1 (w.2.1.length:Int)).bind fun f=>ck (bG f.1.1 (w.2.1.length:Int)) ((af F0 f.2.1 4).bind fun a=>br (a.1.1==0) (some ((b.1.1,()),a.2.1,())) (br (a.1.1==1) ((af F0 a.2.1 2).bind fun e=>(bE F0 (al ((al (h.1.1+1))+e.1.1)) 60).bind fun g=>some (((3,g.1,(aj,0,aj,[]),(0,aj,[]),h.1,aL w.2.1 f.1.1 0,0,0,0,0),()),e.2.1,())) (bF F (bk F) F.n (bj (aL w.2.1 f.1.1 0) (al (h.1.1+1)) 0 a.2.1.1 a.2.1.2.1 a.2.1.2.2 w.1.1 w.1.2 w.2.1 w.2.2.1 w.2.2.2.1 w.2.2.2.2 0 0 aj 0 aj 0 aj 0 aj 0 0 0 0 0 h.1.1 h.1.2.1 [] [] [] h.1.2.2))))) ((af F0 j.2.1 4).bind fun a=>br (a.1.1==0) (some ((b.1.1,()),a.2.1,())) (br (a.1.1==1) ((af F0 a.2.1 2).bind fun e=>(bE F0 (al ((al (h.1.1+1))+e.1.1)) 60).bind fun g=>some (((3,g.1,(aj,0,aj,[]),(0,aj,[]),h.1,0,0,0,0,0),()),e.2.1,())) (bF F (bk F) F.n (bj 0 (al (h.1.1+1)) 0 a.2.1.1 a.2.1.2.1 a.2.1.2.2 w.1.1 w.1.2 w.2.1 w.2.2.1 w.2.2.2.1 w.2.2.2.2 0 0 aj 0 aj 0 aj 0 aj 0 0 0 0 0 h.1.1 h.1.2.1 [] [] [] h.1.2.2)))))) (br (decide ((w.2.1.length:Int)>0)) ((af F0 i.2.1 (w.2.1.length:Int)).bind fun f=>ck (bG f.1.1 (w.2.1.length:Int)) ((af F0 f.2.1 4).bind fun a=>br (a.1.1==0) (some ((b.1.1,()),a.2.1,())) (br (a.1.1==1) ((af F0 a.2.1 2).bind fun e=>(bE F0 (al ((al (d.1.1+1))+e.1.1)) 60).bind fun g=>some (((3,g.1,(aj,0,aj,[]),(0,aj,[]),d.1,aL w.2.1 f.1.1 0,0,0,0,0),()),e.2.1,())) (bF F (bk F) F.n (bj (aL w.2.1 f.1.1 0) (al (d.1.1+1)) 0 a.2.1.1 a.2.1.2.1 a.2.1.2.2 w.1.1 w.1.2 w.2.1 w.2.2.1 w.2.2.2.1 w.2.2.2.2 0 0 aj 0 aj 0 aj 0 aj 0 0 0 0 0 d.1.1 d.1.2.1 [] [] [] d.1.2.2))))) ((af F0 i.2.1 4).bind fun a=>br (a.1.1==0) (some ((b.1.1,()),a.2.1,())) (br (a.1.1==1) ((af F0 a.2.1 2).bind fun e=>(bE F0 (al ((al (d.1.1+1))+e.1.1)) 60).bind fun g=>some (((3,g.1,(aj,0,aj,[]),(0,aj,[]),d.1,0,0,0,0,0),()),e.2.1,())) (bF F (bk F) F.n (bj 0 (al (d.1.1+1)) 0 a.2.1.1 a.2.1.2.1 a.2.1.2.2 w.1.1 w.1.2 w.2.1 w.2.2.1 w.2.2.2.1 w.2.2.2.2 0 0 aj 0 aj 0 aj 0 aj 0 0 0 0 0 d.1.1 d.1.2.1 [] [] [] d.1.2.2)))))) (br (decide ((w.2.1.length:Int)>0)) ((af F0 b.2.1 (w.2.1.length:Int)).bind fun f=>ck (bG f.1.1 (w.2.1.length:Int)) ((af F0 f.2.1 4).bind fun a=>br (a.1.1==0) (some ((b.1.1,()),a.2.1,())) (br (a.1.1==1) ((af F0 a.2.1 2).bind fun e=>(bE F0 (al ((al (d.1.1+1))+e.1.1)) 60).bind fun g=>some (((3,g.1,(aj,0,aj,[]),(0,aj,[]),d.1,aL w.2.1 f.1.1 0,0,0,0,0),()),e.2.1,())) (bF F (bk F) F.n (bj (aL w.2.1 f.1.1 0) (al (d.1.1+1)) 0 a.2.1.1 a.2.1.2.1 a.2.1.2.2 w.1.1 w.1.2 w.2.1 w.2.2.1 w.2.2.2.1 w.2.2.2.2 0 0 aj 0 aj 0 aj 0 aj 0 0 0 0 0 d.1.1 d.1.2.1 [] [] [] d.1.2.2))))) ((af F0 b.2.1 4).bind fun a=>br (a.1.1==0) (some ((b.1.1,()),a.2.1,())) (br (a.1.1==1) ((af F0 a.2.1 2).bind fun e=>(bE F0 (al ((al (d.1.1+1))+e.1.1)) 60).bind fun g=>some (((3,g.1,(aj,0,aj,[]),(0,aj,[]),d.1,0,0,0,0,0),()),e.2.1,())) (bF F (bk F) F.n (bj 0 (al (d.1.1+1)) 0 a.2.1.1 a.2.1.2.1 a.2.1.2.2 w.1.1 w.1.2 w.2.1 w.2.2.1 w.2.2.2.1 w.2.2.2.2 0 0 aj 0 aj 0 aj 0 aj 0 0 0 0 0 d.1.1 d.1.2.1 [] [] [] d.1.2.2)))))) (br (decide ((w.2.1.length:Int)>0)) ((af F0 b.2.1 (w.2.1.length:Int)).bind fun f=>ck (bG f.1.1 (w.2.1.length:Int)) ((af F0 f.2.1 4).bind fun a=>br (a.1.1==0) (some ((b.1.1,()),a.2.1,())) (br (a.1.1==1) ((af F0 a.2.1 2).bind fun e=>(bE F0 (al ((al (b.1.1.2.2.2.1.1+1))+e.1.1)) 60).bind fun g=>some (((3,g.1,(aj,0,aj,[]),(0,aj,[]),b.1.1.2.2.2.1,aL w.2.1 f.1.1 0,0,0,0,0),()),e.2.1,())) (bF F (bk F) F.n (bj (aL w.2.1 f.1.1 0) (al (b.1.1.2.2.2.1.1+1)) 0 a.2.1.1 a.2.1.2.1 a.2.1.2.2 w.1.1 w.1.2 w.2.1 w.2.2.1 w.2.2.2.1 w.2.2.2.2 0 0 aj 0 aj 0 aj 0 aj 0 0 0 0 0 b.1.1.2.2.2.1.1 b.1.1.2.2.2.1.2.1 [] [] [] b.1.1.2.2.2.1.2.2))))) ((af F0 b.2.1 4).bind fun a=>br (a.1.1==0) (some ((b.1.1,()),a.2.1,())) (br (a.1.1==1) ((af F0 a.2.1 2).bind fun e=>(bE F0 (al ((al (b.1.1.2.2.2.1.1+1))+e.1.1)) 60).bind fun g=>some (((3,g.1,(aj,0,aj,[]),(0,aj,[]),b.1.1.2.2.2.1,0,0,0,0,0),()),e.2.1,())) (bF F (bk F) F.n (bj 0 (al (b.1.1.2.2.2.1.1+1)) 0 a.2.1.1 a.2.1.2.1 a.2.1.2.2 w.1.1 w.1.2 w.2.1 w.2.2.1 w.2.2.2.1 w.2.2.2.2 0 0 aj 0 aj 0 aj 0 aj 0 0 0 0 0 b.1.1.2.2.2.1.1 b.1.1.2.2.2.1.2.1 [] [] [] b.1.1.2.2.2.1.2.2))))):=by kernel_rfl
def GD:Any:=.two ⟨apK,0,.cur,oK,2,bs,fun x=>gO F0 x.1 x.2.1⟩
def Z4:bb 266 GD:=jh oR ⟨c0,ay,dO,jQ,n7,Cd,lh,mr,Ut,ahP,trivial⟩ func266 oS (by kernel_rfl)
end
end Go.Am.Tryz
