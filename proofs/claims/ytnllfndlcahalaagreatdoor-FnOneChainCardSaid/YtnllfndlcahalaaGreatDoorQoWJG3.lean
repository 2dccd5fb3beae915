/- No condition. -/
import Derived.Test.YtnllfndlcahalaaGreatDoorQoWJG2
set_option linter.all false
set_option maxRecDepth 100000
namespace Go.Am.Tryz
open Go.Am Go.Proofs Go.Proofs.Tryz
noncomputable section
variable {U:Type} (F:rz) (J:Ex->St->Option U) (n:Nat)
def yU:=[(134,gw),(300,ib),(301,rU)]
def yV:Nat->Option Hint:=look [(6,{live:=[3,5,6],xl:=[5],rl:=[4]})]
def rV (i q:Int)(a:ByteArray)(b c:List Int):= cQ 41 [b0 3,(5,.v (.c (.own 1000000 none))),(6,a8 i)] [(3,[ao q,.str a,.ro false 3 (.int .i64) b])] [ay 1000000 5 (.int .u8) c]
def MT (a:List Int):= cQ 41 [(5,.v (.c (.own 1000000 none)))] [] [ay 1000000 5 (.int .u8) a]
def yW (a:St):Option U:=e9 yU F yV [.r,.r,.r,.r,.l,.r,.b,.i] f302 J n a
def Cq:=hf yU F yV [.r,.r,.r,.r,.l,.r,.b] f302 lW 2
theorem Hc (i q:Int)(c:ByteArray)(a b:List Int):yW F J (n+1) (rV i q c a b)=br (decide (i<(a.length:Int))) (ck (bG i (a.length:Int)) ((eo F0 (aK a i 0)).bind fun d=>ck (ei F b.length d.1.length 1) (yW F J n (rV (aj (i+1)) q c a (b++d.1))))) (J (.exit 0) (MT b)):=by kernel_rfl
theorem aca (a:List Int):Cq F (.exit 0) (MT a)=some (a,()):=by kernel_rfl
def rW (c:D1)(q:D9):=bj yU F yV f302 GX lW 2 (c,q,())
theorem alo (c:D1)(q:D9):rW F c q=(kp F0 c q).bind fun e=>br (!e.1) (some ([],())) ((eo F0 q.1).bind fun a=>(nx F0 q.2.1).bind fun b=>ck (ei F a.1.length b.1.length 1) ((eo F0 (q.2.2.length:Int)).bind fun d=>ck (ei F (a.1++b.1).length d.1.length 1) (yW F (Cq F) F.n (rV 0 q.1 q.2.1 q.2.2 ((a.1++b.1)++d.1))))):=by kernel_rfl
def Cr:Any:=.one ⟨GX,lW,2,fun x=>rW F0 x.1 x.2.1⟩
theorem TA:a6 302 Cr:=aq yU ⟨kJ,mi,Gt,trivial⟩ func302 yV (by kernel_rfl)
def Qa:=[(141,h8),(300,ib),(301,rU),(302,Cr)]
def yX (c:D1)(s:U1):=bj Qa F ad f364 Tf lW 2 (c,s,())
theorem aem (c:D1)(s:U1):yX F c s=(iX F0 c s).bind fun f=>br (!f.1) (some ([],())) ((eo F0 s.1).bind fun a=>(eo F0 s.2.1).bind fun b=>ck (ei F a.1.length b.1.length 1) ((rW F0 c s.2.2.1).bind fun d=>ck (ei F (a.1++b.1).length d.1.length 1) ((nx F0 s.2.2.2).bind fun e=>ck (ei F ((a.1++b.1)++d.1).length e.1.length 1) (some (((a.1++b.1)++d.1)++e.1,()))))):=by kernel_rfl
def KH:Any:=.one ⟨Tf,lW,2,fun x=>yX F0 x.1 x.2.1⟩
theorem aen:a6 364 KH:=aq Qa ⟨lY,mi,Gt,TA,trivial⟩ func364 ad (by kernel_rfl)
def Qb:=[(300,ib),(364,KH)]
def yY (c:D1)(s:U1):=bj Qb F ad f342 Tf lW 2 (c,s,())
theorem aeo (c:D1)(s:U1):yY F c s=(yX F0 c s).bind fun a=>br ((a.1.length:Int)==0) (some ([],())) ((eo F0 (a.1.length:Int)).bind fun b=>ck (ei F b.1.length a.1.length 1) (ck (ei F (b.1++a.1).length [10].length 1) (some ((b.1++a.1)++[10],())))):=by kernel_rfl
def KI:Any:=.one ⟨Tf,lW,2,fun x=>yY F0 x.1 x.2.1⟩
theorem aep:a6 342 KI:=aq Qb ⟨mi,aen,trivial⟩ func342 ad (by kernel_rfl)
def aar:=[(123,ma),(144,oh)]
abbrev aDw:List (Ty×Bool):=[(K14,true),(.sl 5 (.int .u8),false)]
abbrev aDx:List (Ty×Bool):=[(K14,true),(.bool,false)]
def MU (d:D14)(b:List Int):=bj aar F ad f341 aDw aDx 2 (d,b,())
theorem aov (d:D14)(b:List Int):MU F d b=(iL F0 d).bind fun a=>ck (ei F a.1.1.length b.length 1) ((mZ F0 d).bind fun e=>br (!e.1) ((iL F0 d).bind fun c=>some (c.1,false,())) ((mZ F0 (a.1.1++b,a.1.2)).bind fun f=>br (!f.1) ((iL F0 d).bind fun c=>some (c.1,false,())) (some ((a.1.1++b,a.1.2),true,())))):=by kernel_rfl
def TC:Any:=.one ⟨aDw,aDx,2,fun x=>MU F0 x.1 x.2.1⟩
theorem aow:a6 341 TC:=aq aar ⟨uF,yt,trivial⟩ func341 ad (by kernel_rfl)
def TD:=[(121,l9),(141,h8),(340,MR),(341,TC),(342,KI)]
def eI (c:D1)(r:a1)(s:U1):Option (a1×Bool×a1):=arK Tryz.prog (look TD) F ad f307 [(K1,true),(cd,true),(K12,true)] 1 (cd,true) (.bool,false) (cd,true) (c,r,s,())
theorem ahc (c:D1)(r:a1)(s:U1):eI F c r s=(DI F0 r.2.2.2.1 s).bind fun b=>br b.1 (some (r,true,cd.aD)) ((yY F0 c s).bind fun d=>(MU F0 r.2.2.2.2.2.2.1 d.1).bind fun a=>br (!a.2.1) (some (cd.aD,false,r)) ((iX F0 c s).bind fun e=>br (!e.1) (some (cd.aD,false,r)) ((nu F0 s).bind fun f=>some ((r.1,r.2.1,r.2.2.1,f.1,r.2.2.2.2.1,r.2.2.2.2.2.1,a.1,r.2.2.2.2.2.2.2),true,cd.aD)))):=by kernel_rfl
def pr:Any:=.sel ⟨[(K1,true),(cd,true),(K12,true)],1,(cd,true),(.bool,false),(cd,true),fun x=>eI F0 x.1 x.2.1 x.2.2.1⟩
theorem Cs:a6 307 pr:=ok4 (show x8 Tryz.prog TB TD from⟨uB,lY,ahb,aow,aep,trivial⟩) func307 (by kernel_rfl) (by kernel_rfl) ad (by kernel_rfl) (by kernel_rfl)
def mj:=[(201,Gr)]
def ml:Nat->Option Hint:=look [(3,{live:=[0,1,5,6],xl:=[1,5],rl:=[4]}),(7,{live:=[1,5,7],xl:=[5],rl:=[4]})]
def rX (b:List Int)(i:Int)(a:List Int):= cQ 34 [(1,hD 3 (.int .i64) b),(5,.v (.c (.own 1000000 none))),(7,a8 i)] [] [ay 1000000 3 (.int .i64) a]
def MV (a:List Int):= cQ 34 [(5,.v (.c (.own 1000000 none)))] [] [ay 1000000 3 (.int .i64) a]
def yZ (a:St):Option U:=e9 mj F ml [.r,.r,.r,.l,.r,.b,.i] f347 J n a
def Ct:=hf mj F ml [.r,.r,.r,.l,.r,.b] f347 kh 2
def rY (a b:List Int)(i:Int)(c:List Int):= cQ 34 [(0,hD 3 (.int .i64) a),(1,hD 3 (.int .i64) b),(5,.v (.c (.own 1000000 none))),(6,a8 i)] [] [ay 1000000 3 (.int .i64) c]
def MW (b a:List Int):= cQ 34 [(1,hD 3 (.int .i64) b),(5,.v (.c (.own 1000000 none)))] [] [ay 1000000 3 (.int .i64) a]
def y0 (a:St):Option U:=e9 mj F ml [.r,.r,.l,.r,.b,.i] f347 J n a
def Cu:=hf mj F ml [.r,.r,.l,.r,.b] f347 kh 2
theorem Hd (b:List Int)(i:Int)(a:List Int):yZ F J (n+1) (rX b i a)=br (decide (i<(b.length:Int))) (ck (bG i (b.length:Int)) ((wT F0 a (aK b i 0)).bind fun c=>yZ F J n (rX b (aj (i+1)) c.1))) (J (.exit 2) (MV a)):=by kernel_rfl
theorem He (a b:List Int)(i:Int)(c:List Int):y0 F J (n+1) (rY a b i c)=br (decide (i<(a.length:Int))) (ck (bG i (a.length:Int)) ((wT F0 c (aK a i 0)).bind fun d=>y0 F J n (rY a b (aj (i+1)) d.1))) (J (.exit 0) (MW b c)):=by kernel_rfl
theorem acb (a:List Int):Ct F (.exit 2) (MV a)=some (a,()):=by kernel_rfl
theorem acd (b a:List Int):Cu F (.exit 0) (MW b a)=yZ F (Ct F) F.n (rX b 0 a):=by kernel_rfl
def Iy (a b:List Int):=bj mj F ml f347 akQ kh 2 (a,b,())
theorem alp (a b:List Int):Iy F a b=y0 F (Cu F) F.n (rY a b 0 []):=by kernel_rfl
def Qc:Any:=.one ⟨akQ,kh,2,fun x=>Iy F0 x.1 x.2.1⟩
theorem alq:a6 347 Qc:=aq mj ⟨Wt,trivial⟩ func347 ml (by kernel_rfl)
def TE:=[(347,Qc)]
abbrev ajF:List (Ty×Bool):=[(K9,true),(.bool,false)]
def DM (a b:D9):=bj TE F ad f314 wP ajF 2 (a,b,())
theorem ahd (a b:D9):DM F a b=br (a.1 != b.1) (some ((0,ak,[]),false,())) (br (!(a.2.1.toList==b.2.1.toList)) (some ((0,ak,[]),false,())) ((Iy F0 a.2.2 b.2.2).bind fun c=>some ((a.1,a.2.1,c.1),true,()))):=by kernel_rfl
def MX:Any:=.one ⟨wP,ajF,2,fun x=>DM F0 x.1 x.2.1⟩
theorem ahe:a6 314 MX:=aq TE ⟨alq,trivial⟩ func314 ad (by kernel_rfl)
def uZ:=[(122,yE),(143,Ce),(194,jz),(213,og),(214,vY),(314,MX)]
def u0:Nat->Option Hint:=look [(4,{live:=[1,3,5,8,9,10],xl:=[1,3,5,8,9],rl:=[6,7]})]
def fo (e:List D9)(put:Bool)(i c a p:Int)(b:ByteArray)(d:List Int)(f:List D9):= cQ 74 [(1,hD 50 (K9) e),b0 3,b0 5,(8,.v (.c (.own 1000000 none))),(9,H0 put),(10,a8 i)] [(3,[ao c,ao a]),(5,[ao p,.str b,.ro false 3 (.int .i64) d])] [ay 1000000 50 K9 f]
def KJ (e:List D9)(put:Bool)(c a p:Int)(b:ByteArray)(d:List Int)(f:List D9):= cQ 74 [(1,hD 50 (K9) e),b0 3,b0 5,(8,.v (.c (.own 1000000 none))),(9,H0 put)] [(3,[ao c,ao a]),(5,[ao p,.str b,.ro false 3 (.int .i64) d])] [ay 1000000 50 K9 f]
def ic (a:St):Option U:=e9 uZ F u0 [.r,.r,.r,.l,.r,.b,.i] f268 J n a
abbrev atO:List (Ty×Bool):=[(K13,false),(.bool,false)]
def y1:=hf uZ F u0 [.r,.r,.r,.l,.r,.b] f268 atO 2
theorem kP (e:List D9)(put:Bool)(i c g p:Int)(b:ByteArray)(d:List Int)(a:List D9):ic F J (n+1) (fo e put i c g p b d a)=br (decide (i<(e.length:Int))) (ck (bG i (e.length:Int)) ((gy F0 (aK e i K9.aD)).bind fun f=>br (!put) ((p2 F0 f.1 (p,b,d)).bind fun k=>br (!k.1) ((DM F0 f.1 (p,b,d)).bind fun h=>br h.2.1 (ck (ei F a.length [h.1].length 48) (ic F J n (fo e true (aj (i+1)) c g p b d (a++[h.1])))) ((gy F0 (p,b,d)).bind fun j=>ck (ei F a.length [j.1].length 48) (ck (ei F (a++[j.1]).length [f.1].length 48) (ic F J n (fo e true (aj (i+1)) c g p b d ((a++[j.1])++[f.1])))))) (ck (ei F a.length [f.1].length 48) (ic F J n (fo e put (aj (i+1)) c g p b d (a++[f.1]))))) (ck (ei F a.length [f.1].length 48) (ic F J n (fo e put (aj (i+1)) c g p b d (a++[f.1])))))) (J (.exit 0) (KJ e put c g p b d a)):=by kernel_rfl
theorem Hf (e:List D9)(put:Bool)(c d p:Int)(f:ByteArray)(g:List Int)(b:List D9):y1 F (.exit 0) (KJ e put c d p f g b)=br (!put) ((gy F0 (p,f,g)).bind fun h=>ck (ei F b.length [h.1].length 48) ((nq F0 (c,d) (b++[h.1])).bind fun i=>br (!i.1) ((gz F0 e).bind fun a=>some (a.1,false,())) ((kK F0 (c,d) (p,f,g)).bind fun j=>br (!j.1) ((gz F0 e).bind fun a=>some (a.1,false,())) (some (b++[h.1],true,()))))) ((nq F0 (c,d) b).bind fun i=>br (!i.1) ((gz F0 e).bind fun a=>some (a.1,false,())) ((kK F0 (c,d) (p,f,g)).bind fun j=>br (!j.1) ((gz F0 e).bind fun a=>some (a.1,false,())) (some (b,true,())))):=by kernel_rfl
abbrev aDy:List (Ty×Bool):=[(K1,true),(K13,false),(K9,true)]
def fg (c:D1)(a:D13)(p:D9):=bj uZ F u0 f268 aDy atO 2 (c,a,p,())
theorem ahf (c:D1)(a:D13)(p:D9):fg F c a p=ic F (y1 F) F.n (fo a false 0 c.1 c.2 p.1 p.2.1 p.2.2 []):=by kernel_rfl
def kQ:Any:=.one ⟨aDy,atO,2,fun x=>fg F0 x.1 x.2.1 x.2.2.1⟩
theorem rZ:a6 268 kQ:=aq uZ ⟨PU,Tg,oj,yp,Mv,ahe,trivial⟩ func268 u0 (by kernel_rfl)
def aas:=[(134,gw)]
def Fk (c:D1)(p:D9):=bj aas F ad f365 GX ajF 2 (c,p,())
theorem aox (c:D1)(p:D9):Fk F c p=ck (ei F 0 p.2.2.length 8) (br (p.2.1.toList==ak.toList) (some ((0,ak,[]),false,())) ((kp F0 c (p.1,p.2.1,[]++p.2.2)).bind fun a=>br (!a.1) (some ((0,ak,[]),false,())) (some ((p.1,p.2.1,[]++p.2.2),true,())))):=by kernel_rfl
def TF:Any:=.one ⟨GX,ajF,2,fun x=>Fk F0 x.1 x.2.1⟩
theorem aoy:a6 365 TF:=aq aas ⟨kJ,trivial⟩ func365 ad (by kernel_rfl)
def WC:=[(73,b7),(145,jN),(195,Ck)]
abbrev aDz:List (Ty×Bool):=[(K1,true),(cd,true),(.int .i64,false),(K21,true)]
def fp (c:D1)(r:a1)(a:Int)(m:OW):=E6 WC F ad f269 aDz 1 (.own true) gx [] 2 (c,r,a,m,())
theorem alr (c:D1)(r:a1)(a:Int)(m:OW):fp F c r a m=br (decide ((r.2.2.2.2.2.2.2.length:Int)>=30)) (some ((r,false,()),())) ((fm F0 c m).bind fun d=>br (!d.1) (some ((r,false,()),())) ((bM F0 a 0 (aj (c.1-1))).bind fun e=>br (!e.1) (some ((r,false,()),())) (br (a==r.1) (some ((r,false,()),())) ((yF F0 m).bind fun b=>ck (ei F r.2.2.2.2.2.2.2.length [(a,b.1)].length 224) (some (((r.1,r.2.1,r.2.2.1,r.2.2.2.1,r.2.2.2.2.1,r.2.2.2.2.2.1,r.2.2.2.2.2.2.1,r.2.2.2.2.2.2.2++[(a,b.1)]),true,()),())))))):=by kernel_rfl
def mm:Any:=.two ⟨aDz,1,(.own true),gx,2,[],fun x=>fp F0 x.1 x.2.1 x.2.2.1 x.2.2.2.1⟩
theorem u1:a6 269 mm:=aBg WC ⟨cA,oL,Tn,trivial⟩ func269 ad (by kernel_rfl)
def aat:=[(66,gM),(125,iZ),(269,mm),(304,Ix),(307,pr),(365,TF)]
abbrev ajG:List (Ty×Bool):=[(K1,true),(cd,true),(K9,true)]
def MY (c:D1)(r:a1)(p:D9):=E6 aat F ad f343 ajG 1 (.own true) gx [] 2 (c,r,p,())
theorem aoz (c:D1)(r:a1)(p:D9):MY F c r p=(Fk F0 c p).bind fun b=>br (!b.2.1) (some ((r,false,()),())) ((P7 F0 c r.2.2.2.1 b.1).bind fun f=>(eI F0 c r f.1).bind fun a=>br a.2.1 (br (decide ((aj (p.1+1))>60)) (some ((a.1,true,()),())) ((dJ F0 a.1.2.1 (aj (p.1+1))).bind fun d=>(me F0 c (aj (p.1+1))).bind fun g=>br (g.1==r.1) (some (((a.1.1,d.1,a.1.2.2),true,()),())) ((me F0 c (aj (p.1+1))).bind fun h=>(fp F0 c (a.1.1,d.1,a.1.2.2) h.1 (3,aj (p.1+1),(ak,0,ak,[]),(0,ak,[]),b.1,r.1,0,0,0,0)).bind fun e=>some ((e.1.1,e.1.2.1,()),())))) (some (((r.1,r.2.1,r.2.2.1,(r.2.2.2.1.1,r.2.2.2.1.2.1,(r.2.2.2.1.2.2.1.1,r.2.2.2.1.2.2.1.2.1,a.2.2.2.2.2.1.2.2.1.2.2),r.2.2.2.1.2.2.2),a.2.2.2.2.2.2.1,a.2.2.2.2.2.2.2.1,(a.2.2.2.2.2.2.2.2.1.1,r.2.2.2.2.2.2.1.2),a.2.2.2.2.2.2.2.2.2),false,()),()))):=by kernel_rfl
def TG:Any:=.two ⟨ajG,1,(.own true),gx,2,[],fun x=>MY F0 x.1 x.2.1 x.2.2.1⟩
theorem aoA:a6 343 TG:=aBg aat ⟨lr,nv,u1,Wz,Cs,aoy,trivial⟩ func343 ad (by kernel_rfl)
def ajH:=[(32,cw),(73,b7)]
abbrev Qd:List (Ty×Bool):=[(K1,true),(.int .i64,false),(.int .i64,false)]
def JD (c:D1)(a i:Int):=bj ajH F ad f366 Qd cE 1 (c,a,i,())
theorem avZ (c:D1)(a i:Int):JD F c a i=(dI F0 c).bind fun b=>br (!b.1) (some (-1,())) (br (decide (a<0)) (some (-1,())) ((bM F0 i 0 (aj (c.1-1))).bind fun d=>br (!d.1) (some (-1,())) (ck (!(c.1==0)) (ck (!(c.1==0)) (some (Int.tmod (aj ((aj (i+c.1))-(Int.tmod a c.1))) c.1,())))))):=by kernel_rfl
def DN:Any:=.one ⟨Qd,cE,1,fun x=>JD F0 x.1 x.2.1 x.2.2.1⟩
theorem R4:a6 366 DN:=aq ajH ⟨de,cA,trivial⟩ func366 ad (by kernel_rfl)
def ajI:=[(32,cw),(73,b7)]
def YB (c:D1)(b a:Int):=bj ajI F ad f369 Qd cE 1 (c,b,a,())
theorem av0 (c:D1)(b a:Int):YB F c b a=(dI F0 c).bind fun d=>br (!d.1) (some (-1,())) (br (decide (b<0)) (some (-1,())) ((bM F0 a 0 (aj (c.1-1))).bind fun e=>br (!e.1) (some (-1,())) (ck (!(c.1==0)) (ck (!(c.1==0)) (some (Int.tmod (aj ((Int.tmod b c.1)+a)) c.1,())))))):=by kernel_rfl
def aau:Any:=.one ⟨Qd,cE,1,fun x=>YB F0 x.1 x.2.1 x.2.2.1⟩
theorem av1:a6 369 aau:=aq ajI ⟨de,cA,trivial⟩ func369 ad (by kernel_rfl)
def atP:=[(366,DN),(369,aau)]
def YC (c:D1)(a i:Int):=bj atP F ad f346 Qd cE 1 (c,a,i,())
theorem aBh (c:D1)(a i:Int):YC F c a i=(JD F0 c a i).bind fun b=>br (decide (b.1<=0)) (some (-1,())) (ck (!(c.2==0)) ((YB F0 c a (aj (Int.tdiv (aj (b.1-1)) c.2))).bind fun d=>some (d.1,()))):=by kernel_rfl
def WD:Any:=.one ⟨Qd,cE,1,fun x=>YC F0 x.1 x.2.1 x.2.2.1⟩
theorem aoB:a6 346 WD:=aq atP ⟨R4,av1,trivial⟩ func346 ad (by kernel_rfl)
def R5:=[(346,WD),(366,DN)]
def R6:Nat->Option Hint:=look [(2,{live:=[1,2,3,7],xl:=[7],rl:=[6]})]
def Iz (b i c a:Int)(d:List Int):= cQ 23 [(1,a8 b),(2,a8 i),b0 3,(7,.v (.c (.own 1000000 none)))] [(3,[ao c,ao a])] [ay 1000000 3 (.int .i64) d]
def OY (a:List Int):= cQ 23 [(7,.v (.c (.own 1000000 none)))] [] [ay 1000000 3 (.int .i64) a]
def R7 (a:St):Option U:=e9 R5 F R6 [.r,.r,.l,.b,.i] f367 J n a
def aeq:=hf R5 F R6 [.r,.r,.l,.b] f367 kh 2
theorem TH (b i c a:Int)(d:List Int):R7 F J (n+1) (Iz b i c a d)=(JD F0 (c,a) b i).bind fun e=>br (decide (e.1>=0)) (ck (ei F d.length [i].length 8) ((YC F0 (c,a) b i).bind fun f=>R7 F J n (Iz b f.1 c a (d++[i])))) (J (.exit 0) (OY d)):=by kernel_rfl
theorem aoC (a:List Int):aeq F (.exit 0) (OY a)=some (a,()):=by kernel_rfl
def aer (c:D1)(a i:Int):=bj R5 F R6 f367 Qd kh 2 (c,a,i,())
theorem ayB (c:D1)(a i:Int):aer F c a i=R7 F (aeq F) F.n (Iz a i c.1 c.2 []):=by kernel_rfl
def aes:Any:=.one ⟨Qd,kh,2,fun x=>aer F0 x.1 x.2.1 x.2.2.1⟩
theorem ayC:a6 367 aes:=aq R5 ⟨aoB,R4,trivial⟩ func367 R6 (by kernel_rfl)
def IA:=[(32,cw),(68,cM),(366,DN),(367,aes)]
def IB:Nat->Option Hint:=look [(5,{live:=[1,2,3,7,8],xl:=[7],rl:=[6]})]
def qa (b i k c a:Int)(d:List Int):= cQ 38 [(1,a8 b),(2,a8 i),b0 3,(7,.v (.c (.own 1000000 none))),(8,a8 k)] [(3,[ao c,ao a])] [ay 1000000 3 (.int .i64) d]
def Gu (a:List Int):= cQ 38 [(7,.v (.c (.own 1000000 none)))] [] [ay 1000000 3 (.int .i64) a]
def y3 (a:St):Option U:=e9 IA F IB [.r,.r,.r,.l,.r,.b,.i] f344 J n a
def KK:=hf IA F IB [.r,.r,.r,.l,.r,.b] f344 kh 2
theorem y4 (d i k c b:Int)(a:List Int):y3 F J (n+1) (qa d i k c b a)=br (decide (k<c)) ((JD F0 (c,b) d i).bind fun e=>br (decide (e.1>=0)) ((aer F0 (c,b) d k).bind fun f=>(cW F0 f.1 i).bind fun g=>br g.1 (ck (ei F a.length [k].length 8) (y3 F J n (qa d i (aj (k+1)) c b (a++[k])))) (y3 F J n (qa d i (aj (k+1)) c b a))) (J (.exit 0) (Gu a))) (J (.exit 0) (Gu a)):=by kernel_rfl
theorem Qe (a:List Int):KK F (.exit 0) (Gu a)=some (a,()):=by kernel_rfl
def R8 (c:D1)(a i:Int):=bj IA F IB f344 Qd kh 2 (c,a,i,())
theorem asf (c:D1)(a i:Int):R8 F c a i=(dI F0 c).bind fun b=>br (!b.1) (some ([],())) (y3 F (KK F) F.n (qa a i 0 c.1 c.2 [])):=by kernel_rfl
def WE:Any:=.one ⟨Qd,kh,2,fun x=>R8 F0 x.1 x.2.1 x.2.2.1⟩
theorem asg:a6 344 WE:=aq IA ⟨de,dK,R4,ayC,trivial⟩ func344 IB (by kernel_rfl)
def ace (a:Bool):=bj aA F ad f368 aO cE 1 (a,())
theorem ash (a:Bool):ace F a=br a (some (1,())) (some (0,())):=by kernel_rfl
def WG:Any:=.one ⟨aO,cE,1,fun x=>ace F0 x.1⟩
theorem asi:a6 368 WG:=aq aA trivial func368 ad (by kernel_rfl)
def DO:=[(68,cM),(368,WG)]
def DP:Nat->Option Hint:=look [(3,{live:=[0,1,5,6],xl:=[5],rl:=[4]})]
def u2 (a b:List Int)(c i:Int):= bO 23 [(0,hD 3 (.int .i64) a),(1,hD 3 (.int .i64) b),(5,a8 c),(6,a8 i)]
def Qf (a:Int):= bO 23 [(5,a8 a)]
def DQ (a:St):Option U:=e9 DO F DP [.r,.r,.l,.r,.b,.i] f345 J n a
def Gv:=hf DO F DP [.r,.r,.l,.r,.b] f345 cE 1
theorem KL (a b:List Int)(c i:Int):DQ F J (n+1) (u2 a b c i)=br (decide (i<(a.length:Int))) (ck (bG i (a.length:Int)) ((cW F0 b (aK a i 0)).bind fun d=>(ace F0 d.1).bind fun e=>DQ F J n (u2 a b (aj (c+e.1)) (aj (i+1))))) (J (.exit 0) (Qf c)):=by kernel_rfl
theorem aet (a:Int):Gv F (.exit 0) (Qf a)=some (a,()):=by kernel_rfl
def MZ (a b:List Int):=bj DO F DP f345 akQ cE 1 (a,b,())
theorem aoD (a b:List Int):MZ F a b=DQ F (Gv F) F.n (u2 a b 0 0):=by kernel_rfl
def TI:Any:=.one ⟨akQ,cE,1,fun x=>MZ F0 x.1 x.2.1⟩
theorem aoE:a6 345 TI:=aq DO ⟨dK,asi,trivial⟩ func345 DP (by kernel_rfl)
def TJ:=[(125,iZ),(126,pg),(269,mm),(343,TG),(344,WE),(345,TI),(346,WD)]
abbrev atQ:List (Ty×Bool):=[(K1,true),(cd,true),(.int .i64,false),(.str,false),(.bool,false)]
def oQ (c:D1)(r:a1)(a:Int)(name:ByteArray)(b:Bool):=E6 TJ F ad f311 atQ 1 (.own true) gx [] 2 (c,r,a,name,b,())
theorem ahg (c:D1)(r:a1)(a:Int)(name:ByteArray)(h:Bool):oQ F c r a name h=(oM F0 r.2.2.2.2.2.1 a name).bind fun b=>br ((b.1.2.2.length:Int)==0) (some ((r,false,()),())) (br (name.toList==ak.toList) (some ((r,false,()),())) ((me F0 c a).bind fun i=>br (i.1==r.1) ((MY F0 c r b.1).bind fun f=>some ((f.1.1,f.1.2.1,()),())) ((R8 F0 c a r.1).bind fun g=>br (!h) ((MZ F0 g.1 b.1.2.2).bind fun j=>br (decide (j.1<(g.1.length:Int))) (some ((r,false,()),())) ((YC F0 c a r.1).bind fun e=>(fp F0 c r e.1 (2,0,(ak,0,ak,[]),b.1,(0,ak,[]),0,0,0,0,0)).bind fun d=>some ((d.1.1,d.1.2.1,()),()))) ((YC F0 c a r.1).bind fun e=>(fp F0 c r e.1 (2,0,(ak,0,ak,[]),b.1,(0,ak,[]),0,0,0,0,0)).bind fun d=>some ((d.1.1,d.1.2.1,()),()))))):=by kernel_rfl
def pt:Any:=.two ⟨atQ,1,(.own true),gx,2,[],fun x=>oQ F0 x.1 x.2.1 x.2.2.1 x.2.2.2.1 x.2.2.2.2.1⟩
theorem Cv:a6 311 pt:=aBg TJ ⟨nv,Co,u1,aoA,asg,aoE,aoB,trivial⟩ func311 ad (by kernel_rfl)
def aav:=[(64,bX),(79,df),(268,kQ),(311,pt)]
abbrev aGy:List (Ty×Bool):=[(K1,true),(cd,true),(.str,false)]
def nc (c:D1)(r:a1)(name:ByteArray):=E6 aav F ad f308 aGy 1 (.own true) gx [] 2 (c,r,name,())
theorem aoF (c:D1)(r:a1)(name:ByteArray):nc F c r name=(du F0 name).bind fun d=>(fg F0 c r.2.2.2.2.2.1 (d.1,name,[r.1])).bind fun a=>br (!a.2.1) (some ((r,false,()),())) ((ba F0 (r.1,r.2.1,r.2.2.1,r.2.2.2.1,r.2.2.2.2.1,a.1,r.2.2.2.2.2.2)).bind fun e=>(du F0 name).bind fun f=>(oQ F0 c e.1 f.1 name false).bind fun b=>br b.1.2.1 (some ((b.1.1,true,()),())) (some (((r.1,r.2.1,r.2.2.1,r.2.2.2.1,r.2.2.2.2.1,a.1,r.2.2.2.2.2.2),true,()),()))):=by kernel_rfl
def TK:Any:=.two ⟨aGy,1,(.own true),gx,2,[],fun x=>nc F0 x.1 x.2.1 x.2.2.1⟩
theorem aoG:a6 308 TK:=aBg aav ⟨cl,eH,rZ,Cv,trivial⟩ func308 ad (by kernel_rfl)
def Qg:=[(64,bX),(74,cn),(79,df),(199,l1),(304,Ix),(305,Cp),(306,aaq),(307,pr),(308,TK)]
abbrev aDA:List (Ty×Bool):=[(K1,true),(cd,true),(K15,true)]
def qb (c:D1)(r:a1)(b:D15):=bj Qg F ad f263 aDA gx 2 (c,r,b,())
theorem aeu (c:D1)(r:a1)(b:D15):qb F c r b=(ba F0 r).bind fun d=>(dx F0 c r).bind fun k=>br (!k.1) (some (d.1,false,())) ((nr F0 c b).bind fun l=>br (!l.1) (some (d.1,false,())) ((ba F0 r).bind fun f=>(P7 F0 c r.2.2.2.1 b.2).bind fun g=>(du F0 b.1).bind fun h=>br (decide (h.1>=r.2.1)) ((yT F0 c g.1 b).bind fun i=>br (decide (h.1>=r.2.1)) (br i.1 ((P8 F0 c g.1 b).bind fun j=>(eI F0 c (f.1.1,h.1,f.1.2.2) j.1).bind fun a=>br a.2.1 (br i.1 ((nc F0 c a.1 b.1).bind fun e=>br (!e.1.2.1) (some (d.1,false,())) (some (e.1.1,true,()))) (some (a.1,true,()))) (some (d.1,false,()))) ((eI F0 c (f.1.1,h.1,f.1.2.2) g.1).bind fun a=>br a.2.1 (br i.1 ((nc F0 c a.1 b.1).bind fun e=>br (!e.1.2.1) (some (d.1,false,())) (some (e.1.1,true,()))) (some (a.1,true,()))) (some (d.1,false,())))) (br i.1 ((P8 F0 c g.1 b).bind fun j=>(eI F0 c f.1 j.1).bind fun a=>br a.2.1 (br i.1 ((nc F0 c a.1 b.1).bind fun e=>br (!e.1.2.1) (some (d.1,false,())) (some (e.1.1,true,()))) (some (a.1,true,()))) (some (d.1,false,()))) ((eI F0 c f.1 g.1).bind fun a=>br a.2.1 (br i.1 ((nc F0 c a.1 b.1).bind fun e=>br (!e.1.2.1) (some (d.1,false,())) (some (e.1.1,true,()))) (some (a.1,true,()))) (some (d.1,false,()))))) (br (decide (h.1>=r.2.1)) ((eI F0 c (f.1.1,h.1,f.1.2.2) g.1).bind fun a=>br a.2.1 (some (a.1,true,())) (some (d.1,false,()))) ((eI F0 c f.1 g.1).bind fun a=>br a.2.1 (some (a.1,true,())) (some (d.1,false,())))))):=by kernel_rfl
def wb:Any:=.one ⟨aDA,gx,2,fun x=>qb F0 x.1 x.2.1 x.2.2.1⟩
theorem M0:a6 263 wb:=aq Qg ⟨cl,cT,eH,ur,Wz,Tx,avY,Cs,aoG,trivial⟩ func263 ad (by kernel_rfl)
def TL:=[(64,bX),(74,cn),(213,og),(268,kQ),(311,pt)]
def DR (c:D1)(r:a1)(p:D9):=bj TL F ad f296 ajG gx 2 (c,r,p,())
theorem ahh (c:D1)(r:a1)(p:D9):DR F c r p=(ba F0 r).bind fun b=>(dx F0 c r).bind fun f=>br (!f.1) (some (b.1,false,())) ((kK F0 c p).bind fun g=>br (!g.1) (some (b.1,false,())) (br (p.2.1.toList==ak.toList) (some (b.1,false,())) (br (decide (p.1<r.2.1)) (some (b.1,false,())) ((ba F0 r).bind fun a=>(fg F0 c r.2.2.2.2.2.1 p).bind fun d=>br (!d.2.1) (some (b.1,false,())) ((ba F0 (a.1.1,a.1.2.1,a.1.2.2.1,a.1.2.2.2.1,a.1.2.2.2.2.1,d.1,a.1.2.2.2.2.2.2)).bind fun h=>(oQ F0 c h.1 p.1 p.2.1 false).bind fun e=>br e.1.2.1 (some (e.1.1,true,())) (some ((a.1.1,a.1.2.1,a.1.2.2.1,a.1.2.2.2.1,a.1.2.2.2.2.1,d.1,a.1.2.2.2.2.2.2),true,()))))))):=by kernel_rfl
def M1:Any:=.one ⟨ajG,gx,2,fun x=>DR F0 x.1 x.2.1 x.2.2.1⟩
theorem ahi:a6 296 M1:=aq TL ⟨cl,cT,yp,rZ,Cv,trivial⟩ func296 ad (by kernel_rfl)
def TM:=[(64,bX),(66,gM),(71,jP),(73,b7),(74,cn),(125,iZ),(126,pg),(127,uj),(134,gw),(268,kQ),(304,Ix),(307,pr)]
abbrev aDB:List (Ty×Bool):=[(K1,true),(cd,true),(.int .i64,false),(K9,true),(.int .i64,false)]
def DS (c:D1)(r:a1)(a:Int)(q:D9)(cv:Int):=bj TM F ad f297 aDB gx 2 (c,r,a,q,cv,())
theorem ahj (c:D1)(r:a1)(e:Int)(q:D9)(cv:Int):DS F c r e q cv=(ba F0 r).bind fun f=>(dx F0 c r).bind fun h=>br (!h.1) (some (f.1,false,())) ((bM F0 e 1 60).bind fun i=>br (!i.1) (some (f.1,false,())) ((kp F0 c q).bind fun j=>br (!j.1) (some (f.1,false,())) ((bM F0 cv 0 (aj (c.1-1))).bind fun k=>br (!k.1) (some (f.1,false,())) ((ba F0 r).bind fun l=>(P7 F0 c r.2.2.2.1 q).bind fun m=>(eI F0 c l.1 m.1).bind fun a=>br a.2.1 ((me F0 c e).bind fun o=>br (o.1==r.1) (br (decide (e>=r.2.1)) ((fg F0 c a.1.2.2.2.2.2.1 (e,ak,[cv])).bind fun g=>br (!g.2.1) (some (f.1,false,())) ((oM F0 g.1 e ak).bind fun p=>(wO F0 c).bind fun s=>br (decide ((p.1.2.2.length:Int)>=s.1)) ((dJ F0 a.1.2.1 e).bind fun t=>(bJ F0 (aj (q.1+1)) 60).bind fun b=>(dJ F0 t.1 b.1).bind fun d=>some ((a.1.1,d.1,a.1.2.2.1,a.1.2.2.2.1,a.1.2.2.2.2.1,g.1,a.1.2.2.2.2.2.2),true,())) ((bJ F0 (aj (q.1+1)) 60).bind fun b=>(dJ F0 a.1.2.1 b.1).bind fun d=>some ((a.1.1,d.1,a.1.2.2.1,a.1.2.2.2.1,a.1.2.2.2.2.1,g.1,a.1.2.2.2.2.2.2),true,())))) ((bJ F0 (aj (q.1+1)) 60).bind fun b=>(dJ F0 a.1.2.1 b.1).bind fun d=>some ((a.1.1,d.1,a.1.2.2),true,()))) ((bJ F0 (aj (q.1+1)) 60).bind fun b=>(dJ F0 a.1.2.1 b.1).bind fun d=>some ((a.1.1,d.1,a.1.2.2),true,()))) (some (f.1,false,())))))):=by kernel_rfl
def M3:Any:=.one ⟨aDB,gx,2,fun x=>DS F0 x.1 x.2.1 x.2.2.1 x.2.2.2.1 x.2.2.2.2.1⟩
theorem ahk:a6 297 M3:=aq TM ⟨cl,lr,oP,cA,cT,nv,Co,Kh,kJ,rZ,Wz,Cs,trivial⟩ func297 ad (by kernel_rfl)
def y5:=[(142,Gi),(212,yo)]
def y6:Nat->Option Hint:=look [(2,{live:=[0,3,6],xl:=[0,3,6],rl:=[4,5]})]
def r0 (p:List D4)(a x b c d:Int):= cQ 43 [(0,hD 52 (K4) p),b0 3,(6,a8 a)] [(3,[ao x,ao b,ao c,ao d])] []
def pw (p:List D4)(a x b c d:Int):= cQ 43 [(0,hD 52 (K4) p),b0 3,(6,a8 a)] [(3,[ao x,ao b,ao c,ao d])] []
def y7 (a:St):Option U:=e9 y5 F y6 [.r,.r,.l,.b,.i] f336 J n a
def r3:=hf y5 F y6 [.r,.r,.l,.b] f336 V6 2
theorem Hg (p:List D4)(a x b c d:Int):y7 F J (n+1) (r0 p a x b c d)=br (decide (a<(p.length:Int))) (ck (bG a (p.length:Int)) ((tD F0 (aK p a K4.aD) (x,b,c,d)).bind fun e=>br e.1 (y7 F J n (r0 p (aj (a+1)) x b c d)) (J (.exit 0) (pw p a x b c d)))) (J (.exit 0) (pw p a x b c d)):=by kernel_rfl
theorem acf (p:List D4)(a x b c d:Int):r3 F (.exit 0) (pw p a x b c d)=ck (S5 0 a (p.length:Int)) (ck (ei F 0 ((p.take a.toNat).drop (0:Int).toNat).length 32) (ck (ei F ([]++((p.take a.toNat).drop (0:Int).toNat)).length [(x,b,c,d)].length 32) (ck (S5 a (p.length:Int) (p.length:Int)) (ck (ei F (([]++((p.take a.toNat).drop (0:Int).toNat))++[(x,b,c,d)]).length ((p.take (p.length:Int).toNat).drop a.toNat).length 32) ((E7 F0 ((([]++((p.take a.toNat).drop (0:Int).toNat))++[(x,b,c,d)])++((p.take (p.length:Int).toNat).drop a.toNat))).bind fun e=>br (!e.1) (ck (ei F 0 p.length 32) (some ([]++p,false,()))) (some ((([]++((p.take a.toNat).drop (0:Int).toNat))++[(x,b,c,d)])++((p.take (p.length:Int).toNat).drop a.toNat),true,()))))))):=by kernel_rfl
abbrev aDC:List (Ty×Bool):=[(K5,false),(K4,true)]
def IC (p:D5)(x:D4):=bj y5 F y6 f336 aDC V6 2 (p,x,())
theorem als (p:D5)(x:D4):IC F p x=y7 F (r3 F) F.n (r0 p 0 x.1 x.2.1 x.2.2.1 x.2.2.2):=by kernel_rfl
def Qh:Any:=.one ⟨aDC,V6,2,fun x=>IC F0 x.1 x.2.1⟩
theorem alu:a6 336 Qh:=aq y5 ⟨V8,PH,trivial⟩ func336 y6 (by kernel_rfl)
def aaw:=[(64,bX),(74,cn),(336,Qh)]
abbrev aDD:List (Ty×Bool):=[(K1,true),(cd,true),(K4,true)]
def M4 (c:D1)(r:a1)(x:D4):=bj aaw F ad f298 aDD gx 2 (c,r,x,())
theorem aoH (c:D1)(r:a1)(x:D4):M4 F c r x=(ba F0 r).bind fun a=>(dx F0 c r).bind fun d=>br (!d.1) (some (a.1,false,())) ((IC F0 r.2.2.2.2.1 x).bind fun b=>br b.2.1 (some ((a.1.1,a.1.2.1,a.1.2.2.1,a.1.2.2.2.1,b.1,a.1.2.2.2.2.2),b.2.1,())) (some (a.1,b.2.1,()))):=by kernel_rfl
def TN:Any:=.one ⟨aDD,gx,2,fun x=>M4 F0 x.1 x.2.1 x.2.2.1⟩
theorem aoI:a6 298 TN:=aq aaw ⟨cl,cT,alu,trivial⟩ func298 ad (by kernel_rfl)
def WH:=[(263,wb),(296,M1),(297,M3),(298,TN)]
abbrev aax:List (Ty×Bool):=[(K1,true),(cd,true),(K21,true)]
def ID (c:D1)(r:a1)(m:OW):=bj WH F ad f256 aax gx 2 (c,r,m,())
theorem alv (c:D1)(r:a1)(m:OW):ID F c r m=br (m.1==1) ((qb F0 c r m.2.2.1).bind fun a=>some (a.1,a.2.1,())) (br (m.1==2) ((DR F0 c r m.2.2.2.1).bind fun b=>some (b.1,b.2.1,())) (br (m.1==3) ((DS F0 c r m.2.1 m.2.2.2.2.1 m.2.2.2.2.2.1).bind fun d=>some (d.1,d.2.1,())) ((M4 F0 c r m.2.2.2.2.2.2).bind fun e=>some (e.1,e.2.1,())))):=by kernel_rfl
def Qi:Any:=.one ⟨aax,gx,2,fun x=>ID F0 x.1 x.2.1 x.2.2.1⟩
theorem alw:a6 256 Qi:=aq WH ⟨M0,ahi,ahk,aoI,trivial⟩ func256 ad (by kernel_rfl)
def r4:=[(194,jz)]
def r5:Nat->Option Hint:=look [(3,{live:=[0,1,5,6],xl:=[5],rl:=[4]})]
def jQ (a:List D9)(b i:Int)(c:List D9):= cQ 30 [(0,hD 50 (K9) a),(1,a8 b),(5,.v (.c (.own 1000000 none))),(6,a8 i)] [] [ay 1000000 50 K9 c]
def Hh (a:List D9):= cQ 30 [(5,.v (.c (.own 1000000 none)))] [] [ay 1000000 50 K9 a]
def mn (a:St):Option U:=e9 r4 F r5 [.r,.r,.l,.r,.b,.i] f257 J n a
def wc:=hf r4 F r5 [.r,.r,.l,.r,.b] f257 G4 2
theorem BI (a:List D9)(c i:Int)(b:List D9):mn F J (n+1) (jQ a c i b)=br (decide (i<(a.length:Int))) (ck (bG i (a.length:Int)) (br (decide ((aK a i K9.aD).1>=c)) (ck (bG i (a.length:Int)) ((gy F0 (aK a i K9.aD)).bind fun d=>ck (ei F b.length [d.1].length 48) (mn F J n (jQ a c (aj (i+1)) (b++[d.1]))))) (mn F J n (jQ a c (aj (i+1)) b)))) (J (.exit 0) (Hh b)):=by kernel_rfl
theorem WJ (a:List D9):wc F (.exit 0) (Hh a)=some (a,()):=by kernel_rfl
abbrev aDE:List (Ty×Bool):=[(K13,false),(.int .i64,false)]
def y8 (a:D13)(b:Int):=bj r4 F r5 f257 aDE G4 2 (a,b,())
theorem aev (a:D13)(b:Int):y8 F a b=mn F (wc F) F.n (jQ a b 0 []):=by kernel_rfl
def KM:Any:=.one ⟨aDE,G4,2,fun x=>y8 F0 x.1 x.2.1⟩
theorem aew:a6 257 KM:=aq r4 ⟨oj,trivial⟩ func257 r5 (by kernel_rfl)
def aex:=[(74,cn),(128,Gp),(129,v7),(130,Kw)]
def KN (c:D1)(r:a1):=bj aex F ad f259 xt na 2 (c,r,())
theorem asj (c:D1)(r:a1):KN F c r=(dx F0 c r).bind fun a=>br (!a.1) (some (([],[]),())) ((mf F0).bind fun b=>(v8 F0 r.2.2.2.1.2.2.2).bind fun d=>(wS F0 b.1 d.1).bind fun e=>some (e.1,())):=by kernel_rfl
def WK:Any:=.one ⟨xt,na,2,fun x=>KN F0 x.1 x.2.1⟩
theorem asl:a6 259 WK:=aq aex ⟨cT,Wp,MM,aao,trivial⟩ func259 ad (by kernel_rfl)
end
end Go.Am.Tryz
namespace Go.Am.Tryz
open Go.Am Go.Proofs Go.Proofs.Tryz
noncomputable section
variable {U:Type} (F:rz) (J:Ex->St->Option U) (n:Nat)
def u3:=[(197,Ir)]
def u4:Nat->Option Hint:=look [(3,{live:=[0,3,5,6],xl:=[5],rl:=[4]})]
def kR (p:List D4)(i:Int)(l a:List Int)(b:List D4):= cQ 35 [(0,hD 52 (K4) p),b0 3,(5,.v (.c (.own 1000000 none))),(6,a8 i)] [(3,[.ro false 3 (.int .i64) l,.ro false 3 (.int .i64) a])] [ay 1000000 52 K4 b]
def KO (a:List D4):= cQ 35 [(5,.v (.c (.own 1000000 none)))] [] [ay 1000000 52 K4 a]
def oo (a:St):Option U:=e9 u3 F u4 [.r,.r,.l,.r,.b,.i] f258 J n a
def y9:=hf u3 F u4 [.r,.r,.l,.r,.b] f258 kd 2
theorem Fl (p:List D4)(i:Int)(l b:List Int)(a:List D4):oo F J (n+1) (kR p i l b a)=br (decide (i<(p.length:Int))) (ck (bG i (p.length:Int)) ((KA F0 (l,b) (aK p i K4.aD)).bind fun c=>br (c.2.1 != 2) (ck (bG i (p.length:Int)) (ck (ei F a.length [(aK p i K4.aD)].length 32) (oo F J n (kR p (aj (i+1)) l b (a++[(aK p i K4.aD)]))))) (oo F J n (kR p (aj (i+1)) l b a)))) (J (.exit 0) (KO a)):=by kernel_rfl
theorem Zn (a:List D4):y9 F (.exit 0) (KO a)=some (a,()):=by kernel_rfl
def DT (p:D5)(l:D43):=bj u3 F u4 f258 ajz kd 2 (p,l,())
theorem ahl (p:D5)(l:D43):DT F p l=oo F (y9 F) F.n (kR p 0 l.1 l.2 []):=by kernel_rfl
def M5:Any:=.one ⟨ajz,kd,2,fun x=>DT F0 x.1 x.2.1⟩
theorem ahm:a6 258 M5:=aq u3 ⟨Wo,trivial⟩ func258 u4 (by kernel_rfl)
def ajJ:=[(64,bX),(74,cn),(145,jN),(256,Qi),(257,KM),(258,M5),(259,WK)]
def Qj (c:D1)(r:a1)(m:OW):=bj ajJ F ad f202 aax gx 2 (c,r,m,())
theorem av2 (c:D1)(r:a1)(m:OW):Qj F c r m=(dx F0 c r).bind fun e=>br (!e.1) ((ba F0 r).bind fun b=>some (b.1,false,())) ((fm F0 c m).bind fun f=>br (!f.1) ((ba F0 r).bind fun b=>some (b.1,false,())) ((ID F0 c r m).bind fun a=>br (!a.2.1) ((ba F0 r).bind fun g=>some (g.1,false,())) ((y8 F0 a.1.2.2.2.2.2.1 (aj (a.1.2.1-1))).bind fun d=>(KN F0 c (a.1.1,a.1.2.1,a.1.2.2.1,a.1.2.2.2.1,a.1.2.2.2.2.1,d.1,a.1.2.2.2.2.2.2)).bind fun h=>(DT F0 a.1.2.2.2.2.1 h.1).bind fun i=>some ((a.1.1,a.1.2.1,a.1.2.2.1,a.1.2.2.2.1,i.1,d.1,a.1.2.2.2.2.2.2),true,())))):=by kernel_rfl
def OZ:Any:=.one ⟨aax,gx,2,fun x=>Qj F0 x.1 x.2.1 x.2.2.1⟩
theorem aey:a6 202 OZ:=aq ajJ ⟨cl,cT,oL,alw,aew,ahm,asl,trivial⟩ func202 ad (by kernel_rfl)
def aay:=[(68,cM),(73,b7),(77,Kr),(202,OZ)]
def wW (w:ko)(d:D45):Option (ko×Int×ko):=arK Tryz.prog (look aay) F ad f137 [(hz,true),(K45,true)] 0 (hz,true) (.int .i64,false) (hz,true) (w,d,())
theorem aoJ (w:ko)(d:D45):wW F w d=(bM F0 d.2.1 0 (aj ((w.2.2.2.1.length:Int)-1))).bind fun b=>br (!b.1) (some (hz.aD,2,w)) (ck (bG d.2.1 (w.2.2.2.1.length:Int)) (br (d.1==5) (br (decide ((w.2.2.2.1.length:Int)>=60)) (some (hz.aD,4,w)) (ck (ei F 0 (aK w.2.2.2.1 d.2.1 (0,[])).2.length 1) (ck (ei F w.2.2.2.1.length [((aK w.2.2.2.1 d.2.1 (0,[])).1,[]++(aK w.2.2.2.1 d.2.1 (0,[])).2)].length 32) (some ((w.1,w.2.1,w.2.2.1,w.2.2.2.1++[((aK w.2.2.2.1 d.2.1 (0,[])).1,[]++(aK w.2.2.2.1 d.2.1 (0,[])).2)],w.2.2.2.2),0,hz.aD))))) (ck (okT d.2.1 (w.2.2.2.1.length:Int)) (ck (S5 (aj (d.2.1+1)) (w.2.2.2.1.length:Int) (w.2.2.2.1.length:Int)) (ck (ei F 0 (w.2.2.2.1.take d.2.1.toNat).length 32) (ck (ei F ([]++(w.2.2.2.1.take d.2.1.toNat)).length ((w.2.2.2.1.take (w.2.2.2.1.length:Int).toNat).drop (aj (d.2.1+1)).toNat).length 32) (br (d.1==3) ((cW F0 w.2.1 (aK w.2.2.2.1 d.2.1 (0,[])).1).bind fun c=>br (!c.1) ((Kq F0 w.1 (aK w.2.2.2.1 d.2.1 (0,[])).2).bind fun e=>ck (bG (aK w.2.2.2.1 d.2.1 (0,[])).1 (w.2.2.1.length:Int)) ((Qj F0 w.1 (aK w.2.2.1 (aK w.2.2.2.1 d.2.1 (0,[])).1 cd.aD) e.1).bind fun a=>br a.2.1 (ck (bG (aK w.2.2.2.1 d.2.1 (0,[])).1 (w.2.2.1.length:Int)) (some ((w.1,w.2.1,w.2.2.1.set (aK w.2.2.2.1 d.2.1 (0,[])).1.toNat a.1,([]++(w.2.2.2.1.take d.2.1.toNat))++((w.2.2.2.1.take (w.2.2.2.1.length:Int).toNat).drop (aj (d.2.1+1)).toNat),w.2.2.2.2),0,hz.aD))) (some ((w.1,w.2.1,w.2.2.1,([]++(w.2.2.2.1.take d.2.1.toNat))++((w.2.2.2.1.take (w.2.2.2.1.length:Int).toNat).drop (aj (d.2.1+1)).toNat),w.2.2.2.2),0,hz.aD)))) (some ((w.1,w.2.1,w.2.2.1,([]++(w.2.2.2.1.take d.2.1.toNat))++((w.2.2.2.1.take (w.2.2.2.1.length:Int).toNat).drop (aj (d.2.1+1)).toNat),w.2.2.2.2),0,hz.aD))) (some ((w.1,w.2.1,w.2.2.1,([]++(w.2.2.2.1.take d.2.1.toNat))++((w.2.2.2.1.take (w.2.2.2.1.length:Int).toNat).drop (aj (d.2.1+1)).toNat),w.2.2.2.2),0,hz.aD))))))))):=by kernel_rfl
def TO:Any:=.sel ⟨[(hz,true),(K45,true)],0,(hz,true),(.int .i64,false),(hz,true),fun x=>wW F0 x.1 x.2.1⟩
theorem aoK:a6 137 TO:=ok4 (show x8 Tryz.prog TB aay from⟨dK,cA,aal,aey,trivial⟩) func137 (by kernel_rfl) (by kernel_rfl) ad (by kernel_rfl) (by kernel_rfl)
def DU:Nat->Option Hint:=look [(2,{live:=[0,1,2,3,9],rl:=[8]})]
def kr (a:List bE)(b:Int)(name:ByteArray)(cv i:Int):= bO 41 [(0,hD 41 (cz) a),(1,a8 b),(2,ZY name),(3,a8 cv),(9,a8 i)]
def TP (a:Bool):= bO 41 [(8,H0 a)]
def Qk   := bO 41 []
def oR (a:St):Option U:=e9 aA F DU [.r,.l,.r,.b,.i] f299 J n a
def u5:=hf aA F DU [.r,.l,.r,.b] f299 aO 1
theorem KP (a:List bE)(b:Int)(name:ByteArray)(cv i:Int):oR F J (n+1) (kr a b name cv i)=br (decide (i<(a.length:Int))) (ck (bG i (a.length:Int)) (br ((aK a i cz.aD).1==b) (ck (bG i (a.length:Int)) (br ((aK a i cz.aD).2.1.toList==name.toList) (ck (bG i (a.length:Int)) (br ((aK a i cz.aD).2.2==cv) (J .ret (TP true)) (oR F J n (kr a b name cv (aj (i+1)))))) (oR F J n (kr a b name cv (aj (i+1)))))) (oR F J n (kr a b name cv (aj (i+1)))))) (J (.exit 0) (Qk)):=by kernel_rfl
theorem ahn (a:Bool):u5 F .ret (TP a)=some (a,()):=by kernel_rfl
theorem aez: u5 F (.exit 0) (Qk)=some (false,()):=by kernel_rfl
abbrev aJP:List (Ty×Bool):=[(K38,false),(.int .i64,false),(.str,false),(.int .i64,false)]
def Fm (a:D38)(b:Int)(name:ByteArray)(cv:Int):=bj aA F DU f299 aJP aO 1 (a,b,name,cv,())
theorem aoL (a:D38)(b:Int)(name:ByteArray)(cv:Int):Fm F a b name cv=oR F (u5 F) F.n (kr a b name cv 0):=by kernel_rfl
def Gw:Any:=.one ⟨aJP,aO,1,fun x=>Fm F0 x.1 x.2.1 x.2.2.1 x.2.2.2.1⟩
theorem WL:a6 299 Gw:=aq aA trivial func299 DU (by kernel_rfl)
def DV:=[(68,cM),(299,Gw)]
def DW:Nat->Option Hint:=look [(2,{live:=[0,1,2,3,4,11],rl:=[10]})]
def oq (liars:List Int)(a:List bE)(b:Int)(name:ByteArray)(cv:List Int)(i:Int):= bO 36 [(0,hD 3 (.int .i64) liars),(1,hD 41 (cz) a),(2,a8 b),(3,ZY name),(4,hD 3 (.int .i64) cv),(11,a8 i)]
def TQ (a:Bool):= bO 36 [(10,H0 a)]
def Ql   := bO 36 []
def tJ (a:St):Option U:=e9 DV F DW [.r,.l,.r,.b,.i] f260 J n a
def u6:=hf DV F DW [.r,.l,.r,.b] f260 aO 1
theorem KQ (liars:List Int)(a:List bE)(b:Int)(name:ByteArray)(cv:List Int)(i:Int):tJ F J (n+1) (oq liars a b name cv i)=br (decide (i<(cv.length:Int))) (ck (bG i (cv.length:Int)) ((cW F0 liars (aK cv i 0)).bind fun c=>br (!c.1) (ck (bG i (cv.length:Int)) ((Fm F0 a b name (aK cv i 0)).bind fun d=>br (!d.1) (J .ret (TQ false)) (tJ F J n (oq liars a b name cv (aj (i+1)))))) (tJ F J n (oq liars a b name cv (aj (i+1)))))) (J (.exit 0) (Ql)):=by kernel_rfl
theorem aho (a:Bool):u6 F .ret (TQ a)=some (a,()):=by kernel_rfl
theorem aeA: u6 F (.exit 0) (Ql)=some (true,()):=by kernel_rfl
abbrev aDF:List (Ty×Bool):=[(.sl 3 (.int .i64),false),(K38,false),(.int .i64,false),(.str,false),(.sl 3 (.int .i64),false)]
def wX (liars:List Int)(a:D38)(b:Int)(name:ByteArray)(cv:List Int):=bj DV F DW f260 aDF aO 1 (liars,a,b,name,cv,())
theorem aoM (liars:List Int)(a:D38)(b:Int)(name:ByteArray)(cv:List Int):wX F liars a b name cv=tJ F (u6 F) F.n (oq liars a b name cv 0):=by kernel_rfl
def TR:Any:=.one ⟨aDF,aO,1,fun x=>wX F0 x.1 x.2.1 x.2.2.1 x.2.2.2.1 x.2.2.2.2.1⟩
theorem aoN:a6 260 TR:=aq DV ⟨dK,WL,trivial⟩ func260 DW (by kernel_rfl)
def aaz:=[(68,cM),(79,df),(125,iZ),(145,jN),(260,TR)]
abbrev aDG:List (Ty×Bool):=[(K1,true),(.sl 3 (.int .i64),false),(K38,false),(K21,true)]
def M6 (c:D1)(liars:List Int)(a:D38)(m:OW):=bj aaz F ad f203 aDG aO 1 (c,liars,a,m,())
theorem aoO (c:D1)(liars:List Int)(a:D38)(m:OW):M6 F c liars a m=(fm F0 c m).bind fun b=>br (!b.1) (some (false,())) (br (m.1==1) ((du F0 m.2.2.1.1).bind fun d=>(me F0 c d.1).bind fun e=>(cW F0 liars e.1).bind fun f=>br f.1 ((wX F0 liars a m.2.2.1.2.1 m.2.2.1.2.2.1 m.2.2.1.2.2.2).bind fun g=>some (g.1,())) (some (false,()))) (br (m.1==2) ((wX F0 liars a m.2.2.2.1.1 m.2.2.2.1.2.1 m.2.2.2.1.2.2).bind fun h=>some (h.1,())) (br (m.1==3) ((cW F0 liars m.2.2.2.2.2.1).bind fun i=>br i.1 ((wX F0 liars a m.2.2.2.2.1.1 m.2.2.2.2.1.2.1 m.2.2.2.2.1.2.2).bind fun j=>some (j.1,())) (some (false,()))) (some (true,()))))):=by kernel_rfl
def TS:Any:=.one ⟨aDG,aO,1,fun x=>M6 F0 x.1 x.2.1 x.2.2.1 x.2.2.2.1⟩
theorem aoP:a6 203 TS:=aq aaz ⟨dK,eH,nv,oL,aoN,trivial⟩ func203 ad (by kernel_rfl)
def za:=[(300,ib)]
def zb:Nat->Option Hint:=look [(3,{live:=[0,3,4],xl:=[3],rl:=[2]})]
def r6 (a:List Int)(i:Int)(b:List Int):= cQ 20 [(0,hD 3 (.int .i64) a),(3,.v (.c (.own 1000000 none))),(4,a8 i)] [] [ay 1000000 5 (.int .u8) b]
def M7 (a:List Int):= cQ 20 [(3,.v (.c (.own 1000000 none)))] [] [ay 1000000 5 (.int .u8) a]
def zs (a:St):Option U:=e9 za F zb [.r,.r,.l,.r,.b,.i] f303 J n a
def Cw:=hf za F zb [.r,.r,.l,.r,.b] f303 lW 2
theorem Hi (a:List Int)(i:Int)(b:List Int):zs F J (n+1) (r6 a i b)=br (decide (i<(a.length:Int))) (ck (bG i (a.length:Int)) ((eo F0 (aK a i 0)).bind fun c=>ck (ei F b.length c.1.length 1) (zs F J n (r6 a (aj (i+1)) (b++c.1))))) (J (.exit 0) (M7 b)):=by kernel_rfl
theorem acg (a:List Int):Cw F (.exit 0) (M7 a)=some (a,()):=by kernel_rfl
def r7 (a:List Int):=bj za F zb f303 kh lW 2 (a,())
theorem alx (a:List Int):r7 F a=zs F (Cw F) F.n (r6 a 0 []):=by kernel_rfl
def Qm:Any:=.one ⟨kh,lW,2,fun x=>r7 F0 x.1⟩
theorem aly:a6 303 Qm:=aq za ⟨mi,trivial⟩ func303 zb (by kernel_rfl)
def TT:=[(145,jN),(300,ib),(301,rU),(302,Cr),(303,Qm)]
def DX (c:D1)(m:OW):=bj TT F ad f261 aju lW 2 (c,m,())
theorem ahp (c:D1)(m:OW):DX F c m=(fm F0 c m).bind fun l=>br (!l.1) (some ([],())) ((eo F0 m.1).bind fun a=>br (m.1==1) ((nx F0 m.2.2.1.1).bind fun e=>ck (ei F a.1.length e.1.length 1) ((rW F0 c m.2.2.1.2).bind fun h=>ck (ei F (a.1++e.1).length h.1.length 1) (some ((a.1++e.1)++h.1,())))) (br (m.1==2) ((eo F0 m.2.2.2.1.1).bind fun b=>ck (ei F a.1.length b.1.length 1) ((nx F0 m.2.2.2.1.2.1).bind fun d=>ck (ei F (a.1++b.1).length d.1.length 1) ((eo F0 (m.2.2.2.1.2.2.length:Int)).bind fun f=>ck (ei F ((a.1++b.1)++d.1).length f.1.length 1) ((r7 F0 m.2.2.2.1.2.2).bind fun i=>ck (ei F (((a.1++b.1)++d.1)++f.1).length i.1.length 1) (some ((((a.1++b.1)++d.1)++f.1)++i.1,())))))) (br (m.1==3) ((r7 F0 [m.2.1,m.2.2.2.2.2.1]).bind fun g=>ck (ei F a.1.length g.1.length 1) ((rW F0 c m.2.2.2.2.1).bind fun j=>ck (ei F (a.1++g.1).length j.1.length 1) (some ((a.1++g.1)++j.1,())))) ((r7 F0 [m.2.2.2.2.2.2.1,m.2.2.2.2.2.2.2.1,m.2.2.2.2.2.2.2.2.1,m.2.2.2.2.2.2.2.2.2]).bind fun k=>ck (ei F a.1.length k.1.length 1) (some (a.1++k.1,())))))):=by kernel_rfl
def M8:Any:=.one ⟨aju,lW,2,fun x=>DX F0 x.1 x.2.1⟩
theorem ahq:a6 261 M8:=aq TT ⟨oL,mi,Gt,TA,aly,trivial⟩ func261 ad (by kernel_rfl)
def zv:=[(73,b7),(261,M8)]
def zJ:Nat->Option Hint:=look [(2,{live:=[1,2,4,5],aJV:=true,x3:=[(4,2,3,.int .i64),(4,3,65,cd),(4,4,105,eh),(4,5,41,cz)],xl:=[2,4],rl:=[4]})]
def ga (j:List ll)(i w a k l:Int)(m:List Int)(b:List a1)(c:List bS)(d:List bE)(e:List Int)(f:List a1)(g:List bS)(h:List bE):St:={nt:=55,tm:=[(1,hD 136 (pS) j),b0 2,b0 4,(5,a8 i)],bx:=[(2,[ao w,ao a,.own 1000000 none,.own 1000001 none,.own 1000002 none,.own 1000003 none]),(4,[ao k,ao l,.own 1000004 none,.own 1000005 none,.own 1000006 none,.own 1000007 none])],bl:=[ay 1000000 3 (.int .i64) m,ay 1000001 65 cd b,ay 1000002 105 eh c,ay 1000003 41 cz d,ay 1000004 3 (.int .i64) e,ay 1000005 65 cd f,ay 1000006 105 eh g,ay 1000007 41 cz h],sp:=.v (.c (.none))}
def M9 (w a i j:Int)(k:List Int)(b:List a1)(c:List bS)(d:List bE)(e:List Int)(f:List a1)(g:List bS)(h:List bE):St:={nt:=55,tm:=[b0 2,b0 4],bx:=[(2,[ao w,ao a,.own 1000000 none,.own 1000001 none,.own 1000002 none,.own 1000003 none]),(4,[ao i,ao j,.own 1000004 none,.own 1000005 none,.own 1000006 none,.own 1000007 none])],bl:=[ay 1000000 3 (.int .i64) k,ay 1000001 65 cd b,ay 1000002 105 eh c,ay 1000003 41 cz d,ay 1000004 3 (.int .i64) e,ay 1000005 65 cd f,ay 1000006 105 eh g,ay 1000007 41 cz h],sp:=.v (.c (.none))}
def jR (a:St):Option U:=e9 zv F zJ [.r,.l,.r,.b,.i] f204 J n a
def Cx:=ayu zv F zJ [.r,.l,.r,.b] f204 (.own true) ix [] 2
theorem Hj (a:List ll)(i w c k l:Int)(m:List Int)(d:List a1)(b:List bS)(e:List bE)(f:List Int)(g:List a1)(h:List bS)(j:List bE):jR F J (n+1) (ga a i w c k l m d b e f g h j)=br (decide (i<(a.length:Int))) (ck (bG i (a.length:Int)) ((DX F0 (w,c) (aK a i pS.aD).2).bind fun o=>br (decide ((b.length:Int)<60)) (br (decide ((o.1.length:Int)>0)) (ck (bG i (a.length:Int)) ((bM F0 (aK a i pS.aD).1 0 (aj (w-1))).bind fun p=>br p.1 (ck (bG i (a.length:Int)) (ck (ei F b.length [((aK a i pS.aD).1,o.1)].length 32) (jR F J n (ga a (aj (i+1)) w c k l m d (b++[((aK a i pS.aD).1,o.1)]) e f g h j)))) (jR F J n (ga a (aj (i+1)) w c k l m d b e f g h j)))) (jR F J n (ga a (aj (i+1)) w c k l m d b e f g h j))) (jR F J n (ga a (aj (i+1)) w c k l m d b e f g h j)))) (J (.exit 0) (M9 w c k l m d b e f g h j)):=by kernel_rfl
theorem ach (w a j k:Int)(e:List Int)(b:List a1)(c:List bS)(d:List bE)(f:List Int)(g:List a1)(h:List bS)(i:List bE):Cx F (.exit 0) (M9 w a j k e b c d f g h i)=some ((((w,a),e,b,c,d),()),()):=by kernel_rfl
abbrev aDH:List (Ty×Bool):=[(hz,true),(K23,false)]
def zU (w:ko)(a:D23):=E6 zv F zJ f204 aDH 0 (.own true) ix [] 2 (w,a,())
theorem alz (w:ko)(a:D23):zU F w a=jR F (Cx F) F.n (ga a 0 w.1.1 w.1.2 0 0 w.2.1 w.2.2.1 w.2.2.2.1 w.2.2.2.2 [] [] [] []):=by kernel_rfl
def Cy:Any:=.two ⟨aDH,0,(.own true),ix,2,[],fun x=>zU F0 x.1 x.2.1⟩
theorem TU:a6 204 Cy:=aBg zv ⟨cA,ahq,trivial⟩ func204 zJ (by kernel_rfl)
def aaA:=[(73,b7),(203,TS),(204,Cy)]
def Na (w:ko)(d:D45):Option (ko×Int×ko):=arK Tryz.prog (look aaA) F ad f138 [(hz,true),(K45,true)] 0 (hz,true) (.int .i64,false) (hz,true) (w,d,())
theorem aoQ (w:ko)(d:D45):Na F w d=(bM F0 d.2.1 0 (aj (w.1.1-1))).bind fun a=>br (!a.1) (some (hz.aD,2,w)) ((M6 F0 w.1 w.2.1 w.2.2.2.2 d.2.2.2).bind fun b=>br (!b.1) (some (hz.aD,5,w)) (br (decide ((w.2.2.2.1.length:Int)>=60)) (some (hz.aD,4,w)) ((zU F0 w [(d.2.1,d.2.2.2)]).bind fun c=>some (c.1.1,0,hz.aD)))):=by kernel_rfl
def TV:Any:=.sel ⟨[(hz,true),(K45,true)],0,(hz,true),(.int .i64,false),(hz,true),fun x=>Na F0 x.1 x.2.1⟩
theorem aoR:a6 138 TV:=ok4 (show x8 Tryz.prog TB aaA from⟨cA,aoP,TU,trivial⟩) func138 (by kernel_rfl) (by kernel_rfl) ad (by kernel_rfl) (by kernel_rfl)
def DY:=[(68,cM)]
def DZ:Nat->Option Hint:=look [(3,{live:=[1,3,4],xl:=[3],rl:=[2]})]
def ks (i w a:Int)(b:List Int)(c:List a1)(d:List bS)(e:List bE)(f:List Int):= cQ 23 [b0 1,(3,.v (.c (.own 1000000 none))),(4,a8 i)] [(1,[ao w,ao a,.ro false 3 (.int .i64) b,.ro false 65 (cd) c,.ro false 105 (eh) d,.ro false 41 (cz) e])] [ay 1000000 3 (.int .i64) f]
def Qn (a:List Int):= cQ 23 [(3,.v (.c (.own 1000000 none)))] [] [ay 1000000 3 (.int .i64) a]
def oS (a:St):Option U:=e9 DY F DZ [.r,.r,.l,.r,.b,.i] f139 J n a
def u7:=hf DY F DZ [.r,.r,.l,.r,.b] f139 kh 2
theorem KR (i w d:Int)(b:List Int)(c:List a1)(e:List bS)(f:List bE)(a:List Int):oS F J (n+1) (ks i w d b c e f a)=br (decide (i<(c.length:Int))) ((cW F0 b i).bind fun g=>br (!g.1) (ck (ei F a.length [i].length 8) (oS F J n (ks (aj (i+1)) w d b c e f (a++[i])))) (oS F J n (ks (aj (i+1)) w d b c e f a))) (J (.exit 0) (Qn a)):=by kernel_rfl
theorem aeB (a:List Int):u7 F (.exit 0) (Qn a)=some (a,()):=by kernel_rfl
def Fo (w:ko):=bj DY F DZ f139 ix kh 2 (w,())
theorem aoS (w:ko):Fo F w=oS F (u7 F) F.n (ks 0 w.1.1 w.1.2 w.2.1 w.2.2.1 w.2.2.2.1 w.2.2.2.2 []):=by kernel_rfl
def Gx:Any:=.one ⟨ix,kh,2,fun x=>Fo F0 x.1⟩
theorem WM:a6 139 Gx:=aq DY ⟨dK,trivial⟩ func139 DZ (by kernel_rfl)
def zV:=[(64,bX),(74,cn),(269,mm)]
def z1:Nat->Option Hint:=look [(5,{live:=[3,4,5,6,8,9],x3:=[(6,7,3,.int .i64),(6,9,52,K4),(6,10,50,K9),(6,11,5,.int .u8),(6,13,136,pS)],xl:=[6,8],rl:=[6,7]})]
def mo (i c a r b d e f g:Int)(h:ByteArray)(j:List Int)(k:ByteArray)(l:List D4)(o:List D9)(p:List Int)(q:Int)(s:List ll)(m M:Int)(m2:ByteArray)(N:Int)(O:ByteArray)(P:List Int)(Q:Int)(R:ByteArray)(S:List Int)(T:Int)(W:ByteArray)(X:List Int)(Y Z qd qe qf qg qh qi qj qk ql:Int)(qm qn:ByteArray)(qo qp t u v w x:Int)(y z:ByteArray)(A:Int)(qq:List Int)(B:List D4)(C:List D9)(D:List Int)(E:List ll)(G:List Int)(H:List D4)(I:List D9)(K:List Int)(L:List ll):= cQ 43 [b0 3,b0 4,b0 5,b0 6,b0 8,(9,a8 i)] [(3,[ao c,ao a]),(4,[ao r,ao b,ao d,ao e,ao f,ao g,.str h,.ro false 3 (.int .i64) j,.str k,.ro false 52 (K4) l,.ro false 50 (K9) o,.ro false 5 (.int .u8) p,ao q,.ro false 136 (pS) s]),(5,[ao m,ao M,.str m2,ao N,.str O,.ro false 3 (.int .i64) P,ao Q,.str R,.ro false 3 (.int .i64) S,ao T,.str W,.ro false 3 (.int .i64) X,ao Y,ao Z,ao qd,ao qe,ao qf]),(6,[ao qg,ao qh,ao qi,ao qj,ao qk,ao ql,.str qm,.own 1000000 none,.str qn,.own 1000001 none,.own 1000002 none,.own 1000003 none,ao qo,.own 1000004 none]),(8,[ao qp,ao t,ao u,ao v,ao w,ao x,.str y,.own 1000005 none,.str z,.own 1000006 none,.own 1000007 none,.own 1000008 none,ao A,.own 1000009 none])] [ay 1000000 3 (.int .i64) qq,ay 1000001 52 K4 B,ay 1000002 50 K9 C,ay 1000003 5 (.int .u8) D,ay 1000004 136 pS E,ay 1000005 3 (.int .i64) G,ay 1000006 52 K4 H,ay 1000007 50 K9 I,ay 1000008 5 (.int .u8) K,ay 1000009 136 pS L]
def Qo (e:Bool)(f g h i j k:Int)(l m:ByteArray)(o:Int)(p:List Int)(a:List D4)(b:List D9)(c:List Int)(d:List ll):= cQ 43 [b0 6,(7,H0 e)] [(6,[ao f,ao g,ao h,ao i,ao j,ao k,.str l,.own 1000000 none,.str m,.own 1000001 none,.own 1000002 none,.own 1000003 none,ao o,.own 1000004 none])] [ay 1000000 3 (.int .i64) p,ay 1000001 52 K4 a,ay 1000002 50 K9 b,ay 1000003 5 (.int .u8) c,ay 1000004 136 pS d]
def Nb (s t u v w x:Int)(y z:ByteArray)(A B a b c d e:Int)(f g:ByteArray)(h:Int)(C:List Int)(i:List D4)(j:List D9)(k:List Int)(l:List ll)(m:List Int)(o:List D4)(p:List D9)(q:List Int)(r:List ll):= cQ 43 [b0 6,b0 8] [(6,[ao s,ao t,ao u,ao v,ao w,ao x,.str y,.own 1000000 none,.str z,.own 1000001 none,.own 1000002 none,.own 1000003 none,ao A,.own 1000004 none]),(8,[ao B,ao a,ao b,ao c,ao d,ao e,.str f,.own 1000005 none,.str g,.own 1000006 none,.own 1000007 none,.own 1000008 none,ao h,.own 1000009 none])] [ay 1000000 3 (.int .i64) C,ay 1000001 52 K4 i,ay 1000002 50 K9 j,ay 1000003 5 (.int .u8) k,ay 1000004 136 pS l,ay 1000005 3 (.int .i64) m,ay 1000006 52 K4 o,ay 1000007 50 K9 p,ay 1000008 5 (.int .u8) q,ay 1000009 136 pS r]
def qc (a:St):Option U:=e9 zV F z1 [.r,.r,.r,.l,.r,.b,.i] f262 J n a
def r8:=hf zV F z1 [.r,.r,.r,.l,.r,.b] f262 gx 2
theorem Hk (i c d r e f g h j:Int)(k:ByteArray)(l:List Int)(o:ByteArray)(p:List D4)(q:List D9)(s:List Int)(t:Int)(u:List ll)(m O:Int)(m2:ByteArray)(P:Int)(Q:ByteArray)(R:List Int)(S:Int)(T:ByteArray)(W:List Int)(X:Int)(Y:ByteArray)(Z:List Int)(qd qe qf qg qh qi qj qk ql qm qn:Int)(qo qp:ByteArray)(qq qt v w x y z:Int)(A B:ByteArray)(C:Int)(qu:List Int)(D:List D4)(E:List D9)(G:List Int)(H:List ll)(I:List Int)(K:List D4)(L:List D9)(M:List Int)(N:List ll):qc F J (n+1) (mo i c d r e f g h j k l o p q s t u m O m2 P Q R S T W X Y Z qd qe qf qg qh qi qj qk ql qm qn qo qp qq qt v w x y z A B C qu D E G H I K L M N)=br (decide (i<c)) (br (i==r) (qc F J n (mo (aj (i+1)) c d r e f g h j k l o p q s t u m O m2 P Q R S T W X Y Z qd qe qf qg qh qi qj qk ql qm qn qo qp qq qt v w x y z A B C qu D E G H I K L M N)) ((fp F0 (c,d) (qt,v,w,(x,y,(z,A,I),B),K,L,(M,C),N) i (m,O,(m2,P,Q,R),(S,T,W),(X,Y,Z),qd,qe,qf,qg,qh)).bind fun a=>br (!a.1.2.1) ((ba F0 (r,e,f,(g,h,(j,k,l),o),p,q,(s,t),u)).bind fun b=>J .ret (Qo false b.1.1 b.1.2.1 b.1.2.2.1 b.1.2.2.2.1.1 b.1.2.2.2.1.2.1 b.1.2.2.2.1.2.2.1.1 b.1.2.2.2.1.2.2.1.2.1 b.1.2.2.2.1.2.2.2 b.1.2.2.2.2.2.2.1.2 b.1.2.2.2.1.2.2.1.2.2 b.1.2.2.2.2.1 b.1.2.2.2.2.2.1 b.1.2.2.2.2.2.2.1.1 b.1.2.2.2.2.2.2.2)) (qc F J n (mo (aj (i+1)) c d r e f g h j k l o p q s t u m O m2 P Q R S T W X Y Z qd qe qf qg qh qi qj qk ql qm qn qo qp qq a.1.1.1 a.1.1.2.1 a.1.1.2.2.1 a.1.1.2.2.2.1.1 a.1.1.2.2.2.1.2.1 a.1.1.2.2.2.1.2.2.1.1 a.1.1.2.2.2.1.2.2.1.2.1 a.1.1.2.2.2.1.2.2.2 a.1.1.2.2.2.2.2.2.1.2 qu D E G H a.1.1.2.2.2.1.2.2.1.2.2 a.1.1.2.2.2.2.1 a.1.1.2.2.2.2.2.1 a.1.1.2.2.2.2.2.2.1.1 a.1.1.2.2.2.2.2.2.2)))) (J (.exit 0) (Nb qi qj qk ql qm qn qo qp qq qt v w x y z A B C qu D E G H I K L M N)):=by kernel_rfl
theorem aeC (e:Bool)(f g h i j k:Int)(l m:ByteArray)(o:Int)(p:List Int)(a:List D4)(b:List D9)(c:List Int)(d:List ll):r8 F .ret (Qo e f g h i j k l m o p a b c d)=some ((f,g,h,(i,j,(k,l,p),m),a,b,(c,o),d),e,()):=by kernel_rfl
theorem aci (t u v w x y:Int)(z A:ByteArray)(B o a b c d e:Int)(f g:ByteArray)(h:Int)(C:List Int)(p:List D4)(q:List D9)(r:List Int)(s:List ll)(i:List Int)(j:List D4)(k:List D9)(l:List Int)(m:List ll):r8 F (.exit 0) (Nb t u v w x y z A B o a b c d e f g h C p q r s i j k l m)=some ((o,a,b,(c,d,(e,f,i),g),j,k,(l,h),m),true,()):=by kernel_rfl
def z6 (c:D1)(r:a1)(m:OW):=bj zV F z1 f262 aax gx 2 (c,r,m,())
theorem alA (c:D1)(r:a1)(m:OW):z6 F c r m=(ba F0 r).bind fun a=>(dx F0 c r).bind fun b=>br (!b.1) (some (a.1,false,())) (qc F (r8 F) F.n (mo 0 c.1 c.2 r.1 r.2.1 r.2.2.1 r.2.2.2.1.1 r.2.2.2.1.2.1 r.2.2.2.1.2.2.1.1 r.2.2.2.1.2.2.1.2.1 r.2.2.2.1.2.2.1.2.2 r.2.2.2.1.2.2.2 r.2.2.2.2.1 r.2.2.2.2.2.1 r.2.2.2.2.2.2.1.1 r.2.2.2.2.2.2.1.2 r.2.2.2.2.2.2.2 m.1 m.2.1 m.2.2.1.1 m.2.2.1.2.1 m.2.2.1.2.2.1 m.2.2.1.2.2.2 m.2.2.2.1.1 m.2.2.2.1.2.1 m.2.2.2.1.2.2 m.2.2.2.2.1.1 m.2.2.2.2.1.2.1 m.2.2.2.2.1.2.2 m.2.2.2.2.2.1 m.2.2.2.2.2.2.1 m.2.2.2.2.2.2.2.1 m.2.2.2.2.2.2.2.2.1 m.2.2.2.2.2.2.2.2.2 0 0 0 0 0 0 ak ak 0 a.1.1 a.1.2.1 a.1.2.2.1 a.1.2.2.2.1.1 a.1.2.2.2.1.2.1 a.1.2.2.2.1.2.2.1.1 a.1.2.2.2.1.2.2.1.2.1 a.1.2.2.2.1.2.2.2 a.1.2.2.2.2.2.2.1.2 [] [] [] [] [] a.1.2.2.2.1.2.2.1.2.2 a.1.2.2.2.2.1 a.1.2.2.2.2.2.1 a.1.2.2.2.2.2.2.1.1 a.1.2.2.2.2.2.2.2)):=by kernel_rfl
def Qp:Any:=.one ⟨aax,gx,2,fun x=>z6 F0 x.1 x.2.1 x.2.2.1⟩
theorem alB:a6 262 Qp:=aq zV ⟨cl,cT,u1,trivial⟩ func262 z1 (by kernel_rfl)
def aaB:=[(64,bX),(67,R1),(262,Qp),(263,wb)]
def Nc (w:ko)(a:Int):Option (ko×Int×ko):=arK Tryz.prog (look aaB) F ad f205 [(hz,true),(.int .i64,false)] 0 (hz,true) (.int .i64,false) (hz,true) (w,a,())
theorem aoT (w:ko)(a:Int):Nc F w a=ck (bG a (w.2.2.1.length:Int)) ((Ws F0 w.1 (aK w.2.2.1 a cd.aD)).bind fun c=>br (!c.2.1) (some (hz.aD,3,w)) (ck (bG a (w.2.2.1.length:Int)) ((ba F0 (aK w.2.2.1 a cd.aD)).bind fun b=>(z6 F0 w.1 (b.1.1,b.1.2.1,b.1.2.1,b.1.2.2.2) (1,0,c.1,(0,ak,[]),(0,ak,[]),0,0,0,0,0)).bind fun d=>(qb F0 w.1 d.1 c.1).bind fun e=>br (!d.2.1) (some (hz.aD,4,w)) (br (!e.2.1) (some (hz.aD,4,w)) (ck (bG a (w.2.2.1.length:Int)) (some ((w.1,w.2.1,w.2.2.1.set a.toNat e.1,w.2.2.2),0,hz.aD))))))):=by kernel_rfl
def TW:Any:=.sel ⟨[(hz,true),(.int .i64,false)],0,(hz,true),(.int .i64,false),(hz,true),fun x=>Nc F0 x.1 x.2.1⟩
theorem aoU:a6 205 TW:=ok4 (show x8 Tryz.prog TB aaB from⟨cl,ajB,alB,M0,trivial⟩) func205 (by kernel_rfl) (by kernel_rfl) ad (by kernel_rfl) (by kernel_rfl)
def ajK:=[(123,ma),(144,oh)]
def YD (d:D14):=bj ajK F ad f309 pa pa 2 (d,())
theorem av3 (d:D14):YD F d=(iL F0 d).bind fun a=>(mZ F0 d).bind fun b=>br b.1 (some ((a.1.1,(d.1.length:Int)),())) (some (a.1,())):=by kernel_rfl
def aaC:Any:=.one ⟨pa,pa,2,fun x=>YD F0 x.1⟩
theorem av4:a6 309 aaC:=aq ajK ⟨uF,yt,trivial⟩ func309 ad (by kernel_rfl)
def WN:=[(64,bX),(74,cn),(124,yH),(309,aaC)]
abbrev aDI:List (Ty×Bool):=[(cd,true),(K23,false)]
def IE (c:D1)(r:a1):=bj WN F ad f264 xt aDI 2 (c,r,())
theorem alC (c:D1)(r:a1):IE F c r=(ba F0 r).bind fun a=>(dx F0 c r).bind fun b=>br (!b.1) (some (a.1,[],())) ((YD F0 r.2.2.2.2.2.2.1).bind fun d=>(tG F0 r.2.2.2.2.2.2.2).bind fun e=>some ((a.1.1,a.1.2.1,a.1.2.2.1,a.1.2.2.2.1,a.1.2.2.2.2.1,a.1.2.2.2.2.2.1,d.1,[]),e.1,())):=by kernel_rfl
def Qq:Any:=.one ⟨xt,aDI,2,fun x=>IE F0 x.1 x.2.1⟩
theorem alD:a6 264 Qq:=aq WN ⟨cl,cT,PV,av4,trivial⟩ func264 ad (by kernel_rfl)
def aaD:=[(68,cM)]
abbrev aDJ:List (Ty×Bool):=[(.int .i64,false),(K21,true)]
def Nd (a:Int)(m:OW):=bj aaD F ad f310 aDJ [(K38,false)] 2 (a,m,())
theorem aoV (a:Int)(m:OW):Nd F a m=br (m.1==2) (br (m.1==4) (some ([],())) (br (m.2.2.2.1.2.1.toList==ak.toList) (some ([],())) ((cW F0 m.2.2.2.1.2.2 a).bind fun b=>br (!b.1) (some ([],())) (some ([(m.2.2.2.1.1,m.2.2.2.1.2.1,a)],()))))) (br (m.1==1) (br (m.1==4) (some ([],())) (br (m.2.2.1.2.2.1.toList==ak.toList) (some ([],())) ((cW F0 m.2.2.1.2.2.2 a).bind fun b=>br (!b.1) (some ([],())) (some ([(m.2.2.1.2.1,m.2.2.1.2.2.1,a)],()))))) (br (m.1==4) (some ([],())) (br (m.2.2.2.2.1.2.1.toList==ak.toList) (some ([],())) ((cW F0 m.2.2.2.2.1.2.2 a).bind fun b=>br (!b.1) (some ([],())) (some ([(m.2.2.2.2.1.1,m.2.2.2.2.1.2.1,a)],())))))):=by kernel_rfl
def TX:Any:=.one ⟨aDJ,[(K38,false)],2,fun x=>Nd F0 x.1 x.2.1⟩
theorem aoW:a6 310 TX:=aq aaD ⟨dK,trivial⟩ func310 ad (by kernel_rfl)
def ny:=[(24,Cn),(68,cM),(139,Gx),(299,Gw),(310,TX)]
def nz:Nat->Option Hint:=look [(5,{live:=[1,2,6,7,8],x3:=[(6,2,3,.int .i64),(6,3,65,cd),(6,4,105,eh),(6,5,41,cz)],xl:=[6,7],rl:=[6]}),(9,{live:=[1,2,6,7,8,9,10],xl:=[1,2,6,7,8],rl:=[6]})]
def mq (l:Int)(m:List ll)(i k o p q a:Int)(r:List bE)(b:List Int)(c:List a1)(d:List bS)(e:List bE)(f:List Int)(g:List a1)(h:List bS)(j:List bE):= cQ 66 [(1,a8 l),(2,hD 136 (pS) m),b0 6,b0 7,(8,a8 i),(9,.v (.c (.own 1000000 none))),(10,a8 k)] [(6,[ao o,ao p,.own 1000001 none,.own 1000002 none,.own 1000003 none,.own 1000004 none]),(7,[ao q,ao a,.own 1000005 none,.own 1000006 none,.own 1000007 none,.own 1000008 none])] [ay 1000000 41 cz r,ay 1000001 3 (.int .i64) b,ay 1000002 65 cd c,ay 1000003 105 eh d,ay 1000004 41 cz e,ay 1000005 3 (.int .i64) f,ay 1000006 65 cd g,ay 1000007 105 eh h,ay 1000008 41 cz j]
def TY (j:Int)(k:List ll)(i l m o a:Int)(p:List Int)(b:List a1)(c:List bS)(d:List bE)(e:List Int)(f:List a1)(g:List bS)(h:List bE):= cQ 66 [(1,a8 j),(2,hD 136 (pS) k),b0 6,b0 7,(8,a8 i)] [(6,[ao l,ao m,.own 1000000 none,.own 1000001 none,.own 1000002 none,.own 1000003 none]),(7,[ao o,ao a,.own 1000004 none,.own 1000005 none,.own 1000006 none,.own 1000007 none])] [ay 1000000 3 (.int .i64) p,ay 1000001 65 cd b,ay 1000002 105 eh c,ay 1000003 41 cz d,ay 1000004 3 (.int .i64) e,ay 1000005 65 cd f,ay 1000006 105 eh g,ay 1000007 41 cz h]
def r9 (a:St):Option U:=e9 ny F nz [.r,.r,.r,.l,.r,.b,.i,.r,.l,.b,.r,.r,.b,.i] f265 J n a
def KS:Ex->St->Option U:=Vy Tryz.prog (look ny) F nz [.r,.l,.b,.r,.r,.b] (sub [.r,.r,.r,.l,.r,.b,.i] (eU f265)) (itk Tryz.prog (look ny) F nz (sub [.r,.r,.r,.l,.r,.b,.i] (eU f265)) J n)
def z7 (j:Int)(k:List ll)(i l m o a:Int)(p:List Int)(b:List a1)(c:List bS)(d:List bE)(e:List Int)(f:List a1)(g:List bS)(h:List bE):= cQ 66 [(1,a8 j),(2,hD 136 (pS) k),b0 6,b0 7,(8,a8 i)] [(6,[ao l,ao m,.own 1000000 none,.own 1000001 none,.own 1000002 none,.own 1000003 none]),(7,[ao o,ao a,.own 1000004 none,.own 1000005 none,.own 1000006 none,.own 1000007 none])] [ay 1000000 3 (.int .i64) p,ay 1000001 65 cd b,ay 1000002 105 eh c,ay 1000003 41 cz d,ay 1000004 3 (.int .i64) e,ay 1000005 65 cd f,ay 1000006 105 eh g,ay 1000007 41 cz h]
def TZ (i j k a:Int)(l:List Int)(b:List a1)(c:List bS)(d:List bE)(e:List Int)(f:List a1)(g:List bS)(h:List bE):= cQ 66 [b0 6,b0 7] [(6,[ao i,ao j,.own 1000000 none,.own 1000001 none,.own 1000002 none,.own 1000003 none]),(7,[ao k,ao a,.own 1000004 none,.own 1000005 none,.own 1000006 none,.own 1000007 none])] [ay 1000000 3 (.int .i64) l,ay 1000001 65 cd b,ay 1000002 105 eh c,ay 1000003 41 cz d,ay 1000004 3 (.int .i64) e,ay 1000005 65 cd f,ay 1000006 105 eh g,ay 1000007 41 cz h]
def IF (a:St):Option U:=e9 ny F nz [.r,.r,.r,.l,.r,.b,.i] f265 J n a
def z8:=hf ny F nz [.r,.r,.r,.l,.r,.b] f265 ix 2
theorem Nf (m:Int)(o:List ll)(i k p q r c:Int)(a:List bE)(d:List Int)(e:List a1)(f:List bS)(g:List bE)(h:List Int)(j:List a1)(l:List bS)(b:List bE):r9 F J (n+1) (mq m o i k p q r c a d e f g h j l b)=br (decide (k<(a.length:Int))) (ck (bG k (a.length:Int)) (br (decide ((b.length:Int)<300)) ((Fm F0 b (aK a k cz.aD).1 (aK a k cz.aD).2.1 (aK a k cz.aD).2.2).bind fun s=>br (!s.1) (ck (ei F b.length [(aK a k cz.aD)].length 32) (r9 F J n (mq m o i (aj (k+1)) p q r c a d e f g h j l (b++[(aK a k cz.aD)])))) (r9 F J n (mq m o i (aj (k+1)) p q r c a d e f g h j l b))) (r9 F J n (mq m o i (aj (k+1)) p q r c a d e f g h j l b)))) (J (.exit 2) (TY m o i p q r c d e f g h j l b)):=by kernel_rfl
theorem Ng (k:Int)(a:List ll)(i l m o b:Int)(p:List Int)(c:List a1)(d:List bS)(e:List bE)(f:List Int)(g:List a1)(h:List bS)(j:List bE):IF F J (n+1) (z7 k a i l m o b p c d e f g h j)=br (decide (i<(a.length:Int))) (ck (bG i (a.length:Int)) ((Nd F0 k (aK a i pS.aD).2).bind fun q=>r9 F (KS F J n) F.n (mq k a i 0 l m o b q.1 p c d e f g h j))) (J (.exit 0) (TZ l m o b p c d e f g h j)):=by kernel_rfl
theorem ahr (j:Int)(k:List ll)(i l m o a:Int)(p:List Int)(b:List a1)(c:List bS)(d:List bE)(e:List Int)(f:List a1)(g:List bS)(h:List bE):KS F J n (.exit 2) (TY j k i l m o a p b c d e f g h)=IF F J n (z7 j k (aj (i+1)) l m o a p b c d e f g h):=by kernel_rfl
theorem ahs (j k f a:Int)(l:List Int)(g:List a1)(h:List bS)(i:List bE)(b:List Int)(c:List a1)(d:List bS)(e:List bE):z8 F (.exit 0) (TZ j k f a l g h i b c d e)=some (((f,a),b,c,d,e),()):=by kernel_rfl
abbrev aDK:List (Ty×Bool):=[(hz,true),(.int .i64,false),(K23,false)]
def KT (w:ko)(a:Int)(b:D23):=bj ny F nz f265 aDK ix 2 (w,a,b,())
theorem asm (w:ko)(b:Int)(c:D23):KT F w b c=(yK F0 w).bind fun a=>(Fo F0 w).bind fun d=>(cW F0 d.1 b).bind fun e=>br (!e.1) (some (a.1,())) (IF F (z8 F) F.n (z7 b c 0 0 0 a.1.1.1 a.1.1.2 [] [] [] [] a.1.2.1 a.1.2.2.1 a.1.2.2.2.1 a.1.2.2.2.2)):=by kernel_rfl
def WO:Any:=.one ⟨aDK,ix,2,fun x=>KT F0 x.1 x.2.1 x.2.2.1⟩
theorem asn:a6 265 WO:=aq ny ⟨To,dK,WM,WL,aoW,trivial⟩ func265 nz (by kernel_rfl)
def WQ:=[(204,Cy),(264,Qq),(265,WO)]
def IG (w:ko)(a:Int):Option (ko×Int×ko):=arK Tryz.prog (look WQ) F ad f206 [(hz,true),(.int .i64,false)] 0 (hz,true) (.int .i64,false) (hz,true) (w,a,())
theorem alE (w:ko)(a:Int):IG F w a=ck (bG a (w.2.2.1.length:Int)) ((IE F0 w.1 (aK w.2.2.1 a cd.aD)).bind fun b=>br (decide ((aj ((w.2.2.2.1.length:Int)+(b.2.1.length:Int)))>60)) (some (hz.aD,4,w)) (br (decide ((aj ((w.2.2.2.2.length:Int)+(b.2.1.length:Int)))>300)) (some (hz.aD,4,w)) (ck (bG a (w.2.2.1.length:Int)) ((KT F0 (w.1,w.2.1,w.2.2.1.set a.toNat b.1,w.2.2.2) a b.2.1).bind fun c=>(zU F0 c.1 b.2.1).bind fun d=>some (d.1.1,0,hz.aD))))):=by kernel_rfl
def Qr:Any:=.sel ⟨[(hz,true),(.int .i64,false)],0,(hz,true),(.int .i64,false),(hz,true),fun x=>IG F0 x.1 x.2.1⟩
theorem alF:a6 206 Qr:=ok4 (show x8 Tryz.prog TB WQ from⟨TU,alD,asn,trivial⟩) func206 (by kernel_rfl) (by kernel_rfl) ad (by kernel_rfl) (by kernel_rfl)
def aeD:=[(64,bX),(74,cn),(311,pt)]
def R9 (c:D1)(r:a1)(a:Int)(name:ByteArray)(b:Bool):=bj aeD F ad f266 atQ gx 2 (c,r,a,name,b,())
theorem aso (c:D1)(r:a1)(b:Int)(name:ByteArray)(d:Bool):R9 F c r b name d=(dx F0 c r).bind fun e=>br (!e.1) ((ba F0 r).bind fun f=>some (f.1,false,())) ((ba F0 r).bind fun g=>(oQ F0 c g.1 b name d).bind fun a=>br (!a.1.2.1) ((ba F0 r).bind fun h=>some (h.1,false,())) (some (a.1.1,true,()))):=by kernel_rfl
def WR:Any:=.one ⟨atQ,gx,2,fun x=>R9 F0 x.1 x.2.1 x.2.2.1 x.2.2.2.1 x.2.2.2.2.1⟩
theorem asp:a6 266 WR:=aq aeD ⟨cl,cT,Cv,trivial⟩ func266 ad (by kernel_rfl)
end
end Go.Am.Tryz
