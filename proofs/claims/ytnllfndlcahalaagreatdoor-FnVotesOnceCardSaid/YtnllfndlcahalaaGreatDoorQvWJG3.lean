/- No condition. -/
import Derived.Test.YtnllfndlcahalaaGreatDoorQvWJG2
set_option linter.all false
set_option maxRecDepth 100000
namespace Go.Am.Tryz
open Go.Am Go.Proofs Go.Proofs.Tryz
noncomputable section
variable {U:Type} (F:p5) (J:Ex->St->Option U) (n:Nat)
def y8:=[(134,gG),(300,iq),(301,r7)]
def y9:Nat->Option Hint:=look [(6,{live:=[3,5,6],xl:=[5],rl:=[4]})]
def r8 (i q:Int)(a:ByteArray)(b c:List Int):= cQ 41 [b0 3,(5,.v (.c (.own 1000000 none))),(6,a8 i)] [(3,[ao q,.str a,.ro false 3 (.int .i64) b])] [ay 1000000 5 (.int .u8) c]
def No (a:List Int):= cQ 41 [(5,.v (.c (.own 1000000 none)))] [] [ay 1000000 5 (.int .u8) a]
def za (a:St):Option U:=ff y8 F y9 [.r,.r,.r,.r,.l,.r,.b,.i] f302 J n a
def CF:=hQ y8 F y9 [.r,.r,.r,.r,.l,.r,.b] f302 lF 2
def Hy (i q:Int)(c:ByteArray)(a b:List Int):za F J (n+1) (r8 i q c a b)=br (decide (i<(a.length:Int))) (ck (bG i (a.length:Int)) ((et F0 (aI a i 0)).bind fun d=>ck (ep F b.length d.1.length 1) (za F J n (r8 (aj (i+1)) q c a (b++d.1))))) (J (.exit 0) (No b)):=by kernel_rfl
def acT (a:List Int):CF F (.exit 0) (No a)=some (a,()):=by kernel_rfl
def r9 (c:D1)(q:D9):=bj y8 F y9 f302 Hj lF 2 (c,q,())
def amc (c:D1)(q:D9):r9 F c q=(ky F0 c q).bind fun e=>br (!e.1) (some ([],())) ((et F0 q.1).bind fun a=>(nI F0 q.2.1).bind fun b=>ck (ep F a.1.length b.1.length 1) ((et F0 (q.2.2.length:Int)).bind fun d=>ck (ep F (a.1++b.1).length d.1.length 1) (za F (CF F) F.n (r8 0 q.1 q.2.1 q.2.2 ((a.1++b.1)++d.1))))):=by kernel_rfl
def CG:Any:=.one ⟨Hj,lF,2,fun x=>r9 F0 x.1 x.2.1⟩
def T3:a1 302 CG:=aq y8 ⟨kS,mv,GL,trivial⟩ func302 y9 (by kernel_rfl)
def QB:=[(141,ij),(300,iq),(301,r7),(302,CG)]
def zb (c:D1)(s:Vt):=bj QB F ad f364 TJ lF 2 (c,s,())
def ae6 (c:D1)(s:Vt):zb F c s=(jv F0 c s).bind fun f=>br (!f.1) (some ([],())) ((et F0 s.1).bind fun a=>(et F0 s.2.1).bind fun b=>ck (ep F a.1.length b.1.length 1) ((r9 F0 c s.2.2.1).bind fun d=>ck (ep F (a.1++b.1).length d.1.length 1) ((nI F0 s.2.2.2).bind fun e=>ck (ep F ((a.1++b.1)++d.1).length e.1.length 1) (some (((a.1++b.1)++d.1)++e.1,()))))):=by kernel_rfl
def Lc:Any:=.one ⟨TJ,lF,2,fun x=>zb F0 x.1 x.2.1⟩
def ae7:a1 364 Lc:=aq QB ⟨l7,mv,GL,T3,trivial⟩ func364 ad (by kernel_rfl)
def QC:=[(300,iq),(364,Lc)]
def zs (c:D1)(s:Vt):=bj QC F ad f342 TJ lF 2 (c,s,())
def ae8 (c:D1)(s:Vt):zs F c s=(zb F0 c s).bind fun a=>br ((a.1.length:Int)==0) (some ([],())) ((et F0 (a.1.length:Int)).bind fun b=>ck (ep F b.1.length a.1.length 1) (ck (ep F (b.1++a.1).length [10].length 1) (some ((b.1++a.1)++[10],())))):=by kernel_rfl
def Ld:Any:=.one ⟨TJ,lF,2,fun x=>zs F0 x.1 x.2.1⟩
def ae9:a1 342 Ld:=aq QC ⟨mv,ae7,trivial⟩ func342 ad (by kernel_rfl)
def aa3:=[(123,ml),(144,oz)]
abbrev aEi:List (Ty×Bool):=[(K14,true),(.bool,false)]
abbrev aEj:List (Ty×Bool):=[(K14,true),(.sl 5 (.int .u8),false)]
def Np (d:D14)(b:List Int):=bj aa3 F ad f341 aEj aEi 2 (d,b,())
def aph (d:D14)(b:List Int):Np F d b=(iR F0 d).bind fun a=>ck (ep F a.1.1.length b.length 1) ((np F0 d).bind fun e=>br (!e.1) ((iR F0 d).bind fun c=>some (c.1,false,())) ((np F0 (a.1.1++b,a.1.2)).bind fun f=>br (!f.1) ((iR F0 d).bind fun c=>some (c.1,false,())) (some ((a.1.1++b,a.1.2),true,())))):=by kernel_rfl
def T4:Any:=.one ⟨aEj,aEi,2,fun x=>Np F0 x.1 x.2.1⟩
def api:a1 341 T4:=aq aa3 ⟨uR,yH,trivial⟩ func341 ad (by kernel_rfl)
def T5:=[(121,mj),(141,ij),(340,Nl),(341,T4),(342,Ld)]
def eK (c:D1)(r:a7)(s:Vt):Option (a7×Bool×a7):=asx Tryz.prog (look T5) F ad f307 [(K1,true),(ca,true),(K12,true)] 1 (ca,true) (.bool,false) (ca,true) (c,r,s,())
def ah0 (c:D1)(r:a7)(s:Vt):eK F c r s=(DX F0 r.2.2.2.1 s).bind fun b=>br b.1 (some (r,true,ca.az)) ((zs F0 c s).bind fun d=>(Np F0 r.2.2.2.2.2.2.1 d.1).bind fun a=>br (!a.2.1) (some (ca.az,false,r)) ((jv F0 c s).bind fun e=>br (!e.1) (some (ca.az,false,r)) ((nG F0 s).bind fun f=>some ((r.1,r.2.1,r.2.2.1,f.1,r.2.2.2.2.1,r.2.2.2.2.2.1,a.1,r.2.2.2.2.2.2.2),true,ca.az)))):=by kernel_rfl
def pE:Any:=.sel ⟨[(K1,true),(ca,true),(K12,true)],1,(ca,true),(.bool,false),(ca,true),fun x=>eK F0 x.1 x.2.1 x.2.2.1⟩
def CH:a1 307 pE:=ok4 (show ym Tryz.prog TB T5 from⟨uN,l7,ahZ,api,ae9,trivial⟩) func307 (by kernel_rfl) (by kernel_rfl) ad (by kernel_rfl) (by kernel_rfl)
def mw:=[(201,GJ)]
def mx:Nat->Option Hint:=look [(3,{live:=[0,1,5,6],xl:=[1,5],rl:=[4]}),(7,{live:=[1,5,7],xl:=[5],rl:=[4]})]
def sa (b:List Int)(i:Int)(a:List Int):= cQ 34 [(1,hV 3 (.int .i64) b),(5,.v (.c (.own 1000000 none))),(7,a8 i)] [] [ay 1000000 3 (.int .i64) a]
def Nq (a:List Int):= cQ 34 [(5,.v (.c (.own 1000000 none)))] [] [ay 1000000 3 (.int .i64) a]
def zv (a:St):Option U:=ff mw F mx [.r,.r,.r,.l,.r,.b,.i] f347 J n a
def CI:=hQ mw F mx [.r,.r,.r,.l,.r,.b] f347 kr 2
def sd (a b:List Int)(i:Int)(c:List Int):= cQ 34 [(0,hV 3 (.int .i64) a),(1,hV 3 (.int .i64) b),(5,.v (.c (.own 1000000 none))),(6,a8 i)] [] [ay 1000000 3 (.int .i64) c]
def Nr (b a:List Int):= cQ 34 [(1,hV 3 (.int .i64) b),(5,.v (.c (.own 1000000 none)))] [] [ay 1000000 3 (.int .i64) a]
def zJ (a:St):Option U:=ff mw F mx [.r,.r,.l,.r,.b,.i] f347 J n a
def CJ:=hQ mw F mx [.r,.r,.l,.r,.b] f347 kr 2
def Hz (b:List Int)(i:Int)(a:List Int):zv F J (n+1) (sa b i a)=br (decide (i<(b.length:Int))) (ck (bG i (b.length:Int)) ((w7 F0 a (aI b i 0)).bind fun c=>zv F J n (sa b (aj (i+1)) c.1))) (J (.exit 2) (Nq a)):=by kernel_rfl
def HA (a b:List Int)(i:Int)(c:List Int):zJ F J (n+1) (sd a b i c)=br (decide (i<(a.length:Int))) (ck (bG i (a.length:Int)) ((w7 F0 c (aI a i 0)).bind fun d=>zJ F J n (sd a b (aj (i+1)) d.1))) (J (.exit 0) (Nr b c)):=by kernel_rfl
def acU (a:List Int):CI F (.exit 2) (Nq a)=some (a,()):=by kernel_rfl
def acV (b a:List Int):CJ F (.exit 0) (Nr b a)=zv F (CI F) F.n (sa b 0 a):=by kernel_rfl
def IX (a b:List Int):=bj mw F mx f347 alF kr 2 (a,b,())
def amd (a b:List Int):IX F a b=zJ F (CJ F) F.n (sd a b 0 []):=by kernel_rfl
def QD:Any:=.one ⟨alF,kr,2,fun x=>IX F0 x.1 x.2.1⟩
def ame:a1 347 QD:=aq mw ⟨W0,trivial⟩ func347 mx (by kernel_rfl)
def T6:=[(347,QD)]
abbrev akt:List (Ty×Bool):=[(K9,true),(.bool,false)]
def D7 (a b:D9):=bj T6 F ad f314 w3 akt 2 (a,b,())
def ah1 (a b:D9):D7 F a b=br (a.1 != b.1) (some ((0,ak,[]),false,())) (br (!(a.2.1.toList==b.2.1.toList)) (some ((0,ak,[]),false,())) ((IX F0 a.2.2 b.2.2).bind fun c=>some ((a.1,a.2.1,c.1),true,()))):=by kernel_rfl
def Ns:Any:=.one ⟨w3,akt,2,fun x=>D7 F0 x.1 x.2.1⟩
def ah2:a1 314 Ns:=aq T6 ⟨ame,trivial⟩ func314 ad (by kernel_rfl)
def ve:=[(122,yR),(143,Ct),(194,jG),(213,oy),(214,wj),(314,Ns)]
def vf:Nat->Option Hint:=look [(4,{live:=[1,3,5,8,9,10],xl:=[1,3,5,8,9],rl:=[6,7]})]
def fx (e:List D9)(put:Bool)(i c a p:Int)(b:ByteArray)(d:List Int)(f:List D9):= cQ 74 [(1,hV 50 (K9) e),b0 3,b0 5,(8,.v (.c (.own 1000000 none))),(9,Ir put),(10,a8 i)] [(3,[ao c,ao a]),(5,[ao p,.str b,.ro false 3 (.int .i64) d])] [ay 1000000 50 K9 f]
def Le (e:List D9)(put:Bool)(c a p:Int)(b:ByteArray)(d:List Int)(f:List D9):= cQ 74 [(1,hV 50 (K9) e),b0 3,b0 5,(8,.v (.c (.own 1000000 none))),(9,Ir put)] [(3,[ao c,ao a]),(5,[ao p,.str b,.ro false 3 (.int .i64) d])] [ay 1000000 50 K9 f]
def ir (a:St):Option U:=ff ve F vf [.r,.r,.r,.l,.r,.b,.i] f268 J n a
abbrev auD:List (Ty×Bool):=[(K13,false),(.bool,false)]
def zU:=hQ ve F vf [.r,.r,.r,.l,.r,.b] f268 auD 2
def kY (e:List D9)(put:Bool)(i c g p:Int)(b:ByteArray)(d:List Int)(a:List D9):ir F J (n+1) (fx e put i c g p b d a)=br (decide (i<(e.length:Int))) (ck (bG i (e.length:Int)) ((gI F0 (aI e i K9.az)).bind fun f=>br (!put) ((qJ F0 f.1 (p,b,d)).bind fun k=>br (!k.1) ((D7 F0 f.1 (p,b,d)).bind fun h=>br h.2.1 (ck (ep F a.length [h.1].length 48) (ir F J n (fx e true (aj (i+1)) c g p b d (a++[h.1])))) ((gI F0 (p,b,d)).bind fun j=>ck (ep F a.length [j.1].length 48) (ck (ep F (a++[j.1]).length [f.1].length 48) (ir F J n (fx e true (aj (i+1)) c g p b d ((a++[j.1])++[f.1])))))) (ck (ep F a.length [f.1].length 48) (ir F J n (fx e put (aj (i+1)) c g p b d (a++[f.1]))))) (ck (ep F a.length [f.1].length 48) (ir F J n (fx e put (aj (i+1)) c g p b d (a++[f.1])))))) (J (.exit 0) (Le e put c g p b d a)):=by kernel_rfl
def HB (e:List D9)(put:Bool)(c d p:Int)(f:ByteArray)(g:List Int)(b:List D9):zU F (.exit 0) (Le e put c d p f g b)=br (!put) ((gI F0 (p,f,g)).bind fun h=>ck (ep F b.length [h.1].length 48) ((nD F0 (c,d) (b++[h.1])).bind fun i=>br (!i.1) ((gJ F0 e).bind fun a=>some (a.1,false,())) ((kT F0 (c,d) (p,f,g)).bind fun j=>br (!j.1) ((gJ F0 e).bind fun a=>some (a.1,false,())) (some (b++[h.1],true,()))))) ((nD F0 (c,d) b).bind fun i=>br (!i.1) ((gJ F0 e).bind fun a=>some (a.1,false,())) ((kT F0 (c,d) (p,f,g)).bind fun j=>br (!j.1) ((gJ F0 e).bind fun a=>some (a.1,false,())) (some (b,true,())))):=by kernel_rfl
abbrev aEk:List (Ty×Bool):=[(K1,true),(K13,false),(K9,true)]
def fm (c:D1)(a:D13)(p:D9):=bj ve F vf f268 aEk auD 2 (c,a,p,())
def ah3 (c:D1)(a:D13)(p:D9):fm F c a p=ir F (zU F) F.n (fx a false 0 c.1 c.2 p.1 p.2.1 p.2.2 []):=by kernel_rfl
def kZ:Any:=.one ⟨aEk,auD,2,fun x=>fm F0 x.1 x.2.1 x.2.2.1⟩
def se:a1 268 kZ:=aq ve ⟨Ql,TK,oB,yE,MX,ah2,trivial⟩ func268 vf (by kernel_rfl)
def aa4:=[(134,gG)]
def FB (c:D1)(p:D9):=bj aa4 F ad f365 Hj akt 2 (c,p,())
def apj (c:D1)(p:D9):FB F c p=ck (ep F 0 p.2.2.length 8) (br (p.2.1.toList==ak.toList) (some ((0,ak,[]),false,())) ((ky F0 c (p.1,p.2.1,[]++p.2.2)).bind fun a=>br (!a.1) (some ((0,ak,[]),false,())) (some ((p.1,p.2.1,[]++p.2.2),true,())))):=by kernel_rfl
def T7:Any:=.one ⟨Hj,akt,2,fun x=>FB F0 x.1 x.2.1⟩
def apk:a1 365 T7:=aq aa4 ⟨kS,trivial⟩ func365 ad (by kernel_rfl)
def Xa:=[(73,b7),(145,jU),(195,Cz)]
abbrev aEl:List (Ty×Bool):=[(K1,true),(ca,true),(.int .i64,false),(K21,true)]
def fy (c:D1)(r:a7)(a:Int)(m:Po):=Fl Xa F ad f269 aEl 1 (.own true) gH [] 2 (c,r,a,m,())
def amf (c:D1)(r:a7)(a:Int)(m:Po):fy F c r a m=br (decide ((r.2.2.2.2.2.2.2.length:Int)>=30)) (some ((r,false,()),())) ((fw F0 c m).bind fun d=>br (!d.1) (some ((r,false,()),())) ((bN F0 a 0 (aj (c.1-1))).bind fun e=>br (!e.1) (some ((r,false,()),())) (br (a==r.1) (some ((r,false,()),())) ((yS F0 m).bind fun b=>ck (ep F r.2.2.2.2.2.2.2.length [(a,b.1)].length 224) (some (((r.1,r.2.1,r.2.2.1,r.2.2.2.1,r.2.2.2.2.1,r.2.2.2.2.2.1,r.2.2.2.2.2.2.1,r.2.2.2.2.2.2.2++[(a,b.1)]),true,()),())))))):=by kernel_rfl
def my:Any:=.two ⟨aEl,1,(.own true),gH,2,[],fun x=>fy F0 x.1 x.2.1 x.2.2.1 x.2.2.2.1⟩
def vg:a1 269 my:=aB3 Xa ⟨cz,oU,TR,trivial⟩ func269 ad (by kernel_rfl)
def aa5:=[(66,gX),(125,jx),(269,my),(304,IW),(307,pE),(365,T7)]
abbrev aku:List (Ty×Bool):=[(K1,true),(ca,true),(K9,true)]
def Nt (c:D1)(r:a7)(p:D9):=Fl aa5 F ad f343 aku 1 (.own true) gH [] 2 (c,r,p,())
def apl (c:D1)(r:a7)(p:D9):Nt F c r p=(FB F0 c p).bind fun b=>br (!b.2.1) (some ((r,false,()),())) ((Qy F0 c r.2.2.2.1 b.1).bind fun f=>(eK F0 c r f.1).bind fun a=>br a.2.1 (br (decide ((aj (p.1+1))>60)) (some ((a.1,true,()),())) ((dK F0 a.1.2.1 (aj (p.1+1))).bind fun d=>(mo F0 c (aj (p.1+1))).bind fun g=>br (g.1==r.1) (some (((a.1.1,d.1,a.1.2.2),true,()),())) ((mo F0 c (aj (p.1+1))).bind fun h=>(fy F0 c (a.1.1,d.1,a.1.2.2) h.1 (3,aj (p.1+1),(ak,0,ak,[]),(0,ak,[]),b.1,r.1,0,0,0,0)).bind fun e=>some ((e.1.1,e.1.2.1,()),())))) (some (((r.1,r.2.1,r.2.2.1,(r.2.2.2.1.1,r.2.2.2.1.2.1,(r.2.2.2.1.2.2.1.1,r.2.2.2.1.2.2.1.2.1,a.2.2.2.2.2.1.2.2.1.2.2),r.2.2.2.1.2.2.2),a.2.2.2.2.2.2.1,a.2.2.2.2.2.2.2.1,(a.2.2.2.2.2.2.2.2.1.1,r.2.2.2.2.2.2.1.2),a.2.2.2.2.2.2.2.2.2),false,()),()))):=by kernel_rfl
def T8:Any:=.two ⟨aku,1,(.own true),gH,2,[],fun x=>Nt F0 x.1 x.2.1 x.2.2.1⟩
def apm:a1 343 T8:=aB3 aa5 ⟨lH,nH,vg,W7,CH,apk,trivial⟩ func343 ad (by kernel_rfl)
def akv:=[(32,cx),(73,b7)]
abbrev QE:List (Ty×Bool):=[(K1,true),(.int .i64,false),(.int .i64,false)]
def JZ (c:D1)(a i:Int):=bj akv F ad f366 QE cE 1 (c,a,i,())
def awM (c:D1)(a i:Int):JZ F c a i=(dJ F0 c).bind fun b=>br (!b.1) (some (-1,())) (br (decide (a<0)) (some (-1,())) ((bN F0 i 0 (aj (c.1-1))).bind fun d=>br (!d.1) (some (-1,())) (ck (!(c.1==0)) (ck (!(c.1==0)) (some (Int.tmod (aj ((aj (i+c.1))-(Int.tmod a c.1))) c.1,())))))):=by kernel_rfl
def Ea:Any:=.one ⟨QE,cE,1,fun x=>JZ F0 x.1 x.2.1 x.2.2.1⟩
def SA:a1 366 Ea:=aq akv ⟨de,cz,trivial⟩ func366 ad (by kernel_rfl)
def akw:=[(32,cx),(73,b7)]
def Zb (c:D1)(b a:Int):=bj akw F ad f369 QE cE 1 (c,b,a,())
def awN (c:D1)(b a:Int):Zb F c b a=(dJ F0 c).bind fun d=>br (!d.1) (some (-1,())) (br (decide (b<0)) (some (-1,())) ((bN F0 a 0 (aj (c.1-1))).bind fun e=>br (!e.1) (some (-1,())) (ck (!(c.1==0)) (ck (!(c.1==0)) (some (Int.tmod (aj ((Int.tmod b c.1)+a)) c.1,())))))):=by kernel_rfl
def aa6:Any:=.one ⟨QE,cE,1,fun x=>Zb F0 x.1 x.2.1 x.2.2.1⟩
def awO:a1 369 aa6:=aq akw ⟨de,cz,trivial⟩ func369 ad (by kernel_rfl)
def auE:=[(366,Ea),(369,aa6)]
def Zc (c:D1)(a i:Int):=bj auE F ad f346 QE cE 1 (c,a,i,())
def aB4 (c:D1)(a i:Int):Zc F c a i=(JZ F0 c a i).bind fun b=>br (decide (b.1<=0)) (some (-1,())) (ck (!(c.2==0)) ((Zb F0 c a (aj (Int.tdiv (aj (b.1-1)) c.2))).bind fun d=>some (d.1,()))):=by kernel_rfl
def Xb:Any:=.one ⟨QE,cE,1,fun x=>Zc F0 x.1 x.2.1 x.2.2.1⟩
def apn:a1 346 Xb:=aq auE ⟨SA,awO,trivial⟩ func346 ad (by kernel_rfl)
def SB:=[(346,Xb),(366,Ea)]
def SC:Nat->Option Hint:=look [(2,{live:=[1,2,3,7],xl:=[7],rl:=[6]})]
def IY (b i c a:Int)(d:List Int):= cQ 23 [(1,a8 b),(2,a8 i),b0 3,(7,.v (.c (.own 1000000 none)))] [(3,[ao c,ao a])] [ay 1000000 3 (.int .i64) d]
def Pq (a:List Int):= cQ 23 [(7,.v (.c (.own 1000000 none)))] [] [ay 1000000 3 (.int .i64) a]
def SD (a:St):Option U:=ff SB F SC [.r,.r,.l,.b,.i] f367 J n a
def afa:=hQ SB F SC [.r,.r,.l,.b] f367 kr 2
def T9 (b i c a:Int)(d:List Int):SD F J (n+1) (IY b i c a d)=(JZ F0 (c,a) b i).bind fun e=>br (decide (e.1>=0)) (ck (ep F d.length [i].length 8) ((Zc F0 (c,a) b i).bind fun f=>SD F J n (IY b f.1 c a (d++[i])))) (J (.exit 0) (Pq d)):=by kernel_rfl
def apo (a:List Int):afa F (.exit 0) (Pq a)=some (a,()):=by kernel_rfl
def afb (c:D1)(a i:Int):=bj SB F SC f367 QE kr 2 (c,a,i,())
def azl (c:D1)(a i:Int):afb F c a i=SD F (afa F) F.n (IY a i c.1 c.2 []):=by kernel_rfl
def afc:Any:=.one ⟨QE,kr,2,fun x=>afb F0 x.1 x.2.1 x.2.2.1⟩
def azm:a1 367 afc:=aq SB ⟨apn,SA,trivial⟩ func367 SC (by kernel_rfl)
def IZ:=[(32,cx),(68,cL),(366,Ea),(367,afc)]
def I0:Nat->Option Hint:=look [(5,{live:=[1,2,3,7,8],xl:=[7],rl:=[6]})]
def q5 (b i k c a:Int)(d:List Int):= cQ 38 [(1,a8 b),(2,a8 i),b0 3,(7,.v (.c (.own 1000000 none))),(8,a8 k)] [(3,[ao c,ao a])] [ay 1000000 3 (.int .i64) d]
def GM (a:List Int):= cQ 38 [(7,.v (.c (.own 1000000 none)))] [] [ay 1000000 3 (.int .i64) a]
def zV (a:St):Option U:=ff IZ F I0 [.r,.r,.r,.l,.r,.b,.i] f344 J n a
def Lf:=hQ IZ F I0 [.r,.r,.r,.l,.r,.b] f344 kr 2
def z1 (d i k c b:Int)(a:List Int):zV F J (n+1) (q5 d i k c b a)=br (decide (k<c)) ((JZ F0 (c,b) d i).bind fun e=>br (decide (e.1>=0)) ((afb F0 (c,b) d k).bind fun f=>(cW F0 f.1 i).bind fun g=>br g.1 (ck (ep F a.length [k].length 8) (zV F J n (q5 d i (aj (k+1)) c b (a++[k])))) (zV F J n (q5 d i (aj (k+1)) c b a))) (J (.exit 0) (GM a))) (J (.exit 0) (GM a)):=by kernel_rfl
def QF (a:List Int):Lf F (.exit 0) (GM a)=some (a,()):=by kernel_rfl
def SE (c:D1)(a i:Int):=bj IZ F I0 f344 QE kr 2 (c,a,i,())
def as2 (c:D1)(a i:Int):SE F c a i=(dJ F0 c).bind fun b=>br (!b.1) (some ([],())) (zV F (Lf F) F.n (q5 a i 0 c.1 c.2 [])):=by kernel_rfl
def Xc:Any:=.one ⟨QE,kr,2,fun x=>SE F0 x.1 x.2.1 x.2.2.1⟩
def as3:a1 344 Xc:=aq IZ ⟨de,dL,SA,azm,trivial⟩ func344 I0 (by kernel_rfl)
def acW (a:Bool):=bj aA F ad f368 aO cE 1 (a,())
def as4 (a:Bool):acW F a=br a (some (1,())) (some (0,())):=by kernel_rfl
def Xd:Any:=.one ⟨aO,cE,1,fun x=>acW F0 x.1⟩
def as5:a1 368 Xd:=aq aA trivial func368 ad (by kernel_rfl)
def Eb:=[(68,cL),(368,Xd)]
def Ec:Nat->Option Hint:=look [(3,{live:=[0,1,5,6],xl:=[5],rl:=[4]})]
def vh (a b:List Int)(c i:Int):= bP 23 [(0,hV 3 (.int .i64) a),(1,hV 3 (.int .i64) b),(5,a8 c),(6,a8 i)]
def QG (a:Int):= bP 23 [(5,a8 a)]
def Ed (a:St):Option U:=ff Eb F Ec [.r,.r,.l,.r,.b,.i] f345 J n a
def GN:=hQ Eb F Ec [.r,.r,.l,.r,.b] f345 cE 1
def Lg (a b:List Int)(c i:Int):Ed F J (n+1) (vh a b c i)=br (decide (i<(a.length:Int))) (ck (bG i (a.length:Int)) ((cW F0 b (aI a i 0)).bind fun d=>(acW F0 d.1).bind fun e=>Ed F J n (vh a b (aj (c+e.1)) (aj (i+1))))) (J (.exit 0) (QG c)):=by kernel_rfl
def afd (a:Int):GN F (.exit 0) (QG a)=some (a,()):=by kernel_rfl
def Nu (a b:List Int):=bj Eb F Ec f345 alF cE 1 (a,b,())
def apq (a b:List Int):Nu F a b=Ed F (GN F) F.n (vh a b 0 0):=by kernel_rfl
def Ua:Any:=.one ⟨alF,cE,1,fun x=>Nu F0 x.1 x.2.1⟩
def apr:a1 345 Ua:=aq Eb ⟨dL,as5,trivial⟩ func345 Ec (by kernel_rfl)
def Ub:=[(125,jx),(126,py),(269,my),(343,T8),(344,Xc),(345,Ua),(346,Xb)]
abbrev auF:List (Ty×Bool):=[(K1,true),(ca,true),(.int .i64,false),(.str,false),(.bool,false)]
def oZ (c:D1)(r:a7)(a:Int)(name:ByteArray)(b:Bool):=Fl Ub F ad f311 auF 1 (.own true) gH [] 2 (c,r,a,name,b,())
def ah4 (c:D1)(r:a7)(a:Int)(name:ByteArray)(h:Bool):oZ F c r a name h=(oV F0 r.2.2.2.2.2.1 a name).bind fun b=>br ((b.1.2.2.length:Int)==0) (some ((r,false,()),())) (br (name.toList==ak.toList) (some ((r,false,()),())) ((mo F0 c a).bind fun i=>br (i.1==r.1) ((Nt F0 c r b.1).bind fun f=>some ((f.1.1,f.1.2.1,()),())) ((SE F0 c a r.1).bind fun g=>br (!h) ((Nu F0 g.1 b.1.2.2).bind fun j=>br (decide (j.1<(g.1.length:Int))) (some ((r,false,()),())) ((Zc F0 c a r.1).bind fun e=>(fy F0 c r e.1 (2,0,(ak,0,ak,[]),b.1,(0,ak,[]),0,0,0,0,0)).bind fun d=>some ((d.1.1,d.1.2.1,()),()))) ((Zc F0 c a r.1).bind fun e=>(fy F0 c r e.1 (2,0,(ak,0,ak,[]),b.1,(0,ak,[]),0,0,0,0,0)).bind fun d=>some ((d.1.1,d.1.2.1,()),()))))):=by kernel_rfl
def pF:Any:=.two ⟨auF,1,(.own true),gH,2,[],fun x=>oZ F0 x.1 x.2.1 x.2.2.1 x.2.2.2.1 x.2.2.2.2.1⟩
def CK:a1 311 pF:=aB3 Ub ⟨nH,CD,vg,apm,as3,apr,apn,trivial⟩ func311 ad (by kernel_rfl)
def aa7:=[(64,bX),(79,df),(268,kZ),(311,pF)]
abbrev aHq:List (Ty×Bool):=[(K1,true),(ca,true),(.str,false)]
def nr (c:D1)(r:a7)(name:ByteArray):=Fl aa7 F ad f308 aHq 1 (.own true) gH [] 2 (c,r,name,())
def aps (c:D1)(r:a7)(name:ByteArray):nr F c r name=(dt F0 name).bind fun d=>(fm F0 c r.2.2.2.2.2.1 (d.1,name,[r.1])).bind fun a=>br (!a.2.1) (some ((r,false,()),())) ((ba F0 (r.1,r.2.1,r.2.2.1,r.2.2.2.1,r.2.2.2.2.1,a.1,r.2.2.2.2.2.2)).bind fun e=>(dt F0 name).bind fun f=>(oZ F0 c e.1 f.1 name false).bind fun b=>br b.1.2.1 (some ((b.1.1,true,()),())) (some (((r.1,r.2.1,r.2.2.1,r.2.2.2.1,r.2.2.2.2.1,a.1,r.2.2.2.2.2.2),true,()),()))):=by kernel_rfl
def Uc:Any:=.two ⟨aHq,1,(.own true),gH,2,[],fun x=>nr F0 x.1 x.2.1 x.2.2.1⟩
def apt:a1 308 Uc:=aB3 aa7 ⟨cm,eJ,se,CK,trivial⟩ func308 ad (by kernel_rfl)
def QH:=[(64,bX),(74,cp),(79,df),(199,ma),(304,IW),(305,CE),(306,aa2),(307,pE),(308,Uc)]
abbrev aEm:List (Ty×Bool):=[(K1,true),(ca,true),(K15,true)]
def q6 (c:D1)(r:a7)(b:D15):=bj QH F ad f263 aEm gH 2 (c,r,b,())
def afe (c:D1)(r:a7)(b:D15):q6 F c r b=(ba F0 r).bind fun d=>(dw F0 c r).bind fun k=>br (!k.1) (some (d.1,false,())) ((nE F0 c b).bind fun l=>br (!l.1) (some (d.1,false,())) ((ba F0 r).bind fun f=>(Qy F0 c r.2.2.2.1 b.2).bind fun g=>(dt F0 b.1).bind fun h=>br (decide (h.1>=r.2.1)) ((y7 F0 c g.1 b).bind fun i=>br (decide (h.1>=r.2.1)) (br i.1 ((Qz F0 c g.1 b).bind fun j=>(eK F0 c (f.1.1,h.1,f.1.2.2) j.1).bind fun a=>br a.2.1 (br i.1 ((nr F0 c a.1 b.1).bind fun e=>br (!e.1.2.1) (some (d.1,false,())) (some (e.1.1,true,()))) (some (a.1,true,()))) (some (d.1,false,()))) ((eK F0 c (f.1.1,h.1,f.1.2.2) g.1).bind fun a=>br a.2.1 (br i.1 ((nr F0 c a.1 b.1).bind fun e=>br (!e.1.2.1) (some (d.1,false,())) (some (e.1.1,true,()))) (some (a.1,true,()))) (some (d.1,false,())))) (br i.1 ((Qz F0 c g.1 b).bind fun j=>(eK F0 c f.1 j.1).bind fun a=>br a.2.1 (br i.1 ((nr F0 c a.1 b.1).bind fun e=>br (!e.1.2.1) (some (d.1,false,())) (some (e.1.1,true,()))) (some (a.1,true,()))) (some (d.1,false,()))) ((eK F0 c f.1 g.1).bind fun a=>br a.2.1 (br i.1 ((nr F0 c a.1 b.1).bind fun e=>br (!e.1.2.1) (some (d.1,false,())) (some (e.1.1,true,()))) (some (a.1,true,()))) (some (d.1,false,()))))) (br (decide (h.1>=r.2.1)) ((eK F0 c (f.1.1,h.1,f.1.2.2) g.1).bind fun a=>br a.2.1 (some (a.1,true,())) (some (d.1,false,()))) ((eK F0 c f.1 g.1).bind fun a=>br a.2.1 (some (a.1,true,())) (some (d.1,false,())))))):=by kernel_rfl
def wv:Any:=.one ⟨aEm,gH,2,fun x=>q6 F0 x.1 x.2.1 x.2.2.1⟩
def Nv:a1 263 wv:=aq QH ⟨cm,cT,eJ,uF,W7,T1,awL,CH,apt,trivial⟩ func263 ad (by kernel_rfl)
def Ud:=[(64,bX),(74,cp),(213,oy),(268,kZ),(311,pF)]
def Ee (c:D1)(r:a7)(p:D9):=bj Ud F ad f296 aku gH 2 (c,r,p,())
def ah5 (c:D1)(r:a7)(p:D9):Ee F c r p=(ba F0 r).bind fun b=>(dw F0 c r).bind fun f=>br (!f.1) (some (b.1,false,())) ((kT F0 c p).bind fun g=>br (!g.1) (some (b.1,false,())) (br (p.2.1.toList==ak.toList) (some (b.1,false,())) (br (decide (p.1<r.2.1)) (some (b.1,false,())) ((ba F0 r).bind fun a=>(fm F0 c r.2.2.2.2.2.1 p).bind fun d=>br (!d.2.1) (some (b.1,false,())) ((ba F0 (a.1.1,a.1.2.1,a.1.2.2.1,a.1.2.2.2.1,a.1.2.2.2.2.1,d.1,a.1.2.2.2.2.2.2)).bind fun h=>(oZ F0 c h.1 p.1 p.2.1 false).bind fun e=>br e.1.2.1 (some (e.1.1,true,())) (some ((a.1.1,a.1.2.1,a.1.2.2.1,a.1.2.2.2.1,a.1.2.2.2.2.1,d.1,a.1.2.2.2.2.2.2),true,()))))))):=by kernel_rfl
def Nw:Any:=.one ⟨aku,gH,2,fun x=>Ee F0 x.1 x.2.1 x.2.2.1⟩
def ah6:a1 296 Nw:=aq Ud ⟨cm,cT,yE,se,CK,trivial⟩ func296 ad (by kernel_rfl)
def Ue:=[(64,bX),(66,gX),(71,jW),(73,b7),(74,cp),(125,jx),(126,py),(127,uA),(134,gG),(268,kZ),(304,IW),(307,pE)]
abbrev aEn:List (Ty×Bool):=[(K1,true),(ca,true),(.int .i64,false),(K9,true),(.int .i64,false)]
def Ef (c:D1)(r:a7)(a:Int)(q:D9)(cw:Int):=bj Ue F ad f297 aEn gH 2 (c,r,a,q,cw,())
def ah7 (c:D1)(r:a7)(e:Int)(q:D9)(cw:Int):Ef F c r e q cw=(ba F0 r).bind fun f=>(dw F0 c r).bind fun h=>br (!h.1) (some (f.1,false,())) ((bN F0 e 1 60).bind fun i=>br (!i.1) (some (f.1,false,())) ((ky F0 c q).bind fun j=>br (!j.1) (some (f.1,false,())) ((bN F0 cw 0 (aj (c.1-1))).bind fun k=>br (!k.1) (some (f.1,false,())) ((ba F0 r).bind fun l=>(Qy F0 c r.2.2.2.1 q).bind fun m=>(eK F0 c l.1 m.1).bind fun a=>br a.2.1 ((mo F0 c e).bind fun o=>br (o.1==r.1) (br (decide (e>=r.2.1)) ((fm F0 c a.1.2.2.2.2.2.1 (e,ak,[cw])).bind fun g=>br (!g.2.1) (some (f.1,false,())) ((oV F0 g.1 e ak).bind fun p=>(w2 F0 c).bind fun s=>br (decide ((p.1.2.2.length:Int)>=s.1)) ((dK F0 a.1.2.1 e).bind fun t=>(bK F0 (aj (q.1+1)) 60).bind fun b=>(dK F0 t.1 b.1).bind fun d=>some ((a.1.1,d.1,a.1.2.2.1,a.1.2.2.2.1,a.1.2.2.2.2.1,g.1,a.1.2.2.2.2.2.2),true,())) ((bK F0 (aj (q.1+1)) 60).bind fun b=>(dK F0 a.1.2.1 b.1).bind fun d=>some ((a.1.1,d.1,a.1.2.2.1,a.1.2.2.2.1,a.1.2.2.2.2.1,g.1,a.1.2.2.2.2.2.2),true,())))) ((bK F0 (aj (q.1+1)) 60).bind fun b=>(dK F0 a.1.2.1 b.1).bind fun d=>some ((a.1.1,d.1,a.1.2.2),true,()))) ((bK F0 (aj (q.1+1)) 60).bind fun b=>(dK F0 a.1.2.1 b.1).bind fun d=>some ((a.1.1,d.1,a.1.2.2),true,()))) (some (f.1,false,())))))):=by kernel_rfl
def Nx:Any:=.one ⟨aEn,gH,2,fun x=>Ef F0 x.1 x.2.1 x.2.2.1 x.2.2.2.1 x.2.2.2.2.1⟩
def ah8:a1 297 Nx:=aq Ue ⟨cm,lH,oY,cz,cT,nH,CD,KD,kS,se,W7,CH,trivial⟩ func297 ad (by kernel_rfl)
def z6:=[(142,GA),(212,yD)]
def z7:Nat->Option Hint:=look [(2,{live:=[0,3,6],xl:=[0,3,6],rl:=[4,5]})]
def sf (p:List D4)(a x b c d:Int):= cQ 43 [(0,hV 52 (K4) p),b0 3,(6,a8 a)] [(3,[ao x,ao b,ao c,ao d])] []
def pG (p:List D4)(a x b c d:Int):= cQ 43 [(0,hV 52 (K4) p),b0 3,(6,a8 a)] [(3,[ao x,ao b,ao c,ao d])] []
def z8 (a:St):Option U:=ff z6 F z7 [.r,.r,.l,.b,.i] f336 J n a
def sg:=hQ z6 F z7 [.r,.r,.l,.b] f336 WA 2
def HC (p:List D4)(a x b c d:Int):z8 F J (n+1) (sf p a x b c d)=br (decide (a<(p.length:Int))) (ck (bG a (p.length:Int)) ((tR F0 (aI p a K4.az) (x,b,c,d)).bind fun e=>br e.1 (z8 F J n (sf p (aj (a+1)) x b c d)) (J (.exit 0) (pG p a x b c d)))) (J (.exit 0) (pG p a x b c d)):=by kernel_rfl
def acX (p:List D4)(a x b c d:Int):sg F (.exit 0) (pG p a x b c d)=ck (Tx 0 a (p.length:Int)) (ck (ep F 0 ((p.take a.toNat).drop (0:Int).toNat).length 32) (ck (ep F ([]++((p.take a.toNat).drop (0:Int).toNat)).length [(x,b,c,d)].length 32) (ck (Tx a (p.length:Int) (p.length:Int)) (ck (ep F (([]++((p.take a.toNat).drop (0:Int).toNat))++[(x,b,c,d)]).length ((p.take (p.length:Int).toNat).drop a.toNat).length 32) ((Fo F0 ((([]++((p.take a.toNat).drop (0:Int).toNat))++[(x,b,c,d)])++((p.take (p.length:Int).toNat).drop a.toNat))).bind fun e=>br (!e.1) (ck (ep F 0 p.length 32) (some ([]++p,false,()))) (some ((([]++((p.take a.toNat).drop (0:Int).toNat))++[(x,b,c,d)])++((p.take (p.length:Int).toNat).drop a.toNat),true,()))))))):=by kernel_rfl
abbrev aEo:List (Ty×Bool):=[(K5,false),(K4,true)]
def I1 (p:D5)(x:D4):=bj z6 F z7 f336 aEo WA 2 (p,x,())
def amg (p:D5)(x:D4):I1 F p x=z8 F (sg F) F.n (sf p 0 x.1 x.2.1 x.2.2.1 x.2.2.2):=by kernel_rfl
def QI:Any:=.one ⟨aEo,WA,2,fun x=>I1 F0 x.1 x.2.1⟩
def amh:a1 336 QI:=aq z6 ⟨WC,Qa,trivial⟩ func336 z7 (by kernel_rfl)
def aa8:=[(64,bX),(74,cp),(336,QI)]
abbrev aEp:List (Ty×Bool):=[(K1,true),(ca,true),(K4,true)]
def Ny (c:D1)(r:a7)(x:D4):=bj aa8 F ad f298 aEp gH 2 (c,r,x,())
def apu (c:D1)(r:a7)(x:D4):Ny F c r x=(ba F0 r).bind fun a=>(dw F0 c r).bind fun d=>br (!d.1) (some (a.1,false,())) ((I1 F0 r.2.2.2.2.1 x).bind fun b=>br b.2.1 (some ((a.1.1,a.1.2.1,a.1.2.2.1,a.1.2.2.2.1,b.1,a.1.2.2.2.2.2),b.2.1,())) (some (a.1,b.2.1,()))):=by kernel_rfl
def Uf:Any:=.one ⟨aEp,gH,2,fun x=>Ny F0 x.1 x.2.1 x.2.2.1⟩
def apv:a1 298 Uf:=aq aa8 ⟨cm,cT,amh,trivial⟩ func298 ad (by kernel_rfl)
def Xe:=[(263,wv),(296,Nw),(297,Nx),(298,Uf)]
abbrev aa9:List (Ty×Bool):=[(K1,true),(ca,true),(K21,true)]
def I2 (c:D1)(r:a7)(m:Po):=bj Xe F ad f256 aa9 gH 2 (c,r,m,())
def ami (c:D1)(r:a7)(m:Po):I2 F c r m=br (m.1==1) ((q6 F0 c r m.2.2.1).bind fun a=>some (a.1,a.2.1,())) (br (m.1==2) ((Ee F0 c r m.2.2.2.1).bind fun b=>some (b.1,b.2.1,())) (br (m.1==3) ((Ef F0 c r m.2.1 m.2.2.2.2.1 m.2.2.2.2.2.1).bind fun d=>some (d.1,d.2.1,())) ((Ny F0 c r m.2.2.2.2.2.2).bind fun e=>some (e.1,e.2.1,())))):=by kernel_rfl
def QJ:Any:=.one ⟨aa9,gH,2,fun x=>I2 F0 x.1 x.2.1 x.2.2.1⟩
def amj:a1 256 QJ:=aq Xe ⟨Nv,ah6,ah8,apv,trivial⟩ func256 ad (by kernel_rfl)
def sh:=[(194,jG)]
def si:Nat->Option Hint:=look [(3,{live:=[0,1,5,6],xl:=[5],rl:=[4]})]
def jX (a:List D9)(b i:Int)(c:List D9):= cQ 30 [(0,hV 50 (K9) a),(1,a8 b),(5,.v (.c (.own 1000000 none))),(6,a8 i)] [] [ay 1000000 50 K9 c]
def HD (a:List D9):= cQ 30 [(5,.v (.c (.own 1000000 none)))] [] [ay 1000000 50 K9 a]
def mz (a:St):Option U:=ff sh F si [.r,.r,.l,.r,.b,.i] f257 J n a
def wx:=hQ sh F si [.r,.r,.l,.r,.b] f257 Hp 2
def BX (a:List D9)(c i:Int)(b:List D9):mz F J (n+1) (jX a c i b)=br (decide (i<(a.length:Int))) (ck (bG i (a.length:Int)) (br (decide ((aI a i K9.az).1>=c)) (ck (bG i (a.length:Int)) ((gI F0 (aI a i K9.az)).bind fun d=>ck (ep F b.length [d.1].length 48) (mz F J n (jX a c (aj (i+1)) (b++[d.1]))))) (mz F J n (jX a c (aj (i+1)) b)))) (J (.exit 0) (HD b)):=by kernel_rfl
def Xf (a:List D9):wx F (.exit 0) (HD a)=some (a,()):=by kernel_rfl
abbrev aEq:List (Ty×Bool):=[(K13,false),(.int .i64,false)]
def Aa (a:D13)(b:Int):=bj sh F si f257 aEq Hp 2 (a,b,())
def aff (a:D13)(b:Int):Aa F a b=mz F (wx F) F.n (jX a b 0 []):=by kernel_rfl
def Lh:Any:=.one ⟨aEq,Hp,2,fun x=>Aa F0 x.1 x.2.1⟩
def afg:a1 257 Lh:=aq sh ⟨oB,trivial⟩ func257 si (by kernel_rfl)
def afh:=[(74,cp),(128,GH),(129,wo),(130,KS)]
def Li (c:D1)(r:a7):=bj afh F ad f259 x8 nq 2 (c,r,())
def as6 (c:D1)(r:a7):Li F c r=(dw F0 c r).bind fun a=>br (!a.1) (some (([],[]),())) ((mq F0).bind fun b=>(wq F0 r.2.2.2.1.2.2.2).bind fun d=>(w6 F0 b.1 d.1).bind fun e=>some (e.1,())):=by kernel_rfl
def Xg:Any:=.one ⟨x8,nq,2,fun x=>Li F0 x.1 x.2.1⟩
def as7:a1 259 Xg:=aq afh ⟨cT,WW,Ng,aa0,trivial⟩ func259 ad (by kernel_rfl)
end
end Go.Am.Tryz
namespace Go.Am.Tryz
open Go.Am Go.Proofs Go.Proofs.Tryz
noncomputable section
variable {U:Type} (F:p5) (J:Ex->St->Option U) (n:Nat)
def vi:=[(197,IP)]
def vj:Nat->Option Hint:=look [(3,{live:=[0,3,5,6],xl:=[5],rl:=[4]})]
def k0 (p:List D4)(i:Int)(l a:List Int)(b:List D4):= cQ 35 [(0,hV 52 (K4) p),b0 3,(5,.v (.c (.own 1000000 none))),(6,a8 i)] [(3,[.ro false 3 (.int .i64) l,.ro false 3 (.int .i64) a])] [ay 1000000 52 K4 b]
def Lj (a:List D4):= cQ 35 [(5,.v (.c (.own 1000000 none)))] [] [ay 1000000 52 K4 a]
def oD (a:St):Option U:=ff vi F vj [.r,.r,.l,.r,.b,.i] f258 J n a
def Ab:=hQ vi F vj [.r,.r,.l,.r,.b] f258 km 2
def FC (p:List D4)(i:Int)(l b:List Int)(a:List D4):oD F J (n+1) (k0 p i l b a)=br (decide (i<(p.length:Int))) (ck (bG i (p.length:Int)) ((KW F0 (l,b) (aI p i K4.az)).bind fun c=>br (c.2.1 != 2) (ck (bG i (p.length:Int)) (ck (ep F a.length [(aI p i K4.az)].length 32) (oD F J n (k0 p (aj (i+1)) l b (a++[(aI p i K4.az)]))))) (oD F J n (k0 p (aj (i+1)) l b a)))) (J (.exit 0) (Lj a)):=by kernel_rfl
def ZW (a:List D4):Ab F (.exit 0) (Lj a)=some (a,()):=by kernel_rfl
def Eg (p:D5)(l:D43):=bj vi F vj f258 akp km 2 (p,l,())
def ah9 (p:D5)(l:D43):Eg F p l=oD F (Ab F) F.n (k0 p 0 l.1 l.2 []):=by kernel_rfl
def Nz:Any:=.one ⟨akp,km,2,fun x=>Eg F0 x.1 x.2.1⟩
def aia:a1 258 Nz:=aq vi ⟨WV,trivial⟩ func258 vj (by kernel_rfl)
def akx:=[(64,bX),(74,cp),(145,jU),(256,QJ),(257,Lh),(258,Nz),(259,Xg)]
def QK (c:D1)(r:a7)(m:Po):=bj akx F ad f202 aa9 gH 2 (c,r,m,())
def awP (c:D1)(r:a7)(m:Po):QK F c r m=(dw F0 c r).bind fun e=>br (!e.1) ((ba F0 r).bind fun b=>some (b.1,false,())) ((fw F0 c m).bind fun f=>br (!f.1) ((ba F0 r).bind fun b=>some (b.1,false,())) ((I2 F0 c r m).bind fun a=>br (!a.2.1) ((ba F0 r).bind fun g=>some (g.1,false,())) ((Aa F0 a.1.2.2.2.2.2.1 (aj (a.1.2.1-1))).bind fun d=>(Li F0 c (a.1.1,a.1.2.1,a.1.2.2.1,a.1.2.2.2.1,a.1.2.2.2.2.1,d.1,a.1.2.2.2.2.2.2)).bind fun h=>(Eg F0 a.1.2.2.2.2.1 h.1).bind fun i=>some ((a.1.1,a.1.2.1,a.1.2.2.1,a.1.2.2.2.1,i.1,d.1,a.1.2.2.2.2.2.2),true,())))):=by kernel_rfl
def Pr:Any:=.one ⟨aa9,gH,2,fun x=>QK F0 x.1 x.2.1 x.2.2.1⟩
def afi:a1 202 Pr:=aq akx ⟨cm,cT,oU,amj,afg,aia,as7,trivial⟩ func202 ad (by kernel_rfl)
def aba:=[(68,cL),(73,b7),(77,KN),(202,Pr)]
def xt (w:lE)(d:D45):Option (lE×Int×lE):=asx Tryz.prog (look aba) F ad f137 [(hU,true),(K45,true)] 0 (hU,true) (.int .i64,false) (hU,true) (w,d,())
def apw (w:lE)(d:D45):xt F w d=(bN F0 d.2.1 0 (aj ((w.2.2.2.1.length:Int)-1))).bind fun b=>br (!b.1) (some (hU.az,2,w)) (ck (bG d.2.1 (w.2.2.2.1.length:Int)) (br (d.1==5) (br (decide ((w.2.2.2.1.length:Int)>=60)) (some (hU.az,4,w)) (ck (ep F 0 (aI w.2.2.2.1 d.2.1 (0,[])).2.length 1) (ck (ep F w.2.2.2.1.length [((aI w.2.2.2.1 d.2.1 (0,[])).1,[]++(aI w.2.2.2.1 d.2.1 (0,[])).2)].length 32) (some ((w.1,w.2.1,w.2.2.1,w.2.2.2.1++[((aI w.2.2.2.1 d.2.1 (0,[])).1,[]++(aI w.2.2.2.1 d.2.1 (0,[])).2)],w.2.2.2.2),0,hU.az))))) (ck (okT d.2.1 (w.2.2.2.1.length:Int)) (ck (Tx (aj (d.2.1+1)) (w.2.2.2.1.length:Int) (w.2.2.2.1.length:Int)) (ck (ep F 0 (w.2.2.2.1.take d.2.1.toNat).length 32) (ck (ep F ([]++(w.2.2.2.1.take d.2.1.toNat)).length ((w.2.2.2.1.take (w.2.2.2.1.length:Int).toNat).drop (aj (d.2.1+1)).toNat).length 32) (br (d.1==3) ((cW F0 w.2.1 (aI w.2.2.2.1 d.2.1 (0,[])).1).bind fun c=>br (!c.1) ((KM F0 w.1 (aI w.2.2.2.1 d.2.1 (0,[])).2).bind fun e=>ck (bG (aI w.2.2.2.1 d.2.1 (0,[])).1 (w.2.2.1.length:Int)) ((QK F0 w.1 (aI w.2.2.1 (aI w.2.2.2.1 d.2.1 (0,[])).1 ca.az) e.1).bind fun a=>br a.2.1 (ck (bG (aI w.2.2.2.1 d.2.1 (0,[])).1 (w.2.2.1.length:Int)) (some ((w.1,w.2.1,w.2.2.1.set (aI w.2.2.2.1 d.2.1 (0,[])).1.toNat a.1,([]++(w.2.2.2.1.take d.2.1.toNat))++((w.2.2.2.1.take (w.2.2.2.1.length:Int).toNat).drop (aj (d.2.1+1)).toNat),w.2.2.2.2),0,hU.az))) (some ((w.1,w.2.1,w.2.2.1,([]++(w.2.2.2.1.take d.2.1.toNat))++((w.2.2.2.1.take (w.2.2.2.1.length:Int).toNat).drop (aj (d.2.1+1)).toNat),w.2.2.2.2),0,hU.az)))) (some ((w.1,w.2.1,w.2.2.1,([]++(w.2.2.2.1.take d.2.1.toNat))++((w.2.2.2.1.take (w.2.2.2.1.length:Int).toNat).drop (aj (d.2.1+1)).toNat),w.2.2.2.2),0,hU.az))) (some ((w.1,w.2.1,w.2.2.1,([]++(w.2.2.2.1.take d.2.1.toNat))++((w.2.2.2.1.take (w.2.2.2.1.length:Int).toNat).drop (aj (d.2.1+1)).toNat),w.2.2.2.2),0,hU.az))))))))):=by kernel_rfl
def Ug:Any:=.sel ⟨[(hU,true),(K45,true)],0,(hU,true),(.int .i64,false),(hU,true),fun x=>xt F0 x.1 x.2.1⟩
def apx:a1 137 Ug:=ok4 (show ym Tryz.prog TB aba from⟨dL,cz,aaX,afi,trivial⟩) func137 (by kernel_rfl) (by kernel_rfl) ad (by kernel_rfl) (by kernel_rfl)
def Eh:Nat->Option Hint:=look [(2,{live:=[0,1,2,3,9],rl:=[8]})]
def kB (a:List bE)(b:Int)(name:ByteArray)(cw i:Int):= bP 41 [(0,hV 41 (cl) a),(1,a8 b),(2,qqs name),(3,a8 cw),(9,a8 i)]
def Uh (a:Bool):= bP 41 [(8,Ir a)]
def QL   := bP 41 []
def o0 (a:St):Option U:=ff aA F Eh [.r,.l,.r,.b,.i] f299 J n a
def vk:=hQ aA F Eh [.r,.l,.r,.b] f299 aO 1
def Lk (a:List bE)(b:Int)(name:ByteArray)(cw i:Int):o0 F J (n+1) (kB a b name cw i)=br (decide (i<(a.length:Int))) (ck (bG i (a.length:Int)) (br ((aI a i cl.az).1==b) (ck (bG i (a.length:Int)) (br ((aI a i cl.az).2.1.toList==name.toList) (ck (bG i (a.length:Int)) (br ((aI a i cl.az).2.2==cw) (J .ret (Uh true)) (o0 F J n (kB a b name cw (aj (i+1)))))) (o0 F J n (kB a b name cw (aj (i+1)))))) (o0 F J n (kB a b name cw (aj (i+1)))))) (J (.exit 0) (QL)):=by kernel_rfl
def aib (a:Bool):vk F .ret (Uh a)=some (a,()):=by kernel_rfl
def afj: vk F (.exit 0) (QL)=some (false,()):=by kernel_rfl
abbrev aKH:List (Ty×Bool):=[(K38,false),(.int .i64,false),(.str,false),(.int .i64,false)]
def FD (a:D38)(b:Int)(name:ByteArray)(cw:Int):=bj aA F Eh f299 aKH aO 1 (a,b,name,cw,())
def apy (a:D38)(b:Int)(name:ByteArray)(cw:Int):FD F a b name cw=o0 F (vk F) F.n (kB a b name cw 0):=by kernel_rfl
def GO:Any:=.one ⟨aKH,aO,1,fun x=>FD F0 x.1 x.2.1 x.2.2.1 x.2.2.2.1⟩
def Xh:a1 299 GO:=aq aA trivial func299 Eh (by kernel_rfl)
def Ei:=[(68,cL),(299,GO)]
def Ej:Nat->Option Hint:=look [(2,{live:=[0,1,2,3,4,11],rl:=[10]})]
def oE (liars:List Int)(a:List bE)(b:Int)(name:ByteArray)(cw:List Int)(i:Int):= bP 36 [(0,hV 3 (.int .i64) liars),(1,hV 41 (cl) a),(2,a8 b),(3,qqs name),(4,hV 3 (.int .i64) cw),(11,a8 i)]
def Ui (a:Bool):= bP 36 [(10,Ir a)]
def QM   := bP 36 []
def tX (a:St):Option U:=ff Ei F Ej [.r,.l,.r,.b,.i] f260 J n a
def vl:=hQ Ei F Ej [.r,.l,.r,.b] f260 aO 1
def Ll (liars:List Int)(a:List bE)(b:Int)(name:ByteArray)(cw:List Int)(i:Int):tX F J (n+1) (oE liars a b name cw i)=br (decide (i<(cw.length:Int))) (ck (bG i (cw.length:Int)) ((cW F0 liars (aI cw i 0)).bind fun c=>br (!c.1) (ck (bG i (cw.length:Int)) ((FD F0 a b name (aI cw i 0)).bind fun d=>br (!d.1) (J .ret (Ui false)) (tX F J n (oE liars a b name cw (aj (i+1)))))) (tX F J n (oE liars a b name cw (aj (i+1)))))) (J (.exit 0) (QM)):=by kernel_rfl
def aic (a:Bool):vl F .ret (Ui a)=some (a,()):=by kernel_rfl
def afk: vl F (.exit 0) (QM)=some (true,()):=by kernel_rfl
abbrev aEr:List (Ty×Bool):=[(.sl 3 (.int .i64),false),(K38,false),(.int .i64,false),(.str,false),(.sl 3 (.int .i64),false)]
def xx (liars:List Int)(a:D38)(b:Int)(name:ByteArray)(cw:List Int):=bj Ei F Ej f260 aEr aO 1 (liars,a,b,name,cw,())
def apz (liars:List Int)(a:D38)(b:Int)(name:ByteArray)(cw:List Int):xx F liars a b name cw=tX F (vl F) F.n (oE liars a b name cw 0):=by kernel_rfl
def Uj:Any:=.one ⟨aEr,aO,1,fun x=>xx F0 x.1 x.2.1 x.2.2.1 x.2.2.2.1 x.2.2.2.2.1⟩
def apA:a1 260 Uj:=aq Ei ⟨dL,Xh,trivial⟩ func260 Ej (by kernel_rfl)
def abb:=[(68,cL),(79,df),(125,jx),(145,jU),(260,Uj)]
abbrev aEs:List (Ty×Bool):=[(K1,true),(.sl 3 (.int .i64),false),(K38,false),(K21,true)]
def NA (c:D1)(liars:List Int)(a:D38)(m:Po):=bj abb F ad f203 aEs aO 1 (c,liars,a,m,())
def apB (c:D1)(liars:List Int)(a:D38)(m:Po):NA F c liars a m=(fw F0 c m).bind fun b=>br (!b.1) (some (false,())) (br (m.1==1) ((dt F0 m.2.2.1.1).bind fun d=>(mo F0 c d.1).bind fun e=>(cW F0 liars e.1).bind fun f=>br f.1 ((xx F0 liars a m.2.2.1.2.1 m.2.2.1.2.2.1 m.2.2.1.2.2.2).bind fun g=>some (g.1,())) (some (false,()))) (br (m.1==2) ((xx F0 liars a m.2.2.2.1.1 m.2.2.2.1.2.1 m.2.2.2.1.2.2).bind fun h=>some (h.1,())) (br (m.1==3) ((cW F0 liars m.2.2.2.2.2.1).bind fun i=>br i.1 ((xx F0 liars a m.2.2.2.2.1.1 m.2.2.2.2.1.2.1 m.2.2.2.2.1.2.2).bind fun j=>some (j.1,())) (some (false,()))) (some (true,()))))):=by kernel_rfl
def Uk:Any:=.one ⟨aEs,aO,1,fun x=>NA F0 x.1 x.2.1 x.2.2.1 x.2.2.2.1⟩
def apC:a1 203 Uk:=aq abb ⟨dL,eJ,nH,oU,apA,trivial⟩ func203 ad (by kernel_rfl)
def Ac:=[(300,iq)]
def Ad:Nat->Option Hint:=look [(3,{live:=[0,3,4],xl:=[3],rl:=[2]})]
def sj (a:List Int)(i:Int)(b:List Int):= cQ 20 [(0,hV 3 (.int .i64) a),(3,.v (.c (.own 1000000 none))),(4,a8 i)] [] [ay 1000000 5 (.int .u8) b]
def NB (a:List Int):= cQ 20 [(3,.v (.c (.own 1000000 none)))] [] [ay 1000000 5 (.int .u8) a]
def Ae (a:St):Option U:=ff Ac F Ad [.r,.r,.l,.r,.b,.i] f303 J n a
def CL:=hQ Ac F Ad [.r,.r,.l,.r,.b] f303 lF 2
def HE (a:List Int)(i:Int)(b:List Int):Ae F J (n+1) (sj a i b)=br (decide (i<(a.length:Int))) (ck (bG i (a.length:Int)) ((et F0 (aI a i 0)).bind fun c=>ck (ep F b.length c.1.length 1) (Ae F J n (sj a (aj (i+1)) (b++c.1))))) (J (.exit 0) (NB b)):=by kernel_rfl
def acY (a:List Int):CL F (.exit 0) (NB a)=some (a,()):=by kernel_rfl
def sk (a:List Int):=bj Ac F Ad f303 kr lF 2 (a,())
def amk (a:List Int):sk F a=Ae F (CL F) F.n (sj a 0 []):=by kernel_rfl
def QN:Any:=.one ⟨kr,lF,2,fun x=>sk F0 x.1⟩
def aml:a1 303 QN:=aq Ac ⟨mv,trivial⟩ func303 Ad (by kernel_rfl)
def Ul:=[(145,jU),(300,iq),(301,r7),(302,CG),(303,QN)]
def Ek (c:D1)(m:Po):=bj Ul F ad f261 akk lF 2 (c,m,())
def aid (c:D1)(m:Po):Ek F c m=(fw F0 c m).bind fun l=>br (!l.1) (some ([],())) ((et F0 m.1).bind fun a=>br (m.1==1) ((nI F0 m.2.2.1.1).bind fun e=>ck (ep F a.1.length e.1.length 1) ((r9 F0 c m.2.2.1.2).bind fun h=>ck (ep F (a.1++e.1).length h.1.length 1) (some ((a.1++e.1)++h.1,())))) (br (m.1==2) ((et F0 m.2.2.2.1.1).bind fun b=>ck (ep F a.1.length b.1.length 1) ((nI F0 m.2.2.2.1.2.1).bind fun d=>ck (ep F (a.1++b.1).length d.1.length 1) ((et F0 (m.2.2.2.1.2.2.length:Int)).bind fun f=>ck (ep F ((a.1++b.1)++d.1).length f.1.length 1) ((sk F0 m.2.2.2.1.2.2).bind fun i=>ck (ep F (((a.1++b.1)++d.1)++f.1).length i.1.length 1) (some ((((a.1++b.1)++d.1)++f.1)++i.1,())))))) (br (m.1==3) ((sk F0 [m.2.1,m.2.2.2.2.2.1]).bind fun g=>ck (ep F a.1.length g.1.length 1) ((r9 F0 c m.2.2.2.2.1).bind fun j=>ck (ep F (a.1++g.1).length j.1.length 1) (some ((a.1++g.1)++j.1,())))) ((sk F0 [m.2.2.2.2.2.2.1,m.2.2.2.2.2.2.2.1,m.2.2.2.2.2.2.2.2.1,m.2.2.2.2.2.2.2.2.2]).bind fun k=>ck (ep F a.1.length k.1.length 1) (some (a.1++k.1,())))))):=by kernel_rfl
def NC:Any:=.one ⟨akk,lF,2,fun x=>Ek F0 x.1 x.2.1⟩
def aie:a1 261 NC:=aq Ul ⟨oU,mv,GL,T3,aml,trivial⟩ func261 ad (by kernel_rfl)
def Af:=[(73,b7),(261,NC)]
def Ag:Nat->Option Hint:=look [(2,{live:=[1,2,4,5],aKN:=true,yh:=[(4,2,3,.int .i64),(4,3,65,ca),(4,4,105,eo),(4,5,41,cl)],xl:=[2,4],rl:=[4]})]
def gl (j:List lD)(i w a k l:Int)(m:List Int)(b:List a7)(c:List bS)(d:List bE)(e:List Int)(f:List a7)(g:List bS)(h:List bE):St:={nt:=55,tm:=[(1,hV 136 (p2) j),b0 2,b0 4,(5,a8 i)],bx:=[(2,[ao w,ao a,.own 1000000 none,.own 1000001 none,.own 1000002 none,.own 1000003 none]),(4,[ao k,ao l,.own 1000004 none,.own 1000005 none,.own 1000006 none,.own 1000007 none])],bl:=[ay 1000000 3 (.int .i64) m,ay 1000001 65 ca b,ay 1000002 105 eo c,ay 1000003 41 cl d,ay 1000004 3 (.int .i64) e,ay 1000005 65 ca f,ay 1000006 105 eo g,ay 1000007 41 cl h],sp:=.v (.c (.none))}
def ND (w a i j:Int)(k:List Int)(b:List a7)(c:List bS)(d:List bE)(e:List Int)(f:List a7)(g:List bS)(h:List bE):St:={nt:=55,tm:=[b0 2,b0 4],bx:=[(2,[ao w,ao a,.own 1000000 none,.own 1000001 none,.own 1000002 none,.own 1000003 none]),(4,[ao i,ao j,.own 1000004 none,.own 1000005 none,.own 1000006 none,.own 1000007 none])],bl:=[ay 1000000 3 (.int .i64) k,ay 1000001 65 ca b,ay 1000002 105 eo c,ay 1000003 41 cl d,ay 1000004 3 (.int .i64) e,ay 1000005 65 ca f,ay 1000006 105 eo g,ay 1000007 41 cl h],sp:=.v (.c (.none))}
def jY (a:St):Option U:=ff Af F Ag [.r,.l,.r,.b,.i] f204 J n a
def CM:=azd Af F Ag [.r,.l,.r,.b] f204 (.own true) dy [] 2
def HF (a:List lD)(i w c k l:Int)(m:List Int)(d:List a7)(b:List bS)(e:List bE)(f:List Int)(g:List a7)(h:List bS)(j:List bE):jY F J (n+1) (gl a i w c k l m d b e f g h j)=br (decide (i<(a.length:Int))) (ck (bG i (a.length:Int)) ((Ek F0 (w,c) (aI a i p2.az).2).bind fun o=>br (decide ((b.length:Int)<60)) (br (decide ((o.1.length:Int)>0)) (ck (bG i (a.length:Int)) ((bN F0 (aI a i p2.az).1 0 (aj (w-1))).bind fun p=>br p.1 (ck (bG i (a.length:Int)) (ck (ep F b.length [((aI a i p2.az).1,o.1)].length 32) (jY F J n (gl a (aj (i+1)) w c k l m d (b++[((aI a i p2.az).1,o.1)]) e f g h j)))) (jY F J n (gl a (aj (i+1)) w c k l m d b e f g h j)))) (jY F J n (gl a (aj (i+1)) w c k l m d b e f g h j))) (jY F J n (gl a (aj (i+1)) w c k l m d b e f g h j)))) (J (.exit 0) (ND w c k l m d b e f g h j)):=by kernel_rfl
def acZ (w a j k:Int)(e:List Int)(b:List a7)(c:List bS)(d:List bE)(f:List Int)(g:List a7)(h:List bS)(i:List bE):CM F (.exit 0) (ND w a j k e b c d f g h i)=some ((((w,a),e,b,c,d),()),()):=by kernel_rfl
abbrev aEt:List (Ty×Bool):=[(hU,true),(K23,false)]
def Ah (w:lE)(a:D23):=Fl Af F Ag f204 aEt 0 (.own true) dy [] 2 (w,a,())
def amm (w:lE)(a:D23):Ah F w a=jY F (CM F) F.n (gl a 0 w.1.1 w.1.2 0 0 w.2.1 w.2.2.1 w.2.2.2.1 w.2.2.2.2 [] [] [] []):=by kernel_rfl
def CN:Any:=.two ⟨aEt,0,(.own true),dy,2,[],fun x=>Ah F0 x.1 x.2.1⟩
def Um:a1 204 CN:=aB3 Af ⟨cz,aie,trivial⟩ func204 Ag (by kernel_rfl)
def abc:=[(73,b7),(203,Uk),(204,CN)]
def NF (w:lE)(d:D45):Option (lE×Int×lE):=asx Tryz.prog (look abc) F ad f138 [(hU,true),(K45,true)] 0 (hU,true) (.int .i64,false) (hU,true) (w,d,())
def apD (w:lE)(d:D45):NF F w d=(bN F0 d.2.1 0 (aj (w.1.1-1))).bind fun a=>br (!a.1) (some (hU.az,2,w)) ((NA F0 w.1 w.2.1 w.2.2.2.2 d.2.2.2).bind fun b=>br (!b.1) (some (hU.az,5,w)) (br (decide ((w.2.2.2.1.length:Int)>=60)) (some (hU.az,4,w)) ((Ah F0 w [(d.2.1,d.2.2.2)]).bind fun c=>some (c.1.1,0,hU.az)))):=by kernel_rfl
def Un:Any:=.sel ⟨[(hU,true),(K45,true)],0,(hU,true),(.int .i64,false),(hU,true),fun x=>NF F0 x.1 x.2.1⟩
def apE:a1 138 Un:=ok4 (show ym Tryz.prog TB abc from⟨cz,apC,Um,trivial⟩) func138 (by kernel_rfl) (by kernel_rfl) ad (by kernel_rfl) (by kernel_rfl)
def El:=[(68,cL)]
def Em:Nat->Option Hint:=look [(3,{live:=[1,3,4],xl:=[3],rl:=[2]})]
def kC (i w a:Int)(b:List Int)(c:List a7)(d:List bS)(e:List bE)(f:List Int):= cQ 23 [b0 1,(3,.v (.c (.own 1000000 none))),(4,a8 i)] [(1,[ao w,ao a,.ro false 3 (.int .i64) b,.ro false 65 (ca) c,.ro false 105 (eo) d,.ro false 41 (cl) e])] [ay 1000000 3 (.int .i64) f]
def QO (a:List Int):= cQ 23 [(3,.v (.c (.own 1000000 none)))] [] [ay 1000000 3 (.int .i64) a]
def o3 (a:St):Option U:=ff El F Em [.r,.r,.l,.r,.b,.i] f139 J n a
def vm:=hQ El F Em [.r,.r,.l,.r,.b] f139 kr 2
def Lm (i w d:Int)(b:List Int)(c:List a7)(e:List bS)(f:List bE)(a:List Int):o3 F J (n+1) (kC i w d b c e f a)=br (decide (i<(c.length:Int))) ((cW F0 b i).bind fun g=>br (!g.1) (ck (ep F a.length [i].length 8) (o3 F J n (kC (aj (i+1)) w d b c e f (a++[i])))) (o3 F J n (kC (aj (i+1)) w d b c e f a))) (J (.exit 0) (QO a)):=by kernel_rfl
def afl (a:List Int):vm F (.exit 0) (QO a)=some (a,()):=by kernel_rfl
def FE (w:lE):=bj El F Em f139 dy kr 2 (w,())
def apF (w:lE):FE F w=o3 F (vm F) F.n (kC 0 w.1.1 w.1.2 w.2.1 w.2.2.1 w.2.2.2.1 w.2.2.2.2 []):=by kernel_rfl
def GP:Any:=.one ⟨dy,kr,2,fun x=>FE F0 x.1⟩
def Xi:a1 139 GP:=aq El ⟨dL,trivial⟩ func139 Em (by kernel_rfl)
def Ai:=[(64,bX),(74,cp),(269,my)]
def Aj:Nat->Option Hint:=look [(5,{live:=[3,4,5,6,8,9],yh:=[(6,7,3,.int .i64),(6,9,52,K4),(6,10,50,K9),(6,11,5,.int .u8),(6,13,136,p2)],xl:=[6,8],rl:=[6,7]})]
def mA (i c a r b d e f g:Int)(h:ByteArray)(j:List Int)(k:ByteArray)(l:List D4)(o:List D9)(p:List Int)(q:Int)(s:List lD)(m M:Int)(m2:ByteArray)(N:Int)(O:ByteArray)(P:List Int)(Q:Int)(R:ByteArray)(S:List Int)(T:Int)(W:ByteArray)(X:List Int)(Y Z qd qe qf qg qh qi qj qk ql:Int)(qm qn:ByteArray)(qo qp t u v w x:Int)(y z:ByteArray)(A:Int)(qq:List Int)(B:List D4)(C:List D9)(D:List Int)(E:List lD)(G:List Int)(H:List D4)(I:List D9)(K:List Int)(L:List lD):= cQ 43 [b0 3,b0 4,b0 5,b0 6,b0 8,(9,a8 i)] [(3,[ao c,ao a]),(4,[ao r,ao b,ao d,ao e,ao f,ao g,.str h,.ro false 3 (.int .i64) j,.str k,.ro false 52 (K4) l,.ro false 50 (K9) o,.ro false 5 (.int .u8) p,ao q,.ro false 136 (p2) s]),(5,[ao m,ao M,.str m2,ao N,.str O,.ro false 3 (.int .i64) P,ao Q,.str R,.ro false 3 (.int .i64) S,ao T,.str W,.ro false 3 (.int .i64) X,ao Y,ao Z,ao qd,ao qe,ao qf]),(6,[ao qg,ao qh,ao qi,ao qj,ao qk,ao ql,.str qm,.own 1000000 none,.str qn,.own 1000001 none,.own 1000002 none,.own 1000003 none,ao qo,.own 1000004 none]),(8,[ao qp,ao t,ao u,ao v,ao w,ao x,.str y,.own 1000005 none,.str z,.own 1000006 none,.own 1000007 none,.own 1000008 none,ao A,.own 1000009 none])] [ay 1000000 3 (.int .i64) qq,ay 1000001 52 K4 B,ay 1000002 50 K9 C,ay 1000003 5 (.int .u8) D,ay 1000004 136 p2 E,ay 1000005 3 (.int .i64) G,ay 1000006 52 K4 H,ay 1000007 50 K9 I,ay 1000008 5 (.int .u8) K,ay 1000009 136 p2 L]
def QP (e:Bool)(f g h i j k:Int)(l m:ByteArray)(o:Int)(p:List Int)(a:List D4)(b:List D9)(c:List Int)(d:List lD):= cQ 43 [b0 6,(7,Ir e)] [(6,[ao f,ao g,ao h,ao i,ao j,ao k,.str l,.own 1000000 none,.str m,.own 1000001 none,.own 1000002 none,.own 1000003 none,ao o,.own 1000004 none])] [ay 1000000 3 (.int .i64) p,ay 1000001 52 K4 a,ay 1000002 50 K9 b,ay 1000003 5 (.int .u8) c,ay 1000004 136 p2 d]
def NG (s t u v w x:Int)(y z:ByteArray)(A B a b c d e:Int)(f g:ByteArray)(h:Int)(C:List Int)(i:List D4)(j:List D9)(k:List Int)(l:List lD)(m:List Int)(o:List D4)(p:List D9)(q:List Int)(r:List lD):= cQ 43 [b0 6,b0 8] [(6,[ao s,ao t,ao u,ao v,ao w,ao x,.str y,.own 1000000 none,.str z,.own 1000001 none,.own 1000002 none,.own 1000003 none,ao A,.own 1000004 none]),(8,[ao B,ao a,ao b,ao c,ao d,ao e,.str f,.own 1000005 none,.str g,.own 1000006 none,.own 1000007 none,.own 1000008 none,ao h,.own 1000009 none])] [ay 1000000 3 (.int .i64) C,ay 1000001 52 K4 i,ay 1000002 50 K9 j,ay 1000003 5 (.int .u8) k,ay 1000004 136 p2 l,ay 1000005 3 (.int .i64) m,ay 1000006 52 K4 o,ay 1000007 50 K9 p,ay 1000008 5 (.int .u8) q,ay 1000009 136 p2 r]
def q7 (a:St):Option U:=ff Ai F Aj [.r,.r,.r,.l,.r,.b,.i] f262 J n a
def sn:=hQ Ai F Aj [.r,.r,.r,.l,.r,.b] f262 gH 2
def HG (i c d r e f g h j:Int)(k:ByteArray)(l:List Int)(o:ByteArray)(p:List D4)(q:List D9)(s:List Int)(t:Int)(u:List lD)(m O:Int)(m2:ByteArray)(P:Int)(Q:ByteArray)(R:List Int)(S:Int)(T:ByteArray)(W:List Int)(X:Int)(Y:ByteArray)(Z:List Int)(qd qe qf qg qh qi qj qk ql qm qn:Int)(qo qp:ByteArray)(qq qt v w x y z:Int)(A B:ByteArray)(C:Int)(qu:List Int)(D:List D4)(E:List D9)(G:List Int)(H:List lD)(I:List Int)(K:List D4)(L:List D9)(M:List Int)(N:List lD):q7 F J (n+1) (mA i c d r e f g h j k l o p q s t u m O m2 P Q R S T W X Y Z qd qe qf qg qh qi qj qk ql qm qn qo qp qq qt v w x y z A B C qu D E G H I K L M N)=br (decide (i<c)) (br (i==r) (q7 F J n (mA (aj (i+1)) c d r e f g h j k l o p q s t u m O m2 P Q R S T W X Y Z qd qe qf qg qh qi qj qk ql qm qn qo qp qq qt v w x y z A B C qu D E G H I K L M N)) ((fy F0 (c,d) (qt,v,w,(x,y,(z,A,I),B),K,L,(M,C),N) i (m,O,(m2,P,Q,R),(S,T,W),(X,Y,Z),qd,qe,qf,qg,qh)).bind fun a=>br (!a.1.2.1) ((ba F0 (r,e,f,(g,h,(j,k,l),o),p,q,(s,t),u)).bind fun b=>J .ret (QP false b.1.1 b.1.2.1 b.1.2.2.1 b.1.2.2.2.1.1 b.1.2.2.2.1.2.1 b.1.2.2.2.1.2.2.1.1 b.1.2.2.2.1.2.2.1.2.1 b.1.2.2.2.1.2.2.2 b.1.2.2.2.2.2.2.1.2 b.1.2.2.2.1.2.2.1.2.2 b.1.2.2.2.2.1 b.1.2.2.2.2.2.1 b.1.2.2.2.2.2.2.1.1 b.1.2.2.2.2.2.2.2)) (q7 F J n (mA (aj (i+1)) c d r e f g h j k l o p q s t u m O m2 P Q R S T W X Y Z qd qe qf qg qh qi qj qk ql qm qn qo qp qq a.1.1.1 a.1.1.2.1 a.1.1.2.2.1 a.1.1.2.2.2.1.1 a.1.1.2.2.2.1.2.1 a.1.1.2.2.2.1.2.2.1.1 a.1.1.2.2.2.1.2.2.1.2.1 a.1.1.2.2.2.1.2.2.2 a.1.1.2.2.2.2.2.2.1.2 qu D E G H a.1.1.2.2.2.1.2.2.1.2.2 a.1.1.2.2.2.2.1 a.1.1.2.2.2.2.2.1 a.1.1.2.2.2.2.2.2.1.1 a.1.1.2.2.2.2.2.2.2)))) (J (.exit 0) (NG qi qj qk ql qm qn qo qp qq qt v w x y z A B C qu D E G H I K L M N)):=by kernel_rfl
def afm (e:Bool)(f g h i j k:Int)(l m:ByteArray)(o:Int)(p:List Int)(a:List D4)(b:List D9)(c:List Int)(d:List lD):sn F .ret (QP e f g h i j k l m o p a b c d)=some ((f,g,h,(i,j,(k,l,p),m),a,b,(c,o),d),e,()):=by kernel_rfl
def ac0 (t u v w x y:Int)(z A:ByteArray)(B o a b c d e:Int)(f g:ByteArray)(h:Int)(C:List Int)(p:List D4)(q:List D9)(r:List Int)(s:List lD)(i:List Int)(j:List D4)(k:List D9)(l:List Int)(m:List lD):sn F (.exit 0) (NG t u v w x y z A B o a b c d e f g h C p q r s i j k l m)=some ((o,a,b,(c,d,(e,f,i),g),j,k,(l,h),m),true,()):=by kernel_rfl
def Ak (c:D1)(r:a7)(m:Po):=bj Ai F Aj f262 aa9 gH 2 (c,r,m,())
def amn (c:D1)(r:a7)(m:Po):Ak F c r m=(ba F0 r).bind fun a=>(dw F0 c r).bind fun b=>br (!b.1) (some (a.1,false,())) (q7 F (sn F) F.n (mA 0 c.1 c.2 r.1 r.2.1 r.2.2.1 r.2.2.2.1.1 r.2.2.2.1.2.1 r.2.2.2.1.2.2.1.1 r.2.2.2.1.2.2.1.2.1 r.2.2.2.1.2.2.1.2.2 r.2.2.2.1.2.2.2 r.2.2.2.2.1 r.2.2.2.2.2.1 r.2.2.2.2.2.2.1.1 r.2.2.2.2.2.2.1.2 r.2.2.2.2.2.2.2 m.1 m.2.1 m.2.2.1.1 m.2.2.1.2.1 m.2.2.1.2.2.1 m.2.2.1.2.2.2 m.2.2.2.1.1 m.2.2.2.1.2.1 m.2.2.2.1.2.2 m.2.2.2.2.1.1 m.2.2.2.2.1.2.1 m.2.2.2.2.1.2.2 m.2.2.2.2.2.1 m.2.2.2.2.2.2.1 m.2.2.2.2.2.2.2.1 m.2.2.2.2.2.2.2.2.1 m.2.2.2.2.2.2.2.2.2 0 0 0 0 0 0 ak ak 0 a.1.1 a.1.2.1 a.1.2.2.1 a.1.2.2.2.1.1 a.1.2.2.2.1.2.1 a.1.2.2.2.1.2.2.1.1 a.1.2.2.2.1.2.2.1.2.1 a.1.2.2.2.1.2.2.2 a.1.2.2.2.2.2.2.1.2 [] [] [] [] [] a.1.2.2.2.1.2.2.1.2.2 a.1.2.2.2.2.1 a.1.2.2.2.2.2.1 a.1.2.2.2.2.2.2.1.1 a.1.2.2.2.2.2.2.2)):=by kernel_rfl
def QQ:Any:=.one ⟨aa9,gH,2,fun x=>Ak F0 x.1 x.2.1 x.2.2.1⟩
def amo:a1 262 QQ:=aq Ai ⟨cm,cT,vg,trivial⟩ func262 Aj (by kernel_rfl)
def abd:=[(64,bX),(67,Sx),(262,QQ),(263,wv)]
def NH (w:lE)(a:Int):Option (lE×Int×lE):=asx Tryz.prog (look abd) F ad f205 [(hU,true),(.int .i64,false)] 0 (hU,true) (.int .i64,false) (hU,true) (w,a,())
def apG (w:lE)(a:Int):NH F w a=ck (bG a (w.2.2.1.length:Int)) ((WZ F0 w.1 (aI w.2.2.1 a ca.az)).bind fun c=>br (!c.2.1) (some (hU.az,3,w)) (ck (bG a (w.2.2.1.length:Int)) ((ba F0 (aI w.2.2.1 a ca.az)).bind fun b=>(Ak F0 w.1 (b.1.1,b.1.2.1,b.1.2.1,b.1.2.2.2) (1,0,c.1,(0,ak,[]),(0,ak,[]),0,0,0,0,0)).bind fun d=>(q6 F0 w.1 d.1 c.1).bind fun e=>br (!d.2.1) (some (hU.az,4,w)) (br (!e.2.1) (some (hU.az,4,w)) (ck (bG a (w.2.2.1.length:Int)) (some ((w.1,w.2.1,w.2.2.1.set a.toNat e.1,w.2.2.2),0,hU.az))))))):=by kernel_rfl
def Uo:Any:=.sel ⟨[(hU,true),(.int .i64,false)],0,(hU,true),(.int .i64,false),(hU,true),fun x=>NH F0 x.1 x.2.1⟩
def apH:a1 205 Uo:=ok4 (show ym Tryz.prog TB abd from⟨cm,akq,amo,Nv,trivial⟩) func205 (by kernel_rfl) (by kernel_rfl) ad (by kernel_rfl) (by kernel_rfl)
def aky:=[(123,ml),(144,oz)]
def Zd (d:D14):=bj aky F ad f309 po po 2 (d,())
def awQ (d:D14):Zd F d=(iR F0 d).bind fun a=>(np F0 d).bind fun b=>br b.1 (some ((a.1.1,(d.1.length:Int)),())) (some (a.1,())):=by kernel_rfl
def abe:Any:=.one ⟨po,po,2,fun x=>Zd F0 x.1⟩
def awR:a1 309 abe:=aq aky ⟨uR,yH,trivial⟩ func309 ad (by kernel_rfl)
def Xj:=[(64,bX),(74,cp),(124,yU),(309,abe)]
abbrev aEu:List (Ty×Bool):=[(ca,true),(K23,false)]
def I3 (c:D1)(r:a7):=bj Xj F ad f264 x8 aEu 2 (c,r,())
def amp (c:D1)(r:a7):I3 F c r=(ba F0 r).bind fun a=>(dw F0 c r).bind fun b=>br (!b.1) (some (a.1,[],())) ((Zd F0 r.2.2.2.2.2.2.1).bind fun d=>(tU F0 r.2.2.2.2.2.2.2).bind fun e=>some ((a.1.1,a.1.2.1,a.1.2.2.1,a.1.2.2.2.1,a.1.2.2.2.2.1,a.1.2.2.2.2.2.1,d.1,[]),e.1,())):=by kernel_rfl
def QR:Any:=.one ⟨x8,aEu,2,fun x=>I3 F0 x.1 x.2.1⟩
def amq:a1 264 QR:=aq Xj ⟨cm,cT,Qm,awR,trivial⟩ func264 ad (by kernel_rfl)
def abf:=[(68,cL)]
abbrev aEv:List (Ty×Bool):=[(.int .i64,false),(K21,true)]
def NI (a:Int)(m:Po):=bj abf F ad f310 aEv [(K38,false)] 2 (a,m,())
def apI (a:Int)(m:Po):NI F a m=br (m.1==2) (br (m.1==4) (some ([],())) (br (m.2.2.2.1.2.1.toList==ak.toList) (some ([],())) ((cW F0 m.2.2.2.1.2.2 a).bind fun b=>br (!b.1) (some ([],())) (some ([(m.2.2.2.1.1,m.2.2.2.1.2.1,a)],()))))) (br (m.1==1) (br (m.1==4) (some ([],())) (br (m.2.2.1.2.2.1.toList==ak.toList) (some ([],())) ((cW F0 m.2.2.1.2.2.2 a).bind fun b=>br (!b.1) (some ([],())) (some ([(m.2.2.1.2.1,m.2.2.1.2.2.1,a)],()))))) (br (m.1==4) (some ([],())) (br (m.2.2.2.2.1.2.1.toList==ak.toList) (some ([],())) ((cW F0 m.2.2.2.2.1.2.2 a).bind fun b=>br (!b.1) (some ([],())) (some ([(m.2.2.2.2.1.1,m.2.2.2.2.1.2.1,a)],())))))):=by kernel_rfl
def Uq:Any:=.one ⟨aEv,[(K38,false)],2,fun x=>NI F0 x.1 x.2.1⟩
def apJ:a1 310 Uq:=aq abf ⟨dL,trivial⟩ func310 ad (by kernel_rfl)
def nJ:=[(24,CC),(68,cL),(139,GP),(299,GO),(310,Uq)]
def nK:Nat->Option Hint:=look [(5,{live:=[1,2,6,7,8],yh:=[(6,2,3,.int .i64),(6,3,65,ca),(6,4,105,eo),(6,5,41,cl)],xl:=[6,7],rl:=[6]}),(9,{live:=[1,2,6,7,8,9,10],xl:=[1,2,6,7,8],rl:=[6]})]
def mB (l:Int)(m:List lD)(i k o p q a:Int)(r:List bE)(b:List Int)(c:List a7)(d:List bS)(e:List bE)(f:List Int)(g:List a7)(h:List bS)(j:List bE):= cQ 66 [(1,a8 l),(2,hV 136 (p2) m),b0 6,b0 7,(8,a8 i),(9,.v (.c (.own 1000000 none))),(10,a8 k)] [(6,[ao o,ao p,.own 1000001 none,.own 1000002 none,.own 1000003 none,.own 1000004 none]),(7,[ao q,ao a,.own 1000005 none,.own 1000006 none,.own 1000007 none,.own 1000008 none])] [ay 1000000 41 cl r,ay 1000001 3 (.int .i64) b,ay 1000002 65 ca c,ay 1000003 105 eo d,ay 1000004 41 cl e,ay 1000005 3 (.int .i64) f,ay 1000006 65 ca g,ay 1000007 105 eo h,ay 1000008 41 cl j]
def Ur (j:Int)(k:List lD)(i l m o a:Int)(p:List Int)(b:List a7)(c:List bS)(d:List bE)(e:List Int)(f:List a7)(g:List bS)(h:List bE):= cQ 66 [(1,a8 j),(2,hV 136 (p2) k),b0 6,b0 7,(8,a8 i)] [(6,[ao l,ao m,.own 1000000 none,.own 1000001 none,.own 1000002 none,.own 1000003 none]),(7,[ao o,ao a,.own 1000004 none,.own 1000005 none,.own 1000006 none,.own 1000007 none])] [ay 1000000 3 (.int .i64) p,ay 1000001 65 ca b,ay 1000002 105 eo c,ay 1000003 41 cl d,ay 1000004 3 (.int .i64) e,ay 1000005 65 ca f,ay 1000006 105 eo g,ay 1000007 41 cl h]
def so (a:St):Option U:=ff nJ F nK [.r,.r,.r,.l,.r,.b,.i,.r,.l,.b,.r,.r,.b,.i] f265 J n a
def Ln:Ex->St->Option U:=V0 Tryz.prog (look nJ) F nK [.r,.l,.b,.r,.r,.b] (sub [.r,.r,.r,.l,.r,.b,.i] (eX f265)) (itk Tryz.prog (look nJ) F nK (sub [.r,.r,.r,.l,.r,.b,.i] (eX f265)) J n)
def Al (j:Int)(k:List lD)(i l m o a:Int)(p:List Int)(b:List a7)(c:List bS)(d:List bE)(e:List Int)(f:List a7)(g:List bS)(h:List bE):= cQ 66 [(1,a8 j),(2,hV 136 (p2) k),b0 6,b0 7,(8,a8 i)] [(6,[ao l,ao m,.own 1000000 none,.own 1000001 none,.own 1000002 none,.own 1000003 none]),(7,[ao o,ao a,.own 1000004 none,.own 1000005 none,.own 1000006 none,.own 1000007 none])] [ay 1000000 3 (.int .i64) p,ay 1000001 65 ca b,ay 1000002 105 eo c,ay 1000003 41 cl d,ay 1000004 3 (.int .i64) e,ay 1000005 65 ca f,ay 1000006 105 eo g,ay 1000007 41 cl h]
def Us (i j k a:Int)(l:List Int)(b:List a7)(c:List bS)(d:List bE)(e:List Int)(f:List a7)(g:List bS)(h:List bE):= cQ 66 [b0 6,b0 7] [(6,[ao i,ao j,.own 1000000 none,.own 1000001 none,.own 1000002 none,.own 1000003 none]),(7,[ao k,ao a,.own 1000004 none,.own 1000005 none,.own 1000006 none,.own 1000007 none])] [ay 1000000 3 (.int .i64) l,ay 1000001 65 ca b,ay 1000002 105 eo c,ay 1000003 41 cl d,ay 1000004 3 (.int .i64) e,ay 1000005 65 ca f,ay 1000006 105 eo g,ay 1000007 41 cl h]
def I4 (a:St):Option U:=ff nJ F nK [.r,.r,.r,.l,.r,.b,.i] f265 J n a
def An:=hQ nJ F nK [.r,.r,.r,.l,.r,.b] f265 dy 2
def NJ (m:Int)(o:List lD)(i k p q r c:Int)(a:List bE)(d:List Int)(e:List a7)(f:List bS)(g:List bE)(h:List Int)(j:List a7)(l:List bS)(b:List bE):so F J (n+1) (mB m o i k p q r c a d e f g h j l b)=br (decide (k<(a.length:Int))) (ck (bG k (a.length:Int)) (br (decide ((b.length:Int)<300)) ((FD F0 b (aI a k cl.az).1 (aI a k cl.az).2.1 (aI a k cl.az).2.2).bind fun s=>br (!s.1) (ck (ep F b.length [(aI a k cl.az)].length 32) (so F J n (mB m o i (aj (k+1)) p q r c a d e f g h j l (b++[(aI a k cl.az)])))) (so F J n (mB m o i (aj (k+1)) p q r c a d e f g h j l b))) (so F J n (mB m o i (aj (k+1)) p q r c a d e f g h j l b)))) (J (.exit 2) (Ur m o i p q r c d e f g h j l b)):=by kernel_rfl
def NK (k:Int)(a:List lD)(i l m o b:Int)(p:List Int)(c:List a7)(d:List bS)(e:List bE)(f:List Int)(g:List a7)(h:List bS)(j:List bE):I4 F J (n+1) (Al k a i l m o b p c d e f g h j)=br (decide (i<(a.length:Int))) (ck (bG i (a.length:Int)) ((NI F0 k (aI a i p2.az).2).bind fun q=>so F (Ln F J n) F.n (mB k a i 0 l m o b q.1 p c d e f g h j))) (J (.exit 0) (Us l m o b p c d e f g h j)):=by kernel_rfl
def aif (j:Int)(k:List lD)(i l m o a:Int)(p:List Int)(b:List a7)(c:List bS)(d:List bE)(e:List Int)(f:List a7)(g:List bS)(h:List bE):Ln F J n (.exit 2) (Ur j k i l m o a p b c d e f g h)=I4 F J n (Al j k (aj (i+1)) l m o a p b c d e f g h):=by kernel_rfl
def aih (j k f a:Int)(l:List Int)(g:List a7)(h:List bS)(i:List bE)(b:List Int)(c:List a7)(d:List bS)(e:List bE):An F (.exit 0) (Us j k f a l g h i b c d e)=some (((f,a),b,c,d,e),()):=by kernel_rfl
abbrev aEw:List (Ty×Bool):=[(hU,true),(.int .i64,false),(K23,false)]
def Lo (w:lE)(a:Int)(b:D23):=bj nJ F nK f265 aEw dy 2 (w,a,b,())
def as8 (w:lE)(b:Int)(c:D23):Lo F w b c=(yX F0 w).bind fun a=>(FE F0 w).bind fun d=>(cW F0 d.1 b).bind fun e=>br (!e.1) (some (a.1,())) (I4 F (An F) F.n (Al b c 0 0 0 a.1.1.1 a.1.1.2 [] [] [] [] a.1.2.1 a.1.2.2.1 a.1.2.2.2.1 a.1.2.2.2.2)):=by kernel_rfl
def Xk:Any:=.one ⟨aEw,dy,2,fun x=>Lo F0 x.1 x.2.1 x.2.2.1⟩
def as9:a1 265 Xk:=aq nJ ⟨TT,dL,Xi,Xh,apJ,trivial⟩ func265 nK (by kernel_rfl)
def Xl:=[(204,CN),(264,QR),(265,Xk)]
def I5 (w:lE)(a:Int):Option (lE×Int×lE):=asx Tryz.prog (look Xl) F ad f206 [(hU,true),(.int .i64,false)] 0 (hU,true) (.int .i64,false) (hU,true) (w,a,())
def amr (w:lE)(a:Int):I5 F w a=ck (bG a (w.2.2.1.length:Int)) ((I3 F0 w.1 (aI w.2.2.1 a ca.az)).bind fun b=>br (decide ((aj ((w.2.2.2.1.length:Int)+(b.2.1.length:Int)))>60)) (some (hU.az,4,w)) (br (decide ((aj ((w.2.2.2.2.length:Int)+(b.2.1.length:Int)))>300)) (some (hU.az,4,w)) (ck (bG a (w.2.2.1.length:Int)) ((Lo F0 (w.1,w.2.1,w.2.2.1.set a.toNat b.1,w.2.2.2) a b.2.1).bind fun c=>(Ah F0 c.1 b.2.1).bind fun d=>some (d.1.1,0,hU.az))))):=by kernel_rfl
def QS:Any:=.sel ⟨[(hU,true),(.int .i64,false)],0,(hU,true),(.int .i64,false),(hU,true),fun x=>I5 F0 x.1 x.2.1⟩
def ams:a1 206 QS:=ok4 (show ym Tryz.prog TB Xl from⟨Um,amq,as9,trivial⟩) func206 (by kernel_rfl) (by kernel_rfl) ad (by kernel_rfl) (by kernel_rfl)
def afn:=[(64,bX),(74,cp),(311,pF)]
def SF (c:D1)(r:a7)(a:Int)(name:ByteArray)(b:Bool):=bj afn F ad f266 auF gH 2 (c,r,a,name,b,())
def ata (c:D1)(r:a7)(b:Int)(name:ByteArray)(d:Bool):SF F c r b name d=(dw F0 c r).bind fun e=>br (!e.1) ((ba F0 r).bind fun f=>some (f.1,false,())) ((ba F0 r).bind fun g=>(oZ F0 c g.1 b name d).bind fun a=>br (!a.1.2.1) ((ba F0 r).bind fun h=>some (h.1,false,())) (some (a.1.1,true,()))):=by kernel_rfl
def Xm:Any:=.one ⟨auF,gH,2,fun x=>SF F0 x.1 x.2.1 x.2.2.1 x.2.2.2.1 x.2.2.2.2.1⟩
def atb:a1 266 Xm:=aq afn ⟨cm,cT,CK,trivial⟩ func266 ad (by kernel_rfl)
end
end Go.Am.Tryz
