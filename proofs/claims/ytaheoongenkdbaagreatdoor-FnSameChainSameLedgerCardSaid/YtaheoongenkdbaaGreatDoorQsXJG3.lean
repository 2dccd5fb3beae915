/- No condition. -/
import Derived.Test.YtaheoongenkdbaaGreatDoorQsXJG2
set_option linter.all false
set_option maxRecDepth 100000
namespace Go.Am.Tryz
open Go.Am Go.Proofs Go.Proofs.Tryz
noncomputable section
variable {U:Type} (F:nT) (J:Ex->St->Option U) (n:Nat)
def w8:=[(111,fJ),(281,gE),(282,pU)]
def w9:Nat->Option Hint:=look [(6,{live:=[3,5,6],xl:=[5],rl:=[4]})]
def pV (i q:Int)(a:ByteArray)(b c:List Int):= di 41 [b0 3,(5,.v (.c (.own 1000000 none))),(6,bp i)] [(3,[an q,.str a,.ro false 3 (.int .i64) b])] [ax 1000000 5 (.int .u8) c]
def KI (a:List Int):= di 41 [(5,.v (.c (.own 1000000 none)))] [] [ax 1000000 5 (.int .u8) a]
def xt (a:St):Option U:=fp w8 F w9 [.r,.r,.r,.r,.l,.r,.b,.i] f283 J n a
def A8:=gU w8 F w9 [.r,.r,.r,.r,.l,.r,.b] f283 kH 2
def Fv (i q:Int)(c:ByteArray)(a b:List Int):xt F J (n+1) (pV i q c a b)=br (decide (i<(a.length:Int))) (ck (bN i (a.length:Int)) ((dX F0 (ay a i 0)).bind fun d=>ck (ee F b.length d.1.length 1) (xt F J n (pV (ai (i+1)) q c a (b++d.1))))) (J (.exit 0) (KI b)):=by kernel_rfl
def Zh (a:List Int):A8 F (.exit 0) (KI a)=some (a,()):=by kernel_rfl
def pW (c:D1)(q:D9):=bh w8 F w9 f283 Ff kH 2 (c,q,())
def ahR (c:D1)(q:D9):pW F c q=(iX F0 c q).bind fun e=>br (!e.1) (some ([],())) ((dX F0 q.1).bind fun a=>(ma F0 q.2.1).bind fun b=>ck (ee F a.1.length b.1.length 1) ((dX F0 (q.2.2.length:Int)).bind fun d=>ck (ee F (a.1++b.1).length d.1.length 1) (xt F (A8 F) F.n (pV 0 q.1 q.2.1 q.2.2 ((a.1++b.1)++d.1))))):=by kernel_rfl
def A9:Any:=.one ⟨Ff,kH,2,fun x=>pW F0 x.1 x.2.1⟩
def Ri:aX 283 A9:=aw w8 ⟨jC,k2,EM,trivial⟩ func283 w9 (by kernel_rfl)
def N3:=[(122,gB),(281,gE),(282,pU),(283,A9)]
def xx (c:D1)(s:SC):=bh N3 F ab f339 QY kH 2 (c,s,())
def abf (c:D1)(s:SC):xx F c s=(hO F0 c s).bind fun f=>br (!f.1) (some ([],())) ((dX F0 s.1).bind fun a=>(dX F0 s.2.1).bind fun b=>ck (ee F a.1.length b.1.length 1) ((pW F0 c s.2.2.1).bind fun d=>ck (ee F (a.1++b.1).length d.1.length 1) ((ma F0 s.2.2.2).bind fun e=>ck (ee F ((a.1++b.1)++d.1).length e.1.length 1) (some (((a.1++b.1)++d.1)++e.1,()))))):=by kernel_rfl
def IQ:Any:=.one ⟨QY,kH,2,fun x=>xx F0 x.1 x.2.1⟩
def abg:aX 339 IQ:=aw N3 ⟨kJ,k2,EM,Ri,trivial⟩ func339 ab (by kernel_rfl)
def N4:=[(281,gE),(339,IQ)]
def xJ (c:D1)(s:SC):=bh N4 F ab f320 QY kH 2 (c,s,())
def abh (c:D1)(s:SC):xJ F c s=(xx F0 c s).bind fun a=>br ((a.1.length:Int)==0) (some ([],())) ((dX F0 (a.1.length:Int)).bind fun b=>ck (ee F b.1.length a.1.length 1) (ck (ee F (b.1++a.1).length [10].length 1) (some ((b.1++a.1)++[10],())))):=by kernel_rfl
def IS:Any:=.one ⟨QY,kH,2,fun x=>xJ F0 x.1 x.2.1⟩
def abi:aX 320 IS:=aw N4 ⟨k2,abg,trivial⟩ func320 ab (by kernel_rfl)
def XC:=[(100,kV),(125,mO)]
abbrev ayB:List (Ty×Bool):=[(K14,true),(.bool,false)]
abbrev ayC:List (Ty×Bool):=[(K14,true),(.sl 5 (.int .u8),false)]
def KJ (d:D14)(b:List Int):=bh XC F ab f319 ayC ayB 2 (d,b,())
def akW (d:D14)(b:List Int):KJ F d b=(gV F0 d).bind fun a=>ck (ee F a.1.1.length b.length 1) ((lW F0 d).bind fun e=>br (!e.1) ((gV F0 d).bind fun c=>some (c.1,false,())) ((lW F0 (a.1.1++b,a.1.2)).bind fun f=>br (!f.1) ((gV F0 d).bind fun c=>some (c.1,false,())) (some ((a.1.1++b,a.1.2),true,())))):=by kernel_rfl
def Rj:Any:=.one ⟨ayC,ayB,2,fun x=>KJ F0 x.1 x.2.1⟩
def akX:aX 319 Rj:=aw XC ⟨tc,wF,trivial⟩ func319 ab (by kernel_rfl)
def Rk:=[(98,kU),(122,gB),(318,KG),(319,Rj),(320,IS)]
def ek (c:D1)(r:a6)(s:SC):Option (a6×Bool×a6):=anK Tryz.prog (look Rk) F ab f288 [(K1,true),(bD,true),(K12,true)] 1 (bD,true) (.bool,false) (bD,true) (c,r,s,())
def adV (c:D1)(r:a6)(s:SC):ek F c r s=(Ck F0 r.2.2.2.1 s).bind fun b=>br b.1 (some (r,true,bD.aq)) ((xJ F0 c s).bind fun d=>(KJ F0 r.2.2.2.2.2.2.1 d.1).bind fun a=>br (!a.2.1) (some (bD.aq,false,r)) ((hO F0 c s).bind fun e=>br (!e.1) (some (bD.aq,false,r)) ((l8 F0 s).bind fun f=>some ((r.1,r.2.1,r.2.2.1,f.1,r.2.2.2.2.1,r.2.2.2.2.2.1,a.1,r.2.2.2.2.2.2.2),true,bD.aq)))):=by kernel_rfl
def n9:Any:=.sel ⟨[(K1,true),(bD,true),(K12,true)],1,(bD,true),(.bool,false),(bD,true),fun x=>ek F0 x.1 x.2.1 x.2.2.1⟩
def Ba:aX 288 n9:=ok4 (show wb Tryz.prog TB Rk from⟨s6,kJ,adU,akX,abi,trivial⟩) func288 (by kernel_rfl) (by kernel_rfl) ab (by kernel_rfl) (by kernel_rfl)
def k3:=[(182,EK)]
def k4:Nat->Option Hint:=look [(3,{live:=[0,1,5,6],xl:=[1,5],rl:=[4]}),(7,{live:=[1,5,7],xl:=[5],rl:=[4]})]
def pX (b:List Int)(i:Int)(a:List Int):= di 34 [(1,hM 3 (.int .i64) b),(5,.v (.c (.own 1000000 none))),(7,bp i)] [] [ax 1000000 3 (.int .i64) a]
def KK (a:List Int):= di 34 [(5,.v (.c (.own 1000000 none)))] [] [ax 1000000 3 (.int .i64) a]
def xU (a:St):Option U:=fp k3 F k4 [.r,.r,.r,.l,.r,.b,.i] f325 J n a
def Bb:=gU k3 F k4 [.r,.r,.r,.l,.r,.b] f325 iT 2
def pY (a b:List Int)(i:Int)(c:List Int):= di 34 [(0,hM 3 (.int .i64) a),(1,hM 3 (.int .i64) b),(5,.v (.c (.own 1000000 none))),(6,bp i)] [] [ax 1000000 3 (.int .i64) c]
def KL (b a:List Int):= di 34 [(1,hM 3 (.int .i64) b),(5,.v (.c (.own 1000000 none)))] [] [ax 1000000 3 (.int .i64) a]
def xV (a:St):Option U:=fp k3 F k4 [.r,.r,.l,.r,.b,.i] f325 J n a
def Bc:=gU k3 F k4 [.r,.r,.l,.r,.b] f325 iT 2
def Fw (b:List Int)(i:Int)(a:List Int):xU F J (n+1) (pX b i a)=br (decide (i<(b.length:Int))) (ck (bN i (b.length:Int)) ((vv F0 a (ay b i 0)).bind fun c=>xU F J n (pX b (ai (i+1)) c.1))) (J (.exit 2) (KK a)):=by kernel_rfl
def Fx (a b:List Int)(i:Int)(c:List Int):xV F J (n+1) (pY a b i c)=br (decide (i<(a.length:Int))) (ck (bN i (a.length:Int)) ((vv F0 c (ay a i 0)).bind fun d=>xV F J n (pY a b (ai (i+1)) d.1))) (J (.exit 0) (KL b c)):=by kernel_rfl
def Zi (a:List Int):Bb F (.exit 2) (KK a)=some (a,()):=by kernel_rfl
def Zj (b a:List Int):Bc F (.exit 0) (KL b a)=xU F (Bb F) F.n (pX b 0 a):=by kernel_rfl
def GI (a b:List Int):=bh k3 F k4 f325 aaX iT 2 (a,b,())
def ahS (a b:List Int):GI F a b=xV F (Bc F) F.n (pY a b 0 []):=by kernel_rfl
def N5:Any:=.one ⟨aaX,iT,2,fun x=>GI F0 x.1 x.2.1⟩
def ahT:aX 325 N5:=aw k3 ⟨TV,trivial⟩ func325 k4 (by kernel_rfl)
def Rl:=[(325,N5)]
abbrev agf:List (Ty×Bool):=[(K9,true),(.bool,false)]
def Co (a b:D9):=bh Rl F ab f295 vq agf 2 (a,b,())
def adW (a b:D9):Co F a b=br (a.1 != b.1) (some ((0,aj,[]),false,())) (br (!(a.2.1.toList==b.2.1.toList)) (some ((0,aj,[]),false,())) ((GI F0 a.2.2 b.2.2).bind fun c=>some ((a.1,a.2.1,c.1),true,()))):=by kernel_rfl
def KM:Any:=.one ⟨vq,agf,2,fun x=>Co F0 x.1 x.2.1⟩
def adX:aX 295 KM:=aw Rl ⟨ahT,trivial⟩ func295 ab (by kernel_rfl)
def tD:=[(99,wQ),(124,AU),(175,h7),(195,mN),(196,uJ),(295,KM)]
def tE:Nat->Option Hint:=look [(4,{live:=[1,3,5,8,9,10],xl:=[1,3,5,8,9],rl:=[6,7]})]
def eS (e:List D9)(put:Bool)(i c a p:Int)(b:ByteArray)(d:List Int)(f:List D9):= di 74 [(1,hM 61 (K9) e),b0 3,b0 5,(8,.v (.c (.own 1000000 none))),(9,Pw put),(10,bp i)] [(3,[an c,an a]),(5,[an p,.str b,.ro false 3 (.int .i64) d])] [ax 1000000 61 K9 f]
def IT (e:List D9)(put:Bool)(c a p:Int)(b:ByteArray)(d:List Int)(f:List D9):= di 74 [(1,hM 61 (K9) e),b0 3,b0 5,(8,.v (.c (.own 1000000 none))),(9,Pw put)] [(3,[an c,an a]),(5,[an p,.str b,.ro false 3 (.int .i64) d])] [ax 1000000 61 K9 f]
def gF (a:St):Option U:=fp tD F tE [.r,.r,.r,.l,.r,.b,.i] f249 J n a
abbrev apO:List (Ty×Bool):=[(K13,false),(.bool,false)]
def x0:=gU tD F tE [.r,.r,.r,.l,.r,.b] f249 apO 2
def jI (e:List D9)(put:Bool)(i c g p:Int)(b:ByteArray)(d:List Int)(a:List D9):gF F J (n+1) (eS e put i c g p b d a)=br (decide (i<(e.length:Int))) (ck (bN i (e.length:Int)) ((fL F0 (ay e i K9.aq)).bind fun f=>br (!put) ((oR F0 f.1 (p,b,d)).bind fun k=>br (!k.1) ((Co F0 f.1 (p,b,d)).bind fun h=>br h.2.1 (ck (ee F a.length [h.1].length 48) (gF F J n (eS e true (ai (i+1)) c g p b d (a++[h.1])))) ((fL F0 (p,b,d)).bind fun j=>ck (ee F a.length [j.1].length 48) (ck (ee F (a++[j.1]).length [f.1].length 48) (gF F J n (eS e true (ai (i+1)) c g p b d ((a++[j.1])++[f.1])))))) (ck (ee F a.length [f.1].length 48) (gF F J n (eS e put (ai (i+1)) c g p b d (a++[f.1]))))) (ck (ee F a.length [f.1].length 48) (gF F J n (eS e put (ai (i+1)) c g p b d (a++[f.1])))))) (J (.exit 0) (IT e put c g p b d a)):=by kernel_rfl
def Fy (e:List D9)(put:Bool)(c d p:Int)(f:ByteArray)(g:List Int)(b:List D9):x0 F (.exit 0) (IT e put c d p f g b)=br (!put) ((fL F0 (p,f,g)).bind fun h=>ck (ee F b.length [h.1].length 48) ((l5 F0 (c,d) (b++[h.1])).bind fun i=>br (!i.1) ((fM F0 e).bind fun a=>some (a.1,false,())) ((jD F0 (c,d) (p,f,g)).bind fun j=>br (!j.1) ((fM F0 e).bind fun a=>some (a.1,false,())) (some (b++[h.1],true,()))))) ((l5 F0 (c,d) b).bind fun i=>br (!i.1) ((fM F0 e).bind fun a=>some (a.1,false,())) ((jD F0 (c,d) (p,f,g)).bind fun j=>br (!j.1) ((fM F0 e).bind fun a=>some (a.1,false,())) (some (b,true,())))):=by kernel_rfl
abbrev ayD:List (Ty×Bool):=[(K1,true),(K13,false),(K9,true)]
def eM (c:D1)(a:D13)(p:D9):=bh tD F tE f249 ayD apO 2 (c,a,p,())
def adY (c:D1)(a:D13)(p:D9):eM F c a p=gF F (x0 F) F.n (eS a false 0 c.1 c.2 p.1 p.2.1 p.2.2 []):=by kernel_rfl
def jJ:Any:=.one ⟨ayD,apO,2,fun x=>eM F0 x.1 x.2.1 x.2.2.1⟩
def pZ:aX 249 jJ:=aw tD ⟨NM,QZ,mQ,wC,Kl,adX,trivial⟩ func249 tE (by kernel_rfl)
def XD:=[(111,fJ)]
def DD (c:D1)(p:D9):=bh XD F ab f340 Ff agf 2 (c,p,())
def akY (c:D1)(p:D9):DD F c p=ck (ee F 0 p.2.2.length 8) (br (p.2.1.toList==aj.toList) (some ((0,aj,[]),false,())) ((iX F0 c (p.1,p.2.1,[]++p.2.2)).bind fun a=>br (!a.1) (some ((0,aj,[]),false,())) (some ((p.1,p.2.1,[]++p.2.2),true,())))):=by kernel_rfl
def Rm:Any:=.one ⟨Ff,agf,2,fun x=>DD F0 x.1 x.2.1⟩
def akZ:aX 340 Rm:=aw XD ⟨jC,trivial⟩ func340 ab (by kernel_rfl)
def T4:=[(63,bY),(126,iy),(176,A2)]
abbrev ayE:List (Ty×Bool):=[(K1,true),(bD,true),(.int .i64,false),(K21,true)]
def eT (c:D1)(r:a6)(a:Int)(m:MO):=Dp T4 F ab f250 ayE 1 (.own true) fK [] 2 (c,r,a,m,())
def ahU (c:D1)(r:a6)(a:Int)(m:MO):eT F c r a m=br (decide ((r.2.2.2.2.2.2.2.length:Int)>=30)) (some ((r,false,()),())) ((eR F0 c m).bind fun d=>br (!d.1) (some ((r,false,()),())) ((bI F0 a 0 (ai (c.1-1))).bind fun e=>br (!e.1) (some ((r,false,()),())) (br (a==r.1) (some ((r,false,()),())) ((wR F0 m).bind fun b=>ck (ee F r.2.2.2.2.2.2.2.length [(a,b.1)].length 224) (some (((r.1,r.2.1,r.2.2.1,r.2.2.2.1,r.2.2.2.2.1,r.2.2.2.2.2.1,r.2.2.2.2.2.2.1,r.2.2.2.2.2.2.2++[(a,b.1)]),true,()),())))))):=by kernel_rfl
def k5:Any:=.two ⟨ayE,1,(.own true),fK,2,[],fun x=>eT F0 x.1 x.2.1 x.2.2.1 x.2.2.2.1⟩
def tF:aX 250 k5:=awv T4 ⟨cB,ny,Q6,trivial⟩ func250 ab (by kernel_rfl)
def XE:=[(53,fY),(102,hS),(250,k5),(285,GH),(288,n9),(340,Rm)]
abbrev agh:List (Ty×Bool):=[(K1,true),(bD,true),(K9,true)]
def KN (c:D1)(r:a6)(p:D9):=Dp XE F ab f321 agh 1 (.own true) fK [] 2 (c,r,p,())
def ak0 (c:D1)(r:a6)(p:D9):KN F c r p=(DD F0 c p).bind fun b=>br (!b.2.1) (some ((r,false,()),())) ((NZ F0 c r.2.2.2.1 b.1).bind fun f=>(ek F0 c r f.1).bind fun a=>br a.2.1 (br (decide ((ai (p.1+1))>60)) (some ((a.1,true,()),())) ((dz F0 a.1.2.1 (ai (p.1+1))).bind fun d=>(kY F0 c (ai (p.1+1))).bind fun g=>br (g.1==r.1) (some (((a.1.1,d.1,a.1.2.2),true,()),())) ((kY F0 c (ai (p.1+1))).bind fun h=>(eT F0 c (a.1.1,d.1,a.1.2.2) h.1 (3,ai (p.1+1),(aj,0,aj,[]),(0,aj,[]),b.1,r.1,0,0,0,0)).bind fun e=>some ((e.1.1,e.1.2.1,()),())))) (some (((r.1,r.2.1,r.2.2.1,(r.2.2.2.1.1,r.2.2.2.1.2.1,(r.2.2.2.1.2.2.1.1,r.2.2.2.1.2.2.1.2.1,a.2.2.2.2.2.1.2.2.1.2.2),r.2.2.2.1.2.2.2),a.2.2.2.2.2.2.1,a.2.2.2.2.2.2.2.1,(a.2.2.2.2.2.2.2.2.1.1,r.2.2.2.2.2.2.1.2),a.2.2.2.2.2.2.2.2.2),false,()),()))):=by kernel_rfl
def Rn:Any:=.two ⟨agh,1,(.own true),fK,2,[],fun x=>KN F0 x.1 x.2.1 x.2.2.1⟩
def ak1:aX 321 Rn:=awv XE ⟨j7,l9,tF,T1,Ba,akZ,trivial⟩ func321 ab (by kernel_rfl)
def agi:=[(29,cu),(63,bY)]
abbrev N6:List (Ty×Bool):=[(K1,true),(.int .i64,false),(.int .i64,false)]
def HM (c:D1)(a i:Int):=bh agi F ab f341 N6 cX 1 (c,a,i,())
def arL (c:D1)(a i:Int):HM F c a i=(dy F0 c).bind fun b=>br (!b.1) (some (-1,())) (br (decide (a<0)) (some (-1,())) ((bI F0 i 0 (ai (c.1-1))).bind fun d=>br (!d.1) (some (-1,())) (ck (!(c.1==0)) (ck (!(c.1==0)) (some (Int.tmod (ai ((ai (i+c.1))-(Int.tmod a c.1))) c.1,())))))):=by kernel_rfl
def Cp:Any:=.one ⟨N6,cX,1,fun x=>HM F0 x.1 x.2.1 x.2.2.1⟩
def PW:aX 341 Cp:=aw agi ⟨c9,cB,trivial⟩ func341 ab (by kernel_rfl)
def agj:=[(29,cu),(63,bY)]
def VM (c:D1)(b a:Int):=bh agj F ab f344 N6 cX 1 (c,b,a,())
def arM (c:D1)(b a:Int):VM F c b a=(dy F0 c).bind fun d=>br (!d.1) (some (-1,())) (br (decide (b<0)) (some (-1,())) ((bI F0 a 0 (ai (c.1-1))).bind fun e=>br (!e.1) (some (-1,())) (ck (!(c.1==0)) (ck (!(c.1==0)) (some (Int.tmod (ai ((Int.tmod b c.1)+a)) c.1,())))))):=by kernel_rfl
def XF:Any:=.one ⟨N6,cX,1,fun x=>VM F0 x.1 x.2.1 x.2.2.1⟩
def arN:aX 344 XF:=aw agj ⟨c9,cB,trivial⟩ func344 ab (by kernel_rfl)
def apP:=[(341,Cp),(344,XF)]
def VN (c:D1)(a i:Int):=bh apP F ab f324 N6 cX 1 (c,a,i,())
def aww (c:D1)(a i:Int):VN F c a i=(HM F0 c a i).bind fun b=>br (decide (b.1<=0)) (some (-1,())) (ck (!(c.2==0)) ((VM F0 c a (ai (Int.tdiv (ai (b.1-1)) c.2))).bind fun d=>some (d.1,()))):=by kernel_rfl
def T5:Any:=.one ⟨N6,cX,1,fun x=>VN F0 x.1 x.2.1 x.2.2.1⟩
def ak2:aX 324 T5:=aw apP ⟨PW,arN,trivial⟩ func324 ab (by kernel_rfl)
def PX:=[(324,T5),(341,Cp)]
def PY:Nat->Option Hint:=look [(2,{live:=[1,2,3,7],xl:=[7],rl:=[6]})]
def GJ (b i c a:Int)(d:List Int):= di 23 [(1,bp b),(2,bp i),b0 3,(7,.v (.c (.own 1000000 none)))] [(3,[an c,an a])] [ax 1000000 3 (.int .i64) d]
def MQ (a:List Int):= di 23 [(7,.v (.c (.own 1000000 none)))] [] [ax 1000000 3 (.int .i64) a]
def PZ (a:St):Option U:=fp PX F PY [.r,.r,.l,.b,.i] f342 J n a
def abj:=gU PX F PY [.r,.r,.l,.b] f342 iT 2
def Ro (b i c a:Int)(d:List Int):PZ F J (n+1) (GJ b i c a d)=(HM F0 (c,a) b i).bind fun e=>br (decide (e.1>=0)) (ck (ee F d.length [i].length 8) ((VN F0 (c,a) b i).bind fun f=>PZ F J n (GJ b f.1 c a (d++[i])))) (J (.exit 0) (MQ d)):=by kernel_rfl
def ak3 (a:List Int):abj F (.exit 0) (MQ a)=some (a,()):=by kernel_rfl
def abk (c:D1)(a i:Int):=bh PX F PY f342 N6 iT 2 (c,a,i,())
def at2 (c:D1)(a i:Int):abk F c a i=PZ F (abj F) F.n (GJ a i c.1 c.2 []):=by kernel_rfl
def abl:Any:=.one ⟨N6,iT,2,fun x=>abk F0 x.1 x.2.1 x.2.2.1⟩
def at3:aX 342 abl:=aw PX ⟨ak2,PW,trivial⟩ func342 PY (by kernel_rfl)
def GK:=[(29,cu),(55,cK),(341,Cp),(342,abl)]
def GL:Nat->Option Hint:=look [(5,{live:=[1,2,3,7,8],xl:=[7],rl:=[6]})]
def oZ (b i k c a:Int)(d:List Int):= di 38 [(1,bp b),(2,bp i),b0 3,(7,.v (.c (.own 1000000 none))),(8,bp k)] [(3,[an c,an a])] [ax 1000000 3 (.int .i64) d]
def EN (a:List Int):= di 38 [(7,.v (.c (.own 1000000 none)))] [] [ax 1000000 3 (.int .i64) a]
def x1 (a:St):Option U:=fp GK F GL [.r,.r,.r,.l,.r,.b,.i] f322 J n a
def IU:=gU GK F GL [.r,.r,.r,.l,.r,.b] f322 iT 2
def x2 (d i k c b:Int)(a:List Int):x1 F J (n+1) (oZ d i k c b a)=br (decide (k<c)) ((HM F0 (c,b) d i).bind fun e=>br (decide (e.1>=0)) ((abk F0 (c,b) d k).bind fun f=>(cQ F0 f.1 i).bind fun g=>br g.1 (ck (ee F a.length [k].length 8) (x1 F J n (oZ d i (ai (k+1)) c b (a++[k])))) (x1 F J n (oZ d i (ai (k+1)) c b a))) (J (.exit 0) (EN a))) (J (.exit 0) (EN a)):=by kernel_rfl
def N7 (a:List Int):IU F (.exit 0) (EN a)=some (a,()):=by kernel_rfl
def P0 (c:D1)(a i:Int):=bh GK F GL f322 N6 iT 2 (c,a,i,())
def aof (c:D1)(a i:Int):P0 F c a i=(dy F0 c).bind fun b=>br (!b.1) (some ([],())) (x1 F (IU F) F.n (oZ a i 0 c.1 c.2 [])):=by kernel_rfl
def T6:Any:=.one ⟨N6,iT,2,fun x=>P0 F0 x.1 x.2.1 x.2.2.1⟩
def aog:aX 322 T6:=aw GK ⟨c9,dA,PW,at3,trivial⟩ func322 GL (by kernel_rfl)
def Zk (a:Bool):=bh aB F ab f343 aS cX 1 (a,())
def aoh (a:Bool):Zk F a=br a (some (1,())) (some (0,())):=by kernel_rfl
def T7:Any:=.one ⟨aS,cX,1,fun x=>Zk F0 x.1⟩
def aoi:aX 343 T7:=aw aB trivial func343 ab (by kernel_rfl)
def Cq:=[(55,cK),(343,T7)]
def Cr:Nat->Option Hint:=look [(3,{live:=[0,1,5,6],xl:=[5],rl:=[4]})]
def tG (a b:List Int)(c i:Int):= b2 23 [(0,hM 3 (.int .i64) a),(1,hM 3 (.int .i64) b),(5,bp c),(6,bp i)]
def N8 (a:Int):= b2 23 [(5,bp a)]
def Cs (a:St):Option U:=fp Cq F Cr [.r,.r,.l,.r,.b,.i] f323 J n a
def EO:=gU Cq F Cr [.r,.r,.l,.r,.b] f323 cX 1
def IV (a b:List Int)(c i:Int):Cs F J (n+1) (tG a b c i)=br (decide (i<(a.length:Int))) (ck (bN i (a.length:Int)) ((cQ F0 b (ay a i 0)).bind fun d=>(Zk F0 d.1).bind fun e=>Cs F J n (tG a b (ai (c+e.1)) (ai (i+1))))) (J (.exit 0) (N8 c)):=by kernel_rfl
def abm (a:Int):EO F (.exit 0) (N8 a)=some (a,()):=by kernel_rfl
def KO (a b:List Int):=bh Cq F Cr f323 aaX cX 1 (a,b,())
def ak4 (a b:List Int):KO F a b=Cs F (EO F) F.n (tG a b 0 0):=by kernel_rfl
def Rp:Any:=.one ⟨aaX,cX,1,fun x=>KO F0 x.1 x.2.1⟩
def ak5:aX 323 Rp:=aw Cq ⟨dA,aoi,trivial⟩ func323 Cr (by kernel_rfl)
def Rq:=[(102,hS),(103,n2),(250,k5),(321,Rn),(322,T6),(323,Rp),(324,T5)]
abbrev apQ:List (Ty×Bool):=[(K1,true),(bD,true),(.int .i64,false),(.str,false),(.bool,false)]
def nD (c:D1)(r:a6)(a:Int)(name:ByteArray)(b:Bool):=Dp Rq F ab f292 apQ 1 (.own true) fK [] 2 (c,r,a,name,b,())
def adZ (c:D1)(r:a6)(a:Int)(name:ByteArray)(h:Bool):nD F c r a name h=(nz F0 r.2.2.2.2.2.1 a name).bind fun b=>br ((b.1.2.2.length:Int)==0) (some ((r,false,()),())) (br (name.toList==aj.toList) (some ((r,false,()),())) ((kY F0 c a).bind fun i=>br (i.1==r.1) ((KN F0 c r b.1).bind fun f=>some ((f.1.1,f.1.2.1,()),())) ((P0 F0 c a r.1).bind fun g=>br (!h) ((KO F0 g.1 b.1.2.2).bind fun j=>br (decide (j.1<(g.1.length:Int))) (some ((r,false,()),())) ((VN F0 c a r.1).bind fun e=>(eT F0 c r e.1 (2,0,(aj,0,aj,[]),b.1,(0,aj,[]),0,0,0,0,0)).bind fun d=>some ((d.1.1,d.1.2.1,()),()))) ((VN F0 c a r.1).bind fun e=>(eT F0 c r e.1 (2,0,(aj,0,aj,[]),b.1,(0,aj,[]),0,0,0,0,0)).bind fun d=>some ((d.1.1,d.1.2.1,()),()))))):=by kernel_rfl
def oa:Any:=.two ⟨apQ,1,(.own true),fK,2,[],fun x=>nD F0 x.1 x.2.1 x.2.2.1 x.2.2.2.1 x.2.2.2.2.1⟩
def Bd:aX 292 oa:=awv Rq ⟨l9,A6,tF,ak1,aog,ak5,ak2,trivial⟩ func292 ab (by kernel_rfl)
def XG:=[(51,bS),(69,da),(249,jJ),(292,oa)]
abbrev aBp:List (Ty×Bool):=[(K1,true),(bD,true),(.str,false)]
def lX (c:D1)(r:a6)(name:ByteArray):=Dp XG F ab f289 aBp 1 (.own true) fK [] 2 (c,r,name,())
def ak6 (c:D1)(r:a6)(name:ByteArray):lX F c r name=(df F0 name).bind fun d=>(eM F0 c r.2.2.2.2.2.1 (d.1,name,[r.1])).bind fun a=>br (!a.2.1) (some ((r,false,()),())) ((aW F0 (r.1,r.2.1,r.2.2.1,r.2.2.2.1,r.2.2.2.2.1,a.1,r.2.2.2.2.2.2)).bind fun e=>(df F0 name).bind fun f=>(nD F0 c e.1 f.1 name false).bind fun b=>br b.1.2.1 (some ((b.1.1,true,()),())) (some (((r.1,r.2.1,r.2.2.1,r.2.2.2.1,r.2.2.2.2.1,a.1,r.2.2.2.2.2.2),true,()),()))):=by kernel_rfl
def Rr:Any:=.two ⟨aBp,1,(.own true),fK,2,[],fun x=>lX F0 x.1 x.2.1 x.2.2.1⟩
def ak7:aX 289 Rr:=awv XG ⟨cl,ej,pZ,Bd,trivial⟩ func289 ab (by kernel_rfl)
def N9:=[(51,bS),(64,cn),(69,da),(180,kM),(285,GH),(286,A7),(287,XB),(288,n9),(289,Rr)]
abbrev ayF:List (Ty×Bool):=[(K1,true),(bD,true),(K15,true)]
def o0 (c:D1)(r:a6)(b:D15):=bh N9 F ab f244 ayF fK 2 (c,r,b,())
def abn (c:D1)(r:a6)(b:D15):o0 F c r b=(aW F0 r).bind fun d=>(dj F0 c r).bind fun k=>br (!k.1) (some (d.1,false,())) ((l6 F0 c b).bind fun l=>br (!l.1) (some (d.1,false,())) ((aW F0 r).bind fun f=>(NZ F0 c r.2.2.2.1 b.2).bind fun g=>(df F0 b.1).bind fun h=>br (decide (h.1>=r.2.1)) ((w7 F0 c g.1 b).bind fun i=>br (decide (h.1>=r.2.1)) (br i.1 ((N1 F0 c g.1 b).bind fun j=>(ek F0 c (f.1.1,h.1,f.1.2.2) j.1).bind fun a=>br a.2.1 (br i.1 ((lX F0 c a.1 b.1).bind fun e=>br (!e.1.2.1) (some (d.1,false,())) (some (e.1.1,true,()))) (some (a.1,true,()))) (some (d.1,false,()))) ((ek F0 c (f.1.1,h.1,f.1.2.2) g.1).bind fun a=>br a.2.1 (br i.1 ((lX F0 c a.1 b.1).bind fun e=>br (!e.1.2.1) (some (d.1,false,())) (some (e.1.1,true,()))) (some (a.1,true,()))) (some (d.1,false,())))) (br i.1 ((N1 F0 c g.1 b).bind fun j=>(ek F0 c f.1 j.1).bind fun a=>br a.2.1 (br i.1 ((lX F0 c a.1 b.1).bind fun e=>br (!e.1.2.1) (some (d.1,false,())) (some (e.1.1,true,()))) (some (a.1,true,()))) (some (d.1,false,()))) ((ek F0 c f.1 g.1).bind fun a=>br a.2.1 (br i.1 ((lX F0 c a.1 b.1).bind fun e=>br (!e.1.2.1) (some (d.1,false,())) (some (e.1.1,true,()))) (some (a.1,true,()))) (some (d.1,false,()))))) (br (decide (h.1>=r.2.1)) ((ek F0 c (f.1.1,h.1,f.1.2.2) g.1).bind fun a=>br a.2.1 (some (a.1,true,())) (some (d.1,false,()))) ((ek F0 c f.1 g.1).bind fun a=>br a.2.1 (some (a.1,true,())) (some (d.1,false,())))))):=by kernel_rfl
def uO:Any:=.one ⟨ayF,fK,2,fun x=>o0 F0 x.1 x.2.1 x.2.2.1⟩
def KP:aX 244 uO:=aw N9 ⟨cl,cP,ej,sV,T1,Rg,arK,Ba,ak7,trivial⟩ func244 ab (by kernel_rfl)
def Rs:=[(51,bS),(64,cn),(195,mN),(249,jJ),(292,oa)]
def Ct (c:D1)(r:a6)(p:D9):=bh Rs F ab f277 agh fK 2 (c,r,p,())
def ad0 (c:D1)(r:a6)(p:D9):Ct F c r p=(aW F0 r).bind fun b=>(dj F0 c r).bind fun f=>br (!f.1) (some (b.1,false,())) ((jD F0 c p).bind fun g=>br (!g.1) (some (b.1,false,())) (br (p.2.1.toList==aj.toList) (some (b.1,false,())) (br (decide (p.1<r.2.1)) (some (b.1,false,())) ((aW F0 r).bind fun a=>(eM F0 c r.2.2.2.2.2.1 p).bind fun d=>br (!d.2.1) (some (b.1,false,())) ((aW F0 (a.1.1,a.1.2.1,a.1.2.2.1,a.1.2.2.2.1,a.1.2.2.2.2.1,d.1,a.1.2.2.2.2.2.2)).bind fun h=>(nD F0 c h.1 p.1 p.2.1 false).bind fun e=>br e.1.2.1 (some (e.1.1,true,())) (some ((a.1.1,a.1.2.1,a.1.2.2.1,a.1.2.2.2.1,a.1.2.2.2.2.1,d.1,a.1.2.2.2.2.2.2),true,()))))))):=by kernel_rfl
def KQ:Any:=.one ⟨agh,fK,2,fun x=>Ct F0 x.1 x.2.1 x.2.2.1⟩
def ad1:aX 277 KQ:=aw Rs ⟨cl,cP,wC,pZ,Bd,trivial⟩ func277 ab (by kernel_rfl)
def Rt:=[(51,bS),(53,fY),(58,iA),(63,bY),(64,cn),(102,hS),(103,n2),(104,sQ),(111,fJ),(249,jJ),(285,GH),(288,n9)]
abbrev ayG:List (Ty×Bool):=[(K1,true),(bD,true),(.int .i64,false),(K9,true),(.int .i64,false)]
def Cu (c:D1)(r:a6)(a:Int)(q:D9)(cC:Int):=bh Rt F ab f278 ayG fK 2 (c,r,a,q,cC,())
def ad2 (c:D1)(r:a6)(e:Int)(q:D9)(cC:Int):Cu F c r e q cC=(aW F0 r).bind fun f=>(dj F0 c r).bind fun h=>br (!h.1) (some (f.1,false,())) ((bI F0 e 1 60).bind fun i=>br (!i.1) (some (f.1,false,())) ((iX F0 c q).bind fun j=>br (!j.1) (some (f.1,false,())) ((bI F0 cC 0 (ai (c.1-1))).bind fun k=>br (!k.1) (some (f.1,false,())) ((aW F0 r).bind fun l=>(NZ F0 c r.2.2.2.1 q).bind fun m=>(ek F0 c l.1 m.1).bind fun a=>br a.2.1 ((kY F0 c e).bind fun o=>br (o.1==r.1) (br (decide (e>=r.2.1)) ((eM F0 c a.1.2.2.2.2.2.1 (e,aj,[cC])).bind fun g=>br (!g.2.1) (some (f.1,false,())) ((nz F0 g.1 e aj).bind fun p=>(vp F0 c).bind fun s=>br (decide ((p.1.2.2.length:Int)>=s.1)) ((dz F0 a.1.2.1 e).bind fun t=>(bE F0 (ai (q.1+1)) 60).bind fun b=>(dz F0 t.1 b.1).bind fun d=>some ((a.1.1,d.1,a.1.2.2.1,a.1.2.2.2.1,a.1.2.2.2.2.1,g.1,a.1.2.2.2.2.2.2),true,())) ((bE F0 (ai (q.1+1)) 60).bind fun b=>(dz F0 a.1.2.1 b.1).bind fun d=>some ((a.1.1,d.1,a.1.2.2.1,a.1.2.2.2.1,a.1.2.2.2.2.1,g.1,a.1.2.2.2.2.2.2),true,())))) ((bE F0 (ai (q.1+1)) 60).bind fun b=>(dz F0 a.1.2.1 b.1).bind fun d=>some ((a.1.1,d.1,a.1.2.2),true,()))) ((bE F0 (ai (q.1+1)) 60).bind fun b=>(dz F0 a.1.2.1 b.1).bind fun d=>some ((a.1.1,d.1,a.1.2.2),true,()))) (some (f.1,false,())))))):=by kernel_rfl
def KR:Any:=.one ⟨ayG,fK,2,fun x=>Cu F0 x.1 x.2.1 x.2.2.1 x.2.2.2.1 x.2.2.2.2.1⟩
def ad3:aX 278 KR:=aw Rt ⟨cl,j7,nC,cB,cP,l9,A6,Ip,jC,pZ,T1,Ba,trivial⟩ func278 ab (by kernel_rfl)
def x3:=[(123,EC),(194,wB)]
def x4:Nat->Option Hint:=look [(2,{live:=[0,3,6],xl:=[0,3,6],rl:=[4,5]})]
def p0 (p:List D4)(a x b c d:Int):= di 43 [(0,hM 63 (K4) p),b0 3,(6,bp a)] [(3,[an x,an b,an c,an d])] []
def oc (p:List D4)(a x b c d:Int):= di 43 [(0,hM 63 (K4) p),b0 3,(6,bp a)] [(3,[an x,an b,an c,an d])] []
def x5 (a:St):Option U:=fp x3 F x4 [.r,.r,.l,.b,.i] f314 J n a
def p1:=gU x3 F x4 [.r,.r,.l,.b] f314 Tx 2
def Fz (p:List D4)(a x b c d:Int):x5 F J (n+1) (p0 p a x b c d)=br (decide (a<(p.length:Int))) (ck (bN a (p.length:Int)) ((se F0 (ay p a K4.aq) (x,b,c,d)).bind fun e=>br e.1 (x5 F J n (p0 p (ai (a+1)) x b c d)) (J (.exit 0) (oc p a x b c d)))) (J (.exit 0) (oc p a x b c d)):=by kernel_rfl
def Zl (p:List D4)(a x b c d:Int):p1 F (.exit 0) (oc p a x b c d)=ck (QN 0 a (p.length:Int)) (ck (ee F 0 ((p.take a.toNat).drop (0:Int).toNat).length 32) (ck (ee F ([]++((p.take a.toNat).drop (0:Int).toNat)).length [(x,b,c,d)].length 32) (ck (QN a (p.length:Int) (p.length:Int)) (ck (ee F (([]++((p.take a.toNat).drop (0:Int).toNat))++[(x,b,c,d)]).length ((p.take (p.length:Int).toNat).drop a.toNat).length 32) ((Dq F0 ((([]++((p.take a.toNat).drop (0:Int).toNat))++[(x,b,c,d)])++((p.take (p.length:Int).toNat).drop a.toNat))).bind fun e=>br (!e.1) (ck (ee F 0 p.length 32) (some ([]++p,false,()))) (some ((([]++((p.take a.toNat).drop (0:Int).toNat))++[(x,b,c,d)])++((p.take (p.length:Int).toNat).drop a.toNat),true,()))))))):=by kernel_rfl
abbrev ayH:List (Ty×Bool):=[(K5,false),(K4,true)]
def GM (p:D5)(x:D4):=bh x3 F x4 f314 ayH Tx 2 (p,x,())
def ahV (p:D5)(x:D4):GM F p x=x5 F (p1 F) F.n (p0 p 0 x.1 x.2.1 x.2.2.1 x.2.2.2):=by kernel_rfl
def Oa:Any:=.one ⟨ayH,Tx,2,fun x=>GM F0 x.1 x.2.1⟩
def ahW:aX 314 Oa:=aw x3 ⟨TA,NA,trivial⟩ func314 x4 (by kernel_rfl)
def XH:=[(51,bS),(64,cn),(314,Oa)]
abbrev ayI:List (Ty×Bool):=[(K1,true),(bD,true),(K4,true)]
def KS (c:D1)(r:a6)(x:D4):=bh XH F ab f279 ayI fK 2 (c,r,x,())
def ak8 (c:D1)(r:a6)(x:D4):KS F c r x=(aW F0 r).bind fun a=>(dj F0 c r).bind fun d=>br (!d.1) (some (a.1,false,())) ((GM F0 r.2.2.2.2.1 x).bind fun b=>br b.2.1 (some ((a.1.1,a.1.2.1,a.1.2.2.1,a.1.2.2.2.1,b.1,a.1.2.2.2.2.2),b.2.1,())) (some (a.1,b.2.1,()))):=by kernel_rfl
def Ru:Any:=.one ⟨ayI,fK,2,fun x=>KS F0 x.1 x.2.1 x.2.2.1⟩
def ak9:aX 279 Ru:=aw XH ⟨cl,cP,ahW,trivial⟩ func279 ab (by kernel_rfl)
def T8:=[(244,uO),(277,KQ),(278,KR),(279,Ru)]
abbrev XI:List (Ty×Bool):=[(K1,true),(bD,true),(K21,true)]
def GN (c:D1)(r:a6)(m:MO):=bh T8 F ab f237 XI fK 2 (c,r,m,())
def ahX (c:D1)(r:a6)(m:MO):GN F c r m=br (m.1==1) ((o0 F0 c r m.2.2.1).bind fun a=>some (a.1,a.2.1,())) (br (m.1==2) ((Ct F0 c r m.2.2.2.1).bind fun b=>some (b.1,b.2.1,())) (br (m.1==3) ((Cu F0 c r m.2.1 m.2.2.2.2.1 m.2.2.2.2.2.1).bind fun d=>some (d.1,d.2.1,())) ((KS F0 c r m.2.2.2.2.2.2).bind fun e=>some (e.1,e.2.1,())))):=by kernel_rfl
def Ob:Any:=.one ⟨XI,fK,2,fun x=>GN F0 x.1 x.2.1 x.2.2.1⟩
def ahY:aX 237 Ob:=aw T8 ⟨KP,ad1,ad3,ak9,trivial⟩ func237 ab (by kernel_rfl)
def p2:=[(175,h7)]
def p3:Nat->Option Hint:=look [(3,{live:=[0,1,5,6],xl:=[5],rl:=[4]})]
def iB (a:List D9)(b i:Int)(c:List D9):= di 30 [(0,hM 61 (K9) a),(1,bp b),(5,.v (.c (.own 1000000 none))),(6,bp i)] [] [ax 1000000 61 K9 c]
def FA (a:List D9):= di 30 [(5,.v (.c (.own 1000000 none)))] [] [ax 1000000 61 K9 a]
def k6 (a:St):Option U:=fp p2 F p3 [.r,.r,.l,.r,.b,.i] f238 J n a
def uP:=gU p2 F p3 [.r,.r,.l,.r,.b] f238 Fl 2
def Aw (a:List D9)(c i:Int)(b:List D9):k6 F J (n+1) (iB a c i b)=br (decide (i<(a.length:Int))) (ck (bN i (a.length:Int)) (br (decide ((ay a i K9.aq).1>=c)) (ck (bN i (a.length:Int)) ((fL F0 (ay a i K9.aq)).bind fun d=>ck (ee F b.length [d.1].length 48) (k6 F J n (iB a c (ai (i+1)) (b++[d.1]))))) (k6 F J n (iB a c (ai (i+1)) b)))) (J (.exit 0) (FA b)):=by kernel_rfl
def T9 (a:List D9):uP F (.exit 0) (FA a)=some (a,()):=by kernel_rfl
abbrev ayJ:List (Ty×Bool):=[(K13,false),(.int .i64,false)]
def x6 (a:D13)(b:Int):=bh p2 F p3 f238 ayJ Fl 2 (a,b,())
def abo (a:D13)(b:Int):x6 F a b=k6 F (uP F) F.n (iB a b 0 []):=by kernel_rfl
def IW:Any:=.one ⟨ayJ,Fl,2,fun x=>x6 F0 x.1 x.2.1⟩
def abp:aX 238 IW:=aw p2 ⟨mQ,trivial⟩ func238 p3 (by kernel_rfl)
def abq:=[(64,cn),(105,EI),(106,uL),(107,IE)]
def IX (c:D1)(r:a6):=bh abq F ab f240 An n3 2 (c,r,())
def aoj (c:D1)(r:a6):IX F c r=(dj F0 c r).bind fun a=>br (!a.1) (some (([],[]),())) ((kZ F0).bind fun b=>(uM F0 r.2.2.2.1.2.2.2).bind fun d=>(vu F0 b.1 d.1).bind fun e=>some (e.1,())):=by kernel_rfl
def Ua:Any:=.one ⟨An,n3,2,fun x=>IX F0 x.1 x.2.1⟩
def aok:aX 240 Ua:=aw abq ⟨cP,TR,KB,Xy,trivial⟩ func240 ab (by kernel_rfl)
end
end Go.Am.Tryz
namespace Go.Am.Tryz
open Go.Am Go.Proofs Go.Proofs.Tryz
noncomputable section
variable {U:Type} (F:nT) (J:Ex->St->Option U) (n:Nat)
def tH:=[(178,GA)]
def tI:Nat->Option Hint:=look [(3,{live:=[0,3,5,6],xl:=[5],rl:=[4]})]
def jK (p:List D4)(i:Int)(l a:List Int)(b:List D4):= di 35 [(0,hM 63 (K4) p),b0 3,(5,.v (.c (.own 1000000 none))),(6,bp i)] [(3,[.ro false 3 (.int .i64) l,.ro false 3 (.int .i64) a])] [ax 1000000 63 K4 b]
def IY (a:List D4):= di 35 [(5,.v (.c (.own 1000000 none)))] [] [ax 1000000 63 K4 a]
def mS (a:St):Option U:=fp tH F tI [.r,.r,.l,.r,.b,.i] f239 J n a
def x7:=gU tH F tI [.r,.r,.l,.r,.b] f239 iP 2
def DE (p:List D4)(i:Int)(l b:List Int)(a:List D4):mS F J (n+1) (jK p i l b a)=br (decide (i<(p.length:Int))) (ck (bN i (p.length:Int)) ((II F0 (l,b) (ay p i K4.aq)).bind fun c=>br (c.2.1 != 2) (ck (bN i (p.length:Int)) (ck (ee F a.length [(ay p i K4.aq)].length 32) (mS F J n (jK p (ai (i+1)) l b (a++[(ay p i K4.aq)]))))) (mS F J n (jK p (ai (i+1)) l b a)))) (J (.exit 0) (IY a)):=by kernel_rfl
def WA (a:List D4):x7 F (.exit 0) (IY a)=some (a,()):=by kernel_rfl
def Cv (p:D5)(l:D43):=bh tH F tI f239 af9 iP 2 (p,l,())
def ad4 (p:D5)(l:D43):Cv F p l=mS F (x7 F) F.n (jK p 0 l.1 l.2 []):=by kernel_rfl
def KT:Any:=.one ⟨af9,iP,2,fun x=>Cv F0 x.1 x.2.1⟩
def ad5:aX 239 KT:=aw tH ⟨TQ,trivial⟩ func239 tI (by kernel_rfl)
def agk:=[(51,bS),(64,cn),(126,iy),(237,Ob),(238,IW),(239,KT),(240,Ua)]
def Oc (c:D1)(r:a6)(m:MO):=bh agk F ab f183 XI fK 2 (c,r,m,())
def arO (c:D1)(r:a6)(m:MO):Oc F c r m=(dj F0 c r).bind fun e=>br (!e.1) ((aW F0 r).bind fun b=>some (b.1,false,())) ((eR F0 c m).bind fun f=>br (!f.1) ((aW F0 r).bind fun b=>some (b.1,false,())) ((GN F0 c r m).bind fun a=>br (!a.2.1) ((aW F0 r).bind fun g=>some (g.1,false,())) ((x6 F0 a.1.2.2.2.2.2.1 (ai (a.1.2.1-1))).bind fun d=>(IX F0 c (a.1.1,a.1.2.1,a.1.2.2.1,a.1.2.2.2.1,a.1.2.2.2.2.1,d.1,a.1.2.2.2.2.2.2)).bind fun h=>(Cv F0 a.1.2.2.2.2.1 h.1).bind fun i=>some ((a.1.1,a.1.2.1,a.1.2.2.1,a.1.2.2.2.1,i.1,d.1,a.1.2.2.2.2.2.2),true,())))):=by kernel_rfl
def MR:Any:=.one ⟨XI,fK,2,fun x=>Oc F0 x.1 x.2.1 x.2.2.1⟩
def abr:aX 183 MR:=aw agk ⟨cl,cP,ny,ahY,abp,ad5,aok,trivial⟩ func183 ab (by kernel_rfl)
def XJ:=[(55,cK),(63,bY),(67,Iz),(183,MR)]
def vy (w:nx)(d:D45):Option (nx×Int×nx):=anK Tryz.prog (look XJ) F ab f114 [(gp,true),(K45,true)] 0 (gp,true) (.int .i64,false) (gp,true) (w,d,())
def ala (w:nx)(d:D45):vy F w d=(bI F0 d.2.1 0 (ai ((w.2.2.2.1.length:Int)-1))).bind fun b=>br (!b.1) (some (gp.aq,2,w)) (ck (bN d.2.1 (w.2.2.2.1.length:Int)) (br (d.1==5) (br (decide ((w.2.2.2.1.length:Int)>=60)) (some (gp.aq,4,w)) (ck (ee F 0 (ay w.2.2.2.1 d.2.1 (0,[])).2.length 1) (ck (ee F w.2.2.2.1.length [((ay w.2.2.2.1 d.2.1 (0,[])).1,[]++(ay w.2.2.2.1 d.2.1 (0,[])).2)].length 32) (some ((w.1,w.2.1,w.2.2.1,w.2.2.2.1++[((ay w.2.2.2.1 d.2.1 (0,[])).1,[]++(ay w.2.2.2.1 d.2.1 (0,[])).2)],w.2.2.2.2),0,gp.aq))))) (ck (okT d.2.1 (w.2.2.2.1.length:Int)) (ck (QN (ai (d.2.1+1)) (w.2.2.2.1.length:Int) (w.2.2.2.1.length:Int)) (ck (ee F 0 (w.2.2.2.1.take d.2.1.toNat).length 32) (ck (ee F ([]++(w.2.2.2.1.take d.2.1.toNat)).length ((w.2.2.2.1.take (w.2.2.2.1.length:Int).toNat).drop (ai (d.2.1+1)).toNat).length 32) (br (d.1==3) ((cQ F0 w.2.1 (ay w.2.2.2.1 d.2.1 (0,[])).1).bind fun c=>br (!c.1) ((Iy F0 w.1 (ay w.2.2.2.1 d.2.1 (0,[])).2).bind fun e=>ck (bN (ay w.2.2.2.1 d.2.1 (0,[])).1 (w.2.2.1.length:Int)) ((Oc F0 w.1 (ay w.2.2.1 (ay w.2.2.2.1 d.2.1 (0,[])).1 bD.aq) e.1).bind fun a=>br a.2.1 (ck (bN (ay w.2.2.2.1 d.2.1 (0,[])).1 (w.2.2.1.length:Int)) (some ((w.1,w.2.1,w.2.2.1.set (ay w.2.2.2.1 d.2.1 (0,[])).1.toNat a.1,([]++(w.2.2.2.1.take d.2.1.toNat))++((w.2.2.2.1.take (w.2.2.2.1.length:Int).toNat).drop (ai (d.2.1+1)).toNat),w.2.2.2.2),0,gp.aq))) (some ((w.1,w.2.1,w.2.2.1,([]++(w.2.2.2.1.take d.2.1.toNat))++((w.2.2.2.1.take (w.2.2.2.1.length:Int).toNat).drop (ai (d.2.1+1)).toNat),w.2.2.2.2),0,gp.aq)))) (some ((w.1,w.2.1,w.2.2.1,([]++(w.2.2.2.1.take d.2.1.toNat))++((w.2.2.2.1.take (w.2.2.2.1.length:Int).toNat).drop (ai (d.2.1+1)).toNat),w.2.2.2.2),0,gp.aq))) (some ((w.1,w.2.1,w.2.2.1,([]++(w.2.2.2.1.take d.2.1.toNat))++((w.2.2.2.1.take (w.2.2.2.1.length:Int).toNat).drop (ai (d.2.1+1)).toNat),w.2.2.2.2),0,gp.aq))))))))):=by kernel_rfl
def Rv:Any:=.sel ⟨[(gp,true),(K45,true)],0,(gp,true),(.int .i64,false),(gp,true),fun x=>vy F0 x.1 x.2.1⟩
def alb:aX 114 Rv:=ok4 (show wb Tryz.prog TB XJ from⟨dA,cB,Xv,abr,trivial⟩) func114 (by kernel_rfl) (by kernel_rfl) ab (by kernel_rfl) (by kernel_rfl)
def Cw:Nat->Option Hint:=look [(2,{live:=[0,1,2,3,9],rl:=[8]})]
def iZ (a:List bT)(b:Int)(name:ByteArray)(cC i:Int):= b2 41 [(0,hM 95 (c8) a),(1,bp b),(2,W8 name),(3,bp cC),(9,bp i)]
def Rw (a:Bool):= b2 41 [(8,Pw a)]
def Od   := b2 41 []
def nE (a:St):Option U:=fp aB F Cw [.r,.l,.r,.b,.i] f280 J n a
def tJ:=gU aB F Cw [.r,.l,.r,.b] f280 aS 1
def IZ (a:List bT)(b:Int)(name:ByteArray)(cC i:Int):nE F J (n+1) (iZ a b name cC i)=br (decide (i<(a.length:Int))) (ck (bN i (a.length:Int)) (br ((ay a i c8.aq).1==b) (ck (bN i (a.length:Int)) (br ((ay a i c8.aq).2.1.toList==name.toList) (ck (bN i (a.length:Int)) (br ((ay a i c8.aq).2.2==cC) (J .ret (Rw true)) (nE F J n (iZ a b name cC (ai (i+1)))))) (nE F J n (iZ a b name cC (ai (i+1)))))) (nE F J n (iZ a b name cC (ai (i+1)))))) (J (.exit 0) (Od)):=by kernel_rfl
def ad6 (a:Bool):tJ F .ret (Rw a)=some (a,()):=by kernel_rfl
def abt: tJ F (.exit 0) (Od)=some (false,()):=by kernel_rfl
abbrev aD1:List (Ty×Bool):=[(K38,false),(.int .i64,false),(.str,false),(.int .i64,false)]
def DF (a:D38)(b:Int)(name:ByteArray)(cC:Int):=bh aB F Cw f280 aD1 aS 1 (a,b,name,cC,())
def alc (a:D38)(b:Int)(name:ByteArray)(cC:Int):DF F a b name cC=nE F (tJ F) F.n (iZ a b name cC 0):=by kernel_rfl
def EP:Any:=.one ⟨aD1,aS,1,fun x=>DF F0 x.1 x.2.1 x.2.2.1 x.2.2.2.1⟩
def Ub:aX 280 EP:=aw aB trivial func280 Cw (by kernel_rfl)
def Cx:=[(55,cK),(280,EP)]
def Cy:Nat->Option Hint:=look [(2,{live:=[0,1,2,3,4,11],rl:=[10]})]
def mT (a:List Int)(b:List bT)(c:Int)(name:ByteArray)(cC:List Int)(i:Int):= b2 36 [(0,hM 3 (.int .i64) a),(1,hM 95 (c8) b),(2,bp c),(3,W8 name),(4,hM 3 (.int .i64) cC),(11,bp i)]
def Rx (a:Bool):= b2 36 [(10,Pw a)]
def Oe   := b2 36 []
def sk (a:St):Option U:=fp Cx F Cy [.r,.l,.r,.b,.i] f241 J n a
def tK:=gU Cx F Cy [.r,.l,.r,.b] f241 aS 1
def I0 (a:List Int)(b:List bT)(c:Int)(name:ByteArray)(cC:List Int)(i:Int):sk F J (n+1) (mT a b c name cC i)=br (decide (i<(cC.length:Int))) (ck (bN i (cC.length:Int)) ((cQ F0 a (ay cC i 0)).bind fun d=>br (!d.1) (ck (bN i (cC.length:Int)) ((DF F0 b c name (ay cC i 0)).bind fun e=>br (!e.1) (J .ret (Rx false)) (sk F J n (mT a b c name cC (ai (i+1)))))) (sk F J n (mT a b c name cC (ai (i+1)))))) (J (.exit 0) (Oe)):=by kernel_rfl
def ad7 (a:Bool):tK F .ret (Rx a)=some (a,()):=by kernel_rfl
def abu: tK F (.exit 0) (Oe)=some (true,()):=by kernel_rfl
abbrev ayK:List (Ty×Bool):=[(.sl 3 (.int .i64),false),(K38,false),(.int .i64,false),(.str,false),(.sl 3 (.int .i64),false)]
def vz (a:List Int)(b:D38)(c:Int)(name:ByteArray)(cC:List Int):=bh Cx F Cy f241 ayK aS 1 (a,b,c,name,cC,())
def ald (a:List Int)(b:D38)(c:Int)(name:ByteArray)(cC:List Int):vz F a b c name cC=sk F (tK F) F.n (mT a b c name cC 0):=by kernel_rfl
def Ry:Any:=.one ⟨ayK,aS,1,fun x=>vz F0 x.1 x.2.1 x.2.2.1 x.2.2.2.1 x.2.2.2.2.1⟩
def ale:aX 241 Ry:=aw Cx ⟨dA,Ub,trivial⟩ func241 Cy (by kernel_rfl)
def XK:=[(55,cK),(69,da),(102,hS),(126,iy),(241,Ry)]
abbrev ayL:List (Ty×Bool):=[(K1,true),(.sl 3 (.int .i64),false),(K38,false),(K21,true)]
def KU (c:D1)(a:List Int)(b:D38)(m:MO):=bh XK F ab f184 ayL aS 1 (c,a,b,m,())
def alf (c:D1)(a:List Int)(b:D38)(m:MO):KU F c a b m=(eR F0 c m).bind fun d=>br (!d.1) (some (false,())) (br (m.1==1) ((df F0 m.2.2.1.1).bind fun e=>(kY F0 c e.1).bind fun f=>(cQ F0 a f.1).bind fun g=>br g.1 ((vz F0 a b m.2.2.1.2.1 m.2.2.1.2.2.1 m.2.2.1.2.2.2).bind fun h=>some (h.1,())) (some (false,()))) (br (m.1==2) ((vz F0 a b m.2.2.2.1.1 m.2.2.2.1.2.1 m.2.2.2.1.2.2).bind fun i=>some (i.1,())) (br (m.1==3) ((cQ F0 a m.2.2.2.2.2.1).bind fun j=>br j.1 ((vz F0 a b m.2.2.2.2.1.1 m.2.2.2.2.1.2.1 m.2.2.2.2.1.2.2).bind fun k=>some (k.1,())) (some (false,()))) (some (true,()))))):=by kernel_rfl
def Rz:Any:=.one ⟨ayL,aS,1,fun x=>KU F0 x.1 x.2.1 x.2.2.1 x.2.2.2.1⟩
def alg:aX 184 Rz:=aw XK ⟨dA,ej,l9,ny,ale,trivial⟩ func184 ab (by kernel_rfl)
def x8:=[(281,gE)]
def x9:Nat->Option Hint:=look [(3,{live:=[0,3,4],xl:=[3],rl:=[2]})]
def p4 (a:List Int)(i:Int)(b:List Int):= di 20 [(0,hM 3 (.int .i64) a),(3,.v (.c (.own 1000000 none))),(4,bp i)] [] [ax 1000000 5 (.int .u8) b]
def KV (a:List Int):= di 20 [(3,.v (.c (.own 1000000 none)))] [] [ax 1000000 5 (.int .u8) a]
def ya (a:St):Option U:=fp x8 F x9 [.r,.r,.l,.r,.b,.i] f284 J n a
def Be:=gU x8 F x9 [.r,.r,.l,.r,.b] f284 kH 2
def FB (a:List Int)(i:Int)(b:List Int):ya F J (n+1) (p4 a i b)=br (decide (i<(a.length:Int))) (ck (bN i (a.length:Int)) ((dX F0 (ay a i 0)).bind fun c=>ck (ee F b.length c.1.length 1) (ya F J n (p4 a (ai (i+1)) (b++c.1))))) (J (.exit 0) (KV b)):=by kernel_rfl
def Zm (a:List Int):Be F (.exit 0) (KV a)=some (a,()):=by kernel_rfl
def p5 (a:List Int):=bh x8 F x9 f284 iT kH 2 (a,())
def ahZ (a:List Int):p5 F a=ya F (Be F) F.n (p4 a 0 []):=by kernel_rfl
def Of:Any:=.one ⟨iT,kH,2,fun x=>p5 F0 x.1⟩
def ah0:aX 284 Of:=aw x8 ⟨k2,trivial⟩ func284 x9 (by kernel_rfl)
def RA:=[(126,iy),(281,gE),(282,pU),(283,A9),(284,Of)]
def Cz (c:D1)(m:MO):=bh RA F ab f242 af4 kH 2 (c,m,())
def ad8 (c:D1)(m:MO):Cz F c m=(eR F0 c m).bind fun l=>br (!l.1) (some ([],())) ((dX F0 m.1).bind fun a=>br (m.1==1) ((ma F0 m.2.2.1.1).bind fun e=>ck (ee F a.1.length e.1.length 1) ((pW F0 c m.2.2.1.2).bind fun h=>ck (ee F (a.1++e.1).length h.1.length 1) (some ((a.1++e.1)++h.1,())))) (br (m.1==2) ((dX F0 m.2.2.2.1.1).bind fun b=>ck (ee F a.1.length b.1.length 1) ((ma F0 m.2.2.2.1.2.1).bind fun d=>ck (ee F (a.1++b.1).length d.1.length 1) ((dX F0 (m.2.2.2.1.2.2.length:Int)).bind fun f=>ck (ee F ((a.1++b.1)++d.1).length f.1.length 1) ((p5 F0 m.2.2.2.1.2.2).bind fun i=>ck (ee F (((a.1++b.1)++d.1)++f.1).length i.1.length 1) (some ((((a.1++b.1)++d.1)++f.1)++i.1,())))))) (br (m.1==3) ((p5 F0 [m.2.1,m.2.2.2.2.2.1]).bind fun g=>ck (ee F a.1.length g.1.length 1) ((pW F0 c m.2.2.2.2.1).bind fun j=>ck (ee F (a.1++g.1).length j.1.length 1) (some ((a.1++g.1)++j.1,())))) ((p5 F0 [m.2.2.2.2.2.2.1,m.2.2.2.2.2.2.2.1,m.2.2.2.2.2.2.2.2.1,m.2.2.2.2.2.2.2.2.2]).bind fun k=>ck (ee F a.1.length k.1.length 1) (some (a.1++k.1,())))))):=by kernel_rfl
def KW:Any:=.one ⟨af4,kH,2,fun x=>Cz F0 x.1 x.2.1⟩
def ad9:aX 242 KW:=aw RA ⟨ny,k2,EM,Ri,ah0,trivial⟩ func242 ab (by kernel_rfl)
def yb:=[(63,bY),(242,KW)]
def yc:Nat->Option Hint:=look [(2,{live:=[1,2,4,5],aD9:=true,vW:=[(4,2,3,.int .i64),(4,3,50,bD),(4,4,102,eH),(4,5,95,c8)],xl:=[2,4],rl:=[4]})]
def fw (j:List iO)(i w a k l:Int)(m:List Int)(b:List a6)(c:List bZ)(d:List bT)(e:List Int)(f:List a6)(g:List bZ)(h:List bT):St:={nt:=55,tm:=[(1,hM 119 (nV) j),b0 2,b0 4,(5,bp i)],bx:=[(2,[an w,an a,.own 1000000 none,.own 1000001 none,.own 1000002 none,.own 1000003 none]),(4,[an k,an l,.own 1000004 none,.own 1000005 none,.own 1000006 none,.own 1000007 none])],bl:=[ax 1000000 3 (.int .i64) m,ax 1000001 50 bD b,ax 1000002 102 eH c,ax 1000003 95 c8 d,ax 1000004 3 (.int .i64) e,ax 1000005 50 bD f,ax 1000006 102 eH g,ax 1000007 95 c8 h],sp:=.v (.c (.none))}
def KX (w a i j:Int)(k:List Int)(b:List a6)(c:List bZ)(d:List bT)(e:List Int)(f:List a6)(g:List bZ)(h:List bT):St:={nt:=55,tm:=[b0 2,b0 4],bx:=[(2,[an w,an a,.own 1000000 none,.own 1000001 none,.own 1000002 none,.own 1000003 none]),(4,[an i,an j,.own 1000004 none,.own 1000005 none,.own 1000006 none,.own 1000007 none])],bl:=[ax 1000000 3 (.int .i64) k,ax 1000001 50 bD b,ax 1000002 102 eH c,ax 1000003 95 c8 d,ax 1000004 3 (.int .i64) e,ax 1000005 50 bD f,ax 1000006 102 eH g,ax 1000007 95 c8 h],sp:=.v (.c (.none))}
def iC (a:St):Option U:=fp yb F yc [.r,.l,.r,.b,.i] f185 J n a
def Bf:=atV yb F yc [.r,.l,.r,.b] f185 (.own true) fG [] 2
def FC (a:List iO)(i w c k l:Int)(m:List Int)(d:List a6)(b:List bZ)(e:List bT)(f:List Int)(g:List a6)(h:List bZ)(j:List bT):iC F J (n+1) (fw a i w c k l m d b e f g h j)=br (decide (i<(a.length:Int))) (ck (bN i (a.length:Int)) ((Cz F0 (w,c) (ay a i nV.aq).2).bind fun o=>br (decide ((b.length:Int)<60)) (br (decide ((o.1.length:Int)>0)) (ck (bN i (a.length:Int)) ((bI F0 (ay a i nV.aq).1 0 (ai (w-1))).bind fun p=>br p.1 (ck (bN i (a.length:Int)) (ck (ee F b.length [((ay a i nV.aq).1,o.1)].length 32) (iC F J n (fw a (ai (i+1)) w c k l m d (b++[((ay a i nV.aq).1,o.1)]) e f g h j)))) (iC F J n (fw a (ai (i+1)) w c k l m d b e f g h j)))) (iC F J n (fw a (ai (i+1)) w c k l m d b e f g h j))) (iC F J n (fw a (ai (i+1)) w c k l m d b e f g h j)))) (J (.exit 0) (KX w c k l m d b e f g h j)):=by kernel_rfl
def Zn (w a j k:Int)(e:List Int)(b:List a6)(c:List bZ)(d:List bT)(f:List Int)(g:List a6)(h:List bZ)(i:List bT):Bf F (.exit 0) (KX w a j k e b c d f g h i)=some ((((w,a),e,b,c,d),()),()):=by kernel_rfl
abbrev ayM:List (Ty×Bool):=[(gp,true),(K23,false)]
def yd (w:nx)(a:D23):=Dp yb F yc f185 ayM 0 (.own true) fG [] 2 (w,a,())
def ah1 (w:nx)(a:D23):yd F w a=iC F (Bf F) F.n (fw a 0 w.1.1 w.1.2 0 0 w.2.1 w.2.2.1 w.2.2.2.1 w.2.2.2.2 [] [] [] []):=by kernel_rfl
def Bg:Any:=.two ⟨ayM,0,(.own true),fG,2,[],fun x=>yd F0 x.1 x.2.1⟩
def RB:aX 185 Bg:=awv yb ⟨cB,ad9,trivial⟩ func185 yc (by kernel_rfl)
def XL:=[(63,bY),(184,Rz),(185,Bg)]
def KY (w:nx)(d:D45):Option (nx×Int×nx):=anK Tryz.prog (look XL) F ab f115 [(gp,true),(K45,true)] 0 (gp,true) (.int .i64,false) (gp,true) (w,d,())
def alh (w:nx)(d:D45):KY F w d=(bI F0 d.2.1 0 (ai (w.1.1-1))).bind fun a=>br (!a.1) (some (gp.aq,2,w)) ((KU F0 w.1 w.2.1 w.2.2.2.2 d.2.2.2).bind fun b=>br (!b.1) (some (gp.aq,5,w)) (br (decide ((w.2.2.2.1.length:Int)>=60)) (some (gp.aq,4,w)) ((yd F0 w [(d.2.1,d.2.2.2)]).bind fun c=>some (c.1.1,0,gp.aq)))):=by kernel_rfl
def RC:Any:=.sel ⟨[(gp,true),(K45,true)],0,(gp,true),(.int .i64,false),(gp,true),fun x=>KY F0 x.1 x.2.1⟩
def ali:aX 115 RC:=ok4 (show wb Tryz.prog TB XL from⟨cB,alg,RB,trivial⟩) func115 (by kernel_rfl) (by kernel_rfl) ab (by kernel_rfl) (by kernel_rfl)
def CA:=[(55,cK)]
def CB:Nat->Option Hint:=look [(3,{live:=[1,3,4],xl:=[3],rl:=[2]})]
def jj (i w a:Int)(b:List Int)(c:List a6)(d:List bZ)(e:List bT)(f:List Int):= di 23 [b0 1,(3,.v (.c (.own 1000000 none))),(4,bp i)] [(1,[an w,an a,.ro false 3 (.int .i64) b,.ro false 50 (bD) c,.ro false 102 (eH) d,.ro false 95 (c8) e])] [ax 1000000 3 (.int .i64) f]
def Og (a:List Int):= di 23 [(3,.v (.c (.own 1000000 none)))] [] [ax 1000000 3 (.int .i64) a]
def nF (a:St):Option U:=fp CA F CB [.r,.r,.l,.r,.b,.i] f116 J n a
def tL:=gU CA F CB [.r,.r,.l,.r,.b] f116 iT 2
def I1 (i w d:Int)(b:List Int)(c:List a6)(e:List bZ)(f:List bT)(a:List Int):nF F J (n+1) (jj i w d b c e f a)=br (decide (i<(c.length:Int))) ((cQ F0 b i).bind fun g=>br (!g.1) (ck (ee F a.length [i].length 8) (nF F J n (jj (ai (i+1)) w d b c e f (a++[i])))) (nF F J n (jj (ai (i+1)) w d b c e f a))) (J (.exit 0) (Og a)):=by kernel_rfl
def abv (a:List Int):tL F (.exit 0) (Og a)=some (a,()):=by kernel_rfl
def DG (w:nx):=bh CA F CB f116 fG iT 2 (w,())
def alj (w:nx):DG F w=nF F (tL F) F.n (jj 0 w.1.1 w.1.2 w.2.1 w.2.2.1 w.2.2.2.1 w.2.2.2.2 []):=by kernel_rfl
def ER:Any:=.one ⟨fG,iT,2,fun x=>DG F0 x.1⟩
def Uc:aX 116 ER:=aw CA ⟨dA,trivial⟩ func116 CB (by kernel_rfl)
def ye:=[(51,bS),(64,cn),(250,k5)]
def yf:Nat->Option Hint:=look [(5,{live:=[3,4,5,6,8,9],vW:=[(6,7,3,.int .i64),(6,9,63,K4),(6,10,61,K9),(6,11,5,.int .u8),(6,13,119,nV)],xl:=[6,8],rl:=[6,7]})]
def k7 (i c a r b d e f g:Int)(h:ByteArray)(j:List Int)(k:ByteArray)(l:List D4)(o:List D9)(p:List Int)(q:Int)(s:List iO)(m M:Int)(m2:ByteArray)(N:Int)(O:ByteArray)(P:List Int)(Q:Int)(R:ByteArray)(S:List Int)(T:Int)(W:ByteArray)(X:List Int)(Y Z qa qb qd qe qf qg qh qi qj:Int)(qk ql:ByteArray)(qm qn t u v w x:Int)(y z:ByteArray)(A:Int)(qo:List Int)(B:List D4)(C:List D9)(D:List Int)(E:List iO)(G:List Int)(H:List D4)(I:List D9)(K:List Int)(L:List iO):= di 43 [b0 3,b0 4,b0 5,b0 6,b0 8,(9,bp i)] [(3,[an c,an a]),(4,[an r,an b,an d,an e,an f,an g,.str h,.ro false 3 (.int .i64) j,.str k,.ro false 63 (K4) l,.ro false 61 (K9) o,.ro false 5 (.int .u8) p,an q,.ro false 119 (nV) s]),(5,[an m,an M,.str m2,an N,.str O,.ro false 3 (.int .i64) P,an Q,.str R,.ro false 3 (.int .i64) S,an T,.str W,.ro false 3 (.int .i64) X,an Y,an Z,an qa,an qb,an qd]),(6,[an qe,an qf,an qg,an qh,an qi,an qj,.str qk,.own 1000000 none,.str ql,.own 1000001 none,.own 1000002 none,.own 1000003 none,an qm,.own 1000004 none]),(8,[an qn,an t,an u,an v,an w,an x,.str y,.own 1000005 none,.str z,.own 1000006 none,.own 1000007 none,.own 1000008 none,an A,.own 1000009 none])] [ax 1000000 3 (.int .i64) qo,ax 1000001 63 K4 B,ax 1000002 61 K9 C,ax 1000003 5 (.int .u8) D,ax 1000004 119 nV E,ax 1000005 3 (.int .i64) G,ax 1000006 63 K4 H,ax 1000007 61 K9 I,ax 1000008 5 (.int .u8) K,ax 1000009 119 nV L]
def Oh (e:Bool)(f g h i j k:Int)(l m:ByteArray)(o:Int)(p:List Int)(a:List D4)(b:List D9)(c:List Int)(d:List iO):= di 43 [b0 6,(7,Pw e)] [(6,[an f,an g,an h,an i,an j,an k,.str l,.own 1000000 none,.str m,.own 1000001 none,.own 1000002 none,.own 1000003 none,an o,.own 1000004 none])] [ax 1000000 3 (.int .i64) p,ax 1000001 63 K4 a,ax 1000002 61 K9 b,ax 1000003 5 (.int .u8) c,ax 1000004 119 nV d]
def KZ (s t u v w x:Int)(y z:ByteArray)(A B a b c d e:Int)(f g:ByteArray)(h:Int)(C:List Int)(i:List D4)(j:List D9)(k:List Int)(l:List iO)(m:List Int)(o:List D4)(p:List D9)(q:List Int)(r:List iO):= di 43 [b0 6,b0 8] [(6,[an s,an t,an u,an v,an w,an x,.str y,.own 1000000 none,.str z,.own 1000001 none,.own 1000002 none,.own 1000003 none,an A,.own 1000004 none]),(8,[an B,an a,an b,an c,an d,an e,.str f,.own 1000005 none,.str g,.own 1000006 none,.own 1000007 none,.own 1000008 none,an h,.own 1000009 none])] [ax 1000000 3 (.int .i64) C,ax 1000001 63 K4 i,ax 1000002 61 K9 j,ax 1000003 5 (.int .u8) k,ax 1000004 119 nV l,ax 1000005 3 (.int .i64) m,ax 1000006 63 K4 o,ax 1000007 61 K9 p,ax 1000008 5 (.int .u8) q,ax 1000009 119 nV r]
def o3 (a:St):Option U:=fp ye F yf [.r,.r,.r,.l,.r,.b,.i] f243 J n a
def p6:=gU ye F yf [.r,.r,.r,.l,.r,.b] f243 fK 2
def FD (i c d r e f g h j:Int)(k:ByteArray)(l:List Int)(o:ByteArray)(p:List D4)(q:List D9)(s:List Int)(t:Int)(u:List iO)(m O:Int)(m2:ByteArray)(P:Int)(Q:ByteArray)(R:List Int)(S:Int)(T:ByteArray)(W:List Int)(X:Int)(Y:ByteArray)(Z:List Int)(qa qb qd qe qf qg qh qi qj qk ql:Int)(qm qn:ByteArray)(qo qp v w x y z:Int)(A B:ByteArray)(C:Int)(qq:List Int)(D:List D4)(E:List D9)(G:List Int)(H:List iO)(I:List Int)(K:List D4)(L:List D9)(M:List Int)(N:List iO):o3 F J (n+1) (k7 i c d r e f g h j k l o p q s t u m O m2 P Q R S T W X Y Z qa qb qd qe qf qg qh qi qj qk ql qm qn qo qp v w x y z A B C qq D E G H I K L M N)=br (decide (i<c)) (br (i==r) (o3 F J n (k7 (ai (i+1)) c d r e f g h j k l o p q s t u m O m2 P Q R S T W X Y Z qa qb qd qe qf qg qh qi qj qk ql qm qn qo qp v w x y z A B C qq D E G H I K L M N)) ((eT F0 (c,d) (qp,v,w,(x,y,(z,A,I),B),K,L,(M,C),N) i (m,O,(m2,P,Q,R),(S,T,W),(X,Y,Z),qa,qb,qd,qe,qf)).bind fun a=>br (!a.1.2.1) ((aW F0 (r,e,f,(g,h,(j,k,l),o),p,q,(s,t),u)).bind fun b=>J .ret (Oh false b.1.1 b.1.2.1 b.1.2.2.1 b.1.2.2.2.1.1 b.1.2.2.2.1.2.1 b.1.2.2.2.1.2.2.1.1 b.1.2.2.2.1.2.2.1.2.1 b.1.2.2.2.1.2.2.2 b.1.2.2.2.2.2.2.1.2 b.1.2.2.2.1.2.2.1.2.2 b.1.2.2.2.2.1 b.1.2.2.2.2.2.1 b.1.2.2.2.2.2.2.1.1 b.1.2.2.2.2.2.2.2)) (o3 F J n (k7 (ai (i+1)) c d r e f g h j k l o p q s t u m O m2 P Q R S T W X Y Z qa qb qd qe qf qg qh qi qj qk ql qm qn qo a.1.1.1 a.1.1.2.1 a.1.1.2.2.1 a.1.1.2.2.2.1.1 a.1.1.2.2.2.1.2.1 a.1.1.2.2.2.1.2.2.1.1 a.1.1.2.2.2.1.2.2.1.2.1 a.1.1.2.2.2.1.2.2.2 a.1.1.2.2.2.2.2.2.1.2 qq D E G H a.1.1.2.2.2.1.2.2.1.2.2 a.1.1.2.2.2.2.1 a.1.1.2.2.2.2.2.1 a.1.1.2.2.2.2.2.2.1.1 a.1.1.2.2.2.2.2.2.2)))) (J (.exit 0) (KZ qg qh qi qj qk ql qm qn qo qp v w x y z A B C qq D E G H I K L M N)):=by kernel_rfl
def abw (e:Bool)(f g h i j k:Int)(l m:ByteArray)(o:Int)(p:List Int)(a:List D4)(b:List D9)(c:List Int)(d:List iO):p6 F .ret (Oh e f g h i j k l m o p a b c d)=some ((f,g,h,(i,j,(k,l,p),m),a,b,(c,o),d),e,()):=by kernel_rfl
def Zo (t u v w x y:Int)(z A:ByteArray)(B o a b c d e:Int)(f g:ByteArray)(h:Int)(C:List Int)(p:List D4)(q:List D9)(r:List Int)(s:List iO)(i:List Int)(j:List D4)(k:List D9)(l:List Int)(m:List iO):p6 F (.exit 0) (KZ t u v w x y z A B o a b c d e f g h C p q r s i j k l m)=some ((o,a,b,(c,d,(e,f,i),g),j,k,(l,h),m),true,()):=by kernel_rfl
def yg (c:D1)(r:a6)(m:MO):=bh ye F yf f243 XI fK 2 (c,r,m,())
def ah2 (c:D1)(r:a6)(m:MO):yg F c r m=(aW F0 r).bind fun a=>(dj F0 c r).bind fun b=>br (!b.1) (some (a.1,false,())) (o3 F (p6 F) F.n (k7 0 c.1 c.2 r.1 r.2.1 r.2.2.1 r.2.2.2.1.1 r.2.2.2.1.2.1 r.2.2.2.1.2.2.1.1 r.2.2.2.1.2.2.1.2.1 r.2.2.2.1.2.2.1.2.2 r.2.2.2.1.2.2.2 r.2.2.2.2.1 r.2.2.2.2.2.1 r.2.2.2.2.2.2.1.1 r.2.2.2.2.2.2.1.2 r.2.2.2.2.2.2.2 m.1 m.2.1 m.2.2.1.1 m.2.2.1.2.1 m.2.2.1.2.2.1 m.2.2.1.2.2.2 m.2.2.2.1.1 m.2.2.2.1.2.1 m.2.2.2.1.2.2 m.2.2.2.2.1.1 m.2.2.2.2.1.2.1 m.2.2.2.2.1.2.2 m.2.2.2.2.2.1 m.2.2.2.2.2.2.1 m.2.2.2.2.2.2.2.1 m.2.2.2.2.2.2.2.2.1 m.2.2.2.2.2.2.2.2.2 0 0 0 0 0 0 aj aj 0 a.1.1 a.1.2.1 a.1.2.2.1 a.1.2.2.2.1.1 a.1.2.2.2.1.2.1 a.1.2.2.2.1.2.2.1.1 a.1.2.2.2.1.2.2.1.2.1 a.1.2.2.2.1.2.2.2 a.1.2.2.2.2.2.2.1.2 [] [] [] [] [] a.1.2.2.2.1.2.2.1.2.2 a.1.2.2.2.2.1 a.1.2.2.2.2.2.1 a.1.2.2.2.2.2.2.1.1 a.1.2.2.2.2.2.2.2)):=by kernel_rfl
def Oi:Any:=.one ⟨XI,fK,2,fun x=>yg F0 x.1 x.2.1 x.2.2.1⟩
def ah3:aX 243 Oi:=aw ye ⟨cl,cP,tF,trivial⟩ func243 yf (by kernel_rfl)
def XM:=[(51,bS),(54,PT),(243,Oi),(244,uO)]
def K0 (w:nx)(a:Int):Option (nx×Int×nx):=anK Tryz.prog (look XM) F ab f186 [(gp,true),(.int .i64,false)] 0 (gp,true) (.int .i64,false) (gp,true) (w,a,())
def alk (w:nx)(a:Int):K0 F w a=ck (bN a (w.2.2.1.length:Int)) ((TU F0 w.1 (ay w.2.2.1 a bD.aq)).bind fun c=>br (!c.2.1) (some (gp.aq,3,w)) (ck (bN a (w.2.2.1.length:Int)) ((aW F0 (ay w.2.2.1 a bD.aq)).bind fun b=>(yg F0 w.1 (b.1.1,b.1.2.1,b.1.2.1,b.1.2.2.2) (1,0,c.1,(0,aj,[]),(0,aj,[]),0,0,0,0,0)).bind fun d=>(o0 F0 w.1 d.1 c.1).bind fun e=>br (!d.2.1) (some (gp.aq,4,w)) (br (!e.2.1) (some (gp.aq,4,w)) (ck (bN a (w.2.2.1.length:Int)) (some ((w.1,w.2.1,w.2.2.1.set a.toNat e.1,w.2.2.2),0,gp.aq))))))):=by kernel_rfl
def RD:Any:=.sel ⟨[(gp,true),(.int .i64,false)],0,(gp,true),(.int .i64,false),(gp,true),fun x=>K0 F0 x.1 x.2.1⟩
def alm:aX 186 RD:=ok4 (show wb Tryz.prog TB XM from⟨cl,agb,ah3,KP,trivial⟩) func186 (by kernel_rfl) (by kernel_rfl) ab (by kernel_rfl) (by kernel_rfl)
def agl:=[(100,kV),(125,mO)]
def VO (d:D14):=bh agl F ab f290 nW nW 2 (d,())
def arP (d:D14):VO F d=(gV F0 d).bind fun a=>(lW F0 d).bind fun b=>br b.1 (some ((a.1.1,(d.1.length:Int)),())) (some (a.1,())):=by kernel_rfl
def XN:Any:=.one ⟨nW,nW,2,fun x=>VO F0 x.1⟩
def arQ:aX 290 XN:=aw agl ⟨tc,wF,trivial⟩ func290 ab (by kernel_rfl)
def Ud:=[(51,bS),(64,cn),(101,wT),(290,XN)]
abbrev ayN:List (Ty×Bool):=[(bD,true),(K23,false)]
def GO (c:D1)(r:a6):=bh Ud F ab f245 An ayN 2 (c,r,())
def ah4 (c:D1)(r:a6):GO F c r=(aW F0 r).bind fun a=>(dj F0 c r).bind fun b=>br (!b.1) (some (a.1,[],())) ((VO F0 r.2.2.2.2.2.2.1).bind fun d=>(sh F0 r.2.2.2.2.2.2.2).bind fun e=>some ((a.1.1,a.1.2.1,a.1.2.2.1,a.1.2.2.2.1,a.1.2.2.2.2.1,a.1.2.2.2.2.2.1,d.1,[]),e.1,())):=by kernel_rfl
def Oj:Any:=.one ⟨An,ayN,2,fun x=>GO F0 x.1 x.2.1⟩
def ah5:aX 245 Oj:=aw Ud ⟨cl,cP,NN,arQ,trivial⟩ func245 ab (by kernel_rfl)
def XO:=[(55,cK)]
abbrev ayO:List (Ty×Bool):=[(.int .i64,false),(K21,true)]
def La (a:Int)(m:MO):=bh XO F ab f291 ayO [(K38,false)] 2 (a,m,())
def aln (a:Int)(m:MO):La F a m=br (m.1==2) (br (m.1==4) (some ([],())) (br (m.2.2.2.1.2.1.toList==aj.toList) (some ([],())) ((cQ F0 m.2.2.2.1.2.2 a).bind fun b=>br (!b.1) (some ([],())) (some ([(m.2.2.2.1.1,m.2.2.2.1.2.1,a)],()))))) (br (m.1==1) (br (m.1==4) (some ([],())) (br (m.2.2.1.2.2.1.toList==aj.toList) (some ([],())) ((cQ F0 m.2.2.1.2.2.2 a).bind fun b=>br (!b.1) (some ([],())) (some ([(m.2.2.1.2.1,m.2.2.1.2.2.1,a)],()))))) (br (m.1==4) (some ([],())) (br (m.2.2.2.2.1.2.1.toList==aj.toList) (some ([],())) ((cQ F0 m.2.2.2.2.1.2.2 a).bind fun b=>br (!b.1) (some ([],())) (some ([(m.2.2.2.2.1.1,m.2.2.2.2.1.2.1,a)],())))))):=by kernel_rfl
def RE:Any:=.one ⟨ayO,[(K38,false)],2,fun x=>La F0 x.1 x.2.1⟩
def alo:aX 291 RE:=aw XO ⟨dA,trivial⟩ func291 ab (by kernel_rfl)
def mb:=[(20,A5),(55,cK),(116,ER),(280,EP),(291,RE)]
def mc:Nat->Option Hint:=look [(5,{live:=[1,2,6,7,8],vW:=[(6,2,3,.int .i64),(6,3,50,bD),(6,4,102,eH),(6,5,95,c8)],xl:=[6,7],rl:=[6]}),(9,{live:=[1,2,6,7,8,9,10],xl:=[1,2,6,7,8],rl:=[6]})]
def k8 (l:Int)(m:List iO)(i k o p q a:Int)(r:List bT)(b:List Int)(c:List a6)(d:List bZ)(e:List bT)(f:List Int)(g:List a6)(h:List bZ)(j:List bT):= di 66 [(1,bp l),(2,hM 119 (nV) m),b0 6,b0 7,(8,bp i),(9,.v (.c (.own 1000000 none))),(10,bp k)] [(6,[an o,an p,.own 1000001 none,.own 1000002 none,.own 1000003 none,.own 1000004 none]),(7,[an q,an a,.own 1000005 none,.own 1000006 none,.own 1000007 none,.own 1000008 none])] [ax 1000000 95 c8 r,ax 1000001 3 (.int .i64) b,ax 1000002 50 bD c,ax 1000003 102 eH d,ax 1000004 95 c8 e,ax 1000005 3 (.int .i64) f,ax 1000006 50 bD g,ax 1000007 102 eH h,ax 1000008 95 c8 j]
def RF (j:Int)(k:List iO)(i l m o a:Int)(p:List Int)(b:List a6)(c:List bZ)(d:List bT)(e:List Int)(f:List a6)(g:List bZ)(h:List bT):= di 66 [(1,bp j),(2,hM 119 (nV) k),b0 6,b0 7,(8,bp i)] [(6,[an l,an m,.own 1000000 none,.own 1000001 none,.own 1000002 none,.own 1000003 none]),(7,[an o,an a,.own 1000004 none,.own 1000005 none,.own 1000006 none,.own 1000007 none])] [ax 1000000 3 (.int .i64) p,ax 1000001 50 bD b,ax 1000002 102 eH c,ax 1000003 95 c8 d,ax 1000004 3 (.int .i64) e,ax 1000005 50 bD f,ax 1000006 102 eH g,ax 1000007 95 c8 h]
def p7 (a:St):Option U:=fp mb F mc [.r,.r,.r,.l,.r,.b,.i,.r,.l,.b,.r,.r,.b,.i] f246 J n a
def I2:Ex->St->Option U:=adj Tryz.prog (look mb) F mc [.r,.l,.b,.r,.r,.b] (sub [.r,.r,.r,.l,.r,.b,.i] (iu f246)) (itk Tryz.prog (look mb) F mc (sub [.r,.r,.r,.l,.r,.b,.i] (iu f246)) J n)
def yh (j:Int)(k:List iO)(i l m o a:Int)(p:List Int)(b:List a6)(c:List bZ)(d:List bT)(e:List Int)(f:List a6)(g:List bZ)(h:List bT):= di 66 [(1,bp j),(2,hM 119 (nV) k),b0 6,b0 7,(8,bp i)] [(6,[an l,an m,.own 1000000 none,.own 1000001 none,.own 1000002 none,.own 1000003 none]),(7,[an o,an a,.own 1000004 none,.own 1000005 none,.own 1000006 none,.own 1000007 none])] [ax 1000000 3 (.int .i64) p,ax 1000001 50 bD b,ax 1000002 102 eH c,ax 1000003 95 c8 d,ax 1000004 3 (.int .i64) e,ax 1000005 50 bD f,ax 1000006 102 eH g,ax 1000007 95 c8 h]
def RG (i j k a:Int)(l:List Int)(b:List a6)(c:List bZ)(d:List bT)(e:List Int)(f:List a6)(g:List bZ)(h:List bT):= di 66 [b0 6,b0 7] [(6,[an i,an j,.own 1000000 none,.own 1000001 none,.own 1000002 none,.own 1000003 none]),(7,[an k,an a,.own 1000004 none,.own 1000005 none,.own 1000006 none,.own 1000007 none])] [ax 1000000 3 (.int .i64) l,ax 1000001 50 bD b,ax 1000002 102 eH c,ax 1000003 95 c8 d,ax 1000004 3 (.int .i64) e,ax 1000005 50 bD f,ax 1000006 102 eH g,ax 1000007 95 c8 h]
def GP (a:St):Option U:=fp mb F mc [.r,.r,.r,.l,.r,.b,.i] f246 J n a
def yi:=gU mb F mc [.r,.r,.r,.l,.r,.b] f246 fG 2
def Lb (m:Int)(o:List iO)(i k p q r c:Int)(a:List bT)(d:List Int)(e:List a6)(f:List bZ)(g:List bT)(h:List Int)(j:List a6)(l:List bZ)(b:List bT):p7 F J (n+1) (k8 m o i k p q r c a d e f g h j l b)=br (decide (k<(a.length:Int))) (ck (bN k (a.length:Int)) (br (decide ((b.length:Int)<300)) ((DF F0 b (ay a k c8.aq).1 (ay a k c8.aq).2.1 (ay a k c8.aq).2.2).bind fun s=>br (!s.1) (ck (ee F b.length [(ay a k c8.aq)].length 32) (p7 F J n (k8 m o i (ai (k+1)) p q r c a d e f g h j l (b++[(ay a k c8.aq)])))) (p7 F J n (k8 m o i (ai (k+1)) p q r c a d e f g h j l b))) (p7 F J n (k8 m o i (ai (k+1)) p q r c a d e f g h j l b)))) (J (.exit 2) (RF m o i p q r c d e f g h j l b)):=by kernel_rfl
def Lc (k:Int)(a:List iO)(i l m o b:Int)(p:List Int)(c:List a6)(d:List bZ)(e:List bT)(f:List Int)(g:List a6)(h:List bZ)(j:List bT):GP F J (n+1) (yh k a i l m o b p c d e f g h j)=br (decide (i<(a.length:Int))) (ck (bN i (a.length:Int)) ((La F0 k (ay a i nV.aq).2).bind fun q=>p7 F (I2 F J n) F.n (k8 k a i 0 l m o b q.1 p c d e f g h j))) (J (.exit 0) (RG l m o b p c d e f g h j)):=by kernel_rfl
def aea (j:Int)(k:List iO)(i l m o a:Int)(p:List Int)(b:List a6)(c:List bZ)(d:List bT)(e:List Int)(f:List a6)(g:List bZ)(h:List bT):I2 F J n (.exit 2) (RF j k i l m o a p b c d e f g h)=GP F J n (yh j k (ai (i+1)) l m o a p b c d e f g h):=by kernel_rfl
def aeb (j k f a:Int)(l:List Int)(g:List a6)(h:List bZ)(i:List bT)(b:List Int)(c:List a6)(d:List bZ)(e:List bT):yi F (.exit 0) (RG j k f a l g h i b c d e)=some (((f,a),b,c,d,e),()):=by kernel_rfl
abbrev ayP:List (Ty×Bool):=[(gp,true),(.int .i64,false),(K23,false)]
def I3 (w:nx)(a:Int)(b:D23):=bh mb F mc f246 ayP fG 2 (w,a,b,())
def aol (w:nx)(b:Int)(c:D23):I3 F w b c=(wW F0 w).bind fun a=>(DG F0 w).bind fun d=>(cQ F0 d.1 b).bind fun e=>br (!e.1) (some (a.1,())) (GP F (yi F) F.n (yh b c 0 0 0 a.1.1.1 a.1.1.2 [] [] [] [] a.1.2.1 a.1.2.2.1 a.1.2.2.2.1 a.1.2.2.2.2)):=by kernel_rfl
def Ue:Any:=.one ⟨ayP,fG,2,fun x=>I3 F0 x.1 x.2.1 x.2.2.1⟩
def aom:aX 246 Ue:=aw mb ⟨Q8,dA,Uc,Ub,alo,trivial⟩ func246 mc (by kernel_rfl)
def Uf:=[(185,Bg),(245,Oj),(246,Ue)]
def GQ (w:nx)(a:Int):Option (nx×Int×nx):=anK Tryz.prog (look Uf) F ab f187 [(gp,true),(.int .i64,false)] 0 (gp,true) (.int .i64,false) (gp,true) (w,a,())
def ah6 (w:nx)(a:Int):GQ F w a=ck (bN a (w.2.2.1.length:Int)) ((GO F0 w.1 (ay w.2.2.1 a bD.aq)).bind fun b=>br (decide ((ai ((w.2.2.2.1.length:Int)+(b.2.1.length:Int)))>60)) (some (gp.aq,4,w)) (br (decide ((ai ((w.2.2.2.2.length:Int)+(b.2.1.length:Int)))>300)) (some (gp.aq,4,w)) (ck (bN a (w.2.2.1.length:Int)) ((I3 F0 (w.1,w.2.1,w.2.2.1.set a.toNat b.1,w.2.2.2) a b.2.1).bind fun c=>(yd F0 c.1 b.2.1).bind fun d=>some (d.1.1,0,gp.aq))))):=by kernel_rfl
def Ok:Any:=.sel ⟨[(gp,true),(.int .i64,false)],0,(gp,true),(.int .i64,false),(gp,true),fun x=>GQ F0 x.1 x.2.1⟩
def ah7:aX 187 Ok:=ok4 (show wb Tryz.prog TB Uf from⟨RB,ah5,aom,trivial⟩) func187 (by kernel_rfl) (by kernel_rfl) ab (by kernel_rfl) (by kernel_rfl)
def abx:=[(51,bS),(64,cn),(292,oa)]
def P1 (c:D1)(r:a6)(a:Int)(name:ByteArray)(b:Bool):=bh abx F ab f247 apQ fK 2 (c,r,a,name,b,())
def aon (c:D1)(r:a6)(b:Int)(name:ByteArray)(d:Bool):P1 F c r b name d=(dj F0 c r).bind fun e=>br (!e.1) ((aW F0 r).bind fun f=>some (f.1,false,())) ((aW F0 r).bind fun g=>(nD F0 c g.1 b name d).bind fun a=>br (!a.1.2.1) ((aW F0 r).bind fun h=>some (h.1,false,())) (some (a.1.1,true,()))):=by kernel_rfl
def Ug:Any:=.one ⟨apQ,fK,2,fun x=>P1 F0 x.1 x.2.1 x.2.2.1 x.2.2.2.1 x.2.2.2.2.1⟩
def aoo:aX 247 Ug:=aw abx ⟨cl,cP,Bd,trivial⟩ func247 ab (by kernel_rfl)
end
end Go.Am.Tryz
