/- No condition. -/
import Derived.Test.YtaheoongenkdbaaGreatDoorQeXJG2
set_option linter.all false
set_option maxRecDepth 100000
namespace Go.Am.Tryz
open Go.Am Go.Proofs Go.Proofs.Tryz
noncomputable section
variable {U:Type} (F:oH) (J:Ex->St->Option U) (n:Nat)
def yJ:=[(111,gb),(281,hD),(282,rB)]
def yK:Nat->Option Hint:=look [(6,{live:=[3,5,6],xl:=[5],rl:=[4]})]
def rC (i q:Int)(a:ByteArray)(b c:List Int):= di 41 [b9 3,(5,.v (.c (.own 1000000 none))),(6,bq i)] [(3,[an q,.str a,.ro false 3 (.int .i64) b])] [ay 1000000 5 (.int .u8) c]
def LX (a:List Int):= di 41 [(5,.v (.c (.own 1000000 none)))] [] [ay 1000000 5 (.int .u8) a]
def yL (a:St):Option U:=fy yJ F yK [.r,.r,.r,.r,.l,.r,.b,.i] f283 J n a
def B2:=ig yJ F yK [.r,.r,.r,.r,.l,.r,.b] f283 ld 2
def Gz (i q:Int)(c:ByteArray)(a b:List Int):yL F J (n+1) (rC i q c a b)=br (decide (i<(a.length:Int))) (ck (bO i (a.length:Int)) ((eb F0 (aN a i 0)).bind fun d=>ck (eA F b.length d.1.length 1) (yL F J n (rC (aj (i+1)) q c a (b++d.1))))) (J (.exit 0) (LX b)):=by kernel_rfl
def aay (a:List Int):B2 F (.exit 0) (LX a)=some (a,()):=by kernel_rfl
def rD (c:D1)(q:D9):=bn yJ F yK f283 Gk ld 2 (c,q,())
def ajA (c:D1)(q:D9):rD F c q=(jQ F0 c q).bind fun e=>br (!e.1) (some ([],())) ((eb F0 q.1).bind fun a=>(mJ F0 q.2.1).bind fun b=>ck (eA F a.1.length b.1.length 1) ((eb F0 (q.2.2.length:Int)).bind fun d=>ck (eA F (a.1++b.1).length d.1.length 1) (yL F (B2 F) F.n (rC 0 q.1 q.2.1 q.2.2 ((a.1++b.1)++d.1))))):=by kernel_rfl
def B3:Any:=.one ⟨Gk,ld,2,fun x=>rD F0 x.1 x.2.1⟩
def Sv:ba 283 B3:=aw yJ ⟨j9,lJ,FN,trivial⟩ func283 yK (by kernel_rfl)
def O5:=[(122,hl),(281,hD),(282,rB),(283,B3)]
def yM (c:D1)(s:TN):=bn O5 F ab f339 R8 ld 2 (c,s,())
def acB (c:D1)(s:TN):yM F c s=(iB F0 c s).bind fun f=>br (!f.1) (some ([],())) ((eb F0 s.1).bind fun a=>(eb F0 s.2.1).bind fun b=>ck (eA F a.1.length b.1.length 1) ((rD F0 c s.2.2.1).bind fun d=>ck (eA F (a.1++b.1).length d.1.length 1) ((mJ F0 s.2.2.2).bind fun e=>ck (eA F ((a.1++b.1)++d.1).length e.1.length 1) (some (((a.1++b.1)++d.1)++e.1,()))))):=by kernel_rfl
def JU:Any:=.one ⟨R8,ld,2,fun x=>yM F0 x.1 x.2.1⟩
def acC:ba 339 JU:=aw O5 ⟨lh,lJ,FN,Sv,trivial⟩ func339 ab (by kernel_rfl)
def O6:=[(281,hD),(339,JU)]
def yN (c:D1)(s:TN):=bn O6 F ab f320 R8 ld 2 (c,s,())
def acD (c:D1)(s:TN):yN F c s=(yM F0 c s).bind fun a=>br ((a.1.length:Int)==0) (some ([],())) ((eb F0 (a.1.length:Int)).bind fun b=>ck (eA F b.1.length a.1.length 1) (ck (eA F (b.1++a.1).length [10].length 1) (some ((b.1++a.1)++[10],())))):=by kernel_rfl
def JV:Any:=.one ⟨R8,ld,2,fun x=>yN F0 x.1 x.2.1⟩
def acE:ba 320 JV:=aw O6 ⟨lJ,acC,trivial⟩ func320 ab (by kernel_rfl)
def YU:=[(100,lC),(125,nG)]
abbrev aBp:List (Ty×Bool):=[(K14,true),(.sl 5 (.int .u8),false)]
abbrev aBq:List (Ty×Bool):=[(K14,true),(.bool,false)]
def LY (d:D14)(b:List Int):=bn YU F ab f319 aBp aBq 2 (d,b,())
def amN (d:D14)(b:List Int):LY F d b=(ij F0 d).bind fun a=>ck (eA F a.1.1.length b.length 1) ((mq F0 d).bind fun e=>br (!e.1) ((ij F0 d).bind fun c=>some (c.1,false,())) ((mq F0 (a.1.1++b,a.1.2)).bind fun f=>br (!f.1) ((ij F0 d).bind fun c=>some (c.1,false,())) (some ((a.1.1++b,a.1.2),true,())))):=by kernel_rfl
def Sw:Any:=.one ⟨aBp,aBq,2,fun x=>LY F0 x.1 x.2.1⟩
def amO:ba 319 Sw:=aw YU ⟨ui,yh,trivial⟩ func319 ab (by kernel_rfl)
def Sx:=[(98,lB),(122,hl),(318,LV),(319,Sw),(320,JV)]
def ep (c:D1)(r:bb)(s:TN):Option (bb×Bool×bb):=apX Tryz.prog (look Sx) F ab f288 [(K1,true),(cl,true),(K12,true)] 1 (cl,true) (.bool,false) (cl,true) (c,r,s,())
def afr (c:D1)(r:bb)(s:TN):ep F c r s=(Dd F0 r.2.2.2.1 s).bind fun b=>br b.1 (some (r,true,cl.aC)) ((yN F0 c s).bind fun d=>(LY F0 r.2.2.2.2.2.2.1 d.1).bind fun a=>br (!a.2.1) (some (cl.aC,false,r)) ((iB F0 c s).bind fun e=>br (!e.1) (some (cl.aC,false,r)) ((mH F0 s).bind fun f=>some ((r.1,r.2.1,r.2.2.1,f.1,r.2.2.2.2.1,r.2.2.2.2.2.1,a.1,r.2.2.2.2.2.2.2),true,cl.aC)))):=by kernel_rfl
def oW:Any:=.sel ⟨[(K1,true),(cl,true),(K12,true)],1,(cl,true),(.bool,false),(cl,true),fun x=>ep F0 x.1 x.2.1 x.2.2.1⟩
def B4:ba 288 oW:=ok4 (show xJ Tryz.prog TB Sx from⟨ue,lh,afq,amO,acE,trivial⟩) func288 (by kernel_rfl) (by kernel_rfl) ab (by kernel_rfl) (by kernel_rfl)
def lK:=[(182,FL)]
def lL:Nat->Option Hint:=look [(3,{live:=[0,1,5,6],xl:=[1,5],rl:=[4]}),(7,{live:=[1,5,7],xl:=[5],rl:=[4]})]
def rE (b:List Int)(i:Int)(a:List Int):= di 34 [(1,ih 3 (.int .i64) b),(5,.v (.c (.own 1000000 none))),(7,bq i)] [] [ay 1000000 3 (.int .i64) a]
def LZ (a:List Int):= di 34 [(5,.v (.c (.own 1000000 none)))] [] [ay 1000000 3 (.int .i64) a]
def yO (a:St):Option U:=fy lK F lL [.r,.r,.r,.l,.r,.b,.i] f325 J n a
def B5:=ig lK F lL [.r,.r,.r,.l,.r,.b] f325 jK 2
def rF (a b:List Int)(i:Int)(c:List Int):= di 34 [(0,ih 3 (.int .i64) a),(1,ih 3 (.int .i64) b),(5,.v (.c (.own 1000000 none))),(6,bq i)] [] [ay 1000000 3 (.int .i64) c]
def L0 (b a:List Int):= di 34 [(1,ih 3 (.int .i64) b),(5,.v (.c (.own 1000000 none)))] [] [ay 1000000 3 (.int .i64) a]
def yP (a:St):Option U:=fy lK F lL [.r,.r,.l,.r,.b,.i] f325 J n a
def B6:=ig lK F lL [.r,.r,.l,.r,.b] f325 jK 2
def GA (b:List Int)(i:Int)(a:List Int):yO F J (n+1) (rE b i a)=br (decide (i<(b.length:Int))) (ck (bO i (b.length:Int)) ((wD F0 a (aN b i 0)).bind fun c=>yO F J n (rE b (aj (i+1)) c.1))) (J (.exit 2) (LZ a)):=by kernel_rfl
def GB (a b:List Int)(i:Int)(c:List Int):yP F J (n+1) (rF a b i c)=br (decide (i<(a.length:Int))) (ck (bO i (a.length:Int)) ((wD F0 c (aN a i 0)).bind fun d=>yP F J n (rF a b (aj (i+1)) d.1))) (J (.exit 0) (L0 b c)):=by kernel_rfl
def aaz (a:List Int):B5 F (.exit 2) (LZ a)=some (a,()):=by kernel_rfl
def aaA (b a:List Int):B6 F (.exit 0) (L0 b a)=yO F (B5 F) F.n (rE b 0 a):=by kernel_rfl
def HO (a b:List Int):=bn lK F lL f325 ai2 jK 2 (a,b,())
def ajB (a b:List Int):HO F a b=yP F (B6 F) F.n (rF a b 0 []):=by kernel_rfl
def O7:Any:=.one ⟨ai2,jK,2,fun x=>HO F0 x.1 x.2.1⟩
def ajC:ba 325 O7:=aw lK ⟨U6,trivial⟩ func325 lL (by kernel_rfl)
def Sy:=[(325,O7)]
abbrev ahR:List (Ty×Bool):=[(K9,true),(.bool,false)]
def Dh (a b:D9):=bn Sy F ab f295 wz ahR 2 (a,b,())
def afs (a b:D9):Dh F a b=br (a.1 != b.1) (some ((0,ak,[]),false,())) (br (!(a.2.1.toList==b.2.1.toList)) (some ((0,ak,[]),false,())) ((HO F0 a.2.2 b.2.2).bind fun c=>some ((a.1,a.2.1,c.1),true,()))):=by kernel_rfl
def L1:Any:=.one ⟨wz,ahR,2,fun x=>Dh F0 x.1 x.2.1⟩
def aft:ba 295 L1:=aw Sy ⟨ajC,trivial⟩ func295 ab (by kernel_rfl)
def uH:=[(99,yt),(124,BO),(175,iJ),(195,nF),(196,vB),(295,L1)]
def uI:Nat->Option Hint:=look [(4,{live:=[1,3,5,8,9,10],xl:=[1,3,5,8,9],rl:=[6,7]})]
def e7 (e:List D9)(put:Bool)(i c a p:Int)(b:ByteArray)(d:List Int)(f:List D9):= di 74 [(1,ih 61 (K9) e),b9 3,b9 5,(8,.v (.c (.own 1000000 none))),(9,NR put),(10,bq i)] [(3,[an c,an a]),(5,[an p,.str b,.ro false 3 (.int .i64) d])] [ay 1000000 61 K9 f]
def JW (e:List D9)(put:Bool)(c a p:Int)(b:ByteArray)(d:List Int)(f:List D9):= di 74 [(1,ih 61 (K9) e),b9 3,b9 5,(8,.v (.c (.own 1000000 none))),(9,NR put)] [(3,[an c,an a]),(5,[an p,.str b,.ro false 3 (.int .i64) d])] [ay 1000000 61 K9 f]
def hH (a:St):Option U:=fy uH F uI [.r,.r,.r,.l,.r,.b,.i] f249 J n a
abbrev arX:List (Ty×Bool):=[(K13,false),(.bool,false)]
def yQ:=ig uH F uI [.r,.r,.r,.l,.r,.b] f249 arX 2
def kg (e:List D9)(put:Bool)(i c g p:Int)(b:ByteArray)(d:List Int)(a:List D9):hH F J (n+1) (e7 e put i c g p b d a)=br (decide (i<(e.length:Int))) (ck (bO i (e.length:Int)) ((gf F0 (aN e i K9.aC)).bind fun f=>br (!put) ((pG F0 f.1 (p,b,d)).bind fun k=>br (!k.1) ((Dh F0 f.1 (p,b,d)).bind fun h=>br h.2.1 (ck (eA F a.length [h.1].length 48) (hH F J n (e7 e true (aj (i+1)) c g p b d (a++[h.1])))) ((gf F0 (p,b,d)).bind fun j=>ck (eA F a.length [j.1].length 48) (ck (eA F (a++[j.1]).length [f.1].length 48) (hH F J n (e7 e true (aj (i+1)) c g p b d ((a++[j.1])++[f.1])))))) (ck (eA F a.length [f.1].length 48) (hH F J n (e7 e put (aj (i+1)) c g p b d (a++[f.1]))))) (ck (eA F a.length [f.1].length 48) (hH F J n (e7 e put (aj (i+1)) c g p b d (a++[f.1])))))) (J (.exit 0) (JW e put c g p b d a)):=by kernel_rfl
def GC (e:List D9)(put:Bool)(c d p:Int)(f:ByteArray)(g:List Int)(b:List D9):yQ F (.exit 0) (JW e put c d p f g b)=br (!put) ((gf F0 (p,f,g)).bind fun h=>ck (eA F b.length [h.1].length 48) ((mE F0 (c,d) (b++[h.1])).bind fun i=>br (!i.1) ((gh F0 e).bind fun a=>some (a.1,false,())) ((ka F0 (c,d) (p,f,g)).bind fun j=>br (!j.1) ((gh F0 e).bind fun a=>some (a.1,false,())) (some (b++[h.1],true,()))))) ((mE F0 (c,d) b).bind fun i=>br (!i.1) ((gh F0 e).bind fun a=>some (a.1,false,())) ((ka F0 (c,d) (p,f,g)).bind fun j=>br (!j.1) ((gh F0 e).bind fun a=>some (a.1,false,())) (some (b,true,())))):=by kernel_rfl
abbrev aBr:List (Ty×Bool):=[(K1,true),(K13,false),(K9,true)]
def eW (c:D1)(a:D13)(p:D9):=bn uH F uI f249 aBr arX 2 (c,a,p,())
def afu (c:D1)(a:D13)(p:D9):eW F c a p=hH F (yQ F) F.n (e7 a false 0 c.1 c.2 p.1 p.2.1 p.2.2 []):=by kernel_rfl
def kh:Any:=.one ⟨aBr,arX,2,fun x=>eW F0 x.1 x.2.1 x.2.2.1⟩
def rG:ba 249 kh:=aw uH ⟨OP,R9,nI,ye,Lx,aft,trivial⟩ func249 uI (by kernel_rfl)
def YV:=[(111,gb)]
def EJ (c:D1)(p:D9):=bn YV F ab f340 Gk ahR 2 (c,p,())
def amP (c:D1)(p:D9):EJ F c p=ck (eA F 0 p.2.2.length 8) (br (p.2.1.toList==ak.toList) (some ((0,ak,[]),false,())) ((jQ F0 c (p.1,p.2.1,[]++p.2.2)).bind fun a=>br (!a.1) (some ((0,ak,[]),false,())) (some ((p.1,p.2.1,[]++p.2.2),true,())))):=by kernel_rfl
def Sz:Any:=.one ⟨Gk,ahR,2,fun x=>EJ F0 x.1 x.2.1⟩
def amQ:ba 340 Sz:=aw YV ⟨j9,trivial⟩ func340 ab (by kernel_rfl)
def Vf:=[(63,b6),(126,iX),(176,BV)]
abbrev aBs:List (Ty×Bool):=[(K1,true),(cl,true),(.int .i64,false),(K21,true)]
def e8 (c:D1)(r:bb)(a:Int)(m:NQ):=Ev Vf F ab f250 aBs 1 (.own true) gd [] 2 (c,r,a,m,())
def ajD (c:D1)(r:bb)(a:Int)(m:NQ):e8 F c r a m=br (decide ((r.2.2.2.2.2.2.2.length:Int)>=30)) (some ((r,false,()),())) ((e4 F0 c m).bind fun d=>br (!d.1) (some ((r,false,()),())) ((bL F0 a 0 (aj (c.1-1))).bind fun e=>br (!e.1) (some ((r,false,()),())) (br (a==r.1) (some ((r,false,()),())) ((yu F0 m).bind fun b=>ck (eA F r.2.2.2.2.2.2.2.length [(a,b.1)].length 224) (some (((r.1,r.2.1,r.2.2.1,r.2.2.2.1,r.2.2.2.2.1,r.2.2.2.2.2.1,r.2.2.2.2.2.2.1,r.2.2.2.2.2.2.2++[(a,b.1)]),true,()),())))))):=by kernel_rfl
def lM:Any:=.two ⟨aBs,1,(.own true),gd,2,[],fun x=>e8 F0 x.1 x.2.1 x.2.2.1 x.2.2.2.1⟩
def uJ:ba 250 lM:=azh Vf ⟨cA,n8,Sh,trivial⟩ func250 ab (by kernel_rfl)
def YW:=[(53,gv),(102,iD),(250,lM),(285,HN),(288,oW),(340,Sz)]
abbrev ahS:List (Ty×Bool):=[(K1,true),(cl,true),(K9,true)]
def L3 (c:D1)(r:bb)(p:D9):=Ev YW F ab f321 ahS 1 (.own true) gd [] 2 (c,r,p,())
def amR (c:D1)(r:bb)(p:D9):L3 F c r p=(EJ F0 c p).bind fun b=>br (!b.2.1) (some ((r,false,()),())) ((O2 F0 c r.2.2.2.1 b.1).bind fun f=>(ep F0 c r f.1).bind fun a=>br a.2.1 (br (decide ((aj (p.1+1))>60)) (some ((a.1,true,()),())) ((dC F0 a.1.2.1 (aj (p.1+1))).bind fun d=>(lF F0 c (aj (p.1+1))).bind fun g=>br (g.1==r.1) (some (((a.1.1,d.1,a.1.2.2),true,()),())) ((lF F0 c (aj (p.1+1))).bind fun h=>(e8 F0 c (a.1.1,d.1,a.1.2.2) h.1 (3,aj (p.1+1),(ak,0,ak,[]),(0,ak,[]),b.1,r.1,0,0,0,0)).bind fun e=>some ((e.1.1,e.1.2.1,()),())))) (some (((r.1,r.2.1,r.2.2.1,(r.2.2.2.1.1,r.2.2.2.1.2.1,(r.2.2.2.1.2.2.1.1,r.2.2.2.1.2.2.1.2.1,a.2.2.2.2.2.1.2.2.1.2.2),r.2.2.2.1.2.2.2),a.2.2.2.2.2.2.1,a.2.2.2.2.2.2.2.1,(a.2.2.2.2.2.2.2.2.1.1,r.2.2.2.2.2.2.1.2),a.2.2.2.2.2.2.2.2.2),false,()),()))):=by kernel_rfl
def SA:Any:=.two ⟨ahS,1,(.own true),gd,2,[],fun x=>L3 F0 x.1 x.2.1 x.2.2.1⟩
def amS:ba 321 SA:=azh YW ⟨kL,mI,uJ,Vc,B4,amQ,trivial⟩ func321 ab (by kernel_rfl)
def ahT:=[(29,cw),(63,b6)]
abbrev O8:List (Ty×Bool):=[(K1,true),(.int .i64,false),(.int .i64,false)]
def IT (c:D1)(a i:Int):=bn ahT F ab f341 O8 c7 1 (c,a,i,())
def at4 (c:D1)(a i:Int):IT F c a i=(dB F0 c).bind fun b=>br (!b.1) (some (-1,())) (br (decide (a<0)) (some (-1,())) ((bL F0 i 0 (aj (c.1-1))).bind fun d=>br (!d.1) (some (-1,())) (ck (!(c.1==0)) (ck (!(c.1==0)) (some (Int.tmod (aj ((aj (i+c.1))-(Int.tmod a c.1))) c.1,())))))):=by kernel_rfl
def Di:Any:=.one ⟨O8,c7,1,fun x=>IT F0 x.1 x.2.1 x.2.2.1⟩
def Q3:ba 341 Di:=aw ahT ⟨c9,cA,trivial⟩ func341 ab (by kernel_rfl)
def ahU:=[(29,cw),(63,b6)]
def W9 (c:D1)(b a:Int):=bn ahU F ab f344 O8 c7 1 (c,b,a,())
def at5 (c:D1)(b a:Int):W9 F c b a=(dB F0 c).bind fun d=>br (!d.1) (some (-1,())) (br (decide (b<0)) (some (-1,())) ((bL F0 a 0 (aj (c.1-1))).bind fun e=>br (!e.1) (some (-1,())) (ck (!(c.1==0)) (ck (!(c.1==0)) (some (Int.tmod (aj ((Int.tmod b c.1)+a)) c.1,())))))):=by kernel_rfl
def YX:Any:=.one ⟨O8,c7,1,fun x=>W9 F0 x.1 x.2.1 x.2.2.1⟩
def at6:ba 344 YX:=aw ahU ⟨c9,cA,trivial⟩ func344 ab (by kernel_rfl)
def arY:=[(341,Di),(344,YX)]
def Xa (c:D1)(a i:Int):=bn arY F ab f324 O8 c7 1 (c,a,i,())
def azi (c:D1)(a i:Int):Xa F c a i=(IT F0 c a i).bind fun b=>br (decide (b.1<=0)) (some (-1,())) (ck (!(c.2==0)) ((W9 F0 c a (aj (Int.tdiv (aj (b.1-1)) c.2))).bind fun d=>some (d.1,()))):=by kernel_rfl
def Vg:Any:=.one ⟨O8,c7,1,fun x=>Xa F0 x.1 x.2.1 x.2.2.1⟩
def amT:ba 324 Vg:=aw arY ⟨Q3,at6,trivial⟩ func324 ab (by kernel_rfl)
def Q4:=[(324,Vg),(341,Di)]
def Q5:Nat->Option Hint:=look [(2,{live:=[1,2,3,7],xl:=[7],rl:=[6]})]
def HP (b i c a:Int)(d:List Int):= di 23 [(1,bq b),(2,bq i),b9 3,(7,.v (.c (.own 1000000 none)))] [(3,[an c,an a])] [ay 1000000 3 (.int .i64) d]
def NT (a:List Int):= di 23 [(7,.v (.c (.own 1000000 none)))] [] [ay 1000000 3 (.int .i64) a]
def Q6 (a:St):Option U:=fy Q4 F Q5 [.r,.r,.l,.b,.i] f342 J n a
def acF:=ig Q4 F Q5 [.r,.r,.l,.b] f342 jK 2
def SB (b i c a:Int)(d:List Int):Q6 F J (n+1) (HP b i c a d)=(IT F0 (c,a) b i).bind fun e=>br (decide (e.1>=0)) (ck (eA F d.length [i].length 8) ((Xa F0 (c,a) b i).bind fun f=>Q6 F J n (HP b f.1 c a (d++[i])))) (J (.exit 0) (NT d)):=by kernel_rfl
def amU (a:List Int):acF F (.exit 0) (NT a)=some (a,()):=by kernel_rfl
def acG (c:D1)(a i:Int):=bn Q4 F Q5 f342 O8 jK 2 (c,a,i,())
def awD (c:D1)(a i:Int):acG F c a i=Q6 F (acF F) F.n (HP a i c.1 c.2 []):=by kernel_rfl
def acH:Any:=.one ⟨O8,jK,2,fun x=>acG F0 x.1 x.2.1 x.2.2.1⟩
def awE:ba 342 acH:=aw Q4 ⟨amT,Q3,trivial⟩ func342 Q5 (by kernel_rfl)
def HQ:=[(29,cw),(55,cL),(341,Di),(342,acH)]
def HR:Nat->Option Hint:=look [(5,{live:=[1,2,3,7,8],xl:=[7],rl:=[6]})]
def pO (b i k c a:Int)(d:List Int):= di 38 [(1,bq b),(2,bq i),b9 3,(7,.v (.c (.own 1000000 none))),(8,bq k)] [(3,[an c,an a])] [ay 1000000 3 (.int .i64) d]
def FO (a:List Int):= di 38 [(7,.v (.c (.own 1000000 none)))] [] [ay 1000000 3 (.int .i64) a]
def yR (a:St):Option U:=fy HQ F HR [.r,.r,.r,.l,.r,.b,.i] f322 J n a
def JX:=ig HQ F HR [.r,.r,.r,.l,.r,.b] f322 jK 2
def yS (d i k c b:Int)(a:List Int):yR F J (n+1) (pO d i k c b a)=br (decide (k<c)) ((IT F0 (c,b) d i).bind fun e=>br (decide (e.1>=0)) ((acG F0 (c,b) d k).bind fun f=>(cR F0 f.1 i).bind fun g=>br g.1 (ck (eA F a.length [k].length 8) (yR F J n (pO d i (aj (k+1)) c b (a++[k])))) (yR F J n (pO d i (aj (k+1)) c b a))) (J (.exit 0) (FO a))) (J (.exit 0) (FO a)):=by kernel_rfl
def O9 (a:List Int):JX F (.exit 0) (FO a)=some (a,()):=by kernel_rfl
def Q7 (c:D1)(a i:Int):=bn HQ F HR f322 O8 jK 2 (c,a,i,())
def aqs (c:D1)(a i:Int):Q7 F c a i=(dB F0 c).bind fun b=>br (!b.1) (some ([],())) (yR F (JX F) F.n (pO a i 0 c.1 c.2 [])):=by kernel_rfl
def Vh:Any:=.one ⟨O8,jK,2,fun x=>Q7 F0 x.1 x.2.1 x.2.2.1⟩
def aqt:ba 322 Vh:=aw HQ ⟨c9,dD,Q3,awE,trivial⟩ func322 HR (by kernel_rfl)
def aaB (a:Bool):=bn aB F ab f343 aT c7 1 (a,())
def aqu (a:Bool):aaB F a=br a (some (1,())) (some (0,())):=by kernel_rfl
def Vi:Any:=.one ⟨aT,c7,1,fun x=>aaB F0 x.1⟩
def aqv:ba 343 Vi:=aw aB trivial func343 ab (by kernel_rfl)
def Dj:=[(55,cL),(343,Vi)]
def Dk:Nat->Option Hint:=look [(3,{live:=[0,1,5,6],xl:=[5],rl:=[4]})]
def uK (a b:List Int)(c i:Int):= b3 23 [(0,ih 3 (.int .i64) a),(1,ih 3 (.int .i64) b),(5,bq c),(6,bq i)]
def Pb (a:Int):= b3 23 [(5,bq a)]
def Dl (a:St):Option U:=fy Dj F Dk [.r,.r,.l,.r,.b,.i] f323 J n a
def FP:=ig Dj F Dk [.r,.r,.l,.r,.b] f323 c7 1
def JY (a b:List Int)(c i:Int):Dl F J (n+1) (uK a b c i)=br (decide (i<(a.length:Int))) (ck (bO i (a.length:Int)) ((cR F0 b (aN a i 0)).bind fun d=>(aaB F0 d.1).bind fun e=>Dl F J n (uK a b (aj (c+e.1)) (aj (i+1))))) (J (.exit 0) (Pb c)):=by kernel_rfl
def acI (a:Int):FP F (.exit 0) (Pb a)=some (a,()):=by kernel_rfl
def L4 (a b:List Int):=bn Dj F Dk f323 ai2 c7 1 (a,b,())
def amV (a b:List Int):L4 F a b=Dl F (FP F) F.n (uK a b 0 0):=by kernel_rfl
def SC:Any:=.one ⟨ai2,c7,1,fun x=>L4 F0 x.1 x.2.1⟩
def amW:ba 323 SC:=aw Dj ⟨dD,aqv,trivial⟩ func323 Dk (by kernel_rfl)
def SD:=[(102,iD),(103,oP),(250,lM),(321,SA),(322,Vh),(323,SC),(324,Vg)]
abbrev arZ:List (Ty×Bool):=[(K1,true),(cl,true),(.int .i64,false),(.str,false),(.bool,false)]
def og (c:D1)(r:bb)(a:Int)(name:ByteArray)(b:Bool):=Ev SD F ab f292 arZ 1 (.own true) gd [] 2 (c,r,a,name,b,())
def afv (c:D1)(r:bb)(a:Int)(name:ByteArray)(h:Bool):og F c r a name h=(n9 F0 r.2.2.2.2.2.1 a name).bind fun b=>br ((b.1.2.2.length:Int)==0) (some ((r,false,()),())) (br (name.toList==ak.toList) (some ((r,false,()),())) ((lF F0 c a).bind fun i=>br (i.1==r.1) ((L3 F0 c r b.1).bind fun f=>some ((f.1.1,f.1.2.1,()),())) ((Q7 F0 c a r.1).bind fun g=>br (!h) ((L4 F0 g.1 b.1.2.2).bind fun j=>br (decide (j.1<(g.1.length:Int))) (some ((r,false,()),())) ((Xa F0 c a r.1).bind fun e=>(e8 F0 c r e.1 (2,0,(ak,0,ak,[]),b.1,(0,ak,[]),0,0,0,0,0)).bind fun d=>some ((d.1.1,d.1.2.1,()),()))) ((Xa F0 c a r.1).bind fun e=>(e8 F0 c r e.1 (2,0,(ak,0,ak,[]),b.1,(0,ak,[]),0,0,0,0,0)).bind fun d=>some ((d.1.1,d.1.2.1,()),()))))):=by kernel_rfl
def oX:Any:=.two ⟨arZ,1,(.own true),gd,2,[],fun x=>og F0 x.1 x.2.1 x.2.2.1 x.2.2.2.1 x.2.2.2.2.1⟩
def B7:ba 292 oX:=azh SD ⟨mI,BZ,uJ,amS,aqt,amW,amT,trivial⟩ func292 ab (by kernel_rfl)
def YY:=[(51,bV),(69,da),(249,kh),(292,oX)]
abbrev aEu:List (Ty×Bool):=[(K1,true),(cl,true),(.str,false)]
def mr (c:D1)(r:bb)(name:ByteArray):=Ev YY F ab f289 aEu 1 (.own true) gd [] 2 (c,r,name,())
def amX (c:D1)(r:bb)(name:ByteArray):mr F c r name=(dk F0 name).bind fun d=>(eW F0 c r.2.2.2.2.2.1 (d.1,name,[r.1])).bind fun a=>br (!a.2.1) (some ((r,false,()),())) ((a7 F0 (r.1,r.2.1,r.2.2.1,r.2.2.2.1,r.2.2.2.2.1,a.1,r.2.2.2.2.2.2)).bind fun e=>(dk F0 name).bind fun f=>(og F0 c e.1 f.1 name false).bind fun b=>br b.1.2.1 (some ((b.1.1,true,()),())) (some (((r.1,r.2.1,r.2.2.1,r.2.2.2.1,r.2.2.2.2.1,a.1,r.2.2.2.2.2.2),true,()),()))):=by kernel_rfl
def SE:Any:=.two ⟨aEu,1,(.own true),gd,2,[],fun x=>mr F0 x.1 x.2.1 x.2.2.1⟩
def amY:ba 289 SE:=azh YY ⟨cm,eo,rG,B7,trivial⟩ func289 ab (by kernel_rfl)
def Pc:=[(51,bV),(64,cp),(69,da),(180,ln),(285,HN),(286,B0),(287,YT),(288,oW),(289,SE)]
abbrev aBt:List (Ty×Bool):=[(K1,true),(cl,true),(K15,true)]
def pP (c:D1)(r:bb)(b:D15):=bn Pc F ab f244 aBt gd 2 (c,r,b,())
def acJ (c:D1)(r:bb)(b:D15):pP F c r b=(a7 F0 r).bind fun d=>(dp F0 c r).bind fun k=>br (!k.1) (some (d.1,false,())) ((mF F0 c b).bind fun l=>br (!l.1) (some (d.1,false,())) ((a7 F0 r).bind fun f=>(O2 F0 c r.2.2.2.1 b.2).bind fun g=>(dk F0 b.1).bind fun h=>br (decide (h.1>=r.2.1)) ((yI F0 c g.1 b).bind fun i=>br (decide (h.1>=r.2.1)) (br i.1 ((O3 F0 c g.1 b).bind fun j=>(ep F0 c (f.1.1,h.1,f.1.2.2) j.1).bind fun a=>br a.2.1 (br i.1 ((mr F0 c a.1 b.1).bind fun e=>br (!e.1.2.1) (some (d.1,false,())) (some (e.1.1,true,()))) (some (a.1,true,()))) (some (d.1,false,()))) ((ep F0 c (f.1.1,h.1,f.1.2.2) g.1).bind fun a=>br a.2.1 (br i.1 ((mr F0 c a.1 b.1).bind fun e=>br (!e.1.2.1) (some (d.1,false,())) (some (e.1.1,true,()))) (some (a.1,true,()))) (some (d.1,false,())))) (br i.1 ((O3 F0 c g.1 b).bind fun j=>(ep F0 c f.1 j.1).bind fun a=>br a.2.1 (br i.1 ((mr F0 c a.1 b.1).bind fun e=>br (!e.1.2.1) (some (d.1,false,())) (some (e.1.1,true,()))) (some (a.1,true,()))) (some (d.1,false,()))) ((ep F0 c f.1 g.1).bind fun a=>br a.2.1 (br i.1 ((mr F0 c a.1 b.1).bind fun e=>br (!e.1.2.1) (some (d.1,false,())) (some (e.1.1,true,()))) (some (a.1,true,()))) (some (d.1,false,()))))) (br (decide (h.1>=r.2.1)) ((ep F0 c (f.1.1,h.1,f.1.2.2) g.1).bind fun a=>br a.2.1 (some (a.1,true,())) (some (d.1,false,()))) ((ep F0 c f.1 g.1).bind fun a=>br a.2.1 (some (a.1,true,())) (some (d.1,false,())))))):=by kernel_rfl
def vG:Any:=.one ⟨aBt,gd,2,fun x=>pP F0 x.1 x.2.1 x.2.2.1⟩
def L5:ba 244 vG:=aw Pc ⟨cm,cP,eo,tW,Vc,Ss,at3,B4,amY,trivial⟩ func244 ab (by kernel_rfl)
def SF:=[(51,bV),(64,cp),(195,nF),(249,kh),(292,oX)]
def Dm (c:D1)(r:bb)(p:D9):=bn SF F ab f277 ahS gd 2 (c,r,p,())
def afw (c:D1)(r:bb)(p:D9):Dm F c r p=(a7 F0 r).bind fun b=>(dp F0 c r).bind fun f=>br (!f.1) (some (b.1,false,())) ((ka F0 c p).bind fun g=>br (!g.1) (some (b.1,false,())) (br (p.2.1.toList==ak.toList) (some (b.1,false,())) (br (decide (p.1<r.2.1)) (some (b.1,false,())) ((a7 F0 r).bind fun a=>(eW F0 c r.2.2.2.2.2.1 p).bind fun d=>br (!d.2.1) (some (b.1,false,())) ((a7 F0 (a.1.1,a.1.2.1,a.1.2.2.1,a.1.2.2.2.1,a.1.2.2.2.2.1,d.1,a.1.2.2.2.2.2.2)).bind fun h=>(og F0 c h.1 p.1 p.2.1 false).bind fun e=>br e.1.2.1 (some (e.1.1,true,())) (some ((a.1.1,a.1.2.1,a.1.2.2.1,a.1.2.2.2.1,a.1.2.2.2.2.1,d.1,a.1.2.2.2.2.2.2),true,()))))))):=by kernel_rfl
def L6:Any:=.one ⟨ahS,gd,2,fun x=>Dm F0 x.1 x.2.1 x.2.2.1⟩
def afx:ba 277 L6:=aw SF ⟨cm,cP,ye,rG,B7,trivial⟩ func277 ab (by kernel_rfl)
def SG:=[(51,bV),(53,gv),(58,iZ),(63,b6),(64,cp),(102,iD),(103,oP),(104,tR),(111,gb),(249,kh),(285,HN),(288,oW)]
abbrev aBu:List (Ty×Bool):=[(K1,true),(cl,true),(.int .i64,false),(K9,true),(.int .i64,false)]
def Dn (c:D1)(r:bb)(a:Int)(q:D9)(cu:Int):=bn SG F ab f278 aBu gd 2 (c,r,a,q,cu,())
def afy (c:D1)(r:bb)(e:Int)(q:D9)(cu:Int):Dn F c r e q cu=(a7 F0 r).bind fun f=>(dp F0 c r).bind fun h=>br (!h.1) (some (f.1,false,())) ((bL F0 e 1 60).bind fun i=>br (!i.1) (some (f.1,false,())) ((jQ F0 c q).bind fun j=>br (!j.1) (some (f.1,false,())) ((bL F0 cu 0 (aj (c.1-1))).bind fun k=>br (!k.1) (some (f.1,false,())) ((a7 F0 r).bind fun l=>(O2 F0 c r.2.2.2.1 q).bind fun m=>(ep F0 c l.1 m.1).bind fun a=>br a.2.1 ((lF F0 c e).bind fun o=>br (o.1==r.1) (br (decide (e>=r.2.1)) ((eW F0 c a.1.2.2.2.2.2.1 (e,ak,[cu])).bind fun g=>br (!g.2.1) (some (f.1,false,())) ((n9 F0 g.1 e ak).bind fun p=>(wy F0 c).bind fun s=>br (decide ((p.1.2.2.length:Int)>=s.1)) ((dC F0 a.1.2.1 e).bind fun t=>(bI F0 (aj (q.1+1)) 60).bind fun b=>(dC F0 t.1 b.1).bind fun d=>some ((a.1.1,d.1,a.1.2.2.1,a.1.2.2.2.1,a.1.2.2.2.2.1,g.1,a.1.2.2.2.2.2.2),true,())) ((bI F0 (aj (q.1+1)) 60).bind fun b=>(dC F0 a.1.2.1 b.1).bind fun d=>some ((a.1.1,d.1,a.1.2.2.1,a.1.2.2.2.1,a.1.2.2.2.2.1,g.1,a.1.2.2.2.2.2.2),true,())))) ((bI F0 (aj (q.1+1)) 60).bind fun b=>(dC F0 a.1.2.1 b.1).bind fun d=>some ((a.1.1,d.1,a.1.2.2),true,()))) ((bI F0 (aj (q.1+1)) 60).bind fun b=>(dC F0 a.1.2.1 b.1).bind fun d=>some ((a.1.1,d.1,a.1.2.2),true,()))) (some (f.1,false,())))))):=by kernel_rfl
def L7:Any:=.one ⟨aBu,gd,2,fun x=>Dn F0 x.1 x.2.1 x.2.2.1 x.2.2.2.1 x.2.2.2.2.1⟩
def afz:ba 278 L7:=aw SG ⟨cm,kL,oe,cA,cP,mI,BZ,Ju,j9,rG,Vc,B4,trivial⟩ func278 ab (by kernel_rfl)
def yT:=[(123,FD),(194,yd)]
def yU:Nat->Option Hint:=look [(2,{live:=[0,3,6],xl:=[0,3,6],rl:=[4,5]})]
def rH (p:List D4)(a x b c d:Int):= di 43 [(0,ih 63 (K4) p),b9 3,(6,bq a)] [(3,[an x,an b,an c,an d])] []
def oY (p:List D4)(a x b c d:Int):= di 43 [(0,ih 63 (K4) p),b9 3,(6,bq a)] [(3,[an x,an b,an c,an d])] []
def yV (a:St):Option U:=fy yT F yU [.r,.r,.l,.b,.i] f314 J n a
def rI:=ig yT F yU [.r,.r,.l,.b] f314 UJ 2
def GD (p:List D4)(a x b c d:Int):yV F J (n+1) (rH p a x b c d)=br (decide (a<(p.length:Int))) (ck (bO a (p.length:Int)) ((tc F0 (aN p a K4.aC) (x,b,c,d)).bind fun e=>br e.1 (yV F J n (rH p (aj (a+1)) x b c d)) (J (.exit 0) (oY p a x b c d)))) (J (.exit 0) (oY p a x b c d)):=by kernel_rfl
def aaC (p:List D4)(a x b c d:Int):rI F (.exit 0) (oY p a x b c d)=ck (QW 0 a (p.length:Int)) (ck (eA F 0 ((p.take a.toNat).drop (0:Int).toNat).length 32) (ck (eA F ([]++((p.take a.toNat).drop (0:Int).toNat)).length [(x,b,c,d)].length 32) (ck (QW a (p.length:Int) (p.length:Int)) (ck (eA F (([]++((p.take a.toNat).drop (0:Int).toNat))++[(x,b,c,d)]).length ((p.take (p.length:Int).toNat).drop a.toNat).length 32) ((Ew F0 ((([]++((p.take a.toNat).drop (0:Int).toNat))++[(x,b,c,d)])++((p.take (p.length:Int).toNat).drop a.toNat))).bind fun e=>br (!e.1) (ck (eA F 0 p.length 32) (some ([]++p,false,()))) (some ((([]++((p.take a.toNat).drop (0:Int).toNat))++[(x,b,c,d)])++((p.take (p.length:Int).toNat).drop a.toNat),true,()))))))):=by kernel_rfl
abbrev aBv:List (Ty×Bool):=[(K5,false),(K4,true)]
def HS (p:D5)(x:D4):=bn yT F yU f314 aBv UJ 2 (p,x,())
def ajE (p:D5)(x:D4):HS F p x=yV F (rI F) F.n (rH p 0 x.1 x.2.1 x.2.2.1 x.2.2.2):=by kernel_rfl
def Pd:Any:=.one ⟨aBv,UJ,2,fun x=>HS F0 x.1 x.2.1⟩
def ajF:ba 314 Pd:=aw yT ⟨UL,OE,trivial⟩ func314 yU (by kernel_rfl)
def YZ:=[(51,bV),(64,cp),(314,Pd)]
abbrev aBw:List (Ty×Bool):=[(K1,true),(cl,true),(K4,true)]
def L8 (c:D1)(r:bb)(x:D4):=bn YZ F ab f279 aBw gd 2 (c,r,x,())
def amZ (c:D1)(r:bb)(x:D4):L8 F c r x=(a7 F0 r).bind fun a=>(dp F0 c r).bind fun d=>br (!d.1) (some (a.1,false,())) ((HS F0 r.2.2.2.2.1 x).bind fun b=>br b.2.1 (some ((a.1.1,a.1.2.1,a.1.2.2.1,a.1.2.2.2.1,b.1,a.1.2.2.2.2.2),b.2.1,())) (some (a.1,b.2.1,()))):=by kernel_rfl
def SH:Any:=.one ⟨aBw,gd,2,fun x=>L8 F0 x.1 x.2.1 x.2.2.1⟩
def am0:ba 279 SH:=aw YZ ⟨cm,cP,ajF,trivial⟩ func279 ab (by kernel_rfl)
def Vj:=[(244,vG),(277,L6),(278,L7),(279,SH)]
abbrev Y0:List (Ty×Bool):=[(K1,true),(cl,true),(K21,true)]
def HT (c:D1)(r:bb)(m:NQ):=bn Vj F ab f237 Y0 gd 2 (c,r,m,())
def ajG (c:D1)(r:bb)(m:NQ):HT F c r m=br (m.1==1) ((pP F0 c r m.2.2.1).bind fun a=>some (a.1,a.2.1,())) (br (m.1==2) ((Dm F0 c r m.2.2.2.1).bind fun b=>some (b.1,b.2.1,())) (br (m.1==3) ((Dn F0 c r m.2.1 m.2.2.2.2.1 m.2.2.2.2.2.1).bind fun d=>some (d.1,d.2.1,())) ((L8 F0 c r m.2.2.2.2.2.2).bind fun e=>some (e.1,e.2.1,())))):=by kernel_rfl
def Pe:Any:=.one ⟨Y0,gd,2,fun x=>HT F0 x.1 x.2.1 x.2.2.1⟩
def ajH:ba 237 Pe:=aw Vj ⟨L5,afx,afz,am0,trivial⟩ func237 ab (by kernel_rfl)
def rJ:=[(175,iJ)]
def rK:Nat->Option Hint:=look [(3,{live:=[0,1,5,6],xl:=[5],rl:=[4]})]
def jj (a:List D9)(b i:Int)(c:List D9):= di 30 [(0,ih 61 (K9) a),(1,bq b),(5,.v (.c (.own 1000000 none))),(6,bq i)] [] [ay 1000000 61 K9 c]
def GF (a:List D9):= di 30 [(5,.v (.c (.own 1000000 none)))] [] [ay 1000000 61 K9 a]
def lN (a:St):Option U:=fy rJ F rK [.r,.r,.l,.r,.b,.i] f238 J n a
def vH:=ig rJ F rK [.r,.r,.l,.r,.b] f238 Gr 2
def Bq (a:List D9)(c i:Int)(b:List D9):lN F J (n+1) (jj a c i b)=br (decide (i<(a.length:Int))) (ck (bO i (a.length:Int)) (br (decide ((aN a i K9.aC).1>=c)) (ck (bO i (a.length:Int)) ((gf F0 (aN a i K9.aC)).bind fun d=>ck (eA F b.length [d.1].length 48) (lN F J n (jj a c (aj (i+1)) (b++[d.1]))))) (lN F J n (jj a c (aj (i+1)) b)))) (J (.exit 0) (GF b)):=by kernel_rfl
def Vk (a:List D9):vH F (.exit 0) (GF a)=some (a,()):=by kernel_rfl
abbrev aBx:List (Ty×Bool):=[(K13,false),(.int .i64,false)]
def yW (a:D13)(b:Int):=bn rJ F rK f238 aBx Gr 2 (a,b,())
def acK (a:D13)(b:Int):yW F a b=lN F (vH F) F.n (jj a b 0 []):=by kernel_rfl
def JZ:Any:=.one ⟨aBx,Gr,2,fun x=>yW F0 x.1 x.2.1⟩
def acL:ba 238 JZ:=aw rJ ⟨nI,trivial⟩ func238 rK (by kernel_rfl)
def acM:=[(64,cp),(105,FJ),(106,vD),(107,JJ)]
def J0 (c:D1)(r:bb):=bn acM F ab f240 wX oQ 2 (c,r,())
def aqw (c:D1)(r:bb):J0 F c r=(dp F0 c r).bind fun a=>br (!a.1) (some (([],[]),())) ((lG F0).bind fun b=>(vE F0 r.2.2.2.1.2.2.2).bind fun d=>(wC F0 b.1 d.1).bind fun e=>some (e.1,())):=by kernel_rfl
def Vl:Any:=.one ⟨wX,oQ,2,fun x=>J0 F0 x.1 x.2.1⟩
def aqx:ba 240 Vl:=aw acM ⟨cP,U2,LP,YR,trivial⟩ func240 ab (by kernel_rfl)
end
end Go.Am.Tryz
namespace Go.Am.Tryz
open Go.Am Go.Proofs Go.Proofs.Tryz
noncomputable section
variable {U:Type} (F:oH) (J:Ex->St->Option U) (n:Nat)
def uL:=[(178,HH)]
def uM:Nat->Option Hint:=look [(3,{live:=[0,3,5,6],xl:=[5],rl:=[4]})]
def ki (p:List D4)(i:Int)(l a:List Int)(b:List D4):= di 35 [(0,ih 63 (K4) p),b9 3,(5,.v (.c (.own 1000000 none))),(6,bq i)] [(3,[.ro false 3 (.int .i64) l,.ro false 3 (.int .i64) a])] [ay 1000000 63 K4 b]
def J1 (a:List D4):= di 35 [(5,.v (.c (.own 1000000 none)))] [] [ay 1000000 63 K4 a]
def nK (a:St):Option U:=fy uL F uM [.r,.r,.l,.r,.b,.i] f239 J n a
def yX:=ig uL F uM [.r,.r,.l,.r,.b] f239 jH 2
def EK (p:List D4)(i:Int)(l b:List Int)(a:List D4):nK F J (n+1) (ki p i l b a)=br (decide (i<(p.length:Int))) (ck (bO i (p.length:Int)) ((JN F0 (l,b) (aN p i K4.aC)).bind fun c=>br (c.2.1 != 2) (ck (bO i (p.length:Int)) (ck (eA F a.length [(aN p i K4.aC)].length 32) (nK F J n (ki p (aj (i+1)) l b (a++[(aN p i K4.aC)]))))) (nK F J n (ki p (aj (i+1)) l b a)))) (J (.exit 0) (J1 a)):=by kernel_rfl
def XS (a:List D4):yX F (.exit 0) (J1 a)=some (a,()):=by kernel_rfl
def Dp (p:D5)(l:D43):=bn uL F uM f239 ahL jH 2 (p,l,())
def afA (p:D5)(l:D43):Dp F p l=nK F (yX F) F.n (ki p 0 l.1 l.2 []):=by kernel_rfl
def L9:Any:=.one ⟨ahL,jH,2,fun x=>Dp F0 x.1 x.2.1⟩
def afB:ba 239 L9:=aw uL ⟨U1,trivial⟩ func239 uM (by kernel_rfl)
def ahV:=[(51,bV),(64,cp),(126,iX),(237,Pe),(238,JZ),(239,L9),(240,Vl)]
def Pf (c:D1)(r:bb)(m:NQ):=bn ahV F ab f183 Y0 gd 2 (c,r,m,())
def at7 (c:D1)(r:bb)(m:NQ):Pf F c r m=(dp F0 c r).bind fun e=>br (!e.1) ((a7 F0 r).bind fun b=>some (b.1,false,())) ((e4 F0 c m).bind fun f=>br (!f.1) ((a7 F0 r).bind fun b=>some (b.1,false,())) ((HT F0 c r m).bind fun a=>br (!a.2.1) ((a7 F0 r).bind fun g=>some (g.1,false,())) ((yW F0 a.1.2.2.2.2.2.1 (aj (a.1.2.1-1))).bind fun d=>(J0 F0 c (a.1.1,a.1.2.1,a.1.2.2.1,a.1.2.2.2.1,a.1.2.2.2.2.1,d.1,a.1.2.2.2.2.2.2)).bind fun h=>(Dp F0 a.1.2.2.2.2.1 h.1).bind fun i=>some ((a.1.1,a.1.2.1,a.1.2.2.1,a.1.2.2.2.1,i.1,d.1,a.1.2.2.2.2.2.2),true,())))):=by kernel_rfl
def NU:Any:=.one ⟨Y0,gd,2,fun x=>Pf F0 x.1 x.2.1 x.2.2.1⟩
def acN:ba 183 NU:=aw ahV ⟨cm,cP,n8,ajH,acL,afB,aqx,trivial⟩ func183 ab (by kernel_rfl)
def Y1:=[(55,cL),(63,b6),(67,JE),(183,NU)]
def wG (w:nz)(d:D45):Option (nz×Int×nz):=apX Tryz.prog (look Y1) F ab f114 [(gZ,true),(K45,true)] 0 (gZ,true) (.int .i64,false) (gZ,true) (w,d,())
def am1 (w:nz)(d:D45):wG F w d=(bL F0 d.2.1 0 (aj ((w.2.2.2.1.length:Int)-1))).bind fun b=>br (!b.1) (some (gZ.aC,2,w)) (ck (bO d.2.1 (w.2.2.2.1.length:Int)) (br (d.1==5) (br (decide ((w.2.2.2.1.length:Int)>=60)) (some (gZ.aC,4,w)) (ck (eA F 0 (aN w.2.2.2.1 d.2.1 (0,[])).2.length 1) (ck (eA F w.2.2.2.1.length [((aN w.2.2.2.1 d.2.1 (0,[])).1,[]++(aN w.2.2.2.1 d.2.1 (0,[])).2)].length 32) (some ((w.1,w.2.1,w.2.2.1,w.2.2.2.1++[((aN w.2.2.2.1 d.2.1 (0,[])).1,[]++(aN w.2.2.2.1 d.2.1 (0,[])).2)],w.2.2.2.2),0,gZ.aC))))) (ck (okT d.2.1 (w.2.2.2.1.length:Int)) (ck (QW (aj (d.2.1+1)) (w.2.2.2.1.length:Int) (w.2.2.2.1.length:Int)) (ck (eA F 0 (w.2.2.2.1.take d.2.1.toNat).length 32) (ck (eA F ([]++(w.2.2.2.1.take d.2.1.toNat)).length ((w.2.2.2.1.take (w.2.2.2.1.length:Int).toNat).drop (aj (d.2.1+1)).toNat).length 32) (br (d.1==3) ((cR F0 w.2.1 (aN w.2.2.2.1 d.2.1 (0,[])).1).bind fun c=>br (!c.1) ((JD F0 w.1 (aN w.2.2.2.1 d.2.1 (0,[])).2).bind fun e=>ck (bO (aN w.2.2.2.1 d.2.1 (0,[])).1 (w.2.2.1.length:Int)) ((Pf F0 w.1 (aN w.2.2.1 (aN w.2.2.2.1 d.2.1 (0,[])).1 cl.aC) e.1).bind fun a=>br a.2.1 (ck (bO (aN w.2.2.2.1 d.2.1 (0,[])).1 (w.2.2.1.length:Int)) (some ((w.1,w.2.1,w.2.2.1.set (aN w.2.2.2.1 d.2.1 (0,[])).1.toNat a.1,([]++(w.2.2.2.1.take d.2.1.toNat))++((w.2.2.2.1.take (w.2.2.2.1.length:Int).toNat).drop (aj (d.2.1+1)).toNat),w.2.2.2.2),0,gZ.aC))) (some ((w.1,w.2.1,w.2.2.1,([]++(w.2.2.2.1.take d.2.1.toNat))++((w.2.2.2.1.take (w.2.2.2.1.length:Int).toNat).drop (aj (d.2.1+1)).toNat),w.2.2.2.2),0,gZ.aC)))) (some ((w.1,w.2.1,w.2.2.1,([]++(w.2.2.2.1.take d.2.1.toNat))++((w.2.2.2.1.take (w.2.2.2.1.length:Int).toNat).drop (aj (d.2.1+1)).toNat),w.2.2.2.2),0,gZ.aC))) (some ((w.1,w.2.1,w.2.2.1,([]++(w.2.2.2.1.take d.2.1.toNat))++((w.2.2.2.1.take (w.2.2.2.1.length:Int).toNat).drop (aj (d.2.1+1)).toNat),w.2.2.2.2),0,gZ.aC))))))))):=by kernel_rfl
def SJ:Any:=.sel ⟨[(gZ,true),(K45,true)],0,(gZ,true),(.int .i64,false),(gZ,true),fun x=>wG F0 x.1 x.2.1⟩
def am2:ba 114 SJ:=ok4 (show xJ Tryz.prog TB Y1 from⟨dD,cA,YO,acN,trivial⟩) func114 (by kernel_rfl) (by kernel_rfl) ab (by kernel_rfl) (by kernel_rfl)
def Dq:Nat->Option Hint:=look [(2,{live:=[0,1,2,3,9],rl:=[8]})]
def jS (a:List bS)(b:Int)(name:ByteArray)(cu i:Int):= b3 41 [(0,ih 95 (cZ) a),(1,bq b),(2,Yr name),(3,bq cu),(9,bq i)]
def SK (a:Bool):= b3 41 [(8,NR a)]
def Pg   := b3 41 []
def oh (a:St):Option U:=fy aB F Dq [.r,.l,.r,.b,.i] f280 J n a
def uN:=ig aB F Dq [.r,.l,.r,.b] f280 aT 1
def J2 (a:List bS)(b:Int)(name:ByteArray)(cu i:Int):oh F J (n+1) (jS a b name cu i)=br (decide (i<(a.length:Int))) (ck (bO i (a.length:Int)) (br ((aN a i cZ.aC).1==b) (ck (bO i (a.length:Int)) (br ((aN a i cZ.aC).2.1.toList==name.toList) (ck (bO i (a.length:Int)) (br ((aN a i cZ.aC).2.2==cu) (J .ret (SK true)) (oh F J n (jS a b name cu (aj (i+1)))))) (oh F J n (jS a b name cu (aj (i+1)))))) (oh F J n (jS a b name cu (aj (i+1)))))) (J (.exit 0) (Pg)):=by kernel_rfl
def afC (a:Bool):uN F .ret (SK a)=some (a,()):=by kernel_rfl
def acO: uN F (.exit 0) (Pg)=some (false,()):=by kernel_rfl
abbrev aHO:List (Ty×Bool):=[(K38,false),(.int .i64,false),(.str,false),(.int .i64,false)]
def EL (a:D38)(b:Int)(name:ByteArray)(cu:Int):=bn aB F Dq f280 aHO aT 1 (a,b,name,cu,())
def am3 (a:D38)(b:Int)(name:ByteArray)(cu:Int):EL F a b name cu=oh F (uN F) F.n (jS a b name cu 0):=by kernel_rfl
def FQ:Any:=.one ⟨aHO,aT,1,fun x=>EL F0 x.1 x.2.1 x.2.2.1 x.2.2.2.1⟩
def Vm:ba 280 FQ:=aw aB trivial func280 Dq (by kernel_rfl)
def Ds:=[(55,cL),(280,FQ)]
def Dt:Nat->Option Hint:=look [(2,{live:=[0,1,2,3,4,11],rl:=[10]})]
def nL (liars:List Int)(a:List bS)(b:Int)(name:ByteArray)(cu:List Int)(i:Int):= b3 36 [(0,ih 3 (.int .i64) liars),(1,ih 95 (cZ) a),(2,bq b),(3,Yr name),(4,ih 3 (.int .i64) cu),(11,bq i)]
def SL (a:Bool):= b3 36 [(10,NR a)]
def Ph   := b3 36 []
def ti (a:St):Option U:=fy Ds F Dt [.r,.l,.r,.b,.i] f241 J n a
def uO:=ig Ds F Dt [.r,.l,.r,.b] f241 aT 1
def J3 (liars:List Int)(a:List bS)(b:Int)(name:ByteArray)(cu:List Int)(i:Int):ti F J (n+1) (nL liars a b name cu i)=br (decide (i<(cu.length:Int))) (ck (bO i (cu.length:Int)) ((cR F0 liars (aN cu i 0)).bind fun c=>br (!c.1) (ck (bO i (cu.length:Int)) ((EL F0 a b name (aN cu i 0)).bind fun d=>br (!d.1) (J .ret (SL false)) (ti F J n (nL liars a b name cu (aj (i+1)))))) (ti F J n (nL liars a b name cu (aj (i+1)))))) (J (.exit 0) (Ph)):=by kernel_rfl
def afD (a:Bool):uO F .ret (SL a)=some (a,()):=by kernel_rfl
def acP: uO F (.exit 0) (Ph)=some (true,()):=by kernel_rfl
abbrev aBy:List (Ty×Bool):=[(.sl 3 (.int .i64),false),(K38,false),(.int .i64,false),(.str,false),(.sl 3 (.int .i64),false)]
def wH (liars:List Int)(a:D38)(b:Int)(name:ByteArray)(cu:List Int):=bn Ds F Dt f241 aBy aT 1 (liars,a,b,name,cu,())
def am4 (liars:List Int)(a:D38)(b:Int)(name:ByteArray)(cu:List Int):wH F liars a b name cu=ti F (uO F) F.n (nL liars a b name cu 0):=by kernel_rfl
def SM:Any:=.one ⟨aBy,aT,1,fun x=>wH F0 x.1 x.2.1 x.2.2.1 x.2.2.2.1 x.2.2.2.2.1⟩
def am5:ba 241 SM:=aw Ds ⟨dD,Vm,trivial⟩ func241 Dt (by kernel_rfl)
def Y2:=[(55,cL),(69,da),(102,iD),(126,iX),(241,SM)]
abbrev aBz:List (Ty×Bool):=[(K1,true),(.sl 3 (.int .i64),false),(K38,false),(K21,true)]
def Ma (c:D1)(liars:List Int)(a:D38)(m:NQ):=bn Y2 F ab f184 aBz aT 1 (c,liars,a,m,())
def am6 (c:D1)(liars:List Int)(a:D38)(m:NQ):Ma F c liars a m=(e4 F0 c m).bind fun b=>br (!b.1) (some (false,())) (br (m.1==1) ((dk F0 m.2.2.1.1).bind fun d=>(lF F0 c d.1).bind fun e=>(cR F0 liars e.1).bind fun f=>br f.1 ((wH F0 liars a m.2.2.1.2.1 m.2.2.1.2.2.1 m.2.2.1.2.2.2).bind fun g=>some (g.1,())) (some (false,()))) (br (m.1==2) ((wH F0 liars a m.2.2.2.1.1 m.2.2.2.1.2.1 m.2.2.2.1.2.2).bind fun h=>some (h.1,())) (br (m.1==3) ((cR F0 liars m.2.2.2.2.2.1).bind fun i=>br i.1 ((wH F0 liars a m.2.2.2.2.1.1 m.2.2.2.2.1.2.1 m.2.2.2.2.1.2.2).bind fun j=>some (j.1,())) (some (false,()))) (some (true,()))))):=by kernel_rfl
def SN:Any:=.one ⟨aBz,aT,1,fun x=>Ma F0 x.1 x.2.1 x.2.2.1 x.2.2.2.1⟩
def am7:ba 184 SN:=aw Y2 ⟨dD,eo,mI,n8,am5,trivial⟩ func184 ab (by kernel_rfl)
def yY:=[(281,hD)]
def yZ:Nat->Option Hint:=look [(3,{live:=[0,3,4],xl:=[3],rl:=[2]})]
def rL (a:List Int)(i:Int)(b:List Int):= di 20 [(0,ih 3 (.int .i64) a),(3,.v (.c (.own 1000000 none))),(4,bq i)] [] [ay 1000000 5 (.int .u8) b]
def Mb (a:List Int):= di 20 [(3,.v (.c (.own 1000000 none)))] [] [ay 1000000 5 (.int .u8) a]
def y0 (a:St):Option U:=fy yY F yZ [.r,.r,.l,.r,.b,.i] f284 J n a
def B8:=ig yY F yZ [.r,.r,.l,.r,.b] f284 ld 2
def GG (a:List Int)(i:Int)(b:List Int):y0 F J (n+1) (rL a i b)=br (decide (i<(a.length:Int))) (ck (bO i (a.length:Int)) ((eb F0 (aN a i 0)).bind fun c=>ck (eA F b.length c.1.length 1) (y0 F J n (rL a (aj (i+1)) (b++c.1))))) (J (.exit 0) (Mb b)):=by kernel_rfl
def aaD (a:List Int):B8 F (.exit 0) (Mb a)=some (a,()):=by kernel_rfl
def rM (a:List Int):=bn yY F yZ f284 jK ld 2 (a,())
def ajI (a:List Int):rM F a=y0 F (B8 F) F.n (rL a 0 []):=by kernel_rfl
def Pj:Any:=.one ⟨jK,ld,2,fun x=>rM F0 x.1⟩
def ajJ:ba 284 Pj:=aw yY ⟨lJ,trivial⟩ func284 yZ (by kernel_rfl)
def SO:=[(126,iX),(281,hD),(282,rB),(283,B3),(284,Pj)]
def Du (c:D1)(m:NQ):=bn SO F ab f242 ahG ld 2 (c,m,())
def afE (c:D1)(m:NQ):Du F c m=(e4 F0 c m).bind fun l=>br (!l.1) (some ([],())) ((eb F0 m.1).bind fun a=>br (m.1==1) ((mJ F0 m.2.2.1.1).bind fun e=>ck (eA F a.1.length e.1.length 1) ((rD F0 c m.2.2.1.2).bind fun h=>ck (eA F (a.1++e.1).length h.1.length 1) (some ((a.1++e.1)++h.1,())))) (br (m.1==2) ((eb F0 m.2.2.2.1.1).bind fun b=>ck (eA F a.1.length b.1.length 1) ((mJ F0 m.2.2.2.1.2.1).bind fun d=>ck (eA F (a.1++b.1).length d.1.length 1) ((eb F0 (m.2.2.2.1.2.2.length:Int)).bind fun f=>ck (eA F ((a.1++b.1)++d.1).length f.1.length 1) ((rM F0 m.2.2.2.1.2.2).bind fun i=>ck (eA F (((a.1++b.1)++d.1)++f.1).length i.1.length 1) (some ((((a.1++b.1)++d.1)++f.1)++i.1,())))))) (br (m.1==3) ((rM F0 [m.2.1,m.2.2.2.2.2.1]).bind fun g=>ck (eA F a.1.length g.1.length 1) ((rD F0 c m.2.2.2.2.1).bind fun j=>ck (eA F (a.1++g.1).length j.1.length 1) (some ((a.1++g.1)++j.1,())))) ((rM F0 [m.2.2.2.2.2.2.1,m.2.2.2.2.2.2.2.1,m.2.2.2.2.2.2.2.2.1,m.2.2.2.2.2.2.2.2.2]).bind fun k=>ck (eA F a.1.length k.1.length 1) (some (a.1++k.1,())))))):=by kernel_rfl
def Mc:Any:=.one ⟨ahG,ld,2,fun x=>Du F0 x.1 x.2.1⟩
def afF:ba 242 Mc:=aw SO ⟨n8,lJ,FN,Sv,ajJ,trivial⟩ func242 ab (by kernel_rfl)
def y1:=[(63,b6),(242,Mc)]
def y3:Nat->Option Hint:=look [(2,{live:=[1,2,4,5],aHW:=true,Bg:=[(4,2,3,.int .i64),(4,3,50,cl),(4,4,102,eI),(4,5,95,cZ)],xl:=[2,4],rl:=[4]})]
def fL (j:List kI)(i w a k l:Int)(m:List Int)(b:List bb)(c:List b0)(d:List bS)(e:List Int)(f:List bb)(g:List b0)(h:List bS):St:={nt:=55,tm:=[(1,ih 119 (px) j),b9 2,b9 4,(5,bq i)],bx:=[(2,[an w,an a,.own 1000000 none,.own 1000001 none,.own 1000002 none,.own 1000003 none]),(4,[an k,an l,.own 1000004 none,.own 1000005 none,.own 1000006 none,.own 1000007 none])],bl:=[ay 1000000 3 (.int .i64) m,ay 1000001 50 cl b,ay 1000002 102 eI c,ay 1000003 95 cZ d,ay 1000004 3 (.int .i64) e,ay 1000005 50 cl f,ay 1000006 102 eI g,ay 1000007 95 cZ h],sp:=.v (.c (.none))}
def Md (w a i j:Int)(k:List Int)(b:List bb)(c:List b0)(d:List bS)(e:List Int)(f:List bb)(g:List b0)(h:List bS):St:={nt:=55,tm:=[b9 2,b9 4],bx:=[(2,[an w,an a,.own 1000000 none,.own 1000001 none,.own 1000002 none,.own 1000003 none]),(4,[an i,an j,.own 1000004 none,.own 1000005 none,.own 1000006 none,.own 1000007 none])],bl:=[ay 1000000 3 (.int .i64) k,ay 1000001 50 cl b,ay 1000002 102 eI c,ay 1000003 95 cZ d,ay 1000004 3 (.int .i64) e,ay 1000005 50 cl f,ay 1000006 102 eI g,ay 1000007 95 cZ h],sp:=.v (.c (.none))}
def jo (a:St):Option U:=fy y1 F y3 [.r,.l,.r,.b,.i] f185 J n a
def B9:=aww y1 F y3 [.r,.l,.r,.b] f185 (.own true) eU [] 2
def GH (a:List kI)(i w c k l:Int)(m:List Int)(d:List bb)(b:List b0)(e:List bS)(f:List Int)(g:List bb)(h:List b0)(j:List bS):jo F J (n+1) (fL a i w c k l m d b e f g h j)=br (decide (i<(a.length:Int))) (ck (bO i (a.length:Int)) ((Du F0 (w,c) (aN a i px.aC).2).bind fun o=>br (decide ((b.length:Int)<60)) (br (decide ((o.1.length:Int)>0)) (ck (bO i (a.length:Int)) ((bL F0 (aN a i px.aC).1 0 (aj (w-1))).bind fun p=>br p.1 (ck (bO i (a.length:Int)) (ck (eA F b.length [((aN a i px.aC).1,o.1)].length 32) (jo F J n (fL a (aj (i+1)) w c k l m d (b++[((aN a i px.aC).1,o.1)]) e f g h j)))) (jo F J n (fL a (aj (i+1)) w c k l m d b e f g h j)))) (jo F J n (fL a (aj (i+1)) w c k l m d b e f g h j))) (jo F J n (fL a (aj (i+1)) w c k l m d b e f g h j)))) (J (.exit 0) (Md w c k l m d b e f g h j)):=by kernel_rfl
def aaE (w a j k:Int)(e:List Int)(b:List bb)(c:List b0)(d:List bS)(f:List Int)(g:List bb)(h:List b0)(i:List bS):B9 F (.exit 0) (Md w a j k e b c d f g h i)=some ((((w,a),e,b,c,d),()),()):=by kernel_rfl
abbrev aBA:List (Ty×Bool):=[(gZ,true),(K23,false)]
def y4 (w:nz)(a:D23):=Ev y1 F y3 f185 aBA 0 (.own true) eU [] 2 (w,a,())
def ajK (w:nz)(a:D23):y4 F w a=jo F (B9 F) F.n (fL a 0 w.1.1 w.1.2 0 0 w.2.1 w.2.2.1 w.2.2.2.1 w.2.2.2.2 [] [] [] []):=by kernel_rfl
def Ca:Any:=.two ⟨aBA,0,(.own true),eU,2,[],fun x=>y4 F0 x.1 x.2.1⟩
def SP:ba 185 Ca:=azh y1 ⟨cA,afF,trivial⟩ func185 y3 (by kernel_rfl)
def Y3:=[(63,b6),(184,SN),(185,Ca)]
def Me (w:nz)(d:D45):Option (nz×Int×nz):=apX Tryz.prog (look Y3) F ab f115 [(gZ,true),(K45,true)] 0 (gZ,true) (.int .i64,false) (gZ,true) (w,d,())
def am8 (w:nz)(d:D45):Me F w d=(bL F0 d.2.1 0 (aj (w.1.1-1))).bind fun a=>br (!a.1) (some (gZ.aC,2,w)) ((Ma F0 w.1 w.2.1 w.2.2.2.2 d.2.2.2).bind fun b=>br (!b.1) (some (gZ.aC,5,w)) (br (decide ((w.2.2.2.1.length:Int)>=60)) (some (gZ.aC,4,w)) ((y4 F0 w [(d.2.1,d.2.2.2)]).bind fun c=>some (c.1.1,0,gZ.aC)))):=by kernel_rfl
def SQ:Any:=.sel ⟨[(gZ,true),(K45,true)],0,(gZ,true),(.int .i64,false),(gZ,true),fun x=>Me F0 x.1 x.2.1⟩
def am9:ba 115 SQ:=ok4 (show xJ Tryz.prog TB Y3 from⟨cA,am7,SP,trivial⟩) func115 (by kernel_rfl) (by kernel_rfl) ab (by kernel_rfl) (by kernel_rfl)
def Dv:=[(55,cL)]
def Dw:Nat->Option Hint:=look [(3,{live:=[1,3,4],xl:=[3],rl:=[2]})]
def jT (i w a:Int)(b:List Int)(c:List bb)(d:List b0)(e:List bS)(f:List Int):= di 23 [b9 1,(3,.v (.c (.own 1000000 none))),(4,bq i)] [(1,[an w,an a,.ro false 3 (.int .i64) b,.ro false 50 (cl) c,.ro false 102 (eI) d,.ro false 95 (cZ) e])] [ay 1000000 3 (.int .i64) f]
def Pk (a:List Int):= di 23 [(3,.v (.c (.own 1000000 none)))] [] [ay 1000000 3 (.int .i64) a]
def oi (a:St):Option U:=fy Dv F Dw [.r,.r,.l,.r,.b,.i] f116 J n a
def uP:=ig Dv F Dw [.r,.r,.l,.r,.b] f116 jK 2
def J4 (i w d:Int)(b:List Int)(c:List bb)(e:List b0)(f:List bS)(a:List Int):oi F J (n+1) (jT i w d b c e f a)=br (decide (i<(c.length:Int))) ((cR F0 b i).bind fun g=>br (!g.1) (ck (eA F a.length [i].length 8) (oi F J n (jT (aj (i+1)) w d b c e f (a++[i])))) (oi F J n (jT (aj (i+1)) w d b c e f a))) (J (.exit 0) (Pk a)):=by kernel_rfl
def acQ (a:List Int):uP F (.exit 0) (Pk a)=some (a,()):=by kernel_rfl
def EM (w:nz):=bn Dv F Dw f116 eU jK 2 (w,())
def ana (w:nz):EM F w=oi F (uP F) F.n (jT 0 w.1.1 w.1.2 w.2.1 w.2.2.1 w.2.2.2.1 w.2.2.2.2 []):=by kernel_rfl
def FR:Any:=.one ⟨eU,jK,2,fun x=>EM F0 x.1⟩
def Vn:ba 116 FR:=aw Dv ⟨dD,trivial⟩ func116 Dw (by kernel_rfl)
def y5:=[(51,bV),(64,cp),(250,lM)]
def y6:Nat->Option Hint:=look [(5,{live:=[3,4,5,6,8,9],Bg:=[(6,7,3,.int .i64),(6,9,63,K4),(6,10,61,K9),(6,11,5,.int .u8),(6,13,119,px)],xl:=[6,8],rl:=[6,7]})]
def lO (i c a r b d e f g:Int)(h:ByteArray)(j:List Int)(k:ByteArray)(l:List D4)(o:List D9)(p:List Int)(q:Int)(s:List kI)(m M:Int)(m2:ByteArray)(N:Int)(O:ByteArray)(P:List Int)(Q:Int)(R:ByteArray)(S:List Int)(T:Int)(W:ByteArray)(X:List Int)(Y Z qa qb qd qe qf qg qh qi qj:Int)(qk ql:ByteArray)(qm qn t u v w x:Int)(y z:ByteArray)(A:Int)(qo:List Int)(B:List D4)(C:List D9)(D:List Int)(E:List kI)(G:List Int)(H:List D4)(I:List D9)(K:List Int)(L:List kI):= di 43 [b9 3,b9 4,b9 5,b9 6,b9 8,(9,bq i)] [(3,[an c,an a]),(4,[an r,an b,an d,an e,an f,an g,.str h,.ro false 3 (.int .i64) j,.str k,.ro false 63 (K4) l,.ro false 61 (K9) o,.ro false 5 (.int .u8) p,an q,.ro false 119 (px) s]),(5,[an m,an M,.str m2,an N,.str O,.ro false 3 (.int .i64) P,an Q,.str R,.ro false 3 (.int .i64) S,an T,.str W,.ro false 3 (.int .i64) X,an Y,an Z,an qa,an qb,an qd]),(6,[an qe,an qf,an qg,an qh,an qi,an qj,.str qk,.own 1000000 none,.str ql,.own 1000001 none,.own 1000002 none,.own 1000003 none,an qm,.own 1000004 none]),(8,[an qn,an t,an u,an v,an w,an x,.str y,.own 1000005 none,.str z,.own 1000006 none,.own 1000007 none,.own 1000008 none,an A,.own 1000009 none])] [ay 1000000 3 (.int .i64) qo,ay 1000001 63 K4 B,ay 1000002 61 K9 C,ay 1000003 5 (.int .u8) D,ay 1000004 119 px E,ay 1000005 3 (.int .i64) G,ay 1000006 63 K4 H,ay 1000007 61 K9 I,ay 1000008 5 (.int .u8) K,ay 1000009 119 px L]
def Pl (e:Bool)(f g h i j k:Int)(l m:ByteArray)(o:Int)(p:List Int)(a:List D4)(b:List D9)(c:List Int)(d:List kI):= di 43 [b9 6,(7,NR e)] [(6,[an f,an g,an h,an i,an j,an k,.str l,.own 1000000 none,.str m,.own 1000001 none,.own 1000002 none,.own 1000003 none,an o,.own 1000004 none])] [ay 1000000 3 (.int .i64) p,ay 1000001 63 K4 a,ay 1000002 61 K9 b,ay 1000003 5 (.int .u8) c,ay 1000004 119 px d]
def Mf (s t u v w x:Int)(y z:ByteArray)(A B a b c d e:Int)(f g:ByteArray)(h:Int)(C:List Int)(i:List D4)(j:List D9)(k:List Int)(l:List kI)(m:List Int)(o:List D4)(p:List D9)(q:List Int)(r:List kI):= di 43 [b9 6,b9 8] [(6,[an s,an t,an u,an v,an w,an x,.str y,.own 1000000 none,.str z,.own 1000001 none,.own 1000002 none,.own 1000003 none,an A,.own 1000004 none]),(8,[an B,an a,an b,an c,an d,an e,.str f,.own 1000005 none,.str g,.own 1000006 none,.own 1000007 none,.own 1000008 none,an h,.own 1000009 none])] [ay 1000000 3 (.int .i64) C,ay 1000001 63 K4 i,ay 1000002 61 K9 j,ay 1000003 5 (.int .u8) k,ay 1000004 119 px l,ay 1000005 3 (.int .i64) m,ay 1000006 63 K4 o,ay 1000007 61 K9 p,ay 1000008 5 (.int .u8) q,ay 1000009 119 px r]
def pQ (a:St):Option U:=fy y5 F y6 [.r,.r,.r,.l,.r,.b,.i] f243 J n a
def rN:=ig y5 F y6 [.r,.r,.r,.l,.r,.b] f243 gd 2
def GI (i c d r e f g h j:Int)(k:ByteArray)(l:List Int)(o:ByteArray)(p:List D4)(q:List D9)(s:List Int)(t:Int)(u:List kI)(m O:Int)(m2:ByteArray)(P:Int)(Q:ByteArray)(R:List Int)(S:Int)(T:ByteArray)(W:List Int)(X:Int)(Y:ByteArray)(Z:List Int)(qa qb qd qe qf qg qh qi qj qk ql:Int)(qm qn:ByteArray)(qo qp v w x y z:Int)(A B:ByteArray)(C:Int)(qq:List Int)(D:List D4)(E:List D9)(G:List Int)(H:List kI)(I:List Int)(K:List D4)(L:List D9)(M:List Int)(N:List kI):pQ F J (n+1) (lO i c d r e f g h j k l o p q s t u m O m2 P Q R S T W X Y Z qa qb qd qe qf qg qh qi qj qk ql qm qn qo qp v w x y z A B C qq D E G H I K L M N)=br (decide (i<c)) (br (i==r) (pQ F J n (lO (aj (i+1)) c d r e f g h j k l o p q s t u m O m2 P Q R S T W X Y Z qa qb qd qe qf qg qh qi qj qk ql qm qn qo qp v w x y z A B C qq D E G H I K L M N)) ((e8 F0 (c,d) (qp,v,w,(x,y,(z,A,I),B),K,L,(M,C),N) i (m,O,(m2,P,Q,R),(S,T,W),(X,Y,Z),qa,qb,qd,qe,qf)).bind fun a=>br (!a.1.2.1) ((a7 F0 (r,e,f,(g,h,(j,k,l),o),p,q,(s,t),u)).bind fun b=>J .ret (Pl false b.1.1 b.1.2.1 b.1.2.2.1 b.1.2.2.2.1.1 b.1.2.2.2.1.2.1 b.1.2.2.2.1.2.2.1.1 b.1.2.2.2.1.2.2.1.2.1 b.1.2.2.2.1.2.2.2 b.1.2.2.2.2.2.2.1.2 b.1.2.2.2.1.2.2.1.2.2 b.1.2.2.2.2.1 b.1.2.2.2.2.2.1 b.1.2.2.2.2.2.2.1.1 b.1.2.2.2.2.2.2.2)) (pQ F J n (lO (aj (i+1)) c d r e f g h j k l o p q s t u m O m2 P Q R S T W X Y Z qa qb qd qe qf qg qh qi qj qk ql qm qn qo a.1.1.1 a.1.1.2.1 a.1.1.2.2.1 a.1.1.2.2.2.1.1 a.1.1.2.2.2.1.2.1 a.1.1.2.2.2.1.2.2.1.1 a.1.1.2.2.2.1.2.2.1.2.1 a.1.1.2.2.2.1.2.2.2 a.1.1.2.2.2.2.2.2.1.2 qq D E G H a.1.1.2.2.2.1.2.2.1.2.2 a.1.1.2.2.2.2.1 a.1.1.2.2.2.2.2.1 a.1.1.2.2.2.2.2.2.1.1 a.1.1.2.2.2.2.2.2.2)))) (J (.exit 0) (Mf qg qh qi qj qk ql qm qn qo qp v w x y z A B C qq D E G H I K L M N)):=by kernel_rfl
def acR (e:Bool)(f g h i j k:Int)(l m:ByteArray)(o:Int)(p:List Int)(a:List D4)(b:List D9)(c:List Int)(d:List kI):rN F .ret (Pl e f g h i j k l m o p a b c d)=some ((f,g,h,(i,j,(k,l,p),m),a,b,(c,o),d),e,()):=by kernel_rfl
def aaF (t u v w x y:Int)(z A:ByteArray)(B o a b c d e:Int)(f g:ByteArray)(h:Int)(C:List Int)(p:List D4)(q:List D9)(r:List Int)(s:List kI)(i:List Int)(j:List D4)(k:List D9)(l:List Int)(m:List kI):rN F (.exit 0) (Mf t u v w x y z A B o a b c d e f g h C p q r s i j k l m)=some ((o,a,b,(c,d,(e,f,i),g),j,k,(l,h),m),true,()):=by kernel_rfl
def y7 (c:D1)(r:bb)(m:NQ):=bn y5 F y6 f243 Y0 gd 2 (c,r,m,())
def ajL (c:D1)(r:bb)(m:NQ):y7 F c r m=(a7 F0 r).bind fun a=>(dp F0 c r).bind fun b=>br (!b.1) (some (a.1,false,())) (pQ F (rN F) F.n (lO 0 c.1 c.2 r.1 r.2.1 r.2.2.1 r.2.2.2.1.1 r.2.2.2.1.2.1 r.2.2.2.1.2.2.1.1 r.2.2.2.1.2.2.1.2.1 r.2.2.2.1.2.2.1.2.2 r.2.2.2.1.2.2.2 r.2.2.2.2.1 r.2.2.2.2.2.1 r.2.2.2.2.2.2.1.1 r.2.2.2.2.2.2.1.2 r.2.2.2.2.2.2.2 m.1 m.2.1 m.2.2.1.1 m.2.2.1.2.1 m.2.2.1.2.2.1 m.2.2.1.2.2.2 m.2.2.2.1.1 m.2.2.2.1.2.1 m.2.2.2.1.2.2 m.2.2.2.2.1.1 m.2.2.2.2.1.2.1 m.2.2.2.2.1.2.2 m.2.2.2.2.2.1 m.2.2.2.2.2.2.1 m.2.2.2.2.2.2.2.1 m.2.2.2.2.2.2.2.2.1 m.2.2.2.2.2.2.2.2.2 0 0 0 0 0 0 ak ak 0 a.1.1 a.1.2.1 a.1.2.2.1 a.1.2.2.2.1.1 a.1.2.2.2.1.2.1 a.1.2.2.2.1.2.2.1.1 a.1.2.2.2.1.2.2.1.2.1 a.1.2.2.2.1.2.2.2 a.1.2.2.2.2.2.2.1.2 [] [] [] [] [] a.1.2.2.2.1.2.2.1.2.2 a.1.2.2.2.2.1 a.1.2.2.2.2.2.1 a.1.2.2.2.2.2.2.1.1 a.1.2.2.2.2.2.2.2)):=by kernel_rfl
def Pm:Any:=.one ⟨Y0,gd,2,fun x=>y7 F0 x.1 x.2.1 x.2.2.1⟩
def ajM:ba 243 Pm:=aw y5 ⟨cm,cP,uJ,trivial⟩ func243 y6 (by kernel_rfl)
def Y4:=[(51,bV),(54,Q0),(243,Pm),(244,vG)]
def Mg (w:nz)(a:Int):Option (nz×Int×nz):=apX Tryz.prog (look Y4) F ab f186 [(gZ,true),(.int .i64,false)] 0 (gZ,true) (.int .i64,false) (gZ,true) (w,a,())
def anb (w:nz)(a:Int):Mg F w a=ck (bO a (w.2.2.1.length:Int)) ((U5 F0 w.1 (aN w.2.2.1 a cl.aC)).bind fun c=>br (!c.2.1) (some (gZ.aC,3,w)) (ck (bO a (w.2.2.1.length:Int)) ((a7 F0 (aN w.2.2.1 a cl.aC)).bind fun b=>(y7 F0 w.1 (b.1.1,b.1.2.1,b.1.2.1,b.1.2.2.2) (1,0,c.1,(0,ak,[]),(0,ak,[]),0,0,0,0,0)).bind fun d=>(pP F0 w.1 d.1 c.1).bind fun e=>br (!d.2.1) (some (gZ.aC,4,w)) (br (!e.2.1) (some (gZ.aC,4,w)) (ck (bO a (w.2.2.1.length:Int)) (some ((w.1,w.2.1,w.2.2.1.set a.toNat e.1,w.2.2.2),0,gZ.aC))))))):=by kernel_rfl
def SR:Any:=.sel ⟨[(gZ,true),(.int .i64,false)],0,(gZ,true),(.int .i64,false),(gZ,true),fun x=>Mg F0 x.1 x.2.1⟩
def anc:ba 186 SR:=ok4 (show xJ Tryz.prog TB Y4 from⟨cm,ahN,ajM,L5,trivial⟩) func186 (by kernel_rfl) (by kernel_rfl) ab (by kernel_rfl) (by kernel_rfl)
def ahW:=[(100,lC),(125,nG)]
def Xb (d:D14):=bn ahW F ab f290 oJ oJ 2 (d,())
def aua (d:D14):Xb F d=(ij F0 d).bind fun a=>(mq F0 d).bind fun b=>br b.1 (some ((a.1.1,(d.1.length:Int)),())) (some (a.1,())):=by kernel_rfl
def Y5:Any:=.one ⟨oJ,oJ,2,fun x=>Xb F0 x.1⟩
def aub:ba 290 Y5:=aw ahW ⟨ui,yh,trivial⟩ func290 ab (by kernel_rfl)
def Vo:=[(51,bV),(64,cp),(101,yw),(290,Y5)]
abbrev aBB:List (Ty×Bool):=[(cl,true),(K23,false)]
def HU (c:D1)(r:bb):=bn Vo F ab f245 wX aBB 2 (c,r,())
def ajN (c:D1)(r:bb):HU F c r=(a7 F0 r).bind fun a=>(dp F0 c r).bind fun b=>br (!b.1) (some (a.1,[],())) ((Xb F0 r.2.2.2.2.2.2.1).bind fun d=>(tf F0 r.2.2.2.2.2.2.2).bind fun e=>some ((a.1.1,a.1.2.1,a.1.2.2.1,a.1.2.2.2.1,a.1.2.2.2.2.1,a.1.2.2.2.2.2.1,d.1,[]),e.1,())):=by kernel_rfl
def Pn:Any:=.one ⟨wX,aBB,2,fun x=>HU F0 x.1 x.2.1⟩
def ajO:ba 245 Pn:=aw Vo ⟨cm,cP,OQ,aub,trivial⟩ func245 ab (by kernel_rfl)
def Y6:=[(55,cL)]
abbrev aBC:List (Ty×Bool):=[(.int .i64,false),(K21,true)]
def Mh (a:Int)(m:NQ):=bn Y6 F ab f291 aBC [(K38,false)] 2 (a,m,())
def ane (a:Int)(m:NQ):Mh F a m=br (m.1==2) (br (m.1==4) (some ([],())) (br (m.2.2.2.1.2.1.toList==ak.toList) (some ([],())) ((cR F0 m.2.2.2.1.2.2 a).bind fun b=>br (!b.1) (some ([],())) (some ([(m.2.2.2.1.1,m.2.2.2.1.2.1,a)],()))))) (br (m.1==1) (br (m.1==4) (some ([],())) (br (m.2.2.1.2.2.1.toList==ak.toList) (some ([],())) ((cR F0 m.2.2.1.2.2.2 a).bind fun b=>br (!b.1) (some ([],())) (some ([(m.2.2.1.2.1,m.2.2.1.2.2.1,a)],()))))) (br (m.1==4) (some ([],())) (br (m.2.2.2.2.1.2.1.toList==ak.toList) (some ([],())) ((cR F0 m.2.2.2.2.1.2.2 a).bind fun b=>br (!b.1) (some ([],())) (some ([(m.2.2.2.2.1.1,m.2.2.2.2.1.2.1,a)],())))))):=by kernel_rfl
def SS:Any:=.one ⟨aBC,[(K38,false)],2,fun x=>Mh F0 x.1 x.2.1⟩
def anf:ba 291 SS:=aw Y6 ⟨dD,trivial⟩ func291 ab (by kernel_rfl)
def mK:=[(20,BY),(55,cL),(116,FR),(280,FQ),(291,SS)]
def mL:Nat->Option Hint:=look [(5,{live:=[1,2,6,7,8],Bg:=[(6,2,3,.int .i64),(6,3,50,cl),(6,4,102,eI),(6,5,95,cZ)],xl:=[6,7],rl:=[6]}),(9,{live:=[1,2,6,7,8,9,10],xl:=[1,2,6,7,8],rl:=[6]})]
def lP (l:Int)(m:List kI)(i k o p q a:Int)(r:List bS)(b:List Int)(c:List bb)(d:List b0)(e:List bS)(f:List Int)(g:List bb)(h:List b0)(j:List bS):= di 66 [(1,bq l),(2,ih 119 (px) m),b9 6,b9 7,(8,bq i),(9,.v (.c (.own 1000000 none))),(10,bq k)] [(6,[an o,an p,.own 1000001 none,.own 1000002 none,.own 1000003 none,.own 1000004 none]),(7,[an q,an a,.own 1000005 none,.own 1000006 none,.own 1000007 none,.own 1000008 none])] [ay 1000000 95 cZ r,ay 1000001 3 (.int .i64) b,ay 1000002 50 cl c,ay 1000003 102 eI d,ay 1000004 95 cZ e,ay 1000005 3 (.int .i64) f,ay 1000006 50 cl g,ay 1000007 102 eI h,ay 1000008 95 cZ j]
def SU (j:Int)(k:List kI)(i l m o a:Int)(p:List Int)(b:List bb)(c:List b0)(d:List bS)(e:List Int)(f:List bb)(g:List b0)(h:List bS):= di 66 [(1,bq j),(2,ih 119 (px) k),b9 6,b9 7,(8,bq i)] [(6,[an l,an m,.own 1000000 none,.own 1000001 none,.own 1000002 none,.own 1000003 none]),(7,[an o,an a,.own 1000004 none,.own 1000005 none,.own 1000006 none,.own 1000007 none])] [ay 1000000 3 (.int .i64) p,ay 1000001 50 cl b,ay 1000002 102 eI c,ay 1000003 95 cZ d,ay 1000004 3 (.int .i64) e,ay 1000005 50 cl f,ay 1000006 102 eI g,ay 1000007 95 cZ h]
def rO (a:St):Option U:=fy mK F mL [.r,.r,.r,.l,.r,.b,.i,.r,.l,.b,.r,.r,.b,.i] f246 J n a
def J5:Ex->St->Option U:=abL Tryz.prog (look mK) F mL [.r,.l,.b,.r,.r,.b] (sub [.r,.r,.r,.l,.r,.b,.i] (gX f246)) (itk Tryz.prog (look mK) F mL (sub [.r,.r,.r,.l,.r,.b,.i] (gX f246)) J n)
def y8 (j:Int)(k:List kI)(i l m o a:Int)(p:List Int)(b:List bb)(c:List b0)(d:List bS)(e:List Int)(f:List bb)(g:List b0)(h:List bS):= di 66 [(1,bq j),(2,ih 119 (px) k),b9 6,b9 7,(8,bq i)] [(6,[an l,an m,.own 1000000 none,.own 1000001 none,.own 1000002 none,.own 1000003 none]),(7,[an o,an a,.own 1000004 none,.own 1000005 none,.own 1000006 none,.own 1000007 none])] [ay 1000000 3 (.int .i64) p,ay 1000001 50 cl b,ay 1000002 102 eI c,ay 1000003 95 cZ d,ay 1000004 3 (.int .i64) e,ay 1000005 50 cl f,ay 1000006 102 eI g,ay 1000007 95 cZ h]
def SV (i j k a:Int)(l:List Int)(b:List bb)(c:List b0)(d:List bS)(e:List Int)(f:List bb)(g:List b0)(h:List bS):= di 66 [b9 6,b9 7] [(6,[an i,an j,.own 1000000 none,.own 1000001 none,.own 1000002 none,.own 1000003 none]),(7,[an k,an a,.own 1000004 none,.own 1000005 none,.own 1000006 none,.own 1000007 none])] [ay 1000000 3 (.int .i64) l,ay 1000001 50 cl b,ay 1000002 102 eI c,ay 1000003 95 cZ d,ay 1000004 3 (.int .i64) e,ay 1000005 50 cl f,ay 1000006 102 eI g,ay 1000007 95 cZ h]
def HV (a:St):Option U:=fy mK F mL [.r,.r,.r,.l,.r,.b,.i] f246 J n a
def y9:=ig mK F mL [.r,.r,.r,.l,.r,.b] f246 eU 2
def Mi (m:Int)(o:List kI)(i k p q r c:Int)(a:List bS)(d:List Int)(e:List bb)(f:List b0)(g:List bS)(h:List Int)(j:List bb)(l:List b0)(b:List bS):rO F J (n+1) (lP m o i k p q r c a d e f g h j l b)=br (decide (k<(a.length:Int))) (ck (bO k (a.length:Int)) (br (decide ((b.length:Int)<300)) ((EL F0 b (aN a k cZ.aC).1 (aN a k cZ.aC).2.1 (aN a k cZ.aC).2.2).bind fun s=>br (!s.1) (ck (eA F b.length [(aN a k cZ.aC)].length 32) (rO F J n (lP m o i (aj (k+1)) p q r c a d e f g h j l (b++[(aN a k cZ.aC)])))) (rO F J n (lP m o i (aj (k+1)) p q r c a d e f g h j l b))) (rO F J n (lP m o i (aj (k+1)) p q r c a d e f g h j l b)))) (J (.exit 2) (SU m o i p q r c d e f g h j l b)):=by kernel_rfl
def Mj (k:Int)(a:List kI)(i l m o b:Int)(p:List Int)(c:List bb)(d:List b0)(e:List bS)(f:List Int)(g:List bb)(h:List b0)(j:List bS):HV F J (n+1) (y8 k a i l m o b p c d e f g h j)=br (decide (i<(a.length:Int))) (ck (bO i (a.length:Int)) ((Mh F0 k (aN a i px.aC).2).bind fun q=>rO F (J5 F J n) F.n (lP k a i 0 l m o b q.1 p c d e f g h j))) (J (.exit 0) (SV l m o b p c d e f g h j)):=by kernel_rfl
def afG (j:Int)(k:List kI)(i l m o a:Int)(p:List Int)(b:List bb)(c:List b0)(d:List bS)(e:List Int)(f:List bb)(g:List b0)(h:List bS):J5 F J n (.exit 2) (SU j k i l m o a p b c d e f g h)=HV F J n (y8 j k (aj (i+1)) l m o a p b c d e f g h):=by kernel_rfl
def afH (j k f a:Int)(l:List Int)(g:List bb)(h:List b0)(i:List bS)(b:List Int)(c:List bb)(d:List b0)(e:List bS):y9 F (.exit 0) (SV j k f a l g h i b c d e)=some (((f,a),b,c,d,e),()):=by kernel_rfl
abbrev aBD:List (Ty×Bool):=[(gZ,true),(.int .i64,false),(K23,false)]
def J6 (w:nz)(a:Int)(b:D23):=bn mK F mL f246 aBD eU 2 (w,a,b,())
def aqy (w:nz)(b:Int)(c:D23):J6 F w b c=(yz F0 w).bind fun a=>(EM F0 w).bind fun d=>(cR F0 d.1 b).bind fun e=>br (!e.1) (some (a.1,())) (HV F (y9 F) F.n (y8 b c 0 0 0 a.1.1.1 a.1.1.2 [] [] [] [] a.1.2.1 a.1.2.2.1 a.1.2.2.2.1 a.1.2.2.2.2)):=by kernel_rfl
def Vp:Any:=.one ⟨aBD,eU,2,fun x=>J6 F0 x.1 x.2.1 x.2.2.1⟩
def aqz:ba 246 Vp:=aw mK ⟨Sj,dD,Vn,Vm,anf,trivial⟩ func246 mL (by kernel_rfl)
def Vq:=[(185,Ca),(245,Pn),(246,Vp)]
def HW (w:nz)(a:Int):Option (nz×Int×nz):=apX Tryz.prog (look Vq) F ab f187 [(gZ,true),(.int .i64,false)] 0 (gZ,true) (.int .i64,false) (gZ,true) (w,a,())
def ajP (w:nz)(a:Int):HW F w a=ck (bO a (w.2.2.1.length:Int)) ((HU F0 w.1 (aN w.2.2.1 a cl.aC)).bind fun b=>br (decide ((aj ((w.2.2.2.1.length:Int)+(b.2.1.length:Int)))>60)) (some (gZ.aC,4,w)) (br (decide ((aj ((w.2.2.2.2.length:Int)+(b.2.1.length:Int)))>300)) (some (gZ.aC,4,w)) (ck (bO a (w.2.2.1.length:Int)) ((J6 F0 (w.1,w.2.1,w.2.2.1.set a.toNat b.1,w.2.2.2) a b.2.1).bind fun c=>(y4 F0 c.1 b.2.1).bind fun d=>some (d.1.1,0,gZ.aC))))):=by kernel_rfl
def Po:Any:=.sel ⟨[(gZ,true),(.int .i64,false)],0,(gZ,true),(.int .i64,false),(gZ,true),fun x=>HW F0 x.1 x.2.1⟩
def ajQ:ba 187 Po:=ok4 (show xJ Tryz.prog TB Vq from⟨SP,ajO,aqz,trivial⟩) func187 (by kernel_rfl) (by kernel_rfl) ab (by kernel_rfl) (by kernel_rfl)
def acS:=[(51,bV),(64,cp),(292,oX)]
def Q8 (c:D1)(r:bb)(a:Int)(name:ByteArray)(b:Bool):=bn acS F ab f247 arZ gd 2 (c,r,a,name,b,())
def aqA (c:D1)(r:bb)(b:Int)(name:ByteArray)(d:Bool):Q8 F c r b name d=(dp F0 c r).bind fun e=>br (!e.1) ((a7 F0 r).bind fun f=>some (f.1,false,())) ((a7 F0 r).bind fun g=>(og F0 c g.1 b name d).bind fun a=>br (!a.1.2.1) ((a7 F0 r).bind fun h=>some (h.1,false,())) (some (a.1.1,true,()))):=by kernel_rfl
def Vr:Any:=.one ⟨arZ,gd,2,fun x=>Q8 F0 x.1 x.2.1 x.2.2.1 x.2.2.2.1 x.2.2.2.2.1⟩
def aqB:ba 247 Vr:=aw acS ⟨cm,cP,B7,trivial⟩ func247 ab (by kernel_rfl)
end
end Go.Am.Tryz
