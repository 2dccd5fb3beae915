/- No condition. -/
import Derived.Test.YtaheoongenkdbaaGreatDoorQsXJG4
set_option linter.all false
set_option maxRecDepth 100000
namespace Go.Am.Tryz
open Go.Am Go.Proofs Go.Proofs.Tryz
noncomputable section
variable {U:Type} (F:nT) (J:Ex->St->Option U) (n:Nat)
def RT:=[(222,j9)]
def CL (a b:D9):=bh RT F ab f210 vq aS 1 (a,b,())
def aem (a b:D9):CL F a b=br (a.1==b.1) (br (a.2.1.toList==b.2.1.toList) ((gd F0 a.2.2 b.2.2).bind fun c=>some (c.1,())) (some (false,()))) (some (false,())):=by kernel_rfl
def Lr:Any:=.one ⟨vq,aS,1,fun x=>CL F0 x.1 x.2.1⟩
def aen:aX 210 Lr:=aw RT ⟨vA,trivial⟩ func210 ab (by kernel_rfl)
def Uq:=[(161,jo),(209,Jc),(210,Lr)]
def G1 (a b:MO):=bh Uq F ab f143 ayn aS 1 (a,b,())
def aij (a b:MO):G1 F a b=br (a.1==b.1) (br (a.2.1==b.2.1) ((yC F0 a.2.2.1 b.2.2.1).bind fun c=>br c.1 ((CL F0 a.2.2.2.1 b.2.2.2.1).bind fun d=>br d.1 ((hU F0 a.2.2.2.2.1 b.2.2.2.2.1).bind fun e=>br e.1 (br (a.2.2.2.2.2.1==b.2.2.2.2.2.1) (some ((a.2.2.2.2.2.2.1==b.2.2.2.2.2.2.1)&&((a.2.2.2.2.2.2.2.1==b.2.2.2.2.2.2.2.1)&&((a.2.2.2.2.2.2.2.2.1==b.2.2.2.2.2.2.2.2.1)&&((a.2.2.2.2.2.2.2.2.2==b.2.2.2.2.2.2.2.2.2)&&true))),())) (some (false,()))) (some (false,()))) (some (false,()))) (some (false,()))) (some (false,()))) (some (false,())):=by kernel_rfl
def Ox:Any:=.one ⟨ayn,aS,1,fun x=>G1 F0 x.1 x.2.1⟩
def aik:aX 143 Ox:=aw Uq ⟨o4,abE,aen,trivial⟩ func143 ab (by kernel_rfl)
def ea:Nat->Option Hint:=look [(2,{live:=[0,1,5],rl:=[4]})]
def dv (s:ByteArray)(c i:Int):= b2 19 [(0,W8 s),(1,.v (.c (.int .u8 c))),(5,bp i)]
def kl (a:Int):= b2 19 [(4,bp a)]
def yD   := b2 19 []
def eb (a:St):Option U:=fp aB F ea [.r,.l,.r,.b,.i] f299 J n a
def fi:=gU aB F ea [.r,.l,.r,.b] f299 cX 1
def iD (s:ByteArray)(c i:Int):eb F J (n+1) (dv s c i)=br (decide (i>=0)) (ck (bN i (s.size:Int)) (br ((iq s i)==c) (J .ret (kl i)) (eb F J n (dv s c (ai (i-1)))))) (J (.exit 0) (yD)):=by kernel_rfl
def yE (a:Int):fi F .ret (kl a)=some (a,()):=by kernel_rfl
def gY (s:ByteArray)(c:Int):=bh aB F ea f299 Xb cX 1 (s,c,())
def Bm (s:ByteArray)(c:Int):gY F s c=eb F (fi F) F.n (dv s c (ai ((s.size:Int)-1))):=by kernel_rfl
def km:Any:=.one ⟨Xb,cX,1,fun x=>gY F0 x.1 x.2.1⟩
def Bn:aX 299 km:=aw aB trivial func299 ea (by kernel_rfl)
def vD:=[(299,km)]
def nQ (s:ByteArray)(c:Int):=bh vD F ab f256 Xb cX 1 (s,c,())
def MT (s:ByteArray)(c:Int):nQ F s c=(gY F0 s c).bind fun a=>some (a.1,()):=by kernel_rfl
def rQ:Any:=.one ⟨Xb,cX,1,fun x=>nQ F0 x.1 x.2.1⟩
def MU:aX 256 rQ:=aw vD ⟨Bn,trivial⟩ func256 ab (by kernel_rfl)
def ags:=[(39,eu),(256,rQ)]
def qV (s:ByteArray):=bh ags F ab f211 dt dt 1 (s,())
def arZ (s:ByteArray):qV F s=(eC F0 s).bind fun b=>br (!b.1) (some (aj,())) (br (s.toList==aj.toList) (some (aj,())) ((nQ F0 s 47).bind fun a=>ck (QN 0 a.1 (s.size:Int)) (some (s.extract (0:Int).toNat a.1.toNat,())))):=by kernel_rfl
def CM:Any:=.one ⟨dt,dt,1,fun x=>qV F0 x.1⟩
def P4:aX 211 CM:=aw ags ⟨gf,MU,trivial⟩ func211 ab (by kernel_rfl)
def Ur:=[(39,eu),(138,hX),(211,CM)]
def mh (c:D1)(b:D15):=bh Ur F ab f145 ayo aS 1 (c,b,())
def ail (c:D1)(b:D15):mh F c b=(la F0 c b.2).bind fun a=>br a.1 (br (!(b.1.toList==aj.toList)) ((eC F0 b.1).bind fun d=>br d.1 ((qV F0 b.1).bind fun e=>some (e.1.toList==b.2.2.1.toList,())) (some (false,()))) (some (false,()))) (some (false,())):=by kernel_rfl
def lg:Any:=.one ⟨ayo,aS,1,fun x=>mh F0 x.1 x.2.1⟩
def tV:aX 145 lg:=aw Ur ⟨gf,mf,P4,trivial⟩ func145 ab (by kernel_rfl)
def abF:=[(26,cL),(42,bn),(138,hX),(139,hV),(141,mW),(143,Ox),(144,Up),(145,lg)]
def fx (c:D1)(m:MO):=bh abF F ab f77 af4 aS 1 (c,m,())
def aow (c:D1)(m:MO):fx F c m=(dY F0 c).bind fun a=>br (!a.1) (some (false,())) ((P3 F0 m).bind fun b=>(G1 F0 m b.1).bind fun d=>br (!d.1) (some (false,())) (br (m.1==1) ((mh F0 c m.2.2.1).bind fun e=>some (e.1,())) (br (m.1==2) ((o9 F0 c m.2.2.2.1).bind fun f=>br f.1 (some (!(m.2.2.2.1.2.1.toList==aj.toList),())) (some (false,()))) (br (m.1==3) ((aU F0 m.2.1 1 60).bind fun g=>br g.1 ((la F0 c m.2.2.2.2.1).bind fun h=>br h.1 ((aU F0 m.2.2.2.2.2.1 0 (ai (c.1-1))).bind fun i=>some (i.1,())) (some (false,()))) (some (false,()))) (br (m.1==4) ((nG F0 m.2.2.2.2.2.2).bind fun j=>some (j.1,())) (some (false,()))))))):=by kernel_rfl
def lh:Any:=.one ⟨af4,aS,1,fun x=>fx F0 x.1 x.2.1⟩
def sq:aX 77 lh:=aw abF ⟨dE,bQ,mf,me,yx,aik,aov,tV,trivial⟩ func77 ab (by kernel_rfl)
def G3:=[(26,cL),(42,bn),(73,jq),(74,EX),(75,Bl),(76,mX),(77,lh)]
def G4:Nat->Option Hint:=look [(4,{live:=[2,3,64,65,66],rl:=[4]})]
def yF (q:List iO)(s t c a r b d e f g:Int)(h:ByteArray)(i:List Int)(j:ByteArray)(k:List D4)(l:List D9)(m:List Int)(o:Int)(p:List iO):= di 92 [b0 2,b0 3,(64,hM 119 (nV) q),(65,bp s),(66,bp t)] [(2,[an c,an a]),(3,[an r,an b,an d,an e,an f,an g,.str h,.ro false 3 (.int .i64) i,.str j,.ro false 63 (K4) k,.ro false 61 (K9) l,.ro false 5 (.int .u8) m,an o,.ro false 119 (nV) p])] []
def yG (a:Bool):= b2 92 [(4,Pw a)]
def RU   := b2 92 []
def G5 (a:St):Option U:=fp G3 F G4 [.r,.r,.l,.r,.b,.i] f34 J n a
def yH:=gU G3 F G4 [.r,.r,.l,.r,.b] f34 aS 1
def Ls (b:List iO)(e a c d r f g h i j:Int)(k:ByteArray)(l:List Int)(m:ByteArray)(o:List D4)(p:List D9)(q:List Int)(s:Int)(t:List iO):G5 F J (n+1) (yF b e a c d r f g h i j k l m o p q s t)=br (decide (a<e)) (ck (bN a (b.length:Int)) ((fx F0 (c,d) (ay b a nV.aq).2).bind fun u=>br (!u.1) (J .ret (yG false)) ((aU F0 (ay b a nV.aq).1 0 (ai (c-1))).bind fun v=>br (!v.1) (J .ret (yG false)) (br ((ay b a nV.aq).1==r) (J .ret (yG false)) (G5 F J n (yF b e (ai (a+1)) c d r f g h i j k l m o p q s t)))))) (J (.exit 0) (RU)):=by kernel_rfl
def aim (a:Bool):yH F .ret (yG a)=some (a,()):=by kernel_rfl
def aeo: yH F (.exit 0) (RU)=some (true,()):=by kernel_rfl
def cr (c:D1)(r:a6):=bh G3 F G4 f34 An aS 1 (c,r,())
def aox (c:D1)(r:a6):cr F c r=(dY F0 c).bind fun a=>br (!a.1) (some (false,())) ((aU F0 r.1 0 (ai (c.1-1))).bind fun b=>br (!b.1) (some (false,())) ((aU F0 r.2.1 1 60).bind fun d=>br (!d.1) (some (false,())) ((aU F0 r.2.2.1 0 60).bind fun e=>br (!e.1) (some (false,())) ((jN F0 c r.2.2.2.1).bind fun f=>br (!f.1) (some (false,())) ((vC F0 r.2.2.2.2.1).bind fun g=>br (!g.1) (some (false,())) ((jO F0 c r.2.2.2.2.2.1).bind fun h=>br (!h.1) (some (false,())) ((pb F0 r.2.2.2.2.2.2.1).bind fun i=>br (!i.1) (some (false,())) (br (decide ((r.2.2.2.2.2.2.2.length:Int)>30)) (some (false,())) (G5 F (yH F) F.n (yF r.2.2.2.2.2.2.2 (r.2.2.2.2.2.2.2.length:Int) 0 c.1 c.2 r.1 r.2.1 r.2.2.1 r.2.2.2.1.1 r.2.2.2.1.2.1 r.2.2.2.1.2.2.1.1 r.2.2.2.1.2.2.1.2.1 r.2.2.2.1.2.2.1.2.2 r.2.2.2.1.2.2.2 r.2.2.2.2.1 r.2.2.2.2.2.1 r.2.2.2.2.2.2.1.1 r.2.2.2.2.2.2.1.2 r.2.2.2.2.2.2.2)))))))))):=by kernel_rfl
def b3:Any:=.one ⟨An,aS,1,fun x=>cr F0 x.1 x.2.1⟩
def cD:aX 34 b3:=aw G3 ⟨dE,bQ,o8,Uo,RS,yB,sq,trivial⟩ func34 G4 (by kernel_rfl)
def X8:=[(34,b3)]
def Lt (c:D1)(a:Int):=bh X8 F ab f27 af5 fK 2 (c,a,())
def alL (c:D1)(a:Int):Lt F c a=(cr F0 c (a,1,0,(0,0,(0,aj,[]),aj),[],[],([],0),[])).bind fun b=>br (!b.1) (some ((0,0,0,(0,0,(0,aj,[]),aj),[],[],([],0),[]),false,())) (some ((a,1,0,(0,0,(0,aj,[]),aj),[],[],([],0),[]),true,())):=by kernel_rfl
def RV:Any:=.one ⟨af5,fK,2,fun x=>Lt F0 x.1 x.2.1⟩
def alM:aX 27 RV:=aw X8 ⟨cD,trivial⟩ func27 ab (by kernel_rfl)
def CN:=[(42,bn)]
def CO:Nat->Option Hint:=look [(4,{live:=[0,3],mat:=[(3,5,.int .u8)],xl:=[0,3],rl:=[2]})]
def mY (a:Int)(b:List Int):= di 23 [(0,bp a),(3,.v (.c (.own 1000000 none)))] [] [ax 1000000 5 (.int .u8) b]
def Oy (a:Int)(b:List Int):= di 23 [(0,bp a),(3,.v (.c (.own 1000000 none)))] [] [ax 1000000 5 (.int .u8) b]
def sr (a:St):Option U:=fp CN F CO [.r,.r,.r,.l,.b,.i] f163 J n a
def tW:=gU CN F CO [.r,.r,.r,.l,.b] f163 kH 2
def mi (a:Int)(b:List Int):sr F J (n+1) (mY a b)=br (decide (a>=128)) (ck (ee F b.length [IntKind.wrap .u8 (ai ((Int.tmod a 128)+128))].length 1) (sr F J n (mY (ai (Int.tdiv a 128)) (b++[IntKind.wrap .u8 (ai ((Int.tmod a 128)+128))])))) (J (.exit 0) (Oy a b)):=by kernel_rfl
def om (a:Int)(b:List Int):tW F (.exit 0) (Oy a b)=ck (ee F b.length [IntKind.wrap .u8 (a)].length 1) (some (b++[IntKind.wrap .u8 (a)],())):=by kernel_rfl
def eD (a:Int):=bh CN F CO f163 cX kH 2 (a,())
def Us (a:Int):eD F a=(aU F0 a 0 2147483647).bind fun b=>br (!b.1) (some ([],())) (sr F (tW F) F.n (mY a [])):=by kernel_rfl
def gG:Any:=.one ⟨cX,kH,2,fun x=>eD F0 x.1⟩
def lj:aX 163 gG:=aw CN ⟨bQ,trivial⟩ func163 CO (by kernel_rfl)
def CP:=[(42,bn),(163,gG)]
def CQ:Nat->Option Hint:=look [(5,{live:=[0,1,7,8],rl:=[4,5,6]})]
def tX (b:List Int)(a c i:Int):= b2 55 [(0,hM 5 (.int .u8) b),(1,bp a),(7,bp c),(8,bp i)]
def EY (a b:Int)(c:Bool):= b2 55 [(4,bp a),(5,bp b),(6,Pw c)]
def Bo   := b2 55 []
def CR (a:St):Option U:=fp CP F CQ [.r,.r,.r,.l,.r,.b,.i] f192 J n a
def tY:=gU CP F CQ [.r,.r,.r,.l,.r,.b] f192 apK 1
def Jd (b:List Int)(a c i:Int):CR F J (n+1) (tX b a c i)=br (decide (i<5)) (br (decide ((ai (a+i))<(b.length:Int))) (ck (bN (ai (a+i)) (b.length:Int)) (ck (decide (0<=(ai (7*i)))) (br (decide ((ai (ay b (ai (a+i)) 0))<128)) ((eD F0 (ai (c+(ai ((Int.tmod (ai (ay b (ai (a+i)) 0)) 128)*2 ^ (min (ai (7*i)).toNat 64)))))).bind fun d=>br ((d.1.length:Int) != (ai (i+1))) (J .ret (EY 0 0 false)) (J .ret (EY (ai (c+(ai ((Int.tmod (ai (ay b (ai (a+i)) 0)) 128)*2 ^ (min (ai (7*i)).toNat 64))))) (ai ((ai (a+i))+1)) true))) (CR F J n (tX b a (ai (c+(ai ((Int.tmod (ai (ay b (ai (a+i)) 0)) 128)*2 ^ (min (ai (7*i)).toNat 64))))) (ai (i+1))))))) (J (.exit 0) (Bo))) (J (.exit 0) (Bo)):=by kernel_rfl
def Oz (a b:Int)(c:Bool):tY F .ret (EY a b c)=some (a,b,c,()):=by kernel_rfl
def Lu: tY F (.exit 0) (Bo)=some (0,0,false,()):=by kernel_rfl
def vE (b:List Int)(a:Int):=bh CP F CQ f192 af6 apK 1 (b,a,())
def alN (b:List Int)(a:Int):vE F b a=(aU F0 a 0 (ai ((b.length:Int)-1))).bind fun c=>br (!c.1) (some (0,0,false,())) (CR F (tY F) F.n (tX b a 0 0)):=by kernel_rfl
def EZ:Any:=.one ⟨af6,apK,1,fun x=>vE F0 x.1 x.2.1⟩
def Ut:aX 192 EZ:=aw CP ⟨bQ,lj,trivial⟩ func192 CQ (by kernel_rfl)
def Lv:=[(192,EZ)]
def bB (r:D32):=Dp Lv F ab f118 gq 0 .cur cX gq 1 (r,())
def Zv (r:D32):bB F r=(vE F0 r.1 r.2.1).bind fun a=>br r.2.2 (some ((0,()),(r.1,r.2.1,true),())) (br (!a.2.2.1) (some ((0,()),(r.1,r.2.1,true),())) (some ((a.1,()),(r.1,a.2.1,r.2.2),()))):=by kernel_rfl
def gP:Any:=.two ⟨gq,0,.cur,cX,1,gq,fun x=>bB F0 x.1⟩
def mj:aX 118 gP:=Tq Lv ⟨Ut,trivial⟩ func118 ab (by kernel_rfl)
def Uu:=[(192,EZ)]
def ml (b:List Int)(a:Int):=bh Uu F ab f173 af6 ayp 1 (b,a,())
def ain (b:List Int)(c:Int):ml F b c=(vE F0 b c).bind fun a=>br (!a.2.2.1) (some (aj,0,false,())) (br (decide (a.1>(ai ((b.length:Int)-a.2.1)))) (some (aj,0,false,())) (ck (QN a.2.1 (ai (a.2.1+a.1)) (b.length:Int)) (some (strOf ((b.take (ai (a.2.1+a.1)).toNat).drop a.2.1.toNat),ai (a.2.1+a.1),true,())))):=by kernel_rfl
def Bp:Any:=.one ⟨af6,ayp,1,fun x=>ml F0 x.1 x.2.1⟩
def RW:aX 173 Bp:=aw Uu ⟨Ut,trivial⟩ func173 ab (by kernel_rfl)
def Je:=[(173,Bp)]
def fy (r:D32):=Dp Je F ab f119 gq 0 .cur dt gq 1 (r,())
def WC (r:D32):fy F r=(ml F0 r.1 r.2.1).bind fun a=>br r.2.2 (some ((aj,()),(r.1,r.2.1,true),())) (br (!a.2.2.1) (some ((aj,()),(r.1,r.2.1,true),())) (some ((a.1,()),(r.1,a.2.1,r.2.2),()))):=by kernel_rfl
def jP:Any:=.two ⟨gq,0,.cur,dt,1,gq,fun x=>fy F0 x.1⟩
def r0:aX 119 jP:=Tq Je ⟨RW,trivial⟩ func119 ab (by kernel_rfl)
def mm:=[(118,gP)]
def mn:Nat->Option Hint:=look [(4,{live:=[0,3,4,5],mat:=[(3,3,.int .i64)],xl:=[3],rl:=[2]})]
def jQ (d i:Int)(a:List Int)(b:Int)(c:Bool)(e:List Int):St:={nt:=26,tm:=[(0,.v (.c (.ptr 4000000 0))),(3,.v (.c (.own 1000000 none))),(4,bp d),(5,bp i)],bx:=[(4000000,[.ro true 5 (.int .u8) a,an b,.bool c])],bl:=[ax 1000000 3 (.int .i64) e],sp:=.v (.c (.ptr 4000000 0))}
def iL (a:List Int)(b:Int)(c:Bool)(d:List Int):St:={nt:=26,tm:=[(3,.v (.c (.own 1000000 none)))],bx:=[(4000000,[.ro true 5 (.int .u8) a,an b,.bool c])],bl:=[ax 1000000 3 (.int .i64) d],sp:=.v (.c (.ptr 4000000 0))}
def mo (a:St):Option U:=fp mm F mn [.r,.r,.r,.l,.r,.b,.i] f121 J n a
def pc:=atV mm F mn [.r,.r,.r,.l,.r,.b] f121 .cur iT gq 2
def vF (f i:Int)(d:List Int)(e:Int)(a:Bool)(c:List Int):mo F J (n+1) (jQ f i d e a c)=br (decide (i<f)) (br (!a) ((bB F0 (d,e,a)).bind fun b=>ck (ee F c.length [b.1.1].length 8) (mo F J n (jQ f (ai (i+1)) b.2.1.1 b.2.1.2.1 b.2.1.2.2 (c++[b.1.1])))) (J (.exit 0) (iL d e a c))) (J (.exit 0) (iL d e a c)):=by kernel_rfl
def P5 (a:List Int)(b:Int)(c:Bool)(d:List Int):pc F (.exit 0) (iL a b c d)=some ((d,()),(a,b,c),()):=by kernel_rfl
def lk (r:D32):=Dp mm F mn f121 gq 0 .cur iT gq 2 (r,())
def WD (r:D32):lk F r=(bB F0 r).bind fun a=>mo F (pc F) F.n (jQ a.1.1 0 a.2.1.1 a.2.1.2.1 a.2.1.2.2 []):=by kernel_rfl
def pd:Any:=.two ⟨gq,0,.cur,iT,2,gq,fun x=>lk F0 x.1⟩
def FK:aX 121 pd:=Tq mm ⟨mj,trivial⟩ func121 mn (by kernel_rfl)
def OA:=[(118,gP),(119,jP),(121,pd)]
def ll (r:D32):=Dp OA F ab f120 gq 0 .cur fF gq 2 (r,())
def abG (r:D32):ll F r=(bB F0 r).bind fun a=>(fy F0 a.2.1).bind fun b=>(lk F0 b.2.1).bind fun c=>some (((a.1.1,b.1.1,c.1.1),()),c.2.1,()):=by kernel_rfl
def uS:Any:=.two ⟨gq,0,.cur,fF,2,gq,fun x=>ll F0 x.1⟩
def Lw:aX 120 uS:=Tq OA ⟨mj,r0,FK,trivial⟩ func120 ab (by kernel_rfl)
def abH:=[(77,lh),(118,gP),(119,jP),(120,uS),(121,pd)]
def Jf (c:D1)(b:List Int):=bh abH F ab f61 Q4 ayq 2 (c,b,())
def aoy (c:D1)(b:List Int):Jf F c b=(bB F0 (b,0,false)).bind fun a=>br (a.1.1==1) ((fy F0 a.2.1).bind fun i=>(ll F0 i.2.1).bind fun e=>br e.2.1.2.2 (some ((0,0,(aj,0,aj,[]),(0,aj,[]),(0,aj,[]),0,0,0,0,0),false,())) (br (e.2.1.2.1 != (b.length:Int)) (some ((0,0,(aj,0,aj,[]),(0,aj,[]),(0,aj,[]),0,0,0,0,0),false,())) ((fx F0 c (a.1.1,0,(i.1.1,e.1.1),(0,aj,[]),(0,aj,[]),0,0,0,0,0)).bind fun d=>br (!d.1) (some ((0,0,(aj,0,aj,[]),(0,aj,[]),(0,aj,[]),0,0,0,0,0),false,())) (some ((a.1.1,0,(i.1.1,e.1.1),(0,aj,[]),(0,aj,[]),0,0,0,0,0),true,()))))) (br (a.1.1==2) ((bB F0 a.2.1).bind fun j=>(fy F0 j.2.1).bind fun k=>(lk F0 k.2.1).bind fun f=>br f.2.1.2.2 (some ((0,0,(aj,0,aj,[]),(0,aj,[]),(0,aj,[]),0,0,0,0,0),false,())) (br (f.2.1.2.1 != (b.length:Int)) (some ((0,0,(aj,0,aj,[]),(0,aj,[]),(0,aj,[]),0,0,0,0,0),false,())) ((fx F0 c (a.1.1,0,(aj,0,aj,[]),(j.1.1,k.1.1,f.1.1),(0,aj,[]),0,0,0,0,0)).bind fun d=>br (!d.1) (some ((0,0,(aj,0,aj,[]),(0,aj,[]),(0,aj,[]),0,0,0,0,0),false,())) (some ((a.1.1,0,(aj,0,aj,[]),(j.1.1,k.1.1,f.1.1),(0,aj,[]),0,0,0,0,0),true,()))))) (br (a.1.1==3) ((bB F0 a.2.1).bind fun l=>(bB F0 l.2.1).bind fun m=>(ll F0 m.2.1).bind fun g=>br g.2.1.2.2 (some ((0,0,(aj,0,aj,[]),(0,aj,[]),(0,aj,[]),0,0,0,0,0),false,())) (br (g.2.1.2.1 != (b.length:Int)) (some ((0,0,(aj,0,aj,[]),(0,aj,[]),(0,aj,[]),0,0,0,0,0),false,())) ((fx F0 c (a.1.1,l.1.1,(aj,0,aj,[]),(0,aj,[]),g.1.1,m.1.1,0,0,0,0)).bind fun d=>br (!d.1) (some ((0,0,(aj,0,aj,[]),(0,aj,[]),(0,aj,[]),0,0,0,0,0),false,())) (some ((a.1.1,l.1.1,(aj,0,aj,[]),(0,aj,[]),g.1.1,m.1.1,0,0,0,0),true,()))))) (br (a.1.1==4) ((bB F0 a.2.1).bind fun o=>(bB F0 o.2.1).bind fun p=>(bB F0 p.2.1).bind fun q=>(bB F0 q.2.1).bind fun h=>br h.2.1.2.2 (some ((0,0,(aj,0,aj,[]),(0,aj,[]),(0,aj,[]),0,0,0,0,0),false,())) (br (h.2.1.2.1 != (b.length:Int)) (some ((0,0,(aj,0,aj,[]),(0,aj,[]),(0,aj,[]),0,0,0,0,0),false,())) ((fx F0 c (a.1.1,0,(aj,0,aj,[]),(0,aj,[]),(0,aj,[]),0,o.1.1,p.1.1,q.1.1,h.1.1)).bind fun d=>br (!d.1) (some ((0,0,(aj,0,aj,[]),(0,aj,[]),(0,aj,[]),0,0,0,0,0),false,())) (some ((a.1.1,0,(aj,0,aj,[]),(0,aj,[]),(0,aj,[]),0,o.1.1,p.1.1,q.1.1,h.1.1),true,()))))) (br a.2.1.2.2 (some ((0,0,(aj,0,aj,[]),(0,aj,[]),(0,aj,[]),0,0,0,0,0),false,())) (br (a.2.1.2.1 != (b.length:Int)) (some ((0,0,(aj,0,aj,[]),(0,aj,[]),(0,aj,[]),0,0,0,0,0),false,())) ((fx F0 c (a.1.1,0,(aj,0,aj,[]),(0,aj,[]),(0,aj,[]),0,0,0,0,0)).bind fun d=>br (!d.1) (some ((0,0,(aj,0,aj,[]),(0,aj,[]),(0,aj,[]),0,0,0,0,0),false,())) (some ((a.1.1,0,(aj,0,aj,[]),(0,aj,[]),(0,aj,[]),0,0,0,0,0),true,())))))))):=by kernel_rfl
def Jg:Any:=.one ⟨Q4,ayq,2,fun x=>Jf F0 x.1 x.2.1⟩
def X9:aX 61 Jg:=aw abH ⟨sq,mj,r0,Lw,FK,trivial⟩ func61 ab (by kernel_rfl)
def gh:=[(26,cL),(34,b3),(39,eu),(41,EV),(42,bn),(60,yw),(61,Jg),(62,dN)]
def gi:Nat->Option Hint:=look [(5,{live:=[1,3,54,55,56],xl:=[1,3],rl:=[2]}),(11,{live:=[1,3,73,74,75],xl:=[1,3],rl:=[2]}),(18,{live:=[3,99,100,101],rl:=[2]})]
def ln (b:List bT)(d e c a:Int):= di 127 [b0 3,(99,hM 95 (c8) b),(100,bp d),(101,bp e)] [(3,[an c,an a])] []
def q0 (a:Bool):= b2 127 [(2,Pw a)]
def Lx   := b2 127 []
def pe (a:St):Option U:=fp gh F gi [.r,.r,.r,.r,.r,.l,.r,.b,.i] f28 J n a
def lq:=gU gh F gi [.r,.r,.r,.r,.r,.l,.r,.b] f28 aS 1
def lr (h:List bZ)(i j w a:Int)(b:List Int)(d:List a6)(e:List bZ)(f:List bT)(c g:Int):= di 127 [b0 1,b0 3,(73,hM 102 (eH) h),(74,bp i),(75,bp j)] [(1,[an w,an a,.ro false 3 (.int .i64) b,.ro false 50 (bD) d,.ro false 102 (eH) e,.ro false 95 (c8) f]),(3,[an c,an g])] []
def Bq (a:Bool):= b2 127 [(2,Pw a)]
def Ly (w a:Int)(b:List Int)(d:List a6)(e:List bZ)(f:List bT)(c g:Int):= di 127 [b0 1,b0 3] [(1,[an w,an a,.ro false 3 (.int .i64) b,.ro false 50 (bD) d,.ro false 102 (eH) e,.ro false 95 (c8) f]),(3,[an c,an g])] []
def pf (a:St):Option U:=fp gh F gi [.r,.r,.r,.r,.l,.r,.b,.i] f28 J n a
def lu:=gU gh F gi [.r,.r,.r,.r,.l,.r,.b] f28 aS 1
def lv (h:List a6)(i j w a:Int)(b:List Int)(d:List a6)(e:List bZ)(f:List bT)(c g:Int):= di 127 [b0 1,b0 3,(54,hM 50 (bD) h),(55,bp i),(56,bp j)] [(1,[an w,an a,.ro false 3 (.int .i64) b,.ro false 50 (bD) d,.ro false 102 (eH) e,.ro false 95 (c8) f]),(3,[an c,an g])] []
def Br (a:Bool):= b2 127 [(2,Pw a)]
def LA (w a:Int)(b:List Int)(d:List a6)(e:List bZ)(f:List bT)(c g:Int):= di 127 [b0 1,b0 3] [(1,[an w,an a,.ro false 3 (.int .i64) b,.ro false 50 (bD) d,.ro false 102 (eH) e,.ro false 95 (c8) f]),(3,[an c,an g])] []
def pg (a:St):Option U:=fp gh F gi [.r,.r,.r,.l,.r,.b,.i] f28 J n a
def lx:=gU gh F gi [.r,.r,.r,.l,.r,.b] f28 aS 1
def FL (b:List bT)(d a c e:Int):pe F J (n+1) (ln b d a c e)=br (decide (a<d)) (ck (bN a (b.length:Int)) ((aU F0 (ay b a c8.aq).2.2 0 (ai (c-1))).bind fun f=>br (!f.1) (J .ret (q0 false)) ((eC F0 (ay b a c8.aq).2.1).bind fun g=>br (!g.1) (J .ret (q0 false)) ((dZ F0 (ay b a c8.aq).2.1).bind fun h=>br (h.1 != (ay b a c8.aq).1) (J .ret (q0 false)) (pe F J n (ln b d (ai (a+1)) c e)))))) (J (.exit 4) (Lx)):=by kernel_rfl
def FM (b:List bZ)(j a w e:Int)(f:List Int)(g:List a6)(h:List bZ)(i:List bT)(c d:Int):pf F J (n+1) (lr b j a w e f g h i c d)=br (decide (a<j)) (ck (bN a (b.length:Int)) ((Jf F0 (c,d) (ay b a (0,[])).2).bind fun k=>br (!k.2.1) (J .ret (Bq false)) ((aU F0 (ay b a (0,[])).1 0 (ai (c-1))).bind fun l=>br (!l.1) (J .ret (Bq false)) (pf F J n (lr b j (ai (a+1)) w e f g h i c d))))) (J (.exit 2) (Ly w e f g h i c d)):=by kernel_rfl
def FN (b:List a6)(j a w e:Int)(f:List Int)(g:List a6)(h:List bZ)(i:List bT)(c d:Int):pg F J (n+1) (lv b j a w e f g h i c d)=br (decide (a<j)) (ck (bN a (b.length:Int)) ((cr F0 (c,d) (ay b a bD.aq)).bind fun k=>br (!k.1) (J .ret (Br false)) (br ((ay b a bD.aq).1 != a) (J .ret (Br false)) (pg F J n (lv b j (ai (a+1)) w e f g h i c d))))) (J (.exit 0) (LA w e f g h i c d)):=by kernel_rfl
def abI (a:Bool):lq F .ret (q0 a)=some (a,()):=by kernel_rfl
def Zw: lq F (.exit 4) (Lx)=some (true,()):=by kernel_rfl
def abJ (a:Bool):lu F .ret (Bq a)=some (a,()):=by kernel_rfl
def Zx (w d:Int)(e:List Int)(f:List a6)(g:List bZ)(a:List bT)(c b:Int):lu F (.exit 2) (Ly w d e f g a c b)=pe F (lq F) F.n (ln a (a.length:Int) 0 c b):=by kernel_rfl
def abK (a:Bool):lx F .ret (Br a)=some (a,()):=by kernel_rfl
def Zy (w b:Int)(d:List Int)(e:List a6)(a:List bZ)(f:List bT)(c g:Int):lx F (.exit 0) (LA w b d e a f c g)=pf F (lu F) F.n (lr a (a.length:Int) 0 w b d e a f c g):=by kernel_rfl
def cY (w:nx):=bh gh F gi f28 fG aS 1 (w,())
def aio (w:nx):cY F w=(dY F0 w.1).bind fun a=>br (!a.1) (some (false,())) ((uR F0 w.1.1 w.2.1).bind fun b=>br (!b.1) (some (false,())) ((DK F0 w.1).bind fun c=>br (decide ((w.2.1.length:Int)>c.1)) (some (false,())) (br ((w.2.2.1.length:Int) != w.1.1) (some (false,())) (br (decide ((w.2.2.2.1.length:Int)>60)) (some (false,())) (br (decide ((w.2.2.2.2.length:Int)>300)) (some (false,())) (pg F (lx F) F.n (lv w.2.2.1 (w.2.2.1.length:Int) 0 w.1.1 w.1.2 w.2.1 w.2.2.1 w.2.2.2.1 w.2.2.2.2 w.1.1 w.1.2))))))):=by kernel_rfl
def ly:Any:=.one ⟨fG,aS,1,fun x=>cY F0 x.1⟩
def tZ:aX 28 ly:=aw gh ⟨dE,cD,gf,Un,bQ,MS,X9,eV,trivial⟩ func28 gi (by kernel_rfl)
def ua:=[(25,eU),(26,cL),(27,RV),(28,ly)]
def ub:Nat->Option Hint:=look [(3,{live:=[2,4,6,7],vW:=[(4,2,3,.int .i64),(4,3,50,bD),(4,4,102,eH),(4,5,95,c8),(6,3,50,bD),(6,4,102,eH),(6,5,95,c8)],xl:=[4,6],rl:=[4,5]})]
def oo (i c a l m w b:Int)(o:List Int)(d:List a6)(e:List bZ)(f:List bT)(g:List Int)(h:List a6)(j:List bZ)(k:List bT):= di 41 [b0 2,b0 4,b0 6,(7,bp i)] [(2,[an c,an a]),(4,[an l,an m,.own 1000000 none,.own 1000001 none,.own 1000002 none,.own 1000003 none]),(6,[an w,an b,.own 1000004 none,.own 1000005 none,.own 1000006 none,.own 1000007 none])] [ax 1000000 3 (.int .i64) o,ax 1000001 50 bD d,ax 1000002 102 eH e,ax 1000003 95 c8 f,ax 1000004 3 (.int .i64) g,ax 1000005 50 bD h,ax 1000006 102 eH j,ax 1000007 95 c8 k]
def uT (i j w a:Int)(k:List Int)(b:List a6)(c:List bZ)(d:List bT)(e:List Int)(f:List a6)(g:List bZ)(h:List bT):= di 41 [b0 4,b0 6] [(4,[an i,an j,.own 1000000 none,.own 1000001 none,.own 1000002 none,.own 1000003 none]),(6,[an w,an a,.own 1000004 none,.own 1000005 none,.own 1000006 none,.own 1000007 none])] [ax 1000000 3 (.int .i64) k,ax 1000001 50 bD b,ax 1000002 102 eH c,ax 1000003 95 c8 d,ax 1000004 3 (.int .i64) e,ax 1000005 50 bD f,ax 1000006 102 eH g,ax 1000007 95 c8 h]
def uc (a:St):Option U:=fp ua F ub [.r,.r,.l,.r,.b,.i] f7 J n a
def yI:=gU ua F ub [.r,.r,.l,.r,.b] f7 apL 2
def DP (i c b l m w d:Int)(o:List Int)(e:List a6)(f:List bZ)(g:List bT)(h:List Int)(a:List a6)(j:List bZ)(k:List bT):uc F J (n+1) (oo i c b l m w d o e f g h a j k)=(dY F0 (c,b)).bind fun q=>br q.1 (br (decide (i<c)) ((Lt F0 (c,b) i).bind fun p=>ck (ee F a.length [p.1].length 208) (uc F J n (oo (ai (i+1)) c b l m w d o e f g h (a++[p.1]) j k))) (J (.exit 0) (uT l m w d o e f g h a j k))) (J (.exit 0) (uT l m w d o e f g h a j k)):=by kernel_rfl
def WE (j k w a:Int)(l:List Int)(f:List a6)(g:List bZ)(h:List bT)(b:List Int)(c:List a6)(d:List bZ)(e:List bT):yI F (.exit 0) (uT j k w a l f g h b c d e)=(cY F0 ((w,a),b,c,d,e)).bind fun i=>br (!i.1) (some (((0,0),[],[],[],[]),false,())) (some (((w,a),b,c,d,e),true,())):=by kernel_rfl
def su (c:D1)(a:List Int):=bh ua F ub f7 ayr apL 2 (c,a,())
def aep (c:D1)(a:List Int):su F c a=(dM F0 a).bind fun b=>uc F (yI F) F.n (oo 0 c.1 c.2 0 0 c.1 c.2 [] [] [] [] b.1 [] [] []):=by kernel_rfl
def LB:Any:=.one ⟨ayr,apL,2,fun x=>su F0 x.1 x.2.1⟩
def aeq:aX 7 LB:=aw ua ⟨h9,dE,alM,tZ,trivial⟩ func7 ub (by kernel_rfl)
def Ya:=[(25,eU)]
def gj (q:D9):=bh Ya F ab f204 fF fF 2 (q,())
def alO (q:D9):gj F q=(dM F0 q.2.2).bind fun a=>some ((q.1,q.2.1,a.1),()):=by kernel_rfl
def gH:Any:=.one ⟨fF,fF,2,fun x=>gj F0 x.1⟩
def lz:aX 204 gH:=aw Ya ⟨h9,trivial⟩ func204 ab (by kernel_rfl)
def RX:=[(204,gH)]
def ka (s:SC):=bh RX F ab f132 Aq Aq 2 (s,())
def aer (s:SC):ka F s=(gj F0 s.2.2.1).bind fun a=>some ((s.1,s.2.1,a.1,s.2.2.2),()):=by kernel_rfl
def jR:Any:=.one ⟨Aq,Aq,2,fun x=>ka F0 x.1⟩
def q2:aX 132 jR:=aw RX ⟨lz,trivial⟩ func132 ab (by kernel_rfl)
def gZ (p:D5):=bh aB F ab f133 iP iP 2 (p,())
def aip (p:D5):gZ F p=ck (ee F 0 p.length 32) (some ([]++p,())):=by kernel_rfl
def Bs:Any:=.one ⟨iP,iP,2,fun x=>gZ F0 x.1⟩
def RY:aX 133 Bs:=aw aB trivial func133 ab (by kernel_rfl)
def RZ:=[(25,eU)]
def eN (p:D9):=bh RZ F ab f205 fF fF 2 (p,())
def aes (p:D9):eN F p=(dM F0 p.2.2).bind fun a=>some ((p.1,p.2.1,a.1),()):=by kernel_rfl
def gu:Any:=.one ⟨fF,fF,2,fun x=>eN F0 x.1⟩
def lA:aX 205 gu:=aw RZ ⟨h9,trivial⟩ func205 ab (by kernel_rfl)
def q3:=[(205,gu)]
def q4:Nat->Option Hint:=look [(3,{live:=[3,6,7,8],mat:=[(3,61,K9)],xl:=[3],rl:=[2]})]
def mq (a:List D9)(b c:Int)(d:List D9):= di 19 [(3,.v (.c (.own 1000000 none))),(6,hM 61 (K9) a),(7,bp b),(8,bp c)] [] [ax 1000000 61 K9 d]
def FO (a:List D9):= di 19 [(3,.v (.c (.own 1000000 none)))] [] [ax 1000000 61 K9 a]
def q5 (a:St):Option U:=fp q3 F q4 [.r,.r,.l,.r,.b,.i] f134 J n a
def uU:=gU q3 F q4 [.r,.r,.l,.r,.b] f134 Fl 2
def Ax (b:List D9)(d a:Int)(c:List D9):q5 F J (n+1) (mq b d a c)=br (decide (a<d)) (ck (bN a (b.length:Int)) ((eN F0 (ay b a K9.aq)).bind fun e=>ck (ee F c.length [e.1].length 48) (q5 F J n (mq b d (ai (a+1)) (c++[e.1]))))) (J (.exit 0) (FO c)):=by kernel_rfl
def Uv (a:List D9):uU F (.exit 0) (FO a)=some (a,()):=by kernel_rfl
def en (a:D13):=bh q3 F q4 f134 Fl Fl 2 (a,())
def abL (a:D13):en F a=q5 F (uU F) F.n (mq a (a.length:Int) 0 []):=by kernel_rfl
def uV:Any:=.one ⟨Fl,Fl,2,fun x=>en F0 x.1⟩
def LC:aX 134 uV:=aw q3 ⟨lA,trivial⟩ func134 q4 (by kernel_rfl)
def kb (d:D14):=bh aB F ab f135 nW nW 2 (d,())
def aet (d:D14):kb F d=ck (ee F 0 d.1.length 1) (some (([]++d.1,d.2),())):=by kernel_rfl
def jS:Any:=.one ⟨nW,nW,2,fun x=>kb F0 x.1⟩
def q7:aX 135 jS:=aw aB trivial func135 ab (by kernel_rfl)
def OB:=[(204,gH)]
def yJ (b:D15):=bh OB F ab f253 af7 af7 2 (b,())
def abM (b:D15):yJ F b=(gj F0 b.2).bind fun a=>some ((b.1,a.1),()):=by kernel_rfl
def Jh:Any:=.one ⟨af7,af7,2,fun x=>yJ F0 x.1⟩
def abN:aX 253 Jh:=aw OB ⟨lz,trivial⟩ func253 ab (by kernel_rfl)
end
end Go.Am.Tryz
namespace Go.Am.Tryz
open Go.Am Go.Proofs Go.Proofs.Tryz
noncomputable section
variable {U:Type} (F:nT) (J:Ex->St->Option U) (n:Nat)
def Uw:=[(204,gH),(205,gu),(253,Jh)]
def yK (m:MO):=bh Uw F ab f206 vt vt 2 (m,())
def aiq (m:MO):yK F m=(yJ F0 m.2.2.1).bind fun a=>(eN F0 m.2.2.2.1).bind fun b=>(gj F0 m.2.2.2.2.1).bind fun c=>some ((m.1,m.2.1,a.1,b.1,c.1,m.2.2.2.2.2),()):=by kernel_rfl
def Bt:Any:=.one ⟨vt,vt,2,fun x=>yK F0 x.1⟩
def R0:aX 206 Bt:=aw Uw ⟨lz,lA,abN,trivial⟩ func206 ab (by kernel_rfl)
def q9:=[(206,Bt)]
def ra:Nat->Option Hint:=look [(3,{live:=[3,6,7,8],mat:=[(3,119,nV)],xl:=[3],rl:=[2]})]
def mr (a:List iO)(b c:Int)(d:List iO):= di 23 [(3,.v (.c (.own 1000000 none))),(6,hM 119 (nV) a),(7,bp b),(8,bp c)] [] [ax 1000000 119 nV d]
def FP (a:List iO):= di 23 [(3,.v (.c (.own 1000000 none)))] [] [ax 1000000 119 nV a]
def rb (a:St):Option U:=fp q9 F ra [.r,.r,.l,.r,.b,.i] f136 J n a
def uW:=gU q9 F ra [.r,.r,.l,.r,.b] f136 Xx 2
def Ay (b:List iO)(d a:Int)(c:List iO):rb F J (n+1) (mr b d a c)=br (decide (a<d)) (ck (bN a (b.length:Int)) ((yK F0 (ay b a nV.aq).2).bind fun e=>ck (ee F c.length [((ay b a nV.aq).1,e.1)].length 224) (rb F J n (mr b d (ai (a+1)) (c++[((ay b a nV.aq).1,e.1)]))))) (J (.exit 0) (FP c)):=by kernel_rfl
def Ux (a:List iO):uW F (.exit 0) (FP a)=some (a,()):=by kernel_rfl
def yL (a:D23):=bh q9 F ra f136 Xx Xx 2 (a,())
def abO (a:D23):yL F a=rb F (uW F) F.n (mr a (a.length:Int) 0 []):=by kernel_rfl
def Ji:Any:=.one ⟨Xx,Xx,2,fun x=>yL F0 x.1⟩
def abP:aX 136 Ji:=aw q9 ⟨R0,trivial⟩ func136 ra (by kernel_rfl)
def Uy:=[(132,jR),(133,Bs),(134,uV),(135,jS),(136,Ji)]
def az (r:a6):=bh Uy F ab f70 Q7 Q7 2 (r,())
def air (r:a6):az F r=(ka F0 r.2.2.2.1).bind fun a=>(gZ F0 r.2.2.2.2.1).bind fun b=>(en F0 r.2.2.2.2.2.1).bind fun c=>(kb F0 r.2.2.2.2.2.2.1).bind fun d=>(yL F0 r.2.2.2.2.2.2.2).bind fun e=>some ((r.1,r.2.1,r.2.2.1,a.1,b.1,c.1,d.1,e.1),()):=by kernel_rfl
def bJ:Any:=.one ⟨Q7,Q7,2,fun x=>az F0 x.1⟩
def b1:aX 70 bJ:=aw Uy ⟨q2,RY,LC,q7,abP,trivial⟩ func70 ab (by kernel_rfl)
def R1:Nat->Option Hint:=look [(900001,{live:=[],mat:=[(1,0,eH)]})]
def sv (x:bZ):=bh aB F R1 f71 [(eH,true)] [(eH,true)] 2 (x,())
def aeu (x:bZ):sv F x=ck (ee F 0 x.2.length 1) (some ((x.1,[]++x.2),())):=by kernel_rfl
def yM:Any:=.one ⟨[(eH,true)],[(eH,true)],2,fun x=>sv F0 x.1⟩
def OC:aX 71 yM:=aw aB trivial func71 R1 (by kernel_rfl)
def ia:=[(25,eU),(70,bJ),(71,yM)]
def ib:Nat->Option Hint:=look [(3,{live:=[1,2,3,18,19,20],vW:=[(2,2,3,.int .i64),(2,3,50,bD),(2,4,102,eH),(2,5,95,c8),(3,3,50,bD),(3,4,102,eH)],xl:=[1,2,3],rl:=[2]}),(8,{live:=[2,3,33,34,35],xl:=[2,3],rl:=[2]}),(900001,{live:=[],mat:=[(1,0,gp)]})]
def mu (i:List bZ)(j k l m o a:Int)(p:List Int)(b:List a6)(c:List bZ)(d:List bT)(e:List Int)(f:List a6)(g:List bZ)(h:List bT):= di 48 [b0 2,b0 3,(33,hM 102 (eH) i),(34,bp j),(35,bp k)] [(2,[an l,an m,.own 1000000 none,.own 1000001 none,.own 1000002 none,.own 1000003 none]),(3,[an o,an a,.own 1000004 none,.own 1000005 none,.own 1000006 none,.own 1000007 none])] [ax 1000000 3 (.int .i64) p,ax 1000001 50 bD b,ax 1000002 102 eH c,ax 1000003 95 c8 d,ax 1000004 3 (.int .i64) e,ax 1000005 50 bD f,ax 1000006 102 eH g,ax 1000007 95 c8 h]
def FQ (i j k a:Int)(l:List Int)(b:List a6)(c:List bZ)(d:List bT)(e:List Int)(f:List a6)(g:List bZ)(h:List bT):= di 48 [b0 2,b0 3] [(2,[an i,an j,.own 1000000 none,.own 1000001 none,.own 1000002 none,.own 1000003 none]),(3,[an k,an a,.own 1000004 none,.own 1000005 none,.own 1000006 none,.own 1000007 none])] [ax 1000000 3 (.int .i64) l,ax 1000001 50 bD b,ax 1000002 102 eH c,ax 1000003 95 c8 d,ax 1000004 3 (.int .i64) e,ax 1000005 50 bD f,ax 1000006 102 eH g,ax 1000007 95 c8 h]
def re (a:St):Option U:=fp ia F ib [.r,.r,.r,.l,.r,.b,.i] f32 J n a
def uX:=gU ia F ib [.r,.r,.r,.l,.r,.b] f32 fG 2
def mv (w:nx)(i:List a6)(j k l m o a:Int)(p:List Int)(b:List a6)(c:List bZ)(d:List bT)(e:List Int)(f:List a6)(g:List bZ)(h:List bT):= di 48 [(1,.v (.c (.Sx false (gp) w 0))),b0 2,b0 3,(18,hM 50 (bD) i),(19,bp j),(20,bp k)] [(2,[an l,an m,.own 1000000 none,.own 1000001 none,.own 1000002 none,.own 1000003 none]),(3,[an o,an a,.own 1000004 none,.own 1000005 none,.own 1000006 none,.own 1000007 none])] [ax 1000000 3 (.int .i64) p,ax 1000001 50 bD b,ax 1000002 102 eH c,ax 1000003 95 c8 d,ax 1000004 3 (.int .i64) e,ax 1000005 50 bD f,ax 1000006 102 eH g,ax 1000007 95 c8 h]
def FR (w:nx)(i j k a:Int)(l:List Int)(b:List a6)(c:List bZ)(d:List bT)(e:List Int)(f:List a6)(g:List bZ)(h:List bT):= di 48 [(1,.v (.c (.Sx false (gp) w 0))),b0 2,b0 3] [(2,[an i,an j,.own 1000000 none,.own 1000001 none,.own 1000002 none,.own 1000003 none]),(3,[an k,an a,.own 1000004 none,.own 1000005 none,.own 1000006 none,.own 1000007 none])] [ax 1000000 3 (.int .i64) l,ax 1000001 50 bD b,ax 1000002 102 eH c,ax 1000003 95 c8 d,ax 1000004 3 (.int .i64) e,ax 1000005 50 bD f,ax 1000006 102 eH g,ax 1000007 95 c8 h]
def rf (a:St):Option U:=fp ia F ib [.r,.r,.l,.r,.b,.i] f32 J n a
def uY:=gU ia F ib [.r,.r,.l,.r,.b] f32 fG 2
def Az (c:List bZ)(k a l m o d:Int)(p:List Int)(e:List a6)(f:List bZ)(g:List bT)(h:List Int)(i:List a6)(b:List bZ)(j:List bT):re F J (n+1) (mu c k a l m o d p e f g h i b j)=br (decide (a<k)) (ck (bN a (c.length:Int)) ((sv F0 (ay c a (0,[]))).bind fun q=>ck (ee F b.length [q.1].length 32) (re F J n (mu c k (ai (a+1)) l m o d p e f g h i (b++[q.1]) j)))) (J (.exit 2) (FQ l m o d p e f g h i b j)):=by kernel_rfl
def AA (w:nx)(c:List a6)(k a l m o d:Int)(p:List Int)(e:List a6)(f:List bZ)(g:List bT)(h:List Int)(b:List a6)(i:List bZ)(j:List bT):rf F J (n+1) (mv w c k a l m o d p e f g h b i j)=br (decide (a<k)) (ck (bN a (c.length:Int)) ((az F0 (ay c a bD.aq)).bind fun q=>ck (ee F b.length [q.1].length 208) (rf F J n (mv w c k (ai (a+1)) l m o d p e f g h (b++[q.1]) i j)))) (J (.exit 0) (FR w l m o d p e f g h b i j)):=by kernel_rfl
def Uz (j k f a:Int)(l:List Int)(g:List a6)(h:List bZ)(i:List bT)(b:List Int)(c:List a6)(d:List bZ)(e:List bT):uX F (.exit 2) (FQ j k f a l g h i b c d e)=some (((f,a),b,c,d,e),()):=by kernel_rfl
def UA (w:nx)(i j k a:Int)(l:List Int)(b:List a6)(c:List bZ)(d:List bT)(e:List Int)(f:List a6)(g:List bZ)(h:List bT):uY F (.exit 0) (FR w i j k a l b c d e f g h)=re F (uX F) F.n (mu w.2.2.2.1 (w.2.2.2.1.length:Int) 0 i j k a l b c d e f g h):=by kernel_rfl
def aM (w:nx):=bh ia F ib f32 fG fG 2 (w,())
def abQ (w:nx):aM F w=(dM F0 w.2.1).bind fun a=>ck (ee F 0 w.2.2.2.2.length 32) (rf F (uY F) F.n (mv w w.2.2.1 (w.2.2.1.length:Int) 0 0 0 w.1.1 w.1.2 [] [] [] [] a.1 [] [] ([]++w.2.2.2.2))):=by kernel_rfl
def fz:Any:=.one ⟨fG,fG,2,fun x=>aM F0 x.1⟩
def jT:aX 32 fz:=aw ia ⟨h9,b1,OC,trivial⟩ func32 ib (by kernel_rfl)
def ha:Nat->Option Hint:=look [(2,{live:=[0,1,7,8],rl:=[4]})]
def fP (s:List Int)(v a b:Int):= b2 19 [(0,hM 3 (.int .i64) s),(1,bp v),(7,bp a),(8,bp b)]
def sw (a:Int):= b2 19 [(4,bp a)]
def rR   := b2 19 []
def hl (a:St):Option U:=fp aB F ha [.r,.l,.r,.b,.i] f137 J n a
def fQ:=gU aB F ha [.r,.l,.r,.b] f137 cX 1
def oq (s:List Int)(v b a:Int):hl F J (n+1) (fP s v b a)=br (decide (a<b)) (ck (bN a (s.length:Int)) (br (v==(ay s a 0)) (J .ret (sw a)) (hl F J n (fP s v b (ai (a+1)))))) (J (.exit 0) (rR)):=by kernel_rfl
def J3 (a:Int):fQ F .ret (sw a)=some (a,()):=by kernel_rfl
def Jj: fQ F (.exit 0) (rR)=some (-1,()):=by kernel_rfl
def jU (s:List Int)(v:Int):=bh aB F ha f137 ahG cX 1 (s,v,())
def OD (s:List Int)(v:Int):jU F s v=hl F (fQ F) F.n (fP s v (s.length:Int) 0):=by kernel_rfl
def sx:Any:=.one ⟨ahG,cX,1,fun x=>jU F0 x.1 x.2.1⟩
def OE:aX 137 sx:=aw aB trivial func137 ha (by kernel_rfl)
def rS:=[(137,sx)]
def gv (s:List Int)(v:Int):=bh rS F ab f72 ahG aS 1 (s,v,())
def Jk (s:List Int)(v:Int):gv F s v=(jU F0 s v).bind fun a=>some (decide (a.1>=0),()):=by kernel_rfl
def ot:Any:=.one ⟨ahG,aS,1,fun x=>gv F0 x.1 x.2.1⟩
def Jl:aX 72 ot:=aw rS ⟨OE,trivial⟩ func72 ab (by kernel_rfl)
def Yb:=[(72,ot)]
def dh (s:List Int)(i:Int):=bh Yb F ab f33 ahG aS 1 (s,i,())
def alP (s:List Int)(i:Int):dh F s i=(gv F0 s i).bind fun a=>some (a.1,()):=by kernel_rfl
def db:Any:=.one ⟨ahG,aS,1,fun x=>dh F0 x.1 x.2.1⟩
def eo:aX 33 db:=aw Yb ⟨Jl,trivial⟩ func33 ab (by kernel_rfl)
def CS:=[(33,db)]
def CT:Nat->Option Hint:=look [(3,{live:=[1,3,7,8],mat:=[(3,3,.int .i64)],xl:=[3],rl:=[2]})]
def jr (f g w a:Int)(b:List Int)(c:List a6)(d:List bZ)(e:List bT)(h:List Int):= di 22 [b0 1,(3,.v (.c (.own 1000000 none))),(7,bp f),(8,bp g)] [(1,[an w,an a,.ro false 3 (.int .i64) b,.ro false 50 (bD) c,.ro false 102 (eH) d,.ro false 95 (c8) e])] [ax 1000000 3 (.int .i64) h]
def OF (a:List Int):= di 22 [(3,.v (.c (.own 1000000 none)))] [] [ax 1000000 3 (.int .i64) a]
def nH (a:St):Option U:=fp CS F CT [.r,.r,.l,.r,.b,.i] f10 J n a
def ud:=gU CS F CT [.r,.r,.l,.r,.b] f10 iT 2
def Jm (d a w e:Int)(c:List Int)(f:List a6)(g:List bZ)(h:List bT)(b:List Int):nH F J (n+1) (jr d a w e c f g h b)=br (decide (a<d)) ((dh F0 c a).bind fun i=>br (!i.1) (ck (ee F b.length [a].length 8) (nH F J n (jr d (ai (a+1)) w e c f g h (b++[a])))) (nH F J n (jr d (ai (a+1)) w e c f g h b))) (J (.exit 0) (OF b)):=by kernel_rfl
def abR (a:List Int):ud F (.exit 0) (OF a)=some (a,()):=by kernel_rfl
def ph (w:nx):=bh CS F CT f10 fG iT 2 (w,())
def alQ (w:nx):ph F w=nH F (ud F) F.n (jr (w.2.2.1.length:Int) 0 w.1.1 w.1.2 w.2.1 w.2.2.1 w.2.2.2.1 w.2.2.2.2 []):=by kernel_rfl
def mZ:Any:=.one ⟨fG,iT,2,fun x=>ph F0 x.1⟩
def yN:aX 10 mZ:=aw CS ⟨eo,trivial⟩ func10 CT (by kernel_rfl)
def UB:=[(10,mZ),(33,db),(42,bn)]
def G6 (w:nx)(d:D45):=bh UB F ab f43 ago aS 1 (w,d,())
def ais (w:nx)(d:D45):G6 F w d=br (d.1==3) ((aU F0 d.2.1 0 (ai ((w.2.2.2.1.length:Int)-1))).bind fun a=>some (a.1,())) (br (d.1==4) ((aU F0 d.2.1 0 (ai ((w.2.2.2.1.length:Int)-1))).bind fun a=>some (a.1,())) (br (d.1==5) ((aU F0 d.2.1 0 (ai ((w.2.2.2.1.length:Int)-1))).bind fun a=>some (a.1,())) (br (d.1==10) ((aU F0 d.2.1 0 (ai (w.1.1-1))).bind fun b=>some (b.1,())) ((ph F0 w).bind fun c=>(dh F0 c.1 d.2.1).bind fun e=>some (e.1,()))))):=by kernel_rfl
def OG:Any:=.one ⟨ago,aS,1,fun x=>G6 F0 x.1 x.2.1⟩
def ait:aX 43 OG:=aw UB ⟨yN,eo,bQ,trivial⟩ func43 ab (by kernel_rfl)
def agt:=[(76,mX),(135,jS)]
def VR (d:D14):=bh agt F ab f151 nW nW 2 (d,())
def ar0 (d:D14):VR F d=(kb F0 d).bind fun a=>(pb F0 d).bind fun b=>br b.1 (some ((a.1.1,(d.1.length:Int)),())) (some (a.1,())):=by kernel_rfl
def Yc:Any:=.one ⟨nW,nW,2,fun x=>VR F0 x.1⟩
def ar1:aX 151 Yc:=aw agt ⟨yB,q7,trivial⟩ func151 ab (by kernel_rfl)
def UC:=[(34,b3),(70,bJ),(151,Yc)]
def G7 (c:D1)(r:a6):=bh UC F ab f82 An ayN 2 (c,r,())
def aiu (c:D1)(r:a6):G7 F c r=(az F0 r).bind fun a=>(cr F0 c r).bind fun b=>br (!b.1) (some (a.1,[],())) ((VR F0 a.1.2.2.2.2.2.2.1).bind fun d=>some ((a.1.1,a.1.2.1,a.1.2.2.1,a.1.2.2.2.1,a.1.2.2.2.2.1,a.1.2.2.2.2.2.1,d.1,[]),a.1.2.2.2.2.2.2.2,())):=by kernel_rfl
def OH:Any:=.one ⟨An,ayN,2,fun x=>G7 F0 x.1 x.2.1⟩
def aiv:aX 82 OH:=aw UC ⟨cD,b1,ar1,trivial⟩ func82 ab (by kernel_rfl)
def Yd:=[(33,db)]
def DQ (a:Int)(m:MO):=bh Yd F ab f84 ayO [(K38,false)] 2 (a,m,())
def alR (a:Int)(m:MO):DQ F a m=br (m.1==4) (some ([],())) (br (m.1==2) (br (m.2.2.2.1.2.1.toList==aj.toList) (some ([],())) ((dh F0 m.2.2.2.1.2.2 a).bind fun b=>br (!b.1) (some ([],())) (some ([(m.2.2.2.1.1,m.2.2.2.1.2.1,a)],())))) (br (m.1==1) (br (m.2.2.1.2.2.1.toList==aj.toList) (some ([],())) ((dh F0 m.2.2.1.2.2.2 a).bind fun b=>br (!b.1) (some ([],())) (some ([(m.2.2.1.2.1,m.2.2.1.2.2.1,a)],())))) (br (m.2.2.2.2.1.2.1.toList==aj.toList) (some ([],())) ((dh F0 m.2.2.2.2.1.2.2 a).bind fun b=>br (!b.1) (some ([],())) (some ([(m.2.2.2.2.1.1,m.2.2.2.2.1.2.1,a)],())))))):=by kernel_rfl
def E0:Any:=.one ⟨ayO,[(K38,false)],2,fun x=>DQ F0 x.1 x.2.1⟩
def UD:aX 84 E0:=aw Yd ⟨eo,trivial⟩ func84 ab (by kernel_rfl)
def LD:Nat->Option Hint:=look [(2,{live:=[0,3,7,8],rl:=[4]})]
def CU (s:List bT)(c d v:Int)(a:ByteArray)(b:Int):= di 19 [(0,hM 95 (c8) s),b0 3,(7,bp c),(8,bp d)] [(3,[an v,.str a,an b])] []
def Ye (a:Int):= b2 19 [(4,bp a)]
def UE   := b2 19 []
def LF (a:St):Option U:=fp aB F LD [.r,.l,.r,.b,.i] f152 J n a
def CW:=gU aB F LD [.r,.l,.r,.b] f152 cX 1
def OI (s:List bT)(d a v:Int)(b:ByteArray)(c:Int):LF F J (n+1) (CU s d a v b c)=br (decide (a<d)) (ck (bN a (s.length:Int)) (br ((v==(ay s a c8.aq).1)&&((b.toList==(ay s a c8.aq).2.1.toList)&&((c==(ay s a c8.aq).2.2)&&true))) (J .ret (Ye a)) (LF F J n (CU s d (ai (a+1)) v b c)))) (J (.exit 0) (UE)):=by kernel_rfl
def alS (a:Int):CW F .ret (Ye a)=some (a,()):=by kernel_rfl
def aiw: CW F (.exit 0) (UE)=some (-1,()):=by kernel_rfl
abbrev ayR:List (Ty×Bool):=[(K38,false),(c8,true)]
def VS (s:D38)(v:bT):=bh aB F LD f152 ayR cX 1 (s,v,())
def ar2 (s:D38)(v:bT):VS F s v=LF F (CW F) F.n (CU s (s.length:Int) 0 v.1 v.2.1 v.2.2):=by kernel_rfl
def Yf:Any:=.one ⟨ayR,cX,1,fun x=>VS F0 x.1 x.2.1⟩
def ar3:aX 152 Yf:=aw aB trivial func152 LD (by kernel_rfl)
def ou:=[(152,Yf)]
def cV (s:D38)(v:bT):=bh ou F ab f85 ayR aS 1 (s,v,())
def E1 (s:D38)(v:bT):cV F s v=(VS F0 s v).bind fun a=>some (decide (a.1>=0),()):=by kernel_rfl
def ec:Any:=.one ⟨ayR,aS,1,fun x=>cV F0 x.1 x.2.1⟩
def gI:aX 85 ec:=aw ou ⟨ar3,trivial⟩ func85 ab (by kernel_rfl)
def mw:=[(10,mZ),(32,fz),(33,db),(84,E0),(85,ec)]
def mx:Nat->Option Hint:=look [(5,{live:=[1,6,7,20,21,22],vW:=[(6,2,3,.int .i64),(6,3,50,bD),(6,4,102,eH),(6,5,95,c8)],xl:=[6,7],rl:=[6]}),(8,{live:=[1,6,7,20,21,22,29,30,31],xl:=[1,6,7,20,21,22],rl:=[6]})]
def lB (j:Int)(k:List iO)(l m o p q r s a:Int)(t:List bT)(b:List Int)(c:List a6)(d:List bZ)(e:List bT)(f:List Int)(g:List a6)(h:List bZ)(i:List bT):= di 55 [(1,bp j),b0 6,b0 7,(20,hM 119 (nV) k),(21,bp l),(22,bp m),(29,.v (.c (.own 1000000 none))),(30,bp o),(31,bp p)] [(6,[an q,an r,.own 1000001 none,.own 1000002 none,.own 1000003 none,.own 1000004 none]),(7,[an s,an a,.own 1000005 none,.own 1000006 none,.own 1000007 none,.own 1000008 none])] [ax 1000000 95 c8 t,ax 1000001 3 (.int .i64) b,ax 1000002 50 bD c,ax 1000003 102 eH d,ax 1000004 95 c8 e,ax 1000005 3 (.int .i64) f,ax 1000006 50 bD g,ax 1000007 102 eH h,ax 1000008 95 c8 i]
def R2 (i:Int)(j:List iO)(k l m o p a:Int)(q:List Int)(b:List a6)(c:List bZ)(d:List bT)(e:List Int)(f:List a6)(g:List bZ)(h:List bT):= di 55 [(1,bp i),b0 6,b0 7,(20,hM 119 (nV) j),(21,bp k),(22,bp l)] [(6,[an m,an o,.own 1000000 none,.own 1000001 none,.own 1000002 none,.own 1000003 none]),(7,[an p,an a,.own 1000004 none,.own 1000005 none,.own 1000006 none,.own 1000007 none])] [ax 1000000 3 (.int .i64) q,ax 1000001 50 bD b,ax 1000002 102 eH c,ax 1000003 95 c8 d,ax 1000004 3 (.int .i64) e,ax 1000005 50 bD f,ax 1000006 102 eH g,ax 1000007 95 c8 h]
def rh (a:St):Option U:=fp mw F mx [.r,.r,.r,.l,.r,.b,.i,.r,.r,.l,.b,.r,.r,.b,.i] f83 J n a
def Jn:Ex->St->Option U:=adj Tryz.prog (look mw) F mx [.r,.r,.l,.b,.r,.r,.b] (sub [.r,.r,.r,.l,.r,.b,.i] (iu f83)) (itk Tryz.prog (look mw) F mx (sub [.r,.r,.r,.l,.r,.b,.i] (iu f83)) J n)
def yO (i:Int)(j:List iO)(k l m o p a:Int)(q:List Int)(b:List a6)(c:List bZ)(d:List bT)(e:List Int)(f:List a6)(g:List bZ)(h:List bT):= di 55 [(1,bp i),b0 6,b0 7,(20,hM 119 (nV) j),(21,bp k),(22,bp l)] [(6,[an m,an o,.own 1000000 none,.own 1000001 none,.own 1000002 none,.own 1000003 none]),(7,[an p,an a,.own 1000004 none,.own 1000005 none,.own 1000006 none,.own 1000007 none])] [ax 1000000 3 (.int .i64) q,ax 1000001 50 bD b,ax 1000002 102 eH c,ax 1000003 95 c8 d,ax 1000004 3 (.int .i64) e,ax 1000005 50 bD f,ax 1000006 102 eH g,ax 1000007 95 c8 h]
def R3 (i j k a:Int)(l:List Int)(b:List a6)(c:List bZ)(d:List bT)(e:List Int)(f:List a6)(g:List bZ)(h:List bT):= di 55 [b0 6,b0 7] [(6,[an i,an j,.own 1000000 none,.own 1000001 none,.own 1000002 none,.own 1000003 none]),(7,[an k,an a,.own 1000004 none,.own 1000005 none,.own 1000006 none,.own 1000007 none])] [ax 1000000 3 (.int .i64) l,ax 1000001 50 bD b,ax 1000002 102 eH c,ax 1000003 95 c8 d,ax 1000004 3 (.int .i64) e,ax 1000005 50 bD f,ax 1000006 102 eH g,ax 1000007 95 c8 h]
def G8 (a:St):Option U:=fp mw F mx [.r,.r,.r,.l,.r,.b,.i] f83 J n a
def yP:=gU mw F mx [.r,.r,.r,.l,.r,.b] f83 fG 2
def LG (l:Int)(m:List iO)(o p q a r s t d:Int)(c:List bT)(e:List Int)(f:List a6)(g:List bZ)(h:List bT)(i:List Int)(j:List a6)(k:List bZ)(b:List bT):rh F J (n+1) (lB l m o p q a r s t d c e f g h i j k b)=br (decide (a<q)) (ck (bN a (c.length:Int)) ((cV F0 b (ay c a c8.aq)).bind fun u=>br (!u.1) (br (decide ((b.length:Int)<300)) (ck (ee F b.length [(ay c a c8.aq)].length 32) (rh F J n (lB l m o p q (ai (a+1)) r s t d c e f g h i j k (b++[(ay c a c8.aq)])))) (rh F J n (lB l m o p q (ai (a+1)) r s t d c e f g h i j k b))) (rh F J n (lB l m o p q (ai (a+1)) r s t d c e f g h i j k b)))) (J (.exit 2) (R2 l m o p r s t d e f g h i j k b)):=by kernel_rfl
def LH (k:Int)(b:List iO)(l a m o p c:Int)(q:List Int)(d:List a6)(e:List bZ)(f:List bT)(g:List Int)(h:List a6)(i:List bZ)(j:List bT):G8 F J (n+1) (yO k b l a m o p c q d e f g h i j)=br (decide (a<l)) (ck (bN a (b.length:Int)) ((DQ F0 k (ay b a nV.aq).2).bind fun r=>rh F (Jn F J n) F.n (lB k b l a (r.1.length:Int) 0 m o p c r.1 q d e f g h i j))) (J (.exit 0) (R3 m o p c q d e f g h i j)):=by kernel_rfl
def aev (i:Int)(j:List iO)(k l m o p a:Int)(q:List Int)(b:List a6)(c:List bZ)(d:List bT)(e:List Int)(f:List a6)(g:List bZ)(h:List bT):Jn F J n (.exit 2) (R2 i j k l m o p a q b c d e f g h)=G8 F J n (yO i j k (ai (l+1)) m o p a q b c d e f g h):=by kernel_rfl
def aew (j k f a:Int)(l:List Int)(g:List a6)(h:List bZ)(i:List bT)(b:List Int)(c:List a6)(d:List bZ)(e:List bT):yP F (.exit 0) (R3 j k f a l g h i b c d e)=some (((f,a),b,c,d,e),()):=by kernel_rfl
def P6 (w:nx)(a:Int)(b:D23):=bh mw F mx f83 ayP fG 2 (w,a,b,())
def aoz (w:nx)(b:Int)(c:D23):P6 F w b c=(aM F0 w).bind fun a=>(ph F0 w).bind fun d=>(dh F0 d.1 b).bind fun e=>br (!e.1) (some (a.1,())) (G8 F (yP F) F.n (yO b c (c.length:Int) 0 0 0 a.1.1.1 a.1.1.2 [] [] [] [] a.1.2.1 a.1.2.2.1 a.1.2.2.2.1 a.1.2.2.2.2)):=by kernel_rfl
def UF:Any:=.one ⟨ayP,fG,2,fun x=>P6 F0 x.1 x.2.1 x.2.2.1⟩
def aoA:aX 83 UF:=aw mw ⟨yN,jT,eo,UD,gI,trivial⟩ func83 mx (by kernel_rfl)
def UG:=[(163,gG)]
def my (s:ByteArray):=bh UG F ab f164 dt kH 2 (s,())
def aix (s:ByteArray):my F s=(eD F0 (s.size:Int)).bind fun a=>ck (okB F a.1.length s.size) (some (a.1++bytesOf s,())):=by kernel_rfl
def ri:Any:=.one ⟨dt,kH,2,fun x=>my F0 x.1⟩
def E2:aX 164 ri:=aw UG ⟨lj,trivial⟩ func164 ab (by kernel_rfl)
def yQ:=[(163,gG)]
def yR:Nat->Option Hint:=look [(3,{live:=[3,6,7,8],mat:=[(3,5,.int .u8)],xl:=[3],rl:=[2]})]
def rj (a:List Int)(b c:Int)(d:List Int):= di 18 [(3,.v (.c (.own 1000000 none))),(6,hM 3 (.int .i64) a),(7,bp b),(8,bp c)] [] [ax 1000000 5 (.int .u8) d]
def LI (a:List Int):= di 18 [(3,.v (.c (.own 1000000 none)))] [] [ax 1000000 5 (.int .u8) a]
def yS (a:St):Option U:=fp yQ F yR [.r,.r,.l,.r,.b,.i] f166 J n a
def Bu:=gU yQ F yR [.r,.r,.l,.r,.b] f166 kH 2
def FT (b:List Int)(d a:Int)(c:List Int):yS F J (n+1) (rj b d a c)=br (decide (a<d)) (ck (bN a (b.length:Int)) ((eD F0 (ay b a 0)).bind fun e=>ck (ee F c.length e.1.length 1) (yS F J n (rj b d (ai (a+1)) (c++e.1))))) (J (.exit 0) (LI c)):=by kernel_rfl
def Zz (a:List Int):Bu F (.exit 0) (LI a)=some (a,()):=by kernel_rfl
def jV (a:List Int):=bh yQ F yR f166 iT kH 2 (a,())
def aiy (a:List Int):jV F a=yS F (Bu F) F.n (rj a (a.length:Int) 0 []):=by kernel_rfl
def rk:Any:=.one ⟨iT,kH,2,fun x=>jV F0 x.1⟩
def E3:aX 166 rk:=aw yQ ⟨lj,trivial⟩ func166 yR (by kernel_rfl)
def UH:=[(138,hX),(163,gG),(164,ri),(166,rk)]
def rm (c:D1)(q:D9):=bh UH F ab f165 Ff kH 2 (c,q,())
def aiz (c:D1)(q:D9):rm F c q=(la F0 c q).bind fun f=>br (!f.1) (some ([],())) ((eD F0 q.1).bind fun a=>(my F0 q.2.1).bind fun b=>ck (ee F a.1.length b.1.length 1) ((eD F0 (q.2.2.length:Int)).bind fun d=>ck (ee F (a.1++b.1).length d.1.length 1) ((jV F0 q.2.2).bind fun e=>ck (ee F ((a.1++b.1)++d.1).length e.1.length 1) (some (((a.1++b.1)++d.1)++e.1,()))))):=by kernel_rfl
def Bv:Any:=.one ⟨Ff,kH,2,fun x=>rm F0 x.1 x.2.1⟩
def R4:aX 165 Bv:=aw UH ⟨mf,lj,E2,E3,trivial⟩ func165 ab (by kernel_rfl)
def R5:=[(77,lh),(163,gG),(164,ri),(165,Bv),(166,rk)]
def sy (c:D1)(m:MO):=bh R5 F ab f90 af4 kH 2 (c,m,())
def aex (c:D1)(m:MO):sy F c m=(fx F0 c m).bind fun l=>br (!l.1) (some ([],())) ((eD F0 m.1).bind fun a=>br (m.1==1) ((my F0 m.2.2.1.1).bind fun e=>ck (ee F a.1.length e.1.length 1) ((rm F0 c m.2.2.1.2).bind fun h=>ck (ee F (a.1++e.1).length h.1.length 1) (some ((a.1++e.1)++h.1,())))) (br (m.1==2) ((eD F0 m.2.2.2.1.1).bind fun b=>ck (ee F a.1.length b.1.length 1) ((my F0 m.2.2.2.1.2.1).bind fun d=>ck (ee F (a.1++b.1).length d.1.length 1) ((eD F0 (m.2.2.2.1.2.2.length:Int)).bind fun f=>ck (ee F ((a.1++b.1)++d.1).length f.1.length 1) ((jV F0 m.2.2.2.1.2.2).bind fun i=>ck (ee F (((a.1++b.1)++d.1)++f.1).length i.1.length 1) (some ((((a.1++b.1)++d.1)++f.1)++i.1,())))))) (br (m.1==3) ((jV F0 [m.2.1,m.2.2.2.2.2.1]).bind fun g=>ck (ee F a.1.length g.1.length 1) ((rm F0 c m.2.2.2.2.1).bind fun j=>ck (ee F (a.1++g.1).length j.1.length 1) (some ((a.1++g.1)++j.1,())))) ((jV F0 [m.2.2.2.2.2.2.1,m.2.2.2.2.2.2.2.1,m.2.2.2.2.2.2.2.2.1,m.2.2.2.2.2.2.2.2.2]).bind fun k=>ck (ee F a.1.length k.1.length 1) (some (a.1++k.1,())))))):=by kernel_rfl
def yT:Any:=.one ⟨af4,kH,2,fun x=>sy F0 x.1 x.2.1⟩
def OJ:aX 90 yT:=aw R5 ⟨sq,lj,E2,R4,E3,trivial⟩ func90 ab (by kernel_rfl)
def LJ:=[(28,ly),(32,fz),(42,bn),(90,yT)]
def LK:Nat->Option Hint:=look [(5,{live:=[2,4,5,15,16,17],vW:=[(4,2,3,.int .i64),(4,3,50,bD),(4,4,102,eH),(4,5,95,c8)],xl:=[4,5],rl:=[4]})]
def kc (o:List iO)(p q w a:Int)(b:List Int)(c:List a6)(d:List bZ)(e:List bT)(r s t f:Int)(u:List Int)(g:List a6)(h:List bZ)(i:List bT)(j:List Int)(k:List a6)(l:List bZ)(m:List bT):= di 55 [b0 2,b0 4,b0 5,(15,hM 119 (nV) o),(16,bp p),(17,bp q)] [(2,[an w,an a,.ro false 3 (.int .i64) b,.ro false 50 (bD) c,.ro false 102 (eH) d,.ro false 95 (c8) e]),(4,[an r,an s,.own 1000000 none,.own 1000001 none,.own 1000002 none,.own 1000003 none]),(5,[an t,an f,.own 1000004 none,.own 1000005 none,.own 1000006 none,.own 1000007 none])] [ax 1000000 3 (.int .i64) u,ax 1000001 50 bD g,ax 1000002 102 eH h,ax 1000003 95 c8 i,ax 1000004 3 (.int .i64) j,ax 1000005 50 bD k,ax 1000006 102 eH l,ax 1000007 95 c8 m]
def UI (i j k a:Int)(l:List Int)(b:List a6)(c:List bZ)(d:List bT)(e:List Int)(f:List a6)(g:List bZ)(h:List bT):= di 55 [b0 4,b0 5] [(4,[an i,an j,.own 1000000 none,.own 1000001 none,.own 1000002 none,.own 1000003 none]),(5,[an k,an a,.own 1000004 none,.own 1000005 none,.own 1000006 none,.own 1000007 none])] [ax 1000000 3 (.int .i64) l,ax 1000001 50 bD b,ax 1000002 102 eH c,ax 1000003 95 c8 d,ax 1000004 3 (.int .i64) e,ax 1000005 50 bD f,ax 1000006 102 eH g,ax 1000007 95 c8 h]
def pj (a:St):Option U:=fp LJ F LK [.r,.r,.r,.l,.r,.b,.i] f86 J n a
def MV:=gU LJ F LK [.r,.r,.r,.l,.r,.b] f86 fG 2
def OK (b:List iO)(l a w d:Int)(r:List Int)(s:List a6)(t:List bZ)(u:List bT)(m o p e:Int)(q:List Int)(f:List a6)(g:List bZ)(h:List bT)(i:List Int)(j:List a6)(c:List bZ)(k:List bT):pj F J (n+1) (kc b l a w d r s t u m o p e q f g h i j c k)=br (decide (a<l)) (ck (bN a (b.length:Int)) ((sy F0 (w,d) (ay b a nV.aq).2).bind fun v=>br (decide ((v.1.length:Int)>0)) ((aU F0 (ay b a nV.aq).1 0 (ai (w-1))).bind fun x=>br x.1 (br (decide ((c.length:Int)<60)) (ck (ee F c.length [((ay b a nV.aq).1,v.1)].length 32) (pj F J n (kc b l (ai (a+1)) w d r s t u m o p e q f g h i j (c++[((ay b a nV.aq).1,v.1)]) k))) (pj F J n (kc b l (ai (a+1)) w d r s t u m o p e q f g h i j c k))) (pj F J n (kc b l (ai (a+1)) w d r s t u m o p e q f g h i j c k))) (pj F J n (kc b l (ai (a+1)) w d r s t u m o p e q f g h i j c k)))) (J (.exit 0) (UI m o p e q f g h i j c k)):=by kernel_rfl
def aiA (j k f a:Int)(l:List Int)(g:List a6)(h:List bZ)(i:List bT)(b:List Int)(c:List a6)(d:List bZ)(e:List bT):MV F (.exit 0) (UI j k f a l g h i b c d e)=some (((f,a),b,c,d,e),()):=by kernel_rfl
def OL (w:nx)(a:D23):=bh LJ F LK f86 ayM fG 2 (w,a,())
def ar4 (w:nx)(b:D23):OL F w b=(aM F0 w).bind fun a=>(cY F0 w).bind fun c=>br (!c.1) (some (a.1,())) (pj F (MV F) F.n (kc b (b.length:Int) 0 w.1.1 w.1.2 w.2.1 w.2.2.1 w.2.2.2.1 w.2.2.2.2 0 0 a.1.1.1 a.1.1.2 [] [] [] [] a.1.2.1 a.1.2.2.1 a.1.2.2.2.1 a.1.2.2.2.2)):=by kernel_rfl
def Yg:Any:=.one ⟨ayM,fG,2,fun x=>OL F0 x.1 x.2.1⟩
def ar5:aX 86 Yg:=aw LJ ⟨tZ,jT,bQ,OJ,trivial⟩ func86 LK (by kernel_rfl)
end
end Go.Am.Tryz
