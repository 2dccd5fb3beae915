/- No condition. -/
import Derived.Test.YtnllfndlcahalaaGreatDoorQfWJG4
set_option linter.all false
set_option maxRecDepth 100000
namespace Go.Am.Tryz
open Go.Am Go.Proofs Go.Proofs.Tryz
noncomputable section
variable {U:Type} (F:rH) (J:Ex->St->Option U) (n:Nat)
def Ub:=[(115,lC)]
def Er (a b:D9):=bm Ub F ad f251 wX aP 1 (a,b,())
def ahB (a b:D9):Er F a b=br (a.1==b.1) (br (a.2.1.toList==b.2.1.toList) ((gV F0 a.2.2 b.2.2).bind fun c=>some (c.1,())) (some (false,()))) (some (false,())):=by kernel_rfl
def Nz:Any:=.one ⟨wX,aP,1,fun x=>Er F0 x.1 x.2.1⟩
def ahC:a8 251 Nz:=aq Ub ⟨w8,trivial⟩ func251 ad (by kernel_rfl)
def W4:=[(55,kz),(250,Lf),(251,Nz)]
def IW (a b:OZ):=bm W4 F ad f192 aDm aP 1 (a,b,())
def alN (a b:OZ):IW F a b=br (a.1==b.1) (br (a.2.1==b.2.1) ((AE F0 a.2.2.1 b.2.2.1).bind fun c=>br c.1 ((Er F0 a.2.2.2.1 b.2.2.2.1).bind fun d=>br d.1 ((jx F0 a.2.2.2.2.1 b.2.2.2.2.1).bind fun e=>br e.1 (br (a.2.2.2.2.2.1==b.2.2.2.2.2.1) (some ((a.2.2.2.2.2.2.1==b.2.2.2.2.2.2.1)&&((a.2.2.2.2.2.2.2.1==b.2.2.2.2.2.2.2.1)&&((a.2.2.2.2.2.2.2.2.1==b.2.2.2.2.2.2.2.2.1)&&((a.2.2.2.2.2.2.2.2.2==b.2.2.2.2.2.2.2.2.2)&&true))),())) (some (false,()))) (some (false,()))) (some (false,()))) (some (false,()))) (some (false,()))) (some (false,())):=by kernel_rfl
def QE:Any:=.one ⟨aDm,aP,1,fun x=>IW F0 x.1 x.2.1⟩
def alO:a8 192 QE:=aq W4 ⟨q4,aeI,ahC,trivial⟩ func192 ad (by kernel_rfl)
def et:Nat->Option Hint:=look [(2,{live:=[0,1,5],rl:=[4]})]
def dG (s:ByteArray)(c i:Int):= bU 19 [(0,Z0 s),(1,.v (.c (.int .u8 c))),(5,bb i)]
def lK (a:Int):= bU 19 [(4,bb a)]
def AF   := bU 19 []
def eu (a:St):Option U:=fe aB F et [.r,.l,.r,.b,.i] f244 J n a
def fT:=hH aB F et [.r,.l,.r,.b] f244 cF 1
def jY (s:ByteArray)(c i:Int):eu F J (n+1) (dG s c i)=br (decide (i>=0)) (ck (bE i (s.size:Int)) (br ((jO s i)==c) (J .ret (lK i)) (eu F J n (dG s c (aj (i-1)))))) (J (.exit 0) (AF)):=by kernel_rfl
def AG (a:Int):fT F .ret (lK a)=some (a,()):=by kernel_rfl
def iS (s:ByteArray)(c:Int):=bm aB F et f244 Z3 cF 1 (s,c,())
def CL (s:ByteArray)(c:Int):iS F s c=eu F (fT F) F.n (dG s c (aj ((s.size:Int)-1))):=by kernel_rfl
def lL:Any:=.one ⟨Z3,cF,1,fun x=>iS F0 x.1 x.2.1⟩
def CM:a8 244 lL:=aq aB trivial func244 et (by kernel_rfl)
def xt:=[(244,lL)]
def pc (s:ByteArray)(c:Int):=bm xt F ad f183 Z3 cF 1 (s,c,())
def O4 (s:ByteArray)(c:Int):pc F s c=(iS F0 s c).bind fun a=>some (a.1,()):=by kernel_rfl
def ti:Any:=.one ⟨Z3,cF,1,fun x=>pc F0 x.1 x.2.1⟩
def O5:a8 183 ti:=aq xt ⟨CM,trivial⟩ func183 ad (by kernel_rfl)
def ajP:=[(60,eP),(183,ti)]
def sv (s:ByteArray):=bm ajP F ad f108 dC dC 1 (s,())
def av8 (s:ByteArray):sv F s=(e5 F0 s).bind fun b=>br (!b.1) (some (ak,())) (br (s.toList==ak.toList) (some (ak,())) ((pc F0 s 47).bind fun a=>ck (RZ 0 a.1 (s.size:Int)) (some (s.extract (0:Int).toNat a.1.toNat,())))):=by kernel_rfl
def Es:Any:=.one ⟨dC,dC,1,fun x=>sv F0 x.1⟩
def Sf:a8 108 Es:=aq ajP ⟨gW,O5,trivial⟩ func108 ad (by kernel_rfl)
def W5:=[(60,eP),(107,jz),(108,Es)]
def nL (c:D1)(b:D15):=bm W5 F ad f48 aDn aP 1 (c,b,())
def alP (c:D1)(b:D15):nL F c b=(mz F0 c b.2).bind fun a=>br a.1 (br (!(b.1.toList==ak.toList)) ((e5 F0 b.1).bind fun d=>br d.1 ((sv F0 b.1).bind fun e=>some (e.1.toList==b.2.2.1.toList,())) (some (false,()))) (some (false,()))) (some (false,())):=by kernel_rfl
def mB:Any:=.one ⟨aDn,aP,1,fun x=>nL F0 x.1 x.2.1⟩
def vx:a8 48 mB:=aq W5 ⟨gW,nJ,Sf,trivial⟩ func48 ad (by kernel_rfl)
def aeJ:=[(30,cO),(41,bA),(48,mB),(104,jy),(107,jz),(190,oC),(192,QE),(193,W3)]
def gd (c:D1)(m:OZ):=bm aeJ F ad f119 ajt aP 1 (c,m,())
def asr (c:D1)(m:OZ):gd F c m=(ep F0 c).bind fun a=>br (!a.1) (some (false,())) ((Se F0 m).bind fun b=>(IW F0 m b.1).bind fun d=>br (!d.1) (some (false,())) (br (m.1==1) ((nL F0 c m.2.2.1).bind fun e=>some (e.1,())) (br (m.1==2) ((q9 F0 c m.2.2.2.1).bind fun f=>br f.1 (some (!(m.2.2.2.1.2.1.toList==ak.toList),())) (some (false,()))) (br (m.1==3) ((aZ F0 m.2.1 1 60).bind fun g=>br g.1 ((mz F0 c m.2.2.2.2.1).bind fun h=>br h.1 ((aZ F0 m.2.2.2.2.2.1 0 (aj (c.1-1))).bind fun i=>some (i.1,())) (some (false,()))) (some (false,()))) (br (m.1==4) ((oY F0 m.2.2.2.2.2.2).bind fun j=>some (j.1,())) (some (false,()))))))):=by kernel_rfl
def mC:Any:=.one ⟨ajt,aP,1,fun x=>gd F0 x.1 x.2.1⟩
def tX:a8 119 mC:=aq aeJ ⟨dP,bW,vx,nI,nJ,Ay,alO,asq,trivial⟩ func119 ad (by kernel_rfl)
def IX:=[(30,cO),(41,bA),(50,kB),(116,GI),(117,CK),(118,oD),(119,mC)]
def IY:Nat->Option Hint:=look [(4,{live:=[2,3,64,65,66],rl:=[4]})]
def AH (q:List lv)(s t c a r b d e f g:Int)(h:ByteArray)(i:List Int)(j:ByteArray)(k:List D4)(l:List D9)(m:List Int)(o:Int)(p:List lv):= cR 92 [b1 2,b1 3,(64,ia 136 (pY) q),(65,bb s),(66,bb t)] [(2,[ao c,ao a]),(3,[ao r,ao b,ao d,ao e,ao f,ao g,.str h,.ro false 3 (.int .i64) i,.str j,.ro false 52 (K4) k,.ro false 50 (K9) l,.ro false 5 (.int .u8) m,ao o,.ro false 136 (pY) p])] []
def AI (a:Bool):= bU 92 [(4,JH a)]
def Uc   := bU 92 []
def IZ (a:St):Option U:=fe IX F IY [.r,.r,.l,.r,.b,.i] f58 J n a
def AJ:=hH IX F IY [.r,.r,.l,.r,.b] f58 aP 1
def NA (b:List lv)(e a c d r f g h i j:Int)(k:ByteArray)(l:List Int)(m:ByteArray)(o:List D4)(p:List D9)(q:List Int)(s:Int)(t:List lv):IZ F J (n+1) (AH b e a c d r f g h i j k l m o p q s t)=br (decide (a<e)) (ck (bE a (b.length:Int)) ((gd F0 (c,d) (aH b a pY.aC).2).bind fun u=>br (!u.1) (J .ret (AI false)) ((aZ F0 (aH b a pY.aC).1 0 (aj (c-1))).bind fun v=>br (!v.1) (J .ret (AI false)) (br ((aH b a pY.aC).1==r) (J .ret (AI false)) (IZ F J n (AH b e (aj (a+1)) c d r f g h i j k l m o p q s t)))))) (J (.exit 0) (Uc)):=by kernel_rfl
def alQ (a:Bool):AJ F .ret (AI a)=some (a,()):=by kernel_rfl
def ahD: AJ F (.exit 0) (Uc)=some (true,()):=by kernel_rfl
def cp (c:D1)(r:a7):=bm IX F IY f58 x4 aP 1 (c,r,())
def ass (c:D1)(r:a7):cp F c r=(ep F0 c).bind fun a=>br (!a.1) (some (false,())) ((aZ F0 r.1 0 (aj (c.1-1))).bind fun b=>br (!b.1) (some (false,())) ((aZ F0 r.2.1 1 60).bind fun d=>br (!d.1) (some (false,())) ((aZ F0 r.2.2.1 0 60).bind fun e=>br (!e.1) (some (false,())) ((kY F0 c r.2.2.2.1).bind fun f=>br (!f.1) (some (false,())) ((w9 F0 r.2.2.2.2.1).bind fun g=>br (!g.1) (some (false,())) ((kZ F0 c r.2.2.2.2.2.1).bind fun h=>br (!h.1) (some (false,())) ((rb F0 r.2.2.2.2.2.2.1).bind fun i=>br (!i.1) (some (false,())) (br (decide ((r.2.2.2.2.2.2.2.length:Int)>30)) (some (false,())) (IZ F (AJ F) F.n (AH r.2.2.2.2.2.2.2 (r.2.2.2.2.2.2.2.length:Int) 0 c.1 c.2 r.1 r.2.1 r.2.2.1 r.2.2.2.1.1 r.2.2.2.1.2.1 r.2.2.2.1.2.2.1.1 r.2.2.2.1.2.2.1.2.1 r.2.2.2.1.2.2.1.2.2 r.2.2.2.1.2.2.2 r.2.2.2.2.1 r.2.2.2.2.2.1 r.2.2.2.2.2.2.1.1 r.2.2.2.2.2.2.1.2 r.2.2.2.2.2.2.2)))))))))):=by kernel_rfl
def b2:Any:=.one ⟨x4,aP,1,fun x=>cp F0 x.1 x.2.1⟩
def ct:a8 58 b2:=aq IX ⟨dP,bW,q8,W2,Ua,AD,tX,trivial⟩ func58 IY (by kernel_rfl)
def aa0:=[(58,b2)]
def NB (c:D1)(a:Int):=bm aa0 F ad f31 aju gB 2 (c,a,())
def ape (c:D1)(a:Int):NB F c a=(cp F0 c (a,1,0,(0,0,(0,ak,[]),ak),[],[],([],0),[])).bind fun b=>br (!b.1) (some ((0,0,0,(0,0,(0,ak,[]),ak),[],[],([],0),[]),false,())) (some ((a,1,0,(0,0,(0,ak,[]),ak),[],[],([],0),[]),true,())):=by kernel_rfl
def Ud:Any:=.one ⟨aju,gB,2,fun x=>NB F0 x.1 x.2.1⟩
def apf:a8 31 Ud:=aq aa0 ⟨ct,trivial⟩ func31 ad (by kernel_rfl)
def Et:=[(41,bA)]
def Eu:Nat->Option Hint:=look [(4,{live:=[0,3],mat:=[(3,5,.int .u8)],xl:=[0,3],rl:=[2]})]
def oE (a:Int)(b:List Int):= cR 23 [(0,bb a),(3,.v (.c (.own 1000000 none)))] [] [az 1000000 5 (.int .u8) b]
def QF (a:Int)(b:List Int):= cR 23 [(0,bb a),(3,.v (.c (.own 1000000 none)))] [] [az 1000000 5 (.int .u8) b]
def tY (a:St):Option U:=fe Et F Eu [.r,.r,.r,.l,.b,.i] f170 J n a
def vy:=hH Et F Eu [.r,.r,.r,.l,.b] f170 l1 2
def nM (a:Int)(b:List Int):tY F J (n+1) (oE a b)=br (decide (a>=128)) (ck (en F b.length [IntKind.wrap .u8 (aj ((Int.tmod a 128)+128))].length 1) (tY F J n (oE (aj (Int.tdiv a 128)) (b++[IntKind.wrap .u8 (aj ((Int.tmod a 128)+128))])))) (J (.exit 0) (QF a b)):=by kernel_rfl
def pH (a:Int)(b:List Int):vy F (.exit 0) (QF a b)=ck (en F b.length [IntKind.wrap .u8 (a)].length 1) (some (b++[IntKind.wrap .u8 (a)],())):=by kernel_rfl
def e6 (a:Int):=bm Et F Eu f170 cF l1 2 (a,())
def W6 (a:Int):e6 F a=(aZ F0 a 0 2147483647).bind fun b=>br (!b.1) (some ([],())) (tY F (vy F) F.n (oE a [])):=by kernel_rfl
def ik:Any:=.one ⟨cF,l1,2,fun x=>e6 F0 x.1⟩
def mD:a8 170 ik:=aq Et ⟨bW,trivial⟩ func170 Eu (by kernel_rfl)
def Ev:=[(41,bA),(170,ik)]
def Ew:Nat->Option Hint:=look [(5,{live:=[0,1,7,8],rl:=[4,5,6]})]
def vz (b:List Int)(a c i:Int):= bU 55 [(0,ia 5 (.int .u8) b),(1,bb a),(7,bb c),(8,bb i)]
def GJ (a b:Int)(c:Bool):= bU 55 [(4,bb a),(5,bb b),(6,JH c)]
def CN   := bU 55 []
def Ey (a:St):Option U:=fe Ev F Ew [.r,.r,.r,.l,.r,.b,.i] f111 J n a
def vA:=hH Ev F Ew [.r,.r,.r,.l,.r,.b] f111 atC 1
def Lg (b:List Int)(a c i:Int):Ey F J (n+1) (vz b a c i)=br (decide (i<5)) (br (decide ((aj (a+i))<(b.length:Int))) (ck (bE (aj (a+i)) (b.length:Int)) (ck (decide (0<=(aj (7*i)))) (br (decide ((aj (aH b (aj (a+i)) 0))<128)) ((e6 F0 (aj (c+(aj ((Int.tmod (aj (aH b (aj (a+i)) 0)) 128)*2 ^ (min (aj (7*i)).toNat 64)))))).bind fun d=>br ((d.1.length:Int) != (aj (i+1))) (J .ret (GJ 0 0 false)) (J .ret (GJ (aj (c+(aj ((Int.tmod (aj (aH b (aj (a+i)) 0)) 128)*2 ^ (min (aj (7*i)).toNat 64))))) (aj ((aj (a+i))+1)) true))) (Ey F J n (vz b a (aj (c+(aj ((Int.tmod (aj (aH b (aj (a+i)) 0)) 128)*2 ^ (min (aj (7*i)).toNat 64))))) (aj (i+1))))))) (J (.exit 0) (CN))) (J (.exit 0) (CN)):=by kernel_rfl
def QG (a b:Int)(c:Bool):vA F .ret (GJ a b c)=some (a,b,c,()):=by kernel_rfl
def NC: vA F (.exit 0) (CN)=some (0,0,false,()):=by kernel_rfl
def xx (b:List Int)(a:Int):=bm Ev F Ew f111 aal atC 1 (b,a,())
def apg (b:List Int)(a:Int):xx F b a=(aZ F0 a 0 (aj ((b.length:Int)-1))).bind fun c=>br (!c.1) (some (0,0,false,())) (Ey F (vA F) F.n (vz b a 0 0)):=by kernel_rfl
def GK:Any:=.one ⟨aal,atC,1,fun x=>xx F0 x.1 x.2.1⟩
def W7:a8 111 GK:=aq Ev ⟨bW,mD,trivial⟩ func111 Ew (by kernel_rfl)
def ND:=[(111,GK)]
def bI (r:D32):=Fa ND F ad f112 hK 0 .cur cF hK 1 (r,())
def acr (r:D32):bI F r=(xx F0 r.1 r.2.1).bind fun a=>br r.2.2 (some ((0,()),(r.1,r.2.1,true),())) (br (!a.2.2.1) (some ((0,()),(r.1,r.2.1,true),())) (some ((a.1,()),(r.1,a.2.1,r.2.2),()))):=by kernel_rfl
def iB:Any:=.two ⟨hK,0,.cur,cF,1,hK,fun x=>bI F0 x.1⟩
def nN:a8 112 iB:=V0 ND ⟨W7,trivial⟩ func112 ad (by kernel_rfl)
def W8:=[(111,GK)]
def nO (b:List Int)(a:Int):=bm W8 F ad f53 aal aDo 1 (b,a,())
def alR (b:List Int)(c:Int):nO F b c=(xx F0 b c).bind fun a=>br (!a.2.2.1) (some (ak,0,false,())) (br (decide (a.1>(aj ((b.length:Int)-a.2.1)))) (some (ak,0,false,())) (ck (RZ a.2.1 (aj (a.2.1+a.1)) (b.length:Int)) (some (strOf ((b.take (aj (a.2.1+a.1)).toNat).drop a.2.1.toNat),aj (a.2.1+a.1),true,())))):=by kernel_rfl
def CO:Any:=.one ⟨aal,aDo,1,fun x=>nO F0 x.1 x.2.1⟩
def Ue:a8 53 CO:=aq W8 ⟨W7,trivial⟩ func53 ad (by kernel_rfl)
def Lh:=[(53,CO)]
def gf (r:D32):=Fa Lh F ad f114 hK 0 .cur dC hK 1 (r,())
def Zs (r:D32):gf F r=(nO F0 r.1 r.2.1).bind fun a=>br r.2.2 (some ((ak,()),(r.1,r.2.1,true),())) (br (!a.2.2.1) (some ((ak,()),(r.1,r.2.1,true),())) (some ((a.1,()),(r.1,a.2.1,r.2.2),()))):=by kernel_rfl
def k0:Any:=.two ⟨hK,0,.cur,dC,1,hK,fun x=>gf F0 x.1⟩
def tB:a8 114 k0:=V0 Lh ⟨Ue,trivial⟩ func114 ad (by kernel_rfl)
def nP:=[(112,iB)]
def nQ:Nat->Option Hint:=look [(4,{live:=[0,3,4,5],mat:=[(3,3,.int .i64)],xl:=[3],rl:=[2]})]
def k1 (d i:Int)(a:List Int)(b:Int)(c:Bool)(e:List Int):St:={nt:=26,tm:=[(0,.v (.c (.ptr 4000000 0))),(3,.v (.c (.own 1000000 none))),(4,bb d),(5,bb i)],bx:=[(4000000,[.ro true 5 (.int .u8) a,ao b,.bool c])],bl:=[az 1000000 3 (.int .i64) e],sp:=.v (.c (.ptr 4000000 0))}
def kc (a:List Int)(b:Int)(c:Bool)(d:List Int):St:={nt:=26,tm:=[(3,.v (.c (.own 1000000 none)))],bx:=[(4000000,[.ro true 5 (.int .u8) a,ao b,.bool c])],bl:=[az 1000000 3 (.int .i64) d],sp:=.v (.c (.ptr 4000000 0))}
def nR (a:St):Option U:=fe nP F nQ [.r,.r,.r,.l,.r,.b,.i] f120 J n a
def re:=ayn nP F nQ [.r,.r,.r,.l,.r,.b] f120 .cur ko hK 2
def xJ (f i:Int)(d:List Int)(e:Int)(a:Bool)(c:List Int):nR F J (n+1) (k1 f i d e a c)=br (decide (i<f)) (br (!a) ((bI F0 (d,e,a)).bind fun b=>ck (en F c.length [b.1.1].length 8) (nR F J n (k1 f (aj (i+1)) b.2.1.1 b.2.1.2.1 b.2.1.2.2 (c++[b.1.1])))) (J (.exit 0) (kc d e a c))) (J (.exit 0) (kc d e a c)):=by kernel_rfl
def Sg (a:List Int)(b:Int)(c:Bool)(d:List Int):re F (.exit 0) (kc a b c d)=some ((d,()),(a,b,c),()):=by kernel_rfl
def mE (r:D32):=Fa nP F nQ f120 hK 0 .cur ko hK 2 (r,())
def Zt (r:D32):mE F r=(bI F0 r).bind fun a=>nR F (re F) F.n (k1 a.1.1 0 a.2.1.1 a.2.1.2.1 a.2.1.2.2 []):=by kernel_rfl
def rf:Any:=.two ⟨hK,0,.cur,ko,2,hK,fun x=>mE F0 x.1⟩
def Hw:a8 120 rf:=V0 nP ⟨nN,trivial⟩ func120 nQ (by kernel_rfl)
def QH:=[(112,iB),(114,k0),(120,rf)]
def mF (r:D32):=Fa QH F ad f113 hK 0 .cur gv hK 2 (r,())
def aeK (r:D32):mF F r=(bI F0 r).bind fun a=>(gf F0 a.2.1).bind fun b=>(mE F0 b.2.1).bind fun c=>some (((a.1.1,b.1.1,c.1.1),()),c.2.1,()):=by kernel_rfl
def wx:Any:=.two ⟨hK,0,.cur,gv,2,hK,fun x=>mF F0 x.1⟩
def NF:a8 113 wx:=V0 QH ⟨nN,tB,Hw,trivial⟩ func113 ad (by kernel_rfl)
def aeL:=[(112,iB),(113,wx),(114,k0),(119,mC),(120,rf)]
def CP (c:D1)(b:List Int):=bm aeL F ad f59 Tl aDp 2 (c,b,())
def ast (c:D1)(b:List Int):CP F c b=(bI F0 (b,0,false)).bind fun a=>br (a.1.1==1) ((gf F0 a.2.1).bind fun i=>(mF F0 i.2.1).bind fun e=>br e.2.1.2.2 (some ((0,0,(ak,0,ak,[]),(0,ak,[]),(0,ak,[]),0,0,0,0,0),false,())) (br (e.2.1.2.1 != (b.length:Int)) (some ((0,0,(ak,0,ak,[]),(0,ak,[]),(0,ak,[]),0,0,0,0,0),false,())) ((gd F0 c (a.1.1,0,(i.1.1,e.1.1),(0,ak,[]),(0,ak,[]),0,0,0,0,0)).bind fun d=>br (!d.1) (some ((0,0,(ak,0,ak,[]),(0,ak,[]),(0,ak,[]),0,0,0,0,0),false,())) (some ((a.1.1,0,(i.1.1,e.1.1),(0,ak,[]),(0,ak,[]),0,0,0,0,0),true,()))))) (br (a.1.1==2) ((bI F0 a.2.1).bind fun j=>(gf F0 j.2.1).bind fun k=>(mE F0 k.2.1).bind fun f=>br f.2.1.2.2 (some ((0,0,(ak,0,ak,[]),(0,ak,[]),(0,ak,[]),0,0,0,0,0),false,())) (br (f.2.1.2.1 != (b.length:Int)) (some ((0,0,(ak,0,ak,[]),(0,ak,[]),(0,ak,[]),0,0,0,0,0),false,())) ((gd F0 c (a.1.1,0,(ak,0,ak,[]),(j.1.1,k.1.1,f.1.1),(0,ak,[]),0,0,0,0,0)).bind fun d=>br (!d.1) (some ((0,0,(ak,0,ak,[]),(0,ak,[]),(0,ak,[]),0,0,0,0,0),false,())) (some ((a.1.1,0,(ak,0,ak,[]),(j.1.1,k.1.1,f.1.1),(0,ak,[]),0,0,0,0,0),true,()))))) (br (a.1.1==3) ((bI F0 a.2.1).bind fun l=>(bI F0 l.2.1).bind fun m=>(mF F0 m.2.1).bind fun g=>br g.2.1.2.2 (some ((0,0,(ak,0,ak,[]),(0,ak,[]),(0,ak,[]),0,0,0,0,0),false,())) (br (g.2.1.2.1 != (b.length:Int)) (some ((0,0,(ak,0,ak,[]),(0,ak,[]),(0,ak,[]),0,0,0,0,0),false,())) ((gd F0 c (a.1.1,l.1.1,(ak,0,ak,[]),(0,ak,[]),g.1.1,m.1.1,0,0,0,0)).bind fun d=>br (!d.1) (some ((0,0,(ak,0,ak,[]),(0,ak,[]),(0,ak,[]),0,0,0,0,0),false,())) (some ((a.1.1,l.1.1,(ak,0,ak,[]),(0,ak,[]),g.1.1,m.1.1,0,0,0,0),true,()))))) (br (a.1.1==4) ((bI F0 a.2.1).bind fun o=>(bI F0 o.2.1).bind fun p=>(bI F0 p.2.1).bind fun q=>(bI F0 q.2.1).bind fun h=>br h.2.1.2.2 (some ((0,0,(ak,0,ak,[]),(0,ak,[]),(0,ak,[]),0,0,0,0,0),false,())) (br (h.2.1.2.1 != (b.length:Int)) (some ((0,0,(ak,0,ak,[]),(0,ak,[]),(0,ak,[]),0,0,0,0,0),false,())) ((gd F0 c (a.1.1,0,(ak,0,ak,[]),(0,ak,[]),(0,ak,[]),0,o.1.1,p.1.1,q.1.1,h.1.1)).bind fun d=>br (!d.1) (some ((0,0,(ak,0,ak,[]),(0,ak,[]),(0,ak,[]),0,0,0,0,0),false,())) (some ((a.1.1,0,(ak,0,ak,[]),(0,ak,[]),(0,ak,[]),0,o.1.1,p.1.1,q.1.1,h.1.1),true,()))))) (br a.2.1.2.2 (some ((0,0,(ak,0,ak,[]),(0,ak,[]),(0,ak,[]),0,0,0,0,0),false,())) (br (a.2.1.2.1 != (b.length:Int)) (some ((0,0,(ak,0,ak,[]),(0,ak,[]),(0,ak,[]),0,0,0,0,0),false,())) ((gd F0 c (a.1.1,0,(ak,0,ak,[]),(0,ak,[]),(0,ak,[]),0,0,0,0,0)).bind fun d=>br (!d.1) (some ((0,0,(ak,0,ak,[]),(0,ak,[]),(0,ak,[]),0,0,0,0,0),false,())) (some ((a.1.1,0,(ak,0,ak,[]),(0,ak,[]),(0,ak,[]),0,0,0,0,0),true,())))))))):=by kernel_rfl
def AK:Any:=.one ⟨Tl,aDp,2,fun x=>CP F0 x.1 x.2.1⟩
def O6:a8 59 AK:=aq aeL ⟨nN,NF,tB,tX,Hw,trivial⟩ func59 ad (by kernel_rfl)
def gX:=[(30,cO),(41,bA),(49,ea),(56,Ax),(57,GF),(58,b2),(59,AK),(60,eP)]
def gY:Nat->Option Hint:=look [(5,{live:=[1,3,54,55,56],xl:=[1,3],rl:=[2]}),(11,{live:=[1,3,73,74,75],xl:=[1,3],rl:=[2]}),(18,{live:=[3,99,100,101],rl:=[2]})]
def mG (b:List bF)(d e c a:Int):= cR 127 [b1 3,(99,ia 41 (cz) b),(100,bb d),(101,bb e)] [(3,[ao c,ao a])] []
def sw (a:Bool):= bU 127 [(2,JH a)]
def NG   := bU 127 []
def rh (a:St):Option U:=fe gX F gY [.r,.r,.r,.r,.r,.l,.r,.b,.i] f20 J n a
def mH:=hH gX F gY [.r,.r,.r,.r,.r,.l,.r,.b] f20 aP 1
def mI (h:List bS)(i j w a:Int)(b:List Int)(d:List a7)(e:List bS)(f:List bF)(c g:Int):= cR 127 [b1 1,b1 3,(73,ia 105 (ek) h),(74,bb i),(75,bb j)] [(1,[ao w,ao a,.ro false 3 (.int .i64) b,.ro false 65 (b8) d,.ro false 105 (ek) e,.ro false 41 (cz) f]),(3,[ao c,ao g])] []
def CQ (a:Bool):= bU 127 [(2,JH a)]
def NH (w a:Int)(b:List Int)(d:List a7)(e:List bS)(f:List bF)(c g:Int):= cR 127 [b1 1,b1 3] [(1,[ao w,ao a,.ro false 3 (.int .i64) b,.ro false 65 (b8) d,.ro false 105 (ek) e,.ro false 41 (cz) f]),(3,[ao c,ao g])] []
def ri (a:St):Option U:=fe gX F gY [.r,.r,.r,.r,.l,.r,.b,.i] f20 J n a
def mJ:=hH gX F gY [.r,.r,.r,.r,.l,.r,.b] f20 aP 1
def mK (h:List a7)(i j w a:Int)(b:List Int)(d:List a7)(e:List bS)(f:List bF)(c g:Int):= cR 127 [b1 1,b1 3,(54,ia 65 (b8) h),(55,bb i),(56,bb j)] [(1,[ao w,ao a,.ro false 3 (.int .i64) b,.ro false 65 (b8) d,.ro false 105 (ek) e,.ro false 41 (cz) f]),(3,[ao c,ao g])] []
def CR (a:Bool):= bU 127 [(2,JH a)]
def NI (w a:Int)(b:List Int)(d:List a7)(e:List bS)(f:List bF)(c g:Int):= cR 127 [b1 1,b1 3] [(1,[ao w,ao a,.ro false 3 (.int .i64) b,.ro false 65 (b8) d,.ro false 105 (ek) e,.ro false 41 (cz) f]),(3,[ao c,ao g])] []
def rj (a:St):Option U:=fe gX F gY [.r,.r,.r,.l,.r,.b,.i] f20 J n a
def mL:=hH gX F gY [.r,.r,.r,.l,.r,.b] f20 aP 1
def Hy (b:List bF)(d a c e:Int):rh F J (n+1) (mG b d a c e)=br (decide (a<d)) (ck (bE a (b.length:Int)) ((aZ F0 (aH b a cz.aC).2.2 0 (aj (c-1))).bind fun f=>br (!f.1) (J .ret (sw false)) ((e5 F0 (aH b a cz.aC).2.1).bind fun g=>br (!g.1) (J .ret (sw false)) ((er F0 (aH b a cz.aC).2.1).bind fun h=>br (h.1 != (aH b a cz.aC).1) (J .ret (sw false)) (rh F J n (mG b d (aj (a+1)) c e)))))) (J (.exit 4) (NG)):=by kernel_rfl
def Hz (b:List bS)(j a w e:Int)(f:List Int)(g:List a7)(h:List bS)(i:List bF)(c d:Int):ri F J (n+1) (mI b j a w e f g h i c d)=br (decide (a<j)) (ck (bE a (b.length:Int)) ((CP F0 (c,d) (aH b a (0,[])).2).bind fun k=>br (!k.2.1) (J .ret (CQ false)) ((aZ F0 (aH b a (0,[])).1 0 (aj (c-1))).bind fun l=>br (!l.1) (J .ret (CQ false)) (ri F J n (mI b j (aj (a+1)) w e f g h i c d))))) (J (.exit 2) (NH w e f g h i c d)):=by kernel_rfl
def HA (b:List a7)(j a w e:Int)(f:List Int)(g:List a7)(h:List bS)(i:List bF)(c d:Int):rj F J (n+1) (mK b j a w e f g h i c d)=br (decide (a<j)) (ck (bE a (b.length:Int)) ((cp F0 (c,d) (aH b a b8.aC)).bind fun k=>br (!k.1) (J .ret (CR false)) (br ((aH b a b8.aC).1 != a) (J .ret (CR false)) (rj F J n (mK b j (aj (a+1)) w e f g h i c d))))) (J (.exit 0) (NI w e f g h i c d)):=by kernel_rfl
def aeM (a:Bool):mH F .ret (sw a)=some (a,()):=by kernel_rfl
def acs: mH F (.exit 4) (NG)=some (true,()):=by kernel_rfl
def aeN (a:Bool):mJ F .ret (CQ a)=some (a,()):=by kernel_rfl
def acu (w d:Int)(e:List Int)(f:List a7)(g:List bS)(a:List bF)(c b:Int):mJ F (.exit 2) (NH w d e f g a c b)=rh F (mH F) F.n (mG a (a.length:Int) 0 c b):=by kernel_rfl
def aeO (a:Bool):mL F .ret (CR a)=some (a,()):=by kernel_rfl
def acv (w b:Int)(d:List Int)(e:List a7)(a:List bS)(f:List bF)(c g:Int):mL F (.exit 0) (NI w b d e a f c g)=ri F (mJ F) F.n (mI a (a.length:Int) 0 w b d e a f c g):=by kernel_rfl
def b6 (w:lx):=bm gX F gY f20 jE aP 1 (w,())
def alS (w:lx):b6 F w=(ep F0 w.1).bind fun a=>br (!a.1) (some (false,())) ((wv F0 w.1.1 w.2.1).bind fun b=>br (!b.1) (some (false,())) ((Fx F0 w.1).bind fun c=>br (decide ((w.2.1.length:Int)>c.1)) (some (false,())) (br ((w.2.2.1.length:Int) != w.1.1) (some (false,())) (br (decide ((w.2.2.2.1.length:Int)>60)) (some (false,())) (br (decide ((w.2.2.2.2.length:Int)>300)) (some (false,())) (rj F (mL F) F.n (mK w.2.2.1 (w.2.2.1.length:Int) 0 w.1.1 w.1.2 w.2.1 w.2.2.1 w.2.2.2.1 w.2.2.2.2 w.1.1 w.1.2))))))):=by kernel_rfl
def dp:Any:=.one ⟨jE,aP,1,fun x=>b6 F0 x.1⟩
def eQ:a8 20 dp:=aq gX ⟨dP,bW,fw,O3,WZ,ct,O6,gW,trivial⟩ func20 gY (by kernel_rfl)
def vB:=[(20,dp),(29,fv),(30,cO),(31,Ud)]
def vC:Nat->Option Hint:=look [(3,{live:=[2,4,6,7],yc:=[(4,2,3,.int .i64),(4,3,65,b8),(4,4,105,ek),(4,5,41,cz),(6,3,65,b8),(6,4,105,ek),(6,5,41,cz)],xl:=[4,6],rl:=[4,5]})]
def pI (i c a l m w b:Int)(o:List Int)(d:List a7)(e:List bS)(f:List bF)(g:List Int)(h:List a7)(j:List bS)(k:List bF):= cR 41 [b1 2,b1 4,b1 6,(7,bb i)] [(2,[ao c,ao a]),(4,[ao l,ao m,.own 1000000 none,.own 1000001 none,.own 1000002 none,.own 1000003 none]),(6,[ao w,ao b,.own 1000004 none,.own 1000005 none,.own 1000006 none,.own 1000007 none])] [az 1000000 3 (.int .i64) o,az 1000001 65 b8 d,az 1000002 105 ek e,az 1000003 41 cz f,az 1000004 3 (.int .i64) g,az 1000005 65 b8 h,az 1000006 105 ek j,az 1000007 41 cz k]
def wy (i j w a:Int)(k:List Int)(b:List a7)(c:List bS)(d:List bF)(e:List Int)(f:List a7)(g:List bS)(h:List bF):= cR 41 [b1 4,b1 6] [(4,[ao i,ao j,.own 1000000 none,.own 1000001 none,.own 1000002 none,.own 1000003 none]),(6,[ao w,ao a,.own 1000004 none,.own 1000005 none,.own 1000006 none,.own 1000007 none])] [az 1000000 3 (.int .i64) k,az 1000001 65 b8 b,az 1000002 105 ek c,az 1000003 41 cz d,az 1000004 3 (.int .i64) e,az 1000005 65 b8 f,az 1000006 105 ek g,az 1000007 41 cz h]
def vD (a:St):Option U:=fe vB F vC [.r,.r,.l,.r,.b,.i] f8 J n a
def AL:=hH vB F vC [.r,.r,.l,.r,.b] f8 atD 2
def FD (i c b l m w d:Int)(o:List Int)(e:List a7)(f:List bS)(g:List bF)(h:List Int)(a:List a7)(j:List bS)(k:List bF):vD F J (n+1) (pI i c b l m w d o e f g h a j k)=(ep F0 (c,b)).bind fun q=>br q.1 (br (decide (i<c)) ((NB F0 (c,b) i).bind fun p=>ck (en F a.length [p.1].length 208) (vD F J n (pI (aj (i+1)) c b l m w d o e f g h (a++[p.1]) j k))) (J (.exit 0) (wy l m w d o e f g h a j k))) (J (.exit 0) (wy l m w d o e f g h a j k)):=by kernel_rfl
def Zu (j k w a:Int)(l:List Int)(f:List a7)(g:List bS)(h:List bF)(b:List Int)(c:List a7)(d:List bS)(e:List bF):AL F (.exit 0) (wy j k w a l f g h b c d e)=(b6 F0 ((w,a),b,c,d,e)).bind fun i=>br (!i.1) (some (((0,0),[],[],[],[]),false,())) (some (((w,a),b,c,d,e),true,())):=by kernel_rfl
def tZ (c:D1)(liars:List Int):=bm vB F vC f8 aDq atD 2 (c,liars,())
def ahE (c:D1)(liars:List Int):tZ F c liars=(dZ F0 liars).bind fun a=>vD F (AL F) F.n (pI 0 c.1 c.2 0 0 c.1 c.2 [] [] [] [] a.1 [] [] []):=by kernel_rfl
def NJ:Any:=.one ⟨aDq,atD,2,fun x=>tZ F0 x.1 x.2.1⟩
def ahF:a8 8 NJ:=aq vB ⟨eQ,jH,dP,apf,trivial⟩ func8 vC (by kernel_rfl)
def aa1:=[(29,fv)]
def gZ (q:D9):=bm aa1 F ad f47 gv gv 2 (q,())
def aph (q:D9):gZ F q=(dZ F0 q.2.2).bind fun a=>some ((q.1,q.2.1,a.1),()):=by kernel_rfl
def il:Any:=.one ⟨gv,gv,2,fun x=>gZ F0 x.1⟩
def mM:a8 47 il:=aq aa1 ⟨jH,trivial⟩ func47 ad (by kernel_rfl)
def Uf:=[(47,il)]
def lD (s:U0):=bm Uf F ad f151 BK BK 2 (s,())
def ahG (s:U0):lD F s=(gZ F0 s.2.2.1).bind fun a=>some ((s.1,s.2.1,a.1,s.2.2.2),()):=by kernel_rfl
def k2:Any:=.one ⟨BK,BK,2,fun x=>lD F0 x.1⟩
def sx:a8 151 k2:=aq Uf ⟨mM,trivial⟩ func151 ad (by kernel_rfl)
def iT (p:D5):=bm aB F ad f152 kl kl 2 (p,())
def alT (p:D5):iT F p=ck (en F 0 p.length 32) (some ([]++p,())):=by kernel_rfl
def CS:Any:=.one ⟨kl,kl,2,fun x=>iT F0 x.1⟩
def Ug:a8 152 CS:=aq aB trivial func152 ad (by kernel_rfl)
def Uh:=[(29,fv)]
def fl (p:D9):=bm Uh F ad f222 gv gv 2 (p,())
def ahH (p:D9):fl F p=(dZ F0 p.2.2).bind fun a=>some ((p.1,p.2.1,a.1),()):=by kernel_rfl
def hQ:Any:=.one ⟨gv,gv,2,fun x=>fl F0 x.1⟩
def mN:a8 222 hQ:=aq Uh ⟨jH,trivial⟩ func222 ad (by kernel_rfl)
def sy:=[(222,hQ)]
def sz:Nat->Option Hint:=look [(3,{live:=[3,6,7,8],mat:=[(3,50,K9)],xl:=[3],rl:=[2]})]
def nS (a:List D9)(b c:Int)(d:List D9):= cR 19 [(3,.v (.c (.own 1000000 none))),(6,ia 50 (K9) a),(7,bb b),(8,bb c)] [] [az 1000000 50 K9 d]
def HB (a:List D9):= cR 19 [(3,.v (.c (.own 1000000 none)))] [] [az 1000000 50 K9 a]
def sA (a:St):Option U:=fe sy F sz [.r,.r,.l,.r,.b,.i] f153 J n a
def wz:=hH sy F sz [.r,.r,.l,.r,.b] f153 G9 2
def BQ (b:List D9)(d a:Int)(c:List D9):sA F J (n+1) (nS b d a c)=br (decide (a<d)) (ck (bE a (b.length:Int)) ((fl F0 (aH b a K9.aC)).bind fun e=>ck (en F c.length [e.1].length 48) (sA F J n (nS b d (aj (a+1)) (c++[e.1]))))) (J (.exit 0) (HB c)):=by kernel_rfl
def W9 (a:List D9):wz F (.exit 0) (HB a)=some (a,()):=by kernel_rfl
def eJ (a:D13):=bm sy F sz f153 G9 G9 2 (a,())
def aeP (a:D13):eJ F a=sA F (wz F) F.n (nS a (a.length:Int) 0 []):=by kernel_rfl
def wA:Any:=.one ⟨G9,G9,2,fun x=>eJ F0 x.1⟩
def NK:a8 153 wA:=aq sy ⟨mN,trivial⟩ func153 sz (by kernel_rfl)
def lE (d:D14):=bm aB F ad f154 pf pf 2 (d,())
def ahI (d:D14):lE F d=ck (en F 0 d.1.length 1) (some (([]++d.1,d.2),())):=by kernel_rfl
def k3:Any:=.one ⟨pf,pf,2,fun x=>lE F0 x.1⟩
def sB:a8 154 k3:=aq aB trivial func154 ad (by kernel_rfl)
def QI:=[(47,il)]
def AM (b:D15):=bm QI F ad f272 ajv ajv 2 (b,())
def aeQ (b:D15):AM F b=(gZ F0 b.2).bind fun a=>some ((b.1,a.1),()):=by kernel_rfl
def Li:Any:=.one ⟨ajv,ajv,2,fun x=>AM F0 x.1⟩
def aeR:a8 272 Li:=aq QI ⟨mM,trivial⟩ func272 ad (by kernel_rfl)
end
end Go.Am.Tryz
namespace Go.Am.Tryz
open Go.Am Go.Proofs Go.Proofs.Tryz
noncomputable section
variable {U:Type} (F:rH) (J:Ex->St->Option U) (n:Nat)
def Xa:=[(47,il),(222,hQ),(272,Li)]
def AN (m:OZ):=bm Xa F ad f223 wZ wZ 2 (m,())
def alU (m:OZ):AN F m=(AM F0 m.2.2.1).bind fun a=>(fl F0 m.2.2.2.1).bind fun b=>(gZ F0 m.2.2.2.2.1).bind fun c=>some ((m.1,m.2.1,a.1,b.1,c.1,m.2.2.2.2.2),()):=by kernel_rfl
def CT:Any:=.one ⟨wZ,wZ,2,fun x=>AN F0 x.1⟩
def Ui:a8 223 CT:=aq Xa ⟨mM,mN,aeR,trivial⟩ func223 ad (by kernel_rfl)
def sC:=[(223,CT)]
def sD:Nat->Option Hint:=look [(3,{live:=[3,6,7,8],mat:=[(3,136,pY)],xl:=[3],rl:=[2]})]
def nT (a:List lv)(b c:Int)(d:List lv):= cR 23 [(3,.v (.c (.own 1000000 none))),(6,ia 136 (pY) a),(7,bb b),(8,bb c)] [] [az 1000000 136 pY d]
def HC (a:List lv):= cR 23 [(3,.v (.c (.own 1000000 none)))] [] [az 1000000 136 pY a]
def sE (a:St):Option U:=fe sC F sD [.r,.r,.l,.r,.b,.i] f155 J n a
def wB:=hH sC F sD [.r,.r,.l,.r,.b] f155 aaq 2
def BR (b:List lv)(d a:Int)(c:List lv):sE F J (n+1) (nT b d a c)=br (decide (a<d)) (ck (bE a (b.length:Int)) ((AN F0 (aH b a pY.aC).2).bind fun e=>ck (en F c.length [((aH b a pY.aC).1,e.1)].length 224) (sE F J n (nT b d (aj (a+1)) (c++[((aH b a pY.aC).1,e.1)]))))) (J (.exit 0) (HC c)):=by kernel_rfl
def Xb (a:List lv):wB F (.exit 0) (HC a)=some (a,()):=by kernel_rfl
def AO (a:D23):=bm sC F sD f155 aaq aaq 2 (a,())
def aeS (a:D23):AO F a=sE F (wB F) F.n (nT a (a.length:Int) 0 []):=by kernel_rfl
def Lj:Any:=.one ⟨aaq,aaq,2,fun x=>AO F0 x.1⟩
def aeT:a8 155 Lj:=aq sC ⟨Ui,trivial⟩ func155 sD (by kernel_rfl)
def Xc:=[(151,k2),(152,CS),(153,wA),(154,k3),(155,Lj)]
def aA (r:a7):=bm Xc F ad f80 To To 2 (r,())
def alV (r:a7):aA F r=(lD F0 r.2.2.2.1).bind fun a=>(iT F0 r.2.2.2.2.1).bind fun b=>(eJ F0 r.2.2.2.2.2.1).bind fun c=>(lE F0 r.2.2.2.2.2.2.1).bind fun d=>(AO F0 r.2.2.2.2.2.2.2).bind fun e=>some ((r.1,r.2.1,r.2.2.1,a.1,b.1,c.1,d.1,e.1),()):=by kernel_rfl
def bO:Any:=.one ⟨To,To,2,fun x=>aA F0 x.1⟩
def ca:a8 80 bO:=aq Xc ⟨sx,Ug,NK,sB,aeT,trivial⟩ func80 ad (by kernel_rfl)
def Uj:Nat->Option Hint:=look [(900001,{live:=[],mat:=[(1,0,ek)]})]
def ua (x:bS):=bm aB F Uj f81 [(ek,true)] [(ek,true)] 2 (x,())
def ahJ (x:bS):ua F x=ck (en F 0 x.2.length 1) (some ((x.1,[]++x.2),())):=by kernel_rfl
def AP:Any:=.one ⟨[(ek,true)],[(ek,true)],2,fun x=>ua F0 x.1⟩
def QJ:a8 81 AP:=aq aB trivial func81 Uj (by kernel_rfl)
def jI:=[(29,fv),(80,bO),(81,AP)]
def jJ:Nat->Option Hint:=look [(3,{live:=[1,2,3,18,19,20],yc:=[(2,2,3,.int .i64),(2,3,65,b8),(2,4,105,ek),(2,5,41,cz),(3,3,65,b8),(3,4,105,ek)],xl:=[1,2,3],rl:=[2]}),(8,{live:=[2,3,33,34,35],xl:=[2,3],rl:=[2]}),(900001,{live:=[],mat:=[(1,0,hJ)]})]
def nU (i:List bS)(j k l m o a:Int)(p:List Int)(b:List a7)(c:List bS)(d:List bF)(e:List Int)(f:List a7)(g:List bS)(h:List bF):= cR 48 [b1 2,b1 3,(33,ia 105 (ek) i),(34,bb j),(35,bb k)] [(2,[ao l,ao m,.own 1000000 none,.own 1000001 none,.own 1000002 none,.own 1000003 none]),(3,[ao o,ao a,.own 1000004 none,.own 1000005 none,.own 1000006 none,.own 1000007 none])] [az 1000000 3 (.int .i64) p,az 1000001 65 b8 b,az 1000002 105 ek c,az 1000003 41 cz d,az 1000004 3 (.int .i64) e,az 1000005 65 b8 f,az 1000006 105 ek g,az 1000007 41 cz h]
def HD (i j k a:Int)(l:List Int)(b:List a7)(c:List bS)(d:List bF)(e:List Int)(f:List a7)(g:List bS)(h:List bF):= cR 48 [b1 2,b1 3] [(2,[ao i,ao j,.own 1000000 none,.own 1000001 none,.own 1000002 none,.own 1000003 none]),(3,[ao k,ao a,.own 1000004 none,.own 1000005 none,.own 1000006 none,.own 1000007 none])] [az 1000000 3 (.int .i64) l,az 1000001 65 b8 b,az 1000002 105 ek c,az 1000003 41 cz d,az 1000004 3 (.int .i64) e,az 1000005 65 b8 f,az 1000006 105 ek g,az 1000007 41 cz h]
def sF (a:St):Option U:=fe jI F jJ [.r,.r,.r,.l,.r,.b,.i] f35 J n a
def wC:=hH jI F jJ [.r,.r,.r,.l,.r,.b] f35 jE 2
def nV (w:lx)(i:List a7)(j k l m o a:Int)(p:List Int)(b:List a7)(c:List bS)(d:List bF)(e:List Int)(f:List a7)(g:List bS)(h:List bF):= cR 48 [(1,.v (.c (.UT false (hJ) w 0))),b1 2,b1 3,(18,ia 65 (b8) i),(19,bb j),(20,bb k)] [(2,[ao l,ao m,.own 1000000 none,.own 1000001 none,.own 1000002 none,.own 1000003 none]),(3,[ao o,ao a,.own 1000004 none,.own 1000005 none,.own 1000006 none,.own 1000007 none])] [az 1000000 3 (.int .i64) p,az 1000001 65 b8 b,az 1000002 105 ek c,az 1000003 41 cz d,az 1000004 3 (.int .i64) e,az 1000005 65 b8 f,az 1000006 105 ek g,az 1000007 41 cz h]
def HE (w:lx)(i j k a:Int)(l:List Int)(b:List a7)(c:List bS)(d:List bF)(e:List Int)(f:List a7)(g:List bS)(h:List bF):= cR 48 [(1,.v (.c (.UT false (hJ) w 0))),b1 2,b1 3] [(2,[ao i,ao j,.own 1000000 none,.own 1000001 none,.own 1000002 none,.own 1000003 none]),(3,[ao k,ao a,.own 1000004 none,.own 1000005 none,.own 1000006 none,.own 1000007 none])] [az 1000000 3 (.int .i64) l,az 1000001 65 b8 b,az 1000002 105 ek c,az 1000003 41 cz d,az 1000004 3 (.int .i64) e,az 1000005 65 b8 f,az 1000006 105 ek g,az 1000007 41 cz h]
def sG (a:St):Option U:=fe jI F jJ [.r,.r,.l,.r,.b,.i] f35 J n a
def wD:=hH jI F jJ [.r,.r,.l,.r,.b] f35 jE 2
def BS (c:List bS)(k a l m o d:Int)(p:List Int)(e:List a7)(f:List bS)(g:List bF)(h:List Int)(i:List a7)(b:List bS)(j:List bF):sF F J (n+1) (nU c k a l m o d p e f g h i b j)=br (decide (a<k)) (ck (bE a (c.length:Int)) ((ua F0 (aH c a (0,[]))).bind fun q=>ck (en F b.length [q.1].length 32) (sF F J n (nU c k (aj (a+1)) l m o d p e f g h i (b++[q.1]) j)))) (J (.exit 2) (HD l m o d p e f g h i b j)):=by kernel_rfl
def BU (w:lx)(c:List a7)(k a l m o d:Int)(p:List Int)(e:List a7)(f:List bS)(g:List bF)(h:List Int)(b:List a7)(i:List bS)(j:List bF):sG F J (n+1) (nV w c k a l m o d p e f g h b i j)=br (decide (a<k)) (ck (bE a (c.length:Int)) ((aA F0 (aH c a b8.aC)).bind fun q=>ck (en F b.length [q.1].length 208) (sG F J n (nV w c k (aj (a+1)) l m o d p e f g h (b++[q.1]) i j)))) (J (.exit 0) (HE w l m o d p e f g h b i j)):=by kernel_rfl
def Xd (j k f a:Int)(l:List Int)(g:List a7)(h:List bS)(i:List bF)(b:List Int)(c:List a7)(d:List bS)(e:List bF):wC F (.exit 2) (HD j k f a l g h i b c d e)=some (((f,a),b,c,d,e),()):=by kernel_rfl
def Xe (w:lx)(i j k a:Int)(l:List Int)(b:List a7)(c:List bS)(d:List bF)(e:List Int)(f:List a7)(g:List bS)(h:List bF):wD F (.exit 0) (HE w i j k a l b c d e f g h)=sF F (wC F) F.n (nU w.2.2.2.1 (w.2.2.2.1.length:Int) 0 i j k a l b c d e f g h):=by kernel_rfl
def aS (w:lx):=bm jI F jJ f35 jE jE 2 (w,())
def aeU (w:lx):aS F w=(dZ F0 w.2.1).bind fun a=>ck (en F 0 w.2.2.2.2.length 32) (sG F (wD F) F.n (nV w w.2.2.1 (w.2.2.1.length:Int) 0 0 0 w.1.1 w.1.2 [] [] [] [] a.1 [] [] ([]++w.2.2.2.2))):=by kernel_rfl
def gh:Any:=.one ⟨jE,jE,2,fun x=>aS F0 x.1⟩
def k4:a8 35 gh:=aq jI ⟨jH,ca,QJ,trivial⟩ func35 jJ (by kernel_rfl)
def iU:Nat->Option Hint:=look [(2,{live:=[0,1,7,8],rl:=[4]})]
def gG (s:List Int)(v a b:Int):= bU 19 [(0,ia 3 (.int .i64) s),(1,bb v),(7,bb a),(8,bb b)]
def ub (a:Int):= bU 19 [(4,bb a)]
def tj   := bU 19 []
def iV (a:St):Option U:=fe aB F iU [.r,.l,.r,.b,.i] f188 J n a
def gH:=hH aB F iU [.r,.l,.r,.b] f188 cF 1
def pJ (s:List Int)(v b a:Int):iV F J (n+1) (gG s v b a)=br (decide (a<b)) (ck (bE a (s.length:Int)) (br (v==(aH s a 0)) (J .ret (ub a)) (iV F J n (gG s v b (aj (a+1)))))) (J (.exit 0) (tj)):=by kernel_rfl
def Mk (a:Int):gH F .ret (ub a)=some (a,()):=by kernel_rfl
def Lk: gH F (.exit 0) (tj)=some (-1,()):=by kernel_rfl
def k5 (s:List Int)(v:Int):=bm aB F iU f188 Tw cF 1 (s,v,())
def QK (s:List Int)(v:Int):k5 F s v=iV F (gH F) F.n (gG s v (s.length:Int) 0):=by kernel_rfl
def uc:Any:=.one ⟨Tw,cF,1,fun x=>k5 F0 x.1 x.2.1⟩
def QL:a8 188 uc:=aq aB trivial func188 iU (by kernel_rfl)
def tk:=[(188,uc)]
def hS (s:List Int)(v:Int):=bm tk F ad f110 Tw aP 1 (s,v,())
def Ll (s:List Int)(v:Int):hS F s v=(k5 F0 s v).bind fun a=>some (decide (a.1>=0),()):=by kernel_rfl
def pK:Any:=.one ⟨Tw,aP,1,fun x=>hS F0 x.1 x.2.1⟩
def Lm:a8 110 pK:=aq tk ⟨QL,trivial⟩ func110 ad (by kernel_rfl)
def aa2:=[(110,pK)]
def c8 (s:List Int)(i:Int):=bm aa2 F ad f51 Tw aP 1 (s,i,())
def api (s:List Int)(i:Int):c8 F s i=(hS F0 s i).bind fun a=>some (a.1,()):=by kernel_rfl
def cP:Any:=.one ⟨Tw,aP,1,fun x=>c8 F0 x.1 x.2.1⟩
def dQ:a8 51 cP:=aq aa2 ⟨Lm,trivial⟩ func51 ad (by kernel_rfl)
def Ez:=[(51,cP)]
def EA:Nat->Option Hint:=look [(3,{live:=[1,3,7,8],mat:=[(3,3,.int .i64)],xl:=[3],rl:=[2]})]
def kC (f g w a:Int)(b:List Int)(c:List a7)(d:List bS)(e:List bF)(h:List Int):= cR 22 [b1 1,(3,.v (.c (.own 1000000 none))),(7,bb f),(8,bb g)] [(1,[ao w,ao a,.ro false 3 (.int .i64) b,.ro false 65 (b8) c,.ro false 105 (ek) d,.ro false 41 (cz) e])] [az 1000000 3 (.int .i64) h]
def QM (a:List Int):= cR 22 [(3,.v (.c (.own 1000000 none)))] [] [az 1000000 3 (.int .i64) a]
def oZ (a:St):Option U:=fe Ez F EA [.r,.r,.l,.r,.b,.i] f17 J n a
def vE:=hH Ez F EA [.r,.r,.l,.r,.b] f17 ko 2
def Ln (d a w e:Int)(c:List Int)(f:List a7)(g:List bS)(h:List bF)(b:List Int):oZ F J (n+1) (kC d a w e c f g h b)=br (decide (a<d)) ((c8 F0 c a).bind fun i=>br (!i.1) (ck (en F b.length [a].length 8) (oZ F J n (kC d (aj (a+1)) w e c f g h (b++[a])))) (oZ F J n (kC d (aj (a+1)) w e c f g h b))) (J (.exit 0) (QM b)):=by kernel_rfl
def aeV (a:List Int):vE F (.exit 0) (QM a)=some (a,()):=by kernel_rfl
def fR (w:lx):=bm Ez F EA f17 jE ko 2 (w,())
def apj (w:lx):fR F w=oZ F (vE F) F.n (kC (w.2.2.1.length:Int) 0 w.1.1 w.1.2 w.2.1 w.2.2.1 w.2.2.2.1 w.2.2.2.2 []):=by kernel_rfl
def eR:Any:=.one ⟨jE,ko,2,fun x=>fR F0 x.1⟩
def ha:a8 17 eR:=aq Ez ⟨dQ,trivial⟩ func17 EA (by kernel_rfl)
def Xf:=[(17,eR),(41,bA),(51,cP)]
def I0 (w:lx)(d:D45):=bm Xf F ad f42 ajL aP 1 (w,d,())
def alW (w:lx)(d:D45):I0 F w d=br (d.1==3) ((aZ F0 d.2.1 0 (aj ((w.2.2.2.1.length:Int)-1))).bind fun a=>some (a.1,())) (br (d.1==4) ((aZ F0 d.2.1 0 (aj ((w.2.2.2.1.length:Int)-1))).bind fun a=>some (a.1,())) (br (d.1==5) ((aZ F0 d.2.1 0 (aj ((w.2.2.2.1.length:Int)-1))).bind fun a=>some (a.1,())) (br (d.1==10) ((aZ F0 d.2.1 0 (aj (w.1.1-1))).bind fun b=>some (b.1,())) ((fR F0 w).bind fun c=>(c8 F0 c.1 d.2.1).bind fun e=>some (e.1,()))))):=by kernel_rfl
def QN:Any:=.one ⟨ajL,aP,1,fun x=>I0 F0 x.1 x.2.1⟩
def alX:a8 42 QN:=aq Xf ⟨ha,bW,dQ,trivial⟩ func42 ad (by kernel_rfl)
def ajQ:=[(118,oD),(154,k3)]
def YJ (d:D14):=bm ajQ F ad f159 pf pf 2 (d,())
def av9 (d:D14):YJ F d=(lE F0 d).bind fun a=>(rb F0 d).bind fun b=>br b.1 (some ((a.1.1,(d.1.length:Int)),())) (some (a.1,())):=by kernel_rfl
def aa3:Any:=.one ⟨pf,pf,2,fun x=>YJ F0 x.1⟩
def awa:a8 159 aa3:=aq ajQ ⟨AD,sB,trivial⟩ func159 ad (by kernel_rfl)
def Xg:=[(58,b2),(80,bO),(159,aa3)]
def I1 (c:D1)(r:a7):=bm Xg F ad f90 x4 aDM 2 (c,r,())
def alY (c:D1)(r:a7):I1 F c r=(aA F0 r).bind fun a=>(cp F0 c r).bind fun b=>br (!b.1) (some (a.1,[],())) ((YJ F0 a.1.2.2.2.2.2.2.1).bind fun d=>some ((a.1.1,a.1.2.1,a.1.2.2.1,a.1.2.2.2.1,a.1.2.2.2.2.1,a.1.2.2.2.2.2.1,d.1,[]),a.1.2.2.2.2.2.2.2,())):=by kernel_rfl
def QO:Any:=.one ⟨x4,aDM,2,fun x=>I1 F0 x.1 x.2.1⟩
def alZ:a8 90 QO:=aq Xg ⟨ct,ca,awa,trivial⟩ func90 ad (by kernel_rfl)
def aa4:=[(51,cP)]
def FE (a:Int)(m:OZ):=bm aa4 F ad f92 aDN [(K38,false)] 2 (a,m,())
def apk (a:Int)(m:OZ):FE F a m=br (m.1==4) (some ([],())) (br (m.1==2) (br (m.2.2.2.1.2.1.toList==ak.toList) (some ([],())) ((c8 F0 m.2.2.2.1.2.2 a).bind fun b=>br (!b.1) (some ([],())) (some ([(m.2.2.2.1.1,m.2.2.2.1.2.1,a)],())))) (br (m.1==1) (br (m.2.2.1.2.2.1.toList==ak.toList) (some ([],())) ((c8 F0 m.2.2.1.2.2.2 a).bind fun b=>br (!b.1) (some ([],())) (some ([(m.2.2.1.2.1,m.2.2.1.2.2.1,a)],())))) (br (m.2.2.2.2.1.2.1.toList==ak.toList) (some ([],())) ((c8 F0 m.2.2.2.2.1.2.2 a).bind fun b=>br (!b.1) (some ([],())) (some ([(m.2.2.2.2.1.1,m.2.2.2.2.1.2.1,a)],())))))):=by kernel_rfl
def GL:Any:=.one ⟨aDN,[(K38,false)],2,fun x=>FE F0 x.1 x.2.1⟩
def Xh:a8 92 GL:=aq aa4 ⟨dQ,trivial⟩ func92 ad (by kernel_rfl)
def NL:Nat->Option Hint:=look [(2,{live:=[0,3,7,8],rl:=[4]})]
def EB (s:List bF)(c d v:Int)(a:ByteArray)(b:Int):= cR 19 [(0,ia 41 (cz) s),b1 3,(7,bb c),(8,bb d)] [(3,[ao v,.str a,ao b])] []
def aa5 (a:Int):= bU 19 [(4,bb a)]
def Xi   := bU 19 []
def NM (a:St):Option U:=fe aB F NL [.r,.l,.r,.b,.i] f160 J n a
def EC:=hH aB F NL [.r,.l,.r,.b] f160 cF 1
def QP (s:List bF)(d a v:Int)(b:ByteArray)(c:Int):NM F J (n+1) (EB s d a v b c)=br (decide (a<d)) (ck (bE a (s.length:Int)) (br ((v==(aH s a cz.aC).1)&&((b.toList==(aH s a cz.aC).2.1.toList)&&((c==(aH s a cz.aC).2.2)&&true))) (J .ret (aa5 a)) (NM F J n (EB s d (aj (a+1)) v b c)))) (J (.exit 0) (Xi)):=by kernel_rfl
def apl (a:Int):EC F .ret (aa5 a)=some (a,()):=by kernel_rfl
def al0: EC F (.exit 0) (Xi)=some (-1,()):=by kernel_rfl
abbrev aDQ:List (Ty×Bool):=[(K38,false),(cz,true)]
def YK (s:D38)(v:bF):=bm aB F NL f160 aDQ cF 1 (s,v,())
def awb (s:D38)(v:bF):YK F s v=NM F (EC F) F.n (EB s (s.length:Int) 0 v.1 v.2.1 v.2.2):=by kernel_rfl
def aa6:Any:=.one ⟨aDQ,cF,1,fun x=>YK F0 x.1 x.2.1⟩
def awc:a8 160 aa6:=aq aB trivial func160 NL (by kernel_rfl)
def pL:=[(160,aa6)]
def db (s:D38)(v:bF):=bm pL F ad f93 aDQ aP 1 (s,v,())
def GM (s:D38)(v:bF):db F s v=(YK F0 s v).bind fun a=>some (decide (a.1>=0),()):=by kernel_rfl
def ew:Any:=.one ⟨aDQ,aP,1,fun x=>db F0 x.1 x.2.1⟩
def iq:a8 93 ew:=aq pL ⟨awc,trivial⟩ func93 ad (by kernel_rfl)
def nW:=[(17,eR),(35,gh),(51,cP),(92,GL),(93,ew)]
def nX:Nat->Option Hint:=look [(5,{live:=[1,6,7,20,21,22],yc:=[(6,2,3,.int .i64),(6,3,65,b8),(6,4,105,ek),(6,5,41,cz)],xl:=[6,7],rl:=[6]}),(8,{live:=[1,6,7,20,21,22,29,30,31],xl:=[1,6,7,20,21,22],rl:=[6]})]
def mO (j:Int)(k:List lv)(l m o p q r s a:Int)(t:List bF)(b:List Int)(c:List a7)(d:List bS)(e:List bF)(f:List Int)(g:List a7)(h:List bS)(i:List bF):= cR 55 [(1,bb j),b1 6,b1 7,(20,ia 136 (pY) k),(21,bb l),(22,bb m),(29,.v (.c (.own 1000000 none))),(30,bb o),(31,bb p)] [(6,[ao q,ao r,.own 1000001 none,.own 1000002 none,.own 1000003 none,.own 1000004 none]),(7,[ao s,ao a,.own 1000005 none,.own 1000006 none,.own 1000007 none,.own 1000008 none])] [az 1000000 41 cz t,az 1000001 3 (.int .i64) b,az 1000002 65 b8 c,az 1000003 105 ek d,az 1000004 41 cz e,az 1000005 3 (.int .i64) f,az 1000006 65 b8 g,az 1000007 105 ek h,az 1000008 41 cz i]
def Uk (i:Int)(j:List lv)(k l m o p a:Int)(q:List Int)(b:List a7)(c:List bS)(d:List bF)(e:List Int)(f:List a7)(g:List bS)(h:List bF):= cR 55 [(1,bb i),b1 6,b1 7,(20,ia 136 (pY) j),(21,bb k),(22,bb l)] [(6,[ao m,ao o,.own 1000000 none,.own 1000001 none,.own 1000002 none,.own 1000003 none]),(7,[ao p,ao a,.own 1000004 none,.own 1000005 none,.own 1000006 none,.own 1000007 none])] [az 1000000 3 (.int .i64) q,az 1000001 65 b8 b,az 1000002 105 ek c,az 1000003 41 cz d,az 1000004 3 (.int .i64) e,az 1000005 65 b8 f,az 1000006 105 ek g,az 1000007 41 cz h]
def sH (a:St):Option U:=fe nW F nX [.r,.r,.r,.l,.r,.b,.i,.r,.r,.l,.b,.r,.r,.b,.i] f91 J n a
def Lo:Ex->St->Option U:=Vy Tryz.prog (look nW) F nX [.r,.r,.l,.b,.r,.r,.b] (sub [.r,.r,.r,.l,.r,.b,.i] (eW f91)) (itk Tryz.prog (look nW) F nX (sub [.r,.r,.r,.l,.r,.b,.i] (eW f91)) J n)
def AQ (i:Int)(j:List lv)(k l m o p a:Int)(q:List Int)(b:List a7)(c:List bS)(d:List bF)(e:List Int)(f:List a7)(g:List bS)(h:List bF):= cR 55 [(1,bb i),b1 6,b1 7,(20,ia 136 (pY) j),(21,bb k),(22,bb l)] [(6,[ao m,ao o,.own 1000000 none,.own 1000001 none,.own 1000002 none,.own 1000003 none]),(7,[ao p,ao a,.own 1000004 none,.own 1000005 none,.own 1000006 none,.own 1000007 none])] [az 1000000 3 (.int .i64) q,az 1000001 65 b8 b,az 1000002 105 ek c,az 1000003 41 cz d,az 1000004 3 (.int .i64) e,az 1000005 65 b8 f,az 1000006 105 ek g,az 1000007 41 cz h]
def Ul (i j k a:Int)(l:List Int)(b:List a7)(c:List bS)(d:List bF)(e:List Int)(f:List a7)(g:List bS)(h:List bF):= cR 55 [b1 6,b1 7] [(6,[ao i,ao j,.own 1000000 none,.own 1000001 none,.own 1000002 none,.own 1000003 none]),(7,[ao k,ao a,.own 1000004 none,.own 1000005 none,.own 1000006 none,.own 1000007 none])] [az 1000000 3 (.int .i64) l,az 1000001 65 b8 b,az 1000002 105 ek c,az 1000003 41 cz d,az 1000004 3 (.int .i64) e,az 1000005 65 b8 f,az 1000006 105 ek g,az 1000007 41 cz h]
def I2 (a:St):Option U:=fe nW F nX [.r,.r,.r,.l,.r,.b,.i] f91 J n a
def AR:=hH nW F nX [.r,.r,.r,.l,.r,.b] f91 jE 2
def NN (l:Int)(m:List lv)(o p q a r s t d:Int)(c:List bF)(e:List Int)(f:List a7)(g:List bS)(h:List bF)(i:List Int)(j:List a7)(k:List bS)(b:List bF):sH F J (n+1) (mO l m o p q a r s t d c e f g h i j k b)=br (decide (a<q)) (ck (bE a (c.length:Int)) ((db F0 b (aH c a cz.aC)).bind fun u=>br (!u.1) (br (decide ((b.length:Int)<300)) (ck (en F b.length [(aH c a cz.aC)].length 32) (sH F J n (mO l m o p q (aj (a+1)) r s t d c e f g h i j k (b++[(aH c a cz.aC)])))) (sH F J n (mO l m o p q (aj (a+1)) r s t d c e f g h i j k b))) (sH F J n (mO l m o p q (aj (a+1)) r s t d c e f g h i j k b)))) (J (.exit 2) (Uk l m o p r s t d e f g h i j k b)):=by kernel_rfl
def NO (k:Int)(b:List lv)(l a m o p c:Int)(q:List Int)(d:List a7)(e:List bS)(f:List bF)(g:List Int)(h:List a7)(i:List bS)(j:List bF):I2 F J (n+1) (AQ k b l a m o p c q d e f g h i j)=br (decide (a<l)) (ck (bE a (b.length:Int)) ((FE F0 k (aH b a pY.aC).2).bind fun r=>sH F (Lo F J n) F.n (mO k b l a (r.1.length:Int) 0 m o p c r.1 q d e f g h i j))) (J (.exit 0) (Ul m o p c q d e f g h i j)):=by kernel_rfl
def ahK (i:Int)(j:List lv)(k l m o p a:Int)(q:List Int)(b:List a7)(c:List bS)(d:List bF)(e:List Int)(f:List a7)(g:List bS)(h:List bF):Lo F J n (.exit 2) (Uk i j k l m o p a q b c d e f g h)=I2 F J n (AQ i j k (aj (l+1)) m o p a q b c d e f g h):=by kernel_rfl
def ahL (j k f a:Int)(l:List Int)(g:List a7)(h:List bS)(i:List bF)(b:List Int)(c:List a7)(d:List bS)(e:List bF):AR F (.exit 0) (Ul j k f a l g h i b c d e)=some (((f,a),b,c,d,e),()):=by kernel_rfl
def Sh (w:lx)(a:Int)(b:D23):=bm nW F nX f91 aDO jE 2 (w,a,b,())
def asu (w:lx)(b:Int)(c:D23):Sh F w b c=(aS F0 w).bind fun a=>(fR F0 w).bind fun d=>(c8 F0 d.1 b).bind fun e=>br (!e.1) (some (a.1,())) (I2 F (AR F) F.n (AQ b c (c.length:Int) 0 0 0 a.1.1.1 a.1.1.2 [] [] [] [] a.1.2.1 a.1.2.2.1 a.1.2.2.2.1 a.1.2.2.2.2)):=by kernel_rfl
def Xj:Any:=.one ⟨aDO,jE,2,fun x=>Sh F0 x.1 x.2.1 x.2.2.1⟩
def asv:a8 91 Xj:=aq nW ⟨ha,k4,dQ,Xh,iq,trivial⟩ func91 nX (by kernel_rfl)
def Xk:=[(170,ik)]
def nY (s:ByteArray):=bm Xk F ad f171 dC l1 2 (s,())
def al1 (s:ByteArray):nY F s=(e6 F0 (s.size:Int)).bind fun a=>ck (okB F a.1.length s.size) (some (a.1++bytesOf s,())):=by kernel_rfl
def sI:Any:=.one ⟨dC,l1,2,fun x=>nY F0 x.1⟩
def GN:a8 171 sI:=aq Xk ⟨mD,trivial⟩ func171 ad (by kernel_rfl)
def AS:=[(170,ik)]
def AT:Nat->Option Hint:=look [(3,{live:=[3,6,7,8],mat:=[(3,5,.int .u8)],xl:=[3],rl:=[2]})]
def sJ (a:List Int)(b c:Int)(d:List Int):= cR 18 [(3,.v (.c (.own 1000000 none))),(6,ia 3 (.int .i64) a),(7,bb b),(8,bb c)] [] [az 1000000 5 (.int .u8) d]
def NP (a:List Int):= cR 18 [(3,.v (.c (.own 1000000 none)))] [] [az 1000000 5 (.int .u8) a]
def AU (a:St):Option U:=fe AS F AT [.r,.r,.l,.r,.b,.i] f173 J n a
def CU:=hH AS F AT [.r,.r,.l,.r,.b] f173 l1 2
def HF (b:List Int)(d a:Int)(c:List Int):AU F J (n+1) (sJ b d a c)=br (decide (a<d)) (ck (bE a (b.length:Int)) ((e6 F0 (aH b a 0)).bind fun e=>ck (en F c.length e.1.length 1) (AU F J n (sJ b d (aj (a+1)) (c++e.1))))) (J (.exit 0) (NP c)):=by kernel_rfl
def acw (a:List Int):CU F (.exit 0) (NP a)=some (a,()):=by kernel_rfl
def k6 (a:List Int):=bm AS F AT f173 ko l1 2 (a,())
def al2 (a:List Int):k6 F a=AU F (CU F) F.n (sJ a (a.length:Int) 0 []):=by kernel_rfl
def sK:Any:=.one ⟨ko,l1,2,fun x=>k6 F0 x.1⟩
def GO:a8 173 sK:=aq AS ⟨mD,trivial⟩ func173 AT (by kernel_rfl)
def Xl:=[(107,jz),(170,ik),(171,sI),(173,sK)]
def sL (c:D1)(q:D9):=bm Xl F ad f172 G3 l1 2 (c,q,())
def al3 (c:D1)(q:D9):sL F c q=(mz F0 c q).bind fun f=>br (!f.1) (some ([],())) ((e6 F0 q.1).bind fun a=>(nY F0 q.2.1).bind fun b=>ck (en F a.1.length b.1.length 1) ((e6 F0 (q.2.2.length:Int)).bind fun d=>ck (en F (a.1++b.1).length d.1.length 1) ((k6 F0 q.2.2).bind fun e=>ck (en F ((a.1++b.1)++d.1).length e.1.length 1) (some (((a.1++b.1)++d.1)++e.1,()))))):=by kernel_rfl
def CW:Any:=.one ⟨G3,l1,2,fun x=>sL F0 x.1 x.2.1⟩
def Um:a8 172 CW:=aq Xl ⟨nJ,mD,GN,GO,trivial⟩ func172 ad (by kernel_rfl)
def Un:=[(119,mC),(170,ik),(171,sI),(172,CW),(173,sK)]
def ud (c:D1)(m:OZ):=bm Un F ad f98 ajt l1 2 (c,m,())
def ahM (c:D1)(m:OZ):ud F c m=(gd F0 c m).bind fun l=>br (!l.1) (some ([],())) ((e6 F0 m.1).bind fun a=>br (m.1==1) ((nY F0 m.2.2.1.1).bind fun e=>ck (en F a.1.length e.1.length 1) ((sL F0 c m.2.2.1.2).bind fun h=>ck (en F (a.1++e.1).length h.1.length 1) (some ((a.1++e.1)++h.1,())))) (br (m.1==2) ((e6 F0 m.2.2.2.1.1).bind fun b=>ck (en F a.1.length b.1.length 1) ((nY F0 m.2.2.2.1.2.1).bind fun d=>ck (en F (a.1++b.1).length d.1.length 1) ((e6 F0 (m.2.2.2.1.2.2.length:Int)).bind fun f=>ck (en F ((a.1++b.1)++d.1).length f.1.length 1) ((k6 F0 m.2.2.2.1.2.2).bind fun i=>ck (en F (((a.1++b.1)++d.1)++f.1).length i.1.length 1) (some ((((a.1++b.1)++d.1)++f.1)++i.1,())))))) (br (m.1==3) ((k6 F0 [m.2.1,m.2.2.2.2.2.1]).bind fun g=>ck (en F a.1.length g.1.length 1) ((sL F0 c m.2.2.2.2.1).bind fun j=>ck (en F (a.1++g.1).length j.1.length 1) (some ((a.1++g.1)++j.1,())))) ((k6 F0 [m.2.2.2.2.2.2.1,m.2.2.2.2.2.2.2.1,m.2.2.2.2.2.2.2.2.1,m.2.2.2.2.2.2.2.2.2]).bind fun k=>ck (en F a.1.length k.1.length 1) (some (a.1++k.1,())))))):=by kernel_rfl
def AW:Any:=.one ⟨ajt,l1,2,fun x=>ud F0 x.1 x.2.1⟩
def QQ:a8 98 AW:=aq Un ⟨tX,mD,GN,Um,GO,trivial⟩ func98 ad (by kernel_rfl)
def NQ:=[(20,dp),(35,gh),(41,bA),(98,AW)]
def NR:Nat->Option Hint:=look [(5,{live:=[2,4,5,15,16,17],yc:=[(4,2,3,.int .i64),(4,3,65,b8),(4,4,105,ek),(4,5,41,cz)],xl:=[4,5],rl:=[4]})]
def lF (o:List lv)(p q w a:Int)(b:List Int)(c:List a7)(d:List bS)(e:List bF)(r s t f:Int)(u:List Int)(g:List a7)(h:List bS)(i:List bF)(j:List Int)(k:List a7)(l:List bS)(m:List bF):= cR 55 [b1 2,b1 4,b1 5,(15,ia 136 (pY) o),(16,bb p),(17,bb q)] [(2,[ao w,ao a,.ro false 3 (.int .i64) b,.ro false 65 (b8) c,.ro false 105 (ek) d,.ro false 41 (cz) e]),(4,[ao r,ao s,.own 1000000 none,.own 1000001 none,.own 1000002 none,.own 1000003 none]),(5,[ao t,ao f,.own 1000004 none,.own 1000005 none,.own 1000006 none,.own 1000007 none])] [az 1000000 3 (.int .i64) u,az 1000001 65 b8 g,az 1000002 105 ek h,az 1000003 41 cz i,az 1000004 3 (.int .i64) j,az 1000005 65 b8 k,az 1000006 105 ek l,az 1000007 41 cz m]
def Xm (i j k a:Int)(l:List Int)(b:List a7)(c:List bS)(d:List bF)(e:List Int)(f:List a7)(g:List bS)(h:List bF):= cR 55 [b1 4,b1 5] [(4,[ao i,ao j,.own 1000000 none,.own 1000001 none,.own 1000002 none,.own 1000003 none]),(5,[ao k,ao a,.own 1000004 none,.own 1000005 none,.own 1000006 none,.own 1000007 none])] [az 1000000 3 (.int .i64) l,az 1000001 65 b8 b,az 1000002 105 ek c,az 1000003 41 cz d,az 1000004 3 (.int .i64) e,az 1000005 65 b8 f,az 1000006 105 ek g,az 1000007 41 cz h]
def rk (a:St):Option U:=fe NQ F NR [.r,.r,.r,.l,.r,.b,.i] f94 J n a
def O7:=hH NQ F NR [.r,.r,.r,.l,.r,.b] f94 jE 2
def QR (b:List lv)(l a w d:Int)(r:List Int)(s:List a7)(t:List bS)(u:List bF)(m o p e:Int)(q:List Int)(f:List a7)(g:List bS)(h:List bF)(i:List Int)(j:List a7)(c:List bS)(k:List bF):rk F J (n+1) (lF b l a w d r s t u m o p e q f g h i j c k)=br (decide (a<l)) (ck (bE a (b.length:Int)) ((ud F0 (w,d) (aH b a pY.aC).2).bind fun v=>br (decide ((v.1.length:Int)>0)) ((aZ F0 (aH b a pY.aC).1 0 (aj (w-1))).bind fun x=>br x.1 (br (decide ((c.length:Int)<60)) (ck (en F c.length [((aH b a pY.aC).1,v.1)].length 32) (rk F J n (lF b l (aj (a+1)) w d r s t u m o p e q f g h i j (c++[((aH b a pY.aC).1,v.1)]) k))) (rk F J n (lF b l (aj (a+1)) w d r s t u m o p e q f g h i j c k))) (rk F J n (lF b l (aj (a+1)) w d r s t u m o p e q f g h i j c k))) (rk F J n (lF b l (aj (a+1)) w d r s t u m o p e q f g h i j c k)))) (J (.exit 0) (Xm m o p e q f g h i j c k)):=by kernel_rfl
def al4 (j k f a:Int)(l:List Int)(g:List a7)(h:List bS)(i:List bF)(b:List Int)(c:List a7)(d:List bS)(e:List bF):O7 F (.exit 0) (Xm j k f a l g h i b c d e)=some (((f,a),b,c,d,e),()):=by kernel_rfl
def QS (w:lx)(a:D23):=bm NQ F NR f94 aDL jE 2 (w,a,())
def awd (w:lx)(b:D23):QS F w b=(aS F0 w).bind fun a=>(b6 F0 w).bind fun c=>br (!c.1) (some (a.1,())) (rk F (O7 F) F.n (lF b (b.length:Int) 0 w.1.1 w.1.2 w.2.1 w.2.2.1 w.2.2.2.1 w.2.2.2.2 0 0 a.1.1.1 a.1.1.2 [] [] [] [] a.1.2.1 a.1.2.2.1 a.1.2.2.2.1 a.1.2.2.2.2)):=by kernel_rfl
def aa7:Any:=.one ⟨aDL,jE,2,fun x=>QS F0 x.1 x.2.1⟩
def awe:a8 94 aa7:=aq NQ ⟨eQ,k4,bW,QQ,trivial⟩ func94 NR (by kernel_rfl)
end
end Go.Am.Tryz
