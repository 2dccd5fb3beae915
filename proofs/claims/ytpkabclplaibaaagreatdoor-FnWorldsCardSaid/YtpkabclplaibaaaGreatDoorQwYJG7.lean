/- No condition. -/
import Derived.Test.YtpkabclplaibaaaGreatDoorQwYJG6
set_option linter.all false
set_option maxRecDepth 100000
namespace Go.Am.Tryz
open Go.Am Go.Proofs Go.Proofs.Tryz
noncomputable section
variable {U:Type} (F:nY) (J:Ex->St->Option U) (n:Nat)
def r6:=[(93,b9)]
def r7:Nat->Option Hint:=look [(2,{live:=[1,2,9,10,11],rl:=[6]})]
def mR (low high:Int)(a:List Int)(b c:Int):= bD 21 [(1,bd low),(2,bd high),(9,jN 3 (.int .i64) a),(10,bd b),(11,bd c)]
def KE (a:Bool):= bD 21 [(6,ED a)]
def Hb   := bD 21 []
def r8 (a:St):Option U:=ek r6 F r7 [.r,.l,.r,.b,.i] f285 J n a
def mS:=iR r6 F r7 [.r,.l,.r,.b] f285 aM 1
def Bv (low high:Int)(b:List Int)(c a:Int):r8 F J (n+1) (mR low high b c a)=br (decide (a<c)) (ck (bG a (b.length:Int)) ((bw F0 (aL b a 0) low high).bind fun d=>br (!d.1) (J .ret (KE false)) (r8 F J n (mR low high b c (al (a+1)))))) (J (.exit 0) (Hb)):=by kernel_rfl
def XF (a:Bool):mS F .ret (KE a)=some (a,()):=by kernel_rfl
def Vv: mS F (.exit 0) (Hb)=some (true,()):=by kernel_rfl
abbrev aFy:List (Ty×Bool):=[(.sl 3 (.int .i64),false),(.int .i64,false),(.int .i64,false)]
def qa (a:List Int)(low high:Int):=bL r6 F r7 f285 aFy aM 1 (a,low,high,())
def acN (a:List Int)(low high:Int):qa F a low high=r8 F (mS F) F.n (mR low high a (a.length:Int) 0):=by kernel_rfl
def KF:Any:=.one ⟨aFy,aM,1,fun x=>qa F0 x.1 x.2.1 x.2.2.1⟩
def acO:bb 285 KF:=aC r6 ⟨cM,trivial⟩ func285 r7 (by kernel_rfl)
def SM:=[(285,KF)]
def tz (l:D10):=bL SM F ad f229 l7 aM 1 (l,())
def ae2 (l:D10):tz F l=br ((l.1.length:Int)==4) (br ((l.2.length:Int)==4) ((qa F0 l.1 0 400).bind fun a=>br a.1 ((qa F0 l.2 0 100).bind fun b=>some (b.1,())) (some (false,()))) (some (false,()))) (some (false,())):=by kernel_rfl
def M1:Any:=.one ⟨l7,aM,1,fun x=>tz F0 x.1⟩
def ae3:bb 229 M1:=aC SM ⟨acO,trivial⟩ func229 ad (by kernel_rfl)
def al6:=[(150,sX),(228,oc),(229,M1)]
def acP (l:D10)(x:D4):=bL al6 F ad f151 ayP ayQ 2 (l,x,())
def at0 (l:D10)(x:D4):acP F l x=(jC F0 l).bind fun a=>(tz F0 l).bind fun b=>br (!b.1) (some (a.1,1,())) ((wB F0 x).bind fun c=>br (!c.1) (some (a.1,1,())) (ck (bG x.1 (l.2.length:Int)) (br (decide (x.2.2.2<(aL l.2 x.1 0))) (some (a.1,2,())) (ck (bG x.1 (l.2.length:Int)) (br (decide (x.2.2.2>(aL l.2 x.1 0))) (some (a.1,3,())) (ck (bG x.1 (a.1.2.length:Int)) (ck (bG x.1 (a.1.2.length:Int)) (ck (bG x.1 (l.1.length:Int)) (br (decide (x.2.2.1>(aL l.1 x.1 0))) (some ((a.1.1,a.1.2.set x.1.toNat (al ((aL a.1.2 x.1 0)+1))),4,())) (ck (bG x.1 (a.1.1.length:Int)) (ck (bG x.1 (a.1.1.length:Int)) (ck (bG x.2.1 ((a.1.1.set x.1.toNat (al ((aL a.1.1 x.1 0)-x.2.2.1))).length:Int)) (ck (bG x.2.1 ((a.1.1.set x.1.toNat (al ((aL a.1.1 x.1 0)-x.2.2.1))).length:Int)) ((tz F0 ((a.1.1.set x.1.toNat (al ((aL a.1.1 x.1 0)-x.2.2.1))).set x.2.1.toNat (al ((aL (a.1.1.set x.1.toNat (al ((aL a.1.1 x.1 0)-x.2.2.1))) x.2.1 0)+x.2.2.1)),a.1.2.set x.1.toNat (al ((aL a.1.2 x.1 0)+1)))).bind fun d=>br (!d.1) ((jC F0 l).bind fun e=>some (e.1,1,())) (some (((a.1.1.set x.1.toNat (al ((aL a.1.1 x.1 0)-x.2.2.1))).set x.2.1.toNat (al ((aL (a.1.1.set x.1.toNat (al ((aL a.1.1 x.1 0)-x.2.2.1))) x.2.1 0)+x.2.2.1)),a.1.2.set x.1.toNat (al ((aL a.1.2 x.1 0)+1))),0,())))))))))))))))):=by kernel_rfl
def acQ:Any:=.one ⟨ayP,ayQ,2,fun x=>acP F0 x.1 x.2.1⟩
def at1:bb 151 acQ:=aC al6 ⟨KC,zv,ae3,trivial⟩ func151 ad (by kernel_rfl)
def Ea:=[(150,sX),(151,acQ)]
def Eb:Nat->Option Hint:=look [(4,{live:=[4,6,7,14,15,16],mat:=[(7,3,.int .i64)],A9:=[(4,0,3,.int .i64),(4,1,3,.int .i64)],xl:=[4,6,7],rl:=[4,5]})]
def u9 (e:List D4)(f g:Int)(h a b c d:List Int):= dN 34 [bX 4,bX 6,(7,.v (.c (.own 1000000 none))),(14,jN 99 (K4) e),(15,bd f),(16,bd g)] [(4,[.own 1000001 none,.own 1000002 none]),(6,[.own 1000003 none,.own 1000004 none])] [aF 1000000 3 (.int .i64) h,aF 1000001 3 (.int .i64) a,aF 1000002 3 (.int .i64) b,aF 1000003 3 (.int .i64) c,aF 1000004 3 (.int .i64) d]
def PN (e a b c d:List Int):= dN 34 [bX 4,bX 6,(7,.v (.c (.own 1000000 none)))] [(4,[.own 1000001 none,.own 1000002 none]),(6,[.own 1000003 none,.own 1000004 none])] [aF 1000000 3 (.int .i64) e,aF 1000001 3 (.int .i64) a,aF 1000002 3 (.int .i64) b,aF 1000003 3 (.int .i64) c,aF 1000004 3 (.int .i64) d]
def Ec (a:St):Option U:=ek Ea F Eb [.r,.r,.r,.l,.r,.b,.i] f78 J n a
def Gi:=iR Ea F Eb [.r,.r,.r,.l,.r,.b] f78 apJ 2
def KG (c:List D4)(i a:Int)(d e f g h:List Int):Ec F J (n+1) (u9 c i a d e f g h)=br (decide (a<i)) (ck (bG a (c.length:Int)) ((acP F0 (g,h) (aL c a K4.az)).bind fun b=>ck (dV F d.length [b.2.1].length 8) (Ec F J n (u9 c i (al (a+1)) (d++[b.2.1]) e f b.1.1 b.1.2)))) (J (.exit 0) (PN d e f g h)):=by kernel_rfl
def acR (c d e a b:List Int):Gi F (.exit 0) (PN c d e a b)=some ((a,b),c,()):=by kernel_rfl
def Fe (l:D10)(a:D5):=bL Ea F Eb f78 ayZ apJ 2 (l,a,())
def al7 (l:D10)(a:D5):Fe F l a=(jC F0 l).bind fun b=>Ec F (Gi F) F.n (u9 a (a.length:Int) 0 [] [] [] b.1.1 b.1.2):=by kernel_rfl
def Gj:Any:=.one ⟨ayZ,apJ,2,fun x=>Fe F0 x.1 x.2.1⟩
def Vw:bb 78 Gj:=aC Ea ⟨KC,at1,trivial⟩ func78 Eb (by kernel_rfl)
def acS:=[(77,KB),(78,Gj),(79,vE),(92,p1)]
def QM (c:D1)(r:bq):=bL acS F ad f76 Lp l7 2 (c,r,())
def aox (c:D1)(r:bq):QM F c r=(p0 F0 c r).bind fun a=>br (!a.1) (some (([],[]),())) ((p9 F0).bind fun b=>(CA F0 r.2.2.2.1.2.2.2).bind fun d=>(Fe F0 b.1 d.1).bind fun e=>some (e.1,())):=by kernel_rfl
def Vx:Any:=.one ⟨Lp,l7,2,fun x=>QM F0 x.1 x.2.1⟩
def aoy:bb 76 Vx:=aC acS ⟨Y7,Vw,MY,DT,trivial⟩ func76 ad (by kernel_rfl)
def IC:Nat->Option Hint:=look [(3,{live:=[3,7,8,9],xl:=[3],rl:=[2]})]
def AA (a:Int)(b:List Int)(c d:Int):= bD 18 [(3,bd a),(7,jN 3 (.int .i64) b),(8,bd c),(9,bd d)]
def SN (a:Int):= bD 18 [(3,bd a)]
def ID (a:St):Option U:=ek ax F IC [.r,.r,.l,.r,.b,.i] f75 J n a
def KH:=iR ax F IC [.r,.r,.l,.r,.b] f75 dq 1
def M3 (c:Int)(b:List Int)(d a:Int):ID F J (n+1) (AA c b d a)=br (decide (a<d)) (ck (bG a (b.length:Int)) (ID F J n (AA (al (c+(aL b a 0))) b d (al (a+1))))) (J (.exit 0) (SN c)):=by kernel_rfl
def ae4 (a:Int):KH F (.exit 0) (SN a)=some (a,()):=by kernel_rfl
def QN (l:D10):=bL ax F IC f75 l7 dq 1 (l,())
def aoz (l:D10):QN F l=ID F (KH F) F.n (AA 0 l.1 (l.1.length:Int) 0):=by kernel_rfl
def Vy:Any:=.one ⟨l7,dq,1,fun x=>QN F0 x.1⟩
def aoA:bb 75 Vy:=aC ax trivial func75 IC (by kernel_rfl)
def PO (a:Int):=bL ax F ad f80 dq aM 1 (a,())
def arZ (a:Int):PO F a=br (a==0) (some (true,())) (some (a==4,())):=by kernel_rfl
def Y8:Any:=.one ⟨dq,aM,1,fun x=>PO F0 x.1⟩
def ar0:bb 80 Y8:=aC ax trivial func80 ad (by kernel_rfl)
def c4:=[(39,dH),(54,gQ),(75,Vy),(76,Vx),(77,KB),(78,Gj),(79,vE),(80,Y8)]
def c5:Nat->Option Hint:=look [(4,{live:=[1,16,17,18],rl:=[2]}),(11,{live:=[1,5,7,16,17,18,46,47,48],xl:=[1,16,17,18],rl:=[2]}),(14,{live:=[1,5,7,8,9,16,17,18,46,47,48,55,56,57],xl:=[1,5,7,16,17,18,46,47,48],rl:=[2]})]
def dy (i m o p q a r s w b:Int)(c:List Int)(d:List bq)(e:List bS)(f:List bK)(x g h j:Int)(t:List D4)(k l:List Int):= dN 91 [bX 1,(5,.v (.c (.own 1000000 none))),(7,.v (.c (.own 1000001 none))),(8,bd i),bX 9,(16,.v (.c (.own 1000002 none))),(17,bd m),(18,bd o),(46,.v (.c (.own 1000000 none))),(47,bd p),(48,bd q),(55,.v (.c (.own 1000000 (some a)))),(56,bd r),(57,bd s)] [(1,[aq w,aq b,.ro false 3 (.int .i64) c,.ro false 42 (ca) d,.ro false 95 (ew) e,.ro false 91 (cA) f]),(9,[aq x,aq g,aq h,aq j])] [aF 1000000 99 K4 t,aF 1000001 3 (.int .i64) k,aF 1000002 3 (.int .i64) l]
def KI (a:Bool):= bD 91 [(2,ED a)]
def Hc (h i j k w a:Int)(b:List Int)(c:List bq)(d:List bS)(e:List bK)(l:List D4)(f g:List Int):= dN 91 [bX 1,(5,.v (.c (.own 1000000 none))),(7,.v (.c (.own 1000001 none))),(16,.v (.c (.own 1000002 none))),(17,bd h),(18,bd i),(46,.v (.c (.own 1000000 none))),(47,bd j),(48,bd k)] [(1,[aq w,aq a,.ro false 3 (.int .i64) b,.ro false 42 (ca) c,.ro false 95 (ew) d,.ro false 91 (cA) e])] [aF 1000000 99 K4 l,aF 1000001 3 (.int .i64) f,aF 1000002 3 (.int .i64) g]
def eB (a:St):Option U:=ek c4 F c5 [.r,.r,.l,.r,.b,.i,.r,.r,.l,.b,.r,.r,.r,.r,.r,.b,.i,.r,.r,.l,.b,.r,.r,.b,.i] f31 J n a
def iF:Ex->St->Option U:=S8 Tryz.prog (look c4) F c5 [.r,.r,.l,.b,.r,.r,.b] (sub [.r,.r,.l,.r,.b,.i,.r,.r,.l,.b,.r,.r,.r,.r,.r,.b,.i] (dE f31)) (itk Tryz.prog (look c4) F c5 (sub [.r,.r,.l,.r,.b,.i,.r,.r,.l,.b,.r,.r,.r,.r,.r,.b,.i] (dE f31)) J n)
def fy (h i j k w a:Int)(b:List Int)(c:List bq)(d:List bS)(e:List bK)(l:List D4)(f g:List Int):= dN 91 [bX 1,(5,.v (.c (.own 1000000 none))),(7,.v (.c (.own 1000001 none))),(16,.v (.c (.own 1000002 none))),(17,bd h),(18,bd i),(46,.v (.c (.own 1000000 none))),(47,bd j),(48,bd k)] [(1,[aq w,aq a,.ro false 3 (.int .i64) b,.ro false 42 (ca) c,.ro false 95 (ew) d,.ro false 91 (cA) e])] [aF 1000000 99 K4 l,aF 1000001 3 (.int .i64) f,aF 1000002 3 (.int .i64) g]
def vF (a:Bool):= bD 91 [(2,ED a)]
def Hd (f g w a:Int)(b:List Int)(c:List bq)(d:List bS)(e:List bK)(h:List Int):= dN 91 [bX 1,(16,.v (.c (.own 1000000 none))),(17,bd f),(18,bd g)] [(1,[aq w,aq a,.ro false 3 (.int .i64) b,.ro false 42 (ca) c,.ro false 95 (ew) d,.ro false 91 (cA) e])] [aF 1000000 3 (.int .i64) h]
def h9 (a:St):Option U:=ek c4 F c5 [.r,.r,.l,.r,.b,.i,.r,.r,.l,.b,.r,.r,.r,.r,.r,.b,.i] f31 J n a
def iG:Ex->St->Option U:=S8 Tryz.prog (look c4) F c5 [.r,.r,.l,.b,.r,.r,.r,.r,.r,.b] (sub [.r,.r,.l,.r,.b,.i] (dE f31)) (itk Tryz.prog (look c4) F c5 (sub [.r,.r,.l,.r,.b,.i] (dE f31)) J n)
def iH (f g w a:Int)(b:List Int)(c:List bq)(d:List bS)(e:List bK)(h:List Int):= dN 91 [bX 1,(16,.v (.c (.own 1000000 none))),(17,bd f),(18,bd g)] [(1,[aq w,aq a,.ro false 3 (.int .i64) b,.ro false 42 (ca) c,.ro false 95 (ew) d,.ro false 91 (cA) e])] [aF 1000000 3 (.int .i64) h]
def mT (a:Bool):= bD 91 [(2,ED a)]
def He   := bD 91 []
def lP (a:St):Option U:=ek c4 F c5 [.r,.r,.l,.r,.b,.i] f31 J n a
def mU:=iR c4 F c5 [.r,.r,.l,.r,.b] f31 aM 1
def Bw (i m o p q d r a w e:Int)(f:List Int)(g:List bq)(h:List bS)(j:List bK)(x s t k:Int)(c:List D4)(b l:List Int):eB F J (n+1) (dy i m o p q d r a w e f g h j x s t k c b l)=br (decide (a<r)) (ck (bG a d) (ck (bG i (b.length:Int)) ((PO F0 (aL b i 0)).bind fun u=>br u.1 (ck (bG a (b.length:Int)) ((PO F0 (aL b a 0)).bind fun v=>br v.1 (br (x==(aL c a K4.az).1) (br (k==(aL c a K4.az).2.2.2) (J .ret (KI false)) (eB F J n (dy i m o p q d r (al (a+1)) w e f g h j x s t k c b l))) (eB F J n (dy i m o p q d r (al (a+1)) w e f g h j x s t k c b l))) (eB F J n (dy i m o p q d r (al (a+1)) w e f g h j x s t k c b l)))) (eB F J n (dy i m o p q d r (al (a+1)) w e f g h j x s t k c b l))))) (J (.exit 4) (Hc m o p q w e f g h j c b l)):=by kernel_rfl
def Bx (i j k a w c:Int)(d:List Int)(e:List bq)(f:List bS)(g:List bK)(b:List D4)(l h:List Int):h9 F J (n+1) (fy i j k a w c d e f g b l h)=br (decide (a<k)) (ck (bG a (b.length:Int)) (ck (okT a (b.length:Int)) (eB F (iF F J n) F.n (dy a i j k a a a 0 w c d e f g (aL b a K4.az).1 (aL b a K4.az).2.1 (aL b a K4.az).2.2.1 (aL b a K4.az).2.2.2 b l h)))) (J (.exit 2) (Hd i j w c d e f g h)):=by kernel_rfl
def By (f a w d:Int)(g:List Int)(c:List bq)(h:List bS)(i:List bK)(b:List Int):lP F J (n+1) (iH f a w d g c h i b)=br (decide (a<f)) (ck (bG a (b.length:Int)) (ck (bG (aL b a 0) (c.length:Int)) ((QM F0 (w,d) (aL c (aL b a 0) ca.az)).bind fun j=>(QN F0 j.1).bind fun k=>br (k.1 != 400) (J .ret (mT false)) (ck (bG (aL b a 0) (c.length:Int)) ((CA F0 (aL c (aL b a 0) ca.az).2.2.2.1.2.2.2).bind fun e=>(p9 F0).bind fun l=>(Fe F0 l.1 e.1).bind fun m=>h9 F (iG F J n) F.n (fy f a (e.1.length:Int) 0 w d g c h i e.1 m.2.1 b)))))) (J (.exit 0) (He)):=by kernel_rfl
def XG (a:Bool):iF F J n .ret (KI a)=J .ret (vF a):=by kernel_rfl
def Vz (h i j k w a:Int)(b:List Int)(c:List bq)(d:List bS)(e:List bK)(l:List D4)(f g:List Int):iF F J n (.exit 4) (Hc h i j k w a b c d e l f g)=h9 F J n (fy h i j (al (k+1)) w a b c d e l f g):=by kernel_rfl
def XH (a:Bool):iG F J n .ret (vF a)=J .ret (mT a):=by kernel_rfl
def VA (f g w a:Int)(b:List Int)(c:List bq)(d:List bS)(e:List bK)(h:List Int):iG F J n (.exit 2) (Hd f g w a b c d e h)=lP F J n (iH f (al (g+1)) w a b c d e h):=by kernel_rfl
def XI (a:Bool):mU F .ret (mT a)=some (a,()):=by kernel_rfl
def VB: mU F (.exit 0) (He)=some (true,()):=by kernel_rfl
def AB (w:l1):=bL c4 F c5 f31 fc aM 1 (w,())
def acT (w:l1):AB F w=(b2 F0 w).bind fun b=>br (!b.1) (some (false,())) ((gm F0 w).bind fun a=>lP F (mU F) F.n (iH (a.1.length:Int) 0 w.1.1 w.1.2 w.2.1 w.2.2.1 w.2.2.2.1 w.2.2.2.2 a.1)):=by kernel_rfl
def KJ:Any:=.one ⟨fc,aM,1,fun x=>AB F0 x.1⟩
def acU:bb 31 KJ:=aC c4 ⟨fa,lN,aoA,aoy,Y7,Vw,MY,ar0,trivial⟩ func31 c5 (by kernel_rfl)
def QO: Option (Args tf):=bL ax F ad f230 [] tf 2 (())
def aiL: QO F= some ((0,0,(0,aj,[]),aj),()):=by kernel_rfl
def PQ:Any:=.one ⟨[],tf,2,fun x=>QO F0⟩
def aiM:bb 230 PQ:=aC ax trivial func230 ad (by kernel_rfl)
def Y9:=[(145,gZ),(146,j4),(147,vD),(160,Gb)]
def M4 (c:D1)(b:List Int):=bL Y9 F ad f231 RT apL 2 (c,b,())
def al8 (c:D1)(b:List Int):M4 F c b=(bB F0 (b,0,false)).bind fun d=>(bB F0 d.2.1).bind fun e=>(lG F0 e.2.1).bind fun f=>(fw F0 f.2.1).bind fun a=>br a.2.1.2.2 (some ((0,0,(0,aj,[]),aj),false,())) (br (a.2.1.2.1 != (b.length:Int)) (some ((0,0,(0,aj,[]),aj),false,())) ((wE F0 c (d.1.1,e.1.1,f.1.1,a.1.1)).bind fun g=>br (!g.1) (some ((0,0,(0,aj,[]),aj),false,())) (some ((d.1.1,e.1.1,f.1.1,a.1.1),true,())))):=by kernel_rfl
def SO:Any:=.one ⟨RT,apL,2,fun x=>M4 F0 x.1 x.2.1⟩
def al9:bb 231 SO:=aC Y9 ⟨mM,sU,MS,Vc,trivial⟩ func231 ad (by kernel_rfl)
def va:=[(222,Cx),(230,PQ),(231,SO)]
def vb:Nat->Option Hint:=look [(3,{live:=[1,2,4,6,7],A9:=[(4,4,3,.int .i64)],rl:=[4,5]})]
def kd (b:List Int)(i c a j k l:Int)(m o:ByteArray)(s d e:Int)(f g:ByteArray)(p h:List Int):= dN 51 [(1,jN 5 (.int .u8) b),bX 2,bX 4,bX 6,(7,bd i)] [(2,[aq c,aq a]),(4,[aq j,aq k,aq l,.str m,.own 1000000 none,.str o]),(6,[aq s,aq d,aq e,.str f,.own 1000001 none,.str g])] [aF 1000000 3 (.int .i64) p,aF 1000001 3 (.int .i64) h]
def kf (a b c d:Int)(e f:ByteArray)(g:List Int):= dN 51 [bX 4,(5,bd a)] [(4,[aq b,aq c,aq d,.str e,.own 1000000 none,.str f])] [aF 1000000 3 (.int .i64) g]
def nU (a:St):Option U:=ek va F vb [.r,.r,.r,.b,.i] f152 J n a
def pd:=iR va F vb [.r,.r,.r,.b] f152 apP 2
def Ff (b:List Int)(e c k l m o:Int)(p q:ByteArray)(s f g:Int)(h i:ByteArray)(r j:List Int):nU F J (n+1) (kd b e c k l m o p q s f g h i r j)=(mN F0 b e).bind fun a=>br (!a.2.2.1) (J .ret (kf e s f g h i j)) (br (decide (a.2.1>=(b.length:Int))) (J .ret (kf e s f g h i j)) (ck (bG a.2.1 (b.length:Int)) (br ((aL b a.2.1 0) != 10) (J .ret (kf e s f g h i j)) (ck (decide ((a.1.size:Int)<=F.mem)) ((M4 F0 (c,k) (bytesOf a.1)).bind fun d=>br (!d.2.1) (J .ret (kf e s f g h i j)) (nU F J n (kd b (al (a.2.1+1)) c k l m o p q d.1.1 d.1.2.1 d.1.2.2.1.1 d.1.2.2.1.2.1 d.1.2.2.2 r d.1.2.2.1.2.2))))))):=by kernel_rfl
def KK (a b c d:Int)(e f:ByteArray)(g:List Int):pd F .ret (kf a b c d e f g)=some ((b,c,(d,e,g),f),a,()):=by kernel_rfl
def Ed (c:D1)(b:List Int):=bL va F vb f152 RT apP 2 (c,b,())
def ae5 (c:D1)(b:List Int):Ed F c b=(QO F0).bind fun a=>nU F (pd F) F.n (kd b 0 c.1 c.2 0 0 0 aj aj a.1.1 a.1.2.1 a.1.2.2.1.1 a.1.2.2.1.2.1 a.1.2.2.2 [] a.1.2.2.1.2.2):=by kernel_rfl
def M5:Any:=.one ⟨RT,apP,2,fun x=>Ed F0 x.1 x.2.1⟩
def ae6:bb 152 M5:=aC va ⟨SK,aiM,al9,trivial⟩ func152 vb (by kernel_rfl)
def SP:=[(232,nO)]
def Ee (a b:D13):=bL SP F ad f153 ay3 aM 1 (a,b,())
def ae7 (a b:D13):Ee F a b=br (a.1==b.1) (br (a.2.1==b.2.1) ((mc F0 a.2.2.1 b.2.2.1).bind fun c=>br c.1 (some (a.2.2.2.toList==b.2.2.2.toList,())) (some (false,()))) (some (false,()))) (some (false,())):=by kernel_rfl
def M6:Any:=.one ⟨ay3,aM,1,fun x=>Ee F0 x.1 x.2.1⟩
def ae8:bb 153 M6:=aC SP ⟨Ac,trivial⟩ func153 ad (by kernel_rfl)
def agS:=[(92,p1),(152,M5),(153,M6)]
def WT (c:D1)(r:bq):=bL agS F ad f81 Lp aM 1 (c,r,())
def ar1 (c:D1)(r:bq):WT F c r=(Ed F0 c r.2.2.2.2.2.2.1.1).bind fun a=>(p0 F0 c r).bind fun b=>br b.1 ((Ee F0 a.1 r.2.2.2.1).bind fun d=>br d.1 (some (a.2.1==(r.2.2.2.2.2.2.1.1.length:Int),())) (some (false,()))) (some (false,())):=by kernel_rfl
def Za:Any:=.one ⟨Lp,aM,1,fun x=>WT F0 x.1 x.2.1⟩
def ar2:bb 81 Za:=aC agS ⟨DT,ae6,ae8,trivial⟩ func81 ad (by kernel_rfl)
def fz:=[(39,dH),(54,gQ),(81,Za)]
def fA:Nat->Option Hint:=look [(4,{live:=[1,11,12,13],rl:=[2]}),(9,{live:=[1,4,11,12,13,27,28,29],xl:=[1,11,12,13],rl:=[2]})]
def fB (a g h:Int)(i:List bK)(j k w b:Int)(c:List Int)(d:List bq)(e:List bS)(f:List bK)(l:List Int):= dN 51 [bX 1,(4,bd a),(11,.v (.c (.own 1000000 none))),(12,bd g),(13,bd h),(27,jN 91 (cA) i),(28,bd j),(29,bd k)] [(1,[aq w,aq b,.ro false 3 (.int .i64) c,.ro false 42 (ca) d,.ro false 95 (ew) e,.ro false 91 (cA) f])] [aF 1000000 3 (.int .i64) l]
def KL (a:Bool):= bD 51 [(2,ED a)]
def Hf (f g w a:Int)(b:List Int)(c:List bq)(d:List bS)(e:List bK)(h:List Int):= dN 51 [bX 1,(11,.v (.c (.own 1000000 none))),(12,bd f),(13,bd g)] [(1,[aq w,aq a,.ro false 3 (.int .i64) b,.ro false 42 (ca) c,.ro false 95 (ew) d,.ro false 91 (cA) e])] [aF 1000000 3 (.int .i64) h]
def ia (a:St):Option U:=ek fz F fA [.r,.r,.l,.r,.b,.i,.r,.r,.l,.b,.r,.r,.r,.b,.i] f32 J n a
def iI:Ex->St->Option U:=S8 Tryz.prog (look fz) F fA [.r,.r,.l,.b,.r,.r,.r,.b] (sub [.r,.r,.l,.r,.b,.i] (dE f32)) (itk Tryz.prog (look fz) F fA (sub [.r,.r,.l,.r,.b,.i] (dE f32)) J n)
def iJ (f g w a:Int)(b:List Int)(c:List bq)(d:List bS)(e:List bK)(h:List Int):= dN 51 [bX 1,(11,.v (.c (.own 1000000 none))),(12,bd f),(13,bd g)] [(1,[aq w,aq a,.ro false 3 (.int .i64) b,.ro false 42 (ca) c,.ro false 95 (ew) d,.ro false 91 (cA) e])] [aF 1000000 3 (.int .i64) h]
def mV (a:Bool):= bD 51 [(2,ED a)]
def Hg   := bD 51 []
def lQ (a:St):Option U:=ek fz F fA [.r,.r,.l,.r,.b,.i] f32 J n a
def mW:=iR fz F fA [.r,.r,.l,.r,.b] f32 aM 1
def Bz (a i j:Int)(d:List bK)(k b w e:Int)(f:List Int)(c:List bq)(g:List bS)(h:List bK)(l:List Int):ia F J (n+1) (fB a i j d k b w e f c g h l)=br (decide (b<k)) (ck (bG b (d.length:Int)) (br ((aL d b cA.az).2.2==a) (ck (bG a (c.length:Int)) (br (decide ((aL c a ca.az).2.2.2.1.1<(aL d b cA.az).1)) (J .ret (KL false)) (ia F J n (fB a i j d k (al (b+1)) w e f c g h l)))) (ia F J n (fB a i j d k (al (b+1)) w e f c g h l)))) (J (.exit 2) (Hf i j w e f c g h l)):=by kernel_rfl
def BA (f a w e:Int)(g:List Int)(c:List bq)(h:List bS)(d:List bK)(b:List Int):lQ F J (n+1) (iJ f a w e g c h d b)=br (decide (a<f)) (ck (bG a (b.length:Int)) (ck (bG (aL b a 0) (c.length:Int)) ((WT F0 (w,e) (aL c (aL b a 0) ca.az)).bind fun i=>br (!i.1) (J .ret (mV false)) (ia F (iI F J n) F.n (fB (aL b a 0) f a d (d.length:Int) 0 w e g c h d b))))) (J (.exit 0) (Hg)):=by kernel_rfl
def XJ (a:Bool):iI F J n .ret (KL a)=J .ret (mV a):=by kernel_rfl
def VC (f g w a:Int)(b:List Int)(c:List bq)(d:List bS)(e:List bK)(h:List Int):iI F J n (.exit 2) (Hf f g w a b c d e h)=lQ F J n (iJ f (al (g+1)) w a b c d e h):=by kernel_rfl
def XK (a:Bool):mW F .ret (mV a)=some (a,()):=by kernel_rfl
def VD: mW F (.exit 0) (Hg)=some (true,()):=by kernel_rfl
def AD (w:l1):=bL fz F fA f32 fc aM 1 (w,())
def acV (w:l1):AD F w=(b2 F0 w).bind fun b=>br (!b.1) (some (false,())) ((gm F0 w).bind fun a=>lQ F (mW F) F.n (iJ (a.1.length:Int) 0 w.1.1 w.1.2 w.2.1 w.2.2.1 w.2.2.2.1 w.2.2.2.2 a.1)):=by kernel_rfl
def KM:Any:=.one ⟨fc,aM,1,fun x=>AD F0 x.1⟩
def acW:bb 32 KM:=aC fz ⟨fa,lN,ar2,trivial⟩ func32 fA (by kernel_rfl)
end
end Go.Am.Tryz
namespace Go.Am.Tryz
open Go.Am Go.Proofs Go.Proofs.Tryz
noncomputable section
variable {U:Type} (F:nY) (J:Ex->St->Option U) (n:Nat)
def SQ:=[(28,MX),(29,G7),(30,G9),(31,KJ),(32,KM)]
def Ef (w:l1):=bL SQ F ad f38 fc aM 1 (w,())
def ae9 (w:l1):Ef F w=(D7 F0 w).bind fun a=>br a.1 ((u6 F0 w).bind fun b=>br b.1 ((u7 F0 w).bind fun c=>br c.1 ((AB F0 w).bind fun d=>br d.1 ((AD F0 w).bind fun e=>some (e.1,())) (some (false,()))) (some (false,()))) (some (false,()))) (some (false,())):=by kernel_rfl
def M7:Any:=.one ⟨fc,aM,1,fun x=>Ef F0 x.1⟩
def afa:bb 38 M7:=aC SQ ⟨ae0,aas,aau,acU,acW,trivial⟩ func38 ad (by kernel_rfl)
def Hh:=[(58,iq),(59,pC),(96,sT),(97,cl),(98,av)]
def pe (a:List Int):=bL Hh F ad f42 iY apI 2 (a,())
def VE (c:List Int):pe F c=(pB F0 c).bind fun d=>(nN F0 d.1.1).bind fun a=>(c7 F0 a.2.1 2).bind fun b=>br b.1.1 ((af F0 b.2.1 4).bind fun e=>some (a.1.1,[e.1.1],())) ((il F0 b.2.1 3).bind fun f=>some (a.1.1,f.1.1,())):=by kernel_rfl
def BB:Any:=.one ⟨iY,apI,2,fun x=>pe F0 x.1⟩
def VF:bb 42 BB:=aC Hh ⟨oE,CW,Ki,c0,ay,trivial⟩ func42 ad (by kernel_rfl)
def Zb:=[(92,p1)]
def M8 (c:D1)(a:Int):=bL Zb F ad f100 apF vu 2 (c,a,())
def ama (c:D1)(a:Int):M8 F c a=(p0 F0 c (a,1,0,(0,0,(0,aj,[]),aj),[],[],([],0),[])).bind fun b=>br (!b.1) (some ((0,0,0,(0,0,(0,aj,[]),aj),[],[],([],0),[]),false,())) (some ((a,1,0,(0,0,(0,aj,[]),aj),[],[],([],0),[]),true,())):=by kernel_rfl
def SR:Any:=.one ⟨apF,vu,2,fun x=>M8 F0 x.1 x.2.1⟩
def amb:bb 100 SR:=aC Zb ⟨DT,trivial⟩ func100 ad (by kernel_rfl)
def vc:=[(39,dH),(89,ee),(99,gE),(100,SR)]
def vd:Nat->Option Hint:=look [(3,{live:=[2,4,6,7],A9:=[(4,2,3,.int .i64),(4,3,42,ca),(4,4,95,ew),(4,5,91,cA),(6,3,42,ca),(6,4,95,ew),(6,5,91,cA)],xl:=[4,6],rl:=[4,5]})]
def pf (i c a l m w b:Int)(o:List Int)(d:List bq)(e:List bS)(f:List bK)(g:List Int)(h:List bq)(j:List bS)(k:List bK):= dN 41 [bX 2,bX 4,bX 6,(7,bd i)] [(2,[aq c,aq a]),(4,[aq l,aq m,.own 1000000 none,.own 1000001 none,.own 1000002 none,.own 1000003 none]),(6,[aq w,aq b,.own 1000004 none,.own 1000005 none,.own 1000006 none,.own 1000007 none])] [aF 1000000 3 (.int .i64) o,aF 1000001 42 ca d,aF 1000002 95 ew e,aF 1000003 91 cA f,aF 1000004 3 (.int .i64) g,aF 1000005 42 ca h,aF 1000006 95 ew j,aF 1000007 91 cA k]
def vG (i j w a:Int)(k:List Int)(b:List bq)(c:List bS)(d:List bK)(e:List Int)(f:List bq)(g:List bS)(h:List bK):= dN 41 [bX 4,bX 6] [(4,[aq i,aq j,.own 1000000 none,.own 1000001 none,.own 1000002 none,.own 1000003 none]),(6,[aq w,aq a,.own 1000004 none,.own 1000005 none,.own 1000006 none,.own 1000007 none])] [aF 1000000 3 (.int .i64) k,aF 1000001 42 ca b,aF 1000002 95 ew c,aF 1000003 91 cA d,aF 1000004 3 (.int .i64) e,aF 1000005 42 ca f,aF 1000006 95 ew g,aF 1000007 91 cA h]
def ve (a:St):Option U:=ek vc F vd [.r,.r,.l,.r,.b,.i] f43 J n a
def AE:=iR vc F vd [.r,.r,.l,.r,.b] f43 apH 2
def qb (i c b l m w d:Int)(o:List Int)(e:List bq)(f:List bS)(g:List bK)(h:List Int)(a:List bq)(j:List bS)(k:List bK):ve F J (n+1) (pf i c b l m w d o e f g h a j k)=(gh F0 (c,b)).bind fun q=>br q.1 (br (decide (i<c)) ((M8 F0 (c,b) i).bind fun p=>ck (dV F a.length [p.1].length 208) (ve F J n (pf (al (i+1)) c b l m w d o e f g h (a++[p.1]) j k))) (J (.exit 0) (vG l m w d o e f g h a j k))) (J (.exit 0) (vG l m w d o e f g h a j k)):=by kernel_rfl
def Hi (j k w a:Int)(l:List Int)(f:List bq)(g:List bS)(h:List bK)(b:List Int)(c:List bq)(d:List bS)(e:List bK):AE F (.exit 0) (vG j k w a l f g h b c d e)=(b2 F0 ((w,a),b,c,d,e)).bind fun i=>br (!i.1) (some (((0,0),[],[],[],[]),false,())) (some (((w,a),b,c,d,e),true,())):=by kernel_rfl
def Eg (c:D1)(aJ:List Int):=bL vc F vd f43 apI apH 2 (c,aJ,())
def afb (c:D1)(aJ:List Int):Eg F c aJ=(fR F0 aJ).bind fun a=>ve F (AE F) F.n (pf 0 c.1 c.2 0 0 c.1 c.2 [] [] [] [] a.1 [] [] []):=by kernel_rfl
def M9:Any:=.one ⟨apI,apH,2,fun x=>Eg F0 x.1 x.2.1⟩
def afc:bb 43 M9:=aC vc ⟨fa,gi,lO,amb,trivial⟩ func43 vd (by kernel_rfl)
def kU:=[(98,av),(132,rY)]
def kV:Nat->Option Hint:=look [(3,{live:=[0,3,5,6],xl:=[5],rl:=[4]})]
def iX (i:Int)(a:List Int)(b c d e:Int)(f:List A7):St:={nt:=26,tm:=[(0,.v (.c (.ptr 4000000 0))),bX 3,(5,.v (.c (.own 1000000 none))),(6,bd i)],bx:=[(4000000,[.ro true 5 (.int .u8) a,aq b,aq c]),(3,[aq d,aq e])],bl:=[aF 1000000 125 w5 f],sp:=.v (.c (.ptr 4000000 0))}
def AF (a:List Int)(b c:Int)(d:List A7):St:={nt:=26,tm:=[(5,.v (.c (.own 1000000 none)))],bx:=[(4000000,[.ro true 5 (.int .u8) a,aq b,aq c])],bl:=[aF 1000000 125 w5 d],sp:=.v (.c (.ptr 4000000 0))}
def kW (a:St):Option U:=ek kU F kV [.r,.r,.l,.r,.b,.i] f103 J n a
def oA:=Lo kU F kV [.r,.r,.l,.r,.b] f103 .cur OT bs 2
def tA (i:Int)(g:List Int)(h j d e:Int)(c:List A7):kW F J (n+1) (iX i g h j d e c)=(af F0 (g,h,j) 4).bind fun a=>br (decide (i<a.1.1)) ((af F0 a.2.1 6).bind fun f=>(rX F0 f.2.1 (d,e)).bind fun b=>ck (dV F c.length [(f.1.1,b.1.1)].length 224) (kW F J n (iX (al (i+1)) b.2.1.1 b.2.1.2.1 b.2.1.2.2 d e (c++[(f.1.1,b.1.1)])))) (J (.exit 0) (AF a.2.1.1 a.2.1.2.1 a.2.1.2.2 c)):=by kernel_rfl
def wI (a:List Int)(b c:Int)(d:List A7):oA F (.exit 0) (AF a b c d)=some ((d,()),(a,b,c),()):=by kernel_rfl
def kg (c:D2)(a:D1):=fJ kU F kV f103 wc 0 .cur OT bs 2 (c,a,())
def VG (c:D2)(a:D1):kg F c a=kW F (oA F) F.n (iX 0 c.1 c.2.1 c.2.2 a.1 a.2 []):=by kernel_rfl
def oB:Any:=.two ⟨wc,0,.cur,OT,2,bs,fun x=>kg F0 x.1 x.2.1⟩
def Fg:bb 103 oB:=jh kU ⟨ay,F4,trivial⟩ func103 kV (by kernel_rfl)
def SS:=[(59,pC),(65,r1),(103,oB)]
def Eh (a:List Int):=bL SS F ad f45 iY agK 0 (a,())
def afd (b:List Int):Eh F b=(pB F0 b).bind fun c=>(r0 F0 c.1.1).bind fun a=>(kg F0 a.2.1 a.1.1.1).bind fun d=>some (a.1.1,d.1.1,()):=by kernel_rfl
def Na:Any:=.one ⟨iY,agK,0,fun x=>Eh F0 x.1⟩
def afe:bb 45 Na:=aC SS ⟨CW,F5,Fg,trivial⟩ func45 ad (by kernel_rfl)
def Zc:=[(99,gE)]
def qc (q:D9):=bL Zc F ad f290 ez ez 2 (q,())
def amc (q:D9):qc F q=(fR F0 q.2.2).bind fun a=>some ((q.1,q.2.1,a.1),()):=by kernel_rfl
def vf:Any:=.one ⟨ez,ez,2,fun x=>qc F0 x.1⟩
def KN:bb 290 vf:=aC Zc ⟨lO,trivial⟩ func290 ad (by kernel_rfl)
def SU:=[(290,vf)]
def Ei (s:D13):=bL SU F ad f239 tf tf 2 (s,())
def aff (s:D13):Ei F s=(qc F0 s.2.2.1).bind fun a=>some ((s.1,s.2.1,a.1,s.2.2.2),()):=by kernel_rfl
def Nb:Any:=.one ⟨tf,tf,2,fun x=>Ei F0 x.1⟩
def afg:bb 239 Nb:=aC SU ⟨KN,trivial⟩ func239 ad (by kernel_rfl)
def IE (p:D5):=bL ax F ad f240 kv kv 2 (p,())
def aiN (p:D5):IE F p=ck (dV F 0 p.length 32) (some ([]++p,())):=by kernel_rfl
def PR:Any:=.one ⟨kv,kv,2,fun x=>IE F0 x.1⟩
def aiO:bb 240 PR:=aC ax trivial func240 ad (by kernel_rfl)
def SV:=[(99,gE)]
def tB (p:D9):=bL SV F ad f291 ez ez 2 (p,())
def afh (p:D9):tB F p=(fR F0 p.2.2).bind fun a=>some ((p.1,p.2.1,a.1),()):=by kernel_rfl
def AG:Any:=.one ⟨ez,ez,2,fun x=>tB F0 x.1⟩
def PS:bb 291 AG:=aC SV ⟨lO,trivial⟩ func291 ad (by kernel_rfl)
def r9:=[(291,AG)]
def sa:Nat->Option Hint:=look [(3,{live:=[3,6,7,8],mat:=[(3,29,K9)],xl:=[3],rl:=[2]})]
def mX (a:List D9)(b c:Int)(d:List D9):= dN 19 [(3,.v (.c (.own 1000000 none))),(6,jN 29 (K9) a),(7,bd b),(8,bd c)] [] [aF 1000000 29 K9 d]
def Hj (a:List D9):= dN 19 [(3,.v (.c (.own 1000000 none)))] [] [aF 1000000 29 K9 a]
def sc (a:St):Option U:=ek r9 F sa [.r,.r,.l,.r,.b,.i] f241 J n a
def vH:=iR r9 F sa [.r,.r,.l,.r,.b] f241 GF 2
def BC (b:List D9)(d a:Int)(c:List D9):sc F J (n+1) (mX b d a c)=br (decide (a<d)) (ck (bG a (b.length:Int)) ((tB F0 (aL b a K9.az)).bind fun e=>ck (dV F c.length [e.1].length 48) (sc F J n (mX b d (al (a+1)) (c++[e.1]))))) (J (.exit 0) (Hj c)):=by kernel_rfl
def VH (a:List D9):vH F (.exit 0) (Hj a)=some (a,()):=by kernel_rfl
def AH (a:D14):=bL r9 F sa f241 GF GF 2 (a,())
def acX (a:D14):AH F a=sc F (vH F) F.n (mX a (a.length:Int) 0 []):=by kernel_rfl
def KO:Any:=.one ⟨GF,GF,2,fun x=>AH F0 x.1⟩
def acY:bb 241 KO:=aC r9 ⟨PS,trivial⟩ func241 sa (by kernel_rfl)
def Ej (d:D15):=bL ax F ad f242 wh wh 2 (d,())
def afi (d:D15):Ej F d=ck (dV F 0 d.1.length 1) (some (([]++d.1,d.2),())):=by kernel_rfl
def Nc:Any:=.one ⟨wh,wh,2,fun x=>Ej F0 x.1⟩
def afj:bb 242 Nc:=aC ax trivial func242 ad (by kernel_rfl)
def PT:=[(290,vf)]
def AI (b:D16):=bL PT F ad f316 Uv Uv 2 (b,())
def acZ (b:D16):AI F b=(qc F0 b.2).bind fun a=>some ((b.1,a.1),()):=by kernel_rfl
def KP:Any:=.one ⟨Uv,Uv,2,fun x=>AI F0 x.1⟩
def ac0:bb 316 KP:=aC PT ⟨KN,trivial⟩ func316 ad (by kernel_rfl)
def VI:=[(290,vf),(291,AG),(316,KP)]
def IF (m:T2):=bL VI F ad f292 oK oK 2 (m,())
def aiP (m:T2):IF F m=(AI F0 m.2.2.1).bind fun a=>(tB F0 m.2.2.2.1).bind fun b=>(qc F0 m.2.2.2.2.1).bind fun c=>some ((m.1,m.2.1,a.1,b.1,c.1,m.2.2.2.2.2),()):=by kernel_rfl
def PU:Any:=.one ⟨oK,oK,2,fun x=>IF F0 x.1⟩
def aiQ:bb 292 PU:=aC VI ⟨KN,PS,ac0,trivial⟩ func292 ad (by kernel_rfl)
def sd:=[(292,PU)]
def se:Nat->Option Hint:=look [(3,{live:=[3,6,7,8],mat:=[(3,125,w5)],xl:=[3],rl:=[2]})]
def mY (a:List A7)(b c:Int)(d:List A7):= dN 23 [(3,.v (.c (.own 1000000 none))),(6,jN 125 (w5) a),(7,bd b),(8,bd c)] [] [aF 1000000 125 w5 d]
def Hk (a:List A7):= dN 23 [(3,.v (.c (.own 1000000 none)))] [] [aF 1000000 125 w5 a]
def sf (a:St):Option U:=ek sd F se [.r,.r,.l,.r,.b,.i] f243 J n a
def vI:=iR sd F se [.r,.r,.l,.r,.b] f243 OT 2
def BD (b:List A7)(d a:Int)(c:List A7):sf F J (n+1) (mY b d a c)=br (decide (a<d)) (ck (bG a (b.length:Int)) ((IF F0 (aL b a w5.az).2).bind fun e=>ck (dV F c.length [((aL b a w5.az).1,e.1)].length 224) (sf F J n (mY b d (al (a+1)) (c++[((aL b a w5.az).1,e.1)]))))) (J (.exit 0) (Hk c)):=by kernel_rfl
def VJ (a:List A7):vI F (.exit 0) (Hk a)=some (a,()):=by kernel_rfl
def AJ (a:D24):=bL sd F se f243 OT OT 2 (a,())
def ac1 (a:D24):AJ F a=sf F (vI F) F.n (mY a (a.length:Int) 0 []):=by kernel_rfl
def KR:Any:=.one ⟨OT,OT,2,fun x=>AJ F0 x.1⟩
def ac2:bb 243 KR:=aC sd ⟨aiQ,trivial⟩ func243 se (by kernel_rfl)
def VK:=[(239,Nb),(240,PR),(241,KO),(242,Nc),(243,KR)]
def IG (r:bq):=bL VK F ad f165 Yu Yu 2 (r,())
def aiR (r:bq):IG F r=(Ei F0 r.2.2.2.1).bind fun a=>(IE F0 r.2.2.2.2.1).bind fun b=>(AH F0 r.2.2.2.2.2.1).bind fun c=>(Ej F0 r.2.2.2.2.2.2.1).bind fun d=>(AJ F0 r.2.2.2.2.2.2.2).bind fun e=>some ((r.1,r.2.1,r.2.2.1,a.1,b.1,c.1,d.1,e.1),()):=by kernel_rfl
def PV:Any:=.one ⟨Yu,Yu,2,fun x=>IG F0 x.1⟩
def aiS:bb 165 PV:=aC VK ⟨afg,aiO,acY,afj,ac2,trivial⟩ func165 ad (by kernel_rfl)
end
end Go.Am.Tryz
