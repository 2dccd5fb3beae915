/- No condition. -/
import Derived.Test.YtnllfndlcahalaaGreatDoorQfWJG6
set_option linter.all false
set_option maxRecDepth 100000
namespace Go.Am.Tryz
open Go.Am Go.Proofs Go.Proofs.Tryz
noncomputable section
variable {U:Type} (F:rH) (J:Ex->St->Option U) (n:Nat)
def vQ:=[(158,Jg)]
def vR:Nat->Option Hint:=look [(3,{live:=[3,5,10,11,12],mat:=[(5,52,K4)],roB:=[(3,0),(3,1)],xl:=[5],rl:=[4]})]
def hU (b:List D4)(c d:Int)(l a:List Int)(e:List D4):= cR 38 [b1 3,(5,.v (.c (.own 1000000 none))),(10,ia 52 (K4) b),(11,bb c),(12,bb d)] [(3,[.ro false 3 (.int .i64) l,.ro false 3 (.int .i64) a])] [az 1000000 52 K4 e]
def wI (a:List D4):= cR 38 [(5,.v (.c (.own 1000000 none)))] [] [az 1000000 52 K4 a]
def kE (a:St):Option U:=fe vQ F vR [.r,.r,.l,.r,.b,.i] f231 J n a
def Bc:=hH vQ F vR [.r,.r,.l,.r,.b] f231 kl 2
def FM (b:List D4)(e a:Int)(l f:List Int)(c:List D4):kE F J (n+1) (hU b e a l f c)=br (decide (a<e)) (ck (bE a (b.length:Int)) (br ((c.length:Int)==2) (J (.exit 0) (wI c)) ((LC F0 (l,f) (aH b a K4.aC)).bind fun d=>br (d.2.1==0) (ck (en F c.length [(aH b a K4.aC)].length 32) (kE F J n (hU b e (aj (a+1)) d.1.1 d.1.2 (c++[(aH b a K4.aC)])))) (br (d.2.1==4) (ck (en F c.length [(aH b a K4.aC)].length 32) (kE F J n (hU b e (aj (a+1)) d.1.1 d.1.2 (c++[(aH b a K4.aC)])))) (kE F J n (hU b e (aj (a+1)) d.1.1 d.1.2 c)))))) (J (.exit 0) (wI c)):=by kernel_rfl
def HM (a:List D4):Bc F (.exit 0) (wI a)=some (a,()):=by kernel_rfl
def o3 (p:D5)(l:D43):=bm vQ F vR f231 ajx kl 2 (p,l,())
def ah4 (p:D5)(l:D43):o3 F p l=kE F (Bc F) F.n (hU p (p.length:Int) 0 l.1 l.2 []):=by kernel_rfl
def Ob:Any:=.one ⟨ajx,kl,2,fun x=>o3 F0 x.1 x.2.1⟩
def ah5:a8 231 Ob:=aq vQ ⟨XB,trivial⟩ func231 vR (by kernel_rfl)
def Bd:=[(104,jy),(180,GD),(181,PC)]
def Be:Nat->Option Hint:=look [(3,{live:=[3,6,7,8],mat:=[(3,9,.str)],xl:=[3],rl:=[2]})]
def sZ (a:List D4)(b c:Int)(d:List ByteArray):= cR 23 [(3,.v (.c (.own 1000000 none))),(6,ia 52 (K4) a),(7,bb b),(8,bb c)] [] [az 1000000 9 (.str) d]
def Q8 (a:ByteArray):= bU 23 [(2,Z0 a)]
def Oc (a:List ByteArray):= cR 23 [(3,.v (.c (.own 1000000 none)))] [] [az 1000000 9 (.str) a]
def Bf (a:St):Option U:=fe Bd F Be [.r,.r,.l,.r,.b,.i] f106 J n a
def s0:=hH Bd F Be [.r,.r,.l,.r,.b] f106 dC 1
def HN (b:List D4)(d a:Int)(c:List ByteArray):Bf F J (n+1) (sZ b d a c)=br (decide (a<d)) (ck (bE a (b.length:Int)) ((oY F0 (aH b a K4.aC)).bind fun f=>br (!f.1) (J .ret (Q8 ak)) ((Fw F0 (aH b a K4.aC)).bind fun e=>ck (en F c.length [e.1].length 16) (Bf F J n (sZ b d (aj (a+1)) (c++[e.1])))))) (J (.exit 0) (Oc c)):=by kernel_rfl
def afj (a:ByteArray):s0 F .ret (Q8 a)=some (a,()):=by kernel_rfl
def acD (a:List ByteArray):s0 F (.exit 0) (Oc a)=(strings_Join F0 a (ByteArray.mk #[44])).bind fun b=>some (b.1,()):=by kernel_rfl
def Jh (a:D5):=bm Bd F Be f106 kl dC 1 (a,())
def ami (a:D5):Jh F a=Bf F (s0 F) F.n (sZ a (a.length:Int) 0 []):=by kernel_rfl
def Q9:Any:=.one ⟨kl,dC,1,fun x=>Jh F0 x.1⟩
def amj:a8 106 Q9:=aq Bd ⟨nI,WW,akG,trivial⟩ func106 Be (by kernel_rfl)
def EP:=[(60,eP),(104,jy),(105,vq),(106,Q9)]
def ER:Nat->Option Hint:=look [(2,{live:=[0,1,2,10,11,12],xl:=[0,1,2],rl:=[6]})]
def vS (a:ByteArray)(b:Int)(c d:List D4)(e f:Int):= bU 38 [(0,Z0 a),(1,bb b),(2,ia 52 (K4) c),(10,ia 52 (K4) d),(11,bb e),(12,bb f)]
def UF (a:ByteArray):= bU 38 [(6,Z0 a)]
def Ra (a:ByteArray)(b:Int)(c:List D4):= bU 38 [(0,Z0 a),(1,bb b),(2,ia 52 (K4) c)]
def ES (a:St):Option U:=fe EP F ER [.r,.l,.r,.b,.i] f46 J n a
def vT:=hH EP F ER [.r,.l,.r,.b] f46 dC 1
def LJ (c:ByteArray)(d:Int)(e b:List D4)(f a:Int):ES F J (n+1) (vS c d e b f a)=br (decide (a<f)) (ck (bE a (b.length:Int)) ((oY F0 (aH b a K4.aC)).bind fun g=>br (!g.1) (J .ret (UF ak)) (ES F J n (vS c d e b f (aj (a+1)))))) (J (.exit 0) (Ra c d e)):=by kernel_rfl
def ah6 (a:ByteArray):vT F .ret (UF a)=some (a,()):=by kernel_rfl
def afk (a:ByteArray)(e:Int)(d:List D4):vT F (.exit 0) (Ra a e d)=ck (UU F a.size (ByteArray.mk #[47]).size) ((kX F0 e).bind fun b=>ck (UU F (a++(ByteArray.mk #[47])).size b.1.size) (ck (UU F ((a++(ByteArray.mk #[47]))++b.1).size (ByteArray.mk #[124]).size) ((Jh F0 d).bind fun c=>ck (UU F (((a++(ByteArray.mk #[47]))++b.1)++(ByteArray.mk #[124])).size c.1.size) (br (decide ((d.length:Int)>2)) (some (ak,())) ((e5 F0 ((((a++(ByteArray.mk #[47]))++b.1)++(ByteArray.mk #[124]))++c.1)).bind fun f=>br (!f.1) (some (ak,())) (some ((((a++(ByteArray.mk #[47]))++b.1)++(ByteArray.mk #[124]))++c.1,()))))))):=by kernel_rfl
def FN (a:ByteArray)(b:Int)(c:D5):=bm EP F ER f46 aDv dC 1 (a,b,c,())
def apG (b:ByteArray)(c:Int)(a:D5):FN F b c a=ES F (vT F) F.n (vS b c a a (a.length:Int) 0):=by kernel_rfl
def UG:Any:=.one ⟨aDv,dC,1,fun x=>FN F0 x.1 x.2.1 x.2.2.1⟩
def apH:a8 46 UG:=aq EP ⟨gW,nI,Lb,amj,trivial⟩ func46 ER (by kernel_rfl)
def UH:=[(46,UG),(47,il),(48,mB),(49,ea)]
def uj (c:D1)(q:D9)(a:Int)(b:D5):=bm UH F ad f15 aDw ajy 2 (c,q,a,b,())
def ah7 (c:D1)(q:D9)(b:Int)(e:D5):uj F c q b e=(FN F0 q.2.1 b e).bind fun a=>(gZ F0 q).bind fun d=>(nL F0 c (a.1,d.1)).bind fun f=>br (!f.1) (some ((ak,0,ak,[]),false,())) ((er F0 a.1).bind fun g=>br (g.1 != b) (some ((ak,0,ak,[]),false,())) (some ((a.1,d.1),true,()))):=by kernel_rfl
def Od:Any:=.one ⟨aDw,ajy,2,fun x=>uj F0 x.1 x.2.1 x.2.2.1 x.2.2.2.1⟩
def ah8:a8 15 Od:=aq UH ⟨apH,mM,vx,fw,trivial⟩ func15 ad (by kernel_rfl)
def apI:=[(15,Od),(58,b2),(85,Ba),(86,vM),(87,n1),(168,lG),(229,Pe),(231,Ob)]
def afl (c:D1)(r:a7):=bm apI F ad f174 x4 ajy 2 (c,r,())
def ayB (c:D1)(r:a7):afl F c r=(cp F0 c r).bind fun g=>br (!g.1) (some ((ak,0,ak,[]),false,())) ((sQ F0 c r.2.1).bind fun h=>br (h.1 != r.1) (some ((ak,0,ak,[]),false,())) (br (decide (r.2.2.1>=r.2.1)) (some ((ak,0,ak,[]),false,())) (br (r.2.2.2.1.2.2.1.1 != (aj (r.2.1-1))) ((sS F0 c r r.2.1).bind fun i=>br (!i.1) (some ((ak,0,ak,[]),false,())) ((j1 F0).bind fun b=>(rq F0 r.2.2.2.1.2.2.1.2.1).bind fun d=>(ru F0 b.1 d.1).bind fun e=>(o3 F0 r.2.2.2.2.1 e.1).bind fun f=>(uj F0 c r.2.2.2.1.2.2.1 r.2.1 f.1).bind fun a=>some (a.1,a.2.1,()))) ((j1 F0).bind fun b=>(rq F0 r.2.2.2.1.2.2.1.2.1).bind fun d=>(ru F0 b.1 d.1).bind fun e=>(o3 F0 r.2.2.2.2.1 e.1).bind fun f=>(uj F0 c r.2.2.2.1.2.2.1 r.2.1 f.1).bind fun a=>some (a.1,a.2.1,()))))):=by kernel_rfl
def afm:Any:=.one ⟨x4,ajy,2,fun x=>afl F0 x.1 x.2.1⟩
def ayC:a8 174 afm:=aq apI ⟨ah8,ct,Pf,LF,A8,sR,ae9,ah5,trivial⟩ func174 ad (by kernel_rfl)
def Bg:=[(58,b2),(80,bO),(178,uf)]
def Bh:Nat->Option Hint:=look [(5,{live:=[3,4,5,6,8,9],yc:=[(6,7,3,.int .i64),(6,9,52,K4),(6,10,50,K9),(6,11,5,.int .u8),(6,13,136,pY)],xl:=[6,8],rl:=[6,7]})]
def mT (a c b r d e f g h:Int)(i:ByteArray)(j:List Int)(k:ByteArray)(l:List D4)(o:List D9)(p:List Int)(q:Int)(s:List lv)(m M:Int)(m2:ByteArray)(N:Int)(O:ByteArray)(P:List Int)(Q:Int)(R:ByteArray)(S:List Int)(T:Int)(W:ByteArray)(X:List Int)(Y Z qd qe qf qg qh qi qj qk ql:Int)(qm qn:ByteArray)(qo qp t u v w x:Int)(y z:ByteArray)(A:Int)(qq:List Int)(B:List D4)(C:List D9)(D:List Int)(E:List lv)(G:List Int)(H:List D4)(I:List D9)(K:List Int)(L:List lv):= cR 43 [b1 3,b1 4,b1 5,b1 6,b1 8,(9,bb a)] [(3,[ao c,ao b]),(4,[ao r,ao d,ao e,ao f,ao g,ao h,.str i,.ro false 3 (.int .i64) j,.str k,.ro false 52 (K4) l,.ro false 50 (K9) o,.ro false 5 (.int .u8) p,ao q,.ro false 136 (pY) s]),(5,[ao m,ao M,.str m2,ao N,.str O,.ro false 3 (.int .i64) P,ao Q,.str R,.ro false 3 (.int .i64) S,ao T,.str W,.ro false 3 (.int .i64) X,ao Y,ao Z,ao qd,ao qe,ao qf]),(6,[ao qg,ao qh,ao qi,ao qj,ao qk,ao ql,.str qm,.own 1000000 none,.str qn,.own 1000001 none,.own 1000002 none,.own 1000003 none,ao qo,.own 1000004 none]),(8,[ao qp,ao t,ao u,ao v,ao w,ao x,.str y,.own 1000005 none,.str z,.own 1000006 none,.own 1000007 none,.own 1000008 none,ao A,.own 1000009 none])] [az 1000000 3 (.int .i64) qq,az 1000001 52 K4 B,az 1000002 50 K9 C,az 1000003 5 (.int .u8) D,az 1000004 136 pY E,az 1000005 3 (.int .i64) G,az 1000006 52 K4 H,az 1000007 50 K9 I,az 1000008 5 (.int .u8) K,az 1000009 136 pY L]
def Rb (e:Bool)(f g h i j k:Int)(l m:ByteArray)(o:Int)(p:List Int)(a:List D4)(b:List D9)(c:List Int)(d:List lv):= cR 43 [b1 6,(7,JH e)] [(6,[ao f,ao g,ao h,ao i,ao j,ao k,.str l,.own 1000000 none,.str m,.own 1000001 none,.own 1000002 none,.own 1000003 none,ao o,.own 1000004 none])] [az 1000000 3 (.int .i64) p,az 1000001 52 K4 a,az 1000002 50 K9 b,az 1000003 5 (.int .u8) c,az 1000004 136 pY d]
def Oe (s t u v w x:Int)(y z:ByteArray)(A B a b c d e:Int)(f g:ByteArray)(h:Int)(C:List Int)(i:List D4)(j:List D9)(k:List Int)(l:List lv)(m:List Int)(o:List D4)(p:List D9)(q:List Int)(r:List lv):= cR 43 [b1 6,b1 8] [(6,[ao s,ao t,ao u,ao v,ao w,ao x,.str y,.own 1000000 none,.str z,.own 1000001 none,.own 1000002 none,.own 1000003 none,ao A,.own 1000004 none]),(8,[ao B,ao a,ao b,ao c,ao d,ao e,.str f,.own 1000005 none,.str g,.own 1000006 none,.own 1000007 none,.own 1000008 none,ao h,.own 1000009 none])] [az 1000000 3 (.int .i64) C,az 1000001 52 K4 i,az 1000002 50 K9 j,az 1000003 5 (.int .u8) k,az 1000004 136 pY l,az 1000005 3 (.int .i64) m,az 1000006 52 K4 o,az 1000007 50 K9 p,az 1000008 5 (.int .u8) q,az 1000009 136 pY r]
def rv (a:St):Option U:=fe Bg F Bh [.r,.r,.r,.l,.r,.b,.i] f175 J n a
def s4:=hH Bg F Bh [.r,.r,.r,.l,.r,.b] f175 gB 2
def HO (d c e r f g h i j:Int)(k:ByteArray)(l:List Int)(o:ByteArray)(p:List D4)(q:List D9)(s:List Int)(t:Int)(u:List lv)(m O:Int)(m2:ByteArray)(P:Int)(Q:ByteArray)(R:List Int)(S:Int)(T:ByteArray)(W:List Int)(X:Int)(Y:ByteArray)(Z:List Int)(qd qe qf qg qh qi qj qk ql qm qn:Int)(qo qp:ByteArray)(qq qt v w x y z:Int)(A B:ByteArray)(C:Int)(qu:List Int)(D:List D4)(E:List D9)(G:List Int)(H:List lv)(I:List Int)(K:List D4)(L:List D9)(M:List Int)(N:List lv):rv F J (n+1) (mT d c e r f g h i j k l o p q s t u m O m2 P Q R S T W X Y Z qd qe qf qg qh qi qj qk ql qm qn qo qp qq qt v w x y z A B C qu D E G H I K L M N)=br (decide (d<c)) (br (d==r) (rv F J n (mT (aj (d+1)) c e r f g h i j k l o p q s t u m O m2 P Q R S T W X Y Z qd qe qf qg qh qi qj qk ql qm qn qo qp qq qt v w x y z A B C qu D E G H I K L M N)) ((mR F0 (c,e) (qt,v,w,(x,y,(z,A,I),B),K,L,(M,C),N) d (m,O,(m2,P,Q,R),(S,T,W),(X,Y,Z),qd,qe,qf,qg,qh)).bind fun a=>br (!a.2.1) ((aA F0 (r,f,g,(h,i,(j,k,l),o),p,q,(s,t),u)).bind fun b=>J .ret (Rb false b.1.1 b.1.2.1 b.1.2.2.1 b.1.2.2.2.1.1 b.1.2.2.2.1.2.1 b.1.2.2.2.1.2.2.1.1 b.1.2.2.2.1.2.2.1.2.1 b.1.2.2.2.1.2.2.2 b.1.2.2.2.2.2.2.1.2 b.1.2.2.2.1.2.2.1.2.2 b.1.2.2.2.2.1 b.1.2.2.2.2.2.1 b.1.2.2.2.2.2.2.1.1 b.1.2.2.2.2.2.2.2)) (rv F J n (mT (aj (d+1)) c e r f g h i j k l o p q s t u m O m2 P Q R S T W X Y Z qd qe qf qg qh qi qj qk ql qm qn qo qp qq a.1.1 a.1.2.1 a.1.2.2.1 a.1.2.2.2.1.1 a.1.2.2.2.1.2.1 a.1.2.2.2.1.2.2.1.1 a.1.2.2.2.1.2.2.1.2.1 a.1.2.2.2.1.2.2.2 a.1.2.2.2.2.2.2.1.2 qu D E G H a.1.2.2.2.1.2.2.1.2.2 a.1.2.2.2.2.1 a.1.2.2.2.2.2.1 a.1.2.2.2.2.2.2.1.1 a.1.2.2.2.2.2.2.2)))) (J (.exit 0) (Oe qi qj qk ql qm qn qo qp qq qt v w x y z A B C qu D E G H I K L M N)):=by kernel_rfl
def afn (e:Bool)(f g h i j k:Int)(l m:ByteArray)(o:Int)(p:List Int)(a:List D4)(b:List D9)(c:List Int)(d:List lv):s4 F .ret (Rb e f g h i j k l m o p a b c d)=some ((f,g,h,(i,j,(k,l,p),m),a,b,(c,o),d),e,()):=by kernel_rfl
def acE (t u v w x y:Int)(z A:ByteArray)(B o a b c d e:Int)(f g:ByteArray)(h:Int)(C:List Int)(p:List D4)(q:List D9)(r:List Int)(s:List lv)(i:List Int)(j:List D4)(k:List D9)(l:List Int)(m:List lv):s4 F (.exit 0) (Oe t u v w x y z A B o a b c d e f g h C p q r s i j k l m)=some ((o,a,b,(c,d,(e,f,i),g),j,k,(l,h),m),true,()):=by kernel_rfl
def Bi (c:D1)(r:a7)(m:OZ):=bm Bg F Bh f175 aaA gB 2 (c,r,m,())
def amk (c:D1)(r:a7)(m:OZ):Bi F c r m=(aA F0 r).bind fun a=>(cp F0 c r).bind fun b=>br (!b.1) (some (a.1,false,())) (rv F (s4 F) F.n (mT 0 c.1 c.2 r.1 r.2.1 r.2.2.1 r.2.2.2.1.1 r.2.2.2.1.2.1 r.2.2.2.1.2.2.1.1 r.2.2.2.1.2.2.1.2.1 r.2.2.2.1.2.2.1.2.2 r.2.2.2.1.2.2.2 r.2.2.2.2.1 r.2.2.2.2.2.1 r.2.2.2.2.2.2.1.1 r.2.2.2.2.2.2.1.2 r.2.2.2.2.2.2.2 m.1 m.2.1 m.2.2.1.1 m.2.2.1.2.1 m.2.2.1.2.2.1 m.2.2.1.2.2.2 m.2.2.2.1.1 m.2.2.2.1.2.1 m.2.2.2.1.2.2 m.2.2.2.2.1.1 m.2.2.2.2.1.2.1 m.2.2.2.2.1.2.2 m.2.2.2.2.2.1 m.2.2.2.2.2.2.1 m.2.2.2.2.2.2.2.1 m.2.2.2.2.2.2.2.2.1 m.2.2.2.2.2.2.2.2.2 0 0 0 0 0 0 ak ak 0 a.1.1 a.1.2.1 a.1.2.2.1 a.1.2.2.2.1.1 a.1.2.2.2.1.2.1 a.1.2.2.2.1.2.2.1.1 a.1.2.2.2.1.2.2.1.2.1 a.1.2.2.2.1.2.2.2 a.1.2.2.2.2.2.2.1.2 [] [] [] [] [] a.1.2.2.2.1.2.2.1.2.2 a.1.2.2.2.2.1 a.1.2.2.2.2.2.1 a.1.2.2.2.2.2.2.1.1 a.1.2.2.2.2.2.2.2)):=by kernel_rfl
def Rc:Any:=.one ⟨aaA,gB,2,fun x=>Bi F0 x.1 x.2.1 x.2.2.1⟩
def aml:a8 175 Rc:=aq Bg ⟨ct,ca,I8,trivial⟩ func175 Bh (by kernel_rfl)
def XE:=[(80,bO),(161,wG),(174,afm),(175,Rc)]
abbrev apJ:List (Ty×Bool):=[(b8,true),(.int .i64,false)]
def Ji (c:D1)(r:a7):=bm XE F ad f99 x4 apJ 0 (c,r,())
def amm (c:D1)(r:a7):Ji F c r=(afl F0 c r).bind fun a=>br (!a.2.1) (some (r,3,())) ((aA F0 r).bind fun b=>(Bi F0 c (b.1.1,b.1.2.1,r.2.1,b.1.2.2.2) (1,0,a.1,(0,ak,[]),(0,ak,[]),0,0,0,0,0)).bind fun d=>br (!d.2.1) (some (r,4,())) ((rn F0 c d.1 a.1).bind fun e=>br (!e.2.1) (some (r,4,())) (some (e.1,0,())))):=by kernel_rfl
def Re:Any:=.one ⟨x4,apJ,0,fun x=>Ji F0 x.1 x.2.1⟩
def amn:a8 99 Re:=aq XE ⟨ca,N2,ayC,aml,trivial⟩ func99 ad (by kernel_rfl)
def vU:=[(176,A7)]
def vV:Nat->Option Hint:=look [(2,{live:=[2,3,4,6],yc:=[(4,7,3,.int .i64),(4,9,52,K4),(4,10,50,K9),(4,11,5,.int .u8),(4,13,136,pY)],xl:=[3,4],rl:=[4,5]})]
def pS (i c a r b d e f g:Int)(h:ByteArray)(j:List Int)(k:ByteArray)(l:List D4)(m:List D9)(o:List Int)(p:Int)(q:List lv)(w x y z A B:Int)(C D:ByteArray)(E:Int)(G:List Int)(s:List D4)(t:List D9)(u:List Int)(v:List lv):= cR 41 [b1 2,b1 3,b1 4,(6,bb i)] [(2,[ao c,ao a]),(3,[ao r,ao b,ao d,ao e,ao f,ao g,.str h,.ro false 3 (.int .i64) j,.str k,.ro false 52 (K4) l,.ro false 50 (K9) m,.ro false 5 (.int .u8) o,ao p,.ro false 136 (pY) q]),(4,[ao w,ao x,ao y,ao z,ao A,ao B,.str C,.own 1000000 none,.str D,.own 1000001 none,.own 1000002 none,.own 1000003 none,ao E,.own 1000004 none])] [az 1000000 3 (.int .i64) G,az 1000001 52 K4 s,az 1000002 50 K9 t,az 1000003 5 (.int .u8) u,az 1000004 136 pY v]
def Bj (e f g h i j k:Int)(l:ByteArray)(m:List Int)(o:ByteArray)(p:List D4)(a:List D9)(b:List Int)(c:Int)(d:List lv):= cR 41 [b1 4,(5,bb e)] [(4,[ao f,ao g,ao h,ao i,ao j,ao k,.str l,.ro false 3 (.int .i64) m,.str o,.ro false 52 (K4) p,.ro false 50 (K9) a,.ro false 5 (.int .u8) b,ao c,.ro false 136 (pY) d])] []
def LK (r a b c d e:Int)(f:ByteArray)(g:List Int)(h:ByteArray)(i:List D4)(j:List D9)(k:List Int)(l:Int)(m:List lv)(t u v w x y:Int)(z A:ByteArray)(B:Int)(C:List Int)(o:List D4)(p:List D9)(q:List Int)(s:List lv):= cR 41 [b1 3,b1 4] [(3,[ao r,ao a,ao b,ao c,ao d,ao e,.str f,.ro false 3 (.int .i64) g,.str h,.ro false 52 (K4) i,.ro false 50 (K9) j,.ro false 5 (.int .u8) k,ao l,.ro false 136 (pY) m]),(4,[ao t,ao u,ao v,ao w,ao x,ao y,.str z,.own 1000000 none,.str A,.own 1000001 none,.own 1000002 none,.own 1000003 none,ao B,.own 1000004 none])] [az 1000000 3 (.int .i64) C,az 1000001 52 K4 o,az 1000002 50 K9 p,az 1000003 5 (.int .u8) q,az 1000004 136 pY s]
def vW (a:St):Option U:=fe vU F vV [.r,.l,.r,.b,.i] f100 J n a
def pT:=hH vU F vV [.r,.l,.r,.b] f100 apJ 0
def FO (i c s r d e f g h:Int)(j:ByteArray)(k:List Int)(l:ByteArray)(m:List D4)(b:List D9)(o:List Int)(p:Int)(q:List lv)(x y z A B C:Int)(D E:ByteArray)(G:Int)(H:List Int)(t:List D4)(u:List D9)(v:List Int)(w:List lv):vW F J (n+1) (pS i c s r d e f g h j k l m b o p q x y z A B C D E G H t u v w)=br (decide (i>=0)) (ck (bE i (b.length:Int)) (br (!((aH b i K9.aC).2.1.toList==ak.toList)) ((n0 F0 (c,s) (r,d,e,(f,g,(h,j,k),l),m,b,(o,p),q) (aH b i K9.aC).1 (aH b i K9.aC).2.1 true).bind fun a=>br (!a.2.1) (J .ret (Bj 3 r d e f g h j k l m b o p q)) (J .ret (Bj 0 a.1.1 a.1.2.1 a.1.2.2.1 a.1.2.2.2.1.1 a.1.2.2.2.1.2.1 a.1.2.2.2.1.2.2.1.1 a.1.2.2.2.1.2.2.1.2.1 a.1.2.2.2.1.2.2.1.2.2 a.1.2.2.2.1.2.2.2 a.1.2.2.2.2.1 a.1.2.2.2.2.2.1 a.1.2.2.2.2.2.2.1.1 a.1.2.2.2.2.2.2.1.2 a.1.2.2.2.2.2.2.2))) (vW F J n (pS (aj (i-1)) c s r d e f g h j k l m b o p q x y z A B C D E G H t u v w)))) (J (.exit 0) (LK r d e f g h j k l m b o p q x y z A B C D E G H t u v w)):=by kernel_rfl
def LL (e f g h i j k:Int)(l:ByteArray)(m:List Int)(o:ByteArray)(p:List D4)(a:List D9)(b:List Int)(c:Int)(d:List lv):pT F .ret (Bj e f g h i j k l m o p a b c d)=some ((f,g,h,(i,j,(k,l,m),o),p,a,(b,c),d),e,()):=by kernel_rfl
def ZB (r a b c d e:Int)(f:ByteArray)(g:List Int)(h:ByteArray)(i:List D4)(j:List D9)(k:List Int)(l:Int)(m:List lv)(t u v w x y:Int)(z A:ByteArray)(B:Int)(C:List Int)(o:List D4)(p:List D9)(q:List Int)(s:List lv):pT F (.exit 0) (LK r a b c d e f g h i j k l m t u v w x y z A B C o p q s)=some ((r,a,b,(c,d,(e,f,g),h),i,j,(k,l),m),3,()):=by kernel_rfl
def ET (c:D1)(r:a7):=bm vU F vV f100 x4 apJ 0 (c,r,())
def ah9 (c:D1)(r:a7):ET F c r=vW F (pT F) F.n (pS (aj ((r.2.2.2.2.2.1.length:Int)-1)) c.1 c.2 r.1 r.2.1 r.2.2.1 r.2.2.2.1.1 r.2.2.2.1.2.1 r.2.2.2.1.2.2.1.1 r.2.2.2.1.2.2.1.2.1 r.2.2.2.1.2.2.1.2.2 r.2.2.2.1.2.2.2 r.2.2.2.2.1 r.2.2.2.2.2.1 r.2.2.2.2.2.2.1.1 r.2.2.2.2.2.2.1.2 r.2.2.2.2.2.2.2 0 0 0 0 0 0 ak ak 0 [] [] [] [] []):=by kernel_rfl
def Of:Any:=.one ⟨x4,apJ,0,fun x=>ET F0 x.1 x.2.1⟩
def aia:a8 100 Of:=aq vU ⟨Pd,trivial⟩ func100 vV (by kernel_rfl)
def ajY:=[(58,b2),(80,bO),(168,lG),(177,k8),(178,uf)]
def YO (c:D1)(r:a7):=bm ajY F ad f101 x4 gB 2 (c,r,())
def awo (c:D1)(r:a7):YO F c r=(cp F0 c r).bind fun h=>br (!h.1) ((aA F0 r).bind fun b=>some (b.1,false,())) (br (r.2.1==60) ((aA F0 r).bind fun b=>some (b.1,false,())) ((aA F0 r).bind fun a=>(sQ F0 c (aj (a.1.2.1+1))).bind fun e=>br (e.1==r.1) ((eK F0 c a.1.2.2.2.2.2.1 (aj (a.1.2.1+1),ak,[r.1])).bind fun f=>br (!f.2.1) ((aA F0 r).bind fun d=>some (d.1,false,())) (some ((a.1.1,aj (a.1.2.1+1),a.1.2.2.1,a.1.2.2.2.1,a.1.2.2.2.2.1,f.1,a.1.2.2.2.2.2.2),true,()))) ((mR F0 c (a.1.1,aj (a.1.2.1+1),a.1.2.2) e.1 (3,aj (a.1.2.1+1),(ak,0,ak,[]),(0,ak,[]),r.2.2.2.1.2.2.1,r.1,0,0,0,0)).bind fun g=>br (!g.2.1) ((aA F0 r).bind fun d=>some (d.1,false,())) (some (g.1,true,()))))):=by kernel_rfl
def abg:Any:=.one ⟨x4,gB,2,fun x=>YO F0 x.1 x.2.1⟩
def awp:a8 101 abg:=aq ajY ⟨ct,ca,sR,sP,I8,trivial⟩ func101 ad (by kernel_rfl)
def abh:=[(118,oD),(154,k3)]
def Og (d:D14)(keep:Int):=bm abh F ad f102 aDP pf 1 (d,keep,())
def apK (d:D14)(keep:Int):Og F d keep=(lE F0 d).bind fun a=>(rb F0 d).bind fun b=>br b.1 (ck (okT (aj (d.2+(if (aj ((d.1.length:Int)-d.2))<(if 0>keep then 0 else keep) then (aj ((d.1.length:Int)-d.2)) else (if 0>keep then 0 else keep)))) (a.1.1.length:Int)) (some ((a.1.1.take (aj (d.2+(if (aj ((d.1.length:Int)-d.2))<(if 0>keep then 0 else keep) then (aj ((d.1.length:Int)-d.2)) else (if 0>keep then 0 else keep)))).toNat,aj (d.2+(if (aj ((d.1.length:Int)-d.2))<(if 0>keep then 0 else keep) then (aj ((d.1.length:Int)-d.2)) else (if 0>keep then 0 else keep)))),()))) (some (a.1,())):=by kernel_rfl
def UI:Any:=.one ⟨aDP,pf,1,fun x=>Og F0 x.1 x.2.1⟩
def apL:a8 102 UI:=aq abh ⟨AD,sB,trivial⟩ func102 ad (by kernel_rfl)
def Sn: Option (Args BK):=bm aB F ad f52 [] BK 2 (())
def amo: Sn F= some ((0,0,(0,ak,[]),ak),()):=by kernel_rfl
def Rf:Any:=.one ⟨[],BK,2,fun x=>Sn F0⟩
def amp:a8 52 Rf:=aq aB trivial func52 ad (by kernel_rfl)
def abi:=[(50,kB),(112,iB),(113,wx),(114,k0)]
def Oh (c:D1)(b:List Int):=bm abi F ad f54 Tl ajC 2 (c,b,())
def apM (c:D1)(b:List Int):Oh F c b=(bI F0 (b,0,false)).bind fun d=>(bI F0 d.2.1).bind fun e=>(mF F0 e.2.1).bind fun f=>(gf F0 f.2.1).bind fun a=>br a.2.1.2.2 (some ((0,0,(0,ak,[]),ak),false,())) (br (a.2.1.2.1 != (b.length:Int)) (some ((0,0,(0,ak,[]),ak),false,())) ((kY F0 c (d.1.1,e.1.1,f.1.1,a.1.1)).bind fun g=>br (!g.1) (some ((0,0,(0,ak,[]),ak),false,())) (some ((d.1.1,e.1.1,f.1.1,a.1.1),true,())))):=by kernel_rfl
def UJ:Any:=.one ⟨Tl,ajC,2,fun x=>Oh F0 x.1 x.2.1⟩
def apN:a8 54 UJ:=aq abi ⟨q8,nN,NF,tB,trivial⟩ func54 ad (by kernel_rfl)
def vX:=[(52,Rf),(53,CO),(54,UJ)]
def vY:Nat->Option Hint:=look [(3,{live:=[1,2,4,6,7],yc:=[(4,4,3,.int .i64)],rl:=[4,5]})]
def ld (b:List Int)(i c a j k l:Int)(m o:ByteArray)(s d e:Int)(f g:ByteArray)(p h:List Int):= cR 51 [(1,ia 5 (.int .u8) b),b1 2,b1 4,b1 6,(7,bb i)] [(2,[ao c,ao a]),(4,[ao j,ao k,ao l,.str m,.own 1000000 none,.str o]),(6,[ao s,ao d,ao e,.str f,.own 1000001 none,.str g])] [az 1000000 3 (.int .i64) p,az 1000001 3 (.int .i64) h]
def lg (a b c d:Int)(e f:ByteArray)(g:List Int):= cR 51 [b1 4,(5,bb a)] [(4,[ao b,ao c,ao d,.str e,.own 1000000 none,.str f])] [az 1000000 3 (.int .i64) g]
def oK (a:St):Option U:=fe vX F vY [.r,.r,.r,.b,.i] f18 J n a
def pU:=hH vX F vY [.r,.r,.r,.b] f18 atJ 2
def FP (b:List Int)(e c k l m o:Int)(p q:ByteArray)(s f g:Int)(h i:ByteArray)(r j:List Int):oK F J (n+1) (ld b e c k l m o p q s f g h i r j)=(nO F0 b e).bind fun a=>br (!a.2.2.1) (J .ret (lg e s f g h i j)) (br (decide (a.2.1>=(b.length:Int))) (J .ret (lg e s f g h i j)) (ck (bE a.2.1 (b.length:Int)) (br ((aH b a.2.1 0) != 10) (J .ret (lg e s f g h i j)) (ck (decide ((a.1.size:Int)<=F.mem)) ((Oh F0 (c,k) (bytesOf a.1)).bind fun d=>br (!d.2.1) (J .ret (lg e s f g h i j)) (oK F J n (ld b (aj (a.2.1+1)) c k l m o p q d.1.1 d.1.2.1 d.1.2.2.1.1 d.1.2.2.1.2.1 d.1.2.2.2 r d.1.2.2.1.2.2))))))):=by kernel_rfl
def LM (a b c d:Int)(e f:ByteArray)(g:List Int):pU F .ret (lg a b c d e f g)=some ((b,c,(d,e,g),f),a,()):=by kernel_rfl
def o4 (c:D1)(b:List Int):=bm vX F vY f18 Tl atJ 2 (c,b,())
def aib (c:D1)(b:List Int):o4 F c b=(Sn F0).bind fun a=>oK F (pU F) F.n (ld b 0 c.1 c.2 0 0 0 ak ak a.1.1 a.1.2.1 a.1.2.2.1.1 a.1.2.2.1.2.1 a.1.2.2.2 [] a.1.2.2.1.2.2):=by kernel_rfl
def pV:Any:=.one ⟨Tl,atJ,2,fun x=>o4 F0 x.1 x.2.1⟩
def C1:a8 18 pV:=aq vX ⟨amp,Ue,apN,trivial⟩ func18 vY (by kernel_rfl)
def ajZ:=[(18,pV),(58,b2),(80,bO)]
def aj0:Nat->Option Hint:=look [(900005,{live:=[],mat:=[(3,0,b8),(5,0,K12)]})]
def Rg (c:D1)(r:a7):=bm ajZ F aj0 f103 x4 To 1 (c,r,())
def awq (c:D1)(r:a7):Rg F c r=(cp F0 c r).bind fun b=>br (!b.1) ((aA F0 r).bind fun d=>some (d.1,())) ((o4 F0 c r.2.2.2.2.2.2.1.1).bind fun a=>ck (RZ 0 a.2.1 (r.2.2.2.2.2.2.1.1.length:Int)) (ck (en F 0 ((r.2.2.2.2.2.2.1.1.take a.2.1.toNat).drop (0:Int).toNat).length 1) (some ((r.1,(if 60<(if 1>(if (aj (a.1.2.2.1.1+1))>a.1.1 then (aj (a.1.2.2.1.1+1)) else a.1.1) then 1 else (if (aj (a.1.2.2.1.1+1))>a.1.1 then (aj (a.1.2.2.1.1+1)) else a.1.1)) then 60 else (if 1>(if (aj (a.1.2.2.1.1+1))>a.1.1 then (aj (a.1.2.2.1.1+1)) else a.1.1) then 1 else (if (aj (a.1.2.2.1.1+1))>a.1.1 then (aj (a.1.2.2.1.1+1)) else a.1.1)),(0,a.1,[],[],([]++((r.2.2.2.2.2.2.1.1.take a.2.1.toNat).drop (0:Int).toNat),a.2.1),[]))),())))):=by kernel_rfl
def abj:Any:=.one ⟨x4,To,1,fun x=>Rg F0 x.1 x.2.1⟩
def awr:a8 103 abj:=aq ajZ ⟨C1,ct,ca,trivial⟩ func103 aj0 (by kernel_rfl)
def XF:=[(80,bO),(96,Pg),(99,Re),(100,Of),(101,abg),(102,UI),(103,abj)]
abbrev aGP:List (Ty×Bool):=[(K1,true),(b8,true),(K45,true)]
def Jj (c:D1)(r:a7)(d:D45):=bm XF F ad f45 aGP apJ 0 (c,r,d,())
def amq (c:D1)(r:a7)(d:D45):Jj F c r d=(aA F0 r).bind fun a=>br (d.1==1) ((Ji F0 c r).bind fun b=>some (b.1,b.2.1,())) (br (d.1==6) ((ET F0 c r).bind fun e=>some (e.1,e.2.1,())) (br (d.1==7) ((YO F0 c r).bind fun f=>br (!f.2.1) (some (r,3,())) (some (f.1,0,()))) (br (d.1==8) ((Og F0 r.2.2.2.2.2.2.1 d.2.2.1).bind fun h=>(Rg F0 c (a.1.1,a.1.2.1,a.1.2.2.1,a.1.2.2.2.1,a.1.2.2.2.2.1,a.1.2.2.2.2.2.1,h.1,a.1.2.2.2.2.2.2.2)).bind fun i=>some (i.1,0,())) ((JK F0 c r d.2.2.2).bind fun g=>br g.2.1 (br (!(d.2.2.2.1==4)) (some (r,3,())) (some (g.1,0,()))) (some (r,3,())))))):=by kernel_rfl
def Rh:Any:=.one ⟨aGP,apJ,0,fun x=>Jj F0 x.1 x.2.1 x.2.2.1⟩
def amr:a8 45 Rh:=aq XF ⟨ca,afh,amn,aia,awp,apL,awr,trivial⟩ func45 ad (by kernel_rfl)
def atL:=[(20,dp),(35,gh),(41,bA),(42,QN),(43,NU),(44,Q7),(45,Rh)]
def s5 (w:lx)(d:D45):=bm atL F ad f14 ajL aeW 0 (w,d,())
def aBi (w:lx)(d:D45):s5 F w d=(b6 F0 w).bind fun h=>br (!h.1) (some (((0,0),[],[],[],[]),1,())) ((aZ F0 d.1 1 10).bind fun i=>br (!i.1) (some (((0,0),[],[],[],[]),1,())) ((I0 F0 w d).bind fun j=>br (!j.1) ((aS F0 w).bind fun k=>some (k.1,2,())) ((aS F0 w).bind fun c=>br (d.1==2) ((ED F0 w d.2.1).bind fun f=>br (f.2.1==0) ((b6 F0 f.1).bind fun e=>br (!e.1) (br (4 != 0) ((aS F0 w).bind fun b=>some (b.1,4,())) (some (f.1,0,()))) (br (f.2.1 != 0) ((aS F0 w).bind fun b=>some (b.1,f.2.1,())) (some (f.1,0,())))) (br (f.2.1 != 0) ((aS F0 w).bind fun b=>some (b.1,f.2.1,())) (some (f.1,0,())))) (br (d.1==3) ((n5 F0 w d).bind fun a=>br (a.2.1==0) ((b6 F0 a.1).bind fun e=>br (!e.1) (br (4 != 0) ((aS F0 w).bind fun b=>some (b.1,4,())) (some (a.1,0,()))) (br (a.2.1 != 0) ((aS F0 w).bind fun b=>some (b.1,a.2.1,())) (some (a.1,0,())))) (br (a.2.1 != 0) ((aS F0 w).bind fun b=>some (b.1,a.2.1,())) (some (a.1,0,())))) (br (d.1==4) ((n5 F0 w d).bind fun a=>br (a.2.1==0) ((b6 F0 a.1).bind fun e=>br (!e.1) (br (4 != 0) ((aS F0 w).bind fun b=>some (b.1,4,())) (some (a.1,0,()))) (br (a.2.1 != 0) ((aS F0 w).bind fun b=>some (b.1,a.2.1,())) (some (a.1,0,())))) (br (a.2.1 != 0) ((aS F0 w).bind fun b=>some (b.1,a.2.1,())) (some (a.1,0,())))) (br (d.1==5) ((n5 F0 w d).bind fun a=>br (a.2.1==0) ((b6 F0 a.1).bind fun e=>br (!e.1) (br (4 != 0) ((aS F0 w).bind fun b=>some (b.1,4,())) (some (a.1,0,()))) (br (a.2.1 != 0) ((aS F0 w).bind fun b=>some (b.1,a.2.1,())) (some (a.1,0,())))) (br (a.2.1 != 0) ((aS F0 w).bind fun b=>some (b.1,a.2.1,())) (some (a.1,0,())))) (br (d.1==10) ((n5 F0 w d).bind fun a=>br (a.2.1==0) ((b6 F0 a.1).bind fun e=>br (!e.1) (br (4 != 0) ((aS F0 w).bind fun b=>some (b.1,4,())) (some (a.1,0,()))) (br (a.2.1 != 0) ((aS F0 w).bind fun b=>some (b.1,a.2.1,())) (some (a.1,0,())))) (br (a.2.1 != 0) ((aS F0 w).bind fun b=>some (b.1,a.2.1,())) (some (a.1,0,())))) (ck (bE d.2.1 (w.2.2.1.length:Int)) ((Jj F0 w.1 (aH w.2.2.1 d.2.1 b8.aC) d).bind fun g=>ck (bE d.2.1 (c.1.2.2.1.length:Int)) (br (g.2.1==0) ((b6 F0 (c.1.1,c.1.2.1,c.1.2.2.1.set d.2.1.toNat g.1,c.1.2.2.2)).bind fun e=>br (!e.1) (br (4 != 0) ((aS F0 w).bind fun b=>some (b.1,4,())) (some ((c.1.1,c.1.2.1,c.1.2.2.1.set d.2.1.toNat g.1,c.1.2.2.2),0,()))) (br (g.2.1 != 0) ((aS F0 w).bind fun b=>some (b.1,g.2.1,())) (some ((c.1.1,c.1.2.1,c.1.2.2.1.set d.2.1.toNat g.1,c.1.2.2.2),0,())))) (br (g.2.1 != 0) ((aS F0 w).bind fun b=>some (b.1,g.2.1,())) (some ((c.1.1,c.1.2.1,c.1.2.2.1.set d.2.1.toNat g.1,c.1.2.2.2),0,()))))))))))))):=by kernel_rfl
def XG:Any:=.one ⟨ajL,aeW,0,fun x=>s5 F0 x.1 x.2.1⟩
def apO:a8 14 XG:=aq atL ⟨eQ,k4,bW,alX,ahO,amh,amr,trivial⟩ func14 ad (by kernel_rfl)
def Jk:=[(14,XG),(20,dp),(35,gh)]
def Jl:Nat->Option Hint:=look [(6,{live:=[4,6,7,23,24,25],mat:=[(7,3,.int .i64)],roB:=[(6,2),(6,3),(6,4),(6,5)],yc:=[(4,2,3,.int .i64),(4,3,65,b8),(4,4,105,ek),(4,5,41,cz)],xl:=[4,6,7],rl:=[4,5]})]
def ry (j:List D45)(k l m o p a:Int)(b:List Int)(c:List a7)(d:List bS)(e:List bF)(q f:List Int)(g:List a7)(h:List bS)(i:List bF):= cR 45 [b1 4,b1 6,(7,.v (.c (.own 1000000 none))),(23,ia 56 (K45) j),(24,bb k),(25,bb l)] [(4,[ao m,ao o,.own 1000001 none,.own 1000002 none,.own 1000003 none,.own 1000004 none]),(6,[ao p,ao a,.ro false 3 (.int .i64) b,.ro false 65 (b8) c,.ro false 105 (ek) d,.ro false 41 (cz) e])] [az 1000000 3 (.int .i64) q,az 1000001 3 (.int .i64) f,az 1000002 65 b8 g,az 1000003 105 ek h,az 1000004 41 cz i]
def UK (j k l a:Int)(b:List Int)(c:List a7)(d:List bS)(e:List bF)(m f:List Int)(g:List a7)(h:List bS)(i:List bF):= cR 45 [b1 4,b1 6,(7,.v (.c (.own 1000000 none)))] [(4,[ao j,ao k,.own 1000001 none,.own 1000002 none,.own 1000003 none,.own 1000004 none]),(6,[ao l,ao a,.ro false 3 (.int .i64) b,.ro false 65 (b8) c,.ro false 105 (ek) d,.ro false 41 (cz) e])] [az 1000000 3 (.int .i64) m,az 1000001 3 (.int .i64) f,az 1000002 65 b8 g,az 1000003 105 ek h,az 1000004 41 cz i]
def Bk (a:St):Option U:=fe Jk F Jl [.r,.r,.r,.r,.l,.r,.b,.i] f10 J n a
abbrev aGQ:List (Ty×Bool):=[(hJ,true),(.sl 3 (.int .i64),false)]
def LN:=hH Jk F Jl [.r,.r,.r,.r,.l,.r,.b] f10 aGQ 0
def Oi (d:List D45)(o b p q r e:Int)(f:List Int)(g:List a7)(h:List bS)(i:List bF)(c j:List Int)(k:List a7)(l:List bS)(m:List bF):Bk F J (n+1) (ry d o b p q r e f g h i c j k l m)=br (decide (b<o)) (ck (bE b (d.length:Int)) ((s5 F0 ((r,e),f,g,h,i) (aH d b K45.aC)).bind fun a=>br (a.2.1==0) (ck (en F c.length [a.2.1].length 8) (Bk F J n (ry d o (aj (b+1)) p q a.1.1.1 a.1.1.2 a.1.2.1 a.1.2.2.1 a.1.2.2.2.1 a.1.2.2.2.2 (c++[a.2.1]) j k l m))) (ck (en F c.length [a.2.1].length 8) (Bk F J n (ry d o (aj (b+1)) p q r e f g h i (c++[a.2.1]) j k l m))))) (J (.exit 0) (UK p q r e f g h i c j k l m)):=by kernel_rfl
def aic (l m f a:Int)(b:List Int)(c:List a7)(d:List bS)(e:List bF)(g h:List Int)(i:List a7)(j:List bS)(k:List bF):LN F (.exit 0) (UK l m f a b c d e g h i j k)=some (((f,a),b,c,d,e),g,()):=by kernel_rfl
def LO (w:lx)(a:D46):=bm Jk F Jl f10 ayw aGQ 0 (w,a,())
def asE (w:lx)(b:D46):LO F w b=(aS F0 w).bind fun a=>(b6 F0 w).bind fun c=>br (!c.1) (some (a.1,[],())) (br (decide ((b.length:Int)>500)) (some (a.1,[],())) (Bk F (LN F) F.n (ry b (b.length:Int) 0 0 0 a.1.1.1 a.1.1.2 a.1.2.1 a.1.2.2.1 a.1.2.2.2.1 a.1.2.2.2.2 [] [] [] [] []))):=by kernel_rfl
def XH:Any:=.one ⟨ayw,aGQ,0,fun x=>LO F0 x.1 x.2.1⟩
def asF:a8 10 XH:=aq Jk ⟨apO,eQ,k4,trivial⟩ func10 Jl (by kernel_rfl)
def afo:=[(156,CX)]
def Sp (s t:ByteArray):=bm afo F ad f82 Tx aP 1 (s,t,())
def asG (s t:ByteArray):Sp F s t=(sM F0 s t).bind fun a=>br a.1 (some (true,())) ((sM F0 t s).bind fun b=>some (b.1,())):=by kernel_rfl
def XI:Any:=.one ⟨Tx,aP,1,fun x=>Sp F0 x.1 x.2.1⟩
def asH:a8 82 XI:=aq afo ⟨Uo,trivial⟩ func82 ad (by kernel_rfl)
end
end Go.Am.Tryz
namespace Go.Am.Tryz
open Go.Am Go.Proofs Go.Proofs.Tryz
noncomputable section
variable {U:Type} (F:rH) (J:Ex->St->Option U) (n:Nat)
def iv:=[(17,eR),(20,dp),(82,XI)]
def iw:Nat->Option Hint:=look [(4,{live:=[1,11,12,13],rl:=[2]}),(7,{live:=[1,4,11,12,13,18,19,20],xl:=[1,11,12,13],rl:=[2]})]
def lh (a h i j k w b:Int)(c:List Int)(d:List a7)(e:List bS)(f:List bF)(l g:List Int):= cR 42 [b1 1,(4,bb a),(11,.v (.c (.own 1000000 none))),(12,bb h),(13,bb i),(18,.v (.c (.own 1000001 none))),(19,bb j),(20,bb k)] [(1,[ao w,ao b,.ro false 3 (.int .i64) c,.ro false 65 (b8) d,.ro false 105 (ek) e,.ro false 41 (cz) f])] [az 1000000 3 (.int .i64) l,az 1000001 3 (.int .i64) g]
def Oj (a:Bool):= bU 42 [(2,JH a)]
def LP (f g w a:Int)(b:List Int)(c:List a7)(d:List bS)(e:List bF)(h:List Int):= cR 42 [b1 1,(11,.v (.c (.own 1000000 none))),(12,bb f),(13,bb g)] [(1,[ao w,ao a,.ro false 3 (.int .i64) b,.ro false 65 (b8) c,.ro false 105 (ek) d,.ro false 41 (cz) e])] [az 1000000 3 (.int .i64) h]
def oL (a:St):Option U:=fe iv F iw [.r,.r,.l,.r,.b,.i,.r,.r,.l,.b,.r,.r,.b,.i] f36 J n a
def lj:Ex->St->Option U:=Vy Tryz.prog (look iv) F iw [.r,.r,.l,.b,.r,.r,.b] (sub [.r,.r,.l,.r,.b,.i] (eW f36)) (itk Tryz.prog (look iv) F iw (sub [.r,.r,.l,.r,.b,.i] (eW f36)) J n)
def ll (f g w a:Int)(b:List Int)(c:List a7)(d:List bS)(e:List bF)(h:List Int):= cR 42 [b1 1,(11,.v (.c (.own 1000000 none))),(12,bb f),(13,bb g)] [(1,[ao w,ao a,.ro false 3 (.int .i64) b,.ro false 65 (b8) c,.ro false 105 (ek) d,.ro false 41 (cz) e])] [az 1000000 3 (.int .i64) h]
def Bl (a:Bool):= bU 42 [(2,JH a)]
def LQ   := bU 42 []
def oM (a:St):Option U:=fe iv F iw [.r,.r,.l,.r,.b,.i] f36 J n a
def pW:=hH iv F iw [.r,.r,.l,.r,.b] f36 aP 1
def FQ (a i j k c w e:Int)(f:List Int)(b:List a7)(g:List bS)(h:List bF)(l d:List Int):oL F J (n+1) (lh a i j k c w e f b g h l d)=br (decide (c<k)) (ck (bE c (d.length:Int)) (ck (bE a (b.length:Int)) (ck (bE (aH d c 0) (b.length:Int)) ((Sp F0 (aH b a b8.aC).2.2.2.1.2.2.2 (aH b (aH d c 0) b8.aC).2.2.2.1.2.2.2).bind fun m=>br (!m.1) (J .ret (Oj false)) (oL F J n (lh a i j k (aj (c+1)) w e f b g h l d)))))) (J (.exit 2) (LP i j w e f b g h l)):=by kernel_rfl
def FR (h a w c:Int)(d:List Int)(e:List a7)(f:List bS)(g:List bF)(b:List Int):oM F J (n+1) (ll h a w c d e f g b)=br (decide (a<h)) (ck (bE a (b.length:Int)) ((fR F0 ((w,c),d,e,f,g)).bind fun i=>oL F (lj F J n) F.n (lh (aH b a 0) h a (i.1.length:Int) 0 w c d e f g b i.1))) (J (.exit 0) (LQ)):=by kernel_rfl
def acF (a:Bool):lj F J n .ret (Oj a)=J .ret (Bl a):=by kernel_rfl
def ZC (f g w a:Int)(b:List Int)(c:List a7)(d:List bS)(e:List bF)(h:List Int):lj F J n (.exit 2) (LP f g w a b c d e h)=oM F J n (ll f (aj (g+1)) w a b c d e h):=by kernel_rfl
def acG (a:Bool):pW F .ret (Bl a)=some (a,()):=by kernel_rfl
def ZD: pW F (.exit 0) (LQ)=some (true,()):=by kernel_rfl
def EU (w:lx):=bm iv F iw f36 jE aP 1 (w,())
def aid (w:lx):EU F w=(b6 F0 w).bind fun b=>br (!b.1) (some (false,())) ((fR F0 w).bind fun a=>oM F (pW F) F.n (ll (a.1.length:Int) 0 w.1.1 w.1.2 w.2.1 w.2.2.1 w.2.2.2.1 w.2.2.2.2 a.1)):=by kernel_rfl
def Ok:Any:=.one ⟨jE,aP,1,fun x=>EU F0 x.1⟩
def aie:a8 36 Ok:=aq iv ⟨ha,eQ,asH,trivial⟩ func36 iw (by kernel_rfl)
def fz:=[(20,dp),(51,cP)]
def fA:Nat->Option Hint:=look [(4,{live:=[1,11,12,13],rl:=[2]}),(7,{live:=[1,4,11,12,13,18,19,20],xl:=[1,11,12,13],rl:=[2]})]
def dv (i:List bF)(j k:Int)(l:List bF)(m o w b:Int)(c:List Int)(d:List a7)(e:List bS)(f:List bF)(a:Int)(g:ByteArray)(h:Int):= cR 53 [b1 1,b1 4,(11,ia 41 (cz) i),(12,bb j),(13,bb k),(18,ia 41 (cz) l),(19,bb m),(20,bb o)] [(1,[ao w,ao b,.ro false 3 (.int .i64) c,.ro false 65 (b8) d,.ro false 105 (ek) e,.ro false 41 (cz) f]),(4,[ao a,.str g,ao h])] []
def HP (a:Bool):= bU 53 [(2,JH a)]
def FT (f:List bF)(g h w a:Int)(b:List Int)(c:List a7)(d:List bS)(e:List bF):= cR 53 [b1 1,(11,ia 41 (cz) f),(12,bb g),(13,bb h)] [(1,[ao w,ao a,.ro false 3 (.int .i64) b,.ro false 65 (b8) c,.ro false 105 (ek) d,.ro false 41 (cz) e])] []
def ey (a:St):Option U:=fe fz F fA [.r,.r,.l,.r,.b,.i,.r,.r,.l,.b,.r,.r,.b,.i] f37 J n a
def iC:Ex->St->Option U:=Vy Tryz.prog (look fz) F fA [.r,.r,.l,.b,.r,.r,.b] (sub [.r,.r,.l,.r,.b,.i] (eW f37)) (itk Tryz.prog (look fz) F fA (sub [.r,.r,.l,.r,.b,.i] (eW f37)) J n)
def iD (f:List bF)(g h w a:Int)(b:List Int)(c:List a7)(d:List bS)(e:List bF):= cR 53 [b1 1,(11,ia 41 (cz) f),(12,bb g),(13,bb h)] [(1,[ao w,ao a,.ro false 3 (.int .i64) b,.ro false 65 (b8) c,.ro false 105 (ek) d,.ro false 41 (cz) e])] []
def tD (a:Bool):= bU 53 [(2,JH a)]
def FU   := bU 53 []
def ln (a:St):Option U:=fe fz F fA [.r,.r,.l,.r,.b,.i] f37 J n a
def lU:=hH fz F fA [.r,.r,.l,.r,.b] f37 aP 1
def Bm (k:List bF)(l m:Int)(c:List bF)(o b w f:Int)(d:List Int)(g:List a7)(h:List bS)(i:List bF)(a:Int)(j:ByteArray)(e:Int):ey F J (n+1) (dv k l m c o b w f d g h i a j e)=br (decide (b<o)) (ck (bE b (c.length:Int)) ((c8 F0 d e).bind fun p=>br (!p.1) (br (e==(aH c b cz.aC).2.2) (br (a==(aH c b cz.aC).1) (br (!(j.toList==(aH c b cz.aC).2.1.toList)) (J .ret (HP false)) (ey F J n (dv k l m c o (aj (b+1)) w f d g h i a j e))) (ey F J n (dv k l m c o (aj (b+1)) w f d g h i a j e))) (ey F J n (dv k l m c o (aj (b+1)) w f d g h i a j e))) (ey F J n (dv k l m c o (aj (b+1)) w f d g h i a j e)))) (J (.exit 2) (FT k l m w f d g h i)):=by kernel_rfl
def Bn (b:List bF)(d a w e:Int)(f:List Int)(g:List a7)(h:List bS)(c:List bF):ln F J (n+1) (iD b d a w e f g h c)=br (decide (a<d)) (ck (bE a (b.length:Int)) (ey F (iC F J n) F.n (dv b d a c (c.length:Int) 0 w e f g h c (aH b a cz.aC).1 (aH b a cz.aC).2.1 (aH b a cz.aC).2.2))) (J (.exit 0) (FU)):=by kernel_rfl
def XJ (a:Bool):iC F J n .ret (HP a)=J .ret (tD a):=by kernel_rfl
def U7 (f:List bF)(g h w a:Int)(b:List Int)(c:List a7)(d:List bS)(e:List bF):iC F J n (.exit 2) (FT f g h w a b c d e)=ln F J n (iD f g (aj (h+1)) w a b c d e):=by kernel_rfl
def XK (a:Bool):lU F .ret (tD a)=some (a,()):=by kernel_rfl
def U8: lU F (.exit 0) (FU)=some (true,()):=by kernel_rfl
def vZ (w:lx):=bm fz F fA f37 jE aP 1 (w,())
def acH (w:lx):vZ F w=(b6 F0 w).bind fun a=>br (!a.1) (some (false,())) (ln F (lU F) F.n (iD w.2.2.2.2 (w.2.2.2.2.length:Int) 0 w.1.1 w.1.2 w.2.1 w.2.2.1 w.2.2.2.1 w.2.2.2.2)):=by kernel_rfl
def HQ:Any:=.one ⟨jE,aP,1,fun x=>vZ F0 x.1⟩
def acI:a8 37 HQ:=aq fz ⟨eQ,dQ,trivial⟩ func37 fA (by kernel_rfl)
def cB:=[(17,eR),(20,dp),(59,AK)]
def cC:Nat->Option Hint:=look [(5,{live:=[1,3,18,19,20],mat:=[(3,47,K9)],wk:=[3],xl:=[1,3],rl:=[2]}),(10,{live:=[1,3,36,37,38],xl:=[3],rl:=[2]}),(20,{live:=[3,68,69,70],rl:=[2]}),(23,{live:=[3,11,68,69,70,74,75,76],xl:=[3,68,69,70],rl:=[2]})]
def fK (d e f g a:Int)(b:ByteArray)(c:List Int)(h:List D9):= cR 94 [(3,.v (.c (.own 1000000 none))),b1 11,(68,.v (.c (.own 1000000 none))),(69,bb d),(70,bb e),(74,.v (.c (.own 1000000 none))),(75,bb f),(76,bb g)] [(11,[ao a,.str b,.ro false 3 (.int .i64) c])] [(1000000,some ⟨47,K9,h,false,true⟩)]
def HR (a:Bool):= bU 94 [(2,JH a)]
def FV (a b:Int)(c:List D9):= cR 94 [(3,.v (.c (.own 1000000 none))),(68,.v (.c (.own 1000000 none))),(69,bb a),(70,bb b)] [] [(1000000,some ⟨47,K9,c,false,true⟩)]
def hV (a:St):Option U:=fe cB F cC [.r,.r,.r,.r,.r,.l,.r,.b,.i,.r,.r,.l,.b,.r,.r,.b,.i] f38 J n a
def iE:Ex->St->Option U:=Vy Tryz.prog (look cB) F cC [.r,.r,.l,.b,.r,.r,.b] (sub [.r,.r,.r,.r,.r,.l,.r,.b,.i] (eW f38)) (itk Tryz.prog (look cB) F cC (sub [.r,.r,.r,.r,.r,.l,.r,.b,.i] (eW f38)) J n)
def fL (a b:Int)(c:List D9):= cR 94 [(3,.v (.c (.own 1000000 none))),(68,.v (.c (.own 1000000 none))),(69,bb a),(70,bb b)] [] [(1000000,some ⟨47,K9,c,false,true⟩)]
def tE (a:Bool):= bU 94 [(2,JH a)]
def FW   := bU 94 []
def hX (a:St):Option U:=fe cB F cC [.r,.r,.r,.r,.r,.l,.r,.b,.i] f38 J n a
def iF:=hH cB F cC [.r,.r,.r,.r,.r,.l,.r,.b] f38 aP 1
def dw (f:List bS)(g h w a:Int)(b:List Int)(c:List a7)(d:List bS)(e:List bF)(i:List D9):= cR 94 [b1 1,(3,.v (.c (.own 1000000 none))),(36,ia 105 (ek) f),(37,bb g),(38,bb h)] [(1,[ao w,ao a,.ro false 3 (.int .i64) b,.ro false 65 (b8) c,.ro false 105 (ek) d,.ro false 41 (cz) e])] [(1000000,some ⟨47,K9,i,false,true⟩)]
def rz (a:List D9):= cR 94 [(3,.v (.c (.own 1000000 none)))] [] [(1000000,some ⟨47,K9,a,false,true⟩)]
def ez (a:St):Option U:=fe cB F cC [.r,.r,.r,.r,.l,.r,.b,.i] f38 J n a
def fM:=hH cB F cC [.r,.r,.r,.r,.l,.r,.b] f38 aP 1
def iG (g h w a:Int)(b:List Int)(c:List a7)(d:List bS)(e:List bF)(i:List D9)(f:List Int):= cR 94 [b1 1,(3,.v (.c (.own 1000000 none))),(18,.v (.c (.own 1000001 none))),(19,bb g),(20,bb h)] [(1,[ao w,ao a,.ro false 3 (.int .i64) b,.ro false 65 (b8) c,.ro false 105 (ek) d,.ro false 41 (cz) e])] [(1000000,some ⟨47,K9,i,false,true⟩),az 1000001 3 (.int .i64) f]
def FX (w a:Int)(b:List Int)(c:List a7)(d:List bS)(e:List bF)(f:List D9):= cR 94 [b1 1,(3,.v (.c (.own 1000000 none)))] [(1,[ao w,ao a,.ro false 3 (.int .i64) b,.ro false 65 (b8) c,.ro false 105 (ek) d,.ro false 41 (cz) e])] [(1000000,some ⟨47,K9,f,false,true⟩)]
def lq (a:St):Option U:=fe cB F cC [.r,.r,.r,.l,.r,.b,.i] f38 J n a
def lV:=hH cB F cC [.r,.r,.r,.l,.r,.b] f38 aP 1
def Bo (e f g b a:Int)(d:ByteArray)(h:List Int)(c:List D9):hV F J (n+1) (fK e f g b a d h c)=br (decide (b<g)) (ck (bE b (c.length:Int)) (br (a==(aH c b K9.aC).1) (br (!(d.toList==(aH c b K9.aC).2.1.toList)) (J .ret (HR false)) (hV F J n (fK e f g (aj (b+1)) a d h c))) (hV F J n (fK e f g (aj (b+1)) a d h c)))) (J (.exit 7) (FV e f c)):=by kernel_rfl
def Bp (c a:Int)(b:List D9):hX F J (n+1) (fL c a b)=br (decide (a<c)) (ck (bE a (b.length:Int)) (hV F (iE F J n) F.n (fK c a (b.length:Int) 0 (aH b a K9.aC).1 (aH b a K9.aC).2.1 (aH b a K9.aC).2.2 b))) (J (.exit 5) (FW)):=by kernel_rfl
def Bq (d:List bS)(f a w e:Int)(g:List Int)(h:List a7)(i:List bS)(j:List bF)(b:List D9):ez F J (n+1) (dw d f a w e g h i j b)=br (decide (a<f)) (ck (bE a (d.length:Int)) ((CP F0 (w,e) (aH d a (0,[])).2).bind fun c=>br (c.1.1==1) (ck (en F b.length [c.1.2.2.1.2].length 48) (ez F J n (dw d f (aj (a+1)) w e g h i j (b++[c.1.2.2.1.2])))) (br (c.1.1==3) (ck (en F b.length [c.1.2.2.2.2.1].length 48) (ez F J n (dw d f (aj (a+1)) w e g h i j (b++[c.1.2.2.2.2.1])))) (ez F J n (dw d f (aj (a+1)) w e g h i j b))))) (J (.exit 2) (rz b)):=by kernel_rfl
def Br (i a w e:Int)(f:List Int)(b:List a7)(g:List bS)(h:List bF)(d:List D9)(c:List Int):lq F J (n+1) (iG i a w e f b g h d c)=br (decide (a<i)) (ck (bE a (c.length:Int)) (ck (bE (aH c a 0) (b.length:Int)) (ck (en F d.length [(aH b (aH c a 0) b8.aC).2.2.2.1.2.2.1].length 48) (lq F J n (iG i (aj (a+1)) w e f b g h (d++[(aH b (aH c a 0) b8.aC).2.2.2.1.2.2.1]) c))))) (J (.exit 0) (FX w e f b g h d)):=by kernel_rfl
def XL (a:Bool):iE F J n .ret (HR a)=J .ret (tE a):=by kernel_rfl
def U9 (a b:Int)(c:List D9):iE F J n (.exit 7) (FV a b c)=hX F J n (fL a (aj (b+1)) c):=by kernel_rfl
def XM (a:Bool):iF F .ret (tE a)=some (a,()):=by kernel_rfl
def Va: iF F (.exit 5) (FW)=some (true,()):=by kernel_rfl
def Vb (a:List D9):fM F (.exit 2) (rz a)=hX F (iF F) F.n (fL (a.length:Int) 0 a):=by kernel_rfl
def Vc (w b:Int)(c:List Int)(d:List a7)(a:List bS)(e:List bF)(f:List D9):lV F (.exit 0) (FX w b c d a e f)=ez F (fM F) F.n (dw a (a.length:Int) 0 w b c d a e f):=by kernel_rfl
def v7 (w:lx):=bm cB F cC f38 jE aP 1 (w,())
def acJ (w:lx):v7 F w=(b6 F0 w).bind fun b=>br (!b.1) (some (false,())) ((fR F0 w).bind fun a=>lq F (lV F) F.n (iG (a.1.length:Int) 0 w.1.1 w.1.2 w.2.1 w.2.2.1 w.2.2.2.1 w.2.2.2.2 [] a.1)):=by kernel_rfl
def HS:Any:=.one ⟨jE,aP,1,fun x=>v7 F0 x.1⟩
def acK:a8 38 HS:=aq cB ⟨ha,eQ,O6,trivial⟩ func38 cC (by kernel_rfl)
def Jm:Nat->Option Hint:=look [(3,{live:=[3,7,8,9],xl:=[3],rl:=[2]})]
def Bs (a:Int)(b:List Int)(c d:Int):= bU 18 [(3,bb a),(7,ia 3 (.int .i64) b),(8,bb c),(9,bb d)]
def UL (a:Int):= bU 18 [(3,bb a)]
def Jn (a:St):Option U:=fe aB F Jm [.r,.r,.l,.r,.b,.i] f83 J n a
def LR:=hH aB F Jm [.r,.r,.l,.r,.b] f83 cF 1
def Ol (c:Int)(b:List Int)(d a:Int):Jn F J (n+1) (Bs c b d a)=br (decide (a<d)) (ck (bE a (b.length:Int)) (Jn F J n (Bs (aj (c+(aH b a 0))) b d (aj (a+1))))) (J (.exit 0) (UL c)):=by kernel_rfl
def aif (a:Int):LR F (.exit 0) (UL a)=some (a,()):=by kernel_rfl
def Sq (l:D43):=bm aB F Jm f83 nn cF 1 (l,())
def asI (l:D43):Sq F l=Jn F (LR F) F.n (Bs 0 l.1 (l.1.length:Int) 0):=by kernel_rfl
def XN:Any:=.one ⟨nn,cF,1,fun x=>Sq F0 x.1⟩
def asJ:a8 83 XN:=aq aB trivial func83 Jm (by kernel_rfl)
def Ri (a:Int):=bm aB F ad f88 cF aP 1 (a,())
def aws (a:Int):Ri F a=br (a==0) (some (true,())) (some (a==4,())):=by kernel_rfl
def abk:Any:=.one ⟨cF,aP,1,fun x=>Ri F0 x.1⟩
def awt:a8 88 abk:=aq aB trivial func88 ad (by kernel_rfl)
def dq:=[(17,eR),(20,dp),(83,XN),(84,LG),(85,Ba),(86,vM),(87,n1),(88,abk)]
def dr:Nat->Option Hint:=look [(4,{live:=[1,16,17,18],rl:=[2]}),(11,{live:=[1,5,7,16,17,18,46,47,48],xl:=[1,16,17,18],rl:=[2]}),(14,{live:=[1,5,7,8,9,16,17,18,46,47,48,55,56,57],xl:=[1,5,7,16,17,18,46,47,48],rl:=[2]})]
def dR (i m o p q a r s w b:Int)(c:List Int)(d:List a7)(e:List bS)(f:List bF)(x g h j:Int)(t:List D4)(k l:List Int):= cR 91 [b1 1,(5,.v (.c (.own 1000000 none))),(7,.v (.c (.own 1000001 none))),(8,bb i),b1 9,(16,.v (.c (.own 1000002 none))),(17,bb m),(18,bb o),(46,.v (.c (.own 1000000 none))),(47,bb p),(48,bb q),(55,.v (.c (.own 1000000 (some a)))),(56,bb r),(57,bb s)] [(1,[ao w,ao b,.ro false 3 (.int .i64) c,.ro false 65 (b8) d,.ro false 105 (ek) e,.ro false 41 (cz) f]),(9,[ao x,ao g,ao h,ao j])] [az 1000000 52 K4 t,az 1000001 3 (.int .i64) k,az 1000002 3 (.int .i64) l]
def LS (a:Bool):= bU 91 [(2,JH a)]
def HT (h i j k w a:Int)(b:List Int)(c:List a7)(d:List bS)(e:List bF)(l:List D4)(f g:List Int):= cR 91 [b1 1,(5,.v (.c (.own 1000000 none))),(7,.v (.c (.own 1000001 none))),(16,.v (.c (.own 1000002 none))),(17,bb h),(18,bb i),(46,.v (.c (.own 1000000 none))),(47,bb j),(48,bb k)] [(1,[ao w,ao a,.ro false 3 (.int .i64) b,.ro false 65 (b8) c,.ro false 105 (ek) d,.ro false 41 (cz) e])] [az 1000000 52 K4 l,az 1000001 3 (.int .i64) f,az 1000002 3 (.int .i64) g]
def e7 (a:St):Option U:=fe dq F dr [.r,.r,.l,.r,.b,.i,.r,.r,.l,.b,.r,.r,.r,.r,.r,.b,.i,.r,.r,.l,.b,.r,.r,.b,.i] f39 J n a
def j2:Ex->St->Option U:=Vy Tryz.prog (look dq) F dr [.r,.r,.l,.b,.r,.r,.b] (sub [.r,.r,.l,.r,.b,.i,.r,.r,.l,.b,.r,.r,.r,.r,.r,.b,.i] (eW f39)) (itk Tryz.prog (look dq) F dr (sub [.r,.r,.l,.r,.b,.i,.r,.r,.l,.b,.r,.r,.r,.r,.r,.b,.i] (eW f39)) J n)
def gj (h i j k w a:Int)(b:List Int)(c:List a7)(d:List bS)(e:List bF)(l:List D4)(f g:List Int):= cR 91 [b1 1,(5,.v (.c (.own 1000000 none))),(7,.v (.c (.own 1000001 none))),(16,.v (.c (.own 1000002 none))),(17,bb h),(18,bb i),(46,.v (.c (.own 1000000 none))),(47,bb j),(48,bb k)] [(1,[ao w,ao a,.ro false 3 (.int .i64) b,.ro false 65 (b8) c,.ro false 105 (ek) d,.ro false 41 (cz) e])] [az 1000000 52 K4 l,az 1000001 3 (.int .i64) f,az 1000002 3 (.int .i64) g]
def wJ (a:Bool):= bU 91 [(2,JH a)]
def HU (f g w a:Int)(b:List Int)(c:List a7)(d:List bS)(e:List bF)(h:List Int):= cR 91 [b1 1,(16,.v (.c (.own 1000000 none))),(17,bb f),(18,bb g)] [(1,[ao w,ao a,.ro false 3 (.int .i64) b,.ro false 65 (b8) c,.ro false 105 (ek) d,.ro false 41 (cz) e])] [az 1000000 3 (.int .i64) h]
def jL (a:St):Option U:=fe dq F dr [.r,.r,.l,.r,.b,.i,.r,.r,.l,.b,.r,.r,.r,.r,.r,.b,.i] f39 J n a
def j3:Ex->St->Option U:=Vy Tryz.prog (look dq) F dr [.r,.r,.l,.b,.r,.r,.r,.r,.r,.b] (sub [.r,.r,.l,.r,.b,.i] (eW f39)) (itk Tryz.prog (look dq) F dr (sub [.r,.r,.l,.r,.b,.i] (eW f39)) J n)
def j4 (f g w a:Int)(b:List Int)(c:List a7)(d:List bS)(e:List bF)(h:List Int):= cR 91 [b1 1,(16,.v (.c (.own 1000000 none))),(17,bb f),(18,bb g)] [(1,[ao w,ao a,.ro false 3 (.int .i64) b,.ro false 65 (b8) c,.ro false 105 (ek) d,.ro false 41 (cz) e])] [az 1000000 3 (.int .i64) h]
def n6 (a:Bool):= bU 91 [(2,JH a)]
def HV   := bU 91 []
def mU (a:St):Option U:=fe dq F dr [.r,.r,.l,.r,.b,.i] f39 J n a
def n7:=hH dq F dr [.r,.r,.l,.r,.b] f39 aP 1
def BZ (i m o p q d r a w e:Int)(f:List Int)(g:List a7)(h:List bS)(j:List bF)(x s t k:Int)(c:List D4)(b l:List Int):e7 F J (n+1) (dR i m o p q d r a w e f g h j x s t k c b l)=br (decide (a<r)) (ck (bE a d) (ck (bE i (b.length:Int)) ((Ri F0 (aH b i 0)).bind fun u=>br u.1 (ck (bE a (b.length:Int)) ((Ri F0 (aH b a 0)).bind fun v=>br v.1 (br (x==(aH c a K4.aC).1) (br (k==(aH c a K4.aC).2.2.2) (J .ret (LS false)) (e7 F J n (dR i m o p q d r (aj (a+1)) w e f g h j x s t k c b l))) (e7 F J n (dR i m o p q d r (aj (a+1)) w e f g h j x s t k c b l))) (e7 F J n (dR i m o p q d r (aj (a+1)) w e f g h j x s t k c b l)))) (e7 F J n (dR i m o p q d r (aj (a+1)) w e f g h j x s t k c b l))))) (J (.exit 4) (HT m o p q w e f g h j c b l)):=by kernel_rfl
def B0 (i j k a w c:Int)(d:List Int)(e:List a7)(f:List bS)(g:List bF)(b:List D4)(l h:List Int):jL F J (n+1) (gj i j k a w c d e f g b l h)=br (decide (a<k)) (ck (bE a (b.length:Int)) (ck (okT a (b.length:Int)) (e7 F (j2 F J n) F.n (dR a i j k a a a 0 w c d e f g (aH b a K4.aC).1 (aH b a K4.aC).2.1 (aH b a K4.aC).2.2.1 (aH b a K4.aC).2.2.2 b l h)))) (J (.exit 2) (HU i j w c d e f g h)):=by kernel_rfl
def B2 (f a w d:Int)(g:List Int)(c:List a7)(h:List bS)(i:List bF)(b:List Int):mU F J (n+1) (j4 f a w d g c h i b)=br (decide (a<f)) (ck (bE a (b.length:Int)) (ck (bE (aH b a 0) (c.length:Int)) ((lH F0 (w,d) (aH c (aH b a 0) b8.aC)).bind fun j=>(Sq F0 j.1).bind fun k=>br (k.1 != 400) (J .ret (n6 false)) (ck (bE (aH b a 0) (c.length:Int)) ((rq F0 (aH c (aH b a 0) b8.aC).2.2.2.1.2.2.2).bind fun e=>(j1 F0).bind fun l=>(ru F0 l.1 e.1).bind fun m=>jL F (j3 F J n) F.n (gj f a (e.1.length:Int) 0 w d g c h i e.1 m.2.1 b)))))) (J (.exit 0) (HV)):=by kernel_rfl
def ZE (a:Bool):j2 F J n .ret (LS a)=J .ret (wJ a):=by kernel_rfl
def XO (h i j k w a:Int)(b:List Int)(c:List a7)(d:List bS)(e:List bF)(l:List D4)(f g:List Int):j2 F J n (.exit 4) (HT h i j k w a b c d e l f g)=jL F J n (gj h i j (aj (k+1)) w a b c d e l f g):=by kernel_rfl
def ZF (a:Bool):j3 F J n .ret (wJ a)=J .ret (n6 a):=by kernel_rfl
def XP (f g w a:Int)(b:List Int)(c:List a7)(d:List bS)(e:List bF)(h:List Int):j3 F J n (.exit 2) (HU f g w a b c d e h)=mU F J n (j4 f (aj (g+1)) w a b c d e h):=by kernel_rfl
def ZG (a:Bool):n7 F .ret (n6 a)=some (a,()):=by kernel_rfl
def XQ: n7 F (.exit 0) (HV)=some (true,()):=by kernel_rfl
def Bt (w:lx):=bm dq F dr f39 jE aP 1 (w,())
def afp (w:lx):Bt F w=(b6 F0 w).bind fun b=>br (!b.1) (some (false,())) ((fR F0 w).bind fun a=>mU F (n7 F) F.n (j4 (a.1.length:Int) 0 w.1.1 w.1.2 w.2.1 w.2.2.1 w.2.2.2.1 w.2.2.2.2 a.1)):=by kernel_rfl
def LU:Any:=.one ⟨jE,aP,1,fun x=>Bt F0 x.1⟩
def afq:a8 39 LU:=aq dq ⟨ha,eQ,asJ,abe,Pf,LF,A8,awt,trivial⟩ func39 dr (by kernel_rfl)
def aj1:=[(18,pV),(19,pO),(58,b2)]
def YP (c:D1)(r:a7):=bm aj1 F ad f89 x4 aP 1 (c,r,())
def awu (c:D1)(r:a7):YP F c r=(o4 F0 c r.2.2.2.2.2.2.1.1).bind fun a=>(cp F0 c r).bind fun b=>br b.1 ((o0 F0 a.1 r.2.2.2.1).bind fun d=>br d.1 (some (a.2.1==(r.2.2.2.2.2.2.1.1.length:Int),())) (some (false,()))) (some (false,())):=by kernel_rfl
def abl:Any:=.one ⟨x4,aP,1,fun x=>YP F0 x.1 x.2.1⟩
def awv:a8 89 abl:=aq aj1 ⟨C1,CY,ct,trivial⟩ func89 ad (by kernel_rfl)
def gk:=[(17,eR),(20,dp),(89,abl)]
def gl:Nat->Option Hint:=look [(4,{live:=[1,11,12,13],rl:=[2]}),(9,{live:=[1,4,11,12,13,27,28,29],xl:=[1,11,12,13],rl:=[2]})]
def gm (a g h:Int)(i:List bF)(j k w b:Int)(c:List Int)(d:List a7)(e:List bS)(f:List bF)(l:List Int):= cR 51 [b1 1,(4,bb a),(11,.v (.c (.own 1000000 none))),(12,bb g),(13,bb h),(27,ia 41 (cz) i),(28,bb j),(29,bb k)] [(1,[ao w,ao b,.ro false 3 (.int .i64) c,.ro false 65 (b8) d,.ro false 105 (ek) e,.ro false 41 (cz) f])] [az 1000000 3 (.int .i64) l]
def LV (a:Bool):= bU 51 [(2,JH a)]
def HW (f g w a:Int)(b:List Int)(c:List a7)(d:List bS)(e:List bF)(h:List Int):= cR 51 [b1 1,(11,.v (.c (.own 1000000 none))),(12,bb f),(13,bb g)] [(1,[ao w,ao a,.ro false 3 (.int .i64) b,.ro false 65 (b8) c,.ro false 105 (ek) d,.ro false 41 (cz) e])] [az 1000000 3 (.int .i64) h]
def jM (a:St):Option U:=fe gk F gl [.r,.r,.l,.r,.b,.i,.r,.r,.l,.b,.r,.r,.r,.b,.i] f40 J n a
def j5:Ex->St->Option U:=Vy Tryz.prog (look gk) F gl [.r,.r,.l,.b,.r,.r,.r,.b] (sub [.r,.r,.l,.r,.b,.i] (eW f40)) (itk Tryz.prog (look gk) F gl (sub [.r,.r,.l,.r,.b,.i] (eW f40)) J n)
def j6 (f g w a:Int)(b:List Int)(c:List a7)(d:List bS)(e:List bF)(h:List Int):= cR 51 [b1 1,(11,.v (.c (.own 1000000 none))),(12,bb f),(13,bb g)] [(1,[ao w,ao a,.ro false 3 (.int .i64) b,.ro false 65 (b8) c,.ro false 105 (ek) d,.ro false 41 (cz) e])] [az 1000000 3 (.int .i64) h]
def n8 (a:Bool):= bU 51 [(2,JH a)]
def HX   := bU 51 []
def mV (a:St):Option U:=fe gk F gl [.r,.r,.l,.r,.b,.i] f40 J n a
def n9:=hH gk F gl [.r,.r,.l,.r,.b] f40 aP 1
def B3 (a i j:Int)(d:List bF)(k b w e:Int)(f:List Int)(c:List a7)(g:List bS)(h:List bF)(l:List Int):jM F J (n+1) (gm a i j d k b w e f c g h l)=br (decide (b<k)) (ck (bE b (d.length:Int)) (br ((aH d b cz.aC).2.2==a) (ck (bE a (c.length:Int)) (br (decide ((aH c a b8.aC).2.2.2.1.1<(aH d b cz.aC).1)) (J .ret (LV false)) (jM F J n (gm a i j d k (aj (b+1)) w e f c g h l)))) (jM F J n (gm a i j d k (aj (b+1)) w e f c g h l)))) (J (.exit 2) (HW i j w e f c g h l)):=by kernel_rfl
def B4 (f a w e:Int)(g:List Int)(c:List a7)(h:List bS)(d:List bF)(b:List Int):mV F J (n+1) (j6 f a w e g c h d b)=br (decide (a<f)) (ck (bE a (b.length:Int)) (ck (bE (aH b a 0) (c.length:Int)) ((YP F0 (w,e) (aH c (aH b a 0) b8.aC)).bind fun i=>br (!i.1) (J .ret (n8 false)) (jM F (j5 F J n) F.n (gm (aH b a 0) f a d (d.length:Int) 0 w e g c h d b))))) (J (.exit 0) (HX)):=by kernel_rfl
def ZH (a:Bool):j5 F J n .ret (LV a)=J .ret (n8 a):=by kernel_rfl
def XR (f g w a:Int)(b:List Int)(c:List a7)(d:List bS)(e:List bF)(h:List Int):j5 F J n (.exit 2) (HW f g w a b c d e h)=mV F J n (j6 f (aj (g+1)) w a b c d e h):=by kernel_rfl
def ZI (a:Bool):n9 F .ret (n8 a)=some (a,()):=by kernel_rfl
def XS: n9 F (.exit 0) (HX)=some (true,()):=by kernel_rfl
def Bu (w:lx):=bm gk F gl f40 jE aP 1 (w,())
def afr (w:lx):Bu F w=(b6 F0 w).bind fun b=>br (!b.1) (some (false,())) ((fR F0 w).bind fun a=>mV F (n9 F) F.n (j6 (a.1.length:Int) 0 w.1.1 w.1.2 w.2.1 w.2.2.1 w.2.2.2.1 w.2.2.2.2 a.1)):=by kernel_rfl
def LW:Any:=.one ⟨jE,aP,1,fun x=>Bu F0 x.1⟩
def afs:a8 40 LW:=aq gk ⟨ha,eQ,awv,trivial⟩ func40 gl (by kernel_rfl)
def UM:=[(36,Ok),(37,HQ),(38,HS),(39,LU),(40,LW)]
def gI (w:lx):=bm UM F ad f11 jE aP 1 (w,())
def aih (w:lx):gI F w=(EU F0 w).bind fun a=>br a.1 ((vZ F0 w).bind fun b=>br b.1 ((v7 F0 w).bind fun c=>br c.1 ((Bt F0 w).bind fun d=>br d.1 ((Bu F0 w).bind fun e=>some (e.1,())) (some (false,()))) (some (false,()))) (some (false,()))) (some (false,())):=by kernel_rfl
def Om:Any:=.one ⟨jE,aP,1,fun x=>gI F0 x.1⟩
def aii:a8 11 Om:=aq UM ⟨aie,acI,acK,afq,afs,trivial⟩ func11 ad (by kernel_rfl)
def YQ (a:List Int)(i:Int):=bm aB F ad f12 aal cF 1 (a,i,())
def aBj (a:List Int)(i:Int):YQ F a i=br (decide (i<(a.length:Int))) (ck (bE i (a.length:Int)) (some (aj (aH a i 0),()))) (some (Int.tmod (aj ((aj (i*7))+(a.length:Int))) 256,())):=by kernel_rfl
def aj2:Any:=.one ⟨aal,cF,1,fun x=>YQ F0 x.1 x.2.1⟩
def aBk:a8 12 aj2:=aq aB trivial func12 ad (by kernel_rfl)
def XT:=[(6,adV),(7,Hr),(8,NJ),(9,yL),(10,XH),(11,Om),(12,aj2),(14,XG),(17,eR),(18,pV),(19,pO)]
def Jo (a:List Int):=bm XT F ad f4 l1 aP 1 (a,())
def ams (f:List Int):Jo F f=(anP F0 f).bind fun k=>br k.1 (some (true,())) ((vp F0 f).bind fun e=>(tZ F0 e.1.1 e.1.2.1).bind fun h=>(lB F0 e.1.1 e.1.2.1).bind fun l=>br (!(h.2.1==l.2.1)) (some (false,())) (br (!h.2.1) (some (true,())) ((LO F0 h.1 e.2.1).bind fun c=>(fR F0 c.1).bind fun a=>(YQ F0 f 1).bind fun b=>ck (!((a.1.length:Int)==0)) (ck (bE (Int.tmod b.1 (a.1.length:Int)) (a.1.length:Int)) ((s5 F0 c.1 (2,aH a.1 (Int.tmod b.1 (a.1.length:Int)) 0,0,0,0,(ak,0,ak,[]),(0,ak,[]),(0,ak,[]),0,0,0,0,0)).bind fun i=>br (i.2.1==4) ((gI F0 c.1).bind fun m=>some (m.1,())) ((s5 F0 i.1 (8,aH a.1 (Int.tmod b.1 (a.1.length:Int)) 0,0,0,0,(ak,0,ak,[]),(0,ak,[]),(0,ak,[]),0,0,0,0,0)).bind fun g=>(YQ F0 f 2).bind fun o=>(s5 F0 c.1 (8,aH a.1 (Int.tmod b.1 (a.1.length:Int)) 0,o.1,0,0,(ak,0,ak,[]),(0,ak,[]),(0,ak,[]),0,0,0,0,0)).bind fun d=>br (i.2.1 != 0) (some (false,())) (br (g.2.1 != 0) (some (false,())) (br (d.2.1 != 0) (some (false,())) (ck (bE (aH a.1 (Int.tmod b.1 (a.1.length:Int)) 0) (c.1.2.2.1.length:Int)) (ck (bE (aH a.1 (Int.tmod b.1 (a.1.length:Int)) 0) (c.1.2.2.1.length:Int)) (ck (RZ 0 (aH c.1.2.2.1 (aH a.1 (Int.tmod b.1 (a.1.length:Int)) 0) b8.aC).2.2.2.2.2.2.1.2 ((aH c.1.2.2.1 (aH a.1 (Int.tmod b.1 (a.1.length:Int)) 0) b8.aC).2.2.2.2.2.2.1.1.length:Int)) ((o4 F0 c.1.1 (((aH c.1.2.2.1 (aH a.1 (Int.tmod b.1 (a.1.length:Int)) 0) b8.aC).2.2.2.2.2.2.1.1.take (aH c.1.2.2.1 (aH a.1 (Int.tmod b.1 (a.1.length:Int)) 0) b8.aC).2.2.2.2.2.2.1.2.toNat).drop (0:Int).toNat)).bind fun j=>ck (bE (aH a.1 (Int.tmod b.1 (a.1.length:Int)) 0) (g.1.2.2.1.length:Int)) (ck (bE (aH a.1 (Int.tmod b.1 (a.1.length:Int)) 0) (c.1.2.2.1.length:Int)) ((o0 F0 (aH g.1.2.2.1 (aH a.1 (Int.tmod b.1 (a.1.length:Int)) 0) b8.aC).2.2.2.1 (aH c.1.2.2.1 (aH a.1 (Int.tmod b.1 (a.1.length:Int)) 0) b8.aC).2.2.2.1).bind fun p=>br p.1 (ck (bE (aH a.1 (Int.tmod b.1 (a.1.length:Int)) 0) (d.1.2.2.1.length:Int)) (br (decide ((aH d.1.2.2.1 (aH a.1 (Int.tmod b.1 (a.1.length:Int)) 0) b8.aC).2.2.2.1.1>=j.1.1)) (ck (bE (aH a.1 (Int.tmod b.1 (a.1.length:Int)) 0) (d.1.2.2.1.length:Int)) (br (decide ((aH d.1.2.2.1 (aH a.1 (Int.tmod b.1 (a.1.length:Int)) 0) b8.aC).2.2.2.1.2.1>=j.1.2.1)) ((gI F0 g.1).bind fun q=>br q.1 ((gI F0 d.1).bind fun r=>some (r.1,())) (some (false,()))) (some (false,())))) (some (false,())))) (some (false,())))))))))))))))):=by kernel_rfl
def aij:Any:=.one ⟨l1,aP,1,fun x=>Jo F0 x.1⟩
def amt:a8 4 aij:=aq XT ⟨ayp,acn,ahF,PW,asF,aii,aBk,apO,ha,C1,CY,trivial⟩ func4 ad (by kernel_rfl)
end
end Go.Am.Tryz
namespace Go.Am.Tryz
open Go.Am Go.Proofs Go.Proofs.Tryz
noncomputable section
variable {U:Type} (F:rH) (J:Ex->St->Option U) (n:Nat)
end
end Go.Am.Tryz
