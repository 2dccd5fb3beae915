/- No condition. -/
import Derived.Test.YtnllfndlcahalaaGreatDoorQoWJG6
set_option linter.all false
set_option maxRecDepth 100000
namespace Go.Am.Tryz
open Go.Am Go.Proofs Go.Proofs.Tryz
noncomputable section
variable {U:Type} (F:rz) (J:Ex->St->Option U) (n:Nat)
def vF:=[(158,Jc)]
def vG:Nat->Option Hint:=look [(3,{live:=[3,5,10,11,12],mat:=[(5,52,K4)],roB:=[(3,0),(3,1)],xl:=[5],rl:=[4]})]
def hO (b:List D4)(c d:Int)(l a:List Int)(e:List D4):= cQ 38 [b0 3,(5,.v (.c (.own 1000000 none))),(10,hD 52 (K4) b),(11,a8 c),(12,a8 d)] [(3,[.ro false 3 (.int .i64) l,.ro false 3 (.int .i64) a])] [ay 1000000 52 K4 e]
def wA (a:List D4):= cQ 38 [(5,.v (.c (.own 1000000 none)))] [] [ay 1000000 52 K4 a]
def ky (a:St):Option U:=e9 vF F vG [.r,.r,.l,.r,.b,.i] f231 J n a
def A4:=hf vF F vG [.r,.r,.l,.r,.b] f231 kd 2
theorem FI (b:List D4)(e a:Int)(l f:List Int)(c:List D4):ky F J (n+1) (hO b e a l f c)=br (decide (a<e)) (ck (bG a (b.length:Int)) (br ((c.length:Int)==2) (J (.exit 0) (wA c)) ((Lw F0 (l,f) (aK b a K4.aD)).bind fun d=>br (d.2.1==0) (ck (ei F c.length [(aK b a K4.aD)].length 32) (ky F J n (hO b e (aj (a+1)) d.1.1 d.1.2 (c++[(aK b a K4.aD)])))) (br (d.2.1==4) (ck (ei F c.length [(aK b a K4.aD)].length 32) (ky F J n (hO b e (aj (a+1)) d.1.1 d.1.2 (c++[(aK b a K4.aD)])))) (ky F J n (hO b e (aj (a+1)) d.1.1 d.1.2 c)))))) (J (.exit 0) (wA c)):=by kernel_rfl
theorem HH (a:List D4):A4 F (.exit 0) (wA a)=some (a,()):=by kernel_rfl
def oV (p:D5)(l:D43):=bj vF F vG f231 ajz kd 2 (p,l,())
theorem ah6 (p:D5)(l:D43):oV F p l=ky F (A4 F) F.n (hO p (p.length:Int) 0 l.1 l.2 []):=by kernel_rfl
def N8:Any:=.one ⟨ajz,kd,2,fun x=>oV F0 x.1 x.2.1⟩
theorem ah7:a6 231 N8:=aq vF ⟨XA,trivial⟩ func231 vG (by kernel_rfl)
def A5:=[(104,jt),(180,GA),(181,Pz)]
def A6:Nat->Option Hint:=look [(3,{live:=[3,6,7,8],mat:=[(3,9,.str)],xl:=[3],rl:=[2]})]
def sR (a:List D4)(b c:Int)(d:List ByteArray):= cQ 23 [(3,.v (.c (.own 1000000 none))),(6,hD 52 (K4) a),(7,a8 b),(8,a8 c)] [] [ay 1000000 9 (.str) d]
def Q6 (a:ByteArray):= bO 23 [(2,ZY a)]
def N9 (a:List ByteArray):= cQ 23 [(3,.v (.c (.own 1000000 none)))] [] [ay 1000000 9 (.str) a]
def A7 (a:St):Option U:=e9 A5 F A6 [.r,.r,.l,.r,.b,.i] f106 J n a
def sS:=hf A5 F A6 [.r,.r,.l,.r,.b] f106 dB 1
theorem HI (b:List D4)(d a:Int)(c:List ByteArray):A7 F J (n+1) (sR b d a c)=br (decide (a<d)) (ck (bG a (b.length:Int)) ((oT F0 (aK b a K4.aD)).bind fun f=>br (!f.1) (J .ret (Q6 ak)) ((Fs F0 (aK b a K4.aD)).bind fun e=>ck (ei F c.length [e.1].length 16) (A7 F J n (sR b d (aj (a+1)) (c++[e.1])))))) (J (.exit 0) (N9 c)):=by kernel_rfl
theorem afl (a:ByteArray):sS F .ret (Q6 a)=some (a,()):=by kernel_rfl
theorem acC (a:List ByteArray):sS F (.exit 0) (N9 a)=(strings_Join F0 a (ByteArray.mk #[44])).bind fun b=>some (b.1,()):=by kernel_rfl
def Jd (a:D5):=bj A5 F A6 f106 kd dB 1 (a,())
theorem aml (a:D5):Jd F a=A7 F (sS F) F.n (sR a (a.length:Int) 0 []):=by kernel_rfl
def Q7:Any:=.one ⟨kd,dB,1,fun x=>Jd F0 x.1⟩
theorem amm:a6 106 Q7:=aq A5 ⟨nA,WV,akJ,trivial⟩ func106 A6 (by kernel_rfl)
def EG:=[(60,eO),(104,jt),(105,vf),(106,Q7)]
def EH:Nat->Option Hint:=look [(2,{live:=[0,1,2,10,11,12],xl:=[0,1,2],rl:=[6]})]
def vH (a:ByteArray)(b:Int)(c d:List D4)(e f:Int):= bO 38 [(0,ZY a),(1,a8 b),(2,hD 52 (K4) c),(10,hD 52 (K4) d),(11,a8 e),(12,a8 f)]
def UE (a:ByteArray):= bO 38 [(6,ZY a)]
def Q8 (a:ByteArray)(b:Int)(c:List D4):= bO 38 [(0,ZY a),(1,a8 b),(2,hD 52 (K4) c)]
def EI (a:St):Option U:=e9 EG F EH [.r,.l,.r,.b,.i] f46 J n a
def vI:=hf EG F EH [.r,.l,.r,.b] f46 dB 1
theorem LD (c:ByteArray)(d:Int)(e b:List D4)(f a:Int):EI F J (n+1) (vH c d e b f a)=br (decide (a<f)) (ck (bG a (b.length:Int)) ((oT F0 (aK b a K4.aD)).bind fun g=>br (!g.1) (J .ret (UE ak)) (EI F J n (vH c d e b f (aj (a+1)))))) (J (.exit 0) (Q8 c d e)):=by kernel_rfl
theorem ah8 (a:ByteArray):vI F .ret (UE a)=some (a,()):=by kernel_rfl
theorem afm (a:ByteArray)(e:Int)(d:List D4):vI F (.exit 0) (Q8 a e d)=ck (UW F a.size (ByteArray.mk #[47]).size) ((kT F0 e).bind fun b=>ck (UW F (a++(ByteArray.mk #[47])).size b.1.size) (ck (UW F ((a++(ByteArray.mk #[47]))++b.1).size (ByteArray.mk #[124]).size) ((Jd F0 d).bind fun c=>ck (UW F (((a++(ByteArray.mk #[47]))++b.1)++(ByteArray.mk #[124])).size c.1.size) (br (decide ((d.length:Int)>2)) (some (ak,())) ((eZ F0 ((((a++(ByteArray.mk #[47]))++b.1)++(ByteArray.mk #[124]))++c.1)).bind fun f=>br (!f.1) (some (ak,())) (some ((((a++(ByteArray.mk #[47]))++b.1)++(ByteArray.mk #[124]))++c.1,()))))))):=by kernel_rfl
def FJ (a:ByteArray)(b:Int)(c:D5):=bj EG F EH f46 aDr dB 1 (a,b,c,())
theorem apK (b:ByteArray)(c:Int)(a:D5):FJ F b c a=EI F (vI F) F.n (vH b c a a (a.length:Int) 0):=by kernel_rfl
def UF:Any:=.one ⟨aDr,dB,1,fun x=>FJ F0 x.1 x.2.1 x.2.2.1⟩
theorem apL:a6 46 UF:=aq EG ⟨gR,nA,KX,amm,trivial⟩ func46 EH (by kernel_rfl)
def UG:=[(46,UF),(47,ig),(48,mw),(49,dZ)]
def tZ (c:D1)(q:D9)(a:Int)(b:D5):=bj UG F ad f15 aDs ajA 2 (c,q,a,b,())
theorem ah9 (c:D1)(q:D9)(b:Int)(e:D5):tZ F c q b e=(FJ F0 q.2.1 b e).bind fun a=>(gU F0 q).bind fun d=>(nD F0 c (a.1,d.1)).bind fun f=>br (!f.1) (some ((ak,0,ak,[]),false,())) ((er F0 a.1).bind fun g=>br (g.1 != b) (some ((ak,0,ak,[]),false,())) (some ((a.1,d.1),true,()))):=by kernel_rfl
def Oa:Any:=.one ⟨aDs,ajA,2,fun x=>tZ F0 x.1 x.2.1 x.2.2.1 x.2.2.2.1⟩
theorem aia:a6 15 Oa:=aq UG ⟨apL,mH,vk,fs,trivial⟩ func15 ad (by kernel_rfl)
def apM:=[(15,Oa),(58,b1),(85,A2),(86,vB),(87,nT),(168,lB),(229,Pb),(231,N8)]
def afn (c:D1)(r:a1):=bj apM F ad f174 xt ajA 2 (c,r,())
theorem ayI (c:D1)(r:a1):afn F c r=(cp F0 c r).bind fun g=>br (!g.1) (some ((ak,0,ak,[]),false,())) ((sI F0 c r.2.1).bind fun h=>br (h.1 != r.1) (some ((ak,0,ak,[]),false,())) (br (decide (r.2.2.1>=r.2.1)) (some ((ak,0,ak,[]),false,())) (br (r.2.2.2.1.2.2.1.1 != (aj (r.2.1-1))) ((sK F0 c r r.2.1).bind fun i=>br (!i.1) (some ((ak,0,ak,[]),false,())) ((jW F0).bind fun b=>(rf F0 r.2.2.2.1.2.2.1.2.1).bind fun d=>(ri F0 b.1 d.1).bind fun e=>(oV F0 r.2.2.2.2.1 e.1).bind fun f=>(tZ F0 c r.2.2.2.1.2.2.1 r.2.1 f.1).bind fun a=>some (a.1,a.2.1,()))) ((jW F0).bind fun b=>(rf F0 r.2.2.2.1.2.2.1.2.1).bind fun d=>(ri F0 b.1 d.1).bind fun e=>(oV F0 r.2.2.2.2.1 e.1).bind fun f=>(tZ F0 c r.2.2.2.1.2.2.1 r.2.1 f.1).bind fun a=>some (a.1,a.2.1,()))))):=by kernel_rfl
def afo:Any:=.one ⟨xt,ajA,2,fun x=>afn F0 x.1 x.2.1⟩
theorem ayJ:a6 174 afo:=aq apM ⟨aia,ct,Pc,Ly,AZ,sJ,afb,ah7,trivial⟩ func174 ad (by kernel_rfl)
def A8:=[(58,b1),(80,bN),(178,tV)]
def A9:Nat->Option Hint:=look [(5,{live:=[3,4,5,6,8,9],x3:=[(6,7,3,.int .i64),(6,9,52,K4),(6,10,50,K9),(6,11,5,.int .u8),(6,13,136,pS)],xl:=[6,8],rl:=[6,7]})]
def mO (a c b r d e f g h:Int)(i:ByteArray)(j:List Int)(k:ByteArray)(l:List D4)(o:List D9)(p:List Int)(q:Int)(s:List ll)(m M:Int)(m2:ByteArray)(N:Int)(O:ByteArray)(P:List Int)(Q:Int)(R:ByteArray)(S:List Int)(T:Int)(W:ByteArray)(X:List Int)(Y Z qd qe qf qg qh qi qj qk ql:Int)(qm qn:ByteArray)(qo qp t u v w x:Int)(y z:ByteArray)(A:Int)(qq:List Int)(B:List D4)(C:List D9)(D:List Int)(E:List ll)(G:List Int)(H:List D4)(I:List D9)(K:List Int)(L:List ll):= cQ 43 [b0 3,b0 4,b0 5,b0 6,b0 8,(9,a8 a)] [(3,[ao c,ao b]),(4,[ao r,ao d,ao e,ao f,ao g,ao h,.str i,.ro false 3 (.int .i64) j,.str k,.ro false 52 (K4) l,.ro false 50 (K9) o,.ro false 5 (.int .u8) p,ao q,.ro false 136 (pS) s]),(5,[ao m,ao M,.str m2,ao N,.str O,.ro false 3 (.int .i64) P,ao Q,.str R,.ro false 3 (.int .i64) S,ao T,.str W,.ro false 3 (.int .i64) X,ao Y,ao Z,ao qd,ao qe,ao qf]),(6,[ao qg,ao qh,ao qi,ao qj,ao qk,ao ql,.str qm,.own 1000000 none,.str qn,.own 1000001 none,.own 1000002 none,.own 1000003 none,ao qo,.own 1000004 none]),(8,[ao qp,ao t,ao u,ao v,ao w,ao x,.str y,.own 1000005 none,.str z,.own 1000006 none,.own 1000007 none,.own 1000008 none,ao A,.own 1000009 none])] [ay 1000000 3 (.int .i64) qq,ay 1000001 52 K4 B,ay 1000002 50 K9 C,ay 1000003 5 (.int .u8) D,ay 1000004 136 pS E,ay 1000005 3 (.int .i64) G,ay 1000006 52 K4 H,ay 1000007 50 K9 I,ay 1000008 5 (.int .u8) K,ay 1000009 136 pS L]
def Q9 (e:Bool)(f g h i j k:Int)(l m:ByteArray)(o:Int)(p:List Int)(a:List D4)(b:List D9)(c:List Int)(d:List ll):= cQ 43 [b0 6,(7,H0 e)] [(6,[ao f,ao g,ao h,ao i,ao j,ao k,.str l,.own 1000000 none,.str m,.own 1000001 none,.own 1000002 none,.own 1000003 none,ao o,.own 1000004 none])] [ay 1000000 3 (.int .i64) p,ay 1000001 52 K4 a,ay 1000002 50 K9 b,ay 1000003 5 (.int .u8) c,ay 1000004 136 pS d]
def Ob (s t u v w x:Int)(y z:ByteArray)(A B a b c d e:Int)(f g:ByteArray)(h:Int)(C:List Int)(i:List D4)(j:List D9)(k:List Int)(l:List ll)(m:List Int)(o:List D4)(p:List D9)(q:List Int)(r:List ll):= cQ 43 [b0 6,b0 8] [(6,[ao s,ao t,ao u,ao v,ao w,ao x,.str y,.own 1000000 none,.str z,.own 1000001 none,.own 1000002 none,.own 1000003 none,ao A,.own 1000004 none]),(8,[ao B,ao a,ao b,ao c,ao d,ao e,.str f,.own 1000005 none,.str g,.own 1000006 none,.own 1000007 none,.own 1000008 none,ao h,.own 1000009 none])] [ay 1000000 3 (.int .i64) C,ay 1000001 52 K4 i,ay 1000002 50 K9 j,ay 1000003 5 (.int .u8) k,ay 1000004 136 pS l,ay 1000005 3 (.int .i64) m,ay 1000006 52 K4 o,ay 1000007 50 K9 p,ay 1000008 5 (.int .u8) q,ay 1000009 136 pS r]
def rj (a:St):Option U:=e9 A8 F A9 [.r,.r,.r,.l,.r,.b,.i] f175 J n a
def sT:=hf A8 F A9 [.r,.r,.r,.l,.r,.b] f175 gx 2
theorem HJ (d c e r f g h i j:Int)(k:ByteArray)(l:List Int)(o:ByteArray)(p:List D4)(q:List D9)(s:List Int)(t:Int)(u:List ll)(m O:Int)(m2:ByteArray)(P:Int)(Q:ByteArray)(R:List Int)(S:Int)(T:ByteArray)(W:List Int)(X:Int)(Y:ByteArray)(Z:List Int)(qd qe qf qg qh qi qj qk ql qm qn:Int)(qo qp:ByteArray)(qq qt v w x y z:Int)(A B:ByteArray)(C:Int)(qu:List Int)(D:List D4)(E:List D9)(G:List Int)(H:List ll)(I:List Int)(K:List D4)(L:List D9)(M:List Int)(N:List ll):rj F J (n+1) (mO d c e r f g h i j k l o p q s t u m O m2 P Q R S T W X Y Z qd qe qf qg qh qi qj qk ql qm qn qo qp qq qt v w x y z A B C qu D E G H I K L M N)=br (decide (d<c)) (br (d==r) (rj F J n (mO (aj (d+1)) c e r f g h i j k l o p q s t u m O m2 P Q R S T W X Y Z qd qe qf qg qh qi qj qk ql qm qn qo qp qq qt v w x y z A B C qu D E G H I K L M N)) ((mM F0 (c,e) (qt,v,w,(x,y,(z,A,I),B),K,L,(M,C),N) d (m,O,(m2,P,Q,R),(S,T,W),(X,Y,Z),qd,qe,qf,qg,qh)).bind fun a=>br (!a.2.1) ((az F0 (r,f,g,(h,i,(j,k,l),o),p,q,(s,t),u)).bind fun b=>J .ret (Q9 false b.1.1 b.1.2.1 b.1.2.2.1 b.1.2.2.2.1.1 b.1.2.2.2.1.2.1 b.1.2.2.2.1.2.2.1.1 b.1.2.2.2.1.2.2.1.2.1 b.1.2.2.2.1.2.2.2 b.1.2.2.2.2.2.2.1.2 b.1.2.2.2.1.2.2.1.2.2 b.1.2.2.2.2.1 b.1.2.2.2.2.2.1 b.1.2.2.2.2.2.2.1.1 b.1.2.2.2.2.2.2.2)) (rj F J n (mO (aj (d+1)) c e r f g h i j k l o p q s t u m O m2 P Q R S T W X Y Z qd qe qf qg qh qi qj qk ql qm qn qo qp qq a.1.1 a.1.2.1 a.1.2.2.1 a.1.2.2.2.1.1 a.1.2.2.2.1.2.1 a.1.2.2.2.1.2.2.1.1 a.1.2.2.2.1.2.2.1.2.1 a.1.2.2.2.1.2.2.2 a.1.2.2.2.2.2.2.1.2 qu D E G H a.1.2.2.2.1.2.2.1.2.2 a.1.2.2.2.2.1 a.1.2.2.2.2.2.1 a.1.2.2.2.2.2.2.1.1 a.1.2.2.2.2.2.2.2)))) (J (.exit 0) (Ob qi qj qk ql qm qn qo qp qq qt v w x y z A B C qu D E G H I K L M N)):=by kernel_rfl
theorem afp (e:Bool)(f g h i j k:Int)(l m:ByteArray)(o:Int)(p:List Int)(a:List D4)(b:List D9)(c:List Int)(d:List ll):sT F .ret (Q9 e f g h i j k l m o p a b c d)=some ((f,g,h,(i,j,(k,l,p),m),a,b,(c,o),d),e,()):=by kernel_rfl
theorem acD (t u v w x y:Int)(z A:ByteArray)(B o a b c d e:Int)(f g:ByteArray)(h:Int)(C:List Int)(p:List D4)(q:List D9)(r:List Int)(s:List ll)(i:List Int)(j:List D4)(k:List D9)(l:List Int)(m:List ll):sT F (.exit 0) (Ob t u v w x y z A B o a b c d e f g h C p q r s i j k l m)=some ((o,a,b,(c,d,(e,f,i),g),j,k,(l,h),m),true,()):=by kernel_rfl
def Ba (c:D1)(r:a1)(m:OW):=bj A8 F A9 f175 aax gx 2 (c,r,m,())
theorem amn (c:D1)(r:a1)(m:OW):Ba F c r m=(az F0 r).bind fun a=>(cp F0 c r).bind fun b=>br (!b.1) (some (a.1,false,())) (rj F (sT F) F.n (mO 0 c.1 c.2 r.1 r.2.1 r.2.2.1 r.2.2.2.1.1 r.2.2.2.1.2.1 r.2.2.2.1.2.2.1.1 r.2.2.2.1.2.2.1.2.1 r.2.2.2.1.2.2.1.2.2 r.2.2.2.1.2.2.2 r.2.2.2.2.1 r.2.2.2.2.2.1 r.2.2.2.2.2.2.1.1 r.2.2.2.2.2.2.1.2 r.2.2.2.2.2.2.2 m.1 m.2.1 m.2.2.1.1 m.2.2.1.2.1 m.2.2.1.2.2.1 m.2.2.1.2.2.2 m.2.2.2.1.1 m.2.2.2.1.2.1 m.2.2.2.1.2.2 m.2.2.2.2.1.1 m.2.2.2.2.1.2.1 m.2.2.2.2.1.2.2 m.2.2.2.2.2.1 m.2.2.2.2.2.2.1 m.2.2.2.2.2.2.2.1 m.2.2.2.2.2.2.2.2.1 m.2.2.2.2.2.2.2.2.2 0 0 0 0 0 0 ak ak 0 a.1.1 a.1.2.1 a.1.2.2.1 a.1.2.2.2.1.1 a.1.2.2.2.1.2.1 a.1.2.2.2.1.2.2.1.1 a.1.2.2.2.1.2.2.1.2.1 a.1.2.2.2.1.2.2.2 a.1.2.2.2.2.2.2.1.2 [] [] [] [] [] a.1.2.2.2.1.2.2.1.2.2 a.1.2.2.2.2.1 a.1.2.2.2.2.2.1 a.1.2.2.2.2.2.2.1.1 a.1.2.2.2.2.2.2.2)):=by kernel_rfl
def Ra:Any:=.one ⟨aax,gx,2,fun x=>Ba F0 x.1 x.2.1 x.2.2.1⟩
theorem amo:a6 175 Ra:=aq A8 ⟨ct,b8,I4,trivial⟩ func175 A9 (by kernel_rfl)
def XD:=[(80,bN),(161,wy),(174,afo),(175,Ra)]
abbrev apN:List (Ty×Bool):=[(cd,true),(.int .i64,false)]
def Je (c:D1)(r:a1):=bj XD F ad f99 xt apN 0 (c,r,())
theorem amp (c:D1)(r:a1):Je F c r=(afn F0 c r).bind fun a=>br (!a.2.1) (some (r,3,())) ((az F0 r).bind fun b=>(Ba F0 c (b.1.1,b.1.2.1,r.2.1,b.1.2.2.2) (1,0,a.1,(0,ak,[]),(0,ak,[]),0,0,0,0,0)).bind fun d=>br (!d.2.1) (some (r,4,())) ((re F0 c d.1 a.1).bind fun e=>br (!e.2.1) (some (r,4,())) (some (e.1,0,())))):=by kernel_rfl
def Rb:Any:=.one ⟨xt,apN,0,fun x=>Je F0 x.1 x.2.1⟩
theorem amq:a6 99 Rb:=aq XD ⟨b8,NY,ayJ,amo,trivial⟩ func99 ad (by kernel_rfl)
def vJ:=[(176,AY)]
def vK:Nat->Option Hint:=look [(2,{live:=[2,3,4,6],x3:=[(4,7,3,.int .i64),(4,9,52,K4),(4,10,50,K9),(4,11,5,.int .u8),(4,13,136,pS)],xl:=[3,4],rl:=[4,5]})]
def pM (i c a r b d e f g:Int)(h:ByteArray)(j:List Int)(k:ByteArray)(l:List D4)(m:List D9)(o:List Int)(p:Int)(q:List ll)(w x y z A B:Int)(C D:ByteArray)(E:Int)(G:List Int)(s:List D4)(t:List D9)(u:List Int)(v:List ll):= cQ 41 [b0 2,b0 3,b0 4,(6,a8 i)] [(2,[ao c,ao a]),(3,[ao r,ao b,ao d,ao e,ao f,ao g,.str h,.ro false 3 (.int .i64) j,.str k,.ro false 52 (K4) l,.ro false 50 (K9) m,.ro false 5 (.int .u8) o,ao p,.ro false 136 (pS) q]),(4,[ao w,ao x,ao y,ao z,ao A,ao B,.str C,.own 1000000 none,.str D,.own 1000001 none,.own 1000002 none,.own 1000003 none,ao E,.own 1000004 none])] [ay 1000000 3 (.int .i64) G,ay 1000001 52 K4 s,ay 1000002 50 K9 t,ay 1000003 5 (.int .u8) u,ay 1000004 136 pS v]
def Bb (e f g h i j k:Int)(l:ByteArray)(m:List Int)(o:ByteArray)(p:List D4)(a:List D9)(b:List Int)(c:Int)(d:List ll):= cQ 41 [b0 4,(5,a8 e)] [(4,[ao f,ao g,ao h,ao i,ao j,ao k,.str l,.ro false 3 (.int .i64) m,.str o,.ro false 52 (K4) p,.ro false 50 (K9) a,.ro false 5 (.int .u8) b,ao c,.ro false 136 (pS) d])] []
def LF (r a b c d e:Int)(f:ByteArray)(g:List Int)(h:ByteArray)(i:List D4)(j:List D9)(k:List Int)(l:Int)(m:List ll)(t u v w x y:Int)(z A:ByteArray)(B:Int)(C:List Int)(o:List D4)(p:List D9)(q:List Int)(s:List ll):= cQ 41 [b0 3,b0 4] [(3,[ao r,ao a,ao b,ao c,ao d,ao e,.str f,.ro false 3 (.int .i64) g,.str h,.ro false 52 (K4) i,.ro false 50 (K9) j,.ro false 5 (.int .u8) k,ao l,.ro false 136 (pS) m]),(4,[ao t,ao u,ao v,ao w,ao x,ao y,.str z,.own 1000000 none,.str A,.own 1000001 none,.own 1000002 none,.own 1000003 none,ao B,.own 1000004 none])] [ay 1000000 3 (.int .i64) C,ay 1000001 52 K4 o,ay 1000002 50 K9 p,ay 1000003 5 (.int .u8) q,ay 1000004 136 pS s]
def vL (a:St):Option U:=e9 vJ F vK [.r,.l,.r,.b,.i] f100 J n a
def pN:=hf vJ F vK [.r,.l,.r,.b] f100 apN 0
theorem FK (i c s r d e f g h:Int)(j:ByteArray)(k:List Int)(l:ByteArray)(m:List D4)(b:List D9)(o:List Int)(p:Int)(q:List ll)(x y z A B C:Int)(D E:ByteArray)(G:Int)(H:List Int)(t:List D4)(u:List D9)(v:List Int)(w:List ll):vL F J (n+1) (pM i c s r d e f g h j k l m b o p q x y z A B C D E G H t u v w)=br (decide (i>=0)) (ck (bG i (b.length:Int)) (br (!((aK b i K9.aD).2.1.toList==ak.toList)) ((nS F0 (c,s) (r,d,e,(f,g,(h,j,k),l),m,b,(o,p),q) (aK b i K9.aD).1 (aK b i K9.aD).2.1 true).bind fun a=>br (!a.2.1) (J .ret (Bb 3 r d e f g h j k l m b o p q)) (J .ret (Bb 0 a.1.1 a.1.2.1 a.1.2.2.1 a.1.2.2.2.1.1 a.1.2.2.2.1.2.1 a.1.2.2.2.1.2.2.1.1 a.1.2.2.2.1.2.2.1.2.1 a.1.2.2.2.1.2.2.1.2.2 a.1.2.2.2.1.2.2.2 a.1.2.2.2.2.1 a.1.2.2.2.2.2.1 a.1.2.2.2.2.2.2.1.1 a.1.2.2.2.2.2.2.1.2 a.1.2.2.2.2.2.2.2))) (vL F J n (pM (aj (i-1)) c s r d e f g h j k l m b o p q x y z A B C D E G H t u v w)))) (J (.exit 0) (LF r d e f g h j k l m b o p q x y z A B C D E G H t u v w)):=by kernel_rfl
theorem LG (e f g h i j k:Int)(l:ByteArray)(m:List Int)(o:ByteArray)(p:List D4)(a:List D9)(b:List Int)(c:Int)(d:List ll):pN F .ret (Bb e f g h i j k l m o p a b c d)=some ((f,g,h,(i,j,(k,l,m),o),p,a,(b,c),d),e,()):=by kernel_rfl
theorem Zy (r a b c d e:Int)(f:ByteArray)(g:List Int)(h:ByteArray)(i:List D4)(j:List D9)(k:List Int)(l:Int)(m:List ll)(t u v w x y:Int)(z A:ByteArray)(B:Int)(C:List Int)(o:List D4)(p:List D9)(q:List Int)(s:List ll):pN F (.exit 0) (LF r a b c d e f g h i j k l m t u v w x y z A B C o p q s)=some ((r,a,b,(c,d,(e,f,g),h),i,j,(k,l),m),3,()):=by kernel_rfl
def EJ (c:D1)(r:a1):=bj vJ F vK f100 xt apN 0 (c,r,())
theorem aib (c:D1)(r:a1):EJ F c r=vL F (pN F) F.n (pM (aj ((r.2.2.2.2.2.1.length:Int)-1)) c.1 c.2 r.1 r.2.1 r.2.2.1 r.2.2.2.1.1 r.2.2.2.1.2.1 r.2.2.2.1.2.2.1.1 r.2.2.2.1.2.2.1.2.1 r.2.2.2.1.2.2.1.2.2 r.2.2.2.1.2.2.2 r.2.2.2.2.1 r.2.2.2.2.2.1 r.2.2.2.2.2.2.1.1 r.2.2.2.2.2.2.1.2 r.2.2.2.2.2.2.2 0 0 0 0 0 0 ak ak 0 [] [] [] [] []):=by kernel_rfl
def Oc:Any:=.one ⟨xt,apN,0,fun x=>EJ F0 x.1 x.2.1⟩
theorem aic:a6 100 Oc:=aq vJ ⟨O9,trivial⟩ func100 vK (by kernel_rfl)
def aj0:=[(58,b1),(80,bN),(168,lB),(177,k4),(178,tV)]
def YL (c:D1)(r:a1):=bj aj0 F ad f101 xt gx 2 (c,r,())
theorem awt (c:D1)(r:a1):YL F c r=(cp F0 c r).bind fun h=>br (!h.1) ((az F0 r).bind fun b=>some (b.1,false,())) (br (r.2.1==60) ((az F0 r).bind fun b=>some (b.1,false,())) ((az F0 r).bind fun a=>(sI F0 c (aj (a.1.2.1+1))).bind fun e=>br (e.1==r.1) ((eK F0 c a.1.2.2.2.2.2.1 (aj (a.1.2.1+1),ak,[r.1])).bind fun f=>br (!f.2.1) ((az F0 r).bind fun d=>some (d.1,false,())) (some ((a.1.1,aj (a.1.2.1+1),a.1.2.2.1,a.1.2.2.2.1,a.1.2.2.2.2.1,f.1,a.1.2.2.2.2.2.2),true,()))) ((mM F0 c (a.1.1,aj (a.1.2.1+1),a.1.2.2) e.1 (3,aj (a.1.2.1+1),(ak,0,ak,[]),(0,ak,[]),r.2.2.2.1.2.2.1,r.1,0,0,0,0)).bind fun g=>br (!g.2.1) ((az F0 r).bind fun d=>some (d.1,false,())) (some (g.1,true,()))))):=by kernel_rfl
def abd:Any:=.one ⟨xt,gx,2,fun x=>YL F0 x.1 x.2.1⟩
theorem awu:a6 101 abd:=aq aj0 ⟨ct,b8,sJ,sH,I4,trivial⟩ func101 ad (by kernel_rfl)
def abe:=[(118,ov),(154,kZ)]
def Od (d:D14)(keep:Int):=bj abe F ad f102 aDL pa 1 (d,keep,())
theorem apO (d:D14)(keep:Int):Od F d keep=(lz F0 d).bind fun a=>(q4 F0 d).bind fun b=>br b.1 (ck (okT (aj (d.2+(if (aj ((d.1.length:Int)-d.2))<(if 0>keep then 0 else keep) then (aj ((d.1.length:Int)-d.2)) else (if 0>keep then 0 else keep)))) (a.1.1.length:Int)) (some ((a.1.1.take (aj (d.2+(if (aj ((d.1.length:Int)-d.2))<(if 0>keep then 0 else keep) then (aj ((d.1.length:Int)-d.2)) else (if 0>keep then 0 else keep)))).toNat,aj (d.2+(if (aj ((d.1.length:Int)-d.2))<(if 0>keep then 0 else keep) then (aj ((d.1.length:Int)-d.2)) else (if 0>keep then 0 else keep)))),()))) (some (a.1,())):=by kernel_rfl
def UH:Any:=.one ⟨aDL,pa,1,fun x=>Od F0 x.1 x.2.1⟩
theorem apP:a6 102 UH:=aq abe ⟨As,sq,trivial⟩ func102 ad (by kernel_rfl)
def Sl: Option (Args BD):=bj aA F ad f52 [] BD 2 (())
theorem amr: Sl F= some ((0,0,(0,ak,[]),ak),()):=by kernel_rfl
def Rc:Any:=.one ⟨[],BD,2,fun x=>Sl F0⟩
theorem ams:a6 52 Rc:=aq aA trivial func52 ad (by kernel_rfl)
def abf:=[(50,ku),(112,iy),(113,wh),(114,kW)]
def Oe (c:D1)(b:List Int):=bj abf F ad f54 Tl ajE 2 (c,b,())
theorem apQ (c:D1)(b:List Int):Oe F c b=(bH F0 (b,0,false)).bind fun d=>(bH F0 d.2.1).bind fun e=>(mA F0 e.2.1).bind fun f=>(gd F0 f.2.1).bind fun a=>br a.2.1.2.2 (some ((0,0,(0,ak,[]),ak),false,())) (br (a.2.1.2.1 != (b.length:Int)) (some ((0,0,(0,ak,[]),ak),false,())) ((kU F0 c (d.1.1,e.1.1,f.1.1,a.1.1)).bind fun g=>br (!g.1) (some ((0,0,(0,ak,[]),ak),false,())) (some ((d.1.1,e.1.1,f.1.1,a.1.1),true,())))):=by kernel_rfl
def UI:Any:=.one ⟨Tl,ajE,2,fun x=>Oe F0 x.1 x.2.1⟩
theorem apR:a6 54 UI:=aq abf ⟨q1,nF,NB,tk,trivial⟩ func54 ad (by kernel_rfl)
def vM:=[(52,Rc),(53,CH),(54,UI)]
def vN:Nat->Option Hint:=look [(3,{live:=[1,2,4,6,7],x3:=[(4,4,3,.int .i64)],rl:=[4,5]})]
def k7 (b:List Int)(i c a j k l:Int)(m o:ByteArray)(s d e:Int)(f g:ByteArray)(p h:List Int):= cQ 51 [(1,hD 5 (.int .u8) b),b0 2,b0 4,b0 6,(7,a8 i)] [(2,[ao c,ao a]),(4,[ao j,ao k,ao l,.str m,.own 1000000 none,.str o]),(6,[ao s,ao d,ao e,.str f,.own 1000001 none,.str g])] [ay 1000000 3 (.int .i64) p,ay 1000001 3 (.int .i64) h]
def k8 (a b c d:Int)(e f:ByteArray)(g:List Int):= cQ 51 [b0 4,(5,a8 a)] [(4,[ao b,ao c,ao d,.str e,.own 1000000 none,.str f])] [ay 1000000 3 (.int .i64) g]
def oD (a:St):Option U:=e9 vM F vN [.r,.r,.r,.b,.i] f18 J n a
def pO:=hf vM F vN [.r,.r,.r,.b] f18 atS 2
theorem FL (b:List Int)(e c k l m o:Int)(p q:ByteArray)(s f g:Int)(h i:ByteArray)(r j:List Int):oD F J (n+1) (k7 b e c k l m o p q s f g h i r j)=(nG F0 b e).bind fun a=>br (!a.2.2.1) (J .ret (k8 e s f g h i j)) (br (decide (a.2.1>=(b.length:Int))) (J .ret (k8 e s f g h i j)) (ck (bG a.2.1 (b.length:Int)) (br ((aK b a.2.1 0) != 10) (J .ret (k8 e s f g h i j)) (ck (decide ((a.1.size:Int)<=F.mem)) ((Oe F0 (c,k) (bytesOf a.1)).bind fun d=>br (!d.2.1) (J .ret (k8 e s f g h i j)) (oD F J n (k7 b (aj (a.2.1+1)) c k l m o p q d.1.1 d.1.2.1 d.1.2.2.1.1 d.1.2.2.1.2.1 d.1.2.2.2 r d.1.2.2.1.2.2))))))):=by kernel_rfl
theorem LH (a b c d:Int)(e f:ByteArray)(g:List Int):pO F .ret (k8 a b c d e f g)=some ((b,c,(d,e,g),f),a,()):=by kernel_rfl
def ua (c:D1)(b:List Int):=bj vM F vN f18 Tl atS 2 (c,b,())
theorem aid (c:D1)(b:List Int):ua F c b=(Sl F0).bind fun a=>oD F (pO F) F.n (k7 b 0 c.1 c.2 0 0 0 ak ak a.1.1 a.1.2.1 a.1.2.2.1.1 a.1.2.2.1.2.1 a.1.2.2.2 [] a.1.2.2.1.2.2):=by kernel_rfl
def Bc:Any:=.one ⟨Tl,atS,2,fun x=>ua F0 x.1 x.2.1⟩
theorem Re:a6 18 Bc:=aq vM ⟨ams,Ud,apR,trivial⟩ func18 vN (by kernel_rfl)
def aj1:=[(18,Bc),(58,b1),(80,bN)]
def aj2:Nat->Option Hint:=look [(900005,{live:=[],mat:=[(3,0,cd),(5,0,K12)]})]
def Rf (c:D1)(r:a1):=bj aj1 F aj2 f103 xt MH 1 (c,r,())
theorem awv (c:D1)(r:a1):Rf F c r=(cp F0 c r).bind fun b=>br (!b.1) ((az F0 r).bind fun d=>some (d.1,())) ((ua F0 c r.2.2.2.2.2.2.1.1).bind fun a=>ck (S5 0 a.2.1 (r.2.2.2.2.2.2.1.1.length:Int)) (ck (ei F 0 ((r.2.2.2.2.2.2.1.1.take a.2.1.toNat).drop (0:Int).toNat).length 1) (some ((r.1,(if 60<(if 1>(if (aj (a.1.2.2.1.1+1))>a.1.1 then (aj (a.1.2.2.1.1+1)) else a.1.1) then 1 else (if (aj (a.1.2.2.1.1+1))>a.1.1 then (aj (a.1.2.2.1.1+1)) else a.1.1)) then 60 else (if 1>(if (aj (a.1.2.2.1.1+1))>a.1.1 then (aj (a.1.2.2.1.1+1)) else a.1.1) then 1 else (if (aj (a.1.2.2.1.1+1))>a.1.1 then (aj (a.1.2.2.1.1+1)) else a.1.1)),(0,a.1,[],[],([]++((r.2.2.2.2.2.2.1.1.take a.2.1.toNat).drop (0:Int).toNat),a.2.1),[]))),())))):=by kernel_rfl
def abg:Any:=.one ⟨xt,MH,1,fun x=>Rf F0 x.1 x.2.1⟩
theorem aww:a6 103 abg:=aq aj1 ⟨Re,ct,b8,trivial⟩ func103 aj2 (by kernel_rfl)
def XE:=[(80,bN),(96,Pd),(99,Rb),(100,Oc),(101,abd),(102,UH),(103,abg)]
abbrev aGB:List (Ty×Bool):=[(K1,true),(cd,true),(K45,true)]
def Jf (c:D1)(r:a1)(d:D45):=bj XE F ad f45 aGB apN 0 (c,r,d,())
theorem amt (c:D1)(r:a1)(d:D45):Jf F c r d=(az F0 r).bind fun a=>br (d.1==1) ((Je F0 c r).bind fun b=>some (b.1,b.2.1,())) (br (d.1==6) ((EJ F0 c r).bind fun e=>some (e.1,e.2.1,())) (br (d.1==7) ((YL F0 c r).bind fun f=>br (!f.2.1) (some (r,3,())) (some (f.1,0,()))) (br (d.1==8) ((Od F0 r.2.2.2.2.2.2.1 d.2.2.1).bind fun h=>(Rf F0 c (a.1.1,a.1.2.1,a.1.2.2.1,a.1.2.2.2.1,a.1.2.2.2.2.1,a.1.2.2.2.2.2.1,h.1,a.1.2.2.2.2.2.2.2)).bind fun i=>some (i.1,0,())) ((JF F0 c r d.2.2.2).bind fun g=>br g.2.1 (br (!(d.2.2.2.1==4)) (some (r,3,())) (some (g.1,0,()))) (some (r,3,())))))):=by kernel_rfl
def Rg:Any:=.one ⟨aGB,apN,0,fun x=>Jf F0 x.1 x.2.1 x.2.2.1⟩
theorem amu:a6 45 Rg:=aq XE ⟨b8,afj,amq,aic,awu,apP,aww,trivial⟩ func45 ad (by kernel_rfl)
def atU:=[(20,cx),(35,gf),(41,bA),(42,QK),(43,NR),(44,Q5),(45,Rg)]
def amK (w:ko)(d:D45):=bj atU F ad f14 ajN aeY 0 (w,d,())
theorem aBj (w:ko)(d:D45):amK F w d=(bT F0 w).bind fun h=>br (!h.1) (some (((0,0),[],[],[],[]),1,())) ((aZ F0 d.1 1 10).bind fun i=>br (!i.1) (some (((0,0),[],[],[],[]),1,())) ((IW F0 w d).bind fun j=>br (!j.1) ((aS F0 w).bind fun k=>some (k.1,2,())) ((aS F0 w).bind fun c=>br (d.1==2) ((Et F0 w d.2.1).bind fun f=>br (f.2.1==0) ((bT F0 f.1).bind fun e=>br (!e.1) (br (4 != 0) ((aS F0 w).bind fun b=>some (b.1,4,())) (some (f.1,0,()))) (br (f.2.1 != 0) ((aS F0 w).bind fun b=>some (b.1,f.2.1,())) (some (f.1,0,())))) (br (f.2.1 != 0) ((aS F0 w).bind fun b=>some (b.1,f.2.1,())) (some (f.1,0,())))) (br (d.1==3) ((nW F0 w d).bind fun a=>br (a.2.1==0) ((bT F0 a.1).bind fun e=>br (!e.1) (br (4 != 0) ((aS F0 w).bind fun b=>some (b.1,4,())) (some (a.1,0,()))) (br (a.2.1 != 0) ((aS F0 w).bind fun b=>some (b.1,a.2.1,())) (some (a.1,0,())))) (br (a.2.1 != 0) ((aS F0 w).bind fun b=>some (b.1,a.2.1,())) (some (a.1,0,())))) (br (d.1==4) ((nW F0 w d).bind fun a=>br (a.2.1==0) ((bT F0 a.1).bind fun e=>br (!e.1) (br (4 != 0) ((aS F0 w).bind fun b=>some (b.1,4,())) (some (a.1,0,()))) (br (a.2.1 != 0) ((aS F0 w).bind fun b=>some (b.1,a.2.1,())) (some (a.1,0,())))) (br (a.2.1 != 0) ((aS F0 w).bind fun b=>some (b.1,a.2.1,())) (some (a.1,0,())))) (br (d.1==5) ((nW F0 w d).bind fun a=>br (a.2.1==0) ((bT F0 a.1).bind fun e=>br (!e.1) (br (4 != 0) ((aS F0 w).bind fun b=>some (b.1,4,())) (some (a.1,0,()))) (br (a.2.1 != 0) ((aS F0 w).bind fun b=>some (b.1,a.2.1,())) (some (a.1,0,())))) (br (a.2.1 != 0) ((aS F0 w).bind fun b=>some (b.1,a.2.1,())) (some (a.1,0,())))) (br (d.1==10) ((nW F0 w d).bind fun a=>br (a.2.1==0) ((bT F0 a.1).bind fun e=>br (!e.1) (br (4 != 0) ((aS F0 w).bind fun b=>some (b.1,4,())) (some (a.1,0,()))) (br (a.2.1 != 0) ((aS F0 w).bind fun b=>some (b.1,a.2.1,())) (some (a.1,0,())))) (br (a.2.1 != 0) ((aS F0 w).bind fun b=>some (b.1,a.2.1,())) (some (a.1,0,())))) (ck (bG d.2.1 (w.2.2.1.length:Int)) ((Jf F0 w.1 (aK w.2.2.1 d.2.1 cd.aD) d).bind fun g=>ck (bG d.2.1 (c.1.2.2.1.length:Int)) (br (g.2.1==0) ((bT F0 (c.1.1,c.1.2.1,c.1.2.2.1.set d.2.1.toNat g.1,c.1.2.2.2)).bind fun e=>br (!e.1) (br (4 != 0) ((aS F0 w).bind fun b=>some (b.1,4,())) (some ((c.1.1,c.1.2.1,c.1.2.2.1.set d.2.1.toNat g.1,c.1.2.2.2),0,()))) (br (g.2.1 != 0) ((aS F0 w).bind fun b=>some (b.1,g.2.1,())) (some ((c.1.1,c.1.2.1,c.1.2.2.1.set d.2.1.toNat g.1,c.1.2.2.2),0,())))) (br (g.2.1 != 0) ((aS F0 w).bind fun b=>some (b.1,g.2.1,())) (some ((c.1.1,c.1.2.1,c.1.2.2.1.set d.2.1.toNat g.1,c.1.2.2.2),0,()))))))))))))):=by kernel_rfl
def aj3:Any:=.one ⟨ajN,aeY,0,fun x=>amK F0 x.1 x.2.1⟩
theorem aBk:a6 14 aj3:=aq atU ⟨dh,k0,bV,al0,ahQ,amk,amu,trivial⟩ func14 ad (by kernel_rfl)
def Jg:=[(14,aj3),(20,cx),(35,gf)]
def Jh:Nat->Option Hint:=look [(6,{live:=[4,6,7,23,24,25],mat:=[(7,3,.int .i64)],roB:=[(6,2),(6,3),(6,4),(6,5)],x3:=[(4,2,3,.int .i64),(4,3,65,cd),(4,4,105,eh),(4,5,41,cz)],xl:=[4,6,7],rl:=[4,5]})]
def rk (j:List D45)(k l m o p a:Int)(b:List Int)(c:List a1)(d:List bS)(e:List bE)(q f:List Int)(g:List a1)(h:List bS)(i:List bE):= cQ 45 [b0 4,b0 6,(7,.v (.c (.own 1000000 none))),(23,hD 56 (K45) j),(24,a8 k),(25,a8 l)] [(4,[ao m,ao o,.own 1000001 none,.own 1000002 none,.own 1000003 none,.own 1000004 none]),(6,[ao p,ao a,.ro false 3 (.int .i64) b,.ro false 65 (cd) c,.ro false 105 (eh) d,.ro false 41 (cz) e])] [ay 1000000 3 (.int .i64) q,ay 1000001 3 (.int .i64) f,ay 1000002 65 cd g,ay 1000003 105 eh h,ay 1000004 41 cz i]
def UJ (j k l a:Int)(b:List Int)(c:List a1)(d:List bS)(e:List bE)(m f:List Int)(g:List a1)(h:List bS)(i:List bE):= cQ 45 [b0 4,b0 6,(7,.v (.c (.own 1000000 none)))] [(4,[ao j,ao k,.own 1000001 none,.own 1000002 none,.own 1000003 none,.own 1000004 none]),(6,[ao l,ao a,.ro false 3 (.int .i64) b,.ro false 65 (cd) c,.ro false 105 (eh) d,.ro false 41 (cz) e])] [ay 1000000 3 (.int .i64) m,ay 1000001 3 (.int .i64) f,ay 1000002 65 cd g,ay 1000003 105 eh h,ay 1000004 41 cz i]
def Bd (a:St):Option U:=e9 Jg F Jh [.r,.r,.r,.r,.l,.r,.b,.i] f10 J n a
abbrev aGC:List (Ty×Bool):=[(hz,true),(.sl 3 (.int .i64),false)]
def LI:=hf Jg F Jh [.r,.r,.r,.r,.l,.r,.b] f10 aGC 0
theorem Of (d:List D45)(o b p q r e:Int)(f:List Int)(g:List a1)(h:List bS)(i:List bE)(c j:List Int)(k:List a1)(l:List bS)(m:List bE):Bd F J (n+1) (rk d o b p q r e f g h i c j k l m)=br (decide (b<o)) (ck (bG b (d.length:Int)) ((amK F0 ((r,e),f,g,h,i) (aK d b K45.aD)).bind fun a=>br (a.2.1==0) (ck (ei F c.length [a.2.1].length 8) (Bd F J n (rk d o (aj (b+1)) p q a.1.1.1 a.1.1.2 a.1.2.1 a.1.2.2.1 a.1.2.2.2.1 a.1.2.2.2.2 (c++[a.2.1]) j k l m))) (ck (ei F c.length [a.2.1].length 8) (Bd F J n (rk d o (aj (b+1)) p q r e f g h i (c++[a.2.1]) j k l m))))) (J (.exit 0) (UJ p q r e f g h i c j k l m)):=by kernel_rfl
theorem aie (l m f a:Int)(b:List Int)(c:List a1)(d:List bS)(e:List bE)(g h:List Int)(i:List a1)(j:List bS)(k:List bE):LI F (.exit 0) (UJ l m f a b c d e g h i j k)=some (((f,a),b,c,d,e),g,()):=by kernel_rfl
def Sm (w:ko)(a:D46):=bj Jg F Jh f10 ayD aGC 0 (w,a,())
theorem asK (w:ko)(b:D46):Sm F w b=(aS F0 w).bind fun a=>(bT F0 w).bind fun c=>br (!c.1) (some (a.1,[],())) (br (decide ((b.length:Int)>500)) (some (a.1,[],())) (Bd F (LI F) F.n (rk b (b.length:Int) 0 0 0 a.1.1.1 a.1.1.2 a.1.2.1 a.1.2.2.1 a.1.2.2.2.1 a.1.2.2.2.2 [] [] [] [] []))):=by kernel_rfl
def XF:Any:=.one ⟨ayD,aGC,0,fun x=>Sm F0 x.1 x.2.1⟩
theorem asL:a6 10 XF:=aq Jg ⟨aBk,dh,k0,trivial⟩ func10 Jh (by kernel_rfl)
def afq:=[(156,CP)]
def Sn (s t:ByteArray):=bj afq F ad f82 Tw aO 1 (s,t,())
theorem asM (s t:ByteArray):Sn F s t=(sE F0 s t).bind fun a=>br a.1 (some (true,())) ((sE F0 t s).bind fun b=>some (b.1,())):=by kernel_rfl
def XG:Any:=.one ⟨Tw,aO,1,fun x=>Sn F0 x.1 x.2.1⟩
theorem asN:a6 82 XG:=aq afq ⟨Un,trivial⟩ func82 ad (by kernel_rfl)
end
end Go.Am.Tryz
namespace Go.Am.Tryz
open Go.Am Go.Proofs Go.Proofs.Tryz
noncomputable section
variable {U:Type} (F:rz) (J:Ex->St->Option U) (n:Nat)
def il:=[(17,fP),(20,cx),(82,XG)]
def iq:Nat->Option Hint:=look [(4,{live:=[1,11,12,13],rl:=[2]}),(7,{live:=[1,4,11,12,13,18,19,20],xl:=[1,11,12,13],rl:=[2]})]
def k9 (a h i j k w b:Int)(c:List Int)(d:List a1)(e:List bS)(f:List bE)(l g:List Int):= cQ 42 [b0 1,(4,a8 a),(11,.v (.c (.own 1000000 none))),(12,a8 h),(13,a8 i),(18,.v (.c (.own 1000001 none))),(19,a8 j),(20,a8 k)] [(1,[ao w,ao b,.ro false 3 (.int .i64) c,.ro false 65 (cd) d,.ro false 105 (eh) e,.ro false 41 (cz) f])] [ay 1000000 3 (.int .i64) l,ay 1000001 3 (.int .i64) g]
def Og (a:Bool):= bO 42 [(2,H0 a)]
def LJ (f g w a:Int)(b:List Int)(c:List a1)(d:List bS)(e:List bE)(h:List Int):= cQ 42 [b0 1,(11,.v (.c (.own 1000000 none))),(12,a8 f),(13,a8 g)] [(1,[ao w,ao a,.ro false 3 (.int .i64) b,.ro false 65 (cd) c,.ro false 105 (eh) d,.ro false 41 (cz) e])] [ay 1000000 3 (.int .i64) h]
def oE (a:St):Option U:=e9 il F iq [.r,.r,.l,.r,.b,.i,.r,.r,.l,.b,.r,.r,.b,.i] f36 J n a
def la:Ex->St->Option U:=Vy Tryz.prog (look il) F iq [.r,.r,.l,.b,.r,.r,.b] (sub [.r,.r,.l,.r,.b,.i] (eU f36)) (itk Tryz.prog (look il) F iq (sub [.r,.r,.l,.r,.b,.i] (eU f36)) J n)
def ld (f g w a:Int)(b:List Int)(c:List a1)(d:List bS)(e:List bE)(h:List Int):= cQ 42 [b0 1,(11,.v (.c (.own 1000000 none))),(12,a8 f),(13,a8 g)] [(1,[ao w,ao a,.ro false 3 (.int .i64) b,.ro false 65 (cd) c,.ro false 105 (eh) d,.ro false 41 (cz) e])] [ay 1000000 3 (.int .i64) h]
def Be (a:Bool):= bO 42 [(2,H0 a)]
def LK   := bO 42 []
def oF (a:St):Option U:=e9 il F iq [.r,.r,.l,.r,.b,.i] f36 J n a
def pP:=hf il F iq [.r,.r,.l,.r,.b] f36 aO 1
theorem FM (a i j k c w e:Int)(f:List Int)(b:List a1)(g:List bS)(h:List bE)(l d:List Int):oE F J (n+1) (k9 a i j k c w e f b g h l d)=br (decide (c<k)) (ck (bG c (d.length:Int)) (ck (bG a (b.length:Int)) (ck (bG (aK d c 0) (b.length:Int)) ((Sn F0 (aK b a cd.aD).2.2.2.1.2.2.2 (aK b (aK d c 0) cd.aD).2.2.2.1.2.2.2).bind fun m=>br (!m.1) (J .ret (Og false)) (oE F J n (k9 a i j k (aj (c+1)) w e f b g h l d)))))) (J (.exit 2) (LJ i j w e f b g h l)):=by kernel_rfl
theorem FN (h a w c:Int)(d:List Int)(e:List a1)(f:List bS)(g:List bE)(b:List Int):oF F J (n+1) (ld h a w c d e f g b)=br (decide (a<h)) (ck (bG a (b.length:Int)) ((gV F0 ((w,c),d,e,f,g)).bind fun i=>oE F (la F J n) F.n (k9 (aK b a 0) h a (i.1.length:Int) 0 w c d e f g b i.1))) (J (.exit 0) (LK)):=by kernel_rfl
theorem acE (a:Bool):la F J n .ret (Og a)=J .ret (Be a):=by kernel_rfl
theorem Zz (f g w a:Int)(b:List Int)(c:List a1)(d:List bS)(e:List bE)(h:List Int):la F J n (.exit 2) (LJ f g w a b c d e h)=oF F J n (ld f (aj (g+1)) w a b c d e h):=by kernel_rfl
theorem acF (a:Bool):pP F .ret (Be a)=some (a,()):=by kernel_rfl
theorem ZA: pP F (.exit 0) (LK)=some (true,()):=by kernel_rfl
def EK (w:ko):=bj il F iq f36 ix aO 1 (w,())
theorem aif (w:ko):EK F w=(bT F0 w).bind fun b=>br (!b.1) (some (false,())) ((gV F0 w).bind fun a=>oF F (pP F) F.n (ld (a.1.length:Int) 0 w.1.1 w.1.2 w.2.1 w.2.2.1 w.2.2.2.1 w.2.2.2.2 a.1)):=by kernel_rfl
def Oh:Any:=.one ⟨ix,aO,1,fun x=>EK F0 x.1⟩
theorem aih:a6 36 Oh:=aq il ⟨jT,dh,asN,trivial⟩ func36 iq (by kernel_rfl)
def fv:=[(20,cx),(51,cO)]
def fw:Nat->Option Hint:=look [(4,{live:=[1,11,12,13],rl:=[2]}),(7,{live:=[1,4,11,12,13,18,19,20],xl:=[1,11,12,13],rl:=[2]})]
def dv (i:List bE)(j k:Int)(l:List bE)(m o w b:Int)(c:List Int)(d:List a1)(e:List bS)(f:List bE)(a:Int)(g:ByteArray)(h:Int):= cQ 53 [b0 1,b0 4,(11,hD 41 (cz) i),(12,a8 j),(13,a8 k),(18,hD 41 (cz) l),(19,a8 m),(20,a8 o)] [(1,[ao w,ao b,.ro false 3 (.int .i64) c,.ro false 65 (cd) d,.ro false 105 (eh) e,.ro false 41 (cz) f]),(4,[ao a,.str g,ao h])] []
def HK (a:Bool):= bO 53 [(2,H0 a)]
def FO (f:List bE)(g h w a:Int)(b:List Int)(c:List a1)(d:List bS)(e:List bE):= cQ 53 [b0 1,(11,hD 41 (cz) f),(12,a8 g),(13,a8 h)] [(1,[ao w,ao a,.ro false 3 (.int .i64) b,.ro false 65 (cd) c,.ro false 105 (eh) d,.ro false 41 (cz) e])] []
def ey (a:St):Option U:=e9 fv F fw [.r,.r,.l,.r,.b,.i,.r,.r,.l,.b,.r,.r,.b,.i] f37 J n a
def iz:Ex->St->Option U:=Vy Tryz.prog (look fv) F fw [.r,.r,.l,.b,.r,.r,.b] (sub [.r,.r,.l,.r,.b,.i] (eU f37)) (itk Tryz.prog (look fv) F fw (sub [.r,.r,.l,.r,.b,.i] (eU f37)) J n)
def iA (f:List bE)(g h w a:Int)(b:List Int)(c:List a1)(d:List bS)(e:List bE):= cQ 53 [b0 1,(11,hD 41 (cz) f),(12,a8 g),(13,a8 h)] [(1,[ao w,ao a,.ro false 3 (.int .i64) b,.ro false 65 (cd) c,.ro false 105 (eh) d,.ro false 41 (cz) e])] []
def tn (a:Bool):= bO 53 [(2,H0 a)]
def FP   := bO 53 []
def lg (a:St):Option U:=e9 fv F fw [.r,.r,.l,.r,.b,.i] f37 J n a
def lO:=hf fv F fw [.r,.r,.l,.r,.b] f37 aO 1
theorem Bf (k:List bE)(l m:Int)(c:List bE)(o b w f:Int)(d:List Int)(g:List a1)(h:List bS)(i:List bE)(a:Int)(j:ByteArray)(e:Int):ey F J (n+1) (dv k l m c o b w f d g h i a j e)=br (decide (b<o)) (ck (bG b (c.length:Int)) ((c7 F0 d e).bind fun p=>br (!p.1) (br (e==(aK c b cz.aD).2.2) (br (a==(aK c b cz.aD).1) (br (!(j.toList==(aK c b cz.aD).2.1.toList)) (J .ret (HK false)) (ey F J n (dv k l m c o (aj (b+1)) w f d g h i a j e))) (ey F J n (dv k l m c o (aj (b+1)) w f d g h i a j e))) (ey F J n (dv k l m c o (aj (b+1)) w f d g h i a j e))) (ey F J n (dv k l m c o (aj (b+1)) w f d g h i a j e)))) (J (.exit 2) (FO k l m w f d g h i)):=by kernel_rfl
theorem Bg (b:List bE)(d a w e:Int)(f:List Int)(g:List a1)(h:List bS)(c:List bE):lg F J (n+1) (iA b d a w e f g h c)=br (decide (a<d)) (ck (bG a (b.length:Int)) (ey F (iz F J n) F.n (dv b d a c (c.length:Int) 0 w e f g h c (aK b a cz.aD).1 (aK b a cz.aD).2.1 (aK b a cz.aD).2.2))) (J (.exit 0) (FP)):=by kernel_rfl
theorem XH (a:Bool):iz F J n .ret (HK a)=J .ret (tn a):=by kernel_rfl
theorem U8 (f:List bE)(g h w a:Int)(b:List Int)(c:List a1)(d:List bS)(e:List bE):iz F J n (.exit 2) (FO f g h w a b c d e)=lg F J n (iA f g (aj (h+1)) w a b c d e):=by kernel_rfl
theorem XI (a:Bool):lO F .ret (tn a)=some (a,()):=by kernel_rfl
theorem U9: lO F (.exit 0) (FP)=some (true,()):=by kernel_rfl
def vO (w:ko):=bj fv F fw f37 ix aO 1 (w,())
theorem acG (w:ko):vO F w=(bT F0 w).bind fun a=>br (!a.1) (some (false,())) (lg F (lO F) F.n (iA w.2.2.2.2 (w.2.2.2.2.length:Int) 0 w.1.1 w.1.2 w.2.1 w.2.2.1 w.2.2.2.1 w.2.2.2.2)):=by kernel_rfl
def HL:Any:=.one ⟨ix,aO,1,fun x=>vO F0 x.1⟩
theorem acH:a6 37 HL:=aq fv ⟨dh,dP,trivial⟩ func37 fw (by kernel_rfl)
def cB:=[(17,fP),(20,cx),(59,AA)]
def cC:Nat->Option Hint:=look [(5,{live:=[1,3,18,19,20],mat:=[(3,47,K9)],wk:=[3],xl:=[1,3],rl:=[2]}),(10,{live:=[1,3,36,37,38],xl:=[3],rl:=[2]}),(20,{live:=[3,68,69,70],rl:=[2]}),(23,{live:=[3,11,68,69,70,74,75,76],xl:=[3,68,69,70],rl:=[2]})]
def fG (d e f g a:Int)(b:ByteArray)(c:List Int)(h:List D9):= cQ 94 [(3,.v (.c (.own 1000000 none))),b0 11,(68,.v (.c (.own 1000000 none))),(69,a8 d),(70,a8 e),(74,.v (.c (.own 1000000 none))),(75,a8 f),(76,a8 g)] [(11,[ao a,.str b,.ro false 3 (.int .i64) c])] [(1000000,some ⟨47,K9,h,false,true⟩)]
def HM (a:Bool):= bO 94 [(2,H0 a)]
def FQ (a b:Int)(c:List D9):= cQ 94 [(3,.v (.c (.own 1000000 none))),(68,.v (.c (.own 1000000 none))),(69,a8 a),(70,a8 b)] [] [(1000000,some ⟨47,K9,c,false,true⟩)]
def hQ (a:St):Option U:=e9 cB F cC [.r,.r,.r,.r,.r,.l,.r,.b,.i,.r,.r,.l,.b,.r,.r,.b,.i] f38 J n a
def iB:Ex->St->Option U:=Vy Tryz.prog (look cB) F cC [.r,.r,.l,.b,.r,.r,.b] (sub [.r,.r,.r,.r,.r,.l,.r,.b,.i] (eU f38)) (itk Tryz.prog (look cB) F cC (sub [.r,.r,.r,.r,.r,.l,.r,.b,.i] (eU f38)) J n)
def fH (a b:Int)(c:List D9):= cQ 94 [(3,.v (.c (.own 1000000 none))),(68,.v (.c (.own 1000000 none))),(69,a8 a),(70,a8 b)] [] [(1000000,some ⟨47,K9,c,false,true⟩)]
def tp (a:Bool):= bO 94 [(2,H0 a)]
def FR   := bO 94 []
def hS (a:St):Option U:=e9 cB F cC [.r,.r,.r,.r,.r,.l,.r,.b,.i] f38 J n a
def iC:=hf cB F cC [.r,.r,.r,.r,.r,.l,.r,.b] f38 aO 1
def dw (f:List bS)(g h w a:Int)(b:List Int)(c:List a1)(d:List bS)(e:List bE)(i:List D9):= cQ 94 [b0 1,(3,.v (.c (.own 1000000 none))),(36,hD 105 (eh) f),(37,a8 g),(38,a8 h)] [(1,[ao w,ao a,.ro false 3 (.int .i64) b,.ro false 65 (cd) c,.ro false 105 (eh) d,.ro false 41 (cz) e])] [(1000000,some ⟨47,K9,i,false,true⟩)]
def rm (a:List D9):= cQ 94 [(3,.v (.c (.own 1000000 none)))] [] [(1000000,some ⟨47,K9,a,false,true⟩)]
def ez (a:St):Option U:=e9 cB F cC [.r,.r,.r,.r,.l,.r,.b,.i] f38 J n a
def fI:=hf cB F cC [.r,.r,.r,.r,.l,.r,.b] f38 aO 1
def iD (g h w a:Int)(b:List Int)(c:List a1)(d:List bS)(e:List bE)(i:List D9)(f:List Int):= cQ 94 [b0 1,(3,.v (.c (.own 1000000 none))),(18,.v (.c (.own 1000001 none))),(19,a8 g),(20,a8 h)] [(1,[ao w,ao a,.ro false 3 (.int .i64) b,.ro false 65 (cd) c,.ro false 105 (eh) d,.ro false 41 (cz) e])] [(1000000,some ⟨47,K9,i,false,true⟩),ay 1000001 3 (.int .i64) f]
def FT (w a:Int)(b:List Int)(c:List a1)(d:List bS)(e:List bE)(f:List D9):= cQ 94 [b0 1,(3,.v (.c (.own 1000000 none)))] [(1,[ao w,ao a,.ro false 3 (.int .i64) b,.ro false 65 (cd) c,.ro false 105 (eh) d,.ro false 41 (cz) e])] [(1000000,some ⟨47,K9,f,false,true⟩)]
def lh (a:St):Option U:=e9 cB F cC [.r,.r,.r,.l,.r,.b,.i] f38 J n a
def lP:=hf cB F cC [.r,.r,.r,.l,.r,.b] f38 aO 1
theorem Bh (e f g b a:Int)(d:ByteArray)(h:List Int)(c:List D9):hQ F J (n+1) (fG e f g b a d h c)=br (decide (b<g)) (ck (bG b (c.length:Int)) (br (a==(aK c b K9.aD).1) (br (!(d.toList==(aK c b K9.aD).2.1.toList)) (J .ret (HM false)) (hQ F J n (fG e f g (aj (b+1)) a d h c))) (hQ F J n (fG e f g (aj (b+1)) a d h c)))) (J (.exit 7) (FQ e f c)):=by kernel_rfl
theorem Bi (c a:Int)(b:List D9):hS F J (n+1) (fH c a b)=br (decide (a<c)) (ck (bG a (b.length:Int)) (hQ F (iB F J n) F.n (fG c a (b.length:Int) 0 (aK b a K9.aD).1 (aK b a K9.aD).2.1 (aK b a K9.aD).2.2 b))) (J (.exit 5) (FR)):=by kernel_rfl
theorem Bj (d:List bS)(f a w e:Int)(g:List Int)(h:List a1)(i:List bS)(j:List bE)(b:List D9):ez F J (n+1) (dw d f a w e g h i j b)=br (decide (a<f)) (ck (bG a (d.length:Int)) ((CI F0 (w,e) (aK d a (0,[])).2).bind fun c=>br (c.1.1==1) (ck (ei F b.length [c.1.2.2.1.2].length 48) (ez F J n (dw d f (aj (a+1)) w e g h i j (b++[c.1.2.2.1.2])))) (br (c.1.1==3) (ck (ei F b.length [c.1.2.2.2.2.1].length 48) (ez F J n (dw d f (aj (a+1)) w e g h i j (b++[c.1.2.2.2.2.1])))) (ez F J n (dw d f (aj (a+1)) w e g h i j b))))) (J (.exit 2) (rm b)):=by kernel_rfl
theorem Bk (i a w e:Int)(f:List Int)(b:List a1)(g:List bS)(h:List bE)(d:List D9)(c:List Int):lh F J (n+1) (iD i a w e f b g h d c)=br (decide (a<i)) (ck (bG a (c.length:Int)) (ck (bG (aK c a 0) (b.length:Int)) (ck (ei F d.length [(aK b (aK c a 0) cd.aD).2.2.2.1.2.2.1].length 48) (lh F J n (iD i (aj (a+1)) w e f b g h (d++[(aK b (aK c a 0) cd.aD).2.2.2.1.2.2.1]) c))))) (J (.exit 0) (FT w e f b g h d)):=by kernel_rfl
theorem XJ (a:Bool):iB F J n .ret (HM a)=J .ret (tp a):=by kernel_rfl
theorem Va (a b:Int)(c:List D9):iB F J n (.exit 7) (FQ a b c)=hS F J n (fH a (aj (b+1)) c):=by kernel_rfl
theorem XK (a:Bool):iC F .ret (tp a)=some (a,()):=by kernel_rfl
theorem Vb: iC F (.exit 5) (FR)=some (true,()):=by kernel_rfl
theorem Vc (a:List D9):fI F (.exit 2) (rm a)=hS F (iC F) F.n (fH (a.length:Int) 0 a):=by kernel_rfl
theorem Vd (w b:Int)(c:List Int)(d:List a1)(a:List bS)(e:List bE)(f:List D9):lP F (.exit 0) (FT w b c d a e f)=ez F (fI F) F.n (dw a (a.length:Int) 0 w b c d a e f):=by kernel_rfl
def vP (w:ko):=bj cB F cC f38 ix aO 1 (w,())
theorem acI (w:ko):vP F w=(bT F0 w).bind fun b=>br (!b.1) (some (false,())) ((gV F0 w).bind fun a=>lh F (lP F) F.n (iD (a.1.length:Int) 0 w.1.1 w.1.2 w.2.1 w.2.2.1 w.2.2.2.1 w.2.2.2.2 [] a.1)):=by kernel_rfl
def HN:Any:=.one ⟨ix,aO,1,fun x=>vP F0 x.1⟩
theorem acJ:a6 38 HN:=aq cB ⟨jT,dh,O3,trivial⟩ func38 cC (by kernel_rfl)
def Ji:Nat->Option Hint:=look [(3,{live:=[3,7,8,9],xl:=[3],rl:=[2]})]
def Bl (a:Int)(b:List Int)(c d:Int):= bO 18 [(3,a8 a),(7,hD 3 (.int .i64) b),(8,a8 c),(9,a8 d)]
def UK (a:Int):= bO 18 [(3,a8 a)]
def Jj (a:St):Option U:=e9 aA F Ji [.r,.r,.l,.r,.b,.i] f83 J n a
def LL:=hf aA F Ji [.r,.r,.l,.r,.b] f83 cE 1
theorem Oi (c:Int)(b:List Int)(d a:Int):Jj F J (n+1) (Bl c b d a)=br (decide (a<d)) (ck (bG a (b.length:Int)) (Jj F J n (Bl (aj (c+(aK b a 0))) b d (aj (a+1))))) (J (.exit 0) (UK c)):=by kernel_rfl
theorem aii (a:Int):LL F (.exit 0) (UK a)=some (a,()):=by kernel_rfl
def Sp (l:D43):=bj aA F Ji f83 na cE 1 (l,())
theorem asO (l:D43):Sp F l=Jj F (LL F) F.n (Bl 0 l.1 (l.1.length:Int) 0):=by kernel_rfl
def XL:Any:=.one ⟨na,cE,1,fun x=>Sp F0 x.1⟩
theorem asP:a6 83 XL:=aq aA trivial func83 Ji (by kernel_rfl)
def Rh (a:Int):=bj aA F ad f88 cE aO 1 (a,())
theorem awx (a:Int):Rh F a=br (a==0) (some (true,())) (some (a==4,())):=by kernel_rfl
def abh:Any:=.one ⟨cE,aO,1,fun x=>Rh F0 x.1⟩
theorem awy:a6 88 abh:=aq aA trivial func88 ad (by kernel_rfl)
def dq:=[(17,fP),(20,cx),(83,XL),(84,LA),(85,A2),(86,vB),(87,nT),(88,abh)]
def dr:Nat->Option Hint:=look [(4,{live:=[1,16,17,18],rl:=[2]}),(11,{live:=[1,5,7,16,17,18,46,47,48],xl:=[1,16,17,18],rl:=[2]}),(14,{live:=[1,5,7,8,9,16,17,18,46,47,48,55,56,57],xl:=[1,5,7,16,17,18,46,47,48],rl:=[2]})]
def dQ (i m o p q a r s w b:Int)(c:List Int)(d:List a1)(e:List bS)(f:List bE)(x g h j:Int)(t:List D4)(k l:List Int):= cQ 91 [b0 1,(5,.v (.c (.own 1000000 none))),(7,.v (.c (.own 1000001 none))),(8,a8 i),b0 9,(16,.v (.c (.own 1000002 none))),(17,a8 m),(18,a8 o),(46,.v (.c (.own 1000000 none))),(47,a8 p),(48,a8 q),(55,.v (.c (.own 1000000 (some a)))),(56,a8 r),(57,a8 s)] [(1,[ao w,ao b,.ro false 3 (.int .i64) c,.ro false 65 (cd) d,.ro false 105 (eh) e,.ro false 41 (cz) f]),(9,[ao x,ao g,ao h,ao j])] [ay 1000000 52 K4 t,ay 1000001 3 (.int .i64) k,ay 1000002 3 (.int .i64) l]
def LM (a:Bool):= bO 91 [(2,H0 a)]
def HO (h i j k w a:Int)(b:List Int)(c:List a1)(d:List bS)(e:List bE)(l:List D4)(f g:List Int):= cQ 91 [b0 1,(5,.v (.c (.own 1000000 none))),(7,.v (.c (.own 1000001 none))),(16,.v (.c (.own 1000002 none))),(17,a8 h),(18,a8 i),(46,.v (.c (.own 1000000 none))),(47,a8 j),(48,a8 k)] [(1,[ao w,ao a,.ro false 3 (.int .i64) b,.ro false 65 (cd) c,.ro false 105 (eh) d,.ro false 41 (cz) e])] [ay 1000000 52 K4 l,ay 1000001 3 (.int .i64) f,ay 1000002 3 (.int .i64) g]
def e6 (a:St):Option U:=e9 dq F dr [.r,.r,.l,.r,.b,.i,.r,.r,.l,.b,.r,.r,.r,.r,.r,.b,.i,.r,.r,.l,.b,.r,.r,.b,.i] f39 J n a
def jX:Ex->St->Option U:=Vy Tryz.prog (look dq) F dr [.r,.r,.l,.b,.r,.r,.b] (sub [.r,.r,.l,.r,.b,.i,.r,.r,.l,.b,.r,.r,.r,.r,.r,.b,.i] (eU f39)) (itk Tryz.prog (look dq) F dr (sub [.r,.r,.l,.r,.b,.i,.r,.r,.l,.b,.r,.r,.r,.r,.r,.b,.i] (eU f39)) J n)
def gi (h i j k w a:Int)(b:List Int)(c:List a1)(d:List bS)(e:List bE)(l:List D4)(f g:List Int):= cQ 91 [b0 1,(5,.v (.c (.own 1000000 none))),(7,.v (.c (.own 1000001 none))),(16,.v (.c (.own 1000002 none))),(17,a8 h),(18,a8 i),(46,.v (.c (.own 1000000 none))),(47,a8 j),(48,a8 k)] [(1,[ao w,ao a,.ro false 3 (.int .i64) b,.ro false 65 (cd) c,.ro false 105 (eh) d,.ro false 41 (cz) e])] [ay 1000000 52 K4 l,ay 1000001 3 (.int .i64) f,ay 1000002 3 (.int .i64) g]
def wB (a:Bool):= bO 91 [(2,H0 a)]
def HP (f g w a:Int)(b:List Int)(c:List a1)(d:List bS)(e:List bE)(h:List Int):= cQ 91 [b0 1,(16,.v (.c (.own 1000000 none))),(17,a8 f),(18,a8 g)] [(1,[ao w,ao a,.ro false 3 (.int .i64) b,.ro false 65 (cd) c,.ro false 105 (eh) d,.ro false 41 (cz) e])] [ay 1000000 3 (.int .i64) h]
def jF (a:St):Option U:=e9 dq F dr [.r,.r,.l,.r,.b,.i,.r,.r,.l,.b,.r,.r,.r,.r,.r,.b,.i] f39 J n a
def jY:Ex->St->Option U:=Vy Tryz.prog (look dq) F dr [.r,.r,.l,.b,.r,.r,.r,.r,.r,.b] (sub [.r,.r,.l,.r,.b,.i] (eU f39)) (itk Tryz.prog (look dq) F dr (sub [.r,.r,.l,.r,.b,.i] (eU f39)) J n)
def jZ (f g w a:Int)(b:List Int)(c:List a1)(d:List bS)(e:List bE)(h:List Int):= cQ 91 [b0 1,(16,.v (.c (.own 1000000 none))),(17,a8 f),(18,a8 g)] [(1,[ao w,ao a,.ro false 3 (.int .i64) b,.ro false 65 (cd) c,.ro false 105 (eh) d,.ro false 41 (cz) e])] [ay 1000000 3 (.int .i64) h]
def nX (a:Bool):= bO 91 [(2,H0 a)]
def HQ   := bO 91 []
def mP (a:St):Option U:=e9 dq F dr [.r,.r,.l,.r,.b,.i] f39 J n a
def nY:=hf dq F dr [.r,.r,.l,.r,.b] f39 aO 1
theorem BR (i m o p q d r a w e:Int)(f:List Int)(g:List a1)(h:List bS)(j:List bE)(x s t k:Int)(c:List D4)(b l:List Int):e6 F J (n+1) (dQ i m o p q d r a w e f g h j x s t k c b l)=br (decide (a<r)) (ck (bG a d) (ck (bG i (b.length:Int)) ((Rh F0 (aK b i 0)).bind fun u=>br u.1 (ck (bG a (b.length:Int)) ((Rh F0 (aK b a 0)).bind fun v=>br v.1 (br (x==(aK c a K4.aD).1) (br (k==(aK c a K4.aD).2.2.2) (J .ret (LM false)) (e6 F J n (dQ i m o p q d r (aj (a+1)) w e f g h j x s t k c b l))) (e6 F J n (dQ i m o p q d r (aj (a+1)) w e f g h j x s t k c b l))) (e6 F J n (dQ i m o p q d r (aj (a+1)) w e f g h j x s t k c b l)))) (e6 F J n (dQ i m o p q d r (aj (a+1)) w e f g h j x s t k c b l))))) (J (.exit 4) (HO m o p q w e f g h j c b l)):=by kernel_rfl
theorem BS (i j k a w c:Int)(d:List Int)(e:List a1)(f:List bS)(g:List bE)(b:List D4)(l h:List Int):jF F J (n+1) (gi i j k a w c d e f g b l h)=br (decide (a<k)) (ck (bG a (b.length:Int)) (ck (okT a (b.length:Int)) (e6 F (jX F J n) F.n (dQ a i j k a a a 0 w c d e f g (aK b a K4.aD).1 (aK b a K4.aD).2.1 (aK b a K4.aD).2.2.1 (aK b a K4.aD).2.2.2 b l h)))) (J (.exit 2) (HP i j w c d e f g h)):=by kernel_rfl
theorem BU (f a w d:Int)(g:List Int)(c:List a1)(h:List bS)(i:List bE)(b:List Int):mP F J (n+1) (jZ f a w d g c h i b)=br (decide (a<f)) (ck (bG a (b.length:Int)) (ck (bG (aK b a 0) (c.length:Int)) ((lC F0 (w,d) (aK c (aK b a 0) cd.aD)).bind fun j=>(Sp F0 j.1).bind fun k=>br (k.1 != 400) (J .ret (nX false)) (ck (bG (aK b a 0) (c.length:Int)) ((rf F0 (aK c (aK b a 0) cd.aD).2.2.2.1.2.2.2).bind fun e=>(jW F0).bind fun l=>(ri F0 l.1 e.1).bind fun m=>jF F (jY F J n) F.n (gi f a (e.1.length:Int) 0 w d g c h i e.1 m.2.1 b)))))) (J (.exit 0) (HQ)):=by kernel_rfl
theorem ZB (a:Bool):jX F J n .ret (LM a)=J .ret (wB a):=by kernel_rfl
theorem XM (h i j k w a:Int)(b:List Int)(c:List a1)(d:List bS)(e:List bE)(l:List D4)(f g:List Int):jX F J n (.exit 4) (HO h i j k w a b c d e l f g)=jF F J n (gi h i j (aj (k+1)) w a b c d e l f g):=by kernel_rfl
theorem ZC (a:Bool):jY F J n .ret (wB a)=J .ret (nX a):=by kernel_rfl
theorem XN (f g w a:Int)(b:List Int)(c:List a1)(d:List bS)(e:List bE)(h:List Int):jY F J n (.exit 2) (HP f g w a b c d e h)=mP F J n (jZ f (aj (g+1)) w a b c d e h):=by kernel_rfl
theorem ZD (a:Bool):nY F .ret (nX a)=some (a,()):=by kernel_rfl
theorem XO: nY F (.exit 0) (HQ)=some (true,()):=by kernel_rfl
def Bm (w:ko):=bj dq F dr f39 ix aO 1 (w,())
theorem afr (w:ko):Bm F w=(bT F0 w).bind fun b=>br (!b.1) (some (false,())) ((gV F0 w).bind fun a=>mP F (nY F) F.n (jZ (a.1.length:Int) 0 w.1.1 w.1.2 w.2.1 w.2.2.1 w.2.2.2.1 w.2.2.2.2 a.1)):=by kernel_rfl
def LN:Any:=.one ⟨ix,aO,1,fun x=>Bm F0 x.1⟩
theorem afs:a6 39 LN:=aq dq ⟨jT,dh,asP,abb,Pc,Ly,AZ,awy,trivial⟩ func39 dr (by kernel_rfl)
def aj4:=[(18,Bc),(19,AO),(58,b1)]
def YM (c:D1)(r:a1):=bj aj4 F ad f89 xt aO 1 (c,r,())
theorem awz (c:D1)(r:a1):YM F c r=(ua F0 c r.2.2.2.2.2.2.1.1).bind fun a=>(cp F0 c r).bind fun b=>br b.1 ((tT F0 a.1 r.2.2.2.1).bind fun d=>br d.1 (some (a.2.1==(r.2.2.2.2.2.2.1.1.length:Int),())) (some (false,()))) (some (false,())):=by kernel_rfl
def abi:Any:=.one ⟨xt,aO,1,fun x=>YM F0 x.1 x.2.1⟩
theorem awA:a6 89 abi:=aq aj4 ⟨Re,QU,ct,trivial⟩ func89 ad (by kernel_rfl)
def gj:=[(17,fP),(20,cx),(89,abi)]
def gk:Nat->Option Hint:=look [(4,{live:=[1,11,12,13],rl:=[2]}),(9,{live:=[1,4,11,12,13,27,28,29],xl:=[1,11,12,13],rl:=[2]})]
def gl (a g h:Int)(i:List bE)(j k w b:Int)(c:List Int)(d:List a1)(e:List bS)(f:List bE)(l:List Int):= cQ 51 [b0 1,(4,a8 a),(11,.v (.c (.own 1000000 none))),(12,a8 g),(13,a8 h),(27,hD 41 (cz) i),(28,a8 j),(29,a8 k)] [(1,[ao w,ao b,.ro false 3 (.int .i64) c,.ro false 65 (cd) d,.ro false 105 (eh) e,.ro false 41 (cz) f])] [ay 1000000 3 (.int .i64) l]
def LO (a:Bool):= bO 51 [(2,H0 a)]
def HR (f g w a:Int)(b:List Int)(c:List a1)(d:List bS)(e:List bE)(h:List Int):= cQ 51 [b0 1,(11,.v (.c (.own 1000000 none))),(12,a8 f),(13,a8 g)] [(1,[ao w,ao a,.ro false 3 (.int .i64) b,.ro false 65 (cd) c,.ro false 105 (eh) d,.ro false 41 (cz) e])] [ay 1000000 3 (.int .i64) h]
def jG (a:St):Option U:=e9 gj F gk [.r,.r,.l,.r,.b,.i,.r,.r,.l,.b,.r,.r,.r,.b,.i] f40 J n a
def j0:Ex->St->Option U:=Vy Tryz.prog (look gj) F gk [.r,.r,.l,.b,.r,.r,.r,.b] (sub [.r,.r,.l,.r,.b,.i] (eU f40)) (itk Tryz.prog (look gj) F gk (sub [.r,.r,.l,.r,.b,.i] (eU f40)) J n)
def j1 (f g w a:Int)(b:List Int)(c:List a1)(d:List bS)(e:List bE)(h:List Int):= cQ 51 [b0 1,(11,.v (.c (.own 1000000 none))),(12,a8 f),(13,a8 g)] [(1,[ao w,ao a,.ro false 3 (.int .i64) b,.ro false 65 (cd) c,.ro false 105 (eh) d,.ro false 41 (cz) e])] [ay 1000000 3 (.int .i64) h]
def nZ (a:Bool):= bO 51 [(2,H0 a)]
def HS   := bO 51 []
def mQ (a:St):Option U:=e9 gj F gk [.r,.r,.l,.r,.b,.i] f40 J n a
def n0:=hf gj F gk [.r,.r,.l,.r,.b] f40 aO 1
theorem BV (a i j:Int)(d:List bE)(k b w e:Int)(f:List Int)(c:List a1)(g:List bS)(h:List bE)(l:List Int):jG F J (n+1) (gl a i j d k b w e f c g h l)=br (decide (b<k)) (ck (bG b (d.length:Int)) (br ((aK d b cz.aD).2.2==a) (ck (bG a (c.length:Int)) (br (decide ((aK c a cd.aD).2.2.2.1.1<(aK d b cz.aD).1)) (J .ret (LO false)) (jG F J n (gl a i j d k (aj (b+1)) w e f c g h l)))) (jG F J n (gl a i j d k (aj (b+1)) w e f c g h l)))) (J (.exit 2) (HR i j w e f c g h l)):=by kernel_rfl
theorem BW (f a w e:Int)(g:List Int)(c:List a1)(h:List bS)(d:List bE)(b:List Int):mQ F J (n+1) (j1 f a w e g c h d b)=br (decide (a<f)) (ck (bG a (b.length:Int)) (ck (bG (aK b a 0) (c.length:Int)) ((YM F0 (w,e) (aK c (aK b a 0) cd.aD)).bind fun i=>br (!i.1) (J .ret (nZ false)) (jG F (j0 F J n) F.n (gl (aK b a 0) f a d (d.length:Int) 0 w e g c h d b))))) (J (.exit 0) (HS)):=by kernel_rfl
theorem ZE (a:Bool):j0 F J n .ret (LO a)=J .ret (nZ a):=by kernel_rfl
theorem XP (f g w a:Int)(b:List Int)(c:List a1)(d:List bS)(e:List bE)(h:List Int):j0 F J n (.exit 2) (HR f g w a b c d e h)=mQ F J n (j1 f (aj (g+1)) w a b c d e h):=by kernel_rfl
theorem ZF (a:Bool):n0 F .ret (nZ a)=some (a,()):=by kernel_rfl
theorem XQ: n0 F (.exit 0) (HS)=some (true,()):=by kernel_rfl
def Bn (w:ko):=bj gj F gk f40 ix aO 1 (w,())
theorem aft (w:ko):Bn F w=(bT F0 w).bind fun b=>br (!b.1) (some (false,())) ((gV F0 w).bind fun a=>mQ F (n0 F) F.n (j1 (a.1.length:Int) 0 w.1.1 w.1.2 w.2.1 w.2.2.1 w.2.2.2.1 w.2.2.2.2 a.1)):=by kernel_rfl
def LP:Any:=.one ⟨ix,aO,1,fun x=>Bn F0 x.1⟩
theorem afu:a6 40 LP:=aq gj ⟨jT,dh,awA,trivial⟩ func40 gk (by kernel_rfl)
def UL:=[(36,Oh),(37,HL),(38,HN),(39,LN),(40,LP)]
def EL (w:ko):=bj UL F ad f11 ix aO 1 (w,())
theorem aij (w:ko):EL F w=(EK F0 w).bind fun a=>br a.1 ((vO F0 w).bind fun b=>br b.1 ((vP F0 w).bind fun c=>br c.1 ((Bm F0 w).bind fun d=>br d.1 ((Bn F0 w).bind fun e=>some (e.1,())) (some (false,()))) (some (false,()))) (some (false,()))) (some (false,())):=by kernel_rfl
def Oj:Any:=.one ⟨ix,aO,1,fun x=>EL F0 x.1⟩
theorem aik:a6 11 Oj:=aq UL ⟨aih,acH,acJ,afs,afu,trivial⟩ func11 ad (by kernel_rfl)
def YN (r:a1):=bj aA F ad f61 MH cE 1 (r,())
theorem awB (r:a1):YN F r=some (aj ((aj ((r.2.2.2.2.1.length:Int)+(r.2.2.2.2.2.1.length:Int)))+(r.2.2.2.2.2.2.2.length:Int)),()):=by kernel_rfl
def abj:Any:=.one ⟨MH,cE,1,fun x=>YN F0 x.1⟩
theorem awC:a6 61 abj:=aq aA trivial func61 ad (by kernel_rfl)
end
end Go.Am.Tryz
namespace Go.Am.Tryz
open Go.Am Go.Proofs Go.Proofs.Tryz
noncomputable section
variable {U:Type} (F:rz) (J:Ex->St->Option U) (n:Nat)
def EM:=[(20,cx),(61,abj)]
def EN:Nat->Option Hint:=look [(4,{live:=[21,22,23],rl:=[2]})]
def vQ (a:List a1)(b c:Int):= bO 31 [(21,hD 65 (cd) a),(22,a8 b),(23,a8 c)]
def UM (a:Bool):= bO 31 [(2,H0 a)]
def Ri   := bO 31 []
def EO (a:St):Option U:=e9 EM F EN [.r,.r,.l,.r,.b,.i] f21 J n a
def vR:=hf EM F EN [.r,.r,.l,.r,.b] f21 aO 1
theorem LQ (b:List a1)(c a:Int):EO F J (n+1) (vQ b c a)=br (decide (a<c)) (ck (bG a (b.length:Int)) ((YN F0 (aK b a cd.aD)).bind fun d=>br (decide (d.1>62)) (J .ret (UM false)) (EO F J n (vQ b c (aj (a+1)))))) (J (.exit 0) (Ri)):=by kernel_rfl
theorem ail (a:Bool):vR F .ret (UM a)=some (a,()):=by kernel_rfl
theorem afv: vR F (.exit 0) (Ri)=some (true,()):=by kernel_rfl
def Ok (w:ko):=bj EM F EN f21 ix aO 1 (w,())
theorem apS (w:ko):Ok F w=(bT F0 w).bind fun a=>br (!a.1) (some (false,())) (br (decide ((w.2.2.2.1.length:Int)>60)) (some (false,())) (br (decide ((w.2.2.2.2.length:Int)>300)) (some (false,())) (EO F (vR F) F.n (vQ w.2.2.1 (w.2.2.1.length:Int) 0)))):=by kernel_rfl
def UN:Any:=.one ⟨ix,aO,1,fun x=>Ok F0 x.1⟩
theorem apT:a6 21 UN:=aq EM ⟨dh,awC,trivial⟩ func21 EN (by kernel_rfl)
def Ol:=[(6,adX),(7,Hm),(8,NG),(9,yC),(10,XF),(11,Oj),(20,cx),(21,UN)]
def vS (a:List Int):=bj Ol F ad f5 lW aO 1 (a,())
theorem acK (d:List Int):vS F d=(anT F0 d).bind fun e=>br e.1 (some (true,())) ((ve F0 d).bind fun a=>(tO F0 a.1.1 a.1.2.1).bind fun c=>(lv F0 a.1.1 a.1.2.1).bind fun f=>br (!(c.2.1==f.2.1)) (some (false,())) (br (!c.2.1) (some (true,())) ((Sm F0 c.1 a.2.1).bind fun b=>br ((b.2.1.length:Int)==(a.2.1.length:Int)) ((bT F0 b.1).bind fun g=>br g.1 ((EL F0 b.1).bind fun h=>br h.1 ((Ok F0 b.1).bind fun i=>some (i.1,())) (some (false,()))) (some (false,()))) (some (false,()))))):=by kernel_rfl
def ZG:Any:=.one ⟨lW,aO,1,fun x=>vS F0 x.1⟩
theorem acL:a6 5 ZG:=aq Ol ⟨ayw,acm,ahH,PT,asL,aik,dh,apT,trivial⟩ func5 ad (by kernel_rfl)
end
end Go.Am.Tryz
