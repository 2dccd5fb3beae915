/- No condition. -/
import Derived.Test.YtnllfndlcahalaaGreatDoorQvWJG6
set_option linter.all false
set_option maxRecDepth 100000
namespace Go.Am.Tryz
open Go.Am Go.Proofs Go.Proofs.Tryz
noncomputable section
variable {U:Type} (F:p5) (J:Ex->St->Option U) (n:Nat)
def vQ:=[(158,Jy)]
def vR:Nat->Option Hint:=look [(3,{live:=[3,5,10,11,12],mat:=[(5,52,K4)],roB:=[(3,0),(3,1)],xl:=[5],rl:=[4]})]
def h8 (b:List D4)(c d:Int)(l a:List Int)(e:List D4):= cQ 38 [b0 3,(5,.v (.c (.own 1000000 none))),(10,hV 52 (K4) b),(11,a8 c),(12,a8 d)] [(3,[.ro false 3 (.int .i64) l,.ro false 3 (.int .i64) a])] [ay 1000000 52 K4 e]
def wL (a:List D4):= cQ 38 [(5,.v (.c (.own 1000000 none)))] [] [ay 1000000 52 K4 a]
def kH (a:St):Option U:=ff vQ F vR [.r,.r,.l,.r,.b,.i] f231 J n a
def Bh:=hQ vQ F vR [.r,.r,.l,.r,.b] f231 km 2
def FY (b:List D4)(e a:Int)(l f:List Int)(c:List D4):kH F J (n+1) (h8 b e a l f c)=br (decide (a<e)) (ck (bG a (b.length:Int)) (br ((c.length:Int)==2) (J (.exit 0) (wL c)) ((LV F0 (l,f) (aI b a K4.az)).bind fun d=>br (d.2.1==0) (ck (ep F c.length [(aI b a K4.az)].length 32) (kH F J n (h8 b e (aj (a+1)) d.1.1 d.1.2 (c++[(aI b a K4.az)])))) (br (d.2.1==4) (ck (ep F c.length [(aI b a K4.az)].length 32) (kH F J n (h8 b e (aj (a+1)) d.1.1 d.1.2 (c++[(aI b a K4.az)])))) (kH F J n (h8 b e (aj (a+1)) d.1.1 d.1.2 c)))))) (J (.exit 0) (wL c)):=by kernel_rfl
def H2 (a:List D4):Bh F (.exit 0) (wL a)=some (a,()):=by kernel_rfl
def o6 (p:D5)(l:D43):=bj vQ F vR f231 akp km 2 (p,l,())
def aiV (p:D5)(l:D43):o6 F p l=kH F (Bh F) F.n (h8 p (p.length:Int) 0 l.1 l.2 []):=by kernel_rfl
def OC:Any:=.one ⟨akp,km,2,fun x=>o6 F0 x.1 x.2.1⟩
def aiW:a1 231 OC:=aq vQ ⟨X4,trivial⟩ func231 vR (by kernel_rfl)
def Bi:=[(104,jz),(180,GS),(181,P2)]
def Bj:Nat->Option Hint:=look [(3,{live:=[3,6,7,8],mat:=[(3,9,.str)],xl:=[3],rl:=[2]})]
def s5 (a:List D4)(b c:Int)(d:List ByteArray):= cQ 23 [(3,.v (.c (.own 1000000 none))),(6,hV 52 (K4) a),(7,a8 b),(8,a8 c)] [] [ay 1000000 9 (.str) d]
def Ry (a:ByteArray):= bP 23 [(2,qqs a)]
def OD (a:List ByteArray):= cQ 23 [(3,.v (.c (.own 1000000 none)))] [] [ay 1000000 9 (.str) a]
def Bk (a:St):Option U:=ff Bi F Bj [.r,.r,.l,.r,.b,.i] f106 J n a
def s6:=hQ Bi F Bj [.r,.r,.l,.r,.b] f106 dC 1
def H3 (b:List D4)(d a:Int)(c:List ByteArray):Bk F J (n+1) (s5 b d a c)=br (decide (a<d)) (ck (bG a (b.length:Int)) ((o4 F0 (aI b a K4.az)).bind fun f=>br (!f.1) (J .ret (Ry ak)) ((FH F0 (aI b a K4.az)).bind fun e=>ck (ep F c.length [e.1].length 16) (Bk F J n (s5 b d (aj (a+1)) (c++[e.1])))))) (J (.exit 0) (OD c)):=by kernel_rfl
def af6 (a:ByteArray):s6 F .ret (Ry a)=some (a,()):=by kernel_rfl
def adk (a:List ByteArray):s6 F (.exit 0) (OD a)=(strings_Join F0 a (ByteArray.mk #[44])).bind fun b=>some (b.1,()):=by kernel_rfl
def Jz (a:D5):=bj Bi F Bj f106 km dC 1 (a,())
def am7 (a:D5):Jz F a=Bk F (s6 F) F.n (s5 a (a.length:Int) 0 []):=by kernel_rfl
def Rz:Any:=.one ⟨km,dC,1,fun x=>Jz F0 x.1⟩
def am8:a1 106 Rz:=aq Bi ⟨nL,Xq,aly,trivial⟩ func106 Bj (by kernel_rfl)
def EW:=[(60,eS),(104,jz),(105,vq),(106,Rz)]
def EX:Nat->Option Hint:=look [(2,{live:=[0,1,2,10,11,12],xl:=[0,1,2],rl:=[6]})]
def vS (a:ByteArray)(b:Int)(c d:List D4)(e f:Int):= bP 38 [(0,qqs a),(1,a8 b),(2,hV 52 (K4) c),(10,hV 52 (K4) d),(11,a8 e),(12,a8 f)]
def U8 (a:ByteArray):= bP 38 [(6,qqs a)]
def RA (a:ByteArray)(b:Int)(c:List D4):= bP 38 [(0,qqs a),(1,a8 b),(2,hV 52 (K4) c)]
def EY (a:St):Option U:=ff EW F EX [.r,.l,.r,.b,.i] f46 J n a
def vT:=hQ EW F EX [.r,.l,.r,.b] f46 dC 1
def L1 (c:ByteArray)(d:Int)(e b:List D4)(f a:Int):EY F J (n+1) (vS c d e b f a)=br (decide (a<f)) (ck (bG a (b.length:Int)) ((o4 F0 (aI b a K4.az)).bind fun g=>br (!g.1) (J .ret (U8 ak)) (EY F J n (vS c d e b f (aj (a+1)))))) (J (.exit 0) (RA c d e)):=by kernel_rfl
def aiX (a:ByteArray):vT F .ret (U8 a)=some (a,()):=by kernel_rfl
def af7 (a:ByteArray)(e:Int)(d:List D4):vT F (.exit 0) (RA a e d)=ck (Vo F a.size (ByteArray.mk #[47]).size) ((k2 F0 e).bind fun b=>ck (Vo F (a++(ByteArray.mk #[47])).size b.1.size) (ck (Vo F ((a++(ByteArray.mk #[47]))++b.1).size (ByteArray.mk #[124]).size) ((Jz F0 d).bind fun c=>ck (Vo F (((a++(ByteArray.mk #[47]))++b.1)++(ByteArray.mk #[124])).size c.1.size) (br (decide ((d.length:Int)>2)) (some (ak,())) ((e7 F0 ((((a++(ByteArray.mk #[47]))++b.1)++(ByteArray.mk #[124]))++c.1)).bind fun f=>br (!f.1) (some (ak,())) (some ((((a++(ByteArray.mk #[47]))++b.1)++(ByteArray.mk #[124]))++c.1,()))))))):=by kernel_rfl
def FZ (a:ByteArray)(b:Int)(c:D5):=bj EW F EX f46 aEe dC 1 (a,b,c,())
def aqx (b:ByteArray)(c:Int)(a:D5):FZ F b c a=EY F (vT F) F.n (vS b c a a (a.length:Int) 0):=by kernel_rfl
def U9:Any:=.one ⟨aEe,dC,1,fun x=>FZ F0 x.1 x.2.1 x.2.2.1⟩
def aqy:a1 46 U9:=aq EW ⟨hl,nL,Ls,am8,trivial⟩ func46 EX (by kernel_rfl)
def Va:=[(46,U9),(47,iv),(48,mF),(49,eb)]
def ec (c:D1)(q:D9)(a:Int)(b:D5):=bj Va F ad f15 azi ae2 2 (c,q,a,b,())
def aiY (c:D1)(q:D9)(b:Int)(e:D5):ec F c q b e=(FZ F0 q.2.1 b e).bind fun a=>(hD F0 q).bind fun d=>(nO F0 c (a.1,d.1)).bind fun f=>br (!f.1) (some ((ak,0,ak,[]),false,())) ((ew F0 a.1).bind fun g=>br (g.1 != b) (some ((ak,0,ak,[]),false,())) (some ((a.1,d.1),true,()))):=by kernel_rfl
def OE:Any:=.one ⟨azi,ae2,2,fun x=>ec F0 x.1 x.2.1 x.2.2.1 x.2.2.2.1⟩
def RB:a1 15 OE:=aq Va ⟨aqy,mQ,vx,fA,trivial⟩ func15 ad (by kernel_rfl)
def aqz:=[(15,OE),(58,b2),(85,Bf),(86,vM),(87,n5),(168,lM),(229,PC),(231,OC)]
def af8 (c:D1)(r:a7):=bj aqz F ad f174 x8 ae2 2 (c,r,())
def azr (c:D1)(r:a7):af8 F c r=(cq F0 c r).bind fun g=>br (!g.1) (some ((ak,0,ak,[]),false,())) ((sT F0 c r.2.1).bind fun h=>br (h.1 != r.1) (some ((ak,0,ak,[]),false,())) (br (decide (r.2.2.1>=r.2.1)) (some ((ak,0,ak,[]),false,())) (br (r.2.2.2.1.2.2.1.1 != (aj (r.2.1-1))) ((sV F0 c r r.2.1).bind fun i=>br (!i.1) (some ((ak,0,ak,[]),false,())) ((j3 F0).bind fun b=>(ry F0 r.2.2.2.1.2.2.1.2.1).bind fun d=>(rA F0 b.1 d.1).bind fun e=>(o6 F0 r.2.2.2.2.1 e.1).bind fun f=>(ec F0 c r.2.2.2.1.2.2.1 r.2.1 f.1).bind fun a=>some (a.1,a.2.1,()))) ((j3 F0).bind fun b=>(ry F0 r.2.2.2.1.2.2.1.2.1).bind fun d=>(rA F0 b.1 d.1).bind fun e=>(o6 F0 r.2.2.2.2.1 e.1).bind fun f=>(ec F0 c r.2.2.2.1.2.2.1 r.2.1 f.1).bind fun a=>some (a.1,a.2.1,()))))):=by kernel_rfl
def af9:Any:=.one ⟨x8,ae2,2,fun x=>af8 F0 x.1 x.2.1⟩
def azs:a1 174 af9:=aq aqz ⟨RB,cu,PD,LX,Bd,sU,afW,aiW,trivial⟩ func174 ad (by kernel_rfl)
def Bl:=[(58,b2),(80,bO),(178,ui)]
def Bm:Nat->Option Hint:=look [(5,{live:=[3,4,5,6,8,9],yh:=[(6,7,3,.int .i64),(6,9,52,K4),(6,10,50,K9),(6,11,5,.int .u8),(6,13,136,p2)],xl:=[6,8],rl:=[6,7]})]
def mX (a c b r d e f g h:Int)(i:ByteArray)(j:List Int)(k:ByteArray)(l:List D4)(o:List D9)(p:List Int)(q:Int)(s:List lD)(m M:Int)(m2:ByteArray)(N:Int)(O:ByteArray)(P:List Int)(Q:Int)(R:ByteArray)(S:List Int)(T:Int)(W:ByteArray)(X:List Int)(Y Z qd qe qf qg qh qi qj qk ql:Int)(qm qn:ByteArray)(qo qp t u v w x:Int)(y z:ByteArray)(A:Int)(qq:List Int)(B:List D4)(C:List D9)(D:List Int)(E:List lD)(G:List Int)(H:List D4)(I:List D9)(K:List Int)(L:List lD):= cQ 43 [b0 3,b0 4,b0 5,b0 6,b0 8,(9,a8 a)] [(3,[ao c,ao b]),(4,[ao r,ao d,ao e,ao f,ao g,ao h,.str i,.ro false 3 (.int .i64) j,.str k,.ro false 52 (K4) l,.ro false 50 (K9) o,.ro false 5 (.int .u8) p,ao q,.ro false 136 (p2) s]),(5,[ao m,ao M,.str m2,ao N,.str O,.ro false 3 (.int .i64) P,ao Q,.str R,.ro false 3 (.int .i64) S,ao T,.str W,.ro false 3 (.int .i64) X,ao Y,ao Z,ao qd,ao qe,ao qf]),(6,[ao qg,ao qh,ao qi,ao qj,ao qk,ao ql,.str qm,.own 1000000 none,.str qn,.own 1000001 none,.own 1000002 none,.own 1000003 none,ao qo,.own 1000004 none]),(8,[ao qp,ao t,ao u,ao v,ao w,ao x,.str y,.own 1000005 none,.str z,.own 1000006 none,.own 1000007 none,.own 1000008 none,ao A,.own 1000009 none])] [ay 1000000 3 (.int .i64) qq,ay 1000001 52 K4 B,ay 1000002 50 K9 C,ay 1000003 5 (.int .u8) D,ay 1000004 136 p2 E,ay 1000005 3 (.int .i64) G,ay 1000006 52 K4 H,ay 1000007 50 K9 I,ay 1000008 5 (.int .u8) K,ay 1000009 136 p2 L]
def RC (e:Bool)(f g h i j k:Int)(l m:ByteArray)(o:Int)(p:List Int)(a:List D4)(b:List D9)(c:List Int)(d:List lD):= cQ 43 [b0 6,(7,Ir e)] [(6,[ao f,ao g,ao h,ao i,ao j,ao k,.str l,.own 1000000 none,.str m,.own 1000001 none,.own 1000002 none,.own 1000003 none,ao o,.own 1000004 none])] [ay 1000000 3 (.int .i64) p,ay 1000001 52 K4 a,ay 1000002 50 K9 b,ay 1000003 5 (.int .u8) c,ay 1000004 136 p2 d]
def OF (s t u v w x:Int)(y z:ByteArray)(A B a b c d e:Int)(f g:ByteArray)(h:Int)(C:List Int)(i:List D4)(j:List D9)(k:List Int)(l:List lD)(m:List Int)(o:List D4)(p:List D9)(q:List Int)(r:List lD):= cQ 43 [b0 6,b0 8] [(6,[ao s,ao t,ao u,ao v,ao w,ao x,.str y,.own 1000000 none,.str z,.own 1000001 none,.own 1000002 none,.own 1000003 none,ao A,.own 1000004 none]),(8,[ao B,ao a,ao b,ao c,ao d,ao e,.str f,.own 1000005 none,.str g,.own 1000006 none,.own 1000007 none,.own 1000008 none,ao h,.own 1000009 none])] [ay 1000000 3 (.int .i64) C,ay 1000001 52 K4 i,ay 1000002 50 K9 j,ay 1000003 5 (.int .u8) k,ay 1000004 136 p2 l,ay 1000005 3 (.int .i64) m,ay 1000006 52 K4 o,ay 1000007 50 K9 p,ay 1000008 5 (.int .u8) q,ay 1000009 136 p2 r]
def rB (a:St):Option U:=ff Bl F Bm [.r,.r,.r,.l,.r,.b,.i] f175 J n a
def s7:=hQ Bl F Bm [.r,.r,.r,.l,.r,.b] f175 gH 2
def H4 (d c e r f g h i j:Int)(k:ByteArray)(l:List Int)(o:ByteArray)(p:List D4)(q:List D9)(s:List Int)(t:Int)(u:List lD)(m O:Int)(m2:ByteArray)(P:Int)(Q:ByteArray)(R:List Int)(S:Int)(T:ByteArray)(W:List Int)(X:Int)(Y:ByteArray)(Z:List Int)(qd qe qf qg qh qi qj qk ql qm qn:Int)(qo qp:ByteArray)(qq qt v w x y z:Int)(A B:ByteArray)(C:Int)(qu:List Int)(D:List D4)(E:List D9)(G:List Int)(H:List lD)(I:List Int)(K:List D4)(L:List D9)(M:List Int)(N:List lD):rB F J (n+1) (mX d c e r f g h i j k l o p q s t u m O m2 P Q R S T W X Y Z qd qe qf qg qh qi qj qk ql qm qn qo qp qq qt v w x y z A B C qu D E G H I K L M N)=br (decide (d<c)) (br (d==r) (rB F J n (mX (aj (d+1)) c e r f g h i j k l o p q s t u m O m2 P Q R S T W X Y Z qd qe qf qg qh qi qj qk ql qm qn qo qp qq qt v w x y z A B C qu D E G H I K L M N)) ((mV F0 (c,e) (qt,v,w,(x,y,(z,A,I),B),K,L,(M,C),N) d (m,O,(m2,P,Q,R),(S,T,W),(X,Y,Z),qd,qe,qf,qg,qh)).bind fun a=>br (!a.2.1) ((aB F0 (r,f,g,(h,i,(j,k,l),o),p,q,(s,t),u)).bind fun b=>J .ret (RC false b.1.1 b.1.2.1 b.1.2.2.1 b.1.2.2.2.1.1 b.1.2.2.2.1.2.1 b.1.2.2.2.1.2.2.1.1 b.1.2.2.2.1.2.2.1.2.1 b.1.2.2.2.1.2.2.2 b.1.2.2.2.2.2.2.1.2 b.1.2.2.2.1.2.2.1.2.2 b.1.2.2.2.2.1 b.1.2.2.2.2.2.1 b.1.2.2.2.2.2.2.1.1 b.1.2.2.2.2.2.2.2)) (rB F J n (mX (aj (d+1)) c e r f g h i j k l o p q s t u m O m2 P Q R S T W X Y Z qd qe qf qg qh qi qj qk ql qm qn qo qp qq a.1.1 a.1.2.1 a.1.2.2.1 a.1.2.2.2.1.1 a.1.2.2.2.1.2.1 a.1.2.2.2.1.2.2.1.1 a.1.2.2.2.1.2.2.1.2.1 a.1.2.2.2.1.2.2.2 a.1.2.2.2.2.2.2.1.2 qu D E G H a.1.2.2.2.1.2.2.1.2.2 a.1.2.2.2.2.1 a.1.2.2.2.2.2.1 a.1.2.2.2.2.2.2.1.1 a.1.2.2.2.2.2.2.2)))) (J (.exit 0) (OF qi qj qk ql qm qn qo qp qq qt v w x y z A B C qu D E G H I K L M N)):=by kernel_rfl
def aga (e:Bool)(f g h i j k:Int)(l m:ByteArray)(o:Int)(p:List Int)(a:List D4)(b:List D9)(c:List Int)(d:List lD):s7 F .ret (RC e f g h i j k l m o p a b c d)=some ((f,g,h,(i,j,(k,l,p),m),a,b,(c,o),d),e,()):=by kernel_rfl
def adl (t u v w x y:Int)(z A:ByteArray)(B o a b c d e:Int)(f g:ByteArray)(h:Int)(C:List Int)(p:List D4)(q:List D9)(r:List Int)(s:List lD)(i:List Int)(j:List D4)(k:List D9)(l:List Int)(m:List lD):s7 F (.exit 0) (OF t u v w x y z A B o a b c d e f g h C p q r s i j k l m)=some ((o,a,b,(c,d,(e,f,i),g),j,k,(l,h),m),true,()):=by kernel_rfl
def Bn (c:D1)(r:a7)(m:Po):=bj Bl F Bm f175 aa9 gH 2 (c,r,m,())
def am9 (c:D1)(r:a7)(m:Po):Bn F c r m=(aB F0 r).bind fun a=>(cq F0 c r).bind fun b=>br (!b.1) (some (a.1,false,())) (rB F (s7 F) F.n (mX 0 c.1 c.2 r.1 r.2.1 r.2.2.1 r.2.2.2.1.1 r.2.2.2.1.2.1 r.2.2.2.1.2.2.1.1 r.2.2.2.1.2.2.1.2.1 r.2.2.2.1.2.2.1.2.2 r.2.2.2.1.2.2.2 r.2.2.2.2.1 r.2.2.2.2.2.1 r.2.2.2.2.2.2.1.1 r.2.2.2.2.2.2.1.2 r.2.2.2.2.2.2.2 m.1 m.2.1 m.2.2.1.1 m.2.2.1.2.1 m.2.2.1.2.2.1 m.2.2.1.2.2.2 m.2.2.2.1.1 m.2.2.2.1.2.1 m.2.2.2.1.2.2 m.2.2.2.2.1.1 m.2.2.2.2.1.2.1 m.2.2.2.2.1.2.2 m.2.2.2.2.2.1 m.2.2.2.2.2.2.1 m.2.2.2.2.2.2.2.1 m.2.2.2.2.2.2.2.2.1 m.2.2.2.2.2.2.2.2.2 0 0 0 0 0 0 ak ak 0 a.1.1 a.1.2.1 a.1.2.2.1 a.1.2.2.2.1.1 a.1.2.2.2.1.2.1 a.1.2.2.2.1.2.2.1.1 a.1.2.2.2.1.2.2.1.2.1 a.1.2.2.2.1.2.2.2 a.1.2.2.2.2.2.2.1.2 [] [] [] [] [] a.1.2.2.2.1.2.2.1.2.2 a.1.2.2.2.2.1 a.1.2.2.2.2.2.1 a.1.2.2.2.2.2.2.1.1 a.1.2.2.2.2.2.2.2)):=by kernel_rfl
def RD:Any:=.one ⟨aa9,gH,2,fun x=>Bn F0 x.1 x.2.1 x.2.2.1⟩
def ana:a1 175 RD:=aq Bl ⟨cu,b8,Jq,trivial⟩ func175 Bm (by kernel_rfl)
def X7:=[(80,bO),(161,wJ),(174,af9),(175,RD)]
abbrev aqA:List (Ty×Bool):=[(ca,true),(.int .i64,false)]
def JA (c:D1)(r:a7):=bj X7 F ad f99 x8 aqA 0 (c,r,())
def anb (c:D1)(r:a7):JA F c r=(af8 F0 c r).bind fun a=>br (!a.2.1) (some (r,3,())) ((aB F0 r).bind fun b=>(Bn F0 c (b.1.1,b.1.2.1,r.2.1,b.1.2.2.2) (1,0,a.1,(0,ak,[]),(0,ak,[]),0,0,0,0,0)).bind fun d=>br (!d.2.1) (some (r,4,())) ((rv F0 c d.1 a.1).bind fun e=>br (!e.2.1) (some (r,4,())) (some (e.1,0,())))):=by kernel_rfl
def RE:Any:=.one ⟨x8,aqA,0,fun x=>JA F0 x.1 x.2.1⟩
def anc:a1 99 RE:=aq X7 ⟨b8,Ot,azs,ana,trivial⟩ func99 ad (by kernel_rfl)
def vU:=[(176,Bc)]
def vV:Nat->Option Hint:=look [(2,{live:=[2,3,4,6],yh:=[(4,7,3,.int .i64),(4,9,52,K4),(4,10,50,K9),(4,11,5,.int .u8),(4,13,136,p2)],xl:=[3,4],rl:=[4,5]})]
def pW (i c a r b d e f g:Int)(h:ByteArray)(j:List Int)(k:ByteArray)(l:List D4)(m:List D9)(o:List Int)(p:Int)(q:List lD)(w x y z A B:Int)(C D:ByteArray)(E:Int)(G:List Int)(s:List D4)(t:List D9)(u:List Int)(v:List lD):= cQ 41 [b0 2,b0 3,b0 4,(6,a8 i)] [(2,[ao c,ao a]),(3,[ao r,ao b,ao d,ao e,ao f,ao g,.str h,.ro false 3 (.int .i64) j,.str k,.ro false 52 (K4) l,.ro false 50 (K9) m,.ro false 5 (.int .u8) o,ao p,.ro false 136 (p2) q]),(4,[ao w,ao x,ao y,ao z,ao A,ao B,.str C,.own 1000000 none,.str D,.own 1000001 none,.own 1000002 none,.own 1000003 none,ao E,.own 1000004 none])] [ay 1000000 3 (.int .i64) G,ay 1000001 52 K4 s,ay 1000002 50 K9 t,ay 1000003 5 (.int .u8) u,ay 1000004 136 p2 v]
def Bo (e f g h i j k:Int)(l:ByteArray)(m:List Int)(o:ByteArray)(p:List D4)(a:List D9)(b:List Int)(c:Int)(d:List lD):= cQ 41 [b0 4,(5,a8 e)] [(4,[ao f,ao g,ao h,ao i,ao j,ao k,.str l,.ro false 3 (.int .i64) m,.str o,.ro false 52 (K4) p,.ro false 50 (K9) a,.ro false 5 (.int .u8) b,ao c,.ro false 136 (p2) d])] []
def L3 (r a b c d e:Int)(f:ByteArray)(g:List Int)(h:ByteArray)(i:List D4)(j:List D9)(k:List Int)(l:Int)(m:List lD)(t u v w x y:Int)(z A:ByteArray)(B:Int)(C:List Int)(o:List D4)(p:List D9)(q:List Int)(s:List lD):= cQ 41 [b0 3,b0 4] [(3,[ao r,ao a,ao b,ao c,ao d,ao e,.str f,.ro false 3 (.int .i64) g,.str h,.ro false 52 (K4) i,.ro false 50 (K9) j,.ro false 5 (.int .u8) k,ao l,.ro false 136 (p2) m]),(4,[ao t,ao u,ao v,ao w,ao x,ao y,.str z,.own 1000000 none,.str A,.own 1000001 none,.own 1000002 none,.own 1000003 none,ao B,.own 1000004 none])] [ay 1000000 3 (.int .i64) C,ay 1000001 52 K4 o,ay 1000002 50 K9 p,ay 1000003 5 (.int .u8) q,ay 1000004 136 p2 s]
def vW (a:St):Option U:=ff vU F vV [.r,.l,.r,.b,.i] f100 J n a
def pX:=hQ vU F vV [.r,.l,.r,.b] f100 aqA 0
def F1 (i c s r d e f g h:Int)(j:ByteArray)(k:List Int)(l:ByteArray)(m:List D4)(b:List D9)(o:List Int)(p:Int)(q:List lD)(x y z A B C:Int)(D E:ByteArray)(G:Int)(H:List Int)(t:List D4)(u:List D9)(v:List Int)(w:List lD):vW F J (n+1) (pW i c s r d e f g h j k l m b o p q x y z A B C D E G H t u v w)=br (decide (i>=0)) (ck (bG i (b.length:Int)) (br (!((aI b i K9.az).2.1.toList==ak.toList)) ((n4 F0 (c,s) (r,d,e,(f,g,(h,j,k),l),m,b,(o,p),q) (aI b i K9.az).1 (aI b i K9.az).2.1 true).bind fun a=>br (!a.2.1) (J .ret (Bo 3 r d e f g h j k l m b o p q)) (J .ret (Bo 0 a.1.1 a.1.2.1 a.1.2.2.1 a.1.2.2.2.1.1 a.1.2.2.2.1.2.1 a.1.2.2.2.1.2.2.1.1 a.1.2.2.2.1.2.2.1.2.1 a.1.2.2.2.1.2.2.1.2.2 a.1.2.2.2.1.2.2.2 a.1.2.2.2.2.1 a.1.2.2.2.2.2.1 a.1.2.2.2.2.2.2.1.1 a.1.2.2.2.2.2.2.1.2 a.1.2.2.2.2.2.2.2))) (vW F J n (pW (aj (i-1)) c s r d e f g h j k l m b o p q x y z A B C D E G H t u v w)))) (J (.exit 0) (L3 r d e f g h j k l m b o p q x y z A B C D E G H t u v w)):=by kernel_rfl
def L4 (e f g h i j k:Int)(l:ByteArray)(m:List Int)(o:ByteArray)(p:List D4)(a:List D9)(b:List Int)(c:Int)(d:List lD):pX F .ret (Bo e f g h i j k l m o p a b c d)=some ((f,g,h,(i,j,(k,l,m),o),p,a,(b,c),d),e,()):=by kernel_rfl
def Z8 (r a b c d e:Int)(f:ByteArray)(g:List Int)(h:ByteArray)(i:List D4)(j:List D9)(k:List Int)(l:Int)(m:List lD)(t u v w x y:Int)(z A:ByteArray)(B:Int)(C:List Int)(o:List D4)(p:List D9)(q:List Int)(s:List lD):pX F (.exit 0) (L3 r a b c d e f g h i j k l m t u v w x y z A B C o p q s)=some ((r,a,b,(c,d,(e,f,g),h),i,j,(k,l),m),3,()):=by kernel_rfl
def EZ (c:D1)(r:a7):=bj vU F vV f100 x8 aqA 0 (c,r,())
def aiZ (c:D1)(r:a7):EZ F c r=vW F (pX F) F.n (pW (aj ((r.2.2.2.2.2.1.length:Int)-1)) c.1 c.2 r.1 r.2.1 r.2.2.1 r.2.2.2.1.1 r.2.2.2.1.2.1 r.2.2.2.1.2.2.1.1 r.2.2.2.1.2.2.1.2.1 r.2.2.2.1.2.2.1.2.2 r.2.2.2.1.2.2.2 r.2.2.2.2.1 r.2.2.2.2.2.1 r.2.2.2.2.2.2.1.1 r.2.2.2.2.2.2.1.2 r.2.2.2.2.2.2.2 0 0 0 0 0 0 ak ak 0 [] [] [] [] []):=by kernel_rfl
def OG:Any:=.one ⟨x8,aqA,0,fun x=>EZ F0 x.1 x.2.1⟩
def ai0:a1 100 OG:=aq vU ⟨PB,trivial⟩ func100 vV (by kernel_rfl)
def akN:=[(58,b2),(80,bO),(168,lM),(177,lh),(178,ui)]
def Zl (c:D1)(r:a7):=bj akN F ad f101 x8 gH 2 (c,r,())
def axg (c:D1)(r:a7):Zl F c r=(cq F0 c r).bind fun h=>br (!h.1) ((aB F0 r).bind fun b=>some (b.1,false,())) (br (r.2.1==60) ((aB F0 r).bind fun b=>some (b.1,false,())) ((aB F0 r).bind fun a=>(sT F0 c (aj (a.1.2.1+1))).bind fun e=>br (e.1==r.1) ((eM F0 c a.1.2.2.2.2.2.1 (aj (a.1.2.1+1),ak,[r.1])).bind fun f=>br (!f.2.1) ((aB F0 r).bind fun d=>some (d.1,false,())) (some ((a.1.1,aj (a.1.2.1+1),a.1.2.2.1,a.1.2.2.2.1,a.1.2.2.2.2.1,f.1,a.1.2.2.2.2.2.2),true,()))) ((mV F0 c (a.1.1,aj (a.1.2.1+1),a.1.2.2) e.1 (3,aj (a.1.2.1+1),(ak,0,ak,[]),(0,ak,[]),r.2.2.2.1.2.2.1,r.1,0,0,0,0)).bind fun g=>br (!g.2.1) ((aB F0 r).bind fun d=>some (d.1,false,())) (some (g.1,true,()))))):=by kernel_rfl
def abR:Any:=.one ⟨x8,gH,2,fun x=>Zl F0 x.1 x.2.1⟩
def axh:a1 101 abR:=aq akN ⟨cu,b8,sU,sS,Jq,trivial⟩ func101 ad (by kernel_rfl)
def abS:=[(118,oH),(154,k8)]
def OH (d:D14)(keep:Int):=bj abS F ad f102 aEx po 1 (d,keep,())
def aqB (d:D14)(keep:Int):OH F d keep=(lK F0 d).bind fun a=>(ri F0 d).bind fun b=>br b.1 (ck (okT (aj (d.2+(if (aj ((d.1.length:Int)-d.2))<(if 0>keep then 0 else keep) then (aj ((d.1.length:Int)-d.2)) else (if 0>keep then 0 else keep)))) (a.1.1.length:Int)) (some ((a.1.1.take (aj (d.2+(if (aj ((d.1.length:Int)-d.2))<(if 0>keep then 0 else keep) then (aj ((d.1.length:Int)-d.2)) else (if 0>keep then 0 else keep)))).toNat,aj (d.2+(if (aj ((d.1.length:Int)-d.2))<(if 0>keep then 0 else keep) then (aj ((d.1.length:Int)-d.2)) else (if 0>keep then 0 else keep)))),()))) (some (a.1,())):=by kernel_rfl
def Vb:Any:=.one ⟨aEx,po,1,fun x=>OH F0 x.1 x.2.1⟩
def aqC:a1 102 Vb:=aq abS ⟨AH,sE,trivial⟩ func102 ad (by kernel_rfl)
def SR: Option (Args BR):=bj aA F ad f52 [] BR 2 (())
def ane: SR F= some ((0,0,(0,ak,[]),ak),()):=by kernel_rfl
def RF:Any:=.one ⟨[],BR,2,fun x=>SR F0⟩
def anf:a1 52 RF:=aq aA trivial func52 ad (by kernel_rfl)
def abT:=[(50,kE),(112,iF),(113,wA),(114,k5)]
def OI (c:D1)(b:List Int):=bj abT F ad f54 TP aks 2 (c,b,())
def aqD (c:D1)(b:List Int):OI F c b=(bH F0 (b,0,false)).bind fun d=>(bH F0 d.2.1).bind fun e=>(mJ F0 e.2.1).bind fun f=>(gn F0 f.2.1).bind fun a=>br a.2.1.2.2 (some ((0,0,(0,ak,[]),ak),false,())) (br (a.2.1.2.1 != (b.length:Int)) (some ((0,0,(0,ak,[]),ak),false,())) ((k3 F0 c (d.1.1,e.1.1,f.1.1,a.1.1)).bind fun g=>br (!g.1) (some ((0,0,(0,ak,[]),ak),false,())) (some ((d.1.1,e.1.1,f.1.1,a.1.1),true,())))):=by kernel_rfl
def Vc:Any:=.one ⟨TP,aks,2,fun x=>OI F0 x.1 x.2.1⟩
def aqE:a1 54 Vc:=aq abT ⟨re,nQ,N5,tC,trivial⟩ func54 ad (by kernel_rfl)
def vX:=[(52,RF),(53,CX),(54,Vc)]
def vY:Nat->Option Hint:=look [(3,{live:=[1,2,4,6,7],yh:=[(4,4,3,.int .i64)],rl:=[4,5]})]
def ln (b:List Int)(i c a j k l:Int)(m o:ByteArray)(s d e:Int)(f g:ByteArray)(p h:List Int):= cQ 51 [(1,hV 5 (.int .u8) b),b0 2,b0 4,b0 6,(7,a8 i)] [(2,[ao c,ao a]),(4,[ao j,ao k,ao l,.str m,.own 1000000 none,.str o]),(6,[ao s,ao d,ao e,.str f,.own 1000001 none,.str g])] [ay 1000000 3 (.int .i64) p,ay 1000001 3 (.int .i64) h]
def lq (a b c d:Int)(e f:ByteArray)(g:List Int):= cQ 51 [b0 4,(5,a8 a)] [(4,[ao b,ao c,ao d,.str e,.own 1000000 none,.str f])] [ay 1000000 3 (.int .i64) g]
def oO (a:St):Option U:=ff vX F vY [.r,.r,.r,.b,.i] f18 J n a
def pY:=hQ vX F vY [.r,.r,.r,.b] f18 auG 2
def F2 (b:List Int)(e c k l m o:Int)(p q:ByteArray)(s f g:Int)(h i:ByteArray)(r j:List Int):oO F J (n+1) (ln b e c k l m o p q s f g h i r j)=(nR F0 b e).bind fun a=>br (!a.2.2.1) (J .ret (lq e s f g h i j)) (br (decide (a.2.1>=(b.length:Int))) (J .ret (lq e s f g h i j)) (ck (bG a.2.1 (b.length:Int)) (br ((aI b a.2.1 0) != 10) (J .ret (lq e s f g h i j)) (ck (decide ((a.1.size:Int)<=F.mem)) ((OI F0 (c,k) (bytesOf a.1)).bind fun d=>br (!d.2.1) (J .ret (lq e s f g h i j)) (oO F J n (ln b (aj (a.2.1+1)) c k l m o p q d.1.1 d.1.2.1 d.1.2.2.1.1 d.1.2.2.1.2.1 d.1.2.2.2 r d.1.2.2.1.2.2))))))):=by kernel_rfl
def L5 (a b c d:Int)(e f:ByteArray)(g:List Int):pY F .ret (lq a b c d e f g)=some ((b,c,(d,e,g),f),a,()):=by kernel_rfl
def uo (c:D1)(b:List Int):=bj vX F vY f18 TP auG 2 (c,b,())
def ai1 (c:D1)(b:List Int):uo F c b=(SR F0).bind fun a=>oO F (pY F) F.n (ln b 0 c.1 c.2 0 0 0 ak ak a.1.1 a.1.2.1 a.1.2.2.1.1 a.1.2.2.1.2.1 a.1.2.2.2 [] a.1.2.2.1.2.2):=by kernel_rfl
def Bp:Any:=.one ⟨TP,auG,2,fun x=>uo F0 x.1 x.2.1⟩
def RG:a1 18 Bp:=aq vX ⟨anf,UG,aqE,trivial⟩ func18 vY (by kernel_rfl)
def akO:=[(18,Bp),(58,b2),(80,bO)]
def akP:Nat->Option Hint:=look [(900005,{live:=[],mat:=[(3,0,ca),(5,0,K12)]})]
def RH (c:D1)(r:a7):=bj akO F akP f103 x8 TS 1 (c,r,())
def axi (c:D1)(r:a7):RH F c r=(cq F0 c r).bind fun b=>br (!b.1) ((aB F0 r).bind fun d=>some (d.1,())) ((uo F0 c r.2.2.2.2.2.2.1.1).bind fun a=>ck (Tx 0 a.2.1 (r.2.2.2.2.2.2.1.1.length:Int)) (ck (ep F 0 ((r.2.2.2.2.2.2.1.1.take a.2.1.toNat).drop (0:Int).toNat).length 1) (some ((r.1,(if 60<(if 1>(if (aj (a.1.2.2.1.1+1))>a.1.1 then (aj (a.1.2.2.1.1+1)) else a.1.1) then 1 else (if (aj (a.1.2.2.1.1+1))>a.1.1 then (aj (a.1.2.2.1.1+1)) else a.1.1)) then 60 else (if 1>(if (aj (a.1.2.2.1.1+1))>a.1.1 then (aj (a.1.2.2.1.1+1)) else a.1.1) then 1 else (if (aj (a.1.2.2.1.1+1))>a.1.1 then (aj (a.1.2.2.1.1+1)) else a.1.1)),(0,a.1,[],[],([]++((r.2.2.2.2.2.2.1.1.take a.2.1.toNat).drop (0:Int).toNat),a.2.1),[]))),())))):=by kernel_rfl
def abU:Any:=.one ⟨x8,TS,1,fun x=>RH F0 x.1 x.2.1⟩
def axj:a1 103 abU:=aq akO ⟨RG,cu,b8,trivial⟩ func103 akP (by kernel_rfl)
def X8:=[(80,bO),(96,PE),(99,RE),(100,OG),(101,abR),(102,Vb),(103,abU)]
abbrev aHt:List (Ty×Bool):=[(K1,true),(ca,true),(K45,true)]
def JB (c:D1)(r:a7)(d:D45):=bj X8 F ad f45 aHt aqA 0 (c,r,d,())
def ang (c:D1)(r:a7)(d:D45):JB F c r d=(aB F0 r).bind fun a=>br (d.1==1) ((JA F0 c r).bind fun b=>some (b.1,b.2.1,())) (br (d.1==6) ((EZ F0 c r).bind fun e=>some (e.1,e.2.1,())) (br (d.1==7) ((Zl F0 c r).bind fun f=>br (!f.2.1) (some (r,3,())) (some (f.1,0,()))) (br (d.1==8) ((OH F0 r.2.2.2.2.2.2.1 d.2.2.1).bind fun h=>(RH F0 c (a.1.1,a.1.2.1,a.1.2.2.1,a.1.2.2.2.1,a.1.2.2.2.2.1,a.1.2.2.2.2.2.1,h.1,a.1.2.2.2.2.2.2.2)).bind fun i=>some (i.1,0,())) ((J1 F0 c r d.2.2.2).bind fun g=>br g.2.1 (br (!(d.2.2.2.1==4)) (some (r,3,())) (some (g.1,0,()))) (some (r,3,())))))):=by kernel_rfl
def RJ:Any:=.one ⟨aHt,aqA,0,fun x=>JB F0 x.1 x.2.1 x.2.2.1⟩
def anh:a1 45 RJ:=aq X8 ⟨b8,af4,anc,ai0,axh,aqC,axj,trivial⟩ func45 ad (by kernel_rfl)
def auI:=[(20,dm),(35,gp),(41,bA),(42,Rb),(43,Oj),(44,Rx),(45,RJ)]
def vZ (w:lE)(d:D45):=bj auI F ad f14 afo abI 0 (w,d,())
def aB6 (w:lE)(d:D45):vZ F w d=(b4 F0 w).bind fun h=>br (!h.1) (some (((0,0),[],[],[],[]),1,())) ((aZ F0 d.1 1 10).bind fun i=>br (!i.1) (some (((0,0),[],[],[],[]),1,())) ((Jj F0 w d).bind fun j=>br (!j.1) ((aS F0 w).bind fun k=>some (k.1,2,())) ((aS F0 w).bind fun c=>br (d.1==2) ((EJ F0 w d.2.1).bind fun f=>br (f.2.1==0) ((b4 F0 f.1).bind fun e=>br (!e.1) (br (4 != 0) ((aS F0 w).bind fun b=>some (b.1,4,())) (some (f.1,0,()))) (br (f.2.1 != 0) ((aS F0 w).bind fun b=>some (b.1,f.2.1,())) (some (f.1,0,())))) (br (f.2.1 != 0) ((aS F0 w).bind fun b=>some (b.1,f.2.1,())) (some (f.1,0,())))) (br (d.1==3) ((n8 F0 w d).bind fun a=>br (a.2.1==0) ((b4 F0 a.1).bind fun e=>br (!e.1) (br (4 != 0) ((aS F0 w).bind fun b=>some (b.1,4,())) (some (a.1,0,()))) (br (a.2.1 != 0) ((aS F0 w).bind fun b=>some (b.1,a.2.1,())) (some (a.1,0,())))) (br (a.2.1 != 0) ((aS F0 w).bind fun b=>some (b.1,a.2.1,())) (some (a.1,0,())))) (br (d.1==4) ((n8 F0 w d).bind fun a=>br (a.2.1==0) ((b4 F0 a.1).bind fun e=>br (!e.1) (br (4 != 0) ((aS F0 w).bind fun b=>some (b.1,4,())) (some (a.1,0,()))) (br (a.2.1 != 0) ((aS F0 w).bind fun b=>some (b.1,a.2.1,())) (some (a.1,0,())))) (br (a.2.1 != 0) ((aS F0 w).bind fun b=>some (b.1,a.2.1,())) (some (a.1,0,())))) (br (d.1==5) ((n8 F0 w d).bind fun a=>br (a.2.1==0) ((b4 F0 a.1).bind fun e=>br (!e.1) (br (4 != 0) ((aS F0 w).bind fun b=>some (b.1,4,())) (some (a.1,0,()))) (br (a.2.1 != 0) ((aS F0 w).bind fun b=>some (b.1,a.2.1,())) (some (a.1,0,())))) (br (a.2.1 != 0) ((aS F0 w).bind fun b=>some (b.1,a.2.1,())) (some (a.1,0,())))) (br (d.1==10) ((n8 F0 w d).bind fun a=>br (a.2.1==0) ((b4 F0 a.1).bind fun e=>br (!e.1) (br (4 != 0) ((aS F0 w).bind fun b=>some (b.1,4,())) (some (a.1,0,()))) (br (a.2.1 != 0) ((aS F0 w).bind fun b=>some (b.1,a.2.1,())) (some (a.1,0,())))) (br (a.2.1 != 0) ((aS F0 w).bind fun b=>some (b.1,a.2.1,())) (some (a.1,0,())))) (ck (bG d.2.1 (w.2.2.1.length:Int)) ((JB F0 w.1 (aI w.2.2.1 d.2.1 ca.az) d).bind fun g=>ck (bG d.2.1 (c.1.2.2.1.length:Int)) (br (g.2.1==0) ((b4 F0 (c.1.1,c.1.2.1,c.1.2.2.1.set d.2.1.toNat g.1,c.1.2.2.2)).bind fun e=>br (!e.1) (br (4 != 0) ((aS F0 w).bind fun b=>some (b.1,4,())) (some ((c.1.1,c.1.2.1,c.1.2.2.1.set d.2.1.toNat g.1,c.1.2.2.2),0,()))) (br (g.2.1 != 0) ((aS F0 w).bind fun b=>some (b.1,g.2.1,())) (some ((c.1.1,c.1.2.1,c.1.2.2.1.set d.2.1.toNat g.1,c.1.2.2.2),0,())))) (br (g.2.1 != 0) ((aS F0 w).bind fun b=>some (b.1,g.2.1,())) (some ((c.1.1,c.1.2.1,c.1.2.2.1.set d.2.1.toNat g.1,c.1.2.2.2),0,()))))))))))))):=by kernel_rfl
def akQ:Any:=.one ⟨afo,abI,0,fun x=>vZ F0 x.1 x.2.1⟩
def aqF:a1 14 akQ:=aq auI ⟨eT,k9,bW,amN,aiF,am6,anh,trivial⟩ func14 ad (by kernel_rfl)
def JC:=[(14,akQ),(20,dm),(35,gp)]
def JD:Nat->Option Hint:=look [(6,{live:=[4,6,7,23,24,25],mat:=[(7,3,.int .i64)],roB:=[(6,2),(6,3),(6,4),(6,5)],yh:=[(4,2,3,.int .i64),(4,3,65,ca),(4,4,105,eo),(4,5,41,cl)],xl:=[4,6,7],rl:=[4,5]})]
def rC (j:List D45)(k l m o p a:Int)(b:List Int)(c:List a7)(d:List bS)(e:List bE)(q f:List Int)(g:List a7)(h:List bS)(i:List bE):= cQ 45 [b0 4,b0 6,(7,.v (.c (.own 1000000 none))),(23,hV 56 (K45) j),(24,a8 k),(25,a8 l)] [(4,[ao m,ao o,.own 1000001 none,.own 1000002 none,.own 1000003 none,.own 1000004 none]),(6,[ao p,ao a,.ro false 3 (.int .i64) b,.ro false 65 (ca) c,.ro false 105 (eo) d,.ro false 41 (cl) e])] [ay 1000000 3 (.int .i64) q,ay 1000001 3 (.int .i64) f,ay 1000002 65 ca g,ay 1000003 105 eo h,ay 1000004 41 cl i]
def Vd (j k l a:Int)(b:List Int)(c:List a7)(d:List bS)(e:List bE)(m f:List Int)(g:List a7)(h:List bS)(i:List bE):= cQ 45 [b0 4,b0 6,(7,.v (.c (.own 1000000 none)))] [(4,[ao j,ao k,.own 1000001 none,.own 1000002 none,.own 1000003 none,.own 1000004 none]),(6,[ao l,ao a,.ro false 3 (.int .i64) b,.ro false 65 (ca) c,.ro false 105 (eo) d,.ro false 41 (cl) e])] [ay 1000000 3 (.int .i64) m,ay 1000001 3 (.int .i64) f,ay 1000002 65 ca g,ay 1000003 105 eo h,ay 1000004 41 cl i]
def Bq (a:St):Option U:=ff JC F JD [.r,.r,.r,.r,.l,.r,.b,.i] f10 J n a
abbrev aEz:List (Ty×Bool):=[(hU,true),(.sl 3 (.int .i64),false)]
def L6:=hQ JC F JD [.r,.r,.r,.r,.l,.r,.b] f10 aEz 0
def OJ (d:List D45)(o b p q r e:Int)(f:List Int)(g:List a7)(h:List bS)(i:List bE)(c j:List Int)(k:List a7)(l:List bS)(m:List bE):Bq F J (n+1) (rC d o b p q r e f g h i c j k l m)=br (decide (b<o)) (ck (bG b (d.length:Int)) ((vZ F0 ((r,e),f,g,h,i) (aI d b K45.az)).bind fun a=>br (a.2.1==0) (ck (ep F c.length [a.2.1].length 8) (Bq F J n (rC d o (aj (b+1)) p q a.1.1.1 a.1.1.2 a.1.2.1 a.1.2.2.1 a.1.2.2.2.1 a.1.2.2.2.2 (c++[a.2.1]) j k l m))) (ck (ep F c.length [a.2.1].length 8) (Bq F J n (rC d o (aj (b+1)) p q r e f g h i (c++[a.2.1]) j k l m))))) (J (.exit 0) (Vd p q r e f g h i c j k l m)):=by kernel_rfl
def ai2 (l m f a:Int)(b:List Int)(c:List a7)(d:List bS)(e:List bE)(g h:List Int)(i:List a7)(j:List bS)(k:List bE):L6 F (.exit 0) (Vd l m f a b c d e g h i j k)=some (((f,a),b,c,d,e),g,()):=by kernel_rfl
def lO (w:lE)(a:D46):=bj JC F JD f10 apS aEz 0 (w,a,())
def atw (w:lE)(b:D46):lO F w b=(aS F0 w).bind fun a=>(b4 F0 w).bind fun c=>br (!c.1) (some (a.1,[],())) (br (decide ((b.length:Int)>500)) (some (a.1,[],())) (Bq F (L6 F) F.n (rC b (b.length:Int) 0 0 0 a.1.1.1 a.1.1.2 a.1.2.1 a.1.2.2.1 a.1.2.2.2.1 a.1.2.2.2.2 [] [] [] [] []))):=by kernel_rfl
def aqG:Any:=.one ⟨apS,aEz,0,fun x=>lO F0 x.1 x.2.1⟩
def atx:a1 10 aqG:=aq JC ⟨aqF,eT,k9,trivial⟩ func10 JD (by kernel_rfl)
def agb:=[(156,C5)]
def SS (s t:ByteArray):=bj agb F ad f82 T0 aO 1 (s,t,())
def aty (s t:ByteArray):SS F s t=(sP F0 s t).bind fun a=>br a.1 (some (true,())) ((sP F0 t s).bind fun b=>some (b.1,())):=by kernel_rfl
def X9:Any:=.one ⟨T0,aO,1,fun x=>SS F0 x.1 x.2.1⟩
def atz:a1 82 X9:=aq agb ⟨UQ,trivial⟩ func82 ad (by kernel_rfl)
end
end Go.Am.Tryz
namespace Go.Am.Tryz
open Go.Am Go.Proofs Go.Proofs.Tryz
noncomputable section
variable {U:Type} (F:p5) (J:Ex->St->Option U) (n:Nat)
def iz:=[(17,fY),(20,dm),(82,X9)]
def iA:Nat->Option Hint:=look [(4,{live:=[1,11,12,13],rl:=[2]}),(7,{live:=[1,4,11,12,13,18,19,20],xl:=[1,11,12,13],rl:=[2]})]
def lr (a h i j k w b:Int)(c:List Int)(d:List a7)(e:List bS)(f:List bE)(l g:List Int):= cQ 42 [b0 1,(4,a8 a),(11,.v (.c (.own 1000000 none))),(12,a8 h),(13,a8 i),(18,.v (.c (.own 1000001 none))),(19,a8 j),(20,a8 k)] [(1,[ao w,ao b,.ro false 3 (.int .i64) c,.ro false 65 (ca) d,.ro false 105 (eo) e,.ro false 41 (cl) f])] [ay 1000000 3 (.int .i64) l,ay 1000001 3 (.int .i64) g]
def OK (a:Bool):= bP 42 [(2,Ir a)]
def L7 (f g w a:Int)(b:List Int)(c:List a7)(d:List bS)(e:List bE)(h:List Int):= cQ 42 [b0 1,(11,.v (.c (.own 1000000 none))),(12,a8 f),(13,a8 g)] [(1,[ao w,ao a,.ro false 3 (.int .i64) b,.ro false 65 (ca) c,.ro false 105 (eo) d,.ro false 41 (cl) e])] [ay 1000000 3 (.int .i64) h]
def oP (a:St):Option U:=ff iz F iA [.r,.r,.l,.r,.b,.i,.r,.r,.l,.b,.r,.r,.b,.i] f36 J n a
def lv:Ex->St->Option U:=V0 Tryz.prog (look iz) F iA [.r,.r,.l,.b,.r,.r,.b] (sub [.r,.r,.l,.r,.b,.i] (eX f36)) (itk Tryz.prog (look iz) F iA (sub [.r,.r,.l,.r,.b,.i] (eX f36)) J n)
def lx (f g w a:Int)(b:List Int)(c:List a7)(d:List bS)(e:List bE)(h:List Int):= cQ 42 [b0 1,(11,.v (.c (.own 1000000 none))),(12,a8 f),(13,a8 g)] [(1,[ao w,ao a,.ro false 3 (.int .i64) b,.ro false 65 (ca) c,.ro false 105 (eo) d,.ro false 41 (cl) e])] [ay 1000000 3 (.int .i64) h]
def Br (a:Bool):= bP 42 [(2,Ir a)]
def L8   := bP 42 []
def oQ (a:St):Option U:=ff iz F iA [.r,.r,.l,.r,.b,.i] f36 J n a
def pZ:=hQ iz F iA [.r,.r,.l,.r,.b] f36 aO 1
def F3 (a i j k c w e:Int)(f:List Int)(b:List a7)(g:List bS)(h:List bE)(l d:List Int):oP F J (n+1) (lr a i j k c w e f b g h l d)=br (decide (c<k)) (ck (bG c (d.length:Int)) (ck (bG a (b.length:Int)) (ck (bG (aI d c 0) (b.length:Int)) ((SS F0 (aI b a ca.az).2.2.2.1.2.2.2 (aI b (aI d c 0) ca.az).2.2.2.1.2.2.2).bind fun m=>br (!m.1) (J .ret (OK false)) (oP F J n (lr a i j k (aj (c+1)) w e f b g h l d)))))) (J (.exit 2) (L7 i j w e f b g h l)):=by kernel_rfl
def F4 (h a w c:Int)(d:List Int)(e:List a7)(f:List bS)(g:List bE)(b:List Int):oQ F J (n+1) (lx h a w c d e f g b)=br (decide (a<h)) (ck (bG a (b.length:Int)) ((hH F0 ((w,c),d,e,f,g)).bind fun i=>oP F (lv F J n) F.n (lr (aI b a 0) h a (i.1.length:Int) 0 w c d e f g b i.1))) (J (.exit 0) (L8)):=by kernel_rfl
def adm (a:Bool):lv F J n .ret (OK a)=J .ret (Br a):=by kernel_rfl
def Z9 (f g w a:Int)(b:List Int)(c:List a7)(d:List bS)(e:List bE)(h:List Int):lv F J n (.exit 2) (L7 f g w a b c d e h)=oQ F J n (lx f (aj (g+1)) w a b c d e h):=by kernel_rfl
def adn (a:Bool):pZ F .ret (Br a)=some (a,()):=by kernel_rfl
def aaa: pZ F (.exit 0) (L8)=some (true,()):=by kernel_rfl
def E0 (w:lE):=bj iz F iA f36 dy aO 1 (w,())
def ai3 (w:lE):E0 F w=(b4 F0 w).bind fun b=>br (!b.1) (some (false,())) ((hH F0 w).bind fun a=>oQ F (pZ F) F.n (lx (a.1.length:Int) 0 w.1.1 w.1.2 w.2.1 w.2.2.1 w.2.2.2.1 w.2.2.2.2 a.1)):=by kernel_rfl
def OL:Any:=.one ⟨dy,aO,1,fun x=>E0 F0 x.1⟩
def ai4:a1 36 OL:=aq iz ⟨j0,eT,atz,trivial⟩ func36 iA (by kernel_rfl)
def fE:=[(20,dm),(51,cN)]
def fF:Nat->Option Hint:=look [(4,{live:=[1,11,12,13],rl:=[2]}),(7,{live:=[1,4,11,12,13,18,19,20],xl:=[1,11,12,13],rl:=[2]})]
def du (i:List bE)(j k:Int)(l:List bE)(m o w b:Int)(c:List Int)(d:List a7)(e:List bS)(f:List bE)(a:Int)(g:ByteArray)(h:Int):= cQ 53 [b0 1,b0 4,(11,hV 41 (cl) i),(12,a8 j),(13,a8 k),(18,hV 41 (cl) l),(19,a8 m),(20,a8 o)] [(1,[ao w,ao b,.ro false 3 (.int .i64) c,.ro false 65 (ca) d,.ro false 105 (eo) e,.ro false 41 (cl) f]),(4,[ao a,.str g,ao h])] []
def H5 (a:Bool):= bP 53 [(2,Ir a)]
def F5 (f:List bE)(g h w a:Int)(b:List Int)(c:List a7)(d:List bS)(e:List bE):= cQ 53 [b0 1,(11,hV 41 (cl) f),(12,a8 g),(13,a8 h)] [(1,[ao w,ao a,.ro false 3 (.int .i64) b,.ro false 65 (ca) c,.ro false 105 (eo) d,.ro false 41 (cl) e])] []
def eB (a:St):Option U:=ff fE F fF [.r,.r,.l,.r,.b,.i,.r,.r,.l,.b,.r,.r,.b,.i] f37 J n a
def iG:Ex->St->Option U:=V0 Tryz.prog (look fE) F fF [.r,.r,.l,.b,.r,.r,.b] (sub [.r,.r,.l,.r,.b,.i] (eX f37)) (itk Tryz.prog (look fE) F fF (sub [.r,.r,.l,.r,.b,.i] (eX f37)) J n)
def iH (f:List bE)(g h w a:Int)(b:List Int)(c:List a7)(d:List bS)(e:List bE):= cQ 53 [b0 1,(11,hV 41 (cl) f),(12,a8 g),(13,a8 h)] [(1,[ao w,ao a,.ro false 3 (.int .i64) b,.ro false 65 (ca) c,.ro false 105 (eo) d,.ro false 41 (cl) e])] []
def tE (a:Bool):= bP 53 [(2,Ir a)]
def F6   := bP 53 []
def ly (a:St):Option U:=ff fE F fF [.r,.r,.l,.r,.b,.i] f37 J n a
def lZ:=hQ fE F fF [.r,.r,.l,.r,.b] f37 aO 1
def Bs (k:List bE)(l m:Int)(c:List bE)(o b w f:Int)(d:List Int)(g:List a7)(h:List bS)(i:List bE)(a:Int)(j:ByteArray)(e:Int):eB F J (n+1) (du k l m c o b w f d g h i a j e)=br (decide (b<o)) (ck (bG b (c.length:Int)) ((c7 F0 d e).bind fun p=>br (!p.1) (br (e==(aI c b cl.az).2.2) (br (a==(aI c b cl.az).1) (br (!(j.toList==(aI c b cl.az).2.1.toList)) (J .ret (H5 false)) (eB F J n (du k l m c o (aj (b+1)) w f d g h i a j e))) (eB F J n (du k l m c o (aj (b+1)) w f d g h i a j e))) (eB F J n (du k l m c o (aj (b+1)) w f d g h i a j e))) (eB F J n (du k l m c o (aj (b+1)) w f d g h i a j e)))) (J (.exit 2) (F5 k l m w f d g h i)):=by kernel_rfl
def Bt (b:List bE)(d a w e:Int)(f:List Int)(g:List a7)(h:List bS)(c:List bE):ly F J (n+1) (iH b d a w e f g h c)=br (decide (a<d)) (ck (bG a (b.length:Int)) (eB F (iG F J n) F.n (du b d a c (c.length:Int) 0 w e f g h c (aI b a cl.az).1 (aI b a cl.az).2.1 (aI b a cl.az).2.2))) (J (.exit 0) (F6)):=by kernel_rfl
def Ya (a:Bool):iG F J n .ret (H5 a)=J .ret (tE a):=by kernel_rfl
def VA (f:List bE)(g h w a:Int)(b:List Int)(c:List a7)(d:List bS)(e:List bE):iG F J n (.exit 2) (F5 f g h w a b c d e)=ly F J n (iH f g (aj (h+1)) w a b c d e):=by kernel_rfl
def Yb (a:Bool):lZ F .ret (tE a)=some (a,()):=by kernel_rfl
def VB: lZ F (.exit 0) (F6)=some (true,()):=by kernel_rfl
def v7 (w:lE):=bj fE F fF f37 dy aO 1 (w,())
def ado (w:lE):v7 F w=(b4 F0 w).bind fun a=>br (!a.1) (some (false,())) (ly F (lZ F) F.n (iH w.2.2.2.2 (w.2.2.2.2.length:Int) 0 w.1.1 w.1.2 w.2.1 w.2.2.1 w.2.2.2.1 w.2.2.2.2)):=by kernel_rfl
def H6:Any:=.one ⟨dy,aO,1,fun x=>v7 F0 x.1⟩
def adp:a1 37 H6:=aq fE ⟨eT,dQ,trivial⟩ func37 fF (by kernel_rfl)
def cA:=[(17,fY),(20,dm),(59,AO)]
def cB:Nat->Option Hint:=look [(5,{live:=[1,3,18,19,20],mat:=[(3,47,K9)],wk:=[3],xl:=[1,3],rl:=[2]}),(10,{live:=[1,3,36,37,38],xl:=[3],rl:=[2]}),(20,{live:=[3,68,69,70],rl:=[2]}),(23,{live:=[3,11,68,69,70,74,75,76],xl:=[3,68,69,70],rl:=[2]})]
def fR (d e f g a:Int)(b:ByteArray)(c:List Int)(h:List D9):= cQ 94 [(3,.v (.c (.own 1000000 none))),b0 11,(68,.v (.c (.own 1000000 none))),(69,a8 d),(70,a8 e),(74,.v (.c (.own 1000000 none))),(75,a8 f),(76,a8 g)] [(11,[ao a,.str b,.ro false 3 (.int .i64) c])] [(1000000,some ⟨47,K9,h,false,true⟩)]
def H7 (a:Bool):= bP 94 [(2,Ir a)]
def F7 (a b:Int)(c:List D9):= cQ 94 [(3,.v (.c (.own 1000000 none))),(68,.v (.c (.own 1000000 none))),(69,a8 a),(70,a8 b)] [] [(1000000,some ⟨47,K9,c,false,true⟩)]
def h9 (a:St):Option U:=ff cA F cB [.r,.r,.r,.r,.r,.l,.r,.b,.i,.r,.r,.l,.b,.r,.r,.b,.i] f38 J n a
def iI:Ex->St->Option U:=V0 Tryz.prog (look cA) F cB [.r,.r,.l,.b,.r,.r,.b] (sub [.r,.r,.r,.r,.r,.l,.r,.b,.i] (eX f38)) (itk Tryz.prog (look cA) F cB (sub [.r,.r,.r,.r,.r,.l,.r,.b,.i] (eX f38)) J n)
def fS (a b:Int)(c:List D9):= cQ 94 [(3,.v (.c (.own 1000000 none))),(68,.v (.c (.own 1000000 none))),(69,a8 a),(70,a8 b)] [] [(1000000,some ⟨47,K9,c,false,true⟩)]
def tF (a:Bool):= bP 94 [(2,Ir a)]
def F8   := bP 94 []
def ia (a:St):Option U:=ff cA F cB [.r,.r,.r,.r,.r,.l,.r,.b,.i] f38 J n a
def iJ:=hQ cA F cB [.r,.r,.r,.r,.r,.l,.r,.b] f38 aO 1
def dv (f:List bS)(g h w a:Int)(b:List Int)(c:List a7)(d:List bS)(e:List bE)(i:List D9):= cQ 94 [b0 1,(3,.v (.c (.own 1000000 none))),(36,hV 105 (eo) f),(37,a8 g),(38,a8 h)] [(1,[ao w,ao a,.ro false 3 (.int .i64) b,.ro false 65 (ca) c,.ro false 105 (eo) d,.ro false 41 (cl) e])] [(1000000,some ⟨47,K9,i,false,true⟩)]
def rD (a:List D9):= cQ 94 [(3,.v (.c (.own 1000000 none)))] [] [(1000000,some ⟨47,K9,a,false,true⟩)]
def eC (a:St):Option U:=ff cA F cB [.r,.r,.r,.r,.l,.r,.b,.i] f38 J n a
def fT:=hQ cA F cB [.r,.r,.r,.r,.l,.r,.b] f38 aO 1
def iK (g h w a:Int)(b:List Int)(c:List a7)(d:List bS)(e:List bE)(i:List D9)(f:List Int):= cQ 94 [b0 1,(3,.v (.c (.own 1000000 none))),(18,.v (.c (.own 1000001 none))),(19,a8 g),(20,a8 h)] [(1,[ao w,ao a,.ro false 3 (.int .i64) b,.ro false 65 (ca) c,.ro false 105 (eo) d,.ro false 41 (cl) e])] [(1000000,some ⟨47,K9,i,false,true⟩),ay 1000001 3 (.int .i64) f]
def F9 (w a:Int)(b:List Int)(c:List a7)(d:List bS)(e:List bE)(f:List D9):= cQ 94 [b0 1,(3,.v (.c (.own 1000000 none)))] [(1,[ao w,ao a,.ro false 3 (.int .i64) b,.ro false 65 (ca) c,.ro false 105 (eo) d,.ro false 41 (cl) e])] [(1000000,some ⟨47,K9,f,false,true⟩)]
def lz (a:St):Option U:=ff cA F cB [.r,.r,.r,.l,.r,.b,.i] f38 J n a
def l0:=hQ cA F cB [.r,.r,.r,.l,.r,.b] f38 aO 1
def Bu (e f g b a:Int)(d:ByteArray)(h:List Int)(c:List D9):h9 F J (n+1) (fR e f g b a d h c)=br (decide (b<g)) (ck (bG b (c.length:Int)) (br (a==(aI c b K9.az).1) (br (!(d.toList==(aI c b K9.az).2.1.toList)) (J .ret (H7 false)) (h9 F J n (fR e f g (aj (b+1)) a d h c))) (h9 F J n (fR e f g (aj (b+1)) a d h c)))) (J (.exit 7) (F7 e f c)):=by kernel_rfl
def Bv (c a:Int)(b:List D9):ia F J (n+1) (fS c a b)=br (decide (a<c)) (ck (bG a (b.length:Int)) (h9 F (iI F J n) F.n (fR c a (b.length:Int) 0 (aI b a K9.az).1 (aI b a K9.az).2.1 (aI b a K9.az).2.2 b))) (J (.exit 5) (F8)):=by kernel_rfl
def Bw (d:List bS)(f a w e:Int)(g:List Int)(h:List a7)(i:List bS)(j:List bE)(b:List D9):eC F J (n+1) (dv d f a w e g h i j b)=br (decide (a<f)) (ck (bG a (d.length:Int)) ((CY F0 (w,e) (aI d a (0,[])).2).bind fun c=>br (c.1.1==1) (ck (ep F b.length [c.1.2.2.1.2].length 48) (eC F J n (dv d f (aj (a+1)) w e g h i j (b++[c.1.2.2.1.2])))) (br (c.1.1==3) (ck (ep F b.length [c.1.2.2.2.2.1].length 48) (eC F J n (dv d f (aj (a+1)) w e g h i j (b++[c.1.2.2.2.2.1])))) (eC F J n (dv d f (aj (a+1)) w e g h i j b))))) (J (.exit 2) (rD b)):=by kernel_rfl
def Bx (i a w e:Int)(f:List Int)(b:List a7)(g:List bS)(h:List bE)(d:List D9)(c:List Int):lz F J (n+1) (iK i a w e f b g h d c)=br (decide (a<i)) (ck (bG a (c.length:Int)) (ck (bG (aI c a 0) (b.length:Int)) (ck (ep F d.length [(aI b (aI c a 0) ca.az).2.2.2.1.2.2.1].length 48) (lz F J n (iK i (aj (a+1)) w e f b g h (d++[(aI b (aI c a 0) ca.az).2.2.2.1.2.2.1]) c))))) (J (.exit 0) (F9 w e f b g h d)):=by kernel_rfl
def Yc (a:Bool):iI F J n .ret (H7 a)=J .ret (tF a):=by kernel_rfl
def VC (a b:Int)(c:List D9):iI F J n (.exit 7) (F7 a b c)=ia F J n (fS a (aj (b+1)) c):=by kernel_rfl
def Yd (a:Bool):iJ F .ret (tF a)=some (a,()):=by kernel_rfl
def VD: iJ F (.exit 5) (F8)=some (true,()):=by kernel_rfl
def VE (a:List D9):fT F (.exit 2) (rD a)=ia F (iJ F) F.n (fS (a.length:Int) 0 a):=by kernel_rfl
def VF (w b:Int)(c:List Int)(d:List a7)(a:List bS)(e:List bE)(f:List D9):l0 F (.exit 0) (F9 w b c d a e f)=eC F (fT F) F.n (dv a (a.length:Int) 0 w b c d a e f):=by kernel_rfl
def v8 (w:lE):=bj cA F cB f38 dy aO 1 (w,())
def adq (w:lE):v8 F w=(b4 F0 w).bind fun b=>br (!b.1) (some (false,())) ((hH F0 w).bind fun a=>lz F (l0 F) F.n (iK (a.1.length:Int) 0 w.1.1 w.1.2 w.2.1 w.2.2.1 w.2.2.2.1 w.2.2.2.2 [] a.1)):=by kernel_rfl
def H8:Any:=.one ⟨dy,aO,1,fun x=>v8 F0 x.1⟩
def adr:a1 38 H8:=aq cA ⟨j0,eT,Pv,trivial⟩ func38 cB (by kernel_rfl)
def JE:Nat->Option Hint:=look [(3,{live:=[3,7,8,9],xl:=[3],rl:=[2]})]
def By (a:Int)(b:List Int)(c d:Int):= bP 18 [(3,a8 a),(7,hV 3 (.int .i64) b),(8,a8 c),(9,a8 d)]
def Ve (a:Int):= bP 18 [(3,a8 a)]
def JF (a:St):Option U:=ff aA F JE [.r,.r,.l,.r,.b,.i] f83 J n a
def L9:=hQ aA F JE [.r,.r,.l,.r,.b] f83 cE 1
def OM (c:Int)(b:List Int)(d a:Int):JF F J (n+1) (By c b d a)=br (decide (a<d)) (ck (bG a (b.length:Int)) (JF F J n (By (aj (c+(aI b a 0))) b d (aj (a+1))))) (J (.exit 0) (Ve c)):=by kernel_rfl
def ai5 (a:Int):L9 F (.exit 0) (Ve a)=some (a,()):=by kernel_rfl
def SU (l:D43):=bj aA F JE f83 nq cE 1 (l,())
def atA (l:D43):SU F l=JF F (L9 F) F.n (By 0 l.1 (l.1.length:Int) 0):=by kernel_rfl
def Ye:Any:=.one ⟨nq,cE,1,fun x=>SU F0 x.1⟩
def atB:a1 83 Ye:=aq aA trivial func83 JE (by kernel_rfl)
def RL (a:Int):=bj aA F ad f88 cE aO 1 (a,())
def axk (a:Int):RL F a=br (a==0) (some (true,())) (some (a==4,())):=by kernel_rfl
def abV:Any:=.one ⟨cE,aO,1,fun x=>RL F0 x.1⟩
def axl:a1 88 abV:=aq aA trivial func88 ad (by kernel_rfl)
def dp:=[(17,fY),(20,dm),(83,Ye),(84,LY),(85,Bf),(86,vM),(87,n5),(88,abV)]
def dq:Nat->Option Hint:=look [(4,{live:=[1,16,17,18],rl:=[2]}),(11,{live:=[1,5,7,16,17,18,46,47,48],xl:=[1,16,17,18],rl:=[2]}),(14,{live:=[1,5,7,8,9,16,17,18,46,47,48,55,56,57],xl:=[1,5,7,16,17,18,46,47,48],rl:=[2]})]
def dR (i m o p q a r s w b:Int)(c:List Int)(d:List a7)(e:List bS)(f:List bE)(x g h j:Int)(t:List D4)(k l:List Int):= cQ 91 [b0 1,(5,.v (.c (.own 1000000 none))),(7,.v (.c (.own 1000001 none))),(8,a8 i),b0 9,(16,.v (.c (.own 1000002 none))),(17,a8 m),(18,a8 o),(46,.v (.c (.own 1000000 none))),(47,a8 p),(48,a8 q),(55,.v (.c (.own 1000000 (some a)))),(56,a8 r),(57,a8 s)] [(1,[ao w,ao b,.ro false 3 (.int .i64) c,.ro false 65 (ca) d,.ro false 105 (eo) e,.ro false 41 (cl) f]),(9,[ao x,ao g,ao h,ao j])] [ay 1000000 52 K4 t,ay 1000001 3 (.int .i64) k,ay 1000002 3 (.int .i64) l]
def Ma (a:Bool):= bP 91 [(2,Ir a)]
def H9 (h i j k w a:Int)(b:List Int)(c:List a7)(d:List bS)(e:List bE)(l:List D4)(f g:List Int):= cQ 91 [b0 1,(5,.v (.c (.own 1000000 none))),(7,.v (.c (.own 1000001 none))),(16,.v (.c (.own 1000002 none))),(17,a8 h),(18,a8 i),(46,.v (.c (.own 1000000 none))),(47,a8 j),(48,a8 k)] [(1,[ao w,ao a,.ro false 3 (.int .i64) b,.ro false 65 (ca) c,.ro false 105 (eo) d,.ro false 41 (cl) e])] [ay 1000000 52 K4 l,ay 1000001 3 (.int .i64) f,ay 1000002 3 (.int .i64) g]
def e9 (a:St):Option U:=ff dp F dq [.r,.r,.l,.r,.b,.i,.r,.r,.l,.b,.r,.r,.r,.r,.r,.b,.i,.r,.r,.l,.b,.r,.r,.b,.i] f39 J n a
def j4:Ex->St->Option U:=V0 Tryz.prog (look dp) F dq [.r,.r,.l,.b,.r,.r,.b] (sub [.r,.r,.l,.r,.b,.i,.r,.r,.l,.b,.r,.r,.r,.r,.r,.b,.i] (eX f39)) (itk Tryz.prog (look dp) F dq (sub [.r,.r,.l,.r,.b,.i,.r,.r,.l,.b,.r,.r,.r,.r,.r,.b,.i] (eX f39)) J n)
def gr (h i j k w a:Int)(b:List Int)(c:List a7)(d:List bS)(e:List bE)(l:List D4)(f g:List Int):= cQ 91 [b0 1,(5,.v (.c (.own 1000000 none))),(7,.v (.c (.own 1000001 none))),(16,.v (.c (.own 1000002 none))),(17,a8 h),(18,a8 i),(46,.v (.c (.own 1000000 none))),(47,a8 j),(48,a8 k)] [(1,[ao w,ao a,.ro false 3 (.int .i64) b,.ro false 65 (ca) c,.ro false 105 (eo) d,.ro false 41 (cl) e])] [ay 1000000 52 K4 l,ay 1000001 3 (.int .i64) f,ay 1000002 3 (.int .i64) g]
def wM (a:Bool):= bP 91 [(2,Ir a)]
def Ia (f g w a:Int)(b:List Int)(c:List a7)(d:List bS)(e:List bE)(h:List Int):= cQ 91 [b0 1,(16,.v (.c (.own 1000000 none))),(17,a8 f),(18,a8 g)] [(1,[ao w,ao a,.ro false 3 (.int .i64) b,.ro false 65 (ca) c,.ro false 105 (eo) d,.ro false 41 (cl) e])] [ay 1000000 3 (.int .i64) h]
def jM (a:St):Option U:=ff dp F dq [.r,.r,.l,.r,.b,.i,.r,.r,.l,.b,.r,.r,.r,.r,.r,.b,.i] f39 J n a
def j5:Ex->St->Option U:=V0 Tryz.prog (look dp) F dq [.r,.r,.l,.b,.r,.r,.r,.r,.r,.b] (sub [.r,.r,.l,.r,.b,.i] (eX f39)) (itk Tryz.prog (look dp) F dq (sub [.r,.r,.l,.r,.b,.i] (eX f39)) J n)
def j6 (f g w a:Int)(b:List Int)(c:List a7)(d:List bS)(e:List bE)(h:List Int):= cQ 91 [b0 1,(16,.v (.c (.own 1000000 none))),(17,a8 f),(18,a8 g)] [(1,[ao w,ao a,.ro false 3 (.int .i64) b,.ro false 65 (ca) c,.ro false 105 (eo) d,.ro false 41 (cl) e])] [ay 1000000 3 (.int .i64) h]
def n9 (a:Bool):= bP 91 [(2,Ir a)]
def Ib   := bP 91 []
def mY (a:St):Option U:=ff dp F dq [.r,.r,.l,.r,.b,.i] f39 J n a
def oa:=hQ dp F dq [.r,.r,.l,.r,.b] f39 aO 1
def B7 (i m o p q d r a w e:Int)(f:List Int)(g:List a7)(h:List bS)(j:List bE)(x s t k:Int)(c:List D4)(b l:List Int):e9 F J (n+1) (dR i m o p q d r a w e f g h j x s t k c b l)=br (decide (a<r)) (ck (bG a d) (ck (bG i (b.length:Int)) ((RL F0 (aI b i 0)).bind fun u=>br u.1 (ck (bG a (b.length:Int)) ((RL F0 (aI b a 0)).bind fun v=>br v.1 (br (x==(aI c a K4.az).1) (br (k==(aI c a K4.az).2.2.2) (J .ret (Ma false)) (e9 F J n (dR i m o p q d r (aj (a+1)) w e f g h j x s t k c b l))) (e9 F J n (dR i m o p q d r (aj (a+1)) w e f g h j x s t k c b l))) (e9 F J n (dR i m o p q d r (aj (a+1)) w e f g h j x s t k c b l)))) (e9 F J n (dR i m o p q d r (aj (a+1)) w e f g h j x s t k c b l))))) (J (.exit 4) (H9 m o p q w e f g h j c b l)):=by kernel_rfl
def B8 (i j k a w c:Int)(d:List Int)(e:List a7)(f:List bS)(g:List bE)(b:List D4)(l h:List Int):jM F J (n+1) (gr i j k a w c d e f g b l h)=br (decide (a<k)) (ck (bG a (b.length:Int)) (ck (okT a (b.length:Int)) (e9 F (j4 F J n) F.n (dR a i j k a a a 0 w c d e f g (aI b a K4.az).1 (aI b a K4.az).2.1 (aI b a K4.az).2.2.1 (aI b a K4.az).2.2.2 b l h)))) (J (.exit 2) (Ia i j w c d e f g h)):=by kernel_rfl
def B9 (f a w d:Int)(g:List Int)(c:List a7)(h:List bS)(i:List bE)(b:List Int):mY F J (n+1) (j6 f a w d g c h i b)=br (decide (a<f)) (ck (bG a (b.length:Int)) (ck (bG (aI b a 0) (c.length:Int)) ((lN F0 (w,d) (aI c (aI b a 0) ca.az)).bind fun j=>(SU F0 j.1).bind fun k=>br (k.1 != 400) (J .ret (n9 false)) (ck (bG (aI b a 0) (c.length:Int)) ((ry F0 (aI c (aI b a 0) ca.az).2.2.2.1.2.2.2).bind fun e=>(j3 F0).bind fun l=>(rA F0 l.1 e.1).bind fun m=>jM F (j5 F J n) F.n (gr f a (e.1.length:Int) 0 w d g c h i e.1 m.2.1 b)))))) (J (.exit 0) (Ib)):=by kernel_rfl
def aab (a:Bool):j4 F J n .ret (Ma a)=J .ret (wM a):=by kernel_rfl
def Yf (h i j k w a:Int)(b:List Int)(c:List a7)(d:List bS)(e:List bE)(l:List D4)(f g:List Int):j4 F J n (.exit 4) (H9 h i j k w a b c d e l f g)=jM F J n (gr h i j (aj (k+1)) w a b c d e l f g):=by kernel_rfl
def aac (a:Bool):j5 F J n .ret (wM a)=J .ret (n9 a):=by kernel_rfl
def Yg (f g w a:Int)(b:List Int)(c:List a7)(d:List bS)(e:List bE)(h:List Int):j5 F J n (.exit 2) (Ia f g w a b c d e h)=mY F J n (j6 f (aj (g+1)) w a b c d e h):=by kernel_rfl
def aad (a:Bool):oa F .ret (n9 a)=some (a,()):=by kernel_rfl
def Yh: oa F (.exit 0) (Ib)=some (true,()):=by kernel_rfl
def Bz (w:lE):=bj dp F dq f39 dy aO 1 (w,())
def agc (w:lE):Bz F w=(b4 F0 w).bind fun b=>br (!b.1) (some (false,())) ((hH F0 w).bind fun a=>mY F (oa F) F.n (j6 (a.1.length:Int) 0 w.1.1 w.1.2 w.2.1 w.2.2.1 w.2.2.2.1 w.2.2.2.2 a.1)):=by kernel_rfl
def Mb:Any:=.one ⟨dy,aO,1,fun x=>Bz F0 x.1⟩
def agd:a1 39 Mb:=aq dp ⟨j0,eT,atB,abP,PD,LX,Bd,axl,trivial⟩ func39 dq (by kernel_rfl)
def akR:=[(18,Bp),(19,A3),(58,b2)]
def Zm (c:D1)(r:a7):=bj akR F ad f89 x8 aO 1 (c,r,())
def axm (c:D1)(r:a7):Zm F c r=(uo F0 c r.2.2.2.2.2.2.1.1).bind fun a=>(cq F0 c r).bind fun b=>br b.1 ((ug F0 a.1 r.2.2.2.1).bind fun d=>br d.1 (some (a.2.1==(r.2.2.2.2.2.2.1.1.length:Int),())) (some (false,()))) (some (false,())):=by kernel_rfl
def abW:Any:=.one ⟨x8,aO,1,fun x=>Zm F0 x.1 x.2.1⟩
def axn:a1 89 abW:=aq akR ⟨RG,Rm,cu,trivial⟩ func89 ad (by kernel_rfl)
def gu:=[(17,fY),(20,dm),(89,abW)]
def gv:Nat->Option Hint:=look [(4,{live:=[1,11,12,13],rl:=[2]}),(9,{live:=[1,4,11,12,13,27,28,29],xl:=[1,11,12,13],rl:=[2]})]
def gw (a g h:Int)(i:List bE)(j k w b:Int)(c:List Int)(d:List a7)(e:List bS)(f:List bE)(l:List Int):= cQ 51 [b0 1,(4,a8 a),(11,.v (.c (.own 1000000 none))),(12,a8 g),(13,a8 h),(27,hV 41 (cl) i),(28,a8 j),(29,a8 k)] [(1,[ao w,ao b,.ro false 3 (.int .i64) c,.ro false 65 (ca) d,.ro false 105 (eo) e,.ro false 41 (cl) f])] [ay 1000000 3 (.int .i64) l]
def Mc (a:Bool):= bP 51 [(2,Ir a)]
def Ic (f g w a:Int)(b:List Int)(c:List a7)(d:List bS)(e:List bE)(h:List Int):= cQ 51 [b0 1,(11,.v (.c (.own 1000000 none))),(12,a8 f),(13,a8 g)] [(1,[ao w,ao a,.ro false 3 (.int .i64) b,.ro false 65 (ca) c,.ro false 105 (eo) d,.ro false 41 (cl) e])] [ay 1000000 3 (.int .i64) h]
def jN (a:St):Option U:=ff gu F gv [.r,.r,.l,.r,.b,.i,.r,.r,.l,.b,.r,.r,.r,.b,.i] f40 J n a
def j7:Ex->St->Option U:=V0 Tryz.prog (look gu) F gv [.r,.r,.l,.b,.r,.r,.r,.b] (sub [.r,.r,.l,.r,.b,.i] (eX f40)) (itk Tryz.prog (look gu) F gv (sub [.r,.r,.l,.r,.b,.i] (eX f40)) J n)
def j8 (f g w a:Int)(b:List Int)(c:List a7)(d:List bS)(e:List bE)(h:List Int):= cQ 51 [b0 1,(11,.v (.c (.own 1000000 none))),(12,a8 f),(13,a8 g)] [(1,[ao w,ao a,.ro false 3 (.int .i64) b,.ro false 65 (ca) c,.ro false 105 (eo) d,.ro false 41 (cl) e])] [ay 1000000 3 (.int .i64) h]
def oc (a:Bool):= bP 51 [(2,Ir a)]
def Ie   := bP 51 []
def mZ (a:St):Option U:=ff gu F gv [.r,.r,.l,.r,.b,.i] f40 J n a
def od:=hQ gu F gv [.r,.r,.l,.r,.b] f40 aO 1
def Ca (a i j:Int)(d:List bE)(k b w e:Int)(f:List Int)(c:List a7)(g:List bS)(h:List bE)(l:List Int):jN F J (n+1) (gw a i j d k b w e f c g h l)=br (decide (b<k)) (ck (bG b (d.length:Int)) (br ((aI d b cl.az).2.2==a) (ck (bG a (c.length:Int)) (br (decide ((aI c a ca.az).2.2.2.1.1<(aI d b cl.az).1)) (J .ret (Mc false)) (jN F J n (gw a i j d k (aj (b+1)) w e f c g h l)))) (jN F J n (gw a i j d k (aj (b+1)) w e f c g h l)))) (J (.exit 2) (Ic i j w e f c g h l)):=by kernel_rfl
def Cb (f a w e:Int)(g:List Int)(c:List a7)(h:List bS)(d:List bE)(b:List Int):mZ F J (n+1) (j8 f a w e g c h d b)=br (decide (a<f)) (ck (bG a (b.length:Int)) (ck (bG (aI b a 0) (c.length:Int)) ((Zm F0 (w,e) (aI c (aI b a 0) ca.az)).bind fun i=>br (!i.1) (J .ret (oc false)) (jN F (j7 F J n) F.n (gw (aI b a 0) f a d (d.length:Int) 0 w e g c h d b))))) (J (.exit 0) (Ie)):=by kernel_rfl
def aae (a:Bool):j7 F J n .ret (Mc a)=J .ret (oc a):=by kernel_rfl
def Yi (f g w a:Int)(b:List Int)(c:List a7)(d:List bS)(e:List bE)(h:List Int):j7 F J n (.exit 2) (Ic f g w a b c d e h)=mZ F J n (j8 f (aj (g+1)) w a b c d e h):=by kernel_rfl
def aaf (a:Bool):od F .ret (oc a)=some (a,()):=by kernel_rfl
def Yj: od F (.exit 0) (Ie)=some (true,()):=by kernel_rfl
def BA (w:lE):=bj gu F gv f40 dy aO 1 (w,())
def age (w:lE):BA F w=(b4 F0 w).bind fun b=>br (!b.1) (some (false,())) ((hH F0 w).bind fun a=>mZ F (od F) F.n (j8 (a.1.length:Int) 0 w.1.1 w.1.2 w.2.1 w.2.2.1 w.2.2.2.1 w.2.2.2.2 a.1)):=by kernel_rfl
def Md:Any:=.one ⟨dy,aO,1,fun x=>BA F0 x.1⟩
def agf:a1 40 Md:=aq gu ⟨j0,eT,axn,trivial⟩ func40 gv (by kernel_rfl)
def Vf:=[(36,OL),(37,H6),(38,H8),(39,Mb),(40,Md)]
def gO (w:lE):=bj Vf F ad f11 dy aO 1 (w,())
def ai6 (w:lE):gO F w=(E0 F0 w).bind fun a=>br a.1 ((v7 F0 w).bind fun b=>br b.1 ((v8 F0 w).bind fun c=>br c.1 ((Bz F0 w).bind fun d=>br d.1 ((BA F0 w).bind fun e=>some (e.1,())) (some (false,()))) (some (false,()))) (some (false,()))) (some (false,())):=by kernel_rfl
def agh:Any:=.one ⟨dy,aO,1,fun x=>gO F0 x.1⟩
def ai7:a1 11 agh:=aq Vf ⟨ai4,adp,adr,agd,agf,trivial⟩ func11 ad (by kernel_rfl)
def JG (a:List Int)(i:Int):=bj aA F ad f12 WK cE 1 (a,i,())
def aB7 (a:List Int)(i:Int):JG F a i=br (decide (i<(a.length:Int))) (ck (bG i (a.length:Int)) (some (aj (aI a i 0),()))) (some (Int.tmod (aj ((aj (i*7))+(a.length:Int))) 256,())):=by kernel_rfl
def azt:Any:=.one ⟨WK,cE,1,fun x=>JG F0 x.1 x.2.1⟩
def aB8:a1 12 azt:=aq aA trivial func12 ad (by kernel_rfl)
def E1:Nat->Option Hint:=look [(2,{live:=[0,1,5],rl:=[4]})]
def wa (a:List Int)(x i:Int):= bP 18 [(0,hV 3 (.int .i64) a),(1,a8 x),(5,a8 i)]
def Vg (a:Bool):= bP 18 [(4,Ir a)]
def RM   := bP 18 []
def E2 (a:St):Option U:=ff aA F E1 [.r,.l,.r,.b,.i] f13 J n a
def wb:=hQ aA F E1 [.r,.l,.r,.b] f13 aO 1
def Me (a:List Int)(x i:Int):E2 F J (n+1) (wa a x i)=br (decide (i<(a.length:Int))) (ck (bG i (a.length:Int)) (br ((aI a i 0)==x) (J .ret (Vg true)) (E2 F J n (wa a x (aj (i+1)))))) (J (.exit 0) (RM)):=by kernel_rfl
def ai8 (a:Bool):wb F .ret (Vg a)=some (a,()):=by kernel_rfl
def agi: wb F (.exit 0) (RM)=some (false,()):=by kernel_rfl
def lA (a:List Int)(x:Int):=bj aA F E1 f13 acQ aO 1 (a,x,())
def aqH (a:List Int)(x:Int):lA F a x=E2 F (wb F) F.n (wa a x 0):=by kernel_rfl
def ani:Any:=.one ⟨acQ,aO,1,fun x=>lA F0 x.1 x.2.1⟩
def aqI:a1 13 ani:=aq aA trivial func13 E1 (by kernel_rfl)
end
end Go.Am.Tryz
namespace Go.Am.Tryz
open Go.Am Go.Proofs Go.Proofs.Tryz
noncomputable section
variable {U:Type} (F:p5) (J:Ex->St->Option U) (n:Nat)
end
end Go.Am.Tryz
namespace Go.Am.Tryz
open Go.Am Go.Proofs Go.Proofs.Tryz
noncomputable section
variable {U:Type} (F:p5) (J:Ex->St->Option U) (n:Nat)
def ads:=Classical.choose (⟨Fm F0,rfl⟩:∃f,f=Fm F0)
def Yk:ads=Fm F0:=PN (⟨Fm F0,rfl⟩:∃f,f=Fm F0)
def Mf:Any:=.one ⟨lF,aO,1,fun x=>ads x.1⟩
def atC:a1 6 Mf:=by
 unfold Mf
 rw[Yk]
 exact azf
def BB:=Classical.choose (⟨eR F0,rfl⟩:∃f,f=eR F0)
def Cc:BB=eR F0:=PN (⟨eR F0,rfl⟩:∃f,f=eR F0)
def ph:Any:=.one ⟨lF,apS,0,fun x=>BB x.1⟩
def Yl:a1 7 ph:=by
 unfold ph
 rw[Cc]
 exact ac3
def G8:=Classical.choose (⟨fo F0,rfl⟩:∃f,f=fo F0)
def Ig:G8=fo F0:=PN (⟨fo F0,rfl⟩:∃f,f=fo F0)
def tG:Any:=.one ⟨auA,akm,2,fun x=>G8 x.1 x.2.1⟩
def adt:a1 8 tG:=by
 unfold tG
 rw[Ig]
 exact aiw
def G9:=Classical.choose (⟨dZ F0,rfl⟩:∃f,f=dZ F0)
def Ih:G9=dZ F0:=PN (⟨dZ F0,rfl⟩:∃f,f=dZ F0)
def tH:Any:=.one ⟨auA,akm,2,fun x=>G9 x.1 x.2.1⟩
def adu:a1 9 tH:=by
 unfold tH
 rw[Ih]
 exact Qk
def SV:=Classical.choose (⟨lO F0,rfl⟩:∃f,f=lO F0)
def RN:SV=lO F0:=PN (⟨lO F0,rfl⟩:∃f,f=lO F0)
def C8:Any:=.one ⟨apS,aEz,0,fun x=>SV x.1 x.2.1⟩
def anj:a1 10 C8:=by
 unfold C8
 rw[RN]
 exact atx
def Ha:=Classical.choose (⟨gO F0,rfl⟩:∃f,f=gO F0)
def Ii:Ha=gO F0:=PN (⟨gO F0,rfl⟩:∃f,f=gO F0)
def tI:Any:=.one ⟨dy,aO,1,fun x=>Ha x.1⟩
def adv:a1 11 tI:=by
 unfold tI
 rw[Ii]
 exact ai7
def ai9:=Classical.choose (⟨JG F0,rfl⟩:∃f,f=JG F0)
def abX:ai9=JG F0:=PN (⟨JG F0,rfl⟩:∃f,f=JG F0)
def PF:Any:=.one ⟨WK,cE,1,fun x=>ai9 x.1 x.2.1⟩
def axo:a1 12 PF:=by
 unfold PF
 rw[abX]
 exact aB8
def PG:=Classical.choose (⟨lA F0,rfl⟩:∃f,f=lA F0)
def ON:PG=lA F0:=PN (⟨lA F0,rfl⟩:∃f,f=lA F0)
def BC:Any:=.one ⟨acQ,aO,1,fun x=>PG x.1 x.2.1⟩
def aja:a1 13 BC:=by
 unfold BC
 rw[ON]
 exact aqI
def ajb:=Classical.choose (⟨vZ F0,rfl⟩:∃f,f=vZ F0)
def abY:ajb=vZ F0:=PN (⟨vZ F0,rfl⟩:∃f,f=vZ F0)
def PH:Any:=.one ⟨afo,abI,0,fun x=>ajb x.1 x.2.1⟩
def axp:a1 14 PH:=by
 unfold PH
 rw[abY]
 exact aqF
def Hb:=Classical.choose (⟨ec F0,rfl⟩:∃f,f=ec F0)
def Ij:Hb=ec F0:=PN (⟨ec F0,rfl⟩:∃f,f=ec F0)
def tJ:Any:=.one ⟨azi,ae2,2,fun x=>Hb x.1 x.2.1 x.2.2.1 x.2.2.2.1⟩
def adw:a1 15 tJ:=by
 unfold tJ
 rw[Ij]
 exact RB
def Mg:=Classical.choose (⟨fD F0,rfl⟩:∃f,f=fD F0)
def Mh:Mg=fD F0:=PN (⟨fD F0,rfl⟩:∃f,f=fD F0)
def wN:Any:=.one ⟨ae5,aO,1,fun x=>Mg x.1 x.2.1 x.2.2.1⟩
def agj:a1 16 wN:=by
 unfold wN
 rw[Mh]
 exact UR
def Mi:=[(6,Mf),(7,ph),(8,tG),(9,tH),(10,C8),(11,tI),(12,PF),(13,BC),(14,PH),(15,tJ),(16,wN)]
def na (a:List Int):=bj Mi F ad f3 lF aO 1 (a,())
def Ym (e:List Int):na F e=(ads e).bind fun h=>br h.1 (some (true,())) ((BB e).bind fun c=>(G8 c.1.1 c.1.2.1).bind fun f=>(G9 c.1.1 c.1.2.1).bind fun i=>br (!(f.2.1==i.2.1)) (some (false,())) (br (!f.2.1) (some (true,())) ((SV f.1 c.2.1).bind fun a=>br ((a.1.2.2.2.2.length:Int)==0) ((Ha a.1).bind fun j=>some (j.1,())) ((ai9 e 1).bind fun b=>ck (!((a.1.2.2.2.2.length:Int)==0)) (ck (bG (Int.tmod b.1 (a.1.2.2.2.2.length:Int)) (a.1.2.2.2.2.length:Int)) ((PG a.1.2.1 (aI a.1.2.2.2.2 (Int.tmod b.1 (a.1.2.2.2.2.length:Int)) cl.az).2.2).bind fun k=>br k.1 (some (true,())) ((ajb a.1 (8,(aI a.1.2.2.2.2 (Int.tmod b.1 (a.1.2.2.2.2.length:Int)) cl.az).2.2,0,0,0,(ak,0,ak,[]),(0,ak,[]),(0,ak,[]),0,0,0,0,0)).bind fun d=>br (d.2.1 != 0) (some (false,())) (ck (bG (aI a.1.2.2.2.2 (Int.tmod b.1 (a.1.2.2.2.2.length:Int)) cl.az).2.2 (d.1.2.2.1.length:Int)) ((Hb a.1.1 (aI d.1.2.2.1 (aI a.1.2.2.2.2 (Int.tmod b.1 (a.1.2.2.2.2.length:Int)) cl.az).2.2 ca.az).2.2.2.1.2.2.1 (aI a.1.2.2.2.2 (Int.tmod b.1 (a.1.2.2.2.2.length:Int)) cl.az).1 []).bind fun g=>br (decide ((aI d.1.2.2.1 (aI a.1.2.2.2.2 (Int.tmod b.1 (a.1.2.2.2.2.length:Int)) cl.az).2.2 ca.az).2.2.2.1.1>=(aI a.1.2.2.2.2 (Int.tmod b.1 (a.1.2.2.2.2.length:Int)) cl.az).1)) (br (!g.2.1) (some (true,())) ((Mg a.1.1 (aI d.1.2.2.1 (aI a.1.2.2.2.2 (Int.tmod b.1 (a.1.2.2.2.2.length:Int)) cl.az).2.2 ca.az).2.2.2.1 g.1).bind fun l=>some (!l.1,()))) (some (false,()))))))))))):=by kernel_rfl
def aag (e:List Int):na F e=(Fm F0 e).bind fun h=>br h.1 (some (true,())) ((eR F0 e).bind fun c=>(fo F0 c.1.1 c.1.2.1).bind fun f=>(dZ F0 c.1.1 c.1.2.1).bind fun i=>br (!(f.2.1==i.2.1)) (some (false,())) (br (!f.2.1) (some (true,())) ((lO F0 f.1 c.2.1).bind fun a=>br ((a.1.2.2.2.2.length:Int)==0) ((gO F0 a.1).bind fun j=>some (j.1,())) ((JG F0 e 1).bind fun b=>ck (!((a.1.2.2.2.2.length:Int)==0)) (ck (bG (Int.tmod b.1 (a.1.2.2.2.2.length:Int)) (a.1.2.2.2.2.length:Int)) ((lA F0 a.1.2.1 (aI a.1.2.2.2.2 (Int.tmod b.1 (a.1.2.2.2.2.length:Int)) cl.az).2.2).bind fun k=>br k.1 (some (true,())) ((vZ F0 a.1 (8,(aI a.1.2.2.2.2 (Int.tmod b.1 (a.1.2.2.2.2.length:Int)) cl.az).2.2,0,0,0,(ak,0,ak,[]),(0,ak,[]),(0,ak,[]),0,0,0,0,0)).bind fun d=>br (d.2.1 != 0) (some (false,())) (ck (bG (aI a.1.2.2.2.2 (Int.tmod b.1 (a.1.2.2.2.2.length:Int)) cl.az).2.2 (d.1.2.2.1.length:Int)) ((ec F0 a.1.1 (aI d.1.2.2.1 (aI a.1.2.2.2.2 (Int.tmod b.1 (a.1.2.2.2.2.length:Int)) cl.az).2.2 ca.az).2.2.2.1.2.2.1 (aI a.1.2.2.2.2 (Int.tmod b.1 (a.1.2.2.2.2.length:Int)) cl.az).1 []).bind fun g=>br (decide ((aI d.1.2.2.1 (aI a.1.2.2.2.2 (Int.tmod b.1 (a.1.2.2.2.2.length:Int)) cl.az).2.2 ca.az).2.2.2.1.1>=(aI a.1.2.2.2.2 (Int.tmod b.1 (a.1.2.2.2.2.length:Int)) cl.az).1)) (br (!g.2.1) (some (true,())) ((fD F0 a.1.1 (aI d.1.2.2.1 (aI a.1.2.2.2.2 (Int.tmod b.1 (a.1.2.2.2.2.length:Int)) cl.az).2.2 ca.az).2.2.2.1 g.1).bind fun l=>some (!l.1,()))) (some (false,()))))))))))):=by
 rw[Ym]
 simp only[Yk,Cc,Ig,Ih,RN,Ii,abX,ON,abY,Ij,Mh]
def Yn:Any:=.one ⟨lF,aO,1,fun x=>na F0 x.1⟩
def aah:a1 3 Yn:=aq Mi ⟨atC,Yl,adt,adu,anj,adv,axo,aja,axp,adw,agj,trivial⟩ func3 ad (by kernel_rfl)
end
end Go.Am.Tryz
