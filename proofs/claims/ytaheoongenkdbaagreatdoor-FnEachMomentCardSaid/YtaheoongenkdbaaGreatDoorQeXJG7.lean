/- No condition. -/
import Derived.Test.YtaheoongenkdbaaGreatDoorQeXJG6
set_option linter.all false
set_option maxRecDepth 100000
namespace Go.Am.Tryz
open Go.Am Go.Proofs Go.Proofs.Tryz
noncomputable section
variable {U:Type} (F:oH) (J:Ex->St->Option U) (n:Nat)
def vk:=[(79,Iu)]
def vl:Nat->Option Hint:=look [(3,{live:=[3,5,10,11,12],mat:=[(5,63,K4)],roB:=[(3,0),(3,1)],xl:=[5],rl:=[4]})]
def gP (b:List D4)(c d:Int)(l a:List Int)(e:List D4):= di 38 [b9 3,(5,.v (.c (.own 1000000 none))),(10,ih 63 (K4) b),(11,bq c),(12,bq d)] [(3,[.ro false 3 (.int .i64) l,.ro false 3 (.int .i64) a])] [ay 1000000 63 K4 e]
def vX (a:List D4):= di 38 [(5,.v (.c (.own 1000000 none)))] [] [ay 1000000 63 K4 a]
def jZ (a:St):Option U:=fy vk F vl [.r,.r,.l,.r,.b,.i] f224 J n a
def AQ:=ig vk F vl [.r,.r,.l,.r,.b] f224 jH 2
def E6 (b:List D4)(e a:Int)(l f:List Int)(c:List D4):jZ F J (n+1) (gP b e a l f c)=br (decide (a<e)) (ck (bO a (b.length:Int)) (br ((c.length:Int)==2) (J (.exit 0) (vX c)) ((KD F0 (l,f) (aN b a K4.aC)).bind fun d=>br (d.2.1==0) (ck (eA F c.length [(aN b a K4.aC)].length 32) (jZ F J n (gP b e (aj (a+1)) d.1.1 d.1.2 (c++[(aN b a K4.aC)])))) (br (d.2.1==4) (ck (eA F c.length [(aN b a K4.aC)].length 32) (jZ F J n (gP b e (aj (a+1)) d.1.1 d.1.2 (c++[(aN b a K4.aC)])))) (jZ F J n (gP b e (aj (a+1)) d.1.1 d.1.2 c)))))) (J (.exit 0) (vX c)):=by kernel_rfl
def G6 (a:List D4):AQ F (.exit 0) (vX a)=some (a,()):=by kernel_rfl
def oo (p:D5)(l:D43):=bn vk F vl f224 ahL jH 2 (p,l,())
def agm (p:D5)(l:D43):oo F p l=jZ F (AQ F) F.n (gP p (p.length:Int) 0 l.1 l.2 []):=by kernel_rfl
def Na:Any:=.one ⟨ahL,jH,2,fun x=>oo F0 x.1 x.2.1⟩
def agn:ba 224 Na:=aw vk ⟨V9,trivial⟩ func224 vl (by kernel_rfl)
def AR:=[(139,iF),(260,FV),(334,Ow)]
def AS:Nat->Option Hint:=look [(3,{live:=[3,6,7,8],mat:=[(3,9,.str)],xl:=[3],rl:=[2]})]
def sy (a:List D4)(b c:Int)(d:List ByteArray):= di 23 [(3,.v (.c (.own 1000000 none))),(6,ih 63 (K4) a),(7,bq b),(8,bq c)] [] [ay 1000000 9 (.str) d]
def P5 (a:ByteArray):= b3 23 [(2,Yr a)]
def Nb (a:List ByteArray):= di 23 [(3,.v (.c (.own 1000000 none)))] [] [ay 1000000 9 (.str) a]
def AT (a:St):Option U:=fy AR F AS [.r,.r,.l,.r,.b,.i] f311 J n a
def sz:=ig AR F AS [.r,.r,.l,.r,.b] f311 dw 1
def G7 (b:List D4)(d a:Int)(c:List ByteArray):AT F J (n+1) (sy b d a c)=br (decide (a<d)) (ck (bO a (b.length:Int)) ((oj F0 (aN b a K4.aC)).bind fun f=>br (!f.1) (J .ret (P5 ak)) ((EP F0 (aN b a K4.aC)).bind fun e=>ck (eA F c.length [e.1].length 16) (AT F J n (sy b d (aj (a+1)) (c++[e.1])))))) (J (.exit 0) (Nb c)):=by kernel_rfl
def adC (a:ByteArray):sz F .ret (P5 a)=some (a,()):=by kernel_rfl
def aaX (a:List ByteArray):sz F (.exit 0) (Nb a)=(strings_Join F0 a (ByteArray.mk #[44])).bind fun b=>some (b.1,()):=by kernel_rfl
def Iv (a:D5):=bn AR F AS f311 jH dw 1 (a,())
def akw (a:D5):Iv F a=AT F (sz F) F.n (sy a (a.length:Int) 0 []):=by kernel_rfl
def P6:Any:=.one ⟨jH,dw,1,fun x=>Iv F0 x.1⟩
def akx:ba 311 P6:=aw AR ⟨mM,Vv,aiW,trivial⟩ func311 AS (by kernel_rfl)
def Eb:=[(39,eC),(139,iF),(215,uU),(311,P6)]
def Ec:Nat->Option Hint:=look [(2,{live:=[0,1,2,10,11,12],xl:=[0,1,2],rl:=[6]})]
def vm (a:ByteArray)(b:Int)(c d:List D4)(e f:Int):= b3 38 [(0,Yr a),(1,bq b),(2,ih 63 (K4) c),(10,ih 63 (K4) d),(11,bq e),(12,bq f)]
def Tz (a:ByteArray):= b3 38 [(6,Yr a)]
def P7 (a:ByteArray)(b:Int)(c:List D4):= b3 38 [(0,Yr a),(1,bq b),(2,ih 63 (K4) c)]
def Ed (a:St):Option U:=fy Eb F Ec [.r,.l,.r,.b,.i] f269 J n a
def vn:=ig Eb F Ec [.r,.l,.r,.b] f269 dw 1
def KH (c:ByteArray)(d:Int)(e b:List D4)(f a:Int):Ed F J (n+1) (vm c d e b f a)=br (decide (a<f)) (ck (bO a (b.length:Int)) ((oj F0 (aN b a K4.aC)).bind fun g=>br (!g.1) (J .ret (Tz ak)) (Ed F J n (vm c d e b f (aj (a+1)))))) (J (.exit 0) (P7 c d e)):=by kernel_rfl
def ago (a:ByteArray):vn F .ret (Tz a)=some (a,()):=by kernel_rfl
def adD (a:ByteArray)(e:Int)(d:List D4):vn F (.exit 0) (P7 a e d)=ck (okC F a.size (ByteArray.mk #[47]).size) ((kl F0 e).bind fun b=>ck (okC F (a++(ByteArray.mk #[47])).size b.1.size) (ck (okC F ((a++(ByteArray.mk #[47]))++b.1).size (ByteArray.mk #[124]).size) ((Iv F0 d).bind fun c=>ck (okC F (((a++(ByteArray.mk #[47]))++b.1)++(ByteArray.mk #[124])).size c.1.size) (br (decide ((d.length:Int)>2)) (some (ak,())) ((eK F0 ((((a++(ByteArray.mk #[47]))++b.1)++(ByteArray.mk #[124]))++c.1)).bind fun f=>br (!f.1) (some (ak,())) (some ((((a++(ByteArray.mk #[47]))++b.1)++(ByteArray.mk #[124]))++c.1,()))))))):=by kernel_rfl
def E7 (a:ByteArray)(b:Int)(c:D5):=bn Eb F Ec f269 aBk dw 1 (a,b,c,())
def an3 (b:ByteArray)(c:Int)(a:D5):E7 F b c a=Ed F (vn F) F.n (vm b c a a (a.length:Int) 0):=by kernel_rfl
def TA:Any:=.one ⟨aBk,dw,1,fun x=>E7 F0 x.1 x.2.1 x.2.2.1⟩
def an4:ba 269 TA:=aw Eb ⟨gA,mM,Ka,akx,trivial⟩ func269 Ec (by kernel_rfl)
def TC:=[(62,dQ),(145,lT),(204,hJ),(269,TA)]
def tF (c:D1)(q:D9)(a:Int)(b:D5):=bn TC F ab f223 aBl ahM 2 (c,q,a,b,())
def agp (c:D1)(q:D9)(b:Int)(e:D5):tF F c q b e=(E7 F0 q.2.1 b e).bind fun a=>(gD F0 q).bind fun d=>(mP F0 c (a.1,d.1)).bind fun f=>br (!f.1) (some ((ak,0,ak,[]),false,())) ((ed F0 a.1).bind fun g=>br (g.1 != b) (some ((ak,0,ak,[]),false,())) (some ((a.1,d.1),true,()))):=by kernel_rfl
def Nc:Any:=.one ⟨aBl,ahM,2,fun x=>tF F0 x.1 x.2.1 x.2.2.1 x.2.2.2.1⟩
def agq:ba 223 Nc:=aw TC ⟨fa,uZ,l4,an4,trivial⟩ func223 ab (by kernel_rfl)
def an5:=[(34,bX),(35,Gb),(36,vV),(37,Kz),(160,kR),(220,N5),(223,Nc),(224,Na)]
def adE (c:D1)(r:bb):=bn an5 F ab f167 wX ahM 2 (c,r,())
def awJ (c:D1)(r:bb):adE F c r=(cq F0 c r).bind fun g=>br (!g.1) (some ((ak,0,ak,[]),false,())) ((sj F0 c r.2.1).bind fun h=>br (h.1 != r.1) (some ((ak,0,ak,[]),false,())) (br (decide (r.2.2.1>=r.2.1)) (some ((ak,0,ak,[]),false,())) (br (r.2.2.2.1.2.2.1.1 != (aj (r.2.1-1))) ((sn F0 c r r.2.1).bind fun i=>br (!i.1) (some ((ak,0,ak,[]),false,())) ((mb F0).bind fun b=>(vW F0 r.2.2.2.1.2.2.1.2.1).bind fun d=>(wN F0 b.1 d.1).bind fun e=>(oo F0 r.2.2.2.2.1 e.1).bind fun f=>(tF F0 c r.2.2.2.1.2.2.1 r.2.1 f.1).bind fun a=>some (a.1,a.2.1,()))) ((mb F0).bind fun b=>(vW F0 r.2.2.2.1.2.2.1.2.1).bind fun d=>(wN F0 b.1 d.1).bind fun e=>(oo F0 r.2.2.2.2.1 e.1).bind fun f=>(tF F0 c r.2.2.2.1.2.2.1 r.2.1 f.1).bind fun a=>some (a.1,a.2.1,()))))):=by kernel_rfl
def adF:Any:=.one ⟨wX,ahM,2,fun x=>adE F0 x.1 x.2.1⟩
def awK:ba 167 adF:=aw an5 ⟨ct,Wa,M4,ZF,sk,ads,agq,agn,trivial⟩ func167 ab (by kernel_rfl)
def AU:=[(34,bX),(70,bM),(171,tB)]
def AW:Nat->Option Hint:=look [(5,{live:=[3,4,5,6,8,9],Bg:=[(6,7,3,.int .i64),(6,9,63,K4),(6,10,61,K9),(6,11,5,.int .u8),(6,13,119,px)],xl:=[6,8],rl:=[6,7]})]
def mc (a c b r d e f g h:Int)(i:ByteArray)(j:List Int)(k:ByteArray)(l:List D4)(o:List D9)(p:List Int)(q:Int)(s:List kI)(m M:Int)(m2:ByteArray)(N:Int)(O:ByteArray)(P:List Int)(Q:Int)(R:ByteArray)(S:List Int)(T:Int)(W:ByteArray)(X:List Int)(Y Z qa qb qd qe qf qg qh qi qj:Int)(qk ql:ByteArray)(qm qn t u v w x:Int)(y z:ByteArray)(A:Int)(qo:List Int)(B:List D4)(C:List D9)(D:List Int)(E:List kI)(G:List Int)(H:List D4)(I:List D9)(K:List Int)(L:List kI):= di 43 [b9 3,b9 4,b9 5,b9 6,b9 8,(9,bq a)] [(3,[an c,an b]),(4,[an r,an d,an e,an f,an g,an h,.str i,.ro false 3 (.int .i64) j,.str k,.ro false 63 (K4) l,.ro false 61 (K9) o,.ro false 5 (.int .u8) p,an q,.ro false 119 (px) s]),(5,[an m,an M,.str m2,an N,.str O,.ro false 3 (.int .i64) P,an Q,.str R,.ro false 3 (.int .i64) S,an T,.str W,.ro false 3 (.int .i64) X,an Y,an Z,an qa,an qb,an qd]),(6,[an qe,an qf,an qg,an qh,an qi,an qj,.str qk,.own 1000000 none,.str ql,.own 1000001 none,.own 1000002 none,.own 1000003 none,an qm,.own 1000004 none]),(8,[an qn,an t,an u,an v,an w,an x,.str y,.own 1000005 none,.str z,.own 1000006 none,.own 1000007 none,.own 1000008 none,an A,.own 1000009 none])] [ay 1000000 3 (.int .i64) qo,ay 1000001 63 K4 B,ay 1000002 61 K9 C,ay 1000003 5 (.int .u8) D,ay 1000004 119 px E,ay 1000005 3 (.int .i64) G,ay 1000006 63 K4 H,ay 1000007 61 K9 I,ay 1000008 5 (.int .u8) K,ay 1000009 119 px L]
def P8 (e:Bool)(f g h i j k:Int)(l m:ByteArray)(o:Int)(p:List Int)(a:List D4)(b:List D9)(c:List Int)(d:List kI):= di 43 [b9 6,(7,NR e)] [(6,[an f,an g,an h,an i,an j,an k,.str l,.own 1000000 none,.str m,.own 1000001 none,.own 1000002 none,.own 1000003 none,an o,.own 1000004 none])] [ay 1000000 3 (.int .i64) p,ay 1000001 63 K4 a,ay 1000002 61 K9 b,ay 1000003 5 (.int .u8) c,ay 1000004 119 px d]
def Nd (s t u v w x:Int)(y z:ByteArray)(A B a b c d e:Int)(f g:ByteArray)(h:Int)(C:List Int)(i:List D4)(j:List D9)(k:List Int)(l:List kI)(m:List Int)(o:List D4)(p:List D9)(q:List Int)(r:List kI):= di 43 [b9 6,b9 8] [(6,[an s,an t,an u,an v,an w,an x,.str y,.own 1000000 none,.str z,.own 1000001 none,.own 1000002 none,.own 1000003 none,an A,.own 1000004 none]),(8,[an B,an a,an b,an c,an d,an e,.str f,.own 1000005 none,.str g,.own 1000006 none,.own 1000007 none,.own 1000008 none,an h,.own 1000009 none])] [ay 1000000 3 (.int .i64) C,ay 1000001 63 K4 i,ay 1000002 61 K9 j,ay 1000003 5 (.int .u8) k,ay 1000004 119 px l,ay 1000005 3 (.int .i64) m,ay 1000006 63 K4 o,ay 1000007 61 K9 p,ay 1000008 5 (.int .u8) q,ay 1000009 119 px r]
def p9 (a:St):Option U:=fy AU F AW [.r,.r,.r,.l,.r,.b,.i] f168 J n a
def sA:=ig AU F AW [.r,.r,.r,.l,.r,.b] f168 gd 2
def G8 (d c e r f g h i j:Int)(k:ByteArray)(l:List Int)(o:ByteArray)(p:List D4)(q:List D9)(s:List Int)(t:Int)(u:List kI)(m O:Int)(m2:ByteArray)(P:Int)(Q:ByteArray)(R:List Int)(S:Int)(T:ByteArray)(W:List Int)(X:Int)(Y:ByteArray)(Z:List Int)(qa qb qd qe qf qg qh qi qj qk ql:Int)(qm qn:ByteArray)(qo qp v w x y z:Int)(A B:ByteArray)(C:Int)(qq:List Int)(D:List D4)(E:List D9)(G:List Int)(H:List kI)(I:List Int)(K:List D4)(L:List D9)(M:List Int)(N:List kI):p9 F J (n+1) (mc d c e r f g h i j k l o p q s t u m O m2 P Q R S T W X Y Z qa qb qd qe qf qg qh qi qj qk ql qm qn qo qp v w x y z A B C qq D E G H I K L M N)=br (decide (d<c)) (br (d==r) (p9 F J n (mc (aj (d+1)) c e r f g h i j k l o p q s t u m O m2 P Q R S T W X Y Z qa qb qd qe qf qg qh qi qj qk ql qm qn qo qp v w x y z A B C qq D E G H I K L M N)) ((l9 F0 (c,e) (qp,v,w,(x,y,(z,A,I),B),K,L,(M,C),N) d (m,O,(m2,P,Q,R),(S,T,W),(X,Y,Z),qa,qb,qd,qe,qf)).bind fun a=>br (!a.2.1) ((az F0 (r,f,g,(h,i,(j,k,l),o),p,q,(s,t),u)).bind fun b=>J .ret (P8 false b.1.1 b.1.2.1 b.1.2.2.1 b.1.2.2.2.1.1 b.1.2.2.2.1.2.1 b.1.2.2.2.1.2.2.1.1 b.1.2.2.2.1.2.2.1.2.1 b.1.2.2.2.1.2.2.2 b.1.2.2.2.2.2.2.1.2 b.1.2.2.2.1.2.2.1.2.2 b.1.2.2.2.2.1 b.1.2.2.2.2.2.1 b.1.2.2.2.2.2.2.1.1 b.1.2.2.2.2.2.2.2)) (p9 F J n (mc (aj (d+1)) c e r f g h i j k l o p q s t u m O m2 P Q R S T W X Y Z qa qb qd qe qf qg qh qi qj qk ql qm qn qo a.1.1 a.1.2.1 a.1.2.2.1 a.1.2.2.2.1.1 a.1.2.2.2.1.2.1 a.1.2.2.2.1.2.2.1.1 a.1.2.2.2.1.2.2.1.2.1 a.1.2.2.2.1.2.2.2 a.1.2.2.2.2.2.2.1.2 qq D E G H a.1.2.2.2.1.2.2.1.2.2 a.1.2.2.2.2.1 a.1.2.2.2.2.2.1 a.1.2.2.2.2.2.2.1.1 a.1.2.2.2.2.2.2.2)))) (J (.exit 0) (Nd qg qh qi qj qk ql qm qn qo qp v w x y z A B C qq D E G H I K L M N)):=by kernel_rfl
def adG (e:Bool)(f g h i j k:Int)(l m:ByteArray)(o:Int)(p:List Int)(a:List D4)(b:List D9)(c:List Int)(d:List kI):sA F .ret (P8 e f g h i j k l m o p a b c d)=some ((f,g,h,(i,j,(k,l,p),m),a,b,(c,o),d),e,()):=by kernel_rfl
def aaY (t u v w x y:Int)(z A:ByteArray)(B o a b c d e:Int)(f g:ByteArray)(h:Int)(C:List Int)(p:List D4)(q:List D9)(r:List Int)(s:List kI)(i:List Int)(j:List D4)(k:List D9)(l:List Int)(m:List kI):sA F (.exit 0) (Nd t u v w x y z A B o a b c d e f g h C p q r s i j k l m)=some ((o,a,b,(c,d,(e,f,i),g),j,k,(l,h),m),true,()):=by kernel_rfl
def AX (c:D1)(r:bb)(m:NQ):=bn AU F AW f168 Y0 gd 2 (c,r,m,())
def aky (c:D1)(r:bb)(m:NQ):AX F c r m=(az F0 r).bind fun a=>(cq F0 c r).bind fun b=>br (!b.1) (some (a.1,false,())) (p9 F (sA F) F.n (mc 0 c.1 c.2 r.1 r.2.1 r.2.2.1 r.2.2.2.1.1 r.2.2.2.1.2.1 r.2.2.2.1.2.2.1.1 r.2.2.2.1.2.2.1.2.1 r.2.2.2.1.2.2.1.2.2 r.2.2.2.1.2.2.2 r.2.2.2.2.1 r.2.2.2.2.2.1 r.2.2.2.2.2.2.1.1 r.2.2.2.2.2.2.1.2 r.2.2.2.2.2.2.2 m.1 m.2.1 m.2.2.1.1 m.2.2.1.2.1 m.2.2.1.2.2.1 m.2.2.1.2.2.2 m.2.2.2.1.1 m.2.2.2.1.2.1 m.2.2.2.1.2.2 m.2.2.2.2.1.1 m.2.2.2.2.1.2.1 m.2.2.2.2.1.2.2 m.2.2.2.2.2.1 m.2.2.2.2.2.2.1 m.2.2.2.2.2.2.2.1 m.2.2.2.2.2.2.2.2.1 m.2.2.2.2.2.2.2.2.2 0 0 0 0 0 0 ak ak 0 a.1.1 a.1.2.1 a.1.2.2.1 a.1.2.2.2.1.1 a.1.2.2.2.1.2.1 a.1.2.2.2.1.2.2.1.1 a.1.2.2.2.1.2.2.1.2.1 a.1.2.2.2.1.2.2.2 a.1.2.2.2.2.2.2.1.2 [] [] [] [] [] a.1.2.2.2.1.2.2.1.2.2 a.1.2.2.2.2.1 a.1.2.2.2.2.2.1 a.1.2.2.2.2.2.2.1.1 a.1.2.2.2.2.2.2.2)):=by kernel_rfl
def P9:Any:=.one ⟨Y0,gd,2,fun x=>AX F0 x.1 x.2.1 x.2.2.1⟩
def akz:ba 168 P9:=aw AU ⟨ct,b7,Il,trivial⟩ func168 AW (by kernel_rfl)
def We:=[(70,bM),(153,vT),(167,adF),(168,P9)]
abbrev an6:List (Ty×Bool):=[(cl,true),(.int .i64,false)]
def Iw (c:D1)(r:bb):=bn We F ab f91 wX an6 0 (c,r,())
def akA (c:D1)(r:bb):Iw F c r=(adE F0 c r).bind fun a=>br (!a.2.1) (some (r,3,())) ((az F0 r).bind fun b=>(AX F0 c (b.1.1,b.1.2.1,r.2.1,b.1.2.2.2) (1,0,a.1,(0,ak,[]),(0,ak,[]),0,0,0,0,0)).bind fun d=>br (!d.2.1) (some (r,4,())) ((p7 F0 c d.1 a.1).bind fun e=>br (!e.2.1) (some (r,4,())) (some (e.1,0,())))):=by kernel_rfl
def Qa:Any:=.one ⟨wX,an6,0,fun x=>Iw F0 x.1 x.2.1⟩
def akB:ba 91 Qa:=aw We ⟨b7,MZ,awK,akz,trivial⟩ func91 ab (by kernel_rfl)
def vo:=[(169,AN)]
def vp:Nat->Option Hint:=look [(2,{live:=[2,3,4,6],Bg:=[(4,7,3,.int .i64),(4,9,63,K4),(4,10,61,K9),(4,11,5,.int .u8),(4,13,119,px)],xl:=[3,4],rl:=[4,5]})]
def ph (i c a r b d e f g:Int)(h:ByteArray)(j:List Int)(k:ByteArray)(l:List D4)(m:List D9)(o:List Int)(p:Int)(q:List kI)(w x y z A B:Int)(C D:ByteArray)(E:Int)(G:List Int)(s:List D4)(t:List D9)(u:List Int)(v:List kI):= di 41 [b9 2,b9 3,b9 4,(6,bq i)] [(2,[an c,an a]),(3,[an r,an b,an d,an e,an f,an g,.str h,.ro false 3 (.int .i64) j,.str k,.ro false 63 (K4) l,.ro false 61 (K9) m,.ro false 5 (.int .u8) o,an p,.ro false 119 (px) q]),(4,[an w,an x,an y,an z,an A,an B,.str C,.own 1000000 none,.str D,.own 1000001 none,.own 1000002 none,.own 1000003 none,an E,.own 1000004 none])] [ay 1000000 3 (.int .i64) G,ay 1000001 63 K4 s,ay 1000002 61 K9 t,ay 1000003 5 (.int .u8) u,ay 1000004 119 px v]
def AY (e f g h i j k:Int)(l:ByteArray)(m:List Int)(o:ByteArray)(p:List D4)(a:List D9)(b:List Int)(c:Int)(d:List kI):= di 41 [b9 4,(5,bq e)] [(4,[an f,an g,an h,an i,an j,an k,.str l,.ro false 3 (.int .i64) m,.str o,.ro false 63 (K4) p,.ro false 61 (K9) a,.ro false 5 (.int .u8) b,an c,.ro false 119 (px) d])] []
def KI (r a b c d e:Int)(f:ByteArray)(g:List Int)(h:ByteArray)(i:List D4)(j:List D9)(k:List Int)(l:Int)(m:List kI)(t u v w x y:Int)(z A:ByteArray)(B:Int)(C:List Int)(o:List D4)(p:List D9)(q:List Int)(s:List kI):= di 41 [b9 3,b9 4] [(3,[an r,an a,an b,an c,an d,an e,.str f,.ro false 3 (.int .i64) g,.str h,.ro false 63 (K4) i,.ro false 61 (K9) j,.ro false 5 (.int .u8) k,an l,.ro false 119 (px) m]),(4,[an t,an u,an v,an w,an x,an y,.str z,.own 1000000 none,.str A,.own 1000001 none,.own 1000002 none,.own 1000003 none,an B,.own 1000004 none])] [ay 1000000 3 (.int .i64) C,ay 1000001 63 K4 o,ay 1000002 61 K9 p,ay 1000003 5 (.int .u8) q,ay 1000004 119 px s]
def vq (a:St):Option U:=fy vo F vp [.r,.l,.r,.b,.i] f92 J n a
def pj:=ig vo F vp [.r,.l,.r,.b] f92 an6 0
def E8 (i c s r d e f g h:Int)(j:ByteArray)(k:List Int)(l:ByteArray)(m:List D4)(b:List D9)(o:List Int)(p:Int)(q:List kI)(x y z A B C:Int)(D E:ByteArray)(G:Int)(H:List Int)(t:List D4)(u:List D9)(v:List Int)(w:List kI):vq F J (n+1) (ph i c s r d e f g h j k l m b o p q x y z A B C D E G H t u v w)=br (decide (i>=0)) (ck (bO i (b.length:Int)) (br (!((aN b i K9.aC).2.1.toList==ak.toList)) ((ni F0 (c,s) (r,d,e,(f,g,(h,j,k),l),m,b,(o,p),q) (aN b i K9.aC).1 (aN b i K9.aC).2.1 true).bind fun a=>br (!a.2.1) (J .ret (AY 3 r d e f g h j k l m b o p q)) (J .ret (AY 0 a.1.1 a.1.2.1 a.1.2.2.1 a.1.2.2.2.1.1 a.1.2.2.2.1.2.1 a.1.2.2.2.1.2.2.1.1 a.1.2.2.2.1.2.2.1.2.1 a.1.2.2.2.1.2.2.1.2.2 a.1.2.2.2.1.2.2.2 a.1.2.2.2.2.1 a.1.2.2.2.2.2.1 a.1.2.2.2.2.2.2.1.1 a.1.2.2.2.2.2.2.1.2 a.1.2.2.2.2.2.2.2))) (vq F J n (ph (aj (i-1)) c s r d e f g h j k l m b o p q x y z A B C D E G H t u v w)))) (J (.exit 0) (KI r d e f g h j k l m b o p q x y z A B C D E G H t u v w)):=by kernel_rfl
def KJ (e f g h i j k:Int)(l:ByteArray)(m:List Int)(o:ByteArray)(p:List D4)(a:List D9)(b:List Int)(c:Int)(d:List kI):pj F .ret (AY e f g h i j k l m o p a b c d)=some ((f,g,h,(i,j,(k,l,m),o),p,a,(b,c),d),e,()):=by kernel_rfl
def X3 (r a b c d e:Int)(f:ByteArray)(g:List Int)(h:ByteArray)(i:List D4)(j:List D9)(k:List Int)(l:Int)(m:List kI)(t u v w x y:Int)(z A:ByteArray)(B:Int)(C:List Int)(o:List D4)(p:List D9)(q:List Int)(s:List kI):pj F (.exit 0) (KI r a b c d e f g h i j k l m t u v w x y z A B C o p q s)=some ((r,a,b,(c,d,(e,f,g),h),i,j,(k,l),m),3,()):=by kernel_rfl
def Ee (c:D1)(r:bb):=bn vo F vp f92 wX an6 0 (c,r,())
def agr (c:D1)(r:bb):Ee F c r=vq F (pj F) F.n (ph (aj ((r.2.2.2.2.2.1.length:Int)-1)) c.1 c.2 r.1 r.2.1 r.2.2.1 r.2.2.2.1.1 r.2.2.2.1.2.1 r.2.2.2.1.2.2.1.1 r.2.2.2.1.2.2.1.2.1 r.2.2.2.1.2.2.1.2.2 r.2.2.2.1.2.2.2 r.2.2.2.2.1 r.2.2.2.2.2.1 r.2.2.2.2.2.2.1.1 r.2.2.2.2.2.2.1.2 r.2.2.2.2.2.2.2 0 0 0 0 0 0 ak ak 0 [] [] [] [] []):=by kernel_rfl
def Nf:Any:=.one ⟨wX,an6,0,fun x=>Ee F0 x.1 x.2.1⟩
def ags:ba 92 Nf:=aw vo ⟨N4,trivial⟩ func92 vp (by kernel_rfl)
def aic:=[(34,bX),(70,bM),(160,kR),(170,ky),(171,tB)]
def Xj (c:D1)(r:bb):=bn aic F ab f93 wX gd 2 (c,r,())
def auB (c:D1)(r:bb):Xj F c r=(cq F0 c r).bind fun h=>br (!h.1) ((az F0 r).bind fun b=>some (b.1,false,())) (br (r.2.1==60) ((az F0 r).bind fun b=>some (b.1,false,())) ((az F0 r).bind fun a=>(sj F0 c (aj (a.1.2.1+1))).bind fun e=>br (e.1==r.1) ((eu F0 c a.1.2.2.2.2.2.1 (aj (a.1.2.1+1),ak,[r.1])).bind fun f=>br (!f.2.1) ((az F0 r).bind fun d=>some (d.1,false,())) (some ((a.1.1,aj (a.1.2.1+1),a.1.2.2.1,a.1.2.2.2.1,a.1.2.2.2.2.1,f.1,a.1.2.2.2.2.2.2),true,()))) ((l9 F0 c (a.1.1,aj (a.1.2.1+1),a.1.2.2) e.1 (3,aj (a.1.2.1+1),(ak,0,ak,[]),(0,ak,[]),r.2.2.2.1.2.2.1,r.1,0,0,0,0)).bind fun g=>br (!g.2.1) ((az F0 r).bind fun d=>some (d.1,false,())) (some (g.1,true,()))))):=by kernel_rfl
def ZH:Any:=.one ⟨wX,gd,2,fun x=>Xj F0 x.1 x.2.1⟩
def auC:ba 93 ZH:=aw aic ⟨ct,b7,sk,si,Il,trivial⟩ func93 ab (by kernel_rfl)
def ZI:=[(76,nO),(135,ks)]
def Ng (d:D14)(keep:Int):=bn ZI F ab f94 aBE oJ 1 (d,keep,())
def an7 (d:D14)(keep:Int):Ng F d keep=(kP F0 d).bind fun a=>(pY F0 d).bind fun b=>br b.1 (ck (okT (aj (d.2+(if (aj ((d.1.length:Int)-d.2))<(if 0>keep then 0 else keep) then (aj ((d.1.length:Int)-d.2)) else (if 0>keep then 0 else keep)))) (a.1.1.length:Int)) (some ((a.1.1.take (aj (d.2+(if (aj ((d.1.length:Int)-d.2))<(if 0>keep then 0 else keep) then (aj ((d.1.length:Int)-d.2)) else (if 0>keep then 0 else keep)))).toNat,aj (d.2+(if (aj ((d.1.length:Int)-d.2))<(if 0>keep then 0 else keep) then (aj ((d.1.length:Int)-d.2)) else (if 0>keep then 0 else keep)))),()))) (some (a.1,())):=by kernel_rfl
def TD:Any:=.one ⟨aBE,oJ,1,fun x=>Ng F0 x.1 x.2.1⟩
def an8:ba 94 TD:=aw ZI ⟨Ai,r0,trivial⟩ func94 ab (by kernel_rfl)
def Rk: Option (Args Bl):=bn aB F ab f172 [] Bl 2 (())
def akC: Rk F= some ((0,0,(0,ak,[]),ak),()):=by kernel_rfl
def Qb:Any:=.one ⟨[],Bl,2,fun x=>Rk F0⟩
def akD:ba 172 Qb:=aw aB trivial func172 ab (by kernel_rfl)
def ZJ:=[(73,jV),(118,h7),(119,kp),(120,vK)]
def Nh (c:D1)(b:List Int):=bn ZJ F ab f174 Sf ahQ 2 (c,b,())
def an9 (c:D1)(b:List Int):Nh F c b=(bF F0 (b,0,false)).bind fun d=>(bF F0 d.2.1).bind fun e=>(lX F0 e.2.1).bind fun f=>(fN F0 f.2.1).bind fun a=>br a.2.1.2.2 (some ((0,0,(0,ak,[]),ak),false,())) (br (a.2.1.2.1 != (b.length:Int)) (some ((0,0,(0,ak,[]),ak),false,())) ((km F0 c (d.1.1,e.1.1,f.1.1,a.1.1)).bind fun g=>br (!g.1) (some ((0,0,(0,ak,[]),ak),false,())) (some ((d.1.1,e.1.1,f.1.1,a.1.1),true,())))):=by kernel_rfl
def TE:Any:=.one ⟨Sf,ahQ,2,fun x=>Nh F0 x.1 x.2.1⟩
def aoa:ba 174 TE:=aw ZJ ⟨pV,mR,sW,MD,trivial⟩ func174 ab (by kernel_rfl)
def vr:=[(172,Qb),(173,Cj),(174,TE)]
def vu:Nat->Option Hint:=look [(3,{live:=[1,2,4,6,7],Bg:=[(4,4,3,.int .i64)],rl:=[4,5]})]
def kC (b:List Int)(i c a j k l:Int)(m o:ByteArray)(s d e:Int)(f g:ByteArray)(p h:List Int):= di 51 [(1,ih 5 (.int .u8) b),b9 2,b9 4,b9 6,(7,bq i)] [(2,[an c,an a]),(4,[an j,an k,an l,.str m,.own 1000000 none,.str o]),(6,[an s,an d,an e,.str f,.own 1000001 none,.str g])] [ay 1000000 3 (.int .i64) p,ay 1000001 3 (.int .i64) h]
def kD (a b c d:Int)(e f:ByteArray)(g:List Int):= di 51 [b9 4,(5,bq a)] [(4,[an b,an c,an d,.str e,.own 1000000 none,.str f])] [ay 1000000 3 (.int .i64) g]
def nW (a:St):Option U:=fy vr F vu [.r,.r,.r,.b,.i] f96 J n a
def pn:=ig vr F vu [.r,.r,.r,.b] f96 ar0 2
def E9 (b:List Int)(e c k l m o:Int)(p q:ByteArray)(s f g:Int)(h i:ByteArray)(r j:List Int):nW F J (n+1) (kC b e c k l m o p q s f g h i r j)=(mS F0 b e).bind fun a=>br (!a.2.2.1) (J .ret (kD e s f g h i j)) (br (decide (a.2.1>=(b.length:Int))) (J .ret (kD e s f g h i j)) (ck (bO a.2.1 (b.length:Int)) (br ((aN b a.2.1 0) != 10) (J .ret (kD e s f g h i j)) (ck (decide ((a.1.size:Int)<=F.mem)) ((Nh F0 (c,k) (bytesOf a.1)).bind fun d=>br (!d.2.1) (J .ret (kD e s f g h i j)) (nW F J n (kC b (aj (a.2.1+1)) c k l m o p q d.1.1 d.1.2.1 d.1.2.2.1.1 d.1.2.2.1.2.1 d.1.2.2.2 r d.1.2.2.1.2.2))))))):=by kernel_rfl
def KK (a b c d:Int)(e f:ByteArray)(g:List Int):pn F .ret (kD a b c d e f g)=some ((b,c,(d,e,g),f),a,()):=by kernel_rfl
def tG (c:D1)(b:List Int):=bn vr F vu f96 Sf ar0 2 (c,b,())
def agt (c:D1)(b:List Int):tG F c b=(Rk F0).bind fun a=>nW F (pn F) F.n (kC b 0 c.1 c.2 0 0 0 ak ak a.1.1 a.1.2.1 a.1.2.2.1.1 a.1.2.2.1.2.1 a.1.2.2.2 [] a.1.2.2.1.2.2):=by kernel_rfl
def AZ:Any:=.one ⟨Sf,ar0,2,fun x=>tG F0 x.1 x.2.1⟩
def Qc:ba 96 AZ:=aw vr ⟨akD,S9,aoa,trivial⟩ func96 vu (by kernel_rfl)
def aid:=[(34,bX),(70,bM),(96,AZ)]
def aie:Nat->Option Hint:=look [(900005,{live:=[],mat:=[(3,0,cl),(5,0,K12)]})]
def Qd (c:D1)(r:bb):=bn aid F aie f95 wX Si 1 (c,r,())
def auD (c:D1)(r:bb):Qd F c r=(cq F0 c r).bind fun b=>br (!b.1) ((az F0 r).bind fun d=>some (d.1,())) ((tG F0 c r.2.2.2.2.2.2.1.1).bind fun a=>ck (QW 0 a.2.1 (r.2.2.2.2.2.2.1.1.length:Int)) (ck (eA F 0 ((r.2.2.2.2.2.2.1.1.take a.2.1.toNat).drop (0:Int).toNat).length 1) (some ((r.1,(if 60<(if 1>(if (aj (a.1.2.2.1.1+1))>a.1.1 then (aj (a.1.2.2.1.1+1)) else a.1.1) then 1 else (if (aj (a.1.2.2.1.1+1))>a.1.1 then (aj (a.1.2.2.1.1+1)) else a.1.1)) then 60 else (if 1>(if (aj (a.1.2.2.1.1+1))>a.1.1 then (aj (a.1.2.2.1.1+1)) else a.1.1) then 1 else (if (aj (a.1.2.2.1.1+1))>a.1.1 then (aj (a.1.2.2.1.1+1)) else a.1.1)),(0,a.1,[],[],([]++((r.2.2.2.2.2.2.1.1.take a.2.1.toNat).drop (0:Int).toNat),a.2.1),[]))),())))):=by kernel_rfl
def ZK:Any:=.one ⟨wX,Si,1,fun x=>Qd F0 x.1 x.2.1⟩
def auE:ba 95 ZK:=aw aid ⟨ct,b7,Qc,trivial⟩ func95 aie (by kernel_rfl)
def Wg:=[(70,bM),(88,N6),(91,Qa),(92,Nf),(93,ZH),(94,TD),(95,ZK)]
abbrev aEx:List (Ty×Bool):=[(K1,true),(cl,true),(K45,true)]
def Ix (c:D1)(r:bb)(d:D45):=bn Wg F ab f46 aEx an6 0 (c,r,d,())
def akE (c:D1)(r:bb)(d:D45):Ix F c r d=(az F0 r).bind fun a=>br (d.1==1) ((Iw F0 c r).bind fun b=>some (b.1,b.2.1,())) (br (d.1==6) ((Ee F0 c r).bind fun e=>some (e.1,e.2.1,())) (br (d.1==7) ((Xj F0 c r).bind fun f=>br (!f.2.1) (some (r,3,())) (some (f.1,0,()))) (br (d.1==8) ((Ng F0 r.2.2.2.2.2.2.1 d.2.2.1).bind fun h=>(Qd F0 c (a.1.1,a.1.2.1,a.1.2.2.1,a.1.2.2.2.1,a.1.2.2.2.2.1,a.1.2.2.2.2.2.1,h.1,a.1.2.2.2.2.2.2.2)).bind fun i=>some (i.1,0,())) ((IV F0 c r d.2.2.2).bind fun g=>br g.2.1 (br (!(d.2.2.2.1==4)) (some (r,3,())) (some (g.1,0,()))) (some (r,3,())))))):=by kernel_rfl
def Qe:Any:=.one ⟨aEx,an6,0,fun x=>Ix F0 x.1 x.2.1 x.2.2.1⟩
def akF:ba 46 Qe:=aw Wg ⟨b7,adA,akB,ags,auC,an8,auE,trivial⟩ func46 ab (by kernel_rfl)
def ar2:=[(28,iM),(32,jr),(42,bA),(43,PH),(44,MS),(45,P4),(46,Qe)]
def akT (w:nz)(d:D45):=bn ar2 F ab f15 ahZ adf 0 (w,d,())
def azk (w:nz)(d:D45):akT F w d=(cK F0 w).bind fun h=>br (!h.1) (some (((0,0),[],[],[],[]),1,())) ((aY F0 d.1 1 10).bind fun i=>br (!i.1) (some (((0,0),[],[],[],[]),1,())) ((Ib F0 w d).bind fun j=>br (!j.1) ((aS F0 w).bind fun k=>some (k.1,2,())) ((aS F0 w).bind fun c=>br (d.1==2) ((DR F0 w d.2.1).bind fun f=>br (f.2.1==0) ((cK F0 f.1).bind fun e=>br (!e.1) (br (4 != 0) ((aS F0 w).bind fun b=>some (b.1,4,())) (some (f.1,0,()))) (br (f.2.1 != 0) ((aS F0 w).bind fun b=>some (b.1,f.2.1,())) (some (f.1,0,())))) (br (f.2.1 != 0) ((aS F0 w).bind fun b=>some (b.1,f.2.1,())) (some (f.1,0,())))) (br (d.1==3) ((nn F0 w d).bind fun a=>br (a.2.1==0) ((cK F0 a.1).bind fun e=>br (!e.1) (br (4 != 0) ((aS F0 w).bind fun b=>some (b.1,4,())) (some (a.1,0,()))) (br (a.2.1 != 0) ((aS F0 w).bind fun b=>some (b.1,a.2.1,())) (some (a.1,0,())))) (br (a.2.1 != 0) ((aS F0 w).bind fun b=>some (b.1,a.2.1,())) (some (a.1,0,())))) (br (d.1==4) ((nn F0 w d).bind fun a=>br (a.2.1==0) ((cK F0 a.1).bind fun e=>br (!e.1) (br (4 != 0) ((aS F0 w).bind fun b=>some (b.1,4,())) (some (a.1,0,()))) (br (a.2.1 != 0) ((aS F0 w).bind fun b=>some (b.1,a.2.1,())) (some (a.1,0,())))) (br (a.2.1 != 0) ((aS F0 w).bind fun b=>some (b.1,a.2.1,())) (some (a.1,0,())))) (br (d.1==5) ((nn F0 w d).bind fun a=>br (a.2.1==0) ((cK F0 a.1).bind fun e=>br (!e.1) (br (4 != 0) ((aS F0 w).bind fun b=>some (b.1,4,())) (some (a.1,0,()))) (br (a.2.1 != 0) ((aS F0 w).bind fun b=>some (b.1,a.2.1,())) (some (a.1,0,())))) (br (a.2.1 != 0) ((aS F0 w).bind fun b=>some (b.1,a.2.1,())) (some (a.1,0,())))) (br (d.1==10) ((nn F0 w d).bind fun a=>br (a.2.1==0) ((cK F0 a.1).bind fun e=>br (!e.1) (br (4 != 0) ((aS F0 w).bind fun b=>some (b.1,4,())) (some (a.1,0,()))) (br (a.2.1 != 0) ((aS F0 w).bind fun b=>some (b.1,a.2.1,())) (some (a.1,0,())))) (br (a.2.1 != 0) ((aS F0 w).bind fun b=>some (b.1,a.2.1,())) (some (a.1,0,())))) (ck (bO d.2.1 (w.2.2.1.length:Int)) ((Ix F0 w.1 (aN w.2.2.1 d.2.1 cl.aC) d).bind fun g=>ck (bO d.2.1 (c.1.2.2.1.length:Int)) (br (g.2.1==0) ((cK F0 (c.1.1,c.1.2.1,c.1.2.2.1.set d.2.1.toNat g.1,c.1.2.2.2)).bind fun e=>br (!e.1) (br (4 != 0) ((aS F0 w).bind fun b=>some (b.1,4,())) (some ((c.1.1,c.1.2.1,c.1.2.2.1.set d.2.1.toNat g.1,c.1.2.2.2),0,()))) (br (g.2.1 != 0) ((aS F0 w).bind fun b=>some (b.1,g.2.1,())) (some ((c.1.1,c.1.2.1,c.1.2.2.1.set d.2.1.toNat g.1,c.1.2.2.2),0,())))) (br (g.2.1 != 0) ((aS F0 w).bind fun b=>some (b.1,g.2.1,())) (some ((c.1.1,c.1.2.1,c.1.2.2.1.set d.2.1.toNat g.1,c.1.2.2.2),0,()))))))))))))):=by kernel_rfl
def aif:Any:=.one ⟨ahZ,adf,0,fun x=>akT F0 x.1 x.2.1⟩
def azl:ba 15 aif:=aw ar2 ⟨nQ,o8,bT,akb,af5,akv,akF,trivial⟩ func15 ab (by kernel_rfl)
end
end Go.Am.Tryz
namespace Go.Am.Tryz
open Go.Am Go.Proofs Go.Proofs.Tryz
noncomputable section
variable {U:Type} (F:oH) (J:Ex->St->Option U) (n:Nat)
def adH:=[(13,sf)]
def Rl (s t:ByteArray):=bn adH F ab f47 Sr aT 1 (s,t,())
def aqX (s t:ByteArray):Rl F s t=(ng F0 s t).bind fun a=>br a.1 (some (true,())) ((ng F0 t s).bind fun b=>some (b.1,())):=by kernel_rfl
def Wh:Any:=.one ⟨Sr,aT,1,fun x=>Rl F0 x.1 x.2.1⟩
def aqY:ba 47 Wh:=aw adH ⟨F7,trivial⟩ func47 ab (by kernel_rfl)
def hQ:=[(10,jX),(28,iM),(47,Wh)]
def hS:Nat->Option Hint:=look [(4,{live:=[1,11,12,13],rl:=[2]}),(7,{live:=[1,4,11,12,13,18,19,20],xl:=[1,11,12,13],rl:=[2]})]
def kE (a h i j k w b:Int)(c:List Int)(d:List bb)(e:List b0)(f:List bS)(l g:List Int):= di 42 [b9 1,(4,bq a),(11,.v (.c (.own 1000000 none))),(12,bq h),(13,bq i),(18,.v (.c (.own 1000001 none))),(19,bq j),(20,bq k)] [(1,[an w,an b,.ro false 3 (.int .i64) c,.ro false 50 (cl) d,.ro false 102 (eI) e,.ro false 95 (cZ) f])] [ay 1000000 3 (.int .i64) l,ay 1000001 3 (.int .i64) g]
def Ni (a:Bool):= b3 42 [(2,NR a)]
def KL (f g w a:Int)(b:List Int)(c:List bb)(d:List b0)(e:List bS)(h:List Int):= di 42 [b9 1,(11,.v (.c (.own 1000000 none))),(12,bq f),(13,bq g)] [(1,[an w,an a,.ro false 3 (.int .i64) b,.ro false 50 (cl) c,.ro false 102 (eI) d,.ro false 95 (cZ) e])] [ay 1000000 3 (.int .i64) h]
def nX (a:St):Option U:=fy hQ F hS [.r,.r,.l,.r,.b,.i,.r,.r,.l,.b,.r,.r,.b,.i] f16 J n a
def kF:Ex->St->Option U:=abL Tryz.prog (look hQ) F hS [.r,.r,.l,.b,.r,.r,.b] (sub [.r,.r,.l,.r,.b,.i] (gX f16)) (itk Tryz.prog (look hQ) F hS (sub [.r,.r,.l,.r,.b,.i] (gX f16)) J n)
def kG (f g w a:Int)(b:List Int)(c:List bb)(d:List b0)(e:List bS)(h:List Int):= di 42 [b9 1,(11,.v (.c (.own 1000000 none))),(12,bq f),(13,bq g)] [(1,[an w,an a,.ro false 3 (.int .i64) b,.ro false 50 (cl) c,.ro false 102 (eI) d,.ro false 95 (cZ) e])] [ay 1000000 3 (.int .i64) h]
def A0 (a:Bool):= b3 42 [(2,NR a)]
def KM   := b3 42 []
def nY (a:St):Option U:=fy hQ F hS [.r,.r,.l,.r,.b,.i] f16 J n a
def po:=ig hQ F hS [.r,.r,.l,.r,.b] f16 aT 1
def Fa (a i j k c w e:Int)(f:List Int)(b:List bb)(g:List b0)(h:List bS)(l d:List Int):nX F J (n+1) (kE a i j k c w e f b g h l d)=br (decide (c<k)) (ck (bO c (d.length:Int)) (ck (bO a (b.length:Int)) (ck (bO (aN d c 0) (b.length:Int)) ((Rl F0 (aN b a cl.aC).2.2.2.1.2.2.2 (aN b (aN d c 0) cl.aC).2.2.2.1.2.2.2).bind fun m=>br (!m.1) (J .ret (Ni false)) (nX F J n (kE a i j k (aj (c+1)) w e f b g h l d)))))) (J (.exit 2) (KL i j w e f b g h l)):=by kernel_rfl
def Fb (h a w c:Int)(d:List Int)(e:List bb)(f:List b0)(g:List bS)(b:List Int):nY F J (n+1) (kG h a w c d e f g b)=br (decide (a<h)) (ck (bO a (b.length:Int)) ((ku F0 ((w,c),d,e,f,g)).bind fun i=>nX F (kF F J n) F.n (kE (aN b a 0) h a (i.1.length:Int) 0 w c d e f g b i.1))) (J (.exit 0) (KM)):=by kernel_rfl
def aaZ (a:Bool):kF F J n .ret (Ni a)=J .ret (A0 a):=by kernel_rfl
def X4 (f g w a:Int)(b:List Int)(c:List bb)(d:List b0)(e:List bS)(h:List Int):kF F J n (.exit 2) (KL f g w a b c d e h)=nY F J n (kG f (aj (g+1)) w a b c d e h):=by kernel_rfl
def aa0 (a:Bool):po F .ret (A0 a)=some (a,()):=by kernel_rfl
def X5: po F (.exit 0) (KM)=some (true,()):=by kernel_rfl
def Ef (w:nz):=bn hQ F hS f16 eU aT 1 (w,())
def agu (w:nz):Ef F w=(cK F0 w).bind fun b=>br (!b.1) (some (false,())) ((ku F0 w).bind fun a=>nY F (po F) F.n (kG (a.1.length:Int) 0 w.1.1 w.1.2 w.2.1 w.2.2.1 w.2.2.2.1 w.2.2.2.2 a.1)):=by kernel_rfl
def Nj:Any:=.one ⟨eU,aT,1,fun x=>Ef F0 x.1⟩
def agv:ba 16 Nj:=aw hQ ⟨p4,nQ,aqY,trivial⟩ func16 hS (by kernel_rfl)
def aih:=[(34,bX),(96,AZ),(97,AE)]
def Xk (c:D1)(r:bb):=bn aih F ab f48 wX aT 1 (c,r,())
def auF (c:D1)(r:bb):Xk F c r=(tG F0 c r.2.2.2.2.2.2.1.1).bind fun a=>(cq F0 c r).bind fun b=>br b.1 ((tw F0 a.1 r.2.2.2.1).bind fun d=>br d.1 (some (a.2.1==(r.2.2.2.2.2.2.1.1.length:Int),())) (some (false,()))) (some (false,())):=by kernel_rfl
def ZL:Any:=.one ⟨wX,aT,1,fun x=>Xk F0 x.1 x.2.1⟩
def auG:ba 48 ZL:=aw aih ⟨ct,Qc,PT,trivial⟩ func48 ab (by kernel_rfl)
def fP:=[(10,jX),(28,iM),(48,ZL)]
def fQ:Nat->Option Hint:=look [(4,{live:=[1,11,12,13],rl:=[2]}),(9,{live:=[1,4,11,12,13,27,28,29],xl:=[1,11,12,13],rl:=[2]})]
def fR (a g h:Int)(i:List bS)(j k w b:Int)(c:List Int)(d:List bb)(e:List b0)(f:List bS)(l:List Int):= di 51 [b9 1,(4,bq a),(11,.v (.c (.own 1000000 none))),(12,bq g),(13,bq h),(27,ih 95 (cZ) i),(28,bq j),(29,bq k)] [(1,[an w,an b,.ro false 3 (.int .i64) c,.ro false 50 (cl) d,.ro false 102 (eI) e,.ro false 95 (cZ) f])] [ay 1000000 3 (.int .i64) l]
def KN (a:Bool):= b3 51 [(2,NR a)]
def G9 (f g w a:Int)(b:List Int)(c:List bb)(d:List b0)(e:List bS)(h:List Int):= di 51 [b9 1,(11,.v (.c (.own 1000000 none))),(12,bq f),(13,bq g)] [(1,[an w,an a,.ro false 3 (.int .i64) b,.ro false 50 (cl) c,.ro false 102 (eI) d,.ro false 95 (cZ) e])] [ay 1000000 3 (.int .i64) h]
def iQ (a:St):Option U:=fy fP F fQ [.r,.r,.l,.r,.b,.i,.r,.r,.l,.b,.r,.r,.r,.b,.i] f17 J n a
def ju:Ex->St->Option U:=abL Tryz.prog (look fP) F fQ [.r,.r,.l,.b,.r,.r,.r,.b] (sub [.r,.r,.l,.r,.b,.i] (gX f17)) (itk Tryz.prog (look fP) F fQ (sub [.r,.r,.l,.r,.b,.i] (gX f17)) J n)
def jv (f g w a:Int)(b:List Int)(c:List bb)(d:List b0)(e:List bS)(h:List Int):= di 51 [b9 1,(11,.v (.c (.own 1000000 none))),(12,bq f),(13,bq g)] [(1,[an w,an a,.ro false 3 (.int .i64) b,.ro false 50 (cl) c,.ro false 102 (eI) d,.ro false 95 (cZ) e])] [ay 1000000 3 (.int .i64) h]
def np (a:Bool):= b3 51 [(2,NR a)]
def Ha   := b3 51 []
def me (a:St):Option U:=fy fP F fQ [.r,.r,.l,.r,.b,.i] f17 J n a
def nq:=ig fP F fQ [.r,.r,.l,.r,.b] f17 aT 1
def Bz (a i j:Int)(d:List bS)(k b w e:Int)(f:List Int)(c:List bb)(g:List b0)(h:List bS)(l:List Int):iQ F J (n+1) (fR a i j d k b w e f c g h l)=br (decide (b<k)) (ck (bO b (d.length:Int)) (br ((aN d b cZ.aC).2.2==a) (ck (bO a (c.length:Int)) (br (decide ((aN c a cl.aC).2.2.2.1.1<(aN d b cZ.aC).1)) (J .ret (KN false)) (iQ F J n (fR a i j d k (aj (b+1)) w e f c g h l)))) (iQ F J n (fR a i j d k (aj (b+1)) w e f c g h l)))) (J (.exit 2) (G9 i j w e f c g h l)):=by kernel_rfl
def BA (f a w e:Int)(g:List Int)(c:List bb)(h:List b0)(d:List bS)(b:List Int):me F J (n+1) (jv f a w e g c h d b)=br (decide (a<f)) (ck (bO a (b.length:Int)) (ck (bO (aN b a 0) (c.length:Int)) ((Xk F0 (w,e) (aN c (aN b a 0) cl.aC)).bind fun i=>br (!i.1) (J .ret (np false)) (iQ F (ju F J n) F.n (fR (aN b a 0) f a d (d.length:Int) 0 w e g c h d b))))) (J (.exit 0) (Ha)):=by kernel_rfl
def X6 (a:Bool):ju F J n .ret (KN a)=J .ret (np a):=by kernel_rfl
def Wi (f g w a:Int)(b:List Int)(c:List bb)(d:List b0)(e:List bS)(h:List Int):ju F J n (.exit 2) (G9 f g w a b c d e h)=me F J n (jv f (aj (g+1)) w a b c d e h):=by kernel_rfl
def X7 (a:Bool):nq F .ret (np a)=some (a,()):=by kernel_rfl
def Wj: nq F (.exit 0) (Ha)=some (true,()):=by kernel_rfl
def A2 (w:nz):=bn fP F fQ f17 eU aT 1 (w,())
def adI (w:nz):A2 F w=(cK F0 w).bind fun b=>br (!b.1) (some (false,())) ((ku F0 w).bind fun a=>me F (nq F) F.n (jv (a.1.length:Int) 0 w.1.1 w.1.2 w.2.1 w.2.2.1 w.2.2.2.1 w.2.2.2.2 a.1)):=by kernel_rfl
def KO:Any:=.one ⟨eU,aT,1,fun x=>A2 F0 x.1⟩
def adJ:ba 17 KO:=aw fP ⟨p4,nQ,auG,trivial⟩ func17 fQ (by kernel_rfl)
def dW:=[(5,ab9),(6,GK),(7,MH),(8,yq),(13,sf),(15,aif),(16,Nj),(17,KO)]
def dX:Nat->Option Hint:=look [(13,{live:=[4,5,9],roB:=[(5,2),(5,3),(5,4),(5,5)],xl:=[5],rl:=[2]}),(19,{live:=[4,5,9,10,12],xl:=[4,5,9,10],rl:=[2]})]
def fC (m:List D45)(i k v a:Int)(b:List Int)(c:List bb)(d:List b0)(e:List bS)(next f:Int)(g:List Int)(h:List bb)(j:List b0)(l:List bS):= di 137 [(4,ih 67 (K45) m),b9 5,(9,bq i),b9 10,(12,bq k)] [(5,[an v,an a,.ro false 3 (.int .i64) b,.ro false 50 (cl) c,.ro false 102 (eI) d,.ro false 95 (cZ) e]),(10,[an next,an f,.ro false 3 (.int .i64) g,.ro false 50 (cl) h,.ro false 102 (eI) j,.ro false 95 (cZ) l])] []
def jA (a:Bool):= b3 137 [(2,NR a)]
def nr (l:List D45)(i v a:Int)(b:List Int)(c:List bb)(d:List b0)(e:List bS)(next f:Int)(g:List Int)(h:List bb)(j:List b0)(k:List bS):= di 137 [(4,ih 67 (K45) l),b9 5,(9,bq i),b9 10] [(5,[an v,an a,.ro false 3 (.int .i64) b,.ro false 50 (cl) c,.ro false 102 (eI) d,.ro false 95 (cZ) e]),(10,[an next,an f,.ro false 3 (.int .i64) g,.ro false 50 (cl) h,.ro false 102 (eI) j,.ro false 95 (cZ) k])] []
def h8 (a:St):Option U:=fy dW F dX [.r,.r,.r,.r,.r,.r,.r,.r,.l,.r,.b,.i,.r,.l,.b,.r,.r,.l,.r,.b,.i] f4 J n a
def jB:Ex->St->Option U:=abL Tryz.prog (look dW) F dX [.r,.l,.b,.r,.r,.l,.r,.b] (sub [.r,.r,.r,.r,.r,.r,.r,.r,.l,.r,.b,.i] (gX f4)) (itk Tryz.prog (look dW) F dX (sub [.r,.r,.r,.r,.r,.r,.r,.r,.l,.r,.b,.i] (gX f4)) J n)
def dq (f:List D45)(i v a:Int)(b:List Int)(c:List bb)(d:List b0)(e:List bS):= di 137 [(4,ih 67 (K45) f),b9 5,(9,bq i)] [(5,[an v,an a,.ro false 3 (.int .i64) b,.ro false 50 (cl) c,.ro false 102 (eI) d,.ro false 95 (cZ) e])] []
def BB (a:Bool):= b3 137 [(2,NR a)]
def A3 (v a:Int)(b:List Int)(c:List bb)(d:List b0)(e:List bS):= di 137 [b9 5] [(5,[an v,an a,.ro false 3 (.int .i64) b,.ro false 50 (cl) c,.ro false 102 (eI) d,.ro false 95 (cZ) e])] []
def dY (a:St):Option U:=fy dW F dX [.r,.r,.r,.r,.r,.r,.r,.r,.l,.r,.b,.i] f4 J n a
def cH:=ig dW F dX [.r,.r,.r,.r,.r,.r,.r,.r,.l,.r,.b] f4 aT 1
def tH (c:List D45)(i k v d:Int)(e:List Int)(a:List bb)(f:List b0)(g:List bS)(next h:Int)(j:List Int)(b:List bb)(l:List b0)(m:List bS):h8 F J (n+1) (fC c i k v d e a f g next h j b l m)=br (decide (k<(a.length:Int))) (ck (bO i (c.length:Int)) (br ((aN c i K45.aC).1 != 8) (ck (bO k (a.length:Int)) (ck (bO k (b.length:Int)) (br (decide ((aN b k cl.aC).2.2.2.1.1<(aN a k cl.aC).2.2.2.1.1)) (J .ret (jA false)) (br (decide ((aN b k cl.aC).2.2.2.1.2.1<(aN a k cl.aC).2.2.2.1.2.1)) (J .ret (jA false)) (br (decide ((aN b k cl.aC).2.2.2.1.2.2.1.1<(aN a k cl.aC).2.2.2.1.2.2.1.1)) (J .ret (jA false)) ((ng F0 (aN b k cl.aC).2.2.2.1.2.2.2 (aN a k cl.aC).2.2.2.1.2.2.2).bind fun o=>br (!o.1) (J .ret (jA false)) (h8 F J n (fC c i (aj (k+1)) v d e a f g next h j b l m)))))))) (J (.exit 2) (nr c i v d e a f g next h j b l m)))) (J (.exit 2) (nr c i v d e a f g next h j b l m)):=by kernel_rfl
def tI (c:List D45)(i v d:Int)(e:List Int)(f:List bb)(g:List b0)(b:List bS):dY F J (n+1) (dq c i v d e f g b)=br (decide (i<(c.length:Int))) (ck (bO i (c.length:Int)) ((akT F0 ((v,d),e,f,g,b) (aN c i K45.aC)).bind fun a=>br (a.2.1==1) (J .ret (BB false)) (br (decide ((a.1.2.2.2.2.length:Int)<(b.length:Int))) (J .ret (BB false)) (h8 F (jB F J n) F.n (fC c i 0 v d e f g b a.1.1.1 a.1.1.2 a.1.2.1 a.1.2.2.1 a.1.2.2.2.1 a.1.2.2.2.2))))) (J (.exit 0) (A3 v d e f g b)):=by kernel_rfl
def wP (f:List D45)(i v g:Int)(h:List Int)(j:List bb)(k:List b0)(l:List bS)(next a:Int)(b:List Int)(c:List bb)(d:List b0)(e:List bS):jB F J n (.exit 2) (nr f i v g h j k l next a b c d e)=dY F J n (dq f (aj (i+1)) next a b c d e):=by kernel_rfl
def Qf (v a:Int)(b:List Int)(c:List bb)(d:List b0)(e:List bS):cH F (.exit 0) (A3 v a b c d e)=(Ef F0 ((v,a),b,c,d,e)).bind fun f=>br f.1 ((A2 F0 ((v,a),b,c,d,e)).bind fun g=>some (g.1,())) (some (false,())):=by kernel_rfl
def pq (a:List Int):=bn dW F dX f4 ld aT 1 (a,())
def Wk (c:List Int):pq F c=(amb F0 c).bind fun d=>br d.1 (some (true,())) ((uT F0 c).bind fun b=>(tp F0 b.1.1 b.1.2.1).bind fun a=>(kM F0 b.1.1 b.1.2.1).bind fun e=>br (!(a.2.1==e.2.1)) (some (false,())) (br (!a.2.1) (some (true,())) (br (decide ((b.2.1.length:Int)>60)) (ck (QW 0 60 (b.2.1.length:Int)) (dY F (cH F) F.n (dq ((b.2.1.take (60:Int).toNat).drop (0:Int).toNat) 0 a.1.1.1 a.1.1.2 a.1.2.1 a.1.2.2.1 a.1.2.2.2.1 a.1.2.2.2.2))) (dY F (cH F) F.n (dq b.2.1 0 a.1.1.1 a.1.1.2 a.1.2.1 a.1.2.2.1 a.1.2.2.2.1 a.1.2.2.2.2))))):=by kernel_rfl
def TU:Any:=.one ⟨ld,aT,1,fun x=>pq F0 x.1⟩
def Wl:ba 4 TU:=aw dW ⟨awy,aaI,afW,OO,F7,azl,agv,adJ,trivial⟩ func4 dX (by kernel_rfl)
end
end Go.Am.Tryz
