/- No condition. -/
import Derived.Test.YtaheoongenkdbaaGreatDoorQsXJG6
set_option linter.all false
set_option maxRecDepth 100000
namespace Go.Am.Tryz
open Go.Am Go.Proofs Go.Proofs.Tryz
noncomputable section
variable {U:Type} (F:nT) (J:Ex->St->Option U) (n:Nat)
def ur:=[(79,Hm)]
def uu:Nat->Option Hint:=look [(3,{live:=[3,5,10,11,12],mat:=[(5,63,K4)],roB:=[(3,0),(3,1)],xl:=[5],rl:=[4]})]
def gw (b:List D4)(c d:Int)(l a:List Int)(e:List D4):= di 38 [b0 3,(5,.v (.c (.own 1000000 none))),(10,hM 63 (K4) b),(11,bp c),(12,bp d)] [(3,[.ro false 3 (.int .i64) l,.ro false 3 (.int .i64) a])] [ax 1000000 63 K4 e]
def u5 (a:List D4):= di 38 [(5,.v (.c (.own 1000000 none)))] [] [ax 1000000 63 K4 a]
def jt (a:St):Option U:=fp ur F uu [.r,.r,.l,.r,.b,.i] f224 J n a
def y8:=gU ur F uu [.r,.r,.l,.r,.b] f224 iP 2
def DY (b:List D4)(e a:Int)(l f:List Int)(c:List D4):jt F J (n+1) (gw b e a l f c)=br (decide (a<e)) (ck (bN a (b.length:Int)) (br ((c.length:Int)==2) (J (.exit 0) (u5 c)) ((JB F0 (l,f) (ay b a K4.aq)).bind fun d=>br (d.2.1==0) (ck (ee F c.length [(ay b a K4.aq)].length 32) (jt F J n (gw b e (ai (a+1)) d.1.1 d.1.2 (c++[(ay b a K4.aq)])))) (br (d.2.1==4) (ck (ee F c.length [(ay b a K4.aq)].length 32) (jt F J n (gw b e (ai (a+1)) d.1.1 d.1.2 (c++[(ay b a K4.aq)])))) (jt F J n (gw b e (ai (a+1)) d.1.1 d.1.2 c)))))) (J (.exit 0) (u5 c)):=by kernel_rfl
def F1 (a:List D4):y8 F (.exit 0) (u5 a)=some (a,()):=by kernel_rfl
def nI (p:D5)(l:D43):=bh ur F uu f224 af9 iP 2 (p,l,())
def aeQ (p:D5)(l:D43):nI F p l=jt F (y8 F) F.n (gw p (p.length:Int) 0 l.1 l.2 []):=by kernel_rfl
def L7:Any:=.one ⟨af9,iP,2,fun x=>nI F0 x.1 x.2.1⟩
def aeR:aX 224 L7:=aw ur ⟨UY,trivial⟩ func224 uu (by kernel_rfl)
def y9:=[(139,hV),(260,EU),(334,Ns)]
def zs:Nat->Option Hint:=look [(3,{live:=[3,6,7,8],mat:=[(3,9,.str)],xl:=[3],rl:=[2]})]
def rE (a:List D4)(b c:Int)(d:List ByteArray):= di 23 [(3,.v (.c (.own 1000000 none))),(6,hM 63 (K4) a),(7,bp b),(8,bp c)] [] [ax 1000000 9 (.str) d]
def O1 (a:ByteArray):= b2 23 [(2,W8 a)]
def L8 (a:List ByteArray):= di 23 [(3,.v (.c (.own 1000000 none)))] [] [ax 1000000 9 (.str) a]
def zv (a:St):Option U:=fp y9 F zs [.r,.r,.l,.r,.b,.i] f311 J n a
def rF:=gU y9 F zs [.r,.r,.l,.r,.b] f311 dt 1
def F2 (b:List D4)(d a:Int)(c:List ByteArray):zv F J (n+1) (rE b d a c)=br (decide (a<d)) (ck (bN a (b.length:Int)) ((nG F0 (ay b a K4.aq)).bind fun f=>br (!f.1) (J .ret (O1 aj)) ((DJ F0 (ay b a K4.aq)).bind fun e=>ck (ee F c.length [e.1].length 16) (zv F J n (rE b d (ai (a+1)) (c++[e.1])))))) (J (.exit 0) (L8 c)):=by kernel_rfl
def acg (a:ByteArray):rF F .ret (O1 a)=some (a,()):=by kernel_rfl
def ZG (a:List ByteArray):rF F (.exit 0) (L8 a)=(strings_Join F0 a (ByteArray.mk #[44])).bind fun b=>some (b.1,()):=by kernel_rfl
def Hn (a:D5):=bh y9 F zs f311 iP dt 1 (a,())
def aiO (a:D5):Hn F a=zv F (rF F) F.n (rE a (a.length:Int) 0 []):=by kernel_rfl
def O2:Any:=.one ⟨iP,dt,1,fun x=>Hn F0 x.1⟩
def aiP:aX 311 O2:=aw y9 ⟨me,Uk,ahd,trivial⟩ func311 zs (by kernel_rfl)
def Da:=[(39,eu),(139,hV),(215,tP),(311,O2)]
def Db:Nat->Option Hint:=look [(2,{live:=[0,1,2,10,11,12],xl:=[0,1,2],rl:=[6]})]
def uv (a:ByteArray)(b:Int)(c d:List D4)(e f:Int):= b2 38 [(0,W8 a),(1,bp b),(2,hM 63 (K4) c),(10,hM 63 (K4) d),(11,bp e),(12,bp f)]
def Sm (a:ByteArray):= b2 38 [(6,W8 a)]
def O3 (a:ByteArray)(b:Int)(c:List D4):= b2 38 [(0,W8 a),(1,bp b),(2,hM 63 (K4) c)]
def Dc (a:St):Option U:=fp Da F Db [.r,.l,.r,.b,.i] f269 J n a
def uw:=gU Da F Db [.r,.l,.r,.b] f269 dt 1
def JG (c:ByteArray)(d:Int)(e b:List D4)(f a:Int):Dc F J (n+1) (uv c d e b f a)=br (decide (a<f)) (ck (bN a (b.length:Int)) ((nG F0 (ay b a K4.aq)).bind fun g=>br (!g.1) (J .ret (Sm aj)) (Dc F J n (uv c d e b f (ai (a+1)))))) (J (.exit 0) (O3 c d e)):=by kernel_rfl
def aeS (a:ByteArray):uw F .ret (Sm a)=some (a,()):=by kernel_rfl
def ach (a:ByteArray)(e:Int)(d:List D4):uw F (.exit 0) (O3 a e d)=ck (okC F a.size (ByteArray.mk #[47]).size) ((jM F0 e).bind fun b=>ck (okC F (a++(ByteArray.mk #[47])).size b.1.size) (ck (okC F ((a++(ByteArray.mk #[47]))++b.1).size (ByteArray.mk #[124]).size) ((Hn F0 d).bind fun c=>ck (okC F (((a++(ByteArray.mk #[47]))++b.1)++(ByteArray.mk #[124])).size c.1.size) (br (decide ((d.length:Int)>2)) (some (aj,())) ((eC F0 ((((a++(ByteArray.mk #[47]))++b.1)++(ByteArray.mk #[124]))++c.1)).bind fun f=>br (!f.1) (some (aj,())) (some ((((a++(ByteArray.mk #[47]))++b.1)++(ByteArray.mk #[124]))++c.1,()))))))):=by kernel_rfl
def DZ (a:ByteArray)(b:Int)(c:D5):=bh Da F Db f269 ayw dt 1 (a,b,c,())
def amc (b:ByteArray)(c:Int)(a:D5):DZ F b c a=Dc F (uw F) F.n (uv b c a a (a.length:Int) 0):=by kernel_rfl
def Sn:Any:=.one ⟨ayw,dt,1,fun x=>DZ F0 x.1 x.2.1 x.2.2.1⟩
def amd:aX 269 Sn:=aw Da ⟨gf,me,I7,aiP,trivial⟩ func269 Db (by kernel_rfl)
def Sp:=[(62,dN),(145,lg),(204,gH),(269,Sn)]
def sE (c:D1)(q:D9)(a:Int)(b:D5):=bh Sp F ab f223 ayx aga 2 (c,q,a,b,())
def aeT (c:D1)(q:D9)(b:Int)(e:D5):sE F c q b e=(DZ F0 q.2.1 b e).bind fun a=>(gj F0 q).bind fun d=>(mh F0 c (a.1,d.1)).bind fun f=>br (!f.1) (some ((aj,0,aj,[]),false,())) ((dZ F0 a.1).bind fun g=>br (g.1 != b) (some ((aj,0,aj,[]),false,())) (some ((a.1,d.1),true,()))):=by kernel_rfl
def L9:Any:=.one ⟨ayx,aga,2,fun x=>sE F0 x.1 x.2.1 x.2.2.1 x.2.2.2.1⟩
def aeU:aX 223 L9:=aw Sp ⟨eV,tV,lz,amd,trivial⟩ func223 ab (by kernel_rfl)
def ame:=[(34,b3),(35,E7),(36,u3),(37,Jx),(160,kd),(220,M1),(223,L9),(224,L7)]
def aci (c:D1)(r:a6):=bh ame F ab f167 An aga 2 (c,r,())
def aub (c:D1)(r:a6):aci F c r=(cr F0 c r).bind fun g=>br (!g.1) (some ((aj,0,aj,[]),false,())) ((rr F0 c r.2.1).bind fun h=>br (h.1 != r.1) (some ((aj,0,aj,[]),false,())) (br (decide (r.2.2.1>=r.2.1)) (some ((aj,0,aj,[]),false,())) (br (r.2.2.2.1.2.2.1.1 != (ai (r.2.1-1))) ((rv F0 c r r.2.1).bind fun i=>br (!i.1) (some ((aj,0,aj,[]),false,())) ((lG F0).bind fun b=>(u4 F0 r.2.2.2.1.2.2.1.2.1).bind fun d=>(vG F0 b.1 d.1).bind fun e=>(nI F0 r.2.2.2.2.1 e.1).bind fun f=>(sE F0 c r.2.2.2.1.2.2.1 r.2.1 f.1).bind fun a=>some (a.1,a.2.1,()))) ((lG F0).bind fun b=>(u4 F0 r.2.2.2.1.2.2.1.2.1).bind fun d=>(vG F0 b.1 d.1).bind fun e=>(nI F0 r.2.2.2.2.1 e.1).bind fun f=>(sE F0 c r.2.2.2.1.2.2.1 r.2.1 f.1).bind fun a=>some (a.1,a.2.1,()))))):=by kernel_rfl
def acj:Any:=.one ⟨An,aga,2,fun x=>aci F0 x.1 x.2.1⟩
def auc:aX 167 acj:=aw ame ⟨cD,UZ,L0,Yn,ru,ab5,aeU,aeR,trivial⟩ func167 ab (by kernel_rfl)
def zJ:=[(34,b3),(70,bJ),(171,sA)]
def zU:Nat->Option Hint:=look [(5,{live:=[3,4,5,6,8,9],vW:=[(6,7,3,.int .i64),(6,9,63,K4),(6,10,61,K9),(6,11,5,.int .u8),(6,13,119,nV)],xl:=[6,8],rl:=[6,7]})]
def lH (a c b r d e f g h:Int)(i:ByteArray)(j:List Int)(k:ByteArray)(l:List D4)(o:List D9)(p:List Int)(q:Int)(s:List iO)(m M:Int)(m2:ByteArray)(N:Int)(O:ByteArray)(P:List Int)(Q:Int)(R:ByteArray)(S:List Int)(T:Int)(W:ByteArray)(X:List Int)(Y Z qa qb qd qe qf qg qh qi qj:Int)(qk ql:ByteArray)(qm qn t u v w x:Int)(y z:ByteArray)(A:Int)(qo:List Int)(B:List D4)(C:List D9)(D:List Int)(E:List iO)(G:List Int)(H:List D4)(I:List D9)(K:List Int)(L:List iO):= di 43 [b0 3,b0 4,b0 5,b0 6,b0 8,(9,bp a)] [(3,[an c,an b]),(4,[an r,an d,an e,an f,an g,an h,.str i,.ro false 3 (.int .i64) j,.str k,.ro false 63 (K4) l,.ro false 61 (K9) o,.ro false 5 (.int .u8) p,an q,.ro false 119 (nV) s]),(5,[an m,an M,.str m2,an N,.str O,.ro false 3 (.int .i64) P,an Q,.str R,.ro false 3 (.int .i64) S,an T,.str W,.ro false 3 (.int .i64) X,an Y,an Z,an qa,an qb,an qd]),(6,[an qe,an qf,an qg,an qh,an qi,an qj,.str qk,.own 1000000 none,.str ql,.own 1000001 none,.own 1000002 none,.own 1000003 none,an qm,.own 1000004 none]),(8,[an qn,an t,an u,an v,an w,an x,.str y,.own 1000005 none,.str z,.own 1000006 none,.own 1000007 none,.own 1000008 none,an A,.own 1000009 none])] [ax 1000000 3 (.int .i64) qo,ax 1000001 63 K4 B,ax 1000002 61 K9 C,ax 1000003 5 (.int .u8) D,ax 1000004 119 nV E,ax 1000005 3 (.int .i64) G,ax 1000006 63 K4 H,ax 1000007 61 K9 I,ax 1000008 5 (.int .u8) K,ax 1000009 119 nV L]
def O4 (e:Bool)(f g h i j k:Int)(l m:ByteArray)(o:Int)(p:List Int)(a:List D4)(b:List D9)(c:List Int)(d:List iO):= di 43 [b0 6,(7,Pw e)] [(6,[an f,an g,an h,an i,an j,an k,.str l,.own 1000000 none,.str m,.own 1000001 none,.own 1000002 none,.own 1000003 none,an o,.own 1000004 none])] [ax 1000000 3 (.int .i64) p,ax 1000001 63 K4 a,ax 1000002 61 K9 b,ax 1000003 5 (.int .u8) c,ax 1000004 119 nV d]
def Ma (s t u v w x:Int)(y z:ByteArray)(A B a b c d e:Int)(f g:ByteArray)(h:Int)(C:List Int)(i:List D4)(j:List D9)(k:List Int)(l:List iO)(m:List Int)(o:List D4)(p:List D9)(q:List Int)(r:List iO):= di 43 [b0 6,b0 8] [(6,[an s,an t,an u,an v,an w,an x,.str y,.own 1000000 none,.str z,.own 1000001 none,.own 1000002 none,.own 1000003 none,an A,.own 1000004 none]),(8,[an B,an a,an b,an c,an d,an e,.str f,.own 1000005 none,.str g,.own 1000006 none,.own 1000007 none,.own 1000008 none,an h,.own 1000009 none])] [ax 1000000 3 (.int .i64) C,ax 1000001 63 K4 i,ax 1000002 61 K9 j,ax 1000003 5 (.int .u8) k,ax 1000004 119 nV l,ax 1000005 3 (.int .i64) m,ax 1000006 63 K4 o,ax 1000007 61 K9 p,ax 1000008 5 (.int .u8) q,ax 1000009 119 nV r]
def pr (a:St):Option U:=fp zJ F zU [.r,.r,.r,.l,.r,.b,.i] f168 J n a
def rG:=gU zJ F zU [.r,.r,.r,.l,.r,.b] f168 fK 2
def F3 (d c e r f g h i j:Int)(k:ByteArray)(l:List Int)(o:ByteArray)(p:List D4)(q:List D9)(s:List Int)(t:Int)(u:List iO)(m O:Int)(m2:ByteArray)(P:Int)(Q:ByteArray)(R:List Int)(S:Int)(T:ByteArray)(W:List Int)(X:Int)(Y:ByteArray)(Z:List Int)(qa qb qd qe qf qg qh qi qj qk ql:Int)(qm qn:ByteArray)(qo qp v w x y z:Int)(A B:ByteArray)(C:Int)(qq:List Int)(D:List D4)(E:List D9)(G:List Int)(H:List iO)(I:List Int)(K:List D4)(L:List D9)(M:List Int)(N:List iO):pr F J (n+1) (lH d c e r f g h i j k l o p q s t u m O m2 P Q R S T W X Y Z qa qb qd qe qf qg qh qi qj qk ql qm qn qo qp v w x y z A B C qq D E G H I K L M N)=br (decide (d<c)) (br (d==r) (pr F J n (lH (ai (d+1)) c e r f g h i j k l o p q s t u m O m2 P Q R S T W X Y Z qa qb qd qe qf qg qh qi qj qk ql qm qn qo qp v w x y z A B C qq D E G H I K L M N)) ((lE F0 (c,e) (qp,v,w,(x,y,(z,A,I),B),K,L,(M,C),N) d (m,O,(m2,P,Q,R),(S,T,W),(X,Y,Z),qa,qb,qd,qe,qf)).bind fun a=>br (!a.2.1) ((az F0 (r,f,g,(h,i,(j,k,l),o),p,q,(s,t),u)).bind fun b=>J .ret (O4 false b.1.1 b.1.2.1 b.1.2.2.1 b.1.2.2.2.1.1 b.1.2.2.2.1.2.1 b.1.2.2.2.1.2.2.1.1 b.1.2.2.2.1.2.2.1.2.1 b.1.2.2.2.1.2.2.2 b.1.2.2.2.2.2.2.1.2 b.1.2.2.2.1.2.2.1.2.2 b.1.2.2.2.2.1 b.1.2.2.2.2.2.1 b.1.2.2.2.2.2.2.1.1 b.1.2.2.2.2.2.2.2)) (pr F J n (lH (ai (d+1)) c e r f g h i j k l o p q s t u m O m2 P Q R S T W X Y Z qa qb qd qe qf qg qh qi qj qk ql qm qn qo a.1.1 a.1.2.1 a.1.2.2.1 a.1.2.2.2.1.1 a.1.2.2.2.1.2.1 a.1.2.2.2.1.2.2.1.1 a.1.2.2.2.1.2.2.1.2.1 a.1.2.2.2.1.2.2.2 a.1.2.2.2.2.2.2.1.2 qq D E G H a.1.2.2.2.1.2.2.1.2.2 a.1.2.2.2.2.1 a.1.2.2.2.2.2.1 a.1.2.2.2.2.2.2.1.1 a.1.2.2.2.2.2.2.2)))) (J (.exit 0) (Ma qg qh qi qj qk ql qm qn qo qp v w x y z A B C qq D E G H I K L M N)):=by kernel_rfl
def ack (e:Bool)(f g h i j k:Int)(l m:ByteArray)(o:Int)(p:List Int)(a:List D4)(b:List D9)(c:List Int)(d:List iO):rG F .ret (O4 e f g h i j k l m o p a b c d)=some ((f,g,h,(i,j,(k,l,p),m),a,b,(c,o),d),e,()):=by kernel_rfl
def ZH (t u v w x y:Int)(z A:ByteArray)(B o a b c d e:Int)(f g:ByteArray)(h:Int)(C:List Int)(p:List D4)(q:List D9)(r:List Int)(s:List iO)(i:List Int)(j:List D4)(k:List D9)(l:List Int)(m:List iO):rG F (.exit 0) (Ma t u v w x y z A B o a b c d e f g h C p q r s i j k l m)=some ((o,a,b,(c,d,(e,f,i),g),j,k,(l,h),m),true,()):=by kernel_rfl
def zV (c:D1)(r:a6)(m:MO):=bh zJ F zU f168 XI fK 2 (c,r,m,())
def aiQ (c:D1)(r:a6)(m:MO):zV F c r m=(az F0 r).bind fun a=>(cr F0 c r).bind fun b=>br (!b.1) (some (a.1,false,())) (pr F (rG F) F.n (lH 0 c.1 c.2 r.1 r.2.1 r.2.2.1 r.2.2.2.1.1 r.2.2.2.1.2.1 r.2.2.2.1.2.2.1.1 r.2.2.2.1.2.2.1.2.1 r.2.2.2.1.2.2.1.2.2 r.2.2.2.1.2.2.2 r.2.2.2.2.1 r.2.2.2.2.2.1 r.2.2.2.2.2.2.1.1 r.2.2.2.2.2.2.1.2 r.2.2.2.2.2.2.2 m.1 m.2.1 m.2.2.1.1 m.2.2.1.2.1 m.2.2.1.2.2.1 m.2.2.1.2.2.2 m.2.2.2.1.1 m.2.2.2.1.2.1 m.2.2.2.1.2.2 m.2.2.2.2.1.1 m.2.2.2.2.1.2.1 m.2.2.2.2.1.2.2 m.2.2.2.2.2.1 m.2.2.2.2.2.2.1 m.2.2.2.2.2.2.2.1 m.2.2.2.2.2.2.2.2.1 m.2.2.2.2.2.2.2.2.2 0 0 0 0 0 0 aj aj 0 a.1.1 a.1.2.1 a.1.2.2.1 a.1.2.2.2.1.1 a.1.2.2.2.1.2.1 a.1.2.2.2.1.2.2.1.1 a.1.2.2.2.1.2.2.1.2.1 a.1.2.2.2.1.2.2.2 a.1.2.2.2.2.2.2.1.2 [] [] [] [] [] a.1.2.2.2.1.2.2.1.2.2 a.1.2.2.2.2.1 a.1.2.2.2.2.2.1 a.1.2.2.2.2.2.2.1.1 a.1.2.2.2.2.2.2.2)):=by kernel_rfl
def O5:Any:=.one ⟨XI,fK,2,fun x=>zV F0 x.1 x.2.1 x.2.2.1⟩
def aiR:aX 168 O5:=aw zJ ⟨cD,b1,He,trivial⟩ func168 zU (by kernel_rfl)
def U2:=[(70,bJ),(153,u1),(167,acj),(168,O5)]
abbrev amf:List (Ty×Bool):=[(bD,true),(.int .i64,false)]
def Ho (c:D1)(r:a6):=bh U2 F ab f91 An amf 0 (c,r,())
def aiS (c:D1)(r:a6):Ho F c r=(aci F0 c r).bind fun a=>br (!a.2.1) (some (r,3,())) ((az F0 r).bind fun b=>(zV F0 c (b.1.1,b.1.2.1,r.2.1,b.1.2.2.2) (1,0,a.1,(0,aj,[]),(0,aj,[]),0,0,0,0,0)).bind fun d=>br (!d.2.1) (some (r,4,())) ((po F0 c d.1 a.1).bind fun e=>br (!e.2.1) (some (r,4,())) (some (e.1,0,())))):=by kernel_rfl
def O6:Any:=.one ⟨An,amf,0,fun x=>Ho F0 x.1 x.2.1⟩
def aiT:aX 91 O6:=aw U2 ⟨b1,LW,auc,aiR,trivial⟩ func91 ab (by kernel_rfl)
def ux:=[(169,y5)]
def uy:Nat->Option Hint:=look [(2,{live:=[2,3,4,6],vW:=[(4,7,3,.int .i64),(4,9,63,K4),(4,10,61,K9),(4,11,5,.int .u8),(4,13,119,nV)],xl:=[3,4],rl:=[4,5]})]
def oB (i c a r b d e f g:Int)(h:ByteArray)(j:List Int)(k:ByteArray)(l:List D4)(m:List D9)(o:List Int)(p:Int)(q:List iO)(w x y z A B:Int)(C D:ByteArray)(E:Int)(G:List Int)(s:List D4)(t:List D9)(u:List Int)(v:List iO):= di 41 [b0 2,b0 3,b0 4,(6,bp i)] [(2,[an c,an a]),(3,[an r,an b,an d,an e,an f,an g,.str h,.ro false 3 (.int .i64) j,.str k,.ro false 63 (K4) l,.ro false 61 (K9) m,.ro false 5 (.int .u8) o,an p,.ro false 119 (nV) q]),(4,[an w,an x,an y,an z,an A,an B,.str C,.own 1000000 none,.str D,.own 1000001 none,.own 1000002 none,.own 1000003 none,an E,.own 1000004 none])] [ax 1000000 3 (.int .i64) G,ax 1000001 63 K4 s,ax 1000002 61 K9 t,ax 1000003 5 (.int .u8) u,ax 1000004 119 nV v]
def z1 (e f g h i j k:Int)(l:ByteArray)(m:List Int)(o:ByteArray)(p:List D4)(a:List D9)(b:List Int)(c:Int)(d:List iO):= di 41 [b0 4,(5,bp e)] [(4,[an f,an g,an h,an i,an j,an k,.str l,.ro false 3 (.int .i64) m,.str o,.ro false 63 (K4) p,.ro false 61 (K9) a,.ro false 5 (.int .u8) b,an c,.ro false 119 (nV) d])] []
def JH (r a b c d e:Int)(f:ByteArray)(g:List Int)(h:ByteArray)(i:List D4)(j:List D9)(k:List Int)(l:Int)(m:List iO)(t u v w x y:Int)(z A:ByteArray)(B:Int)(C:List Int)(o:List D4)(p:List D9)(q:List Int)(s:List iO):= di 41 [b0 3,b0 4] [(3,[an r,an a,an b,an c,an d,an e,.str f,.ro false 3 (.int .i64) g,.str h,.ro false 63 (K4) i,.ro false 61 (K9) j,.ro false 5 (.int .u8) k,an l,.ro false 119 (nV) m]),(4,[an t,an u,an v,an w,an x,an y,.str z,.own 1000000 none,.str A,.own 1000001 none,.own 1000002 none,.own 1000003 none,an B,.own 1000004 none])] [ax 1000000 3 (.int .i64) C,ax 1000001 63 K4 o,ax 1000002 61 K9 p,ax 1000003 5 (.int .u8) q,ax 1000004 119 nV s]
def uz (a:St):Option U:=fp ux F uy [.r,.l,.r,.b,.i] f92 J n a
def oC:=gU ux F uy [.r,.l,.r,.b] f92 amf 0
def D0 (i c s r d e f g h:Int)(j:ByteArray)(k:List Int)(l:ByteArray)(m:List D4)(b:List D9)(o:List Int)(p:Int)(q:List iO)(x y z A B C:Int)(D E:ByteArray)(G:Int)(H:List Int)(t:List D4)(u:List D9)(v:List Int)(w:List iO):uz F J (n+1) (oB i c s r d e f g h j k l m b o p q x y z A B C D E G H t u v w)=br (decide (i>=0)) (ck (bN i (b.length:Int)) (br (!((ay b i K9.aq).2.1.toList==aj.toList)) ((mA F0 (c,s) (r,d,e,(f,g,(h,j,k),l),m,b,(o,p),q) (ay b i K9.aq).1 (ay b i K9.aq).2.1 true).bind fun a=>br (!a.2.1) (J .ret (z1 3 r d e f g h j k l m b o p q)) (J .ret (z1 0 a.1.1 a.1.2.1 a.1.2.2.1 a.1.2.2.2.1.1 a.1.2.2.2.1.2.1 a.1.2.2.2.1.2.2.1.1 a.1.2.2.2.1.2.2.1.2.1 a.1.2.2.2.1.2.2.1.2.2 a.1.2.2.2.1.2.2.2 a.1.2.2.2.2.1 a.1.2.2.2.2.2.1 a.1.2.2.2.2.2.2.1.1 a.1.2.2.2.2.2.2.1.2 a.1.2.2.2.2.2.2.2))) (uz F J n (oB (ai (i-1)) c s r d e f g h j k l m b o p q x y z A B C D E G H t u v w)))) (J (.exit 0) (JH r d e f g h j k l m b o p q x y z A B C D E G H t u v w)):=by kernel_rfl
def JI (e f g h i j k:Int)(l:ByteArray)(m:List Int)(o:ByteArray)(p:List D4)(a:List D9)(b:List Int)(c:Int)(d:List iO):oC F .ret (z1 e f g h i j k l m o p a b c d)=some ((f,g,h,(i,j,(k,l,m),o),p,a,(b,c),d),e,()):=by kernel_rfl
def WM (r a b c d e:Int)(f:ByteArray)(g:List Int)(h:ByteArray)(i:List D4)(j:List D9)(k:List Int)(l:Int)(m:List iO)(t u v w x y:Int)(z A:ByteArray)(B:Int)(C:List Int)(o:List D4)(p:List D9)(q:List Int)(s:List iO):oC F (.exit 0) (JH r a b c d e f g h i j k l m t u v w x y z A B C o p q s)=some ((r,a,b,(c,d,(e,f,g),h),i,j,(k,l),m),3,()):=by kernel_rfl
def Dd (c:D1)(r:a6):=bh ux F uy f92 An amf 0 (c,r,())
def aeV (c:D1)(r:a6):Dd F c r=uz F (oC F) F.n (oB (ai ((r.2.2.2.2.2.1.length:Int)-1)) c.1 c.2 r.1 r.2.1 r.2.2.1 r.2.2.2.1.1 r.2.2.2.1.2.1 r.2.2.2.1.2.2.1.1 r.2.2.2.1.2.2.1.2.1 r.2.2.2.1.2.2.1.2.2 r.2.2.2.1.2.2.2 r.2.2.2.2.1 r.2.2.2.2.2.1 r.2.2.2.2.2.2.1.1 r.2.2.2.2.2.2.1.2 r.2.2.2.2.2.2.2 0 0 0 0 0 0 aj aj 0 [] [] [] [] []):=by kernel_rfl
def Mb:Any:=.one ⟨An,amf,0,fun x=>Dd F0 x.1 x.2.1⟩
def aeW:aX 92 Mb:=aw ux ⟨M0,trivial⟩ func92 uy (by kernel_rfl)
def agB:=[(34,b3),(70,bJ),(160,kd),(170,jX),(171,sA)]
def VW (c:D1)(r:a6):=bh agB F ab f93 An fK 2 (c,r,())
def asf (c:D1)(r:a6):VW F c r=(cr F0 c r).bind fun h=>br (!h.1) ((az F0 r).bind fun b=>some (b.1,false,())) (br (r.2.1==60) ((az F0 r).bind fun b=>some (b.1,false,())) ((az F0 r).bind fun a=>(rr F0 c (ai (a.1.2.1+1))).bind fun e=>br (e.1==r.1) ((ep F0 c a.1.2.2.2.2.2.1 (ai (a.1.2.1+1),aj,[r.1])).bind fun f=>br (!f.2.1) ((az F0 r).bind fun d=>some (d.1,false,())) (some ((a.1.1,ai (a.1.2.1+1),a.1.2.2.1,a.1.2.2.2.1,a.1.2.2.2.2.1,f.1,a.1.2.2.2.2.2.2),true,()))) ((lE F0 c (a.1.1,ai (a.1.2.1+1),a.1.2.2) e.1 (3,ai (a.1.2.1+1),(aj,0,aj,[]),(0,aj,[]),r.2.2.2.1.2.2.1,r.1,0,0,0,0)).bind fun g=>br (!g.2.1) ((az F0 r).bind fun d=>some (d.1,false,())) (some (g.1,true,()))))):=by kernel_rfl
def Yq:Any:=.one ⟨An,fK,2,fun x=>VW F0 x.1 x.2.1⟩
def asg:aX 93 Yq:=aw agB ⟨cD,b1,ru,rq,He,trivial⟩ func93 ab (by kernel_rfl)
def Yr:=[(76,mX),(135,jS)]
def Mc (d:D14)(keep:Int):=bh Yr F ab f94 ayQ nW 1 (d,keep,())
def amg (d:D14)(keep:Int):Mc F d keep=(kb F0 d).bind fun a=>(pb F0 d).bind fun b=>br b.1 (ck (okT (ai (d.2+(if (ai ((d.1.length:Int)-d.2))<(if 0>keep then 0 else keep) then (ai ((d.1.length:Int)-d.2)) else (if 0>keep then 0 else keep)))) (a.1.1.length:Int)) (some ((a.1.1.take (ai (d.2+(if (ai ((d.1.length:Int)-d.2))<(if 0>keep then 0 else keep) then (ai ((d.1.length:Int)-d.2)) else (if 0>keep then 0 else keep)))).toNat,ai (d.2+(if (ai ((d.1.length:Int)-d.2))<(if 0>keep then 0 else keep) then (ai ((d.1.length:Int)-d.2)) else (if 0>keep then 0 else keep)))),()))) (some (a.1,())):=by kernel_rfl
def Sq:Any:=.one ⟨ayQ,nW,1,fun x=>Mc F0 x.1 x.2.1⟩
def amh:aX 94 Sq:=aw Yr ⟨yB,q7,trivial⟩ func94 ab (by kernel_rfl)
def Qc: Option (Args Aq):=bh aB F ab f172 [] Aq 2 (())
def aiU: Qc F= some ((0,0,(0,aj,[]),aj),()):=by kernel_rfl
def O7:Any:=.one ⟨[],Aq,2,fun x=>Qc F0⟩
def aiV:aX 172 O7:=aw aB trivial func172 ab (by kernel_rfl)
def Ys:=[(73,jq),(118,gP),(119,jP),(120,uS)]
def Md (c:D1)(b:List Int):=bh Ys F ab f174 Q4 age 2 (c,b,())
def ami (c:D1)(b:List Int):Md F c b=(bB F0 (b,0,false)).bind fun d=>(bB F0 d.2.1).bind fun e=>(ll F0 e.2.1).bind fun f=>(fy F0 f.2.1).bind fun a=>br a.2.1.2.2 (some ((0,0,(0,aj,[]),aj),false,())) (br (a.2.1.2.1 != (b.length:Int)) (some ((0,0,(0,aj,[]),aj),false,())) ((jN F0 c (d.1.1,e.1.1,f.1.1,a.1.1)).bind fun g=>br (!g.1) (some ((0,0,(0,aj,[]),aj),false,())) (some ((d.1.1,e.1.1,f.1.1,a.1.1),true,())))):=by kernel_rfl
def Sr:Any:=.one ⟨Q4,age,2,fun x=>Md F0 x.1 x.2.1⟩
def amj:aX 174 Sr:=aw Ys ⟨o8,mj,r0,Lw,trivial⟩ func174 ab (by kernel_rfl)
def uA:=[(172,O7),(173,Bp),(174,Sr)]
def uB:Nat->Option Hint:=look [(3,{live:=[1,2,4,6,7],vW:=[(4,4,3,.int .i64)],rl:=[4,5]})]
def j0 (b:List Int)(i c a j k l:Int)(m o:ByteArray)(s d e:Int)(f g:ByteArray)(p h:List Int):= di 51 [(1,hM 5 (.int .u8) b),b0 2,b0 4,b0 6,(7,bp i)] [(2,[an c,an a]),(4,[an j,an k,an l,.str m,.own 1000000 none,.str o]),(6,[an s,an d,an e,.str f,.own 1000001 none,.str g])] [ax 1000000 3 (.int .i64) p,ax 1000001 3 (.int .i64) h]
def j1 (a b c d:Int)(e f:ByteArray)(g:List Int):= di 51 [b0 4,(5,bp a)] [(4,[an b,an c,an d,.str e,.own 1000000 none,.str f])] [ax 1000000 3 (.int .i64) g]
def ni (a:St):Option U:=fp uA F uB [.r,.r,.r,.b,.i] f96 J n a
def oD:=gU uA F uB [.r,.r,.r,.b] f96 apR 2
def D7 (b:List Int)(e c k l m o:Int)(p q:ByteArray)(s f g:Int)(h i:ByteArray)(r j:List Int):ni F J (n+1) (j0 b e c k l m o p q s f g h i r j)=(ml F0 b e).bind fun a=>br (!a.2.2.1) (J .ret (j1 e s f g h i j)) (br (decide (a.2.1>=(b.length:Int))) (J .ret (j1 e s f g h i j)) (ck (bN a.2.1 (b.length:Int)) (br ((ay b a.2.1 0) != 10) (J .ret (j1 e s f g h i j)) (ck (decide ((a.1.size:Int)<=F.mem)) ((Md F0 (c,k) (bytesOf a.1)).bind fun d=>br (!d.2.1) (J .ret (j1 e s f g h i j)) (ni F J n (j0 b (ai (a.2.1+1)) c k l m o p q d.1.1 d.1.2.1 d.1.2.2.1.1 d.1.2.2.1.2.1 d.1.2.2.2 r d.1.2.2.1.2.2))))))):=by kernel_rfl
def JJ (a b c d:Int)(e f:ByteArray)(g:List Int):oD F .ret (j1 a b c d e f g)=some ((b,c,(d,e,g),f),a,()):=by kernel_rfl
def De (c:D1)(b:List Int):=bh uA F uB f96 Q4 apR 2 (c,b,())
def aeX (c:D1)(b:List Int):De F c b=(Qc F0).bind fun a=>ni F (oD F) F.n (j0 b 0 c.1 c.2 0 0 0 aj aj a.1.1 a.1.2.1 a.1.2.2.1.1 a.1.2.2.1.2.1 a.1.2.2.2 [] a.1.2.2.1.2.2):=by kernel_rfl
def Me:Any:=.one ⟨Q4,apR,2,fun x=>De F0 x.1 x.2.1⟩
def aeY:aX 96 Me:=aw uA ⟨aiV,RW,amj,trivial⟩ func96 uB (by kernel_rfl)
def agC:=[(34,b3),(70,bJ),(96,Me)]
def agD:Nat->Option Hint:=look [(900005,{live:=[],mat:=[(3,0,bD),(5,0,K12)]})]
def O8 (c:D1)(r:a6):=bh agC F agD f95 An Q7 1 (c,r,())
def ash (c:D1)(r:a6):O8 F c r=(cr F0 c r).bind fun b=>br (!b.1) ((az F0 r).bind fun d=>some (d.1,())) ((De F0 c r.2.2.2.2.2.2.1.1).bind fun a=>ck (QN 0 a.2.1 (r.2.2.2.2.2.2.1.1.length:Int)) (ck (ee F 0 ((r.2.2.2.2.2.2.1.1.take a.2.1.toNat).drop (0:Int).toNat).length 1) (some ((r.1,(if 60<(if 1>(if (ai (a.1.2.2.1.1+1))>a.1.1 then (ai (a.1.2.2.1.1+1)) else a.1.1) then 1 else (if (ai (a.1.2.2.1.1+1))>a.1.1 then (ai (a.1.2.2.1.1+1)) else a.1.1)) then 60 else (if 1>(if (ai (a.1.2.2.1.1+1))>a.1.1 then (ai (a.1.2.2.1.1+1)) else a.1.1) then 1 else (if (ai (a.1.2.2.1.1+1))>a.1.1 then (ai (a.1.2.2.1.1+1)) else a.1.1)),(0,a.1,[],[],([]++((r.2.2.2.2.2.2.1.1.take a.2.1.toNat).drop (0:Int).toNat),a.2.1),[]))),())))):=by kernel_rfl
def Yt:Any:=.one ⟨An,Q7,1,fun x=>O8 F0 x.1 x.2.1⟩
def asi:aX 95 Yt:=aw agC ⟨cD,b1,aeY,trivial⟩ func95 agD (by kernel_rfl)
def U3:=[(70,bJ),(88,M3),(91,O6),(92,Mb),(93,Yq),(94,Sq),(95,Yt)]
abbrev aBs:List (Ty×Bool):=[(K1,true),(bD,true),(K45,true)]
def Hp (c:D1)(r:a6)(d:D45):=bh U3 F ab f46 aBs amf 0 (c,r,d,())
def aiW (c:D1)(r:a6)(d:D45):Hp F c r d=(az F0 r).bind fun a=>br (d.1==1) ((Ho F0 c r).bind fun b=>some (b.1,b.2.1,())) (br (d.1==6) ((Dd F0 c r).bind fun e=>some (e.1,e.2.1,())) (br (d.1==7) ((VW F0 c r).bind fun f=>br (!f.2.1) (some (r,3,())) (some (f.1,0,()))) (br (d.1==8) ((Mc F0 r.2.2.2.2.2.2.1 d.2.2.1).bind fun h=>(O8 F0 c (a.1.1,a.1.2.1,a.1.2.2.1,a.1.2.2.2.1,a.1.2.2.2.2.1,a.1.2.2.2.2.2.1,h.1,a.1.2.2.2.2.2.2.2)).bind fun i=>some (i.1,0,())) ((HO F0 c r d.2.2.2).bind fun g=>br g.2.1 (br (!(d.2.2.2.1==4)) (some (r,3,())) (some (g.1,0,()))) (some (r,3,())))))):=by kernel_rfl
def O9:Any:=.one ⟨aBs,amf,0,fun x=>Hp F0 x.1 x.2.1 x.2.2.1⟩
def aiX:aX 46 O9:=aw U3 ⟨b1,ace,aiT,aeW,asg,amh,asi,trivial⟩ func46 ab (by kernel_rfl)
def apT:=[(28,ly),(32,fz),(42,bn),(43,OG),(44,LN),(45,O0),(46,O9)]
def ajc (w:nx)(d:D45):=bh apT F ab f15 ago abS 0 (w,d,())
def awy (w:nx)(d:D45):ajc F w d=(cY F0 w).bind fun h=>br (!h.1) (some (((0,0),[],[],[],[]),1,())) ((aU F0 d.1 1 10).bind fun i=>br (!i.1) (some (((0,0),[],[],[],[]),1,())) ((G6 F0 w d).bind fun j=>br (!j.1) ((aM F0 w).bind fun k=>some (k.1,2,())) ((aM F0 w).bind fun c=>br (d.1==2) ((CX F0 w d.2.1).bind fun f=>br (f.2.1==0) ((cY F0 f.1).bind fun e=>br (!e.1) (br (4 != 0) ((aM F0 w).bind fun b=>some (b.1,4,())) (some (f.1,0,()))) (br (f.2.1 != 0) ((aM F0 w).bind fun b=>some (b.1,f.2.1,())) (some (f.1,0,())))) (br (f.2.1 != 0) ((aM F0 w).bind fun b=>some (b.1,f.2.1,())) (some (f.1,0,())))) (br (d.1==3) ((mD F0 w d).bind fun a=>br (a.2.1==0) ((cY F0 a.1).bind fun e=>br (!e.1) (br (4 != 0) ((aM F0 w).bind fun b=>some (b.1,4,())) (some (a.1,0,()))) (br (a.2.1 != 0) ((aM F0 w).bind fun b=>some (b.1,a.2.1,())) (some (a.1,0,())))) (br (a.2.1 != 0) ((aM F0 w).bind fun b=>some (b.1,a.2.1,())) (some (a.1,0,())))) (br (d.1==4) ((mD F0 w d).bind fun a=>br (a.2.1==0) ((cY F0 a.1).bind fun e=>br (!e.1) (br (4 != 0) ((aM F0 w).bind fun b=>some (b.1,4,())) (some (a.1,0,()))) (br (a.2.1 != 0) ((aM F0 w).bind fun b=>some (b.1,a.2.1,())) (some (a.1,0,())))) (br (a.2.1 != 0) ((aM F0 w).bind fun b=>some (b.1,a.2.1,())) (some (a.1,0,())))) (br (d.1==5) ((mD F0 w d).bind fun a=>br (a.2.1==0) ((cY F0 a.1).bind fun e=>br (!e.1) (br (4 != 0) ((aM F0 w).bind fun b=>some (b.1,4,())) (some (a.1,0,()))) (br (a.2.1 != 0) ((aM F0 w).bind fun b=>some (b.1,a.2.1,())) (some (a.1,0,())))) (br (a.2.1 != 0) ((aM F0 w).bind fun b=>some (b.1,a.2.1,())) (some (a.1,0,())))) (br (d.1==10) ((mD F0 w d).bind fun a=>br (a.2.1==0) ((cY F0 a.1).bind fun e=>br (!e.1) (br (4 != 0) ((aM F0 w).bind fun b=>some (b.1,4,())) (some (a.1,0,()))) (br (a.2.1 != 0) ((aM F0 w).bind fun b=>some (b.1,a.2.1,())) (some (a.1,0,())))) (br (a.2.1 != 0) ((aM F0 w).bind fun b=>some (b.1,a.2.1,())) (some (a.1,0,())))) (ck (bN d.2.1 (w.2.2.1.length:Int)) ((Hp F0 w.1 (ay w.2.2.1 d.2.1 bD.aq) d).bind fun g=>ck (bN d.2.1 (c.1.2.2.1.length:Int)) (br (g.2.1==0) ((cY F0 (c.1.1,c.1.2.1,c.1.2.2.1.set d.2.1.toNat g.1,c.1.2.2.2)).bind fun e=>br (!e.1) (br (4 != 0) ((aM F0 w).bind fun b=>some (b.1,4,())) (some ((c.1.1,c.1.2.1,c.1.2.2.1.set d.2.1.toNat g.1,c.1.2.2.2),0,()))) (br (g.2.1 != 0) ((aM F0 w).bind fun b=>some (b.1,g.2.1,())) (some ((c.1.1,c.1.2.1,c.1.2.2.1.set d.2.1.toNat g.1,c.1.2.2.2),0,())))) (br (g.2.1 != 0) ((aM F0 w).bind fun b=>some (b.1,g.2.1,())) (some ((c.1.1,c.1.2.1,c.1.2.2.1.set d.2.1.toNat g.1,c.1.2.2.2),0,()))))))))))))):=by kernel_rfl
def agE:Any:=.one ⟨ago,abS,0,fun x=>ajc F0 x.1 x.2.1⟩
def awz:aX 15 agE:=aw apT ⟨tZ,jT,bQ,ait,aez,aiN,aiX,trivial⟩ func15 ab (by kernel_rfl)
def Hq:=[(15,agE),(28,ly),(32,fz)]
def Hr:Nat->Option Hint:=look [(6,{live:=[4,6,7,23,24,25],mat:=[(7,3,.int .i64)],roB:=[(6,2),(6,3),(6,4),(6,5)],vW:=[(4,2,3,.int .i64),(4,3,50,bD),(4,4,102,eH),(4,5,95,c8)],xl:=[4,6,7],rl:=[4,5]})]
def pt (j:List D45)(k l m o p a:Int)(b:List Int)(c:List a6)(d:List bZ)(e:List bT)(q f:List Int)(g:List a6)(h:List bZ)(i:List bT):= di 45 [b0 4,b0 6,(7,.v (.c (.own 1000000 none))),(23,hM 67 (K45) j),(24,bp k),(25,bp l)] [(4,[an m,an o,.own 1000001 none,.own 1000002 none,.own 1000003 none,.own 1000004 none]),(6,[an p,an a,.ro false 3 (.int .i64) b,.ro false 50 (bD) c,.ro false 102 (eH) d,.ro false 95 (c8) e])] [ax 1000000 3 (.int .i64) q,ax 1000001 3 (.int .i64) f,ax 1000002 50 bD g,ax 1000003 102 eH h,ax 1000004 95 c8 i]
def Ss (j k l a:Int)(b:List Int)(c:List a6)(d:List bZ)(e:List bT)(m f:List Int)(g:List a6)(h:List bZ)(i:List bT):= di 45 [b0 4,b0 6,(7,.v (.c (.own 1000000 none)))] [(4,[an j,an k,.own 1000001 none,.own 1000002 none,.own 1000003 none,.own 1000004 none]),(6,[an l,an a,.ro false 3 (.int .i64) b,.ro false 50 (bD) c,.ro false 102 (eH) d,.ro false 95 (c8) e])] [ax 1000000 3 (.int .i64) m,ax 1000001 3 (.int .i64) f,ax 1000002 50 bD g,ax 1000003 102 eH h,ax 1000004 95 c8 i]
def z6 (a:St):Option U:=fp Hq F Hr [.r,.r,.r,.r,.l,.r,.b,.i] f9 J n a
abbrev aBt:List (Ty×Bool):=[(gp,true),(.sl 3 (.int .i64),false)]
def JK:=gU Hq F Hr [.r,.r,.r,.r,.l,.r,.b] f9 aBt 0
def Mf (d:List D45)(o b p q r e:Int)(f:List Int)(g:List a6)(h:List bZ)(i:List bT)(c j:List Int)(k:List a6)(l:List bZ)(m:List bT):z6 F J (n+1) (pt d o b p q r e f g h i c j k l m)=br (decide (b<o)) (ck (bN b (d.length:Int)) ((ajc F0 ((r,e),f,g,h,i) (ay d b K45.aq)).bind fun a=>br (a.2.1==0) (ck (ee F c.length [a.2.1].length 8) (z6 F J n (pt d o (ai (b+1)) p q a.1.1.1 a.1.1.2 a.1.2.1 a.1.2.2.1 a.1.2.2.2.1 a.1.2.2.2.2 (c++[a.2.1]) j k l m))) (ck (ee F c.length [a.2.1].length 8) (z6 F J n (pt d o (ai (b+1)) p q r e f g h i (c++[a.2.1]) j k l m))))) (J (.exit 0) (Ss p q r e f g h i c j k l m)):=by kernel_rfl
def aeZ (l m f a:Int)(b:List Int)(c:List a6)(d:List bZ)(e:List bT)(g h:List Int)(i:List a6)(j:List bZ)(k:List bT):JK F (.exit 0) (Ss l m f a b c d e g h i j k)=some (((f,a),b,c,d,e),g,()):=by kernel_rfl
def JL (w:nx)(a:D46):=bh Hq F Hr f9 at4 aBt 0 (w,a,())
def aoJ (w:nx)(b:D46):JL F w b=(aM F0 w).bind fun a=>(cY F0 w).bind fun c=>br (!c.1) (some (a.1,[],())) (br (decide ((b.length:Int)>500)) (some (a.1,[],())) (z6 F (JK F) F.n (pt b (b.length:Int) 0 0 0 a.1.1.1 a.1.1.2 a.1.2.1 a.1.2.2.1 a.1.2.2.2.1 a.1.2.2.2.2 [] [] [] [] []))):=by kernel_rfl
def U4:Any:=.one ⟨at4,aBt,0,fun x=>JL F0 x.1 x.2.1⟩
def aoK:aX 9 U4:=aw Hq ⟨awz,tZ,jT,trivial⟩ func9 Hr (by kernel_rfl)
end
end Go.Am.Tryz
namespace Go.Am.Tryz
open Go.Am Go.Proofs Go.Proofs.Tryz
noncomputable section
variable {U:Type} (F:nT) (J:Ex->St->Option U) (n:Nat)
def uC:Nat->Option Hint:=look [(4,{live:=[0,1,5],rl:=[4]})]
def oE (a b:List Int)(i:Int):= b2 26 [(0,hM 3 (.int .i64) a),(1,hM 3 (.int .i64) b),(5,bp i)]
def acm (a:Bool):= b2 26 [(4,Pw a)]
def JM   := b2 26 []
def uD (a:St):Option U:=fp aB F uC [.r,.r,.l,.r,.b,.i] f38 J n a
def z7:=gU aB F uC [.r,.r,.l,.r,.b] f38 aS 1
def Ea (a b:List Int)(i:Int):uD F J (n+1) (oE a b i)=br (decide (i<(a.length:Int))) (ck (bN i (a.length:Int)) (ck (bN i (b.length:Int)) (br ((ay a i 0) != (ay b i 0)) (J .ret (acm false)) (uD F J n (oE a b (ai (i+1))))))) (J (.exit 0) (JM)):=by kernel_rfl
def WN: z7 F (.exit 0) (JM)=some (true,()):=by kernel_rfl
def sF (a b:List Int):=bh aB F uC f38 aaX aS 1 (a,b,())
def ae0 (a b:List Int):sF F a b=br ((a.length:Int) != (b.length:Int)) (some (false,())) (uD F (z7 F) F.n (oE a b 0)):=by kernel_rfl
def Mg:Any:=.one ⟨aaX,aS,1,fun x=>sF F0 x.1 x.2.1⟩
def ae1:aX 38 Mg:=aw aB trivial func38 uC (by kernel_rfl)
def Mh:=[(38,Mg)]
def nj (a b:D43):=bh Mh F ab f12 [(K43,true),(K43,true)] aS 1 (a,b,())
def ZI (a b:D43):nj F a b=(sF F0 a.1 b.1).bind fun c=>br c.1 ((sF F0 a.2 b.2).bind fun d=>some (d.1,())) (some (false,())):=by kernel_rfl
def F4:Any:=.one ⟨[(K43,true),(K43,true)],aS,1,fun x=>nj F0 x.1 x.2.1⟩
def ZJ:aX 12 F4:=aw Mh ⟨ae1,trivial⟩ func12 ab (by kernel_rfl)
def a7:=[(5,aaP),(6,FF),(7,LB),(8,wO),(9,U4),(10,mZ),(11,JD),(12,F4),(13,Bw),(14,tS)]
def a8:Nat->Option Hint:=look [(13,{live:=[9,11,12],xl:=[9,11],rl:=[2]}),(16,{live:=[9,11,12,13],xl:=[9,11,12],rl:=[2]}),(23,{live:=[9,11,12,13,14,15,16,17,18],xl:=[9,11,12,13],rl:=[2]})]
def cc (i k c g d:Int)(e:List Int)(f:List a6)(h:List bZ)(j:List bT)(a l m o p q:Int)(r:ByteArray)(s:List Int)(t:ByteArray)(u:List D4)(v:List D9)(w:List Int)(R:Int)(x:List iO)(b y z A B C:Int)(D:ByteArray)(E:List Int)(G:ByteArray)(H:List D4)(I:List D9)(K:List Int)(L:Int)(M:List iO)(S N O P Q:List Int):= di 137 [b0 9,(11,.v (.c (.own 1000000 none))),(12,bp i),(13,bp k),b0 14,b0 15,b0 16,b0 17,(18,bp c)] [(9,[an g,an d,.ro false 3 (.int .i64) e,.ro false 50 (bD) f,.ro false 102 (eH) h,.ro false 95 (c8) j]),(14,[an a,an l,an m,an o,an p,an q,.str r,.ro false 3 (.int .i64) s,.str t,.ro false 63 (K4) u,.ro false 61 (K9) v,.ro false 5 (.int .u8) w,an R,.ro false 119 (nV) x]),(15,[an b,an y,an z,an A,an B,an C,.str D,.ro false 3 (.int .i64) E,.str G,.ro false 63 (K4) H,.ro false 61 (K9) I,.ro false 5 (.int .u8) K,an L,.ro false 119 (nV) M]),(16,[.own 1000001 none,.own 1000002 none]),(17,[.own 1000003 none,.own 1000004 none])] [ax 1000000 3 (.int .i64) S,ax 1000001 3 (.int .i64) N,ax 1000002 3 (.int .i64) O,ax 1000003 3 (.int .i64) P,ax 1000004 3 (.int .i64) Q]
def Bz (a:Bool):= b2 137 [(2,Pw a)]
def fj (i k g a:Int)(b:List Int)(c:List a6)(d:List bZ)(e:List bT)(f:List Int):= di 137 [b0 9,(11,.v (.c (.own 1000000 none))),(12,bp i),(13,bp k)] [(9,[an g,an a,.ro false 3 (.int .i64) b,.ro false 50 (bD) c,.ro false 102 (eH) d,.ro false 95 (c8) e])] [ax 1000000 3 (.int .i64) f]
def cv (a:St):Option U:=fp a7 F a8 [.r,.r,.r,.r,.r,.r,.r,.r,.r,.l,.r,.b,.i,.r,.l,.b,.r,.b,.i,.r,.l,.b,.r,.r,.r,.r,.b,.i] f3 J n a
def cM:Ex->St->Option U:=adj Tryz.prog (look a7) F a8 [.r,.l,.b,.r,.r,.r,.r,.b] (sub [.r,.r,.r,.r,.r,.r,.r,.r,.r,.l,.r,.b,.i,.r,.l,.b,.r,.b,.i] (iu f3)) (itk Tryz.prog (look a7) F a8 (sub [.r,.r,.r,.r,.r,.r,.r,.r,.r,.l,.r,.b,.i,.r,.l,.b,.r,.b,.i] (iu f3)) J n)
def cd (i k g a:Int)(b:List Int)(c:List a6)(d:List bZ)(e:List bT)(f:List Int):= di 137 [b0 9,(11,.v (.c (.own 1000000 none))),(12,bp i),(13,bp k)] [(9,[an g,an a,.ro false 3 (.int .i64) b,.ro false 50 (bD) c,.ro false 102 (eH) d,.ro false 95 (c8) e])] [ax 1000000 3 (.int .i64) f]
def BA (a:Bool):= b2 137 [(2,Pw a)]
def ko (i g a:Int)(b:List Int)(c:List a6)(d:List bZ)(e:List bT)(f:List Int):= di 137 [b0 9,(11,.v (.c (.own 1000000 none))),(12,bp i)] [(9,[an g,an a,.ro false 3 (.int .i64) b,.ro false 50 (bD) c,.ro false 102 (eH) d,.ro false 95 (c8) e])] [ax 1000000 3 (.int .i64) f]
def cw (a:St):Option U:=fp a7 F a8 [.r,.r,.r,.r,.r,.r,.r,.r,.r,.l,.r,.b,.i,.r,.l,.b,.r,.b,.i] f3 J n a
def cN:Ex->St->Option U:=adj Tryz.prog (look a7) F a8 [.r,.l,.b,.r,.b] (sub [.r,.r,.r,.r,.r,.r,.r,.r,.r,.l,.r,.b,.i] (iu f3)) (itk Tryz.prog (look a7) F a8 (sub [.r,.r,.r,.r,.r,.r,.r,.r,.r,.l,.r,.b,.i] (iu f3)) J n)
def cg (i g a:Int)(b:List Int)(c:List a6)(d:List bZ)(e:List bT)(f:List Int):= di 137 [b0 9,(11,.v (.c (.own 1000000 none))),(12,bp i)] [(9,[an g,an a,.ro false 3 (.int .i64) b,.ro false 50 (bD) c,.ro false 102 (eH) d,.ro false 95 (c8) e])] [ax 1000000 3 (.int .i64) f]
def kp (g a:Int)(b:List Int)(c:List a6)(d:List bZ)(e:List bT)(f:List Int):= di 137 [b0 9,(11,.v (.c (.own 1000000 none)))] [(9,[an g,an a,.ro false 3 (.int .i64) b,.ro false 50 (bD) c,.ro false 102 (eH) d,.ro false 95 (c8) e])] [ax 1000000 3 (.int .i64) f]
def cx (a:St):Option U:=fp a7 F a8 [.r,.r,.r,.r,.r,.r,.r,.r,.r,.l,.r,.b,.i] f3 J n a
def dR:=gU a7 F a8 [.r,.r,.r,.r,.r,.r,.r,.r,.r,.l,.r,.b] f3 aS 1
def iQ (i k c g e:Int)(f:List Int)(h:List a6)(j:List bZ)(l:List bT)(a r s t u v:Int)(w:ByteArray)(x:List Int)(p:ByteArray)(y:List D4)(z:List D9)(A:List Int)(S:Int)(B:List iO)(b C D E G H:Int)(I:ByteArray)(K:List Int)(q:ByteArray)(L:List D4)(M:List D9)(N:List Int)(O:Int)(P:List iO)(o Q d R m:List Int):cv F J (n+1) (cc i k c g e f h j l a r s t u v w x p y z A S B b C D E G H I K q L M N O P o Q d R m)=br (decide (c<(d.length:Int))) ((yV F0 q p).bind fun T=>br T.1 (ck (bN c (d.length:Int)) (ck (bN c (m.length:Int)) (br (decide ((ay d c 0)>(ay m c 0))) (J .ret (Bz false)) (cv F J n (cc i k (ai (c+1)) g e f h j l a r s t u v w x p y z A S B b C D E G H I K q L M N O P o Q d R m))))) (J (.exit 4) (fj i k g e f h j l o))) (J (.exit 4) (fj i k g e f h j l o)):=by kernel_rfl
def iR (i k g c:Int)(f:List Int)(b:List a6)(h:List bZ)(j:List bT)(a:List Int):cw F J (n+1) (cd i k g c f b h j a)=br (decide (k<(a.length:Int))) (ck (bN i (a.length:Int)) (ck (bN (ay a i 0) (b.length:Int)) (ck (bN k (a.length:Int)) (ck (bN (ay a k 0) (b.length:Int)) ((iG F0 (g,c) (ay b (ay a i 0) bD.aq)).bind fun d=>(iG F0 (g,c) (ay b (ay a k 0) bD.aq)).bind fun e=>br ((ay b (ay a i 0) bD.aq).2.2.2.1.2.2.2.toList==(ay b (ay a k 0) bD.aq).2.2.2.1.2.2.2.toList) ((nj F0 d.1 e.1).bind fun l=>br (!l.1) (J .ret (BA false)) (cv F (cM F J n) F.n (cc i k 0 g c f b h j (ay b (ay a i 0) bD.aq).1 (ay b (ay a i 0) bD.aq).2.1 (ay b (ay a i 0) bD.aq).2.2.1 (ay b (ay a i 0) bD.aq).2.2.2.1.1 (ay b (ay a i 0) bD.aq).2.2.2.1.2.1 (ay b (ay a i 0) bD.aq).2.2.2.1.2.2.1.1 (ay b (ay a i 0) bD.aq).2.2.2.1.2.2.1.2.1 (ay b (ay a i 0) bD.aq).2.2.2.1.2.2.1.2.2 (ay b (ay a i 0) bD.aq).2.2.2.1.2.2.2 (ay b (ay a i 0) bD.aq).2.2.2.2.1 (ay b (ay a i 0) bD.aq).2.2.2.2.2.1 (ay b (ay a i 0) bD.aq).2.2.2.2.2.2.1.1 (ay b (ay a i 0) bD.aq).2.2.2.2.2.2.1.2 (ay b (ay a i 0) bD.aq).2.2.2.2.2.2.2 (ay b (ay a k 0) bD.aq).1 (ay b (ay a k 0) bD.aq).2.1 (ay b (ay a k 0) bD.aq).2.2.1 (ay b (ay a k 0) bD.aq).2.2.2.1.1 (ay b (ay a k 0) bD.aq).2.2.2.1.2.1 (ay b (ay a k 0) bD.aq).2.2.2.1.2.2.1.1 (ay b (ay a k 0) bD.aq).2.2.2.1.2.2.1.2.1 (ay b (ay a k 0) bD.aq).2.2.2.1.2.2.1.2.2 (ay b (ay a k 0) bD.aq).2.2.2.1.2.2.2 (ay b (ay a k 0) bD.aq).2.2.2.2.1 (ay b (ay a k 0) bD.aq).2.2.2.2.2.1 (ay b (ay a k 0) bD.aq).2.2.2.2.2.2.1.1 (ay b (ay a k 0) bD.aq).2.2.2.2.2.2.1.2 (ay b (ay a k 0) bD.aq).2.2.2.2.2.2.2 a d.1.1 d.1.2 e.1.1 e.1.2))) (cv F (cM F J n) F.n (cc i k 0 g c f b h j (ay b (ay a i 0) bD.aq).1 (ay b (ay a i 0) bD.aq).2.1 (ay b (ay a i 0) bD.aq).2.2.1 (ay b (ay a i 0) bD.aq).2.2.2.1.1 (ay b (ay a i 0) bD.aq).2.2.2.1.2.1 (ay b (ay a i 0) bD.aq).2.2.2.1.2.2.1.1 (ay b (ay a i 0) bD.aq).2.2.2.1.2.2.1.2.1 (ay b (ay a i 0) bD.aq).2.2.2.1.2.2.1.2.2 (ay b (ay a i 0) bD.aq).2.2.2.1.2.2.2 (ay b (ay a i 0) bD.aq).2.2.2.2.1 (ay b (ay a i 0) bD.aq).2.2.2.2.2.1 (ay b (ay a i 0) bD.aq).2.2.2.2.2.2.1.1 (ay b (ay a i 0) bD.aq).2.2.2.2.2.2.1.2 (ay b (ay a i 0) bD.aq).2.2.2.2.2.2.2 (ay b (ay a k 0) bD.aq).1 (ay b (ay a k 0) bD.aq).2.1 (ay b (ay a k 0) bD.aq).2.2.1 (ay b (ay a k 0) bD.aq).2.2.2.1.1 (ay b (ay a k 0) bD.aq).2.2.2.1.2.1 (ay b (ay a k 0) bD.aq).2.2.2.1.2.2.1.1 (ay b (ay a k 0) bD.aq).2.2.2.1.2.2.1.2.1 (ay b (ay a k 0) bD.aq).2.2.2.1.2.2.1.2.2 (ay b (ay a k 0) bD.aq).2.2.2.1.2.2.2 (ay b (ay a k 0) bD.aq).2.2.2.2.1 (ay b (ay a k 0) bD.aq).2.2.2.2.2.1 (ay b (ay a k 0) bD.aq).2.2.2.2.2.2.1.1 (ay b (ay a k 0) bD.aq).2.2.2.2.2.2.1.2 (ay b (ay a k 0) bD.aq).2.2.2.2.2.2.2 a d.1.1 d.1.2 e.1.1 e.1.2))))))) (J (.exit 2) (ko i g c f b h j a)):=by kernel_rfl
def iS (i g b:Int)(c:List Int)(d:List a6)(e:List bZ)(f:List bT)(a:List Int):cx F J (n+1) (cg i g b c d e f a)=br (decide (i<(a.length:Int))) (cw F (cN F J n) F.n (cd i 0 g b c d e f a)) (J (.exit 0) (kp g b c d e f a)):=by kernel_rfl
def j2 (i k g a:Int)(b:List Int)(c:List a6)(d:List bZ)(e:List bT)(f:List Int):cM F J n (.exit 4) (fj i k g a b c d e f)=cw F J n (cd i (ai (k+1)) g a b c d e f):=by kernel_rfl
def z8 (i g a:Int)(b:List Int)(c:List a6)(d:List bZ)(e:List bT)(f:List Int):cN F J n (.exit 2) (ko i g a b c d e f)=cx F J n (cg (ai (i+1)) g a b c d e f):=by kernel_rfl
def Aa (g a:Int)(c:List Int)(d:List a6)(e:List bZ)(f:List bT)(b:List Int):dR F (.exit 0) (kp g a c d e f b)=(vB F0 (g,a)).bind fun h=>some (decide ((b.length:Int)>=h.1),()):=by kernel_rfl
def eY (a:List Int):=bh a7 F a8 f3 kH aS 1 (a,())
def Eb (d:List Int):eY F d=(akk F0 d).bind fun e=>br e.1 (some (true,())) ((mU F0 d).bind fun b=>(su F0 b.1.1 b.1.2.1).bind fun c=>(j8 F0 b.1.1 b.1.2.1).bind fun f=>br (!(c.2.1==f.2.1)) (some (false,())) (br (!c.2.1) (some (true,())) ((JL F0 c.1 b.2.1).bind fun a=>(ph F0 a.1).bind fun g=>cx F (dR F) F.n (cg 0 a.1.1.1 a.1.1.2 a.1.2.1 a.1.2.2.1 a.1.2.2.2.1 a.1.2.2.2.2 g.1)))):=by kernel_rfl
def BB:Any:=.one ⟨kH,aS,1,fun x=>eY F0 x.1⟩
def Ec:aX 3 BB:=aw a7 ⟨atX,Zr,aeq,NL,aoK,yN,Yo,ZJ,R6,Ja,trivial⟩ func3 a8 (by kernel_rfl)
end
end Go.Am.Tryz
