/- No condition. -/
import Derived.Test.YtpkabclplaibaaaGreatDoorQhYJG3
set_option linter.all false
set_option maxRecDepth 100000
namespace Go.Am.Tryz
open Go.Am Go.Proofs Go.Proofs.Tryz
noncomputable section
variable {U:Type} (F:kk) (J:Ex->St->Option U) (n:Nat)
def Nq:=[(83,cb),(119,bK),(181,fK),(301,fu),(342,Il)]
abbrev apu:List (Ty×Bool):=[(K1,true),(.sl 3 (.int .i64),false),(K39,false),(K22,true)]
def DY (c:D1)(a:List Int)(b:D39)(m:WZ):=cE Nq F ad f319 apu b3 1 (c,a,b,m,())
def X2 (c:D1)(a:List Int)(b:D39)(m:WZ):DY F c a b m=(dL F0 c m).bind fun d=>br (!d.1) (some (false,())) (br (m.1==1) ((bY F0 m.2.2.1.1).bind fun e=>(iA F0 c e.1).bind fun f=>(cu F0 a f.1).bind fun g=>br g.1 ((pZ F0 a b m.2.2.1.2.1 m.2.2.1.2.2.1 m.2.2.1.2.2.2).bind fun h=>some (h.1,())) (some (false,()))) (br (m.1==2) ((pZ F0 a b m.2.2.2.1.1 m.2.2.2.1.2.1 m.2.2.2.1.2.2).bind fun i=>some (i.1,())) (br (m.1==3) ((cu F0 a m.2.2.2.2.2.1).bind fun j=>br j.1 ((pZ F0 a b m.2.2.2.2.1.1 m.2.2.2.2.1.2.1 m.2.2.2.2.1.2.2).bind fun k=>some (k.1,())) (some (false,()))) (some (true,()))))):=by kernel_rfl
def Im:Any:=.one ⟨apu,b3,1,fun x=>DY F0 x.1 x.2.1 x.2.2.1 x.2.2.2.1⟩
def X3:bw 319 Im:=aM Nq ⟨cW,cg,kr,jH,X1,trivial⟩ func319 ad (by kernel_rfl)
def sq:=[(200,dZ)]
def sr:Nat->Option Hint:=look [(3,{live:=[0,3,4],xl:=[3],rl:=[2]})]
def mG (a:List Int)(i:Int)(b:List Int):= hD 20 [(0,x0 3 (.int .i64) a),(3,.v (.c (.own 1000000 none))),(4,cD i)] [] [aJ 1000000 5 (.int .u8) b]
def DZ (a:List Int):= hD 20 [(3,.v (.c (.own 1000000 none)))] [] [aJ 1000000 5 (.int .u8) a]
def su (a:St):Option U:=hl sq F sr [.r,.r,.l,.r,.b,.i] f203 J n a
def uD:=p9 sq F sr [.r,.r,.l,.r,.b] f203 j6 2
def y5 (a:List Int)(i:Int)(b:List Int):su F J (n+1) (mG a i b)=br (decide (i<(a.length:Int))) (ck (b5 i (a.length:Int)) ((c4 F0 (bd a i 0)).bind fun c=>ck (fc F b.length c.1.length 1) (su F J n (mG a (ak (i+1)) (b++c.1))))) (J (.exit 0) (DZ b)):=by kernel_rfl
def OC (a:List Int):uD F (.exit 0) (DZ a)=some (a,()):=by kernel_rfl
def mH (a:List Int):=cE sq F sr f203 qc j6 2 (a,())
def U3 (a:List Int):mH F a=su F (uD F) F.n (mG a 0 []):=by kernel_rfl
def F4:Any:=.one ⟨qc,j6,2,fun x=>mH F0 x.1⟩
def U4:bw 203 F4:=aM sq ⟨fN,trivial⟩ func203 sr (by kernel_rfl)
def Io:=[(181,fK),(200,dZ),(201,mv),(202,uy),(203,F4)]
def nR (c:D1)(m:WZ):=cE Io F ad f134 ajk j6 2 (c,m,())
def Ss (c:D1)(m:WZ):nR F c m=(dL F0 c m).bind fun l=>br (!l.1) (some ([],())) ((c4 F0 m.1).bind fun a=>br (m.1==1) ((jJ F0 m.2.2.1.1).bind fun e=>ck (fc F a.1.length e.1.length 1) ((mx F0 c m.2.2.1.2).bind fun h=>ck (fc F (a.1++e.1).length h.1.length 1) (some ((a.1++e.1)++h.1,())))) (br (m.1==2) ((c4 F0 m.2.2.2.1.1).bind fun b=>ck (fc F a.1.length b.1.length 1) ((jJ F0 m.2.2.2.1.2.1).bind fun d=>ck (fc F (a.1++b.1).length d.1.length 1) ((c4 F0 (m.2.2.2.1.2.2.length:Int)).bind fun f=>ck (fc F ((a.1++b.1)++d.1).length f.1.length 1) ((mH F0 m.2.2.2.1.2.2).bind fun i=>ck (fc F (((a.1++b.1)++d.1)++f.1).length i.1.length 1) (some ((((a.1++b.1)++d.1)++f.1)++i.1,())))))) (br (m.1==3) ((mH F0 [m.2.1,m.2.2.2.2.2.1]).bind fun g=>ck (fc F a.1.length g.1.length 1) ((mx F0 c m.2.2.2.2.1).bind fun j=>ck (fc F (a.1++g.1).length j.1.length 1) (some ((a.1++g.1)++j.1,())))) ((mH F0 [m.2.2.2.2.2.2.1,m.2.2.2.2.2.2.2.1,m.2.2.2.2.2.2.2.2.1,m.2.2.2.2.2.2.2.2.2]).bind fun k=>ck (fc F a.1.length k.1.length 1) (some (a.1++k.1,())))))):=by kernel_rfl
def sv:Any:=.one ⟨ajk,j6,2,fun x=>nR F0 x.1 x.2.1⟩
def F5:bw 134 sv:=aM Io ⟨kr,fN,yq,H3,U4,trivial⟩ func134 ad (by kernel_rfl)
def sw:=[(117,bA),(134,sv)]
def sx:Nat->Option Hint:=look [(2,{live:=[1,2,4,5],apB:=true,CY:=[(4,2,3,.int .i64),(4,3,42,dU),(4,4,95,tn),(4,5,91,iV)],xl:=[2,4],rl:=[4]})]
def ej (j:List ML)(i w a k l:Int)(m:List Int)(b:List cN)(c:List fi)(d:List et)(e:List Int)(f:List cN)(g:List fi)(h:List et):St:={nt:=55,tm:=[(1,x0 125 (Pm) j),de 2,de 4,(5,cD i)],bx:=[(2,[aw w,aw a,.own 1000000 none,.own 1000001 none,.own 1000002 none,.own 1000003 none]),(4,[aw k,aw l,.own 1000004 none,.own 1000005 none,.own 1000006 none,.own 1000007 none])],bl:=[aJ 1000000 3 (.int .i64) m,aJ 1000001 42 dU b,aJ 1000002 95 tn c,aJ 1000003 91 iV d,aJ 1000004 3 (.int .i64) e,aJ 1000005 42 dU f,aJ 1000006 95 tn g,aJ 1000007 91 iV h],sp:=.v (.c (.none))}
def D0 (w a i j:Int)(k:List Int)(b:List cN)(c:List fi)(d:List et)(e:List Int)(f:List cN)(g:List fi)(h:List et):St:={nt:=55,tm:=[de 2,de 4],bx:=[(2,[aw w,aw a,.own 1000000 none,.own 1000001 none,.own 1000002 none,.own 1000003 none]),(4,[aw i,aw j,.own 1000004 none,.own 1000005 none,.own 1000006 none,.own 1000007 none])],bl:=[aJ 1000000 3 (.int .i64) k,aJ 1000001 42 dU b,aJ 1000002 95 tn c,aJ 1000003 91 iV d,aJ 1000004 3 (.int .i64) e,aJ 1000005 42 dU f,aJ 1000006 95 tn g,aJ 1000007 91 iV h],sp:=.v (.c (.none))}
def fP (a:St):Option U:=hl sw F sx [.r,.l,.r,.b,.i] f110 J n a
def uE:=EV sw F sx [.r,.l,.r,.b] f110 (.own true) fL [] 2
def y6 (a:List ML)(i w c k l:Int)(m:List Int)(d:List cN)(b:List fi)(e:List et)(f:List Int)(g:List cN)(h:List fi)(j:List et):fP F J (n+1) (ej a i w c k l m d b e f g h j)=br (decide (i<(a.length:Int))) (ck (b5 i (a.length:Int)) ((nR F0 (w,c) (bd a i Pm.aI).2).bind fun o=>br (decide ((b.length:Int)<60)) (br (decide ((o.1.length:Int)>0)) (ck (b5 i (a.length:Int)) ((bn F0 (bd a i Pm.aI).1 0 (ak (w-1))).bind fun p=>br p.1 (ck (b5 i (a.length:Int)) (ck (fc F b.length [((bd a i Pm.aI).1,o.1)].length 32) (fP F J n (ej a (ak (i+1)) w c k l m d (b++[((bd a i Pm.aI).1,o.1)]) e f g h j)))) (fP F J n (ej a (ak (i+1)) w c k l m d b e f g h j)))) (fP F J n (ej a (ak (i+1)) w c k l m d b e f g h j))) (fP F J n (ej a (ak (i+1)) w c k l m d b e f g h j)))) (J (.exit 0) (D0 w c k l m d b e f g h j)):=by kernel_rfl
def OD (w a j k:Int)(e:List Int)(b:List cN)(c:List fi)(d:List et)(f:List Int)(g:List cN)(h:List fi)(i:List et):uE F (.exit 0) (D0 w a j k e b c d f g h i)=some ((((w,a),e,b,c,d),()),()):=by kernel_rfl
def sy (w:tv)(a:D24):=eX sw F sx f110 [(fj,true),(K24,false)] 0 (.own true) fL [] 2 (w,a,())
def U5 (w:tv)(a:D24):sy F w a=fP F (uE F) F.n (ej a 0 w.1.1 w.1.2 0 0 w.2.1 w.2.2.1 w.2.2.2.1 w.2.2.2.2 [] [] [] []):=by kernel_rfl
def uF:Any:=.two ⟨[(fj,true),(K24,false)],0,(.own true),fL,2,[],fun x=>sy F0 x.1 x.2.1⟩
def Ip:bw 110 uF:=ahm sw ⟨bX,F5,trivial⟩ func110 sx (by kernel_rfl)
def Nr:=[(110,uF),(117,bA),(319,Im)]
def D7 (w:tv)(d:D45):Option (tv×Int×tv):=ZN Tryz.prog (look Nr) F ad f299 [(fj,true),(K45,true)] 0 (fj,true) (.int .i64,false) (fj,true) (w,d,())
def X4 (w:tv)(d:D45):D7 F w d=(bn F0 d.2.1 0 (ak (w.1.1-1))).bind fun a=>br (!a.1) (some (fj.aI,2,w)) ((DY F0 w.1 w.2.1 w.2.2.2.2 d.2.2.2).bind fun b=>br (!b.1) (some (fj.aI,5,w)) (br (decide ((w.2.2.2.1.length:Int)>=60)) (some (fj.aI,4,w)) ((sy F0 w [(d.2.1,d.2.2.2)]).bind fun c=>some (c.1.1,0,fj.aI)))):=by kernel_rfl
def Iq:Any:=.sel ⟨[(fj,true),(K45,true)],0,(fj,true),(.int .i64,false),(fj,true),fun x=>D7 F0 x.1 x.2.1⟩
def X5:bw 299 Iq:=ok4 (show re Tryz.prog TB Nr from⟨Ip,bX,X3,trivial⟩) func299 (by kernel_rfl) (by kernel_rfl) ad (by kernel_rfl) (by kernel_rfl)
def vN:=[(83,cb)]
def vO:Nat->Option Hint:=look [(3,{live:=[1,3,4],xl:=[3],rl:=[2]})]
def gn (i w a:Int)(b:List Int)(c:List cN)(d:List fi)(e:List et)(f:List Int):= hD 23 [de 1,(3,.v (.c (.own 1000000 none))),(4,cD i)] [(1,[aw w,aw a,.ro false 3 (.int .i64) b,.ro false 42 (dU) c,.ro false 95 (tn) d,.ro false 91 (iV) e])] [aJ 1000000 3 (.int .i64) f]
def F6 (a:List Int):= hD 23 [(3,.v (.c (.own 1000000 none)))] [] [aJ 1000000 3 (.int .i64) a]
def ky (a:St):Option U:=hl vN F vO [.r,.r,.l,.r,.b,.i] f55 J n a
def o2:=p9 vN F vO [.r,.r,.l,.r,.b] f55 qc 2
def Cx (i w d:Int)(b:List Int)(c:List cN)(e:List fi)(f:List et)(a:List Int):ky F J (n+1) (gn i w d b c e f a)=br (decide (i<(c.length:Int))) ((cu F0 b i).bind fun g=>br (!g.1) (ck (fc F a.length [i].length 8) (ky F J n (gn (ak (i+1)) w d b c e f (a++[i])))) (ky F J n (gn (ak (i+1)) w d b c e f a))) (J (.exit 0) (F6 a)):=by kernel_rfl
def Qz (a:List Int):o2 F (.exit 0) (F6 a)=some (a,()):=by kernel_rfl
def wO (w:tv):=cE vN F vO f55 fL qc 2 (w,())
def X6 (w:tv):wO F w=ky F (o2 F) F.n (gn 0 w.1.1 w.1.2 w.2.1 w.2.2.1 w.2.2.2.1 w.2.2.2.2 []):=by kernel_rfl
def yw:Any:=.one ⟨fL,qc,2,fun x=>wO F0 x.1⟩
def Kq:bw 55 yw:=aM vN ⟨cW,trivial⟩ func55 vO (by kernel_rfl)
def sz:=[(115,bN),(176,bs),(347,iH)]
def sA:Nat->Option Hint:=look [(5,{live:=[3,4,5,6,8,9],CY:=[(6,7,3,.int .i64),(6,9,99,K4),(6,10,29,K9),(6,11,5,.int .u8),(6,13,125,Pm)],xl:=[6,8],rl:=[6,7]})]
def iJ (i c a r b d e f g:Int)(h:ByteArray)(j:List Int)(k:ByteArray)(l:List D4)(o:List D9)(p:List Int)(q:Int)(s:List ML)(m M:Int)(m2:ByteArray)(N:Int)(O:ByteArray)(P:List Int)(Q:Int)(R:ByteArray)(S:List Int)(T:Int)(W:ByteArray)(X:List Int)(Y Z qa qb qd qe qf qg qh qi qj:Int)(qk ql:ByteArray)(qm qn t u v w x:Int)(y z:ByteArray)(A:Int)(qo:List Int)(B:List D4)(C:List D9)(D:List Int)(E:List ML)(G:List Int)(H:List D4)(I:List D9)(K:List Int)(L:List ML):= hD 43 [de 3,de 4,de 5,de 6,de 8,(9,cD i)] [(3,[aw c,aw a]),(4,[aw r,aw b,aw d,aw e,aw f,aw g,.str h,.ro false 3 (.int .i64) j,.str k,.ro false 99 (K4) l,.ro false 29 (K9) o,.ro false 5 (.int .u8) p,aw q,.ro false 125 (Pm) s]),(5,[aw m,aw M,.str m2,aw N,.str O,.ro false 3 (.int .i64) P,aw Q,.str R,.ro false 3 (.int .i64) S,aw T,.str W,.ro false 3 (.int .i64) X,aw Y,aw Z,aw qa,aw qb,aw qd]),(6,[aw qe,aw qf,aw qg,aw qh,aw qi,aw qj,.str qk,.own 1000000 none,.str ql,.own 1000001 none,.own 1000002 none,.own 1000003 none,aw qm,.own 1000004 none]),(8,[aw qn,aw t,aw u,aw v,aw w,aw x,.str y,.own 1000005 none,.str z,.own 1000006 none,.own 1000007 none,.own 1000008 none,aw A,.own 1000009 none])] [aJ 1000000 3 (.int .i64) qo,aJ 1000001 99 K4 B,aJ 1000002 29 K9 C,aJ 1000003 5 (.int .u8) D,aJ 1000004 125 Pm E,aJ 1000005 3 (.int .i64) G,aJ 1000006 99 K4 H,aJ 1000007 29 K9 I,aJ 1000008 5 (.int .u8) K,aJ 1000009 125 Pm L]
def F7 (e:Bool)(f g h i j k:Int)(l m:ByteArray)(o:Int)(p:List Int)(a:List D4)(b:List D9)(c:List Int)(d:List ML):= hD 43 [de 6,(7,Uk e)] [(6,[aw f,aw g,aw h,aw i,aw j,aw k,.str l,.own 1000000 none,.str m,.own 1000001 none,.own 1000002 none,.own 1000003 none,aw o,.own 1000004 none])] [aJ 1000000 3 (.int .i64) p,aJ 1000001 99 K4 a,aJ 1000002 29 K9 b,aJ 1000003 5 (.int .u8) c,aJ 1000004 125 Pm d]
def Ea (s t u v w x:Int)(y z:ByteArray)(A B a b c d e:Int)(f g:ByteArray)(h:Int)(C:List Int)(i:List D4)(j:List D9)(k:List Int)(l:List ML)(m:List Int)(o:List D4)(p:List D9)(q:List Int)(r:List ML):= hD 43 [de 6,de 8] [(6,[aw s,aw t,aw u,aw v,aw w,aw x,.str y,.own 1000000 none,.str z,.own 1000001 none,.own 1000002 none,.own 1000003 none,aw A,.own 1000004 none]),(8,[aw B,aw a,aw b,aw c,aw d,aw e,.str f,.own 1000005 none,.str g,.own 1000006 none,.own 1000007 none,.own 1000008 none,aw h,.own 1000009 none])] [aJ 1000000 3 (.int .i64) C,aJ 1000001 99 K4 i,aJ 1000002 29 K9 j,aJ 1000003 5 (.int .u8) k,aJ 1000004 125 Pm l,aJ 1000005 3 (.int .i64) m,aJ 1000006 99 K4 o,aJ 1000007 29 K9 p,aJ 1000008 5 (.int .u8) q,aJ 1000009 125 Pm r]
def lO (a:St):Option U:=hl sz F sA [.r,.r,.r,.l,.r,.b,.i] f343 J n a
def mI:=p9 sz F sA [.r,.r,.r,.l,.r,.b] f343 rS 2
def y7 (i c d r e f g h j:Int)(k:ByteArray)(l:List Int)(o:ByteArray)(p:List D4)(q:List D9)(s:List Int)(t:Int)(u:List ML)(m O:Int)(m2:ByteArray)(P:Int)(Q:ByteArray)(R:List Int)(S:Int)(T:ByteArray)(W:List Int)(X:Int)(Y:ByteArray)(Z:List Int)(qa qb qd qe qf qg qh qi qj qk ql:Int)(qm qn:ByteArray)(qo qp v w x y z:Int)(A B:ByteArray)(C:Int)(qq:List Int)(D:List D4)(E:List D9)(G:List Int)(H:List ML)(I:List Int)(K:List D4)(L:List D9)(M:List Int)(N:List ML):lO F J (n+1) (iJ i c d r e f g h j k l o p q s t u m O m2 P Q R S T W X Y Z qa qb qd qe qf qg qh qi qj qk ql qm qn qo qp v w x y z A B C qq D E G H I K L M N)=br (decide (i<c)) (br (i==r) (lO F J n (iJ (ak (i+1)) c d r e f g h j k l o p q s t u m O m2 P Q R S T W X Y Z qa qb qd qe qf qg qh qi qj qk ql qm qn qo qp v w x y z A B C qq D E G H I K L M N)) ((dN F0 (c,d) (qp,v,w,(x,y,(z,A,I),B),K,L,(M,C),N) i (m,O,(m2,P,Q,R),(S,T,W),(X,Y,Z),qa,qb,qd,qe,qf)).bind fun a=>br (!a.1.2.1) ((aK F0 (r,e,f,(g,h,(j,k,l),o),p,q,(s,t),u)).bind fun b=>J .ret (F7 false b.1.1 b.1.2.1 b.1.2.2.1 b.1.2.2.2.1.1 b.1.2.2.2.1.2.1 b.1.2.2.2.1.2.2.1.1 b.1.2.2.2.1.2.2.1.2.1 b.1.2.2.2.1.2.2.2 b.1.2.2.2.2.2.2.1.2 b.1.2.2.2.1.2.2.1.2.2 b.1.2.2.2.2.1 b.1.2.2.2.2.2.1 b.1.2.2.2.2.2.2.1.1 b.1.2.2.2.2.2.2.2)) (lO F J n (iJ (ak (i+1)) c d r e f g h j k l o p q s t u m O m2 P Q R S T W X Y Z qa qb qd qe qf qg qh qi qj qk ql qm qn qo a.1.1.1 a.1.1.2.1 a.1.1.2.2.1 a.1.1.2.2.2.1.1 a.1.1.2.2.2.1.2.1 a.1.1.2.2.2.1.2.2.1.1 a.1.1.2.2.2.1.2.2.1.2.1 a.1.1.2.2.2.1.2.2.2 a.1.1.2.2.2.2.2.2.1.2 qq D E G H a.1.1.2.2.2.1.2.2.1.2.2 a.1.1.2.2.2.2.1 a.1.1.2.2.2.2.2.1 a.1.1.2.2.2.2.2.2.1.1 a.1.1.2.2.2.2.2.2.2)))) (J (.exit 0) (Ea qg qh qi qj qk ql qm qn qo qp v w x y z A B C qq D E G H I K L M N)):=by kernel_rfl
def QA (e:Bool)(f g h i j k:Int)(l m:ByteArray)(o:Int)(p:List Int)(a:List D4)(b:List D9)(c:List Int)(d:List ML):mI F .ret (F7 e f g h i j k l m o p a b c d)=some ((f,g,h,(i,j,(k,l,p),m),a,b,(c,o),d),e,()):=by kernel_rfl
def OE (t u v w x y:Int)(z A:ByteArray)(B o a b c d e:Int)(f g:ByteArray)(h:Int)(C:List Int)(p:List D4)(q:List D9)(r:List Int)(s:List ML)(i:List Int)(j:List D4)(k:List D9)(l:List Int)(m:List ML):mI F (.exit 0) (Ea t u v w x y z A B o a b c d e f g h C p q r s i j k l m)=some ((o,a,b,(c,d,(e,f,i),g),j,k,(l,h),m),true,()):=by kernel_rfl
def sB (c:D1)(r:cN)(m:WZ):=cE sz F sA f343 abi rS 2 (c,r,m,())
def U6 (c:D1)(r:cN)(m:WZ):sB F c r m=(aK F0 r).bind fun a=>(cQ F0 c r).bind fun b=>br (!b.1) (some (a.1,false,())) (lO F (mI F) F.n (iJ 0 c.1 c.2 r.1 r.2.1 r.2.2.1 r.2.2.2.1.1 r.2.2.2.1.2.1 r.2.2.2.1.2.2.1.1 r.2.2.2.1.2.2.1.2.1 r.2.2.2.1.2.2.1.2.2 r.2.2.2.1.2.2.2 r.2.2.2.2.1 r.2.2.2.2.2.1 r.2.2.2.2.2.2.1.1 r.2.2.2.2.2.2.1.2 r.2.2.2.2.2.2.2 m.1 m.2.1 m.2.2.1.1 m.2.2.1.2.1 m.2.2.1.2.2.1 m.2.2.1.2.2.2 m.2.2.2.1.1 m.2.2.2.1.2.1 m.2.2.2.1.2.2 m.2.2.2.2.1.1 m.2.2.2.2.1.2.1 m.2.2.2.2.1.2.2 m.2.2.2.2.2.1 m.2.2.2.2.2.2.1 m.2.2.2.2.2.2.2.1 m.2.2.2.2.2.2.2.2.1 m.2.2.2.2.2.2.2.2.2 0 0 0 0 0 0 ah ah 0 a.1.1 a.1.2.1 a.1.2.2.1 a.1.2.2.2.1.1 a.1.2.2.2.1.2.1 a.1.2.2.2.1.2.2.1.1 a.1.2.2.2.1.2.2.1.2.1 a.1.2.2.2.1.2.2.2 a.1.2.2.2.2.2.2.1.2 [] [] [] [] [] a.1.2.2.2.1.2.2.1.2.2 a.1.2.2.2.2.1 a.1.2.2.2.2.2.1 a.1.2.2.2.2.2.2.1.1 a.1.2.2.2.2.2.2.2)):=by kernel_rfl
def F8:Any:=.one ⟨abi,rS,2,fun x=>sB F0 x.1 x.2.1 x.2.2.1⟩
def U7:bw 343 F8:=aM sz ⟨cn,bL,oW,trivial⟩ func343 sA (by kernel_rfl)
def Ns:=[(176,bs),(265,G1),(343,F8),(344,py)]
def Eb (w:tv)(a:Int):Option (tv×Int×tv):=ZN Tryz.prog (look Ns) F ad f320 [(fj,true),(.int .i64,false)] 0 (fj,true) (.int .i64,false) (fj,true) (w,a,())
def X7 (w:tv)(a:Int):Eb F w a=ck (b5 a (w.2.2.1.length:Int)) ((J6 F0 w.1 (bd w.2.2.1 a dU.aI)).bind fun c=>br (!c.2.1) (some (fj.aI,3,w)) (ck (b5 a (w.2.2.1.length:Int)) ((aK F0 (bd w.2.2.1 a dU.aI)).bind fun b=>(sB F0 w.1 (b.1.1,b.1.2.1,b.1.2.1,b.1.2.2.2) (1,0,c.1,(0,ah,[]),(0,ah,[]),0,0,0,0,0)).bind fun d=>(lN F0 w.1 d.1 c.1).bind fun e=>br (!d.2.1) (some (fj.aI,4,w)) (br (!e.2.1) (some (fj.aI,4,w)) (ck (b5 a (w.2.2.1.length:Int)) (some ((w.1,w.2.1,w.2.2.1.set a.toNat e.1,w.2.2.2),0,fj.aI))))))):=by kernel_rfl
def Ir:Any:=.sel ⟨[(fj,true),(.int .i64,false)],0,(fj,true),(.int .i64,false),(fj,true),fun x=>Eb F0 x.1 x.2.1⟩
def X8:bw 320 Ir:=ok4 (show re Tryz.prog TB Ns from⟨bL,TJ,U7,DT,trivial⟩) func320 (by kernel_rfl) (by kernel_rfl) ad (by kernel_rfl) (by kernel_rfl)
def TO:=[(180,kc),(249,iD)]
def LL (d:D15):=cE TO F ad f360 Dt Dt 2 (d,())
def ac5 (d:D15):LL F d=(fk F0 d).bind fun a=>(jj F0 d).bind fun b=>br b.1 (some ((a.1.1,(d.1.length:Int)),())) (some (a.1,())):=by kernel_rfl
def Nt:Any:=.one ⟨Dt,Dt,2,fun x=>LL F0 x.1⟩
def ac6:bw 360 Nt:=aM TO ⟨rM,oP,trivial⟩ func360 ad (by kernel_rfl)
def Kr:=[(115,bN),(176,bs),(250,r4),(360,Nt)]
def AS (c:D1)(r:cN):=cE Kr F ad f345 yQ [(dU,true),(K24,false)] 2 (c,r,())
def U8 (c:D1)(r:cN):AS F c r=(aK F0 r).bind fun a=>(cQ F0 c r).bind fun b=>br (!b.1) (some (a.1,[],())) ((LL F0 r.2.2.2.2.2.2.1).bind fun d=>(nP F0 r.2.2.2.2.2.2.2).bind fun e=>some ((a.1.1,a.1.2.1,a.1.2.2.1,a.1.2.2.2.1,a.1.2.2.2.2.1,a.1.2.2.2.2.2.1,d.1,[]),e.1,())):=by kernel_rfl
def F9:Any:=.one ⟨yQ,[(dU,true),(K24,false)],2,fun x=>AS F0 x.1 x.2.1⟩
def U9:bw 345 F9:=aM Kr ⟨cn,bL,FN,ac6,trivial⟩ func345 ad (by kernel_rfl)
def iK:=[(176,bs)]
def iL:Nat->Option Hint:=look [(3,{live:=[1,2,3,4],CY:=[(2,2,3,.int .i64),(2,3,42,dU),(2,4,95,tn),(2,5,91,iV),(3,3,42,dU),(3,4,95,tn)],xl:=[1,2,3],rl:=[2]}),(7,{live:=[1,2,3,5],xl:=[2,3],rl:=[2]}),(999999,{live:=[1]})]
def mJ (w:tv)(i j k l a:Int)(m:List Int)(b:List cN)(c:List fi)(d:List et)(e:List Int)(f:List cN)(g:List fi)(h:List et):St:={nt:=63,tm:=[(1,.v (.c (.IS false (fj) w 0))),de 2,de 3,(5,cD i)],bx:=[(2,[aw j,aw k,.own 1000000 none,.own 1000001 none,.own 1000002 none,.own 1000003 none]),(3,[aw l,aw a,.own 1000004 none,.own 1000005 none,.own 1000006 none,.own 1000007 none])],bl:=[aJ 1000000 3 (.int .i64) m,aJ 1000001 42 dU b,aJ 1000002 95 tn c,aJ 1000003 91 iV d,aJ 1000004 3 (.int .i64) e,aJ 1000005 42 dU f,aJ 1000006 95 tn g,aJ 1000007 91 iV h],rob:=[1]}
def Ec (i j k a:Int)(l:List Int)(b:List cN)(c:List fi)(d:List et)(e:List Int)(f:List cN)(g:List fi)(h:List et):St:={nt:=63,tm:=[de 2,de 3],bx:=[(2,[aw i,aw j,.own 1000000 none,.own 1000001 none,.own 1000002 none,.own 1000003 none]),(3,[aw k,aw a,.own 1000004 none,.own 1000005 none,.own 1000006 none,.own 1000007 none])],bl:=[aJ 1000000 3 (.int .i64) l,aJ 1000001 42 dU b,aJ 1000002 95 tn c,aJ 1000003 91 iV d,aJ 1000004 3 (.int .i64) e,aJ 1000005 42 dU f,aJ 1000006 95 tn g,aJ 1000007 91 iV h],rob:=[1]}
def sC (a:St):Option U:=hl iK F iL [.r,.r,.r,.l,.r,.b,.i] f109 J n a
def uG:=p9 iK F iL [.r,.r,.r,.l,.r,.b] f109 fL 2
def mK (w:tv)(i j k l a:Int)(m:List Int)(b:List cN)(c:List fi)(d:List et)(e:List Int)(f:List cN)(g:List fi)(h:List et):St:={nt:=63,tm:=[(1,.v (.c (.IS false (fj) w 0))),de 2,de 3,(4,cD i)],bx:=[(2,[aw j,aw k,.own 1000000 none,.own 1000001 none,.own 1000002 none,.own 1000003 none]),(3,[aw l,aw a,.own 1000004 none,.own 1000005 none,.own 1000006 none,.own 1000007 none])],bl:=[aJ 1000000 3 (.int .i64) m,aJ 1000001 42 dU b,aJ 1000002 95 tn c,aJ 1000003 91 iV d,aJ 1000004 3 (.int .i64) e,aJ 1000005 42 dU f,aJ 1000006 95 tn g,aJ 1000007 91 iV h],rob:=[1]}
def Ed (w:tv)(i j k a:Int)(l:List Int)(b:List cN)(c:List fi)(d:List et)(e:List Int)(f:List cN)(g:List fi)(h:List et):St:={nt:=63,tm:=[(1,.v (.c (.IS false (fj) w 0))),de 2,de 3],bx:=[(2,[aw i,aw j,.own 1000000 none,.own 1000001 none,.own 1000002 none,.own 1000003 none]),(3,[aw k,aw a,.own 1000004 none,.own 1000005 none,.own 1000006 none,.own 1000007 none])],bl:=[aJ 1000000 3 (.int .i64) l,aJ 1000001 42 dU b,aJ 1000002 95 tn c,aJ 1000003 91 iV d,aJ 1000004 3 (.int .i64) e,aJ 1000005 42 dU f,aJ 1000006 95 tn g,aJ 1000007 91 iV h],rob:=[1]}
def sD (a:St):Option U:=hl iK F iL [.r,.r,.l,.r,.b,.i] f109 J n a
def uH:=p9 iK F iL [.r,.r,.l,.r,.b] f109 fL 2
def y8 (w:tv)(i j k l b:Int)(m:List Int)(c:List cN)(d:List fi)(e:List et)(f:List Int)(g:List cN)(a:List fi)(h:List et):sC F J (n+1) (mJ w i j k l b m c d e f g a h)=br (decide (i<(w.2.2.2.1.length:Int))) (ck (b5 i (w.2.2.2.1.length:Int)) (ck (b5 i (w.2.2.2.1.length:Int)) (ck (fc F 0 (bd w.2.2.2.1 i (0,[])).2.length 1) (ck (fc F a.length [((bd w.2.2.2.1 i (0,[])).1,[]++(bd w.2.2.2.1 i (0,[])).2)].length 32) (sC F J n (mJ w (ak (i+1)) j k l b m c d e f g (a++[((bd w.2.2.2.1 i (0,[])).1,[]++(bd w.2.2.2.1 i (0,[])).2)]) h)))))) (J (.exit 2) (Ec j k l b m c d e f g a h)):=by kernel_rfl
def y9 (w:tv)(i j k l b:Int)(m:List Int)(c:List cN)(d:List fi)(e:List et)(f:List Int)(a:List cN)(g:List fi)(h:List et):sD F J (n+1) (mK w i j k l b m c d e f a g h)=br (decide (i<(w.2.2.1.length:Int))) (ck (b5 i (w.2.2.1.length:Int)) ((aK F0 (bd w.2.2.1 i dU.aI)).bind fun o=>ck (fc F a.length [o.1].length 208) (sD F J n (mK w (ak (i+1)) j k l b m c d e f (a++[o.1]) g h)))) (J (.exit 0) (Ed w j k l b m c d e f a g h)):=by kernel_rfl
def OF (j k f a:Int)(l:List Int)(g:List cN)(h:List fi)(i:List et)(b:List Int)(c:List cN)(d:List fi)(e:List et):uG F (.exit 2) (Ec j k f a l g h i b c d e)=some (((f,a),b,c,d,e),()):=by kernel_rfl
def OG (w:tv)(i j k a:Int)(l:List Int)(b:List cN)(c:List fi)(d:List et)(e:List Int)(f:List cN)(g:List fi)(h:List et):uH F (.exit 0) (Ed w i j k a l b c d e f g h)=sC F (uG F) F.n (mJ w 0 i j k a l b c d e f g h):=by kernel_rfl
def AT (w:tv):=cE iK F iL f109 fL fL 2 (w,())
def Va (w:tv):AT F w=ck (fc F 0 w.2.1.length 8) (ck (fc F 0 w.2.2.2.2.length 32) (sD F (uH F) F.n (mK w 0 0 0 w.1.1 w.1.2 [] [] [] [] ([]++w.2.1) [] [] ([]++w.2.2.2.2)))):=by kernel_rfl
def Ga:Any:=.one ⟨fL,fL,2,fun x=>AT F0 x.1⟩
def Vb:bw 109 Ga:=aM iK ⟨bL,trivial⟩ func109 iL (by kernel_rfl)
def Nu:=[(83,cb)]
abbrev aeW:List (Ty×Bool):=[(K39,false)]
def Ee (a:Int)(m:WZ):=cE Nu F ad f111 [(.int .i64,false),(K22,true)] aeW 2 (a,m,())
def X9 (a:Int)(m:WZ):Ee F a m=br (m.1==2) (br (m.1==4) (some ([],())) (br (m.2.2.2.1.2.1.toList==ah.toList) (some ([],())) ((cu F0 m.2.2.2.1.2.2 a).bind fun b=>br (!b.1) (some ([],())) (some ([(m.2.2.2.1.1,m.2.2.2.1.2.1,a)],()))))) (br (m.1==1) (br (m.1==4) (some ([],())) (br (m.2.2.1.2.2.1.toList==ah.toList) (some ([],())) ((cu F0 m.2.2.1.2.2.2 a).bind fun b=>br (!b.1) (some ([],())) (some ([(m.2.2.1.2.1,m.2.2.1.2.2.1,a)],()))))) (br (m.1==4) (some ([],())) (br (m.2.2.2.2.1.2.1.toList==ah.toList) (some ([],())) ((cu F0 m.2.2.2.2.1.2.2 a).bind fun b=>br (!b.1) (some ([],())) (some ([(m.2.2.2.2.1.1,m.2.2.2.2.1.2.1,a)],())))))):=by kernel_rfl
def Is:Any:=.one ⟨[(.int .i64,false),(K22,true)],aeW,2,fun x=>Ee F0 x.1 x.2.1⟩
def Ya:bw 111 Is:=aM Nu ⟨cW,trivial⟩ func111 ad (by kernel_rfl)
def jK:=[(55,yw),(83,cb),(109,Ga),(111,Is),(112,yv)]
def jL:Nat->Option Hint:=look [(5,{live:=[1,2,6,7,8],CY:=[(6,2,3,.int .i64),(6,3,42,dU),(6,4,95,tn),(6,5,91,iV)],xl:=[6,7],rl:=[6]}),(9,{live:=[1,2,6,7,8,9,10],xl:=[1,2,6,7,8],rl:=[6]})]
def iM (l:Int)(m:List ML)(i k o p q a:Int)(r:List et)(b:List Int)(c:List cN)(d:List fi)(e:List et)(f:List Int)(g:List cN)(h:List fi)(j:List et):= hD 66 [(1,cD l),(2,x0 125 (Pm) m),de 6,de 7,(8,cD i),(9,.v (.c (.own 1000000 none))),(10,cD k)] [(6,[aw o,aw p,.own 1000001 none,.own 1000002 none,.own 1000003 none,.own 1000004 none]),(7,[aw q,aw a,.own 1000005 none,.own 1000006 none,.own 1000007 none,.own 1000008 none])] [aJ 1000000 91 iV r,aJ 1000001 3 (.int .i64) b,aJ 1000002 42 dU c,aJ 1000003 95 tn d,aJ 1000004 91 iV e,aJ 1000005 3 (.int .i64) f,aJ 1000006 42 dU g,aJ 1000007 95 tn h,aJ 1000008 91 iV j]
def It (j:Int)(k:List ML)(i l m o a:Int)(p:List Int)(b:List cN)(c:List fi)(d:List et)(e:List Int)(f:List cN)(g:List fi)(h:List et):= hD 66 [(1,cD j),(2,x0 125 (Pm) k),de 6,de 7,(8,cD i)] [(6,[aw l,aw m,.own 1000000 none,.own 1000001 none,.own 1000002 none,.own 1000003 none]),(7,[aw o,aw a,.own 1000004 none,.own 1000005 none,.own 1000006 none,.own 1000007 none])] [aJ 1000000 3 (.int .i64) p,aJ 1000001 42 dU b,aJ 1000002 95 tn c,aJ 1000003 91 iV d,aJ 1000004 3 (.int .i64) e,aJ 1000005 42 dU f,aJ 1000006 95 tn g,aJ 1000007 91 iV h]
def mL (a:St):Option U:=hl jK F jL [.r,.r,.r,.l,.r,.b,.i,.r,.l,.b,.r,.r,.b,.i] f52 J n a
def Cy:Ex->St->Option U:=Wk Tryz.prog (look jK) F jL [.r,.l,.b,.r,.r,.b] (sub [.r,.r,.r,.l,.r,.b,.i] (ia f52)) (itk Tryz.prog (look jK) F jL (sub [.r,.r,.r,.l,.r,.b,.i] (ia f52)) J n)
def sE (j:Int)(k:List ML)(i l m o a:Int)(p:List Int)(b:List cN)(c:List fi)(d:List et)(e:List Int)(f:List cN)(g:List fi)(h:List et):= hD 66 [(1,cD j),(2,x0 125 (Pm) k),de 6,de 7,(8,cD i)] [(6,[aw l,aw m,.own 1000000 none,.own 1000001 none,.own 1000002 none,.own 1000003 none]),(7,[aw o,aw a,.own 1000004 none,.own 1000005 none,.own 1000006 none,.own 1000007 none])] [aJ 1000000 3 (.int .i64) p,aJ 1000001 42 dU b,aJ 1000002 95 tn c,aJ 1000003 91 iV d,aJ 1000004 3 (.int .i64) e,aJ 1000005 42 dU f,aJ 1000006 95 tn g,aJ 1000007 91 iV h]
def Iu (i j k a:Int)(l:List Int)(b:List cN)(c:List fi)(d:List et)(e:List Int)(f:List cN)(g:List fi)(h:List et):= hD 66 [de 6,de 7] [(6,[aw i,aw j,.own 1000000 none,.own 1000001 none,.own 1000002 none,.own 1000003 none]),(7,[aw k,aw a,.own 1000004 none,.own 1000005 none,.own 1000006 none,.own 1000007 none])] [aJ 1000000 3 (.int .i64) l,aJ 1000001 42 dU b,aJ 1000002 95 tn c,aJ 1000003 91 iV d,aJ 1000004 3 (.int .i64) e,aJ 1000005 42 dU f,aJ 1000006 95 tn g,aJ 1000007 91 iV h]
def AU (a:St):Option U:=hl jK F jL [.r,.r,.r,.l,.r,.b,.i] f52 J n a
def sF:=p9 jK F jL [.r,.r,.r,.l,.r,.b] f52 fL 2
def Ef (m:Int)(o:List ML)(i k p q r c:Int)(a:List et)(d:List Int)(e:List cN)(f:List fi)(g:List et)(h:List Int)(j:List cN)(l:List fi)(b:List et):mL F J (n+1) (iM m o i k p q r c a d e f g h j l b)=br (decide (k<(a.length:Int))) (ck (b5 k (a.length:Int)) (br (decide ((b.length:Int)<300)) ((wN F0 b (bd a k iV.aI).1 (bd a k iV.aI).2.1 (bd a k iV.aI).2.2).bind fun s=>br (!s.1) (ck (fc F b.length [(bd a k iV.aI)].length 32) (mL F J n (iM m o i (ak (k+1)) p q r c a d e f g h j l (b++[(bd a k iV.aI)])))) (mL F J n (iM m o i (ak (k+1)) p q r c a d e f g h j l b))) (mL F J n (iM m o i (ak (k+1)) p q r c a d e f g h j l b)))) (J (.exit 2) (It m o i p q r c d e f g h j l b)):=by kernel_rfl
def Eg (k:Int)(a:List ML)(i l m o b:Int)(p:List Int)(c:List cN)(d:List fi)(e:List et)(f:List Int)(g:List cN)(h:List fi)(j:List et):AU F J (n+1) (sE k a i l m o b p c d e f g h j)=br (decide (i<(a.length:Int))) (ck (b5 i (a.length:Int)) ((Ee F0 k (bd a i Pm.aI).2).bind fun q=>mL F (Cy F J n) F.n (iM k a i 0 l m o b q.1 p c d e f g h j))) (J (.exit 0) (Iu l m o b p c d e f g h j)):=by kernel_rfl
def Su (j:Int)(k:List ML)(i l m o a:Int)(p:List Int)(b:List cN)(c:List fi)(d:List et)(e:List Int)(f:List cN)(g:List fi)(h:List et):Cy F J n (.exit 2) (It j k i l m o a p b c d e f g h)=AU F J n (sE j k (ak (i+1)) l m o a p b c d e f g h):=by kernel_rfl
def Sv (j k f a:Int)(l:List Int)(g:List cN)(h:List fi)(i:List et)(b:List Int)(c:List cN)(d:List fi)(e:List et):sF F (.exit 0) (Iu j k f a l g h i b c d e)=some (((f,a),b,c,d,e),()):=by kernel_rfl
abbrev apv:List (Ty×Bool):=[(fj,true),(.int .i64,false),(K24,false)]
def Cz (w:tv)(a:Int)(b:D24):=cE jK F jL f52 apv fL 2 (w,a,b,())
def aai (w:tv)(b:Int)(c:D24):Cz F w b c=(AT F0 w).bind fun a=>(wO F0 w).bind fun d=>(cu F0 d.1 b).bind fun e=>br (!e.1) (some (a.1,())) (AU F (sF F) F.n (sE b c 0 0 0 a.1.1.1 a.1.1.2 [] [] [] [] a.1.2.1 a.1.2.2.1 a.1.2.2.2.1 a.1.2.2.2.2)):=by kernel_rfl
def Ks:Any:=.one ⟨apv,fL,2,fun x=>Cz F0 x.1 x.2.1 x.2.2.1⟩
def aaj:bw 52 Ks:=aM jK ⟨Kq,cW,Vb,Ya,Kp,trivial⟩ func52 jL (by kernel_rfl)
def Kt:=[(52,Ks),(110,uF),(345,F9)]
def AW (w:tv)(a:Int):Option (tv×Int×tv):=ZN Tryz.prog (look Kt) F ad f321 [(fj,true),(.int .i64,false)] 0 (fj,true) (.int .i64,false) (fj,true) (w,a,())
def Vc (w:tv)(a:Int):AW F w a=ck (b5 a (w.2.2.1.length:Int)) ((AS F0 w.1 (bd w.2.2.1 a dU.aI)).bind fun b=>br (decide ((ak ((w.2.2.2.1.length:Int)+(b.2.1.length:Int)))>60)) (some (fj.aI,4,w)) (br (decide ((ak ((w.2.2.2.2.length:Int)+(b.2.1.length:Int)))>300)) (some (fj.aI,4,w)) (ck (b5 a (w.2.2.1.length:Int)) ((Cz F0 (w.1,w.2.1,w.2.2.1.set a.toNat b.1,w.2.2.2) a b.2.1).bind fun c=>(sy F0 c.1 b.2.1).bind fun d=>some (d.1.1,0,fj.aI))))):=by kernel_rfl
def Gb:Any:=.sel ⟨[(fj,true),(.int .i64,false)],0,(fj,true),(.int .i64,false),(fj,true),fun x=>AW F0 x.1 x.2.1⟩
def Vd:bw 321 Gb:=ok4 (show re Tryz.prog TB Kt from⟨aaj,Ip,U9,trivial⟩) func321 (by kernel_rfl) (by kernel_rfl) ad (by kernel_rfl) (by kernel_rfl)
def QB:=[(115,bN),(176,bs),(361,k4)]
def Ha (c:D1)(r:cN)(a:Int)(name:ByteArray)(b:Bool):=cE QB F ad f346 ajt rS 2 (c,r,a,name,b,())
def aak (c:D1)(r:cN)(b:Int)(name:ByteArray)(d:Bool):Ha F c r b name d=(cQ F0 c r).bind fun e=>br (!e.1) ((aK F0 r).bind fun f=>some (f.1,false,())) ((aK F0 r).bind fun g=>(kv F0 c g.1 b name d).bind fun a=>br (!a.1.2.1) ((aK F0 r).bind fun h=>some (h.1,false,())) (some (a.1.1,true,()))):=by kernel_rfl
def Ku:Any:=.one ⟨ajt,rS,2,fun x=>Ha F0 x.1 x.2.1 x.2.2.1 x.2.2.2.1 x.2.2.2.2.1⟩
def aal:bw 346 Ku:=aM QB ⟨cn,bL,uC,trivial⟩ func346 ad (by kernel_rfl)
end
end Go.Am.Tryz
namespace Go.Am.Tryz
open Go.Am Go.Proofs Go.Proofs.Tryz
noncomputable section
variable {U:Type} (F:kk) (J:Ex->St->Option U) (n:Nat)
def sG:=[(346,Ku)]
def sH:Nat->Option Hint:=look [(3,{live:=[1,2,4,6,7],CY:=[(4,2,3,.int .i64),(4,3,42,dU),(4,4,95,tn),(4,5,91,iV)],xl:=[2,4],rl:=[4,5]})]
def mM (a i p b w c C D r d e f g h:Int)(j:ByteArray)(k:List Int)(l:ByteArray)(m:List D4)(o:List D9)(q:List Int)(s:Int)(t:List ML)(E:List Int)(u:List cN)(v:List fi)(x:List et)(y:List Int)(z:List cN)(A:List fi)(B:List et):St:={nt:=59,tm:=[(1,cD a),de 2,de 4,de 6,(7,cD i)],bx:=[(2,[aw w,aw c,.own 1000000 none,.own 1000001 none,.own 1000002 none,.own 1000003 none]),(4,[aw C,aw D,.own 1000004 none,.own 1000005 none,.own 1000006 none,.own 1000007 none]),(6,[aw r,aw d,aw e,aw f,aw g,aw h,.str j,.ro true 3 (.int .i64) k,.str l,.ro true 99 (K4) m,.ro true 29 (K9) o,.ro true 5 (.int .u8) q,aw s,.ro true 125 (Pm) t])],bl:=[aJ 1000000 3 (.int .i64) E,aJ 1000001 42 dU u,aJ 1000002 95 tn v,aJ 1000003 91 iV x,aJ 1000004 3 (.int .i64) y,aJ 1000005 42 dU z,aJ 1000006 95 tn A,aJ 1000007 91 iV B],sp:=.v (.agg [aw p,aw b,.own 1000000 none,.own 1000001 none,.own 1000002 none,.own 1000003 none])}
def uI (e p a f g:Int)(h:List Int)(b:List cN)(c:List fi)(d:List et):St:={nt:=59,tm:=[de 4,(5,cD e)],bx:=[(4,[aw f,aw g,.own 1000000 none,.own 1000001 none,.own 1000002 none,.own 1000003 none])],bl:=[aJ 1000000 3 (.int .i64) h,aJ 1000001 42 dU b,aJ 1000002 95 tn c,aJ 1000003 91 iV d],sp:=.v (.agg [aw p,aw a,.own 1000000 none,.own 1000001 none,.own 1000002 none,.own 1000003 none])}
def Eh (p a w b j k:Int)(l:List Int)(c:List cN)(d:List fi)(e:List et)(f:List Int)(g:List cN)(h:List fi)(i:List et):St:={nt:=59,tm:=[de 2,de 4],bx:=[(2,[aw w,aw b,.own 1000000 none,.own 1000001 none,.own 1000002 none,.own 1000003 none]),(4,[aw j,aw k,.own 1000004 none,.own 1000005 none,.own 1000006 none,.own 1000007 none])],bl:=[aJ 1000000 3 (.int .i64) l,aJ 1000001 42 dU c,aJ 1000002 95 tn d,aJ 1000003 91 iV e,aJ 1000004 3 (.int .i64) f,aJ 1000005 42 dU g,aJ 1000006 95 tn h,aJ 1000007 91 iV i],sp:=.v (.agg [aw p,aw a,.own 1000000 none,.own 1000001 none,.own 1000002 none,.own 1000003 none])}
def sI (a:St):Option U:=hl sG F sH [.r,.r,.l,.r,.b,.i] f322 J n a
def mN:=Wk Tryz.prog (look sG) F sH [.r,.r,.l,.r,.b] (ia f322) (aj4 Tryz.prog f322 (fj,true) (.int .i64,false) (fj,true))
def zs (a i p e w c D E r j k l m o:Int)(q:ByteArray)(s:List Int)(t:ByteArray)(u:List D4)(b:List D9)(v:List Int)(x:Int)(y:List ML)(h:List Int)(d:List cN)(f:List fi)(g:List et)(z:List Int)(A:List cN)(B:List fi)(C:List et):sI F J (n+1) (mM a i p e w c D E r j k l m o q s t u b v x y h d f g z A B C)=br (decide (i>=0)) (ck (b5 i (b.length:Int)) (br ((bd b i K9.aI).2.1.toList==ah.toList) (sI F J n (mM a (ak (i-1)) p e w c D E r j k l m o q s t u b v x y h d f g z A B C)) (ck (b5 i (b.length:Int)) (ck (b5 i (b.length:Int)) ((Ha F0 (w,c) (r,j,k,(l,m,(o,q,s),t),u,b,(v,x),y) (bd b i K9.aI).1 (bd b i K9.aI).2.1 true).bind fun G=>br (!G.2.1) (J .ret (uI 3 p e w c h d f g)) (ck (b5 a (d.length:Int)) (J .ret (uI 0 p e w c h (d.set a.toNat G.1) f g)))))))) (J (.exit 0) (Eh p e w c D E h d f g z A B C)):=by kernel_rfl
def Ei (a p f g h:Int)(e:List Int)(b:List cN)(c:List fi)(d:List et):mN F .ret (uI a p f g h e b c d)=br (a==0) (some (((g,h),e,b,c,d),a,fj.aI)) (some (fj.aI,a,(p,f),e,b,c,d)):=by kernel_rfl
def OH (p a w f k l:Int)(e:List Int)(b:List cN)(c:List fi)(d:List et)(g:List Int)(h:List cN)(i:List fi)(j:List et):mN F (.exit 0) (Eh p a w f k l e b c d g h i j)=some (fj.aI,3,(p,a),e,b,c,d):=by kernel_rfl
def AX (w:tv)(a:Int):Option (tv×Int×tv):=ZN Tryz.prog (look sG) F sH f322 [(fj,true),(.int .i64,false)] 0 (fj,true) (.int .i64,false) (fj,true) (w,a,())
def Ve (w:tv)(a:Int):AX F w a=ck (b5 a (w.2.2.1.length:Int)) (sI F (mN F) F.n (mM a (ak (((bd w.2.2.1 a dU.aI).2.2.2.2.2.1.length:Int)-1)) w.1.1 w.1.2 w.1.1 w.1.2 0 0 (bd w.2.2.1 a dU.aI).1 (bd w.2.2.1 a dU.aI).2.1 (bd w.2.2.1 a dU.aI).2.2.1 (bd w.2.2.1 a dU.aI).2.2.2.1.1 (bd w.2.2.1 a dU.aI).2.2.2.1.2.1 (bd w.2.2.1 a dU.aI).2.2.2.1.2.2.1.1 (bd w.2.2.1 a dU.aI).2.2.2.1.2.2.1.2.1 (bd w.2.2.1 a dU.aI).2.2.2.1.2.2.1.2.2 (bd w.2.2.1 a dU.aI).2.2.2.1.2.2.2 (bd w.2.2.1 a dU.aI).2.2.2.2.1 (bd w.2.2.1 a dU.aI).2.2.2.2.2.1 (bd w.2.2.1 a dU.aI).2.2.2.2.2.2.1.1 (bd w.2.2.1 a dU.aI).2.2.2.2.2.2.1.2 (bd w.2.2.1 a dU.aI).2.2.2.2.2.2.2 w.2.1 w.2.2.1 w.2.2.2.1 w.2.2.2.2 [] [] [] [])):=by kernel_rfl
def Gc:Any:=.sel ⟨[(fj,true),(.int .i64,false)],0,(fj,true),(.int .i64,false),(fj,true),fun x=>AX F0 x.1 x.2.1⟩
def Vf:bw 322 Gc:=ok4 (show re Tryz.prog TB sG from⟨aal,trivial⟩) func322 (by kernel_rfl) (by kernel_rfl) sH (by kernel_rfl) (by kernel_rfl)
def Nv:=[(180,kc),(189,dK),(249,iD),(267,fM)]
def Ej (d:D15)(j4:Int):=cE Nv F ad f323 [(K15,true),(.int .i64,false)] Dt 2 (d,j4,())
def Yb (d:D15)(j4:Int):Ej F d j4=(fk F0 d).bind fun b=>(jj F0 d).bind fun c=>br (!c.1) (some (b.1,())) ((bh F0 j4 (ak ((d.1.length:Int)-d.2))).bind fun e=>(cO F0 0 e.1).bind fun a=>ck (I5 0 (ak (d.2+a.1)) (d.1.length:Int)) (ck (fc F 0 ((d.1.take (ak (d.2+a.1)).toNat).drop (0:Int).toNat).length 1) (some (([]++((d.1.take (ak (d.2+a.1)).toNat).drop (0:Int).toNat),ak (d.2+a.1)),())))):=by kernel_rfl
def Iv:Any:=.one ⟨[(K15,true),(.int .i64,false)],Dt,2,fun x=>Ej F0 x.1 x.2.1⟩
def Yc:bw 323 Iv:=aM Nv ⟨rM,fs,oP,ku,trivial⟩ func323 ad (by kernel_rfl)
def AY: Option (Args DH):=cE aN F ad f204 [] DH 2 (())
def Iw: AY F= some ((0,0,(0,ah,[]),ah),()):=by kernel_rfl
def uJ:Any:=.one ⟨[],DH,2,fun x=>AY F0⟩
def Ix:bw 204 uJ:=aM aN trivial func204 ad (by kernel_rfl)
def Nw:=[(177,eZ),(182,kd),(183,mo),(184,Cc)]
def Ek (c:D1)(b:List Int):=cE Nw F ad f235 abf ajq 2 (c,b,())
def Yd (c:D1)(b:List Int):Ek F c b=(b7 F0 (b,0,true)).bind fun d=>(b7 F0 d.2.1).bind fun e=>(um F0 e.2.1).bind fun f=>(jG F0 f.2.1).bind fun a=>br (!a.2.1.2.2) (some ((0,0,(0,ah,[]),ah),false,())) (br (a.2.1.2.1 != (b.length:Int)) (some ((0,0,(0,ah,[]),ah),false,())) ((ft F0 c (d.1.1,e.1.1,f.1.1,a.1.1)).bind fun g=>br (!g.1) (some ((0,0,(0,ah,[]),ah),false,())) (some ((d.1.1,e.1.1,f.1.1,a.1.1),true,())))):=by kernel_rfl
def Iy:Any:=.one ⟨abf,ajq,2,fun x=>Ek F0 x.1 x.2.1⟩
def Ye:bw 235 Iy:=aM Nw ⟨ik,rT,yk,Nd,trivial⟩ func235 ad (by kernel_rfl)
def o3:=[(204,uJ),(234,oB),(235,Iy)]
def o4:Nat->Option Hint:=look [(3,{live:=[1,2,4,6,7],CY:=[(4,4,3,.int .i64)],rl:=[4,5]})]
def k6 (b:List Int)(a c d j k l:Int)(m o:ByteArray)(p e f:Int)(g h:ByteArray)(q i:List Int):= hD 62 [(1,x0 5 (.int .u8) b),de 2,de 4,de 6,(7,cD a)] [(2,[aw c,aw d]),(4,[aw j,aw k,aw l,.str m,.own 1000000 none,.str o]),(6,[aw p,aw e,aw f,.str g,.own 1000001 none,.str h])] [aJ 1000000 3 (.int .i64) q,aJ 1000001 3 (.int .i64) i]
def gJ (a b c d:Int)(e f:ByteArray)(g:List Int):= hD 62 [de 4,(5,cD a)] [(4,[aw b,aw c,aw d,.str e,.own 1000000 none,.str f])] [aJ 1000000 3 (.int .i64) g]
def o5 (a:St):Option U:=hl o3 F o4 [.r,.r,.r,.b,.i] f158 J n a
abbrev amh:List (Ty×Bool):=[(K13,true),(.int .i64,false)]
def sJ:=p9 o3 F o4 [.r,.r,.r,.b] f158 amh 2
def wP (b:List Int)(e c l m o p:Int)(q r:ByteArray)(k f g:Int)(h i:ByteArray)(s j:List Int):o5 F J (n+1) (k6 b e c l m o p q r k f g h i s j)=(gF F0 b e).bind fun a=>br (!a.2.2.1) (J .ret (gJ e k f g h i j)) (br (decide (a.1>=(ak ((b.length:Int)-a.2.1)))) (J .ret (gJ e k f g h i j)) (ck (b5 (ak (a.2.1+a.1)) (b.length:Int)) (br ((bd b (ak (a.2.1+a.1)) 0) != 10) (J .ret (gJ e k f g h i j)) (ck (I5 a.2.1 (ak (a.2.1+a.1)) (b.length:Int)) ((Ek F0 (c,l) ((b.take (ak (a.2.1+a.1)).toNat).drop a.2.1.toNat)).bind fun d=>br (!d.2.1) (J .ret (gJ e k f g h i j)) (o5 F J n (k6 b (ak ((ak (a.2.1+a.1))+1)) c l m o p q r d.1.1 d.1.2.1 d.1.2.2.1.1 d.1.2.2.1.2.1 d.1.2.2.2 s d.1.2.2.1.2.2))))))):=by kernel_rfl
def CA (a b c d:Int)(e f:ByteArray)(g:List Int):sJ F .ret (gJ a b c d e f g)=some ((b,c,(d,e,g),f),a,()):=by kernel_rfl
def vP (c:D1)(b:List Int):=cE o3 F o4 f158 abf amh 2 (c,b,())
def Sw (c:D1)(b:List Int):vP F c b=(AY F0).bind fun a=>o5 F (sJ F) F.n (k6 b 0 c.1 c.2 0 0 0 ah ah a.1.1 a.1.2.1 a.1.2.2.1.1 a.1.2.2.1.2.1 a.1.2.2.2 [] a.1.2.2.1.2.2):=by kernel_rfl
def El:Any:=.one ⟨abf,amh,2,fun x=>vP F0 x.1 x.2.1⟩
def Sx:bw 158 El:=aM o3 ⟨Ix,Ca,Ye,trivial⟩ func158 o4 (by kernel_rfl)
def TP:=[(115,bN),(158,El),(176,bs),(189,dK),(267,fM)]
def Ge (c:D1)(r:cN):=cE TP F ad f324 yQ yX 2 (c,r,())
def ac7 (c:D1)(r:cN):Ge F c r=(cQ F0 c r).bind fun b=>br (!b.1) ((aK F0 r).bind fun d=>some (d.1,())) ((vP F0 c r.2.2.2.2.2.2.1.1).bind fun a=>(cO F0 a.1.1 (ak (a.1.2.2.1.1+1))).bind fun e=>(cO F0 e.1 1).bind fun f=>(bh F0 60 f.1).bind fun g=>ck (I5 0 a.2.1 (r.2.2.2.2.2.2.1.1.length:Int)) (ck (fc F 0 ((r.2.2.2.2.2.2.1.1.take a.2.1.toNat).drop (0:Int).toNat).length 1) (some ((r.1,g.1,0,a.1,[],[],([]++((r.2.2.2.2.2.2.1.1.take a.2.1.toNat).drop (0:Int).toNat),a.2.1),[]),())))):=by kernel_rfl
def Nx:Any:=.one ⟨yQ,yX,2,fun x=>Ge F0 x.1 x.2.1⟩
def ac8:bw 324 Nx:=aM TP ⟨cn,Sx,bL,fs,ku,trivial⟩ func324 ad (by kernel_rfl)
def TQ:=[(115,bN),(176,bs),(194,eO),(301,fu),(347,iH)]
def LM (c:D1)(r:cN):=cE TQ F ad f325 yQ rS 2 (c,r,())
def ac9 (c:D1)(r:cN):LM F c r=(aK F0 r).bind fun a=>(cQ F0 c r).bind fun f=>br (!f.1) (some (a.1,false,())) (br (decide (r.2.1>=60)) (some (a.1,false,())) ((iA F0 c (ak (r.2.1+1))).bind fun b=>br (b.1==r.1) ((dn F0 c a.1.2.2.2.2.2.1 (ak (r.2.1+1),ah,[r.1])).bind fun d=>br (!d.2.1) ((aK F0 r).bind fun g=>some (g.1,false,())) (some ((a.1.1,ak (r.2.1+1),a.1.2.2.1,a.1.2.2.2.1,a.1.2.2.2.2.1,d.1,a.1.2.2.2.2.2.2),true,()))) ((dN F0 c (a.1.1,ak (r.2.1+1),a.1.2.2) b.1 (3,ak (r.2.1+1),(ah,0,ah,[]),(0,ah,[]),r.2.2.2.1.2.2.1,r.1,0,0,0,0)).bind fun e=>br (!e.1.2.1) ((aK F0 r).bind fun h=>some (h.1,false,())) (some (e.1.1,true,()))))):=by kernel_rfl
def Ny:Any:=.one ⟨yQ,rS,2,fun x=>LM F0 x.1 x.2.1⟩
def ada:bw 325 Ny:=aM TQ ⟨cn,bL,iG,jH,oW,trivial⟩ func325 ad (by kernel_rfl)
def Nz:=[(176,bs),(318,EZ),(320,Ir),(321,Gb),(322,Gc),(323,Iv),(324,Nx),(325,Ny)]
def Em (w:tv)(d:D45):Option (tv×Int×tv):=ZN Tryz.prog (look Nz) F ad f300 [(fj,true),(K45,true)] 0 (fj,true) (.int .i64,false) (fj,true) (w,d,())
def Yf (w:tv)(d:D45):Em F w d=ck (b5 d.2.1 (w.2.2.1.length:Int)) (br (d.1==1) ((Eb F0 w d.2.1).bind fun b=>br (b.2.1==0) (some (b.1,0,fj.aI)) (br (b.2.1==0) (none) (some (fj.aI,b.2.1,w.1,b.2.2.2)))) (br (d.1==2) ((AW F0 w d.2.1).bind fun c=>br (c.2.1==0) (some (c.1,0,fj.aI)) (br (c.2.1==0) (none) (some (fj.aI,c.2.1,w.1,c.2.2.2)))) (br (d.1==6) ((AX F0 w d.2.1).bind fun e=>br (e.2.1==0) (some (e.1,0,fj.aI)) (br (e.2.1==0) (none) (some (fj.aI,e.2.1,w.1,e.2.2.2)))) (br (d.1==8) ((aK F0 (bd w.2.2.1 d.2.1 dU.aI)).bind fun a=>(Ej F0 (bd w.2.2.1 d.2.1 dU.aI).2.2.2.2.2.2.1 d.2.2.1).bind fun h=>(Ge F0 w.1 (a.1.1,a.1.2.1,a.1.2.2.1,a.1.2.2.2.1,a.1.2.2.2.2.1,a.1.2.2.2.2.2.1,h.1,a.1.2.2.2.2.2.2.2)).bind fun i=>ck (b5 d.2.1 (w.2.2.1.length:Int)) (some ((w.1,w.2.1,w.2.2.1.set d.2.1.toNat i.1,w.2.2.2),0,fj.aI))) (br (d.1==7) ((LM F0 w.1 (bd w.2.2.1 d.2.1 dU.aI)).bind fun f=>br (!f.2.1) (some (fj.aI,3,w)) (ck (b5 d.2.1 (w.2.2.1.length:Int)) (some ((w.1,w.2.1,w.2.2.1.set d.2.1.toNat f.1,w.2.2.2),0,fj.aI)))) ((F1 F0 w.1 (bd w.2.2.1 d.2.1 dU.aI) d.2.2.2).bind fun g=>br (!g.2.1) (some (fj.aI,3,w)) (br (d.2.2.2.1 != 4) (some (fj.aI,3,w)) (ck (b5 d.2.1 (w.2.2.1.length:Int)) (some ((w.1,w.2.1,w.2.2.1.set d.2.1.toNat g.1,w.2.2.2),0,fj.aI)))))))))):=by kernel_rfl
def Iz:Any:=.sel ⟨[(fj,true),(K45,true)],0,(fj,true),(.int .i64,false),(fj,true),fun x=>Em F0 x.1 x.2.1⟩
def Yg:bw 300 Iz:=ok4 (show re Tryz.prog TB Nz from⟨bL,Qw,X8,Vd,Vf,Yc,ac8,ada,trivial⟩) func300 (by kernel_rfl) (by kernel_rfl) ad (by kernel_rfl) (by kernel_rfl)
def NA:=[(55,yw),(83,cb),(298,Ii),(299,Iq),(300,Iz)]
def En (w:tv)(d:D45):Option (tv×Int×tv):=ZN Tryz.prog (look NA) F ad f264 [(fj,true),(K45,true)] 0 (fj,true) (.int .i64,false) (fj,true) (w,d,())
def Yh (w:tv)(d:D45):En F w d=br (d.1==3) ((pY F0 w d).bind fun a=>br (a.2.1==0) (some (a.1,0,fj.aI)) (br (a.2.1==0) (none) (some (fj.aI,a.2.1,w.1,a.2.2.2)))) (br (d.1==4) ((pY F0 w d).bind fun a=>br (a.2.1==0) (some (a.1,0,fj.aI)) (br (a.2.1==0) (none) (some (fj.aI,a.2.1,w.1,a.2.2.2)))) (br (d.1==5) ((pY F0 w d).bind fun a=>br (a.2.1==0) (some (a.1,0,fj.aI)) (br (a.2.1==0) (none) (some (fj.aI,a.2.1,w.1,a.2.2.2)))) (br (d.1==10) ((D7 F0 w d).bind fun b=>br (b.2.1==0) (some (b.1,0,fj.aI)) (br (b.2.1==0) (none) (some (fj.aI,b.2.1,w.1,b.2.2.2)))) ((wO F0 w).bind fun e=>(cu F0 e.1 d.2.1).bind fun f=>br (!f.1) (some (fj.aI,2,w)) ((Em F0 w d).bind fun c=>br (c.2.1==0) (some (c.1,0,fj.aI)) (br (c.2.1==0) (none) (some (fj.aI,c.2.1,w.1,c.2.2.2)))))))):=by kernel_rfl
def IA:Any:=.sel ⟨[(fj,true),(K45,true)],0,(fj,true),(.int .i64,false),(fj,true),fun x=>En F0 x.1 x.2.1⟩
def Yi:bw 264 IA:=ok4 (show re Tryz.prog TB NA from⟨Kq,cW,XY,X5,Yg,trivial⟩) func264 (by kernel_rfl) (by kernel_rfl) ad (by kernel_rfl) (by kernel_rfl)
def Kv:=[(264,IA)]
def AZ (w:tv)(d:D45):=eX Kv F ad f198 [(fj,true),(K45,true)] 0 (.own true) fL [] 2 (w,d,())
def Vg (w:tv)(d:D45):AZ F w d=(En F0 w d).bind fun a=>br (a.2.1==0) (br (0 != 0) (none) (some ((a.1,()),()))) (br (a.2.1 != 0) (some (((w.1,a.2.2.2),()),())) (none)):=by kernel_rfl
def Gf:Any:=.two ⟨[(fj,true),(K45,true)],0,(.own true),fL,2,[],fun x=>AZ F0 x.1 x.2.1⟩
def Vh:bw 198 Gf:=ahm Kv ⟨Yi,trivial⟩ func198 ad (by kernel_rfl)
def hK:=[(98,al),(197,tE),(198,Gf),(199,wI)]
def hL:Nat->Option Hint:=look [(4,{live:=[0,2,3,4,5],CY:=[(2,2,3,.int .i64),(2,3,42,dU),(2,4,95,tn),(2,5,91,iV)],xl:=[2,3],rl:=[2]})]
def fW (a i:Int)(b:List Int)(c d o p w e:Int)(q:List Int)(f:List cN)(g:List fi)(h:List et)(j:List Int)(k:List cN)(l:List fi)(m:List et):St:={nt:=21,tm:=[(0,.v (.c (.ptr 4000000 0))),de 2,de 3,(4,cD a),(5,cD i)],bx:=[(4000000,[.ro true 5 (.int .u8) b,aw c,aw d]),(2,[aw o,aw p,.own 1000000 none,.own 1000001 none,.own 1000002 none,.own 1000003 none]),(3,[aw w,aw e,.own 1000004 none,.own 1000005 none,.own 1000006 none,.own 1000007 none])],bl:=[aJ 1000000 3 (.int .i64) q,aJ 1000001 42 dU f,aJ 1000002 95 tn g,aJ 1000003 91 iV h,aJ 1000004 3 (.int .i64) j,aJ 1000005 42 dU k,aJ 1000006 95 tn l,aJ 1000007 91 iV m],sp:=.v (.c (.ptr 4000000 0))}
def sK (a:List Int)(b c l m w d:Int)(o:List Int)(e:List cN)(f:List fi)(g:List et)(h:List Int)(i:List cN)(j:List fi)(k:List et):St:={nt:=21,tm:=[de 2,de 3],bx:=[(4000000,[.ro true 5 (.int .u8) a,aw b,aw c]),(2,[aw l,aw m,.own 1000000 none,.own 1000001 none,.own 1000002 none,.own 1000003 none]),(3,[aw w,aw d,.own 1000004 none,.own 1000005 none,.own 1000006 none,.own 1000007 none])],bl:=[aJ 1000000 3 (.int .i64) o,aJ 1000001 42 dU e,aJ 1000002 95 tn f,aJ 1000003 91 iV g,aJ 1000004 3 (.int .i64) h,aJ 1000005 42 dU i,aJ 1000006 95 tn j,aJ 1000007 91 iV k],sp:=.v (.c (.ptr 4000000 0))}
def hM (a:St):Option U:=hl hK F hL [.r,.r,.r,.l,.r,.b,.i] f133 J n a
def kE:=EV hK F hL [.r,.r,.r,.l,.r,.b] f133 .cur fL aX 2
def nS (h i:Int)(j:List Int)(k l q r w b:Int)(s:List Int)(m:List cN)(o:List fi)(p:List et)(c:List Int)(d:List cN)(e:List fi)(f:List et):hM F J (n+1) (fW h i j k l q r w b s m o p c d e f)=br (decide (i<h)) ((mu F0 (j,k,l) ((w,b),c,d,e,f)).bind fun g=>(AZ F0 ((w,b),c,d,e,f) g.1.1).bind fun a=>hM F J n (fW h (ak (i+1)) g.2.1.1 g.2.1.2.1 g.2.1.2.2 q r a.1.1.1.1 a.1.1.1.2 s m o p a.1.1.2.1 a.1.1.2.2.1 a.1.1.2.2.2.1 a.1.1.2.2.2.2)) (J (.exit 0) (sK j k l q r w b s m o p c d e f)):=by kernel_rfl
def Gg (a:List Int)(b c l m w d:Int)(o:List Int)(i:List cN)(j:List fi)(k:List et)(e:List Int)(f:List cN)(g:List fi)(h:List et):kE F (.exit 0) (sK a b c l m w d o i j k e f g h)=some ((((w,d),e,f,g,h),()),(a,b,c),()):=by kernel_rfl
def gK (c:D2):=eX hK F hL f133 aX 0 .cur fL aX 2 (c,())
def Kw (c:D2):gK F c=(kU F0 c).bind fun a=>(af F0 a.2.1 45).bind fun b=>hM F (kE F) F.n (fW b.1.1 0 b.2.1.1 b.2.1.2.1 b.2.1.2.2 0 0 a.1.1.1.1 a.1.1.1.2 [] [] [] [] a.1.1.2.1 a.1.1.2.2.1 a.1.1.2.2.2.1 a.1.1.2.2.2.2):=by kernel_rfl
def kF:Any:=.two ⟨aX,0,.cur,fL,2,aX,fun x=>gK F0 x.1⟩
def wQ:bw 133 kF:=hA hK ⟨ar,J4,Vh,Mj,trivial⟩ func133 hL (by kernel_rfl)
def zv:=[(98,al),(133,kF)]
def k7 (c:D2):=eX zv F ad f127 aX 0 .cur yQ aX 1 (c,())
def Kx (c:D2):k7 F c=(gK F0 c).bind fun a=>(af F0 a.2.1 (a.1.1.2.2.1.length:Int)).bind fun b=>ck (b5 b.1.1 (a.1.1.2.2.1.length:Int)) (some ((a.1.1.1,bd a.1.1.2.2.1 b.1.1 dU.aI,()),b.2.1,())):=by kernel_rfl
def tJ:Any:=.two ⟨aX,0,.cur,yQ,1,aX,fun x=>k7 F0 x.1⟩
def Ky:bw 127 tJ:=hA zv ⟨ar,wQ,trivial⟩ func127 ad (by kernel_rfl)
def jM:=[(98,al),(122,kP),(123,cZ),(186,bW),(268,kX)]
def jN:Nat->Option Hint:=look [(4,{live:=[0,3,4,5,6,7],CY:=[(4,3,3,.int .i64)],xl:=[0,3,4,5,6],rl:=[4]})]
def gL (i:Int)(a:List Int)(b c d e:Int)(j:ByteArray)(k:Int)(l:ByteArray)(q:Int)(f:ByteArray)(m:List D4)(g h:List Int):St:={nt:=42,tm:=[(0,.v (.c (.ptr 4000000 0))),de 3,de 4,de 5,(6,.v (.c (.own 1000000 none))),(7,cD i)],bx:=[(4000000,[.ro true 5 (.int .u8) a,aw b,aw c]),(3,[aw d,aw e]),(4,[.str j,aw k,.str l,.own 1000001 none]),(5,[aw q,.str f,.own 1000002 none])],bl:=[aJ 1000000 99 K4 m,aJ 1000001 3 (.int .i64) g,aJ 1000002 3 (.int .i64) h],sp:=.v (.c (.ptr 4000000 0))}
def kG (a:List Int)(b c d e:Int)(i:ByteArray)(j:Int)(k:ByteArray)(q:Int)(f:ByteArray)(l:List D4)(g h:List Int):St:={nt:=42,tm:=[(0,.v (.c (.ptr 4000000 0))),de 3,de 4,de 5,(6,.v (.c (.own 1000000 none)))],bx:=[(4000000,[.ro true 5 (.int .u8) a,aw b,aw c]),(3,[aw d,aw e]),(4,[.str i,aw j,.str k,.own 1000001 none]),(5,[aw q,.str f,.own 1000002 none])],bl:=[aJ 1000000 99 K4 l,aJ 1000001 3 (.int .i64) g,aJ 1000002 3 (.int .i64) h],sp:=.v (.c (.ptr 4000000 0))}
def jO (a:St):Option U:=hl jM F jN [.r,.r,.r,.l,.r,.b,.i] f205 J n a
def gM:=EV jM F jN [.r,.r,.r,.l,.r,.b] f205 .cur XE aX 2
def p0 (i:Int)(m:List Int)(o p d e:Int)(j:ByteArray)(k:Int)(l:ByteArray)(q:Int)(f:ByteArray)(c:List D4)(g h:List Int):jO F J (n+1) (gL i m o p d e j k l q f c g h)=(af F0 (m,o,p) 3).bind fun a=>br (decide (i<a.1.1)) ((cd F0 a.2.1).bind fun b=>ck (fc F c.length [b.1.1].length 32) (jO F J n (gL (ak (i+1)) b.2.1.1 b.2.1.2.1 b.2.1.2.2 d e j k l q f (c++[b.1.1]) g h))) (J (.exit 0) (kG a.2.1.1 a.2.1.2.1 a.2.1.2.2 d e j k l q f c g h)):=by kernel_rfl
def Hb (a:List Int)(b c d e:Int)(l:ByteArray)(m:Int)(o:ByteArray)(q:Int)(f:ByteArray)(i:List D4)(j g:List Int):gM F (.exit 0) (kG a b c d e l m o q f i j g)=(af F0 (a,b,c) 4).bind fun h=>(fw F0 (d,e) (q,f,g) (ak ((ak (q+1))+(ak (Int.tdiv h.1.1 3)))) i).bind fun k=>some ((k.1,()),h.2.1,()):=by kernel_rfl
def iN (c:D2)(a:D1):=eX jM F jN f205 IT 0 .cur XE aX 2 (c,a,())
def Mn (c:D2)(b:D1):iN F c b=(c8 F0 c).bind fun d=>(kq F0 d.2.1 b d.1.1).bind fun a=>jO F (gM F) F.n (gL 0 a.2.1.1 a.2.1.2.1 a.2.1.2.2 b.1 b.2 ah 0 ah a.1.1.1 a.1.1.2.1 [] [] a.1.1.2.2):=by kernel_rfl
def lP:Any:=.two ⟨IT,0,.cur,XE,2,aX,fun x=>iN F0 x.1 x.2.1⟩
def zJ:bw 205 lP:=hA jM ⟨ar,uf,dV,cL,uu,trivial⟩ func205 jN (by kernel_rfl)
def hO:=[(97,cc),(98,al),(204,uJ),(205,lP),(206,r5),(207,EX)]
def hQ:Nat->Option Hint:=look [(3,{live:=[0,3,4,5,6],CY:=[(4,4,3,.int .i64)],xl:=[4,5],rl:=[4]})]
def ed (i:Int)(a:List Int)(b c d e l m o:Int)(p q:ByteArray)(s f g:Int)(h j:ByteArray)(r k:List Int):St:={nt:=34,tm:=[(0,.v (.c (.ptr 4000000 0))),de 3,de 4,de 5,(6,cD i)],bx:=[(4000000,[.ro true 5 (.int .u8) a,aw b,aw c]),(3,[aw d,aw e]),(4,[aw l,aw m,aw o,.str p,.own 1000000 none,.str q]),(5,[aw s,aw f,aw g,.str h,.own 1000001 none,.str j])],bl:=[aJ 1000000 3 (.int .i64) r,aJ 1000001 3 (.int .i64) k],sp:=.v (.c (.ptr 4000000 0))}
def sL (a:List Int)(b c i j k:Int)(l m:ByteArray)(s d e:Int)(f g:ByteArray)(o h:List Int):St:={nt:=34,tm:=[de 4,de 5],bx:=[(4000000,[.ro true 5 (.int .u8) a,aw b,aw c]),(4,[aw i,aw j,aw k,.str l,.own 1000000 none,.str m]),(5,[aw s,aw d,aw e,.str f,.own 1000001 none,.str g])],bl:=[aJ 1000000 3 (.int .i64) o,aJ 1000001 3 (.int .i64) h],sp:=.v (.c (.ptr 4000000 0))}
def ff (a:St):Option U:=hl hO F hQ [.r,.r,.l,.r,.b,.i] f136 J n a
def kH:=EV hO F hQ [.r,.r,.l,.r,.b] f136 .cur DH aX 2
def nT (i:Int)(v:List Int)(w x c d g h j:Int)(k l:ByteArray)(s o p:Int)(q r:ByteArray)(m t:List Int):ff F J (n+1) (ed i v w x c d g h j k l s o p q r m t)=(af F0 (v,w,x) 5).bind fun f=>br (decide (i<f.1.1)) ((iN F0 f.2.1 (c,d)).bind fun u=>(Cl F0 (c,d) (s,o,(p,q,t),r) u.1.1.2).bind fun a=>(cX F0 u.2.1 3).bind fun b=>br (!b.1.1) ((Bo F0 (c,d) a.1 u.1.1).bind fun e=>ff F J n (ed (ak (i+1)) b.2.1.1 b.2.1.2.1 b.2.1.2.2 c d g h j k l e.1.1 e.1.2.1 e.1.2.2.1.1 e.1.2.2.1.2.1 e.1.2.2.2 m e.1.2.2.1.2.2)) (ff F J n (ed (ak (i+1)) b.2.1.1 b.2.1.2.1 b.2.1.2.2 c d g h j k l a.1.1 a.1.2.1 a.1.2.2.1.1 a.1.2.2.1.2.1 a.1.2.2.2 m a.1.2.2.1.2.2))) (J (.exit 0) (sL f.2.1.1 f.2.1.2.1 f.2.1.2.2 g h j k l s o p q r m t)):=by kernel_rfl
def p1 (a:List Int)(b c i j k:Int)(l m:ByteArray)(s d e:Int)(f g:ByteArray)(o h:List Int):kH F (.exit 0) (sL a b c i j k l m s d e f g o h)=some (((s,d,(e,f,h),g),()),(a,b,c),()):=by kernel_rfl
def gN (c:D2)(a:D1):=eX hO F hQ f136 IT 0 .cur DH aX 2 (c,a,())
def Kz (c:D2)(b:D1):gN F c b=(AY F0).bind fun a=>ff F (kH F) F.n (ed 0 c.1 c.2.1 c.2.2 b.1 b.2 0 0 0 ah ah a.1.1 a.1.2.1 a.1.2.2.1.1 a.1.2.2.1.2.1 a.1.2.2.2 [] a.1.2.2.1.2.2):=by kernel_rfl
def kI:Any:=.two ⟨IT,0,.cur,DH,2,aX,fun x=>gN F0 x.1 x.2.1⟩
def wR:bw 136 kI:=hA hO ⟨cY,ar,Ix,zJ,DJ,Qj,trivial⟩ func136 hQ (by kernel_rfl)
def KA:=[(60,yf),(98,al),(121,bg),(124,og),(136,kI)]
def A0 (c:D2)(a:D1):=eX KA F ad f128 IT 0 .cur DH aX 2 (c,a,())
def Vi (c:D2)(d:D1):A0 F c d=(gN F0 c d).bind fun a=>(af F0 a.2.1 10).bind fun b=>br (b.1.1==0) ((aH F0 b.2.1 [(-1),60,61]).bind fun e=>some (((e.1.1,a.1.1.2),()),e.2.1,())) (br (b.1.1==1) ((aH F0 b.2.1 [(-1),0,60,61]).bind fun f=>some (((a.1.1.1,f.1.1,a.1.1.2.2),()),f.2.1,())) (br (b.1.1==2) ((pP F0 b.2.1).bind fun g=>some (((a.1.1.1,a.1.1.2.1,a.1.1.2.2.1,g.1.1),()),g.2.1,())) (br (b.1.1==3) ((wu F0 b.2.1 d).bind fun h=>some (((a.1.1.1,a.1.1.2.1,h.1.1,a.1.1.2.2.2),()),h.2.1,())) (some ((a.1.1,()),b.2.1,()))))):=by kernel_rfl
def Gi:Any:=.two ⟨IT,0,.cur,DH,2,aX,fun x=>A0 F0 x.1 x.2.1⟩
def Vj:bw 128 Gi:=hA KA ⟨JO,ar,bz,B0,wR,trivial⟩ func128 ad (by kernel_rfl)
def jP:=[(98,al),(186,bW),(193,mD)]
def jQ:Nat->Option Hint:=look [(3,{live:=[0,3,4],xl:=[3],rl:=[2]})]
def gO (i:Int)(a:List Int)(b c:Int)(d:List D4):St:={nt:=20,tm:=[(0,.v (.c (.ptr 4000000 0))),(3,.v (.c (.own 1000000 none))),(4,cD i)],bx:=[(4000000,[.ro true 5 (.int .u8) a,aw b,aw c])],bl:=[aJ 1000000 99 K4 d],sp:=.v (.c (.ptr 4000000 0))}
def tK (a:List Int)(b c:Int)(d:List D4):St:={nt:=20,tm:=[(3,.v (.c (.own 1000000 none)))],bx:=[(4000000,[.ro true 5 (.int .u8) a,aw b,aw c])],bl:=[aJ 1000000 99 K4 d],sp:=.v (.c (.ptr 4000000 0))}
def jR (a:St):Option U:=hl jP F jQ [.r,.r,.l,.r,.b,.i] f191 J n a
def lQ:=EV jP F jQ [.r,.r,.l,.r,.b] f191 .cur rk aX 2
def p2 (i:Int)(d:List Int)(e f:Int)(c:List D4):jR F J (n+1) (gO i d e f c)=(af F0 (d,e,f) 9).bind fun a=>br (decide (i<a.1.1)) ((cd F0 a.2.1).bind fun b=>(mC F0 c b.1.1).bind fun g=>jR F J n (gO (ak (i+1)) b.2.1.1 b.2.1.2.1 b.2.1.2.2 g.1)) (J (.exit 0) (tK a.2.1.1 a.2.1.2.1 a.2.1.2.2 c)):=by kernel_rfl
def sM (a:List Int)(b c:Int)(d:List D4):lQ F (.exit 0) (tK a b c d)=some ((d,()),(a,b,c),()):=by kernel_rfl
def mO (c:D2):=eX jP F jQ f191 aX 0 .cur rk aX 2 (c,())
def Mo (c:D2):mO F c=jR F (lQ F) F.n (gO 0 c.1 c.2.1 c.2.2 []):=by kernel_rfl
def wS:Any:=.two ⟨aX,0,.cur,rk,2,aX,fun x=>mO F0 x.1⟩
def Mp:bw 191 wS:=hA jP ⟨ar,cL,yu,trivial⟩ func191 jQ (by kernel_rfl)
def NB:=[(98,al),(121,bg),(186,bW)]
def wT (c:D2):=eX NB F ad f192 aX 0 .cur HF aX 1 (c,())
def Yj (c:D2):wT F c=(cd F0 c).bind fun a=>(af F0 a.2.1 12).bind fun b=>br (b.1.1==0) ((aH F0 b.2.1 [(-1),4]).bind fun d=>some (((d.1.1,a.1.1.2),()),d.2.1,())) (br (b.1.1==1) ((aH F0 b.2.1 [(-1),4]).bind fun e=>some (((a.1.1.1,e.1.1,a.1.1.2.2),()),e.2.1,())) (br (b.1.1==2) ((aH F0 b.2.1 [(-1),1001]).bind fun f=>some (((a.1.1.1,a.1.1.2.1,f.1.1,a.1.1.2.2.2),()),f.2.1,())) (br (b.1.1==3) ((aH F0 b.2.1 [(-1),99,100]).bind fun g=>some (((a.1.1.1,a.1.1.2.1,a.1.1.2.2.1,g.1.1),()),g.2.1,())) (some ((a.1.1,()),b.2.1,()))))):=by kernel_rfl
def yx:Any:=.two ⟨aX,0,.cur,HF,1,aX,fun x=>wT F0 x.1⟩
def KB:bw 192 yx:=hA NB ⟨ar,bz,cL,trivial⟩ func192 ad (by kernel_rfl)
def gY:=[(98,al),(191,wS),(192,yx),(193,mD)]
def gZ:Nat->Option Hint:=look [(7,{live:=[3,4],xl:=[3],rl:=[2]}),(10,{live:=[3,4,5],xl:=[3,4],rl:=[2]})]
def o6 (i k:Int)(a:List Int)(b c:Int)(d:List D4):St:={nt:=36,tm:=[(3,.v (.c (.own 1000000 none))),(4,cD i),(5,cD k)],bx:=[(4000000,[.ro true 5 (.int .u8) a,aw b,aw c])],bl:=[aJ 1000000 99 K4 d],sp:=.v (.c (.ptr 4000000 0))}
def Gj (i:Int)(a:List Int)(b c:Int)(d:List D4):St:={nt:=36,tm:=[(3,.v (.c (.own 1000000 none))),(4,cD i)],bx:=[(4000000,[.ro true 5 (.int .u8) a,aw b,aw c])],bl:=[aJ 1000000 99 K4 d],sp:=.v (.c (.ptr 4000000 0))}
def vQ (a:St):Option U:=hl gY F gZ [.r,.r,.l,.r,.b,.r,.e,.r,.t,.r,.b,.i,.r,.l,.b,.r,.b,.i] f129 J n a
def yy:Ex->St->Option U:=Wk Tryz.prog (look gY) F gZ [.r,.l,.b,.r,.b] (sub [.r,.r,.l,.r,.b,.r,.e,.r,.t,.r,.b,.i] (ia f129)) (itk Tryz.prog (look gY) F gZ (sub [.r,.r,.l,.r,.b,.r,.e,.r,.t,.r,.b,.i] (ia f129)) J n)
def o7 (i:Int)(a:List Int)(b c:Int)(d:List D4):St:={nt:=36,tm:=[(3,.v (.c (.own 1000000 none))),(4,cD i)],bx:=[(4000000,[.ro true 5 (.int .u8) a,aw b,aw c])],bl:=[aJ 1000000 99 K4 d],sp:=.v (.c (.ptr 4000000 0))}
def Gk (a:List Int)(b c:Int)(d:List D4):St:={nt:=36,tm:=[(3,.v (.c (.own 1000000 none)))],bx:=[(4000000,[.ro true 5 (.int .u8) a,aw b,aw c])],bl:=[aJ 1000000 99 K4 d],sp:=.v (.c (.ptr 4000000 0))}
def vR (a:St):Option U:=hl gY F gZ [.r,.r,.l,.r,.b,.r,.e,.r,.t,.r,.b,.i] f129 J n a
def o8:=EV gY F gZ [.r,.r,.l,.r,.b,.r,.e,.r,.t,.r,.b] f129 .cur rk aX 2
def CB (i k:Int)(a:List Int)(b c:Int)(d:List D4):vQ F J (n+1) (o6 i k a b c d)=br (decide (k<4)) ((mC F0 d (i,0,0,k)).bind fun e=>vQ F J n (o6 i (ak (k+1)) a b c e.1)) (J (.exit 3) (Gj i a b c d)):=by kernel_rfl
def CC (i:Int)(a:List Int)(b c:Int)(d:List D4):vR F J (n+1) (o7 i a b c d)=br (decide (i<4)) (vQ F (yy F J n) F.n (o6 i 0 a b c d)) (J (.exit 1) (Gk a b c d)):=by kernel_rfl
def QC (i:Int)(a:List Int)(b c:Int)(d:List D4):yy F J n (.exit 3) (Gj i a b c d)=vR F J n (o7 (ak (i+1)) a b c d):=by kernel_rfl
def QD (a:List Int)(b c:Int)(d:List D4):o8 F (.exit 1) (Gk a b c d)=some ((d,()),(a,b,c),()):=by kernel_rfl
def Eo (c:D2):=eX gY F gZ f129 aX 0 .cur rk aX 2 (c,())
def Yk (c:D2):Eo F c=(mO F0 c).bind fun b=>(af F0 b.2.1 8).bind fun a=>br (a.1.1==0) ((wT F0 a.2.1).bind fun d=>ck (fc F b.1.1.length [d.1.1].length 32) (some ((b.1.1++[d.1.1],()),d.2.1,()))) (br (a.1.1==1) (vR F (o8 F) F.n (o7 0 a.2.1.1 a.2.1.2.1 a.2.1.2.2 b.1.1)) (some ((b.1.1,()),a.2.1,()))):=by kernel_rfl
def IB:Any:=.two ⟨aX,0,.cur,rk,2,aX,fun x=>Eo F0 x.1⟩
def Yl:bw 129 IB:=hA gY ⟨ar,Mp,KB,yu,trivial⟩ func129 gZ (by kernel_rfl)
def hR:=[(62,mj),(97,cc),(98,al),(125,fV),(194,eO)]
def hS:Nat->Option Hint:=look [(3,{live:=[0,3,5,6],xl:=[0,3,5],rl:=[4]})]
def fX (i:Int)(a:List Int)(b c d e:Int)(f:List D9):St:={nt:=32,tm:=[(0,.v (.c (.ptr 4000000 0))),de 3,(5,.v (.c (.own 1000000 none))),(6,cD i)],bx:=[(4000000,[.ro true 5 (.int .u8) a,aw b,aw c]),(3,[aw d,aw e])],bl:=[aJ 1000000 29 K9 f],sp:=.v (.c (.ptr 4000000 0))}
def jS (a:List Int)(b c d e:Int)(f:List D9):St:={nt:=32,tm:=[(0,.v (.c (.ptr 4000000 0))),de 3,(5,.v (.c (.own 1000000 none)))],bx:=[(4000000,[.ro true 5 (.int .u8) a,aw b,aw c]),(3,[aw d,aw e])],bl:=[aJ 1000000 29 K9 f],sp:=.v (.c (.ptr 4000000 0))}
def hU (a:St):Option U:=hl hR F hS [.r,.r,.l,.r,.b,.i] f130 J n a
def fY:=EV hR F hS [.r,.r,.l,.r,.b] f130 .cur Ka aX 2
def nU (i:Int)(f:List Int)(g h a b:Int)(e:List D9):hU F J (n+1) (fX i f g h a b e)=(af F0 (f,g,h) 5).bind fun c=>br (decide (i<c.1.1)) ((eM F0 c.2.1 (a,b)).bind fun d=>(dn F0 (a,b) e d.1.1).bind fun j=>hU F J n (fX (ak (i+1)) d.2.1.1 d.2.1.2.1 d.2.1.2.2 a b j.1)) (J (.exit 0) (jS c.2.1.1 c.2.1.2.1 c.2.1.2.2 a b e)):=by kernel_rfl
def Gl (d:List Int)(e f g h:Int)(a:List D9):fY F (.exit 0) (jS d e f g h a)=(cX F0 (d,e,f) 8).bind fun b=>br b.1.1 ((mi F0 b.2.1 (g,h)).bind fun c=>ck (fc F a.length [c.1.1].length 48) (some ((a++[c.1.1],()),c.2.1,()))) (some ((a,()),b.2.1,())):=by kernel_rfl
def k8 (c:D2)(a:D1):=eX hR F hS f130 IT 0 .cur Ka aX 2 (c,a,())
def KC (c:D2)(a:D1):k8 F c a=hU F (fY F) F.n (fX 0 c.1 c.2.1 c.2.2 a.1 a.2 []):=by kernel_rfl
def tL:Any:=.two ⟨IT,0,.cur,Ka,2,aX,fun x=>k8 F0 x.1 x.2.1⟩
def KE:bw 130 tL:=hA hR ⟨yg,cY,ar,lC,iG,trivial⟩ func130 hS (by kernel_rfl)
end
end Go.Am.Tryz
