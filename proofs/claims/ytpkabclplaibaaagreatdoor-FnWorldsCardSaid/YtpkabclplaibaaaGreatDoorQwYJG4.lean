/- No condition. -/
import Derived.Test.YtpkabclplaibaaaGreatDoorQwYJG3
set_option linter.all false
set_option maxRecDepth 100000
namespace Go.Am.Tryz
open Go.Am Go.Proofs Go.Proofs.Tryz
noncomputable section
variable {U:Type} (F:nY) (J:Ex->St->Option U) (n:Nat)
def YD:=[(83,cJ),(119,b7),(181,iw),(301,hU),(342,Si)]
abbrev aFx:List (Ty×Bool):=[(K1,true),(.sl 3 (.int .i64),false),(K39,false),(K22,true)]
def Mm (c:D1)(aJ:List Int)(a:D39)(m:T2):=bL YD F ad f319 aFx aM 1 (c,aJ,a,m,())
def alr (c:D1)(aJ:List Int)(a:D39)(m:T2):Mm F c aJ a m=(eN F0 c m).bind fun b=>br (!b.1) (some (false,())) (br (m.1==1) ((cr F0 m.2.2.1.1).bind fun d=>(lg F0 c d.1).bind fun e=>(cS F0 aJ e.1).bind fun f=>br f.1 ((wu F0 aJ a m.2.2.1.2.1 m.2.2.1.2.2.1 m.2.2.1.2.2.2).bind fun g=>some (g.1,())) (some (false,()))) (br (m.1==2) ((wu F0 aJ a m.2.2.2.1.1 m.2.2.2.1.2.1 m.2.2.2.1.2.2).bind fun h=>some (h.1,())) (br (m.1==3) ((cS F0 aJ m.2.2.2.2.2.1).bind fun i=>br i.1 ((wu F0 aJ a m.2.2.2.2.1.1 m.2.2.2.2.1.2.1 m.2.2.2.2.1.2.2).bind fun j=>some (j.1,())) (some (false,()))) (some (true,()))))):=by kernel_rfl
def Sj:Any:=.one ⟨aFx,aM,1,fun x=>Mm F0 x.1 x.2.1 x.2.2.1 x.2.2.2.1⟩
def als:bb 319 Sj:=aC YD ⟨dr,cL,n4,mr,alq,trivial⟩ func319 ad (by kernel_rfl)
def yP:=[(200,e4)]
def yQ:Nat->Option Hint:=look [(3,{live:=[0,3,4],xl:=[3],rl:=[2]})]
def rN (a:List Int)(i:Int)(b:List Int):= dN 20 [(0,jN 3 (.int .i64) a),(3,.v (.c (.own 1000000 none))),(4,bd i)] [] [aF 1000000 5 (.int .u8) b]
def Mn (a:List Int):= dN 20 [(3,.v (.c (.own 1000000 none)))] [] [aF 1000000 5 (.int .u8) a]
def yR (a:St):Option U:=ek yP F yQ [.r,.r,.l,.r,.b,.i] f203 J n a
def Cm:=iR yP F yQ [.r,.r,.l,.r,.b] f203 iY 2
def GM (a:List Int)(i:Int)(b:List Int):yR F J (n+1) (rN a i b)=br (decide (i<(a.length:Int))) (ck (bG i (a.length:Int)) ((dx F0 (aL a i 0)).bind fun c=>ck (dV F b.length c.1.length 1) (yR F J n (rN a (al (i+1)) (b++c.1))))) (J (.exit 0) (Mn b)):=by kernel_rfl
def aaa (a:List Int):Cm F (.exit 0) (Mn a)=some (a,()):=by kernel_rfl
def rO (a:List Int):=bL yP F yQ f203 pt iY 2 (a,())
def ah9 (a:List Int):rO F a=yR F (Cm F) F.n (rN a 0 []):=by kernel_rfl
def Pb:Any:=.one ⟨pt,iY,2,fun x=>rO F0 x.1⟩
def aia:bb 203 Pb:=aC yP ⟨iy,trivial⟩ func203 yQ (by kernel_rfl)
def Sk:=[(181,iw),(200,e4),(201,rC),(202,Ch),(203,Pb)]
def tj (c:D1)(m:T2):=bL Sk F ad f134 agC iY 2 (c,m,())
def aeL (c:D1)(m:T2):tj F c m=(eN F0 c m).bind fun l=>br (!l.1) (some ([],())) ((dx F0 m.1).bind fun a=>br (m.1==1) ((mv F0 m.2.2.1.1).bind fun e=>ck (dV F a.1.length e.1.length 1) ((rE F0 c m.2.2.1.2).bind fun h=>ck (dV F (a.1++e.1).length h.1.length 1) (some ((a.1++e.1)++h.1,())))) (br (m.1==2) ((dx F0 m.2.2.2.1.1).bind fun b=>ck (dV F a.1.length b.1.length 1) ((mv F0 m.2.2.2.1.2.1).bind fun d=>ck (dV F (a.1++b.1).length d.1.length 1) ((dx F0 (m.2.2.2.1.2.2.length:Int)).bind fun f=>ck (dV F ((a.1++b.1)++d.1).length f.1.length 1) ((rO F0 m.2.2.2.1.2.2).bind fun i=>ck (dV F (((a.1++b.1)++d.1)++f.1).length i.1.length 1) (some ((((a.1++b.1)++d.1)++f.1)++i.1,())))))) (br (m.1==3) ((rO F0 [m.2.1,m.2.2.2.2.2.1]).bind fun g=>ck (dV F a.1.length g.1.length 1) ((rE F0 c m.2.2.2.2.1).bind fun j=>ck (dV F (a.1++g.1).length j.1.length 1) (some ((a.1++g.1)++j.1,())))) ((rO F0 [m.2.2.2.2.2.2.1,m.2.2.2.2.2.2.2.1,m.2.2.2.2.2.2.2.2.1,m.2.2.2.2.2.2.2.2.2]).bind fun k=>ck (dV F a.1.length k.1.length 1) (some (a.1++k.1,())))))):=by kernel_rfl
def yS:Any:=.one ⟨agC,iY,2,fun x=>tj F0 x.1 x.2.1⟩
def Pc:bb 134 yS:=aC Sk ⟨n4,iy,FV,R1,aia,trivial⟩ func134 ad (by kernel_rfl)
def yT:=[(117,bW),(134,yS)]
def yU:Nat->Option Hint:=look [(2,{live:=[1,2,4,5],aFE:=true,A9:=[(4,2,3,.int .i64),(4,3,42,ca),(4,4,95,ew),(4,5,91,cA)],xl:=[2,4],rl:=[4]})]
def eA (j:List A7)(i w a k l:Int)(m:List Int)(b:List bq)(c:List bS)(d:List bK)(e:List Int)(f:List bq)(g:List bS)(h:List bK):St:={nt:=55,tm:=[(1,jN 125 (w5) j),bX 2,bX 4,(5,bd i)],bx:=[(2,[aq w,aq a,.own 1000000 none,.own 1000001 none,.own 1000002 none,.own 1000003 none]),(4,[aq k,aq l,.own 1000004 none,.own 1000005 none,.own 1000006 none,.own 1000007 none])],bl:=[aF 1000000 3 (.int .i64) m,aF 1000001 42 ca b,aF 1000002 95 ew c,aF 1000003 91 cA d,aF 1000004 3 (.int .i64) e,aF 1000005 42 ca f,aF 1000006 95 ew g,aF 1000007 91 cA h],sp:=.v (.c (.none))}
def Mo (w a i j:Int)(k:List Int)(b:List bq)(c:List bS)(d:List bK)(e:List Int)(f:List bq)(g:List bS)(h:List bK):St:={nt:=55,tm:=[bX 2,bX 4],bx:=[(2,[aq w,aq a,.own 1000000 none,.own 1000001 none,.own 1000002 none,.own 1000003 none]),(4,[aq i,aq j,.own 1000004 none,.own 1000005 none,.own 1000006 none,.own 1000007 none])],bl:=[aF 1000000 3 (.int .i64) k,aF 1000001 42 ca b,aF 1000002 95 ew c,aF 1000003 91 cA d,aF 1000004 3 (.int .i64) e,aF 1000005 42 ca f,aF 1000006 95 ew g,aF 1000007 91 cA h],sp:=.v (.c (.none))}
def gg (a:St):Option U:=ek yT F yU [.r,.l,.r,.b,.i] f110 J n a
def rP:=Lo yT F yU [.r,.l,.r,.b] f110 (.own true) fc [] 2
def kH (a:List A7)(i w c k l:Int)(m:List Int)(d:List bq)(b:List bS)(e:List bK)(f:List Int)(g:List bq)(h:List bS)(j:List bK):gg F J (n+1) (eA a i w c k l m d b e f g h j)=br (decide (i<(a.length:Int))) (ck (bG i (a.length:Int)) ((tj F0 (w,c) (aL a i w5.az).2).bind fun o=>br (decide ((b.length:Int)<60)) (br (decide ((o.1.length:Int)>0)) (ck (bG i (a.length:Int)) ((bI F0 (aL a i w5.az).1 0 (al (w-1))).bind fun p=>br p.1 (ck (bG i (a.length:Int)) (ck (dV F b.length [((aL a i w5.az).1,o.1)].length 32) (gg F J n (eA a (al (i+1)) w c k l m d (b++[((aL a i w5.az).1,o.1)]) e f g h j)))) (gg F J n (eA a (al (i+1)) w c k l m d b e f g h j)))) (gg F J n (eA a (al (i+1)) w c k l m d b e f g h j))) (gg F J n (eA a (al (i+1)) w c k l m d b e f g h j)))) (J (.exit 0) (Mo w c k l m d b e f g h j)):=by kernel_rfl
def Kb (w a j k:Int)(e:List Int)(b:List bq)(c:List bS)(d:List bK)(f:List Int)(g:List bq)(h:List bS)(i:List bK):rP F (.exit 0) (Mo w a j k e b c d f g h i)=some ((((w,a),e,b,c,d),()),()):=by kernel_rfl
abbrev agK:List (Ty×Bool):=[(gq,true),(K24,false)]
def mw (w:l1)(a:D24):=fJ yT F yU f110 agK 0 (.own true) fc [] 2 (w,a,())
def Sl (w:l1)(a:D24):mw F w a=gg F (rP F) F.n (eA a 0 w.1.1 w.1.2 0 0 w.2.1 w.2.2.1 w.2.2.2.1 w.2.2.2.2 [] [] [] []):=by kernel_rfl
def rQ:Any:=.two ⟨agK,0,(.own true),fc,2,[],fun x=>mw F0 x.1 x.2.1⟩
def F1:bb 110 rQ:=awL yT ⟨cq,Pc,trivial⟩ func110 yU (by kernel_rfl)
def YE:=[(110,rQ),(117,bW),(319,Sj)]
def Mp (w:l1)(d:D45):Option (l1×Int×l1):=anN Tryz.prog (look YE) F ad f299 [(gq,true),(K45,true)] 0 (gq,true) (.int .i64,false) (gq,true) (w,d,())
def alu (w:l1)(d:D45):Mp F w d=(bI F0 d.2.1 0 (al (w.1.1-1))).bind fun a=>br (!a.1) (some (gq.az,2,w)) ((Mm F0 w.1 w.2.1 w.2.2.2.2 d.2.2.2).bind fun b=>br (!b.1) (some (gq.az,5,w)) (br (decide ((w.2.2.2.1.length:Int)>=60)) (some (gq.az,4,w)) ((mw F0 w [(d.2.1,d.2.2.2)]).bind fun c=>some (c.1.1,0,gq.az)))):=by kernel_rfl
def Sm:Any:=.sel ⟨[(gq,true),(K45,true)],0,(gq,true),(.int .i64,false),(gq,true),fun x=>Mp F0 x.1 x.2.1⟩
def alv:bb 299 Sm:=ok4 (show w4 Tryz.prog TB YE from⟨F1,cq,als,trivial⟩) func299 (by kernel_rfl) (by kernel_rfl) ad (by kernel_rfl) (by kernel_rfl)
def DG:=[(83,cJ)]
def DH:Nat->Option Hint:=look [(3,{live:=[1,3,4],xl:=[3],rl:=[2]})]
def jz (i w a:Int)(b:List Int)(c:List bq)(d:List bS)(e:List bK)(f:List Int):= dN 23 [bX 1,(3,.v (.c (.own 1000000 none))),(4,bd i)] [(1,[aq w,aq a,.ro false 3 (.int .i64) b,.ro false 42 (ca) c,.ro false 95 (ew) d,.ro false 91 (cA) e])] [aF 1000000 3 (.int .i64) f]
def Pd (a:List Int):= dN 23 [(3,.v (.c (.own 1000000 none)))] [] [aF 1000000 3 (.int .i64) a]
def oa (a:St):Option U:=ek DG F DH [.r,.r,.l,.r,.b,.i] f55 J n a
def uO:=iR DG F DH [.r,.r,.l,.r,.b] f55 pt 2
def Kc (i w d:Int)(b:List Int)(c:List bq)(e:List bS)(f:List bK)(a:List Int):oa F J (n+1) (jz i w d b c e f a)=br (decide (i<(c.length:Int))) ((cS F0 b i).bind fun g=>br (!g.1) (ck (dV F a.length [i].length 8) (oa F J n (jz (al (i+1)) w d b c e f (a++[i])))) (oa F J n (jz (al (i+1)) w d b c e f a))) (J (.exit 0) (Pd a)):=by kernel_rfl
def acr (a:List Int):uO F (.exit 0) (Pd a)=some (a,()):=by kernel_rfl
def wv (w:l1):=bL DG F DH f55 fc pt 2 (w,())
def alw (w:l1):wv F w=oa F (uO F) F.n (jz 0 w.1.1 w.1.2 w.2.1 w.2.2.1 w.2.2.2.1 w.2.2.2.2 []):=by kernel_rfl
def uP:Any:=.one ⟨fc,pt,2,fun x=>wv F0 x.1⟩
def Kd:bb 55 uP:=aC DG ⟨dr,trivial⟩ func55 DH (by kernel_rfl)
def yV:=[(115,cc),(176,bO),(347,lv)]
def yW:Nat->Option Hint:=look [(5,{live:=[3,4,5,6,8,9],A9:=[(6,7,3,.int .i64),(6,9,99,K4),(6,10,29,K9),(6,11,5,.int .u8),(6,13,125,w5)],xl:=[6,8],rl:=[6,7]})]
def ly (i c a r b d e f g:Int)(h:ByteArray)(j:List Int)(k:ByteArray)(l:List D4)(o:List D9)(p:List Int)(q:Int)(s:List A7)(m M:Int)(m2:ByteArray)(N:Int)(O:ByteArray)(P:List Int)(Q:Int)(R:ByteArray)(S:List Int)(T:Int)(W:ByteArray)(X:List Int)(Y Z qd qe qf qg qh qi qj qk ql:Int)(qm qn:ByteArray)(qo qp t u v w x:Int)(y z:ByteArray)(A:Int)(qq:List Int)(B:List D4)(C:List D9)(D:List Int)(E:List A7)(G:List Int)(H:List D4)(I:List D9)(K:List Int)(L:List A7):= dN 43 [bX 3,bX 4,bX 5,bX 6,bX 8,(9,bd i)] [(3,[aq c,aq a]),(4,[aq r,aq b,aq d,aq e,aq f,aq g,.str h,.ro false 3 (.int .i64) j,.str k,.ro false 99 (K4) l,.ro false 29 (K9) o,.ro false 5 (.int .u8) p,aq q,.ro false 125 (w5) s]),(5,[aq m,aq M,.str m2,aq N,.str O,.ro false 3 (.int .i64) P,aq Q,.str R,.ro false 3 (.int .i64) S,aq T,.str W,.ro false 3 (.int .i64) X,aq Y,aq Z,aq qd,aq qe,aq qf]),(6,[aq qg,aq qh,aq qi,aq qj,aq qk,aq ql,.str qm,.own 1000000 none,.str qn,.own 1000001 none,.own 1000002 none,.own 1000003 none,aq qo,.own 1000004 none]),(8,[aq qp,aq t,aq u,aq v,aq w,aq x,.str y,.own 1000005 none,.str z,.own 1000006 none,.own 1000007 none,.own 1000008 none,aq A,.own 1000009 none])] [aF 1000000 3 (.int .i64) qq,aF 1000001 99 K4 B,aF 1000002 29 K9 C,aF 1000003 5 (.int .u8) D,aF 1000004 125 w5 E,aF 1000005 3 (.int .i64) G,aF 1000006 99 K4 H,aF 1000007 29 K9 I,aF 1000008 5 (.int .u8) K,aF 1000009 125 w5 L]
def Pe (e:Bool)(f g h i j k:Int)(l m:ByteArray)(o:Int)(p:List Int)(a:List D4)(b:List D9)(c:List Int)(d:List A7):= dN 43 [bX 6,(7,ED e)] [(6,[aq f,aq g,aq h,aq i,aq j,aq k,.str l,.own 1000000 none,.str m,.own 1000001 none,.own 1000002 none,.own 1000003 none,aq o,.own 1000004 none])] [aF 1000000 3 (.int .i64) p,aF 1000001 99 K4 a,aF 1000002 29 K9 b,aF 1000003 5 (.int .u8) c,aF 1000004 125 w5 d]
def Mq (s t u v w x:Int)(y z:ByteArray)(A B a b c d e:Int)(f g:ByteArray)(h:Int)(C:List Int)(i:List D4)(j:List D9)(k:List Int)(l:List A7)(m:List Int)(o:List D4)(p:List D9)(q:List Int)(r:List A7):= dN 43 [bX 6,bX 8] [(6,[aq s,aq t,aq u,aq v,aq w,aq x,.str y,.own 1000000 none,.str z,.own 1000001 none,.own 1000002 none,.own 1000003 none,aq A,.own 1000004 none]),(8,[aq B,aq a,aq b,aq c,aq d,aq e,.str f,.own 1000005 none,.str g,.own 1000006 none,.own 1000007 none,.own 1000008 none,aq h,.own 1000009 none])] [aF 1000000 3 (.int .i64) C,aF 1000001 99 K4 i,aF 1000002 29 K9 j,aF 1000003 5 (.int .u8) k,aF 1000004 125 w5 l,aF 1000005 3 (.int .i64) m,aF 1000006 99 K4 o,aF 1000007 29 K9 p,aF 1000008 5 (.int .u8) q,aF 1000009 125 w5 r]
def pR (a:St):Option U:=ek yV F yW [.r,.r,.r,.l,.r,.b,.i] f343 J n a
def rR:=iR yV F yW [.r,.r,.r,.l,.r,.b] f343 vu 2
def GN (i c d r e f g h j:Int)(k:ByteArray)(l:List Int)(o:ByteArray)(p:List D4)(q:List D9)(s:List Int)(t:Int)(u:List A7)(m O:Int)(m2:ByteArray)(P:Int)(Q:ByteArray)(R:List Int)(S:Int)(T:ByteArray)(W:List Int)(X:Int)(Y:ByteArray)(Z:List Int)(qd qe qf qg qh qi qj qk ql qm qn:Int)(qo qp:ByteArray)(qq qt v w x y z:Int)(A B:ByteArray)(C:Int)(qu:List Int)(D:List D4)(E:List D9)(G:List Int)(H:List A7)(I:List Int)(K:List D4)(L:List D9)(M:List Int)(N:List A7):pR F J (n+1) (ly i c d r e f g h j k l o p q s t u m O m2 P Q R S T W X Y Z qd qe qf qg qh qi qj qk ql qm qn qo qp qq qt v w x y z A B C qu D E G H I K L M N)=br (decide (i<c)) (br (i==r) (pR F J n (ly (al (i+1)) c d r e f g h j k l o p q s t u m O m2 P Q R S T W X Y Z qd qe qf qg qh qi qj qk ql qm qn qo qp qq qt v w x y z A B C qu D E G H I K L M N)) ((eP F0 (c,d) (qt,v,w,(x,y,(z,A,I),B),K,L,(M,C),N) i (m,O,(m2,P,Q,R),(S,T,W),(X,Y,Z),qd,qe,qf,qg,qh)).bind fun a=>br (!a.1.2.1) ((a6 F0 (r,e,f,(g,h,(j,k,l),o),p,q,(s,t),u)).bind fun b=>J .ret (Pe false b.1.1 b.1.2.1 b.1.2.2.1 b.1.2.2.2.1.1 b.1.2.2.2.1.2.1 b.1.2.2.2.1.2.2.1.1 b.1.2.2.2.1.2.2.1.2.1 b.1.2.2.2.1.2.2.2 b.1.2.2.2.2.2.2.1.2 b.1.2.2.2.1.2.2.1.2.2 b.1.2.2.2.2.1 b.1.2.2.2.2.2.1 b.1.2.2.2.2.2.2.1.1 b.1.2.2.2.2.2.2.2)) (pR F J n (ly (al (i+1)) c d r e f g h j k l o p q s t u m O m2 P Q R S T W X Y Z qd qe qf qg qh qi qj qk ql qm qn qo qp qq a.1.1.1 a.1.1.2.1 a.1.1.2.2.1 a.1.1.2.2.2.1.1 a.1.1.2.2.2.1.2.1 a.1.1.2.2.2.1.2.2.1.1 a.1.1.2.2.2.1.2.2.1.2.1 a.1.1.2.2.2.1.2.2.2 a.1.1.2.2.2.2.2.2.1.2 qu D E G H a.1.1.2.2.2.1.2.2.1.2.2 a.1.1.2.2.2.2.1 a.1.1.2.2.2.2.2.1 a.1.1.2.2.2.2.2.2.1.1 a.1.1.2.2.2.2.2.2.2)))) (J (.exit 0) (Mq qi qj qk ql qm qn qo qp qq qt v w x y z A B C qu D E G H I K L M N)):=by kernel_rfl
def acs (e:Bool)(f g h i j k:Int)(l m:ByteArray)(o:Int)(p:List Int)(a:List D4)(b:List D9)(c:List Int)(d:List A7):rR F .ret (Pe e f g h i j k l m o p a b c d)=some ((f,g,h,(i,j,(k,l,p),m),a,b,(c,o),d),e,()):=by kernel_rfl
def aab (t u v w x y:Int)(z A:ByteArray)(B o a b c d e:Int)(f g:ByteArray)(h:Int)(C:List Int)(p:List D4)(q:List D9)(r:List Int)(s:List A7)(i:List Int)(j:List D4)(k:List D9)(l:List Int)(m:List A7):rR F (.exit 0) (Mq t u v w x y z A B o a b c d e f g h C p q r s i j k l m)=some ((o,a,b,(c,d,(e,f,i),g),j,k,(l,h),m),true,()):=by kernel_rfl
def yX (c:D1)(r:bq)(m:T2):=bL yV F yW f343 apN vu 2 (c,r,m,())
def aib (c:D1)(r:bq)(m:T2):yX F c r m=(a6 F0 r).bind fun a=>(dd F0 c r).bind fun b=>br (!b.1) (some (a.1,false,())) (pR F (rR F) F.n (ly 0 c.1 c.2 r.1 r.2.1 r.2.2.1 r.2.2.2.1.1 r.2.2.2.1.2.1 r.2.2.2.1.2.2.1.1 r.2.2.2.1.2.2.1.2.1 r.2.2.2.1.2.2.1.2.2 r.2.2.2.1.2.2.2 r.2.2.2.2.1 r.2.2.2.2.2.1 r.2.2.2.2.2.2.1.1 r.2.2.2.2.2.2.1.2 r.2.2.2.2.2.2.2 m.1 m.2.1 m.2.2.1.1 m.2.2.1.2.1 m.2.2.1.2.2.1 m.2.2.1.2.2.2 m.2.2.2.1.1 m.2.2.2.1.2.1 m.2.2.2.1.2.2 m.2.2.2.2.1.1 m.2.2.2.2.1.2.1 m.2.2.2.2.1.2.2 m.2.2.2.2.2.1 m.2.2.2.2.2.2.1 m.2.2.2.2.2.2.2.1 m.2.2.2.2.2.2.2.2.1 m.2.2.2.2.2.2.2.2.2 0 0 0 0 0 0 aj aj 0 a.1.1 a.1.2.1 a.1.2.2.1 a.1.2.2.2.1.1 a.1.2.2.2.1.2.1 a.1.2.2.2.1.2.2.1.1 a.1.2.2.2.1.2.2.1.2.1 a.1.2.2.2.1.2.2.2 a.1.2.2.2.2.2.2.1.2 [] [] [] [] [] a.1.2.2.2.1.2.2.1.2.2 a.1.2.2.2.2.1 a.1.2.2.2.2.2.1 a.1.2.2.2.2.2.2.1.1 a.1.2.2.2.2.2.2.2)):=by kernel_rfl
def Pf:Any:=.one ⟨apN,vu,2,fun x=>yX F0 x.1 x.2.1 x.2.2.1⟩
def aic:bb 343 Pf:=aC yV ⟨cO,b8,uI,trivial⟩ func343 yW (by kernel_rfl)
def YF:=[(176,bO),(265,Qy),(343,Pf),(344,vy)]
def Mr (w:l1)(a:Int):Option (l1×Int×l1):=anN Tryz.prog (look YF) F ad f320 [(gq,true),(.int .i64,false)] 0 (gq,true) (.int .i64,false) (gq,true) (w,a,())
def alx (w:l1)(a:Int):Mr F w a=ck (bG a (w.2.2.1.length:Int)) ((Ur F0 w.1 (aL w.2.2.1 a ca.az)).bind fun c=>br (!c.2.1) (some (gq.az,3,w)) (ck (bG a (w.2.2.1.length:Int)) ((a6 F0 (aL w.2.2.1 a ca.az)).bind fun b=>(yX F0 w.1 (b.1.1,b.1.2.1,b.1.2.1,b.1.2.2.2) (1,0,c.1,(0,aj,[]),(0,aj,[]),0,0,0,0,0)).bind fun d=>(pQ F0 w.1 d.1 c.1).bind fun e=>br (!d.2.1) (some (gq.az,4,w)) (br (!e.2.1) (some (gq.az,4,w)) (ck (bG a (w.2.2.1.length:Int)) (some ((w.1,w.2.1,w.2.2.1.set a.toNat e.1,w.2.2.2),0,gq.az))))))):=by kernel_rfl
def Sn:Any:=.sel ⟨[(gq,true),(.int .i64,false)],0,(gq,true),(.int .i64,false),(gq,true),fun x=>Mr F0 x.1 x.2.1⟩
def aly:bb 320 Sn:=ok4 (show w4 Tryz.prog TB YF from⟨b8,agF,aic,Mh,trivial⟩) func320 (by kernel_rfl) (by kernel_rfl) ad (by kernel_rfl) (by kernel_rfl)
def agL:=[(180,nG),(249,ll)]
def WQ (d:D15):=bL agL F ad f360 wh wh 2 (d,())
def arN (d:D15):WQ F d=(hD F0 d).bind fun a=>(l8 F0 d).bind fun b=>br b.1 (some ((a.1.1,(d.1.length:Int)),())) (some (a.1,())):=by kernel_rfl
def YG:Any:=.one ⟨wh,wh,2,fun x=>WQ F0 x.1⟩
def arO:bb 360 YG:=aC agL ⟨yf,uB,trivial⟩ func360 ad (by kernel_rfl)
def UL:=[(115,cc),(176,bO),(250,yw),(360,YG)]
def Ia (c:D1)(r:bq):=bL UL F ad f345 Lp [(ca,true),(K24,false)] 2 (c,r,())
def aid (c:D1)(r:bq):Ia F c r=(a6 F0 r).bind fun a=>(dd F0 c r).bind fun b=>br (!b.1) (some (a.1,[],())) ((WQ F0 r.2.2.2.2.2.2.1).bind fun d=>(tg F0 r.2.2.2.2.2.2.2).bind fun e=>some ((a.1.1,a.1.2.1,a.1.2.2.1,a.1.2.2.2.1,a.1.2.2.2.2.1,a.1.2.2.2.2.2.1,d.1,[]),e.1,())):=by kernel_rfl
def Pg:Any:=.one ⟨Lp,[(ca,true),(K24,false)],2,fun x=>Ia F0 x.1 x.2.1⟩
def aie:bb 345 Pg:=aC UL ⟨cO,b8,OU,arO,trivial⟩ func345 ad (by kernel_rfl)
def lz:=[(176,bO)]
def lA:Nat->Option Hint:=look [(3,{live:=[1,2,3,4],A9:=[(2,2,3,.int .i64),(2,3,42,ca),(2,4,95,ew),(2,5,91,cA),(3,3,42,ca),(3,4,95,ew)],xl:=[1,2,3],rl:=[2]}),(7,{live:=[1,2,3,5],xl:=[2,3],rl:=[2]}),(999999,{live:=[1]})]
def rS (w:l1)(i j k l a:Int)(m:List Int)(b:List bq)(c:List bS)(d:List bK)(e:List Int)(f:List bq)(g:List bS)(h:List bK):St:={nt:=63,tm:=[(1,.v (.c (.Qd false (gq) w 0))),bX 2,bX 3,(5,bd i)],bx:=[(2,[aq j,aq k,.own 1000000 none,.own 1000001 none,.own 1000002 none,.own 1000003 none]),(3,[aq l,aq a,.own 1000004 none,.own 1000005 none,.own 1000006 none,.own 1000007 none])],bl:=[aF 1000000 3 (.int .i64) m,aF 1000001 42 ca b,aF 1000002 95 ew c,aF 1000003 91 cA d,aF 1000004 3 (.int .i64) e,aF 1000005 42 ca f,aF 1000006 95 ew g,aF 1000007 91 cA h],rob:=[1]}
def Ms (i j k a:Int)(l:List Int)(b:List bq)(c:List bS)(d:List bK)(e:List Int)(f:List bq)(g:List bS)(h:List bK):St:={nt:=63,tm:=[bX 2,bX 3],bx:=[(2,[aq i,aq j,.own 1000000 none,.own 1000001 none,.own 1000002 none,.own 1000003 none]),(3,[aq k,aq a,.own 1000004 none,.own 1000005 none,.own 1000006 none,.own 1000007 none])],bl:=[aF 1000000 3 (.int .i64) l,aF 1000001 42 ca b,aF 1000002 95 ew c,aF 1000003 91 cA d,aF 1000004 3 (.int .i64) e,aF 1000005 42 ca f,aF 1000006 95 ew g,aF 1000007 91 cA h],rob:=[1]}
def yY (a:St):Option U:=ek lz F lA [.r,.r,.r,.l,.r,.b,.i] f109 J n a
def Cn:=iR lz F lA [.r,.r,.r,.l,.r,.b] f109 fc 2
def rT (w:l1)(i j k l a:Int)(m:List Int)(b:List bq)(c:List bS)(d:List bK)(e:List Int)(f:List bq)(g:List bS)(h:List bK):St:={nt:=63,tm:=[(1,.v (.c (.Qd false (gq) w 0))),bX 2,bX 3,(4,bd i)],bx:=[(2,[aq j,aq k,.own 1000000 none,.own 1000001 none,.own 1000002 none,.own 1000003 none]),(3,[aq l,aq a,.own 1000004 none,.own 1000005 none,.own 1000006 none,.own 1000007 none])],bl:=[aF 1000000 3 (.int .i64) m,aF 1000001 42 ca b,aF 1000002 95 ew c,aF 1000003 91 cA d,aF 1000004 3 (.int .i64) e,aF 1000005 42 ca f,aF 1000006 95 ew g,aF 1000007 91 cA h],rob:=[1]}
def Mt (w:l1)(i j k a:Int)(l:List Int)(b:List bq)(c:List bS)(d:List bK)(e:List Int)(f:List bq)(g:List bS)(h:List bK):St:={nt:=63,tm:=[(1,.v (.c (.Qd false (gq) w 0))),bX 2,bX 3],bx:=[(2,[aq i,aq j,.own 1000000 none,.own 1000001 none,.own 1000002 none,.own 1000003 none]),(3,[aq k,aq a,.own 1000004 none,.own 1000005 none,.own 1000006 none,.own 1000007 none])],bl:=[aF 1000000 3 (.int .i64) l,aF 1000001 42 ca b,aF 1000002 95 ew c,aF 1000003 91 cA d,aF 1000004 3 (.int .i64) e,aF 1000005 42 ca f,aF 1000006 95 ew g,aF 1000007 91 cA h],rob:=[1]}
def yZ (a:St):Option U:=ek lz F lA [.r,.r,.l,.r,.b,.i] f109 J n a
def Co:=iR lz F lA [.r,.r,.l,.r,.b] f109 fc 2
def GO (w:l1)(i j k l b:Int)(m:List Int)(c:List bq)(d:List bS)(e:List bK)(f:List Int)(g:List bq)(a:List bS)(h:List bK):yY F J (n+1) (rS w i j k l b m c d e f g a h)=br (decide (i<(w.2.2.2.1.length:Int))) (ck (bG i (w.2.2.2.1.length:Int)) (ck (bG i (w.2.2.2.1.length:Int)) (ck (dV F 0 (aL w.2.2.2.1 i (0,[])).2.length 1) (ck (dV F a.length [((aL w.2.2.2.1 i (0,[])).1,[]++(aL w.2.2.2.1 i (0,[])).2)].length 32) (yY F J n (rS w (al (i+1)) j k l b m c d e f g (a++[((aL w.2.2.2.1 i (0,[])).1,[]++(aL w.2.2.2.1 i (0,[])).2)]) h)))))) (J (.exit 2) (Ms j k l b m c d e f g a h)):=by kernel_rfl
def GP (w:l1)(i j k l b:Int)(m:List Int)(c:List bq)(d:List bS)(e:List bK)(f:List Int)(a:List bq)(g:List bS)(h:List bK):yZ F J (n+1) (rT w i j k l b m c d e f a g h)=br (decide (i<(w.2.2.1.length:Int))) (ck (bG i (w.2.2.1.length:Int)) ((a6 F0 (aL w.2.2.1 i ca.az)).bind fun o=>ck (dV F a.length [o.1].length 208) (yZ F J n (rT w (al (i+1)) j k l b m c d e f (a++[o.1]) g h)))) (J (.exit 0) (Mt w j k l b m c d e f a g h)):=by kernel_rfl
def aac (j k f a:Int)(l:List Int)(g:List bq)(h:List bS)(i:List bK)(b:List Int)(c:List bq)(d:List bS)(e:List bK):Cn F (.exit 2) (Ms j k f a l g h i b c d e)=some (((f,a),b,c,d,e),()):=by kernel_rfl
def aad (w:l1)(i j k a:Int)(l:List Int)(b:List bq)(c:List bS)(d:List bK)(e:List Int)(f:List bq)(g:List bS)(h:List bK):Co F (.exit 0) (Mt w i j k a l b c d e f g h)=yY F (Cn F) F.n (rS w 0 i j k a l b c d e f g h):=by kernel_rfl
def y0 (w:l1):=bL lz F lA f109 fc fc 2 (w,())
def aif (w:l1):y0 F w=ck (dV F 0 w.2.1.length 8) (ck (dV F 0 w.2.2.2.2.length 32) (yZ F (Co F) F.n (rT w 0 0 0 w.1.1 w.1.2 [] [] [] [] ([]++w.2.1) [] [] ([]++w.2.2.2.2)))):=by kernel_rfl
def Cp:Any:=.one ⟨fc,fc,2,fun x=>y0 F0 x.1⟩
def Sp:bb 109 Cp:=aC lz ⟨b8,trivial⟩ func109 lA (by kernel_rfl)
def YH:=[(83,cJ)]
abbrev alz:List (Ty×Bool):=[(K39,false)]
abbrev ay7:List (Ty×Bool):=[(.int .i64,false),(K22,true)]
def Mu (a:Int)(m:T2):=bL YH F ad f111 ay7 alz 2 (a,m,())
def alA (a:Int)(m:T2):Mu F a m=br (m.1==2) (br (m.1==4) (some ([],())) (br (m.2.2.2.1.2.1.toList==aj.toList) (some ([],())) ((cS F0 m.2.2.2.1.2.2 a).bind fun b=>br (!b.1) (some ([],())) (some ([(m.2.2.2.1.1,m.2.2.2.1.2.1,a)],()))))) (br (m.1==1) (br (m.1==4) (some ([],())) (br (m.2.2.1.2.2.1.toList==aj.toList) (some ([],())) ((cS F0 m.2.2.1.2.2.2 a).bind fun b=>br (!b.1) (some ([],())) (some ([(m.2.2.1.2.1,m.2.2.1.2.2.1,a)],()))))) (br (m.1==4) (some ([],())) (br (m.2.2.2.2.1.2.1.toList==aj.toList) (some ([],())) ((cS F0 m.2.2.2.2.1.2.2 a).bind fun b=>br (!b.1) (some ([],())) (some ([(m.2.2.2.2.1.1,m.2.2.2.2.1.2.1,a)],())))))):=by kernel_rfl
def Sq:Any:=.one ⟨ay7,alz,2,fun x=>Mu F0 x.1 x.2.1⟩
def alB:bb 111 Sq:=aC YH ⟨dr,trivial⟩ func111 ad (by kernel_rfl)
def mx:=[(55,uP),(83,cJ),(109,Cp),(111,Sq),(112,FZ)]
def my:Nat->Option Hint:=look [(5,{live:=[1,2,6,7,8],A9:=[(6,2,3,.int .i64),(6,3,42,ca),(6,4,95,ew),(6,5,91,cA)],xl:=[6,7],rl:=[6]}),(9,{live:=[1,2,6,7,8,9,10],xl:=[1,2,6,7,8],rl:=[6]})]
def iA (l:Int)(m:List A7)(i k o p q a:Int)(r:List bK)(b:List Int)(c:List bq)(d:List bS)(e:List bK)(f:List Int)(g:List bq)(h:List bS)(j:List bK):= dN 66 [(1,bd l),(2,jN 125 (w5) m),bX 6,bX 7,(8,bd i),(9,.v (.c (.own 1000000 none))),(10,bd k)] [(6,[aq o,aq p,.own 1000001 none,.own 1000002 none,.own 1000003 none,.own 1000004 none]),(7,[aq q,aq a,.own 1000005 none,.own 1000006 none,.own 1000007 none,.own 1000008 none])] [aF 1000000 91 cA r,aF 1000001 3 (.int .i64) b,aF 1000002 42 ca c,aF 1000003 95 ew d,aF 1000004 91 cA e,aF 1000005 3 (.int .i64) f,aF 1000006 42 ca g,aF 1000007 95 ew h,aF 1000008 91 cA j]
def Sr (j:Int)(k:List A7)(i l m o a:Int)(p:List Int)(b:List bq)(c:List bS)(d:List bK)(e:List Int)(f:List bq)(g:List bS)(h:List bK):= dN 66 [(1,bd j),(2,jN 125 (w5) k),bX 6,bX 7,(8,bd i)] [(6,[aq l,aq m,.own 1000000 none,.own 1000001 none,.own 1000002 none,.own 1000003 none]),(7,[aq o,aq a,.own 1000004 none,.own 1000005 none,.own 1000006 none,.own 1000007 none])] [aF 1000000 3 (.int .i64) p,aF 1000001 42 ca b,aF 1000002 95 ew c,aF 1000003 91 cA d,aF 1000004 3 (.int .i64) e,aF 1000005 42 ca f,aF 1000006 95 ew g,aF 1000007 91 cA h]
def mz (a:St):Option U:=ek mx F my [.r,.r,.r,.l,.r,.b,.i,.r,.l,.b,.r,.r,.b,.i] f52 J n a
def y1:Ex->St->Option U:=S8 Tryz.prog (look mx) F my [.r,.l,.b,.r,.r,.b] (sub [.r,.r,.r,.l,.r,.b,.i] (dE f52)) (itk Tryz.prog (look mx) F my (sub [.r,.r,.r,.l,.r,.b,.i] (dE f52)) J n)
def pS (j:Int)(k:List A7)(i l m o a:Int)(p:List Int)(b:List bq)(c:List bS)(d:List bK)(e:List Int)(f:List bq)(g:List bS)(h:List bK):= dN 66 [(1,bd j),(2,jN 125 (w5) k),bX 6,bX 7,(8,bd i)] [(6,[aq l,aq m,.own 1000000 none,.own 1000001 none,.own 1000002 none,.own 1000003 none]),(7,[aq o,aq a,.own 1000004 none,.own 1000005 none,.own 1000006 none,.own 1000007 none])] [aF 1000000 3 (.int .i64) p,aF 1000001 42 ca b,aF 1000002 95 ew c,aF 1000003 91 cA d,aF 1000004 3 (.int .i64) e,aF 1000005 42 ca f,aF 1000006 95 ew g,aF 1000007 91 cA h]
def Ss (i j k a:Int)(l:List Int)(b:List bq)(c:List bS)(d:List bK)(e:List Int)(f:List bq)(g:List bS)(h:List bK):= dN 66 [bX 6,bX 7] [(6,[aq i,aq j,.own 1000000 none,.own 1000001 none,.own 1000002 none,.own 1000003 none]),(7,[aq k,aq a,.own 1000004 none,.own 1000005 none,.own 1000006 none,.own 1000007 none])] [aF 1000000 3 (.int .i64) l,aF 1000001 42 ca b,aF 1000002 95 ew c,aF 1000003 91 cA d,aF 1000004 3 (.int .i64) e,aF 1000005 42 ca f,aF 1000006 95 ew g,aF 1000007 91 cA h]
def y3 (a:St):Option U:=ek mx F my [.r,.r,.r,.l,.r,.b,.i] f52 J n a
def lB:=iR mx F my [.r,.r,.r,.l,.r,.b] f52 fc 2
def oY (m:Int)(o:List A7)(i k p q r c:Int)(a:List bK)(d:List Int)(e:List bq)(f:List bS)(g:List bK)(h:List Int)(j:List bq)(l:List bS)(b:List bK):mz F J (n+1) (iA m o i k p q r c a d e f g h j l b)=br (decide (k<(a.length:Int))) (ck (bG k (a.length:Int)) (br (decide ((b.length:Int)<300)) ((EU F0 b (aL a k cA.az).1 (aL a k cA.az).2.1 (aL a k cA.az).2.2).bind fun s=>br (!s.1) (ck (dV F b.length [(aL a k cA.az)].length 32) (mz F J n (iA m o i (al (k+1)) p q r c a d e f g h j l (b++[(aL a k cA.az)])))) (mz F J n (iA m o i (al (k+1)) p q r c a d e f g h j l b))) (mz F J n (iA m o i (al (k+1)) p q r c a d e f g h j l b)))) (J (.exit 2) (Sr m o i p q r c d e f g h j l b)):=by kernel_rfl
def oZ (k:Int)(a:List A7)(i l m o b:Int)(p:List Int)(c:List bq)(d:List bS)(e:List bK)(f:List Int)(g:List bq)(h:List bS)(j:List bK):y3 F J (n+1) (pS k a i l m o b p c d e f g h j)=br (decide (i<(a.length:Int))) (ck (bG i (a.length:Int)) ((Mu F0 k (aL a i w5.az).2).bind fun q=>mz F (y1 F J n) F.n (iA k a i 0 l m o b q.1 p c d e f g h j))) (J (.exit 0) (Ss l m o b p c d e f g h j)):=by kernel_rfl
def Ph (j:Int)(k:List A7)(i l m o a:Int)(p:List Int)(b:List bq)(c:List bS)(d:List bK)(e:List Int)(f:List bq)(g:List bS)(h:List bK):y1 F J n (.exit 2) (Sr j k i l m o a p b c d e f g h)=y3 F J n (pS j k (al (i+1)) l m o a p b c d e f g h):=by kernel_rfl
def Pj (j k f a:Int)(l:List Int)(g:List bq)(h:List bS)(i:List bK)(b:List Int)(c:List bq)(d:List bS)(e:List bK):lB F (.exit 0) (Ss j k f a l g h i b c d e)=some (((f,a),b,c,d,e),()):=by kernel_rfl
abbrev apO:List (Ty×Bool):=[(gq,true),(.int .i64,false),(K24,false)]
def vA (w:l1)(a:Int)(b:D24):=bL mx F my f52 apO fc 2 (w,a,b,())
def YI (w:l1)(b:Int)(c:D24):vA F w b c=(y0 F0 w).bind fun a=>(wv F0 w).bind fun d=>(cS F0 d.1 b).bind fun e=>br (!e.1) (some (a.1,())) (y3 F (lB F) F.n (pS b c 0 0 0 a.1.1.1 a.1.1.2 [] [] [] [] a.1.2.1 a.1.2.2.1 a.1.2.2.2.1 a.1.2.2.2.2)):=by kernel_rfl
def Ke:Any:=.one ⟨apO,fc,2,fun x=>vA F0 x.1 x.2.1 x.2.2.1⟩
def YJ:bb 52 Ke:=aC mx ⟨Kd,dr,Sp,alB,UK,trivial⟩ func52 my (by kernel_rfl)
def UM:=[(52,Ke),(110,rQ),(345,Pg)]
def Ib (w:l1)(a:Int):Option (l1×Int×l1):=anN Tryz.prog (look UM) F ad f321 [(gq,true),(.int .i64,false)] 0 (gq,true) (.int .i64,false) (gq,true) (w,a,())
def aih (w:l1)(a:Int):Ib F w a=ck (bG a (w.2.2.1.length:Int)) ((Ia F0 w.1 (aL w.2.2.1 a ca.az)).bind fun b=>br (decide ((al ((w.2.2.2.1.length:Int)+(b.2.1.length:Int)))>60)) (some (gq.az,4,w)) (br (decide ((al ((w.2.2.2.2.length:Int)+(b.2.1.length:Int)))>300)) (some (gq.az,4,w)) (ck (bG a (w.2.2.1.length:Int)) ((vA F0 (w.1,w.2.1,w.2.2.1.set a.toNat b.1,w.2.2.2) a b.2.1).bind fun c=>(mw F0 c.1 b.2.1).bind fun d=>some (d.1.1,0,gq.az))))):=by kernel_rfl
def Pk:Any:=.sel ⟨[(gq,true),(.int .i64,false)],0,(gq,true),(.int .i64,false),(gq,true),fun x=>Ib F0 x.1 x.2.1⟩
def aii:bb 321 Pk:=ok4 (show w4 Tryz.prog TB UM from⟨YJ,F1,aie,trivial⟩) func321 (by kernel_rfl) (by kernel_rfl) ad (by kernel_rfl) (by kernel_rfl)
def acu:=[(115,cc),(176,bO),(361,oW)]
def QG (c:D1)(r:bq)(a:Int)(name:ByteArray)(b:Bool):=bL acu F ad f346 ay6 vu 2 (c,r,a,name,b,())
def aoi (c:D1)(r:bq)(b:Int)(name:ByteArray)(d:Bool):QG F c r b name d=(dd F0 c r).bind fun e=>br (!e.1) ((a6 F0 r).bind fun f=>some (f.1,false,())) ((a6 F0 r).bind fun g=>(n8 F0 c g.1 b name d).bind fun a=>br (!a.1.2.1) ((a6 F0 r).bind fun h=>some (h.1,false,())) (some (a.1.1,true,()))):=by kernel_rfl
def UN:Any:=.one ⟨ay6,vu,2,fun x=>QG F0 x.1 x.2.1 x.2.2.1 x.2.2.2.1 x.2.2.2.2.1⟩
def aoj:bb 346 UN:=aC acu ⟨cO,b8,Cl,trivial⟩ func346 ad (by kernel_rfl)
end
end Go.Am.Tryz
namespace Go.Am.Tryz
open Go.Am Go.Proofs Go.Proofs.Tryz
noncomputable section
variable {U:Type} (F:nY) (J:Ex->St->Option U) (n:Nat)
def y4:=[(346,UN)]
def y5:Nat->Option Hint:=look [(3,{live:=[1,2,4,6,7],A9:=[(4,2,3,.int .i64),(4,3,42,ca),(4,4,95,ew),(4,5,91,cA)],xl:=[2,4],rl:=[4,5]})]
def rU (a i p b w c C D r d e f g h:Int)(j:ByteArray)(k:List Int)(l:ByteArray)(m:List D4)(o:List D9)(q:List Int)(s:Int)(t:List A7)(E:List Int)(u:List bq)(v:List bS)(x:List bK)(y:List Int)(z:List bq)(A:List bS)(B:List bK):St:={nt:=59,tm:=[(1,bd a),bX 2,bX 4,bX 6,(7,bd i)],bx:=[(2,[aq w,aq c,.own 1000000 none,.own 1000001 none,.own 1000002 none,.own 1000003 none]),(4,[aq C,aq D,.own 1000004 none,.own 1000005 none,.own 1000006 none,.own 1000007 none]),(6,[aq r,aq d,aq e,aq f,aq g,aq h,.str j,.ro true 3 (.int .i64) k,.str l,.ro true 99 (K4) m,.ro true 29 (K9) o,.ro true 5 (.int .u8) q,aq s,.ro true 125 (w5) t])],bl:=[aF 1000000 3 (.int .i64) E,aF 1000001 42 ca u,aF 1000002 95 ew v,aF 1000003 91 cA x,aF 1000004 3 (.int .i64) y,aF 1000005 42 ca z,aF 1000006 95 ew A,aF 1000007 91 cA B],sp:=.v (.agg [aq p,aq b,.own 1000000 none,.own 1000001 none,.own 1000002 none,.own 1000003 none])}
def Cq (e p a f g:Int)(h:List Int)(b:List bq)(c:List bS)(d:List bK):St:={nt:=59,tm:=[bX 4,(5,bd e)],bx:=[(4,[aq f,aq g,.own 1000000 none,.own 1000001 none,.own 1000002 none,.own 1000003 none])],bl:=[aF 1000000 3 (.int .i64) h,aF 1000001 42 ca b,aF 1000002 95 ew c,aF 1000003 91 cA d],sp:=.v (.agg [aq p,aq a,.own 1000000 none,.own 1000001 none,.own 1000002 none,.own 1000003 none])}
def Mv (p a w b j k:Int)(l:List Int)(c:List bq)(d:List bS)(e:List bK)(f:List Int)(g:List bq)(h:List bS)(i:List bK):St:={nt:=59,tm:=[bX 2,bX 4],bx:=[(2,[aq w,aq b,.own 1000000 none,.own 1000001 none,.own 1000002 none,.own 1000003 none]),(4,[aq j,aq k,.own 1000004 none,.own 1000005 none,.own 1000006 none,.own 1000007 none])],bl:=[aF 1000000 3 (.int .i64) l,aF 1000001 42 ca c,aF 1000002 95 ew d,aF 1000003 91 cA e,aF 1000004 3 (.int .i64) f,aF 1000005 42 ca g,aF 1000006 95 ew h,aF 1000007 91 cA i],sp:=.v (.agg [aq p,aq a,.own 1000000 none,.own 1000001 none,.own 1000002 none,.own 1000003 none])}
def y6 (a:St):Option U:=ek y4 F y5 [.r,.r,.l,.r,.b,.i] f322 J n a
def rV:=S8 Tryz.prog (look y4) F y5 [.r,.r,.l,.r,.b] (dE f322) (awi Tryz.prog f322 (gq,true) (.int .i64,false) (gq,true))
def GQ (a i p e w c D E r j k l m o:Int)(q:ByteArray)(s:List Int)(t:ByteArray)(u:List D4)(b:List D9)(v:List Int)(x:Int)(y:List A7)(h:List Int)(d:List bq)(f:List bS)(g:List bK)(z:List Int)(A:List bq)(B:List bS)(C:List bK):y6 F J (n+1) (rU a i p e w c D E r j k l m o q s t u b v x y h d f g z A B C)=br (decide (i>=0)) (ck (bG i (b.length:Int)) (br ((aL b i K9.az).2.1.toList==aj.toList) (y6 F J n (rU a (al (i-1)) p e w c D E r j k l m o q s t u b v x y h d f g z A B C)) (ck (bG i (b.length:Int)) (ck (bG i (b.length:Int)) ((QG F0 (w,c) (r,j,k,(l,m,(o,q,s),t),u,b,(v,x),y) (aL b i K9.az).1 (aL b i K9.az).2.1 true).bind fun G=>br (!G.2.1) (J .ret (Cq 3 p e w c h d f g)) (ck (bG a (d.length:Int)) (J .ret (Cq 0 p e w c h (d.set a.toNat G.1) f g)))))))) (J (.exit 0) (Mv p e w c D E h d f g z A B C)):=by kernel_rfl
def Mw (a p f g h:Int)(e:List Int)(b:List bq)(c:List bS)(d:List bK):rV F .ret (Cq a p f g h e b c d)=br (a==0) (some (((g,h),e,b,c,d),a,gq.az)) (some (gq.az,a,(p,f),e,b,c,d)):=by kernel_rfl
def aae (p a w f k l:Int)(e:List Int)(b:List bq)(c:List bS)(d:List bK)(g:List Int)(h:List bq)(i:List bS)(j:List bK):rV F (.exit 0) (Mv p a w f k l e b c d g h i j)=some (gq.az,3,(p,a),e,b,c,d):=by kernel_rfl
def Ic (w:l1)(a:Int):Option (l1×Int×l1):=anN Tryz.prog (look y4) F y5 f322 [(gq,true),(.int .i64,false)] 0 (gq,true) (.int .i64,false) (gq,true) (w,a,())
def aij (w:l1)(a:Int):Ic F w a=ck (bG a (w.2.2.1.length:Int)) (y6 F (rV F) F.n (rU a (al (((aL w.2.2.1 a ca.az).2.2.2.2.2.1.length:Int)-1)) w.1.1 w.1.2 w.1.1 w.1.2 0 0 (aL w.2.2.1 a ca.az).1 (aL w.2.2.1 a ca.az).2.1 (aL w.2.2.1 a ca.az).2.2.1 (aL w.2.2.1 a ca.az).2.2.2.1.1 (aL w.2.2.1 a ca.az).2.2.2.1.2.1 (aL w.2.2.1 a ca.az).2.2.2.1.2.2.1.1 (aL w.2.2.1 a ca.az).2.2.2.1.2.2.1.2.1 (aL w.2.2.1 a ca.az).2.2.2.1.2.2.1.2.2 (aL w.2.2.1 a ca.az).2.2.2.1.2.2.2 (aL w.2.2.1 a ca.az).2.2.2.2.1 (aL w.2.2.1 a ca.az).2.2.2.2.2.1 (aL w.2.2.1 a ca.az).2.2.2.2.2.2.1.1 (aL w.2.2.1 a ca.az).2.2.2.2.2.2.1.2 (aL w.2.2.1 a ca.az).2.2.2.2.2.2.2 w.2.1 w.2.2.1 w.2.2.2.1 w.2.2.2.2 [] [] [] [])):=by kernel_rfl
def Pl:Any:=.sel ⟨[(gq,true),(.int .i64,false)],0,(gq,true),(.int .i64,false),(gq,true),fun x=>Ic F0 x.1 x.2.1⟩
def aik:bb 322 Pl:=ok4 (show w4 Tryz.prog TB y4 from⟨aoj,trivial⟩) func322 (by kernel_rfl) (by kernel_rfl) y5 (by kernel_rfl) (by kernel_rfl)
def YK:=[(180,nG),(189,eM),(249,ll),(267,ix)]
def Mx (d:D15)(nx:Int):=bL YK F ad f323 [(K15,true),(.int .i64,false)] wh 2 (d,nx,())
def alC (d:D15)(nx:Int):Mx F d nx=(hD F0 d).bind fun b=>(l8 F0 d).bind fun c=>br (!c.1) (some (b.1,())) ((bE F0 nx (al ((d.1.length:Int)-d.2))).bind fun e=>(db F0 0 e.1).bind fun a=>ck (Qw 0 (al (d.2+a.1)) (d.1.length:Int)) (ck (dV F 0 ((d.1.take (al (d.2+a.1)).toNat).drop (0:Int).toNat).length 1) (some (([]++((d.1.take (al (d.2+a.1)).toNat).drop (0:Int).toNat),al (d.2+a.1)),())))):=by kernel_rfl
def Su:Any:=.one ⟨[(K15,true),(.int .i64,false)],wh,2,fun x=>Mx F0 x.1 x.2.1⟩
def alD:bb 323 Su:=aC YK ⟨yf,hR,uB,n7,trivial⟩ func323 ad (by kernel_rfl)
def Ie: Option (Args tf):=bL ax F ad f204 [] tf 2 (())
def Sv: Ie F= some ((0,0,(0,aj,[]),aj),()):=by kernel_rfl
def Cr:Any:=.one ⟨[],tf,2,fun x=>Ie F0⟩
def Sw:bb 204 Cr:=aC ax trivial func204 ad (by kernel_rfl)
def YL:=[(177,gM),(182,nH),(183,rv),(184,JQ)]
def My (c:D1)(b:List Int):=bL YL F ad f235 RT apL 2 (c,b,())
def alE (c:D1)(b:List Int):My F c b=(cF F0 (b,0,true)).bind fun d=>(cF F0 d.2.1).bind fun e=>(B9 F0 e.2.1).bind fun f=>(mq F0 f.2.1).bind fun a=>br (!a.2.1.2.2) (some ((0,0,(0,aj,[]),aj),false,())) (br (a.2.1.2.1 != (b.length:Int)) (some ((0,0,(0,aj,[]),aj),false,())) ((hS F0 c (d.1.1,e.1.1,f.1.1,a.1.1)).bind fun g=>br (!g.1) (some ((0,0,(0,aj,[]),aj),false,())) (some ((d.1.1,e.1.1,f.1.1,a.1.1),true,())))):=by kernel_rfl
def Sx:Any:=.one ⟨RT,apL,2,fun x=>My F0 x.1 x.2.1⟩
def alF:bb 235 Sx:=aC YL ⟨k3,yl,FN,Yq,trivial⟩ func235 ad (by kernel_rfl)
def uQ:=[(204,Cr),(234,uj),(235,Sx)]
def uR:Nat->Option Hint:=look [(3,{live:=[1,2,4,6,7],A9:=[(4,4,3,.int .i64)],rl:=[4,5]})]
def o0 (b:List Int)(a c d j k l:Int)(m o:ByteArray)(p e f:Int)(g h:ByteArray)(q i:List Int):= dN 62 [(1,jN 5 (.int .u8) b),bX 2,bX 4,bX 6,(7,bd a)] [(2,[aq c,aq d]),(4,[aq j,aq k,aq l,.str m,.own 1000000 none,.str o]),(6,[aq p,aq e,aq f,.str g,.own 1000001 none,.str h])] [aF 1000000 3 (.int .i64) q,aF 1000001 3 (.int .i64) i]
def jX (a b c d:Int)(e f:ByteArray)(g:List Int):= dN 62 [bX 4,(5,bd a)] [(4,[aq b,aq c,aq d,.str e,.own 1000000 none,.str f])] [aF 1000000 3 (.int .i64) g]
def uS (a:St):Option U:=ek uQ F uR [.r,.r,.r,.b,.i] f158 J n a
abbrev apP:List (Ty×Bool):=[(K13,true),(.int .i64,false)]
def y7:=iR uQ F uR [.r,.r,.r,.b] f158 apP 2
def EV (b:List Int)(e c l m o p:Int)(q r:ByteArray)(k f g:Int)(h i:ByteArray)(s j:List Int):uS F J (n+1) (o0 b e c l m o p q r k f g h i s j)=(jS F0 b e).bind fun a=>br (!a.2.2.1) (J .ret (jX e k f g h i j)) (br (decide (a.1>=(al ((b.length:Int)-a.2.1)))) (J .ret (jX e k f g h i j)) (ck (bG (al (a.2.1+a.1)) (b.length:Int)) (br ((aL b (al (a.2.1+a.1)) 0) != 10) (J .ret (jX e k f g h i j)) (ck (Qw a.2.1 (al (a.2.1+a.1)) (b.length:Int)) ((My F0 (c,l) ((b.take (al (a.2.1+a.1)).toNat).drop a.2.1.toNat)).bind fun d=>br (!d.2.1) (J .ret (jX e k f g h i j)) (uS F J n (o0 b (al ((al (a.2.1+a.1))+1)) c l m o p q r d.1.1 d.1.2.1 d.1.2.2.1.1 d.1.2.2.1.2.1 d.1.2.2.2 s d.1.2.2.1.2.2))))))):=by kernel_rfl
def Kf (a b c d:Int)(e f:ByteArray)(g:List Int):y7 F .ret (jX a b c d e f g)=some ((b,c,(d,e,g),f),a,()):=by kernel_rfl
def DI (c:D1)(b:List Int):=bL uQ F uR f158 RT apP 2 (c,b,())
def aeM (c:D1)(b:List Int):DI F c b=(Ie F0).bind fun a=>uS F (y7 F) F.n (o0 b 0 c.1 c.2 0 0 0 aj aj a.1.1 a.1.2.1 a.1.2.2.1.1 a.1.2.2.1.2.1 a.1.2.2.2 [] a.1.2.2.1.2.2):=by kernel_rfl
def Mz:Any:=.one ⟨RT,apP,2,fun x=>DI F0 x.1 x.2.1⟩
def aeN:bb 158 Mz:=aC uQ ⟨Sw,JO,alF,trivial⟩ func158 uR (by kernel_rfl)
def agM:=[(115,cc),(158,Mz),(176,bO),(189,eM),(267,ix)]
def Pm (c:D1)(r:bq):=bL agM F ad f324 Lp Yu 2 (c,r,())
def arP (c:D1)(r:bq):Pm F c r=(dd F0 c r).bind fun b=>br (!b.1) ((a6 F0 r).bind fun d=>some (d.1,())) ((DI F0 c r.2.2.2.2.2.2.1.1).bind fun a=>(db F0 a.1.1 (al (a.1.2.2.1.1+1))).bind fun e=>(db F0 e.1 1).bind fun f=>(bE F0 60 f.1).bind fun g=>ck (Qw 0 a.2.1 (r.2.2.2.2.2.2.1.1.length:Int)) (ck (dV F 0 ((r.2.2.2.2.2.2.1.1.take a.2.1.toNat).drop (0:Int).toNat).length 1) (some ((r.1,g.1,0,a.1,[],[],([]++((r.2.2.2.2.2.2.1.1.take a.2.1.toNat).drop (0:Int).toNat),a.2.1),[]),())))):=by kernel_rfl
def YM:Any:=.one ⟨Lp,Yu,2,fun x=>Pm F0 x.1 x.2.1⟩
def arQ:bb 324 YM:=aC agM ⟨cO,aeN,b8,hR,n7,trivial⟩ func324 ad (by kernel_rfl)
def agN:=[(115,cc),(176,bO),(194,gA),(301,hU),(347,lv)]
def WR (c:D1)(r:bq):=bL agN F ad f325 Lp vu 2 (c,r,())
def arR (c:D1)(r:bq):WR F c r=(a6 F0 r).bind fun a=>(dd F0 c r).bind fun f=>br (!f.1) (some (a.1,false,())) (br (decide (r.2.1>=60)) (some (a.1,false,())) ((lg F0 c (al (r.2.1+1))).bind fun b=>br (b.1==r.1) ((ea F0 c a.1.2.2.2.2.2.1 (al (r.2.1+1),aj,[r.1])).bind fun d=>br (!d.2.1) ((a6 F0 r).bind fun g=>some (g.1,false,())) (some ((a.1.1,al (r.2.1+1),a.1.2.2.1,a.1.2.2.2.1,a.1.2.2.2.2.1,d.1,a.1.2.2.2.2.2.2),true,()))) ((eP F0 c (a.1.1,al (r.2.1+1),a.1.2.2) b.1 (3,al (r.2.1+1),(aj,0,aj,[]),(0,aj,[]),r.2.2.2.1.2.2.1,r.1,0,0,0,0)).bind fun e=>br (!e.1.2.1) ((a6 F0 r).bind fun h=>some (h.1,false,())) (some (e.1.1,true,()))))):=by kernel_rfl
def YN:Any:=.one ⟨Lp,vu,2,fun x=>WR F0 x.1 x.2.1⟩
def arS:bb 325 YN:=aC agN ⟨cO,b8,lr,mr,uI,trivial⟩ func325 ad (by kernel_rfl)
def YO:=[(176,bO),(318,NV),(320,Sn),(321,Pk),(322,Pl),(323,Su),(324,YM),(325,YN)]
def MA (w:l1)(d:D45):Option (l1×Int×l1):=anN Tryz.prog (look YO) F ad f300 [(gq,true),(K45,true)] 0 (gq,true) (.int .i64,false) (gq,true) (w,d,())
def alG (w:l1)(d:D45):MA F w d=ck (bG d.2.1 (w.2.2.1.length:Int)) (br (d.1==1) ((Mr F0 w d.2.1).bind fun b=>br (b.2.1==0) (some (b.1,0,gq.az)) (br (b.2.1==0) (none) (some (gq.az,b.2.1,w.1,b.2.2.2)))) (br (d.1==2) ((Ib F0 w d.2.1).bind fun c=>br (c.2.1==0) (some (c.1,0,gq.az)) (br (c.2.1==0) (none) (some (gq.az,c.2.1,w.1,c.2.2.2)))) (br (d.1==6) ((Ic F0 w d.2.1).bind fun e=>br (e.2.1==0) (some (e.1,0,gq.az)) (br (e.2.1==0) (none) (some (gq.az,e.2.1,w.1,e.2.2.2)))) (br (d.1==8) ((a6 F0 (aL w.2.2.1 d.2.1 ca.az)).bind fun a=>(Mx F0 (aL w.2.2.1 d.2.1 ca.az).2.2.2.2.2.2.1 d.2.2.1).bind fun h=>(Pm F0 w.1 (a.1.1,a.1.2.1,a.1.2.2.1,a.1.2.2.2.1,a.1.2.2.2.2.1,a.1.2.2.2.2.2.1,h.1,a.1.2.2.2.2.2.2.2)).bind fun i=>ck (bG d.2.1 (w.2.2.1.length:Int)) (some ((w.1,w.2.1,w.2.2.1.set d.2.1.toNat i.1,w.2.2.2),0,gq.az))) (br (d.1==7) ((WR F0 w.1 (aL w.2.2.1 d.2.1 ca.az)).bind fun f=>br (!f.2.1) (some (gq.az,3,w)) (ck (bG d.2.1 (w.2.2.1.length:Int)) (some ((w.1,w.2.1,w.2.2.1.set d.2.1.toNat f.1,w.2.2.2),0,gq.az)))) ((O7 F0 w.1 (aL w.2.2.1 d.2.1 ca.az) d.2.2.2).bind fun g=>br (!g.2.1) (some (gq.az,3,w)) (br (d.2.2.2.1 != 4) (some (gq.az,3,w)) (ck (bG d.2.1 (w.2.2.1.length:Int)) (some ((w.1,w.2.1,w.2.2.1.set d.2.1.toNat g.1,w.2.2.2),0,gq.az)))))))))):=by kernel_rfl
def Sy:Any:=.sel ⟨[(gq,true),(K45,true)],0,(gq,true),(.int .i64,false),(gq,true),fun x=>MA F0 x.1 x.2.1⟩
def alH:bb 300 Sy:=ok4 (show w4 Tryz.prog TB YO from⟨b8,aco,aly,aii,aik,alD,arQ,arS,trivial⟩) func300 (by kernel_rfl) (by kernel_rfl) ad (by kernel_rfl) (by kernel_rfl)
def YP:=[(55,uP),(83,cJ),(298,Sf),(299,Sm),(300,Sy)]
def MB (w:l1)(d:D45):Option (l1×Int×l1):=anN Tryz.prog (look YP) F ad f264 [(gq,true),(K45,true)] 0 (gq,true) (.int .i64,false) (gq,true) (w,d,())
def alI (w:l1)(d:D45):MB F w d=br (d.1==3) ((wq F0 w d).bind fun a=>br (a.2.1==0) (some (a.1,0,gq.az)) (br (a.2.1==0) (none) (some (gq.az,a.2.1,w.1,a.2.2.2)))) (br (d.1==4) ((wq F0 w d).bind fun a=>br (a.2.1==0) (some (a.1,0,gq.az)) (br (a.2.1==0) (none) (some (gq.az,a.2.1,w.1,a.2.2.2)))) (br (d.1==5) ((wq F0 w d).bind fun a=>br (a.2.1==0) (some (a.1,0,gq.az)) (br (a.2.1==0) (none) (some (gq.az,a.2.1,w.1,a.2.2.2)))) (br (d.1==10) ((Mp F0 w d).bind fun b=>br (b.2.1==0) (some (b.1,0,gq.az)) (br (b.2.1==0) (none) (some (gq.az,b.2.1,w.1,b.2.2.2)))) ((wv F0 w).bind fun e=>(cS F0 e.1 d.2.1).bind fun f=>br (!f.1) (some (gq.az,2,w)) ((MA F0 w d).bind fun c=>br (c.2.1==0) (some (c.1,0,gq.az)) (br (c.2.1==0) (none) (some (gq.az,c.2.1,w.1,c.2.2.2)))))))):=by kernel_rfl
def Sz:Any:=.sel ⟨[(gq,true),(K45,true)],0,(gq,true),(.int .i64,false),(gq,true),fun x=>MB F0 x.1 x.2.1⟩
def alJ:bb 264 Sz:=ok4 (show w4 Tryz.prog TB YP from⟨Kd,dr,aln,alv,alH,trivial⟩) func264 (by kernel_rfl) (by kernel_rfl) ad (by kernel_rfl) (by kernel_rfl)
def UO:=[(264,Sz)]
def Ig (w:l1)(d:D45):=fJ UO F ad f198 [(gq,true),(K45,true)] 0 (.own true) fc [] 2 (w,d,())
def ail (w:l1)(d:D45):Ig F w d=(MB F0 w d).bind fun a=>br (a.2.1==0) (br (0 != 0) (none) (some ((a.1,()),()))) (br (a.2.1 != 0) (some (((w.1,a.2.2.2),()),())) (none)):=by kernel_rfl
def Pn:Any:=.two ⟨[(gq,true),(K45,true)],0,(.own true),fc,2,[],fun x=>Ig F0 x.1 x.2.1⟩
def aim:bb 198 Pn:=awL UO ⟨alJ,trivial⟩ func198 ad (by kernel_rfl)
def kI:=[(98,av),(197,Bi),(198,Pn),(199,EO)]
def kJ:Nat->Option Hint:=look [(4,{live:=[0,2,3,4,5],A9:=[(2,2,3,.int .i64),(2,3,42,ca),(2,4,95,ew),(2,5,91,cA)],xl:=[2,3],rl:=[2]})]
def iT (a i:Int)(b:List Int)(c d o p w e:Int)(q:List Int)(f:List bq)(g:List bS)(h:List bK)(j:List Int)(k:List bq)(l:List bS)(m:List bK):St:={nt:=21,tm:=[(0,.v (.c (.ptr 4000000 0))),bX 2,bX 3,(4,bd a),(5,bd i)],bx:=[(4000000,[.ro true 5 (.int .u8) b,aq c,aq d]),(2,[aq o,aq p,.own 1000000 none,.own 1000001 none,.own 1000002 none,.own 1000003 none]),(3,[aq w,aq e,.own 1000004 none,.own 1000005 none,.own 1000006 none,.own 1000007 none])],bl:=[aF 1000000 3 (.int .i64) q,aF 1000001 42 ca f,aF 1000002 95 ew g,aF 1000003 91 cA h,aF 1000004 3 (.int .i64) j,aF 1000005 42 ca k,aF 1000006 95 ew l,aF 1000007 91 cA m],sp:=.v (.c (.ptr 4000000 0))}
def y8 (a:List Int)(b c l m w d:Int)(o:List Int)(e:List bq)(f:List bS)(g:List bK)(h:List Int)(i:List bq)(j:List bS)(k:List bK):St:={nt:=21,tm:=[bX 2,bX 3],bx:=[(4000000,[.ro true 5 (.int .u8) a,aq b,aq c]),(2,[aq l,aq m,.own 1000000 none,.own 1000001 none,.own 1000002 none,.own 1000003 none]),(3,[aq w,aq d,.own 1000004 none,.own 1000005 none,.own 1000006 none,.own 1000007 none])],bl:=[aF 1000000 3 (.int .i64) o,aF 1000001 42 ca e,aF 1000002 95 ew f,aF 1000003 91 cA g,aF 1000004 3 (.int .i64) h,aF 1000005 42 ca i,aF 1000006 95 ew j,aF 1000007 91 cA k],sp:=.v (.c (.ptr 4000000 0))}
def kK (a:St):Option U:=ek kI F kJ [.r,.r,.r,.l,.r,.b,.i] f133 J n a
def oq:=Lo kI F kJ [.r,.r,.r,.l,.r,.b] f133 .cur fc bs 2
def tk (h i:Int)(j:List Int)(k l q r w b:Int)(s:List Int)(m:List bq)(o:List bS)(p:List bK)(c:List Int)(d:List bq)(e:List bS)(f:List bK):kK F J (n+1) (iT h i j k l q r w b s m o p c d e f)=br (decide (i<h)) ((rB F0 (j,k,l) ((w,b),c,d,e,f)).bind fun g=>(Ig F0 ((w,b),c,d,e,f) g.1.1).bind fun a=>kK F J n (iT h (al (i+1)) g.2.1.1 g.2.1.2.1 g.2.1.2.2 q r a.1.1.1.1 a.1.1.1.2 s m o p a.1.1.2.1 a.1.1.2.2.1 a.1.1.2.2.2.1 a.1.1.2.2.2.2)) (J (.exit 0) (y8 j k l q r w b s m o p c d e f)):=by kernel_rfl
def Po (a:List Int)(b c l m w d:Int)(o:List Int)(i:List bq)(j:List bS)(k:List bK)(e:List Int)(f:List bq)(g:List bS)(h:List bK):oq F (.exit 0) (y8 a b c l m w d o i j k e f g h)=some ((((w,d),e,f,g,h),()),(a,b,c),()):=by kernel_rfl
def jY (c:D2):=fJ kI F kJ f133 bs 0 .cur fc bs 2 (c,())
def UP (c:D2):jY F c=(oM F0 c).bind fun a=>(af F0 a.2.1 45).bind fun b=>kK F (oq F) F.n (iT b.1.1 0 b.2.1.1 b.2.1.2.1 b.2.1.2.2 0 0 a.1.1.1.1 a.1.1.1.2 [] [] [] [] a.1.1.2.1 a.1.1.2.2.1 a.1.1.2.2.2.1 a.1.1.2.2.2.2):=by kernel_rfl
def ot:Any:=.two ⟨bs,0,.cur,fc,2,bs,fun x=>jY F0 x.1⟩
def EW:bb 133 ot:=jh kI ⟨ay,Up,aim,Xr,trivial⟩ func133 kJ (by kernel_rfl)
def GR:=[(98,av),(133,ot)]
def o1 (c:D2):=fJ GR F ad f127 bs 0 .cur Lp bs 1 (c,())
def UQ (c:D2):o1 F c=(jY F0 c).bind fun a=>(af F0 a.2.1 (a.1.1.2.2.1.length:Int)).bind fun b=>ck (bG b.1.1 (a.1.1.2.2.1.length:Int)) (some ((a.1.1.1,aL a.1.1.2.2.1 b.1.1 ca.az,()),b.2.1,())):=by kernel_rfl
def Bn:Any:=.two ⟨bs,0,.cur,Lp,1,bs,fun x=>o1 F0 x.1⟩
def UR:bb 127 Bn:=jh GR ⟨ay,EW,trivial⟩ func127 ad (by kernel_rfl)
def mA:=[(98,av),(122,oH),(123,ds),(186,cT),(268,oP)]
def mB:Nat->Option Hint:=look [(4,{live:=[0,3,4,5,6,7],A9:=[(4,3,3,.int .i64)],xl:=[0,3,4,5,6],rl:=[4]})]
def jZ (i:Int)(a:List Int)(b c d e:Int)(j:ByteArray)(k:Int)(l:ByteArray)(q:Int)(f:ByteArray)(m:List D4)(g h:List Int):St:={nt:=42,tm:=[(0,.v (.c (.ptr 4000000 0))),bX 3,bX 4,bX 5,(6,.v (.c (.own 1000000 none))),(7,bd i)],bx:=[(4000000,[.ro true 5 (.int .u8) a,aq b,aq c]),(3,[aq d,aq e]),(4,[.str j,aq k,.str l,.own 1000001 none]),(5,[aq q,.str f,.own 1000002 none])],bl:=[aF 1000000 99 K4 m,aF 1000001 3 (.int .i64) g,aF 1000002 3 (.int .i64) h],sp:=.v (.c (.ptr 4000000 0))}
def ou (a:List Int)(b c d e:Int)(i:ByteArray)(j:Int)(k:ByteArray)(q:Int)(f:ByteArray)(l:List D4)(g h:List Int):St:={nt:=42,tm:=[(0,.v (.c (.ptr 4000000 0))),bX 3,bX 4,bX 5,(6,.v (.c (.own 1000000 none)))],bx:=[(4000000,[.ro true 5 (.int .u8) a,aq b,aq c]),(3,[aq d,aq e]),(4,[.str i,aq j,.str k,.own 1000001 none]),(5,[aq q,.str f,.own 1000002 none])],bl:=[aF 1000000 99 K4 l,aF 1000001 3 (.int .i64) g,aF 1000002 3 (.int .i64) h],sp:=.v (.c (.ptr 4000000 0))}
def mC (a:St):Option U:=ek mA F mB [.r,.r,.r,.l,.r,.b,.i] f205 J n a
def j0:=Lo mA F mB [.r,.r,.r,.l,.r,.b] f205 .cur Uv bs 2
def wx (i:Int)(m:List Int)(o p d e:Int)(j:ByteArray)(k:Int)(l:ByteArray)(q:Int)(f:ByteArray)(c:List D4)(g h:List Int):mC F J (n+1) (jZ i m o p d e j k l q f c g h)=(af F0 (m,o,p) 3).bind fun a=>br (decide (i<a.1.1)) ((c3 F0 a.2.1).bind fun b=>ck (dV F c.length [b.1.1].length 32) (mC F J n (jZ (al (i+1)) b.2.1.1 b.2.1.2.1 b.2.1.2.2 d e j k l q f (c++[b.1.1]) g h))) (J (.exit 0) (ou a.2.1.1 a.2.1.2.1 a.2.1.2.2 d e j k l q f c g h)):=by kernel_rfl
def QH (a:List Int)(b c d e:Int)(l:ByteArray)(m:Int)(o:ByteArray)(q:Int)(f:ByteArray)(i:List D4)(j g:List Int):j0 F (.exit 0) (ou a b c d e l m o q f i j g)=(af F0 (a,b,c) 4).bind fun h=>(hW F0 (d,e) (q,f,g) (al ((al (q+1))+(al (Int.tdiv h.1.1 3)))) i).bind fun k=>some ((k.1,()),h.2.1,()):=by kernel_rfl
def lC (c:D2)(a:D1):=fJ mA F mB f205 wc 0 .cur Uv bs 2 (c,a,())
def Xv (c:D2)(b:D1):lC F c b=(dG F0 c).bind fun d=>(n2 F0 d.2.1 b d.1.1).bind fun a=>mC F (j0 F) F.n (jZ 0 a.2.1.1 a.2.1.2.1 a.2.1.2.2 b.1 b.2 aj 0 aj a.1.1.1 a.1.1.2.1 [] [] a.1.1.2.2):=by kernel_rfl
def pT:Any:=.two ⟨wc,0,.cur,Uv,2,bs,fun x=>lC F0 x.1 x.2.1⟩
def GS:bb 205 pT:=jh mA ⟨ay,B1,eX,dO,Cd,trivial⟩ func205 mB (by kernel_rfl)
def kL:=[(97,cl),(98,av),(204,Cr),(205,pT),(206,yx),(207,NT)]
def kM:Nat->Option Hint:=look [(3,{live:=[0,3,4,5,6],A9:=[(4,4,3,.int .i64)],xl:=[4,5],rl:=[4]})]
def fl (i:Int)(a:List Int)(b c d e l m o:Int)(p q:ByteArray)(s f g:Int)(h j:ByteArray)(r k:List Int):St:={nt:=34,tm:=[(0,.v (.c (.ptr 4000000 0))),bX 3,bX 4,bX 5,(6,bd i)],bx:=[(4000000,[.ro true 5 (.int .u8) a,aq b,aq c]),(3,[aq d,aq e]),(4,[aq l,aq m,aq o,.str p,.own 1000000 none,.str q]),(5,[aq s,aq f,aq g,.str h,.own 1000001 none,.str j])],bl:=[aF 1000000 3 (.int .i64) r,aF 1000001 3 (.int .i64) k],sp:=.v (.c (.ptr 4000000 0))}
def y9 (a:List Int)(b c i j k:Int)(l m:ByteArray)(s d e:Int)(f g:ByteArray)(o h:List Int):St:={nt:=34,tm:=[bX 4,bX 5],bx:=[(4000000,[.ro true 5 (.int .u8) a,aq b,aq c]),(4,[aq i,aq j,aq k,.str l,.own 1000000 none,.str m]),(5,[aq s,aq d,aq e,.str f,.own 1000001 none,.str g])],bl:=[aF 1000000 3 (.int .i64) o,aF 1000001 3 (.int .i64) h],sp:=.v (.c (.ptr 4000000 0))}
def gY (a:St):Option U:=ek kL F kM [.r,.r,.l,.r,.b,.i] f136 J n a
def ov:=Lo kL F kM [.r,.r,.l,.r,.b] f136 .cur tf bs 2
def tl (i:Int)(v:List Int)(w x c d g h j:Int)(k l:ByteArray)(s o p:Int)(q r:ByteArray)(m t:List Int):gY F J (n+1) (fl i v w x c d g h j k l s o p q r m t)=(af F0 (v,w,x) 5).bind fun f=>br (decide (i<f.1.1)) ((lC F0 f.2.1 (c,d)).bind fun u=>(JZ F0 (c,d) (s,o,(p,q,t),r) u.1.1.2).bind fun a=>(c7 F0 u.2.1 3).bind fun b=>br (!b.1.1) ((I4 F0 (c,d) a.1 u.1.1).bind fun e=>gY F J n (fl (al (i+1)) b.2.1.1 b.2.1.2.1 b.2.1.2.2 c d g h j k l e.1.1 e.1.2.1 e.1.2.2.1.1 e.1.2.2.1.2.1 e.1.2.2.2 m e.1.2.2.1.2.2)) (gY F J n (fl (al (i+1)) b.2.1.1 b.2.1.2.1 b.2.1.2.2 c d g h j k l a.1.1 a.1.2.1 a.1.2.2.1.1 a.1.2.2.1.2.1 a.1.2.2.2 m a.1.2.2.1.2.2))) (J (.exit 0) (y9 f.2.1.1 f.2.1.2.1 f.2.1.2.2 g h j k l s o p q r m t)):=by kernel_rfl
def wy (a:List Int)(b c i j k:Int)(l m:ByteArray)(s d e:Int)(f g:ByteArray)(o h:List Int):ov F (.exit 0) (y9 a b c i j k l m s d e f g o h)=some (((s,d,(e,f,h),g),()),(a,b,c),()):=by kernel_rfl
def j1 (c:D2)(a:D1):=fJ kL F kM f136 wc 0 .cur tf bs 2 (c,a,())
def US (c:D2)(b:D1):j1 F c b=(Ie F0).bind fun a=>gY F (ov F) F.n (fl 0 c.1 c.2.1 c.2.2 b.1 b.2 0 0 0 aj aj a.1.1 a.1.2.1 a.1.2.2.1.1 a.1.2.2.1.2.1 a.1.2.2.2 [] a.1.2.2.1.2.2):=by kernel_rfl
def ow:Any:=.two ⟨wc,0,.cur,tf,2,bs,fun x=>j1 F0 x.1 x.2.1⟩
def EX:bb 136 ow:=jh kL ⟨c0,ay,Sw,GS,L8,ab9,trivial⟩ func136 kM (by kernel_rfl)
def UT:=[(60,RH),(98,av),(121,bN),(124,tW),(136,ow)]
def Ih (c:D2)(a:D1):=fJ UT F ad f128 wc 0 .cur tf bs 2 (c,a,())
def ain (c:D2)(d:D1):Ih F c d=(j1 F0 c d).bind fun a=>(af F0 a.2.1 10).bind fun b=>br (b.1.1==0) ((aZ F0 b.2.1 [(-1),60,61]).bind fun e=>some (((e.1.1,a.1.1.2),()),e.2.1,())) (br (b.1.1==1) ((aZ F0 b.2.1 [(-1),0,60,61]).bind fun f=>some (((a.1.1.1,f.1.1,a.1.1.2.2),()),f.2.1,())) (br (b.1.1==2) ((wa F0 b.2.1).bind fun g=>some (((a.1.1.1,a.1.1.2.1,a.1.1.2.2.1,g.1.1),()),g.2.1,())) (br (b.1.1==3) ((LM F0 b.2.1 d).bind fun h=>some (((a.1.1.1,a.1.1.2.1,h.1.1,a.1.1.2.2.2),()),h.2.1,())) (some ((a.1.1,()),b.2.1,()))))):=by kernel_rfl
def Pp:Any:=.two ⟨wc,0,.cur,tf,2,bs,fun x=>Ih F0 x.1 x.2.1⟩
def aio:bb 128 Pp:=jh UT ⟨akI,ay,b6,JD,EX,trivial⟩ func128 ad (by kernel_rfl)
def mD:=[(98,av),(186,cT),(193,rK)]
def mE:Nat->Option Hint:=look [(3,{live:=[0,3,4],xl:=[3],rl:=[2]})]
def j2 (i:Int)(a:List Int)(b c:Int)(d:List D4):St:={nt:=20,tm:=[(0,.v (.c (.ptr 4000000 0))),(3,.v (.c (.own 1000000 none))),(4,bd i)],bx:=[(4000000,[.ro true 5 (.int .u8) a,aq b,aq c])],bl:=[aF 1000000 99 K4 d],sp:=.v (.c (.ptr 4000000 0))}
def Bo (a:List Int)(b c:Int)(d:List D4):St:={nt:=20,tm:=[(3,.v (.c (.own 1000000 none)))],bx:=[(4000000,[.ro true 5 (.int .u8) a,aq b,aq c])],bl:=[aF 1000000 99 K4 d],sp:=.v (.c (.ptr 4000000 0))}
def mF (a:St):Option U:=ek mD F mE [.r,.r,.l,.r,.b,.i] f191 J n a
def pU:=Lo mD F mE [.r,.r,.l,.r,.b] f191 .cur kv bs 2
def wz (i:Int)(d:List Int)(e f:Int)(c:List D4):mF F J (n+1) (j2 i d e f c)=(af F0 (d,e,f) 9).bind fun a=>br (decide (i<a.1.1)) ((c3 F0 a.2.1).bind fun b=>(rJ F0 c b.1.1).bind fun g=>mF F J n (j2 (al (i+1)) b.2.1.1 b.2.1.2.1 b.2.1.2.2 g.1)) (J (.exit 0) (Bo a.2.1.1 a.2.1.2.1 a.2.1.2.2 c)):=by kernel_rfl
def za (a:List Int)(b c:Int)(d:List D4):pU F (.exit 0) (Bo a b c d)=some ((d,()),(a,b,c),()):=by kernel_rfl
def rW (c:D2):=fJ mD F mE f191 bs 0 .cur kv bs 2 (c,())
def Xw (c:D2):rW F c=mF F (pU F) F.n (j2 0 c.1 c.2.1 c.2.2 []):=by kernel_rfl
def EY:Any:=.two ⟨bs,0,.cur,kv,2,bs,fun x=>rW F0 x.1⟩
def Xx:bb 191 EY:=jh mD ⟨ay,dO,FY,trivial⟩ func191 mE (by kernel_rfl)
def YQ:=[(98,av),(121,bN),(186,cT)]
def EZ (c:D2):=fJ YQ F ad f192 bs 0 .cur Rx bs 1 (c,())
def alK (c:D2):EZ F c=(c3 F0 c).bind fun a=>(af F0 a.2.1 12).bind fun b=>br (b.1.1==0) ((aZ F0 b.2.1 [(-1),4]).bind fun d=>some (((d.1.1,a.1.1.2),()),d.2.1,())) (br (b.1.1==1) ((aZ F0 b.2.1 [(-1),4]).bind fun e=>some (((a.1.1.1,e.1.1,a.1.1.2.2),()),e.2.1,())) (br (b.1.1==2) ((aZ F0 b.2.1 [(-1),1001]).bind fun f=>some (((a.1.1.1,a.1.1.2.1,f.1.1,a.1.1.2.2.2),()),f.2.1,())) (br (b.1.1==3) ((aZ F0 b.2.1 [(-1),99,100]).bind fun g=>some (((a.1.1.1,a.1.1.2.1,a.1.1.2.2.1,g.1.1),()),g.2.1,())) (some ((a.1.1,()),b.2.1,()))))):=by kernel_rfl
def F2:Any:=.two ⟨bs,0,.cur,Rx,1,bs,fun x=>EZ F0 x.1⟩
def UU:bb 192 F2:=jh YQ ⟨ay,b6,dO,trivial⟩ func192 ad (by kernel_rfl)
def kp:=[(98,av),(191,EY),(192,F2),(193,rK)]
def kq:Nat->Option Hint:=look [(7,{live:=[3,4],xl:=[3],rl:=[2]}),(10,{live:=[3,4,5],xl:=[3,4],rl:=[2]})]
def uT (i k:Int)(a:List Int)(b c:Int)(d:List D4):St:={nt:=36,tm:=[(3,.v (.c (.own 1000000 none))),(4,bd i),(5,bd k)],bx:=[(4000000,[.ro true 5 (.int .u8) a,aq b,aq c])],bl:=[aF 1000000 99 K4 d],sp:=.v (.c (.ptr 4000000 0))}
def Pq (i:Int)(a:List Int)(b c:Int)(d:List D4):St:={nt:=36,tm:=[(3,.v (.c (.own 1000000 none))),(4,bd i)],bx:=[(4000000,[.ro true 5 (.int .u8) a,aq b,aq c])],bl:=[aF 1000000 99 K4 d],sp:=.v (.c (.ptr 4000000 0))}
def DJ (a:St):Option U:=ek kp F kq [.r,.r,.l,.r,.b,.r,.e,.r,.t,.r,.b,.i,.r,.l,.b,.r,.b,.i] f129 J n a
def F3:Ex->St->Option U:=S8 Tryz.prog (look kp) F kq [.r,.l,.b,.r,.b] (sub [.r,.r,.l,.r,.b,.r,.e,.r,.t,.r,.b,.i] (dE f129)) (itk Tryz.prog (look kp) F kq (sub [.r,.r,.l,.r,.b,.r,.e,.r,.t,.r,.b,.i] (dE f129)) J n)
def uU (i:Int)(a:List Int)(b c:Int)(d:List D4):St:={nt:=36,tm:=[(3,.v (.c (.own 1000000 none))),(4,bd i)],bx:=[(4000000,[.ro true 5 (.int .u8) a,aq b,aq c])],bl:=[aF 1000000 99 K4 d],sp:=.v (.c (.ptr 4000000 0))}
def Pr (a:List Int)(b c:Int)(d:List D4):St:={nt:=36,tm:=[(3,.v (.c (.own 1000000 none)))],bx:=[(4000000,[.ro true 5 (.int .u8) a,aq b,aq c])],bl:=[aF 1000000 99 K4 d],sp:=.v (.c (.ptr 4000000 0))}
def DK (a:St):Option U:=ek kp F kq [.r,.r,.l,.r,.b,.r,.e,.r,.t,.r,.b,.i] f129 J n a
def uV:=Lo kp F kq [.r,.r,.l,.r,.b,.r,.e,.r,.t,.r,.b] f129 .cur kv bs 2
def Kg (i k:Int)(a:List Int)(b c:Int)(d:List D4):DJ F J (n+1) (uT i k a b c d)=br (decide (k<4)) ((rJ F0 d (i,0,0,k)).bind fun e=>DJ F J n (uT i (al (k+1)) a b c e.1)) (J (.exit 3) (Pq i a b c d)):=by kernel_rfl
def Kh (i:Int)(a:List Int)(b c:Int)(d:List D4):DK F J (n+1) (uU i a b c d)=br (decide (i<4)) (DJ F (F3 F J n) F.n (uT i 0 a b c d)) (J (.exit 1) (Pr a b c d)):=by kernel_rfl
def acv (i:Int)(a:List Int)(b c:Int)(d:List D4):F3 F J n (.exit 3) (Pq i a b c d)=DK F J n (uU (al (i+1)) a b c d):=by kernel_rfl
def acw (a:List Int)(b c:Int)(d:List D4):uV F (.exit 1) (Pr a b c d)=some ((d,()),(a,b,c),()):=by kernel_rfl
def MC (c:D2):=fJ kp F kq f129 bs 0 .cur kv bs 2 (c,())
def alL (c:D2):MC F c=(rW F0 c).bind fun b=>(af F0 b.2.1 8).bind fun a=>br (a.1.1==0) ((EZ F0 a.2.1).bind fun d=>ck (dV F b.1.1.length [d.1.1].length 32) (some ((b.1.1++[d.1.1],()),d.2.1,()))) (br (a.1.1==1) (DK F (uV F) F.n (uU 0 a.2.1.1 a.2.1.2.1 a.2.1.2.2 b.1.1)) (some ((b.1.1,()),a.2.1,()))):=by kernel_rfl
def SA:Any:=.two ⟨bs,0,.cur,kv,2,bs,fun x=>MC F0 x.1⟩
def alM:bb 129 SA:=jh kp ⟨ay,Xx,UU,FY,trivial⟩ func129 kq (by kernel_rfl)
def kN:=[(62,B2),(97,cl),(98,av),(125,iS),(194,gA)]
def kO:Nat->Option Hint:=look [(3,{live:=[0,3,5,6],xl:=[0,3,5],rl:=[4]})]
def iU (i:Int)(a:List Int)(b c d e:Int)(f:List D9):St:={nt:=32,tm:=[(0,.v (.c (.ptr 4000000 0))),bX 3,(5,.v (.c (.own 1000000 none))),(6,bd i)],bx:=[(4000000,[.ro true 5 (.int .u8) a,aq b,aq c]),(3,[aq d,aq e])],bl:=[aF 1000000 29 K9 f],sp:=.v (.c (.ptr 4000000 0))}
def mG (a:List Int)(b c d e:Int)(f:List D9):St:={nt:=32,tm:=[(0,.v (.c (.ptr 4000000 0))),bX 3,(5,.v (.c (.own 1000000 none)))],bx:=[(4000000,[.ro true 5 (.int .u8) a,aq b,aq c]),(3,[aq d,aq e])],bl:=[aF 1000000 29 K9 f],sp:=.v (.c (.ptr 4000000 0))}
def kP (a:St):Option U:=ek kN F kO [.r,.r,.l,.r,.b,.i] f130 J n a
def iV:=Lo kN F kO [.r,.r,.l,.r,.b] f130 .cur GF bs 2
def tn (i:Int)(f:List Int)(g h a b:Int)(e:List D9):kP F J (n+1) (iU i f g h a b e)=(af F0 (f,g,h) 5).bind fun c=>br (decide (i<c.1.1)) ((gx F0 c.2.1 (a,b)).bind fun d=>(ea F0 (a,b) e d.1.1).bind fun j=>kP F J n (iU (al (i+1)) d.2.1.1 d.2.1.2.1 d.2.1.2.2 a b j.1)) (J (.exit 0) (mG c.2.1.1 c.2.1.2.1 c.2.1.2.2 a b e)):=by kernel_rfl
def Ps (d:List Int)(e f g h:Int)(a:List D9):iV F (.exit 0) (mG d e f g h a)=(c7 F0 (d,e,f) 8).bind fun b=>br b.1.1 ((x5 F0 b.2.1 (g,h)).bind fun c=>ck (dV F a.length [c.1.1].length 48) (some ((a++[c.1.1],()),c.2.1,()))) (some ((a,()),b.2.1,())):=by kernel_rfl
def o2 (c:D2)(a:D1):=fJ kN F kO f130 wc 0 .cur GF bs 2 (c,a,())
def UW (c:D2)(a:D1):o2 F c a=kP F (iV F) F.n (iU 0 c.1 c.2.1 c.2.2 a.1 a.2 []):=by kernel_rfl
def Bp:Any:=.two ⟨wc,0,.cur,GF,2,bs,fun x=>o2 F0 x.1 x.2.1⟩
def UX:bb 130 Bp:=jh kN ⟨RJ,c0,ay,pH,lr,trivial⟩ func130 kO (by kernel_rfl)
end
end Go.Am.Tryz
