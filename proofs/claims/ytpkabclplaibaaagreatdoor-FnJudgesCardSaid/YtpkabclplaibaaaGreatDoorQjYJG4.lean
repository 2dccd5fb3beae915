/- No condition. -/
import Derived.Test.YtpkabclplaibaaaGreatDoorQjYJG3
set_option linter.all false
set_option maxRecDepth 100000
namespace Go.Am.Tryz
open Go.Am Go.Proofs Go.Proofs.Tryz
noncomputable section
variable {U:Type} (F:nP) (J:Ex->St->Option U) (n:Nat)
def Wr:=[(83,b4),(119,bV),(181,ie),(301,hN),(342,Qg)]
abbrev aBN:List (Ty×Bool):=[(K1,true),(.sl 3 (.int .i64),false),(K39,false),(K22,true)]
def KB (c:D1)(a:List Int)(b:D39)(m:Zq):=bM Wr F ab f319 aBN aI 1 (c,a,b,m,())
def aiy (c:D1)(a:List Int)(b:D39)(m:Zq):KB F c a b m=(eH F0 c m).bind fun d=>br (!d.1) (some (false,())) (br (m.1==1) ((cc F0 m.2.2.1.1).bind fun e=>(k6 F0 c e.1).bind fun f=>(cv F0 a f.1).bind fun g=>br g.1 ((u7 F0 a b m.2.2.1.2.1 m.2.2.1.2.2.1 m.2.2.1.2.2.2).bind fun h=>some (h.1,())) (some (false,()))) (br (m.1==2) ((u7 F0 a b m.2.2.2.1.1 m.2.2.2.1.2.1 m.2.2.2.1.2.2).bind fun i=>some (i.1,())) (br (m.1==3) ((cv F0 a m.2.2.2.2.2.1).bind fun j=>br j.1 ((u7 F0 a b m.2.2.2.2.1.1 m.2.2.2.2.1.2.1 m.2.2.2.2.1.2.2).bind fun k=>some (k.1,())) (some (false,()))) (some (true,()))))):=by kernel_rfl
def Qh:Any:=.one ⟨aBN,aI,1,fun x=>KB F0 x.1 x.2.1 x.2.2.1 x.2.2.2.1⟩
def aiz:a8 319 Qh:=aG Wr ⟨cT,cD,nE,l9,aix,trivial⟩ func319 ab (by kernel_rfl)
def w2:=[(200,e1)]
def w3:Nat->Option Hint:=look [(3,{live:=[0,3,4],xl:=[3],rl:=[2]})]
def q2 (a:List Int)(i:Int)(b:List Int):= ei 20 [(0,mU 3 (.int .i64) a),(3,.v (.c (.own 1000000 none))),(4,a7 i)] [] [aP 1000000 5 (.int .u8) b]
def KC (a:List Int):= ei 20 [(3,.v (.c (.own 1000000 none)))] [] [aP 1000000 5 (.int .u8) a]
def w4 (a:St):Option U:=eo w2 F w3 [.r,.r,.l,.r,.b,.i] f203 J n a
def A7:=jx w2 F w3 [.r,.r,.l,.r,.b] f203 uv 2
def Fj (a:List Int)(i:Int)(b:List Int):w4 F J (n+1) (q2 a i b)=br (decide (i<(a.length:Int))) (ck (bh i (a.length:Int)) ((dv F0 (aJ a i 0)).bind fun c=>ck (fA F b.length c.1.length 1) (w4 F J n (q2 a (ak (i+1)) (b++c.1))))) (J (.exit 0) (KC b)):=by kernel_rfl
def XT (a:List Int):A7 F (.exit 0) (KC a)=some (a,()):=by kernel_rfl
def q3 (a:List Int):=bM w2 F w3 f203 pP uv 2 (a,())
def afp (a:List Int):q3 F a=w4 F (A7 F) F.n (q2 a 0 []):=by kernel_rfl
def Nh:Any:=.one ⟨pP,uv,2,fun x=>q3 F0 x.1⟩
def afq:a8 203 Nh:=aG w2 ⟨ih,trivial⟩ func203 w3 (by kernel_rfl)
def Qi:=[(181,ie),(200,e1),(201,p4),(202,A1),(203,Nh)]
def sn (c:D1)(m:Zq):=bM Qi F ab f134 amx uv 2 (c,m,())
def acj (c:D1)(m:Zq):sn F c m=(eH F0 c m).bind fun l=>br (!l.1) (some ([],())) ((dv F0 m.1).bind fun a=>br (m.1==1) ((mb F0 m.2.2.1.1).bind fun e=>ck (fA F a.1.length e.1.length 1) ((p6 F0 c m.2.2.1.2).bind fun h=>ck (fA F (a.1++e.1).length h.1.length 1) (some ((a.1++e.1)++h.1,())))) (br (m.1==2) ((dv F0 m.2.2.2.1.1).bind fun b=>ck (fA F a.1.length b.1.length 1) ((mb F0 m.2.2.2.1.2.1).bind fun d=>ck (fA F (a.1++b.1).length d.1.length 1) ((dv F0 (m.2.2.2.1.2.2.length:Int)).bind fun f=>ck (fA F ((a.1++b.1)++d.1).length f.1.length 1) ((q3 F0 m.2.2.2.1.2.2).bind fun i=>ck (fA F (((a.1++b.1)++d.1)++f.1).length i.1.length 1) (some ((((a.1++b.1)++d.1)++f.1)++i.1,())))))) (br (m.1==3) ((q3 F0 [m.2.1,m.2.2.2.2.2.1]).bind fun g=>ck (fA F a.1.length g.1.length 1) ((p6 F0 c m.2.2.2.2.1).bind fun j=>ck (fA F (a.1++g.1).length j.1.length 1) (some ((a.1++g.1)++j.1,())))) ((q3 F0 [m.2.2.2.2.2.2.1,m.2.2.2.2.2.2.2.1,m.2.2.2.2.2.2.2.2.1,m.2.2.2.2.2.2.2.2.2]).bind fun k=>ck (fA F a.1.length k.1.length 1) (some (a.1++k.1,())))))):=by kernel_rfl
def w5:Any:=.one ⟨amx,uv,2,fun x=>sn F0 x.1 x.2.1⟩
def Ni:a8 134 w5:=aG Qi ⟨nE,ih,Ez,P0,afq,trivial⟩ func134 ab (by kernel_rfl)
def w6:=[(117,bN),(134,w5)]
def w7:Nat->Option Hint:=look [(2,{live:=[1,2,4,5],aBU:=true,F4:=[(4,2,3,.int .i64),(4,3,42,cC),(4,4,95,iT),(4,5,91,dC)],xl:=[2,4],rl:=[4]})]
def fl (j:List Rh)(i w a k l:Int)(m:List Int)(b:List bL)(c:List cI)(d:List b3)(e:List Int)(f:List bL)(g:List cI)(h:List b3):St:={nt:=55,tm:=[(1,mU 125 (RT) j),cl 2,cl 4,(5,a7 i)],bx:=[(2,[ar w,ar a,.own 1000000 none,.own 1000001 none,.own 1000002 none,.own 1000003 none]),(4,[ar k,ar l,.own 1000004 none,.own 1000005 none,.own 1000006 none,.own 1000007 none])],bl:=[aP 1000000 3 (.int .i64) m,aP 1000001 42 cC b,aP 1000002 95 iT c,aP 1000003 91 dC d,aP 1000004 3 (.int .i64) e,aP 1000005 42 cC f,aP 1000006 95 iT g,aP 1000007 91 dC h],sp:=.v (.c (.none))}
def KE (w a i j:Int)(k:List Int)(b:List bL)(c:List cI)(d:List b3)(e:List Int)(f:List bL)(g:List cI)(h:List b3):St:={nt:=55,tm:=[cl 2,cl 4],bx:=[(2,[ar w,ar a,.own 1000000 none,.own 1000001 none,.own 1000002 none,.own 1000003 none]),(4,[ar i,ar j,.own 1000004 none,.own 1000005 none,.own 1000006 none,.own 1000007 none])],bl:=[aP 1000000 3 (.int .i64) k,aP 1000001 42 cC b,aP 1000002 95 iT c,aP 1000003 91 dC d,aP 1000004 3 (.int .i64) e,aP 1000005 42 cC f,aP 1000006 95 iT g,aP 1000007 91 dC h],sp:=.v (.c (.none))}
def ik (a:St):Option U:=eo w6 F w7 [.r,.l,.r,.b,.i] f110 J n a
def A8:=L7 w6 F w7 [.r,.l,.r,.b] f110 (.own true) eI [] 2
def Fk (a:List Rh)(i w c k l:Int)(m:List Int)(d:List bL)(b:List cI)(e:List b3)(f:List Int)(g:List bL)(h:List cI)(j:List b3):ik F J (n+1) (fl a i w c k l m d b e f g h j)=br (decide (i<(a.length:Int))) (ck (bh i (a.length:Int)) ((sn F0 (w,c) (aJ a i RT.aw).2).bind fun o=>br (decide ((b.length:Int)<60)) (br (decide ((o.1.length:Int)>0)) (ck (bh i (a.length:Int)) ((bD F0 (aJ a i RT.aw).1 0 (ak (w-1))).bind fun p=>br p.1 (ck (bh i (a.length:Int)) (ck (fA F b.length [((aJ a i RT.aw).1,o.1)].length 32) (ik F J n (fl a (ak (i+1)) w c k l m d (b++[((aJ a i RT.aw).1,o.1)]) e f g h j)))) (ik F J n (fl a (ak (i+1)) w c k l m d b e f g h j)))) (ik F J n (fl a (ak (i+1)) w c k l m d b e f g h j))) (ik F J n (fl a (ak (i+1)) w c k l m d b e f g h j)))) (J (.exit 0) (KE w c k l m d b e f g h j)):=by kernel_rfl
def XU (w a j k:Int)(e:List Int)(b:List bL)(c:List cI)(d:List b3)(f:List Int)(g:List bL)(h:List cI)(i:List b3):A8 F (.exit 0) (KE w a j k e b c d f g h i)=some ((((w,a),e,b,c,d),()),()):=by kernel_rfl
def w8 (w:iU)(a:D24):=fR w6 F w7 f110 [(gN,true),(K24,false)] 0 (.own true) eI [] 2 (w,a,())
def afr (w:iU)(a:D24):w8 F w a=ik F (A8 F) F.n (fl a 0 w.1.1 w.1.2 0 0 w.2.1 w.2.2.1 w.2.2.2.1 w.2.2.2.2 [] [] [] []):=by kernel_rfl
def A9:Any:=.two ⟨[(gN,true),(K24,false)],0,(.own true),eI,2,[],fun x=>w8 F0 x.1 x.2.1⟩
def Qj:a8 110 A9:=atc w6 ⟨cb,Ni,trivial⟩ func110 w7 (by kernel_rfl)
def Ws:=[(110,A9),(117,bN),(319,Qh)]
def KF (w:iU)(d:D45):Option (iU×Int×iU):=akK Tryz.prog (look Ws) F ab f299 [(gN,true),(K45,true)] 0 (gN,true) (.int .i64,false) (gN,true) (w,d,())
def aiA (w:iU)(d:D45):KF F w d=(bD F0 d.2.1 0 (ak (w.1.1-1))).bind fun a=>br (!a.1) (some (gN.aw,2,w)) ((KB F0 w.1 w.2.1 w.2.2.2.2 d.2.2.2).bind fun b=>br (!b.1) (some (gN.aw,5,w)) (br (decide ((w.2.2.2.1.length:Int)>=60)) (some (gN.aw,4,w)) ((w8 F0 w [(d.2.1,d.2.2.2)]).bind fun c=>some (c.1.1,0,gN.aw)))):=by kernel_rfl
def Qk:Any:=.sel ⟨[(gN,true),(K45,true)],0,(gN,true),(.int .i64,false),(gN,true),fun x=>KF F0 x.1 x.2.1⟩
def aiB:a8 299 Qk:=ok4 (show vD Tryz.prog TB Ws from⟨Qj,cb,aiz,trivial⟩) func299 (by kernel_rfl) (by kernel_rfl) ab (by kernel_rfl) (by kernel_rfl)
def Cm:=[(83,b4)]
def Cn:Nat->Option Hint:=look [(3,{live:=[1,3,4],xl:=[3],rl:=[2]})]
def iY (i w a:Int)(b:List Int)(c:List bL)(d:List cI)(e:List b3)(f:List Int):= ei 23 [cl 1,(3,.v (.c (.own 1000000 none))),(4,a7 i)] [(1,[ar w,ar a,.ro false 3 (.int .i64) b,.ro false 42 (cC) c,.ro false 95 (iT) d,.ro false 91 (dC) e])] [aP 1000000 3 (.int .i64) f]
def Nj (a:List Int):= ei 23 [(3,.v (.c (.own 1000000 none)))] [] [aP 1000000 3 (.int .i64) a]
def nK (a:St):Option U:=eo Cm F Cn [.r,.r,.l,.r,.b,.i] f55 J n a
def tK:=jx Cm F Cn [.r,.r,.l,.r,.b] f55 pP 2
def IE (i w d:Int)(b:List Int)(c:List bL)(e:List cI)(f:List b3)(a:List Int):nK F J (n+1) (iY i w d b c e f a)=br (decide (i<(c.length:Int))) ((cv F0 b i).bind fun g=>br (!g.1) (ck (fA F a.length [i].length 8) (nK F J n (iY (ak (i+1)) w d b c e f (a++[i])))) (nK F J n (iY (ak (i+1)) w d b c e f a))) (J (.exit 0) (Nj a)):=by kernel_rfl
def Z8 (a:List Int):tK F (.exit 0) (Nj a)=some (a,()):=by kernel_rfl
def jI (w:iU):=bM Cm F Cn f55 eI pP 2 (w,())
def aiC (w:iU):jI F w=nK F (tK F) F.n (iY 0 w.1.1 w.1.2 w.2.1 w.2.2.1 w.2.2.2.1 w.2.2.2.2 []):=by kernel_rfl
def gE:Any:=.one ⟨eI,pP,2,fun x=>jI F0 x.1⟩
def lj:a8 55 gE:=aG Cm ⟨cT,trivial⟩ func55 Cn (by kernel_rfl)
def w9:=[(115,bP),(176,bI),(347,lg)]
def xt:Nat->Option Hint:=look [(5,{live:=[3,4,5,6,8,9],F4:=[(6,7,3,.int .i64),(6,9,99,K4),(6,10,29,K9),(6,11,5,.int .u8),(6,13,125,RT)],xl:=[6,8],rl:=[6,7]})]
def lk (i c a r b d e f g:Int)(h:ByteArray)(j:List Int)(k:ByteArray)(l:List D4)(o:List D9)(p:List Int)(q:Int)(s:List Rh)(m M:Int)(m2:ByteArray)(N:Int)(O:ByteArray)(P:List Int)(Q:Int)(R:ByteArray)(S:List Int)(T:Int)(W:ByteArray)(X:List Int)(Y Z qa qb qd qe qf qg qh qi qj:Int)(qk ql:ByteArray)(qm qn t u v w x:Int)(y z:ByteArray)(A:Int)(qo:List Int)(B:List D4)(C:List D9)(D:List Int)(E:List Rh)(G:List Int)(H:List D4)(I:List D9)(K:List Int)(L:List Rh):= ei 43 [cl 3,cl 4,cl 5,cl 6,cl 8,(9,a7 i)] [(3,[ar c,ar a]),(4,[ar r,ar b,ar d,ar e,ar f,ar g,.str h,.ro false 3 (.int .i64) j,.str k,.ro false 99 (K4) l,.ro false 29 (K9) o,.ro false 5 (.int .u8) p,ar q,.ro false 125 (RT) s]),(5,[ar m,ar M,.str m2,ar N,.str O,.ro false 3 (.int .i64) P,ar Q,.str R,.ro false 3 (.int .i64) S,ar T,.str W,.ro false 3 (.int .i64) X,ar Y,ar Z,ar qa,ar qb,ar qd]),(6,[ar qe,ar qf,ar qg,ar qh,ar qi,ar qj,.str qk,.own 1000000 none,.str ql,.own 1000001 none,.own 1000002 none,.own 1000003 none,ar qm,.own 1000004 none]),(8,[ar qn,ar t,ar u,ar v,ar w,ar x,.str y,.own 1000005 none,.str z,.own 1000006 none,.own 1000007 none,.own 1000008 none,ar A,.own 1000009 none])] [aP 1000000 3 (.int .i64) qo,aP 1000001 99 K4 B,aP 1000002 29 K9 C,aP 1000003 5 (.int .u8) D,aP 1000004 125 RT E,aP 1000005 3 (.int .i64) G,aP 1000006 99 K4 H,aP 1000007 29 K9 I,aP 1000008 5 (.int .u8) K,aP 1000009 125 RT L]
def Nk (e:Bool)(f g h i j k:Int)(l m:ByteArray)(o:Int)(p:List Int)(a:List D4)(b:List D9)(c:List Int)(d:List Rh):= ei 43 [cl 6,(7,vE e)] [(6,[ar f,ar g,ar h,ar i,ar j,ar k,.str l,.own 1000000 none,.str m,.own 1000001 none,.own 1000002 none,.own 1000003 none,ar o,.own 1000004 none])] [aP 1000000 3 (.int .i64) p,aP 1000001 99 K4 a,aP 1000002 29 K9 b,aP 1000003 5 (.int .u8) c,aP 1000004 125 RT d]
def KG (s t u v w x:Int)(y z:ByteArray)(A B a b c d e:Int)(f g:ByteArray)(h:Int)(C:List Int)(i:List D4)(j:List D9)(k:List Int)(l:List Rh)(m:List Int)(o:List D4)(p:List D9)(q:List Int)(r:List Rh):= ei 43 [cl 6,cl 8] [(6,[ar s,ar t,ar u,ar v,ar w,ar x,.str y,.own 1000000 none,.str z,.own 1000001 none,.own 1000002 none,.own 1000003 none,ar A,.own 1000004 none]),(8,[ar B,ar a,ar b,ar c,ar d,ar e,.str f,.own 1000005 none,.str g,.own 1000006 none,.own 1000007 none,.own 1000008 none,ar h,.own 1000009 none])] [aP 1000000 3 (.int .i64) C,aP 1000001 99 K4 i,aP 1000002 29 K9 j,aP 1000003 5 (.int .u8) k,aP 1000004 125 RT l,aP 1000005 3 (.int .i64) m,aP 1000006 99 K4 o,aP 1000007 29 K9 p,aP 1000008 5 (.int .u8) q,aP 1000009 125 RT r]
def pc (a:St):Option U:=eo w9 F xt [.r,.r,.r,.l,.r,.b,.i] f343 J n a
def q4:=jx w9 F xt [.r,.r,.r,.l,.r,.b] f343 wq 2
def Fl (i c d r e f g h j:Int)(k:ByteArray)(l:List Int)(o:ByteArray)(p:List D4)(q:List D9)(s:List Int)(t:Int)(u:List Rh)(m O:Int)(m2:ByteArray)(P:Int)(Q:ByteArray)(R:List Int)(S:Int)(T:ByteArray)(W:List Int)(X:Int)(Y:ByteArray)(Z:List Int)(qa qb qd qe qf qg qh qi qj qk ql:Int)(qm qn:ByteArray)(qo qp v w x y z:Int)(A B:ByteArray)(C:Int)(qq:List Int)(D:List D4)(E:List D9)(G:List Int)(H:List Rh)(I:List Int)(K:List D4)(L:List D9)(M:List Int)(N:List Rh):pc F J (n+1) (lk i c d r e f g h j k l o p q s t u m O m2 P Q R S T W X Y Z qa qb qd qe qf qg qh qi qj qk ql qm qn qo qp v w x y z A B C qq D E G H I K L M N)=br (decide (i<c)) (br (i==r) (pc F J n (lk (ak (i+1)) c d r e f g h j k l o p q s t u m O m2 P Q R S T W X Y Z qa qb qd qe qf qg qh qi qj qk ql qm qn qo qp v w x y z A B C qq D E G H I K L M N)) ((eL F0 (c,d) (qp,v,w,(x,y,(z,A,I),B),K,L,(M,C),N) i (m,O,(m2,P,Q,R),(S,T,W),(X,Y,Z),qa,qb,qd,qe,qf)).bind fun a=>br (!a.1.2.1) ((aV F0 (r,e,f,(g,h,(j,k,l),o),p,q,(s,t),u)).bind fun b=>J .ret (Nk false b.1.1 b.1.2.1 b.1.2.2.1 b.1.2.2.2.1.1 b.1.2.2.2.1.2.1 b.1.2.2.2.1.2.2.1.1 b.1.2.2.2.1.2.2.1.2.1 b.1.2.2.2.1.2.2.2 b.1.2.2.2.2.2.2.1.2 b.1.2.2.2.1.2.2.1.2.2 b.1.2.2.2.2.1 b.1.2.2.2.2.2.1 b.1.2.2.2.2.2.2.1.1 b.1.2.2.2.2.2.2.2)) (pc F J n (lk (ak (i+1)) c d r e f g h j k l o p q s t u m O m2 P Q R S T W X Y Z qa qb qd qe qf qg qh qi qj qk ql qm qn qo a.1.1.1 a.1.1.2.1 a.1.1.2.2.1 a.1.1.2.2.2.1.1 a.1.1.2.2.2.1.2.1 a.1.1.2.2.2.1.2.2.1.1 a.1.1.2.2.2.1.2.2.1.2.1 a.1.1.2.2.2.1.2.2.2 a.1.1.2.2.2.2.2.2.1.2 qq D E G H a.1.1.2.2.2.1.2.2.1.2.2 a.1.1.2.2.2.2.1 a.1.1.2.2.2.2.2.1 a.1.1.2.2.2.2.2.2.1.1 a.1.1.2.2.2.2.2.2.2)))) (J (.exit 0) (KG qg qh qi qj qk ql qm qn qo qp v w x y z A B C qq D E G H I K L M N)):=by kernel_rfl
def Z9 (e:Bool)(f g h i j k:Int)(l m:ByteArray)(o:Int)(p:List Int)(a:List D4)(b:List D9)(c:List Int)(d:List Rh):q4 F .ret (Nk e f g h i j k l m o p a b c d)=some ((f,g,h,(i,j,(k,l,p),m),a,b,(c,o),d),e,()):=by kernel_rfl
def XV (t u v w x y:Int)(z A:ByteArray)(B o a b c d e:Int)(f g:ByteArray)(h:Int)(C:List Int)(p:List D4)(q:List D9)(r:List Int)(s:List Rh)(i:List Int)(j:List D4)(k:List D9)(l:List Int)(m:List Rh):q4 F (.exit 0) (KG t u v w x y z A B o a b c d e f g h C p q r s i j k l m)=some ((o,a,b,(c,d,(e,f,i),g),j,k,(l,h),m),true,()):=by kernel_rfl
def xx (c:D1)(r:bL)(m:Zq):=bM w9 F xt f343 amD wq 2 (c,r,m,())
def afs (c:D1)(r:bL)(m:Zq):xx F c r m=(aV F0 r).bind fun a=>(cR F0 c r).bind fun b=>br (!b.1) (some (a.1,false,())) (pc F (q4 F) F.n (lk 0 c.1 c.2 r.1 r.2.1 r.2.2.1 r.2.2.2.1.1 r.2.2.2.1.2.1 r.2.2.2.1.2.2.1.1 r.2.2.2.1.2.2.1.2.1 r.2.2.2.1.2.2.1.2.2 r.2.2.2.1.2.2.2 r.2.2.2.2.1 r.2.2.2.2.2.1 r.2.2.2.2.2.2.1.1 r.2.2.2.2.2.2.1.2 r.2.2.2.2.2.2.2 m.1 m.2.1 m.2.2.1.1 m.2.2.1.2.1 m.2.2.1.2.2.1 m.2.2.1.2.2.2 m.2.2.2.1.1 m.2.2.2.1.2.1 m.2.2.2.1.2.2 m.2.2.2.2.1.1 m.2.2.2.2.1.2.1 m.2.2.2.2.1.2.2 m.2.2.2.2.2.1 m.2.2.2.2.2.2.1 m.2.2.2.2.2.2.2.1 m.2.2.2.2.2.2.2.2.1 m.2.2.2.2.2.2.2.2.2 0 0 0 0 0 0 ai ai 0 a.1.1 a.1.2.1 a.1.2.2.1 a.1.2.2.2.1.1 a.1.2.2.2.1.2.1 a.1.2.2.2.1.2.2.1.1 a.1.2.2.2.1.2.2.1.2.1 a.1.2.2.2.1.2.2.2 a.1.2.2.2.2.2.2.1.2 [] [] [] [] [] a.1.2.2.2.1.2.2.1.2.2 a.1.2.2.2.2.1 a.1.2.2.2.2.2.1 a.1.2.2.2.2.2.2.1.1 a.1.2.2.2.2.2.2.2)):=by kernel_rfl
def Nl:Any:=.one ⟨amD,wq,2,fun x=>xx F0 x.1 x.2.1 x.2.2.1⟩
def aft:a8 343 Nl:=aG w9 ⟨cm,bW,tE,trivial⟩ func343 xt (by kernel_rfl)
def Wt:=[(176,bI),(265,OA),(343,Nl),(344,uB)]
def KH (w:iU)(a:Int):Option (iU×Int×iU):=akK Tryz.prog (look Wt) F ab f320 [(gN,true),(.int .i64,false)] 0 (gN,true) (.int .i64,false) (gN,true) (w,a,())
def aiD (w:iU)(a:Int):KH F w a=ck (bh a (w.2.2.1.length:Int)) ((Si F0 w.1 (aJ w.2.2.1 a cC.aw)).bind fun c=>br (!c.2.1) (some (gN.aw,3,w)) (ck (bh a (w.2.2.1.length:Int)) ((aV F0 (aJ w.2.2.1 a cC.aw)).bind fun b=>(xx F0 w.1 (b.1.1,b.1.2.1,b.1.2.1,b.1.2.2.2) (1,0,c.1,(0,ai,[]),(0,ai,[]),0,0,0,0,0)).bind fun d=>(pb F0 w.1 d.1 c.1).bind fun e=>br (!d.2.1) (some (gN.aw,4,w)) (br (!e.2.1) (some (gN.aw,4,w)) (ck (bh a (w.2.2.1.length:Int)) (some ((w.1,w.2.1,w.2.2.1.set a.toNat e.1,w.2.2.2),0,gN.aw))))))):=by kernel_rfl
def Ql:Any:=.sel ⟨[(gN,true),(.int .i64,false)],0,(gN,true),(.int .i64,false),(gN,true),fun x=>KH F0 x.1 x.2.1⟩
def aiE:a8 320 Ql:=ok4 (show vD Tryz.prog TB Wt from⟨bW,ad2,aft,Kw,trivial⟩) func320 (by kernel_rfl) (by kernel_rfl) ab (by kernel_rfl) (by kernel_rfl)
def ad7:=[(180,nc),(249,k9)]
def Uw (d:D15):=bM ad7 F ab f360 E5 E5 2 (d,())
def aow (d:D15):Uw F d=(hy F0 d).bind fun a=>(lS F0 d).bind fun b=>br b.1 (some ((a.1.1,(d.1.length:Int)),())) (some (a.1,())):=by kernel_rfl
def Wu:Any:=.one ⟨E5,E5,2,fun x=>Uw F0 x.1⟩
def aox:a8 360 Wu:=aG ad7 ⟨wg,tv,trivial⟩ func360 ab (by kernel_rfl)
def SD:=[(115,bP),(176,bI),(250,wH),(360,Wu)]
def GJ (c:D1)(r:bL):=bM SD F ab f345 Gv [(cC,true),(K24,false)] 2 (c,r,())
def afu (c:D1)(r:bL):GJ F c r=(aV F0 r).bind fun a=>(cR F0 c r).bind fun b=>br (!b.1) (some (a.1,[],())) ((Uw F0 r.2.2.2.2.2.2.1).bind fun d=>(si F0 r.2.2.2.2.2.2.2).bind fun e=>some ((a.1.1,a.1.2.1,a.1.2.2.1,a.1.2.2.2.1,a.1.2.2.2.2.1,a.1.2.2.2.2.2.1,d.1,[]),e.1,())):=by kernel_rfl
def Nn:Any:=.one ⟨Gv,[(cC,true),(K24,false)],2,fun x=>GJ F0 x.1 x.2.1⟩
def afv:a8 345 Nn:=aG SD ⟨cm,bW,M0,aox,trivial⟩ func345 ab (by kernel_rfl)
def ll:=[(176,bI)]
def ln:Nat->Option Hint:=look [(3,{live:=[1,2,3,4],F4:=[(2,2,3,.int .i64),(2,3,42,cC),(2,4,95,iT),(2,5,91,dC),(3,3,42,cC),(3,4,95,iT)],xl:=[1,2,3],rl:=[2]}),(7,{live:=[1,2,3,5],xl:=[2,3],rl:=[2]}),(999999,{live:=[1]})]
def q5 (w:iU)(i j k l a:Int)(m:List Int)(b:List bL)(c:List cI)(d:List b3)(e:List Int)(f:List bL)(g:List cI)(h:List b3):St:={nt:=63,tm:=[(1,.v (.c (.Oc false (gN) w 0))),cl 2,cl 3,(5,a7 i)],bx:=[(2,[ar j,ar k,.own 1000000 none,.own 1000001 none,.own 1000002 none,.own 1000003 none]),(3,[ar l,ar a,.own 1000004 none,.own 1000005 none,.own 1000006 none,.own 1000007 none])],bl:=[aP 1000000 3 (.int .i64) m,aP 1000001 42 cC b,aP 1000002 95 iT c,aP 1000003 91 dC d,aP 1000004 3 (.int .i64) e,aP 1000005 42 cC f,aP 1000006 95 iT g,aP 1000007 91 dC h],rob:=[1]}
def KI (i j k a:Int)(l:List Int)(b:List bL)(c:List cI)(d:List b3)(e:List Int)(f:List bL)(g:List cI)(h:List b3):St:={nt:=63,tm:=[cl 2,cl 3],bx:=[(2,[ar i,ar j,.own 1000000 none,.own 1000001 none,.own 1000002 none,.own 1000003 none]),(3,[ar k,ar a,.own 1000004 none,.own 1000005 none,.own 1000006 none,.own 1000007 none])],bl:=[aP 1000000 3 (.int .i64) l,aP 1000001 42 cC b,aP 1000002 95 iT c,aP 1000003 91 dC d,aP 1000004 3 (.int .i64) e,aP 1000005 42 cC f,aP 1000006 95 iT g,aP 1000007 91 dC h],rob:=[1]}
def xJ (a:St):Option U:=eo ll F ln [.r,.r,.r,.l,.r,.b,.i] f109 J n a
def Ba:=jx ll F ln [.r,.r,.r,.l,.r,.b] f109 eI 2
def q7 (w:iU)(i j k l a:Int)(m:List Int)(b:List bL)(c:List cI)(d:List b3)(e:List Int)(f:List bL)(g:List cI)(h:List b3):St:={nt:=63,tm:=[(1,.v (.c (.Oc false (gN) w 0))),cl 2,cl 3,(4,a7 i)],bx:=[(2,[ar j,ar k,.own 1000000 none,.own 1000001 none,.own 1000002 none,.own 1000003 none]),(3,[ar l,ar a,.own 1000004 none,.own 1000005 none,.own 1000006 none,.own 1000007 none])],bl:=[aP 1000000 3 (.int .i64) m,aP 1000001 42 cC b,aP 1000002 95 iT c,aP 1000003 91 dC d,aP 1000004 3 (.int .i64) e,aP 1000005 42 cC f,aP 1000006 95 iT g,aP 1000007 91 dC h],rob:=[1]}
def KJ (w:iU)(i j k a:Int)(l:List Int)(b:List bL)(c:List cI)(d:List b3)(e:List Int)(f:List bL)(g:List cI)(h:List b3):St:={nt:=63,tm:=[(1,.v (.c (.Oc false (gN) w 0))),cl 2,cl 3],bx:=[(2,[ar i,ar j,.own 1000000 none,.own 1000001 none,.own 1000002 none,.own 1000003 none]),(3,[ar k,ar a,.own 1000004 none,.own 1000005 none,.own 1000006 none,.own 1000007 none])],bl:=[aP 1000000 3 (.int .i64) l,aP 1000001 42 cC b,aP 1000002 95 iT c,aP 1000003 91 dC d,aP 1000004 3 (.int .i64) e,aP 1000005 42 cC f,aP 1000006 95 iT g,aP 1000007 91 dC h],rob:=[1]}
def xU (a:St):Option U:=eo ll F ln [.r,.r,.l,.r,.b,.i] f109 J n a
def Bb:=jx ll F ln [.r,.r,.l,.r,.b] f109 eI 2
def Fm (w:iU)(i j k l b:Int)(m:List Int)(c:List bL)(d:List cI)(e:List b3)(f:List Int)(g:List bL)(a:List cI)(h:List b3):xJ F J (n+1) (q5 w i j k l b m c d e f g a h)=br (decide (i<(w.2.2.2.1.length:Int))) (ck (bh i (w.2.2.2.1.length:Int)) (ck (bh i (w.2.2.2.1.length:Int)) (ck (fA F 0 (aJ w.2.2.2.1 i (0,[])).2.length 1) (ck (fA F a.length [((aJ w.2.2.2.1 i (0,[])).1,[]++(aJ w.2.2.2.1 i (0,[])).2)].length 32) (xJ F J n (q5 w (ak (i+1)) j k l b m c d e f g (a++[((aJ w.2.2.2.1 i (0,[])).1,[]++(aJ w.2.2.2.1 i (0,[])).2)]) h)))))) (J (.exit 2) (KI j k l b m c d e f g a h)):=by kernel_rfl
def Fo (w:iU)(i j k l b:Int)(m:List Int)(c:List bL)(d:List cI)(e:List b3)(f:List Int)(a:List bL)(g:List cI)(h:List b3):xU F J (n+1) (q7 w i j k l b m c d e f a g h)=br (decide (i<(w.2.2.1.length:Int))) (ck (bh i (w.2.2.1.length:Int)) ((aV F0 (aJ w.2.2.1 i cC.aw)).bind fun o=>ck (fA F a.length [o.1].length 208) (xU F J n (q7 w (ak (i+1)) j k l b m c d e f (a++[o.1]) g h)))) (J (.exit 0) (KJ w j k l b m c d e f a g h)):=by kernel_rfl
def XW (j k f a:Int)(l:List Int)(g:List bL)(h:List cI)(i:List b3)(b:List Int)(c:List bL)(d:List cI)(e:List b3):Ba F (.exit 2) (KI j k f a l g h i b c d e)=some (((f,a),b,c,d,e),()):=by kernel_rfl
def XX (w:iU)(i j k a:Int)(l:List Int)(b:List bL)(c:List cI)(d:List b3)(e:List Int)(f:List bL)(g:List cI)(h:List b3):Bb F (.exit 0) (KJ w i j k a l b c d e f g h)=xJ F (Ba F) F.n (q5 w 0 i j k a l b c d e f g h):=by kernel_rfl
def GK (w:iU):=bM ll F ln f109 eI eI 2 (w,())
def afw (w:iU):GK F w=ck (fA F 0 w.2.1.length 8) (ck (fA F 0 w.2.2.2.2.length 32) (xU F (Bb F) F.n (q7 w 0 0 0 w.1.1 w.1.2 [] [] [] [] ([]++w.2.1) [] [] ([]++w.2.2.2.2)))):=by kernel_rfl
def No:Any:=.one ⟨eI,eI,2,fun x=>GK F0 x.1⟩
def afx:a8 109 No:=aG ll ⟨bW,trivial⟩ func109 ln (by kernel_rfl)
def Wv:=[(83,b4)]
abbrev aqz:List (Ty×Bool):=[(K39,false)]
def KK (a:Int)(m:Zq):=bM Wv F ab f111 [(.int .i64,false),(K22,true)] aqz 2 (a,m,())
def aiF (a:Int)(m:Zq):KK F a m=br (m.1==2) (br (m.1==4) (some ([],())) (br (m.2.2.2.1.2.1.toList==ai.toList) (some ([],())) ((cv F0 m.2.2.2.1.2.2 a).bind fun b=>br (!b.1) (some ([],())) (some ([(m.2.2.2.1.1,m.2.2.2.1.2.1,a)],()))))) (br (m.1==1) (br (m.1==4) (some ([],())) (br (m.2.2.1.2.2.1.toList==ai.toList) (some ([],())) ((cv F0 m.2.2.1.2.2.2 a).bind fun b=>br (!b.1) (some ([],())) (some ([(m.2.2.1.2.1,m.2.2.1.2.2.1,a)],()))))) (br (m.1==4) (some ([],())) (br (m.2.2.2.2.1.2.1.toList==ai.toList) (some ([],())) ((cv F0 m.2.2.2.2.1.2.2 a).bind fun b=>br (!b.1) (some ([],())) (some ([(m.2.2.2.2.1.1,m.2.2.2.2.1.2.1,a)],())))))):=by kernel_rfl
def Qm:Any:=.one ⟨[(.int .i64,false),(K22,true)],aqz,2,fun x=>KK F0 x.1 x.2.1⟩
def aiG:a8 111 Qm:=aG Wv ⟨cT,trivial⟩ func111 ab (by kernel_rfl)
def mc:=[(55,gE),(83,b4),(109,No),(111,Qm),(112,ED)]
def me:Nat->Option Hint:=look [(5,{live:=[1,2,6,7,8],F4:=[(6,2,3,.int .i64),(6,3,42,cC),(6,4,95,iT),(6,5,91,dC)],xl:=[6,7],rl:=[6]}),(9,{live:=[1,2,6,7,8,9,10],xl:=[1,2,6,7,8],rl:=[6]})]
def lq (l:Int)(m:List Rh)(i k o p q a:Int)(r:List b3)(b:List Int)(c:List bL)(d:List cI)(e:List b3)(f:List Int)(g:List bL)(h:List cI)(j:List b3):= ei 66 [(1,a7 l),(2,mU 125 (RT) m),cl 6,cl 7,(8,a7 i),(9,.v (.c (.own 1000000 none))),(10,a7 k)] [(6,[ar o,ar p,.own 1000001 none,.own 1000002 none,.own 1000003 none,.own 1000004 none]),(7,[ar q,ar a,.own 1000005 none,.own 1000006 none,.own 1000007 none,.own 1000008 none])] [aP 1000000 91 dC r,aP 1000001 3 (.int .i64) b,aP 1000002 42 cC c,aP 1000003 95 iT d,aP 1000004 91 dC e,aP 1000005 3 (.int .i64) f,aP 1000006 42 cC g,aP 1000007 95 iT h,aP 1000008 91 dC j]
def Qn (j:Int)(k:List Rh)(i l m o a:Int)(p:List Int)(b:List bL)(c:List cI)(d:List b3)(e:List Int)(f:List bL)(g:List cI)(h:List b3):= ei 66 [(1,a7 j),(2,mU 125 (RT) k),cl 6,cl 7,(8,a7 i)] [(6,[ar l,ar m,.own 1000000 none,.own 1000001 none,.own 1000002 none,.own 1000003 none]),(7,[ar o,ar a,.own 1000004 none,.own 1000005 none,.own 1000006 none,.own 1000007 none])] [aP 1000000 3 (.int .i64) p,aP 1000001 42 cC b,aP 1000002 95 iT c,aP 1000003 91 dC d,aP 1000004 3 (.int .i64) e,aP 1000005 42 cC f,aP 1000006 95 iT g,aP 1000007 91 dC h]
def q9 (a:St):Option U:=eo mc F me [.r,.r,.r,.l,.r,.b,.i,.r,.l,.b,.r,.r,.b,.i] f52 J n a
def IF:Ex->St->Option U:=JG Tryz.prog (look mc) F me [.r,.l,.b,.r,.r,.b] (sub [.r,.r,.r,.l,.r,.b,.i] (cr f52)) (itk Tryz.prog (look mc) F me (sub [.r,.r,.r,.l,.r,.b,.i] (cr f52)) J n)
def xV (j:Int)(k:List Rh)(i l m o a:Int)(p:List Int)(b:List bL)(c:List cI)(d:List b3)(e:List Int)(f:List bL)(g:List cI)(h:List b3):= ei 66 [(1,a7 j),(2,mU 125 (RT) k),cl 6,cl 7,(8,a7 i)] [(6,[ar l,ar m,.own 1000000 none,.own 1000001 none,.own 1000002 none,.own 1000003 none]),(7,[ar o,ar a,.own 1000004 none,.own 1000005 none,.own 1000006 none,.own 1000007 none])] [aP 1000000 3 (.int .i64) p,aP 1000001 42 cC b,aP 1000002 95 iT c,aP 1000003 91 dC d,aP 1000004 3 (.int .i64) e,aP 1000005 42 cC f,aP 1000006 95 iT g,aP 1000007 91 dC h]
def Qo (i j k a:Int)(l:List Int)(b:List bL)(c:List cI)(d:List b3)(e:List Int)(f:List bL)(g:List cI)(h:List b3):= ei 66 [cl 6,cl 7] [(6,[ar i,ar j,.own 1000000 none,.own 1000001 none,.own 1000002 none,.own 1000003 none]),(7,[ar k,ar a,.own 1000004 none,.own 1000005 none,.own 1000006 none,.own 1000007 none])] [aP 1000000 3 (.int .i64) l,aP 1000001 42 cC b,aP 1000002 95 iT c,aP 1000003 91 dC d,aP 1000004 3 (.int .i64) e,aP 1000005 42 cC f,aP 1000006 95 iT g,aP 1000007 91 dC h]
def GL (a:St):Option U:=eo mc F me [.r,.r,.r,.l,.r,.b,.i] f52 J n a
def x0:=jx mc F me [.r,.r,.r,.l,.r,.b] f52 eI 2
def KL (m:Int)(o:List Rh)(i k p q r c:Int)(a:List b3)(d:List Int)(e:List bL)(f:List cI)(g:List b3)(h:List Int)(j:List bL)(l:List cI)(b:List b3):q9 F J (n+1) (lq m o i k p q r c a d e f g h j l b)=br (decide (k<(a.length:Int))) (ck (bh k (a.length:Int)) (br (decide ((b.length:Int)<300)) ((Dq F0 b (aJ a k dC.aw).1 (aJ a k dC.aw).2.1 (aJ a k dC.aw).2.2).bind fun s=>br (!s.1) (ck (fA F b.length [(aJ a k dC.aw)].length 32) (q9 F J n (lq m o i (ak (k+1)) p q r c a d e f g h j l (b++[(aJ a k dC.aw)])))) (q9 F J n (lq m o i (ak (k+1)) p q r c a d e f g h j l b))) (q9 F J n (lq m o i (ak (k+1)) p q r c a d e f g h j l b)))) (J (.exit 2) (Qn m o i p q r c d e f g h j l b)):=by kernel_rfl
def KM (k:Int)(a:List Rh)(i l m o b:Int)(p:List Int)(c:List bL)(d:List cI)(e:List b3)(f:List Int)(g:List bL)(h:List cI)(j:List b3):GL F J (n+1) (xV k a i l m o b p c d e f g h j)=br (decide (i<(a.length:Int))) (ck (bh i (a.length:Int)) ((KK F0 k (aJ a i RT.aw).2).bind fun q=>q9 F (IF F J n) F.n (lq k a i 0 l m o b q.1 p c d e f g h j))) (J (.exit 0) (Qo l m o b p c d e f g h j)):=by kernel_rfl
def ack (j:Int)(k:List Rh)(i l m o a:Int)(p:List Int)(b:List bL)(c:List cI)(d:List b3)(e:List Int)(f:List bL)(g:List cI)(h:List b3):IF F J n (.exit 2) (Qn j k i l m o a p b c d e f g h)=GL F J n (xV j k (ak (i+1)) l m o a p b c d e f g h):=by kernel_rfl
def acm (j k f a:Int)(l:List Int)(g:List bL)(h:List cI)(i:List b3)(b:List Int)(c:List bL)(d:List cI)(e:List b3):x0 F (.exit 0) (Qo j k f a l g h i b c d e)=some (((f,a),b,c,d,e),()):=by kernel_rfl
abbrev aBO:List (Ty×Bool):=[(gN,true),(.int .i64,false),(K24,false)]
def IG (w:iU)(a:Int)(b:D24):=bM mc F me f52 aBO eI 2 (w,a,b,())
def alf (w:iU)(b:Int)(c:D24):IG F w b c=(GK F0 w).bind fun a=>(jI F0 w).bind fun d=>(cv F0 d.1 b).bind fun e=>br (!e.1) (some (a.1,())) (GL F (x0 F) F.n (xV b c 0 0 0 a.1.1.1 a.1.1.2 [] [] [] [] a.1.2.1 a.1.2.2.1 a.1.2.2.2.1 a.1.2.2.2.2)):=by kernel_rfl
def SE:Any:=.one ⟨aBO,eI,2,fun x=>IG F0 x.1 x.2.1 x.2.2.1⟩
def alg:a8 52 SE:=aG mc ⟨lj,cT,afx,aiG,SC,trivial⟩ func52 me (by kernel_rfl)
def SF:=[(52,SE),(110,A9),(345,Nn)]
def GM (w:iU)(a:Int):Option (iU×Int×iU):=akK Tryz.prog (look SF) F ab f321 [(gN,true),(.int .i64,false)] 0 (gN,true) (.int .i64,false) (gN,true) (w,a,())
def afy (w:iU)(a:Int):GM F w a=ck (bh a (w.2.2.1.length:Int)) ((GJ F0 w.1 (aJ w.2.2.1 a cC.aw)).bind fun b=>br (decide ((ak ((w.2.2.2.1.length:Int)+(b.2.1.length:Int)))>60)) (some (gN.aw,4,w)) (br (decide ((ak ((w.2.2.2.2.length:Int)+(b.2.1.length:Int)))>300)) (some (gN.aw,4,w)) (ck (bh a (w.2.2.1.length:Int)) ((IG F0 (w.1,w.2.1,w.2.2.1.set a.toNat b.1,w.2.2.2) a b.2.1).bind fun c=>(w8 F0 c.1 b.2.1).bind fun d=>some (d.1.1,0,gN.aw))))):=by kernel_rfl
def Np:Any:=.sel ⟨[(gN,true),(.int .i64,false)],0,(gN,true),(.int .i64,false),(gN,true),fun x=>GM F0 x.1 x.2.1⟩
def afz:a8 321 Np:=ok4 (show vD Tryz.prog TB SF from⟨alg,Qj,afv,trivial⟩) func321 (by kernel_rfl) (by kernel_rfl) ab (by kernel_rfl) (by kernel_rfl)
def aaa:=[(115,bP),(176,bI),(361,oq)]
def OI (c:D1)(r:bL)(a:Int)(name:ByteArray)(b:Bool):=bM aaa F ab f346 avB wq 2 (c,r,a,name,b,())
def alh (c:D1)(r:bL)(b:Int)(name:ByteArray)(d:Bool):OI F c r b name d=(cR F0 c r).bind fun e=>br (!e.1) ((aV F0 r).bind fun f=>some (f.1,false,())) ((aV F0 r).bind fun g=>(nI F0 c g.1 b name d).bind fun a=>br (!a.1.2.1) ((aV F0 r).bind fun h=>some (h.1,false,())) (some (a.1.1,true,()))):=by kernel_rfl
def SG:Any:=.one ⟨avB,wq,2,fun x=>OI F0 x.1 x.2.1 x.2.2.1 x.2.2.2.1 x.2.2.2.2.1⟩
def ali:a8 346 SG:=aG aaa ⟨cm,bW,A5,trivial⟩ func346 ab (by kernel_rfl)
end
end Go.Am.Tryz
namespace Go.Am.Tryz
open Go.Am Go.Proofs Go.Proofs.Tryz
noncomputable section
variable {U:Type} (F:nP) (J:Ex->St->Option U) (n:Nat)
def x1:=[(346,SG)]
def x2:Nat->Option Hint:=look [(3,{live:=[1,2,4,6,7],F4:=[(4,2,3,.int .i64),(4,3,42,cC),(4,4,95,iT),(4,5,91,dC)],xl:=[2,4],rl:=[4,5]})]
def ra (a i p b w c C D r d e f g h:Int)(j:ByteArray)(k:List Int)(l:ByteArray)(m:List D4)(o:List D9)(q:List Int)(s:Int)(t:List Rh)(E:List Int)(u:List bL)(v:List cI)(x:List b3)(y:List Int)(z:List bL)(A:List cI)(B:List b3):St:={nt:=59,tm:=[(1,a7 a),cl 2,cl 4,cl 6,(7,a7 i)],bx:=[(2,[ar w,ar c,.own 1000000 none,.own 1000001 none,.own 1000002 none,.own 1000003 none]),(4,[ar C,ar D,.own 1000004 none,.own 1000005 none,.own 1000006 none,.own 1000007 none]),(6,[ar r,ar d,ar e,ar f,ar g,ar h,.str j,.ro true 3 (.int .i64) k,.str l,.ro true 99 (K4) m,.ro true 29 (K9) o,.ro true 5 (.int .u8) q,ar s,.ro true 125 (RT) t])],bl:=[aP 1000000 3 (.int .i64) E,aP 1000001 42 cC u,aP 1000002 95 iT v,aP 1000003 91 dC x,aP 1000004 3 (.int .i64) y,aP 1000005 42 cC z,aP 1000006 95 iT A,aP 1000007 91 dC B],sp:=.v (.agg [ar p,ar b,.own 1000000 none,.own 1000001 none,.own 1000002 none,.own 1000003 none])}
def Bc (e p a f g:Int)(h:List Int)(b:List bL)(c:List cI)(d:List b3):St:={nt:=59,tm:=[cl 4,(5,a7 e)],bx:=[(4,[ar f,ar g,.own 1000000 none,.own 1000001 none,.own 1000002 none,.own 1000003 none])],bl:=[aP 1000000 3 (.int .i64) h,aP 1000001 42 cC b,aP 1000002 95 iT c,aP 1000003 91 dC d],sp:=.v (.agg [ar p,ar a,.own 1000000 none,.own 1000001 none,.own 1000002 none,.own 1000003 none])}
def KN (p a w b j k:Int)(l:List Int)(c:List bL)(d:List cI)(e:List b3)(f:List Int)(g:List bL)(h:List cI)(i:List b3):St:={nt:=59,tm:=[cl 2,cl 4],bx:=[(2,[ar w,ar b,.own 1000000 none,.own 1000001 none,.own 1000002 none,.own 1000003 none]),(4,[ar j,ar k,.own 1000004 none,.own 1000005 none,.own 1000006 none,.own 1000007 none])],bl:=[aP 1000000 3 (.int .i64) l,aP 1000001 42 cC c,aP 1000002 95 iT d,aP 1000003 91 dC e,aP 1000004 3 (.int .i64) f,aP 1000005 42 cC g,aP 1000006 95 iT h,aP 1000007 91 dC i],sp:=.v (.agg [ar p,ar a,.own 1000000 none,.own 1000001 none,.own 1000002 none,.own 1000003 none])}
def x3 (a:St):Option U:=eo x1 F x2 [.r,.r,.l,.r,.b,.i] f322 J n a
def rb:=JG Tryz.prog (look x1) F x2 [.r,.r,.l,.r,.b] (cr f322) (asK Tryz.prog f322 (gN,true) (.int .i64,false) (gN,true))
def Fp (a i p e w c D E r j k l m o:Int)(q:ByteArray)(s:List Int)(t:ByteArray)(u:List D4)(b:List D9)(v:List Int)(x:Int)(y:List Rh)(h:List Int)(d:List bL)(f:List cI)(g:List b3)(z:List Int)(A:List bL)(B:List cI)(C:List b3):x3 F J (n+1) (ra a i p e w c D E r j k l m o q s t u b v x y h d f g z A B C)=br (decide (i>=0)) (ck (bh i (b.length:Int)) (br ((aJ b i K9.aw).2.1.toList==ai.toList) (x3 F J n (ra a (ak (i-1)) p e w c D E r j k l m o q s t u b v x y h d f g z A B C)) (ck (bh i (b.length:Int)) (ck (bh i (b.length:Int)) ((OI F0 (w,c) (r,j,k,(l,m,(o,q,s),t),u,b,(v,x),y) (aJ b i K9.aw).1 (aJ b i K9.aw).2.1 true).bind fun G=>br (!G.2.1) (J .ret (Bc 3 p e w c h d f g)) (ck (bh a (d.length:Int)) (J .ret (Bc 0 p e w c h (d.set a.toNat G.1) f g)))))))) (J (.exit 0) (KN p e w c D E h d f g z A B C)):=by kernel_rfl
def KO (a p f g h:Int)(e:List Int)(b:List bL)(c:List cI)(d:List b3):rb F .ret (Bc a p f g h e b c d)=br (a==0) (some (((g,h),e,b,c,d),a,gN.aw)) (some (gN.aw,a,(p,f),e,b,c,d)):=by kernel_rfl
def XY (p a w f k l:Int)(e:List Int)(b:List bL)(c:List cI)(d:List b3)(g:List Int)(h:List bL)(i:List cI)(j:List b3):rb F (.exit 0) (KN p a w f k l e b c d g h i j)=some (gN.aw,3,(p,a),e,b,c,d):=by kernel_rfl
def GN (w:iU)(a:Int):Option (iU×Int×iU):=akK Tryz.prog (look x1) F x2 f322 [(gN,true),(.int .i64,false)] 0 (gN,true) (.int .i64,false) (gN,true) (w,a,())
def afA (w:iU)(a:Int):GN F w a=ck (bh a (w.2.2.1.length:Int)) (x3 F (rb F) F.n (ra a (ak (((aJ w.2.2.1 a cC.aw).2.2.2.2.2.1.length:Int)-1)) w.1.1 w.1.2 w.1.1 w.1.2 0 0 (aJ w.2.2.1 a cC.aw).1 (aJ w.2.2.1 a cC.aw).2.1 (aJ w.2.2.1 a cC.aw).2.2.1 (aJ w.2.2.1 a cC.aw).2.2.2.1.1 (aJ w.2.2.1 a cC.aw).2.2.2.1.2.1 (aJ w.2.2.1 a cC.aw).2.2.2.1.2.2.1.1 (aJ w.2.2.1 a cC.aw).2.2.2.1.2.2.1.2.1 (aJ w.2.2.1 a cC.aw).2.2.2.1.2.2.1.2.2 (aJ w.2.2.1 a cC.aw).2.2.2.1.2.2.2 (aJ w.2.2.1 a cC.aw).2.2.2.2.1 (aJ w.2.2.1 a cC.aw).2.2.2.2.2.1 (aJ w.2.2.1 a cC.aw).2.2.2.2.2.2.1.1 (aJ w.2.2.1 a cC.aw).2.2.2.2.2.2.1.2 (aJ w.2.2.1 a cC.aw).2.2.2.2.2.2.2 w.2.1 w.2.2.1 w.2.2.2.1 w.2.2.2.2 [] [] [] [])):=by kernel_rfl
def Nq:Any:=.sel ⟨[(gN,true),(.int .i64,false)],0,(gN,true),(.int .i64,false),(gN,true),fun x=>GN F0 x.1 x.2.1⟩
def afB:a8 322 Nq:=ok4 (show vD Tryz.prog TB x1 from⟨ali,trivial⟩) func322 (by kernel_rfl) (by kernel_rfl) x2 (by kernel_rfl) (by kernel_rfl)
def Ww:=[(180,nc),(189,eG),(249,k9),(267,ig)]
def KP (d:D15)(mR:Int):=bM Ww F ab f323 [(K15,true),(.int .i64,false)] E5 2 (d,mR,())
def aiH (d:D15)(mR:Int):KP F d mR=(hy F0 d).bind fun b=>(lS F0 d).bind fun c=>br (!c.1) (some (b.1,())) ((bA F0 mR (ak ((d.1.length:Int)-d.2))).bind fun e=>(c9 F0 0 e.1).bind fun a=>ck (Oy 0 (ak (d.2+a.1)) (d.1.length:Int)) (ck (fA F 0 ((d.1.take (ak (d.2+a.1)).toNat).drop (0:Int).toNat).length 1) (some (([]++((d.1.take (ak (d.2+a.1)).toNat).drop (0:Int).toNat),ak (d.2+a.1)),())))):=by kernel_rfl
def Qp:Any:=.one ⟨[(K15,true),(.int .i64,false)],E5,2,fun x=>KP F0 x.1 x.2.1⟩
def aiI:a8 323 Qp:=aG Ww ⟨wg,hL,tv,nH,trivial⟩ func323 ab (by kernel_rfl)
def GO: Option (Args Dk):=bM ax F ab f204 [] Dk 2 (())
def Qq: GO F= some ((0,0,(0,ai,[]),ai),()):=by kernel_rfl
def Bd:Any:=.one ⟨[],Dk,2,fun x=>GO F0⟩
def Qr:a8 204 Bd:=aG ax trivial func204 ab (by kernel_rfl)
def Wx:=[(177,gz),(182,nd),(183,pZ),(184,Ik)]
def KR (c:D1)(b:List Int):=bM Wx F ab f235 PS amB 2 (c,b,())
def aiJ (c:D1)(b:List Int):KR F c b=(cx F0 (b,0,true)).bind fun d=>(cx F0 d.2.1).bind fun e=>(AQ F0 e.2.1).bind fun f=>(l8 F0 f.2.1).bind fun a=>br (!a.2.1.2.2) (some ((0,0,(0,ai,[]),ai),false,())) (br (a.2.1.2.1 != (b.length:Int)) (some ((0,0,(0,ai,[]),ai),false,())) ((hM F0 c (d.1.1,e.1.1,f.1.1,a.1.1)).bind fun g=>br (!g.1) (some ((0,0,(0,ai,[]),ai),false,())) (some ((d.1.1,e.1.1,f.1.1,a.1.1),true,())))):=by kernel_rfl
def Qs:Any:=.one ⟨PS,amB,2,fun x=>KR F0 x.1 x.2.1⟩
def aiK:a8 235 Qs:=aG Wx ⟨kW,wu,Et,Wg,trivial⟩ func235 ab (by kernel_rfl)
def tL:=[(204,Bd),(234,tc),(235,Qs)]
def tM:Nat->Option Hint:=look [(3,{live:=[1,2,4,6,7],F4:=[(4,4,3,.int .i64)],rl:=[4,5]})]
def ou (b:List Int)(a c d j k l:Int)(m o:ByteArray)(p e f:Int)(g h:ByteArray)(q i:List Int):= ei 62 [(1,mU 5 (.int .u8) b),cl 2,cl 4,cl 6,(7,a7 a)] [(2,[ar c,ar d]),(4,[ar j,ar k,ar l,.str m,.own 1000000 none,.str o]),(6,[ar p,ar e,ar f,.str g,.own 1000001 none,.str h])] [aP 1000000 3 (.int .i64) q,aP 1000001 3 (.int .i64) i]
def jJ (a b c d:Int)(e f:ByteArray)(g:List Int):= ei 62 [cl 4,(5,a7 a)] [(4,[ar b,ar c,ar d,.str e,.own 1000000 none,.str f])] [aP 1000000 3 (.int .i64) g]
def tN (a:St):Option U:=eo tL F tM [.r,.r,.r,.b,.i] f158 J n a
abbrev amE:List (Ty×Bool):=[(K13,true),(.int .i64,false)]
def x4:=jx tL F tM [.r,.r,.r,.b] f158 amE 2
def Ds (b:List Int)(e c l m o p:Int)(q r:ByteArray)(k f g:Int)(h i:ByteArray)(s j:List Int):tN F J (n+1) (ou b e c l m o p q r k f g h i s j)=(jE F0 b e).bind fun a=>br (!a.2.2.1) (J .ret (jJ e k f g h i j)) (br (decide (a.1>=(ak ((b.length:Int)-a.2.1)))) (J .ret (jJ e k f g h i j)) (ck (bh (ak (a.2.1+a.1)) (b.length:Int)) (br ((aJ b (ak (a.2.1+a.1)) 0) != 10) (J .ret (jJ e k f g h i j)) (ck (Oy a.2.1 (ak (a.2.1+a.1)) (b.length:Int)) ((KR F0 (c,l) ((b.take (ak (a.2.1+a.1)).toNat).drop a.2.1.toNat)).bind fun d=>br (!d.2.1) (J .ret (jJ e k f g h i j)) (tN F J n (ou b (ak ((ak (a.2.1+a.1))+1)) c l m o p q r d.1.1 d.1.2.1 d.1.2.2.1.1 d.1.2.2.1.2.1 d.1.2.2.2 s d.1.2.2.1.2.2))))))):=by kernel_rfl
def IH (a b c d:Int)(e f:ByteArray)(g:List Int):x4 F .ret (jJ a b c d e f g)=some ((b,c,(d,e,g),f),a,()):=by kernel_rfl
def so (c:D1)(b:List Int):=bM tL F tM f158 PS amE 2 (c,b,())
def acn (c:D1)(b:List Int):so F c b=(GO F0).bind fun a=>tN F (x4 F) F.n (ou b 0 c.1 c.2 0 0 0 ai ai a.1.1 a.1.2.1 a.1.2.2.1.1 a.1.2.2.1.2.1 a.1.2.2.2 [] a.1.2.2.1.2.2):=by kernel_rfl
def x5:Any:=.one ⟨PS,amE,2,fun x=>so F0 x.1 x.2.1⟩
def Nr:a8 158 x5:=aG tL ⟨Qr,Ii,aiK,trivial⟩ func158 tM (by kernel_rfl)
def ad8:=[(115,bP),(158,x5),(176,bI),(189,eG),(267,ig)]
def Ns (c:D1)(r:bL):=bM ad8 F ab f324 Gv Wi 2 (c,r,())
def aoy (c:D1)(r:bL):Ns F c r=(cR F0 c r).bind fun b=>br (!b.1) ((aV F0 r).bind fun d=>some (d.1,())) ((so F0 c r.2.2.2.2.2.2.1.1).bind fun a=>(c9 F0 a.1.1 (ak (a.1.2.2.1.1+1))).bind fun e=>(c9 F0 e.1 1).bind fun f=>(bA F0 60 f.1).bind fun g=>ck (Oy 0 a.2.1 (r.2.2.2.2.2.2.1.1.length:Int)) (ck (fA F 0 ((r.2.2.2.2.2.2.1.1.take a.2.1.toNat).drop (0:Int).toNat).length 1) (some ((r.1,g.1,0,a.1,[],[],([]++((r.2.2.2.2.2.2.1.1.take a.2.1.toNat).drop (0:Int).toNat),a.2.1),[]),())))):=by kernel_rfl
def Wy:Any:=.one ⟨Gv,Wi,2,fun x=>Ns F0 x.1 x.2.1⟩
def aoz:a8 324 Wy:=aG ad8 ⟨cm,Nr,bW,hL,nH,trivial⟩ func324 ab (by kernel_rfl)
def ad9:=[(115,bP),(176,bI),(194,gn),(301,hN),(347,lg)]
def Ux (c:D1)(r:bL):=bM ad9 F ab f325 Gv wq 2 (c,r,())
def aoA (c:D1)(r:bL):Ux F c r=(aV F0 r).bind fun a=>(cR F0 c r).bind fun f=>br (!f.1) (some (a.1,false,())) (br (decide (r.2.1>=60)) (some (a.1,false,())) ((k6 F0 c (ak (r.2.1+1))).bind fun b=>br (b.1==r.1) ((dW F0 c a.1.2.2.2.2.2.1 (ak (r.2.1+1),ai,[r.1])).bind fun d=>br (!d.2.1) ((aV F0 r).bind fun g=>some (g.1,false,())) (some ((a.1.1,ak (r.2.1+1),a.1.2.2.1,a.1.2.2.2.1,a.1.2.2.2.2.1,d.1,a.1.2.2.2.2.2.2),true,()))) ((eL F0 c (a.1.1,ak (r.2.1+1),a.1.2.2) b.1 (3,ak (r.2.1+1),(ai,0,ai,[]),(0,ai,[]),r.2.2.2.1.2.2.1,r.1,0,0,0,0)).bind fun e=>br (!e.1.2.1) ((aV F0 r).bind fun h=>some (h.1,false,())) (some (e.1.1,true,()))))):=by kernel_rfl
def Wz:Any:=.one ⟨Gv,wq,2,fun x=>Ux F0 x.1 x.2.1⟩
def aoB:a8 325 Wz:=aG ad9 ⟨cm,bW,ld,l9,tE,trivial⟩ func325 ab (by kernel_rfl)
def WA:=[(176,bI),(318,Md),(320,Ql),(321,Np),(322,Nq),(323,Qp),(324,Wy),(325,Wz)]
def KS (w:iU)(d:D45):Option (iU×Int×iU):=akK Tryz.prog (look WA) F ab f300 [(gN,true),(K45,true)] 0 (gN,true) (.int .i64,false) (gN,true) (w,d,())
def aiL (w:iU)(d:D45):KS F w d=ck (bh d.2.1 (w.2.2.1.length:Int)) (br (d.1==1) ((KH F0 w d.2.1).bind fun b=>br (b.2.1==0) (some (b.1,0,gN.aw)) (br (b.2.1==0) (none) (some (gN.aw,b.2.1,w.1,b.2.2.2)))) (br (d.1==2) ((GM F0 w d.2.1).bind fun c=>br (c.2.1==0) (some (c.1,0,gN.aw)) (br (c.2.1==0) (none) (some (gN.aw,c.2.1,w.1,c.2.2.2)))) (br (d.1==6) ((GN F0 w d.2.1).bind fun e=>br (e.2.1==0) (some (e.1,0,gN.aw)) (br (e.2.1==0) (none) (some (gN.aw,e.2.1,w.1,e.2.2.2)))) (br (d.1==8) ((aV F0 (aJ w.2.2.1 d.2.1 cC.aw)).bind fun a=>(KP F0 (aJ w.2.2.1 d.2.1 cC.aw).2.2.2.2.2.2.1 d.2.2.1).bind fun h=>(Ns F0 w.1 (a.1.1,a.1.2.1,a.1.2.2.1,a.1.2.2.2.1,a.1.2.2.2.2.1,a.1.2.2.2.2.2.1,h.1,a.1.2.2.2.2.2.2.2)).bind fun i=>ck (bh d.2.1 (w.2.2.1.length:Int)) (some ((w.1,w.2.1,w.2.2.1.set d.2.1.toNat i.1,w.2.2.2),0,gN.aw))) (br (d.1==7) ((Ux F0 w.1 (aJ w.2.2.1 d.2.1 cC.aw)).bind fun f=>br (!f.2.1) (some (gN.aw,3,w)) (ck (bh d.2.1 (w.2.2.1.length:Int)) (some ((w.1,w.2.1,w.2.2.1.set d.2.1.toNat f.1,w.2.2.2),0,gN.aw)))) ((Nd F0 w.1 (aJ w.2.2.1 d.2.1 cC.aw) d.2.2.2).bind fun g=>br (!g.2.1) (some (gN.aw,3,w)) (br (d.2.2.2.1 != 4) (some (gN.aw,3,w)) (ck (bh d.2.1 (w.2.2.1.length:Int)) (some ((w.1,w.2.1,w.2.2.1.set d.2.1.toNat g.1,w.2.2.2),0,gN.aw)))))))))):=by kernel_rfl
def Qt:Any:=.sel ⟨[(gN,true),(K45,true)],0,(gN,true),(.int .i64,false),(gN,true),fun x=>KS F0 x.1 x.2.1⟩
def aiM:a8 300 Qt:=ok4 (show vD Tryz.prog TB WA from⟨bW,Z5,aiE,afz,afB,aiI,aoz,aoB,trivial⟩) func300 (by kernel_rfl) (by kernel_rfl) ab (by kernel_rfl) (by kernel_rfl)
def WB:=[(55,gE),(83,b4),(298,Qd),(299,Qk),(300,Qt)]
def KT (w:iU)(d:D45):Option (iU×Int×iU):=akK Tryz.prog (look WB) F ab f264 [(gN,true),(K45,true)] 0 (gN,true) (.int .i64,false) (gN,true) (w,d,())
def aiN (w:iU)(d:D45):KT F w d=br (d.1==3) ((u6 F0 w d).bind fun a=>br (a.2.1==0) (some (a.1,0,gN.aw)) (br (a.2.1==0) (none) (some (gN.aw,a.2.1,w.1,a.2.2.2)))) (br (d.1==4) ((u6 F0 w d).bind fun a=>br (a.2.1==0) (some (a.1,0,gN.aw)) (br (a.2.1==0) (none) (some (gN.aw,a.2.1,w.1,a.2.2.2)))) (br (d.1==5) ((u6 F0 w d).bind fun a=>br (a.2.1==0) (some (a.1,0,gN.aw)) (br (a.2.1==0) (none) (some (gN.aw,a.2.1,w.1,a.2.2.2)))) (br (d.1==10) ((KF F0 w d).bind fun b=>br (b.2.1==0) (some (b.1,0,gN.aw)) (br (b.2.1==0) (none) (some (gN.aw,b.2.1,w.1,b.2.2.2)))) ((jI F0 w).bind fun e=>(cv F0 e.1 d.2.1).bind fun f=>br (!f.1) (some (gN.aw,2,w)) ((KS F0 w d).bind fun c=>br (c.2.1==0) (some (c.1,0,gN.aw)) (br (c.2.1==0) (none) (some (gN.aw,c.2.1,w.1,c.2.2.2)))))))):=by kernel_rfl
def Qu:Any:=.sel ⟨[(gN,true),(K45,true)],0,(gN,true),(.int .i64,false),(gN,true),fun x=>KT F0 x.1 x.2.1⟩
def aiO:a8 264 Qu:=ok4 (show vD Tryz.prog TB WB from⟨lj,cT,aiu,aiB,aiM,trivial⟩) func264 (by kernel_rfl) (by kernel_rfl) ab (by kernel_rfl) (by kernel_rfl)
def SH:=[(264,Qu)]
def GP (w:iU)(d:D45):=fR SH F ab f198 [(gN,true),(K45,true)] 0 (.own true) eI [] 2 (w,d,())
def afC (w:iU)(d:D45):GP F w d=(KT F0 w d).bind fun a=>br (a.2.1==0) (br (0 != 0) (none) (some ((a.1,()),()))) (br (a.2.1 != 0) (some (((w.1,a.2.2.2),()),())) (none)):=by kernel_rfl
def Nt:Any:=.two ⟨[(gN,true),(K45,true)],0,(.own true),eI,2,[],fun x=>GP F0 x.1 x.2.1⟩
def afD:a8 198 Nt:=atc SH ⟨aiO,trivial⟩ func198 ab (by kernel_rfl)
def kA:=[(98,av),(197,zJ),(198,Nt),(199,Dj)]
def kB:Nat->Option Hint:=look [(4,{live:=[0,2,3,4,5],F4:=[(2,2,3,.int .i64),(2,3,42,cC),(2,4,95,iT),(2,5,91,dC)],xl:=[2,3],rl:=[2]})]
def iL (a i:Int)(b:List Int)(c d o p w e:Int)(q:List Int)(f:List bL)(g:List cI)(h:List b3)(j:List Int)(k:List bL)(l:List cI)(m:List b3):St:={nt:=21,tm:=[(0,.v (.c (.ptr 4000000 0))),cl 2,cl 3,(4,a7 a),(5,a7 i)],bx:=[(4000000,[.ro true 5 (.int .u8) b,ar c,ar d]),(2,[ar o,ar p,.own 1000000 none,.own 1000001 none,.own 1000002 none,.own 1000003 none]),(3,[ar w,ar e,.own 1000004 none,.own 1000005 none,.own 1000006 none,.own 1000007 none])],bl:=[aP 1000000 3 (.int .i64) q,aP 1000001 42 cC f,aP 1000002 95 iT g,aP 1000003 91 dC h,aP 1000004 3 (.int .i64) j,aP 1000005 42 cC k,aP 1000006 95 iT l,aP 1000007 91 dC m],sp:=.v (.c (.ptr 4000000 0))}
def x6 (a:List Int)(b c l m w d:Int)(o:List Int)(e:List bL)(f:List cI)(g:List b3)(h:List Int)(i:List bL)(j:List cI)(k:List b3):St:={nt:=21,tm:=[cl 2,cl 3],bx:=[(4000000,[.ro true 5 (.int .u8) a,ar b,ar c]),(2,[ar l,ar m,.own 1000000 none,.own 1000001 none,.own 1000002 none,.own 1000003 none]),(3,[ar w,ar d,.own 1000004 none,.own 1000005 none,.own 1000006 none,.own 1000007 none])],bl:=[aP 1000000 3 (.int .i64) o,aP 1000001 42 cC e,aP 1000002 95 iT f,aP 1000003 91 dC g,aP 1000004 3 (.int .i64) h,aP 1000005 42 cC i,aP 1000006 95 iT j,aP 1000007 91 dC k],sp:=.v (.c (.ptr 4000000 0))}
def kC (a:St):Option U:=eo kA F kB [.r,.r,.r,.l,.r,.b,.i] f133 J n a
def nT:=L7 kA F kB [.r,.r,.r,.l,.r,.b] f133 .cur eI bn 2
def sq (h i:Int)(j:List Int)(k l q r w b:Int)(s:List Int)(m:List bL)(o:List cI)(p:List b3)(c:List Int)(d:List bL)(e:List cI)(f:List b3):kC F J (n+1) (iL h i j k l q r w b s m o p c d e f)=br (decide (i<h)) ((p2 F0 (j,k,l) ((w,b),c,d,e,f)).bind fun g=>(GP F0 ((w,b),c,d,e,f) g.1.1).bind fun a=>kC F J n (iL h (ak (i+1)) g.2.1.1 g.2.1.2.1 g.2.1.2.2 q r a.1.1.1.1 a.1.1.1.2 s m o p a.1.1.2.1 a.1.1.2.2.1 a.1.1.2.2.2.1 a.1.1.2.2.2.2)) (J (.exit 0) (x6 j k l q r w b s m o p c d e f)):=by kernel_rfl
def Nu (a:List Int)(b c l m w d:Int)(o:List Int)(i:List bL)(j:List cI)(k:List b3)(e:List Int)(f:List bL)(g:List cI)(h:List b3):nT F (.exit 0) (x6 a b c l m w d o i j k e f g h)=some ((((w,d),e,f,g,h),()),(a,b,c),()):=by kernel_rfl
def jK (c:D2):=fR kA F kB f133 bn 0 .cur eI bn 2 (c,())
def SJ (c:D2):jK F c=(n9 F0 c).bind fun a=>(af F0 a.2.1 45).bind fun b=>kC F (nT F) F.n (iL b.1.1 0 b.2.1.1 b.2.1.2.1 b.2.1.2.2 0 0 a.1.1.1.1 a.1.1.1.2 [] [] [] [] a.1.1.2.1 a.1.1.2.2.1 a.1.1.2.2.2.1 a.1.1.2.2.2.2):=by kernel_rfl
def nU:Any:=.two ⟨bn,0,.cur,eI,2,bn,fun x=>jK F0 x.1⟩
def Dt:a8 133 nU:=jy kA ⟨aA,Sh,afD,U7,trivial⟩ func133 kB (by kernel_rfl)
def Fq:=[(98,av),(133,nU)]
def ov (c:D2):=fR Fq F ab f127 bn 0 .cur Gv bn 1 (c,())
def SK (c:D2):ov F c=(jK F0 c).bind fun a=>(af F0 a.2.1 (a.1.1.2.2.1.length:Int)).bind fun b=>ck (bh b.1.1 (a.1.1.2.2.1.length:Int)) (some ((a.1.1.1,aJ a.1.1.2.2.1 b.1.1 cC.aw,()),b.2.1,())):=by kernel_rfl
def z7:Any:=.two ⟨bn,0,.cur,Gv,1,bn,fun x=>ov F0 x.1⟩
def SL:a8 127 z7:=jy Fq ⟨aA,Dt,trivial⟩ func127 ab (by kernel_rfl)
def mf:=[(98,av),(122,n5),(123,dq),(186,cM),(268,oe)]
def mg:Nat->Option Hint:=look [(4,{live:=[0,3,4,5,6,7],F4:=[(4,3,3,.int .i64)],xl:=[0,3,4,5,6],rl:=[4]})]
def jL (i:Int)(a:List Int)(b c d e:Int)(j:ByteArray)(k:Int)(l:ByteArray)(q:Int)(f:ByteArray)(m:List D4)(g h:List Int):St:={nt:=42,tm:=[(0,.v (.c (.ptr 4000000 0))),cl 3,cl 4,cl 5,(6,.v (.c (.own 1000000 none))),(7,a7 i)],bx:=[(4000000,[.ro true 5 (.int .u8) a,ar b,ar c]),(3,[ar d,ar e]),(4,[.str j,ar k,.str l,.own 1000001 none]),(5,[ar q,.str f,.own 1000002 none])],bl:=[aP 1000000 99 K4 m,aP 1000001 3 (.int .i64) g,aP 1000002 3 (.int .i64) h],sp:=.v (.c (.ptr 4000000 0))}
def nV (a:List Int)(b c d e:Int)(i:ByteArray)(j:Int)(k:ByteArray)(q:Int)(f:ByteArray)(l:List D4)(g h:List Int):St:={nt:=42,tm:=[(0,.v (.c (.ptr 4000000 0))),cl 3,cl 4,cl 5,(6,.v (.c (.own 1000000 none)))],bx:=[(4000000,[.ro true 5 (.int .u8) a,ar b,ar c]),(3,[ar d,ar e]),(4,[.str i,ar j,.str k,.own 1000001 none]),(5,[ar q,.str f,.own 1000002 none])],bl:=[aP 1000000 99 K4 l,aP 1000001 3 (.int .i64) g,aP 1000002 3 (.int .i64) h],sp:=.v (.c (.ptr 4000000 0))}
def mh (a:St):Option U:=eo mf F mg [.r,.r,.r,.l,.r,.b,.i] f205 J n a
def jM:=L7 mf F mg [.r,.r,.r,.l,.r,.b] f205 .cur ah9 bn 2
def u9 (i:Int)(m:List Int)(o p d e:Int)(j:ByteArray)(k:Int)(l:ByteArray)(q:Int)(f:ByteArray)(c:List D4)(g h:List Int):mh F J (n+1) (jL i m o p d e j k l q f c g h)=(af F0 (m,o,p) 3).bind fun a=>br (decide (i<a.1.1)) ((cZ F0 a.2.1).bind fun b=>ck (fA F c.length [b.1.1].length 32) (mh F J n (jL (ak (i+1)) b.2.1.1 b.2.1.2.1 b.2.1.2.2 d e j k l q f (c++[b.1.1]) g h))) (J (.exit 0) (nV a.2.1.1 a.2.1.2.1 a.2.1.2.2 d e j k l q f c g h)):=by kernel_rfl
def OJ (a:List Int)(b c d e:Int)(l:ByteArray)(m:Int)(o:ByteArray)(q:Int)(f:ByteArray)(i:List D4)(j g:List Int):jM F (.exit 0) (nV a b c d e l m o q f i j g)=(af F0 (a,b,c) 4).bind fun h=>(hQ F0 (d,e) (q,f,g) (ak ((ak (q+1))+(ak (Int.tdiv h.1.1 3)))) i).bind fun k=>some ((k.1,()),h.2.1,()):=by kernel_rfl
def lr (c:D2)(a:D1):=fR mf F mg f205 zs 0 .cur ah9 bn 2 (c,a,())
def Vb (c:D2)(b:D1):lr F c b=(dD F0 c).bind fun d=>(nD F0 d.2.1 b d.1.1).bind fun a=>mh F (jM F) F.n (jL 0 a.2.1.1 a.2.1.2.1 a.2.1.2.2 b.1 b.2 ai 0 ai a.1.1.1 a.1.1.2.1 [] [] a.1.1.2.2):=by kernel_rfl
def pd:Any:=.two ⟨zs,0,.cur,ah9,2,bn,fun x=>lr F0 x.1 x.2.1⟩
def Fs:a8 205 pd:=jy mf ⟨aA,AJ,eT,dI,AW,trivial⟩ func205 mg (by kernel_rfl)
def kD:=[(97,cA),(98,av),(204,Bd),(205,pd),(206,wI),(207,Mb)]
def kE:Nat->Option Hint:=look [(3,{live:=[0,3,4,5,6],F4:=[(4,4,3,.int .i64)],xl:=[4,5],rl:=[4]})]
def fc (i:Int)(a:List Int)(b c d e l m o:Int)(p q:ByteArray)(s f g:Int)(h j:ByteArray)(r k:List Int):St:={nt:=34,tm:=[(0,.v (.c (.ptr 4000000 0))),cl 3,cl 4,cl 5,(6,a7 i)],bx:=[(4000000,[.ro true 5 (.int .u8) a,ar b,ar c]),(3,[ar d,ar e]),(4,[ar l,ar m,ar o,.str p,.own 1000000 none,.str q]),(5,[ar s,ar f,ar g,.str h,.own 1000001 none,.str j])],bl:=[aP 1000000 3 (.int .i64) r,aP 1000001 3 (.int .i64) k],sp:=.v (.c (.ptr 4000000 0))}
def x7 (a:List Int)(b c i j k:Int)(l m:ByteArray)(s d e:Int)(f g:ByteArray)(o h:List Int):St:={nt:=34,tm:=[cl 4,cl 5],bx:=[(4000000,[.ro true 5 (.int .u8) a,ar b,ar c]),(4,[ar i,ar j,ar k,.str l,.own 1000000 none,.str m]),(5,[ar s,ar d,ar e,.str f,.own 1000001 none,.str g])],bl:=[aP 1000000 3 (.int .i64) o,aP 1000001 3 (.int .i64) h],sp:=.v (.c (.ptr 4000000 0))}
def gT (a:St):Option U:=eo kD F kE [.r,.r,.l,.r,.b,.i] f136 J n a
def nW:=L7 kD F kE [.r,.r,.l,.r,.b] f136 .cur Dk bn 2
def sr (i:Int)(v:List Int)(w x c d g h j:Int)(k l:ByteArray)(s o p:Int)(q r:ByteArray)(m t:List Int):gT F J (n+1) (fc i v w x c d g h j k l s o p q r m t)=(af F0 (v,w,x) 5).bind fun f=>br (decide (i<f.1.1)) ((lr F0 f.2.1 (c,d)).bind fun u=>(Is F0 (c,d) (s,o,(p,q,t),r) u.1.1.2).bind fun a=>(dm F0 u.2.1 3).bind fun b=>br (!b.1.1) ((Hv F0 (c,d) a.1 u.1.1).bind fun e=>gT F J n (fc (ak (i+1)) b.2.1.1 b.2.1.2.1 b.2.1.2.2 c d g h j k l e.1.1 e.1.2.1 e.1.2.2.1.1 e.1.2.2.1.2.1 e.1.2.2.2 m e.1.2.2.1.2.2)) (gT F J n (fc (ak (i+1)) b.2.1.1 b.2.1.2.1 b.2.1.2.2 c d g h j k l a.1.1 a.1.2.1 a.1.2.2.1.1 a.1.2.2.1.2.1 a.1.2.2.2 m a.1.2.2.1.2.2))) (J (.exit 0) (x7 f.2.1.1 f.2.1.2.1 f.2.1.2.2 g h j k l s o p q r m t)):=by kernel_rfl
def va (a:List Int)(b c i j k:Int)(l m:ByteArray)(s d e:Int)(f g:ByteArray)(o h:List Int):nW F (.exit 0) (x7 a b c i j k l m s d e f g o h)=some (((s,d,(e,f,h),g),()),(a,b,c),()):=by kernel_rfl
def jN (c:D2)(a:D1):=fR kD F kE f136 zs 0 .cur Dk bn 2 (c,a,())
def SM (c:D2)(b:D1):jN F c b=(GO F0).bind fun a=>gT F (nW F) F.n (fc 0 c.1 c.2.1 c.2.2 b.1 b.2 0 0 0 ai ai a.1.1 a.1.2.1 a.1.2.2.1.1 a.1.2.2.1.2.1 a.1.2.2.2 [] a.1.2.2.1.2.2):=by kernel_rfl
def nX:Any:=.two ⟨zs,0,.cur,Dk,2,bn,fun x=>jN F0 x.1 x.2.1⟩
def Du:a8 136 nX:=jy kD ⟨dp,aA,Qr,Fs,Kn,ZS,trivial⟩ func136 kE (by kernel_rfl)
def SN:=[(60,PH),(98,av),(121,bH),(124,sW),(136,nX)]
def GQ (c:D2)(a:D1):=fR SN F ab f128 zs 0 .cur Dk bn 2 (c,a,())
def afE (c:D2)(d:D1):GQ F c d=(jN F0 c d).bind fun a=>(af F0 a.2.1 10).bind fun b=>br (b.1.1==0) ((aU F0 b.2.1 [(-1),60,61]).bind fun e=>some (((e.1.1,a.1.1.2),()),e.2.1,())) (br (b.1.1==1) ((aU F0 b.2.1 [(-1),0,60,61]).bind fun f=>some (((a.1.1.1,f.1.1,a.1.1.2.2),()),f.2.1,())) (br (b.1.1==2) ((uZ F0 b.2.1).bind fun g=>some (((a.1.1.1,a.1.1.2.1,a.1.1.2.2.1,g.1.1),()),g.2.1,())) (br (b.1.1==3) ((J3 F0 b.2.1 d).bind fun h=>some (((a.1.1.1,a.1.1.2.1,h.1.1,a.1.1.2.2.2),()),h.2.1,())) (some ((a.1.1,()),b.2.1,()))))):=by kernel_rfl
def Nv:Any:=.two ⟨zs,0,.cur,Dk,2,bn,fun x=>GQ F0 x.1 x.2.1⟩
def afF:a8 128 Nv:=jy SN ⟨ahO,aA,bU,H5,Du,trivial⟩ func128 ab (by kernel_rfl)
def mi:=[(98,av),(186,cM),(193,qU)]
def mj:Nat->Option Hint:=look [(3,{live:=[0,3,4],xl:=[3],rl:=[2]})]
def jO (i:Int)(a:List Int)(b c:Int)(d:List D4):St:={nt:=20,tm:=[(0,.v (.c (.ptr 4000000 0))),(3,.v (.c (.own 1000000 none))),(4,a7 i)],bx:=[(4000000,[.ro true 5 (.int .u8) a,ar b,ar c])],bl:=[aP 1000000 99 K4 d],sp:=.v (.c (.ptr 4000000 0))}
def z8 (a:List Int)(b c:Int)(d:List D4):St:={nt:=20,tm:=[(3,.v (.c (.own 1000000 none)))],bx:=[(4000000,[.ro true 5 (.int .u8) a,ar b,ar c])],bl:=[aP 1000000 99 K4 d],sp:=.v (.c (.ptr 4000000 0))}
def ml (a:St):Option U:=eo mi F mj [.r,.r,.l,.r,.b,.i] f191 J n a
def pe:=L7 mi F mj [.r,.r,.l,.r,.b] f191 .cur n2 bn 2
def vb (i:Int)(d:List Int)(e f:Int)(c:List D4):ml F J (n+1) (jO i d e f c)=(af F0 (d,e,f) 9).bind fun a=>br (decide (i<a.1.1)) ((cZ F0 a.2.1).bind fun b=>(qJ F0 c b.1.1).bind fun g=>ml F J n (jO (ak (i+1)) b.2.1.1 b.2.1.2.1 b.2.1.2.2 g.1)) (J (.exit 0) (z8 a.2.1.1 a.2.1.2.1 a.2.1.2.2 c)):=by kernel_rfl
def x8 (a:List Int)(b c:Int)(d:List D4):pe F (.exit 0) (z8 a b c d)=some ((d,()),(a,b,c),()):=by kernel_rfl
def re (c:D2):=fR mi F mj f191 bn 0 .cur n2 bn 2 (c,())
def Vc (c:D2):re F c=ml F (pe F) F.n (jO 0 c.1 c.2.1 c.2.2 []):=by kernel_rfl
def Dv:Any:=.two ⟨bn,0,.cur,n2,2,bn,fun x=>re F0 x.1⟩
def Vd:a8 191 Dv:=jy mi ⟨aA,dI,EC,trivial⟩ func191 mj (by kernel_rfl)
def WC:=[(98,av),(121,bH),(186,cM)]
def Dw (c:D2):=fR WC F ab f192 bn 0 .cur Px bn 1 (c,())
def aiP (c:D2):Dw F c=(cZ F0 c).bind fun a=>(af F0 a.2.1 12).bind fun b=>br (b.1.1==0) ((aU F0 b.2.1 [(-1),4]).bind fun d=>some (((d.1.1,a.1.1.2),()),d.2.1,())) (br (b.1.1==1) ((aU F0 b.2.1 [(-1),4]).bind fun e=>some (((a.1.1.1,e.1.1,a.1.1.2.2),()),e.2.1,())) (br (b.1.1==2) ((aU F0 b.2.1 [(-1),1001]).bind fun f=>some (((a.1.1.1,a.1.1.2.1,f.1.1,a.1.1.2.2.2),()),f.2.1,())) (br (b.1.1==3) ((aU F0 b.2.1 [(-1),99,100]).bind fun g=>some (((a.1.1.1,a.1.1.2.1,a.1.1.2.2.1,g.1.1),()),g.2.1,())) (some ((a.1.1,()),b.2.1,()))))):=by kernel_rfl
def EE:Any:=.two ⟨bn,0,.cur,Px,1,bn,fun x=>Dw F0 x.1⟩
def SO:a8 192 EE:=jy WC ⟨aA,bU,dI,trivial⟩ func192 ab (by kernel_rfl)
def kg:=[(98,av),(191,Dv),(192,EE),(193,qU)]
def kh:Nat->Option Hint:=look [(7,{live:=[3,4],xl:=[3],rl:=[2]}),(10,{live:=[3,4,5],xl:=[3,4],rl:=[2]})]
def tO (i k:Int)(a:List Int)(b c:Int)(d:List D4):St:={nt:=36,tm:=[(3,.v (.c (.own 1000000 none))),(4,a7 i),(5,a7 k)],bx:=[(4000000,[.ro true 5 (.int .u8) a,ar b,ar c])],bl:=[aP 1000000 99 K4 d],sp:=.v (.c (.ptr 4000000 0))}
def Nw (i:Int)(a:List Int)(b c:Int)(d:List D4):St:={nt:=36,tm:=[(3,.v (.c (.own 1000000 none))),(4,a7 i)],bx:=[(4000000,[.ro true 5 (.int .u8) a,ar b,ar c])],bl:=[aP 1000000 99 K4 d],sp:=.v (.c (.ptr 4000000 0))}
def Co (a:St):Option U:=eo kg F kh [.r,.r,.l,.r,.b,.r,.e,.r,.t,.r,.b,.i,.r,.l,.b,.r,.b,.i] f129 J n a
def EF:Ex->St->Option U:=JG Tryz.prog (look kg) F kh [.r,.l,.b,.r,.b] (sub [.r,.r,.l,.r,.b,.r,.e,.r,.t,.r,.b,.i] (cr f129)) (itk Tryz.prog (look kg) F kh (sub [.r,.r,.l,.r,.b,.r,.e,.r,.t,.r,.b,.i] (cr f129)) J n)
def tP (i:Int)(a:List Int)(b c:Int)(d:List D4):St:={nt:=36,tm:=[(3,.v (.c (.own 1000000 none))),(4,a7 i)],bx:=[(4000000,[.ro true 5 (.int .u8) a,ar b,ar c])],bl:=[aP 1000000 99 K4 d],sp:=.v (.c (.ptr 4000000 0))}
def Nx (a:List Int)(b c:Int)(d:List D4):St:={nt:=36,tm:=[(3,.v (.c (.own 1000000 none)))],bx:=[(4000000,[.ro true 5 (.int .u8) a,ar b,ar c])],bl:=[aP 1000000 99 K4 d],sp:=.v (.c (.ptr 4000000 0))}
def Cp (a:St):Option U:=eo kg F kh [.r,.r,.l,.r,.b,.r,.e,.r,.t,.r,.b,.i] f129 J n a
def tQ:=L7 kg F kh [.r,.r,.l,.r,.b,.r,.e,.r,.t,.r,.b] f129 .cur n2 bn 2
def II (i k:Int)(a:List Int)(b c:Int)(d:List D4):Co F J (n+1) (tO i k a b c d)=br (decide (k<4)) ((qJ F0 d (i,0,0,k)).bind fun e=>Co F J n (tO i (ak (k+1)) a b c e.1)) (J (.exit 3) (Nw i a b c d)):=by kernel_rfl
def IJ (i:Int)(a:List Int)(b c:Int)(d:List D4):Cp F J (n+1) (tP i a b c d)=br (decide (i<4)) (Co F (EF F J n) F.n (tO i 0 a b c d)) (J (.exit 1) (Nx a b c d)):=by kernel_rfl
def aab (i:Int)(a:List Int)(b c:Int)(d:List D4):EF F J n (.exit 3) (Nw i a b c d)=Cp F J n (tP (ak (i+1)) a b c d):=by kernel_rfl
def aac (a:List Int)(b c:Int)(d:List D4):tQ F (.exit 1) (Nx a b c d)=some ((d,()),(a,b,c),()):=by kernel_rfl
def KU (c:D2):=fR kg F kh f129 bn 0 .cur n2 bn 2 (c,())
def aiQ (c:D2):KU F c=(re F0 c).bind fun b=>(af F0 b.2.1 8).bind fun a=>br (a.1.1==0) ((Dw F0 a.2.1).bind fun d=>ck (fA F b.1.1.length [d.1.1].length 32) (some ((b.1.1++[d.1.1],()),d.2.1,()))) (br (a.1.1==1) (Cp F (tQ F) F.n (tP 0 a.2.1.1 a.2.1.2.1 a.2.1.2.2 b.1.1)) (some ((b.1.1,()),a.2.1,()))):=by kernel_rfl
def Qv:Any:=.two ⟨bn,0,.cur,n2,2,bn,fun x=>KU F0 x.1⟩
def aiR:a8 129 Qv:=jy kg ⟨aA,Vd,SO,EC,trivial⟩ func129 kh (by kernel_rfl)
def kF:=[(62,AK),(97,cA),(98,av),(125,iK),(194,gn)]
def kG:Nat->Option Hint:=look [(3,{live:=[0,3,5,6],xl:=[0,3,5],rl:=[4]})]
def iM (i:Int)(a:List Int)(b c d e:Int)(f:List D9):St:={nt:=32,tm:=[(0,.v (.c (.ptr 4000000 0))),cl 3,(5,.v (.c (.own 1000000 none))),(6,a7 i)],bx:=[(4000000,[.ro true 5 (.int .u8) a,ar b,ar c]),(3,[ar d,ar e])],bl:=[aP 1000000 29 K9 f],sp:=.v (.c (.ptr 4000000 0))}
def mm (a:List Int)(b c d e:Int)(f:List D9):St:={nt:=32,tm:=[(0,.v (.c (.ptr 4000000 0))),cl 3,(5,.v (.c (.own 1000000 none)))],bx:=[(4000000,[.ro true 5 (.int .u8) a,ar b,ar c]),(3,[ar d,ar e])],bl:=[aP 1000000 29 K9 f],sp:=.v (.c (.ptr 4000000 0))}
def kH (a:St):Option U:=eo kF F kG [.r,.r,.l,.r,.b,.i] f130 J n a
def iN:=L7 kF F kG [.r,.r,.l,.r,.b] f130 .cur Sm bn 2
def su (i:Int)(f:List Int)(g h a b:Int)(e:List D9):kH F J (n+1) (iM i f g h a b e)=(af F0 (f,g,h) 5).bind fun c=>br (decide (i<c.1.1)) ((gk F0 c.2.1 (a,b)).bind fun d=>(dW F0 (a,b) e d.1.1).bind fun j=>kH F J n (iM (ak (i+1)) d.2.1.1 d.2.1.2.1 d.2.1.2.2 a b j.1)) (J (.exit 0) (mm c.2.1.1 c.2.1.2.1 c.2.1.2.2 a b e)):=by kernel_rfl
def Ny (d:List Int)(e f g h:Int)(a:List D9):iN F (.exit 0) (mm d e f g h a)=(dm F0 (d,e,f) 8).bind fun b=>br b.1.1 ((vU F0 b.2.1 (g,h)).bind fun c=>ck (fA F a.length [c.1.1].length 48) (some ((a++[c.1.1],()),c.2.1,()))) (some ((a,()),b.2.1,())):=by kernel_rfl
def ow (c:D2)(a:D1):=fR kF F kG f130 zs 0 .cur Sm bn 2 (c,a,())
def SP (c:D2)(a:D1):ow F c a=kH F (iN F) F.n (iM 0 c.1 c.2.1 c.2.2 a.1 a.2 []):=by kernel_rfl
def Aa:Any:=.two ⟨zs,0,.cur,Sm,2,bn,fun x=>ow F0 x.1 x.2.1⟩
def SQ:a8 130 Aa:=jy kF ⟨PI,dp,aA,o0,ld,trivial⟩ func130 kG (by kernel_rfl)
end
end Go.Am.Tryz
