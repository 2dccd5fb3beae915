/- No condition. -/
import Derived.Test.YtpkabclplaibaaaGreatDoorQjYJG2
set_option linter.all false
set_option maxRecDepth 100000
namespace Go.Am.Tryz
open Go.Am Go.Proofs Go.Proofs.Tryz
noncomputable section
variable {U:Type} (F:nP) (J:Ex->St->Option U) (n:Nat)
def fj:=[(83,b4),(97,cA),(98,av),(121,bH),(186,cM),(189,eG),(265,OA),(266,Fb),(267,ig)]
def fk:Nat->Option Hint:=look [(8,{live:=[3,4,5,6,7],F4:=[(4,8,3,.int .i64),(4,11,3,.int .i64),(4,14,3,.int .i64)],xl:=[4,6],rl:=[4]}),(19,{live:=[0,3,4,5,6,10],F4:=[(4,8,3,.int .i64),(4,11,3,.int .i64),(4,14,3,.int .i64)],xl:=[0,3,4,6],rl:=[4]})]
def cN (b a k:Int)(c:List Int)(d e w f:Int)(g:List Int)(h:List bL)(i:List cI)(j:List b3)(v x y z A:Int)(B:ByteArray)(C:Int)(D:ByteArray)(E:Int)(G:ByteArray)(l:Int)(m:ByteArray)(o p q r s:Int)(H t u:List Int):St:={nt:=152,tm:=[(0,.v (.c (.ptr 4000000 0))),cl 3,cl 4,(5,a7 b),(6,a7 a),(10,a7 k)],bx:=[(4000000,[.ro true 5 (.int .u8) c,ar d,ar e]),(3,[ar w,ar f,.ro false 3 (.int .i64) g,.ro false 42 (cC) h,.ro false 95 (iT) i,.ro false 91 (dC) j]),(4,[ar v,ar x,ar y,ar z,ar A,.str B,ar C,.str D,.own 1000000 none,ar E,.str G,.own 1000001 none,ar l,.str m,.own 1000002 none,ar o,ar p,ar q,ar r,ar s])],bl:=[aP 1000000 3 (.int .i64) H,aP 1000001 3 (.int .i64) t,aP 1000002 3 (.int .i64) u],sp:=.v (.c (.ptr 4000000 0))}
def Dh (a:List Int)(b c k l m o p:Int)(q:ByteArray)(r:Int)(s:ByteArray)(t:Int)(u:ByteArray)(d:Int)(e:ByteArray)(f g h i j:Int):St:={nt:=152,tm:=[cl 4],bx:=[(4000000,[.ro true 5 (.int .u8) a,ar b,ar c]),(4,[ar k,ar l,ar m,ar o,ar p,.str q,ar r,.str s,.nil,ar t,.str u,.nil,ar d,.str e,.nil,ar f,ar g,ar h,ar i,ar j])],bl:=[],sp:=.v (.c (.ptr 4000000 0))}
def zV (a:Int)(b:List Int)(c d w e:Int)(f:List Int)(g:List bL)(h:List cI)(i:List b3)(t u v x y:Int)(z:ByteArray)(A:Int)(B:ByteArray)(C:Int)(D:ByteArray)(j:Int)(k:ByteArray)(l m o p q:Int)(E r s:List Int):St:={nt:=152,tm:=[(0,.v (.c (.ptr 4000000 0))),cl 3,cl 4,(6,a7 a)],bx:=[(4000000,[.ro true 5 (.int .u8) b,ar c,ar d]),(3,[ar w,ar e,.ro false 3 (.int .i64) f,.ro false 42 (cC) g,.ro false 95 (iT) h,.ro false 91 (dC) i]),(4,[ar t,ar u,ar v,ar x,ar y,.str z,ar A,.str B,.own 1000000 none,ar C,.str D,.own 1000001 none,ar j,.str k,.own 1000002 none,ar l,ar m,ar o,ar p,ar q])],bl:=[aP 1000000 3 (.int .i64) E,aP 1000001 3 (.int .i64) r,aP 1000002 3 (.int .i64) s],sp:=.v (.c (.ptr 4000000 0))}
def ds (a:St):Option U:=eo fj F fk [.r,.r,.r,.l,.r,.b,.r,.e,.r,.t,.r,.b,.i] f199 J n a
def cO:=L7 fj F fk [.r,.r,.r,.l,.r,.b,.r,.e,.r,.t,.r,.b] f199 .cur [(K45,true)] bn 2
def cP (b a k:Int)(c:List Int)(d e w f:Int)(g:List Int)(h:List bL)(i:List cI)(j:List b3)(v x y z A:Int)(B:ByteArray)(C:Int)(D:ByteArray)(E:Int)(G:ByteArray)(l:Int)(m:ByteArray)(o p q r s:Int)(H t u:List Int):St:={nt:=152,tm:=[cl 3,cl 4,(5,a7 b),(6,a7 a),(7,a7 k)],bx:=[(4000000,[.ro true 5 (.int .u8) c,ar d,ar e]),(3,[ar w,ar f,.ro false 3 (.int .i64) g,.ro false 42 (cC) h,.ro false 95 (iT) i,.ro false 91 (dC) j]),(4,[ar v,ar x,ar y,ar z,ar A,.str B,ar C,.str D,.own 1000000 none,ar E,.str G,.own 1000001 none,ar l,.str m,.own 1000002 none,ar o,ar p,ar q,ar r,ar s])],bl:=[aP 1000000 3 (.int .i64) H,aP 1000001 3 (.int .i64) t,aP 1000002 3 (.int .i64) u],sp:=.v (.c (.ptr 4000000 0))}
def Di (a:List Int)(b c k l m o p:Int)(q:ByteArray)(r:Int)(s:ByteArray)(t:Int)(u:ByteArray)(d:Int)(e:ByteArray)(f g h i j:Int):St:={nt:=152,tm:=[cl 4],bx:=[(4000000,[.ro true 5 (.int .u8) a,ar b,ar c]),(4,[ar k,ar l,ar m,ar o,ar p,.str q,ar r,.str s,.nil,ar t,.str u,.nil,ar d,.str e,.nil,ar f,ar g,ar h,ar i,ar j])],bl:=[],sp:=.v (.c (.ptr 4000000 0))}
def z1 (a:Int)(b:List Int)(c d o p q r s:Int)(t:ByteArray)(u:Int)(v:ByteArray)(w:Int)(x:ByteArray)(e:Int)(f:ByteArray)(g h i j k:Int)(y l m:List Int):St:={nt:=152,tm:=[cl 4,(6,a7 a)],bx:=[(4000000,[.ro true 5 (.int .u8) b,ar c,ar d]),(4,[ar o,ar p,ar q,ar r,ar s,.str t,ar u,.str v,.own 1000000 none,ar w,.str x,.own 1000001 none,ar e,.str f,.own 1000002 none,ar g,ar h,ar i,ar j,ar k])],bl:=[aP 1000000 3 (.int .i64) y,aP 1000001 3 (.int .i64) l,aP 1000002 3 (.int .i64) m],sp:=.v (.c (.ptr 4000000 0))}
def dt (a:St):Option U:=eo fj F fk [.r,.r,.r,.l,.r,.b,.r,.t,.l,.r,.b,.i] f199 J n a
def du:=L7 fj F fk [.r,.r,.r,.l,.r,.b,.r,.t,.l,.r,.b] f199 .cur [(K45,true)] bn 2
def u4 (b a k:Int)(d:List Int)(e f w g:Int)(h:List Int)(c:List bL)(i:List cI)(j:List b3)(v x y z A:Int)(B:ByteArray)(C:Int)(D:ByteArray)(E:Int)(G:ByteArray)(l:Int)(m:ByteArray)(o p q r s:Int)(H t u:List Int):ds F J (n+1) (cN b a k d e f w g h c i j v x y z A B C D E G l m o p q r s H t u)=br (decide (k<b)) (ck (!(b==0)) (ck (bh (Int.tmod (ak (a+k)) b) (c.length:Int)) (br (decide (((aJ c (Int.tmod (ak (a+k)) b) cC.aw).2.2.2.2.2.2.2.length:Int)>0)) (ck (!(b==0)) (J .ret (Dh d e f 2 (Int.tmod (ak (a+k)) b) 0 0 0 ai 0 ai 0 ai 0 ai 0 0 0 0 0))) (ds F J n (cN b a (ak (k+1)) d e f w g h c i j v x y z A B C D E G l m o p q r s H t u))))) (J (.exit 3) (zV a d e f w g h c i j v x y z A B C D E G l m o p q r s H t u)):=by kernel_rfl
def u5 (b a k:Int)(c:List Int)(d e w g:Int)(h:List Int)(f:List bL)(G:List cI)(H:List b3)(t u v x y:Int)(z:ByteArray)(A:Int)(B:ByteArray)(C:Int)(D:ByteArray)(i:Int)(j:ByteArray)(l m o p q:Int)(E r s:List Int):dt F J (n+1) (cP b a k c d e w g h f G H t u v x y z A B C D i j l m o p q E r s)=br (decide (k<b)) (ck (!(b==0)) (ck (bh (Int.tmod (ak (a+k)) b) (f.length:Int)) ((Si F0 (w,g) (aJ f (Int.tmod (ak (a+k)) b) cC.aw)).bind fun I=>br I.2.1 (ck (!(b==0)) ((cv F0 h (Int.tmod (ak (a+k)) b)).bind fun K=>br (!K.1) (ck (!(b==0)) (J .ret (Di c d e 1 (Int.tmod (ak (a+k)) b) 0 0 0 ai 0 ai 0 ai 0 ai 0 0 0 0 0))) (dt F J n (cP b a (ak (k+1)) c d e w g h f G H t u v x y z A B C D i j l m o p q E r s)))) (dt F J n (cP b a (ak (k+1)) c d e w g h f G H t u v x y z A B C D i j l m o p q E r s))))) (J (.exit 1) (z1 a c d e t u v x y z A B C D i j l m o p q E r s)):=by kernel_rfl
def QZ (a:List Int)(b c k l m o p:Int)(q:ByteArray)(r:Int)(s:ByteArray)(t:Int)(u:ByteArray)(d:Int)(e:ByteArray)(f g h i j:Int):cO F .ret (Dh a b c k l m o p q r s t u d e f g h i j)=some (((k,l,m,o,p,(q,r,s,[]),(t,u,[]),(d,e,[]),f,g,h,i,j),()),(a,b,c),()):=by kernel_rfl
def OB (a:Int)(b:List Int)(c d w g:Int)(h:List Int)(i:List bL)(e:List cI)(j:List b3)(v x y z A:Int)(B:ByteArray)(C:Int)(D:ByteArray)(E:Int)(G:ByteArray)(k:Int)(l:ByteArray)(m o p q r:Int)(H s t:List Int):cO F (.exit 3) (zV a b c d w g h i e j v x y z A B C D E G k l m o p q r H s t)=br ((e.length:Int)==0) (some (((2,a,0,0,0,(ai,0,ai,[]),(0,ai,[]),(0,ai,[]),0,0,0,0,0),()),(b,c,d),())) ((bA F0 (e.length:Int) 4).bind fun u=>(af F0 (b,c,d) u.1).bind fun f=>some (((3,f.1.1,0,0,0,(ai,0,ai,[]),(0,ai,[]),(0,ai,[]),0,0,0,0,0),()),f.2.1,())):=by kernel_rfl
def Q0 (a:List Int)(b c k l m o p:Int)(q:ByteArray)(r:Int)(s:ByteArray)(t:Int)(u:ByteArray)(d:Int)(e:ByteArray)(f g h i j:Int):du F .ret (Di a b c k l m o p q r s t u d e f g h i j)=some (((k,l,m,o,p,(q,r,s,[]),(t,u,[]),(d,e,[]),f,g,h,i,j),()),(a,b,c),()):=by kernel_rfl
def OC (a:Int)(b:List Int)(c d o p q r s:Int)(t:ByteArray)(u:Int)(v:ByteArray)(w:Int)(x:ByteArray)(e:Int)(f:ByteArray)(g h i j k:Int)(y l m:List Int):du F (.exit 1) (z1 a b c d o p q r s t u v w x e f g h i j k y l m)=some (((7,a,0,0,0,(ai,0,ai,[]),(0,ai,[]),(0,ai,[]),0,0,0,0,0),()),(b,c,d),()):=by kernel_rfl
def p2 (c:D2)(w:iU):=fR fj F fk f199 amA 0 .cur [(K45,true)] bn 2 (c,w,())
def U6 (c:D2)(w:iU):p2 F c w=(c9 F0 (w.2.2.1.length:Int) 1).bind fun l=>(af F0 c l.1).bind fun b=>(af F0 b.2.1 20).bind fun a=>br (a.1.1==0) (dt F (du F) F.n (cP (w.2.2.1.length:Int) b.1.1 0 a.2.1.1 a.2.1.2.1 a.2.1.2.2 w.1.1 w.1.2 w.2.1 w.2.2.1 w.2.2.2.1 w.2.2.2.2 0 0 0 0 0 ai 0 ai 0 ai 0 ai 0 0 0 0 0 [] [] [])) (br (a.1.1==1) (dt F (du F) F.n (cP (w.2.2.1.length:Int) b.1.1 0 a.2.1.1 a.2.1.2.1 a.2.1.2.2 w.1.1 w.1.2 w.2.1 w.2.2.1 w.2.2.2.1 w.2.2.2.2 0 0 0 0 0 ai 0 ai 0 ai 0 ai 0 0 0 0 0 [] [] [])) (br (a.1.1==2) (dt F (du F) F.n (cP (w.2.2.1.length:Int) b.1.1 0 a.2.1.1 a.2.1.2.1 a.2.1.2.2 w.1.1 w.1.2 w.2.1 w.2.2.1 w.2.2.2.1 w.2.2.2.2 0 0 0 0 0 ai 0 ai 0 ai 0 ai 0 0 0 0 0 [] [] [])) (br (a.1.1==3) (ds F (cO F) F.n (cN (w.2.2.1.length:Int) b.1.1 0 a.2.1.1 a.2.1.2.1 a.2.1.2.2 w.1.1 w.1.2 w.2.1 w.2.2.1 w.2.2.2.1 w.2.2.2.2 0 0 0 0 0 ai 0 ai 0 ai 0 ai 0 0 0 0 0 [] [] [])) (br (a.1.1==4) (ds F (cO F) F.n (cN (w.2.2.1.length:Int) b.1.1 0 a.2.1.1 a.2.1.2.1 a.2.1.2.2 w.1.1 w.1.2 w.2.1 w.2.2.1 w.2.2.2.1 w.2.2.2.2 0 0 0 0 0 ai 0 ai 0 ai 0 ai 0 0 0 0 0 [] [] [])) (br (a.1.1==5) (ds F (cO F) F.n (cN (w.2.2.1.length:Int) b.1.1 0 a.2.1.1 a.2.1.2.1 a.2.1.2.2 w.1.1 w.1.2 w.2.1 w.2.2.1 w.2.2.2.1 w.2.2.2.2 0 0 0 0 0 ai 0 ai 0 ai 0 ai 0 0 0 0 0 [] [] [])) (br (a.1.1==6) (ds F (cO F) F.n (cN (w.2.2.1.length:Int) b.1.1 0 a.2.1.1 a.2.1.2.1 a.2.1.2.2 w.1.1 w.1.2 w.2.1 w.2.2.1 w.2.2.2.1 w.2.2.2.2 0 0 0 0 0 ai 0 ai 0 ai 0 ai 0 0 0 0 0 [] [] [])) (br (a.1.1==7) (some (((6,b.1.1,0,0,0,(ai,0,ai,[]),(0,ai,[]),(0,ai,[]),0,0,0,0,0),()),a.2.1,())) (br (a.1.1==8) (some (((7,b.1.1,0,0,0,(ai,0,ai,[]),(0,ai,[]),(0,ai,[]),0,0,0,0,0),()),a.2.1,())) (br (a.1.1==9) ((dm F0 a.2.1 2).bind fun g=>br g.1.1 ((aU F0 g.2.1 [0,0,5,40,9999]).bind fun h=>some (((8,b.1.1,h.1.1,0,0,(ai,0,ai,[]),(0,ai,[]),(0,ai,[]),0,0,0,0,0),()),h.2.1,())) ((af F0 g.2.1 2).bind fun i=>(c9 F0 (w.2.2.2.1.length:Int) 1).bind fun m=>(af F0 i.2.1 m.1).bind fun j=>some (((ak (4+i.1.1),j.1.1,0,0,0,(ai,0,ai,[]),(0,ai,[]),(0,ai,[]),0,0,0,0,0),()),j.2.1,()))) (br (a.1.1==10) ((cZ F0 a.2.1).bind fun k=>some (((9,b.1.1,0,4,0,(ai,0,ai,[]),(0,ai,[]),(0,ai,[]),0,k.1.1),()),k.2.1,())) (br (a.1.1==11) (br (decide ((w.2.1.length:Int)>0)) ((gC F0 a.2.1 w).bind fun e=>some (((10,b.1.1,0,e.1.1),()),e.2.1,())) (br ((w.2.2.2.1.length:Int)==0) (some (((2,b.1.1,0,0,0,(ai,0,ai,[]),(0,ai,[]),(0,ai,[]),0,0,0,0,0),()),a.2.1,())) ((bA F0 (w.2.2.2.1.length:Int) 4).bind fun f=>(af F0 a.2.1 f.1).bind fun d=>some (((3,d.1.1,0,0,0,(ai,0,ai,[]),(0,ai,[]),(0,ai,[]),0,0,0,0,0),()),d.2.1,())))) (br (a.1.1==12) (br (decide ((w.2.1.length:Int)>0)) ((gC F0 a.2.1 w).bind fun e=>some (((10,b.1.1,0,e.1.1),()),e.2.1,())) (br ((w.2.2.2.1.length:Int)==0) (some (((2,b.1.1,0,0,0,(ai,0,ai,[]),(0,ai,[]),(0,ai,[]),0,0,0,0,0),()),a.2.1,())) ((bA F0 (w.2.2.2.1.length:Int) 4).bind fun f=>(af F0 a.2.1 f.1).bind fun d=>some (((3,d.1.1,0,0,0,(ai,0,ai,[]),(0,ai,[]),(0,ai,[]),0,0,0,0,0),()),d.2.1,())))) (br (a.1.1==13) (br (decide ((w.2.1.length:Int)>0)) ((gC F0 a.2.1 w).bind fun e=>some (((10,b.1.1,0,e.1.1),()),e.2.1,())) (br ((w.2.2.2.1.length:Int)==0) (some (((2,b.1.1,0,0,0,(ai,0,ai,[]),(0,ai,[]),(0,ai,[]),0,0,0,0,0),()),a.2.1,())) ((bA F0 (w.2.2.2.1.length:Int) 4).bind fun f=>(af F0 a.2.1 f.1).bind fun d=>some (((3,d.1.1,0,0,0,(ai,0,ai,[]),(0,ai,[]),(0,ai,[]),0,0,0,0,0),()),d.2.1,())))) (br ((w.2.2.2.1.length:Int)==0) (some (((2,b.1.1,0,0,0,(ai,0,ai,[]),(0,ai,[]),(0,ai,[]),0,0,0,0,0),()),a.2.1,())) ((bA F0 (w.2.2.2.1.length:Int) 4).bind fun f=>(af F0 a.2.1 f.1).bind fun d=>some (((3,d.1.1,0,0,0,(ai,0,ai,[]),(0,ai,[]),(0,ai,[]),0,0,0,0,0),()),d.2.1,())))))))))))))))):=by kernel_rfl
def Dj:Any:=.two ⟨amA,0,.cur,[(K45,true)],2,bn,fun x=>p2 F0 x.1 x.2.1⟩
def U7:a8 199 Dj:=jy fj ⟨cT,dp,aA,bU,dI,hL,ad2,XN,nH,trivial⟩ func199 fk (by kernel_rfl)
def Sl:=[(293,gB)]
abbrev Dk:List (Ty×Bool):=[(K13,true)]
def ma (s:D13):=bM Sl F ab f247 Dk Dk 2 (s,())
def ae7 (s:D13):ma F s=(hO F0 s.2.2.1).bind fun a=>some ((s.1,s.2.1,a.1,s.2.2.2),()):=by kernel_rfl
def k8:Any:=.one ⟨Dk,Dk,2,fun x=>ma F0 x.1⟩
def tp:a8 247 k8:=aG Sl ⟨k7,trivial⟩ func247 ab (by kernel_rfl)
def tr:=[(262,hU)]
def tt:Nat->Option Hint:=look [(3,{live:=[0,3,4],xl:=[3],rl:=[2]})]
def oj (a:List D9)(i:Int)(b:List D9):= ei 21 [(0,mU 29 (K9) a),(3,.v (.c (.own 1000000 none))),(4,a7 i)] [] [aP 1000000 29 K9 b]
def Iq (a:List D9):= ei 21 [(3,.v (.c (.own 1000000 none)))] [] [aP 1000000 29 K9 a]
def tu (a:St):Option U:=eo tr F tt [.r,.r,.l,.r,.b,.i] f248 J n a
abbrev Sm:List (Ty×Bool):=[(K14,false)]
def wD:=jx tr F tt [.r,.r,.l,.r,.b] f248 Sm 2
def Dl (a:List D9)(i:Int)(b:List D9):tu F J (n+1) (oj a i b)=br (decide (i<(a.length:Int))) (ck (bh i (a.length:Int)) ((fE F0 (aJ a i K9.aw)).bind fun c=>ck (fA F b.length [c.1].length 48) (tu F J n (oj a (ak (i+1)) (b++[c.1]))))) (J (.exit 0) (Iq b)):=by kernel_rfl
def U8 (a:List D9):wD F (.exit 0) (Iq a)=some (a,()):=by kernel_rfl
def fF (a:D14):=bM tr F tt f248 Sm Sm 2 (a,())
def ab2 (a:D14):fF F a=tu F (wD F) F.n (oj a 0 []):=by kernel_rfl
def wE:Any:=.one ⟨Sm,Sm,2,fun x=>fF F0 x.1⟩
def MZ:a8 248 wE:=aG tr ⟨ng,trivial⟩ func248 tt (by kernel_rfl)
def hy (d:D15):=bM ax F ab f249 E5 E5 2 (d,())
def ae8 (d:D15):hy F d=ck (fA F 0 d.1.length 1) (some (([]++d.1,d.2),())):=by kernel_rfl
def k9:Any:=.one ⟨E5,E5,2,fun x=>hy F0 x.1⟩
def tv:a8 249 k9:=aG ax trivial func249 ab (by kernel_rfl)
def Wh:=[(293,gB)]
abbrev ah9:List (Ty×Bool):=[(K16,true)]
def Kl (b:D16):=bM Wh F ab f317 ah9 ah9 2 (b,())
def aia (b:D16):Kl F b=(hO F0 b.2).bind fun a=>some ((b.1,a.1),()):=by kernel_rfl
def PV:Any:=.one ⟨ah9,ah9,2,fun x=>Kl F0 x.1⟩
def aib:a8 317 PV:=aG Wh ⟨k7,trivial⟩ func317 ab (by kernel_rfl)
def Sn:=[(262,hU),(293,gB),(317,PV)]
def wF (m:Zq):=bM Sn F ab f294 u3 u3 2 (m,())
def ae9 (m:Zq):wF F m=(Kl F0 m.2.2.1).bind fun a=>(fE F0 m.2.2.2.1).bind fun b=>(hO F0 m.2.2.2.2.1).bind fun c=>some ((m.1,m.2.1,a.1,b.1,c.1,m.2.2.2.2.2),()):=by kernel_rfl
def AX:Any:=.one ⟨u3,u3,2,fun x=>wF F0 x.1⟩
def PW:a8 294 AX:=aG Sn ⟨ng,k7,aib,trivial⟩ func294 ab (by kernel_rfl)
def tw:=[(294,AX)]
def tz:Nat->Option Hint:=look [(3,{live:=[0,3,4],xl:=[3],rl:=[2]})]
def om (a:List Rh)(i:Int)(b:List Rh):= ei 28 [(0,mU 125 (RT) a),(3,.v (.c (.own 1000000 none))),(4,a7 i)] [] [aP 1000000 125 RT b]
def Ir (a:List Rh):= ei 28 [(3,.v (.c (.own 1000000 none)))] [] [aP 1000000 125 RT a]
def tA (a:St):Option U:=eo tw F tz [.r,.r,.l,.r,.b,.i] f250 J n a
abbrev aqv:List (Ty×Bool):=[(K24,false)]
def wG:=jx tw F tz [.r,.r,.l,.r,.b] f250 aqv 2
def Dm (a:List Rh)(i:Int)(b:List Rh):tA F J (n+1) (om a i b)=br (decide (i<(a.length:Int))) (ck (bh i (a.length:Int)) (ck (bh i (a.length:Int)) ((wF F0 (aJ a i RT.aw).2).bind fun c=>ck (fA F b.length [((aJ a i RT.aw).1,c.1)].length 224) (tA F J n (om a (ak (i+1)) (b++[((aJ a i RT.aw).1,c.1)])))))) (J (.exit 0) (Ir b)):=by kernel_rfl
def U9 (a:List Rh):wG F (.exit 0) (Ir a)=some (a,()):=by kernel_rfl
def si (a:D24):=bM tw F tz f250 aqv aqv 2 (a,())
def ab3 (a:D24):si F a=tA F (wG F) F.n (om a 0 []):=by kernel_rfl
def wH:Any:=.one ⟨aqv,aqv,2,fun x=>si F0 x.1⟩
def M0:a8 250 wH:=aG tw ⟨PW,trivial⟩ func250 tz (by kernel_rfl)
def Sp:=[(247,k8),(248,wE),(249,k9),(250,wH)]
abbrev Wi:List (Ty×Bool):=[(cC,true)]
def aV (r:bL):=bM Sp F ab f176 Wi Wi 2 (r,())
def afa (r:bL):aV F r=(ma F0 r.2.2.2.1).bind fun a=>ck (fA F 0 r.2.2.2.2.1.length 32) ((fF F0 r.2.2.2.2.2.1).bind fun b=>(hy F0 r.2.2.2.2.2.2.1).bind fun c=>(si F0 r.2.2.2.2.2.2.2).bind fun d=>some ((r.1,r.2.1,r.2.2.1,a.1,[]++r.2.2.2.2.1,b.1,c.1,d.1),())):=by kernel_rfl
def bI:Any:=.one ⟨Wi,Wi,2,fun x=>aV F0 x.1⟩
def bW:a8 176 bI:=aG Sp ⟨tp,MZ,tv,M0,trivial⟩ func176 ab (by kernel_rfl)
def Sq:=[(293,gB)]
def GB (a b:D9):=bM Sq F ab f269 E3 gS 2 (a,b,())
def afb (a b:D9):GB F a b=br (decide (a.1>b.1)) ((hO F0 a).bind fun c=>some (c.1,())) ((hO F0 b).bind fun d=>some (d.1,())):=by kernel_rfl
def M1:Any:=.one ⟨E3,gS,2,fun x=>GB F0 x.1 x.2.1⟩
def afc:a8 269 M1:=aG Sq ⟨k7,trivial⟩ func269 ab (by kernel_rfl)
def Sr:=[(142,oY),(270,sf)]
def GC (name:ByteArray):=bM Sr F ab f271 dc [(.str,false),(.bool,false)] 1 (name,())
def afd (name:ByteArray):GC F name=(oX F0 name).bind fun a=>br (!a.2.1) (some (ai,false,())) (br (decide ((a.1.length:Int)<3)) (some (ai,false,())) (ck (bh (ak ((a.1.length:Int)-1)) (a.1.length:Int)) (ck (bh (ak ((a.1.length:Int)-2)) (a.1.length:Int)) (br ((aJ a.1 (ak ((a.1.length:Int)-1)) (0,[])).1 != (ak ((aJ a.1 (ak ((a.1.length:Int)-2)) (0,[])).1+1))) (some (ai,false,())) (ck (bh (ak ((a.1.length:Int)-2)) (a.1.length:Int)) (ck (bh (ak ((a.1.length:Int)-3)) (a.1.length:Int)) (br ((aJ a.1 (ak ((a.1.length:Int)-2)) (0,[])).1 != (ak ((aJ a.1 (ak ((a.1.length:Int)-3)) (0,[])).1+1))) (some (ai,false,())) ((kY F0 name).bind fun b=>(kY F0 b.1).bind fun c=>some (c.1,true,()))))))))):=by kernel_rfl
def M3:Any:=.one ⟨dc,[(.str,false),(.bool,false)],1,fun x=>GC F0 x.1⟩
def afe:a8 271 M3:=aG Sr ⟨BN,Gr,trivial⟩ func271 ab (by kernel_rfl)
def Ss:=[(118,ea)]
abbrev Km:List (Ty×Bool):=[(.str,false),(.str,false)]
def p3 (s t:ByteArray):=bM Ss F ab f154 Km aI 1 (s,t,())
def aff (s t:ByteArray):p3 F s t=(ep F0 s).bind fun a=>br (!a.1) (some (false,())) ((ep F0 t).bind fun b=>br (!b.1) (some (false,())) (br (decide ((t.size:Int)>(s.size:Int))) (some (false,())) (ck (Oy 0 (t.size:Int) (s.size:Int)) (br (!((s.extract (0:Int).toNat (t.size:Int).toNat).toList==t.toList)) (some (false,())) (br ((s.size:Int)==(t.size:Int)) (some (true,())) (ck (bh (t.size:Int) (s.size:Int)) (some ((kc s (t.size:Int))==47,())))))))):=by kernel_rfl
def AY:Any:=.one ⟨Km,aI,1,fun x=>p3 F0 x.1 x.2.1⟩
def PX:a8 154 AY:=aG Ss ⟨fS,trivial⟩ func154 ab (by kernel_rfl)
def aic:=[(119,bV),(154,AY),(177,gz),(189,eG),(247,k8),(251,fD),(269,M1),(270,sf),(271,M3)]
abbrev aBD:List (Ty×Bool):=[(K1,true),(K13,true),(K9,true)]
def Is (c:D1)(s:D13)(q:D9):=bM aic F ab f206 aBD Dk 2 (c,s,q,())
def aqw (c:D1)(s:D13)(q:D9):Is F c s q=(ma F0 s).bind fun a=>(hM F0 c s).bind fun f=>br (!f.1) (some (a.1,())) ((iV F0 c q).bind fun g=>br (!g.1) (some (a.1,())) ((GB F0 q s.2.2.1).bind fun b=>(kY F0 q.2.1).bind fun h=>(cc F0 h.1).bind fun i=>(c9 F0 s.2.1 i.1).bind fun d=>(GC F0 q.2.1).bind fun e=>br e.2.1 ((p3 F0 e.1 s.2.2.2).bind fun j=>br j.1 (some ((a.1.1,d.1,b.1,e.1),())) (some ((a.1.1,d.1,b.1,a.1.2.2.2),()))) (some ((a.1.1,d.1,b.1,a.1.2.2.2),())))):=by kernel_rfl
def wI:Any:=.one ⟨aBD,Dk,2,fun x=>Is F0 x.1 x.2.1 x.2.2.1⟩
def Kn:a8 206 wI:=aG aic ⟨cD,PX,kW,hL,tp,jB,afc,Gr,afe,trivial⟩ func206 ab (by kernel_rfl)
def Su:=[(119,bV),(177,gz),(257,kZ)]
abbrev avx:List (Ty×Bool):=[(K1,true),(K13,true),(K16,true)]
def wJ (c:D1)(s:D13)(b:D16):=bM Su F ab f272 avx aI 1 (c,s,b,())
def afg (c:D1)(s:D13)(b:D16):wJ F c s b=(hM F0 c s).bind fun a=>br a.1 ((l7 F0 c b).bind fun d=>br d.1 ((cc F0 b.1).bind fun e=>br (decide (e.1>s.1)) (some (decide (b.2.1>=s.2.1),())) (some (false,()))) (some (false,()))) (some (false,())):=by kernel_rfl
def AZ:Any:=.one ⟨avx,aI,1,fun x=>wJ F0 x.1 x.2.1 x.2.2.1⟩
def PY:a8 272 AZ:=aG Su ⟨cD,kW,s8,trivial⟩ func272 ab (by kernel_rfl)
def ad3:=[(119,bV),(247,k8),(272,AZ)]
abbrev amB:List (Ty×Bool):=[(K13,true),(.bool,false)]
def Hv (c:D1)(s:D13)(b:D16):=bM ad3 F ab f207 avx amB 2 (c,s,b,())
def aor (c:D1)(s:D13)(b:D16):Hv F c s b=(ma F0 s).bind fun a=>(wJ F0 c s b).bind fun d=>br (!d.1) (some (a.1,false,())) ((cc F0 b.1).bind fun e=>some ((e.1,a.1.2),true,())):=by kernel_rfl
def Mb:Any:=.one ⟨avx,amB,2,fun x=>Hv F0 x.1 x.2.1 x.2.2.1⟩
def ZS:a8 207 Mb:=aG ad3 ⟨cD,tp,PY,trivial⟩ func207 ab (by kernel_rfl)
def PZ:=[(236,s7)]
abbrev avy:List (Ty×Bool):=[(K13,true),(K13,true)]
def sj (a b:D13):=bM PZ F ab f159 avy aI 1 (a,b,())
def ab4 (a b:D13):sj F a b=br (a.1==b.1) (br (a.2.1==b.2.1) ((u2 F0 a.2.2.1 b.2.2.1).bind fun c=>br c.1 (some (a.2.2.2.toList==b.2.2.2.toList,())) (some (false,()))) (some (false,()))) (some (false,())):=by kernel_rfl
def wK:Any:=.one ⟨avy,aI,1,fun x=>sj F0 x.1 x.2.1⟩
def M4:a8 159 wK:=aG PZ ⟨Ie,trivial⟩ func159 ab (by kernel_rfl)
def B8:=[(117,bN)]
def B9:Nat->Option Hint:=look [(4,{live:=[0,3],xl:=[0,3],rl:=[2]})]
def tB (a:Int)(b:List Int):= ei 25 [(0,a7 a),(3,.v (.c (.own 1000000 none)))] [] [aP 1000000 5 (.int .u8) b]
def M5 (a:Int)(b:List Int):= ei 25 [(0,a7 a),(3,.v (.c (.own 1000000 none)))] [] [aP 1000000 5 (.int .u8) b]
def Ca (a:St):Option U:=eo B8 F B9 [.r,.r,.r,.l,.b,.i] f200 J n a
def Ey:=jx B8 F B9 [.r,.r,.r,.l,.b] f200 uv 2
def It (a:Int)(b:List Int):Ca F J (n+1) (tB a b)=br (decide (a>127)) (ck (fA F b.length [IntKind.wrap .u8 (ak ((Int.tmod a 128)+128))].length 1) (Ca F J n (tB (ak (Int.tdiv a 128)) (b++[IntKind.wrap .u8 (ak ((Int.tmod a 128)+128))])))) (J (.exit 0) (M5 a b)):=by kernel_rfl
def Ko (a:Int)(b:List Int):Ey F (.exit 0) (M5 a b)=ck (fA F b.length [IntKind.wrap .u8 (a)].length 1) (some (b++[IntKind.wrap .u8 (a)],())):=by kernel_rfl
def dv (a:Int):=bM B8 F B9 f200 c8 uv 2 (a,())
def aid (a:Int):dv F a=(bD F0 a 0 2147483647).bind fun b=>br (!b.1) (some ([],())) (Ca F (Ey F) F.n (tB a [])):=by kernel_rfl
def e1:Any:=.one ⟨c8,uv,2,fun x=>dv F0 x.1⟩
def ih:a8 200 e1:=aG B8 ⟨cb,trivial⟩ func200 B9 (by kernel_rfl)
def Sv:=[(200,e1)]
def mb (s:ByteArray):=bM Sv F ab f201 dc uv 2 (s,())
def afh (s:ByteArray):mb F s=(dv F0 (s.size:Int)).bind fun a=>ck (decide ((s.size:Int)<=F.mem)) (ck (fA F a.1.length (bytesOf s).length 1) (some (a.1++(bytesOf s),()))):=by kernel_rfl
def p4:Any:=.one ⟨dc,uv,2,fun x=>mb F0 x.1⟩
def Ez:a8 201 p4:=aG Sv ⟨ih,trivial⟩ func201 ab (by kernel_rfl)
def wL:=[(200,e1),(201,p4),(251,fD)]
def wM:Nat->Option Hint:=look [(6,{live:=[3,5,6],xl:=[5],rl:=[4]})]
def p5 (i q:Int)(a:ByteArray)(b c:List Int):= ei 41 [cl 3,(5,.v (.c (.own 1000000 none))),(6,a7 i)] [(3,[ar q,.str a,.ro false 3 (.int .i64) b])] [aP 1000000 5 (.int .u8) c]
def Kp (a:List Int):= ei 41 [(5,.v (.c (.own 1000000 none)))] [] [aP 1000000 5 (.int .u8) a]
def wN (a:St):Option U:=eo wL F wM [.r,.r,.r,.r,.l,.r,.b,.i] f202 J n a
def A0:=jx wL F wM [.r,.r,.r,.r,.l,.r,.b] f202 uv 2
def Fc (i q:Int)(c:ByteArray)(a b:List Int):wN F J (n+1) (p5 i q c a b)=br (decide (i<(a.length:Int))) (ck (bh i (a.length:Int)) ((dv F0 (aJ a i 0)).bind fun d=>ck (fA F b.length d.1.length 1) (wN F J n (p5 (ak (i+1)) q c a (b++d.1))))) (J (.exit 0) (Kp b)):=by kernel_rfl
def XO (a:List Int):A0 F (.exit 0) (Kp a)=some (a,()):=by kernel_rfl
def p6 (c:D1)(q:D9):=bM wL F wM f202 PK uv 2 (c,q,())
def afi (c:D1)(q:D9):p6 F c q=(iV F0 c q).bind fun e=>br (!e.1) (some ([],())) ((dv F0 q.1).bind fun a=>(mb F0 q.2.1).bind fun b=>ck (fA F a.1.length b.1.length 1) ((dv F0 (q.2.2.length:Int)).bind fun d=>ck (fA F (a.1++b.1).length d.1.length 1) (wN F (A0 F) F.n (p5 0 q.1 q.2.1 q.2.2 ((a.1++b.1)++d.1))))):=by kernel_rfl
def A1:Any:=.one ⟨PK,uv,2,fun x=>p6 F0 x.1 x.2.1⟩
def P0:a8 202 A1:=aG wL ⟨ih,Ez,jB,trivial⟩ func202 wM (by kernel_rfl)
def M6:=[(177,gz),(200,e1),(201,p4),(202,A1)]
def wO (c:D1)(s:D13):=bM M6 F ab f369 adX uv 2 (c,s,())
def ZT (c:D1)(s:D13):wO F c s=(hM F0 c s).bind fun f=>br (!f.1) (some ([],())) ((dv F0 s.1).bind fun a=>(dv F0 s.2.1).bind fun b=>ck (fA F a.1.length b.1.length 1) ((p6 F0 c s.2.2.1).bind fun d=>ck (fA F (a.1++b.1).length d.1.length 1) ((mb F0 s.2.2.2).bind fun e=>ck (fA F ((a.1++b.1)++d.1).length e.1.length 1) (some (((a.1++b.1)++d.1)++e.1,()))))):=by kernel_rfl
def Iu:Any:=.one ⟨adX,uv,2,fun x=>wO F0 x.1 x.2.1⟩
def ZU:a8 369 Iu:=aG M6 ⟨kW,ih,Ez,P0,trivial⟩ func369 ab (by kernel_rfl)
def M7:=[(200,e1),(369,Iu)]
def wP (c:D1)(s:D13):=bM M7 F ab f364 adX uv 2 (c,s,())
def ZV (c:D1)(s:D13):wP F c s=(wO F0 c s).bind fun a=>br ((a.1.length:Int)==0) (some ([],())) ((dv F0 (a.1.length:Int)).bind fun b=>ck (fA F b.1.length a.1.length 1) (ck (fA F (b.1++a.1).length [10].length 1) (some ((b.1++a.1)++[10],())))):=by kernel_rfl
def Iv:Any:=.one ⟨adX,uv,2,fun x=>wP F0 x.1 x.2.1⟩
def ZW:a8 364 Iv:=aG M7 ⟨ih,ZU,trivial⟩ func364 ab (by kernel_rfl)
def Wj:=[(180,nc),(249,k9)]
abbrev aBE:List (Ty×Bool):=[(K15,true),(.sl 5 (.int .u8),false)]
def Kq (d:D15)(b:List Int):=bM Wj F ab f363 aBE [(K15,true),(.bool,false)] 2 (d,b,())
def aie (d:D15)(b:List Int):Kq F d b=(hy F0 d).bind fun a=>ck (fA F a.1.1.length b.length 1) ((lS F0 d).bind fun e=>br (!e.1) ((hy F0 d).bind fun c=>some (c.1,false,())) ((lS F0 (a.1.1++b,a.1.2)).bind fun f=>br (!f.1) ((hy F0 d).bind fun c=>some (c.1,false,())) (some ((a.1.1++b,a.1.2),true,())))):=by kernel_rfl
def P1:Any:=.one ⟨aBE,[(K15,true),(.bool,false)],2,fun x=>Kq F0 x.1 x.2.1⟩
def aif:a8 363 P1:=aG Wj ⟨wg,tv,trivial⟩ func363 ab (by kernel_rfl)
def P2:=[(159,wK),(177,gz),(247,k8),(363,P1),(364,Iv)]
def dV (c:D1)(r:bL)(s:D13):Option (bL×Bool×bL):=akK Tryz.prog (look P2) F ab f358 [(K1,true),(cC,true),(K13,true)] 1 (cC,true) (.bool,false) (cC,true) (c,r,s,())
def ab5 (c:D1)(r:bL)(s:D13):dV F c r s=(sj F0 r.2.2.2.1 s).bind fun b=>br b.1 (some (r,true,cC.aw)) ((wP F0 c s).bind fun d=>(Kq F0 r.2.2.2.2.2.2.1 d.1).bind fun a=>br (!a.2.1) (some (cC.aw,false,r)) ((hM F0 c s).bind fun e=>br (!e.1) (some (cC.aw,false,r)) ((ma F0 s).bind fun f=>some ((r.1,r.2.1,r.2.2.1,f.1,r.2.2.2.2.1,r.2.2.2.2.2.1,a.1,r.2.2.2.2.2.2.2),true,cC.aw)))):=by kernel_rfl
def oo:Any:=.sel ⟨[(K1,true),(cC,true),(K13,true)],1,(cC,true),(.bool,false),(cC,true),fun x=>dV F0 x.1 x.2.1 x.2.2.1⟩
def A2:a8 358 oo:=ok4 (show vD Tryz.prog TB P2 from⟨M4,kW,tp,aif,ZW,trivial⟩) func358 (by kernel_rfl) (by kernel_rfl) ab (by kernel_rfl) (by kernel_rfl)
def la:=[(120,mV)]
def lb:Nat->Option Hint:=look [(3,{live:=[0,1,5,6],xl:=[1,5],rl:=[4]}),(7,{live:=[1,5,7],xl:=[5],rl:=[4]})]
def p7 (b:List Int)(i:Int)(a:List Int):= ei 34 [(1,mU 3 (.int .i64) b),(5,.v (.c (.own 1000000 none))),(7,a7 i)] [] [aP 1000000 3 (.int .i64) a]
def Kr (a:List Int):= ei 34 [(5,.v (.c (.own 1000000 none)))] [] [aP 1000000 3 (.int .i64) a]
def wQ (a:St):Option U:=eo la F lb [.r,.r,.r,.l,.r,.b,.i] f297 J n a
def A3:=jx la F lb [.r,.r,.r,.l,.r,.b] f297 pP 2
def p8 (a b:List Int)(i:Int)(c:List Int):= ei 34 [(0,mU 3 (.int .i64) a),(1,mU 3 (.int .i64) b),(5,.v (.c (.own 1000000 none))),(6,a7 i)] [] [aP 1000000 3 (.int .i64) c]
def Ks (b a:List Int):= ei 34 [(1,mU 3 (.int .i64) b),(5,.v (.c (.own 1000000 none)))] [] [aP 1000000 3 (.int .i64) a]
def wR (a:St):Option U:=eo la F lb [.r,.r,.l,.r,.b,.i] f297 J n a
def A4:=jx la F lb [.r,.r,.l,.r,.b] f297 pP 2
def Fe (b:List Int)(i:Int)(a:List Int):wQ F J (n+1) (p7 b i a)=br (decide (i<(b.length:Int))) (ck (bh i (b.length:Int)) ((lQ F0 a (aJ b i 0)).bind fun c=>wQ F J n (p7 b (ak (i+1)) c.1))) (J (.exit 2) (Kr a)):=by kernel_rfl
def Ff (a b:List Int)(i:Int)(c:List Int):wR F J (n+1) (p8 a b i c)=br (decide (i<(a.length:Int))) (ck (bh i (a.length:Int)) ((lQ F0 c (aJ a i 0)).bind fun d=>wR F J n (p8 a b (ak (i+1)) d.1))) (J (.exit 0) (Ks b c)):=by kernel_rfl
def XP (a:List Int):A3 F (.exit 2) (Kr a)=some (a,()):=by kernel_rfl
def XQ (b a:List Int):A4 F (.exit 0) (Ks b a)=wQ F (A3 F) F.n (p7 b 0 a):=by kernel_rfl
def GD (a b:List Int):=bM la F lb f297 adY pP 2 (a,b,())
def afj (a b:List Int):GD F a b=wR F (A4 F) F.n (p8 a b 0 []):=by kernel_rfl
def M8:Any:=.one ⟨adY,pP,2,fun x=>GD F0 x.1 x.2.1⟩
def afk:a8 297 M8:=aG la ⟨vG,trivial⟩ func297 lb (by kernel_rfl)
def P3:=[(297,M8)]
abbrev avz:List (Ty×Bool):=[(K9,true),(.bool,false)]
def Cb (a b:D9):=bM P3 F ab f263 E3 avz 2 (a,b,())
def ab6 (a b:D9):Cb F a b=br (a.1 != b.1) (some ((0,ai,[]),false,())) (br (!(a.2.1.toList==b.2.1.toList)) (some ((0,ai,[]),false,())) ((GD F0 a.2.2 b.2.2).bind fun c=>some ((a.1,a.2.1,c.1),true,()))):=by kernel_rfl
def Kt:Any:=.one ⟨E3,avz,2,fun x=>Cb F0 x.1 x.2.1⟩
def ab7:a8 263 Kt:=aG P3 ⟨afk,trivial⟩ func263 ab (by kernel_rfl)
end
end Go.Am.Tryz
namespace Go.Am.Tryz
open Go.Am Go.Proofs Go.Proofs.Tryz
noncomputable section
variable {U:Type} (F:nP) (J:Ex->St->Option U) (n:Nat)
def tC:=[(179,AN),(248,wE),(254,na),(255,uy),(262,hU),(263,Kt)]
def tD:Nat->Option Hint:=look [(4,{live:=[1,3,5,8,9,10],xl:=[1,3,5,8,9],rl:=[6,7]})]
def eK (e:List D9)(put:Bool)(i c a p:Int)(b:ByteArray)(d:List Int)(f:List D9):= ei 74 [(1,mU 29 (K9) e),cl 3,cl 5,(8,.v (.c (.own 1000000 none))),(9,vE put),(10,a7 i)] [(3,[ar c,ar a]),(5,[ar p,.str b,.ro false 3 (.int .i64) d])] [aP 1000000 29 K9 f]
def Iw (e:List D9)(put:Bool)(c a p:Int)(b:ByteArray)(d:List Int)(f:List D9):= ei 74 [(1,mU 29 (K9) e),cl 3,cl 5,(8,.v (.c (.own 1000000 none))),(9,vE put)] [(3,[ar c,ar a]),(5,[ar p,.str b,.ro false 3 (.int .i64) d])] [aP 1000000 29 K9 f]
def gD (a:St):Option U:=eo tC F tD [.r,.r,.r,.l,.r,.b,.i] f194 J n a
abbrev ayu:List (Ty×Bool):=[(K14,false),(.bool,false)]
def wS:=jx tC F tD [.r,.r,.r,.l,.r,.b] f194 ayu 2
def jG (e:List D9)(put:Bool)(i c g p:Int)(b:ByteArray)(d:List Int)(a:List D9):gD F J (n+1) (eK e put i c g p b d a)=br (decide (i<(e.length:Int))) (ck (bh i (e.length:Int)) ((fE F0 (aJ e i K9.aw)).bind fun f=>br (!put) ((o3 F0 f.1 (p,b,d)).bind fun k=>br (!k.1) ((Cb F0 f.1 (p,b,d)).bind fun h=>br h.2.1 (ck (fA F a.length [h.1].length 48) (gD F J n (eK e true (ak (i+1)) c g p b d (a++[h.1])))) ((fE F0 (p,b,d)).bind fun j=>ck (fA F a.length [j.1].length 48) (ck (fA F (a++[j.1]).length [f.1].length 48) (gD F J n (eK e true (ak (i+1)) c g p b d ((a++[j.1])++[f.1])))))) (ck (fA F a.length [f.1].length 48) (gD F J n (eK e put (ak (i+1)) c g p b d (a++[f.1]))))) (ck (fA F a.length [f.1].length 48) (gD F J n (eK e put (ak (i+1)) c g p b d (a++[f.1])))))) (J (.exit 0) (Iw e put c g p b d a)):=by kernel_rfl
def Fg (e:List D9)(put:Bool)(c d p:Int)(f:ByteArray)(g:List Int)(b:List D9):wS F (.exit 0) (Iw e put c d p f g b)=br (!put) ((fE F0 (p,f,g)).bind fun h=>ck (fA F b.length [h.1].length 48) ((l6 F0 (c,d) (b++[h.1])).bind fun i=>br (!i.1) ((fF F0 e).bind fun a=>some (a.1,false,())) ((jC F0 (c,d) (p,f,g)).bind fun j=>br (!j.1) ((fF F0 e).bind fun a=>some (a.1,false,())) (some (b++[h.1],true,()))))) ((l6 F0 (c,d) b).bind fun i=>br (!i.1) ((fF F0 e).bind fun a=>some (a.1,false,())) ((jC F0 (c,d) (p,f,g)).bind fun j=>br (!j.1) ((fF F0 e).bind fun a=>some (a.1,false,())) (some (b,true,())))):=by kernel_rfl
abbrev aBF:List (Ty×Bool):=[(K1,true),(K14,false),(K9,true)]
def dW (c:D1)(a:D14)(p:D9):=bM tC F tD f194 aBF ayu 2 (c,a,p,())
def ab8 (c:D1)(a:D14)(p:D9):dW F c a p=gD F (wS F) F.n (eK a false 0 c.1 c.2 p.1 p.2.1 p.2.2 []):=by kernel_rfl
def gn:Any:=.one ⟨aBF,ayu,2,fun x=>dW F0 x.1 x.2.1 x.2.2.1⟩
def ld:a8 194 gn:=aG tC ⟨PL,MZ,wa,J6,ng,ab7,trivial⟩ func194 tD (by kernel_rfl)
def Wk:=[(251,fD)]
def Dn (c:D1)(p:D9):=bM Wk F ab f370 PK avz 2 (c,p,())
def aih (c:D1)(p:D9):Dn F c p=ck (fA F 0 p.2.2.length 8) (br (p.2.1.toList==ai.toList) (some ((0,ai,[]),false,())) ((iV F0 c (p.1,p.2.1,[]++p.2.2)).bind fun a=>br (!a.1) (some ((0,ai,[]),false,())) (some ((p.1,p.2.1,[]++p.2.2),true,())))):=by kernel_rfl
def P4:Any:=.one ⟨PK,avz,2,fun x=>Dn F0 x.1 x.2.1⟩
def aii:a8 370 P4:=aG Wk ⟨jB,trivial⟩ func370 ab (by kernel_rfl)
def Sw:=[(117,bN),(181,ie),(294,AX)]
abbrev aBG:List (Ty×Bool):=[(K1,true),(cC,true),(.int .i64,false),(K22,true)]
def eL (c:D1)(r:bL)(a:Int)(m:Zq):=fR Sw F ab f347 aBG 1 (.own true) wq [] 2 (c,r,a,m,())
def afl (c:D1)(r:bL)(a:Int)(m:Zq):eL F c r a m=br (decide ((r.2.2.2.2.2.2.2.length:Int)>=30)) (some ((r,false,()),())) ((eH F0 c m).bind fun d=>br (!d.1) (some ((r,false,()),())) ((bD F0 a 0 (ak (c.1-1))).bind fun e=>br (!e.1) (some ((r,false,()),())) (br (a==r.1) (some ((r,false,()),())) ((wF F0 m).bind fun b=>ck (fA F r.2.2.2.2.2.2.2.length [(a,b.1)].length 224) (some (((r.1,r.2.1,r.2.2.1,r.2.2.2.1,r.2.2.2.2.1,r.2.2.2.2.2.1,r.2.2.2.2.2.2.1,r.2.2.2.2.2.2.2++[(a,b.1)]),true,()),())))))):=by kernel_rfl
def lg:Any:=.two ⟨aBG,1,(.own true),wq,2,[],fun x=>eL F0 x.1 x.2.1 x.2.2.1 x.2.2.2.1⟩
def tE:a8 347 lg:=atc Sw ⟨cb,nE,PW,trivial⟩ func347 ab (by kernel_rfl)
def Wl:=[(189,eG),(206,wI),(301,hN),(347,lg),(358,oo),(370,P4)]
abbrev avA:List (Ty×Bool):=[(K1,true),(cC,true),(K9,true)]
def Ku (c:D1)(r:bL)(p:D9):=fR Wl F ab f365 avA 1 (.own true) wq [] 2 (c,r,p,())
def aij (c:D1)(r:bL)(p:D9):Ku F c r p=(Dn F0 c p).bind fun b=>br (!b.2.1) (some ((r,false,()),())) ((Is F0 c r.2.2.2.1 b.1).bind fun f=>(dV F0 c r f.1).bind fun a=>br a.2.1 (br (decide ((ak (p.1+1))>60)) (some ((a.1,true,()),())) ((c9 F0 a.1.2.1 (ak (p.1+1))).bind fun d=>(k6 F0 c (ak (p.1+1))).bind fun g=>br (g.1==r.1) (some (((a.1.1,d.1,a.1.2.2),true,()),())) ((k6 F0 c (ak (p.1+1))).bind fun h=>(eL F0 c (a.1.1,d.1,a.1.2.2) h.1 (3,ak (p.1+1),(ai,0,ai,[]),(0,ai,[]),b.1,r.1,0,0,0,0)).bind fun e=>some ((e.1.1,e.1.2.1,()),())))) (some (((r.1,r.2.1,r.2.2.1,(r.2.2.2.1.1,r.2.2.2.1.2.1,(r.2.2.2.1.2.2.1.1,r.2.2.2.1.2.2.1.2.1,a.2.2.2.2.2.1.2.2.1.2.2),r.2.2.2.1.2.2.2),a.2.2.2.2.2.2.1,a.2.2.2.2.2.2.2.1,(a.2.2.2.2.2.2.2.2.1.1,r.2.2.2.2.2.2.1.2),a.2.2.2.2.2.2.2.2.2),false,()),()))):=by kernel_rfl
def P5:Any:=.two ⟨avA,1,(.own true),wq,2,[],fun x=>Ku F0 x.1 x.2.1 x.2.2.1⟩
def aik:a8 365 P5:=atc Wl ⟨hL,Kn,l9,tE,A2,aii,trivial⟩ func365 ab (by kernel_rfl)
def ad4:=[(101,b5),(117,bN)]
abbrev ak9:List (Ty×Bool):=[(K1,true),(.int .i64,false),(.int .i64,false)]
def Hw (c:D1)(a i:Int):=bM ad4 F ab f371 ak9 c8 1 (c,a,i,())
def aos (c:D1)(a i:Int):Hw F c a i=(dr F0 c).bind fun b=>br (!b.1) (some (-1,())) (br (decide (a<0)) (some (-1,())) ((bD F0 i 0 (ak (c.1-1))).bind fun d=>br (!d.1) (some (-1,())) (ck (!(c.1==0)) (ck (!(c.1==0)) (some (Int.tmod (ak ((ak (i+c.1))-(Int.tmod a c.1))) c.1,())))))):=by kernel_rfl
def Cc:Any:=.one ⟨ak9,c8,1,fun x=>Hw F0 x.1 x.2.1 x.2.2.1⟩
def OD:a8 371 Cc:=aG ad4 ⟨cU,cb,trivial⟩ func371 ab (by kernel_rfl)
def ad5:=[(101,b5),(117,bN)]
def Uu (c:D1)(b a:Int):=bM ad5 F ab f374 ak9 c8 1 (c,b,a,())
def aot (c:D1)(b a:Int):Uu F c b a=(dr F0 c).bind fun d=>br (!d.1) (some (-1,())) (br (decide (b<0)) (some (-1,())) ((bD F0 a 0 (ak (c.1-1))).bind fun e=>br (!e.1) (some (-1,())) (ck (!(c.1==0)) (ck (!(c.1==0)) (some (Int.tmod (ak ((Int.tmod b c.1)+a)) c.1,())))))):=by kernel_rfl
def Wm:Any:=.one ⟨ak9,c8,1,fun x=>Uu F0 x.1 x.2.1 x.2.2.1⟩
def aou:a8 374 Wm:=aG ad5 ⟨cU,cb,trivial⟩ func374 ab (by kernel_rfl)
def amC:=[(371,Cc),(374,Wm)]
def Uv (c:D1)(a i:Int):=bM amC F ab f368 ak9 c8 1 (c,a,i,())
def atd (c:D1)(a i:Int):Uv F c a i=(Hw F0 c a i).bind fun b=>br (decide (b.1<=0)) (some (-1,())) (ck (!(c.2==0)) ((Uu F0 c a (ak (Int.tdiv (ak (b.1-1)) c.2))).bind fun d=>some (d.1,()))):=by kernel_rfl
def Sx:Any:=.one ⟨ak9,c8,1,fun x=>Uv F0 x.1 x.2.1 x.2.2.1⟩
def ail:a8 368 Sx:=aG amC ⟨OD,aou,trivial⟩ func368 ab (by kernel_rfl)
def OE:=[(368,Sx),(371,Cc)]
def OF:Nat->Option Hint:=look [(2,{live:=[1,2,3,7],xl:=[7],rl:=[6]})]
def GF (b i c a:Int)(d:List Int):= ei 23 [(1,a7 b),(2,a7 i),cl 3,(7,.v (.c (.own 1000000 none)))] [(3,[ar c,ar a])] [aP 1000000 3 (.int .i64) d]
def Mc (a:List Int):= ei 23 [(7,.v (.c (.own 1000000 none)))] [] [aP 1000000 3 (.int .i64) a]
def OG (a:St):Option U:=eo OE F OF [.r,.r,.l,.b,.i] f372 J n a
def ZX:=jx OE F OF [.r,.r,.l,.b] f372 pP 2
def P6 (b i c a:Int)(d:List Int):OG F J (n+1) (GF b i c a d)=(Hw F0 (c,a) b i).bind fun e=>br (decide (e.1>=0)) (ck (fA F d.length [i].length 8) ((Uv F0 (c,a) b i).bind fun f=>OG F J n (GF b f.1 c a (d++[i])))) (J (.exit 0) (Mc d)):=by kernel_rfl
def aim (a:List Int):ZX F (.exit 0) (Mc a)=some (a,()):=by kernel_rfl
def ZY (c:D1)(a i:Int):=bM OE F OF f372 ak9 pP 2 (c,a,i,())
def aqx (c:D1)(a i:Int):ZY F c a i=OG F (ZX F) F.n (GF a i c.1 c.2 []):=by kernel_rfl
def ZZ:Any:=.one ⟨ak9,pP,2,fun x=>ZY F0 x.1 x.2.1 x.2.2.1⟩
def aqy:a8 372 ZZ:=aG OE ⟨ail,OD,trivial⟩ func372 OF (by kernel_rfl)
def GG:=[(83,b4),(101,b5),(371,Cc),(372,ZZ)]
def GH:Nat->Option Hint:=look [(5,{live:=[1,2,3,7,8],xl:=[7],rl:=[6]})]
def pa (b i k c a:Int)(d:List Int):= ei 38 [(1,a7 b),(2,a7 i),cl 3,(7,.v (.c (.own 1000000 none))),(8,a7 k)] [(3,[ar c,ar a])] [aP 1000000 3 (.int .i64) d]
def EA (a:List Int):= ei 38 [(7,.v (.c (.own 1000000 none)))] [] [aP 1000000 3 (.int .i64) a]
def wT (a:St):Option U:=eo GG F GH [.r,.r,.r,.l,.r,.b,.i] f366 J n a
def Ix:=jx GG F GH [.r,.r,.r,.l,.r,.b] f366 pP 2
def wU (d i k c b:Int)(a:List Int):wT F J (n+1) (pa d i k c b a)=br (decide (k<c)) ((Hw F0 (c,b) d i).bind fun e=>br (decide (e.1>=0)) ((ZY F0 (c,b) d k).bind fun f=>(cv F0 f.1 i).bind fun g=>br g.1 (ck (fA F a.length [k].length 8) (wT F J n (pa d i (ak (k+1)) c b (a++[k])))) (wT F J n (pa d i (ak (k+1)) c b a))) (J (.exit 0) (EA a))) (J (.exit 0) (EA a)):=by kernel_rfl
def M9 (a:List Int):Ix F (.exit 0) (EA a)=some (a,()):=by kernel_rfl
def OH (c:D1)(a i:Int):=bM GG F GH f366 ak9 pP 2 (c,a,i,())
def ala (c:D1)(a i:Int):OH F c a i=(dr F0 c).bind fun b=>br (!b.1) (some ([],())) (wT F (Ix F) F.n (pa a i 0 c.1 c.2 [])):=by kernel_rfl
def Sy:Any:=.one ⟨ak9,pP,2,fun x=>OH F0 x.1 x.2.1 x.2.2.1⟩
def alb:a8 366 Sy:=aG GG ⟨cT,cU,OD,aqy,trivial⟩ func366 GH (by kernel_rfl)
def XR (a:Bool):=bM ax F ab f373 aI c8 1 (a,())
def alc (a:Bool):XR F a=br a (some (1,())) (some (0,())):=by kernel_rfl
def Sz:Any:=.one ⟨aI,c8,1,fun x=>XR F0 x.1⟩
def ald:a8 373 Sz:=aG ax trivial func373 ab (by kernel_rfl)
def Cd:=[(83,b4),(373,Sz)]
def Ce:Nat->Option Hint:=look [(3,{live:=[0,1,5,6],xl:=[5],rl:=[4]})]
def tF (a b:List Int)(c i:Int):= bk 23 [(0,mU 3 (.int .i64) a),(1,mU 3 (.int .i64) b),(5,a7 c),(6,a7 i)]
def Na (a:Int):= bk 23 [(5,a7 a)]
def Cf (a:St):Option U:=eo Cd F Ce [.r,.r,.l,.r,.b,.i] f367 J n a
def EB:=jx Cd F Ce [.r,.r,.l,.r,.b] f367 c8 1
def Iy (a b:List Int)(c i:Int):Cf F J (n+1) (tF a b c i)=br (decide (i<(a.length:Int))) (ck (bh i (a.length:Int)) ((cv F0 b (aJ a i 0)).bind fun d=>(XR F0 d.1).bind fun e=>Cf F J n (tF a b (ak (c+e.1)) (ak (i+1))))) (J (.exit 0) (Na c)):=by kernel_rfl
def Z0 (a:Int):EB F (.exit 0) (Na a)=some (a,()):=by kernel_rfl
def Kv (a b:List Int):=bM Cd F Ce f367 adY c8 1 (a,b,())
def ain (a b:List Int):Kv F a b=Cf F (EB F) F.n (tF a b 0 0):=by kernel_rfl
def P7:Any:=.one ⟨adY,c8,1,fun x=>Kv F0 x.1 x.2.1⟩
def aio:a8 367 P7:=aG Cd ⟨cT,ald,trivial⟩ func367 Ce (by kernel_rfl)
def P8:=[(301,hN),(302,oc),(347,lg),(365,P5),(366,Sy),(367,P7),(368,Sx)]
abbrev avB:List (Ty×Bool):=[(K1,true),(cC,true),(.int .i64,false),(.str,false),(.bool,false)]
def nI (c:D1)(r:bL)(a:Int)(name:ByteArray)(b:Bool):=fR P8 F ab f361 avB 1 (.own true) wq [] 2 (c,r,a,name,b,())
def ab9 (c:D1)(r:bL)(a:Int)(name:ByteArray)(h:Bool):nI F c r a name h=(nF F0 r.2.2.2.2.2.1 a name).bind fun b=>br ((b.1.2.2.length:Int)==0) (some ((r,false,()),())) (br (name.toList==ai.toList) (some ((r,false,()),())) ((k6 F0 c a).bind fun i=>br (i.1==r.1) ((Ku F0 c r b.1).bind fun f=>some ((f.1.1,f.1.2.1,()),())) ((OH F0 c a r.1).bind fun g=>br (!h) ((Kv F0 g.1 b.1.2.2).bind fun j=>br (decide (j.1<(g.1.length:Int))) (some ((r,false,()),())) ((Uv F0 c a r.1).bind fun e=>(eL F0 c r e.1 (2,0,(ai,0,ai,[]),b.1,(0,ai,[]),0,0,0,0,0)).bind fun d=>some ((d.1.1,d.1.2.1,()),()))) ((Uv F0 c a r.1).bind fun e=>(eL F0 c r e.1 (2,0,(ai,0,ai,[]),b.1,(0,ai,[]),0,0,0,0,0)).bind fun d=>some ((d.1.1,d.1.2.1,()),()))))):=by kernel_rfl
def oq:Any:=.two ⟨avB,1,(.own true),wq,2,[],fun x=>nI F0 x.1 x.2.1 x.2.2.1 x.2.2.2.1 x.2.2.2.2.1⟩
def A5:a8 361 oq:=atc P8 ⟨l9,AU,tE,aik,alb,aio,ail,trivial⟩ func361 ab (by kernel_rfl)
def Wn:=[(119,bV),(176,bI),(194,gn),(361,oq)]
abbrev aBH:List (Ty×Bool):=[(K1,true),(cC,true),(.str,false)]
def lT (c:D1)(r:bL)(name:ByteArray):=fR Wn F ab f359 aBH 1 (.own true) wq [] 2 (c,r,name,())
def aip (c:D1)(r:bL)(name:ByteArray):lT F c r name=(cc F0 name).bind fun d=>(dW F0 c r.2.2.2.2.2.1 (d.1,name,[r.1])).bind fun a=>br (!a.2.1) (some ((r,false,()),())) ((aV F0 (r.1,r.2.1,r.2.2.1,r.2.2.2.1,r.2.2.2.2.1,a.1,r.2.2.2.2.2.2)).bind fun e=>(cc F0 name).bind fun f=>(nI F0 c e.1 f.1 name false).bind fun b=>br b.1.2.1 (some ((b.1.1,true,()),())) (some (((r.1,r.2.1,r.2.2.1,r.2.2.2.1,r.2.2.2.2.1,a.1,r.2.2.2.2.2.2),true,()),()))):=by kernel_rfl
def P9:Any:=.two ⟨aBH,1,(.own true),wq,2,[],fun x=>lT F0 x.1 x.2.1 x.2.2.1⟩
def aiq:a8 359 P9:=atc Wn ⟨cD,bW,ld,A5,trivial⟩ func359 ab (by kernel_rfl)
def Nb:=[(115,bP),(119,bV),(176,bI),(206,wI),(207,Mb),(257,kZ),(272,AZ),(358,oo),(359,P9)]
abbrev aBI:List (Ty×Bool):=[(K1,true),(cC,true),(K16,true)]
def pb (c:D1)(r:bL)(b:D16):=bM Nb F ab f344 aBI wq 2 (c,r,b,())
def Z1 (c:D1)(r:bL)(b:D16):pb F c r b=(aV F0 r).bind fun d=>(cR F0 c r).bind fun k=>br (!k.1) (some (d.1,false,())) ((l7 F0 c b).bind fun l=>br (!l.1) (some (d.1,false,())) ((aV F0 r).bind fun f=>(Is F0 c r.2.2.2.1 b.2).bind fun g=>(cc F0 b.1).bind fun h=>br (decide (h.1>=r.2.1)) ((wJ F0 c g.1 b).bind fun i=>br (decide (h.1>=r.2.1)) (br i.1 ((Hv F0 c g.1 b).bind fun j=>(dV F0 c (f.1.1,h.1,f.1.2.2) j.1).bind fun a=>br a.2.1 (br i.1 ((lT F0 c a.1 b.1).bind fun e=>br (!e.1.2.1) (some (d.1,false,())) (some (e.1.1,true,()))) (some (a.1,true,()))) (some (d.1,false,()))) ((dV F0 c (f.1.1,h.1,f.1.2.2) g.1).bind fun a=>br a.2.1 (br i.1 ((lT F0 c a.1 b.1).bind fun e=>br (!e.1.2.1) (some (d.1,false,())) (some (e.1.1,true,()))) (some (a.1,true,()))) (some (d.1,false,())))) (br i.1 ((Hv F0 c g.1 b).bind fun j=>(dV F0 c f.1 j.1).bind fun a=>br a.2.1 (br i.1 ((lT F0 c a.1 b.1).bind fun e=>br (!e.1.2.1) (some (d.1,false,())) (some (e.1.1,true,()))) (some (a.1,true,()))) (some (d.1,false,()))) ((dV F0 c f.1 g.1).bind fun a=>br a.2.1 (br i.1 ((lT F0 c a.1 b.1).bind fun e=>br (!e.1.2.1) (some (d.1,false,())) (some (e.1.1,true,()))) (some (a.1,true,()))) (some (d.1,false,()))))) (br (decide (h.1>=r.2.1)) ((dV F0 c (f.1.1,h.1,f.1.2.2) g.1).bind fun a=>br a.2.1 (some (a.1,true,())) (some (d.1,false,()))) ((dV F0 c f.1 g.1).bind fun a=>br a.2.1 (some (a.1,true,())) (some (d.1,false,())))))):=by kernel_rfl
def uB:Any:=.one ⟨aBI,wq,2,fun x=>pb F0 x.1 x.2.1 x.2.2.1⟩
def Kw:a8 344 uB:=aG Nb ⟨cm,cD,bW,Kn,ZS,s8,PY,A2,aiq,trivial⟩ func344 ab (by kernel_rfl)
def Qa:=[(115,bP),(176,bI),(194,gn),(254,na),(361,oq)]
def Cg (c:D1)(r:bL)(p:D9):=bM Qa F ab f355 avA wq 2 (c,r,p,())
def aca (c:D1)(r:bL)(p:D9):Cg F c r p=(aV F0 r).bind fun b=>(cR F0 c r).bind fun f=>br (!f.1) (some (b.1,false,())) ((jC F0 c p).bind fun g=>br (!g.1) (some (b.1,false,())) (br (p.2.1.toList==ai.toList) (some (b.1,false,())) (br (decide (p.1<r.2.1)) (some (b.1,false,())) ((aV F0 r).bind fun a=>(dW F0 c r.2.2.2.2.2.1 p).bind fun d=>br (!d.2.1) (some (b.1,false,())) ((aV F0 (a.1.1,a.1.2.1,a.1.2.2.1,a.1.2.2.2.1,a.1.2.2.2.2.1,d.1,a.1.2.2.2.2.2.2)).bind fun h=>(nI F0 c h.1 p.1 p.2.1 false).bind fun e=>br e.1.2.1 (some (e.1.1,true,())) (some ((a.1.1,a.1.2.1,a.1.2.2.1,a.1.2.2.2.1,a.1.2.2.2.2.1,d.1,a.1.2.2.2.2.2.2),true,()))))))):=by kernel_rfl
def Kx:Any:=.one ⟨avA,wq,2,fun x=>Cg F0 x.1 x.2.1 x.2.2.1⟩
def acb:a8 355 Kx:=aG Qa ⟨cm,bW,ld,wa,A5,trivial⟩ func355 ab (by kernel_rfl)
def Qb:=[(115,bP),(117,bN),(176,bI),(189,eG),(194,gn),(206,wI),(251,fD),(267,ig),(295,s3),(301,hN),(302,oc),(358,oo)]
abbrev aBJ:List (Ty×Bool):=[(K1,true),(cC,true),(.int .i64,false),(K9,true),(.int .i64,false)]
def Ch (c:D1)(r:bL)(a:Int)(q:D9)(dE:Int):=bM Qb F ab f356 aBJ wq 2 (c,r,a,q,dE,())
def acd (c:D1)(r:bL)(e:Int)(q:D9)(dE:Int):Ch F c r e q dE=(aV F0 r).bind fun f=>(cR F0 c r).bind fun h=>br (!h.1) (some (f.1,false,())) ((bD F0 e 1 60).bind fun i=>br (!i.1) (some (f.1,false,())) ((iV F0 c q).bind fun j=>br (!j.1) (some (f.1,false,())) ((bD F0 dE 0 (ak (c.1-1))).bind fun k=>br (!k.1) (some (f.1,false,())) ((aV F0 r).bind fun l=>(Is F0 c r.2.2.2.1 q).bind fun m=>(dV F0 c l.1 m.1).bind fun a=>br a.2.1 ((k6 F0 c e).bind fun o=>br (o.1==r.1) (br (decide (e>=r.2.1)) ((dW F0 c a.1.2.2.2.2.2.1 (e,ai,[dE])).bind fun g=>br (!g.2.1) (some (f.1,false,())) ((nF F0 g.1 e ai).bind fun p=>(u1 F0 c).bind fun s=>br (decide ((p.1.2.2.length:Int)>=s.1)) ((c9 F0 a.1.2.1 e).bind fun t=>(bA F0 (ak (q.1+1)) 60).bind fun b=>(c9 F0 t.1 b.1).bind fun d=>some ((a.1.1,d.1,a.1.2.2.1,a.1.2.2.2.1,a.1.2.2.2.2.1,g.1,a.1.2.2.2.2.2.2),true,())) ((bA F0 (ak (q.1+1)) 60).bind fun b=>(c9 F0 a.1.2.1 b.1).bind fun d=>some ((a.1.1,d.1,a.1.2.2.1,a.1.2.2.2.1,a.1.2.2.2.2.1,g.1,a.1.2.2.2.2.2.2),true,())))) ((bA F0 (ak (q.1+1)) 60).bind fun b=>(c9 F0 a.1.2.1 b.1).bind fun d=>some ((a.1.1,d.1,a.1.2.2),true,()))) ((bA F0 (ak (q.1+1)) 60).bind fun b=>(c9 F0 a.1.2.1 b.1).bind fun d=>some ((a.1.1,d.1,a.1.2.2),true,()))) (some (f.1,false,())))))):=by kernel_rfl
def Ky:Any:=.one ⟨aBJ,wq,2,fun x=>Ch F0 x.1 x.2.1 x.2.2.1 x.2.2.2.1 x.2.2.2.2.1⟩
def ace:a8 356 Ky:=aG Qb ⟨cm,cb,bW,hL,ld,Kn,jB,nH,Ia,l9,AU,A2,trivial⟩ func356 ab (by kernel_rfl)
def wV:=[(178,Er),(253,v8)]
def wW:Nat->Option Hint:=look [(2,{live:=[0,3,6],xl:=[0,3,6],rl:=[4,5]})]
def p9 (p:List D4)(a x b c d:Int):= ei 43 [(0,mU 99 (K4) p),cl 3,(6,a7 a)] [(3,[ar x,ar b,ar c,ar d])] []
def ot (p:List D4)(a x b c d:Int):= ei 43 [(0,mU 99 (K4) p),cl 3,(6,a7 a)] [(3,[ar x,ar b,ar c,ar d])] []
def wX (a:St):Option U:=eo wV F wW [.r,.r,.l,.b,.i] f193 J n a
def qc:=jx wV F wW [.r,.r,.l,.b] f193 Zz 2
def Fh (p:List D4)(a x b c d:Int):wX F J (n+1) (p9 p a x b c d)=br (decide (a<(p.length:Int))) (ck (bh a (p.length:Int)) ((sd F0 (aJ p a K4.aw) (x,b,c,d)).bind fun e=>br e.1 (wX F J n (p9 p (ak (a+1)) x b c d)) (J (.exit 0) (ot p a x b c d)))) (J (.exit 0) (ot p a x b c d)):=by kernel_rfl
def XS (p:List D4)(a x b c d:Int):qc F (.exit 0) (ot p a x b c d)=ck (Oy 0 a (p.length:Int)) (ck (fA F 0 ((p.take a.toNat).drop (0:Int).toNat).length 32) (ck (fA F ([]++((p.take a.toNat).drop (0:Int).toNat)).length [(x,b,c,d)].length 32) (ck (Oy a (p.length:Int) (p.length:Int)) (ck (fA F (([]++((p.take a.toNat).drop (0:Int).toNat))++[(x,b,c,d)]).length ((p.take (p.length:Int).toNat).drop a.toNat).length 32) ((Db F0 ((([]++((p.take a.toNat).drop (0:Int).toNat))++[(x,b,c,d)])++((p.take (p.length:Int).toNat).drop a.toNat))).bind fun e=>br (!e.1) (ck (fA F 0 p.length 32) (some ([]++p,false,()))) (some ((([]++((p.take a.toNat).drop (0:Int).toNat))++[(x,b,c,d)])++((p.take (p.length:Int).toNat).drop a.toNat),true,()))))))):=by kernel_rfl
def qJ (p:D5)(x:D4):=bM wV F wW f193 [(K5,false),(K4,true)] Zz 2 (p,x,())
def afm (p:D5)(x:D4):qJ F p x=wX F (qc F) F.n (p9 p 0 x.1 x.2.1 x.2.2.1 x.2.2.2):=by kernel_rfl
def qU:Any:=.one ⟨[(K5,false),(K4,true)],Zz,2,fun x=>qJ F0 x.1 x.2.1⟩
def EC:a8 193 qU:=aG wV ⟨R7,MM,trivial⟩ func193 wW (by kernel_rfl)
def Wo:=[(115,bP),(176,bI),(193,qU)]
abbrev aBK:List (Ty×Bool):=[(K1,true),(cC,true),(K4,true)]
def Kz (c:D1)(r:bL)(x:D4):=bM Wo F ab f357 aBK wq 2 (c,r,x,())
def air (c:D1)(r:bL)(x:D4):Kz F c r x=(aV F0 r).bind fun a=>(cR F0 c r).bind fun d=>br (!d.1) (some (a.1,false,())) ((qJ F0 r.2.2.2.2.1 x).bind fun b=>br b.2.1 (some ((a.1.1,a.1.2.1,a.1.2.2.1,a.1.2.2.2.1,b.1,a.1.2.2.2.2.2),b.2.1,())) (some (a.1,b.2.1,()))):=by kernel_rfl
def Qc:Any:=.one ⟨aBK,wq,2,fun x=>Kz F0 x.1 x.2.1 x.2.2.1⟩
def ais:a8 357 Qc:=aG Wo ⟨cm,bW,EC,trivial⟩ func357 ab (by kernel_rfl)
def SA:=[(344,uB),(355,Kx),(356,Ky),(357,Qc)]
abbrev amD:List (Ty×Bool):=[(K1,true),(cC,true),(K22,true)]
def GI (c:D1)(r:bL)(m:Zq):=bM SA F ab f339 amD wq 2 (c,r,m,())
def afn (c:D1)(r:bL)(m:Zq):GI F c r m=br (m.1==1) ((pb F0 c r m.2.2.1).bind fun a=>some (a.1,a.2.1,())) (br (m.1==2) ((Cg F0 c r m.2.2.2.1).bind fun b=>some (b.1,b.2.1,())) (br (m.1==3) ((Ch F0 c r m.2.1 m.2.2.2.2.1 m.2.2.2.2.2.1).bind fun d=>some (d.1,d.2.1,())) ((Kz F0 c r m.2.2.2.2.2.2).bind fun e=>some (e.1,e.2.1,())))):=by kernel_rfl
def Nc:Any:=.one ⟨amD,wq,2,fun x=>GI F0 x.1 x.2.1 x.2.2.1⟩
def afo:a8 339 Nc:=aG SA ⟨Kw,acb,ace,ais,trivial⟩ func339 ab (by kernel_rfl)
def qV:=[(262,hU)]
def q0:Nat->Option Hint:=look [(3,{live:=[0,1,5,6],xl:=[5],rl:=[4]})]
def ij (a:List D9)(b i:Int)(c:List D9):= ei 30 [(0,mU 29 (K9) a),(1,a7 b),(5,.v (.c (.own 1000000 none))),(6,a7 i)] [] [aP 1000000 29 K9 c]
def Fi (a:List D9):= ei 30 [(5,.v (.c (.own 1000000 none)))] [] [aP 1000000 29 K9 a]
def lh (a:St):Option U:=eo qV F q0 [.r,.r,.l,.r,.b,.i] f340 J n a
def uC:=jx qV F q0 [.r,.r,.l,.r,.b] f340 Sm 2
def z6 (a:List D9)(c i:Int)(b:List D9):lh F J (n+1) (ij a c i b)=br (decide (i<(a.length:Int))) (ck (bh i (a.length:Int)) (br (decide ((aJ a i K9.aw).1>=c)) (ck (bh i (a.length:Int)) ((fE F0 (aJ a i K9.aw)).bind fun d=>ck (fA F b.length [d.1].length 48) (lh F J n (ij a c (ak (i+1)) (b++[d.1]))))) (lh F J n (ij a c (ak (i+1)) b)))) (J (.exit 0) (Fi b)):=by kernel_rfl
def SB (a:List D9):uC F (.exit 0) (Fi a)=some (a,()):=by kernel_rfl
def wY (a:D14)(b:Int):=bM qV F q0 f340 [(K14,false),(.int .i64,false)] Sm 2 (a,b,())
def Z2 (a:D14)(b:Int):wY F a b=lh F (uC F) F.n (ij a b 0 []):=by kernel_rfl
def Iz:Any:=.one ⟨[(K14,false),(.int .i64,false)],Sm,2,fun x=>wY F0 x.1 x.2.1⟩
def Z3:a8 340 Iz:=aG qV ⟨ng,trivial⟩ func340 q0 (by kernel_rfl)
def Z4:=[(115,bP),(155,tk),(156,l5),(157,wz)]
def A6 (c:D1)(r:bL):=bM Z4 F ab f86 Gv km 2 (c,r,())
def ale (c:D1)(r:bL):A6 F c r=(cR F0 c r).bind fun a=>br (!a.1) (some (([],[]),())) ((ic F0).bind fun b=>(o8 F0 r.2.2.2.1.2.2.2).bind fun d=>(o9 F0 b.1 d.1).bind fun e=>some (e.1,())):=by kernel_rfl
def IA:Any:=.one ⟨Gv,km,2,fun x=>A6 F0 x.1 x.2.1⟩
def Wp:a8 86 IA:=aG Z4 ⟨cm,Ip,vV,Ma,trivial⟩ func86 ab (by kernel_rfl)
def tG:=[(190,Gm)]
def tH:Nat->Option Hint:=look [(3,{live:=[0,3,5,6],xl:=[5],rl:=[4]})]
def jH (p:List D4)(i:Int)(l a:List Int)(b:List D4):= ei 35 [(0,mU 99 (K4) p),cl 3,(5,.v (.c (.own 1000000 none))),(6,a7 i)] [(3,[.ro false 3 (.int .i64) l,.ro false 3 (.int .i64) a])] [aP 1000000 99 K4 b]
def IB (a:List D4):= ei 35 [(5,.v (.c (.own 1000000 none)))] [] [aP 1000000 99 K4 a]
def ni (a:St):Option U:=eo tG F tH [.r,.r,.l,.r,.b,.i] f341 J n a
def wZ:=jx tG F tH [.r,.r,.l,.r,.b] f341 n2 2
def Dp (p:List D4)(i:Int)(l b:List Int)(a:List D4):ni F J (n+1) (jH p i l b a)=br (decide (i<(p.length:Int))) (ck (bh i (p.length:Int)) ((H9 F0 (l,b) (aJ p i K4.aw)).bind fun c=>br (c.2.1 != 2) (ck (bh i (p.length:Int)) (ck (fA F a.length [(aJ p i K4.aw)].length 32) (ni F J n (jH p (ak (i+1)) l b (a++[(aJ p i K4.aw)]))))) (ni F J n (jH p (ak (i+1)) l b a)))) (J (.exit 0) (IB a)):=by kernel_rfl
def Va (a:List D4):wZ F (.exit 0) (IB a)=some (a,()):=by kernel_rfl
def Ci (p:D5)(l:D10):=bM tG F tH f341 avv n2 2 (p,l,())
def acf (p:D5)(l:D10):Ci F p l=ni F (wZ F) F.n (jH p 0 l.1 l.2 []):=by kernel_rfl
def KA:Any:=.one ⟨avv,n2,2,fun x=>Ci F0 x.1 x.2.1⟩
def acg:a8 341 KA:=aG tG ⟨R6,trivial⟩ func341 tH (by kernel_rfl)
def ad6:=[(86,IA),(115,bP),(176,bI),(181,ie),(339,Nc),(340,Iz),(341,KA)]
def Nd (c:D1)(r:bL)(m:Zq):=bM ad6 F ab f318 amD wq 2 (c,r,m,())
def aov (c:D1)(r:bL)(m:Zq):Nd F c r m=(cR F0 c r).bind fun e=>br (!e.1) ((aV F0 r).bind fun b=>some (b.1,false,())) ((eH F0 c m).bind fun f=>br (!f.1) ((aV F0 r).bind fun b=>some (b.1,false,())) ((GI F0 c r m).bind fun a=>br (!a.2.1) ((aV F0 r).bind fun g=>some (g.1,false,())) ((wY F0 a.1.2.2.2.2.2.1 (ak (a.1.2.1-1))).bind fun d=>(A6 F0 c (a.1.1,a.1.2.1,a.1.2.2.1,a.1.2.2.2.1,a.1.2.2.2.2.1,d.1,a.1.2.2.2.2.2.2)).bind fun h=>(Ci F0 a.1.2.2.2.2.1 h.1).bind fun i=>some ((a.1.1,a.1.2.1,a.1.2.2.1,a.1.2.2.2.1,i.1,d.1,a.1.2.2.2.2.2.2),true,())))):=by kernel_rfl
def Md:Any:=.one ⟨amD,wq,2,fun x=>Nd F0 x.1 x.2.1 x.2.2.1⟩
def Z5:a8 318 Md:=aG ad6 ⟨Wp,cm,bW,nE,afo,Z3,acg,trivial⟩ func318 ab (by kernel_rfl)
def Wq:=[(83,b4),(116,wv),(117,bN),(318,Md)]
def u6 (w:iU)(d:D45):Option (iU×Int×iU):=akK Tryz.prog (look Wq) F ab f298 [(gN,true),(K45,true)] 0 (gN,true) (.int .i64,false) (gN,true) (w,d,())
def ait (w:iU)(d:D45):u6 F w d=(bD F0 d.2.1 0 (ak ((w.2.2.2.1.length:Int)-1))).bind fun b=>br (!b.1) (some (gN.aw,2,w)) (ck (bh d.2.1 (w.2.2.2.1.length:Int)) (br (d.1==5) (br (decide ((w.2.2.2.1.length:Int)>=60)) (some (gN.aw,4,w)) (ck (fA F 0 (aJ w.2.2.2.1 d.2.1 (0,[])).2.length 1) (ck (fA F w.2.2.2.1.length [((aJ w.2.2.2.1 d.2.1 (0,[])).1,[]++(aJ w.2.2.2.1 d.2.1 (0,[])).2)].length 32) (some ((w.1,w.2.1,w.2.2.1,w.2.2.2.1++[((aJ w.2.2.2.1 d.2.1 (0,[])).1,[]++(aJ w.2.2.2.1 d.2.1 (0,[])).2)],w.2.2.2.2),0,gN.aw))))) (ck (okT d.2.1 (w.2.2.2.1.length:Int)) (ck (Oy (ak (d.2.1+1)) (w.2.2.2.1.length:Int) (w.2.2.2.1.length:Int)) (ck (fA F 0 (w.2.2.2.1.take d.2.1.toNat).length 32) (ck (fA F ([]++(w.2.2.2.1.take d.2.1.toNat)).length ((w.2.2.2.1.take (w.2.2.2.1.length:Int).toNat).drop (ak (d.2.1+1)).toNat).length 32) (br (d.1==3) ((cv F0 w.2.1 (aJ w.2.2.2.1 d.2.1 (0,[])).1).bind fun c=>br (!c.1) ((AR F0 w.1 (aJ w.2.2.2.1 d.2.1 (0,[])).2).bind fun e=>ck (bh (aJ w.2.2.2.1 d.2.1 (0,[])).1 (w.2.2.1.length:Int)) ((Nd F0 w.1 (aJ w.2.2.1 (aJ w.2.2.2.1 d.2.1 (0,[])).1 cC.aw) e.1).bind fun a=>br a.2.1 (ck (bh (aJ w.2.2.2.1 d.2.1 (0,[])).1 (w.2.2.1.length:Int)) (some ((w.1,w.2.1,w.2.2.1.set (aJ w.2.2.2.1 d.2.1 (0,[])).1.toNat a.1,([]++(w.2.2.2.1.take d.2.1.toNat))++((w.2.2.2.1.take (w.2.2.2.1.length:Int).toNat).drop (ak (d.2.1+1)).toNat),w.2.2.2.2),0,gN.aw))) (some ((w.1,w.2.1,w.2.2.1,([]++(w.2.2.2.1.take d.2.1.toNat))++((w.2.2.2.1.take (w.2.2.2.1.length:Int).toNat).drop (ak (d.2.1+1)).toNat),w.2.2.2.2),0,gN.aw)))) (some ((w.1,w.2.1,w.2.2.1,([]++(w.2.2.2.1.take d.2.1.toNat))++((w.2.2.2.1.take (w.2.2.2.1.length:Int).toNat).drop (ak (d.2.1+1)).toNat),w.2.2.2.2),0,gN.aw))) (some ((w.1,w.2.1,w.2.2.1,([]++(w.2.2.2.1.take d.2.1.toNat))++((w.2.2.2.1.take (w.2.2.2.1.length:Int).toNat).drop (ak (d.2.1+1)).toNat),w.2.2.2.2),0,gN.aw))))))))):=by kernel_rfl
def Qd:Any:=.sel ⟨[(gN,true),(K45,true)],0,(gN,true),(.int .i64,false),(gN,true),fun x=>u6 F0 x.1 x.2.1⟩
def aiu:a8 298 Qd:=ok4 (show vD Tryz.prog TB Wq from⟨cT,L9,cb,Z5,trivial⟩) func298 (by kernel_rfl) (by kernel_rfl) ab (by kernel_rfl) (by kernel_rfl)
def Cj:Nat->Option Hint:=look [(2,{live:=[0,1,2,3,9],rl:=[8]})]
def iX (a:List b3)(b:Int)(name:ByteArray)(dE i:Int):= bk 41 [(0,mU 91 (dC) a),(1,a7 b),(2,XD name),(3,a7 dE),(9,a7 i)]
def Qe (a:Bool):= bk 41 [(8,vE a)]
def Nf   := bk 41 []
def nJ (a:St):Option U:=eo ax F Cj [.r,.l,.r,.b,.i] f112 J n a
def tI:=jx ax F Cj [.r,.l,.r,.b] f112 aI 1
def IC (a:List b3)(b:Int)(name:ByteArray)(dE i:Int):nJ F J (n+1) (iX a b name dE i)=br (decide (i<(a.length:Int))) (ck (bh i (a.length:Int)) (br ((aJ a i dC.aw).1==b) (ck (bh i (a.length:Int)) (br ((aJ a i dC.aw).2.1.toList==name.toList) (ck (bh i (a.length:Int)) (br ((aJ a i dC.aw).2.2==dE) (J .ret (Qe true)) (nJ F J n (iX a b name dE (ak (i+1)))))) (nJ F J n (iX a b name dE (ak (i+1)))))) (nJ F J n (iX a b name dE (ak (i+1)))))) (J (.exit 0) (Nf)):=by kernel_rfl
def ach (a:Bool):tI F .ret (Qe a)=some (a,()):=by kernel_rfl
def Z6: tI F (.exit 0) (Nf)=some (false,()):=by kernel_rfl
abbrev aBL:List (Ty×Bool):=[(K39,false),(.int .i64,false),(.str,false),(.int .i64,false)]
def Dq (a:D39)(b:Int)(name:ByteArray)(dE:Int):=bM ax F Cj f112 aBL aI 1 (a,b,name,dE,())
def aiv (a:D39)(b:Int)(name:ByteArray)(dE:Int):Dq F a b name dE=nJ F (tI F) F.n (iX a b name dE 0):=by kernel_rfl
def ED:Any:=.one ⟨aBL,aI,1,fun x=>Dq F0 x.1 x.2.1 x.2.2.1 x.2.2.2.1⟩
def SC:a8 112 ED:=aG ax trivial func112 Cj (by kernel_rfl)
def Ck:=[(83,b4),(112,ED)]
def Cl:Nat->Option Hint:=look [(2,{live:=[0,1,2,3,4,11],rl:=[10]})]
def nj (a:List Int)(b:List b3)(c:Int)(name:ByteArray)(dE:List Int)(i:Int):= bk 36 [(0,mU 3 (.int .i64) a),(1,mU 91 (dC) b),(2,a7 c),(3,XD name),(4,mU 3 (.int .i64) dE),(11,a7 i)]
def Qf (a:Bool):= bk 36 [(10,vE a)]
def Ng   := bk 36 []
def sk (a:St):Option U:=eo Ck F Cl [.r,.l,.r,.b,.i] f342 J n a
def tJ:=jx Ck F Cl [.r,.l,.r,.b] f342 aI 1
def ID (a:List Int)(b:List b3)(c:Int)(name:ByteArray)(dE:List Int)(i:Int):sk F J (n+1) (nj a b c name dE i)=br (decide (i<(dE.length:Int))) (ck (bh i (dE.length:Int)) ((cv F0 a (aJ dE i 0)).bind fun d=>br (!d.1) (ck (bh i (dE.length:Int)) ((Dq F0 b c name (aJ dE i 0)).bind fun e=>br (!e.1) (J .ret (Qf false)) (sk F J n (nj a b c name dE (ak (i+1)))))) (sk F J n (nj a b c name dE (ak (i+1)))))) (J (.exit 0) (Ng)):=by kernel_rfl
def aci (a:Bool):tJ F .ret (Qf a)=some (a,()):=by kernel_rfl
def Z7: tJ F (.exit 0) (Ng)=some (true,()):=by kernel_rfl
abbrev aBM:List (Ty×Bool):=[(.sl 3 (.int .i64),false),(K39,false),(.int .i64,false),(.str,false),(.sl 3 (.int .i64),false)]
def u7 (a:List Int)(b:D39)(c:Int)(name:ByteArray)(dE:List Int):=bM Ck F Cl f342 aBM aI 1 (a,b,c,name,dE,())
def aiw (a:List Int)(b:D39)(c:Int)(name:ByteArray)(dE:List Int):u7 F a b c name dE=sk F (tJ F) F.n (nj a b c name dE 0):=by kernel_rfl
def Qg:Any:=.one ⟨aBM,aI,1,fun x=>u7 F0 x.1 x.2.1 x.2.2.1 x.2.2.2.1 x.2.2.2.2.1⟩
def aix:a8 342 Qg:=aG Ck ⟨cT,SC,trivial⟩ func342 Cl (by kernel_rfl)
end
end Go.Am.Tryz
