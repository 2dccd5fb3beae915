/- No condition. -/
import Derived.Test.YtpkabclplaibaaaGreatDoorQwYJG2
set_option linter.all false
set_option maxRecDepth 100000
namespace Go.Am.Tryz
open Go.Am Go.Proofs Go.Proofs.Tryz
noncomputable section
variable {U:Type} (F:nY) (J:Ex->St->Option U) (n:Nat)
def fu:=[(83,cJ),(97,cl),(98,av),(121,bN),(186,cT),(189,eM),(265,Qy),(266,GD),(267,ix)]
def fv:Nat->Option Hint:=look [(8,{live:=[3,4,5,6,7],A9:=[(4,8,3,.int .i64),(4,11,3,.int .i64),(4,14,3,.int .i64)],xl:=[4,6],rl:=[4]}),(19,{live:=[0,3,4,5,6,10],A9:=[(4,8,3,.int .i64),(4,11,3,.int .i64),(4,14,3,.int .i64)],xl:=[0,3,4,6],rl:=[4]})]
def cU (b a k:Int)(c:List Int)(d e w f:Int)(g:List Int)(h:List bq)(i:List bS)(j:List bK)(v x y z A:Int)(B:ByteArray)(C:Int)(D:ByteArray)(E:Int)(G:ByteArray)(l:Int)(m:ByteArray)(o p q r s:Int)(H t u:List Int):St:={nt:=152,tm:=[(0,.v (.c (.ptr 4000000 0))),bX 3,bX 4,(5,bd b),(6,bd a),(10,bd k)],bx:=[(4000000,[.ro true 5 (.int .u8) c,aq d,aq e]),(3,[aq w,aq f,.ro false 3 (.int .i64) g,.ro false 42 (ca) h,.ro false 95 (ew) i,.ro false 91 (cA) j]),(4,[aq v,aq x,aq y,aq z,aq A,.str B,aq C,.str D,.own 1000000 none,aq E,.str G,.own 1000001 none,aq l,.str m,.own 1000002 none,aq o,aq p,aq q,aq r,aq s])],bl:=[aF 1000000 3 (.int .i64) H,aF 1000001 3 (.int .i64) t,aF 1000002 3 (.int .i64) u],sp:=.v (.c (.ptr 4000000 0))}
def EM (a:List Int)(b c k l m o p:Int)(q:ByteArray)(r:Int)(s:ByteArray)(t:Int)(u:ByteArray)(d:Int)(e:ByteArray)(f g h i j:Int):St:={nt:=152,tm:=[bX 4],bx:=[(4000000,[.ro true 5 (.int .u8) a,aq b,aq c]),(4,[aq k,aq l,aq m,aq o,aq p,.str q,aq r,.str s,.nil,aq t,.str u,.nil,aq d,.str e,.nil,aq f,aq g,aq h,aq i,aq j])],bl:=[],sp:=.v (.c (.ptr 4000000 0))}
def Bk (a:Int)(b:List Int)(c d w e:Int)(f:List Int)(g:List bq)(h:List bS)(i:List bK)(t u v x y:Int)(z:ByteArray)(A:Int)(B:ByteArray)(C:Int)(D:ByteArray)(j:Int)(k:ByteArray)(l m o p q:Int)(E r s:List Int):St:={nt:=152,tm:=[(0,.v (.c (.ptr 4000000 0))),bX 3,bX 4,(6,bd a)],bx:=[(4000000,[.ro true 5 (.int .u8) b,aq c,aq d]),(3,[aq w,aq e,.ro false 3 (.int .i64) f,.ro false 42 (ca) g,.ro false 95 (ew) h,.ro false 91 (cA) i]),(4,[aq t,aq u,aq v,aq x,aq y,.str z,aq A,.str B,.own 1000000 none,aq C,.str D,.own 1000001 none,aq j,.str k,.own 1000002 none,aq l,aq m,aq o,aq p,aq q])],bl:=[aF 1000000 3 (.int .i64) E,aF 1000001 3 (.int .i64) r,aF 1000002 3 (.int .i64) s],sp:=.v (.c (.ptr 4000000 0))}
def du (a:St):Option U:=ek fu F fv [.r,.r,.r,.l,.r,.b,.r,.e,.r,.t,.r,.b,.i] f199 J n a
def cV:=Lo fu F fv [.r,.r,.r,.l,.r,.b,.r,.e,.r,.t,.r,.b] f199 .cur [(K45,true)] bs 2
def cW (b a k:Int)(c:List Int)(d e w f:Int)(g:List Int)(h:List bq)(i:List bS)(j:List bK)(v x y z A:Int)(B:ByteArray)(C:Int)(D:ByteArray)(E:Int)(G:ByteArray)(l:Int)(m:ByteArray)(o p q r s:Int)(H t u:List Int):St:={nt:=152,tm:=[bX 3,bX 4,(5,bd b),(6,bd a),(7,bd k)],bx:=[(4000000,[.ro true 5 (.int .u8) c,aq d,aq e]),(3,[aq w,aq f,.ro false 3 (.int .i64) g,.ro false 42 (ca) h,.ro false 95 (ew) i,.ro false 91 (cA) j]),(4,[aq v,aq x,aq y,aq z,aq A,.str B,aq C,.str D,.own 1000000 none,aq E,.str G,.own 1000001 none,aq l,.str m,.own 1000002 none,aq o,aq p,aq q,aq r,aq s])],bl:=[aF 1000000 3 (.int .i64) H,aF 1000001 3 (.int .i64) t,aF 1000002 3 (.int .i64) u],sp:=.v (.c (.ptr 4000000 0))}
def EN (a:List Int)(b c k l m o p:Int)(q:ByteArray)(r:Int)(s:ByteArray)(t:Int)(u:ByteArray)(d:Int)(e:ByteArray)(f g h i j:Int):St:={nt:=152,tm:=[bX 4],bx:=[(4000000,[.ro true 5 (.int .u8) a,aq b,aq c]),(4,[aq k,aq l,aq m,aq o,aq p,.str q,aq r,.str s,.nil,aq t,.str u,.nil,aq d,.str e,.nil,aq f,aq g,aq h,aq i,aq j])],bl:=[],sp:=.v (.c (.ptr 4000000 0))}
def Bl (a:Int)(b:List Int)(c d o p q r s:Int)(t:ByteArray)(u:Int)(v:ByteArray)(w:Int)(x:ByteArray)(e:Int)(f:ByteArray)(g h i j k:Int)(y l m:List Int):St:={nt:=152,tm:=[bX 4,(6,bd a)],bx:=[(4000000,[.ro true 5 (.int .u8) b,aq c,aq d]),(4,[aq o,aq p,aq q,aq r,aq s,.str t,aq u,.str v,.own 1000000 none,aq w,.str x,.own 1000001 none,aq e,.str f,.own 1000002 none,aq g,aq h,aq i,aq j,aq k])],bl:=[aF 1000000 3 (.int .i64) y,aF 1000001 3 (.int .i64) l,aF 1000002 3 (.int .i64) m],sp:=.v (.c (.ptr 4000000 0))}
def dv (a:St):Option U:=ek fu F fv [.r,.r,.r,.l,.r,.b,.r,.t,.l,.r,.b,.i] f199 J n a
def dw:=Lo fu F fv [.r,.r,.r,.l,.r,.b,.r,.t,.l,.r,.b] f199 .cur [(K45,true)] bs 2
def wm (b a k:Int)(d:List Int)(e f w g:Int)(h:List Int)(c:List bq)(i:List bS)(j:List bK)(v x y z A:Int)(B:ByteArray)(C:Int)(D:ByteArray)(E:Int)(G:ByteArray)(l:Int)(m:ByteArray)(o p q r s:Int)(H t u:List Int):du F J (n+1) (cU b a k d e f w g h c i j v x y z A B C D E G l m o p q r s H t u)=br (decide (k<b)) (ck (!(b==0)) (ck (bG (Int.tmod (al (a+k)) b) (c.length:Int)) (br (decide (((aL c (Int.tmod (al (a+k)) b) ca.az).2.2.2.2.2.2.2.length:Int)>0)) (ck (!(b==0)) (J .ret (EM d e f 2 (Int.tmod (al (a+k)) b) 0 0 0 aj 0 aj 0 aj 0 aj 0 0 0 0 0))) (du F J n (cU b a (al (k+1)) d e f w g h c i j v x y z A B C D E G l m o p q r s H t u))))) (J (.exit 3) (Bk a d e f w g h c i j v x y z A B C D E G l m o p q r s H t u)):=by kernel_rfl
def wo (b a k:Int)(c:List Int)(d e w g:Int)(h:List Int)(f:List bq)(G:List bS)(H:List bK)(t u v x y:Int)(z:ByteArray)(A:Int)(B:ByteArray)(C:Int)(D:ByteArray)(i:Int)(j:ByteArray)(l m o p q:Int)(E r s:List Int):dv F J (n+1) (cW b a k c d e w g h f G H t u v x y z A B C D i j l m o p q E r s)=br (decide (k<b)) (ck (!(b==0)) (ck (bG (Int.tmod (al (a+k)) b) (f.length:Int)) ((Ur F0 (w,g) (aL f (Int.tmod (al (a+k)) b) ca.az)).bind fun I=>br I.2.1 (ck (!(b==0)) ((cS F0 h (Int.tmod (al (a+k)) b)).bind fun K=>br (!K.1) (ck (!(b==0)) (J .ret (EN c d e 1 (Int.tmod (al (a+k)) b) 0 0 0 aj 0 aj 0 aj 0 aj 0 0 0 0 0))) (dv F J n (cW b a (al (k+1)) c d e w g h f G H t u v x y z A B C D i j l m o p q E r s)))) (dv F J n (cW b a (al (k+1)) c d e w g h f G H t u v x y z A B C D i j l m o p q E r s))))) (J (.exit 1) (Bl a c d e t u v x y z A B C D i j l m o p q E r s)):=by kernel_rfl
def Ta (a:List Int)(b c k l m o p:Int)(q:ByteArray)(r:Int)(s:ByteArray)(t:Int)(u:ByteArray)(d:Int)(e:ByteArray)(f g h i j:Int):cV F .ret (EM a b c k l m o p q r s t u d e f g h i j)=some (((k,l,m,o,p,(q,r,s,[]),(t,u,[]),(d,e,[]),f,g,h,i,j),()),(a,b,c),()):=by kernel_rfl
def Qz (a:Int)(b:List Int)(c d w g:Int)(h:List Int)(i:List bq)(e:List bS)(j:List bK)(v x y z A:Int)(B:ByteArray)(C:Int)(D:ByteArray)(E:Int)(G:ByteArray)(k:Int)(l:ByteArray)(m o p q r:Int)(H s t:List Int):cV F (.exit 3) (Bk a b c d w g h i e j v x y z A B C D E G k l m o p q r H s t)=br ((e.length:Int)==0) (some (((2,a,0,0,0,(aj,0,aj,[]),(0,aj,[]),(0,aj,[]),0,0,0,0,0),()),(b,c,d),())) ((bE F0 (e.length:Int) 4).bind fun u=>(af F0 (b,c,d) u.1).bind fun f=>some (((3,f.1.1,0,0,0,(aj,0,aj,[]),(0,aj,[]),(0,aj,[]),0,0,0,0,0),()),f.2.1,())):=by kernel_rfl
def Tb (a:List Int)(b c k l m o p:Int)(q:ByteArray)(r:Int)(s:ByteArray)(t:Int)(u:ByteArray)(d:Int)(e:ByteArray)(f g h i j:Int):dw F .ret (EN a b c k l m o p q r s t u d e f g h i j)=some (((k,l,m,o,p,(q,r,s,[]),(t,u,[]),(d,e,[]),f,g,h,i,j),()),(a,b,c),()):=by kernel_rfl
def QA (a:Int)(b:List Int)(c d o p q r s:Int)(t:ByteArray)(u:Int)(v:ByteArray)(w:Int)(x:ByteArray)(e:Int)(f:ByteArray)(g h i j k:Int)(y l m:List Int):dw F (.exit 1) (Bl a b c d o p q r s t u v w x e f g h i j k y l m)=some (((7,a,0,0,0,(aj,0,aj,[]),(0,aj,[]),(0,aj,[]),0,0,0,0,0),()),(b,c,d),()):=by kernel_rfl
def rB (c:D2)(w:l1):=fJ fu F fv f199 apK 0 .cur [(K45,true)] bs 2 (c,w,())
def Xq (c:D2)(w:l1):rB F c w=(db F0 (w.2.2.1.length:Int) 1).bind fun l=>(af F0 c l.1).bind fun b=>(af F0 b.2.1 20).bind fun a=>br (a.1.1==0) (dv F (dw F) F.n (cW (w.2.2.1.length:Int) b.1.1 0 a.2.1.1 a.2.1.2.1 a.2.1.2.2 w.1.1 w.1.2 w.2.1 w.2.2.1 w.2.2.2.1 w.2.2.2.2 0 0 0 0 0 aj 0 aj 0 aj 0 aj 0 0 0 0 0 [] [] [])) (br (a.1.1==1) (dv F (dw F) F.n (cW (w.2.2.1.length:Int) b.1.1 0 a.2.1.1 a.2.1.2.1 a.2.1.2.2 w.1.1 w.1.2 w.2.1 w.2.2.1 w.2.2.2.1 w.2.2.2.2 0 0 0 0 0 aj 0 aj 0 aj 0 aj 0 0 0 0 0 [] [] [])) (br (a.1.1==2) (dv F (dw F) F.n (cW (w.2.2.1.length:Int) b.1.1 0 a.2.1.1 a.2.1.2.1 a.2.1.2.2 w.1.1 w.1.2 w.2.1 w.2.2.1 w.2.2.2.1 w.2.2.2.2 0 0 0 0 0 aj 0 aj 0 aj 0 aj 0 0 0 0 0 [] [] [])) (br (a.1.1==3) (du F (cV F) F.n (cU (w.2.2.1.length:Int) b.1.1 0 a.2.1.1 a.2.1.2.1 a.2.1.2.2 w.1.1 w.1.2 w.2.1 w.2.2.1 w.2.2.2.1 w.2.2.2.2 0 0 0 0 0 aj 0 aj 0 aj 0 aj 0 0 0 0 0 [] [] [])) (br (a.1.1==4) (du F (cV F) F.n (cU (w.2.2.1.length:Int) b.1.1 0 a.2.1.1 a.2.1.2.1 a.2.1.2.2 w.1.1 w.1.2 w.2.1 w.2.2.1 w.2.2.2.1 w.2.2.2.2 0 0 0 0 0 aj 0 aj 0 aj 0 aj 0 0 0 0 0 [] [] [])) (br (a.1.1==5) (du F (cV F) F.n (cU (w.2.2.1.length:Int) b.1.1 0 a.2.1.1 a.2.1.2.1 a.2.1.2.2 w.1.1 w.1.2 w.2.1 w.2.2.1 w.2.2.2.1 w.2.2.2.2 0 0 0 0 0 aj 0 aj 0 aj 0 aj 0 0 0 0 0 [] [] [])) (br (a.1.1==6) (du F (cV F) F.n (cU (w.2.2.1.length:Int) b.1.1 0 a.2.1.1 a.2.1.2.1 a.2.1.2.2 w.1.1 w.1.2 w.2.1 w.2.2.1 w.2.2.2.1 w.2.2.2.2 0 0 0 0 0 aj 0 aj 0 aj 0 aj 0 0 0 0 0 [] [] [])) (br (a.1.1==7) (some (((6,b.1.1,0,0,0,(aj,0,aj,[]),(0,aj,[]),(0,aj,[]),0,0,0,0,0),()),a.2.1,())) (br (a.1.1==8) (some (((7,b.1.1,0,0,0,(aj,0,aj,[]),(0,aj,[]),(0,aj,[]),0,0,0,0,0),()),a.2.1,())) (br (a.1.1==9) ((c7 F0 a.2.1 2).bind fun g=>br g.1.1 ((aZ F0 g.2.1 [0,0,5,40,9999]).bind fun h=>some (((8,b.1.1,h.1.1,0,0,(aj,0,aj,[]),(0,aj,[]),(0,aj,[]),0,0,0,0,0),()),h.2.1,())) ((af F0 g.2.1 2).bind fun i=>(db F0 (w.2.2.2.1.length:Int) 1).bind fun m=>(af F0 i.2.1 m.1).bind fun j=>some (((al (4+i.1.1),j.1.1,0,0,0,(aj,0,aj,[]),(0,aj,[]),(0,aj,[]),0,0,0,0,0),()),j.2.1,()))) (br (a.1.1==10) ((c3 F0 a.2.1).bind fun k=>some (((9,b.1.1,0,4,0,(aj,0,aj,[]),(0,aj,[]),(0,aj,[]),0,k.1.1),()),k.2.1,())) (br (a.1.1==11) (br (decide ((w.2.1.length:Int)>0)) ((gO F0 a.2.1 w).bind fun e=>some (((10,b.1.1,0,e.1.1),()),e.2.1,())) (br ((w.2.2.2.1.length:Int)==0) (some (((2,b.1.1,0,0,0,(aj,0,aj,[]),(0,aj,[]),(0,aj,[]),0,0,0,0,0),()),a.2.1,())) ((bE F0 (w.2.2.2.1.length:Int) 4).bind fun f=>(af F0 a.2.1 f.1).bind fun d=>some (((3,d.1.1,0,0,0,(aj,0,aj,[]),(0,aj,[]),(0,aj,[]),0,0,0,0,0),()),d.2.1,())))) (br (a.1.1==12) (br (decide ((w.2.1.length:Int)>0)) ((gO F0 a.2.1 w).bind fun e=>some (((10,b.1.1,0,e.1.1),()),e.2.1,())) (br ((w.2.2.2.1.length:Int)==0) (some (((2,b.1.1,0,0,0,(aj,0,aj,[]),(0,aj,[]),(0,aj,[]),0,0,0,0,0),()),a.2.1,())) ((bE F0 (w.2.2.2.1.length:Int) 4).bind fun f=>(af F0 a.2.1 f.1).bind fun d=>some (((3,d.1.1,0,0,0,(aj,0,aj,[]),(0,aj,[]),(0,aj,[]),0,0,0,0,0),()),d.2.1,())))) (br (a.1.1==13) (br (decide ((w.2.1.length:Int)>0)) ((gO F0 a.2.1 w).bind fun e=>some (((10,b.1.1,0,e.1.1),()),e.2.1,())) (br ((w.2.2.2.1.length:Int)==0) (some (((2,b.1.1,0,0,0,(aj,0,aj,[]),(0,aj,[]),(0,aj,[]),0,0,0,0,0),()),a.2.1,())) ((bE F0 (w.2.2.2.1.length:Int) 4).bind fun f=>(af F0 a.2.1 f.1).bind fun d=>some (((3,d.1.1,0,0,0,(aj,0,aj,[]),(0,aj,[]),(0,aj,[]),0,0,0,0,0),()),d.2.1,())))) (br ((w.2.2.2.1.length:Int)==0) (some (((2,b.1.1,0,0,0,(aj,0,aj,[]),(0,aj,[]),(0,aj,[]),0,0,0,0,0),()),a.2.1,())) ((bE F0 (w.2.2.2.1.length:Int) 4).bind fun f=>(af F0 a.2.1 f.1).bind fun d=>some (((3,d.1.1,0,0,0,(aj,0,aj,[]),(0,aj,[]),(0,aj,[]),0,0,0,0,0),()),d.2.1,())))))))))))))))):=by kernel_rfl
def EO:Any:=.two ⟨apK,0,.cur,[(K45,true)],2,bs,fun x=>rB F0 x.1 x.2.1⟩
def Xr:bb 199 EO:=jh fu ⟨dr,c0,ay,b6,dO,hR,agF,Z4,n7,trivial⟩ func199 fv (by kernel_rfl)
def Uu:=[(293,gN)]
abbrev tf:List (Ty×Bool):=[(K13,true)]
def mu (s:D13):=bL Uu F ad f247 tf tf 2 (s,())
def ahQ (s:D13):mu F s=(hV F0 s.2.2.1).bind fun a=>some ((s.1,s.2.1,a.1,s.2.2.2),()):=by kernel_rfl
def lj:Any:=.one ⟨tf,tf,2,fun x=>mu F0 x.1⟩
def ux:bb 247 lj:=aC Uu ⟨lh,trivial⟩ func247 ad (by kernel_rfl)
def uy:=[(262,h7)]
def uz:Nat->Option Hint:=look [(3,{live:=[0,3,4],xl:=[3],rl:=[2]})]
def oT (a:List D9)(i:Int)(b:List D9):= dN 21 [(0,jN 29 (K9) a),(3,.v (.c (.own 1000000 none))),(4,bd i)] [] [aF 1000000 29 K9 b]
def JX (a:List D9):= dN 21 [(3,.v (.c (.own 1000000 none)))] [] [aF 1000000 29 K9 a]
def uA (a:St):Option U:=ek uy F uz [.r,.r,.l,.r,.b,.i] f248 J n a
abbrev GF:List (Ty×Bool):=[(K14,false)]
def yr:=iR uy F uz [.r,.r,.l,.r,.b] f248 GF 2
def EP (a:List D9)(i:Int)(b:List D9):uA F J (n+1) (oT a i b)=br (decide (i<(a.length:Int))) (ck (bG i (a.length:Int)) ((fL F0 (aL a i K9.az)).bind fun c=>ck (dV F b.length [c.1].length 48) (uA F J n (oT a (al (i+1)) (b++[c.1]))))) (J (.exit 0) (JX b)):=by kernel_rfl
def Xs (a:List D9):yr F (.exit 0) (JX a)=some (a,()):=by kernel_rfl
def fM (a:D14):=bL uy F uz f248 GF GF 2 (a,())
def aev (a:D14):fM F a=uA F (yr F) F.n (oT a 0 []):=by kernel_rfl
def yt:Any:=.one ⟨GF,GF,2,fun x=>fM F0 x.1⟩
def OS:bb 248 yt:=aC uy ⟨nJ,trivial⟩ func248 uz (by kernel_rfl)
def hD (d:D15):=bL ax F ad f249 wh wh 2 (d,())
def ahR (d:D15):hD F d=ck (dV F 0 d.1.length 1) (some (([]++d.1,d.2),())):=by kernel_rfl
def ll:Any:=.one ⟨wh,wh,2,fun x=>hD F0 x.1⟩
def uB:bb 249 ll:=aC ax trivial func249 ad (by kernel_rfl)
def Yt:=[(293,gN)]
abbrev Uv:List (Ty×Bool):=[(K16,true)]
def L7 (b:D16):=bL Yt F ad f317 Uv Uv 2 (b,())
def ak3 (b:D16):L7 F b=(hV F0 b.2).bind fun a=>some ((b.1,a.1),()):=by kernel_rfl
def RW:Any:=.one ⟨Uv,Uv,2,fun x=>L7 F0 x.1⟩
def ak4:bb 317 RW:=aC Yt ⟨lh,trivial⟩ func317 ad (by kernel_rfl)
def Uw:=[(262,h7),(293,gN),(317,RW)]
def yu (m:T2):=bL Uw F ad f294 oK oK 2 (m,())
def ahS (m:T2):yu F m=(L7 F0 m.2.2.1).bind fun a=>(fL F0 m.2.2.2.1).bind fun b=>(hV F0 m.2.2.2.2.1).bind fun c=>some ((m.1,m.2.1,a.1,b.1,c.1,m.2.2.2.2.2),()):=by kernel_rfl
def Ce:Any:=.one ⟨oK,oK,2,fun x=>yu F0 x.1⟩
def RX:bb 294 Ce:=aC Uw ⟨nJ,lh,ak4,trivial⟩ func294 ad (by kernel_rfl)
def uC:=[(294,Ce)]
def uD:Nat->Option Hint:=look [(3,{live:=[0,3,4],xl:=[3],rl:=[2]})]
def oU (a:List A7)(i:Int)(b:List A7):= dN 28 [(0,jN 125 (w5) a),(3,.v (.c (.own 1000000 none))),(4,bd i)] [] [aF 1000000 125 w5 b]
def JY (a:List A7):= dN 28 [(3,.v (.c (.own 1000000 none)))] [] [aF 1000000 125 w5 a]
def uE (a:St):Option U:=ek uC F uD [.r,.r,.l,.r,.b,.i] f250 J n a
abbrev OT:List (Ty×Bool):=[(K24,false)]
def yv:=iR uC F uD [.r,.r,.l,.r,.b] f250 OT 2
def ER (a:List A7)(i:Int)(b:List A7):uE F J (n+1) (oU a i b)=br (decide (i<(a.length:Int))) (ck (bG i (a.length:Int)) (ck (bG i (a.length:Int)) ((yu F0 (aL a i w5.az).2).bind fun c=>ck (dV F b.length [((aL a i w5.az).1,c.1)].length 224) (uE F J n (oU a (al (i+1)) (b++[((aL a i w5.az).1,c.1)])))))) (J (.exit 0) (JY b)):=by kernel_rfl
def Xt (a:List A7):yv F (.exit 0) (JY a)=some (a,()):=by kernel_rfl
def tg (a:D24):=bL uC F uD f250 OT OT 2 (a,())
def aew (a:D24):tg F a=uE F (yv F) F.n (oU a 0 []):=by kernel_rfl
def yw:Any:=.one ⟨OT,OT,2,fun x=>tg F0 x.1⟩
def OU:bb 250 yw:=aC uC ⟨RX,trivial⟩ func250 uD (by kernel_rfl)
def Ux:=[(247,lj),(248,yt),(249,ll),(250,yw)]
abbrev Yu:List (Ty×Bool):=[(ca,true)]
def a6 (r:bq):=bL Ux F ad f176 Yu Yu 2 (r,())
def ahT (r:bq):a6 F r=(mu F0 r.2.2.2.1).bind fun a=>ck (dV F 0 r.2.2.2.2.1.length 32) ((fM F0 r.2.2.2.2.2.1).bind fun b=>(hD F0 r.2.2.2.2.2.2.1).bind fun c=>(tg F0 r.2.2.2.2.2.2.2).bind fun d=>some ((r.1,r.2.1,r.2.2.1,a.1,[]++r.2.2.2.2.1,b.1,c.1,d.1),())):=by kernel_rfl
def bO:Any:=.one ⟨Yu,Yu,2,fun x=>a6 F0 x.1⟩
def b8:bb 176 bO:=aC Ux ⟨ux,OS,uB,OU,trivial⟩ func176 ad (by kernel_rfl)
def Uy:=[(293,gN)]
def H2 (a b:D9):=bL Uy F ad f269 Bh ez 2 (a,b,())
def ahU (a b:D9):H2 F a b=br (decide (a.1>b.1)) ((hV F0 a).bind fun c=>some (c.1,())) ((hV F0 b).bind fun d=>some (d.1,())):=by kernel_rfl
def OV:Any:=.one ⟨Bh,ez,2,fun x=>H2 F0 x.1 x.2.1⟩
def ahV:bb 269 OV:=aC Uy ⟨lh,trivial⟩ func269 ad (by kernel_rfl)
def Uz:=[(142,pF),(270,td)]
def H3 (name:ByteArray):=bL Uz F ad f271 df [(.str,false),(.bool,false)] 1 (name,())
def ahW (name:ByteArray):H3 F name=(pE F0 name).bind fun a=>br (!a.2.1) (some (aj,false,())) (br (decide ((a.1.length:Int)<3)) (some (aj,false,())) (ck (bG (al ((a.1.length:Int)-1)) (a.1.length:Int)) (ck (bG (al ((a.1.length:Int)-2)) (a.1.length:Int)) (br ((aL a.1 (al ((a.1.length:Int)-1)) (0,[])).1 != (al ((aL a.1 (al ((a.1.length:Int)-2)) (0,[])).1+1))) (some (aj,false,())) (ck (bG (al ((a.1.length:Int)-2)) (a.1.length:Int)) (ck (bG (al ((a.1.length:Int)-3)) (a.1.length:Int)) (br ((aL a.1 (al ((a.1.length:Int)-2)) (0,[])).1 != (al ((aL a.1 (al ((a.1.length:Int)-3)) (0,[])).1+1))) (some (aj,false,())) ((k5 F0 name).bind fun b=>(k5 F0 b.1).bind fun c=>some (c.1,true,()))))))))):=by kernel_rfl
def OW:Any:=.one ⟨df,[(.str,false),(.bool,false)],1,fun x=>H3 F0 x.1⟩
def ahX:bb 271 OW:=aC Uz ⟨C6,HS,trivial⟩ func271 ad (by kernel_rfl)
def UA:=[(118,ed)]
abbrev RY:List (Ty×Bool):=[(.str,false),(.str,false)]
def H4 (s t:ByteArray):=bL UA F ad f154 RY aM 1 (s,t,())
def ahY (s t:ByteArray):H4 F s t=(ey F0 s).bind fun a=>br (!a.1) (some (false,())) ((ey F0 t).bind fun b=>br (!b.1) (some (false,())) (br (decide ((t.size:Int)>(s.size:Int))) (some (false,())) (ck (Qw 0 (t.size:Int) (s.size:Int)) (br (!((s.extract (0:Int).toNat (t.size:Int).toNat).toList==t.toList)) (some (false,())) (br ((s.size:Int)==(t.size:Int)) (some (true,())) (ck (bG (t.size:Int) (s.size:Int)) (some ((ij s (t.size:Int))==47,())))))))):=by kernel_rfl
def OX:Any:=.one ⟨RY,aM,1,fun x=>H4 F0 x.1 x.2.1⟩
def ahZ:bb 154 OX:=aC UA ⟨fY,trivial⟩ func154 ad (by kernel_rfl)
def ak5:=[(119,b7),(154,OX),(177,gM),(189,eM),(247,lj),(251,fK),(269,OV),(270,td),(271,OW)]
abbrev aFn:List (Ty×Bool):=[(K1,true),(K13,true),(K9,true)]
def JZ (c:D1)(s:D13)(q:D9):=bL ak5 F ad f206 aFn tf 2 (c,s,q,())
def atX (c:D1)(s:D13)(q:D9):JZ F c s q=(mu F0 s).bind fun a=>(hS F0 c s).bind fun f=>br (!f.1) (some (a.1,())) ((jw F0 c q).bind fun g=>br (!g.1) (some (a.1,())) ((H2 F0 q s.2.2.1).bind fun b=>(k5 F0 q.2.1).bind fun h=>(cr F0 h.1).bind fun i=>(db F0 s.2.1 i.1).bind fun d=>(H3 F0 q.2.1).bind fun e=>br e.2.1 ((H4 F0 e.1 s.2.2.2).bind fun j=>br j.1 (some ((a.1.1,d.1,b.1,e.1),())) (some ((a.1.1,d.1,b.1,a.1.2.2.2),()))) (some ((a.1.1,d.1,b.1,a.1.2.2.2),())))):=by kernel_rfl
def yx:Any:=.one ⟨aFn,tf,2,fun x=>JZ F0 x.1 x.2.1 x.2.2.1⟩
def L8:bb 206 yx:=aC ak5 ⟨cL,ahZ,k3,hR,ux,jQ,ahV,HS,ahX,trivial⟩ func206 ad (by kernel_rfl)
def UB:=[(119,b7),(177,gM),(257,k6)]
abbrev ay2:List (Ty×Bool):=[(K1,true),(K13,true),(K16,true)]
def yy (c:D1)(s:D13)(b:D16):=bL UB F ad f272 ay2 aM 1 (c,s,b,())
def ah0 (c:D1)(s:D13)(b:D16):yy F c s b=(hS F0 c s).bind fun a=>br a.1 ((mo F0 c b).bind fun d=>br d.1 ((cr F0 b.1).bind fun e=>br (decide (e.1>s.1)) (some (decide (b.2.1>=s.2.1),())) (some (false,()))) (some (false,()))) (some (false,())):=by kernel_rfl
def Cf:Any:=.one ⟨ay2,aM,1,fun x=>yy F0 x.1 x.2.1 x.2.2.1⟩
def RZ:bb 272 Cf:=aC UB ⟨cL,k3,ug,trivial⟩ func272 ad (by kernel_rfl)
def agG:=[(119,b7),(247,lj),(272,Cf)]
abbrev apL:List (Ty×Bool):=[(K13,true),(.bool,false)]
def I4 (c:D1)(s:D13)(b:D16):=bL agG F ad f207 ay2 apL 2 (c,s,b,())
def arI (c:D1)(s:D13)(b:D16):I4 F c s b=(mu F0 s).bind fun a=>(yy F0 c s b).bind fun d=>br (!d.1) (some (a.1,false,())) ((cr F0 b.1).bind fun e=>some ((e.1,a.1.2),true,())):=by kernel_rfl
def NT:Any:=.one ⟨ay2,apL,2,fun x=>I4 F0 x.1 x.2.1 x.2.2.1⟩
def ab9:bb 207 NT:=aC agG ⟨cL,ux,RZ,trivial⟩ func207 ad (by kernel_rfl)
def R0:=[(236,uf)]
abbrev ay3:List (Ty×Bool):=[(K13,true),(K13,true)]
def th (a b:D13):=bL R0 F ad f159 ay3 aM 1 (a,b,())
def aex (a b:D13):th F a b=br (a.1==b.1) (br (a.2.1==b.2.1) ((wi F0 a.2.2.1 b.2.2.1).bind fun c=>br c.1 (some (a.2.2.2.toList==b.2.2.2.toList,())) (some (false,()))) (some (false,()))) (some (false,())):=by kernel_rfl
def yz:Any:=.one ⟨ay3,aM,1,fun x=>th F0 x.1 x.2.1⟩
def OY:bb 159 yz:=aC R0 ⟨JL,trivial⟩ func159 ad (by kernel_rfl)
def Ds:=[(117,bW)]
def Dt:Nat->Option Hint:=look [(4,{live:=[0,3],xl:=[0,3],rl:=[2]})]
def uF (a:Int)(b:List Int):= dN 25 [(0,bd a),(3,.v (.c (.own 1000000 none)))] [] [aF 1000000 5 (.int .u8) b]
def OZ (a:Int)(b:List Int):= dN 25 [(0,bd a),(3,.v (.c (.own 1000000 none)))] [] [aF 1000000 5 (.int .u8) b]
def Du (a:St):Option U:=ek Ds F Dt [.r,.r,.r,.l,.b,.i] f200 J n a
def FU:=iR Ds F Dt [.r,.r,.r,.l,.b] f200 iY 2
def J0 (a:Int)(b:List Int):Du F J (n+1) (uF a b)=br (decide (a>127)) (ck (dV F b.length [IntKind.wrap .u8 (al ((Int.tmod a 128)+128))].length 1) (Du F J n (uF (al (Int.tdiv a 128)) (b++[IntKind.wrap .u8 (al ((Int.tmod a 128)+128))])))) (J (.exit 0) (OZ a b)):=by kernel_rfl
def L9 (a:Int)(b:List Int):FU F (.exit 0) (OZ a b)=ck (dV F b.length [IntKind.wrap .u8 (a)].length 1) (some (b++[IntKind.wrap .u8 (a)],())):=by kernel_rfl
def dx (a:Int):=bL Ds F Dt f200 dq iY 2 (a,())
def ak6 (a:Int):dx F a=(bI F0 a 0 2147483647).bind fun b=>br (!b.1) (some ([],())) (Du F (FU F) F.n (uF a [])):=by kernel_rfl
def e4:Any:=.one ⟨dq,iY,2,fun x=>dx F0 x.1⟩
def iy:bb 200 e4:=aC Ds ⟨cq,trivial⟩ func200 Dt (by kernel_rfl)
def UC:=[(200,e4)]
def mv (s:ByteArray):=bL UC F ad f201 df iY 2 (s,())
def ah1 (s:ByteArray):mv F s=(dx F0 (s.size:Int)).bind fun a=>ck (decide ((s.size:Int)<=F.mem)) (ck (dV F a.1.length (bytesOf s).length 1) (some (a.1++(bytesOf s),()))):=by kernel_rfl
def rC:Any:=.one ⟨df,iY,2,fun x=>mv F0 x.1⟩
def FV:bb 201 rC:=aC UC ⟨iy,trivial⟩ func201 ad (by kernel_rfl)
def yA:=[(200,e4),(201,rC),(251,fK)]
def yB:Nat->Option Hint:=look [(6,{live:=[3,5,6],xl:=[5],rl:=[4]})]
def rD (i q:Int)(a:ByteArray)(b c:List Int):= dN 41 [bX 3,(5,.v (.c (.own 1000000 none))),(6,bd i)] [(3,[aq q,.str a,.ro false 3 (.int .i64) b])] [aF 1000000 5 (.int .u8) c]
def Ma (a:List Int):= dN 41 [(5,.v (.c (.own 1000000 none)))] [] [aF 1000000 5 (.int .u8) a]
def yC (a:St):Option U:=ek yA F yB [.r,.r,.r,.r,.l,.r,.b,.i] f202 J n a
def Cg:=iR yA F yB [.r,.r,.r,.r,.l,.r,.b] f202 iY 2
def GG (i q:Int)(c:ByteArray)(a b:List Int):yC F J (n+1) (rD i q c a b)=br (decide (i<(a.length:Int))) (ck (bG i (a.length:Int)) ((dx F0 (aL a i 0)).bind fun d=>ck (dV F b.length d.1.length 1) (yC F J n (rD (al (i+1)) q c a (b++d.1))))) (J (.exit 0) (Ma b)):=by kernel_rfl
def Z5 (a:List Int):Cg F (.exit 0) (Ma a)=some (a,()):=by kernel_rfl
def rE (c:D1)(q:D9):=bL yA F yB f202 LQ iY 2 (c,q,())
def ah2 (c:D1)(q:D9):rE F c q=(jw F0 c q).bind fun e=>br (!e.1) (some ([],())) ((dx F0 q.1).bind fun a=>(mv F0 q.2.1).bind fun b=>ck (dV F a.1.length b.1.length 1) ((dx F0 (q.2.2.length:Int)).bind fun d=>ck (dV F (a.1++b.1).length d.1.length 1) (yC F (Cg F) F.n (rD 0 q.1 q.2.1 q.2.2 ((a.1++b.1)++d.1))))):=by kernel_rfl
def Ch:Any:=.one ⟨LQ,iY,2,fun x=>rE F0 x.1 x.2.1⟩
def R1:bb 202 Ch:=aC yA ⟨iy,FV,jQ,trivial⟩ func202 yB (by kernel_rfl)
def O0:=[(177,gM),(200,e4),(201,rC),(202,Ch)]
def yD (c:D1)(s:D13):=bL O0 F ad f369 agA iY 2 (c,s,())
def aca (c:D1)(s:D13):yD F c s=(hS F0 c s).bind fun f=>br (!f.1) (some ([],())) ((dx F0 s.1).bind fun a=>(dx F0 s.2.1).bind fun b=>ck (dV F a.1.length b.1.length 1) ((rE F0 c s.2.2.1).bind fun d=>ck (dV F (a.1++b.1).length d.1.length 1) ((mv F0 s.2.2.2).bind fun e=>ck (dV F ((a.1++b.1)++d.1).length e.1.length 1) (some (((a.1++b.1)++d.1)++e.1,()))))):=by kernel_rfl
def J1:Any:=.one ⟨agA,iY,2,fun x=>yD F0 x.1 x.2.1⟩
def acb:bb 369 J1:=aC O0 ⟨k3,iy,FV,R1,trivial⟩ func369 ad (by kernel_rfl)
def O1:=[(200,e4),(369,J1)]
def yE (c:D1)(s:D13):=bL O1 F ad f364 agA iY 2 (c,s,())
def acd (c:D1)(s:D13):yE F c s=(yD F0 c s).bind fun a=>br ((a.1.length:Int)==0) (some ([],())) ((dx F0 (a.1.length:Int)).bind fun b=>ck (dV F b.1.length a.1.length 1) (ck (dV F (b.1++a.1).length [10].length 1) (some ((b.1++a.1)++[10],())))):=by kernel_rfl
def J2:Any:=.one ⟨agA,iY,2,fun x=>yE F0 x.1 x.2.1⟩
def ace:bb 364 J2:=aC O1 ⟨iy,acb,trivial⟩ func364 ad (by kernel_rfl)
def Yv:=[(180,nG),(249,ll)]
abbrev aFo:List (Ty×Bool):=[(K15,true),(.sl 5 (.int .u8),false)]
def Mb (d:D15)(b:List Int):=bL Yv F ad f363 aFo [(K15,true),(.bool,false)] 2 (d,b,())
def ak7 (d:D15)(b:List Int):Mb F d b=(hD F0 d).bind fun a=>ck (dV F a.1.1.length b.length 1) ((l8 F0 d).bind fun e=>br (!e.1) ((hD F0 d).bind fun c=>some (c.1,false,())) ((l8 F0 (a.1.1++b,a.1.2)).bind fun f=>br (!f.1) ((hD F0 d).bind fun c=>some (c.1,false,())) (some ((a.1.1++b,a.1.2),true,())))):=by kernel_rfl
def R2:Any:=.one ⟨aFo,[(K15,true),(.bool,false)],2,fun x=>Mb F0 x.1 x.2.1⟩
def ak8:bb 363 R2:=aC Yv ⟨yf,uB,trivial⟩ func363 ad (by kernel_rfl)
def R3:=[(159,yz),(177,gM),(247,lj),(363,R2),(364,J2)]
def dZ (c:D1)(r:bq)(s:D13):Option (bq×Bool×bq):=anN Tryz.prog (look R3) F ad f358 [(K1,true),(ca,true),(K13,true)] 1 (ca,true) (.bool,false) (ca,true) (c,r,s,())
def aey (c:D1)(r:bq)(s:D13):dZ F c r s=(th F0 r.2.2.2.1 s).bind fun b=>br b.1 (some (r,true,ca.az)) ((yE F0 c s).bind fun d=>(Mb F0 r.2.2.2.2.2.2.1 d.1).bind fun a=>br (!a.2.1) (some (ca.az,false,r)) ((hS F0 c s).bind fun e=>br (!e.1) (some (ca.az,false,r)) ((mu F0 s).bind fun f=>some ((r.1,r.2.1,r.2.2.1,f.1,r.2.2.2.2.1,r.2.2.2.2.2.1,a.1,r.2.2.2.2.2.2.2),true,ca.az)))):=by kernel_rfl
def oV:Any:=.sel ⟨[(K1,true),(ca,true),(K13,true)],1,(ca,true),(.bool,false),(ca,true),fun x=>dZ F0 x.1 x.2.1 x.2.2.1⟩
def Ci:bb 358 oV:=ok4 (show w4 Tryz.prog TB R3 from⟨OY,k3,ux,ak8,ace,trivial⟩) func358 (by kernel_rfl) (by kernel_rfl) ad (by kernel_rfl) (by kernel_rfl)
def ln:=[(120,nA)]
def lq:Nat->Option Hint:=look [(3,{live:=[0,1,5,6],xl:=[1,5],rl:=[4]}),(7,{live:=[1,5,7],xl:=[5],rl:=[4]})]
def rF (b:List Int)(i:Int)(a:List Int):= dN 34 [(1,jN 3 (.int .i64) b),(5,.v (.c (.own 1000000 none))),(7,bd i)] [] [aF 1000000 3 (.int .i64) a]
def Mc (a:List Int):= dN 34 [(5,.v (.c (.own 1000000 none)))] [] [aF 1000000 3 (.int .i64) a]
def yF (a:St):Option U:=ek ln F lq [.r,.r,.r,.l,.r,.b,.i] f297 J n a
def Cj:=iR ln F lq [.r,.r,.r,.l,.r,.b] f297 pt 2
def rG (a b:List Int)(i:Int)(c:List Int):= dN 34 [(0,jN 3 (.int .i64) a),(1,jN 3 (.int .i64) b),(5,.v (.c (.own 1000000 none))),(6,bd i)] [] [aF 1000000 3 (.int .i64) c]
def Md (b a:List Int):= dN 34 [(1,jN 3 (.int .i64) b),(5,.v (.c (.own 1000000 none)))] [] [aF 1000000 3 (.int .i64) a]
def yG (a:St):Option U:=ek ln F lq [.r,.r,.l,.r,.b,.i] f297 J n a
def Ck:=iR ln F lq [.r,.r,.l,.r,.b] f297 pt 2
def GH (b:List Int)(i:Int)(a:List Int):yF F J (n+1) (rF b i a)=br (decide (i<(b.length:Int))) (ck (bG i (b.length:Int)) ((l5 F0 a (aL b i 0)).bind fun c=>yF F J n (rF b (al (i+1)) c.1))) (J (.exit 2) (Mc a)):=by kernel_rfl
def GI (a b:List Int)(i:Int)(c:List Int):yG F J (n+1) (rG a b i c)=br (decide (i<(a.length:Int))) (ck (bG i (a.length:Int)) ((l5 F0 c (aL a i 0)).bind fun d=>yG F J n (rG a b (al (i+1)) d.1))) (J (.exit 0) (Md b c)):=by kernel_rfl
def Z6 (a:List Int):Cj F (.exit 2) (Mc a)=some (a,()):=by kernel_rfl
def Z7 (b a:List Int):Ck F (.exit 0) (Md b a)=yF F (Cj F) F.n (rF b 0 a):=by kernel_rfl
def H5 (a b:List Int):=bL ln F lq f297 an5 pt 2 (a,b,())
def ah3 (a b:List Int):H5 F a b=yG F (Ck F) F.n (rG a b 0 []):=by kernel_rfl
def O2:Any:=.one ⟨an5,pt,2,fun x=>H5 F0 x.1 x.2.1⟩
def ah4:bb 297 O2:=aC ln ⟨w7,trivial⟩ func297 lq (by kernel_rfl)
def R4:=[(297,O2)]
abbrev ay4:List (Ty×Bool):=[(K9,true),(.bool,false)]
def Dv (a b:D9):=bL R4 F ad f263 Bh ay4 2 (a,b,())
def aez (a b:D9):Dv F a b=br (a.1 != b.1) (some ((0,aj,[]),false,())) (br (!(a.2.1.toList==b.2.1.toList)) (some ((0,aj,[]),false,())) ((H5 F0 a.2.2 b.2.2).bind fun c=>some ((a.1,a.2.1,c.1),true,()))):=by kernel_rfl
def Me:Any:=.one ⟨Bh,ay4,2,fun x=>Dv F0 x.1 x.2.1⟩
def aeA:bb 263 Me:=aC R4 ⟨ah4,trivial⟩ func263 ad (by kernel_rfl)
end
end Go.Am.Tryz
namespace Go.Am.Tryz
open Go.Am Go.Proofs Go.Proofs.Tryz
noncomputable section
variable {U:Type} (F:nY) (J:Ex->St->Option U) (n:Nat)
def uG:=[(179,B5),(248,yt),(254,nF),(255,vr),(262,h7),(263,Me)]
def uH:Nat->Option Hint:=look [(4,{live:=[1,3,5,8,9,10],xl:=[1,3,5,8,9],rl:=[6,7]})]
def eO (e:List D9)(put:Bool)(i c a p:Int)(b:ByteArray)(d:List Int)(f:List D9):= dN 74 [(1,jN 29 (K9) e),bX 3,bX 5,(8,.v (.c (.own 1000000 none))),(9,ED put),(10,bd i)] [(3,[aq c,aq a]),(5,[aq p,.str b,.ro false 3 (.int .i64) d])] [aF 1000000 29 K9 f]
def J3 (e:List D9)(put:Bool)(c a p:Int)(b:ByteArray)(d:List Int)(f:List D9):= dN 74 [(1,jN 29 (K9) e),bX 3,bX 5,(8,.v (.c (.own 1000000 none))),(9,ED put)] [(3,[aq c,aq a]),(5,[aq p,.str b,.ro false 3 (.int .i64) d])] [aF 1000000 29 K9 f]
def gP (a:St):Option U:=ek uG F uH [.r,.r,.r,.l,.r,.b,.i] f194 J n a
abbrev aB9:List (Ty×Bool):=[(K14,false),(.bool,false)]
def yH:=iR uG F uH [.r,.r,.r,.l,.r,.b] f194 aB9 2
def jV (e:List D9)(put:Bool)(i c g p:Int)(b:ByteArray)(d:List Int)(a:List D9):gP F J (n+1) (eO e put i c g p b d a)=br (decide (i<(e.length:Int))) (ck (bG i (e.length:Int)) ((fL F0 (aL e i K9.az)).bind fun f=>br (!put) ((pK F0 f.1 (p,b,d)).bind fun k=>br (!k.1) ((Dv F0 f.1 (p,b,d)).bind fun h=>br h.2.1 (ck (dV F a.length [h.1].length 48) (gP F J n (eO e true (al (i+1)) c g p b d (a++[h.1])))) ((fL F0 (p,b,d)).bind fun j=>ck (dV F a.length [j.1].length 48) (ck (dV F (a++[j.1]).length [f.1].length 48) (gP F J n (eO e true (al (i+1)) c g p b d ((a++[j.1])++[f.1])))))) (ck (dV F a.length [f.1].length 48) (gP F J n (eO e put (al (i+1)) c g p b d (a++[f.1]))))) (ck (dV F a.length [f.1].length 48) (gP F J n (eO e put (al (i+1)) c g p b d (a++[f.1])))))) (J (.exit 0) (J3 e put c g p b d a)):=by kernel_rfl
def GJ (e:List D9)(put:Bool)(c d p:Int)(f:ByteArray)(g:List Int)(b:List D9):yH F (.exit 0) (J3 e put c d p f g b)=br (!put) ((fL F0 (p,f,g)).bind fun h=>ck (dV F b.length [h.1].length 48) ((mn F0 (c,d) (b++[h.1])).bind fun i=>br (!i.1) ((fM F0 e).bind fun a=>some (a.1,false,())) ((jR F0 (c,d) (p,f,g)).bind fun j=>br (!j.1) ((fM F0 e).bind fun a=>some (a.1,false,())) (some (b++[h.1],true,()))))) ((mn F0 (c,d) b).bind fun i=>br (!i.1) ((fM F0 e).bind fun a=>some (a.1,false,())) ((jR F0 (c,d) (p,f,g)).bind fun j=>br (!j.1) ((fM F0 e).bind fun a=>some (a.1,false,())) (some (b,true,())))):=by kernel_rfl
abbrev aFp:List (Ty×Bool):=[(K1,true),(K14,false),(K9,true)]
def ea (c:D1)(a:D14)(p:D9):=bL uG F uH f194 aFp aB9 2 (c,a,p,())
def aeB (c:D1)(a:D14)(p:D9):ea F c a p=gP F (yH F) F.n (eO a false 0 c.1 c.2 p.1 p.2.1 p.2.2 []):=by kernel_rfl
def gA:Any:=.one ⟨aFp,aB9,2,fun x=>ea F0 x.1 x.2.1 x.2.2.1⟩
def lr:bb 194 gA:=aC uG ⟨RM,OS,yc,LR,nJ,aeA,trivial⟩ func194 uH (by kernel_rfl)
def Yw:=[(251,fK)]
def ES (c:D1)(p:D9):=bL Yw F ad f370 LQ ay4 2 (c,p,())
def ak9 (c:D1)(p:D9):ES F c p=ck (dV F 0 p.2.2.length 8) (br (p.2.1.toList==aj.toList) (some ((0,aj,[]),false,())) ((jw F0 c (p.1,p.2.1,[]++p.2.2)).bind fun a=>br (!a.1) (some ((0,aj,[]),false,())) (some ((p.1,p.2.1,[]++p.2.2),true,())))):=by kernel_rfl
def R5:Any:=.one ⟨LQ,ay4,2,fun x=>ES F0 x.1 x.2.1⟩
def ala:bb 370 R5:=aC Yw ⟨jQ,trivial⟩ func370 ad (by kernel_rfl)
def UD:=[(117,bW),(181,iw),(294,Ce)]
abbrev aFq:List (Ty×Bool):=[(K1,true),(ca,true),(.int .i64,false),(K22,true)]
def eP (c:D1)(r:bq)(a:Int)(m:T2):=fJ UD F ad f347 aFq 1 (.own true) vu [] 2 (c,r,a,m,())
def ah5 (c:D1)(r:bq)(a:Int)(m:T2):eP F c r a m=br (decide ((r.2.2.2.2.2.2.2.length:Int)>=30)) (some ((r,false,()),())) ((eN F0 c m).bind fun d=>br (!d.1) (some ((r,false,()),())) ((bI F0 a 0 (al (c.1-1))).bind fun e=>br (!e.1) (some ((r,false,()),())) (br (a==r.1) (some ((r,false,()),())) ((yu F0 m).bind fun b=>ck (dV F r.2.2.2.2.2.2.2.length [(a,b.1)].length 224) (some (((r.1,r.2.1,r.2.2.1,r.2.2.2.1,r.2.2.2.2.1,r.2.2.2.2.2.1,r.2.2.2.2.2.2.1,r.2.2.2.2.2.2.2++[(a,b.1)]),true,()),())))))):=by kernel_rfl
def lv:Any:=.two ⟨aFq,1,(.own true),vu,2,[],fun x=>eP F0 x.1 x.2.1 x.2.2.1 x.2.2.2.1⟩
def uI:bb 347 lv:=awL UD ⟨cq,n4,RX,trivial⟩ func347 ad (by kernel_rfl)
def Yx:=[(189,eM),(206,yx),(301,hU),(347,lv),(358,oV),(370,R5)]
abbrev ay5:List (Ty×Bool):=[(K1,true),(ca,true),(K9,true)]
def Mf (c:D1)(r:bq)(p:D9):=fJ Yx F ad f365 ay5 1 (.own true) vu [] 2 (c,r,p,())
def alb (c:D1)(r:bq)(p:D9):Mf F c r p=(ES F0 c p).bind fun b=>br (!b.2.1) (some ((r,false,()),())) ((JZ F0 c r.2.2.2.1 b.1).bind fun f=>(dZ F0 c r f.1).bind fun a=>br a.2.1 (br (decide ((al (p.1+1))>60)) (some ((a.1,true,()),())) ((db F0 a.1.2.1 (al (p.1+1))).bind fun d=>(lg F0 c (al (p.1+1))).bind fun g=>br (g.1==r.1) (some (((a.1.1,d.1,a.1.2.2),true,()),())) ((lg F0 c (al (p.1+1))).bind fun h=>(eP F0 c (a.1.1,d.1,a.1.2.2) h.1 (3,al (p.1+1),(aj,0,aj,[]),(0,aj,[]),b.1,r.1,0,0,0,0)).bind fun e=>some ((e.1.1,e.1.2.1,()),())))) (some (((r.1,r.2.1,r.2.2.1,(r.2.2.2.1.1,r.2.2.2.1.2.1,(r.2.2.2.1.2.2.1.1,r.2.2.2.1.2.2.1.2.1,a.2.2.2.2.2.1.2.2.1.2.2),r.2.2.2.1.2.2.2),a.2.2.2.2.2.2.1,a.2.2.2.2.2.2.2.1,(a.2.2.2.2.2.2.2.2.1.1,r.2.2.2.2.2.2.1.2),a.2.2.2.2.2.2.2.2.2),false,()),()))):=by kernel_rfl
def R6:Any:=.two ⟨ay5,1,(.own true),vu,2,[],fun x=>Mf F0 x.1 x.2.1 x.2.2.1⟩
def alc:bb 365 R6:=awL Yx ⟨hR,L8,mr,uI,Ci,ala,trivial⟩ func365 ad (by kernel_rfl)
def agH:=[(101,cm),(117,bW)]
abbrev Yy:List (Ty×Bool):=[(K1,true),(.int .i64,false),(.int .i64,false)]
def I5 (c:D1)(a i:Int):=bL agH F ad f371 Yy dq 1 (c,a,i,())
def arJ (c:D1)(a i:Int):I5 F c a i=(dt F0 c).bind fun b=>br (!b.1) (some (-1,())) (br (decide (a<0)) (some (-1,())) ((bI F0 i 0 (al (c.1-1))).bind fun d=>br (!d.1) (some (-1,())) (ck (!(c.1==0)) (ck (!(c.1==0)) (some (Int.tmod (al ((al (i+c.1))-(Int.tmod a c.1))) c.1,())))))):=by kernel_rfl
def Dw:Any:=.one ⟨Yy,dq,1,fun x=>I5 F0 x.1 x.2.1 x.2.2.1⟩
def QB:bb 371 Dw:=aC agH ⟨c1,cq,trivial⟩ func371 ad (by kernel_rfl)
def agI:=[(101,cm),(117,bW)]
def WN (c:D1)(b a:Int):=bL agI F ad f374 Yy dq 1 (c,b,a,())
def arK (c:D1)(b a:Int):WN F c b a=(dt F0 c).bind fun d=>br (!d.1) (some (-1,())) (br (decide (b<0)) (some (-1,())) ((bI F0 a 0 (al (c.1-1))).bind fun e=>br (!e.1) (some (-1,())) (ck (!(c.1==0)) (ck (!(c.1==0)) (some (Int.tmod (al ((Int.tmod b c.1)+a)) c.1,())))))):=by kernel_rfl
def Yz:Any:=.one ⟨Yy,dq,1,fun x=>WN F0 x.1 x.2.1 x.2.2.1⟩
def arL:bb 374 Yz:=aC agI ⟨c1,cq,trivial⟩ func374 ad (by kernel_rfl)
def apM:=[(371,Dw),(374,Yz)]
def WO (c:D1)(a i:Int):=bL apM F ad f368 Yy dq 1 (c,a,i,())
def awM (c:D1)(a i:Int):WO F c a i=(I5 F0 c a i).bind fun b=>br (decide (b.1<=0)) (some (-1,())) (ck (!(c.2==0)) ((WN F0 c a (al (Int.tdiv (al (b.1-1)) c.2))).bind fun d=>some (d.1,()))):=by kernel_rfl
def UE:Any:=.one ⟨Yy,dq,1,fun x=>WO F0 x.1 x.2.1 x.2.2.1⟩
def ald:bb 368 UE:=aC apM ⟨QB,arL,trivial⟩ func368 ad (by kernel_rfl)
def QC:=[(368,UE),(371,Dw)]
def QD:Nat->Option Hint:=look [(2,{live:=[1,2,3,7],xl:=[7],rl:=[6]})]
def H6 (b i c a:Int)(d:List Int):= dN 23 [(1,bd b),(2,bd i),bX 3,(7,.v (.c (.own 1000000 none)))] [(3,[aq c,aq a])] [aF 1000000 3 (.int .i64) d]
def NU (a:List Int):= dN 23 [(7,.v (.c (.own 1000000 none)))] [] [aF 1000000 3 (.int .i64) a]
def QE (a:St):Option U:=ek QC F QD [.r,.r,.l,.b,.i] f372 J n a
def acf:=iR QC F QD [.r,.r,.l,.b] f372 pt 2
def R7 (b i c a:Int)(d:List Int):QE F J (n+1) (H6 b i c a d)=(I5 F0 (c,a) b i).bind fun e=>br (decide (e.1>=0)) (ck (dV F d.length [i].length 8) ((WO F0 (c,a) b i).bind fun f=>QE F J n (H6 b f.1 c a (d++[i])))) (J (.exit 0) (NU d)):=by kernel_rfl
def ale (a:List Int):acf F (.exit 0) (NU a)=some (a,()):=by kernel_rfl
def acg (c:D1)(a i:Int):=bL QC F QD f372 Yy pt 2 (c,a,i,())
def atY (c:D1)(a i:Int):acg F c a i=QE F (acf F) F.n (H6 a i c.1 c.2 []):=by kernel_rfl
def ach:Any:=.one ⟨Yy,pt,2,fun x=>acg F0 x.1 x.2.1 x.2.2.1⟩
def atZ:bb 372 ach:=aC QC ⟨ald,QB,trivial⟩ func372 QD (by kernel_rfl)
def H7:=[(83,cJ),(101,cm),(371,Dw),(372,ach)]
def H8:Nat->Option Hint:=look [(5,{live:=[1,2,3,7,8],xl:=[7],rl:=[6]})]
def pP (b i k c a:Int)(d:List Int):= dN 38 [(1,bd b),(2,bd i),bX 3,(7,.v (.c (.own 1000000 none))),(8,bd k)] [(3,[aq c,aq a])] [aF 1000000 3 (.int .i64) d]
def FW (a:List Int):= dN 38 [(7,.v (.c (.own 1000000 none)))] [] [aF 1000000 3 (.int .i64) a]
def yI (a:St):Option U:=ek H7 F H8 [.r,.r,.r,.l,.r,.b,.i] f366 J n a
def J4:=iR H7 F H8 [.r,.r,.r,.l,.r,.b] f366 pt 2
def yJ (d i k c b:Int)(a:List Int):yI F J (n+1) (pP d i k c b a)=br (decide (k<c)) ((I5 F0 (c,b) d i).bind fun e=>br (decide (e.1>=0)) ((acg F0 (c,b) d k).bind fun f=>(cS F0 f.1 i).bind fun g=>br g.1 (ck (dV F a.length [k].length 8) (yI F J n (pP d i (al (k+1)) c b (a++[k])))) (yI F J n (pP d i (al (k+1)) c b a))) (J (.exit 0) (FW a))) (J (.exit 0) (FW a)):=by kernel_rfl
def O3 (a:List Int):J4 F (.exit 0) (FW a)=some (a,()):=by kernel_rfl
def QF (c:D1)(a i:Int):=bL H7 F H8 f366 Yy pt 2 (c,a,i,())
def aoc (c:D1)(a i:Int):QF F c a i=(dt F0 c).bind fun b=>br (!b.1) (some ([],())) (yI F (J4 F) F.n (pP a i 0 c.1 c.2 [])):=by kernel_rfl
def UF:Any:=.one ⟨Yy,pt,2,fun x=>QF F0 x.1 x.2.1 x.2.2.1⟩
def aod:bb 366 UF:=aC H7 ⟨dr,c1,QB,atZ,trivial⟩ func366 H8 (by kernel_rfl)
def Z8 (a:Bool):=bL ax F ad f373 aM dq 1 (a,())
def aoe (a:Bool):Z8 F a=br a (some (1,())) (some (0,())):=by kernel_rfl
def UG:Any:=.one ⟨aM,dq,1,fun x=>Z8 F0 x.1⟩
def aof:bb 373 UG:=aC ax trivial func373 ad (by kernel_rfl)
def Dx:=[(83,cJ),(373,UG)]
def Dy:Nat->Option Hint:=look [(3,{live:=[0,1,5,6],xl:=[5],rl:=[4]})]
def uJ (a b:List Int)(c i:Int):= bD 23 [(0,jN 3 (.int .i64) a),(1,jN 3 (.int .i64) b),(5,bd c),(6,bd i)]
def O4 (a:Int):= bD 23 [(5,bd a)]
def Dz (a:St):Option U:=ek Dx F Dy [.r,.r,.l,.r,.b,.i] f367 J n a
def FX:=iR Dx F Dy [.r,.r,.l,.r,.b] f367 dq 1
def J5 (a b:List Int)(c i:Int):Dz F J (n+1) (uJ a b c i)=br (decide (i<(a.length:Int))) (ck (bG i (a.length:Int)) ((cS F0 b (aL a i 0)).bind fun d=>(Z8 F0 d.1).bind fun e=>Dz F J n (uJ a b (al (c+e.1)) (al (i+1))))) (J (.exit 0) (O4 c)):=by kernel_rfl
def aci (a:Int):FX F (.exit 0) (O4 a)=some (a,()):=by kernel_rfl
def Mg (a b:List Int):=bL Dx F Dy f367 an5 dq 1 (a,b,())
def alf (a b:List Int):Mg F a b=Dz F (FX F) F.n (uJ a b 0 0):=by kernel_rfl
def R8:Any:=.one ⟨an5,dq,1,fun x=>Mg F0 x.1 x.2.1⟩
def alg:bb 367 R8:=aC Dx ⟨dr,aof,trivial⟩ func367 Dy (by kernel_rfl)
def R9:=[(301,hU),(302,oO),(347,lv),(365,R6),(366,UF),(367,R8),(368,UE)]
abbrev ay6:List (Ty×Bool):=[(K1,true),(ca,true),(.int .i64,false),(.str,false),(.bool,false)]
def n8 (c:D1)(r:bq)(a:Int)(name:ByteArray)(b:Bool):=fJ R9 F ad f361 ay6 1 (.own true) vu [] 2 (c,r,a,name,b,())
def aeC (c:D1)(r:bq)(a:Int)(name:ByteArray)(h:Bool):n8 F c r a name h=(n5 F0 r.2.2.2.2.2.1 a name).bind fun b=>br ((b.1.2.2.length:Int)==0) (some ((r,false,()),())) (br (name.toList==aj.toList) (some ((r,false,()),())) ((lg F0 c a).bind fun i=>br (i.1==r.1) ((Mf F0 c r b.1).bind fun f=>some ((f.1.1,f.1.2.1,()),())) ((QF F0 c a r.1).bind fun g=>br (!h) ((Mg F0 g.1 b.1.2.2).bind fun j=>br (decide (j.1<(g.1.length:Int))) (some ((r,false,()),())) ((WO F0 c a r.1).bind fun e=>(eP F0 c r e.1 (2,0,(aj,0,aj,[]),b.1,(0,aj,[]),0,0,0,0,0)).bind fun d=>some ((d.1.1,d.1.2.1,()),()))) ((WO F0 c a r.1).bind fun e=>(eP F0 c r e.1 (2,0,(aj,0,aj,[]),b.1,(0,aj,[]),0,0,0,0,0)).bind fun d=>some ((d.1.1,d.1.2.1,()),()))))):=by kernel_rfl
def oW:Any:=.two ⟨ay6,1,(.own true),vu,2,[],fun x=>n8 F0 x.1 x.2.1 x.2.2.1 x.2.2.2.1 x.2.2.2.2.1⟩
def Cl:bb 361 oW:=awL R9 ⟨mr,Cc,uI,alc,aod,alg,ald,trivial⟩ func361 ad (by kernel_rfl)
def YA:=[(119,b7),(176,bO),(194,gA),(361,oW)]
abbrev aFr:List (Ty×Bool):=[(K1,true),(ca,true),(.str,false)]
def l9 (c:D1)(r:bq)(name:ByteArray):=fJ YA F ad f359 aFr 1 (.own true) vu [] 2 (c,r,name,())
def alh (c:D1)(r:bq)(name:ByteArray):l9 F c r name=(cr F0 name).bind fun d=>(ea F0 c r.2.2.2.2.2.1 (d.1,name,[r.1])).bind fun a=>br (!a.2.1) (some ((r,false,()),())) ((a6 F0 (r.1,r.2.1,r.2.2.1,r.2.2.2.1,r.2.2.2.2.1,a.1,r.2.2.2.2.2.2)).bind fun e=>(cr F0 name).bind fun f=>(n8 F0 c e.1 f.1 name false).bind fun b=>br b.1.2.1 (some ((b.1.1,true,()),())) (some (((r.1,r.2.1,r.2.2.1,r.2.2.2.1,r.2.2.2.2.1,a.1,r.2.2.2.2.2.2),true,()),()))):=by kernel_rfl
def Sa:Any:=.two ⟨aFr,1,(.own true),vu,2,[],fun x=>l9 F0 x.1 x.2.1 x.2.2.1⟩
def ali:bb 359 Sa:=awL YA ⟨cL,b8,lr,Cl,trivial⟩ func359 ad (by kernel_rfl)
def O5:=[(115,cc),(119,b7),(176,bO),(206,yx),(207,NT),(257,k6),(272,Cf),(358,oV),(359,Sa)]
abbrev aFs:List (Ty×Bool):=[(K1,true),(ca,true),(K16,true)]
def pQ (c:D1)(r:bq)(b:D16):=bL O5 F ad f344 aFs vu 2 (c,r,b,())
def acj (c:D1)(r:bq)(b:D16):pQ F c r b=(a6 F0 r).bind fun d=>(dd F0 c r).bind fun k=>br (!k.1) (some (d.1,false,())) ((mo F0 c b).bind fun l=>br (!l.1) (some (d.1,false,())) ((a6 F0 r).bind fun f=>(JZ F0 c r.2.2.2.1 b.2).bind fun g=>(cr F0 b.1).bind fun h=>br (decide (h.1>=r.2.1)) ((yy F0 c g.1 b).bind fun i=>br (decide (h.1>=r.2.1)) (br i.1 ((I4 F0 c g.1 b).bind fun j=>(dZ F0 c (f.1.1,h.1,f.1.2.2) j.1).bind fun a=>br a.2.1 (br i.1 ((l9 F0 c a.1 b.1).bind fun e=>br (!e.1.2.1) (some (d.1,false,())) (some (e.1.1,true,()))) (some (a.1,true,()))) (some (d.1,false,()))) ((dZ F0 c (f.1.1,h.1,f.1.2.2) g.1).bind fun a=>br a.2.1 (br i.1 ((l9 F0 c a.1 b.1).bind fun e=>br (!e.1.2.1) (some (d.1,false,())) (some (e.1.1,true,()))) (some (a.1,true,()))) (some (d.1,false,())))) (br i.1 ((I4 F0 c g.1 b).bind fun j=>(dZ F0 c f.1 j.1).bind fun a=>br a.2.1 (br i.1 ((l9 F0 c a.1 b.1).bind fun e=>br (!e.1.2.1) (some (d.1,false,())) (some (e.1.1,true,()))) (some (a.1,true,()))) (some (d.1,false,()))) ((dZ F0 c f.1 g.1).bind fun a=>br a.2.1 (br i.1 ((l9 F0 c a.1 b.1).bind fun e=>br (!e.1.2.1) (some (d.1,false,())) (some (e.1.1,true,()))) (some (a.1,true,()))) (some (d.1,false,()))))) (br (decide (h.1>=r.2.1)) ((dZ F0 c (f.1.1,h.1,f.1.2.2) g.1).bind fun a=>br a.2.1 (some (a.1,true,())) (some (d.1,false,()))) ((dZ F0 c f.1 g.1).bind fun a=>br a.2.1 (some (a.1,true,())) (some (d.1,false,())))))):=by kernel_rfl
def vy:Any:=.one ⟨aFs,vu,2,fun x=>pQ F0 x.1 x.2.1 x.2.2.1⟩
def Mh:bb 344 vy:=aC O5 ⟨cO,cL,b8,L8,ab9,ug,RZ,Ci,ali,trivial⟩ func344 ad (by kernel_rfl)
def Sb:=[(115,cc),(176,bO),(194,gA),(254,nF),(361,oW)]
def DA (c:D1)(r:bq)(p:D9):=bL Sb F ad f355 ay5 vu 2 (c,r,p,())
def aeD (c:D1)(r:bq)(p:D9):DA F c r p=(a6 F0 r).bind fun b=>(dd F0 c r).bind fun f=>br (!f.1) (some (b.1,false,())) ((jR F0 c p).bind fun g=>br (!g.1) (some (b.1,false,())) (br (p.2.1.toList==aj.toList) (some (b.1,false,())) (br (decide (p.1<r.2.1)) (some (b.1,false,())) ((a6 F0 r).bind fun a=>(ea F0 c r.2.2.2.2.2.1 p).bind fun d=>br (!d.2.1) (some (b.1,false,())) ((a6 F0 (a.1.1,a.1.2.1,a.1.2.2.1,a.1.2.2.2.1,a.1.2.2.2.2.1,d.1,a.1.2.2.2.2.2.2)).bind fun h=>(n8 F0 c h.1 p.1 p.2.1 false).bind fun e=>br e.1.2.1 (some (e.1.1,true,())) (some ((a.1.1,a.1.2.1,a.1.2.2.1,a.1.2.2.2.1,a.1.2.2.2.2.1,d.1,a.1.2.2.2.2.2.2),true,()))))))):=by kernel_rfl
def Mi:Any:=.one ⟨ay5,vu,2,fun x=>DA F0 x.1 x.2.1 x.2.2.1⟩
def aeE:bb 355 Mi:=aC Sb ⟨cO,b8,lr,yc,Cl,trivial⟩ func355 ad (by kernel_rfl)
def Sc:=[(115,cc),(117,bW),(176,bO),(189,eM),(194,gA),(206,yx),(251,fK),(267,ix),(295,ub),(301,hU),(302,oO),(358,oV)]
abbrev aFt:List (Ty×Bool):=[(K1,true),(ca,true),(.int .i64,false),(K9,true),(.int .i64,false)]
def DB (c:D1)(r:bq)(a:Int)(q:D9)(dJ:Int):=bL Sc F ad f356 aFt vu 2 (c,r,a,q,dJ,())
def aeF (c:D1)(r:bq)(e:Int)(q:D9)(dJ:Int):DB F c r e q dJ=(a6 F0 r).bind fun f=>(dd F0 c r).bind fun h=>br (!h.1) (some (f.1,false,())) ((bI F0 e 1 60).bind fun i=>br (!i.1) (some (f.1,false,())) ((jw F0 c q).bind fun j=>br (!j.1) (some (f.1,false,())) ((bI F0 dJ 0 (al (c.1-1))).bind fun k=>br (!k.1) (some (f.1,false,())) ((a6 F0 r).bind fun l=>(JZ F0 c r.2.2.2.1 q).bind fun m=>(dZ F0 c l.1 m.1).bind fun a=>br a.2.1 ((lg F0 c e).bind fun o=>br (o.1==r.1) (br (decide (e>=r.2.1)) ((ea F0 c a.1.2.2.2.2.2.1 (e,aj,[dJ])).bind fun g=>br (!g.2.1) (some (f.1,false,())) ((n5 F0 g.1 e aj).bind fun p=>(wg F0 c).bind fun s=>br (decide ((p.1.2.2.length:Int)>=s.1)) ((db F0 a.1.2.1 e).bind fun t=>(bE F0 (al (q.1+1)) 60).bind fun b=>(db F0 t.1 b.1).bind fun d=>some ((a.1.1,d.1,a.1.2.2.1,a.1.2.2.2.1,a.1.2.2.2.2.1,g.1,a.1.2.2.2.2.2.2),true,())) ((bE F0 (al (q.1+1)) 60).bind fun b=>(db F0 a.1.2.1 b.1).bind fun d=>some ((a.1.1,d.1,a.1.2.2.1,a.1.2.2.2.1,a.1.2.2.2.2.1,g.1,a.1.2.2.2.2.2.2),true,())))) ((bE F0 (al (q.1+1)) 60).bind fun b=>(db F0 a.1.2.1 b.1).bind fun d=>some ((a.1.1,d.1,a.1.2.2),true,()))) ((bE F0 (al (q.1+1)) 60).bind fun b=>(db F0 a.1.2.1 b.1).bind fun d=>some ((a.1.1,d.1,a.1.2.2),true,()))) (some (f.1,false,())))))):=by kernel_rfl
def Mj:Any:=.one ⟨aFt,vu,2,fun x=>DB F0 x.1 x.2.1 x.2.2.1 x.2.2.2.1 x.2.2.2.2.1⟩
def aeG:bb 356 Mj:=aC Sc ⟨cO,cq,b8,hR,lr,L8,jQ,n7,JI,mr,Cc,Ci,trivial⟩ func356 ad (by kernel_rfl)
def yK:=[(178,FL),(253,yb)]
def yL:Nat->Option Hint:=look [(2,{live:=[0,3,6],xl:=[0,3,6],rl:=[4,5]})]
def rH (p:List D4)(a x b c d:Int):= dN 43 [(0,jN 99 (K4) p),bX 3,(6,bd a)] [(3,[aq x,aq b,aq c,aq d])] []
def oX (p:List D4)(a x b c d:Int):= dN 43 [(0,jN 99 (K4) p),bX 3,(6,bd a)] [(3,[aq x,aq b,aq c,aq d])] []
def yM (a:St):Option U:=ek yK F yL [.r,.r,.l,.b,.i] f193 J n a
def rI:=iR yK F yL [.r,.r,.l,.b] f193 abQ 2
def GK (p:List D4)(a x b c d:Int):yM F J (n+1) (rH p a x b c d)=br (decide (a<(p.length:Int))) (ck (bG a (p.length:Int)) ((ta F0 (aL p a K4.az) (x,b,c,d)).bind fun e=>br e.1 (yM F J n (rH p (al (a+1)) x b c d)) (J (.exit 0) (oX p a x b c d)))) (J (.exit 0) (oX p a x b c d)):=by kernel_rfl
def Z9 (p:List D4)(a x b c d:Int):rI F (.exit 0) (oX p a x b c d)=ck (Qw 0 a (p.length:Int)) (ck (dV F 0 ((p.take a.toNat).drop (0:Int).toNat).length 32) (ck (dV F ([]++((p.take a.toNat).drop (0:Int).toNat)).length [(x,b,c,d)].length 32) (ck (Qw a (p.length:Int) (p.length:Int)) (ck (dV F (([]++((p.take a.toNat).drop (0:Int).toNat))++[(x,b,c,d)]).length ((p.take (p.length:Int).toNat).drop a.toNat).length 32) ((EH F0 ((([]++((p.take a.toNat).drop (0:Int).toNat))++[(x,b,c,d)])++((p.take (p.length:Int).toNat).drop a.toNat))).bind fun e=>br (!e.1) (ck (dV F 0 p.length 32) (some ([]++p,false,()))) (some ((([]++((p.take a.toNat).drop (0:Int).toNat))++[(x,b,c,d)])++((p.take (p.length:Int).toNat).drop a.toNat),true,()))))))):=by kernel_rfl
def rJ (p:D5)(x:D4):=bL yK F yL f193 [(K5,false),(K4,true)] abQ 2 (p,x,())
def ah6 (p:D5)(x:D4):rJ F p x=yM F (rI F) F.n (rH p 0 x.1 x.2.1 x.2.2.1 x.2.2.2):=by kernel_rfl
def rK:Any:=.one ⟨[(K5,false),(K4,true)],abQ,2,fun x=>rJ F0 x.1 x.2.1⟩
def FY:bb 193 rK:=aC yK ⟨Uf,OE,trivial⟩ func193 yL (by kernel_rfl)
def YB:=[(115,cc),(176,bO),(193,rK)]
abbrev aFu:List (Ty×Bool):=[(K1,true),(ca,true),(K4,true)]
def Mk (c:D1)(r:bq)(x:D4):=bL YB F ad f357 aFu vu 2 (c,r,x,())
def alj (c:D1)(r:bq)(x:D4):Mk F c r x=(a6 F0 r).bind fun a=>(dd F0 c r).bind fun d=>br (!d.1) (some (a.1,false,())) ((rJ F0 r.2.2.2.2.1 x).bind fun b=>br b.2.1 (some ((a.1.1,a.1.2.1,a.1.2.2.1,a.1.2.2.2.1,b.1,a.1.2.2.2.2.2),b.2.1,())) (some (a.1,b.2.1,()))):=by kernel_rfl
def Se:Any:=.one ⟨aFu,vu,2,fun x=>Mk F0 x.1 x.2.1 x.2.2.1⟩
def alk:bb 357 Se:=aC YB ⟨cO,b8,FY,trivial⟩ func357 ad (by kernel_rfl)
def UH:=[(344,vy),(355,Mi),(356,Mj),(357,Se)]
abbrev apN:List (Ty×Bool):=[(K1,true),(ca,true),(K22,true)]
def H9 (c:D1)(r:bq)(m:T2):=bL UH F ad f339 apN vu 2 (c,r,m,())
def ah7 (c:D1)(r:bq)(m:T2):H9 F c r m=br (m.1==1) ((pQ F0 c r m.2.2.1).bind fun a=>some (a.1,a.2.1,())) (br (m.1==2) ((DA F0 c r m.2.2.2.1).bind fun b=>some (b.1,b.2.1,())) (br (m.1==3) ((DB F0 c r m.2.1 m.2.2.2.2.1 m.2.2.2.2.2.1).bind fun d=>some (d.1,d.2.1,())) ((Mk F0 c r m.2.2.2.2.2.2).bind fun e=>some (e.1,e.2.1,())))):=by kernel_rfl
def O6:Any:=.one ⟨apN,vu,2,fun x=>H9 F0 x.1 x.2.1 x.2.2.1⟩
def ah8:bb 339 O6:=aC UH ⟨Mh,aeE,aeG,alk,trivial⟩ func339 ad (by kernel_rfl)
def rL:=[(262,h7)]
def rM:Nat->Option Hint:=look [(3,{live:=[0,1,5,6],xl:=[5],rl:=[4]})]
def iz (a:List D9)(b i:Int)(c:List D9):= dN 30 [(0,jN 29 (K9) a),(1,bd b),(5,.v (.c (.own 1000000 none))),(6,bd i)] [] [aF 1000000 29 K9 c]
def GL (a:List D9):= dN 30 [(5,.v (.c (.own 1000000 none)))] [] [aF 1000000 29 K9 a]
def lx (a:St):Option U:=ek rL F rM [.r,.r,.l,.r,.b,.i] f340 J n a
def vz:=iR rL F rM [.r,.r,.l,.r,.b] f340 GF 2
def Bm (a:List D9)(c i:Int)(b:List D9):lx F J (n+1) (iz a c i b)=br (decide (i<(a.length:Int))) (ck (bG i (a.length:Int)) (br (decide ((aL a i K9.az).1>=c)) (ck (bG i (a.length:Int)) ((fL F0 (aL a i K9.az)).bind fun d=>ck (dV F b.length [d.1].length 48) (lx F J n (iz a c (al (i+1)) (b++[d.1]))))) (lx F J n (iz a c (al (i+1)) b)))) (J (.exit 0) (GL b)):=by kernel_rfl
def UI (a:List D9):vz F (.exit 0) (GL a)=some (a,()):=by kernel_rfl
def yN (a:D14)(b:Int):=bL rL F rM f340 [(K14,false),(.int .i64,false)] GF 2 (a,b,())
def ack (a:D14)(b:Int):yN F a b=lx F (vz F) F.n (iz a b 0 []):=by kernel_rfl
def J6:Any:=.one ⟨[(K14,false),(.int .i64,false)],GF,2,fun x=>yN F0 x.1 x.2.1⟩
def acm:bb 340 J6:=aC rL ⟨nJ,trivial⟩ func340 rM (by kernel_rfl)
def acn:=[(115,cc),(155,FT),(156,vq),(157,JV)]
def J7 (c:D1)(r:bq):=bL acn F ad f86 Lp l7 2 (c,r,())
def aog (c:D1)(r:bq):J7 F c r=(dd F0 c r).bind fun a=>br (!a.1) (some (([],[]),())) ((k2 F0).bind fun b=>(vw F0 r.2.2.2.1.2.2.2).bind fun d=>(wj F0 b.1 d.1).bind fun e=>some (e.1,())):=by kernel_rfl
def UJ:Any:=.one ⟨Lp,l7,2,fun x=>J7 F0 x.1 x.2.1⟩
def aoh:bb 86 UJ:=aC acn ⟨cO,Uq,LN,Ys,trivial⟩ func86 ad (by kernel_rfl)
def uK:=[(190,HO)]
def uL:Nat->Option Hint:=look [(3,{live:=[0,3,5,6],xl:=[5],rl:=[4]})]
def jW (p:List D4)(i:Int)(l a:List Int)(b:List D4):= dN 35 [(0,jN 99 (K4) p),bX 3,(5,.v (.c (.own 1000000 none))),(6,bd i)] [(3,[.ro false 3 (.int .i64) l,.ro false 3 (.int .i64) a])] [aF 1000000 99 K4 b]
def J8 (a:List D4):= dN 35 [(5,.v (.c (.own 1000000 none)))] [] [aF 1000000 99 K4 a]
def nL (a:St):Option U:=ek uK F uL [.r,.r,.l,.r,.b,.i] f341 J n a
def yO:=iR uK F uL [.r,.r,.l,.r,.b] f341 kv 2
def ET (p:List D4)(i:Int)(l b:List Int)(a:List D4):nL F J (n+1) (jW p i l b a)=br (decide (i<(p.length:Int))) (ck (bG i (p.length:Int)) ((JH F0 (l,b) (aL p i K4.az)).bind fun c=>br (c.2.1 != 2) (ck (bG i (p.length:Int)) (ck (dV F a.length [(aL p i K4.az)].length 32) (nL F J n (jW p (al (i+1)) l b (a++[(aL p i K4.az)]))))) (nL F J n (jW p (al (i+1)) l b a)))) (J (.exit 0) (J8 a)):=by kernel_rfl
def Xu (a:List D4):yO F (.exit 0) (J8 a)=some (a,()):=by kernel_rfl
def DC (p:D5)(l:D10):=bL uK F uL f341 ay0 kv 2 (p,l,())
def aeH (p:D5)(l:D10):DC F p l=nL F (yO F) F.n (jW p 0 l.1 l.2 []):=by kernel_rfl
def Ml:Any:=.one ⟨ay0,kv,2,fun x=>DC F0 x.1 x.2.1⟩
def aeI:bb 341 Ml:=aC uK ⟨Ue,trivial⟩ func341 uL (by kernel_rfl)
def agJ:=[(86,UJ),(115,cc),(176,bO),(181,iw),(339,O6),(340,J6),(341,Ml)]
def O7 (c:D1)(r:bq)(m:T2):=bL agJ F ad f318 apN vu 2 (c,r,m,())
def arM (c:D1)(r:bq)(m:T2):O7 F c r m=(dd F0 c r).bind fun e=>br (!e.1) ((a6 F0 r).bind fun b=>some (b.1,false,())) ((eN F0 c m).bind fun f=>br (!f.1) ((a6 F0 r).bind fun b=>some (b.1,false,())) ((H9 F0 c r m).bind fun a=>br (!a.2.1) ((a6 F0 r).bind fun g=>some (g.1,false,())) ((yN F0 a.1.2.2.2.2.2.1 (al (a.1.2.1-1))).bind fun d=>(J7 F0 c (a.1.1,a.1.2.1,a.1.2.2.1,a.1.2.2.2.1,a.1.2.2.2.2.1,d.1,a.1.2.2.2.2.2.2)).bind fun h=>(DC F0 a.1.2.2.2.2.1 h.1).bind fun i=>some ((a.1.1,a.1.2.1,a.1.2.2.1,a.1.2.2.2.1,i.1,d.1,a.1.2.2.2.2.2.2),true,())))):=by kernel_rfl
def NV:Any:=.one ⟨apN,vu,2,fun x=>O7 F0 x.1 x.2.1 x.2.2.1⟩
def aco:bb 318 NV:=aC agJ ⟨aoh,cO,b8,n4,ah8,acm,aeI,trivial⟩ func318 ad (by kernel_rfl)
def YC:=[(83,cJ),(116,JS),(117,bW),(318,NV)]
def wq (w:l1)(d:D45):Option (l1×Int×l1):=anN Tryz.prog (look YC) F ad f298 [(gq,true),(K45,true)] 0 (gq,true) (.int .i64,false) (gq,true) (w,d,())
def alm (w:l1)(d:D45):wq F w d=(bI F0 d.2.1 0 (al ((w.2.2.2.1.length:Int)-1))).bind fun b=>br (!b.1) (some (gq.az,2,w)) (ck (bG d.2.1 (w.2.2.2.1.length:Int)) (br (d.1==5) (br (decide ((w.2.2.2.1.length:Int)>=60)) (some (gq.az,4,w)) (ck (dV F 0 (aL w.2.2.2.1 d.2.1 (0,[])).2.length 1) (ck (dV F w.2.2.2.1.length [((aL w.2.2.2.1 d.2.1 (0,[])).1,[]++(aL w.2.2.2.1 d.2.1 (0,[])).2)].length 32) (some ((w.1,w.2.1,w.2.2.1,w.2.2.2.1++[((aL w.2.2.2.1 d.2.1 (0,[])).1,[]++(aL w.2.2.2.1 d.2.1 (0,[])).2)],w.2.2.2.2),0,gq.az))))) (ck (okT d.2.1 (w.2.2.2.1.length:Int)) (ck (Qw (al (d.2.1+1)) (w.2.2.2.1.length:Int) (w.2.2.2.1.length:Int)) (ck (dV F 0 (w.2.2.2.1.take d.2.1.toNat).length 32) (ck (dV F ([]++(w.2.2.2.1.take d.2.1.toNat)).length ((w.2.2.2.1.take (w.2.2.2.1.length:Int).toNat).drop (al (d.2.1+1)).toNat).length 32) (br (d.1==3) ((cS F0 w.2.1 (aL w.2.2.2.1 d.2.1 (0,[])).1).bind fun c=>br (!c.1) ((JR F0 w.1 (aL w.2.2.2.1 d.2.1 (0,[])).2).bind fun e=>ck (bG (aL w.2.2.2.1 d.2.1 (0,[])).1 (w.2.2.1.length:Int)) ((O7 F0 w.1 (aL w.2.2.1 (aL w.2.2.2.1 d.2.1 (0,[])).1 ca.az) e.1).bind fun a=>br a.2.1 (ck (bG (aL w.2.2.2.1 d.2.1 (0,[])).1 (w.2.2.1.length:Int)) (some ((w.1,w.2.1,w.2.2.1.set (aL w.2.2.2.1 d.2.1 (0,[])).1.toNat a.1,([]++(w.2.2.2.1.take d.2.1.toNat))++((w.2.2.2.1.take (w.2.2.2.1.length:Int).toNat).drop (al (d.2.1+1)).toNat),w.2.2.2.2),0,gq.az))) (some ((w.1,w.2.1,w.2.2.1,([]++(w.2.2.2.1.take d.2.1.toNat))++((w.2.2.2.1.take (w.2.2.2.1.length:Int).toNat).drop (al (d.2.1+1)).toNat),w.2.2.2.2),0,gq.az)))) (some ((w.1,w.2.1,w.2.2.1,([]++(w.2.2.2.1.take d.2.1.toNat))++((w.2.2.2.1.take (w.2.2.2.1.length:Int).toNat).drop (al (d.2.1+1)).toNat),w.2.2.2.2),0,gq.az))) (some ((w.1,w.2.1,w.2.2.1,([]++(w.2.2.2.1.take d.2.1.toNat))++((w.2.2.2.1.take (w.2.2.2.1.length:Int).toNat).drop (al (d.2.1+1)).toNat),w.2.2.2.2),0,gq.az))))))))):=by kernel_rfl
def Sf:Any:=.sel ⟨[(gq,true),(K45,true)],0,(gq,true),(.int .i64,false),(gq,true),fun x=>wq F0 x.1 x.2.1⟩
def aln:bb 298 Sf:=ok4 (show w4 Tryz.prog TB YC from⟨dr,Yr,cq,aco,trivial⟩) func298 (by kernel_rfl) (by kernel_rfl) ad (by kernel_rfl) (by kernel_rfl)
def DD:Nat->Option Hint:=look [(2,{live:=[0,1,2,3,9],rl:=[8]})]
def jy (a:List bK)(b:Int)(name:ByteArray)(dJ i:Int):= bD 41 [(0,jN 91 (cA) a),(1,bd b),(2,ZU name),(3,bd dJ),(9,bd i)]
def Sg (a:Bool):= bD 41 [(8,ED a)]
def O8   := bD 41 []
def n9 (a:St):Option U:=ek ax F DD [.r,.l,.r,.b,.i] f112 J n a
def uM:=iR ax F DD [.r,.l,.r,.b] f112 aM 1
def J9 (a:List bK)(b:Int)(name:ByteArray)(dJ i:Int):n9 F J (n+1) (jy a b name dJ i)=br (decide (i<(a.length:Int))) (ck (bG i (a.length:Int)) (br ((aL a i cA.az).1==b) (ck (bG i (a.length:Int)) (br ((aL a i cA.az).2.1.toList==name.toList) (ck (bG i (a.length:Int)) (br ((aL a i cA.az).2.2==dJ) (J .ret (Sg true)) (n9 F J n (jy a b name dJ (al (i+1)))))) (n9 F J n (jy a b name dJ (al (i+1)))))) (n9 F J n (jy a b name dJ (al (i+1)))))) (J (.exit 0) (O8)):=by kernel_rfl
def aeJ (a:Bool):uM F .ret (Sg a)=some (a,()):=by kernel_rfl
def acp: uM F (.exit 0) (O8)=some (false,()):=by kernel_rfl
abbrev aFv:List (Ty×Bool):=[(K39,false),(.int .i64,false),(.str,false),(.int .i64,false)]
def EU (a:D39)(b:Int)(name:ByteArray)(dJ:Int):=bL ax F DD f112 aFv aM 1 (a,b,name,dJ,())
def alo (a:D39)(b:Int)(name:ByteArray)(dJ:Int):EU F a b name dJ=n9 F (uM F) F.n (jy a b name dJ 0):=by kernel_rfl
def FZ:Any:=.one ⟨aFv,aM,1,fun x=>EU F0 x.1 x.2.1 x.2.2.1 x.2.2.2.1⟩
def UK:bb 112 FZ:=aC ax trivial func112 DD (by kernel_rfl)
def DE:=[(83,cJ),(112,FZ)]
def DF:Nat->Option Hint:=look [(2,{live:=[0,1,2,3,4,11],rl:=[10]})]
def nM (aJ:List Int)(a:List bK)(b:Int)(name:ByteArray)(dJ:List Int)(i:Int):= bD 36 [(0,jN 3 (.int .i64) aJ),(1,jN 91 (cA) a),(2,bd b),(3,ZU name),(4,jN 3 (.int .i64) dJ),(11,bd i)]
def Sh (a:Bool):= bD 36 [(10,ED a)]
def O9   := bD 36 []
def ti (a:St):Option U:=ek DE F DF [.r,.l,.r,.b,.i] f342 J n a
def uN:=iR DE F DF [.r,.l,.r,.b] f342 aM 1
def Ka (aJ:List Int)(a:List bK)(b:Int)(name:ByteArray)(dJ:List Int)(i:Int):ti F J (n+1) (nM aJ a b name dJ i)=br (decide (i<(dJ.length:Int))) (ck (bG i (dJ.length:Int)) ((cS F0 aJ (aL dJ i 0)).bind fun c=>br (!c.1) (ck (bG i (dJ.length:Int)) ((EU F0 a b name (aL dJ i 0)).bind fun d=>br (!d.1) (J .ret (Sh false)) (ti F J n (nM aJ a b name dJ (al (i+1)))))) (ti F J n (nM aJ a b name dJ (al (i+1)))))) (J (.exit 0) (O9)):=by kernel_rfl
def aeK (a:Bool):uN F .ret (Sh a)=some (a,()):=by kernel_rfl
def acq: uN F (.exit 0) (O9)=some (true,()):=by kernel_rfl
abbrev aFw:List (Ty×Bool):=[(.sl 3 (.int .i64),false),(K39,false),(.int .i64,false),(.str,false),(.sl 3 (.int .i64),false)]
def wu (aJ:List Int)(a:D39)(b:Int)(name:ByteArray)(dJ:List Int):=bL DE F DF f342 aFw aM 1 (aJ,a,b,name,dJ,())
def alp (aJ:List Int)(a:D39)(b:Int)(name:ByteArray)(dJ:List Int):wu F aJ a b name dJ=ti F (uN F) F.n (nM aJ a b name dJ 0):=by kernel_rfl
def Si:Any:=.one ⟨aFw,aM,1,fun x=>wu F0 x.1 x.2.1 x.2.2.1 x.2.2.2.1 x.2.2.2.2.1⟩
def alq:bb 342 Si:=aC DE ⟨dr,UK,trivial⟩ func342 DF (by kernel_rfl)
end
end Go.Am.Tryz
