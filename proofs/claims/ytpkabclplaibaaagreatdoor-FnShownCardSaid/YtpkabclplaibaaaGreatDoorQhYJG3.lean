/- No condition. -/
import Derived.Test.YtpkabclplaibaaaGreatDoorQhYJG2
set_option linter.all false
set_option maxRecDepth 100000
namespace Go.Am.Tryz
open Go.Am Go.Proofs Go.Proofs.Tryz
noncomputable section
variable {U:Type} (F:kk) (J:Ex->St->Option U) (n:Nat)
def eh:=[(83,cb),(97,cc),(98,al),(121,bg),(186,bW),(189,dK),(265,G1),(266,yW),(267,fM)]
def ei:Nat->Option Hint:=look [(8,{live:=[3,4,5,6,7],CY:=[(4,8,3,.int .i64),(4,11,3,.int .i64),(4,14,3,.int .i64)],xl:=[4,6],rl:=[4]}),(19,{live:=[0,3,4,5,6,10],CY:=[(4,8,3,.int .i64),(4,11,3,.int .i64),(4,14,3,.int .i64)],xl:=[0,3,4,6],rl:=[4]})]
def cv (b a k:Int)(c:List Int)(d e w f:Int)(g:List Int)(h:List cN)(i:List fi)(j:List et)(v x y z A:Int)(B:ByteArray)(C:Int)(D:ByteArray)(E:Int)(G:ByteArray)(l:Int)(m:ByteArray)(o p q r s:Int)(H t u:List Int):St:={nt:=152,tm:=[(0,.v (.c (.ptr 4000000 0))),de 3,de 4,(5,cD b),(6,cD a),(10,cD k)],bx:=[(4000000,[.ro true 5 (.int .u8) c,aw d,aw e]),(3,[aw w,aw f,.ro false 3 (.int .i64) g,.ro false 42 (dU) h,.ro false 95 (tn) i,.ro false 91 (iV) j]),(4,[aw v,aw x,aw y,aw z,aw A,.str B,aw C,.str D,.own 1000000 none,aw E,.str G,.own 1000001 none,aw l,.str m,.own 1000002 none,aw o,aw p,aw q,aw r,aw s])],bl:=[aJ 1000000 3 (.int .i64) H,aJ 1000001 3 (.int .i64) t,aJ 1000002 3 (.int .i64) u],sp:=.v (.c (.ptr 4000000 0))}
def wG (a:List Int)(b c k l m o p:Int)(q:ByteArray)(r:Int)(s:ByteArray)(t:Int)(u:ByteArray)(d:Int)(e:ByteArray)(f g h i j:Int):St:={nt:=152,tm:=[de 4],bx:=[(4000000,[.ro true 5 (.int .u8) a,aw b,aw c]),(4,[aw k,aw l,aw m,aw o,aw p,.str q,aw r,.str s,.nil,aw t,.str u,.nil,aw d,.str e,.nil,aw f,aw g,aw h,aw i,aw j])],bl:=[],sp:=.v (.c (.ptr 4000000 0))}
def tG (a:Int)(b:List Int)(c d w e:Int)(f:List Int)(g:List cN)(h:List fi)(i:List et)(t u v x y:Int)(z:ByteArray)(A:Int)(B:ByteArray)(C:Int)(D:ByteArray)(j:Int)(k:ByteArray)(l m o p q:Int)(E r s:List Int):St:={nt:=152,tm:=[(0,.v (.c (.ptr 4000000 0))),de 3,de 4,(6,cD a)],bx:=[(4000000,[.ro true 5 (.int .u8) b,aw c,aw d]),(3,[aw w,aw e,.ro false 3 (.int .i64) f,.ro false 42 (dU) g,.ro false 95 (tn) h,.ro false 91 (iV) i]),(4,[aw t,aw u,aw v,aw x,aw y,.str z,aw A,.str B,.own 1000000 none,aw C,.str D,.own 1000001 none,aw j,.str k,.own 1000002 none,aw l,aw m,aw o,aw p,aw q])],bl:=[aJ 1000000 3 (.int .i64) E,aJ 1000001 3 (.int .i64) r,aJ 1000002 3 (.int .i64) s],sp:=.v (.c (.ptr 4000000 0))}
def c1 (a:St):Option U:=hl eh F ei [.r,.r,.r,.l,.r,.b,.r,.e,.r,.t,.r,.b,.i] f199 J n a
def cw:=EV eh F ei [.r,.r,.r,.l,.r,.b,.r,.e,.r,.t,.r,.b] f199 .cur [(K45,true)] aX 2
def cx (b a k:Int)(c:List Int)(d e w f:Int)(g:List Int)(h:List cN)(i:List fi)(j:List et)(v x y z A:Int)(B:ByteArray)(C:Int)(D:ByteArray)(E:Int)(G:ByteArray)(l:Int)(m:ByteArray)(o p q r s:Int)(H t u:List Int):St:={nt:=152,tm:=[de 3,de 4,(5,cD b),(6,cD a),(7,cD k)],bx:=[(4000000,[.ro true 5 (.int .u8) c,aw d,aw e]),(3,[aw w,aw f,.ro false 3 (.int .i64) g,.ro false 42 (dU) h,.ro false 95 (tn) i,.ro false 91 (iV) j]),(4,[aw v,aw x,aw y,aw z,aw A,.str B,aw C,.str D,.own 1000000 none,aw E,.str G,.own 1000001 none,aw l,.str m,.own 1000002 none,aw o,aw p,aw q,aw r,aw s])],bl:=[aJ 1000000 3 (.int .i64) H,aJ 1000001 3 (.int .i64) t,aJ 1000002 3 (.int .i64) u],sp:=.v (.c (.ptr 4000000 0))}
def wH (a:List Int)(b c k l m o p:Int)(q:ByteArray)(r:Int)(s:ByteArray)(t:Int)(u:ByteArray)(d:Int)(e:ByteArray)(f g h i j:Int):St:={nt:=152,tm:=[de 4],bx:=[(4000000,[.ro true 5 (.int .u8) a,aw b,aw c]),(4,[aw k,aw l,aw m,aw o,aw p,.str q,aw r,.str s,.nil,aw t,.str u,.nil,aw d,.str e,.nil,aw f,aw g,aw h,aw i,aw j])],bl:=[],sp:=.v (.c (.ptr 4000000 0))}
def tH (a:Int)(b:List Int)(c d o p q r s:Int)(t:ByteArray)(u:Int)(v:ByteArray)(w:Int)(x:ByteArray)(e:Int)(f:ByteArray)(g h i j k:Int)(y l m:List Int):St:={nt:=152,tm:=[de 4,(6,cD a)],bx:=[(4000000,[.ro true 5 (.int .u8) b,aw c,aw d]),(4,[aw o,aw p,aw q,aw r,aw s,.str t,aw u,.str v,.own 1000000 none,aw w,.str x,.own 1000001 none,aw e,.str f,.own 1000002 none,aw g,aw h,aw i,aw j,aw k])],bl:=[aJ 1000000 3 (.int .i64) y,aJ 1000001 3 (.int .i64) l,aJ 1000002 3 (.int .i64) m],sp:=.v (.c (.ptr 4000000 0))}
def c2 (a:St):Option U:=hl eh F ei [.r,.r,.r,.l,.r,.b,.r,.t,.l,.r,.b,.i] f199 J n a
def c3:=EV eh F ei [.r,.r,.r,.l,.r,.b,.r,.t,.l,.r,.b] f199 .cur [(K45,true)] aX 2
def pW (b a k:Int)(d:List Int)(e f w g:Int)(h:List Int)(c:List cN)(i:List fi)(j:List et)(v x y z A:Int)(B:ByteArray)(C:Int)(D:ByteArray)(E:Int)(G:ByteArray)(l:Int)(m:ByteArray)(o p q r s:Int)(H t u:List Int):c1 F J (n+1) (cv b a k d e f w g h c i j v x y z A B C D E G l m o p q r s H t u)=br (decide (k<b)) (ck (!(b==0)) (ck (b5 (Int.tmod (ak (a+k)) b) (c.length:Int)) (br (decide (((bd c (Int.tmod (ak (a+k)) b) dU.aI).2.2.2.2.2.2.2.length:Int)>0)) (ck (!(b==0)) (J .ret (wG d e f 2 (Int.tmod (ak (a+k)) b) 0 0 0 ah 0 ah 0 ah 0 ah 0 0 0 0 0))) (c1 F J n (cv b a (ak (k+1)) d e f w g h c i j v x y z A B C D E G l m o p q r s H t u))))) (J (.exit 3) (tG a d e f w g h c i j v x y z A B C D E G l m o p q r s H t u)):=by kernel_rfl
def pX (b a k:Int)(c:List Int)(d e w g:Int)(h:List Int)(f:List cN)(G:List fi)(H:List et)(t u v x y:Int)(z:ByteArray)(A:Int)(B:ByteArray)(C:Int)(D:ByteArray)(i:Int)(j:ByteArray)(l m o p q:Int)(E r s:List Int):c2 F J (n+1) (cx b a k c d e w g h f G H t u v x y z A B C D i j l m o p q E r s)=br (decide (k<b)) (ck (!(b==0)) (ck (b5 (Int.tmod (ak (a+k)) b) (f.length:Int)) ((J6 F0 (w,g) (bd f (Int.tmod (ak (a+k)) b) dU.aI)).bind fun I=>br I.2.1 (ck (!(b==0)) ((cu F0 h (Int.tmod (ak (a+k)) b)).bind fun K=>br (!K.1) (ck (!(b==0)) (J .ret (wH c d e 1 (Int.tmod (ak (a+k)) b) 0 0 0 ah 0 ah 0 ah 0 ah 0 0 0 0 0))) (c2 F J n (cx b a (ak (k+1)) c d e w g h f G H t u v x y z A B C D i j l m o p q E r s)))) (c2 F J n (cx b a (ak (k+1)) c d e w g h f G H t u v x y z A B C D i j l m o p q E r s))))) (J (.exit 1) (tH a c d e t u v x y z A B C D i j l m o p q E r s)):=by kernel_rfl
def IV (a:List Int)(b c k l m o p:Int)(q:ByteArray)(r:Int)(s:ByteArray)(t:Int)(u:ByteArray)(d:Int)(e:ByteArray)(f g h i j:Int):cw F .ret (wG a b c k l m o p q r s t u d e f g h i j)=some (((k,l,m,o,p,(q,r,s,[]),(t,u,[]),(d,e,[]),f,g,h,i,j),()),(a,b,c),()):=by kernel_rfl
def G3 (a:Int)(b:List Int)(c d w g:Int)(h:List Int)(i:List cN)(e:List fi)(j:List et)(v x y z A:Int)(B:ByteArray)(C:Int)(D:ByteArray)(E:Int)(G:ByteArray)(k:Int)(l:ByteArray)(m o p q r:Int)(H s t:List Int):cw F (.exit 3) (tG a b c d w g h i e j v x y z A B C D E G k l m o p q r H s t)=br ((e.length:Int)==0) (some (((2,a,0,0,0,(ah,0,ah,[]),(0,ah,[]),(0,ah,[]),0,0,0,0,0),()),(b,c,d),())) ((bh F0 (e.length:Int) 4).bind fun u=>(af F0 (b,c,d) u.1).bind fun f=>some (((3,f.1.1,0,0,0,(ah,0,ah,[]),(0,ah,[]),(0,ah,[]),0,0,0,0,0),()),f.2.1,())):=by kernel_rfl
def IW (a:List Int)(b c k l m o p:Int)(q:ByteArray)(r:Int)(s:ByteArray)(t:Int)(u:ByteArray)(d:Int)(e:ByteArray)(f g h i j:Int):c3 F .ret (wH a b c k l m o p q r s t u d e f g h i j)=some (((k,l,m,o,p,(q,r,s,[]),(t,u,[]),(d,e,[]),f,g,h,i,j),()),(a,b,c),()):=by kernel_rfl
def G4 (a:Int)(b:List Int)(c d o p q r s:Int)(t:ByteArray)(u:Int)(v:ByteArray)(w:Int)(x:ByteArray)(e:Int)(f:ByteArray)(g h i j k:Int)(y l m:List Int):c3 F (.exit 1) (tH a b c d o p q r s t u v w x e f g h i j k y l m)=some (((7,a,0,0,0,(ah,0,ah,[]),(0,ah,[]),(0,ah,[]),0,0,0,0,0),()),(b,c,d),()):=by kernel_rfl
def mu (c:D2)(w:tv):=eX eh F ei f199 abg 0 .cur [(K45,true)] aX 2 (c,w,())
def Mi (c:D2)(w:tv):mu F c w=(cO F0 (w.2.2.1.length:Int) 1).bind fun l=>(af F0 c l.1).bind fun b=>(af F0 b.2.1 20).bind fun a=>br (a.1.1==0) (c2 F (c3 F) F.n (cx (w.2.2.1.length:Int) b.1.1 0 a.2.1.1 a.2.1.2.1 a.2.1.2.2 w.1.1 w.1.2 w.2.1 w.2.2.1 w.2.2.2.1 w.2.2.2.2 0 0 0 0 0 ah 0 ah 0 ah 0 ah 0 0 0 0 0 [] [] [])) (br (a.1.1==1) (c2 F (c3 F) F.n (cx (w.2.2.1.length:Int) b.1.1 0 a.2.1.1 a.2.1.2.1 a.2.1.2.2 w.1.1 w.1.2 w.2.1 w.2.2.1 w.2.2.2.1 w.2.2.2.2 0 0 0 0 0 ah 0 ah 0 ah 0 ah 0 0 0 0 0 [] [] [])) (br (a.1.1==2) (c2 F (c3 F) F.n (cx (w.2.2.1.length:Int) b.1.1 0 a.2.1.1 a.2.1.2.1 a.2.1.2.2 w.1.1 w.1.2 w.2.1 w.2.2.1 w.2.2.2.1 w.2.2.2.2 0 0 0 0 0 ah 0 ah 0 ah 0 ah 0 0 0 0 0 [] [] [])) (br (a.1.1==3) (c1 F (cw F) F.n (cv (w.2.2.1.length:Int) b.1.1 0 a.2.1.1 a.2.1.2.1 a.2.1.2.2 w.1.1 w.1.2 w.2.1 w.2.2.1 w.2.2.2.1 w.2.2.2.2 0 0 0 0 0 ah 0 ah 0 ah 0 ah 0 0 0 0 0 [] [] [])) (br (a.1.1==4) (c1 F (cw F) F.n (cv (w.2.2.1.length:Int) b.1.1 0 a.2.1.1 a.2.1.2.1 a.2.1.2.2 w.1.1 w.1.2 w.2.1 w.2.2.1 w.2.2.2.1 w.2.2.2.2 0 0 0 0 0 ah 0 ah 0 ah 0 ah 0 0 0 0 0 [] [] [])) (br (a.1.1==5) (c1 F (cw F) F.n (cv (w.2.2.1.length:Int) b.1.1 0 a.2.1.1 a.2.1.2.1 a.2.1.2.2 w.1.1 w.1.2 w.2.1 w.2.2.1 w.2.2.2.1 w.2.2.2.2 0 0 0 0 0 ah 0 ah 0 ah 0 ah 0 0 0 0 0 [] [] [])) (br (a.1.1==6) (c1 F (cw F) F.n (cv (w.2.2.1.length:Int) b.1.1 0 a.2.1.1 a.2.1.2.1 a.2.1.2.2 w.1.1 w.1.2 w.2.1 w.2.2.1 w.2.2.2.1 w.2.2.2.2 0 0 0 0 0 ah 0 ah 0 ah 0 ah 0 0 0 0 0 [] [] [])) (br (a.1.1==7) (some (((6,b.1.1,0,0,0,(ah,0,ah,[]),(0,ah,[]),(0,ah,[]),0,0,0,0,0),()),a.2.1,())) (br (a.1.1==8) (some (((7,b.1.1,0,0,0,(ah,0,ah,[]),(0,ah,[]),(0,ah,[]),0,0,0,0,0),()),a.2.1,())) (br (a.1.1==9) ((cX F0 a.2.1 2).bind fun g=>br g.1.1 ((aH F0 g.2.1 [0,0,5,40,9999]).bind fun h=>some (((8,b.1.1,h.1.1,0,0,(ah,0,ah,[]),(0,ah,[]),(0,ah,[]),0,0,0,0,0),()),h.2.1,())) ((af F0 g.2.1 2).bind fun i=>(cO F0 (w.2.2.2.1.length:Int) 1).bind fun m=>(af F0 i.2.1 m.1).bind fun j=>some (((ak (4+i.1.1),j.1.1,0,0,0,(ah,0,ah,[]),(0,ah,[]),(0,ah,[]),0,0,0,0,0),()),j.2.1,()))) (br (a.1.1==10) ((cd F0 a.2.1).bind fun k=>some (((9,b.1.1,0,4,0,(ah,0,ah,[]),(0,ah,[]),(0,ah,[]),0,k.1.1),()),k.2.1,())) (br (a.1.1==11) (br (decide ((w.2.1.length:Int)>0)) ((e2 F0 a.2.1 w).bind fun e=>some (((10,b.1.1,0,e.1.1),()),e.2.1,())) (br ((w.2.2.2.1.length:Int)==0) (some (((2,b.1.1,0,0,0,(ah,0,ah,[]),(0,ah,[]),(0,ah,[]),0,0,0,0,0),()),a.2.1,())) ((bh F0 (w.2.2.2.1.length:Int) 4).bind fun f=>(af F0 a.2.1 f.1).bind fun d=>some (((3,d.1.1,0,0,0,(ah,0,ah,[]),(0,ah,[]),(0,ah,[]),0,0,0,0,0),()),d.2.1,())))) (br (a.1.1==12) (br (decide ((w.2.1.length:Int)>0)) ((e2 F0 a.2.1 w).bind fun e=>some (((10,b.1.1,0,e.1.1),()),e.2.1,())) (br ((w.2.2.2.1.length:Int)==0) (some (((2,b.1.1,0,0,0,(ah,0,ah,[]),(0,ah,[]),(0,ah,[]),0,0,0,0,0),()),a.2.1,())) ((bh F0 (w.2.2.2.1.length:Int) 4).bind fun f=>(af F0 a.2.1 f.1).bind fun d=>some (((3,d.1.1,0,0,0,(ah,0,ah,[]),(0,ah,[]),(0,ah,[]),0,0,0,0,0),()),d.2.1,())))) (br (a.1.1==13) (br (decide ((w.2.1.length:Int)>0)) ((e2 F0 a.2.1 w).bind fun e=>some (((10,b.1.1,0,e.1.1),()),e.2.1,())) (br ((w.2.2.2.1.length:Int)==0) (some (((2,b.1.1,0,0,0,(ah,0,ah,[]),(0,ah,[]),(0,ah,[]),0,0,0,0,0),()),a.2.1,())) ((bh F0 (w.2.2.2.1.length:Int) 4).bind fun f=>(af F0 a.2.1 f.1).bind fun d=>some (((3,d.1.1,0,0,0,(ah,0,ah,[]),(0,ah,[]),(0,ah,[]),0,0,0,0,0),()),d.2.1,())))) (br ((w.2.2.2.1.length:Int)==0) (some (((2,b.1.1,0,0,0,(ah,0,ah,[]),(0,ah,[]),(0,ah,[]),0,0,0,0,0),()),a.2.1,())) ((bh F0 (w.2.2.2.1.length:Int) 4).bind fun f=>(af F0 a.2.1 f.1).bind fun d=>some (((3,d.1.1,0,0,0,(ah,0,ah,[]),(0,ah,[]),(0,ah,[]),0,0,0,0,0),()),d.2.1,())))))))))))))))):=by kernel_rfl
def wI:Any:=.two ⟨abg,0,.cur,[(K45,true)],2,aX,fun x=>mu F0 x.1 x.2.1⟩
def Mj:bw 199 wI:=hA eh ⟨cW,cY,ar,bz,cL,fs,TJ,Ow,ku,trivial⟩ func199 ei (by kernel_rfl)
def J9:=[(293,e1)]
abbrev DH:List (Ty×Bool):=[(K13,true)]
def jI (s:D13):=cE J9 F ad f247 DH DH 2 (s,())
def UJ (s:D13):jI F s=(fv F0 s.2.2.1).bind fun a=>some ((s.1,s.2.1,a.1,s.2.2.2),()):=by kernel_rfl
def iC:Any:=.one ⟨DH,DH,2,fun x=>jI F0 x.1⟩
def oL:bw 247 iC:=aM J9 ⟨iB,trivial⟩ func247 ad (by kernel_rfl)
def oM:=[(262,fy)]
def oN:Nat->Option Hint:=look [(3,{live:=[0,3,4],xl:=[3],rl:=[2]})]
def k1 (a:List D9)(i:Int)(b:List D9):= hD 21 [(0,x0 29 (K9) a),(3,.v (.c (.own 1000000 none))),(4,cD i)] [] [aJ 1000000 29 K9 b]
def Cj (a:List D9):= hD 21 [(3,.v (.c (.own 1000000 none)))] [] [aJ 1000000 29 K9 a]
def oO (a:St):Option U:=hl oM F oN [.r,.r,.l,.r,.b,.i] f248 J n a
abbrev Ka:List (Ty×Bool):=[(K14,false)]
def r0:=p9 oM F oN [.r,.r,.l,.r,.b] f248 Ka 2
def wJ (a:List D9)(i:Int)(b:List D9):oO F J (n+1) (k1 a i b)=br (decide (i<(a.length:Int))) (ck (b5 i (a.length:Int)) ((ew F0 (bd a i K9.aI)).bind fun c=>ck (fc F b.length [c.1].length 48) (oO F J n (k1 a (ak (i+1)) (b++[c.1]))))) (J (.exit 0) (Cj b)):=by kernel_rfl
def Mk (a:List D9):r0 F (.exit 0) (Cj a)=some (a,()):=by kernel_rfl
def ey (a:D14):=cE oM F oN f248 Ka Ka 2 (a,())
def Sa (a:D14):ey F a=oO F (r0 F) F.n (k1 a 0 []):=by kernel_rfl
def r1:Any:=.one ⟨Ka,Ka,2,fun x=>ey F0 x.1⟩
def FM:bw 248 r1:=aM oM ⟨kf,trivial⟩ func248 oN (by kernel_rfl)
def fk (d:D15):=cE aN F ad f249 Dt Dt 2 (d,())
def UK (d:D15):fk F d=ck (fc F 0 d.1.length 1) (some (([]++d.1,d.2),())):=by kernel_rfl
def iD:Any:=.one ⟨Dt,Dt,2,fun x=>fk F0 x.1⟩
def oP:bw 249 iD:=aM aN trivial func249 ad (by kernel_rfl)
def Nh:=[(293,e1)]
abbrev XE:List (Ty×Bool):=[(K16,true)]
def DI (b:D16):=cE Nh F ad f317 XE XE 2 (b,())
def XF (b:D16):DI F b=(fv F0 b.2).bind fun a=>some ((b.1,a.1),()):=by kernel_rfl
def HY:Any:=.one ⟨XE,XE,2,fun x=>DI F0 x.1⟩
def XG:bw 317 HY:=aM Nh ⟨iB,trivial⟩ func317 ad (by kernel_rfl)
def Kb:=[(262,fy),(293,e1),(317,HY)]
def r2 (m:WZ):=cE Kb F ad f294 yP yP 2 (m,())
def UL (m:WZ):r2 F m=(DI F0 m.2.2.1).bind fun a=>(ew F0 m.2.2.2.1).bind fun b=>(fv F0 m.2.2.2.2.1).bind fun c=>some ((m.1,m.2.1,a.1,b.1,c.1,m.2.2.2.2.2),()):=by kernel_rfl
def uv:Any:=.one ⟨yP,yP,2,fun x=>r2 F0 x.1⟩
def HZ:bw 294 uv:=aM Kb ⟨kf,iB,XG,trivial⟩ func294 ad (by kernel_rfl)
def oQ:=[(294,uv)]
def oR:Nat->Option Hint:=look [(3,{live:=[0,3,4],xl:=[3],rl:=[2]})]
def k2 (a:List ML)(i:Int)(b:List ML):= hD 28 [(0,x0 125 (Pm) a),(3,.v (.c (.own 1000000 none))),(4,cD i)] [] [aJ 1000000 125 Pm b]
def Ck (a:List ML):= hD 28 [(3,.v (.c (.own 1000000 none)))] [] [aJ 1000000 125 Pm a]
def oS (a:St):Option U:=hl oQ F oR [.r,.r,.l,.r,.b,.i] f250 J n a
abbrev aeS:List (Ty×Bool):=[(K24,false)]
def r3:=p9 oQ F oR [.r,.r,.l,.r,.b] f250 aeS 2
def wK (a:List ML)(i:Int)(b:List ML):oS F J (n+1) (k2 a i b)=br (decide (i<(a.length:Int))) (ck (b5 i (a.length:Int)) (ck (b5 i (a.length:Int)) ((r2 F0 (bd a i Pm.aI).2).bind fun c=>ck (fc F b.length [((bd a i Pm.aI).1,c.1)].length 224) (oS F J n (k2 a (ak (i+1)) (b++[((bd a i Pm.aI).1,c.1)])))))) (J (.exit 0) (Ck b)):=by kernel_rfl
def Ml (a:List ML):r3 F (.exit 0) (Ck a)=some (a,()):=by kernel_rfl
def nP (a:D24):=cE oQ F oR f250 aeS aeS 2 (a,())
def Sb (a:D24):nP F a=oS F (r3 F) F.n (k2 a 0 []):=by kernel_rfl
def r4:Any:=.one ⟨aeS,aeS,2,fun x=>nP F0 x.1⟩
def FN:bw 250 r4:=aM oQ ⟨HZ,trivial⟩ func250 oR (by kernel_rfl)
def Kc:=[(247,iC),(248,r1),(249,iD),(250,r4)]
abbrev yX:List (Ty×Bool):=[(dU,true)]
def aK (r:cN):=cE Kc F ad f176 yX yX 2 (r,())
def UM (r:cN):aK F r=(jI F0 r.2.2.2.1).bind fun a=>ck (fc F 0 r.2.2.2.2.1.length 32) ((ey F0 r.2.2.2.2.2.1).bind fun b=>(fk F0 r.2.2.2.2.2.2.1).bind fun c=>(nP F0 r.2.2.2.2.2.2.2).bind fun d=>some ((r.1,r.2.1,r.2.2.1,a.1,[]++r.2.2.2.2.1,b.1,c.1,d.1),())):=by kernel_rfl
def bs:Any:=.one ⟨yX,yX,2,fun x=>aK F0 x.1⟩
def bL:bw 176 bs:=aM Kc ⟨oL,FM,oP,FN,trivial⟩ func176 ad (by kernel_rfl)
def Kd:=[(293,e1)]
def AK (a b:D9):=cE Kd F ad f269 M5 iW 2 (a,b,())
def UN (a b:D9):AK F a b=br (decide (a.1>b.1)) ((fv F0 a).bind fun c=>some (c.1,())) ((fv F0 b).bind fun d=>some (d.1,())):=by kernel_rfl
def FO:Any:=.one ⟨M5,iW,2,fun x=>AK F0 x.1 x.2.1⟩
def UO:bw 269 FO:=aM Kd ⟨iB,trivial⟩ func269 ad (by kernel_rfl)
def Ke:=[(142,ij),(270,nM)]
def AL (name:ByteArray):=cE Ke F ad f271 bJ [(.str,false),(.bool,false)] 1 (name,())
def UP (name:ByteArray):AL F name=(jy F0 name).bind fun a=>br (!a.2.1) (some (ah,false,())) (br (decide ((a.1.length:Int)<3)) (some (ah,false,())) (ck (b5 (ak ((a.1.length:Int)-1)) (a.1.length:Int)) (ck (b5 (ak ((a.1.length:Int)-2)) (a.1.length:Int)) (br ((bd a.1 (ak ((a.1.length:Int)-1)) (0,[])).1 != (ak ((bd a.1 (ak ((a.1.length:Int)-2)) (0,[])).1+1))) (some (ah,false,())) (ck (b5 (ak ((a.1.length:Int)-2)) (a.1.length:Int)) (ck (b5 (ak ((a.1.length:Int)-3)) (a.1.length:Int)) (br ((bd a.1 (ak ((a.1.length:Int)-2)) (0,[])).1 != (ak ((bd a.1 (ak ((a.1.length:Int)-3)) (0,[])).1+1))) (some (ah,false,())) ((iq F0 name).bind fun b=>(iq F0 b.1).bind fun c=>some (c.1,true,()))))))))):=by kernel_rfl
def FP:Any:=.one ⟨bJ,[(.str,false),(.bool,false)],1,fun x=>AL F0 x.1⟩
def UQ:bw 271 FP:=aM Ke ⟨nH,AA,trivial⟩ func271 ad (by kernel_rfl)
def Kf:=[(118,dq)]
def AM (s t:ByteArray):=cE Kf F ad f154 [(.str,false),(.str,false)] b3 1 (s,t,())
def UR (s t:ByteArray):AM F s t=(dz F0 s).bind fun a=>br (!a.1) (some (false,())) ((dz F0 t).bind fun b=>br (!b.1) (some (false,())) (br (decide ((t.size:Int)>(s.size:Int))) (some (false,())) (ck (I5 0 (t.size:Int) (s.size:Int)) (br (!((s.extract (0:Int).toNat (t.size:Int).toNat).toList==t.toList)) (some (false,())) (br ((s.size:Int)==(t.size:Int)) (some (true,())) (ck (b5 (t.size:Int) (s.size:Int)) (some ((gf s (t.size:Int))==47,())))))))):=by kernel_rfl
def FQ:Any:=.one ⟨[(.str,false),(.str,false)],b3,1,fun x=>AM F0 x.1 x.2.1⟩
def US:bw 154 FQ:=aM Kf ⟨eD,trivial⟩ func154 ad (by kernel_rfl)
def XH:=[(119,bK),(154,FQ),(177,eZ),(189,dK),(247,iC),(251,eu),(269,FO),(270,nM),(271,FP)]
abbrev apj:List (Ty×Bool):=[(K1,true),(K13,true),(K9,true)]
def Cl (c:D1)(s:D13)(q:D9):=cE XH F ad f206 apj DH 2 (c,s,q,())
def aeT (c:D1)(s:D13)(q:D9):Cl F c s q=(jI F0 s).bind fun a=>(ft F0 c s).bind fun f=>br (!f.1) (some (a.1,())) ((gk F0 c q).bind fun g=>br (!g.1) (some (a.1,())) ((AK F0 q s.2.2.1).bind fun b=>(iq F0 q.2.1).bind fun h=>(bY F0 h.1).bind fun i=>(cO F0 s.2.1 i.1).bind fun d=>(AL F0 q.2.1).bind fun e=>br e.2.1 ((AM F0 e.1 s.2.2.2).bind fun j=>br j.1 (some ((a.1.1,d.1,b.1,e.1),())) (some ((a.1.1,d.1,b.1,a.1.2.2.2),()))) (some ((a.1.1,d.1,b.1,a.1.2.2.2),())))):=by kernel_rfl
def r5:Any:=.one ⟨apj,DH,2,fun x=>Cl F0 x.1 x.2.1 x.2.2.1⟩
def DJ:bw 206 r5:=aM XH ⟨cg,US,ik,fs,oL,gC,UO,AA,UQ,trivial⟩ func206 ad (by kernel_rfl)
def Kg:=[(119,bK),(177,eZ),(257,ir)]
abbrev ajp:List (Ty×Bool):=[(K1,true),(K13,true),(K16,true)]
def r6 (c:D1)(s:D13)(b:D16):=cE Kg F ad f272 ajp b3 1 (c,s,b,())
def UT (c:D1)(s:D13)(b:D16):r6 F c s b=(ft F0 c s).bind fun a=>br a.1 ((jF F0 c b).bind fun d=>br d.1 ((bY F0 b.1).bind fun e=>br (decide (e.1>s.1)) (some (decide (b.2.1>=s.2.1),())) (some (false,()))) (some (false,()))) (some (false,())):=by kernel_rfl
def uw:Any:=.one ⟨ajp,b3,1,fun x=>r6 F0 x.1 x.2.1 x.2.2.1⟩
def H0:bw 272 uw:=aM Kg ⟨cg,ik,oy,trivial⟩ func272 ad (by kernel_rfl)
def TK:=[(119,bK),(247,iC),(272,uw)]
abbrev ajq:List (Ty×Bool):=[(K13,true),(.bool,false)]
def Bo (c:D1)(s:D13)(b:D16):=cE TK F ad f207 ajp ajq 2 (c,s,b,())
def ac0 (c:D1)(s:D13)(b:D16):Bo F c s b=(jI F0 s).bind fun a=>(r6 F0 c s b).bind fun d=>br (!d.1) (some (a.1,false,())) ((bY F0 b.1).bind fun e=>some ((e.1,a.1.2),true,())):=by kernel_rfl
def EX:Any:=.one ⟨ajp,ajq,2,fun x=>Bo F0 x.1 x.2.1 x.2.2.1⟩
def Qj:bw 207 EX:=aM TK ⟨cg,oL,H0,trivial⟩ func207 ad (by kernel_rfl)
def H2:=[(236,ow)]
def vy (a b:D13):=cE H2 F ad f159 [(K13,true),(K13,true)] b3 1 (a,b,())
def Sc (a b:D13):vy F a b=br (a.1==b.1) (br (a.2.1==b.2.1) ((pU F0 a.2.2.1 b.2.2.1).bind fun c=>br c.1 (some (a.2.2.2.toList==b.2.2.2.toList,())) (some (false,()))) (some (false,()))) (some (false,())):=by kernel_rfl
def DK:Any:=.one ⟨[(K13,true),(K13,true)],b3,1,fun x=>vy F0 x.1 x.2.1⟩
def Sd:bw 159 DK:=aM H2 ⟨B7,trivial⟩ func159 ad (by kernel_rfl)
def vz:=[(117,bA)]
def vA:Nat->Option Hint:=look [(4,{live:=[0,3],xl:=[0,3],rl:=[2]})]
def oT (a:Int)(b:List Int):= hD 25 [(0,cD a),(3,.v (.c (.own 1000000 none)))] [] [aJ 1000000 5 (.int .u8) b]
def FR (a:Int)(b:List Int):= hD 25 [(0,cD a),(3,.v (.c (.own 1000000 none)))] [] [aJ 1000000 5 (.int .u8) b]
def vB (a:St):Option U:=hl vz F vA [.r,.r,.r,.l,.b,.i] f200 J n a
def yp:=p9 vz F vA [.r,.r,.r,.l,.b] f200 j6 2
def Cm (a:Int)(b:List Int):vB F J (n+1) (oT a b)=br (decide (a>127)) (ck (fc F b.length [IntKind.wrap .u8 (ak ((Int.tmod a 128)+128))].length 1) (vB F J n (oT (ak (Int.tdiv a 128)) (b++[IntKind.wrap .u8 (ak ((Int.tmod a 128)+128))])))) (J (.exit 0) (FR a b)):=by kernel_rfl
def DL (a:Int)(b:List Int):yp F (.exit 0) (FR a b)=ck (fc F b.length [IntKind.wrap .u8 (a)].length 1) (some (b++[IntKind.wrap .u8 (a)],())):=by kernel_rfl
def c4 (a:Int):=cE vz F vA f200 gg j6 2 (a,())
def XI (a:Int):c4 F a=(bn F0 a 0 2147483647).bind fun b=>br (!b.1) (some ([],())) (vB F (yp F) F.n (oT a [])):=by kernel_rfl
def dZ:Any:=.one ⟨gg,j6,2,fun x=>c4 F0 x.1⟩
def fN:bw 200 dZ:=aM vz ⟨bX,trivial⟩ func200 vA (by kernel_rfl)
def Kh:=[(200,dZ)]
def jJ (s:ByteArray):=cE Kh F ad f201 bJ j6 2 (s,())
def UU (s:ByteArray):jJ F s=(c4 F0 (s.size:Int)).bind fun a=>ck (decide ((s.size:Int)<=F.mem)) (ck (fc F a.1.length (bytesOf s).length 1) (some (a.1++(bytesOf s),()))):=by kernel_rfl
def mv:Any:=.one ⟨bJ,j6,2,fun x=>jJ F0 x.1⟩
def yq:bw 201 mv:=aM Kh ⟨fN,trivial⟩ func201 ad (by kernel_rfl)
def r7:=[(200,dZ),(201,mv),(251,eu)]
def r8:Nat->Option Hint:=look [(6,{live:=[3,5,6],xl:=[5],rl:=[4]})]
def mw (i q:Int)(a:ByteArray)(b c:List Int):= hD 41 [de 3,(5,.v (.c (.own 1000000 none))),(6,cD i)] [(3,[aw q,.str a,.ro false 3 (.int .i64) b])] [aJ 1000000 5 (.int .u8) c]
def DM (a:List Int):= hD 41 [(5,.v (.c (.own 1000000 none)))] [] [aJ 1000000 5 (.int .u8) a]
def r9 (a:St):Option U:=hl r7 F r8 [.r,.r,.r,.r,.l,.r,.b,.i] f202 J n a
def ux:=p9 r7 F r8 [.r,.r,.r,.r,.l,.r,.b] f202 j6 2
def yY (i q:Int)(c:ByteArray)(a b:List Int):r9 F J (n+1) (mw i q c a b)=br (decide (i<(a.length:Int))) (ck (b5 i (a.length:Int)) ((c4 F0 (bd a i 0)).bind fun d=>ck (fc F b.length d.1.length 1) (r9 F J n (mw (ak (i+1)) q c a (b++d.1))))) (J (.exit 0) (DM b)):=by kernel_rfl
def Ox (a:List Int):ux F (.exit 0) (DM a)=some (a,()):=by kernel_rfl
def mx (c:D1)(q:D9):=cE r7 F r8 f202 TG j6 2 (c,q,())
def UW (c:D1)(q:D9):mx F c q=(gk F0 c q).bind fun e=>br (!e.1) (some ([],())) ((c4 F0 q.1).bind fun a=>(jJ F0 q.2.1).bind fun b=>ck (fc F a.1.length b.1.length 1) ((c4 F0 (q.2.2.length:Int)).bind fun d=>ck (fc F (a.1++b.1).length d.1.length 1) (r9 F (ux F) F.n (mw 0 q.1 q.2.1 q.2.2 ((a.1++b.1)++d.1))))):=by kernel_rfl
def uy:Any:=.one ⟨TG,j6,2,fun x=>mx F0 x.1 x.2.1⟩
def H3:bw 202 uy:=aM r7 ⟨fN,yq,gC,trivial⟩ func202 r8 (by kernel_rfl)
def FT:=[(177,eZ),(200,dZ),(201,mv),(202,uy)]
def sa (c:D1)(s:D13):=cE FT F ad f369 abd j6 2 (c,s,())
def Qk (c:D1)(s:D13):sa F c s=(ft F0 c s).bind fun f=>br (!f.1) (some ([],())) ((c4 F0 s.1).bind fun a=>(c4 F0 s.2.1).bind fun b=>ck (fc F a.1.length b.1.length 1) ((mx F0 c s.2.2.1).bind fun d=>ck (fc F (a.1++b.1).length d.1.length 1) ((jJ F0 s.2.2.2).bind fun e=>ck (fc F ((a.1++b.1)++d.1).length e.1.length 1) (some (((a.1++b.1)++d.1)++e.1,()))))):=by kernel_rfl
def Cn:Any:=.one ⟨abd,j6,2,fun x=>sa F0 x.1 x.2.1⟩
def Ql:bw 369 Cn:=aM FT ⟨ik,fN,yq,H3,trivial⟩ func369 ad (by kernel_rfl)
def FU:=[(200,dZ),(369,Cn)]
def sc (c:D1)(s:D13):=cE FU F ad f364 abd j6 2 (c,s,())
def Qm (c:D1)(s:D13):sc F c s=(sa F0 c s).bind fun a=>br ((a.1.length:Int)==0) (some ([],())) ((c4 F0 (a.1.length:Int)).bind fun b=>ck (fc F b.1.length a.1.length 1) (ck (fc F (b.1++a.1).length [10].length 1) (some ((b.1++a.1)++[10],())))):=by kernel_rfl
def Co:Any:=.one ⟨abd,j6,2,fun x=>sc F0 x.1 x.2.1⟩
def Qn:bw 364 Co:=aM FU ⟨fN,Ql,trivial⟩ func364 ad (by kernel_rfl)
def Ni:=[(180,kc),(249,iD)]
abbrev apk:List (Ty×Bool):=[(K15,true),(.sl 5 (.int .u8),false)]
def DN (d:D15)(b:List Int):=cE Ni F ad f363 apk [(K15,true),(.bool,false)] 2 (d,b,())
def XJ (d:D15)(b:List Int):DN F d b=(fk F0 d).bind fun a=>ck (fc F a.1.1.length b.length 1) ((jj F0 d).bind fun e=>br (!e.1) ((fk F0 d).bind fun c=>some (c.1,false,())) ((jj F0 (a.1.1++b,a.1.2)).bind fun f=>br (!f.1) ((fk F0 d).bind fun c=>some (c.1,false,())) (some ((a.1.1++b,a.1.2),true,())))):=by kernel_rfl
def H4:Any:=.one ⟨apk,[(K15,true),(.bool,false)],2,fun x=>DN F0 x.1 x.2.1⟩
def XK:bw 363 H4:=aM Ni ⟨rM,oP,trivial⟩ func363 ad (by kernel_rfl)
def H5:=[(159,DK),(177,eZ),(247,iC),(363,H4),(364,Co)]
def dm (c:D1)(r:cN)(s:D13):Option (cN×Bool×cN):=ZN Tryz.prog (look H5) F ad f358 [(K1,true),(dU,true),(K13,true)] 1 (dU,true) (.bool,false) (dU,true) (c,r,s,())
def Se (c:D1)(r:cN)(s:D13):dm F c r s=(vy F0 r.2.2.2.1 s).bind fun b=>br b.1 (some (r,true,dU.aI)) ((sc F0 c s).bind fun d=>(DN F0 r.2.2.2.2.2.2.1 d.1).bind fun a=>br (!a.2.1) (some (dU.aI,false,r)) ((ft F0 c s).bind fun e=>br (!e.1) (some (dU.aI,false,r)) ((jI F0 s).bind fun f=>some ((r.1,r.2.1,r.2.2.1,f.1,r.2.2.2.2.1,r.2.2.2.2.2.1,a.1,r.2.2.2.2.2.2.2),true,dU.aI)))):=by kernel_rfl
def k3:Any:=.sel ⟨[(K1,true),(dU,true),(K13,true)],1,(dU,true),(.bool,false),(dU,true),fun x=>dm F0 x.1 x.2.1 x.2.2.1⟩
def uz:bw 358 k3:=ok4 (show re Tryz.prog TB H5 from⟨Sd,ik,oL,XK,Qn,trivial⟩) func358 (by kernel_rfl) (by kernel_rfl) ad (by kernel_rfl) (by kernel_rfl)
def iE:=[(120,j7)]
def iF:Nat->Option Hint:=look [(3,{live:=[0,1,5,6],xl:=[1,5],rl:=[4]}),(7,{live:=[1,5,7],xl:=[5],rl:=[4]})]
def my (b:List Int)(i:Int)(a:List Int):= hD 34 [(1,x0 3 (.int .i64) b),(5,.v (.c (.own 1000000 none))),(7,cD i)] [] [aJ 1000000 3 (.int .i64) a]
def DO (a:List Int):= hD 34 [(5,.v (.c (.own 1000000 none)))] [] [aJ 1000000 3 (.int .i64) a]
def sd (a:St):Option U:=hl iE F iF [.r,.r,.r,.l,.r,.b,.i] f297 J n a
def uA:=p9 iE F iF [.r,.r,.r,.l,.r,.b] f297 qc 2
def mz (a b:List Int)(i:Int)(c:List Int):= hD 34 [(0,x0 3 (.int .i64) a),(1,x0 3 (.int .i64) b),(5,.v (.c (.own 1000000 none))),(6,cD i)] [] [aJ 1000000 3 (.int .i64) c]
def DP (b a:List Int):= hD 34 [(1,x0 3 (.int .i64) b),(5,.v (.c (.own 1000000 none)))] [] [aJ 1000000 3 (.int .i64) a]
def se (a:St):Option U:=hl iE F iF [.r,.r,.l,.r,.b,.i] f297 J n a
def uB:=p9 iE F iF [.r,.r,.l,.r,.b] f297 qc 2
def yZ (b:List Int)(i:Int)(a:List Int):sd F J (n+1) (my b i a)=br (decide (i<(b.length:Int))) (ck (b5 i (b.length:Int)) ((iZ F0 a (bd b i 0)).bind fun c=>sd F J n (my b (ak (i+1)) c.1))) (J (.exit 2) (DO a)):=by kernel_rfl
def y0 (a b:List Int)(i:Int)(c:List Int):se F J (n+1) (mz a b i c)=br (decide (i<(a.length:Int))) (ck (b5 i (a.length:Int)) ((iZ F0 c (bd a i 0)).bind fun d=>se F J n (mz a b (ak (i+1)) d.1))) (J (.exit 0) (DP b c)):=by kernel_rfl
def Oy (a:List Int):uA F (.exit 2) (DO a)=some (a,()):=by kernel_rfl
def Oz (b a:List Int):uB F (.exit 0) (DP b a)=sd F (uA F) F.n (my b 0 a):=by kernel_rfl
def AN (a b:List Int):=cE iE F iF f297 abe qc 2 (a,b,())
def UX (a b:List Int):AN F a b=se F (uB F) F.n (mz a b 0 []):=by kernel_rfl
def FV:Any:=.one ⟨abe,qc,2,fun x=>AN F0 x.1 x.2.1⟩
def UY:bw 297 FV:=aM iE ⟨rh,trivial⟩ func297 iF (by kernel_rfl)
def H6:=[(297,FV)]
abbrev ajr:List (Ty×Bool):=[(K9,true),(.bool,false)]
def vC (a b:D9):=cE H6 F ad f263 M5 ajr 2 (a,b,())
def Sf (a b:D9):vC F a b=br (a.1 != b.1) (some ((0,ah,[]),false,())) (br (!(a.2.1.toList==b.2.1.toList)) (some ((0,ah,[]),false,())) ((AN F0 a.2.2 b.2.2).bind fun c=>some ((a.1,a.2.1,c.1),true,()))):=by kernel_rfl
def DQ:Any:=.one ⟨M5,ajr,2,fun x=>vC F0 x.1 x.2.1⟩
def Sg:bw 263 DQ:=aM H6 ⟨UY,trivial⟩ func263 ad (by kernel_rfl)
end
end Go.Am.Tryz
namespace Go.Am.Tryz
open Go.Am Go.Proofs Go.Proofs.Tryz
noncomputable section
variable {U:Type} (F:kk) (J:Ex->St->Option U) (n:Nat)
def oU:=[(179,ui),(248,r1),(254,kb),(255,pr),(262,fy),(263,DQ)]
def oV:Nat->Option Hint:=look [(4,{live:=[1,3,5,8,9,10],xl:=[1,3,5,8,9],rl:=[6,7]})]
def dM (e:List D9)(put:Bool)(i c a p:Int)(b:ByteArray)(d:List Int)(f:List D9):= hD 74 [(1,x0 29 (K9) e),de 3,de 5,(8,.v (.c (.own 1000000 none))),(9,Uk put),(10,cD i)] [(3,[aw c,aw a]),(5,[aw p,.str b,.ro false 3 (.int .i64) d])] [aJ 1000000 29 K9 f]
def Cp (e:List D9)(put:Bool)(c a p:Int)(b:ByteArray)(d:List Int)(f:List D9):= hD 74 [(1,x0 29 (K9) e),de 3,de 5,(8,.v (.c (.own 1000000 none))),(9,Uk put)] [(3,[aw c,aw a]),(5,[aw p,.str b,.ro false 3 (.int .i64) d])] [aJ 1000000 29 K9 f]
def e3 (a:St):Option U:=hl oU F oV [.r,.r,.r,.l,.r,.b,.i] f194 J n a
abbrev amg:List (Ty×Bool):=[(K14,false),(.bool,false)]
def sf:=p9 oU F oV [.r,.r,.r,.l,.r,.b] f194 amg 2
def gH (e:List D9)(put:Bool)(i c g p:Int)(b:ByteArray)(d:List Int)(a:List D9):e3 F J (n+1) (dM e put i c g p b d a)=br (decide (i<(e.length:Int))) (ck (b5 i (e.length:Int)) ((ew F0 (bd e i K9.aI)).bind fun f=>br (!put) ((lH F0 f.1 (p,b,d)).bind fun k=>br (!k.1) ((vC F0 f.1 (p,b,d)).bind fun h=>br h.2.1 (ck (fc F a.length [h.1].length 48) (e3 F J n (dM e true (ak (i+1)) c g p b d (a++[h.1])))) ((ew F0 (p,b,d)).bind fun j=>ck (fc F a.length [j.1].length 48) (ck (fc F (a++[j.1]).length [f.1].length 48) (e3 F J n (dM e true (ak (i+1)) c g p b d ((a++[j.1])++[f.1])))))) (ck (fc F a.length [f.1].length 48) (e3 F J n (dM e put (ak (i+1)) c g p b d (a++[f.1]))))) (ck (fc F a.length [f.1].length 48) (e3 F J n (dM e put (ak (i+1)) c g p b d (a++[f.1])))))) (J (.exit 0) (Cp e put c g p b d a)):=by kernel_rfl
def y1 (e:List D9)(put:Bool)(c d p:Int)(f:ByteArray)(g:List Int)(b:List D9):sf F (.exit 0) (Cp e put c d p f g b)=br (!put) ((ew F0 (p,f,g)).bind fun h=>ck (fc F b.length [h.1].length 48) ((jE F0 (c,d) (b++[h.1])).bind fun i=>br (!i.1) ((ey F0 e).bind fun a=>some (a.1,false,())) ((gD F0 (c,d) (p,f,g)).bind fun j=>br (!j.1) ((ey F0 e).bind fun a=>some (a.1,false,())) (some (b++[h.1],true,()))))) ((jE F0 (c,d) b).bind fun i=>br (!i.1) ((ey F0 e).bind fun a=>some (a.1,false,())) ((gD F0 (c,d) (p,f,g)).bind fun j=>br (!j.1) ((ey F0 e).bind fun a=>some (a.1,false,())) (some (b,true,())))):=by kernel_rfl
abbrev apl:List (Ty×Bool):=[(K1,true),(K14,false),(K9,true)]
def dn (c:D1)(a:D14)(p:D9):=cE oU F oV f194 apl amg 2 (c,a,p,())
def Sh (c:D1)(a:D14)(p:D9):dn F c a p=e3 F (sf F) F.n (dM a false 0 c.1 c.2 p.1 p.2.1 p.2.2 []):=by kernel_rfl
def eO:Any:=.one ⟨apl,amg,2,fun x=>dn F0 x.1 x.2.1 x.2.2.1⟩
def iG:bw 194 eO:=aM oU ⟨HR,FM,rJ,Dq,kf,Sg,trivial⟩ func194 oV (by kernel_rfl)
def Nj:=[(251,eu)]
def wL (c:D1)(p:D9):=cE Nj F ad f370 TG ajr 2 (c,p,())
def XL (c:D1)(p:D9):wL F c p=ck (fc F 0 p.2.2.length 8) (br (p.2.1.toList==ah.toList) (some ((0,ah,[]),false,())) ((gk F0 c (p.1,p.2.1,[]++p.2.2)).bind fun a=>br (!a.1) (some ((0,ah,[]),false,())) (some ((p.1,p.2.1,[]++p.2.2),true,())))):=by kernel_rfl
def H7:Any:=.one ⟨TG,ajr,2,fun x=>wL F0 x.1 x.2.1⟩
def XM:bw 370 H7:=aM Nj ⟨gC,trivial⟩ func370 ad (by kernel_rfl)
def Ki:=[(117,bA),(181,fK),(294,uv)]
abbrev apm:List (Ty×Bool):=[(K1,true),(dU,true),(.int .i64,false),(K22,true)]
def dN (c:D1)(r:cN)(a:Int)(m:WZ):=eX Ki F ad f347 apm 1 (.own true) rS [] 2 (c,r,a,m,())
def UZ (c:D1)(r:cN)(a:Int)(m:WZ):dN F c r a m=br (decide ((r.2.2.2.2.2.2.2.length:Int)>=30)) (some ((r,false,()),())) ((dL F0 c m).bind fun d=>br (!d.1) (some ((r,false,()),())) ((bn F0 a 0 (ak (c.1-1))).bind fun e=>br (!e.1) (some ((r,false,()),())) (br (a==r.1) (some ((r,false,()),())) ((r2 F0 m).bind fun b=>ck (fc F r.2.2.2.2.2.2.2.length [(a,b.1)].length 224) (some (((r.1,r.2.1,r.2.2.1,r.2.2.2.1,r.2.2.2.2.1,r.2.2.2.2.2.1,r.2.2.2.2.2.2.1,r.2.2.2.2.2.2.2++[(a,b.1)]),true,()),())))))):=by kernel_rfl
def iH:Any:=.two ⟨apm,1,(.own true),rS,2,[],fun x=>dN F0 x.1 x.2.1 x.2.2.1 x.2.2.2.1⟩
def oW:bw 347 iH:=ahm Ki ⟨bX,kr,HZ,trivial⟩ func347 ad (by kernel_rfl)
def Nk:=[(189,dK),(206,r5),(301,fu),(347,iH),(358,k3),(370,H7)]
abbrev ajs:List (Ty×Bool):=[(K1,true),(dU,true),(K9,true)]
def DR (c:D1)(r:cN)(p:D9):=eX Nk F ad f365 ajs 1 (.own true) rS [] 2 (c,r,p,())
def XN (c:D1)(r:cN)(p:D9):DR F c r p=(wL F0 c p).bind fun b=>br (!b.2.1) (some ((r,false,()),())) ((Cl F0 c r.2.2.2.1 b.1).bind fun f=>(dm F0 c r f.1).bind fun a=>br a.2.1 (br (decide ((ak (p.1+1))>60)) (some ((a.1,true,()),())) ((cO F0 a.1.2.1 (ak (p.1+1))).bind fun d=>(iA F0 c (ak (p.1+1))).bind fun g=>br (g.1==r.1) (some (((a.1.1,d.1,a.1.2.2),true,()),())) ((iA F0 c (ak (p.1+1))).bind fun h=>(dN F0 c (a.1.1,d.1,a.1.2.2) h.1 (3,ak (p.1+1),(ah,0,ah,[]),(0,ah,[]),b.1,r.1,0,0,0,0)).bind fun e=>some ((e.1.1,e.1.2.1,()),())))) (some (((r.1,r.2.1,r.2.2.1,(r.2.2.2.1.1,r.2.2.2.1.2.1,(r.2.2.2.1.2.2.1.1,r.2.2.2.1.2.2.1.2.1,a.2.2.2.2.2.1.2.2.1.2.2),r.2.2.2.1.2.2.2),a.2.2.2.2.2.2.1,a.2.2.2.2.2.2.2.1,(a.2.2.2.2.2.2.2.2.1.1,r.2.2.2.2.2.2.1.2),a.2.2.2.2.2.2.2.2.2),false,()),()))):=by kernel_rfl
def H8:Any:=.two ⟨ajs,1,(.own true),rS,2,[],fun x=>DR F0 x.1 x.2.1 x.2.2.1⟩
def XO:bw 365 H8:=ahm Nk ⟨fs,DJ,jH,oW,uz,XM,trivial⟩ func365 ad (by kernel_rfl)
def TL:=[(101,bS),(117,bA)]
abbrev aab:List (Ty×Bool):=[(K1,true),(.int .i64,false),(.int .i64,false)]
def Bp (c:D1)(a i:Int):=cE TL F ad f371 aab gg 1 (c,a,i,())
def ac1 (c:D1)(a i:Int):Bp F c a i=(c0 F0 c).bind fun b=>br (!b.1) (some (-1,())) (br (decide (a<0)) (some (-1,())) ((bn F0 i 0 (ak (c.1-1))).bind fun d=>br (!d.1) (some (-1,())) (ck (!(c.1==0)) (ck (!(c.1==0)) (some (Int.tmod (ak ((ak (i+c.1))-(Int.tmod a c.1))) c.1,())))))):=by kernel_rfl
def vD:Any:=.one ⟨aab,gg,1,fun x=>Bp F0 x.1 x.2.1 x.2.2.1⟩
def G5:bw 371 vD:=aM TL ⟨cG,bX,trivial⟩ func371 ad (by kernel_rfl)
def TM:=[(101,bS),(117,bA)]
def LJ (c:D1)(b a:Int):=cE TM F ad f374 aab gg 1 (c,b,a,())
def ac2 (c:D1)(b a:Int):LJ F c b a=(c0 F0 c).bind fun d=>br (!d.1) (some (-1,())) (br (decide (b<0)) (some (-1,())) ((bn F0 a 0 (ak (c.1-1))).bind fun e=>br (!e.1) (some (-1,())) (ck (!(c.1==0)) (ck (!(c.1==0)) (some (Int.tmod (ak ((Int.tmod b c.1)+a)) c.1,())))))):=by kernel_rfl
def Nl:Any:=.one ⟨aab,gg,1,fun x=>LJ F0 x.1 x.2.1 x.2.2.1⟩
def ac3:bw 374 Nl:=aM TM ⟨cG,bX,trivial⟩ func374 ad (by kernel_rfl)
def abh:=[(371,vD),(374,Nl)]
def LK (c:D1)(a i:Int):=cE abh F ad f368 aab gg 1 (c,a,i,())
def ahn (c:D1)(a i:Int):LK F c a i=(Bp F0 c a i).bind fun b=>br (decide (b.1<=0)) (some (-1,())) (ck (!(c.2==0)) ((LJ F0 c a (ak (Int.tdiv (ak (b.1-1)) c.2))).bind fun d=>some (d.1,()))):=by kernel_rfl
def Kj:Any:=.one ⟨aab,gg,1,fun x=>LK F0 x.1 x.2.1 x.2.2.1⟩
def XP:bw 368 Kj:=aM abh ⟨G5,ac3,trivial⟩ func368 ad (by kernel_rfl)
def G6:=[(368,Kj),(371,vD)]
def G7:Nat->Option Hint:=look [(2,{live:=[1,2,3,7],xl:=[7],rl:=[6]})]
def AO (b i c a:Int)(d:List Int):= hD 23 [(1,cD b),(2,cD i),de 3,(7,.v (.c (.own 1000000 none)))] [(3,[aw c,aw a])] [aJ 1000000 3 (.int .i64) d]
def EY (a:List Int):= hD 23 [(7,.v (.c (.own 1000000 none)))] [] [aJ 1000000 3 (.int .i64) a]
def G8 (a:St):Option U:=hl G6 F G7 [.r,.r,.l,.b,.i] f372 J n a
def Qo:=p9 G6 F G7 [.r,.r,.l,.b] f372 qc 2
def H9 (b i c a:Int)(d:List Int):G8 F J (n+1) (AO b i c a d)=(Bp F0 (c,a) b i).bind fun e=>br (decide (e.1>=0)) (ck (fc F d.length [i].length 8) ((LK F0 (c,a) b i).bind fun f=>G8 F J n (AO b f.1 c a (d++[i])))) (J (.exit 0) (EY d)):=by kernel_rfl
def XQ (a:List Int):Qo F (.exit 0) (EY a)=some (a,()):=by kernel_rfl
def Qp (c:D1)(a i:Int):=cE G6 F G7 f372 aab qc 2 (c,a,i,())
def aeU (c:D1)(a i:Int):Qp F c a i=G8 F (Qo F) F.n (AO a i c.1 c.2 []):=by kernel_rfl
def Qq:Any:=.one ⟨aab,qc,2,fun x=>Qp F0 x.1 x.2.1 x.2.2.1⟩
def aeV:bw 372 Qq:=aM G6 ⟨XP,G5,trivial⟩ func372 G7 (by kernel_rfl)
def AP:=[(83,cb),(101,bS),(371,vD),(372,Qq)]
def AQ:Nat->Option Hint:=look [(5,{live:=[1,2,3,7,8],xl:=[7],rl:=[6]})]
def lM (b i k c a:Int)(d:List Int):= hD 38 [(1,cD b),(2,cD i),de 3,(7,.v (.c (.own 1000000 none))),(8,cD k)] [(3,[aw c,aw a])] [aJ 1000000 3 (.int .i64) d]
def yr (a:List Int):= hD 38 [(7,.v (.c (.own 1000000 none)))] [] [aJ 1000000 3 (.int .i64) a]
def sg (a:St):Option U:=hl AP F AQ [.r,.r,.r,.l,.r,.b,.i] f366 J n a
def Cq:=p9 AP F AQ [.r,.r,.r,.l,.r,.b] f366 qc 2
def sh (d i k c b:Int)(a:List Int):sg F J (n+1) (lM d i k c b a)=br (decide (k<c)) ((Bp F0 (c,b) d i).bind fun e=>br (decide (e.1>=0)) ((Qp F0 (c,b) d k).bind fun f=>(cu F0 f.1 i).bind fun g=>br g.1 (ck (fc F a.length [k].length 8) (sg F J n (lM d i (ak (k+1)) c b (a++[k])))) (sg F J n (lM d i (ak (k+1)) c b a))) (J (.exit 0) (yr a))) (J (.exit 0) (yr a)):=by kernel_rfl
def FW (a:List Int):Cq F (.exit 0) (yr a)=some (a,()):=by kernel_rfl
def G9 (c:D1)(a i:Int):=cE AP F AQ f366 aab qc 2 (c,a,i,())
def aac (c:D1)(a i:Int):G9 F c a i=(c0 F0 c).bind fun b=>br (!b.1) (some ([],())) (sg F (Cq F) F.n (lM a i 0 c.1 c.2 [])):=by kernel_rfl
def Kk:Any:=.one ⟨aab,qc,2,fun x=>G9 F0 x.1 x.2.1 x.2.2.1⟩
def aad:bw 366 Kk:=aM AP ⟨cW,cG,G5,aeV,trivial⟩ func366 AQ (by kernel_rfl)
def OA (a:Bool):=cE aN F ad f373 b3 gg 1 (a,())
def aae (a:Bool):OA F a=br a (some (1,())) (some (0,())):=by kernel_rfl
def Kl:Any:=.one ⟨b3,gg,1,fun x=>OA F0 x.1⟩
def aaf:bw 373 Kl:=aM aN trivial func373 ad (by kernel_rfl)
def vE:=[(83,cb),(373,Kl)]
def vF:Nat->Option Hint:=look [(3,{live:=[0,1,5,6],xl:=[5],rl:=[4]})]
def oX (a b:List Int)(c i:Int):= dG 23 [(0,x0 3 (.int .i64) a),(1,x0 3 (.int .i64) b),(5,cD c),(6,cD i)]
def FX (a:Int):= dG 23 [(5,cD a)]
def vG (a:St):Option U:=hl vE F vF [.r,.r,.l,.r,.b,.i] f367 J n a
def yt:=p9 vE F vF [.r,.r,.l,.r,.b] f367 gg 1
def Cr (a b:List Int)(c i:Int):vG F J (n+1) (oX a b c i)=br (decide (i<(a.length:Int))) (ck (b5 i (a.length:Int)) ((cu F0 b (bd a i 0)).bind fun d=>(OA F0 d.1).bind fun e=>vG F J n (oX a b (ak (c+e.1)) (ak (i+1))))) (J (.exit 0) (FX c)):=by kernel_rfl
def Qr (a:Int):yt F (.exit 0) (FX a)=some (a,()):=by kernel_rfl
def DS (a b:List Int):=cE vE F vF f367 abe gg 1 (a,b,())
def XR (a b:List Int):DS F a b=vG F (yt F) F.n (oX a b 0 0):=by kernel_rfl
def Ia:Any:=.one ⟨abe,gg,1,fun x=>DS F0 x.1 x.2.1⟩
def XS:bw 367 Ia:=aM vE ⟨cW,aaf,trivial⟩ func367 vF (by kernel_rfl)
def Ib:=[(301,fu),(302,kW),(347,iH),(365,H8),(366,Kk),(367,Ia),(368,Kj)]
abbrev ajt:List (Ty×Bool):=[(K1,true),(dU,true),(.int .i64,false),(.str,false),(.bool,false)]
def kv (c:D1)(r:cN)(a:Int)(name:ByteArray)(b:Bool):=eX Ib F ad f361 ajt 1 (.own true) rS [] 2 (c,r,a,name,b,())
def Si (c:D1)(r:cN)(a:Int)(name:ByteArray)(h:Bool):kv F c r a name h=(ks F0 r.2.2.2.2.2.1 a name).bind fun b=>br ((b.1.2.2.length:Int)==0) (some ((r,false,()),())) (br (name.toList==ah.toList) (some ((r,false,()),())) ((iA F0 c a).bind fun i=>br (i.1==r.1) ((DR F0 c r b.1).bind fun f=>some ((f.1.1,f.1.2.1,()),())) ((G9 F0 c a r.1).bind fun g=>br (!h) ((DS F0 g.1 b.1.2.2).bind fun j=>br (decide (j.1<(g.1.length:Int))) (some ((r,false,()),())) ((LK F0 c a r.1).bind fun e=>(dN F0 c r e.1 (2,0,(ah,0,ah,[]),b.1,(0,ah,[]),0,0,0,0,0)).bind fun d=>some ((d.1.1,d.1.2.1,()),()))) ((LK F0 c a r.1).bind fun e=>(dN F0 c r e.1 (2,0,(ah,0,ah,[]),b.1,(0,ah,[]),0,0,0,0,0)).bind fun d=>some ((d.1.1,d.1.2.1,()),()))))):=by kernel_rfl
def k4:Any:=.two ⟨ajt,1,(.own true),rS,2,[],fun x=>kv F0 x.1 x.2.1 x.2.2.1 x.2.2.2.1 x.2.2.2.2.1⟩
def uC:bw 361 k4:=ahm Ib ⟨jH,ur,oW,XO,aad,XS,XP,trivial⟩ func361 ad (by kernel_rfl)
def Nn:=[(119,bK),(176,bs),(194,eO),(361,k4)]
abbrev apn:List (Ty×Bool):=[(K1,true),(dU,true),(.str,false)]
def jo (c:D1)(r:cN)(name:ByteArray):=eX Nn F ad f359 apn 1 (.own true) rS [] 2 (c,r,name,())
def XT (c:D1)(r:cN)(name:ByteArray):jo F c r name=(bY F0 name).bind fun d=>(dn F0 c r.2.2.2.2.2.1 (d.1,name,[r.1])).bind fun a=>br (!a.2.1) (some ((r,false,()),())) ((aK F0 (r.1,r.2.1,r.2.2.1,r.2.2.2.1,r.2.2.2.2.1,a.1,r.2.2.2.2.2.2)).bind fun e=>(bY F0 name).bind fun f=>(kv F0 c e.1 f.1 name false).bind fun b=>br b.1.2.1 (some ((b.1.1,true,()),())) (some (((r.1,r.2.1,r.2.2.1,r.2.2.2.1,r.2.2.2.2.1,a.1,r.2.2.2.2.2.2),true,()),()))):=by kernel_rfl
def Ic:Any:=.two ⟨apn,1,(.own true),rS,2,[],fun x=>jo F0 x.1 x.2.1 x.2.2.1⟩
def XU:bw 359 Ic:=ahm Nn ⟨cg,bL,iG,uC,trivial⟩ func359 ad (by kernel_rfl)
def FY:=[(115,bN),(119,bK),(176,bs),(206,r5),(207,EX),(257,ir),(272,uw),(358,k3),(359,Ic)]
abbrev apo:List (Ty×Bool):=[(K1,true),(dU,true),(K16,true)]
def lN (c:D1)(r:cN)(b:D16):=cE FY F ad f344 apo rS 2 (c,r,b,())
def Qs (c:D1)(r:cN)(b:D16):lN F c r b=(aK F0 r).bind fun d=>(cQ F0 c r).bind fun k=>br (!k.1) (some (d.1,false,())) ((jF F0 c b).bind fun l=>br (!l.1) (some (d.1,false,())) ((aK F0 r).bind fun f=>(Cl F0 c r.2.2.2.1 b.2).bind fun g=>(bY F0 b.1).bind fun h=>br (decide (h.1>=r.2.1)) ((r6 F0 c g.1 b).bind fun i=>br (decide (h.1>=r.2.1)) (br i.1 ((Bo F0 c g.1 b).bind fun j=>(dm F0 c (f.1.1,h.1,f.1.2.2) j.1).bind fun a=>br a.2.1 (br i.1 ((jo F0 c a.1 b.1).bind fun e=>br (!e.1.2.1) (some (d.1,false,())) (some (e.1.1,true,()))) (some (a.1,true,()))) (some (d.1,false,()))) ((dm F0 c (f.1.1,h.1,f.1.2.2) g.1).bind fun a=>br a.2.1 (br i.1 ((jo F0 c a.1 b.1).bind fun e=>br (!e.1.2.1) (some (d.1,false,())) (some (e.1.1,true,()))) (some (a.1,true,()))) (some (d.1,false,())))) (br i.1 ((Bo F0 c g.1 b).bind fun j=>(dm F0 c f.1 j.1).bind fun a=>br a.2.1 (br i.1 ((jo F0 c a.1 b.1).bind fun e=>br (!e.1.2.1) (some (d.1,false,())) (some (e.1.1,true,()))) (some (a.1,true,()))) (some (d.1,false,()))) ((dm F0 c f.1 g.1).bind fun a=>br a.2.1 (br i.1 ((jo F0 c a.1 b.1).bind fun e=>br (!e.1.2.1) (some (d.1,false,())) (some (e.1.1,true,()))) (some (a.1,true,()))) (some (d.1,false,()))))) (br (decide (h.1>=r.2.1)) ((dm F0 c (f.1.1,h.1,f.1.2.2) g.1).bind fun a=>br a.2.1 (some (a.1,true,())) (some (d.1,false,()))) ((dm F0 c f.1 g.1).bind fun a=>br a.2.1 (some (a.1,true,())) (some (d.1,false,())))))):=by kernel_rfl
def py:Any:=.one ⟨apo,rS,2,fun x=>lN F0 x.1 x.2.1 x.2.2.1⟩
def DT:bw 344 py:=aM FY ⟨cn,cg,bL,DJ,Qj,oy,H0,uz,XU,trivial⟩ func344 ad (by kernel_rfl)
def Ie:=[(115,bN),(176,bs),(194,eO),(254,kb),(361,k4)]
def vH (c:D1)(r:cN)(p:D9):=cE Ie F ad f355 ajs rS 2 (c,r,p,())
def Sj (c:D1)(r:cN)(p:D9):vH F c r p=(aK F0 r).bind fun b=>(cQ F0 c r).bind fun f=>br (!f.1) (some (b.1,false,())) ((gD F0 c p).bind fun g=>br (!g.1) (some (b.1,false,())) (br (p.2.1.toList==ah.toList) (some (b.1,false,())) (br (decide (p.1<r.2.1)) (some (b.1,false,())) ((aK F0 r).bind fun a=>(dn F0 c r.2.2.2.2.2.1 p).bind fun d=>br (!d.2.1) (some (b.1,false,())) ((aK F0 (a.1.1,a.1.2.1,a.1.2.2.1,a.1.2.2.2.1,a.1.2.2.2.2.1,d.1,a.1.2.2.2.2.2.2)).bind fun h=>(kv F0 c h.1 p.1 p.2.1 false).bind fun e=>br e.1.2.1 (some (e.1.1,true,())) (some ((a.1.1,a.1.2.1,a.1.2.2.1,a.1.2.2.2.1,a.1.2.2.2.2.1,d.1,a.1.2.2.2.2.2.2),true,()))))))):=by kernel_rfl
def DU:Any:=.one ⟨ajs,rS,2,fun x=>vH F0 x.1 x.2.1 x.2.2.1⟩
def Sk:bw 355 DU:=aM Ie ⟨cn,bL,iG,rJ,uC,trivial⟩ func355 ad (by kernel_rfl)
def Ig:=[(115,bN),(117,bA),(176,bs),(189,dK),(194,eO),(206,r5),(251,eu),(267,fM),(295,oq),(301,fu),(302,kW),(358,k3)]
abbrev apq:List (Ty×Bool):=[(K1,true),(dU,true),(.int .i64,false),(K9,true),(.int .i64,false)]
def vI (c:D1)(r:cN)(a:Int)(q:D9)(c9:Int):=cE Ig F ad f356 apq rS 2 (c,r,a,q,c9,())
def Sl (c:D1)(r:cN)(e:Int)(q:D9)(c9:Int):vI F c r e q c9=(aK F0 r).bind fun f=>(cQ F0 c r).bind fun h=>br (!h.1) (some (f.1,false,())) ((bn F0 e 1 60).bind fun i=>br (!i.1) (some (f.1,false,())) ((gk F0 c q).bind fun j=>br (!j.1) (some (f.1,false,())) ((bn F0 c9 0 (ak (c.1-1))).bind fun k=>br (!k.1) (some (f.1,false,())) ((aK F0 r).bind fun l=>(Cl F0 c r.2.2.2.1 q).bind fun m=>(dm F0 c l.1 m.1).bind fun a=>br a.2.1 ((iA F0 c e).bind fun o=>br (o.1==r.1) (br (decide (e>=r.2.1)) ((dn F0 c a.1.2.2.2.2.2.1 (e,ah,[c9])).bind fun g=>br (!g.2.1) (some (f.1,false,())) ((ks F0 g.1 e ah).bind fun p=>(pT F0 c).bind fun s=>br (decide ((p.1.2.2.length:Int)>=s.1)) ((cO F0 a.1.2.1 e).bind fun t=>(bh F0 (ak (q.1+1)) 60).bind fun b=>(cO F0 t.1 b.1).bind fun d=>some ((a.1.1,d.1,a.1.2.2.1,a.1.2.2.2.1,a.1.2.2.2.2.1,g.1,a.1.2.2.2.2.2.2),true,())) ((bh F0 (ak (q.1+1)) 60).bind fun b=>(cO F0 a.1.2.1 b.1).bind fun d=>some ((a.1.1,d.1,a.1.2.2.1,a.1.2.2.2.1,a.1.2.2.2.2.1,g.1,a.1.2.2.2.2.2.2),true,())))) ((bh F0 (ak (q.1+1)) 60).bind fun b=>(cO F0 a.1.2.1 b.1).bind fun d=>some ((a.1.1,d.1,a.1.2.2),true,()))) ((bh F0 (ak (q.1+1)) 60).bind fun b=>(cO F0 a.1.2.1 b.1).bind fun d=>some ((a.1.1,d.1,a.1.2.2),true,()))) (some (f.1,false,())))))):=by kernel_rfl
def DV:Any:=.one ⟨apq,rS,2,fun x=>vI F0 x.1 x.2.1 x.2.2.1 x.2.2.2.1 x.2.2.2.2.1⟩
def Sm:bw 356 DV:=aM Ig ⟨cn,bX,bL,fs,iG,DJ,gC,ku,B4,jH,ur,uz,trivial⟩ func356 ad (by kernel_rfl)
def si:=[(178,yi),(253,rI)]
def sj:Nat->Option Hint:=look [(2,{live:=[0,3,6],xl:=[0,3,6],rl:=[4,5]})]
def mA (p:List D4)(a x b c d:Int):= hD 43 [(0,x0 99 (K4) p),de 3,(6,cD a)] [(3,[aw x,aw b,aw c,aw d])] []
def k5 (p:List D4)(a x b c d:Int):= hD 43 [(0,x0 99 (K4) p),de 3,(6,cD a)] [(3,[aw x,aw b,aw c,aw d])] []
def sk (a:St):Option U:=hl si F sj [.r,.r,.l,.b,.i] f193 J n a
def mB:=p9 si F sj [.r,.r,.l,.b] f193 P0 2
def y3 (p:List D4)(a x b c d:Int):sk F J (n+1) (mA p a x b c d)=br (decide (a<(p.length:Int))) (ck (b5 a (p.length:Int)) ((nK F0 (bd p a K4.aI) (x,b,c,d)).bind fun e=>br e.1 (sk F J n (mA p (ak (a+1)) x b c d)) (J (.exit 0) (k5 p a x b c d)))) (J (.exit 0) (k5 p a x b c d)):=by kernel_rfl
def OB (p:List D4)(a x b c d:Int):mB F (.exit 0) (k5 p a x b c d)=ck (I5 0 a (p.length:Int)) (ck (fc F 0 ((p.take a.toNat).drop (0:Int).toNat).length 32) (ck (fc F ([]++((p.take a.toNat).drop (0:Int).toNat)).length [(x,b,c,d)].length 32) (ck (I5 a (p.length:Int) (p.length:Int)) (ck (fc F (([]++((p.take a.toNat).drop (0:Int).toNat))++[(x,b,c,d)]).length ((p.take (p.length:Int).toNat).drop a.toNat).length 32) ((wz F0 ((([]++((p.take a.toNat).drop (0:Int).toNat))++[(x,b,c,d)])++((p.take (p.length:Int).toNat).drop a.toNat))).bind fun e=>br (!e.1) (ck (fc F 0 p.length 32) (some ([]++p,false,()))) (some ((([]++((p.take a.toNat).drop (0:Int).toNat))++[(x,b,c,d)])++((p.take (p.length:Int).toNat).drop a.toNat),true,()))))))):=by kernel_rfl
def mC (p:D5)(x:D4):=cE si F sj f193 [(K5,false),(K4,true)] P0 2 (p,x,())
def U0 (p:D5)(x:D4):mC F p x=sk F (mB F) F.n (mA p 0 x.1 x.2.1 x.2.2.1 x.2.2.2):=by kernel_rfl
def mD:Any:=.one ⟨[(K5,false),(K4,true)],P0,2,fun x=>mC F0 x.1 x.2.1⟩
def yu:bw 193 mD:=aM si ⟨JU,Fy,trivial⟩ func193 sj (by kernel_rfl)
def No:=[(115,bN),(176,bs),(193,mD)]
abbrev apr:List (Ty×Bool):=[(K1,true),(dU,true),(K4,true)]
def DW (c:D1)(r:cN)(x:D4):=cE No F ad f357 apr rS 2 (c,r,x,())
def XV (c:D1)(r:cN)(x:D4):DW F c r x=(aK F0 r).bind fun a=>(cQ F0 c r).bind fun d=>br (!d.1) (some (a.1,false,())) ((mC F0 r.2.2.2.2.1 x).bind fun b=>br b.2.1 (some ((a.1.1,a.1.2.1,a.1.2.2.1,a.1.2.2.2.1,b.1,a.1.2.2.2.2.2),b.2.1,())) (some (a.1,b.2.1,()))):=by kernel_rfl
def Ih:Any:=.one ⟨apr,rS,2,fun x=>DW F0 x.1 x.2.1 x.2.2.1⟩
def XW:bw 357 Ih:=aM No ⟨cn,bL,yu,trivial⟩ func357 ad (by kernel_rfl)
def Km:=[(344,py),(355,DU),(356,DV),(357,Ih)]
abbrev abi:List (Ty×Bool):=[(K1,true),(dU,true),(K22,true)]
def AR (c:D1)(r:cN)(m:WZ):=cE Km F ad f339 abi rS 2 (c,r,m,())
def U1 (c:D1)(r:cN)(m:WZ):AR F c r m=br (m.1==1) ((lN F0 c r m.2.2.1).bind fun a=>some (a.1,a.2.1,())) (br (m.1==2) ((vH F0 c r m.2.2.2.1).bind fun b=>some (b.1,b.2.1,())) (br (m.1==3) ((vI F0 c r m.2.1 m.2.2.2.2.1 m.2.2.2.2.2.1).bind fun d=>some (d.1,d.2.1,())) ((DW F0 c r m.2.2.2.2.2.2).bind fun e=>some (e.1,e.2.1,())))):=by kernel_rfl
def FZ:Any:=.one ⟨abi,rS,2,fun x=>AR F0 x.1 x.2.1 x.2.2.1⟩
def U2:bw 339 FZ:=aM Km ⟨DT,Sk,Sm,XW,trivial⟩ func339 ad (by kernel_rfl)
def mE:=[(262,fy)]
def mF:Nat->Option Hint:=look [(3,{live:=[0,1,5,6],xl:=[5],rl:=[4]})]
def fO (a:List D9)(b i:Int)(c:List D9):= hD 30 [(0,x0 29 (K9) a),(1,cD b),(5,.v (.c (.own 1000000 none))),(6,cD i)] [] [aJ 1000000 29 K9 c]
def y4 (a:List D9):= hD 30 [(5,.v (.c (.own 1000000 none)))] [] [aJ 1000000 29 K9 a]
def iI (a:St):Option U:=hl mE F mF [.r,.r,.l,.r,.b,.i] f340 J n a
def pz:=p9 mE F mF [.r,.r,.l,.r,.b] f340 Ka 2
def tI (a:List D9)(c i:Int)(b:List D9):iI F J (n+1) (fO a c i b)=br (decide (i<(a.length:Int))) (ck (b5 i (a.length:Int)) (br (decide ((bd a i K9.aI).1>=c)) (ck (b5 i (a.length:Int)) ((ew F0 (bd a i K9.aI)).bind fun d=>ck (fc F b.length [d.1].length 48) (iI F J n (fO a c (ak (i+1)) (b++[d.1]))))) (iI F J n (fO a c (ak (i+1)) b)))) (J (.exit 0) (y4 b)):=by kernel_rfl
def Kn (a:List D9):pz F (.exit 0) (y4 a)=some (a,()):=by kernel_rfl
def sn (a:D14)(b:Int):=cE mE F mF f340 [(K14,false),(.int .i64,false)] Ka 2 (a,b,())
def Qt (a:D14)(b:Int):sn F a b=iI F (pz F) F.n (fO a b 0 []):=by kernel_rfl
def Cs:Any:=.one ⟨[(K14,false),(.int .i64,false)],Ka,2,fun x=>sn F0 x.1 x.2.1⟩
def Qu:bw 340 Cs:=aM mE ⟨kf,trivial⟩ func340 mF (by kernel_rfl)
def Qv:=[(115,bN),(155,yo),(156,jA),(157,Ch)]
def Ct (c:D1)(r:cN):=cE Qv F ad f86 yQ lD 2 (c,r,())
def aag (c:D1)(r:cN):Ct F c r=(cQ F0 c r).bind fun a=>br (!a.1) (some (([],[]),())) ((fJ F0).bind fun b=>(pw F0 r.2.2.2.1.2.2.2).bind fun d=>(pV F0 b.1 d.1).bind fun e=>some (e.1,())):=by kernel_rfl
def Ko:Any:=.one ⟨yQ,lD,2,fun x=>Ct F0 x.1 x.2.1⟩
def aah:bw 86 Ko:=aM Qv ⟨cn,J5,rA,Ng,trivial⟩ func86 ad (by kernel_rfl)
def oY:=[(190,rC)]
def oZ:Nat->Option Hint:=look [(3,{live:=[0,3,5,6],xl:=[5],rl:=[4]})]
def gI (p:List D4)(i:Int)(l a:List Int)(b:List D4):= hD 35 [(0,x0 99 (K4) p),de 3,(5,.v (.c (.own 1000000 none))),(6,cD i)] [(3,[.ro false 3 (.int .i64) l,.ro false 3 (.int .i64) a])] [aJ 1000000 99 K4 b]
def Cu (a:List D4):= hD 35 [(5,.v (.c (.own 1000000 none)))] [] [aJ 1000000 99 K4 a]
def kh (a:St):Option U:=hl oY F oZ [.r,.r,.l,.r,.b,.i] f341 J n a
def so:=p9 oY F oZ [.r,.r,.l,.r,.b] f341 rk 2
def wM (p:List D4)(i:Int)(l b:List Int)(a:List D4):kh F J (n+1) (gI p i l b a)=br (decide (i<(p.length:Int))) (ck (b5 i (p.length:Int)) ((wx F0 (l,b) (bd p i K4.aI)).bind fun c=>br (c.2.1 != 2) (ck (b5 i (p.length:Int)) (ck (fc F a.length [(bd p i K4.aI)].length 32) (kh F J n (gI p (ak (i+1)) l b (a++[(bd p i K4.aI)]))))) (kh F J n (gI p (ak (i+1)) l b a)))) (J (.exit 0) (Cu a)):=by kernel_rfl
def Mm (a:List D4):so F (.exit 0) (Cu a)=some (a,()):=by kernel_rfl
def vJ (p:D5)(l:D10):=cE oY F oZ f341 ajn rk 2 (p,l,())
def Sn (p:D5)(l:D10):vJ F p l=kh F (so F) F.n (gI p 0 l.1 l.2 []):=by kernel_rfl
def DX:Any:=.one ⟨ajn,rk,2,fun x=>vJ F0 x.1 x.2.1⟩
def Sp:bw 341 DX:=aM oY ⟨Dm,trivial⟩ func341 oZ (by kernel_rfl)
def TN:=[(86,Ko),(115,bN),(176,bs),(181,fK),(339,FZ),(340,Cs),(341,DX)]
def F1 (c:D1)(r:cN)(m:WZ):=cE TN F ad f318 abi rS 2 (c,r,m,())
def ac4 (c:D1)(r:cN)(m:WZ):F1 F c r m=(cQ F0 c r).bind fun e=>br (!e.1) ((aK F0 r).bind fun b=>some (b.1,false,())) ((dL F0 c m).bind fun f=>br (!f.1) ((aK F0 r).bind fun b=>some (b.1,false,())) ((AR F0 c r m).bind fun a=>br (!a.2.1) ((aK F0 r).bind fun g=>some (g.1,false,())) ((sn F0 a.1.2.2.2.2.2.1 (ak (a.1.2.1-1))).bind fun d=>(Ct F0 c (a.1.1,a.1.2.1,a.1.2.2.1,a.1.2.2.2.1,a.1.2.2.2.2.1,d.1,a.1.2.2.2.2.2.2)).bind fun h=>(vJ F0 a.1.2.2.2.2.1 h.1).bind fun i=>some ((a.1.1,a.1.2.1,a.1.2.2.1,a.1.2.2.2.1,i.1,d.1,a.1.2.2.2.2.2.2),true,())))):=by kernel_rfl
def EZ:Any:=.one ⟨abi,rS,2,fun x=>F1 F0 x.1 x.2.1 x.2.2.1⟩
def Qw:bw 318 EZ:=aM TN ⟨aah,cn,bL,kr,U2,Qu,Sp,trivial⟩ func318 ad (by kernel_rfl)
def Np:=[(83,cb),(116,Ce),(117,bA),(318,EZ)]
def pY (w:tv)(d:D45):Option (tv×Int×tv):=ZN Tryz.prog (look Np) F ad f298 [(fj,true),(K45,true)] 0 (fj,true) (.int .i64,false) (fj,true) (w,d,())
def XX (w:tv)(d:D45):pY F w d=(bn F0 d.2.1 0 (ak ((w.2.2.2.1.length:Int)-1))).bind fun b=>br (!b.1) (some (fj.aI,2,w)) (ck (b5 d.2.1 (w.2.2.2.1.length:Int)) (br (d.1==5) (br (decide ((w.2.2.2.1.length:Int)>=60)) (some (fj.aI,4,w)) (ck (fc F 0 (bd w.2.2.2.1 d.2.1 (0,[])).2.length 1) (ck (fc F w.2.2.2.1.length [((bd w.2.2.2.1 d.2.1 (0,[])).1,[]++(bd w.2.2.2.1 d.2.1 (0,[])).2)].length 32) (some ((w.1,w.2.1,w.2.2.1,w.2.2.2.1++[((bd w.2.2.2.1 d.2.1 (0,[])).1,[]++(bd w.2.2.2.1 d.2.1 (0,[])).2)],w.2.2.2.2),0,fj.aI))))) (ck (okT d.2.1 (w.2.2.2.1.length:Int)) (ck (I5 (ak (d.2.1+1)) (w.2.2.2.1.length:Int) (w.2.2.2.1.length:Int)) (ck (fc F 0 (w.2.2.2.1.take d.2.1.toNat).length 32) (ck (fc F ([]++(w.2.2.2.1.take d.2.1.toNat)).length ((w.2.2.2.1.take (w.2.2.2.1.length:Int).toNat).drop (ak (d.2.1+1)).toNat).length 32) (br (d.1==3) ((cu F0 w.2.1 (bd w.2.2.2.1 d.2.1 (0,[])).1).bind fun c=>br (!c.1) ((Cd F0 w.1 (bd w.2.2.2.1 d.2.1 (0,[])).2).bind fun e=>ck (b5 (bd w.2.2.2.1 d.2.1 (0,[])).1 (w.2.2.1.length:Int)) ((F1 F0 w.1 (bd w.2.2.1 (bd w.2.2.2.1 d.2.1 (0,[])).1 dU.aI) e.1).bind fun a=>br a.2.1 (ck (b5 (bd w.2.2.2.1 d.2.1 (0,[])).1 (w.2.2.1.length:Int)) (some ((w.1,w.2.1,w.2.2.1.set (bd w.2.2.2.1 d.2.1 (0,[])).1.toNat a.1,([]++(w.2.2.2.1.take d.2.1.toNat))++((w.2.2.2.1.take (w.2.2.2.1.length:Int).toNat).drop (ak (d.2.1+1)).toNat),w.2.2.2.2),0,fj.aI))) (some ((w.1,w.2.1,w.2.2.1,([]++(w.2.2.2.1.take d.2.1.toNat))++((w.2.2.2.1.take (w.2.2.2.1.length:Int).toNat).drop (ak (d.2.1+1)).toNat),w.2.2.2.2),0,fj.aI)))) (some ((w.1,w.2.1,w.2.2.1,([]++(w.2.2.2.1.take d.2.1.toNat))++((w.2.2.2.1.take (w.2.2.2.1.length:Int).toNat).drop (ak (d.2.1+1)).toNat),w.2.2.2.2),0,fj.aI))) (some ((w.1,w.2.1,w.2.2.1,([]++(w.2.2.2.1.take d.2.1.toNat))++((w.2.2.2.1.take (w.2.2.2.1.length:Int).toNat).drop (ak (d.2.1+1)).toNat),w.2.2.2.2),0,fj.aI))))))))):=by kernel_rfl
def Ii:Any:=.sel ⟨[(fj,true),(K45,true)],0,(fj,true),(.int .i64,false),(fj,true),fun x=>pY F0 x.1 x.2.1⟩
def XY:bw 298 Ii:=ok4 (show re Tryz.prog TB Np from⟨cW,Nf,bX,Qw,trivial⟩) func298 (by kernel_rfl) (by kernel_rfl) ad (by kernel_rfl) (by kernel_rfl)
def vK:Nat->Option Hint:=look [(2,{live:=[0,1,2,3,9],rl:=[8]})]
def gm (a:List et)(b:Int)(name:ByteArray)(c9 i:Int):= dG 41 [(0,x0 91 (iV) a),(1,cD b),(2,C9 name),(3,cD c9),(9,cD i)]
def Ij (a:Bool):= dG 41 [(8,Uk a)]
def F2   := dG 41 []
def kx (a:St):Option U:=hl aN F vK [.r,.l,.r,.b,.i] f112 J n a
def o0:=p9 aN F vK [.r,.l,.r,.b] f112 b3 1
def Cv (a:List et)(b:Int)(name:ByteArray)(c9 i:Int):kx F J (n+1) (gm a b name c9 i)=br (decide (i<(a.length:Int))) (ck (b5 i (a.length:Int)) (br ((bd a i iV.aI).1==b) (ck (b5 i (a.length:Int)) (br ((bd a i iV.aI).2.1.toList==name.toList) (ck (b5 i (a.length:Int)) (br ((bd a i iV.aI).2.2==c9) (J .ret (Ij true)) (kx F J n (gm a b name c9 (ak (i+1)))))) (kx F J n (gm a b name c9 (ak (i+1)))))) (kx F J n (gm a b name c9 (ak (i+1)))))) (J (.exit 0) (F2)):=by kernel_rfl
def Sq (a:Bool):o0 F .ret (Ij a)=some (a,()):=by kernel_rfl
def Qx: o0 F (.exit 0) (F2)=some (false,()):=by kernel_rfl
abbrev aps:List (Ty×Bool):=[(K39,false),(.int .i64,false),(.str,false),(.int .i64,false)]
def wN (a:D39)(b:Int)(name:ByteArray)(c9:Int):=cE aN F vK f112 aps b3 1 (a,b,name,c9,())
def XZ (a:D39)(b:Int)(name:ByteArray)(c9:Int):wN F a b name c9=kx F (o0 F) F.n (gm a b name c9 0):=by kernel_rfl
def yv:Any:=.one ⟨aps,b3,1,fun x=>wN F0 x.1 x.2.1 x.2.2.1 x.2.2.2.1⟩
def Kp:bw 112 yv:=aM aN trivial func112 vK (by kernel_rfl)
def vL:=[(83,cb),(112,yv)]
def vM:Nat->Option Hint:=look [(2,{live:=[0,1,2,3,4,11],rl:=[10]})]
def ki (a:List Int)(b:List et)(c:Int)(name:ByteArray)(c9:List Int)(i:Int):= dG 36 [(0,x0 3 (.int .i64) a),(1,x0 91 (iV) b),(2,cD c),(3,C9 name),(4,x0 3 (.int .i64) c9),(11,cD i)]
def Ik (a:Bool):= dG 36 [(10,Uk a)]
def F3   := dG 36 []
def nQ (a:St):Option U:=hl vL F vM [.r,.l,.r,.b,.i] f342 J n a
def o1:=p9 vL F vM [.r,.l,.r,.b] f342 b3 1
def Cw (a:List Int)(b:List et)(c:Int)(name:ByteArray)(c9:List Int)(i:Int):nQ F J (n+1) (ki a b c name c9 i)=br (decide (i<(c9.length:Int))) (ck (b5 i (c9.length:Int)) ((cu F0 a (bd c9 i 0)).bind fun d=>br (!d.1) (ck (b5 i (c9.length:Int)) ((wN F0 b c name (bd c9 i 0)).bind fun e=>br (!e.1) (J .ret (Ik false)) (nQ F J n (ki a b c name c9 (ak (i+1)))))) (nQ F J n (ki a b c name c9 (ak (i+1)))))) (J (.exit 0) (F3)):=by kernel_rfl
def Sr (a:Bool):o1 F .ret (Ik a)=some (a,()):=by kernel_rfl
def Qy: o1 F (.exit 0) (F3)=some (true,()):=by kernel_rfl
abbrev apt:List (Ty×Bool):=[(.sl 3 (.int .i64),false),(K39,false),(.int .i64,false),(.str,false),(.sl 3 (.int .i64),false)]
def pZ (a:List Int)(b:D39)(c:Int)(name:ByteArray)(c9:List Int):=cE vL F vM f342 apt b3 1 (a,b,c,name,c9,())
def X0 (a:List Int)(b:D39)(c:Int)(name:ByteArray)(c9:List Int):pZ F a b c name c9=nQ F (o1 F) F.n (ki a b c name c9 0):=by kernel_rfl
def Il:Any:=.one ⟨apt,b3,1,fun x=>pZ F0 x.1 x.2.1 x.2.2.1 x.2.2.2.1 x.2.2.2.2.1⟩
def X1:bw 342 Il:=aM vL ⟨cW,Kp,trivial⟩ func342 vM (by kernel_rfl)
end
end Go.Am.Tryz
