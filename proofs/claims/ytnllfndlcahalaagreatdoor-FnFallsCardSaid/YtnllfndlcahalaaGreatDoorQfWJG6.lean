/- No condition. -/
import Derived.Test.YtnllfndlcahalaaGreatDoorQfWJG5
set_option linter.all false
set_option maxRecDepth 100000
namespace Go.Am.Tryz
open Go.Am Go.Proofs Go.Proofs.Tryz
noncomputable section
variable {U:Type} (F:rH) (J:Ex->St->Option U) (n:Nat)
def ir:=[(90,QO),(91,Xj),(92,GL),(93,ew),(94,aa7)]
def iu:Nat->Option Hint:=look [(4,{live:=[1,2,4,6,7,8,28,29,30],yc:=[(4,2,3,.int .i64),(4,3,65,b8),(4,4,105,ek),(4,5,41,cz)],xl:=[1,2,4,6,7,8],rl:=[4,5]}),(7,{live:=[1,2,4,6,7,8,28,29,30,37,38,39],xl:=[1,2,4,6,7,8,28,29,30],rl:=[4,5]})]
def pM (a H I K L w b:Int)(c:List Int)(d:List a7)(e:List bS)(f:List bF)(M N r g h i j k:Int)(l m:ByteArray)(o O p:Int)(P:List lv)(q:List bF)(s:List Int)(t:List a7)(u:List bS)(v:List bF)(x:List Int)(y:List D4)(z:List D9)(A:List Int)(B:List lv)(C:List Int)(D:List a7)(E:List bS)(G:List bF):= cR 67 [(1,bb a),b1 2,b1 4,b1 6,(7,.v (.c (.own 1000000 none))),b1 8,(28,.v (.c (.own 1000000 none))),(29,bb H),(30,bb I),(37,.v (.c (.own 1000001 none))),(38,bb K),(39,bb L)] [(2,[ao w,ao b,.ro false 3 (.int .i64) c,.ro false 65 (b8) d,.ro false 105 (ek) e,.ro false 41 (cz) f]),(4,[ao M,ao N,.own 1000002 none,.own 1000003 none,.own 1000004 none,.own 1000005 none]),(6,[ao r,ao g,ao h,ao i,ao j,ao k,.str l,.own 1000006 none,.str m,.own 1000007 none,.own 1000008 none,.own 1000009 none,ao o,.own 1000010 none]),(8,[ao O,ao p,.own 1000011 none,.own 1000012 none,.own 1000013 none,.own 1000014 none])] [az 1000000 136 pY P,az 1000001 41 cz q,az 1000002 3 (.int .i64) s,az 1000003 65 b8 t,az 1000004 105 ek u,az 1000005 41 cz v,az 1000006 3 (.int .i64) x,az 1000007 52 K4 y,az 1000008 50 K9 z,az 1000009 5 (.int .u8) A,az 1000010 136 pY B,az 1000011 3 (.int .i64) C,az 1000012 65 b8 D,az 1000013 105 ek E,az 1000014 41 cz G]
def NS (a b c:Int)(d:List Int)(e:List a7)(f:List bS)(g:List bF):= cR 67 [b1 4,(5,bb a)] [(4,[ao b,ao c,.ro false 3 (.int .i64) d,.ro false 65 (b8) e,.ro false 105 (ek) f,.ro false 41 (cz) g])] []
def Lp (a G H w b:Int)(c:List Int)(d:List a7)(e:List bS)(f:List bF)(I K r g h i j k:Int)(l m:ByteArray)(o L p:Int)(M:List lv)(q:List Int)(s:List a7)(t:List bS)(u:List bF)(v:List Int)(x:List D4)(y:List D9)(z:List Int)(A:List lv)(B:List Int)(C:List a7)(D:List bS)(E:List bF):= cR 67 [(1,bb a),b1 2,b1 4,b1 6,(7,.v (.c (.own 1000000 none))),b1 8,(28,.v (.c (.own 1000000 none))),(29,bb G),(30,bb H)] [(2,[ao w,ao b,.ro false 3 (.int .i64) c,.ro false 65 (b8) d,.ro false 105 (ek) e,.ro false 41 (cz) f]),(4,[ao I,ao K,.own 1000001 none,.own 1000002 none,.own 1000003 none,.own 1000004 none]),(6,[ao r,ao g,ao h,ao i,ao j,ao k,.str l,.own 1000005 none,.str m,.own 1000006 none,.own 1000007 none,.own 1000008 none,ao o,.own 1000009 none]),(8,[ao L,ao p,.own 1000010 none,.own 1000011 none,.own 1000012 none,.own 1000013 none])] [az 1000000 136 pY M,az 1000001 3 (.int .i64) q,az 1000002 65 b8 s,az 1000003 105 ek t,az 1000004 41 cz u,az 1000005 3 (.int .i64) v,az 1000006 52 K4 x,az 1000007 50 K9 y,az 1000008 5 (.int .u8) z,az 1000009 136 pY A,az 1000010 3 (.int .i64) B,az 1000011 65 b8 C,az 1000012 105 ek D,az 1000013 41 cz E]
def vF (a:St):Option U:=fe ir F iu [.r,.r,.r,.l,.r,.b,.i,.r,.r,.l,.b,.r,.r,.b,.i] f43 J n a
def pN:Ex->St->Option U:=Vy Tryz.prog (look ir) F iu [.r,.r,.l,.b,.r,.r,.b] (sub [.r,.r,.r,.l,.r,.b,.i] (eW f43)) (itk Tryz.prog (look ir) F iu (sub [.r,.r,.r,.l,.r,.b,.i] (eW f43)) J n)
def k7 (a G H w b:Int)(c:List Int)(d:List a7)(e:List bS)(f:List bF)(I K r g h i j k:Int)(l m:ByteArray)(o L p:Int)(M:List lv)(q:List Int)(s:List a7)(t:List bS)(u:List bF)(v:List Int)(x:List D4)(y:List D9)(z:List Int)(A:List lv)(B:List Int)(C:List a7)(D:List bS)(E:List bF):= cR 67 [(1,bb a),b1 2,b1 4,b1 6,(7,.v (.c (.own 1000000 none))),b1 8,(28,.v (.c (.own 1000000 none))),(29,bb G),(30,bb H)] [(2,[ao w,ao b,.ro false 3 (.int .i64) c,.ro false 65 (b8) d,.ro false 105 (ek) e,.ro false 41 (cz) f]),(4,[ao I,ao K,.own 1000001 none,.own 1000002 none,.own 1000003 none,.own 1000004 none]),(6,[ao r,ao g,ao h,ao i,ao j,ao k,.str l,.own 1000005 none,.str m,.own 1000006 none,.own 1000007 none,.own 1000008 none,ao o,.own 1000009 none]),(8,[ao L,ao p,.own 1000010 none,.own 1000011 none,.own 1000012 none,.own 1000013 none])] [az 1000000 136 pY M,az 1000001 3 (.int .i64) q,az 1000002 65 b8 s,az 1000003 105 ek t,az 1000004 41 cz u,az 1000005 3 (.int .i64) v,az 1000006 52 K4 x,az 1000007 50 K9 y,az 1000008 5 (.int .u8) z,az 1000009 136 pY A,az 1000010 3 (.int .i64) B,az 1000011 65 b8 C,az 1000012 105 ek D,az 1000013 41 cz E]
def NT (a b c:Int)(d:List Int)(e:List a7)(f:List bS)(g:List bF):= cR 67 [b1 4,(5,bb a)] [(4,[ao b,ao c,.ro false 3 (.int .i64) d,.ro false 65 (b8) e,.ro false 105 (ek) f,.ro false 41 (cz) g])] []
def wE (a w b:Int)(c:List Int)(d:List a7)(e:List bS)(f:List bF)(G H r g h i j k:Int)(l m:ByteArray)(o I p:Int)(K:List lv)(q:List Int)(s:List a7)(t:List bS)(u:List bF)(v:List Int)(x:List D4)(y:List D9)(z:List Int)(A:List lv)(B:List Int)(C:List a7)(D:List bS)(E:List bF):= cR 67 [(1,bb a),b1 2,b1 4,b1 6,(7,.v (.c (.own 1000000 none))),b1 8] [(2,[ao w,ao b,.ro false 3 (.int .i64) c,.ro false 65 (b8) d,.ro false 105 (ek) e,.ro false 41 (cz) f]),(4,[ao G,ao H,.own 1000001 none,.own 1000002 none,.own 1000003 none,.own 1000004 none]),(6,[ao r,ao g,ao h,ao i,ao j,ao k,.str l,.own 1000005 none,.str m,.own 1000006 none,.own 1000007 none,.own 1000008 none,ao o,.own 1000009 none]),(8,[ao I,ao p,.own 1000010 none,.own 1000011 none,.own 1000012 none,.own 1000013 none])] [az 1000000 136 pY K,az 1000001 3 (.int .i64) q,az 1000002 65 b8 s,az 1000003 105 ek t,az 1000004 41 cz u,az 1000005 3 (.int .i64) v,az 1000006 52 K4 x,az 1000007 50 K9 y,az 1000008 5 (.int .u8) z,az 1000009 136 pY A,az 1000010 3 (.int .i64) B,az 1000011 65 b8 C,az 1000012 105 ek D,az 1000013 41 cz E]
def oF (a:St):Option U:=fe ir F iu [.r,.r,.r,.l,.r,.b,.i] f43 J n a
abbrev aeW:List (Ty×Bool):=[(hJ,true),(.int .i64,false)]
def fy:=hH ir F iu [.r,.r,.r,.l,.r,.b] f43 aeW 0
def FF (a I K L b w c:Int)(d:List Int)(e:List a7)(f:List bS)(g:List bF)(M N r j k l m o:Int)(p q:ByteArray)(s O t:Int)(P:List lv)(h:List bF)(u:List Int)(v:List a7)(x:List bS)(y:List bF)(z:List Int)(A:List D4)(B:List D9)(C:List Int)(D:List lv)(E:List Int)(G:List a7)(H:List bS)(i:List bF):vF F J (n+1) (pM a I K L b w c d e f g M N r j k l m o p q s O t P h u v x y z A B C D E G H i)=br (decide (b<L)) (ck (bE b (h.length:Int)) ((db F0 i (aH h b cz.aC)).bind fun Q=>br (!Q.1) (J .ret (NS 4 w c d e f g)) (vF F J n (pM a I K L (aj (b+1)) w c d e f g M N r j k l m o p q s O t P h u v x y z A B C D E G H i)))) (J (.exit 2) (Lp a I K w c d e f g M N r j k l m o p q s O t P u v x y z A B C D E G H i)):=by kernel_rfl
def FG (a I b w d:Int)(e:List Int)(f:List a7)(g:List bS)(h:List bF)(K L r i j k l m:Int)(o p:ByteArray)(q M s:Int)(c:List lv)(t:List Int)(u:List a7)(v:List bS)(x:List bF)(y:List Int)(z:List D4)(A:List D9)(B:List Int)(C:List lv)(D:List Int)(E:List a7)(G:List bS)(H:List bF):oF F J (n+1) (k7 a I b w d e f g h K L r i j k l m o p q M s c t u v x y z A B C D E G H)=br (decide (b<I)) (ck (bE b (c.length:Int)) ((FE F0 a (aH c b pY.aC).2).bind fun N=>vF F (pN F J n) F.n (pM a I b (N.1.length:Int) 0 w d e f g h K L r i j k l m o p q M s c N.1 t u v x y z A B C D E G H))) (J (.exit 0) (wE a w d e f g h K L r i j k l m o p q M s c t u v x y z A B C D E G H)):=by kernel_rfl
def acx (a b c:Int)(d:List Int)(e:List a7)(f:List bS)(g:List bF):pN F J n .ret (NS a b c d e f g)=J .ret (NT a b c d e f g):=by kernel_rfl
def Zv (a G H w b:Int)(c:List Int)(d:List a7)(e:List bS)(f:List bF)(I K r g h i j k:Int)(l m:ByteArray)(o L p:Int)(M:List lv)(q:List Int)(s:List a7)(t:List bS)(u:List bF)(v:List Int)(x:List D4)(y:List D9)(z:List Int)(A:List lv)(B:List Int)(C:List a7)(D:List bS)(E:List bF):pN F J n (.exit 2) (Lp a G H w b c d e f I K r g h i j k l m o L p M q s t u v x y z A B C D E)=oF F J n (k7 a G (aj (H+1)) w b c d e f I K r g h i j k l m o L p M q s t u v x y z A B C D E):=by kernel_rfl
def acy (a b c:Int)(d:List Int)(e:List a7)(f:List bS)(g:List bF):fy F .ret (NT a b c d e f g)=some (((b,c),d,e,f,g),a,()):=by kernel_rfl
def Zw (a w e:Int)(f:List Int)(g:List a7)(b:List bS)(h:List bF)(K L r i j k l m:Int)(o p:ByteArray)(q C s:Int)(d:List lv)(D:List Int)(E:List a7)(G:List bS)(H:List bF)(t:List Int)(u:List D4)(v:List D9)(x:List Int)(y:List lv)(z:List Int)(c:List a7)(A:List bS)(B:List bF):fy F (.exit 0) (wE a w e f g b h K L r i j k l m o p q C s d D E G H t u v x y z c A B)=br (decide ((aj ((b.length:Int)+(d.length:Int)))>60)) (some (((w,e),f,g,b,h),4,())) (ck (bE a (c.length:Int)) ((QS F0 ((C,s),z,c.set a.toNat (r,i,j,(k,l,(m,o,t),p),u,v,(x,q),y),A,B) d).bind fun I=>some (I.1,0,()))):=by kernel_rfl
def ED (w:lx)(a:Int):=bm ir F iu f43 aeW aeW 0 (w,a,())
def ahN (w:lx)(a:Int):ED F w a=ck (bE a (w.2.2.1.length:Int)) ((I1 F0 w.1 (aH w.2.2.1 a b8.aC)).bind fun b=>(Sh F0 w a b.2.1).bind fun c=>oF F (fy F) F.n (k7 a (b.2.1.length:Int) 0 w.1.1 w.1.2 w.2.1 w.2.2.1 w.2.2.2.1 w.2.2.2.2 0 0 b.1.1 b.1.2.1 b.1.2.2.1 b.1.2.2.2.1.1 b.1.2.2.2.1.2.1 b.1.2.2.2.1.2.2.1.1 b.1.2.2.2.1.2.2.1.2.1 b.1.2.2.2.1.2.2.2 b.1.2.2.2.2.2.2.1.2 c.1.1.1 c.1.1.2 b.2.1 [] [] [] [] b.1.2.2.2.1.2.2.1.2.2 b.1.2.2.2.2.1 b.1.2.2.2.2.2.1 b.1.2.2.2.2.2.2.1.1 b.1.2.2.2.2.2.2.2 c.1.2.1 c.1.2.2.1 c.1.2.2.2.1 c.1.2.2.2.2)):=by kernel_rfl
def NU:Any:=.one ⟨aeW,aeW,0,fun x=>ED F0 x.1 x.2.1⟩
def ahO:a8 43 NU:=aq ir ⟨alZ,asv,Xh,iq,awe,trivial⟩ func43 iu (by kernel_rfl)
def Xn:=[(47,il)]
def I3 (a b:D9):=bm Xn F ad f275 wX gv 2 (a,b,())
def al5 (a b:D9):I3 F a b=br (decide (a.1>b.1)) ((gZ F0 a).bind fun c=>some (c.1,())) ((gZ F0 b).bind fun d=>some (d.1,())):=by kernel_rfl
def QT:Any:=.one ⟨wX,gv,2,fun x=>I3 F0 x.1 x.2.1⟩
def al6:a8 275 QT:=aq Xn ⟨mM,trivial⟩ func275 ad (by kernel_rfl)
def Xo:=[(108,Es),(109,q6)]
def I4 (name:ByteArray):=bm Xo F ad f276 dC aDx 1 (name,())
def al7 (name:ByteArray):I4 F name=(q5 F0 name).bind fun a=>br (decide ((a.1.length:Int)<3)) (some (ak,false,())) (ck (bE (aj ((a.1.length:Int)-1)) (a.1.length:Int)) (ck (bE (aj ((a.1.length:Int)-2)) (a.1.length:Int)) (br ((aH a.1 (aj ((a.1.length:Int)-1)) (0,[])).1 != (aj ((aH a.1 (aj ((a.1.length:Int)-2)) (0,[])).1+1))) (some (ak,false,())) (ck (bE (aj ((a.1.length:Int)-2)) (a.1.length:Int)) (ck (bE (aj ((a.1.length:Int)-3)) (a.1.length:Int)) (br ((aH a.1 (aj ((a.1.length:Int)-2)) (0,[])).1 != (aj ((aH a.1 (aj ((a.1.length:Int)-3)) (0,[])).1+1))) (some (ak,false,())) ((sv F0 name).bind fun b=>(sv F0 b.1).bind fun c=>some (c.1,true,())))))))):=by kernel_rfl
def QU:Any:=.one ⟨dC,aDx,1,fun x=>I4 F0 x.1⟩
def al8:a8 276 QU:=aq Xo ⟨Sf,El,trivial⟩ func276 ad (by kernel_rfl)
def pd (s a:ByteArray):=bm aB F ad f273 Tx aP 1 (s,a,())
def O8 (s a:ByteArray):pd F s a=br (decide ((s.size:Int)>=(a.size:Int))) (ck (RZ 0 (a.size:Int) (s.size:Int)) (some ((s.extract (0:Int).toNat (a.size:Int).toNat).toList==a.toList,()))) (some (false,())):=by kernel_rfl
def tl:Any:=.one ⟨Tx,aP,1,fun x=>pd F0 x.1 x.2.1⟩
def O9:a8 273 tl:=aq aB trivial func273 ad (by kernel_rfl)
def HG:=[(273,tl)]
def AX (s a:ByteArray):=bm HG F ad f224 Tx aP 1 (s,a,())
def Xp (s a:ByteArray):AX F s a=(pd F0 s a).bind fun b=>some (b.1,()):=by kernel_rfl
def BV:Any:=.one ⟨Tx,aP,1,fun x=>AX F0 x.1 x.2.1⟩
def Xq:a8 224 BV:=aq HG ⟨O9,trivial⟩ func224 ad (by kernel_rfl)
def Xr:=[(60,eP),(224,BV)]
def sM (s t:ByteArray):=bm Xr F ad f156 Tx aP 1 (s,t,())
def al9 (s t:ByteArray):sM F s t=(e5 F0 s).bind fun a=>br a.1 ((e5 F0 t).bind fun b=>br b.1 ((AX F0 s t).bind fun c=>br c.1 (br ((s.size:Int)==(t.size:Int)) (some (true,())) (ck (bE (t.size:Int) (s.size:Int)) (some ((jO s (t.size:Int))==47,())))) (some (false,()))) (some (false,()))) (some (false,())):=by kernel_rfl
def CX:Any:=.one ⟨Tx,aP,1,fun x=>sM F0 x.1 x.2.1⟩
def Uo:a8 156 CX:=aq Xr ⟨gW,Xq,trivial⟩ func156 ad (by kernel_rfl)
def apm:=[(49,ea),(50,kB),(107,jz),(108,Es),(151,k2),(156,CX),(275,QT),(276,QU)]
def QV (c:D1)(s:U0)(q:D9):=bm apm F ad f226 aDy BK 2 (c,s,q,())
def ayx (c:D1)(s:U0)(q:D9):QV F c s q=(lD F0 s).bind fun a=>(kY F0 c s).bind fun f=>br (!f.1) (some (a.1,())) ((mz F0 c q).bind fun g=>br (!g.1) (some (a.1,())) ((I3 F0 q s.2.2.1).bind fun d=>(sv F0 q.2.1).bind fun h=>(er F0 h.1).bind fun b=>(I4 F0 q.2.1).bind fun e=>br e.2.1 ((sM F0 e.1 s.2.2.2).bind fun i=>br i.1 (some ((a.1.1,(if b.1>s.2.1 then b.1 else s.2.1,(d.1,e.1))),())) (some ((a.1.1,(if b.1>s.2.1 then b.1 else s.2.1,(d.1,a.1.2.2.2))),()))) (some ((a.1.1,(if b.1>s.2.1 then b.1 else s.2.1,(d.1,a.1.2.2.2))),())))):=by kernel_rfl
def I5:Any:=.one ⟨aDy,BK,2,fun x=>QV F0 x.1 x.2.1 x.2.2.1⟩
def Xs:a8 226 I5:=aq apm ⟨fw,q8,nJ,Sf,sx,Uo,al6,al8,trivial⟩ func226 ad (by kernel_rfl)
def Xt:=[(48,mB),(49,ea),(50,kB)]
def I6 (c:D1)(s:U0)(b:D15):=bm Xt F ad f16 ajA aP 1 (c,s,b,())
def ama (c:D1)(s:U0)(b:D15):I6 F c s b=(kY F0 c s).bind fun a=>br a.1 ((nL F0 c b).bind fun d=>br d.1 ((er F0 b.1).bind fun e=>br (decide (e.1>s.1)) (some (decide (b.2.1>=s.2.1),())) (some (false,()))) (some (false,()))) (some (false,())):=by kernel_rfl
def QW:Any:=.one ⟨ajA,aP,1,fun x=>I6 F0 x.1 x.2.1 x.2.2.1⟩
def amb:a8 16 QW:=aq Xt ⟨vx,fw,q8,trivial⟩ func16 ad (by kernel_rfl)
def ajR:=[(16,QW),(49,ea),(151,k2)]
def YL (c:D1)(s:U0)(b:D15):=bm ajR F ad f227 ajA ajC 2 (c,s,b,())
def awf (c:D1)(s:U0)(b:D15):YL F c s b=(lD F0 s).bind fun a=>(I6 F0 c s b).bind fun d=>br (!d.1) (some (a.1,false,())) ((er F0 b.1).bind fun e=>some ((e.1,a.1.2),true,())):=by kernel_rfl
def aa8:Any:=.one ⟨ajA,ajC,2,fun x=>YL F0 x.1 x.2.1 x.2.2.1⟩
def awg:a8 227 aa8:=aq ajR ⟨amb,fw,sx,trivial⟩ func227 ad (by kernel_rfl)
def Uq:=[(55,kz)]
def o0 (a b:U0):=bm Uq F ad f19 aDz aP 1 (a,b,())
def ahP (a b:U0):o0 F a b=br (a.1==b.1) (br (a.2.1==b.2.1) ((jx F0 a.2.2.1 b.2.2.1).bind fun c=>br c.1 (some (a.2.2.2.toList==b.2.2.2.toList,())) (some (false,()))) (some (false,()))) (some (false,())):=by kernel_rfl
def pO:Any:=.one ⟨aDz,aP,1,fun x=>o0 F0 x.1 x.2.1⟩
def CY:a8 19 pO:=aq Uq ⟨q4,trivial⟩ func19 ad (by kernel_rfl)
def QX:=[(50,kB),(171,sI),(172,CW),(173,sK)]
def AY (c:D1)(s:U0):=bm QX F ad f318 Tf l1 2 (c,s,())
def aeX (c:D1)(s:U0):AY F c s=(kY F0 c s).bind fun e=>br (!e.1) (some ([],())) ((k6 F0 [s.1,s.2.1]).bind fun a=>(sL F0 c s.2.2.1).bind fun b=>ck (en F a.1.length b.1.length 1) ((nY F0 s.2.2.2).bind fun d=>ck (en F (a.1++b.1).length d.1.length 1) (some ((a.1++b.1)++d.1,())))):=by kernel_rfl
def Lq:Any:=.one ⟨Tf,l1,2,fun x=>AY F0 x.1 x.2.1⟩
def aeY:a8 318 Lq:=aq QX ⟨q8,GN,Um,GO,trivial⟩ func318 ad (by kernel_rfl)
def QY:=[(170,ik),(318,Lq)]
def AZ (c:D1)(s:U0):=bm QY F ad f278 Tf l1 2 (c,s,())
def aeZ (c:D1)(s:U0):AZ F c s=(AY F0 c s).bind fun a=>br ((a.1.length:Int)==0) (some ([],())) ((e6 F0 (a.1.length:Int)).bind fun b=>ck (en F b.1.length a.1.length 1) (ck (en F (b.1++a.1).length [10].length 1) (some ((b.1++a.1)++[10],())))):=by kernel_rfl
def Lr:Any:=.one ⟨Tf,l1,2,fun x=>AZ F0 x.1 x.2.1⟩
def ae0:a8 278 Lr:=aq QY ⟨mD,aeY,trivial⟩ func278 ad (by kernel_rfl)
def aa9:=[(118,oD),(154,k3)]
def NV (d:D14)(b:List Int):=bm aa9 F ad f277 aDA aDB 2 (d,b,())
def apn (d:D14)(b:List Int):NV F d b=(lE F0 d).bind fun a=>(rb F0 d).bind fun c=>br (!c.1) (some (a.1,false,())) (br (decide ((aj ((d.1.length:Int)+(b.length:Int)))>100000)) (some (a.1,false,())) (ck (en F a.1.1.length b.length 1) (some ((a.1.1++b,a.1.2),true,())))):=by kernel_rfl
def Ur:Any:=.one ⟨aDA,aDB,2,fun x=>NV F0 x.1 x.2.1⟩
def apo:a8 277 Ur:=aq aa9 ⟨AD,sB,trivial⟩ func277 ad (by kernel_rfl)
def ae1:=[(19,pO),(58,b2),(80,bO),(151,k2),(277,Ur),(278,Lr)]
abbrev aGN:List (Ty×Bool):=[(K1,true),(b8,true),(K12,true)]
def wF (c:D1)(r:a7)(s:U0):=bm ae1 F ad f228 aGN gB 2 (c,r,s,())
def asw (c:D1)(r:a7)(s:U0):wF F c r s=(aA F0 r).bind fun a=>(cp F0 c r).bind fun f=>br (!f.1) (some (a.1,false,())) ((o0 F0 s r.2.2.2.1).bind fun g=>br g.1 (some (a.1,true,())) ((AZ F0 c s).bind fun h=>(NV F0 r.2.2.2.2.2.2.1 h.1).bind fun b=>(lD F0 s).bind fun e=>br (!b.2.1) ((aA F0 r).bind fun d=>some (d.1,false,())) ((cp F0 c (a.1.1,a.1.2.1,a.1.2.2.1,e.1,a.1.2.2.2.2.1,a.1.2.2.2.2.2.1,b.1,a.1.2.2.2.2.2.2.2)).bind fun i=>br (!i.1) ((aA F0 r).bind fun d=>some (d.1,false,())) (some ((a.1.1,a.1.2.1,a.1.2.2.1,e.1,a.1.2.2.2.2.1,a.1.2.2.2.2.2.1,b.1,a.1.2.2.2.2.2.2.2),true,()))))):=by kernel_rfl
def A0:Any:=.one ⟨aGN,gB,2,fun x=>wF F0 x.1 x.2.1 x.2.2.1⟩
def Pb:a8 228 A0:=aq ae1 ⟨CY,ct,ca,sx,apo,ae0,trivial⟩ func228 ad (by kernel_rfl)
def aba:=[(29,fv),(51,cP),(350,tM),(352,BI)]
def FH (s:List Int)(i:Int):=bm aba F ad f321 Tw ko 2 (s,i,())
def apq (s:List Int)(i:Int):FH F s i=(c8 F0 s i).bind fun c=>br c.1 ((dZ F0 s).bind fun d=>some (d.1,())) (br (decide ((p1 (fun a=>geP a i) s 0)<0)) ((dZ F0 s).bind fun b=>ck (ajk (s.length:Int) b.1.length [i].length) (some (b.1.take (s.length:Int).toNat++[i]++b.1.drop (s.length:Int).toNat,()))) ((dZ F0 s).bind fun b=>ck (ajk (p1 (fun a=>geP a i) s 0) b.1.length [i].length) (some (b.1.take (p1 (fun a=>geP a i) s 0).toNat++[i]++b.1.drop (p1 (fun a=>geP a i) s 0).toNat,())))):=by kernel_rfl
def Us:Any:=.one ⟨Tw,ko,2,fun x=>FH F0 x.1 x.2.1⟩
def apr:a8 321 Us:=aq aba ⟨jH,dQ,PE,VZ,trivial⟩ func321 ad (by kernel_rfl)
def mP:=[(321,Us)]
def mQ:Nat->Option Hint:=look [(3,{live:=[1,5,10,11,12],mat:=[(5,3,.int .i64)],xl:=[1,5],rl:=[4]}),(8,{live:=[5,20,21,22],xl:=[5],rl:=[4]})]
def sN (a:List Int)(b c:Int)(d:List Int):= cR 31 [(5,.v (.c (.own 1000000 none))),(20,ia 3 (.int .i64) a),(21,bb b),(22,bb c)] [] [az 1000000 3 (.int .i64) d]
def NW (a:List Int):= cR 31 [(5,.v (.c (.own 1000000 none)))] [] [az 1000000 3 (.int .i64) a]
def A2 (a:St):Option U:=fe mP F mQ [.r,.r,.r,.l,.r,.b,.i] f285 J n a
def CZ:=hH mP F mQ [.r,.r,.r,.l,.r,.b] f285 ko 2
def sO (b a:List Int)(c d:Int)(e:List Int):= cR 31 [(1,ia 3 (.int .i64) b),(5,.v (.c (.own 1000000 none))),(10,ia 3 (.int .i64) a),(11,bb c),(12,bb d)] [] [az 1000000 3 (.int .i64) e]
def NX (b a:List Int):= cR 31 [(1,ia 3 (.int .i64) b),(5,.v (.c (.own 1000000 none)))] [] [az 1000000 3 (.int .i64) a]
def A3 (a:St):Option U:=fe mP F mQ [.r,.r,.l,.r,.b,.i] f285 J n a
def C0:=hH mP F mQ [.r,.r,.l,.r,.b] f285 ko 2
def HH (b:List Int)(c a:Int)(d:List Int):A2 F J (n+1) (sN b c a d)=br (decide (a<c)) (ck (bE a (b.length:Int)) ((FH F0 d (aH b a 0)).bind fun e=>A2 F J n (sN b c (aj (a+1)) e.1))) (J (.exit 2) (NW d)):=by kernel_rfl
def HI (b c:List Int)(d a:Int)(e:List Int):A3 F J (n+1) (sO b c d a e)=br (decide (a<d)) (ck (bE a (c.length:Int)) ((FH F0 e (aH c a 0)).bind fun f=>A3 F J n (sO b c d (aj (a+1)) f.1))) (J (.exit 0) (NX b e)):=by kernel_rfl
def acz (a:List Int):CZ F (.exit 2) (NW a)=some (a,()):=by kernel_rfl
def acA (b a:List Int):C0 F (.exit 0) (NX b a)=A2 F (CZ F) F.n (sN b (b.length:Int) 0 a):=by kernel_rfl
def I7 (a b:List Int):=bm mP F mQ f285 akN ko 2 (a,b,())
def amc (a b:List Int):I7 F a b=A3 F (C0 F) F.n (sO b a (a.length:Int) 0 []):=by kernel_rfl
def QZ:Any:=.one ⟨akN,ko,2,fun x=>I7 F0 x.1 x.2.1⟩
def amd:a8 285 QZ:=aq mP ⟨apr,trivial⟩ func285 mQ (by kernel_rfl)
def Ut:=[(285,QZ)]
def EE (a b:D9):=bm Ut F ad f238 wX ajD 2 (a,b,())
def ahQ (a b:D9):EE F a b=br (a.1 != b.1) (some ((0,ak,[]),false,())) (br (!(a.2.1.toList==b.2.1.toList)) (some ((0,ak,[]),false,())) ((I7 F0 a.2.2 b.2.2).bind fun c=>some ((a.1,a.2.1,c.1),true,()))):=by kernel_rfl
def NY:Any:=.one ⟨wX,ajD,2,fun x=>EE F0 x.1 x.2.1⟩
def ahR:a8 238 NY:=aq Ut ⟨amd,trivial⟩ func238 ad (by kernel_rfl)
def vG:=[(117,CK),(153,wA),(190,oC),(191,pb),(222,hQ),(238,NY),(239,yj)]
def vH:Nat->Option Hint:=look [(5,{live:=[1,3,5,8,9],xl:=[1,3,5,8,9],rl:=[6,7]})]
def pP (e:List D9)(k c a p:Int)(b:ByteArray)(d:List Int)(f:List D9):= cR 71 [(1,ia 50 (K9) e),b1 3,b1 5,(8,.v (.c (.own 1000000 none))),(9,bb k)] [(3,[ao c,ao a]),(5,[ao p,.str b,.ro false 3 (.int .i64) d])] [az 1000000 50 K9 f]
def nZ (e:List D9)(k c a p:Int)(b:ByteArray)(d:List Int)(f:List D9):= cR 71 [(1,ia 50 (K9) e),b1 3,b1 5,(8,.v (.c (.own 1000000 none))),(9,bb k)] [(3,[ao c,ao a]),(5,[ao p,.str b,.ro false 3 (.int .i64) d])] [az 1000000 50 K9 f]
def vI (a:St):Option U:=fe vG F vH [.r,.r,.r,.r,.l,.b,.i] f177 J n a
def pQ:=hH vG F vH [.r,.r,.r,.r,.l,.b] f177 atG 2
def FI (f:List D9)(k c e p:Int)(b:ByteArray)(d:List Int)(a:List D9):vI F J (n+1) (pP f k c e p b d a)=br (decide (k<(a.length:Int))) (ck (bE k (a.length:Int)) ((fx F0 (aH a k K9.aC) (p,b,d)).bind fun g=>br (decide (g.1<0)) (vI F J n (pP f (aj (k+1)) c e p b d a)) (J (.exit 0) (nZ f k c e p b d a)))) (J (.exit 0) (nZ f k c e p b d a)):=by kernel_rfl
def Zx (i:List D9)(k c h p:Int)(d:ByteArray)(e:List Int)(a:List D9):pQ F (.exit 0) (nZ i k c h p d e a)=br (decide (k<(a.length:Int))) (ck (bE k (a.length:Int)) ((fx F0 (aH a k K9.aC) (p,d,e)).bind fun l=>br (l.1==0) (ck (bE k (a.length:Int)) ((EE F0 (aH a k K9.aC) (p,d,e)).bind fun j=>ck (bE k (a.length:Int)) ((kZ F0 (c,h) (a.set k.toNat j.1)).bind fun f=>br (!f.1) ((eJ F0 i).bind fun g=>some (g.1,false,())) (some (a.set k.toNat j.1,true,()))))) ((fl F0 (p,d,e)).bind fun b=>ck (ajk k a.length [b.1].length) ((kZ F0 (c,h) (a.take k.toNat++[b.1]++a.drop k.toNat)).bind fun f=>br (!f.1) ((eJ F0 i).bind fun g=>some (g.1,false,())) (some (a.take k.toNat++[b.1]++a.drop k.toNat,true,())))))) ((fl F0 (p,d,e)).bind fun b=>ck (ajk k a.length [b.1].length) ((kZ F0 (c,h) (a.take k.toNat++[b.1]++a.drop k.toNat)).bind fun f=>br (!f.1) ((eJ F0 i).bind fun g=>some (g.1,false,())) (some (a.take k.toNat++[b.1]++a.drop k.toNat,true,())))):=by kernel_rfl
def eK (c:D1)(a:D13)(p:D9):=bm vG F vH f177 aDC atG 2 (c,a,p,())
def ahS (c:D1)(a:D13)(p:D9):eK F c a p=(q9 F0 c p).bind fun b=>br (!b.1) ((eJ F0 a).bind fun d=>some (d.1,false,())) ((eJ F0 a).bind fun e=>vI F (pQ F) F.n (pP a 0 c.1 c.2 p.1 p.2.1 p.2.2 e.1)):=by kernel_rfl
def k8:Any:=.one ⟨aDC,atG,2,fun x=>eK F0 x.1 x.2.1 x.2.2.1⟩
def sP:a8 177 k8:=aq vG ⟨Ua,NK,Ay,FC,mN,ahR,UZ,trivial⟩ func177 vH (by kernel_rfl)
def vJ:=[(222,hQ)]
def vK:Nat->Option Hint:=look [(2,{live:=[1,2,6,9,10,11],yc:=[(6,2,3,.int .i64)],xl:=[1,2,6],rl:=[6]})]
def k9 (a:Int)(name:ByteArray)(b:List D9)(c d e:Int)(f:ByteArray)(g:List Int):= cR 31 [(1,bb a),(2,Z0 name),b1 6,(9,ia 50 (K9) b),(10,bb c),(11,bb d)] [(6,[ao e,.str f,.own 1000000 none])] [az 1000000 3 (.int .i64) g]
def NZ (a:Int)(b:ByteArray)(c:List Int):= cR 31 [b1 6] [(6,[ao a,.str b,.own 1000000 none])] [az 1000000 3 (.int .i64) c]
def Ls (a:Int)(name:ByteArray)(b:Int)(c:ByteArray)(d:List Int):= cR 31 [(1,bb a),(2,Z0 name),b1 6] [(6,[ao b,.str c,.own 1000000 none])] [az 1000000 3 (.int .i64) d]
def oG (a:St):Option U:=fe vJ F vK [.r,.l,.r,.b,.i] f232 J n a
def pR:=hH vJ F vK [.r,.l,.r,.b] f232 gv 2
def FJ (c:Int)(name:ByteArray)(b:List D9)(d a e:Int)(f:ByteArray)(g:List Int):oG F J (n+1) (k9 c name b d a e f g)=br (decide (a<d)) (ck (bE a (b.length:Int)) (br ((aH b a K9.aC).1==c) (br ((aH b a K9.aC).2.1.toList==name.toList) ((fl F0 (aH b a K9.aC)).bind fun h=>J .ret (NZ h.1.1 h.1.2.1 h.1.2.2)) (oG F J n (k9 c name b d (aj (a+1)) e f g))) (oG F J n (k9 c name b d (aj (a+1)) e f g)))) (J (.exit 0) (Ls c name e f g)):=by kernel_rfl
def acB (a:Int)(b:ByteArray)(c:List Int):pR F .ret (NZ a b c)=some ((a,b,c),()):=by kernel_rfl
def Zy (a:Int)(name:ByteArray)(b:Int)(c:ByteArray)(d:List Int):pR F (.exit 0) (Ls a name b c d)=some ((a,name,[]),()):=by kernel_rfl
def ue (a:D13)(b:Int)(name:ByteArray):=bm vJ F vK f232 aDr gv 2 (a,b,name,())
def ahT (a:D13)(b:Int)(name:ByteArray):ue F a b name=oG F (pR F) F.n (k9 b name a (a.length:Int) 0 0 ak []):=by kernel_rfl
def A4:Any:=.one ⟨aDr,gv,2,fun x=>ue F0 x.1 x.2.1 x.2.2.1⟩
def Q0:a8 232 A4:=aq vJ ⟨mN,trivial⟩ func232 vK (by kernel_rfl)
def ajS:=[(30,cO)]
def sQ (c:D1)(a:Int):=bm ajS F ad f168 aju cF 1 (c,a,())
def awh (c:D1)(a:Int):sQ F c a=(ep F0 c).bind fun b=>br (!b.1) (some (-1,())) (br (decide (a<0)) (some (-1,())) (ck (!(c.1==0)) (some (Int.tmod a c.1,())))):=by kernel_rfl
def lG:Any:=.one ⟨aju,cF,1,fun x=>sQ F0 x.1 x.2.1⟩
def sR:a8 168 lG:=aq ajS ⟨dP,trivial⟩ func168 ad (by kernel_rfl)
def abb:=[(47,il),(107,jz)]
def FK (c:D1)(p:D9):=bm abb F ad f233 G3 ajD 2 (c,p,())
def aps (c:D1)(p:D9):FK F c p=(gZ F0 p).bind fun a=>(mz F0 c a.1).bind fun b=>br (!b.1) (some ((0,ak,[]),false,())) (br (a.1.1==0) (some ((0,ak,[]),false,())) (some (a.1,true,()))):=by kernel_rfl
def Uu:Any:=.one ⟨G3,ajD,2,fun x=>FK F0 x.1 x.2.1⟩
def apt:a8 233 Uu:=aq abb ⟨mM,nJ,trivial⟩ func233 ad (by kernel_rfl)
def ajT:=[(58,b2),(80,bO),(223,CT)]
def mR (c:D1)(r:a7)(a:Int)(m:OZ):=bm ajT F ad f178 aDD gB 2 (c,r,a,m,())
def awi (c:D1)(r:a7)(b:Int)(m:OZ):mR F c r b m=(aA F0 r).bind fun a=>(AN F0 m).bind fun d=>ck (en F a.1.2.2.2.2.2.2.2.length [(b,d.1)].length 224) ((cp F0 c (a.1.1,a.1.2.1,a.1.2.2.1,a.1.2.2.2.1,a.1.2.2.2.2.1,a.1.2.2.2.2.2.1,a.1.2.2.2.2.2.2.1,a.1.2.2.2.2.2.2.2++[(b,d.1)])).bind fun e=>br (!e.1) ((aA F0 r).bind fun f=>some (f.1,false,())) (some ((a.1.1,a.1.2.1,a.1.2.2.1,a.1.2.2.2.1,a.1.2.2.2.2.1,a.1.2.2.2.2.2.1,a.1.2.2.2.2.2.2.1,a.1.2.2.2.2.2.2.2++[(b,d.1)]),true,()))):=by kernel_rfl
def uf:Any:=.one ⟨aDD,gB,2,fun x=>mR F0 x.1 x.2.1 x.2.2.1 x.2.2.2.1⟩
def I8:a8 178 uf:=aq ajT ⟨ct,ca,Ui,trivial⟩ func178 ad (by kernel_rfl)
def ae2:=[(168,lG),(178,uf),(226,I5),(228,A0)]
def Lt (c:D1)(r:a7)(q:D9):=bm ae2 F ad f234 ajE gB 0 (c,r,q,())
def asx (c:D1)(r:a7)(q:D9):Lt F c r q=(QV F0 c r.2.2.2.1 q).bind fun e=>(wF F0 c r e.1).bind fun a=>br (!a.2.1) (some (r,false,())) (br (decide ((aj (q.1+1))>60)) (some (a.1,true,())) ((sQ F0 c (aj (q.1+1))).bind fun b=>br (b.1 != r.1) ((mR F0 c (a.1.1,(if (aj (q.1+1))>a.1.2.1 then (aj (q.1+1)) else a.1.2.1,a.1.2.2)) b.1 (3,aj (q.1+1),(ak,0,ak,[]),(0,ak,[]),q,r.1,0,0,0,0)).bind fun d=>some (d.1,d.2.1,())) (some ((a.1.1,(if (aj (q.1+1))>a.1.2.1 then (aj (q.1+1)) else a.1.2.1,a.1.2.2)),true,())))):=by kernel_rfl
def Xu:Any:=.one ⟨ajE,gB,0,fun x=>Lt F0 x.1 x.2.1 x.2.2.1⟩
def asy:a8 234 Xu:=aq ae2 ⟨sR,I8,Xs,Pb,trivial⟩ func234 ad (by kernel_rfl)
def ajU:=[(30,cO),(41,bA)]
def JJ (c:D1)(a i:Int):=bm ajU F ad f282 Qg cF 1 (c,a,i,())
def awj (c:D1)(a i:Int):JJ F c a i=(ep F0 c).bind fun b=>br (!b.1) (some (-1,())) (br (decide (a<0)) (some (-1,())) ((aZ F0 i 0 (aj (c.1-1))).bind fun d=>br (!d.1) (some (-1,())) (ck (!(c.1==0)) (ck (!(c.1==0)) (some (Int.tmod (aj ((aj (i-(Int.tmod a c.1)))+c.1)) c.1,())))))):=by kernel_rfl
def EF:Any:=.one ⟨Qg,cF,1,fun x=>JJ F0 x.1 x.2.1 x.2.2.1⟩
def Si:a8 282 EF:=aq ajU ⟨dP,bW,trivial⟩ func282 ad (by kernel_rfl)
def ajV:=[(30,cO),(41,bA)]
def YM (c:D1)(b a:Int):=bm ajV F ad f284 Qg cF 1 (c,b,a,())
def awk (c:D1)(b a:Int):YM F c b a=(ep F0 c).bind fun d=>br (!d.1) (some (-1,())) (br (decide (b<0)) (some (-1,())) ((aZ F0 a 0 (aj (c.1-1))).bind fun e=>br (!e.1) (some (-1,())) (ck (!(c.1==0)) (ck (!(c.1==0)) (some (Int.tmod (aj ((Int.tmod b c.1)+a)) c.1,())))))):=by kernel_rfl
def abc:Any:=.one ⟨Qg,cF,1,fun x=>YM F0 x.1 x.2.1 x.2.2.1⟩
def awl:a8 284 abc:=aq ajV ⟨dP,bW,trivial⟩ func284 ad (by kernel_rfl)
def atK:=[(282,EF),(284,abc)]
def YN (c:D1)(a i:Int):=bm atK F ad f237 Qg cF 1 (c,a,i,())
def aBh (c:D1)(a i:Int):YN F c a i=(JJ F0 c a i).bind fun b=>br (decide (b.1<1)) (some (-1,())) (ck (!(c.2==0)) ((YM F0 c a (aj (Int.tdiv (aj (b.1-1)) c.2))).bind fun d=>some (d.1,()))):=by kernel_rfl
def Xv:Any:=.one ⟨Qg,cF,1,fun x=>YN F0 x.1 x.2.1 x.2.2.1⟩
def apu:a8 237 Xv:=aq atK ⟨Si,awl,trivial⟩ func237 ad (by kernel_rfl)
end
end Go.Am.Tryz
namespace Go.Am.Tryz
open Go.Am Go.Proofs Go.Proofs.Tryz
noncomputable section
variable {U:Type} (F:rH) (J:Ex->St->Option U) (n:Nat)
def Sj:=[(237,Xv),(282,EF)]
def Sk:Nat->Option Hint:=look [(2,{live:=[1,2,3,7],mat:=[(7,3,.int .i64)],xl:=[7],rl:=[6]})]
def I9 (b i c a:Int)(d:List Int):= cR 22 [(1,bb b),(2,bb i),b1 3,(7,.v (.c (.own 1000000 none)))] [(3,[ao c,ao a])] [az 1000000 3 (.int .i64) d]
def Pc (a:List Int):= cR 22 [(7,.v (.c (.own 1000000 none)))] [] [az 1000000 3 (.int .i64) a]
def Sl (a:St):Option U:=fe Sj F Sk [.r,.r,.l,.b,.i] f283 J n a
def ae3:=hH Sj F Sk [.r,.r,.l,.b] f283 ko 2
def Uv (b i c a:Int)(d:List Int):Sl F J (n+1) (I9 b i c a d)=(JJ F0 (c,a) b i).bind fun e=>br (decide (e.1>=0)) (ck (en F d.length [i].length 8) ((YN F0 (c,a) b i).bind fun f=>Sl F J n (I9 b f.1 c a (d++[i])))) (J (.exit 0) (Pc d)):=by kernel_rfl
def apv (a:List Int):ae3 F (.exit 0) (Pc a)=some (a,()):=by kernel_rfl
def ae4 (c:D1)(a i:Int):=bm Sj F Sk f283 Qg ko 2 (c,a,i,())
def ayy (c:D1)(a i:Int):ae4 F c a i=Sl F (ae3 F) F.n (I9 a i c.1 c.2 []):=by kernel_rfl
def ae5:Any:=.one ⟨Qg,ko,2,fun x=>ae4 F0 x.1 x.2.1 x.2.2.1⟩
def ayz:a8 283 ae5:=aq Sj ⟨apu,Si,trivial⟩ func283 Sk (by kernel_rfl)
def Ja:=[(51,cP),(282,EF),(283,ae5)]
def Jb:Nat->Option Hint:=look [(3,{live:=[1,2,3,7,8],mat:=[(7,3,.int .i64)],xl:=[7],rl:=[6]})]
def rm (b i k c a:Int)(d:List Int):= cR 33 [(1,bb b),(2,bb i),b1 3,(7,.v (.c (.own 1000000 none))),(8,bb k)] [(3,[ao c,ao a])] [az 1000000 3 (.int .i64) d]
def GP (a:List Int):= cR 33 [(7,.v (.c (.own 1000000 none)))] [] [az 1000000 3 (.int .i64) a]
def A5 (a:St):Option U:=fe Ja F Jb [.r,.r,.l,.r,.b,.i] f235 J n a
def Lu:=hH Ja F Jb [.r,.r,.l,.r,.b] f235 ko 2
def A6 (d i k c b:Int)(a:List Int):A5 F J (n+1) (rm d i k c b a)=(JJ F0 (c,b) d i).bind fun e=>br (decide (e.1>=0)) (br (decide (k<c)) ((ae4 F0 (c,b) d k).bind fun f=>(c8 F0 f.1 i).bind fun g=>br g.1 (ck (en F a.length [k].length 8) (A5 F J n (rm d i (aj (k+1)) c b (a++[k])))) (A5 F J n (rm d i (aj (k+1)) c b a))) (J (.exit 0) (GP a))) (J (.exit 0) (GP a)):=by kernel_rfl
def Q1 (a:List Int):Lu F (.exit 0) (GP a)=some (a,()):=by kernel_rfl
def Sm (c:D1)(a i:Int):=bm Ja F Jb f235 Qg ko 2 (c,a,i,())
def asz (c:D1)(a i:Int):Sm F c a i=A5 F (Lu F) F.n (rm a i 0 c.1 c.2 []):=by kernel_rfl
def Xw:Any:=.one ⟨Qg,ko,2,fun x=>Sm F0 x.1 x.2.1 x.2.2.1⟩
def asA:a8 235 Xw:=aq Ja ⟨dQ,Si,ayz,trivial⟩ func235 Jb (by kernel_rfl)
def EG:=[(51,cP)]
def EH:Nat->Option Hint:=look [(3,{live:=[1,5,8,9,10],xl:=[5],rl:=[4]})]
def oH (b:List Int)(a:Int)(c:List Int)(d e:Int):= bU 21 [(1,ia 3 (.int .i64) b),(5,bb a),(8,ia 3 (.int .i64) c),(9,bb d),(10,bb e)]
def Q2 (a:Int):= bU 21 [(5,bb a)]
def ug (a:St):Option U:=fe EG F EH [.r,.r,.l,.r,.b,.i] f236 J n a
def GQ:=hH EG F EH [.r,.r,.l,.r,.b] f236 cF 1
def Lv (b:List Int)(d:Int)(c:List Int)(e a:Int):ug F J (n+1) (oH b d c e a)=br (decide (a<e)) (ck (bE a (c.length:Int)) ((c8 F0 b (aH c a 0)).bind fun f=>br f.1 (ug F J n (oH b (aj (d+1)) c e (aj (a+1)))) (ug F J n (oH b d c e (aj (a+1)))))) (J (.exit 0) (Q2 d)):=by kernel_rfl
def ae6 (a:Int):GQ F (.exit 0) (Q2 a)=some (a,()):=by kernel_rfl
def N1 (a b:List Int):=bm EG F EH f236 akN cF 1 (a,b,())
def apw (a b:List Int):N1 F a b=ug F (GQ F) F.n (oH b 0 a (a.length:Int) 0):=by kernel_rfl
def Uw:Any:=.one ⟨akN,cF,1,fun x=>N1 F0 x.1 x.2.1⟩
def apx:a8 236 Uw:=aq EG ⟨dQ,trivial⟩ func236 EH (by kernel_rfl)
def ae7:=[(58,b2),(80,bO),(168,lG),(178,uf),(232,A4),(233,Uu),(234,Xu),(235,Xw),(236,Uw),(237,Xv)]
def n0 (c:D1)(r:a7)(a:Int)(name:ByteArray)(b:Bool):=bm ae7 F ad f176 atI gB 0 (c,r,a,name,b,())
def asB (c:D1)(r:a7)(a:Int)(name:ByteArray)(j:Bool):n0 F c r a name j=(ue F0 r.2.2.2.2.2.1 a name).bind fun b=>br ((b.1.2.2.length:Int)==0) ((aA F0 r).bind fun d=>some (d.1,false,())) ((cp F0 c r).bind fun k=>br (!k.1) ((aA F0 r).bind fun d=>some (d.1,false,())) (br (name.toList==ak.toList) ((aA F0 r).bind fun d=>some (d.1,false,())) ((sQ F0 c a).bind fun l=>br (l.1==r.1) ((FK F0 c b.1).bind fun g=>br (!g.2.1) ((aA F0 r).bind fun m=>some (m.1,false,())) ((Lt F0 c r g.1).bind fun h=>br (!h.2.1) ((aA F0 r).bind fun o=>some (o.1,false,())) (some (h.1,true,())))) ((Sm F0 c a r.1).bind fun i=>br (!j) ((N1 F0 i.1 b.1.2.2).bind fun p=>br (decide (p.1<(i.1.length:Int))) ((aA F0 r).bind fun q=>some (q.1,false,())) ((YN F0 c a r.1).bind fun f=>(mR F0 c r f.1 (2,0,(ak,0,ak,[]),b.1,(0,ak,[]),0,0,0,0,0)).bind fun e=>some (e.1,e.2.1,()))) ((YN F0 c a r.1).bind fun f=>(mR F0 c r f.1 (2,0,(ak,0,ak,[]),b.1,(0,ak,[]),0,0,0,0,0)).bind fun e=>some (e.1,e.2.1,())))))):=by kernel_rfl
def A7:Any:=.one ⟨atI,gB,0,fun x=>n0 F0 x.1 x.2.1 x.2.2.1 x.2.2.2.1 x.2.2.2.2.1⟩
def Pd:a8 176 A7:=aq ae7 ⟨ct,ca,sR,I8,Q0,apt,asy,asA,apx,apu,trivial⟩ func176 ad (by kernel_rfl)
def Q3:=[(48,mB),(49,ea),(58,b2),(80,bO),(176,A7),(177,k8),(226,I5),(227,aa8),(228,A0)]
def rn (c:D1)(r:a7)(b:D15):=bm Q3 F ad f161 aDE gB 1 (c,r,b,())
def ae8 (c:D1)(r:a7)(b:D15):rn F c r b=(cp F0 c r).bind fun k=>br (!k.1) ((aA F0 r).bind fun e=>some (e.1,false,())) ((nL F0 c b).bind fun l=>br (!l.1) ((aA F0 r).bind fun e=>some (e.1,false,())) ((er F0 b.1).bind fun d=>(QV F0 c r.2.2.2.1 b.2).bind fun h=>(aA F0 r).bind fun f=>br (decide (d.1>=r.2.1)) ((YL F0 c h.1 b).bind fun i=>(wF F0 c (f.1.1,d.1,f.1.2.2) i.1).bind fun a=>br (!a.2.1) ((aA F0 r).bind fun g=>some (g.1,false,())) (br (!i.2.1) (some (a.1,true,())) ((eK F0 c a.1.2.2.2.2.2.1 (d.1,b.1,[r.1])).bind fun j=>br (!j.2.1) ((aA F0 r).bind fun m=>some (m.1,false,())) ((n0 F0 c (a.1.1,a.1.2.1,a.1.2.2.1,a.1.2.2.2.1,a.1.2.2.2.2.1,j.1,a.1.2.2.2.2.2.2) d.1 b.1 false).bind fun o=>some (o.1,true,()))))) ((wF F0 c f.1 h.1).bind fun a=>br (!a.2.1) ((aA F0 r).bind fun g=>some (g.1,false,())) (some (a.1,true,()))))):=by kernel_rfl
def wG:Any:=.one ⟨aDE,gB,1,fun x=>rn F0 x.1 x.2.1 x.2.2.1⟩
def N2:a8 161 wG:=aq Q3 ⟨vx,fw,ct,ca,Pd,sP,Xs,awg,Pb,trivial⟩ func161 ad (by kernel_rfl)
def Ux:=[(58,b2),(80,bO),(176,A7),(177,k8),(190,oC)]
def EI (c:D1)(r:a7)(p:D9):=bm Ux F ad f162 ajE gB 1 (c,r,p,())
def ahU (c:D1)(r:a7)(p:D9):EI F c r p=(cp F0 c r).bind fun e=>br (!e.1) ((aA F0 r).bind fun a=>some (a.1,false,())) ((q9 F0 c p).bind fun f=>br (!f.1) ((aA F0 r).bind fun a=>some (a.1,false,())) (br (p.2.1.toList==ak.toList) ((aA F0 r).bind fun a=>some (a.1,false,())) (br (decide (p.1<r.2.1)) ((aA F0 r).bind fun a=>some (a.1,false,())) ((eK F0 c r.2.2.2.2.2.1 p).bind fun d=>br (!d.2.1) ((aA F0 r).bind fun g=>some (g.1,false,())) ((aA F0 r).bind fun b=>(n0 F0 c (b.1.1,b.1.2.1,b.1.2.2.1,b.1.2.2.2.1,b.1.2.2.2.2.1,d.1,b.1.2.2.2.2.2.2) p.1 p.2.1 false).bind fun h=>some (h.1,true,())))))):=by kernel_rfl
def N3:Any:=.one ⟨ajE,gB,1,fun x=>EI F0 x.1 x.2.1 x.2.2.1⟩
def ahV:a8 162 N3:=aq Ux ⟨ct,ca,Pd,sP,Ay,trivial⟩ func162 ad (by kernel_rfl)
def ajW:=[(182,GG),(232,A4)]
abbrev aGO:List (Ty×Bool):=[(K1,true),(b8,true),(.int .i64,false)]
def sS (c:D1)(r:a7)(a:Int):=bm ajW F ad f229 aGO aP 1 (c,r,a,())
def awm (c:D1)(r:a7)(a:Int):sS F c r a=(ue F0 r.2.2.2.2.2.1 a ak).bind fun b=>(Fy F0 c).bind fun d=>some (decide ((b.1.2.2.length:Int)>=d.1),()):=by kernel_rfl
def Pe:Any:=.one ⟨aGO,aP,1,fun x=>sS F0 x.1 x.2.1 x.2.2.1⟩
def ae9:a8 229 Pe:=aq ajW ⟨W0,Q0,trivial⟩ func229 ad (by kernel_rfl)
def Uy:=[(41,bA),(58,b2),(80,bO),(107,jz),(168,lG),(177,k8),(226,I5),(228,A0),(229,Pe)]
def EJ (c:D1)(r:a7)(a:Int)(q:D9)(cw:Int):=bm Uy F ad f163 aDF gB 2 (c,r,a,q,cw,())
def ahW (c:D1)(r:a7)(b:Int)(q:D9)(cw:Int):EJ F c r b q cw=(cp F0 c r).bind fun g=>br (!g.1) ((aA F0 r).bind fun d=>some (d.1,false,())) ((aZ F0 b 1 60).bind fun h=>br (!h.1) ((aA F0 r).bind fun d=>some (d.1,false,())) ((mz F0 c q).bind fun i=>br (!i.1) ((aA F0 r).bind fun d=>some (d.1,false,())) ((aZ F0 cw 0 (aj (c.1-1))).bind fun j=>br (!j.1) ((aA F0 r).bind fun d=>some (d.1,false,())) ((QV F0 c r.2.2.2.1 q).bind fun k=>(wF F0 c r k.1).bind fun a=>br (!a.2.1) ((aA F0 r).bind fun l=>some (l.1,false,())) ((sQ F0 c b).bind fun m=>br (m.1==r.1) (br (decide (b>=r.2.1)) ((eK F0 c a.1.2.2.2.2.2.1 (b,ak,[cw])).bind fun f=>br (!f.2.1) ((aA F0 r).bind fun o=>some (o.1,false,())) ((sS F0 c (a.1.1,(if (if 60<(aj (q.1+1)) then 60 else (aj (q.1+1)))>a.1.2.1 then (if 60<(aj (q.1+1)) then 60 else (aj (q.1+1))) else a.1.2.1,(a.1.2.2.1,a.1.2.2.2.1,a.1.2.2.2.2.1,f.1,a.1.2.2.2.2.2.2))) b).bind fun e=>br e.1 (some ((a.1.1,(if b>(if (if 60<(aj (q.1+1)) then 60 else (aj (q.1+1)))>a.1.2.1 then (if 60<(aj (q.1+1)) then 60 else (aj (q.1+1))) else a.1.2.1) then b else (if (if 60<(aj (q.1+1)) then 60 else (aj (q.1+1)))>a.1.2.1 then (if 60<(aj (q.1+1)) then 60 else (aj (q.1+1))) else a.1.2.1),(a.1.2.2.1,a.1.2.2.2.1,a.1.2.2.2.2.1,f.1,a.1.2.2.2.2.2.2))),true,())) (some ((a.1.1,(if (if 60<(aj (q.1+1)) then 60 else (aj (q.1+1)))>a.1.2.1 then (if 60<(aj (q.1+1)) then 60 else (aj (q.1+1))) else a.1.2.1,(a.1.2.2.1,a.1.2.2.2.1,a.1.2.2.2.2.1,f.1,a.1.2.2.2.2.2.2))),true,())))) ((sS F0 c (a.1.1,(if (if 60<(aj (q.1+1)) then 60 else (aj (q.1+1)))>a.1.2.1 then (if 60<(aj (q.1+1)) then 60 else (aj (q.1+1))) else a.1.2.1,a.1.2.2)) b).bind fun e=>br e.1 (some ((a.1.1,(if b>(if (if 60<(aj (q.1+1)) then 60 else (aj (q.1+1)))>a.1.2.1 then (if 60<(aj (q.1+1)) then 60 else (aj (q.1+1))) else a.1.2.1) then b else (if (if 60<(aj (q.1+1)) then 60 else (aj (q.1+1)))>a.1.2.1 then (if 60<(aj (q.1+1)) then 60 else (aj (q.1+1))) else a.1.2.1),a.1.2.2)),true,())) (some ((a.1.1,(if (if 60<(aj (q.1+1)) then 60 else (aj (q.1+1)))>a.1.2.1 then (if 60<(aj (q.1+1)) then 60 else (aj (q.1+1))) else a.1.2.1,a.1.2.2)),true,())))) ((sS F0 c (a.1.1,(if (if 60<(aj (q.1+1)) then 60 else (aj (q.1+1)))>a.1.2.1 then (if 60<(aj (q.1+1)) then 60 else (aj (q.1+1))) else a.1.2.1,a.1.2.2)) b).bind fun e=>br e.1 (some ((a.1.1,(if b>(if (if 60<(aj (q.1+1)) then 60 else (aj (q.1+1)))>a.1.2.1 then (if 60<(aj (q.1+1)) then 60 else (aj (q.1+1))) else a.1.2.1) then b else (if (if 60<(aj (q.1+1)) then 60 else (aj (q.1+1)))>a.1.2.1 then (if 60<(aj (q.1+1)) then 60 else (aj (q.1+1))) else a.1.2.1),a.1.2.2)),true,())) (some ((a.1.1,(if (if 60<(aj (q.1+1)) then 60 else (aj (q.1+1)))>a.1.2.1 then (if 60<(aj (q.1+1)) then 60 else (aj (q.1+1))) else a.1.2.1,a.1.2.2)),true,())))))))):=by kernel_rfl
def N4:Any:=.one ⟨aDF,gB,2,fun x=>EJ F0 x.1 x.2.1 x.2.2.1 x.2.2.2.1 x.2.2.2.2.1⟩
def ahX:a8 163 N4:=aq Uy ⟨bW,ct,ca,nJ,sR,sP,Xs,Pb,ae9,trivial⟩ func163 ad (by kernel_rfl)
def Xx:=[(116,GI),(152,CS),(279,wU),(281,E9)]
def Jc (p:D5)(x:D4):=bm Xx F ad f230 aDG V7 2 (p,x,())
def ame (p:D5)(x:D4):Jc F p x=br (decide ((p1 (fun a=>R0 a x) p 0)<0)) ((iT F0 p).bind fun b=>ck (ajk (p.length:Int) b.1.length [x].length) ((w9 F0 (b.1.take (p.length:Int).toNat++[x]++b.1.drop (p.length:Int).toNat)).bind fun c=>br (!c.1) ((iT F0 p).bind fun d=>some (d.1,false,())) (some (b.1.take (p.length:Int).toNat++[x]++b.1.drop (p.length:Int).toNat,true,())))) ((iT F0 p).bind fun b=>ck (ajk (p1 (fun a=>R0 a x) p 0) b.1.length [x].length) ((w9 F0 (b.1.take (p1 (fun a=>R0 a x) p 0).toNat++[x]++b.1.drop (p1 (fun a=>R0 a x) p 0).toNat)).bind fun c=>br (!c.1) ((iT F0 p).bind fun d=>some (d.1,false,())) (some (b.1.take (p1 (fun a=>R0 a x) p 0).toNat++[x]++b.1.drop (p1 (fun a=>R0 a x) p 0).toNat,true,())))):=by kernel_rfl
def Q4:Any:=.one ⟨aDG,V7,2,fun x=>Jc F0 x.1 x.2.1⟩
def amf:a8 230 Q4:=aq Xx ⟨W2,Ug,R2,Zh,trivial⟩ func230 ad (by kernel_rfl)
def abd:=[(58,b2),(80,bO),(230,Q4)]
def N5 (c:D1)(r:a7)(x:D4):=bm abd F ad f164 aDH gB 2 (c,r,x,())
def apy (c:D1)(r:a7)(x:D4):N5 F c r x=(aA F0 r).bind fun a=>(cp F0 c r).bind fun d=>br (!d.1) (some (a.1,false,())) ((Jc F0 r.2.2.2.2.1 x).bind fun b=>some ((a.1.1,a.1.2.1,a.1.2.2.1,a.1.2.2.2.1,b.1,a.1.2.2.2.2.2),b.2.1,())):=by kernel_rfl
def Uz:Any:=.one ⟨aDH,gB,2,fun x=>N5 F0 x.1 x.2.1 x.2.2.1⟩
def apz:a8 164 Uz:=aq abd ⟨ct,ca,amf,trivial⟩ func164 ad (by kernel_rfl)
def sT:=[(222,hQ)]
def sU:Nat->Option Hint:=look [(3,{live:=[1,5,8,9,10],mat:=[(5,50,K9)],xl:=[5],rl:=[4]})]
def jZ (a:Int)(b:List D9)(c d:Int)(e:List D9):= cR 25 [(1,bb a),(5,.v (.c (.own 1000000 none))),(8,ia 50 (K9) b),(9,bb c),(10,bb d)] [] [az 1000000 50 K9 e]
def HJ (a:List D9):= cR 25 [(5,.v (.c (.own 1000000 none)))] [] [az 1000000 50 K9 a]
def mS (a:St):Option U:=fe sT F sU [.r,.r,.l,.r,.b,.i] f165 J n a
def wH:=hH sT F sU [.r,.r,.l,.r,.b] f165 G9 2
def BW (d:Int)(b:List D9)(e a:Int)(c:List D9):mS F J (n+1) (jZ d b e a c)=br (decide (a<e)) (ck (bE a (b.length:Int)) (br (decide ((aH b a K9.aC).1>=d)) ((fl F0 (aH b a K9.aC)).bind fun f=>ck (en F c.length [f.1].length 48) (mS F J n (jZ d b e (aj (a+1)) (c++[f.1])))) (mS F J n (jZ d b e (aj (a+1)) c)))) (J (.exit 0) (HJ c)):=by kernel_rfl
def Xy (a:List D9):wH F (.exit 0) (HJ a)=some (a,()):=by kernel_rfl
def hf (a:D13)(b:Int):=bm sT F sU f165 aDI G9 2 (a,b,())
def afa (a:D13)(b:Int):hf F a b=mS F (wH F) F.n (jZ b a (a.length:Int) 0 []):=by kernel_rfl
def Lw:Any:=.one ⟨aDI,G9,2,fun x=>hf F0 x.1 x.2.1⟩
def afb:a8 165 Lw:=aq sT ⟨mN,trivial⟩ func165 sU (by kernel_rfl)
def sV:Nat->Option Hint:=look [(3,{live:=[0,1,2],yc:=[(0,0,3,.int .i64),(0,1,3,.int .i64),(1,0,3,.int .i64)],xl:=[0,1],rl:=[0]})]
def gi (i:Int)(d a b c:List Int):= cR 15 [b1 0,b1 1,(2,bb i)] [(0,[.own 1000000 none,.own 1000001 none]),(1,[.own 1000002 none,.own 1000003 none])] [az 1000000 3 (.int .i64) d,az 1000001 3 (.int .i64) a,az 1000002 3 (.int .i64) b,az 1000003 3 (.int .i64) c]
def HK (d a b c:List Int):= cR 15 [b1 0,b1 1] [(0,[.own 1000000 none,.own 1000001 none]),(1,[.own 1000002 none,.own 1000003 none])] [az 1000000 3 (.int .i64) d,az 1000001 3 (.int .i64) a,az 1000002 3 (.int .i64) b,az 1000003 3 (.int .i64) c]
def jK (a:St):Option U:=fe aB F sV [.r,.r,.l,.r,.b,.i] f87 J n a
def j0:=hH aB F sV [.r,.r,.l,.r,.b] f87 nn 2
def BX (i:Int)(d b a c:List Int):jK F J (n+1) (gi i d b a c)=br (decide (i<4)) (ck (en F a.length [100].length 8) (jK F J n (gi (aj (i+1)) d b (a++[100]) c))) (J (.exit 0) (HK d b a c)):=by kernel_rfl
def Xz (d c a b:List Int):j0 F (.exit 0) (HK d c a b)=some ((a,b),()):=by kernel_rfl
def j1: Option (Args nn):=bm aB F sV f87 [] nn 2 (())
def afc: j1 F= ck (okM F 4 4 8) (jK F (j0 F) F.n (gi 0 [] [] [] (List.replicate (4:Int).toNat 0))):=by kernel_rfl
def n1:Any:=.one ⟨[],nn,2,fun x=>j1 F0⟩
def A8:a8 87 n1:=aq aB trivial func87 sV (by kernel_rfl)
def Jd:=[(109,q6)]
def Je:Nat->Option Hint:=look [(4,{live:=[5,13,14,15],mat:=[(5,52,K4)],xl:=[5],rl:=[2]})]
def A9 (b c:Int)(d:List D4)(a:List D6):= cR 25 [(5,.v (.c (.own 1000000 none))),(13,.v (.c (.own 1000001 none))),(14,bb b),(15,bb c)] [] [az 1000000 52 K4 d,az 1000001 157 K6 a]
def UA (a:List D4):= cR 25 [(5,.v (.c (.own 1000000 none)))] [] [az 1000000 52 K4 a]
def Jf (a:St):Option U:=fe Jd F Je [.r,.r,.r,.l,.r,.b,.i] f85 J n a
def Lx:=hH Jd F Je [.r,.r,.r,.l,.r,.b] f85 kl 2
def N6 (d a:Int)(c:List D4)(b:List D6):Jf F J (n+1) (A9 d a c b)=br (decide (a<d)) (ck (bE a (b.length:Int)) (ck (en F c.length (aH b a (0,[])).2.length 32) (Jf F J n (A9 d (aj (a+1)) (c++(aH b a (0,[])).2) b)))) (J (.exit 0) (UA c)):=by kernel_rfl
def ahY (a:List D4):Lx F (.exit 0) (UA a)=some (a,()):=by kernel_rfl
def rq (s:ByteArray):=bm Jd F Je f85 dC kl 2 (s,())
def asC (s:ByteArray):rq F s=(q5 F0 s).bind fun a=>Jf F (Lx F) F.n (A9 (a.1.length:Int) 0 [] a.1):=by kernel_rfl
def Ba:Any:=.one ⟨dC,kl,2,fun x=>rq F0 x.1⟩
def Pf:a8 85 Ba:=aq Jd ⟨El,trivial⟩ func85 Je (by kernel_rfl)
def N7:=[(29,fv)]
def kD (l:D43):=bm N7 F ad f157 nn nn 2 (l,())
def acC (l:D43):kD F l=(dZ F0 l.1).bind fun a=>(dZ F0 l.2).bind fun b=>some ((a.1,b.1),()):=by kernel_rfl
def tC:Any:=.one ⟨nn,nn,2,fun x=>kD F0 x.1⟩
def Ly:a8 157 tC:=aq N7 ⟨jH,trivial⟩ func157 ad (by kernel_rfl)
def sW:=[(41,bA)]
def sX:Nat->Option Hint:=look [(2,{live:=[1,2,9,10,11],rl:=[6]})]
def n2 (low high:Int)(a:List Int)(b c:Int):= bU 21 [(1,bb low),(2,bb high),(9,ia 3 (.int .i64) a),(10,bb b),(11,bb c)]
def LA (a:Bool):= bU 21 [(6,JH a)]
def HL   := bU 21 []
def sY (a:St):Option U:=fe sW F sX [.r,.l,.r,.b,.i] f274 J n a
def n4:=hH sW F sX [.r,.l,.r,.b] f274 aP 1
def BY (low high:Int)(b:List Int)(c a:Int):sY F J (n+1) (n2 low high b c a)=br (decide (a<c)) (ck (bE a (b.length:Int)) ((aZ F0 (aH b a 0) low high).bind fun d=>br (!d.1) (J .ret (LA false)) (sY F J n (n2 low high b c (aj (a+1)))))) (J (.exit 0) (HL)):=by kernel_rfl
def Zz (a:Bool):n4 F .ret (LA a)=some (a,()):=by kernel_rfl
def XA: n4 F (.exit 0) (HL)=some (true,()):=by kernel_rfl
abbrev aJW:List (Ty×Bool):=[(.sl 3 (.int .i64),false),(.int .i64,false),(.int .i64,false)]
def rr (a:List Int)(low high:Int):=bm sW F sX f274 aJW aP 1 (a,low,high,())
def afd (a:List Int)(low high:Int):rr F a low high=sY F (n4 F) F.n (n2 low high a (a.length:Int) 0):=by kernel_rfl
def LB:Any:=.one ⟨aJW,aP,1,fun x=>rr F0 x.1 x.2.1 x.2.2.1⟩
def afe:a8 274 LB:=aq sW ⟨bW,trivial⟩ func274 sX (by kernel_rfl)
def UB:=[(274,LB)]
def uh (l:D43):=bm UB F ad f225 nn aP 1 (l,())
def ahZ (l:D43):uh F l=br ((l.1.length:Int)==4) (br ((l.2.length:Int)==4) ((rr F0 l.1 0 400).bind fun a=>br a.1 ((rr F0 l.2 0 100).bind fun b=>some (b.1,())) (some (false,()))) (some (false,()))) (some (false,())):=by kernel_rfl
def N8:Any:=.one ⟨nn,aP,1,fun x=>uh F0 x.1⟩
def ah0:a8 225 N8:=aq UB ⟨afe,trivial⟩ func225 ad (by kernel_rfl)
def apA:=[(104,jy),(157,tC),(225,N8)]
def LC (l:D43)(x:D4):=bm apA F ad f158 aDs aDt 2 (l,x,())
def ayA (l:D43)(x:D4):LC F l x=(kD F0 l).bind fun a=>(uh F0 l).bind fun b=>br (!b.1) (some (a.1,1,())) ((oY F0 x).bind fun c=>br (!c.1) (some (a.1,1,())) (ck (bE x.1 (l.2.length:Int)) (br (decide (x.2.2.2<(aH l.2 x.1 0))) (some (a.1,2,())) (ck (bE x.1 (l.2.length:Int)) (br (decide (x.2.2.2>(aH l.2 x.1 0))) (some (a.1,3,())) (ck (bE x.1 (a.1.2.length:Int)) (ck (bE x.1 (a.1.2.length:Int)) (ck (bE x.1 (l.1.length:Int)) (br (decide (x.2.2.1>(aH l.1 x.1 0))) (some ((a.1.1,a.1.2.set x.1.toNat (aj ((aH a.1.2 x.1 0)+1))),4,())) (ck (bE x.1 (a.1.1.length:Int)) (ck (bE x.1 (a.1.1.length:Int)) (ck (bE x.2.1 ((a.1.1.set x.1.toNat (aj ((aH a.1.1 x.1 0)-x.2.2.1))).length:Int)) (ck (bE x.2.1 ((a.1.1.set x.1.toNat (aj ((aH a.1.1 x.1 0)-x.2.2.1))).length:Int)) ((uh F0 ((a.1.1.set x.1.toNat (aj ((aH a.1.1 x.1 0)-x.2.2.1))).set x.2.1.toNat (aj ((aH (a.1.1.set x.1.toNat (aj ((aH a.1.1 x.1 0)-x.2.2.1))) x.2.1 0)+x.2.2.1)),a.1.2.set x.1.toNat (aj ((aH a.1.2 x.1 0)+1)))).bind fun d=>br (!d.1) ((kD F0 l).bind fun e=>some (e.1,1,())) (some (((a.1.1.set x.1.toNat (aj ((aH a.1.1 x.1 0)-x.2.2.1))).set x.2.1.toNat (aj ((aH (a.1.1.set x.1.toNat (aj ((aH a.1.1 x.1 0)-x.2.2.1))) x.2.1 0)+x.2.2.1)),a.1.2.set x.1.toNat (aj ((aH a.1.2 x.1 0)+1))),0,())))))))))))))))):=by kernel_rfl
def Jg:Any:=.one ⟨aDs,aDt,2,fun x=>LC F0 x.1 x.2.1⟩
def XB:a8 158 Jg:=aq apA ⟨nI,Ly,ah0,trivial⟩ func158 ad (by kernel_rfl)
def EK:=[(157,tC),(158,Jg)]
def EL:Nat->Option Hint:=look [(4,{live:=[4,6,7,14,15,16],mat:=[(7,3,.int .i64)],yc:=[(4,0,3,.int .i64),(4,1,3,.int .i64)],xl:=[4,6,7],rl:=[4,5]})]
def vL (e:List D4)(f g:Int)(h a b c d:List Int):= cR 34 [b1 4,b1 6,(7,.v (.c (.own 1000000 none))),(14,ia 52 (K4) e),(15,bb f),(16,bb g)] [(4,[.own 1000001 none,.own 1000002 none]),(6,[.own 1000003 none,.own 1000004 none])] [az 1000000 3 (.int .i64) h,az 1000001 3 (.int .i64) a,az 1000002 3 (.int .i64) b,az 1000003 3 (.int .i64) c,az 1000004 3 (.int .i64) d]
def Q5 (e a b c d:List Int):= cR 34 [b1 4,b1 6,(7,.v (.c (.own 1000000 none)))] [(4,[.own 1000001 none,.own 1000002 none]),(6,[.own 1000003 none,.own 1000004 none])] [az 1000000 3 (.int .i64) e,az 1000001 3 (.int .i64) a,az 1000002 3 (.int .i64) b,az 1000003 3 (.int .i64) c,az 1000004 3 (.int .i64) d]
def EM (a:St):Option U:=fe EK F EL [.r,.r,.r,.l,.r,.b,.i] f86 J n a
def GR:=hH EK F EL [.r,.r,.r,.l,.r,.b] f86 atE 2
def LD (c:List D4)(i a:Int)(d e f g h:List Int):EM F J (n+1) (vL c i a d e f g h)=br (decide (a<i)) (ck (bE a (c.length:Int)) ((LC F0 (g,h) (aH c a K4.aC)).bind fun b=>ck (en F d.length [b.2.1].length 8) (EM F J n (vL c i (aj (a+1)) (d++[b.2.1]) e f b.1.1 b.1.2)))) (J (.exit 0) (Q5 d e f g h)):=by kernel_rfl
def aff (c d e a b:List Int):GR F (.exit 0) (Q5 c d e a b)=some ((a,b),c,()):=by kernel_rfl
def ru (l:D43)(a:D5):=bm EK F EL f86 aDu atE 2 (l,a,())
def apB (l:D43)(a:D5):ru F l a=(kD F0 l).bind fun b=>EM F (GR F) F.n (vL a (a.length:Int) 0 [] [] [] b.1.1 b.1.2):=by kernel_rfl
def vM:Any:=.one ⟨aDu,atE,2,fun x=>ru F0 x.1 x.2.1⟩
def LF:a8 86 vM:=aq EK ⟨Ly,XB,trivial⟩ func86 EL (by kernel_rfl)
def afg:=[(58,b2),(85,Ba),(86,vM),(87,n1)]
def lH (c:D1)(r:a7):=bm afg F ad f84 x4 nn 2 (c,r,())
def asD (c:D1)(r:a7):lH F c r=(cp F0 c r).bind fun a=>br (!a.1) (some (([],[]),())) ((j1 F0).bind fun b=>(rq F0 r.2.2.2.1.2.2.2).bind fun d=>(ru F0 b.1 d.1).bind fun e=>some (e.1,())):=by kernel_rfl
def LG:Any:=.one ⟨x4,nn,2,fun x=>lH F0 x.1 x.2.1⟩
def abe:a8 84 LG:=aq afg ⟨ct,Pf,LF,A8,trivial⟩ func84 ad (by kernel_rfl)
def vN:=[(158,Jg)]
def vO:Nat->Option Hint:=look [(3,{live:=[3,5,10,11,12],mat:=[(5,52,K4)],xl:=[5],rl:=[4]})]
def la (b:List D4)(c d:Int)(l a:List Int)(e:List D4):= cR 30 [b1 3,(5,.v (.c (.own 1000000 none))),(10,ia 52 (K4) b),(11,bb c),(12,bb d)] [(3,[.ro false 3 (.int .i64) l,.ro false 3 (.int .i64) a])] [az 1000000 52 K4 e]
def LH (a:List D4):= cR 30 [(5,.v (.c (.own 1000000 none)))] [] [az 1000000 52 K4 a]
def oI (a:St):Option U:=fe vN F vO [.r,.r,.l,.r,.b,.i] f166 J n a
def Bb:=hH vN F vO [.r,.r,.l,.r,.b] f166 kl 2
def FL (b:List D4)(e a:Int)(l d:List Int)(c:List D4):oI F J (n+1) (la b e a l d c)=br (decide (a<e)) (ck (bE a (b.length:Int)) ((LC F0 (l,d) (aH b a K4.aC)).bind fun f=>br (f.2.1 != 2) (ck (en F c.length [(aH b a K4.aC)].length 32) (oI F J n (la b e (aj (a+1)) l d (c++[(aH b a K4.aC)])))) (oI F J n (la b e (aj (a+1)) l d c)))) (J (.exit 0) (LH c)):=by kernel_rfl
def ZA (a:List D4):Bb F (.exit 0) (LH a)=some (a,()):=by kernel_rfl
def jA (p:D5)(l:D43):=bm vN F vO f166 ajx kl 2 (p,l,())
def ah1 (p:D5)(l:D43):jA F p l=oI F (Bb F) F.n (la p (p.length:Int) 0 l.1 l.2 []):=by kernel_rfl
def N9:Any:=.one ⟨ajx,kl,2,fun x=>jA F0 x.1 x.2.1⟩
def ah2:a8 166 N9:=aq vN ⟨XB,trivial⟩ func166 vO (by kernel_rfl)
def ajX:=[(80,bO),(84,LG),(119,mC),(161,wG),(162,N3),(163,N4),(164,Uz),(165,Lw),(166,N9)]
def JK (c:D1)(r:a7)(m:OZ):=bm ajX F ad f96 aaA gB 1 (c,r,m,())
def awn (c:D1)(r:a7)(m:OZ):JK F c r m=(gd F0 c m).bind fun j=>br (!j.1) ((aA F0 r).bind fun k=>some (k.1,false,())) (br (m.1==1) ((rn F0 c r m.2.2.1).bind fun a=>br (!a.2.1) ((aA F0 r).bind fun g=>some (g.1,false,())) ((hf F0 a.1.2.2.2.2.2.1 (aj (a.1.2.1-1))).bind fun f=>(lH F0 c (a.1.1,a.1.2.1,a.1.2.2.1,a.1.2.2.2.1,a.1.2.2.2.2.1,f.1,a.1.2.2.2.2.2.2)).bind fun h=>(jA F0 a.1.2.2.2.2.1 h.1).bind fun i=>some ((a.1.1,a.1.2.1,a.1.2.2.1,a.1.2.2.2.1,i.1,f.1,a.1.2.2.2.2.2.2),true,()))) (br (m.1==2) ((EI F0 c r m.2.2.2.1).bind fun b=>br (!b.2.1) ((aA F0 r).bind fun g=>some (g.1,false,())) ((hf F0 b.1.2.2.2.2.2.1 (aj (b.1.2.1-1))).bind fun f=>(lH F0 c (b.1.1,b.1.2.1,b.1.2.2.1,b.1.2.2.2.1,b.1.2.2.2.2.1,f.1,b.1.2.2.2.2.2.2)).bind fun h=>(jA F0 b.1.2.2.2.2.1 h.1).bind fun i=>some ((b.1.1,b.1.2.1,b.1.2.2.1,b.1.2.2.2.1,i.1,f.1,b.1.2.2.2.2.2.2),true,()))) (br (m.1==3) ((EJ F0 c r m.2.1 m.2.2.2.2.1 m.2.2.2.2.2.1).bind fun d=>br (!d.2.1) ((aA F0 r).bind fun g=>some (g.1,false,())) ((hf F0 d.1.2.2.2.2.2.1 (aj (d.1.2.1-1))).bind fun f=>(lH F0 c (d.1.1,d.1.2.1,d.1.2.2.1,d.1.2.2.2.1,d.1.2.2.2.2.1,f.1,d.1.2.2.2.2.2.2)).bind fun h=>(jA F0 d.1.2.2.2.2.1 h.1).bind fun i=>some ((d.1.1,d.1.2.1,d.1.2.2.1,d.1.2.2.2.1,i.1,f.1,d.1.2.2.2.2.2.2),true,()))) ((N5 F0 c r m.2.2.2.2.2.2).bind fun e=>br (!e.2.1) ((aA F0 r).bind fun g=>some (g.1,false,())) ((hf F0 e.1.2.2.2.2.2.1 (aj (e.1.2.1-1))).bind fun f=>(lH F0 c (e.1.1,e.1.2.1,e.1.2.2.1,e.1.2.2.2.1,e.1.2.2.2.2.1,f.1,e.1.2.2.2.2.2.2)).bind fun h=>(jA F0 e.1.2.2.2.2.1 h.1).bind fun i=>some ((e.1.1,e.1.2.1,e.1.2.2.1,e.1.2.2.2.1,i.1,f.1,e.1.2.2.2.2.2.2),true,())))))):=by kernel_rfl
def Pg:Any:=.one ⟨aaA,gB,1,fun x=>JK F0 x.1 x.2.1 x.2.2.1⟩
def afh:a8 96 Pg:=aq ajX ⟨ca,abe,tX,N2,ahV,ahX,apz,afb,ah2,trivial⟩ func96 ad (by kernel_rfl)
def EN:=[(51,cP),(93,ew)]
def EO:Nat->Option Hint:=look [(2,{live:=[0,1,2,3,13,14,15],rl:=[10]})]
def oJ (liars:List Int)(a:List bF)(b:Int)(name:ByteArray)(c:List Int)(d e:Int):= bU 33 [(0,ia 3 (.int .i64) liars),(1,ia 41 (cz) a),(2,bb b),(3,Z0 name),(13,ia 3 (.int .i64) c),(14,bb d),(15,bb e)]
def UC (a:Bool):= bU 33 [(10,JH a)]
def Q6   := bU 33 []
def ui (a:St):Option U:=fe EN F EO [.r,.l,.r,.b,.i] f167 J n a
def vP:=hH EN F EO [.r,.l,.r,.b] f167 aP 1
def LI (liars:List Int)(c:List bF)(d:Int)(name:ByteArray)(b:List Int)(e a:Int):ui F J (n+1) (oJ liars c d name b e a)=br (decide (a<e)) (ck (bE a (b.length:Int)) ((c8 F0 liars (aH b a 0)).bind fun f=>br (!f.1) ((db F0 c (d,name,aH b a 0)).bind fun g=>br (!g.1) (J .ret (UC false)) (ui F J n (oJ liars c d name b e (aj (a+1))))) (ui F J n (oJ liars c d name b e (aj (a+1)))))) (J (.exit 0) (Q6)):=by kernel_rfl
def ah3 (a:Bool):vP F .ret (UC a)=some (a,()):=by kernel_rfl
def afi: vP F (.exit 0) (Q6)=some (true,()):=by kernel_rfl
def xU (liars:List Int)(a:D38)(b:Int)(name:ByteArray)(cw:List Int):=bm EN F EO f167 aDJ aP 1 (liars,a,b,name,cw,())
def apC (liars:List Int)(a:D38)(b:Int)(name:ByteArray)(cw:List Int):xU F liars a b name cw=ui F (vP F) F.n (oJ liars a b name cw (cw.length:Int) 0):=by kernel_rfl
def UD:Any:=.one ⟨aDJ,aP,1,fun x=>xU F0 x.1 x.2.1 x.2.2.1 x.2.2.2.1 x.2.2.2.2.1⟩
def apD:a8 167 UD:=aq EN ⟨dQ,iq,trivial⟩ func167 EO (by kernel_rfl)
def abf:=[(49,ea),(51,cP),(55,kz),(119,mC),(167,UD),(168,lG),(169,CI)]
def Oa (c:D1)(liars:List Int)(a:D38)(m:OZ):=bm abf F ad f97 aDK aP 1 (c,liars,a,m,())
def apE (c:D1)(liars:List Int)(a:D38)(m:OZ):Oa F c liars a m=(gd F0 c m).bind fun f=>br (!f.1) (some (false,())) (br (m.1==4) (some (true,())) (br (m.1==2) ((xU F0 liars a m.2.2.2.1.1 m.2.2.2.1.2.1 m.2.2.2.1.2.2).bind fun g=>some (g.1,())) (br (m.1==1) ((er F0 m.2.2.1.1).bind fun h=>(sQ F0 c h.1).bind fun i=>(c8 F0 liars i.1).bind fun j=>br (!j.1) (some (false,())) ((so F0).bind fun b=>(jx F0 m.2.2.1.2 b.1).bind fun d=>br d.1 (some (true,())) ((xU F0 liars a m.2.2.1.2.1 m.2.2.1.2.2.1 m.2.2.1.2.2.2).bind fun e=>some (e.1,())))) ((c8 F0 liars m.2.2.2.2.2.1).bind fun k=>br (!k.1) (some (false,())) ((so F0).bind fun b=>(jx F0 m.2.2.2.2.1 b.1).bind fun d=>br d.1 (some (true,())) ((xU F0 liars a m.2.2.2.2.1.1 m.2.2.2.2.1.2.1 m.2.2.2.2.1.2.2).bind fun e=>some (e.1,()))))))):=by kernel_rfl
def UE:Any:=.one ⟨aDK,aP,1,fun x=>Oa F0 x.1 x.2.1 x.2.2.1 x.2.2.2.1⟩
def apF:a8 97 UE:=aq abf ⟨fw,dQ,q4,tX,apD,sR,T6,trivial⟩ func97 ad (by kernel_rfl)
def XC:=[(17,eR),(35,gh),(51,cP),(59,AK),(81,AP),(95,yi),(96,Pg),(97,UE),(98,AW)]
def XD:Nat->Option Hint:=look [(900015,{live:=[],mat:=[(2,0,hJ)]})]
def n5 (w:lx)(d:D45):=bm XC F XD f44 ajL aeW 0 (w,d,())
def amg (w:lx)(d:D45):n5 F w d=(aS F0 w).bind fun a=>br (d.1==3) (ck (bE d.2.1 (w.2.2.2.1.length:Int)) (ck (RZ d.2.1 (aj (d.2.1+1)) (a.1.2.2.2.1.length:Int)) ((CP F0 w.1 (aH w.2.2.2.1 d.2.1 (0,[])).2).bind fun b=>br b.2.1 ((fR F0 w).bind fun f=>(c8 F0 f.1 (aH w.2.2.2.1 d.2.1 (0,[])).1).bind fun g=>br g.1 (ck (bE (aH w.2.2.2.1 d.2.1 (0,[])).1 (w.2.2.1.length:Int)) ((JK F0 w.1 (aH w.2.2.1 (aH w.2.2.2.1 d.2.1 (0,[])).1 b8.aC) b.1).bind fun h=>ck (bE (aH w.2.2.2.1 d.2.1 (0,[])).1 (a.1.2.2.1.length:Int)) (some ((a.1.1,a.1.2.1,a.1.2.2.1.set (aH w.2.2.2.1 d.2.1 (0,[])).1.toNat h.1,a.1.2.2.2.1.take d.2.1.toNat++a.1.2.2.2.1.drop (aj (d.2.1+1)).toNat,a.1.2.2.2.2),0,())))) (some ((a.1.1,a.1.2.1,a.1.2.2.1,a.1.2.2.2.1.take d.2.1.toNat++a.1.2.2.2.1.drop (aj (d.2.1+1)).toNat,a.1.2.2.2.2),0,()))) (some ((a.1.1,a.1.2.1,a.1.2.2.1,a.1.2.2.2.1.take d.2.1.toNat++a.1.2.2.2.1.drop (aj (d.2.1+1)).toNat,a.1.2.2.2.2),0,()))))) (br (d.1==4) (ck (RZ d.2.1 (aj (d.2.1+1)) (a.1.2.2.2.1.length:Int)) (some ((a.1.1,a.1.2.1,a.1.2.2.1,a.1.2.2.2.1.take d.2.1.toNat++a.1.2.2.2.1.drop (aj (d.2.1+1)).toNat,a.1.2.2.2.2),0,()))) (br (d.1==5) (ck (bE d.2.1 (w.2.2.2.1.length:Int)) ((ua F0 (aH w.2.2.2.1 d.2.1 (0,[]))).bind fun c=>ck (en F a.1.2.2.2.1.length [c.1].length 32) (some ((a.1.1,a.1.2.1,a.1.2.2.1,a.1.2.2.2.1++[c.1],a.1.2.2.2.2),0,())))) ((Oa F0 w.1 w.2.1 w.2.2.2.2 d.2.2.2).bind fun i=>br (!i.1) (some (w,5,())) ((ud F0 w.1 d.2.2.2).bind fun e=>ck (en F a.1.2.2.2.1.length [(d.2.1,e.1)].length 32) (some ((a.1.1,a.1.2.1,a.1.2.2.1,a.1.2.2.2.1++[(d.2.1,e.1)],a.1.2.2.2.2),0,())))))):=by kernel_rfl
def Q7:Any:=.one ⟨ajL,aeW,0,fun x=>n5 F0 x.1 x.2.1⟩
def amh:a8 44 Q7:=aq XC ⟨ha,k4,dQ,O6,QJ,UX,afh,apF,QQ,trivial⟩ func44 XD (by kernel_rfl)
end
end Go.Am.Tryz
