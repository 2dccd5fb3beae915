/- No condition. -/
import Derived.Test.YtnllfndlcahalaaGreatDoorQvWJG5
set_option linter.all false
set_option maxRecDepth 100000
namespace Go.Am.Tryz
open Go.Am Go.Proofs Go.Proofs.Tryz
noncomputable section
variable {U:Type} (F:p5) (J:Ex->St->Option U) (n:Nat)
def ix:=[(90,Rc),(91,XM),(92,G0),(93,eA),(94,abH)]
def iy:Nat->Option Hint:=look [(4,{live:=[1,2,4,6,7,8,28,29,30],yh:=[(4,2,3,.int .i64),(4,3,65,ca),(4,4,105,eo),(4,5,41,cl)],xl:=[1,2,4,6,7,8],rl:=[4,5]}),(7,{live:=[1,2,4,6,7,8,28,29,30,37,38,39],xl:=[1,2,4,6,7,8,28,29,30],rl:=[4,5]})]
def pR (a H I K L w b:Int)(c:List Int)(d:List a7)(e:List bS)(f:List bE)(M N r g h i j k:Int)(l m:ByteArray)(o O p:Int)(P:List lD)(q:List bE)(s:List Int)(t:List a7)(u:List bS)(v:List bE)(x:List Int)(y:List D4)(z:List D9)(A:List Int)(B:List lD)(C:List Int)(D:List a7)(E:List bS)(G:List bE):= cQ 67 [(1,a8 a),b0 2,b0 4,b0 6,(7,.v (.c (.own 1000000 none))),b0 8,(28,.v (.c (.own 1000000 none))),(29,a8 H),(30,a8 I),(37,.v (.c (.own 1000001 none))),(38,a8 K),(39,a8 L)] [(2,[ao w,ao b,.ro false 3 (.int .i64) c,.ro false 65 (ca) d,.ro false 105 (eo) e,.ro false 41 (cl) f]),(4,[ao M,ao N,.own 1000002 none,.own 1000003 none,.own 1000004 none,.own 1000005 none]),(6,[ao r,ao g,ao h,ao i,ao j,ao k,.str l,.own 1000006 none,.str m,.own 1000007 none,.own 1000008 none,.own 1000009 none,ao o,.own 1000010 none]),(8,[ao O,ao p,.own 1000011 none,.own 1000012 none,.own 1000013 none,.own 1000014 none])] [ay 1000000 136 p2 P,ay 1000001 41 cl q,ay 1000002 3 (.int .i64) s,ay 1000003 65 ca t,ay 1000004 105 eo u,ay 1000005 41 cl v,ay 1000006 3 (.int .i64) x,ay 1000007 52 K4 y,ay 1000008 50 K9 z,ay 1000009 5 (.int .u8) A,ay 1000010 136 p2 B,ay 1000011 3 (.int .i64) C,ay 1000012 65 ca D,ay 1000013 105 eo E,ay 1000014 41 cl G]
def Oh (a b c:Int)(d:List Int)(e:List a7)(f:List bS)(g:List bE):= cQ 67 [b0 4,(5,a8 a)] [(4,[ao b,ao c,.ro false 3 (.int .i64) d,.ro false 65 (ca) e,.ro false 105 (eo) f,.ro false 41 (cl) g])] []
def LI (a G H w b:Int)(c:List Int)(d:List a7)(e:List bS)(f:List bE)(I K r g h i j k:Int)(l m:ByteArray)(o L p:Int)(M:List lD)(q:List Int)(s:List a7)(t:List bS)(u:List bE)(v:List Int)(x:List D4)(y:List D9)(z:List Int)(A:List lD)(B:List Int)(C:List a7)(D:List bS)(E:List bE):= cQ 67 [(1,a8 a),b0 2,b0 4,b0 6,(7,.v (.c (.own 1000000 none))),b0 8,(28,.v (.c (.own 1000000 none))),(29,a8 G),(30,a8 H)] [(2,[ao w,ao b,.ro false 3 (.int .i64) c,.ro false 65 (ca) d,.ro false 105 (eo) e,.ro false 41 (cl) f]),(4,[ao I,ao K,.own 1000001 none,.own 1000002 none,.own 1000003 none,.own 1000004 none]),(6,[ao r,ao g,ao h,ao i,ao j,ao k,.str l,.own 1000005 none,.str m,.own 1000006 none,.own 1000007 none,.own 1000008 none,ao o,.own 1000009 none]),(8,[ao L,ao p,.own 1000010 none,.own 1000011 none,.own 1000012 none,.own 1000013 none])] [ay 1000000 136 p2 M,ay 1000001 3 (.int .i64) q,ay 1000002 65 ca s,ay 1000003 105 eo t,ay 1000004 41 cl u,ay 1000005 3 (.int .i64) v,ay 1000006 52 K4 x,ay 1000007 50 K9 y,ay 1000008 5 (.int .u8) z,ay 1000009 136 p2 A,ay 1000010 3 (.int .i64) B,ay 1000011 65 ca C,ay 1000012 105 eo D,ay 1000013 41 cl E]
def vF (a:St):Option U:=ff ix F iy [.r,.r,.r,.l,.r,.b,.i,.r,.r,.l,.b,.r,.r,.b,.i] f43 J n a
def pS:Ex->St->Option U:=V0 Tryz.prog (look ix) F iy [.r,.r,.l,.b,.r,.r,.b] (sub [.r,.r,.r,.l,.r,.b,.i] (eX f43)) (itk Tryz.prog (look ix) F iy (sub [.r,.r,.r,.l,.r,.b,.i] (eX f43)) J n)
def lg (a G H w b:Int)(c:List Int)(d:List a7)(e:List bS)(f:List bE)(I K r g h i j k:Int)(l m:ByteArray)(o L p:Int)(M:List lD)(q:List Int)(s:List a7)(t:List bS)(u:List bE)(v:List Int)(x:List D4)(y:List D9)(z:List Int)(A:List lD)(B:List Int)(C:List a7)(D:List bS)(E:List bE):= cQ 67 [(1,a8 a),b0 2,b0 4,b0 6,(7,.v (.c (.own 1000000 none))),b0 8,(28,.v (.c (.own 1000000 none))),(29,a8 G),(30,a8 H)] [(2,[ao w,ao b,.ro false 3 (.int .i64) c,.ro false 65 (ca) d,.ro false 105 (eo) e,.ro false 41 (cl) f]),(4,[ao I,ao K,.own 1000001 none,.own 1000002 none,.own 1000003 none,.own 1000004 none]),(6,[ao r,ao g,ao h,ao i,ao j,ao k,.str l,.own 1000005 none,.str m,.own 1000006 none,.own 1000007 none,.own 1000008 none,ao o,.own 1000009 none]),(8,[ao L,ao p,.own 1000010 none,.own 1000011 none,.own 1000012 none,.own 1000013 none])] [ay 1000000 136 p2 M,ay 1000001 3 (.int .i64) q,ay 1000002 65 ca s,ay 1000003 105 eo t,ay 1000004 41 cl u,ay 1000005 3 (.int .i64) v,ay 1000006 52 K4 x,ay 1000007 50 K9 y,ay 1000008 5 (.int .u8) z,ay 1000009 136 p2 A,ay 1000010 3 (.int .i64) B,ay 1000011 65 ca C,ay 1000012 105 eo D,ay 1000013 41 cl E]
def Oi (a b c:Int)(d:List Int)(e:List a7)(f:List bS)(g:List bE):= cQ 67 [b0 4,(5,a8 a)] [(4,[ao b,ao c,.ro false 3 (.int .i64) d,.ro false 65 (ca) e,.ro false 105 (eo) f,.ro false 41 (cl) g])] []
def wH (a w b:Int)(c:List Int)(d:List a7)(e:List bS)(f:List bE)(G H r g h i j k:Int)(l m:ByteArray)(o I p:Int)(K:List lD)(q:List Int)(s:List a7)(t:List bS)(u:List bE)(v:List Int)(x:List D4)(y:List D9)(z:List Int)(A:List lD)(B:List Int)(C:List a7)(D:List bS)(E:List bE):= cQ 67 [(1,a8 a),b0 2,b0 4,b0 6,(7,.v (.c (.own 1000000 none))),b0 8] [(2,[ao w,ao b,.ro false 3 (.int .i64) c,.ro false 65 (ca) d,.ro false 105 (eo) e,.ro false 41 (cl) f]),(4,[ao G,ao H,.own 1000001 none,.own 1000002 none,.own 1000003 none,.own 1000004 none]),(6,[ao r,ao g,ao h,ao i,ao j,ao k,.str l,.own 1000005 none,.str m,.own 1000006 none,.own 1000007 none,.own 1000008 none,ao o,.own 1000009 none]),(8,[ao I,ao p,.own 1000010 none,.own 1000011 none,.own 1000012 none,.own 1000013 none])] [ay 1000000 136 p2 K,ay 1000001 3 (.int .i64) q,ay 1000002 65 ca s,ay 1000003 105 eo t,ay 1000004 41 cl u,ay 1000005 3 (.int .i64) v,ay 1000006 52 K4 x,ay 1000007 50 K9 y,ay 1000008 5 (.int .u8) z,ay 1000009 136 p2 A,ay 1000010 3 (.int .i64) B,ay 1000011 65 ca C,ay 1000012 105 eo D,ay 1000013 41 cl E]
def oJ (a:St):Option U:=ff ix F iy [.r,.r,.r,.l,.r,.b,.i] f43 J n a
abbrev abI:List (Ty×Bool):=[(hU,true),(.int .i64,false)]
def fC:=hQ ix F iy [.r,.r,.r,.l,.r,.b] f43 abI 0
def FQ (a I K L b w c:Int)(d:List Int)(e:List a7)(f:List bS)(g:List bE)(M N r j k l m o:Int)(p q:ByteArray)(s O t:Int)(P:List lD)(h:List bE)(u:List Int)(v:List a7)(x:List bS)(y:List bE)(z:List Int)(A:List D4)(B:List D9)(C:List Int)(D:List lD)(E:List Int)(G:List a7)(H:List bS)(i:List bE):vF F J (n+1) (pR a I K L b w c d e f g M N r j k l m o p q s O t P h u v x y z A B C D E G H i)=br (decide (b<L)) (ck (bG b (h.length:Int)) ((c9 F0 i (aI h b cl.az)).bind fun Q=>br (!Q.1) (J .ret (Oh 4 w c d e f g)) (vF F J n (pR a I K L (aj (b+1)) w c d e f g M N r j k l m o p q s O t P h u v x y z A B C D E G H i)))) (J (.exit 2) (LI a I K w c d e f g M N r j k l m o p q s O t P u v x y z A B C D E G H i)):=by kernel_rfl
def FR (a I b w d:Int)(e:List Int)(f:List a7)(g:List bS)(h:List bE)(K L r i j k l m:Int)(o p:ByteArray)(q M s:Int)(c:List lD)(t:List Int)(u:List a7)(v:List bS)(x:List bE)(y:List Int)(z:List D4)(A:List D9)(B:List Int)(C:List lD)(D:List Int)(E:List a7)(G:List bS)(H:List bE):oJ F J (n+1) (lg a I b w d e f g h K L r i j k l m o p q M s c t u v x y z A B C D E G H)=br (decide (b<I)) (ck (bG b (c.length:Int)) ((FP F0 a (aI c b p2.az).2).bind fun N=>vF F (pS F J n) F.n (pR a I b (N.1.length:Int) 0 w d e f g h K L r i j k l m o p q M s c N.1 t u v x y z A B C D E G H))) (J (.exit 0) (wH a w d e f g h K L r i j k l m o p q M s c t u v x y z A B C D E G H)):=by kernel_rfl
def ade (a b c:Int)(d:List Int)(e:List a7)(f:List bS)(g:List bE):pS F J n .ret (Oh a b c d e f g)=J .ret (Oi a b c d e f g):=by kernel_rfl
def Z2 (a G H w b:Int)(c:List Int)(d:List a7)(e:List bS)(f:List bE)(I K r g h i j k:Int)(l m:ByteArray)(o L p:Int)(M:List lD)(q:List Int)(s:List a7)(t:List bS)(u:List bE)(v:List Int)(x:List D4)(y:List D9)(z:List Int)(A:List lD)(B:List Int)(C:List a7)(D:List bS)(E:List bE):pS F J n (.exit 2) (LI a G H w b c d e f I K r g h i j k l m o L p M q s t u v x y z A B C D E)=oJ F J n (lg a G (aj (H+1)) w b c d e f I K r g h i j k l m o L p M q s t u v x y z A B C D E):=by kernel_rfl
def adf (a b c:Int)(d:List Int)(e:List a7)(f:List bS)(g:List bE):fC F .ret (Oi a b c d e f g)=some (((b,c),d,e,f,g),a,()):=by kernel_rfl
def Z3 (a w e:Int)(f:List Int)(g:List a7)(b:List bS)(h:List bE)(K L r i j k l m:Int)(o p:ByteArray)(q C s:Int)(d:List lD)(D:List Int)(E:List a7)(G:List bS)(H:List bE)(t:List Int)(u:List D4)(v:List D9)(x:List Int)(y:List lD)(z:List Int)(c:List a7)(A:List bS)(B:List bE):fC F (.exit 0) (wH a w e f g b h K L r i j k l m o p q C s d D E G H t u v x y z c A B)=br (decide ((aj ((b.length:Int)+(d.length:Int)))>60)) (some (((w,e),f,g,b,h),4,())) (ck (bG a (c.length:Int)) ((Rh F0 ((C,s),z,c.set a.toNat (r,i,j,(k,l,(m,o,t),p),u,v,(x,q),y),A,B) d).bind fun I=>some (I.1,0,()))):=by kernel_rfl
def EJ (w:lE)(a:Int):=bj ix F iy f43 abI abI 0 (w,a,())
def aiE (w:lE)(a:Int):EJ F w a=ck (bG a (w.2.2.1.length:Int)) ((Jk F0 w.1 (aI w.2.2.1 a ca.az)).bind fun b=>(SL F0 w a b.2.1).bind fun c=>oJ F (fC F) F.n (lg a (b.2.1.length:Int) 0 w.1.1 w.1.2 w.2.1 w.2.2.1 w.2.2.2.1 w.2.2.2.2 0 0 b.1.1 b.1.2.1 b.1.2.2.1 b.1.2.2.2.1.1 b.1.2.2.2.1.2.1 b.1.2.2.2.1.2.2.1.1 b.1.2.2.2.1.2.2.1.2.1 b.1.2.2.2.1.2.2.2 b.1.2.2.2.2.2.2.1.2 c.1.1.1 c.1.1.2 b.2.1 [] [] [] [] b.1.2.2.2.1.2.2.1.2.2 b.1.2.2.2.2.1 b.1.2.2.2.2.2.1 b.1.2.2.2.2.2.2.1.1 b.1.2.2.2.2.2.2.2 c.1.2.1 c.1.2.2.1 c.1.2.2.2.1 c.1.2.2.2.2)):=by kernel_rfl
def Oj:Any:=.one ⟨abI,abI,0,fun x=>EJ F0 x.1 x.2.1⟩
def aiF:a1 43 Oj:=aq ix ⟨amP,atn,XK,iw,aw6,trivial⟩ func43 iy (by kernel_rfl)
def XQ:=[(47,iv)]
def Jm (a b:D9):=bj XQ F ad f275 w3 gB 2 (a,b,())
def amV (a b:D9):Jm F a b=br (decide (a.1>b.1)) ((hD F0 a).bind fun c=>some (c.1,())) ((hD F0 b).bind fun d=>some (d.1,())):=by kernel_rfl
def Ri:Any:=.one ⟨w3,gB,2,fun x=>Jm F0 x.1 x.2.1⟩
def amW:a1 275 Ri:=aq XQ ⟨mQ,trivial⟩ func275 ad (by kernel_rfl)
def XR:=[(108,Ez),(109,ra)]
def Jn (name:ByteArray):=bj XR F ad f276 dC aEf 1 (name,())
def amX (name:ByteArray):Jn F name=(q9 F0 name).bind fun a=>br (decide ((a.1.length:Int)<3)) (some (ak,false,())) (ck (bG (aj ((a.1.length:Int)-1)) (a.1.length:Int)) (ck (bG (aj ((a.1.length:Int)-2)) (a.1.length:Int)) (br ((aI a.1 (aj ((a.1.length:Int)-1)) (0,[])).1 != (aj ((aI a.1 (aj ((a.1.length:Int)-2)) (0,[])).1+1))) (some (ak,false,())) (ck (bG (aj ((a.1.length:Int)-2)) (a.1.length:Int)) (ck (bG (aj ((a.1.length:Int)-3)) (a.1.length:Int)) (br ((aI a.1 (aj ((a.1.length:Int)-2)) (0,[])).1 != (aj ((aI a.1 (aj ((a.1.length:Int)-3)) (0,[])).1+1))) (some (ak,false,())) ((sy F0 name).bind fun b=>(sy F0 b.1).bind fun c=>some (c.1,true,())))))))):=by kernel_rfl
def Rj:Any:=.one ⟨dC,aEf,1,fun x=>Jn F0 x.1⟩
def amY:a1 276 Rj:=aq XR ⟨SJ,Es,trivial⟩ func276 ad (by kernel_rfl)
def pg (s a:ByteArray):=bj aA F ad f273 T0 aO 1 (s,a,())
def Px (s a:ByteArray):pg F s a=br (decide ((s.size:Int)>=(a.size:Int))) (ck (Tx 0 (a.size:Int) (s.size:Int)) (some ((s.extract (0:Int).toNat (a.size:Int).toNat).toList==a.toList,()))) (some (false,())):=by kernel_rfl
def tl:Any:=.one ⟨T0,aO,1,fun x=>pg F0 x.1 x.2.1⟩
def Py:a1 273 tl:=aq aA trivial func273 ad (by kernel_rfl)
def HV:=[(273,tl)]
def A2 (s a:ByteArray):=bj HV F ad f224 T0 aO 1 (s,a,())
def XS (s a:ByteArray):A2 F s a=(pg F0 s a).bind fun b=>some (b.1,()):=by kernel_rfl
def B3:Any:=.one ⟨T0,aO,1,fun x=>A2 F0 x.1 x.2.1⟩
def XT:a1 224 B3:=aq HV ⟨Py,trivial⟩ func224 ad (by kernel_rfl)
def XU:=[(60,eS),(224,B3)]
def sP (s t:ByteArray):=bj XU F ad f156 T0 aO 1 (s,t,())
def amZ (s t:ByteArray):sP F s t=(e7 F0 s).bind fun a=>br a.1 ((e7 F0 t).bind fun b=>br b.1 ((A2 F0 s t).bind fun c=>br c.1 (br ((s.size:Int)==(t.size:Int)) (some (true,())) (ck (bG (t.size:Int) (s.size:Int)) (some ((jP s (t.size:Int))==47,())))) (some (false,()))) (some (false,()))) (some (false,())):=by kernel_rfl
def C5:Any:=.one ⟨T0,aO,1,fun x=>sP F0 x.1 x.2.1⟩
def UQ:a1 156 C5:=aq XU ⟨hl,XT,trivial⟩ func156 ad (by kernel_rfl)
def aqe:=[(49,eb),(50,kE),(107,jA),(108,Ez),(151,k7),(156,C5),(275,Ri),(276,Rj)]
def Rk (c:D1)(s:Vt)(q:D9):=bj aqe F ad f226 aEg BR 2 (c,s,q,())
def azn (c:D1)(s:Vt)(q:D9):Rk F c s q=(lJ F0 s).bind fun a=>(k3 F0 c s).bind fun f=>br (!f.1) (some (a.1,())) ((mD F0 c q).bind fun g=>br (!g.1) (some (a.1,())) ((Jm F0 q s.2.2.1).bind fun d=>(sy F0 q.2.1).bind fun h=>(ew F0 h.1).bind fun b=>(Jn F0 q.2.1).bind fun e=>br e.2.1 ((sP F0 e.1 s.2.2.2).bind fun i=>br i.1 (some ((a.1.1,(if b.1>s.2.1 then b.1 else s.2.1,(d.1,e.1))),())) (some ((a.1.1,(if b.1>s.2.1 then b.1 else s.2.1,(d.1,a.1.2.2.2))),()))) (some ((a.1.1,(if b.1>s.2.1 then b.1 else s.2.1,(d.1,a.1.2.2.2))),())))):=by kernel_rfl
def Jo:Any:=.one ⟨aEg,BR,2,fun x=>Rk F0 x.1 x.2.1 x.2.2.1⟩
def XV:a1 226 Jo:=aq aqe ⟨fA,re,nM,SJ,sA,UQ,amW,amY,trivial⟩ func226 ad (by kernel_rfl)
def XW:=[(48,mF),(49,eb),(50,kE)]
def fD (c:D1)(s:Vt)(b:D15):=bj XW F ad f16 ae5 aO 1 (c,s,b,())
def am0 (c:D1)(s:Vt)(b:D15):fD F c s b=(k3 F0 c s).bind fun a=>br a.1 ((nO F0 c b).bind fun d=>br d.1 ((ew F0 b.1).bind fun e=>br (decide (e.1>s.1)) (some (decide (b.2.1>=s.2.1),())) (some (false,()))) (some (false,()))) (some (false,())):=by kernel_rfl
def Rl:Any:=.one ⟨ae5,aO,1,fun x=>fD F0 x.1 x.2.1 x.2.2.1⟩
def UR:a1 16 Rl:=aq XW ⟨vx,fA,re,trivial⟩ func16 ad (by kernel_rfl)
def akG:=[(16,Rl),(49,eb),(151,k7)]
def Zi (c:D1)(s:Vt)(b:D15):=bj akG F ad f227 ae5 aks 2 (c,s,b,())
def aw7 (c:D1)(s:Vt)(b:D15):Zi F c s b=(lJ F0 s).bind fun a=>(fD F0 c s b).bind fun d=>br (!d.1) (some (a.1,false,())) ((ew F0 b.1).bind fun e=>some ((e.1,a.1.2),true,())):=by kernel_rfl
def abJ:Any:=.one ⟨ae5,aks,2,fun x=>Zi F0 x.1 x.2.1 x.2.2.1⟩
def aw8:a1 227 abJ:=aq akG ⟨UR,fA,sA,trivial⟩ func227 ad (by kernel_rfl)
def US:=[(55,kD)]
def ug (a b:Vt):=bj US F ad f19 aEh aO 1 (a,b,())
def aiG (a b:Vt):ug F a b=br (a.1==b.1) (br (a.2.1==b.2.1) ((jy F0 a.2.2.1 b.2.2.1).bind fun c=>br c.1 (some (a.2.2.2.toList==b.2.2.2.toList,())) (some (false,()))) (some (false,()))) (some (false,())):=by kernel_rfl
def A3:Any:=.one ⟨aEh,aO,1,fun x=>ug F0 x.1 x.2.1⟩
def Rm:a1 19 A3:=aq US ⟨q8,trivial⟩ func19 ad (by kernel_rfl)
def Rn:=[(50,kE),(171,sL),(172,C4),(173,sN)]
def A4 (c:D1)(s:Vt):=bj Rn F ad f318 TJ lF 2 (c,s,())
def afK (c:D1)(s:Vt):A4 F c s=(k3 F0 c s).bind fun e=>br (!e.1) (some ([],())) ((ld F0 [s.1,s.2.1]).bind fun a=>(sO F0 c s.2.2.1).bind fun b=>ck (ep F a.1.length b.1.length 1) ((n1 F0 s.2.2.2).bind fun d=>ck (ep F (a.1++b.1).length d.1.length 1) (some ((a.1++b.1)++d.1,())))):=by kernel_rfl
def LJ:Any:=.one ⟨TJ,lF,2,fun x=>A4 F0 x.1 x.2.1⟩
def afL:a1 318 LJ:=aq Rn ⟨re,G3,UO,G4,trivial⟩ func318 ad (by kernel_rfl)
def Ro:=[(170,iu),(318,LJ)]
def A5 (c:D1)(s:Vt):=bj Ro F ad f278 TJ lF 2 (c,s,())
def afM (c:D1)(s:Vt):A5 F c s=(A4 F0 c s).bind fun a=>br ((a.1.length:Int)==0) (some ([],())) ((e8 F0 (a.1.length:Int)).bind fun b=>ck (ep F b.1.length a.1.length 1) (ck (ep F (b.1++a.1).length [10].length 1) (some ((b.1++a.1)++[10],())))):=by kernel_rfl
def LK:Any:=.one ⟨TJ,lF,2,fun x=>A5 F0 x.1 x.2.1⟩
def afN:a1 278 LK:=aq Ro ⟨mH,afL,trivial⟩ func278 ad (by kernel_rfl)
def abK:=[(118,oH),(154,k8)]
def Ok (d:D14)(b:List Int):=bj abK F ad f277 aEj aEi 2 (d,b,())
def aqf (d:D14)(b:List Int):Ok F d b=(lK F0 d).bind fun a=>(ri F0 d).bind fun c=>br (!c.1) (some (a.1,false,())) (br (decide ((aj ((d.1.length:Int)+(b.length:Int)))>100000)) (some (a.1,false,())) (ck (ep F a.1.1.length b.length 1) (some ((a.1.1++b,a.1.2),true,())))):=by kernel_rfl
def UT:Any:=.one ⟨aEj,aEi,2,fun x=>Ok F0 x.1 x.2.1⟩
def aqg:a1 277 UT:=aq abK ⟨AH,sE,trivial⟩ func277 ad (by kernel_rfl)
def afO:=[(19,A3),(58,b2),(80,bO),(151,k7),(277,UT),(278,LK)]
abbrev aHr:List (Ty×Bool):=[(K1,true),(ca,true),(K12,true)]
def wI (c:D1)(r:a7)(s:Vt):=bj afO F ad f228 aHr gH 2 (c,r,s,())
def ato (c:D1)(r:a7)(s:Vt):wI F c r s=(aB F0 r).bind fun a=>(cq F0 c r).bind fun f=>br (!f.1) (some (a.1,false,())) ((ug F0 s r.2.2.2.1).bind fun g=>br g.1 (some (a.1,true,())) ((A5 F0 c s).bind fun h=>(Ok F0 r.2.2.2.2.2.2.1 h.1).bind fun b=>(lJ F0 s).bind fun e=>br (!b.2.1) ((aB F0 r).bind fun d=>some (d.1,false,())) ((cq F0 c (a.1.1,a.1.2.1,a.1.2.2.1,e.1,a.1.2.2.2.2.1,a.1.2.2.2.2.2.1,b.1,a.1.2.2.2.2.2.2.2)).bind fun i=>br (!i.1) ((aB F0 r).bind fun d=>some (d.1,false,())) (some ((a.1.1,a.1.2.1,a.1.2.2.1,e.1,a.1.2.2.2.2.1,a.1.2.2.2.2.2.1,b.1,a.1.2.2.2.2.2.2.2),true,()))))):=by kernel_rfl
def A6:Any:=.one ⟨aHr,gH,2,fun x=>wI F0 x.1 x.2.1 x.2.2.1⟩
def Pz:a1 228 A6:=aq afO ⟨Rm,cu,b8,sA,aqg,afN,trivial⟩ func228 ad (by kernel_rfl)
def abL:=[(29,fz),(51,cN),(350,tP),(352,BP)]
def FT (s:List Int)(i:Int):=bj abL F ad f321 acQ kr 2 (s,i,())
def aqh (s:List Int)(i:Int):FT F s i=(c7 F0 s i).bind fun c=>br c.1 ((ea F0 s).bind fun d=>some (d.1,())) (br (decide ((p4 (fun a=>geP a i) s 0)<0)) ((ea F0 s).bind fun b=>ck (akb (s.length:Int) b.1.length [i].length) (some (b.1.take (s.length:Int).toNat++[i]++b.1.drop (s.length:Int).toNat,()))) ((ea F0 s).bind fun b=>ck (akb (p4 (fun a=>geP a i) s 0) b.1.length [i].length) (some (b.1.take (p4 (fun a=>geP a i) s 0).toNat++[i]++b.1.drop (p4 (fun a=>geP a i) s 0).toNat,())))):=by kernel_rfl
def UU:Any:=.one ⟨acQ,kr,2,fun x=>FT F0 x.1 x.2.1⟩
def aqi:a1 321 UU:=aq abL ⟨jI,dQ,P4,Ws,trivial⟩ func321 ad (by kernel_rfl)
def mT:=[(321,UU)]
def mU:Nat->Option Hint:=look [(3,{live:=[1,5,10,11,12],mat:=[(5,3,.int .i64)],xl:=[1,5],rl:=[4]}),(8,{live:=[5,20,21,22],xl:=[5],rl:=[4]})]
def sQ (a:List Int)(b c:Int)(d:List Int):= cQ 31 [(5,.v (.c (.own 1000000 none))),(20,hV 3 (.int .i64) a),(21,a8 b),(22,a8 c)] [] [ay 1000000 3 (.int .i64) d]
def Ol (a:List Int):= cQ 31 [(5,.v (.c (.own 1000000 none)))] [] [ay 1000000 3 (.int .i64) a]
def A7 (a:St):Option U:=ff mT F mU [.r,.r,.r,.l,.r,.b,.i] f285 J n a
def C6:=hQ mT F mU [.r,.r,.r,.l,.r,.b] f285 kr 2
def sR (b a:List Int)(c d:Int)(e:List Int):= cQ 31 [(1,hV 3 (.int .i64) b),(5,.v (.c (.own 1000000 none))),(10,hV 3 (.int .i64) a),(11,a8 c),(12,a8 d)] [] [ay 1000000 3 (.int .i64) e]
def Om (b a:List Int):= cQ 31 [(1,hV 3 (.int .i64) b),(5,.v (.c (.own 1000000 none)))] [] [ay 1000000 3 (.int .i64) a]
def A8 (a:St):Option U:=ff mT F mU [.r,.r,.l,.r,.b,.i] f285 J n a
def C7:=hQ mT F mU [.r,.r,.l,.r,.b] f285 kr 2
def HW (b:List Int)(c a:Int)(d:List Int):A7 F J (n+1) (sQ b c a d)=br (decide (a<c)) (ck (bG a (b.length:Int)) ((FT F0 d (aI b a 0)).bind fun e=>A7 F J n (sQ b c (aj (a+1)) e.1))) (J (.exit 2) (Ol d)):=by kernel_rfl
def HX (b c:List Int)(d a:Int)(e:List Int):A8 F J (n+1) (sR b c d a e)=br (decide (a<d)) (ck (bG a (c.length:Int)) ((FT F0 e (aI c a 0)).bind fun f=>A8 F J n (sR b c d (aj (a+1)) f.1))) (J (.exit 0) (Om b e)):=by kernel_rfl
def adg (a:List Int):C6 F (.exit 2) (Ol a)=some (a,()):=by kernel_rfl
def adh (b a:List Int):C7 F (.exit 0) (Om b a)=A7 F (C6 F) F.n (sQ b (b.length:Int) 0 a):=by kernel_rfl
def Jp (a b:List Int):=bj mT F mU f285 alF kr 2 (a,b,())
def am1 (a b:List Int):Jp F a b=A8 F (C7 F) F.n (sR b a (a.length:Int) 0 []):=by kernel_rfl
def Rp:Any:=.one ⟨alF,kr,2,fun x=>Jp F0 x.1 x.2.1⟩
def am2:a1 285 Rp:=aq mT ⟨aqi,trivial⟩ func285 mU (by kernel_rfl)
def UW:=[(285,Rp)]
def EK (a b:D9):=bj UW F ad f238 w3 akt 2 (a,b,())
def aiH (a b:D9):EK F a b=br (a.1 != b.1) (some ((0,ak,[]),false,())) (br (!(a.2.1.toList==b.2.1.toList)) (some ((0,ak,[]),false,())) ((Jp F0 a.2.2 b.2.2).bind fun c=>some ((a.1,a.2.1,c.1),true,()))):=by kernel_rfl
def On:Any:=.one ⟨w3,akt,2,fun x=>EK F0 x.1 x.2.1⟩
def aiI:a1 238 On:=aq UW ⟨am2,trivial⟩ func238 ad (by kernel_rfl)
def vG:=[(117,CS),(153,wD),(190,oG),(191,pe),(222,hZ),(238,On),(239,yo)]
def vH:Nat->Option Hint:=look [(5,{live:=[1,3,5,8,9],xl:=[1,3,5,8,9],rl:=[6,7]})]
def pT (e:List D9)(k c a p:Int)(b:ByteArray)(d:List Int)(f:List D9):= cQ 71 [(1,hV 50 (K9) e),b0 3,b0 5,(8,.v (.c (.own 1000000 none))),(9,a8 k)] [(3,[ao c,ao a]),(5,[ao p,.str b,.ro false 3 (.int .i64) d])] [ay 1000000 50 K9 f]
def n2 (e:List D9)(k c a p:Int)(b:ByteArray)(d:List Int)(f:List D9):= cQ 71 [(1,hV 50 (K9) e),b0 3,b0 5,(8,.v (.c (.own 1000000 none))),(9,a8 k)] [(3,[ao c,ao a]),(5,[ao p,.str b,.ro false 3 (.int .i64) d])] [ay 1000000 50 K9 f]
def vI (a:St):Option U:=ff vG F vH [.r,.r,.r,.r,.l,.b,.i] f177 J n a
def pU:=hQ vG F vH [.r,.r,.r,.r,.l,.b] f177 auD 2
def FU (f:List D9)(k c e p:Int)(b:ByteArray)(d:List Int)(a:List D9):vI F J (n+1) (pT f k c e p b d a)=br (decide (k<(a.length:Int))) (ck (bG k (a.length:Int)) ((fB F0 (aI a k K9.az) (p,b,d)).bind fun g=>br (decide (g.1<0)) (vI F J n (pT f (aj (k+1)) c e p b d a)) (J (.exit 0) (n2 f k c e p b d a)))) (J (.exit 0) (n2 f k c e p b d a)):=by kernel_rfl
def Z4 (i:List D9)(k c h p:Int)(d:ByteArray)(e:List Int)(a:List D9):pU F (.exit 0) (n2 i k c h p d e a)=br (decide (k<(a.length:Int))) (ck (bG k (a.length:Int)) ((fB F0 (aI a k K9.az) (p,d,e)).bind fun l=>br (l.1==0) (ck (bG k (a.length:Int)) ((EK F0 (aI a k K9.az) (p,d,e)).bind fun j=>ck (bG k (a.length:Int)) ((k4 F0 (c,h) (a.set k.toNat j.1)).bind fun f=>br (!f.1) ((eL F0 i).bind fun g=>some (g.1,false,())) (some (a.set k.toNat j.1,true,()))))) ((fp F0 (p,d,e)).bind fun b=>ck (akb k a.length [b.1].length) ((k4 F0 (c,h) (a.take k.toNat++[b.1]++a.drop k.toNat)).bind fun f=>br (!f.1) ((eL F0 i).bind fun g=>some (g.1,false,())) (some (a.take k.toNat++[b.1]++a.drop k.toNat,true,())))))) ((fp F0 (p,d,e)).bind fun b=>ck (akb k a.length [b.1].length) ((k4 F0 (c,h) (a.take k.toNat++[b.1]++a.drop k.toNat)).bind fun f=>br (!f.1) ((eL F0 i).bind fun g=>some (g.1,false,())) (some (a.take k.toNat++[b.1]++a.drop k.toNat,true,())))):=by kernel_rfl
def eM (c:D1)(a:D13)(p:D9):=bj vG F vH f177 aEk auD 2 (c,a,p,())
def aiJ (c:D1)(a:D13)(p:D9):eM F c a p=(rf F0 c p).bind fun b=>br (!b.1) ((eL F0 a).bind fun d=>some (d.1,false,())) ((eL F0 a).bind fun e=>vI F (pU F) F.n (pT a 0 c.1 c.2 p.1 p.2.1 p.2.2 e.1)):=by kernel_rfl
def lh:Any:=.one ⟨aEk,auD,2,fun x=>eM F0 x.1 x.2.1 x.2.2.1⟩
def sS:a1 177 lh:=aq vG ⟨UC,N9,AD,FN,mR,aiI,Vs,trivial⟩ func177 vH (by kernel_rfl)
def vJ:=[(222,hZ)]
def vK:Nat->Option Hint:=look [(2,{live:=[1,2,6,9,10,11],yh:=[(6,2,3,.int .i64)],xl:=[1,2,6],rl:=[6]})]
def lj (a:Int)(name:ByteArray)(b:List D9)(c d e:Int)(f:ByteArray)(g:List Int):= cQ 31 [(1,a8 a),(2,qqs name),b0 6,(9,hV 50 (K9) b),(10,a8 c),(11,a8 d)] [(6,[ao e,.str f,.own 1000000 none])] [ay 1000000 3 (.int .i64) g]
def Oo (a:Int)(b:ByteArray)(c:List Int):= cQ 31 [b0 6] [(6,[ao a,.str b,.own 1000000 none])] [ay 1000000 3 (.int .i64) c]
def LL (a:Int)(name:ByteArray)(b:Int)(c:ByteArray)(d:List Int):= cQ 31 [(1,a8 a),(2,qqs name),b0 6] [(6,[ao b,.str c,.own 1000000 none])] [ay 1000000 3 (.int .i64) d]
def oK (a:St):Option U:=ff vJ F vK [.r,.l,.r,.b,.i] f232 J n a
def pV:=hQ vJ F vK [.r,.l,.r,.b] f232 gB 2
def FV (c:Int)(name:ByteArray)(b:List D9)(d a e:Int)(f:ByteArray)(g:List Int):oK F J (n+1) (lj c name b d a e f g)=br (decide (a<d)) (ck (bG a (b.length:Int)) (br ((aI b a K9.az).1==c) (br ((aI b a K9.az).2.1.toList==name.toList) ((fp F0 (aI b a K9.az)).bind fun h=>J .ret (Oo h.1.1 h.1.2.1 h.1.2.2)) (oK F J n (lj c name b d (aj (a+1)) e f g))) (oK F J n (lj c name b d (aj (a+1)) e f g)))) (J (.exit 0) (LL c name e f g)):=by kernel_rfl
def adi (a:Int)(b:ByteArray)(c:List Int):pV F .ret (Oo a b c)=some ((a,b,c),()):=by kernel_rfl
def Z5 (a:Int)(name:ByteArray)(b:Int)(c:ByteArray)(d:List Int):pV F (.exit 0) (LL a name b c d)=some ((a,name,[]),()):=by kernel_rfl
def uh (a:D13)(b:Int)(name:ByteArray):=bj vJ F vK f232 aEa gB 2 (a,b,name,())
def aiK (a:D13)(b:Int)(name:ByteArray):uh F a b name=oK F (pV F) F.n (lj b name a (a.length:Int) 0 0 ak []):=by kernel_rfl
def A9:Any:=.one ⟨aEa,gB,2,fun x=>uh F0 x.1 x.2.1 x.2.2.1⟩
def Rq:a1 232 A9:=aq vJ ⟨mR,trivial⟩ func232 vK (by kernel_rfl)
def akH:=[(30,cM)]
def sT (c:D1)(a:Int):=bj akH F ad f168 akl cE 1 (c,a,())
def aw9 (c:D1)(a:Int):sT F c a=(eu F0 c).bind fun b=>br (!b.1) (some (-1,())) (br (decide (a<0)) (some (-1,())) (ck (!(c.1==0)) (some (Int.tmod a c.1,())))):=by kernel_rfl
def lM:Any:=.one ⟨akl,cE,1,fun x=>sT F0 x.1 x.2.1⟩
def sU:a1 168 lM:=aq akH ⟨dP,trivial⟩ func168 ad (by kernel_rfl)
def abM:=[(47,iv),(107,jA)]
def FW (c:D1)(p:D9):=bj abM F ad f233 Hj akt 2 (c,p,())
def aqj (c:D1)(p:D9):FW F c p=(hD F0 p).bind fun a=>(mD F0 c a.1).bind fun b=>br (!b.1) (some ((0,ak,[]),false,())) (br (a.1.1==0) (some ((0,ak,[]),false,())) (some (a.1,true,()))):=by kernel_rfl
def UX:Any:=.one ⟨Hj,akt,2,fun x=>FW F0 x.1 x.2.1⟩
def aqk:a1 233 UX:=aq abM ⟨mQ,nM,trivial⟩ func233 ad (by kernel_rfl)
def akI:=[(58,b2),(80,bO),(223,C2)]
def mV (c:D1)(r:a7)(a:Int)(m:Po):=bj akI F ad f178 aEl gH 2 (c,r,a,m,())
def axa (c:D1)(r:a7)(b:Int)(m:Po):mV F c r b m=(aB F0 r).bind fun a=>(AR F0 m).bind fun d=>ck (ep F a.1.2.2.2.2.2.2.2.length [(b,d.1)].length 224) ((cq F0 c (a.1.1,a.1.2.1,a.1.2.2.1,a.1.2.2.2.1,a.1.2.2.2.2.1,a.1.2.2.2.2.2.1,a.1.2.2.2.2.2.2.1,a.1.2.2.2.2.2.2.2++[(b,d.1)])).bind fun e=>br (!e.1) ((aB F0 r).bind fun f=>some (f.1,false,())) (some ((a.1.1,a.1.2.1,a.1.2.2.1,a.1.2.2.2.1,a.1.2.2.2.2.1,a.1.2.2.2.2.2.1,a.1.2.2.2.2.2.2.1,a.1.2.2.2.2.2.2.2++[(b,d.1)]),true,()))):=by kernel_rfl
def ui:Any:=.one ⟨aEl,gH,2,fun x=>mV F0 x.1 x.2.1 x.2.2.1 x.2.2.2.1⟩
def Jq:a1 178 ui:=aq akI ⟨cu,b8,UK,trivial⟩ func178 ad (by kernel_rfl)
def afP:=[(168,lM),(178,ui),(226,Jo),(228,A6)]
def LM (c:D1)(r:a7)(q:D9):=bj afP F ad f234 aku gH 0 (c,r,q,())
def atp (c:D1)(r:a7)(q:D9):LM F c r q=(Rk F0 c r.2.2.2.1 q).bind fun e=>(wI F0 c r e.1).bind fun a=>br (!a.2.1) (some (r,false,())) (br (decide ((aj (q.1+1))>60)) (some (a.1,true,())) ((sT F0 c (aj (q.1+1))).bind fun b=>br (b.1 != r.1) ((mV F0 c (a.1.1,(if (aj (q.1+1))>a.1.2.1 then (aj (q.1+1)) else a.1.2.1,a.1.2.2)) b.1 (3,aj (q.1+1),(ak,0,ak,[]),(0,ak,[]),q,r.1,0,0,0,0)).bind fun d=>some (d.1,d.2.1,())) (some ((a.1.1,(if (aj (q.1+1))>a.1.2.1 then (aj (q.1+1)) else a.1.2.1,a.1.2.2)),true,())))):=by kernel_rfl
def XX:Any:=.one ⟨aku,gH,0,fun x=>LM F0 x.1 x.2.1 x.2.2.1⟩
def atq:a1 234 XX:=aq afP ⟨sU,Jq,XV,Pz,trivial⟩ func234 ad (by kernel_rfl)
def akJ:=[(30,cM),(41,bA)]
def J0 (c:D1)(a i:Int):=bj akJ F ad f282 QE cE 1 (c,a,i,())
def axb (c:D1)(a i:Int):J0 F c a i=(eu F0 c).bind fun b=>br (!b.1) (some (-1,())) (br (decide (a<0)) (some (-1,())) ((aZ F0 i 0 (aj (c.1-1))).bind fun d=>br (!d.1) (some (-1,())) (ck (!(c.1==0)) (ck (!(c.1==0)) (some (Int.tmod (aj ((aj (i-(Int.tmod a c.1)))+c.1)) c.1,())))))):=by kernel_rfl
def EL:Any:=.one ⟨QE,cE,1,fun x=>J0 F0 x.1 x.2.1 x.2.2.1⟩
def SM:a1 282 EL:=aq akJ ⟨dP,bW,trivial⟩ func282 ad (by kernel_rfl)
def akK:=[(30,cM),(41,bA)]
def Zj (c:D1)(b a:Int):=bj akK F ad f284 QE cE 1 (c,b,a,())
def axc (c:D1)(b a:Int):Zj F c b a=(eu F0 c).bind fun d=>br (!d.1) (some (-1,())) (br (decide (b<0)) (some (-1,())) ((aZ F0 a 0 (aj (c.1-1))).bind fun e=>br (!e.1) (some (-1,())) (ck (!(c.1==0)) (ck (!(c.1==0)) (some (Int.tmod (aj ((Int.tmod b c.1)+a)) c.1,())))))):=by kernel_rfl
def abN:Any:=.one ⟨QE,cE,1,fun x=>Zj F0 x.1 x.2.1 x.2.2.1⟩
def axd:a1 284 abN:=aq akK ⟨dP,bW,trivial⟩ func284 ad (by kernel_rfl)
def auH:=[(282,EL),(284,abN)]
def Zk (c:D1)(a i:Int):=bj auH F ad f237 QE cE 1 (c,a,i,())
def aB5 (c:D1)(a i:Int):Zk F c a i=(J0 F0 c a i).bind fun b=>br (decide (b.1<1)) (some (-1,())) (ck (!(c.2==0)) ((Zj F0 c a (aj (Int.tdiv (aj (b.1-1)) c.2))).bind fun d=>some (d.1,()))):=by kernel_rfl
def XY:Any:=.one ⟨QE,cE,1,fun x=>Zk F0 x.1 x.2.1 x.2.2.1⟩
def aql:a1 237 XY:=aq auH ⟨SM,axd,trivial⟩ func237 ad (by kernel_rfl)
end
end Go.Am.Tryz
namespace Go.Am.Tryz
open Go.Am Go.Proofs Go.Proofs.Tryz
noncomputable section
variable {U:Type} (F:p5) (J:Ex->St->Option U) (n:Nat)
def SN:=[(237,XY),(282,EL)]
def SO:Nat->Option Hint:=look [(2,{live:=[1,2,3,7],mat:=[(7,3,.int .i64)],xl:=[7],rl:=[6]})]
def Jr (b i c a:Int)(d:List Int):= cQ 22 [(1,a8 b),(2,a8 i),b0 3,(7,.v (.c (.own 1000000 none)))] [(3,[ao c,ao a])] [ay 1000000 3 (.int .i64) d]
def PA (a:List Int):= cQ 22 [(7,.v (.c (.own 1000000 none)))] [] [ay 1000000 3 (.int .i64) a]
def SP (a:St):Option U:=ff SN F SO [.r,.r,.l,.b,.i] f283 J n a
def afQ:=hQ SN F SO [.r,.r,.l,.b] f283 kr 2
def UY (b i c a:Int)(d:List Int):SP F J (n+1) (Jr b i c a d)=(J0 F0 (c,a) b i).bind fun e=>br (decide (e.1>=0)) (ck (ep F d.length [i].length 8) ((Zk F0 (c,a) b i).bind fun f=>SP F J n (Jr b f.1 c a (d++[i])))) (J (.exit 0) (PA d)):=by kernel_rfl
def aqm (a:List Int):afQ F (.exit 0) (PA a)=some (a,()):=by kernel_rfl
def afR (c:D1)(a i:Int):=bj SN F SO f283 QE kr 2 (c,a,i,())
def azo (c:D1)(a i:Int):afR F c a i=SP F (afQ F) F.n (Jr a i c.1 c.2 []):=by kernel_rfl
def afS:Any:=.one ⟨QE,kr,2,fun x=>afR F0 x.1 x.2.1 x.2.2.1⟩
def azp:a1 283 afS:=aq SN ⟨aql,SM,trivial⟩ func283 SO (by kernel_rfl)
def Js:=[(51,cN),(282,EL),(283,afS)]
def Jt:Nat->Option Hint:=look [(3,{live:=[1,2,3,7,8],mat:=[(7,3,.int .i64)],xl:=[7],rl:=[6]})]
def ru (b i k c a:Int)(d:List Int):= cQ 33 [(1,a8 b),(2,a8 i),b0 3,(7,.v (.c (.own 1000000 none))),(8,a8 k)] [(3,[ao c,ao a])] [ay 1000000 3 (.int .i64) d]
def G5 (a:List Int):= cQ 33 [(7,.v (.c (.own 1000000 none)))] [] [ay 1000000 3 (.int .i64) a]
def Ba (a:St):Option U:=ff Js F Jt [.r,.r,.l,.r,.b,.i] f235 J n a
def LN:=hQ Js F Jt [.r,.r,.l,.r,.b] f235 kr 2
def Bb (d i k c b:Int)(a:List Int):Ba F J (n+1) (ru d i k c b a)=(J0 F0 (c,b) d i).bind fun e=>br (decide (e.1>=0)) (br (decide (k<c)) ((afR F0 (c,b) d k).bind fun f=>(c7 F0 f.1 i).bind fun g=>br g.1 (ck (ep F a.length [k].length 8) (Ba F J n (ru d i (aj (k+1)) c b (a++[k])))) (Ba F J n (ru d i (aj (k+1)) c b a))) (J (.exit 0) (G5 a))) (J (.exit 0) (G5 a)):=by kernel_rfl
def Rr (a:List Int):LN F (.exit 0) (G5 a)=some (a,()):=by kernel_rfl
def SQ (c:D1)(a i:Int):=bj Js F Jt f235 QE kr 2 (c,a,i,())
def atr (c:D1)(a i:Int):SQ F c a i=Ba F (LN F) F.n (ru a i 0 c.1 c.2 []):=by kernel_rfl
def XZ:Any:=.one ⟨QE,kr,2,fun x=>SQ F0 x.1 x.2.1 x.2.2.1⟩
def ats:a1 235 XZ:=aq Js ⟨dQ,SM,azp,trivial⟩ func235 Jt (by kernel_rfl)
def EM:=[(51,cN)]
def EN:Nat->Option Hint:=look [(3,{live:=[1,5,8,9,10],xl:=[5],rl:=[4]})]
def oL (b:List Int)(a:Int)(c:List Int)(d e:Int):= bP 21 [(1,hV 3 (.int .i64) b),(5,a8 a),(8,hV 3 (.int .i64) c),(9,a8 d),(10,a8 e)]
def Rs (a:Int):= bP 21 [(5,a8 a)]
def uj (a:St):Option U:=ff EM F EN [.r,.r,.l,.r,.b,.i] f236 J n a
def G6:=hQ EM F EN [.r,.r,.l,.r,.b] f236 cE 1
def LO (b:List Int)(d:Int)(c:List Int)(e a:Int):uj F J (n+1) (oL b d c e a)=br (decide (a<e)) (ck (bG a (c.length:Int)) ((c7 F0 b (aI c a 0)).bind fun f=>br f.1 (uj F J n (oL b (aj (d+1)) c e (aj (a+1)))) (uj F J n (oL b d c e (aj (a+1)))))) (J (.exit 0) (Rs d)):=by kernel_rfl
def afT (a:Int):G6 F (.exit 0) (Rs a)=some (a,()):=by kernel_rfl
def Oq (a b:List Int):=bj EM F EN f236 alF cE 1 (a,b,())
def aqn (a b:List Int):Oq F a b=uj F (G6 F) F.n (oL b 0 a (a.length:Int) 0):=by kernel_rfl
def UZ:Any:=.one ⟨alF,cE,1,fun x=>Oq F0 x.1 x.2.1⟩
def aqo:a1 236 UZ:=aq EM ⟨dQ,trivial⟩ func236 EN (by kernel_rfl)
def afU:=[(58,b2),(80,bO),(168,lM),(178,ui),(232,A9),(233,UX),(234,XX),(235,XZ),(236,UZ),(237,XY)]
def n4 (c:D1)(r:a7)(a:Int)(name:ByteArray)(b:Bool):=bj afU F ad f176 auF gH 0 (c,r,a,name,b,())
def att (c:D1)(r:a7)(a:Int)(name:ByteArray)(j:Bool):n4 F c r a name j=(uh F0 r.2.2.2.2.2.1 a name).bind fun b=>br ((b.1.2.2.length:Int)==0) ((aB F0 r).bind fun d=>some (d.1,false,())) ((cq F0 c r).bind fun k=>br (!k.1) ((aB F0 r).bind fun d=>some (d.1,false,())) (br (name.toList==ak.toList) ((aB F0 r).bind fun d=>some (d.1,false,())) ((sT F0 c a).bind fun l=>br (l.1==r.1) ((FW F0 c b.1).bind fun g=>br (!g.2.1) ((aB F0 r).bind fun m=>some (m.1,false,())) ((LM F0 c r g.1).bind fun h=>br (!h.2.1) ((aB F0 r).bind fun o=>some (o.1,false,())) (some (h.1,true,())))) ((SQ F0 c a r.1).bind fun i=>br (!j) ((Oq F0 i.1 b.1.2.2).bind fun p=>br (decide (p.1<(i.1.length:Int))) ((aB F0 r).bind fun q=>some (q.1,false,())) ((Zk F0 c a r.1).bind fun f=>(mV F0 c r f.1 (2,0,(ak,0,ak,[]),b.1,(0,ak,[]),0,0,0,0,0)).bind fun e=>some (e.1,e.2.1,()))) ((Zk F0 c a r.1).bind fun f=>(mV F0 c r f.1 (2,0,(ak,0,ak,[]),b.1,(0,ak,[]),0,0,0,0,0)).bind fun e=>some (e.1,e.2.1,())))))):=by kernel_rfl
def Bc:Any:=.one ⟨auF,gH,0,fun x=>n4 F0 x.1 x.2.1 x.2.2.1 x.2.2.2.1 x.2.2.2.2.1⟩
def PB:a1 176 Bc:=aq afU ⟨cu,b8,sU,Jq,Rq,aqk,atq,ats,aqo,aql,trivial⟩ func176 ad (by kernel_rfl)
def Rt:=[(48,mF),(49,eb),(58,b2),(80,bO),(176,Bc),(177,lh),(226,Jo),(227,abJ),(228,A6)]
def rv (c:D1)(r:a7)(b:D15):=bj Rt F ad f161 aEm gH 1 (c,r,b,())
def afV (c:D1)(r:a7)(b:D15):rv F c r b=(cq F0 c r).bind fun k=>br (!k.1) ((aB F0 r).bind fun e=>some (e.1,false,())) ((nO F0 c b).bind fun l=>br (!l.1) ((aB F0 r).bind fun e=>some (e.1,false,())) ((ew F0 b.1).bind fun d=>(Rk F0 c r.2.2.2.1 b.2).bind fun h=>(aB F0 r).bind fun f=>br (decide (d.1>=r.2.1)) ((Zi F0 c h.1 b).bind fun i=>(wI F0 c (f.1.1,d.1,f.1.2.2) i.1).bind fun a=>br (!a.2.1) ((aB F0 r).bind fun g=>some (g.1,false,())) (br (!i.2.1) (some (a.1,true,())) ((eM F0 c a.1.2.2.2.2.2.1 (d.1,b.1,[r.1])).bind fun j=>br (!j.2.1) ((aB F0 r).bind fun m=>some (m.1,false,())) ((n4 F0 c (a.1.1,a.1.2.1,a.1.2.2.1,a.1.2.2.2.1,a.1.2.2.2.2.1,j.1,a.1.2.2.2.2.2.2) d.1 b.1 false).bind fun o=>some (o.1,true,()))))) ((wI F0 c f.1 h.1).bind fun a=>br (!a.2.1) ((aB F0 r).bind fun g=>some (g.1,false,())) (some (a.1,true,()))))):=by kernel_rfl
def wJ:Any:=.one ⟨aEm,gH,1,fun x=>rv F0 x.1 x.2.1 x.2.2.1⟩
def Ot:a1 161 wJ:=aq Rt ⟨vx,fA,cu,b8,PB,sS,XV,aw8,Pz,trivial⟩ func161 ad (by kernel_rfl)
def U0:=[(58,b2),(80,bO),(176,Bc),(177,lh),(190,oG)]
def EO (c:D1)(r:a7)(p:D9):=bj U0 F ad f162 aku gH 1 (c,r,p,())
def aiL (c:D1)(r:a7)(p:D9):EO F c r p=(cq F0 c r).bind fun e=>br (!e.1) ((aB F0 r).bind fun a=>some (a.1,false,())) ((rf F0 c p).bind fun f=>br (!f.1) ((aB F0 r).bind fun a=>some (a.1,false,())) (br (p.2.1.toList==ak.toList) ((aB F0 r).bind fun a=>some (a.1,false,())) (br (decide (p.1<r.2.1)) ((aB F0 r).bind fun a=>some (a.1,false,())) ((eM F0 c r.2.2.2.2.2.1 p).bind fun d=>br (!d.2.1) ((aB F0 r).bind fun g=>some (g.1,false,())) ((aB F0 r).bind fun b=>(n4 F0 c (b.1.1,b.1.2.1,b.1.2.2.1,b.1.2.2.2.1,b.1.2.2.2.2.1,d.1,b.1.2.2.2.2.2.2) p.1 p.2.1 false).bind fun h=>some (h.1,true,())))))):=by kernel_rfl
def Ou:Any:=.one ⟨aku,gH,1,fun x=>EO F0 x.1 x.2.1 x.2.2.1⟩
def aiM:a1 162 Ou:=aq U0 ⟨cu,b8,PB,sS,AD,trivial⟩ func162 ad (by kernel_rfl)
def akL:=[(182,GV),(232,A9)]
abbrev aHs:List (Ty×Bool):=[(K1,true),(ca,true),(.int .i64,false)]
def sV (c:D1)(r:a7)(a:Int):=bj akL F ad f229 aHs aO 1 (c,r,a,())
def axe (c:D1)(r:a7)(a:Int):sV F c r a=(uh F0 r.2.2.2.2.2.1 a ak).bind fun b=>(FJ F0 c).bind fun d=>some (decide ((b.1.2.2.length:Int)>=d.1),()):=by kernel_rfl
def PC:Any:=.one ⟨aHs,aO,1,fun x=>sV F0 x.1 x.2.1 x.2.2.1⟩
def afW:a1 229 PC:=aq akL ⟨Xu,Rq,trivial⟩ func229 ad (by kernel_rfl)
def U1:=[(41,bA),(58,b2),(80,bO),(107,jA),(168,lM),(177,lh),(226,Jo),(228,A6),(229,PC)]
def EP (c:D1)(r:a7)(a:Int)(q:D9)(cw:Int):=bj U1 F ad f163 aEn gH 2 (c,r,a,q,cw,())
def aiN (c:D1)(r:a7)(b:Int)(q:D9)(cw:Int):EP F c r b q cw=(cq F0 c r).bind fun g=>br (!g.1) ((aB F0 r).bind fun d=>some (d.1,false,())) ((aZ F0 b 1 60).bind fun h=>br (!h.1) ((aB F0 r).bind fun d=>some (d.1,false,())) ((mD F0 c q).bind fun i=>br (!i.1) ((aB F0 r).bind fun d=>some (d.1,false,())) ((aZ F0 cw 0 (aj (c.1-1))).bind fun j=>br (!j.1) ((aB F0 r).bind fun d=>some (d.1,false,())) ((Rk F0 c r.2.2.2.1 q).bind fun k=>(wI F0 c r k.1).bind fun a=>br (!a.2.1) ((aB F0 r).bind fun l=>some (l.1,false,())) ((sT F0 c b).bind fun m=>br (m.1==r.1) (br (decide (b>=r.2.1)) ((eM F0 c a.1.2.2.2.2.2.1 (b,ak,[cw])).bind fun f=>br (!f.2.1) ((aB F0 r).bind fun o=>some (o.1,false,())) ((sV F0 c (a.1.1,(if (if 60<(aj (q.1+1)) then 60 else (aj (q.1+1)))>a.1.2.1 then (if 60<(aj (q.1+1)) then 60 else (aj (q.1+1))) else a.1.2.1,(a.1.2.2.1,a.1.2.2.2.1,a.1.2.2.2.2.1,f.1,a.1.2.2.2.2.2.2))) b).bind fun e=>br e.1 (some ((a.1.1,(if b>(if (if 60<(aj (q.1+1)) then 60 else (aj (q.1+1)))>a.1.2.1 then (if 60<(aj (q.1+1)) then 60 else (aj (q.1+1))) else a.1.2.1) then b else (if (if 60<(aj (q.1+1)) then 60 else (aj (q.1+1)))>a.1.2.1 then (if 60<(aj (q.1+1)) then 60 else (aj (q.1+1))) else a.1.2.1),(a.1.2.2.1,a.1.2.2.2.1,a.1.2.2.2.2.1,f.1,a.1.2.2.2.2.2.2))),true,())) (some ((a.1.1,(if (if 60<(aj (q.1+1)) then 60 else (aj (q.1+1)))>a.1.2.1 then (if 60<(aj (q.1+1)) then 60 else (aj (q.1+1))) else a.1.2.1,(a.1.2.2.1,a.1.2.2.2.1,a.1.2.2.2.2.1,f.1,a.1.2.2.2.2.2.2))),true,())))) ((sV F0 c (a.1.1,(if (if 60<(aj (q.1+1)) then 60 else (aj (q.1+1)))>a.1.2.1 then (if 60<(aj (q.1+1)) then 60 else (aj (q.1+1))) else a.1.2.1,a.1.2.2)) b).bind fun e=>br e.1 (some ((a.1.1,(if b>(if (if 60<(aj (q.1+1)) then 60 else (aj (q.1+1)))>a.1.2.1 then (if 60<(aj (q.1+1)) then 60 else (aj (q.1+1))) else a.1.2.1) then b else (if (if 60<(aj (q.1+1)) then 60 else (aj (q.1+1)))>a.1.2.1 then (if 60<(aj (q.1+1)) then 60 else (aj (q.1+1))) else a.1.2.1),a.1.2.2)),true,())) (some ((a.1.1,(if (if 60<(aj (q.1+1)) then 60 else (aj (q.1+1)))>a.1.2.1 then (if 60<(aj (q.1+1)) then 60 else (aj (q.1+1))) else a.1.2.1,a.1.2.2)),true,())))) ((sV F0 c (a.1.1,(if (if 60<(aj (q.1+1)) then 60 else (aj (q.1+1)))>a.1.2.1 then (if 60<(aj (q.1+1)) then 60 else (aj (q.1+1))) else a.1.2.1,a.1.2.2)) b).bind fun e=>br e.1 (some ((a.1.1,(if b>(if (if 60<(aj (q.1+1)) then 60 else (aj (q.1+1)))>a.1.2.1 then (if 60<(aj (q.1+1)) then 60 else (aj (q.1+1))) else a.1.2.1) then b else (if (if 60<(aj (q.1+1)) then 60 else (aj (q.1+1)))>a.1.2.1 then (if 60<(aj (q.1+1)) then 60 else (aj (q.1+1))) else a.1.2.1),a.1.2.2)),true,())) (some ((a.1.1,(if (if 60<(aj (q.1+1)) then 60 else (aj (q.1+1)))>a.1.2.1 then (if 60<(aj (q.1+1)) then 60 else (aj (q.1+1))) else a.1.2.1,a.1.2.2)),true,())))))))):=by kernel_rfl
def Ov:Any:=.one ⟨aEn,gH,2,fun x=>EP F0 x.1 x.2.1 x.2.2.1 x.2.2.2.1 x.2.2.2.2.1⟩
def aiO:a1 163 Ov:=aq U1 ⟨bW,cu,b8,nM,sU,sS,XV,Pz,afW,trivial⟩ func163 ad (by kernel_rfl)
def X0:=[(116,GX),(152,C1),(279,wY),(281,Fk)]
def Ju (p:D5)(x:D4):=bj X0 F ad f230 aEo WA 2 (p,x,())
def am3 (p:D5)(x:D4):Ju F p x=br (decide ((p4 (fun a=>Su a x) p 0)<0)) ((iV F0 p).bind fun b=>ck (akb (p.length:Int) b.1.length [x].length) ((xU F0 (b.1.take (p.length:Int).toNat++[x]++b.1.drop (p.length:Int).toNat)).bind fun c=>br (!c.1) ((iV F0 p).bind fun d=>some (d.1,false,())) (some (b.1.take (p.length:Int).toNat++[x]++b.1.drop (p.length:Int).toNat,true,())))) ((iV F0 p).bind fun b=>ck (akb (p4 (fun a=>Su a x) p 0) b.1.length [x].length) ((xU F0 (b.1.take (p4 (fun a=>Su a x) p 0).toNat++[x]++b.1.drop (p4 (fun a=>Su a x) p 0).toNat)).bind fun c=>br (!c.1) ((iV F0 p).bind fun d=>some (d.1,false,())) (some (b.1.take (p4 (fun a=>Su a x) p 0).toNat++[x]++b.1.drop (p4 (fun a=>Su a x) p 0).toNat,true,())))):=by kernel_rfl
def Ru:Any:=.one ⟨aEo,WA,2,fun x=>Ju F0 x.1 x.2.1⟩
def am4:a1 230 Ru:=aq X0 ⟨Xv,UI,Sw,ZN,trivial⟩ func230 ad (by kernel_rfl)
def abO:=[(58,b2),(80,bO),(230,Ru)]
def Ow (c:D1)(r:a7)(x:D4):=bj abO F ad f164 aEp gH 2 (c,r,x,())
def aqp (c:D1)(r:a7)(x:D4):Ow F c r x=(aB F0 r).bind fun a=>(cq F0 c r).bind fun d=>br (!d.1) (some (a.1,false,())) ((Ju F0 r.2.2.2.2.1 x).bind fun b=>some ((a.1.1,a.1.2.1,a.1.2.2.1,a.1.2.2.2.1,b.1,a.1.2.2.2.2.2),b.2.1,())):=by kernel_rfl
def U2:Any:=.one ⟨aEp,gH,2,fun x=>Ow F0 x.1 x.2.1 x.2.2.1⟩
def aqq:a1 164 U2:=aq abO ⟨cu,b8,am4,trivial⟩ func164 ad (by kernel_rfl)
def sW:=[(222,hZ)]
def sX:Nat->Option Hint:=look [(3,{live:=[1,5,8,9,10],mat:=[(5,50,K9)],xl:=[5],rl:=[4]})]
def j1 (a:Int)(b:List D9)(c d:Int)(e:List D9):= cQ 25 [(1,a8 a),(5,.v (.c (.own 1000000 none))),(8,hV 50 (K9) b),(9,a8 c),(10,a8 d)] [] [ay 1000000 50 K9 e]
def HY (a:List D9):= cQ 25 [(5,.v (.c (.own 1000000 none)))] [] [ay 1000000 50 K9 a]
def mW (a:St):Option U:=ff sW F sX [.r,.r,.l,.r,.b,.i] f165 J n a
def wK:=hQ sW F sX [.r,.r,.l,.r,.b] f165 Hp 2
def B4 (d:Int)(b:List D9)(e a:Int)(c:List D9):mW F J (n+1) (j1 d b e a c)=br (decide (a<e)) (ck (bG a (b.length:Int)) (br (decide ((aI b a K9.az).1>=d)) ((fp F0 (aI b a K9.az)).bind fun f=>ck (ep F c.length [f.1].length 48) (mW F J n (j1 d b e (aj (a+1)) (c++[f.1])))) (mW F J n (j1 d b e (aj (a+1)) c)))) (J (.exit 0) (HY c)):=by kernel_rfl
def X1 (a:List D9):wK F (.exit 0) (HY a)=some (a,()):=by kernel_rfl
def hI (a:D13)(b:Int):=bj sW F sX f165 aEq Hp 2 (a,b,())
def afX (a:D13)(b:Int):hI F a b=mW F (wK F) F.n (j1 b a (a.length:Int) 0 []):=by kernel_rfl
def LP:Any:=.one ⟨aEq,Hp,2,fun x=>hI F0 x.1 x.2.1⟩
def afY:a1 165 LP:=aq sW ⟨mR,trivial⟩ func165 sX (by kernel_rfl)
def sY:Nat->Option Hint:=look [(3,{live:=[0,1,2],yh:=[(0,0,3,.int .i64),(0,1,3,.int .i64),(1,0,3,.int .i64)],xl:=[0,1],rl:=[0]})]
def gq (i:Int)(d a b c:List Int):= cQ 15 [b0 0,b0 1,(2,a8 i)] [(0,[.own 1000000 none,.own 1000001 none]),(1,[.own 1000002 none,.own 1000003 none])] [ay 1000000 3 (.int .i64) d,ay 1000001 3 (.int .i64) a,ay 1000002 3 (.int .i64) b,ay 1000003 3 (.int .i64) c]
def HZ (d a b c:List Int):= cQ 15 [b0 0,b0 1] [(0,[.own 1000000 none,.own 1000001 none]),(1,[.own 1000002 none,.own 1000003 none])] [ay 1000000 3 (.int .i64) d,ay 1000001 3 (.int .i64) a,ay 1000002 3 (.int .i64) b,ay 1000003 3 (.int .i64) c]
def jL (a:St):Option U:=ff aA F sY [.r,.r,.l,.r,.b,.i] f87 J n a
def j2:=hQ aA F sY [.r,.r,.l,.r,.b] f87 nq 2
def B5 (i:Int)(d b a c:List Int):jL F J (n+1) (gq i d b a c)=br (decide (i<4)) (ck (ep F a.length [100].length 8) (jL F J n (gq (aj (i+1)) d b (a++[100]) c))) (J (.exit 0) (HZ d b a c)):=by kernel_rfl
def X2 (d c a b:List Int):j2 F (.exit 0) (HZ d c a b)=some ((a,b),()):=by kernel_rfl
def j3: Option (Args nq):=bj aA F sY f87 [] nq 2 (())
def afZ: j3 F= ck (okM F 4 4 8) (jL F (j2 F) F.n (gq 0 [] [] [] (List.replicate (4:Int).toNat 0))):=by kernel_rfl
def n5:Any:=.one ⟨[],nq,2,fun x=>j3 F0⟩
def Bd:a1 87 n5:=aq aA trivial func87 sY (by kernel_rfl)
def Jv:=[(109,ra)]
def Jw:Nat->Option Hint:=look [(4,{live:=[5,13,14,15],mat:=[(5,52,K4)],xl:=[5],rl:=[2]})]
def Be (b c:Int)(d:List D4)(a:List D6):= cQ 25 [(5,.v (.c (.own 1000000 none))),(13,.v (.c (.own 1000001 none))),(14,a8 b),(15,a8 c)] [] [ay 1000000 52 K4 d,ay 1000001 157 K6 a]
def U3 (a:List D4):= cQ 25 [(5,.v (.c (.own 1000000 none)))] [] [ay 1000000 52 K4 a]
def Jx (a:St):Option U:=ff Jv F Jw [.r,.r,.r,.l,.r,.b,.i] f85 J n a
def LQ:=hQ Jv F Jw [.r,.r,.r,.l,.r,.b] f85 km 2
def Ox (d a:Int)(c:List D4)(b:List D6):Jx F J (n+1) (Be d a c b)=br (decide (a<d)) (ck (bG a (b.length:Int)) (ck (ep F c.length (aI b a (0,[])).2.length 32) (Jx F J n (Be d (aj (a+1)) (c++(aI b a (0,[])).2) b)))) (J (.exit 0) (U3 c)):=by kernel_rfl
def aiP (a:List D4):LQ F (.exit 0) (U3 a)=some (a,()):=by kernel_rfl
def ry (s:ByteArray):=bj Jv F Jw f85 dC km 2 (s,())
def atu (s:ByteArray):ry F s=(q9 F0 s).bind fun a=>Jx F (LQ F) F.n (Be (a.1.length:Int) 0 [] a.1):=by kernel_rfl
def Bf:Any:=.one ⟨dC,km,2,fun x=>ry F0 x.1⟩
def PD:a1 85 Bf:=aq Jv ⟨Es,trivial⟩ func85 Jw (by kernel_rfl)
def Oy:=[(29,fz)]
def kG (l:D43):=bj Oy F ad f157 nq nq 2 (l,())
def adj (l:D43):kG F l=(ea F0 l.1).bind fun a=>(ea F0 l.2).bind fun b=>some ((a.1,b.1),()):=by kernel_rfl
def tD:Any:=.one ⟨nq,nq,2,fun x=>kG F0 x.1⟩
def LR:a1 157 tD:=aq Oy ⟨jI,trivial⟩ func157 ad (by kernel_rfl)
def sZ:=[(41,bA)]
def s0:Nat->Option Hint:=look [(2,{live:=[1,2,9,10,11],rl:=[6]})]
def n6 (low high:Int)(a:List Int)(b c:Int):= bP 21 [(1,a8 low),(2,a8 high),(9,hV 3 (.int .i64) a),(10,a8 b),(11,a8 c)]
def LS (a:Bool):= bP 21 [(6,Ir a)]
def H0   := bP 21 []
def s4 (a:St):Option U:=ff sZ F s0 [.r,.l,.r,.b,.i] f274 J n a
def n7:=hQ sZ F s0 [.r,.l,.r,.b] f274 aO 1
def B6 (low high:Int)(b:List Int)(c a:Int):s4 F J (n+1) (n6 low high b c a)=br (decide (a<c)) (ck (bG a (b.length:Int)) ((aZ F0 (aI b a 0) low high).bind fun d=>br (!d.1) (J .ret (LS false)) (s4 F J n (n6 low high b c (aj (a+1)))))) (J (.exit 0) (H0)):=by kernel_rfl
def Z6 (a:Bool):n7 F .ret (LS a)=some (a,()):=by kernel_rfl
def X3: n7 F (.exit 0) (H0)=some (true,()):=by kernel_rfl
abbrev aKI:List (Ty×Bool):=[(.sl 3 (.int .i64),false),(.int .i64,false),(.int .i64,false)]
def rz (a:List Int)(low high:Int):=bj sZ F s0 f274 aKI aO 1 (a,low,high,())
def af0 (a:List Int)(low high:Int):rz F a low high=s4 F (n7 F) F.n (n6 low high a (a.length:Int) 0):=by kernel_rfl
def LU:Any:=.one ⟨aKI,aO,1,fun x=>rz F0 x.1 x.2.1 x.2.2.1⟩
def af1:a1 274 LU:=aq sZ ⟨bW,trivial⟩ func274 s0 (by kernel_rfl)
def U4:=[(274,LU)]
def uk (l:D43):=bj U4 F ad f225 nq aO 1 (l,())
def aiQ (l:D43):uk F l=br ((l.1.length:Int)==4) (br ((l.2.length:Int)==4) ((rz F0 l.1 0 400).bind fun a=>br a.1 ((rz F0 l.2 0 100).bind fun b=>some (b.1,())) (some (false,()))) (some (false,()))) (some (false,())):=by kernel_rfl
def Oz:Any:=.one ⟨nq,aO,1,fun x=>uk F0 x.1⟩
def aiR:a1 225 Oz:=aq U4 ⟨af1,trivial⟩ func225 ad (by kernel_rfl)
def aqr:=[(104,jz),(157,tD),(225,Oz)]
def LV (l:D43)(x:D4):=bj aqr F ad f158 aEc aEb 2 (l,x,())
def azq (l:D43)(x:D4):LV F l x=(kG F0 l).bind fun a=>(uk F0 l).bind fun b=>br (!b.1) (some (a.1,1,())) ((o4 F0 x).bind fun c=>br (!c.1) (some (a.1,1,())) (ck (bG x.1 (l.2.length:Int)) (br (decide (x.2.2.2<(aI l.2 x.1 0))) (some (a.1,2,())) (ck (bG x.1 (l.2.length:Int)) (br (decide (x.2.2.2>(aI l.2 x.1 0))) (some (a.1,3,())) (ck (bG x.1 (a.1.2.length:Int)) (ck (bG x.1 (a.1.2.length:Int)) (ck (bG x.1 (l.1.length:Int)) (br (decide (x.2.2.1>(aI l.1 x.1 0))) (some ((a.1.1,a.1.2.set x.1.toNat (aj ((aI a.1.2 x.1 0)+1))),4,())) (ck (bG x.1 (a.1.1.length:Int)) (ck (bG x.1 (a.1.1.length:Int)) (ck (bG x.2.1 ((a.1.1.set x.1.toNat (aj ((aI a.1.1 x.1 0)-x.2.2.1))).length:Int)) (ck (bG x.2.1 ((a.1.1.set x.1.toNat (aj ((aI a.1.1 x.1 0)-x.2.2.1))).length:Int)) ((uk F0 ((a.1.1.set x.1.toNat (aj ((aI a.1.1 x.1 0)-x.2.2.1))).set x.2.1.toNat (aj ((aI (a.1.1.set x.1.toNat (aj ((aI a.1.1 x.1 0)-x.2.2.1))) x.2.1 0)+x.2.2.1)),a.1.2.set x.1.toNat (aj ((aI a.1.2 x.1 0)+1)))).bind fun d=>br (!d.1) ((kG F0 l).bind fun e=>some (e.1,1,())) (some (((a.1.1.set x.1.toNat (aj ((aI a.1.1 x.1 0)-x.2.2.1))).set x.2.1.toNat (aj ((aI (a.1.1.set x.1.toNat (aj ((aI a.1.1 x.1 0)-x.2.2.1))) x.2.1 0)+x.2.2.1)),a.1.2.set x.1.toNat (aj ((aI a.1.2 x.1 0)+1))),0,())))))))))))))))):=by kernel_rfl
def Jy:Any:=.one ⟨aEc,aEb,2,fun x=>LV F0 x.1 x.2.1⟩
def X4:a1 158 Jy:=aq aqr ⟨nL,LR,aiR,trivial⟩ func158 ad (by kernel_rfl)
def ER:=[(157,tD),(158,Jy)]
def ES:Nat->Option Hint:=look [(4,{live:=[4,6,7,14,15,16],mat:=[(7,3,.int .i64)],yh:=[(4,0,3,.int .i64),(4,1,3,.int .i64)],xl:=[4,6,7],rl:=[4,5]})]
def vL (e:List D4)(f g:Int)(h a b c d:List Int):= cQ 34 [b0 4,b0 6,(7,.v (.c (.own 1000000 none))),(14,hV 52 (K4) e),(15,a8 f),(16,a8 g)] [(4,[.own 1000001 none,.own 1000002 none]),(6,[.own 1000003 none,.own 1000004 none])] [ay 1000000 3 (.int .i64) h,ay 1000001 3 (.int .i64) a,ay 1000002 3 (.int .i64) b,ay 1000003 3 (.int .i64) c,ay 1000004 3 (.int .i64) d]
def Rv (e a b c d:List Int):= cQ 34 [b0 4,b0 6,(7,.v (.c (.own 1000000 none)))] [(4,[.own 1000001 none,.own 1000002 none]),(6,[.own 1000003 none,.own 1000004 none])] [ay 1000000 3 (.int .i64) e,ay 1000001 3 (.int .i64) a,ay 1000002 3 (.int .i64) b,ay 1000003 3 (.int .i64) c,ay 1000004 3 (.int .i64) d]
def ET (a:St):Option U:=ff ER F ES [.r,.r,.r,.l,.r,.b,.i] f86 J n a
def G7:=hQ ER F ES [.r,.r,.r,.l,.r,.b] f86 auB 2
def LW (c:List D4)(i a:Int)(d e f g h:List Int):ET F J (n+1) (vL c i a d e f g h)=br (decide (a<i)) (ck (bG a (c.length:Int)) ((LV F0 (g,h) (aI c a K4.az)).bind fun b=>ck (ep F d.length [b.2.1].length 8) (ET F J n (vL c i (aj (a+1)) (d++[b.2.1]) e f b.1.1 b.1.2)))) (J (.exit 0) (Rv d e f g h)):=by kernel_rfl
def af2 (c d e a b:List Int):G7 F (.exit 0) (Rv c d e a b)=some ((a,b),c,()):=by kernel_rfl
def rA (l:D43)(a:D5):=bj ER F ES f86 aEd auB 2 (l,a,())
def aqs (l:D43)(a:D5):rA F l a=(kG F0 l).bind fun b=>ET F (G7 F) F.n (vL a (a.length:Int) 0 [] [] [] b.1.1 b.1.2):=by kernel_rfl
def vM:Any:=.one ⟨aEd,auB,2,fun x=>rA F0 x.1 x.2.1⟩
def LX:a1 86 vM:=aq ER ⟨LR,X4,trivial⟩ func86 ES (by kernel_rfl)
def af3:=[(58,b2),(85,Bf),(86,vM),(87,n5)]
def lN (c:D1)(r:a7):=bj af3 F ad f84 x8 nq 2 (c,r,())
def atv (c:D1)(r:a7):lN F c r=(cq F0 c r).bind fun a=>br (!a.1) (some (([],[]),())) ((j3 F0).bind fun b=>(ry F0 r.2.2.2.1.2.2.2).bind fun d=>(rA F0 b.1 d.1).bind fun e=>some (e.1,())):=by kernel_rfl
def LY:Any:=.one ⟨x8,nq,2,fun x=>lN F0 x.1 x.2.1⟩
def abP:a1 84 LY:=aq af3 ⟨cu,PD,LX,Bd,trivial⟩ func84 ad (by kernel_rfl)
def vN:=[(158,Jy)]
def vO:Nat->Option Hint:=look [(3,{live:=[3,5,10,11,12],mat:=[(5,52,K4)],xl:=[5],rl:=[4]})]
def ll (b:List D4)(c d:Int)(l a:List Int)(e:List D4):= cQ 30 [b0 3,(5,.v (.c (.own 1000000 none))),(10,hV 52 (K4) b),(11,a8 c),(12,a8 d)] [(3,[.ro false 3 (.int .i64) l,.ro false 3 (.int .i64) a])] [ay 1000000 52 K4 e]
def LZ (a:List D4):= cQ 30 [(5,.v (.c (.own 1000000 none)))] [] [ay 1000000 52 K4 a]
def oM (a:St):Option U:=ff vN F vO [.r,.r,.l,.r,.b,.i] f166 J n a
def Bg:=hQ vN F vO [.r,.r,.l,.r,.b] f166 km 2
def FX (b:List D4)(e a:Int)(l d:List Int)(c:List D4):oM F J (n+1) (ll b e a l d c)=br (decide (a<e)) (ck (bG a (b.length:Int)) ((LV F0 (l,d) (aI b a K4.az)).bind fun f=>br (f.2.1 != 2) (ck (ep F c.length [(aI b a K4.az)].length 32) (oM F J n (ll b e (aj (a+1)) l d (c++[(aI b a K4.az)])))) (oM F J n (ll b e (aj (a+1)) l d c)))) (J (.exit 0) (LZ c)):=by kernel_rfl
def Z7 (a:List D4):Bg F (.exit 0) (LZ a)=some (a,()):=by kernel_rfl
def jB (p:D5)(l:D43):=bj vN F vO f166 akp km 2 (p,l,())
def aiS (p:D5)(l:D43):jB F p l=oM F (Bg F) F.n (ll p (p.length:Int) 0 l.1 l.2 []):=by kernel_rfl
def OA:Any:=.one ⟨akp,km,2,fun x=>jB F0 x.1 x.2.1⟩
def aiT:a1 166 OA:=aq vN ⟨X4,trivial⟩ func166 vO (by kernel_rfl)
def akM:=[(80,bO),(84,LY),(119,mG),(161,wJ),(162,Ou),(163,Ov),(164,U2),(165,LP),(166,OA)]
def J1 (c:D1)(r:a7)(m:Po):=bj akM F ad f96 aa9 gH 1 (c,r,m,())
def axf (c:D1)(r:a7)(m:Po):J1 F c r m=(gm F0 c m).bind fun j=>br (!j.1) ((aB F0 r).bind fun k=>some (k.1,false,())) (br (m.1==1) ((rv F0 c r m.2.2.1).bind fun a=>br (!a.2.1) ((aB F0 r).bind fun g=>some (g.1,false,())) ((hI F0 a.1.2.2.2.2.2.1 (aj (a.1.2.1-1))).bind fun f=>(lN F0 c (a.1.1,a.1.2.1,a.1.2.2.1,a.1.2.2.2.1,a.1.2.2.2.2.1,f.1,a.1.2.2.2.2.2.2)).bind fun h=>(jB F0 a.1.2.2.2.2.1 h.1).bind fun i=>some ((a.1.1,a.1.2.1,a.1.2.2.1,a.1.2.2.2.1,i.1,f.1,a.1.2.2.2.2.2.2),true,()))) (br (m.1==2) ((EO F0 c r m.2.2.2.1).bind fun b=>br (!b.2.1) ((aB F0 r).bind fun g=>some (g.1,false,())) ((hI F0 b.1.2.2.2.2.2.1 (aj (b.1.2.1-1))).bind fun f=>(lN F0 c (b.1.1,b.1.2.1,b.1.2.2.1,b.1.2.2.2.1,b.1.2.2.2.2.1,f.1,b.1.2.2.2.2.2.2)).bind fun h=>(jB F0 b.1.2.2.2.2.1 h.1).bind fun i=>some ((b.1.1,b.1.2.1,b.1.2.2.1,b.1.2.2.2.1,i.1,f.1,b.1.2.2.2.2.2.2),true,()))) (br (m.1==3) ((EP F0 c r m.2.1 m.2.2.2.2.1 m.2.2.2.2.2.1).bind fun d=>br (!d.2.1) ((aB F0 r).bind fun g=>some (g.1,false,())) ((hI F0 d.1.2.2.2.2.2.1 (aj (d.1.2.1-1))).bind fun f=>(lN F0 c (d.1.1,d.1.2.1,d.1.2.2.1,d.1.2.2.2.1,d.1.2.2.2.2.1,f.1,d.1.2.2.2.2.2.2)).bind fun h=>(jB F0 d.1.2.2.2.2.1 h.1).bind fun i=>some ((d.1.1,d.1.2.1,d.1.2.2.1,d.1.2.2.2.1,i.1,f.1,d.1.2.2.2.2.2.2),true,()))) ((Ow F0 c r m.2.2.2.2.2.2).bind fun e=>br (!e.2.1) ((aB F0 r).bind fun g=>some (g.1,false,())) ((hI F0 e.1.2.2.2.2.2.1 (aj (e.1.2.1-1))).bind fun f=>(lN F0 c (e.1.1,e.1.2.1,e.1.2.2.1,e.1.2.2.2.1,e.1.2.2.2.2.1,f.1,e.1.2.2.2.2.2.2)).bind fun h=>(jB F0 e.1.2.2.2.2.1 h.1).bind fun i=>some ((e.1.1,e.1.2.1,e.1.2.2.1,e.1.2.2.2.1,i.1,f.1,e.1.2.2.2.2.2.2),true,())))))):=by kernel_rfl
def PE:Any:=.one ⟨aa9,gH,1,fun x=>J1 F0 x.1 x.2.1 x.2.2.1⟩
def af4:a1 96 PE:=aq akM ⟨b8,abP,ua,Ot,aiM,aiO,aqq,afY,aiT,trivial⟩ func96 ad (by kernel_rfl)
def EU:=[(51,cN),(93,eA)]
def EV:Nat->Option Hint:=look [(2,{live:=[0,1,2,3,13,14,15],rl:=[10]})]
def oN (liars:List Int)(a:List bE)(b:Int)(name:ByteArray)(c:List Int)(d e:Int):= bP 33 [(0,hV 3 (.int .i64) liars),(1,hV 41 (cl) a),(2,a8 b),(3,qqs name),(13,hV 3 (.int .i64) c),(14,a8 d),(15,a8 e)]
def U5 (a:Bool):= bP 33 [(10,Ir a)]
def Rw   := bP 33 []
def um (a:St):Option U:=ff EU F EV [.r,.l,.r,.b,.i] f167 J n a
def vP:=hQ EU F EV [.r,.l,.r,.b] f167 aO 1
def L0 (liars:List Int)(c:List bE)(d:Int)(name:ByteArray)(b:List Int)(e a:Int):um F J (n+1) (oN liars c d name b e a)=br (decide (a<e)) (ck (bG a (b.length:Int)) ((c7 F0 liars (aI b a 0)).bind fun f=>br (!f.1) ((c9 F0 c (d,name,aI b a 0)).bind fun g=>br (!g.1) (J .ret (U5 false)) (um F J n (oN liars c d name b e (aj (a+1))))) (um F J n (oN liars c d name b e (aj (a+1)))))) (J (.exit 0) (Rw)):=by kernel_rfl
def aiU (a:Bool):vP F .ret (U5 a)=some (a,()):=by kernel_rfl
def af5: vP F (.exit 0) (Rw)=some (true,()):=by kernel_rfl
def x2 (liars:List Int)(a:D38)(b:Int)(name:ByteArray)(cw:List Int):=bj EU F EV f167 aEr aO 1 (liars,a,b,name,cw,())
def aqt (liars:List Int)(a:D38)(b:Int)(name:ByteArray)(cw:List Int):x2 F liars a b name cw=um F (vP F) F.n (oN liars a b name cw (cw.length:Int) 0):=by kernel_rfl
def U6:Any:=.one ⟨aEr,aO,1,fun x=>x2 F0 x.1 x.2.1 x.2.2.1 x.2.2.2.1 x.2.2.2.2.1⟩
def aqu:a1 167 U6:=aq EU ⟨dQ,iw,trivial⟩ func167 EV (by kernel_rfl)
def abQ:=[(49,eb),(51,cN),(55,kD),(119,mG),(167,U6),(168,lM),(169,CQ)]
def OB (c:D1)(liars:List Int)(a:D38)(m:Po):=bj abQ F ad f97 aEs aO 1 (c,liars,a,m,())
def aqv (c:D1)(liars:List Int)(a:D38)(m:Po):OB F c liars a m=(gm F0 c m).bind fun f=>br (!f.1) (some (false,())) (br (m.1==4) (some (true,())) (br (m.1==2) ((x2 F0 liars a m.2.2.2.1.1 m.2.2.2.1.2.1 m.2.2.2.1.2.2).bind fun g=>some (g.1,())) (br (m.1==1) ((ew F0 m.2.2.1.1).bind fun h=>(sT F0 c h.1).bind fun i=>(c7 F0 liars i.1).bind fun j=>br (!j.1) (some (false,())) ((sv F0).bind fun b=>(jy F0 m.2.2.1.2 b.1).bind fun d=>br d.1 (some (true,())) ((x2 F0 liars a m.2.2.1.2.1 m.2.2.1.2.2.1 m.2.2.1.2.2.2).bind fun e=>some (e.1,())))) ((c7 F0 liars m.2.2.2.2.2.1).bind fun k=>br (!k.1) (some (false,())) ((sv F0).bind fun b=>(jy F0 m.2.2.2.2.1 b.1).bind fun d=>br d.1 (some (true,())) ((x2 F0 liars a m.2.2.2.2.1.1 m.2.2.2.2.1.2.1 m.2.2.2.2.1.2.2).bind fun e=>some (e.1,()))))))):=by kernel_rfl
def U7:Any:=.one ⟨aEs,aO,1,fun x=>OB F0 x.1 x.2.1 x.2.2.1 x.2.2.2.1⟩
def aqw:a1 97 U7:=aq abQ ⟨fA,dQ,q8,ua,aqu,sU,Uy,trivial⟩ func97 ad (by kernel_rfl)
def X5:=[(17,fY),(35,gp),(51,cN),(59,AO),(81,AT),(95,yn),(96,PE),(97,U7),(98,A0)]
def X6:Nat->Option Hint:=look [(900015,{live:=[],mat:=[(2,0,hU)]})]
def n8 (w:lE)(d:D45):=bj X5 F X6 f44 afo abI 0 (w,d,())
def am5 (w:lE)(d:D45):n8 F w d=(aS F0 w).bind fun a=>br (d.1==3) (ck (bG d.2.1 (w.2.2.2.1.length:Int)) (ck (Tx d.2.1 (aj (d.2.1+1)) (a.1.2.2.2.1.length:Int)) ((CY F0 w.1 (aI w.2.2.2.1 d.2.1 (0,[])).2).bind fun b=>br b.2.1 ((hH F0 w).bind fun f=>(c7 F0 f.1 (aI w.2.2.2.1 d.2.1 (0,[])).1).bind fun g=>br g.1 (ck (bG (aI w.2.2.2.1 d.2.1 (0,[])).1 (w.2.2.1.length:Int)) ((J1 F0 w.1 (aI w.2.2.1 (aI w.2.2.2.1 d.2.1 (0,[])).1 ca.az) b.1).bind fun h=>ck (bG (aI w.2.2.2.1 d.2.1 (0,[])).1 (a.1.2.2.1.length:Int)) (some ((a.1.1,a.1.2.1,a.1.2.2.1.set (aI w.2.2.2.1 d.2.1 (0,[])).1.toNat h.1,a.1.2.2.2.1.take d.2.1.toNat++a.1.2.2.2.1.drop (aj (d.2.1+1)).toNat,a.1.2.2.2.2),0,())))) (some ((a.1.1,a.1.2.1,a.1.2.2.1,a.1.2.2.2.1.take d.2.1.toNat++a.1.2.2.2.1.drop (aj (d.2.1+1)).toNat,a.1.2.2.2.2),0,()))) (some ((a.1.1,a.1.2.1,a.1.2.2.1,a.1.2.2.2.1.take d.2.1.toNat++a.1.2.2.2.1.drop (aj (d.2.1+1)).toNat,a.1.2.2.2.2),0,()))))) (br (d.1==4) (ck (Tx d.2.1 (aj (d.2.1+1)) (a.1.2.2.2.1.length:Int)) (some ((a.1.1,a.1.2.1,a.1.2.2.1,a.1.2.2.2.1.take d.2.1.toNat++a.1.2.2.2.1.drop (aj (d.2.1+1)).toNat,a.1.2.2.2.2),0,()))) (br (d.1==5) (ck (bG d.2.1 (w.2.2.2.1.length:Int)) ((uc F0 (aI w.2.2.2.1 d.2.1 (0,[]))).bind fun c=>ck (ep F a.1.2.2.2.1.length [c.1].length 32) (some ((a.1.1,a.1.2.1,a.1.2.2.1,a.1.2.2.2.1++[c.1],a.1.2.2.2.2),0,())))) ((OB F0 w.1 w.2.1 w.2.2.2.2 d.2.2.2).bind fun i=>br (!i.1) (some (w,5,())) ((uf F0 w.1 d.2.2.2).bind fun e=>ck (ep F a.1.2.2.2.1.length [(d.2.1,e.1)].length 32) (some ((a.1.1,a.1.2.1,a.1.2.2.1,a.1.2.2.2.1++[(d.2.1,e.1)],a.1.2.2.2.2),0,())))))):=by kernel_rfl
def Rx:Any:=.one ⟨afo,abI,0,fun x=>n8 F0 x.1 x.2.1⟩
def am6:a1 44 Rx:=aq X5 ⟨j0,k9,dQ,Pv,Q7,Vq,af4,aqw,Rf,trivial⟩ func44 X6 (by kernel_rfl)
end
end Go.Am.Tryz
