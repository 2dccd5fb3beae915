/- No condition. -/
import Derived.Test.YtnllfndlcahalaaGreatDoorQoWJG5
set_option linter.all false
set_option maxRecDepth 100000
namespace Go.Am.Tryz
open Go.Am Go.Proofs Go.Proofs.Tryz
noncomputable section
variable {U:Type} (F:rz) (J:Ex->St->Option U) (n:Nat)
def ij:=[(90,QL),(91,Xi),(92,GI),(93,ew),(94,aa4)]
def ik:Nat->Option Hint:=look [(4,{live:=[1,2,4,6,7,8,28,29,30],x3:=[(4,2,3,.int .i64),(4,3,65,cd),(4,4,105,eh),(4,5,41,cz)],xl:=[1,2,4,6,7,8],rl:=[4,5]}),(7,{live:=[1,2,4,6,7,8,28,29,30,37,38,39],xl:=[1,2,4,6,7,8,28,29,30],rl:=[4,5]})]
def pH (a H I K L w b:Int)(c:List Int)(d:List a1)(e:List bS)(f:List bE)(M N r g h i j k:Int)(l m:ByteArray)(o O p:Int)(P:List ll)(q:List bE)(s:List Int)(t:List a1)(u:List bS)(v:List bE)(x:List Int)(y:List D4)(z:List D9)(A:List Int)(B:List ll)(C:List Int)(D:List a1)(E:List bS)(G:List bE):= cQ 67 [(1,a8 a),b0 2,b0 4,b0 6,(7,.v (.c (.own 1000000 none))),b0 8,(28,.v (.c (.own 1000000 none))),(29,a8 H),(30,a8 I),(37,.v (.c (.own 1000001 none))),(38,a8 K),(39,a8 L)] [(2,[ao w,ao b,.ro false 3 (.int .i64) c,.ro false 65 (cd) d,.ro false 105 (eh) e,.ro false 41 (cz) f]),(4,[ao M,ao N,.own 1000002 none,.own 1000003 none,.own 1000004 none,.own 1000005 none]),(6,[ao r,ao g,ao h,ao i,ao j,ao k,.str l,.own 1000006 none,.str m,.own 1000007 none,.own 1000008 none,.own 1000009 none,ao o,.own 1000010 none]),(8,[ao O,ao p,.own 1000011 none,.own 1000012 none,.own 1000013 none,.own 1000014 none])] [ay 1000000 136 pS P,ay 1000001 41 cz q,ay 1000002 3 (.int .i64) s,ay 1000003 65 cd t,ay 1000004 105 eh u,ay 1000005 41 cz v,ay 1000006 3 (.int .i64) x,ay 1000007 52 K4 y,ay 1000008 50 K9 z,ay 1000009 5 (.int .u8) A,ay 1000010 136 pS B,ay 1000011 3 (.int .i64) C,ay 1000012 65 cd D,ay 1000013 105 eh E,ay 1000014 41 cz G]
def NP (a b c:Int)(d:List Int)(e:List a1)(f:List bS)(g:List bE):= cQ 67 [b0 4,(5,a8 a)] [(4,[ao b,ao c,.ro false 3 (.int .i64) d,.ro false 65 (cd) e,.ro false 105 (eh) f,.ro false 41 (cz) g])] []
def Lk (a G H w b:Int)(c:List Int)(d:List a1)(e:List bS)(f:List bE)(I K r g h i j k:Int)(l m:ByteArray)(o L p:Int)(M:List ll)(q:List Int)(s:List a1)(t:List bS)(u:List bE)(v:List Int)(x:List D4)(y:List D9)(z:List Int)(A:List ll)(B:List Int)(C:List a1)(D:List bS)(E:List bE):= cQ 67 [(1,a8 a),b0 2,b0 4,b0 6,(7,.v (.c (.own 1000000 none))),b0 8,(28,.v (.c (.own 1000000 none))),(29,a8 G),(30,a8 H)] [(2,[ao w,ao b,.ro false 3 (.int .i64) c,.ro false 65 (cd) d,.ro false 105 (eh) e,.ro false 41 (cz) f]),(4,[ao I,ao K,.own 1000001 none,.own 1000002 none,.own 1000003 none,.own 1000004 none]),(6,[ao r,ao g,ao h,ao i,ao j,ao k,.str l,.own 1000005 none,.str m,.own 1000006 none,.own 1000007 none,.own 1000008 none,ao o,.own 1000009 none]),(8,[ao L,ao p,.own 1000010 none,.own 1000011 none,.own 1000012 none,.own 1000013 none])] [ay 1000000 136 pS M,ay 1000001 3 (.int .i64) q,ay 1000002 65 cd s,ay 1000003 105 eh t,ay 1000004 41 cz u,ay 1000005 3 (.int .i64) v,ay 1000006 52 K4 x,ay 1000007 50 K9 y,ay 1000008 5 (.int .u8) z,ay 1000009 136 pS A,ay 1000010 3 (.int .i64) B,ay 1000011 65 cd C,ay 1000012 105 eh D,ay 1000013 41 cz E]
def vu (a:St):Option U:=e9 ij F ik [.r,.r,.r,.l,.r,.b,.i,.r,.r,.l,.b,.r,.r,.b,.i] f43 J n a
def pI:Ex->St->Option U:=Vy Tryz.prog (look ij) F ik [.r,.r,.l,.b,.r,.r,.b] (sub [.r,.r,.r,.l,.r,.b,.i] (eU f43)) (itk Tryz.prog (look ij) F ik (sub [.r,.r,.r,.l,.r,.b,.i] (eU f43)) J n)
def k3 (a G H w b:Int)(c:List Int)(d:List a1)(e:List bS)(f:List bE)(I K r g h i j k:Int)(l m:ByteArray)(o L p:Int)(M:List ll)(q:List Int)(s:List a1)(t:List bS)(u:List bE)(v:List Int)(x:List D4)(y:List D9)(z:List Int)(A:List ll)(B:List Int)(C:List a1)(D:List bS)(E:List bE):= cQ 67 [(1,a8 a),b0 2,b0 4,b0 6,(7,.v (.c (.own 1000000 none))),b0 8,(28,.v (.c (.own 1000000 none))),(29,a8 G),(30,a8 H)] [(2,[ao w,ao b,.ro false 3 (.int .i64) c,.ro false 65 (cd) d,.ro false 105 (eh) e,.ro false 41 (cz) f]),(4,[ao I,ao K,.own 1000001 none,.own 1000002 none,.own 1000003 none,.own 1000004 none]),(6,[ao r,ao g,ao h,ao i,ao j,ao k,.str l,.own 1000005 none,.str m,.own 1000006 none,.own 1000007 none,.own 1000008 none,ao o,.own 1000009 none]),(8,[ao L,ao p,.own 1000010 none,.own 1000011 none,.own 1000012 none,.own 1000013 none])] [ay 1000000 136 pS M,ay 1000001 3 (.int .i64) q,ay 1000002 65 cd s,ay 1000003 105 eh t,ay 1000004 41 cz u,ay 1000005 3 (.int .i64) v,ay 1000006 52 K4 x,ay 1000007 50 K9 y,ay 1000008 5 (.int .u8) z,ay 1000009 136 pS A,ay 1000010 3 (.int .i64) B,ay 1000011 65 cd C,ay 1000012 105 eh D,ay 1000013 41 cz E]
def NQ (a b c:Int)(d:List Int)(e:List a1)(f:List bS)(g:List bE):= cQ 67 [b0 4,(5,a8 a)] [(4,[ao b,ao c,.ro false 3 (.int .i64) d,.ro false 65 (cd) e,.ro false 105 (eh) f,.ro false 41 (cz) g])] []
def wv (a w b:Int)(c:List Int)(d:List a1)(e:List bS)(f:List bE)(G H r g h i j k:Int)(l m:ByteArray)(o I p:Int)(K:List ll)(q:List Int)(s:List a1)(t:List bS)(u:List bE)(v:List Int)(x:List D4)(y:List D9)(z:List Int)(A:List ll)(B:List Int)(C:List a1)(D:List bS)(E:List bE):= cQ 67 [(1,a8 a),b0 2,b0 4,b0 6,(7,.v (.c (.own 1000000 none))),b0 8] [(2,[ao w,ao b,.ro false 3 (.int .i64) c,.ro false 65 (cd) d,.ro false 105 (eh) e,.ro false 41 (cz) f]),(4,[ao G,ao H,.own 1000001 none,.own 1000002 none,.own 1000003 none,.own 1000004 none]),(6,[ao r,ao g,ao h,ao i,ao j,ao k,.str l,.own 1000005 none,.str m,.own 1000006 none,.own 1000007 none,.own 1000008 none,ao o,.own 1000009 none]),(8,[ao I,ao p,.own 1000010 none,.own 1000011 none,.own 1000012 none,.own 1000013 none])] [ay 1000000 136 pS K,ay 1000001 3 (.int .i64) q,ay 1000002 65 cd s,ay 1000003 105 eh t,ay 1000004 41 cz u,ay 1000005 3 (.int .i64) v,ay 1000006 52 K4 x,ay 1000007 50 K9 y,ay 1000008 5 (.int .u8) z,ay 1000009 136 pS A,ay 1000010 3 (.int .i64) B,ay 1000011 65 cd C,ay 1000012 105 eh D,ay 1000013 41 cz E]
def oy (a:St):Option U:=e9 ij F ik [.r,.r,.r,.l,.r,.b,.i] f43 J n a
abbrev aeY:List (Ty×Bool):=[(hz,true),(.int .i64,false)]
def fu:=hf ij F ik [.r,.r,.r,.l,.r,.b] f43 aeY 0
theorem FB (a I K L b w c:Int)(d:List Int)(e:List a1)(f:List bS)(g:List bE)(M N r j k l m o:Int)(p q:ByteArray)(s O t:Int)(P:List ll)(h:List bE)(u:List Int)(v:List a1)(x:List bS)(y:List bE)(z:List Int)(A:List D4)(B:List D9)(C:List Int)(D:List ll)(E:List Int)(G:List a1)(H:List bS)(i:List bE):vu F J (n+1) (pH a I K L b w c d e f g M N r j k l m o p q s O t P h u v x y z A B C D E G H i)=br (decide (b<L)) (ck (bG b (h.length:Int)) ((c9 F0 i (aK h b cz.aD)).bind fun Q=>br (!Q.1) (J .ret (NP 4 w c d e f g)) (vu F J n (pH a I K L (aj (b+1)) w c d e f g M N r j k l m o p q s O t P h u v x y z A B C D E G H i)))) (J (.exit 2) (Lk a I K w c d e f g M N r j k l m o p q s O t P u v x y z A B C D E G H i)):=by kernel_rfl
theorem FC (a I b w d:Int)(e:List Int)(f:List a1)(g:List bS)(h:List bE)(K L r i j k l m:Int)(o p:ByteArray)(q M s:Int)(c:List ll)(t:List Int)(u:List a1)(v:List bS)(x:List bE)(y:List Int)(z:List D4)(A:List D9)(B:List Int)(C:List ll)(D:List Int)(E:List a1)(G:List bS)(H:List bE):oy F J (n+1) (k3 a I b w d e f g h K L r i j k l m o p q M s c t u v x y z A B C D E G H)=br (decide (b<I)) (ck (bG b (c.length:Int)) ((FA F0 a (aK c b pS.aD).2).bind fun N=>vu F (pI F J n) F.n (pH a I b (N.1.length:Int) 0 w d e f g h K L r i j k l m o p q M s c N.1 t u v x y z A B C D E G H))) (J (.exit 0) (wv a w d e f g h K L r i j k l m o p q M s c t u v x y z A B C D E G H)):=by kernel_rfl
theorem acw (a b c:Int)(d:List Int)(e:List a1)(f:List bS)(g:List bE):pI F J n .ret (NP a b c d e f g)=J .ret (NQ a b c d e f g):=by kernel_rfl
theorem Zs (a G H w b:Int)(c:List Int)(d:List a1)(e:List bS)(f:List bE)(I K r g h i j k:Int)(l m:ByteArray)(o L p:Int)(M:List ll)(q:List Int)(s:List a1)(t:List bS)(u:List bE)(v:List Int)(x:List D4)(y:List D9)(z:List Int)(A:List ll)(B:List Int)(C:List a1)(D:List bS)(E:List bE):pI F J n (.exit 2) (Lk a G H w b c d e f I K r g h i j k l m o L p M q s t u v x y z A B C D E)=oy F J n (k3 a G (aj (H+1)) w b c d e f I K r g h i j k l m o L p M q s t u v x y z A B C D E):=by kernel_rfl
theorem acx (a b c:Int)(d:List Int)(e:List a1)(f:List bS)(g:List bE):fu F .ret (NQ a b c d e f g)=some (((b,c),d,e,f,g),a,()):=by kernel_rfl
theorem Zt (a w e:Int)(f:List Int)(g:List a1)(b:List bS)(h:List bE)(K L r i j k l m:Int)(o p:ByteArray)(q C s:Int)(d:List ll)(D:List Int)(E:List a1)(G:List bS)(H:List bE)(t:List Int)(u:List D4)(v:List D9)(x:List Int)(y:List ll)(z:List Int)(c:List a1)(A:List bS)(B:List bE):fu F (.exit 0) (wv a w e f g b h K L r i j k l m o p q C s d D E G H t u v x y z c A B)=br (decide ((aj ((b.length:Int)+(d.length:Int)))>60)) (some (((w,e),f,g,b,h),4,())) (ck (bG a (c.length:Int)) ((QP F0 ((C,s),z,c.set a.toNat (r,i,j,(k,l,(m,o,t),p),u,v,(x,q),y),A,B) d).bind fun I=>some (I.1,0,()))):=by kernel_rfl
def Et (w:ko)(a:Int):=bj ij F ik f43 aeY aeY 0 (w,a,())
theorem ahP (w:ko)(a:Int):Et F w a=ck (bG a (w.2.2.1.length:Int)) ((IX F0 w.1 (aK w.2.2.1 a cd.aD)).bind fun b=>(Sf F0 w a b.2.1).bind fun c=>oy F (fu F) F.n (k3 a (b.2.1.length:Int) 0 w.1.1 w.1.2 w.2.1 w.2.2.1 w.2.2.2.1 w.2.2.2.2 0 0 b.1.1 b.1.2.1 b.1.2.2.1 b.1.2.2.2.1.1 b.1.2.2.2.1.2.1 b.1.2.2.2.1.2.2.1.1 b.1.2.2.2.1.2.2.1.2.1 b.1.2.2.2.1.2.2.2 b.1.2.2.2.2.2.2.1.2 c.1.1.1 c.1.1.2 b.2.1 [] [] [] [] b.1.2.2.2.1.2.2.1.2.2 b.1.2.2.2.2.1 b.1.2.2.2.2.2.1 b.1.2.2.2.2.2.2.1.1 b.1.2.2.2.2.2.2.2 c.1.2.1 c.1.2.2.1 c.1.2.2.2.1 c.1.2.2.2.2)):=by kernel_rfl
def NR:Any:=.one ⟨aeY,aeY,0,fun x=>Et F0 x.1 x.2.1⟩
theorem ahQ:a6 43 NR:=aq ij ⟨al2,asB,Xg,ih,awj,trivial⟩ func43 ik (by kernel_rfl)
def Xm:=[(47,ig)]
def IZ (a b:D9):=bj Xm F ad f275 wP gq 2 (a,b,())
theorem al8 (a b:D9):IZ F a b=br (decide (a.1>b.1)) ((gU F0 a).bind fun c=>some (c.1,())) ((gU F0 b).bind fun d=>some (d.1,())):=by kernel_rfl
def QQ:Any:=.one ⟨wP,gq,2,fun x=>IZ F0 x.1 x.2.1⟩
theorem al9:a6 275 QQ:=aq Xm ⟨mH,trivial⟩ func275 ad (by kernel_rfl)
def Xn:=[(108,Ei),(109,qV)]
def I0 (name:ByteArray):=bj Xn F ad f276 dB aDt 1 (name,())
theorem ama (name:ByteArray):I0 F name=(qU F0 name).bind fun a=>br (decide ((a.1.length:Int)<3)) (some (ak,false,())) (ck (bG (aj ((a.1.length:Int)-1)) (a.1.length:Int)) (ck (bG (aj ((a.1.length:Int)-2)) (a.1.length:Int)) (br ((aK a.1 (aj ((a.1.length:Int)-1)) (0,[])).1 != (aj ((aK a.1 (aj ((a.1.length:Int)-2)) (0,[])).1+1))) (some (ak,false,())) (ck (bG (aj ((a.1.length:Int)-2)) (a.1.length:Int)) (ck (bG (aj ((a.1.length:Int)-3)) (a.1.length:Int)) (br ((aK a.1 (aj ((a.1.length:Int)-2)) (0,[])).1 != (aj ((aK a.1 (aj ((a.1.length:Int)-3)) (0,[])).1+1))) (some (ak,false,())) ((sh F0 name).bind fun b=>(sh F0 b.1).bind fun c=>some (c.1,true,())))))))):=by kernel_rfl
def QR:Any:=.one ⟨dB,aDt,1,fun x=>I0 F0 x.1⟩
theorem amb:a6 276 QR:=aq Xn ⟨Sc,Ec,trivial⟩ func276 ad (by kernel_rfl)
def o7 (s a:ByteArray):=bj aA F ad f273 Tw aO 1 (s,a,())
theorem O5 (s a:ByteArray):o7 F s a=br (decide ((s.size:Int)>=(a.size:Int))) (ck (S5 0 (a.size:Int) (s.size:Int)) (some ((s.extract (0:Int).toNat (a.size:Int).toNat).toList==a.toList,()))) (some (false,())):=by kernel_rfl
def s9:Any:=.one ⟨Tw,aO,1,fun x=>o7 F0 x.1 x.2.1⟩
theorem O6:a6 273 s9:=aq aA trivial func273 ad (by kernel_rfl)
def HB:=[(273,s9)]
def AN (s a:ByteArray):=bj HB F ad f224 Tw aO 1 (s,a,())
theorem Xo (s a:ByteArray):AN F s a=(o7 F0 s a).bind fun b=>some (b.1,()):=by kernel_rfl
def BN:Any:=.one ⟨Tw,aO,1,fun x=>AN F0 x.1 x.2.1⟩
theorem Xp:a6 224 BN:=aq HB ⟨O6,trivial⟩ func224 ad (by kernel_rfl)
def Xq:=[(60,eO),(224,BN)]
def sE (s t:ByteArray):=bj Xq F ad f156 Tw aO 1 (s,t,())
theorem amc (s t:ByteArray):sE F s t=(eZ F0 s).bind fun a=>br a.1 ((eZ F0 t).bind fun b=>br b.1 ((AN F0 s t).bind fun c=>br c.1 (br ((s.size:Int)==(t.size:Int)) (some (true,())) (ck (bG (t.size:Int) (s.size:Int)) (some ((jI s (t.size:Int))==47,())))) (some (false,()))) (some (false,()))) (some (false,())):=by kernel_rfl
def CP:Any:=.one ⟨Tw,aO,1,fun x=>sE F0 x.1 x.2.1⟩
theorem Un:a6 156 CP:=aq Xq ⟨gR,Xp,trivial⟩ func156 ad (by kernel_rfl)
def apr:=[(49,dZ),(50,ku),(107,ju),(108,Ei),(151,kY),(156,CP),(275,QQ),(276,QR)]
def QS (c:D1)(s:U1)(q:D9):=bj apr F ad f226 aDu BD 2 (c,s,q,())
theorem ayE (c:D1)(s:U1)(q:D9):QS F c s q=(ly F0 s).bind fun a=>(kU F0 c s).bind fun f=>br (!f.1) (some (a.1,())) ((mu F0 c q).bind fun g=>br (!g.1) (some (a.1,())) ((IZ F0 q s.2.2.1).bind fun d=>(sh F0 q.2.1).bind fun h=>(er F0 h.1).bind fun b=>(I0 F0 q.2.1).bind fun e=>br e.2.1 ((sE F0 e.1 s.2.2.2).bind fun i=>br i.1 (some ((a.1.1,(if b.1>s.2.1 then b.1 else s.2.1,(d.1,e.1))),())) (some ((a.1.1,(if b.1>s.2.1 then b.1 else s.2.1,(d.1,a.1.2.2.2))),()))) (some ((a.1.1,(if b.1>s.2.1 then b.1 else s.2.1,(d.1,a.1.2.2.2))),())))):=by kernel_rfl
def I1:Any:=.one ⟨aDu,BD,2,fun x=>QS F0 x.1 x.2.1 x.2.2.1⟩
theorem Xr:a6 226 I1:=aq apr ⟨fs,q1,nB,Sc,sj,Un,al9,amb,trivial⟩ func226 ad (by kernel_rfl)
def Xs:=[(48,mw),(49,dZ),(50,ku)]
def I2 (c:D1)(s:U1)(b:D15):=bj Xs F ad f16 ajC aO 1 (c,s,b,())
theorem amd (c:D1)(s:U1)(b:D15):I2 F c s b=(kU F0 c s).bind fun a=>br a.1 ((nD F0 c b).bind fun d=>br d.1 ((er F0 b.1).bind fun e=>br (decide (e.1>s.1)) (some (decide (b.2.1>=s.2.1),())) (some (false,()))) (some (false,()))) (some (false,())):=by kernel_rfl
def QT:Any:=.one ⟨ajC,aO,1,fun x=>I2 F0 x.1 x.2.1 x.2.2.1⟩
theorem ame:a6 16 QT:=aq Xs ⟨vk,fs,q1,trivial⟩ func16 ad (by kernel_rfl)
def ajT:=[(16,QT),(49,dZ),(151,kY)]
def YI (c:D1)(s:U1)(b:D15):=bj ajT F ad f227 ajC ajE 2 (c,s,b,())
theorem awk (c:D1)(s:U1)(b:D15):YI F c s b=(ly F0 s).bind fun a=>(I2 F0 c s b).bind fun d=>br (!d.1) (some (a.1,false,())) ((er F0 b.1).bind fun e=>some ((e.1,a.1.2),true,())):=by kernel_rfl
def aa5:Any:=.one ⟨ajC,ajE,2,fun x=>YI F0 x.1 x.2.1 x.2.2.1⟩
theorem awl:a6 227 aa5:=aq ajT ⟨ame,fs,sj,trivial⟩ func227 ad (by kernel_rfl)
def Uo:=[(55,kt)]
def tT (a b:U1):=bj Uo F ad f19 aDv aO 1 (a,b,())
theorem ahR (a b:U1):tT F a b=br (a.1==b.1) (br (a.2.1==b.2.1) ((jj F0 a.2.2.1 b.2.2.1).bind fun c=>br c.1 (some (a.2.2.2.toList==b.2.2.2.toList,())) (some (false,()))) (some (false,()))) (some (false,())):=by kernel_rfl
def AO:Any:=.one ⟨aDv,aO,1,fun x=>tT F0 x.1 x.2.1⟩
theorem QU:a6 19 AO:=aq Uo ⟨qJ,trivial⟩ func19 ad (by kernel_rfl)
def QV:=[(50,ku),(171,sA),(172,CO),(173,sC)]
def AP (c:D1)(s:U1):=bj QV F ad f318 Tf lW 2 (c,s,())
theorem aeZ (c:D1)(s:U1):AP F c s=(kU F0 c s).bind fun e=>br (!e.1) (some ([],())) ((k2 F0 [s.1,s.2.1]).bind fun a=>(sD F0 c s.2.2.1).bind fun b=>ck (ei F a.1.length b.1.length 1) ((nQ F0 s.2.2.2).bind fun d=>ck (ei F (a.1++b.1).length d.1.length 1) (some ((a.1++b.1)++d.1,())))):=by kernel_rfl
def Ll:Any:=.one ⟨Tf,lW,2,fun x=>AP F0 x.1 x.2.1⟩
theorem ae0:a6 318 Ll:=aq QV ⟨q1,GK,Ul,GL,trivial⟩ func318 ad (by kernel_rfl)
def QW:=[(170,ie),(318,Ll)]
def AQ (c:D1)(s:U1):=bj QW F ad f278 Tf lW 2 (c,s,())
theorem ae1 (c:D1)(s:U1):AQ F c s=(AP F0 c s).bind fun a=>br ((a.1.length:Int)==0) (some ([],())) ((e5 F0 (a.1.length:Int)).bind fun b=>ck (ei F b.1.length a.1.length 1) (ck (ei F (b.1++a.1).length [10].length 1) (some ((b.1++a.1)++[10],())))):=by kernel_rfl
def Lm:Any:=.one ⟨Tf,lW,2,fun x=>AQ F0 x.1 x.2.1⟩
theorem ae2:a6 278 Lm:=aq QW ⟨my,ae0,trivial⟩ func278 ad (by kernel_rfl)
def aa6:=[(118,ov),(154,kZ)]
def NS (d:D14)(b:List Int):=bj aa6 F ad f277 aDw aDx 2 (d,b,())
theorem aps (d:D14)(b:List Int):NS F d b=(lz F0 d).bind fun a=>(q4 F0 d).bind fun c=>br (!c.1) (some (a.1,false,())) (br (decide ((aj ((d.1.length:Int)+(b.length:Int)))>100000)) (some (a.1,false,())) (ck (ei F a.1.1.length b.length 1) (some ((a.1.1++b,a.1.2),true,())))):=by kernel_rfl
def Uq:Any:=.one ⟨aDw,aDx,2,fun x=>NS F0 x.1 x.2.1⟩
theorem apt:a6 277 Uq:=aq aa6 ⟨As,sq,trivial⟩ func277 ad (by kernel_rfl)
def ae3:=[(19,AO),(58,b1),(80,bN),(151,kY),(277,Uq),(278,Lm)]
abbrev aGz:List (Ty×Bool):=[(K1,true),(cd,true),(K12,true)]
def wx (c:D1)(r:a1)(s:U1):=bj ae3 F ad f228 aGz gx 2 (c,r,s,())
theorem asC (c:D1)(r:a1)(s:U1):wx F c r s=(az F0 r).bind fun a=>(cp F0 c r).bind fun f=>br (!f.1) (some (a.1,false,())) ((tT F0 s r.2.2.2.1).bind fun g=>br g.1 (some (a.1,true,())) ((AQ F0 c s).bind fun h=>(NS F0 r.2.2.2.2.2.2.1 h.1).bind fun b=>(ly F0 s).bind fun e=>br (!b.2.1) ((az F0 r).bind fun d=>some (d.1,false,())) ((cp F0 c (a.1.1,a.1.2.1,a.1.2.2.1,e.1,a.1.2.2.2.2.1,a.1.2.2.2.2.2.1,b.1,a.1.2.2.2.2.2.2.2)).bind fun i=>br (!i.1) ((az F0 r).bind fun d=>some (d.1,false,())) (some ((a.1.1,a.1.2.1,a.1.2.2.1,e.1,a.1.2.2.2.2.1,a.1.2.2.2.2.2.1,b.1,a.1.2.2.2.2.2.2.2),true,()))))):=by kernel_rfl
def AR:Any:=.one ⟨aGz,gx,2,fun x=>wx F0 x.1 x.2.1 x.2.2.1⟩
theorem O7:a6 228 AR:=aq ae3 ⟨QU,ct,b8,sj,apt,ae2,trivial⟩ func228 ad (by kernel_rfl)
def aa7:=[(29,fq),(51,cO),(350,tB),(352,BB)]
def FD (s:List Int)(i:Int):=bj aa7 F ad f321 Tv kh 2 (s,i,())
theorem apu (s:List Int)(i:Int):FD F s i=(c7 F0 s i).bind fun c=>br c.1 ((dY F0 s).bind fun d=>some (d.1,())) (br (decide ((pU (fun a=>geP a i) s 0)<0)) ((dY F0 s).bind fun b=>ck (ajl (s.length:Int) b.1.length [i].length) (some (b.1.take (s.length:Int).toNat++[i]++b.1.drop (s.length:Int).toNat,()))) ((dY F0 s).bind fun b=>ck (ajl (pU (fun a=>geP a i) s 0) b.1.length [i].length) (some (b.1.take (pU (fun a=>geP a i) s 0).toNat++[i]++b.1.drop (pU (fun a=>geP a i) s 0).toNat,())))):=by kernel_rfl
def Ur:Any:=.one ⟨Tv,kh,2,fun x=>FD F0 x.1 x.2.1⟩
theorem apv:a6 321 Ur:=aq aa7 ⟨jB,dP,PB,VY,trivial⟩ func321 ad (by kernel_rfl)
def mK:=[(321,Ur)]
def mL:Nat->Option Hint:=look [(3,{live:=[1,5,10,11,12],mat:=[(5,3,.int .i64)],xl:=[1,5],rl:=[4]}),(8,{live:=[5,20,21,22],xl:=[5],rl:=[4]})]
def sF (a:List Int)(b c:Int)(d:List Int):= cQ 31 [(5,.v (.c (.own 1000000 none))),(20,hD 3 (.int .i64) a),(21,a8 b),(22,a8 c)] [] [ay 1000000 3 (.int .i64) d]
def NT (a:List Int):= cQ 31 [(5,.v (.c (.own 1000000 none)))] [] [ay 1000000 3 (.int .i64) a]
def AS (a:St):Option U:=e9 mK F mL [.r,.r,.r,.l,.r,.b,.i] f285 J n a
def CQ:=hf mK F mL [.r,.r,.r,.l,.r,.b] f285 kh 2
def sG (b a:List Int)(c d:Int)(e:List Int):= cQ 31 [(1,hD 3 (.int .i64) b),(5,.v (.c (.own 1000000 none))),(10,hD 3 (.int .i64) a),(11,a8 c),(12,a8 d)] [] [ay 1000000 3 (.int .i64) e]
def NU (b a:List Int):= cQ 31 [(1,hD 3 (.int .i64) b),(5,.v (.c (.own 1000000 none)))] [] [ay 1000000 3 (.int .i64) a]
def AT (a:St):Option U:=e9 mK F mL [.r,.r,.l,.r,.b,.i] f285 J n a
def CR:=hf mK F mL [.r,.r,.l,.r,.b] f285 kh 2
theorem HC (b:List Int)(c a:Int)(d:List Int):AS F J (n+1) (sF b c a d)=br (decide (a<c)) (ck (bG a (b.length:Int)) ((FD F0 d (aK b a 0)).bind fun e=>AS F J n (sF b c (aj (a+1)) e.1))) (J (.exit 2) (NT d)):=by kernel_rfl
theorem HD (b c:List Int)(d a:Int)(e:List Int):AT F J (n+1) (sG b c d a e)=br (decide (a<d)) (ck (bG a (c.length:Int)) ((FD F0 e (aK c a 0)).bind fun f=>AT F J n (sG b c d (aj (a+1)) f.1))) (J (.exit 0) (NU b e)):=by kernel_rfl
theorem acy (a:List Int):CQ F (.exit 2) (NT a)=some (a,()):=by kernel_rfl
theorem acz (b a:List Int):CR F (.exit 0) (NU b a)=AS F (CQ F) F.n (sF b (b.length:Int) 0 a):=by kernel_rfl
def I3 (a b:List Int):=bj mK F mL f285 akQ kh 2 (a,b,())
theorem amf (a b:List Int):I3 F a b=AT F (CR F) F.n (sG b a (a.length:Int) 0 []):=by kernel_rfl
def QX:Any:=.one ⟨akQ,kh,2,fun x=>I3 F0 x.1 x.2.1⟩
theorem amg:a6 285 QX:=aq mK ⟨apv,trivial⟩ func285 mL (by kernel_rfl)
def Us:=[(285,QX)]
def Eu (a b:D9):=bj Us F ad f238 wP ajF 2 (a,b,())
theorem ahS (a b:D9):Eu F a b=br (a.1 != b.1) (some ((0,ak,[]),false,())) (br (!(a.2.1.toList==b.2.1.toList)) (some ((0,ak,[]),false,())) ((I3 F0 a.2.2 b.2.2).bind fun c=>some ((a.1,a.2.1,c.1),true,()))):=by kernel_rfl
def NV:Any:=.one ⟨wP,ajF,2,fun x=>Eu F0 x.1 x.2.1⟩
theorem ahT:a6 238 NV:=aq Us ⟨amg,trivial⟩ func238 ad (by kernel_rfl)
def vv:=[(117,CD),(153,wm),(190,ou),(191,o5),(222,hJ),(238,NV),(239,ya)]
def vw:Nat->Option Hint:=look [(5,{live:=[1,3,5,8,9],xl:=[1,3,5,8,9],rl:=[6,7]})]
def pJ (e:List D9)(k c a p:Int)(b:ByteArray)(d:List Int)(f:List D9):= cQ 71 [(1,hD 50 (K9) e),b0 3,b0 5,(8,.v (.c (.own 1000000 none))),(9,a8 k)] [(3,[ao c,ao a]),(5,[ao p,.str b,.ro false 3 (.int .i64) d])] [ay 1000000 50 K9 f]
def nR (e:List D9)(k c a p:Int)(b:ByteArray)(d:List Int)(f:List D9):= cQ 71 [(1,hD 50 (K9) e),b0 3,b0 5,(8,.v (.c (.own 1000000 none))),(9,a8 k)] [(3,[ao c,ao a]),(5,[ao p,.str b,.ro false 3 (.int .i64) d])] [ay 1000000 50 K9 f]
def vx (a:St):Option U:=e9 vv F vw [.r,.r,.r,.r,.l,.b,.i] f177 J n a
def pK:=hf vv F vw [.r,.r,.r,.r,.l,.b] f177 atO 2
theorem FE (f:List D9)(k c e p:Int)(b:ByteArray)(d:List Int)(a:List D9):vx F J (n+1) (pJ f k c e p b d a)=br (decide (k<(a.length:Int))) (ck (bG k (a.length:Int)) ((ft F0 (aK a k K9.aD) (p,b,d)).bind fun g=>br (decide (g.1<0)) (vx F J n (pJ f (aj (k+1)) c e p b d a)) (J (.exit 0) (nR f k c e p b d a)))) (J (.exit 0) (nR f k c e p b d a)):=by kernel_rfl
theorem Zu (i:List D9)(k c h p:Int)(d:ByteArray)(e:List Int)(a:List D9):pK F (.exit 0) (nR i k c h p d e a)=br (decide (k<(a.length:Int))) (ck (bG k (a.length:Int)) ((ft F0 (aK a k K9.aD) (p,d,e)).bind fun l=>br (l.1==0) (ck (bG k (a.length:Int)) ((Eu F0 (aK a k K9.aD) (p,d,e)).bind fun j=>ck (bG k (a.length:Int)) ((kV F0 (c,h) (a.set k.toNat j.1)).bind fun f=>br (!f.1) ((eJ F0 i).bind fun g=>some (g.1,false,())) (some (a.set k.toNat j.1,true,()))))) ((fh F0 (p,d,e)).bind fun b=>ck (ajl k a.length [b.1].length) ((kV F0 (c,h) (a.take k.toNat++[b.1]++a.drop k.toNat)).bind fun f=>br (!f.1) ((eJ F0 i).bind fun g=>some (g.1,false,())) (some (a.take k.toNat++[b.1]++a.drop k.toNat,true,())))))) ((fh F0 (p,d,e)).bind fun b=>ck (ajl k a.length [b.1].length) ((kV F0 (c,h) (a.take k.toNat++[b.1]++a.drop k.toNat)).bind fun f=>br (!f.1) ((eJ F0 i).bind fun g=>some (g.1,false,())) (some (a.take k.toNat++[b.1]++a.drop k.toNat,true,())))):=by kernel_rfl
def eK (c:D1)(a:D13)(p:D9):=bj vv F vw f177 aDy atO 2 (c,a,p,())
theorem ahU (c:D1)(a:D13)(p:D9):eK F c a p=(q2 F0 c p).bind fun b=>br (!b.1) ((eJ F0 a).bind fun d=>some (d.1,false,())) ((eJ F0 a).bind fun e=>vx F (pK F) F.n (pJ a 0 c.1 c.2 p.1 p.2.1 p.2.2 e.1)):=by kernel_rfl
def k4:Any:=.one ⟨aDy,atO,2,fun x=>eK F0 x.1 x.2.1 x.2.2.1⟩
theorem sH:a6 177 k4:=aq vv ⟨T9,NH,Ao,Fy,mI,ahT,U0,trivial⟩ func177 vw (by kernel_rfl)
def vy:=[(222,hJ)]
def vz:Nat->Option Hint:=look [(2,{live:=[1,2,6,9,10,11],x3:=[(6,2,3,.int .i64)],xl:=[1,2,6],rl:=[6]})]
def k5 (a:Int)(name:ByteArray)(b:List D9)(c d e:Int)(f:ByteArray)(g:List Int):= cQ 31 [(1,a8 a),(2,ZY name),b0 6,(9,hD 50 (K9) b),(10,a8 c),(11,a8 d)] [(6,[ao e,.str f,.own 1000000 none])] [ay 1000000 3 (.int .i64) g]
def NW (a:Int)(b:ByteArray)(c:List Int):= cQ 31 [b0 6] [(6,[ao a,.str b,.own 1000000 none])] [ay 1000000 3 (.int .i64) c]
def Ln (a:Int)(name:ByteArray)(b:Int)(c:ByteArray)(d:List Int):= cQ 31 [(1,a8 a),(2,ZY name),b0 6] [(6,[ao b,.str c,.own 1000000 none])] [ay 1000000 3 (.int .i64) d]
def oz (a:St):Option U:=e9 vy F vz [.r,.l,.r,.b,.i] f232 J n a
def pL:=hf vy F vz [.r,.l,.r,.b] f232 gq 2
theorem FF (c:Int)(name:ByteArray)(b:List D9)(d a e:Int)(f:ByteArray)(g:List Int):oz F J (n+1) (k5 c name b d a e f g)=br (decide (a<d)) (ck (bG a (b.length:Int)) (br ((aK b a K9.aD).1==c) (br ((aK b a K9.aD).2.1.toList==name.toList) ((fh F0 (aK b a K9.aD)).bind fun h=>J .ret (NW h.1.1 h.1.2.1 h.1.2.2)) (oz F J n (k5 c name b d (aj (a+1)) e f g))) (oz F J n (k5 c name b d (aj (a+1)) e f g)))) (J (.exit 0) (Ln c name e f g)):=by kernel_rfl
theorem acA (a:Int)(b:ByteArray)(c:List Int):pL F .ret (NW a b c)=some ((a,b,c),()):=by kernel_rfl
theorem Zv (a:Int)(name:ByteArray)(b:Int)(c:ByteArray)(d:List Int):pL F (.exit 0) (Ln a name b c d)=some ((a,name,[]),()):=by kernel_rfl
def tU (a:D13)(b:Int)(name:ByteArray):=bj vy F vz f232 aDn gq 2 (a,b,name,())
theorem ahV (a:D13)(b:Int)(name:ByteArray):tU F a b name=oz F (pL F) F.n (k5 b name a (a.length:Int) 0 0 ak []):=by kernel_rfl
def AU:Any:=.one ⟨aDn,gq,2,fun x=>tU F0 x.1 x.2.1 x.2.2.1⟩
theorem QY:a6 232 AU:=aq vy ⟨mI,trivial⟩ func232 vz (by kernel_rfl)
def ajU:=[(30,cN)]
def sI (c:D1)(a:Int):=bj ajU F ad f168 ajv cE 1 (c,a,())
theorem awm (c:D1)(a:Int):sI F c a=(ep F0 c).bind fun b=>br (!b.1) (some (-1,())) (br (decide (a<0)) (some (-1,())) (ck (!(c.1==0)) (some (Int.tmod a c.1,())))):=by kernel_rfl
def lB:Any:=.one ⟨ajv,cE,1,fun x=>sI F0 x.1 x.2.1⟩
theorem sJ:a6 168 lB:=aq ajU ⟨dO,trivial⟩ func168 ad (by kernel_rfl)
def aa8:=[(47,ig),(107,ju)]
def FG (c:D1)(p:D9):=bj aa8 F ad f233 GX ajF 2 (c,p,())
theorem apw (c:D1)(p:D9):FG F c p=(gU F0 p).bind fun a=>(mu F0 c a.1).bind fun b=>br (!b.1) (some ((0,ak,[]),false,())) (br (a.1.1==0) (some ((0,ak,[]),false,())) (some (a.1,true,()))):=by kernel_rfl
def Ut:Any:=.one ⟨GX,ajF,2,fun x=>FG F0 x.1 x.2.1⟩
theorem apx:a6 233 Ut:=aq aa8 ⟨mH,nB,trivial⟩ func233 ad (by kernel_rfl)
def ajV:=[(58,b1),(80,bN),(223,CM)]
def mM (c:D1)(r:a1)(a:Int)(m:OW):=bj ajV F ad f178 aDz gx 2 (c,r,a,m,())
theorem awn (c:D1)(r:a1)(b:Int)(m:OW):mM F c r b m=(az F0 r).bind fun a=>(AE F0 m).bind fun d=>ck (ei F a.1.2.2.2.2.2.2.2.length [(b,d.1)].length 224) ((cp F0 c (a.1.1,a.1.2.1,a.1.2.2.1,a.1.2.2.2.1,a.1.2.2.2.2.1,a.1.2.2.2.2.2.1,a.1.2.2.2.2.2.2.1,a.1.2.2.2.2.2.2.2++[(b,d.1)])).bind fun e=>br (!e.1) ((az F0 r).bind fun f=>some (f.1,false,())) (some ((a.1.1,a.1.2.1,a.1.2.2.1,a.1.2.2.2.1,a.1.2.2.2.2.1,a.1.2.2.2.2.2.1,a.1.2.2.2.2.2.2.1,a.1.2.2.2.2.2.2.2++[(b,d.1)]),true,()))):=by kernel_rfl
def tV:Any:=.one ⟨aDz,gx,2,fun x=>mM F0 x.1 x.2.1 x.2.2.1 x.2.2.2.1⟩
theorem I4:a6 178 tV:=aq ajV ⟨ct,b8,Uh,trivial⟩ func178 ad (by kernel_rfl)
def ae4:=[(168,lB),(178,tV),(226,I1),(228,AR)]
def Lo (c:D1)(r:a1)(q:D9):=bj ae4 F ad f234 ajG gx 0 (c,r,q,())
theorem asD (c:D1)(r:a1)(q:D9):Lo F c r q=(QS F0 c r.2.2.2.1 q).bind fun e=>(wx F0 c r e.1).bind fun a=>br (!a.2.1) (some (r,false,())) (br (decide ((aj (q.1+1))>60)) (some (a.1,true,())) ((sI F0 c (aj (q.1+1))).bind fun b=>br (b.1 != r.1) ((mM F0 c (a.1.1,(if (aj (q.1+1))>a.1.2.1 then (aj (q.1+1)) else a.1.2.1,a.1.2.2)) b.1 (3,aj (q.1+1),(ak,0,ak,[]),(0,ak,[]),q,r.1,0,0,0,0)).bind fun d=>some (d.1,d.2.1,())) (some ((a.1.1,(if (aj (q.1+1))>a.1.2.1 then (aj (q.1+1)) else a.1.2.1,a.1.2.2)),true,())))):=by kernel_rfl
def Xt:Any:=.one ⟨ajG,gx,0,fun x=>Lo F0 x.1 x.2.1 x.2.2.1⟩
theorem asE:a6 234 Xt:=aq ae4 ⟨sJ,I4,Xr,O7,trivial⟩ func234 ad (by kernel_rfl)
def ajW:=[(30,cN),(41,bA)]
def JE (c:D1)(a i:Int):=bj ajW F ad f282 Qd cE 1 (c,a,i,())
theorem awo (c:D1)(a i:Int):JE F c a i=(ep F0 c).bind fun b=>br (!b.1) (some (-1,())) (br (decide (a<0)) (some (-1,())) ((aZ F0 i 0 (aj (c.1-1))).bind fun d=>br (!d.1) (some (-1,())) (ck (!(c.1==0)) (ck (!(c.1==0)) (some (Int.tmod (aj ((aj (i-(Int.tmod a c.1)))+c.1)) c.1,())))))):=by kernel_rfl
def Ev:Any:=.one ⟨Qd,cE,1,fun x=>JE F0 x.1 x.2.1 x.2.2.1⟩
theorem Sg:a6 282 Ev:=aq ajW ⟨dO,bV,trivial⟩ func282 ad (by kernel_rfl)
def ajX:=[(30,cN),(41,bA)]
def YJ (c:D1)(b a:Int):=bj ajX F ad f284 Qd cE 1 (c,b,a,())
theorem awp (c:D1)(b a:Int):YJ F c b a=(ep F0 c).bind fun d=>br (!d.1) (some (-1,())) (br (decide (b<0)) (some (-1,())) ((aZ F0 a 0 (aj (c.1-1))).bind fun e=>br (!e.1) (some (-1,())) (ck (!(c.1==0)) (ck (!(c.1==0)) (some (Int.tmod (aj ((Int.tmod b c.1)+a)) c.1,())))))):=by kernel_rfl
def aa9:Any:=.one ⟨Qd,cE,1,fun x=>YJ F0 x.1 x.2.1 x.2.2.1⟩
theorem awq:a6 284 aa9:=aq ajX ⟨dO,bV,trivial⟩ func284 ad (by kernel_rfl)
def atT:=[(282,Ev),(284,aa9)]
def YK (c:D1)(a i:Int):=bj atT F ad f237 Qd cE 1 (c,a,i,())
theorem aBi (c:D1)(a i:Int):YK F c a i=(JE F0 c a i).bind fun b=>br (decide (b.1<1)) (some (-1,())) (ck (!(c.2==0)) ((YJ F0 c a (aj (Int.tdiv (aj (b.1-1)) c.2))).bind fun d=>some (d.1,()))):=by kernel_rfl
def Xu:Any:=.one ⟨Qd,cE,1,fun x=>YK F0 x.1 x.2.1 x.2.2.1⟩
theorem apy:a6 237 Xu:=aq atT ⟨Sg,awq,trivial⟩ func237 ad (by kernel_rfl)
end
end Go.Am.Tryz
namespace Go.Am.Tryz
open Go.Am Go.Proofs Go.Proofs.Tryz
noncomputable section
variable {U:Type} (F:rz) (J:Ex->St->Option U) (n:Nat)
def Sh:=[(237,Xu),(282,Ev)]
def Si:Nat->Option Hint:=look [(2,{live:=[1,2,3,7],mat:=[(7,3,.int .i64)],xl:=[7],rl:=[6]})]
def I5 (b i c a:Int)(d:List Int):= cQ 22 [(1,a8 b),(2,a8 i),b0 3,(7,.v (.c (.own 1000000 none)))] [(3,[ao c,ao a])] [ay 1000000 3 (.int .i64) d]
def O8 (a:List Int):= cQ 22 [(7,.v (.c (.own 1000000 none)))] [] [ay 1000000 3 (.int .i64) a]
def Sj (a:St):Option U:=e9 Sh F Si [.r,.r,.l,.b,.i] f283 J n a
def ae5:=hf Sh F Si [.r,.r,.l,.b] f283 kh 2
theorem Uu (b i c a:Int)(d:List Int):Sj F J (n+1) (I5 b i c a d)=(JE F0 (c,a) b i).bind fun e=>br (decide (e.1>=0)) (ck (ei F d.length [i].length 8) ((YK F0 (c,a) b i).bind fun f=>Sj F J n (I5 b f.1 c a (d++[i])))) (J (.exit 0) (O8 d)):=by kernel_rfl
theorem apz (a:List Int):ae5 F (.exit 0) (O8 a)=some (a,()):=by kernel_rfl
def ae6 (c:D1)(a i:Int):=bj Sh F Si f283 Qd kh 2 (c,a,i,())
theorem ayF (c:D1)(a i:Int):ae6 F c a i=Sj F (ae5 F) F.n (I5 a i c.1 c.2 []):=by kernel_rfl
def ae7:Any:=.one ⟨Qd,kh,2,fun x=>ae6 F0 x.1 x.2.1 x.2.2.1⟩
theorem ayG:a6 283 ae7:=aq Sh ⟨apy,Sg,trivial⟩ func283 Si (by kernel_rfl)
def I6:=[(51,cO),(282,Ev),(283,ae7)]
def I7:Nat->Option Hint:=look [(3,{live:=[1,2,3,7,8],mat:=[(7,3,.int .i64)],xl:=[7],rl:=[6]})]
def rb (b i k c a:Int)(d:List Int):= cQ 33 [(1,a8 b),(2,a8 i),b0 3,(7,.v (.c (.own 1000000 none))),(8,a8 k)] [(3,[ao c,ao a])] [ay 1000000 3 (.int .i64) d]
def GM (a:List Int):= cQ 33 [(7,.v (.c (.own 1000000 none)))] [] [ay 1000000 3 (.int .i64) a]
def AW (a:St):Option U:=e9 I6 F I7 [.r,.r,.l,.r,.b,.i] f235 J n a
def Lp:=hf I6 F I7 [.r,.r,.l,.r,.b] f235 kh 2
theorem AX (d i k c b:Int)(a:List Int):AW F J (n+1) (rb d i k c b a)=(JE F0 (c,b) d i).bind fun e=>br (decide (e.1>=0)) (br (decide (k<c)) ((ae6 F0 (c,b) d k).bind fun f=>(c7 F0 f.1 i).bind fun g=>br g.1 (ck (ei F a.length [k].length 8) (AW F J n (rb d i (aj (k+1)) c b (a++[k])))) (AW F J n (rb d i (aj (k+1)) c b a))) (J (.exit 0) (GM a))) (J (.exit 0) (GM a)):=by kernel_rfl
theorem QZ (a:List Int):Lp F (.exit 0) (GM a)=some (a,()):=by kernel_rfl
def Sk (c:D1)(a i:Int):=bj I6 F I7 f235 Qd kh 2 (c,a,i,())
theorem asF (c:D1)(a i:Int):Sk F c a i=AW F (Lp F) F.n (rb a i 0 c.1 c.2 []):=by kernel_rfl
def Xv:Any:=.one ⟨Qd,kh,2,fun x=>Sk F0 x.1 x.2.1 x.2.2.1⟩
theorem asG:a6 235 Xv:=aq I6 ⟨dP,Sg,ayG,trivial⟩ func235 I7 (by kernel_rfl)
def Ew:=[(51,cO)]
def Ey:Nat->Option Hint:=look [(3,{live:=[1,5,8,9,10],xl:=[5],rl:=[4]})]
def oA (b:List Int)(a:Int)(c:List Int)(d e:Int):= bO 21 [(1,hD 3 (.int .i64) b),(5,a8 a),(8,hD 3 (.int .i64) c),(9,a8 d),(10,a8 e)]
def Q0 (a:Int):= bO 21 [(5,a8 a)]
def tW (a:St):Option U:=e9 Ew F Ey [.r,.r,.l,.r,.b,.i] f236 J n a
def GN:=hf Ew F Ey [.r,.r,.l,.r,.b] f236 cE 1
theorem Lq (b:List Int)(d:Int)(c:List Int)(e a:Int):tW F J (n+1) (oA b d c e a)=br (decide (a<e)) (ck (bG a (c.length:Int)) ((c7 F0 b (aK c a 0)).bind fun f=>br f.1 (tW F J n (oA b (aj (d+1)) c e (aj (a+1)))) (tW F J n (oA b d c e (aj (a+1)))))) (J (.exit 0) (Q0 d)):=by kernel_rfl
theorem ae8 (a:Int):GN F (.exit 0) (Q0 a)=some (a,()):=by kernel_rfl
def NX (a b:List Int):=bj Ew F Ey f236 akQ cE 1 (a,b,())
theorem apA (a b:List Int):NX F a b=tW F (GN F) F.n (oA b 0 a (a.length:Int) 0):=by kernel_rfl
def Uv:Any:=.one ⟨akQ,cE,1,fun x=>NX F0 x.1 x.2.1⟩
theorem apB:a6 236 Uv:=aq Ew ⟨dP,trivial⟩ func236 Ey (by kernel_rfl)
def ae9:=[(58,b1),(80,bN),(168,lB),(178,tV),(232,AU),(233,Ut),(234,Xt),(235,Xv),(236,Uv),(237,Xu)]
def nS (c:D1)(r:a1)(a:Int)(name:ByteArray)(b:Bool):=bj ae9 F ad f176 atQ gx 0 (c,r,a,name,b,())
theorem asH (c:D1)(r:a1)(a:Int)(name:ByteArray)(j:Bool):nS F c r a name j=(tU F0 r.2.2.2.2.2.1 a name).bind fun b=>br ((b.1.2.2.length:Int)==0) ((az F0 r).bind fun d=>some (d.1,false,())) ((cp F0 c r).bind fun k=>br (!k.1) ((az F0 r).bind fun d=>some (d.1,false,())) (br (name.toList==ak.toList) ((az F0 r).bind fun d=>some (d.1,false,())) ((sI F0 c a).bind fun l=>br (l.1==r.1) ((FG F0 c b.1).bind fun g=>br (!g.2.1) ((az F0 r).bind fun m=>some (m.1,false,())) ((Lo F0 c r g.1).bind fun h=>br (!h.2.1) ((az F0 r).bind fun o=>some (o.1,false,())) (some (h.1,true,())))) ((Sk F0 c a r.1).bind fun i=>br (!j) ((NX F0 i.1 b.1.2.2).bind fun p=>br (decide (p.1<(i.1.length:Int))) ((az F0 r).bind fun q=>some (q.1,false,())) ((YK F0 c a r.1).bind fun f=>(mM F0 c r f.1 (2,0,(ak,0,ak,[]),b.1,(0,ak,[]),0,0,0,0,0)).bind fun e=>some (e.1,e.2.1,()))) ((YK F0 c a r.1).bind fun f=>(mM F0 c r f.1 (2,0,(ak,0,ak,[]),b.1,(0,ak,[]),0,0,0,0,0)).bind fun e=>some (e.1,e.2.1,())))))):=by kernel_rfl
def AY:Any:=.one ⟨atQ,gx,0,fun x=>nS F0 x.1 x.2.1 x.2.2.1 x.2.2.2.1 x.2.2.2.2.1⟩
theorem O9:a6 176 AY:=aq ae9 ⟨ct,b8,sJ,I4,QY,apx,asE,asG,apB,apy,trivial⟩ func176 ad (by kernel_rfl)
def Q1:=[(48,mw),(49,dZ),(58,b1),(80,bN),(176,AY),(177,k4),(226,I1),(227,aa5),(228,AR)]
def re (c:D1)(r:a1)(b:D15):=bj Q1 F ad f161 aDA gx 1 (c,r,b,())
theorem afa (c:D1)(r:a1)(b:D15):re F c r b=(cp F0 c r).bind fun k=>br (!k.1) ((az F0 r).bind fun e=>some (e.1,false,())) ((nD F0 c b).bind fun l=>br (!l.1) ((az F0 r).bind fun e=>some (e.1,false,())) ((er F0 b.1).bind fun d=>(QS F0 c r.2.2.2.1 b.2).bind fun h=>(az F0 r).bind fun f=>br (decide (d.1>=r.2.1)) ((YI F0 c h.1 b).bind fun i=>(wx F0 c (f.1.1,d.1,f.1.2.2) i.1).bind fun a=>br (!a.2.1) ((az F0 r).bind fun g=>some (g.1,false,())) (br (!i.2.1) (some (a.1,true,())) ((eK F0 c a.1.2.2.2.2.2.1 (d.1,b.1,[r.1])).bind fun j=>br (!j.2.1) ((az F0 r).bind fun m=>some (m.1,false,())) ((nS F0 c (a.1.1,a.1.2.1,a.1.2.2.1,a.1.2.2.2.1,a.1.2.2.2.2.1,j.1,a.1.2.2.2.2.2.2) d.1 b.1 false).bind fun o=>some (o.1,true,()))))) ((wx F0 c f.1 h.1).bind fun a=>br (!a.2.1) ((az F0 r).bind fun g=>some (g.1,false,())) (some (a.1,true,()))))):=by kernel_rfl
def wy:Any:=.one ⟨aDA,gx,1,fun x=>re F0 x.1 x.2.1 x.2.2.1⟩
theorem NY:a6 161 wy:=aq Q1 ⟨vk,fs,ct,b8,O9,sH,Xr,awl,O7,trivial⟩ func161 ad (by kernel_rfl)
def Uw:=[(58,b1),(80,bN),(176,AY),(177,k4),(190,ou)]
def Ez (c:D1)(r:a1)(p:D9):=bj Uw F ad f162 ajG gx 1 (c,r,p,())
theorem ahW (c:D1)(r:a1)(p:D9):Ez F c r p=(cp F0 c r).bind fun e=>br (!e.1) ((az F0 r).bind fun a=>some (a.1,false,())) ((q2 F0 c p).bind fun f=>br (!f.1) ((az F0 r).bind fun a=>some (a.1,false,())) (br (p.2.1.toList==ak.toList) ((az F0 r).bind fun a=>some (a.1,false,())) (br (decide (p.1<r.2.1)) ((az F0 r).bind fun a=>some (a.1,false,())) ((eK F0 c r.2.2.2.2.2.1 p).bind fun d=>br (!d.2.1) ((az F0 r).bind fun g=>some (g.1,false,())) ((az F0 r).bind fun b=>(nS F0 c (b.1.1,b.1.2.1,b.1.2.2.1,b.1.2.2.2.1,b.1.2.2.2.2.1,d.1,b.1.2.2.2.2.2.2) p.1 p.2.1 false).bind fun h=>some (h.1,true,())))))):=by kernel_rfl
def NZ:Any:=.one ⟨ajG,gx,1,fun x=>Ez F0 x.1 x.2.1 x.2.2.1⟩
theorem ahX:a6 162 NZ:=aq Uw ⟨ct,b8,O9,sH,Ao,trivial⟩ func162 ad (by kernel_rfl)
def ajY:=[(182,GC),(232,AU)]
abbrev aGA:List (Ty×Bool):=[(K1,true),(cd,true),(.int .i64,false)]
def sK (c:D1)(r:a1)(a:Int):=bj ajY F ad f229 aGA aO 1 (c,r,a,())
theorem awr (c:D1)(r:a1)(a:Int):sK F c r a=(tU F0 r.2.2.2.2.2.1 a ak).bind fun b=>(Fu F0 c).bind fun d=>some (decide ((b.1.2.2.length:Int)>=d.1),()):=by kernel_rfl
def Pb:Any:=.one ⟨aGA,aO,1,fun x=>sK F0 x.1 x.2.1 x.2.2.1⟩
theorem afb:a6 229 Pb:=aq ajY ⟨WZ,QY,trivial⟩ func229 ad (by kernel_rfl)
def Ux:=[(41,bA),(58,b1),(80,bN),(107,ju),(168,lB),(177,k4),(226,I1),(228,AR),(229,Pb)]
def EA (c:D1)(r:a1)(a:Int)(q:D9)(cv:Int):=bj Ux F ad f163 aDB gx 2 (c,r,a,q,cv,())
theorem ahY (c:D1)(r:a1)(b:Int)(q:D9)(cv:Int):EA F c r b q cv=(cp F0 c r).bind fun g=>br (!g.1) ((az F0 r).bind fun d=>some (d.1,false,())) ((aZ F0 b 1 60).bind fun h=>br (!h.1) ((az F0 r).bind fun d=>some (d.1,false,())) ((mu F0 c q).bind fun i=>br (!i.1) ((az F0 r).bind fun d=>some (d.1,false,())) ((aZ F0 cv 0 (aj (c.1-1))).bind fun j=>br (!j.1) ((az F0 r).bind fun d=>some (d.1,false,())) ((QS F0 c r.2.2.2.1 q).bind fun k=>(wx F0 c r k.1).bind fun a=>br (!a.2.1) ((az F0 r).bind fun l=>some (l.1,false,())) ((sI F0 c b).bind fun m=>br (m.1==r.1) (br (decide (b>=r.2.1)) ((eK F0 c a.1.2.2.2.2.2.1 (b,ak,[cv])).bind fun f=>br (!f.2.1) ((az F0 r).bind fun o=>some (o.1,false,())) ((sK F0 c (a.1.1,(if (if 60<(aj (q.1+1)) then 60 else (aj (q.1+1)))>a.1.2.1 then (if 60<(aj (q.1+1)) then 60 else (aj (q.1+1))) else a.1.2.1,(a.1.2.2.1,a.1.2.2.2.1,a.1.2.2.2.2.1,f.1,a.1.2.2.2.2.2.2))) b).bind fun e=>br e.1 (some ((a.1.1,(if b>(if (if 60<(aj (q.1+1)) then 60 else (aj (q.1+1)))>a.1.2.1 then (if 60<(aj (q.1+1)) then 60 else (aj (q.1+1))) else a.1.2.1) then b else (if (if 60<(aj (q.1+1)) then 60 else (aj (q.1+1)))>a.1.2.1 then (if 60<(aj (q.1+1)) then 60 else (aj (q.1+1))) else a.1.2.1),(a.1.2.2.1,a.1.2.2.2.1,a.1.2.2.2.2.1,f.1,a.1.2.2.2.2.2.2))),true,())) (some ((a.1.1,(if (if 60<(aj (q.1+1)) then 60 else (aj (q.1+1)))>a.1.2.1 then (if 60<(aj (q.1+1)) then 60 else (aj (q.1+1))) else a.1.2.1,(a.1.2.2.1,a.1.2.2.2.1,a.1.2.2.2.2.1,f.1,a.1.2.2.2.2.2.2))),true,())))) ((sK F0 c (a.1.1,(if (if 60<(aj (q.1+1)) then 60 else (aj (q.1+1)))>a.1.2.1 then (if 60<(aj (q.1+1)) then 60 else (aj (q.1+1))) else a.1.2.1,a.1.2.2)) b).bind fun e=>br e.1 (some ((a.1.1,(if b>(if (if 60<(aj (q.1+1)) then 60 else (aj (q.1+1)))>a.1.2.1 then (if 60<(aj (q.1+1)) then 60 else (aj (q.1+1))) else a.1.2.1) then b else (if (if 60<(aj (q.1+1)) then 60 else (aj (q.1+1)))>a.1.2.1 then (if 60<(aj (q.1+1)) then 60 else (aj (q.1+1))) else a.1.2.1),a.1.2.2)),true,())) (some ((a.1.1,(if (if 60<(aj (q.1+1)) then 60 else (aj (q.1+1)))>a.1.2.1 then (if 60<(aj (q.1+1)) then 60 else (aj (q.1+1))) else a.1.2.1,a.1.2.2)),true,())))) ((sK F0 c (a.1.1,(if (if 60<(aj (q.1+1)) then 60 else (aj (q.1+1)))>a.1.2.1 then (if 60<(aj (q.1+1)) then 60 else (aj (q.1+1))) else a.1.2.1,a.1.2.2)) b).bind fun e=>br e.1 (some ((a.1.1,(if b>(if (if 60<(aj (q.1+1)) then 60 else (aj (q.1+1)))>a.1.2.1 then (if 60<(aj (q.1+1)) then 60 else (aj (q.1+1))) else a.1.2.1) then b else (if (if 60<(aj (q.1+1)) then 60 else (aj (q.1+1)))>a.1.2.1 then (if 60<(aj (q.1+1)) then 60 else (aj (q.1+1))) else a.1.2.1),a.1.2.2)),true,())) (some ((a.1.1,(if (if 60<(aj (q.1+1)) then 60 else (aj (q.1+1)))>a.1.2.1 then (if 60<(aj (q.1+1)) then 60 else (aj (q.1+1))) else a.1.2.1,a.1.2.2)),true,())))))))):=by kernel_rfl
def N1:Any:=.one ⟨aDB,gx,2,fun x=>EA F0 x.1 x.2.1 x.2.2.1 x.2.2.2.1 x.2.2.2.2.1⟩
theorem ahZ:a6 163 N1:=aq Ux ⟨bV,ct,b8,nB,sJ,sH,Xr,O7,afb,trivial⟩ func163 ad (by kernel_rfl)
def Xw:=[(116,GF),(152,CL),(279,wM),(281,E5)]
def I8 (p:D5)(x:D4):=bj Xw F ad f230 aDC V6 2 (p,x,())
theorem amh (p:D5)(x:D4):I8 F p x=br (decide ((pU (fun a=>RY a x) p 0)<0)) ((iP F0 p).bind fun b=>ck (ajl (p.length:Int) b.1.length [x].length) ((wZ F0 (b.1.take (p.length:Int).toNat++[x]++b.1.drop (p.length:Int).toNat)).bind fun c=>br (!c.1) ((iP F0 p).bind fun d=>some (d.1,false,())) (some (b.1.take (p.length:Int).toNat++[x]++b.1.drop (p.length:Int).toNat,true,())))) ((iP F0 p).bind fun b=>ck (ajl (pU (fun a=>RY a x) p 0) b.1.length [x].length) ((wZ F0 (b.1.take (pU (fun a=>RY a x) p 0).toNat++[x]++b.1.drop (pU (fun a=>RY a x) p 0).toNat)).bind fun c=>br (!c.1) ((iP F0 p).bind fun d=>some (d.1,false,())) (some (b.1.take (pU (fun a=>RY a x) p 0).toNat++[x]++b.1.drop (pU (fun a=>RY a x) p 0).toNat,true,())))):=by kernel_rfl
def Q2:Any:=.one ⟨aDC,V6,2,fun x=>I8 F0 x.1 x.2.1⟩
theorem ami:a6 230 Q2:=aq Xw ⟨W0,Uf,R0,Ze,trivial⟩ func230 ad (by kernel_rfl)
def aba:=[(58,b1),(80,bN),(230,Q2)]
def N2 (c:D1)(r:a1)(x:D4):=bj aba F ad f164 aDD gx 2 (c,r,x,())
theorem apC (c:D1)(r:a1)(x:D4):N2 F c r x=(az F0 r).bind fun a=>(cp F0 c r).bind fun d=>br (!d.1) (some (a.1,false,())) ((I8 F0 r.2.2.2.2.1 x).bind fun b=>some ((a.1.1,a.1.2.1,a.1.2.2.1,a.1.2.2.2.1,b.1,a.1.2.2.2.2.2),b.2.1,())):=by kernel_rfl
def Uy:Any:=.one ⟨aDD,gx,2,fun x=>N2 F0 x.1 x.2.1 x.2.2.1⟩
theorem apD:a6 164 Uy:=aq aba ⟨ct,b8,ami,trivial⟩ func164 ad (by kernel_rfl)
def sL:=[(222,hJ)]
def sM:Nat->Option Hint:=look [(3,{live:=[1,5,8,9,10],mat:=[(5,50,K9)],xl:=[5],rl:=[4]})]
def jU (a:Int)(b:List D9)(c d:Int)(e:List D9):= cQ 25 [(1,a8 a),(5,.v (.c (.own 1000000 none))),(8,hD 50 (K9) b),(9,a8 c),(10,a8 d)] [] [ay 1000000 50 K9 e]
def HE (a:List D9):= cQ 25 [(5,.v (.c (.own 1000000 none)))] [] [ay 1000000 50 K9 a]
def mN (a:St):Option U:=e9 sL F sM [.r,.r,.l,.r,.b,.i] f165 J n a
def wz:=hf sL F sM [.r,.r,.l,.r,.b] f165 G4 2
theorem BO (d:Int)(b:List D9)(e a:Int)(c:List D9):mN F J (n+1) (jU d b e a c)=br (decide (a<e)) (ck (bG a (b.length:Int)) (br (decide ((aK b a K9.aD).1>=d)) ((fh F0 (aK b a K9.aD)).bind fun f=>ck (ei F c.length [f.1].length 48) (mN F J n (jU d b e (aj (a+1)) (c++[f.1])))) (mN F J n (jU d b e (aj (a+1)) c)))) (J (.exit 0) (HE c)):=by kernel_rfl
theorem Xx (a:List D9):wz F (.exit 0) (HE a)=some (a,()):=by kernel_rfl
def gW (a:D13)(b:Int):=bj sL F sM f165 aDE G4 2 (a,b,())
theorem afc (a:D13)(b:Int):gW F a b=mN F (wz F) F.n (jU b a (a.length:Int) 0 []):=by kernel_rfl
def Lr:Any:=.one ⟨aDE,G4,2,fun x=>gW F0 x.1 x.2.1⟩
theorem afd:a6 165 Lr:=aq sL ⟨mI,trivial⟩ func165 sM (by kernel_rfl)
def sN:Nat->Option Hint:=look [(3,{live:=[0,1,2],x3:=[(0,0,3,.int .i64),(0,1,3,.int .i64),(1,0,3,.int .i64)],xl:=[0,1],rl:=[0]})]
def gh (i:Int)(d a b c:List Int):= cQ 15 [b0 0,b0 1,(2,a8 i)] [(0,[.own 1000000 none,.own 1000001 none]),(1,[.own 1000002 none,.own 1000003 none])] [ay 1000000 3 (.int .i64) d,ay 1000001 3 (.int .i64) a,ay 1000002 3 (.int .i64) b,ay 1000003 3 (.int .i64) c]
def HF (d a b c:List Int):= cQ 15 [b0 0,b0 1] [(0,[.own 1000000 none,.own 1000001 none]),(1,[.own 1000002 none,.own 1000003 none])] [ay 1000000 3 (.int .i64) d,ay 1000001 3 (.int .i64) a,ay 1000002 3 (.int .i64) b,ay 1000003 3 (.int .i64) c]
def jE (a:St):Option U:=e9 aA F sN [.r,.r,.l,.r,.b,.i] f87 J n a
def jV:=hf aA F sN [.r,.r,.l,.r,.b] f87 na 2
theorem BP (i:Int)(d b a c:List Int):jE F J (n+1) (gh i d b a c)=br (decide (i<4)) (ck (ei F a.length [100].length 8) (jE F J n (gh (aj (i+1)) d b (a++[100]) c))) (J (.exit 0) (HF d b a c)):=by kernel_rfl
theorem Xy (d c a b:List Int):jV F (.exit 0) (HF d c a b)=some ((a,b),()):=by kernel_rfl
def jW: Option (Args na):=bj aA F sN f87 [] na 2 (())
theorem afe: jW F= ck (okM F 4 4 8) (jE F (jV F) F.n (gh 0 [] [] [] (List.replicate (4:Int).toNat 0))):=by kernel_rfl
def nT:Any:=.one ⟨[],na,2,fun x=>jW F0⟩
theorem AZ:a6 87 nT:=aq aA trivial func87 sN (by kernel_rfl)
def I9:=[(109,qV)]
def Ja:Nat->Option Hint:=look [(4,{live:=[5,13,14,15],mat:=[(5,52,K4)],xl:=[5],rl:=[2]})]
def A0 (b c:Int)(d:List D4)(a:List D6):= cQ 25 [(5,.v (.c (.own 1000000 none))),(13,.v (.c (.own 1000001 none))),(14,a8 b),(15,a8 c)] [] [ay 1000000 52 K4 d,ay 1000001 157 K6 a]
def Uz (a:List D4):= cQ 25 [(5,.v (.c (.own 1000000 none)))] [] [ay 1000000 52 K4 a]
def Jb (a:St):Option U:=e9 I9 F Ja [.r,.r,.r,.l,.r,.b,.i] f85 J n a
def Ls:=hf I9 F Ja [.r,.r,.r,.l,.r,.b] f85 kd 2
theorem N3 (d a:Int)(c:List D4)(b:List D6):Jb F J (n+1) (A0 d a c b)=br (decide (a<d)) (ck (bG a (b.length:Int)) (ck (ei F c.length (aK b a (0,[])).2.length 32) (Jb F J n (A0 d (aj (a+1)) (c++(aK b a (0,[])).2) b)))) (J (.exit 0) (Uz c)):=by kernel_rfl
theorem ah0 (a:List D4):Ls F (.exit 0) (Uz a)=some (a,()):=by kernel_rfl
def rf (s:ByteArray):=bj I9 F Ja f85 dB kd 2 (s,())
theorem asI (s:ByteArray):rf F s=(qU F0 s).bind fun a=>Jb F (Ls F) F.n (A0 (a.1.length:Int) 0 [] a.1):=by kernel_rfl
def A2:Any:=.one ⟨dB,kd,2,fun x=>rf F0 x.1⟩
theorem Pc:a6 85 A2:=aq I9 ⟨Ec,trivial⟩ func85 Ja (by kernel_rfl)
def N4:=[(29,fq)]
def kx (l:D43):=bj N4 F ad f157 na na 2 (l,())
theorem acB (l:D43):kx F l=(dY F0 l.1).bind fun a=>(dY F0 l.2).bind fun b=>some ((a.1,b.1),()):=by kernel_rfl
def tl:Any:=.one ⟨na,na,2,fun x=>kx F0 x.1⟩
theorem Lt:a6 157 tl:=aq N4 ⟨jB,trivial⟩ func157 ad (by kernel_rfl)
def sO:=[(41,bA)]
def sP:Nat->Option Hint:=look [(2,{live:=[1,2,9,10,11],rl:=[6]})]
def nU (low high:Int)(a:List Int)(b c:Int):= bO 21 [(1,a8 low),(2,a8 high),(9,hD 3 (.int .i64) a),(10,a8 b),(11,a8 c)]
def Lu (a:Bool):= bO 21 [(6,H0 a)]
def HG   := bO 21 []
def sQ (a:St):Option U:=e9 sO F sP [.r,.l,.r,.b,.i] f274 J n a
def nV:=hf sO F sP [.r,.l,.r,.b] f274 aO 1
theorem BQ (low high:Int)(b:List Int)(c a:Int):sQ F J (n+1) (nU low high b c a)=br (decide (a<c)) (ck (bG a (b.length:Int)) ((aZ F0 (aK b a 0) low high).bind fun d=>br (!d.1) (J .ret (Lu false)) (sQ F J n (nU low high b c (aj (a+1)))))) (J (.exit 0) (HG)):=by kernel_rfl
theorem Zw (a:Bool):nV F .ret (Lu a)=some (a,()):=by kernel_rfl
theorem Xz: nV F (.exit 0) (HG)=some (true,()):=by kernel_rfl
abbrev aJQ:List (Ty×Bool):=[(.sl 3 (.int .i64),false),(.int .i64,false),(.int .i64,false)]
def rh (a:List Int)(low high:Int):=bj sO F sP f274 aJQ aO 1 (a,low,high,())
theorem aff (a:List Int)(low high:Int):rh F a low high=sQ F (nV F) F.n (nU low high a (a.length:Int) 0):=by kernel_rfl
def Lv:Any:=.one ⟨aJQ,aO,1,fun x=>rh F0 x.1 x.2.1 x.2.2.1⟩
theorem afg:a6 274 Lv:=aq sO ⟨bV,trivial⟩ func274 sP (by kernel_rfl)
def UA:=[(274,Lv)]
def tX (l:D43):=bj UA F ad f225 na aO 1 (l,())
theorem ah1 (l:D43):tX F l=br ((l.1.length:Int)==4) (br ((l.2.length:Int)==4) ((rh F0 l.1 0 400).bind fun a=>br a.1 ((rh F0 l.2 0 100).bind fun b=>some (b.1,())) (some (false,()))) (some (false,()))) (some (false,())):=by kernel_rfl
def N5:Any:=.one ⟨na,aO,1,fun x=>tX F0 x.1⟩
theorem ah2:a6 225 N5:=aq UA ⟨afg,trivial⟩ func225 ad (by kernel_rfl)
def apE:=[(104,jt),(157,tl),(225,N5)]
def Lw (l:D43)(x:D4):=bj apE F ad f158 aDo aDp 2 (l,x,())
theorem ayH (l:D43)(x:D4):Lw F l x=(kx F0 l).bind fun a=>(tX F0 l).bind fun b=>br (!b.1) (some (a.1,1,())) ((oT F0 x).bind fun c=>br (!c.1) (some (a.1,1,())) (ck (bG x.1 (l.2.length:Int)) (br (decide (x.2.2.2<(aK l.2 x.1 0))) (some (a.1,2,())) (ck (bG x.1 (l.2.length:Int)) (br (decide (x.2.2.2>(aK l.2 x.1 0))) (some (a.1,3,())) (ck (bG x.1 (a.1.2.length:Int)) (ck (bG x.1 (a.1.2.length:Int)) (ck (bG x.1 (l.1.length:Int)) (br (decide (x.2.2.1>(aK l.1 x.1 0))) (some ((a.1.1,a.1.2.set x.1.toNat (aj ((aK a.1.2 x.1 0)+1))),4,())) (ck (bG x.1 (a.1.1.length:Int)) (ck (bG x.1 (a.1.1.length:Int)) (ck (bG x.2.1 ((a.1.1.set x.1.toNat (aj ((aK a.1.1 x.1 0)-x.2.2.1))).length:Int)) (ck (bG x.2.1 ((a.1.1.set x.1.toNat (aj ((aK a.1.1 x.1 0)-x.2.2.1))).length:Int)) ((tX F0 ((a.1.1.set x.1.toNat (aj ((aK a.1.1 x.1 0)-x.2.2.1))).set x.2.1.toNat (aj ((aK (a.1.1.set x.1.toNat (aj ((aK a.1.1 x.1 0)-x.2.2.1))) x.2.1 0)+x.2.2.1)),a.1.2.set x.1.toNat (aj ((aK a.1.2 x.1 0)+1)))).bind fun d=>br (!d.1) ((kx F0 l).bind fun e=>some (e.1,1,())) (some (((a.1.1.set x.1.toNat (aj ((aK a.1.1 x.1 0)-x.2.2.1))).set x.2.1.toNat (aj ((aK (a.1.1.set x.1.toNat (aj ((aK a.1.1 x.1 0)-x.2.2.1))) x.2.1 0)+x.2.2.1)),a.1.2.set x.1.toNat (aj ((aK a.1.2 x.1 0)+1))),0,())))))))))))))))):=by kernel_rfl
def Jc:Any:=.one ⟨aDo,aDp,2,fun x=>Lw F0 x.1 x.2.1⟩
theorem XA:a6 158 Jc:=aq apE ⟨nA,Lt,ah2,trivial⟩ func158 ad (by kernel_rfl)
def EB:=[(157,tl),(158,Jc)]
def EC:Nat->Option Hint:=look [(4,{live:=[4,6,7,14,15,16],mat:=[(7,3,.int .i64)],x3:=[(4,0,3,.int .i64),(4,1,3,.int .i64)],xl:=[4,6,7],rl:=[4,5]})]
def vA (e:List D4)(f g:Int)(h a b c d:List Int):= cQ 34 [b0 4,b0 6,(7,.v (.c (.own 1000000 none))),(14,hD 52 (K4) e),(15,a8 f),(16,a8 g)] [(4,[.own 1000001 none,.own 1000002 none]),(6,[.own 1000003 none,.own 1000004 none])] [ay 1000000 3 (.int .i64) h,ay 1000001 3 (.int .i64) a,ay 1000002 3 (.int .i64) b,ay 1000003 3 (.int .i64) c,ay 1000004 3 (.int .i64) d]
def Q3 (e a b c d:List Int):= cQ 34 [b0 4,b0 6,(7,.v (.c (.own 1000000 none)))] [(4,[.own 1000001 none,.own 1000002 none]),(6,[.own 1000003 none,.own 1000004 none])] [ay 1000000 3 (.int .i64) e,ay 1000001 3 (.int .i64) a,ay 1000002 3 (.int .i64) b,ay 1000003 3 (.int .i64) c,ay 1000004 3 (.int .i64) d]
def ED (a:St):Option U:=e9 EB F EC [.r,.r,.r,.l,.r,.b,.i] f86 J n a
def GO:=hf EB F EC [.r,.r,.r,.l,.r,.b] f86 atM 2
theorem Lx (c:List D4)(i a:Int)(d e f g h:List Int):ED F J (n+1) (vA c i a d e f g h)=br (decide (a<i)) (ck (bG a (c.length:Int)) ((Lw F0 (g,h) (aK c a K4.aD)).bind fun b=>ck (ei F d.length [b.2.1].length 8) (ED F J n (vA c i (aj (a+1)) (d++[b.2.1]) e f b.1.1 b.1.2)))) (J (.exit 0) (Q3 d e f g h)):=by kernel_rfl
theorem afh (c d e a b:List Int):GO F (.exit 0) (Q3 c d e a b)=some ((a,b),c,()):=by kernel_rfl
def ri (l:D43)(a:D5):=bj EB F EC f86 aDq atM 2 (l,a,())
theorem apF (l:D43)(a:D5):ri F l a=(kx F0 l).bind fun b=>ED F (GO F) F.n (vA a (a.length:Int) 0 [] [] [] b.1.1 b.1.2):=by kernel_rfl
def vB:Any:=.one ⟨aDq,atM,2,fun x=>ri F0 x.1 x.2.1⟩
theorem Ly:a6 86 vB:=aq EB ⟨Lt,XA,trivial⟩ func86 EC (by kernel_rfl)
def afi:=[(58,b1),(85,A2),(86,vB),(87,nT)]
def lC (c:D1)(r:a1):=bj afi F ad f84 xt na 2 (c,r,())
theorem asJ (c:D1)(r:a1):lC F c r=(cp F0 c r).bind fun a=>br (!a.1) (some (([],[]),())) ((jW F0).bind fun b=>(rf F0 r.2.2.2.1.2.2.2).bind fun d=>(ri F0 b.1 d.1).bind fun e=>some (e.1,())):=by kernel_rfl
def LA:Any:=.one ⟨xt,na,2,fun x=>lC F0 x.1 x.2.1⟩
theorem abb:a6 84 LA:=aq afi ⟨ct,Pc,Ly,AZ,trivial⟩ func84 ad (by kernel_rfl)
def vC:=[(158,Jc)]
def vD:Nat->Option Hint:=look [(3,{live:=[3,5,10,11,12],mat:=[(5,52,K4)],xl:=[5],rl:=[4]})]
def k6 (b:List D4)(c d:Int)(l a:List Int)(e:List D4):= cQ 30 [b0 3,(5,.v (.c (.own 1000000 none))),(10,hD 52 (K4) b),(11,a8 c),(12,a8 d)] [(3,[.ro false 3 (.int .i64) l,.ro false 3 (.int .i64) a])] [ay 1000000 52 K4 e]
def LB (a:List D4):= cQ 30 [(5,.v (.c (.own 1000000 none)))] [] [ay 1000000 52 K4 a]
def oB (a:St):Option U:=e9 vC F vD [.r,.r,.l,.r,.b,.i] f166 J n a
def A3:=hf vC F vD [.r,.r,.l,.r,.b] f166 kd 2
theorem FH (b:List D4)(e a:Int)(l d:List Int)(c:List D4):oB F J (n+1) (k6 b e a l d c)=br (decide (a<e)) (ck (bG a (b.length:Int)) ((Lw F0 (l,d) (aK b a K4.aD)).bind fun f=>br (f.2.1 != 2) (ck (ei F c.length [(aK b a K4.aD)].length 32) (oB F J n (k6 b e (aj (a+1)) l d (c++[(aK b a K4.aD)])))) (oB F J n (k6 b e (aj (a+1)) l d c)))) (J (.exit 0) (LB c)):=by kernel_rfl
theorem Zx (a:List D4):A3 F (.exit 0) (LB a)=some (a,()):=by kernel_rfl
def jv (p:D5)(l:D43):=bj vC F vD f166 ajz kd 2 (p,l,())
theorem ah3 (p:D5)(l:D43):jv F p l=oB F (A3 F) F.n (k6 p (p.length:Int) 0 l.1 l.2 []):=by kernel_rfl
def N6:Any:=.one ⟨ajz,kd,2,fun x=>jv F0 x.1 x.2.1⟩
theorem ah4:a6 166 N6:=aq vC ⟨XA,trivial⟩ func166 vD (by kernel_rfl)
def ajZ:=[(80,bN),(84,LA),(119,mx),(161,wy),(162,NZ),(163,N1),(164,Uy),(165,Lr),(166,N6)]
def JF (c:D1)(r:a1)(m:OW):=bj ajZ F ad f96 aax gx 1 (c,r,m,())
theorem aws (c:D1)(r:a1)(m:OW):JF F c r m=(gb F0 c m).bind fun j=>br (!j.1) ((az F0 r).bind fun k=>some (k.1,false,())) (br (m.1==1) ((re F0 c r m.2.2.1).bind fun a=>br (!a.2.1) ((az F0 r).bind fun g=>some (g.1,false,())) ((gW F0 a.1.2.2.2.2.2.1 (aj (a.1.2.1-1))).bind fun f=>(lC F0 c (a.1.1,a.1.2.1,a.1.2.2.1,a.1.2.2.2.1,a.1.2.2.2.2.1,f.1,a.1.2.2.2.2.2.2)).bind fun h=>(jv F0 a.1.2.2.2.2.1 h.1).bind fun i=>some ((a.1.1,a.1.2.1,a.1.2.2.1,a.1.2.2.2.1,i.1,f.1,a.1.2.2.2.2.2.2),true,()))) (br (m.1==2) ((Ez F0 c r m.2.2.2.1).bind fun b=>br (!b.2.1) ((az F0 r).bind fun g=>some (g.1,false,())) ((gW F0 b.1.2.2.2.2.2.1 (aj (b.1.2.1-1))).bind fun f=>(lC F0 c (b.1.1,b.1.2.1,b.1.2.2.1,b.1.2.2.2.1,b.1.2.2.2.2.1,f.1,b.1.2.2.2.2.2.2)).bind fun h=>(jv F0 b.1.2.2.2.2.1 h.1).bind fun i=>some ((b.1.1,b.1.2.1,b.1.2.2.1,b.1.2.2.2.1,i.1,f.1,b.1.2.2.2.2.2.2),true,()))) (br (m.1==3) ((EA F0 c r m.2.1 m.2.2.2.2.1 m.2.2.2.2.2.1).bind fun d=>br (!d.2.1) ((az F0 r).bind fun g=>some (g.1,false,())) ((gW F0 d.1.2.2.2.2.2.1 (aj (d.1.2.1-1))).bind fun f=>(lC F0 c (d.1.1,d.1.2.1,d.1.2.2.1,d.1.2.2.2.1,d.1.2.2.2.2.1,f.1,d.1.2.2.2.2.2.2)).bind fun h=>(jv F0 d.1.2.2.2.2.1 h.1).bind fun i=>some ((d.1.1,d.1.2.1,d.1.2.2.1,d.1.2.2.2.1,i.1,f.1,d.1.2.2.2.2.2.2),true,()))) ((N2 F0 c r m.2.2.2.2.2.2).bind fun e=>br (!e.2.1) ((az F0 r).bind fun g=>some (g.1,false,())) ((gW F0 e.1.2.2.2.2.2.1 (aj (e.1.2.1-1))).bind fun f=>(lC F0 c (e.1.1,e.1.2.1,e.1.2.2.1,e.1.2.2.2.1,e.1.2.2.2.2.1,f.1,e.1.2.2.2.2.2.2)).bind fun h=>(jv F0 e.1.2.2.2.2.1 h.1).bind fun i=>some ((e.1.1,e.1.2.1,e.1.2.2.1,e.1.2.2.2.1,i.1,f.1,e.1.2.2.2.2.2.2),true,())))))):=by kernel_rfl
def Pd:Any:=.one ⟨aax,gx,1,fun x=>JF F0 x.1 x.2.1 x.2.2.1⟩
theorem afj:a6 96 Pd:=aq ajZ ⟨b8,abb,tM,NY,ahX,ahZ,apD,afd,ah4,trivial⟩ func96 ad (by kernel_rfl)
def EE:=[(51,cO),(93,ew)]
def EF:Nat->Option Hint:=look [(2,{live:=[0,1,2,3,13,14,15],rl:=[10]})]
def oC (liars:List Int)(a:List bE)(b:Int)(name:ByteArray)(c:List Int)(d e:Int):= bO 33 [(0,hD 3 (.int .i64) liars),(1,hD 41 (cz) a),(2,a8 b),(3,ZY name),(13,hD 3 (.int .i64) c),(14,a8 d),(15,a8 e)]
def UB (a:Bool):= bO 33 [(10,H0 a)]
def Q4   := bO 33 []
def tY (a:St):Option U:=e9 EE F EF [.r,.l,.r,.b,.i] f167 J n a
def vE:=hf EE F EF [.r,.l,.r,.b] f167 aO 1
theorem LC (liars:List Int)(c:List bE)(d:Int)(name:ByteArray)(b:List Int)(e a:Int):tY F J (n+1) (oC liars c d name b e a)=br (decide (a<e)) (ck (bG a (b.length:Int)) ((c7 F0 liars (aK b a 0)).bind fun f=>br (!f.1) ((c9 F0 c (d,name,aK b a 0)).bind fun g=>br (!g.1) (J .ret (UB false)) (tY F J n (oC liars c d name b e (aj (a+1))))) (tY F J n (oC liars c d name b e (aj (a+1)))))) (J (.exit 0) (Q4)):=by kernel_rfl
theorem ah5 (a:Bool):vE F .ret (UB a)=some (a,()):=by kernel_rfl
theorem afk: vE F (.exit 0) (Q4)=some (true,()):=by kernel_rfl
def w5 (liars:List Int)(a:D38)(b:Int)(name:ByteArray)(cv:List Int):=bj EE F EF f167 aDF aO 1 (liars,a,b,name,cv,())
theorem apG (liars:List Int)(a:D38)(b:Int)(name:ByteArray)(cv:List Int):w5 F liars a b name cv=tY F (vE F) F.n (oC liars a b name cv (cv.length:Int) 0):=by kernel_rfl
def UC:Any:=.one ⟨aDF,aO,1,fun x=>w5 F0 x.1 x.2.1 x.2.2.1 x.2.2.2.1 x.2.2.2.2.1⟩
theorem apH:a6 167 UC:=aq EE ⟨dP,ih,trivial⟩ func167 EF (by kernel_rfl)
def abc:=[(49,dZ),(51,cO),(55,kt),(119,mx),(167,UC),(168,lB),(169,CB)]
def N7 (c:D1)(liars:List Int)(a:D38)(m:OW):=bj abc F ad f97 aDG aO 1 (c,liars,a,m,())
theorem apI (c:D1)(liars:List Int)(a:D38)(m:OW):N7 F c liars a m=(gb F0 c m).bind fun f=>br (!f.1) (some (false,())) (br (m.1==4) (some (true,())) (br (m.1==2) ((w5 F0 liars a m.2.2.2.1.1 m.2.2.2.1.2.1 m.2.2.2.1.2.2).bind fun g=>some (g.1,())) (br (m.1==1) ((er F0 m.2.2.1.1).bind fun h=>(sI F0 c h.1).bind fun i=>(c7 F0 liars i.1).bind fun j=>br (!j.1) (some (false,())) ((se F0).bind fun b=>(jj F0 m.2.2.1.2 b.1).bind fun d=>br d.1 (some (true,())) ((w5 F0 liars a m.2.2.1.2.1 m.2.2.1.2.2.1 m.2.2.1.2.2.2).bind fun e=>some (e.1,())))) ((c7 F0 liars m.2.2.2.2.2.1).bind fun k=>br (!k.1) (some (false,())) ((se F0).bind fun b=>(jj F0 m.2.2.2.2.1 b.1).bind fun d=>br d.1 (some (true,())) ((w5 F0 liars a m.2.2.2.2.1.1 m.2.2.2.2.1.2.1 m.2.2.2.2.1.2.2).bind fun e=>some (e.1,()))))))):=by kernel_rfl
def UD:Any:=.one ⟨aDG,aO,1,fun x=>N7 F0 x.1 x.2.1 x.2.2.1 x.2.2.2.1⟩
theorem apJ:a6 97 UD:=aq abc ⟨fs,dP,qJ,tM,apH,sJ,T5,trivial⟩ func97 ad (by kernel_rfl)
def XB:=[(17,fP),(35,gf),(51,cO),(59,AA),(81,AG),(95,x9),(96,Pd),(97,UD),(98,AM)]
def XC:Nat->Option Hint:=look [(900015,{live:=[],mat:=[(2,0,hz)]})]
def nW (w:ko)(d:D45):=bj XB F XC f44 ajN aeY 0 (w,d,())
theorem amj (w:ko)(d:D45):nW F w d=(aS F0 w).bind fun a=>br (d.1==3) (ck (bG d.2.1 (w.2.2.2.1.length:Int)) (ck (S5 d.2.1 (aj (d.2.1+1)) (a.1.2.2.2.1.length:Int)) ((CI F0 w.1 (aK w.2.2.2.1 d.2.1 (0,[])).2).bind fun b=>br b.2.1 ((gV F0 w).bind fun f=>(c7 F0 f.1 (aK w.2.2.2.1 d.2.1 (0,[])).1).bind fun g=>br g.1 (ck (bG (aK w.2.2.2.1 d.2.1 (0,[])).1 (w.2.2.1.length:Int)) ((JF F0 w.1 (aK w.2.2.1 (aK w.2.2.2.1 d.2.1 (0,[])).1 cd.aD) b.1).bind fun h=>ck (bG (aK w.2.2.2.1 d.2.1 (0,[])).1 (a.1.2.2.1.length:Int)) (some ((a.1.1,a.1.2.1,a.1.2.2.1.set (aK w.2.2.2.1 d.2.1 (0,[])).1.toNat h.1,a.1.2.2.2.1.take d.2.1.toNat++a.1.2.2.2.1.drop (aj (d.2.1+1)).toNat,a.1.2.2.2.2),0,())))) (some ((a.1.1,a.1.2.1,a.1.2.2.1,a.1.2.2.2.1.take d.2.1.toNat++a.1.2.2.2.1.drop (aj (d.2.1+1)).toNat,a.1.2.2.2.2),0,()))) (some ((a.1.1,a.1.2.1,a.1.2.2.1,a.1.2.2.2.1.take d.2.1.toNat++a.1.2.2.2.1.drop (aj (d.2.1+1)).toNat,a.1.2.2.2.2),0,()))))) (br (d.1==4) (ck (S5 d.2.1 (aj (d.2.1+1)) (a.1.2.2.2.1.length:Int)) (some ((a.1.1,a.1.2.1,a.1.2.2.1,a.1.2.2.2.1.take d.2.1.toNat++a.1.2.2.2.1.drop (aj (d.2.1+1)).toNat,a.1.2.2.2.2),0,()))) (br (d.1==5) (ck (bG d.2.1 (w.2.2.2.1.length:Int)) ((tP F0 (aK w.2.2.2.1 d.2.1 (0,[]))).bind fun c=>ck (ei F a.1.2.2.2.1.length [c.1].length 32) (some ((a.1.1,a.1.2.1,a.1.2.2.1,a.1.2.2.2.1++[c.1],a.1.2.2.2.2),0,())))) ((N7 F0 w.1 w.2.1 w.2.2.2.2 d.2.2.2).bind fun i=>br (!i.1) (some (w,5,())) ((tS F0 w.1 d.2.2.2).bind fun e=>ck (ei F a.1.2.2.2.1.length [(d.2.1,e.1)].length 32) (some ((a.1.1,a.1.2.1,a.1.2.2.1,a.1.2.2.2.1++[(d.2.1,e.1)],a.1.2.2.2.2),0,())))))):=by kernel_rfl
def Q5:Any:=.one ⟨ajN,aeY,0,fun x=>nW F0 x.1 x.2.1⟩
theorem amk:a6 44 Q5:=aq XB ⟨jT,k0,dP,O3,QG,UY,afj,apJ,QN,trivial⟩ func44 XC (by kernel_rfl)
end
end Go.Am.Tryz
