/- No condition. -/
import Derived.Test.YtaheoongenkdbaaGreatDoorQsXJG5
set_option linter.all false
set_option maxRecDepth 100000
namespace Go.Am.Tryz
open Go.Am Go.Proofs Go.Proofs.Tryz
noncomputable section
variable {U:Type} (F:nT) (J:Ex->St->Option U) (n:Nat)
def gJ:=[(82,OH),(83,UF),(84,E0),(85,ec),(86,Yg)]
def gK:Nat->Option Hint:=look [(4,{live:=[1,2,4,6,7,8,28,29,30],vW:=[(4,2,3,.int .i64),(4,3,50,bD),(4,4,102,eH),(4,5,95,c8)],xl:=[1,2,4,6,7,8],rl:=[4,5]}),(7,{live:=[1,2,4,6,7,8,28,29,30,37,38,39],xl:=[1,2,4,6,7,8,28,29,30],rl:=[4,5]})]
def ov (a H I K L w b:Int)(c:List Int)(d:List a6)(e:List bZ)(f:List bT)(M N r g h i j k:Int)(l m:ByteArray)(o O p:Int)(P:List iO)(q:List bT)(s:List Int)(t:List a6)(u:List bZ)(v:List bT)(x:List Int)(y:List D4)(z:List D9)(A:List Int)(B:List iO)(C:List Int)(D:List a6)(E:List bZ)(G:List bT):= di 67 [(1,bp a),b0 2,b0 4,b0 6,(7,.v (.c (.own 1000000 none))),b0 8,(28,.v (.c (.own 1000000 none))),(29,bp H),(30,bp I),(37,.v (.c (.own 1000001 none))),(38,bp K),(39,bp L)] [(2,[an w,an b,.ro false 3 (.int .i64) c,.ro false 50 (bD) d,.ro false 102 (eH) e,.ro false 95 (c8) f]),(4,[an M,an N,.own 1000002 none,.own 1000003 none,.own 1000004 none,.own 1000005 none]),(6,[an r,an g,an h,an i,an j,an k,.str l,.own 1000006 none,.str m,.own 1000007 none,.own 1000008 none,.own 1000009 none,an o,.own 1000010 none]),(8,[an O,an p,.own 1000011 none,.own 1000012 none,.own 1000013 none,.own 1000014 none])] [ax 1000000 119 nV P,ax 1000001 95 c8 q,ax 1000002 3 (.int .i64) s,ax 1000003 50 bD t,ax 1000004 102 eH u,ax 1000005 95 c8 v,ax 1000006 3 (.int .i64) x,ax 1000007 63 K4 y,ax 1000008 61 K9 z,ax 1000009 5 (.int .u8) A,ax 1000010 119 nV B,ax 1000011 3 (.int .i64) C,ax 1000012 50 bD D,ax 1000013 102 eH E,ax 1000014 95 c8 G]
def LL (a b c:Int)(d:List Int)(e:List a6)(f:List bZ)(g:List bT):= di 67 [b0 4,(5,bp a)] [(4,[an b,an c,.ro false 3 (.int .i64) d,.ro false 50 (bD) e,.ro false 102 (eH) f,.ro false 95 (c8) g])] []
def Jo (a G H w b:Int)(c:List Int)(d:List a6)(e:List bZ)(f:List bT)(I K r g h i j k:Int)(l m:ByteArray)(o L p:Int)(M:List iO)(q:List Int)(s:List a6)(t:List bZ)(u:List bT)(v:List Int)(x:List D4)(y:List D9)(z:List Int)(A:List iO)(B:List Int)(C:List a6)(D:List bZ)(E:List bT):= di 67 [(1,bp a),b0 2,b0 4,b0 6,(7,.v (.c (.own 1000000 none))),b0 8,(28,.v (.c (.own 1000000 none))),(29,bp G),(30,bp H)] [(2,[an w,an b,.ro false 3 (.int .i64) c,.ro false 50 (bD) d,.ro false 102 (eH) e,.ro false 95 (c8) f]),(4,[an I,an K,.own 1000001 none,.own 1000002 none,.own 1000003 none,.own 1000004 none]),(6,[an r,an g,an h,an i,an j,an k,.str l,.own 1000005 none,.str m,.own 1000006 none,.own 1000007 none,.own 1000008 none,an o,.own 1000009 none]),(8,[an L,an p,.own 1000010 none,.own 1000011 none,.own 1000012 none,.own 1000013 none])] [ax 1000000 119 nV M,ax 1000001 3 (.int .i64) q,ax 1000002 50 bD s,ax 1000003 102 eH t,ax 1000004 95 c8 u,ax 1000005 3 (.int .i64) v,ax 1000006 63 K4 x,ax 1000007 61 K9 y,ax 1000008 5 (.int .u8) z,ax 1000009 119 nV A,ax 1000010 3 (.int .i64) B,ax 1000011 50 bD C,ax 1000012 102 eH D,ax 1000013 95 c8 E]
def ue (a:St):Option U:=fp gJ F gK [.r,.r,.r,.l,.r,.b,.i,.r,.r,.l,.b,.r,.r,.b,.i] f44 J n a
def ow:Ex->St->Option U:=adj Tryz.prog (look gJ) F gK [.r,.r,.l,.b,.r,.r,.b] (sub [.r,.r,.r,.l,.r,.b,.i] (iu f44)) (itk Tryz.prog (look gJ) F gK (sub [.r,.r,.r,.l,.r,.b,.i] (iu f44)) J n)
def jW (a G H w b:Int)(c:List Int)(d:List a6)(e:List bZ)(f:List bT)(I K r g h i j k:Int)(l m:ByteArray)(o L p:Int)(M:List iO)(q:List Int)(s:List a6)(t:List bZ)(u:List bT)(v:List Int)(x:List D4)(y:List D9)(z:List Int)(A:List iO)(B:List Int)(C:List a6)(D:List bZ)(E:List bT):= di 67 [(1,bp a),b0 2,b0 4,b0 6,(7,.v (.c (.own 1000000 none))),b0 8,(28,.v (.c (.own 1000000 none))),(29,bp G),(30,bp H)] [(2,[an w,an b,.ro false 3 (.int .i64) c,.ro false 50 (bD) d,.ro false 102 (eH) e,.ro false 95 (c8) f]),(4,[an I,an K,.own 1000001 none,.own 1000002 none,.own 1000003 none,.own 1000004 none]),(6,[an r,an g,an h,an i,an j,an k,.str l,.own 1000005 none,.str m,.own 1000006 none,.own 1000007 none,.own 1000008 none,an o,.own 1000009 none]),(8,[an L,an p,.own 1000010 none,.own 1000011 none,.own 1000012 none,.own 1000013 none])] [ax 1000000 119 nV M,ax 1000001 3 (.int .i64) q,ax 1000002 50 bD s,ax 1000003 102 eH t,ax 1000004 95 c8 u,ax 1000005 3 (.int .i64) v,ax 1000006 63 K4 x,ax 1000007 61 K9 y,ax 1000008 5 (.int .u8) z,ax 1000009 119 nV A,ax 1000010 3 (.int .i64) B,ax 1000011 50 bD C,ax 1000012 102 eH D,ax 1000013 95 c8 E]
def LM (a b c:Int)(d:List Int)(e:List a6)(f:List bZ)(g:List bT):= di 67 [b0 4,(5,bp a)] [(4,[an b,an c,.ro false 3 (.int .i64) d,.ro false 50 (bD) e,.ro false 102 (eH) f,.ro false 95 (c8) g])] []
def uZ (a w b:Int)(c:List Int)(d:List a6)(e:List bZ)(f:List bT)(G H r g h i j k:Int)(l m:ByteArray)(o I p:Int)(K:List iO)(q:List Int)(s:List a6)(t:List bZ)(u:List bT)(v:List Int)(x:List D4)(y:List D9)(z:List Int)(A:List iO)(B:List Int)(C:List a6)(D:List bZ)(E:List bT):= di 67 [(1,bp a),b0 2,b0 4,b0 6,(7,.v (.c (.own 1000000 none))),b0 8] [(2,[an w,an b,.ro false 3 (.int .i64) c,.ro false 50 (bD) d,.ro false 102 (eH) e,.ro false 95 (c8) f]),(4,[an G,an H,.own 1000001 none,.own 1000002 none,.own 1000003 none,.own 1000004 none]),(6,[an r,an g,an h,an i,an j,an k,.str l,.own 1000005 none,.str m,.own 1000006 none,.own 1000007 none,.own 1000008 none,an o,.own 1000009 none]),(8,[an I,an p,.own 1000010 none,.own 1000011 none,.own 1000012 none,.own 1000013 none])] [ax 1000000 119 nV K,ax 1000001 3 (.int .i64) q,ax 1000002 50 bD s,ax 1000003 102 eH t,ax 1000004 95 c8 u,ax 1000005 3 (.int .i64) v,ax 1000006 63 K4 x,ax 1000007 61 K9 y,ax 1000008 5 (.int .u8) z,ax 1000009 119 nV A,ax 1000010 3 (.int .i64) B,ax 1000011 50 bD C,ax 1000012 102 eH D,ax 1000013 95 c8 E]
def na (a:St):Option U:=fp gJ F gK [.r,.r,.r,.l,.r,.b,.i] f44 J n a
abbrev abS:List (Ty×Bool):=[(gp,true),(.int .i64,false)]
def eX:=gU gJ F gK [.r,.r,.r,.l,.r,.b] f44 abS 0
def DR (a I K L b w c:Int)(d:List Int)(e:List a6)(f:List bZ)(g:List bT)(M N r j k l m o:Int)(p q:ByteArray)(s O t:Int)(P:List iO)(h:List bT)(u:List Int)(v:List a6)(x:List bZ)(y:List bT)(z:List Int)(A:List D4)(B:List D9)(C:List Int)(D:List iO)(E:List Int)(G:List a6)(H:List bZ)(i:List bT):ue F J (n+1) (ov a I K L b w c d e f g M N r j k l m o p q s O t P h u v x y z A B C D E G H i)=br (decide (b<L)) (ck (bN b (h.length:Int)) ((cV F0 i (ay h b c8.aq)).bind fun Q=>br (!Q.1) (J .ret (LL 4 w c d e f g)) (ue F J n (ov a I K L (ai (b+1)) w c d e f g M N r j k l m o p q s O t P h u v x y z A B C D E G H i)))) (J (.exit 2) (Jo a I K w c d e f g M N r j k l m o p q s O t P u v x y z A B C D E G H i)):=by kernel_rfl
def DS (a I b w d:Int)(e:List Int)(f:List a6)(g:List bZ)(h:List bT)(K L r i j k l m:Int)(o p:ByteArray)(q M s:Int)(c:List iO)(t:List Int)(u:List a6)(v:List bZ)(x:List bT)(y:List Int)(z:List D4)(A:List D9)(B:List Int)(C:List iO)(D:List Int)(E:List a6)(G:List bZ)(H:List bT):na F J (n+1) (jW a I b w d e f g h K L r i j k l m o p q M s c t u v x y z A B C D E G H)=br (decide (b<I)) (ck (bN b (c.length:Int)) ((DQ F0 a (ay c b nV.aq).2).bind fun N=>ue F (ow F J n) F.n (ov a I b (N.1.length:Int) 0 w d e f g h K L r i j k l m o p q M s c N.1 t u v x y z A B C D E G H))) (J (.exit 0) (uZ a w d e f g h K L r i j k l m o p q M s c t u v x y z A B C D E G H)):=by kernel_rfl
def ZA (a b c:Int)(d:List Int)(e:List a6)(f:List bZ)(g:List bT):ow F J n .ret (LL a b c d e f g)=J .ret (LM a b c d e f g):=by kernel_rfl
def WG (a G H w b:Int)(c:List Int)(d:List a6)(e:List bZ)(f:List bT)(I K r g h i j k:Int)(l m:ByteArray)(o L p:Int)(M:List iO)(q:List Int)(s:List a6)(t:List bZ)(u:List bT)(v:List Int)(x:List D4)(y:List D9)(z:List Int)(A:List iO)(B:List Int)(C:List a6)(D:List bZ)(E:List bT):ow F J n (.exit 2) (Jo a G H w b c d e f I K r g h i j k l m o L p M q s t u v x y z A B C D E)=na F J n (jW a G (ai (H+1)) w b c d e f I K r g h i j k l m o L p M q s t u v x y z A B C D E):=by kernel_rfl
def ZB (a b c:Int)(d:List Int)(e:List a6)(f:List bZ)(g:List bT):eX F .ret (LM a b c d e f g)=some (((b,c),d,e,f,g),a,()):=by kernel_rfl
def WH (a w e:Int)(f:List Int)(g:List a6)(b:List bZ)(h:List bT)(K L r i j k l m:Int)(o p:ByteArray)(q C s:Int)(d:List iO)(D:List Int)(E:List a6)(G:List bZ)(H:List bT)(t:List Int)(u:List D4)(v:List D9)(x:List Int)(y:List iO)(z:List Int)(c:List a6)(A:List bZ)(B:List bT):eX F (.exit 0) (uZ a w e f g b h K L r i j k l m o p q C s d D E G H t u v x y z c A B)=br (decide ((ai ((b.length:Int)+(d.length:Int)))>60)) (some (((w,e),f,g,b,h),4,())) (ck (bN a (c.length:Int)) ((OL F0 ((C,s),z,c.set a.toNat (r,i,j,(k,l,(m,o,t),p),u,v,(x,q),y),A,B) d).bind fun I=>some (I.1,0,()))):=by kernel_rfl
def CX (w:nx)(a:Int):=bh gJ F gK f44 abS abS 0 (w,a,())
def aey (w:nx)(a:Int):CX F w a=ck (bN a (w.2.2.1.length:Int)) ((G7 F0 w.1 (ay w.2.2.1 a bD.aq)).bind fun b=>(P6 F0 w a b.2.1).bind fun c=>na F (eX F) F.n (jW a (b.2.1.length:Int) 0 w.1.1 w.1.2 w.2.1 w.2.2.1 w.2.2.2.1 w.2.2.2.2 0 0 b.1.1 b.1.2.1 b.1.2.2.1 b.1.2.2.2.1.1 b.1.2.2.2.1.2.1 b.1.2.2.2.1.2.2.1.1 b.1.2.2.2.1.2.2.1.2.1 b.1.2.2.2.1.2.2.2 b.1.2.2.2.2.2.2.1.2 c.1.1.1 c.1.1.2 b.2.1 [] [] [] [] b.1.2.2.2.1.2.2.1.2.2 b.1.2.2.2.2.1 b.1.2.2.2.2.2.1 b.1.2.2.2.2.2.2.1.1 b.1.2.2.2.2.2.2.2 c.1.2.1 c.1.2.2.1 c.1.2.2.2.1 c.1.2.2.2.2)):=by kernel_rfl
def LN:Any:=.one ⟨abS,abS,0,fun x=>CX F0 x.1 x.2.1⟩
def aez:aX 44 LN:=aw gJ ⟨aiv,aoA,UD,gI,ar5,trivial⟩ func44 gK (by kernel_rfl)
def UJ:=[(204,gH)]
def G9 (a b:D9):=bh UJ F ab f261 vq fF 2 (a,b,())
def aiB (a b:D9):G9 F a b=br (decide (a.1>b.1)) ((gj F0 a).bind fun c=>some (c.1,())) ((gj F0 b).bind fun d=>some (d.1,())):=by kernel_rfl
def OM:Any:=.one ⟨vq,fF,2,fun x=>G9 F0 x.1 x.2.1⟩
def aiC:aX 261 OM:=aw UJ ⟨lz,trivial⟩ func261 ab (by kernel_rfl)
def UK:=[(80,o6),(211,CM)]
def Ha (name:ByteArray):=bh UK F ab f262 dt ayy 1 (name,())
def aiD (name:ByteArray):Ha F name=(o5 F0 name).bind fun a=>br (decide ((a.1.length:Int)<3)) (some (aj,false,())) (ck (bN (ai ((a.1.length:Int)-1)) (a.1.length:Int)) (ck (bN (ai ((a.1.length:Int)-2)) (a.1.length:Int)) (br ((ay a.1 (ai ((a.1.length:Int)-1)) (0,[])).1 != (ai ((ay a.1 (ai ((a.1.length:Int)-2)) (0,[])).1+1))) (some (aj,false,())) (ck (bN (ai ((a.1.length:Int)-2)) (a.1.length:Int)) (ck (bN (ai ((a.1.length:Int)-3)) (a.1.length:Int)) (br ((ay a.1 (ai ((a.1.length:Int)-2)) (0,[])).1 != (ai ((ay a.1 (ai ((a.1.length:Int)-3)) (0,[])).1+1))) (some (aj,false,())) ((qV F0 name).bind fun b=>(qV F0 b.1).bind fun c=>some (c.1,true,())))))))):=by kernel_rfl
def ON:Any:=.one ⟨dt,ayy,1,fun x=>Ha F0 x.1⟩
def aiE:aX 262 ON:=aw UK ⟨CG,P4,trivial⟩ func262 ab (by kernel_rfl)
def nR (s a:ByteArray):=bh aB F ab f81 XA aS 1 (s,a,())
def MW (s a:ByteArray):nR F s a=br (decide ((s.size:Int)>=(a.size:Int))) (ck (QN 0 (a.size:Int) (s.size:Int)) (some ((s.extract (0:Int).toNat (a.size:Int).toNat).toList==a.toList,()))) (some (false,())):=by kernel_rfl
def rT:Any:=.one ⟨XA,aS,1,fun x=>nR F0 x.1 x.2.1⟩
def MX:aX 81 rT:=aw aB trivial func81 ab (by kernel_rfl)
def FU:=[(81,rT)]
def yU (s a:ByteArray):=bh FU F ab f40 XA aS 1 (s,a,())
def UL (s a:ByteArray):yU F s a=(nR F0 s a).bind fun b=>some (b.1,()):=by kernel_rfl
def AB:Any:=.one ⟨XA,aS,1,fun x=>yU F0 x.1 x.2.1⟩
def UM:aX 40 AB:=aw FU ⟨MX,trivial⟩ func40 ab (by kernel_rfl)
def UN:=[(39,eu),(40,AB)]
def yV (s t:ByteArray):=bh UN F ab f13 XA aS 1 (s,t,())
def aiF (s t:ByteArray):yV F s t=(eC F0 s).bind fun a=>br a.1 ((eC F0 t).bind fun b=>br b.1 ((yU F0 s t).bind fun c=>br c.1 (br ((s.size:Int)==(t.size:Int)) (some (true,())) (ck (bN (t.size:Int) (s.size:Int)) (some ((iq s (t.size:Int))==47,())))) (some (false,()))) (some (false,()))) (some (false,())):=by kernel_rfl
def Bw:Any:=.one ⟨XA,aS,1,fun x=>yV F0 x.1 x.2.1⟩
def R6:aX 13 Bw:=aw UN ⟨gf,UM,trivial⟩ func13 ab (by kernel_rfl)
def alT:=[(13,Bw),(62,dN),(73,jq),(132,jR),(138,hX),(211,CM),(261,OM),(262,ON)]
def OO (c:D1)(s:SC)(q:D9):=bh alT F ab f217 ayz Aq 2 (c,s,q,())
def at5 (c:D1)(s:SC)(q:D9):OO F c s q=(ka F0 s).bind fun a=>(jN F0 c s).bind fun f=>br (!f.1) (some (a.1,())) ((la F0 c q).bind fun g=>br (!g.1) (some (a.1,())) ((G9 F0 q s.2.2.1).bind fun d=>(qV F0 q.2.1).bind fun h=>(dZ F0 h.1).bind fun b=>(Ha F0 q.2.1).bind fun e=>br e.2.1 ((yV F0 e.1 s.2.2.2).bind fun i=>br i.1 (some ((a.1.1,(if b.1>s.2.1 then b.1 else s.2.1,(d.1,e.1))),())) (some ((a.1.1,(if b.1>s.2.1 then b.1 else s.2.1,(d.1,a.1.2.2.2))),()))) (some ((a.1.1,(if b.1>s.2.1 then b.1 else s.2.1,(d.1,a.1.2.2.2))),())))):=by kernel_rfl
def Hb:Any:=.one ⟨ayz,Aq,2,fun x=>OO F0 x.1 x.2.1 x.2.2.1⟩
def UO:aX 217 Hb:=aw alT ⟨R6,eV,o8,q2,mf,P4,aiC,aiE,trivial⟩ func217 ab (by kernel_rfl)
def UP:=[(62,dN),(73,jq),(145,lg)]
def Hc (c:D1)(s:SC)(b:D15):=bh UP F ab f263 agc aS 1 (c,s,b,())
def aiG (c:D1)(s:SC)(b:D15):Hc F c s b=(jN F0 c s).bind fun a=>br a.1 ((mh F0 c b).bind fun d=>br d.1 ((dZ F0 b.1).bind fun e=>br (decide (e.1>s.1)) (some (decide (b.2.1>=s.2.1),())) (some (false,()))) (some (false,()))) (some (false,())):=by kernel_rfl
def OP:Any:=.one ⟨agc,aS,1,fun x=>Hc F0 x.1 x.2.1 x.2.2.1⟩
def aiH:aX 263 OP:=aw UP ⟨eV,o8,tV,trivial⟩ func263 ab (by kernel_rfl)
def agu:=[(62,dN),(132,jR),(263,OP)]
def VT (c:D1)(s:SC)(b:D15):=bh agu F ab f218 agc age 2 (c,s,b,())
def ar6 (c:D1)(s:SC)(b:D15):VT F c s b=(ka F0 s).bind fun a=>(Hc F0 c s b).bind fun d=>br (!d.1) (some (a.1,false,())) ((dZ F0 b.1).bind fun e=>some ((e.1,a.1.2),true,())):=by kernel_rfl
def Yh:Any:=.one ⟨agc,age,2,fun x=>VT F0 x.1 x.2.1 x.2.2.1⟩
def ar7:aX 218 Yh:=aw agu ⟨eV,q2,aiH,trivial⟩ func218 ab (by kernel_rfl)
def R7:=[(161,jo)]
def CY (a b:SC):=bh R7 F ab f97 ayA aS 1 (a,b,())
def aeA (a b:SC):CY F a b=br (a.1==b.1) (br (a.2.1==b.2.1) ((hU F0 a.2.2.1 b.2.2.1).bind fun c=>br c.1 (some (a.2.2.2.toList==b.2.2.2.toList,())) (some (false,()))) (some (false,()))) (some (false,())):=by kernel_rfl
def LO:Any:=.one ⟨ayA,aS,1,fun x=>CY F0 x.1 x.2.1⟩
def aeB:aX 97 LO:=aw R7 ⟨o4,trivial⟩ func97 ab (by kernel_rfl)
def OQ:=[(73,jq),(164,ri),(165,Bv),(166,rk)]
def yW (c:D1)(s:SC):=bh OQ F ab f308 QY kH 2 (c,s,())
def abT (c:D1)(s:SC):yW F c s=(jN F0 c s).bind fun e=>br (!e.1) (some ([],())) ((jV F0 [s.1,s.2.1]).bind fun a=>(rm F0 c s.2.2.1).bind fun b=>ck (ee F a.1.length b.1.length 1) ((my F0 s.2.2.2).bind fun d=>ck (ee F (a.1++b.1).length d.1.length 1) (some ((a.1++b.1)++d.1,())))):=by kernel_rfl
def Jp:Any:=.one ⟨QY,kH,2,fun x=>yW F0 x.1 x.2.1⟩
def abU:aX 308 Jp:=aw OQ ⟨o8,E2,R4,E3,trivial⟩ func308 ab (by kernel_rfl)
def OR:=[(163,gG),(308,Jp)]
def yX (c:D1)(s:SC):=bh OR F ab f265 QY kH 2 (c,s,())
def abV (c:D1)(s:SC):yX F c s=(yW F0 c s).bind fun a=>br ((a.1.length:Int)==0) (some ([],())) ((eD F0 (a.1.length:Int)).bind fun b=>ck (ee F b.1.length a.1.length 1) (ck (ee F (b.1++a.1).length [10].length 1) (some ((b.1++a.1)++[10],())))):=by kernel_rfl
def Jq:Any:=.one ⟨QY,kH,2,fun x=>yX F0 x.1 x.2.1⟩
def abW:aX 265 Jq:=aw OR ⟨lj,abU,trivial⟩ func265 ab (by kernel_rfl)
def Yi:=[(76,mX),(135,jS)]
def LP (d:D14)(b:List Int):=bh Yi F ab f264 ayC ayB 2 (d,b,())
def alU (d:D14)(b:List Int):LP F d b=(kb F0 d).bind fun a=>(pb F0 d).bind fun c=>br (!c.1) (some (a.1,false,())) (br (decide ((ai ((d.1.length:Int)+(b.length:Int)))>100000)) (some (a.1,false,())) (ck (ee F a.1.1.length b.length 1) (some ((a.1.1++b,a.1.2),true,())))):=by kernel_rfl
def R8:Any:=.one ⟨ayC,ayB,2,fun x=>LP F0 x.1 x.2.1⟩
def alV:aX 264 R8:=aw Yi ⟨yB,q7,trivial⟩ func264 ab (by kernel_rfl)
def abX:=[(34,b3),(70,bJ),(97,LO),(132,jR),(264,R8),(265,Jq)]
abbrev aBq:List (Ty×Bool):=[(K1,true),(bD,true),(K12,true)]
def u0 (c:D1)(r:a6)(s:SC):=bh abX F ab f219 aBq fK 2 (c,r,s,())
def aoB (c:D1)(r:a6)(s:SC):u0 F c r s=(az F0 r).bind fun a=>(cr F0 c r).bind fun f=>br (!f.1) (some (a.1,false,())) ((CY F0 s r.2.2.2.1).bind fun g=>br g.1 (some (a.1,true,())) ((yX F0 c s).bind fun h=>(LP F0 r.2.2.2.2.2.2.1 h.1).bind fun b=>(ka F0 s).bind fun e=>br (!b.2.1) ((az F0 r).bind fun d=>some (d.1,false,())) ((cr F0 c (a.1.1,a.1.2.1,a.1.2.2.1,e.1,a.1.2.2.2.2.1,a.1.2.2.2.2.2.1,b.1,a.1.2.2.2.2.2.2.2)).bind fun i=>br (!i.1) ((az F0 r).bind fun d=>some (d.1,false,())) (some ((a.1.1,a.1.2.1,a.1.2.2.1,e.1,a.1.2.2.2.2.1,a.1.2.2.2.2.2.1,b.1,a.1.2.2.2.2.2.2.2),true,()))))):=by kernel_rfl
def yY:Any:=.one ⟨aBq,fK,2,fun x=>u0 F0 x.1 x.2.1 x.2.2.1⟩
def MY:aX 219 yY:=aw abX ⟨cD,b1,aeB,q2,alV,abW,trivial⟩ func219 ab (by kernel_rfl)
def Yj:=[(25,eU),(33,db),(335,sa),(337,Ao)]
def DT (s:List Int)(i:Int):=bh Yj F ab f312 ahG iT 2 (s,i,())
def alW (s:List Int)(i:Int):DT F s i=(dh F0 s i).bind fun c=>br c.1 ((dM F0 s).bind fun d=>some (d.1,())) (br (decide ((oK (fun a=>geP a i) s 0)<0)) ((dM F0 s).bind fun b=>ck (afV (s.length:Int) b.1.length [i].length) (some (b.1.take (s.length:Int).toNat++[i]++b.1.drop (s.length:Int).toNat,()))) ((dM F0 s).bind fun b=>ck (afV (oK (fun a=>geP a i) s 0) b.1.length [i].length) (some (b.1.take (oK (fun a=>geP a i) s 0).toNat++[i]++b.1.drop (oK (fun a=>geP a i) s 0).toNat,())))):=by kernel_rfl
def R9:Any:=.one ⟨ahG,iT,2,fun x=>DT F0 x.1 x.2.1⟩
def alX:aX 312 R9:=aw Yj ⟨h9,eo,Nu,Tp,trivial⟩ func312 ab (by kernel_rfl)
def lC:=[(312,R9)]
def lD:Nat->Option Hint:=look [(3,{live:=[1,5,10,11,12],mat:=[(5,3,.int .i64)],xl:=[1,5],rl:=[4]}),(8,{live:=[5,20,21,22],xl:=[5],rl:=[4]})]
def rn (a:List Int)(b c:Int)(d:List Int):= di 31 [(5,.v (.c (.own 1000000 none))),(20,hM 3 (.int .i64) a),(21,bp b),(22,bp c)] [] [ax 1000000 3 (.int .i64) d]
def LQ (a:List Int):= di 31 [(5,.v (.c (.own 1000000 none)))] [] [ax 1000000 3 (.int .i64) a]
def yZ (a:St):Option U:=fp lC F lD [.r,.r,.r,.l,.r,.b,.i] f273 J n a
def Bx:=gU lC F lD [.r,.r,.r,.l,.r,.b] f273 iT 2
def rp (b a:List Int)(c d:Int)(e:List Int):= di 31 [(1,hM 3 (.int .i64) b),(5,.v (.c (.own 1000000 none))),(10,hM 3 (.int .i64) a),(11,bp c),(12,bp d)] [] [ax 1000000 3 (.int .i64) e]
def LR (b a:List Int):= di 31 [(1,hM 3 (.int .i64) b),(5,.v (.c (.own 1000000 none)))] [] [ax 1000000 3 (.int .i64) a]
def y0 (a:St):Option U:=fp lC F lD [.r,.r,.l,.r,.b,.i] f273 J n a
def By:=gU lC F lD [.r,.r,.l,.r,.b] f273 iT 2
def FV (b:List Int)(c a:Int)(d:List Int):yZ F J (n+1) (rn b c a d)=br (decide (a<c)) (ck (bN a (b.length:Int)) ((DT F0 d (ay b a 0)).bind fun e=>yZ F J n (rn b c (ai (a+1)) e.1))) (J (.exit 2) (LQ d)):=by kernel_rfl
def FW (b c:List Int)(d a:Int)(e:List Int):y0 F J (n+1) (rp b c d a e)=br (decide (a<d)) (ck (bN a (c.length:Int)) ((DT F0 e (ay c a 0)).bind fun f=>y0 F J n (rp b c d (ai (a+1)) f.1))) (J (.exit 0) (LR b e)):=by kernel_rfl
def ZC (a:List Int):Bx F (.exit 2) (LQ a)=some (a,()):=by kernel_rfl
def ZD (b a:List Int):By F (.exit 0) (LR b a)=yZ F (Bx F) F.n (rn b (b.length:Int) 0 a):=by kernel_rfl
def Hd (a b:List Int):=bh lC F lD f273 aaX iT 2 (a,b,())
def aiI (a b:List Int):Hd F a b=y0 F (By F) F.n (rp b a (a.length:Int) 0 []):=by kernel_rfl
def OS:Any:=.one ⟨aaX,iT,2,fun x=>Hd F0 x.1 x.2.1⟩
def aiJ:aX 273 OS:=aw lC ⟨alX,trivial⟩ func273 lD (by kernel_rfl)
def Sa:=[(273,OS)]
def CZ (a b:D9):=bh Sa F ab f231 vq agf 2 (a,b,())
def aeC (a b:D9):CZ F a b=br (a.1 != b.1) (some ((0,aj,[]),false,())) (br (!(a.2.1.toList==b.2.1.toList)) (some ((0,aj,[]),false,())) ((Hd F0 a.2.2 b.2.2).bind fun c=>some ((a.1,a.2.1,c.1),true,()))):=by kernel_rfl
def LS:Any:=.one ⟨vq,agf,2,fun x=>CZ F0 x.1 x.2.1⟩
def aeD:aX 231 LS:=aw Sa ⟨aiJ,trivial⟩ func231 ab (by kernel_rfl)
def uf:=[(75,Bl),(134,uV),(141,mW),(142,nP),(205,gu),(231,LS),(232,we)]
def ug:Nat->Option Hint:=look [(5,{live:=[1,3,5,8,9],xl:=[1,3,5,8,9],rl:=[6,7]})]
def oy (e:List D9)(k c a p:Int)(b:ByteArray)(d:List Int)(f:List D9):= di 71 [(1,hM 61 (K9) e),b0 3,b0 5,(8,.v (.c (.own 1000000 none))),(9,bp k)] [(3,[an c,an a]),(5,[an p,.str b,.ro false 3 (.int .i64) d])] [ax 1000000 61 K9 f]
def mz (e:List D9)(k c a p:Int)(b:ByteArray)(d:List Int)(f:List D9):= di 71 [(1,hM 61 (K9) e),b0 3,b0 5,(8,.v (.c (.own 1000000 none))),(9,bp k)] [(3,[an c,an a]),(5,[an p,.str b,.ro false 3 (.int .i64) d])] [ax 1000000 61 K9 f]
def uh (a:St):Option U:=fp uf F ug [.r,.r,.r,.r,.l,.b,.i] f170 J n a
def oz:=gU uf F ug [.r,.r,.r,.r,.l,.b] f170 apO 2
def DU (f:List D9)(k c e p:Int)(b:ByteArray)(d:List Int)(a:List D9):uh F J (n+1) (oy f k c e p b d a)=br (decide (k<(a.length:Int))) (ck (bN k (a.length:Int)) ((eW F0 (ay a k K9.aq) (p,b,d)).bind fun g=>br (decide (g.1<0)) (uh F J n (oy f (ai (k+1)) c e p b d a)) (J (.exit 0) (mz f k c e p b d a)))) (J (.exit 0) (mz f k c e p b d a)):=by kernel_rfl
def WI (i:List D9)(k c h p:Int)(d:ByteArray)(e:List Int)(a:List D9):oz F (.exit 0) (mz i k c h p d e a)=br (decide (k<(a.length:Int))) (ck (bN k (a.length:Int)) ((eW F0 (ay a k K9.aq) (p,d,e)).bind fun l=>br (l.1==0) (ck (bN k (a.length:Int)) ((CZ F0 (ay a k K9.aq) (p,d,e)).bind fun j=>ck (bN k (a.length:Int)) ((jO F0 (c,h) (a.set k.toNat j.1)).bind fun f=>br (!f.1) ((en F0 i).bind fun g=>some (g.1,false,())) (some (a.set k.toNat j.1,true,()))))) ((eN F0 (p,d,e)).bind fun b=>ck (afV k a.length [b.1].length) ((jO F0 (c,h) (a.take k.toNat++[b.1]++a.drop k.toNat)).bind fun f=>br (!f.1) ((en F0 i).bind fun g=>some (g.1,false,())) (some (a.take k.toNat++[b.1]++a.drop k.toNat,true,())))))) ((eN F0 (p,d,e)).bind fun b=>ck (afV k a.length [b.1].length) ((jO F0 (c,h) (a.take k.toNat++[b.1]++a.drop k.toNat)).bind fun f=>br (!f.1) ((en F0 i).bind fun g=>some (g.1,false,())) (some (a.take k.toNat++[b.1]++a.drop k.toNat,true,())))):=by kernel_rfl
def ep (c:D1)(a:D13)(p:D9):=bh uf F ug f170 ayD apO 2 (c,a,p,())
def aeE (c:D1)(a:D13)(p:D9):ep F c a p=(o9 F0 c p).bind fun b=>br (!b.1) ((en F0 a).bind fun d=>some (d.1,false,())) ((en F0 a).bind fun e=>uh F (oz F) F.n (oy a 0 c.1 c.2 p.1 p.2.1 p.2.2 e.1)):=by kernel_rfl
def jX:Any:=.one ⟨ayD,apO,2,fun x=>ep F0 x.1 x.2.1 x.2.2.1⟩
def rq:aX 170 jX:=aw uf ⟨RS,LC,yx,DO,lA,aeD,SB,trivial⟩ func170 ug (by kernel_rfl)
def ui:=[(205,gu)]
def uj:Nat->Option Hint:=look [(2,{live:=[1,2,6,9,10,11],vW:=[(6,2,3,.int .i64)],xl:=[1,2,6],rl:=[6]})]
def jY (a:Int)(name:ByteArray)(b:List D9)(c d e:Int)(f:ByteArray)(g:List Int):= di 31 [(1,bp a),(2,W8 name),b0 6,(9,hM 61 (K9) b),(10,bp c),(11,bp d)] [(6,[an e,.str f,.own 1000000 none])] [ax 1000000 3 (.int .i64) g]
def LU (a:Int)(b:ByteArray)(c:List Int):= di 31 [b0 6] [(6,[an a,.str b,.own 1000000 none])] [ax 1000000 3 (.int .i64) c]
def Jr (a:Int)(name:ByteArray)(b:Int)(c:ByteArray)(d:List Int):= di 31 [(1,bp a),(2,W8 name),b0 6] [(6,[an b,.str c,.own 1000000 none])] [ax 1000000 3 (.int .i64) d]
def nc (a:St):Option U:=fp ui F uj [.r,.l,.r,.b,.i] f225 J n a
def oA:=gU ui F uj [.r,.l,.r,.b] f225 fF 2
def DV (c:Int)(name:ByteArray)(b:List D9)(d a e:Int)(f:ByteArray)(g:List Int):nc F J (n+1) (jY c name b d a e f g)=br (decide (a<d)) (ck (bN a (b.length:Int)) (br ((ay b a K9.aq).1==c) (br ((ay b a K9.aq).2.1.toList==name.toList) ((eN F0 (ay b a K9.aq)).bind fun h=>J .ret (LU h.1.1 h.1.2.1 h.1.2.2)) (nc F J n (jY c name b d (ai (a+1)) e f g))) (nc F J n (jY c name b d (ai (a+1)) e f g)))) (J (.exit 0) (Jr c name e f g)):=by kernel_rfl
def ZE (a:Int)(b:ByteArray)(c:List Int):oA F .ret (LU a b c)=some ((a,b,c),()):=by kernel_rfl
def WJ (a:Int)(name:ByteArray)(b:Int)(c:ByteArray)(d:List Int):oA F (.exit 0) (Jr a name b c d)=some ((a,name,[]),()):=by kernel_rfl
def sz (a:D13)(b:Int)(name:ByteArray):=bh ui F uj f225 ays fF 2 (a,b,name,())
def aeF (a:D13)(b:Int)(name:ByteArray):sz F a b name=nc F (oA F) F.n (jY b name a (a.length:Int) 0 0 aj []):=by kernel_rfl
def y1:Any:=.one ⟨ays,fF,2,fun x=>sz F0 x.1 x.2.1 x.2.2.1⟩
def OT:aX 225 y1:=aw ui ⟨lA,trivial⟩ func225 uj (by kernel_rfl)
def agv:=[(26,cL)]
def rr (c:D1)(a:Int):=bh agv F ab f160 af5 cX 1 (c,a,())
def ar8 (c:D1)(a:Int):rr F c a=(dY F0 c).bind fun b=>br (!b.1) (some (-1,())) (br (decide (a<0)) (some (-1,())) (ck (!(c.1==0)) (some (Int.tmod a c.1,())))):=by kernel_rfl
def kd:Any:=.one ⟨af5,cX,1,fun x=>rr F0 x.1 x.2.1⟩
def ru:aX 160 kd:=aw agv ⟨dE,trivial⟩ func160 ab (by kernel_rfl)
def Yk:=[(138,hX),(204,gH)]
def DW (c:D1)(p:D9):=bh Yk F ab f226 Ff agf 2 (c,p,())
def alY (c:D1)(p:D9):DW F c p=(gj F0 p).bind fun a=>(la F0 c a.1).bind fun b=>br (!b.1) (some ((0,aj,[]),false,())) (br (a.1.1==0) (some ((0,aj,[]),false,())) (some (a.1,true,()))):=by kernel_rfl
def Sb:Any:=.one ⟨Ff,agf,2,fun x=>DW F0 x.1 x.2.1⟩
def alZ:aX 226 Sb:=aw Yk ⟨mf,lz,trivial⟩ func226 ab (by kernel_rfl)
def agw:=[(34,b3),(70,bJ),(206,Bt)]
def lE (c:D1)(r:a6)(a:Int)(m:MO):=bh agw F ab f171 ayE fK 2 (c,r,a,m,())
def ar9 (c:D1)(r:a6)(b:Int)(m:MO):lE F c r b m=(az F0 r).bind fun a=>(yK F0 m).bind fun d=>ck (ee F a.1.2.2.2.2.2.2.2.length [(b,d.1)].length 224) ((cr F0 c (a.1.1,a.1.2.1,a.1.2.2.1,a.1.2.2.2.1,a.1.2.2.2.2.1,a.1.2.2.2.2.2.1,a.1.2.2.2.2.2.2.1,a.1.2.2.2.2.2.2.2++[(b,d.1)])).bind fun e=>br (!e.1) ((az F0 r).bind fun f=>some (f.1,false,())) (some ((a.1.1,a.1.2.1,a.1.2.2.1,a.1.2.2.2.1,a.1.2.2.2.2.1,a.1.2.2.2.2.2.1,a.1.2.2.2.2.2.2.1,a.1.2.2.2.2.2.2.2++[(b,d.1)]),true,()))):=by kernel_rfl
def sA:Any:=.one ⟨ayE,fK,2,fun x=>lE F0 x.1 x.2.1 x.2.2.1 x.2.2.2.1⟩
def He:aX 171 sA:=aw agw ⟨cD,b1,R0,trivial⟩ func171 ab (by kernel_rfl)
def abY:=[(160,kd),(171,sA),(217,Hb),(219,yY)]
def Js (c:D1)(r:a6)(q:D9):=bh abY F ab f227 agh fK 0 (c,r,q,())
def aoC (c:D1)(r:a6)(q:D9):Js F c r q=(OO F0 c r.2.2.2.1 q).bind fun e=>(u0 F0 c r e.1).bind fun a=>br (!a.2.1) (some (r,false,())) (br (decide ((ai (q.1+1))>60)) (some (a.1,true,())) ((rr F0 c (ai (q.1+1))).bind fun b=>br (b.1 != r.1) ((lE F0 c (a.1.1,(if (ai (q.1+1))>a.1.2.1 then (ai (q.1+1)) else a.1.2.1,a.1.2.2)) b.1 (3,ai (q.1+1),(aj,0,aj,[]),(0,aj,[]),q,r.1,0,0,0,0)).bind fun d=>some (d.1,d.2.1,())) (some ((a.1.1,(if (ai (q.1+1))>a.1.2.1 then (ai (q.1+1)) else a.1.2.1,a.1.2.2)),true,())))):=by kernel_rfl
def UQ:Any:=.one ⟨agh,fK,0,fun x=>Js F0 x.1 x.2.1 x.2.2.1⟩
def aoD:aX 227 UQ:=aw abY ⟨ru,He,UO,MY,trivial⟩ func227 ab (by kernel_rfl)
def agx:=[(26,cL),(42,bn)]
def HN (c:D1)(a i:Int):=bh agx F ab f270 N6 cX 1 (c,a,i,())
def asa (c:D1)(a i:Int):HN F c a i=(dY F0 c).bind fun b=>br (!b.1) (some (-1,())) (br (decide (a<0)) (some (-1,())) ((aU F0 i 0 (ai (c.1-1))).bind fun d=>br (!d.1) (some (-1,())) (ck (!(c.1==0)) (ck (!(c.1==0)) (some (Int.tmod (ai ((ai (i-(Int.tmod a c.1)))+c.1)) c.1,())))))):=by kernel_rfl
def C0:Any:=.one ⟨N6,cX,1,fun x=>HN F0 x.1 x.2.1 x.2.2.1⟩
def P7:aX 270 C0:=aw agx ⟨dE,bQ,trivial⟩ func270 ab (by kernel_rfl)
def agy:=[(26,cL),(42,bn)]
def VU (c:D1)(b a:Int):=bh agy F ab f272 N6 cX 1 (c,b,a,())
def asb (c:D1)(b a:Int):VU F c b a=(dY F0 c).bind fun d=>br (!d.1) (some (-1,())) (br (decide (b<0)) (some (-1,())) ((aU F0 a 0 (ai (c.1-1))).bind fun e=>br (!e.1) (some (-1,())) (ck (!(c.1==0)) (ck (!(c.1==0)) (some (Int.tmod (ai ((Int.tmod b c.1)+a)) c.1,())))))):=by kernel_rfl
def Yl:Any:=.one ⟨N6,cX,1,fun x=>VU F0 x.1 x.2.1 x.2.2.1⟩
def asc:aX 272 Yl:=aw agy ⟨dE,bQ,trivial⟩ func272 ab (by kernel_rfl)
def apS:=[(270,C0),(272,Yl)]
def VV (c:D1)(a i:Int):=bh apS F ab f230 N6 cX 1 (c,a,i,())
def awx (c:D1)(a i:Int):VV F c a i=(HN F0 c a i).bind fun b=>br (decide (b.1<1)) (some (-1,())) (ck (!(c.2==0)) ((VU F0 c a (ai (Int.tdiv (ai (b.1-1)) c.2))).bind fun d=>some (d.1,()))):=by kernel_rfl
def UR:Any:=.one ⟨N6,cX,1,fun x=>VV F0 x.1 x.2.1 x.2.2.1⟩
def al0:aX 230 UR:=aw apS ⟨P7,asc,trivial⟩ func230 ab (by kernel_rfl)
end
end Go.Am.Tryz
namespace Go.Am.Tryz
open Go.Am Go.Proofs Go.Proofs.Tryz
noncomputable section
variable {U:Type} (F:nT) (J:Ex->St->Option U) (n:Nat)
def P8:=[(230,UR),(270,C0)]
def P9:Nat->Option Hint:=look [(2,{live:=[1,2,3,7],mat:=[(7,3,.int .i64)],xl:=[7],rl:=[6]})]
def Hf (b i c a:Int)(d:List Int):= di 22 [(1,bp b),(2,bp i),b0 3,(7,.v (.c (.own 1000000 none)))] [(3,[an c,an a])] [ax 1000000 3 (.int .i64) d]
def MZ (a:List Int):= di 22 [(7,.v (.c (.own 1000000 none)))] [] [ax 1000000 3 (.int .i64) a]
def Qa (a:St):Option U:=fp P8 F P9 [.r,.r,.l,.b,.i] f271 J n a
def abZ:=gU P8 F P9 [.r,.r,.l,.b] f271 iT 2
def Sc (b i c a:Int)(d:List Int):Qa F J (n+1) (Hf b i c a d)=(HN F0 (c,a) b i).bind fun e=>br (decide (e.1>=0)) (ck (ee F d.length [i].length 8) ((VV F0 (c,a) b i).bind fun f=>Qa F J n (Hf b f.1 c a (d++[i])))) (J (.exit 0) (MZ d)):=by kernel_rfl
def al1 (a:List Int):abZ F (.exit 0) (MZ a)=some (a,()):=by kernel_rfl
def ab0 (c:D1)(a i:Int):=bh P8 F P9 f271 N6 iT 2 (c,a,i,())
def at6 (c:D1)(a i:Int):ab0 F c a i=Qa F (abZ F) F.n (Hf a i c.1 c.2 []):=by kernel_rfl
def ab1:Any:=.one ⟨N6,iT,2,fun x=>ab0 F0 x.1 x.2.1 x.2.2.1⟩
def at7:aX 271 ab1:=aw P8 ⟨al0,P7,trivial⟩ func271 P9 (by kernel_rfl)
def Hg:=[(33,db),(270,C0),(271,ab1)]
def Hh:Nat->Option Hint:=look [(3,{live:=[1,2,3,7,8],mat:=[(7,3,.int .i64)],xl:=[7],rl:=[6]})]
def pn (b i k c a:Int)(d:List Int):= di 33 [(1,bp b),(2,bp i),b0 3,(7,.v (.c (.own 1000000 none))),(8,bp k)] [(3,[an c,an a])] [ax 1000000 3 (.int .i64) d]
def E4 (a:List Int):= di 33 [(7,.v (.c (.own 1000000 none)))] [] [ax 1000000 3 (.int .i64) a]
def y3 (a:St):Option U:=fp Hg F Hh [.r,.r,.l,.r,.b,.i] f228 J n a
def Jt:=gU Hg F Hh [.r,.r,.l,.r,.b] f228 iT 2
def y4 (d i k c b:Int)(a:List Int):y3 F J (n+1) (pn d i k c b a)=(HN F0 (c,b) d i).bind fun e=>br (decide (e.1>=0)) (br (decide (k<c)) ((ab0 F0 (c,b) d k).bind fun f=>(dh F0 f.1 i).bind fun g=>br g.1 (ck (ee F a.length [k].length 8) (y3 F J n (pn d i (ai (k+1)) c b (a++[k])))) (y3 F J n (pn d i (ai (k+1)) c b a))) (J (.exit 0) (E4 a))) (J (.exit 0) (E4 a)):=by kernel_rfl
def OU (a:List Int):Jt F (.exit 0) (E4 a)=some (a,()):=by kernel_rfl
def Qb (c:D1)(a i:Int):=bh Hg F Hh f228 N6 iT 2 (c,a,i,())
def aoE (c:D1)(a i:Int):Qb F c a i=y3 F (Jt F) F.n (pn a i 0 c.1 c.2 []):=by kernel_rfl
def US:Any:=.one ⟨N6,iT,2,fun x=>Qb F0 x.1 x.2.1 x.2.2.1⟩
def aoF:aX 228 US:=aw Hg ⟨eo,P7,at7,trivial⟩ func228 Hh (by kernel_rfl)
def C1:=[(33,db)]
def C2:Nat->Option Hint:=look [(3,{live:=[1,5,8,9,10],xl:=[5],rl:=[4]})]
def nd (b:List Int)(a:Int)(c:List Int)(d e:Int):= b2 21 [(1,hM 3 (.int .i64) b),(5,bp a),(8,hM 3 (.int .i64) c),(9,bp d),(10,bp e)]
def OV (a:Int):= b2 21 [(5,bp a)]
def sB (a:St):Option U:=fp C1 F C2 [.r,.r,.l,.r,.b,.i] f229 J n a
def E5:=gU C1 F C2 [.r,.r,.l,.r,.b] f229 cX 1
def Ju (b:List Int)(d:Int)(c:List Int)(e a:Int):sB F J (n+1) (nd b d c e a)=br (decide (a<e)) (ck (bN a (c.length:Int)) ((dh F0 b (ay c a 0)).bind fun f=>br f.1 (sB F J n (nd b (ai (d+1)) c e (ai (a+1)))) (sB F J n (nd b d c e (ai (a+1)))))) (J (.exit 0) (OV d)):=by kernel_rfl
def ab2 (a:Int):E5 F (.exit 0) (OV a)=some (a,()):=by kernel_rfl
def LV (a b:List Int):=bh C1 F C2 f229 aaX cX 1 (a,b,())
def al2 (a b:List Int):LV F a b=sB F (E5 F) F.n (nd b 0 a (a.length:Int) 0):=by kernel_rfl
def Sd:Any:=.one ⟨aaX,cX,1,fun x=>LV F0 x.1 x.2.1⟩
def al3:aX 229 Sd:=aw C1 ⟨eo,trivial⟩ func229 C2 (by kernel_rfl)
def ab3:=[(34,b3),(70,bJ),(160,kd),(171,sA),(225,y1),(226,Sb),(227,UQ),(228,US),(229,Sd),(230,UR)]
def mA (c:D1)(r:a6)(a:Int)(name:ByteArray)(b:Bool):=bh ab3 F ab f169 apQ fK 0 (c,r,a,name,b,())
def aoG (c:D1)(r:a6)(a:Int)(name:ByteArray)(j:Bool):mA F c r a name j=(sz F0 r.2.2.2.2.2.1 a name).bind fun b=>br ((b.1.2.2.length:Int)==0) ((az F0 r).bind fun d=>some (d.1,false,())) ((cr F0 c r).bind fun k=>br (!k.1) ((az F0 r).bind fun d=>some (d.1,false,())) (br (name.toList==aj.toList) ((az F0 r).bind fun d=>some (d.1,false,())) ((rr F0 c a).bind fun l=>br (l.1==r.1) ((DW F0 c b.1).bind fun g=>br (!g.2.1) ((az F0 r).bind fun m=>some (m.1,false,())) ((Js F0 c r g.1).bind fun h=>br (!h.2.1) ((az F0 r).bind fun o=>some (o.1,false,())) (some (h.1,true,())))) ((Qb F0 c a r.1).bind fun i=>br (!j) ((LV F0 i.1 b.1.2.2).bind fun p=>br (decide (p.1<(i.1.length:Int))) ((az F0 r).bind fun q=>some (q.1,false,())) ((VV F0 c a r.1).bind fun f=>(lE F0 c r f.1 (2,0,(aj,0,aj,[]),b.1,(0,aj,[]),0,0,0,0,0)).bind fun e=>some (e.1,e.2.1,()))) ((VV F0 c a r.1).bind fun f=>(lE F0 c r f.1 (2,0,(aj,0,aj,[]),b.1,(0,aj,[]),0,0,0,0,0)).bind fun e=>some (e.1,e.2.1,())))))):=by kernel_rfl
def y5:Any:=.one ⟨apQ,fK,0,fun x=>mA F0 x.1 x.2.1 x.2.2.1 x.2.2.2.1 x.2.2.2.2.1⟩
def M0:aX 169 y5:=aw ab3 ⟨cD,b1,ru,He,OT,alZ,aoD,aoF,al3,al0,trivial⟩ func169 ab (by kernel_rfl)
def OW:=[(34,b3),(62,dN),(70,bJ),(145,lg),(169,y5),(170,jX),(217,Hb),(218,Yh),(219,yY)]
def po (c:D1)(r:a6)(b:D15):=bh OW F ab f153 ayF fK 1 (c,r,b,())
def ab4 (c:D1)(r:a6)(b:D15):po F c r b=(cr F0 c r).bind fun k=>br (!k.1) ((az F0 r).bind fun e=>some (e.1,false,())) ((mh F0 c b).bind fun l=>br (!l.1) ((az F0 r).bind fun e=>some (e.1,false,())) ((dZ F0 b.1).bind fun d=>(OO F0 c r.2.2.2.1 b.2).bind fun h=>(az F0 r).bind fun f=>br (decide (d.1>=r.2.1)) ((VT F0 c h.1 b).bind fun i=>(u0 F0 c (f.1.1,d.1,f.1.2.2) i.1).bind fun a=>br (!a.2.1) ((az F0 r).bind fun g=>some (g.1,false,())) (br (!i.2.1) (some (a.1,true,())) ((ep F0 c a.1.2.2.2.2.2.1 (d.1,b.1,[r.1])).bind fun j=>br (!j.2.1) ((az F0 r).bind fun m=>some (m.1,false,())) ((mA F0 c (a.1.1,a.1.2.1,a.1.2.2.1,a.1.2.2.2.1,a.1.2.2.2.2.1,j.1,a.1.2.2.2.2.2.2) d.1 b.1 false).bind fun o=>some (o.1,true,()))))) ((u0 F0 c f.1 h.1).bind fun a=>br (!a.2.1) ((az F0 r).bind fun g=>some (g.1,false,())) (some (a.1,true,()))))):=by kernel_rfl
def u1:Any:=.one ⟨ayF,fK,1,fun x=>po F0 x.1 x.2.1 x.2.2.1⟩
def LW:aX 153 u1:=aw OW ⟨cD,eV,b1,tV,M0,rq,UO,ar7,MY,trivial⟩ func153 ab (by kernel_rfl)
def Se:=[(34,b3),(70,bJ),(141,mW),(169,y5),(170,jX)]
def C3 (c:D1)(r:a6)(p:D9):=bh Se F ab f154 agh fK 1 (c,r,p,())
def aeG (c:D1)(r:a6)(p:D9):C3 F c r p=(cr F0 c r).bind fun e=>br (!e.1) ((az F0 r).bind fun a=>some (a.1,false,())) ((o9 F0 c p).bind fun f=>br (!f.1) ((az F0 r).bind fun a=>some (a.1,false,())) (br (p.2.1.toList==aj.toList) ((az F0 r).bind fun a=>some (a.1,false,())) (br (decide (p.1<r.2.1)) ((az F0 r).bind fun a=>some (a.1,false,())) ((ep F0 c r.2.2.2.2.2.1 p).bind fun d=>br (!d.2.1) ((az F0 r).bind fun g=>some (g.1,false,())) ((az F0 r).bind fun b=>(mA F0 c (b.1.1,b.1.2.1,b.1.2.2.1,b.1.2.2.2.1,b.1.2.2.2.2.1,d.1,b.1.2.2.2.2.2.2) p.1 p.2.1 false).bind fun h=>some (h.1,true,())))))):=by kernel_rfl
def LX:Any:=.one ⟨agh,fK,1,fun x=>C3 F0 x.1 x.2.1 x.2.2.1⟩
def aeH:aX 154 LX:=aw Se ⟨cD,b1,yx,M0,rq,trivial⟩ func154 ab (by kernel_rfl)
def agz:=[(14,tS),(225,y1)]
abbrev aBr:List (Ty×Bool):=[(K1,true),(bD,true),(.int .i64,false)]
def rv (c:D1)(r:a6)(a:Int):=bh agz F ab f220 aBr aS 1 (c,r,a,())
def asd (c:D1)(r:a6)(a:Int):rv F c r a=(sz F0 r.2.2.2.2.2.1 a aj).bind fun b=>(vB F0 c).bind fun d=>some (decide ((b.1.2.2.length:Int)>=d.1),()):=by kernel_rfl
def M1:Any:=.one ⟨aBr,aS,1,fun x=>rv F0 x.1 x.2.1 x.2.2.1⟩
def ab5:aX 220 M1:=aw agz ⟨Ja,OT,trivial⟩ func220 ab (by kernel_rfl)
def Sf:=[(34,b3),(42,bn),(70,bJ),(138,hX),(160,kd),(170,jX),(217,Hb),(219,yY),(220,M1)]
def C4 (c:D1)(r:a6)(a:Int)(q:D9)(cC:Int):=bh Sf F ab f155 ayG fK 2 (c,r,a,q,cC,())
def aeI (c:D1)(r:a6)(b:Int)(q:D9)(cC:Int):C4 F c r b q cC=(cr F0 c r).bind fun g=>br (!g.1) ((az F0 r).bind fun d=>some (d.1,false,())) ((aU F0 b 1 60).bind fun h=>br (!h.1) ((az F0 r).bind fun d=>some (d.1,false,())) ((la F0 c q).bind fun i=>br (!i.1) ((az F0 r).bind fun d=>some (d.1,false,())) ((aU F0 cC 0 (ai (c.1-1))).bind fun j=>br (!j.1) ((az F0 r).bind fun d=>some (d.1,false,())) ((OO F0 c r.2.2.2.1 q).bind fun k=>(u0 F0 c r k.1).bind fun a=>br (!a.2.1) ((az F0 r).bind fun l=>some (l.1,false,())) ((rr F0 c b).bind fun m=>br (m.1==r.1) (br (decide (b>=r.2.1)) ((ep F0 c a.1.2.2.2.2.2.1 (b,aj,[cC])).bind fun f=>br (!f.2.1) ((az F0 r).bind fun o=>some (o.1,false,())) ((rv F0 c (a.1.1,(if (if 60<(ai (q.1+1)) then 60 else (ai (q.1+1)))>a.1.2.1 then (if 60<(ai (q.1+1)) then 60 else (ai (q.1+1))) else a.1.2.1,(a.1.2.2.1,a.1.2.2.2.1,a.1.2.2.2.2.1,f.1,a.1.2.2.2.2.2.2))) b).bind fun e=>br e.1 (some ((a.1.1,(if b>(if (if 60<(ai (q.1+1)) then 60 else (ai (q.1+1)))>a.1.2.1 then (if 60<(ai (q.1+1)) then 60 else (ai (q.1+1))) else a.1.2.1) then b else (if (if 60<(ai (q.1+1)) then 60 else (ai (q.1+1)))>a.1.2.1 then (if 60<(ai (q.1+1)) then 60 else (ai (q.1+1))) else a.1.2.1),(a.1.2.2.1,a.1.2.2.2.1,a.1.2.2.2.2.1,f.1,a.1.2.2.2.2.2.2))),true,())) (some ((a.1.1,(if (if 60<(ai (q.1+1)) then 60 else (ai (q.1+1)))>a.1.2.1 then (if 60<(ai (q.1+1)) then 60 else (ai (q.1+1))) else a.1.2.1,(a.1.2.2.1,a.1.2.2.2.1,a.1.2.2.2.2.1,f.1,a.1.2.2.2.2.2.2))),true,())))) ((rv F0 c (a.1.1,(if (if 60<(ai (q.1+1)) then 60 else (ai (q.1+1)))>a.1.2.1 then (if 60<(ai (q.1+1)) then 60 else (ai (q.1+1))) else a.1.2.1,a.1.2.2)) b).bind fun e=>br e.1 (some ((a.1.1,(if b>(if (if 60<(ai (q.1+1)) then 60 else (ai (q.1+1)))>a.1.2.1 then (if 60<(ai (q.1+1)) then 60 else (ai (q.1+1))) else a.1.2.1) then b else (if (if 60<(ai (q.1+1)) then 60 else (ai (q.1+1)))>a.1.2.1 then (if 60<(ai (q.1+1)) then 60 else (ai (q.1+1))) else a.1.2.1),a.1.2.2)),true,())) (some ((a.1.1,(if (if 60<(ai (q.1+1)) then 60 else (ai (q.1+1)))>a.1.2.1 then (if 60<(ai (q.1+1)) then 60 else (ai (q.1+1))) else a.1.2.1,a.1.2.2)),true,())))) ((rv F0 c (a.1.1,(if (if 60<(ai (q.1+1)) then 60 else (ai (q.1+1)))>a.1.2.1 then (if 60<(ai (q.1+1)) then 60 else (ai (q.1+1))) else a.1.2.1,a.1.2.2)) b).bind fun e=>br e.1 (some ((a.1.1,(if b>(if (if 60<(ai (q.1+1)) then 60 else (ai (q.1+1)))>a.1.2.1 then (if 60<(ai (q.1+1)) then 60 else (ai (q.1+1))) else a.1.2.1) then b else (if (if 60<(ai (q.1+1)) then 60 else (ai (q.1+1)))>a.1.2.1 then (if 60<(ai (q.1+1)) then 60 else (ai (q.1+1))) else a.1.2.1),a.1.2.2)),true,())) (some ((a.1.1,(if (if 60<(ai (q.1+1)) then 60 else (ai (q.1+1)))>a.1.2.1 then (if 60<(ai (q.1+1)) then 60 else (ai (q.1+1))) else a.1.2.1,a.1.2.2)),true,())))))))):=by kernel_rfl
def LY:Any:=.one ⟨ayG,fK,2,fun x=>C4 F0 x.1 x.2.1 x.2.2.1 x.2.2.2.1 x.2.2.2.2.1⟩
def aeJ:aX 155 LY:=aw Sf ⟨cD,bQ,b1,mf,ru,rq,UO,MY,ab5,trivial⟩ func155 ab (by kernel_rfl)
def UT:=[(74,EX),(133,Bs),(266,vn),(268,Dn)]
def Hi (p:D5)(x:D4):=bh UT F ab f221 ayH Tx 2 (p,x,())
def aiK (p:D5)(x:D4):Hi F p x=br (decide ((oK (fun a=>PQ a x) p 0)<0)) ((gZ F0 p).bind fun b=>ck (afV (p.length:Int) b.1.length [x].length) ((vC F0 (b.1.take (p.length:Int).toNat++[x]++b.1.drop (p.length:Int).toNat)).bind fun c=>br (!c.1) ((gZ F0 p).bind fun d=>some (d.1,false,())) (some (b.1.take (p.length:Int).toNat++[x]++b.1.drop (p.length:Int).toNat,true,())))) ((gZ F0 p).bind fun b=>ck (afV (oK (fun a=>PQ a x) p 0) b.1.length [x].length) ((vC F0 (b.1.take (oK (fun a=>PQ a x) p 0).toNat++[x]++b.1.drop (oK (fun a=>PQ a x) p 0).toNat)).bind fun c=>br (!c.1) ((gZ F0 p).bind fun d=>some (d.1,false,())) (some (b.1.take (oK (fun a=>PQ a x) p 0).toNat++[x]++b.1.drop (oK (fun a=>PQ a x) p 0).toNat,true,())))):=by kernel_rfl
def OX:Any:=.one ⟨ayH,Tx,2,fun x=>Hi F0 x.1 x.2.1⟩
def aiL:aX 221 OX:=aw UT ⟨Uo,RY,PS,Wr,trivial⟩ func221 ab (by kernel_rfl)
def Ym:=[(34,b3),(70,bJ),(221,OX)]
def LZ (c:D1)(r:a6)(x:D4):=bh Ym F ab f156 ayI fK 2 (c,r,x,())
def al4 (c:D1)(r:a6)(x:D4):LZ F c r x=(az F0 r).bind fun a=>(cr F0 c r).bind fun d=>br (!d.1) (some (a.1,false,())) ((Hi F0 r.2.2.2.2.1 x).bind fun b=>some ((a.1.1,a.1.2.1,a.1.2.2.1,a.1.2.2.2.1,b.1,a.1.2.2.2.2.2),b.2.1,())):=by kernel_rfl
def Sg:Any:=.one ⟨ayI,fK,2,fun x=>LZ F0 x.1 x.2.1 x.2.2.1⟩
def al5:aX 156 Sg:=aw Ym ⟨cD,b1,aiL,trivial⟩ func156 ab (by kernel_rfl)
def ry:=[(205,gu)]
def rz:Nat->Option Hint:=look [(3,{live:=[1,5,8,9,10],mat:=[(5,61,K9)],xl:=[5],rl:=[4]})]
def iE (a:Int)(b:List D9)(c d:Int)(e:List D9):= di 25 [(1,bp a),(5,.v (.c (.own 1000000 none))),(8,hM 61 (K9) b),(9,bp c),(10,bp d)] [] [ax 1000000 61 K9 e]
def FX (a:List D9):= di 25 [(5,.v (.c (.own 1000000 none)))] [] [ax 1000000 61 K9 a]
def lF (a:St):Option U:=fp ry F rz [.r,.r,.l,.r,.b,.i] f157 J n a
def u2:=gU ry F rz [.r,.r,.l,.r,.b] f157 Fl 2
def AD (d:Int)(b:List D9)(e a:Int)(c:List D9):lF F J (n+1) (iE d b e a c)=br (decide (a<e)) (ck (bN a (b.length:Int)) (br (decide ((ay b a K9.aq).1>=d)) ((eN F0 (ay b a K9.aq)).bind fun f=>ck (ee F c.length [f.1].length 48) (lF F J n (iE d b e (ai (a+1)) (c++[f.1])))) (lF F J n (iE d b e (ai (a+1)) c)))) (J (.exit 0) (FX c)):=by kernel_rfl
def UU (a:List D9):u2 F (.exit 0) (FX a)=some (a,()):=by kernel_rfl
def gk (a:D13)(b:Int):=bh ry F rz f157 ayJ Fl 2 (a,b,())
def ab6 (a:D13)(b:Int):gk F a b=lF F (u2 F) F.n (iE b a (a.length:Int) 0 []):=by kernel_rfl
def Jv:Any:=.one ⟨ayJ,Fl,2,fun x=>gk F0 x.1 x.2.1⟩
def ab7:aX 157 Jv:=aw ry ⟨lA,trivial⟩ func157 rz (by kernel_rfl)
def rA:Nat->Option Hint:=look [(3,{live:=[0,1,2],vW:=[(0,0,3,.int .i64),(0,1,3,.int .i64),(1,0,3,.int .i64)],xl:=[0,1],rl:=[0]})]
def fA (i:Int)(d a b c:List Int):= di 15 [b0 0,b0 1,(2,bp i)] [(0,[.own 1000000 none,.own 1000001 none]),(1,[.own 1000002 none,.own 1000003 none])] [ax 1000000 3 (.int .i64) d,ax 1000001 3 (.int .i64) a,ax 1000002 3 (.int .i64) b,ax 1000003 3 (.int .i64) c]
def FY (d a b c:List Int):= di 15 [b0 0,b0 1] [(0,[.own 1000000 none,.own 1000001 none]),(1,[.own 1000002 none,.own 1000003 none])] [ax 1000000 3 (.int .i64) d,ax 1000001 3 (.int .i64) a,ax 1000002 3 (.int .i64) b,ax 1000003 3 (.int .i64) c]
def ic (a:St):Option U:=fp aB F rA [.r,.r,.l,.r,.b,.i] f36 J n a
def iF:=gU aB F rA [.r,.r,.l,.r,.b] f36 n3 2
def AE (i:Int)(d b a c:List Int):ic F J (n+1) (fA i d b a c)=br (decide (i<4)) (ck (ee F a.length [100].length 8) (ic F J n (fA (ai (i+1)) d b (a++[100]) c))) (J (.exit 0) (FY d b a c)):=by kernel_rfl
def UW (d c a b:List Int):iF F (.exit 0) (FY d c a b)=some ((a,b),()):=by kernel_rfl
def lG: Option (Args n3):=bh aB F rA f36 [] n3 2 (())
def ab8: lG F= ck (okM F 4 4 8) (ic F (iF F) F.n (fA 0 [] [] [] (List.replicate (4:Int).toNat 0))):=by kernel_rfl
def u3:Any:=.one ⟨[],n3,2,fun x=>lG F0⟩
def L0:aX 36 u3:=aw aB trivial func36 rA (by kernel_rfl)
def Hj:=[(80,o6)]
def Hk:Nat->Option Hint:=look [(4,{live:=[5,13,14,15],mat:=[(5,63,K4)],xl:=[5],rl:=[2]})]
def y6 (b c:Int)(d:List D4)(a:List D6):= di 25 [(5,.v (.c (.own 1000000 none))),(13,.v (.c (.own 1000001 none))),(14,bp b),(15,bp c)] [] [ax 1000000 63 K4 d,ax 1000001 128 K6 a]
def Sh (a:List D4):= di 25 [(5,.v (.c (.own 1000000 none)))] [] [ax 1000000 63 K4 a]
def Hl (a:St):Option U:=fp Hj F Hk [.r,.r,.r,.l,.r,.b,.i] f37 J n a
def Jw:=gU Hj F Hk [.r,.r,.r,.l,.r,.b] f37 iP 2
def L1 (d a:Int)(c:List D4)(b:List D6):Hl F J (n+1) (y6 d a c b)=br (decide (a<d)) (ck (bN a (b.length:Int)) (ck (ee F c.length (ay b a (0,[])).2.length 32) (Hl F J n (y6 d (ai (a+1)) (c++(ay b a (0,[])).2) b)))) (J (.exit 0) (Sh c)):=by kernel_rfl
def aeK (a:List D4):Jw F (.exit 0) (Sh a)=some (a,()):=by kernel_rfl
def u4 (s:ByteArray):=bh Hj F Hk f37 dt iP 2 (s,())
def aoH (s:ByteArray):u4 F s=(o5 F0 s).bind fun a=>Hl F (Jw F) F.n (y6 (a.1.length:Int) 0 [] a.1):=by kernel_rfl
def Jx:Any:=.one ⟨dt,iP,2,fun x=>u4 F0 x.1⟩
def Yn:aX 37 Jx:=aw Hj ⟨CG,trivial⟩ func37 Hk (by kernel_rfl)
def L3:=[(25,eU)]
def js (l:D43):=bh L3 F ab f78 n3 n3 2 (l,())
def ZF (l:D43):js F l=(dM F0 l.1).bind fun a=>(dM F0 l.2).bind fun b=>some ((a.1,b.1),()):=by kernel_rfl
def r3:Any:=.one ⟨n3,n3,2,fun x=>js F0 x.1⟩
def Jy:aX 78 r3:=aw L3 ⟨h9,trivial⟩ func78 ab (by kernel_rfl)
def rB:=[(42,bn)]
def rC:Nat->Option Hint:=look [(2,{live:=[1,2,9,10,11],rl:=[6]})]
def mB (low high:Int)(a:List Int)(b c:Int):= b2 21 [(1,bp low),(2,bp high),(9,hM 3 (.int .i64) a),(10,bp b),(11,bp c)]
def Jz (a:Bool):= b2 21 [(6,Pw a)]
def FZ   := b2 21 []
def rD (a:St):Option U:=fp rB F rC [.r,.l,.r,.b,.i] f212 J n a
def mC:=gU rB F rC [.r,.l,.r,.b] f212 aS 1
def AF (low high:Int)(b:List Int)(c a:Int):rD F J (n+1) (mB low high b c a)=br (decide (a<c)) (ck (bN a (b.length:Int)) ((aU F0 (ay b a 0) low high).bind fun d=>br (!d.1) (J .ret (Jz false)) (rD F J n (mB low high b c (ai (a+1)))))) (J (.exit 0) (FZ)):=by kernel_rfl
def WK (a:Bool):mC F .ret (Jz a)=some (a,()):=by kernel_rfl
def UX: mC F (.exit 0) (FZ)=some (true,()):=by kernel_rfl
abbrev aD2:List (Ty×Bool):=[(.sl 3 (.int .i64),false),(.int .i64,false),(.int .i64,false)]
def pq (a:List Int)(low high:Int):=bh rB F rC f212 aD2 aS 1 (a,low,high,())
def ab9 (a:List Int)(low high:Int):pq F a low high=rD F (mC F) F.n (mB low high a (a.length:Int) 0):=by kernel_rfl
def JA:Any:=.one ⟨aD2,aS,1,fun x=>pq F0 x.1 x.2.1 x.2.2.1⟩
def aca:aX 212 JA:=aw rB ⟨bQ,trivial⟩ func212 rC (by kernel_rfl)
def Si:=[(212,JA)]
def sC (l:D43):=bh Si F ab f146 n3 aS 1 (l,())
def aeL (l:D43):sC F l=br ((l.1.length:Int)==4) (br ((l.2.length:Int)==4) ((pq F0 l.1 0 400).bind fun a=>br a.1 ((pq F0 l.2 0 100).bind fun b=>some (b.1,())) (some (false,()))) (some (false,()))) (some (false,())):=by kernel_rfl
def L4:Any:=.one ⟨n3,aS,1,fun x=>sC F0 x.1⟩
def aeM:aX 146 L4:=aw Si ⟨aca,trivial⟩ func146 ab (by kernel_rfl)
def al6:=[(78,r3),(139,hV),(146,L4)]
def JB (l:D43)(x:D4):=bh al6 F ab f79 ayu ayt 2 (l,x,())
def aua (l:D43)(x:D4):JB F l x=(js F0 l).bind fun a=>(sC F0 l).bind fun b=>br (!b.1) (some (a.1,1,())) ((nG F0 x).bind fun c=>br (!c.1) (some (a.1,1,())) (ck (bN x.1 (l.2.length:Int)) (br (decide (x.2.2.2<(ay l.2 x.1 0))) (some (a.1,2,())) (ck (bN x.1 (l.2.length:Int)) (br (decide (x.2.2.2>(ay l.2 x.1 0))) (some (a.1,3,())) (ck (bN x.1 (a.1.2.length:Int)) (ck (bN x.1 (a.1.2.length:Int)) (ck (bN x.1 (l.1.length:Int)) (br (decide (x.2.2.1>(ay l.1 x.1 0))) (some ((a.1.1,a.1.2.set x.1.toNat (ai ((ay a.1.2 x.1 0)+1))),4,())) (ck (bN x.1 (a.1.1.length:Int)) (ck (bN x.1 (a.1.1.length:Int)) (ck (bN x.2.1 ((a.1.1.set x.1.toNat (ai ((ay a.1.1 x.1 0)-x.2.2.1))).length:Int)) (ck (bN x.2.1 ((a.1.1.set x.1.toNat (ai ((ay a.1.1 x.1 0)-x.2.2.1))).length:Int)) ((sC F0 ((a.1.1.set x.1.toNat (ai ((ay a.1.1 x.1 0)-x.2.2.1))).set x.2.1.toNat (ai ((ay (a.1.1.set x.1.toNat (ai ((ay a.1.1 x.1 0)-x.2.2.1))) x.2.1 0)+x.2.2.1)),a.1.2.set x.1.toNat (ai ((ay a.1.2 x.1 0)+1)))).bind fun d=>br (!d.1) ((js F0 l).bind fun e=>some (e.1,1,())) (some (((a.1.1.set x.1.toNat (ai ((ay a.1.1 x.1 0)-x.2.2.1))).set x.2.1.toNat (ai ((ay (a.1.1.set x.1.toNat (ai ((ay a.1.1 x.1 0)-x.2.2.1))) x.2.1 0)+x.2.2.1)),a.1.2.set x.1.toNat (ai ((ay a.1.2 x.1 0)+1))),0,())))))))))))))))):=by kernel_rfl
def Hm:Any:=.one ⟨ayu,ayt,2,fun x=>JB F0 x.1 x.2.1⟩
def UY:aX 79 Hm:=aw al6 ⟨Jy,me,aeM,trivial⟩ func79 ab (by kernel_rfl)
def C5:=[(78,r3),(79,Hm)]
def C6:Nat->Option Hint:=look [(4,{live:=[4,6,7,14,15,16],mat:=[(7,3,.int .i64)],vW:=[(4,0,3,.int .i64),(4,1,3,.int .i64)],xl:=[4,6,7],rl:=[4,5]})]
def uk (e:List D4)(f g:Int)(h a b c d:List Int):= di 34 [b0 4,b0 6,(7,.v (.c (.own 1000000 none))),(14,hM 63 (K4) e),(15,bp f),(16,bp g)] [(4,[.own 1000001 none,.own 1000002 none]),(6,[.own 1000003 none,.own 1000004 none])] [ax 1000000 3 (.int .i64) h,ax 1000001 3 (.int .i64) a,ax 1000002 3 (.int .i64) b,ax 1000003 3 (.int .i64) c,ax 1000004 3 (.int .i64) d]
def OY (e a b c d:List Int):= di 34 [b0 4,b0 6,(7,.v (.c (.own 1000000 none)))] [(4,[.own 1000001 none,.own 1000002 none]),(6,[.own 1000003 none,.own 1000004 none])] [ax 1000000 3 (.int .i64) e,ax 1000001 3 (.int .i64) a,ax 1000002 3 (.int .i64) b,ax 1000003 3 (.int .i64) c,ax 1000004 3 (.int .i64) d]
def C7 (a:St):Option U:=fp C5 F C6 [.r,.r,.r,.l,.r,.b,.i] f35 J n a
def E6:=gU C5 F C6 [.r,.r,.r,.l,.r,.b] f35 apM 2
def JC (c:List D4)(i a:Int)(d e f g h:List Int):C7 F J (n+1) (uk c i a d e f g h)=br (decide (a<i)) (ck (bN a (c.length:Int)) ((JB F0 (g,h) (ay c a K4.aq)).bind fun b=>ck (ee F d.length [b.2.1].length 8) (C7 F J n (uk c i (ai (a+1)) (d++[b.2.1]) e f b.1.1 b.1.2)))) (J (.exit 0) (OY d e f g h)):=by kernel_rfl
def acb (c d e a b:List Int):E6 F (.exit 0) (OY c d e a b)=some ((a,b),c,()):=by kernel_rfl
def vG (l:D43)(a:D5):=bh C5 F C6 f35 ayv apM 2 (l,a,())
def al7 (l:D43)(a:D5):vG F l a=(js F0 l).bind fun b=>C7 F (E6 F) F.n (uk a (a.length:Int) 0 [] [] [] b.1.1 b.1.2):=by kernel_rfl
def E7:Any:=.one ⟨ayv,apM,2,fun x=>vG F0 x.1 x.2.1⟩
def UZ:aX 35 E7:=aw C5 ⟨Jy,UY,trivial⟩ func35 C6 (by kernel_rfl)
def acd:=[(34,b3),(35,E7),(36,u3),(37,Jx)]
def iG (c:D1)(r:a6):=bh acd F ab f11 An n3 2 (c,r,())
def aoI (c:D1)(r:a6):iG F c r=(cr F0 c r).bind fun a=>br (!a.1) (some (([],[]),())) ((lG F0).bind fun b=>(u4 F0 r.2.2.2.1.2.2.2).bind fun d=>(vG F0 b.1 d.1).bind fun e=>some (e.1,())):=by kernel_rfl
def JD:Any:=.one ⟨An,n3,2,fun x=>iG F0 x.1 x.2.1⟩
def Yo:aX 11 JD:=aw acd ⟨cD,UZ,L0,Yn,trivial⟩ func11 ab (by kernel_rfl)
def um:=[(79,Hm)]
def uo:Nat->Option Hint:=look [(3,{live:=[3,5,10,11,12],mat:=[(5,63,K4)],xl:=[5],rl:=[4]})]
def jZ (b:List D4)(c d:Int)(l a:List Int)(e:List D4):= di 30 [b0 3,(5,.v (.c (.own 1000000 none))),(10,hM 63 (K4) b),(11,bp c),(12,bp d)] [(3,[.ro false 3 (.int .i64) l,.ro false 3 (.int .i64) a])] [ax 1000000 63 K4 e]
def JE (a:List D4):= di 30 [(5,.v (.c (.own 1000000 none)))] [] [ax 1000000 63 K4 a]
def ng (a:St):Option U:=fp um F uo [.r,.r,.l,.r,.b,.i] f158 J n a
def y7:=gU um F uo [.r,.r,.l,.r,.b] f158 iP 2
def DX (b:List D4)(e a:Int)(l d:List Int)(c:List D4):ng F J (n+1) (jZ b e a l d c)=br (decide (a<e)) (ck (bN a (b.length:Int)) ((JB F0 (l,d) (ay b a K4.aq)).bind fun f=>br (f.2.1 != 2) (ck (ee F c.length [(ay b a K4.aq)].length 32) (ng F J n (jZ b e (ai (a+1)) l d (c++[(ay b a K4.aq)])))) (ng F J n (jZ b e (ai (a+1)) l d c)))) (J (.exit 0) (JE c)):=by kernel_rfl
def WL (a:List D4):y7 F (.exit 0) (JE a)=some (a,()):=by kernel_rfl
def hY (p:D5)(l:D43):=bh um F uo f158 af9 iP 2 (p,l,())
def aeN (p:D5)(l:D43):hY F p l=ng F (y7 F) F.n (jZ p (p.length:Int) 0 l.1 l.2 []):=by kernel_rfl
def L5:Any:=.one ⟨af9,iP,2,fun x=>hY F0 x.1 x.2.1⟩
def aeO:aX 158 L5:=aw um ⟨UY,trivial⟩ func158 uo (by kernel_rfl)
def agA:=[(11,JD),(70,bJ),(77,lh),(153,u1),(154,LX),(155,LY),(156,Sg),(157,Jv),(158,L5)]
def HO (c:D1)(r:a6)(m:MO):=bh agA F ab f88 XI fK 1 (c,r,m,())
def ase (c:D1)(r:a6)(m:MO):HO F c r m=(fx F0 c m).bind fun j=>br (!j.1) ((az F0 r).bind fun k=>some (k.1,false,())) (br (m.1==1) ((po F0 c r m.2.2.1).bind fun a=>br (!a.2.1) ((az F0 r).bind fun g=>some (g.1,false,())) ((gk F0 a.1.2.2.2.2.2.1 (ai (a.1.2.1-1))).bind fun f=>(iG F0 c (a.1.1,a.1.2.1,a.1.2.2.1,a.1.2.2.2.1,a.1.2.2.2.2.1,f.1,a.1.2.2.2.2.2.2)).bind fun h=>(hY F0 a.1.2.2.2.2.1 h.1).bind fun i=>some ((a.1.1,a.1.2.1,a.1.2.2.1,a.1.2.2.2.1,i.1,f.1,a.1.2.2.2.2.2.2),true,()))) (br (m.1==2) ((C3 F0 c r m.2.2.2.1).bind fun b=>br (!b.2.1) ((az F0 r).bind fun g=>some (g.1,false,())) ((gk F0 b.1.2.2.2.2.2.1 (ai (b.1.2.1-1))).bind fun f=>(iG F0 c (b.1.1,b.1.2.1,b.1.2.2.1,b.1.2.2.2.1,b.1.2.2.2.2.1,f.1,b.1.2.2.2.2.2.2)).bind fun h=>(hY F0 b.1.2.2.2.2.1 h.1).bind fun i=>some ((b.1.1,b.1.2.1,b.1.2.2.1,b.1.2.2.2.1,i.1,f.1,b.1.2.2.2.2.2.2),true,()))) (br (m.1==3) ((C4 F0 c r m.2.1 m.2.2.2.2.1 m.2.2.2.2.2.1).bind fun d=>br (!d.2.1) ((az F0 r).bind fun g=>some (g.1,false,())) ((gk F0 d.1.2.2.2.2.2.1 (ai (d.1.2.1-1))).bind fun f=>(iG F0 c (d.1.1,d.1.2.1,d.1.2.2.1,d.1.2.2.2.1,d.1.2.2.2.2.1,f.1,d.1.2.2.2.2.2.2)).bind fun h=>(hY F0 d.1.2.2.2.2.1 h.1).bind fun i=>some ((d.1.1,d.1.2.1,d.1.2.2.1,d.1.2.2.2.1,i.1,f.1,d.1.2.2.2.2.2.2),true,()))) ((LZ F0 c r m.2.2.2.2.2.2).bind fun e=>br (!e.2.1) ((az F0 r).bind fun g=>some (g.1,false,())) ((gk F0 e.1.2.2.2.2.2.1 (ai (e.1.2.1-1))).bind fun f=>(iG F0 c (e.1.1,e.1.2.1,e.1.2.2.1,e.1.2.2.2.1,e.1.2.2.2.2.1,f.1,e.1.2.2.2.2.2.2)).bind fun h=>(hY F0 e.1.2.2.2.2.1 h.1).bind fun i=>some ((e.1.1,e.1.2.1,e.1.2.2.1,e.1.2.2.2.1,i.1,f.1,e.1.2.2.2.2.2.2),true,())))))):=by kernel_rfl
def M3:Any:=.one ⟨XI,fK,1,fun x=>HO F0 x.1 x.2.1 x.2.2.1⟩
def ace:aX 88 M3:=aw agA ⟨Yo,b1,sq,LW,aeH,aeJ,al5,ab7,aeO,trivial⟩ func88 ab (by kernel_rfl)
def C8:=[(33,db),(85,ec)]
def C9:Nat->Option Hint:=look [(2,{live:=[0,1,2,3,13,14,15],rl:=[10]})]
def nh (a:List Int)(b:List bT)(c:Int)(name:ByteArray)(d:List Int)(e f:Int):= b2 33 [(0,hM 3 (.int .i64) a),(1,hM 95 (c8) b),(2,bp c),(3,W8 name),(13,hM 3 (.int .i64) d),(14,bp e),(15,bp f)]
def Sj (a:Bool):= b2 33 [(10,Pw a)]
def OZ   := b2 33 []
def sD (a:St):Option U:=fp C8 F C9 [.r,.l,.r,.b,.i] f159 J n a
def uq:=gU C8 F C9 [.r,.l,.r,.b] f159 aS 1
def JF (c:List Int)(d:List bT)(e:Int)(name:ByteArray)(b:List Int)(f a:Int):sD F J (n+1) (nh c d e name b f a)=br (decide (a<f)) (ck (bN a (b.length:Int)) ((dh F0 c (ay b a 0)).bind fun g=>br (!g.1) ((cV F0 d (e,name,ay b a 0)).bind fun h=>br (!h.1) (J .ret (Sj false)) (sD F J n (nh c d e name b f (ai (a+1))))) (sD F J n (nh c d e name b f (ai (a+1)))))) (J (.exit 0) (OZ)):=by kernel_rfl
def aeP (a:Bool):uq F .ret (Sj a)=some (a,()):=by kernel_rfl
def acf: uq F (.exit 0) (OZ)=some (true,()):=by kernel_rfl
def vH (a:List Int)(b:D38)(c:Int)(name:ByteArray)(cC:List Int):=bh C8 F C9 f159 ayK aS 1 (a,b,c,name,cC,())
def al8 (a:List Int)(b:D38)(c:Int)(name:ByteArray)(cC:List Int):vH F a b c name cC=sD F (uq F) F.n (nh a b c name cC (cC.length:Int) 0):=by kernel_rfl
def Sk:Any:=.one ⟨ayK,aS,1,fun x=>vH F0 x.1 x.2.1 x.2.2.1 x.2.2.2.1 x.2.2.2.2.1⟩
def al9:aX 159 Sk:=aw C8 ⟨eo,gI,trivial⟩ func159 C9 (by kernel_rfl)
def Yp:=[(33,db),(62,dN),(77,lh),(159,Sk),(160,kd),(161,jo),(162,Bj)]
def L6 (c:D1)(a:List Int)(b:D38)(m:MO):=bh Yp F ab f89 ayL aS 1 (c,a,b,m,())
def ama (c:D1)(a:List Int)(b:D38)(m:MO):L6 F c a b m=(fx F0 c m).bind fun g=>br (!g.1) (some (false,())) (br (m.1==4) (some (true,())) (br (m.1==2) ((vH F0 a b m.2.2.2.1.1 m.2.2.2.1.2.1 m.2.2.2.1.2.2).bind fun h=>some (h.1,())) (br (m.1==1) ((dZ F0 m.2.2.1.1).bind fun i=>(rr F0 c i.1).bind fun j=>(dh F0 a j.1).bind fun k=>br (!k.1) (some (false,())) ((qc F0).bind fun d=>(hU F0 m.2.2.1.2 d.1).bind fun e=>br e.1 (some (true,())) ((vH F0 a b m.2.2.1.2.1 m.2.2.1.2.2.1 m.2.2.1.2.2.2).bind fun f=>some (f.1,())))) ((dh F0 a m.2.2.2.2.2.1).bind fun l=>br (!l.1) (some (false,())) ((qc F0).bind fun d=>(hU F0 m.2.2.2.2.1 d.1).bind fun e=>br e.1 (some (true,())) ((vH F0 a b m.2.2.2.2.1.1 m.2.2.2.2.1.2.1 m.2.2.2.2.1.2.2).bind fun f=>some (f.1,()))))))):=by kernel_rfl
def Sl:Any:=.one ⟨ayL,aS,1,fun x=>L6 F0 x.1 x.2.1 x.2.2.1 x.2.2.2.1⟩
def amb:aX 89 Sl:=aw Yp ⟨eo,eV,sq,al9,ru,o4,RN,trivial⟩ func89 ab (by kernel_rfl)
def U0:=[(10,mZ),(32,fz),(33,db),(61,Jg),(71,yM),(87,wc),(88,M3),(89,Sl),(90,yT)]
def U1:Nat->Option Hint:=look [(900015,{live:=[],mat:=[(2,0,gp)]})]
def mD (w:nx)(d:D45):=bh U0 F U1 f45 ago abS 0 (w,d,())
def aiM (w:nx)(d:D45):mD F w d=(aM F0 w).bind fun a=>br (d.1==3) (ck (bN d.2.1 (w.2.2.2.1.length:Int)) (ck (QN d.2.1 (ai (d.2.1+1)) (a.1.2.2.2.1.length:Int)) ((Jf F0 w.1 (ay w.2.2.2.1 d.2.1 (0,[])).2).bind fun b=>br b.2.1 ((ph F0 w).bind fun f=>(dh F0 f.1 (ay w.2.2.2.1 d.2.1 (0,[])).1).bind fun g=>br g.1 (ck (bN (ay w.2.2.2.1 d.2.1 (0,[])).1 (w.2.2.1.length:Int)) ((HO F0 w.1 (ay w.2.2.1 (ay w.2.2.2.1 d.2.1 (0,[])).1 bD.aq) b.1).bind fun h=>ck (bN (ay w.2.2.2.1 d.2.1 (0,[])).1 (a.1.2.2.1.length:Int)) (some ((a.1.1,a.1.2.1,a.1.2.2.1.set (ay w.2.2.2.1 d.2.1 (0,[])).1.toNat h.1,a.1.2.2.2.1.take d.2.1.toNat++a.1.2.2.2.1.drop (ai (d.2.1+1)).toNat,a.1.2.2.2.2),0,())))) (some ((a.1.1,a.1.2.1,a.1.2.2.1,a.1.2.2.2.1.take d.2.1.toNat++a.1.2.2.2.1.drop (ai (d.2.1+1)).toNat,a.1.2.2.2.2),0,()))) (some ((a.1.1,a.1.2.1,a.1.2.2.1,a.1.2.2.2.1.take d.2.1.toNat++a.1.2.2.2.1.drop (ai (d.2.1+1)).toNat,a.1.2.2.2.2),0,()))))) (br (d.1==4) (ck (QN d.2.1 (ai (d.2.1+1)) (a.1.2.2.2.1.length:Int)) (some ((a.1.1,a.1.2.1,a.1.2.2.1,a.1.2.2.2.1.take d.2.1.toNat++a.1.2.2.2.1.drop (ai (d.2.1+1)).toNat,a.1.2.2.2.2),0,()))) (br (d.1==5) (ck (bN d.2.1 (w.2.2.2.1.length:Int)) ((sv F0 (ay w.2.2.2.1 d.2.1 (0,[]))).bind fun c=>ck (ee F a.1.2.2.2.1.length [c.1].length 32) (some ((a.1.1,a.1.2.1,a.1.2.2.1,a.1.2.2.2.1++[c.1],a.1.2.2.2.2),0,())))) ((L6 F0 w.1 w.2.1 w.2.2.2.2 d.2.2.2).bind fun i=>br (!i.1) (some (w,5,())) ((sy F0 w.1 d.2.2.2).bind fun e=>ck (ee F a.1.2.2.2.1.length [(d.2.1,e.1)].length 32) (some ((a.1.1,a.1.2.1,a.1.2.2.1,a.1.2.2.2.1++[(d.2.1,e.1)],a.1.2.2.2.2),0,())))))):=by kernel_rfl
def O0:Any:=.one ⟨ago,abS,0,fun x=>mD F0 x.1 x.2.1⟩
def aiN:aX 45 O0:=aw U0 ⟨yN,jT,eo,X9,OC,Sz,ace,amb,OJ,trivial⟩ func45 U1 (by kernel_rfl)
end
end Go.Am.Tryz
