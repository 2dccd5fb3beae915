/- No condition. -/
import Derived.Test.YtaheoongenkdbaaGreatDoorQeXJG5
set_option linter.all false
set_option maxRecDepth 100000
namespace Go.Am.Tryz
open Go.Am Go.Proofs Go.Proofs.Tryz
noncomputable section
variable {U:Type} (F:oH) (J:Ex->St->Option U) (n:Nat)
def hM:=[(82,PI),(83,VR),(84,F3),(85,eh),(86,Zy)]
def hO:Nat->Option Hint:=look [(4,{live:=[1,2,4,6,7,8,28,29,30],Bg:=[(4,2,3,.int .i64),(4,3,50,cl),(4,4,102,eI),(4,5,95,cZ)],xl:=[1,2,4,6,7,8],rl:=[4,5]}),(7,{live:=[1,2,4,6,7,8,28,29,30,37,38,39],xl:=[1,2,4,6,7,8,28,29,30],rl:=[4,5]})]
def pc (a H I K L w b:Int)(c:List Int)(d:List bb)(e:List b0)(f:List bS)(M N r g h i j k:Int)(l m:ByteArray)(o O p:Int)(P:List kI)(q:List bS)(s:List Int)(t:List bb)(u:List b0)(v:List bS)(x:List Int)(y:List D4)(z:List D9)(A:List Int)(B:List kI)(C:List Int)(D:List bb)(E:List b0)(G:List bS):= di 67 [(1,bq a),b9 2,b9 4,b9 6,(7,.v (.c (.own 1000000 none))),b9 8,(28,.v (.c (.own 1000000 none))),(29,bq H),(30,bq I),(37,.v (.c (.own 1000001 none))),(38,bq K),(39,bq L)] [(2,[an w,an b,.ro false 3 (.int .i64) c,.ro false 50 (cl) d,.ro false 102 (eI) e,.ro false 95 (cZ) f]),(4,[an M,an N,.own 1000002 none,.own 1000003 none,.own 1000004 none,.own 1000005 none]),(6,[an r,an g,an h,an i,an j,an k,.str l,.own 1000006 none,.str m,.own 1000007 none,.own 1000008 none,.own 1000009 none,an o,.own 1000010 none]),(8,[an O,an p,.own 1000011 none,.own 1000012 none,.own 1000013 none,.own 1000014 none])] [ay 1000000 119 px P,ay 1000001 95 cZ q,ay 1000002 3 (.int .i64) s,ay 1000003 50 cl t,ay 1000004 102 eI u,ay 1000005 95 cZ v,ay 1000006 3 (.int .i64) x,ay 1000007 63 K4 y,ay 1000008 61 K9 z,ay 1000009 5 (.int .u8) A,ay 1000010 119 px B,ay 1000011 3 (.int .i64) C,ay 1000012 50 cl D,ay 1000013 102 eI E,ay 1000014 95 cZ G]
def MQ (a b c:Int)(d:List Int)(e:List bb)(f:List b0)(g:List bS):= di 67 [b9 4,(5,bq a)] [(4,[an b,an c,.ro false 3 (.int .i64) d,.ro false 50 (cl) e,.ro false 102 (eI) f,.ro false 95 (cZ) g])] []
def Kq (a G H w b:Int)(c:List Int)(d:List bb)(e:List b0)(f:List bS)(I K r g h i j k:Int)(l m:ByteArray)(o L p:Int)(M:List kI)(q:List Int)(s:List bb)(t:List b0)(u:List bS)(v:List Int)(x:List D4)(y:List D9)(z:List Int)(A:List kI)(B:List Int)(C:List bb)(D:List b0)(E:List bS):= di 67 [(1,bq a),b9 2,b9 4,b9 6,(7,.v (.c (.own 1000000 none))),b9 8,(28,.v (.c (.own 1000000 none))),(29,bq G),(30,bq H)] [(2,[an w,an b,.ro false 3 (.int .i64) c,.ro false 50 (cl) d,.ro false 102 (eI) e,.ro false 95 (cZ) f]),(4,[an I,an K,.own 1000001 none,.own 1000002 none,.own 1000003 none,.own 1000004 none]),(6,[an r,an g,an h,an i,an j,an k,.str l,.own 1000005 none,.str m,.own 1000006 none,.own 1000007 none,.own 1000008 none,an o,.own 1000009 none]),(8,[an L,an p,.own 1000010 none,.own 1000011 none,.own 1000012 none,.own 1000013 none])] [ay 1000000 119 px M,ay 1000001 3 (.int .i64) q,ay 1000002 50 cl s,ay 1000003 102 eI t,ay 1000004 95 cZ u,ay 1000005 3 (.int .i64) v,ay 1000006 63 K4 x,ay 1000007 61 K9 y,ay 1000008 5 (.int .u8) z,ay 1000009 119 px A,ay 1000010 3 (.int .i64) B,ay 1000011 50 cl C,ay 1000012 102 eI D,ay 1000013 95 cZ E]
def u7 (a:St):Option U:=fy hM F hO [.r,.r,.r,.l,.r,.b,.i,.r,.r,.l,.b,.r,.r,.b,.i] f44 J n a
def pd:Ex->St->Option U:=abL Tryz.prog (look hM) F hO [.r,.r,.l,.b,.r,.r,.b] (sub [.r,.r,.r,.l,.r,.b,.i] (gX f44)) (itk Tryz.prog (look hM) F hO (sub [.r,.r,.r,.l,.r,.b,.i] (gX f44)) J n)
def kx (a G H w b:Int)(c:List Int)(d:List bb)(e:List b0)(f:List bS)(I K r g h i j k:Int)(l m:ByteArray)(o L p:Int)(M:List kI)(q:List Int)(s:List bb)(t:List b0)(u:List bS)(v:List Int)(x:List D4)(y:List D9)(z:List Int)(A:List kI)(B:List Int)(C:List bb)(D:List b0)(E:List bS):= di 67 [(1,bq a),b9 2,b9 4,b9 6,(7,.v (.c (.own 1000000 none))),b9 8,(28,.v (.c (.own 1000000 none))),(29,bq G),(30,bq H)] [(2,[an w,an b,.ro false 3 (.int .i64) c,.ro false 50 (cl) d,.ro false 102 (eI) e,.ro false 95 (cZ) f]),(4,[an I,an K,.own 1000001 none,.own 1000002 none,.own 1000003 none,.own 1000004 none]),(6,[an r,an g,an h,an i,an j,an k,.str l,.own 1000005 none,.str m,.own 1000006 none,.own 1000007 none,.own 1000008 none,an o,.own 1000009 none]),(8,[an L,an p,.own 1000010 none,.own 1000011 none,.own 1000012 none,.own 1000013 none])] [ay 1000000 119 px M,ay 1000001 3 (.int .i64) q,ay 1000002 50 cl s,ay 1000003 102 eI t,ay 1000004 95 cZ u,ay 1000005 3 (.int .i64) v,ay 1000006 63 K4 x,ay 1000007 61 K9 y,ay 1000008 5 (.int .u8) z,ay 1000009 119 px A,ay 1000010 3 (.int .i64) B,ay 1000011 50 cl C,ay 1000012 102 eI D,ay 1000013 95 cZ E]
def MR (a b c:Int)(d:List Int)(e:List bb)(f:List b0)(g:List bS):= di 67 [b9 4,(5,bq a)] [(4,[an b,an c,.ro false 3 (.int .i64) d,.ro false 50 (cl) e,.ro false 102 (eI) f,.ro false 95 (cZ) g])] []
def vR (a w b:Int)(c:List Int)(d:List bb)(e:List b0)(f:List bS)(G H r g h i j k:Int)(l m:ByteArray)(o I p:Int)(K:List kI)(q:List Int)(s:List bb)(t:List b0)(u:List bS)(v:List Int)(x:List D4)(y:List D9)(z:List Int)(A:List kI)(B:List Int)(C:List bb)(D:List b0)(E:List bS):= di 67 [(1,bq a),b9 2,b9 4,b9 6,(7,.v (.c (.own 1000000 none))),b9 8] [(2,[an w,an b,.ro false 3 (.int .i64) c,.ro false 50 (cl) d,.ro false 102 (eI) e,.ro false 95 (cZ) f]),(4,[an G,an H,.own 1000001 none,.own 1000002 none,.own 1000003 none,.own 1000004 none]),(6,[an r,an g,an h,an i,an j,an k,.str l,.own 1000005 none,.str m,.own 1000006 none,.own 1000007 none,.own 1000008 none,an o,.own 1000009 none]),(8,[an I,an p,.own 1000010 none,.own 1000011 none,.own 1000012 none,.own 1000013 none])] [ay 1000000 119 px K,ay 1000001 3 (.int .i64) q,ay 1000002 50 cl s,ay 1000003 102 eI t,ay 1000004 95 cZ u,ay 1000005 3 (.int .i64) v,ay 1000006 63 K4 x,ay 1000007 61 K9 y,ay 1000008 5 (.int .u8) z,ay 1000009 119 px A,ay 1000010 3 (.int .i64) B,ay 1000011 50 cl C,ay 1000012 102 eI D,ay 1000013 95 cZ E]
def nR (a:St):Option U:=fy hM F hO [.r,.r,.r,.l,.r,.b,.i] f44 J n a
abbrev adf:List (Ty×Bool):=[(gZ,true),(.int .i64,false)]
def fe:=ig hM F hO [.r,.r,.r,.l,.r,.b] f44 adf 0
def EZ (a I K L b w c:Int)(d:List Int)(e:List bb)(f:List b0)(g:List bS)(M N r j k l m o:Int)(p q:ByteArray)(s O t:Int)(P:List kI)(h:List bS)(u:List Int)(v:List bb)(x:List b0)(y:List bS)(z:List Int)(A:List D4)(B:List D9)(C:List Int)(D:List kI)(E:List Int)(G:List bb)(H:List b0)(i:List bS):u7 F J (n+1) (pc a I K L b w c d e f g M N r j k l m o p q s O t P h u v x y z A B C D E G H i)=br (decide (b<L)) (ck (bO b (h.length:Int)) ((cX F0 i (aN h b cZ.aC)).bind fun Q=>br (!Q.1) (J .ret (MQ 4 w c d e f g)) (u7 F J n (pc a I K L (aj (b+1)) w c d e f g M N r j k l m o p q s O t P h u v x y z A B C D E G H i)))) (J (.exit 2) (Kq a I K w c d e f g M N r j k l m o p q s O t P u v x y z A B C D E G H i)):=by kernel_rfl
def E0 (a I b w d:Int)(e:List Int)(f:List bb)(g:List b0)(h:List bS)(K L r i j k l m:Int)(o p:ByteArray)(q M s:Int)(c:List kI)(t:List Int)(u:List bb)(v:List b0)(x:List bS)(y:List Int)(z:List D4)(A:List D9)(B:List Int)(C:List kI)(D:List Int)(E:List bb)(G:List b0)(H:List bS):nR F J (n+1) (kx a I b w d e f g h K L r i j k l m o p q M s c t u v x y z A B C D E G H)=br (decide (b<I)) (ck (bO b (c.length:Int)) ((EY F0 a (aN c b px.aC).2).bind fun N=>u7 F (pd F J n) F.n (pc a I b (N.1.length:Int) 0 w d e f g h K L r i j k l m o p q M s c N.1 t u v x y z A B C D E G H))) (J (.exit 0) (vR a w d e f g h K L r i j k l m o p q M s c t u v x y z A B C D E G H)):=by kernel_rfl
def aaR (a b c:Int)(d:List Int)(e:List bb)(f:List b0)(g:List bS):pd F J n .ret (MQ a b c d e f g)=J .ret (MR a b c d e f g):=by kernel_rfl
def XX (a G H w b:Int)(c:List Int)(d:List bb)(e:List b0)(f:List bS)(I K r g h i j k:Int)(l m:ByteArray)(o L p:Int)(M:List kI)(q:List Int)(s:List bb)(t:List b0)(u:List bS)(v:List Int)(x:List D4)(y:List D9)(z:List Int)(A:List kI)(B:List Int)(C:List bb)(D:List b0)(E:List bS):pd F J n (.exit 2) (Kq a G H w b c d e f I K r g h i j k l m o L p M q s t u v x y z A B C D E)=nR F J n (kx a G (aj (H+1)) w b c d e f I K r g h i j k l m o L p M q s t u v x y z A B C D E):=by kernel_rfl
def aaS (a b c:Int)(d:List Int)(e:List bb)(f:List b0)(g:List bS):fe F .ret (MR a b c d e f g)=some (((b,c),d,e,f,g),a,()):=by kernel_rfl
def XY (a w e:Int)(f:List Int)(g:List bb)(b:List b0)(h:List bS)(K L r i j k l m:Int)(o p:ByteArray)(q C s:Int)(d:List kI)(D:List Int)(E:List bb)(G:List b0)(H:List bS)(t:List Int)(u:List D4)(v:List D9)(x:List Int)(y:List kI)(z:List Int)(c:List bb)(A:List b0)(B:List bS):fe F (.exit 0) (vR a w e f g b h K L r i j k l m o p q C s d D E G H t u v x y z c A B)=br (decide ((aj ((b.length:Int)+(d.length:Int)))>60)) (some (((w,e),f,g,b,h),4,())) (ck (bO a (c.length:Int)) ((PN F0 ((C,s),z,c.set a.toNat (r,i,j,(k,l,(m,o,t),p),u,v,(x,q),y),A,B) d).bind fun I=>some (I.1,0,()))):=by kernel_rfl
def DR (w:nz)(a:Int):=bn hM F hO f44 adf adf 0 (w,a,())
def af4 (w:nz)(a:Int):DR F w a=ck (bO a (w.2.2.1.length:Int)) ((Ic F0 w.1 (aN w.2.2.1 a cl.aC)).bind fun b=>(Re F0 w a b.2.1).bind fun c=>nR F (fe F) F.n (kx a (b.2.1.length:Int) 0 w.1.1 w.1.2 w.2.1 w.2.2.1 w.2.2.2.1 w.2.2.2.2 0 0 b.1.1 b.1.2.1 b.1.2.2.1 b.1.2.2.2.1.1 b.1.2.2.2.1.2.1 b.1.2.2.2.1.2.2.1.1 b.1.2.2.2.1.2.2.1.2.1 b.1.2.2.2.1.2.2.2 b.1.2.2.2.2.2.2.1.2 c.1.1.1 c.1.1.2 b.2.1 [] [] [] [] b.1.2.2.2.1.2.2.1.2.2 b.1.2.2.2.2.1 b.1.2.2.2.2.2.1 b.1.2.2.2.2.2.2.1.1 b.1.2.2.2.2.2.2.2 c.1.2.1 c.1.2.2.1 c.1.2.2.2.1 c.1.2.2.2.2)):=by kernel_rfl
def MS:Any:=.one ⟨adf,adf,0,fun x=>DR F0 x.1 x.2.1⟩
def af5:ba 44 MS:=aw hM ⟨akd,aqN,VP,hK,auq,trivial⟩ func44 hO (by kernel_rfl)
def VV:=[(204,hJ)]
def Ig (a b:D9):=bn VV F ab f261 wz fY 2 (a,b,())
def akj (a b:D9):Ig F a b=br (decide (a.1>b.1)) ((gD F0 a).bind fun c=>some (c.1,())) ((gD F0 b).bind fun d=>some (d.1,())):=by kernel_rfl
def PO:Any:=.one ⟨wz,fY,2,fun x=>Ig F0 x.1 x.2.1⟩
def akk:ba 261 PO:=aw VV ⟨l4,trivial⟩ func261 ab (by kernel_rfl)
def VW:=[(80,pT),(211,DH)]
def Ih (name:ByteArray):=bn VW F ab f262 dw aBm 1 (name,())
def akl (name:ByteArray):Ih F name=(pS F0 name).bind fun a=>br (decide ((a.1.length:Int)<3)) (some (ak,false,())) (ck (bO (aj ((a.1.length:Int)-1)) (a.1.length:Int)) (ck (bO (aj ((a.1.length:Int)-2)) (a.1.length:Int)) (br ((aN a.1 (aj ((a.1.length:Int)-1)) (0,[])).1 != (aj ((aN a.1 (aj ((a.1.length:Int)-2)) (0,[])).1+1))) (some (ak,false,())) (ck (bO (aj ((a.1.length:Int)-2)) (a.1.length:Int)) (ck (bO (aj ((a.1.length:Int)-3)) (a.1.length:Int)) (br ((aN a.1 (aj ((a.1.length:Int)-2)) (0,[])).1 != (aj ((aN a.1 (aj ((a.1.length:Int)-3)) (0,[])).1+1))) (some (ak,false,())) ((rU F0 name).bind fun b=>(rU F0 b.1).bind fun c=>some (c.1,true,())))))))):=by kernel_rfl
def PQ:Any:=.one ⟨dw,aBm,1,fun x=>Ih F0 x.1⟩
def akm:ba 262 PQ:=aw VW ⟨DB,Rb,trivial⟩ func262 ab (by kernel_rfl)
def oC (s a:ByteArray):=bn aB F ab f81 Sr aT 1 (s,a,())
def NZ (s a:ByteArray):oC F s a=br (decide ((s.size:Int)>=(a.size:Int))) (ck (QW 0 (a.size:Int) (s.size:Int)) (some ((s.extract (0:Int).toNat (a.size:Int).toNat).toList==a.toList,()))) (some (false,())):=by kernel_rfl
def sO:Any:=.one ⟨Sr,aT,1,fun x=>oC F0 x.1 x.2.1⟩
def N1:ba 81 sO:=aw aB trivial func81 ab (by kernel_rfl)
def GZ:=[(81,sO)]
def AD (s a:ByteArray):=bn GZ F ab f40 Sr aT 1 (s,a,())
def VX (s a:ByteArray):AD F s a=(oC F0 s a).bind fun b=>some (b.1,()):=by kernel_rfl
def Bv:Any:=.one ⟨Sr,aT,1,fun x=>AD F0 x.1 x.2.1⟩
def VY:ba 40 Bv:=aw GZ ⟨N1,trivial⟩ func40 ab (by kernel_rfl)
def VZ:=[(39,eC),(40,Bv)]
def ng (s t:ByteArray):=bn VZ F ab f13 Sr aT 1 (s,t,())
def akn (s t:ByteArray):ng F s t=(eK F0 s).bind fun a=>br a.1 ((eK F0 t).bind fun b=>br b.1 ((AD F0 s t).bind fun c=>br c.1 (br ((s.size:Int)==(t.size:Int)) (some (true,())) (ck (bO (t.size:Int) (s.size:Int)) (some ((gV s (t.size:Int))==47,())))) (some (false,()))) (some (false,()))) (some (false,())):=by kernel_rfl
def sf:Any:=.one ⟨Sr,aT,1,fun x=>ng F0 x.1 x.2.1⟩
def F7:ba 13 sf:=aw VZ ⟨gA,VY,trivial⟩ func13 ab (by kernel_rfl)
def anK:=[(13,sf),(62,dQ),(73,jV),(132,kr),(138,iG),(211,DH),(261,PO),(262,PQ)]
def PR (c:D1)(s:TN)(q:D9):=bn anK F ab f217 aBn Bl 2 (c,s,q,())
def awF (c:D1)(s:TN)(q:D9):PR F c s q=(kO F0 s).bind fun a=>(km F0 c s).bind fun f=>br (!f.1) (some (a.1,())) ((lR F0 c q).bind fun g=>br (!g.1) (some (a.1,())) ((Ig F0 q s.2.2.1).bind fun d=>(rU F0 q.2.1).bind fun h=>(ed F0 h.1).bind fun b=>(Ih F0 q.2.1).bind fun e=>br e.2.1 ((ng F0 e.1 s.2.2.2).bind fun i=>br i.1 (some ((a.1.1,(if b.1>s.2.1 then b.1 else s.2.1,(d.1,e.1))),())) (some ((a.1.1,(if b.1>s.2.1 then b.1 else s.2.1,(d.1,a.1.2.2.2))),()))) (some ((a.1.1,(if b.1>s.2.1 then b.1 else s.2.1,(d.1,a.1.2.2.2))),())))):=by kernel_rfl
def Ii:Any:=.one ⟨aBn,Bl,2,fun x=>PR F0 x.1 x.2.1 x.2.2.1⟩
def V0:ba 217 Ii:=aw anK ⟨F7,fa,pV,rW,mN,Rb,akk,akm,trivial⟩ func217 ab (by kernel_rfl)
def V1:=[(62,dQ),(73,jV),(145,lT)]
def Ij (c:D1)(s:TN)(b:D15):=bn V1 F ab f263 ahO aT 1 (c,s,b,())
def ako (c:D1)(s:TN)(b:D15):Ij F c s b=(km F0 c s).bind fun a=>br a.1 ((mP F0 c b).bind fun d=>br d.1 ((ed F0 b.1).bind fun e=>br (decide (e.1>s.1)) (some (decide (b.2.1>=s.2.1),())) (some (false,()))) (some (false,()))) (some (false,())):=by kernel_rfl
def PS:Any:=.one ⟨ahO,aT,1,fun x=>Ij F0 x.1 x.2.1 x.2.2.1⟩
def akp:ba 263 PS:=aw V1 ⟨fa,pV,uZ,trivial⟩ func263 ab (by kernel_rfl)
def ah5:=[(62,dQ),(132,kr),(263,PS)]
def Xg (c:D1)(s:TN)(b:D15):=bn ah5 F ab f218 ahO ahQ 2 (c,s,b,())
def aur (c:D1)(s:TN)(b:D15):Xg F c s b=(kO F0 s).bind fun a=>(Ij F0 c s b).bind fun d=>br (!d.1) (some (a.1,false,())) ((ed F0 b.1).bind fun e=>some ((e.1,a.1.2),true,())):=by kernel_rfl
def Zz:Any:=.one ⟨ahO,ahQ,2,fun x=>Xg F0 x.1 x.2.1 x.2.2.1⟩
def aus:ba 218 Zz:=aw ah5 ⟨fa,rW,akp,trivial⟩ func218 ab (by kernel_rfl)
def Tj:=[(161,jU)]
def tw (a b:TN):=bn Tj F ab f97 aBo aT 1 (a,b,())
def af6 (a b:TN):tw F a b=br (a.1==b.1) (br (a.2.1==b.2.1) ((iE F0 a.2.2.1 b.2.2.1).bind fun c=>br c.1 (some (a.2.2.2.toList==b.2.2.2.toList,())) (some (false,()))) (some (false,()))) (some (false,())):=by kernel_rfl
def AE:Any:=.one ⟨aBo,aT,1,fun x=>tw F0 x.1 x.2.1⟩
def PT:ba 97 AE:=aw Tj ⟨pR,trivial⟩ func97 ab (by kernel_rfl)
def PU:=[(73,jV),(164,r9),(165,Cp),(166,sd)]
def AF (c:D1)(s:TN):=bn PU F ab f308 R8 ld 2 (c,s,())
def adg (c:D1)(s:TN):AF F c s=(km F0 c s).bind fun e=>br (!e.1) (some ([],())) ((kv F0 [s.1,s.2.1]).bind fun a=>(se F0 c s.2.2.1).bind fun b=>ck (eA F a.1.length b.1.length 1) ((nd F0 s.2.2.2).bind fun d=>ck (eA F (a.1++b.1).length d.1.length 1) (some ((a.1++b.1)++d.1,())))):=by kernel_rfl
def Kr:Any:=.one ⟨R8,ld,2,fun x=>AF F0 x.1 x.2.1⟩
def adh:ba 308 Kr:=aw PU ⟨pV,F5,Th,F6,trivial⟩ func308 ab (by kernel_rfl)
def PV:=[(163,hI),(308,Kr)]
def AG (c:D1)(s:TN):=bn PV F ab f265 R8 ld 2 (c,s,())
def adi (c:D1)(s:TN):AG F c s=(AF F0 c s).bind fun a=>br ((a.1.length:Int)==0) (some ([],())) ((eL F0 (a.1.length:Int)).bind fun b=>ck (eA F b.1.length a.1.length 1) (ck (eA F (b.1++a.1).length [10].length 1) (some ((b.1++a.1)++[10],())))):=by kernel_rfl
def Ks:Any:=.one ⟨R8,ld,2,fun x=>AG F0 x.1 x.2.1⟩
def adj:ba 265 Ks:=aw PV ⟨lV,adh,trivial⟩ func265 ab (by kernel_rfl)
def ZA:=[(76,nO),(135,ks)]
def MT (d:D14)(b:List Int):=bn ZA F ab f264 aBp aBq 2 (d,b,())
def anL (d:D14)(b:List Int):MT F d b=(kP F0 d).bind fun a=>(pY F0 d).bind fun c=>br (!c.1) (some (a.1,false,())) (br (decide ((aj ((d.1.length:Int)+(b.length:Int)))>100000)) (some (a.1,false,())) (ck (eA F a.1.1.length b.length 1) (some ((a.1.1++b,a.1.2),true,())))):=by kernel_rfl
def Tk:Any:=.one ⟨aBp,aBq,2,fun x=>MT F0 x.1 x.2.1⟩
def anM:ba 264 Tk:=aw ZA ⟨Ai,r0,trivial⟩ func264 ab (by kernel_rfl)
def adk:=[(34,bX),(70,bM),(97,AE),(132,kr),(264,Tk),(265,Ks)]
abbrev aEw:List (Ty×Bool):=[(K1,true),(cl,true),(K12,true)]
def vS (c:D1)(r:bb)(s:TN):=bn adk F ab f219 aEw gd 2 (c,r,s,())
def aqO (c:D1)(r:bb)(s:TN):vS F c r s=(az F0 r).bind fun a=>(cq F0 c r).bind fun f=>br (!f.1) (some (a.1,false,())) ((tw F0 s r.2.2.2.1).bind fun g=>br g.1 (some (a.1,true,())) ((AG F0 c s).bind fun h=>(MT F0 r.2.2.2.2.2.2.1 h.1).bind fun b=>(kO F0 s).bind fun e=>br (!b.2.1) ((az F0 r).bind fun d=>some (d.1,false,())) ((cq F0 c (a.1.1,a.1.2.1,a.1.2.2.1,e.1,a.1.2.2.2.2.1,a.1.2.2.2.2.2.1,b.1,a.1.2.2.2.2.2.2.2)).bind fun i=>br (!i.1) ((az F0 r).bind fun d=>some (d.1,false,())) (some ((a.1.1,a.1.2.1,a.1.2.2.1,e.1,a.1.2.2.2.2.1,a.1.2.2.2.2.2.1,b.1,a.1.2.2.2.2.2.2.2),true,()))))):=by kernel_rfl
def AH:Any:=.one ⟨aEw,gd,2,fun x=>vS F0 x.1 x.2.1 x.2.2.1⟩
def N2:ba 219 AH:=aw adk ⟨ct,b7,PT,rW,anM,adj,trivial⟩ func219 ab (by kernel_rfl)
def ZB:=[(25,e9),(33,db),(335,s9),(337,Bj)]
def E1 (s:List Int)(i:Int):=bn ZB F ab f312 ajp jK 2 (s,i,())
def anN (s:List Int)(i:Int):E1 F s i=(dm F0 s i).bind fun c=>br c.1 ((dP F0 s).bind fun d=>some (d.1,())) (br (decide ((pz (fun a=>geP a i) s 0)<0)) ((dP F0 s).bind fun b=>ck (ahy (s.length:Int) b.1.length [i].length) (some (b.1.take (s.length:Int).toNat++[i]++b.1.drop (s.length:Int).toNat,()))) ((dP F0 s).bind fun b=>ck (ahy (pz (fun a=>geP a i) s 0) b.1.length [i].length) (some (b.1.take (pz (fun a=>geP a i) s 0).toNat++[i]++b.1.drop (pz (fun a=>geP a i) s 0).toNat,())))):=by kernel_rfl
def Tl:Any:=.one ⟨ajp,jK,2,fun x=>E1 F0 x.1 x.2.1⟩
def anO:ba 312 Tl:=aw ZB ⟨iL,et,Oy,UB,trivial⟩ func312 ab (by kernel_rfl)
def l7:=[(312,Tl)]
def l8:Nat->Option Hint:=look [(3,{live:=[1,5,10,11,12],mat:=[(5,3,.int .i64)],xl:=[1,5],rl:=[4]}),(8,{live:=[5,20,21,22],xl:=[5],rl:=[4]})]
def sg (a:List Int)(b c:Int)(d:List Int):= di 31 [(5,.v (.c (.own 1000000 none))),(20,ih 3 (.int .i64) a),(21,bq b),(22,bq c)] [] [ay 1000000 3 (.int .i64) d]
def MU (a:List Int):= di 31 [(5,.v (.c (.own 1000000 none)))] [] [ay 1000000 3 (.int .i64) a]
def AI (a:St):Option U:=fy l7 F l8 [.r,.r,.r,.l,.r,.b,.i] f273 J n a
def Cq:=ig l7 F l8 [.r,.r,.r,.l,.r,.b] f273 jK 2
def sh (b a:List Int)(c d:Int)(e:List Int):= di 31 [(1,ih 3 (.int .i64) b),(5,.v (.c (.own 1000000 none))),(10,ih 3 (.int .i64) a),(11,bq c),(12,bq d)] [] [ay 1000000 3 (.int .i64) e]
def MV (b a:List Int):= di 31 [(1,ih 3 (.int .i64) b),(5,.v (.c (.own 1000000 none)))] [] [ay 1000000 3 (.int .i64) a]
def AJ (a:St):Option U:=fy l7 F l8 [.r,.r,.l,.r,.b,.i] f273 J n a
def Cr:=ig l7 F l8 [.r,.r,.l,.r,.b] f273 jK 2
def G0 (b:List Int)(c a:Int)(d:List Int):AI F J (n+1) (sg b c a d)=br (decide (a<c)) (ck (bO a (b.length:Int)) ((E1 F0 d (aN b a 0)).bind fun e=>AI F J n (sg b c (aj (a+1)) e.1))) (J (.exit 2) (MU d)):=by kernel_rfl
def G1 (b c:List Int)(d a:Int)(e:List Int):AJ F J (n+1) (sh b c d a e)=br (decide (a<d)) (ck (bO a (c.length:Int)) ((E1 F0 e (aN c a 0)).bind fun f=>AJ F J n (sh b c d (aj (a+1)) f.1))) (J (.exit 0) (MV b e)):=by kernel_rfl
def aaT (a:List Int):Cq F (.exit 2) (MU a)=some (a,()):=by kernel_rfl
def aaU (b a:List Int):Cr F (.exit 0) (MV b a)=AI F (Cq F) F.n (sg b (b.length:Int) 0 a):=by kernel_rfl
def Ik (a b:List Int):=bn l7 F l8 f273 ai2 jK 2 (a,b,())
def akq (a b:List Int):Ik F a b=AJ F (Cr F) F.n (sh b a (a.length:Int) 0 []):=by kernel_rfl
def PW:Any:=.one ⟨ai2,jK,2,fun x=>Ik F0 x.1 x.2.1⟩
def akr:ba 273 PW:=aw l7 ⟨anO,trivial⟩ func273 l8 (by kernel_rfl)
def Tm:=[(273,PW)]
def DS (a b:D9):=bn Tm F ab f231 wz ahR 2 (a,b,())
def af7 (a b:D9):DS F a b=br (a.1 != b.1) (some ((0,ak,[]),false,())) (br (!(a.2.1.toList==b.2.1.toList)) (some ((0,ak,[]),false,())) ((Ik F0 a.2.2 b.2.2).bind fun c=>some ((a.1,a.2.1,c.1),true,()))):=by kernel_rfl
def MW:Any:=.one ⟨wz,ahR,2,fun x=>DS F0 x.1 x.2.1⟩
def af8:ba 231 MW:=aw Tm ⟨akr,trivial⟩ func231 ab (by kernel_rfl)
def u9:=[(75,Cf),(134,vN),(141,nN),(142,oA),(205,gN),(231,MW),(232,xV)]
def va:Nat->Option Hint:=look [(5,{live:=[1,3,5,8,9],xl:=[1,3,5,8,9],rl:=[6,7]})]
def pe (e:List D9)(k c a p:Int)(b:ByteArray)(d:List Int)(f:List D9):= di 71 [(1,ih 61 (K9) e),b9 3,b9 5,(8,.v (.c (.own 1000000 none))),(9,bq k)] [(3,[an c,an a]),(5,[an p,.str b,.ro false 3 (.int .i64) d])] [ay 1000000 61 K9 f]
def nh (e:List D9)(k c a p:Int)(b:ByteArray)(d:List Int)(f:List D9):= di 71 [(1,ih 61 (K9) e),b9 3,b9 5,(8,.v (.c (.own 1000000 none))),(9,bq k)] [(3,[an c,an a]),(5,[an p,.str b,.ro false 3 (.int .i64) d])] [ay 1000000 61 K9 f]
def vd (a:St):Option U:=fy u9 F va [.r,.r,.r,.r,.l,.b,.i] f170 J n a
def pf:=ig u9 F va [.r,.r,.r,.r,.l,.b] f170 arX 2
def E2 (f:List D9)(k c e p:Int)(b:ByteArray)(d:List Int)(a:List D9):vd F J (n+1) (pe f k c e p b d a)=br (decide (k<(a.length:Int))) (ck (bO k (a.length:Int)) ((fc F0 (aN a k K9.aC) (p,b,d)).bind fun g=>br (decide (g.1<0)) (vd F J n (pe f (aj (k+1)) c e p b d a)) (J (.exit 0) (nh f k c e p b d a)))) (J (.exit 0) (nh f k c e p b d a)):=by kernel_rfl
def XZ (i:List D9)(k c h p:Int)(d:ByteArray)(e:List Int)(a:List D9):pf F (.exit 0) (nh i k c h p d e a)=br (decide (k<(a.length:Int))) (ck (bO k (a.length:Int)) ((fc F0 (aN a k K9.aC) (p,d,e)).bind fun l=>br (l.1==0) (ck (bO k (a.length:Int)) ((DS F0 (aN a k K9.aC) (p,d,e)).bind fun j=>ck (bO k (a.length:Int)) ((ko F0 (c,h) (a.set k.toNat j.1)).bind fun f=>br (!f.1) ((er F0 i).bind fun g=>some (g.1,false,())) (some (a.set k.toNat j.1,true,()))))) ((eX F0 (p,d,e)).bind fun b=>ck (ahy k a.length [b.1].length) ((ko F0 (c,h) (a.take k.toNat++[b.1]++a.drop k.toNat)).bind fun f=>br (!f.1) ((er F0 i).bind fun g=>some (g.1,false,())) (some (a.take k.toNat++[b.1]++a.drop k.toNat,true,())))))) ((eX F0 (p,d,e)).bind fun b=>ck (ahy k a.length [b.1].length) ((ko F0 (c,h) (a.take k.toNat++[b.1]++a.drop k.toNat)).bind fun f=>br (!f.1) ((er F0 i).bind fun g=>some (g.1,false,())) (some (a.take k.toNat++[b.1]++a.drop k.toNat,true,())))):=by kernel_rfl
def eu (c:D1)(a:D13)(p:D9):=bn u9 F va f170 aBr arX 2 (c,a,p,())
def af9 (c:D1)(a:D13)(p:D9):eu F c a p=(pW F0 c p).bind fun b=>br (!b.1) ((er F0 a).bind fun d=>some (d.1,false,())) ((er F0 a).bind fun e=>vd F (pf F) F.n (pe a 0 c.1 c.2 p.1 p.2.1 p.2.2 e.1)):=by kernel_rfl
def ky:Any:=.one ⟨aBr,arX,2,fun x=>eu F0 x.1 x.2.1 x.2.2.1⟩
def si:ba 170 ky:=aw u9 ⟨S5,MI,Ae,EW,l5,af8,TM,trivial⟩ func170 va (by kernel_rfl)
def ve:=[(205,gN)]
def vf:Nat->Option Hint:=look [(2,{live:=[1,2,6,9,10,11],Bg:=[(6,2,3,.int .i64)],xl:=[1,2,6],rl:=[6]})]
def kz (a:Int)(name:ByteArray)(b:List D9)(c d e:Int)(f:ByteArray)(g:List Int):= di 31 [(1,bq a),(2,Yr name),b9 6,(9,ih 61 (K9) b),(10,bq c),(11,bq d)] [(6,[an e,.str f,.own 1000000 none])] [ay 1000000 3 (.int .i64) g]
def MX (a:Int)(b:ByteArray)(c:List Int):= di 31 [b9 6] [(6,[an a,.str b,.own 1000000 none])] [ay 1000000 3 (.int .i64) c]
def Kt (a:Int)(name:ByteArray)(b:Int)(c:ByteArray)(d:List Int):= di 31 [(1,bq a),(2,Yr name),b9 6] [(6,[an b,.str c,.own 1000000 none])] [ay 1000000 3 (.int .i64) d]
def nS (a:St):Option U:=fy ve F vf [.r,.l,.r,.b,.i] f225 J n a
def pg:=ig ve F vf [.r,.l,.r,.b] f225 fY 2
def E3 (c:Int)(name:ByteArray)(b:List D9)(d a e:Int)(f:ByteArray)(g:List Int):nS F J (n+1) (kz c name b d a e f g)=br (decide (a<d)) (ck (bO a (b.length:Int)) (br ((aN b a K9.aC).1==c) (br ((aN b a K9.aC).2.1.toList==name.toList) ((eX F0 (aN b a K9.aC)).bind fun h=>J .ret (MX h.1.1 h.1.2.1 h.1.2.2)) (nS F J n (kz c name b d (aj (a+1)) e f g))) (nS F J n (kz c name b d (aj (a+1)) e f g)))) (J (.exit 0) (Kt c name e f g)):=by kernel_rfl
def aaV (a:Int)(b:ByteArray)(c:List Int):pg F .ret (MX a b c)=some ((a,b,c),()):=by kernel_rfl
def X0 (a:Int)(name:ByteArray)(b:Int)(c:ByteArray)(d:List Int):pg F (.exit 0) (Kt a name b c d)=some ((a,name,[]),()):=by kernel_rfl
def tz (a:D13)(b:Int)(name:ByteArray):=bn ve F vf f225 aBg fY 2 (a,b,name,())
def aga (a:D13)(b:Int)(name:ByteArray):tz F a b name=nS F (pg F) F.n (kz b name a (a.length:Int) 0 0 ak []):=by kernel_rfl
def AK:Any:=.one ⟨aBg,fY,2,fun x=>tz F0 x.1 x.2.1 x.2.2.1⟩
def PX:ba 225 AK:=aw ve ⟨l5,trivial⟩ func225 vf (by kernel_rfl)
def ah6:=[(26,cM)]
def sj (c:D1)(a:Int):=bn ah6 F ab f160 ahH c7 1 (c,a,())
def aut (c:D1)(a:Int):sj F c a=(ec F0 c).bind fun b=>br (!b.1) (some (-1,())) (br (decide (a<0)) (some (-1,())) (ck (!(c.1==0)) (some (Int.tmod a c.1,())))):=by kernel_rfl
def kR:Any:=.one ⟨ahH,c7,1,fun x=>sj F0 x.1 x.2.1⟩
def sk:ba 160 kR:=aw ah6 ⟨dI,trivial⟩ func160 ab (by kernel_rfl)
def ZC:=[(138,iG),(204,hJ)]
def E4 (c:D1)(p:D9):=bn ZC F ab f226 Gk ahR 2 (c,p,())
def anP (c:D1)(p:D9):E4 F c p=(gD F0 p).bind fun a=>(lR F0 c a.1).bind fun b=>br (!b.1) (some ((0,ak,[]),false,())) (br (a.1.1==0) (some ((0,ak,[]),false,())) (some (a.1,true,()))):=by kernel_rfl
def Tn:Any:=.one ⟨Gk,ahR,2,fun x=>E4 F0 x.1 x.2.1⟩
def anQ:ba 226 Tn:=aw ZC ⟨mN,l4,trivial⟩ func226 ab (by kernel_rfl)
def ah7:=[(34,bX),(70,bM),(206,Cn)]
def l9 (c:D1)(r:bb)(a:Int)(m:NQ):=bn ah7 F ab f171 aBs gd 2 (c,r,a,m,())
def auu (c:D1)(r:bb)(b:Int)(m:NQ):l9 F c r b m=(az F0 r).bind fun a=>(As F0 m).bind fun d=>ck (eA F a.1.2.2.2.2.2.2.2.length [(b,d.1)].length 224) ((cq F0 c (a.1.1,a.1.2.1,a.1.2.2.1,a.1.2.2.2.1,a.1.2.2.2.2.1,a.1.2.2.2.2.2.1,a.1.2.2.2.2.2.2.1,a.1.2.2.2.2.2.2.2++[(b,d.1)])).bind fun e=>br (!e.1) ((az F0 r).bind fun f=>some (f.1,false,())) (some ((a.1.1,a.1.2.1,a.1.2.2.1,a.1.2.2.2.1,a.1.2.2.2.2.1,a.1.2.2.2.2.2.1,a.1.2.2.2.2.2.2.1,a.1.2.2.2.2.2.2.2++[(b,d.1)]),true,()))):=by kernel_rfl
def tB:Any:=.one ⟨aBs,gd,2,fun x=>l9 F0 x.1 x.2.1 x.2.2.1 x.2.2.2.1⟩
def Il:ba 171 tB:=aw ah7 ⟨ct,b7,Td,trivial⟩ func171 ab (by kernel_rfl)
def adl:=[(160,kR),(171,tB),(217,Ii),(219,AH)]
def Ku (c:D1)(r:bb)(q:D9):=bn adl F ab f227 ahS gd 0 (c,r,q,())
def aqP (c:D1)(r:bb)(q:D9):Ku F c r q=(PR F0 c r.2.2.2.1 q).bind fun e=>(vS F0 c r e.1).bind fun a=>br (!a.2.1) (some (r,false,())) (br (decide ((aj (q.1+1))>60)) (some (a.1,true,())) ((sj F0 c (aj (q.1+1))).bind fun b=>br (b.1 != r.1) ((l9 F0 c (a.1.1,(if (aj (q.1+1))>a.1.2.1 then (aj (q.1+1)) else a.1.2.1,a.1.2.2)) b.1 (3,aj (q.1+1),(ak,0,ak,[]),(0,ak,[]),q,r.1,0,0,0,0)).bind fun d=>some (d.1,d.2.1,())) (some ((a.1.1,(if (aj (q.1+1))>a.1.2.1 then (aj (q.1+1)) else a.1.2.1,a.1.2.2)),true,())))):=by kernel_rfl
def V2:Any:=.one ⟨ahS,gd,0,fun x=>Ku F0 x.1 x.2.1 x.2.2.1⟩
def aqQ:ba 227 V2:=aw adl ⟨sk,Il,V0,N2,trivial⟩ func227 ab (by kernel_rfl)
def ah8:=[(26,cM),(42,bA)]
def IU (c:D1)(a i:Int):=bn ah8 F ab f270 O8 c7 1 (c,a,i,())
def auv (c:D1)(a i:Int):IU F c a i=(ec F0 c).bind fun b=>br (!b.1) (some (-1,())) (br (decide (a<0)) (some (-1,())) ((aY F0 i 0 (aj (c.1-1))).bind fun d=>br (!d.1) (some (-1,())) (ck (!(c.1==0)) (ck (!(c.1==0)) (some (Int.tmod (aj ((aj (i-(Int.tmod a c.1)))+c.1)) c.1,())))))):=by kernel_rfl
def DT:Any:=.one ⟨O8,c7,1,fun x=>IU F0 x.1 x.2.1 x.2.2.1⟩
def Rf:ba 270 DT:=aw ah8 ⟨dI,bT,trivial⟩ func270 ab (by kernel_rfl)
def ah9:=[(26,cM),(42,bA)]
def Xh (c:D1)(b a:Int):=bn ah9 F ab f272 O8 c7 1 (c,b,a,())
def auw (c:D1)(b a:Int):Xh F c b a=(ec F0 c).bind fun d=>br (!d.1) (some (-1,())) (br (decide (b<0)) (some (-1,())) ((aY F0 a 0 (aj (c.1-1))).bind fun e=>br (!e.1) (some (-1,())) (ck (!(c.1==0)) (ck (!(c.1==0)) (some (Int.tmod (aj ((Int.tmod b c.1)+a)) c.1,())))))):=by kernel_rfl
def ZD:Any:=.one ⟨O8,c7,1,fun x=>Xh F0 x.1 x.2.1 x.2.2.1⟩
def auy:ba 272 ZD:=aw ah9 ⟨dI,bT,trivial⟩ func272 ab (by kernel_rfl)
def ar1:=[(270,DT),(272,ZD)]
def Xi (c:D1)(a i:Int):=bn ar1 F ab f230 O8 c7 1 (c,a,i,())
def azj (c:D1)(a i:Int):Xi F c a i=(IU F0 c a i).bind fun b=>br (decide (b.1<1)) (some (-1,())) (ck (!(c.2==0)) ((Xh F0 c a (aj (Int.tdiv (aj (b.1-1)) c.2))).bind fun d=>some (d.1,()))):=by kernel_rfl
def V3:Any:=.one ⟨O8,c7,1,fun x=>Xi F0 x.1 x.2.1 x.2.2.1⟩
def anR:ba 230 V3:=aw ar1 ⟨Rf,auy,trivial⟩ func230 ab (by kernel_rfl)
end
end Go.Am.Tryz
namespace Go.Am.Tryz
open Go.Am Go.Proofs Go.Proofs.Tryz
noncomputable section
variable {U:Type} (F:oH) (J:Ex->St->Option U) (n:Nat)
def Rg:=[(230,V3),(270,DT)]
def Rh:Nat->Option Hint:=look [(2,{live:=[1,2,3,7],mat:=[(7,3,.int .i64)],xl:=[7],rl:=[6]})]
def Im (b i c a:Int)(d:List Int):= di 22 [(1,bq b),(2,bq i),b9 3,(7,.v (.c (.own 1000000 none)))] [(3,[an c,an a])] [ay 1000000 3 (.int .i64) d]
def N3 (a:List Int):= di 22 [(7,.v (.c (.own 1000000 none)))] [] [ay 1000000 3 (.int .i64) a]
def Ri (a:St):Option U:=fy Rg F Rh [.r,.r,.l,.b,.i] f271 J n a
def adm:=ig Rg F Rh [.r,.r,.l,.b] f271 jK 2
def To (b i c a:Int)(d:List Int):Ri F J (n+1) (Im b i c a d)=(IU F0 (c,a) b i).bind fun e=>br (decide (e.1>=0)) (ck (eA F d.length [i].length 8) ((Xi F0 (c,a) b i).bind fun f=>Ri F J n (Im b f.1 c a (d++[i])))) (J (.exit 0) (N3 d)):=by kernel_rfl
def anS (a:List Int):adm F (.exit 0) (N3 a)=some (a,()):=by kernel_rfl
def adn (c:D1)(a i:Int):=bn Rg F Rh f271 O8 jK 2 (c,a,i,())
def awG (c:D1)(a i:Int):adn F c a i=Ri F (adm F) F.n (Im a i c.1 c.2 []):=by kernel_rfl
def ado:Any:=.one ⟨O8,jK,2,fun x=>adn F0 x.1 x.2.1 x.2.2.1⟩
def awH:ba 271 ado:=aw Rg ⟨anR,Rf,trivial⟩ func271 Rh (by kernel_rfl)
def Io:=[(33,db),(270,DT),(271,ado)]
def Ip:Nat->Option Hint:=look [(3,{live:=[1,2,3,7,8],mat:=[(7,3,.int .i64)],xl:=[7],rl:=[6]})]
def p6 (b i k c a:Int)(d:List Int):= di 33 [(1,bq b),(2,bq i),b9 3,(7,.v (.c (.own 1000000 none))),(8,bq k)] [(3,[an c,an a])] [ay 1000000 3 (.int .i64) d]
def F8 (a:List Int):= di 33 [(7,.v (.c (.own 1000000 none)))] [] [ay 1000000 3 (.int .i64) a]
def AL (a:St):Option U:=fy Io F Ip [.r,.r,.l,.r,.b,.i] f228 J n a
def Kv:=ig Io F Ip [.r,.r,.l,.r,.b] f228 jK 2
def AM (d i k c b:Int)(a:List Int):AL F J (n+1) (p6 d i k c b a)=(IU F0 (c,b) d i).bind fun e=>br (decide (e.1>=0)) (br (decide (k<c)) ((adn F0 (c,b) d k).bind fun f=>(dm F0 f.1 i).bind fun g=>br g.1 (ck (eA F a.length [k].length 8) (AL F J n (p6 d i (aj (k+1)) c b (a++[k])))) (AL F J n (p6 d i (aj (k+1)) c b a))) (J (.exit 0) (F8 a))) (J (.exit 0) (F8 a)):=by kernel_rfl
def PY (a:List Int):Kv F (.exit 0) (F8 a)=some (a,()):=by kernel_rfl
def Rj (c:D1)(a i:Int):=bn Io F Ip f228 O8 jK 2 (c,a,i,())
def aqR (c:D1)(a i:Int):Rj F c a i=AL F (Kv F) F.n (p6 a i 0 c.1 c.2 []):=by kernel_rfl
def V4:Any:=.one ⟨O8,jK,2,fun x=>Rj F0 x.1 x.2.1 x.2.2.1⟩
def aqS:ba 228 V4:=aw Io ⟨et,Rf,awH,trivial⟩ func228 Ip (by kernel_rfl)
def DU:=[(33,db)]
def DV:Nat->Option Hint:=look [(3,{live:=[1,5,8,9,10],xl:=[5],rl:=[4]})]
def nT (b:List Int)(a:Int)(c:List Int)(d e:Int):= b3 21 [(1,ih 3 (.int .i64) b),(5,bq a),(8,ih 3 (.int .i64) c),(9,bq d),(10,bq e)]
def PZ (a:Int):= b3 21 [(5,bq a)]
def tC (a:St):Option U:=fy DU F DV [.r,.r,.l,.r,.b,.i] f229 J n a
def F9:=ig DU F DV [.r,.r,.l,.r,.b] f229 c7 1
def Kw (b:List Int)(d:Int)(c:List Int)(e a:Int):tC F J (n+1) (nT b d c e a)=br (decide (a<e)) (ck (bO a (c.length:Int)) ((dm F0 b (aN c a 0)).bind fun f=>br f.1 (tC F J n (nT b (aj (d+1)) c e (aj (a+1)))) (tC F J n (nT b d c e (aj (a+1)))))) (J (.exit 0) (PZ d)):=by kernel_rfl
def adp (a:Int):F9 F (.exit 0) (PZ a)=some (a,()):=by kernel_rfl
def MY (a b:List Int):=bn DU F DV f229 ai2 c7 1 (a,b,())
def anT (a b:List Int):MY F a b=tC F (F9 F) F.n (nT b 0 a (a.length:Int) 0):=by kernel_rfl
def Tp:Any:=.one ⟨ai2,c7,1,fun x=>MY F0 x.1 x.2.1⟩
def anU:ba 229 Tp:=aw DU ⟨et,trivial⟩ func229 DV (by kernel_rfl)
def adq:=[(34,bX),(70,bM),(160,kR),(171,tB),(225,AK),(226,Tn),(227,V2),(228,V4),(229,Tp),(230,V3)]
def ni (c:D1)(r:bb)(a:Int)(name:ByteArray)(b:Bool):=bn adq F ab f169 arZ gd 0 (c,r,a,name,b,())
def aqT (c:D1)(r:bb)(a:Int)(name:ByteArray)(j:Bool):ni F c r a name j=(tz F0 r.2.2.2.2.2.1 a name).bind fun b=>br ((b.1.2.2.length:Int)==0) ((az F0 r).bind fun d=>some (d.1,false,())) ((cq F0 c r).bind fun k=>br (!k.1) ((az F0 r).bind fun d=>some (d.1,false,())) (br (name.toList==ak.toList) ((az F0 r).bind fun d=>some (d.1,false,())) ((sj F0 c a).bind fun l=>br (l.1==r.1) ((E4 F0 c b.1).bind fun g=>br (!g.2.1) ((az F0 r).bind fun m=>some (m.1,false,())) ((Ku F0 c r g.1).bind fun h=>br (!h.2.1) ((az F0 r).bind fun o=>some (o.1,false,())) (some (h.1,true,())))) ((Rj F0 c a r.1).bind fun i=>br (!j) ((MY F0 i.1 b.1.2.2).bind fun p=>br (decide (p.1<(i.1.length:Int))) ((az F0 r).bind fun q=>some (q.1,false,())) ((Xi F0 c a r.1).bind fun f=>(l9 F0 c r f.1 (2,0,(ak,0,ak,[]),b.1,(0,ak,[]),0,0,0,0,0)).bind fun e=>some (e.1,e.2.1,()))) ((Xi F0 c a r.1).bind fun f=>(l9 F0 c r f.1 (2,0,(ak,0,ak,[]),b.1,(0,ak,[]),0,0,0,0,0)).bind fun e=>some (e.1,e.2.1,())))))):=by kernel_rfl
def AN:Any:=.one ⟨arZ,gd,0,fun x=>ni F0 x.1 x.2.1 x.2.2.1 x.2.2.2.1 x.2.2.2.2.1⟩
def N4:ba 169 AN:=aw adq ⟨ct,b7,sk,Il,PX,anQ,aqQ,aqS,anU,anR,trivial⟩ func169 ab (by kernel_rfl)
def P0:=[(34,bX),(62,dQ),(70,bM),(145,lT),(169,AN),(170,ky),(217,Ii),(218,Zz),(219,AH)]
def p7 (c:D1)(r:bb)(b:D15):=bn P0 F ab f153 aBt gd 1 (c,r,b,())
def adr (c:D1)(r:bb)(b:D15):p7 F c r b=(cq F0 c r).bind fun k=>br (!k.1) ((az F0 r).bind fun e=>some (e.1,false,())) ((mP F0 c b).bind fun l=>br (!l.1) ((az F0 r).bind fun e=>some (e.1,false,())) ((ed F0 b.1).bind fun d=>(PR F0 c r.2.2.2.1 b.2).bind fun h=>(az F0 r).bind fun f=>br (decide (d.1>=r.2.1)) ((Xg F0 c h.1 b).bind fun i=>(vS F0 c (f.1.1,d.1,f.1.2.2) i.1).bind fun a=>br (!a.2.1) ((az F0 r).bind fun g=>some (g.1,false,())) (br (!i.2.1) (some (a.1,true,())) ((eu F0 c a.1.2.2.2.2.2.1 (d.1,b.1,[r.1])).bind fun j=>br (!j.2.1) ((az F0 r).bind fun m=>some (m.1,false,())) ((ni F0 c (a.1.1,a.1.2.1,a.1.2.2.1,a.1.2.2.2.1,a.1.2.2.2.2.1,j.1,a.1.2.2.2.2.2.2) d.1 b.1 false).bind fun o=>some (o.1,true,()))))) ((vS F0 c f.1 h.1).bind fun a=>br (!a.2.1) ((az F0 r).bind fun g=>some (g.1,false,())) (some (a.1,true,()))))):=by kernel_rfl
def vT:Any:=.one ⟨aBt,gd,1,fun x=>p7 F0 x.1 x.2.1 x.2.2.1⟩
def MZ:ba 153 vT:=aw P0 ⟨ct,fa,b7,uZ,N4,si,V0,aus,N2,trivial⟩ func153 ab (by kernel_rfl)
def Tq:=[(34,bX),(70,bM),(141,nN),(169,AN),(170,ky)]
def DW (c:D1)(r:bb)(p:D9):=bn Tq F ab f154 ahS gd 1 (c,r,p,())
def agb (c:D1)(r:bb)(p:D9):DW F c r p=(cq F0 c r).bind fun e=>br (!e.1) ((az F0 r).bind fun a=>some (a.1,false,())) ((pW F0 c p).bind fun f=>br (!f.1) ((az F0 r).bind fun a=>some (a.1,false,())) (br (p.2.1.toList==ak.toList) ((az F0 r).bind fun a=>some (a.1,false,())) (br (decide (p.1<r.2.1)) ((az F0 r).bind fun a=>some (a.1,false,())) ((eu F0 c r.2.2.2.2.2.1 p).bind fun d=>br (!d.2.1) ((az F0 r).bind fun g=>some (g.1,false,())) ((az F0 r).bind fun b=>(ni F0 c (b.1.1,b.1.2.1,b.1.2.2.1,b.1.2.2.2.1,b.1.2.2.2.2.1,d.1,b.1.2.2.2.2.2.2) p.1 p.2.1 false).bind fun h=>some (h.1,true,())))))):=by kernel_rfl
def M0:Any:=.one ⟨ahS,gd,1,fun x=>DW F0 x.1 x.2.1 x.2.2.1⟩
def agc:ba 154 M0:=aw Tq ⟨ct,b7,Ae,N4,si,trivial⟩ func154 ab (by kernel_rfl)
def aia:=[(14,FX),(225,AK)]
abbrev aHP:List (Ty×Bool):=[(K1,true),(cl,true),(.int .i64,false)]
def sn (c:D1)(r:bb)(a:Int):=bn aia F ab f220 aHP aT 1 (c,r,a,())
def auz (c:D1)(r:bb)(a:Int):sn F c r a=(tz F0 r.2.2.2.2.2.1 a ak).bind fun b=>(ES F0 c).bind fun d=>some (decide ((b.1.2.2.length:Int)>=d.1),()):=by kernel_rfl
def N5:Any:=.one ⟨aHP,aT,1,fun x=>sn F0 x.1 x.2.1 x.2.2.1⟩
def ads:ba 220 N5:=aw aia ⟨Vz,PX,trivial⟩ func220 ab (by kernel_rfl)
def Tr:=[(34,bX),(42,bA),(70,bM),(138,iG),(160,kR),(170,ky),(217,Ii),(219,AH),(220,N5)]
def DX (c:D1)(r:bb)(a:Int)(q:D9)(cu:Int):=bn Tr F ab f155 aBu gd 2 (c,r,a,q,cu,())
def agd (c:D1)(r:bb)(b:Int)(q:D9)(cu:Int):DX F c r b q cu=(cq F0 c r).bind fun g=>br (!g.1) ((az F0 r).bind fun d=>some (d.1,false,())) ((aY F0 b 1 60).bind fun h=>br (!h.1) ((az F0 r).bind fun d=>some (d.1,false,())) ((lR F0 c q).bind fun i=>br (!i.1) ((az F0 r).bind fun d=>some (d.1,false,())) ((aY F0 cu 0 (aj (c.1-1))).bind fun j=>br (!j.1) ((az F0 r).bind fun d=>some (d.1,false,())) ((PR F0 c r.2.2.2.1 q).bind fun k=>(vS F0 c r k.1).bind fun a=>br (!a.2.1) ((az F0 r).bind fun l=>some (l.1,false,())) ((sj F0 c b).bind fun m=>br (m.1==r.1) (br (decide (b>=r.2.1)) ((eu F0 c a.1.2.2.2.2.2.1 (b,ak,[cu])).bind fun f=>br (!f.2.1) ((az F0 r).bind fun o=>some (o.1,false,())) ((sn F0 c (a.1.1,(if (if 60<(aj (q.1+1)) then 60 else (aj (q.1+1)))>a.1.2.1 then (if 60<(aj (q.1+1)) then 60 else (aj (q.1+1))) else a.1.2.1,(a.1.2.2.1,a.1.2.2.2.1,a.1.2.2.2.2.1,f.1,a.1.2.2.2.2.2.2))) b).bind fun e=>br e.1 (some ((a.1.1,(if b>(if (if 60<(aj (q.1+1)) then 60 else (aj (q.1+1)))>a.1.2.1 then (if 60<(aj (q.1+1)) then 60 else (aj (q.1+1))) else a.1.2.1) then b else (if (if 60<(aj (q.1+1)) then 60 else (aj (q.1+1)))>a.1.2.1 then (if 60<(aj (q.1+1)) then 60 else (aj (q.1+1))) else a.1.2.1),(a.1.2.2.1,a.1.2.2.2.1,a.1.2.2.2.2.1,f.1,a.1.2.2.2.2.2.2))),true,())) (some ((a.1.1,(if (if 60<(aj (q.1+1)) then 60 else (aj (q.1+1)))>a.1.2.1 then (if 60<(aj (q.1+1)) then 60 else (aj (q.1+1))) else a.1.2.1,(a.1.2.2.1,a.1.2.2.2.1,a.1.2.2.2.2.1,f.1,a.1.2.2.2.2.2.2))),true,())))) ((sn F0 c (a.1.1,(if (if 60<(aj (q.1+1)) then 60 else (aj (q.1+1)))>a.1.2.1 then (if 60<(aj (q.1+1)) then 60 else (aj (q.1+1))) else a.1.2.1,a.1.2.2)) b).bind fun e=>br e.1 (some ((a.1.1,(if b>(if (if 60<(aj (q.1+1)) then 60 else (aj (q.1+1)))>a.1.2.1 then (if 60<(aj (q.1+1)) then 60 else (aj (q.1+1))) else a.1.2.1) then b else (if (if 60<(aj (q.1+1)) then 60 else (aj (q.1+1)))>a.1.2.1 then (if 60<(aj (q.1+1)) then 60 else (aj (q.1+1))) else a.1.2.1),a.1.2.2)),true,())) (some ((a.1.1,(if (if 60<(aj (q.1+1)) then 60 else (aj (q.1+1)))>a.1.2.1 then (if 60<(aj (q.1+1)) then 60 else (aj (q.1+1))) else a.1.2.1,a.1.2.2)),true,())))) ((sn F0 c (a.1.1,(if (if 60<(aj (q.1+1)) then 60 else (aj (q.1+1)))>a.1.2.1 then (if 60<(aj (q.1+1)) then 60 else (aj (q.1+1))) else a.1.2.1,a.1.2.2)) b).bind fun e=>br e.1 (some ((a.1.1,(if b>(if (if 60<(aj (q.1+1)) then 60 else (aj (q.1+1)))>a.1.2.1 then (if 60<(aj (q.1+1)) then 60 else (aj (q.1+1))) else a.1.2.1) then b else (if (if 60<(aj (q.1+1)) then 60 else (aj (q.1+1)))>a.1.2.1 then (if 60<(aj (q.1+1)) then 60 else (aj (q.1+1))) else a.1.2.1),a.1.2.2)),true,())) (some ((a.1.1,(if (if 60<(aj (q.1+1)) then 60 else (aj (q.1+1)))>a.1.2.1 then (if 60<(aj (q.1+1)) then 60 else (aj (q.1+1))) else a.1.2.1,a.1.2.2)),true,())))))))):=by kernel_rfl
def M1:Any:=.one ⟨aBu,gd,2,fun x=>DX F0 x.1 x.2.1 x.2.2.1 x.2.2.2.1 x.2.2.2.2.1⟩
def age:ba 155 M1:=aw Tr ⟨ct,bT,b7,mN,sk,si,V0,N2,ads,trivial⟩ func155 ab (by kernel_rfl)
def V5:=[(74,FZ),(133,Cm),(266,wv),(268,Eu)]
def Iq (p:D5)(x:D4):=bn V5 F ab f221 aBv UJ 2 (p,x,())
def aks (p:D5)(x:D4):Iq F p x=br (decide ((pz (fun a=>QX a x) p 0)<0)) ((ir F0 p).bind fun b=>ck (ahy (p.length:Int) b.1.length [x].length) ((wJ F0 (b.1.take (p.length:Int).toNat++[x]++b.1.drop (p.length:Int).toNat)).bind fun c=>br (!c.1) ((ir F0 p).bind fun d=>some (d.1,false,())) (some (b.1.take (p.length:Int).toNat++[x]++b.1.drop (p.length:Int).toNat,true,())))) ((ir F0 p).bind fun b=>ck (ahy (pz (fun a=>QX a x) p 0) b.1.length [x].length) ((wJ F0 (b.1.take (pz (fun a=>QX a x) p 0).toNat++[x]++b.1.drop (pz (fun a=>QX a x) p 0).toNat)).bind fun c=>br (!c.1) ((ir F0 p).bind fun d=>some (d.1,false,())) (some (b.1.take (pz (fun a=>QX a x) p 0).toNat++[x]++b.1.drop (pz (fun a=>QX a x) p 0).toNat,true,())))):=by kernel_rfl
def P1:Any:=.one ⟨aBv,UJ,2,fun x=>Iq F0 x.1 x.2.1⟩
def akt:ba 221 P1:=aw V5 ⟨VA,Tb,QZ,XJ,trivial⟩ func221 ab (by kernel_rfl)
def ZE:=[(34,bX),(70,bM),(221,P1)]
def M3 (c:D1)(r:bb)(x:D4):=bn ZE F ab f156 aBw gd 2 (c,r,x,())
def anV (c:D1)(r:bb)(x:D4):M3 F c r x=(az F0 r).bind fun a=>(cq F0 c r).bind fun d=>br (!d.1) (some (a.1,false,())) ((Iq F0 r.2.2.2.2.1 x).bind fun b=>some ((a.1.1,a.1.2.1,a.1.2.2.1,a.1.2.2.2.1,b.1,a.1.2.2.2.2.2),b.2.1,())):=by kernel_rfl
def Ts:Any:=.one ⟨aBw,gd,2,fun x=>M3 F0 x.1 x.2.1 x.2.2.1⟩
def anW:ba 156 Ts:=aw ZE ⟨ct,b7,akt,trivial⟩ func156 ab (by kernel_rfl)
def so:=[(205,gN)]
def sq:Nat->Option Hint:=look [(3,{live:=[1,5,8,9,10],mat:=[(5,61,K9)],xl:=[5],rl:=[4]})]
def js (a:Int)(b:List D9)(c d:Int)(e:List D9):= di 25 [(1,bq a),(5,.v (.c (.own 1000000 none))),(8,ih 61 (K9) b),(9,bq c),(10,bq d)] [] [ay 1000000 61 K9 e]
def G3 (a:List D9):= di 25 [(5,.v (.c (.own 1000000 none)))] [] [ay 1000000 61 K9 a]
def ma (a:St):Option U:=fy so F sq [.r,.r,.l,.r,.b,.i] f157 J n a
def vU:=ig so F sq [.r,.r,.l,.r,.b] f157 Gr 2
def Bw (d:Int)(b:List D9)(e a:Int)(c:List D9):ma F J (n+1) (js d b e a c)=br (decide (a<e)) (ck (bO a (b.length:Int)) (br (decide ((aN b a K9.aC).1>=d)) ((eX F0 (aN b a K9.aC)).bind fun f=>ck (eA F c.length [f.1].length 48) (ma F J n (js d b e (aj (a+1)) (c++[f.1])))) (ma F J n (js d b e (aj (a+1)) c)))) (J (.exit 0) (G3 c)):=by kernel_rfl
def V6 (a:List D9):vU F (.exit 0) (G3 a)=some (a,()):=by kernel_rfl
def gE (a:D13)(b:Int):=bn so F sq f157 aBx Gr 2 (a,b,())
def adt (a:D13)(b:Int):gE F a b=ma F (vU F) F.n (js b a (a.length:Int) 0 []):=by kernel_rfl
def Kx:Any:=.one ⟨aBx,Gr,2,fun x=>gE F0 x.1 x.2.1⟩
def adu:ba 157 Kx:=aw so ⟨l5,trivial⟩ func157 sq (by kernel_rfl)
def sr:Nat->Option Hint:=look [(3,{live:=[0,1,2],Bg:=[(0,0,3,.int .i64),(0,1,3,.int .i64),(1,0,3,.int .i64)],xl:=[0,1],rl:=[0]})]
def fO (i:Int)(d a b c:List Int):= di 15 [b9 0,b9 1,(2,bq i)] [(0,[.own 1000000 none,.own 1000001 none]),(1,[.own 1000002 none,.own 1000003 none])] [ay 1000000 3 (.int .i64) d,ay 1000001 3 (.int .i64) a,ay 1000002 3 (.int .i64) b,ay 1000003 3 (.int .i64) c]
def G4 (d a b c:List Int):= di 15 [b9 0,b9 1] [(0,[.own 1000000 none,.own 1000001 none]),(1,[.own 1000002 none,.own 1000003 none])] [ay 1000000 3 (.int .i64) d,ay 1000001 3 (.int .i64) a,ay 1000002 3 (.int .i64) b,ay 1000003 3 (.int .i64) c]
def iP (a:St):Option U:=fy aB F sr [.r,.r,.l,.r,.b,.i] f36 J n a
def jt:=ig aB F sr [.r,.r,.l,.r,.b] f36 oQ 2
def Bx (i:Int)(d b a c:List Int):iP F J (n+1) (fO i d b a c)=br (decide (i<4)) (ck (eA F a.length [100].length 8) (iP F J n (fO (aj (i+1)) d b (a++[100]) c))) (J (.exit 0) (G4 d b a c)):=by kernel_rfl
def V7 (d c a b:List Int):jt F (.exit 0) (G4 d c a b)=some ((a,b),()):=by kernel_rfl
def mb: Option (Args oQ):=bn aB F sr f36 [] oQ 2 (())
def adv: mb F= ck (okM F 4 4 8) (iP F (jt F) F.n (fO 0 [] [] [] (List.replicate (4:Int).toNat 0))):=by kernel_rfl
def vV:Any:=.one ⟨[],oQ,2,fun x=>mb F0⟩
def M4:ba 36 vV:=aw aB trivial func36 sr (by kernel_rfl)
def Ir:=[(80,pT)]
def Is:Nat->Option Hint:=look [(4,{live:=[5,13,14,15],mat:=[(5,63,K4)],xl:=[5],rl:=[2]})]
def AO (b c:Int)(d:List D4)(a:List D6):= di 25 [(5,.v (.c (.own 1000000 none))),(13,.v (.c (.own 1000001 none))),(14,bq b),(15,bq c)] [] [ay 1000000 63 K4 d,ay 1000001 128 K6 a]
def Tt (a:List D4):= di 25 [(5,.v (.c (.own 1000000 none)))] [] [ay 1000000 63 K4 a]
def It (a:St):Option U:=fy Ir F Is [.r,.r,.r,.l,.r,.b,.i] f37 J n a
def Ky:=ig Ir F Is [.r,.r,.r,.l,.r,.b] f37 jH 2
def M5 (d a:Int)(c:List D4)(b:List D6):It F J (n+1) (AO d a c b)=br (decide (a<d)) (ck (bO a (b.length:Int)) (ck (eA F c.length (aN b a (0,[])).2.length 32) (It F J n (AO d (aj (a+1)) (c++(aN b a (0,[])).2) b)))) (J (.exit 0) (Tt c)):=by kernel_rfl
def agf (a:List D4):Ky F (.exit 0) (Tt a)=some (a,()):=by kernel_rfl
def vW (s:ByteArray):=bn Ir F Is f37 dw jH 2 (s,())
def aqU (s:ByteArray):vW F s=(pS F0 s).bind fun a=>It F (Ky F) F.n (AO (a.1.length:Int) 0 [] a.1):=by kernel_rfl
def Kz:Any:=.one ⟨dw,jH,2,fun x=>vW F0 x.1⟩
def ZF:ba 37 Kz:=aw Ir ⟨DB,trivial⟩ func37 Is (by kernel_rfl)
def M6:=[(25,e9)]
def jY (l:D43):=bn M6 F ab f78 oQ oQ 2 (l,())
def aaW (l:D43):jY F l=(dP F0 l.1).bind fun a=>(dP F0 l.2).bind fun b=>some ((a.1,b.1),()):=by kernel_rfl
def sX:Any:=.one ⟨oQ,oQ,2,fun x=>jY F0 x.1⟩
def KA:ba 78 sX:=aw M6 ⟨iL,trivial⟩ func78 ab (by kernel_rfl)
def sv:=[(42,bA)]
def sw:Nat->Option Hint:=look [(2,{live:=[1,2,9,10,11],rl:=[6]})]
def nj (low high:Int)(a:List Int)(b c:Int):= b3 21 [(1,bq low),(2,bq high),(9,ih 3 (.int .i64) a),(10,bq b),(11,bq c)]
def KB (a:Bool):= b3 21 [(6,NR a)]
def G5   := b3 21 []
def sx (a:St):Option U:=fy sv F sw [.r,.l,.r,.b,.i] f212 J n a
def nk:=ig sv F sw [.r,.l,.r,.b] f212 aT 1
def By (low high:Int)(b:List Int)(c a:Int):sx F J (n+1) (nj low high b c a)=br (decide (a<c)) (ck (bO a (b.length:Int)) ((aY F0 (aN b a 0) low high).bind fun d=>br (!d.1) (J .ret (KB false)) (sx F J n (nj low high b c (aj (a+1)))))) (J (.exit 0) (G5)):=by kernel_rfl
def X1 (a:Bool):nk F .ret (KB a)=some (a,()):=by kernel_rfl
def V8: nk F (.exit 0) (G5)=some (true,()):=by kernel_rfl
abbrev aHQ:List (Ty×Bool):=[(.sl 3 (.int .i64),false),(.int .i64,false),(.int .i64,false)]
def p8 (a:List Int)(low high:Int):=bn sv F sw f212 aHQ aT 1 (a,low,high,())
def adw (a:List Int)(low high:Int):p8 F a low high=sx F (nk F) F.n (nj low high a (a.length:Int) 0):=by kernel_rfl
def KC:Any:=.one ⟨aHQ,aT,1,fun x=>p8 F0 x.1 x.2.1 x.2.2.1⟩
def adx:ba 212 KC:=aw sv ⟨bT,trivial⟩ func212 sw (by kernel_rfl)
def Tu:=[(212,KC)]
def tD (l:D43):=bn Tu F ab f146 oQ aT 1 (l,())
def agh (l:D43):tD F l=br ((l.1.length:Int)==4) (br ((l.2.length:Int)==4) ((p8 F0 l.1 0 400).bind fun a=>br a.1 ((p8 F0 l.2 0 100).bind fun b=>some (b.1,())) (some (false,()))) (some (false,()))) (some (false,())):=by kernel_rfl
def M7:Any:=.one ⟨oQ,aT,1,fun x=>tD F0 x.1⟩
def agi:ba 146 M7:=aw Tu ⟨adx,trivial⟩ func146 ab (by kernel_rfl)
def anX:=[(78,sX),(139,iF),(146,M7)]
def KD (l:D43)(x:D4):=bn anX F ab f79 aBi aBh 2 (l,x,())
def awI (l:D43)(x:D4):KD F l x=(jY F0 l).bind fun a=>(tD F0 l).bind fun b=>br (!b.1) (some (a.1,1,())) ((oj F0 x).bind fun c=>br (!c.1) (some (a.1,1,())) (ck (bO x.1 (l.2.length:Int)) (br (decide (x.2.2.2<(aN l.2 x.1 0))) (some (a.1,2,())) (ck (bO x.1 (l.2.length:Int)) (br (decide (x.2.2.2>(aN l.2 x.1 0))) (some (a.1,3,())) (ck (bO x.1 (a.1.2.length:Int)) (ck (bO x.1 (a.1.2.length:Int)) (ck (bO x.1 (l.1.length:Int)) (br (decide (x.2.2.1>(aN l.1 x.1 0))) (some ((a.1.1,a.1.2.set x.1.toNat (aj ((aN a.1.2 x.1 0)+1))),4,())) (ck (bO x.1 (a.1.1.length:Int)) (ck (bO x.1 (a.1.1.length:Int)) (ck (bO x.2.1 ((a.1.1.set x.1.toNat (aj ((aN a.1.1 x.1 0)-x.2.2.1))).length:Int)) (ck (bO x.2.1 ((a.1.1.set x.1.toNat (aj ((aN a.1.1 x.1 0)-x.2.2.1))).length:Int)) ((tD F0 ((a.1.1.set x.1.toNat (aj ((aN a.1.1 x.1 0)-x.2.2.1))).set x.2.1.toNat (aj ((aN (a.1.1.set x.1.toNat (aj ((aN a.1.1 x.1 0)-x.2.2.1))) x.2.1 0)+x.2.2.1)),a.1.2.set x.1.toNat (aj ((aN a.1.2 x.1 0)+1)))).bind fun d=>br (!d.1) ((jY F0 l).bind fun e=>some (e.1,1,())) (some (((a.1.1.set x.1.toNat (aj ((aN a.1.1 x.1 0)-x.2.2.1))).set x.2.1.toNat (aj ((aN (a.1.1.set x.1.toNat (aj ((aN a.1.1 x.1 0)-x.2.2.1))) x.2.1 0)+x.2.2.1)),a.1.2.set x.1.toNat (aj ((aN a.1.2 x.1 0)+1))),0,())))))))))))))))):=by kernel_rfl
def Iu:Any:=.one ⟨aBi,aBh,2,fun x=>KD F0 x.1 x.2.1⟩
def V9:ba 79 Iu:=aw anX ⟨KA,mM,agi,trivial⟩ func79 ab (by kernel_rfl)
def DY:=[(78,sX),(79,Iu)]
def DZ:Nat->Option Hint:=look [(4,{live:=[4,6,7,14,15,16],mat:=[(7,3,.int .i64)],Bg:=[(4,0,3,.int .i64),(4,1,3,.int .i64)],xl:=[4,6,7],rl:=[4,5]})]
def vg (e:List D4)(f g:Int)(h a b c d:List Int):= di 34 [b9 4,b9 6,(7,.v (.c (.own 1000000 none))),(14,ih 63 (K4) e),(15,bq f),(16,bq g)] [(4,[.own 1000001 none,.own 1000002 none]),(6,[.own 1000003 none,.own 1000004 none])] [ay 1000000 3 (.int .i64) h,ay 1000001 3 (.int .i64) a,ay 1000002 3 (.int .i64) b,ay 1000003 3 (.int .i64) c,ay 1000004 3 (.int .i64) d]
def P2 (e a b c d:List Int):= di 34 [b9 4,b9 6,(7,.v (.c (.own 1000000 none)))] [(4,[.own 1000001 none,.own 1000002 none]),(6,[.own 1000003 none,.own 1000004 none])] [ay 1000000 3 (.int .i64) e,ay 1000001 3 (.int .i64) a,ay 1000002 3 (.int .i64) b,ay 1000003 3 (.int .i64) c,ay 1000004 3 (.int .i64) d]
def D0 (a:St):Option U:=fy DY F DZ [.r,.r,.r,.l,.r,.b,.i] f35 J n a
def Ga:=ig DY F DZ [.r,.r,.r,.l,.r,.b] f35 arV 2
def KE (c:List D4)(i a:Int)(d e f g h:List Int):D0 F J (n+1) (vg c i a d e f g h)=br (decide (a<i)) (ck (bO a (c.length:Int)) ((KD F0 (g,h) (aN c a K4.aC)).bind fun b=>ck (eA F d.length [b.2.1].length 8) (D0 F J n (vg c i (aj (a+1)) (d++[b.2.1]) e f b.1.1 b.1.2)))) (J (.exit 0) (P2 d e f g h)):=by kernel_rfl
def ady (c d e a b:List Int):Ga F (.exit 0) (P2 c d e a b)=some ((a,b),c,()):=by kernel_rfl
def wN (l:D43)(a:D5):=bn DY F DZ f35 aBj arV 2 (l,a,())
def anY (l:D43)(a:D5):wN F l a=(jY F0 l).bind fun b=>D0 F (Ga F) F.n (vg a (a.length:Int) 0 [] [] [] b.1.1 b.1.2):=by kernel_rfl
def Gb:Any:=.one ⟨aBj,arV,2,fun x=>wN F0 x.1 x.2.1⟩
def Wa:ba 35 Gb:=aw DY ⟨KA,V9,trivial⟩ func35 DZ (by kernel_rfl)
def adz:=[(34,bX),(35,Gb),(36,vV),(37,Kz)]
def nm (c:D1)(r:bb):=bn adz F ab f11 wX oQ 2 (c,r,())
def aqV (c:D1)(r:bb):nm F c r=(cq F0 c r).bind fun a=>br (!a.1) (some (([],[]),())) ((mb F0).bind fun b=>(vW F0 r.2.2.2.1.2.2.2).bind fun d=>(wN F0 b.1 d.1).bind fun e=>some (e.1,())):=by kernel_rfl
def Wb:Any:=.one ⟨wX,oQ,2,fun x=>nm F0 x.1 x.2.1⟩
def aqW:ba 11 Wb:=aw adz ⟨ct,Wa,M4,ZF,trivial⟩ func11 ab (by kernel_rfl)
def vh:=[(79,Iu)]
def vi:Nat->Option Hint:=look [(3,{live:=[3,5,10,11,12],mat:=[(5,63,K4)],xl:=[5],rl:=[4]})]
def kB (b:List D4)(c d:Int)(l a:List Int)(e:List D4):= di 30 [b9 3,(5,.v (.c (.own 1000000 none))),(10,ih 63 (K4) b),(11,bq c),(12,bq d)] [(3,[.ro false 3 (.int .i64) l,.ro false 3 (.int .i64) a])] [ay 1000000 63 K4 e]
def KF (a:List D4):= di 30 [(5,.v (.c (.own 1000000 none)))] [] [ay 1000000 63 K4 a]
def nU (a:St):Option U:=fy vh F vi [.r,.r,.l,.r,.b,.i] f158 J n a
def AP:=ig vh F vi [.r,.r,.l,.r,.b] f158 jH 2
def E5 (b:List D4)(e a:Int)(l d:List Int)(c:List D4):nU F J (n+1) (kB b e a l d c)=br (decide (a<e)) (ck (bO a (b.length:Int)) ((KD F0 (l,d) (aN b a K4.aC)).bind fun f=>br (f.2.1 != 2) (ck (eA F c.length [(aN b a K4.aC)].length 32) (nU F J n (kB b e (aj (a+1)) l d (c++[(aN b a K4.aC)])))) (nU F J n (kB b e (aj (a+1)) l d c)))) (J (.exit 0) (KF c)):=by kernel_rfl
def X2 (a:List D4):AP F (.exit 0) (KF a)=some (a,()):=by kernel_rfl
def iH (p:D5)(l:D43):=bn vh F vi f158 ahL jH 2 (p,l,())
def agj (p:D5)(l:D43):iH F p l=nU F (AP F) F.n (kB p (p.length:Int) 0 l.1 l.2 []):=by kernel_rfl
def M8:Any:=.one ⟨ahL,jH,2,fun x=>iH F0 x.1 x.2.1⟩
def agk:ba 158 M8:=aw vh ⟨V9,trivial⟩ func158 vi (by kernel_rfl)
def aib:=[(11,Wb),(70,bM),(77,lU),(153,vT),(154,M0),(155,M1),(156,Ts),(157,Kx),(158,M8)]
def IV (c:D1)(r:bb)(m:NQ):=bn aib F ab f88 Y0 gd 1 (c,r,m,())
def auA (c:D1)(r:bb)(m:NQ):IV F c r m=(fM F0 c m).bind fun j=>br (!j.1) ((az F0 r).bind fun k=>some (k.1,false,())) (br (m.1==1) ((p7 F0 c r m.2.2.1).bind fun a=>br (!a.2.1) ((az F0 r).bind fun g=>some (g.1,false,())) ((gE F0 a.1.2.2.2.2.2.1 (aj (a.1.2.1-1))).bind fun f=>(nm F0 c (a.1.1,a.1.2.1,a.1.2.2.1,a.1.2.2.2.1,a.1.2.2.2.2.1,f.1,a.1.2.2.2.2.2.2)).bind fun h=>(iH F0 a.1.2.2.2.2.1 h.1).bind fun i=>some ((a.1.1,a.1.2.1,a.1.2.2.1,a.1.2.2.2.1,i.1,f.1,a.1.2.2.2.2.2.2),true,()))) (br (m.1==2) ((DW F0 c r m.2.2.2.1).bind fun b=>br (!b.2.1) ((az F0 r).bind fun g=>some (g.1,false,())) ((gE F0 b.1.2.2.2.2.2.1 (aj (b.1.2.1-1))).bind fun f=>(nm F0 c (b.1.1,b.1.2.1,b.1.2.2.1,b.1.2.2.2.1,b.1.2.2.2.2.1,f.1,b.1.2.2.2.2.2.2)).bind fun h=>(iH F0 b.1.2.2.2.2.1 h.1).bind fun i=>some ((b.1.1,b.1.2.1,b.1.2.2.1,b.1.2.2.2.1,i.1,f.1,b.1.2.2.2.2.2.2),true,()))) (br (m.1==3) ((DX F0 c r m.2.1 m.2.2.2.2.1 m.2.2.2.2.2.1).bind fun d=>br (!d.2.1) ((az F0 r).bind fun g=>some (g.1,false,())) ((gE F0 d.1.2.2.2.2.2.1 (aj (d.1.2.1-1))).bind fun f=>(nm F0 c (d.1.1,d.1.2.1,d.1.2.2.1,d.1.2.2.2.1,d.1.2.2.2.2.1,f.1,d.1.2.2.2.2.2.2)).bind fun h=>(iH F0 d.1.2.2.2.2.1 h.1).bind fun i=>some ((d.1.1,d.1.2.1,d.1.2.2.1,d.1.2.2.2.1,i.1,f.1,d.1.2.2.2.2.2.2),true,()))) ((M3 F0 c r m.2.2.2.2.2.2).bind fun e=>br (!e.2.1) ((az F0 r).bind fun g=>some (g.1,false,())) ((gE F0 e.1.2.2.2.2.2.1 (aj (e.1.2.1-1))).bind fun f=>(nm F0 c (e.1.1,e.1.2.1,e.1.2.2.1,e.1.2.2.2.1,e.1.2.2.2.2.1,f.1,e.1.2.2.2.2.2.2)).bind fun h=>(iH F0 e.1.2.2.2.2.1 h.1).bind fun i=>some ((e.1.1,e.1.2.1,e.1.2.2.1,e.1.2.2.2.1,i.1,f.1,e.1.2.2.2.2.2.2),true,())))))):=by kernel_rfl
def N6:Any:=.one ⟨Y0,gd,1,fun x=>IV F0 x.1 x.2.1 x.2.2.1⟩
def adA:ba 88 N6:=aw aib ⟨aqW,b7,tl,MZ,agc,age,anW,adu,agk,trivial⟩ func88 ab (by kernel_rfl)
def D7:=[(33,db),(85,eh)]
def Ea:Nat->Option Hint:=look [(2,{live:=[0,1,2,3,13,14,15],rl:=[10]})]
def nV (liars:List Int)(a:List bS)(b:Int)(name:ByteArray)(c:List Int)(d e:Int):= b3 33 [(0,ih 3 (.int .i64) liars),(1,ih 95 (cZ) a),(2,bq b),(3,Yr name),(13,ih 3 (.int .i64) c),(14,bq d),(15,bq e)]
def Tv (a:Bool):= b3 33 [(10,NR a)]
def P3   := b3 33 []
def tE (a:St):Option U:=fy D7 F Ea [.r,.l,.r,.b,.i] f159 J n a
def vj:=ig D7 F Ea [.r,.l,.r,.b] f159 aT 1
def KG (liars:List Int)(c:List bS)(d:Int)(name:ByteArray)(b:List Int)(e a:Int):tE F J (n+1) (nV liars c d name b e a)=br (decide (a<e)) (ck (bO a (b.length:Int)) ((dm F0 liars (aN b a 0)).bind fun f=>br (!f.1) ((cX F0 c (d,name,aN b a 0)).bind fun g=>br (!g.1) (J .ret (Tv false)) (tE F J n (nV liars c d name b e (aj (a+1))))) (tE F J n (nV liars c d name b e (aj (a+1)))))) (J (.exit 0) (P3)):=by kernel_rfl
def agl (a:Bool):vj F .ret (Tv a)=some (a,()):=by kernel_rfl
def adB: vj F (.exit 0) (P3)=some (true,()):=by kernel_rfl
def wO (liars:List Int)(a:D38)(b:Int)(name:ByteArray)(cu:List Int):=bn D7 F Ea f159 aBy aT 1 (liars,a,b,name,cu,())
def anZ (liars:List Int)(a:D38)(b:Int)(name:ByteArray)(cu:List Int):wO F liars a b name cu=tE F (vj F) F.n (nV liars a b name cu (cu.length:Int) 0):=by kernel_rfl
def Tw:Any:=.one ⟨aBy,aT,1,fun x=>wO F0 x.1 x.2.1 x.2.2.1 x.2.2.2.1 x.2.2.2.2.1⟩
def an0:ba 159 Tw:=aw D7 ⟨et,hK,trivial⟩ func159 Ea (by kernel_rfl)
def ZG:=[(33,db),(62,dQ),(77,lU),(159,Tw),(160,kR),(161,jU),(162,Cd)]
def M9 (c:D1)(liars:List Int)(a:D38)(m:NQ):=bn ZG F ab f89 aBz aT 1 (c,liars,a,m,())
def an1 (c:D1)(liars:List Int)(a:D38)(m:NQ):M9 F c liars a m=(fM F0 c m).bind fun f=>br (!f.1) (some (false,())) (br (m.1==4) (some (true,())) (br (m.1==2) ((wO F0 liars a m.2.2.2.1.1 m.2.2.2.1.2.1 m.2.2.2.1.2.2).bind fun g=>some (g.1,())) (br (m.1==1) ((ed F0 m.2.2.1.1).bind fun h=>(sj F0 c h.1).bind fun i=>(dm F0 liars i.1).bind fun j=>br (!j.1) (some (false,())) ((rR F0).bind fun b=>(iE F0 m.2.2.1.2 b.1).bind fun d=>br d.1 (some (true,())) ((wO F0 liars a m.2.2.1.2.1 m.2.2.1.2.2.1 m.2.2.1.2.2.2).bind fun e=>some (e.1,())))) ((dm F0 liars m.2.2.2.2.2.1).bind fun k=>br (!k.1) (some (false,())) ((rR F0).bind fun b=>(iE F0 m.2.2.2.2.1 b.1).bind fun d=>br d.1 (some (true,())) ((wO F0 liars a m.2.2.2.2.1.1 m.2.2.2.2.1.2.1 m.2.2.2.2.1.2.2).bind fun e=>some (e.1,()))))))):=by kernel_rfl
def Tx:Any:=.one ⟨aBz,aT,1,fun x=>M9 F0 x.1 x.2.1 x.2.2.1 x.2.2.2.1⟩
def an2:ba 89 Tx:=aw ZG ⟨et,fa,tl,an0,sk,pR,S1,trivial⟩ func89 ab (by kernel_rfl)
def Wc:=[(10,jX),(32,jr),(33,db),(61,Ki),(71,Av),(87,xU),(88,N6),(89,Tx),(90,AB)]
def Wd:Nat->Option Hint:=look [(900015,{live:=[],mat:=[(2,0,gZ)]})]
def nn (w:nz)(d:D45):=bn Wc F Wd f45 ahZ adf 0 (w,d,())
def aku (w:nz)(d:D45):nn F w d=(aS F0 w).bind fun a=>br (d.1==3) (ck (bO d.2.1 (w.2.2.2.1.length:Int)) (ck (QW d.2.1 (aj (d.2.1+1)) (a.1.2.2.2.1.length:Int)) ((Kh F0 w.1 (aN w.2.2.2.1 d.2.1 (0,[])).2).bind fun b=>br b.2.1 ((ku F0 w).bind fun f=>(dm F0 f.1 (aN w.2.2.2.1 d.2.1 (0,[])).1).bind fun g=>br g.1 (ck (bO (aN w.2.2.2.1 d.2.1 (0,[])).1 (w.2.2.1.length:Int)) ((IV F0 w.1 (aN w.2.2.1 (aN w.2.2.2.1 d.2.1 (0,[])).1 cl.aC) b.1).bind fun h=>ck (bO (aN w.2.2.2.1 d.2.1 (0,[])).1 (a.1.2.2.1.length:Int)) (some ((a.1.1,a.1.2.1,a.1.2.2.1.set (aN w.2.2.2.1 d.2.1 (0,[])).1.toNat h.1,a.1.2.2.2.1.take d.2.1.toNat++a.1.2.2.2.1.drop (aj (d.2.1+1)).toNat,a.1.2.2.2.2),0,())))) (some ((a.1.1,a.1.2.1,a.1.2.2.1,a.1.2.2.2.1.take d.2.1.toNat++a.1.2.2.2.1.drop (aj (d.2.1+1)).toNat,a.1.2.2.2.2),0,()))) (some ((a.1.1,a.1.2.1,a.1.2.2.1,a.1.2.2.2.1.take d.2.1.toNat++a.1.2.2.2.1.drop (aj (d.2.1+1)).toNat,a.1.2.2.2.2),0,()))))) (br (d.1==4) (ck (QW d.2.1 (aj (d.2.1+1)) (a.1.2.2.2.1.length:Int)) (some ((a.1.1,a.1.2.1,a.1.2.2.1,a.1.2.2.2.1.take d.2.1.toNat++a.1.2.2.2.1.drop (aj (d.2.1+1)).toNat,a.1.2.2.2.2),0,()))) (br (d.1==5) (ck (bO d.2.1 (w.2.2.2.1.length:Int)) ((tr F0 (aN w.2.2.2.1 d.2.1 (0,[]))).bind fun c=>ck (eA F a.1.2.2.2.1.length [c.1].length 32) (some ((a.1.1,a.1.2.1,a.1.2.2.1,a.1.2.2.2.1++[c.1],a.1.2.2.2.2),0,())))) ((M9 F0 w.1 w.2.1 w.2.2.2.2 d.2.2.2).bind fun i=>br (!i.1) (some (w,5,())) ((tv F0 w.1 d.2.2.2).bind fun e=>ck (eA F a.1.2.2.2.1.length [(d.2.1,e.1)].length 32) (some ((a.1.1,a.1.2.1,a.1.2.2.1,a.1.2.2.2.1++[(d.2.1,e.1)],a.1.2.2.2.2),0,())))))):=by kernel_rfl
def P4:Any:=.one ⟨ahZ,adf,0,fun x=>nn F0 x.1 x.2.1⟩
def akv:ba 45 P4:=aw Wc ⟨p4,o8,et,Zr,PD,TK,adA,an2,PK,trivial⟩ func45 Wd (by kernel_rfl)
end
end Go.Am.Tryz
