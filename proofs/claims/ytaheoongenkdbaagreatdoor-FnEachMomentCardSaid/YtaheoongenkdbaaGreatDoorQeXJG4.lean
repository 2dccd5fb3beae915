/- No condition. -/
import Derived.Test.YtaheoongenkdbaaGreatDoorQeXJG3
set_option linter.all false
set_option maxRecDepth 100000
namespace Go.Am.Tryz
open Go.Am Go.Proofs Go.Proofs.Tryz
noncomputable section
variable {U:Type} (F:oH) (J:Ex->St->Option U) (n:Nat)
def zs:=[(247,Vr)]
def zv:Nat->Option Hint:=look [(3,{live:=[1,2,4,6,7],Bg:=[(4,2,3,.int .i64),(4,3,50,cl),(4,4,102,eI),(4,5,95,cZ)],xl:=[2,4],rl:=[4,5]})]
def rP (a i p b w c C D r d e f g h:Int)(j:ByteArray)(k:List Int)(l:ByteArray)(m:List D4)(o:List D9)(q:List Int)(s:Int)(t:List kI)(E:List Int)(u:List bb)(v:List b0)(x:List bS)(y:List Int)(z:List bb)(A:List b0)(B:List bS):St:={nt:=59,tm:=[(1,bq a),b9 2,b9 4,b9 6,(7,bq i)],bx:=[(2,[an w,an c,.own 1000000 none,.own 1000001 none,.own 1000002 none,.own 1000003 none]),(4,[an C,an D,.own 1000004 none,.own 1000005 none,.own 1000006 none,.own 1000007 none]),(6,[an r,an d,an e,an f,an g,an h,.str j,.ro true 3 (.int .i64) k,.str l,.ro true 63 (K4) m,.ro true 61 (K9) o,.ro true 5 (.int .u8) q,an s,.ro true 119 (px) t])],bl:=[ay 1000000 3 (.int .i64) E,ay 1000001 50 cl u,ay 1000002 102 eI v,ay 1000003 95 cZ x,ay 1000004 3 (.int .i64) y,ay 1000005 50 cl z,ay 1000006 102 eI A,ay 1000007 95 cZ B],sp:=.v (.agg [an p,an b,.own 1000000 none,.own 1000001 none,.own 1000002 none,.own 1000003 none])}
def Cb (e p a f g:Int)(h:List Int)(b:List bb)(c:List b0)(d:List bS):St:={nt:=59,tm:=[b9 4,(5,bq e)],bx:=[(4,[an f,an g,.own 1000000 none,.own 1000001 none,.own 1000002 none,.own 1000003 none])],bl:=[ay 1000000 3 (.int .i64) h,ay 1000001 50 cl b,ay 1000002 102 eI c,ay 1000003 95 cZ d],sp:=.v (.agg [an p,an a,.own 1000000 none,.own 1000001 none,.own 1000002 none,.own 1000003 none])}
def Mk (p a w b j k:Int)(l:List Int)(c:List bb)(d:List b0)(e:List bS)(f:List Int)(g:List bb)(h:List b0)(i:List bS):St:={nt:=59,tm:=[b9 2,b9 4],bx:=[(2,[an w,an b,.own 1000000 none,.own 1000001 none,.own 1000002 none,.own 1000003 none]),(4,[an j,an k,.own 1000004 none,.own 1000005 none,.own 1000006 none,.own 1000007 none])],bl:=[ay 1000000 3 (.int .i64) l,ay 1000001 50 cl c,ay 1000002 102 eI d,ay 1000003 95 cZ e,ay 1000004 3 (.int .i64) f,ay 1000005 50 cl g,ay 1000006 102 eI h,ay 1000007 95 cZ i],sp:=.v (.agg [an p,an a,.own 1000000 none,.own 1000001 none,.own 1000002 none,.own 1000003 none])}
def zJ (a:St):Option U:=fy zs F zv [.r,.r,.l,.r,.b,.i] f188 J n a
def rQ:=abL Tryz.prog (look zs) F zv [.r,.r,.l,.r,.b] (gX f188) (ayO Tryz.prog f188 (gZ,true) (.int .i64,false) (gZ,true))
def GJ (a i p e w c D E r j k l m o:Int)(q:ByteArray)(s:List Int)(t:ByteArray)(u:List D4)(b:List D9)(v:List Int)(x:Int)(y:List kI)(h:List Int)(d:List bb)(f:List b0)(g:List bS)(z:List Int)(A:List bb)(B:List b0)(C:List bS):zJ F J (n+1) (rP a i p e w c D E r j k l m o q s t u b v x y h d f g z A B C)=br (decide (i>=0)) (ck (bO i (b.length:Int)) (br ((aN b i K9.aC).2.1.toList==ak.toList) (zJ F J n (rP a (aj (i-1)) p e w c D E r j k l m o q s t u b v x y h d f g z A B C)) (ck (bO i (b.length:Int)) (ck (bO i (b.length:Int)) ((Q8 F0 (w,c) (r,j,k,(l,m,(o,q,s),t),u,b,(v,x),y) (aN b i K9.aC).1 (aN b i K9.aC).2.1 true).bind fun G=>br (!G.2.1) (J .ret (Cb 3 p e w c h d f g)) (ck (bO a (d.length:Int)) (J .ret (Cb 0 p e w c h (d.set a.toNat G.1) f g)))))))) (J (.exit 0) (Mk p e w c D E h d f g z A B C)):=by kernel_rfl
def Ml (a p f g h:Int)(e:List Int)(b:List bb)(c:List b0)(d:List bS):rQ F .ret (Cb a p f g h e b c d)=br (a==0) (some (((g,h),e,b,c,d),a,gZ.aC)) (some (gZ.aC,a,(p,f),e,b,c,d)):=by kernel_rfl
def aaG (p a w f k l:Int)(e:List Int)(b:List bb)(c:List b0)(d:List bS)(g:List Int)(h:List bb)(i:List b0)(j:List bS):rQ F (.exit 0) (Mk p a w f k l e b c d g h i j)=some (gZ.aC,3,(p,a),e,b,c,d):=by kernel_rfl
def HX (w:nz)(a:Int):Option (nz×Int×nz):=apX Tryz.prog (look zs) F zv f188 [(gZ,true),(.int .i64,false)] 0 (gZ,true) (.int .i64,false) (gZ,true) (w,a,())
def ajR (w:nz)(a:Int):HX F w a=ck (bO a (w.2.2.1.length:Int)) (zJ F (rQ F) F.n (rP a (aj (((aN w.2.2.1 a cl.aC).2.2.2.2.2.1.length:Int)-1)) w.1.1 w.1.2 w.1.1 w.1.2 0 0 (aN w.2.2.1 a cl.aC).1 (aN w.2.2.1 a cl.aC).2.1 (aN w.2.2.1 a cl.aC).2.2.1 (aN w.2.2.1 a cl.aC).2.2.2.1.1 (aN w.2.2.1 a cl.aC).2.2.2.1.2.1 (aN w.2.2.1 a cl.aC).2.2.2.1.2.2.1.1 (aN w.2.2.1 a cl.aC).2.2.2.1.2.2.1.2.1 (aN w.2.2.1 a cl.aC).2.2.2.1.2.2.1.2.2 (aN w.2.2.1 a cl.aC).2.2.2.1.2.2.2 (aN w.2.2.1 a cl.aC).2.2.2.2.1 (aN w.2.2.1 a cl.aC).2.2.2.2.2.1 (aN w.2.2.1 a cl.aC).2.2.2.2.2.2.1.1 (aN w.2.2.1 a cl.aC).2.2.2.2.2.2.1.2 (aN w.2.2.1 a cl.aC).2.2.2.2.2.2.2 w.2.1 w.2.2.1 w.2.2.2.1 w.2.2.2.2 [] [] [] [])):=by kernel_rfl
def Pp:Any:=.sel ⟨[(gZ,true),(.int .i64,false)],0,(gZ,true),(.int .i64,false),(gZ,true),fun x=>HX F0 x.1 x.2.1⟩
def ajS:ba 188 Pp:=ok4 (show xJ Tryz.prog TB zs from⟨aqB,trivial⟩) func188 (by kernel_rfl) (by kernel_rfl) zv (by kernel_rfl) (by kernel_rfl)
def Y7:=[(53,gv),(58,iZ),(100,lC),(125,nG)]
abbrev aBE:List (Ty×Bool):=[(K14,true),(.int .i64,false)]
def Mm (d:D14)(keep:Int):=bn Y7 F ab f189 aBE oJ 2 (d,keep,())
def ang (d:D14)(keep:Int):Mm F d keep=(ij F0 d).bind fun b=>(mq F0 d).bind fun c=>br (!c.1) (some (b.1,())) ((bI F0 keep (aj ((d.1.length:Int)-d.2))).bind fun e=>(dC F0 0 e.1).bind fun a=>ck (QW 0 (aj (d.2+a.1)) (d.1.length:Int)) (ck (eA F 0 ((d.1.take (aj (d.2+a.1)).toNat).drop (0:Int).toNat).length 1) (some (([]++((d.1.take (aj (d.2+a.1)).toNat).drop (0:Int).toNat),aj (d.2+a.1)),())))):=by kernel_rfl
def SW:Any:=.one ⟨aBE,oJ,2,fun x=>Mm F0 x.1 x.2.1⟩
def anh:ba 189 SW:=aw Y7 ⟨kL,oe,ui,yh,trivial⟩ func189 ab (by kernel_rfl)
def Q9: Option (Args Bl):=bn aB F ab f293 [] Bl 2 (())
def ajT: Q9 F= some ((0,0,(0,ak,[]),ak),()):=by kernel_rfl
def Pq:Any:=.one ⟨[],Bl,2,fun x=>Q9 F0⟩
def ajU:ba 293 Pq:=aw aB trivial func293 ab (by kernel_rfl)
def Y8:=[(122,hl),(127,nH),(128,rm),(129,JC)]
def Mn (c:D1)(b:List Int):=bn Y8 F ab f294 Sf ahQ 2 (c,b,())
def ani (c:D1)(b:List Int):Mn F c b=(cG F0 (b,0,true)).bind fun d=>(cG F0 d.2.1).bind fun e=>(BR F0 e.2.1).bind fun f=>(mG F0 f.2.1).bind fun a=>br (!a.2.1.2.2) (some ((0,0,(0,ak,[]),ak),false,())) (br (a.2.1.2.1 != (b.length:Int)) (some ((0,0,(0,ak,[]),ak),false,())) ((iB F0 c (d.1.1,e.1.1,f.1.1,a.1.1)).bind fun g=>br (!g.1) (some ((0,0,(0,ak,[]),ak),false,())) (some ((d.1.1,e.1.1,f.1.1,a.1.1),true,())))):=by kernel_rfl
def SX:Any:=.one ⟨Sf,ahQ,2,fun x=>Mn F0 x.1 x.2.1⟩
def anj:ba 294 SX:=aw Y8 ⟨lh,yn,FF,YN,trivial⟩ func294 ab (by kernel_rfl)
def uQ:=[(198,tZ),(293,Pq),(294,SX)]
def uR:Nat->Option Hint:=look [(3,{live:=[1,2,4,6,7],Bg:=[(4,4,3,.int .i64)],rl:=[4,5]})]
def oZ (b:List Int)(a c d j k l:Int)(m o:ByteArray)(p e f:Int)(g h:ByteArray)(q i:List Int):= di 62 [(1,ih 5 (.int .u8) b),b9 2,b9 4,b9 6,(7,bq a)] [(2,[an c,an d]),(4,[an j,an k,an l,.str m,.own 1000000 none,.str o]),(6,[an p,an e,an f,.str g,.own 1000001 none,.str h])] [ay 1000000 3 (.int .i64) q,ay 1000001 3 (.int .i64) i]
def kj (a b c d:Int)(e f:ByteArray)(g:List Int):= di 62 [b9 4,(5,bq a)] [(4,[an b,an c,an d,.str e,.own 1000000 none,.str f])] [ay 1000000 3 (.int .i64) g]
def uS (a:St):Option U:=fy uQ F uR [.r,.r,.r,.b,.i] f248 J n a
abbrev ar0:List (Ty×Bool):=[(K12,true),(.int .i64,false)]
def zU:=ig uQ F uR [.r,.r,.r,.b] f248 ar0 2
def EN (b:List Int)(e c l m o p:Int)(q r:ByteArray)(k f g:Int)(h i:ByteArray)(s j:List Int):uS F J (n+1) (oZ b e c l m o p q r k f g h i s j)=(kc F0 b e).bind fun a=>br (!a.2.2.1) (J .ret (kj e k f g h i j)) (br (decide (a.1>=(aj ((b.length:Int)-a.2.1)))) (J .ret (kj e k f g h i j)) (ck (bO (aj (a.2.1+a.1)) (b.length:Int)) (br ((aN b (aj (a.2.1+a.1)) 0) != 10) (J .ret (kj e k f g h i j)) (ck (QW a.2.1 (aj (a.2.1+a.1)) (b.length:Int)) ((Mn F0 (c,l) ((b.take (aj (a.2.1+a.1)).toNat).drop a.2.1.toNat)).bind fun d=>br (!d.2.1) (J .ret (kj e k f g h i j)) (uS F J n (oZ b (aj ((aj (a.2.1+a.1))+1)) c l m o p q r d.1.1 d.1.2.1 d.1.2.2.1.1 d.1.2.2.1.2.1 d.1.2.2.2 s d.1.2.2.1.2.2))))))):=by kernel_rfl
def J7 (a b c d:Int)(e f:ByteArray)(g:List Int):zU F .ret (kj a b c d e f g)=some ((b,c,(d,e,g),f),a,()):=by kernel_rfl
def Dx (c:D1)(b:List Int):=bn uQ F uR f248 Sf ar0 2 (c,b,())
def afI (c:D1)(b:List Int):Dx F c b=(Q9 F0).bind fun a=>uS F (zU F) F.n (oZ b 0 c.1 c.2 0 0 0 ak ak a.1.1 a.1.2.1 a.1.2.2.1.1 a.1.2.2.1.2.1 a.1.2.2.2 [] a.1.2.2.1.2.2):=by kernel_rfl
def Mo:Any:=.one ⟨Sf,ar0,2,fun x=>Dx F0 x.1 x.2.1⟩
def afJ:ba 248 Mo:=aw uQ ⟨JA,ajU,anj,trivial⟩ func248 uR (by kernel_rfl)
def ahX:=[(51,bV),(53,gv),(58,iZ),(64,cp),(248,Mo)]
def Pr (c:D1)(r:bb):=bn ahX F ab f190 wX Si 2 (c,r,())
def auc (c:D1)(r:bb):Pr F c r=(dp F0 c r).bind fun b=>br (!b.1) ((a7 F0 r).bind fun d=>some (d.1,())) ((Dx F0 c r.2.2.2.2.2.2.1.1).bind fun a=>(dC F0 a.1.1 (aj (a.1.2.2.1.1+1))).bind fun e=>(dC F0 e.1 1).bind fun f=>(bI F0 60 f.1).bind fun g=>ck (QW 0 a.2.1 (r.2.2.2.2.2.2.1.1.length:Int)) (ck (eA F 0 ((r.2.2.2.2.2.2.1.1.take a.2.1.toNat).drop (0:Int).toNat).length 1) (some ((r.1,g.1,0,a.1,[],[],([]++((r.2.2.2.2.2.2.1.1.take a.2.1.toNat).drop (0:Int).toNat),a.2.1),[]),())))):=by kernel_rfl
def Y9:Any:=.one ⟨wX,Si,2,fun x=>Pr F0 x.1 x.2.1⟩
def aud:ba 190 Y9:=aw ahX ⟨cm,kL,oe,cP,afJ,trivial⟩ func190 ab (by kernel_rfl)
def ahY:=[(51,bV),(64,cp),(102,iD),(249,kh),(250,lM)]
def Xc (c:D1)(r:bb):=bn ahY F ab f191 wX gd 2 (c,r,())
def aue (c:D1)(r:bb):Xc F c r=(a7 F0 r).bind fun a=>(dp F0 c r).bind fun f=>br (!f.1) (some (a.1,false,())) (br (decide (r.2.1>=60)) (some (a.1,false,())) ((lF F0 c (aj (r.2.1+1))).bind fun b=>br (b.1==r.1) ((eW F0 c a.1.2.2.2.2.2.1 (aj (r.2.1+1),ak,[r.1])).bind fun d=>br (!d.2.1) ((a7 F0 r).bind fun g=>some (g.1,false,())) (some ((a.1.1,aj (r.2.1+1),a.1.2.2.1,a.1.2.2.2.1,a.1.2.2.2.2.1,d.1,a.1.2.2.2.2.2.2),true,()))) ((e8 F0 c (a.1.1,aj (r.2.1+1),a.1.2.2) b.1 (3,aj (r.2.1+1),(ak,0,ak,[]),(0,ak,[]),r.2.2.2.1.2.2.1,r.1,0,0,0,0)).bind fun e=>br (!e.1.2.1) ((a7 F0 r).bind fun h=>some (h.1,false,())) (some (e.1.1,true,()))))):=by kernel_rfl
def Za:Any:=.one ⟨wX,gd,2,fun x=>Xc F0 x.1 x.2.1⟩
def auf:ba 191 Za:=aw ahY ⟨cm,cP,mI,rG,uJ,trivial⟩ func191 ab (by kernel_rfl)
def Zb:=[(51,bV),(183,NU),(186,SR),(187,Po),(188,Pp),(189,SW),(190,Y9),(191,Za)]
def Mp (w:nz)(d:D45):Option (nz×Int×nz):=apX Tryz.prog (look Zb) F ab f117 [(gZ,true),(K45,true)] 0 (gZ,true) (.int .i64,false) (gZ,true) (w,d,())
def ank (w:nz)(d:D45):Mp F w d=ck (bO d.2.1 (w.2.2.1.length:Int)) (br (d.1==1) ((Mg F0 w d.2.1).bind fun b=>br (b.2.1==0) (some (b.1,0,gZ.aC)) (br (b.2.1==0) (none) (some (gZ.aC,b.2.1,w.1,b.2.2.2)))) (br (d.1==2) ((HW F0 w d.2.1).bind fun c=>br (c.2.1==0) (some (c.1,0,gZ.aC)) (br (c.2.1==0) (none) (some (gZ.aC,c.2.1,w.1,c.2.2.2)))) (br (d.1==6) ((HX F0 w d.2.1).bind fun e=>br (e.2.1==0) (some (e.1,0,gZ.aC)) (br (e.2.1==0) (none) (some (gZ.aC,e.2.1,w.1,e.2.2.2)))) (br (d.1==8) ((a7 F0 (aN w.2.2.1 d.2.1 cl.aC)).bind fun a=>(Mm F0 (aN w.2.2.1 d.2.1 cl.aC).2.2.2.2.2.2.1 d.2.2.1).bind fun h=>(Pr F0 w.1 (a.1.1,a.1.2.1,a.1.2.2.1,a.1.2.2.2.1,a.1.2.2.2.2.1,a.1.2.2.2.2.2.1,h.1,a.1.2.2.2.2.2.2.2)).bind fun i=>ck (bO d.2.1 (w.2.2.1.length:Int)) (some ((w.1,w.2.1,w.2.2.1.set d.2.1.toNat i.1,w.2.2.2),0,gZ.aC))) (br (d.1==7) ((Xc F0 w.1 (aN w.2.2.1 d.2.1 cl.aC)).bind fun f=>br (!f.2.1) (some (gZ.aC,3,w)) (ck (bO d.2.1 (w.2.2.1.length:Int)) (some ((w.1,w.2.1,w.2.2.1.set d.2.1.toNat f.1,w.2.2.2),0,gZ.aC)))) ((Pf F0 w.1 (aN w.2.2.1 d.2.1 cl.aC) d.2.2.2).bind fun g=>br (!g.2.1) (some (gZ.aC,3,w)) (br (d.2.2.2.1 != 4) (some (gZ.aC,3,w)) (ck (bO d.2.1 (w.2.2.1.length:Int)) (some ((w.1,w.2.1,w.2.2.1.set d.2.1.toNat g.1,w.2.2.2),0,gZ.aC)))))))))):=by kernel_rfl
def SY:Any:=.sel ⟨[(gZ,true),(K45,true)],0,(gZ,true),(.int .i64,false),(gZ,true),fun x=>Mp F0 x.1 x.2.1⟩
def anl:ba 117 SY:=ok4 (show xJ Tryz.prog TB Zb from⟨cm,acN,anc,ajQ,ajS,anh,aud,auf,trivial⟩) func117 (by kernel_rfl) (by kernel_rfl) ab (by kernel_rfl) (by kernel_rfl)
def Zc:=[(55,cL),(114,SJ),(115,SQ),(116,FR),(117,SY)]
def Mq (w:nz)(d:D45):Option (nz×Int×nz):=apX Tryz.prog (look Zc) F ab f59 [(gZ,true),(K45,true)] 0 (gZ,true) (.int .i64,false) (gZ,true) (w,d,())
def anm (w:nz)(d:D45):Mq F w d=br (d.1==3) ((wG F0 w d).bind fun a=>br (a.2.1==0) (some (a.1,0,gZ.aC)) (br (a.2.1==0) (none) (some (gZ.aC,a.2.1,w.1,a.2.2.2)))) (br (d.1==4) ((wG F0 w d).bind fun a=>br (a.2.1==0) (some (a.1,0,gZ.aC)) (br (a.2.1==0) (none) (some (gZ.aC,a.2.1,w.1,a.2.2.2)))) (br (d.1==5) ((wG F0 w d).bind fun a=>br (a.2.1==0) (some (a.1,0,gZ.aC)) (br (a.2.1==0) (none) (some (gZ.aC,a.2.1,w.1,a.2.2.2)))) (br (d.1==10) ((Me F0 w d).bind fun b=>br (b.2.1==0) (some (b.1,0,gZ.aC)) (br (b.2.1==0) (none) (some (gZ.aC,b.2.1,w.1,b.2.2.2)))) ((EM F0 w).bind fun e=>(cR F0 e.1 d.2.1).bind fun f=>br (!f.1) (some (gZ.aC,2,w)) ((Mp F0 w d).bind fun c=>br (c.2.1==0) (some (c.1,0,gZ.aC)) (br (c.2.1==0) (none) (some (gZ.aC,c.2.1,w.1,c.2.2.2)))))))):=by kernel_rfl
def SZ:Any:=.sel ⟨[(gZ,true),(K45,true)],0,(gZ,true),(.int .i64,false),(gZ,true),fun x=>Mq F0 x.1 x.2.1⟩
def ann:ba 59 SZ:=ok4 (show xJ Tryz.prog TB Zc from⟨dD,am2,am9,Vn,anl,trivial⟩) func59 (by kernel_rfl) (by kernel_rfl) ab (by kernel_rfl) (by kernel_rfl)
def Vs:=[(59,SZ)]
abbrev ahZ:List (Ty×Bool):=[(gZ,true),(K45,true)]
def HY (w:nz)(d:D45):=Ev Vs F ab f24 ahZ 0 (.own true) eU [] 2 (w,d,())
def ajV (w:nz)(d:D45):HY F w d=(Mq F0 w d).bind fun a=>br (a.2.1==0) (br (0 != 0) (none) (some ((a.1,()),()))) (br (a.2.1 != 0) (some (((w.1,a.2.2.2),()),())) (none)):=by kernel_rfl
def Ps:Any:=.two ⟨ahZ,0,(.own true),eU,2,[],fun x=>HY F0 x.1 x.2.1⟩
def ajW:ba 24 Ps:=azh Vs ⟨ann,trivial⟩ func24 ab (by kernel_rfl)
def o0:=[(18,UD),(19,Bk),(20,BY),(21,dU),(22,Sk),(23,EI),(24,Ps)]
def o3:Nat->Option Hint:=look [(7,{live:=[2,4,5,6,7,8,9],Bg:=[(2,2,3,.int .i64),(2,3,50,cl),(2,4,102,eI),(2,5,95,cZ)],xl:=[2,5,7],rl:=[2,3]})]
def k1 (a i r s:Int)(t:List Int)(u v x b w c:Int)(y:List D45)(d:List Int)(e:List bb)(f:List b0)(g:List bS)(h:List Int)(j:List bb)(k:List b0)(l:List bS)(m:List Int)(o:List bb)(p:List b0)(q:List bS):= di 39 [b9 2,(4,.v (.c (.ptr 12 0))),b9 5,b9 6,(7,.v (.c (.own 1000000 none))),(8,bq a),(9,bq i)] [(2,[an r,an s,.own 1000001 none,.own 1000002 none,.own 1000003 none,.own 1000004 none]),(12,[.ro false 5 (.int .u8) t,an u,an v]),(5,[an x,an b,.own 1000005 none,.own 1000006 none,.own 1000007 none,.own 1000008 none]),(6,[an w,an c,.own 1000009 none,.own 1000010 none,.own 1000011 none,.own 1000012 none])] [ay 1000000 67 K45 y,ay 1000001 3 (.int .i64) d,ay 1000002 50 cl e,ay 1000003 102 eI f,ay 1000004 95 cZ g,ay 1000005 3 (.int .i64) h,(1000006,some ⟨50,cl,j,false,true⟩),(1000007,some ⟨102,eI,k,false,true⟩),ay 1000008 95 cZ l,ay 1000009 3 (.int .i64) m,ay 1000010 50 cl o,ay 1000011 102 eI p,ay 1000012 95 cZ q]
def EO (j k l a:Int)(m:List D45)(b:List Int)(c:List bb)(d:List b0)(e:List bS)(f:List Int)(g:List bb)(h:List b0)(i:List bS):= di 39 [b9 2,b9 5,(7,.v (.c (.own 1000000 none)))] [(2,[an j,an k,.own 1000001 none,.own 1000002 none,.own 1000003 none,.own 1000004 none]),(5,[an l,an a,.own 1000005 none,.own 1000006 none,.own 1000007 none,.own 1000008 none])] [ay 1000000 67 K45 m,ay 1000001 3 (.int .i64) b,ay 1000002 50 cl c,ay 1000003 102 eI d,ay 1000004 95 cZ e,ay 1000005 3 (.int .i64) f,(1000006,some ⟨50,cl,g,false,true⟩),(1000007,some ⟨102,eI,h,false,true⟩),ay 1000008 95 cZ i]
def o4 (a:St):Option U:=fy o0 F o3 [.r,.r,.r,.r,.r,.r,.l,.r,.b,.i] f6 J n a
abbrev aEv:List (Ty×Bool):=[(gZ,true),(K46,false)]
def sV:=ig o0 F o3 [.r,.r,.r,.r,.r,.r,.l,.r,.b] f6 aEv 0
def zV (d i u v:Int)(y:List Int)(z A x e w f:Int)(c:List D45)(g:List Int)(h:List bb)(j:List b0)(k:List bS)(l:List Int)(m:List bb)(o:List b0)(p:List bS)(q:List Int)(r:List bb)(s:List b0)(t:List bS):o4 F J (n+1) (k1 d i u v y z A x e w f c g h j k l m o p q r s t)=br (decide (i<d)) ((rA F0 (y,z,A) ((w,f),q,r,s,t)).bind fun a=>ck (eA F c.length [a.1.1].length 240) ((HY F0 ((w,f),q,r,s,t) a.1.1).bind fun b=>o4 F J n (k1 d (aj (i+1)) u v a.2.1.1 a.2.1.2.1 a.2.1.2.2 x e b.1.1.1.1 b.1.1.1.2 (c++[a.1.1]) g h j k l m o p b.1.1.2.1 b.1.1.2.2.1 b.1.1.2.2.2.1 b.1.1.2.2.2.2))) (J (.exit 0) (EO u v x e c g h j k l m o p)):=by kernel_rfl
def TR (l m f a:Int)(g:List D45)(h:List Int)(i:List bb)(j:List b0)(k:List bS)(b:List Int)(c:List bb)(d:List b0)(e:List bS):sV F (.exit 0) (EO l m f a g h i j k b c d e)=some (((f,a),b,c,d,e),g,()):=by kernel_rfl
def uT (a:List Int):=bn o0 F o3 f6 ld aEv 0 (a,())
def aaH (d:List Int):uT F d=(Jn F0 d).bind fun e=>(oL F0 e.1.1).bind fun a=>(yz F0 a.1.1).bind fun b=>(LN F0 d 70 140).bind fun f=>(au F0 a.2.1 f.1).bind fun c=>o4 F (sV F) F.n (k1 c.1.1 0 0 0 c.2.1.1 c.2.1.2.1 c.2.1.2.2 a.1.1.1.1 a.1.1.1.2 b.1.1.1 b.1.1.2 [] [] [] [] [] a.1.1.2.1 a.1.1.2.2.1 a.1.1.2.2.2.1 a.1.1.2.2.2.2 b.1.2.1 b.1.2.2.1 b.1.2.2.2.1 b.1.2.2.2.2):=by kernel_rfl
def GK:Any:=.one ⟨ld,aEv,0,fun x=>uT F0 x.1⟩
def aaI:ba 6 GK:=aw o0 ⟨aqf,UW,Sj,fs,amD,XR,ajW,trivial⟩ func6 o3 (by kernel_rfl)
def dP (l:List Int):=bn aB F ab f25 jK jK 2 (l,())
def Cc (l:List Int):dP F l=ck (eA F 0 l.length 8) (some ([]++l,())):=by kernel_rfl
def e9:Any:=.one ⟨jK,jK,2,fun x=>dP F0 x.1⟩
def iL:ba 25 e9:=aw aB trivial func25 ab (by kernel_rfl)
def aY (a low high:Int):=bn aB F ab f42 aA5 aT 1 (a,low,high,())
def ano (a low high:Int):aY F a low high=br (decide (a>=low)) (some (decide (a<=high),())) (some (false,())):=by kernel_rfl
def bA:Any:=.one ⟨aA5,aT,1,fun x=>aY F0 x.1 x.2.1 x.2.2.1⟩
def bT:ba 42 bA:=aw aB trivial func42 ab (by kernel_rfl)
def Zd:=[(42,bA)]
def ec (c:D1):=bn Zd F ab f26 R1 aT 1 (c,())
def anp (c:D1):ec F c=(aY F0 c.1 4 7).bind fun a=>br a.1 ((aY F0 c.2 1 6).bind fun b=>some (b.1,())) (some (false,())):=by kernel_rfl
def cM:Any:=.one ⟨R1,aT,1,fun x=>ec F0 x.1⟩
def dI:ba 26 cM:=aw Zd ⟨bT,trivial⟩ func26 ab (by kernel_rfl)
def rR: Option (Args fY):=bn aB F ab f162 [] fY 2 (())
def S0: rR F= some ((0,ak,[]),()):=by kernel_rfl
def Cd:Any:=.one ⟨[],fY,2,fun x=>rR F0⟩
def S1:ba 162 Cd:=aw aB trivial func162 ab (by kernel_rfl)
def ik:Nat->Option Hint:=look [(4,{live:=[0,1,12,13],rl:=[4]})]
def gi (a b:List Int)(c d:Int):= b3 26 [(0,ih 3 (.int .i64) a),(1,ih 3 (.int .i64) b),(12,bq c),(13,bq d)]
def tj (a:Bool):= b3 26 [(4,NR a)]
def sK   := b3 26 []
def il (a:St):Option U:=fy aB F ik [.r,.r,.l,.r,.b,.i] f222 J n a
def gj:=ig aB F ik [.r,.r,.l,.r,.b] f222 aT 1
def o5 (b c:List Int)(d a:Int):il F J (n+1) (gi b c d a)=br (decide (a<d)) (ck (bO a (b.length:Int)) (ck (bO a (c.length:Int)) (br ((aN b a 0) != (aN c a 0)) (J .ret (tj false)) (il F J n (gi b c d (aj (a+1))))))) (J (.exit 0) (sK)):=by kernel_rfl
def Ld (a:Bool):gj F .ret (tj a)=some (a,()):=by kernel_rfl
def J8: gj F (.exit 0) (sK)=some (true,()):=by kernel_rfl
def gz (a b:List Int):=bn aB F ik f222 ai2 aT 1 (a,b,())
def Pt (a b:List Int):gz F a b=br ((a.length:Int) != (b.length:Int)) (some (false,())) (il F (gj F) F.n (gi a b (a.length:Int) 0)):=by kernel_rfl
def kN:Any:=.one ⟨ai2,aT,1,fun x=>gz F0 x.1 x.2.1⟩
def wI:ba 222 kN:=aw aB trivial func222 ik (by kernel_rfl)
def Ze:=[(222,kN)]
def iE (a b:D9):=bn Ze F ab f161 wz aT 1 (a,b,())
def Vt (a b:D9):iE F a b=br (a.1==b.1) (br (a.2.1.toList==b.2.1.toList) ((gz F0 a.2.2 b.2.2).bind fun c=>some (c.1,())) (some (false,()))) (some (false,())):=by kernel_rfl
def jU:Any:=.one ⟨wz,aT,1,fun x=>iE F0 x.1 x.2.1⟩
def pR:ba 161 jU:=aw Ze ⟨wI,trivial⟩ func161 ab (by kernel_rfl)
def acT:=[(213,Lq)]
def vI (s:ByteArray)(a:Int):=bn acT F ab f147 Yu awz 1 (s,a,())
def aqC (s:ByteArray)(a:Int):vI F s a=(strings_Split F0 s (strOf [a])).bind fun b=>some (b.1,()):=by kernel_rfl
def J9:Any:=.one ⟨Yu,awz,1,fun x=>vI F0 x.1 x.2.1⟩
def Zf:ba 147 J9:=aw acT ⟨ae2,trivial⟩ func147 ab (by kernel_rfl)
end
end Go.Am.Tryz
namespace Go.Am.Tryz
open Go.Am Go.Proofs Go.Proofs.Tryz
noncomputable section
variable {U:Type} (F:oH) (J:Ex->St->Option U) (n:Nat)
def Zg:=[(259,Ov)]
def kl (a:Int):=bn Zg F ab f215 c7 dw 1 (a,())
def anq (a:Int):kl F a=(strconv_Itoa F0 a).bind fun b=>some (b.1,()):=by kernel_rfl
def uU:Any:=.one ⟨c7,dw,1,fun x=>kl F0 x.1⟩
def Ka:ba 215 uU:=aw Zg ⟨aiV,trivial⟩ func215 ab (by kernel_rfl)
def Dy:=[(215,uU)]
def Dz:Nat->Option Hint:=look [(5,{live:=[0,4,5],xl:=[0,4],rl:=[2,3]})]
def uV (s:ByteArray)(a i:Int):= b3 43 [(0,Yr s),(4,bq a),(5,bq i)]
def FT (a:Int)(b:Bool):= b3 43 [(2,bq a),(3,NR b)]
def Pu (s:ByteArray)(a:Int):= b3 43 [(0,Yr s),(4,bq a)]
def DA (a:St):Option U:=fy Dy F Dz [.r,.r,.r,.l,.r,.b,.i] f149 J n a
def uW:=ig Dy F Dz [.r,.r,.r,.l,.r,.b] f149 arQ 1
def Kb (s:ByteArray)(a i:Int):DA F J (n+1) (uV s a i)=br (decide (i<(s.size:Int))) (ck (bO i (s.size:Int)) (br (decide ((gV s i)<48)) (J .ret (FT 0 false)) (ck (bO i (s.size:Int)) (br (decide ((gV s i)>57)) (J .ret (FT 0 false)) (ck (bO i (s.size:Int)) (DA F J n (uV s (aj ((aj (10*a))+(aj (IntKind.wrap .u8 ((gV s i)-48))))) (aj (i+1))))))))) (J (.exit 0) (Pu s a)):=by kernel_rfl
def afK (a:Int)(b:Bool):uW F .ret (FT a b)=some (a,b,()):=by kernel_rfl
def acU (s:ByteArray)(a:Int):uW F (.exit 0) (Pu s a)=(kl F0 a).bind fun b=>br (!(b.1.toList==s.toList)) (some (0,false,())) (some (a,true,())):=by kernel_rfl
def mu (s:ByteArray):=bn Dy F Dz f149 dw arQ 1 (s,())
def anr (s:ByteArray):mu F s=br (decide ((s.size:Int)<1)) (some (0,false,())) (br (decide ((s.size:Int)>6)) (some (0,false,())) (DA F (uW F) F.n (uV s 0 0))):=by kernel_rfl
def FU:Any:=.one ⟨dw,arQ,1,fun x=>mu F0 x.1⟩
def Vu:ba 149 FU:=aw Dy ⟨Ka,trivial⟩ func149 Dz (by kernel_rfl)
def ah0:=[(42,bA)]
def oj (x:D4):=bn ah0 F ab f139 Yx aT 1 (x,())
def aug (x:D4):oj F x=(aY F0 x.1 0 3).bind fun a=>br a.1 ((aY F0 x.2.1 0 3).bind fun b=>br b.1 ((aY F0 x.2.2.1 0 1000).bind fun c=>br c.1 ((aY F0 x.2.2.2 0 99).bind fun d=>some (d.1,())) (some (false,()))) (some (false,()))) (some (false,())):=by kernel_rfl
def iF:Any:=.one ⟨Yx,aT,1,fun x=>oj F0 x.1⟩
def mM:ba 139 iF:=aw ah0 ⟨bT,trivial⟩ func139 ab (by kernel_rfl)
def Zh:=[(139,iF),(215,uU)]
def EP (x:D4):=bn Zh F ab f260 Yx dw 1 (x,())
def ans (x:D4):EP F x=(oj F0 x).bind fun e=>br (!e.1) (some (ak,())) ((kl F0 x.1).bind fun a=>ck (okC F a.1.size (ByteArray.mk #[62]).size) ((kl F0 x.2.1).bind fun b=>ck (okC F (a.1++(ByteArray.mk #[62])).size b.1.size) (ck (okC F ((a.1++(ByteArray.mk #[62]))++b.1).size (ByteArray.mk #[58]).size) ((kl F0 x.2.2.1).bind fun c=>ck (okC F (((a.1++(ByteArray.mk #[62]))++b.1)++(ByteArray.mk #[58])).size c.1.size) (ck (okC F ((((a.1++(ByteArray.mk #[62]))++b.1)++(ByteArray.mk #[58]))++c.1).size (ByteArray.mk #[35]).size) ((kl F0 x.2.2.2).bind fun d=>ck (okC F (((((a.1++(ByteArray.mk #[62]))++b.1)++(ByteArray.mk #[58]))++c.1)++(ByteArray.mk #[35])).size d.1.size) (some ((((((a.1++(ByteArray.mk #[62]))++b.1)++(ByteArray.mk #[58]))++c.1)++(ByteArray.mk #[35]))++d.1,())))))))):=by kernel_rfl
def FV:Any:=.one ⟨Yx,dw,1,fun x=>EP F0 x.1⟩
def Vv:ba 260 FV:=aw Zh ⟨mM,Ka,trivial⟩ func260 ab (by kernel_rfl)
def ah1:=[(139,iF),(148,Fw),(149,FU),(260,FV)]
def Xd (s:ByteArray):=bn ah1 F ab f216 dw aA6 1 (s,())
def auh (s:ByteArray):Xd F0 s=(strings_Cut F0 s (ByteArray.mk #[62])).bind fun b=>(strings_Cut F0 b.2.1 (ByteArray.mk #[58])).bind fun c=>(strings_Cut F0 c.2.1 (ByteArray.mk #[35])).bind fun a=>ck (bO 0 4) ((mu F0 (aN [b.1,c.1,a.1,a.2.1] 0 ByteArray.empty)).bind fun d=>ck (bO 1 4) ((mu F0 (aN [b.1,c.1,a.1,a.2.1] 1 ByteArray.empty)).bind fun e=>ck (bO 2 4) ((mu F0 (aN [b.1,c.1,a.1,a.2.1] 2 ByteArray.empty)).bind fun f=>ck (bO 3 4) ((mu F0 (aN [b.1,c.1,a.1,a.2.1] 3 ByteArray.empty)).bind fun g=>(oj F0 (d.1,e.1,f.1,g.1)).bind fun h=>br (!h.1) (some ((0,0,0,0),false,())) ((EP F0 (d.1,e.1,f.1,g.1)).bind fun i=>br (!(i.1.toList==s.toList)) (some ((0,0,0,0),false,())) (some ((d.1,e.1,f.1,g.1),true,()))))))):=by kernel_rfl
def Zi:Any:=.one ⟨dw,aA6,1,fun x=>Xd F0 x.1⟩
def aui:ba 216 Zi:=aw ah1 ⟨mM,Uz,Vu,Vv,trivial⟩ func216 ab (by kernel_rfl)
def HZ:=[(147,J9),(216,Zi)]
def H0:Nat->Option Hint:=look [(5,{live:=[4,12,13,14],mat:=[(4,63,K4)],xl:=[4],rl:=[2,3]})]
def z1 (a:List ByteArray)(b c:Int)(d:List D4):= di 31 [(4,.v (.c (.own 1000000 none))),(12,.v (.c (.ro true 9 (.str) a))),(13,bq b),(14,bq c)] [] [ay 1000000 63 K4 d]
def Vw (a:Bool):= b3 31 [(2,.v (.c (.nil))),(3,NR a)]
def S2 (a:List D4):= di 31 [(4,.v (.c (.own 1000000 none)))] [] [ay 1000000 63 K4 a]
def H2 (a:St):Option U:=fy HZ F H0 [.r,.r,.r,.l,.r,.b,.i] f150 J n a
def z6:=ig HZ F H0 [.r,.r,.r,.l,.r,.b] f150 UJ 2
def Mr (b:List ByteArray)(e a:Int)(c:List D4):H2 F J (n+1) (z1 b e a c)=br (decide (a<e)) (ck (bO a (b.length:Int)) ((Xd F0 (aN b a ByteArray.empty)).bind fun d=>br (!d.2.1) (J .ret (Vw false)) (ck (eA F c.length [d.1].length 32) (H2 F J n (z1 b e (aj (a+1)) (c++[d.1])))))) (J (.exit 0) (S2 c)):=by kernel_rfl
def ajX (a:Bool):z6 F .ret (Vw a)=some ([],a,()):=by kernel_rfl
def afL (a:List D4):z6 F (.exit 0) (S2 a)=some (a,true,()):=by kernel_rfl
def Kc (s:ByteArray):=bn HZ F H0 f150 dw UJ 2 (s,())
def aqD (s:ByteArray):Kc F s=br (s.toList==ak.toList) (some ([],true,())) ((vI F0 s 44).bind fun a=>H2 F (z6 F) F.n (z1 a.1 (a.1.length:Int) 0 [])):=by kernel_rfl
def Vx:Any:=.one ⟨dw,UJ,2,fun x=>Kc F0 x.1⟩
def aqE:ba 150 Vx:=aw HZ ⟨Zf,aui,trivial⟩ func150 H0 (by kernel_rfl)
def H3:=[(42,bA),(147,J9),(148,Fw),(149,FU),(150,Vx)]
def H4:Nat->Option Hint:=look [(9,{live:=[5,6,31,32,33],mat:=[(5,128,K6)],xl:=[5],rl:=[2,3]})]
def z7 (a:Int)(b:List ByteArray)(c d:Int)(e:List D6):= di 84 [(5,.v (.c (.own 1000000 none))),(6,bq a),(31,.v (.c (.ro true 9 (.str) b))),(32,bq c),(33,bq d)] [] [ay 1000000 128 K6 e]
def lQ (a:Bool):= b3 84 [(2,.v (.c (.nil))),(3,NR a)]
def S3 (a:List D6):= di 84 [(5,.v (.c (.own 1000000 none)))] [] [ay 1000000 128 K6 a]
def H5 (a:St):Option U:=fy H3 F H4 [.r,.r,.r,.r,.r,.r,.l,.r,.b,.i] f80 J n a
def z8:=ig H3 F H4 [.r,.r,.r,.r,.r,.r,.l,.r,.b] f80 arR 2
def Ms (h:Int)(d:List ByteArray)(g b:Int)(e:List D6):H5 F J (n+1) (z7 h d g b e)=br (decide (b<g)) (ck (bO b (d.length:Int)) ((strings_Cut F0 (aN d b ByteArray.empty) (ByteArray.mk #[124])).bind fun f=>(mu F0 f.1).bind fun a=>(Kc F0 f.2.1).bind fun c=>br (!f.2.2.1) (J .ret (lQ false)) (br (!a.2.1) (J .ret (lQ false)) (br (!c.2.1) (J .ret (lQ false)) ((aY F0 a.1 (aj (h+1)) 60).bind fun i=>br (!i.1) (J .ret (lQ false)) (br (decide ((c.1.length:Int)>2)) (J .ret (lQ false)) (ck (eA F e.length [(a.1,c.1)].length 32) (H5 F J n (z7 a.1 d g (aj (b+1)) (e++[(a.1,c.1)])))))))))) (J (.exit 0) (S3 e)):=by kernel_rfl
def ajY (a:Bool):z8 F .ret (lQ a)=some ([],a,()):=by kernel_rfl
def afM (a:List D6):z8 F (.exit 0) (S3 a)=some (a,true,()):=by kernel_rfl
def pS (s:ByteArray):=bn H3 F H4 f80 dw arR 2 (s,())
def aqF (s:ByteArray):pS F s=br (s.toList==ak.toList) (some ([],true,())) ((vI F0 s 47).bind fun a=>ck (bO 0 (a.1.length:Int)) (br (!((aN a.1 0 ByteArray.empty).toList==ak.toList)) (some ([],false,())) (br (decide ((aj ((a.1.length:Int)-1))>30)) (some ([],false,())) (ck (QW 1 (a.1.length:Int) (a.1.length:Int)) (H5 F (z8 F) F.n (z7 0 ((a.1.take (a.1.length:Int).toNat).drop (1:Int).toNat) (((a.1.take (a.1.length:Int).toNat).drop (1:Int).toNat).length:Int) 0 [])))))):=by kernel_rfl
def pT:Any:=.one ⟨dw,arR,2,fun x=>pS F0 x.1⟩
def DB:ba 80 pT:=aw H3 ⟨bT,Zf,Uz,Vu,aqE,trivial⟩ func80 H4 (by kernel_rfl)
def Zj:=[(80,pT)]
def eK (s:ByteArray):=bn Zj F ab f39 dw aT 1 (s,())
def ant (s:ByteArray):eK F s=(pS F0 s).bind fun a=>some (a.2.1,()):=by kernel_rfl
def eC:Any:=.one ⟨dw,aT,1,fun x=>eK F0 x.1⟩
def gA:ba 39 eC:=aw Zj ⟨DB,trivial⟩ func39 ab (by kernel_rfl)
def Zk:=[(80,pT)]
def ed (s:ByteArray):=bn Zk F ab f62 dw c7 1 (s,())
def anu (s:ByteArray):ed F s=(pS F0 s).bind fun a=>br ((a.1.length:Int)==0) (some (0,())) (ck (bO (aj ((a.1.length:Int)-1)) (a.1.length:Int)) (some ((aN a.1 (aj ((a.1.length:Int)-1)) (0,[])).1,()))):=by kernel_rfl
def dQ:Any:=.one ⟨dw,c7,1,fun x=>ed F0 x.1⟩
def fa:ba 62 dQ:=aw Zk ⟨DB,trivial⟩ func62 ab (by kernel_rfl)
def H6:Nat->Option Hint:=look [(2,{live:=[0,1,7,8,9],rl:=[4]})]
def pU (a:Int)(s b:List Int)(c d:Int):= b3 35 [(0,bq a),(1,ih 3 (.int .i64) s),(7,ih 3 (.int .i64) b),(8,bq c),(9,bq d)]
def Aa (a:Bool):= b3 35 [(4,NR a)]
def S4   := b3 35 []
def Ab (a:St):Option U:=fy aB F H6 [.r,.l,.r,.b,.i] f60 J n a
def Ac:=ig aB F H6 [.r,.l,.r,.b] f60 aT 1
def Mt (c:Int)(s b:List Int)(d a:Int):Ab F J (n+1) (pU c s b d a)=br (decide (a<d)) (ck (bO a (b.length:Int)) (br (decide ((aN b a 0)<0)) (J .ret (Aa false)) (br (decide ((aN b a 0)>=c)) (J .ret (Aa false)) (br (decide (a>0)) (ck (bO (aj (a-1)) (s.length:Int)) (br (decide ((aN s (aj (a-1)) 0)>=(aN b a 0))) (J .ret (Aa false)) (Ab F J n (pU c s b d (aj (a+1)))))) (Ab F J n (pU c s b d (aj (a+1)))))))) (J (.exit 0) (S4)):=by kernel_rfl
def ajZ (a:Bool):Ac F .ret (Aa a)=some (a,()):=by kernel_rfl
def afN: Ac F (.exit 0) (S4)=some (true,()):=by kernel_rfl
def vJ (a:Int)(s:List Int):=bn aB F H6 f60 aA7 aT 1 (a,s,())
def aqG (a:Int)(s:List Int):vJ F a s=Ab F (Ac F) F.n (pU a s s (s.length:Int) 0):=by kernel_rfl
def Ad:Any:=.one ⟨aA7,aT,1,fun x=>vJ F0 x.1 x.2.1⟩
def NV:ba 60 Ad:=aw aB trivial func60 H6 (by kernel_rfl)
def Zl:=[(26,cM)]
def ER (c:D1):=bn Zl F ab f41 R1 c7 1 (c,())
def anv (c:D1):ER F c=(ec F0 c).bind fun a=>br (!a.1) (some (0,())) (some (aj (Int.tdiv (aj (c.1-1)) 3),())):=by kernel_rfl
def FW:Any:=.one ⟨R1,c7,1,fun x=>ER F0 x.1⟩
def Vy:ba 41 FW:=aw Zl ⟨dI,trivial⟩ func41 ab (by kernel_rfl)
def Zm:=[(26,cM),(41,FW)]
def ES (c:D1):=bn Zm F ab f14 R1 c7 1 (c,())
def anw (c:D1):ES F c=(ec F0 c).bind fun a=>br (!a.1) (some (0,())) ((ER F0 c).bind fun b=>some (aj (c.1-b.1),())):=by kernel_rfl
def FX:Any:=.one ⟨R1,c7,1,fun x=>ES F0 x.1⟩
def Vz:ba 14 FX:=aw Zm ⟨dI,Vy,trivial⟩ func14 ab (by kernel_rfl)
def ah2:=[(14,FX),(26,cM),(39,eC),(60,Ad),(62,dQ),(161,jU),(162,Cd)]
def lR (c:D1)(q:D9):=bn ah2 F ab f138 Gk aT 1 (c,q,())
def auj (c:D1)(q:D9):lR F c q=(ec F0 c).bind fun a=>br (!a.1) (some (false,())) ((rR F0).bind fun b=>(iE F0 q b.1).bind fun d=>br d.1 (some (true,())) (br (decide (q.1>=1)) ((eK F0 q.2.1).bind fun e=>br e.1 ((ed F0 q.2.1).bind fun f=>br (q.1==f.1) ((vJ F0 c.1 q.2.2).bind fun g=>br g.1 ((ES F0 c).bind fun h=>some (decide ((q.2.2.length:Int)>=h.1),())) (some (false,()))) (some (false,()))) (some (false,()))) (some (false,())))):=by kernel_rfl
def iG:Any:=.one ⟨Gk,aT,1,fun x=>lR F0 x.1 x.2.1⟩
def mN:ba 138 iG:=aw ah2 ⟨Vz,dI,gA,NV,fa,pR,S1,trivial⟩ func138 ab (by kernel_rfl)
def Zn:=[(39,eC),(42,bA),(138,iG)]
def km (c:D1)(s:TN):=bn Zn F ab f73 R8 aT 1 (c,s,())
def anx (c:D1)(s:TN):km F c s=(aY F0 s.1 0 60).bind fun a=>br a.1 ((aY F0 s.2.1 0 60).bind fun b=>br b.1 ((lR F0 c s.2.2.1).bind fun d=>br d.1 ((eK F0 s.2.2.2).bind fun e=>some (e.1,())) (some (false,()))) (some (false,()))) (some (false,())):=by kernel_rfl
def jV:Any:=.one ⟨R8,aT,1,fun x=>km F0 x.1 x.2.1⟩
def pV:ba 73 jV:=aw Zn ⟨gA,bT,mN,trivial⟩ func73 ab (by kernel_rfl)
def DC (a b:D4):=bn aB F ab f140 aA8 aT 1 (a,b,())
def afO (a b:D4):DC F a b=br (decide (a.1<b.1)) (some (true,())) (br (a.1==b.1) (some (decide (a.2.2.2<b.2.2.2),())) (some (false,()))):=by kernel_rfl
def Mu:Any:=.one ⟨aA8,aT,1,fun x=>DC F0 x.1 x.2.1⟩
def afP:ba 140 Mu:=aw aB trivial func140 ab (by kernel_rfl)
def DD:=[(139,iF),(140,Mu)]
def DE:Nat->Option Hint:=look [(2,{live:=[0,5,6,7],xl:=[0],rl:=[2]})]
def nM (p a:List D4)(b c:Int):= b3 33 [(0,ih 63 (K4) p),(5,ih 63 (K4) a),(6,bq b),(7,bq c)]
def FY (a:Bool):= b3 33 [(2,NR a)]
def Pv (p:List D4):= b3 33 [(0,ih 63 (K4) p)]
def tk (a:St):Option U:=fy DD F DE [.r,.l,.r,.b,.i] f74 J n a
def uX:=ig DD F DE [.r,.l,.r,.b] f74 aT 1
def Kd (p b:List D4)(c a:Int):tk F J (n+1) (nM p b c a)=br (decide (a<c)) (ck (bO a (b.length:Int)) ((oj F0 (aN b a K4.aC)).bind fun d=>br (!d.1) (J .ret (FY false)) (br (decide (a>0)) (ck (bO (aj (a-1)) (p.length:Int)) ((DC F0 (aN p (aj (a-1)) K4.aC) (aN b a K4.aC)).bind fun e=>br (!e.1) (J .ret (FY false)) (tk F J n (nM p b c (aj (a+1)))))) (tk F J n (nM p b c (aj (a+1))))))) (J (.exit 0) (Pv p)):=by kernel_rfl
def afQ (a:Bool):uX F .ret (FY a)=some (a,()):=by kernel_rfl
def acV (p:List D4):uX F (.exit 0) (Pv p)=some (decide ((p.length:Int)<=12),()):=by kernel_rfl
def wJ (p:D5):=bn DD F DE f74 jH aT 1 (p,())
def anz (p:D5):wJ F p=tk F (uX F) F.n (nM p p (p.length:Int) 0):=by kernel_rfl
def FZ:Any:=.one ⟨jH,aT,1,fun x=>wJ F0 x.1⟩
def VA:ba 74 FZ:=aw DD ⟨mM,afP,trivial⟩ func74 DE (by kernel_rfl)
def Zo:=[(26,cM),(39,eC),(42,bA),(60,Ad),(62,dQ)]
def pW (c:D1)(p:D9):=bn Zo F ab f141 Gk aT 1 (c,p,())
def anA (c:D1)(p:D9):pW F c p=(ec F0 c).bind fun b=>br b.1 ((aY F0 p.1 1 60).bind fun d=>br d.1 (br (p.2.1.toList==ak.toList) ((vJ F0 c.1 p.2.2).bind fun a=>br a.1 (some (decide ((p.2.2.length:Int)>0),())) (some (false,()))) ((eK F0 p.2.1).bind fun e=>br e.1 ((ed F0 p.2.1).bind fun f=>br (f.1==p.1) ((vJ F0 c.1 p.2.2).bind fun a=>br a.1 (some (decide ((p.2.2.length:Int)>0),())) (some (false,()))) (some (false,()))) (some (false,())))) (some (false,()))) (some (false,())):=by kernel_rfl
def nN:Any:=.one ⟨Gk,aT,1,fun x=>pW F0 x.1 x.2.1⟩
def Ae:ba 141 nN:=aw Zo ⟨dI,gA,bT,NV,fa,trivial⟩ func141 ab (by kernel_rfl)
def DF (x:Int):=bn aB F ab f254 c7 aT 1 (x,())
def Pw (x:Int):DF F x=some (x != x,()):=by kernel_rfl
def Mv:Any:=.one ⟨c7,aT,1,fun x=>DF F0 x.1⟩
def afR:ba 254 Mv:=aw aB trivial func254 ab (by kernel_rfl)
def Mw:=[(254,Mv)]
def uY (x y:Int):=bn Mw F ab f207 arS c7 1 (x,y,())
def aaJ (x y:Int):uY F x y=(DF F0 x).bind fun b=>(DF F0 y).bind fun a=>br b.1 (br a.1 (some (0,())) (some (-1,()))) (br a.1 (some (1,())) (br (decide (x<y)) (some (-1,())) (br (decide (x>y)) (some (1,())) (some (0,()))))):=by kernel_rfl
def GL:Any:=.one ⟨arS,c7,1,fun x=>uY F0 x.1 x.2.1⟩
def aaK:ba 207 GL:=aw Mw ⟨afR,trivial⟩ func207 ab (by kernel_rfl)
def rS (x:ByteArray):=bn aB F ab f255 dw aT 1 (x,())
def GM (x:ByteArray):rS F x=some (!(x.toList==x.toList),()):=by kernel_rfl
def ET:Any:=.one ⟨dw,aT,1,fun x=>rS F0 x.1⟩
def XT:ba 255 ET:=aw aB trivial func255 ab (by kernel_rfl)
def EU:=[(255,ET)]
def mO (x y:ByteArray):=bn EU F ab f208 Sr c7 1 (x,y,())
def TS (x y:ByteArray):mO F x y=(rS F0 x).bind fun b=>(rS F0 y).bind fun a=>br b.1 (br a.1 (some (0,())) (some (-1,()))) (br a.1 (some (1,())) (br (Op.bytesLess x.toList y.toList) (some (-1,())) (br (!(Op.bytesLess x.toList y.toList || (x.toList==y.toList))) (some (1,())) (some (0,()))))):=by kernel_rfl
def Af:Any:=.one ⟨Sr,c7,1,fun x=>mO F0 x.1 x.2.1⟩
def TT:ba 208 Af:=aw EU ⟨XT,trivial⟩ func208 ab (by kernel_rfl)
def GN:=[(207,GL),(208,Af)]
def fc (a b:D9):=bn GN F ab f142 wz c7 1 (a,b,())
def EV (a b:D9):fc F a b=(uY F0 a.1 b.1).bind fun c=>br (c.1 != 0) (some (c.1,())) ((mO F0 a.2.1 b.2.1).bind fun d=>some (d.1,())):=by kernel_rfl
def oA:Any:=.one ⟨wz,c7,1,fun x=>fc F0 x.1 x.2.1⟩
def EW:ba 142 oA:=aw GN ⟨aaK,TT,trivial⟩ func142 ab (by kernel_rfl)
def Ag:=[(141,nN),(142,oA)]
def Ah:Nat->Option Hint:=look [(2,{live:=[1,2,7,8,9],xl:=[1],rl:=[4]})]
def lS (b d:List D9)(e f c a:Int):= di 36 [(1,ih 61 (K9) b),b9 2,(7,ih 61 (K9) d),(8,bq e),(9,bq f)] [(2,[an c,an a])] []
def Ce (a:Bool):= b3 36 [(4,NR a)]
def Mx (a:List D9):= b3 36 [(1,ih 61 (K9) a)]
def pX (a:St):Option U:=fy Ag F Ah [.r,.l,.r,.b,.i] f75 J n a
def rT:=ig Ag F Ah [.r,.l,.r,.b] f75 aT 1
def GO (b d:List D9)(f a c e:Int):pX F J (n+1) (lS b d f a c e)=br (decide (a<f)) (ck (bO a (d.length:Int)) ((pW F0 (c,e) (aN d a K9.aC)).bind fun g=>br (!g.1) (J .ret (Ce false)) (br (decide (a>0)) (ck (bO (aj (a-1)) (b.length:Int)) ((fc F0 (aN b (aj (a-1)) K9.aC) (aN d a K9.aC)).bind fun h=>br (decide (h.1>=0)) (J .ret (Ce false)) (pX F J n (lS b d f (aj (a+1)) c e)))) (pX F J n (lS b d f (aj (a+1)) c e))))) (J (.exit 0) (Mx b)):=by kernel_rfl
def acW (a:Bool):rT F .ret (Ce a)=some (a,()):=by kernel_rfl
def aaL (a:List D9):rT F (.exit 0) (Mx a)=some (decide ((a.length:Int)<=20),()):=by kernel_rfl
def ko (c:D1)(a:D13):=bn Ag F Ah f75 aA9 aT 1 (c,a,())
def aj0 (c:D1)(a:D13):ko F c a=pX F (rT F) F.n (lS a a (a.length:Int) 0 c.1 c.2):=by kernel_rfl
def Cf:Any:=.one ⟨aA9,aT,1,fun x=>ko F0 x.1 x.2.1⟩
def S5:ba 75 Cf:=aw Ag ⟨Ae,EW,trivial⟩ func75 Ah (by kernel_rfl)
def Zp:=[(42,bA)]
def pY (d:D14):=bn Zp F ab f76 oJ aT 1 (d,())
def anB (d:D14):pY F d=br (decide ((d.1.length:Int)<=100000)) ((aY F0 d.2 0 (d.1.length:Int)).bind fun a=>some (a.1,())) (some (false,())):=by kernel_rfl
def nO:Any:=.one ⟨oJ,aT,1,fun x=>pY F0 x.1⟩
def Ai:ba 76 nO:=aw Zp ⟨bT,trivial⟩ func76 ab (by kernel_rfl)
def acX:Nat->Option Hint:=look [(900008,{live:=[],mat:=[(1,0,K21)]})]
def Ra (m:NQ):=bn aB F acX f144 wB wB 0 (m,())
def aqH (m:NQ):Ra F m=br (m.1==1) (some ((m.1,0,m.2.2.1,(0,ak,[]),(0,ak,[]),0,0,0,0,0),())) (br (m.1==2) (some ((m.1,0,(ak,0,ak,[]),m.2.2.2.1,(0,ak,[]),0,0,0,0,0),())) (br (m.1==3) (some ((m.1,m.2.1,(ak,0,ak,[]),(0,ak,[]),m.2.2.2.2.1,m.2.2.2.2.2.1,0,0,0,0),())) (br (m.1==4) (some ((m.1,0,(ak,0,ak,[]),(0,ak,[]),(0,ak,[]),0,m.2.2.2.2.2.2),())) (some ((m.1,0,(ak,0,ak,[]),(0,ak,[]),(0,ak,[]),0,0,0,0,0),()))))):=by kernel_rfl
def VB:Any:=.one ⟨wB,wB,0,fun x=>Ra F0 x.1⟩
def aqI:ba 144 VB:=aw aB trivial func144 acX (by kernel_rfl)
def Px:=[(161,jU)]
def Aj (a b:D15):=bn Px F ab f209 aBa aT 1 (a,b,())
def acY (a b:D15):Aj F a b=br (a.1.toList==b.1.toList) ((iE F0 a.2 b.2).bind fun c=>some (c.1,())) (some (false,())):=by kernel_rfl
def Ke:Any:=.one ⟨aBa,aT,1,fun x=>Aj F0 x.1 x.2.1⟩
def acZ:ba 209 Ke:=aw Px ⟨pR,trivial⟩ func209 ab (by kernel_rfl)
end
end Go.Am.Tryz
