/- No condition. -/
import Derived.Test.YtaheoongenkdbaaGreatDoorQsXJG3
set_option linter.all false
set_option maxRecDepth 100000
namespace Go.Am.Tryz
open Go.Am Go.Proofs Go.Proofs.Tryz
noncomputable section
variable {U:Type} (F:nT) (J:Ex->St->Option U) (n:Nat)
def yj:=[(247,Ug)]
def yk:Nat->Option Hint:=look [(3,{live:=[1,2,4,6,7],vW:=[(4,2,3,.int .i64),(4,3,50,bD),(4,4,102,eH),(4,5,95,c8)],xl:=[2,4],rl:=[4,5]})]
def p8 (a i p b w c C D r d e f g h:Int)(j:ByteArray)(k:List Int)(l:ByteArray)(m:List D4)(o:List D9)(q:List Int)(s:Int)(t:List iO)(E:List Int)(u:List a6)(v:List bZ)(x:List bT)(y:List Int)(z:List a6)(A:List bZ)(B:List bT):St:={nt:=59,tm:=[(1,bp a),b0 2,b0 4,b0 6,(7,bp i)],bx:=[(2,[an w,an c,.own 1000000 none,.own 1000001 none,.own 1000002 none,.own 1000003 none]),(4,[an C,an D,.own 1000004 none,.own 1000005 none,.own 1000006 none,.own 1000007 none]),(6,[an r,an d,an e,an f,an g,an h,.str j,.ro true 3 (.int .i64) k,.str l,.ro true 63 (K4) m,.ro true 61 (K9) o,.ro true 5 (.int .u8) q,an s,.ro true 119 (nV) t])],bl:=[ax 1000000 3 (.int .i64) E,ax 1000001 50 bD u,ax 1000002 102 eH v,ax 1000003 95 c8 x,ax 1000004 3 (.int .i64) y,ax 1000005 50 bD z,ax 1000006 102 eH A,ax 1000007 95 c8 B],sp:=.v (.agg [an p,an b,.own 1000000 none,.own 1000001 none,.own 1000002 none,.own 1000003 none])}
def Bh (e p a f g:Int)(h:List Int)(b:List a6)(c:List bZ)(d:List bT):St:={nt:=59,tm:=[b0 4,(5,bp e)],bx:=[(4,[an f,an g,.own 1000000 none,.own 1000001 none,.own 1000002 none,.own 1000003 none])],bl:=[ax 1000000 3 (.int .i64) h,ax 1000001 50 bD b,ax 1000002 102 eH c,ax 1000003 95 c8 d],sp:=.v (.agg [an p,an a,.own 1000000 none,.own 1000001 none,.own 1000002 none,.own 1000003 none])}
def Ld (p a w b j k:Int)(l:List Int)(c:List a6)(d:List bZ)(e:List bT)(f:List Int)(g:List a6)(h:List bZ)(i:List bT):St:={nt:=59,tm:=[b0 2,b0 4],bx:=[(2,[an w,an b,.own 1000000 none,.own 1000001 none,.own 1000002 none,.own 1000003 none]),(4,[an j,an k,.own 1000004 none,.own 1000005 none,.own 1000006 none,.own 1000007 none])],bl:=[ax 1000000 3 (.int .i64) l,ax 1000001 50 bD c,ax 1000002 102 eH d,ax 1000003 95 c8 e,ax 1000004 3 (.int .i64) f,ax 1000005 50 bD g,ax 1000006 102 eH h,ax 1000007 95 c8 i],sp:=.v (.agg [an p,an a,.own 1000000 none,.own 1000001 none,.own 1000002 none,.own 1000003 none])}
def yl (a:St):Option U:=fp yj F yk [.r,.r,.l,.r,.b,.i] f188 J n a
def p9:=adj Tryz.prog (look yj) F yk [.r,.r,.l,.r,.b] (iu f188) (av2 Tryz.prog f188 (gp,true) (.int .i64,false) (gp,true))
def FE (a i p e w c D E r j k l m o:Int)(q:ByteArray)(s:List Int)(t:ByteArray)(u:List D4)(b:List D9)(v:List Int)(x:Int)(y:List iO)(h:List Int)(d:List a6)(f:List bZ)(g:List bT)(z:List Int)(A:List a6)(B:List bZ)(C:List bT):yl F J (n+1) (p8 a i p e w c D E r j k l m o q s t u b v x y h d f g z A B C)=br (decide (i>=0)) (ck (bN i (b.length:Int)) (br ((ay b i K9.aq).2.1.toList==aj.toList) (yl F J n (p8 a (ai (i-1)) p e w c D E r j k l m o q s t u b v x y h d f g z A B C)) (ck (bN i (b.length:Int)) (ck (bN i (b.length:Int)) ((P1 F0 (w,c) (r,j,k,(l,m,(o,q,s),t),u,b,(v,x),y) (ay b i K9.aq).1 (ay b i K9.aq).2.1 true).bind fun G=>br (!G.2.1) (J .ret (Bh 3 p e w c h d f g)) (ck (bN a (d.length:Int)) (J .ret (Bh 0 p e w c h (d.set a.toNat G.1) f g)))))))) (J (.exit 0) (Ld p e w c D E h d f g z A B C)):=by kernel_rfl
def Le (a p f g h:Int)(e:List Int)(b:List a6)(c:List bZ)(d:List bT):p9 F .ret (Bh a p f g h e b c d)=br (a==0) (some (((g,h),e,b,c,d),a,gp.aq)) (some (gp.aq,a,(p,f),e,b,c,d)):=by kernel_rfl
def Zp (p a w f k l:Int)(e:List Int)(b:List a6)(c:List bZ)(d:List bT)(g:List Int)(h:List a6)(i:List bZ)(j:List bT):p9 F (.exit 0) (Ld p a w f k l e b c d g h i j)=some (gp.aq,3,(p,a),e,b,c,d):=by kernel_rfl
def GR (w:nx)(a:Int):Option (nx×Int×nx):=anK Tryz.prog (look yj) F yk f188 [(gp,true),(.int .i64,false)] 0 (gp,true) (.int .i64,false) (gp,true) (w,a,())
def ah8 (w:nx)(a:Int):GR F w a=ck (bN a (w.2.2.1.length:Int)) (yl F (p9 F) F.n (p8 a (ai (((ay w.2.2.1 a bD.aq).2.2.2.2.2.1.length:Int)-1)) w.1.1 w.1.2 w.1.1 w.1.2 0 0 (ay w.2.2.1 a bD.aq).1 (ay w.2.2.1 a bD.aq).2.1 (ay w.2.2.1 a bD.aq).2.2.1 (ay w.2.2.1 a bD.aq).2.2.2.1.1 (ay w.2.2.1 a bD.aq).2.2.2.1.2.1 (ay w.2.2.1 a bD.aq).2.2.2.1.2.2.1.1 (ay w.2.2.1 a bD.aq).2.2.2.1.2.2.1.2.1 (ay w.2.2.1 a bD.aq).2.2.2.1.2.2.1.2.2 (ay w.2.2.1 a bD.aq).2.2.2.1.2.2.2 (ay w.2.2.1 a bD.aq).2.2.2.2.1 (ay w.2.2.1 a bD.aq).2.2.2.2.2.1 (ay w.2.2.1 a bD.aq).2.2.2.2.2.2.1.1 (ay w.2.2.1 a bD.aq).2.2.2.2.2.2.1.2 (ay w.2.2.1 a bD.aq).2.2.2.2.2.2.2 w.2.1 w.2.2.1 w.2.2.2.1 w.2.2.2.2 [] [] [] [])):=by kernel_rfl
def Ol:Any:=.sel ⟨[(gp,true),(.int .i64,false)],0,(gp,true),(.int .i64,false),(gp,true),fun x=>GR F0 x.1 x.2.1⟩
def ah9:aX 188 Ol:=ok4 (show wb Tryz.prog TB yj from⟨aoo,trivial⟩) func188 (by kernel_rfl) (by kernel_rfl) yk (by kernel_rfl) (by kernel_rfl)
def XP:=[(53,fY),(58,iA),(100,kV),(125,mO)]
abbrev ayQ:List (Ty×Bool):=[(K14,true),(.int .i64,false)]
def Lf (d:D14)(keep:Int):=bh XP F ab f189 ayQ nW 2 (d,keep,())
def alp (d:D14)(keep:Int):Lf F d keep=(gV F0 d).bind fun b=>(lW F0 d).bind fun c=>br (!c.1) (some (b.1,())) ((bE F0 keep (ai ((d.1.length:Int)-d.2))).bind fun e=>(dz F0 0 e.1).bind fun a=>ck (QN 0 (ai (d.2+a.1)) (d.1.length:Int)) (ck (ee F 0 ((d.1.take (ai (d.2+a.1)).toNat).drop (0:Int).toNat).length 1) (some (([]++((d.1.take (ai (d.2+a.1)).toNat).drop (0:Int).toNat),ai (d.2+a.1)),())))):=by kernel_rfl
def RH:Any:=.one ⟨ayQ,nW,2,fun x=>Lf F0 x.1 x.2.1⟩
def alq:aX 189 RH:=aw XP ⟨j7,nC,tc,wF,trivial⟩ func189 ab (by kernel_rfl)
def P2: Option (Args Aq):=bh aB F ab f293 [] Aq 2 (())
def aia: P2 F= some ((0,0,(0,aj,[]),aj),()):=by kernel_rfl
def Om:Any:=.one ⟨[],Aq,2,fun x=>P2 F0⟩
def aib:aX 293 Om:=aw aB trivial func293 ab (by kernel_rfl)
def XQ:=[(122,gB),(127,mP),(128,pL),(129,Ix)]
def Lg (c:D1)(b:List Int):=bh XQ F ab f294 Q4 age 2 (c,b,())
def alr (c:D1)(b:List Int):Lg F c b=(cH F0 (b,0,true)).bind fun d=>(cH F0 d.2.1).bind fun e=>(AY F0 e.2.1).bind fun f=>(l7 F0 f.2.1).bind fun a=>br (!a.2.1.2.2) (some ((0,0,(0,aj,[]),aj),false,())) (br (a.2.1.2.1 != (b.length:Int)) (some ((0,0,(0,aj,[]),aj),false,())) ((hO F0 c (d.1.1,e.1.1,f.1.1,a.1.1)).bind fun g=>br (!g.1) (some ((0,0,(0,aj,[]),aj),false,())) (some ((d.1.1,e.1.1,f.1.1,a.1.1),true,())))):=by kernel_rfl
def RI:Any:=.one ⟨Q4,age,2,fun x=>Lg F0 x.1 x.2.1⟩
def als:aX 294 RI:=aw XQ ⟨kJ,wL,EE,Xu,trivial⟩ func294 ab (by kernel_rfl)
def tM:=[(198,sY),(293,Om),(294,RI)]
def tN:Nat->Option Hint:=look [(3,{live:=[1,2,4,6,7],vW:=[(4,4,3,.int .i64)],rl:=[4,5]})]
def oe (b:List Int)(a c d j k l:Int)(m o:ByteArray)(p e f:Int)(g h:ByteArray)(q i:List Int):= di 62 [(1,hM 5 (.int .u8) b),b0 2,b0 4,b0 6,(7,bp a)] [(2,[an c,an d]),(4,[an j,an k,an l,.str m,.own 1000000 none,.str o]),(6,[an p,an e,an f,.str g,.own 1000001 none,.str h])] [ax 1000000 3 (.int .i64) q,ax 1000001 3 (.int .i64) i]
def jL (a b c d:Int)(e f:ByteArray)(g:List Int):= di 62 [b0 4,(5,bp a)] [(4,[an b,an c,an d,.str e,.own 1000000 none,.str f])] [ax 1000000 3 (.int .i64) g]
def tO (a:St):Option U:=fp tM F tN [.r,.r,.r,.b,.i] f248 J n a
abbrev apR:List (Ty×Bool):=[(K12,true),(.int .i64,false)]
def ym:=gU tM F tN [.r,.r,.r,.b] f248 apR 2
def DH (b:List Int)(e c l m o p:Int)(q r:ByteArray)(k f g:Int)(h i:ByteArray)(s j:List Int):tO F J (n+1) (oe b e c l m o p q r k f g h i s j)=(jF F0 b e).bind fun a=>br (!a.2.2.1) (J .ret (jL e k f g h i j)) (br (decide (a.1>=(ai ((b.length:Int)-a.2.1)))) (J .ret (jL e k f g h i j)) (ck (bN (ai (a.2.1+a.1)) (b.length:Int)) (br ((ay b (ai (a.2.1+a.1)) 0) != 10) (J .ret (jL e k f g h i j)) (ck (QN a.2.1 (ai (a.2.1+a.1)) (b.length:Int)) ((Lg F0 (c,l) ((b.take (ai (a.2.1+a.1)).toNat).drop a.2.1.toNat)).bind fun d=>br (!d.2.1) (J .ret (jL e k f g h i j)) (tO F J n (oe b (ai ((ai (a.2.1+a.1))+1)) c l m o p q r d.1.1 d.1.2.1 d.1.2.2.1.1 d.1.2.2.1.2.1 d.1.2.2.2 s d.1.2.2.1.2.2))))))):=by kernel_rfl
def I4 (a b c d:Int)(e f:ByteArray)(g:List Int):ym F .ret (jL a b c d e f g)=some ((b,c,(d,e,g),f),a,()):=by kernel_rfl
def CC (c:D1)(b:List Int):=bh tM F tN f248 Q4 apR 2 (c,b,())
def aec (c:D1)(b:List Int):CC F c b=(P2 F0).bind fun a=>tO F (ym F) F.n (oe b 0 c.1 c.2 0 0 0 aj aj a.1.1 a.1.2.1 a.1.2.2.1.1 a.1.2.2.1.2.1 a.1.2.2.2 [] a.1.2.2.1.2.2):=by kernel_rfl
def Lh:Any:=.one ⟨Q4,apR,2,fun x=>CC F0 x.1 x.2.1⟩
def aed:aX 248 Lh:=aw tM ⟨Iv,aib,als,trivial⟩ func248 tN (by kernel_rfl)
def agm:=[(51,bS),(53,fY),(58,iA),(64,cn),(248,Lh)]
def On (c:D1)(r:a6):=bh agm F ab f190 An Q7 2 (c,r,())
def arR (c:D1)(r:a6):On F c r=(dj F0 c r).bind fun b=>br (!b.1) ((aW F0 r).bind fun d=>some (d.1,())) ((CC F0 c r.2.2.2.2.2.2.1.1).bind fun a=>(dz F0 a.1.1 (ai (a.1.2.2.1.1+1))).bind fun e=>(dz F0 e.1 1).bind fun f=>(bE F0 60 f.1).bind fun g=>ck (QN 0 a.2.1 (r.2.2.2.2.2.2.1.1.length:Int)) (ck (ee F 0 ((r.2.2.2.2.2.2.1.1.take a.2.1.toNat).drop (0:Int).toNat).length 1) (some ((r.1,g.1,0,a.1,[],[],([]++((r.2.2.2.2.2.2.1.1.take a.2.1.toNat).drop (0:Int).toNat),a.2.1),[]),())))):=by kernel_rfl
def XR:Any:=.one ⟨An,Q7,2,fun x=>On F0 x.1 x.2.1⟩
def arS:aX 190 XR:=aw agm ⟨cl,j7,nC,cP,aed,trivial⟩ func190 ab (by kernel_rfl)
def agn:=[(51,bS),(64,cn),(102,hS),(249,jJ),(250,k5)]
def VP (c:D1)(r:a6):=bh agn F ab f191 An fK 2 (c,r,())
def arT (c:D1)(r:a6):VP F c r=(aW F0 r).bind fun a=>(dj F0 c r).bind fun f=>br (!f.1) (some (a.1,false,())) (br (decide (r.2.1>=60)) (some (a.1,false,())) ((kY F0 c (ai (r.2.1+1))).bind fun b=>br (b.1==r.1) ((eM F0 c a.1.2.2.2.2.2.1 (ai (r.2.1+1),aj,[r.1])).bind fun d=>br (!d.2.1) ((aW F0 r).bind fun g=>some (g.1,false,())) (some ((a.1.1,ai (r.2.1+1),a.1.2.2.1,a.1.2.2.2.1,a.1.2.2.2.2.1,d.1,a.1.2.2.2.2.2.2),true,()))) ((eT F0 c (a.1.1,ai (r.2.1+1),a.1.2.2) b.1 (3,ai (r.2.1+1),(aj,0,aj,[]),(0,aj,[]),r.2.2.2.1.2.2.1,r.1,0,0,0,0)).bind fun e=>br (!e.1.2.1) ((aW F0 r).bind fun h=>some (h.1,false,())) (some (e.1.1,true,()))))):=by kernel_rfl
def XS:Any:=.one ⟨An,fK,2,fun x=>VP F0 x.1 x.2.1⟩
def arU:aX 191 XS:=aw agn ⟨cl,cP,l9,pZ,tF,trivial⟩ func191 ab (by kernel_rfl)
def XT:=[(51,bS),(183,MR),(186,RD),(187,Ok),(188,Ol),(189,RH),(190,XR),(191,XS)]
def Li (w:nx)(d:D45):Option (nx×Int×nx):=anK Tryz.prog (look XT) F ab f117 [(gp,true),(K45,true)] 0 (gp,true) (.int .i64,false) (gp,true) (w,d,())
def alu (w:nx)(d:D45):Li F w d=ck (bN d.2.1 (w.2.2.1.length:Int)) (br (d.1==1) ((K0 F0 w d.2.1).bind fun b=>br (b.2.1==0) (some (b.1,0,gp.aq)) (br (b.2.1==0) (none) (some (gp.aq,b.2.1,w.1,b.2.2.2)))) (br (d.1==2) ((GQ F0 w d.2.1).bind fun c=>br (c.2.1==0) (some (c.1,0,gp.aq)) (br (c.2.1==0) (none) (some (gp.aq,c.2.1,w.1,c.2.2.2)))) (br (d.1==6) ((GR F0 w d.2.1).bind fun e=>br (e.2.1==0) (some (e.1,0,gp.aq)) (br (e.2.1==0) (none) (some (gp.aq,e.2.1,w.1,e.2.2.2)))) (br (d.1==8) ((aW F0 (ay w.2.2.1 d.2.1 bD.aq)).bind fun a=>(Lf F0 (ay w.2.2.1 d.2.1 bD.aq).2.2.2.2.2.2.1 d.2.2.1).bind fun h=>(On F0 w.1 (a.1.1,a.1.2.1,a.1.2.2.1,a.1.2.2.2.1,a.1.2.2.2.2.1,a.1.2.2.2.2.2.1,h.1,a.1.2.2.2.2.2.2.2)).bind fun i=>ck (bN d.2.1 (w.2.2.1.length:Int)) (some ((w.1,w.2.1,w.2.2.1.set d.2.1.toNat i.1,w.2.2.2),0,gp.aq))) (br (d.1==7) ((VP F0 w.1 (ay w.2.2.1 d.2.1 bD.aq)).bind fun f=>br (!f.2.1) (some (gp.aq,3,w)) (ck (bN d.2.1 (w.2.2.1.length:Int)) (some ((w.1,w.2.1,w.2.2.1.set d.2.1.toNat f.1,w.2.2.2),0,gp.aq)))) ((Oc F0 w.1 (ay w.2.2.1 d.2.1 bD.aq) d.2.2.2).bind fun g=>br (!g.2.1) (some (gp.aq,3,w)) (br (d.2.2.2.1 != 4) (some (gp.aq,3,w)) (ck (bN d.2.1 (w.2.2.1.length:Int)) (some ((w.1,w.2.1,w.2.2.1.set d.2.1.toNat g.1,w.2.2.2),0,gp.aq)))))))))):=by kernel_rfl
def RJ:Any:=.sel ⟨[(gp,true),(K45,true)],0,(gp,true),(.int .i64,false),(gp,true),fun x=>Li F0 x.1 x.2.1⟩
def alv:aX 117 RJ:=ok4 (show wb Tryz.prog TB XT from⟨cl,abr,alm,ah7,ah9,alq,arS,arU,trivial⟩) func117 (by kernel_rfl) (by kernel_rfl) ab (by kernel_rfl) (by kernel_rfl)
def XU:=[(55,cK),(114,Rv),(115,RC),(116,ER),(117,RJ)]
def Lj (w:nx)(d:D45):Option (nx×Int×nx):=anK Tryz.prog (look XU) F ab f59 [(gp,true),(K45,true)] 0 (gp,true) (.int .i64,false) (gp,true) (w,d,())
def alw (w:nx)(d:D45):Lj F w d=br (d.1==3) ((vy F0 w d).bind fun a=>br (a.2.1==0) (some (a.1,0,gp.aq)) (br (a.2.1==0) (none) (some (gp.aq,a.2.1,w.1,a.2.2.2)))) (br (d.1==4) ((vy F0 w d).bind fun a=>br (a.2.1==0) (some (a.1,0,gp.aq)) (br (a.2.1==0) (none) (some (gp.aq,a.2.1,w.1,a.2.2.2)))) (br (d.1==5) ((vy F0 w d).bind fun a=>br (a.2.1==0) (some (a.1,0,gp.aq)) (br (a.2.1==0) (none) (some (gp.aq,a.2.1,w.1,a.2.2.2)))) (br (d.1==10) ((KY F0 w d).bind fun b=>br (b.2.1==0) (some (b.1,0,gp.aq)) (br (b.2.1==0) (none) (some (gp.aq,b.2.1,w.1,b.2.2.2)))) ((DG F0 w).bind fun e=>(cQ F0 e.1 d.2.1).bind fun f=>br (!f.1) (some (gp.aq,2,w)) ((Li F0 w d).bind fun c=>br (c.2.1==0) (some (c.1,0,gp.aq)) (br (c.2.1==0) (none) (some (gp.aq,c.2.1,w.1,c.2.2.2)))))))):=by kernel_rfl
def RL:Any:=.sel ⟨[(gp,true),(K45,true)],0,(gp,true),(.int .i64,false),(gp,true),fun x=>Lj F0 x.1 x.2.1⟩
def alx:aX 59 RL:=ok4 (show wb Tryz.prog TB XU from⟨dA,alb,ali,Uc,alv,trivial⟩) func59 (by kernel_rfl) (by kernel_rfl) ab (by kernel_rfl) (by kernel_rfl)
def Uh:=[(59,RL)]
abbrev ago:List (Ty×Bool):=[(gp,true),(K45,true)]
def GS (w:nx)(d:D45):=Dp Uh F ab f24 ago 0 (.own true) fG [] 2 (w,d,())
def aic (w:nx)(d:D45):GS F w d=(Lj F0 w d).bind fun a=>br (a.2.1==0) (br (0 != 0) (none) (some ((a.1,()),()))) (br (a.2.1 != 0) (some (((w.1,a.2.2.2),()),())) (none)):=by kernel_rfl
def Oo:Any:=.two ⟨ago,0,(.own true),fG,2,[],fun x=>GS F0 x.1 x.2.1⟩
def aid:aX 24 Oo:=awv Uh ⟨alx,trivial⟩ func24 ab (by kernel_rfl)
def og:=[(18,Tr),(19,Ap),(20,A5),(21,dQ),(22,Q9),(23,DC),(24,Oo)]
def oh:Nat->Option Hint:=look [(7,{live:=[2,4,5,6,7,8,9],vW:=[(2,2,3,.int .i64),(2,3,50,bD),(2,4,102,eH),(2,5,95,c8)],xl:=[2,5,7],rl:=[2,3]})]
def kv (a i r s:Int)(t:List Int)(u v x b w c:Int)(y:List D45)(d:List Int)(e:List a6)(f:List bZ)(g:List bT)(h:List Int)(j:List a6)(k:List bZ)(l:List bT)(m:List Int)(o:List a6)(p:List bZ)(q:List bT):= di 39 [b0 2,(4,.v (.c (.ptr 12 0))),b0 5,b0 6,(7,.v (.c (.own 1000000 none))),(8,bp a),(9,bp i)] [(2,[an r,an s,.own 1000001 none,.own 1000002 none,.own 1000003 none,.own 1000004 none]),(12,[.ro false 5 (.int .u8) t,an u,an v]),(5,[an x,an b,.own 1000005 none,.own 1000006 none,.own 1000007 none,.own 1000008 none]),(6,[an w,an c,.own 1000009 none,.own 1000010 none,.own 1000011 none,.own 1000012 none])] [ax 1000000 67 K45 y,ax 1000001 3 (.int .i64) d,ax 1000002 50 bD e,ax 1000003 102 eH f,ax 1000004 95 c8 g,ax 1000005 3 (.int .i64) h,(1000006,some ⟨50,bD,j,false,true⟩),(1000007,some ⟨102,eH,k,false,true⟩),ax 1000008 95 c8 l,ax 1000009 3 (.int .i64) m,ax 1000010 50 bD o,ax 1000011 102 eH p,ax 1000012 95 c8 q]
def DI (j k l a:Int)(m:List D45)(b:List Int)(c:List a6)(d:List bZ)(e:List bT)(f:List Int)(g:List a6)(h:List bZ)(i:List bT):= di 39 [b0 2,b0 5,(7,.v (.c (.own 1000000 none)))] [(2,[an j,an k,.own 1000001 none,.own 1000002 none,.own 1000003 none,.own 1000004 none]),(5,[an l,an a,.own 1000005 none,.own 1000006 none,.own 1000007 none,.own 1000008 none])] [ax 1000000 67 K45 m,ax 1000001 3 (.int .i64) b,ax 1000002 50 bD c,ax 1000003 102 eH d,ax 1000004 95 c8 e,ax 1000005 3 (.int .i64) f,(1000006,some ⟨50,bD,g,false,true⟩),(1000007,some ⟨102,eH,h,false,true⟩),ax 1000008 95 c8 i]
def oi (a:St):Option U:=fp og F oh [.r,.r,.r,.r,.r,.r,.l,.r,.b,.i] f6 J n a
abbrev at4:List (Ty×Bool):=[(gp,true),(K46,false)]
def rZ:=gU og F oh [.r,.r,.r,.r,.r,.r,.l,.r,.b] f6 at4 0
def yn (d i u v:Int)(y:List Int)(z A x e w f:Int)(c:List D45)(g:List Int)(h:List a6)(j:List bZ)(k:List bT)(l:List Int)(m:List a6)(o:List bZ)(p:List bT)(q:List Int)(r:List a6)(s:List bZ)(t:List bT):oi F J (n+1) (kv d i u v y z A x e w f c g h j k l m o p q r s t)=br (decide (i<d)) ((pT F0 (y,z,A) ((w,f),q,r,s,t)).bind fun a=>ck (ee F c.length [a.1.1].length 240) ((GS F0 ((w,f),q,r,s,t) a.1.1).bind fun b=>oi F J n (kv d (ai (i+1)) u v a.2.1.1 a.2.1.2.1 a.2.1.2.2 x e b.1.1.1.1 b.1.1.1.2 (c++[a.1.1]) g h j k l m o p b.1.1.2.1 b.1.1.2.2.1 b.1.1.2.2.2.1 b.1.1.2.2.2.2))) (J (.exit 0) (DI u v x e c g h j k l m o p)):=by kernel_rfl
def SG (l m f a:Int)(g:List D45)(h:List Int)(i:List a6)(j:List bZ)(k:List bT)(b:List Int)(c:List a6)(d:List bZ)(e:List bT):rZ F (.exit 0) (DI l m f a g h i j k b c d e)=some (((f,a),b,c,d,e),g,()):=by kernel_rfl
def mU (a:List Int):=bh og F oh f6 kH at4 0 (a,())
def Zq (d:List Int):mU F d=(Ih F0 d).bind fun e=>(nY F0 e.1.1).bind fun a=>(wW F0 a.1.1).bind fun b=>(Kz F0 d 70 140).bind fun f=>(au F0 a.2.1 f.1).bind fun c=>oi F (rZ F) F.n (kv c.1.1 0 0 0 c.2.1.1 c.2.1.2.1 c.2.1.2.2 a.1.1.1.1 a.1.1.1.2 b.1.1.1 b.1.1.2 [] [] [] [] [] a.1.1.2.1 a.1.1.2.2.1 a.1.1.2.2.2.1 a.1.1.2.2.2.2 b.1.2.1 b.1.2.2.1 b.1.2.2.2.1 b.1.2.2.2.2):=by kernel_rfl
def FF:Any:=.one ⟨kH,at4,0,fun x=>mU F0 x.1⟩
def Zr:aX 6 FF:=aw og ⟨an2,TL,Q8,ff,akM,Wz,aid,trivial⟩ func6 oh (by kernel_rfl)
def dM (l:List Int):=bh aB F ab f25 iT iT 2 (l,())
def Bi (l:List Int):dM F l=ck (ee F 0 l.length 8) (some ([]++l,())):=by kernel_rfl
def eU:Any:=.one ⟨iT,iT,2,fun x=>dM F0 x.1⟩
def h9:aX 25 eU:=aw aB trivial func25 ab (by kernel_rfl)
def aU (a low high:Int):=bh aB F ab f42 ayh aS 1 (a,low,high,())
def aly (a low high:Int):aU F a low high=br (decide (a>=low)) (some (decide (a<=high),())) (some (false,())):=by kernel_rfl
def bn:Any:=.one ⟨ayh,aS,1,fun x=>aU F0 x.1 x.2.1 x.2.2.1⟩
def bQ:aX 42 bn:=aw aB trivial func42 ab (by kernel_rfl)
def XV:=[(42,bn)]
def dY (c:D1):=bh XV F ab f26 QR aS 1 (c,())
def alz (c:D1):dY F c=(aU F0 c.1 4 7).bind fun a=>br a.1 ((aU F0 c.2 1 6).bind fun b=>some (b.1,())) (some (false,())):=by kernel_rfl
def cL:Any:=.one ⟨QR,aS,1,fun x=>dY F0 x.1⟩
def dE:aX 26 cL:=aw XV ⟨bQ,trivial⟩ func26 ab (by kernel_rfl)
def qc: Option (Args fF):=bh aB F ab f162 [] fF 2 (())
def RM: qc F= some ((0,aj,[]),()):=by kernel_rfl
def Bj:Any:=.one ⟨[],fF,2,fun x=>qc F0⟩
def RN:aX 162 Bj:=aw aB trivial func162 ab (by kernel_rfl)
def gW:Nat->Option Hint:=look [(4,{live:=[0,1,12,13],rl:=[4]})]
def fN (a b:List Int)(c d:Int):= b2 26 [(0,hM 3 (.int .i64) a),(1,hM 3 (.int .i64) b),(12,bp c),(13,bp d)]
def sn (a:Bool):= b2 26 [(4,Pw a)]
def rP   := b2 26 []
def gX (a:St):Option U:=fp aB F gW [.r,.r,.l,.r,.b,.i] f222 J n a
def fO:=gU aB F gW [.r,.r,.l,.r,.b] f222 aS 1
def oj (b c:List Int)(d a:Int):gX F J (n+1) (fN b c d a)=br (decide (a<d)) (ck (bN a (b.length:Int)) (ck (bN a (c.length:Int)) (br ((ay b a 0) != (ay c a 0)) (J .ret (sn false)) (gX F J n (fN b c d (ai (a+1))))))) (J (.exit 0) (rP)):=by kernel_rfl
def J2 (a:Bool):fO F .ret (sn a)=some (a,()):=by kernel_rfl
def I5: fO F (.exit 0) (rP)=some (true,()):=by kernel_rfl
def gd (a b:List Int):=bh aB F gW f222 aaX aS 1 (a,b,())
def Oq (a b:List Int):gd F a b=br ((a.length:Int) != (b.length:Int)) (some (false,())) (gX F (fO F) F.n (fN a b (a.length:Int) 0)):=by kernel_rfl
def j9:Any:=.one ⟨aaX,aS,1,fun x=>gd F0 x.1 x.2.1⟩
def vA:aX 222 j9:=aw aB trivial func222 gW (by kernel_rfl)
def XW:=[(222,j9)]
def hU (a b:D9):=bh XW F ab f161 vq aS 1 (a,b,())
def Ui (a b:D9):hU F a b=br (a.1==b.1) (br (a.2.1.toList==b.2.1.toList) ((gd F0 a.2.2 b.2.2).bind fun c=>some (c.1,())) (some (false,()))) (some (false,())):=by kernel_rfl
def jo:Any:=.one ⟨vq,aS,1,fun x=>hU F0 x.1 x.2.1⟩
def o4:aX 161 jo:=aw XW ⟨vA,trivial⟩ func161 ab (by kernel_rfl)
def aby:=[(213,Ke)]
def uQ (s:ByteArray)(a:Int):=bh aby F ab f147 Xb atY 1 (s,a,())
def aop (s:ByteArray)(a:Int):uQ F s a=(strings_Split F0 s (strOf [a])).bind fun b=>some (b.1,()):=by kernel_rfl
def I6:Any:=.one ⟨Xb,atY,1,fun x=>uQ F0 x.1 x.2.1⟩
def XX:aX 147 I6:=aw aby ⟨adw,trivial⟩ func147 ab (by kernel_rfl)
end
end Go.Am.Tryz
namespace Go.Am.Tryz
open Go.Am Go.Proofs Go.Proofs.Tryz
noncomputable section
variable {U:Type} (F:nT) (J:Ex->St->Option U) (n:Nat)
def XY:=[(259,Nr)]
def jM (a:Int):=bh XY F ab f215 cX dt 1 (a,())
def alA (a:Int):jM F a=(strconv_Itoa F0 a).bind fun b=>some (b.1,()):=by kernel_rfl
def tP:Any:=.one ⟨cX,dt,1,fun x=>jM F0 x.1⟩
def I7:aX 215 tP:=aw XY ⟨ahc,trivial⟩ func215 ab (by kernel_rfl)
def CD:=[(215,tP)]
def CE:Nat->Option Hint:=look [(5,{live:=[0,4,5],xl:=[0,4],rl:=[2,3]})]
def tQ (s:ByteArray)(a i:Int):= b2 43 [(0,W8 s),(4,bp a),(5,bp i)]
def ES (a:Int)(b:Bool):= b2 43 [(2,bp a),(3,Pw b)]
def Ot (s:ByteArray)(a:Int):= b2 43 [(0,W8 s),(4,bp a)]
def CF (a:St):Option U:=fp CD F CE [.r,.r,.r,.l,.r,.b,.i] f149 J n a
def tR:=gU CD F CE [.r,.r,.r,.l,.r,.b] f149 apH 1
def I8 (s:ByteArray)(a i:Int):CF F J (n+1) (tQ s a i)=br (decide (i<(s.size:Int))) (ck (bN i (s.size:Int)) (br (decide ((iq s i)<48)) (J .ret (ES 0 false)) (ck (bN i (s.size:Int)) (br (decide ((iq s i)>57)) (J .ret (ES 0 false)) (ck (bN i (s.size:Int)) (CF F J n (tQ s (ai ((ai (10*a))+(ai (IntKind.wrap .u8 ((iq s i)-48))))) (ai (i+1))))))))) (J (.exit 0) (Ot s a)):=by kernel_rfl
def aee (a:Int)(b:Bool):tR F .ret (ES a b)=some (a,b,()):=by kernel_rfl
def abz (s:ByteArray)(a:Int):tR F (.exit 0) (Ot s a)=(jM F0 a).bind fun b=>br (!(b.1.toList==s.toList)) (some (0,false,())) (some (a,true,())):=by kernel_rfl
def lY (s:ByteArray):=bh CD F CE f149 dt apH 1 (s,())
def alB (s:ByteArray):lY F s=br (decide ((s.size:Int)<1)) (some (0,false,())) (br (decide ((s.size:Int)>6)) (some (0,false,())) (CF F (tR F) F.n (tQ s 0 0))):=by kernel_rfl
def ET:Any:=.one ⟨dt,apH,1,fun x=>lY F0 x.1⟩
def Uj:aX 149 ET:=aw CD ⟨I7,trivial⟩ func149 CE (by kernel_rfl)
def agp:=[(42,bn)]
def nG (x:D4):=bh agp F ab f139 Xe aS 1 (x,())
def arV (x:D4):nG F x=(aU F0 x.1 0 3).bind fun a=>br a.1 ((aU F0 x.2.1 0 3).bind fun b=>br b.1 ((aU F0 x.2.2.1 0 1000).bind fun c=>br c.1 ((aU F0 x.2.2.2 0 99).bind fun d=>some (d.1,())) (some (false,()))) (some (false,()))) (some (false,())):=by kernel_rfl
def hV:Any:=.one ⟨Xe,aS,1,fun x=>nG F0 x.1⟩
def me:aX 139 hV:=aw agp ⟨bQ,trivial⟩ func139 ab (by kernel_rfl)
def XZ:=[(139,hV),(215,tP)]
def DJ (x:D4):=bh XZ F ab f260 Xe dt 1 (x,())
def alC (x:D4):DJ F x=(nG F0 x).bind fun e=>br (!e.1) (some (aj,())) ((jM F0 x.1).bind fun a=>ck (okC F a.1.size (ByteArray.mk #[62]).size) ((jM F0 x.2.1).bind fun b=>ck (okC F (a.1++(ByteArray.mk #[62])).size b.1.size) (ck (okC F ((a.1++(ByteArray.mk #[62]))++b.1).size (ByteArray.mk #[58]).size) ((jM F0 x.2.2.1).bind fun c=>ck (okC F (((a.1++(ByteArray.mk #[62]))++b.1)++(ByteArray.mk #[58])).size c.1.size) (ck (okC F ((((a.1++(ByteArray.mk #[62]))++b.1)++(ByteArray.mk #[58]))++c.1).size (ByteArray.mk #[35]).size) ((jM F0 x.2.2.2).bind fun d=>ck (okC F (((((a.1++(ByteArray.mk #[62]))++b.1)++(ByteArray.mk #[58]))++c.1)++(ByteArray.mk #[35])).size d.1.size) (some ((((((a.1++(ByteArray.mk #[62]))++b.1)++(ByteArray.mk #[58]))++c.1)++(ByteArray.mk #[35]))++d.1,())))))))):=by kernel_rfl
def EU:Any:=.one ⟨Xe,dt,1,fun x=>DJ F0 x.1⟩
def Uk:aX 260 EU:=aw XZ ⟨me,I7,trivial⟩ func260 ab (by kernel_rfl)
def agq:=[(139,hV),(148,Eu),(149,ET),(260,EU)]
def VQ (s:ByteArray):=bh agq F ab f216 dt ayi 1 (s,())
def arW (s:ByteArray):VQ F0 s=(strings_Cut F0 s (ByteArray.mk #[62])).bind fun b=>(strings_Cut F0 b.2.1 (ByteArray.mk #[58])).bind fun c=>(strings_Cut F0 c.2.1 (ByteArray.mk #[35])).bind fun a=>ck (bN 0 4) ((lY F0 (ay [b.1,c.1,a.1,a.2.1] 0 ByteArray.empty)).bind fun d=>ck (bN 1 4) ((lY F0 (ay [b.1,c.1,a.1,a.2.1] 1 ByteArray.empty)).bind fun e=>ck (bN 2 4) ((lY F0 (ay [b.1,c.1,a.1,a.2.1] 2 ByteArray.empty)).bind fun f=>ck (bN 3 4) ((lY F0 (ay [b.1,c.1,a.1,a.2.1] 3 ByteArray.empty)).bind fun g=>(nG F0 (d.1,e.1,f.1,g.1)).bind fun h=>br (!h.1) (some ((0,0,0,0),false,())) ((DJ F0 (d.1,e.1,f.1,g.1)).bind fun i=>br (!(i.1.toList==s.toList)) (some ((0,0,0,0),false,())) (some ((d.1,e.1,f.1,g.1),true,()))))))):=by kernel_rfl
def X0:Any:=.one ⟨dt,ayi,1,fun x=>VQ F0 x.1⟩
def arX:aX 216 X0:=aw agq ⟨me,Tn,Uj,Uk,trivial⟩ func216 ab (by kernel_rfl)
def GU:=[(147,I6),(216,X0)]
def GV:Nat->Option Hint:=look [(5,{live:=[4,12,13,14],mat:=[(4,63,K4)],xl:=[4],rl:=[2,3]})]
def yo (a:List ByteArray)(b c:Int)(d:List D4):= di 31 [(4,.v (.c (.own 1000000 none))),(12,.v (.c (.ro true 9 (.str) a))),(13,bp b),(14,bp c)] [] [ax 1000000 63 K4 d]
def Ul (a:Bool):= b2 31 [(2,.v (.c (.nil))),(3,Pw a)]
def RP (a:List D4):= di 31 [(4,.v (.c (.own 1000000 none)))] [] [ax 1000000 63 K4 a]
def GW (a:St):Option U:=fp GU F GV [.r,.r,.r,.l,.r,.b,.i] f150 J n a
def yp:=gU GU F GV [.r,.r,.r,.l,.r,.b] f150 Tx 2
def Lk (b:List ByteArray)(e a:Int)(c:List D4):GW F J (n+1) (yo b e a c)=br (decide (a<e)) (ck (bN a (b.length:Int)) ((VQ F0 (ay b a ByteArray.empty)).bind fun d=>br (!d.2.1) (J .ret (Ul false)) (ck (ee F c.length [d.1].length 32) (GW F J n (yo b e (ai (a+1)) (c++[d.1])))))) (J (.exit 0) (RP c)):=by kernel_rfl
def aie (a:Bool):yp F .ret (Ul a)=some ([],a,()):=by kernel_rfl
def aef (a:List D4):yp F (.exit 0) (RP a)=some (a,true,()):=by kernel_rfl
def I9 (s:ByteArray):=bh GU F GV f150 dt Tx 2 (s,())
def aoq (s:ByteArray):I9 F s=br (s.toList==aj.toList) (some ([],true,())) ((uQ F0 s 44).bind fun a=>GW F (yp F) F.n (yo a.1 (a.1.length:Int) 0 [])):=by kernel_rfl
def Um:Any:=.one ⟨dt,Tx,2,fun x=>I9 F0 x.1⟩
def aor:aX 150 Um:=aw GU ⟨XX,arX,trivial⟩ func150 GV (by kernel_rfl)
def GX:=[(42,bn),(147,I6),(148,Eu),(149,ET),(150,Um)]
def GY:Nat->Option Hint:=look [(9,{live:=[5,6,31,32,33],mat:=[(5,128,K6)],xl:=[5],rl:=[2,3]})]
def yq (a:Int)(b:List ByteArray)(c d:Int)(e:List D6):= di 84 [(5,.v (.c (.own 1000000 none))),(6,bp a),(31,.v (.c (.ro true 9 (.str) b))),(32,bp c),(33,bp d)] [] [ax 1000000 128 K6 e]
def k9 (a:Bool):= b2 84 [(2,.v (.c (.nil))),(3,Pw a)]
def RQ (a:List D6):= di 84 [(5,.v (.c (.own 1000000 none)))] [] [ax 1000000 128 K6 a]
def GZ (a:St):Option U:=fp GX F GY [.r,.r,.r,.r,.r,.r,.l,.r,.b,.i] f80 J n a
def yr:=gU GX F GY [.r,.r,.r,.r,.r,.r,.l,.r,.b] f80 apI 2
def Ll (h:Int)(d:List ByteArray)(g b:Int)(e:List D6):GZ F J (n+1) (yq h d g b e)=br (decide (b<g)) (ck (bN b (d.length:Int)) ((strings_Cut F0 (ay d b ByteArray.empty) (ByteArray.mk #[124])).bind fun f=>(lY F0 f.1).bind fun a=>(I9 F0 f.2.1).bind fun c=>br (!f.2.2.1) (J .ret (k9 false)) (br (!a.2.1) (J .ret (k9 false)) (br (!c.2.1) (J .ret (k9 false)) ((aU F0 a.1 (ai (h+1)) 60).bind fun i=>br (!i.1) (J .ret (k9 false)) (br (decide ((c.1.length:Int)>2)) (J .ret (k9 false)) (ck (ee F e.length [(a.1,c.1)].length 32) (GZ F J n (yq a.1 d g (ai (b+1)) (e++[(a.1,c.1)])))))))))) (J (.exit 0) (RQ e)):=by kernel_rfl
def aif (a:Bool):yr F .ret (k9 a)=some ([],a,()):=by kernel_rfl
def aeg (a:List D6):yr F (.exit 0) (RQ a)=some (a,true,()):=by kernel_rfl
def o5 (s:ByteArray):=bh GX F GY f80 dt apI 2 (s,())
def aos (s:ByteArray):o5 F s=br (s.toList==aj.toList) (some ([],true,())) ((uQ F0 s 47).bind fun a=>ck (bN 0 (a.1.length:Int)) (br (!((ay a.1 0 ByteArray.empty).toList==aj.toList)) (some ([],false,())) (br (decide ((ai ((a.1.length:Int)-1))>30)) (some ([],false,())) (ck (QN 1 (a.1.length:Int) (a.1.length:Int)) (GZ F (yr F) F.n (yq 0 ((a.1.take (a.1.length:Int).toNat).drop (1:Int).toNat) (((a.1.take (a.1.length:Int).toNat).drop (1:Int).toNat).length:Int) 0 [])))))):=by kernel_rfl
def o6:Any:=.one ⟨dt,apI,2,fun x=>o5 F0 x.1⟩
def CG:aX 80 o6:=aw GX ⟨bQ,XX,Tn,Uj,aor,trivial⟩ func80 GY (by kernel_rfl)
def X1:=[(80,o6)]
def eC (s:ByteArray):=bh X1 F ab f39 dt aS 1 (s,())
def alD (s:ByteArray):eC F s=(o5 F0 s).bind fun a=>some (a.2.1,()):=by kernel_rfl
def eu:Any:=.one ⟨dt,aS,1,fun x=>eC F0 x.1⟩
def gf:aX 39 eu:=aw X1 ⟨CG,trivial⟩ func39 ab (by kernel_rfl)
def X2:=[(80,o6)]
def dZ (s:ByteArray):=bh X2 F ab f62 dt cX 1 (s,())
def alE (s:ByteArray):dZ F s=(o5 F0 s).bind fun a=>br ((a.1.length:Int)==0) (some (0,())) (ck (bN (ai ((a.1.length:Int)-1)) (a.1.length:Int)) (some ((ay a.1 (ai ((a.1.length:Int)-1)) (0,[])).1,()))):=by kernel_rfl
def dN:Any:=.one ⟨dt,cX,1,fun x=>dZ F0 x.1⟩
def eV:aX 62 dN:=aw X2 ⟨CG,trivial⟩ func62 ab (by kernel_rfl)
def G0:Nat->Option Hint:=look [(2,{live:=[0,1,7,8,9],rl:=[4]})]
def o7 (a:Int)(s b:List Int)(c d:Int):= b2 35 [(0,bp a),(1,hM 3 (.int .i64) s),(7,hM 3 (.int .i64) b),(8,bp c),(9,bp d)]
def yt (a:Bool):= b2 35 [(4,Pw a)]
def RR   := b2 35 []
def yu (a:St):Option U:=fp aB F G0 [.r,.l,.r,.b,.i] f60 J n a
def yv:=gU aB F G0 [.r,.l,.r,.b] f60 aS 1
def Lm (c:Int)(s b:List Int)(d a:Int):yu F J (n+1) (o7 c s b d a)=br (decide (a<d)) (ck (bN a (b.length:Int)) (br (decide ((ay b a 0)<0)) (J .ret (yt false)) (br (decide ((ay b a 0)>=c)) (J .ret (yt false)) (br (decide (a>0)) (ck (bN (ai (a-1)) (s.length:Int)) (br (decide ((ay s (ai (a-1)) 0)>=(ay b a 0))) (J .ret (yt false)) (yu F J n (o7 c s b d (ai (a+1)))))) (yu F J n (o7 c s b d (ai (a+1)))))))) (J (.exit 0) (RR)):=by kernel_rfl
def aih (a:Bool):yv F .ret (yt a)=some (a,()):=by kernel_rfl
def aeh: yv F (.exit 0) (RR)=some (true,()):=by kernel_rfl
def uR (a:Int)(s:List Int):=bh aB F G0 f60 ayj aS 1 (a,s,())
def aot (a:Int)(s:List Int):uR F a s=yu F (yv F) F.n (o7 a s s (s.length:Int) 0):=by kernel_rfl
def yw:Any:=.one ⟨ayj,aS,1,fun x=>uR F0 x.1 x.2.1⟩
def MS:aX 60 yw:=aw aB trivial func60 G0 (by kernel_rfl)
def X3:=[(26,cL)]
def DK (c:D1):=bh X3 F ab f41 QR cX 1 (c,())
def alF (c:D1):DK F c=(dY F0 c).bind fun a=>br (!a.1) (some (0,())) (some (ai (Int.tdiv (ai (c.1-1)) 3),())):=by kernel_rfl
def EV:Any:=.one ⟨QR,cX,1,fun x=>DK F0 x.1⟩
def Un:aX 41 EV:=aw X3 ⟨dE,trivial⟩ func41 ab (by kernel_rfl)
def X4:=[(26,cL),(41,EV)]
def vB (c:D1):=bh X4 F ab f14 QR cX 1 (c,())
def alG (c:D1):vB F c=(dY F0 c).bind fun a=>br (!a.1) (some (0,())) ((DK F0 c).bind fun b=>some (ai (c.1-b.1),())):=by kernel_rfl
def tS:Any:=.one ⟨QR,cX,1,fun x=>vB F0 x.1⟩
def Ja:aX 14 tS:=aw X4 ⟨dE,Un,trivial⟩ func14 ab (by kernel_rfl)
def agr:=[(14,tS),(26,cL),(39,eu),(60,yw),(62,dN),(161,jo),(162,Bj)]
def la (c:D1)(q:D9):=bh agr F ab f138 Ff aS 1 (c,q,())
def arY (c:D1)(q:D9):la F c q=(dY F0 c).bind fun a=>br (!a.1) (some (false,())) ((qc F0).bind fun b=>(hU F0 q b.1).bind fun d=>br d.1 (some (true,())) (br (decide (q.1>=1)) ((eC F0 q.2.1).bind fun e=>br e.1 ((dZ F0 q.2.1).bind fun f=>br (q.1==f.1) ((uR F0 c.1 q.2.2).bind fun g=>br g.1 ((vB F0 c).bind fun h=>some (decide ((q.2.2.length:Int)>=h.1),())) (some (false,()))) (some (false,()))) (some (false,()))) (some (false,())))):=by kernel_rfl
def hX:Any:=.one ⟨Ff,aS,1,fun x=>la F0 x.1 x.2.1⟩
def mf:aX 138 hX:=aw agr ⟨Ja,dE,gf,MS,eV,o4,RN,trivial⟩ func138 ab (by kernel_rfl)
def X5:=[(39,eu),(42,bn),(138,hX)]
def jN (c:D1)(s:SC):=bh X5 F ab f73 QY aS 1 (c,s,())
def alH (c:D1)(s:SC):jN F c s=(aU F0 s.1 0 60).bind fun a=>br a.1 ((aU F0 s.2.1 0 60).bind fun b=>br b.1 ((la F0 c s.2.2.1).bind fun d=>br d.1 ((eC F0 s.2.2.2).bind fun e=>some (e.1,())) (some (false,()))) (some (false,()))) (some (false,())):=by kernel_rfl
def jq:Any:=.one ⟨QY,aS,1,fun x=>jN F0 x.1 x.2.1⟩
def o8:aX 73 jq:=aw X5 ⟨gf,bQ,mf,trivial⟩ func73 ab (by kernel_rfl)
def CH (a b:D4):=bh aB F ab f140 ayk aS 1 (a,b,())
def aei (a b:D4):CH F a b=br (decide (a.1<b.1)) (some (true,())) (br (a.1==b.1) (some (decide (a.2.2.2<b.2.2.2),())) (some (false,()))):=by kernel_rfl
def Ln:Any:=.one ⟨ayk,aS,1,fun x=>CH F0 x.1 x.2.1⟩
def aej:aX 140 Ln:=aw aB trivial func140 ab (by kernel_rfl)
def CI:=[(139,hV),(140,Ln)]
def CJ:Nat->Option Hint:=look [(2,{live:=[0,5,6,7],xl:=[0],rl:=[2]})]
def mV (p a:List D4)(b c:Int):= b2 33 [(0,hM 63 (K4) p),(5,hM 63 (K4) a),(6,bp b),(7,bp c)]
def EW (a:Bool):= b2 33 [(2,Pw a)]
def Ou (p:List D4):= b2 33 [(0,hM 63 (K4) p)]
def so (a:St):Option U:=fp CI F CJ [.r,.l,.r,.b,.i] f74 J n a
def tT:=gU CI F CJ [.r,.l,.r,.b] f74 aS 1
def Jb (p b:List D4)(c a:Int):so F J (n+1) (mV p b c a)=br (decide (a<c)) (ck (bN a (b.length:Int)) ((nG F0 (ay b a K4.aq)).bind fun d=>br (!d.1) (J .ret (EW false)) (br (decide (a>0)) (ck (bN (ai (a-1)) (p.length:Int)) ((CH F0 (ay p (ai (a-1)) K4.aq) (ay b a K4.aq)).bind fun e=>br (!e.1) (J .ret (EW false)) (so F J n (mV p b c (ai (a+1)))))) (so F J n (mV p b c (ai (a+1))))))) (J (.exit 0) (Ou p)):=by kernel_rfl
def aek (a:Bool):tT F .ret (EW a)=some (a,()):=by kernel_rfl
def abA (p:List D4):tT F (.exit 0) (Ou p)=some (decide ((p.length:Int)<=12),()):=by kernel_rfl
def vC (p:D5):=bh CI F CJ f74 iP aS 1 (p,())
def alI (p:D5):vC F p=so F (tT F) F.n (mV p p (p.length:Int) 0):=by kernel_rfl
def EX:Any:=.one ⟨iP,aS,1,fun x=>vC F0 x.1⟩
def Uo:aX 74 EX:=aw CI ⟨me,aej,trivial⟩ func74 CJ (by kernel_rfl)
def X6:=[(26,cL),(39,eu),(42,bn),(60,yw),(62,dN)]
def o9 (c:D1)(p:D9):=bh X6 F ab f141 Ff aS 1 (c,p,())
def alJ (c:D1)(p:D9):o9 F c p=(dY F0 c).bind fun b=>br b.1 ((aU F0 p.1 1 60).bind fun d=>br d.1 (br (p.2.1.toList==aj.toList) ((uR F0 c.1 p.2.2).bind fun a=>br a.1 (some (decide ((p.2.2.length:Int)>0),())) (some (false,()))) ((eC F0 p.2.1).bind fun e=>br e.1 ((dZ F0 p.2.1).bind fun f=>br (f.1==p.1) ((uR F0 c.1 p.2.2).bind fun a=>br a.1 (some (decide ((p.2.2.length:Int)>0),())) (some (false,()))) (some (false,()))) (some (false,())))) (some (false,()))) (some (false,())):=by kernel_rfl
def mW:Any:=.one ⟨Ff,aS,1,fun x=>o9 F0 x.1 x.2.1⟩
def yx:aX 141 mW:=aw X6 ⟨dE,gf,bQ,MS,eV,trivial⟩ func141 ab (by kernel_rfl)
def CK (x:Int):=bh aB F ab f254 cX aS 1 (x,())
def Ov (x:Int):CK F x=some (x != x,()):=by kernel_rfl
def Lo:Any:=.one ⟨cX,aS,1,fun x=>CK F0 x.1⟩
def ael:aX 254 Lo:=aw aB trivial func254 ab (by kernel_rfl)
def Lp:=[(254,Lo)]
def tU (x y:Int):=bh Lp F ab f207 apJ cX 1 (x,y,())
def Zs (x y:Int):tU F x y=(CK F0 x).bind fun b=>(CK F0 y).bind fun a=>br b.1 (br a.1 (some (0,())) (some (-1,()))) (br a.1 (some (1,())) (br (decide (x<y)) (some (-1,())) (br (decide (x>y)) (some (1,())) (some (0,()))))):=by kernel_rfl
def FG:Any:=.one ⟨apJ,cX,1,fun x=>tU F0 x.1 x.2.1⟩
def Zt:aX 207 FG:=aw Lp ⟨ael,trivial⟩ func207 ab (by kernel_rfl)
def qJ (x:ByteArray):=bh aB F ab f255 dt aS 1 (x,())
def FH (x:ByteArray):qJ F x=some (!(x.toList==x.toList),()):=by kernel_rfl
def DL:Any:=.one ⟨dt,aS,1,fun x=>qJ F0 x.1⟩
def WB:aX 255 DL:=aw aB trivial func255 ab (by kernel_rfl)
def DM:=[(255,DL)]
def mg (x y:ByteArray):=bh DM F ab f208 XA cX 1 (x,y,())
def SH (x y:ByteArray):mg F x y=(qJ F0 x).bind fun b=>(qJ F0 y).bind fun a=>br b.1 (br a.1 (some (0,())) (some (-1,()))) (br a.1 (some (1,())) (br (Op.bytesLess x.toList y.toList) (some (-1,())) (br (!(Op.bytesLess x.toList y.toList || (x.toList==y.toList))) (some (1,())) (some (0,()))))):=by kernel_rfl
def yy:Any:=.one ⟨XA,cX,1,fun x=>mg F0 x.1 x.2.1⟩
def SJ:aX 208 yy:=aw DM ⟨WB,trivial⟩ func208 ab (by kernel_rfl)
def FI:=[(207,FG),(208,yy)]
def eW (a b:D9):=bh FI F ab f142 vq cX 1 (a,b,())
def DN (a b:D9):eW F a b=(tU F0 a.1 b.1).bind fun c=>br (c.1 != 0) (some (c.1,())) ((mg F0 a.2.1 b.2.1).bind fun d=>some (d.1,())):=by kernel_rfl
def nP:Any:=.one ⟨vq,cX,1,fun x=>eW F0 x.1 x.2.1⟩
def DO:aX 142 nP:=aw FI ⟨Zt,SJ,trivial⟩ func142 ab (by kernel_rfl)
def yz:=[(141,mW),(142,nP)]
def yA:Nat->Option Hint:=look [(2,{live:=[1,2,7,8,9],xl:=[1],rl:=[4]})]
def ld (b d:List D9)(e f c a:Int):= di 36 [(1,hM 61 (K9) b),b0 2,(7,hM 61 (K9) d),(8,bp e),(9,bp f)] [(2,[an c,an a])] []
def Bk (a:Bool):= b2 36 [(4,Pw a)]
def Lq (a:List D9):= b2 36 [(1,hM 61 (K9) a)]
def pa (a:St):Option U:=fp yz F yA [.r,.l,.r,.b,.i] f75 J n a
def qU:=gU yz F yA [.r,.l,.r,.b] f75 aS 1
def FJ (b d:List D9)(f a c e:Int):pa F J (n+1) (ld b d f a c e)=br (decide (a<f)) (ck (bN a (d.length:Int)) ((o9 F0 (c,e) (ay d a K9.aq)).bind fun g=>br (!g.1) (J .ret (Bk false)) (br (decide (a>0)) (ck (bN (ai (a-1)) (b.length:Int)) ((eW F0 (ay b (ai (a-1)) K9.aq) (ay d a K9.aq)).bind fun h=>br (decide (h.1>=0)) (J .ret (Bk false)) (pa F J n (ld b d f (ai (a+1)) c e)))) (pa F J n (ld b d f (ai (a+1)) c e))))) (J (.exit 0) (Lq b)):=by kernel_rfl
def abB (a:Bool):qU F .ret (Bk a)=some (a,()):=by kernel_rfl
def Zu (a:List D9):qU F (.exit 0) (Lq a)=some (decide ((a.length:Int)<=20),()):=by kernel_rfl
def jO (c:D1)(a:D13):=bh yz F yA f75 ayl aS 1 (c,a,())
def aii (c:D1)(a:D13):jO F c a=pa F (qU F) F.n (ld a a (a.length:Int) 0 c.1 c.2):=by kernel_rfl
def Bl:Any:=.one ⟨ayl,aS,1,fun x=>jO F0 x.1 x.2.1⟩
def RS:aX 75 Bl:=aw yz ⟨yx,DO,trivial⟩ func75 yA (by kernel_rfl)
def X7:=[(42,bn)]
def pb (d:D14):=bh X7 F ab f76 nW aS 1 (d,())
def alK (d:D14):pb F d=br (decide ((d.1.length:Int)<=100000)) ((aU F0 d.2 0 (d.1.length:Int)).bind fun a=>some (a.1,())) (some (false,())):=by kernel_rfl
def mX:Any:=.one ⟨nW,aS,1,fun x=>pb F0 x.1⟩
def yB:aX 76 mX:=aw X7 ⟨bQ,trivial⟩ func76 ab (by kernel_rfl)
def abC:Nat->Option Hint:=look [(900008,{live:=[],mat:=[(1,0,K21)]})]
def P3 (m:MO):=bh aB F abC f144 vt vt 0 (m,())
def aou (m:MO):P3 F m=br (m.1==1) (some ((m.1,0,m.2.2.1,(0,aj,[]),(0,aj,[]),0,0,0,0,0),())) (br (m.1==2) (some ((m.1,0,(aj,0,aj,[]),m.2.2.2.1,(0,aj,[]),0,0,0,0,0),())) (br (m.1==3) (some ((m.1,m.2.1,(aj,0,aj,[]),(0,aj,[]),m.2.2.2.2.1,m.2.2.2.2.2.1,0,0,0,0),())) (br (m.1==4) (some ((m.1,0,(aj,0,aj,[]),(0,aj,[]),(0,aj,[]),0,m.2.2.2.2.2.2),())) (some ((m.1,0,(aj,0,aj,[]),(0,aj,[]),(0,aj,[]),0,0,0,0,0),()))))):=by kernel_rfl
def Up:Any:=.one ⟨vt,vt,0,fun x=>P3 F0 x.1⟩
def aov:aX 144 Up:=aw aB trivial func144 abC (by kernel_rfl)
def Ow:=[(161,jo)]
def yC (a b:D15):=bh Ow F ab f209 aym aS 1 (a,b,())
def abD (a b:D15):yC F a b=br (a.1.toList==b.1.toList) ((hU F0 a.2 b.2).bind fun c=>some (c.1,())) (some (false,())):=by kernel_rfl
def Jc:Any:=.one ⟨aym,aS,1,fun x=>yC F0 x.1 x.2.1⟩
def abE:aX 209 Jc:=aw Ow ⟨o4,trivial⟩ func209 ab (by kernel_rfl)
end
end Go.Am.Tryz
