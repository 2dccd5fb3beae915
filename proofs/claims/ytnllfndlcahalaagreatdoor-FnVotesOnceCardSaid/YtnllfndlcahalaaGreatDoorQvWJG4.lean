/- No condition. -/
import Derived.Test.YtnllfndlcahalaaGreatDoorQvWJG3
set_option linter.all false
set_option maxRecDepth 100000
namespace Go.Am.Tryz
open Go.Am Go.Proofs Go.Proofs.Tryz
noncomputable section
variable {U:Type} (F:p5) (J:Ex->St->Option U) (n:Nat)
def Ao:=[(266,Xm)]
def Ap:Nat->Option Hint:=look [(3,{live:=[1,2,4,6,7],yh:=[(4,2,3,.int .i64),(4,3,65,ca),(4,4,105,eo),(4,5,41,cl)],xl:=[2,4],rl:=[4,5]})]
def sq (a i p b w c C D r d e f g h:Int)(j:ByteArray)(k:List Int)(l:ByteArray)(m:List D4)(o:List D9)(q:List Int)(s:Int)(t:List lD)(E:List Int)(u:List a7)(v:List bS)(x:List bE)(y:List Int)(z:List a7)(A:List bS)(B:List bE):St:={nt:=59,tm:=[(1,a8 a),b0 2,b0 4,b0 6,(7,a8 i)],bx:=[(2,[ao w,ao c,.own 1000000 none,.own 1000001 none,.own 1000002 none,.own 1000003 none]),(4,[ao C,ao D,.own 1000004 none,.own 1000005 none,.own 1000006 none,.own 1000007 none]),(6,[ao r,ao d,ao e,ao f,ao g,ao h,.str j,.ro true 3 (.int .i64) k,.str l,.ro true 52 (K4) m,.ro true 50 (K9) o,.ro true 5 (.int .u8) q,ao s,.ro true 136 (p2) t])],bl:=[ay 1000000 3 (.int .i64) E,ay 1000001 65 ca u,ay 1000002 105 eo v,ay 1000003 41 cl x,ay 1000004 3 (.int .i64) y,ay 1000005 65 ca z,ay 1000006 105 eo A,ay 1000007 41 cl B],sp:=.v (.agg [ao p,ao b,.own 1000000 none,.own 1000001 none,.own 1000002 none,.own 1000003 none])}
def CO (e p a f g:Int)(h:List Int)(b:List a7)(c:List bS)(d:List bE):St:={nt:=59,tm:=[b0 4,(5,a8 e)],bx:=[(4,[ao f,ao g,.own 1000000 none,.own 1000001 none,.own 1000002 none,.own 1000003 none])],bl:=[ay 1000000 3 (.int .i64) h,ay 1000001 65 ca b,ay 1000002 105 eo c,ay 1000003 41 cl d],sp:=.v (.agg [ao p,ao a,.own 1000000 none,.own 1000001 none,.own 1000002 none,.own 1000003 none])}
def NL (p a w b j k:Int)(l:List Int)(c:List a7)(d:List bS)(e:List bE)(f:List Int)(g:List a7)(h:List bS)(i:List bE):St:={nt:=59,tm:=[b0 2,b0 4],bx:=[(2,[ao w,ao b,.own 1000000 none,.own 1000001 none,.own 1000002 none,.own 1000003 none]),(4,[ao j,ao k,.own 1000004 none,.own 1000005 none,.own 1000006 none,.own 1000007 none])],bl:=[ay 1000000 3 (.int .i64) l,ay 1000001 65 ca c,ay 1000002 105 eo d,ay 1000003 41 cl e,ay 1000004 3 (.int .i64) f,ay 1000005 65 ca g,ay 1000006 105 eo h,ay 1000007 41 cl i],sp:=.v (.agg [ao p,ao a,.own 1000000 none,.own 1000001 none,.own 1000002 none,.own 1000003 none])}
def Aq (a:St):Option U:=ff Ao F Ap [.r,.r,.l,.r,.b,.i] f207 J n a
def sr:=V0 Tryz.prog (look Ao) F Ap [.r,.r,.l,.r,.b] (eX f207) (aBz Tryz.prog f207 (hU,true) (.int .i64,false) (hU,true))
def HH (a i p e w c D E r j k l m o:Int)(q:ByteArray)(s:List Int)(t:ByteArray)(u:List D4)(b:List D9)(v:List Int)(x:Int)(y:List lD)(h:List Int)(d:List a7)(f:List bS)(g:List bE)(z:List Int)(A:List a7)(B:List bS)(C:List bE):Aq F J (n+1) (sq a i p e w c D E r j k l m o q s t u b v x y h d f g z A B C)=br (decide (i>=0)) (ck (bG i (b.length:Int)) (br ((aI b i K9.az).2.1.toList==ak.toList) (Aq F J n (sq a (aj (i-1)) p e w c D E r j k l m o q s t u b v x y h d f g z A B C)) (ck (bG i (b.length:Int)) (ck (bG i (b.length:Int)) ((SF F0 (w,c) (r,j,k,(l,m,(o,q,s),t),u,b,(v,x),y) (aI b i K9.az).1 (aI b i K9.az).2.1 true).bind fun G=>br (!G.2.1) (J .ret (CO 3 p e w c h d f g)) (ck (bG a (d.length:Int)) (J .ret (CO 0 p e w c h (d.set a.toNat G.1) f g)))))))) (J (.exit 0) (NL p e w c D E h d f g z A B C)):=by kernel_rfl
def NM (a p f g h:Int)(e:List Int)(b:List a7)(c:List bS)(d:List bE):sr F .ret (CO a p f g h e b c d)=br (a==0) (some (((g,h),e,b,c,d),a,hU.az)) (some (hU.az,a,(p,f),e,b,c,d)):=by kernel_rfl
def ac1 (p a w f k l:Int)(e:List Int)(b:List a7)(c:List bS)(d:List bE)(g:List Int)(h:List a7)(i:List bS)(j:List bE):sr F (.exit 0) (NL p a w f k l e b c d g h i j)=some (hU.az,3,(p,a),e,b,c,d):=by kernel_rfl
def I6 (w:lE)(a:Int):Option (lE×Int×lE):=asx Tryz.prog (look Ao) F Ap f207 [(hU,true),(.int .i64,false)] 0 (hU,true) (.int .i64,false) (hU,true) (w,a,())
def amt (w:lE)(a:Int):I6 F w a=ck (bG a (w.2.2.1.length:Int)) (Aq F (sr F) F.n (sq a (aj (((aI w.2.2.1 a ca.az).2.2.2.2.2.1.length:Int)-1)) w.1.1 w.1.2 w.1.1 w.1.2 0 0 (aI w.2.2.1 a ca.az).1 (aI w.2.2.1 a ca.az).2.1 (aI w.2.2.1 a ca.az).2.2.1 (aI w.2.2.1 a ca.az).2.2.2.1.1 (aI w.2.2.1 a ca.az).2.2.2.1.2.1 (aI w.2.2.1 a ca.az).2.2.2.1.2.2.1.1 (aI w.2.2.1 a ca.az).2.2.2.1.2.2.1.2.1 (aI w.2.2.1 a ca.az).2.2.2.1.2.2.1.2.2 (aI w.2.2.1 a ca.az).2.2.2.1.2.2.2 (aI w.2.2.1 a ca.az).2.2.2.2.1 (aI w.2.2.1 a ca.az).2.2.2.2.2.1 (aI w.2.2.1 a ca.az).2.2.2.2.2.2.1.1 (aI w.2.2.1 a ca.az).2.2.2.2.2.2.1.2 (aI w.2.2.1 a ca.az).2.2.2.2.2.2.2 w.2.1 w.2.2.1 w.2.2.2.1 w.2.2.2.2 [] [] [] [])):=by kernel_rfl
def QT:Any:=.sel ⟨[(hU,true),(.int .i64,false)],0,(hU,true),(.int .i64,false),(hU,true),fun x=>I6 F0 x.1 x.2.1⟩
def amu:a1 207 QT:=ok4 (show ym Tryz.prog TB Ao from⟨atb,trivial⟩) func207 (by kernel_rfl) (by kernel_rfl) Ap (by kernel_rfl) (by kernel_rfl)
def abg:=[(66,gX),(71,jW),(123,ml),(144,oz)]
abbrev aEx:List (Ty×Bool):=[(K14,true),(.int .i64,false)]
def NN (d:D14)(keep:Int):=bj abg F ad f208 aEx po 2 (d,keep,())
def apK (d:D14)(keep:Int):NN F d keep=(iR F0 d).bind fun b=>(np F0 d).bind fun c=>br (!c.1) (some (b.1,())) ((bK F0 keep (aj ((d.1.length:Int)-d.2))).bind fun e=>(dK F0 0 e.1).bind fun a=>ck (Tx 0 (aj (d.2+a.1)) (d.1.length:Int)) (ck (ep F 0 ((d.1.take (aj (d.2+a.1)).toNat).drop (0:Int).toNat).length 1) (some (([]++((d.1.take (aj (d.2+a.1)).toNat).drop (0:Int).toNat),aj (d.2+a.1)),())))):=by kernel_rfl
def Ut:Any:=.one ⟨aEx,po,2,fun x=>NN F0 x.1 x.2.1⟩
def apL:a1 208 Ut:=aq abg ⟨lH,oY,uR,yH,trivial⟩ func208 ad (by kernel_rfl)
def SG: Option (Args BR):=bj aA F ad f312 [] BR 2 (())
def amv: SG F= some ((0,0,(0,ak,[]),ak),()):=by kernel_rfl
def QU:Any:=.one ⟨[],BR,2,fun x=>SG F0⟩
def amw:a1 312 QU:=aq aA trivial func312 ad (by kernel_rfl)
def abh:=[(141,ij),(146,oA),(147,rW),(148,KL)]
def NO (c:D1)(b:List Int):=bj abh F ad f313 TP aks 2 (c,b,())
def apM (c:D1)(b:List Int):NO F c b=(cI F0 (b,0,true)).bind fun d=>(cI F0 d.2.1).bind fun e=>(Cw F0 e.2.1).bind fun f=>(nF F0 f.2.1).bind fun a=>br (!a.2.1.2.2) (some ((0,0,(0,ak,[]),ak),false,())) (br (a.2.1.2.1 != (b.length:Int)) (some ((0,0,(0,ak,[]),ak),false,())) ((jv F0 c (d.1.1,e.1.1,f.1.1,a.1.1)).bind fun g=>br (!g.1) (some ((0,0,(0,ak,[]),ak),false,())) (some ((d.1.1,e.1.1,f.1.1,a.1.1),true,())))):=by kernel_rfl
def Uu:Any:=.one ⟨TP,aks,2,fun x=>NO F0 x.1 x.2.1⟩
def apN:a1 313 Uu:=aq abh ⟨l7,yN,GC,aaW,trivial⟩ func313 ad (by kernel_rfl)
def vn:=[(216,uI),(312,QU),(313,Uu)]
def vo:Nat->Option Hint:=look [(3,{live:=[1,2,4,6,7],yh:=[(4,4,3,.int .i64)],rl:=[4,5]})]
def pH (b:List Int)(a c d j k l:Int)(m o:ByteArray)(p e f:Int)(g h:ByteArray)(q i:List Int):= cQ 62 [(1,hV 5 (.int .u8) b),b0 2,b0 4,b0 6,(7,a8 a)] [(2,[ao c,ao d]),(4,[ao j,ao k,ao l,.str m,.own 1000000 none,.str o]),(6,[ao p,ao e,ao f,.str g,.own 1000001 none,.str h])] [ay 1000000 3 (.int .i64) q,ay 1000001 3 (.int .i64) i]
def k1 (a b c d:Int)(e f:ByteArray)(g:List Int):= cQ 62 [b0 4,(5,a8 a)] [(4,[ao b,ao c,ao d,.str e,.own 1000000 none,.str f])] [ay 1000000 3 (.int .i64) g]
def vp (a:St):Option U:=ff vn F vo [.r,.r,.r,.b,.i] f267 J n a
abbrev auG:List (Ty×Bool):=[(K12,true),(.int .i64,false)]
def Ar:=hQ vn F vo [.r,.r,.r,.b] f267 auG 2
def FF (b:List Int)(e c l m o p:Int)(q r:ByteArray)(k f g:Int)(h i:ByteArray)(s j:List Int):vp F J (n+1) (pH b e c l m o p q r k f g h i s j)=(kV F0 b e).bind fun a=>br (!a.2.2.1) (J .ret (k1 e k f g h i j)) (br (decide (a.1>=(aj ((b.length:Int)-a.2.1)))) (J .ret (k1 e k f g h i j)) (ck (bG (aj (a.2.1+a.1)) (b.length:Int)) (br ((aI b (aj (a.2.1+a.1)) 0) != 10) (J .ret (k1 e k f g h i j)) (ck (Tx a.2.1 (aj (a.2.1+a.1)) (b.length:Int)) ((NO F0 (c,l) ((b.take (aj (a.2.1+a.1)).toNat).drop a.2.1.toNat)).bind fun d=>br (!d.2.1) (J .ret (k1 e k f g h i j)) (vp F J n (pH b (aj ((aj (a.2.1+a.1))+1)) c l m o p q r d.1.1 d.1.2.1 d.1.2.2.1.1 d.1.2.2.1.2.1 d.1.2.2.2 s d.1.2.2.1.2.2))))))):=by kernel_rfl
def Lp (a b c d:Int)(e f:ByteArray)(g:List Int):Ar F .ret (k1 a b c d e f g)=some ((b,c,(d,e,g),f),a,()):=by kernel_rfl
def En (c:D1)(b:List Int):=bj vn F vo f267 TP auG 2 (c,b,())
def aii (c:D1)(b:List Int):En F c b=(SG F0).bind fun a=>vp F (Ar F) F.n (pH b 0 c.1 c.2 0 0 0 ak ak a.1.1 a.1.2.1 a.1.2.2.1.1 a.1.2.2.1.2.1 a.1.2.2.2 [] a.1.2.2.1.2.2):=by kernel_rfl
def NP:Any:=.one ⟨TP,auG,2,fun x=>En F0 x.1 x.2.1⟩
def aij:a1 267 NP:=aq vn ⟨KJ,amw,apN,trivial⟩ func267 vo (by kernel_rfl)
def akz:=[(64,bX),(66,gX),(71,jW),(74,cp),(267,NP)]
def QV (c:D1)(r:a7):=bj akz F ad f209 x8 TS 2 (c,r,())
def awS (c:D1)(r:a7):QV F c r=(dw F0 c r).bind fun b=>br (!b.1) ((ba F0 r).bind fun d=>some (d.1,())) ((En F0 c r.2.2.2.2.2.2.1.1).bind fun a=>(dK F0 a.1.1 (aj (a.1.2.2.1.1+1))).bind fun e=>(dK F0 e.1 1).bind fun f=>(bK F0 60 f.1).bind fun g=>ck (Tx 0 a.2.1 (r.2.2.2.2.2.2.1.1.length:Int)) (ck (ep F 0 ((r.2.2.2.2.2.2.1.1.take a.2.1.toNat).drop (0:Int).toNat).length 1) (some ((r.1,g.1,0,a.1,[],[],([]++((r.2.2.2.2.2.2.1.1.take a.2.1.toNat).drop (0:Int).toNat),a.2.1),[]),())))):=by kernel_rfl
def abi:Any:=.one ⟨x8,TS,2,fun x=>QV F0 x.1 x.2.1⟩
def awT:a1 209 abi:=aq akz ⟨cm,lH,oY,cT,aij,trivial⟩ func209 ad (by kernel_rfl)
def akA:=[(64,bX),(74,cp),(125,jx),(268,kZ),(269,my)]
def Ze (c:D1)(r:a7):=bj akA F ad f210 x8 gH 2 (c,r,())
def awU (c:D1)(r:a7):Ze F c r=(ba F0 r).bind fun a=>(dw F0 c r).bind fun f=>br (!f.1) (some (a.1,false,())) (br (decide (r.2.1>=60)) (some (a.1,false,())) ((mo F0 c (aj (r.2.1+1))).bind fun b=>br (b.1==r.1) ((fm F0 c a.1.2.2.2.2.2.1 (aj (r.2.1+1),ak,[r.1])).bind fun d=>br (!d.2.1) ((ba F0 r).bind fun g=>some (g.1,false,())) (some ((a.1.1,aj (r.2.1+1),a.1.2.2.1,a.1.2.2.2.1,a.1.2.2.2.2.1,d.1,a.1.2.2.2.2.2.2),true,()))) ((fy F0 c (a.1.1,aj (r.2.1+1),a.1.2.2) b.1 (3,aj (r.2.1+1),(ak,0,ak,[]),(0,ak,[]),r.2.2.2.1.2.2.1,r.1,0,0,0,0)).bind fun e=>br (!e.1.2.1) ((ba F0 r).bind fun h=>some (h.1,false,())) (some (e.1.1,true,()))))):=by kernel_rfl
def abj:Any:=.one ⟨x8,gH,2,fun x=>Ze F0 x.1 x.2.1⟩
def awV:a1 210 abj:=aq akA ⟨cm,cT,nH,se,vg,trivial⟩ func210 ad (by kernel_rfl)
def abk:=[(64,bX),(202,Pr),(205,Uo),(206,QS),(207,QT),(208,Ut),(209,abi),(210,abj)]
def NQ (w:lE)(d:D45):Option (lE×Int×lE):=asx Tryz.prog (look abk) F ad f140 [(hU,true),(K45,true)] 0 (hU,true) (.int .i64,false) (hU,true) (w,d,())
def apO (w:lE)(d:D45):NQ F w d=ck (bG d.2.1 (w.2.2.1.length:Int)) (br (d.1==1) ((NH F0 w d.2.1).bind fun b=>br (b.2.1==0) (some (b.1,0,hU.az)) (br (b.2.1==0) (none) (some (hU.az,b.2.1,w.1,b.2.2.2)))) (br (d.1==2) ((I5 F0 w d.2.1).bind fun c=>br (c.2.1==0) (some (c.1,0,hU.az)) (br (c.2.1==0) (none) (some (hU.az,c.2.1,w.1,c.2.2.2)))) (br (d.1==6) ((I6 F0 w d.2.1).bind fun e=>br (e.2.1==0) (some (e.1,0,hU.az)) (br (e.2.1==0) (none) (some (hU.az,e.2.1,w.1,e.2.2.2)))) (br (d.1==8) ((ba F0 (aI w.2.2.1 d.2.1 ca.az)).bind fun a=>(NN F0 (aI w.2.2.1 d.2.1 ca.az).2.2.2.2.2.2.1 d.2.2.1).bind fun h=>(QV F0 w.1 (a.1.1,a.1.2.1,a.1.2.2.1,a.1.2.2.2.1,a.1.2.2.2.2.1,a.1.2.2.2.2.2.1,h.1,a.1.2.2.2.2.2.2.2)).bind fun i=>ck (bG d.2.1 (w.2.2.1.length:Int)) (some ((w.1,w.2.1,w.2.2.1.set d.2.1.toNat i.1,w.2.2.2),0,hU.az))) (br (d.1==7) ((Ze F0 w.1 (aI w.2.2.1 d.2.1 ca.az)).bind fun f=>br (!f.2.1) (some (hU.az,3,w)) (ck (bG d.2.1 (w.2.2.1.length:Int)) (some ((w.1,w.2.1,w.2.2.1.set d.2.1.toNat f.1,w.2.2.2),0,hU.az)))) ((QK F0 w.1 (aI w.2.2.1 d.2.1 ca.az) d.2.2.2).bind fun g=>br (!g.2.1) (some (hU.az,3,w)) (br (d.2.2.2.1 != 4) (some (hU.az,3,w)) (ck (bG d.2.1 (w.2.2.1.length:Int)) (some ((w.1,w.2.1,w.2.2.1.set d.2.1.toNat g.1,w.2.2.2),0,hU.az)))))))))):=by kernel_rfl
def Uv:Any:=.sel ⟨[(hU,true),(K45,true)],0,(hU,true),(.int .i64,false),(hU,true),fun x=>NQ F0 x.1 x.2.1⟩
def apP:a1 140 Uv:=ok4 (show ym Tryz.prog TB abk from⟨cm,afi,apH,ams,amu,apL,awT,awV,trivial⟩) func140 (by kernel_rfl) (by kernel_rfl) ad (by kernel_rfl) (by kernel_rfl)
def abl:=[(68,cL),(137,Ug),(138,Un),(139,GP),(140,Uv)]
def NR (w:lE)(d:D45):Option (lE×Int×lE):=asx Tryz.prog (look abl) F ad f72 [(hU,true),(K45,true)] 0 (hU,true) (.int .i64,false) (hU,true) (w,d,())
def apQ (w:lE)(d:D45):NR F w d=br (d.1==3) ((xt F0 w d).bind fun a=>br (a.2.1==0) (some (a.1,0,hU.az)) (br (a.2.1==0) (none) (some (hU.az,a.2.1,w.1,a.2.2.2)))) (br (d.1==4) ((xt F0 w d).bind fun a=>br (a.2.1==0) (some (a.1,0,hU.az)) (br (a.2.1==0) (none) (some (hU.az,a.2.1,w.1,a.2.2.2)))) (br (d.1==5) ((xt F0 w d).bind fun a=>br (a.2.1==0) (some (a.1,0,hU.az)) (br (a.2.1==0) (none) (some (hU.az,a.2.1,w.1,a.2.2.2)))) (br (d.1==10) ((NF F0 w d).bind fun b=>br (b.2.1==0) (some (b.1,0,hU.az)) (br (b.2.1==0) (none) (some (hU.az,b.2.1,w.1,b.2.2.2)))) ((FE F0 w).bind fun e=>(cW F0 e.1 d.2.1).bind fun f=>br (!f.1) (some (hU.az,2,w)) ((NQ F0 w d).bind fun c=>br (c.2.1==0) (some (c.1,0,hU.az)) (br (c.2.1==0) (none) (some (hU.az,c.2.1,w.1,c.2.2.2)))))))):=by kernel_rfl
def Uw:Any:=.sel ⟨[(hU,true),(K45,true)],0,(hU,true),(.int .i64,false),(hU,true),fun x=>NR F0 x.1 x.2.1⟩
def apR:a1 72 Uw:=ok4 (show ym Tryz.prog TB abl from⟨dL,apx,apE,Xi,apP,trivial⟩) func72 (by kernel_rfl) (by kernel_rfl) ad (by kernel_rfl) (by kernel_rfl)
def Xn:=[(72,Uw)]
abbrev afo:List (Ty×Bool):=[(hU,true),(K45,true)]
def I7 (w:lE)(d:D45):=Fl Xn F ad f28 afo 0 (.own true) dy [] 2 (w,d,())
def amx (w:lE)(d:D45):I7 F w d=(NR F0 w d).bind fun a=>br (a.2.1==0) (br (0 != 0) (none) (some ((a.1,()),()))) (br (a.2.1 != 0) (some (((w.1,a.2.2.2),()),())) (none)):=by kernel_rfl
def QW:Any:=.two ⟨afo,0,(.own true),dy,2,[],fun x=>I7 F0 x.1 x.2.1⟩
def amy:a1 28 QW:=aB3 Xn ⟨apR,trivial⟩ func28 ad (by kernel_rfl)
def pI:=[(22,Wu),(23,BQ),(24,CC),(25,eh),(26,TU),(27,FA),(28,QW)]
def pJ:Nat->Option Hint:=look [(7,{live:=[2,4,5,6,7,8,9],yh:=[(2,2,3,.int .i64),(2,3,65,ca),(2,4,105,eo),(2,5,41,cl)],xl:=[2,5,7],rl:=[2,3]})]
def lY (a i r s:Int)(t:List Int)(u v x b w c:Int)(y:List D45)(d:List Int)(e:List a7)(f:List bS)(g:List bE)(h:List Int)(j:List a7)(k:List bS)(l:List bE)(m:List Int)(o:List a7)(p:List bS)(q:List bE):= cQ 39 [b0 2,(4,.v (.c (.ptr 12 0))),b0 5,b0 6,(7,.v (.c (.own 1000000 none))),(8,a8 a),(9,a8 i)] [(2,[ao r,ao s,.own 1000001 none,.own 1000002 none,.own 1000003 none,.own 1000004 none]),(12,[.ro false 5 (.int .u8) t,ao u,ao v]),(5,[ao x,ao b,.own 1000005 none,.own 1000006 none,.own 1000007 none,.own 1000008 none]),(6,[ao w,ao c,.own 1000009 none,.own 1000010 none,.own 1000011 none,.own 1000012 none])] [ay 1000000 56 K45 y,ay 1000001 3 (.int .i64) d,ay 1000002 65 ca e,ay 1000003 105 eo f,ay 1000004 41 cl g,ay 1000005 3 (.int .i64) h,(1000006,some ⟨65,ca,j,false,true⟩),(1000007,some ⟨105,eo,k,false,true⟩),ay 1000008 41 cl l,ay 1000009 3 (.int .i64) m,ay 1000010 65 ca o,ay 1000011 105 eo p,ay 1000012 41 cl q]
def FG (j k l a:Int)(m:List D45)(b:List Int)(c:List a7)(d:List bS)(e:List bE)(f:List Int)(g:List a7)(h:List bS)(i:List bE):= cQ 39 [b0 2,b0 5,(7,.v (.c (.own 1000000 none)))] [(2,[ao j,ao k,.own 1000001 none,.own 1000002 none,.own 1000003 none,.own 1000004 none]),(5,[ao l,ao a,.own 1000005 none,.own 1000006 none,.own 1000007 none,.own 1000008 none])] [ay 1000000 56 K45 m,ay 1000001 3 (.int .i64) b,ay 1000002 65 ca c,ay 1000003 105 eo d,ay 1000004 41 cl e,ay 1000005 3 (.int .i64) f,(1000006,some ⟨65,ca,g,false,true⟩),(1000007,some ⟨105,eo,h,false,true⟩),ay 1000008 41 cl i]
def pK (a:St):Option U:=ff pI F pJ [.r,.r,.r,.r,.r,.r,.l,.r,.b,.i] f7 J n a
abbrev apS:List (Ty×Bool):=[(hU,true),(K46,false)]
def tB:=hQ pI F pJ [.r,.r,.r,.r,.r,.r,.l,.r,.b] f7 apS 0
def As (d i u v:Int)(y:List Int)(z A x e w f:Int)(c:List D45)(g:List Int)(h:List a7)(j:List bS)(k:List bE)(l:List Int)(m:List a7)(o:List bS)(p:List bE)(q:List Int)(r:List a7)(s:List bS)(t:List bE):pK F J (n+1) (lY d i u v y z A x e w f c g h j k l m o p q r s t)=br (decide (i<d)) ((r6 F0 (y,z,A) ((w,f),q,r,s,t)).bind fun a=>ck (ep F c.length [a.1.1].length 240) ((I7 F0 ((w,f),q,r,s,t) a.1.1).bind fun b=>pK F J n (lY d (aj (i+1)) u v a.2.1.1 a.2.1.2.1 a.2.1.2.2 x e b.1.1.1.1 b.1.1.1.2 (c++[a.1.1]) g h j k l m o p b.1.1.2.1 b.1.1.2.2.1 b.1.1.2.2.2.1 b.1.1.2.2.2.2))) (J (.exit 0) (FG u v x e c g h j k l m o p)):=by kernel_rfl
def Vx (l m f a:Int)(g:List D45)(h:List Int)(i:List a7)(j:List bS)(k:List bE)(b:List Int)(c:List a7)(d:List bS)(e:List bE):tB F (.exit 0) (FG l m f a g h i j k b c d e)=some (((f,a),b,c,d,e),g,()):=by kernel_rfl
def eR (a:List Int):=bj pI F pJ f7 lF apS 0 (a,())
def ac2 (d:List Int):eR F d=(Kw F0 d).bind fun e=>(pr F0 e.1.1).bind fun a=>(yX F0 a.1.1).bind fun b=>(Nd F0 d 70 140).bind fun f=>(av F0 a.2.1 f.1).bind fun c=>pK F (tB F) F.n (lY c.1.1 0 0 0 c.2.1.1 c.2.1.2.1 c.2.1.2.2 a.1.1.1.1 a.1.1.1.2 b.1.1.1 b.1.1.2 [] [] [] [] [] a.1.1.2.1 a.1.1.2.2.1 a.1.1.2.2.2.1 a.1.1.2.2.2.2 b.1.2.1 b.1.2.2.1 b.1.2.2.2.1 b.1.2.2.2.2):=by kernel_rfl
def ZX:Any:=.one ⟨lF,apS,0,fun x=>eR F0 x.1⟩
def ac3:a1 7 ZX:=aq pI ⟨asP,WQ,TT,fW,ao7,ZV,amy,trivial⟩ func7 pJ (by kernel_rfl)
def ea (l:List Int):=bj aA F ad f29 kr kr 2 (l,())
def CP (l:List Int):ea F l=ck (ep F 0 l.length 8) (some ([]++l,())):=by kernel_rfl
def fz:Any:=.one ⟨kr,kr,2,fun x=>ea F0 x.1⟩
def jI:a1 29 fz:=aq aA trivial func29 ad (by kernel_rfl)
def aZ (a low high:Int):=bj aA F ad f41 aD0 aO 1 (a,low,high,())
def apT (a low high:Int):aZ F a low high=br (decide (a>=low)) (some (decide (a<=high),())) (some (false,())):=by kernel_rfl
def bA:Any:=.one ⟨aD0,aO,1,fun x=>aZ F0 x.1 x.2.1 x.2.2.1⟩
def bW:a1 41 bA:=aq aA trivial func41 ad (by kernel_rfl)
def abm:=[(41,bA)]
def eu (c:D1):=bj abm F ad f30 TC aO 1 (c,())
def apU (c:D1):eu F c=(aZ F0 c.1 4 7).bind fun a=>br a.1 ((aZ F0 c.2 1 6).bind fun b=>some (b.1,())) (some (false,())):=by kernel_rfl
def cM:Any:=.one ⟨TC,aO,1,fun x=>eu F0 x.1⟩
def dP:a1 30 cM:=aq abm ⟨bW,trivial⟩ func30 ad (by kernel_rfl)
def sv: Option (Args gB):=bj aA F ad f169 [] gB 2 (())
def Ux: sv F= some ((0,ak,[]),()):=by kernel_rfl
def CQ:Any:=.one ⟨[],gB,2,fun x=>sv F0⟩
def Uy:a1 169 CQ:=aq aA trivial func169 ad (by kernel_rfl)
def iS:Nat->Option Hint:=look [(4,{live:=[0,1,12,13],rl:=[4]})]
def gK (a b:List Int)(c d:Int):= bP 26 [(0,hV 3 (.int .i64) a),(1,hV 3 (.int .i64) b),(12,a8 c),(13,a8 d)]
def tY (a:Bool):= bP 26 [(4,Ir a)]
def th   := bP 26 []
def iT (a:St):Option U:=ff aA F iS [.r,.r,.l,.r,.b,.i] f115 J n a
def gL:=hQ aA F iS [.r,.r,.l,.r,.b] f115 aO 1
def pL (b c:List Int)(d a:Int):iT F J (n+1) (gK b c d a)=br (decide (a<d)) (ck (bG a (b.length:Int)) (ck (bG a (c.length:Int)) (br ((aI b a 0) != (aI c a 0)) (J .ret (tY false)) (iT F J n (gK b c d (aj (a+1))))))) (J (.exit 0) (th)):=by kernel_rfl
def MF (a:Bool):gL F .ret (tY a)=some (a,()):=by kernel_rfl
def Lq: gL F (.exit 0) (th)=some (true,()):=by kernel_rfl
def hf (a b:List Int):=bj aA F iS f115 alF aO 1 (a,b,())
def QX (a b:List Int):hf F a b=br ((a.length:Int) != (b.length:Int)) (some (false,())) (iT F (gL F) F.n (gK a b (a.length:Int) 0)):=by kernel_rfl
def lI:Any:=.one ⟨alF,aO,1,fun x=>hf F0 x.1 x.2.1⟩
def xJ:a1 115 lI:=aq aA trivial func115 iS (by kernel_rfl)
def abn:=[(115,lI)]
def jy (a b:D9):=bj abn F ad f55 w3 aO 1 (a,b,())
def Xo (a b:D9):jy F a b=br (a.1==b.1) (br (a.2.1.toList==b.2.1.toList) ((hf F0 a.2.2 b.2.2).bind fun c=>some (c.1,())) (some (false,()))) (some (false,())):=by kernel_rfl
def kD:Any:=.one ⟨w3,aO,1,fun x=>jy F0 x.1 x.2.1⟩
def q8:a1 55 kD:=aq abn ⟨xJ,trivial⟩ func55 ad (by kernel_rfl)
def afp:=[(245,MQ)]
def wy (s:ByteArray)(a:Int):=bj afp F ad f184 aaD azg 1 (s,a,())
def atc (s:ByteArray)(a:Int):wy F s a=(strings_Split F0 s (strOf [a])).bind fun b=>some (b.1,()):=by kernel_rfl
def Lr:Any:=.one ⟨aaD,azg,1,fun x=>wy F0 x.1 x.2.1⟩
def abo:a1 184 Lr:=aq afp ⟨ahB,trivial⟩ func184 ad (by kernel_rfl)
end
end Go.Am.Tryz
namespace Go.Am.Tryz
open Go.Am Go.Proofs Go.Proofs.Tryz
noncomputable section
variable {U:Type} (F:p5) (J:Ex->St->Option U) (n:Nat)
def abp:=[(179,P1)]
def k2 (a:Int):=bj abp F ad f105 cE dC 1 (a,())
def apV (a:Int):k2 F a=(strconv_Itoa F0 a).bind fun b=>some (b.1,()):=by kernel_rfl
def vq:Any:=.one ⟨cE,dC,1,fun x=>k2 F0 x.1⟩
def Ls:a1 105 vq:=aq abp ⟨alx,trivial⟩ func105 ad (by kernel_rfl)
def Eo:=[(105,vq)]
def Ep:Nat->Option Hint:=look [(5,{live:=[0,4,5],xl:=[0,4],rl:=[2,3]})]
def vr (s:ByteArray)(a i:Int):= bP 43 [(0,qqs s),(4,a8 a),(5,a8 i)]
def GQ (a:Int)(b:Bool):= bP 43 [(2,a8 a),(3,Ir b)]
def QY (s:ByteArray)(a:Int):= bP 43 [(0,qqs s),(4,a8 a)]
def Er (a:St):Option U:=ff Eo F Ep [.r,.r,.r,.l,.r,.b,.i] f186 J n a
def vu:=hQ Eo F Ep [.r,.r,.r,.l,.r,.b] f186 auv 1
def Lt (s:ByteArray)(a i:Int):Er F J (n+1) (vr s a i)=br (decide (i<(s.size:Int))) (ck (bG i (s.size:Int)) (br (decide ((jP s i)<48)) (J .ret (GQ 0 false)) (ck (bG i (s.size:Int)) (br (decide ((jP s i)>57)) (J .ret (GQ 0 false)) (ck (bG i (s.size:Int)) (Er F J n (vr s (aj ((aj (10*a))+(aj (IntKind.wrap .u8 ((jP s i)-48))))) (aj (i+1))))))))) (J (.exit 0) (QY s a)):=by kernel_rfl
def aik (a:Int)(b:Bool):vu F .ret (GQ a b)=some (a,b,()):=by kernel_rfl
def afq (s:ByteArray)(a:Int):vu F (.exit 0) (QY s a)=(k2 F0 a).bind fun b=>br (!(b.1.toList==s.toList)) (some (0,false,())) (some (a,true,())):=by kernel_rfl
def ns (s:ByteArray):=bj Eo F Ep f186 dC auv 1 (s,())
def apW (s:ByteArray):ns F s=br (decide ((s.size:Int)<1)) (some (0,false,())) (br (decide ((s.size:Int)>6)) (some (0,false,())) (Er F (vu F) F.n (vr s 0 0))):=by kernel_rfl
def GR:Any:=.one ⟨dC,auv,1,fun x=>ns F0 x.1⟩
def Xp:a1 186 GR:=aq Eo ⟨Ls,trivial⟩ func186 Ep (by kernel_rfl)
def akB:=[(41,bA)]
def o4 (x:D4):=bj akB F ad f104 aaG aO 1 (x,())
def awW (x:D4):o4 F x=(aZ F0 x.1 0 3).bind fun a=>br a.1 ((aZ F0 x.2.1 0 3).bind fun b=>br b.1 ((aZ F0 x.2.2.1 0 1000).bind fun c=>br c.1 ((aZ F0 x.2.2.2 0 99).bind fun d=>some (d.1,())) (some (false,()))) (some (false,()))) (some (false,())):=by kernel_rfl
def jz:Any:=.one ⟨aaG,aO,1,fun x=>o4 F0 x.1⟩
def nL:a1 104 jz:=aq akB ⟨bW,trivial⟩ func104 ad (by kernel_rfl)
def abq:=[(104,jz),(105,vq)]
def FH (x:D4):=bj abq F ad f180 aaG dC 1 (x,())
def apX (x:D4):FH F x=(o4 F0 x).bind fun e=>br (!e.1) (some (ak,())) ((k2 F0 x.1).bind fun a=>ck (Vo F a.1.size (ByteArray.mk #[62]).size) ((k2 F0 x.2.1).bind fun b=>ck (Vo F (a.1++(ByteArray.mk #[62])).size b.1.size) (ck (Vo F ((a.1++(ByteArray.mk #[62]))++b.1).size (ByteArray.mk #[58]).size) ((k2 F0 x.2.2.1).bind fun c=>ck (Vo F (((a.1++(ByteArray.mk #[62]))++b.1)++(ByteArray.mk #[58])).size c.1.size) (ck (Vo F ((((a.1++(ByteArray.mk #[62]))++b.1)++(ByteArray.mk #[58]))++c.1).size (ByteArray.mk #[35]).size) ((k2 F0 x.2.2.2).bind fun d=>ck (Vo F (((((a.1++(ByteArray.mk #[62]))++b.1)++(ByteArray.mk #[58]))++c.1)++(ByteArray.mk #[35])).size d.1.size) (some ((((((a.1++(ByteArray.mk #[62]))++b.1)++(ByteArray.mk #[58]))++c.1)++(ByteArray.mk #[35]))++d.1,())))))))):=by kernel_rfl
def GS:Any:=.one ⟨aaG,dC,1,fun x=>FH F0 x.1⟩
def Xq:a1 180 GS:=aq abq ⟨nL,Ls,trivial⟩ func180 ad (by kernel_rfl)
def akC:=[(104,jz),(180,GS),(185,Gt),(186,GR)]
def Zf (s:ByteArray):=bj akC F ad f247 dC aD1 1 (s,())
def awX (s:ByteArray):Zf F0 s=(strings_Cut F0 s (ByteArray.mk #[62])).bind fun b=>(strings_Cut F0 b.2.1 (ByteArray.mk #[58])).bind fun c=>(strings_Cut F0 c.2.1 (ByteArray.mk #[35])).bind fun a=>ck (bG 0 4) ((ns F0 (aI [b.1,c.1,a.1,a.2.1] 0 ByteArray.empty)).bind fun d=>ck (bG 1 4) ((ns F0 (aI [b.1,c.1,a.1,a.2.1] 1 ByteArray.empty)).bind fun e=>ck (bG 2 4) ((ns F0 (aI [b.1,c.1,a.1,a.2.1] 2 ByteArray.empty)).bind fun f=>ck (bG 3 4) ((ns F0 (aI [b.1,c.1,a.1,a.2.1] 3 ByteArray.empty)).bind fun g=>(o4 F0 (d.1,e.1,f.1,g.1)).bind fun h=>br (!h.1) (some ((0,0,0,0),false,())) ((FH F0 (d.1,e.1,f.1,g.1)).bind fun i=>br (!(i.1.toList==s.toList)) (some ((0,0,0,0),false,())) (some ((d.1,e.1,f.1,g.1),true,()))))))):=by kernel_rfl
def abr:Any:=.one ⟨dC,aD1,1,fun x=>Zf F0 x.1⟩
def awY:a1 247 abr:=aq akC ⟨nL,Xq,Wq,Xp,trivial⟩ func247 ad (by kernel_rfl)
def I8:=[(184,Lr),(247,abr)]
def I9:Nat->Option Hint:=look [(5,{live:=[4,12,13,14],mat:=[(4,52,K4)],xl:=[4],rl:=[2,3]})]
def Au (a:List ByteArray)(b c:Int)(d:List D4):= cQ 31 [(4,.v (.c (.own 1000000 none))),(12,.v (.c (.ro true 9 (.str) a))),(13,a8 b),(14,a8 c)] [] [ay 1000000 52 K4 d]
def Xr (a:Bool):= bP 31 [(2,.v (.c (.nil))),(3,Ir a)]
def Uz (a:List D4):= cQ 31 [(4,.v (.c (.own 1000000 none)))] [] [ay 1000000 52 K4 a]
def Ja (a:St):Option U:=ff I8 F I9 [.r,.r,.r,.l,.r,.b,.i] f187 J n a
def Av:=hQ I8 F I9 [.r,.r,.r,.l,.r,.b] f187 WA 2
def NS (b:List ByteArray)(e a:Int)(c:List D4):Ja F J (n+1) (Au b e a c)=br (decide (a<e)) (ck (bG a (b.length:Int)) ((Zf F0 (aI b a ByteArray.empty)).bind fun d=>br (!d.2.1) (J .ret (Xr false)) (ck (ep F c.length [d.1].length 32) (Ja F J n (Au b e (aj (a+1)) (c++[d.1])))))) (J (.exit 0) (Uz c)):=by kernel_rfl
def amz (a:Bool):Av F .ret (Xr a)=some ([],a,()):=by kernel_rfl
def ail (a:List D4):Av F (.exit 0) (Uz a)=some (a,true,()):=by kernel_rfl
def Lu (s:ByteArray):=bj I8 F I9 f187 dC WA 2 (s,())
def atd (s:ByteArray):Lu F s=br (s.toList==ak.toList) (some ([],true,())) ((wy F0 s 44).bind fun a=>Ja F (Av F) F.n (Au a.1 (a.1.length:Int) 0 [])):=by kernel_rfl
def Xs:Any:=.one ⟨dC,WA,2,fun x=>Lu F0 x.1⟩
def ate:a1 187 Xs:=aq I8 ⟨abo,awY,trivial⟩ func187 I9 (by kernel_rfl)
def Jb:=[(41,bA),(184,Lr),(185,Gt),(186,GR),(187,Xs)]
def Jc:Nat->Option Hint:=look [(9,{live:=[5,6,31,32,33],mat:=[(5,157,K6)],xl:=[5],rl:=[2,3]})]
def Aw (a:Int)(b:List ByteArray)(c d:Int)(e:List D6):= cQ 84 [(5,.v (.c (.own 1000000 none))),(6,a8 a),(31,.v (.c (.ro true 9 (.str) b))),(32,a8 c),(33,a8 d)] [] [ay 1000000 157 K6 e]
def mC (a:Bool):= bP 84 [(2,.v (.c (.nil))),(3,Ir a)]
def UA (a:List D6):= cQ 84 [(5,.v (.c (.own 1000000 none)))] [] [ay 1000000 157 K6 a]
def Jd (a:St):Option U:=ff Jb F Jc [.r,.r,.r,.r,.r,.r,.l,.r,.b,.i] f109 J n a
def Ax:=hQ Jb F Jc [.r,.r,.r,.r,.r,.r,.l,.r,.b] f109 auw 2
def NT (h:Int)(d:List ByteArray)(g b:Int)(e:List D6):Jd F J (n+1) (Aw h d g b e)=br (decide (b<g)) (ck (bG b (d.length:Int)) ((strings_Cut F0 (aI d b ByteArray.empty) (ByteArray.mk #[124])).bind fun f=>(ns F0 f.1).bind fun a=>(Lu F0 f.2.1).bind fun c=>br (!f.2.2.1) (J .ret (mC false)) (br (!a.2.1) (J .ret (mC false)) (br (!c.2.1) (J .ret (mC false)) ((aZ F0 a.1 (aj (h+1)) 60).bind fun i=>br (!i.1) (J .ret (mC false)) (br (decide ((c.1.length:Int)>2)) (J .ret (mC false)) (ck (ep F e.length [(a.1,c.1)].length 32) (Jd F J n (Aw a.1 d g (aj (b+1)) (e++[(a.1,c.1)])))))))))) (J (.exit 0) (UA e)):=by kernel_rfl
def amA (a:Bool):Ax F .ret (mC a)=some ([],a,()):=by kernel_rfl
def aim (a:List D6):Ax F (.exit 0) (UA a)=some (a,true,()):=by kernel_rfl
def q9 (s:ByteArray):=bj Jb F Jc f109 dC auw 2 (s,())
def atf (s:ByteArray):q9 F s=br (s.toList==ak.toList) (some ([],true,())) ((wy F0 s 47).bind fun a=>ck (bG 0 (a.1.length:Int)) (br (!((aI a.1 0 ByteArray.empty).toList==ak.toList)) (some ([],false,())) (br (decide ((aj ((a.1.length:Int)-1))>30)) (some ([],false,())) (ck (Tx 1 (a.1.length:Int) (a.1.length:Int)) (Jd F (Ax F) F.n (Aw 0 ((a.1.take (a.1.length:Int).toNat).drop (1:Int).toNat) (((a.1.take (a.1.length:Int).toNat).drop (1:Int).toNat).length:Int) 0 [])))))):=by kernel_rfl
def ra:Any:=.one ⟨dC,auw,2,fun x=>q9 F0 x.1⟩
def Es:a1 109 ra:=aq Jb ⟨bW,abo,Wq,Xp,ate,trivial⟩ func109 Jc (by kernel_rfl)
def abt:=[(109,ra)]
def e7 (s:ByteArray):=bj abt F ad f60 dC aO 1 (s,())
def apY (s:ByteArray):e7 F s=(q9 F0 s).bind fun a=>some (a.2.1,()):=by kernel_rfl
def eS:Any:=.one ⟨dC,aO,1,fun x=>e7 F0 x.1⟩
def hl:a1 60 eS:=aq abt ⟨Es,trivial⟩ func60 ad (by kernel_rfl)
def abu:=[(109,ra)]
def ew (s:ByteArray):=bj abu F ad f49 dC cE 1 (s,())
def apZ (s:ByteArray):ew F s=(q9 F0 s).bind fun a=>br ((a.1.length:Int)==0) (some (0,())) (ck (bG (aj ((a.1.length:Int)-1)) (a.1.length:Int)) (some ((aI a.1 (aj ((a.1.length:Int)-1)) (0,[])).1,()))):=by kernel_rfl
def eb:Any:=.one ⟨dC,cE,1,fun x=>ew F0 x.1⟩
def fA:a1 49 eb:=aq abu ⟨Es,trivial⟩ func49 ad (by kernel_rfl)
def Je:Nat->Option Hint:=look [(2,{live:=[0,1,7,8,9],rl:=[4]})]
def rb (a:Int)(s b:List Int)(c d:Int):= bP 35 [(0,a8 a),(1,hV 3 (.int .i64) s),(7,hV 3 (.int .i64) b),(8,a8 c),(9,a8 d)]
def Ay (a:Bool):= bP 35 [(4,Ir a)]
def UB   := bP 35 []
def Az (a:St):Option U:=ff aA F Je [.r,.l,.r,.b,.i] f56 J n a
def AA:=hQ aA F Je [.r,.l,.r,.b] f56 aO 1
def NU (c:Int)(s b:List Int)(d a:Int):Az F J (n+1) (rb c s b d a)=br (decide (a<d)) (ck (bG a (b.length:Int)) (br (decide ((aI b a 0)<0)) (J .ret (Ay false)) (br (decide ((aI b a 0)>=c)) (J .ret (Ay false)) (br (decide (a>0)) (ck (bG (aj (a-1)) (s.length:Int)) (br (decide ((aI s (aj (a-1)) 0)>=(aI b a 0))) (J .ret (Ay false)) (Az F J n (rb c s b d (aj (a+1)))))) (Az F J n (rb c s b d (aj (a+1)))))))) (J (.exit 0) (UB)):=by kernel_rfl
def amB (a:Bool):AA F .ret (Ay a)=some (a,()):=by kernel_rfl
def ain: AA F (.exit 0) (UB)=some (true,()):=by kernel_rfl
def wz (a:Int)(s:List Int):=bj aA F Je f56 aD2 aO 1 (a,s,())
def atg (a:Int)(s:List Int):wz F a s=Az F (AA F) F.n (rb a s s (s.length:Int) 0):=by kernel_rfl
def AB:Any:=.one ⟨aD2,aO,1,fun x=>wz F0 x.1 x.2.1⟩
def Ps:a1 56 AB:=aq aA trivial func56 Je (by kernel_rfl)
def abv:=[(30,cM)]
def FI (c:D1):=bj abv F ad f57 TC cE 1 (c,())
def ap0 (c:D1):FI F c=(eu F0 c).bind fun a=>br (!a.1) (some (0,())) (some (aj (Int.tdiv (aj (c.1-1)) 3),())):=by kernel_rfl
def GU:Any:=.one ⟨TC,cE,1,fun x=>FI F0 x.1⟩
def Xt:a1 57 GU:=aq abv ⟨dP,trivial⟩ func57 ad (by kernel_rfl)
def abw:=[(30,cM),(57,GU)]
def FJ (c:D1):=bj abw F ad f182 TC cE 1 (c,())
def ap1 (c:D1):FJ F c=(eu F0 c).bind fun a=>br (!a.1) (some (0,())) ((FI F0 c).bind fun b=>some (aj (c.1-b.1),())):=by kernel_rfl
def GV:Any:=.one ⟨TC,cE,1,fun x=>FJ F0 x.1⟩
def Xu:a1 182 GV:=aq abw ⟨dP,Xt,trivial⟩ func182 ad (by kernel_rfl)
def akD:=[(30,cM),(49,eb),(55,kD),(56,AB),(60,eS),(169,CQ),(182,GV)]
def mD (c:D1)(q:D9):=bj akD F ad f107 Hj aO 1 (c,q,())
def awZ (c:D1)(q:D9):mD F c q=(eu F0 c).bind fun a=>br (!a.1) (some (false,())) ((sv F0).bind fun b=>(jy F0 q b.1).bind fun d=>br d.1 (some (true,())) (br (decide (q.1>=1)) ((e7 F0 q.2.1).bind fun e=>br e.1 ((ew F0 q.2.1).bind fun f=>br (q.1==f.1) ((wz F0 c.1 q.2.2).bind fun g=>br g.1 ((FJ F0 c).bind fun h=>some (decide ((q.2.2.length:Int)>=h.1),())) (some (false,()))) (some (false,()))) (some (false,()))) (some (false,())))):=by kernel_rfl
def jA:Any:=.one ⟨Hj,aO,1,fun x=>mD F0 x.1 x.2.1⟩
def nM:a1 107 jA:=aq akD ⟨dP,fA,q8,Ps,hl,Uy,Xu,trivial⟩ func107 ad (by kernel_rfl)
def abx:=[(41,bA),(60,eS),(107,jA)]
def k3 (c:D1)(s:Vt):=bj abx F ad f50 TJ aO 1 (c,s,())
def ap2 (c:D1)(s:Vt):k3 F c s=(aZ F0 s.1 0 60).bind fun a=>br a.1 ((aZ F0 s.2.1 0 60).bind fun b=>br b.1 ((mD F0 c s.2.2.1).bind fun d=>br d.1 ((e7 F0 s.2.2.2).bind fun e=>some (e.1,())) (some (false,()))) (some (false,()))) (some (false,())):=by kernel_rfl
def kE:Any:=.one ⟨TJ,aO,1,fun x=>k3 F0 x.1 x.2.1⟩
def re:a1 50 kE:=aq abx ⟨bW,hl,nM,trivial⟩ func50 ad (by kernel_rfl)
def Et (a b:D4):=bj aA F ad f189 aD3 aO 1 (a,b,())
def aio (a b:D4):Et F a b=br (decide (a.1<b.1)) (some (true,())) (br (a.1==b.1) (some (decide (a.2.2.2<b.2.2.2),())) (some (false,()))):=by kernel_rfl
def NV:Any:=.one ⟨aD3,aO,1,fun x=>Et F0 x.1 x.2.1⟩
def aip:a1 189 NV:=aq aA trivial func189 ad (by kernel_rfl)
def Eu:=[(104,jz),(189,NV)]
def Ev:Nat->Option Hint:=look [(2,{live:=[0,5,6,7],xl:=[0],rl:=[2]})]
def oF (p a:List D4)(b c:Int):= bP 33 [(0,hV 52 (K4) p),(5,hV 52 (K4) a),(6,a8 b),(7,a8 c)]
def GW (a:Bool):= bP 33 [(2,Ir a)]
def QZ (p:List D4):= bP 33 [(0,hV 52 (K4) p)]
def tZ (a:St):Option U:=ff Eu F Ev [.r,.l,.r,.b,.i] f116 J n a
def vv:=hQ Eu F Ev [.r,.l,.r,.b] f116 aO 1
def Lv (p b:List D4)(c a:Int):tZ F J (n+1) (oF p b c a)=br (decide (a<c)) (ck (bG a (b.length:Int)) ((o4 F0 (aI b a K4.az)).bind fun d=>br (!d.1) (J .ret (GW false)) (br (decide (a>0)) (ck (bG (aj (a-1)) (p.length:Int)) ((Et F0 (aI p (aj (a-1)) K4.az) (aI b a K4.az)).bind fun e=>br (!e.1) (J .ret (GW false)) (tZ F J n (oF p b c (aj (a+1)))))) (tZ F J n (oF p b c (aj (a+1))))))) (J (.exit 0) (QZ p)):=by kernel_rfl
def aiq (a:Bool):vv F .ret (GW a)=some (a,()):=by kernel_rfl
def afr (p:List D4):vv F (.exit 0) (QZ p)=some (decide ((p.length:Int)<=12),()):=by kernel_rfl
def xU (p:D5):=bj Eu F Ev f116 km aO 1 (p,())
def ap3 (p:D5):xU F p=tZ F (vv F) F.n (oF p p (p.length:Int) 0):=by kernel_rfl
def GX:Any:=.one ⟨km,aO,1,fun x=>xU F0 x.1⟩
def Xv:a1 116 GX:=aq Eu ⟨nL,aip,trivial⟩ func116 Ev (by kernel_rfl)
def aby:=[(30,cM),(41,bA),(49,eb),(56,AB),(60,eS)]
def rf (c:D1)(p:D9):=bj aby F ad f190 Hj aO 1 (c,p,())
def ap4 (c:D1)(p:D9):rf F c p=(eu F0 c).bind fun b=>br b.1 ((aZ F0 p.1 1 60).bind fun d=>br d.1 (br (p.2.1.toList==ak.toList) ((wz F0 c.1 p.2.2).bind fun a=>br a.1 (some (decide ((p.2.2.length:Int)>0),())) (some (false,()))) ((e7 F0 p.2.1).bind fun e=>br e.1 ((ew F0 p.2.1).bind fun f=>br (f.1==p.1) ((wz F0 c.1 p.2.2).bind fun a=>br a.1 (some (decide ((p.2.2.length:Int)>0),())) (some (false,()))) (some (false,()))) (some (false,())))) (some (false,()))) (some (false,())):=by kernel_rfl
def oG:Any:=.one ⟨Hj,aO,1,fun x=>rf F0 x.1 x.2.1⟩
def AD:a1 190 oG:=aq aby ⟨dP,bW,fA,Ps,hl,trivial⟩ func190 ad (by kernel_rfl)
def Ew (x:Int):=bj aA F ad f293 cE aO 1 (x,())
def Q0 (x:Int):Ew F x=some (x != x,()):=by kernel_rfl
def NW:Any:=.one ⟨cE,aO,1,fun x=>Ew F0 x.1⟩
def air:a1 293 NW:=aq aA trivial func293 ad (by kernel_rfl)
def NX:=[(293,NW)]
def vw (x y:Int):=bj NX F ad f248 auy cE 1 (x,y,())
def ac4 (x y:Int):vw F x y=(Ew F0 x).bind fun b=>(Ew F0 y).bind fun a=>br b.1 (br a.1 (some (0,())) (some (-1,()))) (br a.1 (some (1,())) (br (decide (x<y)) (some (-1,())) (br (decide (x>y)) (some (1,())) (some (0,()))))):=by kernel_rfl
def HI:Any:=.one ⟨auy,cE,1,fun x=>vw F0 x.1 x.2.1⟩
def ac5:a1 248 HI:=aq NX ⟨air,trivial⟩ func248 ad (by kernel_rfl)
def sw (x:ByteArray):=bj aA F ad f294 dC aO 1 (x,())
def HJ (x:ByteArray):sw F x=some (!(x.toList==x.toList),()):=by kernel_rfl
def FK:Any:=.one ⟨dC,aO,1,fun x=>sw F0 x.1⟩
def ZY:a1 294 FK:=aq aA trivial func294 ad (by kernel_rfl)
def FL:=[(294,FK)]
def nN (x y:ByteArray):=bj FL F ad f249 T0 cE 1 (x,y,())
def Vy (x y:ByteArray):nN F x y=(sw F0 x).bind fun b=>(sw F0 y).bind fun a=>br b.1 (br a.1 (some (0,())) (some (-1,()))) (br a.1 (some (1,())) (br (Op.bytesLess x.toList y.toList) (some (-1,())) (br (!(Op.bytesLess x.toList y.toList || (x.toList==y.toList))) (some (1,())) (some (0,()))))):=by kernel_rfl
def AE:Any:=.one ⟨T0,cE,1,fun x=>nN F0 x.1 x.2.1⟩
def Vz:a1 249 AE:=aq FL ⟨ZY,trivial⟩ func249 ad (by kernel_rfl)
def HK:=[(248,HI),(249,AE)]
def fB (a b:D9):=bj HK F ad f191 w3 cE 1 (a,b,())
def FM (a b:D9):fB F a b=(vw F0 a.1 b.1).bind fun c=>br (c.1 != 0) (some (c.1,())) ((nN F0 a.2.1 b.2.1).bind fun d=>some (d.1,())):=by kernel_rfl
def pe:Any:=.one ⟨w3,cE,1,fun x=>fB F0 x.1 x.2.1⟩
def FN:a1 191 pe:=aq HK ⟨ac5,Vz,trivial⟩ func191 ad (by kernel_rfl)
def AF:=[(190,oG),(191,pe)]
def AG:Nat->Option Hint:=look [(2,{live:=[1,2,7,8,9],xl:=[1],rl:=[4]})]
def mE (b d:List D9)(e f c a:Int):= cQ 36 [(1,hV 50 (K9) b),b0 2,(7,hV 50 (K9) d),(8,a8 e),(9,a8 f)] [(2,[ao c,ao a])] []
def CR (a:Bool):= bP 36 [(4,Ir a)]
def NY (a:List D9):= bP 36 [(1,hV 50 (K9) a)]
def rh (a:St):Option U:=ff AF F AG [.r,.l,.r,.b,.i] f117 J n a
def sx:=hQ AF F AG [.r,.l,.r,.b] f117 aO 1
def HL (b d:List D9)(f a c e:Int):rh F J (n+1) (mE b d f a c e)=br (decide (a<f)) (ck (bG a (d.length:Int)) ((rf F0 (c,e) (aI d a K9.az)).bind fun g=>br (!g.1) (J .ret (CR false)) (br (decide (a>0)) (ck (bG (aj (a-1)) (b.length:Int)) ((fB F0 (aI b (aj (a-1)) K9.az) (aI d a K9.az)).bind fun h=>br (decide (h.1>=0)) (J .ret (CR false)) (rh F J n (mE b d f (aj (a+1)) c e)))) (rh F J n (mE b d f (aj (a+1)) c e))))) (J (.exit 0) (NY b)):=by kernel_rfl
def afs (a:Bool):sx F .ret (CR a)=some (a,()):=by kernel_rfl
def ac6 (a:List D9):sx F (.exit 0) (NY a)=some (decide ((a.length:Int)<=20),()):=by kernel_rfl
def k4 (c:D1)(a:D13):=bj AF F AG f117 aD4 aO 1 (c,a,())
def amC (c:D1)(a:D13):k4 F c a=rh F (sx F) F.n (mE a a (a.length:Int) 0 c.1 c.2):=by kernel_rfl
def CS:Any:=.one ⟨aD4,aO,1,fun x=>k4 F0 x.1 x.2.1⟩
def UC:a1 117 CS:=aq AF ⟨AD,FN,trivial⟩ func117 AG (by kernel_rfl)
def abz:=[(41,bA)]
def ri (d:D14):=bj abz F ad f118 po aO 1 (d,())
def ap5 (d:D14):ri F d=br (decide ((d.1.length:Int)<=100000)) ((aZ F0 d.2 0 (d.1.length:Int)).bind fun a=>some (a.1,())) (some (false,())):=by kernel_rfl
def oH:Any:=.one ⟨po,aO,1,fun x=>ri F0 x.1⟩
def AH:a1 118 oH:=aq abz ⟨bW,trivial⟩ func118 ad (by kernel_rfl)
def aft:Nat->Option Hint:=look [(900008,{live:=[],mat:=[(1,0,K21)]})]
def SH (m:Po):=bj aA F aft f193 w5 w5 0 (m,())
def ath (m:Po):SH F m=br (m.1==1) (some ((m.1,0,m.2.2.1,(0,ak,[]),(0,ak,[]),0,0,0,0,0),())) (br (m.1==2) (some ((m.1,0,(ak,0,ak,[]),m.2.2.2.1,(0,ak,[]),0,0,0,0,0),())) (br (m.1==3) (some ((m.1,m.2.1,(ak,0,ak,[]),(0,ak,[]),m.2.2.2.2.1,m.2.2.2.2.2.1,0,0,0,0),())) (br (m.1==4) (some ((m.1,0,(ak,0,ak,[]),(0,ak,[]),(0,ak,[]),0,m.2.2.2.2.2.2),())) (some ((m.1,0,(ak,0,ak,[]),(0,ak,[]),(0,ak,[]),0,0,0,0,0),()))))):=by kernel_rfl
def Xw:Any:=.one ⟨w5,w5,0,fun x=>SH F0 x.1⟩
def ati:a1 193 Xw:=aq aA trivial func193 aft (by kernel_rfl)
def Q1:=[(55,kD)]
def AI (a b:D15):=bj Q1 F ad f250 aD5 aO 1 (a,b,())
def afu (a b:D15):AI F a b=br (a.1.toList==b.1.toList) ((jy F0 a.2 b.2).bind fun c=>some (c.1,())) (some (false,())):=by kernel_rfl
def Lw:Any:=.one ⟨aD5,aO,1,fun x=>AI F0 x.1 x.2.1⟩
def afv:a1 250 Lw:=aq Q1 ⟨q8,trivial⟩ func250 ad (by kernel_rfl)
end
end Go.Am.Tryz
