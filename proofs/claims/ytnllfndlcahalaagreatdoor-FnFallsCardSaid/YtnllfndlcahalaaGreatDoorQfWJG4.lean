/- No condition. -/
import Derived.Test.YtnllfndlcahalaaGreatDoorQfWJG3
set_option linter.all false
set_option maxRecDepth 100000
namespace Go.Am.Tryz
open Go.Am Go.Proofs Go.Proofs.Tryz
noncomputable section
variable {U:Type} (F:rH) (J:Ex->St->Option U) (n:Nat)
def Aj:=[(266,WS)]
def Ak:Nat->Option Hint:=look [(3,{live:=[1,2,4,6,7],yc:=[(4,2,3,.int .i64),(4,3,65,b8),(4,4,105,ek),(4,5,41,cz)],xl:=[2,4],rl:=[4,5]})]
def sk (a i p b w c C D r d e f g h:Int)(j:ByteArray)(k:List Int)(l:ByteArray)(m:List D4)(o:List D9)(q:List Int)(s:Int)(t:List lv)(E:List Int)(u:List a7)(v:List bS)(x:List bF)(y:List Int)(z:List a7)(A:List bS)(B:List bF):St:={nt:=59,tm:=[(1,bb a),b1 2,b1 4,b1 6,(7,bb i)],bx:=[(2,[ao w,ao c,.own 1000000 none,.own 1000001 none,.own 1000002 none,.own 1000003 none]),(4,[ao C,ao D,.own 1000004 none,.own 1000005 none,.own 1000006 none,.own 1000007 none]),(6,[ao r,ao d,ao e,ao f,ao g,ao h,.str j,.ro true 3 (.int .i64) k,.str l,.ro true 52 (K4) m,.ro true 50 (K9) o,.ro true 5 (.int .u8) q,ao s,.ro true 136 (pY) t])],bl:=[az 1000000 3 (.int .i64) E,az 1000001 65 b8 u,az 1000002 105 ek v,az 1000003 41 cz x,az 1000004 3 (.int .i64) y,az 1000005 65 b8 z,az 1000006 105 ek A,az 1000007 41 cz B],sp:=.v (.agg [ao p,ao b,.own 1000000 none,.own 1000001 none,.own 1000002 none,.own 1000003 none])}
def CG (e p a f g:Int)(h:List Int)(b:List a7)(c:List bS)(d:List bF):St:={nt:=59,tm:=[b1 4,(5,bb e)],bx:=[(4,[ao f,ao g,.own 1000000 none,.own 1000001 none,.own 1000002 none,.own 1000003 none])],bl:=[az 1000000 3 (.int .i64) h,az 1000001 65 b8 b,az 1000002 105 ek c,az 1000003 41 cz d],sp:=.v (.agg [ao p,ao a,.own 1000000 none,.own 1000001 none,.own 1000002 none,.own 1000003 none])}
def Nk (p a w b j k:Int)(l:List Int)(c:List a7)(d:List bS)(e:List bF)(f:List Int)(g:List a7)(h:List bS)(i:List bF):St:={nt:=59,tm:=[b1 2,b1 4],bx:=[(2,[ao w,ao b,.own 1000000 none,.own 1000001 none,.own 1000002 none,.own 1000003 none]),(4,[ao j,ao k,.own 1000004 none,.own 1000005 none,.own 1000006 none,.own 1000007 none])],bl:=[az 1000000 3 (.int .i64) l,az 1000001 65 b8 c,az 1000002 105 ek d,az 1000003 41 cz e,az 1000004 3 (.int .i64) f,az 1000005 65 b8 g,az 1000006 105 ek h,az 1000007 41 cz i],sp:=.v (.agg [ao p,ao a,.own 1000000 none,.own 1000001 none,.own 1000002 none,.own 1000003 none])}
def Al (a:St):Option U:=fe Aj F Ak [.r,.r,.l,.r,.b,.i] f207 J n a
def sn:=Vy Tryz.prog (look Aj) F Ak [.r,.r,.l,.r,.b] (eW f207) (aAL Tryz.prog f207 (hJ,true) (.int .i64,false) (hJ,true))
def Hq (a i p e w c D E r j k l m o:Int)(q:ByteArray)(s:List Int)(t:ByteArray)(u:List D4)(b:List D9)(v:List Int)(x:Int)(y:List lv)(h:List Int)(d:List a7)(f:List bS)(g:List bF)(z:List Int)(A:List a7)(B:List bS)(C:List bF):Al F J (n+1) (sk a i p e w c D E r j k l m o q s t u b v x y h d f g z A B C)=br (decide (i>=0)) (ck (bE i (b.length:Int)) (br ((aH b i K9.aC).2.1.toList==ak.toList) (Al F J n (sk a (aj (i-1)) p e w c D E r j k l m o q s t u b v x y h d f g z A B C)) (ck (bE i (b.length:Int)) (ck (bE i (b.length:Int)) ((Sb F0 (w,c) (r,j,k,(l,m,(o,q,s),t),u,b,(v,x),y) (aH b i K9.aC).1 (aH b i K9.aC).2.1 true).bind fun G=>br (!G.2.1) (J .ret (CG 3 p e w c h d f g)) (ck (bE a (d.length:Int)) (J .ret (CG 0 p e w c h (d.set a.toNat G.1) f g)))))))) (J (.exit 0) (Nk p e w c D E h d f g z A B C)):=by kernel_rfl
def Nl (a p f g h:Int)(e:List Int)(b:List a7)(c:List bS)(d:List bF):sn F .ret (CG a p f g h e b c d)=br (a==0) (some (((g,h),e,b,c,d),a,hJ.aC)) (some (hJ.aC,a,(p,f),e,b,c,d)):=by kernel_rfl
def ack (p a w f k l:Int)(e:List Int)(b:List a7)(c:List bS)(d:List bF)(g:List Int)(h:List a7)(i:List bS)(j:List bF):sn F (.exit 0) (Nk p a w f k l e b c d g h i j)=some (hJ.aC,3,(p,a),e,b,c,d):=by kernel_rfl
def IL (w:lx)(a:Int):Option (lx×Int×lx):=arE Tryz.prog (look Aj) F Ak f207 [(hJ,true),(.int .i64,false)] 0 (hJ,true) (.int .i64,false) (hJ,true) (w,a,())
def alD (w:lx)(a:Int):IL F w a=ck (bE a (w.2.2.1.length:Int)) (Al F (sn F) F.n (sk a (aj (((aH w.2.2.1 a b8.aC).2.2.2.2.2.1.length:Int)-1)) w.1.1 w.1.2 w.1.1 w.1.2 0 0 (aH w.2.2.1 a b8.aC).1 (aH w.2.2.1 a b8.aC).2.1 (aH w.2.2.1 a b8.aC).2.2.1 (aH w.2.2.1 a b8.aC).2.2.2.1.1 (aH w.2.2.1 a b8.aC).2.2.2.1.2.1 (aH w.2.2.1 a b8.aC).2.2.2.1.2.2.1.1 (aH w.2.2.1 a b8.aC).2.2.2.1.2.2.1.2.1 (aH w.2.2.1 a b8.aC).2.2.2.1.2.2.1.2.2 (aH w.2.2.1 a b8.aC).2.2.2.1.2.2.2 (aH w.2.2.1 a b8.aC).2.2.2.2.1 (aH w.2.2.1 a b8.aC).2.2.2.2.2.1 (aH w.2.2.1 a b8.aC).2.2.2.2.2.2.1.1 (aH w.2.2.1 a b8.aC).2.2.2.2.2.2.1.2 (aH w.2.2.1 a b8.aC).2.2.2.2.2.2.2 w.2.1 w.2.2.1 w.2.2.2.1 w.2.2.2.2 [] [] [] [])):=by kernel_rfl
def Qv:Any:=.sel ⟨[(hJ,true),(.int .i64,false)],0,(hJ,true),(.int .i64,false),(hJ,true),fun x=>IL F0 x.1 x.2.1⟩
def alE:a8 207 Qv:=ok4 (show yh Tryz.prog TB Aj from⟨asi,trivial⟩) func207 (by kernel_rfl) (by kernel_rfl) Ak (by kernel_rfl) (by kernel_rfl)
def aaH:=[(66,gR),(71,jV),(123,mg),(144,ou)]
abbrev aDP:List (Ty×Bool):=[(K14,true),(.int .i64,false)]
def Nn (d:D14)(keep:Int):=bm aaH F ad f208 aDP pf 2 (d,keep,())
def aoT (d:D14)(keep:Int):Nn F d keep=(iP F0 d).bind fun b=>(nm F0 d).bind fun c=>br (!c.1) (some (b.1,())) ((bK F0 keep (aj ((d.1.length:Int)-d.2))).bind fun e=>(dK F0 0 e.1).bind fun a=>ck (RZ 0 (aj (d.2+a.1)) (d.1.length:Int)) (ck (en F 0 ((d.1.take (aj (d.2+a.1)).toNat).drop (0:Int).toNat).length 1) (some (([]++((d.1.take (aj (d.2+a.1)).toNat).drop (0:Int).toNat),aj (d.2+a.1)),())))):=by kernel_rfl
def T1:Any:=.one ⟨aDP,pf,2,fun x=>Nn F0 x.1 x.2.1⟩
def aoU:a8 208 T1:=aq aaH ⟨lA,oU,uQ,yC,trivial⟩ func208 ad (by kernel_rfl)
def Sc: Option (Args BK):=bm aB F ad f312 [] BK 2 (())
def alF: Sc F= some ((0,0,(0,ak,[]),ak),()):=by kernel_rfl
def Qw:Any:=.one ⟨[],BK,2,fun x=>Sc F0⟩
def alG:a8 312 Qw:=aq aB trivial func312 ad (by kernel_rfl)
def aaI:=[(141,ic),(146,ov),(147,rT),(148,Ku)]
def No (c:D1)(b:List Int):=bm aaI F ad f313 Tl ajC 2 (c,b,())
def aoV (c:D1)(b:List Int):No F c b=(cI F0 (b,0,true)).bind fun d=>(cI F0 d.2.1).bind fun e=>(Co F0 e.2.1).bind fun f=>(nC F0 f.2.1).bind fun a=>br (!a.2.1.2.2) (some ((0,0,(0,ak,[]),ak),false,())) (br (a.2.1.2.1 != (b.length:Int)) (some ((0,0,(0,ak,[]),ak),false,())) ((jj F0 c (d.1.1,e.1.1,f.1.1,a.1.1)).bind fun g=>br (!g.1) (some ((0,0,(0,ak,[]),ak),false,())) (some ((d.1.1,e.1.1,f.1.1,a.1.1),true,())))):=by kernel_rfl
def T2:Any:=.one ⟨Tl,ajC,2,fun x=>No F0 x.1 x.2.1⟩
def aoW:a8 313 T2:=aq aaI ⟨l3,yI,Gn,aan,trivial⟩ func313 ad (by kernel_rfl)
def vm:=[(216,uH),(312,Qw),(313,T2)]
def vn:Nat->Option Hint:=look [(3,{live:=[1,2,4,6,7],yc:=[(4,4,3,.int .i64)],rl:=[4,5]})]
def pC (b:List Int)(a c d j k l:Int)(m o:ByteArray)(p e f:Int)(g h:ByteArray)(q i:List Int):= cR 62 [(1,ia 5 (.int .u8) b),b1 2,b1 4,b1 6,(7,bb a)] [(2,[ao c,ao d]),(4,[ao j,ao k,ao l,.str m,.own 1000000 none,.str o]),(6,[ao p,ao e,ao f,.str g,.own 1000001 none,.str h])] [az 1000000 3 (.int .i64) q,az 1000001 3 (.int .i64) i]
def kW (a b c d:Int)(e f:ByteArray)(g:List Int):= cR 62 [b1 4,(5,bb a)] [(4,[ao b,ao c,ao d,.str e,.own 1000000 none,.str f])] [az 1000000 3 (.int .i64) g]
def vo (a:St):Option U:=fe vm F vn [.r,.r,.r,.b,.i] f267 J n a
abbrev atJ:List (Ty×Bool):=[(K12,true),(.int .i64,false)]
def An:=hH vm F vn [.r,.r,.r,.b] f267 atJ 2
def Fu (b:List Int)(e c l m o p:Int)(q r:ByteArray)(k f g:Int)(h i:ByteArray)(s j:List Int):vo F J (n+1) (pC b e c l m o p q r k f g h i s j)=(kQ F0 b e).bind fun a=>br (!a.2.2.1) (J .ret (kW e k f g h i j)) (br (decide (a.1>=(aj ((b.length:Int)-a.2.1)))) (J .ret (kW e k f g h i j)) (ck (bE (aj (a.2.1+a.1)) (b.length:Int)) (br ((aH b (aj (a.2.1+a.1)) 0) != 10) (J .ret (kW e k f g h i j)) (ck (RZ a.2.1 (aj (a.2.1+a.1)) (b.length:Int)) ((No F0 (c,l) ((b.take (aj (a.2.1+a.1)).toNat).drop a.2.1.toNat)).bind fun d=>br (!d.2.1) (J .ret (kW e k f g h i j)) (vo F J n (pC b (aj ((aj (a.2.1+a.1))+1)) c l m o p q r d.1.1 d.1.2.1 d.1.2.2.1.1 d.1.2.2.1.2.1 d.1.2.2.2 s d.1.2.2.1.2.2))))))):=by kernel_rfl
def KZ (a b c d:Int)(e f:ByteArray)(g:List Int):An F .ret (kW a b c d e f g)=some ((b,c,(d,e,g),f),a,()):=by kernel_rfl
def Eh (c:D1)(b:List Int):=bm vm F vn f267 Tl atJ 2 (c,b,())
def ahr (c:D1)(b:List Int):Eh F c b=(Sc F0).bind fun a=>vo F (An F) F.n (pC b 0 c.1 c.2 0 0 0 ak ak a.1.1 a.1.2.1 a.1.2.2.1.1 a.1.2.2.1.2.1 a.1.2.2.2 [] a.1.2.2.1.2.2):=by kernel_rfl
def Np:Any:=.one ⟨Tl,atJ,2,fun x=>Eh F0 x.1 x.2.1⟩
def ahs:a8 267 Np:=aq vm ⟨Ks,alG,aoW,trivial⟩ func267 vn (by kernel_rfl)
def ajJ:=[(64,bY),(66,gR),(71,jV),(74,cn),(267,Np)]
def Qx (c:D1)(r:a7):=bm ajJ F ad f209 x4 To 2 (c,r,())
def av0 (c:D1)(r:a7):Qx F c r=(dx F0 c r).bind fun b=>br (!b.1) ((ba F0 r).bind fun d=>some (d.1,())) ((Eh F0 c r.2.2.2.2.2.2.1.1).bind fun a=>(dK F0 a.1.1 (aj (a.1.2.2.1.1+1))).bind fun e=>(dK F0 e.1 1).bind fun f=>(bK F0 60 f.1).bind fun g=>ck (RZ 0 a.2.1 (r.2.2.2.2.2.2.1.1.length:Int)) (ck (en F 0 ((r.2.2.2.2.2.2.1.1.take a.2.1.toNat).drop (0:Int).toNat).length 1) (some ((r.1,g.1,0,a.1,[],[],([]++((r.2.2.2.2.2.2.1.1.take a.2.1.toNat).drop (0:Int).toNat),a.2.1),[]),())))):=by kernel_rfl
def aaJ:Any:=.one ⟨x4,To,2,fun x=>Qx F0 x.1 x.2.1⟩
def av1:a8 209 aaJ:=aq ajJ ⟨cl,lA,oU,cU,ahs,trivial⟩ func209 ad (by kernel_rfl)
def ajK:=[(64,bY),(74,cn),(125,jw),(268,kU),(269,mu)]
def YH (c:D1)(r:a7):=bm ajK F ad f210 x4 gB 2 (c,r,())
def av2 (c:D1)(r:a7):YH F c r=(ba F0 r).bind fun a=>(dx F0 c r).bind fun f=>br (!f.1) (some (a.1,false,())) (br (decide (r.2.1>=60)) (some (a.1,false,())) ((mj F0 c (aj (r.2.1+1))).bind fun b=>br (b.1==r.1) ((fk F0 c a.1.2.2.2.2.2.1 (aj (r.2.1+1),ak,[r.1])).bind fun d=>br (!d.2.1) ((ba F0 r).bind fun g=>some (g.1,false,())) (some ((a.1.1,aj (r.2.1+1),a.1.2.2.1,a.1.2.2.2.1,a.1.2.2.2.2.1,d.1,a.1.2.2.2.2.2.2),true,()))) ((fu F0 c (a.1.1,aj (r.2.1+1),a.1.2.2) b.1 (3,aj (r.2.1+1),(ak,0,ak,[]),(0,ak,[]),r.2.2.2.1.2.2.1,r.1,0,0,0,0)).bind fun e=>br (!e.1.2.1) ((ba F0 r).bind fun h=>some (h.1,false,())) (some (e.1.1,true,()))))):=by kernel_rfl
def aaK:Any:=.one ⟨x4,gB,2,fun x=>YH F0 x.1 x.2.1⟩
def av3:a8 210 aaK:=aq ajK ⟨cl,cU,nE,r9,vf,trivial⟩ func210 ad (by kernel_rfl)
def aaL:=[(64,bY),(202,O2),(205,TX),(206,Qu),(207,Qv),(208,T1),(209,aaJ),(210,aaK)]
def Nq (w:lx)(d:D45):Option (lx×Int×lx):=arE Tryz.prog (look aaL) F ad f140 [(hJ,true),(K45,true)] 0 (hJ,true) (.int .i64,false) (hJ,true) (w,d,())
def aoX (w:lx)(d:D45):Nq F w d=ck (bE d.2.1 (w.2.2.1.length:Int)) (br (d.1==1) ((Ng F0 w d.2.1).bind fun b=>br (b.2.1==0) (some (b.1,0,hJ.aC)) (br (b.2.1==0) (none) (some (hJ.aC,b.2.1,w.1,b.2.2.2)))) (br (d.1==2) ((IK F0 w d.2.1).bind fun c=>br (c.2.1==0) (some (c.1,0,hJ.aC)) (br (c.2.1==0) (none) (some (hJ.aC,c.2.1,w.1,c.2.2.2)))) (br (d.1==6) ((IL F0 w d.2.1).bind fun e=>br (e.2.1==0) (some (e.1,0,hJ.aC)) (br (e.2.1==0) (none) (some (hJ.aC,e.2.1,w.1,e.2.2.2)))) (br (d.1==8) ((ba F0 (aH w.2.2.1 d.2.1 b8.aC)).bind fun a=>(Nn F0 (aH w.2.2.1 d.2.1 b8.aC).2.2.2.2.2.2.1 d.2.2.1).bind fun h=>(Qx F0 w.1 (a.1.1,a.1.2.1,a.1.2.2.1,a.1.2.2.2.1,a.1.2.2.2.2.1,a.1.2.2.2.2.2.1,h.1,a.1.2.2.2.2.2.2.2)).bind fun i=>ck (bE d.2.1 (w.2.2.1.length:Int)) (some ((w.1,w.2.1,w.2.2.1.set d.2.1.toNat i.1,w.2.2.2),0,hJ.aC))) (br (d.1==7) ((YH F0 w.1 (aH w.2.2.1 d.2.1 b8.aC)).bind fun f=>br (!f.2.1) (some (hJ.aC,3,w)) (ck (bE d.2.1 (w.2.2.1.length:Int)) (some ((w.1,w.2.1,w.2.2.1.set d.2.1.toNat f.1,w.2.2.2),0,hJ.aC)))) ((Qm F0 w.1 (aH w.2.2.1 d.2.1 b8.aC) d.2.2.2).bind fun g=>br (!g.2.1) (some (hJ.aC,3,w)) (br (d.2.2.2.1 != 4) (some (hJ.aC,3,w)) (ck (bE d.2.1 (w.2.2.1.length:Int)) (some ((w.1,w.2.1,w.2.2.1.set d.2.1.toNat g.1,w.2.2.2),0,hJ.aC)))))))))):=by kernel_rfl
def T3:Any:=.sel ⟨[(hJ,true),(K45,true)],0,(hJ,true),(.int .i64,false),(hJ,true),fun x=>Nq F0 x.1 x.2.1⟩
def aoY:a8 140 T3:=ok4 (show yh Tryz.prog TB aaL from⟨cl,aew,aoQ,alC,alE,aoU,av1,av3,trivial⟩) func140 (by kernel_rfl) (by kernel_rfl) ad (by kernel_rfl) (by kernel_rfl)
def aaM:=[(68,cN),(137,TP),(138,TW),(139,GA),(140,T3)]
def Nr (w:lx)(d:D45):Option (lx×Int×lx):=arE Tryz.prog (look aaM) F ad f72 [(hJ,true),(K45,true)] 0 (hJ,true) (.int .i64,false) (hJ,true) (w,d,())
def aoZ (w:lx)(d:D45):Nr F w d=br (d.1==3) ((w6 F0 w d).bind fun a=>br (a.2.1==0) (some (a.1,0,hJ.aC)) (br (a.2.1==0) (none) (some (hJ.aC,a.2.1,w.1,a.2.2.2)))) (br (d.1==4) ((w6 F0 w d).bind fun a=>br (a.2.1==0) (some (a.1,0,hJ.aC)) (br (a.2.1==0) (none) (some (hJ.aC,a.2.1,w.1,a.2.2.2)))) (br (d.1==5) ((w6 F0 w d).bind fun a=>br (a.2.1==0) (some (a.1,0,hJ.aC)) (br (a.2.1==0) (none) (some (hJ.aC,a.2.1,w.1,a.2.2.2)))) (br (d.1==10) ((Nd F0 w d).bind fun b=>br (b.2.1==0) (some (b.1,0,hJ.aC)) (br (b.2.1==0) (none) (some (hJ.aC,b.2.1,w.1,b.2.2.2)))) ((Ft F0 w).bind fun e=>(cX F0 e.1 d.2.1).bind fun f=>br (!f.1) (some (hJ.aC,2,w)) ((Nq F0 w d).bind fun c=>br (c.2.1==0) (some (c.1,0,hJ.aC)) (br (c.2.1==0) (none) (some (hJ.aC,c.2.1,w.1,c.2.2.2)))))))):=by kernel_rfl
def T4:Any:=.sel ⟨[(hJ,true),(K45,true)],0,(hJ,true),(.int .i64,false),(hJ,true),fun x=>Nr F0 x.1 x.2.1⟩
def ao0:a8 72 T4:=ok4 (show yh Tryz.prog TB aaM from⟨dL,aoG,aoN,WN,aoY,trivial⟩) func72 (by kernel_rfl) (by kernel_rfl) ad (by kernel_rfl) (by kernel_rfl)
def WT:=[(72,T4)]
abbrev ajL:List (Ty×Bool):=[(hJ,true),(K45,true)]
def IM (w:lx)(d:D45):=Fa WT F ad f28 ajL 0 (.own true) jE [] 2 (w,d,())
def alH (w:lx)(d:D45):IM F w d=(Nr F0 w d).bind fun a=>br (a.2.1==0) (br (0 != 0) (none) (some ((a.1,()),()))) (br (a.2.1 != 0) (some (((w.1,a.2.2.2),()),())) (none)):=by kernel_rfl
def Qy:Any:=.two ⟨ajL,0,(.own true),jE,2,[],fun x=>IM F0 x.1 x.2.1⟩
def alI:a8 28 Qy:=aBf WT ⟨ao0,trivial⟩ func28 ad (by kernel_rfl)
def pD:=[(22,V1),(23,BJ),(24,Cu),(25,ee),(26,Tq),(27,Fo),(28,Qy)]
def pE:Nat->Option Hint:=look [(7,{live:=[2,4,5,6,7,8,9],yc:=[(2,2,3,.int .i64),(2,3,65,b8),(2,4,105,ek),(2,5,41,cz)],xl:=[2,5,7],rl:=[2,3]})]
def lT (a i r s:Int)(t:List Int)(u v x b w c:Int)(y:List D45)(d:List Int)(e:List a7)(f:List bS)(g:List bF)(h:List Int)(j:List a7)(k:List bS)(l:List bF)(m:List Int)(o:List a7)(p:List bS)(q:List bF):= cR 39 [b1 2,(4,.v (.c (.ptr 12 0))),b1 5,b1 6,(7,.v (.c (.own 1000000 none))),(8,bb a),(9,bb i)] [(2,[ao r,ao s,.own 1000001 none,.own 1000002 none,.own 1000003 none,.own 1000004 none]),(12,[.ro false 5 (.int .u8) t,ao u,ao v]),(5,[ao x,ao b,.own 1000005 none,.own 1000006 none,.own 1000007 none,.own 1000008 none]),(6,[ao w,ao c,.own 1000009 none,.own 1000010 none,.own 1000011 none,.own 1000012 none])] [az 1000000 56 K45 y,az 1000001 3 (.int .i64) d,az 1000002 65 b8 e,az 1000003 105 ek f,az 1000004 41 cz g,az 1000005 3 (.int .i64) h,(1000006,some ⟨65,b8,j,false,true⟩),(1000007,some ⟨105,ek,k,false,true⟩),az 1000008 41 cz l,az 1000009 3 (.int .i64) m,az 1000010 65 b8 o,az 1000011 105 ek p,az 1000012 41 cz q]
def Fv (j k l a:Int)(m:List D45)(b:List Int)(c:List a7)(d:List bS)(e:List bF)(f:List Int)(g:List a7)(h:List bS)(i:List bF):= cR 39 [b1 2,b1 5,(7,.v (.c (.own 1000000 none)))] [(2,[ao j,ao k,.own 1000001 none,.own 1000002 none,.own 1000003 none,.own 1000004 none]),(5,[ao l,ao a,.own 1000005 none,.own 1000006 none,.own 1000007 none,.own 1000008 none])] [az 1000000 56 K45 m,az 1000001 3 (.int .i64) b,az 1000002 65 b8 c,az 1000003 105 ek d,az 1000004 41 cz e,az 1000005 3 (.int .i64) f,(1000006,some ⟨65,b8,g,false,true⟩),(1000007,some ⟨105,ek,h,false,true⟩),az 1000008 41 cz i]
def pF (a:St):Option U:=fe pD F pE [.r,.r,.r,.r,.r,.r,.l,.r,.b,.i] f7 J n a
abbrev ayw:List (Ty×Bool):=[(hJ,true),(K46,false)]
def tz:=hH pD F pE [.r,.r,.r,.r,.r,.r,.l,.r,.b] f7 ayw 0
def Ao (d i u v:Int)(y:List Int)(z A x e w f:Int)(c:List D45)(g:List Int)(h:List a7)(j:List bS)(k:List bF)(l:List Int)(m:List a7)(o:List bS)(p:List bF)(q:List Int)(r:List a7)(s:List bS)(t:List bF):pF F J (n+1) (lT d i u v y z A x e w f c g h j k l m o p q r s t)=br (decide (i<d)) ((r3 F0 (y,z,A) ((w,f),q,r,s,t)).bind fun a=>ck (en F c.length [a.1.1].length 240) ((IM F0 ((w,f),q,r,s,t) a.1.1).bind fun b=>pF F J n (lT d (aj (i+1)) u v a.2.1.1 a.2.1.2.1 a.2.1.2.2 x e b.1.1.1.1 b.1.1.1.2 (c++[a.1.1]) g h j k l m o p b.1.1.2.1 b.1.1.2.2.1 b.1.1.2.2.2.1 b.1.1.2.2.2.2))) (J (.exit 0) (Fv u v x e c g h j k l m o p)):=by kernel_rfl
def U4 (l m f a:Int)(g:List D45)(h:List Int)(i:List a7)(j:List bS)(k:List bF)(b:List Int)(c:List a7)(d:List bS)(e:List bF):tz F (.exit 0) (Fv l m f a g h i j k b c d e)=some (((f,a),b,c,d,e),g,()):=by kernel_rfl
def vp (a:List Int):=bm pD F pE f7 l1 ayw 0 (a,())
def acm (d:List Int):vp F d=(Kf F0 d).bind fun e=>(ph F0 e.1.1).bind fun a=>(yT F0 a.1.1).bind fun b=>(MN F0 d 70 140).bind fun f=>(ax F0 a.2.1 f.1).bind fun c=>pF F (tz F) F.n (lT c.1.1 0 0 0 c.2.1.1 c.2.1.2.1 c.2.1.2.2 a.1.1.1.1 a.1.1.1.2 b.1.1.1 b.1.1.2 [] [] [] [] [] a.1.1.2.1 a.1.1.2.2.1 a.1.1.2.2.2.1 a.1.1.2.2.2.2 b.1.2.1 b.1.2.2.1 b.1.2.2.2.1 b.1.2.2.2.2):=by kernel_rfl
def Hr:Any:=.one ⟨l1,ayw,0,fun x=>vp F0 x.1⟩
def acn:a8 7 Hr:=aq pD ⟨arW,Wk,Tp,fP,aoh,Zp,alI,trivial⟩ func7 pE (by kernel_rfl)
def dZ (l:List Int):=bm aB F ad f29 ko ko 2 (l,())
def CH (l:List Int):dZ F l=ck (en F 0 l.length 8) (some ([]++l,())):=by kernel_rfl
def fv:Any:=.one ⟨ko,ko,2,fun x=>dZ F0 x.1⟩
def jH:a8 29 fv:=aq aB trivial func29 ad (by kernel_rfl)
def aZ (a low high:Int):=bm aB F ad f41 aDg aP 1 (a,low,high,())
def ao1 (a low high:Int):aZ F a low high=br (decide (a>=low)) (some (decide (a<=high),())) (some (false,())):=by kernel_rfl
def bA:Any:=.one ⟨aDg,aP,1,fun x=>aZ F0 x.1 x.2.1 x.2.2.1⟩
def bW:a8 41 bA:=aq aB trivial func41 ad (by kernel_rfl)
def aaN:=[(41,bA)]
def ep (c:D1):=bm aaN F ad f30 S8 aP 1 (c,())
def ao2 (c:D1):ep F c=(aZ F0 c.1 4 7).bind fun a=>br a.1 ((aZ F0 c.2 1 6).bind fun b=>some (b.1,())) (some (false,())):=by kernel_rfl
def cO:Any:=.one ⟨S8,aP,1,fun x=>ep F0 x.1⟩
def dP:a8 30 cO:=aq aaN ⟨bW,trivial⟩ func30 ad (by kernel_rfl)
def so: Option (Args gv):=bm aB F ad f169 [] gv 2 (())
def T5: so F= some ((0,ak,[]),()):=by kernel_rfl
def CI:Any:=.one ⟨[],gv,2,fun x=>so F0⟩
def T6:a8 169 CI:=aq aB trivial func169 ad (by kernel_rfl)
def iQ:Nat->Option Hint:=look [(4,{live:=[0,1,12,13],rl:=[4]})]
def gE (a b:List Int)(c d:Int):= bU 26 [(0,ia 3 (.int .i64) a),(1,ia 3 (.int .i64) b),(12,bb c),(13,bb d)]
def tV (a:Bool):= bU 26 [(4,JH a)]
def th   := bU 26 []
def iR (a:St):Option U:=fe aB F iQ [.r,.r,.l,.r,.b,.i] f115 J n a
def gF:=hH aB F iQ [.r,.r,.l,.r,.b] f115 aP 1
def pG (b c:List Int)(d a:Int):iR F J (n+1) (gE b c d a)=br (decide (a<d)) (ck (bE a (b.length:Int)) (ck (bE a (c.length:Int)) (br ((aH b a 0) != (aH c a 0)) (J .ret (tV false)) (iR F J n (gE b c d (aj (a+1))))))) (J (.exit 0) (th)):=by kernel_rfl
def Mj (a:Bool):gF F .ret (tV a)=some (a,()):=by kernel_rfl
def K0: gF F (.exit 0) (th)=some (true,()):=by kernel_rfl
def gV (a b:List Int):=bm aB F iQ f115 akN aP 1 (a,b,())
def Qz (a b:List Int):gV F a b=br ((a.length:Int) != (b.length:Int)) (some (false,())) (iR F (gF F) F.n (gE a b (a.length:Int) 0)):=by kernel_rfl
def lC:Any:=.one ⟨akN,aP,1,fun x=>gV F0 x.1 x.2.1⟩
def w8:a8 115 lC:=aq aB trivial func115 iQ (by kernel_rfl)
def aaO:=[(115,lC)]
def jx (a b:D9):=bm aaO F ad f55 wX aP 1 (a,b,())
def WU (a b:D9):jx F a b=br (a.1==b.1) (br (a.2.1.toList==b.2.1.toList) ((gV F0 a.2.2 b.2.2).bind fun c=>some (c.1,())) (some (false,()))) (some (false,())):=by kernel_rfl
def kz:Any:=.one ⟨wX,aP,1,fun x=>jx F0 x.1 x.2.1⟩
def q4:a8 55 kz:=aq aaO ⟨w8,trivial⟩ func55 ad (by kernel_rfl)
def aeC:=[(245,Ms)]
def wu (s:ByteArray)(a:Int):=bm aeC F ad f184 Z3 ayq 1 (s,a,())
def asj (s:ByteArray)(a:Int):wu F s a=(strings_Split F0 s (strOf [a])).bind fun b=>some (b.1,()):=by kernel_rfl
def La:Any:=.one ⟨Z3,ayq,1,fun x=>wu F0 x.1 x.2.1⟩
def aaP:a8 184 La:=aq aeC ⟨agL,trivial⟩ func184 ad (by kernel_rfl)
end
end Go.Am.Tryz
namespace Go.Am.Tryz
open Go.Am Go.Proofs Go.Proofs.Tryz
noncomputable section
variable {U:Type} (F:rH) (J:Ex->St->Option U) (n:Nat)
def aaQ:=[(179,PB)]
def kX (a:Int):=bm aaQ F ad f105 cF dC 1 (a,())
def ao3 (a:Int):kX F a=(strconv_Itoa F0 a).bind fun b=>some (b.1,()):=by kernel_rfl
def vq:Any:=.one ⟨cF,dC,1,fun x=>kX F0 x.1⟩
def Lb:a8 105 vq:=aq aaQ ⟨akF,trivial⟩ func105 ad (by kernel_rfl)
def Ei:=[(105,vq)]
def Ej:Nat->Option Hint:=look [(5,{live:=[0,4,5],xl:=[0,4],rl:=[2,3]})]
def vr (s:ByteArray)(a i:Int):= bU 43 [(0,Z0 s),(4,bb a),(5,bb i)]
def GB (a:Int)(b:Bool):= bU 43 [(2,bb a),(3,JH b)]
def QA (s:ByteArray)(a:Int):= bU 43 [(0,Z0 s),(4,bb a)]
def Ek (a:St):Option U:=fe Ei F Ej [.r,.r,.r,.l,.r,.b,.i] f186 J n a
def vu:=hH Ei F Ej [.r,.r,.r,.l,.r,.b] f186 atz 1
def Lc (s:ByteArray)(a i:Int):Ek F J (n+1) (vr s a i)=br (decide (i<(s.size:Int))) (ck (bE i (s.size:Int)) (br (decide ((jO s i)<48)) (J .ret (GB 0 false)) (ck (bE i (s.size:Int)) (br (decide ((jO s i)>57)) (J .ret (GB 0 false)) (ck (bE i (s.size:Int)) (Ek F J n (vr s (aj ((aj (10*a))+(aj (IntKind.wrap .u8 ((jO s i)-48))))) (aj (i+1))))))))) (J (.exit 0) (QA s a)):=by kernel_rfl
def aht (a:Int)(b:Bool):vu F .ret (GB a b)=some (a,b,()):=by kernel_rfl
def aeD (s:ByteArray)(a:Int):vu F (.exit 0) (QA s a)=(kX F0 a).bind fun b=>br (!(b.1.toList==s.toList)) (some (0,false,())) (some (a,true,())):=by kernel_rfl
def nq (s:ByteArray):=bm Ei F Ej f186 dC atz 1 (s,())
def ao4 (s:ByteArray):nq F s=br (decide ((s.size:Int)<1)) (some (0,false,())) (br (decide ((s.size:Int)>6)) (some (0,false,())) (Ek F (vu F) F.n (vr s 0 0))):=by kernel_rfl
def GC:Any:=.one ⟨dC,atz,1,fun x=>nq F0 x.1⟩
def WV:a8 186 GC:=aq Ei ⟨Lb,trivial⟩ func186 Ej (by kernel_rfl)
def ajM:=[(41,bA)]
def oY (x:D4):=bm ajM F ad f104 Z6 aP 1 (x,())
def av4 (x:D4):oY F x=(aZ F0 x.1 0 3).bind fun a=>br a.1 ((aZ F0 x.2.1 0 3).bind fun b=>br b.1 ((aZ F0 x.2.2.1 0 1000).bind fun c=>br c.1 ((aZ F0 x.2.2.2 0 99).bind fun d=>some (d.1,())) (some (false,()))) (some (false,()))) (some (false,())):=by kernel_rfl
def jy:Any:=.one ⟨Z6,aP,1,fun x=>oY F0 x.1⟩
def nI:a8 104 jy:=aq ajM ⟨bW,trivial⟩ func104 ad (by kernel_rfl)
def aaR:=[(104,jy),(105,vq)]
def Fw (x:D4):=bm aaR F ad f180 Z6 dC 1 (x,())
def ao5 (x:D4):Fw F x=(oY F0 x).bind fun e=>br (!e.1) (some (ak,())) ((kX F0 x.1).bind fun a=>ck (UU F a.1.size (ByteArray.mk #[62]).size) ((kX F0 x.2.1).bind fun b=>ck (UU F (a.1++(ByteArray.mk #[62])).size b.1.size) (ck (UU F ((a.1++(ByteArray.mk #[62]))++b.1).size (ByteArray.mk #[58]).size) ((kX F0 x.2.2.1).bind fun c=>ck (UU F (((a.1++(ByteArray.mk #[62]))++b.1)++(ByteArray.mk #[58])).size c.1.size) (ck (UU F ((((a.1++(ByteArray.mk #[62]))++b.1)++(ByteArray.mk #[58]))++c.1).size (ByteArray.mk #[35]).size) ((kX F0 x.2.2.2).bind fun d=>ck (UU F (((((a.1++(ByteArray.mk #[62]))++b.1)++(ByteArray.mk #[58]))++c.1)++(ByteArray.mk #[35])).size d.1.size) (some ((((((a.1++(ByteArray.mk #[62]))++b.1)++(ByteArray.mk #[58]))++c.1)++(ByteArray.mk #[35]))++d.1,())))))))):=by kernel_rfl
def GD:Any:=.one ⟨Z6,dC,1,fun x=>Fw F0 x.1⟩
def WW:a8 180 GD:=aq aaR ⟨nI,Lb,trivial⟩ func180 ad (by kernel_rfl)
def ajN:=[(104,jy),(180,GD),(185,Gc),(186,GC)]
def YI (s:ByteArray):=bm ajN F ad f247 dC aDh 1 (s,())
def av5 (s:ByteArray):YI F0 s=(strings_Cut F0 s (ByteArray.mk #[62])).bind fun b=>(strings_Cut F0 b.2.1 (ByteArray.mk #[58])).bind fun c=>(strings_Cut F0 c.2.1 (ByteArray.mk #[35])).bind fun a=>ck (bE 0 4) ((nq F0 (aH [b.1,c.1,a.1,a.2.1] 0 ByteArray.empty)).bind fun d=>ck (bE 1 4) ((nq F0 (aH [b.1,c.1,a.1,a.2.1] 1 ByteArray.empty)).bind fun e=>ck (bE 2 4) ((nq F0 (aH [b.1,c.1,a.1,a.2.1] 2 ByteArray.empty)).bind fun f=>ck (bE 3 4) ((nq F0 (aH [b.1,c.1,a.1,a.2.1] 3 ByteArray.empty)).bind fun g=>(oY F0 (d.1,e.1,f.1,g.1)).bind fun h=>br (!h.1) (some ((0,0,0,0),false,())) ((Fw F0 (d.1,e.1,f.1,g.1)).bind fun i=>br (!(i.1.toList==s.toList)) (some ((0,0,0,0),false,())) (some ((d.1,e.1,f.1,g.1),true,()))))))):=by kernel_rfl
def aaS:Any:=.one ⟨dC,aDh,1,fun x=>YI F0 x.1⟩
def av6:a8 247 aaS:=aq ajN ⟨nI,WW,VX,WV,trivial⟩ func247 ad (by kernel_rfl)
def IN:=[(184,La),(247,aaS)]
def IP:Nat->Option Hint:=look [(5,{live:=[4,12,13,14],mat:=[(4,52,K4)],xl:=[4],rl:=[2,3]})]
def Ap (a:List ByteArray)(b c:Int)(d:List D4):= cR 31 [(4,.v (.c (.own 1000000 none))),(12,.v (.c (.ro true 9 (.str) a))),(13,bb b),(14,bb c)] [] [az 1000000 52 K4 d]
def WX (a:Bool):= bU 31 [(2,.v (.c (.nil))),(3,JH a)]
def T7 (a:List D4):= cR 31 [(4,.v (.c (.own 1000000 none)))] [] [az 1000000 52 K4 a]
def IQ (a:St):Option U:=fe IN F IP [.r,.r,.r,.l,.r,.b,.i] f187 J n a
def Aq:=hH IN F IP [.r,.r,.r,.l,.r,.b] f187 V7 2
def Ns (b:List ByteArray)(e a:Int)(c:List D4):IQ F J (n+1) (Ap b e a c)=br (decide (a<e)) (ck (bE a (b.length:Int)) ((YI F0 (aH b a ByteArray.empty)).bind fun d=>br (!d.2.1) (J .ret (WX false)) (ck (en F c.length [d.1].length 32) (IQ F J n (Ap b e (aj (a+1)) (c++[d.1])))))) (J (.exit 0) (T7 c)):=by kernel_rfl
def alJ (a:Bool):Aq F .ret (WX a)=some ([],a,()):=by kernel_rfl
def ahu (a:List D4):Aq F (.exit 0) (T7 a)=some (a,true,()):=by kernel_rfl
def Ld (s:ByteArray):=bm IN F IP f187 dC V7 2 (s,())
def asl (s:ByteArray):Ld F s=br (s.toList==ak.toList) (some ([],true,())) ((wu F0 s 44).bind fun a=>IQ F (Aq F) F.n (Ap a.1 (a.1.length:Int) 0 [])):=by kernel_rfl
def WY:Any:=.one ⟨dC,V7,2,fun x=>Ld F0 x.1⟩
def asm:a8 187 WY:=aq IN ⟨aaP,av6,trivial⟩ func187 IP (by kernel_rfl)
def IS:=[(41,bA),(184,La),(185,Gc),(186,GC),(187,WY)]
def IT:Nat->Option Hint:=look [(9,{live:=[5,6,31,32,33],mat:=[(5,157,K6)],xl:=[5],rl:=[2,3]})]
def Ar (a:Int)(b:List ByteArray)(c d:Int)(e:List D6):= cR 84 [(5,.v (.c (.own 1000000 none))),(6,bb a),(31,.v (.c (.ro true 9 (.str) b))),(32,bb c),(33,bb d)] [] [az 1000000 157 K6 e]
def my (a:Bool):= bU 84 [(2,.v (.c (.nil))),(3,JH a)]
def T8 (a:List D6):= cR 84 [(5,.v (.c (.own 1000000 none)))] [] [az 1000000 157 K6 a]
def IU (a:St):Option U:=fe IS F IT [.r,.r,.r,.r,.r,.r,.l,.r,.b,.i] f109 J n a
def As:=hH IS F IT [.r,.r,.r,.r,.r,.r,.l,.r,.b] f109 atA 2
def Nt (h:Int)(d:List ByteArray)(g b:Int)(e:List D6):IU F J (n+1) (Ar h d g b e)=br (decide (b<g)) (ck (bE b (d.length:Int)) ((strings_Cut F0 (aH d b ByteArray.empty) (ByteArray.mk #[124])).bind fun f=>(nq F0 f.1).bind fun a=>(Ld F0 f.2.1).bind fun c=>br (!f.2.2.1) (J .ret (my false)) (br (!a.2.1) (J .ret (my false)) (br (!c.2.1) (J .ret (my false)) ((aZ F0 a.1 (aj (h+1)) 60).bind fun i=>br (!i.1) (J .ret (my false)) (br (decide ((c.1.length:Int)>2)) (J .ret (my false)) (ck (en F e.length [(a.1,c.1)].length 32) (IU F J n (Ar a.1 d g (aj (b+1)) (e++[(a.1,c.1)])))))))))) (J (.exit 0) (T8 e)):=by kernel_rfl
def alK (a:Bool):As F .ret (my a)=some ([],a,()):=by kernel_rfl
def ahv (a:List D6):As F (.exit 0) (T8 a)=some (a,true,()):=by kernel_rfl
def q5 (s:ByteArray):=bm IS F IT f109 dC atA 2 (s,())
def asn (s:ByteArray):q5 F s=br (s.toList==ak.toList) (some ([],true,())) ((wu F0 s 47).bind fun a=>ck (bE 0 (a.1.length:Int)) (br (!((aH a.1 0 ByteArray.empty).toList==ak.toList)) (some ([],false,())) (br (decide ((aj ((a.1.length:Int)-1))>30)) (some ([],false,())) (ck (RZ 1 (a.1.length:Int) (a.1.length:Int)) (IU F (As F) F.n (Ar 0 ((a.1.take (a.1.length:Int).toNat).drop (1:Int).toNat) (((a.1.take (a.1.length:Int).toNat).drop (1:Int).toNat).length:Int) 0 [])))))):=by kernel_rfl
def q6:Any:=.one ⟨dC,atA,2,fun x=>q5 F0 x.1⟩
def El:a8 109 q6:=aq IS ⟨bW,aaP,VX,WV,asm,trivial⟩ func109 IT (by kernel_rfl)
def aaT:=[(109,q6)]
def e5 (s:ByteArray):=bm aaT F ad f60 dC aP 1 (s,())
def ao6 (s:ByteArray):e5 F s=(q5 F0 s).bind fun a=>some (a.2.1,()):=by kernel_rfl
def eP:Any:=.one ⟨dC,aP,1,fun x=>e5 F0 x.1⟩
def gW:a8 60 eP:=aq aaT ⟨El,trivial⟩ func60 ad (by kernel_rfl)
def aaU:=[(109,q6)]
def er (s:ByteArray):=bm aaU F ad f49 dC cF 1 (s,())
def ao7 (s:ByteArray):er F s=(q5 F0 s).bind fun a=>br ((a.1.length:Int)==0) (some (0,())) (ck (bE (aj ((a.1.length:Int)-1)) (a.1.length:Int)) (some ((aH a.1 (aj ((a.1.length:Int)-1)) (0,[])).1,()))):=by kernel_rfl
def ea:Any:=.one ⟨dC,cF,1,fun x=>er F0 x.1⟩
def fw:a8 49 ea:=aq aaU ⟨El,trivial⟩ func49 ad (by kernel_rfl)
def IV:Nat->Option Hint:=look [(2,{live:=[0,1,7,8,9],rl:=[4]})]
def q7 (a:Int)(s b:List Int)(c d:Int):= bU 35 [(0,bb a),(1,ia 3 (.int .i64) s),(7,ia 3 (.int .i64) b),(8,bb c),(9,bb d)]
def Au (a:Bool):= bU 35 [(4,JH a)]
def T9   := bU 35 []
def Av (a:St):Option U:=fe aB F IV [.r,.l,.r,.b,.i] f56 J n a
def Aw:=hH aB F IV [.r,.l,.r,.b] f56 aP 1
def Nu (c:Int)(s b:List Int)(d a:Int):Av F J (n+1) (q7 c s b d a)=br (decide (a<d)) (ck (bE a (b.length:Int)) (br (decide ((aH b a 0)<0)) (J .ret (Au false)) (br (decide ((aH b a 0)>=c)) (J .ret (Au false)) (br (decide (a>0)) (ck (bE (aj (a-1)) (s.length:Int)) (br (decide ((aH s (aj (a-1)) 0)>=(aH b a 0))) (J .ret (Au false)) (Av F J n (q7 c s b d (aj (a+1)))))) (Av F J n (q7 c s b d (aj (a+1)))))))) (J (.exit 0) (T9)):=by kernel_rfl
def alL (a:Bool):Aw F .ret (Au a)=some (a,()):=by kernel_rfl
def ahw: Aw F (.exit 0) (T9)=some (true,()):=by kernel_rfl
def wv (a:Int)(s:List Int):=bm aB F IV f56 aDi aP 1 (a,s,())
def aso (a:Int)(s:List Int):wv F a s=Av F (Aw F) F.n (q7 a s s (s.length:Int) 0):=by kernel_rfl
def Ax:Any:=.one ⟨aDi,aP,1,fun x=>wv F0 x.1 x.2.1⟩
def O3:a8 56 Ax:=aq aB trivial func56 IV (by kernel_rfl)
def aaV:=[(30,cO)]
def Fx (c:D1):=bm aaV F ad f57 S8 cF 1 (c,())
def ao8 (c:D1):Fx F c=(ep F0 c).bind fun a=>br (!a.1) (some (0,())) (some (aj (Int.tdiv (aj (c.1-1)) 3),())):=by kernel_rfl
def GF:Any:=.one ⟨S8,cF,1,fun x=>Fx F0 x.1⟩
def WZ:a8 57 GF:=aq aaV ⟨dP,trivial⟩ func57 ad (by kernel_rfl)
def aaW:=[(30,cO),(57,GF)]
def Fy (c:D1):=bm aaW F ad f182 S8 cF 1 (c,())
def ao9 (c:D1):Fy F c=(ep F0 c).bind fun a=>br (!a.1) (some (0,())) ((Fx F0 c).bind fun b=>some (aj (c.1-b.1),())):=by kernel_rfl
def GG:Any:=.one ⟨S8,cF,1,fun x=>Fy F0 x.1⟩
def W0:a8 182 GG:=aq aaW ⟨dP,WZ,trivial⟩ func182 ad (by kernel_rfl)
def ajO:=[(30,cO),(49,ea),(55,kz),(56,Ax),(60,eP),(169,CI),(182,GG)]
def mz (c:D1)(q:D9):=bm ajO F ad f107 G3 aP 1 (c,q,())
def av7 (c:D1)(q:D9):mz F c q=(ep F0 c).bind fun a=>br (!a.1) (some (false,())) ((so F0).bind fun b=>(jx F0 q b.1).bind fun d=>br d.1 (some (true,())) (br (decide (q.1>=1)) ((e5 F0 q.2.1).bind fun e=>br e.1 ((er F0 q.2.1).bind fun f=>br (q.1==f.1) ((wv F0 c.1 q.2.2).bind fun g=>br g.1 ((Fy F0 c).bind fun h=>some (decide ((q.2.2.length:Int)>=h.1),())) (some (false,()))) (some (false,()))) (some (false,()))) (some (false,())))):=by kernel_rfl
def jz:Any:=.one ⟨G3,aP,1,fun x=>mz F0 x.1 x.2.1⟩
def nJ:a8 107 jz:=aq ajO ⟨dP,fw,q4,O3,gW,T6,W0,trivial⟩ func107 ad (by kernel_rfl)
def aaX:=[(41,bA),(60,eP),(107,jz)]
def kY (c:D1)(s:U0):=bm aaX F ad f50 Tf aP 1 (c,s,())
def apa (c:D1)(s:U0):kY F c s=(aZ F0 s.1 0 60).bind fun a=>br a.1 ((aZ F0 s.2.1 0 60).bind fun b=>br b.1 ((mz F0 c s.2.2.1).bind fun d=>br d.1 ((e5 F0 s.2.2.2).bind fun e=>some (e.1,())) (some (false,()))) (some (false,()))) (some (false,())):=by kernel_rfl
def kB:Any:=.one ⟨Tf,aP,1,fun x=>kY F0 x.1 x.2.1⟩
def q8:a8 50 kB:=aq aaX ⟨bW,gW,nJ,trivial⟩ func50 ad (by kernel_rfl)
def Em (a b:D4):=bm aB F ad f189 aDj aP 1 (a,b,())
def ahx (a b:D4):Em F a b=br (decide (a.1<b.1)) (some (true,())) (br (a.1==b.1) (some (decide (a.2.2.2<b.2.2.2),())) (some (false,()))):=by kernel_rfl
def Nv:Any:=.one ⟨aDj,aP,1,fun x=>Em F0 x.1 x.2.1⟩
def ahy:a8 189 Nv:=aq aB trivial func189 ad (by kernel_rfl)
def En:=[(104,jy),(189,Nv)]
def Eo:Nat->Option Hint:=look [(2,{live:=[0,5,6,7],xl:=[0],rl:=[2]})]
def oB (p a:List D4)(b c:Int):= bU 33 [(0,ia 52 (K4) p),(5,ia 52 (K4) a),(6,bb b),(7,bb c)]
def GH (a:Bool):= bU 33 [(2,JH a)]
def QB (p:List D4):= bU 33 [(0,ia 52 (K4) p)]
def tW (a:St):Option U:=fe En F Eo [.r,.l,.r,.b,.i] f116 J n a
def vv:=hH En F Eo [.r,.l,.r,.b] f116 aP 1
def Le (p b:List D4)(c a:Int):tW F J (n+1) (oB p b c a)=br (decide (a<c)) (ck (bE a (b.length:Int)) ((oY F0 (aH b a K4.aC)).bind fun d=>br (!d.1) (J .ret (GH false)) (br (decide (a>0)) (ck (bE (aj (a-1)) (p.length:Int)) ((Em F0 (aH p (aj (a-1)) K4.aC) (aH b a K4.aC)).bind fun e=>br (!e.1) (J .ret (GH false)) (tW F J n (oB p b c (aj (a+1)))))) (tW F J n (oB p b c (aj (a+1))))))) (J (.exit 0) (QB p)):=by kernel_rfl
def ahz (a:Bool):vv F .ret (GH a)=some (a,()):=by kernel_rfl
def aeE (p:List D4):vv F (.exit 0) (QB p)=some (decide ((p.length:Int)<=12),()):=by kernel_rfl
def w9 (p:D5):=bm En F Eo f116 kl aP 1 (p,())
def apb (p:D5):w9 F p=tW F (vv F) F.n (oB p p (p.length:Int) 0):=by kernel_rfl
def GI:Any:=.one ⟨kl,aP,1,fun x=>w9 F0 x.1⟩
def W2:a8 116 GI:=aq En ⟨nI,ahy,trivial⟩ func116 Eo (by kernel_rfl)
def aaY:=[(30,cO),(41,bA),(49,ea),(56,Ax),(60,eP)]
def q9 (c:D1)(p:D9):=bm aaY F ad f190 G3 aP 1 (c,p,())
def apc (c:D1)(p:D9):q9 F c p=(ep F0 c).bind fun b=>br b.1 ((aZ F0 p.1 1 60).bind fun d=>br d.1 (br (p.2.1.toList==ak.toList) ((wv F0 c.1 p.2.2).bind fun a=>br a.1 (some (decide ((p.2.2.length:Int)>0),())) (some (false,()))) ((e5 F0 p.2.1).bind fun e=>br e.1 ((er F0 p.2.1).bind fun f=>br (f.1==p.1) ((wv F0 c.1 p.2.2).bind fun a=>br a.1 (some (decide ((p.2.2.length:Int)>0),())) (some (false,()))) (some (false,()))) (some (false,())))) (some (false,()))) (some (false,())):=by kernel_rfl
def oC:Any:=.one ⟨G3,aP,1,fun x=>q9 F0 x.1 x.2.1⟩
def Ay:a8 190 oC:=aq aaY ⟨dP,bW,fw,O3,gW,trivial⟩ func190 ad (by kernel_rfl)
def Ep (x:Int):=bm aB F ad f293 cF aP 1 (x,())
def QC (x:Int):Ep F x=some (x != x,()):=by kernel_rfl
def Nw:Any:=.one ⟨cF,aP,1,fun x=>Ep F0 x.1⟩
def ahA:a8 293 Nw:=aq aB trivial func293 ad (by kernel_rfl)
def Nx:=[(293,Nw)]
def vw (x y:Int):=bm Nx F ad f248 atB cF 1 (x,y,())
def aco (x y:Int):vw F x y=(Ep F0 x).bind fun b=>(Ep F0 y).bind fun a=>br b.1 (br a.1 (some (0,())) (some (-1,()))) (br a.1 (some (1,())) (br (decide (x<y)) (some (-1,())) (br (decide (x>y)) (some (1,())) (some (0,()))))):=by kernel_rfl
def Hs:Any:=.one ⟨atB,cF,1,fun x=>vw F0 x.1 x.2.1⟩
def acp:a8 248 Hs:=aq Nx ⟨ahA,trivial⟩ func248 ad (by kernel_rfl)
def sq (x:ByteArray):=bm aB F ad f294 dC aP 1 (x,())
def Ht (x:ByteArray):sq F x=some (!(x.toList==x.toList),()):=by kernel_rfl
def Fz:Any:=.one ⟨dC,aP,1,fun x=>sq F0 x.1⟩
def Zr:a8 294 Fz:=aq aB trivial func294 ad (by kernel_rfl)
def FA:=[(294,Fz)]
def nK (x y:ByteArray):=bm FA F ad f249 Tx cF 1 (x,y,())
def U5 (x y:ByteArray):nK F x y=(sq F0 x).bind fun b=>(sq F0 y).bind fun a=>br b.1 (br a.1 (some (0,())) (some (-1,()))) (br a.1 (some (1,())) (br (Op.bytesLess x.toList y.toList) (some (-1,())) (br (!(Op.bytesLess x.toList y.toList || (x.toList==y.toList))) (some (1,())) (some (0,()))))):=by kernel_rfl
def Az:Any:=.one ⟨Tx,cF,1,fun x=>nK F0 x.1 x.2.1⟩
def U6:a8 249 Az:=aq FA ⟨Zr,trivial⟩ func249 ad (by kernel_rfl)
def Hu:=[(248,Hs),(249,Az)]
def fx (a b:D9):=bm Hu F ad f191 wX cF 1 (a,b,())
def FB (a b:D9):fx F a b=(vw F0 a.1 b.1).bind fun c=>br (c.1 != 0) (some (c.1,())) ((nK F0 a.2.1 b.2.1).bind fun d=>some (d.1,())):=by kernel_rfl
def pb:Any:=.one ⟨wX,cF,1,fun x=>fx F0 x.1 x.2.1⟩
def FC:a8 191 pb:=aq Hu ⟨acp,U6,trivial⟩ func191 ad (by kernel_rfl)
def AA:=[(190,oC),(191,pb)]
def AB:Nat->Option Hint:=look [(2,{live:=[1,2,7,8,9],xl:=[1],rl:=[4]})]
def mA (b d:List D9)(e f c a:Int):= cR 36 [(1,ia 50 (K9) b),b1 2,(7,ia 50 (K9) d),(8,bb e),(9,bb f)] [(2,[ao c,ao a])] []
def CJ (a:Bool):= bU 36 [(4,JH a)]
def Ny (a:List D9):= bU 36 [(1,ia 50 (K9) a)]
def ra (a:St):Option U:=fe AA F AB [.r,.l,.r,.b,.i] f117 J n a
def sr:=hH AA F AB [.r,.l,.r,.b] f117 aP 1
def Hv (b d:List D9)(f a c e:Int):ra F J (n+1) (mA b d f a c e)=br (decide (a<f)) (ck (bE a (d.length:Int)) ((q9 F0 (c,e) (aH d a K9.aC)).bind fun g=>br (!g.1) (J .ret (CJ false)) (br (decide (a>0)) (ck (bE (aj (a-1)) (b.length:Int)) ((fx F0 (aH b (aj (a-1)) K9.aC) (aH d a K9.aC)).bind fun h=>br (decide (h.1>=0)) (J .ret (CJ false)) (ra F J n (mA b d f (aj (a+1)) c e)))) (ra F J n (mA b d f (aj (a+1)) c e))))) (J (.exit 0) (Ny b)):=by kernel_rfl
def aeF (a:Bool):sr F .ret (CJ a)=some (a,()):=by kernel_rfl
def acq (a:List D9):sr F (.exit 0) (Ny a)=some (decide ((a.length:Int)<=20),()):=by kernel_rfl
def kZ (c:D1)(a:D13):=bm AA F AB f117 aDk aP 1 (c,a,())
def alM (c:D1)(a:D13):kZ F c a=ra F (sr F) F.n (mA a a (a.length:Int) 0 c.1 c.2):=by kernel_rfl
def CK:Any:=.one ⟨aDk,aP,1,fun x=>kZ F0 x.1 x.2.1⟩
def Ua:a8 117 CK:=aq AA ⟨Ay,FC,trivial⟩ func117 AB (by kernel_rfl)
def aaZ:=[(41,bA)]
def rb (d:D14):=bm aaZ F ad f118 pf aP 1 (d,())
def apd (d:D14):rb F d=br (decide ((d.1.length:Int)<=100000)) ((aZ F0 d.2 0 (d.1.length:Int)).bind fun a=>some (a.1,())) (some (false,())):=by kernel_rfl
def oD:Any:=.one ⟨pf,aP,1,fun x=>rb F0 x.1⟩
def AD:a8 118 oD:=aq aaZ ⟨bW,trivial⟩ func118 ad (by kernel_rfl)
def aeG:Nat->Option Hint:=look [(900008,{live:=[],mat:=[(1,0,K21)]})]
def Se (m:OZ):=bm aB F aeG f193 wZ wZ 0 (m,())
def asp (m:OZ):Se F m=br (m.1==1) (some ((m.1,0,m.2.2.1,(0,ak,[]),(0,ak,[]),0,0,0,0,0),())) (br (m.1==2) (some ((m.1,0,(ak,0,ak,[]),m.2.2.2.1,(0,ak,[]),0,0,0,0,0),())) (br (m.1==3) (some ((m.1,m.2.1,(ak,0,ak,[]),(0,ak,[]),m.2.2.2.2.1,m.2.2.2.2.2.1,0,0,0,0),())) (br (m.1==4) (some ((m.1,0,(ak,0,ak,[]),(0,ak,[]),(0,ak,[]),0,m.2.2.2.2.2.2),())) (some ((m.1,0,(ak,0,ak,[]),(0,ak,[]),(0,ak,[]),0,0,0,0,0),()))))):=by kernel_rfl
def W3:Any:=.one ⟨wZ,wZ,0,fun x=>Se F0 x.1⟩
def asq:a8 193 W3:=aq aB trivial func193 aeG (by kernel_rfl)
def QD:=[(55,kz)]
def AE (a b:D15):=bm QD F ad f250 aDl aP 1 (a,b,())
def aeH (a b:D15):AE F a b=br (a.1.toList==b.1.toList) ((jx F0 a.2 b.2).bind fun c=>some (c.1,())) (some (false,())):=by kernel_rfl
def Lf:Any:=.one ⟨aDl,aP,1,fun x=>AE F0 x.1 x.2.1⟩
def aeI:a8 250 Lf:=aq QD ⟨q4,trivial⟩ func250 ad (by kernel_rfl)
end
end Go.Am.Tryz
