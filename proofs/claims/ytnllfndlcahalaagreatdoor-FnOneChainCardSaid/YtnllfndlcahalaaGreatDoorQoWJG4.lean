/- No condition. -/
import Derived.Test.YtnllfndlcahalaaGreatDoorQoWJG3
set_option linter.all false
set_option maxRecDepth 100000
namespace Go.Am.Tryz
open Go.Am Go.Proofs Go.Proofs.Tryz
noncomputable section
variable {U:Type} (F:rz) (J:Ex->St->Option U) (n:Nat)
def Aa:=[(266,WR)]
def Ab:Nat->Option Hint:=look [(3,{live:=[1,2,4,6,7],x3:=[(4,2,3,.int .i64),(4,3,65,cd),(4,4,105,eh),(4,5,41,cz)],xl:=[2,4],rl:=[4,5]})]
def sa (a i p b w c C D r d e f g h:Int)(j:ByteArray)(k:List Int)(l:ByteArray)(m:List D4)(o:List D9)(q:List Int)(s:Int)(t:List ll)(E:List Int)(u:List a1)(v:List bS)(x:List bE)(y:List Int)(z:List a1)(A:List bS)(B:List bE):St:={nt:=59,tm:=[(1,a8 a),b0 2,b0 4,b0 6,(7,a8 i)],bx:=[(2,[ao w,ao c,.own 1000000 none,.own 1000001 none,.own 1000002 none,.own 1000003 none]),(4,[ao C,ao D,.own 1000004 none,.own 1000005 none,.own 1000006 none,.own 1000007 none]),(6,[ao r,ao d,ao e,ao f,ao g,ao h,.str j,.ro true 3 (.int .i64) k,.str l,.ro true 52 (K4) m,.ro true 50 (K9) o,.ro true 5 (.int .u8) q,ao s,.ro true 136 (pS) t])],bl:=[ay 1000000 3 (.int .i64) E,ay 1000001 65 cd u,ay 1000002 105 eh v,ay 1000003 41 cz x,ay 1000004 3 (.int .i64) y,ay 1000005 65 cd z,ay 1000006 105 eh A,ay 1000007 41 cz B],sp:=.v (.agg [ao p,ao b,.own 1000000 none,.own 1000001 none,.own 1000002 none,.own 1000003 none])}
def Cz (e p a f g:Int)(h:List Int)(b:List a1)(c:List bS)(d:List bE):St:={nt:=59,tm:=[b0 4,(5,a8 e)],bx:=[(4,[ao f,ao g,.own 1000000 none,.own 1000001 none,.own 1000002 none,.own 1000003 none])],bl:=[ay 1000000 3 (.int .i64) h,ay 1000001 65 cd b,ay 1000002 105 eh c,ay 1000003 41 cz d],sp:=.v (.agg [ao p,ao a,.own 1000000 none,.own 1000001 none,.own 1000002 none,.own 1000003 none])}
def Nh (p a w b j k:Int)(l:List Int)(c:List a1)(d:List bS)(e:List bE)(f:List Int)(g:List a1)(h:List bS)(i:List bE):St:={nt:=59,tm:=[b0 2,b0 4],bx:=[(2,[ao w,ao b,.own 1000000 none,.own 1000001 none,.own 1000002 none,.own 1000003 none]),(4,[ao j,ao k,.own 1000004 none,.own 1000005 none,.own 1000006 none,.own 1000007 none])],bl:=[ay 1000000 3 (.int .i64) l,ay 1000001 65 cd c,ay 1000002 105 eh d,ay 1000003 41 cz e,ay 1000004 3 (.int .i64) f,ay 1000005 65 cd g,ay 1000006 105 eh h,ay 1000007 41 cz i],sp:=.v (.agg [ao p,ao a,.own 1000000 none,.own 1000001 none,.own 1000002 none,.own 1000003 none])}
def Ac (a:St):Option U:=e9 Aa F Ab [.r,.r,.l,.r,.b,.i] f207 J n a
def sd:=Vy Tryz.prog (look Aa) F Ab [.r,.r,.l,.r,.b] (eU f207) (aAM Tryz.prog f207 (hz,true) (.int .i64,false) (hz,true))
theorem Hl (a i p e w c D E r j k l m o:Int)(q:ByteArray)(s:List Int)(t:ByteArray)(u:List D4)(b:List D9)(v:List Int)(x:Int)(y:List ll)(h:List Int)(d:List a1)(f:List bS)(g:List bE)(z:List Int)(A:List a1)(B:List bS)(C:List bE):Ac F J (n+1) (sa a i p e w c D E r j k l m o q s t u b v x y h d f g z A B C)=br (decide (i>=0)) (ck (bG i (b.length:Int)) (br ((aK b i K9.aD).2.1.toList==ak.toList) (Ac F J n (sa a (aj (i-1)) p e w c D E r j k l m o q s t u b v x y h d f g z A B C)) (ck (bG i (b.length:Int)) (ck (bG i (b.length:Int)) ((R9 F0 (w,c) (r,j,k,(l,m,(o,q,s),t),u,b,(v,x),y) (aK b i K9.aD).1 (aK b i K9.aD).2.1 true).bind fun G=>br (!G.2.1) (J .ret (Cz 3 p e w c h d f g)) (ck (bG a (d.length:Int)) (J .ret (Cz 0 p e w c h (d.set a.toNat G.1) f g)))))))) (J (.exit 0) (Nh p e w c D E h d f g z A B C)):=by kernel_rfl
theorem Ni (a p f g h:Int)(e:List Int)(b:List a1)(c:List bS)(d:List bE):sd F .ret (Cz a p f g h e b c d)=br (a==0) (some (((g,h),e,b,c,d),a,hz.aD)) (some (hz.aD,a,(p,f),e,b,c,d)):=by kernel_rfl
theorem acj (p a w f k l:Int)(e:List Int)(b:List a1)(c:List bS)(d:List bE)(g:List Int)(h:List a1)(i:List bS)(j:List bE):sd F (.exit 0) (Nh p a w f k l e b c d g h i j)=some (hz.aD,3,(p,a),e,b,c,d):=by kernel_rfl
def IH (w:ko)(a:Int):Option (ko×Int×ko):=arK Tryz.prog (look Aa) F Ab f207 [(hz,true),(.int .i64,false)] 0 (hz,true) (.int .i64,false) (hz,true) (w,a,())
theorem alG (w:ko)(a:Int):IH F w a=ck (bG a (w.2.2.1.length:Int)) (Ac F (sd F) F.n (sa a (aj (((aK w.2.2.1 a cd.aD).2.2.2.2.2.1.length:Int)-1)) w.1.1 w.1.2 w.1.1 w.1.2 0 0 (aK w.2.2.1 a cd.aD).1 (aK w.2.2.1 a cd.aD).2.1 (aK w.2.2.1 a cd.aD).2.2.1 (aK w.2.2.1 a cd.aD).2.2.2.1.1 (aK w.2.2.1 a cd.aD).2.2.2.1.2.1 (aK w.2.2.1 a cd.aD).2.2.2.1.2.2.1.1 (aK w.2.2.1 a cd.aD).2.2.2.1.2.2.1.2.1 (aK w.2.2.1 a cd.aD).2.2.2.1.2.2.1.2.2 (aK w.2.2.1 a cd.aD).2.2.2.1.2.2.2 (aK w.2.2.1 a cd.aD).2.2.2.2.1 (aK w.2.2.1 a cd.aD).2.2.2.2.2.1 (aK w.2.2.1 a cd.aD).2.2.2.2.2.2.1.1 (aK w.2.2.1 a cd.aD).2.2.2.2.2.2.1.2 (aK w.2.2.1 a cd.aD).2.2.2.2.2.2.2 w.2.1 w.2.2.1 w.2.2.2.1 w.2.2.2.2 [] [] [] [])):=by kernel_rfl
def Qs:Any:=.sel ⟨[(hz,true),(.int .i64,false)],0,(hz,true),(.int .i64,false),(hz,true),fun x=>IH F0 x.1 x.2.1⟩
theorem alH:a6 207 Qs:=ok4 (show x8 Tryz.prog TB Aa from⟨asp,trivial⟩) func207 (by kernel_rfl) (by kernel_rfl) Ab (by kernel_rfl) (by kernel_rfl)
def aaE:=[(66,gM),(71,jP),(123,ma),(144,oh)]
abbrev aDL:List (Ty×Bool):=[(K14,true),(.int .i64,false)]
def Nj (d:D14)(keep:Int):=bj aaE F ad f208 aDL pa 2 (d,keep,())
theorem aoX (d:D14)(keep:Int):Nj F d keep=(iL F0 d).bind fun b=>(mZ F0 d).bind fun c=>br (!c.1) (some (b.1,())) ((bJ F0 keep (aj ((d.1.length:Int)-d.2))).bind fun e=>(dJ F0 0 e.1).bind fun a=>ck (S5 0 (aj (d.2+a.1)) (d.1.length:Int)) (ck (ei F 0 ((d.1.take (aj (d.2+a.1)).toNat).drop (0:Int).toNat).length 1) (some (([]++((d.1.take (aj (d.2+a.1)).toNat).drop (0:Int).toNat),aj (d.2+a.1)),())))):=by kernel_rfl
def T0:Any:=.one ⟨aDL,pa,2,fun x=>Nj F0 x.1 x.2.1⟩
theorem aoY:a6 208 T0:=aq aaE ⟨lr,oP,uF,yt,trivial⟩ func208 ad (by kernel_rfl)
def Sa: Option (Args BD):=bj aA F ad f312 [] BD 2 (())
theorem alI: Sa F= some ((0,0,(0,ak,[]),ak),()):=by kernel_rfl
def Qt:Any:=.one ⟨[],BD,2,fun x=>Sa F0⟩
theorem alJ:a6 312 Qt:=aq aA trivial func312 ad (by kernel_rfl)
def aaF:=[(141,h8),(146,oi),(147,rL),(148,Kp)]
def Nk (c:D1)(b:List Int):=bj aaF F ad f313 Tl ajE 2 (c,b,())
theorem aoZ (c:D1)(b:List Int):Nk F c b=(cH F0 (b,0,true)).bind fun d=>(cH F0 d.2.1).bind fun e=>(Ch F0 e.2.1).bind fun f=>(ns F0 f.2.1).bind fun a=>br (!a.2.1.2.2) (some ((0,0,(0,ak,[]),ak),false,())) (br (a.2.1.2.1 != (b.length:Int)) (some ((0,0,(0,ak,[]),ak),false,())) ((iX F0 c (d.1.1,e.1.1,f.1.1,a.1.1)).bind fun g=>br (!g.1) (some ((0,0,(0,ak,[]),ak),false,())) (some ((d.1.1,e.1.1,f.1.1,a.1.1),true,())))):=by kernel_rfl
def T1:Any:=.one ⟨Tl,ajE,2,fun x=>Nk F0 x.1 x.2.1⟩
theorem ao0:a6 313 T1:=aq aaF ⟨lY,yz,Gk,aak,trivial⟩ func313 ad (by kernel_rfl)
def u9:=[(216,uw),(312,Qt),(313,T1)]
def va:Nat->Option Hint:=look [(3,{live:=[1,2,4,6,7],x3:=[(4,4,3,.int .i64)],rl:=[4,5]})]
def px (b:List Int)(a c d j k l:Int)(m o:ByteArray)(p e f:Int)(g h:ByteArray)(q i:List Int):= cQ 62 [(1,hD 5 (.int .u8) b),b0 2,b0 4,b0 6,(7,a8 a)] [(2,[ao c,ao d]),(4,[ao j,ao k,ao l,.str m,.own 1000000 none,.str o]),(6,[ao p,ao e,ao f,.str g,.own 1000001 none,.str h])] [ay 1000000 3 (.int .i64) q,ay 1000001 3 (.int .i64) i]
def kS (a b c d:Int)(e f:ByteArray)(g:List Int):= cQ 62 [b0 4,(5,a8 a)] [(4,[ao b,ao c,ao d,.str e,.own 1000000 none,.str f])] [ay 1000000 3 (.int .i64) g]
def vd (a:St):Option U:=e9 u9 F va [.r,.r,.r,.b,.i] f267 J n a
abbrev atS:List (Ty×Bool):=[(K12,true),(.int .i64,false)]
def Ad:=hf u9 F va [.r,.r,.r,.b] f267 atS 2
theorem Fp (b:List Int)(e c l m o p:Int)(q r:ByteArray)(k f g:Int)(h i:ByteArray)(s j:List Int):vd F J (n+1) (px b e c l m o p q r k f g h i s j)=(kM F0 b e).bind fun a=>br (!a.2.2.1) (J .ret (kS e k f g h i j)) (br (decide (a.1>=(aj ((b.length:Int)-a.2.1)))) (J .ret (kS e k f g h i j)) (ck (bG (aj (a.2.1+a.1)) (b.length:Int)) (br ((aK b (aj (a.2.1+a.1)) 0) != 10) (J .ret (kS e k f g h i j)) (ck (S5 a.2.1 (aj (a.2.1+a.1)) (b.length:Int)) ((Nk F0 (c,l) ((b.take (aj (a.2.1+a.1)).toNat).drop a.2.1.toNat)).bind fun d=>br (!d.2.1) (J .ret (kS e k f g h i j)) (vd F J n (px b (aj ((aj (a.2.1+a.1))+1)) c l m o p q r d.1.1 d.1.2.1 d.1.2.2.1.1 d.1.2.2.1.2.1 d.1.2.2.2 s d.1.2.2.1.2.2))))))):=by kernel_rfl
theorem KU (a b c d:Int)(e f:ByteArray)(g:List Int):Ad F .ret (kS a b c d e f g)=some ((b,c,(d,e,g),f),a,()):=by kernel_rfl
def D0 (c:D1)(b:List Int):=bj u9 F va f267 Tl atS 2 (c,b,())
theorem aht (c:D1)(b:List Int):D0 F c b=(Sa F0).bind fun a=>vd F (Ad F) F.n (px b 0 c.1 c.2 0 0 0 ak ak a.1.1 a.1.2.1 a.1.2.2.1.1 a.1.2.2.1.2.1 a.1.2.2.2 [] a.1.2.2.1.2.2):=by kernel_rfl
def Nl:Any:=.one ⟨Tl,atS,2,fun x=>D0 F0 x.1 x.2.1⟩
theorem ahu:a6 267 Nl:=aq u9 ⟨Kn,alJ,ao0,trivial⟩ func267 va (by kernel_rfl)
def ajL:=[(64,bX),(66,gM),(71,jP),(74,cn),(267,Nl)]
def Qu (c:D1)(r:a1):=bj ajL F ad f209 xt MH 2 (c,r,())
theorem av5 (c:D1)(r:a1):Qu F c r=(dx F0 c r).bind fun b=>br (!b.1) ((ba F0 r).bind fun d=>some (d.1,())) ((D0 F0 c r.2.2.2.2.2.2.1.1).bind fun a=>(dJ F0 a.1.1 (aj (a.1.2.2.1.1+1))).bind fun e=>(dJ F0 e.1 1).bind fun f=>(bJ F0 60 f.1).bind fun g=>ck (S5 0 a.2.1 (r.2.2.2.2.2.2.1.1.length:Int)) (ck (ei F 0 ((r.2.2.2.2.2.2.1.1.take a.2.1.toNat).drop (0:Int).toNat).length 1) (some ((r.1,g.1,0,a.1,[],[],([]++((r.2.2.2.2.2.2.1.1.take a.2.1.toNat).drop (0:Int).toNat),a.2.1),[]),())))):=by kernel_rfl
def aaG:Any:=.one ⟨xt,MH,2,fun x=>Qu F0 x.1 x.2.1⟩
theorem av6:a6 209 aaG:=aq ajL ⟨cl,lr,oP,cT,ahu,trivial⟩ func209 ad (by kernel_rfl)
def ajM:=[(64,bX),(74,cn),(125,iZ),(268,kQ),(269,mm)]
def YE (c:D1)(r:a1):=bj ajM F ad f210 xt gx 2 (c,r,())
theorem av7 (c:D1)(r:a1):YE F c r=(ba F0 r).bind fun a=>(dx F0 c r).bind fun f=>br (!f.1) (some (a.1,false,())) (br (decide (r.2.1>=60)) (some (a.1,false,())) ((me F0 c (aj (r.2.1+1))).bind fun b=>br (b.1==r.1) ((fg F0 c a.1.2.2.2.2.2.1 (aj (r.2.1+1),ak,[r.1])).bind fun d=>br (!d.2.1) ((ba F0 r).bind fun g=>some (g.1,false,())) (some ((a.1.1,aj (r.2.1+1),a.1.2.2.1,a.1.2.2.2.1,a.1.2.2.2.2.1,d.1,a.1.2.2.2.2.2.2),true,()))) ((fp F0 c (a.1.1,aj (r.2.1+1),a.1.2.2) b.1 (3,aj (r.2.1+1),(ak,0,ak,[]),(0,ak,[]),r.2.2.2.1.2.2.1,r.1,0,0,0,0)).bind fun e=>br (!e.1.2.1) ((ba F0 r).bind fun h=>some (h.1,false,())) (some (e.1.1,true,()))))):=by kernel_rfl
def aaH:Any:=.one ⟨xt,gx,2,fun x=>YE F0 x.1 x.2.1⟩
theorem av8:a6 210 aaH:=aq ajM ⟨cl,cT,nv,rZ,u1,trivial⟩ func210 ad (by kernel_rfl)
def aaI:=[(64,bX),(202,OZ),(205,TW),(206,Qr),(207,Qs),(208,T0),(209,aaG),(210,aaH)]
def Nn (w:ko)(d:D45):Option (ko×Int×ko):=arK Tryz.prog (look aaI) F ad f140 [(hz,true),(K45,true)] 0 (hz,true) (.int .i64,false) (hz,true) (w,d,())
theorem ao1 (w:ko)(d:D45):Nn F w d=ck (bG d.2.1 (w.2.2.1.length:Int)) (br (d.1==1) ((Nc F0 w d.2.1).bind fun b=>br (b.2.1==0) (some (b.1,0,hz.aD)) (br (b.2.1==0) (none) (some (hz.aD,b.2.1,w.1,b.2.2.2)))) (br (d.1==2) ((IG F0 w d.2.1).bind fun c=>br (c.2.1==0) (some (c.1,0,hz.aD)) (br (c.2.1==0) (none) (some (hz.aD,c.2.1,w.1,c.2.2.2)))) (br (d.1==6) ((IH F0 w d.2.1).bind fun e=>br (e.2.1==0) (some (e.1,0,hz.aD)) (br (e.2.1==0) (none) (some (hz.aD,e.2.1,w.1,e.2.2.2)))) (br (d.1==8) ((ba F0 (aK w.2.2.1 d.2.1 cd.aD)).bind fun a=>(Nj F0 (aK w.2.2.1 d.2.1 cd.aD).2.2.2.2.2.2.1 d.2.2.1).bind fun h=>(Qu F0 w.1 (a.1.1,a.1.2.1,a.1.2.2.1,a.1.2.2.2.1,a.1.2.2.2.2.1,a.1.2.2.2.2.2.1,h.1,a.1.2.2.2.2.2.2.2)).bind fun i=>ck (bG d.2.1 (w.2.2.1.length:Int)) (some ((w.1,w.2.1,w.2.2.1.set d.2.1.toNat i.1,w.2.2.2),0,hz.aD))) (br (d.1==7) ((YE F0 w.1 (aK w.2.2.1 d.2.1 cd.aD)).bind fun f=>br (!f.2.1) (some (hz.aD,3,w)) (ck (bG d.2.1 (w.2.2.1.length:Int)) (some ((w.1,w.2.1,w.2.2.1.set d.2.1.toNat f.1,w.2.2.2),0,hz.aD)))) ((Qj F0 w.1 (aK w.2.2.1 d.2.1 cd.aD) d.2.2.2).bind fun g=>br (!g.2.1) (some (hz.aD,3,w)) (br (d.2.2.2.1 != 4) (some (hz.aD,3,w)) (ck (bG d.2.1 (w.2.2.1.length:Int)) (some ((w.1,w.2.1,w.2.2.1.set d.2.1.toNat g.1,w.2.2.2),0,hz.aD)))))))))):=by kernel_rfl
def T2:Any:=.sel ⟨[(hz,true),(K45,true)],0,(hz,true),(.int .i64,false),(hz,true),fun x=>Nn F0 x.1 x.2.1⟩
theorem ao2:a6 140 T2:=ok4 (show x8 Tryz.prog TB aaI from⟨cl,aey,aoU,alF,alH,aoY,av6,av8,trivial⟩) func140 (by kernel_rfl) (by kernel_rfl) ad (by kernel_rfl) (by kernel_rfl)
def aaJ:=[(68,cM),(137,TO),(138,TV),(139,Gx),(140,T2)]
def No (w:ko)(d:D45):Option (ko×Int×ko):=arK Tryz.prog (look aaJ) F ad f72 [(hz,true),(K45,true)] 0 (hz,true) (.int .i64,false) (hz,true) (w,d,())
theorem ao3 (w:ko)(d:D45):No F w d=br (d.1==3) ((wW F0 w d).bind fun a=>br (a.2.1==0) (some (a.1,0,hz.aD)) (br (a.2.1==0) (none) (some (hz.aD,a.2.1,w.1,a.2.2.2)))) (br (d.1==4) ((wW F0 w d).bind fun a=>br (a.2.1==0) (some (a.1,0,hz.aD)) (br (a.2.1==0) (none) (some (hz.aD,a.2.1,w.1,a.2.2.2)))) (br (d.1==5) ((wW F0 w d).bind fun a=>br (a.2.1==0) (some (a.1,0,hz.aD)) (br (a.2.1==0) (none) (some (hz.aD,a.2.1,w.1,a.2.2.2)))) (br (d.1==10) ((Na F0 w d).bind fun b=>br (b.2.1==0) (some (b.1,0,hz.aD)) (br (b.2.1==0) (none) (some (hz.aD,b.2.1,w.1,b.2.2.2)))) ((Fo F0 w).bind fun e=>(cW F0 e.1 d.2.1).bind fun f=>br (!f.1) (some (hz.aD,2,w)) ((Nn F0 w d).bind fun c=>br (c.2.1==0) (some (c.1,0,hz.aD)) (br (c.2.1==0) (none) (some (hz.aD,c.2.1,w.1,c.2.2.2)))))))):=by kernel_rfl
def T3:Any:=.sel ⟨[(hz,true),(K45,true)],0,(hz,true),(.int .i64,false),(hz,true),fun x=>No F0 x.1 x.2.1⟩
theorem ao4:a6 72 T3:=ok4 (show x8 Tryz.prog TB aaJ from⟨dK,aoK,aoR,WM,ao2,trivial⟩) func72 (by kernel_rfl) (by kernel_rfl) ad (by kernel_rfl) (by kernel_rfl)
def WS:=[(72,T3)]
abbrev ajN:List (Ty×Bool):=[(hz,true),(K45,true)]
def II (w:ko)(d:D45):=E6 WS F ad f28 ajN 0 (.own true) ix [] 2 (w,d,())
theorem alK (w:ko)(d:D45):II F w d=(No F0 w d).bind fun a=>br (a.2.1==0) (br (0 != 0) (none) (some ((a.1,()),()))) (br (a.2.1 != 0) (some (((w.1,a.2.2.2),()),())) (none)):=by kernel_rfl
def Qv:Any:=.two ⟨ajN,0,(.own true),ix,2,[],fun x=>II F0 x.1 x.2.1⟩
theorem alL:a6 28 Qv:=aBg WS ⟨ao4,trivial⟩ func28 ad (by kernel_rfl)
def py:=[(22,V0),(23,BC),(24,Cn),(25,ed),(26,Tp),(27,Fj),(28,Qv)]
def pz:Nat->Option Hint:=look [(7,{live:=[2,4,5,6,7,8,9],x3:=[(2,2,3,.int .i64),(2,3,65,cd),(2,4,105,eh),(2,5,41,cz)],xl:=[2,5,7],rl:=[2,3]})]
def lN (a i r s:Int)(t:List Int)(u v x b w c:Int)(y:List D45)(d:List Int)(e:List a1)(f:List bS)(g:List bE)(h:List Int)(j:List a1)(k:List bS)(l:List bE)(m:List Int)(o:List a1)(p:List bS)(q:List bE):= cQ 39 [b0 2,(4,.v (.c (.ptr 12 0))),b0 5,b0 6,(7,.v (.c (.own 1000000 none))),(8,a8 a),(9,a8 i)] [(2,[ao r,ao s,.own 1000001 none,.own 1000002 none,.own 1000003 none,.own 1000004 none]),(12,[.ro false 5 (.int .u8) t,ao u,ao v]),(5,[ao x,ao b,.own 1000005 none,.own 1000006 none,.own 1000007 none,.own 1000008 none]),(6,[ao w,ao c,.own 1000009 none,.own 1000010 none,.own 1000011 none,.own 1000012 none])] [ay 1000000 56 K45 y,ay 1000001 3 (.int .i64) d,ay 1000002 65 cd e,ay 1000003 105 eh f,ay 1000004 41 cz g,ay 1000005 3 (.int .i64) h,(1000006,some ⟨65,cd,j,false,true⟩),(1000007,some ⟨105,eh,k,false,true⟩),ay 1000008 41 cz l,ay 1000009 3 (.int .i64) m,ay 1000010 65 cd o,ay 1000011 105 eh p,ay 1000012 41 cz q]
def Fq (j k l a:Int)(m:List D45)(b:List Int)(c:List a1)(d:List bS)(e:List bE)(f:List Int)(g:List a1)(h:List bS)(i:List bE):= cQ 39 [b0 2,b0 5,(7,.v (.c (.own 1000000 none)))] [(2,[ao j,ao k,.own 1000001 none,.own 1000002 none,.own 1000003 none,.own 1000004 none]),(5,[ao l,ao a,.own 1000005 none,.own 1000006 none,.own 1000007 none,.own 1000008 none])] [ay 1000000 56 K45 m,ay 1000001 3 (.int .i64) b,ay 1000002 65 cd c,ay 1000003 105 eh d,ay 1000004 41 cz e,ay 1000005 3 (.int .i64) f,(1000006,some ⟨65,cd,g,false,true⟩),(1000007,some ⟨105,eh,h,false,true⟩),ay 1000008 41 cz i]
def pA (a:St):Option U:=e9 py F pz [.r,.r,.r,.r,.r,.r,.l,.r,.b,.i] f7 J n a
abbrev ayD:List (Ty×Bool):=[(hz,true),(K46,false)]
def tj:=hf py F pz [.r,.r,.r,.r,.r,.r,.l,.r,.b] f7 ayD 0
theorem Ae (d i u v:Int)(y:List Int)(z A x e w f:Int)(c:List D45)(g:List Int)(h:List a1)(j:List bS)(k:List bE)(l:List Int)(m:List a1)(o:List bS)(p:List bE)(q:List Int)(r:List a1)(s:List bS)(t:List bE):pA F J (n+1) (lN d i u v y z A x e w f c g h j k l m o p q r s t)=br (decide (i<d)) ((rT F0 (y,z,A) ((w,f),q,r,s,t)).bind fun a=>ck (ei F c.length [a.1.1].length 240) ((II F0 ((w,f),q,r,s,t) a.1.1).bind fun b=>pA F J n (lN d (aj (i+1)) u v a.2.1.1 a.2.1.2.1 a.2.1.2.2 x e b.1.1.1.1 b.1.1.1.2 (c++[a.1.1]) g h j k l m o p b.1.1.2.1 b.1.1.2.2.1 b.1.1.2.2.2.1 b.1.1.2.2.2.2))) (J (.exit 0) (Fq u v x e c g h j k l m o p)):=by kernel_rfl
theorem U5 (l m f a:Int)(g:List D45)(h:List Int)(i:List a1)(j:List bS)(k:List bE)(b:List Int)(c:List a1)(d:List bS)(e:List bE):tj F (.exit 0) (Fq l m f a g h i j k b c d e)=some (((f,a),b,c,d,e),g,()):=by kernel_rfl
def ve (a:List Int):=bj py F pz f7 lW ayD 0 (a,())
theorem ack (d:List Int):ve F d=(Ka F0 d).bind fun e=>(pc F0 e.1.1).bind fun a=>(yK F0 a.1.1).bind fun b=>(MK F0 d 70 140).bind fun f=>(av F0 a.2.1 f.1).bind fun c=>pA F (tj F) F.n (lN c.1.1 0 0 0 c.2.1.1 c.2.1.2.1 c.2.1.2.2 a.1.1.1.1 a.1.1.1.2 b.1.1.1 b.1.1.2 [] [] [] [] [] a.1.1.2.1 a.1.1.2.2.1 a.1.1.2.2.2.1 a.1.1.2.2.2.2 b.1.2.1 b.1.2.2.1 b.1.2.2.2.1 b.1.2.2.2.2):=by kernel_rfl
def Hm:Any:=.one ⟨lW,ayD,0,fun x=>ve F0 x.1⟩
theorem acm:a6 7 Hm:=aq py ⟨ar2,Wj,To,fN,aol,Zm,alL,trivial⟩ func7 pz (by kernel_rfl)
def dY (l:List Int):=bj aA F ad f29 kh kh 2 (l,())
theorem CA (l:List Int):dY F l=ck (ei F 0 l.length 8) (some ([]++l,())):=by kernel_rfl
def fq:Any:=.one ⟨kh,kh,2,fun x=>dY F0 x.1⟩
theorem jB:a6 29 fq:=aq aA trivial func29 ad (by kernel_rfl)
def aZ (a low high:Int):=bj aA F ad f41 aDc aO 1 (a,low,high,())
theorem ao5 (a low high:Int):aZ F a low high=br (decide (a>=low)) (some (decide (a<=high),())) (some (false,())):=by kernel_rfl
def bA:Any:=.one ⟨aDc,aO,1,fun x=>aZ F0 x.1 x.2.1 x.2.2.1⟩
theorem bV:a6 41 bA:=aq aA trivial func41 ad (by kernel_rfl)
def aaK:=[(41,bA)]
def ep (c:D1):=bj aaK F ad f30 S8 aO 1 (c,())
theorem ao6 (c:D1):ep F c=(aZ F0 c.1 4 7).bind fun a=>br a.1 ((aZ F0 c.2 1 6).bind fun b=>some (b.1,())) (some (false,())):=by kernel_rfl
def cN:Any:=.one ⟨S8,aO,1,fun x=>ep F0 x.1⟩
theorem dO:a6 30 cN:=aq aaK ⟨bV,trivial⟩ func30 ad (by kernel_rfl)
def se: Option (Args gq):=bj aA F ad f169 [] gq 2 (())
theorem T4: se F= some ((0,ak,[]),()):=by kernel_rfl
def CB:Any:=.one ⟨[],gq,2,fun x=>se F0⟩
theorem T5:a6 169 CB:=aq aA trivial func169 ad (by kernel_rfl)
def iM:Nat->Option Hint:=look [(4,{live:=[0,1,12,13],rl:=[4]})]
def gA (a b:List Int)(c d:Int):= bO 26 [(0,hD 3 (.int .i64) a),(1,hD 3 (.int .i64) b),(12,a8 c),(13,a8 d)]
def tK (a:Bool):= bO 26 [(4,H0 a)]
def s4   := bO 26 []
def iN (a:St):Option U:=e9 aA F iM [.r,.r,.l,.r,.b,.i] f115 J n a
def gB:=hf aA F iM [.r,.r,.l,.r,.b] f115 aO 1
theorem pB (b c:List Int)(d a:Int):iN F J (n+1) (gA b c d a)=br (decide (a<d)) (ck (bG a (b.length:Int)) (ck (bG a (c.length:Int)) (br ((aK b a 0) != (aK c a 0)) (J .ret (tK false)) (iN F J n (gA b c d (aj (a+1))))))) (J (.exit 0) (s4)):=by kernel_rfl
theorem Me (a:Bool):gB F .ret (tK a)=some (a,()):=by kernel_rfl
theorem KV: gB F (.exit 0) (s4)=some (true,()):=by kernel_rfl
def gQ (a b:List Int):=bj aA F iM f115 akQ aO 1 (a,b,())
theorem Qw (a b:List Int):gQ F a b=br ((a.length:Int) != (b.length:Int)) (some (false,())) (iN F (gB F) F.n (gA a b (a.length:Int) 0)):=by kernel_rfl
def lx:Any:=.one ⟨akQ,aO,1,fun x=>gQ F0 x.1 x.2.1⟩
theorem wY:a6 115 lx:=aq aA trivial func115 iM (by kernel_rfl)
def aaL:=[(115,lx)]
def jj (a b:D9):=bj aaL F ad f55 wP aO 1 (a,b,())
theorem WT (a b:D9):jj F a b=br (a.1==b.1) (br (a.2.1.toList==b.2.1.toList) ((gQ F0 a.2.2 b.2.2).bind fun c=>some (c.1,())) (some (false,()))) (some (false,())):=by kernel_rfl
def kt:Any:=.one ⟨wP,aO,1,fun x=>jj F0 x.1 x.2.1⟩
theorem qJ:a6 55 kt:=aq aaL ⟨wY,trivial⟩ func55 ad (by kernel_rfl)
def aeE:=[(245,Mo)]
def we (s:ByteArray)(a:Int):=bj aeE F ad f184 Z1 ayx 1 (s,a,())
theorem asq (s:ByteArray)(a:Int):we F s a=(strings_Split F0 s (strOf [a])).bind fun b=>some (b.1,()):=by kernel_rfl
def KW:Any:=.one ⟨Z1,ayx,1,fun x=>we F0 x.1 x.2.1⟩
theorem aaM:a6 184 KW:=aq aeE ⟨agN,trivial⟩ func184 ad (by kernel_rfl)
end
end Go.Am.Tryz
namespace Go.Am.Tryz
open Go.Am Go.Proofs Go.Proofs.Tryz
noncomputable section
variable {U:Type} (F:rz) (J:Ex->St->Option U) (n:Nat)
def aaN:=[(179,Py)]
def kT (a:Int):=bj aaN F ad f105 cE dB 1 (a,())
theorem ao7 (a:Int):kT F a=(strconv_Itoa F0 a).bind fun b=>some (b.1,()):=by kernel_rfl
def vf:Any:=.one ⟨cE,dB,1,fun x=>kT F0 x.1⟩
theorem KX:a6 105 vf:=aq aaN ⟨akI,trivial⟩ func105 ad (by kernel_rfl)
def D7:=[(105,vf)]
def Ea:Nat->Option Hint:=look [(5,{live:=[0,4,5],xl:=[0,4],rl:=[2,3]})]
def vg (s:ByteArray)(a i:Int):= bO 43 [(0,ZY s),(4,a8 a),(5,a8 i)]
def Gy (a:Int)(b:Bool):= bO 43 [(2,a8 a),(3,H0 b)]
def Qx (s:ByteArray)(a:Int):= bO 43 [(0,ZY s),(4,a8 a)]
def Eb (a:St):Option U:=e9 D7 F Ea [.r,.r,.r,.l,.r,.b,.i] f186 J n a
def vh:=hf D7 F Ea [.r,.r,.r,.l,.r,.b] f186 atH 1
theorem KY (s:ByteArray)(a i:Int):Eb F J (n+1) (vg s a i)=br (decide (i<(s.size:Int))) (ck (bG i (s.size:Int)) (br (decide ((jI s i)<48)) (J .ret (Gy 0 false)) (ck (bG i (s.size:Int)) (br (decide ((jI s i)>57)) (J .ret (Gy 0 false)) (ck (bG i (s.size:Int)) (Eb F J n (vg s (aj ((aj (10*a))+(aj (IntKind.wrap .u8 ((jI s i)-48))))) (aj (i+1))))))))) (J (.exit 0) (Qx s a)):=by kernel_rfl
theorem ahv (a:Int)(b:Bool):vh F .ret (Gy a b)=some (a,b,()):=by kernel_rfl
theorem aeF (s:ByteArray)(a:Int):vh F (.exit 0) (Qx s a)=(kT F0 a).bind fun b=>br (!(b.1.toList==s.toList)) (some (0,false,())) (some (a,true,())):=by kernel_rfl
def nd (s:ByteArray):=bj D7 F Ea f186 dB atH 1 (s,())
theorem ao8 (s:ByteArray):nd F s=br (decide ((s.size:Int)<1)) (some (0,false,())) (br (decide ((s.size:Int)>6)) (some (0,false,())) (Eb F (vh F) F.n (vg s 0 0))):=by kernel_rfl
def Gz:Any:=.one ⟨dB,atH,1,fun x=>nd F0 x.1⟩
theorem WU:a6 186 Gz:=aq D7 ⟨KX,trivial⟩ func186 Ea (by kernel_rfl)
def ajO:=[(41,bA)]
def oT (x:D4):=bj ajO F ad f104 Z4 aO 1 (x,())
theorem av9 (x:D4):oT F x=(aZ F0 x.1 0 3).bind fun a=>br a.1 ((aZ F0 x.2.1 0 3).bind fun b=>br b.1 ((aZ F0 x.2.2.1 0 1000).bind fun c=>br c.1 ((aZ F0 x.2.2.2 0 99).bind fun d=>some (d.1,())) (some (false,()))) (some (false,()))) (some (false,())):=by kernel_rfl
def jt:Any:=.one ⟨Z4,aO,1,fun x=>oT F0 x.1⟩
theorem nA:a6 104 jt:=aq ajO ⟨bV,trivial⟩ func104 ad (by kernel_rfl)
def aaO:=[(104,jt),(105,vf)]
def Fs (x:D4):=bj aaO F ad f180 Z4 dB 1 (x,())
theorem ao9 (x:D4):Fs F x=(oT F0 x).bind fun e=>br (!e.1) (some (ak,())) ((kT F0 x.1).bind fun a=>ck (UW F a.1.size (ByteArray.mk #[62]).size) ((kT F0 x.2.1).bind fun b=>ck (UW F (a.1++(ByteArray.mk #[62])).size b.1.size) (ck (UW F ((a.1++(ByteArray.mk #[62]))++b.1).size (ByteArray.mk #[58]).size) ((kT F0 x.2.2.1).bind fun c=>ck (UW F (((a.1++(ByteArray.mk #[62]))++b.1)++(ByteArray.mk #[58])).size c.1.size) (ck (UW F ((((a.1++(ByteArray.mk #[62]))++b.1)++(ByteArray.mk #[58]))++c.1).size (ByteArray.mk #[35]).size) ((kT F0 x.2.2.2).bind fun d=>ck (UW F (((((a.1++(ByteArray.mk #[62]))++b.1)++(ByteArray.mk #[58]))++c.1)++(ByteArray.mk #[35])).size d.1.size) (some ((((((a.1++(ByteArray.mk #[62]))++b.1)++(ByteArray.mk #[58]))++c.1)++(ByteArray.mk #[35]))++d.1,())))))))):=by kernel_rfl
def GA:Any:=.one ⟨Z4,dB,1,fun x=>Fs F0 x.1⟩
theorem WV:a6 180 GA:=aq aaO ⟨nA,KX,trivial⟩ func180 ad (by kernel_rfl)
def ajP:=[(104,jt),(180,GA),(185,F9),(186,Gz)]
def YF (s:ByteArray):=bj ajP F ad f247 dB aDd 1 (s,())
theorem awa (s:ByteArray):YF F0 s=(strings_Cut F0 s (ByteArray.mk #[62])).bind fun b=>(strings_Cut F0 b.2.1 (ByteArray.mk #[58])).bind fun c=>(strings_Cut F0 c.2.1 (ByteArray.mk #[35])).bind fun a=>ck (bG 0 4) ((nd F0 (aK [b.1,c.1,a.1,a.2.1] 0 ByteArray.empty)).bind fun d=>ck (bG 1 4) ((nd F0 (aK [b.1,c.1,a.1,a.2.1] 1 ByteArray.empty)).bind fun e=>ck (bG 2 4) ((nd F0 (aK [b.1,c.1,a.1,a.2.1] 2 ByteArray.empty)).bind fun f=>ck (bG 3 4) ((nd F0 (aK [b.1,c.1,a.1,a.2.1] 3 ByteArray.empty)).bind fun g=>(oT F0 (d.1,e.1,f.1,g.1)).bind fun h=>br (!h.1) (some ((0,0,0,0),false,())) ((Fs F0 (d.1,e.1,f.1,g.1)).bind fun i=>br (!(i.1.toList==s.toList)) (some ((0,0,0,0),false,())) (some ((d.1,e.1,f.1,g.1),true,()))))))):=by kernel_rfl
def aaP:Any:=.one ⟨dB,aDd,1,fun x=>YF F0 x.1⟩
theorem awb:a6 247 aaP:=aq ajP ⟨nA,WV,VW,WU,trivial⟩ func247 ad (by kernel_rfl)
def IJ:=[(184,KW),(247,aaP)]
def IK:Nat->Option Hint:=look [(5,{live:=[4,12,13,14],mat:=[(4,52,K4)],xl:=[4],rl:=[2,3]})]
def Af (a:List ByteArray)(b c:Int)(d:List D4):= cQ 31 [(4,.v (.c (.own 1000000 none))),(12,.v (.c (.ro true 9 (.str) a))),(13,a8 b),(14,a8 c)] [] [ay 1000000 52 K4 d]
def WW (a:Bool):= bO 31 [(2,.v (.c (.nil))),(3,H0 a)]
def T6 (a:List D4):= cQ 31 [(4,.v (.c (.own 1000000 none)))] [] [ay 1000000 52 K4 a]
def IL (a:St):Option U:=e9 IJ F IK [.r,.r,.r,.l,.r,.b,.i] f187 J n a
def Ag:=hf IJ F IK [.r,.r,.r,.l,.r,.b] f187 V6 2
theorem Np (b:List ByteArray)(e a:Int)(c:List D4):IL F J (n+1) (Af b e a c)=br (decide (a<e)) (ck (bG a (b.length:Int)) ((YF F0 (aK b a ByteArray.empty)).bind fun d=>br (!d.2.1) (J .ret (WW false)) (ck (ei F c.length [d.1].length 32) (IL F J n (Af b e (aj (a+1)) (c++[d.1])))))) (J (.exit 0) (T6 c)):=by kernel_rfl
theorem alM (a:Bool):Ag F .ret (WW a)=some ([],a,()):=by kernel_rfl
theorem ahw (a:List D4):Ag F (.exit 0) (T6 a)=some (a,true,()):=by kernel_rfl
def KZ (s:ByteArray):=bj IJ F IK f187 dB V6 2 (s,())
theorem asr (s:ByteArray):KZ F s=br (s.toList==ak.toList) (some ([],true,())) ((we F0 s 44).bind fun a=>IL F (Ag F) F.n (Af a.1 (a.1.length:Int) 0 [])):=by kernel_rfl
def WX:Any:=.one ⟨dB,V6,2,fun x=>KZ F0 x.1⟩
theorem ass:a6 187 WX:=aq IJ ⟨aaM,awb,trivial⟩ func187 IK (by kernel_rfl)
def IM:=[(41,bA),(184,KW),(185,F9),(186,Gz),(187,WX)]
def IN:Nat->Option Hint:=look [(9,{live:=[5,6,31,32,33],mat:=[(5,157,K6)],xl:=[5],rl:=[2,3]})]
def Ah (a:Int)(b:List ByteArray)(c d:Int)(e:List D6):= cQ 84 [(5,.v (.c (.own 1000000 none))),(6,a8 a),(31,.v (.c (.ro true 9 (.str) b))),(32,a8 c),(33,a8 d)] [] [ay 1000000 157 K6 e]
def mr (a:Bool):= bO 84 [(2,.v (.c (.nil))),(3,H0 a)]
def T7 (a:List D6):= cQ 84 [(5,.v (.c (.own 1000000 none)))] [] [ay 1000000 157 K6 a]
def IP (a:St):Option U:=e9 IM F IN [.r,.r,.r,.r,.r,.r,.l,.r,.b,.i] f109 J n a
def Ai:=hf IM F IN [.r,.r,.r,.r,.r,.r,.l,.r,.b] f109 atI 2
theorem Nq (h:Int)(d:List ByteArray)(g b:Int)(e:List D6):IP F J (n+1) (Ah h d g b e)=br (decide (b<g)) (ck (bG b (d.length:Int)) ((strings_Cut F0 (aK d b ByteArray.empty) (ByteArray.mk #[124])).bind fun f=>(nd F0 f.1).bind fun a=>(KZ F0 f.2.1).bind fun c=>br (!f.2.2.1) (J .ret (mr false)) (br (!a.2.1) (J .ret (mr false)) (br (!c.2.1) (J .ret (mr false)) ((aZ F0 a.1 (aj (h+1)) 60).bind fun i=>br (!i.1) (J .ret (mr false)) (br (decide ((c.1.length:Int)>2)) (J .ret (mr false)) (ck (ei F e.length [(a.1,c.1)].length 32) (IP F J n (Ah a.1 d g (aj (b+1)) (e++[(a.1,c.1)])))))))))) (J (.exit 0) (T7 e)):=by kernel_rfl
theorem alN (a:Bool):Ai F .ret (mr a)=some ([],a,()):=by kernel_rfl
theorem ahx (a:List D6):Ai F (.exit 0) (T7 a)=some (a,true,()):=by kernel_rfl
def qU (s:ByteArray):=bj IM F IN f109 dB atI 2 (s,())
theorem ast (s:ByteArray):qU F s=br (s.toList==ak.toList) (some ([],true,())) ((we F0 s 47).bind fun a=>ck (bG 0 (a.1.length:Int)) (br (!((aK a.1 0 ByteArray.empty).toList==ak.toList)) (some ([],false,())) (br (decide ((aj ((a.1.length:Int)-1))>30)) (some ([],false,())) (ck (S5 1 (a.1.length:Int) (a.1.length:Int)) (IP F (Ai F) F.n (Ah 0 ((a.1.take (a.1.length:Int).toNat).drop (1:Int).toNat) (((a.1.take (a.1.length:Int).toNat).drop (1:Int).toNat).length:Int) 0 [])))))):=by kernel_rfl
def qV:Any:=.one ⟨dB,atI,2,fun x=>qU F0 x.1⟩
theorem Ec:a6 109 qV:=aq IM ⟨bV,aaM,VW,WU,ass,trivial⟩ func109 IN (by kernel_rfl)
def aaQ:=[(109,qV)]
def eZ (s:ByteArray):=bj aaQ F ad f60 dB aO 1 (s,())
theorem apa (s:ByteArray):eZ F s=(qU F0 s).bind fun a=>some (a.2.1,()):=by kernel_rfl
def eO:Any:=.one ⟨dB,aO,1,fun x=>eZ F0 x.1⟩
theorem gR:a6 60 eO:=aq aaQ ⟨Ec,trivial⟩ func60 ad (by kernel_rfl)
def aaR:=[(109,qV)]
def er (s:ByteArray):=bj aaR F ad f49 dB cE 1 (s,())
theorem apb (s:ByteArray):er F s=(qU F0 s).bind fun a=>br ((a.1.length:Int)==0) (some (0,())) (ck (bG (aj ((a.1.length:Int)-1)) (a.1.length:Int)) (some ((aK a.1 (aj ((a.1.length:Int)-1)) (0,[])).1,()))):=by kernel_rfl
def dZ:Any:=.one ⟨dB,cE,1,fun x=>er F0 x.1⟩
theorem fs:a6 49 dZ:=aq aaR ⟨Ec,trivial⟩ func49 ad (by kernel_rfl)
def IQ:Nat->Option Hint:=look [(2,{live:=[0,1,7,8,9],rl:=[4]})]
def q0 (a:Int)(s b:List Int)(c d:Int):= bO 35 [(0,a8 a),(1,hD 3 (.int .i64) s),(7,hD 3 (.int .i64) b),(8,a8 c),(9,a8 d)]
def Aj (a:Bool):= bO 35 [(4,H0 a)]
def T8   := bO 35 []
def Ak (a:St):Option U:=e9 aA F IQ [.r,.l,.r,.b,.i] f56 J n a
def Al:=hf aA F IQ [.r,.l,.r,.b] f56 aO 1
theorem Nr (c:Int)(s b:List Int)(d a:Int):Ak F J (n+1) (q0 c s b d a)=br (decide (a<d)) (ck (bG a (b.length:Int)) (br (decide ((aK b a 0)<0)) (J .ret (Aj false)) (br (decide ((aK b a 0)>=c)) (J .ret (Aj false)) (br (decide (a>0)) (ck (bG (aj (a-1)) (s.length:Int)) (br (decide ((aK s (aj (a-1)) 0)>=(aK b a 0))) (J .ret (Aj false)) (Ak F J n (q0 c s b d (aj (a+1)))))) (Ak F J n (q0 c s b d (aj (a+1)))))))) (J (.exit 0) (T8)):=by kernel_rfl
theorem alO (a:Bool):Al F .ret (Aj a)=some (a,()):=by kernel_rfl
theorem ahy: Al F (.exit 0) (T8)=some (true,()):=by kernel_rfl
def wg (a:Int)(s:List Int):=bj aA F IQ f56 aDe aO 1 (a,s,())
theorem asu (a:Int)(s:List Int):wg F a s=Ak F (Al F) F.n (q0 a s s (s.length:Int) 0):=by kernel_rfl
def An:Any:=.one ⟨aDe,aO,1,fun x=>wg F0 x.1 x.2.1⟩
theorem O0:a6 56 An:=aq aA trivial func56 IQ (by kernel_rfl)
def aaS:=[(30,cN)]
def Ft (c:D1):=bj aaS F ad f57 S8 cE 1 (c,())
theorem apc (c:D1):Ft F c=(ep F0 c).bind fun a=>br (!a.1) (some (0,())) (some (aj (Int.tdiv (aj (c.1-1)) 3),())):=by kernel_rfl
def GB:Any:=.one ⟨S8,cE,1,fun x=>Ft F0 x.1⟩
theorem WY:a6 57 GB:=aq aaS ⟨dO,trivial⟩ func57 ad (by kernel_rfl)
def aaT:=[(30,cN),(57,GB)]
def Fu (c:D1):=bj aaT F ad f182 S8 cE 1 (c,())
theorem apd (c:D1):Fu F c=(ep F0 c).bind fun a=>br (!a.1) (some (0,())) ((Ft F0 c).bind fun b=>some (aj (c.1-b.1),())):=by kernel_rfl
def GC:Any:=.one ⟨S8,cE,1,fun x=>Fu F0 x.1⟩
theorem WZ:a6 182 GC:=aq aaT ⟨dO,WY,trivial⟩ func182 ad (by kernel_rfl)
def ajQ:=[(30,cN),(49,dZ),(55,kt),(56,An),(60,eO),(169,CB),(182,GC)]
def mu (c:D1)(q:D9):=bj ajQ F ad f107 GX aO 1 (c,q,())
theorem awc (c:D1)(q:D9):mu F c q=(ep F0 c).bind fun a=>br (!a.1) (some (false,())) ((se F0).bind fun b=>(jj F0 q b.1).bind fun d=>br d.1 (some (true,())) (br (decide (q.1>=1)) ((eZ F0 q.2.1).bind fun e=>br e.1 ((er F0 q.2.1).bind fun f=>br (q.1==f.1) ((wg F0 c.1 q.2.2).bind fun g=>br g.1 ((Fu F0 c).bind fun h=>some (decide ((q.2.2.length:Int)>=h.1),())) (some (false,()))) (some (false,()))) (some (false,()))) (some (false,())))):=by kernel_rfl
def ju:Any:=.one ⟨GX,aO,1,fun x=>mu F0 x.1 x.2.1⟩
theorem nB:a6 107 ju:=aq ajQ ⟨dO,fs,qJ,O0,gR,T5,WZ,trivial⟩ func107 ad (by kernel_rfl)
def aaU:=[(41,bA),(60,eO),(107,ju)]
def kU (c:D1)(s:U1):=bj aaU F ad f50 Tf aO 1 (c,s,())
theorem ape (c:D1)(s:U1):kU F c s=(aZ F0 s.1 0 60).bind fun a=>br a.1 ((aZ F0 s.2.1 0 60).bind fun b=>br b.1 ((mu F0 c s.2.2.1).bind fun d=>br d.1 ((eZ F0 s.2.2.2).bind fun e=>some (e.1,())) (some (false,()))) (some (false,()))) (some (false,())):=by kernel_rfl
def ku:Any:=.one ⟨Tf,aO,1,fun x=>kU F0 x.1 x.2.1⟩
theorem q1:a6 50 ku:=aq aaU ⟨bV,gR,nB,trivial⟩ func50 ad (by kernel_rfl)
def Ed (a b:D4):=bj aA F ad f189 aDf aO 1 (a,b,())
theorem ahz (a b:D4):Ed F a b=br (decide (a.1<b.1)) (some (true,())) (br (a.1==b.1) (some (decide (a.2.2.2<b.2.2.2),())) (some (false,()))):=by kernel_rfl
def Ns:Any:=.one ⟨aDf,aO,1,fun x=>Ed F0 x.1 x.2.1⟩
theorem ahA:a6 189 Ns:=aq aA trivial func189 ad (by kernel_rfl)
def Ee:=[(104,jt),(189,Ns)]
def Ef:Nat->Option Hint:=look [(2,{live:=[0,5,6,7],xl:=[0],rl:=[2]})]
def ot (p a:List D4)(b c:Int):= bO 33 [(0,hD 52 (K4) p),(5,hD 52 (K4) a),(6,a8 b),(7,a8 c)]
def GD (a:Bool):= bO 33 [(2,H0 a)]
def Qy (p:List D4):= bO 33 [(0,hD 52 (K4) p)]
def tL (a:St):Option U:=e9 Ee F Ef [.r,.l,.r,.b,.i] f116 J n a
def vi:=hf Ee F Ef [.r,.l,.r,.b] f116 aO 1
theorem K0 (p b:List D4)(c a:Int):tL F J (n+1) (ot p b c a)=br (decide (a<c)) (ck (bG a (b.length:Int)) ((oT F0 (aK b a K4.aD)).bind fun d=>br (!d.1) (J .ret (GD false)) (br (decide (a>0)) (ck (bG (aj (a-1)) (p.length:Int)) ((Ed F0 (aK p (aj (a-1)) K4.aD) (aK b a K4.aD)).bind fun e=>br (!e.1) (J .ret (GD false)) (tL F J n (ot p b c (aj (a+1)))))) (tL F J n (ot p b c (aj (a+1))))))) (J (.exit 0) (Qy p)):=by kernel_rfl
theorem ahB (a:Bool):vi F .ret (GD a)=some (a,()):=by kernel_rfl
theorem aeG (p:List D4):vi F (.exit 0) (Qy p)=some (decide ((p.length:Int)<=12),()):=by kernel_rfl
def wZ (p:D5):=bj Ee F Ef f116 kd aO 1 (p,())
theorem apf (p:D5):wZ F p=tL F (vi F) F.n (ot p p (p.length:Int) 0):=by kernel_rfl
def GF:Any:=.one ⟨kd,aO,1,fun x=>wZ F0 x.1⟩
theorem W0:a6 116 GF:=aq Ee ⟨nA,ahA,trivial⟩ func116 Ef (by kernel_rfl)
def aaV:=[(30,cN),(41,bA),(49,dZ),(56,An),(60,eO)]
def q2 (c:D1)(p:D9):=bj aaV F ad f190 GX aO 1 (c,p,())
theorem apg (c:D1)(p:D9):q2 F c p=(ep F0 c).bind fun b=>br b.1 ((aZ F0 p.1 1 60).bind fun d=>br d.1 (br (p.2.1.toList==ak.toList) ((wg F0 c.1 p.2.2).bind fun a=>br a.1 (some (decide ((p.2.2.length:Int)>0),())) (some (false,()))) ((eZ F0 p.2.1).bind fun e=>br e.1 ((er F0 p.2.1).bind fun f=>br (f.1==p.1) ((wg F0 c.1 p.2.2).bind fun a=>br a.1 (some (decide ((p.2.2.length:Int)>0),())) (some (false,()))) (some (false,()))) (some (false,())))) (some (false,()))) (some (false,())):=by kernel_rfl
def ou:Any:=.one ⟨GX,aO,1,fun x=>q2 F0 x.1 x.2.1⟩
theorem Ao:a6 190 ou:=aq aaV ⟨dO,bV,fs,O0,gR,trivial⟩ func190 ad (by kernel_rfl)
def Eg (x:Int):=bj aA F ad f293 cE aO 1 (x,())
theorem Qz (x:Int):Eg F x=some (x != x,()):=by kernel_rfl
def Nt:Any:=.one ⟨cE,aO,1,fun x=>Eg F0 x.1⟩
theorem ahC:a6 293 Nt:=aq aA trivial func293 ad (by kernel_rfl)
def Nu:=[(293,Nt)]
def vj (x y:Int):=bj Nu F ad f248 atJ cE 1 (x,y,())
theorem acn (x y:Int):vj F x y=(Eg F0 x).bind fun b=>(Eg F0 y).bind fun a=>br b.1 (br a.1 (some (0,())) (some (-1,()))) (br a.1 (some (1,())) (br (decide (x<y)) (some (-1,())) (br (decide (x>y)) (some (1,())) (some (0,()))))):=by kernel_rfl
def Hn:Any:=.one ⟨atJ,cE,1,fun x=>vj F0 x.1 x.2.1⟩
theorem aco:a6 248 Hn:=aq Nu ⟨ahC,trivial⟩ func248 ad (by kernel_rfl)
def sf (x:ByteArray):=bj aA F ad f294 dB aO 1 (x,())
theorem Ho (x:ByteArray):sf F x=some (!(x.toList==x.toList),()):=by kernel_rfl
def Fv:Any:=.one ⟨dB,aO,1,fun x=>sf F0 x.1⟩
theorem Zo:a6 294 Fv:=aq aA trivial func294 ad (by kernel_rfl)
def Fw:=[(294,Fv)]
def nC (x y:ByteArray):=bj Fw F ad f249 Tw cE 1 (x,y,())
theorem U6 (x y:ByteArray):nC F x y=(sf F0 x).bind fun b=>(sf F0 y).bind fun a=>br b.1 (br a.1 (some (0,())) (some (-1,()))) (br a.1 (some (1,())) (br (Op.bytesLess x.toList y.toList) (some (-1,())) (br (!(Op.bytesLess x.toList y.toList || (x.toList==y.toList))) (some (1,())) (some (0,()))))):=by kernel_rfl
def Ap:Any:=.one ⟨Tw,cE,1,fun x=>nC F0 x.1 x.2.1⟩
theorem U7:a6 249 Ap:=aq Fw ⟨Zo,trivial⟩ func249 ad (by kernel_rfl)
def Hp:=[(248,Hn),(249,Ap)]
def ft (a b:D9):=bj Hp F ad f191 wP cE 1 (a,b,())
theorem Fx (a b:D9):ft F a b=(vj F0 a.1 b.1).bind fun c=>br (c.1 != 0) (some (c.1,())) ((nC F0 a.2.1 b.2.1).bind fun d=>some (d.1,())):=by kernel_rfl
def o5:Any:=.one ⟨wP,cE,1,fun x=>ft F0 x.1 x.2.1⟩
theorem Fy:a6 191 o5:=aq Hp ⟨aco,U7,trivial⟩ func191 ad (by kernel_rfl)
def Aq:=[(190,ou),(191,o5)]
def Ar:Nat->Option Hint:=look [(2,{live:=[1,2,7,8,9],xl:=[1],rl:=[4]})]
def mv (b d:List D9)(e f c a:Int):= cQ 36 [(1,hD 50 (K9) b),b0 2,(7,hD 50 (K9) d),(8,a8 e),(9,a8 f)] [(2,[ao c,ao a])] []
def CC (a:Bool):= bO 36 [(4,H0 a)]
def Nv (a:List D9):= bO 36 [(1,hD 50 (K9) a)]
def q3 (a:St):Option U:=e9 Aq F Ar [.r,.l,.r,.b,.i] f117 J n a
def sg:=hf Aq F Ar [.r,.l,.r,.b] f117 aO 1
theorem Hq (b d:List D9)(f a c e:Int):q3 F J (n+1) (mv b d f a c e)=br (decide (a<f)) (ck (bG a (d.length:Int)) ((q2 F0 (c,e) (aK d a K9.aD)).bind fun g=>br (!g.1) (J .ret (CC false)) (br (decide (a>0)) (ck (bG (aj (a-1)) (b.length:Int)) ((ft F0 (aK b (aj (a-1)) K9.aD) (aK d a K9.aD)).bind fun h=>br (decide (h.1>=0)) (J .ret (CC false)) (q3 F J n (mv b d f (aj (a+1)) c e)))) (q3 F J n (mv b d f (aj (a+1)) c e))))) (J (.exit 0) (Nv b)):=by kernel_rfl
theorem aeH (a:Bool):sg F .ret (CC a)=some (a,()):=by kernel_rfl
theorem acp (a:List D9):sg F (.exit 0) (Nv a)=some (decide ((a.length:Int)<=20),()):=by kernel_rfl
def kV (c:D1)(a:D13):=bj Aq F Ar f117 aDg aO 1 (c,a,())
theorem alP (c:D1)(a:D13):kV F c a=q3 F (sg F) F.n (mv a a (a.length:Int) 0 c.1 c.2):=by kernel_rfl
def CD:Any:=.one ⟨aDg,aO,1,fun x=>kV F0 x.1 x.2.1⟩
theorem T9:a6 117 CD:=aq Aq ⟨Ao,Fy,trivial⟩ func117 Ar (by kernel_rfl)
def aaW:=[(41,bA)]
def q4 (d:D14):=bj aaW F ad f118 pa aO 1 (d,())
theorem aph (d:D14):q4 F d=br (decide ((d.1.length:Int)<=100000)) ((aZ F0 d.2 0 (d.1.length:Int)).bind fun a=>some (a.1,())) (some (false,())):=by kernel_rfl
def ov:Any:=.one ⟨pa,aO,1,fun x=>q4 F0 x.1⟩
theorem As:a6 118 ov:=aq aaW ⟨bV,trivial⟩ func118 ad (by kernel_rfl)
def aeI:Nat->Option Hint:=look [(900008,{live:=[],mat:=[(1,0,K21)]})]
def Sb (m:OW):=bj aA F aeI f193 wR wR 0 (m,())
theorem asv (m:OW):Sb F m=br (m.1==1) (some ((m.1,0,m.2.2.1,(0,ak,[]),(0,ak,[]),0,0,0,0,0),())) (br (m.1==2) (some ((m.1,0,(ak,0,ak,[]),m.2.2.2.1,(0,ak,[]),0,0,0,0,0),())) (br (m.1==3) (some ((m.1,m.2.1,(ak,0,ak,[]),(0,ak,[]),m.2.2.2.2.1,m.2.2.2.2.2.1,0,0,0,0),())) (br (m.1==4) (some ((m.1,0,(ak,0,ak,[]),(0,ak,[]),(0,ak,[]),0,m.2.2.2.2.2.2),())) (some ((m.1,0,(ak,0,ak,[]),(0,ak,[]),(0,ak,[]),0,0,0,0,0),()))))):=by kernel_rfl
def W2:Any:=.one ⟨wR,wR,0,fun x=>Sb F0 x.1⟩
theorem asw:a6 193 W2:=aq aA trivial func193 aeI (by kernel_rfl)
def QA:=[(55,kt)]
def Au (a b:D15):=bj QA F ad f250 aDh aO 1 (a,b,())
theorem aeJ (a b:D15):Au F a b=br (a.1.toList==b.1.toList) ((jj F0 a.2 b.2).bind fun c=>some (c.1,())) (some (false,())):=by kernel_rfl
def La:Any:=.one ⟨aDh,aO,1,fun x=>Au F0 x.1 x.2.1⟩
theorem aeK:a6 250 La:=aq QA ⟨qJ,trivial⟩ func250 ad (by kernel_rfl)
end
end Go.Am.Tryz
