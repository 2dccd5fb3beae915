/- No condition. -/
import Derived.Test.YtpkabclplaibaaaGreatDoorQjYJG6
set_option linter.all false
set_option maxRecDepth 100000
namespace Go.Am.Tryz
open Go.Am Go.Proofs Go.Proofs.Tryz
noncomputable section
variable {U:Type} (F:nP) (J:Ex->St->Option U) (n:Nat)
def rm:=[(93,b6)]
def rn:Nat->Option Hint:=look [(2,{live:=[1,2,9,10,11],rl:=[6]})]
def mz (low high:Int)(a:List Int)(b c:Int):= bk 21 [(1,a7 low),(2,a7 high),(9,mU 3 (.int .i64) a),(10,a7 b),(11,a7 c)]
def Ja (a:Bool):= bk 21 [(6,vE a)]
def FJ   := bk 21 []
def rq (a:St):Option U:=eo rm F rn [.r,.l,.r,.b,.i] f285 J n a
def mA:=jx rm F rn [.r,.l,.r,.b] f285 aI 1
def Ah (low high:Int)(b:List Int)(c a:Int):rq F J (n+1) (mz low high b c a)=br (decide (a<c)) (ck (bh a (b.length:Int)) ((bz F0 (aJ b a 0) low high).bind fun d=>br (!d.1) (J .ret (Ja false)) (rq F J n (mz low high b c (ak (a+1)))))) (J (.exit 0) (FJ)):=by kernel_rfl
def Vl (a:Bool):mA F .ret (Ja a)=some (a,()):=by kernel_rfl
def Tq: mA F (.exit 0) (FJ)=some (true,()):=by kernel_rfl
abbrev aBP:List (Ty×Bool):=[(.sl 3 (.int .i64),false),(.int .i64,false),(.int .i64,false)]
def pz (a:List Int)(low high:Int):=bM rm F rn f285 aBP aI 1 (a,low,high,())
def aat (a:List Int)(low high:Int):pz F a low high=rq F (mA F) F.n (mz low high a (a.length:Int) 0):=by kernel_rfl
def Jb:Any:=.one ⟨aBP,aI,1,fun x=>pz F0 x.1 x.2.1 x.2.2.1⟩
def aau:a8 285 Jb:=aG rm ⟨cV,trivial⟩ func285 rn (by kernel_rfl)
def QJ:=[(285,Jb)]
def sA (l:D10):=bM QJ F ab f229 km aI 1 (l,())
def acD (l:D10):sA F l=br ((l.1.length:Int)==4) (br ((l.2.length:Int)==4) ((pz F0 l.1 0 400).bind fun a=>br a.1 ((pz F0 l.2 0 100).bind fun b=>some (b.1,())) (some (false,()))) (some (false,()))) (some (false,())):=by kernel_rfl
def Lw:Any:=.one ⟨km,aI,1,fun x=>sA F0 x.1⟩
def acE:a8 229 Lw:=aG QJ ⟨aau,trivial⟩ func229 ab (by kernel_rfl)
def aje:=[(150,r0),(228,nL),(229,Lw)]
def aav (l:D10)(x:D4):=bM aje F ab f151 avj avk 2 (l,x,())
def aqA (l:D10)(x:D4):aav F l x=(jh F0 l).bind fun a=>(sA F0 l).bind fun b=>br (!b.1) (some (a.1,1,())) ((vd F0 x).bind fun c=>br (!c.1) (some (a.1,1,())) (ck (bh x.1 (l.2.length:Int)) (br (decide (x.2.2.2<(aJ l.2 x.1 0))) (some (a.1,2,())) (ck (bh x.1 (l.2.length:Int)) (br (decide (x.2.2.2>(aJ l.2 x.1 0))) (some (a.1,3,())) (ck (bh x.1 (a.1.2.length:Int)) (ck (bh x.1 (a.1.2.length:Int)) (ck (bh x.1 (l.1.length:Int)) (br (decide (x.2.2.1>(aJ l.1 x.1 0))) (some ((a.1.1,a.1.2.set x.1.toNat (ak ((aJ a.1.2 x.1 0)+1))),4,())) (ck (bh x.1 (a.1.1.length:Int)) (ck (bh x.1 (a.1.1.length:Int)) (ck (bh x.2.1 ((a.1.1.set x.1.toNat (ak ((aJ a.1.1 x.1 0)-x.2.2.1))).length:Int)) (ck (bh x.2.1 ((a.1.1.set x.1.toNat (ak ((aJ a.1.1 x.1 0)-x.2.2.1))).length:Int)) ((sA F0 ((a.1.1.set x.1.toNat (ak ((aJ a.1.1 x.1 0)-x.2.2.1))).set x.2.1.toNat (ak ((aJ (a.1.1.set x.1.toNat (ak ((aJ a.1.1 x.1 0)-x.2.2.1))) x.2.1 0)+x.2.2.1)),a.1.2.set x.1.toNat (ak ((aJ a.1.2 x.1 0)+1)))).bind fun d=>br (!d.1) ((jh F0 l).bind fun e=>some (e.1,1,())) (some (((a.1.1.set x.1.toNat (ak ((aJ a.1.1 x.1 0)-x.2.2.1))).set x.2.1.toNat (ak ((aJ (a.1.1.set x.1.toNat (ak ((aJ a.1.1 x.1 0)-x.2.2.1))) x.2.1 0)+x.2.2.1)),a.1.2.set x.1.toNat (ak ((aJ a.1.2 x.1 0)+1))),0,())))))))))))))))):=by kernel_rfl
def aaw:Any:=.one ⟨avj,avk,2,fun x=>aav F0 x.1 x.2.1⟩
def aqB:a8 151 aaw:=aG aje ⟨I9,yc,acE,trivial⟩ func151 ab (by kernel_rfl)
def CI:=[(150,r0),(151,aaw)]
def CJ:Nat->Option Hint:=look [(4,{live:=[4,6,7,14,15,16],mat:=[(7,3,.int .i64)],F4:=[(4,0,3,.int .i64),(4,1,3,.int .i64)],xl:=[4,6,7],rl:=[4,5]})]
def uc (e:List D4)(f g:Int)(h a b c d:List Int):= ei 34 [cl 4,cl 6,(7,.v (.c (.own 1000000 none))),(14,mU 99 (K4) e),(15,a7 f),(16,a7 g)] [(4,[.own 1000001 none,.own 1000002 none]),(6,[.own 1000003 none,.own 1000004 none])] [aP 1000000 3 (.int .i64) h,aP 1000001 3 (.int .i64) a,aP 1000002 3 (.int .i64) b,aP 1000003 3 (.int .i64) c,aP 1000004 3 (.int .i64) d]
def NW (e a b c d:List Int):= ei 34 [cl 4,cl 6,(7,.v (.c (.own 1000000 none)))] [(4,[.own 1000001 none,.own 1000002 none]),(6,[.own 1000003 none,.own 1000004 none])] [aP 1000000 3 (.int .i64) e,aP 1000001 3 (.int .i64) a,aP 1000002 3 (.int .i64) b,aP 1000003 3 (.int .i64) c,aP 1000004 3 (.int .i64) d]
def CK (a:St):Option U:=eo CI F CJ [.r,.r,.r,.l,.r,.b,.i] f78 J n a
def ES:=jx CI F CJ [.r,.r,.r,.l,.r,.b] f78 amz 2
def Jc (c:List D4)(i a:Int)(d e f g h:List Int):CK F J (n+1) (uc c i a d e f g h)=br (decide (a<i)) (ck (bh a (c.length:Int)) ((aav F0 (g,h) (aJ c a K4.aw)).bind fun b=>ck (fA F d.length [b.2.1].length 8) (CK F J n (uc c i (ak (a+1)) (d++[b.2.1]) e f b.1.1 b.1.2)))) (J (.exit 0) (NW d e f g h)):=by kernel_rfl
def aax (c d e a b:List Int):ES F (.exit 0) (NW c d e a b)=some ((a,b),c,()):=by kernel_rfl
def DK (l:D10)(a:D5):=bM CI F CJ f78 avu amz 2 (l,a,())
def ajf (l:D10)(a:D5):DK F l a=(jh F0 l).bind fun b=>CK F (ES F) F.n (uc a (a.length:Int) 0 [] [] [] b.1.1 b.1.2):=by kernel_rfl
def ET:Any:=.one ⟨avu,amz,2,fun x=>DK F0 x.1 x.2.1⟩
def Tr:a8 78 ET:=aG CI ⟨I9,aqB,trivial⟩ func78 CJ (by kernel_rfl)
def aay:=[(77,I8),(78,ET),(79,uG),(92,yx)]
def OP (c:D1)(r:bL):=bM aay F ab f76 Gv km 2 (c,r,())
def aly (c:D1)(r:bL):OP F c r=(Bk F0 c r).bind fun a=>br (!a.1) (some (([],[]),())) ((py F0).bind fun b=>(Bp F0 r.2.2.2.1.2.2.2).bind fun d=>(DK F0 b.1 d.1).bind fun e=>some (e.1,())):=by kernel_rfl
def Ts:Any:=.one ⟨Gv,km,2,fun x=>OP F0 x.1 x.2.1⟩
def alz:a8 76 Ts:=aG aay ⟨WY,Tr,Lr,Mi,trivial⟩ func76 ab (by kernel_rfl)
def Hc:Nat->Option Hint:=look [(3,{live:=[3,7,8,9],xl:=[3],rl:=[2]})]
def yK (a:Int)(b:List Int)(c d:Int):= bk 18 [(3,a7 a),(7,mU 3 (.int .i64) b),(8,a7 c),(9,a7 d)]
def QK (a:Int):= bk 18 [(3,a7 a)]
def Hd (a:St):Option U:=eo ax F Hc [.r,.r,.l,.r,.b,.i] f75 J n a
def Jd:=jx ax F Hc [.r,.r,.l,.r,.b] f75 c8 1
def Lx (c:Int)(b:List Int)(d a:Int):Hd F J (n+1) (yK c b d a)=br (decide (a<d)) (ck (bh a (b.length:Int)) (Hd F J n (yK (ak (c+(aJ b a 0))) b d (ak (a+1))))) (J (.exit 0) (QK c)):=by kernel_rfl
def acF (a:Int):Jd F (.exit 0) (QK a)=some (a,()):=by kernel_rfl
def OQ (l:D10):=bM ax F Hc f75 km c8 1 (l,())
def alA (l:D10):OQ F l=Hd F (Jd F) F.n (yK 0 l.1 (l.1.length:Int) 0):=by kernel_rfl
def Tt:Any:=.one ⟨km,c8,1,fun x=>OQ F0 x.1⟩
def alB:a8 75 Tt:=aG ax trivial func75 Hc (by kernel_rfl)
def NX (a:Int):=bM ax F ab f80 c8 aI 1 (a,())
def aoM (a:Int):NX F a=br (a==0) (some (true,())) (some (a==4,())):=by kernel_rfl
def WZ:Any:=.one ⟨c8,aI,1,fun x=>NX F0 x.1⟩
def aoN:a8 80 WZ:=aG ax trivial func80 ab (by kernel_rfl)
def c0:=[(39,et),(54,nn),(75,Tt),(76,Ts),(77,I8),(78,ET),(79,uG),(80,WZ)]
def c1:Nat->Option Hint:=look [(4,{live:=[1,16,17,18],rl:=[2]}),(11,{live:=[1,5,7,16,17,18,46,47,48],xl:=[1,16,17,18],rl:=[2]}),(14,{live:=[1,5,7,8,9,16,17,18,46,47,48,55,56,57],xl:=[1,5,7,16,17,18,46,47,48],rl:=[2]})]
def dw (i m o p q a r s w b:Int)(c:List Int)(d:List bL)(e:List cI)(f:List b3)(x g h j:Int)(t:List D4)(k l:List Int):= ei 91 [cl 1,(5,.v (.c (.own 1000000 none))),(7,.v (.c (.own 1000001 none))),(8,a7 i),cl 9,(16,.v (.c (.own 1000002 none))),(17,a7 m),(18,a7 o),(46,.v (.c (.own 1000000 none))),(47,a7 p),(48,a7 q),(55,.v (.c (.own 1000000 (some a)))),(56,a7 r),(57,a7 s)] [(1,[ar w,ar b,.ro false 3 (.int .i64) c,.ro false 42 (cC) d,.ro false 95 (iT) e,.ro false 91 (dC) f]),(9,[ar x,ar g,ar h,ar j])] [aP 1000000 99 K4 t,aP 1000001 3 (.int .i64) k,aP 1000002 3 (.int .i64) l]
def Je (a:Bool):= bk 91 [(2,vE a)]
def FK (h i j k w a:Int)(b:List Int)(c:List bL)(d:List cI)(e:List b3)(l:List D4)(f g:List Int):= ei 91 [cl 1,(5,.v (.c (.own 1000000 none))),(7,.v (.c (.own 1000001 none))),(16,.v (.c (.own 1000002 none))),(17,a7 h),(18,a7 i),(46,.v (.c (.own 1000000 none))),(47,a7 j),(48,a7 k)] [(1,[ar w,ar a,.ro false 3 (.int .i64) b,.ro false 42 (cC) c,.ro false 95 (iT) d,.ro false 91 (dC) e])] [aP 1000000 99 K4 l,aP 1000001 3 (.int .i64) f,aP 1000002 3 (.int .i64) g]
def eu (a:St):Option U:=eo c0 F c1 [.r,.r,.l,.r,.b,.i,.r,.r,.l,.b,.r,.r,.r,.r,.r,.b,.i,.r,.r,.l,.b,.r,.r,.b,.i] f31 J n a
def iv:Ex->St->Option U:=JG Tryz.prog (look c0) F c1 [.r,.r,.l,.b,.r,.r,.b] (sub [.r,.r,.l,.r,.b,.i,.r,.r,.l,.b,.r,.r,.r,.r,.r,.b,.i] (cr f31)) (itk Tryz.prog (look c0) F c1 (sub [.r,.r,.l,.r,.b,.i,.r,.r,.l,.b,.r,.r,.r,.r,.r,.b,.i] (cr f31)) J n)
def fp (h i j k w a:Int)(b:List Int)(c:List bL)(d:List cI)(e:List b3)(l:List D4)(f g:List Int):= ei 91 [cl 1,(5,.v (.c (.own 1000000 none))),(7,.v (.c (.own 1000001 none))),(16,.v (.c (.own 1000002 none))),(17,a7 h),(18,a7 i),(46,.v (.c (.own 1000000 none))),(47,a7 j),(48,a7 k)] [(1,[ar w,ar a,.ro false 3 (.int .i64) b,.ro false 42 (cC) c,.ro false 95 (iT) d,.ro false 91 (dC) e])] [aP 1000000 99 K4 l,aP 1000001 3 (.int .i64) f,aP 1000002 3 (.int .i64) g]
def uH (a:Bool):= bk 91 [(2,vE a)]
def FL (f g w a:Int)(b:List Int)(c:List bL)(d:List cI)(e:List b3)(h:List Int):= ei 91 [cl 1,(16,.v (.c (.own 1000000 none))),(17,a7 f),(18,a7 g)] [(1,[ar w,ar a,.ro false 3 (.int .i64) b,.ro false 42 (cC) c,.ro false 95 (iT) d,.ro false 91 (dC) e])] [aP 1000000 3 (.int .i64) h]
def hW (a:St):Option U:=eo c0 F c1 [.r,.r,.l,.r,.b,.i,.r,.r,.l,.b,.r,.r,.r,.r,.r,.b,.i] f31 J n a
def iw:Ex->St->Option U:=JG Tryz.prog (look c0) F c1 [.r,.r,.l,.b,.r,.r,.r,.r,.r,.b] (sub [.r,.r,.l,.r,.b,.i] (cr f31)) (itk Tryz.prog (look c0) F c1 (sub [.r,.r,.l,.r,.b,.i] (cr f31)) J n)
def ix (f g w a:Int)(b:List Int)(c:List bL)(d:List cI)(e:List b3)(h:List Int):= ei 91 [cl 1,(16,.v (.c (.own 1000000 none))),(17,a7 f),(18,a7 g)] [(1,[ar w,ar a,.ro false 3 (.int .i64) b,.ro false 42 (cC) c,.ro false 95 (iT) d,.ro false 91 (dC) e])] [aP 1000000 3 (.int .i64) h]
def mB (a:Bool):= bk 91 [(2,vE a)]
def FM   := bk 91 []
def lF (a:St):Option U:=eo c0 F c1 [.r,.r,.l,.r,.b,.i] f31 J n a
def mC:=jx c0 F c1 [.r,.r,.l,.r,.b] f31 aI 1
def Ai (i m o p q d r a w e:Int)(f:List Int)(g:List bL)(h:List cI)(j:List b3)(x s t k:Int)(c:List D4)(b l:List Int):eu F J (n+1) (dw i m o p q d r a w e f g h j x s t k c b l)=br (decide (a<r)) (ck (bh a d) (ck (bh i (b.length:Int)) ((NX F0 (aJ b i 0)).bind fun u=>br u.1 (ck (bh a (b.length:Int)) ((NX F0 (aJ b a 0)).bind fun v=>br v.1 (br (x==(aJ c a K4.aw).1) (br (k==(aJ c a K4.aw).2.2.2) (J .ret (Je false)) (eu F J n (dw i m o p q d r (ak (a+1)) w e f g h j x s t k c b l))) (eu F J n (dw i m o p q d r (ak (a+1)) w e f g h j x s t k c b l))) (eu F J n (dw i m o p q d r (ak (a+1)) w e f g h j x s t k c b l)))) (eu F J n (dw i m o p q d r (ak (a+1)) w e f g h j x s t k c b l))))) (J (.exit 4) (FK m o p q w e f g h j c b l)):=by kernel_rfl
def Aj (i j k a w c:Int)(d:List Int)(e:List bL)(f:List cI)(g:List b3)(b:List D4)(l h:List Int):hW F J (n+1) (fp i j k a w c d e f g b l h)=br (decide (a<k)) (ck (bh a (b.length:Int)) (ck (okT a (b.length:Int)) (eu F (iv F J n) F.n (dw a i j k a a a 0 w c d e f g (aJ b a K4.aw).1 (aJ b a K4.aw).2.1 (aJ b a K4.aw).2.2.1 (aJ b a K4.aw).2.2.2 b l h)))) (J (.exit 2) (FL i j w c d e f g h)):=by kernel_rfl
def Ak (f a w d:Int)(g:List Int)(c:List bL)(h:List cI)(i:List b3)(b:List Int):lF F J (n+1) (ix f a w d g c h i b)=br (decide (a<f)) (ck (bh a (b.length:Int)) (ck (bh (aJ b a 0) (c.length:Int)) ((OP F0 (w,d) (aJ c (aJ b a 0) cC.aw)).bind fun j=>(OQ F0 j.1).bind fun k=>br (k.1 != 400) (J .ret (mB false)) (ck (bh (aJ b a 0) (c.length:Int)) ((Bp F0 (aJ c (aJ b a 0) cC.aw).2.2.2.1.2.2.2).bind fun e=>(py F0).bind fun l=>(DK F0 l.1 e.1).bind fun m=>hW F (iw F J n) F.n (fp f a (e.1.length:Int) 0 w d g c h i e.1 m.2.1 b)))))) (J (.exit 0) (FM)):=by kernel_rfl
def Vm (a:Bool):iv F J n .ret (Je a)=J .ret (uH a):=by kernel_rfl
def Tu (h i j k w a:Int)(b:List Int)(c:List bL)(d:List cI)(e:List b3)(l:List D4)(f g:List Int):iv F J n (.exit 4) (FK h i j k w a b c d e l f g)=hW F J n (fp h i j (ak (k+1)) w a b c d e l f g):=by kernel_rfl
def Vn (a:Bool):iw F J n .ret (uH a)=J .ret (mB a):=by kernel_rfl
def Tv (f g w a:Int)(b:List Int)(c:List bL)(d:List cI)(e:List b3)(h:List Int):iw F J n (.exit 2) (FL f g w a b c d e h)=lF F J n (ix f (ak (g+1)) w a b c d e h):=by kernel_rfl
def Vo (a:Bool):mC F .ret (mB a)=some (a,()):=by kernel_rfl
def Tw: mC F (.exit 0) (FM)=some (true,()):=by kernel_rfl
def pA (w:iU):=bM c0 F c1 f31 eI aI 1 (w,())
def aaz (w:iU):pA F w=(dd F0 w).bind fun b=>br (!b.1) (some (false,())) ((lX F0 w).bind fun a=>lF F (mC F) F.n (ix (a.1.length:Int) 0 w.1.1 w.1.2 w.2.1 w.2.2.1 w.2.2.2.1 w.2.2.2.2 a.1)):=by kernel_rfl
def uI:Any:=.one ⟨eI,aI,1,fun x=>pA F0 x.1⟩
def Ly:a8 31 uI:=aG c0 ⟨gF,yy,alB,alz,WY,Tr,Lr,aoN,trivial⟩ func31 c1 (by kernel_rfl)
def OR: Option (Args Dk):=bM ax F ab f230 [] Dk 2 (())
def af3: OR F= some ((0,0,(0,ai,[]),ai),()):=by kernel_rfl
def NY:Any:=.one ⟨[],Dk,2,fun x=>OR F0⟩
def af4:a8 230 NY:=aG ax trivial func230 ab (by kernel_rfl)
def W0:=[(145,gU),(146,jQ),(147,uF),(160,EK)]
def Lz (c:D1)(b:List Int):=bM W0 F ab f231 PS amB 2 (c,b,())
def ajg (c:D1)(b:List Int):Lz F c b=(bs F0 (b,0,false)).bind fun d=>(bs F0 d.2.1).bind fun e=>(ly F0 e.2.1).bind fun f=>(fm F0 f.2.1).bind fun a=>br a.2.1.2.2 (some ((0,0,(0,ai,[]),ai),false,())) (br (a.2.1.2.1 != (b.length:Int)) (some ((0,0,(0,ai,[]),ai),false,())) ((vf F0 c (d.1.1,e.1.1,f.1.1,a.1.1)).bind fun g=>br (!g.1) (some ((0,0,(0,ai,[]),ai),false,())) (some ((d.1.1,e.1.1,f.1.1,a.1.1),true,())))):=by kernel_rfl
def QL:Any:=.one ⟨PS,amB,2,fun x=>Lz F0 x.1 x.2.1⟩
def ajh:a8 231 QL:=aG W0 ⟨mu,rV,Lm,S7,trivial⟩ func231 ab (by kernel_rfl)
def ud:=[(222,Bm),(230,NY),(231,QL)]
def ue:Nat->Option Hint:=look [(3,{live:=[1,2,4,6,7],F4:=[(4,4,3,.int .i64)],rl:=[4,5]})]
def jY (b:List Int)(i c a j k l:Int)(m o:ByteArray)(s d e:Int)(f g:ByteArray)(p h:List Int):= ei 51 [(1,mU 5 (.int .u8) b),cl 2,cl 4,cl 6,(7,a7 i)] [(2,[ar c,ar a]),(4,[ar j,ar k,ar l,.str m,.own 1000000 none,.str o]),(6,[ar s,ar d,ar e,.str f,.own 1000001 none,.str g])] [aP 1000000 3 (.int .i64) p,aP 1000001 3 (.int .i64) h]
def jZ (a b c d:Int)(e f:ByteArray)(g:List Int):= ei 51 [cl 4,(5,a7 a)] [(4,[ar b,ar c,ar d,.str e,.own 1000000 none,.str f])] [aP 1000000 3 (.int .i64) g]
def nu (a:St):Option U:=eo ud F ue [.r,.r,.r,.b,.i] f152 J n a
def oI:=jx ud F ue [.r,.r,.r,.b] f152 amE 2
def DL (b:List Int)(e c k l m o:Int)(p q:ByteArray)(s f g:Int)(h i:ByteArray)(r j:List Int):nu F J (n+1) (jY b e c k l m o p q s f g h i r j)=(mv F0 b e).bind fun a=>br (!a.2.2.1) (J .ret (jZ e s f g h i j)) (br (decide (a.2.1>=(b.length:Int))) (J .ret (jZ e s f g h i j)) (ck (bh a.2.1 (b.length:Int)) (br ((aJ b a.2.1 0) != 10) (J .ret (jZ e s f g h i j)) (ck (decide ((a.1.size:Int)<=F.mem)) ((Lz F0 (c,k) (bytesOf a.1)).bind fun d=>br (!d.2.1) (J .ret (jZ e s f g h i j)) (nu F J n (jY b (ak (a.2.1+1)) c k l m o p q d.1.1 d.1.2.1 d.1.2.2.1.1 d.1.2.2.1.2.1 d.1.2.2.2 r d.1.2.2.1.2.2))))))):=by kernel_rfl
def Jf (a b c d:Int)(e f:ByteArray)(g:List Int):oI F .ret (jZ a b c d e f g)=some ((b,c,(d,e,g),f),a,()):=by kernel_rfl
def CL (c:D1)(b:List Int):=bM ud F ue f152 PS amE 2 (c,b,())
def acG (c:D1)(b:List Int):CL F c b=(OR F0).bind fun a=>nu F (oI F) F.n (jY b 0 c.1 c.2 0 0 0 ai ai a.1.1 a.1.2.1 a.1.2.2.1.1 a.1.2.2.1.2.1 a.1.2.2.2 [] a.1.2.2.1.2.2):=by kernel_rfl
def LA:Any:=.one ⟨PS,amE,2,fun x=>CL F0 x.1 x.2.1⟩
def acH:a8 152 LA:=aG ud ⟨QH,af4,ajh,trivial⟩ func152 ue (by kernel_rfl)
def QM:=[(232,nk)]
def CM (a b:D13):=bM QM F ab f153 avy aI 1 (a,b,())
def acI (a b:D13):CM F a b=br (a.1==b.1) (br (a.2.1==b.2.1) ((lW F0 a.2.2.1 b.2.2.1).bind fun c=>br c.1 (some (a.2.2.2.toList==b.2.2.2.toList,())) (some (false,()))) (some (false,()))) (some (false,())):=by kernel_rfl
def LB:Any:=.one ⟨avy,aI,1,fun x=>CM F0 x.1 x.2.1⟩
def acJ:a8 153 LB:=aG QM ⟨ym,trivial⟩ func153 ab (by kernel_rfl)
def aee:=[(92,yx),(152,LA),(153,LB)]
def UB (c:D1)(r:bL):=bM aee F ab f81 Gv aI 1 (c,r,())
def aoO (c:D1)(r:bL):UB F c r=(CL F0 c r.2.2.2.2.2.2.1.1).bind fun a=>(Bk F0 c r).bind fun b=>br b.1 ((CM F0 a.1 r.2.2.2.1).bind fun d=>br d.1 (some (a.2.1==(r.2.2.2.2.2.2.1.1.length:Int),())) (some (false,()))) (some (false,())):=by kernel_rfl
def W1:Any:=.one ⟨Gv,aI,1,fun x=>UB F0 x.1 x.2.1⟩
def aoP:a8 81 W1:=aG aee ⟨Mi,acH,acJ,trivial⟩ func81 ab (by kernel_rfl)
def fq:=[(39,et),(54,nn),(81,W1)]
def fs:Nat->Option Hint:=look [(4,{live:=[1,11,12,13],rl:=[2]}),(9,{live:=[1,4,11,12,13,27,28,29],xl:=[1,11,12,13],rl:=[2]})]
def ft (a g h:Int)(i:List b3)(j k w b:Int)(c:List Int)(d:List bL)(e:List cI)(f:List b3)(l:List Int):= ei 51 [cl 1,(4,a7 a),(11,.v (.c (.own 1000000 none))),(12,a7 g),(13,a7 h),(27,mU 91 (dC) i),(28,a7 j),(29,a7 k)] [(1,[ar w,ar b,.ro false 3 (.int .i64) c,.ro false 42 (cC) d,.ro false 95 (iT) e,.ro false 91 (dC) f])] [aP 1000000 3 (.int .i64) l]
def Jg (a:Bool):= bk 51 [(2,vE a)]
def FN (f g w a:Int)(b:List Int)(c:List bL)(d:List cI)(e:List b3)(h:List Int):= ei 51 [cl 1,(11,.v (.c (.own 1000000 none))),(12,a7 f),(13,a7 g)] [(1,[ar w,ar a,.ro false 3 (.int .i64) b,.ro false 42 (cC) c,.ro false 95 (iT) d,.ro false 91 (dC) e])] [aP 1000000 3 (.int .i64) h]
def hX (a:St):Option U:=eo fq F fs [.r,.r,.l,.r,.b,.i,.r,.r,.l,.b,.r,.r,.r,.b,.i] f32 J n a
def iy:Ex->St->Option U:=JG Tryz.prog (look fq) F fs [.r,.r,.l,.b,.r,.r,.r,.b] (sub [.r,.r,.l,.r,.b,.i] (cr f32)) (itk Tryz.prog (look fq) F fs (sub [.r,.r,.l,.r,.b,.i] (cr f32)) J n)
def iz (f g w a:Int)(b:List Int)(c:List bL)(d:List cI)(e:List b3)(h:List Int):= ei 51 [cl 1,(11,.v (.c (.own 1000000 none))),(12,a7 f),(13,a7 g)] [(1,[ar w,ar a,.ro false 3 (.int .i64) b,.ro false 42 (cC) c,.ro false 95 (iT) d,.ro false 91 (dC) e])] [aP 1000000 3 (.int .i64) h]
def mD (a:Bool):= bk 51 [(2,vE a)]
def FO   := bk 51 []
def lG (a:St):Option U:=eo fq F fs [.r,.r,.l,.r,.b,.i] f32 J n a
def mE:=jx fq F fs [.r,.r,.l,.r,.b] f32 aI 1
def Al (a i j:Int)(d:List b3)(k b w e:Int)(f:List Int)(c:List bL)(g:List cI)(h:List b3)(l:List Int):hX F J (n+1) (ft a i j d k b w e f c g h l)=br (decide (b<k)) (ck (bh b (d.length:Int)) (br ((aJ d b dC.aw).2.2==a) (ck (bh a (c.length:Int)) (br (decide ((aJ c a cC.aw).2.2.2.1.1<(aJ d b dC.aw).1)) (J .ret (Jg false)) (hX F J n (ft a i j d k (ak (b+1)) w e f c g h l)))) (hX F J n (ft a i j d k (ak (b+1)) w e f c g h l)))) (J (.exit 2) (FN i j w e f c g h l)):=by kernel_rfl
def An (f a w e:Int)(g:List Int)(c:List bL)(h:List cI)(d:List b3)(b:List Int):lG F J (n+1) (iz f a w e g c h d b)=br (decide (a<f)) (ck (bh a (b.length:Int)) (ck (bh (aJ b a 0) (c.length:Int)) ((UB F0 (w,e) (aJ c (aJ b a 0) cC.aw)).bind fun i=>br (!i.1) (J .ret (mD false)) (hX F (iy F J n) F.n (ft (aJ b a 0) f a d (d.length:Int) 0 w e g c h d b))))) (J (.exit 0) (FO)):=by kernel_rfl
def Vp (a:Bool):iy F J n .ret (Jg a)=J .ret (mD a):=by kernel_rfl
def Tx (f g w a:Int)(b:List Int)(c:List bL)(d:List cI)(e:List b3)(h:List Int):iy F J n (.exit 2) (FN f g w a b c d e h)=lG F J n (iz f (ak (g+1)) w a b c d e h):=by kernel_rfl
def Vq (a:Bool):mE F .ret (mD a)=some (a,()):=by kernel_rfl
def Tz: mE F (.exit 0) (FO)=some (true,()):=by kernel_rfl
def pB (w:iU):=bM fq F fs f32 eI aI 1 (w,())
def aaA (w:iU):pB F w=(dd F0 w).bind fun b=>br (!b.1) (some (false,())) ((lX F0 w).bind fun a=>lG F (mE F) F.n (iz (a.1.length:Int) 0 w.1.1 w.1.2 w.2.1 w.2.2.1 w.2.2.2.1 w.2.2.2.2 a.1)):=by kernel_rfl
def uJ:Any:=.one ⟨eI,aI,1,fun x=>pB F0 x.1⟩
def LC:a8 32 uJ:=aG fq ⟨gF,yy,aoP,trivial⟩ func32 fs (by kernel_rfl)
def aaB:=[(154,AY)]
def OS (s t:ByteArray):=bM aaB F ab f82 Km aI 1 (s,t,())
def alC (s t:ByteArray):OS F s t=(p3 F0 s t).bind fun a=>br a.1 (some (true,())) ((p3 F0 t s).bind fun b=>some (b.1,())):=by kernel_rfl
def TA:Any:=.one ⟨Km,aI,1,fun x=>OS F0 x.1 x.2.1⟩
def alD:a8 82 TA:=aG aaB ⟨PX,trivial⟩ func82 ab (by kernel_rfl)
def gI:=[(55,gE),(56,er),(82,TA)]
def gJ:Nat->Option Hint:=look [(5,{live:=[1,3,4],rl:=[2]}),(8,{live:=[1,3,4,5],xl:=[1,3,4],rl:=[2]})]
def j0 (i k w a:Int)(b:List Int)(c:List bL)(d:List cI)(e:List b3)(f:List Int):= ei 44 [cl 1,(3,.v (.c (.own 1000000 none))),(4,a7 i),(5,a7 k)] [(1,[ar w,ar a,.ro false 3 (.int .i64) b,.ro false 42 (cC) c,.ro false 95 (iT) d,.ro false 91 (dC) e])] [aP 1000000 3 (.int .i64) f]
def LD (a:Bool):= bk 44 [(2,vE a)]
def Jh (i w a:Int)(b:List Int)(c:List bL)(d:List cI)(e:List b3)(f:List Int):= ei 44 [cl 1,(3,.v (.c (.own 1000000 none))),(4,a7 i)] [(1,[ar w,ar a,.ro false 3 (.int .i64) b,.ro false 42 (cC) c,.ro false 95 (iT) d,.ro false 91 (dC) e])] [aP 1000000 3 (.int .i64) f]
def nv (a:St):Option U:=eo gI F gJ [.r,.r,.r,.l,.r,.b,.i,.r,.l,.b,.r,.b,.i] f33 J n a
def j1:Ex->St->Option U:=JG Tryz.prog (look gI) F gJ [.r,.l,.b,.r,.b] (sub [.r,.r,.r,.l,.r,.b,.i] (cr f33)) (itk Tryz.prog (look gI) F gJ (sub [.r,.r,.r,.l,.r,.b,.i] (cr f33)) J n)
def j2 (i w a:Int)(b:List Int)(c:List bL)(d:List cI)(e:List b3)(f:List Int):= ei 44 [cl 1,(3,.v (.c (.own 1000000 none))),(4,a7 i)] [(1,[ar w,ar a,.ro false 3 (.int .i64) b,.ro false 42 (cC) c,.ro false 95 (iT) d,.ro false 91 (dC) e])] [aP 1000000 3 (.int .i64) f]
def yL (a:Bool):= bk 44 [(2,vE a)]
def Ji   := bk 44 []
def nx (a:St):Option U:=eo gI F gJ [.r,.r,.r,.l,.r,.b,.i] f33 J n a
def oJ:=jx gI F gJ [.r,.r,.r,.l,.r,.b] f33 aI 1
def DM (i k w c:Int)(d:List Int)(b:List bL)(e:List cI)(f:List b3)(a:List Int):nv F J (n+1) (j0 i k w c d b e f a)=br (decide (k<i)) (ck (bh i (a.length:Int)) (ck (bh (aJ a i 0) (b.length:Int)) (ck (bh k (a.length:Int)) (ck (bh (aJ a k 0) (b.length:Int)) ((OS F0 (aJ b (aJ a i 0) cC.aw).2.2.2.1.2.2.2 (aJ b (aJ a k 0) cC.aw).2.2.2.1.2.2.2).bind fun g=>br (!g.1) (J .ret (LD false)) (nv F J n (j0 i (ak (k+1)) w c d b e f a))))))) (J (.exit 2) (Jh i w c d b e f a)):=by kernel_rfl
def DN (i w b:Int)(c:List Int)(d:List bL)(e:List cI)(f:List b3)(a:List Int):nx F J (n+1) (j2 i w b c d e f a)=br (decide (i<(a.length:Int))) (nv F (j1 F J n) F.n (j0 i 0 w b c d e f a)) (J (.exit 0) (Ji)):=by kernel_rfl
def Yf (a:Bool):j1 F J n .ret (LD a)=J .ret (yL a):=by kernel_rfl
def Vr (i w a:Int)(b:List Int)(c:List bL)(d:List cI)(e:List b3)(f:List Int):j1 F J n (.exit 2) (Jh i w a b c d e f)=nx F J n (j2 (ak (i+1)) w a b c d e f):=by kernel_rfl
def Yg (a:Bool):oJ F .ret (yL a)=some (a,()):=by kernel_rfl
def Vs: oJ F (.exit 0) (Ji)=some (true,()):=by kernel_rfl
def CN (w:iU):=bM gI F gJ f33 eI aI 1 (w,())
def acK (w:iU):CN F w=(eJ F0 w).bind fun a=>br (!a.1) (some (false,())) ((jI F0 w).bind fun b=>nx F (oJ F) F.n (j2 0 w.1.1 w.1.2 w.2.1 w.2.2.1 w.2.2.2.1 w.2.2.2.2 b.1)):=by kernel_rfl
def LF:Any:=.one ⟨eI,aI,1,fun x=>CN F0 x.1⟩
def acL:a8 33 LF:=aG gI ⟨lj,gA,alD,trivial⟩ func33 gJ (by kernel_rfl)
def eO:=[(56,er),(83,b4)]
def eP:Nat->Option Hint:=look [(4,{live:=[1,3],rl:=[2]}),(7,{live:=[1,3,4],xl:=[1,3],rl:=[2]})]
def c6 (i k w a:Int)(b:List Int)(c:List bL)(d:List cI)(e:List b3):= ei 59 [cl 1,(3,a7 i),(4,a7 k)] [(1,[ar w,ar a,.ro false 3 (.int .i64) b,.ro false 42 (cC) c,.ro false 95 (iT) d,.ro false 91 (dC) e])] []
def FP (a:Bool):= bk 59 [(2,vE a)]
def DO (i w a:Int)(b:List Int)(c:List bL)(d:List cI)(e:List b3):= ei 59 [cl 1,(3,a7 i)] [(1,[ar w,ar a,.ro false 3 (.int .i64) b,.ro false 42 (cC) c,.ro false 95 (iT) d,.ro false 91 (dC) e])] []
def dP (a:St):Option U:=eo eO F eP [.r,.r,.l,.r,.b,.i,.r,.l,.b,.r,.b,.i] f34 J n a
def ha:Ex->St->Option U:=JG Tryz.prog (look eO) F eP [.r,.l,.b,.r,.b] (sub [.r,.r,.l,.r,.b,.i] (cr f34)) (itk Tryz.prog (look eO) F eP (sub [.r,.r,.l,.r,.b,.i] (cr f34)) J n)
def hh (i w a:Int)(b:List Int)(c:List bL)(d:List cI)(e:List b3):= ei 59 [cl 1,(3,a7 i)] [(1,[ar w,ar a,.ro false 3 (.int .i64) b,.ro false 42 (cC) c,.ro false 95 (iT) d,.ro false 91 (dC) e])] []
def r1 (a:Bool):= bk 59 [(2,vE a)]
def DP   := bk 59 []
def j3 (a:St):Option U:=eo eO F eP [.r,.r,.l,.r,.b,.i] f34 J n a
def kM:=jx eO F eP [.r,.r,.l,.r,.b] f34 aI 1
def yM (i k w c:Int)(b:List Int)(d:List bL)(e:List cI)(a:List b3):dP F J (n+1) (c6 i k w c b d e a)=br (decide (k<i)) (ck (bh i (a.length:Int)) (ck (bh k (a.length:Int)) ((cv F0 b (aJ a i dC.aw).2.2).bind fun f=>br (!f.1) (br ((aJ a i dC.aw).2.2==(aJ a k dC.aw).2.2) (br ((aJ a i dC.aw).1==(aJ a k dC.aw).1) (br (!((aJ a i dC.aw).2.1.toList==(aJ a k dC.aw).2.1.toList)) (J .ret (FP false)) (dP F J n (c6 i (ak (k+1)) w c b d e a))) (dP F J n (c6 i (ak (k+1)) w c b d e a))) (dP F J n (c6 i (ak (k+1)) w c b d e a))) (dP F J n (c6 i (ak (k+1)) w c b d e a))))) (J (.exit 2) (DO i w c b d e a)):=by kernel_rfl
def yN (i w b:Int)(c:List Int)(d:List bL)(e:List cI)(a:List b3):j3 F J (n+1) (hh i w b c d e a)=br (decide (i<(a.length:Int))) (dP F (ha F J n) F.n (c6 i 0 w b c d e a)) (J (.exit 0) (DP)):=by kernel_rfl
def TC (a:Bool):ha F J n .ret (FP a)=J .ret (r1 a):=by kernel_rfl
def Ra (i w a:Int)(b:List Int)(c:List bL)(d:List cI)(e:List b3):ha F J n (.exit 2) (DO i w a b c d e)=j3 F J n (hh (ak (i+1)) w a b c d e):=by kernel_rfl
def TD (a:Bool):kM F .ret (r1 a)=some (a,()):=by kernel_rfl
def Rb: kM F (.exit 0) (DP)=some (true,()):=by kernel_rfl
def uf (w:iU):=bM eO F eP f34 eI aI 1 (w,())
def Yh (w:iU):uf F w=(eJ F0 w).bind fun a=>br (!a.1) (some (false,())) (j3 F (kM F) F.n (hh 0 w.1.1 w.1.2 w.2.1 w.2.2.1 w.2.2.2.1 w.2.2.2.2)):=by kernel_rfl
def FQ:Any:=.one ⟨eI,aI,1,fun x=>uf F0 x.1⟩
def Yi:a8 34 FQ:=aG eO ⟨gA,cT,trivial⟩ func34 eP (by kernel_rfl)
def jj:=[(55,gE),(116,wv)]
def jo:Nat->Option Hint:=look [(4,{live:=[1,3,4,5],wk:=[3],xl:=[1,3],rl:=[2]}),(8,{live:=[1,3,6],xl:=[3],rl:=[2]}),(999999,{live:=[1]})]
def dQ (w:iU)(i:Int)(a:List D9):St:={nt:=68,tm:=[(1,.v (.c (.Oc false (gN) w 0))),(3,.v (.c (.own 1000000 none))),(6,a7 i)],bx:=[],bl:=[(1000000,some ⟨27,K9,a,false,true⟩)],rob:=[1]}
def Jj (a:List D9):St:={nt:=68,tm:=[(3,.v (.c (.own 1000000 none)))],bx:=[],bl:=[(1000000,some ⟨27,K9,a,false,true⟩)],rob:=[1]}
def e7 (a:St):Option U:=eo jj F jo [.r,.r,.r,.r,.l,.r,.b,.i] f84 J n a
def j4:=jx jj F jo [.r,.r,.r,.r,.l,.r,.b] f84 [(K46,false)] 0
def oK (w:iU)(i:Int)(b:List D9)(a:List Int):St:={nt:=68,tm:=[(1,.v (.c (.Oc false (gN) w 0))),(3,.v (.c (.own 1000000 none))),(4,.v (.c (.own 1000001 none))),(5,a7 i)],bx:=[],bl:=[(1000000,some ⟨27,K9,b,false,true⟩),aP 1000001 3 (.int .i64) a],rob:=[1]}
def Jk (w:iU)(a:List D9):St:={nt:=68,tm:=[(1,.v (.c (.Oc false (gN) w 0))),(3,.v (.c (.own 1000000 none)))],bx:=[],bl:=[(1000000,some ⟨27,K9,a,false,true⟩)],rob:=[1]}
def ug (a:St):Option U:=eo jj F jo [.r,.r,.r,.l,.r,.b,.i] f84 J n a
def yO:=jx jj F jo [.r,.r,.r,.l,.r,.b] f84 [(K46,false)] 0
def DQ (w:iU)(i:Int)(a:List D9):e7 F J (n+1) (dQ w i a)=br (decide (i<(w.2.2.2.1.length:Int))) (ck (bh i (w.2.2.2.1.length:Int)) ((AR F0 w.1 (aJ w.2.2.2.1 i (0,[])).2).bind fun b=>br (b.1.1==1) (ck (fA F a.length [b.1.2.2.1.2].length 48) (e7 F J n (dQ w (ak (i+1)) (a++[b.1.2.2.1.2])))) (br (b.1.1==3) (ck (fA F a.length [b.1.2.2.2.2.1].length 48) (e7 F J n (dQ w (ak (i+1)) (a++[b.1.2.2.2.2.1])))) (e7 F J n (dQ w (ak (i+1)) a))))) (J (.exit 2) (Jj a)):=by kernel_rfl
def DR (w:iU)(i:Int)(b:List D9)(a:List Int):ug F J (n+1) (oK w i b a)=br (decide (i<(a.length:Int))) (ck (bh i (a.length:Int)) (ck (bh (aJ a i 0) (w.2.2.1.length:Int)) (ck (fA F b.length [(aJ w.2.2.1 (aJ a i 0) cC.aw).2.2.2.1.2.2.1].length 48) (ug F J n (oK w (ak (i+1)) (b++[(aJ w.2.2.1 (aJ a i 0) cC.aw).2.2.2.1.2.2.1]) a))))) (J (.exit 0) (Jk w b)):=by kernel_rfl
def Vt (a:List D9):j4 F (.exit 2) (Jj a)=some (a,()):=by kernel_rfl
def Vu (w:iU)(a:List D9):yO F (.exit 0) (Jk w a)=e7 F (j4 F) F.n (dQ w 0 a):=by kernel_rfl
def CO (w:iU):=bM jj F jo f84 eI [(K46,false)] 0 (w,())
def acM (w:iU):CO F w=(jI F0 w).bind fun a=>ug F (yO F) F.n (oK w 0 [] a.1):=by kernel_rfl
def LG:Any:=.one ⟨eI,[(K46,false)],0,fun x=>CO F0 x.1⟩
def acN:a8 84 LG:=aG jj ⟨lj,L9,trivial⟩ func84 jo (by kernel_rfl)
end
end Go.Am.Tryz
namespace Go.Am.Tryz
open Go.Am Go.Proofs Go.Proofs.Tryz
noncomputable section
variable {U:Type} (F:nP) (J:Ex->St->Option U) (n:Nat)
def eQ:=[(56,er),(84,LG)]
def eR:Nat->Option Hint:=look [(5,{live:=[3,4],rl:=[2]}),(8,{live:=[3,4,5],xl:=[3,4],rl:=[2]})]
def eX (a:List D9)(i k:Int):= bk 46 [(3,mU 27 (K9) a),(4,a7 i),(5,a7 k)]
def FR (a:Bool):= bk 46 [(2,vE a)]
def DS (a:List D9)(i:Int):= bk 46 [(3,mU 27 (K9) a),(4,a7 i)]
def gu (a:St):Option U:=eo eQ F eR [.r,.r,.r,.l,.r,.b,.i,.r,.l,.b,.r,.b,.i] f35 J n a
def hl:Ex->St->Option U:=JG Tryz.prog (look eQ) F eR [.r,.l,.b,.r,.b] (sub [.r,.r,.r,.l,.r,.b,.i] (cr f35)) (itk Tryz.prog (look eQ) F eR (sub [.r,.r,.r,.l,.r,.b,.i] (cr f35)) J n)
def hn (a:List D9)(i:Int):= bk 46 [(3,mU 27 (K9) a),(4,a7 i)]
def r2 (a:Bool):= bk 46 [(2,vE a)]
def DT   := bk 46 []
def j5 (a:St):Option U:=eo eQ F eR [.r,.r,.r,.l,.r,.b,.i] f35 J n a
def kN:=jx eQ F eR [.r,.r,.r,.l,.r,.b] f35 aI 1
def yP (a:List D9)(i k:Int):gu F J (n+1) (eX a i k)=br (decide (k<i)) (ck (bh i (a.length:Int)) (ck (bh k (a.length:Int)) (br ((aJ a i K9.aw).1==(aJ a k K9.aw).1) (ck (bh i (a.length:Int)) (ck (bh k (a.length:Int)) (br (!((aJ a i K9.aw).2.1.toList==(aJ a k K9.aw).2.1.toList)) (J .ret (FR false)) (gu F J n (eX a i (ak (k+1))))))) (gu F J n (eX a i (ak (k+1))))))) (J (.exit 2) (DS a i)):=by kernel_rfl
def yQ (a:List D9)(i:Int):j5 F J (n+1) (hn a i)=br (decide (i<(a.length:Int))) (gu F (hl F J n) F.n (eX a i 0)) (J (.exit 0) (DT)):=by kernel_rfl
def TE (a:Bool):hl F J n .ret (FR a)=J .ret (r2 a):=by kernel_rfl
def Rc (a:List D9)(i:Int):hl F J n (.exit 2) (DS a i)=j5 F J n (hn a (ak (i+1))):=by kernel_rfl
def TF (a:Bool):kN F .ret (r2 a)=some (a,()):=by kernel_rfl
def Re: kN F (.exit 0) (DT)=some (true,()):=by kernel_rfl
def uh (w:iU):=bM eQ F eR f35 eI aI 1 (w,())
def Yj (w:iU):uh F w=(eJ F0 w).bind fun a=>br (!a.1) (some (false,())) ((CO F0 w).bind fun b=>j5 F (kN F) F.n (hn b.1 0)):=by kernel_rfl
def FT:Any:=.one ⟨eI,aI,1,fun x=>uh F0 x.1⟩
def Yk:a8 35 FT:=aG eQ ⟨gA,acN,trivial⟩ func35 eR (by kernel_rfl)
def He:Nat->Option Hint:=look [(3,{live:=[1,3,4],xl:=[3],rl:=[2]})]
def yR (a i:Int)(l b:List Int):= ei 20 [cl 1,(3,a7 a),(4,a7 i)] [(1,[.ro false 3 (.int .i64) l,.ro false 3 (.int .i64) b])] []
def QN (a:Int):= bk 20 [(3,a7 a)]
def Hf (a:St):Option U:=eo ax F He [.r,.r,.l,.r,.b,.i] f85 J n a
def Jl:=jx ax F He [.r,.r,.l,.r,.b] f85 c8 1
def LH (a i:Int)(l b:List Int):Hf F J (n+1) (yR a i l b)=br (decide (i<(l.length:Int))) (ck (bh i (l.length:Int)) (Hf F J n (yR (ak (a+(aJ l i 0))) (ak (i+1)) l b))) (J (.exit 0) (QN a)):=by kernel_rfl
def acO (a:Int):Jl F (.exit 0) (QN a)=some (a,()):=by kernel_rfl
def OT (l:D10):=bM ax F He f85 km c8 1 (l,())
def alE (l:D10):OT F l=Hf F (Jl F) F.n (yR 0 0 l.1 l.2):=by kernel_rfl
def TG:Any:=.one ⟨km,c8,1,fun x=>OT F0 x.1⟩
def alF:a8 85 TG:=aG ax trivial func85 He (by kernel_rfl)
def iA:=[(155,tk),(156,l5),(157,wz)]
def iB:Nat->Option Hint:=look [(4,{live:=[3,5,6],rl:=[2]}),(7,{live:=[3,5,6,7],xl:=[3,5,6],rl:=[2]})]
def bE (i k:Int)(b:List D4)(a:List Int):= ei 83 [(3,.v (.c (.own 1000000 none))),(5,.v (.c (.own 1000001 none))),(6,a7 i),(7,a7 k)] [] [aP 1000000 99 K4 b,aP 1000001 3 (.int .i64) a]
def lH (a:Bool):= bk 83 [(2,vE a)]
def LI (i:Int)(b:List D4)(a:List Int):= ei 83 [(3,.v (.c (.own 1000000 none))),(5,.v (.c (.own 1000001 none))),(6,a7 i)] [] [aP 1000000 99 K4 b,aP 1000001 3 (.int .i64) a]
def bQ (a:St):Option U:=eo iA F iB [.r,.r,.r,.l,.r,.b,.i,.r,.l,.b,.r,.b,.i] f87 J n a
def lI:Ex->St->Option U:=JG Tryz.prog (look iA) F iB [.r,.l,.b,.r,.b] (sub [.r,.r,.r,.l,.r,.b,.i] (cr f87)) (itk Tryz.prog (look iA) F iB (sub [.r,.r,.r,.l,.r,.b,.i] (cr f87)) J n)
def lJ (i:Int)(b:List D4)(a:List Int):= ei 83 [(3,.v (.c (.own 1000000 none))),(5,.v (.c (.own 1000001 none))),(6,a7 i)] [] [aP 1000000 99 K4 b,aP 1000001 3 (.int .i64) a]
def Bq (a:Bool):= bk 83 [(2,vE a)]
def LJ   := bk 83 []
def pC (a:St):Option U:=eo iA F iB [.r,.r,.r,.l,.r,.b,.i] f87 J n a
def rr:=jx iA F iB [.r,.r,.r,.l,.r,.b] f87 aI 1
def FU (i k:Int)(a:List D4)(b:List Int):bQ F J (n+1) (bE i k a b)=br (decide (k<i)) (ck (bh i (b.length:Int)) (br ((aJ b i 0)==0) (ck (bh k (b.length:Int)) (br ((aJ b k 0)==0) (ck (bh i (a.length:Int)) (ck (bh k (a.length:Int)) (br ((aJ a i K4.aw).1==(aJ a k K4.aw).1) (ck (bh i (a.length:Int)) (ck (bh k (a.length:Int)) (br ((aJ a i K4.aw).2.2.2==(aJ a k K4.aw).2.2.2) (J .ret (lH false)) (bQ F J n (bE i (ak (k+1)) a b))))) (bQ F J n (bE i (ak (k+1)) a b))))) (ck (bh k (b.length:Int)) (br ((aJ b k 0)==4) (ck (bh i (a.length:Int)) (ck (bh k (a.length:Int)) (br ((aJ a i K4.aw).1==(aJ a k K4.aw).1) (ck (bh i (a.length:Int)) (ck (bh k (a.length:Int)) (br ((aJ a i K4.aw).2.2.2==(aJ a k K4.aw).2.2.2) (J .ret (lH false)) (bQ F J n (bE i (ak (k+1)) a b))))) (bQ F J n (bE i (ak (k+1)) a b))))) (bQ F J n (bE i (ak (k+1)) a b)))))) (ck (bh i (b.length:Int)) (ck (bh k (b.length:Int)) (br ((aJ b k 0)==0) (br ((aJ b i 0)==4) (ck (bh i (a.length:Int)) (ck (bh k (a.length:Int)) (br ((aJ a i K4.aw).1==(aJ a k K4.aw).1) (ck (bh i (a.length:Int)) (ck (bh k (a.length:Int)) (br ((aJ a i K4.aw).2.2.2==(aJ a k K4.aw).2.2.2) (J .ret (lH false)) (bQ F J n (bE i (ak (k+1)) a b))))) (bQ F J n (bE i (ak (k+1)) a b))))) (bQ F J n (bE i (ak (k+1)) a b))) (ck (bh k (b.length:Int)) (br ((aJ b i 0)==4) (br ((aJ b k 0)==4) (ck (bh i (a.length:Int)) (ck (bh k (a.length:Int)) (br ((aJ a i K4.aw).1==(aJ a k K4.aw).1) (ck (bh i (a.length:Int)) (ck (bh k (a.length:Int)) (br ((aJ a i K4.aw).2.2.2==(aJ a k K4.aw).2.2.2) (J .ret (lH false)) (bQ F J n (bE i (ak (k+1)) a b))))) (bQ F J n (bE i (ak (k+1)) a b))))) (bQ F J n (bE i (ak (k+1)) a b))) (bQ F J n (bE i (ak (k+1)) a b))))))))) (J (.exit 2) (LI i a b)):=by kernel_rfl
def FV (i:Int)(a:List D4)(b:List Int):pC F J (n+1) (lJ i a b)=br (decide (i<(a.length:Int))) (bQ F (lI F J n) F.n (bE i 0 a b)) (J (.exit 0) (LJ)):=by kernel_rfl
def aaC (a:Bool):lI F J n .ret (lH a)=J .ret (Bq a):=by kernel_rfl
def Yl (i:Int)(b:List D4)(a:List Int):lI F J n (.exit 2) (LI i b a)=pC F J n (lJ (ak (i+1)) b a):=by kernel_rfl
def aaD (a:Bool):rr F .ret (Bq a)=some (a,()):=by kernel_rfl
def Ym: rr F (.exit 0) (LJ)=some (true,()):=by kernel_rfl
def Hg (name:ByteArray):=bM iA F iB f87 dc aI 1 (name,())
def af5 (name:ByteArray):Hg F name=(o8 F0 name).bind fun a=>(ic F0).bind fun b=>(o9 F0 b.1 a.1).bind fun c=>pC F (rr F) F.n (lJ 0 a.1 c.2.1):=by kernel_rfl
def NZ:Any:=.one ⟨dc,aI,1,fun x=>Hg F0 x.1⟩
def af6:a8 87 NZ:=aG iA ⟨Ip,vV,Ma,trivial⟩ func87 iB (by kernel_rfl)
def ru:=[(55,gE),(56,er),(85,TG),(86,IA),(87,NZ)]
def rv:Nat->Option Hint:=look [(5,{live:=[1,3,4],rl:=[2]})]
def mF (i w a:Int)(b:List Int)(c:List bL)(d:List cI)(e:List b3)(f:List Int):= ei 38 [cl 1,(3,.v (.c (.own 1000000 none))),(4,a7 i)] [(1,[ar w,ar a,.ro false 3 (.int .i64) b,.ro false 42 (cC) c,.ro false 95 (iT) d,.ro false 91 (dC) e])] [aP 1000000 3 (.int .i64) f]
def uK (a:Bool):= bk 38 [(2,vE a)]
def FW   := bk 38 []
def ry (a:St):Option U:=eo ru F rv [.r,.r,.r,.l,.r,.b,.i] f36 J n a
def mG:=jx ru F rv [.r,.r,.r,.l,.r,.b] f36 aI 1
def Ao (i w c:Int)(d:List Int)(b:List bL)(e:List cI)(f:List b3)(a:List Int):ry F J (n+1) (mF i w c d b e f a)=br (decide (i<(a.length:Int))) (ck (bh i (a.length:Int)) (ck (bh (aJ a i 0) (b.length:Int)) ((A6 F0 (w,c) (aJ b (aJ a i 0) cC.aw)).bind fun g=>(OT F0 g.1).bind fun h=>br (h.1 != 400) (J .ret (uK false)) ((Hg F0 (aJ b (aJ a i 0) cC.aw).2.2.2.1.2.2.2).bind fun j=>br (!j.1) (J .ret (uK false)) (ry F J n (mF (ak (i+1)) w c d b e f a)))))) (J (.exit 0) (FW)):=by kernel_rfl
def Vv (a:Bool):mG F .ret (uK a)=some (a,()):=by kernel_rfl
def TH: mG F (.exit 0) (FW)=some (true,()):=by kernel_rfl
def yS (w:iU):=bM ru F rv f36 eI aI 1 (w,())
def aaE (w:iU):yS F w=(eJ F0 w).bind fun a=>br (!a.1) (some (false,())) ((jI F0 w).bind fun b=>ry F (mG F) F.n (mF 0 w.1.1 w.1.2 w.2.1 w.2.2.1 w.2.2.2.1 w.2.2.2.2 b.1)):=by kernel_rfl
def Jm:Any:=.one ⟨eI,aI,1,fun x=>yS F0 x.1⟩
def aaF:a8 36 Jm:=aG ru ⟨lj,gA,alF,Wp,af6,trivial⟩ func36 rv (by kernel_rfl)
def aef:=[(115,bP),(158,x5),(159,wK)]
def UC (c:D1)(r:bL):=bM aef F ab f88 Gv aI 1 (c,r,())
def aoQ (c:D1)(r:bL):UC F c r=(cR F0 c r).bind fun b=>br (!b.1) (some (false,())) ((so F0 c r.2.2.2.2.2.2.1.1).bind fun a=>(sj F0 a.1 r.2.2.2.1).bind fun d=>br d.1 (some (a.2.1==(r.2.2.2.2.2.2.1.1.length:Int),())) (some (false,()))):=by kernel_rfl
def W2:Any:=.one ⟨Gv,aI,1,fun x=>UC F0 x.1 x.2.1⟩
def aoR:a8 88 W2:=aG aef ⟨cm,Nr,M4,trivial⟩ func88 ab (by kernel_rfl)
def fu:=[(55,gE),(56,er),(88,W2)]
def fv:Nat->Option Hint:=look [(5,{live:=[1,3,4],rl:=[2]}),(10,{live:=[1,3,4,5],xl:=[1,3,4],rl:=[2]})]
def fw (i k w a:Int)(b:List Int)(c:List bL)(d:List cI)(e:List b3)(f:List Int):= ei 66 [cl 1,(3,.v (.c (.own 1000000 none))),(4,a7 i),(5,a7 k)] [(1,[ar w,ar a,.ro false 3 (.int .i64) b,.ro false 42 (cC) c,.ro false 95 (iT) d,.ro false 91 (dC) e])] [aP 1000000 3 (.int .i64) f]
def Jn (a:Bool):= bk 66 [(2,vE a)]
def FX (i w a:Int)(b:List Int)(c:List bL)(d:List cI)(e:List b3)(f:List Int):= ei 66 [cl 1,(3,.v (.c (.own 1000000 none))),(4,a7 i)] [(1,[ar w,ar a,.ro false 3 (.int .i64) b,.ro false 42 (cC) c,.ro false 95 (iT) d,.ro false 91 (dC) e])] [aP 1000000 3 (.int .i64) f]
def hY (a:St):Option U:=eo fu F fv [.r,.r,.r,.l,.r,.b,.i,.r,.l,.b,.r,.r,.b,.i] f37 J n a
def iC:Ex->St->Option U:=JG Tryz.prog (look fu) F fv [.r,.l,.b,.r,.r,.b] (sub [.r,.r,.r,.l,.r,.b,.i] (cr f37)) (itk Tryz.prog (look fu) F fv (sub [.r,.r,.r,.l,.r,.b,.i] (cr f37)) J n)
def iD (i w a:Int)(b:List Int)(c:List bL)(d:List cI)(e:List b3)(f:List Int):= ei 66 [cl 1,(3,.v (.c (.own 1000000 none))),(4,a7 i)] [(1,[ar w,ar a,.ro false 3 (.int .i64) b,.ro false 42 (cC) c,.ro false 95 (iT) d,.ro false 91 (dC) e])] [aP 1000000 3 (.int .i64) f]
def mH (a:Bool):= bk 66 [(2,vE a)]
def FY   := bk 66 []
def lK (a:St):Option U:=eo fu F fv [.r,.r,.r,.l,.r,.b,.i] f37 J n a
def mI:=jx fu F fv [.r,.r,.r,.l,.r,.b] f37 aI 1
def Ap (i k w d:Int)(e:List Int)(c:List bL)(f:List cI)(a:List b3)(b:List Int):hY F J (n+1) (fw i k w d e c f a b)=br (decide (k<(a.length:Int))) (ck (bh k (a.length:Int)) (ck (bh i (b.length:Int)) (br ((aJ a k dC.aw).2.2==(aJ b i 0)) (ck (bh k (a.length:Int)) (ck (bh i (b.length:Int)) (ck (bh (aJ b i 0) (c.length:Int)) (br (decide ((aJ a k dC.aw).1>(aJ c (aJ b i 0) cC.aw).2.2.2.1.1)) (J .ret (Jn false)) (hY F J n (fw i (ak (k+1)) w d e c f a b)))))) (hY F J n (fw i (ak (k+1)) w d e c f a b))))) (J (.exit 2) (FX i w d e c f a b)):=by kernel_rfl
def Aq (i w c:Int)(d:List Int)(b:List bL)(e:List cI)(f:List b3)(a:List Int):lK F J (n+1) (iD i w c d b e f a)=br (decide (i<(a.length:Int))) (ck (bh i (a.length:Int)) (ck (bh (aJ a i 0) (b.length:Int)) ((UC F0 (w,c) (aJ b (aJ a i 0) cC.aw)).bind fun g=>br (!g.1) (J .ret (mH false)) (hY F (iC F J n) F.n (fw i 0 w c d b e f a))))) (J (.exit 0) (FY)):=by kernel_rfl
def Vw (a:Bool):iC F J n .ret (Jn a)=J .ret (mH a):=by kernel_rfl
def TI (i w a:Int)(b:List Int)(c:List bL)(d:List cI)(e:List b3)(f:List Int):iC F J n (.exit 2) (FX i w a b c d e f)=lK F J n (iD (ak (i+1)) w a b c d e f):=by kernel_rfl
def Vx (a:Bool):mI F .ret (mH a)=some (a,()):=by kernel_rfl
def TJ: mI F (.exit 0) (FY)=some (true,()):=by kernel_rfl
def yT (w:iU):=bM fu F fv f37 eI aI 1 (w,())
def aaG (w:iU):yT F w=(eJ F0 w).bind fun a=>br (!a.1) (some (false,())) ((jI F0 w).bind fun b=>lK F (mI F) F.n (iD 0 w.1.1 w.1.2 w.2.1 w.2.2.1 w.2.2.2.1 w.2.2.2.2 b.1)):=by kernel_rfl
def Jo:Any:=.one ⟨eI,aI,1,fun x=>yT F0 x.1⟩
def aaH:a8 37 Jo:=aG fu ⟨lj,gA,aoR,trivial⟩ func37 fv (by kernel_rfl)
def QO:=[(28,yC),(29,rX),(30,rZ),(31,uI),(32,uJ)]
def CP (w:iU):=bM QO F ab f38 eI aI 1 (w,())
def acP (w:iU):CP F w=(sz F0 w).bind fun a=>br a.1 ((nr F0 w).bind fun b=>br b.1 ((ns F0 w).bind fun c=>br c.1 ((pA F0 w).bind fun d=>br d.1 ((pB F0 w).bind fun e=>some (e.1,())) (some (false,()))) (some (false,()))) (some (false,()))) (some (false,())):=by kernel_rfl
def LK:Any:=.one ⟨eI,aI,1,fun x=>CP F0 x.1⟩
def acQ:a8 38 LK:=aG QO ⟨NU,I5,I6,Ly,LC,trivial⟩ func38 ab (by kernel_rfl)
def CQ:=[(25,WI),(39,et)]
def CR:Nat->Option Hint:=look [(4,{live:=[21,22,23],rl:=[2]})]
def ui (a:List bL)(b c:Int):= bk 31 [(21,mU 42 (cC) a),(22,a7 b),(23,a7 c)]
def QP (a:Bool):= bk 31 [(2,vE a)]
def N1   := bk 31 []
def CS (a:St):Option U:=eo CQ F CR [.r,.r,.l,.r,.b,.i] f40 J n a
def uj:=jx CQ F CR [.r,.r,.l,.r,.b] f40 aI 1
def Jp (b:List bL)(c a:Int):CS F J (n+1) (ui b c a)=br (decide (a<c)) (ck (bh a (b.length:Int)) ((Uz F0 (aJ b a cC.aw)).bind fun d=>br (decide (d.1>62)) (J .ret (QP false)) (CS F J n (ui b c (ak (a+1)))))) (J (.exit 0) (N1)):=by kernel_rfl
def acR (a:Bool):uj F .ret (QP a)=some (a,()):=by kernel_rfl
def aaI: uj F (.exit 0) (N1)=some (true,()):=by kernel_rfl
def ew (w:iU):=bM CQ F CR f40 eI aI 1 (w,())
def aji (w:iU):ew F w=(dd F0 w).bind fun a=>br (!a.1) (some (false,())) (br (decide ((w.2.2.2.1.length:Int)>60)) (some (false,())) (br (decide ((w.2.2.2.2.length:Int)>300)) (some (false,())) (CS F (uj F) F.n (ui w.2.2.1 (w.2.2.1.length:Int) 0)))):=by kernel_rfl
def QQ:Any:=.one ⟨eI,aI,1,fun x=>ew F0 x.1⟩
def ajj:a8 40 QQ:=aG CQ ⟨aoG,gF,trivial⟩ func40 CR (by kernel_rfl)
def CT:=[(26,WJ),(56,er)]
def CU:Nat->Option Hint:=look [(4,{live:=[1,3],xl:=[1],rl:=[2]})]
def uk (i w a:Int)(b:List Int)(c:List bL)(d:List cI)(e:List b3):= ei 31 [cl 1,(3,a7 i)] [(1,[ar w,ar a,.ro false 3 (.int .i64) b,.ro false 42 (cC) c,.ro false 95 (iT) d,.ro false 91 (dC) e])] []
def QR (a:Bool):= bk 31 [(2,vE a)]
def N2 (w a:Int)(b:List Int)(c:List bL)(d:List cI)(e:List b3):= ei 31 [cl 1] [(1,[ar w,ar a,.ro false 3 (.int .i64) b,.ro false 42 (cC) c,.ro false 95 (iT) d,.ro false 91 (dC) e])] []
def CW (a:St):Option U:=eo CT F CU [.r,.r,.l,.r,.b,.i] f41 J n a
def um:=jx CT F CU [.r,.r,.l,.r,.b] f41 aI 1
def Jq (i w b:Int)(c:List Int)(a:List bL)(d:List cI)(e:List b3):CW F J (n+1) (uk i w b c a d e)=br (decide (i<(a.length:Int))) (ck (bh i (a.length:Int)) ((UA F0 (aJ a i cC.aw)).bind fun f=>br (decide (f.1>62)) (J .ret (QR false)) (CW F J n (uk (ak (i+1)) w b c a d e)))) (J (.exit 0) (N2 w b c a d e)):=by kernel_rfl
def acS (a:Bool):um F .ret (QR a)=some (a,()):=by kernel_rfl
def aaJ (w c:Int)(d:List Int)(e:List bL)(a:List cI)(b:List b3):um F (.exit 0) (N2 w c d e a b)=br (decide ((a.length:Int)<=60)) (some (decide ((b.length:Int)<=300),())) (some (false,())):=by kernel_rfl
def ey (w:iU):=bM CT F CU f41 eI aI 1 (w,())
def ajk (w:iU):ey F w=(eJ F0 w).bind fun a=>br (!a.1) (some (false,())) (CW F (um F) F.n (uk 0 w.1.1 w.1.2 w.2.1 w.2.2.1 w.2.2.2.1 w.2.2.2.2)):=by kernel_rfl
def QS:Any:=.one ⟨eI,aI,1,fun x=>ey F0 x.1⟩
def ajl:a8 41 QS:=aG CT ⟨aoI,gA,trivial⟩ func41 CU (by kernel_rfl)
def QT:=[(6,Zr),(27,Ad),(28,yC),(29,rX),(30,rZ),(31,uI),(32,uJ),(33,LF),(34,FQ),(35,FT),(36,Jm),(37,Jo),(38,LK),(39,et),(40,QQ),(41,QS)]
def CX (a:List Int):=bM QT F ab f4 uv aI 1 (a,())
def acT (g:List Int):CX F g=(ahw F0 g).bind fun l=>br l.1 (some (true,())) ((oC F0 g).bind fun a=>(sz F0 a.1).bind fun e=>(nr F0 a.1).bind fun h=>(ns F0 a.1).bind fun i=>(pA F0 a.1).bind fun j=>(pB F0 a.1).bind fun k=>(CN F0 a.1).bind fun m=>br (!(e.1==m.1)) (some (false,())) ((uf F0 a.1).bind fun o=>br (!(h.1==o.1)) (some (false,())) ((uh F0 a.1).bind fun p=>br (!(i.1==p.1)) (some (false,())) ((yS F0 a.1).bind fun q=>br (!(j.1==q.1)) (some (false,())) ((yT F0 a.1).bind fun r=>br (!(k.1==r.1)) (some (false,())) ((CP F0 a.1).bind fun f=>br e.1 (br h.1 (br i.1 (br j.1 (br (f.1==k.1) (br (!e.1) ((ew F0 a.1).bind fun b=>(ey F0 a.1).bind fun c=>some (b.1==c.1,())) ((dd F0 a.1).bind fun d=>br d.1 ((ew F0 a.1).bind fun b=>(ey F0 a.1).bind fun c=>some (b.1==c.1,())) (some (false,())))) (some (false,()))) (br (f.1==false) (br (!e.1) ((ew F0 a.1).bind fun b=>(ey F0 a.1).bind fun c=>some (b.1==c.1,())) ((dd F0 a.1).bind fun d=>br d.1 ((ew F0 a.1).bind fun b=>(ey F0 a.1).bind fun c=>some (b.1==c.1,())) (some (false,())))) (some (false,())))) (br (f.1==false) (br (!e.1) ((ew F0 a.1).bind fun b=>(ey F0 a.1).bind fun c=>some (b.1==c.1,())) ((dd F0 a.1).bind fun d=>br d.1 ((ew F0 a.1).bind fun b=>(ey F0 a.1).bind fun c=>some (b.1==c.1,())) (some (false,())))) (some (false,())))) (br (f.1==false) (br (!e.1) ((ew F0 a.1).bind fun b=>(ey F0 a.1).bind fun c=>some (b.1==c.1,())) ((dd F0 a.1).bind fun d=>br d.1 ((ew F0 a.1).bind fun b=>(ey F0 a.1).bind fun c=>some (b.1==c.1,())) (some (false,())))) (some (false,())))) (br (f.1==false) (br (!e.1) ((ew F0 a.1).bind fun b=>(ey F0 a.1).bind fun c=>some (b.1==c.1,())) ((dd F0 a.1).bind fun d=>br d.1 ((ew F0 a.1).bind fun b=>(ey F0 a.1).bind fun c=>some (b.1==c.1,())) (some (false,())))) (some (false,()))))))))):=by kernel_rfl
def aaK:Any:=.one ⟨uv,aI,1,fun x=>CX F0 x.1⟩
def acU:a8 4 aaK:=aG QT ⟨aqr,S4,NU,I5,I6,Ly,LC,acL,Yi,Yk,aaF,aaH,acQ,gF,ajj,ajl,trivial⟩ func4 ab (by kernel_rfl)
end
end Go.Am.Tryz
