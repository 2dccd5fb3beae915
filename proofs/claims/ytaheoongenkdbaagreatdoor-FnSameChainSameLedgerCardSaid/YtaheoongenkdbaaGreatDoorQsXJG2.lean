/- No condition. -/
import Derived.Test.YtaheoongenkdbaaGreatDoorQsXJG1
set_option linter.all false
set_option maxRecDepth 100000
namespace Go.Am.Tryz
open Go.Am Go.Proofs Go.Proofs.Tryz
noncomputable section
variable {U:Type} (F:nT) (J:Ex->St->Option U) (n:Nat)
def TO:=[(98,kU),(99,wQ),(100,kV),(101,wT)]
abbrev Q7:List (Ty×Bool):=[(bD,true)]
def aW (r:a6):=bh TO F ab f51 Q7 Q7 2 (r,())
def ahC (r:a6):aW F r=(l8 F0 r.2.2.2.1).bind fun a=>ck (ee F 0 r.2.2.2.2.1.length 32) ((fM F0 r.2.2.2.2.2.1).bind fun b=>(gV F0 r.2.2.2.2.2.2.1).bind fun c=>(sh F0 r.2.2.2.2.2.2.2).bind fun d=>some ((r.1,r.2.1,r.2.2.1,a.1,[]++r.2.2.2.2.1,b.1,c.1,d.1),())):=by kernel_rfl
def bS:Any:=.one ⟨Q7,Q7,2,fun x=>aW F0 x.1⟩
def cl:aX 51 bS:=aw TO ⟨s6,NM,tc,NN,trivial⟩ func51 ab (by kernel_rfl)
def kW:=[(51,bS)]
def kX:Nat->Option Hint:=look [(3,{live:=[1,2,3,4],vW:=[(2,2,3,.int .i64),(2,3,50,bD),(2,4,102,eH),(2,5,95,c8),(3,3,50,bD),(3,4,102,eH)],xl:=[1,2,3],rl:=[2]}),(7,{live:=[1,2,3,5],xl:=[2,3],rl:=[2]}),(999999,{live:=[1]})]
def pO (w:nx)(i j k l a:Int)(m:List Int)(b:List a6)(c:List bZ)(d:List bT)(e:List Int)(f:List a6)(g:List bZ)(h:List bT):St:={nt:=63,tm:=[(1,.v (.c (.Sx false (gp) w 0))),b0 2,b0 3,(5,bp i)],bx:=[(2,[an j,an k,.own 1000000 none,.own 1000001 none,.own 1000002 none,.own 1000003 none]),(3,[an l,an a,.own 1000004 none,.own 1000005 none,.own 1000006 none,.own 1000007 none])],bl:=[ax 1000000 3 (.int .i64) m,ax 1000001 50 bD b,ax 1000002 102 eH c,ax 1000003 95 c8 d,ax 1000004 3 (.int .i64) e,ax 1000005 50 bD f,ax 1000006 102 eH g,ax 1000007 95 c8 h],rob:=[1]}
def Kx (i j k a:Int)(l:List Int)(b:List a6)(c:List bZ)(d:List bT)(e:List Int)(f:List a6)(g:List bZ)(h:List bT):St:={nt:=63,tm:=[b0 2,b0 3],bx:=[(2,[an i,an j,.own 1000000 none,.own 1000001 none,.own 1000002 none,.own 1000003 none]),(3,[an k,an a,.own 1000004 none,.own 1000005 none,.own 1000006 none,.own 1000007 none])],bl:=[ax 1000000 3 (.int .i64) l,ax 1000001 50 bD b,ax 1000002 102 eH c,ax 1000003 95 c8 d,ax 1000004 3 (.int .i64) e,ax 1000005 50 bD f,ax 1000006 102 eH g,ax 1000007 95 c8 h],rob:=[1]}
def wU (a:St):Option U:=fp kW F kX [.r,.r,.r,.l,.r,.b,.i] f20 J n a
def A3:=gU kW F kX [.r,.r,.r,.l,.r,.b] f20 fG 2
def pP (w:nx)(i j k l a:Int)(m:List Int)(b:List a6)(c:List bZ)(d:List bT)(e:List Int)(f:List a6)(g:List bZ)(h:List bT):St:={nt:=63,tm:=[(1,.v (.c (.Sx false (gp) w 0))),b0 2,b0 3,(4,bp i)],bx:=[(2,[an j,an k,.own 1000000 none,.own 1000001 none,.own 1000002 none,.own 1000003 none]),(3,[an l,an a,.own 1000004 none,.own 1000005 none,.own 1000006 none,.own 1000007 none])],bl:=[ax 1000000 3 (.int .i64) m,ax 1000001 50 bD b,ax 1000002 102 eH c,ax 1000003 95 c8 d,ax 1000004 3 (.int .i64) e,ax 1000005 50 bD f,ax 1000006 102 eH g,ax 1000007 95 c8 h],rob:=[1]}
def Ky (w:nx)(i j k a:Int)(l:List Int)(b:List a6)(c:List bZ)(d:List bT)(e:List Int)(f:List a6)(g:List bZ)(h:List bT):St:={nt:=63,tm:=[(1,.v (.c (.Sx false (gp) w 0))),b0 2,b0 3],bx:=[(2,[an i,an j,.own 1000000 none,.own 1000001 none,.own 1000002 none,.own 1000003 none]),(3,[an k,an a,.own 1000004 none,.own 1000005 none,.own 1000006 none,.own 1000007 none])],bl:=[ax 1000000 3 (.int .i64) l,ax 1000001 50 bD b,ax 1000002 102 eH c,ax 1000003 95 c8 d,ax 1000004 3 (.int .i64) e,ax 1000005 50 bD f,ax 1000006 102 eH g,ax 1000007 95 c8 h],rob:=[1]}
def wV (a:St):Option U:=fp kW F kX [.r,.r,.l,.r,.b,.i] f20 J n a
def A4:=gU kW F kX [.r,.r,.l,.r,.b] f20 fG 2
def Fm (w:nx)(i j k l b:Int)(m:List Int)(c:List a6)(d:List bZ)(e:List bT)(f:List Int)(g:List a6)(a:List bZ)(h:List bT):wU F J (n+1) (pO w i j k l b m c d e f g a h)=br (decide (i<(w.2.2.2.1.length:Int))) (ck (bN i (w.2.2.2.1.length:Int)) (ck (bN i (w.2.2.2.1.length:Int)) (ck (ee F 0 (ay w.2.2.2.1 i (0,[])).2.length 1) (ck (ee F a.length [((ay w.2.2.2.1 i (0,[])).1,[]++(ay w.2.2.2.1 i (0,[])).2)].length 32) (wU F J n (pO w (ai (i+1)) j k l b m c d e f g (a++[((ay w.2.2.2.1 i (0,[])).1,[]++(ay w.2.2.2.1 i (0,[])).2)]) h)))))) (J (.exit 2) (Kx j k l b m c d e f g a h)):=by kernel_rfl
def Fo (w:nx)(i j k l b:Int)(m:List Int)(c:List a6)(d:List bZ)(e:List bT)(f:List Int)(a:List a6)(g:List bZ)(h:List bT):wV F J (n+1) (pP w i j k l b m c d e f a g h)=br (decide (i<(w.2.2.1.length:Int))) (ck (bN i (w.2.2.1.length:Int)) ((aW F0 (ay w.2.2.1 i bD.aq)).bind fun o=>ck (ee F a.length [o.1].length 208) (wV F J n (pP w (ai (i+1)) j k l b m c d e f (a++[o.1]) g h)))) (J (.exit 0) (Ky w j k l b m c d e f a g h)):=by kernel_rfl
def Zb (j k f a:Int)(l:List Int)(g:List a6)(h:List bZ)(i:List bT)(b:List Int)(c:List a6)(d:List bZ)(e:List bT):A3 F (.exit 2) (Kx j k f a l g h i b c d e)=some (((f,a),b,c,d,e),()):=by kernel_rfl
def Zc (w:nx)(i j k a:Int)(l:List Int)(b:List a6)(c:List bZ)(d:List bT)(e:List Int)(f:List a6)(g:List bZ)(h:List bT):A4 F (.exit 0) (Ky w i j k a l b c d e f g h)=wU F (A3 F) F.n (pO w 0 i j k a l b c d e f g h):=by kernel_rfl
def wW (w:nx):=bh kW F kX f20 fG fG 2 (w,())
def ahD (w:nx):wW F w=ck (ee F 0 w.2.1.length 8) (ck (ee F 0 w.2.2.2.2.length 32) (wV F (A4 F) F.n (pP w 0 0 0 w.1.1 w.1.2 [] [] [] [] ([]++w.2.1) [] [] ([]++w.2.2.2.2)))):=by kernel_rfl
def A5:Any:=.one ⟨fG,fG,2,fun x=>wW F0 x.1⟩
def Q8:aX 20 A5:=aw kW ⟨cl,trivial⟩ func20 kX (by kernel_rfl)
abbrev aD0:List (Ty×Bool):=[(.sl 5 (.int .u8),false),(.int .i64,false),(.int .i64,false)]
def Kz (b:List Int)(c a:Int):=bh aB F ab f22 aD0 cX 1 (b,c,a,())
def akL (b:List Int)(c a:Int):Kz F b c a=br (decide ((ai (c+(ai (Int.tdiv (b.length:Int) 4))))>a)) (some (a,())) (some (ai (c+(ai (Int.tdiv (b.length:Int) 4))),())):=by kernel_rfl
def Q9:Any:=.one ⟨aD0,cX,1,fun x=>Kz F0 x.1 x.2.1 x.2.2.1⟩
def akM:aX 22 Q9:=aw aB trivial func22 ab (by kernel_rfl)
def af8:=[(29,cu)]
def kY (c:D1)(a:Int):=bh af8 F ab f102 af5 cX 1 (c,a,())
def arI (c:D1)(a:Int):kY F c a=(dy F0 c).bind fun b=>br (!b.1) (some (-1,())) (br (decide (a<0)) (some (-1,())) (ck (!(c.1==0)) (some (Int.tmod a c.1,())))):=by kernel_rfl
def hS:Any:=.one ⟨af5,cX,1,fun x=>kY F0 x.1 x.2.1⟩
def l9:aX 102 hS:=aw af8 ⟨c9,trivial⟩ func102 ab (by kernel_rfl)
def tg:=[(175,h7)]
def th:Nat->Option Hint:=look [(2,{live:=[0,1,2,6,7],vW:=[(6,2,3,.int .i64)],xl:=[1,2,6],rl:=[6]})]
def jG (a:List D9)(b:Int)(name:ByteArray)(i c:Int)(d:ByteArray)(e:List Int):= di 38 [(0,hM 61 (K9) a),(1,bp b),(2,W8 name),b0 6,(7,bp i)] [(6,[an c,.str d,.own 1000000 none])] [ax 1000000 3 (.int .i64) e]
def KA (a:Int)(b:ByteArray)(c:List Int):= di 38 [b0 6] [(6,[an a,.str b,.own 1000000 none])] [ax 1000000 3 (.int .i64) c]
def IC (a:Int)(name:ByteArray)(b:Int)(c:ByteArray)(d:List Int):= di 38 [(1,bp a),(2,W8 name),b0 6] [(6,[an b,.str c,.own 1000000 none])] [ax 1000000 3 (.int .i64) d]
def mR (a:St):Option U:=fp tg F th [.r,.l,.r,.b,.i] f103 J n a
def n1:=gU tg F th [.r,.l,.r,.b] f103 fF 2
def Dx (a:List D9)(b:Int)(name:ByteArray)(i c:Int)(d:ByteArray)(e:List Int):mR F J (n+1) (jG a b name i c d e)=br (decide (i<(a.length:Int))) (ck (bN i (a.length:Int)) (br ((ay a i K9.aq).1==b) (ck (bN i (a.length:Int)) (br ((ay a i K9.aq).2.1.toList==name.toList) (ck (bN i (a.length:Int)) ((fL F0 (ay a i K9.aq)).bind fun f=>J .ret (KA f.1.1 f.1.2.1 f.1.2.2))) (mR F J n (jG a b name (ai (i+1)) c d e)))) (mR F J n (jG a b name (ai (i+1)) c d e)))) (J (.exit 0) (IC b name c d e)):=by kernel_rfl
def Zd (a:Int)(b:ByteArray)(c:List Int):n1 F .ret (KA a b c)=some ((a,b,c),()):=by kernel_rfl
def Wv (a:Int)(name:ByteArray)(b:Int)(c:ByteArray)(d:List Int):n1 F (.exit 0) (IC a name b c d)=some ((a,name,[]),()):=by kernel_rfl
abbrev ays:List (Ty×Bool):=[(K13,false),(.int .i64,false),(.str,false)]
def nz (a:D13)(b:Int)(name:ByteArray):=bh tg F th f103 ays fF 2 (a,b,name,())
def adK (a:D13)(b:Int)(name:ByteArray):nz F a b name=mR F (n1 F) F.n (jG a b name 0 0 aj []):=by kernel_rfl
def n2:Any:=.one ⟨ays,fF,2,fun x=>nz F0 x.1 x.2.1 x.2.2.1⟩
def A6:aX 103 n2:=aw tg ⟨mQ,trivial⟩ func103 th (by kernel_rfl)
def pQ:Nat->Option Hint:=look [(3,{live:=[0,1,2],vW:=[(0,0,3,.int .i64),(0,1,3,.int .i64),(1,0,3,.int .i64)],xl:=[0,1],rl:=[0]})]
def ft (i:Int)(d a b c:List Int):= di 15 [b0 0,b0 1,(2,bp i)] [(0,[.own 1000000 none,.own 1000001 none]),(1,[.own 1000002 none,.own 1000003 none])] [ax 1000000 3 (.int .i64) d,ax 1000001 3 (.int .i64) a,ax 1000002 3 (.int .i64) b,ax 1000003 3 (.int .i64) c]
def Fp (d a b c:List Int):= di 15 [b0 0,b0 1] [(0,[.own 1000000 none,.own 1000001 none]),(1,[.own 1000002 none,.own 1000003 none])] [ax 1000000 3 (.int .i64) d,ax 1000001 3 (.int .i64) a,ax 1000002 3 (.int .i64) b,ax 1000003 3 (.int .i64) c]
def h8 (a:St):Option U:=fp aB F pQ [.r,.r,.l,.r,.b,.i] f106 J n a
abbrev n3:List (Ty×Bool):=[(K43,true)]
def iz:=gU aB F pQ [.r,.r,.l,.r,.b] f106 n3 2
def Ar (i:Int)(d b a c:List Int):h8 F J (n+1) (ft i d b a c)=br (decide (i<4)) (ck (ee F a.length [100].length 8) (h8 F J n (ft (ai (i+1)) d b (a++[100]) c))) (J (.exit 0) (Fp d b a c)):=by kernel_rfl
def TP (d c a b:List Int):iz F (.exit 0) (Fp d c a b)=some ((a,b),()):=by kernel_rfl
def kZ: Option (Args n3):=bh aB F pQ f106 [] n3 2 (())
def aa9: kZ F= ck (okM F 4 4 8) (h8 F (iz F) F.n (ft 0 [] [] [] (List.replicate (4:Int).toNat 0))):=by kernel_rfl
def uL:Any:=.one ⟨[],n3,2,fun x=>kZ F0⟩
def KB:aX 106 uL:=aw aB trivial func106 pQ (by kernel_rfl)
def Gx:=[(131,oP)]
def Gy:Nat->Option Hint:=look [(4,{live:=[3,4,6],xl:=[3],rl:=[2]})]
def wX (i:Int)(b:List D4)(a:List D6):= di 27 [(3,.v (.c (.own 1000000 none))),(4,.v (.c (.own 1000001 none))),(6,bp i)] [] [ax 1000000 63 K4 b,ax 1000001 128 K6 a]
def Ra (a:List D4):= di 27 [(3,.v (.c (.own 1000000 none)))] [] [ax 1000000 63 K4 a]
def Gz (a:St):Option U:=fp Gx F Gy [.r,.r,.r,.l,.r,.b,.i] f107 J n a
def ID:=gU Gx F Gy [.r,.r,.r,.l,.r,.b] f107 iP 2
def KC (i:Int)(b:List D4)(a:List D6):Gz F J (n+1) (wX i b a)=br (decide (i<(a.length:Int))) (ck (bN i (a.length:Int)) (ck (ee F b.length (ay a i (0,[])).2.length 32) (Gz F J n (wX (ai (i+1)) (b++(ay a i (0,[])).2) a)))) (J (.exit 0) (Ra b)):=by kernel_rfl
def adL (a:List D4):ID F (.exit 0) (Ra a)=some (a,()):=by kernel_rfl
def uM (s:ByteArray):=bh Gx F Gy f107 dt iP 2 (s,())
def aod (s:ByteArray):uM F s=(oO F0 s).bind fun a=>Gz F (ID F) F.n (wX 0 [] a.1):=by kernel_rfl
def IE:Any:=.one ⟨dt,iP,2,fun x=>uM F0 x.1⟩
def Xy:aX 107 IE:=aw Gx ⟨BX,trivial⟩ func107 Gy (by kernel_rfl)
def oW (l:D43):=bh aB F ab f177 n3 n3 2 (l,())
def akN (l:D43):oW F l=ck (ee F 0 l.1.length 8) (ck (ee F 0 l.2.length 8) (some (([]++l.1,[]++l.2),()))):=by kernel_rfl
def ti:Any:=.one ⟨n3,n3,2,fun x=>oW F0 x.1⟩
def IF:aX 177 ti:=aw aB trivial func177 ab (by kernel_rfl)
def tj:=[(63,bY)]
def tk:Nat->Option Hint:=look [(4,{live:=[1,3],rl:=[2]})]
def n4 (i:Int)(l a:List Int):= di 34 [b0 1,(3,bp i)] [(1,[.ro false 3 (.int .i64) l,.ro false 3 (.int .i64) a])] []
def wY (a:Bool):= b2 34 [(2,Pw a)]
def IG   := b2 34 []
def tl (a:St):Option U:=fp tj F tk [.r,.r,.l,.r,.b,.i] f234 J n a
def n5:=gU tj F tk [.r,.r,.l,.r,.b] f234 aS 1
def Dy (i:Int)(l a:List Int):tl F J (n+1) (n4 i l a)=br (decide (i<4)) (ck (bN i (l.length:Int)) ((bI F0 (ay l i 0) 0 400).bind fun b=>br (!b.1) (J .ret (wY false)) (ck (bN i (a.length:Int)) ((bI F0 (ay a i 0) 0 100).bind fun c=>br (!c.1) (J .ret (wY false)) (tl F J n (n4 (ai (i+1)) l a)))))) (J (.exit 0) (IG)):=by kernel_rfl
def IH (a:Bool):n5 F .ret (wY a)=some (a,()):=by kernel_rfl
def Ww: n5 F (.exit 0) (IG)=some (true,()):=by kernel_rfl
def si (l:D43):=bh tj F tk f234 n3 aS 1 (l,())
def adM (l:D43):si F l=br ((l.1.length:Int) != 4) (some (false,())) (br ((l.2.length:Int) != 4) (some (false,())) (tl F (n5 F) F.n (n4 0 l.1 l.2))):=by kernel_rfl
def KD:Any:=.one ⟨n3,aS,1,fun x=>si F0 x.1⟩
def adN:aX 234 KD:=aw tj ⟨cB,trivial⟩ func234 tk (by kernel_rfl)
def akO:=[(177,ti),(193,j6),(234,KD)]
abbrev ayt:List (Ty×Bool):=[(K43,true),(.int .i64,false)]
abbrev ayu:List (Ty×Bool):=[(K43,true),(K4,true)]
def II (l:D43)(x:D4):=bh akO F ab f178 ayu ayt 2 (l,x,())
def atZ (l:D43)(x:D4):II F l x=(oW F0 l).bind fun a=>(si F0 l).bind fun b=>br (!b.1) (some (a.1,1,())) ((pI F0 x).bind fun c=>br (!c.1) (some (a.1,1,())) (ck (bN x.1 (l.2.length:Int)) (br (decide (x.2.2.2<(ay l.2 x.1 0))) (some (a.1,2,())) (ck (bN x.1 (l.2.length:Int)) (br (decide (x.2.2.2>(ay l.2 x.1 0))) (some (a.1,3,())) (ck (bN x.1 (a.1.2.length:Int)) (ck (bN x.1 (l.1.length:Int)) (br (decide (x.2.2.1>(ay l.1 x.1 0))) (some ((a.1.1,a.1.2.set x.1.toNat (ai (x.2.2.2+1))),4,())) (ck (bN x.1 (a.1.1.length:Int)) (ck (bN x.1 (a.1.1.length:Int)) (ck (bN x.2.1 ((a.1.1.set x.1.toNat (ai ((ay a.1.1 x.1 0)-x.2.2.1))).length:Int)) (ck (bN x.2.1 ((a.1.1.set x.1.toNat (ai ((ay a.1.1 x.1 0)-x.2.2.1))).length:Int)) ((si F0 ((a.1.1.set x.1.toNat (ai ((ay a.1.1 x.1 0)-x.2.2.1))).set x.2.1.toNat (ai ((ay (a.1.1.set x.1.toNat (ai ((ay a.1.1 x.1 0)-x.2.2.1))) x.2.1 0)+x.2.2.1)),a.1.2.set x.1.toNat (ai (x.2.2.2+1)))).bind fun d=>br (!d.1) ((oW F0 l).bind fun e=>some (e.1,1,())) (some (((a.1.1.set x.1.toNat (ai ((ay a.1.1 x.1 0)-x.2.2.1))).set x.2.1.toNat (ai ((ay (a.1.1.set x.1.toNat (ai ((ay a.1.1 x.1 0)-x.2.2.1))) x.2.1 0)+x.2.2.1)),a.1.2.set x.1.toNat (ai (x.2.2.2+1))),0,()))))))))))))))):=by kernel_rfl
def GA:Any:=.one ⟨ayu,ayt,2,fun x=>II F0 x.1 x.2.1⟩
def TQ:aX 178 GA:=aw akO ⟨IF,pJ,adN,trivial⟩ func178 ab (by kernel_rfl)
def B9:=[(177,ti),(178,GA)]
def Ca:Nat->Option Hint:=look [(4,{live:=[1,4,6,7,8],vW:=[(4,0,3,.int .i64),(4,1,3,.int .i64)],xl:=[4,6,7],rl:=[4,5]})]
def tn (e:List D4)(i:Int)(f a b c d:List Int):= di 36 [(1,hM 63 (K4) e),b0 4,b0 6,(7,.v (.c (.own 1000000 none))),(8,bp i)] [(4,[.own 1000001 none,.own 1000002 none]),(6,[.own 1000003 none,.own 1000004 none])] [ax 1000000 3 (.int .i64) f,ax 1000001 3 (.int .i64) a,ax 1000002 3 (.int .i64) b,ax 1000003 3 (.int .i64) c,ax 1000004 3 (.int .i64) d]
def NO (e a b c d:List Int):= di 36 [b0 4,b0 6,(7,.v (.c (.own 1000000 none)))] [(4,[.own 1000001 none,.own 1000002 none]),(6,[.own 1000003 none,.own 1000004 none])] [ax 1000000 3 (.int .i64) e,ax 1000001 3 (.int .i64) a,ax 1000002 3 (.int .i64) b,ax 1000003 3 (.int .i64) c,ax 1000004 3 (.int .i64) d]
def Cb (a:St):Option U:=fp B9 F Ca [.r,.r,.r,.l,.r,.b,.i] f105 J n a
abbrev apM:List (Ty×Bool):=[(K43,true),(.sl 3 (.int .i64),false)]
def EH:=gU B9 F Ca [.r,.r,.r,.l,.r,.b] f105 apM 2
def IJ (a:List D4)(i:Int)(c d e f g:List Int):Cb F J (n+1) (tn a i c d e f g)=br (decide (i<(a.length:Int))) (ck (bN i (a.length:Int)) ((II F0 (f,g) (ay a i K4.aq)).bind fun b=>ck (ee F c.length [b.2.1].length 8) (Cb F J n (tn a (ai (i+1)) (c++[b.2.1]) d e b.1.1 b.1.2)))) (J (.exit 0) (NO c d e f g)):=by kernel_rfl
def aba (c d e a b:List Int):EH F (.exit 0) (NO c d e a b)=some ((a,b),c,()):=by kernel_rfl
abbrev ayv:List (Ty×Bool):=[(K43,true),(K5,false)]
def vu (l:D43)(a:D5):=bh B9 F Ca f105 ayv apM 2 (l,a,())
def akP (l:D43)(b:D5):vu F l b=(oW F0 l).bind fun a=>Cb F (EH F) F.n (tn b 0 [] [] [] a.1.1 a.1.2):=by kernel_rfl
def EI:Any:=.one ⟨ayv,apM,2,fun x=>vu F0 x.1 x.2.1⟩
def TR:aX 105 EI:=aw B9 ⟨IF,TQ,trivial⟩ func105 Ca (by kernel_rfl)
def tp:=[(177,ti),(178,GA)]
def tr:Nat->Option Hint:=look [(4,{live:=[0,5,6,7],xl:=[5],rl:=[4]})]
def gr (p:List D4)(i:Int)(c:List D4)(a b:List Int):= di 48 [(0,hM 63 (K4) p),(5,.v (.c (.own 1000000 none))),b0 6,(7,bp i)] [(6,[.own 1000001 none,.own 1000002 none])] [ax 1000000 63 K4 c,ax 1000001 3 (.int .i64) a,ax 1000002 3 (.int .i64) b]
def uN (a:List D4):= di 48 [(5,.v (.c (.own 1000000 none)))] [] [ax 1000000 63 K4 a]
def iY (a:St):Option U:=fp tp F tr [.r,.r,.r,.l,.r,.b,.i] f109 J n a
def wZ:=gU tp F tr [.r,.r,.r,.l,.r,.b] f109 iP 2
def Dz (p:List D4)(i:Int)(a:List D4)(c d:List Int):iY F J (n+1) (gr p i a c d)=br (decide (i<(p.length:Int))) (br (decide ((a.length:Int)<2)) (ck (bN i (p.length:Int)) ((II F0 (c,d) (ay p i K4.aq)).bind fun b=>br (b.2.1==0) (ck (bN i (p.length:Int)) (ck (ee F a.length [(ay p i K4.aq)].length 32) (iY F J n (gr p (ai (i+1)) (a++[(ay p i K4.aq)]) b.1.1 b.1.2)))) (br (b.2.1==4) (ck (bN i (p.length:Int)) (ck (ee F a.length [(ay p i K4.aq)].length 32) (iY F J n (gr p (ai (i+1)) (a++[(ay p i K4.aq)]) b.1.1 b.1.2)))) (iY F J n (gr p (ai (i+1)) a c d))))) (J (.exit 0) (uN a))) (J (.exit 0) (uN a)):=by kernel_rfl
def Fq (a:List D4):wZ F (.exit 0) (uN a)=some (a,()):=by kernel_rfl
abbrev af9:List (Ty×Bool):=[(K5,false),(K43,true)]
def nA (p:D5)(l:D43):=bh tp F tr f109 af9 iP 2 (p,l,())
def adO (p:D5)(l:D43):nA F p l=(oW F0 l).bind fun a=>iY F (wZ F) F.n (gr p 0 [] a.1.1 a.1.2):=by kernel_rfl
def KE:Any:=.one ⟨af9,iP,2,fun x=>nA F0 x.1 x.2.1⟩
def adP:aX 109 KE:=aw tp ⟨IF,TQ,trivial⟩ func109 tr (by kernel_rfl)
def w2:=[(193,j6),(276,EA)]
def w3:Nat->Option Hint:=look [(3,{live:=[0,3,4],xl:=[3],rl:=[2]})]
def k0 (a:List D4)(b:ByteArray)(i:Int):= b2 29 [(0,hM 63 (K4) a),(3,W8 b),(4,bp i)]
def NP (a:ByteArray):= b2 29 [(2,W8 a)]
def KF (a:ByteArray):= b2 29 [(3,W8 a)]
def oX (a:St):Option U:=fp w2 F w3 [.r,.r,.l,.r,.b,.i] f236 J n a
def pR:=gU w2 F w3 [.r,.r,.l,.r,.b] f236 dt 1
def Fs (a:List D4)(b:ByteArray)(i:Int):oX F J (n+1) (k0 a b i)=br (decide (i<(a.length:Int))) (ck (bN i (a.length:Int)) ((pI F0 (ay a i K4.aq)).bind fun d=>br (!d.1) (J .ret (NP aj)) (br (decide (i>0)) (ck (okC F b.size (ByteArray.mk #[44]).size) (ck (bN i (a.length:Int)) ((vo F0 (ay a i K4.aq)).bind fun c=>ck (okC F (b++(ByteArray.mk #[44])).size c.1.size) (oX F J n (k0 a ((b++(ByteArray.mk #[44]))++c.1) (ai (i+1))))))) (ck (bN i (a.length:Int)) ((vo F0 (ay a i K4.aq)).bind fun c=>ck (okC F b.size c.1.size) (oX F J n (k0 a (b++c.1) (ai (i+1))))))))) (J (.exit 0) (KF b)):=by kernel_rfl
def abb (a:ByteArray):pR F .ret (NP a)=some (a,()):=by kernel_rfl
def Ze (a:ByteArray):pR F (.exit 0) (KF a)=some (a,()):=by kernel_rfl
def GB (a:D5):=bh w2 F w3 f236 iP dt 1 (a,())
def ahE (a:D5):GB F a=oX F (pR F) F.n (k0 a aj 0):=by kernel_rfl
def NQ:Any:=.one ⟨iP,dt,1,fun x=>GB F0 x.1⟩
def ahF:aX 236 NQ:=aw w2 ⟨pJ,Tv,trivial⟩ func236 w3 (by kernel_rfl)
def Cc:=[(68,et),(193,j6),(235,sN),(236,NQ)]
def Cd:Nat->Option Hint:=look [(2,{live:=[0,1,2,7],xl:=[0,1,2],rl:=[6]})]
def tt (a:ByteArray)(b:Int)(c:List D4)(i:Int):= b2 34 [(0,W8 a),(1,bp b),(2,hM 63 (K4) c),(7,bp i)]
def Rb (a:ByteArray):= b2 34 [(6,W8 a)]
def NR (a:ByteArray)(b:Int)(c:List D4):= b2 34 [(0,W8 a),(1,bp b),(2,hM 63 (K4) c)]
def Ce (a:St):Option U:=fp Cc F Cd [.r,.l,.r,.b,.i] f179 J n a
def tu:=gU Cc F Cd [.r,.l,.r,.b] f179 dt 1
def IK (b:ByteArray)(c:Int)(a:List D4)(i:Int):Ce F J (n+1) (tt b c a i)=br (decide (i<(a.length:Int))) (ck (bN i (a.length:Int)) ((pI F0 (ay a i K4.aq)).bind fun d=>br (!d.1) (J .ret (Rb aj)) (Ce F J n (tt b c a (ai (i+1)))))) (J (.exit 0) (NR b c a)):=by kernel_rfl
def adQ (a:ByteArray):tu F .ret (Rb a)=some (a,()):=by kernel_rfl
def abc (a:ByteArray)(d:Int)(e:List D4):tu F (.exit 0) (NR a d e)=ck (okC F a.size (ByteArray.mk #[47]).size) ((jB F0 d).bind fun b=>ck (okC F (a++(ByteArray.mk #[47])).size b.1.size) (ck (okC F ((a++(ByteArray.mk #[47]))++b.1).size (ByteArray.mk #[124]).size) ((GB F0 e).bind fun c=>ck (okC F (((a++(ByteArray.mk #[47]))++b.1)++(ByteArray.mk #[124])).size c.1.size) ((eB F0 ((((a++(ByteArray.mk #[47]))++b.1)++(ByteArray.mk #[124]))++c.1)).bind fun f=>br (!f.1) (some (aj,())) (some ((((a++(ByteArray.mk #[47]))++b.1)++(ByteArray.mk #[124]))++c.1,())))))):=by kernel_rfl
abbrev ayw:List (Ty×Bool):=[(.str,false),(.int .i64,false),(K5,false)]
def Xz (a:ByteArray)(b:Int)(c:D5):=bh Cc F Cd f179 ayw dt 1 (a,b,c,())
def TS:∃f,f= @Xz:=⟨_,rfl⟩
def jH:=Classical.choose TS
def Rc: @jH= @Xz:=Classical.choose_spec TS
def akQ (a:ByteArray)(b:Int)(c:D5):jH F a b c=Ce F (tu F) F.n (tt a b c 0):=by rw[Rc];kernel_rfl
def EJ:Any:=.one ⟨ayw,dt,1,fun x=>jH F0 x.1 x.2.1 x.2.2.1⟩
def TT:aX 179 EJ:=ok1 (show wb Tryz.prog TB Cc from⟨fX,pJ,Im,ahF,trivial⟩) func179 (by kernel_rfl) (by kernel_rfl) Cd (by rw[Rc];kernel_rfl)
def Re:=[(69,da),(113,gC),(179,EJ),(180,kM)]
abbrev aga:List (Ty×Bool):=[(K15,true),(.bool,false)]
abbrev ayx:List (Ty×Bool):=[(K1,true),(K9,true),(.int .i64,false),(K5,false)]
def nB (c:D1)(q:D9)(a:Int)(b:D5):=bh Re F ab f108 ayx aga 2 (c,q,a,b,())
def adR (c:D1)(q:D9)(b:Int)(e:D5):nB F c q b e=(jH F0 q.2.1 b e).bind fun a=>(hQ F0 q).bind fun d=>(l6 F0 c (a.1,d.1)).bind fun f=>br (!f.1) (some ((aj,0,aj,[]),false,())) ((df F0 a.1).bind fun g=>br (g.1 != b) (some ((aj,0,aj,[]),false,())) (some ((a.1,d.1),true,()))):=by kernel_rfl
def w4:Any:=.one ⟨ayx,aga,2,fun x=>nB F0 x.1 x.2.1 x.2.2.1 x.2.2.2.1⟩
def NS:aX 108 w4:=aw Re ⟨ej,kT,TT,sV,trivial⟩ func108 ab (by kernel_rfl)
def akR:=[(64,cn),(102,hS),(103,n2),(104,sQ),(105,EI),(106,uL),(107,IE),(108,w4),(109,KE)]
def TU (c:D1)(r:a6):=bh akR F ab f54 An aga 2 (c,r,())
def at0 (c:D1)(r:a6):TU F c r=(dj F0 c r).bind fun g=>br (!g.1) (some ((aj,0,aj,[]),false,())) ((kY F0 c r.2.1).bind fun h=>br (h.1 != r.1) (some ((aj,0,aj,[]),false,())) (br (decide (r.2.2.1>=r.2.1)) (some ((aj,0,aj,[]),false,())) ((nz F0 r.2.2.2.2.2.1 r.2.1 aj).bind fun i=>br (r.2.2.2.1.2.2.1.1 != (ai (r.2.1-1))) ((vp F0 c).bind fun j=>br (decide ((i.1.2.2.length:Int)<j.1)) (some ((aj,0,aj,[]),false,())) ((kZ F0).bind fun b=>(uM F0 r.2.2.2.1.2.2.1.2.1).bind fun d=>(vu F0 b.1 d.1).bind fun e=>(nA F0 r.2.2.2.2.1 e.1).bind fun f=>(nB F0 c r.2.2.2.1.2.2.1 r.2.1 f.1).bind fun a=>some (a.1,a.2.1,()))) ((kZ F0).bind fun b=>(uM F0 r.2.2.2.1.2.2.1.2.1).bind fun d=>(vu F0 b.1 d.1).bind fun e=>(nA F0 r.2.2.2.2.1 e.1).bind fun f=>(nB F0 c r.2.2.2.1.2.2.1 r.2.1 f.1).bind fun a=>some (a.1,a.2.1,()))))):=by kernel_rfl
def PT:Any:=.one ⟨An,aga,2,fun x=>TU F0 x.1 x.2.1⟩
def agb:aX 54 PT:=aw akR ⟨cP,l9,A6,Ip,TR,KB,Xy,NS,adP,trivial⟩ func54 ab (by kernel_rfl)
def Cf:Nat->Option Hint:=look [(2,{live:=[0,1,5],rl:=[4]})]
def tv (s:List Int)(i k:Int):= b2 18 [(0,hM 3 (.int .i64) s),(1,bp i),(5,bp k)]
def Rf (a:Bool):= b2 18 [(4,Pw a)]
def NT   := b2 18 []
def Cg (a:St):Option U:=fp aB F Cf [.r,.l,.r,.b,.i] f55 J n a
def tw:=gU aB F Cf [.r,.l,.r,.b] f55 aS 1
def IL (s:List Int)(i k:Int):Cg F J (n+1) (tv s i k)=br (decide (k<(s.length:Int))) (ck (bN k (s.length:Int)) (br ((ay s k 0)==i) (J .ret (Rf true)) (Cg F J n (tv s i (ai (k+1)))))) (J (.exit 0) (NT)):=by kernel_rfl
def adS (a:Bool):tw F .ret (Rf a)=some (a,()):=by kernel_rfl
def abd: tw F (.exit 0) (NT)=some (false,()):=by kernel_rfl
abbrev ahG:List (Ty×Bool):=[(.sl 3 (.int .i64),false),(.int .i64,false)]
def cQ (s:List Int)(i:Int):=bh aB F Cf f55 ahG aS 1 (s,i,())
def akS (s:List Int)(i:Int):cQ F s i=Cg F (tw F) F.n (tv s i 0):=by kernel_rfl
def cK:Any:=.one ⟨ahG,aS,1,fun x=>cQ F0 x.1 x.2.1⟩
def dA:aX 55 cK:=aw aB trivial func55 Cf (by kernel_rfl)
def IM:=[(21,dQ),(49,l4)]
def k1 (c:D2):=Dp IM F ab f56 iv 0 .cur Xe iv 1 (c,())
def Wx (c:D2):k1 F c=(au F0 c 4).bind fun a=>(au F0 a.2.1 4).bind fun b=>(iw F0 b.2.1 [0,5,60,100,1000]).bind fun d=>(au F0 d.2.1 3).bind fun e=>some (((a.1.1,b.1.1,d.1.1,e.1.1),()),e.2.1,()):=by kernel_rfl
def oY:Any:=.two ⟨iv,0,.cur,Xe,1,iv,fun x=>k1 F0 x.1⟩
def Ft:aX 56 oY:=Tq IM ⟨ff,wh,trivial⟩ func56 ab (by kernel_rfl)
def bE (a b:Int):=bh aB F ab f58 apJ cX 1 (a,b,())
def aoe (a b:Int):bE F a b=br (decide (a<b)) (some (a,())) (some (b,())):=by kernel_rfl
def iA:Any:=.one ⟨apJ,cX,1,fun x=>bE F0 x.1 x.2.1⟩
def nC:aX 58 iA:=aw aB trivial func58 ab (by kernel_rfl)
def Ch:=[(55,cK)]
def Ci:Nat->Option Hint:=look [(4,{live:=[0,1,5],xl:=[0,1,5],rl:=[4]})]
def tz (s:List Int)(i a:Int):= b2 41 [(0,hM 3 (.int .i64) s),(1,bp i),(5,bp a)]
def pS (s:List Int)(i a:Int):= b2 41 [(0,hM 3 (.int .i64) s),(1,bp i),(5,bp a)]
def Cj (a:St):Option U:=fp Ch F Ci [.r,.r,.r,.l,.b,.i] f182 J n a
def tB:=gU Ch F Ci [.r,.r,.r,.l,.b] f182 iT 2
def IN (s:List Int)(i a:Int):Cj F J (n+1) (tz s i a)=br (decide (a<(s.length:Int))) (ck (bN a (s.length:Int)) (br (decide ((ay s a 0)<i)) (Cj F J n (tz s i (ai (a+1)))) (J (.exit 0) (pS s i a)))) (J (.exit 0) (pS s i a)):=by kernel_rfl
def abe (s:List Int)(i a:Int):tB F (.exit 0) (pS s i a)=ck (QN 0 a (s.length:Int)) (ck (ee F 0 ((s.take a.toNat).drop (0:Int).toNat).length 8) (ck (ee F ([]++((s.take a.toNat).drop (0:Int).toNat)).length [i].length 8) (ck (QN a (s.length:Int) (s.length:Int)) (ck (ee F (([]++((s.take a.toNat).drop (0:Int).toNat))++[i]).length ((s.take (s.length:Int).toNat).drop a.toNat).length 8) (some ((([]++((s.take a.toNat).drop (0:Int).toNat))++[i])++((s.take (s.length:Int).toNat).drop a.toNat),())))))):=by kernel_rfl
def vv (s:List Int)(i:Int):=bh Ch F Ci f182 ahG iT 2 (s,i,())
def akT (s:List Int)(i:Int):vv F s i=(cQ F0 s i).bind fun a=>br a.1 (ck (ee F 0 s.length 8) (some ([]++s,()))) (Cj F (tB F) F.n (tz s i 0)):=by kernel_rfl
def EK:Any:=.one ⟨ahG,iT,2,fun x=>vv F0 x.1 x.2.1⟩
def TV:aX 182 EK:=aw Ch ⟨dA,trivial⟩ func182 Ci (by kernel_rfl)
end
end Go.Am.Tryz
namespace Go.Am.Tryz
open Go.Am Go.Proofs Go.Proofs.Tryz
noncomputable section
variable {U:Type} (F:nT) (J:Ex->St->Option U) (n:Nat)
def kt:=[(21,dQ),(50,mK),(58,iA),(179,EJ),(181,sg),(182,EK)]
def ku:Nat->Option Hint:=look [(11,{live:=[3,4,5,6,7,9],vW:=[(4,5,3,.int .i64),(4,8,3,.int .i64),(4,11,3,.int .i64)],xl:=[4,5,6,7],rl:=[4]})]
def cq (r:Int)(name:ByteArray)(i:Int)(a:List Int)(b c w d:Int)(e:List Int)(f:List a6)(g:List bZ)(h:List bT)(s t:Int)(u:ByteArray)(v:Int)(x:ByteArray)(y:Int)(z:ByteArray)(A:Int)(B:ByteArray)(C j k l m:Int)(D o p q:List Int):St:={nt:=89,tm:=[b0 3,b0 4,(5,bp r),(6,W8 name),(7,.v (.c (.own 1000000 none))),(9,bp i)],bx:=[(4000000,[.ro true 5 (.int .u8) a,an b,an c]),(3,[an w,an d,.ro false 3 (.int .i64) e,.ro false 50 (bD) f,.ro false 102 (eH) g,.ro false 95 (c8) h]),(4,[an s,an t,.str u,an v,.str x,.own 1000001 none,an y,.str z,.own 1000002 none,an A,.str B,.own 1000003 none,an C,an j,an k,an l,an m])],bl:=[ax 1000000 3 (.int .i64) D,ax 1000001 3 (.int .i64) o,ax 1000002 3 (.int .i64) p,ax 1000003 3 (.int .i64) q],sp:=.v (.c (.ptr 4000000 0))}
def w5 (k:Int)(name:ByteArray)(a:List Int)(b c l m:Int)(o:ByteArray)(p:Int)(q:ByteArray)(r:Int)(s:ByteArray)(t:Int)(u:ByteArray)(v d e f g:Int)(w h i j:List Int):St:={nt:=89,tm:=[b0 4,(5,bp k),(6,W8 name),(7,.v (.c (.own 1000000 none)))],bx:=[(4000000,[.ro true 5 (.int .u8) a,an b,an c]),(4,[an l,an m,.str o,an p,.str q,.own 1000001 none,an r,.str s,.own 1000002 none,an t,.str u,.own 1000003 none,an v,an d,an e,an f,an g])],bl:=[ax 1000000 3 (.int .i64) w,ax 1000001 3 (.int .i64) h,ax 1000002 3 (.int .i64) i,ax 1000003 3 (.int .i64) j],sp:=.v (.c (.ptr 4000000 0))}
def cJ (a:St):Option U:=fp kt F ku [.r,.r,.r,.r,.r,.l,.r,.b,.i] f110 J n a
def ef:=atV kt F ku [.r,.r,.r,.r,.r,.l,.r,.b] f110 .cur vt iv 2
def sj (b:Int)(name:ByteArray)(i:Int)(c:List Int)(d e w A:Int)(B:List Int)(C:List a6)(D:List bZ)(a:List bT)(o p:Int)(q:ByteArray)(r:Int)(s:ByteArray)(t:Int)(u:ByteArray)(v:Int)(x:ByteArray)(y f g h j:Int)(z k l m:List Int):cJ F J (n+1) (cq b name i c d e w A B C D a o p q r s t u v x y f g h j z k l m)=br (decide (i<(a.length:Int))) (ck (bN i (a.length:Int)) (br ((ay a i c8.aq).1==b) (ck (bN i (a.length:Int)) (br ((ay a i c8.aq).2.1.toList==name.toList) (ck (bN i (a.length:Int)) ((vv F0 z (ay a i c8.aq).2.2).bind fun E=>cJ F J n (cq b name (ai (i+1)) c d e w A B C D a o p q r s t u v x y f g h j E.1 k l m))) (cJ F J n (cq b name (ai (i+1)) c d e w A B C D a o p q r s t u v x y f g h j z k l m)))) (cJ F J n (cq b name (ai (i+1)) c d e w A B C D a o p q r s t u v x y f g h j z k l m)))) (J (.exit 0) (w5 b name c d e o p q r s t u v x y f g h j z k l m)):=by kernel_rfl
def NU (d:Int)(name:ByteArray)(a:List Int)(b c m o:Int)(p:ByteArray)(q:Int)(r:ByteArray)(s:Int)(t:ByteArray)(u:Int)(v:ByteArray)(w f g h i:Int)(e j k l:List Int):ef F (.exit 0) (w5 d name a b c m o p q r s t u v w f g h i e j k l)=some (((2,0,(aj,0,aj,[]),(d,name,e),(0,aj,[]),0,0,0,0,0),()),(a,b,c),()):=by kernel_rfl
abbrev apN:List (Ty×Bool):=[(K2,true),(gp,true)]
def n6 (c:D2)(w:nx):=Dp kt F ku f110 apN 0 .cur vt iv 2 (c,w,())
def TW (c:D2)(w:nx):n6 F c w=(au F0 c 4).bind fun d=>(jH F0 aj (ai (1+d.1.1)) []).bind fun e=>ck (ee F 0 w.2.1.length 8) (br (decide ((w.2.2.2.2.length:Int)>0)) ((bE F0 (w.2.2.2.2.length:Int) 8).bind fun f=>(au F0 d.2.1 f.1).bind fun a=>ck (bN (ai ((ai ((w.2.2.2.2.length:Int)-1))-a.1.1)) (w.2.2.2.2.length:Int)) ((lU F0 a.2.1 3).bind fun b=>br b.1.1 ((kL F0 (ay w.2.2.2.2 (ai ((ai ((w.2.2.2.2.length:Int)-1))-a.1.1)) c8.aq).2.1).bind fun g=>(jH F0 g.1 (ay w.2.2.2.2 (ai ((ai ((w.2.2.2.2.length:Int)-1))-a.1.1)) c8.aq).1 [(1,0,1,0)]).bind fun h=>cJ F (ef F) F.n (cq (ay w.2.2.2.2 (ai ((ai ((w.2.2.2.2.length:Int)-1))-a.1.1)) c8.aq).1 h.1 0 b.2.1.1 b.2.1.2.1 b.2.1.2.2 w.1.1 w.1.2 w.2.1 w.2.2.1 w.2.2.2.1 w.2.2.2.2 0 0 aj 0 aj 0 aj 0 aj 0 0 0 0 0 ([]++w.2.1) [] [] [])) (cJ F (ef F) F.n (cq (ay w.2.2.2.2 (ai ((ai ((w.2.2.2.2.length:Int)-1))-a.1.1)) c8.aq).1 (ay w.2.2.2.2 (ai ((ai ((w.2.2.2.2.length:Int)-1))-a.1.1)) c8.aq).2.1 0 b.2.1.1 b.2.1.2.1 b.2.1.2.2 w.1.1 w.1.2 w.2.1 w.2.2.1 w.2.2.2.1 w.2.2.2.2 0 0 aj 0 aj 0 aj 0 aj 0 0 0 0 0 ([]++w.2.1) [] [] [])))) (cJ F (ef F) F.n (cq (ai (1+d.1.1)) e.1 0 d.2.1.1 d.2.1.2.1 d.2.1.2.2 w.1.1 w.1.2 w.2.1 w.2.2.1 w.2.2.2.1 w.2.2.2.2 0 0 aj 0 aj 0 aj 0 aj 0 0 0 0 0 ([]++w.2.1) [] [] []))):=by kernel_rfl
def As:Any:=.two ⟨apN,0,.cur,vt,2,iv,fun x=>n6 F0 x.1 x.2.1⟩
def TX:aX 110 As:=Tq kt ⟨ff,wi,nC,TT,Gs,TV,trivial⟩ func110 ku (by kernel_rfl)
def GC: Option (Args fF):=bh aB F ab f112 [] fF 2 (())
def ahH: GC F= some ((0,aj,[]),()):=by kernel_rfl
def NV:Any:=.one ⟨[],fF,2,fun x=>GC F0⟩
def ahI:aX 112 NV:=aw aB trivial func112 ab (by kernel_rfl)
def n7:=[(21,dQ),(50,mK),(56,oY),(58,iA),(102,hS),(108,w4),(110,As),(111,fJ),(112,NV),(113,gC)]
def n8:Nat->Option Hint:=look [(17,{live:=[0,3,4,6,7,8,9],vW:=[(4,5,3,.int .i64),(4,8,3,.int .i64),(4,11,3,.int .i64)],xl:=[0,3,4,6,8],rl:=[4]})]
def bf (cC t k:Int)(a:List Int)(b c w d:Int)(e:List Int)(f:List a6)(g:List bZ)(h:List bT)(u v:Int)(x:ByteArray)(y:Int)(z:ByteArray)(A:Int)(B:ByteArray)(C:Int)(D:ByteArray)(E i j l m q:Int)(o:ByteArray)(G p r s:List Int):St:={nt:=115,tm:=[(0,.v (.c (.ptr 4000000 0))),b0 3,b0 4,b0 6,(7,bp cC),(8,bp t),(9,bp k)],bx:=[(4000000,[.ro true 5 (.int .u8) a,an b,an c]),(3,[an w,an d,.ro false 3 (.int .i64) e,.ro false 50 (bD) f,.ro false 102 (eH) g,.ro false 95 (c8) h]),(4,[an u,an v,.str x,an y,.str z,.own 1000000 none,an A,.str B,.own 1000001 none,an C,.str D,.own 1000002 none,an E,an i,an j,an l,an m]),(6,[an q,.str o,.own 1000003 none])],bl:=[ax 1000000 3 (.int .i64) G,ax 1000001 3 (.int .i64) p,ax 1000002 3 (.int .i64) r,ax 1000003 3 (.int .i64) s],sp:=.v (.c (.ptr 4000000 0))}
def gb (s:Int)(a:List Int)(b c w d:Int)(e:List Int)(f:List a6)(g:List bZ)(h:List bT)(t u:Int)(v:ByteArray)(x:Int)(y:ByteArray)(z:Int)(A:ByteArray)(B:Int)(C:ByteArray)(D i j k l q:Int)(m:ByteArray)(E o p r:List Int):St:={nt:=115,tm:=[(0,.v (.c (.ptr 4000000 0))),b0 3,b0 4,b0 6,(8,bp s)],bx:=[(4000000,[.ro true 5 (.int .u8) a,an b,an c]),(3,[an w,an d,.ro false 3 (.int .i64) e,.ro false 50 (bD) f,.ro false 102 (eH) g,.ro false 95 (c8) h]),(4,[an t,an u,.str v,an x,.str y,.own 1000000 none,an z,.str A,.own 1000001 none,an B,.str C,.own 1000002 none,an D,an i,an j,an k,an l]),(6,[an q,.str m,.own 1000003 none])],bl:=[ax 1000000 3 (.int .i64) E,ax 1000001 3 (.int .i64) o,ax 1000002 3 (.int .i64) p,ax 1000003 3 (.int .i64) r],sp:=.v (.c (.ptr 4000000 0))}
def bF (a:St):Option U:=fp n7 F n8 [.r,.r,.r,.r,.r,.r,.r,.r,.l,.r,.b,.i] f57 J n a
def bg:=atV n7 F n8 [.r,.r,.r,.r,.r,.r,.r,.r,.l,.r,.b] f57 .cur vt iv 2
def w6 (cC a k:Int)(c:List Int)(d e w b:Int)(f:List Int)(g:List a6)(h:List bZ)(i:List bT)(u v:Int)(x:ByteArray)(y:Int)(z:ByteArray)(A:Int)(B:ByteArray)(C:Int)(D:ByteArray)(E j l m o q:Int)(p:ByteArray)(G r s t:List Int):bF F J (n+1) (bf cC a k c d e w b f g h i u v x y z A B C D E j l m o q p G r s t)=br (decide (k<7)) (br (decide (a<60)) ((kY F0 (w,b) a).bind fun H=>br (H.1 != cC) (bF F J n (bf cC (ai (a+1)) (ai (k+1)) c d e w b f g h i u v x y z A B C D E j l m o q p G r s t)) (J (.exit 1) (gb a c d e w b f g h i u v x y z A B C D E j l m o q p G r s t))) (J (.exit 1) (gb a c d e w b f g h i u v x y z A B C D E j l m o q p G r s t))) (J (.exit 1) (gb a c d e w b f g h i u v x y z A B C D E j l m o q p G r s t)):=by kernel_rfl
def SD (h:Int)(a:List Int)(b c w d:Int)(i:List Int)(j:List a6)(k:List bZ)(l:List bT)(v x:Int)(y:ByteArray)(z:Int)(A:ByteArray)(B:Int)(C:ByteArray)(D:Int)(E:ByteArray)(G m o p r q:Int)(e:ByteArray)(H s t f:List Int):bg F (.exit 1) (gb h a b c w d i j k l v x y z A B C D E G m o p r q e H s t f)=(k1 F0 (a,b,c)).bind fun g=>(nB F0 (w,d) (q,e,f) h [g.1.1]).bind fun u=>some (((1,0,u.1,(0,aj,[]),(0,aj,[]),0,0,0,0,0),()),g.2.1,()):=by kernel_rfl
def gD (c:D2)(w:nx):=Dp n7 F n8 f57 apN 0 .cur vt iv 2 (c,w,())
def Zf (c:D2)(w:nx):gD F c w=(n6 F0 c w).bind fun b=>(iX F0 w.1 b.1.1.2.2.2.1).bind fun k=>br (!k.1) ((GC F0).bind fun d=>br (decide ((w.2.2.1.length:Int)>0)) ((lU F0 b.2.1 2).bind fun i=>br i.1.1 ((au F0 i.2.1 (w.2.2.1.length:Int)).bind fun j=>ck (bN j.1.1 (w.2.2.1.length:Int)) ((hQ F0 (ay w.2.2.1 j.1.1 bD.aq).2.2.2.1.2.2.1).bind fun h=>br (decide ((w.2.1.length:Int)>0)) ((au F0 j.2.1 (w.2.1.length:Int)).bind fun f=>ck (bN f.1.1 (w.2.1.length:Int)) ((au F0 f.2.1 4).bind fun a=>br (a.1.1==0) (some ((b.1.1,()),a.2.1,())) (br (a.1.1==1) ((au F0 a.2.1 2).bind fun e=>(bE F0 (ai ((ai (h.1.1+1))+e.1.1)) 60).bind fun g=>some (((3,g.1,(aj,0,aj,[]),(0,aj,[]),h.1,ay w.2.1 f.1.1 0,0,0,0,0),()),e.2.1,())) (bF F (bg F) F.n (bf (ay w.2.1 f.1.1 0) (ai (h.1.1+1)) 0 a.2.1.1 a.2.1.2.1 a.2.1.2.2 w.1.1 w.1.2 w.2.1 w.2.2.1 w.2.2.2.1 w.2.2.2.2 0 0 aj 0 aj 0 aj 0 aj 0 0 0 0 0 h.1.1 h.1.2.1 [] [] [] h.1.2.2))))) ((au F0 j.2.1 4).bind fun a=>br (a.1.1==0) (some ((b.1.1,()),a.2.1,())) (br (a.1.1==1) ((au F0 a.2.1 2).bind fun e=>(bE F0 (ai ((ai (h.1.1+1))+e.1.1)) 60).bind fun g=>some (((3,g.1,(aj,0,aj,[]),(0,aj,[]),h.1,0,0,0,0,0),()),e.2.1,())) (bF F (bg F) F.n (bf 0 (ai (h.1.1+1)) 0 a.2.1.1 a.2.1.2.1 a.2.1.2.2 w.1.1 w.1.2 w.2.1 w.2.2.1 w.2.2.2.1 w.2.2.2.2 0 0 aj 0 aj 0 aj 0 aj 0 0 0 0 0 h.1.1 h.1.2.1 [] [] [] h.1.2.2)))))) (br (decide ((w.2.1.length:Int)>0)) ((au F0 i.2.1 (w.2.1.length:Int)).bind fun f=>ck (bN f.1.1 (w.2.1.length:Int)) ((au F0 f.2.1 4).bind fun a=>br (a.1.1==0) (some ((b.1.1,()),a.2.1,())) (br (a.1.1==1) ((au F0 a.2.1 2).bind fun e=>(bE F0 (ai ((ai (d.1.1+1))+e.1.1)) 60).bind fun g=>some (((3,g.1,(aj,0,aj,[]),(0,aj,[]),d.1,ay w.2.1 f.1.1 0,0,0,0,0),()),e.2.1,())) (bF F (bg F) F.n (bf (ay w.2.1 f.1.1 0) (ai (d.1.1+1)) 0 a.2.1.1 a.2.1.2.1 a.2.1.2.2 w.1.1 w.1.2 w.2.1 w.2.2.1 w.2.2.2.1 w.2.2.2.2 0 0 aj 0 aj 0 aj 0 aj 0 0 0 0 0 d.1.1 d.1.2.1 [] [] [] d.1.2.2))))) ((au F0 i.2.1 4).bind fun a=>br (a.1.1==0) (some ((b.1.1,()),a.2.1,())) (br (a.1.1==1) ((au F0 a.2.1 2).bind fun e=>(bE F0 (ai ((ai (d.1.1+1))+e.1.1)) 60).bind fun g=>some (((3,g.1,(aj,0,aj,[]),(0,aj,[]),d.1,0,0,0,0,0),()),e.2.1,())) (bF F (bg F) F.n (bf 0 (ai (d.1.1+1)) 0 a.2.1.1 a.2.1.2.1 a.2.1.2.2 w.1.1 w.1.2 w.2.1 w.2.2.1 w.2.2.2.1 w.2.2.2.2 0 0 aj 0 aj 0 aj 0 aj 0 0 0 0 0 d.1.1 d.1.2.1 [] [] [] d.1.2.2)))))) (br (decide ((w.2.1.length:Int)>0)) ((au F0 b.2.1 (w.2.1.length:Int)).bind fun f=>ck (bN f.1.1 (w.2.1.length:Int)) ((au F0 f.2.1 4).bind fun a=>br (a.1.1==0) (some ((b.1.1,()),a.2.1,())) (br (a.1.1==1) ((au F0 a.2.1 2).bind fun e=>(bE F0 (ai ((ai (d.1.1+1))+e.1.1)) 60).bind fun g=>some (((3,g.1,(aj,0,aj,[]),(0,aj,[]),d.1,ay w.2.1 f.1.1 0,0,0,0,0),()),e.2.1,())) (bF F (bg F) F.n (bf (ay w.2.1 f.1.1 0) (ai (d.1.1+1)) 0 a.2.1.1 a.2.1.2.1 a.2.1.2.2 w.1.1 w.1.2 w.2.1 w.2.2.1 w.2.2.2.1 w.2.2.2.2 0 0 aj 0 aj 0 aj 0 aj 0 0 0 0 0 d.1.1 d.1.2.1 [] [] [] d.1.2.2))))) ((au F0 b.2.1 4).bind fun a=>br (a.1.1==0) (some ((b.1.1,()),a.2.1,())) (br (a.1.1==1) ((au F0 a.2.1 2).bind fun e=>(bE F0 (ai ((ai (d.1.1+1))+e.1.1)) 60).bind fun g=>some (((3,g.1,(aj,0,aj,[]),(0,aj,[]),d.1,0,0,0,0,0),()),e.2.1,())) (bF F (bg F) F.n (bf 0 (ai (d.1.1+1)) 0 a.2.1.1 a.2.1.2.1 a.2.1.2.2 w.1.1 w.1.2 w.2.1 w.2.2.1 w.2.2.2.1 w.2.2.2.2 0 0 aj 0 aj 0 aj 0 aj 0 0 0 0 0 d.1.1 d.1.2.1 [] [] [] d.1.2.2)))))) (br (decide ((w.2.1.length:Int)>0)) ((au F0 b.2.1 (w.2.1.length:Int)).bind fun f=>ck (bN f.1.1 (w.2.1.length:Int)) ((au F0 f.2.1 4).bind fun a=>br (a.1.1==0) (some ((b.1.1,()),a.2.1,())) (br (a.1.1==1) ((au F0 a.2.1 2).bind fun e=>(bE F0 (ai ((ai (b.1.1.2.2.2.1.1+1))+e.1.1)) 60).bind fun g=>some (((3,g.1,(aj,0,aj,[]),(0,aj,[]),b.1.1.2.2.2.1,ay w.2.1 f.1.1 0,0,0,0,0),()),e.2.1,())) (bF F (bg F) F.n (bf (ay w.2.1 f.1.1 0) (ai (b.1.1.2.2.2.1.1+1)) 0 a.2.1.1 a.2.1.2.1 a.2.1.2.2 w.1.1 w.1.2 w.2.1 w.2.2.1 w.2.2.2.1 w.2.2.2.2 0 0 aj 0 aj 0 aj 0 aj 0 0 0 0 0 b.1.1.2.2.2.1.1 b.1.1.2.2.2.1.2.1 [] [] [] b.1.1.2.2.2.1.2.2))))) ((au F0 b.2.1 4).bind fun a=>br (a.1.1==0) (some ((b.1.1,()),a.2.1,())) (br (a.1.1==1) ((au F0 a.2.1 2).bind fun e=>(bE F0 (ai ((ai (b.1.1.2.2.2.1.1+1))+e.1.1)) 60).bind fun g=>some (((3,g.1,(aj,0,aj,[]),(0,aj,[]),b.1.1.2.2.2.1,0,0,0,0,0),()),e.2.1,())) (bF F (bg F) F.n (bf 0 (ai (b.1.1.2.2.2.1.1+1)) 0 a.2.1.1 a.2.1.2.1 a.2.1.2.2 w.1.1 w.1.2 w.2.1 w.2.2.1 w.2.2.2.1 w.2.2.2.2 0 0 aj 0 aj 0 aj 0 aj 0 0 0 0 0 b.1.1.2.2.2.1.1 b.1.1.2.2.2.1.2.1 [] [] [] b.1.1.2.2.2.1.2.2))))):=by kernel_rfl
def Fu:Any:=.two ⟨apN,0,.cur,vt,2,iv,fun x=>gD F0 x.1 x.2.1⟩
def Zg:aX 57 Fu:=Tq n7 ⟨ff,wi,Ft,nC,l9,NS,TX,jC,ahI,kT,trivial⟩ func57 n8 (by kernel_rfl)
def fu:=[(21,dQ),(49,l4),(50,mK),(53,fY),(54,PT),(55,cK),(56,oY),(57,Fu),(58,iA)]
def fv:Nat->Option Hint:=look [(8,{live:=[3,4,5,6,7],vW:=[(4,8,3,.int .i64),(4,11,3,.int .i64),(4,14,3,.int .i64)],xl:=[4,6],rl:=[4]}),(19,{live:=[0,3,4,5,6,10],vW:=[(4,8,3,.int .i64),(4,11,3,.int .i64),(4,14,3,.int .i64)],xl:=[0,3,4,6],rl:=[4]})]
def cR (b a k:Int)(c:List Int)(d e w f:Int)(g:List Int)(h:List a6)(i:List bZ)(j:List bT)(v x y z A:Int)(B:ByteArray)(C:Int)(D:ByteArray)(E:Int)(G:ByteArray)(l:Int)(m:ByteArray)(o p q r s:Int)(H t u:List Int):St:={nt:=152,tm:=[(0,.v (.c (.ptr 4000000 0))),b0 3,b0 4,(5,bp b),(6,bp a),(10,bp k)],bx:=[(4000000,[.ro true 5 (.int .u8) c,an d,an e]),(3,[an w,an f,.ro false 3 (.int .i64) g,.ro false 50 (bD) h,.ro false 102 (eH) i,.ro false 95 (c8) j]),(4,[an v,an x,an y,an z,an A,.str B,an C,.str D,.own 1000000 none,an E,.str G,.own 1000001 none,an l,.str m,.own 1000002 none,an o,an p,an q,an r,an s])],bl:=[ax 1000000 3 (.int .i64) H,ax 1000001 3 (.int .i64) t,ax 1000002 3 (.int .i64) u],sp:=.v (.c (.ptr 4000000 0))}
def DA (a:List Int)(b c k l m o p:Int)(q:ByteArray)(r:Int)(s:ByteArray)(t:Int)(u:ByteArray)(d:Int)(e:ByteArray)(f g h i j:Int):St:={nt:=152,tm:=[b0 4],bx:=[(4000000,[.ro true 5 (.int .u8) a,an b,an c]),(4,[an k,an l,an m,an o,an p,.str q,an r,.str s,.nil,an t,.str u,.nil,an d,.str e,.nil,an f,an g,an h,an i,an j])],bl:=[],sp:=.v (.c (.ptr 4000000 0))}
def Au (a:Int)(b:List Int)(c d w e:Int)(f:List Int)(g:List a6)(h:List bZ)(i:List bT)(t u v x y:Int)(z:ByteArray)(A:Int)(B:ByteArray)(C:Int)(D:ByteArray)(j:Int)(k:ByteArray)(l m o p q:Int)(E r s:List Int):St:={nt:=152,tm:=[(0,.v (.c (.ptr 4000000 0))),b0 3,b0 4,(6,bp a)],bx:=[(4000000,[.ro true 5 (.int .u8) b,an c,an d]),(3,[an w,an e,.ro false 3 (.int .i64) f,.ro false 50 (bD) g,.ro false 102 (eH) h,.ro false 95 (c8) i]),(4,[an t,an u,an v,an x,an y,.str z,an A,.str B,.own 1000000 none,an C,.str D,.own 1000001 none,an j,.str k,.own 1000002 none,an l,an m,an o,an p,an q])],bl:=[ax 1000000 3 (.int .i64) E,ax 1000001 3 (.int .i64) r,ax 1000002 3 (.int .i64) s],sp:=.v (.c (.ptr 4000000 0))}
def dB (a:St):Option U:=fp fu F fv [.r,.r,.r,.l,.r,.b,.r,.e,.r,.t,.r,.b,.i] f23 J n a
def cS:=atV fu F fv [.r,.r,.r,.l,.r,.b,.r,.e,.r,.t,.r,.b] f23 .cur [(K45,true)] iv 2
def cT (b a k:Int)(c:List Int)(d e w f:Int)(g:List Int)(h:List a6)(i:List bZ)(j:List bT)(v x y z A:Int)(B:ByteArray)(C:Int)(D:ByteArray)(E:Int)(G:ByteArray)(l:Int)(m:ByteArray)(o p q r s:Int)(H t u:List Int):St:={nt:=152,tm:=[b0 3,b0 4,(5,bp b),(6,bp a),(7,bp k)],bx:=[(4000000,[.ro true 5 (.int .u8) c,an d,an e]),(3,[an w,an f,.ro false 3 (.int .i64) g,.ro false 50 (bD) h,.ro false 102 (eH) i,.ro false 95 (c8) j]),(4,[an v,an x,an y,an z,an A,.str B,an C,.str D,.own 1000000 none,an E,.str G,.own 1000001 none,an l,.str m,.own 1000002 none,an o,an p,an q,an r,an s])],bl:=[ax 1000000 3 (.int .i64) H,ax 1000001 3 (.int .i64) t,ax 1000002 3 (.int .i64) u],sp:=.v (.c (.ptr 4000000 0))}
def DB (a:List Int)(b c k l m o p:Int)(q:ByteArray)(r:Int)(s:ByteArray)(t:Int)(u:ByteArray)(d:Int)(e:ByteArray)(f g h i j:Int):St:={nt:=152,tm:=[b0 4],bx:=[(4000000,[.ro true 5 (.int .u8) a,an b,an c]),(4,[an k,an l,an m,an o,an p,.str q,an r,.str s,.nil,an t,.str u,.nil,an d,.str e,.nil,an f,an g,an h,an i,an j])],bl:=[],sp:=.v (.c (.ptr 4000000 0))}
def Av (a:Int)(b:List Int)(c d o p q r s:Int)(t:ByteArray)(u:Int)(v:ByteArray)(w:Int)(x:ByteArray)(e:Int)(f:ByteArray)(g h i j k:Int)(y l m:List Int):St:={nt:=152,tm:=[b0 4,(6,bp a)],bx:=[(4000000,[.ro true 5 (.int .u8) b,an c,an d]),(4,[an o,an p,an q,an r,an s,.str t,an u,.str v,.own 1000000 none,an w,.str x,.own 1000001 none,an e,.str f,.own 1000002 none,an g,an h,an i,an j,an k])],bl:=[ax 1000000 3 (.int .i64) y,ax 1000001 3 (.int .i64) l,ax 1000002 3 (.int .i64) m],sp:=.v (.c (.ptr 4000000 0))}
def dC (a:St):Option U:=fp fu F fv [.r,.r,.r,.l,.r,.b,.r,.t,.l,.r,.b,.i] f23 J n a
def dD:=atV fu F fv [.r,.r,.r,.l,.r,.b,.r,.t,.l,.r,.b] f23 .cur [(K45,true)] iv 2
def vw (b a k:Int)(d:List Int)(e f w g:Int)(h:List Int)(c:List a6)(i:List bZ)(j:List bT)(v x y z A:Int)(B:ByteArray)(C:Int)(D:ByteArray)(E:Int)(G:ByteArray)(l:Int)(m:ByteArray)(o p q r s:Int)(H t u:List Int):dB F J (n+1) (cR b a k d e f w g h c i j v x y z A B C D E G l m o p q r s H t u)=br (decide (k<b)) (ck (!(b==0)) (ck (bN (Int.tmod (ai (a+k)) b) (c.length:Int)) (br (decide (((ay c (Int.tmod (ai (a+k)) b) bD.aq).2.2.2.2.2.2.2.length:Int)>0)) (ck (!(b==0)) (J .ret (DA d e f 2 (Int.tmod (ai (a+k)) b) 0 0 0 aj 0 aj 0 aj 0 aj 0 0 0 0 0))) (dB F J n (cR b a (ai (k+1)) d e f w g h c i j v x y z A B C D E G l m o p q r s H t u))))) (J (.exit 3) (Au a d e f w g h c i j v x y z A B C D E G l m o p q r s H t u)):=by kernel_rfl
def vx (b a k:Int)(c:List Int)(d e w g:Int)(h:List Int)(f:List a6)(G:List bZ)(H:List bT)(t u v x y:Int)(z:ByteArray)(A:Int)(B:ByteArray)(C:Int)(D:ByteArray)(i:Int)(j:ByteArray)(l m o p q:Int)(E r s:List Int):dC F J (n+1) (cT b a k c d e w g h f G H t u v x y z A B C D i j l m o p q E r s)=br (decide (k<b)) (ck (!(b==0)) (ck (bN (Int.tmod (ai (a+k)) b) (f.length:Int)) ((TU F0 (w,g) (ay f (Int.tmod (ai (a+k)) b) bD.aq)).bind fun I=>br I.2.1 (ck (!(b==0)) ((cQ F0 h (Int.tmod (ai (a+k)) b)).bind fun K=>br (!K.1) (ck (!(b==0)) (J .ret (DB c d e 1 (Int.tmod (ai (a+k)) b) 0 0 0 aj 0 aj 0 aj 0 aj 0 0 0 0 0))) (dC F J n (cT b a (ai (k+1)) c d e w g h f G H t u v x y z A B C D i j l m o p q E r s)))) (dC F J n (cT b a (ai (k+1)) c d e w g h f G H t u v x y z A B C D i j l m o p q E r s))))) (J (.exit 1) (Av a c d e t u v x y z A B C D i j l m o p q E r s)):=by kernel_rfl
def SE (a:List Int)(b c k l m o p:Int)(q:ByteArray)(r:Int)(s:ByteArray)(t:Int)(u:ByteArray)(d:Int)(e:ByteArray)(f g h i j:Int):cS F .ret (DA a b c k l m o p q r s t u d e f g h i j)=some (((k,l,m,o,p,(q,r,s,[]),(t,u,[]),(d,e,[]),f,g,h,i,j),()),(a,b,c),()):=by kernel_rfl
def PU (a:Int)(b:List Int)(c d w g:Int)(h:List Int)(i:List a6)(e:List bZ)(j:List bT)(v x y z A:Int)(B:ByteArray)(C:Int)(D:ByteArray)(E:Int)(G:ByteArray)(k:Int)(l:ByteArray)(m o p q r:Int)(H s t:List Int):cS F (.exit 3) (Au a b c d w g h i e j v x y z A B C D E G k l m o p q r H s t)=br ((e.length:Int)==0) (some (((2,a,0,0,0,(aj,0,aj,[]),(0,aj,[]),(0,aj,[]),0,0,0,0,0),()),(b,c,d),())) ((bE F0 (e.length:Int) 4).bind fun u=>(au F0 (b,c,d) u.1).bind fun f=>some (((3,f.1.1,0,0,0,(aj,0,aj,[]),(0,aj,[]),(0,aj,[]),0,0,0,0,0),()),f.2.1,())):=by kernel_rfl
def SF (a:List Int)(b c k l m o p:Int)(q:ByteArray)(r:Int)(s:ByteArray)(t:Int)(u:ByteArray)(d:Int)(e:ByteArray)(f g h i j:Int):dD F .ret (DB a b c k l m o p q r s t u d e f g h i j)=some (((k,l,m,o,p,(q,r,s,[]),(t,u,[]),(d,e,[]),f,g,h,i,j),()),(a,b,c),()):=by kernel_rfl
def PV (a:Int)(b:List Int)(c d o p q r s:Int)(t:ByteArray)(u:Int)(v:ByteArray)(w:Int)(x:ByteArray)(e:Int)(f:ByteArray)(g h i j k:Int)(y l m:List Int):dD F (.exit 1) (Av a b c d o p q r s t u v w x e f g h i j k y l m)=some (((7,a,0,0,0,(aj,0,aj,[]),(0,aj,[]),(0,aj,[]),0,0,0,0,0),()),(b,c,d),()):=by kernel_rfl
def pT (c:D2)(w:nx):=Dp fu F fv f23 apN 0 .cur [(K45,true)] iv 2 (c,w,())
def Wy (c:D2)(w:nx):pT F c w=(dz F0 (w.2.2.1.length:Int) 1).bind fun l=>(au F0 c l.1).bind fun b=>(au F0 b.2.1 20).bind fun a=>br (a.1.1==0) (dC F (dD F) F.n (cT (w.2.2.1.length:Int) b.1.1 0 a.2.1.1 a.2.1.2.1 a.2.1.2.2 w.1.1 w.1.2 w.2.1 w.2.2.1 w.2.2.2.1 w.2.2.2.2 0 0 0 0 0 aj 0 aj 0 aj 0 aj 0 0 0 0 0 [] [] [])) (br (a.1.1==1) (dC F (dD F) F.n (cT (w.2.2.1.length:Int) b.1.1 0 a.2.1.1 a.2.1.2.1 a.2.1.2.2 w.1.1 w.1.2 w.2.1 w.2.2.1 w.2.2.2.1 w.2.2.2.2 0 0 0 0 0 aj 0 aj 0 aj 0 aj 0 0 0 0 0 [] [] [])) (br (a.1.1==2) (dC F (dD F) F.n (cT (w.2.2.1.length:Int) b.1.1 0 a.2.1.1 a.2.1.2.1 a.2.1.2.2 w.1.1 w.1.2 w.2.1 w.2.2.1 w.2.2.2.1 w.2.2.2.2 0 0 0 0 0 aj 0 aj 0 aj 0 aj 0 0 0 0 0 [] [] [])) (br (a.1.1==3) (dB F (cS F) F.n (cR (w.2.2.1.length:Int) b.1.1 0 a.2.1.1 a.2.1.2.1 a.2.1.2.2 w.1.1 w.1.2 w.2.1 w.2.2.1 w.2.2.2.1 w.2.2.2.2 0 0 0 0 0 aj 0 aj 0 aj 0 aj 0 0 0 0 0 [] [] [])) (br (a.1.1==4) (dB F (cS F) F.n (cR (w.2.2.1.length:Int) b.1.1 0 a.2.1.1 a.2.1.2.1 a.2.1.2.2 w.1.1 w.1.2 w.2.1 w.2.2.1 w.2.2.2.1 w.2.2.2.2 0 0 0 0 0 aj 0 aj 0 aj 0 aj 0 0 0 0 0 [] [] [])) (br (a.1.1==5) (dB F (cS F) F.n (cR (w.2.2.1.length:Int) b.1.1 0 a.2.1.1 a.2.1.2.1 a.2.1.2.2 w.1.1 w.1.2 w.2.1 w.2.2.1 w.2.2.2.1 w.2.2.2.2 0 0 0 0 0 aj 0 aj 0 aj 0 aj 0 0 0 0 0 [] [] [])) (br (a.1.1==6) (dB F (cS F) F.n (cR (w.2.2.1.length:Int) b.1.1 0 a.2.1.1 a.2.1.2.1 a.2.1.2.2 w.1.1 w.1.2 w.2.1 w.2.2.1 w.2.2.2.1 w.2.2.2.2 0 0 0 0 0 aj 0 aj 0 aj 0 aj 0 0 0 0 0 [] [] [])) (br (a.1.1==7) (some (((6,b.1.1,0,0,0,(aj,0,aj,[]),(0,aj,[]),(0,aj,[]),0,0,0,0,0),()),a.2.1,())) (br (a.1.1==8) (some (((7,b.1.1,0,0,0,(aj,0,aj,[]),(0,aj,[]),(0,aj,[]),0,0,0,0,0),()),a.2.1,())) (br (a.1.1==9) ((lU F0 a.2.1 2).bind fun g=>br g.1.1 ((iw F0 g.2.1 [0,0,5,40,9999]).bind fun h=>some (((8,b.1.1,h.1.1,0,0,(aj,0,aj,[]),(0,aj,[]),(0,aj,[]),0,0,0,0,0),()),h.2.1,())) ((au F0 g.2.1 2).bind fun i=>(dz F0 (w.2.2.2.1.length:Int) 1).bind fun m=>(au F0 i.2.1 m.1).bind fun j=>some (((ai (4+i.1.1),j.1.1,0,0,0,(aj,0,aj,[]),(0,aj,[]),(0,aj,[]),0,0,0,0,0),()),j.2.1,()))) (br (a.1.1==10) ((k1 F0 a.2.1).bind fun k=>some (((9,b.1.1,0,4,0,(aj,0,aj,[]),(0,aj,[]),(0,aj,[]),0,k.1.1),()),k.2.1,())) (br (a.1.1==11) (br (decide ((w.2.1.length:Int)>0)) ((gD F0 a.2.1 w).bind fun e=>some (((10,b.1.1,0,e.1.1),()),e.2.1,())) (br ((w.2.2.2.1.length:Int)==0) (some (((2,b.1.1,0,0,0,(aj,0,aj,[]),(0,aj,[]),(0,aj,[]),0,0,0,0,0),()),a.2.1,())) ((bE F0 (w.2.2.2.1.length:Int) 4).bind fun f=>(au F0 a.2.1 f.1).bind fun d=>some (((3,d.1.1,0,0,0,(aj,0,aj,[]),(0,aj,[]),(0,aj,[]),0,0,0,0,0),()),d.2.1,())))) (br (a.1.1==12) (br (decide ((w.2.1.length:Int)>0)) ((gD F0 a.2.1 w).bind fun e=>some (((10,b.1.1,0,e.1.1),()),e.2.1,())) (br ((w.2.2.2.1.length:Int)==0) (some (((2,b.1.1,0,0,0,(aj,0,aj,[]),(0,aj,[]),(0,aj,[]),0,0,0,0,0),()),a.2.1,())) ((bE F0 (w.2.2.2.1.length:Int) 4).bind fun f=>(au F0 a.2.1 f.1).bind fun d=>some (((3,d.1.1,0,0,0,(aj,0,aj,[]),(0,aj,[]),(0,aj,[]),0,0,0,0,0),()),d.2.1,())))) (br (a.1.1==13) (br (decide ((w.2.1.length:Int)>0)) ((gD F0 a.2.1 w).bind fun e=>some (((10,b.1.1,0,e.1.1),()),e.2.1,())) (br ((w.2.2.2.1.length:Int)==0) (some (((2,b.1.1,0,0,0,(aj,0,aj,[]),(0,aj,[]),(0,aj,[]),0,0,0,0,0),()),a.2.1,())) ((bE F0 (w.2.2.2.1.length:Int) 4).bind fun f=>(au F0 a.2.1 f.1).bind fun d=>some (((3,d.1.1,0,0,0,(aj,0,aj,[]),(0,aj,[]),(0,aj,[]),0,0,0,0,0),()),d.2.1,())))) (br ((w.2.2.2.1.length:Int)==0) (some (((2,b.1.1,0,0,0,(aj,0,aj,[]),(0,aj,[]),(0,aj,[]),0,0,0,0,0),()),a.2.1,())) ((bE F0 (w.2.2.2.1.length:Int) 4).bind fun f=>(au F0 a.2.1 f.1).bind fun d=>some (((3,d.1.1,0,0,0,(aj,0,aj,[]),(0,aj,[]),(0,aj,[]),0,0,0,0,0),()),d.2.1,())))))))))))))))):=by kernel_rfl
def DC:Any:=.two ⟨apN,0,.cur,[(K45,true)],2,iv,fun x=>pT F0 x.1 x.2.1⟩
def Wz:aX 23 DC:=Tq fu ⟨ff,wh,wi,j7,agb,dA,Ft,Zg,nC,trivial⟩ func23 fv (by kernel_rfl)
def TY:=[(113,gC)]
def GD (a b:D9):=bh TY F ab f315 vq fF 2 (a,b,())
def ahJ (a b:D9):GD F a b=br (decide (a.1>b.1)) ((hQ F0 a).bind fun c=>some (c.1,())) ((hQ F0 b).bind fun d=>some (d.1,())):=by kernel_rfl
def NW:Any:=.one ⟨vq,fF,2,fun x=>GD F0 x.1 x.2.1⟩
def ahK:aX 315 NW:=aw TY ⟨kT,trivial⟩ func315 ab (by kernel_rfl)
def TZ:=[(131,oP),(181,sg)]
abbrev ayy:List (Ty×Bool):=[(.str,false),(.bool,false)]
def GF (name:ByteArray):=bh TZ F ab f316 dt ayy 1 (name,())
def ahL (name:ByteArray):GF F name=(oO F0 name).bind fun a=>br (!a.2.1) (some (aj,false,())) (br (decide ((a.1.length:Int)<3)) (some (aj,false,())) (ck (bN (ai ((a.1.length:Int)-1)) (a.1.length:Int)) (ck (bN (ai ((a.1.length:Int)-2)) (a.1.length:Int)) (br ((ay a.1 (ai ((a.1.length:Int)-1)) (0,[])).1 != (ai ((ay a.1 (ai ((a.1.length:Int)-2)) (0,[])).1+1))) (some (aj,false,())) (ck (bN (ai ((a.1.length:Int)-2)) (a.1.length:Int)) (ck (bN (ai ((a.1.length:Int)-3)) (a.1.length:Int)) (br ((ay a.1 (ai ((a.1.length:Int)-2)) (0,[])).1 != (ai ((ay a.1 (ai ((a.1.length:Int)-3)) (0,[])).1+1))) (some (aj,false,())) ((kL F0 name).bind fun b=>(kL F0 b.1).bind fun c=>some (c.1,true,()))))))))):=by kernel_rfl
def NX:Any:=.one ⟨dt,ayy,1,fun x=>GF F0 x.1⟩
def ahM:aX 316 NX:=aw TZ ⟨BX,Gs,trivial⟩ func316 ab (by kernel_rfl)
def T0:=[(68,et)]
abbrev XA:List (Ty×Bool):=[(.str,false),(.str,false)]
def GG (s t:ByteArray):=bh T0 F ab f317 XA aS 1 (s,t,())
def ahN (s t:ByteArray):GG F s t=(eB F0 s).bind fun a=>br (!a.1) (some (false,())) ((eB F0 t).bind fun b=>br (!b.1) (some (false,())) (br (decide ((t.size:Int)>(s.size:Int))) (some (false,())) (ck (QN 0 (t.size:Int) (s.size:Int)) (br (!((s.extract (0:Int).toNat (t.size:Int).toNat).toList==t.toList)) (some (false,())) (br ((s.size:Int)==(t.size:Int)) (some (true,())) (ck (bN (t.size:Int) (s.size:Int)) (some ((iq s (t.size:Int))==47,())))))))):=by kernel_rfl
def NY:Any:=.one ⟨XA,aS,1,fun x=>GG F0 x.1 x.2.1⟩
def ahO:aX 317 NY:=aw T0 ⟨fX,trivial⟩ func317 ab (by kernel_rfl)
def akU:=[(53,fY),(69,da),(98,kU),(111,fJ),(122,gB),(181,sg),(315,NW),(316,NX),(317,NY)]
abbrev ayz:List (Ty×Bool):=[(K1,true),(K12,true),(K9,true)]
def NZ (c:D1)(s:SC)(q:D9):=bh akU F ab f285 ayz Aq 2 (c,s,q,())
def at1 (c:D1)(s:SC)(q:D9):NZ F c s q=(l8 F0 s).bind fun a=>(hO F0 c s).bind fun f=>br (!f.1) (some (a.1,())) ((iX F0 c q).bind fun g=>br (!g.1) (some (a.1,())) ((GD F0 q s.2.2.1).bind fun b=>(kL F0 q.2.1).bind fun h=>(df F0 h.1).bind fun i=>(dz F0 s.2.1 i.1).bind fun d=>(GF F0 q.2.1).bind fun e=>br e.2.1 ((GG F0 e.1 s.2.2.2).bind fun j=>br j.1 (some ((a.1.1,d.1,b.1,e.1),())) (some ((a.1.1,d.1,b.1,a.1.2.2.2),()))) (some ((a.1.1,d.1,b.1,a.1.2.2.2),())))):=by kernel_rfl
def GH:Any:=.one ⟨ayz,Aq,2,fun x=>NZ F0 x.1 x.2.1 x.2.2.1⟩
def T1:aX 285 GH:=aw akU ⟨j7,ej,s6,jC,kJ,Gs,ahK,ahM,ahO,trivial⟩ func285 ab (by kernel_rfl)
def T2:=[(69,da),(122,gB),(180,kM)]
abbrev agc:List (Ty×Bool):=[(K1,true),(K12,true),(K15,true)]
def w7 (c:D1)(s:SC)(b:D15):=bh T2 F ab f286 agc aS 1 (c,s,b,())
def ahP (c:D1)(s:SC)(b:D15):w7 F c s b=(hO F0 c s).bind fun a=>br a.1 ((l6 F0 c b).bind fun d=>br d.1 ((df F0 b.1).bind fun e=>br (decide (e.1>s.1)) (some (decide (b.2.1>=s.2.1),())) (some (false,()))) (some (false,()))) (some (false,())):=by kernel_rfl
def A7:Any:=.one ⟨agc,aS,1,fun x=>w7 F0 x.1 x.2.1 x.2.2.1⟩
def Rg:aX 286 A7:=aw T2 ⟨ej,kJ,sV,trivial⟩ func286 ab (by kernel_rfl)
def agd:=[(69,da),(98,kU),(286,A7)]
abbrev age:List (Ty×Bool):=[(K12,true),(.bool,false)]
def N1 (c:D1)(s:SC)(b:D15):=bh agd F ab f287 agc age 2 (c,s,b,())
def arJ (c:D1)(s:SC)(b:D15):N1 F c s b=(l8 F0 s).bind fun a=>(w7 F0 c s b).bind fun d=>br (!d.1) (some (a.1,false,())) ((df F0 b.1).bind fun e=>some ((e.1,a.1.2),true,())):=by kernel_rfl
def XB:Any:=.one ⟨agc,age,2,fun x=>N1 F0 x.1 x.2.1 x.2.2.1⟩
def arK:aX 287 XB:=aw agd ⟨ej,s6,Rg,trivial⟩ func287 ab (by kernel_rfl)
def Rh:=[(298,sU)]
abbrev ayA:List (Ty×Bool):=[(K12,true),(K12,true)]
def Ck (a b:SC):=bh Rh F ab f318 ayA aS 1 (a,b,())
def adT (a b:SC):Ck F a b=br (a.1==b.1) (br (a.2.1==b.2.1) ((vr F0 a.2.2.1 b.2.2.1).bind fun c=>br c.1 (some (a.2.2.2.toList==b.2.2.2.toList,())) (some (false,()))) (some (false,()))) (some (false,())):=by kernel_rfl
def KG:Any:=.one ⟨ayA,aS,1,fun x=>Ck F0 x.1 x.2.1⟩
def adU:aX 318 KG:=aw Rh ⟨Is,trivial⟩ func318 ab (by kernel_rfl)
def Cl:=[(63,bY)]
def Cm:Nat->Option Hint:=look [(4,{live:=[0,3],xl:=[0,3],rl:=[2]})]
def tC (a:Int)(b:List Int):= di 25 [(0,bp a),(3,.v (.c (.own 1000000 none)))] [] [ax 1000000 5 (.int .u8) b]
def N2 (a:Int)(b:List Int):= di 25 [(0,bp a),(3,.v (.c (.own 1000000 none)))] [] [ax 1000000 5 (.int .u8) b]
def Cn (a:St):Option U:=fp Cl F Cm [.r,.r,.r,.l,.b,.i] f281 J n a
def EL:=gU Cl F Cm [.r,.r,.r,.l,.b] f281 kH 2
def IP (a:Int)(b:List Int):Cn F J (n+1) (tC a b)=br (decide (a>127)) (ck (ee F b.length [IntKind.wrap .u8 (ai ((Int.tmod a 128)+128))].length 1) (Cn F J n (tC (ai (Int.tdiv a 128)) (b++[IntKind.wrap .u8 (ai ((Int.tmod a 128)+128))])))) (J (.exit 0) (N2 a b)):=by kernel_rfl
def KH (a:Int)(b:List Int):EL F (.exit 0) (N2 a b)=ck (ee F b.length [IntKind.wrap .u8 (a)].length 1) (some (b++[IntKind.wrap .u8 (a)],())):=by kernel_rfl
def dX (a:Int):=bh Cl F Cm f281 cX kH 2 (a,())
def akV (a:Int):dX F a=(bI F0 a 0 2147483647).bind fun b=>br (!b.1) (some ([],())) (Cn F (EL F) F.n (tC a [])):=by kernel_rfl
def gE:Any:=.one ⟨cX,kH,2,fun x=>dX F0 x.1⟩
def k2:aX 281 gE:=aw Cl ⟨cB,trivial⟩ func281 Cm (by kernel_rfl)
def T3:=[(281,gE)]
def ma (s:ByteArray):=bh T3 F ab f282 dt kH 2 (s,())
def ahQ (s:ByteArray):ma F s=(dX F0 (s.size:Int)).bind fun a=>ck (decide ((s.size:Int)<=F.mem)) (ck (ee F a.1.length (bytesOf s).length 1) (some (a.1++(bytesOf s),()))):=by kernel_rfl
def pU:Any:=.one ⟨dt,kH,2,fun x=>ma F0 x.1⟩
def EM:aX 282 pU:=aw T3 ⟨k2,trivial⟩ func282 ab (by kernel_rfl)
end
end Go.Am.Tryz
