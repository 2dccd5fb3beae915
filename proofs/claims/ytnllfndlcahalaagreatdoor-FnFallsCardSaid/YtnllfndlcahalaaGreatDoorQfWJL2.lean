/- No condition. -/
import Derived.Test.YtnllfndlcahalaaGreatDoorQfWJL1
import Derived.Test.YtnllfndlcahalaaGreatDoorQfAmWf
set_option linter.all false
namespace Go.Am.Tryz
open Go.Am
def aE4 {c:Int×Int}{view s:Int}(b:bq c=true)(d:0<=view)(e:0<=s)(h:s<=c.1-1):bM c view (XY c view s)=s:=by
 have i:=b3 b;have f:=Vn (view%c.1+s) (show c.1≠0 by omega);have j:=amY (view%c.1+s) (show 0<c.1 by omega);unfold XY;rw[ag ⟨b,d,e,h⟩];unfold bM;rw[ag ⟨b,d,f,by omega⟩];obtain⟨n,a⟩:=c;dsimp only at *;have g:n=4\/n=5\/n=6\/n=7:=by omega
 rcases g with rfl|rfl|rfl|rfl<;>omega
def aG2 (c:Int×Int)(view:Int):bM c view (-1)=-1:=by unfold bM;rw[af (fun h=>by omega)]
def awK {c:Int×Int}{view i:Int}(h:0<=bM c view i):bq c=true/\0<=view/\bM c view i<=c.1-1:=by
 unfold bM at h ⊢;by_cases a:bq c=true/\0<=view/\0<=i/\i<=c.1-1
 .rw[ag a];have b:=b3 a.1;have d:=amY (i+c.1-view%c.1) (show 0<c.1 by omega);exact⟨a.1,a.2.1,by omega⟩
 .rw[af a]at h;omega
def aDV {c:Int×Int}{view i:Int}(h:0<=bM c view i):bM c view (Rp c view i)<bM c view i:=by
 have a:=awK h;have d:=b3 a.1;unfold Rp;by_cases b:bM c view i<=0
 .rw[ag b,aG2];omega
 .have hd1:0<=(bM c view i-1)/c.2:=Int.ediv_nonneg (by omega) (by omega);have e:(bM c view i-1)/c.2<=bM c view i-1:=Int.ediv_le_self c.2 (by omega);rw[af b,aE4 a.1 a.2.1 hd1 (by omega)];omega
def EV (c:Int×Int)(view:Int):Nat->Int->List Int
 |0,_=>[]|k+1,i=>if 0<=bM c view i then i::EV c view k (Rp c view i) else []
def afB (c:Int×Int)(view i:Int):List Int:=EV c view 8 i
def aj9 (c:Int×Int)(view:Int):∀(k:Nat) (i:Int),(EV c view k i).length<=k
 |0,_=>bG _|k+1,i=>by
  unfold EV;split
  .have:=aj9 c view k (Rp c view i);rw[aW];omega
  .exact aR _
def atT (c:Int×Int)(view i:Int):(afB c view i).length<=8:=aj9 c view 8 i
def ayQ (c:Int×Int)(view:Int){γ:Type}(J:Ex->St->Option γ):∀(k:Nat) (i:Int) (xs:List Int) (n:Nat),bM c view i<k->xs.length+k<=1000->k<n ->
  R9 F0 J n (ID view i c.1 c.2 xs)=J (.exit 0) (O1 (xs++EV c view k i))
 |0,i,xs,n,a,b,d=>by obtain⟨n,rfl⟩:∃m,n=m+1:=⟨n-1,by omega⟩;rw[TI,show((c.1,c.2):Int×Int)=c from rfl,X0,ai];dsimp only;rw[aQ (show ¬bM c view i>=0 by omega),aa,EV,fh]
 |k+1,i,xs,n,a,b,d=>by
  obtain⟨n,rfl⟩:∃m,n=m+1:=⟨n-1,by omega⟩;rw[TI,show((c.1,c.2):Int×Int)=c from rfl,X0,ai];unfold EV;dsimp only;by_cases h:0<=bM c view i
  .have e:=aDV h;rw[aL (show bM c view i>=0 from h),ae,ag h,ar (by omega) (by omega) (by rw[cS];omega),ab,aG1,ai];dsimp only;rw[ayQ c view J k (Rp c view i) (xs++[i]) n (by omega) (by rw[aK,cS];omega) (by omega),hI];rfl
  .rw[aQ (show ¬bM c view i>=0 from h),aa,af h,fh]
def ayR (c:Int×Int)(view:Int){γ:Type}(J:Ex->St->Option γ):∀(k:Nat) (i:Int) (xs:List Int) (n:Nat),bM c view i<k->xs.length+k<=1000->k<n ->
  Sl F0 J n (I9 view i c.1 c.2 xs)=J (.exit 0) (Pc (xs++EV c view k i))
 |0,i,xs,n,a,b,d=>by obtain⟨n,rfl⟩:∃m,n=m+1:=⟨n-1,by omega⟩;rw[Uv,show((c.1,c.2):Int×Int)=c from rfl,JO,ai];dsimp only;rw[aQ (show ¬bM c view i>=0 by omega),aa,EV,fh]
 |k+1,i,xs,n,a,b,d=>by
  obtain⟨n,rfl⟩:∃m,n=m+1:=⟨n-1,by omega⟩;rw[Uv,show((c.1,c.2):Int×Int)=c from rfl,JO,ai];unfold EV;dsimp only;by_cases h:0<=bM c view i
  .have e:=aDV h;rw[aL (show bM c view i>=0 from h),ae,ag h,ar (by omega) (by omega) (by rw[cS];omega),ab,aDU,ai];dsimp only;rw[ayR c view J k (Rp c view i) (xs++[i]) n (by omega) (by rw[aK,cS];omega) (by omega),hI];rfl
  .rw[aQ (show ¬bM c view i>=0 from h),aa,af h,fh]
def aIN (c:Int×Int)(view i:Int):aep F0 c view i=some (afB c view i,()):=by have a:=YU c view i;rw[ayu,ayQ c view _ 8 i [] _ (by omega) (by rw[bj];omega) (by rw[bB];omega),aoy,BH];rfl
def aG3 (c:Int×Int)(view i:Int):ae4 F0 c view i=some (afB c view i,()):=by have a:=YU c view i;rw[ayy,ayR c view _ 8 i [] _ (by omega) (by rw[bj];omega) (by rw[bB];omega),apv,BH];rfl
def cmn (b a:List Int):Nat:=a.countP fun x=>decide (x∈b)
def ayS (b a:List Int)(x:Int):cmn b (a++[x])=cmn b a+if x∈b then 1 else 0:=by
 unfold cmn;rw[List.countP_append,List.countP_singleton];by_cases h:x∈b
 .simp[h]
 .simp[h]
def aG4 (b a:List Int):cmn b a<=a.length:=List.countP_le_length
def aBs {a b:List Int}(f:a.length<=1048576)(g:b.length<=1048576):M3 F0 a b=some ((cmn b a:Int),()):=by
 rw[aoz];refine cu (fun n i (q:Int)=>DZ F0 (Gy F0) n (vg a b q i)) a.length (fun k q=>q=(cmn b (a.take k):Int)) _ (fun n k q c d=>.inr ⟨(cmn b (a.take (k+1)):Int),?_,rfl⟩) (fun n q d=>?_) _ 0 0 (aR _) rfl (by rw[bB];omega)
 .have e:=aG4 b (a.take k);rw[bz]at e;rw[KQ,aM c,ae,an c,ab,aT c,fC (by omega),ai,ef c,ayS,d,al (by omega)];dsimp only;rw[asb];by_cases h:a[k]∈b
  .rw[aL h,ae,ai,ag h];dsimp only;rw[al (by omega)]
  .rw[aQ h,aa,ai,af h];dsimp only;rw[aI (by omega) (by omega),Int.add_zero];rfl
 .rw[KQ,aE,aa,aer,d,ki]
def ayT {a b:List Int}(f:a.length<=1048576)(g:b.length<=1048576):N1 F0 a b=some ((cmn b a:Int),()):=by
 rw[apw];refine cu (fun n i (q:Int)=>ug F0 (GQ F0) n (oH b q a (a.length:Int) i)) a.length (fun k q=>q=(cmn b (a.take k):Int)) _ (fun n k q c d=>.inr ⟨(cmn b (a.take (k+1)):Int),?_,rfl⟩) (fun n q d=>?_) _ 0 0 (aR _) rfl (by rw[bB];omega)
 .have e:=aG4 b (a.take k);rw[bz]at e;rw[Lv,aM c,ae,an c,ab,aT c,eA (by omega),ai,ef c,ayS,d,al (show k+1<=9223372036854775807 by omega)];dsimp only;by_cases h:a[k]∈b
  .rw[aL h,ae,ag h,al (by omega)]
  .rw[aQ h,aa,af h];rfl
 .rw[Lv,aE,aa,ae6,d,ki]
def Srt (l:List Int):Prop:=l.Pairwise (·< ·)
def ayU {i x:Int}:∀{l:List Int},x∈amu i l↔x=i\/x∈l
 |[]=>by simp[amu]
 |y::l=>by
  unfold amu;split
  .rw[cT]
  .rw[cT,ayU,cT];constructor
   .rintro(h|h|h)
    .exact .inr (.inl h)
    .exact .inl h
    .exact .inr (.inr h)
   .rintro(h|h|h)
    .exact .inr (.inl h)
    .exact .inl h
    .exact .inr (.inr h)
def aG5 {i x:Int}{l:List Int}:x∈Ro l i↔x=i\/x∈l:=by
 unfold Ro;split
 .rename_i h;exact⟨.inr,fun a=>a.elim (fun e=>e▸h) id⟩
 .exact ayU
def L1 {x:Int}:∀(l a:List Int),x∈l.foldl Ro a↔x∈a\/x∈l
 |[],a=>by simp
 |y::l,a=>by
  rw[auU,L1 l,aG5,cT];constructor
  .rintro((h|h)|h)
   .exact .inr (.inl h)
   .exact .inl h
   .exact .inr (.inr h)
  .rintro(h|h|h)
   .exact .inl (.inr h)
   .exact .inl (.inl h)
   .exact .inr h
def aE5 {x:Int}{a b:List Int}:x∈afA a b↔x∈a\/x∈b:=by unfold afA;rw[L1,L1];simp
structure aLW (c:Int×Int) (view:Int) (cw:List Int) (k:Nat) (xs:List (List Int)):Prop where
 len:(xs.length:Int)=c.1
 srt:∀i,0<=i->i<c.1->Srt (aH xs i [])
 mem:∀i x,0<=i->i<c.1->x∈aH xs i []->x∈cw/\0<=x/\x<c.1
 up:∀x,x∈cw->0<=x->x<c.1->(k:Int)<=bM c view x->∃a:Int,0<=a/\a<max k 1/\x∈aH xs (XY c view a) []
abbrev bd:=Int×Int×bZ×ByteArray
abbrev cq:=ByteArray×bZ
abbrev b0:=Int×Int×cq×bZ×bZ×Int×dH
abbrev jB:=Int×b0
abbrev aw:=Int×Int×Int×bd×List dH×List bZ×(List Int×Int)×List jB
abbrev gw:=Int×List Int
abbrev cJ:=Int×ByteArray×Int
abbrev ah:=(Int×Int)×List Int×List aw×List gw×List cJ
def UO {b:ByteArray}(h:b.size<=1048576):b.data.toList.length<=1073741824:=bX (Nat.le_of_eq (show b.data.toList.length=b.size from rfl)) (by omega)
def JP {b:ByteArray}(h:b.size<=1048576):eZ F0 b=some (bg b.data.toList,()):=Sy (UO h)
def C6 {b:ByteArray}(h:b.size<=1048576):e5 F0 b=some (bg b.data.toList,()):=Oq (UO h)
def o5 {b:ByteArray}(h:b.size<=1048576):du F0 b=some (aD b.data.toList,()):=ap3 (UO h)
def rB {b:ByteArray}(h:b.size<=1048576):er F0 b=some (aD b.data.toList,()):=aj5 (UO h)
def um (q:bZ):Prop:=q.2.1.size<=1048576/\q.2.2.length<=1048576
def eV (c:Int×Int)(q:bZ):Bool:=ZK c (q.1,q.2.1.data.toList,q.2.2)
def SB {q:bZ}(h:um q)(c:Int×Int):ku F0 c q=some (eV c q,()):=ayM (v:=q.1) (l:=q.2.1.data.toList) (s:=q.2.2) (UO h.1) (bX h.2 (by omega)) c
def Rq {q:bZ}(h:um q)(c:Int×Int):mz F0 c q=some (eV c q,()):=atS (v:=q.1) (l:=q.2.1.data.toList) (s:=q.2.2) (UO h.1) (bX h.2 (by omega)) c
def bh (c:Int×Int)(s:bd):Bool:=gp 0 60 s.1&&(gp 0 60 s.2.1&&(eV c s.2.2.1&&bg s.2.2.2.data.toList))
def km (s:bd):Prop:=um s.2.2.1/\s.2.2.2.size<=1048576
def C7 {s:bd}(h:km s)(c:Int×Int):jj F0 c s=some (bh c s,()):=by rw[an0,cQ,ai,cQ,ai,SB h.1,ai,JP h.2,ai];unfold bh;cases gp 0 60 s.1<;>cases gp 0 60 s.2.1<;>cases eV c s.2.2.1<;>rfl
def F1 {s:bd}(h:km s)(c:Int×Int):kY F0 c s=some (bh c s,()):=by rw[apa,bR,ai,bR,ai,Rq h.1,ai,C6 h.2,ai];unfold bh;cases gp 0 60 s.1<;>cases gp 0 60 s.2.1<;>cases eV c s.2.2.1<;>rfl
def aJ {U:Type}{a:List U}{k:Nat}(h:k<a.length)(d:U):a.getD k d=a[k]:=by simp[List.getD,h]
def X1 {U:Type}(d:U)(p:U->Bool)(q:U->U->Bool)(l:List U):Bool:=(List.range l.length).all fun k=>p (l.getD k d)&&(decide (k=0) || q (l.getD (k-1) d) (l.getD k d))
def afC {V:Type}{k:Nat}(a b:Bool)(x y:V)(c:V)(d:0<k->c=br (!b) x y) :
  br (!a) x (br (decide ((k:Int)>0)) c y)=if (a&&(decide (k=0) || b))=true then y else x:=by
 cases a with
 |false=>rfl
 |true =>
  rw[aN,aa,eD];by_cases h:k=0
  .subst h;rfl
  .rw[aL (show(k:Int)>0 by omega),ae,aQ h,JY,d (by omega)];cases b<;>rfl
def nd:dH:=(0,0,0,0)
def fj (a b:dH):Bool:=decide (a.1<b.1) || ((a.1==b.1)&&decide (a.2.2.2<b.2.2.2))
def afD (a b:dH):tO F0 a b=some (fj a b,()):=by rw[agS];unfold fj;cases decide (a.1<b.1)<;>cases (a.1==b.1)<;>rfl
def awL (a b:dH):Em F0 a b=some (fj a b,()):=by rw[ahx];unfold fj;cases decide (a.1<b.1)<;>cases (a.1==b.1)<;>rfl
def ff (p:List dH):Bool:=X1 nd gn fj p&&decide ((p.length:Int)<=12)
def ap7 {p:List dH}(h:p.length<=1048576):Fb F0 p=some (ff p,()):=by
 rw[an1,eM (fun m k=>tP F0 (uA F0) m (oq p k)) p.length (fun k=>gn (p.getD k nd)&&(decide (k=0) || fj (p.getD (k-1) nd) (p.getD k nd))) (some (decide ((p.length:Int)<=12),())) (some (false,())) (fun m k a=>?_) (fun m=>?_) _ (by rw[bB];omega)]
 .unfold ff X1;cases (List.range p.length).all _<;>rfl
 .rw[Kn,aM a,ae,an a,ab,aT a,Rk,ai,aJ a,agT,al (by omega),ab];refine afC _ (fj (p.getD (k-1) nd) p[k]) _ _ _ fun b=>?_
  rw[LZ b (by omega),an (show k-1<p.length by omega),ab,aT (show k-1<p.length by omega),afD,ai,aJ (show k-1<p.length by omega)]
 .rw[Kn,aE,aa,adZ]
def X2 {p:List dH}(h:p.length<=1048576):w9 F0 p=some (ff p,()):=by
 rw[apb,eM (fun m k=>tW F0 (vv F0) m (oB p p (p.length:Int) k)) p.length (fun k=>gn (p.getD k nd)&&(decide (k=0) || fj (p.getD (k-1) nd) (p.getD k nd))) (some (decide ((p.length:Int)<=12),())) (some (false,())) (fun m k a=>?_) (fun m=>?_) _ (by rw[bB];omega)]
 .unfold ff X1;cases (List.range p.length).all _<;>rfl
 .rw[Le,aM a,ae,an a,ab,aT a,C4,ai,aJ a,ahz,al (by omega)];refine afC _ (fj (p.getD (k-1) nd) p[k]) _ _ _ fun b=>?_
  rw[LZ b (by omega),an (show k-1<p.length by omega),ab,aT (show k-1<p.length by omega),awL,ai,aJ (show k-1<p.length by omega)]
 .rw[Le,aE,aa,aeE]
def dj (b:ByteArray):Bool:=b.toList==ak.toList
def iy (c:Int×Int)(p:bZ):Bool :=
 bq c&&(gp 1 60 p.1&&(iH c.1 p.2.2&&(!((p.2.2.length:Int)==0)&&(dj p.2.1 || (bg p.2.1.data.toList&&(aD p.2.1.data.toList==p.1))))))
def SC {p:bZ}(h:um p)(c:Int×Int):kO F0 c p=some (iy c p,()):=by rw[an2,ix,ai,cQ,ai,air (bX h.2 (by omega)),ai,JP h.1,ai,o5 h.1,ai];unfold iy dj;cases bq c<;>cases gp 1 60 p.1<;>cases iH c.1 p.2.2<;>cases ((p.2.2.length:Int)==0)<;>cases (p.2.1.toList==ak.toList)<;>cases bg p.2.1.data.toList<;>rfl
def aKd (n:Nat):decide ((n:Int)>0)= !((n:Int)==0):=by
 cases n with
 |zero=>rfl
 |succ n =>
  rw[aL (by omega),bT.2 (by omega)];rfl
def Ot {p:bZ}(h:um p)(c:Int×Int):q9 F0 c p=some (iy c p,()):=by rw[apc,fS,ai,bR,ai,acQ (bX h.2 (by omega)),ai,C6 h.1,ai,rB h.1,ai,aKd];unfold iy dj;dsimp only;generalize (aD p.2.1.data.toList==p.1)=b;cases bq c<;>cases gp 1 60 p.1<;>cases iH c.1 p.2.2<;>cases ((p.2.2.length:Int)==0)<;>cases (p.2.1.toList==ak.toList)<;>cases bg p.2.1.data.toList<;>cases b<;>rfl
def cc:bZ:=(0,ak,[])
def fD (a b:bZ):Bool:=decide (a.1<b.1) || ((a.1==b.1)&&Op.bytesLess a.2.1.toList b.2.1.toList)
def abq (a b:bZ):p9 F0 a b=some (fD a b,()):=by rw[ad0];unfold fD;cases decide (a.1<b.1)<;>cases (a.1==b.1)<;>rfl
def aIO (x y:Int):Int:=if x<y then -1 else if x>y then 1 else 0
def aka (x y:Int):vw F0 x y=some (aIO x y,()):=by
 rw[aco,QC,ai,QC,ai,am2,am2,aa,aa];unfold aIO;by_cases h:x<y
 .rw[aL h,ae,ag h]
 .rw[aQ h,aa,af h];by_cases a:x>y
  .rw[aL a,ae,ag a]
  .rw[aQ a,aa,af a]
def aIP (x y:ByteArray):Int:=if Op.bytesLess x.toList y.toList=true then -1 else if (x.toList==y.toList)=true then 0 else 1
def afE (x y:ByteArray):nK F0 x y=some (aIP x y,()):=by rw[U5,Ht,ai,Ht,ai,atw,atw,aa,aa];unfold aIP;cases Op.bytesLess x.toList y.toList<;>cases (x.toList==y.toList)<;>rfl
def ait (a b:bZ):∃r,fx F0 a b=some (r,())/\decide (r>=0)= !fD a b:=by
 rw[FB,aka,ai,afE,ai];unfold fD aIO aIP;dsimp only;by_cases h:a.1<b.1
 .rw[ag h,aL h];exact⟨-1,rfl,rfl⟩
 .rw[af h,aQ h,JY];by_cases c:a.1>b.1
  .rw[ag c,bT.2 (show a.1≠b.1 by omega)];exact⟨1,rfl,rfl⟩
  .rw[af c,show a.1=b.1 by omega,ZN];refine⟨_,rfl,?_⟩;cases Op.bytesLess a.2.1.toList b.2.1.toList<;>cases (a.2.1.toList==b.2.1.toList)<;>rfl
def eS (c:Int×Int)(l:List bZ):Bool:=X1 cc (iy c) fD l&&decide ((l.length:Int)<=20)
def akb {l:List bZ}(h:l.length<=1048576)(b:∀q∈l,um q)(c:Int×Int):nA F0 c l=some (eS c l,()):=by
 rw[akM,eM (fun m k=>qa F0 (rS F0) m (l4 l k c.1 c.2)) l.length (fun k=>iy c (l.getD k cc)&&(decide (k=0) || fD (l.getD (k-1) cc) (l.getD k cc))) (some (decide ((l.length:Int)<=20),())) (some (false,())) (fun m k a=>?_) (fun m=>?_) _ (by rw[bB];omega)]
 .unfold eS X1;cases (List.range l.length).all _<;>rfl
 .rw[G4,aM a,ae,an a,ab,aT a,show((c.1,c.2):Int×Int)=c from rfl,SC (b _ (bH a)),ai,aJ a,ad1,al (by omega),ab];refine afC _ (fD (l.getD (k-1) cc) l[k]) _ _ _ fun d=>?_
  rw[LZ d (by omega),an (show k-1<l.length by omega),ab,aT (show k-1<l.length by omega),abq,ai,aJ (show k-1<l.length by omega)]
 .rw[G4,aE,aa,ab1]
def afF {l:List bZ}(h:l.length<=1048576)(b:∀q∈l,um q)(c:Int×Int):kZ F0 c l=some (eS c l,()):=by
 rw[alM,eM (fun m k=>ra F0 (sr F0) m (mA l l (l.length:Int) k c.1 c.2)) l.length (fun k=>iy c (l.getD k cc)&&(decide (k=0) || fD (l.getD (k-1) cc) (l.getD k cc))) (some (decide ((l.length:Int)<=20),())) (some (false,())) (fun m k a=>?_) (fun m=>?_) _ (by rw[bB];omega)]
 .unfold eS X1;cases (List.range l.length).all _<;>rfl
 .rw[Hv,aM a,ae,an a,ab,aT a,show((c.1,c.2):Int×Int)=c from rfl,Ot (b _ (bH a)),ai,aJ a,aeF,al (by omega)];refine afC _ (fD (l.getD (k-1) cc) l[k]) _ _ _ fun d=>?_
  rw[LZ d (by omega),an (show k-1<l.length by omega),ab,aT (show k-1<l.length by omega)];obtain⟨r,e,f⟩:=ait l[k-1] l[k];rw[e,ai,f,aJ (show k-1<l.length by omega)]
 .rw[Hv,aE,aa,acq]
def fE (d:List Int×Int):Bool:=decide ((d.1.length:Int)<=100000)&&gp 0 d.1.length d.2
def L3 (d:List Int×Int):nm F0 d=some (fE d,()):=by rw[an3,cQ,ai];unfold fE;cases decide ((d.1.length:Int)<=100000)<;>rfl
def Ou (d:List Int×Int):rb F0 d=some (fE d,()):=by rw[apd,bR,ai];unfold fE;cases decide ((d.1.length:Int)<=100000)<;>rfl
def ap8 {a b:List Int}(j:a.length<=1048576)(l:b.length<=1048576):Fc F0 a b=some (decide (a=b),()):=by
 rw[an4,eM (fun m k=>Dz F0 (uC F0) m (uB a b k)) (min a.length b.length) (fun k=>a.getD k 0==b.getD k 0) (some ((a.length:Int)==(b.length:Int),())) (some (false,())) (fun m k n=>?_) (fun m=>?_) _ (by rw[bB];omega)]
 .by_cases c:a=b
  .rw[aL c,ag (eb.2 fun k _=>by rw[c];exact ZN (b.getD k 0)),c,ZN]
  .rw[aQ c];by_cases e:a.length=b.length
   .rw[af];intro f;refine c (List.ext_getElem e fun k g i=>?_);have:=eb.1 f k (eU.2 (by omega));simpa [List.getD,g,i]using this
   .rw[bT.2 (show(a.length:Int)≠(b.length:Int) by omega)];cases (List.range (min a.length b.length)).all _<;>rfl
 .rw[Ko,aM (show k<a.length by omega),ae,aM (show k<b.length by omega),ae,an (show k<a.length by omega),ab,an (show k<b.length by omega),ab,ly,ly,agU,al (by omega),aBo];by_cases d:a.getD k 0=b.getD k 0
  .simp[d]
  .simp[d]
 .rw[Ko,ad2];rcases S2 a.length b.length with h|h
  .rw[ads (by omega),aE,aa]
  .rw[Nat.min_eq_right h,aE,aa];cases decide ((b.length:Int)<(a.length:Int))<;>rfl
def gq (a b:bZ):Bool:=(a.1==b.1)&&((a.2.1.toList==b.2.1.toList)&&decide (a.2.2=b.2.2))
def aiu {a b:bZ}(c:um a)(d:um b):wY F0 a b=some (gq a b,()):=by rw[an5,ap8 c.2 d.2,ai];unfold gq;cases (a.1==b.1)<;>cases (a.2.1.toList==b.2.1.toList)<;>rfl
def L4 {a b:bZ}(c:um a):jx F0 a b=some (gq a b,()):=by rw[WU,ais (bX c.2 (by omega)),ai];unfold gq;cases (a.1==b.1)<;>cases (a.2.1.toList==b.2.1.toList)<;>rfl
def ayV {a b:bZ}(c:um a)(d:um b):Ik F0 a b=some (gq a b,()):=by rw[akO,ap8 c.2 d.2,ai];unfold gq;cases (a.1==b.1)<;>cases (a.2.1.toList==b.2.1.toList)<;>rfl
def awM {a b:bZ}(c:um a):Er F0 a b=some (gq a b,()):=by rw[ahB,ais (bX c.2 (by omega)),ai];unfold gq;cases (a.1==b.1)<;>cases (a.2.1.toList==b.2.1.toList)<;>rfl
def o6 (a b:cq):Bool:=(a.1.toList==b.1.toList)&&gq a.2 b.2
def asL {a b:cq}(c:um a.2)(d:um b.2):yD F0 a b=some (o6 a b,()):=by rw[ad3,aiu c d,ai];unfold o6;cases (a.1.toList==b.1.toList)<;>rfl
def ap9 {a b:cq}(c:um a.2):AE F0 a b=some (o6 a b,()):=by rw[aeH,L4 c,ai];unfold o6;cases (a.1.toList==b.1.toList)<;>rfl
def aiv (a b:dH):Bool:=(a.1==b.1)&&((a.2.1==b.2.1)&&((a.2.2.1==b.2.2.1)&&((a.2.2.2==b.2.2.2)&&true)))
def s6 (a b:b0):Bool:=(a.1==b.1)&&((a.2.1==b.2.1)&&(o6 a.2.2.1 b.2.2.1&&(gq a.2.2.2.1 b.2.2.2.1&&(gq a.2.2.2.2.1 b.2.2.2.2.1&&((a.2.2.2.2.2.1==b.2.2.2.2.2.1)&&aiv a.2.2.2.2.2.2 b.2.2.2.2.2.2)))))
def fU (m:b0):Prop:=m.2.2.1.1.size<=1048576/\um m.2.2.1.2/\um m.2.2.2.1/\um m.2.2.2.2.1
def ayW {a b:b0}(c:fU a)(d:fU b):kP F0 a b=some (s6 a b,()):=by rw[akQ,asL c.2.1 d.2.1,ai,ayV c.2.2.1 d.2.2.1,ai,aiu c.2.2.2 d.2.2.2,ai];unfold s6 aiv;dsimp only;generalize ((a.2.2.2.2.2.2.1==b.2.2.2.2.2.2.1)&&((a.2.2.2.2.2.2.2.1==b.2.2.2.2.2.2.2.1)&&((a.2.2.2.2.2.2.2.2.1==b.2.2.2.2.2.2.2.2.1)&&((a.2.2.2.2.2.2.2.2.2==b.2.2.2.2.2.2.2.2.2)&&true))))=t;cases (a.1==b.1)<;>cases (a.2.1==b.2.1)<;>cases o6 a.2.2.1 b.2.2.1<;>cases gq a.2.2.2.1 b.2.2.2.1<;>cases gq a.2.2.2.2.1 b.2.2.2.2.1<;>cases (a.2.2.2.2.2.1==b.2.2.2.2.2.1)<;>rfl
def awN {a b:b0}(c:fU a):IW F0 a b=some (s6 a b,()):=by rw[alN,ap9 c.2.1,ai,awM c.2.2.1,ai,L4 c.2.2.2,ai];unfold s6 aiv;dsimp only;generalize ((a.2.2.2.2.2.2.1==b.2.2.2.2.2.2.1)&&((a.2.2.2.2.2.2.2.1==b.2.2.2.2.2.2.2.1)&&((a.2.2.2.2.2.2.2.2.1==b.2.2.2.2.2.2.2.2.1)&&((a.2.2.2.2.2.2.2.2.2==b.2.2.2.2.2.2.2.2.2)&&true))))=t;cases (a.1==b.1)<;>cases (a.2.1==b.2.1)<;>cases o6 a.2.2.1 b.2.2.1<;>cases gq a.2.2.2.1 b.2.2.2.1<;>cases gq a.2.2.2.2.1 b.2.2.2.2.1<;>cases (a.2.2.2.2.2.1==b.2.2.2.2.2.1)<;>rfl
def Ov (a b:bZ):gq a b=gq b a:=by
 unfold gq;rw[tr (a:=a.1),tr (a:=a.2.1.toList)]
 congr 2
 by_cases h:a.2.2=b.2.2
 .rw[aL h,aL h.symm]
 .rw[aQ h,aQ fun c=>h c.symm]
def awO (a b:b0):s6 a b=s6 b a:=by unfold s6 o6 aiv;rw[tr (a:=a.1),tr (a:=a.2.1),tr (a:=a.2.2.1.1.toList),Ov a.2.2.1.2,Ov a.2.2.2.1,Ov a.2.2.2.2.1,tr (a:=a.2.2.2.2.2.1),tr (a:=a.2.2.2.2.2.2.1),tr (a:=a.2.2.2.2.2.2.2.1),tr (a:=a.2.2.2.2.2.2.2.2.1),tr (a:=a.2.2.2.2.2.2.2.2.2)]
def named (m:b0):b0 :=
 if (m.1==1)=true then (m.1,0,m.2.2.1,cc,cc,0,nd)
 else if (m.1==2)=true then (m.1,0,(ak,cc),m.2.2.2.1,cc,0,nd)
 else if (m.1==3)=true then (m.1,m.2.1,(ak,cc),cc,m.2.2.2.2.1,m.2.2.2.2.2.1,nd)
 else if (m.1==4)=true then (m.1,0,(ak,cc),cc,cc,0,m.2.2.2.2.2.2)
 else (m.1,0,(ak,cc),cc,cc,0,nd)
def aE6 (m:b0):Se F0 m=some (named m,()):=by rw[asp];unfold named;cases (m.1==1)<;>cases (m.1==2)<;>cases (m.1==3)<;>cases (m.1==4)<;>rfl
def dy:um cc:=⟨aR _,aR _⟩
def aIQ {m:b0}(h:fU m):fU (named m):=by
 unfold named;split
 .exact⟨h.1,h.2.1,dy,dy⟩
 .split
  .exact⟨aR _,dy,h.2.2.1,dy⟩
  .split
   .exact⟨aR _,dy,dy,h.2.2.2⟩
   .split
    .exact⟨aR _,dy,dy,dy⟩
    .exact⟨aR _,dy,dy,dy⟩
def ayX {m:b0}(h:fU m):Il F0 m=some (s6 (named m) m,()):=by
 have a:=ayW (aIQ h) h;rw[akS];unfold named cc nd at a;unfold named cc nd;by_cases b:(m.1==1)=true
 .rw[ag b]at a ⊢;rw[b,ae,a,ai]
 .rw[af b]at a ⊢;rw[JX.2 b,aa];by_cases c:(m.1==2)=true
  .rw[ag c]at a ⊢;rw[c,ae,a,ai]
  .rw[af c]at a ⊢;rw[JX.2 c,aa];by_cases d:(m.1==3)=true
   .rw[ag d]at a ⊢;rw[d,ae,a,ai]
   .rw[af d]at a ⊢;rw[JX.2 d,aa];by_cases e:(m.1==4)=true
    .rw[ag e]at a ⊢;rw[e,ae,a,ai]
    .rw[af e]at a ⊢;rw[JX.2 e,aa,a,ai]
def gx (l:List UInt8):Nat->Nat
 |0=>0|k+1=>if (((l.getD k 0).toNat:Int) != 47)=true then gx l k else k+1
def aqa (l:List UInt8):∀k,gx l k<=k
 |0=>bG _|k+1=>by
  unfold gx;split
  .exact Nat.le_succ_of_le (aqa l k)
  .exact bG _
def aG6 {h n:Nat}(a:h<=n):RZ 0 (h:Int) (n:Int)=true:=YT (l:=0) (aR _) a
def fO (l:List UInt8):List UInt8:=if bg l=true then l.take (gx l l.length-1) else []
def aDW (l:List UInt8){γ:Type}(J:Ex->St->Option γ):∀(k n:Nat),k<=l.length->k<=1073741824->k<n->MD F0 J n (DA (tx l) (k:Int))=J (.exit 0) (yE (tx l) (gx l k:Int))
 |0,n,a,b,c=>by obtain⟨n,rfl⟩:∃m,n=m+1:=⟨n-1,by omega⟩;rw[PS];rfl
 |k+1,n,a,b,c=>by
  obtain⟨n,rfl⟩:∃m,n=m+1:=⟨n-1,by omega⟩;rw[PS,aL (show((k+1:Nat):Int)>0 by omega),ae,LZ (by omega) (by omega),show k+1-1=k from rfl,bD,an (by omega),ab,YR];unfold gx;by_cases h:(((l.getD k 0).toNat:Int) != 47)=true
  .rw[h,ae,ag rfl,aDW l J k n (by omega) (by omega) (by omega)]
  .rw[JX.2 h,aa,af (by decide)]
def aG7 {l:List UInt8}(h:l.length<=1048576):l5 F0 (tx l)=some (tx (fO l),()):=by
 rw[avQ,Sy (by omega),ai];unfold fO;dsimp only;cases bg l with
 |false=>rfl
 |true =>
  have c:=aqa l l.length;rw[aN,aa,bD,aDW l _ l.length _ (bG _) (by omega) (by rw[bB];omega),akU,ag rfl,aag];have b:br (decide (aj ((gx l l.length:Int)-1)>0)) (some (aj ((gx l l.length:Int)-1),())) (some ((0:Int),()))=some (((gx l l.length-1:Nat):Int),()):=by
   rw[aI (by omega) (by omega)];by_cases a:(gx l l.length:Int)-1>0
   .rw[aL a,ae,show(gx l l.length:Int)-1=((gx l l.length-1:Nat):Int) by omega]
   .rw[aQ a,aa,show gx l l.length-1=0 by omega];rfl
  rw[b,ai];dsimp only;rw[bD,aG6 (by omega),ab,gr,show(0:Int).toNat=0 from rfl,On,ZO,Vq]
def atV (l:List UInt8):∀(k n:Nat),k<=l.length->k<=1073741824->k<n->eu F0 (fT F0) n (dG (tx l) 47 ((k:Int)-1))=some ((gx l k:Int)-1,())
 |0,n,a,b,c=>by obtain⟨n,rfl⟩:∃m,n=m+1:=⟨n-1,by omega⟩;rw[jY];rfl
 |k+1,n,a,b,c=>by
  obtain⟨n,rfl⟩:∃m,n=m+1:=⟨n-1,by omega⟩;rw[show((k+1:Nat):Int)-1=(k:Int) by omega,jY,aL (show(k:Int)>=0 by omega),ae,bD,an (by omega),ab,YR,aI (by omega) (by omega),AG];unfold gx;by_cases h:((l.getD k 0).toNat:Int)=47
  .rw[h,show((47:Int)==47)=true from rfl,ae,show((47:Int) != 47)=false from rfl,af (by decide),show((k+1:Nat):Int)-1=(k:Int) by omega]
  .rw[bT.2 h,aa,E3.2 h,ag rfl,atV l k n (by omega) (by omega) (by omega)]
def aBt {c x:UInt8}{l:List UInt8}{ps:List (List UInt8)}(h:parts c (x::l)=[]::ps):x=c:=by
 unfold parts at h;split at h
 .assumption
 .split at h
  .cases (tL h).1
  .cases (tL h).1
def aqb {l:List UInt8}(h:bg l=true)(b:l≠[]):∃t,l=47::t:=by
 cases l with
 |nil=>exact absurd rfl b
 |cons x t =>
  refine⟨t,?_⟩;unfold bg a6 at h;rw[af b]at h;cases a:parts 47 (x::t) with
  |nil=>exact absurd a (FZ _ _)
  |cons c g =>
   rw[a]at h;dsimp only at h;split at h
   .cases h
   .rename_i d;have e:c=[]:=axJ fun f=>d (.inl f)
    subst e;rw[aBt a]
def aiw {t:List UInt8}:∀k,0<k->0<gx (47::t) k
 |0,h=>absurd h (Vo _)|1,_=>by unfold gx;rw[show((((47::t).getD 0 0:UInt8).toNat:Int) != 47)=false from rfl,af (by decide)];exact agw _
 |k+2,_=>by
  unfold gx;split
  .exact aiw (k+1) (agw _)
  .exact agw _
def aE7 {l:List UInt8}(h:l.length<=1048576):sv F0 (tx l)=some (tx (fO l),()):=by
 rw[av8,Oq (by omega),ai,awG,UN];unfold fO;dsimp only;cases b:bg l with
 |false=>rfl
 |true =>
  rw[aN,aa,ag rfl];by_cases a:l=[]
  .subst a;rfl
  .have c:=aqa l l.length;have d:0<gx l l.length:=by obtain⟨t,rfl⟩:=aqb b a;exact aiw _ (agw _)
   rw[aQ a,aa,O4,CL,bD,aI (by omega) (by omega),atV l l.length _ (bG _) (by omega) (by rw[bB];omega),ai,ai];dsimp only;rw[show(gx l l.length:Int)-1=((gx l l.length-1:Nat):Int) by omega,aG6 (by omega),ab,gr,show(0:Int).toNat=0 from rfl,On,ZO,Vq]
def afG {b:ByteArray}(h:b.size<=1048576):l5 F0 b=some (tx (fO b.data.toList),()):=aG7 (l:=b.data.toList) h
def afH {b:ByteArray}(h:b.size<=1048576):sv F0 b=some (tx (fO b.data.toList),()):=aE7 (l:=b.data.toList) h
def fF (c:Int×Int)(b:cq):Bool:=eV c b.2&&(bg b.1.data.toList&&(!dj b.1&&((tx (fO b.1.data.toList)).toList==b.2.2.1.toList)))
def Ow {b:cq}(a:b.1.size<=1048576)(d:um b.2)(c:Int×Int):nB F0 c b=some (fF c b,()):=by rw[akV,SB d,ai,JP a,ai,afG a,ai];unfold fF dj;cases eV c b.2<;>cases bg b.1.data.toList<;>cases (b.1.toList==ak.toList)<;>rfl
def Jr {b:cq}(a:b.1.size<=1048576)(d:um b.2)(c:Int×Int):nL F0 c b=some (fF c b,()):=by rw[alP,Rq d,ai,C6 a,ai,afH a,ai];unfold fF dj;cases eV c b.2<;>cases bg b.1.data.toList<;>cases (b.1.toList==ak.toList)<;>rfl
def c9 (c:Int×Int)(m:b0):Bool:=bq c&&(s6 (named m) m&&(if (m.1==1)=true then fF c m.2.2.1 else if (m.1==2)=true then iy c m.2.2.2.1&& !dj m.2.2.2.1.2.1
 else if (m.1==3)=true then gp 1 60 m.2.1&&(eV c m.2.2.2.2.1&&gp 0 (aj (c.1-1)) m.2.2.2.2.2.1) else (m.1==4)&&gn m.2.2.2.2.2.2))
def JQ {m:b0}(h:fU m)(c:Int×Int):fs F0 c m=some (c9 c m,()):=by rw[ar3,ix,ai,ayX h,ai,Ow h.1 h.2.1,ai,SC h.2.2.1,ai,cQ,ai,SB h.2.2.2,ai,cQ,ai,Rk,ai];unfold c9 dj;dsimp only;cases bq c<;>cases s6 (named m) m<;>cases (m.1==1)<;>cases (m.1==2)<;>cases (m.1==3)<;>cases (m.1==4)<;>cases iy c m.2.2.2.1<;>cases gp 1 60 m.2.1<;>cases eV c m.2.2.2.2.1<;>rfl
def L5 {m:b0}(h:fU m)(c:Int×Int):gd F0 c m=some (c9 c m,()):=by rw[asr,fS,ai,aE6,ai,awN h,ai,Jr h.1 h.2.1,ai,Ot h.2.2.1,ai,bR,ai,Rq h.2.2.2,ai,bR,ai,C4,ai,awO];unfold c9 dj;dsimp only;cases bq c<;>cases s6 (named m) m<;>cases (m.1==1)<;>cases (m.1==2)<;>cases (m.1==3)<;>cases (m.1==4)<;>cases iy c m.2.2.2.1<;>cases gp 1 60 m.2.1<;>cases eV c m.2.2.2.2.1<;>rfl
def L6 (c:Int×Int)(r:Int)(p:jB):Bool:=c9 c p.2&&(gp 0 (aj (c.1-1)) p.1&& !(p.1==r))
def mZ (c:Int×Int)(r:aw):Bool :=
 bq c&&(gp 0 (aj (c.1-1)) r.1&&(gp 1 60 r.2.1&&(gp 0 60 r.2.2.1&&(bh c r.2.2.2.1&&(ff r.2.2.2.2.1&&(eS c r.2.2.2.2.2.1&&(fE r.2.2.2.2.2.2.1&&(!decide ((r.2.2.2.2.2.2.2.length:Int)>30)&&r.2.2.2.2.2.2.2.all (L6 c r.1)))))))))
structure aqc (r:aw):Prop where
 s:km r.2.2.2.1
 p:r.2.2.2.2.1.length<=1048576
 t:r.2.2.2.2.2.1.length<=1048576
 tq:∀q∈r.2.2.2.2.2.1,um q
 h:r.2.2.2.2.2.2.2.length<=1048576
 hm:∀q∈r.2.2.2.2.2.2.2,fU q.2
def awP:jB:=(0,0,0,(ak,cc),cc,cc,0,nd)
def rC (b:Bool):(if b=true then some (true,()) else some (false,()))=some (b,()):=by cases b<;>rfl
def hY {r:aw}(h:aqc r)(c:Int×Int):dx F0 c r=some (mZ c r,()):=by
 have b:=h.h;rw[ar4,ix,ai,cQ,ai,cQ,ai,cQ,ai,C7 h.s,ai,ap7 h.p,ai,akb h.t h.tq,ai,L3,ai,
  eM (fun m k=>Iq F0 (yH F0) m (yF k c.1 c.2 r.1 r.2.1 r.2.2.1 r.2.2.2.1.1 r.2.2.2.1.2.1 r.2.2.2.1.2.2.1.1 r.2.2.2.1.2.2.1.2.1 r.2.2.2.1.2.2.1.2.2 r.2.2.2.1.2.2.2 r.2.2.2.2.1 r.2.2.2.2.2.1 r.2.2.2.2.2.2.1.1 r.2.2.2.2.2.2.1.2 r.2.2.2.2.2.2.2)) r.2.2.2.2.2.2.2.length
   (fun k=>L6 c r.1 (r.2.2.2.2.2.2.2.getD k awP)) (some (true,())) (some (false,())) (fun m k a=>?_) (fun m=>?_) _ (by rw[bB];omega),LY,rC]
 .unfold mZ;cases bq c<;>cases gp 0 (aj (c.1-1)) r.1<;>cases gp 1 60 r.2.1<;>cases gp 0 60 r.2.2.1<;>cases bh c r.2.2.2.1<;>cases ff r.2.2.2.2.1<;>cases eS c r.2.2.2.2.2.1<;>cases fE r.2.2.2.2.2.2.1<;>cases decide ((r.2.2.2.2.2.2.2.length:Int)>30)<;>rfl
 .rw[ME,aM a,ae,an a,ab,aT a,show((c.1,c.2):Int×Int)=c from rfl,JQ (h.hm _ (bH a)),ai,ab,cQ,ai,ab,aJ a,akW,al (by omega)];unfold L6;cases c9 c (r.2.2.2.2.2.2.2[k]).2<;>cases gp 0 (aj (c.1-1)) (r.2.2.2.2.2.2.2[k]).1<;>cases ((r.2.2.2.2.2.2.2[k]).1==r.1)<;>rfl
 .rw[ME,aE,aa,agV]
def dS {r:aw}(h:aqc r)(c:Int×Int):cp F0 c r=some (mZ c r,()):=by
 have b:=h.h;rw[ass,fS,ai,bR,ai,bR,ai,bR,ai,F1 h.s,ai,X2 h.p,ai,afF h.t h.tq,ai,Ou,ai,
  eM (fun m k=>IZ F0 (AJ F0) m (AH r.2.2.2.2.2.2.2 (r.2.2.2.2.2.2.2.length:Int) k c.1 c.2 r.1 r.2.1 r.2.2.1 r.2.2.2.1.1 r.2.2.2.1.2.1 r.2.2.2.1.2.2.1.1 r.2.2.2.1.2.2.1.2.1 r.2.2.2.1.2.2.1.2.2 r.2.2.2.1.2.2.2 r.2.2.2.2.1 r.2.2.2.2.2.1 r.2.2.2.2.2.2.1.1 r.2.2.2.2.2.2.1.2 r.2.2.2.2.2.2.2)) r.2.2.2.2.2.2.2.length
   (fun k=>L6 c r.1 (r.2.2.2.2.2.2.2.getD k awP)) (some (true,())) (some (false,())) (fun m k a=>?_) (fun m=>?_) _ (by rw[bB];omega),LY,rC]
 .unfold mZ;cases bq c<;>cases gp 0 (aj (c.1-1)) r.1<;>cases gp 1 60 r.2.1<;>cases gp 0 60 r.2.2.1<;>cases bh c r.2.2.2.1<;>cases ff r.2.2.2.2.1<;>cases eS c r.2.2.2.2.2.1<;>cases fE r.2.2.2.2.2.2.1<;>cases decide ((r.2.2.2.2.2.2.2.length:Int)>30)<;>rfl
 .rw[NA,aM a,ae,an a,ab,aT a,show((c.1,c.2):Int×Int)=c from rfl,L5 (h.hm _ (bH a)),ai,bR,ai,aJ a,alQ,al (by omega)];unfold L6;cases c9 c (r.2.2.2.2.2.2.2[k]).2<;>cases gp 0 (aj (c.1-1)) (r.2.2.2.2.2.2.2[k]).1<;>cases ((r.2.2.2.2.2.2.2[k]).1==r.1)<;>rfl
 .rw[NA,aE,aa,ahD]
def afI {lo hi x:Int}:gp lo hi x=decide (lo<=x/\x<=hi):=by unfold gp;by_cases a:lo<=x<;>by_cases b:x<=hi<;>simp[a,b]
def Rr:Nat->List Int->Nat->Int->Option (Int×Nat)
 |0,_,_,_=>none|_+1,[],_,_=>none|j+1,x::xs,k,n=>if x<128 then (if (k≠0/\x=0)\/n+x*128 ^ k>2147483647 then none else some (n+x*128 ^ k,k+1)) else Rr j xs (k+1) (n+x%128*128 ^ k)
def aIR (a:Nat):Option (Int×Nat)->Int×Int×Bool×Unit
 |some (v,c)=>(v,((a+c:Nat):Int),true,())|none=>(0,0,false,())
def aG8 {k:Nat}(h:k<=4):(2:Int) ^ (min (aj (7*(k:Int))).toNat 64)=128 ^ k:=by
 have:k=0\/k=1\/k=2\/k=3\/k=4:=by omega
 rcases this with rfl|rfl|rfl|rfl|rfl<;>rfl
def SD {k:Nat}(h:k<=4):(1:Int)<=128 ^ k/\(128:Int) ^ k<=268435456:=by
 have:k=0\/k=1\/k=2\/k=3\/k=4:=by omega
 rcases this with rfl|rfl|rfl|rfl|rfl<;>decide
def aqd {d P:Int}(a:0<=d)(b:d<=127)(c:1<=P):0<=d*P/\d*P<=127*P:=⟨Int.mul_nonneg a (by omega),Int.mul_le_mul_of_nonneg_right b (by omega)⟩
def aKe {i n:Nat}(d:Nat)(h:n<2 ^ i):n ||| d*2 ^ i=n+d*2 ^ i:=by rw[Nat.or_comm,<-Nat.shiftLeft_eq,<-Nat.shiftLeft_add_eq_or_of_lt h,Nat.add_comm]
def aKf {k:Nat}(a:k<=4){n d:Int}(b:0<=n)(c:n<128 ^ k)(f:0<=d)(j:d<=127):((BitVec.ofInt 64 n ||| BitVec.ofInt 64 (d*128 ^ k)).toNat:Int)=n+d*128 ^ k:=by
 obtain⟨m,rfl⟩:=Int.eq_ofNat_of_zero_le b;obtain⟨e,rfl⟩:=Int.eq_ofNat_of_zero_le f;have g:(128:Int) ^ k=((2 ^ (7*k):Nat):Int):=by rw[Nat.pow_mul];exact(Int.natCast_pow 128 k).symm
 have h:=SD a;rw[g]at c h ⊢;have i:m<2 ^ (7*k):=by omega
 have l:e*2 ^ (7*k)<=127*2 ^ (7*k):=GY _ (by omega);have o:2 ^ (7*k)<=268435456:=by omega
 rw[show(e:Int)*((2 ^ (7*k):Nat):Int)=((e*2 ^ (7*k):Nat):Int) from(Int.natCast_mul _ _).symm,BitVec.ofInt_natCast,BitVec.ofInt_natCast,BitVec.toNat_or,BitVec.toNat_ofNat,BitVec.toNat_ofNat,auR (by omega),auR (by omega),aKe e i];omega
def da (b:List Int):Prop:=b.length<=1048576/\∀x∈b,0<=x/\x<=255
def ayY {b:List Int}(l:da b)(a:Nat)(t:a<=b.length):∀(j k:Nat),j+k=5->∀(c:Int) (m:Nat),0<=c->c<128 ^ k->j<m ->
  DC F0 (uG F0) m (uF b (a:Int) c (k:Int))=some (aIR a (Rr j (b.drop (a+k)) k c))
 |0,k,u,c,m,o,p,v=>by obtain⟨m,rfl⟩:∃q,m=q+1:=⟨m-1,by omega⟩;rw[Kr,aQ (by omega),aa,ad7];rfl
 |j+1,k,u,c,m,o,p,v=>by
  obtain⟨m,rfl⟩:∃q,m=q+1:=⟨m-1,by omega⟩;have B:=l.1;rw[Kr,aL (by omega),ae,aQ (show ¬(a:Int)<0 by omega),aa,aI (n:=(b.length:Int)-k) (by omega) (by omega)];rcases S2 (a+k) b.length with hlt|w
  .have r:=l.2 b[a+k] (bH hlt);have y:=SD (k:=k) (by omega);rw[aQ (show ¬(a:Int)>=(b.length:Int)-k by omega),aa,show aj ((a:Int)+(k:Int))=((a+k:Nat):Int) by rw[aI (by omega) (by omega)];omega,an hlt,ab,
    aL (show 0<=aj (7*(k:Int)) by rw[aI (by omega) (by omega)];omega),ab,aT hlt,aG8 (by omega),Vh hlt]
   generalize b[a+k]=x at r ⊢;rw[aI (n:=x) (by omega) (by omega),amV (by omega),Cn,Cn];have z:=aqd (d:=x%128) (P:=128 ^ k) (by omega) (by omega) y.1;rw[aI (n:=x%128*128 ^ k) (by omega) (by omega),aKf (by omega) o p (by omega) (by omega),aI (n:=c+x%128*128 ^ k) (by omega) (by omega)];unfold Rr;by_cases g:x<128
   .have e:x%128=x:=Int.emod_eq_of_lt r.1 g;rw[e]at z ⊢;rw[aL g,ae,ag g,aI (n:=((a+k:Nat):Int)+1) (by omega) (by omega)];by_cases s:k=0
    .subst s;rw[show decide (((0:Nat):Int)>0)=false from rfl,aa];by_cases f:c+x*128 ^ 0>2147483647
     .rw[aL f,ae,ag (.inr f)];rfl
     .rw[aQ f,aa,af (fun h=>h.elim (fun h=>h.1 rfl) f)];rfl
    .rw[aL (show(k:Int)>0 by omega),ae];by_cases i:x=0
     .rw[show(x==0)=true from bf.2 i,ae,ag (.inl ⟨s,i⟩)];rfl
     .rw[bT.2 i,aa];by_cases f:c+x*128 ^ k>2147483647
      .rw[aL f,ae,ag (.inr f)];rfl
      .rw[aQ f,aa,af (fun h=>h.elim (fun h=>i h.2) f)];rfl
   .rw[aQ g,aa,af g,al (by omega)];have A:c+x%128*128 ^ k<128 ^ (k+1):=by rw[S3];omega
    exact ayY l a t j (k+1) (by omega) _ m (by omega) A (by omega)
  .rw[aL (show(a:Int)>=(b.length:Int)-k by omega),ae,Cn,auG w];rfl
def aBu {b:List Int}(c:da b){a:Nat}(d:a<=b.length):kQ F0 b (a:Int)=some (aIR a (Rr 5 (b.drop a) 0 0)):=by rw[aoa];exact ayY c a d 5 0 rfl 0 _ (by omega) (by decide) (by rw[bB];omega)
def afJ:∀(k:Nat) (v:Int) (xs:List Int) (n:Nat),0<=v->v<128 ^ (k+1)->xs.length+k<=1000->k<n->k<=4 ->
  ∃a,tY F0 (vy F0) n (oE v xs)=some (xs++a,())/\a.length<=k+1/\(128 ^ k<=v->a.length=k+1)/\1<=a.length
 |0,v,xs,n,b,d,e,f,g=>by obtain⟨n,rfl⟩:∃m,n=m+1:=⟨n-1,by omega⟩;rw[nM,aQ (show ¬v>=128 by have:(128:Int) ^ (0+1)=128:=rfl;omega),aa,pH,ar (by omega) (by omega) (by rw[cS];omega),ab];exact⟨_,rfl,bG _,fun _=>rfl,bG _⟩
 |k+1,v,xs,n,b,d,e,f,g=>by
  obtain⟨n,rfl⟩:∃m,n=m+1:=⟨n-1,by omega⟩;have l:=SD (k:=k) (by omega);have o:(128:Int) ^ (k+1)=128 ^ k*128:=S3 _ _;have p:(128:Int) ^ (k+1+1)=128 ^ (k+1)*128:=S3 _ _;rw[nM];by_cases c:v>=128
  .rw[aL c,ae,ar (by omega) (by omega) (by rw[cS];omega),ab,amW b,aI (n:=v/128) (by omega) (by omega)];obtain⟨a,i,q,j,r⟩:=afJ k (v/128) (xs++[IntKind.wrap .u8 (aj (Int.tmod v 128+128))]) n (by omega) (by omega) (by rw[aK,cS];omega) (by omega) (by omega);refine⟨IntKind.wrap .u8 (aj (Int.tmod v 128+128))::a,i.trans (by rw[hI];rfl),by rw[aW];omega,fun h=>?_,by rw[aW];omega⟩;rw[aW,j (by omega)]
  .rw[aQ c,aa,pH,ar (by omega) (by omega) (by rw[cS];omega),ab];exact⟨_,rfl,by rw[cS];omega,fun h=>by omega,bG _⟩
def aBv (v:Int):∃c,e6 F0 v=some (c,())/\∀(k:Nat) (a x:Int),k<=4->0<=a->a<128 ^ k->0<=x->x<128->v=a+x*128 ^ k ->
  ((c.length:Int) != ((k+1:Nat):Int))=decide ((k≠0/\x=0)\/v>2147483647):=by
 rw[W6,bR,ai,afI];by_cases b:0<=v/\v<=2147483647
 .rw[aL b,aN,aa];have n:(128:Int) ^ (4+1)=34359738368:=by decide
  obtain⟨g,i,_,_,_⟩:=afJ 4 v [] F0.n b.1 (by omega) (by simp) (by rw[bB];omega) (by omega);refine⟨g,i,fun k a x e r s j t u=>?_⟩;have l:=SD e;have D:(128:Int) ^ (k+1)=128 ^ k*128:=S3 _ _;have w:=aqd (d:=x) (P:=128 ^ k) j (by omega) l.1;obtain⟨c,o,E,n,F⟩:=afJ k v [] F0.n b.1 (by omega) (by simp;omega) (by rw[bB];omega) e;rw[i]at o;have y:g=c:=by simpa using o
  subst y;by_cases f:k≠0/\x=0
  .rw[aL (.inl f),E3];obtain⟨m,z⟩:=f;subst z;obtain⟨k,rfl⟩:∃q,k=q+1:=⟨k-1,by omega⟩;obtain⟨A,p,G,_,_⟩:=afJ k v [] F0.n b.1 (by omega) (by simp;omega) (by rw[bB];omega) (by omega);rw[i]at p;have B:g=A:=by simpa using p
   subst B;omega
  .rw[aQ (fun h=>h.elim f (by omega)),SZ];by_cases m:k=0
   .subst m;omega
   .have C:1<=x:=by
     have:x≠0:=fun h=>f ⟨m,h⟩
     omega
    have:=Int.mul_le_mul_of_nonneg_right C (show(0:Int)<=128 ^ k by omega);rw[n (by omega)]
 .rw[aQ b,eh,ae];refine⟨[],rfl,fun k a x e r s j t u=>?_⟩;have l:=SD e;have w:=aqd (d:=x) (P:=128 ^ k) j (by omega) l.1;rw[aL (.inr (by omega)),E3];simp only[bj];omega
def ayZ {b:List Int}(h:da b)(a:Nat)(p:a<=b.length):∀(j k:Nat),j+k=5->∀(c:Int) (m:Nat),0<=c->c<128 ^ k->j<m ->
  Ey F0 (vA F0) m (vz b (a:Int) c (k:Int))=some (aIR a (Rr j (b.drop (a+k)) k c))
 |0,k,r,c,m,l,o,s=>by obtain⟨m,rfl⟩:∃q,m=q+1:=⟨m-1,by omega⟩;rw[Lg,aQ (by omega),aa,NC];rfl
 |j+1,k,r,c,m,l,o,s=>by
  obtain⟨m,rfl⟩:∃q,m=q+1:=⟨m-1,by omega⟩;have A:=h.1;rw[Lg,aL (by omega),ae,show aj ((a:Int)+(k:Int))=((a+k:Nat):Int) by rw[aI (by omega) (by omega)];omega];rcases S2 (a+k) b.length with hlt|t
  .have i:=h.2 b[a+k] (bH hlt);have u:=SD (k:=k) (by omega);rw[aM hlt,ae,an hlt,ab,
    aL (show 0<=aj (7*(k:Int)) by rw[aI (by omega) (by omega)];omega),ab,aT hlt,aG8 (by omega),Vh hlt]
   generalize b[a+k]=x at i ⊢;rw[aI (n:=x) (by omega) (by omega),amV (by omega),QG,QG];have v:=aqd (d:=x%128) (P:=128 ^ k) (by omega) (by omega) u.1;rw[aI (n:=x%128*128 ^ k) (by omega) (by omega),aI (n:=c+x%128*128 ^ k) (by omega) (by omega),al (show k+1<=9223372036854775807 by omega)];unfold Rr;by_cases f:x<128
   .have e:x%128=x:=Int.emod_eq_of_lt i.1 f;rw[e]at v ⊢;rw[aL f,ae,ag f,aI (n:=((a+k:Nat):Int)+1) (by omega) (by omega)];obtain⟨B,w,y⟩:=aBv (c+x*128 ^ k);rw[w,ai];dsimp only;rw[y k c x (by omega) l o i.1 f rfl];by_cases g:(k≠0/\x=0)\/c+x*128 ^ k>2147483647
    .rw[aL g,ae,ag g];rfl
    .rw[aQ g,aa,af g];rfl
   .rw[aQ f,aa,af f];have z:c+x%128*128 ^ k<128 ^ (k+1):=by rw[S3];omega
    exact ayZ h a p j (k+1) (by omega) _ m (by omega) z (by omega)
  .rw[aQ (show ¬((a+k:Nat):Int)<(b.length:Int) by omega),aa,NC,auG t];rfl
def ay0 {b:List Int}(c:da b){a:Nat}(d:a<=b.length):xx F0 b (a:Int)=some (aIR a (Rr 5 (b.drop a) 0 0)):=by
 have f:=c.1;rw[apg,bR,ai,afI,aI (by omega) (by omega)];rcases S2 a b.length with hlt|e
 .rw[aL (by omega),aN,aa];exact ayZ c a d 5 0 rfl 0 _ (by omega) (by decide) (by rw[bB];omega)
 .rw[aQ (by omega),eh,ae,auG e];rfl
def aDX:∀(j:Nat) (l:List Int) (k:Nat) (n:Int) (v:Int) (c:Nat),Rr j l k n=some (v,c)->v<=2147483647/\k<c/\c<=k+l.length
 |0,_,_,_,_,_,h=>by cases h
 |_+1,[],_,_,_,_,h=>by cases h
 |j+1,x::l,k,n,v,c,h=>by
  unfold Rr at h;split at h
  .split at h
   .cases h
   .rename_i a;cases h;exact⟨Int.not_lt.1 fun b=>a (.inr b),Nat.lt_succ_self _,by rw[aW];omega⟩
  .have:=aDX j l (k+1) _ v c h;rw[aW];exact⟨this.1,by omega,by omega⟩
def ay1:∀(j:Nat) (l:List Int) (k:Nat) (n:Int) (v:Int) (c:Nat),(∀x∈l,0<=x)->0<=n->Rr j l k n=some (v,c)->0<=v
 |0,_,_,_,_,_,_,_,h=>by cases h
 |_+1,[],_,_,_,_,_,_,h=>by cases h
 |j+1,x::l,k,n,v,c,a,f,h=>by
  have d:=a x pZ;have b:(0:Int)<=128 ^ k:=Int.pow_nonneg (by omega);unfold Rr at h;split at h
  .split at h
   .cases h
   .cases h;have:=Int.mul_nonneg d b;omega
  .have g:=Int.mul_nonneg (Vn x (show(128:Int)≠0 by decide)) b;exact ay1 j l (k+1) _ v c (fun y e=>a y (jN _ e)) (by omega) h
abbrev Rs:=Nat×Bool
abbrev cell (b:List Int)(s:Rs):List Int×Int×Bool:=(b,(s.1:Int),s.2)
abbrev X3 (b:List Int)(s:Rs):List Int×Int×Bool:=(b,(s.1:Int),!s.2)
def rD (b:List Int)(a:Nat):Option (Int×Nat):=match Rr 5 (b.drop a) 0 0 with
 |some (v,c)=>some (v,a+c)|none=>none
def acR:Option (Int×Nat)->Int×Int×Bool×Unit
 |some (v,a)=>(v,(a:Int),true,())|none=>(0,0,false,())
def afK {b:List Int}(c:da b){a:Nat}(d:a<=b.length):kQ F0 b (a:Int)=some (acR (rD b a)):=by rw[aBu c d];unfold rD;cases Rr 5 (b.drop a) 0 0<;>rfl
def atW {b:List Int}(c:da b){a:Nat}(d:a<=b.length):xx F0 b (a:Int)=some (acR (rD b a)):=by rw[ay0 c d];unfold rD;cases Rr 5 (b.drop a) 0 0<;>rfl
def YW {b:List Int}(f:da b){a:Nat}(j:a<=b.length){v:Int}{a':Nat}(h:rD b a=some (v,a')):0<=v/\v<=2147483647/\a<a'/\a'<=b.length:=by
 unfold rD at h;split at h
 .rename_i k c d;cases h;have e:=aDX _ _ _ _ _ _ d;have g:=ay1 _ _ _ _ _ _ (fun x i=>(f.2 x (auK i)).1) (G1 0) d;rw[bc]at e;exact⟨g,e.1,by omega,by omega⟩
 .cases h
def aU (b:List Int)(s:Rs):Int×Rs:=match rD b s.1 with
 |some (v,a)=>if s.2=true then (v,a,true) else (0,s.1,false)|none=>(0,s.1,false)
def s7 {b:List Int}(c:da b){s:Rs}(d:s.1<=b.length):cI F0 (cell b s)=some (((aU b s).1,()),cell b (aU b s).2,()):=by
 obtain⟨a,ok⟩:=s;rw[aob,afK c d,ai];unfold aU acR;dsimp only;cases rD b a with
 |none=>rfl|some r=>cases ok<;>rfl
def na {b:List Int}(c:da b){s:Rs}(d:s.1<=b.length):bI F0 (X3 b s)=some (((aU b s).1,()),X3 b (aU b s).2,()):=by
 obtain⟨a,ok⟩:=s;rw[acr,atW c d,ai];unfold aU acR;dsimp only;cases rD b a with
 |none=>cases ok<;>rfl|some r=>cases ok<;>rfl
def dU {b:List Int}(d:da b){s:Rs}(c:s.1<=b.length):(aU b s).2.1<=b.length/\((aU b s).2.2=true->s.1<(aU b s).2.1)/\0<=(aU b s).1/\(aU b s).1<=2147483647:=by
 unfold aU;split
 .rename_i v a h;have:=YW d c h;split
  .exact⟨this.2.2.2,fun _=>this.2.2.1,this.1,this.2.1⟩
  .exact⟨c,(fun h=>by cases h),G1 _,by omega⟩
 .exact⟨c,(fun h=>by cases h),G1 _,by omega⟩
def acS (b:List Int)(a:Nat):Option (ByteArray×Nat):=match rD b a with
 |some (v,a)=>if v>(b.length:Int)-a then none else some (strOf ((b.take (a+v.toNat)).drop a),a+v.toNat)|none=>none
def aBw:Option (ByteArray×Nat)->ByteArray×Int×Bool×Unit
 |some (v,a)=>(v,(a:Int),true,())|none=>(ak,0,false,())
def atX {b:List Int}(e:da b){a:Nat}(f:a<=b.length) :
  br (!(acR (rD b a)).2.2.1) (some (ak,0,false,())) (br (decide ((acR (rD b a)).1>aj ((b.length:Int)-(acR (rD b a)).2.1))) (some (ak,0,false,()))
   (ck (RZ (acR (rD b a)).2.1 (aj ((acR (rD b a)).2.1+(acR (rD b a)).1)) (b.length:Int)) (some (strOf ((b.take (aj ((acR (rD b a)).2.1+(acR (rD b a)).1)).toNat).drop (acR (rD b a)).2.1.toNat),aj ((acR (rD b a)).2.1+(acR (rD b a)).1),true,()))))=some (aBw (acS b a)):=by
 have i:=e.1;unfold acS;cases g:rD b a with
 |none=>rfl
 |some r =>
  obtain⟨v,c⟩:=r;have h:=YW e f g;show br (!true) _ (br (decide (v>aj ((b.length:Int)-(c:Int)))) _ (ck (RZ (c:Int) (aj ((c:Int)+v)) (b.length:Int)) (some (strOf ((b.take (aj ((c:Int)+v)).toNat).drop (c:Int).toNat),aj ((c:Int)+v),true,()))))=some (aBw (if v>(b.length:Int)-c then none else some (strOf ((b.take (c+v.toNat)).drop c),c+v.toNat)));rw[aN,aa,aI (n:=(b.length:Int)-c) (by omega) (by omega),aI (n:=(c:Int)+v) (by omega) (by omega)];by_cases d:v>(b.length:Int)-c
  .rw[aL d,ae,ag d];rfl
  .rw[aQ d,aa,af d,show(c:Int)+v=((c+v.toNat:Nat):Int) by omega,YT (by omega) (by omega),ab];simp only[gr,aBw]
def ay2 {b:List Int}(c:da b){a:Nat}(d:a<=b.length):Ir F0 b (a:Int)=some (aBw (acS b a)):=by rw[akX,afK c d,ai];exact atX c d
def Js {b:List Int}(c:da b){a:Nat}(d:a<=b.length):nO F0 b (a:Int)=some (aBw (acS b a)):=by rw[alR,atW c d,ai];exact atX c d
def aIS {b:List Int}(c:da b){a:Nat}(e:a<=b.length){v:ByteArray}{a':Nat}(h:acS b a=some (v,a')):v.size<=1048576/\a<a'/\a'<=b.length:=by
 have i:=c.1;unfold acS at h;split at h
 .rename_i f d g;have j:=YW c e g;split at h
  .cases h
  .rename_i k;cases h;refine⟨?_,by omega,by omega⟩;show(((b.take (d+f.toNat)).drop d).map fun n=>UInt8.ofNat n.toNat).toArray.size<=1048576;rw[List.size_toArray,nh,bc,bz];omega
 .cases h
def cW (b:List Int)(s:Rs):ByteArray×Rs:=match acS b s.1 with
 |some (v,a)=>if s.2=true then (v,a,true) else (ak,s.1,false)|none=>(ak,s.1,false)
def afL {b:List Int}(c:da b){s:Rs}(d:s.1<=b.length):nC F0 (cell b s)=some (((cW b s).1,()),cell b (cW b s).2,()):=by
 obtain⟨a,ok⟩:=s;rw[akZ,ay2 c d,ai];unfold cW aBw;dsimp only;cases acS b a with
 |none=>rfl|some r=>cases ok<;>rfl
def YX {b:List Int}(c:da b){s:Rs}(d:s.1<=b.length):gf F0 (X3 b s)=some (((cW b s).1,()),X3 b (cW b s).2,()):=by
 obtain⟨a,ok⟩:=s;rw[Zs,Js c d,ai];unfold cW aBw;dsimp only;cases acS b a with
 |none=>cases ok<;>rfl|some r=>cases ok<;>rfl
def x0 {b:List Int}(d:da b){s:Rs}(c:s.1<=b.length):(cW b s).2.1<=b.length/\(cW b s).1.size<=1048576:=by
 unfold cW;split
 .rename_i v a h;have:=aIS d c h;split
  .exact⟨this.2.2,this.1⟩
  .exact⟨c,aR _⟩
 .exact⟨c,aR _⟩
def kp (b:List Int)(n:Int):Nat->Int->Rs->List Int->List Int×Rs
 |0,_,s,xs=>(xs,s)|f+1,i,s,xs=>if i<n/\s.2=true then kp b n f (i+1) (aU b s).2 (xs++[(aU b s).1]) else (xs,s)
def B6 (b:List Int)(s:Rs):List Int×Rs:=kp b (aU b s).1 (b.length+2) 0 (aU b s).2 []
def ay3 {b:List Int}(e:da b)(a:Int){γ:Type}(J:Ex->St->Option γ):∀(f:Nat) (i:Int) (s:Rs) (xs:List Int) (m:Nat),s.1<=b.length->0<=i->i+f<=4194304->(s.2=true->b.length+2<=s.1+f)->xs.length+f<=4194304->f<m ->
  DF F0 J m (uI a i b (s.1:Int) s.2 xs)=J (.exit 0) (rU b ((kp b a f i s xs).2.1:Int) (kp b a f i s xs).2.2 (kp b a f i s xs).1)
 |0,i,s,xs,m,g,n,o,j,p,r=>by
  obtain⟨m,rfl⟩:∃q,m=q+1:=⟨m-1,by omega⟩;have c:s.2=false:=JX.2 fun h=>by have:=j h;omega
  rw[Kt];unfold kp;dsimp only;rw[c,aa];cases decide (i<a)<;>rfl
 |f+1,i,s,xs,m,g,n,o,j,p,r=>by
  obtain⟨m,rfl⟩:∃q,m=q+1:=⟨m-1,by omega⟩;rw[Kt];unfold kp;by_cases d:i<a
  .rw[aL d,ae];cases c:s.2 with
   |false =>
    rw[aa,af (fun h=>by cases h.2),c]
   |true =>
    have k:=s7 e g;have l:=dU e g;unfold cell at k;rw[c]at k;rw[ae,ag ⟨d,rfl⟩,k,ai,ar (by omega) (by omega) (by rw[cS];omega),ab,aI (by omega) (by omega)];exact ay3 e a J f (i+1) (aU b s).2 (xs++[(aU b s).1]) m l.1 (by omega) (by omega) (fun h=>by have:=l.2.1 h;have:=j c;omega) (by rw[aK,cS];omega) (by omega)
  .rw[aQ d,aa,af (fun h=>d h.1)]
def ay4 {b:List Int}(e:da b)(a:Int){γ:Type}(J:Ex->St->Option γ):∀(f:Nat) (i:Int) (s:Rs) (xs:List Int) (m:Nat),s.1<=b.length->0<=i->i+f<=4194304->(s.2=true->b.length+2<=s.1+f)->xs.length+f<=4194304->f<m ->
  nR F0 J m (k1 a i b (s.1:Int) (!s.2) xs)=J (.exit 0) (kc b ((kp b a f i s xs).2.1:Int) (!(kp b a f i s xs).2.2) (kp b a f i s xs).1)
 |0,i,s,xs,m,g,n,o,j,p,r=>by
  obtain⟨m,rfl⟩:∃q,m=q+1:=⟨m-1,by omega⟩;have c:s.2=false:=JX.2 fun h=>by have:=j h;omega
  rw[xJ];unfold kp;dsimp only;rw[c];cases decide (i<a)<;>rfl
 |f+1,i,s,xs,m,g,n,o,j,p,r=>by
  obtain⟨m,rfl⟩:∃q,m=q+1:=⟨m-1,by omega⟩;rw[xJ];unfold kp;by_cases d:i<a
  .rw[aL d,ae];cases c:s.2 with
   |false =>
    rw[af (fun h=>by cases h.2),c];rfl
   |true =>
    have k:=na e g;have l:=dU e g;unfold X3 at k;rw[c]at k;rw[aN,eh,ae,ag ⟨d,rfl⟩,show(false:Bool)= !true from rfl,k,ai,ar (by omega) (by omega) (by rw[cS];omega),ab,aI (by omega) (by omega)];exact ay4 e a J f (i+1) (aU b s).2 (xs++[(aU b s).1]) m l.1 (by omega) (by omega) (fun h=>by have:=l.2.1 h;have:=j c;omega) (by rw[aK,cS];omega) (by omega)
  .rw[aQ d,aa,af (fun h=>d h.1)]
def aDY {b:List Int}(a:da b){s:Rs}(c:s.1<=b.length):Fe F0 (cell b s)=some (((B6 b s).1,()),cell b (B6 b s).2,()):=by have e:=a.1;have d:=dU a c;rw[aoc,s7 a c,ai];refine(ay3 a (aU b s).1 (Gp F0) (b.length+2) 0 (aU b s).2 [] _ d.1 (G1 _) (by omega) (fun _=>by omega) (by rw[bj];omega) (by rw[bB];omega)).trans ?_;rw[ad8];rfl
def ay5 {b:List Int}(a:da b){s:Rs}(c:s.1<=b.length):mE F0 (X3 b s)=some (((B6 b s).1,()),X3 b (B6 b s).2,()):=by have e:=a.1;have d:=dU a c;rw[Zt,na a c,ai];refine(ay4 a (aU b s).1 (re F0) (b.length+2) 0 (aU b s).2 [] _ d.1 (G1 _) (by omega) (fun _=>by omega) (by rw[bj];omega) (by rw[bB];omega)).trans ?_;rw[Sg];rfl
def aBx (b:List Int)(n:Int)(f:Nat)(i:Int){s:Rs}(h:s.2=false)(xs:List Int):kp b n f i s xs=(xs,s):=by
 cases f with
 |zero=>rfl
 |succ f =>
  unfold kp;rw[af (fun a=>by rw[h]at a;cases a.2)]
def atY {b:List Int}(d:da b)(n:Int):∀(f:Nat) (i:Int) (s:Rs) (xs:List Int),s.1<=b.length->(kp b n f i s xs).2.1<=b.length/\((kp b n f i s xs).2.2=true->(kp b n f i s xs).1.length+s.1<=xs.length+(kp b n f i s xs).2.1)
 |0,i,s,xs,a=>⟨a,fun _=>bG _⟩
 |f+1,i,s,xs,a=>by
  unfold kp;split
  .have e:=dU d a;have g:=atY d n f (i+1) (aU b s).2 (xs++[(aU b s).1]) e.1;refine⟨g.1,fun h=>?_⟩;cases c:(aU b s).2.2 with
   |false =>
    rw[aBx b n f (i+1) c,c]at h;cases h
   |true =>
    have k:=e.2.1 c;have j:=g.2 h;rw[aK,cS]at j;omega
  .exact⟨a,fun _=>bG _⟩
def aqe {b:List Int}(a:da b){s:Rs}(c:s.1<=b.length):(B6 b s).2.1<=b.length/\((B6 b s).2.2=true->(B6 b s).1.length<=1048576):=by have g:=a.1;have d:=dU a c;have h:=atY a (aU b s).1 (b.length+2) 0 (aU b s).2 [] d.1;refine⟨h.1,fun e=>?_⟩;have f:=h.2 e;have i:=h.1;rw[bj]at f;unfold B6;omega
def wK (b:List Int)(s:Rs):bZ×Rs:=(((aU b s).1,(cW b (aU b s).2).1,(B6 b (cW b (aU b s).2).2).1),(B6 b (cW b (aU b s).2).2).2)
def aBy {b:List Int}(a:da b){s:Rs}(c:s.1<=b.length):Co F0 (cell b s)=some (((wK b s).1,()),cell b (wK b s).2,()):=by have d:=(dU a c).1;have e:=(x0 a d).1;rw[ar5,s7 a c,ai,afL a d,ai,aDY a e,ai];rfl
def awQ {b:List Int}(a:da b){s:Rs}(c:s.1<=b.length):mF F0 (X3 b s)=some (((wK b s).1,()),X3 b (wK b s).2,()):=by have d:=(dU a c).1;have e:=(x0 a d).1;rw[aeK,na a c,ai,YX a d,ai,ay5 a e,ai];rfl
def SE {b:List Int}(a:da b){s:Rs}(e:s.1<=b.length):(wK b s).2.1<=b.length/\((wK b s).2.2=true->um (wK b s).1):=by have f:=(dU a e).1;have c:=x0 a f;have d:=aqe a c.1;exact⟨d.1,fun h=>⟨c.2,d.2 h⟩⟩
def acT:b0:=(0,0,(ak,cc),cc,cc,0,nd)
def fin (c:Int×Int)(b:List Int)(m:b0)(s:Rs):b0×Bool:=if s.2=true/\(s.1:Int)=(b.length:Int)/\c9 c m=true then (m,true) else (acT,false)
def afM {c:Int×Int}{b:List Int}{m:b0}{s:Rs}(h:s.2=true->fU m) :
  br (!s.2) (some (acT,false,())) (br ((s.1:Int) != (b.length:Int)) (some (acT,false,())) ((fs F0 c m).bind fun d=>br (!d.1) (some (acT,false,())) (some (m,true,()))))=some ((fin c b m s).1,(fin c b m s).2,()):=by
 unfold fin;cases e:s.2 with
 |false =>
  rw[af (fun h=>by cases h.1)];rfl
 |true =>
  rw[aN,aa,JQ (h e),ai];by_cases a:(s.1:Int)=(b.length:Int)
  .rw[show((s.1:Int) != (b.length:Int))=false from SZ.2 a,aa];cases f:c9 c m with
   |false =>
    rw[af (fun h=>by cases h.2.2)];rfl
   |true =>
    rw[ag ⟨rfl,a,rfl⟩];rfl
  .rw[E3.2 a,ae,af (fun h=>a h.2.1)]
def X4 {c:Int×Int}{b:List Int}{m:b0}{s:Rs}(h:s.2=true->fU m) :
  br (!s.2) (some (acT,false,())) (br ((s.1:Int) != (b.length:Int)) (some (acT,false,())) ((gd F0 c m).bind fun d=>br (!d.1) (some (acT,false,())) (some (m,true,()))))=some ((fin c b m s).1,(fin c b m s).2,()):=by
 unfold fin;cases e:s.2 with
 |false =>
  rw[af (fun h=>by cases h.1)];rfl
 |true =>
  rw[aN,aa,L5 (h e),ai];by_cases a:(s.1:Int)=(b.length:Int)
  .rw[show((s.1:Int) != (b.length:Int))=false from SZ.2 a,aa];cases f:c9 c m with
   |false =>
    rw[af (fun h=>by cases h.2.2)];rfl
   |true =>
    rw[ag ⟨rfl,a,rfl⟩];rfl
  .rw[E3.2 a,ae,af (fun h=>a h.2.1)]
def iI (b:List Int):Int×Rs:=aU b (0,true)
def aIT (b:List Int):b0×Rs:=(((iI b).1,0,((cW b (iI b).2).1,(wK b (cW b (iI b).2).2).1),cc,cc,0,nd),(wK b (cW b (iI b).2).2).2)
def aIU (b:List Int):b0×Rs :=
 (((iI b).1,0,(ak,cc),((aU b (iI b).2).1,(cW b (aU b (iI b).2).2).1,(B6 b (cW b (aU b (iI b).2).2).2).1),cc,0,nd),(B6 b (cW b (aU b (iI b).2).2).2).2)
def aIV (b:List Int):b0×Rs :=
 (((iI b).1,(aU b (iI b).2).1,(ak,cc),cc,(wK b (aU b (aU b (iI b).2).2).2).1,(aU b (aU b (iI b).2).2).1,nd),(wK b (aU b (aU b (iI b).2).2).2).2)
def aIW (b:List Int):b0×Rs :=
 (((iI b).1,0,(ak,cc),cc,cc,0,(aU b (iI b).2).1,(aU b (aU b (iI b).2).2).1,(aU b (aU b (aU b (iI b).2).2).2).1,(aU b (aU b (aU b (aU b (iI b).2).2).2).2).1),(aU b (aU b (aU b (aU b (iI b).2).2).2).2).2)
def aKg (b:List Int):b0×Rs:=(((iI b).1,0,(ak,cc),cc,cc,0,nd),(iI b).2)
def afN (b:List Int):b0×Rs:=if ((iI b).1==1)=true then aIT b else if ((iI b).1==2)=true then aIU b else if ((iI b).1==3)=true then aIV b else if ((iI b).1==4)=true then aIW b else aKg b
def gy (c:Int×Int)(b:List Int):b0×Bool:=fin c b (afN b).1 (afN b).2
def atZ {b:List Int}(a:da b)(c:Int×Int):Kv F0 c b=some ((gy c b).1,(gy c b).2,()):=by
 have v:cI F0 (b,0,true)=some (((iI b).1,()),cell b (iI b).2,()):=s7 a (s:=(0,true)) (aR _);have i:(iI b).2.1<=b.length:=(dU a (s:=(0,true)) (aR _)).1;have j:=(dU a i).1;have k:=(dU a j).1;have w:=(dU a k).1;have t0:=x0 a i;have t1:=x0 a j;have l:=SE a t0.1;have n:=SE a k;have o:=aqe a t1.1;rw[ar6,v,ai];unfold gy afN;dsimp only;by_cases p:((iI b).1==1)=true
 .rw[p,ae,ag rfl,afL a i,ai,aBy a t0.1,ai];unfold aIT;generalize wK b (cW b (iI b).2).2=e at l ⊢;generalize cW b (iI b).2=f at t0 ⊢;generalize iI b=d;exact afM (c:=c) (b:=b) (m:=(d.1,0,(f.1,e.1),cc,cc,0,nd)) (s:=e.2) fun h=>⟨t0.2,l.2 h,dy,dy⟩
 .rw[JX.2 p,aa,af (by decide)];by_cases q:((iI b).1==2)=true
  .rw[q,ae,ag rfl,s7 a i,ai,afL a j,ai,aDY a t1.1,ai];unfold aIU;generalize B6 b (cW b (aU b (iI b).2).2).2=g at o ⊢;generalize cW b (aU b (iI b).2).2=e at t1 ⊢;generalize aU b (iI b).2=f;generalize iI b=d;exact afM (c:=c) (b:=b) (m:=(d.1,0,(ak,cc),(f.1,e.1,g.1),cc,0,nd)) (s:=g.2) fun h=>⟨aR _,dy,⟨t1.2,o.2 h⟩,dy⟩
  .rw[JX.2 q,aa,af (by decide)];by_cases r:((iI b).1==3)=true
   .rw[r,ae,ag rfl,s7 a i,ai,s7 a j,ai,aBy a k,ai];unfold aIV;generalize wK b (aU b (aU b (iI b).2).2).2=g at n ⊢;generalize aU b (aU b (iI b).2).2=e;generalize aU b (iI b).2=f;generalize iI b=d;exact afM (c:=c) (b:=b) (m:=(d.1,f.1,(ak,cc),cc,g.1,e.1,nd)) (s:=g.2) fun h=>⟨aR _,dy,dy,n.2 h⟩
   .rw[JX.2 r,aa,af (by decide)];by_cases t:((iI b).1==4)=true
    .rw[t,ae,ag rfl,s7 a i,ai,s7 a j,ai,s7 a k,ai,s7 a w,ai];unfold aIW;generalize aU b (aU b (aU b (aU b (iI b).2).2).2).2=u;generalize aU b (aU b (aU b (iI b).2).2).2=g;generalize aU b (aU b (iI b).2).2=e;generalize aU b (iI b).2=f;generalize iI b=d;exact afM (c:=c) (b:=b) (m:=(d.1,0,(ak,cc),cc,cc,0,f.1,e.1,g.1,u.1)) (s:=u.2) fun h=>⟨aR _,dy,dy,dy⟩
    .rw[JX.2 t,aa,af (by decide)];unfold aKg;generalize iI b=d;exact afM (c:=c) (b:=b) (m:=(d.1,0,(ak,cc),cc,cc,0,nd)) (s:=d.2) fun h=>⟨aR _,dy,dy,dy⟩
def acU {b:List Int}(a:da b)(c:Int×Int):CP F0 c b=some ((gy c b).1,(gy c b).2,()):=by
 have v:bI F0 (b,0,false)=some (((iI b).1,()),X3 b (iI b).2,()):=na a (s:=(0,true)) (aR _);have i:(iI b).2.1<=b.length:=(dU a (s:=(0,true)) (aR _)).1;have j:=(dU a i).1;have k:=(dU a j).1;have w:=(dU a k).1;have t0:=x0 a i;have t1:=x0 a j;have l:=SE a t0.1;have n:=SE a k;have o:=aqe a t1.1;rw[ast,v,ai];unfold gy afN;dsimp only;by_cases p:((iI b).1==1)=true
 .rw[p,ae,ag rfl,YX a i,ai,awQ a t0.1,ai];unfold aIT;generalize wK b (cW b (iI b).2).2=e at l ⊢;generalize cW b (iI b).2=f at t0 ⊢;generalize iI b=d;exact X4 (c:=c) (b:=b) (m:=(d.1,0,(f.1,e.1),cc,cc,0,nd)) (s:=e.2) fun h=>⟨t0.2,l.2 h,dy,dy⟩
 .rw[JX.2 p,aa,af (by decide)];by_cases q:((iI b).1==2)=true
  .rw[q,ae,ag rfl,na a i,ai,YX a j,ai,ay5 a t1.1,ai];unfold aIU;generalize B6 b (cW b (aU b (iI b).2).2).2=g at o ⊢;generalize cW b (aU b (iI b).2).2=e at t1 ⊢;generalize aU b (iI b).2=f;generalize iI b=d;exact X4 (c:=c) (b:=b) (m:=(d.1,0,(ak,cc),(f.1,e.1,g.1),cc,0,nd)) (s:=g.2) fun h=>⟨aR _,dy,⟨t1.2,o.2 h⟩,dy⟩
  .rw[JX.2 q,aa,af (by decide)];by_cases r:((iI b).1==3)=true
   .rw[r,ae,ag rfl,na a i,ai,na a j,ai,awQ a k,ai];unfold aIV;generalize wK b (aU b (aU b (iI b).2).2).2=g at n ⊢;generalize aU b (aU b (iI b).2).2=e;generalize aU b (iI b).2=f;generalize iI b=d;exact X4 (c:=c) (b:=b) (m:=(d.1,f.1,(ak,cc),cc,g.1,e.1,nd)) (s:=g.2) fun h=>⟨aR _,dy,dy,n.2 h⟩
   .rw[JX.2 r,aa,af (by decide)];by_cases t:((iI b).1==4)=true
    .rw[t,ae,ag rfl,na a i,ai,na a j,ai,na a k,ai,na a w,ai];unfold aIW;generalize aU b (aU b (aU b (aU b (iI b).2).2).2).2=u;generalize aU b (aU b (aU b (iI b).2).2).2=g;generalize aU b (aU b (iI b).2).2=e;generalize aU b (iI b).2=f;generalize iI b=d;exact X4 (c:=c) (b:=b) (m:=(d.1,0,(ak,cc),cc,cc,0,f.1,e.1,g.1,u.1)) (s:=u.2) fun h=>⟨aR _,dy,dy,dy⟩
    .rw[JX.2 t,aa,af (by decide)];unfold aKg;generalize iI b=d;exact X4 (c:=c) (b:=b) (m:=(d.1,0,(ak,cc),cc,cc,0,nd)) (s:=d.2) fun h=>⟨aR _,dy,dy,dy⟩
structure kq (w:ah):Prop where
 l:w.2.1.length<=1048576
 r:w.2.2.1.length<=1048576
 rl:∀x∈w.2.2.1,aqc x
 n:w.2.2.2.1.length<=1048576
 nb:∀x∈w.2.2.2.1,da x.2
 s:w.2.2.2.2.length<=1048576
 st:∀x∈w.2.2.2.2,x.2.1.size<=1048576
def aBz (c:Int×Int):MG F0 c=some (tG c,()):=by
 rw[an8,ix,ai];unfold tG;dsimp only;cases h:bq c with
 |false=>rfl
 |true =>
  have:=b3 h;have a:=ayL this.1 this.2.1;have e:aj (c.1-1)=c.1-1:=aI (by omega) (by omega);rw[aN,aa,e,aI (n:=Int.tdiv (c.1-1) 3) (by omega) (by omega),ag rfl]
def abr:aw:=(0,0,0,(0,0,cc,ak),[],[],([],0),[])
def aBA:gw:=(0,[])
def L7:cJ:=(0,ak,0)
def aqf (c:Int×Int)(l:List aw)(k:Nat):Bool:=mZ c (l.getD k abr)&&((l.getD k abr).1==(k:Int))
def acV (c:Int×Int)(l:List gw)(k:Nat):Bool:=(gy c (l.getD k aBA).2).2&&gp 0 (aj (c.1-1)) (l.getD k aBA).1
def acW (c:Int×Int)(l:List cJ)(k:Nat):Bool:=gp 0 (aj (c.1-1)) (l.getD k L7).2.2&&(bg (l.getD k L7).2.1.data.toList&&(aD (l.getD k L7).2.1.data.toList==(l.getD k L7).1))
def aqg (w:ah):Bool:=(List.range w.2.2.1.length).all (aqf w.1 w.2.2.1)
def Jt (w:ah):Bool:=(List.range w.2.2.2.1.length).all (acV w.1 w.2.2.2.1)
def s9 (w:ah):Bool:=(List.range w.2.2.2.2.length).all (acW w.1 w.2.2.2.2)
def fa (w:ah):Bool :=
 bq w.1&&(iH w.1.1 w.2.1&&(!decide ((w.2.1.length:Int)>tG w.1)&&(!((w.2.2.1.length:Int) != w.1.1)&&(!decide ((w.2.2.2.1.length:Int)>60)&&(!decide ((w.2.2.2.2.length:Int)>300)&&(aqg w&&(Jt w&&s9 w)))))))
def amJ (a b:Bool):(if a=true then some (b,()) else some (false,()))=some (a&&b,()):=by cases a<;>rfl
def aBB {w:ah}(h:kq w):qb F0 (l8 F0) F0.n (l7 0 w.1.1 w.1.2 w.2.1 w.2.2.1 w.2.2.2.1 w.2.2.2.2)=some (s9 w,()):=by
 have d:=h.s;rw[eM (fun m k=>qb F0 (l8 F0) m (l7 k w.1.1 w.1.2 w.2.1 w.2.2.1 w.2.2.2.1 w.2.2.2.2)) w.2.2.2.2.length (acW w.1 w.2.2.2.2) (some (true,())) (some (false,())) (fun m k a=>?_) (fun m=>?_) _ (by rw[bB];omega),rC]
 .rfl
 .have c:=h.st _ (bH a);rw[G5,aM a,ae,an a,ab,aT a,cQ,ai,JP c,ai,o5 c,ai,aeb,al (by omega)];unfold acW;rw[aJ a];dsimp only;cases gp 0 (aj (w.1.1-1)) (w.2.2.2.2[k]).2.2<;>cases bg (w.2.2.2.2[k]).2.1.data.toList<;>try rfl
  by_cases b:aD (w.2.2.2.2[k]).2.1.data.toList=(w.2.2.2.2[k]).1
  .rw[show(aD (w.2.2.2.2[k]).2.1.data.toList != (w.2.2.2.2[k]).1)=false from SZ.2 b,show(aD (w.2.2.2.2[k]).2.1.data.toList==(w.2.2.2.2[k]).1)=true from bf.2 b];rfl
  .rw[E3.2 b,bT.2 b];rfl
 .rw[G5,aE,aa,ab2]
def aBC {w:ah}(h:kq w):qc F0 (ma F0) F0.n (l9 0 w.1.1 w.1.2 w.2.1 w.2.2.1 w.2.2.2.1 w.2.2.2.2)=some (Jt w&&s9 w,()):=by
 have b:=h.n;rw[eM (fun m k=>qc F0 (ma F0) m (l9 k w.1.1 w.1.2 w.2.1 w.2.2.1 w.2.2.2.1 w.2.2.2.2)) w.2.2.2.1.length (acV w.1 w.2.2.2.1) (some (s9 w,())) (some (false,())) (fun m k a=>?_) (fun m=>?_) _ (by rw[bB];omega),amJ]
 .rfl
 .rw[G6,aM a,ae,an a,ab,aT a,show((w.1.1,w.1.2):Int×Int)=w.1 from rfl,atZ (h.nb _ (bH a)),ai,ab,cQ,ai,aec,al (by omega)];unfold acV;rw[aJ a];dsimp only;cases (gy w.1 (w.2.2.2.1[k]).2).2<;>cases gp 0 (aj (w.1.1-1)) (w.2.2.2.1[k]).1<;>rfl
 .rw[G6,aE,aa,ab3,aBB h]
def aE8 {w:ah}(h:kq w):qJ F0 (mc F0) F0.n (mb 0 w.1.1 w.1.2 w.2.1 w.2.2.1 w.2.2.2.1 w.2.2.2.2)=some (aqg w&&(Jt w&&s9 w),()):=by
 have c:=h.r;rw[eM (fun m k=>qJ F0 (mc F0) m (mb k w.1.1 w.1.2 w.2.1 w.2.2.1 w.2.2.2.1 w.2.2.2.2)) w.2.2.1.length (aqf w.1 w.2.2.1) (some (Jt w&&s9 w,())) (some (false,())) (fun m k a=>?_) (fun m=>?_) _ (by rw[bB];omega),amJ]
 .rfl
 .rw[G7,aM a,ae,an a,ab,aT a,ab,show((w.1.1,w.1.2):Int×Int)=w.1 from rfl,hY (h.rl _ (bH a)),ai,aed,al (by omega)];unfold aqf;rw[aJ a];dsimp only;by_cases b:(w.2.2.1[k]).1=(k:Int)
  .rw[show((w.2.2.1[k]).1 != (k:Int))=false from SZ.2 b,show((w.2.2.1[k]).1==(k:Int))=true from bf.2 b,aa,Bool.and_true];cases mZ w.1 w.2.2.1[k]<;>rfl
  .rw[E3.2 b,bT.2 b,ae,adt];rfl
 .rw[G7,aE,aa,ab4,aBC h]
def ay6 {w:ah}(h:kq w):yJ F0 w=some (fa w,()):=by rw[ak0,ix,ai,air (bX h.l (by omega)),ai,aBz,ai,aE8 h];unfold fa;cases bq w.1<;>cases iH w.1.1 w.2.1<;>cases decide ((w.2.1.length:Int)>tG w.1)<;>cases ((w.2.2.1.length:Int) != w.1.1)<;>cases decide ((w.2.2.2.1.length:Int)>60)<;>cases decide ((w.2.2.2.2.length:Int)>300)<;>rfl
def aBD {w:ah}(h:kq w):rh F0 (mH F0) F0.n (mG w.2.2.2.2 (w.2.2.2.2.length:Int) 0 w.1.1 w.1.2)=some (s9 w,()):=by
 have d:=h.s;rw[eM (fun m k=>rh F0 (mH F0) m (mG w.2.2.2.2 (w.2.2.2.2.length:Int) k w.1.1 w.1.2)) w.2.2.2.2.length (acW w.1 w.2.2.2.2) (some (true,())) (some (false,())) (fun m k a=>?_) (fun m=>?_) _ (by rw[bB];omega),rC]
 .rfl
 .have c:=h.st _ (bH a);rw[Hy,aM a,ae,an a,ab,aT a,bR,ai,C6 c,ai,rB c,ai,aeM,al (by omega)];unfold acW;rw[aJ a];dsimp only;cases gp 0 (aj (w.1.1-1)) (w.2.2.2.2[k]).2.2<;>cases bg (w.2.2.2.2[k]).2.1.data.toList<;>try rfl
  by_cases b:aD (w.2.2.2.2[k]).2.1.data.toList=(w.2.2.2.2[k]).1
  .rw[show(aD (w.2.2.2.2[k]).2.1.data.toList != (w.2.2.2.2[k]).1)=false from SZ.2 b,show(aD (w.2.2.2.2[k]).2.1.data.toList==(w.2.2.2.2[k]).1)=true from bf.2 b];rfl
  .rw[E3.2 b,bT.2 b];rfl
 .rw[Hy,aE,aa,acs]
def aBE {w:ah}(h:kq w):ri F0 (mJ F0) F0.n (mI w.2.2.2.1 (w.2.2.2.1.length:Int) 0 w.1.1 w.1.2 w.2.1 w.2.2.1 w.2.2.2.1 w.2.2.2.2 w.1.1 w.1.2)=some (Jt w&&s9 w,()):=by
 have b:=h.n;rw[eM (fun m k=>ri F0 (mJ F0) m (mI w.2.2.2.1 (w.2.2.2.1.length:Int) k w.1.1 w.1.2 w.2.1 w.2.2.1 w.2.2.2.1 w.2.2.2.2 w.1.1 w.1.2)) w.2.2.2.1.length (acV w.1 w.2.2.2.1) (some (s9 w,())) (some (false,())) (fun m k a=>?_) (fun m=>?_) _ (by rw[bB];omega),amJ]
 .rfl
 .rw[Hz,aM a,ae,an a,ab,aT a,show((w.1.1,w.1.2):Int×Int)=w.1 from rfl,acU (h.nb _ (bH a)),ai,bR,ai,aeN,al (by omega)];unfold acV;rw[aJ a];dsimp only;cases (gy w.1 (w.2.2.2.1[k]).2).2<;>cases gp 0 (aj (w.1.1-1)) (w.2.2.2.1[k]).1<;>rfl
 .rw[Hz,aE,aa,acu,aBD h]
def aE9 {w:ah}(h:kq w):rj F0 (mL F0) F0.n (mK w.2.2.1 (w.2.2.1.length:Int) 0 w.1.1 w.1.2 w.2.1 w.2.2.1 w.2.2.2.1 w.2.2.2.2 w.1.1 w.1.2)=some (aqg w&&(Jt w&&s9 w),()):=by
 have c:=h.r;rw[eM (fun m k=>rj F0 (mL F0) m (mK w.2.2.1 (w.2.2.1.length:Int) k w.1.1 w.1.2 w.2.1 w.2.2.1 w.2.2.2.1 w.2.2.2.2 w.1.1 w.1.2)) w.2.2.1.length (aqf w.1 w.2.2.1) (some (Jt w&&s9 w,())) (some (false,())) (fun m k a=>?_) (fun m=>?_) _ (by rw[bB];omega),amJ]
 .rfl
 .rw[HA,aM a,ae,an a,ab,aT a,show((w.1.1,w.1.2):Int×Int)=w.1 from rfl,dS (h.rl _ (bH a)),ai,aeO,al (by omega)];unfold aqf;rw[aJ a];dsimp only;by_cases b:(w.2.2.1[k]).1=(k:Int)
  .rw[show((w.2.2.1[k]).1 != (k:Int))=false from SZ.2 b,show((w.2.2.1[k]).1==(k:Int))=true from bf.2 b,aa,Bool.and_true];cases mZ w.1 w.2.2.1[k]<;>rfl
  .rw[E3.2 b,bT.2 b,ae,adt];cases mZ w.1 w.2.2.1[k]<;>rfl
 .rw[HA,aE,aa,acv,aBE h]
def gJ {w:ah}(h:kq w):b6 F0 w=some (fa w,()):=by rw[alS,fS,ai,acQ (bX h.l (by omega)),ai,aj6,ai,aE9 h];unfold fa;cases bq w.1<;>cases iH w.1.1 w.2.1<;>cases decide ((w.2.1.length:Int)>tG w.1)<;>cases ((w.2.2.1.length:Int) != w.1.1)<;>cases decide ((w.2.2.2.1.length:Int)>60)<;>cases decide ((w.2.2.2.2.length:Int)>300)<;>rfl
structure aNi (r:aw):Prop where
 i1:I64 r.1
 i2:I64 r.2.1
 i3:I64 r.2.2.2.1.1
 i4:I64 r.2.2.2.1.2.1
 i5:I64 r.2.2.2.1.2.2.1.1
 d:r.2.2.2.1.2.2.2.size<=1048576
 p:r.2.2.2.2.1.length<=1048576
 t:r.2.2.2.2.2.1.length<=1048576
 h:r.2.2.2.2.2.2.2.length<=1048576
def aKh (l:List Int)(a b:cJ):Bool:= !decide (a.2.2∈l)&&((a.2.2==b.2.2)&&((a.1==b.1)&& !(a.2.1.toList==b.2.1.toList)))
def okV (w:ah)(i k:Nat):Bool:= !aKh w.2.1 (w.2.2.2.2.getD i L7) (w.2.2.2.2.getD k L7)
def YY (w:ah):Bool:=fa w&&(List.range w.2.2.2.2.length).all fun i=>(List.range w.2.2.2.2.length).all (okV w i)
def aBF {V:Type}(h a b c:Bool)(x y:V):br (!h) (br a (br b (br (!c) x y) y) y) y=if (!(!h&&(a&&(b&& !c))))=true then y else x:=by cases h<;>cases a<;>cases b<;>cases c<;>rfl
def aFa {w:ah}(h:kq w){γ:Type}(J:Ex->St->Option γ)(n:Nat){i:Nat}(hi:i<w.2.2.2.2.length) :
  ey F0 (iC F0 J n) F0.n (dv w.2.2.2.2 (w.2.2.2.2.length:Int) (i:Int) w.2.2.2.2 (w.2.2.2.2.length:Int) 0 w.1.1 w.1.2 w.2.1 w.2.2.1 w.2.2.2.1 w.2.2.2.2 (w.2.2.2.2[i]).1 (w.2.2.2.2[i]).2.1 (w.2.2.2.2[i]).2.2) =
  if (List.range w.2.2.2.2.length).all (okV w i)=true then ln F0 J n (iD w.2.2.2.2 (w.2.2.2.2.length:Int) ((i+1:Nat):Int) w.1.1 w.1.2 w.2.1 w.2.2.1 w.2.2.2.1 w.2.2.2.2) else J .ret (tD false):=by
 have b:=h.s;have c:=h.l;refine eM (fun m k=>ey F0 (iC F0 J n) m (dv w.2.2.2.2 (w.2.2.2.2.length:Int) (i:Int) w.2.2.2.2 (w.2.2.2.2.length:Int) k w.1.1 w.1.2 w.2.1 w.2.2.1 w.2.2.2.1 w.2.2.2.2 (w.2.2.2.2[i]).1 (w.2.2.2.2[i]).2.1 (w.2.2.2.2[i]).2.2)) w.2.2.2.2.length (okV w i) _ _ (fun m k a=>?_) (fun m=>?_) _ (by rw[bB];omega)
 .rw[Bm,aM a,ae,an a,ab,aT a,eA (by omega),ai,XJ,al (by omega)];dsimp only;rw[aBF];unfold okV aKh;rw[aJ hi,aJ a]
 .rw[Bm,aE,aa,U7,al (by omega)]
def amv {w:ah}(h:kq w):vZ F0 w=some (YY w,()):=by
 have b:=h.s;rw[acH,gJ h,ai,eM (fun m k=>ln F0 (lU F0) m (iD w.2.2.2.2 (w.2.2.2.2.length:Int) k w.1.1 w.1.2 w.2.1 w.2.2.1 w.2.2.2.1 w.2.2.2.2)) w.2.2.2.2.length (fun i=>(List.range w.2.2.2.2.length).all (okV w i)) (some (true,())) (some (false,())) (fun m k a=>?_) (fun m=>?_) _ (by rw[bB];omega),rC]
 .unfold YY;cases fa w<;>rfl
 .rw[Bn,aM a,ae,an a,ab,aT a,aFa h _ _ a,XK]
 .rw[Bn,aE,aa,U8]
def j7 (l:List Int):Nat->List Int
 |0=>[]|k+1=>j7 l k++if (k:Int)∈l then [] else [(k:Int)]
def j8 (l:List Int):∀k,(j7 l k).length<=k
 |0=>bG _|k+1=>by
  have:=j8 l k;unfold j7;split
  .rw[fh];omega
  .rw[aK,cS];omega
def aix (l:List Int):∀k,∀x∈j7 l k,0<=x/\x<k
 |0,x,h=>by cases h
 |k+1,x,h=>by
  unfold j7 at h;rcases gK.1 h with h1|h1
  .have:=aix l k x h1;omega
  .split at h1
   .cases h1
   .rw[fm.1 h1];omega
def av (w:ah):List Int:=j7 w.2.1 w.2.2.1.length
def akc {V:Type}(X:List Int->V)(l xs:List Int)(k:Int):br (!decide (k∈l)) (X (xs++[k])) (X xs)=X (xs++if k∈l then [] else [k]):=by
 by_cases h:k∈l
 .rw[aL h,ag h,fh];rfl
 .rw[aQ h,af h];rfl
def aqh {w:ah}(h:kq w):Ft F0 w=some (av w,()):=by
 have e:=h.r;have f:=h.l;rw[aoO];refine cu (fun n i (a:List Int)=>oX F0 (vl F0) n (ky i w.1.1 w.1.2 w.2.1 w.2.2.1 w.2.2.2.1 w.2.2.2.2 a)) w.2.2.1.length (fun k a=>a=j7 w.2.1 k) _ (fun n k a c b=>.inr ⟨j7 w.2.1 (k+1),?_,rfl⟩) (fun n a b=>?_) _ 0 [] (aR _) rfl (by rw[bB];omega)
 .have d:=j8 w.2.1 k;rw[<-b]at d;rw[KW,aM c,ae,fC (by omega),ai,ar (by omega) (by omega) (by rw[cS];omega),ab,al (by omega)];dsimp only;rw[akc (fun a=>oX F0 (vl F0) n (ky ((k+1:Nat):Int) w.1.1 w.1.2 w.2.1 w.2.2.1 w.2.2.2.1 w.2.2.2.2 a)),b];rfl
 .rw[KW,aE,aa,aez,b];rfl
def lr {w:ah}(h:kq w):fR F0 w=some (av w,()):=by
 have e:=h.r;have f:=h.l;rw[apj];refine cu (fun n i (a:List Int)=>oZ F0 (vE F0) n (kC (w.2.2.1.length:Int) i w.1.1 w.1.2 w.2.1 w.2.2.1 w.2.2.2.1 w.2.2.2.2 a)) w.2.2.1.length (fun k a=>a=j7 w.2.1 k) _ (fun n k a c b=>.inr ⟨j7 w.2.1 (k+1),?_,rfl⟩) (fun n a b=>?_) _ 0 [] (aR _) rfl (by rw[bB];omega)
 .have d:=j8 w.2.1 k;rw[<-b]at d;rw[Ln,aM c,ae,eA (by omega),ai,ar (by omega) (by omega) (by rw[cS];omega),ab,al (by omega)];dsimp only;rw[akc (fun a=>oZ F0 (vE F0) n (kC (w.2.2.1.length:Int) ((k+1:Nat):Int) w.1.1 w.1.2 w.2.1 w.2.2.1 w.2.2.2.1 w.2.2.2.2 a)),b];rfl
 .rw[Ln,aE,aa,aeV,b];rfl
def nc {w:ah}{k:Nat}(a:k<(av w).length):∃j:Nat,(av w)[k]=(j:Int)/\j<w.2.2.1.length:=by have:=aix w.2.1 w.2.2.1.length _ (bH a);exact⟨(av w)[k].toNat,by show _=(((av w)[k]).toNat:Int);have b:0<=(av w)[k]:=this.1;omega,by have b:0<=(av w)[k]:=this.1;have c:(av w)[k]<w.2.2.1.length:=this.2;omega⟩
def aG9 (w:ah)(x:Int):ByteArray:=(w.2.2.1.getD x.toNat abr).2.2.2.1.2.2.2
def amw (s t:ByteArray):Bool:=bg s.data.toList&&(bg t.data.toList&&(decide ((s.size:Int)>=(t.size:Int))&&(((s.extract 0 t.size).toList==t.toList)&&(((s.size:Int)==(t.size:Int)) || (jO s (t.size:Int)==47)))))
def ay7 {s t:ByteArray}(b:s.size<=1048576)(c:t.size<=1048576):IA F0 s t=some (amw s t,()):=by
 rw[alg,JP b,ai,JP c,ai];unfold amw;dsimp only;cases bg s.data.toList<;>cases bg t.data.toList<;>try rfl
 rw[aN,aa,aa,eD,eD];by_cases d:t.size<=s.size
 .rw[aQ (show ¬(t.size:Int)>(s.size:Int) by omega),aa,aL (show(s.size:Int)>=(t.size:Int) by omega),eD,aG6 d,ab,gr,show(0:Int).toNat=0 from rfl];cases ((s.extract 0 t.size).toList==t.toList)<;>try rfl
  rw[aN,aa,eD];by_cases a:(s.size:Int)=(t.size:Int)
  .rw[show((s.size:Int)==(t.size:Int))=true from bf.2 a];rfl
  .rw[bT.2 a,aa,an (by omega),ab];rfl
 .rw[aL (show(t.size:Int)>(s.size:Int) by omega),ae,aQ (show ¬(s.size:Int)>=(t.size:Int) by omega)];rfl
def SF {s t:ByteArray}(b:s.size<=1048576)(c:t.size<=1048576):sM F0 s t=some (amw s t,()):=by
 rw[al9,C6 b,ai,C6 c,ai,Xp,O8];unfold amw;dsimp only;cases bg s.data.toList<;>cases bg t.data.toList<;>try rfl
 rw[ae,ae,eD,eD];by_cases d:t.size<=s.size
 .rw[aL (show(s.size:Int)>=(t.size:Int) by omega),eD,ae,aG6 d,ab,gr,show(0:Int).toNat=0 from rfl,ai,ai];dsimp only;cases ((s.extract 0 t.size).toList==t.toList)<;>try rfl
  rw[ae,eD];by_cases a:(s.size:Int)=(t.size:Int)
  .rw[show((s.size:Int)==(t.size:Int))=true from bf.2 a];rfl
  .rw[bT.2 a,aa,an (by omega),ab];rfl
 .rw[aQ (show ¬(s.size:Int)>=(t.size:Int) by omega)];rfl
def akd (s t:ByteArray):Bool:=amw s t || amw t s
def aBG {s t:ByteArray}(a:s.size<=1048576)(b:t.size<=1048576):Sp F0 s t=some (akd s t,()):=by rw[asG,SF a b,ai,SF b a,ai];unfold akd;cases amw s t<;>rfl
def dn (w:ah)(i:Nat):ByteArray:=aG9 w ((av w).getD i 0)
def aDZ {w:ah}{i j:Nat}(hi:i<(av w).length)(e:(av w)[i]=(j:Int))(a:j<w.2.2.1.length):dn w i=(w.2.2.1[j]).2.2.2.1.2.2.2:=by unfold dn aG9;rw[aJ hi,e,gr,aJ a]
def at0 (w:ah):Bool:=fa w&&(List.range (av w).length).all fun i=>(List.range (av w).length).all fun k=>akd (dn w i) (dn w k)
def aIX {w:ah}(h:kq w){γ:Type}(J:Ex->St->Option γ)(n:Nat){i:Nat}(hi:i<(av w).length) :
  oL F0 (lj F0 J n) F0.n (lh (av w)[i] ((av w).length:Int) (i:Int) ((av w).length:Int) 0 w.1.1 w.1.2 w.2.1 w.2.2.1 w.2.2.2.1 w.2.2.2.2 (av w) (av w)) =
  if ((List.range (av w).length).all fun k=>akd (dn w i) (dn w k))=true then oM F0 J n (ll ((av w).length:Int) ((i+1:Nat):Int) w.1.1 w.1.2 w.2.1 w.2.2.1 w.2.2.2.1 w.2.2.2.2 (av w)) else J .ret (Bl false):=by
 have hlen:(av w).length<=1048576:=bX (j8 w.2.1 w.2.2.1.length) h.r;obtain⟨f,e,b⟩:=nc hi;refine eM (fun m k=>oL F0 (lj F0 J n) m (lh (av w)[i] ((av w).length:Int) (i:Int) ((av w).length:Int) k w.1.1 w.1.2 w.2.1 w.2.2.1 w.2.2.2.1 w.2.2.2.2 (av w) (av w))) (av w).length (fun k=>akd (dn w i) (dn w k)) _ _ (fun m k a=>?_) (fun m=>?_) _ (by rw[bB];omega)
 .obtain⟨g,d,c⟩:=nc a;rw[FQ,aM a,ae,an a,ab,e,an b,ab,aT a,d,an c,ab,aT b,aT c,aBG (h.rl _ (bH b)).s.2 (h.rl _ (bH c)).s.2,ai,acF,al (by omega),aDZ hi e b,aDZ a d c];dsimp only;cases akd (w.2.2.1[f]).2.2.2.1.2.2.2 (w.2.2.1[g]).2.2.2.1.2.2.2<;>rfl
 .rw[FQ,aE,aa,ZC,al (by omega)]
def asM {w:ah}(h:kq w):EU F0 w=some (at0 w,()):=by
 have hlen:(av w).length<=1048576:=bX (j8 w.2.1 w.2.2.1.length) h.r;rw[aid,gJ h,ai,lr h,ai];unfold at0;dsimp only;cases b:fa w with
 |false=>rfl
 |true =>
  rw[aN,aa,eD,eM (fun m k=>oM F0 (pW F0) m (ll ((av w).length:Int) k w.1.1 w.1.2 w.2.1 w.2.2.1 w.2.2.2.1 w.2.2.2.2 (av w))) (av w).length (fun i=>(List.range (av w).length).all fun k=>akd (dn w i) (dn w k)) (some (true,())) (some (false,())) (fun m k a=>?_) (fun m=>?_) _ (by rw[bB];omega),rC]
  .rw[FR,aM a,ae,an a,ab,show(((w.1.1,w.1.2),w.2.1,w.2.2.1,w.2.2.2.1,w.2.2.2.2):ah)=w from rfl,lr h,ai];dsimp only;rw[aT a,aIX h _ _ a,acG]
  .rw[FR,aE,aa,ZD]
def X5 (w:ah)(x:Int):bZ:=(w.2.2.1.getD x.toNat abr).2.2.2.1.2.2.1
def SG (c:Int×Int)(x:gw):List bZ:=if ((gy c x.2).1.1==1)=true then [(gy c x.2).1.2.2.1.2] else if ((gy c x.2).1.1==3)=true then [(gy c x.2).1.2.2.2.2.1] else []
def EW (c:Int×Int):List gw->List bZ->List bZ
 |[],xs=>xs|x::l,xs=>EW c l (xs++SG c x)
def afO (c:Int×Int):∀(l:List gw) (xs:List bZ) (x:gw),EW c (l++[x]) xs=EW c l xs++SG c x
 |[],_,_=>rfl|_::l,_,x=>afO c l _ x
def aBH (c:Int×Int)(x:gw):(SG c x).length<=1:=by
 unfold SG;split
 .exact bG _
 .split
  .exact bG _
  .exact aR _
def X6 (c:Int×Int):∀(l:List gw) (xs:List bZ),(EW c l xs).length<=xs.length+l.length
 |[],_=>bG _|x::l,xs=>by have a:=X6 c l (xs++SG c x);have b:=aBH c x;rw[aK]at a;unfold EW;rw[aW];omega
def L8 (w:ah):List bZ:=EW w.1 w.2.2.2.1 ((av w).map (X5 w))
def aFb {V:Type}(X:List bZ->V)(c:Int×Int)(x:gw)(xs:List bZ) :
  br ((gy c x.2).1.1==1) (X (xs++[(gy c x.2).1.2.2.1.2])) (br ((gy c x.2).1.1==3) (X (xs++[(gy c x.2).1.2.2.2.2.1])) (X xs))=X (xs++SG c x):=by
 unfold SG;cases ((gy c x.2).1.1==1) with
 |true=>rfl
 |false =>
  cases ((gy c x.2).1.1==3) with
  |true=>rfl
  |false =>
   rw[af (by decide),af (by decide),fh];rfl
def aFc {U V:Type}(f:U->V)(l:List U)(x:U):(l++[x]).map f=l.map f++[f x]:=by rw[adr,List.map_singleton]
def aKi (a b:bZ):Bool:=(a.1==b.1)&& !(a.2.1.toList==b.2.1.toList)
def UU (l:List bZ)(i k:Nat):Bool:= !aKi (l.getD i cc) (l.getD k cc)
def YZ (w:ah):Bool:=fa w&&(List.range (L8 w).length).all fun i=>(List.range (L8 w).length).all (UU (L8 w) i)
def aBI {w:ah}(h:kq w):(L8 w).length<=2097152:=by have hlen:(av w).length<=1048576:=bX (j8 w.2.1 w.2.2.1.length) h.r;have a:=X6 w.1 w.2.2.2.1 ((av w).map (X5 w));have b:=h.n;rw[nh]at a;unfold L8;omega
def aBJ {V:Type}(a b:Bool)(x y:V):br a (br (!b) x y) y=if (!(a&& !b))=true then y else x:=by cases a<;>cases b<;>rfl
def aFd {l:List bZ}(b:l.length<=2097152){γ:Type}(J:Ex->St->Option γ)(n:Nat){i:Nat}(hi:i<l.length):hV F0 (iE F0 J n) F0.n (fK (l.length:Int) (i:Int) (l.length:Int) 0 (l[i]).1 (l[i]).2.1 (l[i]).2.2 l) =
  if (List.range l.length).all (UU l i)=true then hX F0 J n (fL (l.length:Int) ((i+1:Nat):Int) l) else J .ret (tE false):=by
 refine eM (fun m k=>hV F0 (iE F0 J n) m (fK (l.length:Int) (i:Int) (l.length:Int) k (l[i]).1 (l[i]).2.1 (l[i]).2.2 l)) l.length (UU l i) _ _ (fun m k a=>?_) (fun m=>?_) _ (by rw[bB];omega)
 .rw[Bo,aM a,ae,an a,ab,aT a,XL,al (by omega),aBJ];unfold UU aKi;rw[aJ hi,aJ a]
 .rw[Bo,aE,aa,U9,al (by omega)]
def aBK {l:List bZ}(b:l.length<=2097152):hX F0 (iF F0) F0.n (fL (l.length:Int) 0 l)=some (((List.range l.length).all fun i=>(List.range l.length).all (UU l i)),()):=by
 rw[eM (fun m k=>hX F0 (iF F0) m (fL (l.length:Int) k l)) l.length (fun i=>(List.range l.length).all (UU l i)) (some (true,())) (some (false,())) (fun m k a=>?_) (fun m=>?_) _ (by rw[bB];omega),rC]
 .rw[Bp,aM a,ae,an a,ab,aT a,aFd b _ _ a,XM]
 .rw[Bp,aE,aa,Va]
def aBL {w:ah}(h:kq w){b:List bZ}(g:b.length<=1048576){R:Option (Bool×Unit)}(e:fM F0 (.exit 2) (rz (EW w.1 w.2.2.2.1 b))=R) :
  ez F0 (fM F0) F0.n (dw w.2.2.2.1 (w.2.2.2.1.length:Int) 0 w.1.1 w.1.2 w.2.1 w.2.2.1 w.2.2.2.1 w.2.2.2.2 b)=R:=by
 have j:=h.n;refine cu (fun n i (a:List bZ)=>ez F0 (fM F0) n (dw w.2.2.2.1 (w.2.2.2.1.length:Int) i w.1.1 w.1.2 w.2.1 w.2.2.1 w.2.2.2.1 w.2.2.2.2 a)) w.2.2.2.1.length (fun k a=>a=EW w.1 (w.2.2.2.1.take k) b) _ (fun n k a c d=>.inr ⟨EW w.1 (w.2.2.2.1.take (k+1)) b,?_,rfl⟩) (fun n a d=>?_) _ 0 b (aR _) rfl (by rw[bB];omega)
 .have f:=X6 w.1 (w.2.2.2.1.take k) b;rw[<-d,bz]at f;rw[Bq,aM c,ae,an c,ab,aT c,show((w.1.1,w.1.2):Int×Int)=w.1 from rfl,acU (h.nb _ (bH c)),ai,ar (by omega) (by omega) (by rw[cS];omega),ab,ar (by omega) (by omega) (by rw[cS];omega),ab,al (by omega),ef c,afO,<-d];exact aFb (fun a=>ez F0 (fM F0) n (dw w.2.2.2.1 (w.2.2.2.1.length:Int) ((k+1:Nat):Int) w.1.1 w.1.2 w.2.1 w.2.2.1 w.2.2.2.1 w.2.2.2.2 a)) w.1 w.2.2.2.1[k] a
 .rw[Bq,aE,aa,d,ki];exact e
def amx {w:ah}(h:kq w):v7 F0 w=some (YZ w,()):=by
 have hlen:(av w).length<=1048576:=bX (j8 w.2.1 w.2.2.1.length) h.r;have f:=aBI h;rw[acJ,gJ h,ai,lr h,ai];dsimp only;have key:lq F0 (lV F0) F0.n (iG ((av w).length:Int) 0 w.1.1 w.1.2 w.2.1 w.2.2.1 w.2.2.2.1 w.2.2.2.2 [] (av w))=some (((List.range (L8 w).length).all fun i=>(List.range (L8 w).length).all (UU (L8 w) i)),()):=by
  refine cu (fun n i (a:List bZ)=>lq F0 (lV F0) n (iG ((av w).length:Int) i w.1.1 w.1.2 w.2.1 w.2.2.1 w.2.2.2.1 w.2.2.2.2 a (av w))) (av w).length (fun k a=>a=((av w).take k).map (X5 w)) _ (fun n k a b c=>.inr ⟨((av w).take (k+1)).map (X5 w),?_,rfl⟩) (fun n a c=>?_) _ 0 [] (aR _) rfl (by rw[bB];omega)
  .obtain⟨g,e,d⟩:=nc b;have f:a.length<=1048576:=by rw[c,nh,bz];omega
   have j:X5 w (g:Int)=(w.2.2.1[g]).2.2.2.1.2.2.1:=by unfold X5;rw[gr,aJ d]
   rw[Br,aM b,ae,an b,ab,aT b,e,an d,ab,ar (by omega) (by omega) (by rw[cS];omega),ab,al (by omega),aT d,ef b,aFc,<-c,e,j]
  .rw[Br,aE,aa,Vc,c,ki];exact aBL h (by rw[nh];omega) (by rw[Vb];exact aBK f)
 rw[key];unfold YZ;cases fa w<;>rfl
end Go.Am.Tryz
