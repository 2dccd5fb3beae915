/- No condition. -/
import Derived.Test.YtnllfndlcahalaaGreatDoorQoWJL1
import Derived.Test.YtnllfndlcahalaaGreatDoorQoAmWf
set_option linter.all false
namespace Go.Am.Tryz
open Go.Am
def aEU {c:Int×Int}{view s:Int}(b:bw c=true)(d:0<=view)(e:0<=s)(h:s<=c.1-1):bL c view (XV c view s)=s:=by
 have i:=b5 b;have f:=Vn (view%c.1+s) (show c.1≠0 by omega);have j:=am2 (view%c.1+s) (show 0<c.1 by omega);unfold XV;rw[ag ⟨b,d,e,h⟩];unfold bL;rw[ag ⟨b,d,f,by omega⟩];obtain⟨n,a⟩:=c;dsimp only at *;have g:n=4\/n=5\/n=6\/n=7:=by omega
 rcases g with rfl|rfl|rfl|rfl<;>omega
def aGO (c:Int×Int)(view:Int):bL c view (-1)=-1:=by unfold bL;rw[af (fun h=>by omega)]
def awR {c:Int×Int}{view i:Int}(h:0<=bL c view i):bw c=true/\0<=view/\bL c view i<=c.1-1:=by
 unfold bL at h ⊢;by_cases a:bw c=true/\0<=view/\0<=i/\i<=c.1-1
 .rw[ag a];have b:=b5 a.1;have d:=am2 (i+c.1-view%c.1) (show 0<c.1 by omega);exact⟨a.1,a.2.1,by omega⟩
 .rw[af a]at h;omega
def aDR {c:Int×Int}{view i:Int}(h:0<=bL c view i):bL c view (Rp c view i)<bL c view i:=by
 have a:=awR h;have d:=b5 a.1;unfold Rp;by_cases b:bL c view i<=0
 .rw[ag b,aGO];omega
 .have hd1:0<=(bL c view i-1)/c.2:=Int.ediv_nonneg (by omega) (by omega);have e:(bL c view i-1)/c.2<=bL c view i-1:=Int.ediv_le_self c.2 (by omega);rw[af b,aEU a.1 a.2.1 hd1 (by omega)];omega
def EP (c:Int×Int)(view:Int):Nat->Int->List Int
 |0,_=>[]|k+1,i=>if 0<=bL c view i then i::EP c view k (Rp c view i) else []
def afE (c:Int×Int)(view i:Int):List Int:=EP c view 8 i
def akb (c:Int×Int)(view:Int):∀(k:Nat) (i:Int),(EP c view k i).length<=k
 |0,_=>bF _|k+1,i=>by
  unfold EP;split
  .have:=akb c view k (Rp c view i);rw[aW];omega
  .exact aR _
def at1 (c:Int×Int)(view i:Int):(afE c view i).length<=8:=akb c view 8 i
def ayX (c:Int×Int)(view:Int){γ:Type}(J:Ex->St->Option γ):∀(k:Nat) (i:Int) (xs:List Int) (n:Nat),bL c view i<k->xs.length+k<=1000->k<n ->
  R7 F0 J n (Iz view i c.1 c.2 xs)=J (.exit 0) (OY (xs++EP c view k i))
 |0,i,xs,n,a,b,d=>by obtain⟨n,rfl⟩:∃m,n=m+1:=⟨n-1,by omega⟩;rw[TH,show((c.1,c.2):Int×Int)=c from rfl,XX,ai];dsimp only;rw[aQ (show ¬bL c view i>=0 by omega),aa,EP,fi]
 |k+1,i,xs,n,a,b,d=>by
  obtain⟨n,rfl⟩:∃m,n=m+1:=⟨n-1,by omega⟩;rw[TH,show((c.1,c.2):Int×Int)=c from rfl,XX,ai];unfold EP;dsimp only;by_cases h:0<=bL c view i
  .have e:=aDR h;rw[aL (show bL c view i>=0 from h),ae,ag h,ar (by omega) (by omega) (by rw[cR];omega),ab,aGN,ai];dsimp only;rw[ayX c view J k (Rp c view i) (xs++[i]) n (by omega) (by rw[aJ,cR];omega) (by omega),hl];rfl
  .rw[aQ (show ¬bL c view i>=0 from h),aa,af h,fi]
def ayY (c:Int×Int)(view:Int){γ:Type}(J:Ex->St->Option γ):∀(k:Nat) (i:Int) (xs:List Int) (n:Nat),bL c view i<k->xs.length+k<=1000->k<n ->
  Sj F0 J n (I5 view i c.1 c.2 xs)=J (.exit 0) (O8 (xs++EP c view k i))
 |0,i,xs,n,a,b,d=>by obtain⟨n,rfl⟩:∃m,n=m+1:=⟨n-1,by omega⟩;rw[Uu,show((c.1,c.2):Int×Int)=c from rfl,JJ,ai];dsimp only;rw[aQ (show ¬bL c view i>=0 by omega),aa,EP,fi]
 |k+1,i,xs,n,a,b,d=>by
  obtain⟨n,rfl⟩:∃m,n=m+1:=⟨n-1,by omega⟩;rw[Uu,show((c.1,c.2):Int×Int)=c from rfl,JJ,ai];unfold EP;dsimp only;by_cases h:0<=bL c view i
  .have e:=aDR h;rw[aL (show bL c view i>=0 from h),ae,ag h,ar (by omega) (by omega) (by rw[cR];omega),ab,aDQ,ai];dsimp only;rw[ayY c view J k (Rp c view i) (xs++[i]) n (by omega) (by rw[aJ,cR];omega) (by omega),hl];rfl
  .rw[aQ (show ¬bL c view i>=0 from h),aa,af h,fi]
def aIE (c:Int×Int)(view i:Int):aer F0 c view i=some (afE c view i,()):=by have a:=YR c view i;rw[ayB,ayX c view _ 8 i [] _ (by omega) (by rw[bm];omega) (by rw[bz];omega),aoC,BA];rfl
def aGP (c:Int×Int)(view i:Int):ae6 F0 c view i=some (afE c view i,()):=by have a:=YR c view i;rw[ayF,ayY c view _ 8 i [] _ (by omega) (by rw[bm];omega) (by rw[bz];omega),apz,BA];rfl
def cmn (b a:List Int):Nat:=a.countP fun x=>decide (x∈b)
def ayZ (b a:List Int)(x:Int):cmn b (a++[x])=cmn b a+if x∈b then 1 else 0:=by
 unfold cmn;rw[List.countP_append,List.countP_singleton];by_cases h:x∈b
 .simp[h]
 .simp[h]
def aGQ (b a:List Int):cmn b a<=a.length:=List.countP_le_length
def aBs {a b:List Int}(f:a.length<=1048576)(g:b.length<=1048576):MZ F0 a b=some ((cmn b a:Int),()):=by
 rw[aoD];refine cu (fun n i (q:Int)=>DQ F0 (Gv F0) n (u2 a b q i)) a.length (fun k q=>q=(cmn b (a.take k):Int)) _ (fun n k q c d=>.inr ⟨(cmn b (a.take (k+1)):Int),?_,rfl⟩) (fun n q d=>?_) _ 0 0 (aR _) rfl (by rw[bz];omega)
 .have e:=aGQ b (a.take k);rw[bB]at e;rw[KL,aM c,ae,an c,ab,aV c,fy (by omega),ai,ee c,ayZ,d,al (by omega)];dsimp only;rw[ash];by_cases h:a[k]∈b
  .rw[aL h,ae,ai,ag h];dsimp only;rw[al (by omega)]
  .rw[aQ h,aa,ai,af h];dsimp only;rw[aG (by omega) (by omega),Int.add_zero];rfl
 .rw[KL,aB,aa,aet,d,kc]
def ay0 {a b:List Int}(f:a.length<=1048576)(g:b.length<=1048576):NX F0 a b=some ((cmn b a:Int),()):=by
 rw[apA];refine cu (fun n i (q:Int)=>tW F0 (GN F0) n (oA b q a (a.length:Int) i)) a.length (fun k q=>q=(cmn b (a.take k):Int)) _ (fun n k q c d=>.inr ⟨(cmn b (a.take (k+1)):Int),?_,rfl⟩) (fun n q d=>?_) _ 0 0 (aR _) rfl (by rw[bz];omega)
 .have e:=aGQ b (a.take k);rw[bB]at e;rw[Lq,aM c,ae,an c,ab,aV c,eA (by omega),ai,ee c,ayZ,d,al (show k+1<=9223372036854775807 by omega)];dsimp only;by_cases h:a[k]∈b
  .rw[aL h,ae,ag h,al (by omega)]
  .rw[aQ h,aa,af h];rfl
 .rw[Lq,aB,aa,ae8,d,kc]
def Srt (l:List Int):Prop:=l.Pairwise (·< ·)
def ay1 {i x:Int}:∀{l:List Int},x∈amv i l↔x=i\/x∈l
 |[]=>by simp[amv]
 |y::l=>by
  unfold amv;split
  .rw[cS]
  .rw[cS,ay1,cS];constructor
   .rintro(h|h|h)
    .exact .inr (.inl h)
    .exact .inl h
    .exact .inr (.inr h)
   .rintro(h|h|h)
    .exact .inr (.inl h)
    .exact .inl h
    .exact .inr (.inr h)
def aGR {i x:Int}{l:List Int}:x∈Ro l i↔x=i\/x∈l:=by
 unfold Ro;split
 .rename_i h;exact⟨.inr,fun a=>a.elim (fun e=>e▸h) id⟩
 .exact ay1
def LW {x:Int}:∀(l a:List Int),x∈l.foldl Ro a↔x∈a\/x∈l
 |[],a=>by simp
 |y::l,a=>by
  rw[auZ,LW l,aGR,cS];constructor
  .rintro((h|h)|h)
   .exact .inr (.inl h)
   .exact .inl h
   .exact .inr (.inr h)
  .rintro(h|h|h)
   .exact .inl (.inr h)
   .exact .inl (.inl h)
   .exact .inr h
def aEV {x:Int}{a b:List Int}:x∈afD a b↔x∈a\/x∈b:=by unfold afD;rw[LW,LW];simp
structure aLT (c:Int×Int) (view:Int) (cv:List Int) (k:Nat) (xs:List (List Int)):Prop where
 len:(xs.length:Int)=c.1
 srt:∀i,0<=i->i<c.1->Srt (aK xs i [])
 mem:∀i x,0<=i->i<c.1->x∈aK xs i []->x∈cv/\0<=x/\x<c.1
 up:∀x,x∈cv->0<=x->x<c.1->(k:Int)<=bL c view x->∃a:Int,0<=a/\a<max k 1/\x∈aK xs (XV c view a) []
abbrev bd:=Int×Int×bZ×ByteArray
abbrev cq:=ByteArray×bZ
abbrev b4:=Int×Int×cq×bZ×bZ×Int×dG
abbrev jw:=Int×b4
abbrev aw:=Int×Int×Int×bd×List dG×List bZ×(List Int×Int)×List jw
abbrev gr:=Int×List Int
abbrev cI:=Int×ByteArray×Int
abbrev ah:=(Int×Int)×List Int×List aw×List gr×List cI
def UP {b:ByteArray}(h:b.size<=1048576):b.data.toList.length<=1073741824:=bY (Nat.le_of_eq (show b.data.toList.length=b.size from rfl)) (by omega)
def JK {b:ByteArray}(h:b.size<=1048576):eY F0 b=some (bg b.data.toList,()):=Sx (UP h)
def CX {b:ByteArray}(h:b.size<=1048576):eZ F0 b=some (bg b.data.toList,()):=Oo (UP h)
def oW {b:ByteArray}(h:b.size<=1048576):du F0 b=some (aC b.data.toList,()):=ap8 (UP h)
def rq {b:ByteArray}(h:b.size<=1048576):er F0 b=some (aC b.data.toList,()):=aj7 (UP h)
def uc (q:bZ):Prop:=q.2.1.size<=1048576/\q.2.2.length<=1048576
def eT (c:Int×Int)(q:bZ):Bool:=ZI c (q.1,q.2.1.data.toList,q.2.2)
def SA {q:bZ}(h:uc q)(c:Int×Int):kp F0 c q=some (eT c q,()):=ayT (v:=q.1) (l:=q.2.1.data.toList) (s:=q.2.2) (UP h.1) (bY h.2 (by omega)) c
def Rq {q:bZ}(h:uc q)(c:Int×Int):mu F0 c q=some (eT c q,()):=at0 (v:=q.1) (l:=q.2.1.data.toList) (s:=q.2.2) (UP h.1) (bY h.2 (by omega)) c
def bh (c:Int×Int)(s:bd):Bool:=gE 0 60 s.1&&(gE 0 60 s.2.1&&(eT c s.2.2.1&&bg s.2.2.2.data.toList))
def kg (s:bd):Prop:=uc s.2.2.1/\s.2.2.2.size<=1048576
def CY {s:bd}(h:kg s)(c:Int×Int):iX F0 c s=some (bh c s,()):=by rw[an4,cP,ai,cP,ai,SA h.1,ai,JK h.2,ai];unfold bh;cases gE 0 60 s.1<;>cases gE 0 60 s.2.1<;>cases eT c s.2.2.1<;>rfl
def FW {s:bd}(h:kg s)(c:Int×Int):kU F0 c s=some (bh c s,()):=by rw[ape,bR,ai,bR,ai,Rq h.1,ai,CX h.2,ai];unfold bh;cases gE 0 60 s.1<;>cases gE 0 60 s.2.1<;>cases eT c s.2.2.1<;>rfl
def aI {U:Type}{a:List U}{k:Nat}(h:k<a.length)(d:U):a.getD k d=a[k]:=by simp[List.getD,h]
def XY {U:Type}(d:U)(p:U->Bool)(q:U->U->Bool)(l:List U):Bool:=(List.range l.length).all fun k=>p (l.getD k d)&&(decide (k=0) || q (l.getD (k-1) d) (l.getD k d))
def afF {V:Type}{k:Nat}(a b:Bool)(x y:V)(c:V)(d:0<k->c=br (!b) x y) :
  br (!a) x (br (decide ((k:Int)>0)) c y)=if (a&&(decide (k=0) || b))=true then y else x:=by
 cases a with
 |false=>rfl
 |true =>
  rw[aN,aa,en];by_cases h:k=0
  .subst h;rfl
  .rw[aL (show(k:Int)>0 by omega),ae,aQ h,JT,d (by omega)];cases b<;>rfl
def mW:dG:=(0,0,0,0)
def ff (a b:dG):Bool:=decide (a.1<b.1) || ((a.1==b.1)&&decide (a.2.2.2<b.2.2.2))
def afG (a b:dG):tD F0 a b=some (ff a b,()):=by rw[agU];unfold ff;cases decide (a.1<b.1)<;>cases (a.1==b.1)<;>rfl
def awS (a b:dG):Ed F0 a b=some (ff a b,()):=by rw[ahz];unfold ff;cases decide (a.1<b.1)<;>cases (a.1==b.1)<;>rfl
def eW (p:List dG):Bool:=XY mW gm ff p&&decide ((p.length:Int)<=12)
def aqc {p:List dG}(h:p.length<=1048576):E7 F0 p=some (eW p,()):=by
 rw[an5,ej (fun m k=>tE F0 (uk F0) m (od p k)) p.length (fun k=>gm (p.getD k mW)&&(decide (k=0) || ff (p.getD (k-1) mW) (p.getD k mW))) (some (decide ((p.length:Int)<=12),())) (some (false,())) (fun m k a=>?_) (fun m=>?_) _ (by rw[bz];omega)]
 .unfold eW XY;cases (List.range p.length).all _<;>rfl
 .rw[Ki,aM a,ae,an a,ab,aV a,Rk,ai,aI a,agV,al (by omega),ab];refine afF _ (ff (p.getD (k-1) mW) p[k]) _ _ _ fun b=>?_
  rw[LU b (by omega),an (show k-1<p.length by omega),ab,aV (show k-1<p.length by omega),afG,ai,aI (show k-1<p.length by omega)]
 .rw[Ki,aB,aa,ad1]
def XZ {p:List dG}(h:p.length<=1048576):wZ F0 p=some (eW p,()):=by
 rw[apf,ej (fun m k=>tL F0 (vi F0) m (ot p p (p.length:Int) k)) p.length (fun k=>gm (p.getD k mW)&&(decide (k=0) || ff (p.getD (k-1) mW) (p.getD k mW))) (some (decide ((p.length:Int)<=12),())) (some (false,())) (fun m k a=>?_) (fun m=>?_) _ (by rw[bz];omega)]
 .unfold eW XY;cases (List.range p.length).all _<;>rfl
 .rw[K0,aM a,ae,an a,ab,aV a,CU,ai,aI a,ahB,al (by omega)];refine afF _ (ff (p.getD (k-1) mW) p[k]) _ _ _ fun b=>?_
  rw[LU b (by omega),an (show k-1<p.length by omega),ab,aV (show k-1<p.length by omega),awS,ai,aI (show k-1<p.length by omega)]
 .rw[K0,aB,aa,aeG]
def di (b:ByteArray):Bool:=b.toList==ak.toList
def iu (c:Int×Int)(p:bZ):Bool :=
 bw c&&(gE 1 60 p.1&&(kf c.1 p.2.2&&(!((p.2.2.length:Int)==0)&&(di p.2.1 || (bg p.2.1.data.toList&&(aC p.2.1.data.toList==p.1))))))
def SB {p:bZ}(h:uc p)(c:Int×Int):kK F0 c p=some (iu c p,()):=by rw[an6,ir,ai,cP,ai,ait (bY h.2 (by omega)),ai,JK h.1,ai,oW h.1,ai];unfold iu di;cases bw c<;>cases gE 1 60 p.1<;>cases kf c.1 p.2.2<;>cases ((p.2.2.length:Int)==0)<;>cases (p.2.1.toList==ak.toList)<;>cases bg p.2.1.data.toList<;>rfl
def aJ7 (n:Nat):decide ((n:Int)>0)= !((n:Int)==0):=by
 cases n with
 |zero=>rfl
 |succ n =>
  rw[aL (by omega),bU.2 (by omega)];rfl
def Oq {p:bZ}(h:uc p)(c:Int×Int):q2 F0 c p=some (iu c p,()):=by rw[apg,fQ,ai,bR,ai,acR (bY h.2 (by omega)),ai,CX h.1,ai,rq h.1,ai,aJ7];unfold iu di;dsimp only;generalize (aC p.2.1.data.toList==p.1)=b;cases bw c<;>cases gE 1 60 p.1<;>cases kf c.1 p.2.2<;>cases ((p.2.2.length:Int)==0)<;>cases (p.2.1.toList==ak.toList)<;>cases bg p.2.1.data.toList<;>cases b<;>rfl
def b9:bZ:=(0,ak,[])
def fz (a b:bZ):Bool:=decide (a.1<b.1) || ((a.1==b.1)&&Op.bytesLess a.2.1.toList b.2.1.toList)
def abo (a b:bZ):p2 F0 a b=some (fz a b,()):=by rw[ad2];unfold fz;cases decide (a.1<b.1)<;>cases (a.1==b.1)<;>rfl
def aIF (x y:Int):Int:=if x<y then -1 else if x>y then 1 else 0
def akc (x y:Int):vj F0 x y=some (aIF x y,()):=by
 rw[acn,Qz,ai,Qz,ai,am6,am6,aa,aa];unfold aIF;by_cases h:x<y
 .rw[aL h,ae,ag h]
 .rw[aQ h,aa,af h];by_cases a:x>y
  .rw[aL a,ae,ag a]
  .rw[aQ a,aa,af a]
def aIG (x y:ByteArray):Int:=if Op.bytesLess x.toList y.toList=true then -1 else if (x.toList==y.toList)=true then 0 else 1
def afH (x y:ByteArray):nC F0 x y=some (aIG x y,()):=by rw[U6,Ho,ai,Ho,ai,atE,atE,aa,aa];unfold aIG;cases Op.bytesLess x.toList y.toList<;>cases (x.toList==y.toList)<;>rfl
def aiv (a b:bZ):∃r,ft F0 a b=some (r,())/\decide (r>=0)= !fz a b:=by
 rw[Fx,akc,ai,afH,ai];unfold fz aIF aIG;dsimp only;by_cases h:a.1<b.1
 .rw[ag h,aL h];exact⟨-1,rfl,rfl⟩
 .rw[af h,aQ h,JT];by_cases c:a.1>b.1
  .rw[ag c,bU.2 (show a.1≠b.1 by omega)];exact⟨1,rfl,rfl⟩
  .rw[af c,show a.1=b.1 by omega,Vk];refine⟨_,rfl,?_⟩;cases Op.bytesLess a.2.1.toList b.2.1.toList<;>cases (a.2.1.toList==b.2.1.toList)<;>rfl
def eB (c:Int×Int)(l:List bZ):Bool:=XY b9 (iu c) fz l&&decide ((l.length:Int)<=20)
def akd {l:List bZ}(h:l.length<=1048576)(b:∀q∈l,uc q)(c:Int×Int):nq F0 c l=some (eB c l,()):=by
 rw[akP,ej (fun m k=>p3 F0 (rK F0) m (lZ l k c.1 c.2)) l.length (fun k=>iu c (l.getD k b9)&&(decide (k=0) || fz (l.getD (k-1) b9) (l.getD k b9))) (some (decide ((l.length:Int)<=20),())) (some (false,())) (fun m k a=>?_) (fun m=>?_) _ (by rw[bz];omega)]
 .unfold eB XY;cases (List.range l.length).all _<;>rfl
 .rw[GY,aM a,ae,an a,ab,aV a,show((c.1,c.2):Int×Int)=c from rfl,SB (b _ (bP a)),ai,aI a,ad3,al (by omega),ab];refine afF _ (fz (l.getD (k-1) b9) l[k]) _ _ _ fun d=>?_
  rw[LU d (by omega),an (show k-1<l.length by omega),ab,aV (show k-1<l.length by omega),abo,ai,aI (show k-1<l.length by omega)]
 .rw[GY,aB,aa,ab0]
def afI {l:List bZ}(h:l.length<=1048576)(b:∀q∈l,uc q)(c:Int×Int):kV F0 c l=some (eB c l,()):=by
 rw[alP,ej (fun m k=>q3 F0 (sg F0) m (mv l l (l.length:Int) k c.1 c.2)) l.length (fun k=>iu c (l.getD k b9)&&(decide (k=0) || fz (l.getD (k-1) b9) (l.getD k b9))) (some (decide ((l.length:Int)<=20),())) (some (false,())) (fun m k a=>?_) (fun m=>?_) _ (by rw[bz];omega)]
 .unfold eB XY;cases (List.range l.length).all _<;>rfl
 .rw[Hq,aM a,ae,an a,ab,aV a,show((c.1,c.2):Int×Int)=c from rfl,Oq (b _ (bP a)),ai,aI a,aeH,al (by omega)];refine afF _ (fz (l.getD (k-1) b9) l[k]) _ _ _ fun d=>?_
  rw[LU d (by omega),an (show k-1<l.length by omega),ab,aV (show k-1<l.length by omega)];obtain⟨r,e,f⟩:=aiv l[k-1] l[k];rw[e,ai,f,aI (show k-1<l.length by omega)]
 .rw[Hq,aB,aa,acp]
def fA (d:List Int×Int):Bool:=decide ((d.1.length:Int)<=100000)&&gE 0 d.1.length d.2
def LX (d:List Int×Int):mZ F0 d=some (fA d,()):=by rw[an7,cP,ai];unfold fA;cases decide ((d.1.length:Int)<=100000)<;>rfl
def Ot (d:List Int×Int):q4 F0 d=some (fA d,()):=by rw[aph,bR,ai];unfold fA;cases decide ((d.1.length:Int)<=100000)<;>rfl
def aqd {a b:List Int}(j:a.length<=1048576)(l:b.length<=1048576):E8 F0 a b=some (decide (a=b),()):=by
 rw[an8,ej (fun m k=>Dp F0 (uo F0) m (um a b k)) (min a.length b.length) (fun k=>a.getD k 0==b.getD k 0) (some ((a.length:Int)==(b.length:Int),())) (some (false,())) (fun m k n=>?_) (fun m=>?_) _ (by rw[bz];omega)]
 .by_cases c:a=b
  .rw[aL c,ag (ea.2 fun k _=>by rw[c];exact Vk (b.getD k 0)),c,Vk]
  .rw[aQ c];by_cases e:a.length=b.length
   .rw[af];intro f;refine c (List.ext_getElem e fun k g i=>?_);have:=ea.1 f k (eS.2 (by omega));simpa [List.getD,g,i]using this
   .rw[bU.2 (show(a.length:Int)≠(b.length:Int) by omega)];cases (List.range (min a.length b.length)).all _<;>rfl
 .rw[Kj,aM (show k<a.length by omega),ae,aM (show k<b.length by omega),ae,an (show k<a.length by omega),ab,an (show k<b.length by omega),ab,ln,ln,agW,al (by omega),aBo];by_cases d:a.getD k 0=b.getD k 0
  .simp[d]
  .simp[d]
 .rw[Kj,ad4];rcases S1 a.length b.length with h|h
  .rw[ads (by omega),aB,aa]
  .rw[Nat.min_eq_right h,aB,aa];cases decide ((b.length:Int)<(a.length:Int))<;>rfl
def gn (a b:bZ):Bool:=(a.1==b.1)&&((a.2.1.toList==b.2.1.toList)&&decide (a.2.2=b.2.2))
def aiw {a b:bZ}(c:uc a)(d:uc b):wQ F0 a b=some (gn a b,()):=by rw[an9,aqd c.2 d.2,ai];unfold gn;cases (a.1==b.1)<;>cases (a.2.1.toList==b.2.1.toList)<;>rfl
def LY {a b:bZ}(c:uc a):jj F0 a b=some (gn a b,()):=by rw[WT,aiu (bY c.2 (by omega)),ai];unfold gn;cases (a.1==b.1)<;>cases (a.2.1.toList==b.2.1.toList)<;>rfl
def ay2 {a b:bZ}(c:uc a)(d:uc b):Ig F0 a b=some (gn a b,()):=by rw[akR,aqd c.2 d.2,ai];unfold gn;cases (a.1==b.1)<;>cases (a.2.1.toList==b.2.1.toList)<;>rfl
def awT {a b:bZ}(c:uc a):Eh F0 a b=some (gn a b,()):=by rw[ahD,aiu (bY c.2 (by omega)),ai];unfold gn;cases (a.1==b.1)<;>cases (a.2.1.toList==b.2.1.toList)<;>rfl
def oX (a b:cq):Bool:=(a.1.toList==b.1.toList)&&gn a.2 b.2
def asR {a b:cq}(c:uc a.2)(d:uc b.2):yu F0 a b=some (oX a b,()):=by rw[ad5,aiw c d,ai];unfold oX;cases (a.1.toList==b.1.toList)<;>rfl
def aqe {a b:cq}(c:uc a.2):Au F0 a b=some (oX a b,()):=by rw[aeJ,LY c,ai];unfold oX;cases (a.1.toList==b.1.toList)<;>rfl
def aix (a b:dG):Bool:=(a.1==b.1)&&((a.2.1==b.2.1)&&((a.2.2.1==b.2.2.1)&&((a.2.2.2==b.2.2.2)&&true)))
def sU (a b:b4):Bool:=(a.1==b.1)&&((a.2.1==b.2.1)&&(oX a.2.2.1 b.2.2.1&&(gn a.2.2.2.1 b.2.2.2.1&&(gn a.2.2.2.2.1 b.2.2.2.2.1&&((a.2.2.2.2.2.1==b.2.2.2.2.2.1)&&aix a.2.2.2.2.2.2 b.2.2.2.2.2.2)))))
def fU (m:b4):Prop:=m.2.2.1.1.size<=1048576/\uc m.2.2.1.2/\uc m.2.2.2.1/\uc m.2.2.2.2.1
def ay3 {a b:b4}(c:fU a)(d:fU b):kL F0 a b=some (sU a b,()):=by rw[akT,asR c.2.1 d.2.1,ai,ay2 c.2.2.1 d.2.2.1,ai,aiw c.2.2.2 d.2.2.2,ai];unfold sU aix;dsimp only;generalize ((a.2.2.2.2.2.2.1==b.2.2.2.2.2.2.1)&&((a.2.2.2.2.2.2.2.1==b.2.2.2.2.2.2.2.1)&&((a.2.2.2.2.2.2.2.2.1==b.2.2.2.2.2.2.2.2.1)&&((a.2.2.2.2.2.2.2.2.2==b.2.2.2.2.2.2.2.2.2)&&true))))=t;cases (a.1==b.1)<;>cases (a.2.1==b.2.1)<;>cases oX a.2.2.1 b.2.2.1<;>cases gn a.2.2.2.1 b.2.2.2.1<;>cases gn a.2.2.2.2.1 b.2.2.2.2.1<;>cases (a.2.2.2.2.2.1==b.2.2.2.2.2.1)<;>rfl
def awU {a b:b4}(c:fU a):IS F0 a b=some (sU a b,()):=by rw[alQ,aqe c.2.1,ai,awT c.2.2.1,ai,LY c.2.2.2,ai];unfold sU aix;dsimp only;generalize ((a.2.2.2.2.2.2.1==b.2.2.2.2.2.2.1)&&((a.2.2.2.2.2.2.2.1==b.2.2.2.2.2.2.2.1)&&((a.2.2.2.2.2.2.2.2.1==b.2.2.2.2.2.2.2.2.1)&&((a.2.2.2.2.2.2.2.2.2==b.2.2.2.2.2.2.2.2.2)&&true))))=t;cases (a.1==b.1)<;>cases (a.2.1==b.2.1)<;>cases oX a.2.2.1 b.2.2.1<;>cases gn a.2.2.2.1 b.2.2.2.1<;>cases gn a.2.2.2.2.1 b.2.2.2.2.1<;>cases (a.2.2.2.2.2.1==b.2.2.2.2.2.1)<;>rfl
def Ou (a b:bZ):gn a b=gn b a:=by
 unfold gn;rw[td (a:=a.1),td (a:=a.2.1.toList)]
 congr 2
 by_cases h:a.2.2=b.2.2
 .rw[aL h,aL h.symm]
 .rw[aQ h,aQ fun c=>h c.symm]
def awV (a b:b4):sU a b=sU b a:=by unfold sU oX aix;rw[td (a:=a.1),td (a:=a.2.1),td (a:=a.2.2.1.1.toList),Ou a.2.2.1.2,Ou a.2.2.2.1,Ou a.2.2.2.2.1,td (a:=a.2.2.2.2.2.1),td (a:=a.2.2.2.2.2.2.1),td (a:=a.2.2.2.2.2.2.2.1),td (a:=a.2.2.2.2.2.2.2.2.1),td (a:=a.2.2.2.2.2.2.2.2.2)]
def named (m:b4):b4 :=
 if (m.1==1)=true then (m.1,0,m.2.2.1,b9,b9,0,mW)
 else if (m.1==2)=true then (m.1,0,(ak,b9),m.2.2.2.1,b9,0,mW)
 else if (m.1==3)=true then (m.1,m.2.1,(ak,b9),b9,m.2.2.2.2.1,m.2.2.2.2.2.1,mW)
 else if (m.1==4)=true then (m.1,0,(ak,b9),b9,b9,0,m.2.2.2.2.2.2)
 else (m.1,0,(ak,b9),b9,b9,0,mW)
def aEW (m:b4):Sb F0 m=some (named m,()):=by rw[asv];unfold named;cases (m.1==1)<;>cases (m.1==2)<;>cases (m.1==3)<;>cases (m.1==4)<;>rfl
def dy:uc b9:=⟨aR _,aR _⟩
def aIH {m:b4}(h:fU m):fU (named m):=by
 unfold named;split
 .exact⟨h.1,h.2.1,dy,dy⟩
 .split
  .exact⟨aR _,dy,h.2.2.1,dy⟩
  .split
   .exact⟨aR _,dy,dy,h.2.2.2⟩
   .split
    .exact⟨aR _,dy,dy,dy⟩
    .exact⟨aR _,dy,dy,dy⟩
def ay4 {m:b4}(h:fU m):Ih F0 m=some (sU (named m) m,()):=by
 have a:=ay3 (aIH h) h;rw[akV];unfold named b9 mW at a;unfold named b9 mW;by_cases b:(m.1==1)=true
 .rw[ag b]at a ⊢;rw[b,ae,a,ai]
 .rw[af b]at a ⊢;rw[JS.2 b,aa];by_cases c:(m.1==2)=true
  .rw[ag c]at a ⊢;rw[c,ae,a,ai]
  .rw[af c]at a ⊢;rw[JS.2 c,aa];by_cases d:(m.1==3)=true
   .rw[ag d]at a ⊢;rw[d,ae,a,ai]
   .rw[af d]at a ⊢;rw[JS.2 d,aa];by_cases e:(m.1==4)=true
    .rw[ag e]at a ⊢;rw[e,ae,a,ai]
    .rw[af e]at a ⊢;rw[JS.2 e,aa,a,ai]
def gu (l:List UInt8):Nat->Nat
 |0=>0|k+1=>if (((l.getD k 0).toNat:Int) != 47)=true then gu l k else k+1
def aqf (l:List UInt8):∀k,gu l k<=k
 |0=>bF _|k+1=>by
  unfold gu;split
  .exact Nat.le_succ_of_le (aqf l k)
  .exact bF _
def aGS {h n:Nat}(a:h<=n):S5 0 (h:Int) (n:Int)=true:=YQ (l:=0) (aR _) a
def fL (l:List UInt8):List UInt8:=if bg l=true then l.take (gu l l.length-1) else []
def aDS (l:List UInt8){γ:Type}(J:Ex->St->Option γ):∀(k n:Nat),k<=l.length->k<=1073741824->k<n->Mz F0 J n (Dq (tx l) (k:Int))=J (.exit 0) (yv (tx l) (gu l k:Int))
 |0,n,a,b,c=>by obtain⟨n,rfl⟩:∃m,n=m+1:=⟨n-1,by omega⟩;rw[PO];rfl
 |k+1,n,a,b,c=>by
  obtain⟨n,rfl⟩:∃m,n=m+1:=⟨n-1,by omega⟩;rw[PO,aL (show((k+1:Nat):Int)>0 by omega),ae,LU (by omega) (by omega),show k+1-1=k from rfl,bD,an (by omega),ab,YO];unfold gu;by_cases h:(((l.getD k 0).toNat:Int) != 47)=true
  .rw[h,ae,ag rfl,aDS l J k n (by omega) (by omega) (by omega)]
  .rw[JS.2 h,aa,af (by decide)]
def aGT {l:List UInt8}(h:l.length<=1048576):l0 F0 (tx l)=some (tx (fL l),()):=by
 rw[avV,Sx (by omega),ai];unfold fL;dsimp only;cases bg l with
 |false=>rfl
 |true =>
  have c:=aqf l l.length;rw[aN,aa,bD,aDS l _ l.length _ (bF _) (by omega) (by rw[bz];omega),akX,ag rfl,aae];have b:br (decide (aj ((gu l l.length:Int)-1)>0)) (some (aj ((gu l l.length:Int)-1),())) (some ((0:Int),()))=some (((gu l l.length-1:Nat):Int),()):=by
   rw[aG (by omega) (by omega)];by_cases a:(gu l l.length:Int)-1>0
   .rw[aL a,ae,show(gu l l.length:Int)-1=((gu l l.length-1:Nat):Int) by omega]
   .rw[aQ a,aa,show gu l l.length-1=0 by omega];rfl
  rw[b,ai];dsimp only;rw[bD,aGS (by omega),ab,ho,show(0:Int).toNat=0 from rfl,Om,adt,Vq]
def at3 (l:List UInt8):∀(k n:Nat),k<=l.length->k<=1073741824->k<n->eu F0 (fR F0) n (dE (tx l) 47 ((k:Int)-1))=some ((gu l k:Int)-1,())
 |0,n,a,b,c=>by obtain⟨n,rfl⟩:∃m,n=m+1:=⟨n-1,by omega⟩;rw[jS];rfl
 |k+1,n,a,b,c=>by
  obtain⟨n,rfl⟩:∃m,n=m+1:=⟨n-1,by omega⟩;rw[show((k+1:Nat):Int)-1=(k:Int) by omega,jS,aL (show(k:Int)>=0 by omega),ae,bD,an (by omega),ab,YO,aG (by omega) (by omega),Aw];unfold gu;by_cases h:((l.getD k 0).toNat:Int)=47
  .rw[h,show((47:Int)==47)=true from rfl,ae,show((47:Int) != 47)=false from rfl,af (by decide),show((k+1:Nat):Int)-1=(k:Int) by omega]
  .rw[bU.2 h,aa,EZ.2 h,ag rfl,at3 l k n (by omega) (by omega) (by omega)]
def aBt {c x:UInt8}{l:List UInt8}{ps:List (List UInt8)}(h:parts c (x::l)=[]::ps):x=c:=by
 unfold parts at h;split at h
 .assumption
 .split at h
  .cases (tz h).1
  .cases (tz h).1
def aqg {l:List UInt8}(h:bg l=true)(b:l≠[]):∃t,l=47::t:=by
 cases l with
 |nil=>exact absurd rfl b
 |cons x t =>
  refine⟨t,?_⟩;unfold bg a7 at h;rw[af b]at h;cases a:parts 47 (x::t) with
  |nil=>exact absurd a (FV _ _)
  |cons c g =>
   rw[a]at h;dsimp only at h;split at h
   .cases h
   .rename_i d;have e:c=[]:=axQ fun f=>d (.inl f)
    subst e;rw[aBt a]
def aiy {t:List UInt8}:∀k,0<k->0<gu (47::t) k
 |0,h=>absurd h (Vo _)|1,_=>by unfold gu;rw[show((((47::t).getD 0 0:UInt8).toNat:Int) != 47)=false from rfl,af (by decide)];exact agy _
 |k+2,_=>by
  unfold gu;split
  .exact aiy (k+1) (agy _)
  .exact agy _
def aEX {l:List UInt8}(h:l.length<=1048576):sh F0 (tx l)=some (tx (fL l),()):=by
 rw[awd,Oo (by omega),ai,awN,UO];unfold fL;dsimp only;cases b:bg l with
 |false=>rfl
 |true =>
  rw[aN,aa,ag rfl];by_cases a:l=[]
  .subst a;rfl
  .have c:=aqf l l.length;have d:0<gu l l.length:=by obtain⟨t,rfl⟩:=aqg b a;exact aiy _ (agy _)
   rw[aQ a,aa,O1,CE,bD,aG (by omega) (by omega),at3 l l.length _ (bF _) (by omega) (by rw[bz];omega),ai,ai];dsimp only;rw[show(gu l l.length:Int)-1=((gu l l.length-1:Nat):Int) by omega,aGS (by omega),ab,ho,show(0:Int).toNat=0 from rfl,Om,adt,Vq]
def afJ {b:ByteArray}(h:b.size<=1048576):l0 F0 b=some (tx (fL b.data.toList),()):=aGT (l:=b.data.toList) h
def afK {b:ByteArray}(h:b.size<=1048576):sh F0 b=some (tx (fL b.data.toList),()):=aEX (l:=b.data.toList) h
def fB (c:Int×Int)(b:cq):Bool:=eT c b.2&&(bg b.1.data.toList&&(!di b.1&&((tx (fL b.1.data.toList)).toList==b.2.2.1.toList)))
def Ov {b:cq}(a:b.1.size<=1048576)(d:uc b.2)(c:Int×Int):nr F0 c b=some (fB c b,()):=by rw[akY,SA d,ai,JK a,ai,afJ a,ai];unfold fB di;cases eT c b.2<;>cases bg b.1.data.toList<;>cases (b.1.toList==ak.toList)<;>rfl
def Jm {b:cq}(a:b.1.size<=1048576)(d:uc b.2)(c:Int×Int):nD F0 c b=some (fB c b,()):=by rw[alS,Rq d,ai,CX a,ai,afK a,ai];unfold fB di;cases eT c b.2<;>cases bg b.1.data.toList<;>cases (b.1.toList==ak.toList)<;>rfl
def c8 (c:Int×Int)(m:b4):Bool:=bw c&&(sU (named m) m&&(if (m.1==1)=true then fB c m.2.2.1 else if (m.1==2)=true then iu c m.2.2.2.1&& !di m.2.2.2.1.2.1
 else if (m.1==3)=true then gE 1 60 m.2.1&&(eT c m.2.2.2.2.1&&gE 0 (aj (c.1-1)) m.2.2.2.2.2.1) else (m.1==4)&&gm m.2.2.2.2.2.2))
def JL {m:b4}(h:fU m)(c:Int×Int):fm F0 c m=some (c8 c m,()):=by rw[ar9,ir,ai,ay4 h,ai,Ov h.1 h.2.1,ai,SB h.2.2.1,ai,cP,ai,SA h.2.2.2,ai,cP,ai,Rk,ai];unfold c8 di;dsimp only;cases bw c<;>cases sU (named m) m<;>cases (m.1==1)<;>cases (m.1==2)<;>cases (m.1==3)<;>cases (m.1==4)<;>cases iu c m.2.2.2.1<;>cases gE 1 60 m.2.1<;>cases eT c m.2.2.2.2.1<;>rfl
def LZ {m:b4}(h:fU m)(c:Int×Int):gb F0 c m=some (c8 c m,()):=by rw[asx,fQ,ai,aEW,ai,awU h,ai,Jm h.1 h.2.1,ai,Oq h.2.2.1,ai,bR,ai,Rq h.2.2.2,ai,bR,ai,CU,ai,awV];unfold c8 di;dsimp only;cases bw c<;>cases sU (named m) m<;>cases (m.1==1)<;>cases (m.1==2)<;>cases (m.1==3)<;>cases (m.1==4)<;>cases iu c m.2.2.2.1<;>cases gE 1 60 m.2.1<;>cases eT c m.2.2.2.2.1<;>rfl
def L0 (c:Int×Int)(r:Int)(p:jw):Bool:=c8 c p.2&&(gE 0 (aj (c.1-1)) p.1&& !(p.1==r))
def mU (c:Int×Int)(r:aw):Bool :=
 bw c&&(gE 0 (aj (c.1-1)) r.1&&(gE 1 60 r.2.1&&(gE 0 60 r.2.2.1&&(bh c r.2.2.2.1&&(eW r.2.2.2.2.1&&(eB c r.2.2.2.2.2.1&&(fA r.2.2.2.2.2.2.1&&(!decide ((r.2.2.2.2.2.2.2.length:Int)>30)&&r.2.2.2.2.2.2.2.all (L0 c r.1)))))))))
structure amw (r:aw):Prop where
 s:kg r.2.2.2.1
 p:r.2.2.2.2.1.length<=1048576
 t:r.2.2.2.2.2.1.length<=1048576
 tq:∀q∈r.2.2.2.2.2.1,uc q
 h:r.2.2.2.2.2.2.2.length<=1048576
 hm:∀q∈r.2.2.2.2.2.2.2,fU q.2
def awW:jw:=(0,0,0,(ak,b9),b9,b9,0,mW)
def oG (b:Bool):(if b=true then some (true,()) else some (false,()))=some (b,()):=by cases b<;>rfl
def hU {r:aw}(h:amw r)(c:Int×Int):dx F0 c r=some (mU c r,()):=by
 have b:=h.h;rw[asa,ir,ai,cP,ai,cP,ai,cP,ai,CY h.s,ai,aqc h.p,ai,akd h.t h.tq,ai,LX,ai,
  ej (fun m k=>Il F0 (yy F0) m (yw k c.1 c.2 r.1 r.2.1 r.2.2.1 r.2.2.2.1.1 r.2.2.2.1.2.1 r.2.2.2.1.2.2.1.1 r.2.2.2.1.2.2.1.2.1 r.2.2.2.1.2.2.1.2.2 r.2.2.2.1.2.2.2 r.2.2.2.2.1 r.2.2.2.2.2.1 r.2.2.2.2.2.2.1.1 r.2.2.2.2.2.2.1.2 r.2.2.2.2.2.2.2)) r.2.2.2.2.2.2.2.length
   (fun k=>L0 c r.1 (r.2.2.2.2.2.2.2.getD k awW)) (some (true,())) (some (false,())) (fun m k a=>?_) (fun m=>?_) _ (by rw[bz];omega),LS,oG]
 .unfold mU;cases bw c<;>cases gE 0 (aj (c.1-1)) r.1<;>cases gE 1 60 r.2.1<;>cases gE 0 60 r.2.2.1<;>cases bh c r.2.2.2.1<;>cases eW r.2.2.2.2.1<;>cases eB c r.2.2.2.2.2.1<;>cases fA r.2.2.2.2.2.2.1<;>cases decide ((r.2.2.2.2.2.2.2.length:Int)>30)<;>rfl
 .rw[MA,aM a,ae,an a,ab,aV a,show((c.1,c.2):Int×Int)=c from rfl,JL (h.hm _ (bP a)),ai,ab,cP,ai,ab,aI a,akZ,al (by omega)];unfold L0;cases c8 c (r.2.2.2.2.2.2.2[k]).2<;>cases gE 0 (aj (c.1-1)) (r.2.2.2.2.2.2.2[k]).1<;>cases ((r.2.2.2.2.2.2.2[k]).1==r.1)<;>rfl
 .rw[MA,aB,aa,agX]
def dR {r:aw}(h:amw r)(c:Int×Int):cp F0 c r=some (mU c r,()):=by
 have b:=h.h;rw[asy,fQ,ai,bR,ai,bR,ai,bR,ai,FW h.s,ai,XZ h.p,ai,afI h.t h.tq,ai,Ot,ai,
  ej (fun m k=>IV F0 (Az F0) m (Ax r.2.2.2.2.2.2.2 (r.2.2.2.2.2.2.2.length:Int) k c.1 c.2 r.1 r.2.1 r.2.2.1 r.2.2.2.1.1 r.2.2.2.1.2.1 r.2.2.2.1.2.2.1.1 r.2.2.2.1.2.2.1.2.1 r.2.2.2.1.2.2.1.2.2 r.2.2.2.1.2.2.2 r.2.2.2.2.1 r.2.2.2.2.2.1 r.2.2.2.2.2.2.1.1 r.2.2.2.2.2.2.1.2 r.2.2.2.2.2.2.2)) r.2.2.2.2.2.2.2.length
   (fun k=>L0 c r.1 (r.2.2.2.2.2.2.2.getD k awW)) (some (true,())) (some (false,())) (fun m k a=>?_) (fun m=>?_) _ (by rw[bz];omega),LS,oG]
 .unfold mU;cases bw c<;>cases gE 0 (aj (c.1-1)) r.1<;>cases gE 1 60 r.2.1<;>cases gE 0 60 r.2.2.1<;>cases bh c r.2.2.2.1<;>cases eW r.2.2.2.2.1<;>cases eB c r.2.2.2.2.2.1<;>cases fA r.2.2.2.2.2.2.1<;>cases decide ((r.2.2.2.2.2.2.2.length:Int)>30)<;>rfl
 .rw[Nx,aM a,ae,an a,ab,aV a,show((c.1,c.2):Int×Int)=c from rfl,LZ (h.hm _ (bP a)),ai,bR,ai,aI a,alT,al (by omega)];unfold L0;cases c8 c (r.2.2.2.2.2.2.2[k]).2<;>cases gE 0 (aj (c.1-1)) (r.2.2.2.2.2.2.2[k]).1<;>cases ((r.2.2.2.2.2.2.2[k]).1==r.1)<;>rfl
 .rw[Nx,aB,aa,ahF]
def afL {lo hi x:Int}:gE lo hi x=decide (lo<=x/\x<=hi):=by unfold gE;by_cases a:lo<=x<;>by_cases b:x<=hi<;>simp[a,b]
def Rr:Nat->List Int->Nat->Int->Option (Int×Nat)
 |0,_,_,_=>none|_+1,[],_,_=>none|j+1,x::xs,k,n=>if x<128 then (if (k≠0/\x=0)\/n+x*128 ^ k>2147483647 then none else some (n+x*128 ^ k,k+1)) else Rr j xs (k+1) (n+x%128*128 ^ k)
def aII (a:Nat):Option (Int×Nat)->Int×Int×Bool×Unit
 |some (v,c)=>(v,((a+c:Nat):Int),true,())|none=>(0,0,false,())
def aGU {k:Nat}(h:k<=4):(2:Int) ^ (min (aj (7*(k:Int))).toNat 64)=128 ^ k:=by
 have:k=0\/k=1\/k=2\/k=3\/k=4:=by omega
 rcases this with rfl|rfl|rfl|rfl|rfl<;>rfl
def SC {k:Nat}(h:k<=4):(1:Int)<=128 ^ k/\(128:Int) ^ k<=268435456:=by
 have:k=0\/k=1\/k=2\/k=3\/k=4:=by omega
 rcases this with rfl|rfl|rfl|rfl|rfl<;>decide
def aqh {d P:Int}(a:0<=d)(b:d<=127)(c:1<=P):0<=d*P/\d*P<=127*P:=⟨Int.mul_nonneg a (by omega),Int.mul_le_mul_of_nonneg_right b (by omega)⟩
def aJ8 {i n:Nat}(d:Nat)(h:n<2 ^ i):n ||| d*2 ^ i=n+d*2 ^ i:=by rw[Nat.or_comm,<-Nat.shiftLeft_eq,<-Nat.shiftLeft_add_eq_or_of_lt h,Nat.add_comm]
def aJ9 {k:Nat}(a:k<=4){n d:Int}(b:0<=n)(c:n<128 ^ k)(f:0<=d)(j:d<=127):((BitVec.ofInt 64 n ||| BitVec.ofInt 64 (d*128 ^ k)).toNat:Int)=n+d*128 ^ k:=by
 obtain⟨m,rfl⟩:=Int.eq_ofNat_of_zero_le b;obtain⟨e,rfl⟩:=Int.eq_ofNat_of_zero_le f;have g:(128:Int) ^ k=((2 ^ (7*k):Nat):Int):=by rw[Nat.pow_mul];exact(Int.natCast_pow 128 k).symm
 have h:=SC a;rw[g]at c h ⊢;have i:m<2 ^ (7*k):=by omega
 have l:e*2 ^ (7*k)<=127*2 ^ (7*k):=GU _ (by omega);have o:2 ^ (7*k)<=268435456:=by omega
 rw[show(e:Int)*((2 ^ (7*k):Nat):Int)=((e*2 ^ (7*k):Nat):Int) from(Int.natCast_mul _ _).symm,BitVec.ofInt_natCast,BitVec.ofInt_natCast,BitVec.toNat_or,BitVec.toNat_ofNat,BitVec.toNat_ofNat,auW (by omega),auW (by omega),aJ8 e i];omega
def dj (b:List Int):Prop:=b.length<=1048576/\∀x∈b,0<=x/\x<=255
def ay5 {b:List Int}(l:dj b)(a:Nat)(t:a<=b.length):∀(j k:Nat),j+k=5->∀(c:Int) (m:Nat),0<=c->c<128 ^ k->j<m ->
  Dt F0 (uv F0) m (uu b (a:Int) c (k:Int))=some (aII a (Rr j (b.drop (a+k)) k c))
 |0,k,u,c,m,o,p,v=>by obtain⟨m,rfl⟩:∃q,m=q+1:=⟨m-1,by omega⟩;rw[Km,aQ (by omega),aa,ad9];rfl
 |j+1,k,u,c,m,o,p,v=>by
  obtain⟨m,rfl⟩:∃q,m=q+1:=⟨m-1,by omega⟩;have B:=l.1;rw[Km,aL (by omega),ae,aQ (show ¬(a:Int)<0 by omega),aa,aG (n:=(b.length:Int)-k) (by omega) (by omega)];rcases S1 (a+k) b.length with hlt|w
  .have r:=l.2 b[a+k] (bP hlt);have y:=SC (k:=k) (by omega);rw[aQ (show ¬(a:Int)>=(b.length:Int)-k by omega),aa,show aj ((a:Int)+(k:Int))=((a+k:Nat):Int) by rw[aG (by omega) (by omega)];omega,an hlt,ab,
    aL (show 0<=aj (7*(k:Int)) by rw[aG (by omega) (by omega)];omega),ab,aV hlt,aGU (by omega),Vi hlt]
   generalize b[a+k]=x at r ⊢;rw[aG (n:=x) (by omega) (by omega),amZ (by omega),Cg,Cg];have z:=aqh (d:=x%128) (P:=128 ^ k) (by omega) (by omega) y.1;rw[aG (n:=x%128*128 ^ k) (by omega) (by omega),aJ9 (by omega) o p (by omega) (by omega),aG (n:=c+x%128*128 ^ k) (by omega) (by omega)];unfold Rr;by_cases g:x<128
   .have e:x%128=x:=Int.emod_eq_of_lt r.1 g;rw[e]at z ⊢;rw[aL g,ae,ag g,aG (n:=((a+k:Nat):Int)+1) (by omega) (by omega)];by_cases s:k=0
    .subst s;rw[show decide (((0:Nat):Int)>0)=false from rfl,aa];by_cases f:c+x*128 ^ 0>2147483647
     .rw[aL f,ae,ag (.inr f)];rfl
     .rw[aQ f,aa,af (fun h=>h.elim (fun h=>h.1 rfl) f)];rfl
    .rw[aL (show(k:Int)>0 by omega),ae];by_cases i:x=0
     .rw[show(x==0)=true from bf.2 i,ae,ag (.inl ⟨s,i⟩)];rfl
     .rw[bU.2 i,aa];by_cases f:c+x*128 ^ k>2147483647
      .rw[aL f,ae,ag (.inr f)];rfl
      .rw[aQ f,aa,af (fun h=>h.elim (fun h=>i h.2) f)];rfl
   .rw[aQ g,aa,af g,al (by omega)];have A:c+x%128*128 ^ k<128 ^ (k+1):=by rw[S2];omega
    exact ay5 l a t j (k+1) (by omega) _ m (by omega) A (by omega)
  .rw[aL (show(a:Int)>=(b.length:Int)-k by omega),ae,Cg,auO w];rfl
def aBu {b:List Int}(c:dj b){a:Nat}(d:a<=b.length):kM F0 b (a:Int)=some (aII a (Rr 5 (b.drop a) 0 0)):=by rw[aoe];exact ay5 c a d 5 0 rfl 0 _ (by omega) (by decide) (by rw[bz];omega)
def afM:∀(k:Nat) (v:Int) (xs:List Int) (n:Nat),0<=v->v<128 ^ (k+1)->xs.length+k<=1000->k<n->k<=4 ->
  ∃a,tN F0 (vl F0) n (ow v xs)=some (xs++a,())/\a.length<=k+1/\(128 ^ k<=v->a.length=k+1)/\1<=a.length
 |0,v,xs,n,b,d,e,f,g=>by obtain⟨n,rfl⟩:∃m,n=m+1:=⟨n-1,by omega⟩;rw[nE,aQ (show ¬v>=128 by have:(128:Int) ^ (0+1)=128:=rfl;omega),aa,pC,ar (by omega) (by omega) (by rw[cR];omega),ab];exact⟨_,rfl,bF _,fun _=>rfl,bF _⟩
 |k+1,v,xs,n,b,d,e,f,g=>by
  obtain⟨n,rfl⟩:∃m,n=m+1:=⟨n-1,by omega⟩;have l:=SC (k:=k) (by omega);have o:(128:Int) ^ (k+1)=128 ^ k*128:=S2 _ _;have p:(128:Int) ^ (k+1+1)=128 ^ (k+1)*128:=S2 _ _;rw[nE];by_cases c:v>=128
  .rw[aL c,ae,ar (by omega) (by omega) (by rw[cR];omega),ab,am0 b,aG (n:=v/128) (by omega) (by omega)];obtain⟨a,i,q,j,r⟩:=afM k (v/128) (xs++[IntKind.wrap .u8 (aj (Int.tmod v 128+128))]) n (by omega) (by omega) (by rw[aJ,cR];omega) (by omega) (by omega);refine⟨IntKind.wrap .u8 (aj (Int.tmod v 128+128))::a,i.trans (by rw[hl];rfl),by rw[aW];omega,fun h=>?_,by rw[aW];omega⟩;rw[aW,j (by omega)]
  .rw[aQ c,aa,pC,ar (by omega) (by omega) (by rw[cR];omega),ab];exact⟨_,rfl,by rw[cR];omega,fun h=>by omega,bF _⟩
def aBv (v:Int):∃c,e5 F0 v=some (c,())/\∀(k:Nat) (a x:Int),k<=4->0<=a->a<128 ^ k->0<=x->x<128->v=a+x*128 ^ k ->
  ((c.length:Int) != ((k+1:Nat):Int))=decide ((k≠0/\x=0)\/v>2147483647):=by
 rw[W5,bR,ai,afL];by_cases b:0<=v/\v<=2147483647
 .rw[aL b,aN,aa];have n:(128:Int) ^ (4+1)=34359738368:=by decide
  obtain⟨g,i,_,_,_⟩:=afM 4 v [] F0.n b.1 (by omega) (by simp) (by rw[bz];omega) (by omega);refine⟨g,i,fun k a x e r s j t u=>?_⟩;have l:=SC e;have D:(128:Int) ^ (k+1)=128 ^ k*128:=S2 _ _;have w:=aqh (d:=x) (P:=128 ^ k) j (by omega) l.1;obtain⟨c,o,E,n,F⟩:=afM k v [] F0.n b.1 (by omega) (by simp;omega) (by rw[bz];omega) e;rw[i]at o;have y:g=c:=by simpa using o
  subst y;by_cases f:k≠0/\x=0
  .rw[aL (.inl f),EZ];obtain⟨m,z⟩:=f;subst z;obtain⟨k,rfl⟩:∃q,k=q+1:=⟨k-1,by omega⟩;obtain⟨A,p,G,_,_⟩:=afM k v [] F0.n b.1 (by omega) (by simp;omega) (by rw[bz];omega) (by omega);rw[i]at p;have B:g=A:=by simpa using p
   subst B;omega
  .rw[aQ (fun h=>h.elim f (by omega)),SZ];by_cases m:k=0
   .subst m;omega
   .have C:1<=x:=by
     have:x≠0:=fun h=>f ⟨m,h⟩
     omega
    have:=Int.mul_le_mul_of_nonneg_right C (show(0:Int)<=128 ^ k by omega);rw[n (by omega)]
 .rw[aQ b,ek,ae];refine⟨[],rfl,fun k a x e r s j t u=>?_⟩;have l:=SC e;have w:=aqh (d:=x) (P:=128 ^ k) j (by omega) l.1;rw[aL (.inr (by omega)),EZ];simp only[bm];omega
def ay6 {b:List Int}(h:dj b)(a:Nat)(p:a<=b.length):∀(j k:Nat),j+k=5->∀(c:Int) (m:Nat),0<=c->c<128 ^ k->j<m ->
  En F0 (vn F0) m (vm b (a:Int) c (k:Int))=some (aII a (Rr j (b.drop (a+k)) k c))
 |0,k,r,c,m,l,o,s=>by obtain⟨m,rfl⟩:∃q,m=q+1:=⟨m-1,by omega⟩;rw[Lb,aQ (by omega),aa,Nz];rfl
 |j+1,k,r,c,m,l,o,s=>by
  obtain⟨m,rfl⟩:∃q,m=q+1:=⟨m-1,by omega⟩;have A:=h.1;rw[Lb,aL (by omega),ae,show aj ((a:Int)+(k:Int))=((a+k:Nat):Int) by rw[aG (by omega) (by omega)];omega];rcases S1 (a+k) b.length with hlt|t
  .have i:=h.2 b[a+k] (bP hlt);have u:=SC (k:=k) (by omega);rw[aM hlt,ae,an hlt,ab,
    aL (show 0<=aj (7*(k:Int)) by rw[aG (by omega) (by omega)];omega),ab,aV hlt,aGU (by omega),Vi hlt]
   generalize b[a+k]=x at i ⊢;rw[aG (n:=x) (by omega) (by omega),amZ (by omega),QD,QD];have v:=aqh (d:=x%128) (P:=128 ^ k) (by omega) (by omega) u.1;rw[aG (n:=x%128*128 ^ k) (by omega) (by omega),aG (n:=c+x%128*128 ^ k) (by omega) (by omega),al (show k+1<=9223372036854775807 by omega)];unfold Rr;by_cases f:x<128
   .have e:x%128=x:=Int.emod_eq_of_lt i.1 f;rw[e]at v ⊢;rw[aL f,ae,ag f,aG (n:=((a+k:Nat):Int)+1) (by omega) (by omega)];obtain⟨B,w,y⟩:=aBv (c+x*128 ^ k);rw[w,ai];dsimp only;rw[y k c x (by omega) l o i.1 f rfl];by_cases g:(k≠0/\x=0)\/c+x*128 ^ k>2147483647
    .rw[aL g,ae,ag g];rfl
    .rw[aQ g,aa,af g];rfl
   .rw[aQ f,aa,af f];have z:c+x%128*128 ^ k<128 ^ (k+1):=by rw[S2];omega
    exact ay6 h a p j (k+1) (by omega) _ m (by omega) z (by omega)
  .rw[aQ (show ¬((a+k:Nat):Int)<(b.length:Int) by omega),aa,Nz,auO t];rfl
def ay7 {b:List Int}(c:dj b){a:Nat}(d:a<=b.length):w3 F0 b (a:Int)=some (aII a (Rr 5 (b.drop a) 0 0)):=by
 have f:=c.1;rw[apk,bR,ai,afL,aG (by omega) (by omega)];rcases S1 a b.length with hlt|e
 .rw[aL (by omega),aN,aa];exact ay6 c a d 5 0 rfl 0 _ (by omega) (by decide) (by rw[bz];omega)
 .rw[aQ (by omega),ek,ae,auO e];rfl
def aDT:∀(j:Nat) (l:List Int) (k:Nat) (n:Int) (v:Int) (c:Nat),Rr j l k n=some (v,c)->v<=2147483647/\k<c/\c<=k+l.length
 |0,_,_,_,_,_,h=>by cases h
 |_+1,[],_,_,_,_,h=>by cases h
 |j+1,x::l,k,n,v,c,h=>by
  unfold Rr at h;split at h
  .split at h
   .cases h
   .rename_i a;cases h;exact⟨Int.not_lt.1 fun b=>a (.inr b),Nat.lt_succ_self _,by rw[aW];omega⟩
  .have:=aDT j l (k+1) _ v c h;rw[aW];exact⟨this.1,by omega,by omega⟩
def ay8:∀(j:Nat) (l:List Int) (k:Nat) (n:Int) (v:Int) (c:Nat),(∀x∈l,0<=x)->0<=n->Rr j l k n=some (v,c)->0<=v
 |0,_,_,_,_,_,_,_,h=>by cases h
 |_+1,[],_,_,_,_,_,_,h=>by cases h
 |j+1,x::l,k,n,v,c,a,f,h=>by
  have d:=a x pT;have b:(0:Int)<=128 ^ k:=Int.pow_nonneg (by omega);unfold Rr at h;split at h
  .split at h
   .cases h
   .cases h;have:=Int.mul_nonneg d b;omega
  .have g:=Int.mul_nonneg (Vn x (show(128:Int)≠0 by decide)) b;exact ay8 j l (k+1) _ v c (fun y e=>a y (jH _ e)) (by omega) h
abbrev Rs:=Nat×Bool
abbrev cell (b:List Int)(s:Rs):List Int×Int×Bool:=(b,(s.1:Int),s.2)
abbrev X0 (b:List Int)(s:Rs):List Int×Int×Bool:=(b,(s.1:Int),!s.2)
def rr (b:List Int)(a:Nat):Option (Int×Nat):=match Rr 5 (b.drop a) 0 0 with
 |some (v,c)=>some (v,a+c)|none=>none
def acS:Option (Int×Nat)->Int×Int×Bool×Unit
 |some (v,a)=>(v,(a:Int),true,())|none=>(0,0,false,())
def afN {b:List Int}(c:dj b){a:Nat}(d:a<=b.length):kM F0 b (a:Int)=some (acS (rr b a)):=by rw[aBu c d];unfold rr;cases Rr 5 (b.drop a) 0 0<;>rfl
def at4 {b:List Int}(c:dj b){a:Nat}(d:a<=b.length):w3 F0 b (a:Int)=some (acS (rr b a)):=by rw[ay7 c d];unfold rr;cases Rr 5 (b.drop a) 0 0<;>rfl
def YT {b:List Int}(f:dj b){a:Nat}(j:a<=b.length){v:Int}{a':Nat}(h:rr b a=some (v,a')):0<=v/\v<=2147483647/\a<a'/\a'<=b.length:=by
 unfold rr at h;split at h
 .rename_i k c d;cases h;have e:=aDT _ _ _ _ _ _ d;have g:=ay8 _ _ _ _ _ _ (fun x i=>(f.2 x (auR i)).1) (Mi 0) d;rw[bc]at e;exact⟨g,e.1,by omega,by omega⟩
 .cases h
def aT (b:List Int)(s:Rs):Int×Rs:=match rr b s.1 with
 |some (v,a)=>if s.2=true then (v,a,true) else (0,s.1,false)|none=>(0,s.1,false)
def sV {b:List Int}(c:dj b){s:Rs}(d:s.1<=b.length):cH F0 (cell b s)=some (((aT b s).1,()),cell b (aT b s).2,()):=by
 obtain⟨a,ok⟩:=s;rw[aof,afN c d,ai];unfold aT acS;dsimp only;cases rr b a with
 |none=>rfl|some r=>cases ok<;>rfl
def mV {b:List Int}(c:dj b){s:Rs}(d:s.1<=b.length):bH F0 (X0 b s)=some (((aT b s).1,()),X0 b (aT b s).2,()):=by
 obtain⟨a,ok⟩:=s;rw[acq,at4 c d,ai];unfold aT acS;dsimp only;cases rr b a with
 |none=>cases ok<;>rfl|some r=>cases ok<;>rfl
def dS {b:List Int}(d:dj b){s:Rs}(c:s.1<=b.length):(aT b s).2.1<=b.length/\((aT b s).2.2=true->s.1<(aT b s).2.1)/\0<=(aT b s).1/\(aT b s).1<=2147483647:=by
 unfold aT;split
 .rename_i v a h;have:=YT d c h;split
  .exact⟨this.2.2.2,fun _=>this.2.2.1,this.1,this.2.1⟩
  .exact⟨c,(fun h=>by cases h),Mi _,by omega⟩
 .exact⟨c,(fun h=>by cases h),Mi _,by omega⟩
def acT (b:List Int)(a:Nat):Option (ByteArray×Nat):=match rr b a with
 |some (v,a)=>if v>(b.length:Int)-a then none else some (strOf ((b.take (a+v.toNat)).drop a),a+v.toNat)|none=>none
def aBw:Option (ByteArray×Nat)->ByteArray×Int×Bool×Unit
 |some (v,a)=>(v,(a:Int),true,())|none=>(ak,0,false,())
def at5 {b:List Int}(e:dj b){a:Nat}(f:a<=b.length) :
  br (!(acS (rr b a)).2.2.1) (some (ak,0,false,())) (br (decide ((acS (rr b a)).1>aj ((b.length:Int)-(acS (rr b a)).2.1))) (some (ak,0,false,()))
   (ck (S5 (acS (rr b a)).2.1 (aj ((acS (rr b a)).2.1+(acS (rr b a)).1)) (b.length:Int)) (some (strOf ((b.take (aj ((acS (rr b a)).2.1+(acS (rr b a)).1)).toNat).drop (acS (rr b a)).2.1.toNat),aj ((acS (rr b a)).2.1+(acS (rr b a)).1),true,()))))=some (aBw (acT b a)):=by
 have i:=e.1;unfold acT;cases g:rr b a with
 |none=>rfl
 |some r =>
  obtain⟨v,c⟩:=r;have h:=YT e f g;show br (!true) _ (br (decide (v>aj ((b.length:Int)-(c:Int)))) _ (ck (S5 (c:Int) (aj ((c:Int)+v)) (b.length:Int)) (some (strOf ((b.take (aj ((c:Int)+v)).toNat).drop (c:Int).toNat),aj ((c:Int)+v),true,()))))=some (aBw (if v>(b.length:Int)-c then none else some (strOf ((b.take (c+v.toNat)).drop c),c+v.toNat)));rw[aN,aa,aG (n:=(b.length:Int)-c) (by omega) (by omega),aG (n:=(c:Int)+v) (by omega) (by omega)];by_cases d:v>(b.length:Int)-c
  .rw[aL d,ae,ag d];rfl
  .rw[aQ d,aa,af d,show(c:Int)+v=((c+v.toNat:Nat):Int) by omega,YQ (by omega) (by omega),ab];simp only[ho,aBw]
def ay9 {b:List Int}(c:dj b){a:Nat}(d:a<=b.length):Im F0 b (a:Int)=some (aBw (acT b a)):=by rw[ak0,afN c d,ai];exact at5 c d
def Jn {b:List Int}(c:dj b){a:Nat}(d:a<=b.length):nG F0 b (a:Int)=some (aBw (acT b a)):=by rw[alU,at4 c d,ai];exact at5 c d
def aIJ {b:List Int}(c:dj b){a:Nat}(e:a<=b.length){v:ByteArray}{a':Nat}(h:acT b a=some (v,a')):v.size<=1048576/\a<a'/\a'<=b.length:=by
 have i:=c.1;unfold acT at h;split at h
 .rename_i f d g;have j:=YT c e g;split at h
  .cases h
  .rename_i k;cases h;refine⟨?_,by omega,by omega⟩;show(((b.take (d+f.toNat)).drop d).map fun n=>UInt8.ofNat n.toNat).toArray.size<=1048576;rw[List.size_toArray,o8,bc,bB];omega
 .cases h
def cV (b:List Int)(s:Rs):ByteArray×Rs:=match acT b s.1 with
 |some (v,a)=>if s.2=true then (v,a,true) else (ak,s.1,false)|none=>(ak,s.1,false)
def afO {b:List Int}(c:dj b){s:Rs}(d:s.1<=b.length):ns F0 (cell b s)=some (((cV b s).1,()),cell b (cV b s).2,()):=by
 obtain⟨a,ok⟩:=s;rw[ak2,ay9 c d,ai];unfold cV aBw;dsimp only;cases acT b a with
 |none=>rfl|some r=>cases ok<;>rfl
def YU {b:List Int}(c:dj b){s:Rs}(d:s.1<=b.length):gd F0 (X0 b s)=some (((cV b s).1,()),X0 b (cV b s).2,()):=by
 obtain⟨a,ok⟩:=s;rw[Zp,Jn c d,ai];unfold cV aBw;dsimp only;cases acT b a with
 |none=>cases ok<;>rfl|some r=>cases ok<;>rfl
def w7 {b:List Int}(d:dj b){s:Rs}(c:s.1<=b.length):(cV b s).2.1<=b.length/\(cV b s).1.size<=1048576:=by
 unfold cV;split
 .rename_i v a h;have:=aIJ d c h;split
  .exact⟨this.2.2,this.1⟩
  .exact⟨c,aR _⟩
 .exact⟨c,aR _⟩
def ki (b:List Int)(n:Int):Nat->Int->Rs->List Int->List Int×Rs
 |0,_,s,xs=>(xs,s)|f+1,i,s,xs=>if i<n/\s.2=true then ki b n f (i+1) (aT b s).2 (xs++[(aT b s).1]) else (xs,s)
def BY (b:List Int)(s:Rs):List Int×Rs:=ki b (aT b s).1 (b.length+2) 0 (aT b s).2 []
def aza {b:List Int}(e:dj b)(a:Int){γ:Type}(J:Ex->St->Option γ):∀(f:Nat) (i:Int) (s:Rs) (xs:List Int) (m:Nat),s.1<=b.length->0<=i->i+f<=4194304->(s.2=true->b.length+2<=s.1+f)->xs.length+f<=4194304->f<m ->
  Dw F0 J m (ux a i b (s.1:Int) s.2 xs)=J (.exit 0) (rM b ((ki b a f i s xs).2.1:Int) (ki b a f i s xs).2.2 (ki b a f i s xs).1)
 |0,i,s,xs,m,g,n,o,j,p,r=>by
  obtain⟨m,rfl⟩:∃q,m=q+1:=⟨m-1,by omega⟩;have c:s.2=false:=JS.2 fun h=>by have:=j h;omega
  rw[Ko];unfold ki;dsimp only;rw[c,aa];cases decide (i<a)<;>rfl
 |f+1,i,s,xs,m,g,n,o,j,p,r=>by
  obtain⟨m,rfl⟩:∃q,m=q+1:=⟨m-1,by omega⟩;rw[Ko];unfold ki;by_cases d:i<a
  .rw[aL d,ae];cases c:s.2 with
   |false =>
    rw[aa,af (fun h=>by cases h.2),c]
   |true =>
    have k:=sV e g;have l:=dS e g;unfold cell at k;rw[c]at k;rw[ae,ag ⟨d,rfl⟩,k,ai,ar (by omega) (by omega) (by rw[cR];omega),ab,aG (by omega) (by omega)];exact aza e a J f (i+1) (aT b s).2 (xs++[(aT b s).1]) m l.1 (by omega) (by omega) (fun h=>by have:=l.2.1 h;have:=j c;omega) (by rw[aJ,cR];omega) (by omega)
  .rw[aQ d,aa,af (fun h=>d h.1)]
def azb {b:List Int}(e:dj b)(a:Int){γ:Type}(J:Ex->St->Option γ):∀(f:Nat) (i:Int) (s:Rs) (xs:List Int) (m:Nat),s.1<=b.length->0<=i->i+f<=4194304->(s.2=true->b.length+2<=s.1+f)->xs.length+f<=4194304->f<m ->
  nJ F0 J m (kX a i b (s.1:Int) (!s.2) xs)=J (.exit 0) (j7 b ((ki b a f i s xs).2.1:Int) (!(ki b a f i s xs).2.2) (ki b a f i s xs).1)
 |0,i,s,xs,m,g,n,o,j,p,r=>by
  obtain⟨m,rfl⟩:∃q,m=q+1:=⟨m-1,by omega⟩;have c:s.2=false:=JS.2 fun h=>by have:=j h;omega
  rw[w4];unfold ki;dsimp only;rw[c];cases decide (i<a)<;>rfl
 |f+1,i,s,xs,m,g,n,o,j,p,r=>by
  obtain⟨m,rfl⟩:∃q,m=q+1:=⟨m-1,by omega⟩;rw[w4];unfold ki;by_cases d:i<a
  .rw[aL d,ae];cases c:s.2 with
   |false =>
    rw[af (fun h=>by cases h.2),c];rfl
   |true =>
    have k:=mV e g;have l:=dS e g;unfold X0 at k;rw[c]at k;rw[aN,ek,ae,ag ⟨d,rfl⟩,show(false:Bool)= !true from rfl,k,ai,ar (by omega) (by omega) (by rw[cR];omega),ab,aG (by omega) (by omega)];exact azb e a J f (i+1) (aT b s).2 (xs++[(aT b s).1]) m l.1 (by omega) (by omega) (fun h=>by have:=l.2.1 h;have:=j c;omega) (by rw[aJ,cR];omega) (by omega)
  .rw[aQ d,aa,af (fun h=>d h.1)]
def aDU {b:List Int}(a:dj b){s:Rs}(c:s.1<=b.length):E9 F0 (cell b s)=some (((BY b s).1,()),cell b (BY b s).2,()):=by have e:=a.1;have d:=dS a c;rw[aog,sV a c,ai];refine(aza a (aT b s).1 (Gl F0) (b.length+2) 0 (aT b s).2 [] _ d.1 (Mi _) (by omega) (fun _=>by omega) (by rw[bm];omega) (by rw[bz];omega)).trans ?_;rw[aea];rfl
def azc {b:List Int}(a:dj b){s:Rs}(c:s.1<=b.length):mz F0 (X0 b s)=some (((BY b s).1,()),X0 b (BY b s).2,()):=by have e:=a.1;have d:=dS a c;rw[Zq,mV a c,ai];refine(azb a (aT b s).1 (q5 F0) (b.length+2) 0 (aT b s).2 [] _ d.1 (Mi _) (by omega) (fun _=>by omega) (by rw[bm];omega) (by rw[bz];omega)).trans ?_;rw[Se];rfl
def aBx (b:List Int)(n:Int)(f:Nat)(i:Int){s:Rs}(h:s.2=false)(xs:List Int):ki b n f i s xs=(xs,s):=by
 cases f with
 |zero=>rfl
 |succ f =>
  unfold ki;rw[af (fun a=>by rw[h]at a;cases a.2)]
def at6 {b:List Int}(d:dj b)(n:Int):∀(f:Nat) (i:Int) (s:Rs) (xs:List Int),s.1<=b.length->(ki b n f i s xs).2.1<=b.length/\((ki b n f i s xs).2.2=true->(ki b n f i s xs).1.length+s.1<=xs.length+(ki b n f i s xs).2.1)
 |0,i,s,xs,a=>⟨a,fun _=>bF _⟩
 |f+1,i,s,xs,a=>by
  unfold ki;split
  .have e:=dS d a;have g:=at6 d n f (i+1) (aT b s).2 (xs++[(aT b s).1]) e.1;refine⟨g.1,fun h=>?_⟩;cases c:(aT b s).2.2 with
   |false =>
    rw[aBx b n f (i+1) c,c]at h;cases h
   |true =>
    have k:=e.2.1 c;have j:=g.2 h;rw[aJ,cR]at j;omega
  .exact⟨a,fun _=>bF _⟩
def aqi {b:List Int}(a:dj b){s:Rs}(c:s.1<=b.length):(BY b s).2.1<=b.length/\((BY b s).2.2=true->(BY b s).1.length<=1048576):=by have g:=a.1;have d:=dS a c;have h:=at6 a (aT b s).1 (b.length+2) 0 (aT b s).2 [] d.1;refine⟨h.1,fun e=>?_⟩;have f:=h.2 e;have i:=h.1;rw[bm]at f;unfold BY;omega
def wD (b:List Int)(s:Rs):bZ×Rs:=(((aT b s).1,(cV b (aT b s).2).1,(BY b (cV b (aT b s).2).2).1),(BY b (cV b (aT b s).2).2).2)
def aBy {b:List Int}(a:dj b){s:Rs}(c:s.1<=b.length):Ch F0 (cell b s)=some (((wD b s).1,()),cell b (wD b s).2,()):=by have d:=(dS a c).1;have e:=(w7 a d).1;rw[asb,sV a c,ai,afO a d,ai,aDU a e,ai];rfl
def awX {b:List Int}(a:dj b){s:Rs}(c:s.1<=b.length):mA F0 (X0 b s)=some (((wD b s).1,()),X0 b (wD b s).2,()):=by have d:=(dS a c).1;have e:=(w7 a d).1;rw[aeM,mV a c,ai,YU a d,ai,azc a e,ai];rfl
def SD {b:List Int}(a:dj b){s:Rs}(e:s.1<=b.length):(wD b s).2.1<=b.length/\((wD b s).2.2=true->uc (wD b s).1):=by have f:=(dS a e).1;have c:=w7 a f;have d:=aqi a c.1;exact⟨d.1,fun h=>⟨c.2,d.2 h⟩⟩
def acU:b4:=(0,0,(ak,b9),b9,b9,0,mW)
def fin (c:Int×Int)(b:List Int)(m:b4)(s:Rs):b4×Bool:=if s.2=true/\(s.1:Int)=(b.length:Int)/\c8 c m=true then (m,true) else (acU,false)
def afP {c:Int×Int}{b:List Int}{m:b4}{s:Rs}(h:s.2=true->fU m) :
  br (!s.2) (some (acU,false,())) (br ((s.1:Int) != (b.length:Int)) (some (acU,false,())) ((fm F0 c m).bind fun d=>br (!d.1) (some (acU,false,())) (some (m,true,()))))=some ((fin c b m s).1,(fin c b m s).2,()):=by
 unfold fin;cases e:s.2 with
 |false =>
  rw[af (fun h=>by cases h.1)];rfl
 |true =>
  rw[aN,aa,JL (h e),ai];by_cases a:(s.1:Int)=(b.length:Int)
  .rw[show((s.1:Int) != (b.length:Int))=false from SZ.2 a,aa];cases f:c8 c m with
   |false =>
    rw[af (fun h=>by cases h.2.2)];rfl
   |true =>
    rw[ag ⟨rfl,a,rfl⟩];rfl
  .rw[EZ.2 a,ae,af (fun h=>a h.2.1)]
def X1 {c:Int×Int}{b:List Int}{m:b4}{s:Rs}(h:s.2=true->fU m) :
  br (!s.2) (some (acU,false,())) (br ((s.1:Int) != (b.length:Int)) (some (acU,false,())) ((gb F0 c m).bind fun d=>br (!d.1) (some (acU,false,())) (some (m,true,()))))=some ((fin c b m s).1,(fin c b m s).2,()):=by
 unfold fin;cases e:s.2 with
 |false =>
  rw[af (fun h=>by cases h.1)];rfl
 |true =>
  rw[aN,aa,LZ (h e),ai];by_cases a:(s.1:Int)=(b.length:Int)
  .rw[show((s.1:Int) != (b.length:Int))=false from SZ.2 a,aa];cases f:c8 c m with
   |false =>
    rw[af (fun h=>by cases h.2.2)];rfl
   |true =>
    rw[ag ⟨rfl,a,rfl⟩];rfl
  .rw[EZ.2 a,ae,af (fun h=>a h.2.1)]
def iE (b:List Int):Int×Rs:=aT b (0,true)
def aIK (b:List Int):b4×Rs:=(((iE b).1,0,((cV b (iE b).2).1,(wD b (cV b (iE b).2).2).1),b9,b9,0,mW),(wD b (cV b (iE b).2).2).2)
def aIL (b:List Int):b4×Rs :=
 (((iE b).1,0,(ak,b9),((aT b (iE b).2).1,(cV b (aT b (iE b).2).2).1,(BY b (cV b (aT b (iE b).2).2).2).1),b9,0,mW),(BY b (cV b (aT b (iE b).2).2).2).2)
def aIM (b:List Int):b4×Rs :=
 (((iE b).1,(aT b (iE b).2).1,(ak,b9),b9,(wD b (aT b (aT b (iE b).2).2).2).1,(aT b (aT b (iE b).2).2).1,mW),(wD b (aT b (aT b (iE b).2).2).2).2)
def aIN (b:List Int):b4×Rs :=
 (((iE b).1,0,(ak,b9),b9,b9,0,(aT b (iE b).2).1,(aT b (aT b (iE b).2).2).1,(aT b (aT b (aT b (iE b).2).2).2).1,(aT b (aT b (aT b (aT b (iE b).2).2).2).2).1),(aT b (aT b (aT b (aT b (iE b).2).2).2).2).2)
def aKa (b:List Int):b4×Rs:=(((iE b).1,0,(ak,b9),b9,b9,0,mW),(iE b).2)
def afQ (b:List Int):b4×Rs:=if ((iE b).1==1)=true then aIK b else if ((iE b).1==2)=true then aIL b else if ((iE b).1==3)=true then aIM b else if ((iE b).1==4)=true then aIN b else aKa b
def gv (c:Int×Int)(b:List Int):b4×Bool:=fin c b (afQ b).1 (afQ b).2
def at7 {b:List Int}(a:dj b)(c:Int×Int):Kq F0 c b=some ((gv c b).1,(gv c b).2,()):=by
 have v:cH F0 (b,0,true)=some (((iE b).1,()),cell b (iE b).2,()):=sV a (s:=(0,true)) (aR _);have i:(iE b).2.1<=b.length:=(dS a (s:=(0,true)) (aR _)).1;have j:=(dS a i).1;have k:=(dS a j).1;have w:=(dS a k).1;have t0:=w7 a i;have t1:=w7 a j;have l:=SD a t0.1;have n:=SD a k;have o:=aqi a t1.1;rw[asc,v,ai];unfold gv afQ;dsimp only;by_cases p:((iE b).1==1)=true
 .rw[p,ae,ag rfl,afO a i,ai,aBy a t0.1,ai];unfold aIK;generalize wD b (cV b (iE b).2).2=e at l ⊢;generalize cV b (iE b).2=f at t0 ⊢;generalize iE b=d;exact afP (c:=c) (b:=b) (m:=(d.1,0,(f.1,e.1),b9,b9,0,mW)) (s:=e.2) fun h=>⟨t0.2,l.2 h,dy,dy⟩
 .rw[JS.2 p,aa,af (by decide)];by_cases q:((iE b).1==2)=true
  .rw[q,ae,ag rfl,sV a i,ai,afO a j,ai,aDU a t1.1,ai];unfold aIL;generalize BY b (cV b (aT b (iE b).2).2).2=g at o ⊢;generalize cV b (aT b (iE b).2).2=e at t1 ⊢;generalize aT b (iE b).2=f;generalize iE b=d;exact afP (c:=c) (b:=b) (m:=(d.1,0,(ak,b9),(f.1,e.1,g.1),b9,0,mW)) (s:=g.2) fun h=>⟨aR _,dy,⟨t1.2,o.2 h⟩,dy⟩
  .rw[JS.2 q,aa,af (by decide)];by_cases r:((iE b).1==3)=true
   .rw[r,ae,ag rfl,sV a i,ai,sV a j,ai,aBy a k,ai];unfold aIM;generalize wD b (aT b (aT b (iE b).2).2).2=g at n ⊢;generalize aT b (aT b (iE b).2).2=e;generalize aT b (iE b).2=f;generalize iE b=d;exact afP (c:=c) (b:=b) (m:=(d.1,f.1,(ak,b9),b9,g.1,e.1,mW)) (s:=g.2) fun h=>⟨aR _,dy,dy,n.2 h⟩
   .rw[JS.2 r,aa,af (by decide)];by_cases t:((iE b).1==4)=true
    .rw[t,ae,ag rfl,sV a i,ai,sV a j,ai,sV a k,ai,sV a w,ai];unfold aIN;generalize aT b (aT b (aT b (aT b (iE b).2).2).2).2=u;generalize aT b (aT b (aT b (iE b).2).2).2=g;generalize aT b (aT b (iE b).2).2=e;generalize aT b (iE b).2=f;generalize iE b=d;exact afP (c:=c) (b:=b) (m:=(d.1,0,(ak,b9),b9,b9,0,f.1,e.1,g.1,u.1)) (s:=u.2) fun h=>⟨aR _,dy,dy,dy⟩
    .rw[JS.2 t,aa,af (by decide)];unfold aKa;generalize iE b=d;exact afP (c:=c) (b:=b) (m:=(d.1,0,(ak,b9),b9,b9,0,mW)) (s:=d.2) fun h=>⟨aR _,dy,dy,dy⟩
def acV {b:List Int}(a:dj b)(c:Int×Int):CI F0 c b=some ((gv c b).1,(gv c b).2,()):=by
 have v:bH F0 (b,0,false)=some (((iE b).1,()),X0 b (iE b).2,()):=mV a (s:=(0,true)) (aR _);have i:(iE b).2.1<=b.length:=(dS a (s:=(0,true)) (aR _)).1;have j:=(dS a i).1;have k:=(dS a j).1;have w:=(dS a k).1;have t0:=w7 a i;have t1:=w7 a j;have l:=SD a t0.1;have n:=SD a k;have o:=aqi a t1.1;rw[asz,v,ai];unfold gv afQ;dsimp only;by_cases p:((iE b).1==1)=true
 .rw[p,ae,ag rfl,YU a i,ai,awX a t0.1,ai];unfold aIK;generalize wD b (cV b (iE b).2).2=e at l ⊢;generalize cV b (iE b).2=f at t0 ⊢;generalize iE b=d;exact X1 (c:=c) (b:=b) (m:=(d.1,0,(f.1,e.1),b9,b9,0,mW)) (s:=e.2) fun h=>⟨t0.2,l.2 h,dy,dy⟩
 .rw[JS.2 p,aa,af (by decide)];by_cases q:((iE b).1==2)=true
  .rw[q,ae,ag rfl,mV a i,ai,YU a j,ai,azc a t1.1,ai];unfold aIL;generalize BY b (cV b (aT b (iE b).2).2).2=g at o ⊢;generalize cV b (aT b (iE b).2).2=e at t1 ⊢;generalize aT b (iE b).2=f;generalize iE b=d;exact X1 (c:=c) (b:=b) (m:=(d.1,0,(ak,b9),(f.1,e.1,g.1),b9,0,mW)) (s:=g.2) fun h=>⟨aR _,dy,⟨t1.2,o.2 h⟩,dy⟩
  .rw[JS.2 q,aa,af (by decide)];by_cases r:((iE b).1==3)=true
   .rw[r,ae,ag rfl,mV a i,ai,mV a j,ai,awX a k,ai];unfold aIM;generalize wD b (aT b (aT b (iE b).2).2).2=g at n ⊢;generalize aT b (aT b (iE b).2).2=e;generalize aT b (iE b).2=f;generalize iE b=d;exact X1 (c:=c) (b:=b) (m:=(d.1,f.1,(ak,b9),b9,g.1,e.1,mW)) (s:=g.2) fun h=>⟨aR _,dy,dy,n.2 h⟩
   .rw[JS.2 r,aa,af (by decide)];by_cases t:((iE b).1==4)=true
    .rw[t,ae,ag rfl,mV a i,ai,mV a j,ai,mV a k,ai,mV a w,ai];unfold aIN;generalize aT b (aT b (aT b (aT b (iE b).2).2).2).2=u;generalize aT b (aT b (aT b (iE b).2).2).2=g;generalize aT b (aT b (iE b).2).2=e;generalize aT b (iE b).2=f;generalize iE b=d;exact X1 (c:=c) (b:=b) (m:=(d.1,0,(ak,b9),b9,b9,0,f.1,e.1,g.1,u.1)) (s:=u.2) fun h=>⟨aR _,dy,dy,dy⟩
    .rw[JS.2 t,aa,af (by decide)];unfold aKa;generalize iE b=d;exact X1 (c:=c) (b:=b) (m:=(d.1,0,(ak,b9),b9,b9,0,mW)) (s:=d.2) fun h=>⟨aR _,dy,dy,dy⟩
structure j2 (w:ah):Prop where
 l:w.2.1.length<=1048576
 r:w.2.2.1.length<=1048576
 rl:∀x∈w.2.2.1,amw x
 n:w.2.2.2.1.length<=1048576
 nb:∀x∈w.2.2.2.1,dj x.2
 s:w.2.2.2.2.length<=1048576
 st:∀x∈w.2.2.2.2,x.2.1.size<=1048576
def aBz (c:Int×Int):MC F0 c=some (wC c,()):=by
 rw[aoc,ir,ai];unfold wC;dsimp only;cases h:bw c with
 |false=>rfl
 |true =>
  have:=b5 h;have a:=ayS this.1 this.2.1;have e:aj (c.1-1)=c.1-1:=aG (by omega) (by omega);rw[aN,aa,e,aG (n:=Int.tdiv (c.1-1) 3) (by omega) (by omega),ag rfl]
def UQ:aw:=(0,0,0,(0,0,b9,ak),[],[],([],0),[])
def aBA:gr:=(0,[])
def L1:cI:=(0,ak,0)
def aqj (c:Int×Int)(l:List aw)(k:Nat):Bool:=mU c (l.getD k UQ)&&((l.getD k UQ).1==(k:Int))
def acW (c:Int×Int)(l:List gr)(k:Nat):Bool:=(gv c (l.getD k aBA).2).2&&gE 0 (aj (c.1-1)) (l.getD k aBA).1
def acX (c:Int×Int)(l:List cI)(k:Nat):Bool:=gE 0 (aj (c.1-1)) (l.getD k L1).2.2&&(bg (l.getD k L1).2.1.data.toList&&(aC (l.getD k L1).2.1.data.toList==(l.getD k L1).1))
def aqk (w:ah):Bool:=(List.range w.2.2.1.length).all (aqj w.1 w.2.2.1)
def Jo (w:ah):Bool:=(List.range w.2.2.2.1.length).all (acW w.1 w.2.2.2.1)
def sW (w:ah):Bool:=(List.range w.2.2.2.2.length).all (acX w.1 w.2.2.2.2)
def eC (w:ah):Bool :=
 bw w.1&&(kf w.1.1 w.2.1&&(!decide ((w.2.1.length:Int)>wC w.1)&&(!((w.2.2.1.length:Int) != w.1.1)&&(!decide ((w.2.2.2.1.length:Int)>60)&&(!decide ((w.2.2.2.2.length:Int)>300)&&(aqk w&&(Jo w&&sW w)))))))
def amO (a b:Bool):(if a=true then some (b,()) else some (false,()))=some (a&&b,()):=by cases a<;>rfl
def aBB {w:ah}(h:j2 w):p4 F0 (l3 F0) F0.n (l2 0 w.1.1 w.1.2 w.2.1 w.2.2.1 w.2.2.2.1 w.2.2.2.2)=some (sW w,()):=by
 have d:=h.s;rw[ej (fun m k=>p4 F0 (l3 F0) m (l2 k w.1.1 w.1.2 w.2.1 w.2.2.1 w.2.2.2.1 w.2.2.2.2)) w.2.2.2.2.length (acX w.1 w.2.2.2.2) (some (true,())) (some (false,())) (fun m k a=>?_) (fun m=>?_) _ (by rw[bz];omega),oG]
 .rfl
 .have c:=h.st _ (bP a);rw[GZ,aM a,ae,an a,ab,aV a,cP,ai,JK c,ai,oW c,ai,aed,al (by omega)];unfold acX;rw[aI a];dsimp only;cases gE 0 (aj (w.1.1-1)) (w.2.2.2.2[k]).2.2<;>cases bg (w.2.2.2.2[k]).2.1.data.toList<;>try rfl
  by_cases b:aC (w.2.2.2.2[k]).2.1.data.toList=(w.2.2.2.2[k]).1
  .rw[show(aC (w.2.2.2.2[k]).2.1.data.toList != (w.2.2.2.2[k]).1)=false from SZ.2 b,show(aC (w.2.2.2.2[k]).2.1.data.toList==(w.2.2.2.2[k]).1)=true from bf.2 b];rfl
  .rw[EZ.2 b,bU.2 b];rfl
 .rw[GZ,aB,aa,ab1]
def aBC {w:ah}(h:j2 w):p5 F0 (l5 F0) F0.n (l4 0 w.1.1 w.1.2 w.2.1 w.2.2.1 w.2.2.2.1 w.2.2.2.2)=some (Jo w&&sW w,()):=by
 have b:=h.n;rw[ej (fun m k=>p5 F0 (l5 F0) m (l4 k w.1.1 w.1.2 w.2.1 w.2.2.1 w.2.2.2.1 w.2.2.2.2)) w.2.2.2.1.length (acW w.1 w.2.2.2.1) (some (sW w,())) (some (false,())) (fun m k a=>?_) (fun m=>?_) _ (by rw[bz];omega),amO]
 .rfl
 .rw[G0,aM a,ae,an a,ab,aV a,show((w.1.1,w.1.2):Int×Int)=w.1 from rfl,at7 (h.nb _ (bP a)),ai,ab,cP,ai,aee,al (by omega)];unfold acW;rw[aI a];dsimp only;cases (gv w.1 (w.2.2.2.1[k]).2).2<;>cases gE 0 (aj (w.1.1-1)) (w.2.2.2.1[k]).1<;>rfl
 .rw[G0,aB,aa,ab2,aBB h]
def aEY {w:ah}(h:j2 w):p6 F0 (l7 F0) F0.n (l6 0 w.1.1 w.1.2 w.2.1 w.2.2.1 w.2.2.2.1 w.2.2.2.2)=some (aqk w&&(Jo w&&sW w),()):=by
 have c:=h.r;rw[ej (fun m k=>p6 F0 (l7 F0) m (l6 k w.1.1 w.1.2 w.2.1 w.2.2.1 w.2.2.2.1 w.2.2.2.2)) w.2.2.1.length (aqj w.1 w.2.2.1) (some (Jo w&&sW w,())) (some (false,())) (fun m k a=>?_) (fun m=>?_) _ (by rw[bz];omega),amO]
 .rfl
 .rw[G1,aM a,ae,an a,ab,aV a,ab,show((w.1.1,w.1.2):Int×Int)=w.1 from rfl,hU (h.rl _ (bP a)),ai,aef,al (by omega)];unfold aqj;rw[aI a];dsimp only;by_cases b:(w.2.2.1[k]).1=(k:Int)
  .rw[show((w.2.2.1[k]).1 != (k:Int))=false from SZ.2 b,show((w.2.2.1[k]).1==(k:Int))=true from bf.2 b,aa,agw];cases mU w.1 w.2.2.1[k]<;>rfl
  .rw[EZ.2 b,bU.2 b,ae,adu];rfl
 .rw[G1,aB,aa,ab3,aBC h]
def azd {w:ah}(h:j2 w):yA F0 w=some (eC w,()):=by rw[ak3,ir,ai,ait (bY h.l (by omega)),ai,aBz,ai,aEY h];unfold eC;cases bw w.1<;>cases kf w.1.1 w.2.1<;>cases decide ((w.2.1.length:Int)>wC w.1)<;>cases ((w.2.2.1.length:Int) != w.1.1)<;>cases decide ((w.2.2.2.1.length:Int)>60)<;>cases decide ((w.2.2.2.2.length:Int)>300)<;>rfl
def aBD {w:ah}(h:j2 w):q7 F0 (mC F0) F0.n (mB w.2.2.2.2 (w.2.2.2.2.length:Int) 0 w.1.1 w.1.2)=some (sW w,()):=by
 have d:=h.s;rw[ej (fun m k=>q7 F0 (mC F0) m (mB w.2.2.2.2 (w.2.2.2.2.length:Int) k w.1.1 w.1.2)) w.2.2.2.2.length (acX w.1 w.2.2.2.2) (some (true,())) (some (false,())) (fun m k a=>?_) (fun m=>?_) _ (by rw[bz];omega),oG]
 .rfl
 .have c:=h.st _ (bP a);rw[Hs,aM a,ae,an a,ab,aV a,bR,ai,CX c,ai,rq c,ai,aeO,al (by omega)];unfold acX;rw[aI a];dsimp only;cases gE 0 (aj (w.1.1-1)) (w.2.2.2.2[k]).2.2<;>cases bg (w.2.2.2.2[k]).2.1.data.toList<;>try rfl
  by_cases b:aC (w.2.2.2.2[k]).2.1.data.toList=(w.2.2.2.2[k]).1
  .rw[show(aC (w.2.2.2.2[k]).2.1.data.toList != (w.2.2.2.2[k]).1)=false from SZ.2 b,show(aC (w.2.2.2.2[k]).2.1.data.toList==(w.2.2.2.2[k]).1)=true from bf.2 b];rfl
  .rw[EZ.2 b,bU.2 b];rfl
 .rw[Hs,aB,aa,acr]
def aBE {w:ah}(h:j2 w):q8 F0 (mE F0) F0.n (mD w.2.2.2.1 (w.2.2.2.1.length:Int) 0 w.1.1 w.1.2 w.2.1 w.2.2.1 w.2.2.2.1 w.2.2.2.2 w.1.1 w.1.2)=some (Jo w&&sW w,()):=by
 have b:=h.n;rw[ej (fun m k=>q8 F0 (mE F0) m (mD w.2.2.2.1 (w.2.2.2.1.length:Int) k w.1.1 w.1.2 w.2.1 w.2.2.1 w.2.2.2.1 w.2.2.2.2 w.1.1 w.1.2)) w.2.2.2.1.length (acW w.1 w.2.2.2.1) (some (sW w,())) (some (false,())) (fun m k a=>?_) (fun m=>?_) _ (by rw[bz];omega),amO]
 .rfl
 .rw[Ht,aM a,ae,an a,ab,aV a,show((w.1.1,w.1.2):Int×Int)=w.1 from rfl,acV (h.nb _ (bP a)),ai,bR,ai,aeP,al (by omega)];unfold acW;rw[aI a];dsimp only;cases (gv w.1 (w.2.2.2.1[k]).2).2<;>cases gE 0 (aj (w.1.1-1)) (w.2.2.2.1[k]).1<;>rfl
 .rw[Ht,aB,aa,acs,aBD h]
def aEZ {w:ah}(h:j2 w):q9 F0 (mG F0) F0.n (mF w.2.2.1 (w.2.2.1.length:Int) 0 w.1.1 w.1.2 w.2.1 w.2.2.1 w.2.2.2.1 w.2.2.2.2 w.1.1 w.1.2)=some (aqk w&&(Jo w&&sW w),()):=by
 have c:=h.r;rw[ej (fun m k=>q9 F0 (mG F0) m (mF w.2.2.1 (w.2.2.1.length:Int) k w.1.1 w.1.2 w.2.1 w.2.2.1 w.2.2.2.1 w.2.2.2.2 w.1.1 w.1.2)) w.2.2.1.length (aqj w.1 w.2.2.1) (some (Jo w&&sW w,())) (some (false,())) (fun m k a=>?_) (fun m=>?_) _ (by rw[bz];omega),amO]
 .rfl
 .rw[Hu,aM a,ae,an a,ab,aV a,show((w.1.1,w.1.2):Int×Int)=w.1 from rfl,dR (h.rl _ (bP a)),ai,aeQ,al (by omega)];unfold aqj;rw[aI a];dsimp only;by_cases b:(w.2.2.1[k]).1=(k:Int)
  .rw[show((w.2.2.1[k]).1 != (k:Int))=false from SZ.2 b,show((w.2.2.1[k]).1==(k:Int))=true from bf.2 b,aa,agw];cases mU w.1 w.2.2.1[k]<;>rfl
  .rw[EZ.2 b,bU.2 b,ae,adu];cases mU w.1 w.2.2.1[k]<;>rfl
 .rw[Hu,aB,aa,acu,aBE h]
def eP {w:ah}(h:j2 w):bT F0 w=some (eC w,()):=by rw[alV,fQ,ai,acR (bY h.l (by omega)),ai,aj8,ai,aEZ h];unfold eC;cases bw w.1<;>cases kf w.1.1 w.2.1<;>cases decide ((w.2.1.length:Int)>wC w.1)<;>cases ((w.2.2.1.length:Int) != w.1.1)<;>cases decide ((w.2.2.2.1.length:Int)>60)<;>cases decide ((w.2.2.2.2.length:Int)>300)<;>rfl
def aql (r:aw):Int:=(r.2.2.2.2.1.length:Int)+r.2.2.2.2.2.1.length+r.2.2.2.2.2.2.2.length
def aGV {r:aw}(h:amw r):YN F0 r=some (aql r,()):=by have a:=h.p;have b:=h.t;have c:=h.h;rw[awB,aG (n:=(r.2.2.2.2.1.length:Int)+(r.2.2.2.2.2.1.length:Int)) (by omega) (by omega),aG (by omega) (by omega)];rfl
def awY (w:ah):Bool:=(List.range w.2.2.1.length).all fun k=> !decide (aql (w.2.2.1.getD k UQ)>62)
def awZ (w:ah):Bool:=eC w&&(awY w&&(decide ((w.2.2.2.1.length:Int)<=60)&&decide ((w.2.2.2.2.length:Int)<=300)))
def aGW (a b:Int):decide (a>b)= !decide (a<=b):=by
 by_cases h:a<=b
 .rw[aL h,aQ (show ¬a>b by omega)];rfl
 .rw[aQ h,aL (show a>b by omega)];rfl
def aze {w:ah}(h:j2 w):Ok F0 w=some (awZ w,()):=by
 have b:=h.r;rw[apS,eP h,ai,aGW,aGW,ej (fun m k=>EO F0 (vR F0) m (vQ w.2.2.1 (w.2.2.1.length:Int) k)) w.2.2.1.length (fun k=> !decide (aql (w.2.2.1.getD k UQ)>62)) (some (true,())) (some (false,())) (fun m k a=>?_) (fun m=>?_) _ (by rw[bz];omega),oG]
 .unfold awZ awY;cases eC w<;>cases decide ((w.2.2.2.1.length:Int)<=60)<;>cases decide ((w.2.2.2.2.length:Int)<=300)<;>cases (List.range w.2.2.1.length).all _<;>rfl
 .rw[LQ,aM a,ae,an a,ab,aV a,aGV (h.rl _ (bP a)),ai,ail,al (by omega),aI a];dsimp only;cases decide (aql w.2.2.1[k]>62)<;>rfl
 .rw[LQ,aB,aa,afv]
structure aNf (r:aw):Prop where
 i1:I64 r.1
 i2:I64 r.2.1
 i3:I64 r.2.2.2.1.1
 i4:I64 r.2.2.2.1.2.1
 i5:I64 r.2.2.2.1.2.2.1.1
 d:r.2.2.2.1.2.2.2.size<=1048576
 p:r.2.2.2.2.1.length<=1048576
 t:r.2.2.2.2.2.1.length<=1048576
 h:r.2.2.2.2.2.2.2.length<=1048576
def aKb (l:List Int)(a b:cI):Bool:= !decide (a.2.2∈l)&&((a.2.2==b.2.2)&&((a.1==b.1)&& !(a.2.1.toList==b.2.1.toList)))
def okV (w:ah)(i k:Nat):Bool:= !aKb w.2.1 (w.2.2.2.2.getD i L1) (w.2.2.2.2.getD k L1)
def YV (w:ah):Bool:=eC w&&(List.range w.2.2.2.2.length).all fun i=>(List.range w.2.2.2.2.length).all (okV w i)
def aBF {V:Type}(h a b c:Bool)(x y:V):br (!h) (br a (br b (br (!c) x y) y) y) y=if (!(!h&&(a&&(b&& !c))))=true then y else x:=by cases h<;>cases a<;>cases b<;>cases c<;>rfl
def aE0 {w:ah}(h:j2 w){γ:Type}(J:Ex->St->Option γ)(n:Nat){i:Nat}(hi:i<w.2.2.2.2.length) :
  ey F0 (iz F0 J n) F0.n (dv w.2.2.2.2 (w.2.2.2.2.length:Int) (i:Int) w.2.2.2.2 (w.2.2.2.2.length:Int) 0 w.1.1 w.1.2 w.2.1 w.2.2.1 w.2.2.2.1 w.2.2.2.2 (w.2.2.2.2[i]).1 (w.2.2.2.2[i]).2.1 (w.2.2.2.2[i]).2.2) =
  if (List.range w.2.2.2.2.length).all (okV w i)=true then lg F0 J n (iA w.2.2.2.2 (w.2.2.2.2.length:Int) ((i+1:Nat):Int) w.1.1 w.1.2 w.2.1 w.2.2.1 w.2.2.2.1 w.2.2.2.2) else J .ret (tn false):=by
 have b:=h.s;have c:=h.l;refine ej (fun m k=>ey F0 (iz F0 J n) m (dv w.2.2.2.2 (w.2.2.2.2.length:Int) (i:Int) w.2.2.2.2 (w.2.2.2.2.length:Int) k w.1.1 w.1.2 w.2.1 w.2.2.1 w.2.2.2.1 w.2.2.2.2 (w.2.2.2.2[i]).1 (w.2.2.2.2[i]).2.1 (w.2.2.2.2[i]).2.2)) w.2.2.2.2.length (okV w i) _ _ (fun m k a=>?_) (fun m=>?_) _ (by rw[bz];omega)
 .rw[Bf,aM a,ae,an a,ab,aV a,eA (by omega),ai,XH,al (by omega)];dsimp only;rw[aBF];unfold okV aKb;rw[aI hi,aI a]
 .rw[Bf,aB,aa,U8,al (by omega)]
def amx {w:ah}(h:j2 w):vO F0 w=some (YV w,()):=by
 have b:=h.s;rw[acG,eP h,ai,ej (fun m k=>lg F0 (lO F0) m (iA w.2.2.2.2 (w.2.2.2.2.length:Int) k w.1.1 w.1.2 w.2.1 w.2.2.1 w.2.2.2.1 w.2.2.2.2)) w.2.2.2.2.length (fun i=>(List.range w.2.2.2.2.length).all (okV w i)) (some (true,())) (some (false,())) (fun m k a=>?_) (fun m=>?_) _ (by rw[bz];omega),oG]
 .unfold YV;cases eC w<;>rfl
 .rw[Bg,aM a,ae,an a,ab,aV a,aE0 h _ _ a,XI]
 .rw[Bg,aB,aa,U9]
def oH (l:List Int):Nat->List Int
 |0=>[]|k+1=>oH l k++if (k:Int)∈l then [] else [(k:Int)]
def j3 (l:List Int):∀k,(oH l k).length<=k
 |0=>bF _|k+1=>by
  have:=j3 l k;unfold oH;split
  .rw[fi];omega
  .rw[aJ,cR];omega
def aiz (l:List Int):∀k,∀x∈oH l k,0<=x/\x<k
 |0,x,h=>by cases h
 |k+1,x,h=>by
  unfold oH at h;rcases gF.1 h with h1|h1
  .have:=aiz l k x h1;omega
  .split at h1
   .cases h1
   .rw[fM.1 h1];omega
def aE (w:ah):List Int:=oH w.2.1 w.2.2.1.length
def ake {V:Type}(X:List Int->V)(l xs:List Int)(k:Int):br (!decide (k∈l)) (X (xs++[k])) (X xs)=X (xs++if k∈l then [] else [k]):=by
 by_cases h:k∈l
 .rw[aL h,ag h,fi];rfl
 .rw[aQ h,af h];rfl
def aqm {w:ah}(h:j2 w):Fo F0 w=some (aE w,()):=by
 have e:=h.r;have f:=h.l;rw[aoS];refine cu (fun n i (a:List Int)=>oS F0 (u7 F0) n (ks i w.1.1 w.1.2 w.2.1 w.2.2.1 w.2.2.2.1 w.2.2.2.2 a)) w.2.2.1.length (fun k a=>a=oH w.2.1 k) _ (fun n k a c b=>.inr ⟨oH w.2.1 (k+1),?_,rfl⟩) (fun n a b=>?_) _ 0 [] (aR _) rfl (by rw[bz];omega)
 .have d:=j3 w.2.1 k;rw[<-b]at d;rw[KR,aM c,ae,fy (by omega),ai,ar (by omega) (by omega) (by rw[cR];omega),ab,al (by omega)];dsimp only;rw[ake (fun a=>oS F0 (u7 F0) n (ks ((k+1:Nat):Int) w.1.1 w.1.2 w.2.1 w.2.2.1 w.2.2.2.1 w.2.2.2.2 a)),b];rfl
 .rw[KR,aB,aa,aeB,b];rfl
def ng {w:ah}(h:j2 w):gV F0 w=some (aE w,()):=by
 have e:=h.r;have f:=h.l;rw[apn];refine cu (fun n i (a:List Int)=>oU F0 (vr F0) n (kv (w.2.2.1.length:Int) i w.1.1 w.1.2 w.2.1 w.2.2.1 w.2.2.2.1 w.2.2.2.2 a)) w.2.2.1.length (fun k a=>a=oH w.2.1 k) _ (fun n k a c b=>.inr ⟨oH w.2.1 (k+1),?_,rfl⟩) (fun n a b=>?_) _ 0 [] (aR _) rfl (by rw[bz];omega)
 .have d:=j3 w.2.1 k;rw[<-b]at d;rw[Li,aM c,ae,eA (by omega),ai,ar (by omega) (by omega) (by rw[cR];omega),ab,al (by omega)];dsimp only;rw[ake (fun a=>oU F0 (vr F0) n (kv (w.2.2.1.length:Int) ((k+1:Nat):Int) w.1.1 w.1.2 w.2.1 w.2.2.1 w.2.2.2.1 w.2.2.2.2 a)),b];rfl
 .rw[Li,aB,aa,aeX,b];rfl
def oY {w:ah}{k:Nat}(a:k<(aE w).length):∃j:Nat,(aE w)[k]=(j:Int)/\j<w.2.2.1.length:=by have:=aiz w.2.1 w.2.2.1.length _ (bP a);exact⟨(aE w)[k].toNat,by show _=(((aE w)[k]).toNat:Int);have b:0<=(aE w)[k]:=this.1;omega,by have b:0<=(aE w)[k]:=this.1;have c:(aE w)[k]<w.2.2.1.length:=this.2;omega⟩
def aGX (w:ah)(x:Int):ByteArray:=(w.2.2.1.getD x.toNat UQ).2.2.2.1.2.2.2
def amy (s t:ByteArray):Bool:=bg s.data.toList&&(bg t.data.toList&&(decide ((s.size:Int)>=(t.size:Int))&&(((s.extract 0 t.size).toList==t.toList)&&(((s.size:Int)==(t.size:Int)) || (jI s (t.size:Int)==47)))))
def azf {s t:ByteArray}(b:s.size<=1048576)(c:t.size<=1048576):Iw F0 s t=some (amy s t,()):=by
 rw[alj,JK b,ai,JK c,ai];unfold amy;dsimp only;cases bg s.data.toList<;>cases bg t.data.toList<;>try rfl
 rw[aN,aa,aa,en,en];by_cases d:t.size<=s.size
 .rw[aQ (show ¬(t.size:Int)>(s.size:Int) by omega),aa,aL (show(s.size:Int)>=(t.size:Int) by omega),en,aGS d,ab,ho,show(0:Int).toNat=0 from rfl];cases ((s.extract 0 t.size).toList==t.toList)<;>try rfl
  rw[aN,aa,en];by_cases a:(s.size:Int)=(t.size:Int)
  .rw[show((s.size:Int)==(t.size:Int))=true from bf.2 a];rfl
  .rw[bU.2 a,aa,an (by omega),ab];rfl
 .rw[aL (show(t.size:Int)>(s.size:Int) by omega),ae,aQ (show ¬(s.size:Int)>=(t.size:Int) by omega)];rfl
def SE {s t:ByteArray}(b:s.size<=1048576)(c:t.size<=1048576):sE F0 s t=some (amy s t,()):=by
 rw[amc,CX b,ai,CX c,ai,Xo,O5];unfold amy;dsimp only;cases bg s.data.toList<;>cases bg t.data.toList<;>try rfl
 rw[ae,ae,en,en];by_cases d:t.size<=s.size
 .rw[aL (show(s.size:Int)>=(t.size:Int) by omega),en,ae,aGS d,ab,ho,show(0:Int).toNat=0 from rfl,ai,ai];dsimp only;cases ((s.extract 0 t.size).toList==t.toList)<;>try rfl
  rw[ae,en];by_cases a:(s.size:Int)=(t.size:Int)
  .rw[show((s.size:Int)==(t.size:Int))=true from bf.2 a];rfl
  .rw[bU.2 a,aa,an (by omega),ab];rfl
 .rw[aQ (show ¬(s.size:Int)>=(t.size:Int) by omega)];rfl
def akf (s t:ByteArray):Bool:=amy s t || amy t s
def aBG {s t:ByteArray}(a:s.size<=1048576)(b:t.size<=1048576):Sn F0 s t=some (akf s t,()):=by rw[asM,SE a b,ai,SE b a,ai];unfold akf;cases amy s t<;>rfl
def dn (w:ah)(i:Nat):ByteArray:=aGX w ((aE w).getD i 0)
def aDV {w:ah}{i j:Nat}(hi:i<(aE w).length)(e:(aE w)[i]=(j:Int))(a:j<w.2.2.1.length):dn w i=(w.2.2.1[j]).2.2.2.1.2.2.2:=by unfold dn aGX;rw[aI hi,e,ho,aI a]
def aua (w:ah):Bool:=eC w&&(List.range (aE w).length).all fun i=>(List.range (aE w).length).all fun k=>akf (dn w i) (dn w k)
def aIO {w:ah}(h:j2 w){γ:Type}(J:Ex->St->Option γ)(n:Nat){i:Nat}(hi:i<(aE w).length) :
  oE F0 (la F0 J n) F0.n (k9 (aE w)[i] ((aE w).length:Int) (i:Int) ((aE w).length:Int) 0 w.1.1 w.1.2 w.2.1 w.2.2.1 w.2.2.2.1 w.2.2.2.2 (aE w) (aE w)) =
  if ((List.range (aE w).length).all fun k=>akf (dn w i) (dn w k))=true then oF F0 J n (ld ((aE w).length:Int) ((i+1:Nat):Int) w.1.1 w.1.2 w.2.1 w.2.2.1 w.2.2.2.1 w.2.2.2.2 (aE w)) else J .ret (Be false):=by
 have hlen:(aE w).length<=1048576:=bY (j3 w.2.1 w.2.2.1.length) h.r;obtain⟨f,e,b⟩:=oY hi;refine ej (fun m k=>oE F0 (la F0 J n) m (k9 (aE w)[i] ((aE w).length:Int) (i:Int) ((aE w).length:Int) k w.1.1 w.1.2 w.2.1 w.2.2.1 w.2.2.2.1 w.2.2.2.2 (aE w) (aE w))) (aE w).length (fun k=>akf (dn w i) (dn w k)) _ _ (fun m k a=>?_) (fun m=>?_) _ (by rw[bz];omega)
 .obtain⟨g,d,c⟩:=oY a;rw[FM,aM a,ae,an a,ab,e,an b,ab,aV a,d,an c,ab,aV b,aV c,aBG (h.rl _ (bP b)).s.2 (h.rl _ (bP c)).s.2,ai,acE,al (by omega),aDV hi e b,aDV a d c];dsimp only;cases akf (w.2.2.1[f]).2.2.2.1.2.2.2 (w.2.2.1[g]).2.2.2.1.2.2.2<;>rfl
 .rw[FM,aB,aa,Zz,al (by omega)]
def asS {w:ah}(h:j2 w):EK F0 w=some (aua w,()):=by
 have hlen:(aE w).length<=1048576:=bY (j3 w.2.1 w.2.2.1.length) h.r;rw[aif,eP h,ai,ng h,ai];unfold aua;dsimp only;cases b:eC w with
 |false=>rfl
 |true =>
  rw[aN,aa,en,ej (fun m k=>oF F0 (pP F0) m (ld ((aE w).length:Int) k w.1.1 w.1.2 w.2.1 w.2.2.1 w.2.2.2.1 w.2.2.2.2 (aE w))) (aE w).length (fun i=>(List.range (aE w).length).all fun k=>akf (dn w i) (dn w k)) (some (true,())) (some (false,())) (fun m k a=>?_) (fun m=>?_) _ (by rw[bz];omega),oG]
  .rw[FN,aM a,ae,an a,ab,show(((w.1.1,w.1.2),w.2.1,w.2.2.1,w.2.2.2.1,w.2.2.2.2):ah)=w from rfl,ng h,ai];dsimp only;rw[aV a,aIO h _ _ a,acF]
  .rw[FN,aB,aa,ZA]
def X2 (w:ah)(x:Int):bZ:=(w.2.2.1.getD x.toNat UQ).2.2.2.1.2.2.1
def SF (c:Int×Int)(x:gr):List bZ:=if ((gv c x.2).1.1==1)=true then [(gv c x.2).1.2.2.1.2] else if ((gv c x.2).1.1==3)=true then [(gv c x.2).1.2.2.2.2.1] else []
def ER (c:Int×Int):List gr->List bZ->List bZ
 |[],xs=>xs|x::l,xs=>ER c l (xs++SF c x)
def afR (c:Int×Int):∀(l:List gr) (xs:List bZ) (x:gr),ER c (l++[x]) xs=ER c l xs++SF c x
 |[],_,_=>rfl|_::l,_,x=>afR c l _ x
def aBH (c:Int×Int)(x:gr):(SF c x).length<=1:=by
 unfold SF;split
 .exact bF _
 .split
  .exact bF _
  .exact aR _
def X3 (c:Int×Int):∀(l:List gr) (xs:List bZ),(ER c l xs).length<=xs.length+l.length
 |[],_=>bF _|x::l,xs=>by have a:=X3 c l (xs++SF c x);have b:=aBH c x;rw[aJ]at a;unfold ER;rw[aW];omega
def L3 (w:ah):List bZ:=ER w.1 w.2.2.2.1 ((aE w).map (X2 w))
def aE1 {V:Type}(X:List bZ->V)(c:Int×Int)(x:gr)(xs:List bZ) :
  br ((gv c x.2).1.1==1) (X (xs++[(gv c x.2).1.2.2.1.2])) (br ((gv c x.2).1.1==3) (X (xs++[(gv c x.2).1.2.2.2.2.1])) (X xs))=X (xs++SF c x):=by
 unfold SF;cases ((gv c x.2).1.1==1) with
 |true=>rfl
 |false =>
  cases ((gv c x.2).1.1==3) with
  |true=>rfl
  |false =>
   rw[af (by decide),af (by decide),fi];rfl
def aE2 {U V:Type}(f:U->V)(l:List U)(x:U):(l++[x]).map f=l.map f++[f x]:=by rw[adr,List.map_singleton]
def aKc (a b:bZ):Bool:=(a.1==b.1)&& !(a.2.1.toList==b.2.1.toList)
def UW (l:List bZ)(i k:Nat):Bool:= !aKc (l.getD i b9) (l.getD k b9)
def YW (w:ah):Bool:=eC w&&(List.range (L3 w).length).all fun i=>(List.range (L3 w).length).all (UW (L3 w) i)
def aBI {w:ah}(h:j2 w):(L3 w).length<=2097152:=by have hlen:(aE w).length<=1048576:=bY (j3 w.2.1 w.2.2.1.length) h.r;have a:=X3 w.1 w.2.2.2.1 ((aE w).map (X2 w));have b:=h.n;rw[o8]at a;unfold L3;omega
def aBJ {V:Type}(a b:Bool)(x y:V):br a (br (!b) x y) y=if (!(a&& !b))=true then y else x:=by cases a<;>cases b<;>rfl
def aE3 {l:List bZ}(b:l.length<=2097152){γ:Type}(J:Ex->St->Option γ)(n:Nat){i:Nat}(hi:i<l.length):hQ F0 (iB F0 J n) F0.n (fG (l.length:Int) (i:Int) (l.length:Int) 0 (l[i]).1 (l[i]).2.1 (l[i]).2.2 l) =
  if (List.range l.length).all (UW l i)=true then hS F0 J n (fH (l.length:Int) ((i+1:Nat):Int) l) else J .ret (tp false):=by
 refine ej (fun m k=>hQ F0 (iB F0 J n) m (fG (l.length:Int) (i:Int) (l.length:Int) k (l[i]).1 (l[i]).2.1 (l[i]).2.2 l)) l.length (UW l i) _ _ (fun m k a=>?_) (fun m=>?_) _ (by rw[bz];omega)
 .rw[Bh,aM a,ae,an a,ab,aV a,XJ,al (by omega),aBJ];unfold UW aKc;rw[aI hi,aI a]
 .rw[Bh,aB,aa,Va,al (by omega)]
def aBK {l:List bZ}(b:l.length<=2097152):hS F0 (iC F0) F0.n (fH (l.length:Int) 0 l)=some (((List.range l.length).all fun i=>(List.range l.length).all (UW l i)),()):=by
 rw[ej (fun m k=>hS F0 (iC F0) m (fH (l.length:Int) k l)) l.length (fun i=>(List.range l.length).all (UW l i)) (some (true,())) (some (false,())) (fun m k a=>?_) (fun m=>?_) _ (by rw[bz];omega),oG]
 .rw[Bi,aM a,ae,an a,ab,aV a,aE3 b _ _ a,XK]
 .rw[Bi,aB,aa,Vb]
def aBL {w:ah}(h:j2 w){b:List bZ}(g:b.length<=1048576){R:Option (Bool×Unit)}(e:fI F0 (.exit 2) (rm (ER w.1 w.2.2.2.1 b))=R) :
  ez F0 (fI F0) F0.n (dw w.2.2.2.1 (w.2.2.2.1.length:Int) 0 w.1.1 w.1.2 w.2.1 w.2.2.1 w.2.2.2.1 w.2.2.2.2 b)=R:=by
 have j:=h.n;refine cu (fun n i (a:List bZ)=>ez F0 (fI F0) n (dw w.2.2.2.1 (w.2.2.2.1.length:Int) i w.1.1 w.1.2 w.2.1 w.2.2.1 w.2.2.2.1 w.2.2.2.2 a)) w.2.2.2.1.length (fun k a=>a=ER w.1 (w.2.2.2.1.take k) b) _ (fun n k a c d=>.inr ⟨ER w.1 (w.2.2.2.1.take (k+1)) b,?_,rfl⟩) (fun n a d=>?_) _ 0 b (aR _) rfl (by rw[bz];omega)
 .have f:=X3 w.1 (w.2.2.2.1.take k) b;rw[<-d,bB]at f;rw[Bj,aM c,ae,an c,ab,aV c,show((w.1.1,w.1.2):Int×Int)=w.1 from rfl,acV (h.nb _ (bP c)),ai,ar (by omega) (by omega) (by rw[cR];omega),ab,ar (by omega) (by omega) (by rw[cR];omega),ab,al (by omega),ee c,afR,<-d];exact aE1 (fun a=>ez F0 (fI F0) n (dw w.2.2.2.1 (w.2.2.2.1.length:Int) ((k+1:Nat):Int) w.1.1 w.1.2 w.2.1 w.2.2.1 w.2.2.2.1 w.2.2.2.2 a)) w.1 w.2.2.2.1[k] a
 .rw[Bj,aB,aa,d,kc];exact e
def amz {w:ah}(h:j2 w):vP F0 w=some (YW w,()):=by
 have hlen:(aE w).length<=1048576:=bY (j3 w.2.1 w.2.2.1.length) h.r;have f:=aBI h;rw[acI,eP h,ai,ng h,ai];dsimp only;have key:lh F0 (lP F0) F0.n (iD ((aE w).length:Int) 0 w.1.1 w.1.2 w.2.1 w.2.2.1 w.2.2.2.1 w.2.2.2.2 [] (aE w))=some (((List.range (L3 w).length).all fun i=>(List.range (L3 w).length).all (UW (L3 w) i)),()):=by
  refine cu (fun n i (a:List bZ)=>lh F0 (lP F0) n (iD ((aE w).length:Int) i w.1.1 w.1.2 w.2.1 w.2.2.1 w.2.2.2.1 w.2.2.2.2 a (aE w))) (aE w).length (fun k a=>a=((aE w).take k).map (X2 w)) _ (fun n k a b c=>.inr ⟨((aE w).take (k+1)).map (X2 w),?_,rfl⟩) (fun n a c=>?_) _ 0 [] (aR _) rfl (by rw[bz];omega)
  .obtain⟨g,e,d⟩:=oY b;have f:a.length<=1048576:=by rw[c,o8,bB];omega
   have j:X2 w (g:Int)=(w.2.2.1[g]).2.2.2.1.2.2.1:=by unfold X2;rw[ho,aI d]
   rw[Bk,aM b,ae,an b,ab,aV b,e,an d,ab,ar (by omega) (by omega) (by rw[cR];omega),ab,al (by omega),aV d,ee b,aE2,<-c,e,j]
  .rw[Bk,aB,aa,Vd,c,kc];exact aBL h (by rw[o8];omega) (by rw[Vc];exact aBK f)
 rw[key];unfold YW;cases eC w<;>rfl
end Go.Am.Tryz
