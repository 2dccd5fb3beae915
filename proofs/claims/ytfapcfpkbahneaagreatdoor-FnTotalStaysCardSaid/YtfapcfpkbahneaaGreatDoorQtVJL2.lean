/- Lemmas for the claim. No condition. -/
import Derived.Test.YtfapcfpkbahneaaGreatDoorQtVJL1
import Derived.Test.YtfapcfpkbahneaaGreatDoorQtAmWf
set_option linter.all false
namespace Go.Am.Tryz
open Go.Am
theorem aEc {c:Int×Int}{view s:Int}(hc:bO c=true)(hv:0<=view)(h0:0<=s)(h:s<=c.1-1):bW c view (WX c view s)=s:=by
 have hn:=cP hc;have hs1:=al3 (view%c.1+s) (show c.1≠0 by omega);have hs2:=al2 (view%c.1+s) (show 0<c.1 by omega);unfold WX;rw[ak ⟨hc,hv,h0,h⟩];unfold bW;rw[ak ⟨hc,hv,hs1,by omega⟩];obtain⟨n,a⟩:=c;dsimp only at *;have hn4:n=4\/n=5\/n=6\/n=7:=by omega
 rcases hn4 with rfl|rfl|rfl|rfl<;>omega
theorem aGD (c:Int×Int)(view:Int):bW c view (-1)=-1:=by unfold bW;rw[ah (fun h=>by omega)]
theorem avG {c:Int×Int}{view i:Int}(h:0<=bW c view i):bO c=true/\0<=view/\bW c view i<=c.1-1:=by
 unfold bW at h ⊢;by_cases hc:bO c=true/\0<=view/\0<=i/\i<=c.1-1
 ·rw[ak hc];have hn:=cP hc.1;have h2:=al2 (i+c.1-view%c.1) (show 0<c.1 by omega);exact⟨hc.1,hc.2.1,by omega⟩
 ·rw[ah hc]at h;omega
theorem aCZ {c:Int×Int}{view i:Int}(h:0<=bW c view i):bW c view (QJ c view i)<bW c view i:=by
 have hf:=avG h;have hn:=cP hf.1;unfold QJ;by_cases h0:bW c view i<=0
 ·rw[ak h0,aGD];omega
 ·have hd1:0<=(bW c view i-1)/c.2:=Int.ediv_nonneg (by omega) (by omega);have hd2:(bW c view i-1)/c.2<=bW c view i-1:=Int.ediv_le_self c.2 (by omega);rw[ah h0,aEc hf.1 hf.2.1 hd1 (by omega)];omega
def DV (c:Int×Int)(view:Int):Nat->Int->List Int
 |0,_=>[]
 |k+1,i=>if 0<=bW c view i then i::DV c view k (QJ c view i) else []
def aeC (c:Int×Int)(view i:Int):List Int:=DV c view 8 i
theorem aje (c:Int×Int)(view:Int):∀(k:Nat) (i:Int),(DV c view k i).length<=k
 |0,_=>cp _
 |k+1,i=>by
  unfold DV;split
  ·have:=aje c view k (QJ c view i);rw[bg];omega
  ·exact aX _
theorem as2 (c:Int×Int)(view i:Int):(aeC c view i).length<=8:=aje c view 8 i
theorem axV (c:Int×Int)(view:Int){γ:Type}(κ:Ex->St->Option γ):∀(k:Nat) (i:Int) (xs:List Int) (n:Nat),bW c view i<k->xs.length+k<=1000->k<n ->
  Rp F0 κ n (HJ view i c.1 c.2 xs)=κ (.exit 0) (N9 (xs++DV c view k i))
 |0,i,xs,n,hs,hx,hn=>by obtain⟨n,rfl⟩:∃m,n=m+1:=⟨n-1,by omega⟩;rw[SV,show((c.1,c.2):Int×Int)=c from rfl,WZ,ai];dsimp only;rw[aQ (show ¬bW c view i>=0 by omega),aa,DV,ie]
 |k+1,i,xs,n,hs,hx,hn=>by
  obtain⟨n,rfl⟩:∃m,n=m+1:=⟨n-1,by omega⟩;rw[SV,show((c.1,c.2):Int×Int)=c from rfl,WZ,ai];unfold DV;dsimp only;by_cases h:0<=bW c view i
  ·have hu:=aCZ h;rw[aM (show bW c view i>=0 from h),af,ak h,az (by omega) (by omega) (by rw[ew];omega),ae,aGC,ai];dsimp only;rw[axV c view κ k (QJ c view i) (xs++[i]) n (by omega) (by rw[aT,ew];omega) (by omega),jZ];rfl
  ·rw[aQ (show ¬bW c view i>=0 from h),aa,ah h,ie]
theorem axW (c:Int×Int)(view:Int){γ:Type}(κ:Ex->St->Option γ):∀(k:Nat) (i:Int) (xs:List Int) (n:Nat),bW c view i<k->xs.length+k<=1000->k<n ->
  RB F0 κ n (Ih view i c.1 c.2 xs)=κ (.exit 0) (Ok (xs++DV c view k i))
 |0,i,xs,n,hs,hx,hn=>by obtain⟨n,rfl⟩:∃m,n=m+1:=⟨n-1,by omega⟩;rw[TJ,show((c.1,c.2):Int×Int)=c from rfl,I0,ai];dsimp only;rw[aQ (show ¬bW c view i>=0 by omega),aa,DV,ie]
 |k+1,i,xs,n,hs,hx,hn=>by
  obtain⟨n,rfl⟩:∃m,n=m+1:=⟨n-1,by omega⟩;rw[TJ,show((c.1,c.2):Int×Int)=c from rfl,I0,ai];unfold DV;dsimp only;by_cases h:0<=bW c view i
  ·have hu:=aCZ h;rw[aM (show bW c view i>=0 from h),af,ak h,az (by omega) (by omega) (by rw[ew];omega),ae,aCY,ai];dsimp only;rw[axW c view κ k (QJ c view i) (xs++[i]) n (by omega) (by rw[aT,ew];omega) (by omega),jZ];rfl
  ·rw[aQ (show ¬bW c view i>=0 from h),aa,ah h,ie]
theorem aIr (c:Int×Int)(view i:Int):adt F0 c view i=some (aeC c view i,()):=by have hs:=XQ c view i;rw[axw,axV c view _ 8 i [] _ (by omega) (by rw[bB];omega) (by rw[bT];omega),anK,F6];rfl
theorem aGE (c:Int×Int)(view i:Int):ad8 F0 c view i=some (aeC c view i,()):=by have hs:=XQ c view i;rw[axC,axW c view _ 8 i [] _ (by omega) (by rw[bB];omega) (by rw[bT];omega),aoL,F6];rfl
def cmn (b a:List Int):Nat:=a.countP fun x=>decide (x∈b)
theorem axX (b a:List Int)(x:Int):cmn b (a++[x])=cmn b a+if x∈b then 1 else 0:=by
 unfold cmn;rw[List.countP_append,List.countP_singleton];by_cases h:x∈b
 ·simp[h]
 ·simp[h]
theorem aGF (b a:List Int):cmn b a<=a.length:=List.countP_le_length
theorem aAz {a b:List Int}(ha:a.length<=1048576)(hb:b.length<=1048576):Mh F0 a b=some ((cmn b a:Int),()):=by
 rw[anL];refine df (fun n i (q:Int)=>C7 F0 (FE F0) n (vG a b q i)) a.length (fun k q=>q=(cmn b (a.take k):Int)) _ (fun n k q hk hq=>.inr ⟨(cmn b (a.take (k+1)):Int),?_,rfl⟩) (fun n q hq=>?_) _ 0 0 (aX _) rfl (by rw[bT];omega)
 ·have hc:=aGF b (a.take k);rw[bQ]at hc;rw[JY,aS hk,af,av hk,ae,bp hk,gi (by omega),ai,gj hk,axX,hq,ao (by omega)];dsimp only;rw[aq6];by_cases h:a[k]∈b
  ·rw[aM h,af,ai,ak h];dsimp only;rw[ao (by omega)]
  ·rw[aQ h,aa,ai,ah h];dsimp only;rw[aI (by omega) (by omega),Int.add_zero];rfl
 ·rw[JY,aH,aa,adv,hq,nN]
theorem axY {a b:List Int}(ha:a.length<=1048576)(hb:b.length<=1048576):Nd F0 a b=some ((cmn b a:Int),()):=by
 rw[aoM];refine df (fun n i (q:Int)=>uI F0 (FX F0) n (px b q a (a.length:Int) i)) a.length (fun k q=>q=(cmn b (a.take k):Int)) _ (fun n k q hk hq=>.inr ⟨(cmn b (a.take (k+1)):Int),?_,rfl⟩) (fun n q hq=>?_) _ 0 0 (aX _) rfl (by rw[bT];omega)
 ·have hc:=aGF b (a.take k);rw[bQ]at hc;rw[Kz,aS hk,af,av hk,ae,bp hk,fH (by omega),ai,gj hk,axX,hq,ao (show k+1<=9223372036854775807 by omega)];dsimp only;by_cases h:a[k]∈b
  ·rw[aM h,af,ak h,ao (by omega)]
  ·rw[aQ h,aa,ah h];rfl
 ·rw[Kz,aH,aa,aea,hq,nN]
def Srt (l:List Int):Prop:=l.Pairwise (·< ·)
structure aOK (c:Int×Int) (view:Int) (dk:List Int) (k:Nat) (xs:List (List Int)):Prop where
 len:(xs.length:Int)=c.1
 srt:∀i,0<=i->i<c.1->Srt (aN xs i [])
 mem:∀i x,0<=i->i<c.1->x∈aN xs i []->x∈dk/\0<=x/\x<c.1
 up:∀x,x∈dk->0<=x->x<c.1->(k:Int)<=bW c view x->∃a:Int,0<=a/\a<max k 1/\x∈aN xs (WX c view a) []
abbrev ct:=Int×Int×dp×ByteArray
abbrev dr:=ByteArray×dp
abbrev da:=Int×Int×dr×dp×dp×Int×eO
abbrev l6:=Int×da
abbrev aD:=Int×Int×Int×ct×List eO×List dp×(List Int×Int)×List l6
abbrev pB:=Int×List Int
abbrev eG:=Int×ByteArray×Int
abbrev an:=(Int×Int)×List Int×List aD×List pB×List eG
theorem T0 {b:ByteArray}(h:b.size<=1048576):b.data.toList.length<=1073741824:=cN (Nat.le_of_eq (show b.data.toList.length=b.size from rfl)) (by omega)
theorem I1 {b:ByteArray}(h:b.size<=1048576):fD F0 b=some (cq b.data.toList,()):=RL (T0 h)
theorem Cj {b:ByteArray}(h:b.size<=1048576):fE F0 b=some (cq b.data.toList,()):=Nz (T0 h)
theorem pV {b:ByteArray}(h:b.size<=1048576):dZ F0 b=some (bA b.data.toList,()):=api (T0 h)
theorem rQ {b:ByteArray}(h:b.size<=1048576):e8 F0 b=some (bA b.data.toList,()):=aja (T0 h)
def uN (q:dp):Prop:=q.2.1.size<=1048576/\q.2.2.length<=1048576
def fM (c:Int×Int)(q:dp):Bool:=YI c (q.1,q.2.1.data.toList,q.2.2)
theorem RN {q:dp}(h:uN q)(c:Int×Int):kF F0 c q=some (fM c q,()):=axR (v:=q.1) (l:=q.2.1.data.toList) (s:=q.2.2) (T0 h.1) (cN h.2 (by omega)) c
theorem QK {q:dp}(h:uN q)(c:Int×Int):mX F0 c q=some (fM c q,()):=as0 (v:=q.1) (l:=q.2.1.data.toList) (s:=q.2.2) (T0 h.1) (cN h.2 (by omega)) c
def cW (c:Int×Int)(s:ct):Bool:=iG 0 60 s.1&&(iG 0 60 s.2.1&&(fM c s.2.2.1&&cq s.2.2.2.data.toList))
def nD (s:ct):Prop:=uN s.2.2.1/\s.2.2.2.size<=1048576
theorem Ck {s:ct}(h:nD s)(c:Int×Int):jG F0 c s=some (cW c s,()):=by rw[am4,dB,ai,dB,ai,RN h.1,ai,I1 h.2,ai];unfold cW;cases iG 0 60 s.1<;>cases iG 0 60 s.2.1<;>cases fM c s.2.2.1<;>rfl
theorem E4 {s:ct}(h:nD s)(c:Int×Int):ll F0 c s=some (cW c s,()):=by rw[aor,b9,ai,b9,ai,QK h.1,ai,Cj h.2,ai];unfold cW;cases iG 0 60 s.1<;>cases iG 0 60 s.2.1<;>cases fM c s.2.2.1<;>rfl
theorem bc {α:Type}{a:List α}{k:Nat}(h:k<a.length)(d:α):a.getD k d=a[k]:=by simp[List.getD,h]
def W0 {α:Type}(d:α)(p:α->Bool)(q:α->α->Bool)(l:List α):Bool:=(List.range l.length).all fun k=>p (l.getD k d)&&(decide (k=0) || q (l.getD (k-1) d) (l.getD k d))
theorem aeD {β:Type}{k:Nat}(a b:Bool)(x y:β)(y':β)(hy:0<k->y'=br (!b) x y) :
  br (!a) x (br (decide ((k:Int)>0)) y' y)=if (a&&(decide (k=0) || b))=true then y else x:=by
 cases a with
 |false=>rfl
 |true =>
  rw[aL,aa,ji];by_cases h:k=0
  ·subst h;rfl
  ·rw[aM (show(k:Int)>0 by omega),af,aQ h,I6,hy (by omega)];cases b<;>rfl
def nM:eO:=(0,0,0,0)
def fN (a b:eO):Bool:=decide (a.1<b.1) || ((a.1==b.1)&&decide (a.2.2.2<b.2.2.2))
theorem aeE (a b:eO):uk F0 a b=some (fN a b,()):=by rw[afQ];unfold fN;cases decide (a.1<b.1)<;>cases (a.1==b.1)<;>rfl
theorem avH (a b:eO):Dm F0 a b=some (fN a b,()):=by rw[agx];unfold fN;cases decide (a.1<b.1)<;>cases (a.1==b.1)<;>rfl
def fK (p:List eO):Bool:=W0 nM gQ fN p&&decide ((p.length:Int)<=12)
theorem apm {p:List eO}(h:p.length<=1048576):Ek F0 p=some (fK p,()):=by
 rw[am5,jA (fun m k=>um F0 (uX F0) m (o7 p k)) p.length (fun k=>gQ (p.getD k nM)&&(decide (k=0) || fN (p.getD (k-1) nM) (p.getD k nM))) (some (decide ((p.length:Int)<=12),())) (some (false,())) (fun m k hk=>?_) (fun m=>?_) _ (by rw[bT];omega)]
 ·unfold fK W0;cases (List.range p.length).all _<;>rfl
 ·rw[Jv,aS hk,af,av hk,ae,bp hk,QF,ai,bc hk,afR,ao (by omega),ae];refine aeD _ (fN (p.getD (k-1) nM) p[k]) _ _ _ fun h0=>?_
  rw[KY h0 (by omega),av (show k-1<p.length by omega),ae,bp (show k-1<p.length by omega),aeE,ai,bc (show k-1<p.length by omega)]
 ·rw[Jv,aH,aa,ac0]
theorem W3 {p:List eO}(h:p.length<=1048576):xE F0 p=some (fK p,()):=by
 rw[aos,jA (fun m k=>uy F0 (vT F0) m (pg p p (p.length:Int) k)) p.length (fun k=>gQ (p.getD k nM)&&(decide (k=0) || fN (p.getD (k-1) nM) (p.getD k nM))) (some (decide ((p.length:Int)<=12),())) (some (false,())) (fun m k hk=>?_) (fun m=>?_) _ (by rw[bT];omega)]
 ·unfold fK W0;cases (List.range p.length).all _<;>rfl
 ·rw[Kg,aS hk,af,av hk,ae,bp hk,Ch,ai,bc hk,agz,ao (by omega)];refine aeD _ (fN (p.getD (k-1) nM) p[k]) _ _ _ fun h0=>?_
  rw[KY h0 (by omega),av (show k-1<p.length by omega),ae,bp (show k-1<p.length by omega),avH,ai,bc (show k-1<p.length by omega)]
 ·rw[Kg,aH,aa,adI]
def ec (b:ByteArray):Bool:=b.toList==al.toList
def jg (c:Int×Int)(p:dp):Bool :=
 bO c&&(iG 1 60 p.1&&(nB c.1 p.2.2&&(!((p.2.2.length:Int)==0)&&(ec p.2.1 || (cq p.2.1.data.toList&&(bA p.2.1.data.toList==p.1))))))
theorem RP {p:dp}(h:uN p)(c:Int×Int):kX F0 c p=some (jg c p,()):=by rw[am6,jf,ai,dB,ai,ahm (cN h.2 (by omega)),ai,I1 h.1,ai,pV h.1,ai];unfold jg ec;cases bO c<;>cases iG 1 60 p.1<;>cases nB c.1 p.2.2<;>cases ((p.2.2.length:Int)==0)<;>cases (p.2.1.toList==al.toList)<;>cases cq p.2.1.data.toList<;>rfl
theorem aKx (n:Nat):decide ((n:Int)>0)= !((n:Int)==0):=by
 cases n with
 |zero=>rfl
 |succ n =>
  rw[aM (by omega),cj.2 (by omega)];rfl
theorem NA {p:dp}(h:uN p)(c:Int×Int):ry F0 c p=some (jg c p,()):=by rw[aot,gv,ai,b9,ai,abJ (cN h.2 (by omega)),ai,Cj h.1,ai,rQ h.1,ai,aKx];unfold jg ec;dsimp only;generalize (bA p.2.1.data.toList==p.1)=b;cases bO c<;>cases iG 1 60 p.1<;>cases nB c.1 p.2.2<;>cases ((p.2.2.length:Int)==0)<;>cases (p.2.1.toList==al.toList)<;>cases cq p.2.1.data.toList<;>cases b<;>rfl
def cQ:dp:=(0,al,[])
def gk (a b:dp):Bool:=decide (a.1<b.1) || ((a.1==b.1)&&Op.bytesLess a.2.1.toList b.2.1.toList)
theorem aas (a b:dp):qW F0 a b=some (gk a b,()):=by rw[ac1];unfold gk;cases decide (a.1<b.1)<;>cases (a.1==b.1)<;>rfl
def aIs (x y:Int):Int:=if x<y then -1 else if x>y then 1 else 0
theorem ajf (x y:Int):vU F0 x y=some (aIs x y,()):=by
 rw[abn,PV,ai,PV,ai,al6,al6,aa,aa];unfold aIs;by_cases h:x<y
 ·rw[aM h,af,ak h]
 ·rw[aQ h,aa,ah h];by_cases h2:x>y
  ·rw[aM h2,af,ak h2]
  ·rw[aQ h2,aa,ah h2]
def aIt (x y:ByteArray):Int:=if Op.bytesLess x.toList y.toList=true then -1 else if (x.toList==y.toList)=true then 0 else 1
theorem aeF (x y:ByteArray):ot F0 x y=some (aIt x y,()):=by rw[Uf,GC,ai,GC,ai,asE,asE,aa,aa];unfold aIt;cases Op.bytesLess x.toList y.toList<;>cases (x.toList==y.toList)<;>rfl
theorem aho (a b:dp):∃r,gd F0 a b=some (r,())/\decide (r>=0)= !gk a b:=by
 rw[EL,ajf,ai,aeF,ai];unfold gk aIs aIt;dsimp only;by_cases h:a.1<b.1
 ·rw[ak h,aM h];exact⟨-1,rfl,rfl⟩
 ·rw[ah h,aQ h,I6];by_cases h2:a.1>b.1
  ·rw[ak h2,cj.2 (show a.1≠b.1 by omega)];exact⟨1,rfl,rfl⟩
  ·rw[ah h2,show a.1=b.1 by omega,ack];refine⟨_,rfl,?_⟩;cases Op.bytesLess a.2.1.toList b.2.1.toList<;>cases (a.2.1.toList==b.2.1.toList)<;>rfl
def fz (c:Int×Int)(l:List dp):Bool:=W0 cQ (jg c) gk l&&decide ((l.length:Int)<=20)
theorem ajg {l:List dp}(h:l.length<=1048576)(hq:∀q∈l,uN q)(c:Int×Int):n6 F0 c l=some (fz c l,()):=by
 rw[ajQ,jA (fun m k=>qX F0 (sf F0) m (mx l k c.1 c.2)) l.length (fun k=>jg c (l.getD k cQ)&&(decide (k=0) || gk (l.getD (k-1) cQ) (l.getD k cQ))) (some (decide ((l.length:Int)<=20),())) (some (false,())) (fun m k hk=>?_) (fun m=>?_) _ (by rw[bT];omega)]
 ·unfold fz W0;cases (List.range l.length).all _<;>rfl
 ·rw[Ga,aS hk,af,av hk,ae,bp hk,show((c.1,c.2):Int×Int)=c from rfl,RP (hq _ (di hk)),ai,bc hk,ac2,ao (by omega),ae];refine aeD _ (gk (l.getD (k-1) cQ) l[k]) _ _ _ fun h0=>?_
  rw[KY h0 (by omega),av (show k-1<l.length by omega),ae,bp (show k-1<l.length by omega),aas,ai,bc (show k-1<l.length by omega)]
 ·rw[Ga,aH,aa,aa2]
theorem aeG {l:List dp}(h:l.length<=1048576)(hq:∀q∈l,uN q)(c:Int×Int):lq F0 c l=some (fz c l,()):=by
 rw[akP,jA (fun m k=>rz F0 (sP F0) m (mY l l (l.length:Int) k c.1 c.2)) l.length (fun k=>jg c (l.getD k cQ)&&(decide (k=0) || gk (l.getD (k-1) cQ) (l.getD k cQ))) (some (decide ((l.length:Int)<=20),())) (some (false,())) (fun m k hk=>?_) (fun m=>?_) _ (by rw[bT];omega)]
 ·unfold fz W0;cases (List.range l.length).all _<;>rfl
 ·rw[GF,aS hk,af,av hk,ae,bp hk,show((c.1,c.2):Int×Int)=c from rfl,NA (hq _ (di hk)),ai,bc hk,adJ,ao (by omega)];refine aeD _ (gk (l.getD (k-1) cQ) l[k]) _ _ _ fun h0=>?_
  rw[KY h0 (by omega),av (show k-1<l.length by omega),ae,bp (show k-1<l.length by omega)];obtain⟨r,h1,h2⟩:=aho l[k-1] l[k];rw[h1,ai,h2,bc (show k-1<l.length by omega)]
 ·rw[GF,aH,aa,abp]
def gx (d:List Int×Int):Bool:=decide ((d.1.length:Int)<=100000)&&iG 0 d.1.length d.2
theorem K0 (d:List Int×Int):nQ F0 d=some (gx d,()):=by rw[am7,dB,ai];unfold gx;cases decide ((d.1.length:Int)<=100000)<;>rfl
theorem NB (d:List Int×Int):rA F0 d=some (gx d,()):=by rw[aou,b9,ai];unfold gx;cases decide ((d.1.length:Int)<=100000)<;>rfl
theorem apn {a b:List Int}(ha:a.length<=1048576)(hb:b.length<=1048576):El F0 a b=some (decide (a=b),()):=by
 rw[am8,jA (fun m k=>CG F0 (uZ F0) m (uY a b k)) (min a.length b.length) (fun k=>a.getD k 0==b.getD k 0) (some ((a.length:Int)==(b.length:Int),())) (some (false,())) (fun m k hk=>?_) (fun m=>?_) _ (by rw[bT];omega)]
 ·by_cases hab:a=b
  ·rw[aM hab,ak (iJ.2 fun k _=>by rw[hab];exact ack (b.getD k 0)),hab,ack]
  ·rw[aQ hab];by_cases hl:a.length=b.length
   ·rw[ah];intro nZ;refine hab (List.ext_getElem hl fun k h1 h2=>?_);have:=iJ.1 nZ k (jC.2 (by omega));simpa [List.getD,h1,h2]using this
   ·rw[cj.2 (show(a.length:Int)≠(b.length:Int) by omega)];cases (List.range (min a.length b.length)).all _<;>rfl
 ·rw[Jw,aS (show k<a.length by omega),af,aS (show k<b.length by omega),af,av (show k<a.length by omega),ae,av (show k<b.length by omega),ae,lM,lM,afS,ao (by omega),aAu];by_cases h3:a.getD k 0=b.getD k 0
  ·simp[h3]
  ·simp[h3]
 ·rw[Jw,ac3];rcases acn a.length b.length with h|h
  ·rw[ahV (by omega),aH,aa]
  ·rw[Nat.min_eq_right h,aH,aa];cases decide ((b.length:Int)<(a.length:Int))<;>rfl
def jh (a b:dp):Bool:=(a.1==b.1)&&((a.2.1.toList==b.2.1.toList)&&decide (a.2.2=b.2.2))
theorem ahp {a b:dp}(ha:uN a)(hb:uN b):xr F0 a b=some (jh a b,()):=by rw[am9,apn ha.2 hb.2,ai];unfold jh;cases (a.1==b.1)<;>cases (a.2.1.toList==b.2.1.toList)<;>rfl
theorem La {a b:dp}(ha:uN a):jJ F0 a b=some (jh a b,()):=by rw[VX,ahn (cN ha.2 (by omega)),ai];unfold jh;cases (a.1==b.1)<;>cases (a.2.1.toList==b.2.1.toList)<;>rfl
theorem axZ {a b:dp}(ha:uN a)(hb:uN b):Hp F0 a b=some (jh a b,()):=by rw[ajS,apn ha.2 hb.2,ai];unfold jh;cases (a.1==b.1)<;>cases (a.2.1.toList==b.2.1.toList)<;>rfl
theorem avI {a b:dp}(ha:uN a):Ds F0 a b=some (jh a b,()):=by rw[agB,ahn (cN ha.2 (by omega)),ai];unfold jh;cases (a.1==b.1)<;>cases (a.2.1.toList==b.2.1.toList)<;>rfl
def pW (a b:dr):Bool:=(a.1.toList==b.1.toList)&&jh a.2 b.2
theorem arG {a b:dr}(ha:uN a.2)(hb:uN b.2):yA F0 a b=some (pW a b,()):=by rw[ac4,ahp ha hb,ai];unfold pW;cases (a.1.toList==b.1.toList)<;>rfl
theorem apo {a b:dr}(ha:uN a.2):zN F0 a b=some (pW a b,()):=by rw[adL,La ha,ai];unfold pW;cases (a.1.toList==b.1.toList)<;>rfl
def ahq (a b:eO):Bool:=(a.1==b.1)&&((a.2.1==b.2.1)&&((a.2.2.1==b.2.2.1)&&((a.2.2.2==b.2.2.2)&&true)))
def tC (a b:da):Bool:=(a.1==b.1)&&((a.2.1==b.2.1)&&(pW a.2.2.1 b.2.2.1&&(jh a.2.2.2.1 b.2.2.2.1&&(jh a.2.2.2.2.1 b.2.2.2.2.1&&((a.2.2.2.2.2.1==b.2.2.2.2.2.1)&&ahq a.2.2.2.2.2.2 b.2.2.2.2.2.2)))))
def gy (m:da):Prop:=m.2.2.1.1.size<=1048576/\uN m.2.2.1.2/\uN m.2.2.2.1/\uN m.2.2.2.2.1
theorem ax0 {a b:da}(ha:gy a)(hb:gy b):kY F0 a b=some (tC a b,()):=by rw[ajU,arG ha.2.1 hb.2.1,ai,axZ ha.2.2.1 hb.2.2.1,ai,ahp ha.2.2.2 hb.2.2.2,ai];unfold tC ahq;dsimp only;generalize ((a.2.2.2.2.2.2.1==b.2.2.2.2.2.2.1)&&((a.2.2.2.2.2.2.2.1==b.2.2.2.2.2.2.2.1)&&((a.2.2.2.2.2.2.2.2.1==b.2.2.2.2.2.2.2.2.1)&&((a.2.2.2.2.2.2.2.2.2==b.2.2.2.2.2.2.2.2.2)&&true))))=t;cases (a.1==b.1)<;>cases (a.2.1==b.2.1)<;>cases pW a.2.2.1 b.2.2.1<;>cases jh a.2.2.2.1 b.2.2.2.1<;>cases jh a.2.2.2.2.1 b.2.2.2.2.1<;>cases (a.2.2.2.2.2.1==b.2.2.2.2.2.1)<;>rfl
theorem avJ {a b:da}(ha:gy a):H0 F0 a b=some (tC a b,()):=by rw[akQ,apo ha.2.1,ai,avI ha.2.2.1,ai,La ha.2.2.2,ai];unfold tC ahq;dsimp only;generalize ((a.2.2.2.2.2.2.1==b.2.2.2.2.2.2.1)&&((a.2.2.2.2.2.2.2.1==b.2.2.2.2.2.2.2.1)&&((a.2.2.2.2.2.2.2.2.1==b.2.2.2.2.2.2.2.2.1)&&((a.2.2.2.2.2.2.2.2.2==b.2.2.2.2.2.2.2.2.2)&&true))))=t;cases (a.1==b.1)<;>cases (a.2.1==b.2.1)<;>cases pW a.2.2.1 b.2.2.1<;>cases jh a.2.2.2.1 b.2.2.2.1<;>cases jh a.2.2.2.2.1 b.2.2.2.2.1<;>cases (a.2.2.2.2.2.1==b.2.2.2.2.2.1)<;>rfl
theorem NC (a b:dp):jh a b=jh b a:=by
 unfold jh;rw[F7 (a:=a.1),F7 (a:=a.2.1.toList)]
 congr 2
 by_cases h:a.2.2=b.2.2
 ·rw[aM h,aM h.symm]
 ·rw[aQ h,aQ fun h'=>h h'.symm]
theorem avK (a b:da):tC a b=tC b a:=by unfold tC pW ahq;rw[F7 (a:=a.1),F7 (a:=a.2.1),F7 (a:=a.2.2.1.1.toList),NC a.2.2.1.2,NC a.2.2.2.1,NC a.2.2.2.2.1,F7 (a:=a.2.2.2.2.2.1),F7 (a:=a.2.2.2.2.2.2.1),F7 (a:=a.2.2.2.2.2.2.2.1),F7 (a:=a.2.2.2.2.2.2.2.2.1),F7 (a:=a.2.2.2.2.2.2.2.2.2)]
def named (m:da):da :=
 if (m.1==1)=true then (m.1,0,m.2.2.1,cQ,cQ,0,nM)
 else if (m.1==2)=true then (m.1,0,(al,cQ),m.2.2.2.1,cQ,0,nM)
 else if (m.1==3)=true then (m.1,m.2.1,(al,cQ),cQ,m.2.2.2.2.1,m.2.2.2.2.2.1,nM)
 else if (m.1==4)=true then (m.1,0,(al,cQ),cQ,cQ,0,m.2.2.2.2.2.2)
 else (m.1,0,(al,cQ),cQ,cQ,0,nM)
theorem aEd (m:da):Ru F0 m=some (named m,()):=by rw[arl];unfold named;cases (m.1==1)<;>cases (m.1==2)<;>cases (m.1==3)<;>cases (m.1==4)<;>rfl
theorem ed:uN cQ:=⟨aX _,aX _⟩
theorem aIu {m:da}(h:gy m):gy (named m):=by
 unfold named;split
 ·exact⟨h.1,h.2.1,ed,ed⟩
 ·split
  ·exact⟨aX _,ed,h.2.2.1,ed⟩
  ·split
   ·exact⟨aX _,ed,ed,h.2.2.2⟩
   ·split
    ·exact⟨aX _,ed,ed,ed⟩
    ·exact⟨aX _,ed,ed,ed⟩
theorem ax1 {m:da}(h:gy m):Hq F0 m=some (tC (named m) m,()):=by
 have hn:=ax0 (aIu h) h;rw[ajW];unfold named cQ nM at hn;unfold named cQ nM;by_cases h1:(m.1==1)=true
 ·rw[ak h1]at hn ⊢;rw[h1,af,hn,ai]
 ·rw[ah h1]at hn ⊢;rw[I5.2 h1,aa];by_cases h2:(m.1==2)=true
  ·rw[ak h2]at hn ⊢;rw[h2,af,hn,ai]
  ·rw[ah h2]at hn ⊢;rw[I5.2 h2,aa];by_cases h3:(m.1==3)=true
   ·rw[ak h3]at hn ⊢;rw[h3,af,hn,ai]
   ·rw[ah h3]at hn ⊢;rw[I5.2 h3,aa];by_cases h4:(m.1==4)=true
    ·rw[ak h4]at hn ⊢;rw[h4,af,hn,ai]
    ·rw[ah h4]at hn ⊢;rw[I5.2 h4,aa,hn,ai]
def gW (l:List UInt8):Nat->Nat
 |0=>0
 |k+1=>if (((l.getD k 0).toNat:Int) != 47)=true then gW l k else k+1
theorem apq (l:List UInt8):∀k,gW l k<=k
 |0=>cp _
 |k+1=>by
  unfold gW;split
  ·exact Nat.le_succ_of_le (apq l k)
  ·exact cp _
theorem aGG {h n:Nat}(hn:h<=n):Si 0 (h:Int) (n:Int)=true:=XP (l:=0) (aX _) hn
def upL (l:List UInt8):List UInt8:=if cq l=true then l.take (gW l l.length-1) else []
theorem aC0 (l:List UInt8){γ:Type}(κ:Ex->St->Option γ):∀(k n:Nat),k<=l.length->k<=1073741824->k<n->LO F0 κ n (CH (tx l) (k:Int))=κ (.exit 0) (yB (tx l) (gW l k:Int))
 |0,n,hk,hm,hn=>by obtain⟨n,rfl⟩:∃m,n=m+1:=⟨n-1,by omega⟩;rw[O6];rfl
 |k+1,n,hk,hm,hn=>by
  obtain⟨n,rfl⟩:∃m,n=m+1:=⟨n-1,by omega⟩;rw[O6,aM (show((k+1:Nat):Int)>0 by omega),af,KY (by omega) (by omega),show k+1-1=k from rfl,bP,av (by omega),ae,XN];unfold gW;by_cases h:(((l.getD k 0).toNat:Int) != 47)=true
  ·rw[h,af,ak rfl,aC0 l κ k n (by omega) (by omega) (by omega)]
  ·rw[I5.2 h,aa,ah (by decide)]
theorem aGH {l:List UInt8}(h:l.length<=1048576):my F0 (tx l)=some (tx (upL l),()):=by
 rw[auM,RL (by omega),ai];unfold upL;dsimp only;cases cq l with
 |false=>rfl
 |true =>
  have hk:=apq l l.length;rw[aL,aa,bP,aC0 l _ l.length _ (cp _) (by omega) (by rw[bT];omega),ajY,ak rfl,Zh];have hmax:br (decide (aj ((gW l l.length:Int)-1)>0)) (some (aj ((gW l l.length:Int)-1),())) (some ((0:Int),()))=some (((gW l l.length-1:Nat):Int),()):=by
   rw[aI (by omega) (by omega)];by_cases h0:(gW l l.length:Int)-1>0
   ·rw[aM h0,af,show(gW l l.length:Int)-1=((gW l l.length-1:Nat):Int) by omega]
   ·rw[aQ h0,aa,show gW l l.length-1=0 by omega];rfl
  rw[hmax,ai];dsimp only;rw[bP,aGG (by omega),ae,mm,show(0:Int).toNat=0 from rfl,WS,ahW,aaB]
theorem as4 (l:List UInt8):∀(k n:Nat),k<=l.length->k<=1073741824->k<n->fa F0 (gw F0) n (er (tx l) 47 ((k:Int)-1))=some ((gW l k:Int)-1,())
 |0,n,hk,hm,hn=>by obtain⟨n,rfl⟩:∃m,n=m+1:=⟨n-1,by omega⟩;rw[kb];rfl
 |k+1,n,hk,hm,hn=>by
  obtain⟨n,rfl⟩:∃m,n=m+1:=⟨n-1,by omega⟩;rw[show((k+1:Nat):Int)-1=(k:Int) by omega,kb,aM (show(k:Int)>=0 by omega),af,bP,av (by omega),ae,XN,aI (by omega) (by omega),zP];unfold gW;by_cases h:((l.getD k 0).toNat:Int)=47
  ·rw[h,show((47:Int)==47)=true from rfl,af,show((47:Int) != 47)=false from rfl,ah (by decide),show((k+1:Nat):Int)-1=(k:Int) by omega]
  ·rw[cj.2 h,aa,D0.2 h,ak rfl,as4 l k n (by omega) (by omega) (by omega)]
theorem aAA {c x:UInt8}{l:List UInt8}{ps:List (List UInt8)}(h:parts c (x::l)=[]::ps):x=c:=by
 unfold parts at h;split at h
 ·assumption
 ·split at h
  ·cases (xX h).1
  ·cases (xX h).1
theorem apr {l:List UInt8}(h:cq l=true)(h0:l≠[]):∃t,l=47::t:=by
 cases l with
 |nil=>exact absurd rfl h0
 |cons x t =>
  refine⟨t,?_⟩;unfold cq cC at h;rw[ah h0]at h;cases hp:parts 47 (x::t) with
  |nil=>exact absurd hp (E2 _ _)
  |cons p0 ps =>
   rw[hp]at h;dsimp only at h;split at h
   ·cases h
   ·rename_i h1;have hp0:p0=[]:=aww fun hne=>h1 (.inl hne)
    subst hp0;rw[aAA hp]
theorem ahr {t:List UInt8}:∀k,0<k->0<gW (47::t) k
 |0,h=>absurd h (Uq _)
 |1,_=>by unfold gW;rw[show((((47::t).getD 0 0:UInt8).toNat:Int) != 47)=false from rfl,ah (by decide)];exact afn _
 |k+2,_=>by
  unfold gW;split
  ·exact ahr (k+1) (afn _)
  ·exact afn _
theorem aEe {l:List UInt8}(h:l.length<=1048576):sQ F0 (tx l)=some (tx (upL l),()):=by
 rw[au5,Nz (by omega),ai,avC,WR];unfold upL;dsimp only;cases hn:cq l with
 |false=>rfl
 |true =>
  rw[aL,aa,ak rfl];by_cases h0:l=[]
  ·subst h0;rfl
  ·have hk:=apq l l.length;have hp:0<gW l l.length:=by obtain⟨t,rfl⟩:=apr hn h0;exact ahr _ (afn _)
   rw[aQ h0,aa,Od,B3,bP,aI (by omega) (by omega),as4 l l.length _ (cp _) (by omega) (by rw[bT];omega),ai,ai];dsimp only;rw[show(gW l l.length:Int)-1=((gW l l.length-1:Nat):Int) by omega,aGG (by omega),ae,mm,show(0:Int).toNat=0 from rfl,WS,ahW,aaB]
theorem aeH {b:ByteArray}(h:b.size<=1048576):my F0 b=some (tx (upL b.data.toList),()):=aGH (l:=b.data.toList) h
theorem aeI {b:ByteArray}(h:b.size<=1048576):sQ F0 b=some (tx (upL b.data.toList),()):=aEe (l:=b.data.toList) h
def gC (c:Int×Int)(b:dr):Bool:=fM c b.2&&(cq b.1.data.toList&&(!ec b.1&&((tx (upL b.1.data.toList)).toList==b.2.2.1.toList)))
theorem ND {b:dr}(h1:b.1.size<=1048576)(h2:uN b.2)(c:Int×Int):n7 F0 c b=some (gC c b,()):=by rw[ajZ,RN h2,ai,I1 h1,ai,aeH h1,ai];unfold gC ec;cases fM c b.2<;>cases cq b.1.data.toList<;>cases (b.1.toList==al.toList)<;>rfl
theorem Iz {b:dr}(h1:b.1.size<=1048576)(h2:uN b.2)(c:Int×Int):ou F0 c b=some (gC c b,()):=by rw[akS,QK h2,ai,Cj h1,ai,aeI h1,ai];unfold gC ec;cases fM c b.2<;>cases cq b.1.data.toList<;>cases (b.1.toList==al.toList)<;>rfl
def eh (c:Int×Int)(m:da):Bool:=bO c&&(tC (named m) m&&(if (m.1==1)=true then gC c m.2.2.1 else if (m.1==2)=true then jg c m.2.2.2.1&& !ec m.2.2.2.1.2.1
 else if (m.1==3)=true then iG 1 60 m.2.1&&(fM c m.2.2.2.2.1&&iG 0 (aj (c.1-1)) m.2.2.2.2.2.1) else (m.1==4)&&gQ m.2.2.2.2.2.2))
theorem I2 {m:da}(h:gy m)(c:Int×Int):fT F0 c m=some (eh c m,()):=by rw[aqY,jf,ai,ax1 h,ai,ND h.1 h.2.1,ai,RP h.2.2.1,ai,dB,ai,RN h.2.2.2,ai,dB,ai,QF,ai];unfold eh ec;dsimp only;cases bO c<;>cases tC (named m) m<;>cases (m.1==1)<;>cases (m.1==2)<;>cases (m.1==3)<;>cases (m.1==4)<;>cases jg c m.2.2.2.1<;>cases iG 1 60 m.2.1<;>cases fM c m.2.2.2.2.1<;>rfl
theorem Lb {m:da}(h:gy m)(c:Int×Int):gL F0 c m=some (eh c m,()):=by rw[aro,gv,ai,aEd,ai,avJ h,ai,Iz h.1 h.2.1,ai,NA h.2.2.1,ai,b9,ai,QK h.2.2.2,ai,b9,ai,Ch,ai,avK];unfold eh ec;dsimp only;cases bO c<;>cases tC (named m) m<;>cases (m.1==1)<;>cases (m.1==2)<;>cases (m.1==3)<;>cases (m.1==4)<;>cases jg c m.2.2.2.1<;>cases iG 1 60 m.2.1<;>cases fM c m.2.2.2.2.1<;>rfl
def Lc (c:Int×Int)(r:Int)(p:l6):Bool:=eh c p.2&&(iG 0 (aj (c.1-1)) p.1&& !(p.1==r))
def qJ (c:Int×Int)(r:aD):Bool :=
 bO c&&(iG 0 (aj (c.1-1)) r.1&&(iG 1 60 r.2.1&&(iG 0 60 r.2.2.1&&(cW c r.2.2.2.1&&(fK r.2.2.2.2.1&&(fz c r.2.2.2.2.2.1&&(gx r.2.2.2.2.2.2.1&&(!decide ((r.2.2.2.2.2.2.2.length:Int)>30)&&r.2.2.2.2.2.2.2.all (Lc c r.1)))))))))
structure arH (r:aD):Prop where
 s:nD r.2.2.2.1
 p:r.2.2.2.2.1.length<=1048576
 t:r.2.2.2.2.2.1.length<=1048576
 tq:∀q∈r.2.2.2.2.2.1,uN q
 h:r.2.2.2.2.2.2.2.length<=1048576
 hm:∀q∈r.2.2.2.2.2.2.2,gy q.2
def avL:l6:=(0,0,0,(al,cQ),cQ,cQ,0,nM)
theorem Ld (b:Bool):(if b=true then some (true,()) else some (false,()))=some (b,()):=by cases b<;>rfl
theorem iS {r:aD}(h:arH r)(c:Int×Int):eb F0 c r=some (qJ c r,()):=by
 have hh:=h.h;rw[aqZ,jf,ai,dB,ai,dB,ai,dB,ai,Ck h.s,ai,apm h.p,ai,ajg h.t h.tq,ai,K0,ai,
  jA (fun m k=>Hv F0 (yE F0) m (yC k c.1 c.2 r.1 r.2.1 r.2.2.1 r.2.2.2.1.1 r.2.2.2.1.2.1 r.2.2.2.1.2.2.1.1 r.2.2.2.1.2.2.1.2.1 r.2.2.2.1.2.2.1.2.2 r.2.2.2.1.2.2.2 r.2.2.2.2.1 r.2.2.2.2.2.1 r.2.2.2.2.2.2.1.1 r.2.2.2.2.2.2.1.2 r.2.2.2.2.2.2.2)) r.2.2.2.2.2.2.2.length
   (fun k=>Lc c r.1 (r.2.2.2.2.2.2.2.getD k avL)) (some (true,())) (some (false,())) (fun m k hk=>?_) (fun m=>?_) _ (by rw[bT];omega),KW,Ld]
 ·unfold qJ;cases bO c<;>cases iG 0 (aj (c.1-1)) r.1<;>cases iG 1 60 r.2.1<;>cases iG 0 60 r.2.2.1<;>cases cW c r.2.2.2.1<;>cases fK r.2.2.2.2.1<;>cases fz c r.2.2.2.2.2.1<;>cases gx r.2.2.2.2.2.2.1<;>cases decide ((r.2.2.2.2.2.2.2.length:Int)>30)<;>rfl
 ·rw[LP,aS hk,af,av hk,ae,bp hk,show((c.1,c.2):Int×Int)=c from rfl,I2 (h.hm _ (di hk)),ai,ae,dB,ai,ae,bc hk,aj0,ao (by omega)];unfold Lc;cases eh c (r.2.2.2.2.2.2.2[k]).2<;>cases iG 0 (aj (c.1-1)) (r.2.2.2.2.2.2.2[k]).1<;>cases ((r.2.2.2.2.2.2.2[k]).1==r.1)<;>rfl
 ·rw[LP,aH,aa,afT]
theorem eW {r:aD}(h:arH r)(c:Int×Int):c9 F0 c r=some (qJ c r,()):=by
 have hh:=h.h;rw[arp,gv,ai,b9,ai,b9,ai,b9,ai,E4 h.s,ai,W3 h.p,ai,aeG h.t h.tq,ai,NB,ai,
  jA (fun m k=>H4 F0 (zS F0) m (zQ r.2.2.2.2.2.2.2 (r.2.2.2.2.2.2.2.length:Int) k c.1 c.2 r.1 r.2.1 r.2.2.1 r.2.2.2.1.1 r.2.2.2.1.2.1 r.2.2.2.1.2.2.1.1 r.2.2.2.1.2.2.1.2.1 r.2.2.2.1.2.2.1.2.2 r.2.2.2.1.2.2.2 r.2.2.2.2.1 r.2.2.2.2.2.1 r.2.2.2.2.2.2.1.1 r.2.2.2.2.2.2.1.2 r.2.2.2.2.2.2.2)) r.2.2.2.2.2.2.2.length
   (fun k=>Lc c r.1 (r.2.2.2.2.2.2.2.getD k avL)) (some (true,())) (some (false,())) (fun m k hk=>?_) (fun m=>?_) _ (by rw[bT];omega),KW,Ld]
 ·unfold qJ;cases bO c<;>cases iG 0 (aj (c.1-1)) r.1<;>cases iG 1 60 r.2.1<;>cases iG 0 60 r.2.2.1<;>cases cW c r.2.2.2.1<;>cases fK r.2.2.2.2.1<;>cases fz c r.2.2.2.2.2.1<;>cases gx r.2.2.2.2.2.2.1<;>cases decide ((r.2.2.2.2.2.2.2.length:Int)>30)<;>rfl
 ·rw[MM,aS hk,af,av hk,ae,bp hk,show((c.1,c.2):Int×Int)=c from rfl,Lb (h.hm _ (di hk)),ai,b9,ai,bc hk,akT,ao (by omega)];unfold Lc;cases eh c (r.2.2.2.2.2.2.2[k]).2<;>cases iG 0 (aj (c.1-1)) (r.2.2.2.2.2.2.2[k]).1<;>cases ((r.2.2.2.2.2.2.2[k]).1==r.1)<;>rfl
 ·rw[MM,aH,aa,agD]
theorem aeJ {lo hi x:Int}:iG lo hi x=decide (lo<=x/\x<=hi):=by unfold iG;by_cases h1:lo<=x<;>by_cases h2:x<=hi<;>simp[h1,h2]
def Uj:Nat->List Int->Nat->Int->Option (Int×Nat)
 |0,_,_,_=>none
 |_+1,[],_,_=>none
 |j+1,x::xs,k,n=>if x<128 then (if (k≠0/\x=0)\/n+x*128 ^ k>2147483647 then none else some (n+x*128 ^ k,k+1)) else Uj j xs (k+1) (n+x%128*128 ^ k)
def aIv (a:Nat):Option (Int×Nat)->Int×Int×Bool×Unit
 |some (v,c)=>(v,((a+c:Nat):Int),true,())
 |none=>(0,0,false,())
theorem aGI {k:Nat}(h:k<=4):(2:Int) ^ (min (aj (7*(k:Int))).toNat 64)=128 ^ k:=by
 have:k=0\/k=1\/k=2\/k=3\/k=4:=by omega
 rcases this with rfl|rfl|rfl|rfl|rfl<;>rfl
theorem RQ {k:Nat}(h:k<=4):(1:Int)<=128 ^ k/\(128:Int) ^ k<=268435456:=by
 have:k=0\/k=1\/k=2\/k=3\/k=4:=by omega
 rcases this with rfl|rfl|rfl|rfl|rfl<;>decide
theorem aps {d P:Int}(h0:0<=d)(h1:d<=127)(hP:1<=P):0<=d*P/\d*P<=127*P:=⟨Int.mul_nonneg h0 (by omega),Int.mul_le_mul_of_nonneg_right h1 (by omega)⟩
theorem aKy {i n:Nat}(d:Nat)(h:n<2 ^ i):n ||| d*2 ^ i=n+d*2 ^ i:=by rw[Nat.or_comm,<-Nat.shiftLeft_eq,<-Nat.shiftLeft_add_eq_or_of_lt h,Nat.add_comm]
theorem aKz {k:Nat}(hk:k<=4){n d:Int}(h0:0<=n)(h1:n<128 ^ k)(h2:0<=d)(h3:d<=127):((BitVec.ofInt 64 n ||| BitVec.ofInt 64 (d*128 ^ k)).toNat:Int)=n+d*128 ^ k:=by
 obtain⟨m,rfl⟩:=Int.eq_ofNat_of_zero_le h0;obtain⟨e,rfl⟩:=Int.eq_ofNat_of_zero_le h2;have hp:(128:Int) ^ k=((2 ^ (7*k):Nat):Int):=by rw[Nat.pow_mul];exact(Int.natCast_pow 128 k).symm
 have hb:=RQ hk;rw[hp]at h1 hb ⊢;have h1':m<2 ^ (7*k):=by omega
 have hm:e*2 ^ (7*k)<=127*2 ^ (7*k):=F4 _ (by omega);have hb2:2 ^ (7*k)<=268435456:=by omega
 rw[show(e:Int)*((2 ^ (7*k):Nat):Int)=((e*2 ^ (7*k):Nat):Int) from(Int.natCast_mul _ _).symm,BitVec.ofInt_natCast,BitVec.ofInt_natCast,BitVec.toNat_or,BitVec.toNat_ofNat,BitVec.toNat_ofNat,atE (by omega),atE (by omega),aKy e h1'];omega
def eH (b:List Int):Prop:=b.length<=1048576/\∀x∈b,0<=x/\x<=255
theorem ax2 {b:List Int}(hb:eH b)(a:Nat)(ha:a<=b.length):∀(j k:Nat),j+k=5->∀(n1:Int) (m:Nat),0<=n1->n1<128 ^ k->j<m ->
  CJ F0 (u4 F0) m (u3 b (a:Int) n1 (k:Int))=some (aIv a (Uj j (b.drop (a+k)) k n1))
 |0,k,hjk,n1,m,h0,h1,hm=>by obtain⟨m,rfl⟩:∃q,m=q+1:=⟨m-1,by omega⟩;rw[Jz,aQ (by omega),aa,ac8];rfl
 |j+1,k,hjk,n1,m,h0,h1,hm=>by
  obtain⟨m,rfl⟩:∃q,m=q+1:=⟨m-1,by omega⟩;have hl:=hb.1;rw[Jz,aM (by omega),af,aQ (show ¬(a:Int)<0 by omega),aa,aI (n:=(b.length:Int)-k) (by omega) (by omega)];rcases acn (a+k) b.length with hlt|hge
  ·have hx:=hb.2 b[a+k] (di hlt);have hp:=RQ (k:=k) (by omega);rw[aQ (show ¬(a:Int)>=(b.length:Int)-k by omega),aa,show aj ((a:Int)+(k:Int))=((a+k:Nat):Int) by rw[aI (by omega) (by omega)];omega,av hlt,ae,
    aM (show 0<=aj (7*(k:Int)) by rw[aI (by omega) (by omega)];omega),ae,bp hlt,aGI (by omega),YM hlt]
   generalize b[a+k]=x at hx ⊢;rw[aI (n:=x) (by omega) (by omega),al0 (by omega),BB,BB];have hd:=aps (d:=x%128) (P:=128 ^ k) (by omega) (by omega) hp.1;rw[aI (n:=x%128*128 ^ k) (by omega) (by omega),aKz (by omega) h0 h1 (by omega) (by omega),aI (n:=n1+x%128*128 ^ k) (by omega) (by omega)];unfold Uj;by_cases aly:x<128
   ·have e:x%128=x:=Int.emod_eq_of_lt hx.1 aly;rw[e]at hd ⊢;rw[aM aly,af,ak aly,aI (n:=((a+k:Nat):Int)+1) (by omega) (by omega)];by_cases hk0:k=0
    ·subst hk0;rw[show decide (((0:Nat):Int)>0)=false from rfl,aa];by_cases hv:n1+x*128 ^ 0>2147483647
     ·rw[aM hv,af,ak (.inr hv)];rfl
     ·rw[aQ hv,aa,ah (fun h=>h.elim (fun h=>h.1 rfl) hv)];rfl
    ·rw[aM (show(k:Int)>0 by omega),af];by_cases hx0:x=0
     ·rw[show(x==0)=true from bC.2 hx0,af,ak (.inl ⟨hk0,hx0⟩)];rfl
     ·rw[cj.2 hx0,aa];by_cases hv:n1+x*128 ^ k>2147483647
      ·rw[aM hv,af,ak (.inr hv)];rfl
      ·rw[aQ hv,aa,ah (fun h=>h.elim (fun h=>hx0 h.2) hv)];rfl
   ·rw[aQ aly,aa,ah aly,ao (by omega)];have hn:n1+x%128*128 ^ k<128 ^ (k+1):=by rw[Sc];omega
    exact ax2 hb a ha j (k+1) (by omega) _ m (by omega) hn (by omega)
  ·rw[aM (show(a:Int)>=(b.length:Int)-k by omega),af,BB,atz hge];rfl
theorem aAB {b:List Int}(hb:eH b){a:Nat}(ha:a<=b.length):kZ F0 b (a:Int)=some (aIv a (Uj 5 (b.drop a) 0 0)):=by rw[anf];exact ax2 hb a ha 5 0 rfl 0 _ (by omega) (by decide) (by rw[bT];omega)
theorem aeK:∀(k:Nat) (v:Int) (xs:List Int) (n:Nat),0<=v->v<128 ^ (k+1)->xs.length+k<=1000->k<n->k<=4 ->
  ∃ys,uA F0 (vW F0) n (po v xs)=some (xs++ys,())/\ys.length<=k+1/\(128 ^ k<=v->ys.length=k+1)/\1<=ys.length
 |0,v,xs,n,h0,h1,hx,hn,hk=>by obtain⟨n,rfl⟩:∃m,n=m+1:=⟨n-1,by omega⟩;rw[ov,aQ (show ¬v>=128 by have:(128:Int) ^ (0+1)=128:=rfl;omega),aa,qv,az (by omega) (by omega) (by rw[ew];omega),ae];exact⟨_,rfl,cp _,fun _=>rfl,cp _⟩
 |k+1,v,xs,n,h0,h1,hx,hn,hk=>by
  obtain⟨n,rfl⟩:∃m,n=m+1:=⟨n-1,by omega⟩;have hp:=RQ (k:=k) (by omega);have e1:(128:Int) ^ (k+1)=128 ^ k*128:=Sc _ _;have e2:(128:Int) ^ (k+1+1)=128 ^ (k+1)*128:=Sc _ _;rw[ov];by_cases hv:v>=128
  ·rw[aM hv,af,az (by omega) (by omega) (by rw[ew];omega),ae,ar1 h0,aI (n:=v/128) (by omega) (by omega)];obtain⟨ys,h2,h3,h4,h5⟩:=aeK k (v/128) (xs++[IntKind.wrap .u8 (aj (Int.tmod v 128+128))]) n (by omega) (by omega) (by rw[aT,ew];omega) (by omega) (by omega);refine⟨IntKind.wrap .u8 (aj (Int.tmod v 128+128))::ys,h2.trans (by rw[jZ];rfl),by rw[bg];omega,fun h=>?_,by rw[bg];omega⟩;rw[bg,h4 (by omega)]
  ·rw[aQ hv,aa,qv,az (by omega) (by omega) (by rw[ew];omega),ae];exact⟨_,rfl,by rw[ew];omega,fun h=>by omega,cp _⟩
theorem aAC (v:Int):∃ys,fF F0 v=some (ys,())/\∀(k:Nat) (n1 x:Int),k<=4->0<=n1->n1<128 ^ k->0<=x->x<128->v=n1+x*128 ^ k ->
  ((ys.length:Int) != ((k+1:Nat):Int))=decide ((k≠0/\x=0)\/v>2147483647):=by
 rw[V8,b9,ai,aeJ];by_cases hv:0<=v/\v<=2147483647
 ·rw[aM hv,aL,aa];have h5:(128:Int) ^ (4+1)=34359738368:=by decide
  obtain⟨ys0,h2,_,_,_⟩:=aeK 4 v [] F0.n hv.1 (by omega) (by simp) (by rw[bT];omega) (by omega);refine⟨ys0,h2,fun k n1 x hk g0 g1 g2 g3 hvk=>?_⟩;have hp:=RQ hk;have e1:(128:Int) ^ (k+1)=128 ^ k*128:=Sc _ _;have hm:=aps (d:=x) (P:=128 ^ k) g2 (by omega) hp.1;obtain⟨ys,h3,h4,h5,h6⟩:=aeK k v [] F0.n hv.1 (by omega) (by simp;omega) (by rw[bT];omega) hk;rw[h2]at h3;have hys:ys0=ys:=by simpa using h3
  subst hys;by_cases hx:k≠0/\x=0
  ·rw[aM (.inl hx),D0];obtain⟨hk0,hx0⟩:=hx;subst hx0;obtain⟨k,rfl⟩:∃q,k=q+1:=⟨k-1,by omega⟩;obtain⟨ys',h3',h4',_,_⟩:=aeK k v [] F0.n hv.1 (by omega) (by simp;omega) (by rw[bT];omega) (by omega);rw[h2]at h3';have aOL:ys0=ys':=by simpa using h3'
   subst aOL;omega
  ·rw[aQ (fun h=>h.elim hx (by omega)),Sa];by_cases hk0:k=0
   ·subst hk0;omega
   ·have hx1:1<=x:=by
     have:x≠0:=fun h=>hx ⟨hk0,h⟩
     omega
    have:=Int.mul_le_mul_of_nonneg_right hx1 (show(0:Int)<=128 ^ k by omega);rw[h5 (by omega)]
 ·rw[aQ hv,eX,af];refine⟨[],rfl,fun k n1 x hk g0 g1 g2 g3 hvk=>?_⟩;have hp:=RQ hk;have hm:=aps (d:=x) (P:=128 ^ k) g2 (by omega) hp.1;rw[aM (.inr (by omega)),D0];simp only[bB];omega
theorem ax3 {b:List Int}(hb:eH b)(a:Nat)(ha:a<=b.length):∀(j k:Nat),j+k=5->∀(n1:Int) (m:Nat),0<=n1->n1<128 ^ k->j<m ->
  Dy F0 (vY F0) m (vX b (a:Int) n1 (k:Int))=some (aIv a (Uj j (b.drop (a+k)) k n1))
 |0,k,hjk,n1,m,h0,h1,hm=>by obtain⟨m,rfl⟩:∃q,m=q+1:=⟨m-1,by omega⟩;rw[Ki,aQ (by omega),aa,MO];rfl
 |j+1,k,hjk,n1,m,h0,h1,hm=>by
  obtain⟨m,rfl⟩:∃q,m=q+1:=⟨m-1,by omega⟩;have hl:=hb.1;rw[Ki,aM (by omega),af,show aj ((a:Int)+(k:Int))=((a+k:Nat):Int) by rw[aI (by omega) (by omega)];omega];rcases acn (a+k) b.length with hlt|hge
  ·have hx:=hb.2 b[a+k] (di hlt);have hp:=RQ (k:=k) (by omega);rw[aS hlt,af,av hlt,ae,
    aM (show 0<=aj (7*(k:Int)) by rw[aI (by omega) (by omega)];omega),ae,bp hlt,aGI (by omega),YM hlt]
   generalize b[a+k]=x at hx ⊢;rw[aI (n:=x) (by omega) (by omega),al0 (by omega),PZ,PZ];have hd:=aps (d:=x%128) (P:=128 ^ k) (by omega) (by omega) hp.1;rw[aI (n:=x%128*128 ^ k) (by omega) (by omega),aI (n:=n1+x%128*128 ^ k) (by omega) (by omega),ao (show k+1<=9223372036854775807 by omega)];unfold Uj;by_cases aly:x<128
   ·have e:x%128=x:=Int.emod_eq_of_lt hx.1 aly;rw[e]at hd ⊢;rw[aM aly,af,ak aly,aI (n:=((a+k:Nat):Int)+1) (by omega) (by omega)];obtain⟨ys,h2,h3⟩:=aAC (n1+x*128 ^ k);rw[h2,ai];dsimp only;rw[h3 k n1 x (by omega) h0 h1 hx.1 aly rfl];by_cases hc:(k≠0/\x=0)\/n1+x*128 ^ k>2147483647
    ·rw[aM hc,af,ak hc];rfl
    ·rw[aQ hc,aa,ah hc];rfl
   ·rw[aQ aly,aa,ah aly];have hn:n1+x%128*128 ^ k<128 ^ (k+1):=by rw[Sc];omega
    exact ax3 hb a ha j (k+1) (by omega) _ m (by omega) hn (by omega)
  ·rw[aQ (show ¬((a+k:Nat):Int)<(b.length:Int) by omega),aa,MO,atz hge];rfl
theorem ax4 {b:List Int}(hb:eH b){a:Nat}(ha:a<=b.length):xG F0 b (a:Int)=some (aIv a (Uj 5 (b.drop a) 0 0)):=by
 have hl:=hb.1;rw[aox,b9,ai,aeJ,aI (by omega) (by omega)];rcases acn a b.length with hlt|hge
 ·rw[aM (by omega),aL,aa];exact ax3 hb a ha 5 0 rfl 0 _ (by omega) (by decide) (by rw[bT];omega)
 ·rw[aQ (by omega),eX,af,atz hge];rfl
theorem aC1:∀(j:Nat) (l:List Int) (k:Nat) (n:Int) (v:Int) (c:Nat),Uj j l k n=some (v,c)->v<=2147483647/\k<c/\c<=k+l.length
 |0,_,_,_,_,_,h=>by cases h
 |_+1,[],_,_,_,_,h=>by cases h
 |j+1,x::l,k,n,v,c,h=>by
  unfold Uj at h;split at h
  ·split at h
   ·cases h
   ·rename_i hc;cases h;exact⟨Int.not_lt.1 fun hh=>hc (.inr hh),Nat.lt_succ_self _,by rw[bg];omega⟩
  ·have:=aC1 j l (k+1) _ v c h;rw[bg];exact⟨this.1,by omega,by omega⟩
theorem ax5:∀(j:Nat) (l:List Int) (k:Nat) (n:Int) (v:Int) (c:Nat),(∀x∈l,0<=x)->0<=n->Uj j l k n=some (v,c)->0<=v
 |0,_,_,_,_,_,_,_,h=>by cases h
 |_+1,[],_,_,_,_,_,_,h=>by cases h
 |j+1,x::l,k,n,v,c,hl,hn,h=>by
  have hx:=hl x OD;have hp:(0:Int)<=128 ^ k:=Int.pow_nonneg (by omega);unfold Uj at h;split at h
  ·split at h
   ·cases h
   ·cases h;have:=Int.mul_nonneg hx hp;omega
  ·have h0:=Int.mul_nonneg (al3 x (show(128:Int)≠0 by decide)) hp;exact ax5 j l (k+1) _ v c (fun y hy=>hl y (tI _ hy)) (by omega) h
abbrev QL:=Nat×Bool
abbrev cell (b:List Int)(s:QL):List Int×Int×Bool:=(b,(s.1:Int),s.2)
abbrev W4 (b:List Int)(s:QL):List Int×Int×Bool:=(b,(s.1:Int),!s.2)
def tY (b:List Int)(a:Nat):Option (Int×Nat):=match Uj 5 (b.drop a) 0 0 with
 |some (v,c)=>some (v,a+c)
 |none=>none
def abK:Option (Int×Nat)->Int×Int×Bool×Unit
 |some (v,a)=>(v,(a:Int),true,())
 |none=>(0,0,false,())
theorem aeL {b:List Int}(hb:eH b){a:Nat}(ha:a<=b.length):kZ F0 b (a:Int)=some (abK (tY b a)):=by rw[aAB hb ha];unfold tY;cases Uj 5 (b.drop a) 0 0<;>rfl
theorem as5 {b:List Int}(hb:eH b){a:Nat}(ha:a<=b.length):xG F0 b (a:Int)=some (abK (tY b a)):=by rw[ax4 hb ha];unfold tY;cases Uj 5 (b.drop a) 0 0<;>rfl
theorem XS {b:List Int}(hb:eH b){a:Nat}(ha:a<=b.length){v:Int}{a':Nat}(h:tY b a=some (v,a')):0<=v/\v<=2147483647/\a<a'/\a'<=b.length:=by
 unfold tY at h;split at h
 ·rename_i v' c he;cases h;have h1:=aC1 _ _ _ _ _ _ he;have h2:=ax5 _ _ _ _ _ _ (fun x hx=>(hb.2 x (azv hx)).1) (Sd 0) he;rw[bz]at h1;exact⟨h2,h1.1,by omega,by omega⟩
 ·cases h
def aW (b:List Int)(s:QL):Int×QL:=match tY b s.1 with
 |some (v,a)=>if s.2=true then (v,a,true) else (0,s.1,false)
 |none=>(0,s.1,false)
theorem tD {b:List Int}(hb:eH b){s:QL}(hs:s.1<=b.length):dt F0 (cell b s)=some (((aW b s).1,()),cell b (aW b s).2,()):=by
 obtain⟨a,ok⟩:=s;rw[ang,aeL hb hs,ai];unfold aW abK;dsimp only;cases tY b a with
 |none=>rfl
 |some r=>cases ok<;>rfl
theorem nE {b:List Int}(hb:eH b){s:QL}(hs:s.1<=b.length):bR F0 (W4 b s)=some (((aW b s).1,()),W4 b (aW b s).2,()):=by
 obtain⟨a,ok⟩:=s;rw[abq,as5 hb hs,ai];unfold aW abK;dsimp only;cases tY b a with
 |none=>cases ok<;>rfl
 |some r=>cases ok<;>rfl
theorem eI {b:List Int}(hb:eH b){s:QL}(hs:s.1<=b.length):(aW b s).2.1<=b.length/\((aW b s).2.2=true->s.1<(aW b s).2.1)/\0<=(aW b s).1/\(aW b s).1<=2147483647:=by
 unfold aW;split
 ·rename_i v a h;have:=XS hb hs h;split
  ·exact⟨this.2.2.2,fun _=>this.2.2.1,this.1,this.2.1⟩
  ·exact⟨hs,(fun h=>by cases h),Sd _,by omega⟩
 ·exact⟨hs,(fun h=>by cases h),Sd _,by omega⟩
def abL (b:List Int)(a:Nat):Option (ByteArray×Nat):=match tY b a with
 |some (v,a)=>if v>(b.length:Int)-a then none else some (strOf ((b.take (a+v.toNat)).drop a),a+v.toNat)
 |none=>none
def aAD:Option (ByteArray×Nat)->ByteArray×Int×Bool×Unit
 |some (v,a)=>(v,(a:Int),true,())
 |none=>(al,0,false,())
theorem as6 {b:List Int}(hb:eH b){a:Nat}(ha:a<=b.length) :
  br (!(abK (tY b a)).2.2.1) (some (al,0,false,())) (br (decide ((abK (tY b a)).1>aj ((b.length:Int)-(abK (tY b a)).2.1))) (some (al,0,false,()))
   (ck (Si (abK (tY b a)).2.1 (aj ((abK (tY b a)).2.1+(abK (tY b a)).1)) (b.length:Int)) (some (strOf ((b.take (aj ((abK (tY b a)).2.1+(abK (tY b a)).1)).toNat).drop (abK (tY b a)).2.1.toNat),aj ((abK (tY b a)).2.1+(abK (tY b a)).1),true,()))))=some (aAD (abL b a)):=by
 have hl:=hb.1;unfold abL;cases hg:tY b a with
 |none=>rfl
 |some r =>
  obtain⟨v,a'⟩:=r;have h:=XS hb ha hg;show br (!true) _ (br (decide (v>aj ((b.length:Int)-(a':Int)))) _ (ck (Si (a':Int) (aj ((a':Int)+v)) (b.length:Int)) (some (strOf ((b.take (aj ((a':Int)+v)).toNat).drop (a':Int).toNat),aj ((a':Int)+v),true,()))))=some (aAD (if v>(b.length:Int)-a' then none else some (strOf ((b.take (a'+v.toNat)).drop a'),a'+v.toNat)));rw[aL,aa,aI (n:=(b.length:Int)-a') (by omega) (by omega),aI (n:=(a':Int)+v) (by omega) (by omega)];by_cases hv:v>(b.length:Int)-a'
  ·rw[aM hv,af,ak hv];rfl
  ·rw[aQ hv,aa,ah hv,show(a':Int)+v=((a'+v.toNat:Nat):Int) by omega,XP (by omega) (by omega),ae];simp only[mm,aAD]
theorem ax6 {b:List Int}(hb:eH b){a:Nat}(ha:a<=b.length):Hw F0 b (a:Int)=some (aAD (abL b a)):=by rw[aj1,aeL hb ha,ai];exact as6 hb ha
theorem IA {b:List Int}(hb:eH b){a:Nat}(ha:a<=b.length):oz F0 b (a:Int)=some (aAD (abL b a)):=by rw[akU,as5 hb ha,ai];exact as6 hb ha
theorem aIw {b:List Int}(hb:eH b){a:Nat}(ha:a<=b.length){v:ByteArray}{a':Nat}(h:abL b a=some (v,a')):v.size<=1048576/\a<a'/\a'<=b.length:=by
 have hl:=hb.1;unfold abL at h;split at h
 ·rename_i v0 a0 hg;have h0:=XS hb ha hg;split at h
  ·cases h
  ·rename_i hv;cases h;refine⟨?_,by omega,by omega⟩;show(((b.take (a0+v0.toNat)).drop a0).map fun n=>UInt8.ofNat n.toNat).toArray.size<=1048576;rw[List.size_toArray,ug,bz,bQ];omega
 ·cases h
def dM (b:List Int)(s:QL):ByteArray×QL:=match abL b s.1 with
 |some (v,a)=>if s.2=true then (v,a,true) else (al,s.1,false)
 |none=>(al,s.1,false)
theorem aeM {b:List Int}(hb:eH b){s:QL}(hs:s.1<=b.length):n8 F0 (cell b s)=some (((dM b s).1,()),cell b (dM b s).2,()):=by
 obtain⟨a,ok⟩:=s;rw[aj3,ax6 hb hs,ai];unfold dM aAD;dsimp only;cases abL b a with
 |none=>rfl
 |some r=>cases ok<;>rfl
theorem XT {b:List Int}(hb:eH b){s:QL}(hs:s.1<=b.length):gM F0 (W4 b s)=some (((dM b s).1,()),W4 b (dM b s).2,()):=by
 obtain⟨a,ok⟩:=s;rw[Yu,IA hb hs,ai];unfold dM aAD;dsimp only;cases abL b a with
 |none=>cases ok<;>rfl
 |some r=>cases ok<;>rfl
theorem xK {b:List Int}(hb:eH b){s:QL}(hs:s.1<=b.length):(dM b s).2.1<=b.length/\(dM b s).1.size<=1048576:=by
 unfold dM;split
 ·rename_i v a h;have:=aIw hb hs h;split
  ·exact⟨this.2.2,this.1⟩
  ·exact⟨hs,aX _⟩
 ·exact⟨hs,aX _⟩
def kC (b:List Int)(n:Int):Nat->Int->QL->List Int->List Int×QL
 |0,_,s,xs=>(xs,s)
 |f+1,i,s,xs=>if i<n/\s.2=true then kC b n f (i+1) (aW b s).2 (xs++[(aW b s).1]) else (xs,s)
def Bi (b:List Int)(s:QL):List Int×QL:=kC b (aW b s).1 (b.length+2) 0 (aW b s).2 []
theorem ax7 {b:List Int}(hb:eH b)(n1:Int){γ:Type}(κ:Ex->St->Option γ):∀(f:Nat) (i:Int) (s:QL) (xs:List Int) (m:Nat),s.1<=b.length->0<=i->i+f<=4194304->(s.2=true->b.length+2<=s.1+f)->xs.length+f<=4194304->f<m ->
  CM F0 κ m (u6 n1 i b (s.1:Int) s.2 xs)=κ (.exit 0) (si b ((kC b n1 f i s xs).2.1:Int) (kC b n1 f i s xs).2.2 (kC b n1 f i s xs).1)
 |0,i,s,xs,m,hs,h0,h1,h2,h3,hm=>by
  obtain⟨m,rfl⟩:∃q,m=q+1:=⟨m-1,by omega⟩;have hf:s.2=false:=I5.2 fun h=>by have:=h2 h;omega
  rw[JB];unfold kC;dsimp only;rw[hf,aa];cases decide (i<n1)<;>rfl
 |f+1,i,s,xs,m,hs,h0,h1,h2,h3,hm=>by
  obtain⟨m,rfl⟩:∃q,m=q+1:=⟨m-1,by omega⟩;rw[JB];unfold kC;by_cases hi:i<n1
  ·rw[aM hi,af];cases hf:s.2 with
   |false =>
    rw[aa,ah (fun h=>by cases h.2),hf]
   |true =>
    have hn:=tD hb hs;have hk:=eI hb hs;unfold cell at hn;rw[hf]at hn;rw[af,ak ⟨hi,rfl⟩,hn,ai,az (by omega) (by omega) (by rw[ew];omega),ae,aI (by omega) (by omega)];exact ax7 hb n1 κ f (i+1) (aW b s).2 (xs++[(aW b s).1]) m hk.1 (by omega) (by omega) (fun h=>by have:=hk.2.1 h;have:=h2 hf;omega) (by rw[aT,ew];omega) (by omega)
  ·rw[aQ hi,aa,ah (fun h=>hi h.1)]
theorem ax8 {b:List Int}(hb:eH b)(n1:Int){γ:Type}(κ:Ex->St->Option γ):∀(f:Nat) (i:Int) (s:QL) (xs:List Int) (m:Nat),s.1<=b.length->0<=i->i+f<=4194304->(s.2=true->b.length+2<=s.1+f)->xs.length+f<=4194304->f<m ->
  oC F0 κ m (lu n1 i b (s.1:Int) (!s.2) xs)=κ (.exit 0) (ku b ((kC b n1 f i s xs).2.1:Int) (!(kC b n1 f i s xs).2.2) (kC b n1 f i s xs).1)
 |0,i,s,xs,m,hs,h0,h1,h2,h3,hm=>by
  obtain⟨m,rfl⟩:∃q,m=q+1:=⟨m-1,by omega⟩;have hf:s.2=false:=I5.2 fun h=>by have:=h2 h;omega
  rw[xH];unfold kC;dsimp only;rw[hf];cases decide (i<n1)<;>rfl
 |f+1,i,s,xs,m,hs,h0,h1,h2,h3,hm=>by
  obtain⟨m,rfl⟩:∃q,m=q+1:=⟨m-1,by omega⟩;rw[xH];unfold kC;by_cases hi:i<n1
  ·rw[aM hi,af];cases hf:s.2 with
   |false =>
    rw[ah (fun h=>by cases h.2),hf];rfl
   |true =>
    have hn:=nE hb hs;have hk:=eI hb hs;unfold W4 at hn;rw[hf]at hn;rw[aL,eX,af,ak ⟨hi,rfl⟩,show(false:Bool)= !true from rfl,hn,ai,az (by omega) (by omega) (by rw[ew];omega),ae,aI (by omega) (by omega)];exact ax8 hb n1 κ f (i+1) (aW b s).2 (xs++[(aW b s).1]) m hk.1 (by omega) (by omega) (fun h=>by have:=hk.2.1 h;have:=h2 hf;omega) (by rw[aT,ew];omega) (by omega)
  ·rw[aQ hi,aa,ah (fun h=>hi h.1)]
theorem aC2 {b:List Int}(hb:eH b){s:QL}(hs:s.1<=b.length):Em F0 (cell b s)=some (((Bi b s).1,()),cell b (Bi b s).2,()):=by have hl:=hb.1;have hk:=eI hb hs;rw[anh,tD hb hs,ai];refine(ax7 hb (aW b s).1 (Fv F0) (b.length+2) 0 (aW b s).2 [] _ hk.1 (Sd _) (by omega) (fun _=>by omega) (by rw[bB];omega) (by rw[bT];omega)).trans ?_;rw[ac9];rfl
theorem ax9 {b:List Int}(hb:eH b){s:QL}(hs:s.1<=b.length):nd F0 (W4 b s)=some (((Bi b s).1,()),W4 b (Bi b s).2,()):=by have hl:=hb.1;have hk:=eI hb hs;rw[Yv,nE hb hs,ai];refine(ax8 hb (aW b s).1 (rB F0) (b.length+2) 0 (aW b s).2 [] _ hk.1 (Sd _) (by omega) (fun _=>by omega) (by rw[bB];omega) (by rw[bT];omega)).trans ?_;rw[Rw];rfl
theorem aAE (b:List Int)(n:Int)(f:Nat)(i:Int){s:QL}(h:s.2=false)(xs:List Int):kC b n f i s xs=(xs,s):=by
 cases f with
 |zero=>rfl
 |succ f =>
  unfold kC;rw[ah (fun h'=>by rw[h]at h';cases h'.2)]
theorem as7 {b:List Int}(hb:eH b)(n:Int):∀(f:Nat) (i:Int) (s:QL) (xs:List Int),s.1<=b.length->(kC b n f i s xs).2.1<=b.length/\((kC b n f i s xs).2.2=true->(kC b n f i s xs).1.length+s.1<=xs.length+(kC b n f i s xs).2.1)
 |0,i,s,xs,hs=>⟨hs,fun _=>cp _⟩
 |f+1,i,s,xs,hs=>by
  unfold kC;split
  ·have hk:=eI hb hs;have ih:=as7 hb n f (i+1) (aW b s).2 (xs++[(aW b s).1]) hk.1;refine⟨ih.1,fun h=>?_⟩;cases hr:(aW b s).2.2 with
   |false =>
    rw[aAE b n f (i+1) hr,hr]at h;cases h
   |true =>
    have h1:=hk.2.1 hr;have h2:=ih.2 h;rw[aT,ew]at h2;omega
  ·exact⟨hs,fun _=>cp _⟩
theorem apt {b:List Int}(hb:eH b){s:QL}(hs:s.1<=b.length):(Bi b s).2.1<=b.length/\((Bi b s).2.2=true->(Bi b s).1.length<=1048576):=by have hl:=hb.1;have hk:=eI hb hs;have h:=as7 hb (aW b s).1 (b.length+2) 0 (aW b s).2 [] hk.1;refine⟨h.1,fun ho=>?_⟩;have h2:=h.2 ho;have h1:=h.1;rw[bB]at h2;unfold Bi;omega
def xS (b:List Int)(s:QL):dp×QL:=(((aW b s).1,(dM b (aW b s).2).1,(Bi b (dM b (aW b s).2).2).1),(Bi b (dM b (aW b s).2).2).2)
theorem aAF {b:List Int}(hb:eH b){s:QL}(hs:s.1<=b.length):BC F0 (cell b s)=some (((xS b s).1,()),cell b (xS b s).2,()):=by have h1:=(eI hb hs).1;have h2:=(xK hb h1).1;rw[aq0,tD hb hs,ai,aeM hb h1,ai,aC2 hb h2,ai];rfl
theorem avM {b:List Int}(hb:eH b){s:QL}(hs:s.1<=b.length):ng F0 (W4 b s)=some (((xS b s).1,()),W4 b (xS b s).2,()):=by have h1:=(eI hb hs).1;have h2:=(xK hb h1).1;rw[adO,nE hb hs,ai,XT hb h1,ai,ax9 hb h2,ai];rfl
theorem RR {b:List Int}(hb:eH b){s:QL}(hs:s.1<=b.length):(xS b s).2.1<=b.length/\((xS b s).2.2=true->uN (xS b s).1):=by have h1:=(eI hb hs).1;have h2:=xK hb h1;have h3:=apt hb h2.1;exact⟨h3.1,fun h=>⟨h2.2,h3.2 h⟩⟩
def abM:da:=(0,0,(al,cQ),cQ,cQ,0,nM)
def fin (c:Int×Int)(b:List Int)(m:da)(s:QL):da×Bool:=if s.2=true/\(s.1:Int)=(b.length:Int)/\eh c m=true then (m,true) else (abM,false)
theorem aeN {c:Int×Int}{b:List Int}{m:da}{s:QL}(h:s.2=true->gy m) :
  br (!s.2) (some (abM,false,())) (br ((s.1:Int) != (b.length:Int)) (some (abM,false,())) ((fT F0 c m).bind fun r87=>br (!r87.1) (some (abM,false,())) (some (m,true,()))))=some ((fin c b m s).1,(fin c b m s).2,()):=by
 unfold fin;cases hs:s.2 with
 |false =>
  rw[ah (fun h=>by cases h.1)];rfl
 |true =>
  rw[aL,aa,I2 (h hs),ai];by_cases hl:(s.1:Int)=(b.length:Int)
  ·rw[show((s.1:Int) != (b.length:Int))=false from Sa.2 hl,aa];cases hm:eh c m with
   |false =>
    rw[ah (fun h=>by cases h.2.2)];rfl
   |true =>
    rw[ak ⟨rfl,hl,rfl⟩];rfl
  ·rw[D0.2 hl,af,ah (fun h=>hl h.2.1)]
theorem W5 {c:Int×Int}{b:List Int}{m:da}{s:QL}(h:s.2=true->gy m) :
  br (!s.2) (some (abM,false,())) (br ((s.1:Int) != (b.length:Int)) (some (abM,false,())) ((gL F0 c m).bind fun r87=>br (!r87.1) (some (abM,false,())) (some (m,true,()))))=some ((fin c b m s).1,(fin c b m s).2,()):=by
 unfold fin;cases hs:s.2 with
 |false =>
  rw[ah (fun h=>by cases h.1)];rfl
 |true =>
  rw[aL,aa,Lb (h hs),ai];by_cases hl:(s.1:Int)=(b.length:Int)
  ·rw[show((s.1:Int) != (b.length:Int))=false from Sa.2 hl,aa];cases hm:eh c m with
   |false =>
    rw[ah (fun h=>by cases h.2.2)];rfl
   |true =>
    rw[ak ⟨rfl,hl,rfl⟩];rfl
  ·rw[D0.2 hl,af,ah (fun h=>hl h.2.1)]
def jn (b:List Int):Int×QL:=aW b (0,true)
def aIx (b:List Int):da×QL:=(((jn b).1,0,((dM b (jn b).2).1,(xS b (dM b (jn b).2).2).1),cQ,cQ,0,nM),(xS b (dM b (jn b).2).2).2)
def aIy (b:List Int):da×QL :=
 (((jn b).1,0,(al,cQ),((aW b (jn b).2).1,(dM b (aW b (jn b).2).2).1,(Bi b (dM b (aW b (jn b).2).2).2).1),cQ,0,nM),(Bi b (dM b (aW b (jn b).2).2).2).2)
def aIz (b:List Int):da×QL :=
 (((jn b).1,(aW b (jn b).2).1,(al,cQ),cQ,(xS b (aW b (aW b (jn b).2).2).2).1,(aW b (aW b (jn b).2).2).1,nM),(xS b (aW b (aW b (jn b).2).2).2).2)
def aIA (b:List Int):da×QL :=
 (((jn b).1,0,(al,cQ),cQ,cQ,0,(aW b (jn b).2).1,(aW b (aW b (jn b).2).2).1,(aW b (aW b (aW b (jn b).2).2).2).1,(aW b (aW b (aW b (aW b (jn b).2).2).2).2).1),(aW b (aW b (aW b (aW b (jn b).2).2).2).2).2)
def aKA (b:List Int):da×QL:=(((jn b).1,0,(al,cQ),cQ,cQ,0,nM),(jn b).2)
def aeO (b:List Int):da×QL:=if ((jn b).1==1)=true then aIx b else if ((jn b).1==2)=true then aIy b else if ((jn b).1==3)=true then aIz b else if ((jn b).1==4)=true then aIA b else aKA b
def tP (c:Int×Int)(b:List Int):da×Bool:=fin c b (aeO b).1 (aeO b).2
theorem as8 {b:List Int}(hb:eH b)(c:Int×Int):JD F0 c b=some ((tP c b).1,(tP c b).2,()):=by
 have e0:dt F0 (b,0,true)=some (((jn b).1,()),cell b (jn b).2,()):=tD hb (s:=(0,true)) (aX _);have h0:(jn b).2.1<=b.length:=(eI hb (s:=(0,true)) (aX _)).1;have h1:=(eI hb h0).1;have h2:=(eI hb h1).1;have h3:=(eI hb h2).1;have t0:=xK hb h0;have t1:=xK hb h1;have q1:=RR hb t0.1;have q3:=RR hb h2;have w2:=apt hb t1.1;rw[aq1,e0,ai];unfold tP aeO;dsimp only;by_cases k1:((jn b).1==1)=true
 ·rw[k1,af,ak rfl,aeM hb h0,ai,aAF hb t0.1,ai];unfold aIx;generalize xS b (dM b (jn b).2).2=r2 at q1 ⊢;generalize dM b (jn b).2=r1 at t0 ⊢;generalize jn b=r0;exact aeN (c:=c) (b:=b) (m:=(r0.1,0,(r1.1,r2.1),cQ,cQ,0,nM)) (s:=r2.2) fun h=>⟨t0.2,q1.2 h,ed,ed⟩
 ·rw[I5.2 k1,aa,ah (by decide)];by_cases k2:((jn b).1==2)=true
  ·rw[k2,af,ak rfl,tD hb h0,ai,aeM hb h1,ai,aC2 hb t1.1,ai];unfold aIy;generalize Bi b (dM b (aW b (jn b).2).2).2=r3 at w2 ⊢;generalize dM b (aW b (jn b).2).2=r2 at t1 ⊢;generalize aW b (jn b).2=r1;generalize jn b=r0;exact aeN (c:=c) (b:=b) (m:=(r0.1,0,(al,cQ),(r1.1,r2.1,r3.1),cQ,0,nM)) (s:=r3.2) fun h=>⟨aX _,ed,⟨t1.2,w2.2 h⟩,ed⟩
  ·rw[I5.2 k2,aa,ah (by decide)];by_cases k3:((jn b).1==3)=true
   ·rw[k3,af,ak rfl,tD hb h0,ai,tD hb h1,ai,aAF hb h2,ai];unfold aIz;generalize xS b (aW b (aW b (jn b).2).2).2=r3 at q3 ⊢;generalize aW b (aW b (jn b).2).2=r2;generalize aW b (jn b).2=r1;generalize jn b=r0;exact aeN (c:=c) (b:=b) (m:=(r0.1,r1.1,(al,cQ),cQ,r3.1,r2.1,nM)) (s:=r3.2) fun h=>⟨aX _,ed,ed,q3.2 h⟩
   ·rw[I5.2 k3,aa,ah (by decide)];by_cases k4:((jn b).1==4)=true
    ·rw[k4,af,ak rfl,tD hb h0,ai,tD hb h1,ai,tD hb h2,ai,tD hb h3,ai];unfold aIA;generalize aW b (aW b (aW b (aW b (jn b).2).2).2).2=r4;generalize aW b (aW b (aW b (jn b).2).2).2=r3;generalize aW b (aW b (jn b).2).2=r2;generalize aW b (jn b).2=r1;generalize jn b=r0;exact aeN (c:=c) (b:=b) (m:=(r0.1,0,(al,cQ),cQ,cQ,0,r1.1,r2.1,r3.1,r4.1)) (s:=r4.2) fun h=>⟨aX _,ed,ed,ed⟩
    ·rw[I5.2 k4,aa,ah (by decide)];unfold aKA;generalize jn b=r0;exact aeN (c:=c) (b:=b) (m:=(r0.1,0,(al,cQ),cQ,cQ,0,nM)) (s:=r0.2) fun h=>⟨aX _,ed,ed,ed⟩
theorem apu {b:List Int}(hb:eH b)(c:Int×Int):Kk F0 c b=some ((tP c b).1,(tP c b).2,()):=by
 have e0:bR F0 (b,0,false)=some (((jn b).1,()),W4 b (jn b).2,()):=nE hb (s:=(0,true)) (aX _);have h0:(jn b).2.1<=b.length:=(eI hb (s:=(0,true)) (aX _)).1;have h1:=(eI hb h0).1;have h2:=(eI hb h1).1;have h3:=(eI hb h2).1;have t0:=xK hb h0;have t1:=xK hb h1;have q1:=RR hb t0.1;have q3:=RR hb h2;have w2:=apt hb t1.1;rw[arq,e0,ai];unfold tP aeO;dsimp only;by_cases k1:((jn b).1==1)=true
 ·rw[k1,af,ak rfl,XT hb h0,ai,avM hb t0.1,ai];unfold aIx;generalize xS b (dM b (jn b).2).2=r2 at q1 ⊢;generalize dM b (jn b).2=r1 at t0 ⊢;generalize jn b=r0;exact W5 (c:=c) (b:=b) (m:=(r0.1,0,(r1.1,r2.1),cQ,cQ,0,nM)) (s:=r2.2) fun h=>⟨t0.2,q1.2 h,ed,ed⟩
 ·rw[I5.2 k1,aa,ah (by decide)];by_cases k2:((jn b).1==2)=true
  ·rw[k2,af,ak rfl,nE hb h0,ai,XT hb h1,ai,ax9 hb t1.1,ai];unfold aIy;generalize Bi b (dM b (aW b (jn b).2).2).2=r3 at w2 ⊢;generalize dM b (aW b (jn b).2).2=r2 at t1 ⊢;generalize aW b (jn b).2=r1;generalize jn b=r0;exact W5 (c:=c) (b:=b) (m:=(r0.1,0,(al,cQ),(r1.1,r2.1,r3.1),cQ,0,nM)) (s:=r3.2) fun h=>⟨aX _,ed,⟨t1.2,w2.2 h⟩,ed⟩
  ·rw[I5.2 k2,aa,ah (by decide)];by_cases k3:((jn b).1==3)=true
   ·rw[k3,af,ak rfl,nE hb h0,ai,nE hb h1,ai,avM hb h2,ai];unfold aIz;generalize xS b (aW b (aW b (jn b).2).2).2=r3 at q3 ⊢;generalize aW b (aW b (jn b).2).2=r2;generalize aW b (jn b).2=r1;generalize jn b=r0;exact W5 (c:=c) (b:=b) (m:=(r0.1,r1.1,(al,cQ),cQ,r3.1,r2.1,nM)) (s:=r3.2) fun h=>⟨aX _,ed,ed,q3.2 h⟩
   ·rw[I5.2 k3,aa,ah (by decide)];by_cases k4:((jn b).1==4)=true
    ·rw[k4,af,ak rfl,nE hb h0,ai,nE hb h1,ai,nE hb h2,ai,nE hb h3,ai];unfold aIA;generalize aW b (aW b (aW b (aW b (jn b).2).2).2).2=r4;generalize aW b (aW b (aW b (jn b).2).2).2=r3;generalize aW b (aW b (jn b).2).2=r2;generalize aW b (jn b).2=r1;generalize jn b=r0;exact W5 (c:=c) (b:=b) (m:=(r0.1,0,(al,cQ),cQ,cQ,0,r1.1,r2.1,r3.1,r4.1)) (s:=r4.2) fun h=>⟨aX _,ed,ed,ed⟩
    ·rw[I5.2 k4,aa,ah (by decide)];unfold aKA;generalize jn b=r0;exact W5 (c:=c) (b:=b) (m:=(r0.1,0,(al,cQ),cQ,cQ,0,nM)) (s:=r0.2) fun h=>⟨aX _,ed,ed,ed⟩
structure F1 (w:an):Prop where
 l:w.2.1.length<=1048576
 r:w.2.2.1.length<=1048576
 rl:∀x∈w.2.2.1,arH x
 n:w.2.2.2.1.length<=1048576
 nb:∀x∈w.2.2.2.1,eH x.2
 s:w.2.2.2.2.length<=1048576
 st:∀x∈w.2.2.2.2,x.2.1.size<=1048576
theorem aAG (c:Int×Int):LR F0 c=some (FZ c,()):=by
 rw[anc,jf,ai];unfold FZ;dsimp only;cases h:bO c with
 |false=>rfl
 |true =>
  have:=cP h;have h3:=axQ this.1 this.2.1;have e:aj (c.1-1)=c.1-1:=aI (by omega) (by omega);rw[aL,aa,e,aI (n:=Int.tdiv (c.1-1) 3) (by omega) (by omega),ak rfl]
def ajh:aD:=(0,0,0,(0,0,cQ,al),[],[],([],0),[])
def aAH:pB:=(0,[])
def abN:eG:=(0,al,0)
def apv (c:Int×Int)(l:List aD)(k:Nat):Bool:=qJ c (l.getD k ajh)&&((l.getD k ajh).1==(k:Int))
def abO (c:Int×Int)(l:List pB)(k:Nat):Bool:=(tP c (l.getD k aAH).2).2&&iG 0 (aj (c.1-1)) (l.getD k aAH).1
def abP (c:Int×Int)(l:List eG)(k:Nat):Bool:=iG 0 (aj (c.1-1)) (l.getD k abN).2.2&&(cq (l.getD k abN).2.1.data.toList&&(bA (l.getD k abN).2.1.data.toList==(l.getD k abN).1))
def apw (w:an):Bool:=(List.range w.2.2.1.length).all (apv w.1 w.2.2.1)
def IB (w:an):Bool:=(List.range w.2.2.2.1.length).all (abO w.1 w.2.2.2.1)
def tE (w:an):Bool:=(List.range w.2.2.2.2.length).all (abP w.1 w.2.2.2.2)
def mf (w:an):Bool :=
 bO w.1&&(nB w.1.1 w.2.1&&(!decide ((w.2.1.length:Int)>FZ w.1)&&(!((w.2.2.1.length:Int) != w.1.1)&&(!decide ((w.2.2.2.1.length:Int)>60)&&(!decide ((w.2.2.2.2.length:Int)>300)&&(apw w&&(IB w&&tE w)))))))
theorem alR (a b:Bool):(if a=true then some (b,()) else some (false,()))=some (a&&b,()):=by cases a<;>rfl
theorem aAI {w:an}(h:F1 w):qY F0 (mB F0) F0.n (mA 0 w.1.1 w.1.2 w.2.1 w.2.2.1 w.2.2.2.1 w.2.2.2.2)=some (tE w,()):=by
 have hs:=h.s;rw[jA (fun m k=>qY F0 (mB F0) m (mA k w.1.1 w.1.2 w.2.1 w.2.2.1 w.2.2.2.1 w.2.2.2.2)) w.2.2.2.2.length (abP w.1 w.2.2.2.2) (some (true,())) (some (false,())) (fun m k hk=>?_) (fun m=>?_) _ (by rw[bT];omega),Ld]
 ·rfl
 ·have hz:=h.st _ (di hk);rw[Gb,aS hk,af,av hk,ae,bp hk,dB,ai,I1 hz,ai,pV hz,ai,ade,ao (by omega)];unfold abP;rw[bc hk];dsimp only;cases iG 0 (aj (w.1.1-1)) (w.2.2.2.2[k]).2.2<;>cases cq (w.2.2.2.2[k]).2.1.data.toList<;>try rfl
  by_cases hv:bA (w.2.2.2.2[k]).2.1.data.toList=(w.2.2.2.2[k]).1
  ·rw[show(bA (w.2.2.2.2[k]).2.1.data.toList != (w.2.2.2.2[k]).1)=false from Sa.2 hv,show(bA (w.2.2.2.2[k]).2.1.data.toList==(w.2.2.2.2[k]).1)=true from bC.2 hv];rfl
  ·rw[D0.2 hv,cj.2 hv];rfl
 ·rw[Gb,aH,aa,aa3]
theorem aAJ {w:an}(h:F1 w):qZ F0 (mD F0) F0.n (mC 0 w.1.1 w.1.2 w.2.1 w.2.2.1 w.2.2.2.1 w.2.2.2.2)=some (IB w&&tE w,()):=by
 have hs:=h.n;rw[jA (fun m k=>qZ F0 (mD F0) m (mC k w.1.1 w.1.2 w.2.1 w.2.2.1 w.2.2.2.1 w.2.2.2.2)) w.2.2.2.1.length (abO w.1 w.2.2.2.1) (some (tE w,())) (some (false,())) (fun m k hk=>?_) (fun m=>?_) _ (by rw[bT];omega),alR]
 ·rfl
 ·rw[Gc,aS hk,af,av hk,ae,bp hk,show((w.1.1,w.1.2):Int×Int)=w.1 from rfl,as8 (h.nb _ (di hk)),ai,ae,dB,ai,adf,ao (by omega)];unfold abO;rw[bc hk];dsimp only;cases (tP w.1 (w.2.2.2.1[k]).2).2<;>cases iG 0 (aj (w.1.1-1)) (w.2.2.2.1[k]).1<;>rfl
 ·rw[Gc,aH,aa,aa4,aAI h]
theorem aEf {w:an}(h:F1 w):q0 F0 (mF F0) F0.n (mE 0 w.1.1 w.1.2 w.2.1 w.2.2.1 w.2.2.2.1 w.2.2.2.2)=some (apw w&&(IB w&&tE w),()):=by
 have hs:=h.r;rw[jA (fun m k=>q0 F0 (mF F0) m (mE k w.1.1 w.1.2 w.2.1 w.2.2.1 w.2.2.2.1 w.2.2.2.2)) w.2.2.1.length (apv w.1 w.2.2.1) (some (IB w&&tE w,())) (some (false,())) (fun m k hk=>?_) (fun m=>?_) _ (by rw[bT];omega),alR]
 ·rfl
 ·rw[Ge,aS hk,af,av hk,ae,bp hk,ae,show((w.1.1,w.1.2):Int×Int)=w.1 from rfl,iS (h.rl _ (di hk)),ai,adg,ao (by omega)];unfold apv;rw[bc hk];dsimp only;by_cases hv:(w.2.2.1[k]).1=(k:Int)
  ·rw[show((w.2.2.1[k]).1 != (k:Int))=false from Sa.2 hv,show((w.2.2.1[k]).1==(k:Int))=true from bC.2 hv,aa,Bool.and_true];cases qJ w.1 w.2.2.1[k]<;>rfl
  ·rw[D0.2 hv,cj.2 hv,af,ahX];rfl
 ·rw[Ge,aH,aa,aa5,aAJ h]
theorem aya {w:an}(h:F1 w):yG F0 w=some (mf w,()):=by rw[aj4,jf,ai,ahm (cN h.l (by omega)),ai,aAG,ai,aEf h];unfold mf;cases bO w.1<;>cases nB w.1.1 w.2.1<;>cases decide ((w.2.1.length:Int)>FZ w.1)<;>cases ((w.2.2.1.length:Int) != w.1.1)<;>cases decide ((w.2.2.2.1.length:Int)>60)<;>cases decide ((w.2.2.2.2.length:Int)>300)<;>rfl
theorem aAK {w:an}(h:F1 w):rD F0 (ni F0) F0.n (nh w.2.2.2.2 (w.2.2.2.2.length:Int) 0 w.1.1 w.1.2)=some (tE w,()):=by
 have hs:=h.s;rw[jA (fun m k=>rD F0 (ni F0) m (nh w.2.2.2.2 (w.2.2.2.2.length:Int) k w.1.1 w.1.2)) w.2.2.2.2.length (abP w.1 w.2.2.2.2) (some (true,())) (some (false,())) (fun m k hk=>?_) (fun m=>?_) _ (by rw[bT];omega),Ld]
 ·rfl
 ·have hz:=h.st _ (di hk);rw[GH,aS hk,af,av hk,ae,bp hk,b9,ai,Cj hz,ai,rQ hz,ai,adQ,ao (by omega)];unfold abP;rw[bc hk];dsimp only;cases iG 0 (aj (w.1.1-1)) (w.2.2.2.2[k]).2.2<;>cases cq (w.2.2.2.2[k]).2.1.data.toList<;>try rfl
  by_cases hv:bA (w.2.2.2.2[k]).2.1.data.toList=(w.2.2.2.2[k]).1
  ·rw[show(bA (w.2.2.2.2[k]).2.1.data.toList != (w.2.2.2.2[k]).1)=false from Sa.2 hv,show(bA (w.2.2.2.2[k]).2.1.data.toList==(w.2.2.2.2[k]).1)=true from bC.2 hv];rfl
  ·rw[D0.2 hv,cj.2 hv];rfl
 ·rw[GH,aH,aa,abr]
theorem aAL {w:an}(h:F1 w):rE F0 (nk F0) F0.n (nj w.2.2.2.1 (w.2.2.2.1.length:Int) 0 w.1.1 w.1.2 w.2.1 w.2.2.1 w.2.2.2.1 w.2.2.2.2 w.1.1 w.1.2)=some (IB w&&tE w,()):=by
 have hs:=h.n;rw[jA (fun m k=>rE F0 (nk F0) m (nj w.2.2.2.1 (w.2.2.2.1.length:Int) k w.1.1 w.1.2 w.2.1 w.2.2.1 w.2.2.2.1 w.2.2.2.2 w.1.1 w.1.2)) w.2.2.2.1.length (abO w.1 w.2.2.2.1) (some (tE w,())) (some (false,())) (fun m k hk=>?_) (fun m=>?_) _ (by rw[bT];omega),alR]
 ·rfl
 ·rw[GI,aS hk,af,av hk,ae,bp hk,show((w.1.1,w.1.2):Int×Int)=w.1 from rfl,apu (h.nb _ (di hk)),ai,b9,ai,adR,ao (by omega)];unfold abO;rw[bc hk];dsimp only;cases (tP w.1 (w.2.2.2.1[k]).2).2<;>cases iG 0 (aj (w.1.1-1)) (w.2.2.2.1[k]).1<;>rfl
 ·rw[GI,aH,aa,abt,aAK h]
theorem aEg {w:an}(h:F1 w):rF F0 (nn F0) F0.n (nm w.2.2.1 (w.2.2.1.length:Int) 0 w.1.1 w.1.2 w.2.1 w.2.2.1 w.2.2.2.1 w.2.2.2.2 w.1.1 w.1.2)=some (apw w&&(IB w&&tE w),()):=by
 have hs:=h.r;rw[jA (fun m k=>rF F0 (nn F0) m (nm w.2.2.1 (w.2.2.1.length:Int) k w.1.1 w.1.2 w.2.1 w.2.2.1 w.2.2.2.1 w.2.2.2.2 w.1.1 w.1.2)) w.2.2.1.length (apv w.1 w.2.2.1) (some (IB w&&tE w,())) (some (false,())) (fun m k hk=>?_) (fun m=>?_) _ (by rw[bT];omega),alR]
 ·rfl
 ·rw[GJ,aS hk,af,av hk,ae,bp hk,show((w.1.1,w.1.2):Int×Int)=w.1 from rfl,eW (h.rl _ (di hk)),ai,adS,ao (by omega)];unfold apv;rw[bc hk];dsimp only;by_cases hv:(w.2.2.1[k]).1=(k:Int)
  ·rw[show((w.2.2.1[k]).1 != (k:Int))=false from Sa.2 hv,show((w.2.2.1[k]).1==(k:Int))=true from bC.2 hv,aa,Bool.and_true];cases qJ w.1 w.2.2.1[k]<;>rfl
  ·rw[D0.2 hv,cj.2 hv,af,ahX];cases qJ w.1 w.2.2.1[k]<;>rfl
 ·rw[GJ,aH,aa,abu,aAL h]
theorem tF {w:an}(h:F1 w):dx F0 w=some (mf w,()):=by rw[akV,gv,ai,abJ (cN h.l (by omega)),ai,ajb,ai,aEg h];unfold mf;cases bO w.1<;>cases nB w.1.1 w.2.1<;>cases decide ((w.2.1.length:Int)>FZ w.1)<;>cases ((w.2.2.1.length:Int) != w.1.1)<;>cases decide ((w.2.2.2.1.length:Int)>60)<;>cases decide ((w.2.2.2.2.length:Int)>300)<;>rfl
structure aRR (r:aD):Prop where
 i1:I64 r.1
 i2:I64 r.2.1
 i3:I64 r.2.2.2.1.1
 i4:I64 r.2.2.2.1.2.1
 i5:I64 r.2.2.2.1.2.2.1.1
 d:r.2.2.2.1.2.2.2.size<=1048576
 p:r.2.2.2.2.1.length<=1048576
 t:r.2.2.2.2.2.1.length<=1048576
 h:r.2.2.2.2.2.2.2.length<=1048576
def uO (l:List Int):Nat->List Int
 |0=>[]
 |k+1=>uO l k++if (k:Int)∈l then [] else [(k:Int)]
theorem Le (l:List Int):∀k,(uO l k).length<=k
 |0=>cp _
 |k+1=>by
  have:=Le l k;unfold uO;split
  ·rw[ie];omega
  ·rw[aT,ew];omega
theorem ahs (l:List Int):∀k,∀x∈uO l k,0<=x/\x<k
 |0,x,h=>by cases h
 |k+1,x,h=>by
  unfold uO at h;rcases lX.1 h with h1|h1
  ·have:=ahs l k x h1;omega
  ·split at h1
   ·cases h1
   ·rw[ml.1 h1];omega
def cM (w:an):List Int:=uO w.2.1 w.2.2.1.length
theorem aji {β:Type}(X:List Int->β)(l xs:List Int)(k:Int):br (!decide (k∈l)) (X (xs++[k])) (X xs)=X (xs++if k∈l then [] else [k]):=by
 by_cases h:k∈l
 ·rw[aM h,ak h,ie];rfl
 ·rw[aQ h,ah h];rfl
theorem apx {w:an}(h:F1 w):ED F0 w=some (cM w,()):=by
 have hr:=h.r;have hl:=h.l;rw[an1];refine df (fun n i (xs:List Int)=>pQ F0 (vL F0) n (kI i w.1.1 w.1.2 w.2.1 w.2.2.1 w.2.2.2.1 w.2.2.2.2 xs)) w.2.2.1.length (fun k xs=>xs=uO w.2.1 k) _ (fun n k xs hk hx=>.inr ⟨uO w.2.1 (k+1),?_,rfl⟩) (fun n xs hx=>?_) _ 0 [] (aX _) rfl (by rw[bT];omega)
 ·have hn:=Le w.2.1 k;rw[<-hx]at hn;rw[J4,aS hk,af,gi (by omega),ai,az (by omega) (by omega) (by rw[ew];omega),ae,ao (by omega)];dsimp only;rw[aji (fun xs=>pQ F0 (vL F0) n (kI ((k+1:Nat):Int) w.1.1 w.1.2 w.2.1 w.2.2.1 w.2.2.2.1 w.2.2.2.2 xs)),hx];rfl
 ·rw[J4,aH,aa,adD,hx];rfl
theorem E5 {w:an}(h:F1 w):nU F0 w=some (cM w,()):=by
 have hr:=h.r;have hl:=h.l;rw[aoA];refine df (fun n i (xs:List Int)=>pS F0 (wa F0) n (kL (w.2.2.1.length:Int) i w.1.1 w.1.2 w.2.1 w.2.2.1 w.2.2.2.1 w.2.2.2.2 xs)) w.2.2.1.length (fun k xs=>xs=uO w.2.1 k) _ (fun n k xs hk hx=>.inr ⟨uO w.2.1 (k+1),?_,rfl⟩) (fun n xs hx=>?_) _ 0 [] (aX _) rfl (by rw[bT];omega)
 ·have hn:=Le w.2.1 k;rw[<-hx]at hn;rw[Kr,aS hk,af,fH (by omega),ai,az (by omega) (by omega) (by rw[ew];omega),ae,ao (by omega)];dsimp only;rw[aji (fun xs=>pS F0 (wa F0) n (kL (w.2.2.1.length:Int) ((k+1:Nat):Int) w.1.1 w.1.2 w.2.1 w.2.2.1 w.2.2.2.1 w.2.2.2.2 xs)),hx];rfl
 ·rw[Kr,aH,aa,adZ,hx];rfl
theorem aht {w:an}{k:Nat}(hk:k<(cM w).length):∃j:Nat,(cM w)[k]=(j:Int)/\j<w.2.2.1.length:=by have:=ahs w.2.1 w.2.2.1.length _ (di hk);exact⟨(cM w)[k].toNat,by show _=(((cM w)[k]).toNat:Int);have h0:0<=(cM w)[k]:=this.1;omega,by have h0:0<=(cM w)[k]:=this.1;have h1:(cM w)[k]<w.2.2.1.length:=this.2;omega⟩
def aAM (s t:ByteArray):Bool:=cq s.data.toList&&(cq t.data.toList&&(decide ((s.size:Int)>=(t.size:Int))&&(((s.extract 0 t.size).toList==t.toList)&&(((s.size:Int)==(t.size:Int)) || (lL s (t.size:Int)==47)))))
theorem ayb {s t:ByteArray}(hs:s.size<=1048576)(ht:t.size<=1048576):HG F0 s t=some (aAM s t,()):=by
 rw[akl,I1 hs,ai,I1 ht,ai];unfold aAM;dsimp only;cases cq s.data.toList<;>cases cq t.data.toList<;>try rfl
 rw[aL,aa,aa,ji,ji];by_cases hz:t.size<=s.size
 ·rw[aQ (show ¬(t.size:Int)>(s.size:Int) by omega),aa,aM (show(s.size:Int)>=(t.size:Int) by omega),ji,aGG hz,ae,mm,show(0:Int).toNat=0 from rfl];cases ((s.extract 0 t.size).toList==t.toList)<;>try rfl
  rw[aL,aa,ji];by_cases he:(s.size:Int)=(t.size:Int)
  ·rw[show((s.size:Int)==(t.size:Int))=true from bC.2 he];rfl
  ·rw[cj.2 he,aa,av (by omega),ae];rfl
 ·rw[aM (show(t.size:Int)>(s.size:Int) by omega),af,aQ (show ¬(s.size:Int)>=(t.size:Int) by omega)];rfl
theorem avN {s t:ByteArray}(hs:s.size<=1048576)(ht:t.size<=1048576):Ia F0 s t=some (aAM s t,()):=by
 rw[alc,Cj hs,ai,Cj ht,ai,Ws,Oh];unfold aAM;dsimp only;cases cq s.data.toList<;>cases cq t.data.toList<;>try rfl
 rw[af,af,ji,ji];by_cases hz:t.size<=s.size
 ·rw[aM (show(s.size:Int)>=(t.size:Int) by omega),ji,af,aGG hz,ae,mm,show(0:Int).toNat=0 from rfl,ai,ai];dsimp only;cases ((s.extract 0 t.size).toList==t.toList)<;>try rfl
  rw[af,ji];by_cases he:(s.size:Int)=(t.size:Int)
  ·rw[show((s.size:Int)==(t.size:Int))=true from bC.2 he];rfl
  ·rw[cj.2 he,aa,av (by omega),ae];rfl
 ·rw[aQ (show ¬(s.size:Int)>=(t.size:Int) by omega)];rfl
def aOM (a b:dp):Bool:=(a.1==b.1)&& !(a.2.1.toList==b.2.1.toList)
def okC (l:List dp)(i k:Nat):Bool:= !aOM (l.getD i cQ) (l.getD k cQ)
def tG:ct:=(0,0,cQ,al)
theorem aEh:nD tG:=⟨ed,aX _⟩
theorem ayc {b:List Int}{s:QL}(h:(dM b s).2.2=true):s.2=true:=by
 unfold dM at h;split at h
 ·split at h
  ·assumption
  ·cases h
 ·cases h
def RS (b:List Int):ct×QL :=
 (((jn b).1,(aW b (jn b).2).1,(xS b (aW b (jn b).2).2).1,(dM b (xS b (aW b (jn b).2).2).2).1),(dM b (xS b (aW b (jn b).2).2).2).2)
def rR (c:Int×Int)(b:List Int):ct×Bool:=if (RS b).2.2=true/\((RS b).2.1:Int)=(b.length:Int)/\cW c (RS b).1=true then ((RS b).1,true) else (tG,false)
theorem apy {b:List Int}(hb:eH b)(h:(RS b).2.2=true):nD (RS b).1:=by have h0:(jn b).2.1<=b.length:=(eI hb (s:=(0,true)) (aX _)).1;have h1:=(eI hb h0).1;have q:=RR hb h1;have x:=xK hb q.1;have ht:(dM b (xS b (aW b (jn b).2).2).2).2.2=true->(xS b (aW b (jn b).2).2).2.2=true:=ayc;unfold RS at h ⊢;generalize dM b (xS b (aW b (jn b).2).2).2=r3 at h x ht ⊢;generalize xS b (aW b (jn b).2).2=r2 at q ht ⊢;generalize aW b (jn b).2=r1;generalize jn b=r0;exact⟨q.2 (ht h),x.2⟩
theorem aGJ {b:List Int}(hb:eH b)(c:Int×Int):nD (rR c b).1:=by
 unfold rR;split
 ·rename_i h;exact apy hb h.1
 ·exact aEh
theorem azG {c:Int×Int}{b:List Int}{m:ct}{s:QL}{f:ct->Option (Bool×Unit)}(h:s.2=true->f m=some (cW c m,())) :
  br (!s.2) (some (tG,false,())) (br ((s.1:Int) != (b.length:Int)) (some (tG,false,())) ((f m).bind fun r87=>br (!r87.1) (some (tG,false,())) (some (m,true,())))) =
   some ((if s.2=true/\(s.1:Int)=(b.length:Int)/\cW c m=true then ((m,true):ct×Bool) else (tG,false)).1,(if s.2=true/\(s.1:Int)=(b.length:Int)/\cW c m=true then ((m,true):ct×Bool) else (tG,false)).2,()):=by
 cases hs:s.2 with
 |false =>
  rw[ah (fun h=>by cases h.1)];rfl
 |true =>
  rw[aL,aa,h hs,ai];by_cases hl:(s.1:Int)=(b.length:Int)
  ·rw[show((s.1:Int) != (b.length:Int))=false from Sa.2 hl,aa];cases hm:cW c m with
   |false =>
    rw[ah (fun h=>by cases h.2.2)];rfl
   |true =>
    rw[ak ⟨rfl,hl,rfl⟩];rfl
  ·rw[D0.2 hl,af,ah (fun h=>hl h.2.1)]
theorem aAN {b:List Int}(hb:eH b)(c:Int×Int):MA F0 c b=some ((rR c b).1,(rR c b).2,()):=by have e0:dt F0 (b,0,true)=some (((jn b).1,()),cell b (jn b).2,()):=tD hb (s:=(0,true)) (aX _);have h0:(jn b).2.1<=b.length:=(eI hb (s:=(0,true)) (aX _)).1;have h1:=(eI hb h0).1;have q:=RR hb h1;have hl:=apy hb;rw[an8,e0,ai,tD hb h0,ai,aAF hb h1,ai,aeM hb q.1,ai];unfold rR;unfold RS at hl ⊢;generalize dM b (xS b (aW b (jn b).2).2).2=r3 at hl ⊢;generalize xS b (aW b (jn b).2).2=r2 at hl ⊢;generalize aW b (jn b).2=r1 at hl ⊢;generalize jn b=r0 at hl ⊢;exact azG (c:=c) (b:=b) (m:=(r0.1,r1.1,r2.1,r3.1)) (s:=r3.2) (f:=fun m=>jG F0 c m) fun h=>Ck (hl h) c
theorem ayd {b:List Int}(hb:eH b)(c:Int×Int):Nu F0 c b=some ((rR c b).1,(rR c b).2,()):=by have e0:bR F0 (b,0,false)=some (((jn b).1,()),W4 b (jn b).2,()):=nE hb (s:=(0,true)) (aX _);have h0:(jn b).2.1<=b.length:=(eI hb (s:=(0,true)) (aX _)).1;have h1:=(eI hb h0).1;have q:=RR hb h1;have hl:=apy hb;rw[ao2,e0,ai,nE hb h0,ai,avM hb h1,ai,XT hb q.1,ai];unfold rR;unfold RS at hl ⊢;generalize dM b (xS b (aW b (jn b).2).2).2=r3 at hl ⊢;generalize xS b (aW b (jn b).2).2=r2 at hl ⊢;generalize aW b (jn b).2=r1 at hl ⊢;generalize jn b=r0 at hl ⊢;exact azG (c:=c) (b:=b) (m:=(r0.1,r1.1,r2.1,r3.1)) (s:=r3.2) (f:=fun m=>ll F0 c m) fun h=>E4 (hl h) c
def abQ (b:List Int)(i j:Nat):List Int:=(b.take j).drop i
theorem aeP {b:List Int}(hb:eH b)(i j:Nat):eH (abQ b i j):=by have hl:=hb.1;refine⟨?_,fun x hx=>hb.2 x (al1 (azv hx))⟩;unfold abQ;rw[bz,bQ];omega
theorem aEi {b:List Int}(hb:eH b):bytesOf (strOf b)=b:=by unfold bytesOf strOf;simp only[List.map_map];refine(List.map_congr_left fun x hx=>?_).trans (List.map_id b);have:=hb.2 x hx;simp only[Function.comp,id,UInt8.toNat_ofNat'];omega
def W6 (c:Int×Int)(b:List Int)(a:Nat):Option (ct×Nat):=match tY b a with
 |none=>none
 |some (v,a')=>if v>=(b.length:Int)-a' then none else if b.getD (a'+v.toNat) 0≠10 then none else if (rR c (abQ b a' (a'+v.toNat))).2=true then some ((rR c (abQ b a' (a'+v.toNat))).1,a'+v.toNat+1) else none
def Lf (c:Int×Int)(b:List Int):Nat->ct->Nat->ct×Nat
 |0,s,a=>(s,a)
 |f+1,s,a=>match W6 c b a with
  |none=>(s,a)
  |some (s',a')=>Lf c b f s' a'
def nF (c:Int×Int)(b:List Int):ct×Nat:=Lf c b (b.length+1) tG 0
theorem RT {c:Int×Int}{b:List Int}{a:Nat}{v:Int}{a':Nat}(h:tY b a=some (v,a')):W6 c b a =
  if v>=(b.length:Int)-a' then none else if b.getD (a'+v.toNat) 0≠10 then none else if (rR c (abQ b a' (a'+v.toNat))).2=true then some ((rR c (abQ b a' (a'+v.toNat))).1,a'+v.toNat+1) else none:=by
 unfold W6;rw[h]
theorem RU {c:Int×Int}{b:List Int}{a:Nat}(h:tY b a=none):W6 c b a=none:=by unfold W6;rw[h]
theorem lV {c:Int×Int}{b:List Int}{f:Nat}{s:ct}{a:Nat}(h:W6 c b a=none):Lf c b (f+1) s a=(s,a):=by unfold Lf;rw[h]
theorem RV {c:Int×Int}{b:List Int}{f:Nat}{s s':ct}{a a':Nat}(h:W6 c b a=some (s',a')):Lf c b (f+1) s a=Lf c b f s' a':=by rw[Lf,h]
theorem aGK {c:Int×Int}{b:List Int}(hb:eH b){a:Nat}(ha:a<=b.length){s:ct}{a':Nat}(h:W6 c b a=some (s,a')):a<a'/\a'<=b.length/\nD s:=by
 cases hg:tY b a with
 |none=>rw[RU hg]at h;cases h
 |some r =>
  obtain⟨v,a0⟩:=r;have h0:=XS hb ha hg;have hs:=aGJ (aeP hb a0 (a0+v.toNat)) c;rw[RT hg]at h;generalize rR c (abQ b a0 (a0+v.toNat))=r at h hs;split at h
  ·cases h
  ·rename_i hv;split at h
   ·cases h
   ·split at h
    ·cases h;exact⟨by omega,by omega,hs⟩
    ·cases h
theorem as9 (c:Int×Int){b:List Int}(hb:eH b)(t4 t41 t42:Int)(t43 t44:ByteArray)(xs:List Int):∀(f:Nat) (s:ct) (a n:Nat),a<=b.length->b.length+1<=a+f->f<n ->
  vO F0 (zy F0) n (qo b (a:Int) c.1 c.2 t4 t41 t42 t43 t44 s.1 s.2.1 s.2.2.1.1 s.2.2.1.2.1 s.2.2.2 xs s.2.2.1.2.2)=some ((Lf c b f s a).1,((Lf c b f s a).2:Int),())
 |0,s,a,n,ha,hf,hn=>by omega
 |f+1,s,a,n,ha,hf,hn=>by
  obtain⟨n,rfl⟩:∃m,n=m+1:=⟨n-1,by omega⟩;have hl:=hb.1;cases hg:tY b a with
  |none =>
   have law:kZ F0 b (a:Int)=some (0,0,false,()):=by rw[aeL hb ha,hg];rfl
   rw[EE,law,ai,Ka,lV (RU hg)];rfl
  |some r =>
   obtain⟨v,a'⟩:=r;have h0:=XS hb ha hg;have law:kZ F0 b (a:Int)=some (v,(a':Int),true,()):=by rw[aeL hb ha,hg];rfl
   have Ye:=RT (c:=c) hg;rw[EE,law,ai,Ka];dsimp only;rw[aL,aa,aI (n:=(b.length:Int)-a') (by omega) (by omega),show aj ((a':Int)+v)=((a'+v.toNat:Nat):Int) by rw[aI (by omega) (by omega)];omega];by_cases hv:v>=(b.length:Int)-a'
   ·rw[ak hv]at Ye;rw[aM hv,af,lV Ye]
   ·have hi:a'+v.toNat<b.length:=by omega
    rw[ah hv]at Ye;rw[aQ hv,aa,av hi,ae,lM];by_cases Sf:b.getD (a'+v.toNat) 0=10
    ·rw[ah (fun h=>h Sf)]at Ye;rw[show(b.getD (a'+v.toNat) 0 != 10)=false from Sa.2 Sf,aa,XP (by omega) (by omega),ae,show((c.1,c.2):Int×Int)=c from rfl,mm,mm,
      show((b.take (a'+v.toNat)).drop a')=abQ b a' (a'+v.toNat) from rfl,aAN (aeP hb _ _),ai]
     dsimp only;generalize rR c (abQ b a' (a'+v.toNat))=r at Ye ⊢;cases hs:r.2 with
     |false =>
      rw[hs,ah (by decide)]at Ye;rw[eX,af,lV Ye]
     |true =>
      rw[hs,ak rfl]at Ye;rw[aL,aa,ao (by omega),RV Ye];exact as9 c hb t4 t41 t42 t43 t44 xs f r.1 (a'+v.toNat+1) n (by omega) (by omega) (by omega)
    ·rw[ak Sf]at Ye;rw[D0.2 Sf,af,lV Ye]
theorem avO {b:List Int}(hb:eH b)(c:Int×Int):Dh F0 c b=some ((nF c b).1,((nF c b).2:Int),()):=by have hl:=hb.1;rw[agr,akI,ai];exact as9 c hb 0 0 0 _ _ [] (b.length+1) tG 0 _ (aX _) (by omega) (by rw[bT];omega)
theorem aEj {b:List Int}{a:Nat}{v:Int}{a':Nat}(h:tY b a=some (v,a')):abL b a=if v>(b.length:Int)-a' then none else some (strOf (abQ b a' (a'+v.toNat)),a'+v.toNat):=by unfold abL;rw[h];rfl
theorem aEk {b:List Int}{a:Nat}(h:tY b a=none):abL b a=none:=by unfold abL;rw[h]
theorem apz (c:Int×Int){b:List Int}(hb:eH b)(t4 t41 t42:Int)(t43 t44:ByteArray)(xs:List Int):∀(f:Nat) (s:ct) (a n:Nat),a<=b.length->b.length+1<=a+f->f<n ->
  pA F0 (qH F0) n (lF b (a:Int) c.1 c.2 t4 t41 t42 t43 t44 s.1 s.2.1 s.2.2.1.1 s.2.2.1.2.1 s.2.2.2 xs s.2.2.1.2.2)=some ((Lf c b f s a).1,((Lf c b f s a).2:Int),())
 |0,s,a,n,ha,hf,hn=>by omega
 |f+1,s,a,n,ha,hf,hn=>by
  obtain⟨n,rfl⟩:∃m,n=m+1:=⟨n-1,by omega⟩;have hl:=hb.1;have bad:oz F0 b (a:Int)=some (al,0,false,())->W6 c b a=none->pA F0 (qH F0) (n+1) (lF b (a:Int) c.1 c.2 t4 t41 t42 t43 t44 s.1 s.2.1 s.2.2.1.1 s.2.2.1.2.1 s.2.2.2 xs s.2.2.1.2.2)=some ((Lf c b (f+1) s a).1,((Lf c b (f+1) s a).2:Int),()):=by intro law Ye;rw[E0,law,ai,KN,lV Ye];rfl
  cases hg:tY b a with
  |none=>exact bad (by rw[IA hb ha,aEk hg];rfl) (RU hg)
  |some r =>
   obtain⟨v,a'⟩:=r;have h0:=XS hb ha hg;have Ye:=RT (c:=c) hg;have hT:=aEj hg;by_cases hv0:v>(b.length:Int)-a'
   ·rw[ak hv0]at hT;rw[ak (show v>=(b.length:Int)-a' by omega)]at Ye;exact bad (by rw[IA hb ha,hT];rfl) Ye
   ·rw[ah hv0]at hT;have law:oz F0 b (a:Int)=some (strOf (abQ b a' (a'+v.toNat)),((a'+v.toNat:Nat):Int),true,()):=by rw[IA hb ha,hT];rfl
    rw[E0,law,ai,KN];dsimp only;rw[aL,aa];by_cases hv:v>=(b.length:Int)-a'
    ·rw[ak hv]at Ye;rw[aM (show((a'+v.toNat:Nat):Int)>=(b.length:Int) by omega),af,lV Ye]
    ·have hi:a'+v.toNat<b.length:=by omega
     rw[ah hv]at Ye;rw[aQ (show ¬((a'+v.toNat:Nat):Int)>=(b.length:Int) by omega),aa,av hi,ae,lM];by_cases Sf:b.getD (a'+v.toNat) 0=10
     ·have hsz:((strOf (abQ b a' (a'+v.toNat))).size:Int)<=1048576:=by have:=(aeP hb a' (a'+v.toNat)).1;show((((abQ b a' (a'+v.toNat)).map fun n=>UInt8.ofNat n.toNat).toArray.size:Nat):Int)<=1048576;rw[List.size_toArray,ug];omega
      rw[ah (fun h=>h Sf)]at Ye;rw[show(b.getD (a'+v.toNat) 0 != 10)=false from Sa.2 Sf,aa,show((c.1,c.2):Int×Int)=c from rfl,aM (show((strOf (abQ b a' (a'+v.toNat))).size:Int)<=F0.mem by rw[aF6];omega),ae,aEi (aeP hb _ _),ayd (aeP hb _ _),ai];dsimp only;generalize rR c (abQ b a' (a'+v.toNat))=r at Ye ⊢;cases hs:r.2 with
      |false =>
       rw[hs,ah (by decide)]at Ye;rw[eX,af,lV Ye]
      |true =>
       rw[hs,ak rfl]at Ye;rw[aL,aa,ao (by omega),RV Ye];exact apz c hb t4 t41 t42 t43 t44 xs f r.1 (a'+v.toNat+1) n (by omega) (by omega) (by omega)
     ·rw[ak Sf]at Ye;rw[D0.2 Sf,af,lV Ye]
theorem arI {b:List Int}(hb:eH b)(c:Int×Int):DU F0 c b=some ((nF c b).1,((nF c b).2:Int),()):=by have hl:=hb.1;rw[ahb,alu,ai];exact apz c hb 0 0 0 _ _ [] (b.length+1) tG 0 _ (aX _) (by omega) (by rw[bT];omega)
def nG (a b:ct):Bool:=(a.1==b.1)&&((a.2.1==b.2.1)&&(jh a.2.2.1 b.2.2.1&&(a.2.2.2.toList==b.2.2.2.toList)))
theorem avP {a b:ct}(ha:nD a)(hb:nD b):CZ F0 a b=some (nG a b,()):=by rw[af7,ahp ha.1 hb.1,ai];unfold nG;cases (a.1==b.1)<;>cases (a.2.1==b.2.1)<;>cases jh a.2.2.1 b.2.2.1<;>rfl
theorem arJ {a b:ct}(ha:nD a):DE F0 a b=some (nG a b,()):=by rw[agP,La ha.1,ai];unfold nG;cases (a.1==b.1)<;>cases (a.2.1==b.2.1)<;>cases jh a.2.2.1 b.2.2.1<;>rfl
def rp (w:an)(i:Nat):aD:=w.2.2.1.getD ((cM w).getD i 0).toNat ajh
theorem aJF {w:an}{i j:Nat}(hi:i<(cM w).length)(e:(cM w)[i]=(j:Int))(hj:j<w.2.2.1.length):rp w i=w.2.2.1[j]:=by unfold rp;rw[bc hi,e,mm,bc hj]
end Go.Am.Tryz
