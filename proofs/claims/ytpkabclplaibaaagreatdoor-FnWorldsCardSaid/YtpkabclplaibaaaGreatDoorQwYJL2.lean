/- No condition. -/
import Derived.Test.YtpkabclplaibaaaGreatDoorQwYJL1
import Derived.Test.YtpkabclplaibaaaGreatDoorQwAmWf
set_option linter.all false
namespace Go.Am.Tryz
open Go.Am
def auh (a b:List Int):List Int:=b.foldl Tl (a.foldl Tl [])
def q0:∀(l a:List Int),(l.foldl Tl a).length<=a.length+l.length
 |[],a=>by simp
 |x::l,a=>by have b:=q0 l (Tl a x);have c:=V2 a x;rw[List.foldl_cons,a1];omega
def aAf (a b:List Int):(auh a b).length<=a.length+b.length:=by unfold auh;have d:=q0 b (a.foldl Tl []);have c:=q0 a [];rw[bJ]at c;omega
def apW {γ:Type}(X:Nat->Int->List Int->Option γ)(l a:List Int)(R:Option γ)(f:a.length+l.length<=1048576)(c:∀n k xs (h:k<l.length),xs.length<=1048575->X (n+1) (k:Int) xs=X n ((k+1:Nat):Int) (Tl xs l[k]))
  (d:∀n,X (n+1) (l.length:Int) (l.foldl Tl a)=R) (n:Nat) (e:l.length<n):X n 0 a=R:=by
 refine cx X l.length (fun k xs=>xs=(l.take k).foldl Tl a) R (fun n k xs b h=>.inr ⟨Tl xs l[k],c n k xs b ?_,?_⟩) (fun n xs h=>?_) n 0 a (a7 _) rfl (by omega)
 .have:=q0 (l.take k) a;rw[h];rw[bQ]at this;omega
 .rw[ef b,List.foldl_append,<-h];rfl
 .rw[l3]at h;rw[h];exact d n
def aui {a b:List Int}(h:a.length+b.length<=1048576):H5 F0 a b=some (auh a b,()):=by
 rw[ah3];have d:=q0 a [];rw[bJ]at d;refine apW (fun n i xs=>yG F0 (Ck F0) n (rG a b i xs)) a [] _ (by rw[bJ];omega) (fun n k xs c e=>?_) (fun n=>?_) _ (by rw[bg];omega)
 .rw[GI,aO c,ae,ao c,ab,aY c,KY (by omega),an,ah (by omega)]
 .rw[GI,aA,aa,Z7];refine apW (fun n i xs=>yF F0 (Cj F0) n (rF b i xs)) b (a.foldl Tl []) _ (by omega) (fun n k xs c e=>?_) (fun n=>?_) _ (by rw[bg];omega)
  .rw[GH,aO c,ae,ao c,ab,aY c,KY (by omega),an,ah (by omega)]
  .rw[GH,aA,aa,Z6];rfl
def pn {i n:Int}(a:0<=i)(h:i<n):bG i n=true:=by simp[bG];omega
def aAg {c:Int×Int}{view s:Int}(b:a8 c=true)(d:0<=view)(e:0<=s)(h:s<=c.1-1):cP c view (afE c view s)=s:=by
 have i:=bZ b;have f:=agf (view%c.1+s) (show c.1≠0 by omega);have j:=ajt (view%c.1+s) (show 0<c.1 by omega);unfold afE;rw[ak ⟨b,d,e,h⟩];unfold cP;rw[ak ⟨b,d,f,by omega⟩];obtain⟨n,a⟩:=c;dsimp only at *;have g:n=4\/n=5\/n=6\/n=7:=by omega
 rcases g with rfl|rfl|rfl|rfl<;>omega
def aCl (c:Int×Int)(view:Int):cP c view (-1)=-1:=by unfold cP;rw[ag (fun h=>by omega)]
def asn {c:Int×Int}{view i:Int}(h:0<=cP c view i):a8 c=true/\0<=view/\cP c view i<=c.1-1:=by
 unfold cP at h ⊢;by_cases a:a8 c=true/\0<=view/\0<=i/\i<=c.1-1
 .rw[ak a];have b:=bZ a.1;have d:=ajt (i+c.1-view%c.1) (show 0<c.1 by omega);exact⟨a.1,a.2.1,by omega⟩
 .rw[ag a]at h;omega
def aEd {c:Int×Int}{view i:Int}(h:0<=cP c view i):cP c view (afF c view i)<cP c view i:=by
 have a:=asn h;have d:=bZ a.1;unfold afF;by_cases b:cP c view i<=0
 .rw[ak b,aCl];omega
 .have hd1:0<=(cP c view i-1)/c.2:=Int.ediv_nonneg (by omega) (by omega);have e:(cP c view i-1)/c.2<=cP c view i-1:=Int.ediv_le_self c.2 (by omega);rw[ag b,aAg a.1 a.2.1 hd1 (by omega)];omega
def QY (c:Int×Int)(view:Int):Nat->Int->List Int
 |0,_=>[]|k+1,i=>if 0<=cP c view i then i::QY c view k (afF c view i) else []
def apX (c:Int×Int)(view i:Int):List Int:=QY c view 8 i
def agY (c:Int×Int)(view:Int):∀(k:Nat) (i:Int),(QY c view k i).length<=k
 |0,_=>bh _|k+1,i=>by
  unfold QY;split
  .have:=agY c view k (afF c view i);rw[a1];omega
  .exact a7 _
def aAh (c:Int×Int)(view i:Int):(apX c view i).length<=8:=agY c view 8 i
def auj (c:Int×Int)(view:Int){γ:Type}(J:Ex->St->Option γ):∀(k:Nat) (i:Int) (xs:List Int) (n:Nat),cP c view i<k->xs.length+k<=1000->k<n ->
  QE F0 J n (H6 view i c.1 c.2 xs)=J (.exit 0) (NU (xs++QY c view k i))
 |0,i,xs,n,a,b,d=>by obtain⟨n,rfl⟩:∃m,n=m+1:=⟨n-1,by omega⟩;rw[R7,show((c.1,c.2):Int×Int)=c from rfl,V6,an];dsimp only;rw[aV (show ¬cP c view i>=0 by omega),aa,QY,fD]
 |k+1,i,xs,n,a,b,d=>by
  obtain⟨n,rfl⟩:∃m,n=m+1:=⟨n-1,by omega⟩;rw[R7,show((c.1,c.2):Int×Int)=c from rfl,V6,an];unfold QY;dsimp only;by_cases h:0<=cP c view i
  .have e:=aEd h;rw[aS (show cP c view i>=0 from h),ae,ak h,au (by omega) (by omega) (by rw[bU];omega),ab,aCk,an];dsimp only;rw[auj c view J k (afF c view i) (xs++[i]) n (by omega) (by rw[aN,bU];omega) (by omega),ku];rfl
  .rw[aV (show ¬cP c view i>=0 from h),aa,ag h,fD]
def aEe (c:Int×Int)(view i:Int):acg F0 c view i=some (apX c view i,()):=by have a:=apV c view i;rw[atY,auj c view _ 8 i [] _ (by omega) (by rw[bJ];omega) (by rw[bg];omega),ale,s4];rfl
def cmn (b a:List Int):Nat:=a.countP fun x=>decide (x∈b)
def aCm (b a:List Int)(x:Int):cmn b (a++[x])=cmn b a+if x∈b then 1 else 0:=by
 unfold cmn;rw[List.countP_append,List.countP_singleton];by_cases h:x∈b
 .simp[h]
 .simp[h]
def aFW (b a:List Int):cmn b a<=a.length:=av7
def awW {a b:List Int}(f:a.length<=1048576)(g:b.length<=1048576):Mg F0 a b=some ((cmn b a:Int),()):=by
 rw[alf];refine cx (fun n i (q:Int)=>Dz F0 (FX F0) n (uJ a b q i)) a.length (fun k q=>q=(cmn b (a.take k):Int)) _ (fun n k q c d=>.inr ⟨(cmn b (a.take (k+1)):Int),?_,rfl⟩) (fun n q d=>?_) _ 0 0 (a7 _) rfl (by rw[bg];omega)
 .have e:=aFW b (a.take k);rw[bQ]at e;rw[J5,aO c,ae,ao c,ab,aY c,ep (by omega),an,ef c,aCm,d,ah (by omega)];dsimp only;rw[aoe];by_cases h:a[k]∈b
  .rw[aS h,ae,an,ak h];dsimp only;rw[ah (by omega)]
  .rw[aV h,aa,an,ag h];dsimp only;rw[aG (by omega) (by omega),Int.add_zero];rfl
 .rw[J5,aA,aa,aci,d,l3]
def Srt (l:List Int):Prop:=l.Pairwise (·< ·)
def auk {i x:Int}:∀{l:List Int},x∈ai3 i l↔x=i\/x∈l
 |[]=>by simp[ai3]
 |y::l=>by
  unfold ai3;split
  .rw[cK]
  .rw[cK,auk,cK];constructor
   .rintro(h|h|h)
    .exact .inr (.inl h)
    .exact .inl h
    .exact .inr (.inr h)
   .rintro(h|h|h)
    .exact .inr (.inl h)
    .exact .inl h
    .exact .inr (.inr h)
def aul {i x:Int}{l:List Int}:x∈Tl l i↔x=i\/x∈l:=by
 unfold Tl;split
 .rename_i h;exact⟨.inr,fun a=>a.elim (fun e=>e▸h) id⟩
 .exact auk
structure aH6 (c:Int×Int) (view:Int) (dJ:List Int) (k:Nat) (xs:List (List Int)):Prop where
 len:(xs.length:Int)=c.1
 srt:∀i,0<=i->i<c.1->Srt (aL xs i [])
 mem:∀i x,0<=i->i<c.1->x∈aL xs i []->x∈dJ/\0<=x/\x<c.1
 up:∀x,x∈dJ->0<=x->x<c.1->(k:Int)<=cP c view x->∃a:Int,0<=a/\a<max k 1/\x∈aL xs (afE c view a) []
abbrev bm:=Int×Int×b3×ByteArray
abbrev cN:=ByteArray×b3
abbrev ch:=Int×Int×cN×b3×b3×Int×dK
abbrev fm:=Int×ch
abbrev aB:=Int×Int×Int×bm×List dK×List b3×(List Int×Int)×List fm
abbrev gF:=Int×List Int
abbrev cB:=Int×ByteArray×Int
abbrev ai:=(Int×Int)×List Int×List aB×List gF×List cB
def Zl {b:ByteArray}(h:b.size<=1048576):b.data.toList.length<=1073741824:=aU (ajF (show b.data.toList.length=b.size from rfl)) (by omega)
def I8 {b:ByteArray}(h:b.size<=1048576):ey F0 b=some (bc b.data.toList,()):=QU (Zl h)
def CK {b:ByteArray}(h:b.size<=1048576):e7 F0 b=some (bc b.data.toList,()):=V4 (Zl h)
def gG {b:ByteArray}(h:b.size<=1048576):cr F0 b=some (aH b.data.toList,()):=amt (Zl h)
def amu {b:ByteArray}(h:b.size<=1048576):pY F0 b=some (aH b.data.toList,()):=agV (Zl h)
def wP (q:b3):Prop:=q.2.1.size<=1048576/\q.2.2.length<=1048576
def eI (c:Int×Int)(q:b3):Bool:=ai4 c (q.1,q.2.1.data.toList,q.2.2)
def QZ {q:b3}(h:wP q)(c:Int×Int):jw F0 c q=some (eI c q,()):=aue (v:=q.1) (l:=q.2.1.data.toList) (s:=q.2.2) (Zl h.1) (aU h.2 (by omega)) c
def adm {q:b3}(h:wP q)(c:Int×Int):wD F0 c q=some (eI c q,()):=aAe (v:=q.1) (l:=q.2.1.data.toList) (s:=q.2.2) (Zl h.1) (aU h.2 (by omega)) c
def bP (c:Int×Int)(s:bm):Bool:=fT 0 60 s.1&&(fT 0 60 s.2.1&&(eI c s.2.2.1&&bc s.2.2.2.data.toList))
def nV (s:bm):Prop:=wP s.2.2.1/\s.2.2.2.size<=1048576
def CL {s:bm}(h:nV s)(c:Int×Int):hS F0 c s=some (bP c s,()):=by rw[akN,cy,an,cy,an,QZ h.1,an,I8 h.2,an];unfold bP;cases fT 0 60 s.1<;>cases fT 0 60 s.2.1<;>cases eI c s.2.2.1<;>rfl
def agZ {s:bm}(h:nV s)(c:Int×Int):wE F0 c s=some (bP c s,()):=by rw[alX,cG,an,cG,an,adm h.1,an,CK h.2,an];unfold bP;cases fT 0 60 s.1<;>cases fT 0 60 s.2.1<;>cases eI c s.2.2.1<;>rfl
def aR {U:Type}{a:List U}{k:Nat}(h:k<a.length)(d:U):a.getD k d=a[k]:=by simp[List.getD,h]
def V7 {U:Type}(d:U)(p:U->Bool)(q:U->U->Bool)(l:List U):Bool:=(List.range l.length).all fun k=>p (l.getD k d)&&(decide (k=0) || q (l.getD (k-1) d) (l.getD k d))
def adn {V:Type}{k:Nat}(a b:Bool)(x y:V)(c:V)(d:0<k->c=br (!b) x y) :
  br (!a) x (br (decide ((k:Int)>0)) c y)=if (a&&(decide (k=0) || b))=true then y else x:=by
 cases a with
 |false=>rfl
 |true =>
  rw[aX,aa,fF];by_cases h:k=0
  .subst h;rfl
  .rw[aS (show(k:Int)>0 by omega),ae,aV h,wR,d (by omega)];cases b<;>rfl
def nW:dK:=(0,0,0,0)
def tC (a b:dK):Bool:=decide (a.1<b.1) || ((a.1==b.1)&&decide (a.2.2.2<b.2.2.2))
def ado (a b:dK):ta F0 a b=some (tC a b,()):=by rw[aen];unfold tC;cases decide (a.1<b.1)<;>cases (a.1==b.1)<;>rfl
def aso (a b:dK):DO F0 a b=some (tC a b,()):=by rw[aeS];unfold tC;cases decide (a.1<b.1)<;>cases (a.1==b.1)<;>rfl
def nn (p:List dK):Bool:=V7 nW fS tC p&&decide ((p.length:Int)<=12)
def amv {p:List dK}(h:p.length<=1048576):EH F0 p=some (nn p,()):=by
 rw[akO,eU (fun m k=>tc F0 (uc F0) m (nE p k)) p.length (fun k=>fS (p.getD k nW)&&(decide (k=0) || tC (p.getD (k-1) nW) (p.getD k nW))) (some (decide ((p.length:Int)<=12),())) (some (false,())) (fun m k a=>?_) (fun m=>?_) _ (by rw[bg];omega)]
 .unfold nn V7;cases (List.range p.length).all _<;>rfl
 .rw[JJ,aO a,ae,ao a,ab,aY a,P3,an,aR a,aeo,ah (by omega),ab];refine adn _ (tC (p.getD (k-1) nW) p[k]) _ _ _ fun b=>?_
  rw[KZ b (by omega),ao (show k-1<p.length by omega),ab,aY (show k-1<p.length by omega),ado,an,aR (show k-1<p.length by omega)]
 .rw[JJ,aA,aa,abT]
def aum {p:List dK}(h:p.length<=1048576):MJ F0 p=some (nn p,()):=by
 rw[alY,eU (fun m k=>tt F0 (u0 F0) m (nP p p (p.length:Int) k)) p.length (fun k=>fS (p.getD k nW)&&(decide (k=0) || tC (p.getD (k-1) nW) (p.getD k nW))) (some (decide ((p.length:Int)<=12),())) (some (false,())) (fun m k a=>?_) (fun m=>?_) _ (by rw[bg];omega)]
 .unfold nn V7;cases (List.range p.length).all _<;>rfl
 .rw[Ko,aO a,ae,ao a,ab,aY a,P4,an,aR a,aeU,ah (by omega)];refine adn _ (tC (p.getD (k-1) nW) p[k]) _ _ _ fun b=>?_
  rw[KZ b (by omega),ao (show k-1<p.length by omega),ab,aY (show k-1<p.length by omega),aso,an,aR (show k-1<p.length by omega)]
 .rw[Ko,aA,aa,acz]
def ec (b:ByteArray):Bool:=b.toList==aj.toList
def iM (c:Int×Int)(p:b3):Bool :=
 a8 c&&(fT 1 60 p.1&&(hY c.1 p.2.2&&(!((p.2.2.length:Int)==0)&&(ec p.2.1 || (bc p.2.1.data.toList&&(aH p.2.1.data.toList==p.1))))))
def Q0 {p:b3}(h:wP p)(c:Int×Int):jR F0 c p=some (iM c p,()):=by rw[akP,eV,an,cy,an,afC (aU h.2 (by omega)),an,I8 h.1,an,gG h.1,an];unfold iM ec;cases a8 c<;>cases fT 1 60 p.1<;>cases hY c.1 p.2.2<;>cases ((p.2.2.length:Int)==0)<;>cases (p.2.1.toList==aj.toList)<;>cases bc p.2.1.data.toList<;>rfl
def aFX (n:Nat):decide ((n:Int)>0)= !((n:Int)==0):=by
 cases n with
 |zero=>rfl
 |succ n =>
  rw[aS (by omega),b0.2 (by omega)];rfl
def ag0 {p:b3}(h:wP p)(c:Int×Int):E3 F0 c p=some (iM c p,()):=by rw[al0,hX,an,cG,an,aaK (aU h.2 (by omega)),an,CK h.1,an,amu h.1,an,aFX];unfold iM ec;dsimp only;generalize (aH p.2.1.data.toList==p.1)=b;cases a8 c<;>cases fT 1 60 p.1<;>cases hY c.1 p.2.2<;>cases ((p.2.2.length:Int)==0)<;>cases (p.2.1.toList==aj.toList)<;>cases bc p.2.1.data.toList<;>cases b<;>rfl
def cd:b3:=(0,aj,[])
def kh (a b:b3):Bool:=decide (a.1<b.1) || ((a.1==b.1)&&Op.bytesLess a.2.1.toList b.2.1.toList)
def Zm (a b:b3):pK F0 a b=some (kh a b,()):=by rw[abU];unfold kh;cases decide (a.1<b.1)<;>cases (a.1==b.1)<;>rfl
def aFY (x y:Int):Int:=if x<y then -1 else if x>y then 1 else 0
def aun (x y:Int):u1 F0 x y=some (aFY x y,()):=by
 rw[aai,Pz,an,Pz,an,Gn,Gn,aa,aa];unfold aFY;by_cases h:x<y
 .rw[aS h,ae,ak h]
 .rw[aV h,aa,ag h];by_cases a:x>y
  .rw[aS a,ae,ak a]
  .rw[aV a,aa,ag a]
def aFZ (x y:ByteArray):Int:=if Op.bytesLess x.toList y.toList=true then -1 else if (x.toList==y.toList)=true then 0 else 1
def asp (x y:ByteArray):mK F0 x y=some (aFZ x y,()):=by rw[Td,GX,an,GX,an,apz,apz,aa,aa];unfold aFZ;cases Op.bytesLess x.toList y.toList<;>cases (x.toList==y.toList)<;>rfl
def afH (a b:b3):∃r,o8 F0 a b=some (r,())/\decide (r>=0)= !kh a b:=by
 rw[Ve,aun,an,asp,an];unfold kh aFY aFZ;dsimp only;by_cases h:a.1<b.1
 .rw[ak h,aS h];exact⟨-1,rfl,rfl⟩
 .rw[ag h,aV h,wR];by_cases c:a.1>b.1
  .rw[ak c,b0.2 (show a.1≠b.1 by omega)];exact⟨1,rfl,rfl⟩
  .rw[ag c,show a.1=b.1 by omega,oD];refine⟨_,rfl,?_⟩;cases Op.bytesLess a.2.1.toList b.2.1.toList<;>cases (a.2.1.toList==b.2.1.toList)<;>rfl
def fi (c:Int×Int)(l:List b3):Bool:=V7 cd (iM c) kh l&&decide ((l.length:Int)<=20)
def ag1 {l:List b3}(h:l.length<=1048576)(b:∀q∈l,wP q)(c:Int×Int):mn F0 c l=some (fi c l,()):=by
 rw[ahA,eU (fun m k=>pL F0 (ru F0) m (k4 l k c.1 c.2)) l.length (fun k=>iM c (l.getD k cd)&&(decide (k=0) || kh (l.getD (k-1) cd) (l.getD k cd))) (some (decide ((l.length:Int)<=20),())) (some (false,())) (fun m k a=>?_) (fun m=>?_) _ (by rw[bg];omega)]
 .unfold fi V7;cases (List.range l.length).all _<;>rfl
 .rw[Gx,aO a,ae,ao a,ab,aY a,show((c.1,c.2):Int×Int)=c from rfl,Q0 (b _ (bT a)),an,aR a,abV,ah (by omega),ab];refine adn _ (kh (l.getD (k-1) cd) l[k]) _ _ _ fun d=>?_
  rw[KZ d (by omega),ao (show k-1<l.length by omega),ab,aY (show k-1<l.length by omega),Zm,an,aR (show k-1<l.length by omega)]
 .rw[Gx,aA,aa,ZY]
def asq {l:List b3}(h:l.length<=1048576)(b:∀q∈l,wP q)(c:Int×Int):It F0 c l=some (fi c l,()):=by
 rw[aiA,eU (fun m k=>pZ F0 (r3 F0) m (lE l l (l.length:Int) k c.1 c.2)) l.length (fun k=>iM c (l.getD k cd)&&(decide (k=0) || kh (l.getD (k-1) cd) (l.getD k cd))) (some (decide ((l.length:Int)<=20),())) (some (false,())) (fun m k a=>?_) (fun m=>?_) _ (by rw[bg];omega)]
 .unfold fi V7;cases (List.range l.length).all _<;>rfl
 .rw[GZ,aO a,ae,ao a,ab,aY a,show((c.1,c.2):Int×Int)=c from rfl,ag0 (b _ (bT a)),an,aR a,acA,ah (by omega)];refine adn _ (kh (l.getD (k-1) cd) l[k]) _ _ _ fun d=>?_
  rw[KZ d (by omega),ao (show k-1<l.length by omega),ab,aY (show k-1<l.length by omega)];obtain⟨r,e,f⟩:=afH l[k-1] l[k];rw[e,an,f,aR (show k-1<l.length by omega)]
 .rw[GZ,aA,aa,aak]
def gT (d:List Int×Int):Bool:=decide ((d.1.length:Int)<=100000)&&fT 0 d.1.length d.2
def La (d:List Int×Int):l8 F0 d=some (gT d,()):=by rw[akQ,cy,an];unfold gT;cases decide ((d.1.length:Int)<=100000)<;>rfl
def auo (d:List Int×Int):MN F0 d=some (gT d,()):=by rw[al1,cG,an];unfold gT;cases decide ((d.1.length:Int)<=100000)<;>rfl
def amw {a b:List Int}(j:a.length<=1048576)(l:b.length<=1048576):EI F0 a b=some (decide (a=b),()):=by
 rw[akR,eU (fun m k=>Dg F0 (ue F0) m (ud a b k)) (min a.length b.length) (fun k=>a.getD k 0==b.getD k 0) (some ((a.length:Int)==(b.length:Int),())) (some (false,())) (fun m k n=>?_) (fun m=>?_) _ (by rw[bg];omega)]
 .by_cases c:a=b
  .rw[aS c,ak (dh.2 fun k _=>by rw[c];exact oD (b.getD k 0)),c,oD]
  .rw[aV c];by_cases e:a.length=b.length
   .rw[ag];intro f;refine c (List.ext_getElem e fun k g i=>?_);have:=dh.1 f k (dk.2 (by omega));simpa [List.getD,g,i]using this
   .rw[b0.2 (show(a.length:Int)≠(b.length:Int) by omega)];cases (List.range (min a.length b.length)).all _<;>rfl
 .rw[JK,aO (show k<a.length by omega),ae,aO (show k<b.length by omega),ae,ao (show k<a.length by omega),ab,ao (show k<b.length by omega),ab,kl,kl,aep,ah (by omega),awQ];by_cases d:a.getD k 0=b.getD k 0
  .simp[d]
  .simp[d]
 .rw[JK,abW];rcases Rr a.length b.length with h|h
  .rw[Zw (by omega),aA,aa]
  .rw[Nat.min_eq_right h,aA,aa];cases decide ((b.length:Int)<(a.length:Int))<;>rfl
def gU (a b:b3):Bool:=(a.1==b.1)&&((a.2.1.toList==b.2.1.toList)&&decide (a.2.2=b.2.2))
def afI {a b:b3}(c:wP a)(d:wP b):wi F0 a b=some (gU a b,()):=by rw[akS,amw c.2 d.2,an];unfold gU;cases (a.1==b.1)<;>cases (a.2.1.toList==b.2.1.toList)<;>rfl
def aaL {a b:b3}(c:wP a):mc F0 a b=some (gU a b,()):=by rw[Va,afD (aU c.2 (by omega)),an];unfold gU;cases (a.1==b.1)<;>cases (a.2.1.toList==b.2.1.toList)<;>rfl
def aup {a b:b3}(c:wP a)(d:wP b):HQ F0 a b=some (gU a b,()):=by rw[ahB,amw c.2 d.2,an];unfold gU;cases (a.1==b.1)<;>cases (a.2.1.toList==b.2.1.toList)<;>rfl
def asr {a b:b3}(c:wP a):DS F0 a b=some (gU a b,()):=by rw[aeW,afD (aU c.2 (by omega)),an];unfold gU;cases (a.1==b.1)<;>cases (a.2.1.toList==b.2.1.toList)<;>rfl
def lU (a b:cN):Bool:=(a.1.toList==b.1.toList)&&gU a.2 b.2
def aoD {a b:cN}(c:wP a.2)(d:wP b.2):yg F0 a b=some (lU a b,()):=by rw[abX,afI c d,an];unfold lU;cases (a.1.toList==b.1.toList)<;>rfl
def amx {a b:cN}(c:wP a.2):Ag F0 a b=some (lU a b,()):=by rw[acC,aaL c,an];unfold lU;cases (a.1.toList==b.1.toList)<;>rfl
def V8 (a b:dK):Bool:=(a.1==b.1)&&((a.2.1==b.2.1)&&((a.2.2.1==b.2.2.1)&&((a.2.2.2==b.2.2.2)&&true)))
def np (a b:ch):Bool:=(a.1==b.1)&&((a.2.1==b.2.1)&&(lU a.2.2.1 b.2.2.1&&(gU a.2.2.2.1 b.2.2.2.1&&(gU a.2.2.2.2.1 b.2.2.2.2.1&&((a.2.2.2.2.2.1==b.2.2.2.2.2.1)&&V8 a.2.2.2.2.2.2 b.2.2.2.2.2.2)))))
def eH (m:ch):Prop:=m.2.2.1.1.size<=1048576/\wP m.2.2.1.2/\wP m.2.2.2.1/\wP m.2.2.2.2.1
def ag2 {a b:ch}(c:eH a)(d:eH b):hz F0 a b=some (np a b,()):=by rw[ahD,aoD c.2.1 d.2.1,an,aup c.2.2.1 d.2.2.1,an,afI c.2.2.2 d.2.2.2,an];unfold np V8;dsimp only;generalize ((a.2.2.2.2.2.2.1==b.2.2.2.2.2.2.1)&&((a.2.2.2.2.2.2.2.1==b.2.2.2.2.2.2.2.1)&&((a.2.2.2.2.2.2.2.2.1==b.2.2.2.2.2.2.2.2.1)&&((a.2.2.2.2.2.2.2.2.2==b.2.2.2.2.2.2.2.2.2)&&true))))=t;cases (a.1==b.1)<;>cases (a.2.1==b.2.1)<;>cases lU a.2.2.1 b.2.2.1<;>cases gU a.2.2.2.1 b.2.2.2.1<;>cases gU a.2.2.2.2.1 b.2.2.2.2.1<;>cases (a.2.2.2.2.2.1==b.2.2.2.2.2.1)<;>rfl
def ass {a b:ch}(c:eH a):Iu F0 a b=some (np a b,()):=by rw[aiC,amx c.2.1,an,asr c.2.2.1,an,aaL c.2.2.2,an];unfold np V8;dsimp only;generalize ((a.2.2.2.2.2.2.1==b.2.2.2.2.2.2.1)&&((a.2.2.2.2.2.2.2.1==b.2.2.2.2.2.2.2.1)&&((a.2.2.2.2.2.2.2.2.1==b.2.2.2.2.2.2.2.2.1)&&((a.2.2.2.2.2.2.2.2.2==b.2.2.2.2.2.2.2.2.2)&&true))))=t;cases (a.1==b.1)<;>cases (a.2.1==b.2.1)<;>cases lU a.2.2.1 b.2.2.1<;>cases gU a.2.2.2.1 b.2.2.2.1<;>cases gU a.2.2.2.2.1 b.2.2.2.2.1<;>cases (a.2.2.2.2.2.1==b.2.2.2.2.2.1)<;>rfl
def V9 (a b:b3):gU a b=gU b a:=by
 unfold gU;rw[BM (a:=a.1),BM (a:=a.2.1.toList)]
 congr 2
 by_cases h:a.2.2=b.2.2
 .rw[aS h,aS h.symm]
 .rw[aV h,aV fun c=>h c.symm]
def ast (a b:ch):np a b=np b a:=by unfold np lU V8;rw[BM (a:=a.1),BM (a:=a.2.1),BM (a:=a.2.2.1.1.toList),V9 a.2.2.1.2,V9 a.2.2.2.1,V9 a.2.2.2.2.1,BM (a:=a.2.2.2.2.2.1),BM (a:=a.2.2.2.2.2.2.1),BM (a:=a.2.2.2.2.2.2.2.1),BM (a:=a.2.2.2.2.2.2.2.2.1),BM (a:=a.2.2.2.2.2.2.2.2.2)]
def named (m:ch):ch :=
 if (m.1==1)=true then (m.1,0,m.2.2.1,cd,cd,0,nW)
 else if (m.1==2)=true then (m.1,0,(aj,cd),m.2.2.2.1,cd,0,nW)
 else if (m.1==3)=true then (m.1,m.2.1,(aj,cd),cd,m.2.2.2.2.1,m.2.2.2.2.2.1,nW)
 else if (m.1==4)=true then (m.1,0,(aj,cd),cd,cd,0,m.2.2.2.2.2.2)
 else (m.1,0,(aj,cd),cd,cd,0,nW)
def aAi (m:ch):QJ F0 m=some (named m,()):=by rw[aop];unfold named;cases (m.1==1)<;>cases (m.1==2)<;>cases (m.1==3)<;>cases (m.1==4)<;>rfl
def de:wP cd:=⟨a7 _,a7 _⟩
def aEf {m:ch}(h:eH m):eH (named m):=by
 unfold named;split
 .exact⟨h.1,h.2.1,de,de⟩
 .split
  .exact⟨a7 _,de,h.2.2.1,de⟩
  .split
   .exact⟨a7 _,de,de,h.2.2.2⟩
   .split
    .exact⟨a7 _,de,de,de⟩
    .exact⟨a7 _,de,de,de⟩
def auq {m:ch}(h:eH m):HR F0 m=some (np (named m) m,()):=by
 have a:=ag2 (aEf h) h;rw[ahE];unfold named cd nW at a;unfold named cd nW;by_cases b:(m.1==1)=true
 .rw[ak b]at a ⊢;rw[b,ae,a,an]
 .rw[ag b]at a ⊢;rw[Jc.2 b,aa];by_cases c:(m.1==2)=true
  .rw[ak c]at a ⊢;rw[c,ae,a,an]
  .rw[ag c]at a ⊢;rw[Jc.2 c,aa];by_cases d:(m.1==3)=true
   .rw[ak d]at a ⊢;rw[d,ae,a,an]
   .rw[ag d]at a ⊢;rw[Jc.2 d,aa];by_cases e:(m.1==4)=true
    .rw[ak e]at a ⊢;rw[e,ae,a,an]
    .rw[ag e]at a ⊢;rw[Jc.2 e,aa,a,an]
def fH (l:List UInt8):Nat->Nat
 |0=>0|k+1=>if (((l.getD k 0).toNat:Int) != 47)=true then fH l k else k+1
def amy (l:List UInt8):∀k,fH l k<=k
 |0=>bh _|k+1=>by
  unfold fH;split
  .exact Nat.le_succ_of_le (amy l k)
  .exact bh _
def aCn {h n:Nat}(a:h<=n):Qw 0 (h:Int) (n:Int)=true:=WZ (l:=0) (a7 _) a
def jE (l:List UInt8):List UInt8:=if bc l=true then l.take (fH l l.length-1) else []
def aze (l:List UInt8){γ:Type}(J:Ex->St->Option γ):∀(k n:Nat),k<=l.length->k<=1073741824->k<n->LW F0 J n (Dh (tx l) (k:Int))=J (.exit 0) (yh (tx l) (fH l k:Int))
 |0,n,a,b,c=>by obtain⟨n,rfl⟩:∃m,n=m+1:=⟨n-1,by omega⟩;rw[OJ];rfl
 |k+1,n,a,b,c=>by
  obtain⟨n,rfl⟩:∃m,n=m+1:=⟨n-1,by omega⟩;rw[OJ,aS (show((k+1:Nat):Int)>0 by omega),ae,KZ (by omega) (by omega),show k+1-1=k from rfl,bn,ao (by omega),ab,WX];unfold fH;by_cases h:(((l.getD k 0).toNat:Int) != 47)=true
  .rw[h,ae,ak rfl,aze l J k n (by omega) (by omega) (by omega)]
  .rw[Jc.2 h,aa,ag (by decide)]
def aCo {l:List UInt8}(h:l.length<=1048576):k5 F0 (tx l)=some (tx (jE l),()):=by
 rw[arG,QU (by omega),an];unfold jE;dsimp only;cases bc l with
 |false=>rfl
 |true =>
  have c:=amy l l.length;rw[aX,aa,bn,aze l _ l.length _ (bh _) (by omega) (by rw[bg];omega),ahG,ak rfl,Ye];have b:br (decide (al ((fH l l.length:Int)-1)>0)) (some (al ((fH l l.length:Int)-1),())) (some ((0:Int),()))=some (((fH l l.length-1:Nat):Int),()):=by
   rw[aG (by omega) (by omega)];by_cases a:(fH l l.length:Int)-1>0
   .rw[aS a,ae,show(fH l l.length:Int)-1=((fH l l.length-1:Nat):Int) by omega]
   .rw[aV a,aa,show fH l l.length-1=0 by omega];rfl
  rw[b,an];dsimp only;rw[bn,aCn (by omega),ab,l2,show(0:Int).toNat=0 from rfl,Nv,abe,Tu]
def apY (l:List UInt8):∀(k n:Nat),k<=l.length->k<=1073741824->k<n->dR F0 (fe F0) n (dj (tx l) 47 ((k:Int)-1))=some ((fH l k:Int)-1,())
 |0,n,a,b,c=>by obtain⟨n,rfl⟩:∃m,n=m+1:=⟨n-1,by omega⟩;rw[iC];rfl
 |k+1,n,a,b,c=>by
  obtain⟨n,rfl⟩:∃m,n=m+1:=⟨n-1,by omega⟩;rw[show((k+1:Nat):Int)-1=(k:Int) by omega,iC,aS (show(k:Int)>=0 by omega),ae,bn,ao (by omega),ab,WX,aG (by omega) (by omega),Ai];unfold fH;by_cases h:((l.getD k 0).toNat:Int)=47
  .rw[h,show((47:Int)==47)=true from rfl,ae,show((47:Int) != 47)=false from rfl,ag (by decide),show((k+1:Nat):Int)-1=(k:Int) by omega]
  .rw[b0.2 h,aa,Ez.2 h,ak rfl,apY l k n (by omega) (by omega) (by omega)]
def awX {c x:UInt8}{l:List UInt8}{ps:List (List UInt8)}(h:parts c (x::l)=[]::ps):x=c:=by
 unfold parts at h;split at h
 .assumption
 .split at h
  .cases (sD h).1
  .cases (sD h).1
def amz {l:List UInt8}(h:bc l=true)(b:l≠[]):∃t,l=47::t:=by
 cases l with
 |nil=>exact absurd rfl b
 |cons x t =>
  refine⟨t,?_⟩;unfold bc bR at h;rw[ag b]at h;cases a:parts 47 (x::t) with
  |nil=>exact absurd a (Fj _ _)
  |cons c g =>
   rw[a]at h;dsimp only at h;split at h
   .cases h
   .rename_i d;have e:c=[]:=ao8 fun f=>d (.inl f)
    subst e;rw[awX a]
def afJ {t:List UInt8}:∀k,0<k->0<fH (47::t) k
 |0,h=>absurd h (Ts _)|1,_=>by unfold fH;rw[show((((47::t).getD 0 0:UInt8).toNat:Int) != 47)=false from rfl,ag (by decide)];exact adX _
 |k+2,_=>by
  unfold fH;split
  .exact afJ (k+1) (adX _)
  .exact adX _
def aAj {l:List UInt8}(h:l.length<=1048576):PD F0 (tx l)=some (tx (jE l),()):=by
 rw[arX,V4 (by omega),an,asj,VX];unfold jE;dsimp only;cases b:bc l with
 |false=>rfl
 |true =>
  rw[aX,aa,ak rfl];by_cases a:l=[]
  .subst a;rfl
  .have c:=amy l l.length;have d:0<fH l l.length:=by obtain⟨t,rfl⟩:=amz b a;exact afJ _ (adX _)
   rw[aV a,aa,NY,Cu,bn,aG (by omega) (by omega),apY l l.length _ (bh _) (by omega) (by rw[bg];omega),an,an];dsimp only;rw[show(fH l l.length:Int)-1=((fH l l.length-1:Nat):Int) by omega,aCn (by omega),ab,l2,show(0:Int).toNat=0 from rfl,Nv,abe,Tu]
def adp {b:ByteArray}(h:b.size<=1048576):k5 F0 b=some (tx (jE b.data.toList),()):=aCo (l:=b.data.toList) h
def aCp {b:ByteArray}(h:b.size<=1048576):PD F0 b=some (tx (jE b.data.toList),()):=aAj (l:=b.data.toList) h
def gH (c:Int×Int)(b:cN):Bool:=eI c b.2&&(bc b.1.data.toList&&(!ec b.1&&((tx (jE b.1.data.toList)).toList==b.2.2.1.toList)))
def Fk {b:cN}(a:b.1.size<=1048576)(d:wP b.2)(c:Int×Int):mo F0 c b=some (gH c b,()):=by rw[ahH,QZ d,an,I8 a,an,adp a,an];unfold gH ec;cases eI c b.2<;>cases bc b.1.data.toList<;>cases (b.1.toList==aj.toList)<;>rfl
def asu {b:cN}(a:b.1.size<=1048576)(d:wP b.2)(c:Int×Int):Iv F0 c b=some (gH c b,()):=by rw[aiE,adm d,an,CK a,an,aCp a,an];unfold gH ec;cases eI c b.2<;>cases bc b.1.data.toList<;>cases (b.1.toList==aj.toList)<;>rfl
def dC (c:Int×Int)(m:ch):Bool:=a8 c&&(np (named m) m&&(if (m.1==1)=true then gH c m.2.2.1 else if (m.1==2)=true then iM c m.2.2.2.1&& !ec m.2.2.2.1.2.1
 else if (m.1==3)=true then fT 1 60 m.2.1&&(eI c m.2.2.2.2.1&&fT 0 (al (c.1-1)) m.2.2.2.2.2.1) else (m.1==4)&&fS m.2.2.2.2.2.2))
def I9 {m:ch}(h:eH m)(c:Int×Int):eN F0 c m=some (dC c m,()):=by rw[an6,eV,an,auq h,an,Fk h.1 h.2.1,an,Q0 h.2.2.1,an,cy,an,QZ h.2.2.2,an,cy,an,P3,an];unfold dC ec;dsimp only;cases a8 c<;>cases np (named m) m<;>cases (m.1==1)<;>cases (m.1==2)<;>cases (m.1==3)<;>cases (m.1==4)<;>cases iM c m.2.2.2.1<;>cases fT 1 60 m.2.1<;>cases eI c m.2.2.2.2.1<;>rfl
def aaM {m:ch}(h:eH m)(c:Int×Int):iD F0 c m=some (dC c m,()):=by rw[aor,hX,an,aAi,an,ass h,an,asu h.1 h.2.1,an,ag0 h.2.2.1,an,cG,an,adm h.2.2.2,an,cG,an,P4,an,ast];unfold dC ec;dsimp only;cases a8 c<;>cases np (named m) m<;>cases (m.1==1)<;>cases (m.1==2)<;>cases (m.1==3)<;>cases (m.1==4)<;>cases iM c m.2.2.2.1<;>cases fT 1 60 m.2.1<;>cases eI c m.2.2.2.2.1<;>rfl
def Lb (c:Int×Int)(r:Int)(p:fm):Bool:=dC c p.2&&(fT 0 (al (c.1-1)) p.1&& !(p.1==r))
def sN (c:Int×Int)(r:aB):Bool :=
 a8 c&&(fT 0 (al (c.1-1)) r.1&&(fT 1 60 r.2.1&&(fT 0 60 r.2.2.1&&(bP c r.2.2.2.1&&(nn r.2.2.2.2.1&&(fi c r.2.2.2.2.2.1&&(gT r.2.2.2.2.2.2.1&&(!decide ((r.2.2.2.2.2.2.2.length:Int)>30)&&r.2.2.2.2.2.2.2.all (Lb c r.1)))))))))
structure aoE (r:aB):Prop where
 s:nV r.2.2.2.1
 p:r.2.2.2.2.1.length<=1048576
 t:r.2.2.2.2.2.1.length<=1048576
 tq:∀q∈r.2.2.2.2.2.1,wP q
 h:r.2.2.2.2.2.2.2.length<=1048576
 hm:∀q∈r.2.2.2.2.2.2.2,eH q.2
def aCq:fm:=(0,0,0,(aj,cd),cd,cd,0,nW)
def tD (b:Bool):(if b=true then some (true,()) else some (false,()))=some (b,()):=by cases b<;>rfl
def gI {r:aB}(h:aoE r)(c:Int×Int):dd F0 c r=some (sN c r,()):=by
 have b:=h.h;rw[an7,eV,an,cy,an,cy,an,cy,an,CL h.s,an,amv h.p,an,ag1 h.t h.tq,an,La,an,
  eU (fun m k=>HV F0 (yk F0) m (yi k c.1 c.2 r.1 r.2.1 r.2.2.1 r.2.2.2.1.1 r.2.2.2.1.2.1 r.2.2.2.1.2.2.1.1 r.2.2.2.1.2.2.1.2.1 r.2.2.2.1.2.2.1.2.2 r.2.2.2.1.2.2.2 r.2.2.2.2.1 r.2.2.2.2.2.1 r.2.2.2.2.2.2.1.1 r.2.2.2.2.2.2.1.2 r.2.2.2.2.2.2.2)) r.2.2.2.2.2.2.2.length
   (fun k=>Lb c r.1 (r.2.2.2.2.2.2.2.getD k aCq)) (some (true,())) (some (false,())) (fun m k a=>?_) (fun m=>?_) _ (by rw[bg];omega),adl,tD]
 .unfold sN;cases a8 c<;>cases fT 0 (al (c.1-1)) r.1<;>cases fT 1 60 r.2.1<;>cases fT 0 60 r.2.2.1<;>cases bP c r.2.2.2.1<;>cases nn r.2.2.2.2.1<;>cases fi c r.2.2.2.2.2.1<;>cases gT r.2.2.2.2.2.2.1<;>cases decide ((r.2.2.2.2.2.2.2.length:Int)>30)<;>rfl
 .rw[LX,aO a,ae,ao a,ab,aY a,show((c.1,c.2):Int×Int)=c from rfl,I9 (h.hm _ (bT a)),an,ab,cy,an,ab,aR a,ahI,ah (by omega)];unfold Lb;cases dC c (r.2.2.2.2.2.2.2[k]).2<;>cases fT 0 (al (c.1-1)) (r.2.2.2.2.2.2.2[k]).1<;>cases ((r.2.2.2.2.2.2.2[k]).1==r.1)<;>rfl
 .rw[LX,aA,aa,aeq]
def Q1 {r:aB}(h:aoE r)(c:Int×Int):p0 F0 c r=some (sN c r,()):=by
 have b:=h.h;rw[aos,hX,an,cG,an,cG,an,cG,an,agZ h.s,an,aum h.p,an,asq h.t h.tq,an,auo,an,
  eU (fun m k=>Iy F0 (An F0) m (Ak r.2.2.2.2.2.2.2 (r.2.2.2.2.2.2.2.length:Int) k c.1 c.2 r.1 r.2.1 r.2.2.1 r.2.2.2.1.1 r.2.2.2.1.2.1 r.2.2.2.1.2.2.1.1 r.2.2.2.1.2.2.1.2.1 r.2.2.2.1.2.2.1.2.2 r.2.2.2.1.2.2.2 r.2.2.2.2.1 r.2.2.2.2.2.1 r.2.2.2.2.2.2.1.1 r.2.2.2.2.2.2.1.2 r.2.2.2.2.2.2.2)) r.2.2.2.2.2.2.2.length
   (fun k=>Lb c r.1 (r.2.2.2.2.2.2.2.getD k aCq)) (some (true,())) (some (false,())) (fun m k a=>?_) (fun m=>?_) _ (by rw[bg];omega),adl,tD]
 .unfold sN;cases a8 c<;>cases fT 0 (al (c.1-1)) r.1<;>cases fT 1 60 r.2.1<;>cases fT 0 60 r.2.2.1<;>cases bP c r.2.2.2.1<;>cases nn r.2.2.2.2.1<;>cases fi c r.2.2.2.2.2.1<;>cases gT r.2.2.2.2.2.2.1<;>cases decide ((r.2.2.2.2.2.2.2.length:Int)>30)<;>rfl
 .rw[MP,aO a,ae,ao a,ab,aY a,show((c.1,c.2):Int×Int)=c from rfl,aaM (h.hm _ (bT a)),an,cG,an,aR a,aiG,ah (by omega)];unfold Lb;cases dC c (r.2.2.2.2.2.2.2[k]).2<;>cases fT 0 (al (c.1-1)) (r.2.2.2.2.2.2.2[k]).1<;>cases ((r.2.2.2.2.2.2.2[k]).1==r.1)<;>rfl
 .rw[MP,aA,aa,aeY]
def adq {lo hi x:Int}:fT lo hi x=decide (lo<=x/\x<=hi):=by unfold fT;by_cases a:lo<=x<;>by_cases b:x<=hi<;>simp[a,b]
def P8:Nat->List Int->Nat->Int->Option (Int×Nat)
 |0,_,_,_=>none|_+1,[],_,_=>none|j+1,x::xs,k,n=>if x<128 then (if (k≠0/\x=0)\/n+x*128 ^ k>2147483647 then none else some (n+x*128 ^ k,k+1)) else P8 j xs (k+1) (n+x%128*128 ^ k)
def aEg (a:Nat):Option (Int×Nat)->Int×Int×Bool×Unit
 |some (v,c)=>(v,((a+c:Nat):Int),true,())|none=>(0,0,false,())
def aCr {k:Nat}(h:k<=4):(2:Int) ^ (min (al (7*(k:Int))).toNat 64)=128 ^ k:=by
 have:k=0\/k=1\/k=2\/k=3\/k=4:=by omega
 rcases this with rfl|rfl|rfl|rfl|rfl<;>rfl
def Q2 {k:Nat}(h:k<=4):(1:Int)<=128 ^ k/\(128:Int) ^ k<=268435456:=by
 have:k=0\/k=1\/k=2\/k=3\/k=4:=by omega
 rcases this with rfl|rfl|rfl|rfl|rfl<;>decide
def amA {d P:Int}(a:0<=d)(b:d<=127)(c:1<=P):0<=d*P/\d*P<=127*P:=⟨Int.mul_nonneg a (by omega),Int.mul_le_mul_of_nonneg_right b (by omega)⟩
def aF0 {i n:Nat}(d:Nat)(h:n<2 ^ i):n ||| d*2 ^ i=n+d*2 ^ i:=by rw[Nat.or_comm,<-Nat.shiftLeft_eq,<-Nat.shiftLeft_add_eq_or_of_lt h,Nat.add_comm]
def aF1 {k:Nat}(a:k<=4){n d:Int}(b:0<=n)(c:n<128 ^ k)(f:0<=d)(j:d<=127):((BitVec.ofInt 64 n ||| BitVec.ofInt 64 (d*128 ^ k)).toNat:Int)=n+d*128 ^ k:=by
 obtain⟨m,rfl⟩:=Int.eq_ofNat_of_zero_le b;obtain⟨e,rfl⟩:=Int.eq_ofNat_of_zero_le f;have g:(128:Int) ^ k=((2 ^ (7*k):Nat):Int):=by rw[Nat.pow_mul];exact(Int.natCast_pow 128 k).symm
 have h:=Q2 a;rw[g]at c h ⊢;have i:m<2 ^ (7*k):=by omega
 have l:e*2 ^ (7*k)<=127*2 ^ (7*k):=Bb _ (by omega);have o:2 ^ (7*k)<=268435456:=by omega
 rw[show(e:Int)*((2 ^ (7*k):Nat):Int)=((e*2 ^ (7*k):Nat):Int) from(Int.natCast_mul _ _).symm,BitVec.ofInt_natCast,BitVec.ofInt_natCast,BitVec.toNat_or,BitVec.toNat_ofNat,BitVec.toNat_ofNat,aqG (by omega),aqG (by omega),aF0 e i];omega
def cC (b:List Int):Prop:=b.length<=1048576/\∀x∈b,0<=x/\x<=255
def aur {b:List Int}(l:cC b)(a:Nat)(t:a<=b.length):∀(j k:Nat),j+k=5->∀(c:Int) (m:Nat),0<=c->c<128 ^ k->j<m ->
  Dj F0 (ui F0) m (uh b (a:Int) c (k:Int))=some (aEg a (P8 j (b.drop (a+k)) k c))
 |0,k,u,c,m,o,p,v=>by obtain⟨m,rfl⟩:∃q,m=q+1:=⟨m-1,by omega⟩;rw[JN,aV (by omega),aa,ab1];rfl
 |j+1,k,u,c,m,o,p,v=>by
  obtain⟨m,rfl⟩:∃q,m=q+1:=⟨m-1,by omega⟩;have B:=l.1;rw[JN,aS (by omega),ae,aV (show ¬(a:Int)<0 by omega),aa,aG (n:=(b.length:Int)-k) (by omega) (by omega)];rcases Rr (a+k) b.length with hlt|w
  .have r:=l.2 b[a+k] (bT hlt);have y:=Q2 (k:=k) (by omega);rw[aV (show ¬(a:Int)>=(b.length:Int)-k by omega),aa,show al ((a:Int)+(k:Int))=((a+k:Nat):Int) by rw[aG (by omega) (by omega)];omega,ao hlt,ab,
    aS (show 0<=al (7*(k:Int)) by rw[aG (by omega) (by omega)];omega),ab,aY hlt,aCr (by omega),abb hlt]
   generalize b[a+k]=x at r ⊢;rw[aG (n:=x) (by omega) (by omega),ajr (by omega),B8,B8];have z:=amA (d:=x%128) (P:=128 ^ k) (by omega) (by omega) y.1;rw[aG (n:=x%128*128 ^ k) (by omega) (by omega),aF1 (by omega) o p (by omega) (by omega),aG (n:=c+x%128*128 ^ k) (by omega) (by omega)];unfold P8;by_cases g:x<128
   .have e:x%128=x:=Int.emod_eq_of_lt r.1 g;rw[e]at z ⊢;rw[aS g,ae,ak g,aG (n:=((a+k:Nat):Int)+1) (by omega) (by omega)];by_cases s:k=0
    .subst s;rw[show decide (((0:Nat):Int)>0)=false from rfl,aa];by_cases f:c+x*128 ^ 0>2147483647
     .rw[aS f,ae,ak (.inr f)];rfl
     .rw[aV f,aa,ag (fun h=>h.elim (fun h=>h.1 rfl) f)];rfl
    .rw[aS (show(k:Int)>0 by omega),ae];by_cases i:x=0
     .rw[show(x==0)=true from cj.2 i,ae,ak (.inl ⟨s,i⟩)];rfl
     .rw[b0.2 i,aa];by_cases f:c+x*128 ^ k>2147483647
      .rw[aS f,ae,ak (.inr f)];rfl
      .rw[aV f,aa,ag (fun h=>h.elim (fun h=>i h.2) f)];rfl
   .rw[aV g,aa,ag g,ah (by omega)];have A:c+x%128*128 ^ k<128 ^ (k+1):=by rw[Rs];omega
    exact aur l a t j (k+1) (by omega) _ m (by omega) A (by omega)
  .rw[aS (show(a:Int)>=(b.length:Int)-k by omega),ae,B8,av4 w];rfl
def awY {b:List Int}(c:cC b){a:Nat}(d:a<=b.length):jS F0 b (a:Int)=some (aEg a (P8 5 (b.drop a) 0 0)):=by rw[akX];exact aur c a d 5 0 rfl 0 _ (by omega) (by decide) (by rw[bg];omega)
def adr:∀(k:Nat) (v:Int) (xs:List Int) (n:Nat),0<=v->v<128 ^ (k+1)->xs.length+k<=1000->k<n->k<=4 ->
  ∃a,tu F0 (u2 F0) n (nQ v xs)=some (xs++a,())/\a.length<=k+1/\(128 ^ k<=v->a.length=k+1)/\1<=a.length
 |0,v,xs,n,b,d,e,f,g=>by obtain⟨n,rfl⟩:∃m,n=m+1:=⟨n-1,by omega⟩;rw[mL,aV (show ¬v>=128 by have:(128:Int) ^ (0+1)=128:=rfl;omega),aa,o9,au (by omega) (by omega) (by rw[bU];omega),ab];exact⟨_,rfl,bh _,fun _=>rfl,bh _⟩
 |k+1,v,xs,n,b,d,e,f,g=>by
  obtain⟨n,rfl⟩:∃m,n=m+1:=⟨n-1,by omega⟩;have l:=Q2 (k:=k) (by omega);have o:(128:Int) ^ (k+1)=128 ^ k*128:=Rs _ _;have p:(128:Int) ^ (k+1+1)=128 ^ (k+1)*128:=Rs _ _;rw[mL];by_cases c:v>=128
  .rw[aS c,ae,au (by omega) (by omega) (by rw[bU];omega),ab,ajs b,aG (n:=v/128) (by omega) (by omega)];obtain⟨a,i,q,j,r⟩:=adr k (v/128) (xs++[IntKind.wrap .u8 (al (Int.tmod v 128+128))]) n (by omega) (by omega) (by rw[aN,bU];omega) (by omega) (by omega);refine⟨IntKind.wrap .u8 (al (Int.tmod v 128+128))::a,i.trans (by rw[ku];rfl),by rw[a1];omega,fun h=>?_,by rw[a1];omega⟩;rw[a1,j (by omega)]
  .rw[aV c,aa,o9,au (by omega) (by omega) (by rw[bU];omega),ab];exact⟨_,rfl,by rw[bU];omega,fun h=>by omega,bh _⟩
def awZ (v:Int):∃c,e9 F0 v=some (c,())/\∀(k:Nat) (a x:Int),k<=4->0<=a->a<128 ^ k->0<=x->x<128->v=a+x*128 ^ k ->
  ((c.length:Int) != ((k+1:Nat):Int))=decide ((k≠0/\x=0)\/v>2147483647):=by
 rw[Vj,cG,an,adq];by_cases b:0<=v/\v<=2147483647
 .rw[aS b,aX,aa];have n:(128:Int) ^ (4+1)=34359738368:=by decide
  obtain⟨g,i,_,_,_⟩:=adr 4 v [] F0.n b.1 (by omega) (by simp) (by rw[bg];omega) (by omega);refine⟨g,i,fun k a x e r s j t u=>?_⟩;have l:=Q2 e;have D:(128:Int) ^ (k+1)=128 ^ k*128:=Rs _ _;have w:=amA (d:=x) (P:=128 ^ k) j (by omega) l.1;obtain⟨c,o,E,n,F⟩:=adr k v [] F0.n b.1 (by omega) (by simp;omega) (by rw[bg];omega) e;rw[i]at o;have y:g=c:=by simpa using o
  subst y;by_cases f:k≠0/\x=0
  .rw[aS (.inl f),Ez];obtain⟨m,z⟩:=f;subst z;obtain⟨k,rfl⟩:∃q,k=q+1:=⟨k-1,by omega⟩;obtain⟨A,p,G,_,_⟩:=adr k v [] F0.n b.1 (by omega) (by simp;omega) (by rw[bg];omega) (by omega);rw[i]at p;have B:g=A:=by simpa using p
   subst B;omega
  .rw[aV (fun h=>h.elim f (by omega)),Tn];by_cases m:k=0
   .subst m;omega
   .have C:1<=x:=by
     have:x≠0:=fun h=>f ⟨m,h⟩
     omega
    have:=Int.mul_le_mul_of_nonneg_right C (show(0:Int)<=128 ^ k by omega);rw[n (by omega)]
 .rw[aV b,fE,ae];refine⟨[],rfl,fun k a x e r s j t u=>?_⟩;have l:=Q2 e;have w:=amA (d:=x) (P:=128 ^ k) j (by omega) l.1;rw[aS (.inr (by omega)),Ez];simp only[bJ];omega
def aus {b:List Int}(h:cC b)(a:Nat)(p:a<=b.length):∀(j k:Nat),j+k=5->∀(c:Int) (m:Nat),0<=c->c<128 ^ k->j<m ->
  DY F0 (u4 F0) m (u3 b (a:Int) c (k:Int))=some (aEg a (P8 j (b.drop (a+k)) k c))
 |0,k,r,c,m,l,o,s=>by obtain⟨m,rfl⟩:∃q,m=q+1:=⟨m-1,by omega⟩;rw[Kq,aV (by omega),aa,MQ];rfl
 |j+1,k,r,c,m,l,o,s=>by
  obtain⟨m,rfl⟩:∃q,m=q+1:=⟨m-1,by omega⟩;have A:=h.1;rw[Kq,aS (by omega),ae,show al ((a:Int)+(k:Int))=((a+k:Nat):Int) by rw[aG (by omega) (by omega)];omega];rcases Rr (a+k) b.length with hlt|t
  .have i:=h.2 b[a+k] (bT hlt);have u:=Q2 (k:=k) (by omega);rw[aO hlt,ae,ao hlt,ab,
    aS (show 0<=al (7*(k:Int)) by rw[aG (by omega) (by omega)];omega),ab,aY hlt,aCr (by omega),abb hlt]
   generalize b[a+k]=x at i ⊢;rw[aG (n:=x) (by omega) (by omega),ajr (by omega),PG,PG];have v:=amA (d:=x%128) (P:=128 ^ k) (by omega) (by omega) u.1;rw[aG (n:=x%128*128 ^ k) (by omega) (by omega),aG (n:=c+x%128*128 ^ k) (by omega) (by omega),ah (show k+1<=9223372036854775807 by omega)];unfold P8;by_cases f:x<128
   .have e:x%128=x:=Int.emod_eq_of_lt i.1 f;rw[e]at v ⊢;rw[aS f,ae,ak f,aG (n:=((a+k:Nat):Int)+1) (by omega) (by omega)];obtain⟨B,w,y⟩:=awZ (c+x*128 ^ k);rw[w,an];dsimp only;rw[y k c x (by omega) l o i.1 f rfl];by_cases g:(k≠0/\x=0)\/c+x*128 ^ k>2147483647
    .rw[aS g,ae,ak g];rfl
    .rw[aV g,aa,ag g];rfl
   .rw[aV f,aa,ag f];have z:c+x%128*128 ^ k<128 ^ (k+1):=by rw[Rs];omega
    exact aus h a p j (k+1) (by omega) _ m (by omega) z (by omega)
  .rw[aV (show ¬((a+k:Nat):Int)<(b.length:Int) by omega),aa,MQ,av4 t];rfl
def aut {b:List Int}(c:cC b){a:Nat}(d:a<=b.length):wG F0 b (a:Int)=some (aEg a (P8 5 (b.drop a) 0 0)):=by
 have f:=c.1;rw[al3,cG,an,adq,aG (by omega) (by omega)];rcases Rr a b.length with hlt|e
 .rw[aS (by omega),aX,aa];exact aus c a d 5 0 rfl 0 _ (by omega) (by decide) (by rw[bg];omega)
 .rw[aV (by omega),fE,ae,av4 e];rfl
def azf:∀(j:Nat) (l:List Int) (k:Nat) (n:Int) (v:Int) (c:Nat),P8 j l k n=some (v,c)->v<=2147483647/\k<c/\c<=k+l.length
 |0,_,_,_,_,_,h=>by cases h
 |_+1,[],_,_,_,_,h=>by cases h
 |j+1,x::l,k,n,v,c,h=>by
  unfold P8 at h;split at h
  .split at h
   .cases h
   .rename_i a;cases h;exact⟨Int.not_lt.1 fun b=>a (.inr b),Nat.lt_succ_self _,by rw[a1];omega⟩
  .have:=azf j l (k+1) _ v c h;rw[a1];exact⟨this.1,by omega,by omega⟩
def auu:∀(j:Nat) (l:List Int) (k:Nat) (n:Int) (v:Int) (c:Nat),(∀x∈l,0<=x)->0<=n->P8 j l k n=some (v,c)->0<=v
 |0,_,_,_,_,_,_,_,h=>by cases h
 |_+1,[],_,_,_,_,_,_,h=>by cases h
 |j+1,x::l,k,n,v,c,a,f,h=>by
  have d:=a x vR;have b:(0:Int)<=128 ^ k:=Int.pow_nonneg (by omega);unfold P8 at h;split at h
  .split at h
   .cases h
   .cases h;have:=Int.mul_nonneg d b;omega
  .have g:=Int.mul_nonneg (agf x (show(128:Int)≠0 by decide)) b;exact auu j l (k+1) _ v c (fun y e=>a y (jG _ e)) (by omega) h
abbrev P9:=Nat×Bool
abbrev cell (b:List Int)(s:P9):List Int×Int×Bool:=(b,(s.1:Int),s.2)
abbrev Wa (b:List Int)(s:P9):List Int×Int×Bool:=(b,(s.1:Int),!s.2)
def q2 (b:List Int)(a:Nat):Option (Int×Nat):=match P8 5 (b.drop a) 0 0 with
 |some (v,c)=>some (v,a+c)|none=>none
def aaN:Option (Int×Nat)->Int×Int×Bool×Unit
 |some (v,a)=>(v,(a:Int),true,())|none=>(0,0,false,())
def ads {b:List Int}(c:cC b){a:Nat}(d:a<=b.length):jS F0 b (a:Int)=some (aaN (q2 b a)):=by rw[awY c d];unfold q2;cases P8 5 (b.drop a) 0 0<;>rfl
def apZ {b:List Int}(c:cC b){a:Nat}(d:a<=b.length):wG F0 b (a:Int)=some (aaN (q2 b a)):=by rw[aut c d];unfold q2;cases P8 5 (b.drop a) 0 0<;>rfl
def W0 {b:List Int}(f:cC b){a:Nat}(j:a<=b.length){v:Int}{a':Nat}(h:q2 b a=some (v,a')):0<=v/\v<=2147483647/\a<a'/\a'<=b.length:=by
 unfold q2 at h;split at h
 .rename_i k c d;cases h;have e:=azf _ _ _ _ _ _ d;have g:=auu _ _ _ _ _ _ (fun x i=>(f.2 x (aqD i)).1) (Gr 0) d;rw[bA]at e;exact⟨g,e.1,by omega,by omega⟩
 .cases h
def aP (b:List Int)(s:P9):Int×P9:=match q2 b s.1 with
 |some (v,a)=>if s.2=true then (v,a,true) else (0,s.1,false)|none=>(0,s.1,false)
def sx {b:List Int}(c:cC b){s:P9}(d:s.1<=b.length):cF F0 (cell b s)=some (((aP b s).1,()),cell b (aP b s).2,()):=by
 obtain⟨a,ok⟩:=s;rw[akY,ads c d,an];unfold aP aaN;dsimp only;cases q2 b a with
 |none=>rfl|some r=>cases ok<;>rfl
def lV {b:List Int}(c:cC b){s:P9}(d:s.1<=b.length):bB F0 (Wa b s)=some (((aP b s).1,()),Wa b (aP b s).2,()):=by
 obtain⟨a,ok⟩:=s;rw[aal,apZ c d,an];unfold aP aaN;dsimp only;cases q2 b a with
 |none=>cases ok<;>rfl|some r=>cases ok<;>rfl
def dz {b:List Int}(d:cC b){s:P9}(c:s.1<=b.length):(aP b s).2.1<=b.length/\((aP b s).2.2=true->s.1<(aP b s).2.1)/\0<=(aP b s).1/\(aP b s).1<=2147483647:=by
 unfold aP;split
 .rename_i v a h;have:=W0 d c h;split
  .exact⟨this.2.2.2,fun _=>this.2.2.1,this.1,this.2.1⟩
  .exact⟨c,(fun h=>by cases h),Gr _,by omega⟩
 .exact⟨c,(fun h=>by cases h),Gr _,by omega⟩
def aaO (b:List Int)(a:Nat):Option (ByteArray×Nat):=match q2 b a with
 |some (v,a)=>if v>(b.length:Int)-a then none else some (strOf ((b.take (a+v.toNat)).drop a),a+v.toNat)|none=>none
def aw0:Option (ByteArray×Nat)->ByteArray×Int×Bool×Unit
 |some (v,a)=>(v,(a:Int),true,())|none=>(aj,0,false,())
def ap0 {b:List Int}(e:cC b){a:Nat}(f:a<=b.length) :
  br (!(aaN (q2 b a)).2.2.1) (some (aj,0,false,())) (br (decide ((aaN (q2 b a)).1>al ((b.length:Int)-(aaN (q2 b a)).2.1))) (some (aj,0,false,()))
   (ck (Qw (aaN (q2 b a)).2.1 (al ((aaN (q2 b a)).2.1+(aaN (q2 b a)).1)) (b.length:Int)) (some (strOf ((b.take (al ((aaN (q2 b a)).2.1+(aaN (q2 b a)).1)).toNat).drop (aaN (q2 b a)).2.1.toNat),al ((aaN (q2 b a)).2.1+(aaN (q2 b a)).1),true,()))))=some (aw0 (aaO b a)):=by
 have i:=e.1;unfold aaO;cases g:q2 b a with
 |none=>rfl
 |some r =>
  obtain⟨v,c⟩:=r;have h:=W0 e f g;show br (!true) _ (br (decide (v>al ((b.length:Int)-(c:Int)))) _ (ck (Qw (c:Int) (al ((c:Int)+v)) (b.length:Int)) (some (strOf ((b.take (al ((c:Int)+v)).toNat).drop (c:Int).toNat),al ((c:Int)+v),true,()))))=some (aw0 (if v>(b.length:Int)-c then none else some (strOf ((b.take (c+v.toNat)).drop c),c+v.toNat)));rw[aX,aa,aG (n:=(b.length:Int)-c) (by omega) (by omega),aG (n:=(c:Int)+v) (by omega) (by omega)];by_cases d:v>(b.length:Int)-c
  .rw[aS d,ae,ak d];rfl
  .rw[aV d,aa,ag d,show(c:Int)+v=((c+v.toNat:Nat):Int) by omega,WZ (by omega) (by omega),ab];simp only[l2,aw0]
def auv {b:List Int}(c:cC b){a:Nat}(d:a<=b.length):HW F0 b (a:Int)=some (aw0 (aaO b a)):=by rw[ahJ,ads c d,an];exact ap0 c d
def IM {b:List Int}(c:cC b){a:Nat}(d:a<=b.length):mN F0 b (a:Int)=some (aw0 (aaO b a)):=by rw[aiH,apZ c d,an];exact ap0 c d
def aEh {b:List Int}(c:cC b){a:Nat}(e:a<=b.length){v:ByteArray}{a':Nat}(h:aaO b a=some (v,a')):v.size<=1048576/\a<a'/\a'<=b.length:=by
 have i:=c.1;unfold aaO at h;split at h
 .rename_i f d g;have j:=W0 c e g;split at h
  .cases h
  .rename_i k;cases h;refine⟨?_,by omega,by omega⟩;show(((b.take (d+f.toNat)).drop d).map fun n=>UInt8.ofNat n.toNat).toArray.size<=1048576;rw[List.size_toArray,pw,bA,bQ];omega
 .cases h
def cQ (b:List Int)(s:P9):ByteArray×P9:=match aaO b s.1 with
 |some (v,a)=>if s.2=true then (v,a,true) else (aj,s.1,false)|none=>(aj,s.1,false)
def adt {b:List Int}(c:cC b){s:P9}(d:s.1<=b.length):mq F0 (cell b s)=some (((cQ b s).1,()),cell b (cQ b s).2,()):=by
 obtain⟨a,ok⟩:=s;rw[ahL,auv c d,an];unfold cQ aw0;dsimp only;cases aaO b a with
 |none=>rfl|some r=>cases ok<;>rfl
def W1 {b:List Int}(c:cC b){s:P9}(d:s.1<=b.length):fw F0 (Wa b s)=some (((cQ b s).1,()),Wa b (cQ b s).2,()):=by
 obtain⟨a,ok⟩:=s;rw[XB,IM c d,an];unfold cQ aw0;dsimp only;cases aaO b a with
 |none=>cases ok<;>rfl|some r=>cases ok<;>rfl
def wM {b:List Int}(d:cC b){s:P9}(c:s.1<=b.length):(cQ b s).2.1<=b.length/\(cQ b s).1.size<=1048576:=by
 unfold cQ;split
 .rename_i v a h;have:=aEh d c h;split
  .exact⟨this.2.2,this.1⟩
  .exact⟨c,a7 _⟩
 .exact⟨c,a7 _⟩
def jj (b:List Int)(n:Int):Nat->Int->P9->List Int->List Int×P9
 |0,_,s,xs=>(xs,s)|f+1,i,s,xs=>if i<n/\s.2=true then jj b n f (i+1) (aP b s).2 (xs++[(aP b s).1]) else (xs,s)
def BL (b:List Int)(s:P9):List Int×P9:=jj b (aP b s).1 (b.length+2) 0 (aP b s).2 []
def auw {b:List Int}(e:cC b)(a:Int){γ:Type}(J:Ex->St->Option γ):∀(f:Nat) (i:Int) (s:P9) (xs:List Int) (m:Nat),s.1<=b.length->0<=i->i+f<=4194304->(s.2=true->b.length+2<=s.1+f)->xs.length+f<=4194304->f<m ->
  Dm F0 J m (uk a i b (s.1:Int) s.2 xs)=J (.exit 0) (ry b ((jj b a f i s xs).2.1:Int) (jj b a f i s xs).2.2 (jj b a f i s xs).1)
 |0,i,s,xs,m,g,n,o,j,p,r=>by
  obtain⟨m,rfl⟩:∃q,m=q+1:=⟨m-1,by omega⟩;have c:s.2=false:=Jc.2 fun h=>by have:=j h;omega
  rw[JP];unfold jj;dsimp only;rw[c,aa];cases decide (i<a)<;>rfl
 |f+1,i,s,xs,m,g,n,o,j,p,r=>by
  obtain⟨m,rfl⟩:∃q,m=q+1:=⟨m-1,by omega⟩;rw[JP];unfold jj;by_cases d:i<a
  .rw[aS d,ae];cases c:s.2 with
   |false =>
    rw[aa,ag (fun h=>by cases h.2),c]
   |true =>
    have k:=sx e g;have l:=dz e g;unfold cell at k;rw[c]at k;rw[ae,ak ⟨d,rfl⟩,k,an,au (by omega) (by omega) (by rw[bU];omega),ab,aG (by omega) (by omega)];exact auw e a J f (i+1) (aP b s).2 (xs++[(aP b s).1]) m l.1 (by omega) (by omega) (fun h=>by have:=l.2.1 h;have:=j c;omega) (by rw[aN,bU];omega) (by omega)
  .rw[aV d,aa,ag (fun h=>d h.1)]
def auy {b:List Int}(e:cC b)(a:Int){γ:Type}(J:Ex->St->Option γ):∀(f:Nat) (i:Int) (s:P9) (xs:List Int) (m:Nat),s.1<=b.length->0<=i->i+f<=4194304->(s.2=true->b.length+2<=s.1+f)->xs.length+f<=4194304->f<m ->
  mQ F0 J m (j5 a i b (s.1:Int) (!s.2) xs)=J (.exit 0) (iW b ((jj b a f i s xs).2.1:Int) (!(jj b a f i s xs).2.2) (jj b a f i s xs).1)
 |0,i,s,xs,m,g,n,o,j,p,r=>by
  obtain⟨m,rfl⟩:∃q,m=q+1:=⟨m-1,by omega⟩;have c:s.2=false:=Jc.2 fun h=>by have:=j h;omega
  rw[wH];unfold jj;dsimp only;rw[c];cases decide (i<a)<;>rfl
 |f+1,i,s,xs,m,g,n,o,j,p,r=>by
  obtain⟨m,rfl⟩:∃q,m=q+1:=⟨m-1,by omega⟩;rw[wH];unfold jj;by_cases d:i<a
  .rw[aS d,ae];cases c:s.2 with
   |false =>
    rw[ag (fun h=>by cases h.2),c];rfl
   |true =>
    have k:=lV e g;have l:=dz e g;unfold Wa at k;rw[c]at k;rw[aX,fE,ae,ak ⟨d,rfl⟩,show(false:Bool)= !true from rfl,k,an,au (by omega) (by omega) (by rw[bU];omega),ab,aG (by omega) (by omega)];exact auy e a J f (i+1) (aP b s).2 (xs++[(aP b s).1]) m l.1 (by omega) (by omega) (fun h=>by have:=l.2.1 h;have:=j c;omega) (by rw[aN,bU];omega) (by omega)
  .rw[aV d,aa,ag (fun h=>d h.1)]
def azg {b:List Int}(a:cC b){s:P9}(c:s.1<=b.length):EJ F0 (cell b s)=some (((BL b s).1,()),cell b (BL b s).2,()):=by have e:=a.1;have d:=dz a c;rw[akZ,sx a c,an];refine(auw a (aP b s).1 (FO F0) (b.length+2) 0 (aP b s).2 [] _ d.1 (Gr _) (by omega) (fun _=>by omega) (by rw[bJ];omega) (by rw[bg];omega)).trans ?_;rw[ab2];rfl
def auz {b:List Int}(a:cC b){s:P9}(c:s.1<=b.length):lF F0 (Wa b s)=some (((BL b s).1,()),Wa b (BL b s).2,()):=by have e:=a.1;have d:=dz a c;rw[XC,lV a c,an];refine(auy a (aP b s).1 (p3 F0) (b.length+2) 0 (aP b s).2 [] _ d.1 (Gr _) (by omega) (fun _=>by omega) (by rw[bJ];omega) (by rw[bg];omega)).trans ?_;rw[QK];rfl
def aw1 (b:List Int)(n:Int)(f:Nat)(i:Int){s:P9}(h:s.2=false)(xs:List Int):jj b n f i s xs=(xs,s):=by
 cases f with
 |zero=>rfl
 |succ f =>
  unfold jj;rw[ag (fun a=>by rw[h]at a;cases a.2)]
def ap1 {b:List Int}(d:cC b)(n:Int):∀(f:Nat) (i:Int) (s:P9) (xs:List Int),s.1<=b.length->(jj b n f i s xs).2.1<=b.length/\((jj b n f i s xs).2.2=true->(jj b n f i s xs).1.length+s.1<=xs.length+(jj b n f i s xs).2.1)
 |0,i,s,xs,a=>⟨a,fun _=>bh _⟩
 |f+1,i,s,xs,a=>by
  unfold jj;split
  .have e:=dz d a;have g:=ap1 d n f (i+1) (aP b s).2 (xs++[(aP b s).1]) e.1;refine⟨g.1,fun h=>?_⟩;cases c:(aP b s).2.2 with
   |false =>
    rw[aw1 b n f (i+1) c,c]at h;cases h
   |true =>
    have k:=e.2.1 c;have j:=g.2 h;rw[aN,bU]at j;omega
  .exact⟨a,fun _=>bh _⟩
def amB {b:List Int}(a:cC b){s:P9}(c:s.1<=b.length):(BL b s).2.1<=b.length/\((BL b s).2.2=true->(BL b s).1.length<=1048576):=by have g:=a.1;have d:=dz a c;have h:=ap1 a (aP b s).1 (b.length+2) 0 (aP b s).2 [] d.1;refine⟨h.1,fun e=>?_⟩;have f:=h.2 e;have i:=h.1;rw[bJ]at f;unfold BL;omega
def vP (b:List Int)(s:P9):b3×P9:=(((aP b s).1,(cQ b (aP b s).2).1,(BL b (cQ b (aP b s).2).2).1),(BL b (cQ b (aP b s).2).2).2)
def aw2 {b:List Int}(a:cC b){s:P9}(c:s.1<=b.length):B9 F0 (cell b s)=some (((vP b s).1,()),cell b (vP b s).2,()):=by have d:=(dz a c).1;have e:=(wM a d).1;rw[an8,sx a c,an,adt a d,an,azg a e,an];rfl
def asv {b:List Int}(a:cC b){s:P9}(c:s.1<=b.length):lG F0 (Wa b s)=some (((vP b s).1,()),Wa b (vP b s).2,()):=by have d:=(dz a c).1;have e:=(wM a d).1;rw[acF,lV a c,an,W1 a d,an,auz a e,an];rfl
def Q3 {b:List Int}(a:cC b){s:P9}(e:s.1<=b.length):(vP b s).2.1<=b.length/\((vP b s).2.2=true->wP (vP b s).1):=by have f:=(dz a e).1;have c:=wM a f;have d:=amB a c.1;exact⟨d.1,fun h=>⟨c.2,d.2 h⟩⟩
def aaP:ch:=(0,0,(aj,cd),cd,cd,0,nW)
def TH (c:Int×Int)(b:List Int)(m:ch)(s:P9):ch×Bool:=if s.2=true/\(s.1:Int)=(b.length:Int)/\dC c m=true then (m,true) else (aaP,false)
def adu {c:Int×Int}{b:List Int}{m:ch}{s:P9}(h:s.2=true->eH m) :
  br (!s.2) (some (aaP,false,())) (br ((s.1:Int) != (b.length:Int)) (some (aaP,false,())) ((eN F0 c m).bind fun d=>br (!d.1) (some (aaP,false,())) (some (m,true,()))))=some ((TH c b m s).1,(TH c b m s).2,()):=by
 unfold TH;cases e:s.2 with
 |false =>
  rw[ag (fun h=>by cases h.1)];rfl
 |true =>
  rw[aX,aa,I9 (h e),an];by_cases a:(s.1:Int)=(b.length:Int)
  .rw[show((s.1:Int) != (b.length:Int))=false from Tn.2 a,aa];cases f:dC c m with
   |false =>
    rw[ag (fun h=>by cases h.2.2)];rfl
   |true =>
    rw[ak ⟨rfl,a,rfl⟩];rfl
  .rw[Ez.2 a,ae,ag (fun h=>a h.2.1)]
def Wb {c:Int×Int}{b:List Int}{m:ch}{s:P9}(h:s.2=true->eH m) :
  br (!s.2) (some (aaP,false,())) (br ((s.1:Int) != (b.length:Int)) (some (aaP,false,())) ((iD F0 c m).bind fun d=>br (!d.1) (some (aaP,false,())) (some (m,true,()))))=some ((TH c b m s).1,(TH c b m s).2,()):=by
 unfold TH;cases e:s.2 with
 |false =>
  rw[ag (fun h=>by cases h.1)];rfl
 |true =>
  rw[aX,aa,aaM (h e),an];by_cases a:(s.1:Int)=(b.length:Int)
  .rw[show((s.1:Int) != (b.length:Int))=false from Tn.2 a,aa];cases f:dC c m with
   |false =>
    rw[ag (fun h=>by cases h.2.2)];rfl
   |true =>
    rw[ak ⟨rfl,a,rfl⟩];rfl
  .rw[Ez.2 a,ae,ag (fun h=>a h.2.1)]
def ht (b:List Int):Int×P9:=aP b (0,true)
def aEi (b:List Int):ch×P9:=(((ht b).1,0,((cQ b (ht b).2).1,(vP b (cQ b (ht b).2).2).1),cd,cd,0,nW),(vP b (cQ b (ht b).2).2).2)
def aEj (b:List Int):ch×P9 :=
 (((ht b).1,0,(aj,cd),((aP b (ht b).2).1,(cQ b (aP b (ht b).2).2).1,(BL b (cQ b (aP b (ht b).2).2).2).1),cd,0,nW),(BL b (cQ b (aP b (ht b).2).2).2).2)
def aEk (b:List Int):ch×P9 :=
 (((ht b).1,(aP b (ht b).2).1,(aj,cd),cd,(vP b (aP b (aP b (ht b).2).2).2).1,(aP b (aP b (ht b).2).2).1,nW),(vP b (aP b (aP b (ht b).2).2).2).2)
def aEl (b:List Int):ch×P9 :=
 (((ht b).1,0,(aj,cd),cd,cd,0,(aP b (ht b).2).1,(aP b (aP b (ht b).2).2).1,(aP b (aP b (aP b (ht b).2).2).2).1,(aP b (aP b (aP b (aP b (ht b).2).2).2).2).1),(aP b (aP b (aP b (aP b (ht b).2).2).2).2).2)
def aF2 (b:List Int):ch×P9:=(((ht b).1,0,(aj,cd),cd,cd,0,nW),(ht b).2)
def adv (b:List Int):ch×P9:=if ((ht b).1==1)=true then aEi b else if ((ht b).1==2)=true then aEj b else if ((ht b).1==3)=true then aEk b else if ((ht b).1==4)=true then aEl b else aF2 b
def iZ (c:Int×Int)(b:List Int):ch×Bool:=TH c b (adv b).1 (adv b).2
def ap2 {b:List Int}(a:cC b)(c:Int×Int):JR F0 c b=some ((iZ c b).1,(iZ c b).2,()):=by
 have v:cF F0 (b,0,true)=some (((ht b).1,()),cell b (ht b).2,()):=sx a (s:=(0,true)) (a7 _);have i:(ht b).2.1<=b.length:=(dz a (s:=(0,true)) (a7 _)).1;have j:=(dz a i).1;have k:=(dz a j).1;have w:=(dz a k).1;have t0:=wM a i;have t1:=wM a j;have l:=Q3 a t0.1;have n:=Q3 a k;have o:=amB a t1.1;rw[an9,v,an];unfold iZ adv;dsimp only;by_cases p:((ht b).1==1)=true
 .rw[p,ae,ak rfl,adt a i,an,aw2 a t0.1,an];unfold aEi;generalize vP b (cQ b (ht b).2).2=e at l ⊢;generalize cQ b (ht b).2=f at t0 ⊢;generalize ht b=d;exact adu (c:=c) (b:=b) (m:=(d.1,0,(f.1,e.1),cd,cd,0,nW)) (s:=e.2) fun h=>⟨t0.2,l.2 h,de,de⟩
 .rw[Jc.2 p,aa,ag (by decide)];by_cases q:((ht b).1==2)=true
  .rw[q,ae,ak rfl,sx a i,an,adt a j,an,azg a t1.1,an];unfold aEj;generalize BL b (cQ b (aP b (ht b).2).2).2=g at o ⊢;generalize cQ b (aP b (ht b).2).2=e at t1 ⊢;generalize aP b (ht b).2=f;generalize ht b=d;exact adu (c:=c) (b:=b) (m:=(d.1,0,(aj,cd),(f.1,e.1,g.1),cd,0,nW)) (s:=g.2) fun h=>⟨a7 _,de,⟨t1.2,o.2 h⟩,de⟩
  .rw[Jc.2 q,aa,ag (by decide)];by_cases r:((ht b).1==3)=true
   .rw[r,ae,ak rfl,sx a i,an,sx a j,an,aw2 a k,an];unfold aEk;generalize vP b (aP b (aP b (ht b).2).2).2=g at n ⊢;generalize aP b (aP b (ht b).2).2=e;generalize aP b (ht b).2=f;generalize ht b=d;exact adu (c:=c) (b:=b) (m:=(d.1,f.1,(aj,cd),cd,g.1,e.1,nW)) (s:=g.2) fun h=>⟨a7 _,de,de,n.2 h⟩
   .rw[Jc.2 r,aa,ag (by decide)];by_cases t:((ht b).1==4)=true
    .rw[t,ae,ak rfl,sx a i,an,sx a j,an,sx a k,an,sx a w,an];unfold aEl;generalize aP b (aP b (aP b (aP b (ht b).2).2).2).2=u;generalize aP b (aP b (aP b (ht b).2).2).2=g;generalize aP b (aP b (ht b).2).2=e;generalize aP b (ht b).2=f;generalize ht b=d;exact adu (c:=c) (b:=b) (m:=(d.1,0,(aj,cd),cd,cd,0,f.1,e.1,g.1,u.1)) (s:=u.2) fun h=>⟨a7 _,de,de,de⟩
    .rw[Jc.2 t,aa,ag (by decide)];unfold aF2;generalize ht b=d;exact adu (c:=c) (b:=b) (m:=(d.1,0,(aj,cd),cd,cd,0,nW)) (s:=d.2) fun h=>⟨a7 _,de,de,de⟩
def amC {b:List Int}(a:cC b)(c:Int×Int):Ks F0 c b=some ((iZ c b).1,(iZ c b).2,()):=by
 have v:bB F0 (b,0,false)=some (((ht b).1,()),Wa b (ht b).2,()):=lV a (s:=(0,true)) (a7 _);have i:(ht b).2.1<=b.length:=(dz a (s:=(0,true)) (a7 _)).1;have j:=(dz a i).1;have k:=(dz a j).1;have w:=(dz a k).1;have t0:=wM a i;have t1:=wM a j;have l:=Q3 a t0.1;have n:=Q3 a k;have o:=amB a t1.1;rw[aot,v,an];unfold iZ adv;dsimp only;by_cases p:((ht b).1==1)=true
 .rw[p,ae,ak rfl,W1 a i,an,asv a t0.1,an];unfold aEi;generalize vP b (cQ b (ht b).2).2=e at l ⊢;generalize cQ b (ht b).2=f at t0 ⊢;generalize ht b=d;exact Wb (c:=c) (b:=b) (m:=(d.1,0,(f.1,e.1),cd,cd,0,nW)) (s:=e.2) fun h=>⟨t0.2,l.2 h,de,de⟩
 .rw[Jc.2 p,aa,ag (by decide)];by_cases q:((ht b).1==2)=true
  .rw[q,ae,ak rfl,lV a i,an,W1 a j,an,auz a t1.1,an];unfold aEj;generalize BL b (cQ b (aP b (ht b).2).2).2=g at o ⊢;generalize cQ b (aP b (ht b).2).2=e at t1 ⊢;generalize aP b (ht b).2=f;generalize ht b=d;exact Wb (c:=c) (b:=b) (m:=(d.1,0,(aj,cd),(f.1,e.1,g.1),cd,0,nW)) (s:=g.2) fun h=>⟨a7 _,de,⟨t1.2,o.2 h⟩,de⟩
  .rw[Jc.2 q,aa,ag (by decide)];by_cases r:((ht b).1==3)=true
   .rw[r,ae,ak rfl,lV a i,an,lV a j,an,asv a k,an];unfold aEk;generalize vP b (aP b (aP b (ht b).2).2).2=g at n ⊢;generalize aP b (aP b (ht b).2).2=e;generalize aP b (ht b).2=f;generalize ht b=d;exact Wb (c:=c) (b:=b) (m:=(d.1,f.1,(aj,cd),cd,g.1,e.1,nW)) (s:=g.2) fun h=>⟨a7 _,de,de,n.2 h⟩
   .rw[Jc.2 r,aa,ag (by decide)];by_cases t:((ht b).1==4)=true
    .rw[t,ae,ak rfl,lV a i,an,lV a j,an,lV a k,an,lV a w,an];unfold aEl;generalize aP b (aP b (aP b (aP b (ht b).2).2).2).2=u;generalize aP b (aP b (aP b (ht b).2).2).2=g;generalize aP b (aP b (ht b).2).2=e;generalize aP b (ht b).2=f;generalize ht b=d;exact Wb (c:=c) (b:=b) (m:=(d.1,0,(aj,cd),cd,cd,0,f.1,e.1,g.1,u.1)) (s:=u.2) fun h=>⟨a7 _,de,de,de⟩
    .rw[Jc.2 t,aa,ag (by decide)];unfold aF2;generalize ht b=d;exact Wb (c:=c) (b:=b) (m:=(d.1,0,(aj,cd),cd,cd,0,nW)) (s:=d.2) fun h=>⟨a7 _,de,de,de⟩
structure ff (w:ai):Prop where
 l:w.2.1.length<=1048576
 r:w.2.2.1.length<=1048576
 rl:∀x∈w.2.2.1,aoE x
 n:w.2.2.2.1.length<=1048576
 nb:∀x∈w.2.2.2.1,cC x.2
 s:w.2.2.2.2.length<=1048576
 st:∀x∈w.2.2.2.2,x.2.1.size<=1048576
def aw3 (c:Int×Int):LZ F0 c=some (sZ c,()):=by
 rw[akV,eV,an];unfold sZ;dsimp only;cases h:a8 c with
 |false=>rfl
 |true =>
  have:=bZ h;have a:=aud this.1 this.2.1;have e:al (c.1-1)=c.1-1:=aG (by omega) (by omega);rw[aX,aa,e,aG (n:=Int.tdiv (c.1-1) 3) (by omega) (by omega),ak rfl]
def Wc:aB:=(0,0,0,(0,0,cd,aj),[],[],([],0),[])
def aw4:gF:=(0,[])
def Q4:cB:=(0,aj,0)
def amD (c:Int×Int)(l:List aB)(k:Nat):Bool:=sN c (l.getD k Wc)&&((l.getD k Wc).1==(k:Int))
def aaQ (c:Int×Int)(l:List gF)(k:Nat):Bool:=(iZ c (l.getD k aw4).2).2&&fT 0 (al (c.1-1)) (l.getD k aw4).1
def aaR (c:Int×Int)(l:List cB)(k:Nat):Bool:=fT 0 (al (c.1-1)) (l.getD k Q4).2.2&&(bc (l.getD k Q4).2.1.data.toList&&(aH (l.getD k Q4).2.1.data.toList==(l.getD k Q4).1))
def amE (w:ai):Bool:=(List.range w.2.2.1.length).all (amD w.1 w.2.2.1)
def IN (w:ai):Bool:=(List.range w.2.2.2.1.length).all (aaQ w.1 w.2.2.2.1)
def sy (w:ai):Bool:=(List.range w.2.2.2.2.length).all (aaR w.1 w.2.2.2.2)
def b4 (w:ai):Bool :=
 a8 w.1&&(hY w.1.1 w.2.1&&(!decide ((w.2.1.length:Int)>sZ w.1)&&(!((w.2.2.1.length:Int) != w.1.1)&&(!decide ((w.2.2.2.1.length:Int)>60)&&(!decide ((w.2.2.2.2.length:Int)>300)&&(amE w&&(IN w&&sy w)))))))
def ajh (a b:Bool):(if a=true then some (b,()) else some (false,()))=some (a&&b,()):=by cases a<;>rfl
def aw5 {w:ai}(h:ff w):pM F0 (k8 F0) F0.n (k7 0 w.1.1 w.1.2 w.2.1 w.2.2.1 w.2.2.2.1 w.2.2.2.2)=some (sy w,()):=by
 have d:=h.s;rw[eU (fun m k=>pM F0 (k8 F0) m (k7 k w.1.1 w.1.2 w.2.1 w.2.2.1 w.2.2.2.1 w.2.2.2.2)) w.2.2.2.2.length (aaR w.1 w.2.2.2.2) (some (true,())) (some (false,())) (fun m k a=>?_) (fun m=>?_) _ (by rw[bg];omega),tD]
 .rfl
 .have c:=h.st _ (bT a);rw[Gy,aO a,ae,ao a,ab,aY a,cy,an,I8 c,an,gG c,an,ab5,ah (by omega)];unfold aaR;rw[aR a];dsimp only;cases fT 0 (al (w.1.1-1)) (w.2.2.2.2[k]).2.2<;>cases bc (w.2.2.2.2[k]).2.1.data.toList<;>try rfl
  by_cases b:aH (w.2.2.2.2[k]).2.1.data.toList=(w.2.2.2.2[k]).1
  .rw[show(aH (w.2.2.2.2[k]).2.1.data.toList != (w.2.2.2.2[k]).1)=false from Tn.2 b,show(aH (w.2.2.2.2[k]).2.1.data.toList==(w.2.2.2.2[k]).1)=true from cj.2 b];rfl
  .rw[Ez.2 b,b0.2 b];rfl
 .rw[Gy,aA,aa,ZZ]
def aw6 {w:ai}(h:ff w):pN F0 (la F0) F0.n (k9 0 w.1.1 w.1.2 w.2.1 w.2.2.1 w.2.2.2.1 w.2.2.2.2)=some (IN w&&sy w,()):=by
 have b:=h.n;rw[eU (fun m k=>pN F0 (la F0) m (k9 k w.1.1 w.1.2 w.2.1 w.2.2.1 w.2.2.2.1 w.2.2.2.2)) w.2.2.2.1.length (aaQ w.1 w.2.2.2.1) (some (sy w,())) (some (false,())) (fun m k a=>?_) (fun m=>?_) _ (by rw[bg];omega),ajh]
 .rfl
 .rw[Gz,aO a,ae,ao a,ab,aY a,show((w.1.1,w.1.2):Int×Int)=w.1 from rfl,ap2 (h.nb _ (bT a)),an,ab,cy,an,ab6,ah (by omega)];unfold aaQ;rw[aR a];dsimp only;cases (iZ w.1 (w.2.2.2.1[k]).2).2<;>cases fT 0 (al (w.1.1-1)) (w.2.2.2.1[k]).1<;>rfl
 .rw[Gz,aA,aa,Z0,aw5 h]
def aAk {w:ai}(h:ff w):pO F0 (ld F0) F0.n (lb 0 w.1.1 w.1.2 w.2.1 w.2.2.1 w.2.2.2.1 w.2.2.2.2)=some (amE w&&(IN w&&sy w),()):=by
 have c:=h.r;rw[eU (fun m k=>pO F0 (ld F0) m (lb k w.1.1 w.1.2 w.2.1 w.2.2.1 w.2.2.2.1 w.2.2.2.2)) w.2.2.1.length (amD w.1 w.2.2.1) (some (IN w&&sy w,())) (some (false,())) (fun m k a=>?_) (fun m=>?_) _ (by rw[bg];omega),ajh]
 .rfl
 .rw[GA,aO a,ae,ao a,ab,aY a,ab,show((w.1.1,w.1.2):Int×Int)=w.1 from rfl,gI (h.rl _ (bT a)),an,ab7,ah (by omega)];unfold amD;rw[aR a];dsimp only;by_cases b:(w.2.2.1[k]).1=(k:Int)
  .rw[show((w.2.2.1[k]).1 != (k:Int))=false from Tn.2 b,show((w.2.2.1[k]).1==(k:Int))=true from cj.2 b,aa,Bool.and_true];cases sN w.1 w.2.2.1[k]<;>rfl
  .rw[Ez.2 b,b0.2 b,ae,Tr];rfl
 .rw[GA,aA,aa,Z1,aw6 h]
def Fl {w:ai}(h:ff w):hA F0 w=some (b4 w,()):=by rw[ahM,eV,an,afC (aU h.l (by omega)),an,aw3,an,aAk h];unfold b4;cases a8 w.1<;>cases hY w.1.1 w.2.1<;>cases decide ((w.2.1.length:Int)>sZ w.1)<;>cases ((w.2.2.1.length:Int) != w.1.1)<;>cases decide ((w.2.2.2.1.length:Int)>60)<;>cases decide ((w.2.2.2.2.length:Int)>300)<;>rfl
def aw7 {w:ai}(h:ff w):p5 F0 (lI F0) F0.n (lH w.2.2.2.2 (w.2.2.2.2.length:Int) 0 w.1.1 w.1.2)=some (sy w,()):=by
 have d:=h.s;rw[eU (fun m k=>p5 F0 (lI F0) m (lH w.2.2.2.2 (w.2.2.2.2.length:Int) k w.1.1 w.1.2)) w.2.2.2.2.length (aaR w.1 w.2.2.2.2) (some (true,())) (some (false,())) (fun m k a=>?_) (fun m=>?_) _ (by rw[bg];omega),tD]
 .rfl
 .have c:=h.st _ (bT a);rw[G1,aO a,ae,ao a,ab,aY a,cG,an,CK c,an,amu c,an,acH,ah (by omega)];unfold aaR;rw[aR a];dsimp only;cases fT 0 (al (w.1.1-1)) (w.2.2.2.2[k]).2.2<;>cases bc (w.2.2.2.2[k]).2.1.data.toList<;>try rfl
  by_cases b:aH (w.2.2.2.2[k]).2.1.data.toList=(w.2.2.2.2[k]).1
  .rw[show(aH (w.2.2.2.2[k]).2.1.data.toList != (w.2.2.2.2[k]).1)=false from Tn.2 b,show(aH (w.2.2.2.2[k]).2.1.data.toList==(w.2.2.2.2[k]).1)=true from cj.2 b];rfl
  .rw[Ez.2 b,b0.2 b];rfl
 .rw[G1,aA,aa,aam]
def aw8 {w:ai}(h:ff w):p6 F0 (lK F0) F0.n (lJ w.2.2.2.1 (w.2.2.2.1.length:Int) 0 w.1.1 w.1.2 w.2.1 w.2.2.1 w.2.2.2.1 w.2.2.2.2 w.1.1 w.1.2)=some (IN w&&sy w,()):=by
 have b:=h.n;rw[eU (fun m k=>p6 F0 (lK F0) m (lJ w.2.2.2.1 (w.2.2.2.1.length:Int) k w.1.1 w.1.2 w.2.1 w.2.2.1 w.2.2.2.1 w.2.2.2.2 w.1.1 w.1.2)) w.2.2.2.1.length (aaQ w.1 w.2.2.2.1) (some (sy w,())) (some (false,())) (fun m k a=>?_) (fun m=>?_) _ (by rw[bg];omega),ajh]
 .rfl
 .rw[G3,aO a,ae,ao a,ab,aY a,show((w.1.1,w.1.2):Int×Int)=w.1 from rfl,amC (h.nb _ (bT a)),an,cG,an,acI,ah (by omega)];unfold aaQ;rw[aR a];dsimp only;cases (iZ w.1 (w.2.2.2.1[k]).2).2<;>cases fT 0 (al (w.1.1-1)) (w.2.2.2.1[k]).1<;>rfl
 .rw[G3,aA,aa,aan,aw7 h]
def aAl {w:ai}(h:ff w):p7 F0 (lM F0) F0.n (lL w.2.2.1 (w.2.2.1.length:Int) 0 w.1.1 w.1.2 w.2.1 w.2.2.1 w.2.2.2.1 w.2.2.2.2 w.1.1 w.1.2)=some (amE w&&(IN w&&sy w),()):=by
 have c:=h.r;rw[eU (fun m k=>p7 F0 (lM F0) m (lL w.2.2.1 (w.2.2.1.length:Int) k w.1.1 w.1.2 w.2.1 w.2.2.1 w.2.2.2.1 w.2.2.2.2 w.1.1 w.1.2)) w.2.2.1.length (amD w.1 w.2.2.1) (some (IN w&&sy w,())) (some (false,())) (fun m k a=>?_) (fun m=>?_) _ (by rw[bg];omega),ajh]
 .rfl
 .rw[G4,aO a,ae,ao a,ab,aY a,show((w.1.1,w.1.2):Int×Int)=w.1 from rfl,Q1 (h.rl _ (bT a)),an,acJ,ah (by omega)];unfold amD;rw[aR a];dsimp only;by_cases b:(w.2.2.1[k]).1=(k:Int)
  .rw[show((w.2.2.1[k]).1 != (k:Int))=false from Tn.2 b,show((w.2.2.1[k]).1==(k:Int))=true from cj.2 b,aa,Bool.and_true];cases sN w.1 w.2.2.1[k]<;>rfl
  .rw[Ez.2 b,b0.2 b,ae,Tr];cases sN w.1 w.2.2.1[k]<;>rfl
 .rw[G4,aA,aa,aao,aw8 h]
def eW {w:ai}(h:ff w):b2 F0 w=some (b4 w,()):=by rw[aiI,hX,an,aaK (aU h.l (by omega)),an,agW,an,aAl h];unfold b4;cases a8 w.1<;>cases hY w.1.1 w.2.1<;>cases decide ((w.2.1.length:Int)>sZ w.1)<;>cases ((w.2.2.1.length:Int) != w.1.1)<;>cases decide ((w.2.2.2.1.length:Int)>60)<;>cases decide ((w.2.2.2.2.length:Int)>300)<;>rfl
structure aH7 (r:aB):Prop where
 i1:I6 r.1
 i2:I6 r.2.1
 i3:I6 r.2.2.2.1.1
 i4:I6 r.2.2.2.1.2.1
 i5:I6 r.2.2.2.1.2.2.1.1
 d:r.2.2.2.1.2.2.2.size<=1048576
 p:r.2.2.2.2.1.length<=1048576
 t:r.2.2.2.2.2.1.length<=1048576
 h:r.2.2.2.2.2.2.2.length<=1048576
def aF3 (l:List Int)(a b:cB):Bool:= !decide (a.2.2∈l)&&((a.2.2==b.2.2)&&((a.1==b.1)&& !(a.2.1.toList==b.2.1.toList)))
def okV (w:ai)(i k:Nat):Bool:= !aF3 w.2.1 (w.2.2.2.2.getD i Q4) (w.2.2.2.2.getD k Q4)
def W2 (w:ai):Bool:=b4 w&&(List.range w.2.2.2.2.length).all fun i=>(List.range w.2.2.2.2.length).all (okV w i)
def aw9 {V:Type}(h a b c:Bool)(x y:V):br (!h) (br a (br b (br (!c) x y) y) y) y=if (!(!h&&(a&&(b&& !c))))=true then y else x:=by cases h<;>cases a<;>cases b<;>cases c<;>rfl
def aAm {w:ai}(h:ff w){γ:Type}(J:Ex->St->Option γ)(n:Nat){i:Nat}(hi:i<w.2.2.2.2.length) :
  dS F0 (ha F0 J n) F0.n (c9 w.2.2.2.2 (w.2.2.2.2.length:Int) (i:Int) w.2.2.2.2 (w.2.2.2.2.length:Int) 0 w.1.1 w.1.2 w.2.1 w.2.2.1 w.2.2.2.1 w.2.2.2.2 (w.2.2.2.2[i]).1 (w.2.2.2.2[i]).2.1 (w.2.2.2.2[i]).2.2) =
  if (List.range w.2.2.2.2.length).all (okV w i)=true then kb F0 J n (hh w.2.2.2.2 (w.2.2.2.2.length:Int) ((i+1:Nat):Int) w.1.1 w.1.2 w.2.1 w.2.2.1 w.2.2.2.1 w.2.2.2.2) else J .ret (sV false):=by
 have b:=h.s;have c:=h.l;refine eU (fun m k=>dS F0 (ha F0 J n) m (c9 w.2.2.2.2 (w.2.2.2.2.length:Int) (i:Int) w.2.2.2.2 (w.2.2.2.2.length:Int) k w.1.1 w.1.2 w.2.1 w.2.2.1 w.2.2.2.1 w.2.2.2.2 (w.2.2.2.2[i]).1 (w.2.2.2.2[i]).2.1 (w.2.2.2.2[i]).2.2)) w.2.2.2.2.length (okV w i) _ _ (fun m k a=>?_) (fun m=>?_) _ (by rw[bg];omega)
 .rw[As,aO a,ae,ao a,ab,aY a,wL (by omega),an,Vq,ah (by omega)];dsimp only;rw[aw9];unfold okV aF3;rw[aR hi,aR a]
 .rw[As,aA,aa,Tf,ah (by omega)]
def ai5 {w:ai}(h:ff w):u6 F0 w=some (W2 w,()):=by
 have b:=h.s;rw[aar,eW h,an,eU (fun m k=>kb F0 (kS F0) m (hh w.2.2.2.2 (w.2.2.2.2.length:Int) k w.1.1 w.1.2 w.2.1 w.2.2.1 w.2.2.2.1 w.2.2.2.2)) w.2.2.2.2.length (fun i=>(List.range w.2.2.2.2.length).all (okV w i)) (some (true,())) (some (false,())) (fun m k a=>?_) (fun m=>?_) _ (by rw[bg];omega),tD]
 .unfold W2;cases b4 w<;>rfl
 .rw[Au,aO a,ae,ao a,ab,aY a,aAm h _ _ a,Vr]
 .rw[Au,aA,aa,Tg]
def nX (l:List Int):Nat->List Int
 |0=>[]|k+1=>nX l k++if (k:Int)∈l then [] else [(k:Int)]
def iN (l:List Int):∀k,(nX l k).length<=k
 |0=>bh _|k+1=>by
  have:=iN l k;unfold nX;split
  .rw[fD];omega
  .rw[aN,bU];omega
def afK (l:List Int):∀k,∀x∈nX l k,0<=x/\x<k
 |0,x,h=>by cases h
 |k+1,x,h=>by
  unfold nX at h;rcases eK.1 h with h1|h1
  .have:=afK l k x h1;omega
  .split at h1
   .cases h1
   .rw[fj.1 h1];omega
def aI (w:ai):List Int:=nX w.2.1 w.2.2.1.length
def ag3 {V:Type}(X:List Int->V)(l xs:List Int)(k:Int):br (!decide (k∈l)) (X (xs++[k])) (X xs)=X (xs++if k∈l then [] else [k]):=by
 by_cases h:k∈l
 .rw[aS h,ak h,fD];rfl
 .rw[aV h,ag h];rfl
def Q5 {w:ai}(h:ff w):wv F0 w=some (aI w,()):=by
 have e:=h.r;have f:=h.l;rw[alw];refine cx (fun n i (a:List Int)=>oa F0 (uO F0) n (jz i w.1.1 w.1.2 w.2.1 w.2.2.1 w.2.2.2.1 w.2.2.2.2 a)) w.2.2.1.length (fun k a=>a=nX w.2.1 k) _ (fun n k a c b=>.inr ⟨nX w.2.1 (k+1),?_,rfl⟩) (fun n a b=>?_) _ 0 [] (a7 _) rfl (by rw[bg];omega)
 .have d:=iN w.2.1 k;rw[<-b]at d;rw[Kc,aO c,ae,ep (by omega),an,au (by omega) (by omega) (by rw[bU];omega),ab,ah (by omega)];dsimp only;rw[ag3 (fun a=>oa F0 (uO F0) n (jz ((k+1:Nat):Int) w.1.1 w.1.2 w.2.1 w.2.2.1 w.2.2.2.1 w.2.2.2.2 a)),b];rfl
 .rw[Kc,aA,aa,acr,b];rfl
def mf {w:ai}(h:ff w):gm F0 w=some (aI w,()):=by
 have e:=h.r;have f:=h.l;rw[al5];refine cx (fun n i (a:List Int)=>oe F0 (u5 F0) n (jB (w.2.2.1.length:Int) i w.1.1 w.1.2 w.2.1 w.2.2.1 w.2.2.2.1 w.2.2.2.2 a)) w.2.2.1.length (fun k a=>a=nX w.2.1 k) _ (fun n k a c b=>.inr ⟨nX w.2.1 (k+1),?_,rfl⟩) (fun n a b=>?_) _ 0 [] (a7 _) rfl (by rw[bg];omega)
 .have d:=iN w.2.1 k;rw[<-b]at d;rw[Kx,aO c,ae,wL (by omega),an,au (by omega) (by omega) (by rw[bU];omega),ab,ah (by omega)];dsimp only;rw[ag3 (fun a=>oe F0 (u5 F0) n (jB (w.2.2.1.length:Int) ((k+1:Nat):Int) w.1.1 w.1.2 w.2.1 w.2.2.1 w.2.2.2.1 w.2.2.2.2 a)),b];rfl
 .rw[Kx,aA,aa,acK,b];rfl
def oh {w:ai}{k:Nat}(a:k<(aI w).length):∃j:Nat,(aI w)[k]=(j:Int)/\j<w.2.2.1.length:=by have:=afK w.2.1 w.2.2.1.length _ (bT a);exact⟨(aI w)[k].toNat,by show _=(((aI w)[k]).toNat:Int);have b:0<=(aI w)[k]:=this.1;omega,by have b:0<=(aI w)[k]:=this.1;have c:(aI w)[k]<w.2.2.1.length:=this.2;omega⟩
def aCs (w:ai)(x:Int):ByteArray:=(w.2.2.1.getD x.toNat Wc).2.2.2.1.2.2.2
def amF (s t:ByteArray):Bool:=bc s.data.toList&&(bc t.data.toList&&(decide ((s.size:Int)>=(t.size:Int))&&(((s.extract 0 t.size).toList==t.toList)&&(((s.size:Int)==(t.size:Int)) || (ij s (t.size:Int)==47)))))
def auA {s t:ByteArray}(b:s.size<=1048576)(c:t.size<=1048576):H4 F0 s t=some (amF s t,()):=by
 rw[ahY,I8 b,an,I8 c,an];unfold amF;dsimp only;cases bc s.data.toList<;>cases bc t.data.toList<;>try rfl
 rw[aX,aa,aa,fF,fF];by_cases d:t.size<=s.size
 .rw[aV (show ¬(t.size:Int)>(s.size:Int) by omega),aa,aS (show(s.size:Int)>=(t.size:Int) by omega),fF,aCn d,ab,l2,show(0:Int).toNat=0 from rfl];cases ((s.extract 0 t.size).toList==t.toList)<;>try rfl
  rw[aX,aa,fF];by_cases a:(s.size:Int)=(t.size:Int)
  .rw[show((s.size:Int)==(t.size:Int))=true from cj.2 a];rfl
  .rw[b0.2 a,aa,ao (by omega),ab];rfl
 .rw[aS (show(t.size:Int)>(s.size:Int) by omega),ae,aV (show ¬(s.size:Int)>=(t.size:Int) by omega)];rfl
def adw {s t:ByteArray}(b:s.size<=1048576)(c:t.size<=1048576):Aq F0 s t=some (amF s t,()):=by
 rw[aiJ,CK b,an,CK c,an,Vm,N2];unfold amF;dsimp only;cases bc s.data.toList<;>cases bc t.data.toList<;>try rfl
 rw[ae,ae,fF,fF];by_cases d:t.size<=s.size
 .rw[aS (show(s.size:Int)>=(t.size:Int) by omega),fF,ae,aCn d,ab,l2,show(0:Int).toNat=0 from rfl,an,an];dsimp only;cases ((s.extract 0 t.size).toList==t.toList)<;>try rfl
  rw[ae,fF];by_cases a:(s.size:Int)=(t.size:Int)
  .rw[show((s.size:Int)==(t.size:Int))=true from cj.2 a];rfl
  .rw[b0.2 a,aa,ao (by omega),ab];rfl
 .rw[aV (show ¬(s.size:Int)>=(t.size:Int) by omega)];rfl
def ag4 (s t:ByteArray):Bool:=amF s t || amF t s
def axa {s t:ByteArray}(a:s.size<=1048576)(b:t.size<=1048576):QL F0 s t=some (ag4 s t,()):=by rw[aou,adw a b,an,adw b a,an];unfold ag4;cases amF s t<;>rfl
end Go.Am.Tryz
