/- No condition. -/
import Derived.Test.YtpkabclplaibaaaGreatDoorQjYJL1
import Derived.Test.YtpkabclplaibaaaGreatDoorQjAmWf
set_option linter.all false
namespace Go.Am.Tryz
open Go.Am
def aqQ (a b:List Int):List Int:=b.foldl Rf (a.foldl Rf [])
def pE:∀(l a:List Int),(l.foldl Rf a).length<=a.length+l.length
 |[],a=>by simp
 |x::l,a=>by have b:=pE l (Rf a x);have c:=TQ a x;rw[List.foldl_cons,bG];omega
def awG (a b:List Int):(aqQ a b).length<=a.length+b.length:=by unfold aqQ;have d:=pE b (a.foldl Rf []);have c:=pE a [];rw[bd]at c;omega
def amL {γ:Type}(X:Nat->Int->List Int->Option γ)(l a:List Int)(R:Option γ)(f:a.length+l.length<=1048576)(c:∀n k xs (h:k<l.length),xs.length<=1048575->X (n+1) (k:Int) xs=X n ((k+1:Nat):Int) (Rf xs l[k]))
  (d:∀n,X (n+1) (l.length:Int) (l.foldl Rf a)=R) (n:Nat) (e:l.length<n):X n 0 a=R:=by
 refine ca X l.length (fun k xs=>xs=(l.take k).foldl Rf a) R (fun n k xs b h=>.inr ⟨Rf xs l[k],c n k xs b ?_,?_⟩) (fun n xs h=>?_) n 0 a (aX _) rfl (by omega)
 .have:=pE (l.take k) a;rw[h];rw[cp]at this;omega
 .rw[de b,List.foldl_append,<-h];rfl
 .rw[jr]at h;rw[h];exact d n
def aqR {a b:List Int}(h:a.length+b.length<=1048576):GD F0 a b=some (aqQ a b,()):=by
 rw[afj];have d:=pE a [];rw[bd]at d;refine amL (fun n i xs=>wR F0 (A4 F0) n (p8 a b i xs)) a [] _ (by rw[bd];omega) (fun n k xs c e=>?_) (fun n=>?_) _ (by rw[bj];omega)
 .rw[Ff,aK c,ae,al c,ad,aM c,Jr (by omega),ao,ag (by omega)]
 .rw[Ff,az,aa,XQ];refine amL (fun n i xs=>wQ F0 (A3 F0) n (p7 b i xs)) b (a.foldl Rf []) _ (by omega) (fun n k xs c e=>?_) (fun n=>?_) _ (by rw[bj];omega)
  .rw[Fe,aK c,ae,al c,ad,aM c,Jr (by omega),ao,ag (by omega)]
  .rw[Fe,az,aa,XP];rfl
def oL {i n:Int}(a:0<=i)(h:i<n):bh i n=true:=by simp[bh];omega
def awH {c:Int×Int}{view s:Int}(b:bq c=true)(d:0<=view)(e:0<=s)(h:s<=c.1-1):cJ c view (ac2 c view s)=s:=by
 have i:=ch b;have f:=agA (view%c.1+s) (show c.1≠0 by omega);have j:=agw (view%c.1+s) (show 0<c.1 by omega);unfold ac2;rw[an ⟨b,d,e,h⟩];unfold cJ;rw[an ⟨b,d,f,by omega⟩];obtain⟨n,a⟩:=c;dsimp only at *;have g:n=4\/n=5\/n=6\/n=7:=by omega
 rcases g with rfl|rfl|rfl|rfl<;>omega
def ayG (c:Int×Int)(view:Int):cJ c view (-1)=-1:=by unfold cJ;rw[ah (fun h=>by omega)]
def ao4 {c:Int×Int}{view i:Int}(h:0<=cJ c view i):bq c=true/\0<=view/\cJ c view i<=c.1-1:=by
 unfold cJ at h ⊢;by_cases a:bq c=true/\0<=view/\0<=i/\i<=c.1-1
 .rw[an a];have b:=ch a.1;have d:=agw (i+c.1-view%c.1) (show 0<c.1 by omega);exact⟨a.1,a.2.1,by omega⟩
 .rw[ah a]at h;omega
def aAz {c:Int×Int}{view i:Int}(h:0<=cJ c view i):cJ c view (ac3 c view i)<cJ c view i:=by
 have a:=ao4 h;have d:=ch a.1;unfold ac3;by_cases b:cJ c view i<=0
 .rw[an b,ayG];omega
 .have hd1:0<=(cJ c view i-1)/c.2:=Int.ediv_nonneg (by omega) (by omega);have e:(cJ c view i-1)/c.2<=cJ c view i-1:=Int.ediv_le_self c.2 (by omega);rw[ah b,awH a.1 a.2.1 hd1 (by omega)];omega
def O1 (c:Int×Int)(view:Int):Nat->Int->List Int
 |0,_=>[]|k+1,i=>if 0<=cJ c view i then i::O1 c view k (ac3 c view i) else []
def amM (c:Int×Int)(view i:Int):List Int:=O1 c view 8 i
def aek (c:Int×Int)(view:Int):∀(k:Nat) (i:Int),(O1 c view k i).length<=k
 |0,_=>bu _|k+1,i=>by
  unfold O1;split
  .have:=aek c view k (ac3 c view i);rw[bG];omega
  .exact aX _
def awI (c:Int×Int)(view i:Int):(amM c view i).length<=8:=aek c view 8 i
def aqS (c:Int×Int)(view:Int){γ:Type}(J:Ex->St->Option γ):∀(k:Nat) (i:Int) (xs:List Int) (n:Nat),cJ c view i<k->xs.length+k<=1000->k<n ->
  OG F0 J n (GF view i c.1 c.2 xs)=J (.exit 0) (Mc (xs++O1 c view k i))
 |0,i,xs,n,a,b,d=>by obtain⟨n,rfl⟩:∃m,n=m+1:=⟨n-1,by omega⟩;rw[P6,show((c.1,c.2):Int×Int)=c from rfl,TU,ao];dsimp only;rw[aT (show ¬cJ c view i>=0 by omega),aa,O1,gO]
 |k+1,i,xs,n,a,b,d=>by
  obtain⟨n,rfl⟩:∃m,n=m+1:=⟨n-1,by omega⟩;rw[P6,show((c.1,c.2):Int×Int)=c from rfl,TU,ao];unfold O1;dsimp only;by_cases h:0<=cJ c view i
  .have e:=aAz h;rw[aS (show cJ c view i>=0 from h),ae,an h,aE (by omega) (by omega) (by rw[ej];omega),ad,ayF,ao];dsimp only;rw[aqS c view J k (ac3 c view i) (xs++[i]) n (by omega) (by rw[aW,ej];omega) (by omega),mP];rfl
  .rw[aT (show ¬cJ c view i>=0 from h),aa,ah h,gO]
def aAA (c:Int×Int)(view i:Int):ZY F0 c view i=some (amM c view i,()):=by have a:=amK c view i;rw[aqx,aqS c view _ 8 i [] _ (by omega) (by rw[bd];omega) (by rw[bj];omega),aim,vr];rfl
def cmn (b a:List Int):Nat:=a.countP fun x=>decide (x∈b)
def ayH (b a:List Int)(x:Int):cmn b (a++[x])=cmn b a+if x∈b then 1 else 0:=by
 unfold cmn;rw[List.countP_append,List.countP_singleton];by_cases h:x∈b
 .simp[h]
 .simp[h]
def aCe (b a:List Int):cmn b a<=a.length:=List.countP_le_length
def atn {a b:List Int}(f:a.length<=1048576)(g:b.length<=1048576):Kv F0 a b=some ((cmn b a:Int),()):=by
 rw[ain];refine ca (fun n i (q:Int)=>Cf F0 (EB F0) n (tF a b q i)) a.length (fun k q=>q=(cmn b (a.take k):Int)) _ (fun n k q c d=>.inr ⟨(cmn b (a.take (k+1)):Int),?_,rfl⟩) (fun n q d=>?_) _ 0 0 (aX _) rfl (by rw[bj];omega)
 .have e:=aCe b (a.take k);rw[cp]at e;rw[Iy,aK c,ae,al c,ad,aM c,eg (by omega),ao,de c,ayH,d,ag (by omega)];dsimp only;rw[alc];by_cases h:a[k]∈b
  .rw[aS h,ae,ao,an h];dsimp only;rw[ag (by omega)]
  .rw[aT h,aa,ao,ah h];dsimp only;rw[aB (by omega) (by omega),Int.add_zero];rfl
 .rw[Iy,az,aa,Z0,d,jr]
def Srt (l:List Int):Prop:=l.Pairwise (·< ·)
def aqT {i x:Int}:∀{l:List Int},x∈af8 i l↔x=i\/x∈l
 |[]=>by simp[af8]
 |y::l=>by
  unfold af8;split
  .rw[dK]
  .rw[dK,aqT,dK];constructor
   .rintro(h|h|h)
    .exact .inr (.inl h)
    .exact .inl h
    .exact .inr (.inr h)
   .rintro(h|h|h)
    .exact .inr (.inl h)
    .exact .inl h
    .exact .inr (.inr h)
def aqU {i x:Int}{l:List Int}:x∈Rf l i↔x=i\/x∈l:=by
 unfold Rf;split
 .rename_i h;exact⟨.inr,fun a=>a.elim (fun e=>e▸h) id⟩
 .exact aqT
structure aEf (c:Int×Int) (view:Int) (dE:List Int) (k:Nat) (xs:List (List Int)):Prop where
 len:(xs.length:Int)=c.1
 srt:∀i,0<=i->i<c.1->Srt (aJ xs i [])
 mem:∀i x,0<=i->i<c.1->x∈aJ xs i []->x∈dE/\0<=x/\x<c.1
 up:∀x,x∈dE->0<=x->x<c.1->(k:Int)<=cJ c view x->∃a:Int,0<=a/\a<max k 1/\x∈aJ xs (ac2 c view a) []
abbrev bK:=Int×Int×b0×ByteArray
abbrev cK:=ByteArray×b0
abbrev cq:=Int×Int×cK×b0×b0×Int×ez
abbrev oM:=Int×cq
abbrev ay:=Int×Int×Int×bK×List ez×List b0×(List Int×Int)×List oM
abbrev j7:=Int×List Int
abbrev eA:=Int×ByteArray×Int
abbrev aj:=(Int×Int)×List Int×List ay×List j7×List eA
def W6 {b:ByteArray}(h:b.size<=1048576):b.data.toList.length<=1073741824:=aR (agK (show b.data.toList.length=b.size from rfl)) (by omega)
def Hz {b:ByteArray}(h:b.size<=1048576):ep F0 b=some (bF b.data.toList,()):=OY (W6 h)
def Bt {b:ByteArray}(h:b.size<=1048576):e3 F0 b=some (bF b.data.toList,()):=TS (W6 h)
def gv {b:ByteArray}(h:b.size<=1048576):cc F0 b=some (bm b.data.toList,()):=ajA (W6 h)
def ajB {b:ByteArray}(h:b.size<=1048576):pj F0 b=some (bm b.data.toList,()):=aei (W6 h)
def Bu (q:b0):Prop:=q.2.1.size<=1048576/\q.2.2.length<=1048576
def fe (c:Int×Int)(q:b0):Bool:=af9 c (q.1,q.2.1.data.toList,q.2.2)
def O2 {q:b0}(h:Bu q)(c:Int×Int):iV F0 c q=some (fe c q,()):=aqN (v:=q.1) (l:=q.2.1.data.toList) (s:=q.2.2) (W6 h.1) (aR h.2 (by omega)) c
def ajC {q:b0}(h:Bu q)(c:Int×Int):Bg F0 c q=some (fe c q,()):=awF (v:=q.1) (l:=q.2.1.data.toList) (s:=q.2.2) (W6 h.1) (aR h.2 (by omega)) c
def b2 (c:Int×Int)(s:bK):Bool:=ga 0 60 s.1&&(ga 0 60 s.2.1&&(fe c s.2.2.1&&bF s.2.2.2.data.toList))
def oN (s:bK):Prop:=Bu s.2.2.1/\s.2.2.2.size<=1048576
def Bv {s:bK}(h:oN s)(c:Int×Int):hM F0 c s=some (b2 c s,()):=by rw[ahT,cE,ao,cE,ao,O2 h.1,ao,Hz h.2,ao];unfold b2;cases ga 0 60 s.1<;>cases ga 0 60 s.2.1<;>cases fe c s.2.2.1<;>rfl
def ael {s:bK}(h:oN s)(c:Int×Int):vf F0 c s=some (b2 c s,()):=by rw[ai3,c7,ao,c7,ao,ajC h.1,ao,Bt h.2,ao];unfold b2;cases ga 0 60 s.1<;>cases ga 0 60 s.2.1<;>cases fe c s.2.2.1<;>rfl
def aL {U:Type}{a:List U}{k:Nat}(h:k<a.length)(d:U):a.getD k d=a[k]:=by simp[List.getD,h]
def TV {U:Type}(d:U)(p:U->Bool)(q:U->U->Bool)(l:List U):Bool:=(List.range l.length).all fun k=>p (l.getD k d)&&(decide (k=0) || q (l.getD (k-1) d) (l.getD k d))
def aaT {V:Type}{k:Nat}(a b:Bool)(x y:V)(c:V)(d:0<k->c=br (!b) x y) :
  br (!a) x (br (decide ((k:Int)>0)) c y)=if (a&&(decide (k=0) || b))=true then y else x:=by
 cases a with
 |false=>rfl
 |true =>
  rw[aZ,aa,kO];by_cases h:k=0
  .subst h;rfl
  .rw[aS (show(k:Int)>0 by omega),ae,aT h,y7,d (by omega)];cases b<;>rfl
def ny:ez:=(0,0,0,0)
def sB (a b:ez):Bool:=decide (a.1<b.1) || ((a.1==b.1)&&decide (a.2.2.2<b.2.2.2))
def aaU (a b:ez):sd F0 a b=some (sB a b,()):=by rw[abS];unfold sB;cases decide (a.1<b.1)<;>cases (a.1==b.1)<;>rfl
def ao5 (a b:ez):Cu F0 a b=some (sB a b,()):=by rw[acs];unfold sB;cases decide (a.1<b.1)<;>cases (a.1==b.1)<;>rfl
def mJ (p:List ez):Bool:=TV ny gf sB p&&decide ((p.length:Int)<=12)
def ajD {p:List ez}(h:p.length<=1048576):Db F0 p=some (mJ p,()):=by
 rw[ahU,cu (fun m k=>se F0 (s4 F0) m (mZ p k)) p.length (fun k=>gf (p.getD k ny)&&(decide (k=0) || sB (p.getD (k-1) ny) (p.getD k ny))) (some (decide ((p.length:Int)<=12),())) (some (false,())) (fun m k a=>?_) (fun m=>?_) _ (by rw[bj];omega)]
 .unfold mJ TV;cases (List.range p.length).all _<;>rfl
 .rw[Ib,aK a,ae,al a,ad,aM a,N3,ao,aL a,abT,ag (by omega),ad];refine aaT _ (sB (p.getD (k-1) ny) p[k]) _ _ _ fun b=>?_
  rw[Jt b (by omega),al (show k-1<p.length by omega),ad,aM (show k-1<p.length by omega),aaU,ao,aL (show k-1<p.length by omega)]
 .rw[Ib,az,aa,ZC]
def aqV {p:List ez}(h:p.length<=1048576):Lb F0 p=some (mJ p,()):=by
 rw[ai4,cu (fun m k=>sw F0 (tW F0) m (nm p p (p.length:Int) k)) p.length (fun k=>gf (p.getD k ny)&&(decide (k=0) || sB (p.getD (k-1) ny) (p.getD k ny))) (some (decide ((p.length:Int)<=12),())) (some (false,())) (fun m k a=>?_) (fun m=>?_) _ (by rw[bj];omega)]
 .unfold mJ TV;cases (List.range p.length).all _<;>rfl
 .rw[IQ,aK a,ae,al a,ad,aM a,N4,ao,aL a,acv,ag (by omega)];refine aaT _ (sB (p.getD (k-1) ny) p[k]) _ _ _ fun b=>?_
  rw[Jt b (by omega),al (show k-1<p.length by omega),ad,aM (show k-1<p.length by omega),ao5,ao,aL (show k-1<p.length by omega)]
 .rw[IQ,az,aa,aaf]
def dY (b:ByteArray):Bool:=b.toList==ai.toList
def iF (c:Int×Int)(p:b0):Bool :=
 bq c&&(ga 1 60 p.1&&(j6 c.1 p.2.2&&(!((p.2.2.length:Int)==0)&&(dY p.2.1 || (bF p.2.1.data.toList&&(bm p.2.1.data.toList==p.1))))))
def O3 {p:b0}(h:Bu p)(c:Int×Int):jC F0 c p=some (iF c p,()):=by rw[ahV,gK,ao,cE,ao,ac0 (aR h.2 (by omega)),ao,Hz h.1,ao,gv h.1,ao];unfold iF dY;cases bq c<;>cases ga 1 60 p.1<;>cases j6 c.1 p.2.2<;>cases ((p.2.2.length:Int)==0)<;>cases (p.2.1.toList==ai.toList)<;>cases bF p.2.1.data.toList<;>rfl
def aCf (n:Nat):decide ((n:Int)>0)= !((n:Int)==0):=by
 cases n with
 |zero=>rfl
 |succ n =>
  rw[aS (by omega),bX.2 (by omega)];rfl
def aem {p:b0}(h:Bu p)(c:Int×Int):Dz F0 c p=some (iF c p,()):=by rw[ai6,pD,ao,c7,ao,Ys (aR h.2 (by omega)),ao,Bt h.1,ao,ajB h.1,ao,aCf];unfold iF dY;dsimp only;generalize (bm p.2.1.data.toList==p.1)=b;cases bq c<;>cases ga 1 60 p.1<;>cases j6 c.1 p.2.2<;>cases ((p.2.2.length:Int)==0)<;>cases (p.2.1.toList==ai.toList)<;>cases bF p.2.1.data.toList<;>cases b<;>rfl
def b1:b0:=(0,ai,[])
def j8 (a b:b0):Bool:=decide (a.1<b.1) || ((a.1==b.1)&&Op.bytesLess a.2.1.toList b.2.1.toList)
def W7 (a b:b0):o3 F0 a b=some (j8 a b,()):=by rw[ZD];unfold j8;cases decide (a.1<b.1)<;>cases (a.1==b.1)<;>rfl
def aCg (x y:Int):Int:=if x<y then -1 else if x>y then 1 else 0
def aqW (x y:Int):tX F0 x y=some (aCg x y,()):=by
 rw[X3,NH,ao,NH,ao,agF,agF,aa,aa];unfold aCg;by_cases h:x<y
 .rw[aS h,ae,an h]
 .rw[aT h,aa,ah h];by_cases a:x>y
  .rw[aS a,ae,an a]
  .rw[aT a,aa,ah a]
def aCh (x y:ByteArray):Int:=if Op.bytesLess x.toList y.toList=true then -1 else if (x.toList==y.toList)=true then 0 else 1
def ao6 (x y:ByteArray):mr F0 x y=some (aCh x y,()):=by rw[Q2,Fy,ao,Fy,ao,amr,amr,aa,aa];unfold aCh;cases Op.bytesLess x.toList y.toList<;>cases (x.toList==y.toList)<;>rfl
def ac5 (a b:b0):∃r,oE F0 a b=some (r,())/\decide (r>=0)= !j8 a b:=by
 rw[S9,aqW,ao,ao6,ao];unfold j8 aCg aCh;dsimp only;by_cases h:a.1<b.1
 .rw[an h,aS h];exact⟨-1,rfl,rfl⟩
 .rw[ah h,aT h,y7];by_cases c:a.1>b.1
  .rw[an c,bX.2 (show a.1≠b.1 by omega)];exact⟨1,rfl,rfl⟩
  .rw[ah c,show a.1=b.1 by omega,C3];refine⟨_,rfl,?_⟩;cases Op.bytesLess a.2.1.toList b.2.1.toList<;>cases (a.2.1.toList==b.2.1.toList)<;>rfl
def e9 (c:Int×Int)(l:List b0):Bool:=TV b1 (iF c) j8 l&&decide ((l.length:Int)<=20)
def aen {l:List b0}(h:l.length<=1048576)(b:∀q∈l,Bu q)(c:Int×Int):l6 F0 c l=some (e9 c l,()):=by
 rw[aeQ,cu (fun m k=>o4 F0 (pY F0) m (kX l k c.1 c.2)) l.length (fun k=>iF c (l.getD k b1)&&(decide (k=0) || j8 (l.getD (k-1) b1) (l.getD k b1))) (some (decide ((l.length:Int)<=20),())) (some (false,())) (fun m k a=>?_) (fun m=>?_) _ (by rw[bj];omega)]
 .unfold e9 TV;cases (List.range l.length).all _<;>rfl
 .rw[E4,aK a,ae,al a,ad,aM a,show((c.1,c.2):Int×Int)=c from rfl,O3 (b _ (cB a)),ao,aL a,ZE,ag (by omega),ad];refine aaT _ (j8 (l.getD (k-1) b1) l[k]) _ _ _ fun d=>?_
  rw[Jt d (by omega),al (show k-1<l.length by omega),ad,aM (show k-1<l.length by omega),W7,ao,aL (show k-1<l.length by omega)]
 .rw[E4,az,aa,XH]
def ao7 {l:List b0}(h:l.length<=1048576)(b:∀q∈l,Bu q)(c:Int×Int):G3 F0 c l=some (e9 c l,()):=by
 rw[afS,cu (fun m k=>pn F0 (ri F0) m (lv l l (l.length:Int) k c.1 c.2)) l.length (fun k=>iF c (l.getD k b1)&&(decide (k=0) || j8 (l.getD (k-1) b1) (l.getD k b1))) (some (decide ((l.length:Int)<=20),())) (some (false,())) (fun m k a=>?_) (fun m=>?_) _ (by rw[bj];omega)]
 .unfold e9 TV;cases (List.range l.length).all _<;>rfl
 .rw[FA,aK a,ae,al a,ad,aM a,show((c.1,c.2):Int×Int)=c from rfl,aem (b _ (cB a)),ao,aL a,aag,ag (by omega)];refine aaT _ (j8 (l.getD (k-1) b1) l[k]) _ _ _ fun d=>?_
  rw[Jt d (by omega),al (show k-1<l.length by omega),ad,aM (show k-1<l.length by omega)];obtain⟨r,e,f⟩:=ac5 l[k-1] l[k];rw[e,ao,f,aL (show k-1<l.length by omega)]
 .rw[FA,az,aa,X5]
def gL (d:List Int×Int):Bool:=decide ((d.1.length:Int)<=100000)&&ga 0 d.1.length d.2
def Jv (d:List Int×Int):lS F0 d=some (gL d,()):=by rw[ahW,cE,ao];unfold gL;cases decide ((d.1.length:Int)<=100000)<;>rfl
def aqX (d:List Int×Int):Lf F0 d=some (gL d,()):=by rw[ai7,c7,ao];unfold gL;cases decide ((d.1.length:Int)<=100000)<;>rfl
def ajE {a b:List Int}(j:a.length<=1048576)(l:b.length<=1048576):Dc F0 a b=some (decide (a=b),()):=by
 rw[ahX,cu (fun m k=>BY F0 (s6 F0) m (s5 a b k)) (min a.length b.length) (fun k=>a.getD k 0==b.getD k 0) (some ((a.length:Int)==(b.length:Int),())) (some (false,())) (fun m k n=>?_) (fun m=>?_) _ (by rw[bj];omega)]
 .by_cases c:a=b
  .rw[aS c,an (fL.2 fun k _=>by rw[c];exact C3 (b.getD k 0)),c,C3]
  .rw[aT c];by_cases e:a.length=b.length
   .rw[ah];intro f;refine c (List.ext_getElem e fun k g i=>?_);have:=fL.1 f k (gP.2 (by omega));simpa [List.getD,g,i]using this
   .rw[bX.2 (show(a.length:Int)≠(b.length:Int) by omega)];cases (List.range (min a.length b.length)).all _<;>rfl
 .rw[Ic,aK (show k<a.length by omega),ae,aK (show k<b.length by omega),ae,al (show k<a.length by omega),ad,al (show k<b.length by omega),ad,kS,kS,abU,ag (by omega),ath];by_cases d:a.getD k 0=b.getD k 0
  .simp[d]
  .simp[d]
 .rw[Ic,ZF];rcases VE a.length b.length with h|h
  .rw[abp (by omega),az,aa]
  .rw[Nat.min_eq_right h,az,aa];cases decide ((b.length:Int)<(a.length:Int))<;>rfl
def iG (a b:b0):Bool:=(a.1==b.1)&&((a.2.1.toList==b.2.1.toList)&&decide (a.2.2=b.2.2))
def ac6 {a b:b0}(c:Bu a)(d:Bu b):u2 F0 a b=some (iG a b,()):=by rw[ahY,ajE c.2 d.2,ao];unfold iG;cases (a.1==b.1)<;>cases (a.2.1.toList==b.2.1.toList)<;>rfl
def Yt {a b:b0}(c:Bu a):lW F0 a b=some (iG a b,()):=by rw[S6,ac1 (aR c.2 (by omega)),ao];unfold iG;cases (a.1==b.1)<;>cases (a.2.1.toList==b.2.1.toList)<;>rfl
def aqY {a b:b0}(c:Bu a)(d:Bu b):Gp F0 a b=some (iG a b,()):=by rw[aeR,ajE c.2 d.2,ao];unfold iG;cases (a.1==b.1)<;>cases (a.2.1.toList==b.2.1.toList)<;>rfl
def ao8 {a b:b0}(c:Bu a):Cy F0 a b=some (iG a b,()):=by rw[acx,ac1 (aR c.2 (by omega)),ao];unfold iG;cases (a.1==b.1)<;>cases (a.2.1.toList==b.2.1.toList)<;>rfl
def nN (a b:cK):Bool:=(a.1.toList==b.1.toList)&&iG a.2 b.2
def alG {a b:cK}(c:Bu a.2)(d:Bu b.2):wh F0 a b=some (nN a b,()):=by rw[ZG,ac6 c d,ao];unfold nN;cases (a.1.toList==b.1.toList)<;>rfl
def ajF {a b:cK}(c:Bu a.2):yq F0 a b=some (nN a b,()):=by rw[aai,Yt c,ao];unfold nN;cases (a.1.toList==b.1.toList)<;>rfl
def ac7 (a b:ez):Bool:=(a.1==b.1)&&((a.2.1==b.2.1)&&((a.2.2.1==b.2.2.1)&&((a.2.2.2==b.2.2.2)&&true)))
def rB (a b:cq):Bool:=(a.1==b.1)&&((a.2.1==b.2.1)&&(nN a.2.2.1 b.2.2.1&&(iG a.2.2.2.1 b.2.2.2.1&&(iG a.2.2.2.2.1 b.2.2.2.2.1&&((a.2.2.2.2.2.1==b.2.2.2.2.2.1)&&ac7 a.2.2.2.2.2.2 b.2.2.2.2.2.2)))))
def kk (m:cq):Prop:=m.2.2.1.1.size<=1048576/\Bu m.2.2.1.2/\Bu m.2.2.2.1/\Bu m.2.2.2.2.1
def aqZ {a b:cq}(c:kk a)(d:kk b):jD F0 a b=some (rB a b,()):=by rw[aeT,alG c.2.1 d.2.1,ao,aqY c.2.2.1 d.2.2.1,ao,ac6 c.2.2.2 d.2.2.2,ao];unfold rB ac7;dsimp only;generalize ((a.2.2.2.2.2.2.1==b.2.2.2.2.2.2.1)&&((a.2.2.2.2.2.2.2.1==b.2.2.2.2.2.2.2.1)&&((a.2.2.2.2.2.2.2.2.1==b.2.2.2.2.2.2.2.2.1)&&((a.2.2.2.2.2.2.2.2.2==b.2.2.2.2.2.2.2.2.2)&&true))))=t;cases (a.1==b.1)<;>cases (a.2.1==b.2.1)<;>cases nN a.2.2.1 b.2.2.1<;>cases iG a.2.2.2.1 b.2.2.2.1<;>cases iG a.2.2.2.2.1 b.2.2.2.2.1<;>cases (a.2.2.2.2.2.1==b.2.2.2.2.2.1)<;>rfl
def ao9 {a b:cq}(c:kk a):G4 F0 a b=some (rB a b,()):=by rw[afU,ajF c.2.1,ao,ao8 c.2.2.1,ao,Yt c.2.2.2,ao];unfold rB ac7;dsimp only;generalize ((a.2.2.2.2.2.2.1==b.2.2.2.2.2.2.1)&&((a.2.2.2.2.2.2.2.1==b.2.2.2.2.2.2.2.1)&&((a.2.2.2.2.2.2.2.2.1==b.2.2.2.2.2.2.2.2.1)&&((a.2.2.2.2.2.2.2.2.2==b.2.2.2.2.2.2.2.2.2)&&true))))=t;cases (a.1==b.1)<;>cases (a.2.1==b.2.1)<;>cases nN a.2.2.1 b.2.2.1<;>cases iG a.2.2.2.1 b.2.2.2.1<;>cases iG a.2.2.2.2.1 b.2.2.2.2.1<;>cases (a.2.2.2.2.2.1==b.2.2.2.2.2.1)<;>rfl
def TW (a b:b0):iG a b=iG b a:=by
 unfold iG;rw[HD (a:=a.1),HD (a:=a.2.1.toList)]
 congr 2
 by_cases h:a.2.2=b.2.2
 .rw[aS h,aS h.symm]
 .rw[aT h,aT fun c=>h c.symm]
def apa (a b:cq):rB a b=rB b a:=by unfold rB nN ac7;rw[HD (a:=a.1),HD (a:=a.2.1),HD (a:=a.2.2.1.1.toList),TW a.2.2.1.2,TW a.2.2.2.1,TW a.2.2.2.2.1,HD (a:=a.2.2.2.2.2.1),HD (a:=a.2.2.2.2.2.2.1),HD (a:=a.2.2.2.2.2.2.2.1),HD (a:=a.2.2.2.2.2.2.2.2.1),HD (a:=a.2.2.2.2.2.2.2.2.2)]
def named (m:cq):cq :=
 if (m.1==1)=true then (m.1,0,m.2.2.1,b1,b1,0,ny)
 else if (m.1==2)=true then (m.1,0,(ai,b1),m.2.2.2.1,b1,0,ny)
 else if (m.1==3)=true then (m.1,m.2.1,(ai,b1),b1,m.2.2.2.2.1,m.2.2.2.2.2.1,ny)
 else if (m.1==4)=true then (m.1,0,(ai,b1),b1,b1,0,m.2.2.2.2.2.2)
 else (m.1,0,(ai,b1),b1,b1,0,ny)
def awJ (m:cq):OM F0 m=some (named m,()):=by rw[alp];unfold named;cases (m.1==1)<;>cases (m.1==2)<;>cases (m.1==3)<;>cases (m.1==4)<;>rfl
def db:Bu b1:=⟨aX _,aX _⟩
def aAB {m:cq}(h:kk m):kk (named m):=by
 unfold named;split
 .exact⟨h.1,h.2.1,db,db⟩
 .split
  .exact⟨aX _,db,h.2.2.1,db⟩
  .split
   .exact⟨aX _,db,db,h.2.2.2⟩
   .split
    .exact⟨aX _,db,db,db⟩
    .exact⟨aX _,db,db,db⟩
def aq0 {m:cq}(h:kk m):Gq F0 m=some (rB (named m) m,()):=by
 have a:=aqZ (aAB h) h;rw[aeV];unfold named b1 ny at a;unfold named b1 ny;by_cases b:(m.1==1)=true
 .rw[an b]at a ⊢;rw[b,ae,a,ao]
 .rw[ah b]at a ⊢;rw[HB.2 b,aa];by_cases c:(m.1==2)=true
  .rw[an c]at a ⊢;rw[c,ae,a,ao]
  .rw[ah c]at a ⊢;rw[HB.2 c,aa];by_cases d:(m.1==3)=true
   .rw[an d]at a ⊢;rw[d,ae,a,ao]
   .rw[ah d]at a ⊢;rw[HB.2 d,aa];by_cases e:(m.1==4)=true
    .rw[an e]at a ⊢;rw[e,ae,a,ao]
    .rw[ah e]at a ⊢;rw[HB.2 e,aa,a,ao]
def fB (l:List UInt8):Nat->Nat
 |0=>0|k+1=>if (((l.getD k 0).toNat:Int) != 47)=true then fB l k else k+1
def ajG (l:List UInt8):∀k,fB l k<=k
 |0=>bu _|k+1=>by
  unfold fB;split
  .exact Nat.le_succ_of_le (ajG l k)
  .exact bu _
def ayI {h n:Nat}(a:h<=n):Oy 0 (h:Int) (n:Int)=true:=UG (l:=0) (aX _) a
def upL (l:List UInt8):List UInt8:=if bF l=true then l.take (fB l l.length-1) else []
def avI (l:List UInt8){γ:Type}(J:Ex->St->Option γ):∀(k n:Nat),k<=l.length->k<=1073741824->k<n->Ka F0 J n (BZ (tx l) (k:Int))=J (.exit 0) (wi (tx l) (fB l k:Int))
 |0,n,a,b,c=>by obtain⟨n,rfl⟩:∃m,n=m+1:=⟨n-1,by omega⟩;rw[MS];rfl
 |k+1,n,a,b,c=>by
  obtain⟨n,rfl⟩:∃m,n=m+1:=⟨n-1,by omega⟩;rw[MS,aS (show((k+1:Nat):Int)>0 by omega),ae,Jt (by omega) (by omega),show k+1-1=k from rfl,bc,al (by omega),ad,UD];unfold fB;by_cases h:(((l.getD k 0).toNat:Int) != 47)=true
  .rw[h,ae,an rfl,avI l J k n (by omega) (by omega) (by omega)]
  .rw[HB.2 h,aa,ah (by decide)]
def ayJ {l:List UInt8}(h:l.length<=1048576):kY F0 (tx l)=some (tx (upL l),()):=by
 rw[aop,OY (by omega),ao];unfold upL;dsimp only;cases bF l with
 |false=>rfl
 |true =>
  have c:=ajG l l.length;rw[aZ,aa,bc,avI l _ l.length _ (bu _) (by omega) (by rw[bj];omega),aeX,an rfl,V3];have b:br (decide (ak ((fB l l.length:Int)-1)>0)) (some (ak ((fB l l.length:Int)-1),())) (some ((0:Int),()))=some (((fB l l.length-1:Nat):Int),()):=by
   rw[aB (by omega) (by omega)];by_cases a:(fB l l.length:Int)-1>0
   .rw[aS a,ae,show(fB l l.length:Int)-1=((fB l l.length-1:Nat):Int) by omega]
   .rw[aT a,aa,show fB l l.length-1=0 by omega];rfl
  rw[b,ao];dsimp only;rw[bc,ayI (by omega),ad,oR,show(0:Int).toNat=0 from rfl,LL,YV,Rm]
def amO (l:List UInt8):∀(k n:Nat),k<=l.length->k<=1073741824->k<n->dM F0 (e8 F0) n (dh (tx l) 47 ((k:Int)-1))=some ((fB l k:Int)-1,())
 |0,n,a,b,c=>by obtain⟨n,rfl⟩:∃m,n=m+1:=⟨n-1,by omega⟩;rw[ir];rfl
 |k+1,n,a,b,c=>by
  obtain⟨n,rfl⟩:∃m,n=m+1:=⟨n-1,by omega⟩;rw[show((k+1:Nat):Int)-1=(k:Int) by omega,ir,aS (show(k:Int)>=0 by omega),ae,bc,al (by omega),ad,UD,aB (by omega) (by omega),yt];unfold fB;by_cases h:((l.getD k 0).toNat:Int)=47
  .rw[h,show((47:Int)==47)=true from rfl,ae,show((47:Int) != 47)=false from rfl,ah (by decide),show((k+1:Nat):Int)-1=(k:Int) by omega]
  .rw[bX.2 h,aa,C4.2 h,an rfl,amO l k n (by omega) (by omega) (by omega)]
def ato {c x:UInt8}{l:List UInt8}{ps:List (List UInt8)}(h:parts c (x::l)=[]::ps):x=c:=by
 unfold parts at h;split at h
 .assumption
 .split at h
  .cases (uO h).1
  .cases (uO h).1
def ajH {l:List UInt8}(h:bF l=true)(b:l≠[]):∃t,l=47::t:=by
 cases l with
 |nil=>exact absurd rfl b
 |cons x t =>
  refine⟨t,?_⟩;unfold bF bS at h;rw[ah b]at h;cases a:parts 47 (x::t) with
  |nil=>exact absurd a (DV _ _)
  |cons c g =>
   rw[a]at h;dsimp only at h;split at h
   .cases h
   .rename_i d;have e:c=[]:=al1 fun f=>d (.inl f)
    subst e;rw[ato a]
def ac8 {t:List UInt8}:∀k,0<k->0<fB (47::t) k
 |0,h=>absurd h (adC _)|1,_=>by unfold fB;rw[show((((47::t).getD 0 0:UInt8).toNat:Int) != 47)=false from rfl,ah (by decide)];exact abr _
 |k+2,_=>by
  unfold fB;split
  .exact ac8 (k+1) (abr _)
  .exact abr _
def awK {l:List UInt8}(h:l.length<=1048576):NL F0 (tx l)=some (tx (upL l),()):=by
 rw[aoK,TS (by omega),ao,ao1,TL];unfold upL;dsimp only;cases b:bF l with
 |false=>rfl
 |true =>
  rw[aZ,aa,an rfl];by_cases a:l=[]
  .subst a;rfl
  .have c:=ajG l l.length;have d:0<fB l l.length:=by obtain⟨t,rfl⟩:=ajH b a;exact ac8 _ (abr _)
   rw[aT a,aa,Mg,Bi,bc,aB (by omega) (by omega),amO l l.length _ (bu _) (by omega) (by rw[bj];omega),ao,ao];dsimp only;rw[show(fB l l.length:Int)-1=((fB l l.length-1:Nat):Int) by omega,ayI (by omega),ad,oR,show(0:Int).toNat=0 from rfl,LL,YV,Rm]
def aaV {b:ByteArray}(h:b.size<=1048576):kY F0 b=some (tx (upL b.data.toList),()):=ayJ (l:=b.data.toList) h
def ayK {b:ByteArray}(h:b.size<=1048576):NL F0 b=some (tx (upL b.data.toList),()):=awK (l:=b.data.toList) h
def gw (c:Int×Int)(b:cK):Bool:=fe c b.2&&(bF b.1.data.toList&&(!dY b.1&&((tx (upL b.1.data.toList)).toList==b.2.2.1.toList)))
def DX {b:cK}(a:b.1.size<=1048576)(d:Bu b.2)(c:Int×Int):l7 F0 c b=some (gw c b,()):=by rw[aeY,O2 d,ao,Hz a,ao,aaV a,ao];unfold gw dY;cases fe c b.2<;>cases bF b.1.data.toList<;>cases (b.1.toList==ai.toList)<;>rfl
def apb {b:cK}(a:b.1.size<=1048576)(d:Bu b.2)(c:Int×Int):G5 F0 c b=some (gw c b,()):=by rw[afW,ajC d,ao,Bt a,ao,ayK a,ao];unfold gw dY;cases fe c b.2<;>cases bF b.1.data.toList<;>cases (b.1.toList==ai.toList)<;>rfl
def dZ (c:Int×Int)(m:cq):Bool:=bq c&&(rB (named m) m&&(if (m.1==1)=true then gw c m.2.2.1 else if (m.1==2)=true then iF c m.2.2.2.1&& !dY m.2.2.2.1.2.1
 else if (m.1==3)=true then ga 1 60 m.2.1&&(fe c m.2.2.2.2.1&&ga 0 (ak (c.1-1)) m.2.2.2.2.2.1) else (m.1==4)&&gf m.2.2.2.2.2.2))
def HA {m:cq}(h:kk m)(c:Int×Int):eH F0 c m=some (dZ c m,()):=by rw[ak3,gK,ao,aq0 h,ao,DX h.1 h.2.1,ao,O3 h.2.2.1,ao,cE,ao,O2 h.2.2.2,ao,cE,ao,N3,ao];unfold dZ dY;dsimp only;cases bq c<;>cases rB (named m) m<;>cases (m.1==1)<;>cases (m.1==2)<;>cases (m.1==3)<;>cases (m.1==4)<;>cases iF c m.2.2.2.1<;>cases ga 1 60 m.2.1<;>cases fe c m.2.2.2.2.1<;>rfl
def ajI {m:cq}(h:kk m)(c:Int×Int):kj F0 c m=some (dZ c m,()):=by rw[alr,pD,ao,awJ,ao,ao9 h,ao,apb h.1 h.2.1,ao,aem h.2.2.1,ao,c7,ao,ajC h.2.2.2,ao,c7,ao,N4,ao,apa];unfold dZ dY;dsimp only;cases bq c<;>cases rB (named m) m<;>cases (m.1==1)<;>cases (m.1==2)<;>cases (m.1==3)<;>cases (m.1==4)<;>cases iF c m.2.2.2.1<;>cases ga 1 60 m.2.1<;>cases fe c m.2.2.2.2.1<;>rfl
def Jw (c:Int×Int)(r:Int)(p:oM):Bool:=dZ c p.2&&(ga 0 (ak (c.1-1)) p.1&& !(p.1==r))
def rQ (c:Int×Int)(r:ay):Bool :=
 bq c&&(ga 0 (ak (c.1-1)) r.1&&(ga 1 60 r.2.1&&(ga 0 60 r.2.2.1&&(b2 c r.2.2.2.1&&(mJ r.2.2.2.2.1&&(e9 c r.2.2.2.2.2.1&&(gL r.2.2.2.2.2.2.1&&(!decide ((r.2.2.2.2.2.2.2.length:Int)>30)&&r.2.2.2.2.2.2.2.all (Jw c r.1)))))))))
structure aga (r:ay):Prop where
 s:oN r.2.2.2.1
 p:r.2.2.2.2.1.length<=1048576
 t:r.2.2.2.2.2.1.length<=1048576
 tq:∀q∈r.2.2.2.2.2.1,Bu q
 h:r.2.2.2.2.2.2.2.length<=1048576
 hm:∀q∈r.2.2.2.2.2.2.2,kk q.2
def ayL:oM:=(0,0,0,(ai,b1),b1,b1,0,ny)
def gb (b:Bool):(if b=true then some (true,()) else some (false,()))=some (b,()):=by cases b<;>rfl
def fx {r:ay}(h:aga r)(c:Int×Int):cR F0 c r=some (rQ c r,()):=by
 have b:=h.h;rw[ak4,gK,ao,cE,ao,cE,ao,cE,ao,Bv h.s,ao,ajD h.p,ao,aen h.t h.tq,ao,Jv,ao,
  cu (fun m k=>Gu F0 (wo F0) m (wj k c.1 c.2 r.1 r.2.1 r.2.2.1 r.2.2.2.1.1 r.2.2.2.1.2.1 r.2.2.2.1.2.2.1.1 r.2.2.2.1.2.2.1.2.1 r.2.2.2.1.2.2.1.2.2 r.2.2.2.1.2.2.2 r.2.2.2.2.1 r.2.2.2.2.2.1 r.2.2.2.2.2.2.1.1 r.2.2.2.2.2.2.1.2 r.2.2.2.2.2.2.2)) r.2.2.2.2.2.2.2.length
   (fun k=>Jw c r.1 (r.2.2.2.2.2.2.2.getD k ayL)) (some (true,())) (some (false,())) (fun m k a=>?_) (fun m=>?_) _ (by rw[bj];omega),aaS,gb]
 .unfold rQ;cases bq c<;>cases ga 0 (ak (c.1-1)) r.1<;>cases ga 1 60 r.2.1<;>cases ga 0 60 r.2.2.1<;>cases b2 c r.2.2.2.1<;>cases mJ r.2.2.2.2.1<;>cases e9 c r.2.2.2.2.2.1<;>cases gL r.2.2.2.2.2.2.1<;>cases decide ((r.2.2.2.2.2.2.2.length:Int)>30)<;>rfl
 .rw[Kb,aK a,ae,al a,ad,aM a,show((c.1,c.2):Int×Int)=c from rfl,HA (h.hm _ (cB a)),ao,ad,cE,ao,ad,aL a,aeZ,ag (by omega)];unfold Jw;cases dZ c (r.2.2.2.2.2.2.2[k]).2<;>cases ga 0 (ak (c.1-1)) (r.2.2.2.2.2.2.2[k]).1<;>cases ((r.2.2.2.2.2.2.2[k]).1==r.1)<;>rfl
 .rw[Kb,az,aa,abV]
def Yu {r:ay}(h:aga r)(c:Int×Int):Bk F0 c r=some (rQ c r,()):=by
 have b:=h.h;rw[als,pD,ao,c7,ao,c7,ao,c7,ao,ael h.s,ao,aqV h.p,ao,ao7 h.t h.tq,ao,aqX,ao,
  cu (fun m k=>G8 F0 (yw F0) m (yu r.2.2.2.2.2.2.2 (r.2.2.2.2.2.2.2.length:Int) k c.1 c.2 r.1 r.2.1 r.2.2.1 r.2.2.2.1.1 r.2.2.2.1.2.1 r.2.2.2.1.2.2.1.1 r.2.2.2.1.2.2.1.2.1 r.2.2.2.1.2.2.1.2.2 r.2.2.2.1.2.2.2 r.2.2.2.2.1 r.2.2.2.2.2.1 r.2.2.2.2.2.2.1.1 r.2.2.2.2.2.2.1.2 r.2.2.2.2.2.2.2)) r.2.2.2.2.2.2.2.length
   (fun k=>Jw c r.1 (r.2.2.2.2.2.2.2.getD k ayL)) (some (true,())) (some (false,())) (fun m k a=>?_) (fun m=>?_) _ (by rw[bj];omega),aaS,gb]
 .unfold rQ;cases bq c<;>cases ga 0 (ak (c.1-1)) r.1<;>cases ga 1 60 r.2.1<;>cases ga 0 60 r.2.2.1<;>cases b2 c r.2.2.2.1<;>cases mJ r.2.2.2.2.1<;>cases e9 c r.2.2.2.2.2.1<;>cases gL r.2.2.2.2.2.2.1<;>cases decide ((r.2.2.2.2.2.2.2.length:Int)>30)<;>rfl
 .rw[Lh,aK a,ae,al a,ad,aM a,show((c.1,c.2):Int×Int)=c from rfl,ajI (h.hm _ (cB a)),ao,c7,ao,aL a,afY,ag (by omega)];unfold Jw;cases dZ c (r.2.2.2.2.2.2.2[k]).2<;>cases ga 0 (ak (c.1-1)) (r.2.2.2.2.2.2.2[k]).1<;>cases ((r.2.2.2.2.2.2.2[k]).1==r.1)<;>rfl
 .rw[Lh,az,aa,acz]
def ajJ {lo a x:Int}:ga lo a x=decide (lo<=x/\x<=a):=by unfold ga;by_cases b:lo<=x<;>by_cases c:x<=a<;>simp[b,c]
def Rg:Nat->List Int->Nat->Int->Option (Int×Nat)
 |0,_,_,_=>none|_+1,[],_,_=>none|j+1,x::xs,k,n=>if x<128 then (if (k≠0/\x=0)\/n+x*128 ^ k>2147483647 then none else some (n+x*128 ^ k,k+1)) else Rg j xs (k+1) (n+x%128*128 ^ k)
def aAC (a:Nat):Option (Int×Nat)->Int×Int×Bool×Unit
 |some (v,c)=>(v,((a+c:Nat):Int),true,())|none=>(0,0,false,())
def ayM {k:Nat}(h:k<=4):(2:Int) ^ (min (ak (7*(k:Int))).toNat 64)=128 ^ k:=by
 have:k=0\/k=1\/k=2\/k=3\/k=4:=by omega
 rcases this with rfl|rfl|rfl|rfl|rfl<;>rfl
def TX {k:Nat}(h:k<=4):(1:Int)<=128 ^ k/\(128:Int) ^ k<=268435456:=by
 have:k=0\/k=1\/k=2\/k=3\/k=4:=by omega
 rcases this with rfl|rfl|rfl|rfl|rfl<;>decide
def ajK {d P:Int}(a:0<=d)(b:d<=127)(c:1<=P):0<=d*P/\d*P<=127*P:=⟨Int.mul_nonneg a (by omega),Int.mul_le_mul_of_nonneg_right b (by omega)⟩
def aCi {i n:Nat}(d:Nat)(h:n<2 ^ i):n ||| d*2 ^ i=n+d*2 ^ i:=by rw[Nat.or_comm,<-Nat.shiftLeft_eq,<-Nat.shiftLeft_add_eq_or_of_lt h,Nat.add_comm]
def aCj {k:Nat}(a:k<=4){n d:Int}(b:0<=n)(c:n<128 ^ k)(f:0<=d)(j:d<=127):((BitVec.ofInt 64 n ||| BitVec.ofInt 64 (d*128 ^ k)).toNat:Int)=n+d*128 ^ k:=by
 obtain⟨m,rfl⟩:=Int.eq_ofNat_of_zero_le b;obtain⟨e,rfl⟩:=Int.eq_ofNat_of_zero_le f;have g:(128:Int) ^ k=((2 ^ (7*k):Nat):Int):=by rw[Nat.pow_mul];exact(Int.natCast_pow 128 k).symm
 have h:=TX a;rw[g]at c h ⊢;have i:m<2 ^ (7*k):=by omega
 have l:e*2 ^ (7*k)<=127*2 ^ (7*k):=y6 _ (by omega);have o:2 ^ (7*k)<=268435456:=by omega
 rw[show(e:Int)*((2 ^ (7*k):Nat):Int)=((e*2 ^ (7*k):Nat):Int) from(Int.natCast_mul _ _).symm,BitVec.ofInt_natCast,BitVec.ofInt_natCast,BitVec.toNat_or,BitVec.toNat_ofNat,BitVec.toNat_ofNat,anr (by omega),anr (by omega),aCi e i];omega
def cF (b:List Int):Prop:=b.length<=1048576/\∀x∈b,0<=x/\x<=255
def aq1 {b:List Int}(l:cF b)(a:Nat)(t:a<=b.length):∀(j k:Nat),j+k=5->∀(c:Int) (m:Nat),0<=c->c<128 ^ k->j<m ->
  B1 F0 (ta F0) m (s9 b (a:Int) c (k:Int))=some (aAC a (Rg j (b.drop (a+k)) k c))
 |0,k,u,c,m,o,p,v=>by obtain⟨m,rfl⟩:∃q,m=q+1:=⟨m-1,by omega⟩;rw[Ih,aT (by omega),aa,ZK];rfl
 |j+1,k,u,c,m,o,p,v=>by
  obtain⟨m,rfl⟩:∃q,m=q+1:=⟨m-1,by omega⟩;have B:=l.1;rw[Ih,aS (by omega),ae,aT (show ¬(a:Int)<0 by omega),aa,aB (n:=(b.length:Int)-k) (by omega) (by omega)];rcases VE (a+k) b.length with hlt|w
  .have r:=l.2 b[a+k] (cB hlt);have y:=TX (k:=k) (by omega);rw[aT (show ¬(a:Int)>=(b.length:Int)-k by omega),aa,show ak ((a:Int)+(k:Int))=((a+k:Nat):Int) by rw[aB (by omega) (by omega)];omega,al hlt,ad,
    aS (show 0<=ak (7*(k:Int)) by rw[aB (by omega) (by omega)];omega),ad,aM hlt,ayM (by omega),adx hlt]
   generalize b[a+k]=x at r ⊢;rw[aB (n:=x) (by omega) (by omega),al0 (by omega),AP,AP];have z:=ajK (d:=x%128) (P:=128 ^ k) (by omega) (by omega) y.1;rw[aB (n:=x%128*128 ^ k) (by omega) (by omega),aCj (by omega) o p (by omega) (by omega),aB (n:=c+x%128*128 ^ k) (by omega) (by omega)];unfold Rg;by_cases g:x<128
   .have e:x%128=x:=Int.emod_eq_of_lt r.1 g;rw[e]at z ⊢;rw[aS g,ae,an g,aB (n:=((a+k:Nat):Int)+1) (by omega) (by omega)];by_cases s:k=0
    .subst s;rw[show decide (((0:Nat):Int)>0)=false from rfl,aa];by_cases f:c+x*128 ^ 0>2147483647
     .rw[aS f,ae,an (.inr f)];rfl
     .rw[aT f,aa,ah (fun h=>h.elim (fun h=>h.1 rfl) f)];rfl
    .rw[aS (show(k:Int)>0 by omega),ae];by_cases i:x=0
     .rw[show(x==0)=true from cH.2 i,ae,an (.inl ⟨s,i⟩)];rfl
     .rw[bX.2 i,aa];by_cases f:c+x*128 ^ k>2147483647
      .rw[aS f,ae,an (.inr f)];rfl
      .rw[aT f,aa,ah (fun h=>h.elim (fun h=>i h.2) f)];rfl
   .rw[aT g,aa,ah g,ag (by omega)];have A:c+x%128*128 ^ k<128 ^ (k+1):=by rw[VF];omega
    exact aq1 l a t j (k+1) (by omega) _ m (by omega) A (by omega)
  .rw[aS (show(a:Int)>=(b.length:Int)-k by omega),ae,AP,asx w];rfl
def atp {b:List Int}(c:cF b){a:Nat}(d:a<=b.length):jE F0 b (a:Int)=some (aAC a (Rg 5 (b.drop a) 0 0)):=by rw[ah3];exact aq1 c a d 5 0 rfl 0 _ (by omega) (by decide) (by rw[bj];omega)
def aaW:∀(k:Nat) (v:Int) (xs:List Int) (n:Nat),0<=v->v<128 ^ (k+1)->xs.length+k<=1000->k<n->k<=4 ->
  ∃a,CB F0 (EN F0) n (tY v xs)=some (xs++a,())/\a.length<=k+1/\(128 ^ k<=v->a.length=k+1)/\1<=a.length
 |0,v,xs,n,b,d,e,f,g=>by obtain⟨n,rfl⟩:∃m,n=m+1:=⟨n-1,by omega⟩;rw[IU,aT (show ¬v>=128 by have:(128:Int) ^ (0+1)=128:=rfl;omega),aa,Li,aE (by omega) (by omega) (by rw[ej];omega),ad];exact⟨_,rfl,bu _,fun _=>rfl,bu _⟩
 |k+1,v,xs,n,b,d,e,f,g=>by
  obtain⟨n,rfl⟩:∃m,n=m+1:=⟨n-1,by omega⟩;have l:=TX (k:=k) (by omega);have o:(128:Int) ^ (k+1)=128 ^ k*128:=VF _ _;have p:(128:Int) ^ (k+1+1)=128 ^ (k+1)*128:=VF _ _;rw[IU];by_cases c:v>=128
  .rw[aS c,ae,aE (by omega) (by omega) (by rw[ej];omega),ad,apM b,aB (n:=v/128) (by omega) (by omega)];obtain⟨a,i,q,j,r⟩:=aaW k (v/128) (xs++[IntKind.wrap .u8 (ak (Int.tmod v 128+128))]) n (by omega) (by omega) (by rw[aW,ej];omega) (by omega) (by omega);refine⟨IntKind.wrap .u8 (ak (Int.tmod v 128+128))::a,i.trans (by rw[mP];rfl),by rw[bG];omega,fun h=>?_,by rw[bG];omega⟩;rw[bG,j (by omega)]
  .rw[aT c,aa,Li,aE (by omega) (by omega) (by rw[ej];omega),ad];exact⟨_,rfl,by rw[ej];omega,fun h=>by omega,bu _⟩
def atq (v:Int):∃c,Lj F0 v=some (c,())/\∀(k:Nat) (a x:Int),k<=4->0<=a->a<128 ^ k->0<=x->x<128->v=a+x*128 ^ k ->
  ((c.length:Int) != ((k+1:Nat):Int))=decide ((k≠0/\x=0)\/v>2147483647):=by
 rw[ai9,c7,ao,ajJ];by_cases b:0<=v/\v<=2147483647
 .rw[aS b,aZ,aa];have n:(128:Int) ^ (4+1)=34359738368:=by decide
  obtain⟨g,i,_,_,_⟩:=aaW 4 v [] F0.n b.1 (by omega) (by simp) (by rw[bj];omega) (by omega);refine⟨g,i,fun k a x e r s j t u=>?_⟩;have l:=TX e;have D:(128:Int) ^ (k+1)=128 ^ k*128:=VF _ _;have w:=ajK (d:=x) (P:=128 ^ k) j (by omega) l.1;obtain⟨c,o,E,n,F⟩:=aaW k v [] F0.n b.1 (by omega) (by simp;omega) (by rw[bj];omega) e;rw[i]at o;have y:g=c:=by simpa using o
  subst y;by_cases f:k≠0/\x=0
  .rw[aS (.inl f),C4];obtain⟨m,z⟩:=f;subst z;obtain⟨k,rfl⟩:∃q,k=q+1:=⟨k-1,by omega⟩;obtain⟨A,p,G,_,_⟩:=aaW k v [] F0.n b.1 (by omega) (by simp;omega) (by rw[bj];omega) (by omega);rw[i]at p;have B:g=A:=by simpa using p
   subst B;omega
  .rw[aT (fun h=>h.elim f (by omega)),Ri];by_cases m:k=0
   .subst m;omega
   .have C:1<=x:=by
     have:x≠0:=fun h=>f ⟨m,h⟩
     omega
    have:=Int.mul_le_mul_of_nonneg_right C (show(0:Int)<=128 ^ k by omega);rw[n (by omega)]
 .rw[aT b,gQ,ae];refine⟨[],rfl,fun k a x e r s j t u=>?_⟩;have l:=TX e;have w:=ajK (d:=x) (P:=128 ^ k) j (by omega) l.1;rw[aS (.inr (by omega)),C4];simp only[bd];omega
def aq2 {b:List Int}(h:cF b)(a:Nat)(p:a<=b.length):∀(j k:Nat),j+k=5->∀(c:Int) (m:Nat),0<=c->c<128 ^ k->j<m ->
  CE F0 (ua F0) m (tZ b (a:Int) c (k:Int))=some (aAC a (Rg j (b.drop (a+k)) k c))
 |0,k,r,c,m,l,o,s=>by obtain⟨m,rfl⟩:∃q,m=q+1:=⟨m-1,by omega⟩;rw[IV,aT (by omega),aa,Lk];rfl
 |j+1,k,r,c,m,l,o,s=>by
  obtain⟨m,rfl⟩:∃q,m=q+1:=⟨m-1,by omega⟩;have A:=h.1;rw[IV,aS (by omega),ae,show ak ((a:Int)+(k:Int))=((a+k:Nat):Int) by rw[aB (by omega) (by omega)];omega];rcases VE (a+k) b.length with hlt|t
  .have i:=h.2 b[a+k] (cB hlt);have u:=TX (k:=k) (by omega);rw[aK hlt,ae,al hlt,ad,
    aS (show 0<=ak (7*(k:Int)) by rw[aB (by omega) (by omega)];omega),ad,aM hlt,ayM (by omega),adx hlt]
   generalize b[a+k]=x at i ⊢;rw[aB (n:=x) (by omega) (by omega),al0 (by omega),NO,NO];have v:=ajK (d:=x%128) (P:=128 ^ k) (by omega) (by omega) u.1;rw[aB (n:=x%128*128 ^ k) (by omega) (by omega),aB (n:=c+x%128*128 ^ k) (by omega) (by omega),ag (show k+1<=9223372036854775807 by omega)];unfold Rg;by_cases f:x<128
   .have e:x%128=x:=Int.emod_eq_of_lt i.1 f;rw[e]at v ⊢;rw[aS f,ae,an f,aB (n:=((a+k:Nat):Int)+1) (by omega) (by omega)];obtain⟨B,w,y⟩:=atq (c+x*128 ^ k);rw[w,ao];dsimp only;rw[y k c x (by omega) l o i.1 f rfl];by_cases g:(k≠0/\x=0)\/c+x*128 ^ k>2147483647
    .rw[aS g,ae,an g];rfl
    .rw[aT g,aa,ah g];rfl
   .rw[aT f,aa,ah f];have z:c+x%128*128 ^ k<128 ^ (k+1):=by rw[VF];omega
    exact aq2 h a p j (k+1) (by omega) _ m (by omega) z (by omega)
  .rw[aT (show ¬((a+k:Nat):Int)<(b.length:Int) by omega),aa,Lk,asx t];rfl
def aq3 {b:List Int}(c:cF b){a:Nat}(d:a<=b.length):vh F0 b (a:Int)=some (aAC a (Rg 5 (b.drop a) 0 0)):=by
 have f:=c.1;rw[ajb,c7,ao,ajJ,aB (by omega) (by omega)];rcases VE a b.length with hlt|e
 .rw[aS (by omega),aZ,aa];exact aq2 c a d 5 0 rfl 0 _ (by omega) (by decide) (by rw[bj];omega)
 .rw[aT (by omega),gQ,ae,asx e];rfl
def avJ:∀(j:Nat) (l:List Int) (k:Nat) (n:Int) (v:Int) (c:Nat),Rg j l k n=some (v,c)->v<=2147483647/\k<c/\c<=k+l.length
 |0,_,_,_,_,_,h=>by cases h
 |_+1,[],_,_,_,_,h=>by cases h
 |j+1,x::l,k,n,v,c,h=>by
  unfold Rg at h;split at h
  .split at h
   .cases h
   .rename_i a;cases h;exact⟨Int.not_lt.1 fun b=>a (.inr b),Nat.lt_succ_self _,by rw[bG];omega⟩
  .have:=avJ j l (k+1) _ v c h;rw[bG];exact⟨this.1,by omega,by omega⟩
def aq4:∀(j:Nat) (l:List Int) (k:Nat) (n:Int) (v:Int) (c:Nat),(∀x∈l,0<=x)->0<=n->Rg j l k n=some (v,c)->0<=v
 |0,_,_,_,_,_,_,_,h=>by cases h
 |_+1,[],_,_,_,_,_,_,h=>by cases h
 |j+1,x::l,k,n,v,c,a,f,h=>by
  have d:=a x JL;have b:(0:Int)<=128 ^ k:=Int.pow_nonneg (by omega);unfold Rg at h;split at h
  .split at h
   .cases h
   .cases h;have:=Int.mul_nonneg d b;omega
  .have g:=Int.mul_nonneg (agA x (show(128:Int)≠0 by decide)) b;exact aq4 j l (k+1) _ v c (fun y e=>a y (rH _ e)) (by omega) h
abbrev N7:=Nat×Bool
abbrev cell (b:List Int)(s:N7):List Int×Int×Bool:=(b,(s.1:Int),s.2)
abbrev TY (b:List Int)(s:N7):List Int×Int×Bool:=(b,(s.1:Int),!s.2)
def r4 (b:List Int)(a:Nat):Option (Int×Nat):=match Rg 5 (b.drop a) 0 0 with
 |some (v,c)=>some (v,a+c)|none=>none
def Yv:Option (Int×Nat)->Int×Int×Bool×Unit
 |some (v,a)=>(v,(a:Int),true,())|none=>(0,0,false,())
def aaX {b:List Int}(c:cF b){a:Nat}(d:a<=b.length):jE F0 b (a:Int)=some (Yv (r4 b a)):=by rw[atp c d];unfold r4;cases Rg 5 (b.drop a) 0 0<;>rfl
def amP {b:List Int}(c:cF b){a:Nat}(d:a<=b.length):vh F0 b (a:Int)=some (Yv (r4 b a)):=by rw[aq3 c d];unfold r4;cases Rg 5 (b.drop a) 0 0<;>rfl
def UH {b:List Int}(f:cF b){a:Nat}(j:a<=b.length){v:Int}{a':Nat}(h:r4 b a=some (v,a')):0<=v/\v<=2147483647/\a<a'/\a'<=b.length:=by
 unfold r4 at h;split at h
 .rename_i k c d;cases h;have e:=avJ _ _ _ _ _ _ d;have g:=aq4 _ _ _ _ _ _ (fun x i=>(f.2 x (anp i)).1) (Pt 0) d;rw[b7]at e;exact⟨g,e.1,by omega,by omega⟩
 .cases h
def aO (b:List Int)(s:N7):Int×N7:=match r4 b s.1 with
 |some (v,a)=>if s.2=true then (v,a,true) else (0,s.1,false)|none=>(0,s.1,false)
def rC {b:List Int}(c:cF b){s:N7}(d:s.1<=b.length):cx F0 (cell b s)=some (((aO b s).1,()),cell b (aO b s).2,()):=by
 obtain⟨a,ok⟩:=s;rw[ah4,aaX c d,ao];unfold aO Yv;dsimp only;cases r4 b a with
 |none=>rfl|some r=>cases ok<;>rfl
def lL {b:List Int}(c:cF b){s:N7}(d:s.1<=b.length):bs F0 (TY b s)=some (((aO b s).1,()),TY b (aO b s).2,()):=by
 obtain⟨a,ok⟩:=s;rw[X6,amP c d,ao];unfold aO Yv;dsimp only;cases r4 b a with
 |none=>cases ok<;>rfl|some r=>cases ok<;>rfl
def dx {b:List Int}(d:cF b){s:N7}(c:s.1<=b.length):(aO b s).2.1<=b.length/\((aO b s).2.2=true->s.1<(aO b s).2.1)/\0<=(aO b s).1/\(aO b s).1<=2147483647:=by
 unfold aO;split
 .rename_i v a h;have:=UH d c h;split
  .exact⟨this.2.2.2,fun _=>this.2.2.1,this.1,this.2.1⟩
  .exact⟨c,(fun h=>by cases h),Pt _,by omega⟩
 .exact⟨c,(fun h=>by cases h),Pt _,by omega⟩
def Yw (b:List Int)(a:Nat):Option (ByteArray×Nat):=match r4 b a with
 |some (v,a)=>if v>(b.length:Int)-a then none else some (strOf ((b.take (a+v.toNat)).drop a),a+v.toNat)|none=>none
def atr:Option (ByteArray×Nat)->ByteArray×Int×Bool×Unit
 |some (v,a)=>(v,(a:Int),true,())|none=>(ai,0,false,())
def amQ {b:List Int}(e:cF b){a:Nat}(f:a<=b.length) :
  br (!(Yv (r4 b a)).2.2.1) (some (ai,0,false,())) (br (decide ((Yv (r4 b a)).1>ak ((b.length:Int)-(Yv (r4 b a)).2.1))) (some (ai,0,false,()))
   (ck (Oy (Yv (r4 b a)).2.1 (ak ((Yv (r4 b a)).2.1+(Yv (r4 b a)).1)) (b.length:Int)) (some (strOf ((b.take (ak ((Yv (r4 b a)).2.1+(Yv (r4 b a)).1)).toNat).drop (Yv (r4 b a)).2.1.toNat),ak ((Yv (r4 b a)).2.1+(Yv (r4 b a)).1),true,()))))=some (atr (Yw b a)):=by
 have i:=e.1;unfold Yw;cases g:r4 b a with
 |none=>rfl
 |some r =>
  obtain⟨v,c⟩:=r;have h:=UH e f g;show br (!true) _ (br (decide (v>ak ((b.length:Int)-(c:Int)))) _ (ck (Oy (c:Int) (ak ((c:Int)+v)) (b.length:Int)) (some (strOf ((b.take (ak ((c:Int)+v)).toNat).drop (c:Int).toNat),ak ((c:Int)+v),true,()))))=some (atr (if v>(b.length:Int)-c then none else some (strOf ((b.take (c+v.toNat)).drop c),c+v.toNat)));rw[aZ,aa,aB (n:=(b.length:Int)-c) (by omega) (by omega),aB (n:=(c:Int)+v) (by omega) (by omega)];by_cases d:v>(b.length:Int)-c
  .rw[aS d,ae,an d];rfl
  .rw[aT d,aa,ah d,show(c:Int)+v=((c+v.toNat:Nat):Int) by omega,UG (by omega) (by omega),ad];simp only[oR,atr]
def aq5 {b:List Int}(c:cF b){a:Nat}(d:a<=b.length):Gw F0 b (a:Int)=some (atr (Yw b a)):=by rw[ae0,aaX c d,ao];exact amQ c d
def Hh {b:List Int}(c:cF b){a:Nat}(d:a<=b.length):mv F0 b (a:Int)=some (atr (Yw b a)):=by rw[afZ,amP c d,ao];exact amQ c d
def aAD {b:List Int}(c:cF b){a:Nat}(e:a<=b.length){v:ByteArray}{a':Nat}(h:Yw b a=some (v,a')):v.size<=1048576/\a<a'/\a'<=b.length:=by
 have i:=c.1;unfold Yw at h;split at h
 .rename_i f d g;have j:=UH c e g;split at h
  .cases h
  .rename_i k;cases h;refine⟨?_,by omega,by omega⟩;show(((b.take (d+f.toNat)).drop d).map fun n=>UInt8.ofNat n.toNat).toArray.size<=1048576;rw[List.size_toArray,n1,b7,cp];omega
 .cases h
def cS (b:List Int)(s:N7):ByteArray×N7:=match Yw b s.1 with
 |some (v,a)=>if s.2=true then (v,a,true) else (ai,s.1,false)|none=>(ai,s.1,false)
def aaY {b:List Int}(c:cF b){s:N7}(d:s.1<=b.length):l8 F0 (cell b s)=some (((cS b s).1,()),cell b (cS b s).2,()):=by
 obtain⟨a,ok⟩:=s;rw[ae2,aq5 c d,ao];unfold cS atr;dsimp only;cases Yw b a with
 |none=>rfl|some r=>cases ok<;>rfl
def UI {b:List Int}(c:cF b){s:N7}(d:s.1<=b.length):fm F0 (TY b s)=some (((cS b s).1,()),TY b (cS b s).2,()):=by
 obtain⟨a,ok⟩:=s;rw[Vh,Hh c d,ao];unfold cS atr;dsimp only;cases Yw b a with
 |none=>cases ok<;>rfl|some r=>cases ok<;>rfl
def vl {b:List Int}(d:cF b){s:N7}(c:s.1<=b.length):(cS b s).2.1<=b.length/\(cS b s).1.size<=1048576:=by
 unfold cS;split
 .rename_i v a h;have:=aAD d c h;split
  .exact⟨this.2.2,this.1⟩
  .exact⟨c,aX _⟩
 .exact⟨c,aX _⟩
def iR (b:List Int)(n:Int):Nat->Int->N7->List Int->List Int×N7
 |0,_,s,xs=>(xs,s)|f+1,i,s,xs=>if i<n/\s.2=true then iR b n f (i+1) (aO b s).2 (xs++[(aO b s).1]) else (xs,s)
def Ar (b:List Int)(s:N7):List Int×N7:=iR b (aO b s).1 (b.length+2) 0 (aO b s).2 []
def aq6 {b:List Int}(e:cF b)(a:Int){γ:Type}(J:Ex->St->Option γ):∀(f:Nat) (i:Int) (s:N7) (xs:List Int) (m:Nat),s.1<=b.length->0<=i->i+f<=4194304->(s.2=true->b.length+2<=s.1+f)->xs.length+f<=4194304->f<m ->
  B4 F0 J m (td a i b (s.1:Int) s.2 xs)=J (.exit 0) (p0 b ((iR b a f i s xs).2.1:Int) (iR b a f i s xs).2.2 (iR b a f i s xs).1)
 |0,i,s,xs,m,g,n,o,j,p,r=>by
  obtain⟨m,rfl⟩:∃q,m=q+1:=⟨m-1,by omega⟩;have c:s.2=false:=HB.2 fun h=>by have:=j h;omega
  rw[Ij];unfold iR;dsimp only;rw[c,aa];cases decide (i<a)<;>rfl
 |f+1,i,s,xs,m,g,n,o,j,p,r=>by
  obtain⟨m,rfl⟩:∃q,m=q+1:=⟨m-1,by omega⟩;rw[Ij];unfold iR;by_cases d:i<a
  .rw[aS d,ae];cases c:s.2 with
   |false =>
    rw[aa,ah (fun h=>by cases h.2),c]
   |true =>
    have k:=rC e g;have l:=dx e g;unfold cell at k;rw[c]at k;rw[ae,an ⟨d,rfl⟩,k,ao,aE (by omega) (by omega) (by rw[ej];omega),ad,aB (by omega) (by omega)];exact aq6 e a J f (i+1) (aO b s).2 (xs++[(aO b s).1]) m l.1 (by omega) (by omega) (fun h=>by have:=l.2.1 h;have:=j c;omega) (by rw[aW,ej];omega) (by omega)
  .rw[aT d,aa,ah (fun h=>d h.1)]
def aq7 {b:List Int}(e:cF b)(a:Int){γ:Type}(J:Ex->St->Option γ):∀(f:Nat) (i:Int) (s:N7) (xs:List Int) (m:Nat),s.1<=b.length->0<=i->i+f<=4194304->(s.2=true->b.length+2<=s.1+f)->xs.length+f<=4194304->f<m ->
  my F0 J m (jR a i b (s.1:Int) (!s.2) xs)=J (.exit 0) (iO b ((iR b a f i s xs).2.1:Int) (!(iR b a f i s xs).2.2) (iR b a f i s xs).1)
 |0,i,s,xs,m,g,n,o,j,p,r=>by
  obtain⟨m,rfl⟩:∃q,m=q+1:=⟨m-1,by omega⟩;have c:s.2=false:=HB.2 fun h=>by have:=j h;omega
  rw[vi];unfold iR;dsimp only;rw[c];cases decide (i<a)<;>rfl
 |f+1,i,s,xs,m,g,n,o,j,p,r=>by
  obtain⟨m,rfl⟩:∃q,m=q+1:=⟨m-1,by omega⟩;rw[vi];unfold iR;by_cases d:i<a
  .rw[aS d,ae];cases c:s.2 with
   |false =>
    rw[ah (fun h=>by cases h.2),c];rfl
   |true =>
    have k:=lL e g;have l:=dx e g;unfold TY at k;rw[c]at k;rw[aZ,gQ,ae,an ⟨d,rfl⟩,show(false:Bool)= !true from rfl,k,ao,aE (by omega) (by omega) (by rw[ej];omega),ad,aB (by omega) (by omega)];exact aq7 e a J f (i+1) (aO b s).2 (xs++[(aO b s).1]) m l.1 (by omega) (by omega) (fun h=>by have:=l.2.1 h;have:=j c;omega) (by rw[aW,ej];omega) (by omega)
  .rw[aT d,aa,ah (fun h=>d h.1)]
def avK {b:List Int}(a:cF b){s:N7}(c:s.1<=b.length):Dd F0 (cell b s)=some (((Ar b s).1,()),cell b (Ar b s).2,()):=by have e:=a.1;have d:=dx a c;rw[ah5,rC a c,ao];refine(aq6 a (aO b s).1 (Eu F0) (b.length+2) 0 (aO b s).2 [] _ d.1 (Pt _) (by omega) (fun _=>by omega) (by rw[bd];omega) (by rw[bj];omega)).trans ?_;rw[ZL];rfl
def aq8 {b:List Int}(a:cF b){s:N7}(c:s.1<=b.length):lx F0 (TY b s)=some (((Ar b s).1,()),TY b (Ar b s).2,()):=by have e:=a.1;have d:=dx a c;rw[Vi,lL a c,ao];refine(aq7 a (aO b s).1 (po F0) (b.length+2) 0 (aO b s).2 [] _ d.1 (Pt _) (by omega) (fun _=>by omega) (by rw[bd];omega) (by rw[bj];omega)).trans ?_;rw[ON];rfl
def ats (b:List Int)(n:Int)(f:Nat)(i:Int){s:N7}(h:s.2=false)(xs:List Int):iR b n f i s xs=(xs,s):=by
 cases f with
 |zero=>rfl
 |succ f =>
  unfold iR;rw[ah (fun a=>by rw[h]at a;cases a.2)]
def amR {b:List Int}(d:cF b)(n:Int):∀(f:Nat) (i:Int) (s:N7) (xs:List Int),s.1<=b.length->(iR b n f i s xs).2.1<=b.length/\((iR b n f i s xs).2.2=true->(iR b n f i s xs).1.length+s.1<=xs.length+(iR b n f i s xs).2.1)
 |0,i,s,xs,a=>⟨a,fun _=>bu _⟩
 |f+1,i,s,xs,a=>by
  unfold iR;split
  .have e:=dx d a;have g:=amR d n f (i+1) (aO b s).2 (xs++[(aO b s).1]) e.1;refine⟨g.1,fun h=>?_⟩;cases c:(aO b s).2.2 with
   |false =>
    rw[ats b n f (i+1) c,c]at h;cases h
   |true =>
    have k:=e.2.1 c;have j:=g.2 h;rw[aW,ej]at j;omega
  .exact⟨a,fun _=>bu _⟩
def ajL {b:List Int}(a:cF b){s:N7}(c:s.1<=b.length):(Ar b s).2.1<=b.length/\((Ar b s).2.2=true->(Ar b s).1.length<=1048576):=by have g:=a.1;have d:=dx a c;have h:=amR a (aO b s).1 (b.length+2) 0 (aO b s).2 [] d.1;refine⟨h.1,fun e=>?_⟩;have f:=h.2 e;have i:=h.1;rw[bd]at f;unfold Ar;omega
def vp (b:List Int)(s:N7):b0×N7:=(((aO b s).1,(cS b (aO b s).2).1,(Ar b (cS b (aO b s).2).2).1),(Ar b (cS b (aO b s).2).2).2)
def att {b:List Int}(a:cF b){s:N7}(c:s.1<=b.length):AQ F0 (cell b s)=some (((vp b s).1,()),cell b (vp b s).2,()):=by have d:=(dx a c).1;have e:=(vl a d).1;rw[ak5,rC a c,ao,aaY a d,ao,avK a e,ao];rfl
def apc {b:List Int}(a:cF b){s:N7}(c:s.1<=b.length):ly F0 (TY b s)=some (((vp b s).1,()),TY b (vp b s).2,()):=by have d:=(dx a c).1;have e:=(vl a d).1;rw[aal,lL a c,ao,UI a d,ao,aq8 a e,ao];rfl
def O4 {b:List Int}(a:cF b){s:N7}(e:s.1<=b.length):(vp b s).2.1<=b.length/\((vp b s).2.2=true->Bu (vp b s).1):=by have f:=(dx a e).1;have c:=vl a f;have d:=ajL a c.1;exact⟨d.1,fun h=>⟨c.2,d.2 h⟩⟩
def Yx:cq:=(0,0,(ai,b1),b1,b1,0,ny)
def Rw (c:Int×Int)(b:List Int)(m:cq)(s:N7):cq×Bool:=if s.2=true/\(s.1:Int)=(b.length:Int)/\dZ c m=true then (m,true) else (Yx,false)
def aaZ {c:Int×Int}{b:List Int}{m:cq}{s:N7}(h:s.2=true->kk m) :
  br (!s.2) (some (Yx,false,())) (br ((s.1:Int) != (b.length:Int)) (some (Yx,false,())) ((eH F0 c m).bind fun d=>br (!d.1) (some (Yx,false,())) (some (m,true,()))))=some ((Rw c b m s).1,(Rw c b m s).2,()):=by
 unfold Rw;cases e:s.2 with
 |false =>
  rw[ah (fun h=>by cases h.1)];rfl
 |true =>
  rw[aZ,aa,HA (h e),ao];by_cases a:(s.1:Int)=(b.length:Int)
  .rw[show((s.1:Int) != (b.length:Int))=false from Ri.2 a,aa];cases f:dZ c m with
   |false =>
    rw[ah (fun h=>by cases h.2.2)];rfl
   |true =>
    rw[an ⟨rfl,a,rfl⟩];rfl
  .rw[C4.2 a,ae,ah (fun h=>a h.2.1)]
def TZ {c:Int×Int}{b:List Int}{m:cq}{s:N7}(h:s.2=true->kk m) :
  br (!s.2) (some (Yx,false,())) (br ((s.1:Int) != (b.length:Int)) (some (Yx,false,())) ((kj F0 c m).bind fun d=>br (!d.1) (some (Yx,false,())) (some (m,true,()))))=some ((Rw c b m s).1,(Rw c b m s).2,()):=by
 unfold Rw;cases e:s.2 with
 |false =>
  rw[ah (fun h=>by cases h.1)];rfl
 |true =>
  rw[aZ,aa,ajI (h e),ao];by_cases a:(s.1:Int)=(b.length:Int)
  .rw[show((s.1:Int) != (b.length:Int))=false from Ri.2 a,aa];cases f:dZ c m with
   |false =>
    rw[ah (fun h=>by cases h.2.2)];rfl
   |true =>
    rw[an ⟨rfl,a,rfl⟩];rfl
  .rw[C4.2 a,ae,ah (fun h=>a h.2.1)]
def ho (b:List Int):Int×N7:=aO b (0,true)
def aAE (b:List Int):cq×N7:=(((ho b).1,0,((cS b (ho b).2).1,(vp b (cS b (ho b).2).2).1),b1,b1,0,ny),(vp b (cS b (ho b).2).2).2)
def aAF (b:List Int):cq×N7 :=
 (((ho b).1,0,(ai,b1),((aO b (ho b).2).1,(cS b (aO b (ho b).2).2).1,(Ar b (cS b (aO b (ho b).2).2).2).1),b1,0,ny),(Ar b (cS b (aO b (ho b).2).2).2).2)
def aAG (b:List Int):cq×N7 :=
 (((ho b).1,(aO b (ho b).2).1,(ai,b1),b1,(vp b (aO b (aO b (ho b).2).2).2).1,(aO b (aO b (ho b).2).2).1,ny),(vp b (aO b (aO b (ho b).2).2).2).2)
def aAH (b:List Int):cq×N7 :=
 (((ho b).1,0,(ai,b1),b1,b1,0,(aO b (ho b).2).1,(aO b (aO b (ho b).2).2).1,(aO b (aO b (aO b (ho b).2).2).2).1,(aO b (aO b (aO b (aO b (ho b).2).2).2).2).1),(aO b (aO b (aO b (aO b (ho b).2).2).2).2).2)
def aCk (b:List Int):cq×N7:=(((ho b).1,0,(ai,b1),b1,b1,0,ny),(ho b).2)
def aa0 (b:List Int):cq×N7:=if ((ho b).1==1)=true then aAE b else if ((ho b).1==2)=true then aAF b else if ((ho b).1==3)=true then aAG b else if ((ho b).1==4)=true then aAH b else aCk b
def j9 (c:Int×Int)(b:List Int):cq×Bool:=Rw c b (aa0 b).1 (aa0 b).2
def ac9 {b:List Int}(a:cF b)(c:Int×Int):AR F0 c b=some ((j9 c b).1,(j9 c b).2,()):=by
 have v:cx F0 (b,0,true)=some (((ho b).1,()),cell b (ho b).2,()):=rC a (s:=(0,true)) (aX _);have i:(ho b).2.1<=b.length:=(dx a (s:=(0,true)) (aX _)).1;have j:=(dx a i).1;have k:=(dx a j).1;have w:=(dx a k).1;have t0:=vl a i;have t1:=vl a j;have l:=O4 a t0.1;have n:=O4 a k;have o:=ajL a t1.1;rw[ak6,v,ao];unfold j9 aa0;dsimp only;by_cases p:((ho b).1==1)=true
 .rw[p,ae,an rfl,aaY a i,ao,att a t0.1,ao];unfold aAE;generalize vp b (cS b (ho b).2).2=e at l ⊢;generalize cS b (ho b).2=f at t0 ⊢;generalize ho b=d;exact aaZ (c:=c) (b:=b) (m:=(d.1,0,(f.1,e.1),b1,b1,0,ny)) (s:=e.2) fun h=>⟨t0.2,l.2 h,db,db⟩
 .rw[HB.2 p,aa,ah (by decide)];by_cases q:((ho b).1==2)=true
  .rw[q,ae,an rfl,rC a i,ao,aaY a j,ao,avK a t1.1,ao];unfold aAF;generalize Ar b (cS b (aO b (ho b).2).2).2=g at o ⊢;generalize cS b (aO b (ho b).2).2=e at t1 ⊢;generalize aO b (ho b).2=f;generalize ho b=d;exact aaZ (c:=c) (b:=b) (m:=(d.1,0,(ai,b1),(f.1,e.1,g.1),b1,0,ny)) (s:=g.2) fun h=>⟨aX _,db,⟨t1.2,o.2 h⟩,db⟩
  .rw[HB.2 q,aa,ah (by decide)];by_cases r:((ho b).1==3)=true
   .rw[r,ae,an rfl,rC a i,ao,rC a j,ao,att a k,ao];unfold aAG;generalize vp b (aO b (aO b (ho b).2).2).2=g at n ⊢;generalize aO b (aO b (ho b).2).2=e;generalize aO b (ho b).2=f;generalize ho b=d;exact aaZ (c:=c) (b:=b) (m:=(d.1,f.1,(ai,b1),b1,g.1,e.1,ny)) (s:=g.2) fun h=>⟨aX _,db,db,n.2 h⟩
   .rw[HB.2 r,aa,ah (by decide)];by_cases t:((ho b).1==4)=true
    .rw[t,ae,an rfl,rC a i,ao,rC a j,ao,rC a k,ao,rC a w,ao];unfold aAH;generalize aO b (aO b (aO b (aO b (ho b).2).2).2).2=u;generalize aO b (aO b (aO b (ho b).2).2).2=g;generalize aO b (aO b (ho b).2).2=e;generalize aO b (ho b).2=f;generalize ho b=d;exact aaZ (c:=c) (b:=b) (m:=(d.1,0,(ai,b1),b1,b1,0,f.1,e.1,g.1,u.1)) (s:=u.2) fun h=>⟨aX _,db,db,db⟩
    .rw[HB.2 t,aa,ah (by decide)];unfold aCk;generalize ho b=d;exact aaZ (c:=c) (b:=b) (m:=(d.1,0,(ai,b1),b1,b1,0,ny)) (s:=d.2) fun h=>⟨aX _,db,db,db⟩
def ajM {b:List Int}(a:cF b)(c:Int×Int):IX F0 c b=some ((j9 c b).1,(j9 c b).2,()):=by
 have v:bs F0 (b,0,false)=some (((ho b).1,()),TY b (ho b).2,()):=lL a (s:=(0,true)) (aX _);have i:(ho b).2.1<=b.length:=(dx a (s:=(0,true)) (aX _)).1;have j:=(dx a i).1;have k:=(dx a j).1;have w:=(dx a k).1;have t0:=vl a i;have t1:=vl a j;have l:=O4 a t0.1;have n:=O4 a k;have o:=ajL a t1.1;rw[alu,v,ao];unfold j9 aa0;dsimp only;by_cases p:((ho b).1==1)=true
 .rw[p,ae,an rfl,UI a i,ao,apc a t0.1,ao];unfold aAE;generalize vp b (cS b (ho b).2).2=e at l ⊢;generalize cS b (ho b).2=f at t0 ⊢;generalize ho b=d;exact TZ (c:=c) (b:=b) (m:=(d.1,0,(f.1,e.1),b1,b1,0,ny)) (s:=e.2) fun h=>⟨t0.2,l.2 h,db,db⟩
 .rw[HB.2 p,aa,ah (by decide)];by_cases q:((ho b).1==2)=true
  .rw[q,ae,an rfl,lL a i,ao,UI a j,ao,aq8 a t1.1,ao];unfold aAF;generalize Ar b (cS b (aO b (ho b).2).2).2=g at o ⊢;generalize cS b (aO b (ho b).2).2=e at t1 ⊢;generalize aO b (ho b).2=f;generalize ho b=d;exact TZ (c:=c) (b:=b) (m:=(d.1,0,(ai,b1),(f.1,e.1,g.1),b1,0,ny)) (s:=g.2) fun h=>⟨aX _,db,⟨t1.2,o.2 h⟩,db⟩
  .rw[HB.2 q,aa,ah (by decide)];by_cases r:((ho b).1==3)=true
   .rw[r,ae,an rfl,lL a i,ao,lL a j,ao,apc a k,ao];unfold aAG;generalize vp b (aO b (aO b (ho b).2).2).2=g at n ⊢;generalize aO b (aO b (ho b).2).2=e;generalize aO b (ho b).2=f;generalize ho b=d;exact TZ (c:=c) (b:=b) (m:=(d.1,f.1,(ai,b1),b1,g.1,e.1,ny)) (s:=g.2) fun h=>⟨aX _,db,db,n.2 h⟩
   .rw[HB.2 r,aa,ah (by decide)];by_cases t:((ho b).1==4)=true
    .rw[t,ae,an rfl,lL a i,ao,lL a j,ao,lL a k,ao,lL a w,ao];unfold aAH;generalize aO b (aO b (aO b (aO b (ho b).2).2).2).2=u;generalize aO b (aO b (aO b (ho b).2).2).2=g;generalize aO b (aO b (ho b).2).2=e;generalize aO b (ho b).2=f;generalize ho b=d;exact TZ (c:=c) (b:=b) (m:=(d.1,0,(ai,b1),b1,b1,0,f.1,e.1,g.1,u.1)) (s:=u.2) fun h=>⟨aX _,db,db,db⟩
    .rw[HB.2 t,aa,ah (by decide)];unfold aCk;generalize ho b=d;exact TZ (c:=c) (b:=b) (m:=(d.1,0,(ai,b1),b1,b1,0,ny)) (s:=d.2) fun h=>⟨aX _,db,db,db⟩
structure dy (w:aj):Prop where
 l:w.2.1.length<=1048576
 r:w.2.2.1.length<=1048576
 rl:∀x∈w.2.2.1,aga x
 n:w.2.2.2.1.length<=1048576
 nb:∀x∈w.2.2.2.1,cF x.2
 s:w.2.2.2.2.length<=1048576
 st:∀x∈w.2.2.2.2,x.2.1.size<=1048576
def atu (c:Int×Int):Kd F0 c=some (EU c,()):=by
 rw[ah1,gK,ao];unfold EU;dsimp only;cases h:bq c with
 |false=>rfl
 |true =>
  have:=ch h;have a:=aqL this.1 this.2.1;have e:ak (c.1-1)=c.1-1:=aB (by omega) (by omega);rw[aZ,aa,e,aB (n:=Int.tdiv (c.1-1) 3) (by omega) (by omega),an rfl]
def LM:ay:=(0,0,0,(0,0,b1,ai),[],[],([],0),[])
def atv:j7:=(0,[])
def O5:eA:=(0,ai,0)
def ajN (c:Int×Int)(l:List ay)(k:Nat):Bool:=rQ c (l.getD k LM)&&((l.getD k LM).1==(k:Int))
def ada (c:Int×Int)(l:List j7)(k:Nat):Bool:=(j9 c (l.getD k atv).2).2&&ga 0 (ak (c.1-1)) (l.getD k atv).1
def adb (c:Int×Int)(l:List eA)(k:Nat):Bool:=ga 0 (ak (c.1-1)) (l.getD k O5).2.2&&(bF (l.getD k O5).2.1.data.toList&&(bm (l.getD k O5).2.1.data.toList==(l.getD k O5).1))
def apd (w:aj):Bool:=(List.range w.2.2.1.length).all (ajN w.1 w.2.2.1)
def LN (w:aj):Bool:=(List.range w.2.2.2.1.length).all (ada w.1 w.2.2.2.1)
def uq (w:aj):Bool:=(List.range w.2.2.2.2.length).all (adb w.1 w.2.2.2.2)
def di (w:aj):Bool :=
 bq w.1&&(j6 w.1.1 w.2.1&&(!decide ((w.2.1.length:Int)>EU w.1)&&(!((w.2.2.1.length:Int) != w.1.1)&&(!decide ((w.2.2.2.1.length:Int)>60)&&(!decide ((w.2.2.2.2.length:Int)>300)&&(apd w&&(LN w&&uq w)))))))
def aa1 (a b:Bool):(if a=true then some (b,()) else some (false,()))=some (a&&b,()):=by cases a<;>rfl
def atw {w:aj}(h:dy w):o5 F0 (k1 F0) F0.n (k0 0 w.1.1 w.1.2 w.2.1 w.2.2.1 w.2.2.2.1 w.2.2.2.2)=some (uq w,()):=by
 have d:=h.s;rw[cu (fun m k=>o5 F0 (k1 F0) m (k0 k w.1.1 w.1.2 w.2.1 w.2.2.1 w.2.2.2.1 w.2.2.2.2)) w.2.2.2.2.length (adb w.1 w.2.2.2.2) (some (true,())) (some (false,())) (fun m k a=>?_) (fun m=>?_) _ (by rw[bj];omega),gb]
 .rfl
 .have c:=h.st _ (cB a);rw[E6,aK a,ae,al a,ad,aM a,cE,ao,Hz c,ao,gv c,ao,ZO,ag (by omega)];unfold adb;rw[aL a];dsimp only;cases ga 0 (ak (w.1.1-1)) (w.2.2.2.2[k]).2.2<;>cases bF (w.2.2.2.2[k]).2.1.data.toList<;>try rfl
  by_cases b:bm (w.2.2.2.2[k]).2.1.data.toList=(w.2.2.2.2[k]).1
  .rw[show(bm (w.2.2.2.2[k]).2.1.data.toList != (w.2.2.2.2[k]).1)=false from Ri.2 b,show(bm (w.2.2.2.2[k]).2.1.data.toList==(w.2.2.2.2[k]).1)=true from cH.2 b];rfl
  .rw[C4.2 b,bX.2 b];rfl
 .rw[E6,az,aa,XI]
def atx {w:aj}(h:dy w):o6 F0 (k3 F0) F0.n (k2 0 w.1.1 w.1.2 w.2.1 w.2.2.1 w.2.2.2.1 w.2.2.2.2)=some (LN w&&uq w,()):=by
 have b:=h.n;rw[cu (fun m k=>o6 F0 (k3 F0) m (k2 k w.1.1 w.1.2 w.2.1 w.2.2.1 w.2.2.2.1 w.2.2.2.2)) w.2.2.2.1.length (ada w.1 w.2.2.2.1) (some (uq w,())) (some (false,())) (fun m k a=>?_) (fun m=>?_) _ (by rw[bj];omega),aa1]
 .rfl
 .rw[E7,aK a,ae,al a,ad,aM a,show((w.1.1,w.1.2):Int×Int)=w.1 from rfl,ac9 (h.nb _ (cB a)),ao,ad,cE,ao,ZP,ag (by omega)];unfold ada;rw[aL a];dsimp only;cases (j9 w.1 (w.2.2.2.1[k]).2).2<;>cases ga 0 (ak (w.1.1-1)) (w.2.2.2.1[k]).1<;>rfl
 .rw[E7,az,aa,XJ,atw h]
def awL {w:aj}(h:dy w):o7 F0 (k5 F0) F0.n (k4 0 w.1.1 w.1.2 w.2.1 w.2.2.1 w.2.2.2.1 w.2.2.2.2)=some (apd w&&(LN w&&uq w),()):=by
 have c:=h.r;rw[cu (fun m k=>o7 F0 (k5 F0) m (k4 k w.1.1 w.1.2 w.2.1 w.2.2.1 w.2.2.2.1 w.2.2.2.2)) w.2.2.1.length (ajN w.1 w.2.2.1) (some (LN w&&uq w,())) (some (false,())) (fun m k a=>?_) (fun m=>?_) _ (by rw[bj];omega),aa1]
 .rfl
 .rw[E8,aK a,ae,al a,ad,aM a,ad,show((w.1.1,w.1.2):Int×Int)=w.1 from rfl,fx (h.rl _ (cB a)),ao,ZQ,ag (by omega)];unfold ajN;rw[aL a];dsimp only;by_cases b:(w.2.2.1[k]).1=(k:Int)
  .rw[show((w.2.2.1[k]).1 != (k:Int))=false from Ri.2 b,show((w.2.2.1[k]).1==(k:Int))=true from cH.2 b,aa,Bool.and_true];cases rQ w.1 w.2.2.1[k]<;>rfl
  .rw[C4.2 b,bX.2 b,ae,YX];rfl
 .rw[E8,az,aa,XK,atx h]
def pF {w:aj}(h:dy w):eJ F0 w=some (di w,()):=by rw[ae3,gK,ao,ac0 (aR h.l (by omega)),ao,atu,ao,awL h];unfold di;cases bq w.1<;>cases j6 w.1.1 w.2.1<;>cases decide ((w.2.1.length:Int)>EU w.1)<;>cases ((w.2.2.1.length:Int) != w.1.1)<;>cases decide ((w.2.2.2.1.length:Int)>60)<;>cases decide ((w.2.2.2.2.length:Int)>300)<;>rfl
def aty {w:aj}(h:dy w):pr F0 (lA F0) F0.n (lz w.2.2.2.2 (w.2.2.2.2.length:Int) 0 w.1.1 w.1.2)=some (uq w,()):=by
 have d:=h.s;rw[cu (fun m k=>pr F0 (lA F0) m (lz w.2.2.2.2 (w.2.2.2.2.length:Int) k w.1.1 w.1.2)) w.2.2.2.2.length (adb w.1 w.2.2.2.2) (some (true,())) (some (false,())) (fun m k a=>?_) (fun m=>?_) _ (by rw[bj];omega),gb]
 .rfl
 .have c:=h.st _ (cB a);rw[FC,aK a,ae,al a,ad,aM a,c7,ao,Bt c,ao,ajB c,ao,aan,ag (by omega)];unfold adb;rw[aL a];dsimp only;cases ga 0 (ak (w.1.1-1)) (w.2.2.2.2[k]).2.2<;>cases bF (w.2.2.2.2[k]).2.1.data.toList<;>try rfl
  by_cases b:bm (w.2.2.2.2[k]).2.1.data.toList=(w.2.2.2.2[k]).1
  .rw[show(bm (w.2.2.2.2[k]).2.1.data.toList != (w.2.2.2.2[k]).1)=false from Ri.2 b,show(bm (w.2.2.2.2[k]).2.1.data.toList==(w.2.2.2.2[k]).1)=true from cH.2 b];rfl
  .rw[C4.2 b,bX.2 b];rfl
 .rw[FC,az,aa,X7]
def atz {w:aj}(h:dy w):pt F0 (lC F0) F0.n (lB w.2.2.2.1 (w.2.2.2.1.length:Int) 0 w.1.1 w.1.2 w.2.1 w.2.2.1 w.2.2.2.1 w.2.2.2.2 w.1.1 w.1.2)=some (LN w&&uq w,()):=by
 have b:=h.n;rw[cu (fun m k=>pt F0 (lC F0) m (lB w.2.2.2.1 (w.2.2.2.1.length:Int) k w.1.1 w.1.2 w.2.1 w.2.2.1 w.2.2.2.1 w.2.2.2.2 w.1.1 w.1.2)) w.2.2.2.1.length (ada w.1 w.2.2.2.1) (some (uq w,())) (some (false,())) (fun m k a=>?_) (fun m=>?_) _ (by rw[bj];omega),aa1]
 .rfl
 .rw[FD,aK a,ae,al a,ad,aM a,show((w.1.1,w.1.2):Int×Int)=w.1 from rfl,ajM (h.nb _ (cB a)),ao,c7,ao,aao,ag (by omega)];unfold ada;rw[aL a];dsimp only;cases (j9 w.1 (w.2.2.2.1[k]).2).2<;>cases ga 0 (ak (w.1.1-1)) (w.2.2.2.1[k]).1<;>rfl
 .rw[FD,az,aa,X8,aty h]
def awM {w:aj}(h:dy w):pw F0 (lE F0) F0.n (lD w.2.2.1 (w.2.2.1.length:Int) 0 w.1.1 w.1.2 w.2.1 w.2.2.1 w.2.2.2.1 w.2.2.2.2 w.1.1 w.1.2)=some (apd w&&(LN w&&uq w),()):=by
 have c:=h.r;rw[cu (fun m k=>pw F0 (lE F0) m (lD w.2.2.1 (w.2.2.1.length:Int) k w.1.1 w.1.2 w.2.1 w.2.2.1 w.2.2.2.1 w.2.2.2.2 w.1.1 w.1.2)) w.2.2.1.length (ajN w.1 w.2.2.1) (some (LN w&&uq w,())) (some (false,())) (fun m k a=>?_) (fun m=>?_) _ (by rw[bj];omega),aa1]
 .rfl
 .rw[FE,aK a,ae,al a,ad,aM a,show((w.1.1,w.1.2):Int×Int)=w.1 from rfl,Yu (h.rl _ (cB a)),ao,aap,ag (by omega)];unfold ajN;rw[aL a];dsimp only;by_cases b:(w.2.2.1[k]).1=(k:Int)
  .rw[show((w.2.2.1[k]).1 != (k:Int))=false from Ri.2 b,show((w.2.2.1[k]).1==(k:Int))=true from cH.2 b,aa,Bool.and_true];cases rQ w.1 w.2.2.1[k]<;>rfl
  .rw[C4.2 b,bX.2 b,ae,YX];cases rQ w.1 w.2.2.1[k]<;>rfl
 .rw[FE,az,aa,X9,atz h]
def mK {w:aj}(h:dy w):dd F0 w=some (di w,()):=by rw[af0,pD,ao,Ys (aR h.l (by omega)),ao,aej,ao,awM h];unfold di;cases bq w.1<;>cases j6 w.1.1 w.2.1<;>cases decide ((w.2.1.length:Int)>EU w.1)<;>cases ((w.2.2.1.length:Int) != w.1.1)<;>cases decide ((w.2.2.2.1.length:Int)>60)<;>cases decide ((w.2.2.2.2.length:Int)>300)<;>rfl
def Yy (r:ay):Int:=(r.2.2.2.2.1.length:Int)+r.2.2.2.2.2.1.length+r.2.2.2.2.2.2.2.length
def aAI {r:ay}(h:aga r):UA F0 r=some (Yy r,()):=by have a:=h.p;have b:=h.t;have c:=h.h;rw[aoH,aB (n:=(r.2.2.2.2.1.length:Int)+(r.2.2.2.2.2.1.length:Int)) (by omega) (by omega),aB (by omega) (by omega)];rfl
def ayN {r:ay}(h:aga r):Uz F0 r=some (Yy r,()):=by have a:=h.p;have b:=h.t;have c:=h.h;rw[aoF,aB (n:=(r.2.2.2.2.1.length:Int)+(r.2.2.2.2.2.1.length:Int)) (by omega) (by omega),aB (by omega) (by omega)];rfl
def ape (w:aj):Bool:=(List.range w.2.2.1.length).all fun k=> !decide (Yy (w.2.2.1.getD k LM)>62)
def apf (w:aj):Bool:=di w&&(ape w&&(decide ((w.2.2.2.1.length:Int)<=60)&&decide ((w.2.2.2.2.length:Int)<=300)))
def atA {w:aj}(h:dy w):ey F0 w=some (apf w,()):=by
 have b:=h.r;rw[ajk,pF h,ao,cu (fun m k=>CW F0 (um F0) m (uk k w.1.1 w.1.2 w.2.1 w.2.2.1 w.2.2.2.1 w.2.2.2.2)) w.2.2.1.length (fun k=> !decide (Yy (w.2.2.1.getD k LM)>62)) (some (decide ((w.2.2.2.1.length:Int)<=60)&&decide ((w.2.2.2.2.length:Int)<=300),())) (some (false,())) (fun m k a=>?_) (fun m=>?_) _ (by rw[bj];omega),aa1]
 .unfold apf ape;cases di w<;>rfl
 .rw[Jq,aK a,ae,al a,ad,aM a,aAI (h.rl _ (cB a)),ao,acS,ag (by omega),aL a];dsimp only;cases decide (Yy w.2.2.1[k]>62)<;>rfl
 .rw[Jq,az,aa,aaJ];cases decide ((w.2.2.2.1.length:Int)<=60)<;>rfl
def ayO (a b:Int):decide (a>b)= !decide (a<=b):=by
 by_cases h:a<=b
 .rw[aS h,aT (show ¬a>b by omega)];rfl
 .rw[aT h,aS (show a>b by omega)];rfl
def aq9 {w:aj}(h:dy w):ew F0 w=some (apf w,()):=by
 have b:=h.r;rw[aji,mK h,ao,ayO,ayO,cu (fun m k=>CS F0 (uj F0) m (ui w.2.2.1 (w.2.2.1.length:Int) k)) w.2.2.1.length (fun k=> !decide (Yy (w.2.2.1.getD k LM)>62)) (some (true,())) (some (false,())) (fun m k a=>?_) (fun m=>?_) _ (by rw[bj];omega),gb]
 .unfold apf ape;cases di w<;>cases decide ((w.2.2.2.1.length:Int)<=60)<;>cases decide ((w.2.2.2.2.length:Int)<=300)<;>cases (List.range w.2.2.1.length).all _<;>rfl
 .rw[Jp,aK a,ae,al a,ad,aM a,ayN (h.rl _ (cB a)),ao,acR,ag (by omega),aL a];dsimp only;cases decide (Yy w.2.2.1[k]>62)<;>rfl
 .rw[Jp,az,aa,aaI]
structure aEg (r:ay):Prop where
 i1:Hx r.1
 i2:Hx r.2.1
 i3:Hx r.2.2.2.1.1
 i4:Hx r.2.2.2.1.2.1
 i5:Hx r.2.2.2.1.2.2.1.1
 d:r.2.2.2.1.2.2.2.size<=1048576
 p:r.2.2.2.2.1.length<=1048576
 t:r.2.2.2.2.2.1.length<=1048576
 h:r.2.2.2.2.2.2.2.length<=1048576
def ade {n:Nat}{q:Nat->Nat->Bool}(c:∀i k,i<n->k<n->q i k=q k i)(d:∀i,i<n->q i i=true):((List.range n).all fun i=>(List.range i).all (q i))=(List.range n).all fun i=>(List.range n).all (q i):=by
 rw[Bool.eq_iff_iff];simp only[fL,gP];constructor
 .intro h i a k b;rcases Nat.lt_trichotomy i k with hlt|e|f
  .rw[c i k a b];exact h k b i hlt
  .subst e;exact d i a
  .exact h i a k f
 .intro h i a k b;exact h i a k (by omega)
def ara (l:List Int)(a b:eA):Bool:= !decide (a.2.2∈l)&&((a.2.2==b.2.2)&&((a.1==b.1)&& !(a.2.1.toList==b.2.1.toList)))
def awN (l:List Int)(a b:eA):ara l a b=ara l b a:=by
 unfold ara;rw[HD (a:=b.2.2),HD (a:=b.1),HD (a:=b.2.1.toList)];by_cases h:a.2.2=b.2.2
 .rw[h]
 .rw[bX.2 h,YW,YX,YX]
def awO (l:List Int)(a:eA):ara l a a=false:=by unfold ara;rw[C3 a.2.1.toList];simp
def okV (w:aj)(i k:Nat):Bool:= !ara w.2.1 (w.2.2.2.2.getD i O5) (w.2.2.2.2.getD k O5)
def O6 (w:aj):Bool:=di w&&(List.range w.2.2.2.2.length).all fun i=>(List.range w.2.2.2.2.length).all (okV w i)
def arb (w:aj):((List.range w.2.2.2.2.length).all fun i=>(List.range i).all (okV w i))=(List.range w.2.2.2.2.length).all fun i=>(List.range w.2.2.2.2.length).all (okV w i) :=
 ade (fun i k _ _=>by unfold okV;rw[awN]) (fun i _=>by unfold okV;rw[awO];rfl)
def ajO {V:Type}(h a b c:Bool)(x y:V):br (!h) (br a (br b (br (!c) x y) y) y) y=if (!(!h&&(a&&(b&& !c))))=true then y else x:=by cases h<;>cases a<;>cases b<;>cases c<;>rfl
def ayP {w:aj}(h:dy w){γ:Type}(J:Ex->St->Option γ)(n:Nat){i:Nat}(a:i<w.2.2.2.2.length):dP F0 (ha F0 J n) F0.n (c6 (i:Int) 0 w.1.1 w.1.2 w.2.1 w.2.2.1 w.2.2.2.1 w.2.2.2.2) =
  if (List.range i).all (okV w i)=true then j3 F0 J n (hh ((i+1:Nat):Int) w.1.1 w.1.2 w.2.1 w.2.2.1 w.2.2.2.1 w.2.2.2.2) else J .ret (r1 false):=by
 have d:=h.s;have e:=h.l;refine cu (fun m k=>dP F0 (ha F0 J n) m (c6 (i:Int) k w.1.1 w.1.2 w.2.1 w.2.2.1 w.2.2.2.1 w.2.2.2.2)) i (okV w i) _ _ (fun m k c=>?_) (fun m=>?_) _ (by rw[bj];omega)
 .have b:k<w.2.2.2.2.length:=by omega
  rw[yM,aK c,ae,al a,ad,al b,ad,aM a,aM b,eg (by omega),ao,TC,ag (by omega)];dsimp only;rw[ajO];unfold okV ara;rw[aL a,aL b]
 .rw[yM,az,aa,Ra,ag (by omega)]
def ajP {w:aj}(h:dy w):uf F0 w=some (O6 w,()):=by
 have b:=h.s;rw[Yh,pF h,ao,cu (fun m k=>j3 F0 (kM F0) m (hh k w.1.1 w.1.2 w.2.1 w.2.2.1 w.2.2.2.1 w.2.2.2.2)) w.2.2.2.2.length (fun i=>(List.range i).all (okV w i)) (some (true,())) (some (false,())) (fun m k a=>?_) (fun m=>?_) _ (by rw[bj];omega),gb,arb]
 .unfold O6;cases di w<;>rfl
 .rw[yN,aK a,ae,ayP h _ _ a,TD]
 .rw[yN,az,aa,Rb]
def awQ {w:aj}(h:dy w){γ:Type}(J:Ex->St->Option γ)(n:Nat){i:Nat}(b:i<w.2.2.2.2.length) :
  dN F0 (gV F0 J n) F0.n (c4 w.2.2.2.2 (w.2.2.2.2.length:Int) (i:Int) w.2.2.2.2 (w.2.2.2.2.length:Int) 0 w.1.1 w.1.2 w.2.1 w.2.2.1 w.2.2.2.1 w.2.2.2.2 (w.2.2.2.2[i]).1 (w.2.2.2.2[i]).2.1 (w.2.2.2.2[i]).2.2) =
  if (List.range w.2.2.2.2.length).all (okV w i)=true then jW F0 J n (gW w.2.2.2.2 (w.2.2.2.2.length:Int) ((i+1:Nat):Int) w.1.1 w.1.2 w.2.1 w.2.2.1 w.2.2.2.1 w.2.2.2.2) else J .ret (rW false):=by
 have c:=h.s;have d:=h.l;refine cu (fun m k=>dN F0 (gV F0 J n) m (c4 w.2.2.2.2 (w.2.2.2.2.length:Int) (i:Int) w.2.2.2.2 (w.2.2.2.2.length:Int) k w.1.1 w.1.2 w.2.1 w.2.2.1 w.2.2.2.1 w.2.2.2.2 (w.2.2.2.2[i]).1 (w.2.2.2.2[i]).2.1 (w.2.2.2.2[i]).2.2)) w.2.2.2.2.length (okV w i) _ _ (fun m k a=>?_) (fun m=>?_) _ (by rw[bj];omega)
 .rw[yD,aK a,ae,al a,ad,aM a,aeh (by omega),ao,Tl,ag (by omega)];dsimp only;rw[ajO];unfold okV ara;rw[aL b,aL a]
 .rw[yD,az,aa,Q4,ag (by omega)]
def QU {w:aj}(h:dy w):nr F0 w=some (O6 w,()):=by
 have b:=h.s;rw[Yc,mK h,ao,cu (fun m k=>jW F0 (kK F0) m (gW w.2.2.2.2 (w.2.2.2.2.length:Int) k w.1.1 w.1.2 w.2.1 w.2.2.1 w.2.2.2.1 w.2.2.2.2)) w.2.2.2.2.length (fun i=>(List.range w.2.2.2.2.length).all (okV w i)) (some (true,())) (some (false,())) (fun m k a=>?_) (fun m=>?_) _ (by rw[bj];omega),gb]
 .unfold O6;cases di w<;>rfl
 .rw[yE,aK a,ae,al a,ad,aM a,awQ h _ _ a,Tm]
 .rw[yE,az,aa,Q5]
def sC (l:List Int):Nat->List Int
 |0=>[]|k+1=>sC l k++if (k:Int)∈l then [] else [(k:Int)]
def dz (l:List Int):∀k,(sC l k).length<=k
 |0=>bu _|k+1=>by
  have:=dz l k;unfold sC;split
  .rw[gO];omega
  .rw[aW,ej];omega
def adf (l:List Int):∀k,∀x∈sC l k,0<=x/\x<k
 |0,x,h=>by cases h
 |k+1,x,h=>by
  unfold sC at h;rcases fM.1 h with a|a
  .have:=adf l k x a;omega
  .split at a
   .cases a
   .rw[h7.1 a];omega
def au (w:aj):List Int:=sC w.2.1 w.2.2.1.length
def aeo {V:Type}(X:List Int->V)(l xs:List Int)(k:Int):br (!decide (k∈l)) (X (xs++[k])) (X xs)=X (xs++if k∈l then [] else [k]):=by
 by_cases h:k∈l
 .rw[aS h,an h,gO];rfl
 .rw[aT h,ah h];rfl
def Bw {w:aj}(h:dy w):jI F0 w=some (au w,()):=by
 have e:=h.r;have f:=h.l;rw[aiC];refine ca (fun n i (a:List Int)=>nK F0 (tK F0) n (iY i w.1.1 w.1.2 w.2.1 w.2.2.1 w.2.2.2.1 w.2.2.2.2 a)) w.2.2.1.length (fun k a=>a=sC w.2.1 k) _ (fun n k a c b=>.inr ⟨sC w.2.1 (k+1),?_,rfl⟩) (fun n a b=>?_) _ 0 [] (aX _) rfl (by rw[bj];omega)
 .have d:=dz w.2.1 k;rw[<-b]at d;rw[IE,aK c,ae,eg (by omega),ao,aE (by omega) (by omega) (by rw[ej];omega),ad,ag (by omega)];dsimp only;rw[aeo (fun a=>nK F0 (tK F0) n (iY ((k+1:Nat):Int) w.1.1 w.1.2 w.2.1 w.2.2.1 w.2.2.2.1 w.2.2.2.2 a)),b];rfl
 .rw[IE,az,aa,Z8,b];rfl
def DY {w:aj}(h:dy w):lX F0 w=some (au w,()):=by
 have e:=h.r;have f:=h.l;rw[ajd];refine ca (fun n i (a:List Int)=>nM F0 (ub F0) n (iZ (w.2.2.1.length:Int) i w.1.1 w.1.2 w.2.1 w.2.2.1 w.2.2.2.1 w.2.2.2.2 a)) w.2.2.1.length (fun k a=>a=sC w.2.1 k) _ (fun n k a c b=>.inr ⟨sC w.2.1 (k+1),?_,rfl⟩) (fun n a b=>?_) _ 0 [] (aX _) rfl (by rw[bj];omega)
 .have d:=dz w.2.1 k;rw[<-b]at d;rw[I2,aK c,ae,aeh (by omega),ao,aE (by omega) (by omega) (by rw[ej];omega),ad,ag (by omega)];dsimp only;rw[aeo (fun a=>nM F0 (ub F0) n (iZ (w.2.2.1.length:Int) ((k+1:Nat):Int) w.1.1 w.1.2 w.2.1 w.2.2.1 w.2.2.2.1 w.2.2.2.2 a)),b];rfl
 .rw[I2,az,aa,aaq,b];rfl
def hZ {w:aj}{k:Nat}(a:k<(au w).length):∃j:Nat,(au w)[k]=(j:Int)/\j<w.2.2.1.length:=by have:=adf w.2.1 w.2.2.1.length _ (cB a);exact⟨(au w)[k].toNat,by show _=(((au w)[k]).toNat:Int);have b:0<=(au w)[k]:=this.1;omega,by have b:0<=(au w)[k]:=this.1;have c:(au w)[k]<w.2.2.1.length:=this.2;omega⟩
def ayQ (w:aj)(x:Int):ByteArray:=(w.2.2.1.getD x.toNat LM).2.2.2.1.2.2.2
def ajQ (s t:ByteArray):Bool:=bF s.data.toList&&(bF t.data.toList&&(decide ((s.size:Int)>=(t.size:Int))&&(((s.extract 0 t.size).toList==t.toList)&&(((s.size:Int)==(t.size:Int)) || (kc s (t.size:Int)==47)))))
def T0 {s t:ByteArray}(b:s.size<=1048576)(c:t.size<=1048576):p3 F0 s t=some (ajQ s t,()):=by
 rw[aff,Hz b,ao,Hz c,ao];unfold ajQ;dsimp only;cases bF s.data.toList<;>cases bF t.data.toList<;>try rfl
 rw[aZ,aa,aa,kO,kO];by_cases d:t.size<=s.size
 .rw[aT (show ¬(t.size:Int)>(s.size:Int) by omega),aa,aS (show(s.size:Int)>=(t.size:Int) by omega),kO,ayI d,ad,oR,show(0:Int).toNat=0 from rfl];cases ((s.extract 0 t.size).toList==t.toList)<;>try rfl
  rw[aZ,aa,kO];by_cases a:(s.size:Int)=(t.size:Int)
  .rw[show((s.size:Int)==(t.size:Int))=true from cH.2 a];rfl
  .rw[bX.2 a,aa,al (by omega),ad];rfl
 .rw[aS (show(t.size:Int)>(s.size:Int) by omega),ae,aT (show ¬(s.size:Int)>=(t.size:Int) by omega)];rfl
def aa2 {s t:ByteArray}(b:s.size<=1048576)(c:t.size<=1048576):yA F0 s t=some (ajQ s t,()):=by
 rw[af1,Bt b,ao,Bt c,ao,Th,Mj];unfold ajQ;dsimp only;cases bF s.data.toList<;>cases bF t.data.toList<;>try rfl
 rw[ae,ae,kO,kO];by_cases d:t.size<=s.size
 .rw[aS (show(s.size:Int)>=(t.size:Int) by omega),kO,ae,ayI d,ad,oR,show(0:Int).toNat=0 from rfl,ao,ao];dsimp only;cases ((s.extract 0 t.size).toList==t.toList)<;>try rfl
  rw[ae,kO];by_cases a:(s.size:Int)=(t.size:Int)
  .rw[show((s.size:Int)==(t.size:Int))=true from cH.2 a];rfl
  .rw[bX.2 a,aa,al (by omega),ad];rfl
 .rw[aT (show ¬(s.size:Int)>=(t.size:Int) by omega)];rfl
def vm (s t:ByteArray):Bool:=ajQ s t || ajQ t s
def awR {s t:ByteArray}(a:s.size<=1048576)(b:t.size<=1048576):OS F0 s t=some (vm s t,()):=by rw[alC,T0 a b,ao,T0 b a,ao];unfold vm;cases ajQ s t<;>rfl
def atB {s t:ByteArray}(a:s.size<=1048576)(b:t.size<=1048576):OO F0 s t=some (vm s t,()):=by rw[alv,aa2 a b,ao,aa2 b a,ao];unfold vm;cases ajQ s t<;>rfl
def atC (s t:ByteArray):vm s t=vm t s:=Bool.or_comm _ _
def arc (s:ByteArray):s.extract 0 s.size=s:=by have:=LL s.data.toList 0 s.data.toList.length;rw[YV,Rm,jr]at this;exact this
def atD {s:ByteArray}(h:bF s.data.toList=true):vm s s=true:=by unfold vm ajQ;rw[h,arc,C3,C3,aS (show(s.size:Int)>=(s.size:Int) by omega)];rfl
end Go.Am.Tryz
