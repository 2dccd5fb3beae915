/- No condition. -/
import Derived.Test.YtaheoongenkdbaaGreatDoorQeXJL1
import Derived.Test.YtaheoongenkdbaaGreatDoorQeAmWf
set_option linter.all false
namespace Go.Am.Tryz
open Go.Am
def aCT {c:Int×Int}{view s:Int}(b:bw c=true)(d:0<=view)(e:0<=s)(h:s<=c.1-1):bK c view (Ws c view s)=s:=by
 have i:=b4 b;have f:=ahj (view%c.1+s) (show c.1≠0 by omega);have j:=ala (view%c.1+s) (show 0<c.1 by omega);unfold Ws;rw[ag ⟨b,d,e,h⟩];unfold bK;rw[ag ⟨b,d,f,by omega⟩];obtain⟨n,a⟩:=c;dsimp only at *;have g:n=4\/n=5\/n=6\/n=7:=by omega
 rcases g with rfl|rfl|rfl|rfl<;>omega
def aEI (c:Int×Int)(view:Int):bK c view (-1)=-1:=by unfold bK;rw[af (fun h=>by omega)]
def auV {c:Int×Int}{view i:Int}(h:0<=bK c view i):bw c=true/\0<=view/\bK c view i<=c.1-1:=by
 unfold bK at h ⊢;by_cases a:bw c=true/\0<=view/\0<=i/\i<=c.1-1
 .rw[ag a];have b:=b4 a.1;have d:=ala (i+c.1-view%c.1) (show 0<c.1 by omega);exact⟨a.1,a.2.1,by omega⟩
 .rw[af a]at h;omega
def aBL {c:Int×Int}{view i:Int}(h:0<=bK c view i):bK c view (Qo c view i)<bK c view i:=by
 have a:=auV h;have d:=b4 a.1;unfold Qo;by_cases b:bK c view i<=0
 .rw[ag b,aEI];omega
 .have hd1:0<=(bK c view i-1)/c.2:=Int.ediv_nonneg (by omega) (by omega);have e:(bK c view i-1)/c.2<=bK c view i-1:=Int.ediv_le_self c.2 (by omega);rw[af b,aCT a.1 a.2.1 hd1 (by omega)];omega
def Eg (c:Int×Int)(view:Int):Nat->Int->List Int
 |0,_=>[]|k+1,i=>if 0<=bK c view i then i::Eg c view k (Qo c view i) else []
def adR (c:Int×Int)(view i:Int):List Int:=Eg c view 8 i
def aio (c:Int×Int)(view:Int):∀(k:Nat) (i:Int),(Eg c view k i).length<=k
 |0,_=>bf _|k+1,i=>by
  unfold Eg;split
  .have:=aio c view k (Qo c view i);rw[aW];omega
  .exact aO _
def ar9 (c:Int×Int)(view i:Int):(adR c view i).length<=8:=aio c view 8 i
def awX (c:Int×Int)(view:Int){γ:Type}(J:Ex->St->Option γ):∀(k:Nat) (i:Int) (xs:List Int) (n:Nat),bK c view i<k->xs.length+k<=1000->k<n ->
  Q6 F0 J n (HP view i c.1 c.2 xs)=J (.exit 0) (NT (xs++Eg c view k i))
 |0,i,xs,n,a,b,d=>by obtain⟨n,rfl⟩:∃m,n=m+1:=⟨n-1,by omega⟩;rw[SB,show((c.1,c.2):Int×Int)=c from rfl,Wu,ai];dsimp only;rw[aL (show ¬bK c view i>=0 by omega),aa,Eg,fU]
 |k+1,i,xs,n,a,b,d=>by
  obtain⟨n,rfl⟩:∃m,n=m+1:=⟨n-1,by omega⟩;rw[SB,show((c.1,c.2):Int×Int)=c from rfl,Wu,ai];unfold Eg;dsimp only;by_cases h:0<=bK c view i
  .have e:=aBL h;rw[aI (show bK c view i>=0 from h),ae,ag h,ax (by omega) (by omega) (by rw[dt];omega),ad,aEH,ai];dsimp only;rw[awX c view J k (Qo c view i) (xs++[i]) n (by omega) (by rw[aG,dt];omega) (by omega),gI];rfl
  .rw[aL (show ¬bK c view i>=0 from h),aa,af h,fU]
def awY (c:Int×Int)(view:Int){γ:Type}(J:Ex->St->Option γ):∀(k:Nat) (i:Int) (xs:List Int) (n:Nat),bK c view i<k->xs.length+k<=1000->k<n ->
  Ri F0 J n (Im view i c.1 c.2 xs)=J (.exit 0) (N3 (xs++Eg c view k i))
 |0,i,xs,n,a,b,d=>by obtain⟨n,rfl⟩:∃m,n=m+1:=⟨n-1,by omega⟩;rw[To,show((c.1,c.2):Int×Int)=c from rfl,IZ,ai];dsimp only;rw[aL (show ¬bK c view i>=0 by omega),aa,Eg,fU]
 |k+1,i,xs,n,a,b,d=>by
  obtain⟨n,rfl⟩:∃m,n=m+1:=⟨n-1,by omega⟩;rw[To,show((c.1,c.2):Int×Int)=c from rfl,IZ,ai];unfold Eg;dsimp only;by_cases h:0<=bK c view i
  .have e:=aBL h;rw[aI (show bK c view i>=0 from h),ae,ag h,ax (by omega) (by omega) (by rw[dt];omega),ad,aBK,ai];dsimp only;rw[awY c view J k (Qo c view i) (xs++[i]) n (by omega) (by rw[aG,dt];omega) (by omega),gI];rfl
  .rw[aL (show ¬bK c view i>=0 from h),aa,af h,fU]
def aGA (c:Int×Int)(view i:Int):acG F0 c view i=some (adR c view i,()):=by have a:=Xp c view i;rw[awD,awX c view _ 8 i [] _ (by omega) (by rw[bj];omega) (by rw[bH];omega),amU,Bi];rfl
def aEJ (c:Int×Int)(view i:Int):adn F0 c view i=some (adR c view i,()):=by have a:=Xp c view i;rw[awG,awY c view _ 8 i [] _ (by omega) (by rw[bj];omega) (by rw[bH];omega),anS,Bi];rfl
def cmn (b a:List Int):Nat:=a.countP fun x=>decide (x∈b)
def awZ (b a:List Int)(x:Int):cmn b (a++[x])=cmn b a+if x∈b then 1 else 0:=by
 unfold cmn;rw[List.countP_append,List.countP_singleton];by_cases h:x∈b
 .simp[h]
 .simp[h]
def aEK (b a:List Int):cmn b a<=a.length:=List.countP_le_length
def azt {a b:List Int}(f:a.length<=1048576)(g:b.length<=1048576):L4 F0 a b=some ((cmn b a:Int),()):=by
 rw[amV];refine cz (fun n i (q:Int)=>Dl F0 (FP F0) n (uK a b q i)) a.length (fun k q=>q=(cmn b (a.take k):Int)) _ (fun n k q c d=>.inr ⟨(cmn b (a.take (k+1)):Int),?_,rfl⟩) (fun n q d=>?_) _ 0 0 (aO _) rfl (by rw[bH];omega)
 .have e:=aEK b (a.take k);rw[bC]at e;rw[JY,aP c,ae,ao c,ad,a8 c,fg (by omega),ai,iw c,awZ,d,al (by omega)];dsimp only;rw[aqu];by_cases h:a[k]∈b
  .rw[aI h,ae,ai,ag h];dsimp only;rw[al (by omega)]
  .rw[aL h,aa,ai,af h];dsimp only;rw[aF (by omega) (by omega),Int.add_zero];rfl
 .rw[JY,aE,aa,acI,d,k5]
def aw0 {a b:List Int}(f:a.length<=1048576)(g:b.length<=1048576):MY F0 a b=some ((cmn b a:Int),()):=by
 rw[anT];refine cz (fun n i (q:Int)=>tC F0 (F9 F0) n (nT b q a (a.length:Int) i)) a.length (fun k q=>q=(cmn b (a.take k):Int)) _ (fun n k q c d=>.inr ⟨(cmn b (a.take (k+1)):Int),?_,rfl⟩) (fun n q d=>?_) _ 0 0 (aO _) rfl (by rw[bH];omega)
 .have e:=aEK b (a.take k);rw[bC]at e;rw[Kw,aP c,ae,ao c,ad,a8 c,eM (by omega),ai,iw c,awZ,d,al (show k+1<=9223372036854775807 by omega)];dsimp only;by_cases h:a[k]∈b
  .rw[aI h,ae,ag h,al (by omega)]
  .rw[aL h,aa,af h];rfl
 .rw[Kw,aE,aa,adp,d,k5]
def Srt (l:List Int):Prop:=l.Pairwise (·< ·)
def aw1 {i x:Int}:∀{l:List Int},x∈akG i l↔x=i\/x∈l
 |[]=>by simp[akG]
 |y::l=>by
  unfold akG;split
  .rw[cN]
  .rw[cN,aw1,cN];constructor
   .rintro(h|h|h)
    .exact .inr (.inl h)
    .exact .inl h
    .exact .inr (.inr h)
   .rintro(h|h|h)
    .exact .inr (.inl h)
    .exact .inl h
    .exact .inr (.inr h)
def aEL {i x:Int}{l:List Int}:x∈Qn l i↔x=i\/x∈l:=by
 unfold Qn;split
 .rename_i h;exact⟨.inr,fun a=>a.elim (fun e=>e▸h) id⟩
 .exact aw1
def KS {x:Int}:∀(l a:List Int),x∈l.foldl Qn a↔x∈a\/x∈l
 |[],a=>by simp
 |y::l,a=>by
  rw[as1,KS l,aEL,cN];constructor
  .rintro((h|h)|h)
   .exact .inr (.inl h)
   .exact .inl h
   .exact .inr (.inr h)
  .rintro(h|h|h)
   .exact .inl (.inr h)
   .exact .inl (.inl h)
   .exact .inr h
def aCU {x:Int}{a b:List Int}:x∈adQ a b↔x∈a\/x∈b:=by unfold adQ;rw[KS,KS];simp
structure aKd (c:Int×Int) (view:Int) (cu:List Int) (k:Nat) (xs:List (List Int)):Prop where
 len:(xs.length:Int)=c.1
 srt:∀i,0<=i->i<c.1->Srt (aN xs i [])
 mem:∀i x,0<=i->i<c.1->x∈aN xs i []->x∈cu/\0<=x/\x<c.1
 up:∀x,x∈cu->0<=x->x<c.1->(k:Int)<=bK c view x->∃a:Int,0<=a/\a<max k 1/\x∈aN xs (Ws c view a) []
abbrev a1:=Int×Int×b1×ByteArray
abbrev ca:=ByteArray×b1
abbrev bW:=Int×Int×ca×b1×b1×Int×ej
abbrev gQ:=Int×bW
abbrev ar:=Int×Int×Int×a1×List ej×List b1×(List Int×Int)×List gQ
abbrev kV:=Int×List Int
abbrev cv:=Int×ByteArray×Int
abbrev ah:=(Int×Int)×List Int×List ar×List kV×List cv
def TF {b:ByteArray}(h:b.size<=1048576):b.data.toList.length<=1073741824:=bZ (Nat.le_of_eq (show b.data.toList.length=b.size from rfl)) (by omega)
def I0 {b:ByteArray}(h:b.size<=1048576):eJ F0 b=some (bd b.data.toList,()):=Rs (TF h)
def Cw {b:ByteArray}(h:b.size<=1048576):eK F0 b=some (bd b.data.toList,()):=Nk (TF h)
def ot {b:ByteArray}(h:b.size<=1048576):dk F0 b=some (aD b.data.toList,()):=aoq (TF h)
def qV {b:ByteArray}(h:b.size<=1048576):ed F0 b=some (aD b.data.toList,()):=aik (TF h)
def tK (q:b1):Prop:=q.2.1.size<=1048576/\q.2.2.length<=1048576
def eN (c:Int×Int)(q:b1):Bool:=X9 c (q.1,q.2.1.data.toList,q.2.2)
def Ru {q:b1}(h:tK q)(c:Int×Int):jQ F0 c q=some (eN c q,()):=awT (v:=q.1) (l:=q.2.1.data.toList) (s:=q.2.2) (TF h.1) (bZ h.2 (by omega)) c
def Qp {q:b1}(h:tK q)(c:Int×Int):lR F0 c q=some (eN c q,()):=ar8 (v:=q.1) (l:=q.2.1.data.toList) (s:=q.2.2) (TF h.1) (bZ h.2 (by omega)) c
def bh (c:Int×Int)(s:a1):Bool:=eF 0 60 s.1&&(eF 0 60 s.2.1&&(eN c s.2.2.1&&bd s.2.2.2.data.toList))
def jJ (s:a1):Prop:=tK s.2.2.1/\s.2.2.2.size<=1048576
def Cx {s:a1}(h:jJ s)(c:Int×Int):iB F0 c s=some (bh c s,()):=by rw[amm,cO,ai,cO,ai,Ru h.1,ai,I0 h.2,ai];unfold bh;cases eF 0 60 s.1<;>cases eF 0 60 s.2.1<;>cases eN c s.2.2.1<;>rfl
def Fg {s:a1}(h:jJ s)(c:Int×Int):km F0 c s=some (bh c s,()):=by rw[anx,bP,ai,bP,ai,Qp h.1,ai,Cw h.2,ai];unfold bh;cases eF 0 60 s.1<;>cases eF 0 60 s.2.1<;>cases eN c s.2.2.1<;>rfl
def aV {U:Type}{a:List U}{k:Nat}(h:k<a.length)(d:U):a.getD k d=a[k]:=by simp[List.getD,h]
def Wv {U:Type}(d:U)(p:U->Bool)(q:U->U->Bool)(l:List U):Bool:=(List.range l.length).all fun k=>p (l.getD k d)&&(decide (k=0) || q (l.getD (k-1) d) (l.getD k d))
def adS {V:Type}{k:Nat}(a b:Bool)(x y:V)(c:V)(d:0<k->c=br (!b) x y) :
  br (!a) x (br (decide ((k:Int)>0)) c y)=if (a&&(decide (k=0) || b))=true then y else x:=by
 cases a with
 |false=>rfl
 |true =>
  rw[aH,aa,eS];by_cases h:k=0
  .subst h;rfl
  .rw[aI (show(k:Int)>0 by omega),ae,aL h,wc,d (by omega)];cases b<;>rfl
def pt:ej:=(0,0,0,0)
def eV (a b:ej):Bool:=decide (a.1<b.1) || ((a.1==b.1)&&decide (a.2.2.2<b.2.2.2))
def adT (a b:ej):tc F0 a b=some (eV a b,()):=by rw[ae9];unfold eV;cases decide (a.1<b.1)<;>cases (a.1==b.1)<;>rfl
def auW (a b:ej):DC F0 a b=some (eV a b,()):=by rw[afO];unfold eV;cases decide (a.1<b.1)<;>cases (a.1==b.1)<;>rfl
def eP (p:List ej):Bool:=Wv pt gm eV p&&decide ((p.length:Int)<=12)
def aov {p:List ej}(h:p.length<=1048576):Ew F0 p=some (eP p,()):=by
 rw[amn,hU (fun m k=>td F0 (tS F0) m (nE p k)) p.length (fun k=>gm (p.getD k pt)&&(decide (k=0) || eV (p.getD (k-1) pt) (p.getD k pt))) (some (decide ((p.length:Int)<=12),())) (some (false,())) (fun m k a=>?_) (fun m=>?_) _ (by rw[bH];omega)]
 .unfold eP Wv;cases (List.range p.length).all _<;>rfl
 .rw[Jv,aP a,ae,ao a,ad,a8 a,Qi,ai,aV a,afa,al (by omega),ad];refine adS _ (eV (p.getD (k-1) pt) p[k]) _ _ _ fun b=>?_
  rw[KQ b (by omega),ao (show k-1<p.length by omega),ad,a8 (show k-1<p.length by omega),adT,ai,aV (show k-1<p.length by omega)]
 .rw[Jv,aE,aa,ace]
def Ww {p:List ej}(h:p.length<=1048576):wJ F0 p=some (eP p,()):=by
 rw[anz,hU (fun m k=>tk F0 (uX F0) m (nM p p (p.length:Int) k)) p.length (fun k=>gm (p.getD k pt)&&(decide (k=0) || eV (p.getD (k-1) pt) (p.getD k pt))) (some (decide ((p.length:Int)<=12),())) (some (false,())) (fun m k a=>?_) (fun m=>?_) _ (by rw[bH];omega)]
 .unfold eP Wv;cases (List.range p.length).all _<;>rfl
 .rw[Kd,aP a,ae,ao a,ad,a8 a,Cu,ai,aV a,afQ,al (by omega)];refine adS _ (eV (p.getD (k-1) pt) p[k]) _ _ _ fun b=>?_
  rw[KQ b (by omega),ao (show k-1<p.length by omega),ad,a8 (show k-1<p.length by omega),auW,ai,aV (show k-1<p.length by omega)]
 .rw[Kd,aE,aa,acV]
def dd (b:ByteArray):Bool:=b.toList==ak.toList
def hX (c:Int×Int)(p:b1):Bool :=
 bw c&&(eF 1 60 p.1&&(jI c.1 p.2.2&&(!((p.2.2.length:Int)==0)&&(dd p.2.1 || (bd p.2.1.data.toList&&(aD p.2.1.data.toList==p.1))))))
def Rv {p:b1}(h:tK p)(c:Int×Int):ka F0 c p=some (hX c p,()):=by rw[amo,hV,ai,cO,ai,agE (bZ h.2 (by omega)),ai,I0 h.1,ai,ot h.1,ai];unfold hX dd;cases bw c<;>cases eF 1 60 p.1<;>cases jI c.1 p.2.2<;>cases ((p.2.2.length:Int)==0)<;>cases (p.2.1.toList==ak.toList)<;>cases bd p.2.1.data.toList<;>rfl
def aIc (n:Nat):decide ((n:Int)>0)= !((n:Int)==0):=by
 cases n with
 |zero=>rfl
 |succ n =>
  rw[aI (by omega),bQ.2 (by omega)];rfl
def Nl {p:b1}(h:tK p)(c:Int×Int):pW F0 c p=some (hX c p,()):=by rw[anA,fu,ai,bP,ai,aa6 (bZ h.2 (by omega)),ai,Cw h.1,ai,qV h.1,ai,aIc];unfold hX dd;dsimp only;generalize (aD p.2.1.data.toList==p.1)=b;cases bw c<;>cases eF 1 60 p.1<;>cases jI c.1 p.2.2<;>cases ((p.2.2.length:Int)==0)<;>cases (p.2.1.toList==ak.toList)<;>cases bd p.2.1.data.toList<;>cases b<;>rfl
def b8:b1:=(0,ak,[])
def fh (a b:b1):Bool:=decide (a.1<b.1) || ((a.1==b.1)&&Op.bytesLess a.2.1.toList b.2.1.toList)
def ZQ (a b:b1):pG F0 a b=some (fh a b,()):=by rw[acf];unfold fh;cases decide (a.1<b.1)<;>cases (a.1==b.1)<;>rfl
def aGB (x y:Int):Int:=if x<y then -1 else if x>y then 1 else 0
def aip (x y:Int):uY F0 x y=some (aGB x y,()):=by
 rw[aaJ,Pw,ai,Pw,ai,ale,ale,aa,aa];unfold aGB;by_cases h:x<y
 .rw[aI h,ae,ag h]
 .rw[aL h,aa,af h];by_cases a:x>y
  .rw[aI a,ae,ag a]
  .rw[aL a,aa,af a]
def aGC (x y:ByteArray):Int:=if Op.bytesLess x.toList y.toList=true then -1 else if (x.toList==y.toList)=true then 0 else 1
def adU (x y:ByteArray):mO F0 x y=some (aGC x y,()):=by rw[TS,GM,ai,GM,ai,arN,arN,aa,aa];unfold aGC;cases Op.bytesLess x.toList y.toList<;>cases (x.toList==y.toList)<;>rfl
def agG (a b:b1):∃r,fc F0 a b=some (r,())/\decide (r>=0)= !fh a b:=by
 rw[EV,aip,ai,adU,ai];unfold fh aGB aGC;dsimp only;by_cases h:a.1<b.1
 .rw[ag h,aI h];exact⟨-1,rfl,rfl⟩
 .rw[af h,aL h,wc];by_cases c:a.1>b.1
  .rw[ag c,bQ.2 (show a.1≠b.1 by omega)];exact⟨1,rfl,rfl⟩
  .rw[af c,show a.1=b.1 by omega,Ye];refine⟨_,rfl,?_⟩;cases Op.bytesLess a.2.1.toList b.2.1.toList<;>cases (a.2.1.toList==b.2.1.toList)<;>rfl
def eD (c:Int×Int)(l:List b1):Bool:=Wv b8 (hX c) fh l&&decide ((l.length:Int)<=20)
def aiq {l:List b1}(h:l.length<=1048576)(b:∀q∈l,tK q)(c:Int×Int):mE F0 c l=some (eD c l,()):=by
 rw[ai1,hU (fun m k=>pH F0 (rk F0) m (lj l k c.1 c.2)) l.length (fun k=>hX c (l.getD k b8)&&(decide (k=0) || fh (l.getD (k-1) b8) (l.getD k b8))) (some (decide ((l.length:Int)<=20),())) (some (false,())) (fun m k a=>?_) (fun m=>?_) _ (by rw[bH];omega)]
 .unfold eD Wv;cases (List.range l.length).all _<;>rfl
 .rw[Gl,aP a,ae,ao a,ad,a8 a,show((c.1,c.2):Int×Int)=c from rfl,Rv (b _ (b2 a)),ai,aV a,acg,al (by omega),ad];refine adS _ (fh (l.getD (k-1) b8) l[k]) _ _ _ fun d=>?_
  rw[KQ d (by omega),ao (show k-1<l.length by omega),ad,a8 (show k-1<l.length by omega),ZQ,ai,aV (show k-1<l.length by omega)]
 .rw[Gl,aE,aa,aao]
def adV {l:List b1}(h:l.length<=1048576)(b:∀q∈l,tK q)(c:Int×Int):ko F0 c l=some (eD c l,()):=by
 rw[aj0,hU (fun m k=>pX F0 (rT F0) m (lS l l (l.length:Int) k c.1 c.2)) l.length (fun k=>hX c (l.getD k b8)&&(decide (k=0) || fh (l.getD (k-1) b8) (l.getD k b8))) (some (decide ((l.length:Int)<=20),())) (some (false,())) (fun m k a=>?_) (fun m=>?_) _ (by rw[bH];omega)]
 .unfold eD Wv;cases (List.range l.length).all _<;>rfl
 .rw[GO,aP a,ae,ao a,ad,a8 a,show((c.1,c.2):Int×Int)=c from rfl,Nl (b _ (b2 a)),ai,aV a,acW,al (by omega)];refine adS _ (fh (l.getD (k-1) b8) l[k]) _ _ _ fun d=>?_
  rw[KQ d (by omega),ao (show k-1<l.length by omega),ad,a8 (show k-1<l.length by omega)];obtain⟨r,e,f⟩:=agG l[k-1] l[k];rw[e,ai,f,aV (show k-1<l.length by omega)]
 .rw[GO,aE,aa,aaL]
def fi (d:List Int×Int):Bool:=decide ((d.1.length:Int)<=100000)&&eF 0 d.1.length d.2
def KT (d:List Int×Int):mq F0 d=some (fi d,()):=by rw[amp,cO,ai];unfold fi;cases decide ((d.1.length:Int)<=100000)<;>rfl
def Nn (d:List Int×Int):pY F0 d=some (fi d,()):=by rw[anB,bP,ai];unfold fi;cases decide ((d.1.length:Int)<=100000)<;>rfl
def aow {a b:List Int}(j:a.length<=1048576)(l:b.length<=1048576):Ey F0 a b=some (decide (a=b),()):=by
 rw[amq,hU (fun m k=>CU F0 (tU F0) m (tT a b k)) (min a.length b.length) (fun k=>a.getD k 0==b.getD k 0) (some ((a.length:Int)==(b.length:Int),())) (some (false,())) (fun m k n=>?_) (fun m=>?_) _ (by rw[bH];omega)]
 .by_cases c:a=b
  .rw[aI c,ag (fq.2 fun k _=>by rw[c];exact Ye (b.getD k 0)),c,Ye]
  .rw[aL c];by_cases e:a.length=b.length
   .rw[af];intro f;refine c (List.ext_getElem e fun k g i=>?_);have:=fq.1 f k (fV.2 (by omega));simpa [List.getD,g,i]using this
   .rw[bQ.2 (show(a.length:Int)≠(b.length:Int) by omega)];cases (List.range (min a.length b.length)).all _<;>rfl
 .rw[Jw,aP (show k<a.length by omega),ae,aP (show k<b.length by omega),ae,ao (show k<a.length by omega),ad,ao (show k<b.length by omega),ad,la,la,afb,al (by omega),azp];by_cases d:a.getD k 0=b.getD k 0
  .simp[d]
  .simp[d]
 .rw[Jw,ach];rcases Lh a.length b.length with h|h
  .rw[ahi (by omega),aE,aa]
  .rw[Nat.min_eq_right h,aE,aa];cases decide ((b.length:Int)<(a.length:Int))<;>rfl
def fS (a b:b1):Bool:=(a.1==b.1)&&((a.2.1.toList==b.2.1.toList)&&decide (a.2.2=b.2.2))
def agH {a b:b1}(c:tK a)(d:tK b):wA F0 a b=some (fS a b,()):=by rw[amr,aow c.2 d.2,ai];unfold fS;cases (a.1==b.1)<;>cases (a.2.1.toList==b.2.1.toList)<;>rfl
def KU {a b:b1}(c:tK a):iE F0 a b=some (fS a b,()):=by rw[Vt,agF (bZ c.2 (by omega)),ai];unfold fS;cases (a.1==b.1)<;>cases (a.2.1.toList==b.2.1.toList)<;>rfl
def aw2 {a b:b1}(c:tK a)(d:tK b):Hw F0 a b=some (fS a b,()):=by rw[ai3,aow c.2 d.2,ai];unfold fS;cases (a.1==b.1)<;>cases (a.2.1.toList==b.2.1.toList)<;>rfl
def auX {a b:b1}(c:tK a):DG F0 a b=some (fS a b,()):=by rw[afS,agF (bZ c.2 (by omega)),ai];unfold fS;cases (a.1==b.1)<;>cases (a.2.1.toList==b.2.1.toList)<;>rfl
def ou (a b:ca):Bool:=(a.1.toList==b.1.toList)&&fS a.2 b.2
def aq0 {a b:ca}(c:tK a.2)(d:tK b.2):yi F0 a b=some (ou a b,()):=by rw[aci,agH c d,ai];unfold ou;cases (a.1.toList==b.1.toList)<;>rfl
def aox {a b:ca}(c:tK a.2):Aj F0 a b=some (ou a b,()):=by rw[acY,KU c,ai];unfold ou;cases (a.1.toList==b.1.toList)<;>rfl
def agI (a b:ej):Bool:=(a.1==b.1)&&((a.2.1==b.2.1)&&((a.2.2.1==b.2.2.1)&&((a.2.2.2==b.2.2.2)&&true)))
def sB (a b:bW):Bool:=(a.1==b.1)&&((a.2.1==b.2.1)&&(ou a.2.2.1 b.2.2.1&&(fS a.2.2.2.1 b.2.2.2.1&&(fS a.2.2.2.2.1 b.2.2.2.2.1&&((a.2.2.2.2.2.1==b.2.2.2.2.2.1)&&agI a.2.2.2.2.2.2 b.2.2.2.2.2.2)))))
def fT (m:bW):Prop:=m.2.2.1.1.size<=1048576/\tK m.2.2.1.2/\tK m.2.2.2.1/\tK m.2.2.2.2.1
def aw3 {a b:bW}(c:fT a)(d:fT b):kb F0 a b=some (sB a b,()):=by rw[ai5,aq0 c.2.1 d.2.1,ai,aw2 c.2.2.1 d.2.2.1,ai,agH c.2.2.2 d.2.2.2,ai];unfold sB agI;dsimp only;generalize ((a.2.2.2.2.2.2.1==b.2.2.2.2.2.2.1)&&((a.2.2.2.2.2.2.2.1==b.2.2.2.2.2.2.2.1)&&((a.2.2.2.2.2.2.2.2.1==b.2.2.2.2.2.2.2.2.1)&&((a.2.2.2.2.2.2.2.2.2==b.2.2.2.2.2.2.2.2.2)&&true))))=t;cases (a.1==b.1)<;>cases (a.2.1==b.2.1)<;>cases ou a.2.2.1 b.2.2.1<;>cases fS a.2.2.2.1 b.2.2.2.1<;>cases fS a.2.2.2.2.1 b.2.2.2.2.1<;>cases (a.2.2.2.2.2.1==b.2.2.2.2.2.1)<;>rfl
def auY {a b:bW}(c:fT a):H7 F0 a b=some (sB a b,()):=by rw[aj1,aox c.2.1,ai,auX c.2.2.1,ai,KU c.2.2.2,ai];unfold sB agI;dsimp only;generalize ((a.2.2.2.2.2.2.1==b.2.2.2.2.2.2.1)&&((a.2.2.2.2.2.2.2.1==b.2.2.2.2.2.2.2.1)&&((a.2.2.2.2.2.2.2.2.1==b.2.2.2.2.2.2.2.2.1)&&((a.2.2.2.2.2.2.2.2.2==b.2.2.2.2.2.2.2.2.2)&&true))))=t;cases (a.1==b.1)<;>cases (a.2.1==b.2.1)<;>cases ou a.2.2.1 b.2.2.1<;>cases fS a.2.2.2.1 b.2.2.2.1<;>cases fS a.2.2.2.2.1 b.2.2.2.2.1<;>cases (a.2.2.2.2.2.1==b.2.2.2.2.2.1)<;>rfl
def No (a b:b1):fS a b=fS b a:=by
 unfold fS;rw[sQ (a:=a.1),sQ (a:=a.2.1.toList)]
 congr 2
 by_cases h:a.2.2=b.2.2
 .rw[aI h,aI h.symm]
 .rw[aL h,aL fun c=>h c.symm]
def auZ (a b:bW):sB a b=sB b a:=by unfold sB ou agI;rw[sQ (a:=a.1),sQ (a:=a.2.1),sQ (a:=a.2.2.1.1.toList),No a.2.2.1.2,No a.2.2.2.1,No a.2.2.2.2.1,sQ (a:=a.2.2.2.2.2.1),sQ (a:=a.2.2.2.2.2.2.1),sQ (a:=a.2.2.2.2.2.2.2.1),sQ (a:=a.2.2.2.2.2.2.2.2.1),sQ (a:=a.2.2.2.2.2.2.2.2.2)]
def named (m:bW):bW :=
 if (m.1==1)=true then (m.1,0,m.2.2.1,b8,b8,0,pt)
 else if (m.1==2)=true then (m.1,0,(ak,b8),m.2.2.2.1,b8,0,pt)
 else if (m.1==3)=true then (m.1,m.2.1,(ak,b8),b8,m.2.2.2.2.1,m.2.2.2.2.2.1,pt)
 else if (m.1==4)=true then (m.1,0,(ak,b8),b8,b8,0,m.2.2.2.2.2.2)
 else (m.1,0,(ak,b8),b8,b8,0,pt)
def aCV (m:bW):Ra F0 m=some (named m,()):=by rw[aqH];unfold named;cases (m.1==1)<;>cases (m.1==2)<;>cases (m.1==3)<;>cases (m.1==4)<;>rfl
def dr:tK b8:=⟨aO _,aO _⟩
def aGD {m:bW}(h:fT m):fT (named m):=by
 unfold named;split
 .exact⟨h.1,h.2.1,dr,dr⟩
 .split
  .exact⟨aO _,dr,h.2.2.1,dr⟩
  .split
   .exact⟨aO _,dr,dr,h.2.2.2⟩
   .split
    .exact⟨aO _,dr,dr,dr⟩
    .exact⟨aO _,dr,dr,dr⟩
def aw4 {m:bW}(h:fT m):Hy F0 m=some (sB (named m) m,()):=by
 have a:=aw3 (aGD h) h;rw[ai7];unfold named b8 pt at a;unfold named b8 pt;by_cases b:(m.1==1)=true
 .rw[ag b]at a ⊢;rw[b,ae,a,ai]
 .rw[af b]at a ⊢;rw[I7.2 b,aa];by_cases c:(m.1==2)=true
  .rw[ag c]at a ⊢;rw[c,ae,a,ai]
  .rw[af c]at a ⊢;rw[I7.2 c,aa];by_cases d:(m.1==3)=true
   .rw[ag d]at a ⊢;rw[d,ae,a,ai]
   .rw[af d]at a ⊢;rw[I7.2 d,aa];by_cases e:(m.1==4)=true
    .rw[ag e]at a ⊢;rw[e,ae,a,ai]
    .rw[af e]at a ⊢;rw[I7.2 e,aa,a,ai]
def fZ (l:List UInt8):Nat->Nat
 |0=>0|k+1=>if (((l.getD k 0).toNat:Int) != 47)=true then fZ l k else k+1
def aoy (l:List UInt8):∀k,fZ l k<=k
 |0=>bf _|k+1=>by
  unfold fZ;split
  .exact Nat.le_succ_of_le (aoy l k)
  .exact bf _
def aEM {h n:Nat}(a:h<=n):QW 0 (h:Int) (n:Int)=true:=Xo (l:=0) (aO _) a
def fv (l:List UInt8):List UInt8:=if bd l=true then l.take (fZ l l.length-1) else []
def aBM (l:List UInt8){γ:Type}(J:Ex->St->Option γ):∀(k n:Nat),k<=l.length->k<=1073741824->k<n->LC F0 J n (CW (tx l) (k:Int))=J (.exit 0) (yj (tx l) (fZ l k:Int))
 |0,n,a,b,c=>by obtain⟨n,rfl⟩:∃m,n=m+1:=⟨n-1,by omega⟩;rw[OK];rfl
 |k+1,n,a,b,c=>by
  obtain⟨n,rfl⟩:∃m,n=m+1:=⟨n-1,by omega⟩;rw[OK,aI (show((k+1:Nat):Int)>0 by omega),ae,KQ (by omega) (by omega),show k+1-1=k from rfl,bB,ao (by omega),ad,Xl];unfold fZ;by_cases h:(((l.getD k 0).toNat:Int) != 47)=true
  .rw[h,ae,ag rfl,aBM l J k n (by omega) (by omega) (by omega)]
  .rw[I7.2 h,aa,af (by decide)]
def aEN {l:List UInt8}(h:l.length<=1048576):ll F0 (tx l)=some (tx (fv l),()):=by
 rw[at0,Rs (by omega),ai];unfold fv;dsimp only;cases bd l with
 |false=>rfl
 |true =>
  have c:=aoy l l.length;rw[aH,aa,bB,aBM l _ l.length _ (bf _) (by omega) (by rw[bH];omega),ai9,ag rfl,YH];have b:br (decide (aj ((fZ l l.length:Int)-1)>0)) (some (aj ((fZ l l.length:Int)-1),())) (some ((0:Int),()))=some (((fZ l l.length-1:Nat):Int),()):=by
   rw[aF (by omega) (by omega)];by_cases a:(fZ l l.length:Int)-1>0
   .rw[aI a,ae,show(fZ l l.length:Int)-1=((fZ l l.length-1:Nat):Int) by omega]
   .rw[aL a,aa,show fZ l l.length-1=0 by omega];rfl
  rw[b,ai];dsimp only;rw[bB,aEM (by omega),ad,gJ,show(0:Int).toNat=0 from rfl,Ff,T0,QE]
def asb (l:List UInt8):∀(k n:Nat),k<=l.length->k<=1073741824->k<n->ef F0 (fw F0) n (dy (tx l) 47 ((k:Int)-1))=some ((fZ l k:Int)-1,())
 |0,n,a,b,c=>by obtain⟨n,rfl⟩:∃m,n=m+1:=⟨n-1,by omega⟩;rw[jq];rfl
 |k+1,n,a,b,c=>by
  obtain⟨n,rfl⟩:∃m,n=m+1:=⟨n-1,by omega⟩;rw[show((k+1:Nat):Int)-1=(k:Int) by omega,jq,aI (show(k:Int)>=0 by omega),ae,bB,ao (by omega),ad,Xl,aF (by omega) (by omega),Al];unfold fZ;by_cases h:((l.getD k 0).toNat:Int)=47
  .rw[h,show((47:Int)==47)=true from rfl,ae,show((47:Int) != 47)=false from rfl,af (by decide),show((k+1:Nat):Int)-1=(k:Int) by omega]
  .rw[bQ.2 h,aa,Er.2 h,ag rfl,asb l k n (by omega) (by omega) (by omega)]
def azu {c x:UInt8}{l:List UInt8}{ps:List (List UInt8)}(h:parts c (x::l)=[]::ps):x=c:=by
 unfold parts at h;split at h
 .assumption
 .split at h
  .cases (s6 h).1
  .cases (s6 h).1
def aoz {l:List UInt8}(h:bd l=true)(b:l≠[]):∃t,l=47::t:=by
 cases l with
 |nil=>exact absurd rfl b
 |cons x t =>
  refine⟨t,?_⟩;unfold bd aZ at h;rw[af b]at h;cases a:parts 47 (x::t) with
  |nil=>exact absurd a (Fe _ _)
  |cons c g =>
   rw[a]at h;dsimp only at h;split at h
   .cases h
   .rename_i d;have e:c=[]:=avS fun f=>d (.inl f)
    subst e;rw[azu a]
def agJ {t:List UInt8}:∀k,0<k->0<fZ (47::t) k
 |0,h=>absurd h (T2 _)|1,_=>by unfold fZ;rw[show((((47::t).getD 0 0:UInt8).toNat:Int) != 47)=false from rfl,af (by decide)];exact aeP _
 |k+2,_=>by
  unfold fZ;split
  .exact agJ (k+1) (aeP _)
  .exact aeP _
def aCW {l:List UInt8}(h:l.length<=1048576):rU F0 (tx l)=some (tx (fv l),()):=by
 rw[auk,Nk (by omega),ai,auR,Qh];unfold fv;dsimp only;cases b:bd l with
 |false=>rfl
 |true =>
  rw[aH,aa,ag rfl];by_cases a:l=[]
  .subst a;rfl
  .have c:=aoy l l.length;have d:0<fZ l l.length:=by obtain⟨t,rfl⟩:=aoz b a;exact agJ _ (aeP _)
   rw[aL a,aa,NW,Cg,bB,aF (by omega) (by omega),asb l l.length _ (bf _) (by omega) (by rw[bH];omega),ai,ai];dsimp only;rw[show(fZ l l.length:Int)-1=((fZ l l.length-1:Nat):Int) by omega,aEM (by omega),ad,gJ,show(0:Int).toNat=0 from rfl,Ff,T0,QE]
def adW {b:ByteArray}(h:b.size<=1048576):ll F0 b=some (tx (fv b.data.toList),()):=aEN (l:=b.data.toList) h
def adX {b:ByteArray}(h:b.size<=1048576):rU F0 b=some (tx (fv b.data.toList),()):=aCW (l:=b.data.toList) h
def fj (c:Int×Int)(b:ca):Bool:=eN c b.2&&(bd b.1.data.toList&&(!dd b.1&&((tx (fv b.1.data.toList)).toList==b.2.2.1.toList)))
def Np {b:ca}(a:b.1.size<=1048576)(d:tK b.2)(c:Int×Int):mF F0 c b=some (fj c b,()):=by rw[aja,Ru d,ai,I0 a,ai,adW a,ai];unfold fj dd;cases eN c b.2<;>cases bd b.1.data.toList<;>cases (b.1.toList==ak.toList)<;>rfl
def Iy {b:ca}(a:b.1.size<=1048576)(d:tK b.2)(c:Int×Int):mP F0 c b=some (fj c b,()):=by rw[aj3,Qp d,ai,Cw a,ai,adX a,ai];unfold fj dd;cases eN c b.2<;>cases bd b.1.data.toList<;>cases (b.1.toList==ak.toList)<;>rfl
def cV (c:Int×Int)(m:bW):Bool:=bw c&&(sB (named m) m&&(if (m.1==1)=true then fj c m.2.2.1 else if (m.1==2)=true then hX c m.2.2.2.1&& !dd m.2.2.2.1.2.1
 else if (m.1==3)=true then eF 1 60 m.2.1&&(eN c m.2.2.2.2.1&&eF 0 (aj (c.1-1)) m.2.2.2.2.2.1) else (m.1==4)&&gm m.2.2.2.2.2.2))
def I1 {m:bW}(h:fT m)(c:Int×Int):e4 F0 c m=some (cV c m,()):=by rw[aqm,hV,ai,aw4 h,ai,Np h.1 h.2.1,ai,Rv h.2.2.1,ai,cO,ai,Ru h.2.2.2,ai,cO,ai,Qi,ai];unfold cV dd;dsimp only;cases bw c<;>cases sB (named m) m<;>cases (m.1==1)<;>cases (m.1==2)<;>cases (m.1==3)<;>cases (m.1==4)<;>cases hX c m.2.2.2.1<;>cases eF 1 60 m.2.1<;>cases eN c m.2.2.2.2.1<;>rfl
def KV {m:bW}(h:fT m)(c:Int×Int):fM F0 c m=some (cV c m,()):=by rw[aqJ,fu,ai,aCV,ai,auY h,ai,Iy h.1 h.2.1,ai,Nl h.2.2.1,ai,bP,ai,Qp h.2.2.2,ai,bP,ai,Cu,ai,auZ];unfold cV dd;dsimp only;cases bw c<;>cases sB (named m) m<;>cases (m.1==1)<;>cases (m.1==2)<;>cases (m.1==3)<;>cases (m.1==4)<;>cases hX c m.2.2.2.1<;>cases eF 1 60 m.2.1<;>cases eN c m.2.2.2.2.1<;>rfl
def KW (c:Int×Int)(r:Int)(p:gQ):Bool:=cV c p.2&&(eF 0 (aj (c.1-1)) p.1&& !(p.1==r))
def mh (c:Int×Int)(r:ar):Bool :=
 bw c&&(eF 0 (aj (c.1-1)) r.1&&(eF 1 60 r.2.1&&(eF 0 60 r.2.2.1&&(bh c r.2.2.2.1&&(eP r.2.2.2.2.1&&(eD c r.2.2.2.2.2.1&&(fi r.2.2.2.2.2.2.1&&(!decide ((r.2.2.2.2.2.2.2.length:Int)>30)&&r.2.2.2.2.2.2.2.all (KW c r.1)))))))))
structure aoA (r:ar):Prop where
 s:jJ r.2.2.2.1
 p:r.2.2.2.2.1.length<=1048576
 t:r.2.2.2.2.2.1.length<=1048576
 tq:∀q∈r.2.2.2.2.2.1,tK q
 h:r.2.2.2.2.2.2.2.length<=1048576
 hm:∀q∈r.2.2.2.2.2.2.2,fT q.2
def au0:gQ:=(0,0,0,(ak,b8),b8,b8,0,pt)
def Fh (b:Bool):(if b=true then some (true,()) else some (false,()))=some (b,()):=by cases b<;>rfl
def gR {r:ar}(h:aoA r)(c:Int×Int):dp F0 c r=some (mh c r,()):=by
 have b:=h.h;rw[aqn,hV,ai,cO,ai,cO,ai,cO,ai,Cx h.s,ai,aov h.p,ai,aiq h.t h.tq,ai,KT,ai,
  hU (fun m k=>HC F0 (ym F0) m (yk k c.1 c.2 r.1 r.2.1 r.2.2.1 r.2.2.2.1.1 r.2.2.2.1.2.1 r.2.2.2.1.2.2.1.1 r.2.2.2.1.2.2.1.2.1 r.2.2.2.1.2.2.1.2.2 r.2.2.2.1.2.2.2 r.2.2.2.2.1 r.2.2.2.2.2.1 r.2.2.2.2.2.2.1.1 r.2.2.2.2.2.2.1.2 r.2.2.2.2.2.2.2)) r.2.2.2.2.2.2.2.length
   (fun k=>KW c r.1 (r.2.2.2.2.2.2.2.getD k au0)) (some (true,())) (some (false,())) (fun m k a=>?_) (fun m=>?_) _ (by rw[bH];omega),KP,Fh]
 .unfold mh;cases bw c<;>cases eF 0 (aj (c.1-1)) r.1<;>cases eF 1 60 r.2.1<;>cases eF 0 60 r.2.2.1<;>cases bh c r.2.2.2.1<;>cases eP r.2.2.2.2.1<;>cases eD c r.2.2.2.2.2.1<;>cases fi r.2.2.2.2.2.2.1<;>cases decide ((r.2.2.2.2.2.2.2.length:Int)>30)<;>rfl
 .rw[LD,aP a,ae,ao a,ad,a8 a,show((c.1,c.2):Int×Int)=c from rfl,I1 (h.hm _ (b2 a)),ai,ad,cO,ai,ad,aV a,ajb,al (by omega)];unfold KW;cases cV c (r.2.2.2.2.2.2.2[k]).2<;>cases eF 0 (aj (c.1-1)) (r.2.2.2.2.2.2.2[k]).1<;>cases ((r.2.2.2.2.2.2.2[k]).1==r.1)<;>rfl
 .rw[LD,aE,aa,afc]
def dJ {r:ar}(h:aoA r)(c:Int×Int):cq F0 c r=some (mh c r,()):=by
 have b:=h.h;rw[aqK,fu,ai,bP,ai,bP,ai,bP,ai,Fg h.s,ai,Ww h.p,ai,adV h.t h.tq,ai,Nn,ai,
  hU (fun m k=>Ia F0 (Ap F0) m (An r.2.2.2.2.2.2.2 (r.2.2.2.2.2.2.2.length:Int) k c.1 c.2 r.1 r.2.1 r.2.2.1 r.2.2.2.1.1 r.2.2.2.1.2.1 r.2.2.2.1.2.2.1.1 r.2.2.2.1.2.2.1.2.1 r.2.2.2.1.2.2.1.2.2 r.2.2.2.1.2.2.2 r.2.2.2.2.1 r.2.2.2.2.2.1 r.2.2.2.2.2.2.1.1 r.2.2.2.2.2.2.1.2 r.2.2.2.2.2.2.2)) r.2.2.2.2.2.2.2.length
   (fun k=>KW c r.1 (r.2.2.2.2.2.2.2.getD k au0)) (some (true,())) (some (false,())) (fun m k a=>?_) (fun m=>?_) _ (by rw[bH];omega),KP,Fh]
 .unfold mh;cases bw c<;>cases eF 0 (aj (c.1-1)) r.1<;>cases eF 1 60 r.2.1<;>cases eF 0 60 r.2.2.1<;>cases bh c r.2.2.2.1<;>cases eP r.2.2.2.2.1<;>cases eD c r.2.2.2.2.2.1<;>cases fi r.2.2.2.2.2.2.1<;>cases decide ((r.2.2.2.2.2.2.2.length:Int)>30)<;>rfl
 .rw[Mz,aP a,ae,ao a,ad,a8 a,show((c.1,c.2):Int×Int)=c from rfl,KV (h.hm _ (b2 a)),ai,bP,ai,aV a,aj4,al (by omega)];unfold KW;cases cV c (r.2.2.2.2.2.2.2[k]).2<;>cases eF 0 (aj (c.1-1)) (r.2.2.2.2.2.2.2[k]).1<;>cases ((r.2.2.2.2.2.2.2[k]).1==r.1)<;>rfl
 .rw[Mz,aE,aa,afU]
def adY {lo a x:Int}:eF lo a x=decide (lo<=x/\x<=a):=by unfold eF;by_cases b:lo<=x<;>by_cases c:x<=a<;>simp[b,c]
def Qq:Nat->List Int->Nat->Int->Option (Int×Nat)
 |0,_,_,_=>none|_+1,[],_,_=>none|j+1,x::xs,k,n=>if x<128 then (if (k≠0/\x=0)\/n+x*128 ^ k>2147483647 then none else some (n+x*128 ^ k,k+1)) else Qq j xs (k+1) (n+x%128*128 ^ k)
def aGE (a:Nat):Option (Int×Nat)->Int×Int×Bool×Unit
 |some (v,c)=>(v,((a+c:Nat):Int),true,())|none=>(0,0,false,())
def aEO {k:Nat}(h:k<=4):(2:Int) ^ (min (aj (7*(k:Int))).toNat 64)=128 ^ k:=by
 have:k=0\/k=1\/k=2\/k=3\/k=4:=by omega
 rcases this with rfl|rfl|rfl|rfl|rfl<;>rfl
def Rw {k:Nat}(h:k<=4):(1:Int)<=128 ^ k/\(128:Int) ^ k<=268435456:=by
 have:k=0\/k=1\/k=2\/k=3\/k=4:=by omega
 rcases this with rfl|rfl|rfl|rfl|rfl<;>decide
def aoB {d P:Int}(a:0<=d)(b:d<=127)(c:1<=P):0<=d*P/\d*P<=127*P:=⟨Int.mul_nonneg a (by omega),Int.mul_le_mul_of_nonneg_right b (by omega)⟩
def aId {i n:Nat}(d:Nat)(h:n<2 ^ i):n ||| d*2 ^ i=n+d*2 ^ i:=by rw[Nat.or_comm,<-Nat.shiftLeft_eq,<-Nat.shiftLeft_add_eq_or_of_lt h,Nat.add_comm]
def aIe {k:Nat}(a:k<=4){n d:Int}(b:0<=n)(c:n<128 ^ k)(f:0<=d)(j:d<=127):((BitVec.ofInt 64 n ||| BitVec.ofInt 64 (d*128 ^ k)).toNat:Int)=n+d*128 ^ k:=by
 obtain⟨m,rfl⟩:=Int.eq_ofNat_of_zero_le b;obtain⟨e,rfl⟩:=Int.eq_ofNat_of_zero_le f;have g:(128:Int) ^ k=((2 ^ (7*k):Nat):Int):=by rw[Nat.pow_mul];exact(Int.natCast_pow 128 k).symm
 have h:=Rw a;rw[g]at c h ⊢;have i:m<2 ^ (7*k):=by omega
 have l:e*2 ^ (7*k)<=127*2 ^ (7*k):=Gg _ (by omega);have o:2 ^ (7*k)<=268435456:=by omega
 rw[show(e:Int)*((2 ^ (7*k):Nat):Int)=((e*2 ^ (7*k):Nat):Int) from(Int.natCast_mul _ _).symm,BitVec.ofInt_natCast,BitVec.ofInt_natCast,BitVec.toNat_or,BitVec.toNat_ofNat,BitVec.toNat_ofNat,asZ (by omega),asZ (by omega),aId e i];omega
def de (b:List Int):Prop:=b.length<=1048576/\∀x∈b,0<=x/\x<=255
def aw5 {b:List Int}(l:de b)(a:Nat)(t:a<=b.length):∀(j k:Nat),j+k=5->∀(c:Int) (m:Nat),0<=c->c<128 ^ k->j<m ->
  CY F0 (tY F0) m (tX b (a:Int) c (k:Int))=some (aGE a (Qq j (b.drop (a+k)) k c))
 |0,k,u,c,m,o,p,v=>by obtain⟨m,rfl⟩:∃q,m=q+1:=⟨m-1,by omega⟩;rw[Jz,aL (by omega),aa,acn];rfl
 |j+1,k,u,c,m,o,p,v=>by
  obtain⟨m,rfl⟩:∃q,m=q+1:=⟨m-1,by omega⟩;have B:=l.1;rw[Jz,aI (by omega),ae,aL (show ¬(a:Int)<0 by omega),aa,aF (n:=(b.length:Int)-k) (by omega) (by omega)];rcases Lh (a+k) b.length with hlt|w
  .have r:=l.2 b[a+k] (b2 hlt);have y:=Rw (k:=k) (by omega);rw[aL (show ¬(a:Int)>=(b.length:Int)-k by omega),aa,show aj ((a:Int)+(k:Int))=((a+k:Nat):Int) by rw[aF (by omega) (by omega)];omega,ao hlt,ad,
    aI (show 0<=aj (7*(k:Int)) by rw[aF (by omega) (by omega)];omega),ad,a8 hlt,aEO (by omega),TX hlt]
   generalize b[a+k]=x at r ⊢;rw[aF (n:=x) (by omega) (by omega),ak8 (by omega),BQ,BQ];have z:=aoB (d:=x%128) (P:=128 ^ k) (by omega) (by omega) y.1;rw[aF (n:=x%128*128 ^ k) (by omega) (by omega),aIe (by omega) o p (by omega) (by omega),aF (n:=c+x%128*128 ^ k) (by omega) (by omega)];unfold Qq;by_cases g:x<128
   .have e:x%128=x:=Int.emod_eq_of_lt r.1 g;rw[e]at z ⊢;rw[aI g,ae,ag g,aF (n:=((a+k:Nat):Int)+1) (by omega) (by omega)];by_cases s:k=0
    .subst s;rw[show decide (((0:Nat):Int)>0)=false from rfl,aa];by_cases f:c+x*128 ^ 0>2147483647
     .rw[aI f,ae,ag (.inr f)];rfl
     .rw[aL f,aa,af (fun h=>h.elim (fun h=>h.1 rfl) f)];rfl
    .rw[aI (show(k:Int)>0 by omega),ae];by_cases i:x=0
     .rw[show(x==0)=true from bg.2 i,ae,ag (.inl ⟨s,i⟩)];rfl
     .rw[bQ.2 i,aa];by_cases f:c+x*128 ^ k>2147483647
      .rw[aI f,ae,ag (.inr f)];rfl
      .rw[aL f,aa,af (fun h=>h.elim (fun h=>i h.2) f)];rfl
   .rw[aL g,aa,af g,al (by omega)];have A:c+x%128*128 ^ k<128 ^ (k+1):=by rw[RX];omega
    exact aw5 l a t j (k+1) (by omega) _ m (by omega) A (by omega)
  .rw[aI (show(a:Int)>=(b.length:Int)-k by omega),ae,BQ,asU w];rfl
def azv {b:List Int}(c:de b){a:Nat}(d:a<=b.length):kc F0 b (a:Int)=some (aGE a (Qq 5 (b.drop a) 0 0)):=by rw[amw];exact aw5 c a d 5 0 rfl 0 _ (by omega) (by decide) (by rw[bH];omega)
def adZ:∀(k:Nat) (v:Int) (xs:List Int) (n:Nat),0<=v->v<128 ^ (k+1)->xs.length+k<=1000->k<n->k<=4 ->
  ∃a,tn F0 (u0 F0) n (nP v xs)=some (xs++a,())/\a.length<=k+1/\(128 ^ k<=v->a.length=k+1)/\1<=a.length
 |0,v,xs,n,b,d,e,f,g=>by obtain⟨n,rfl⟩:∃m,n=m+1:=⟨n-1,by omega⟩;rw[mQ,aL (show ¬v>=128 by have:(128:Int) ^ (0+1)=128:=rfl;omega),aa,o6,ax (by omega) (by omega) (by rw[dt];omega),ad];exact⟨_,rfl,bf _,fun _=>rfl,bf _⟩
 |k+1,v,xs,n,b,d,e,f,g=>by
  obtain⟨n,rfl⟩:∃m,n=m+1:=⟨n-1,by omega⟩;have l:=Rw (k:=k) (by omega);have o:(128:Int) ^ (k+1)=128 ^ k*128:=RX _ _;have p:(128:Int) ^ (k+1+1)=128 ^ (k+1)*128:=RX _ _;rw[mQ];by_cases c:v>=128
  .rw[aI c,ae,ax (by omega) (by omega) (by rw[dt];omega),ad,ak9 b,aF (n:=v/128) (by omega) (by omega)];obtain⟨a,i,q,j,r⟩:=adZ k (v/128) (xs++[IntKind.wrap .u8 (aj (Int.tmod v 128+128))]) n (by omega) (by omega) (by rw[aG,dt];omega) (by omega) (by omega);refine⟨IntKind.wrap .u8 (aj (Int.tmod v 128+128))::a,i.trans (by rw[gI];rfl),by rw[aW];omega,fun h=>?_,by rw[aW];omega⟩;rw[aW,j (by omega)]
  .rw[aL c,aa,o6,ax (by omega) (by omega) (by rw[dt];omega),ad];exact⟨_,rfl,by rw[dt];omega,fun h=>by omega,bf _⟩
def azw (v:Int):∃c,eL F0 v=some (c,())/\∀(k:Nat) (a x:Int),k<=4->0<=a->a<128 ^ k->0<=x->x<128->v=a+x*128 ^ k ->
  ((c.length:Int) != ((k+1:Nat):Int))=decide ((k≠0/\x=0)\/v>2147483647):=by
 rw[VE,bP,ai,adY];by_cases b:0<=v/\v<=2147483647
 .rw[aI b,aH,aa];have n:(128:Int) ^ (4+1)=34359738368:=by decide
  obtain⟨g,i,_,_,_⟩:=adZ 4 v [] F0.n b.1 (by omega) (by simp) (by rw[bH];omega) (by omega);refine⟨g,i,fun k a x e r s j t u=>?_⟩;have l:=Rw e;have D:(128:Int) ^ (k+1)=128 ^ k*128:=RX _ _;have w:=aoB (d:=x) (P:=128 ^ k) j (by omega) l.1;obtain⟨c,o,E,n,F⟩:=adZ k v [] F0.n b.1 (by omega) (by simp;omega) (by rw[bH];omega) e;rw[i]at o;have y:g=c:=by simpa using o
  subst y;by_cases f:k≠0/\x=0
  .rw[aI (.inl f),Er];obtain⟨m,z⟩:=f;subst z;obtain⟨k,rfl⟩:∃q,k=q+1:=⟨k-1,by omega⟩;obtain⟨A,p,G,_,_⟩:=adZ k v [] F0.n b.1 (by omega) (by simp;omega) (by rw[bH];omega) (by omega);rw[i]at p;have B:g=A:=by simpa using p
   subst B;omega
  .rw[aL (fun h=>h.elim f (by omega)),RV];by_cases m:k=0
   .subst m;omega
   .have C:1<=x:=by
     have:x≠0:=fun h=>f ⟨m,h⟩
     omega
    have:=Int.mul_le_mul_of_nonneg_right C (show(0:Int)<=128 ^ k by omega);rw[n (by omega)]
 .rw[aL b,ea,ae];refine⟨[],rfl,fun k a x e r s j t u=>?_⟩;have l:=Rw e;have w:=aoB (d:=x) (P:=128 ^ k) j (by omega) l.1;rw[aI (.inr (by omega)),Er];simp only[bj];omega
def aw6 {b:List Int}(h:de b)(a:Nat)(p:a<=b.length):∀(j k:Nat),j+k=5->∀(c:Int) (m:Nat),0<=c->c<128 ^ k->j<m ->
  DM F0 (u2 F0) m (u1 b (a:Int) c (k:Int))=some (aGE a (Qq j (b.drop (a+k)) k c))
 |0,k,r,c,m,l,o,s=>by obtain⟨m,rfl⟩:∃q,m=q+1:=⟨m-1,by omega⟩;rw[Kf,aL (by omega),aa,MB];rfl
 |j+1,k,r,c,m,l,o,s=>by
  obtain⟨m,rfl⟩:∃q,m=q+1:=⟨m-1,by omega⟩;have A:=h.1;rw[Kf,aI (by omega),ae,show aj ((a:Int)+(k:Int))=((a+k:Nat):Int) by rw[aF (by omega) (by omega)];omega];rcases Lh (a+k) b.length with hlt|t
  .have i:=h.2 b[a+k] (b2 hlt);have u:=Rw (k:=k) (by omega);rw[aP hlt,ae,ao hlt,ad,
    aI (show 0<=aj (7*(k:Int)) by rw[aF (by omega) (by omega)];omega),ad,a8 hlt,aEO (by omega),TX hlt]
   generalize b[a+k]=x at i ⊢;rw[aF (n:=x) (by omega) (by omega),ak8 (by omega),PA,PA];have v:=aoB (d:=x%128) (P:=128 ^ k) (by omega) (by omega) u.1;rw[aF (n:=x%128*128 ^ k) (by omega) (by omega),aF (n:=c+x%128*128 ^ k) (by omega) (by omega),al (show k+1<=9223372036854775807 by omega)];unfold Qq;by_cases f:x<128
   .have e:x%128=x:=Int.emod_eq_of_lt i.1 f;rw[e]at v ⊢;rw[aI f,ae,ag f,aF (n:=((a+k:Nat):Int)+1) (by omega) (by omega)];obtain⟨B,w,y⟩:=azw (c+x*128 ^ k);rw[w,ai];dsimp only;rw[y k c x (by omega) l o i.1 f rfl];by_cases g:(k≠0/\x=0)\/c+x*128 ^ k>2147483647
    .rw[aI g,ae,ag g];rfl
    .rw[aL g,aa,af g];rfl
   .rw[aL f,aa,af f];have z:c+x%128*128 ^ k<128 ^ (k+1):=by rw[RX];omega
    exact aw6 h a p j (k+1) (by omega) _ m (by omega) z (by omega)
  .rw[aL (show ¬((a+k:Nat):Int)<(b.length:Int) by omega),aa,MB,asU t];rfl
def aw7 {b:List Int}(c:de b){a:Nat}(d:a<=b.length):wL F0 b (a:Int)=some (aGE a (Qq 5 (b.drop a) 0 0)):=by
 have f:=c.1;rw[anE,bP,ai,adY,aF (by omega) (by omega)];rcases Lh a b.length with hlt|e
 .rw[aI (by omega),aH,aa];exact aw6 c a d 5 0 rfl 0 _ (by omega) (by decide) (by rw[bH];omega)
 .rw[aL (by omega),ea,ae,asU e];rfl
def aBN:∀(j:Nat) (l:List Int) (k:Nat) (n:Int) (v:Int) (c:Nat),Qq j l k n=some (v,c)->v<=2147483647/\k<c/\c<=k+l.length
 |0,_,_,_,_,_,h=>by cases h
 |_+1,[],_,_,_,_,h=>by cases h
 |j+1,x::l,k,n,v,c,h=>by
  unfold Qq at h;split at h
  .split at h
   .cases h
   .rename_i a;cases h;exact⟨Int.not_lt.1 fun b=>a (.inr b),Nat.lt_succ_self _,by rw[aW];omega⟩
  .have:=aBN j l (k+1) _ v c h;rw[aW];exact⟨this.1,by omega,by omega⟩
def aw8:∀(j:Nat) (l:List Int) (k:Nat) (n:Int) (v:Int) (c:Nat),(∀x∈l,0<=x)->0<=n->Qq j l k n=some (v,c)->0<=v
 |0,_,_,_,_,_,_,_,h=>by cases h
 |_+1,[],_,_,_,_,_,_,h=>by cases h
 |j+1,x::l,k,n,v,c,a,f,h=>by
  have d:=a x py;have b:(0:Int)<=128 ^ k:=Int.pow_nonneg (by omega);unfold Qq at h;split at h
  .split at h
   .cases h
   .cases h;have:=Int.mul_nonneg d b;omega
  .have g:=Int.mul_nonneg (ahj x (show(128:Int)≠0 by decide)) b;exact aw8 j l (k+1) _ v c (fun y e=>a y (jG _ e)) (by omega) h
abbrev Qr:=Nat×Bool
abbrev cell (b:List Int)(s:Qr):List Int×Int×Bool:=(b,(s.1:Int),s.2)
abbrev Wx (b:List Int)(s:Qr):List Int×Int×Bool:=(b,(s.1:Int),!s.2)
def q0 (b:List Int)(a:Nat):Option (Int×Nat):=match Qq 5 (b.drop a) 0 0 with
 |some (v,c)=>some (v,a+c)|none=>none
def aa7:Option (Int×Nat)->Int×Int×Bool×Unit
 |some (v,a)=>(v,(a:Int),true,())|none=>(0,0,false,())
def ad0 {b:List Int}(c:de b){a:Nat}(d:a<=b.length):kc F0 b (a:Int)=some (aa7 (q0 b a)):=by rw[azv c d];unfold q0;cases Qq 5 (b.drop a) 0 0<;>rfl
def asc {b:List Int}(c:de b){a:Nat}(d:a<=b.length):wL F0 b (a:Int)=some (aa7 (q0 b a)):=by rw[aw7 c d];unfold q0;cases Qq 5 (b.drop a) 0 0<;>rfl
def Xr {b:List Int}(f:de b){a:Nat}(j:a<=b.length){v:Int}{a':Nat}(h:q0 b a=some (v,a')):0<=v/\v<=2147483647/\a<a'/\a'<=b.length:=by
 unfold q0 at h;split at h
 .rename_i k c d;cases h;have e:=aBN _ _ _ _ _ _ d;have g:=aw8 _ _ _ _ _ _ (fun x i=>(f.2 x (asX i)).1) (Lj 0) d;rw[bc]at e;exact⟨g,e.1,by omega,by omega⟩
 .cases h
def aQ (b:List Int)(s:Qr):Int×Qr:=match q0 b s.1 with
 |some (v,a)=>if s.2=true then (v,a,true) else (0,s.1,false)|none=>(0,s.1,false)
def sC {b:List Int}(c:de b){s:Qr}(hs:s.1<=b.length):cG F0 (cell b s)=some (((aQ b s).1,()),cell b (aQ b s).2,()):=by
 obtain⟨a,ok⟩:=s;rw[amx,ad0 c hs,ai];unfold aQ aa7;dsimp only;cases q0 b a with
 |none=>rfl|some r=>cases ok<;>rfl
def mi {b:List Int}(c:de b){s:Qr}(hs:s.1<=b.length):bF F0 (Wx b s)=some (((aQ b s).1,()),Wx b (aQ b s).2,()):=by
 obtain⟨a,ok⟩:=s;rw[aaM,asc c hs,ai];unfold aQ aa7;dsimp only;cases q0 b a with
 |none=>cases ok<;>rfl|some r=>cases ok<;>rfl
def dK {b:List Int}(c:de b){s:Qr}(hs:s.1<=b.length):(aQ b s).2.1<=b.length/\((aQ b s).2.2=true->s.1<(aQ b s).2.1)/\0<=(aQ b s).1/\(aQ b s).1<=2147483647:=by
 unfold aQ;split
 .rename_i v a h;have:=Xr c hs h;split
  .exact⟨this.2.2.2,fun _=>this.2.2.1,this.1,this.2.1⟩
  .exact⟨hs,(fun h=>by cases h),Lj _,by omega⟩
 .exact⟨hs,(fun h=>by cases h),Lj _,by omega⟩
def aa8 (b:List Int)(a:Nat):Option (ByteArray×Nat):=match q0 b a with
 |some (v,a)=>if v>(b.length:Int)-a then none else some (strOf ((b.take (a+v.toNat)).drop a),a+v.toNat)|none=>none
def azx:Option (ByteArray×Nat)->ByteArray×Int×Bool×Unit
 |some (v,a)=>(v,(a:Int),true,())|none=>(ak,0,false,())
def asd {b:List Int}(e:de b){a:Nat}(f:a<=b.length) :
  br (!(aa7 (q0 b a)).2.2.1) (some (ak,0,false,())) (br (decide ((aa7 (q0 b a)).1>aj ((b.length:Int)-(aa7 (q0 b a)).2.1))) (some (ak,0,false,()))
   (ck (QW (aa7 (q0 b a)).2.1 (aj ((aa7 (q0 b a)).2.1+(aa7 (q0 b a)).1)) (b.length:Int)) (some (strOf ((b.take (aj ((aa7 (q0 b a)).2.1+(aa7 (q0 b a)).1)).toNat).drop (aa7 (q0 b a)).2.1.toNat),aj ((aa7 (q0 b a)).2.1+(aa7 (q0 b a)).1),true,()))))=some (azx (aa8 b a)):=by
 have i:=e.1;unfold aa8;cases g:q0 b a with
 |none=>rfl
 |some r =>
  obtain⟨v,c⟩:=r;have h:=Xr e f g;show br (!true) _ (br (decide (v>aj ((b.length:Int)-(c:Int)))) _ (ck (QW (c:Int) (aj ((c:Int)+v)) (b.length:Int)) (some (strOf ((b.take (aj ((c:Int)+v)).toNat).drop (c:Int).toNat),aj ((c:Int)+v),true,()))))=some (azx (if v>(b.length:Int)-c then none else some (strOf ((b.take (c+v.toNat)).drop c),c+v.toNat)));rw[aH,aa,aF (n:=(b.length:Int)-c) (by omega) (by omega),aF (n:=(c:Int)+v) (by omega) (by omega)];by_cases d:v>(b.length:Int)-c
  .rw[aI d,ae,ag d];rfl
  .rw[aL d,aa,af d,show(c:Int)+v=((c+v.toNat:Nat):Int) by omega,Xo (by omega) (by omega),ad];simp only[gJ,azx]
def aw9 {b:List Int}(c:de b){a:Nat}(d:a<=b.length):HD F0 b (a:Int)=some (azx (aa8 b a)):=by rw[ajc,ad0 c d,ai];exact asd c d
def Iz {b:List Int}(c:de b){a:Nat}(d:a<=b.length):mS F0 b (a:Int)=some (azx (aa8 b a)):=by rw[aj5,asc c d,ai];exact asd c d
def aGF {b:List Int}(c:de b){a:Nat}(e:a<=b.length){v:ByteArray}{a':Nat}(h:aa8 b a=some (v,a')):v.size<=1048576/\a<a'/\a'<=b.length:=by
 have i:=c.1;unfold aa8 at h;split at h
 .rename_i f d g;have j:=Xr c e g;split at h
  .cases h
  .rename_i k;cases h;refine⟨?_,by omega,by omega⟩;show(((b.take (d+f.toNat)).drop d).map fun n=>UInt8.ofNat n.toNat).toArray.size<=1048576;rw[List.size_toArray,s5,bc,bC];omega
 .cases h
def cQ (b:List Int)(s:Qr):ByteArray×Qr:=match aa8 b s.1 with
 |some (v,a)=>if s.2=true then (v,a,true) else (ak,s.1,false)|none=>(ak,s.1,false)
def ad1 {b:List Int}(c:de b){s:Qr}(hs:s.1<=b.length):mG F0 (cell b s)=some (((cQ b s).1,()),cell b (cQ b s).2,()):=by
 obtain⟨a,ok⟩:=s;rw[aje,aw9 c hs,ai];unfold cQ azx;dsimp only;cases aa8 b a with
 |none=>rfl|some r=>cases ok<;>rfl
def Xs {b:List Int}(c:de b){s:Qr}(hs:s.1<=b.length):fN F0 (Wx b s)=some (((cQ b s).1,()),Wx b (cQ b s).2,()):=by
 obtain⟨a,ok⟩:=s;rw[XU,Iz c hs,ai];unfold cQ azx;dsimp only;cases aa8 b a with
 |none=>cases ok<;>rfl|some r=>cases ok<;>rfl
def wS {b:List Int}(c:de b){s:Qr}(hs:s.1<=b.length):(cQ b s).2.1<=b.length/\(cQ b s).1.size<=1048576:=by
 unfold cQ;split
 .rename_i v a h;have:=aGF c hs h;split
  .exact⟨this.2.2,this.1⟩
  .exact⟨hs,aO _⟩
 .exact⟨hs,aO _⟩
def jL (b:List Int)(n:Int):Nat->Int->Qr->List Int->List Int×Qr
 |0,_,s,xs=>(xs,s)|f+1,i,s,xs=>if i<n/\s.2=true then jL b n f (i+1) (aQ b s).2 (xs++[(aQ b s).1]) else (xs,s)
def BC (b:List Int)(s:Qr):List Int×Qr:=jL b (aQ b s).1 (b.length+2) 0 (aQ b s).2 []
def axa {b:List Int}(e:de b)(a:Int){γ:Type}(J:Ex->St->Option γ):∀(f:Nat) (i:Int) (s:Qr) (xs:List Int) (m:Nat),s.1<=b.length->0<=i->i+f<=4194304->(s.2=true->b.length+2<=s.1+f)->xs.length+f<=4194304->f<m ->
  C1 F0 J m (ua a i b (s.1:Int) s.2 xs)=J (.exit 0) (rn b ((jL b a f i s xs).2.1:Int) (jL b a f i s xs).2.2 (jL b a f i s xs).1)
 |0,i,s,xs,m,g,n,o,j,p,r=>by
  obtain⟨m,rfl⟩:∃q,m=q+1:=⟨m-1,by omega⟩;have c:s.2=false:=I7.2 fun h=>by have:=j h;omega
  rw[JB];unfold jL;dsimp only;rw[c,aa];cases decide (i<a)<;>rfl
 |f+1,i,s,xs,m,g,n,o,j,p,r=>by
  obtain⟨m,rfl⟩:∃q,m=q+1:=⟨m-1,by omega⟩;rw[JB];unfold jL;by_cases d:i<a
  .rw[aI d,ae];cases c:s.2 with
   |false =>
    rw[aa,af (fun h=>by cases h.2),c]
   |true =>
    have k:=sC e g;have l:=dK e g;unfold cell at k;rw[c]at k;rw[ae,ag ⟨d,rfl⟩,k,ai,ax (by omega) (by omega) (by rw[dt];omega),ad,aF (by omega) (by omega)];exact axa e a J f (i+1) (aQ b s).2 (xs++[(aQ b s).1]) m l.1 (by omega) (by omega) (fun h=>by have:=l.2.1 h;have:=j c;omega) (by rw[aG,dt];omega) (by omega)
  .rw[aL d,aa,af (fun h=>d h.1)]
def axb {b:List Int}(e:de b)(a:Int){γ:Type}(J:Ex->St->Option γ):∀(f:Nat) (i:Int) (s:Qr) (xs:List Int) (m:Nat),s.1<=b.length->0<=i->i+f<=4194304->(s.2=true->b.length+2<=s.1+f)->xs.length+f<=4194304->f<m ->
  mV F0 J m (kq a i b (s.1:Int) (!s.2) xs)=J (.exit 0) (jz b ((jL b a f i s xs).2.1:Int) (!(jL b a f i s xs).2.2) (jL b a f i s xs).1)
 |0,i,s,xs,m,g,n,o,j,p,r=>by
  obtain⟨m,rfl⟩:∃q,m=q+1:=⟨m-1,by omega⟩;have c:s.2=false:=I7.2 fun h=>by have:=j h;omega
  rw[wM];unfold jL;dsimp only;rw[c];cases decide (i<a)<;>rfl
 |f+1,i,s,xs,m,g,n,o,j,p,r=>by
  obtain⟨m,rfl⟩:∃q,m=q+1:=⟨m-1,by omega⟩;rw[wM];unfold jL;by_cases d:i<a
  .rw[aI d,ae];cases c:s.2 with
   |false =>
    rw[af (fun h=>by cases h.2),c];rfl
   |true =>
    have k:=mi e g;have l:=dK e g;unfold Wx at k;rw[c]at k;rw[aH,ea,ae,ag ⟨d,rfl⟩,show(false:Bool)= !true from rfl,k,ai,ax (by omega) (by omega) (by rw[dt];omega),ad,aF (by omega) (by omega)];exact axb e a J f (i+1) (aQ b s).2 (xs++[(aQ b s).1]) m l.1 (by omega) (by omega) (fun h=>by have:=l.2.1 h;have:=j c;omega) (by rw[aG,dt];omega) (by omega)
  .rw[aL d,aa,af (fun h=>d h.1)]
def aBO {b:List Int}(a:de b){s:Qr}(hs:s.1<=b.length):Ez F0 (cell b s)=some (((BC b s).1,()),cell b (BC b s).2,()):=by have d:=a.1;have c:=dK a hs;rw[amy,sC a hs,ai];refine(axa a (aQ b s).1 (FG F0) (b.length+2) 0 (aQ b s).2 [] _ c.1 (Lj _) (by omega) (fun _=>by omega) (by rw[bj];omega) (by rw[bH];omega)).trans ?_;rw[aco];rfl
def axc {b:List Int}(a:de b){s:Qr}(hs:s.1<=b.length):lW F0 (Wx b s)=some (((BC b s).1,()),Wx b (BC b s).2,()):=by have d:=a.1;have c:=dK a hs;rw[XV,mi a hs,ai];refine(axb a (aQ b s).1 (pZ F0) (b.length+2) 0 (aQ b s).2 [] _ c.1 (Lj _) (by omega) (fun _=>by omega) (by rw[bj];omega) (by rw[bH];omega)).trans ?_;rw[Rc];rfl
def azy (b:List Int)(n:Int)(f:Nat)(i:Int){s:Qr}(h:s.2=false)(xs:List Int):jL b n f i s xs=(xs,s):=by
 cases f with
 |zero=>rfl
 |succ f =>
  unfold jL;rw[af (fun a=>by rw[h]at a;cases a.2)]
def ase {b:List Int}(d:de b)(n:Int):∀(f:Nat) (i:Int) (s:Qr) (xs:List Int),s.1<=b.length->(jL b n f i s xs).2.1<=b.length/\((jL b n f i s xs).2.2=true->(jL b n f i s xs).1.length+s.1<=xs.length+(jL b n f i s xs).2.1)
 |0,i,s,xs,a=>⟨a,fun _=>bf _⟩
 |f+1,i,s,xs,a=>by
  unfold jL;split
  .have e:=dK d a;have g:=ase d n f (i+1) (aQ b s).2 (xs++[(aQ b s).1]) e.1;refine⟨g.1,fun h=>?_⟩;cases c:(aQ b s).2.2 with
   |false =>
    rw[azy b n f (i+1) c,c]at h;cases h
   |true =>
    have k:=e.2.1 c;have j:=g.2 h;rw[aG,dt]at j;omega
  .exact⟨a,fun _=>bf _⟩
def aoC {b:List Int}(a:de b){s:Qr}(hs:s.1<=b.length):(BC b s).2.1<=b.length/\((BC b s).2.2=true->(BC b s).1.length<=1048576):=by have f:=a.1;have c:=dK a hs;have h:=ase a (aQ b s).1 (b.length+2) 0 (aQ b s).2 [] c.1;refine⟨h.1,fun d=>?_⟩;have e:=h.2 d;have g:=h.1;rw[bj]at e;unfold BC;omega
def vZ (b:List Int)(s:Qr):b1×Qr:=(((aQ b s).1,(cQ b (aQ b s).2).1,(BC b (cQ b (aQ b s).2).2).1),(BC b (cQ b (aQ b s).2).2).2)
def azz {b:List Int}(a:de b){s:Qr}(hs:s.1<=b.length):BR F0 (cell b s)=some (((vZ b s).1,()),cell b (vZ b s).2,()):=by have c:=(dK a hs).1;have d:=(wS a c).1;rw[aqo,sC a hs,ai,ad1 a c,ai,aBO a d,ai];rfl
def au1 {b:List Int}(a:de b){s:Qr}(hs:s.1<=b.length):lX F0 (Wx b s)=some (((vZ b s).1,()),Wx b (vZ b s).2,()):=by have c:=(dK a hs).1;have d:=(wS a c).1;rw[ac1,mi a hs,ai,Xs a c,ai,axc a d,ai];rfl
def Rx {b:List Int}(a:de b){s:Qr}(hs:s.1<=b.length):(vZ b s).2.1<=b.length/\((vZ b s).2.2=true->tK (vZ b s).1):=by have e:=(dK a hs).1;have c:=wS a e;have d:=aoC a c.1;exact⟨d.1,fun h=>⟨c.2,d.2 h⟩⟩
def aa9:bW:=(0,0,(ak,b8),b8,b8,0,pt)
def fin (c:Int×Int)(b:List Int)(m:bW)(s:Qr):bW×Bool:=if s.2=true/\(s.1:Int)=(b.length:Int)/\cV c m=true then (m,true) else (aa9,false)
def ad2 {c:Int×Int}{b:List Int}{m:bW}{s:Qr}(h:s.2=true->fT m) :
  br (!s.2) (some (aa9,false,())) (br ((s.1:Int) != (b.length:Int)) (some (aa9,false,())) ((e4 F0 c m).bind fun d=>br (!d.1) (some (aa9,false,())) (some (m,true,()))))=some ((fin c b m s).1,(fin c b m s).2,()):=by
 unfold fin;cases e:s.2 with
 |false =>
  rw[af (fun h=>by cases h.1)];rfl
 |true =>
  rw[aH,aa,I1 (h e),ai];by_cases a:(s.1:Int)=(b.length:Int)
  .rw[show((s.1:Int) != (b.length:Int))=false from RV.2 a,aa];cases f:cV c m with
   |false =>
    rw[af (fun h=>by cases h.2.2)];rfl
   |true =>
    rw[ag ⟨rfl,a,rfl⟩];rfl
  .rw[Er.2 a,ae,af (fun h=>a h.2.1)]
def Wy {c:Int×Int}{b:List Int}{m:bW}{s:Qr}(h:s.2=true->fT m) :
  br (!s.2) (some (aa9,false,())) (br ((s.1:Int) != (b.length:Int)) (some (aa9,false,())) ((fM F0 c m).bind fun d=>br (!d.1) (some (aa9,false,())) (some (m,true,()))))=some ((fin c b m s).1,(fin c b m s).2,()):=by
 unfold fin;cases e:s.2 with
 |false =>
  rw[af (fun h=>by cases h.1)];rfl
 |true =>
  rw[aH,aa,KV (h e),ai];by_cases a:(s.1:Int)=(b.length:Int)
  .rw[show((s.1:Int) != (b.length:Int))=false from RV.2 a,aa];cases f:cV c m with
   |false =>
    rw[af (fun h=>by cases h.2.2)];rfl
   |true =>
    rw[ag ⟨rfl,a,rfl⟩];rfl
  .rw[Er.2 a,ae,af (fun h=>a h.2.1)]
def h9 (b:List Int):Int×Qr:=aQ b (0,true)
def aGG (b:List Int):bW×Qr:=(((h9 b).1,0,((cQ b (h9 b).2).1,(vZ b (cQ b (h9 b).2).2).1),b8,b8,0,pt),(vZ b (cQ b (h9 b).2).2).2)
def aGH (b:List Int):bW×Qr :=
 (((h9 b).1,0,(ak,b8),((aQ b (h9 b).2).1,(cQ b (aQ b (h9 b).2).2).1,(BC b (cQ b (aQ b (h9 b).2).2).2).1),b8,0,pt),(BC b (cQ b (aQ b (h9 b).2).2).2).2)
def aGI (b:List Int):bW×Qr :=
 (((h9 b).1,(aQ b (h9 b).2).1,(ak,b8),b8,(vZ b (aQ b (aQ b (h9 b).2).2).2).1,(aQ b (aQ b (h9 b).2).2).1,pt),(vZ b (aQ b (aQ b (h9 b).2).2).2).2)
def aGJ (b:List Int):bW×Qr :=
 (((h9 b).1,0,(ak,b8),b8,b8,0,(aQ b (h9 b).2).1,(aQ b (aQ b (h9 b).2).2).1,(aQ b (aQ b (aQ b (h9 b).2).2).2).1,(aQ b (aQ b (aQ b (aQ b (h9 b).2).2).2).2).1),(aQ b (aQ b (aQ b (aQ b (h9 b).2).2).2).2).2)
def aIf (b:List Int):bW×Qr:=(((h9 b).1,0,(ak,b8),b8,b8,0,pt),(h9 b).2)
def ad3 (b:List Int):bW×Qr:=if ((h9 b).1==1)=true then aGG b else if ((h9 b).1==2)=true then aGH b else if ((h9 b).1==3)=true then aGI b else if ((h9 b).1==4)=true then aGJ b else aIf b
def mv (c:Int×Int)(b:List Int):bW×Bool:=fin c b (ad3 b).1 (ad3 b).2
def asf {b:List Int}(a:de b)(c:Int×Int):JD F0 c b=some ((mv c b).1,(mv c b).2,()):=by
 have v:cG F0 (b,0,true)=some (((h9 b).1,()),cell b (h9 b).2,()):=sC a (s:=(0,true)) (aO _);have i:(h9 b).2.1<=b.length:=(dK a (s:=(0,true)) (aO _)).1;have j:=(dK a i).1;have k:=(dK a j).1;have w:=(dK a k).1;have t0:=wS a i;have t1:=wS a j;have l:=Rx a t0.1;have n:=Rx a k;have o:=aoC a t1.1;rw[aqp,v,ai];unfold mv ad3;dsimp only;by_cases p:((h9 b).1==1)=true
 .rw[p,ae,ag rfl,ad1 a i,ai,azz a t0.1,ai];unfold aGG;generalize vZ b (cQ b (h9 b).2).2=e at l ⊢;generalize cQ b (h9 b).2=f at t0 ⊢;generalize h9 b=d;exact ad2 (c:=c) (b:=b) (m:=(d.1,0,(f.1,e.1),b8,b8,0,pt)) (s:=e.2) fun h=>⟨t0.2,l.2 h,dr,dr⟩
 .rw[I7.2 p,aa,af (by decide)];by_cases q:((h9 b).1==2)=true
  .rw[q,ae,ag rfl,sC a i,ai,ad1 a j,ai,aBO a t1.1,ai];unfold aGH;generalize BC b (cQ b (aQ b (h9 b).2).2).2=g at o ⊢;generalize cQ b (aQ b (h9 b).2).2=e at t1 ⊢;generalize aQ b (h9 b).2=f;generalize h9 b=d;exact ad2 (c:=c) (b:=b) (m:=(d.1,0,(ak,b8),(f.1,e.1,g.1),b8,0,pt)) (s:=g.2) fun h=>⟨aO _,dr,⟨t1.2,o.2 h⟩,dr⟩
  .rw[I7.2 q,aa,af (by decide)];by_cases r:((h9 b).1==3)=true
   .rw[r,ae,ag rfl,sC a i,ai,sC a j,ai,azz a k,ai];unfold aGI;generalize vZ b (aQ b (aQ b (h9 b).2).2).2=g at n ⊢;generalize aQ b (aQ b (h9 b).2).2=e;generalize aQ b (h9 b).2=f;generalize h9 b=d;exact ad2 (c:=c) (b:=b) (m:=(d.1,f.1,(ak,b8),b8,g.1,e.1,pt)) (s:=g.2) fun h=>⟨aO _,dr,dr,n.2 h⟩
   .rw[I7.2 r,aa,af (by decide)];by_cases t:((h9 b).1==4)=true
    .rw[t,ae,ag rfl,sC a i,ai,sC a j,ai,sC a k,ai,sC a w,ai];unfold aGJ;generalize aQ b (aQ b (aQ b (aQ b (h9 b).2).2).2).2=u;generalize aQ b (aQ b (aQ b (h9 b).2).2).2=g;generalize aQ b (aQ b (h9 b).2).2=e;generalize aQ b (h9 b).2=f;generalize h9 b=d;exact ad2 (c:=c) (b:=b) (m:=(d.1,0,(ak,b8),b8,b8,0,f.1,e.1,g.1,u.1)) (s:=u.2) fun h=>⟨aO _,dr,dr,dr⟩
    .rw[I7.2 t,aa,af (by decide)];unfold aIf;generalize h9 b=d;exact ad2 (c:=c) (b:=b) (m:=(d.1,0,(ak,b8),b8,b8,0,pt)) (s:=d.2) fun h=>⟨aO _,dr,dr,dr⟩
def aoD {b:List Int}(a:de b)(c:Int×Int):Kh F0 c b=some ((mv c b).1,(mv c b).2,()):=by
 have v:bF F0 (b,0,false)=some (((h9 b).1,()),Wx b (h9 b).2,()):=mi a (s:=(0,true)) (aO _);have i:(h9 b).2.1<=b.length:=(dK a (s:=(0,true)) (aO _)).1;have j:=(dK a i).1;have k:=(dK a j).1;have w:=(dK a k).1;have t0:=wS a i;have t1:=wS a j;have l:=Rx a t0.1;have n:=Rx a k;have o:=aoC a t1.1;rw[aqL,v,ai];unfold mv ad3;dsimp only;by_cases p:((h9 b).1==1)=true
 .rw[p,ae,ag rfl,Xs a i,ai,au1 a t0.1,ai];unfold aGG;generalize vZ b (cQ b (h9 b).2).2=e at l ⊢;generalize cQ b (h9 b).2=f at t0 ⊢;generalize h9 b=d;exact Wy (c:=c) (b:=b) (m:=(d.1,0,(f.1,e.1),b8,b8,0,pt)) (s:=e.2) fun h=>⟨t0.2,l.2 h,dr,dr⟩
 .rw[I7.2 p,aa,af (by decide)];by_cases q:((h9 b).1==2)=true
  .rw[q,ae,ag rfl,mi a i,ai,Xs a j,ai,axc a t1.1,ai];unfold aGH;generalize BC b (cQ b (aQ b (h9 b).2).2).2=g at o ⊢;generalize cQ b (aQ b (h9 b).2).2=e at t1 ⊢;generalize aQ b (h9 b).2=f;generalize h9 b=d;exact Wy (c:=c) (b:=b) (m:=(d.1,0,(ak,b8),(f.1,e.1,g.1),b8,0,pt)) (s:=g.2) fun h=>⟨aO _,dr,⟨t1.2,o.2 h⟩,dr⟩
  .rw[I7.2 q,aa,af (by decide)];by_cases r:((h9 b).1==3)=true
   .rw[r,ae,ag rfl,mi a i,ai,mi a j,ai,au1 a k,ai];unfold aGI;generalize vZ b (aQ b (aQ b (h9 b).2).2).2=g at n ⊢;generalize aQ b (aQ b (h9 b).2).2=e;generalize aQ b (h9 b).2=f;generalize h9 b=d;exact Wy (c:=c) (b:=b) (m:=(d.1,f.1,(ak,b8),b8,g.1,e.1,pt)) (s:=g.2) fun h=>⟨aO _,dr,dr,n.2 h⟩
   .rw[I7.2 r,aa,af (by decide)];by_cases t:((h9 b).1==4)=true
    .rw[t,ae,ag rfl,mi a i,ai,mi a j,ai,mi a k,ai,mi a w,ai];unfold aGJ;generalize aQ b (aQ b (aQ b (aQ b (h9 b).2).2).2).2=u;generalize aQ b (aQ b (aQ b (h9 b).2).2).2=g;generalize aQ b (aQ b (h9 b).2).2=e;generalize aQ b (h9 b).2=f;generalize h9 b=d;exact Wy (c:=c) (b:=b) (m:=(d.1,0,(ak,b8),b8,b8,0,f.1,e.1,g.1,u.1)) (s:=u.2) fun h=>⟨aO _,dr,dr,dr⟩
    .rw[I7.2 t,aa,af (by decide)];unfold aIf;generalize h9 b=d;exact Wy (c:=c) (b:=b) (m:=(d.1,0,(ak,b8),b8,b8,0,pt)) (s:=d.2) fun h=>⟨aO _,dr,dr,dr⟩
structure v7 (w:ah):Prop where
 l:w.2.1.length<=1048576
 r:w.2.2.1.length<=1048576
 rl:∀x∈w.2.2.1,aoA x
 n:w.2.2.2.1.length<=1048576
 nb:∀x∈w.2.2.2.1,de x.2
 s:w.2.2.2.2.length<=1048576
 st:∀x∈w.2.2.2.2,x.2.1.size<=1048576
def azA (c:Int×Int):LG F0 c=some (vY c,()):=by
 rw[amu,hV,ai];unfold vY;dsimp only;cases h:bw c with
 |false=>rfl
 |true =>
  have:=b4 h;have a:=awS this.1 this.2.1;have e:aj (c.1-1)=c.1-1:=aF (by omega) (by omega);rw[aH,aa,e,aF (n:=Int.tdiv (c.1-1) 3) (by omega) (by omega),ag rfl]
def ad4:ar:=(0,0,0,(0,0,b8,ak),[],[],([],0),[])
def azB:kV:=(0,[])
def Ry:cv:=(0,ak,0)
def aoE (c:Int×Int)(l:List ar)(k:Nat):Bool:=mh c (l.getD k ad4)&&((l.getD k ad4).1==(k:Int))
def aba (c:Int×Int)(l:List kV)(k:Nat):Bool:=(mv c (l.getD k azB).2).2&&eF 0 (aj (c.1-1)) (l.getD k azB).1
def abb (c:Int×Int)(l:List cv)(k:Nat):Bool:=eF 0 (aj (c.1-1)) (l.getD k Ry).2.2&&(bd (l.getD k Ry).2.1.data.toList&&(aD (l.getD k Ry).2.1.data.toList==(l.getD k Ry).1))
def aoF (w:ah):Bool:=(List.range w.2.2.1.length).all (aoE w.1 w.2.2.1)
def IA (w:ah):Bool:=(List.range w.2.2.2.1.length).all (aba w.1 w.2.2.2.1)
def sD (w:ah):Bool:=(List.range w.2.2.2.2.length).all (abb w.1 w.2.2.2.2)
def jC (w:ah):Bool :=
 bw w.1&&(jI w.1.1 w.2.1&&(!decide ((w.2.1.length:Int)>vY w.1)&&(!((w.2.2.1.length:Int) != w.1.1)&&(!decide ((w.2.2.2.1.length:Int)>60)&&(!decide ((w.2.2.2.2.length:Int)>300)&&(aoF w&&(IA w&&sD w)))))))
def akX (a b:Bool):(if a=true then some (b,()) else some (false,()))=some (a&&b,()):=by cases a<;>rfl
def azC {w:ah}(h:v7 w):pI F0 (lr F0) F0.n (lq 0 w.1.1 w.1.2 w.2.1 w.2.2.1 w.2.2.2.1 w.2.2.2.2)=some (sD w,()):=by
 have d:=h.s;rw[hU (fun m k=>pI F0 (lr F0) m (lq k w.1.1 w.1.2 w.2.1 w.2.2.1 w.2.2.2.1 w.2.2.2.2)) w.2.2.2.2.length (abb w.1 w.2.2.2.2) (some (true,())) (some (false,())) (fun m k a=>?_) (fun m=>?_) _ (by rw[bH];omega),Fh]
 .rfl
 .have c:=h.st _ (b2 a);rw[Gm,aP a,ae,ao a,ad,a8 a,cO,ai,I0 c,ai,ot c,ai,acr,al (by omega)];unfold abb;rw[aV a];dsimp only;cases eF 0 (aj (w.1.1-1)) (w.2.2.2.2[k]).2.2<;>cases bd (w.2.2.2.2[k]).2.1.data.toList<;>try rfl
  by_cases b:aD (w.2.2.2.2[k]).2.1.data.toList=(w.2.2.2.2[k]).1
  .rw[show(aD (w.2.2.2.2[k]).2.1.data.toList != (w.2.2.2.2[k]).1)=false from RV.2 b,show(aD (w.2.2.2.2[k]).2.1.data.toList==(w.2.2.2.2[k]).1)=true from bg.2 b];rfl
  .rw[Er.2 b,bQ.2 b];rfl
 .rw[Gm,aE,aa,aap]
def azD {w:ah}(h:v7 w):pJ F0 (lx F0) F0.n (lv 0 w.1.1 w.1.2 w.2.1 w.2.2.1 w.2.2.2.1 w.2.2.2.2)=some (IA w&&sD w,()):=by
 have b:=h.n;rw[hU (fun m k=>pJ F0 (lx F0) m (lv k w.1.1 w.1.2 w.2.1 w.2.2.1 w.2.2.2.1 w.2.2.2.2)) w.2.2.2.1.length (aba w.1 w.2.2.2.1) (some (sD w,())) (some (false,())) (fun m k a=>?_) (fun m=>?_) _ (by rw[bH];omega),akX]
 .rfl
 .rw[Gn,aP a,ae,ao a,ad,a8 a,show((w.1.1,w.1.2):Int×Int)=w.1 from rfl,asf (h.nb _ (b2 a)),ai,ad,cO,ai,acs,al (by omega)];unfold aba;rw[aV a];dsimp only;cases (mv w.1 (w.2.2.2.1[k]).2).2<;>cases eF 0 (aj (w.1.1-1)) (w.2.2.2.1[k]).1<;>rfl
 .rw[Gn,aE,aa,aaq,azC h]
def aCX {w:ah}(h:v7 w):pK F0 (lz F0) F0.n (ly 0 w.1.1 w.1.2 w.2.1 w.2.2.1 w.2.2.2.1 w.2.2.2.2)=some (aoF w&&(IA w&&sD w),()):=by
 have c:=h.r;rw[hU (fun m k=>pK F0 (lz F0) m (ly k w.1.1 w.1.2 w.2.1 w.2.2.1 w.2.2.2.1 w.2.2.2.2)) w.2.2.1.length (aoE w.1 w.2.2.1) (some (IA w&&sD w,())) (some (false,())) (fun m k a=>?_) (fun m=>?_) _ (by rw[bH];omega),akX]
 .rfl
 .rw[Gp,aP a,ae,ao a,ad,a8 a,ad,show((w.1.1,w.1.2):Int×Int)=w.1 from rfl,gR (h.rl _ (b2 a)),ai,acu,al (by omega)];unfold aoE;rw[aV a];dsimp only;by_cases b:(w.2.2.1[k]).1=(k:Int)
  .rw[show((w.2.2.1[k]).1 != (k:Int))=false from RV.2 b,show((w.2.2.1[k]).1==(k:Int))=true from bg.2 b,aa,Bool.and_true];cases mh w.1 w.2.2.1[k]<;>rfl
  .rw[Er.2 b,bQ.2 b,ae,abF];rfl
 .rw[Gp,aE,aa,aar,azD h]
def axd {w:ah}(h:v7 w):yo F0 w=some (jC w,()):=by rw[ajf,hV,ai,agE (bZ h.l (by omega)),ai,azA,ai,aCX h];unfold jC;cases bw w.1<;>cases jI w.1.1 w.2.1<;>cases decide ((w.2.1.length:Int)>vY w.1)<;>cases ((w.2.2.1.length:Int) != w.1.1)<;>cases decide ((w.2.2.2.1.length:Int)>60)<;>cases decide ((w.2.2.2.2.length:Int)>300)<;>rfl
def azE {w:ah}(h:v7 w):p1 F0 (lZ F0) F0.n (lY w.2.2.2.2 (w.2.2.2.2.length:Int) 0 w.1.1 w.1.2)=some (sD w,()):=by
 have d:=h.s;rw[hU (fun m k=>p1 F0 (lZ F0) m (lY w.2.2.2.2 (w.2.2.2.2.length:Int) k w.1.1 w.1.2)) w.2.2.2.2.length (abb w.1 w.2.2.2.2) (some (true,())) (some (false,())) (fun m k a=>?_) (fun m=>?_) _ (by rw[bH];omega),Fh]
 .rfl
 .have c:=h.st _ (b2 a);rw[GQ,aP a,ae,ao a,ad,a8 a,bP,ai,Cw c,ai,qV c,ai,ac3,al (by omega)];unfold abb;rw[aV a];dsimp only;cases eF 0 (aj (w.1.1-1)) (w.2.2.2.2[k]).2.2<;>cases bd (w.2.2.2.2[k]).2.1.data.toList<;>try rfl
  by_cases b:aD (w.2.2.2.2[k]).2.1.data.toList=(w.2.2.2.2[k]).1
  .rw[show(aD (w.2.2.2.2[k]).2.1.data.toList != (w.2.2.2.2[k]).1)=false from RV.2 b,show(aD (w.2.2.2.2[k]).2.1.data.toList==(w.2.2.2.2[k]).1)=true from bg.2 b];rfl
  .rw[Er.2 b,bQ.2 b];rfl
 .rw[GQ,aE,aa,aaN]
def azF {w:ah}(h:v7 w):p2 F0 (l1 F0) F0.n (l0 w.2.2.2.1 (w.2.2.2.1.length:Int) 0 w.1.1 w.1.2 w.2.1 w.2.2.1 w.2.2.2.1 w.2.2.2.2 w.1.1 w.1.2)=some (IA w&&sD w,()):=by
 have b:=h.n;rw[hU (fun m k=>p2 F0 (l1 F0) m (l0 w.2.2.2.1 (w.2.2.2.1.length:Int) k w.1.1 w.1.2 w.2.1 w.2.2.1 w.2.2.2.1 w.2.2.2.2 w.1.1 w.1.2)) w.2.2.2.1.length (aba w.1 w.2.2.2.1) (some (sD w,())) (some (false,())) (fun m k a=>?_) (fun m=>?_) _ (by rw[bH];omega),akX]
 .rfl
 .rw[GR,aP a,ae,ao a,ad,a8 a,show((w.1.1,w.1.2):Int×Int)=w.1 from rfl,aoD (h.nb _ (b2 a)),ai,bP,ai,ac4,al (by omega)];unfold aba;rw[aV a];dsimp only;cases (mv w.1 (w.2.2.2.1[k]).2).2<;>cases eF 0 (aj (w.1.1-1)) (w.2.2.2.1[k]).1<;>rfl
 .rw[GR,aE,aa,aaO,azE h]
def aCY {w:ah}(h:v7 w):p3 F0 (l3 F0) F0.n (l2 w.2.2.1 (w.2.2.1.length:Int) 0 w.1.1 w.1.2 w.2.1 w.2.2.1 w.2.2.2.1 w.2.2.2.2 w.1.1 w.1.2)=some (aoF w&&(IA w&&sD w),()):=by
 have c:=h.r;rw[hU (fun m k=>p3 F0 (l3 F0) m (l2 w.2.2.1 (w.2.2.1.length:Int) k w.1.1 w.1.2 w.2.1 w.2.2.1 w.2.2.2.1 w.2.2.2.2 w.1.1 w.1.2)) w.2.2.1.length (aoE w.1 w.2.2.1) (some (IA w&&sD w,())) (some (false,())) (fun m k a=>?_) (fun m=>?_) _ (by rw[bH];omega),akX]
 .rfl
 .rw[GS,aP a,ae,ao a,ad,a8 a,show((w.1.1,w.1.2):Int×Int)=w.1 from rfl,dJ (h.rl _ (b2 a)),ai,ac5,al (by omega)];unfold aoE;rw[aV a];dsimp only;by_cases b:(w.2.2.1[k]).1=(k:Int)
  .rw[show((w.2.2.1[k]).1 != (k:Int))=false from RV.2 b,show((w.2.2.1[k]).1==(k:Int))=true from bg.2 b,aa,Bool.and_true];cases mh w.1 w.2.2.1[k]<;>rfl
  .rw[Er.2 b,bQ.2 b,ae,abF];cases mh w.1 w.2.2.1[k]<;>rfl
 .rw[GS,aE,aa,aaP,azF h]
def sE {w:ah}(h:v7 w):cK F0 w=some (jC w,()):=by rw[aj6,fu,ai,aa6 (bZ h.l (by omega)),ai,ail,ai,aCY h];unfold jC;cases bw w.1<;>cases jI w.1.1 w.2.1<;>cases decide ((w.2.1.length:Int)>vY w.1)<;>cases ((w.2.2.1.length:Int) != w.1.1)<;>cases decide ((w.2.2.2.1.length:Int)>60)<;>cases decide ((w.2.2.2.2.length:Int)>300)<;>rfl
structure aLP (r:ar):Prop where
 i1:I64 r.1
 i2:I64 r.2.1
 i3:I64 r.2.2.2.1.1
 i4:I64 r.2.2.2.1.2.1
 i5:I64 r.2.2.2.1.2.2.1.1
 d:r.2.2.2.1.2.2.2.size<=1048576
 p:r.2.2.2.2.1.length<=1048576
 t:r.2.2.2.2.2.1.length<=1048576
 h:r.2.2.2.2.2.2.2.length<=1048576
def nZ (l:List Int):Nat->List Int
 |0=>[]|k+1=>nZ l k++if (k:Int)∈l then [] else [(k:Int)]
def q2 (l:List Int):∀k,(nZ l k).length<=k
 |0=>bf _|k+1=>by
  have:=q2 l k;unfold nZ;split
  .rw[fU];omega
  .rw[aG,dt];omega
def agK (l:List Int):∀k,∀x∈nZ l k,0<=x/\x<k
 |0,x,h=>by cases h
 |k+1,x,h=>by
  unfold nZ at h;rcases gK.1 h with h1|h1
  .have:=agK l k x h1;omega
  .split at h1
   .cases h1
   .rw[fA.1 h1];omega
def aM (w:ah):List Int:=nZ w.2.1 w.2.2.1.length
def air {V:Type}(X:List Int->V)(l xs:List Int)(k:Int):br (!decide (k∈l)) (X (xs++[k])) (X xs)=X (xs++if k∈l then [] else [k]):=by
 by_cases h:k∈l
 .rw[aI h,ag h,fU];rfl
 .rw[aL h,af h];rfl
def aoG {w:ah}(h:v7 w):EM F0 w=some (aM w,()):=by
 have e:=h.r;have f:=h.l;rw[ana];refine cz (fun n i (a:List Int)=>oi F0 (uP F0) n (jT i w.1.1 w.1.2 w.2.1 w.2.2.1 w.2.2.2.1 w.2.2.2.2 a)) w.2.2.1.length (fun k a=>a=nZ w.2.1 k) _ (fun n k a c b=>.inr ⟨nZ w.2.1 (k+1),?_,rfl⟩) (fun n a b=>?_) _ 0 [] (aO _) rfl (by rw[bH];omega)
 .have d:=q2 w.2.1 k;rw[<-b]at d;rw[J4,aP c,ae,fg (by omega),ai,ax (by omega) (by omega) (by rw[dt];omega),ad,al (by omega)];dsimp only;rw[air (fun a=>oi F0 (uP F0) n (jT ((k+1:Nat):Int) w.1.1 w.1.2 w.2.1 w.2.2.1 w.2.2.2.1 w.2.2.2.2 a)),b];rfl
 .rw[J4,aE,aa,acQ,b];rfl
def wT {w:ah}(h:v7 w):ku F0 w=some (aM w,()):=by
 have e:=h.r;have f:=h.l;rw[anH];refine cz (fun n i (a:List Int)=>om F0 (u6 F0) n (jW (w.2.2.1.length:Int) i w.1.1 w.1.2 w.2.1 w.2.2.1 w.2.2.2.1 w.2.2.2.2 a)) w.2.2.1.length (fun k a=>a=nZ w.2.1 k) _ (fun n k a c b=>.inr ⟨nZ w.2.1 (k+1),?_,rfl⟩) (fun n a b=>?_) _ 0 [] (aO _) rfl (by rw[bH];omega)
 .have d:=q2 w.2.1 k;rw[<-b]at d;rw[Ko,aP c,ae,eM (by omega),ai,ax (by omega) (by omega) (by rw[dt];omega),ad,al (by omega)];dsimp only;rw[air (fun a=>om F0 (u6 F0) n (jW (w.2.2.1.length:Int) ((k+1:Nat):Int) w.1.1 w.1.2 w.2.1 w.2.2.1 w.2.2.2.1 w.2.2.2.2 a)),b];rfl
 .rw[Ko,aE,aa,ade,b];rfl
def Cy {w:ah}{k:Nat}(a:k<(aM w).length):∃j:Nat,(aM w)[k]=(j:Int)/\j<w.2.2.1.length:=by have:=agK w.2.1 w.2.2.1.length _ (b2 a);exact⟨(aM w)[k].toNat,by show _=(((aM w)[k]).toNat:Int);have b:0<=(aM w)[k]:=this.1;omega,by have b:0<=(aM w)[k]:=this.1;have c:(aM w)[k]<w.2.2.1.length:=this.2;omega⟩
def aEP (w:ah)(x:Int):ByteArray:=(w.2.2.1.getD x.toNat ad4).2.2.2.1.2.2.2
def ad5 (s t:ByteArray):Bool:=bd s.data.toList&&(bd t.data.toList&&(decide ((s.size:Int)>=(t.size:Int))&&(((s.extract 0 t.size).toList==t.toList)&&(((s.size:Int)==(t.size:Int)) || (gV s (t.size:Int)==47)))))
def axe {s t:ByteArray}(hs:s.size<=1048576)(b:t.size<=1048576):HM F0 s t=some (ad5 s t,()):=by
 rw[ajw,I0 hs,ai,I0 b,ai];unfold ad5;dsimp only;cases bd s.data.toList<;>cases bd t.data.toList<;>try rfl
 rw[aH,aa,aa,eS,eS];by_cases c:t.size<=s.size
 .rw[aL (show ¬(t.size:Int)>(s.size:Int) by omega),aa,aI (show(s.size:Int)>=(t.size:Int) by omega),eS,aEM c,ad,gJ,show(0:Int).toNat=0 from rfl];cases ((s.extract 0 t.size).toList==t.toList)<;>try rfl
  rw[aH,aa,eS];by_cases a:(s.size:Int)=(t.size:Int)
  .rw[show((s.size:Int)==(t.size:Int))=true from bg.2 a];rfl
  .rw[bQ.2 a,aa,ao (by omega),ad];rfl
 .rw[aI (show(t.size:Int)>(s.size:Int) by omega),ae,aL (show ¬(s.size:Int)>=(t.size:Int) by omega)];rfl
def IB {s t:ByteArray}(hs:s.size<=1048576)(b:t.size<=1048576):ng F0 s t=some (ad5 s t,()):=by
 rw[akn,Cw hs,ai,Cw b,ai,VX,NZ];unfold ad5;dsimp only;cases bd s.data.toList<;>cases bd t.data.toList<;>try rfl
 rw[ae,ae,eS,eS];by_cases c:t.size<=s.size
 .rw[aI (show(s.size:Int)>=(t.size:Int) by omega),eS,ae,aEM c,ad,gJ,show(0:Int).toNat=0 from rfl,ai,ai];dsimp only;cases ((s.extract 0 t.size).toList==t.toList)<;>try rfl
  rw[ae,eS];by_cases a:(s.size:Int)=(t.size:Int)
  .rw[show((s.size:Int)==(t.size:Int))=true from bg.2 a];rfl
  .rw[bQ.2 a,aa,ao (by omega),ad];rfl
 .rw[aL (show ¬(s.size:Int)>=(t.size:Int) by omega)];rfl
def ais (s t:ByteArray):Bool:=ad5 s t || ad5 t s
def azG {s t:ByteArray}(hs:s.size<=1048576)(a:t.size<=1048576):Rl F0 s t=some (ais s t,()):=by rw[aqX,IB hs a,ai,IB a hs,ai];unfold ais;cases ad5 s t<;>rfl
def dn (w:ah)(i:Nat):ByteArray:=aEP w ((aM w).getD i 0)
def aBP {w:ah}{i j:Nat}(a:i<(aM w).length)(e:(aM w)[i]=(j:Int))(b:j<w.2.2.1.length):dn w i=(w.2.2.1[j]).2.2.2.1.2.2.2:=by unfold dn aEP;rw[aV a,e,gJ,aV b]
def aBQ (w:ah):Bool:=jC w&&(List.range (aM w).length).all fun i=>(List.range (aM w).length).all fun k=>ais (dn w i) (dn w k)
def aGK {w:ah}(h:v7 w){γ:Type}(J:Ex->St->Option γ)(n:Nat){i:Nat}(d:i<(aM w).length) :
  nX F0 (kF F0 J n) F0.n (kE (aM w)[i] ((aM w).length:Int) (i:Int) ((aM w).length:Int) 0 w.1.1 w.1.2 w.2.1 w.2.2.1 w.2.2.2.1 w.2.2.2.2 (aM w) (aM w)) =
  if ((List.range (aM w).length).all fun k=>ais (dn w i) (dn w k))=true then nY F0 J n (kG ((aM w).length:Int) ((i+1:Nat):Int) w.1.1 w.1.2 w.2.1 w.2.2.1 w.2.2.2.1 w.2.2.2.2 (aM w)) else J .ret (A0 false):=by
 have hlen:(aM w).length<=1048576:=bZ (q2 w.2.1 w.2.2.1.length) h.r;obtain⟨g,e,b⟩:=Cy d;refine hU (fun m k=>nX F0 (kF F0 J n) m (kE (aM w)[i] ((aM w).length:Int) (i:Int) ((aM w).length:Int) k w.1.1 w.1.2 w.2.1 w.2.2.1 w.2.2.2.1 w.2.2.2.2 (aM w) (aM w))) (aM w).length (fun k=>ais (dn w i) (dn w k)) _ _ (fun m k a=>?_) (fun m=>?_) _ (by rw[bH];omega)
 .obtain⟨j,f,c⟩:=Cy a;rw[Fa,aP a,ae,ao a,ad,e,ao b,ad,a8 a,f,ao c,ad,a8 b,a8 c,azG (h.rl _ (b2 b)).s.2 (h.rl _ (b2 c)).s.2,ai,aaZ,al (by omega),aBP d e b,aBP a f c];dsimp only;cases ais (w.2.2.1[g]).2.2.2.1.2.2.2 (w.2.2.1[j]).2.2.2.1.2.2.2<;>rfl
 .rw[Fa,aE,aa,X4,al (by omega)]
def aq1 {w:ah}(h:v7 w):Ef F0 w=some (aBQ w,()):=by
 have hlen:(aM w).length<=1048576:=bZ (q2 w.2.1 w.2.2.1.length) h.r;rw[agu,sE h,ai,wT h,ai];unfold aBQ;dsimp only;cases b:jC w with
 |false=>rfl
 |true =>
  rw[aH,aa,eS,hU (fun m k=>nY F0 (po F0) m (kG ((aM w).length:Int) k w.1.1 w.1.2 w.2.1 w.2.2.1 w.2.2.2.1 w.2.2.2.2 (aM w))) (aM w).length (fun i=>(List.range (aM w).length).all fun k=>ais (dn w i) (dn w k)) (some (true,())) (some (false,())) (fun m k a=>?_) (fun m=>?_) _ (by rw[bH];omega),Fh]
  .rw[Fb,aP a,ae,ao a,ad,show(((w.1.1,w.1.2),w.2.1,w.2.2.1,w.2.2.2.1,w.2.2.2.2):ah)=w from rfl,wT h,ai];dsimp only;rw[a8 a,aGK h _ _ a,aa0]
  .rw[Fb,aE,aa,X5]
def aKe (a b:b1):Bool:=(a.1==b.1)&& !(a.2.1.toList==b.2.1.toList)
def okC (l:List b1)(i k:Nat):Bool:= !aKe (l.getD i b8) (l.getD k b8)
end Go.Am.Tryz
