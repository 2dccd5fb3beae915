/- No condition. -/
import Derived.Test.YtfapcfpkbahneaaGreatDoorQpVJL1
import Derived.Test.YtfapcfpkbahneaaGreatDoorQpAmWf
set_option linter.all false
namespace Go.Am.Tryz
open Go.Am
def aFL {c:Int×Int}{view s:Int}(hc:bL c=true)(hv:0<=view)(h0:0<=s)(h:s<=c.1-1):cc c view (XA c view s)=s:=by
 have hn:=cF hc;have hs1:=aiw (view%c.1+s) (show c.1≠0 by omega);have hs2:=amE (view%c.1+s) (show 0<c.1 by omega);unfold XA;rw[ai ⟨hc,hv,h0,h⟩];unfold cc;rw[ai ⟨hc,hv,hs1,by omega⟩];obtain⟨n,a⟩:=c;dsimp only at *;have hn4:n=4\/n=5\/n=6\/n=7:=by omega
 rcases hn4 with rfl|rfl|rfl|rfl<;>omega
def aIg (c:Int×Int)(view:Int):cc c view (-1)=-1:=by unfold cc;rw[ah (fun h=>by omega)]
def awR {c:Int×Int}{view i:Int}(h:0<=cc c view i):bL c=true/\0<=view/\cc c view i<=c.1-1:=by
 unfold cc at h ⊢;by_cases hc:bL c=true/\0<=view/\0<=i/\i<=c.1-1
 .rw[ai hc];have hn:=cF hc.1;have h2:=amE (i+c.1-view%c.1) (show 0<c.1 by omega);exact⟨hc.1,hc.2.1,by omega⟩
 .rw[ah hc]at h;omega
def aEt {c:Int×Int}{view i:Int}(h:0<=cc c view i):cc c view (QS c view i)<cc c view i:=by
 have hf:=awR h;have hn:=cF hf.1;unfold QS;by_cases h0:cc c view i<=0
 .rw[ai h0,aIg];omega
 .have hd1:0<=(cc c view i-1)/c.2:=Int.ediv_nonneg (by omega) (by omega);have hd2:(cc c view i-1)/c.2<=cc c view i-1:=Int.ediv_le_self c.2 (by omega);rw[ah h0,aFL hf.1 hf.2.1 hd1 (by omega)];omega
def Eo (c:Int×Int)(view:Int):Nat->Int->List Int
 |0,_=>[]|k+1,i=>if 0<=cc c view i then i::Eo c view k (QS c view i) else []
def ae0 (c:Int×Int)(view i:Int):List Int:=Eo c view 8 i
def ajI (c:Int×Int)(view:Int):∀(k:Nat) (i:Int),(Eo c view k i).length<=k
 |0,_=>bZ _|k+1,i=>by
  unfold Eo;split
  .have:=ajI c view k (QS c view i);rw[aZ];omega
  .exact aT _
def at6 (c:Int×Int)(view i:Int):(ae0 c view i).length<=8:=ajI c view 8 i
def azb (c:Int×Int)(view:Int){γ:Type}(J:Ex->St->Option γ):∀(k:Nat) (i:Int) (xs:List Int) (n:Nat),cc c view i<k->xs.length+k<=1000->k<n ->
  RN F0 J n (H4 view i c.1 c.2 xs)=J (.exit 0) (Ou (xs++Eo c view k i))
 |0,i,xs,n,hs,hx,hn=>by obtain⟨n,rfl⟩:∃m,n=m+1:=⟨n-1,by omega⟩;rw[Tl,show((c.1,c.2):Int×Int)=c from rfl,XC,aj];dsimp only;rw[aR (show ¬cc c view i>=0 by omega),aa,Eo,iz]
 |k+1,i,xs,n,hs,hx,hn=>by
  obtain⟨n,rfl⟩:∃m,n=m+1:=⟨n-1,by omega⟩;rw[Tl,show((c.1,c.2):Int×Int)=c from rfl,XC,aj];unfold Eo;dsimp only;by_cases h:0<=cc c view i
  .have hu:=aEt h;rw[aN (show cc c view i>=0 from h),af,ai h,az (by omega) (by omega) (by rw[dM];omega),ae,aIf,aj];dsimp only;rw[azb c view J k (QS c view i) (xs++[i]) n (by omega) (by rw[aL,dM];omega) (by omega),iT];rfl
  .rw[aR (show ¬cc c view i>=0 from h),aa,ah h,iz]
def azc (c:Int×Int)(view:Int){γ:Type}(J:Ex->St->Option γ):∀(k:Nat) (i:Int) (xs:List Int) (n:Nat),cc c view i<k->xs.length+k<=1000->k<n ->
  RZ F0 J n (IB view i c.1 c.2 xs)=J (.exit 0) (OF (xs++Eo c view k i))
 |0,i,xs,n,hs,hx,hn=>by obtain⟨n,rfl⟩:∃m,n=m+1:=⟨n-1,by omega⟩;rw[T9,show((c.1,c.2):Int×Int)=c from rfl,Ji,aj];dsimp only;rw[aR (show ¬cc c view i>=0 by omega),aa,Eo,iz]
 |k+1,i,xs,n,hs,hx,hn=>by
  obtain⟨n,rfl⟩:∃m,n=m+1:=⟨n-1,by omega⟩;rw[T9,show((c.1,c.2):Int×Int)=c from rfl,Ji,aj];unfold Eo;dsimp only;by_cases h:0<=cc c view i
  .have hu:=aEt h;rw[aN (show cc c view i>=0 from h),af,ai h,az (by omega) (by omega) (by rw[dM];omega),ae,aEs,aj];dsimp only;rw[azc c view J k (QS c view i) (xs++[i]) n (by omega) (by rw[aL,dM];omega) (by omega),iT];rfl
  .rw[aR (show ¬cc c view i>=0 from h),aa,ah h,iz]
def aKj (c:Int×Int)(view i:Int):adS F0 c view i=some (ae0 c view i,()):=by have hs:=Yq c view i;rw[ayM,azb c view _ 8 i [] _ (by omega) (by rw[bE];omega) (by rw[cl];omega),aov,Bk];rfl
def aIh (c:Int×Int)(view i:Int):aex F0 c view i=some (ae0 c view i,()):=by have hs:=Yq c view i;rw[ayS,azc c view _ 8 i [] _ (by omega) (by rw[bE];omega) (by rw[cl];omega),apx,Bk];rfl
def cmn (b a:List Int):Nat:=a.countP fun x=>decide (x∈b)
def azd (b a:List Int)(x:Int):cmn b (a++[x])=cmn b a+if x∈b then 1 else 0:=by
 unfold cmn;rw[List.countP_append,List.countP_singleton];by_cases h:x∈b
 .simp[h]
 .simp[h]
def aIi (b a:List Int):cmn b a<=a.length:=List.countP_le_length
def aB0 {a b:List Int}(ha:a.length<=1048576)(hb:b.length<=1048576):Mz F0 a b=some ((cmn b a:Int),()):=by
 rw[aow];refine dp (fun n i (q:Int)=>Du F0 (FY F0) n (v7 a b q i)) a.length (fun k q=>q=(cmn b (a.take k):Int)) _ (fun n k q hk hq=>.inr ⟨(cmn b (a.take (k+1)):Int),?_,rfl⟩) (fun n q hq=>?_) _ 0 0 (aT _) rfl (by rw[cl];omega)
 .have hc:=aIi b (a.take k);rw[bV]at hc;rw[Kj,aX hk,af,av hk,ae,bF hk,gv (by omega),aj,iy hk,azd,hq,ao (by omega)];dsimp only;rw[asd];by_cases h:a[k]∈b
  .rw[aN h,af,aj,ai h];dsimp only;rw[ao (by omega)]
  .rw[aR h,aa,aj,ah h];dsimp only;rw[aJ (by omega) (by omega),Int.add_zero];rfl
 .rw[Kj,aK,aa,adU,hq,mB]
def aze {a b:List Int}(ha:a.length<=1048576)(hb:b.length<=1048576):Nx F0 a b=some ((cmn b a:Int),()):=by
 rw[apy];refine dp (fun n i (q:Int)=>u1 F0 (Gj F0) n (pH b q a (a.length:Int) i)) a.length (fun k q=>q=(cmn b (a.take k):Int)) _ (fun n k q hk hq=>.inr ⟨(cmn b (a.take (k+1)):Int),?_,rfl⟩) (fun n q hq=>?_) _ 0 0 (aT _) rfl (by rw[cl];omega)
 .have hc:=aIi b (a.take k);rw[bV]at hc;rw[KU,aX hk,af,av hk,ae,bF hk,fN (by omega),aj,iy hk,azd,hq,ao (show k+1<=9223372036854775807 by omega)];dsimp only;by_cases h:a[k]∈b
  .rw[aN h,af,ai h,ao (by omega)]
  .rw[aR h,aa,ah h];rfl
 .rw[KU,aK,aa,aez,hq,mB]
def Srt (l:List Int):Prop:=l.Pairwise (·< ·)
def azf {i x:Int}:∀{l:List Int},x∈al8 i l↔x=i\/x∈l
 |[]=>by simp[al8]
 |y::l=>by
  unfold al8;split
  .rw[dE]
  .rw[dE,azf,dE];constructor
   .rintro(h|h|h)
    .exact .inr (.inl h)
    .exact .inl h
    .exact .inr (.inr h)
   .rintro(h|h|h)
    .exact .inr (.inl h)
    .exact .inl h
    .exact .inr (.inr h)
def aIj {i x:Int}{l:List Int}:x∈QR l i↔x=i\/x∈l:=by
 unfold QR;split
 .rename_i h;exact⟨.inr,fun h'=>h'.elim (fun e=>e▸h) id⟩
 .exact azf
def Lo {x:Int}:∀(l out:List Int),x∈l.foldl QR out↔x∈out\/x∈l
 |[],out=>by simp
 |y::l,out=>by
  rw[amL,Lo l,aIj,dE];constructor
  .rintro((h|h)|h)
   .exact .inr (.inl h)
   .exact .inl h
   .exact .inr (.inr h)
  .rintro(h|h|h)
   .exact .inl (.inr h)
   .exact .inl (.inl h)
   .exact .inr h
def aFM {x:Int}{a b:List Int}:x∈aeZ a b↔x∈a\/x∈b:=by unfold aeZ;rw[Lo,Lo];simp
structure aQR (c:Int×Int) (view:Int) (dk:List Int) (k:Nat) (xs:List (List Int)):Prop where
 len:(xs.length:Int)=c.1
 srt:∀i,0<=i->i<c.1->Srt (aU xs i [])
 mem:∀i x,0<=i->i<c.1->x∈aU xs i []->x∈dk/\0<=x/\x<c.1
 up:∀x,x∈dk->0<=x->x<c.1->(k:Int)<=cc c view x->∃a:Int,0<=a/\a<max k 1/\x∈aU xs (XA c view a) []
abbrev bG:=Int×Int×cY×ByteArray
abbrev dd:=ByteArray×cY
abbrev cQ:=Int×Int×dd×cY×cY×Int×fE
abbrev kG:=Int×cQ
abbrev aC:=Int×Int×Int×bG×List fE×List cY×(List Int×Int)×List kG
abbrev mn:=Int×List Int
abbrev dI:=Int×ByteArray×Int
abbrev an:=(Int×Int)×List Int×List aC×List mn×List dI
def Uu {b:ByteArray}(h:b.size<=1048576):b.data.toList.length<=1073741824:=cR (Nat.le_of_eq (show b.data.toList.length=b.size from rfl)) (by omega)
def Jj {b:ByteArray}(h:b.size<=1048576):fL F0 b=some (bu b.data.toList,()):=Sc (Uu h)
def xD {b:ByteArray}(h:b.size<=1048576):fi F0 b=some (bu b.data.toList,()):=NU (Uu h)
def p4 {b:ByteArray}(h:b.size<=1048576):ep F0 b=some (aH b.data.toList,()):=aqb (Uu h)
def rW {b:ByteArray}(h:b.size<=1048576):fj F0 b=some (aH b.data.toList,()):=ajE (Uu h)
def u6 (q:cY):Prop:=q.2.1.size<=1048576/\q.2.2.length<=1048576
def fO (c:Int×Int)(q:cY):Bool:=Y9 c (q.1,q.2.1.data.toList,q.2.2)
def Sf {q:cY}(h:u6 q)(c:Int×Int):kN F0 c q=some (fO c q,()):=ay7 (v:=q.1) (l:=q.2.1.data.toList) (s:=q.2.2) (Uu h.1) (cR h.2 (by omega)) c
def QT {q:cY}(h:u6 q)(c:Int×Int):nr F0 c q=some (fO c q,()):=at5 (v:=q.1) (l:=q.2.1.data.toList) (s:=q.2.2) (Uu h.1) (cR h.2 (by omega)) c
def bM (c:Int×Int)(s:bG):Bool:=ix 0 60 s.1&&(ix 0 60 s.2.1&&(fO c s.2.2.1&&bu s.2.2.2.data.toList))
def nQ (s:bG):Prop:=u6 s.2.2.1/\s.2.2.2.size<=1048576
def CA {s:bG}(h:nQ s)(c:Int×Int):jS F0 c s=some (bM c s,()):=by rw[anR,dG,aj,dG,aj,Sf h.1,aj,Jj h.2,aj];unfold bM;cases ix 0 60 s.1<;>cases ix 0 60 s.2.1<;>cases fO c s.2.2.1<;>rfl
def Fp {s:bG}(h:nQ s)(c:Int×Int):lE F0 c s=some (bM c s,()):=by rw[apc,cm,aj,cm,aj,QT h.1,aj,xD h.2,aj];unfold bM;cases ix 0 60 s.1<;>cases ix 0 60 s.2.1<;>cases fO c s.2.2.1<;>rfl
def bm {U:Type}{a:List U}{k:Nat}(h:k<a.length)(d:U):a.getD k d=a[k]:=by simp[List.getD,h]
def XD {U:Type}(d:U)(p:U->Bool)(q:U->U->Bool)(l:List U):Bool:=(List.range l.length).all fun k=>p (l.getD k d)&&(decide (k=0) || q (l.getD (k-1) d) (l.getD k d))
def ae1 {V:Type}{k:Nat}(a b:Bool)(x y:V)(y':V)(hy:0<k->y'=br (!b) x y) :
  br (!a) x (br (decide ((k:Int)>0)) y' y)=if (a&&(decide (k=0) || b))=true then y else x:=by
 cases a with
 |false=>rfl
 |true =>
  rw[aO,aa,hY];by_cases h:k=0
  .subst h;rfl
  .rw[aN (show(k:Int)>0 by omega),af,aR h,Jq,hy (by omega)];cases b<;>rfl
def qS:fE:=(0,0,0,0)
def fV (a b:fE):Bool:=decide (a.1<b.1) || ((a.1==b.1)&&decide (a.2.2.2<b.2.2.2))
def ae2 (a b:fE):uH F0 a b=some (fV a b,()):=by rw[agj];unfold fV;cases decide (a.1<b.1)<;>cases (a.1==b.1)<;>rfl
def awS (a b:fE):DI F0 a b=some (fV a b,()):=by rw[ag0];unfold fV;cases decide (a.1<b.1)<;>cases (a.1==b.1)<;>rfl
def fS (p:List fE):Bool:=XD qS iP fV p&&decide ((p.length:Int)<=12)
def aqf {p:List fE}(h:p.length<=1048576):EI F0 p=some (fS p,()):=by
 rw[anS,mg (fun m k=>uI F0 (vi F0) m (pj p k)) p.length (fun k=>iP (p.getD k qS)&&(decide (k=0) || fV (p.getD (k-1) qS) (p.getD k qS))) (some (decide ((p.length:Int)<=12),())) (some (false,())) (fun m k hk=>?_) (fun m=>?_) _ (by rw[cl];omega)]
 .unfold fS XD;cases (List.range p.length).all _<;>rfl
 .rw[JQ,aX hk,af,av hk,ae,bF hk,QN,aj,bm hk,agk,ao (by omega),ae];refine ae1 _ (fV (p.getD (k-1) qS) p[k]) _ _ _ fun h0=>?_
  rw[Lm h0 (by omega),av (show k-1<p.length by omega),ae,bF (show k-1<p.length by omega),ae2,aj,bm (show k-1<p.length by omega)]
 .rw[JQ,aK,aa,adr]
def XE {p:List fE}(h:p.length<=1048576):x9 F0 p=some (fS p,()):=by
 rw[apd,mg (fun m k=>uQ F0 (wu F0) m (pA p p (p.length:Int) k)) p.length (fun k=>iP (p.getD k qS)&&(decide (k=0) || fV (p.getD (k-1) qS) (p.getD k qS))) (some (decide ((p.length:Int)<=12),())) (some (false,())) (fun m k hk=>?_) (fun m=>?_) _ (by rw[cl];omega)]
 .unfold fS XD;cases (List.range p.length).all _<;>rfl
 .rw[KB,aX hk,af,av hk,ae,bF hk,Cy,aj,bm hk,ag2,ao (by omega)];refine ae1 _ (fV (p.getD (k-1) qS) p[k]) _ _ _ fun h0=>?_
  rw[Lm h0 (by omega),av (show k-1<p.length by omega),ae,bF (show k-1<p.length by omega),awS,aj,bm (show k-1<p.length by omega)]
 .rw[KB,aK,aa,ad7]
def eh (b:ByteArray):Bool:=b.toList==al.toList
def ju (c:Int×Int)(p:cY):Bool :=
 bL c&&(ix 1 60 p.1&&(jA c.1 p.2.2&&(!((p.2.2.length:Int)==0)&&(eh p.2.1 || (bu p.2.1.data.toList&&(aH p.2.1.data.toList==p.1))))))
def Sg {p:cY}(h:u6 p)(c:Int×Int):lq F0 c p=some (ju c p,()):=by rw[anT,jt,aj,dG,aj,ahR (cR h.2 (by omega)),aj,Jj h.1,aj,p4 h.1,aj];unfold ju eh;cases bL c<;>cases ix 1 60 p.1<;>cases jA c.1 p.2.2<;>cases ((p.2.2.length:Int)==0)<;>cases (p.2.1.toList==al.toList)<;>cases bu p.2.1.data.toList<;>rfl
def aMz (n:Nat):decide ((n:Int)>0)= !((n:Int)==0):=by
 cases n with
 |zero=>rfl
 |succ n =>
  rw[aN (by omega),ct.2 (by omega)];rfl
def NV {p:cY}(h:u6 p)(c:Int×Int):rD F0 c p=some (ju c p,()):=by rw[ape,gF,aj,cm,aj,ab6 (cR h.2 (by omega)),aj,xD h.1,aj,rW h.1,aj,aMz];unfold ju eh;dsimp only;generalize (aH p.2.1.data.toList==p.1)=b;cases bL c<;>cases ix 1 60 p.1<;>cases jA c.1 p.2.2<;>cases ((p.2.2.length:Int)==0)<;>cases (p.2.1.toList==al.toList)<;>cases bu p.2.1.data.toList<;>cases b<;>rfl
def cM:cY:=(0,al,[])
def gw (a b:cY):Bool:=decide (a.1<b.1) || ((a.1==b.1)&&Op.bytesLess a.2.1.toList b.2.1.toList)
def aaR (a b:cY):re F0 a b=some (gw a b,()):=by rw[ads];unfold gw;cases decide (a.1<b.1)<;>cases (a.1==b.1)<;>rfl
def aKk (x y:Int):Int:=if x<y then -1 else if x>y then 1 else 0
def ajJ (x y:Int):wv F0 x y=some (aKk x y,()):=by
 rw[abL,P7,aj,P7,aj,amI,amI,aa,aa];unfold aKk;by_cases h:x<y
 .rw[aN h,af,ai h]
 .rw[aR h,aa,ah h];by_cases h2:x>y
  .rw[aN h2,af,ai h2]
  .rw[aR h2,aa,ah h2]
def aKl (x y:ByteArray):Int:=if Op.bytesLess x.toList y.toList=true then -1 else if (x.toList==y.toList)=true then 0 else 1
def ae3 (x y:ByteArray):oG F0 x y=some (aKl x y,()):=by rw[UL,GZ,aj,GZ,aj,atH,atH,aa,aa];unfold aKl;cases Op.bytesLess x.toList y.toList<;>cases (x.toList==y.toList)<;>rfl
def ahT (a b:cY):∃r,gq F0 a b=some (r,())/\decide (r>=0)= !gw a b:=by
 rw[E6,ajJ,aj,ae3,aj];unfold gw aKk aKl;dsimp only;by_cases h:a.1<b.1
 .rw[ai h,aN h];exact⟨-1,rfl,rfl⟩
 .rw[ah h,aR h,Jq];by_cases h2:a.1>b.1
  .rw[ai h2,ct.2 (show a.1≠b.1 by omega)];exact⟨1,rfl,rfl⟩
  .rw[ah h2,show a.1=b.1 by omega,Zc];refine⟨_,rfl,?_⟩;cases Op.bytesLess a.2.1.toList b.2.1.toList<;>cases (a.2.1.toList==b.2.1.toList)<;>rfl
def fH (c:Int×Int)(l:List cY):Bool:=XD cM (ju c) gw l&&decide ((l.length:Int)<=20)
def ajK {l:List cY}(h:l.length<=1048576)(hq:∀q∈l,u6 q)(c:Int×Int):ot F0 c l=some (fH c l,()):=by
 rw[akr,mg (fun m k=>rf F0 (sr F0) m (mJ l k c.1 c.2)) l.length (fun k=>ju c (l.getD k cM)&&(decide (k=0) || gw (l.getD (k-1) cM) (l.getD k cM))) (some (decide ((l.length:Int)<=20),())) (some (false,())) (fun m k hk=>?_) (fun m=>?_) _ (by rw[cl];omega)]
 .unfold fH XD;cases (List.range l.length).all _<;>rfl
 .rw[Gy,aX hk,af,av hk,ae,bF hk,show((c.1,c.2):Int×Int)=c from rfl,Sg (hq _ (cX hk)),aj,bm hk,adt,ao (by omega),ae];refine ae1 _ (gw (l.getD (k-1) cM) l[k]) _ _ _ fun h0=>?_
  rw[Lm h0 (by omega),av (show k-1<l.length by omega),ae,bF (show k-1<l.length by omega),aaR,aj,bm (show k-1<l.length by omega)]
 .rw[Gy,aK,aa,abp]
def ae4 {l:List cY}(h:l.length<=1048576)(hq:∀q∈l,u6 q)(c:Int×Int):lF F0 c l=some (fH c l,()):=by
 rw[alr,mg (fun m k=>rE F0 (s5 F0) m (ns l l (l.length:Int) k c.1 c.2)) l.length (fun k=>ju c (l.getD k cM)&&(decide (k=0) || gw (l.getD (k-1) cM) (l.getD k cM))) (some (decide ((l.length:Int)<=20),())) (some (false,())) (fun m k hk=>?_) (fun m=>?_) _ (by rw[cl];omega)]
 .unfold fH XD;cases (List.range l.length).all _<;>rfl
 .rw[G6,aX hk,af,av hk,ae,bF hk,show((c.1,c.2):Int×Int)=c from rfl,NV (hq _ (cX hk)),aj,bm hk,ad8,ao (by omega)];refine ae1 _ (gw (l.getD (k-1) cM) l[k]) _ _ _ fun h0=>?_
  rw[Lm h0 (by omega),av (show k-1<l.length by omega),ae,bF (show k-1<l.length by omega)];obtain⟨r,h1,h2⟩:=ahT l[k-1] l[k];rw[h1,aj,h2,bm (show k-1<l.length by omega)]
 .rw[G6,aK,aa,abN]
def gH (d:List Int×Int):Bool:=decide ((d.1.length:Int)<=100000)&&ix 0 d.1.length d.2
def Lp (d:List Int×Int):nZ F0 d=some (gH d,()):=by rw[anU,dG,aj];unfold gH;cases decide ((d.1.length:Int)<=100000)<;>rfl
def NW (d:List Int×Int):rF F0 d=some (gH d,()):=by rw[apf,cm,aj];unfold gH;cases decide ((d.1.length:Int)<=100000)<;>rfl
def aqg {a b:List Int}(ha:a.length<=1048576)(hb:b.length<=1048576):EJ F0 a b=some (decide (a=b),()):=by
 rw[anV,mg (fun m k=>C2 F0 (vk F0) m (vj a b k)) (min a.length b.length) (fun k=>a.getD k 0==b.getD k 0) (some ((a.length:Int)==(b.length:Int),())) (some (false,())) (fun m k hk=>?_) (fun m=>?_) _ (by rw[cl];omega)]
 .by_cases hab:a=b
  .rw[aN hab,ai (iU.2 fun k _=>by rw[hab];exact Zc (b.getD k 0)),hab,Zc]
  .rw[aR hab];by_cases hl:a.length=b.length
   .rw[ah];intro mr;refine hab (List.ext_getElem hl fun k h1 h2=>?_);have:=iU.1 mr k (kb.2 (by omega));simpa [List.getD,h1,h2]using this
   .rw[ct.2 (show(a.length:Int)≠(b.length:Int) by omega)];cases (List.range (min a.length b.length)).all _<;>rfl
 .rw[JR,aX (show k<a.length by omega),af,aX (show k<b.length by omega),af,av (show k<a.length by omega),ae,av (show k<b.length by omega),ae,mF,mF,agl,ao (by omega),aBW];by_cases h3:a.getD k 0=b.getD k 0
  .simp[h3]
  .simp[h3]
 .rw[JR,adu];rcases LO a.length b.length with h|h
  .rw[aiv (by omega),aK,aa]
  .rw[Nat.min_eq_right h,aK,aa];cases decide ((b.length:Int)<(a.length:Int))<;>rfl
def jv (a b:cY):Bool:=(a.1==b.1)&&((a.2.1.toList==b.2.1.toList)&&decide (a.2.2=b.2.2))
def ahU {a b:cY}(ha:u6 a)(hb:u6 b):xU F0 a b=some (jv a b,()):=by rw[anW,aqg ha.2 hb.2,aj];unfold jv;cases (a.1==b.1)<;>cases (a.2.1.toList==b.2.1.toList)<;>rfl
def Lq {a b:cY}(ha:u6 a):jV F0 a b=some (jv a b,()):=by rw[WA,ahS (cR ha.2 (by omega)),aj];unfold jv;cases (a.1==b.1)<;>cases (a.2.1.toList==b.2.1.toList)<;>rfl
def azg {a b:cY}(ha:u6 a)(hb:u6 b):HK F0 a b=some (jv a b,()):=by rw[akt,aqg ha.2 hb.2,aj];unfold jv;cases (a.1==b.1)<;>cases (a.2.1.toList==b.2.1.toList)<;>rfl
def awT {a b:cY}(ha:u6 a):DM F0 a b=some (jv a b,()):=by rw[ag4,ahS (cR ha.2 (by omega)),aj];unfold jv;cases (a.1==b.1)<;>cases (a.2.1.toList==b.2.1.toList)<;>rfl
def p5 (a b:dd):Bool:=(a.1.toList==b.1.toList)&&jv a.2 b.2
def asO {a b:dd}(ha:u6 a.2)(hb:u6 b.2):y3 F0 a b=some (p5 a b,()):=by rw[adv,ahU ha hb,aj];unfold p5;cases (a.1.toList==b.1.toList)<;>rfl
def aqh {a b:dd}(ha:u6 a.2):Ak F0 a b=some (p5 a b,()):=by rw[aea,Lq ha,aj];unfold p5;cases (a.1.toList==b.1.toList)<;>rfl
def ahV (a b:fE):Bool:=(a.1==b.1)&&((a.2.1==b.2.1)&&((a.2.2.1==b.2.2.1)&&((a.2.2.2==b.2.2.2)&&true)))
def tQ (a b:cQ):Bool:=(a.1==b.1)&&((a.2.1==b.2.1)&&(p5 a.2.2.1 b.2.2.1&&(jv a.2.2.2.1 b.2.2.2.1&&(jv a.2.2.2.2.1 b.2.2.2.2.1&&((a.2.2.2.2.2.1==b.2.2.2.2.2.1)&&ahV a.2.2.2.2.2.2 b.2.2.2.2.2.2)))))
def gI (m:cQ):Prop:=m.2.2.1.1.size<=1048576/\u6 m.2.2.1.2/\u6 m.2.2.2.1/\u6 m.2.2.2.2.1
def azh {a b:cQ}(ha:gI a)(hb:gI b):lr F0 a b=some (tQ a b,()):=by rw[akv,asO ha.2.1 hb.2.1,aj,azg ha.2.2.1 hb.2.2.1,aj,ahU ha.2.2.2 hb.2.2.2,aj];unfold tQ ahV;dsimp only;generalize ((a.2.2.2.2.2.2.1==b.2.2.2.2.2.2.1)&&((a.2.2.2.2.2.2.2.1==b.2.2.2.2.2.2.2.1)&&((a.2.2.2.2.2.2.2.2.1==b.2.2.2.2.2.2.2.2.1)&&((a.2.2.2.2.2.2.2.2.2==b.2.2.2.2.2.2.2.2.2)&&true))))=t;cases (a.1==b.1)<;>cases (a.2.1==b.2.1)<;>cases p5 a.2.2.1 b.2.2.1<;>cases jv a.2.2.2.1 b.2.2.2.1<;>cases jv a.2.2.2.2.1 b.2.2.2.2.1<;>cases (a.2.2.2.2.2.1==b.2.2.2.2.2.1)<;>rfl
def awU {a b:cQ}(ha:gI a):Io F0 a b=some (tQ a b,()):=by rw[als,aqh ha.2.1,aj,awT ha.2.2.1,aj,Lq ha.2.2.2,aj];unfold tQ ahV;dsimp only;generalize ((a.2.2.2.2.2.2.1==b.2.2.2.2.2.2.1)&&((a.2.2.2.2.2.2.2.1==b.2.2.2.2.2.2.2.1)&&((a.2.2.2.2.2.2.2.2.1==b.2.2.2.2.2.2.2.2.1)&&((a.2.2.2.2.2.2.2.2.2==b.2.2.2.2.2.2.2.2.2)&&true))))=t;cases (a.1==b.1)<;>cases (a.2.1==b.2.1)<;>cases p5 a.2.2.1 b.2.2.1<;>cases jv a.2.2.2.1 b.2.2.2.1<;>cases jv a.2.2.2.2.1 b.2.2.2.2.1<;>cases (a.2.2.2.2.2.1==b.2.2.2.2.2.1)<;>rfl
def NX (a b:cY):jv a b=jv b a:=by
 unfold jv;rw[uf (a:=a.1),uf (a:=a.2.1.toList)]
 congr 2
 by_cases h:a.2.2=b.2.2
 .rw[aN h,aN h.symm]
 .rw[aR h,aR fun h'=>h h'.symm]
def awV (a b:cQ):tQ a b=tQ b a:=by unfold tQ p5 ahV;rw[uf (a:=a.1),uf (a:=a.2.1),uf (a:=a.2.2.1.1.toList),NX a.2.2.1.2,NX a.2.2.2.1,NX a.2.2.2.2.1,uf (a:=a.2.2.2.2.2.1),uf (a:=a.2.2.2.2.2.2.1),uf (a:=a.2.2.2.2.2.2.2.1),uf (a:=a.2.2.2.2.2.2.2.2.1),uf (a:=a.2.2.2.2.2.2.2.2.2)]
def named (m:cQ):cQ :=
 if (m.1==1)=true then (m.1,0,m.2.2.1,cM,cM,0,qS)
 else if (m.1==2)=true then (m.1,0,(al,cM),m.2.2.2.1,cM,0,qS)
 else if (m.1==3)=true then (m.1,m.2.1,(al,cM),cM,m.2.2.2.2.1,m.2.2.2.2.2.1,qS)
 else if (m.1==4)=true then (m.1,0,(al,cM),cM,cM,0,m.2.2.2.2.2.2)
 else (m.1,0,(al,cM),cM,cM,0,qS)
def aFN (m:cQ):RS F0 m=some (named m,()):=by rw[ast];unfold named;cases (m.1==1)<;>cases (m.1==2)<;>cases (m.1==3)<;>cases (m.1==4)<;>rfl
def eA:u6 cM:=⟨aT _,aT _⟩
def aKm {m:cQ}(h:gI m):gI (named m):=by
 unfold named;split
 .exact⟨h.1,h.2.1,eA,eA⟩
 .split
  .exact⟨aT _,eA,h.2.2.1,eA⟩
  .split
   .exact⟨aT _,eA,eA,h.2.2.2⟩
   .split
    .exact⟨aT _,eA,eA,eA⟩
    .exact⟨aT _,eA,eA,eA⟩
def azi {m:cQ}(h:gI m):HL F0 m=some (tQ (named m) m,()):=by
 have hn:=azh (aKm h) h;rw[akx];unfold named cM qS at hn;unfold named cM qS;by_cases h1:(m.1==1)=true
 .rw[ai h1]at hn ⊢;rw[h1,af,hn,aj]
 .rw[ah h1]at hn ⊢;rw[Jp.2 h1,aa];by_cases h2:(m.1==2)=true
  .rw[ai h2]at hn ⊢;rw[h2,af,hn,aj]
  .rw[ah h2]at hn ⊢;rw[Jp.2 h2,aa];by_cases h3:(m.1==3)=true
   .rw[ai h3]at hn ⊢;rw[h3,af,hn,aj]
   .rw[ah h3]at hn ⊢;rw[Jp.2 h3,aa];by_cases h4:(m.1==4)=true
    .rw[ai h4]at hn ⊢;rw[h4,af,hn,aj]
    .rw[ah h4]at hn ⊢;rw[Jp.2 h4,aa,hn,aj]
def ic (l:List UInt8):Nat->Nat
 |0=>0|k+1=>if (((l.getD k 0).toNat:Int) != 47)=true then ic l k else k+1
def aqi (l:List UInt8):∀k,ic l k<=k
 |0=>bZ _|k+1=>by
  unfold ic;split
  .exact Nat.le_succ_of_le (aqi l k)
  .exact bZ _
def aIk {h n:Nat}(hn:h<=n):SJ 0 (h:Int) (n:Int)=true:=Yp (l:=0) (aT _) hn
def fQ (l:List UInt8):List UInt8:=if bu l=true then l.take (ic l l.length-1) else []
def aEu (l:List UInt8){γ:Type}(J:Ex->St->Option γ):∀(k n:Nat),k<=l.length->k<=1073741824->k<n->L9 F0 J n (C3 (tx l) (k:Int))=J (.exit 0) (y4 (tx l) (ic l k:Int))
 |0,n,hk,hm,hn=>by obtain⟨n,rfl⟩:∃m,n=m+1:=⟨n-1,by omega⟩;rw[Pk];rfl
 |k+1,n,hk,hm,hn=>by
  obtain⟨n,rfl⟩:∃m,n=m+1:=⟨n-1,by omega⟩;rw[Pk,aN (show((k+1:Nat):Int)>0 by omega),af,Lm (by omega) (by omega),show k+1-1=k from rfl,bT,av (by omega),ae,Ym];unfold ic;by_cases h:(((l.getD k 0).toNat:Int) != 47)=true
  .rw[h,af,ai rfl,aEu l J k n (by omega) (by omega) (by omega)]
  .rw[Jp.2 h,aa,ah (by decide)]
def aIl {l:List UInt8}(h:l.length<=1048576):mK F0 (tx l)=some (tx (fQ l),()):=by
 rw[av0,Sc (by omega),aj];unfold fQ;dsimp only;cases bu l with
 |false=>rfl
 |true =>
  have hk:=aqi l l.length;rw[aO,aa,bT,aEu l _ l.length _ (bZ _) (by omega) (by rw[cl];omega),akz,ai rfl,ZF];have hmax:br (decide (ak ((ic l l.length:Int)-1)>0)) (some (ak ((ic l l.length:Int)-1),())) (some ((0:Int),()))=some (((ic l l.length-1:Nat):Int),()):=by
   rw[aJ (by omega) (by omega)];by_cases h0:(ic l l.length:Int)-1>0
   .rw[aN h0,af,show(ic l l.length:Int)-1=((ic l l.length-1:Nat):Int) by omega]
   .rw[aR h0,aa,show ic l l.length-1=0 by omega];rfl
  rw[hmax,aj];dsimp only;rw[bT,aIk (by omega),ae,jw,show(0:Int).toNat=0 from rfl,NT,acN,U1]
def aua (l:List UInt8):∀(k n:Nat),k<=l.length->k<=1073741824->k<n->fm F0 (gG F0) n (eH (tx l) 47 ((k:Int)-1))=some ((ic l k:Int)-1,())
 |0,n,hk,hm,hn=>by obtain⟨n,rfl⟩:∃m,n=m+1:=⟨n-1,by omega⟩;rw[kr];rfl
 |k+1,n,hk,hm,hn=>by
  obtain⟨n,rfl⟩:∃m,n=m+1:=⟨n-1,by omega⟩;rw[show((k+1:Nat):Int)-1=(k:Int) by omega,kr,aN (show(k:Int)>=0 by omega),af,bT,av (by omega),ae,Ym,aJ (by omega) (by omega),An];unfold ic;by_cases h:((l.getD k 0).toNat:Int)=47
  .rw[h,show((47:Int)==47)=true from rfl,af,show((47:Int) != 47)=false from rfl,ah (by decide),show((k+1:Nat):Int)-1=(k:Int) by omega]
  .rw[ct.2 h,aa,Ew.2 h,ai rfl,aua l k n (by omega) (by omega) (by omega)]
def aB1 {c x:UInt8}{l:List UInt8}{ps:List (List UInt8)}(h:parts c (x::l)=[]::ps):x=c:=by
 unfold parts at h;split at h
 .assumption
 .split at h
  .cases (uE h).1
  .cases (uE h).1
def aqj {l:List UInt8}(h:bu l=true)(h0:l≠[]):∃t,l=47::t:=by
 cases l with
 |nil=>exact absurd rfl h0
 |cons x t =>
  refine⟨t,?_⟩;unfold bu bj at h;rw[ah h0]at h;cases hp:parts 47 (x::t) with
  |nil=>exact absurd hp (Fo _ _)
  |cons p0 ps =>
   rw[hp]at h;dsimp only at h;split at h
   .cases h
   .rename_i h1;have hp0:p0=[]:=axP fun hne=>h1 (.inl hne)
    subst hp0;rw[aB1 hp]
def ahW {t:List UInt8}:∀k,0<k->0<ic (47::t) k
 |0,h=>absurd h (U0 _)|1,_=>by unfold ic;rw[show((((47::t).getD 0 0:UInt8).toNat:Int) != 47)=false from rfl,ah (by decide)];exact afR _
 |k+2,_=>by
  unfold ic;split
  .exact ahW (k+1) (afR _)
  .exact afR _
def aFO {l:List UInt8}(h:l.length<=1048576):s6 F0 (tx l)=some (tx (fQ l),()):=by
 rw[awj,NU (by omega),aj,awN,Ut];unfold fQ;dsimp only;cases hn:bu l with
 |false=>rfl
 |true =>
  rw[aO,aa,ai rfl];by_cases h0:l=[]
  .subst h0;rfl
  .have hk:=aqi l l.length;have hp:0<ic l l.length:=by obtain⟨t,rfl⟩:=aqj hn h0;exact ahW _ (afR _)
   rw[aR h0,aa,Oy,Ci,bT,aJ (by omega) (by omega),aua l l.length _ (bZ _) (by omega) (by rw[cl];omega),aj,aj];dsimp only;rw[show(ic l l.length:Int)-1=((ic l l.length-1:Nat):Int) by omega,aIk (by omega),ae,jw,show(0:Int).toNat=0 from rfl,NT,acN,U1]
def ae5 {b:ByteArray}(h:b.size<=1048576):mK F0 b=some (tx (fQ b.data.toList),()):=aIl (l:=b.data.toList) h
def ae6 {b:ByteArray}(h:b.size<=1048576):s6 F0 b=some (tx (fQ b.data.toList),()):=aFO (l:=b.data.toList) h
def gx (c:Int×Int)(b:dd):Bool:=fO c b.2&&(bu b.1.data.toList&&(!eh b.1&&((tx (fQ b.1.data.toList)).toList==b.2.2.1.toList)))
def NY {b:dd}(h1:b.1.size<=1048576)(h2:u6 b.2)(c:Int×Int):ou F0 c b=some (gx c b,()):=by rw[akA,Sf h2,aj,Jj h1,aj,ae5 h1,aj];unfold gx eh;cases fO c b.2<;>cases bu b.1.data.toList<;>cases (b.1.toList==al.toList)<;>rfl
def IT {b:dd}(h1:b.1.size<=1048576)(h2:u6 b.2)(c:Int×Int):oH F0 c b=some (gx c b,()):=by rw[alv,QT h2,aj,xD h1,aj,ae6 h1,aj];unfold gx eh;cases fO c b.2<;>cases bu b.1.data.toList<;>cases (b.1.toList==al.toList)<;>rfl
def dR (c:Int×Int)(m:cQ):Bool:=bL c&&(tQ (named m) m&&(if (m.1==1)=true then gx c m.2.2.1 else if (m.1==2)=true then ju c m.2.2.2.1&& !eh m.2.2.2.1.2.1
 else if (m.1==3)=true then ix 1 60 m.2.1&&(fO c m.2.2.2.2.1&&ix 0 (ak (c.1-1)) m.2.2.2.2.2.1) else (m.1==4)&&iP m.2.2.2.2.2.2))
def Jk {m:cQ}(h:gI m)(c:Int×Int):gd F0 c m=some (dR c m,()):=by rw[ar5,jt,aj,azi h,aj,NY h.1 h.2.1,aj,Sg h.2.2.1,aj,dG,aj,Sf h.2.2.2,aj,dG,aj,QN,aj];unfold dR eh;dsimp only;cases bL c<;>cases tQ (named m) m<;>cases (m.1==1)<;>cases (m.1==2)<;>cases (m.1==3)<;>cases (m.1==4)<;>cases ju c m.2.2.2.1<;>cases ix 1 60 m.2.1<;>cases fO c m.2.2.2.2.1<;>rfl
def Lr {m:cQ}(h:gI m)(c:Int×Int):gV F0 c m=some (dR c m,()):=by rw[asv,gF,aj,aFN,aj,awU h,aj,IT h.1 h.2.1,aj,NV h.2.2.1,aj,cm,aj,QT h.2.2.2,aj,cm,aj,Cy,aj,awV];unfold dR eh;dsimp only;cases bL c<;>cases tQ (named m) m<;>cases (m.1==1)<;>cases (m.1==2)<;>cases (m.1==3)<;>cases (m.1==4)<;>cases ju c m.2.2.2.1<;>cases ix 1 60 m.2.1<;>cases fO c m.2.2.2.2.1<;>rfl
def Ls (c:Int×Int)(r:Int)(p:kG):Bool:=dR c p.2&&(ix 0 (ak (c.1-1)) p.1&& !(p.1==r))
def qP (c:Int×Int)(r:aC):Bool :=
 bL c&&(ix 0 (ak (c.1-1)) r.1&&(ix 1 60 r.2.1&&(ix 0 60 r.2.2.1&&(bM c r.2.2.2.1&&(fS r.2.2.2.2.1&&(fH c r.2.2.2.2.2.1&&(gH r.2.2.2.2.2.2.1&&(!decide ((r.2.2.2.2.2.2.2.length:Int)>30)&&r.2.2.2.2.2.2.2.all (Ls c r.1)))))))))
structure asP (r:aC):Prop where
 s:nQ r.2.2.2.1
 p:r.2.2.2.2.1.length<=1048576
 t:r.2.2.2.2.2.1.length<=1048576
 tq:∀q∈r.2.2.2.2.2.1,u6 q
 h:r.2.2.2.2.2.2.2.length<=1048576
 hm:∀q∈r.2.2.2.2.2.2.2,gI q.2
def awW:kG:=(0,0,0,(al,cM),cM,cM,0,qS)
def QU (b:Bool):(if b=true then some (true,()) else some (false,()))=some (b,()):=by cases b<;>rfl
def jc {r:aC}(h:asP r)(c:Int×Int):ez F0 c r=some (qP c r,()):=by
 have hh:=h.h;rw[ar6,jt,aj,dG,aj,dG,aj,dG,aj,CA h.s,aj,aqf h.p,aj,ajK h.t h.tq,aj,Lp,aj,
  mg (fun m k=>HQ F0 (y7 F0) m (y5 k c.1 c.2 r.1 r.2.1 r.2.2.1 r.2.2.2.1.1 r.2.2.2.1.2.1 r.2.2.2.1.2.2.1.1 r.2.2.2.1.2.2.1.2.1 r.2.2.2.1.2.2.1.2.2 r.2.2.2.1.2.2.2 r.2.2.2.2.1 r.2.2.2.2.2.1 r.2.2.2.2.2.2.1.1 r.2.2.2.2.2.2.1.2 r.2.2.2.2.2.2.2)) r.2.2.2.2.2.2.2.length
   (fun k=>Ls c r.1 (r.2.2.2.2.2.2.2.getD k awW)) (some (true,())) (some (false,())) (fun m k hk=>?_) (fun m=>?_) _ (by rw[cl];omega),Ll,QU]
 .unfold qP;cases bL c<;>cases ix 0 (ak (c.1-1)) r.1<;>cases ix 1 60 r.2.1<;>cases ix 0 60 r.2.2.1<;>cases bM c r.2.2.2.1<;>cases fS r.2.2.2.2.1<;>cases fH c r.2.2.2.2.2.1<;>cases gH r.2.2.2.2.2.2.1<;>cases decide ((r.2.2.2.2.2.2.2.length:Int)>30)<;>rfl
 .rw[Ma,aX hk,af,av hk,ae,bF hk,show((c.1,c.2):Int×Int)=c from rfl,Jk (h.hm _ (cX hk)),aj,ae,dG,aj,ae,bm hk,akB,ao (by omega)];unfold Ls;cases dR c (r.2.2.2.2.2.2.2[k]).2<;>cases ix 0 (ak (c.1-1)) (r.2.2.2.2.2.2.2[k]).1<;>cases ((r.2.2.2.2.2.2.2[k]).1==r.1)<;>rfl
 .rw[Ma,aK,aa,agm]
def fe {r:aC}(h:asP r)(c:Int×Int):db F0 c r=some (qP c r,()):=by
 have hh:=h.h;rw[asw,gF,aj,cm,aj,cm,aj,cm,aj,Fp h.s,aj,XE h.p,aj,ae4 h.t h.tq,aj,NW,aj,
  mg (fun m k=>Ir F0 (Aq F0) m (Ao r.2.2.2.2.2.2.2 (r.2.2.2.2.2.2.2.length:Int) k c.1 c.2 r.1 r.2.1 r.2.2.1 r.2.2.2.1.1 r.2.2.2.1.2.1 r.2.2.2.1.2.2.1.1 r.2.2.2.1.2.2.1.2.1 r.2.2.2.1.2.2.1.2.2 r.2.2.2.1.2.2.2 r.2.2.2.2.1 r.2.2.2.2.2.1 r.2.2.2.2.2.2.1.1 r.2.2.2.2.2.2.1.2 r.2.2.2.2.2.2.2)) r.2.2.2.2.2.2.2.length
   (fun k=>Ls c r.1 (r.2.2.2.2.2.2.2.getD k awW)) (some (true,())) (some (false,())) (fun m k hk=>?_) (fun m=>?_) _ (by rw[cl];omega),Ll,QU]
 .unfold qP;cases bL c<;>cases ix 0 (ak (c.1-1)) r.1<;>cases ix 1 60 r.2.1<;>cases ix 0 60 r.2.2.1<;>cases bM c r.2.2.2.1<;>cases fS r.2.2.2.2.1<;>cases fH c r.2.2.2.2.2.1<;>cases gH r.2.2.2.2.2.2.1<;>cases decide ((r.2.2.2.2.2.2.2.length:Int)>30)<;>rfl
 .rw[M5,aX hk,af,av hk,ae,bF hk,show((c.1,c.2):Int×Int)=c from rfl,Lr (h.hm _ (cX hk)),aj,cm,aj,bm hk,alw,ao (by omega)];unfold Ls;cases dR c (r.2.2.2.2.2.2.2[k]).2<;>cases ix 0 (ak (c.1-1)) (r.2.2.2.2.2.2.2[k]).1<;>cases ((r.2.2.2.2.2.2.2[k]).1==r.1)<;>rfl
 .rw[M5,aK,aa,ag6]
def ae7 {lo hi x:Int}:ix lo hi x=decide (lo<=x/\x<=hi):=by unfold ix;by_cases h1:lo<=x<;>by_cases h2:x<=hi<;>simp[h1,h2]
def QV:Nat->List Int->Nat->Int->Option (Int×Nat)
 |0,_,_,_=>none|_+1,[],_,_=>none|j+1,x::xs,k,n=>if x<128 then (if (k≠0/\x=0)\/n+x*128 ^ k>2147483647 then none else some (n+x*128 ^ k,k+1)) else QV j xs (k+1) (n+x%128*128 ^ k)
def aKn (a:Nat):Option (Int×Nat)->Int×Int×Bool×Unit
 |some (v,c)=>(v,((a+c:Nat):Int),true,())|none=>(0,0,false,())
def aIm {k:Nat}(h:k<=4):(2:Int) ^ (min (ak (7*(k:Int))).toNat 64)=128 ^ k:=by
 have:k=0\/k=1\/k=2\/k=3\/k=4:=by omega
 rcases this with rfl|rfl|rfl|rfl|rfl<;>rfl
def Sh {k:Nat}(h:k<=4):(1:Int)<=128 ^ k/\(128:Int) ^ k<=268435456:=by
 have:k=0\/k=1\/k=2\/k=3\/k=4:=by omega
 rcases this with rfl|rfl|rfl|rfl|rfl<;>decide
def aqk {d P:Int}(h0:0<=d)(h1:d<=127)(hP:1<=P):0<=d*P/\d*P<=127*P:=⟨Int.mul_nonneg h0 (by omega),Int.mul_le_mul_of_nonneg_right h1 (by omega)⟩
def aMA {i n:Nat}(d:Nat)(h:n<2 ^ i):n ||| d*2 ^ i=n+d*2 ^ i:=by rw[Nat.or_comm,<-Nat.shiftLeft_eq,<-Nat.shiftLeft_add_eq_or_of_lt h,Nat.add_comm]
def aMB {k:Nat}(hk:k<=4){n d:Int}(h0:0<=n)(h1:n<128 ^ k)(h2:0<=d)(h3:d<=127):((BitVec.ofInt 64 n ||| BitVec.ofInt 64 (d*128 ^ k)).toNat:Int)=n+d*128 ^ k:=by
 obtain⟨m,rfl⟩:=Int.eq_ofNat_of_zero_le h0;obtain⟨e,rfl⟩:=Int.eq_ofNat_of_zero_le h2;have hp:(128:Int) ^ k=((2 ^ (7*k):Nat):Int):=by rw[Nat.pow_mul];exact(Int.natCast_pow 128 k).symm
 have hb:=Sh hk;rw[hp]at h1 hb ⊢;have h1':m<2 ^ (7*k):=by omega
 have hm:e*2 ^ (7*k)<=127*2 ^ (7*k):=Gs _ (by omega);have hb2:2 ^ (7*k)<=268435456:=by omega
 rw[show(e:Int)*((2 ^ (7*k):Nat):Int)=((e*2 ^ (7*k):Nat):Int) from(Int.natCast_mul _ _).symm,BitVec.ofInt_natCast,BitVec.ofInt_natCast,BitVec.toNat_or,BitVec.toNat_ofNat,BitVec.toNat_ofNat,auV (by omega),auV (by omega),aMA e h1'];omega
def eQ (b:List Int):Prop:=b.length<=1048576/\∀x∈b,0<=x/\x<=255
def azj {b:List Int}(hb:eQ b)(a:Nat)(ha:a<=b.length):∀(j k:Nat),j+k=5->∀(n1:Int) (m:Nat),0<=n1->n1<128 ^ k->j<m ->
  C5 F0 (vo F0) m (vn b (a:Int) n1 (k:Int))=some (aKn a (QV j (b.drop (a+k)) k n1))
 |0,k,hjk,n1,m,h0,h1,hm=>by obtain⟨m,rfl⟩:∃q,m=q+1:=⟨m-1,by omega⟩;rw[JU,aR (by omega),aa,adz];rfl
 |j+1,k,hjk,n1,m,h0,h1,hm=>by
  obtain⟨m,rfl⟩:∃q,m=q+1:=⟨m-1,by omega⟩;have hl:=hb.1;rw[JU,aN (by omega),af,aR (show ¬(a:Int)<0 by omega),aa,aJ (n:=(b.length:Int)-k) (by omega) (by omega)];rcases LO (a+k) b.length with hlt|hge
  .have hx:=hb.2 b[a+k] (cX hlt);have hp:=Sh (k:=k) (by omega);rw[aR (show ¬(a:Int)>=(b.length:Int)-k by omega),aa,show ak ((a:Int)+(k:Int))=((a+k:Nat):Int) by rw[aJ (by omega) (by omega)];omega,av hlt,ae,
    aN (show 0<=ak (7*(k:Int)) by rw[aJ (by omega) (by omega)];omega),ae,bF hlt,aIm (by omega),UT hlt]
   generalize b[a+k]=x at hx ⊢;rw[aJ (n:=x) (by omega) (by omega),amA (by omega),BQ,BQ];have hd:=aqk (d:=x%128) (P:=128 ^ k) (by omega) (by omega) hp.1;rw[aJ (n:=x%128*128 ^ k) (by omega) (by omega),aMB (by omega) h0 h1 (by omega) (by omega),aJ (n:=n1+x%128*128 ^ k) (by omega) (by omega)];unfold QV;by_cases ae8:x<128
   .have e:x%128=x:=Int.emod_eq_of_lt hx.1 ae8;rw[e]at hd ⊢;rw[aN ae8,af,ai ae8,aJ (n:=((a+k:Nat):Int)+1) (by omega) (by omega)];by_cases hk0:k=0
    .subst hk0;rw[show decide (((0:Nat):Int)>0)=false from rfl,aa];by_cases hv:n1+x*128 ^ 0>2147483647
     .rw[aN hv,af,ai (.inr hv)];rfl
     .rw[aR hv,aa,ah (fun h=>h.elim (fun h=>h.1 rfl) hv)];rfl
    .rw[aN (show(k:Int)>0 by omega),af];by_cases hx0:x=0
     .rw[show(x==0)=true from bC.2 hx0,af,ai (.inl ⟨hk0,hx0⟩)];rfl
     .rw[ct.2 hx0,aa];by_cases hv:n1+x*128 ^ k>2147483647
      .rw[aN hv,af,ai (.inr hv)];rfl
      .rw[aR hv,aa,ah (fun h=>h.elim (fun h=>hx0 h.2) hv)];rfl
   .rw[aR ae8,aa,ah ae8,ao (by omega)];have hn:n1+x%128*128 ^ k<128 ^ (k+1):=by rw[SF];omega
    exact azj hb a ha j (k+1) (by omega) _ m (by omega) hn (by omega)
  .rw[aN (show(a:Int)>=(b.length:Int)-k by omega),af,BQ,auP hge];rfl
def aB2 {b:List Int}(hb:eQ b){a:Nat}(ha:a<=b.length):lv F0 b (a:Int)=some (aKn a (QV 5 (b.drop a) 0 0)):=by rw[an1];exact azj hb a ha 5 0 rfl 0 _ (by omega) (by decide) (by rw[cl];omega)
def ae9:∀(k:Nat) (v:Int) (xs:List Int) (n:Nat),0<=v->v<128 ^ (k+1)->xs.length+k<=1000->k<n->k<=4 ->
  ∃ys,uS F0 (wy F0) n (pD v xs)=some (xs++ys,())/\ys.length<=k+1/\(128 ^ k<=v->ys.length=k+1)/\1<=ys.length
 |0,v,xs,n,h0,h1,hx,hn,hk=>by obtain⟨n,rfl⟩:∃m,n=m+1:=⟨n-1,by omega⟩;rw[oI,aR (show ¬v>=128 by have:(128:Int) ^ (0+1)=128:=rfl;omega),aa,qC,az (by omega) (by omega) (by rw[dM];omega),ae];exact⟨_,rfl,bZ _,fun _=>rfl,bZ _⟩
 |k+1,v,xs,n,h0,h1,hx,hn,hk=>by
  obtain⟨n,rfl⟩:∃m,n=m+1:=⟨n-1,by omega⟩;have hp:=Sh (k:=k) (by omega);have e1:(128:Int) ^ (k+1)=128 ^ k*128:=SF _ _;have e2:(128:Int) ^ (k+1+1)=128 ^ (k+1)*128:=SF _ _;rw[oI];by_cases hv:v>=128
  .rw[aN hv,af,az (by omega) (by omega) (by rw[dM];omega),ae,amB h0,aJ (n:=v/128) (by omega) (by omega)];obtain⟨ys,h2,h3,h4,h5⟩:=ae9 k (v/128) (xs++[IntKind.wrap .u8 (ak (Int.tmod v 128+128))]) n (by omega) (by omega) (by rw[aL,dM];omega) (by omega) (by omega);refine⟨IntKind.wrap .u8 (ak (Int.tmod v 128+128))::ys,h2.trans (by rw[iT];rfl),by rw[aZ];omega,fun h=>?_,by rw[aZ];omega⟩;rw[aZ,h4 (by omega)]
  .rw[aR hv,aa,qC,az (by omega) (by omega) (by rw[dM];omega),ae];exact⟨_,rfl,by rw[dM];omega,fun h=>by omega,bZ _⟩
def aB3 (v:Int):∃ys,fM F0 v=some (ys,())/\∀(k:Nat) (n1 x:Int),k<=4->0<=n1->n1<128 ^ k->0<=x->x<128->v=n1+x*128 ^ k ->
  ((ys.length:Int) != ((k+1:Nat):Int))=decide ((k≠0/\x=0)\/v>2147483647):=by
 rw[WN,cm,aj,ae7];by_cases hv:0<=v/\v<=2147483647
 .rw[aN hv,aO,aa];have h5:(128:Int) ^ (4+1)=34359738368:=by decide
  obtain⟨ys0,h2,_,_,_⟩:=ae9 4 v [] F0.n hv.1 (by omega) (by simp) (by rw[cl];omega) (by omega);refine⟨ys0,h2,fun k n1 x hk g0 g1 g2 g3 hvk=>?_⟩;have hp:=Sh hk;have e1:(128:Int) ^ (k+1)=128 ^ k*128:=SF _ _;have hm:=aqk (d:=x) (P:=128 ^ k) g2 (by omega) hp.1;obtain⟨ys,h3,h4,h5,h6⟩:=ae9 k v [] F0.n hv.1 (by omega) (by simp;omega) (by rw[cl];omega) hk;rw[h2]at h3;have hys:ys0=ys:=by simpa using h3
  subst hys;by_cases hx:k≠0/\x=0
  .rw[aN (.inl hx),Ew];obtain⟨hk0,hx0⟩:=hx;subst hx0;obtain⟨k,rfl⟩:∃q,k=q+1:=⟨k-1,by omega⟩;obtain⟨ys',h3',h4',_,_⟩:=ae9 k v [] F0.n hv.1 (by omega) (by simp;omega) (by rw[cl];omega) (by omega);rw[h2]at h3';have aQS:ys0=ys':=by simpa using h3'
   subst aQS;omega
  .rw[aR (fun h=>h.elim hx (by omega)),SC];by_cases hk0:k=0
   .subst hk0;omega
   .have hx1:1<=x:=by
     have:x≠0:=fun h=>hx ⟨hk0,h⟩
     omega
    have:=Int.mul_le_mul_of_nonneg_right hx1 (show(0:Int)<=128 ^ k by omega);rw[h5 (by omega)]
 .rw[aR hv,ff,af];refine⟨[],rfl,fun k n1 x hk g0 g1 g2 g3 hvk=>?_⟩;have hp:=Sh hk;have hm:=aqk (d:=x) (P:=128 ^ k) g2 (by omega) hp.1;rw[aN (.inr (by omega)),Ew];simp only[bE];omega
def azk {b:List Int}(hb:eQ b)(a:Nat)(ha:a<=b.length):∀(j k:Nat),j+k=5->∀(n1:Int) (m:Nat),0<=n1->n1<128 ^ k->j<m ->
  DS F0 (wA F0) m (wz b (a:Int) n1 (k:Int))=some (aKn a (QV j (b.drop (a+k)) k n1))
 |0,k,hjk,n1,m,h0,h1,hm=>by obtain⟨m,rfl⟩:∃q,m=q+1:=⟨m-1,by omega⟩;rw[KD,aR (by omega),aa,M7];rfl
 |j+1,k,hjk,n1,m,h0,h1,hm=>by
  obtain⟨m,rfl⟩:∃q,m=q+1:=⟨m-1,by omega⟩;have hl:=hb.1;rw[KD,aN (by omega),af,show ak ((a:Int)+(k:Int))=((a+k:Nat):Int) by rw[aJ (by omega) (by omega)];omega];rcases LO (a+k) b.length with hlt|hge
  .have hx:=hb.2 b[a+k] (cX hlt);have hp:=Sh (k:=k) (by omega);rw[aX hlt,af,av hlt,ae,
    aN (show 0<=ak (7*(k:Int)) by rw[aJ (by omega) (by omega)];omega),ae,bF hlt,aIm (by omega),UT hlt]
   generalize b[a+k]=x at hx ⊢;rw[aJ (n:=x) (by omega) (by omega),amA (by omega),Qb,Qb];have hd:=aqk (d:=x%128) (P:=128 ^ k) (by omega) (by omega) hp.1;rw[aJ (n:=x%128*128 ^ k) (by omega) (by omega),aJ (n:=n1+x%128*128 ^ k) (by omega) (by omega),ao (show k+1<=9223372036854775807 by omega)];unfold QV;by_cases ae8:x<128
   .have e:x%128=x:=Int.emod_eq_of_lt hx.1 ae8;rw[e]at hd ⊢;rw[aN ae8,af,ai ae8,aJ (n:=((a+k:Nat):Int)+1) (by omega) (by omega)];obtain⟨ys,h2,h3⟩:=aB3 (n1+x*128 ^ k);rw[h2,aj];dsimp only;rw[h3 k n1 x (by omega) h0 h1 hx.1 ae8 rfl];by_cases hc:(k≠0/\x=0)\/n1+x*128 ^ k>2147483647
    .rw[aN hc,af,ai hc];rfl
    .rw[aR hc,aa,ah hc];rfl
   .rw[aR ae8,aa,ah ae8];have hn:n1+x%128*128 ^ k<128 ^ (k+1):=by rw[SF];omega
    exact azk hb a ha j (k+1) (by omega) _ m (by omega) hn (by omega)
  .rw[aR (show ¬((a+k:Nat):Int)<(b.length:Int) by omega),aa,M7,auP hge];rfl
def azl {b:List Int}(hb:eQ b){a:Nat}(ha:a<=b.length):yb F0 b (a:Int)=some (aKn a (QV 5 (b.drop a) 0 0)):=by
 have hl:=hb.1;rw[api,cm,aj,ae7,aJ (by omega) (by omega)];rcases LO a b.length with hlt|hge
 .rw[aN (by omega),aO,aa];exact azk hb a ha 5 0 rfl 0 _ (by omega) (by decide) (by rw[cl];omega)
 .rw[aR (by omega),ff,af,auP hge];rfl
def aEv:∀(j:Nat) (l:List Int) (k:Nat) (n:Int) (v:Int) (c:Nat),QV j l k n=some (v,c)->v<=2147483647/\k<c/\c<=k+l.length
 |0,_,_,_,_,_,h=>by cases h
 |_+1,[],_,_,_,_,h=>by cases h
 |j+1,x::l,k,n,v,c,h=>by
  unfold QV at h;split at h
  .split at h
   .cases h
   .rename_i hc;cases h;exact⟨Int.not_lt.1 fun hh=>hc (.inr hh),Nat.lt_succ_self _,by rw[aZ];omega⟩
  .have:=aEv j l (k+1) _ v c h;rw[aZ];exact⟨this.1,by omega,by omega⟩
def azm:∀(j:Nat) (l:List Int) (k:Nat) (n:Int) (v:Int) (c:Nat),(∀x∈l,0<=x)->0<=n->QV j l k n=some (v,c)->0<=v
 |0,_,_,_,_,_,_,_,h=>by cases h
 |_+1,[],_,_,_,_,_,_,h=>by cases h
 |j+1,x::l,k,n,v,c,hl,hn,h=>by
  have hx:=hl x qU;have hp:(0:Int)<=128 ^ k:=Int.pow_nonneg (by omega);unfold QV at h;split at h
  .split at h
   .cases h
   .cases h;have:=Int.mul_nonneg hx hp;omega
  .have h0:=Int.mul_nonneg (aiw x (show(128:Int)≠0 by decide)) hp;exact azm j l (k+1) _ v c (fun y hy=>hl y (ka _ hy)) (by omega) h
abbrev QW:=Nat×Bool
abbrev cell (b:List Int)(s:QW):List Int×Int×Bool:=(b,(s.1:Int),s.2)
abbrev XF (b:List Int)(s:QW):List Int×Int×Bool:=(b,(s.1:Int),!s.2)
def rX (b:List Int)(a:Nat):Option (Int×Nat):=match QV 5 (b.drop a) 0 0 with
 |some (v,c)=>some (v,a+c)|none=>none
def ab8:Option (Int×Nat)->Int×Int×Bool×Unit
 |some (v,a)=>(v,(a:Int),true,())|none=>(0,0,false,())
def afa {b:List Int}(hb:eQ b){a:Nat}(ha:a<=b.length):lv F0 b (a:Int)=some (ab8 (rX b a)):=by rw[aB2 hb ha];unfold rX;cases QV 5 (b.drop a) 0 0<;>rfl
def aub {b:List Int}(hb:eQ b){a:Nat}(ha:a<=b.length):yb F0 b (a:Int)=some (ab8 (rX b a)):=by rw[azl hb ha];unfold rX;cases QV 5 (b.drop a) 0 0<;>rfl
def Ys {b:List Int}(hb:eQ b){a:Nat}(ha:a<=b.length){v:Int}{a':Nat}(h:rX b a=some (v,a')):0<=v/\v<=2147483647/\a<a'/\a'<=b.length:=by
 unfold rX at h;split at h
 .rename_i v' c he;cases h;have h1:=aEv _ _ _ _ _ _ he;have h2:=azm _ _ _ _ _ _ (fun x hx=>(hb.2 x (auS hx)).1) (UY 0) he;rw[bB]at h1;exact⟨h2,h1.1,by omega,by omega⟩
 .cases h
def aV (b:List Int)(s:QW):Int×QW:=match rX b s.1 with
 |some (v,a)=>if s.2=true then (v,a,true) else (0,s.1,false)|none=>(0,s.1,false)
def tR {b:List Int}(hb:eQ b){s:QW}(hs:s.1<=b.length):dw F0 (cell b s)=some (((aV b s).1,()),cell b (aV b s).2,()):=by
 obtain⟨a,ok⟩:=s;rw[an2,afa hb hs,aj];unfold aV ab8;dsimp only;cases rX b a with
 |none=>rfl|some r=>cases ok<;>rfl
def nR {b:List Int}(hb:eQ b){s:QW}(hs:s.1<=b.length):bX F0 (XF b s)=some (((aV b s).1,()),XF b (aV b s).2,()):=by
 obtain⟨a,ok⟩:=s;rw[abO,aub hb hs,aj];unfold aV ab8;dsimp only;cases rX b a with
 |none=>cases ok<;>rfl|some r=>cases ok<;>rfl
def eR {b:List Int}(hb:eQ b){s:QW}(hs:s.1<=b.length):(aV b s).2.1<=b.length/\((aV b s).2.2=true->s.1<(aV b s).2.1)/\0<=(aV b s).1/\(aV b s).1<=2147483647:=by
 unfold aV;split
 .rename_i v a h;have:=Ys hb hs h;split
  .exact⟨this.2.2.2,fun _=>this.2.2.1,this.1,this.2.1⟩
  .exact⟨hs,(fun h=>by cases h),UY _,by omega⟩
 .exact⟨hs,(fun h=>by cases h),UY _,by omega⟩
def ab9 (b:List Int)(a:Nat):Option (ByteArray×Nat):=match rX b a with
 |some (v,a)=>if v>(b.length:Int)-a then none else some (strOf ((b.take (a+v.toNat)).drop a),a+v.toNat)|none=>none
def aB4:Option (ByteArray×Nat)->ByteArray×Int×Bool×Unit
 |some (v,a)=>(v,(a:Int),true,())|none=>(al,0,false,())
def auc {b:List Int}(hb:eQ b){a:Nat}(ha:a<=b.length) :
  br (!(ab8 (rX b a)).2.2.1) (some (al,0,false,())) (br (decide ((ab8 (rX b a)).1>ak ((b.length:Int)-(ab8 (rX b a)).2.1))) (some (al,0,false,()))
   (ck (SJ (ab8 (rX b a)).2.1 (ak ((ab8 (rX b a)).2.1+(ab8 (rX b a)).1)) (b.length:Int)) (some (strOf ((b.take (ak ((ab8 (rX b a)).2.1+(ab8 (rX b a)).1)).toNat).drop (ab8 (rX b a)).2.1.toNat),ak ((ab8 (rX b a)).2.1+(ab8 (rX b a)).1),true,()))))=some (aB4 (ab9 b a)):=by
 have hl:=hb.1;unfold ab9;cases hg:rX b a with
 |none=>rfl
 |some r =>
  obtain⟨v,a'⟩:=r;have h:=Ys hb ha hg;show br (!true) _ (br (decide (v>ak ((b.length:Int)-(a':Int)))) _ (ck (SJ (a':Int) (ak ((a':Int)+v)) (b.length:Int)) (some (strOf ((b.take (ak ((a':Int)+v)).toNat).drop (a':Int).toNat),ak ((a':Int)+v),true,()))))=some (aB4 (if v>(b.length:Int)-a' then none else some (strOf ((b.take (a'+v.toNat)).drop a'),a'+v.toNat)));rw[aO,aa,aJ (n:=(b.length:Int)-a') (by omega) (by omega),aJ (n:=(a':Int)+v) (by omega) (by omega)];by_cases hv:v>(b.length:Int)-a'
  .rw[aN hv,af,ai hv];rfl
  .rw[aR hv,aa,ah hv,show(a':Int)+v=((a'+v.toNat:Nat):Int) by omega,Yp (by omega) (by omega),ae];simp only[jw,aB4]
def azn {b:List Int}(hb:eQ b){a:Nat}(ha:a<=b.length):HR F0 b (a:Int)=some (aB4 (ab9 b a)):=by rw[akC,afa hb ha,aj];exact auc hb ha
def IU {b:List Int}(hb:eQ b){a:Nat}(ha:a<=b.length):oK F0 b (a:Int)=some (aB4 (ab9 b a)):=by rw[alx,aub hb ha,aj];exact auc hb ha
def aKo {b:List Int}(hb:eQ b){a:Nat}(ha:a<=b.length){v:ByteArray}{a':Nat}(h:ab9 b a=some (v,a')):v.size<=1048576/\a<a'/\a'<=b.length:=by
 have hl:=hb.1;unfold ab9 at h;split at h
 .rename_i v0 a0 hg;have h0:=Ys hb ha hg;split at h
  .cases h
  .rename_i hv;cases h;refine⟨?_,by omega,by omega⟩;show(((b.take (a0+v0.toNat)).drop a0).map fun n=>UInt8.ofNat n.toNat).toArray.size<=1048576;rw[List.size_toArray,qV,bB,bV];omega
 .cases h
def dL (b:List Int)(s:QW):ByteArray×QW:=match ab9 b s.1 with
 |some (v,a)=>if s.2=true then (v,a,true) else (al,s.1,false)|none=>(al,s.1,false)
def afb {b:List Int}(hb:eQ b){s:QW}(hs:s.1<=b.length):ov F0 (cell b s)=some (((dL b s).1,()),cell b (dL b s).2,()):=by
 obtain⟨a,ok⟩:=s;rw[akE,azn hb hs,aj];unfold dL aB4;dsimp only;cases ab9 b a with
 |none=>rfl|some r=>cases ok<;>rfl
def Yt {b:List Int}(hb:eQ b){s:QW}(hs:s.1<=b.length):gW F0 (XF b s)=some (((dL b s).1,()),XF b (dL b s).2,()):=by
 obtain⟨a,ok⟩:=s;rw[YY,IU hb hs,aj];unfold dL aB4;dsimp only;cases ab9 b a with
 |none=>cases ok<;>rfl|some r=>cases ok<;>rfl
def yi {b:List Int}(hb:eQ b){s:QW}(hs:s.1<=b.length):(dL b s).2.1<=b.length/\(dL b s).1.size<=1048576:=by
 unfold dL;split
 .rename_i v a h;have:=aKo hb hs h;split
  .exact⟨this.2.2,this.1⟩
  .exact⟨hs,aT _⟩
 .exact⟨hs,aT _⟩
def kJ (b:List Int)(n:Int):Nat->Int->QW->List Int->List Int×QW
 |0,_,s,xs=>(xs,s)|f+1,i,s,xs=>if i<n/\s.2=true then kJ b n f (i+1) (aV b s).2 (xs++[(aV b s).1]) else (xs,s)
def BB (b:List Int)(s:QW):List Int×QW:=kJ b (aV b s).1 (b.length+2) 0 (aV b s).2 []
def azo {b:List Int}(hb:eQ b)(n1:Int){γ:Type}(J:Ex->St->Option γ):∀(f:Nat) (i:Int) (s:QW) (xs:List Int) (m:Nat),s.1<=b.length->0<=i->i+f<=4194304->(s.2=true->b.length+2<=s.1+f)->xs.length+f<=4194304->f<m ->
  C8 F0 J m (vq n1 i b (s.1:Int) s.2 xs)=J (.exit 0) (sy b ((kJ b n1 f i s xs).2.1:Int) (kJ b n1 f i s xs).2.2 (kJ b n1 f i s xs).1)
 |0,i,s,xs,m,hs,h0,h1,h2,h3,hm=>by
  obtain⟨m,rfl⟩:∃q,m=q+1:=⟨m-1,by omega⟩;have hf:s.2=false:=Jp.2 fun h=>by have:=h2 h;omega
  rw[JW];unfold kJ;dsimp only;rw[hf,aa];cases decide (i<n1)<;>rfl
 |f+1,i,s,xs,m,hs,h0,h1,h2,h3,hm=>by
  obtain⟨m,rfl⟩:∃q,m=q+1:=⟨m-1,by omega⟩;rw[JW];unfold kJ;by_cases hi:i<n1
  .rw[aN hi,af];cases hf:s.2 with
   |false =>
    rw[aa,ah (fun h=>by cases h.2),hf]
   |true =>
    have hn:=tR hb hs;have hk:=eR hb hs;unfold cell at hn;rw[hf]at hn;rw[af,ai ⟨hi,rfl⟩,hn,aj,az (by omega) (by omega) (by rw[dM];omega),ae,aJ (by omega) (by omega)];exact azo hb n1 J f (i+1) (aV b s).2 (xs++[(aV b s).1]) m hk.1 (by omega) (by omega) (fun h=>by have:=hk.2.1 h;have:=h2 hf;omega) (by rw[aL,dM];omega) (by omega)
  .rw[aR hi,aa,ah (fun h=>hi h.1)]
def azp {b:List Int}(hb:eQ b)(n1:Int){γ:Type}(J:Ex->St->Option γ):∀(f:Nat) (i:Int) (s:QW) (xs:List Int) (m:Nat),s.1<=b.length->0<=i->i+f<=4194304->(s.2=true->b.length+2<=s.1+f)->xs.length+f<=4194304->f<m ->
  oN F0 J m (lH n1 i b (s.1:Int) (!s.2) xs)=J (.exit 0) (kB b ((kJ b n1 f i s xs).2.1:Int) (!(kJ b n1 f i s xs).2.2) (kJ b n1 f i s xs).1)
 |0,i,s,xs,m,hs,h0,h1,h2,h3,hm=>by
  obtain⟨m,rfl⟩:∃q,m=q+1:=⟨m-1,by omega⟩;have hf:s.2=false:=Jp.2 fun h=>by have:=h2 h;omega
  rw[yc];unfold kJ;dsimp only;rw[hf];cases decide (i<n1)<;>rfl
 |f+1,i,s,xs,m,hs,h0,h1,h2,h3,hm=>by
  obtain⟨m,rfl⟩:∃q,m=q+1:=⟨m-1,by omega⟩;rw[yc];unfold kJ;by_cases hi:i<n1
  .rw[aN hi,af];cases hf:s.2 with
   |false =>
    rw[ah (fun h=>by cases h.2),hf];rfl
   |true =>
    have hn:=nR hb hs;have hk:=eR hb hs;unfold XF at hn;rw[hf]at hn;rw[aO,ff,af,ai ⟨hi,rfl⟩,show(false:Bool)= !true from rfl,hn,aj,az (by omega) (by omega) (by rw[dM];omega),ae,aJ (by omega) (by omega)];exact azp hb n1 J f (i+1) (aV b s).2 (xs++[(aV b s).1]) m hk.1 (by omega) (by omega) (fun h=>by have:=hk.2.1 h;have:=h2 hf;omega) (by rw[aL,dM];omega) (by omega)
  .rw[aR hi,aa,ah (fun h=>hi h.1)]
def aEw {b:List Int}(hb:eQ b){s:QW}(hs:s.1<=b.length):EK F0 (cell b s)=some (((BB b s).1,()),cell b (BB b s).2,()):=by have hl:=hb.1;have hk:=eR hb hs;rw[an3,tR hb hs,aj];refine(azo hb (aV b s).1 (FN F0) (b.length+2) 0 (aV b s).2 [] _ hk.1 (UY _) (by omega) (fun _=>by omega) (by rw[bE];omega) (by rw[cl];omega)).trans ?_;rw[adA];rfl
def azq {b:List Int}(hb:eQ b){s:QW}(hs:s.1<=b.length):ny F0 (XF b s)=some (((BB b s).1,()),XF b (BB b s).2,()):=by have hl:=hb.1;have hk:=eR hb hs;rw[YZ,nR hb hs,aj];refine(azp hb (aV b s).1 (rG F0) (b.length+2) 0 (aV b s).2 [] _ hk.1 (UY _) (by omega) (fun _=>by omega) (by rw[bE];omega) (by rw[cl];omega)).trans ?_;rw[RU];rfl
def aB5 (b:List Int)(n:Int)(f:Nat)(i:Int){s:QW}(h:s.2=false)(xs:List Int):kJ b n f i s xs=(xs,s):=by
 cases f with
 |zero=>rfl
 |succ f =>
  unfold kJ;rw[ah (fun h'=>by rw[h]at h';cases h'.2)]
def aud {b:List Int}(hb:eQ b)(n:Int):∀(f:Nat) (i:Int) (s:QW) (xs:List Int),s.1<=b.length->(kJ b n f i s xs).2.1<=b.length/\((kJ b n f i s xs).2.2=true->(kJ b n f i s xs).1.length+s.1<=xs.length+(kJ b n f i s xs).2.1)
 |0,i,s,xs,hs=>⟨hs,fun _=>bZ _⟩
 |f+1,i,s,xs,hs=>by
  unfold kJ;split
  .have hk:=eR hb hs;have ih:=aud hb n f (i+1) (aV b s).2 (xs++[(aV b s).1]) hk.1;refine⟨ih.1,fun h=>?_⟩;cases hr:(aV b s).2.2 with
   |false =>
    rw[aB5 b n f (i+1) hr,hr]at h;cases h
   |true =>
    have h1:=hk.2.1 hr;have h2:=ih.2 h;rw[aL,dM]at h2;omega
  .exact⟨hs,fun _=>bZ _⟩
def aql {b:List Int}(hb:eQ b){s:QW}(hs:s.1<=b.length):(BB b s).2.1<=b.length/\((BB b s).2.2=true->(BB b s).1.length<=1048576):=by have hl:=hb.1;have hk:=eR hb hs;have h:=aud hb (aV b s).1 (b.length+2) 0 (aV b s).2 [] hk.1;refine⟨h.1,fun ho=>?_⟩;have h2:=h.2 ho;have h1:=h.1;rw[bE]at h2;unfold BB;omega
def xE (b:List Int)(s:QW):cY×QW:=(((aV b s).1,(dL b (aV b s).2).1,(BB b (dL b (aV b s).2).2).1),(BB b (dL b (aV b s).2).2).2)
def aB6 {b:List Int}(hb:eQ b){s:QW}(hs:s.1<=b.length):BR F0 (cell b s)=some (((xE b s).1,()),cell b (xE b s).2,()):=by have h1:=(eR hb hs).1;have h2:=(yi hb h1).1;rw[ar7,tR hb hs,aj,afb hb h1,aj,aEw hb h2,aj];rfl
def awX {b:List Int}(hb:eQ b){s:QW}(hs:s.1<=b.length):nz F0 (XF b s)=some (((xE b s).1,()),XF b (xE b s).2,()):=by have h1:=(eR hb hs).1;have h2:=(yi hb h1).1;rw[aed,nR hb hs,aj,Yt hb h1,aj,azq hb h2,aj];rfl
def Si {b:List Int}(hb:eQ b){s:QW}(hs:s.1<=b.length):(xE b s).2.1<=b.length/\((xE b s).2.2=true->u6 (xE b s).1):=by have h1:=(eR hb hs).1;have h2:=yi hb h1;have h3:=aql hb h2.1;exact⟨h3.1,fun h=>⟨h2.2,h3.2 h⟩⟩
def aca:cQ:=(0,0,(al,cM),cM,cM,0,qS)
def fin (c:Int×Int)(b:List Int)(m:cQ)(s:QW):cQ×Bool:=if s.2=true/\(s.1:Int)=(b.length:Int)/\dR c m=true then (m,true) else (aca,false)
def afc {c:Int×Int}{b:List Int}{m:cQ}{s:QW}(h:s.2=true->gI m) :
  br (!s.2) (some (aca,false,())) (br ((s.1:Int) != (b.length:Int)) (some (aca,false,())) ((gd F0 c m).bind fun r87=>br (!r87.1) (some (aca,false,())) (some (m,true,()))))=some ((fin c b m s).1,(fin c b m s).2,()):=by
 unfold fin;cases hs:s.2 with
 |false =>
  rw[ah (fun h=>by cases h.1)];rfl
 |true =>
  rw[aO,aa,Jk (h hs),aj];by_cases hl:(s.1:Int)=(b.length:Int)
  .rw[show((s.1:Int) != (b.length:Int))=false from SC.2 hl,aa];cases hm:dR c m with
   |false =>
    rw[ah (fun h=>by cases h.2.2)];rfl
   |true =>
    rw[ai ⟨rfl,hl,rfl⟩];rfl
  .rw[Ew.2 hl,af,ah (fun h=>hl h.2.1)]
def XG {c:Int×Int}{b:List Int}{m:cQ}{s:QW}(h:s.2=true->gI m) :
  br (!s.2) (some (aca,false,())) (br ((s.1:Int) != (b.length:Int)) (some (aca,false,())) ((gV F0 c m).bind fun r87=>br (!r87.1) (some (aca,false,())) (some (m,true,()))))=some ((fin c b m s).1,(fin c b m s).2,()):=by
 unfold fin;cases hs:s.2 with
 |false =>
  rw[ah (fun h=>by cases h.1)];rfl
 |true =>
  rw[aO,aa,Lr (h hs),aj];by_cases hl:(s.1:Int)=(b.length:Int)
  .rw[show((s.1:Int) != (b.length:Int))=false from SC.2 hl,aa];cases hm:dR c m with
   |false =>
    rw[ah (fun h=>by cases h.2.2)];rfl
   |true =>
    rw[ai ⟨rfl,hl,rfl⟩];rfl
  .rw[Ew.2 hl,af,ah (fun h=>hl h.2.1)]
def jB (b:List Int):Int×QW:=aV b (0,true)
def aKp (b:List Int):cQ×QW:=(((jB b).1,0,((dL b (jB b).2).1,(xE b (dL b (jB b).2).2).1),cM,cM,0,qS),(xE b (dL b (jB b).2).2).2)
def aKq (b:List Int):cQ×QW :=
 (((jB b).1,0,(al,cM),((aV b (jB b).2).1,(dL b (aV b (jB b).2).2).1,(BB b (dL b (aV b (jB b).2).2).2).1),cM,0,qS),(BB b (dL b (aV b (jB b).2).2).2).2)
def aKr (b:List Int):cQ×QW :=
 (((jB b).1,(aV b (jB b).2).1,(al,cM),cM,(xE b (aV b (aV b (jB b).2).2).2).1,(aV b (aV b (jB b).2).2).1,qS),(xE b (aV b (aV b (jB b).2).2).2).2)
def aKs (b:List Int):cQ×QW :=
 (((jB b).1,0,(al,cM),cM,cM,0,(aV b (jB b).2).1,(aV b (aV b (jB b).2).2).1,(aV b (aV b (aV b (jB b).2).2).2).1,(aV b (aV b (aV b (aV b (jB b).2).2).2).2).1),(aV b (aV b (aV b (aV b (jB b).2).2).2).2).2)
def aMC (b:List Int):cQ×QW:=(((jB b).1,0,(al,cM),cM,cM,0,qS),(jB b).2)
def afd (b:List Int):cQ×QW:=if ((jB b).1==1)=true then aKp b else if ((jB b).1==2)=true then aKq b else if ((jB b).1==3)=true then aKr b else if ((jB b).1==4)=true then aKs b else aMC b
def n7 (c:Int×Int)(b:List Int):cQ×Bool:=fin c b (afd b).1 (afd b).2
def aue {b:List Int}(hb:eQ b)(c:Int×Int):JY F0 c b=some ((n7 c b).1,(n7 c b).2,()):=by
 have e0:dw F0 (b,0,true)=some (((jB b).1,()),cell b (jB b).2,()):=tR hb (s:=(0,true)) (aT _);have h0:(jB b).2.1<=b.length:=(eR hb (s:=(0,true)) (aT _)).1;have h1:=(eR hb h0).1;have h2:=(eR hb h1).1;have h3:=(eR hb h2).1;have t0:=yi hb h0;have t1:=yi hb h1;have q1:=Si hb t0.1;have q3:=Si hb h2;have w2:=aql hb t1.1;rw[ar8,e0,aj];unfold n7 afd;dsimp only;by_cases k1:((jB b).1==1)=true
 .rw[k1,af,ai rfl,afb hb h0,aj,aB6 hb t0.1,aj];unfold aKp;generalize xE b (dL b (jB b).2).2=r2 at q1 ⊢;generalize dL b (jB b).2=r1 at t0 ⊢;generalize jB b=r0;exact afc (c:=c) (b:=b) (m:=(r0.1,0,(r1.1,r2.1),cM,cM,0,qS)) (s:=r2.2) fun h=>⟨t0.2,q1.2 h,eA,eA⟩
 .rw[Jp.2 k1,aa,ah (by decide)];by_cases k2:((jB b).1==2)=true
  .rw[k2,af,ai rfl,tR hb h0,aj,afb hb h1,aj,aEw hb t1.1,aj];unfold aKq;generalize BB b (dL b (aV b (jB b).2).2).2=r3 at w2 ⊢;generalize dL b (aV b (jB b).2).2=r2 at t1 ⊢;generalize aV b (jB b).2=r1;generalize jB b=r0;exact afc (c:=c) (b:=b) (m:=(r0.1,0,(al,cM),(r1.1,r2.1,r3.1),cM,0,qS)) (s:=r3.2) fun h=>⟨aT _,eA,⟨t1.2,w2.2 h⟩,eA⟩
  .rw[Jp.2 k2,aa,ah (by decide)];by_cases k3:((jB b).1==3)=true
   .rw[k3,af,ai rfl,tR hb h0,aj,tR hb h1,aj,aB6 hb h2,aj];unfold aKr;generalize xE b (aV b (aV b (jB b).2).2).2=r3 at q3 ⊢;generalize aV b (aV b (jB b).2).2=r2;generalize aV b (jB b).2=r1;generalize jB b=r0;exact afc (c:=c) (b:=b) (m:=(r0.1,r1.1,(al,cM),cM,r3.1,r2.1,qS)) (s:=r3.2) fun h=>⟨aT _,eA,eA,q3.2 h⟩
   .rw[Jp.2 k3,aa,ah (by decide)];by_cases k4:((jB b).1==4)=true
    .rw[k4,af,ai rfl,tR hb h0,aj,tR hb h1,aj,tR hb h2,aj,tR hb h3,aj];unfold aKs;generalize aV b (aV b (aV b (aV b (jB b).2).2).2).2=r4;generalize aV b (aV b (aV b (jB b).2).2).2=r3;generalize aV b (aV b (jB b).2).2=r2;generalize aV b (jB b).2=r1;generalize jB b=r0;exact afc (c:=c) (b:=b) (m:=(r0.1,0,(al,cM),cM,cM,0,r1.1,r2.1,r3.1,r4.1)) (s:=r4.2) fun h=>⟨aT _,eA,eA,eA⟩
    .rw[Jp.2 k4,aa,ah (by decide)];unfold aMC;generalize jB b=r0;exact afc (c:=c) (b:=b) (m:=(r0.1,0,(al,cM),cM,cM,0,qS)) (s:=r0.2) fun h=>⟨aT _,eA,eA,eA⟩
def aqm {b:List Int}(hb:eQ b)(c:Int×Int):KF F0 c b=some ((n7 c b).1,(n7 c b).2,()):=by
 have e0:bX F0 (b,0,false)=some (((jB b).1,()),XF b (jB b).2,()):=nR hb (s:=(0,true)) (aT _);have h0:(jB b).2.1<=b.length:=(eR hb (s:=(0,true)) (aT _)).1;have h1:=(eR hb h0).1;have h2:=(eR hb h1).1;have h3:=(eR hb h2).1;have t0:=yi hb h0;have t1:=yi hb h1;have q1:=Si hb t0.1;have q3:=Si hb h2;have w2:=aql hb t1.1;rw[asx,e0,aj];unfold n7 afd;dsimp only;by_cases k1:((jB b).1==1)=true
 .rw[k1,af,ai rfl,Yt hb h0,aj,awX hb t0.1,aj];unfold aKp;generalize xE b (dL b (jB b).2).2=r2 at q1 ⊢;generalize dL b (jB b).2=r1 at t0 ⊢;generalize jB b=r0;exact XG (c:=c) (b:=b) (m:=(r0.1,0,(r1.1,r2.1),cM,cM,0,qS)) (s:=r2.2) fun h=>⟨t0.2,q1.2 h,eA,eA⟩
 .rw[Jp.2 k1,aa,ah (by decide)];by_cases k2:((jB b).1==2)=true
  .rw[k2,af,ai rfl,nR hb h0,aj,Yt hb h1,aj,azq hb t1.1,aj];unfold aKq;generalize BB b (dL b (aV b (jB b).2).2).2=r3 at w2 ⊢;generalize dL b (aV b (jB b).2).2=r2 at t1 ⊢;generalize aV b (jB b).2=r1;generalize jB b=r0;exact XG (c:=c) (b:=b) (m:=(r0.1,0,(al,cM),(r1.1,r2.1,r3.1),cM,0,qS)) (s:=r3.2) fun h=>⟨aT _,eA,⟨t1.2,w2.2 h⟩,eA⟩
  .rw[Jp.2 k2,aa,ah (by decide)];by_cases k3:((jB b).1==3)=true
   .rw[k3,af,ai rfl,nR hb h0,aj,nR hb h1,aj,awX hb h2,aj];unfold aKr;generalize xE b (aV b (aV b (jB b).2).2).2=r3 at q3 ⊢;generalize aV b (aV b (jB b).2).2=r2;generalize aV b (jB b).2=r1;generalize jB b=r0;exact XG (c:=c) (b:=b) (m:=(r0.1,r1.1,(al,cM),cM,r3.1,r2.1,qS)) (s:=r3.2) fun h=>⟨aT _,eA,eA,q3.2 h⟩
   .rw[Jp.2 k3,aa,ah (by decide)];by_cases k4:((jB b).1==4)=true
    .rw[k4,af,ai rfl,nR hb h0,aj,nR hb h1,aj,nR hb h2,aj,nR hb h3,aj];unfold aKs;generalize aV b (aV b (aV b (aV b (jB b).2).2).2).2=r4;generalize aV b (aV b (aV b (jB b).2).2).2=r3;generalize aV b (aV b (jB b).2).2=r2;generalize aV b (jB b).2=r1;generalize jB b=r0;exact XG (c:=c) (b:=b) (m:=(r0.1,0,(al,cM),cM,cM,0,r1.1,r2.1,r3.1,r4.1)) (s:=r4.2) fun h=>⟨aT _,eA,eA,eA⟩
    .rw[Jp.2 k4,aa,ah (by decide)];unfold aMC;generalize jB b=r0;exact XG (c:=c) (b:=b) (m:=(r0.1,0,(al,cM),cM,cM,0,qS)) (s:=r0.2) fun h=>⟨aT _,eA,eA,eA⟩
structure CB (w:an):Prop where
 l:w.2.1.length<=1048576
 r:w.2.2.1.length<=1048576
 rl:∀x∈w.2.2.1,asP x
 n:w.2.2.2.1.length<=1048576
 nb:∀x∈w.2.2.2.1,eQ x.2
 s:w.2.2.2.2.length<=1048576
 st:∀x∈w.2.2.2.2,x.2.1.size<=1048576
def aB7 (c:Int×Int):Mc F0 c=some (uv c,()):=by
 rw[anZ,jt,aj];unfold uv;dsimp only;cases h:bL c with
 |false=>rfl
 |true =>
  have:=cF h;have h3:=ay6 this.1 this.2.1;have e:ak (c.1-1)=c.1-1:=aJ (by omega) (by omega);rw[aO,aa,e,aJ (n:=Int.tdiv (c.1-1) 3) (by omega) (by omega),ai rfl]
def ajL:aC:=(0,0,0,(0,0,cM,al),[],[],([],0),[])
def aB8:mn:=(0,[])
def acb:dI:=(0,al,0)
def aqn (c:Int×Int)(l:List aC)(k:Nat):Bool:=qP c (l.getD k ajL)&&((l.getD k ajL).1==(k:Int))
def acd (c:Int×Int)(l:List mn)(k:Nat):Bool:=(n7 c (l.getD k aB8).2).2&&ix 0 (ak (c.1-1)) (l.getD k aB8).1
def ace (c:Int×Int)(l:List dI)(k:Nat):Bool:=ix 0 (ak (c.1-1)) (l.getD k acb).2.2&&(bu (l.getD k acb).2.1.data.toList&&(aH (l.getD k acb).2.1.data.toList==(l.getD k acb).1))
def aqo (w:an):Bool:=(List.range w.2.2.1.length).all (aqn w.1 w.2.2.1)
def IV (w:an):Bool:=(List.range w.2.2.2.1.length).all (acd w.1 w.2.2.2.1)
def tS (w:an):Bool:=(List.range w.2.2.2.2.length).all (ace w.1 w.2.2.2.2)
def my (w:an):Bool :=
 bL w.1&&(jA w.1.1 w.2.1&&(!decide ((w.2.1.length:Int)>uv w.1)&&(!((w.2.2.1.length:Int) != w.1.1)&&(!decide ((w.2.2.2.1.length:Int)>60)&&(!decide ((w.2.2.2.2.length:Int)>300)&&(aqo w&&(IV w&&tS w)))))))
def amr (a b:Bool):(if a=true then some (b,()) else some (false,()))=some (a&&b,()):=by cases a<;>rfl
def aB9 {w:an}(h:CB w):rh F0 (mN F0) F0.n (mM 0 w.1.1 w.1.2 w.2.1 w.2.2.1 w.2.2.2.1 w.2.2.2.2)=some (tS w,()):=by
 have hs:=h.s;rw[mg (fun m k=>rh F0 (mN F0) m (mM k w.1.1 w.1.2 w.2.1 w.2.2.1 w.2.2.2.1 w.2.2.2.2)) w.2.2.2.2.length (ace w.1 w.2.2.2.2) (some (true,())) (some (false,())) (fun m k hk=>?_) (fun m=>?_) _ (by rw[cl];omega),QU]
 .rfl
 .have hz:=h.st _ (cX hk);rw[Gz,aX hk,af,av hk,ae,bF hk,dG,aj,Jj hz,aj,p4 hz,aj,adD,ao (by omega)];unfold ace;rw[bm hk];dsimp only;cases ix 0 (ak (w.1.1-1)) (w.2.2.2.2[k]).2.2<;>cases bu (w.2.2.2.2[k]).2.1.data.toList<;>try rfl
  by_cases hv:aH (w.2.2.2.2[k]).2.1.data.toList=(w.2.2.2.2[k]).1
  .rw[show(aH (w.2.2.2.2[k]).2.1.data.toList != (w.2.2.2.2[k]).1)=false from SC.2 hv,show(aH (w.2.2.2.2[k]).2.1.data.toList==(w.2.2.2.2[k]).1)=true from bC.2 hv];rfl
  .rw[Ew.2 hv,ct.2 hv];rfl
 .rw[Gz,aK,aa,abq]
def aCa {w:an}(h:CB w):ri F0 (mP F0) F0.n (mO 0 w.1.1 w.1.2 w.2.1 w.2.2.1 w.2.2.2.1 w.2.2.2.2)=some (IV w&&tS w,()):=by
 have hs:=h.n;rw[mg (fun m k=>ri F0 (mP F0) m (mO k w.1.1 w.1.2 w.2.1 w.2.2.1 w.2.2.2.1 w.2.2.2.2)) w.2.2.2.1.length (acd w.1 w.2.2.2.1) (some (tS w,())) (some (false,())) (fun m k hk=>?_) (fun m=>?_) _ (by rw[cl];omega),amr]
 .rfl
 .rw[GA,aX hk,af,av hk,ae,bF hk,show((w.1.1,w.1.2):Int×Int)=w.1 from rfl,aue (h.nb _ (cX hk)),aj,ae,dG,aj,adE,ao (by omega)];unfold acd;rw[bm hk];dsimp only;cases (n7 w.1 (w.2.2.2.1[k]).2).2<;>cases ix 0 (ak (w.1.1-1)) (w.2.2.2.1[k]).1<;>rfl
 .rw[GA,aK,aa,abr,aB9 h]
def aFP {w:an}(h:CB w):rj F0 (mR F0) F0.n (mQ 0 w.1.1 w.1.2 w.2.1 w.2.2.1 w.2.2.2.1 w.2.2.2.2)=some (aqo w&&(IV w&&tS w),()):=by
 have hs:=h.r;rw[mg (fun m k=>rj F0 (mR F0) m (mQ k w.1.1 w.1.2 w.2.1 w.2.2.1 w.2.2.2.1 w.2.2.2.2)) w.2.2.1.length (aqn w.1 w.2.2.1) (some (IV w&&tS w,())) (some (false,())) (fun m k hk=>?_) (fun m=>?_) _ (by rw[cl];omega),amr]
 .rfl
 .rw[GB,aX hk,af,av hk,ae,bF hk,ae,show((w.1.1,w.1.2):Int×Int)=w.1 from rfl,jc (h.rl _ (cX hk)),aj,adF,ao (by omega)];unfold aqn;rw[bm hk];dsimp only;by_cases hv:(w.2.2.1[k]).1=(k:Int)
  .rw[show((w.2.2.1[k]).1 != (k:Int))=false from SC.2 hv,show((w.2.2.1[k]).1==(k:Int))=true from bC.2 hv,aa,Bool.and_true];cases qP w.1 w.2.2.1[k]<;>rfl
  .rw[Ew.2 hv,ct.2 hv,af,UZ];rfl
 .rw[GB,aK,aa,abt,aCa h]
def azr {w:an}(h:CB w):y9 F0 w=some (my w,()):=by rw[akF,jt,aj,ahR (cR h.l (by omega)),aj,aB7,aj,aFP h];unfold my;cases bL w.1<;>cases jA w.1.1 w.2.1<;>cases decide ((w.2.1.length:Int)>uv w.1)<;>cases ((w.2.2.1.length:Int) != w.1.1)<;>cases decide ((w.2.2.2.1.length:Int)>60)<;>cases decide ((w.2.2.2.2.length:Int)>300)<;>rfl
def aCb {w:an}(h:CB w):rI F0 (nB F0) F0.n (nA w.2.2.2.2 (w.2.2.2.2.length:Int) 0 w.1.1 w.1.2)=some (tS w,()):=by
 have hs:=h.s;rw[mg (fun m k=>rI F0 (nB F0) m (nA w.2.2.2.2 (w.2.2.2.2.length:Int) k w.1.1 w.1.2)) w.2.2.2.2.length (ace w.1 w.2.2.2.2) (some (true,())) (some (false,())) (fun m k hk=>?_) (fun m=>?_) _ (by rw[cl];omega),QU]
 .rfl
 .have hz:=h.st _ (cX hk);rw[G8,aX hk,af,av hk,ae,bF hk,cm,aj,xD hz,aj,rW hz,aj,aef,ao (by omega)];unfold ace;rw[bm hk];dsimp only;cases ix 0 (ak (w.1.1-1)) (w.2.2.2.2[k]).2.2<;>cases bu (w.2.2.2.2[k]).2.1.data.toList<;>try rfl
  by_cases hv:aH (w.2.2.2.2[k]).2.1.data.toList=(w.2.2.2.2[k]).1
  .rw[show(aH (w.2.2.2.2[k]).2.1.data.toList != (w.2.2.2.2[k]).1)=false from SC.2 hv,show(aH (w.2.2.2.2[k]).2.1.data.toList==(w.2.2.2.2[k]).1)=true from bC.2 hv];rfl
  .rw[Ew.2 hv,ct.2 hv];rfl
 .rw[G8,aK,aa,abP]
def aCc {w:an}(h:CB w):rJ F0 (nD F0) F0.n (nC w.2.2.2.1 (w.2.2.2.1.length:Int) 0 w.1.1 w.1.2 w.2.1 w.2.2.1 w.2.2.2.1 w.2.2.2.2 w.1.1 w.1.2)=some (IV w&&tS w,()):=by
 have hs:=h.n;rw[mg (fun m k=>rJ F0 (nD F0) m (nC w.2.2.2.1 (w.2.2.2.1.length:Int) k w.1.1 w.1.2 w.2.1 w.2.2.1 w.2.2.2.1 w.2.2.2.2 w.1.1 w.1.2)) w.2.2.2.1.length (acd w.1 w.2.2.2.1) (some (tS w,())) (some (false,())) (fun m k hk=>?_) (fun m=>?_) _ (by rw[cl];omega),amr]
 .rfl
 .rw[G9,aX hk,af,av hk,ae,bF hk,show((w.1.1,w.1.2):Int×Int)=w.1 from rfl,aqm (h.nb _ (cX hk)),aj,cm,aj,aeg,ao (by omega)];unfold acd;rw[bm hk];dsimp only;cases (n7 w.1 (w.2.2.2.1[k]).2).2<;>cases ix 0 (ak (w.1.1-1)) (w.2.2.2.1[k]).1<;>rfl
 .rw[G9,aK,aa,abQ,aCb h]
def aFQ {w:an}(h:CB w):rK F0 (nF F0) F0.n (nE w.2.2.1 (w.2.2.1.length:Int) 0 w.1.1 w.1.2 w.2.1 w.2.2.1 w.2.2.2.1 w.2.2.2.2 w.1.1 w.1.2)=some (aqo w&&(IV w&&tS w),()):=by
 have hs:=h.r;rw[mg (fun m k=>rK F0 (nF F0) m (nE w.2.2.1 (w.2.2.1.length:Int) k w.1.1 w.1.2 w.2.1 w.2.2.1 w.2.2.2.1 w.2.2.2.2 w.1.1 w.1.2)) w.2.2.1.length (aqn w.1 w.2.2.1) (some (IV w&&tS w,())) (some (false,())) (fun m k hk=>?_) (fun m=>?_) _ (by rw[cl];omega),amr]
 .rfl
 .rw[Ha,aX hk,af,av hk,ae,bF hk,show((w.1.1,w.1.2):Int×Int)=w.1 from rfl,fe (h.rl _ (cX hk)),aj,aeh,ao (by omega)];unfold aqn;rw[bm hk];dsimp only;by_cases hv:(w.2.2.1[k]).1=(k:Int)
  .rw[show((w.2.2.1[k]).1 != (k:Int))=false from SC.2 hv,show((w.2.2.1[k]).1==(k:Int))=true from bC.2 hv,aa,Bool.and_true];cases qP w.1 w.2.2.1[k]<;>rfl
  .rw[Ew.2 hv,ct.2 hv,af,UZ];cases qP w.1 w.2.2.1[k]<;>rfl
 .rw[Ha,aK,aa,abR,aCc h]
def tT {w:an}(h:CB w):dA F0 w=some (my w,()):=by rw[aly,gF,aj,ab6 (cR h.l (by omega)),aj,ajF,aj,aFQ h];unfold my;cases bL w.1<;>cases jA w.1.1 w.2.1<;>cases decide ((w.2.1.length:Int)>uv w.1)<;>cases ((w.2.2.1.length:Int) != w.1.1)<;>cases decide ((w.2.2.2.1.length:Int)>60)<;>cases decide ((w.2.2.2.2.length:Int)>300)<;>rfl
def dS (l:List UInt8):Int:=if bu l=true then ((bj l).1.length:Int) else -1
def azs {l:List UInt8}(h:l.length<=1073741824):yf F0 (tx l)=some (dS l,()):=by rw[apQ,Lk h,aj];unfold dS bu;dsimp only;cases (bj l).2<;>rfl
structure aTZ (r:aC):Prop where
 i1:I64 r.1
 i2:I64 r.2.1
 i3:I64 r.2.2.2.1.1
 i4:I64 r.2.2.2.1.2.1
 i5:I64 r.2.2.2.1.2.2.1.1
 d:r.2.2.2.1.2.2.2.size<=1048576
 p:r.2.2.2.2.1.length<=1048576
 t:r.2.2.2.2.2.1.length<=1048576
 h:r.2.2.2.2.2.2.2.length<=1048576
def aqp (b:ByteArray)(h:b.size<=1048576):yf F0 b=some (dS b.data.toList,()):=azs (l:=b.data.toList) (cR (Nat.le_of_eq (show b.data.toList.length=b.size from rfl)) (by omega))
def lU (l:List Int):Nat->List Int
 |0=>[]|k+1=>lU l k++if (k:Int)∈l then [] else [(k:Int)]
def Lt (l:List Int):∀k,(lU l k).length<=k
 |0=>bZ _|k+1=>by
  have:=Lt l k;unfold lU;split
  .rw[iz];omega
  .rw[aL,dM];omega
def Yu (l:List Int):∀k,∀x∈lU l k,0<=x/\x<k
 |0,x,h=>by cases h
 |k+1,x,h=>by
  unfold lU at h;rcases jx.1 h with h1|h1
  .have:=Yu l k x h1;omega
  .split at h1
   .cases h1
   .rw[hU.1 h1];omega
def bU (w:an):List Int:=lU w.2.1 w.2.2.1.length
def ajM {V:Type}(X:List Int->V)(l xs:List Int)(k:Int):br (!decide (k∈l)) (X (xs++[k])) (X xs)=X (xs++if k∈l then [] else [k]):=by
 by_cases h:k∈l
 .rw[aN h,ai h,iz];rfl
 .rw[aR h,ah h];rfl
def aqq {w:an}(h:CB w):EY F0 w=some (bU w,()):=by
 have hr:=h.r;have hl:=h.l;rw[aoM];refine dp (fun n i (xs:List Int)=>pV F0 (we F0) n (kQ i w.1.1 w.1.2 w.2.1 w.2.2.1 w.2.2.2.1 w.2.2.2.2 xs)) w.2.2.1.length (fun k xs=>xs=lU w.2.1 k) _ (fun n k xs hk hx=>.inr ⟨lU w.2.1 (k+1),?_,rfl⟩) (fun n xs hx=>?_) _ 0 [] (aT _) rfl (by rw[cl];omega)
 .have hn:=Lt w.2.1 k;rw[<-hx]at hn;rw[Kp,aX hk,af,gv (by omega),aj,az (by omega) (by omega) (by rw[dM];omega),ae,ao (by omega)];dsimp only;rw[ajM (fun xs=>pV F0 (we F0) n (kQ ((k+1:Nat):Int) w.1.1 w.1.2 w.2.1 w.2.2.1 w.2.2.2.1 w.2.2.2.2 xs)),hx];rfl
 .rw[Kp,aK,aa,ad2,hx];rfl
def Fq {w:an}(h:CB w):n6 F0 w=some (bU w,()):=by
 have hr:=h.r;have hl:=h.l;rw[apl];refine dp (fun n i (xs:List Int)=>pX F0 (wE F0) n (kT (w.2.2.1.length:Int) i w.1.1 w.1.2 w.2.1 w.2.2.1 w.2.2.2.1 w.2.2.2.2 xs)) w.2.2.1.length (fun k xs=>xs=lU w.2.1 k) _ (fun n k xs hk hx=>.inr ⟨lU w.2.1 (k+1),?_,rfl⟩) (fun n xs hx=>?_) _ 0 [] (aT _) rfl (by rw[cl];omega)
 .have hn:=Lt w.2.1 k;rw[<-hx]at hn;rw[KM,aX hk,af,fN (by omega),aj,az (by omega) (by omega) (by rw[dM];omega),ae,ao (by omega)];dsimp only;rw[ajM (fun xs=>pX F0 (wE F0) n (kT (w.2.2.1.length:Int) ((k+1:Nat):Int) w.1.1 w.1.2 w.2.1 w.2.2.1 w.2.2.2.1 w.2.2.2.2 xs)),hx];rfl
 .rw[KM,aK,aa,aeo,hx];rfl
def ahX {w:an}{k:Nat}(hk:k<(bU w).length):∃j:Nat,(bU w)[k]=(j:Int)/\j<w.2.2.1.length:=by have:=Yu w.2.1 w.2.2.1.length _ (cX hk);exact⟨(bU w)[k].toNat,by show _=(((bU w)[k]).toNat:Int);have h0:0<=(bU w)[k]:=this.1;omega,by have h0:0<=(bU w)[k]:=this.1;have h1:(bU w)[k]<w.2.2.1.length:=this.2;omega⟩
def mh (w:an)(x:Int):ByteArray:=(w.2.2.1.getD x.toNat ajL).2.2.2.1.2.2.2
def ux (a b:ByteArray):ByteArray:=if dS a.data.toList>dS b.data.toList then a else b
def ajN (w:an)(l:List Int):ByteArray:=l.foldl (fun out x=>ux (mh w x) out) al
def aqr {w:an}(h:CB w):∀{l:List Int},(∀x∈l,0<=x/\x<w.2.2.1.length)->∀(out:ByteArray),out.size<=1048576->(l.foldl (fun out x=>ux (mh w x) out) out).size<=1048576
 |[],_,_,ho=>ho|x::l,hl,out,ho=>by
  refine aqr h (l:=l) (fun y hy=>hl y (ka _ hy)) _ ?_;show(ux (mh w x) out).size<=1048576;unfold ux;split
  .have hx:=hl x qU;have hj:x.toNat<w.2.2.1.length:=by omega
   unfold mh;rw[bm hj];exact(h.rl _ (cX hj)).s.2
  .exact ho
def Uv (w:an):ByteArray:=if my w=true then ajN w (bU w) else al
def aIn {V:Type}(X:ByteArray->V)(a b:ByteArray):br (decide (dS a.data.toList>dS b.data.toList)) (X a) (X b)=X (ux a b):=by
 unfold ux;by_cases h:dS a.data.toList>dS b.data.toList
 .rw[aN h,ai h];rfl
 .rw[aR h,ah h];rfl
def aCd (w:an)(l:List Int)(x:Int):ajN w (l++[x])=ux (mh w x) (ajN w l):=by unfold ajN;rw[List.foldl_append];rfl
def aIo {w:an}(h:CB w):aeR F0 w=some (Uv w,()):=by
 have hn:=Lt w.2.1 w.2.2.1.length;have hr:=h.r;rw[ayX,tT h,aj,Fq h,aj];unfold Uv;dsimp only;cases my w with
 |false=>rfl
 |true =>
  rw[aO,aa,ai rfl];have hlen:(bU w).length<=1048576:=cR hn hr;refine dp (fun n i (out:ByteArray)=>Cv F0 (IP F0) n (tP out ((bU w).length:Int) i w.1.1 w.1.2 w.2.1 w.2.2.1 w.2.2.2.1 w.2.2.2.2 (bU w))) (bU w).length (fun k out=>out=ajN w ((bU w).take k)) _ (fun n k out hk hx=>.inr ⟨ajN w ((bU w).take (k+1)),?_,rfl⟩) (fun n out hx=>?_) _ 0 al (aT _) rfl (by rw[cl];omega)
  .obtain⟨j,e,hj⟩:=ahX hk;have hz:=(h.rl _ (cX hj)).s.2;have ho:out.size<=1048576:=by rw[hx];exact aqr h (fun x hx=>Yu w.2.1 w.2.2.1.length x (Zb hx)) _ (aT _)
   have hd:mh w (j:Int)=(w.2.2.1[j]).2.2.2.1.2.2.2:=by unfold mh;rw[jw,bm hj]
   rw[Ur,aX hk,af,av hk,ae,bF hk,e,av hj,ae,bF hj,aqp _ hz,aj,aqp _ ho,aj,ao (by omega),iy hk,aCd,e,hd,<-hx];exact aIn (fun out=>Cv F0 (IP F0) n (tP out ((bU w).length:Int) ((k+1:Nat):Int) w.1.1 w.1.2 w.2.1 w.2.2.1 w.2.2.2.1 w.2.2.2.2 (bU w))) _ _
  .rw[Ur,aK,aa,apT,hx,mB]
def asQ (s t:ByteArray):Bool:=bu s.data.toList&&(bu t.data.toList&&(decide ((s.size:Int)>=(t.size:Int))&&(((s.extract 0 t.size).toList==t.toList)&&(((s.size:Int)==(t.size:Int)) || (kc s (t.size:Int)==47)))))
def azt {s t:ByteArray}(hs:s.size<=1048576)(ht:t.size<=1048576):H0 F0 s t=some (asQ s t,()):=by
 rw[akW,Jj hs,aj,Jj ht,aj];unfold asQ;dsimp only;cases bu s.data.toList<;>cases bu t.data.toList<;>try rfl
 rw[aO,aa,aa,hY,hY];by_cases hz:t.size<=s.size
 .rw[aR (show ¬(t.size:Int)>(s.size:Int) by omega),aa,aN (show(s.size:Int)>=(t.size:Int) by omega),hY,aIk hz,ae,jw,show(0:Int).toNat=0 from rfl];cases ((s.extract 0 t.size).toList==t.toList)<;>try rfl
  rw[aO,aa,hY];by_cases he:(s.size:Int)=(t.size:Int)
  .rw[show((s.size:Int)==(t.size:Int))=true from bC.2 he];rfl
  .rw[ct.2 he,aa,av (by omega),ae];rfl
 .rw[aN (show(t.size:Int)>(s.size:Int) by omega),af,aR (show ¬(s.size:Int)>=(t.size:Int) by omega)];rfl
def afe {s t:ByteArray}(hs:s.size<=1048576)(ht:t.size<=1048576):AF F0 s t=some (asQ s t,()):=by
 rw[alP,xD hs,aj,xD ht,aj,W9,OC];unfold asQ;dsimp only;cases bu s.data.toList<;>cases bu t.data.toList<;>try rfl
 rw[af,af,hY,hY];by_cases hz:t.size<=s.size
 .rw[aN (show(s.size:Int)>=(t.size:Int) by omega),hY,af,aIk hz,ae,jw,show(0:Int).toNat=0 from rfl,aj,aj];dsimp only;cases ((s.extract 0 t.size).toList==t.toList)<;>try rfl
  rw[af,hY];by_cases he:(s.size:Int)=(t.size:Int)
  .rw[show((s.size:Int)==(t.size:Int))=true from bC.2 he];rfl
  .rw[ct.2 he,aa,av (by omega),ae];rfl
 .rw[aR (show ¬(s.size:Int)>=(t.size:Int) by omega)];rfl
def dn (w:an)(i:Nat):ByteArray:=mh w ((bU w).getD i 0)
def aQT (a b:cY):Bool:=(a.1==b.1)&& !(a.2.1.toList==b.2.1.toList)
def okC (l:List cY)(i k:Nat):Bool:= !aQT (l.getD i cM) (l.getD k cM)
def lV:bG:=(0,0,cM,al)
def aFR:nQ lV:=⟨eA,aT _⟩
def azu {b:List Int}{s:QW}(h:(dL b s).2.2=true):s.2=true:=by
 unfold dL at h;split at h
 .split at h
  .assumption
  .cases h
 .cases h
def Lu (b:List Int):bG×QW :=
 (((jB b).1,(aV b (jB b).2).1,(xE b (aV b (jB b).2).2).1,(dL b (xE b (aV b (jB b).2).2).2).1),(dL b (xE b (aV b (jB b).2).2).2).2)
def o6 (c:Int×Int)(b:List Int):bG×Bool:=if (Lu b).2.2=true/\((Lu b).2.1:Int)=(b.length:Int)/\bM c (Lu b).1=true then ((Lu b).1,true) else (lV,false)
def aqs {b:List Int}(hb:eQ b)(h:(Lu b).2.2=true):nQ (Lu b).1:=by have h0:(jB b).2.1<=b.length:=(eR hb (s:=(0,true)) (aT _)).1;have h1:=(eR hb h0).1;have q:=Si hb h1;have x:=yi hb q.1;have ht:(dL b (xE b (aV b (jB b).2).2).2).2.2=true->(xE b (aV b (jB b).2).2).2.2=true:=azu;unfold Lu at h ⊢;generalize dL b (xE b (aV b (jB b).2).2).2=r3 at h x ht ⊢;generalize xE b (aV b (jB b).2).2=r2 at q ht ⊢;generalize aV b (jB b).2=r1;generalize jB b=r0;exact⟨q.2 (ht h),x.2⟩
def aIp {b:List Int}(hb:eQ b)(c:Int×Int):nQ (o6 c b).1:=by
 unfold o6;split
 .rename_i h;exact aqs hb h.1
 .exact aFR
def aA9 {c:Int×Int}{b:List Int}{m:bG}{s:QW}{f:bG->Option (Bool×Unit)}(h:s.2=true->f m=some (bM c m,())) :
  br (!s.2) (some (lV,false,())) (br ((s.1:Int) != (b.length:Int)) (some (lV,false,())) ((f m).bind fun r87=>br (!r87.1) (some (lV,false,())) (some (m,true,())))) =
   some ((if s.2=true/\(s.1:Int)=(b.length:Int)/\bM c m=true then ((m,true):bG×Bool) else (lV,false)).1,(if s.2=true/\(s.1:Int)=(b.length:Int)/\bM c m=true then ((m,true):bG×Bool) else (lV,false)).2,()):=by
 cases hs:s.2 with
 |false =>
  rw[ah (fun h=>by cases h.1)];rfl
 |true =>
  rw[aO,aa,h hs,aj];by_cases hl:(s.1:Int)=(b.length:Int)
  .rw[show((s.1:Int) != (b.length:Int))=false from SC.2 hl,aa];cases hm:bM c m with
   |false =>
    rw[ah (fun h=>by cases h.2.2)];rfl
   |true =>
    rw[ai ⟨rfl,hl,rfl⟩];rfl
  .rw[Ew.2 hl,af,ah (fun h=>hl h.2.1)]
def aCe {b:List Int}(hb:eQ b)(c:Int×Int):MS F0 c b=some ((o6 c b).1,(o6 c b).2,()):=by have e0:dw F0 (b,0,true)=some (((jB b).1,()),cell b (jB b).2,()):=tR hb (s:=(0,true)) (aT _);have h0:(jB b).2.1<=b.length:=(eR hb (s:=(0,true)) (aT _)).1;have h1:=(eR hb h0).1;have q:=Si hb h1;have hl:=aqs hb;rw[aoT,e0,aj,tR hb h0,aj,aB6 hb h1,aj,afb hb q.1,aj];unfold o6;unfold Lu at hl ⊢;generalize dL b (xE b (aV b (jB b).2).2).2=r3 at hl ⊢;generalize xE b (aV b (jB b).2).2=r2 at hl ⊢;generalize aV b (jB b).2=r1 at hl ⊢;generalize jB b=r0 at hl ⊢;exact aA9 (c:=c) (b:=b) (m:=(r0.1,r1.1,r2.1,r3.1)) (s:=r3.2) (f:=fun m=>jS F0 c m) fun h=>CA (hl h) c
def azv {b:List Int}(hb:eQ b)(c:Int×Int):NP F0 c b=some ((o6 c b).1,(o6 c b).2,()):=by have e0:bX F0 (b,0,false)=some (((jB b).1,()),XF b (jB b).2,()):=nR hb (s:=(0,true)) (aT _);have h0:(jB b).2.1<=b.length:=(eR hb (s:=(0,true)) (aT _)).1;have h1:=(eR hb h0).1;have q:=Si hb h1;have hl:=aqs hb;rw[apO,e0,aj,nR hb h0,aj,awX hb h1,aj,Yt hb q.1,aj];unfold o6;unfold Lu at hl ⊢;generalize dL b (xE b (aV b (jB b).2).2).2=r3 at hl ⊢;generalize xE b (aV b (jB b).2).2=r2 at hl ⊢;generalize aV b (jB b).2=r1 at hl ⊢;generalize jB b=r0 at hl ⊢;exact aA9 (c:=c) (b:=b) (m:=(r0.1,r1.1,r2.1,r3.1)) (s:=r3.2) (f:=fun m=>lE F0 c m) fun h=>Fp (hl h) c
def XH (b:List Int)(i j:Nat):List Int:=(b.take j).drop i
def aff {b:List Int}(hb:eQ b)(i j:Nat):eQ (XH b i j):=by have hl:=hb.1;refine⟨?_,fun x hx=>hb.2 x (Zb (auS hx))⟩;unfold XH;rw[bB,bV];omega
def aFS {b:List Int}(hb:eQ b):bytesOf (strOf b)=b:=by unfold bytesOf strOf;simp only[List.map_map];refine(List.map_congr_left fun x hx=>?_).trans (List.map_id b);have:=hb.2 x hx;simp only[Function.comp,id,UInt8.toNat_ofNat'];omega
def Lv (c:Int×Int)(b:List Int)(a:Nat):Option (bG×Nat):=match rX b a with
 |none=>none|some (v,a')=>if v>=(b.length:Int)-a' then none else if b.getD (a'+v.toNat) 0≠10 then none else if (o6 c (XH b a' (a'+v.toNat))).2=true then some ((o6 c (XH b a' (a'+v.toNat))).1,a'+v.toNat+1) else none
def Hp (c:Int×Int)(b:List Int):Nat->bG->Nat->bG×Nat
 |0,s,a=>(s,a)|f+1,s,a=>match Lv c b a with
  |none=>(s,a)|some (s',a')=>Hp c b f s' a'
def iQ (c:Int×Int)(b:List Int):bG×Nat:=Hp c b (b.length+1) lV 0
def CC {c:Int×Int}{b:List Int}{a:Nat}{v:Int}{a':Nat}(h:rX b a=some (v,a')):Lv c b a =
  if v>=(b.length:Int)-a' then none else if b.getD (a'+v.toNat) 0≠10 then none else if (o6 c (XH b a' (a'+v.toNat))).2=true then some ((o6 c (XH b a' (a'+v.toNat))).1,a'+v.toNat+1) else none:=by
 unfold Lv;rw[h]
def CD {c:Int×Int}{b:List Int}{a:Nat}(h:rX b a=none):Lv c b a=none:=by unfold Lv;rw[h]
def kv {c:Int×Int}{b:List Int}{f:Nat}{s:bG}{a:Nat}(h:Lv c b a=none):Hp c b (f+1) s a=(s,a):=by unfold Hp;rw[h]
def Lw {c:Int×Int}{b:List Int}{f:Nat}{s s':bG}{a a':Nat}(h:Lv c b a=some (s',a')):Hp c b (f+1) s a=Hp c b f s' a':=by rw[Hp,h]
def aIq {c:Int×Int}{b:List Int}(hb:eQ b){a:Nat}(ha:a<=b.length){s:bG}{a':Nat}(h:Lv c b a=some (s,a')):a<a'/\a'<=b.length/\nQ s:=by
 cases hg:rX b a with
 |none=>rw[CD hg]at h;cases h
 |some r =>
  obtain⟨v,a0⟩:=r;have h0:=Ys hb ha hg;have hs:=aIp (aff hb a0 (a0+v.toNat)) c;rw[CC hg]at h;generalize o6 c (XH b a0 (a0+v.toNat))=r at h hs;split at h
  .cases h
  .rename_i hv;split at h
   .cases h
   .split at h
    .cases h;exact⟨by omega,by omega,hs⟩
    .cases h
def auf (c:Int×Int){b:List Int}(hb:eQ b)(t4 t41 t42:Int)(t43 t44:ByteArray)(xs:List Int):∀(f:Nat) (s:bG) (a n:Nat),a<=b.length->b.length+1<=a+f->f<n ->
  wi F0 (zY F0) n (qx b (a:Int) c.1 c.2 t4 t41 t42 t43 t44 s.1 s.2.1 s.2.2.1.1 s.2.2.1.2.1 s.2.2.2 xs s.2.2.1.2.2)=some ((Hp c b f s a).1,((Hp c b f s a).2:Int),())
 |0,s,a,n,ha,hf,hn=>by omega
 |f+1,s,a,n,ha,hf,hn=>by
  obtain⟨n,rfl⟩:∃m,n=m+1:=⟨n-1,by omega⟩;have hl:=hb.1;cases hg:rX b a with
  |none =>
   have law:lv F0 b (a:Int)=some (0,0,false,()):=by rw[afa hb ha,hg];rfl
   rw[EZ,law,aj,Kv,kv (CD hg)];rfl
  |some r =>
   obtain⟨v,a'⟩:=r;have h0:=Ys hb ha hg;have law:lv F0 b (a:Int)=some (v,(a':Int),true,()):=by rw[afa hb ha,hg];rfl
   have YJ:=CC (c:=c) hg;rw[EZ,law,aj,Kv];dsimp only;rw[aO,aa,aJ (n:=(b.length:Int)-a') (by omega) (by omega),show ak ((a':Int)+v)=((a'+v.toNat:Nat):Int) by rw[aJ (by omega) (by omega)];omega];by_cases hv:v>=(b.length:Int)-a'
   .rw[ai hv]at YJ;rw[aN hv,af,kv YJ]
   .have hi:a'+v.toNat<b.length:=by omega
    rw[ah hv]at YJ;rw[aR hv,aa,av hi,ae,mF];by_cases Rc:b.getD (a'+v.toNat) 0=10
    .rw[ah (fun h=>h Rc)]at YJ;rw[show(b.getD (a'+v.toNat) 0 != 10)=false from SC.2 Rc,aa,Yp (by omega) (by omega),ae,show((c.1,c.2):Int×Int)=c from rfl,jw,jw,
      show((b.take (a'+v.toNat)).drop a')=XH b a' (a'+v.toNat) from rfl,aCe (aff hb _ _),aj]
     dsimp only;generalize o6 c (XH b a' (a'+v.toNat))=r at YJ ⊢;cases hs:r.2 with
     |false =>
      rw[hs,ah (by decide)]at YJ;rw[ff,af,kv YJ]
     |true =>
      rw[hs,ai rfl]at YJ;rw[aO,aa,ao (by omega),Lw YJ];exact auf c hb t4 t41 t42 t43 t44 xs f r.1 (a'+v.toNat+1) n (by omega) (by omega) (by omega)
    .rw[ai Rc]at YJ;rw[Ew.2 Rc,af,kv YJ]
def awY {b:List Int}(hb:eQ b)(c:Int×Int):DE F0 c b=some ((iQ c b).1,((iQ c b).2:Int),()):=by have hl:=hb.1;rw[agU,alj,aj];exact auf c hb 0 0 0 _ _ [] (b.length+1) lV 0 _ (aT _) (by omega) (by rw[cl];omega)
def aFT {b:List Int}{a:Nat}{v:Int}{a':Nat}(h:rX b a=some (v,a')):ab9 b a=if v>(b.length:Int)-a' then none else some (strOf (XH b a' (a'+v.toNat)),a'+v.toNat):=by unfold ab9;rw[h];rfl
def aFU {b:List Int}{a:Nat}(h:rX b a=none):ab9 b a=none:=by unfold ab9;rw[h]
def aqt (c:Int×Int){b:List Int}(hb:eQ b)(t4 t41 t42:Int)(t43 t44:ByteArray)(xs:List Int):∀(f:Nat) (s:bG) (a n:Nat),a<=b.length->b.length+1<=a+f->f<n ->
  pK F0 (qO F0) n (lR b (a:Int) c.1 c.2 t4 t41 t42 t43 t44 s.1 s.2.1 s.2.2.1.1 s.2.2.1.2.1 s.2.2.2 xs s.2.2.1.2.2)=some ((Hp c b f s a).1,((Hp c b f s a).2:Int),())
 |0,s,a,n,ha,hf,hn=>by omega
 |f+1,s,a,n,ha,hf,hn=>by
  obtain⟨n,rfl⟩:∃m,n=m+1:=⟨n-1,by omega⟩;have hl:=hb.1;have bad:oK F0 b (a:Int)=some (al,0,false,())->Lv c b a=none->pK F0 (qO F0) (n+1) (lR b (a:Int) c.1 c.2 t4 t41 t42 t43 t44 s.1 s.2.1 s.2.2.1.1 s.2.2.1.2.1 s.2.2.2 xs s.2.2.1.2.2)=some ((Hp c b (f+1) s a).1,((Hp c b (f+1) s a).2:Int),()):=by intro law YJ;rw[Fl,law,aj,Lh,kv YJ];rfl
  cases hg:rX b a with
  |none=>exact bad (by rw[IU hb ha,aFU hg];rfl) (CD hg)
  |some r =>
   obtain⟨v,a'⟩:=r;have h0:=Ys hb ha hg;have YJ:=CC (c:=c) hg;have hT:=aFT hg;by_cases hv0:v>(b.length:Int)-a'
   .rw[ai hv0]at hT;rw[ai (show v>=(b.length:Int)-a' by omega)]at YJ;exact bad (by rw[IU hb ha,hT];rfl) YJ
   .rw[ah hv0]at hT;have law:oK F0 b (a:Int)=some (strOf (XH b a' (a'+v.toNat)),((a'+v.toNat:Nat):Int),true,()):=by rw[IU hb ha,hT];rfl
    rw[Fl,law,aj,Lh];dsimp only;rw[aO,aa];by_cases hv:v>=(b.length:Int)-a'
    .rw[ai hv]at YJ;rw[aN (show((a'+v.toNat:Nat):Int)>=(b.length:Int) by omega),af,kv YJ]
    .have hi:a'+v.toNat<b.length:=by omega
     rw[ah hv]at YJ;rw[aR (show ¬((a'+v.toNat:Nat):Int)>=(b.length:Int) by omega),aa,av hi,ae,mF];by_cases Rc:b.getD (a'+v.toNat) 0=10
     .have hsz:((strOf (XH b a' (a'+v.toNat))).size:Int)<=1048576:=by have:=(aff hb a' (a'+v.toNat)).1;show((((XH b a' (a'+v.toNat)).map fun n=>UInt8.ofNat n.toNat).toArray.size:Nat):Int)<=1048576;rw[List.size_toArray,qV];omega
      rw[ah (fun h=>h Rc)]at YJ;rw[show(b.getD (a'+v.toNat) 0 != 10)=false from SC.2 Rc,aa,show((c.1,c.2):Int×Int)=c from rfl,aN (show((strOf (XH b a' (a'+v.toNat))).size:Int)<=F0.mem by rw[aHK];omega),ae,aFS (aff hb _ _),azv (aff hb _ _),aj];dsimp only;generalize o6 c (XH b a' (a'+v.toNat))=r at YJ ⊢;cases hs:r.2 with
      |false =>
       rw[hs,ah (by decide)]at YJ;rw[ff,af,kv YJ]
      |true =>
       rw[hs,ai rfl]at YJ;rw[aO,aa,ao (by omega),Lw YJ];exact aqt c hb t4 t41 t42 t43 t44 xs f r.1 (a'+v.toNat+1) n (by omega) (by omega) (by omega)
     .rw[ai Rc]at YJ;rw[Ew.2 Rc,af,kv YJ]
def asR {b:List Int}(hb:eQ b)(c:Int×Int):En F0 c b=some ((iQ c b).1,((iQ c b).2:Int),()):=by have hl:=hb.1;rw[ahF,al4,aj];exact aqt c hb 0 0 0 _ _ [] (b.length+1) lV 0 _ (aT _) (by omega) (by rw[cl];omega)
def iR (a b:bG):Bool:=(a.1==b.1)&&((a.2.1==b.2.1)&&(jv a.2.2.1 b.2.2.1&&(a.2.2.2.toList==b.2.2.2.toList)))
def awZ {a b:bG}(ha:nQ a)(hb:nQ b):Dk F0 a b=some (iR a b,()):=by rw[agB,ahU ha.1 hb.1,aj];unfold iR;cases (a.1==b.1)<;>cases (a.2.1==b.2.1)<;>cases jv a.2.2.1 b.2.2.1<;>rfl
def asS {a b:bG}(ha:nQ a):DY F0 a b=some (iR a b,()):=by rw[ahi,Lq ha.1,aj];unfold iR;cases (a.1==b.1)<;>cases (a.2.1==b.2.1)<;>cases jv a.2.2.1 b.2.2.1<;>rfl
end Go.Am.Tryz
