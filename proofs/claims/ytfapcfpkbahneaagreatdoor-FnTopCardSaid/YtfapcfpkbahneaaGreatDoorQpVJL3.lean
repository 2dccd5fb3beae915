/- No condition. -/
import Derived.Test.YtfapcfpkbahneaaGreatDoorQpVJL2
set_option linter.all false
namespace Go.Am.Tryz
open Go.Am
def ajO {l:nU}(h4:ab3 l){list:List fE}(hl:list.length<=1048576):yd F0 l list=some (rV l list,rU l list,()):=by
 rw[apD,Xv (by have:=h4.1;omega) (by have:=h4.2;omega),aj];refine dp (fun n i (z:List Int×nU)=>Eg F0 (Gl F0) n (wM list (list.length:Int) i z.1 [] [] z.2.1 z.2.2)) list.length (fun k z=>z.1=rU l (list.take k)/\z.2=rV l (list.take k)) _ (fun n k z hk hI=>.inr ⟨(z.1++[(lT z.2 list[k]).2],(lT z.2 list[k]).1),?_,?_⟩) (fun n z hI=>?_) F0.n 0 ([],l) (aT _) ⟨rfl,rfl⟩ (by rw[cl];omega)
 .obtain⟨h1,h2⟩:=hI;have q4:ab3 z.2:=by rw[h2];exact Yo h4
  have hz:z.1.length<=1048576:=by rw[h1,Sa,bV];omega
  rw[Lb,aX hk,af,av hk,ae,aaQ hk]
  try rw[aOK]
  rw[ap8 (l:=(z.2.1,z.2.2)) (by have:=q4.1;show z.2.1.length<=_;omega) (by have:=q4.2;show z.2.2.length<=_;omega),aj];simp only;rw[az (a:=z.1.length) (b:=[(lT (z.2.1,z.2.2) list[k]).2].length) (k:=8) (by omega) (by omega) (by simp only[aZ,bE];omega),ae,ao (by omega)]
 .obtain⟨h1,h2⟩:=hI;have ht:list.take (k+1)=list.take k++[list[k]]:=by rw[LN,pc hk];rfl
  refine⟨?_,?_⟩
  .rw[ht,Sb,<-h1,<-h2];rfl
  .rw[ht,Xx,<-h2]
 .obtain⟨h1,h2⟩:=hI;rw[mB]at h1 h2;rw[Lb,aK,aa,aeI,h1,h2]
def aCf {l:List UInt8}(hl:l.length<=1073741824):xB F0 (tx l)=some ((bj l).1.flatMap (·.2),()):=by
 rw[asG,Lk hl,aj];have hlen:=rT l;have dZ:=R9 l;generalize hss:(bj l).1=ss at hlen dZ;refine dp (fun n i xs=>IH F0 (KW F0) n (AP (ss.length:Int) i xs ss)) ss.length (fun k xs=>xs=(ss.take k).flatMap (·.2)) _ (fun n k xs hk hI=>.inr ⟨_,?_,rfl⟩) (fun n xs hI=>?_) F0.n 0 [] (aT _) rfl (by rw[cl];omega)
 .have h1:=(dZ _ (cX hk)).2.2.1;have hx:=aeY (ss:=ss.take k) fun x hx=>dZ x (Zb hx)
  rw[<-hI,bV]at hx;rw[ND,aX hk,af,av hk,ae,aaQ hk,az (a:=xs.length) (b:=ss[k].2.length) (k:=32) (by omega) (by omega) (by omega),ae,ao (by omega),hI];have hf:(ss.take (k+1)).flatMap (·.2)=(ss.take k).flatMap (·.2)++ss[k].2:=by rw[show ss.take (k+1)=ss.take k++[ss[k]] by rw[LN,pc hk];rfl,List.flatMap_append];simp
  rw[hf]
 .rw[mB]at hI;rw[ND,aK,aa,ahs,hI]
def aqu (b:ByteArray):List fE:=(bj b.data.toList).1.flatMap (·.2)
def QX (b:ByteArray):(aqu b).length<=60:=by have h1:=aeY (R9 b.data.toList);have h2:=rT b.data.toList;unfold aqu;omega
def azw {b:ByteArray}(h:b.size<=1048576):xf F0 b=some (aqu b,()):=aFG (Uu h)
def aug {b:ByteArray}(h:b.size<=1048576):xB F0 b=some (aqu b,()):=aCf (Uu h)
def acf:ab3 awL:=⟨rfl,rfl⟩
def w6 (c:Int×Int)(r:aC):nU:=if qP c r=true then rV awL (aqu r.2.2.2.1.2.2.2) else ([],[])
def aFV {r:aC}(h:asP r)(c:Int×Int):Kl F0 c r=some (w6 c r,()):=by have ht:=QX r.2.2.2.1.2.2.2;rw[asg,jc h,aj,aaP,aj,azw h.s.2,aj,ap9 acf (cR (QX _) (by omega)),aj];unfold w6;cases qP c r<;>rfl
def aCg {r:aC}(h:asP r)(c:Int×Int):oZ F0 c r=some (w6 c r,()):=by have ht:=QX r.2.2.2.1.2.2.2;rw[asH,fe h,aj,Xw,aj,aug h.s.2,aj,ajO acf (cR (QX _) (by omega)),aj];unfold w6;cases qP c r<;>rfl
def azx (c:Int):Bool:=(c==0) || (c==4)
abbrev yq:=List Int×Int×Int
def Sj (c:yq):Prop:=c.1.length<=1048576/\0<=c.2.1/\c.2.1<=1048576
def aw0 (n:Int):0<=ak ((BitVec.ofInt 64 n &&& BitVec.ofInt 64 255).toNat:Int)/\ak ((BitVec.ofInt 64 n &&& BitVec.ofInt 64 255).toNat:Int)<=255:=by
 have h:(BitVec.ofInt 64 n &&& BitVec.ofInt 64 255).toNat<=255:=by rw[BitVec.toNat_and];exact cR Nat.and_le_right (by decide)
 rw[aJ (by omega) (by omega)];omega
def aEx {c:yq}(h:Sj c):∃(v:Int) (c':yq),lh F0 c=some ((v,()),c',())/\0<=v/\v<=255/\Sj c':=by
 rw[anH];by_cases hlt:c.2.1<(c.1.length:Int)
 .rw[aN hlt,af,show cr c.2.1 (c.1.length:Int)=true by simp[cr];exact⟨h.2.1,hlt⟩,ae];have hl:=h.1;have h0:=h.2.1;refine⟨_,_,rfl,(aw0 _).1,(aw0 _).2,h.1,?_,?_⟩
  .show 0<=ak (c.2.1+1);rw[aJ (by omega) (by omega)];omega
  .show ak (c.2.1+1)<=1048576;rw[aJ (by omega) (by omega)];omega
 .rw[aR hlt,aa];exact⟨_,_,rfl,(aw0 _).1,(aw0 _).2,h⟩
def aw1 {a n:Int}(h0:0<=a)(hn:0<n):0<=Int.tmod a n/\Int.tmod a n<n:=by rw[amA h0];exact⟨aiw _ (by omega),amE _ hn⟩
def aqv {c:yq}(h:Sj c){n:Int}(hn:0<n)(hn2:n<=256):∃(v:Int) (c':yq),ax F0 c n=some ((v,()),c',())/\0<=v/\v<n/\Sj c':=by obtain⟨v,c',h1,h2,h3,h4⟩:=aEx h;rw[SM,aR (show ¬n<=0 by omega),aa,aN hn2,af,h1,aj,show(!(n==0))=true by rw[ct.2 (show n≠0 by omega)];rfl,ae];exact⟨_,_,rfl,(aw1 h2 hn).1,(aw1 h2 hn).2,h4⟩
def aCh {c:yq}(h:Sj c){l:List Int}(hn:0<l.length)(hn2:l.length<=256):∃(v:Int) (c':yq),kh F0 c l=some ((v,()),c',())/\v∈l/\Sj c':=by
 obtain⟨v,c',h1,h2,h3,h4⟩:=aqv h (n:=(l.length:Int)) (by omega) (by omega);have hv:v.toNat<l.length:=by omega
 rw[ado,h1,aj,show cr v (l.length:Int)=true by simp[cr];exact⟨h2,h3⟩,ae];refine⟨_,_,rfl,?_,h4⟩;have e:v=(v.toNat:Int):=by omega
 show aU l v 0∈l;rw[e,bF hv];exact cX hv
def aKt {c:yq}(h:Sj c){n:Int}(hn:0<n)(hn2:n<=256):∃(v:Bool) (c':yq),nX F0 c n=some ((v,()),c',())/\Sj c':=by obtain⟨v,c',h1,h2,h3,h4⟩:=aqv h hn hn2;rw[anJ,h1,aj];exact⟨_,_,rfl,h4⟩
def aME {code:List Int}(h:code.length<=1048576):∃c':yq,JH F0 code=some (((c',()),()))/\Sj c':=by
 rw[arX];suffices hh:∀(j:Nat) (q:Int) (k n:Nat),k+j=code.length->j<n->∃q':Int,Hy F0 (JG F0) n (yI code q (k:Int) code)=some ((((code,0,q'):yq),()),()) by obtain⟨q',e⟩:=hh code.length (ak (26583+(code.length:Int))) 0 F0.n (xK _) (by rw[cl];omega);exact⟨_,e,h,UY _,by show(0:Int)<=1048576;decide⟩
 intro j
 induction j with
 |zero =>
  intro q k n hk hn;obtain⟨n,rfl⟩:∃m,n=m+1:=⟨n-1,by omega⟩;obtain rfl:k=code.length:=by omega
  rw[LX,aK,aa,O8];exact⟨q,rfl⟩
 |succ j ih =>
  intro q k n hk hn;obtain⟨n,rfl⟩:∃m,n=m+1:=⟨n-1,by omega⟩;have hlt:k<code.length:=by omega
  rw[LX,aX hlt,af];cases decide ((k:Int)<4000) with
  |false =>
   rw[aa,O8];exact⟨q,rfl⟩
  |true =>
   rw[af,av hlt,ae,ao (by omega)];exact ih _ (k+1) n (by omega) (by omega)
def Sk (c x:UInt8)(l:List UInt8):parts c (x::l)=if x=c then []::parts c l else match parts c l with
  |p::ps=>(x::p)::ps|[]=>[[x]]:=by
 conv=>lhs;unfold parts
 cases parts c l<;>rfl
def ahY {c:UInt8}:∀(a b:List UInt8),parts c (a++c::b)=parts c a++parts c b
 |[],b=>by rw[Bk,Sk,ai rfl];rfl
 |x::a,b=>by
  rw[Gt,Sk c x (a++c::b),Sk c x a];by_cases hx:x=c
  .rw[ai hx,ai hx,ahY a b];rfl
  .rw[ah hx,ah hx,ahY a b];have hne:=Fo c a;cases hp:parts c a with
   |nil=>exact absurd hp hne|cons p ps=>rfl
def azy {σ V:Type}{f:σ->List UInt8->Option (σ×V)}:∀{l m:List (List UInt8)} {s:σ} {r:List V},ur f s (l++m)=some r->∃r1 r2,ur f s l=some r1/\r=r1++r2/\r2.length=m.length
 |[],m,s,r,h=>⟨[],r,rfl,rfl,QP h⟩|p::l,m,s,r,h=>by
  rw[Gt]at h;unfold ur at h ⊢;cases hp:f s p with
  |none=>rw[hp]at h;cases h
  |some x =>
   obtain⟨s',b⟩:=x;rw[hp]at h;dsimp only at h ⊢;cases hr:ur f s' (l++m) with
   |none=>rw[hr]at h;cases h
   |some r' =>
    rw[hr]at h;cases h;obtain⟨r1,r2,h1,h2,h3⟩:=azy hr;rw[h1];exact⟨b::r1,r2,rfl,by rw[h2];rfl,h3⟩
def aqw {a t:List UInt8}(ht:(47:UInt8) ∉ t)(h:bu (a++47::t)=true):bu a=true/\∃x,(bj (a++47::t)).1=(bj a).1++[x]:=by
 have hne:a++47::t≠[]:=by simp
 unfold bu at h ⊢;unfold bj at h ⊢;rw[ah hne,ahY,ap4 ht]at h ⊢;cases hp:parts 47 a with
 |nil=>exact absurd hp (Fo 47 a)
 |cons p0 ps =>
  rw[hp,Gt]at h;rw[Gt];dsimp only at h ⊢;by_cases hc:¬p0=[]\/30<(ps++[t]).length
  .rw[ai hc]at h;cases h
  .rw[ah hc]at h ⊢;have h0:p0=[]:=axP fun hn=>hc (.inl hn)
   have hl:¬30<(ps++[t]).length:=fun hn=>hc (.inr hn)
   rw[aL,dM]at hl;cases hr:ur ud 0 (ps++[t]) with
   |none=>rw[hr]at h;cases h
   |some r =>
    obtain⟨r1,r2,h1,h2,h3⟩:=azy hr;obtain⟨x,rfl⟩:∃x,r2=[x]:=by
     cases r2 with
     |nil=>cases h3
     |cons x r2 =>
      cases r2 with
      |nil=>exact⟨x,rfl⟩|cons _ _=>simp at h3
    by_cases ha:a=[]
    .subst ha;have:ps=[]:=by have:=hp;unfold parts at this;exact(uE this).2.symm
     subst this;cases h1;rw[ai rfl];exact⟨rfl,x,h2⟩
    .rw[ah ha,ah (fun hn=>hn.elim (fun hn=>hn h0) (fun hn=>by omega)),h1];exact⟨rfl,x,h2⟩
def o7 (l:List fE):List UInt8:=Lib.join (l.map txL) [44]
def NZ (l:List fE):List UInt8:=if l.all iP=true then o7 l else []
def aKu {l:List fE}(h:l.all iP=true):∀x∈l.map txL,x.length<=90:=by intro x hx;obtain⟨y,hy,rfl⟩:=Jr.1 hx;exact ap0 (iU.1 h y hy)
def Lx {l:List fE}(h:l.all iP=true):(o7 l).length<=91*l.length:=by have:=aJ5 (aKu h) 44;rw[qV]at this;exact this
def afg {l:List fE}{k:Nat}(hk:k<l.length):(l.take (k+1)).all iP=((l.take k).all iP&&iP l[k]):=by rw[LN,pc hk,List.all_append];simp
def OJ {U V:Type}{l:List U}{f:U->V}{k:Nat}(hk:k<l.length):(l.take (k+1)).map f=(l.take k).map f++[f l[k]]:=by rw[LN,pc hk,ait];rfl
def IW {l:List fE}{k:Nat}(hk:k<l.length)(h:iP l[k]=false):l.all iP=false:=by rw[afP];exact⟨l[k],cX hk,by simp[h]⟩
def auh {x:fE}(h:iP x=true):ab1 x=txL x:=ai h
def azz {l:List fE}(h:l.length<=1048576):HW F0 l=some (tx (NZ l),()):=by
 rw[akN];refine dp (fun n i (out:ByteArray)=>rm F0 (sE F0) n (mZ l out i)) l.length (fun k out=>(l.take k).all iP=true/\out=tx (o7 (l.take k))) _ (fun n k out hk ho=>?_) (fun n out ho=>?_) _ 0 _ (aT _) ⟨rfl,rfl⟩ (by rw[cl];omega)
 .obtain⟨ha,rfl⟩:=ho;have hj:=Lx ha;rw[bV,aiv (by omega)]at hj;rw[GJ,aX hk,af,av hk,ae,aaQ hk,QN,aj,adI];dsimp only;cases hx:iP l[k]with
  |false =>
   left;rw[ff,af,NZ,IW hk hx];rfl
  |true =>
   right;have hl:=ap0 hx;refine⟨tx (o7 (l.take (k+1))),?_,by rw[afg hk,ha,hx];rfl,rfl⟩;rw[aO,aa,ae,ae,ap1,aj,aj,auh hx,show ByteArray.mk #[44]=tx [44] from rfl,gP];dsimp only;rw[jf (by rw[bT,bT,dM];omega),ae,jf (by rw[bT,bT,aL,dM];omega),ae,jf (by rw[bT,bT];omega),ae,gP,gP,ao (by omega)];by_cases h0:k=0
   .subst h0;rw[show decide (((0:Nat):Int)>0)=false from rfl,aa,show o7 (l.take (0+1))=o7 (l.take 0)++txL l[0] by rw[o7,OJ hk];simp[o7,Lib.join_one,Lib.join_nil]]
   .have hne:(l.take k).map txL≠[]:=by intro e;have:=qd List.length e;rw[qV,bV,bE]at this;omega
    rw[aN (show(k:Int)>0 by omega),af,show o7 (l.take (k+1))=o7 (l.take k)++[44]++txL l[k] by rw[o7,OJ hk,aFr hne];rfl]
 .obtain⟨ha,rfl⟩:=ho;rw[mB]at ha ⊢;rw[GJ,aK,aa,abx,NZ,ai ha]
def aKv (l:List fE):((l.map fun x=>tx (txL x)).map fun b=>b.data.toList)=l.map txL:=by rw[List.map_map];exact List.map_congr_left fun n _=>gb _
def aw2 {l:List fE}(h:l.length<=524288):IJ F0 l=some (tx (NZ l),()):=by
 rw[alY];refine dp (fun n i (xs:List ByteArray)=>AU F0 (tN F0) n (tM l (l.length:Int) i xs)) l.length (fun k xs=>(l.take k).all iP=true/\xs=(l.take k).map fun x=>tx (txL x)) _ (fun n k xs hk ho=>?_) (fun n xs ho=>?_) F0.n 0 [] (aT _) ⟨rfl,rfl⟩ (by rw[cl];omega)
 .obtain⟨ha,rfl⟩:=ho;rw[Hn,aX hk,af,av hk,ae,aaQ hk,Cy,aj,aeM];dsimp only;cases hx:iP l[k]with
  |false =>
   left;rw[ff,af,NZ,IW hk hx];rfl
  |true =>
   right;refine⟨(l.take (k+1)).map fun x=>tx (txL x),?_,by rw[afg hk,ha,hx];rfl,rfl⟩;rw[aO,aa,ajC,aj,auh hx,az (by omega) (by omega) (by rw[qV,bV,dM];omega),ae,ao (by omega),OJ hk]
 .obtain⟨ha,rfl⟩:=ho;rw[mB]at ha ⊢;rw[Hn,aK,aa,abZ,show ByteArray.mk #[44]=tx [44] from rfl,ahJ (aKv l) (by rw[qV];omega) (by have:=Lx ha;unfold o7 at this;omega),aj,NZ,ai ha];rfl
def N1 (up:List UInt8)(view:Int)(l:List fE):List UInt8:=up++[47]++Lib.itoa view++[124]++o7 l
def Sl (up:List UInt8)(view:Int)(l:List fE):List UInt8:=if l.all iP=true/\bu (N1 up view l)=true then N1 up view l else []
def acg (up:List UInt8){view:Int}(hv:I64 view){l:List fE}(ha:l.all iP=true):(N1 up view l).length<=up.length+23+91*l.length:=by have:=Lx ha;have:=R7 hv;simp only[N1,aL,dM];omega
def aqx {up:List UInt8}(hu:up.length<=1048576){view:Int}(hv:I64 view){l:List fE}(h:l.length<=1048576):ly F0 (tx up) view l=some (tx (Sl up view l),()):=by
 have hd:=R7 hv;rw[aoe];refine dp (fun n i (_:Unit)=>De F0 (vR F0) n (vQ (tx up) view l i)) l.length (fun k _=>(l.take k).all iP=true) _ (fun n k out hk ho=>?_) (fun n out ho=>?_) _ 0 () (aT _) rfl (by rw[cl];omega)
 .rw[Ka,aX hk,af,av hk,ae,aaQ hk,QN,aj,agw];dsimp only;cases hx:iP l[k]with
  |false =>
   left;rw[ff,af,Sl,ah (by rw[IW hk hx];simp)];rfl
  |true =>
   right;exact⟨(),by rw[aO,aa,ao (by omega)],by rw[afg hk,ho,hx];rfl⟩
 .rw[mB]at ho;have hj:=Lx ho;have hn:=acg up hv ho;rw[Ka,aK,aa,adJ,Cw hv,aj,azz h,aj,NZ,ai ho,show ByteArray.mk #[47]=tx [47] from rfl,show ByteArray.mk #[124]=tx [124] from rfl];dsimp only;rw[jf (by rw[bT,bT,dM];omega),ae,gP,jf (by rw[bT,bT,aL,dM];omega),ae,gP,jf (by rw[bT,bT,aL,aL,dM,dM];omega),ae,gP,
   jf (by rw[bT,bT,aL,aL,aL,dM,dM];omega),ae,gP,show up++[47]++Lib.itoa view++[124]++o7 l=N1 up view l from rfl,Sc (by omega),aj,Sl]
  dsimp only;cases hn:bu (N1 up view l) with
  |false=>rw[ah (by simp)];rfl
  |true=>rw[ai ⟨ho,rfl⟩];rfl
def azA {up:List UInt8}(hu:up.length<=1048576){view:Int}(hv:I64 view){l:List fE}(h:l.length<=2):Fj F0 (tx up) view l=some (tx (Sl up view l),()):=by
 have hd:=R7 hv;rw[apI];refine dp (fun n i (_:Unit)=>El F0 (wT F0) n (wS (tx up) view l l (l.length:Int) i)) l.length (fun k _=>(l.take k).all iP=true) _ (fun n k out hk ho=>?_) (fun n out ho=>?_) _ 0 () (aT _) rfl (by rw[cl];omega)
 .rw[Le,aX hk,af,av hk,ae,aaQ hk,Cy,aj,ahA];dsimp only;cases hx:iP l[k]with
  |false =>
   left;rw[ff,af,Sl,ah (by rw[IW hk hx];simp)];rfl
  |true =>
   right;exact⟨(),by rw[aO,aa,ao (by omega)],by rw[afg hk,ho,hx];rfl⟩
 .rw[mB]at ho;have hj:=Lx ho;have hn:=acg up hv ho;rw[Le,aK,aa,aeN,QM hv,aj,aw2 (by omega),aj,NZ,ai ho,show ByteArray.mk #[47]=tx [47] from rfl,show ByteArray.mk #[124]=tx [124] from rfl];dsimp only;rw[jf (by rw[bT,bT,dM];omega),ae,gP,jf (by rw[bT,bT,aL,dM];omega),ae,gP,jf (by rw[bT,bT,aL,aL,dM,dM];omega),ae,gP,
   jf (by rw[bT,bT,aL,aL,aL,dM,dM];omega),ae,gP,show up++[47]++Lib.itoa view++[124]++o7 l=N1 up view l from rfl,NU (by omega),aj,Sl]
  dsimp only;rw[aR (show ¬((l.length:Int)>2) by omega),aa];cases hn:bu (N1 up view l) with
  |false=>rw[ah (by simp)];rfl
  |true=>rw[ai ⟨ho,rfl⟩];rfl
def Gd {U:Type}(X:Option U)(P:U->Prop):Prop:=∃v,X=some v/\P v
abbrev DrT (U:Type):=(U×Unit)×(yq×Unit)
def Dr {U:Type}(X:Option (DrT U))(Q:U->Prop):Prop:=Gd X fun z=>Q z.1.1/\Sj z.2.1
def Gd.bind {U V:Type}{X:Option U}{P:U->Prop}(h:Gd X P){f:U->Option V}{R:V->Prop}(hf:∀v,P v->Gd (f v) R):Gd (X.bind f) R:=by obtain⟨v,rfl,hv⟩:=h;exact hf v hv
def Dr.bind {U V:Type}{X:Option (DrT U)}{Q:U->Prop}(h:Dr X Q){f:DrT U->Option V}{R:V->Prop}(hf:∀z:DrT U,Q z.1.1->Sj z.2.1->Gd (f z) R):Gd (X.bind f) R:=by obtain⟨z,rfl,h1,h2⟩:=h;exact hf z h1 h2
def Gd.let {U V:Type}{X:Option U}{v:U}(h:X=some v){f:U->Option V}{R:V->Prop}(hf:Gd (f v) R):Gd (X.bind f) R:=by subst h;exact hf
def Gd.ret {U:Type}{v:U}{P:U->Prop}(h:P v):Gd (some v) P:=⟨v,rfl,h⟩
def Gd.br {U:Type}{c:Bool}{x y:Option U}{P:U->Prop}(h1:c=true->Gd x P)(h2:c=false->Gd y P):Gd (br c x y) P:=by
 cases c with
 |true=>exact h1 rfl|false=>exact h2 rfl
def Gd.ck {U:Type}{c:Bool}{x:Option U}{P:U->Prop}(h1:c=true)(h2:Gd x P):Gd (ck c x) P:=by subst h1;exact h2
def Gd.br0 {U:Type}{c:Bool}{x y:Option U}{P:U->Prop}(h:c=false)(h2:Gd y P):Gd (Am.br c x y) P:=by subst h;exact h2
def ams {ζ V:Type}(X:Nat->Int->ζ->Option V)(L:Nat)(I:Nat->ζ->Prop)(P:V->Prop)
  (hs:∀n k z,k<L->I k z->(∀z',I (k+1) z'->Gd (X n ((k+1:Nat):Int) z') P)->Gd (X (n+1) (k:Int) z) P) (he:∀n z,I L z->Gd (X (n+1) (L:Int) z) P) :
  ∀n k z,k<=L->I k z->L-k<n->Gd (X n (k:Int) z) P:=by
 intro n
 induction n with
 |zero=>intro k z _ _ h;omega
 |succ n ih =>
  intro k z hk hI hn;by_cases h:k=L
  .subst h;exact he n z hI
  .exact hs n k z (by omega) hI fun z' hI'=>ih (k+1) z' (by omega) hI' (by omega)
def amt {c:yq}(h:Sj c):Dr (U:=Int) (lh F0 c) fun v=>0<=v/\v<=255:=by obtain⟨v,c',e,h1,h2,h3⟩:=aEx h;exact⟨_,e,⟨h1,h2⟩,h3⟩
def aKw {x y z w:Int}(x0:0<=x)(x1:x<=255)(y0:0<=y)(y1:y<=255)(z0:0<=z)(z1:z<=255)(w0:0<=w)(w1:w<=255):0<=ak (ak (ak (ak (x*16777216)+ak (y*65536))+ak (z*256))+w):=by rw[aJ (n:=x*16777216) (by omega) (by omega),aJ (n:=y*65536) (by omega) (by omega),aJ (n:=z*256) (by omega) (by omega),aJ (n:=x*16777216+y*65536) (by omega) (by omega),aJ (n:=x*16777216+y*65536+z*256) (by omega) (by omega),aJ (by omega) (by omega)];omega
def iS {c:yq}(h:Sj c){n:Int}(hn:0<n)(hn2:n<=9223372036854775807):Dr (U:=Int) (ax F0 c n) fun v=>0<=v/\v<n:=by
 by_cases aOL:n<=256
 .obtain⟨v,c',e,h1,h2,h3⟩:=aqv h hn aOL;exact⟨_,e,⟨h1,h2⟩,h3⟩
 .unfold Dr;rw[SM];refine Gd.br0 (aR (by omega)) (Gd.br0 (aR aOL) ?_);refine Dr.bind (amt h) fun x hx cx=>Dr.bind (amt cx) fun y hy cy=>Dr.bind (amt cy) fun z hz cz=>Dr.bind (amt cz) fun w hw cw=>Gd.ck ?_ (Gd.ret ⟨?_,cw⟩)
  .rw[ct.2 (show n≠0 by omega)];rfl
  .exact aw1 (aKw hx.1 hx.2 hy.1 hy.2 hz.1 hz.2 hw.1 hw.2) hn
def amu {c:yq}(h:Sj c){n:Int}(hn:0<n)(hn2:n<=256):Dr (U:=Bool) (nX F0 c n) fun _=>True:=by obtain⟨v,c',e,h3⟩:=aKt h hn hn2;exact⟨_,e,trivial,h3⟩
def ach {c:yq}(h:Sj c){l:List Int}(hn:0<l.length)(hn2:l.length<=256):Dr (U:=Int) (kh F0 c l) fun v=>v∈l:=by obtain⟨v,c',e,h1,h3⟩:=aCh h hn hn2;exact⟨_,e,h1,h3⟩
def aMF {code:List Int}(h:code.length<=1048576):Gd (JH F0 code) fun z=>Sj z.1.1:=by obtain⟨c,e,hc⟩:=aME h;exact⟨_,e,hc⟩
def aOM {x y z w:Int}(x0:0<=x)(x1:x<4)(y0:0<=y)(y1:y<4)(z0:z∈[(0:Int),5,60,100,1000])(w0:0<=w)(w1:w<3):iP (x,y,z,w)=true:=by simp only[dE,amK,or_false]at z0;simp only[iP,inB,aI,cA];rcases z0 with rfl|rfl|rfl|rfl|rfl<;>omega
def aui {c:yq}(h:Sj c):Dr (U:=fE) (na F0 c) fun v=>iP v=true:=by
 unfold Dr;rw[YT];refine Dr.bind (iS h (n:=4) (by omega) (by omega)) fun x hx cx=>Dr.bind (iS cx (n:=4) (by omega) (by omega)) fun y hy cy=>Dr.bind (ach cy (l:=[0,5,60,100,1000]) (by decide) (by decide)) fun z hz cz=>Dr.bind (iS cz (n:=3) (by omega) (by omega)) fun w hw cw=>Gd.ret ⟨?_,cw⟩
 exact aOM hx.1 hx.2 hy.1 hy.2 hz hw.1 hw.2
def auj {up:List UInt8}{view:Int}(hv:I64 view)(l:List fE):(Sl up view l).length<=up.length+23+91*l.length:=by
 unfold Sl;split
 .rename_i h;exact acg up hv h.1
 .exact aT _
def aqy {l h n:Int}(h0:0<=l)(h1:l<=h)(h2:h<=n):SJ l h n=true:=by simp[SJ,h0,h1,h2]
def aqz (l:List UInt8):∀(k:Nat),k<=l.length->(ic l k=0/\∀j,j<k->l.getD j 0≠47)\/(0<ic l k/\ic l k<=k/\l.getD (ic l k-1) 0=47/\∀j,ic l k<=j->j<k->l.getD j 0≠47)
 |0,_=>.inl ⟨rfl,fun j h=>absurd h (SE _)⟩
 |k+1,hk=>by
  have aLF:∀b:UInt8,((b.toNat:Int) != 47)=true↔b≠47:=by
   intro b;rw[Ew];constructor
   .rintro h rfl;exact h rfl
   .intro h h2;refine h (UInt8.toNat_inj.1 ?_);show b.toNat=47;omega
  unfold ic;split
  .rename_i h;rw[aLF]at h;rcases aqz l k (by omega) with ⟨h1,h2⟩|⟨h1,h2,h3,h4⟩
   .refine .inl ⟨h1,fun j hj=>?_⟩;by_cases e:j=k
    .rw[e];exact h
    .exact h2 j (by omega)
   .refine .inr ⟨h1,by omega,h3,fun j hj1 hj2=>?_⟩;by_cases e:j=k
    .rw[e];exact h
    .exact h4 j hj1 (by omega)
  .rename_i h;rw[aLF]at h;refine .inr ⟨afR _,bZ _,axP fun hn=>h hn,fun j h1 h2=>by omega⟩
def QY {l:List UInt8}(h:bu l=true)(h0:l≠[]):∃t,(47:UInt8) ∉ t/\l=fQ l++47::t:=by
 have hp:0<ic l l.length:=by obtain⟨t,rfl⟩:=aqj h h0;exact ahW _ (afR _)
 rcases aqz l l.length (bZ _) with ⟨h1,_⟩|⟨_,h2,h3,h4⟩
 .omega
 .have hlt:ic l l.length-1<l.length:=by omega
  have hu:fQ l=l.take (ic l l.length-1):=by unfold fQ;rw[ai h]
  refine⟨l.drop (ic l l.length),fun hm=>?_,?_⟩
  .obtain⟨j,hj,e⟩:=aiq hm;rw[List.getElem_drop]at e;rw[bB]at hj;refine h4 (ic l l.length+j) (by omega) (by omega) ?_;rw[Gr,pc (by omega)];exact e
  .rw[hu]
   conv=>lhs;rw[<-acL (ic l l.length-1) l]
   congr 1
   rw[UT hlt];rw[Gr,pc hlt]at h3;rw[show l[ic l l.length-1]=47 from h3,show ic l l.length-1+1=ic l l.length by omega]
def xF {l:List UInt8}(h:bu l=true):bu (fQ l)=true:=by
 by_cases h0:l=[]
 .subst h0;rfl
 .obtain⟨t,ht,e⟩:=QY h h0;exact(aqw ht (e▸h)).1
def aCi {l:List UInt8}(h:bu l=true)(h0:l≠[]):(fQ l).length<l.length:=by obtain⟨t,_,e⟩:=QY h h0;have:=qd List.length e;rw[aL,aZ]at this;omega
def QZ {l:List UInt8}(h:bu l=true)(h0:l≠[]):∃x,(bj l).1=(bj (fQ l)).1++[x]/\aH l=x.1:=by obtain⟨t,ht,e⟩:=QY h h0;obtain⟨_,x,hx⟩:=aqw ht (e▸h);rw[<-e]at hx;refine⟨x,hx,?_⟩;unfold aH;rw[hx,List.getLast?_append];rfl
def aRT (r:List QQ):Int:=match r.getLast? with|some s=>s.1|none=>0
def auk:∀{ps:List (List UInt8)} {v0:Int} {r1:List QQ} {x:QQ},ur ud v0 ps=some (r1++[x])->(match r1.getLast? with|some s=>s.1|none=>v0)<x.1
 |[],v0,r1,x,h=>by cases r1<;>cases h
 |p::ps,v0,r1,x,h=>by
  unfold ur at h;cases hp:ud v0 p with
  |none=>rw[hp]at h;cases h
  |some y =>
   obtain⟨s',b⟩:=y;rw[hp]at h;dsimp only at h;have hb:=Xt hp;have hlt:v0<b.1:=by
    unfold ud at hp;split at hp
    .rename_i hc;cases hp;exact hc.2.2.2.1
    .cases hp
   cases hr:ur ud s' ps with
   |none=>rw[hr]at h;cases h
   |some r =>
    rw[hr]at h;have h:=fJ h;cases r1 with
    |nil =>
     obtain⟨e1,e2⟩:=uE h;rw[<-e1];exact hlt
    |cons z r1 =>
     obtain⟨e1,e2⟩:=uE h;rw[e2]at hr;have:=auk hr;rw[hb.2]at this;rw[<-e1];cases r1 with
     |nil=>exact this
     |cons w r1 =>
      rw[List.getLast?_cons_cons];cases hg:(w::r1).getLast? with
      |none=>exact absurd (List.getLast?_eq_none_iff.1 hg) (by simp)
      |some s =>
       rw[hg]at this;exact this
def aw3 {l:List UInt8}(h:bu l=true)(h0:l≠[]):aH (fQ l)<aH l:=by
 obtain⟨x,hx,hv⟩:=QZ h h0;rw[hv];have h2:=h;unfold bu at h2;unfold bj at h2 hx;rw[ah h0]at h2 hx;cases hp:parts 47 l with
 |nil=>rw[hp]at h2;cases h2
 |cons p0 ps =>
  rw[hp]at h2 hx;dsimp only at h2 hx;split at h2
  .cases h2
  .rename_i hc;rw[ah hc]at hx;cases hr:ur ud 0 ps with
   |none=>rw[hr]at h2;cases h2
   |some r =>
    rw[hr]at hx;dsimp only at hx;rw[show r=_ from hx]at hr;exact auk hr
def ahZ (c:UInt8):∀l:List UInt8,l.length+1=((parts c l).map fun p=>p.length+1).sum
 |[]=>rfl|x::l=>by
  have ih:=ahZ c l;rw[Sk];split
  .rw[tW,amQ,<-ih,aZ,bE];omega
  .have hne:=Fo c l;cases hp:parts c l with
   |nil=>exact absurd hp hne
   |cons p ps =>
    rw[hp]at ih;rw[tW,amQ]at ih ⊢;rw[aZ,aZ];omega
def aCj {U:Type}{f:U->Nat}{b:Nat}:∀{l:List U},(∀x∈l,f x<=b)->(l.map f).sum<=b*l.length
 |[],_=>aT _|x::l,h=>by
  have h1:=h x qU;have h2:=aCj fun y hy=>h y (ka x hy)
  rw[tW,amQ,aZ,Nat.mul_succ];omega
def ah0 {σ V:Type}{f:σ->List UInt8->Option (σ×V)}{Q:List UInt8->Prop}(hQ:∀s p s' b,f s p=some (s',b)->Q p):∀{P:List (List UInt8)} {s:σ} {r:List V},ur f s P=some r->∀p∈P,Q p
 |[],_,_,_,p,hp=>by cases hp
 |q::P,s,r,h,p,hp=>by
  unfold ur at h;cases hf:f s q with
  |none=>rw[hf]at h;cases h
  |some y =>
   obtain⟨s',b⟩:=y;rw[hf]at h;dsimp only at h;cases hr:ur f s' P with
   |none=>rw[hr]at h;cases h
   |some r' =>
    rcases dE.1 hp with rfl|hp
    .exact hQ _ _ _ _ hf
    .exact ah0 hQ hr p hp
def aKx {l:List UInt8}(h:(Y8 l).2=true):l.length<=90:=by
 unfold Y8 at h;split at h
 .rename_i hc;rw[<-hc.2];exact ap0 hc.1
 .cases h
def aIr {l:List UInt8}(h:(mm l).2=true):l.length<=91*(mm l).1.length:=by
 unfold mm at h ⊢;split at h
 .rename_i h0;rw[ai h0,h0];exact bZ _
 .rename_i h0;rw[ah h0];cases hr:ur txF () (parts 44 l) with
  |none=>rw[hr]at h;cases h
  |some r =>
   have hl:=QP hr;have hs:=ahZ 44 l;have:=aCj (f:=fun p:List UInt8=>p.length+1) (b:=91) (l:=parts 44 l) (ah0 (f:=txF) (Q:=fun p=>p.length+1<=91) (fun s p s' b hf=>by
    unfold txF at hf;split at hf
    .rename_i hc;have:=aKx hc;omega
    .cases hf) hr)
   dsimp only;omega
def aKy {l:List UInt8}(h:(gu l).2=true):l.length<=6:=by
 unfold gu at h;split at h
 .cases h
 .rename_i hc;omega
def aMG (l:List UInt8)(c:UInt8):l.length<=(l.takeWhile (· != c)).length+((l.dropWhile (· != c)).drop 1).length+1:=by have h:=qd List.length (List.takeWhile_append_dropWhile (p:=(· != c)) (l:=l));rw[aL]at h;rw[bB];omega
def aIs {JO:Int}{p:List UInt8}{s':Int}{b:QQ}(h:ud JO p=some (s',b)):p.length<=189:=by
 unfold ud at h;split at h
 .rename_i hc;have h1:=aKy hc.2.1;have h2:=aIr hc.2.2.1;have h3:=hc.2.2.2.2.2;have h4:=aMG p 124;unfold fC at h1 h2 h3;dsimp only at h1 h2 h3;omega
 .cases h
def aKz {l:List UInt8}(h:bu l=true):l.length<=5700:=by
 by_cases h0:l=[]
 .rw[h0];exact aT _
 unfold bu bj at h;rw[ah h0]at h;have hs:=ahZ 47 l;cases hp:parts 47 l with
 |nil=>rw[hp]at h;cases h
 |cons p0 ps =>
  rw[hp]at h hs;dsimp only at h;split at h
  .cases h
  .rename_i hc;have h00:p0=[]:=axP fun hn=>hc (.inl hn)
   have hl:¬30<ps.length:=fun hn=>hc (.inr hn)
   cases hr:ur ud 0 ps with
   |none=>rw[hr]at h;cases h
   |some r =>
    have:=aCj (f:=fun p:List UInt8=>p.length+1) (b:=190) (l:=ps) (ah0 (f:=ud) (Q:=fun p=>p.length+1<=190) (fun s p s' b hf=>by have:=aIs hf;omega) hr);rw[tW,amQ,h00,bE]at hs;omega
def OK:Nat->Int->List Int
 |0,v=>[v]|k+1,v=>if v<128 then [v] else (v%128+128)::OK k (v/128)
def ay (v:Int):List Int:=if 0<=v/\v<=2147483647 then OK 4 v else []
def aqA:∀(k:Nat) (v:Int),1<=(OK k v).length/\(OK k v).length<=k+1
 |0,v=>⟨bZ _,bZ _⟩|k+1,v=>by
  unfold OK;have:=aqA k (v/128);split
  .exact⟨bZ _,by rw[dM];omega⟩
  .rw[aZ];omega
def aqB:∀(k:Nat) (v:Int),0<=v->v<128 ^ (k+1)->∀x∈OK k v,0<=x/\x<=255
 |0,v,h0,h1,x,hx=>by rw[hU.1 hx];have:(128:Int) ^ (0+1)=128:=rfl;omega
 |k+1,v,h0,h1,x,hx=>by
  unfold OK at hx;split at hx
  .rw[hU.1 hx];omega
  .rcases dE.1 hx with rfl|hx
   .omega
   .refine aqB k (v/128) (by omega) ?_ x hx;have e:(128:Int) ^ (k+1+1)=128 ^ (k+1)*128:=SF _ _;omega
def cJ (v:Int):(ay v).length<=5:=by
 unfold ay;split
 .exact(aqA 4 v).2
 .exact aT _
def gy (v:Int):∀x∈ay v,0<=x/\x<=255:=by
 unfold ay;split
 .rename_i h;have h5:(128:Int) ^ (4+1)=34359738368:=by decide
  exact aqB 4 v h.1 (by omega)
 .intro x hx;cases hx
def azB:∀(j k:Nat) (v n:Int) (rest:List Int),j+k=4->0<=v->v<128 ^ (j+1)->(k≠0->v≠0)->0<=n->n+v*128 ^ k<=2147483647->QV (j+1) (OK j v++rest) k n=some (n+v*128 ^ k,k+(OK j v).length)
 |0,k,v,n,rest,hjk,h0,h1,hz,hn,hm=>by have e1:(128:Int) ^ (0+1)=128:=rfl;unfold OK QV;rw[List.singleton_append];dsimp only;rw[ai (by omega),ah (fun h=>h.elim (fun h=>hz h.1 h.2) (fun h=>by omega))];rfl
 |j+1,k,v,n,rest,hjk,h0,h1,hz,hn,hm=>by
  unfold OK;have hp:=Sh (k:=k) (by omega);have ek:(128:Int) ^ (k+1)=128 ^ k*128:=SF _ _;have ej:(128:Int) ^ (j+1+1)=128 ^ (j+1)*128:=SF _ _;split
  .rename_i hv;unfold QV;rw[List.singleton_append];dsimp only;rw[ai hv,ah (fun h=>h.elim (fun h=>hz h.1 h.2) (fun h=>by omega))];rfl
  .rename_i hv;unfold QV;rw[Gt];dsimp only;have hr:0<=v%128/\v%128<128:=⟨aiw _ (by omega),amE _ (by omega)⟩;rw[ah (by omega),show(v%128+128)%128=v%128 by omega];have aIt:v*128 ^ k=v%128*128 ^ k+v/128*128 ^ (k+1):=by
    rw[ek];have:v=v%128+128*(v/128):=(Int.emod_add_mul_ediv v 128).symm;generalize (128:Int) ^ k=P at *
    calc v*P=(v%128+128*(v/128))*P:=by rw[<-this]
     _=v%128*P+v/128*(P*128):=by rw[Int.add_mul,Int.mul_comm 128,Int.mul_assoc,Int.mul_comm 128]
   have hq:=aqk (d:=v%128) (P:=128 ^ k) hr.1 (by omega) hp.1;have:=azB j (k+1) (v/128) (n+v%128*128 ^ k) rest (by omega) (by omega) (by omega) (fun _=>by omega) (by omega) (by rw[Int.add_assoc,<-aIt];exact hm);rw[this,Int.add_assoc,<-aIt,aZ]
   congr 2
   omega
def afh {pre rest:List Int}{v:Int}(h0:0<=v)(h1:v<=2147483647):rX (pre++(ay v++rest)) pre.length=some (v,pre.length+(ay v).length):=by
 have h5:(128:Int) ^ (4+1)=34359738368:=by decide
 unfold rX ay;rw[amO,ai ⟨h0,h1⟩,azB 4 0 v 0 rest rfl h0 (by omega) (fun h=>absurd rfl h) (UY _) (by have:(128:Int) ^ 0=1:=rfl;omega)];have:(128:Int) ^ 0=1:=rfl;dsimp only;rw[this,Int.mul_one,Int.zero_add,xK]
def gJ (s:ByteArray):List Int:=ay (s.size:Int)++bytesOf s
def XI (s:ByteArray):(bytesOf s).length=s.size:=by unfold bytesOf;rw[qV];rfl
def asT (s:ByteArray):∀x∈bytesOf s,0<=x/\x<=255:=by intro x hx;obtain⟨b,_,rfl⟩:=Jr.1 hx;have:=UInt8.toNat_lt b;omega
def aFX (s:ByteArray):strOf (bytesOf s)=s:=by
 unfold strOf bytesOf;rw[List.map_map];have:(s.data.toList.map ((fun n:Int=>UInt8.ofNat n.toNat)∘fun b:UInt8=>(b.toNat:Int)))=s.data.toList:=by
  rw[List.map_congr_left (g:=id)]
  .exact List.map_id _
  .intro b _;show UInt8.ofNat ((b.toNat:Int).toNat)=b;rw[jw];exact UInt8.ofNat_toNat
 rw[this]
def aIu {pre rest:List Int}{s:ByteArray}(h:s.size<=1048576):ab9 (pre++(gJ s++rest)) pre.length=some (s,pre.length+(gJ s).length):=by
 have hl:=XI s;unfold ab9 gJ;rw[iT,afh (by omega) (by omega)];dsimp only;rw[ah ?_]
 .congr 1
  refine ug ?_ ?_
  .show strOf _=s;have e:((pre++(ay (s.size:Int)++(bytesOf s++rest))).take (pre.length+(ay (s.size:Int)).length+((s.size:Int)).toNat)).drop (pre.length+(ay (s.size:Int)).length)=bytesOf s:=by rw[jw,<-iT,<-iT,<-aL,<-hl,<-aL,afQ,amO]
   rw[e,aFX]
  .show _=pre.length+(ay _++bytesOf s).length;rw[aL,hl,jw,UX]
 .rw[aL,aL,aL,hl];omega
def kX {pre rest:List Int}{v:Int}(h0:0<=v)(h1:v<=2147483647):aV (pre++(ay v++rest)) (pre.length,true)=(v,(pre++ay v).length,true):=by unfold aV;rw[afh h0 h1,aL];rfl
def Sm {pre rest:List Int}{s:ByteArray}(h:s.size<=1048576):dL (pre++(gJ s++rest)) (pre.length,true)=(s,(pre++gJ s).length,true):=by unfold dL;rw[aIu h,aL];rfl
def jZ (l:List Int):List Int:=l.flatMap ay
def ajP (v:Int):Prop:=0<=v/\v<=2147483647
def aqC:∀(l pre rest xs:List Int) (f:Nat) (i n:Int),(∀x∈l,ajP x)->n=i+l.length->l.length<f->kJ (pre++(jZ l++rest)) n f i (pre.length,true) xs=(xs++l,(pre++jZ l).length,true)
 |[],pre,rest,xs,f+1,i,n,_,hn,_=>by unfold kJ;rw[ah (fun h=>by have:=h.1;simp at hn;omega)];simp[jZ]
 |x::l,pre,rest,xs,f+1,i,n,hl,hn,hf=>by
  have hx:=hl x qU;unfold kJ;rw[aZ]at hn hf;rw[ai ⟨by omega,rfl⟩];have e:pre++(jZ (x::l)++rest)=pre++(ay x++(jZ l++rest)):=by simp[jZ]
  rw[e,kX hx.1 hx.2];dsimp only;have e2:pre++(ay x++(jZ l++rest))=(pre++ay x)++(jZ l++rest):=by simp
  rw[e2,aqC l (pre++ay x) rest (xs++[x]) f (i+1) n (fun y hy=>hl y (ka _ hy)) (by omega) (by omega)];simp[jZ]
def A5 (l:List Int):List Int:=ay (l.length:Int)++jZ l
def aqD (k:Nat)(v:Int):1<=(OK k v).length:=(aqA k v).1
def ah1:∀{l:List Int},(∀x∈l,ajP x)->l.length<=(jZ l).length/\(jZ l).length<=5*l.length
 |[],_=>⟨bZ _,bZ _⟩|x::l,h=>by
  have hx:=h x qU;have ih:=ah1 fun y hy=>h y (ka _ hy)
  have h1:1<=(ay x).length/\(ay x).length<=5:=by refine⟨?_,cJ x⟩;unfold ay;rw[ai (show 0<=x/\x<=2147483647 from hx)];exact aqD 4 x
  have e:jZ (x::l)=ay x++jZ l:=rfl;rw[e,aL,aZ];omega
def aul {pre rest l:List Int}(hl:∀x∈l,ajP x)(h:l.length<=1048576):BB (pre++(A5 l++rest)) (pre.length,true)=(l,(pre++A5 l).length,true):=by
 unfold BB A5;rw[iT,kX (by omega) (by omega)];dsimp only;have e:pre++(ay (l.length:Int)++(jZ l++rest))=(pre++ay (l.length:Int))++(jZ l++rest):=by simp
 have:=ah1 hl;rw[e,aqC l (pre++ay (l.length:Int)) rest [] _ 0 _ hl (by omega) (by simp only[aL];omega)];simp
def kK (q:cY):List Int:=ay q.1++(gJ q.2.1++A5 q.2.2)
structure aKA (q:cY):Prop where
 v:ajP q.1
 n:q.2.1.size<=1048576
 w:q.2.2.length<=1048576
 m:∀x∈q.2.2,ajP x
def aqE {pre rest:List Int}{q:cY}(h:aKA q):xE (pre++(kK q++rest)) (pre.length,true)=(q,(pre++kK q).length,true):=by
 unfold xE kK;have e1:pre++(ay q.1++(gJ q.2.1++A5 q.2.2)++rest)=pre++(ay q.1++(gJ q.2.1++(A5 q.2.2++rest))):=by simp
 have e2:pre++(ay q.1++(gJ q.2.1++(A5 q.2.2++rest)))=(pre++ay q.1)++(gJ q.2.1++(A5 q.2.2++rest)):=by simp
 have e3:pre++(ay q.1++(gJ q.2.1++(A5 q.2.2++rest)))=(pre++ay q.1++gJ q.2.1)++(A5 q.2.2++rest):=by simp
 have h1:aV (pre++(ay q.1++(gJ q.2.1++(A5 q.2.2++rest)))) (pre.length,true)=(q.1,(pre++ay q.1).length,true):=kX h.v.1 h.v.2;have h2:dL (pre++(ay q.1++(gJ q.2.1++(A5 q.2.2++rest)))) ((pre++ay q.1).length,true)=(q.2.1,(pre++ay q.1++gJ q.2.1).length,true):=by rw[e2];exact Sm h.n
 have h3:BB (pre++(ay q.1++(gJ q.2.1++(A5 q.2.2++rest)))) ((pre++ay q.1++gJ q.2.1).length,true)=(q.2.2,(pre++ay q.1++gJ q.2.1++A5 q.2.2).length,true):=by rw[e3];exact aul h.m h.w
 rw[e1,h1];dsimp only;rw[h2];dsimp only;rw[h3];simp
def aw4 {a b:ByteArray}(h:(a.toList==b.toList)=true):a=b:=by have:=Ut a.data.toList b.data.toList;rw[<-VB,<-VB,h]at this;rw[VB a,VB b,nW this.symm]
def Q0 {a b:cY}(h:jv a b=true):a=b:=by simp only[jv,aI,bC,cA]at h;exact ug h.1 (ug (aw4 (bC.2 h.2.1)) h.2.2)
def aFY {a b:fE}(h:ahV a b=true):a=b:=by simp only[ahV,aI,bC]at h;exact ug h.1 (ug h.2.1 (ug h.2.2.1 h.2.2.2.1))
def aw5 {a b:dd}(h:p5 a b=true):a=b:=by simp only[p5,aI]at h;exact ug (aw4 h.1) (Q0 h.2)
def aci {a b:cQ}(h:tQ a b=true):a=b:=by simp only[tQ,aI]at h;obtain⟨h1,h2,h3,h4,h5,h6,h7⟩:=h;exact ug (bC.1 h1) (ug (bC.1 h2) (ug (aw5 h3) (ug (Q0 h4) (ug (Q0 h5) (ug (bC.1 h6) (aFY h7))))))
def azC {a b:bG}(h:iR a b=true):a=b:=by simp only[iR,aI]at h;obtain⟨h1,h2,h3,h4⟩:=h;exact ug (bC.1 h1) (ug (bC.1 h2) (ug (Q0 h3) (aw4 h4)))
def CE {n:Int}{s:List Int}(h:jA n s=true):∀x∈s,0<=x/\x<n:=by intro x hx;obtain⟨k,hk,rfl⟩:=aiq hx;have:=iU.1 h k (kb.2 hk);rw[Gr,pc hk]at this;simp only[aI,cA]at this;exact⟨this.1,this.2.1⟩
def aqF {n:Int}{s:List Int}(h:jA n s=true){k:Nat}(hk:k+1<s.length):s[k]<s[k+1]:=by
 have:=iU.1 h (k+1) (kb.2 hk);rw[show k+1-1=k from rfl,Gr,Gr,pc hk,pc (by omega)]at this;simp only[aI,kE,cA]at this;rcases this.2.2 with h1|h1
 .omega
 .exact h1
def azD {n:Int}{s:List Int}(h:jA n s=true):∀(k:Nat) (hk:k<s.length),(k:Int)<=s[k]
 |0,hk=>(CE h _ (cX hk)).1|k+1,hk=>by have h1:=azD h k (by omega);have h2:=aqF h hk;omega
def ah2 {n:Int}{s:List Int}(h:jA n s=true):(s.length:Int)<=max n 0:=by
 rcases amD s.length with h0|h0
 .omega
 .have h1:=azD h (s.length-1) (by omega);have h2:=(CE h s[s.length-1] (cX _)).2;omega
def kY {b:ByteArray}(h:bu b.data.toList=true):b.size<=5700:=aKz h
def xG {c:Int×Int}{q:cY}(h:fO c q=true):bL c=true/\bu q.2.1.data.toList=true/\aH q.2.1.data.toList=q.1/\(q.2.1.data.toList=[]->q.2.2=[])/\(q.2.1.data.toList≠[]->jA c.1 q.2.2=true/\(q.2.2.length:Int)>=uw c):=by
 unfold fO Y9 at h;simp only[aI,cA]at h;obtain⟨h1,h2,h3,h4⟩:=h;refine⟨h1,h2,h3,fun h0=>?_,fun h0=>?_⟩
 .rw[ai h0]at h4;exact nW h4
 .rw[ah h0]at h4;simp only[aI,cA]at h4;exact h4
def aaS {v:Int}(h0:0<=v)(h1:v<=1000000):ajP v:=⟨h0,by omega⟩
def tU {c:Int×Int}{q:cY}(h:fO c q=true):aKA q/\q.2.2.length<=7/\q.2.1.size<=5700:=by
 obtain⟨h1,h2,h3,h4,h5⟩:=xG h;have hn:=cF h1;have hs:=kY h2;have hv:=pZ q.2.1.data.toList;by_cases h0:q.2.1.data.toList=[]
 .have hw:=h4 h0;refine⟨⟨aaS (by omega) (by omega),by omega,by rw[hw];exact aT _,fun x hx=>by rw[hw]at hx;cases hx⟩,by rw[hw];exact aT _,hs⟩
 .obtain⟨hw,_⟩:=h5 h0;have hl:=ah2 hw;refine⟨⟨aaS (by omega) (by omega),by omega,by omega,fun x hx=>?_⟩,by omega,hs⟩;have:=CE hw x hx;exact aaS (by omega) (by omega)
def rY (b:ByteArray):eh b=true↔b.data.toList=[]:=by unfold eh;have:=Ut b.data.toList [];rw[<-VB,show tx []=al from rfl]at this;rw[this,cA]
def afi {c:Int×Int}{p:cY}(h:ju c p=true):bL c=true/\1<=p.1/\p.1<=60/\jA c.1 p.2.2=true/\p.2.2≠[]/\bu p.2.1.data.toList=true/\(p.2.1.data.toList≠[]->aH p.2.1.data.toList=p.1):=by
 unfold ju at h;simp only[aI,kE,ix,cA,ais,bC,ct]at h;obtain⟨h1,⟨h2,h3⟩,h4,h5,h6⟩:=h;refine⟨h1,h2,h3,h4,fun e=>h5 (by rw[e];rfl),?_,fun h0=>?_⟩
 .rcases h6 with h6|h6
  .rw[(rY _).1 h6];exact ab7
  .exact h6.1
 .rcases h6 with h6|h6
  .exact absurd ((rY _).1 h6) h0
  .exact h6.2
def Yv {c:Int×Int}{q:cY}(h:ju c q=true):aKA q/\q.2.2.length<=7/\q.2.1.size<=5700:=by obtain⟨h1,h2,h3,h4,_,h5,_⟩:=afi h;have hn:=cF h1;have hs:=kY h5;have hl:=ah2 h4;refine⟨⟨aaS (by omega) (by omega),by omega,by omega,fun x hx=>?_⟩,by omega,hs⟩;have:=CE h4 x hx;exact aaS (by omega) (by omega)
def CF (m:cQ):List Int :=
 ay m.1++(if m.1=1 then gJ m.2.2.1.1++kK m.2.2.1.2 else if m.1=2 then kK m.2.2.2.1 else if m.1=3 then ay m.2.1++(ay m.2.2.2.2.2.1++kK m.2.2.2.2.1)
  else ay m.2.2.2.2.2.2.1++(ay m.2.2.2.2.2.2.2.1++(ay m.2.2.2.2.2.2.2.2.1++ay m.2.2.2.2.2.2.2.2.2)))
def afj {v:Int}(h:ajP v)(rest:List Int):jB (ay v++rest)=(v,(ay v).length,true):=by have:=kX (pre:=[]) (rest:=rest) h.1 h.2;exact this
def aIv {c:Int×Int}{m:cQ}(h:dR c m=true):afd (CF m)=(m,(CF m).length,true):=by
 unfold dR at h;simp only[aI]at h;obtain⟨hc,hs,hk⟩:=h;have hn:=aci hs;obtain⟨aMH,view,⟨bn,bq⟩,part,qc,dk,tx⟩:=m;dsimp only at hk hn ⊢;by_cases k1:aMH=1
 .subst k1;rw[ai (by rfl)]at hk;simp only[gx,aI]at hk;have hq:=(tU hk.1).1;have hb:=kY hk.2.1;have e:CF (1,view,(bn,bq),part,qc,dk,tx)=ay 1++(gJ bn++(kK bq++[])):=by simp[CF]
  have e2:ay 1++(gJ bn++(kK bq++[]))=(ay 1++gJ bn)++(kK bq++[]):=by simp
  have r0:=afj (v:=1) (aaS (by decide) (by decide)) (gJ bn++(kK bq++[]));have r1:dL (ay 1++(gJ bn++(kK bq++[]))) ((ay 1).length,true)=(bn,(ay 1++gJ bn).length,true):=Sm (by omega);have r2:xE (ay 1++(gJ bn++(kK bq++[]))) ((ay 1++gJ bn).length,true)=(bq,(ay 1++gJ bn++kK bq).length,true):=by rw[e2];exact aqE hq
  rw[e];unfold afd aKp;rw[r0];dsimp only;rw[ai (by rfl),r1];dsimp only;rw[r2];rw[<-hn];simp[named]
 .by_cases k2:aMH=2
  .subst k2;rw[ah (by decide),ai (by rfl)]at hk;simp only[aI]at hk;have hq:=(Yv hk.1).1;obtain⟨pv,pn,pw⟩:=part;have e:CF (2,view,(bn,bq),(pv,pn,pw),qc,dk,tx)=ay 2++(ay pv++(gJ pn++(A5 pw++[]))):=by simp[CF,kK]
   have e2:ay 2++(ay pv++(gJ pn++(A5 pw++[])))=(ay 2++ay pv)++(gJ pn++(A5 pw++[])):=by simp
   have e3:ay 2++(ay pv++(gJ pn++(A5 pw++[])))=(ay 2++ay pv++gJ pn)++(A5 pw++[]):=by simp
   have r0:=afj (v:=2) (aaS (by decide) (by decide)) (ay pv++(gJ pn++(A5 pw++[])));have r1:aV (ay 2++(ay pv++(gJ pn++(A5 pw++[])))) ((ay 2).length,true)=(pv,(ay 2++ay pv).length,true):=kX hq.v.1 hq.v.2;have r2:dL (ay 2++(ay pv++(gJ pn++(A5 pw++[])))) ((ay 2++ay pv).length,true)=(pn,(ay 2++ay pv++gJ pn).length,true):=by rw[e2];exact Sm hq.n
   have r3:BB (ay 2++(ay pv++(gJ pn++(A5 pw++[])))) ((ay 2++ay pv++gJ pn).length,true)=(pw,(ay 2++ay pv++gJ pn++A5 pw).length,true):=by rw[e3];exact aul hq.m hq.w
   rw[e];unfold afd aKq;rw[r0];dsimp only;rw[ah (by decide),ai (by rfl),r1];dsimp only;rw[r2];dsimp only;rw[r3];rw[<-hn];simp[named]
  .by_cases k3:aMH=3
   .subst k3;rw[ah (by decide),ah (by decide),ai (by rfl)]at hk;simp only[aI,ix,cA]at hk;obtain⟨⟨v0,v1⟩,hq,⟨w0,w1⟩⟩:=hk;have hcn:=cF hc;rw[XB hcn.1 hcn.2.1]at w1;have hq:=(tU hq).1;have hw:ajP dk:=aaS w0 (by omega);have e:CF (3,view,(bn,bq),part,qc,dk,tx)=ay 3++(ay view++(ay dk++(kK qc++[]))):=by simp[CF]
    have e2:ay 3++(ay view++(ay dk++(kK qc++[])))=(ay 3++ay view)++(ay dk++(kK qc++[])):=by simp
    have e3:ay 3++(ay view++(ay dk++(kK qc++[])))=(ay 3++ay view++ay dk)++(kK qc++[]):=by simp
    have r0:=afj (v:=3) (aaS (by decide) (by decide)) (ay view++(ay dk++(kK qc++[])));have r1:aV (ay 3++(ay view++(ay dk++(kK qc++[])))) ((ay 3).length,true)=(view,(ay 3++ay view).length,true):=kX (by omega) (by omega);have r2:aV (ay 3++(ay view++(ay dk++(kK qc++[])))) ((ay 3++ay view).length,true)=(dk,(ay 3++ay view++ay dk).length,true):=by rw[e2];exact kX hw.1 hw.2
    have r3:xE (ay 3++(ay view++(ay dk++(kK qc++[])))) ((ay 3++ay view++ay dk).length,true)=(qc,(ay 3++ay view++ay dk++kK qc).length,true):=by rw[e3];exact aqE hq
    rw[e];unfold afd aKr;rw[r0];dsimp only;rw[ah (by decide),ah (by decide),ai (by rfl),r1];dsimp only;rw[r2];dsimp only;rw[r3];rw[<-hn];simp[named]
   .rw[ah (by simpa using k1),ah (by simpa using k2),ah (by simpa using k3)]at hk;simp only[aI,bC]at hk;obtain⟨k4,hx⟩:=hk;subst k4;obtain⟨t1,t2,t3,t4⟩:=tx;obtain⟨⟨a0,a1⟩,⟨b0,b1⟩,⟨c0,c1⟩,⟨d0,d1⟩⟩:=yg hx;dsimp only at a0 a1 b0 b1 c0 c1 d0 d1;have e:CF (4,view,(bn,bq),part,qc,dk,t1,t2,t3,t4)=ay 4++(ay t1++(ay t2++(ay t3++(ay t4++[])))):=by simp[CF]
    have e2:ay 4++(ay t1++(ay t2++(ay t3++(ay t4++[]))))=(ay 4++ay t1)++(ay t2++(ay t3++(ay t4++[]))):=by simp
    have e3:ay 4++(ay t1++(ay t2++(ay t3++(ay t4++[]))))=(ay 4++ay t1++ay t2)++(ay t3++(ay t4++[])):=by simp
    have e4:ay 4++(ay t1++(ay t2++(ay t3++(ay t4++[]))))=(ay 4++ay t1++ay t2++ay t3)++(ay t4++[]):=by simp
    have r0:=afj (v:=4) (aaS (by decide) (by decide)) (ay t1++(ay t2++(ay t3++(ay t4++[]))));have r1:aV (ay 4++(ay t1++(ay t2++(ay t3++(ay t4++[]))))) ((ay 4).length,true)=(t1,(ay 4++ay t1).length,true):=kX a0 (by omega);have r2:aV (ay 4++(ay t1++(ay t2++(ay t3++(ay t4++[]))))) ((ay 4++ay t1).length,true)=(t2,(ay 4++ay t1++ay t2).length,true):=by rw[e2];exact kX b0 (by omega)
    have r3:aV (ay 4++(ay t1++(ay t2++(ay t3++(ay t4++[]))))) ((ay 4++ay t1++ay t2).length,true)=(t3,(ay 4++ay t1++ay t2++ay t3).length,true):=by rw[e3];exact kX c0 (by omega)
    have r4:aV (ay 4++(ay t1++(ay t2++(ay t3++(ay t4++[]))))) ((ay 4++ay t1++ay t2++ay t3).length,true)=(t4,(ay 4++ay t1++ay t2++ay t3++ay t4).length,true):=by rw[e4];exact kX d0 (by omega)
    rw[e];unfold afd aKs;rw[r0];dsimp only;rw[ah (by decide),ah (by decide),ah (by decide),ai (by rfl),r1];dsimp only;rw[r2];dsimp only;rw[r3];dsimp only;rw[r4];rw[<-hn];simp[named]
def ah3 {c:Int×Int}{m:cQ}(h:dR c m=true):n7 c (CF m)=(m,true):=by unfold n7 fin;rw[aIv h];dsimp only;rw[ai ⟨rfl,rfl,h⟩]
def fP {a b:List Int}(ha:∀x∈a,0<=x/\x<=255)(hb:∀x∈b,0<=x/\x<=255):∀x∈a++b,0<=x/\x<=255:=fun x hx=>(jx.1 hx).elim (ha x) (hb x)
def acj (s:ByteArray):∀x∈gJ s,0<=x/\x<=255:=fP (gy _) (asT s)
def azE (l:List Int):∀x∈jZ l,0<=x/\x<=255:=fun x hx=>by obtain⟨y,_,h⟩:=List.mem_flatMap.1 hx;exact gy y x h
def Sn (q:cY):∀x∈kK q,0<=x/\x<=255:=fP (gy _) (fP (acj _) (fP (gy _) (azE _)))
def XJ (s:ByteArray):(gJ s).length<=s.size+5:=by have:=cJ (s.size:Int);unfold gJ;rw[aL,XI];omega
def XK {q:cY}(h:aKA q):(kK q).length<=q.2.1.size+5*q.2.2.length+15:=by have h1:=cJ q.1;have h2:=XJ q.2.1;have h3:=cJ (q.2.2.length:Int);have h4:=(ah1 h.m).2;unfold kK A5;rw[aL,aL,aL];omega
def aqG {c:Int×Int}{m:cQ}(h:dR c m=true):(CF m).length<=12000/\(∀x∈CF m,0<=x/\x<=255)/\1<=(CF m).length:=by
 unfold dR at h;simp only[aI]at h;obtain⟨hc,_,hk⟩:=h;have hp:=cJ m.1;have pos:m.1=1\/m.1=2\/m.1=3\/m.1=4:=by
  by_cases k1:m.1=1
  .exact .inl k1
  .by_cases k2:m.1=2
   .exact .inr (.inl k2)
   .by_cases k3:m.1=3
    .exact .inr (.inr (.inl k3))
    .rw[ah (by simpa using k1),ah (by simpa using k2),ah (by simpa using k3)]at hk;simp only[aI,bC]at hk;exact .inr (.inr (.inr hk.1))
 have one:1<=(ay m.1).length:=by unfold ay;rw[ai (by omega)];exact aqD 4 _
 unfold CF;refine⟨?_,fP (gy _) ?_,by rw[aL];omega⟩
 .rw[aL];rcases pos with k|k|k|k
  .rw[ai (by simpa using k)]at hk;simp only[gx,aI]at hk;have hq:=tU hk.1;have hb:=kY hk.2.1;have h1:=XJ m.2.2.1.1;have h2:=XK hq.1;rw[ai k,aL];omega
  .rw[ah (by simp[k]),ai (by simpa using k)]at hk;simp only[aI]at hk;have hq:=Yv hk.1;have h2:=XK hq.1;rw[ah (by omega),ai k];omega
  .rw[ah (by simp[k]),ah (by simp[k]),ai (by simpa using k)]at hk;simp only[aI]at hk;have hq:=tU hk.2.1;have h1:=cJ m.2.1;have h3:=cJ m.2.2.2.2.2.1;have h2:=XK hq.1;rw[ah (by omega),ah (by omega),ai k,aL,aL];omega
  .have h1:=cJ m.2.2.2.2.2.2.1;have h2:=cJ m.2.2.2.2.2.2.2.1;have h3:=cJ m.2.2.2.2.2.2.2.2.1;have h4:=cJ m.2.2.2.2.2.2.2.2.2;rw[ah (by omega),ah (by omega),ah (by omega),aL,aL,aL];omega
 .split
  .exact fP (acj _) (Sn _)
  .split
   .exact Sn _
   .split
    .exact fP (gy _) (fP (gy _) (Sn _))
    .exact fP (gy _) (fP (gy _) (fP (gy _) (gy _)))
def eC (s:bG):List Int:=ay s.1++(ay s.2.1++(kK s.2.2.1++gJ s.2.2.2))
def dX {c:Int×Int}{s:bG}(h:bM c s=true):(0<=s.1/\s.1<=60)/\(0<=s.2.1/\s.2.1<=60)/\fO c s.2.2.1=true/\bu s.2.2.2.data.toList=true:=by simp only[bM,ix,aI,cA]at h;exact h
def aFZ {c:Int×Int}{s:bG}(h:bM c s=true):Lu (eC s)=(s,(eC s).length,true):=by
 obtain⟨⟨a0,a1⟩,⟨b0,b1⟩,hq,hn⟩:=dX h;have hq:=(tU hq).1;have hs:=kY hn;obtain⟨v,l,q,d⟩:=s;dsimp only at a0 a1 b0 b1 hq hs ⊢;have e:eC (v,l,q,d)=ay v++(ay l++(kK q++(gJ d++[]))):=by simp[eC]
 have e2:ay v++(ay l++(kK q++(gJ d++[])))=(ay v++ay l)++(kK q++(gJ d++[])):=by simp
 have e3:ay v++(ay l++(kK q++(gJ d++[])))=(ay v++ay l++kK q)++(gJ d++[]):=by simp
 have r0:=afj (v:=v) ⟨a0,by omega⟩ (ay l++(kK q++(gJ d++[])));have r1:aV (ay v++(ay l++(kK q++(gJ d++[])))) ((ay v).length,true)=(l,(ay v++ay l).length,true):=kX b0 (by omega);have r2:xE (ay v++(ay l++(kK q++(gJ d++[])))) ((ay v++ay l).length,true)=(q,(ay v++ay l++kK q).length,true):=by rw[e2];exact aqE hq
 have r3:dL (ay v++(ay l++(kK q++(gJ d++[])))) ((ay v++ay l++kK q).length,true)=(d,(ay v++ay l++kK q++gJ d).length,true):=by rw[e3];exact Sm (by omega)
 rw[e];unfold Lu;rw[r0];dsimp only;rw[r1];dsimp only;rw[r2];dsimp only;rw[r3];simp
def aCk {c:Int×Int}{s:bG}(h:bM c s=true):o6 c (eC s)=(s,true):=by unfold o6;rw[aFZ h];dsimp only;rw[ai ⟨rfl,rfl,h⟩]
def Q1 {c:Int×Int}{s:bG}(h:bM c s=true):1<=(eC s).length/\(eC s).length<=12000:=by
 obtain⟨⟨a0,a1⟩,_,hq,hn⟩:=dX h;have hq:=tU hq;have hs:=kY hn;have h1:=cJ s.1;have h2:=cJ s.2.1;have h3:=XK hq.1;have h4:=XJ s.2.2.2;have one:1<=(ay s.1).length:=by unfold ay;rw[ai (by omega)];exact aqD 4 _
 unfold eC;rw[aL,aL,aL];omega
def azF (s:bG):∀x∈eC s,0<=x/\x<=255:=fP (gy _) (fP (gy _) (fP (Sn _) (acj _)))
def eE (s:bG):List Int:=ay ((eC s).length:Int)++(eC s++[10])
def de (l:List bG):List Int:=l.flatMap eE
def azG (s:bG):∀x∈eE s,0<=x/\x<=255:=fP (gy _) (fP (azF s) fun x hx=>by rw[hU.1 hx];omega)
def ah4 {c:Int×Int}{s:bG}(h:bM c s=true):1<=(eE s).length/\(eE s).length<=12010:=by have h1:=Q1 h;have h2:=cJ ((eC s).length:Int);unfold eE;rw[aL,aL,dM];omega
def aF0 {c:Int×Int}{s:bG}(h:bM c s=true)(pre rest:List Int):Lv c (pre++(eE s++rest)) pre.length=some (s,(pre++eE s).length):=by
 have hl:=Q1 h;have e:pre++(eE s++rest)=pre++(ay ((eC s).length:Int)++(eC s++(10::rest))):=by simp[eE]
 have hg:=afh (pre:=pre) (rest:=eC s++(10::rest)) (v:=((eC s).length:Int)) (by omega) (by omega);rw[e,CC hg];have e2:pre++(ay ((eC s).length:Int)++(eC s++(10::rest)))=(pre++ay ((eC s).length:Int))++(eC s++(10::rest)):=by simp
 have aMI:XH (pre++(ay ((eC s).length:Int)++(eC s++(10::rest)))) (pre.length+(ay ((eC s).length:Int)).length) (pre.length+(ay ((eC s).length:Int)).length+((eC s).length:Int).toNat)=eC s:=by unfold XH;rw[e2,jw,<-aL,<-iT,<-aL,afQ,amO]
 have Rc:(pre++(ay ((eC s).length:Int)++(eC s++(10::rest)))).getD (pre.length+(ay ((eC s).length:Int)).length+((eC s).length:Int).toNat) 0=10:=by rw[e2,jw,<-aL,<-iT,<-aL,Gr,as9 (bZ _),Nat.sub_self];rfl
 rw[aMI,Rc,aCk h,ah ?_,ah (by decide),ai rfl,jw]
 .simp only[eE,aL,dM]
  congr 2
  omega
 .simp only[aL,aZ];omega
def aum:∀(i k:Nat) (v:Int) (j q:Nat) (n:Int),k<(OK i v).length->0<=v->QV j ((OK i v).take k) q n=none
 |i,0,v,j,q,n,_,_=>by rw[List.take_zero];cases j<;>rfl
 |0,k+1,v,j,q,n,hk,_=>by unfold OK at hk;rw[dM]at hk;omega
 |i+1,k+1,v,j,q,n,hk,hv=>by
  unfold OK at hk ⊢;split at hk
  .rw[dM]at hk;omega
  .rename_i ae8;rw[ah ae8,List.take_succ_cons];cases j with
   |zero=>rfl
   |succ j =>
    unfold QV;rw[aZ]at hk;have:=aiw v (show(128:Int)≠0 by decide);rw[ah (by omega)];exact aum i k (v/128) j (q+1) _ (by omega) (by omega)
def aCl {c:Int×Int}{s:bG}(h:bM c s=true)(pre:List Int){k:Nat}(hk:k<(eE s).length):Lv c (pre++(eE s).take k) pre.length=none:=by
 have hl:=Q1 h;by_cases hp:k<(ay ((eC s).length:Int)).length
 .refine CD ?_;unfold rX;rw[amO];have e:(eE s).take k=(ay ((eC s).length:Int)).take k:=by unfold eE;rw[aC6 (by omega)]
  rw[e];have hb:ay ((eC s).length:Int)=OK 4 ((eC s).length:Int):=by unfold ay;rw[ai (by omega)]
  rw[hb]at hp ⊢;rw[aum 4 k _ 5 0 0 hp (by omega)]
 .have e:(eE s).take k=ay ((eC s).length:Int)++(eC s++[10]).take (k-(ay ((eC s).length:Int)).length):=by unfold eE;rw[auX,amC (by omega)]
  have hlen:(eE s).length=(ay ((eC s).length:Int)).length+((eC s).length+1):=by simp[eE]
  have hg:=afh (pre:=pre) (rest:=(eC s++[10]).take (k-(ay ((eC s).length:Int)).length)) (v:=((eC s).length:Int)) (by omega) (by omega);rw[e,CC hg,ai ?_];rw[aL,aL,bV,aL,dM];omega
def aF1 {c:Int×Int}(pre:List Int):Lv c pre pre.length=none:=by refine CD ?_;unfold rX;rw[UW];rfl
def aMJ (c:Int×Int)(t:List Int):Prop:=t=[]\/∃s k,bM c s=true/\k<(eE s).length/\t=(eE s).take k
def ajQ {c:Int×Int}{t:List Int}(ht:aMJ c t):∀(l:List bG) (pre:List Int) (f:Nat) (s:bG),(∀x∈l,bM c x=true)->l.length<f ->
  Hp c (pre++(de l++t)) f s pre.length=(l.getLastD s,(pre++de l).length)
 |[],pre,f+1,s,_,_=>by
  have hn:Lv c (pre++(de []++t)) pre.length=none:=by
   rcases ht with rfl|⟨x,k,h1,h2,rfl⟩
   .have:pre++(de []++[])=pre:=by simp[de]
    rw[this];exact aF1 pre
   .exact aCl h1 pre h2
  rw[kv hn];simp[de]
 |x::l,pre,f+1,s,hl,hf=>by
  have hx:=hl x qU;have e:pre++(de (x::l)++t)=pre++(eE x++(de l++t)):=by simp[de]
  have e2:pre++(eE x++(de l++t))=(pre++eE x)++(de l++t):=by simp
  have e3:(pre++de (x::l)).length=(pre++eE x++de l).length:=by simp[de]
  rw[aZ]at hf;rw[e,Lw (aF0 hx pre (de l++t)),e2,e3,ajQ ht l (pre++eE x) f x (fun y hy=>hl y (ka _ hy)) (by omega)];cases l<;>rfl
def ack {c:Int×Int}:∀{l:List bG},(∀x∈l,bM c x=true)->l.length<=(de l).length
 |[],_=>bZ _|x::l,h=>by
  have h1:=ah4 (h x qU);have h2:=ack fun y hy=>h y (ka _ hy)
  have e:de (x::l)=eE x++de l:=rfl;rw[e,aL,aZ];omega
def aqH {c:Int×Int}{t:List Int}(ht:aMJ c t){l:List bG}(hl:∀x∈l,bM c x=true):iQ c (de l++t)=(l.getLastD lV,(de l).length):=by have:=ajQ ht l [] ((de l++t).length+1) lV hl (by have:=ack hl;rw[aL];omega);rw[Bk,Bk]at this;exact this
def aqI {c:Int×Int}:∀{l:List bG} (k:Nat),(∀x∈l,bM c x=true)->∃i t,i<=l.length/\aMJ c t/\(de l).take k=de (l.take i)++t/\(de (l.take i)).length<=k/\∀j,j<=l.length->(de (l.take j)).length<=k->j<=i\/de (l.take j)=de (l.take i)
 |[],k,_=>⟨0,[],bZ _,.inl rfl,by simp[de],aT _,fun j hj _=>.inl hj⟩
 |x::l,k,h=>by
  have hx:=h x qU;have hlen:=ah4 hx;have e:de (x::l)=eE x++de l:=rfl;by_cases hk:k<(eE x).length
  .refine⟨0,(eE x).take k,aT _,.inr ⟨x,k,hx,hk,rfl⟩,?_,aT _,fun j hj hjk=>?_⟩
   .rw[e,aC6 (by omega)];rfl
   .cases j with
    |zero=>exact .inl (bZ _)
    |succ j =>
     rw[List.take_succ_cons]at hjk;have e2:de (x::l.take j)=eE x++de (l.take j):=rfl;rw[e2,aL]at hjk;omega
  .obtain⟨i,t,h1,h2,h3,h4,h5⟩:=aqI (k-(eE x).length) fun y hy=>h y (ka x hy)
   have e2:∀j,de ((x::l).take (j+1))=eE x++de (l.take j):=fun j=>rfl
   refine⟨i+1,t,by rw[aZ];omega,h2,?_,?_,fun j hj hjk=>?_⟩
   .rw[e,e2,auX,amC (by omega),h3,iT]
   .rw[e2,aL];omega
   .cases j with
    |zero=>exact .inl (aT _)
    |succ j =>
     rw[e2,aL]at hjk;rw[aZ]at hj;rcases h5 j (by omega) (by omega) with h6|h6
     .exact .inl (by omega)
     .exact .inr (by rw[e2,e2,h6])
def aCm {U V γ:Type}(X:Nat->Int->List V->Option γ)(a:List U)(f:U->V)(R:Option γ)
  (hs:∀n k xs (h:k<a.length),xs.length=k->X (n+1) (k:Int) xs=X n ((k+1:Nat):Int) (xs++[f a[k]])) (he:∀n,X (n+1) (a.length:Int) (a.map f)=R) (n:Nat) (hn:a.length<n):X n 0 []=R:=by
 refine dp X a.length (fun k xs=>xs=(a.take k).map f) R (fun n k xs hk h=>.inr ⟨_,hs n k xs hk (by rw[h,qV,bV];omega),?_⟩) (fun n xs h=>?_) n 0 [] (aT _) rfl (by omega)
 .rw[iy hk,ait,h];rfl
 .rw[h,mB];exact he n
def ajR {U γ:Type}(X:Nat->Int->List U->Option γ)(a:List U)(R:Option γ)
  (hs:∀n k xs (h:k<a.length),xs.length=k->X (n+1) (k:Int) xs=X n ((k+1:Nat):Int) (xs++[a[k]])) (he:∀n,X (n+1) (a.length:Int) a=R) (n:Nat) (hn:a.length<n):X n 0 []=R :=
 aCm X a id R hs (fun n=>by rw[List.map_id];exact he n) n hn
def amv {U γ:Type}(X:Nat->Int->List U->Option γ)(a:List U)(p:U->Bool)(R:Option γ)
  (hs:∀n k xs (h:k<a.length),xs.length<=k->X (n+1) (k:Int) xs=X n ((k+1:Nat):Int) (if p a[k]=true then xs++[a[k]] else xs)) (he:∀n,X (n+1) (a.length:Int) (a.filter p)=R) (n:Nat) (hn:a.length<n):X n 0 []=R:=by
 refine dp X a.length (fun k xs=>xs=(a.take k).filter p) R (fun n k xs hk h=>.inr ⟨_,hs n k xs hk (by rw[h];exact cR (amF _ _) (by rw[bV];omega)),?_⟩) (fun n xs h=>?_) n 0 [] (aT _) rfl (by omega)
 .rw[iy hk,List.filter_append,h];cases hp:p a[k]<;>simp[hp]
 .rw[h,mB];exact he n
def xH {q:cY}(h:q.2.2.length<=1048576):jT F0 q=some (q,()):=by rw[an5,az (a:=0) (by omega) (by omega) (by omega),ae];rfl
def n8 {q:cY}(h:q.2.2.length<=1048576):il F0 q=some (q,()):=by rw[akI,az (a:=0) (by omega) (by omega) (by omega),ae];rfl
def yj {q:cY}(h:q.2.2.length<=1048576):iN F0 q=some (q,()):=aqc (by omega)
def A6 {q:cY}(h:q.2.2.length<=1048576):fY F0 q=some (q,()):=by rw[aha,o5 (by omega),aj]
def N2 {s:bG}(h:nQ s):ow F0 s=some (s,()):=by rw[akH,xH h.1.2,aj]
def IX {s:bG}(h:nQ s):mb F0 s=some (s,()):=by rw[ag9,yj h.1.2,aj]
def afk {l:List cY}(h:l.length<=1048576)(hq:∀q∈l,u6 q):iq F0 l=some (l,()):=by
 rw[ago];refine ajR (fun n k xs=>vC F0 (zc F0) n (qi l k xs)) l _ (fun n k xs hk hx=>?_) (fun n=>?_) _ (by rw[cl];omega)
 .rw[EM,aX hk,af,av hk,ae,bF hk,n8 (hq _ (cX hk)).2,aj,az (by omega) (by omega) (by simp only[aZ,bE];omega),ae,ao (by omega)]
 .rw[EM,aK,aa,YP]
def aaT {l:List cY}(h:l.length<=1048576)(hq:∀q∈l,u6 q):fz F0 l=some (l,()):=by
 rw[aei];refine ajR (fun n k xs=>tf F0 (xo F0) n (oO l (l.length:Int) k xs)) l _ (fun n k xs hk hx=>?_) (fun n=>?_) _ (by rw[cl];omega)
 .rw[Bt,aX hk,af,av hk,ae,bF hk,A6 (hq _ (cX hk)).2,aj,az (by omega) (by omega) (by simp only[aZ,bE];omega),ae,ao (by omega)]
 .rw[Bt,aK,aa,WR]
def N3 {d:List Int×Int}(h:d.1.length<=1048576):jH F0 d=some (d,()):=by rw[akJ,az (a:=0) (by omega) (by omega) (by omega),ae];rfl
def IY {d:List Int×Int}(h:d.1.length<=1048576):mc F0 d=some (d,()):=by rw[ahb,az (a:=0) (by omega) (by omega) (by omega),ae];rfl
def XL {l:List fE}(h:l.length<=1048576):jL F0 l=some (l,()):=by rw[alz,az (a:=0) (by omega) (by omega) (by omega),ae];rfl
def aCn {b:dd}(h:b.2.2.2.length<=1048576):Mh F0 b=some (b,()):=by rw[an6,xH h,aj]
def asU {b:dd}(h:b.2.2.2.length<=1048576):As F0 b=some (b,()):=by rw[aej,yj h,aj]
def ajS {m:cQ}(h:gI m):ze F0 m=some (m,()):=by rw[akK,aCn h.2.1.2,aj,n8 h.2.2.1.2,aj,xH h.2.2.2.2,aj]
def ajT {m:cQ}(h:gI m):Au F0 m=some (m,()):=by rw[alA,asU h.2.1.2,aj,A6 h.2.2.1.2,aj,yj h.2.2.2.2,aj]
def afl {l:List kG}(h:l.length<=1048576)(hm:∀q∈l,gI q.2):uK F0 l=some (l,()):=by
 rw[agp];refine ajR (fun n k xs=>vG F0 (zf F0) n (qj l k xs)) l _ (fun n k xs hk hx=>?_) (fun n=>?_) _ (by rw[cl];omega)
 .rw[EN,aX hk,af,av hk,ae,ae,bF hk,ajS (hm _ (cX hk)),aj,az (by omega) (by omega) (by simp only[aZ,bE];omega),ae,ao (by omega)]
 .rw[EN,aK,aa,YQ]
def asV {l:List kG}(h:l.length<=1048576)(hm:∀q∈l,gI q.2):Av F0 l=some (l,()):=by
 rw[ael];refine ajR (fun n k xs=>tj F0 (xq F0) n (oP l (l.length:Int) k xs)) l _ (fun n k xs hk hx=>?_) (fun n=>?_) _ (by rw[cl];omega)
 .rw[Bu,aX hk,af,av hk,ae,bF hk,ajT (hm _ (cX hk)),aj,az (by omega) (by omega) (by simp only[aZ,bE];omega),ae,ao (by omega)]
 .rw[Bu,aK,aa,WT]
structure aF2 (r:aC):Prop where
 l:asP r
 d:eQ r.2.2.2.2.2.2.1.1
def eS {r:aC}(h:aF2 r):bo F0 r=some (r,()):=by rw[akL,N2 h.l.s,aj,az (a:=0) (by omega) (by omega) (by have:=h.l.p;omega),ae,afk h.l.t h.l.tq,aj,N3 h.d.1,aj,afl h.l.h h.l.hm,aj];rfl
def eT {r:aC}(h:aF2 r):aE F0 r=some (r,()):=by rw[alB,IX h.l.s,aj,XL h.l.p,aj,aaT h.l.t h.l.tq,aj,IY h.d.1,aj,asV h.l.h h.l.hm,aj]
def afm {x:mn}(h:x.2.length<=1048576):uU F0 x=some (x,()):=by rw[ahc,az (a:=0) (by omega) (by omega) (by omega),ae];rfl
structure OL (w:an):Prop where
 l:CB w
 b:∀r∈w.2.2.1,eQ r.2.2.2.2.2.2.1.1
def OL.rep {w:an}(h:OL w){r:aC}(hr:r∈w.2.2.1):aF2 r:=⟨h.l.rl r hr,h.b r hr⟩
def mi {w:an}(h:OL w):aS F0 w=some (w,()):=by
 have h1:=h.l.l;have h2:=h.l.r;have h3:=h.l.n;have h4:=h.l.s;rw[aen,o5 (by omega),aj,az (a:=0) (by omega) (by omega) (by omega),ae];refine ajR (fun n k xs=>tl F0 (xu F0) n (oR w w.2.2.1 (w.2.2.1.length:Int) k 0 0 w.1.1 w.1.2 [] [] [] [] w.2.1 xs [] ([]++w.2.2.2.2))) w.2.2.1 _ (fun n k xs hk hx=>?_) (fun n=>?_) _ (by rw[cl];omega)
 .rw[Bw,aX hk,af,av hk,ae,bF hk,eT (h.rep (cX hk)),aj,az (by omega) (by omega) (by simp only[aZ,bE];omega),ae,ao (by omega)]
 .rw[Bw,aK,aa,WW];refine ajR (fun n k xs=>tk F0 (xr F0) n (oQ w.2.2.2.1 (w.2.2.2.1.length:Int) k 0 0 w.1.1 w.1.2 [] [] [] [] w.2.1 w.2.2.1 xs ([]++w.2.2.2.2))) w.2.2.2.1 _ (fun n k xs hk hx=>?_) (fun n=>?_) _ (by rw[cl];omega)
  .rw[Bv,aX hk,af,av hk,ae,bF hk,afm (h.l.nb _ (cX hk)).1,aj,az (by omega) (by omega) (by simp only[aZ,bE];omega),ae,ao (by omega)]
  .rw[Bv,aK,aa,WV];rfl
def ajU {w:an}(h:OL w):zj F0 w=some (w,()):=by
 have h1:=h.l.l;have h2:=h.l.r;have h3:=h.l.n;have h4:=h.l.s;rw[akM,az (a:=0) (by omega) (by omega) (by omega),ae,az (a:=0) (by omega) (by omega) (by omega),ae];refine ajR (fun n k xs=>zi F0 (BX F0) n (sC w k 0 0 w.1.1 w.1.2 [] [] [] [] ([]++w.2.1) xs [] ([]++w.2.2.2.2))) w.2.2.1 _ (fun n k xs hk hx=>?_) (fun n=>?_) _ (by rw[cl];omega)
 .rw[GG,aX hk,af,av hk,ae,bF hk,eS (h.rep (cX hk)),aj,az (by omega) (by omega) (by simp only[aZ,bE];omega),ae,ao (by omega)]
 .rw[GG,aK,aa,abv];refine ajR (fun n k xs=>zh F0 (BW F0) n (sB w k 0 0 w.1.1 w.1.2 [] [] [] [] ([]++w.2.1) w.2.2.1 xs ([]++w.2.2.2.2))) w.2.2.2.1 _ (fun n k xs hk hx=>?_) (fun n=>?_) _ (by rw[cl];omega)
  .have hb:=(h.l.nb _ (cX hk)).1;rw[GF,aX hk,af,av hk,ae,ae,bF hk,az (a:=0) (by omega) (by omega) (by omega),ae,az (by omega) (by omega) (by simp only[aZ,bE];omega),ae,ao (by omega)];rfl
  .rw[GF,aK,aa,abu];rfl
def Yw {n:Int}(h0:0<=n)(h1:n<=255):IntKind.wrap .u8 n=n:=by simp[IntKind.wrap,IntKind.signed,IntKind.bits];omega
def azH:∀(k:Nat) (v:Int) (xs:List Int) (n:Nat),0<=v->v<128 ^ (k+1)->xs.length+k<=1000->k<n->k<=4->Dn F0 (FV F0) n (vW v xs)=some (xs++OK k v,())
 |0,v,xs,n,h0,h1,hx,hn,hk=>by obtain⟨n,rfl⟩:∃m,n=m+1:=⟨n-1,by omega⟩;have e1:(128:Int) ^ (0+1)=128:=rfl;rw[Ke,aR (show ¬v>127 by omega),aa,Ms,az (by omega) (by omega) (by first|omega|(simp only[aL,aZ,bE];omega)|(rw[bB,bV];omega)),ae,Yw h0 (by omega)];rfl
 |k+1,v,xs,n,h0,h1,hx,hn,hk=>by
  obtain⟨n,rfl⟩:∃m,n=m+1:=⟨n-1,by omega⟩;have hp:=Sh (k:=k) (by omega);have e1:(128:Int) ^ (k+1)=128 ^ k*128:=SF _ _;have e2:(128:Int) ^ (k+1+1)=128 ^ (k+1)*128:=SF _ _;rw[Ke];unfold OK;by_cases hv:v<128
  .rw[aR (show ¬v>127 by omega),aa,Ms,az (by omega) (by omega) (by first|omega|(simp only[aL,aZ,bE];omega)|(rw[bB,bV];omega)),ae,Yw h0 (by omega),ai hv]
  .rw[aN (show v>127 by omega),af,az (by omega) (by omega) (by first|omega|(simp only[aL,aZ,bE];omega)|(rw[bB,bV];omega)),ae,amB h0,aJ (n:=v/128) (by omega) (by omega),amA h0,
    aJ (n:=v%128+128) (by omega) (by omega),Yw (by omega) (by omega),azH k (v/128) (xs++[v%128+128]) n (by omega) (by omega) (by rw[aL,dM];omega) (by omega) (by omega),ah hv,iT]
   rfl
def azI:∀(k:Nat) (v:Int) (xs:List Int) (n:Nat),0<=v->v<128 ^ (k+1)->xs.length+k<=1000->k<n->k<=4->uS F0 (wy F0) n (pD v xs)=some (xs++OK k v,())
 |0,v,xs,n,h0,h1,hx,hn,hk=>by obtain⟨n,rfl⟩:∃m,n=m+1:=⟨n-1,by omega⟩;have e1:(128:Int) ^ (0+1)=128:=rfl;rw[oI,aR (show ¬v>=128 by omega),aa,qC,az (by omega) (by omega) (by first|omega|(simp only[aL,aZ,bE];omega)|(rw[bB,bV];omega)),ae,Yw h0 (by omega)];rfl
 |k+1,v,xs,n,h0,h1,hx,hn,hk=>by
  obtain⟨n,rfl⟩:∃m,n=m+1:=⟨n-1,by omega⟩;have hp:=Sh (k:=k) (by omega);have e1:(128:Int) ^ (k+1)=128 ^ k*128:=SF _ _;have e2:(128:Int) ^ (k+1+1)=128 ^ (k+1)*128:=SF _ _;rw[oI];unfold OK;by_cases hv:v<128
  .rw[aR (show ¬v>=128 by omega),aa,qC,az (by omega) (by omega) (by first|omega|(simp only[aL,aZ,bE];omega)|(rw[bB,bV];omega)),ae,Yw h0 (by omega),ai hv]
  .rw[aN (show v>=128 by omega),af,az (by omega) (by omega) (by first|omega|(simp only[aL,aZ,bE];omega)|(rw[bB,bV];omega)),ae,amB h0,aJ (n:=v/128) (by omega) (by omega),amA h0,
    aJ (n:=v%128+128) (by omega) (by omega),Yw (by omega) (by omega),azI k (v/128) (xs++[v%128+128]) n (by omega) (by omega) (by rw[aL,dM];omega) (by omega) (by omega),ah hv,iT]
   rfl
def kx (v:Int):fg F0 v=some (ay v,()):=by
 have h5:(128:Int) ^ (4+1)=34359738368:=by decide
 rw[aom,dG,aj,ae7];unfold ay;by_cases hv:0<=v/\v<=2147483647
 .rw[aN hv,aO,aa,ai hv,azH 4 v [] F0.n hv.1 (by omega) (by simp) (by rw[cl];omega) (by omega)];rfl
 .rw[aR hv,ff,af,ah hv]
def n9 (v:Int):fM F0 v=some (ay v,()):=by
 have h5:(128:Int) ^ (4+1)=34359738368:=by decide
 rw[WN,cm,aj,ae7];unfold ay;by_cases hv:0<=v/\v<=2147483647
 .rw[aN hv,aO,aa,ai hv,azI 4 v [] F0.n hv.1 (by omega) (by simp) (by rw[cl];omega) (by omega)];rfl
 .rw[aR hv,ff,af,ah hv]
def N4 {s:ByteArray}(h:s.size<=1048576):oA F0 s=some (gJ s,()):=by have:=cJ (s.size:Int);have hl:=XI s;rw[akZ,kx,aj,aN (show(s.size:Int)<=F0.mem by rw[aHK];omega),ae,az (by omega) (by omega) (by first|omega|(simp only[aL,aZ,bE];omega)|(rw[bB,bV];omega)),ae];rfl
def IZ {s:ByteArray}(h:s.size<=1048576):oU F0 s=some (gJ s,()):=by have:=cJ (s.size:Int);rw[alH,n9,aj,aMr (by first|omega|(simp only[aL,aZ,bE];omega)|(rw[bB,bV];omega)),ae];rfl
def A7 (l:List Int):(jZ l).length<=5*l.length:=by
 induction l with
 |nil=>exact bZ _
 |cons x l ih =>
  have:=cJ x;show(ay x++jZ l).length<=_;rw[aL,aZ];omega
def aCo (l:List Int)(x:Int):jZ (l++[x])=jZ l++ay x:=by simp[jZ]
def aw6 {γ:Type}(X:Nat->Int->List Int->Option γ)(l pre:List Int)(R:Option γ)(hl:l.length<=1048576)(hp:pre.length<=1048576)
  (hs:∀n k xs (h:k<l.length),xs.length<=10485760->X (n+1) (k:Int) xs=X n ((k+1:Nat):Int) (xs++ay l[k])) (he:∀n,X (n+1) (l.length:Int) (pre++jZ l)=R) (n:Nat) (hn:l.length<n):X n 0 pre=R:=by
 refine dp X l.length (fun k xs=>xs=pre++jZ (l.take k)) R (fun n k xs hk h=>.inr ⟨_,hs n k xs hk (by have:=A7 (l.take k);rw[bV]at this;rw[h,aL];omega),?_⟩) (fun n xs h=>?_) n 0 pre (aT _) (by simp[jZ]) (by omega)
 .rw[iy hk,aCo,h,iT]
 .rw[h,mB];exact he n
def XM {l:List Int}(h:l.length<=1048576):sU F0 l=some (jZ l,()):=by
 rw[ak8];refine aw6 (fun n k xs=>zM F0 (B8 F0) n (sS l k xs)) l [] _ h (by simp) (fun n k xs hk hx=>?_) (fun n=>?_) _ (by rw[cl];omega)
 .have:=cJ l[k];rw[GS,aX hk,af,av hk,ae,bF hk,kx,aj,az (by omega) (by omega) (by first|omega|(simp only[aL,aZ,bE];omega)|(rw[bB,bV];omega)),ae,ao (by omega)]
 .rw[GS,aK,aa,abF];rfl
def Fs {l:List Int}(h:l.length<=1048576):lM F0 l=some (jZ l,()):=by
 rw[alI];refine aw6 (fun n k xs=>AB F0 (Cq F0) n (tu l (l.length:Int) k xs)) l [] _ h (by simp) (fun n k xs hk hx=>?_) (fun n=>?_) _ (by rw[cl];omega)
 .have:=cJ l[k];rw[Hf,aX hk,af,av hk,ae,bF hk,n9,aj,az (by omega) (by omega) (by first|omega|(simp only[aL,aZ,bE];omega)|(rw[bB,bV];omega)),ae,ao (by omega)]
 .rw[Hf,aK,aa,abS];rfl
def qcB (c:Int×Int)(q:cY):List Int:=if fO c q=true then kK q else []
def N5 {s:ByteArray}(h:s.size<=1048576):(gJ s).length<=1048581:=by have:=XJ s;omega
def XN {q:cY}(h:u6 q)(c:Int×Int):sJ F0 c q=some (qcB c q,()):=by
 have h1:=cJ q.1;have h2:=N5 h.1;have h3:=cJ (q.2.2.length:Int);have hq:=h.2;rw[ak0,Sf h,aj];unfold qcB;cases hc:fO c q with
 |false=>rw[ff,af,ah (by decide)]
 |true =>
  have hb:=tU hc;rw[aO,aa,ai rfl,kx,aj,N4 h.1,aj,az (by omega) (by omega) (by first|omega|(simp only[aL,aZ,bE];omega)|(rw[bB,bV];omega)),ae,kx,aj,az (by omega) (by omega) (by first|omega|(simp only[aL,aZ,bE];omega)|(rw[bB,bV];omega)),ae];refine aw6 (fun n k xs=>zx F0 (B2 F0) n (sI k q.1 q.2.1 q.2.2 xs)) q.2.2 _ _ h.2 (by have:=XJ q.2.1;simp only[aL];omega) (fun n k xs hk hx=>?_) (fun n=>?_) _ (by rw[cl];omega)
  .have:=cJ q.2.2[k];rw[GM,aX hk,af,av hk,ae,bF hk,kx,aj,az (by omega) (by omega) (by first|omega|(simp only[aL,aZ,bE];omega)|(rw[bB,bV];omega)),ae,ao (by omega)]
  .rw[GM,aK,aa,abA];simp[kK,A5]
def Sp {q:cY}(h:u6 q)(c:Int×Int):tw F0 c q=some (qcB c q,()):=by
 have h1:=cJ q.1;have h2:=N5 h.1;have h3:=cJ (q.2.2.length:Int);have h4:=A7 q.2.2;have hq:=h.2;rw[alJ,QT h,aj];unfold qcB;cases hc:fO c q with
 |false=>rw[ff,af,ah (by decide)]
 |true =>
  rw[aO,aa,ai rfl,n9,aj,IZ h.1,aj,az (by omega) (by omega) (by first|omega|(simp only[aL,aZ,bE];omega)|(rw[bB,bV];omega)),ae,n9,aj,az (by omega) (by omega) (by first|omega|(simp only[aL,aZ,bE];omega)|(rw[bB,bV];omega)),ae,Fs h.2,aj,az (by omega) (by omega) (by first|omega|(simp only[aL,aZ,bE];omega)|(rw[bB,bV];omega)),ae];simp[kK,A5]
def ah5 {c:Int×Int}{q:cY}:(qcB c q).length<=6000:=by
 unfold qcB;split
 .rename_i h;have:=tU h;have:=XK this.1;omega
 .exact aT _
def ah6 (c:Int×Int)(s:bG):List Int:=if bM c s=true then eC s else []
def asW {s:bG}(h:nQ s)(c:Int×Int):zy F0 c s=some (ah6 c s,()):=by
 have h1:=cJ s.1;have h2:=cJ s.2.1;have h3:=ah5 (c:=c) (q:=s.2.2.1);have h4:=N5 h.2;rw[adN,CA h,aj];unfold ah6;cases hc:bM c s with
 |false=>rw[ff,af,ah (by decide)]
 |true =>
  have hq:=(dX hc).2.2.1;rw[aO,aa,ai rfl,kx,aj,kx,aj,az (by omega) (by omega) (by first|omega|(simp only[aL,aZ,bE];omega)|(rw[bB,bV];omega)),ae,XN h.1,aj,az (by omega) (by omega) (by first|omega|(simp only[aL,aZ,bE];omega)|(rw[bB,bV];omega)),ae,N4 h.2,aj,az (by omega) (by omega) (by first|omega|(simp only[aL,aZ,bE];omega)|(rw[bB,bV];omega)),ae];simp[eC,qcB,hq]
def aqJ {s:bG}(h:nQ s)(c:Int×Int):AG F0 c s=some (ah6 c s,()):=by
 have h1:=A7 [s.1,s.2.1];have h3:=ah5 (c:=c) (q:=s.2.2.1);have h4:=N5 h.2;simp only[aZ,bE]at h1;rw[aeq,Fp h,aj];unfold ah6;cases hc:bM c s with
 |false=>rw[ff,af,ah (by decide)]
 |true =>
  have hq:=(dX hc).2.2.1;rw[aO,aa,ai rfl,Fs (by simp),aj,Sp h.1,aj,az (by omega) (by omega) (by first|omega|(simp only[aL,aZ,bE];omega)|(rw[bB,bV];omega)),ae,IZ h.2,aj,az (by omega) (by omega) (by first|omega|(simp only[aL,aZ,bE];omega)|(rw[bB,bV];omega)),ae];simp[eC,qcB,hq,jZ]
def XO (c:Int×Int)(s:bG):List Int:=if bM c s=true then eE s else []
def asX {s:bG}(h:nQ s)(c:Int×Int):zz F0 c s=some (XO c s,()):=by
 rw[adP,asW h,aj];unfold XO ah6;cases hc:bM c s with
 |false=>rfl
 |true =>
  have hl:=Q1 hc;have hp:=cJ ((eC s).length:Int);simp only[iA];rw[show(((eC s).length:Int)==0)=false from ct.2 (by omega),aa,kx,aj,az (by omega) (by omega) (by first|omega|(simp only[aL,aZ,bE];omega)|(rw[bB,bV];omega)),ae,az (by omega) (by omega) (by first|omega|(simp only[aL,aZ,bE];omega)|(rw[bB,bV];omega)),ae];simp[eE]
def aqK {s:bG}(h:nQ s)(c:Int×Int):AH F0 c s=some (XO c s,()):=by
 rw[aes,aqJ h,aj];unfold XO ah6;cases hc:bM c s with
 |false=>rfl
 |true =>
  have hl:=Q1 hc;have hp:=cJ ((eC s).length:Int);simp only[iA];rw[show(((eC s).length:Int)==0)=false from ct.2 (by omega),aa,n9,aj,az (by omega) (by omega) (by first|omega|(simp only[aL,aZ,bE];omega)|(rw[bB,bV];omega)),ae,az (by omega) (by omega) (by first|omega|(simp only[aL,aZ,bE];omega)|(rw[bB,bV];omega)),ae];simp[eE]
def afn (c:Int×Int)(m:cQ):List Int:=if dR c m=true then CF m else []
def acm {c:Int×Int}{m:cQ}(h:dR c m=true):(m.1=1/\fO c m.2.2.1.2=true)\/m.1=2\/(m.1=3/\fO c m.2.2.2.2.1=true)\/m.1=4:=by
 unfold dR at h;simp only[aI]at h;obtain⟨hc,_,hk⟩:=h;by_cases k1:m.1=1
 .rw[ai (by simpa using k1)]at hk;simp only[gx,aI]at hk;exact .inl ⟨k1,hk.1⟩
 .by_cases k2:m.1=2
  .exact .inr (.inl k2)
  .by_cases k3:m.1=3
   .rw[ah (by simpa using k1),ah (by simpa using k2),ai (by simpa using k3)]at hk;simp only[aI]at hk;exact .inr (.inr (.inl ⟨k3,hk.2.1⟩))
   .rw[ah (by simpa using k1),ah (by simpa using k2),ah (by simpa using k3)]at hk;simp only[aI,bC]at hk;exact .inr (.inr (.inr hk.1))
def aw7 {m:cQ}(h:gI m)(c:Int×Int):DB F0 c m=some (afn c m,()):=by
 rw[agQ,Jk h,aj];unfold afn;cases hc:dR c m with
 |false=>rw[ff,af,ah (by decide)]
 |true =>
  have hp:=cJ m.1;rw[aO,aa,ai rfl,kx,aj];unfold CF;rcases acm hc with ⟨k,hq⟩|k|⟨k,hq⟩|k
  .have h1:=N5 h.1;have h2:=ah5 (c:=c) (q:=m.2.2.1.2);rw[show(m.1==1)=true by simpa using k,af,N4 h.1,aj,az (by omega) (by omega) (by first|omega|(simp only[aL,aZ,bE];omega)|(rw[bB,bV];omega)),ae,XN h.2.1,aj,az (by omega) (by omega) (by first|omega|(simp only[aL,aZ,bE];omega)|(rw[bB,bV];omega)),ae,ai k];simp[qcB,hq]
  .have h1:=cJ m.2.2.2.1.1;have h2:=N5 h.2.2.1.1;have h3:=cJ (m.2.2.2.1.2.2.length:Int);have h4:=A7 m.2.2.2.1.2.2;have h5:=h.2.2.1.2;rw[show(m.1==1)=false by simp[k],aa,show(m.1==2)=true by simp[k],af,kx,aj,az (by omega) (by omega) (by first|omega|(simp only[aL,aZ,bE];omega)|(rw[bB,bV];omega)),ae,N4 h.2.2.1.1,aj,az (by omega) (by omega) (by first|omega|(simp only[aL,aZ,bE];omega)|(rw[bB,bV];omega)),ae,kx,aj,
    az (by omega) (by omega) (by first|omega|(simp only[aL,aZ,bE];omega)|(rw[bB,bV];omega)),ae,XM h5,aj,az (by omega) (by omega) (by first|omega|(simp only[aL,aZ,bE];omega)|(rw[bB,bV];omega)),ae,ah (by omega),ai k]
   simp[kK,A5]
  .have h1:=A7 [m.2.1,m.2.2.2.2.2.1];have h2:=ah5 (c:=c) (q:=m.2.2.2.2.1);simp only[aZ,bE]at h1;rw[show(m.1==1)=false by simp[k],aa,show(m.1==2)=false by simp[k],aa,show(m.1==3)=true by simp[k],af,XM (by simp),aj,az (by omega) (by omega) (by first|omega|(simp only[aL,aZ,bE];omega)|(rw[bB,bV];omega)),ae,XN h.2.2.2,aj,az (by omega) (by omega) (by first|omega|(simp only[aL,aZ,bE];omega)|(rw[bB,bV];omega)),ae,ah (by omega),ah (by omega),ai k];simp[jZ,qcB,hq]
  .have h1:=A7 [m.2.2.2.2.2.2.1,m.2.2.2.2.2.2.2.1,m.2.2.2.2.2.2.2.2.1,m.2.2.2.2.2.2.2.2.2];simp only[aZ,bE]at h1;rw[show(m.1==1)=false by simp[k],aa,show(m.1==2)=false by simp[k],aa,show(m.1==3)=false by simp[k],aa,XM (by simp),aj,az (by omega) (by omega) (by first|omega|(simp only[aL,aZ,bE];omega)|(rw[bB,bV];omega)),ae,ah (by omega),ah (by omega),ah (by omega)];simp[jZ]
def aaU {m:cQ}(h:gI m)(c:Int×Int):uX F0 c m=some (afn c m,()):=by
 rw[ahf,Lr h,aj];unfold afn;cases hc:dR c m with
 |false=>rw[ff,af,ah (by decide)]
 |true =>
  have hp:=cJ m.1;rw[aO,aa,ai rfl,n9,aj];unfold CF;rcases acm hc with ⟨k,hq⟩|k|⟨k,hq⟩|k
  .have h1:=N5 h.1;have h2:=ah5 (c:=c) (q:=m.2.2.1.2);rw[show(m.1==1)=true by simpa using k,af,IZ h.1,aj,az (by omega) (by omega) (by first|omega|(simp only[aL,aZ,bE];omega)|(rw[bB,bV];omega)),ae,Sp h.2.1,aj,az (by omega) (by omega) (by first|omega|(simp only[aL,aZ,bE];omega)|(rw[bB,bV];omega)),ae,ai k];simp[qcB,hq]
  .have h1:=cJ m.2.2.2.1.1;have h2:=N5 h.2.2.1.1;have h3:=cJ (m.2.2.2.1.2.2.length:Int);have h4:=A7 m.2.2.2.1.2.2;have h5:=h.2.2.1.2;rw[show(m.1==1)=false by simp[k],aa,show(m.1==2)=true by simp[k],af,n9,aj,az (by omega) (by omega) (by first|omega|(simp only[aL,aZ,bE];omega)|(rw[bB,bV];omega)),ae,IZ h.2.2.1.1,aj,az (by omega) (by omega) (by first|omega|(simp only[aL,aZ,bE];omega)|(rw[bB,bV];omega)),ae,n9,aj,
    az (by omega) (by omega) (by first|omega|(simp only[aL,aZ,bE];omega)|(rw[bB,bV];omega)),ae,Fs h5,aj,az (by omega) (by omega) (by first|omega|(simp only[aL,aZ,bE];omega)|(rw[bB,bV];omega)),ae,ah (by omega),ai k]
   simp[kK,A5]
  .have h1:=A7 [m.2.1,m.2.2.2.2.2.1];have h2:=ah5 (c:=c) (q:=m.2.2.2.2.1);simp only[aZ,bE]at h1;rw[show(m.1==1)=false by simp[k],aa,show(m.1==2)=false by simp[k],aa,show(m.1==3)=true by simp[k],af,Fs (by simp),aj,az (by omega) (by omega) (by first|omega|(simp only[aL,aZ,bE];omega)|(rw[bB,bV];omega)),ae,Sp h.2.2.2,aj,az (by omega) (by omega) (by first|omega|(simp only[aL,aZ,bE];omega)|(rw[bB,bV];omega)),ae,ah (by omega),ah (by omega),ai k];simp[jZ,qcB,hq]
  .have h1:=A7 [m.2.2.2.2.2.2.1,m.2.2.2.2.2.2.2.1,m.2.2.2.2.2.2.2.2.1,m.2.2.2.2.2.2.2.2.2];simp only[aZ,bE]at h1;rw[show(m.1==1)=false by simp[k],aa,show(m.1==2)=false by simp[k],aa,show(m.1==3)=false by simp[k],aa,Fs (by simp),aj,az (by omega) (by omega) (by first|omega|(simp only[aL,aZ,bE];omega)|(rw[bB,bV];omega)),ae,ah (by omega),ah (by omega),ah (by omega)];simp[jZ]
def tV (a b:Int):Int:=if b>a then b else a
def Gn (a b:Int):Int:=if a<b then a else b
def CG (a b:Int):eK F0 a b=some (tV a b,()):=by
 rw[ZF];unfold tV;by_cases h:a>b
 .rw[aN h,af,ah (by omega)]
 .rw[aR h,aa];by_cases h2:b>a
  .rw[ai h2]
  .rw[ah h2,show a=b by omega]
def Yx (a b:Int):b8 F0 a b=some (Gn a b,()):=by
 rw[asa];unfold Gn;by_cases h:a<b
 .rw[aN h,af,ai h]
 .rw[aR h,aa,ah h]
def aIw {b:ByteArray}(h:b.size<=1048576):q9 F0 b=some ((bj b.data.toList).1,(bj b.data.toList).2,()):=Yn (Uu h)
def aF3 {b:ByteArray}(h:b.size<=1048576):oE F0 b=some ((bj b.data.toList).1,(bj b.data.toList).2,()):=Lk (Uu h)
def N6 (a b:cY):cY:=if a.1>b.1 then a else b
def azJ {a b:cY}(ha:u6 a)(hb:u6 b):HY F0 a b=some (N6 a b,()):=by
 rw[akS,xH ha.2,aj,xH hb.2,aj];unfold N6;by_cases h:a.1>b.1
 .rw[aN h,af,ai h]
 .rw[aR h,aa,ah h]
def aw8 {a b:cY}(ha:u6 a)(hb:u6 b):Iv F0 a b=some (N6 a b,()):=by
 rw[alL,yj ha.2,aj,yj hb.2,aj];unfold N6;by_cases h:a.1>b.1
 .rw[aN h,af,ai h]
 .rw[aR h,aa,ah h]
def Ly (ss:List QQ):Bool:=decide (3<=ss.length)&&(((ss.getD (ss.length-1) (0,[])).1==ak ((ss.getD (ss.length-2) (0,[])).1+1))&&((ss.getD (ss.length-2) (0,[])).1==ak ((ss.getD (ss.length-3) (0,[])).1+1)))
def Jl (b:ByteArray):Bool:=Ly (bj b.data.toList).1
def upB (b:ByteArray):ByteArray:=tx (fQ b.data.toList)
def aKB (l:List UInt8):(fQ l).length<=l.length:=by
 unfold fQ;split
 .rw[bV];omega
 .exact aT _
def LA (b:ByteArray):(upB b).size<=b.size:=by unfold upB;rw[bT];exact aKB _
def aF4 {b:ByteArray}(h:b.size<=1048576):ep F0 (tx (fQ b.data.toList))=some (aH (fQ b.data.toList),()):=by have:=p4 (b:=upB b) (cR (LA b) h);rw[show(upB b).data.toList=fQ b.data.toList from gb _]at this;exact this
def aCp {b:ByteArray}(h:b.size<=1048576):fj F0 (tx (fQ b.data.toList))=some (aH (fQ b.data.toList),()):=by have:=rW (b:=upB b) (cR (LA b) h);rw[show(upB b).data.toList=fQ b.data.toList from gb _]at this;exact this
def jd (b:ByteArray):ByteArray×Bool:=if Jl b=true then (upB (upB b),true) else (al,false)
def ajV {V:Type}{ss:List QQ}(hl:ss.length<=30)(x y:Option V) :
  br (decide ((ss.length:Int)<3)) y (ck (cr (ak ((ss.length:Int)-1)) (ss.length:Int)) (ck (cr (ak ((ss.length:Int)-2)) (ss.length:Int)) (br ((aU ss (ak ((ss.length:Int)-1)) (0,[])).1 != (ak ((aU ss (ak ((ss.length:Int)-2)) (0,[])).1+1))) y
   (ck (cr (ak ((ss.length:Int)-2)) (ss.length:Int)) (ck (cr (ak ((ss.length:Int)-3)) (ss.length:Int)) (br ((aU ss (ak ((ss.length:Int)-2)) (0,[])).1 != (ak ((aU ss (ak ((ss.length:Int)-3)) (0,[])).1+1))) y x))))))=if Ly ss=true then x else y:=by
 unfold Ly;by_cases h:3<=ss.length
 .rw[aR (show ¬(ss.length:Int)<3 by omega),aa,aN h,hY];have e1:ak ((ss.length:Int)-1)=((ss.length-1:Nat):Int):=by rw[aJ (by omega) (by omega)];omega
  have e2:ak ((ss.length:Int)-2)=((ss.length-2:Nat):Int):=by rw[aJ (by omega) (by omega)];omega
  have e3:ak ((ss.length:Int)-3)=((ss.length-3:Nat):Int):=by rw[aJ (by omega) (by omega)];omega
  rw[e1,e2,e3,av (by omega),ae,av (by omega),ae,av (by omega),ae,ae,mF,mF,mF];cases h1:((ss.getD (ss.length-1) (0,[])).1==ak ((ss.getD (ss.length-2) (0,[])).1+1))<;>cases h2:((ss.getD (ss.length-2) (0,[])).1==ak ((ss.getD (ss.length-3) (0,[])).1+1))<;>simp only[bne,h1,h2]<;>rfl
 .rw[aN (show(ss.length:Int)<3 by omega),af,aR h];rfl
def azK {b:ByteArray}(h:b.size<=1048576):HZ F0 b=some ((jd b).1,(jd b).2,()):=by
 have hu:mK F0 (tx (fQ b.data.toList))=some (upB (upB b),()):=ae5 (b:=upB b) (cR (LA b) h);rw[akU,aIw h,aj,ajV (rT _),ae5 h,aj,hu,aj];unfold jd Jl;cases hs:Ly (bj b.data.toList).1 with
 |true =>
  have:(bj b.data.toList).2=true:=by
   cases h2:(bj b.data.toList).2 with
   |true=>rfl|false=>rw[Xy h2]at hs;cases hs
  rw[this];rfl
 |false=>cases (bj b.data.toList).2<;>rfl
def aw9 {b:ByteArray}(h:b.size<=1048576):Iw F0 b=some ((jd b).1,(jd b).2,()):=by have hu:s6 F0 (tx (fQ b.data.toList))=some (upB (upB b),()):=ae6 (b:=upB b) (cR (LA b) h);rw[alN,aF3 h,aj,ajV (rT _),ae6 h,aj,hu,aj];unfold jd Jl;cases hs:Ly (bj b.data.toList).1<;>rfl
def Sq (c:Int×Int)(s:bG)(q:cY):bG :=
 if bM c s=true/\fO c q=true then (s.1,tV s.2.1 (aH (fQ q.2.1.data.toList)),N6 q s.2.2.1,if (jd q.2.1).2=true/\asQ (jd q.2.1).1 s.2.2.2=true then (jd q.2.1).1 else s.2.2.2) else s
def afo (b:ByteArray):(jd b).1.size<=b.size:=by
 unfold jd;split
 .exact cR (LA _) (LA _)
 .exact aT _
def axa {s:bG}{q:cY}(hs:nQ s)(hq:u6 q)(c:Int×Int):PD F0 c s q=some (Sq c s q,()):=by have h2:=afo q.2.1;rw[ayL,N2 hs,aj,CA hs,aj,Sf hq,aj,azJ hq hs.1,aj,ae5 hq.1,aj,aF4 hq.1,aj,CG,aj,azK hq.1,aj,azt (cR h2 hq.1) hs.2,aj];unfold Sq tV;cases bM c s<;>cases fO c q<;>cases (jd q.2.1).2<;>cases asQ (jd q.2.1).1 s.2.2.2<;>simp[af,aa]
def aqL {s:bG}{q:cY}(hs:nQ s)(hq:u6 q)(c:Int×Int):Qq F0 c s q=some (Sq c s q,()):=by have h2:=afo q.2.1;rw[ayR,IX hs,aj,Fp hs,aj,QT hq,aj,aw8 hq hs.1,aj,ae6 hq.1,aj,aCp hq.1,aj,aw9 hq.1,aj,afe (cR h2 hq.1) hs.2,aj];unfold Sq tV;cases bM c s<;>cases fO c q<;>cases (jd q.2.1).2<;>cases asQ (jd q.2.1).1 s.2.2.2<;>simp[af,aa]
def je (c:Int×Int)(s:bG)(b:dd):Bool:=bM c s&&(gx c b&&(decide (aH b.1.data.toList>s.1)&&decide (b.2.1>=s.2.1)))
def ajW {s:bG}{b:dd}(hs:nQ s)(h1:b.1.size<=1048576)(h2:u6 b.2)(c:Int×Int):zt F0 c s b=some (je c s b,()):=by rw[akY,CA hs,aj,NY h1 h2,aj,p4 h1,aj];unfold je;cases bM c s<;>cases gx c b<;>cases decide (aH b.1.data.toList>s.1)<;>rfl
def axb {s:bG}{b:dd}(hs:nQ s)(h1:b.1.size<=1048576)(h2:u6 b.2)(c:Int×Int):Iy F0 c s b=some (je c s b,()):=by rw[alQ,Fp hs,aj,IT h1 h2,aj,rW h1,aj];unfold je;cases bM c s<;>cases gx c b<;>cases decide (aH b.1.data.toList>s.1)<;>rfl
def azL (c:Int×Int)(s:bG)(b:dd):bG×Bool:=if je c s b=true then ((aH b.1.data.toList,s.2),true) else (s,false)
def aIx {s:bG}{b:dd}(hs:nQ s)(h1:b.1.size<=1048576)(h2:u6 b.2)(c:Int×Int):PE F0 c s b=some ((azL c s b).1,(azL c s b).2,()):=by rw[av3,N2 hs,aj,ajW hs h1 h2,aj,p4 h1,aj];unfold azL;cases je c s b<;>rfl
def aF5 {s:bG}{b:dd}(hs:nQ s)(h1:b.1.size<=1048576)(h2:u6 b.2)(c:Int×Int):Yi F0 c s b=some ((azL c s b).1,(azL c s b).2,()):=by rw[awq,IX hs,aj,axb hs h1 h2,aj,rW h1,aj];unfold azL;cases je c s b<;>rfl
abbrev qQ:=List Int×Int
def N7 (d:qQ)(b:List Int):qQ×Bool:=if gH d=true/\d.1.length+b.length<=100000 then ((d.1++b,d.2),true) else (d,false)
def dY {d:qQ}:gH d=true↔d.1.length<=100000/\0<=d.2/\d.2<=d.1.length:=by unfold gH ix;simp only[aI,cA];omega
def aCq {d:qQ}{b:List Int}(hd:d.1.length<=1048576)(hb:b.length<=1048576):Mu F0 d b=some ((N7 d b).1,(N7 d b).2,()):=by
 rw[aon,N3 hd,aj,az (by omega) (by omega) (by first|omega|(simp only[aL,aZ,bE];omega)|(rw[bB,bV];omega)),ae,Lp,aj,Lp,aj,aj];unfold N7;cases h:gH d with
 |false=>rfl
 |true =>
  have h1:=dY.1 h;by_cases h2:d.1.length+b.length<=100000
  .have:gH (d.1++b,d.2)=true:=dY.2 ⟨by dsimp only;rw[aL];exact h2,h1.2.1,by dsimp only;rw[aL];omega⟩;rw[this,ai ⟨rfl,h2⟩];rfl
  .have:gH (d.1++b,d.2)=false:=by
    cases h3:gH (d.1++b,d.2) with
    |false=>rfl
    |true =>
     have:=(dY.1 h3).1;dsimp only at this;rw[aL]at this;exact absurd this h2
   rw[this,ah (fun h=>h2 h.2)];rfl
def azM {d:qQ}{b:List Int}(hd:d.1.length<=1048576)(hb:b.length<=1048576):Ns F0 d b=some ((N7 d b).1,(N7 d b).2,()):=by
 rw[apq,IY hd,aj,az (by omega) (by omega) (by first|omega|(simp only[aL,aZ,bE];omega)|(rw[bB,bV];omega)),ae,NW,aj,aJ (by omega) (by omega)];unfold N7;cases h:gH d with
 |false=>rfl
 |true =>
  by_cases h2:d.1.length+b.length<=100000
  .rw[aR (show ¬(d.1.length:Int)+b.length>100000 by omega),ai ⟨rfl,h2⟩];rfl
  .rw[aN (show(d.1.length:Int)+b.length>100000 by omega),ah (fun h=>h2 h.2)];rfl
def lW (d:qQ):qQ:=if gH d=true then (d.1,(d.1.length:Int)) else d
def aIy {d:qQ}(hd:d.1.length<=1048576):Yd F0 d=some (lW d,()):=by rw[av9,N3 hd,aj,Lp,aj];unfold lW;cases gH d<;>rfl
def aF6 {d:qQ}(hd:d.1.length<=1048576):Yg F0 d=some (lW d,()):=by rw[awk,IY hd,aj,NW,aj];unfold lW;cases gH d<;>rfl
def LB (d:qQ)(keep:Int):Int:=d.2+tV 0 (Gn keep ((d.1.length:Int)-d.2))
def nS (d:qQ)(keep:Int):qQ:=if gH d=true then (d.1.take (LB d keep).toNat,LB d keep) else d
def afp {d:qQ}(h:gH d=true)(keep:Int):d.2<=LB d keep/\LB d keep<=d.1.length:=by have:=dY.1 h;unfold LB tV Gn;split<;>split<;>omega
def aCr {d:qQ}(hd:d.1.length<=1048576)(keep:Int):MR F0 d keep=some (nS d keep,()):=by
 rw[aoR,N3 hd,aj,Lp,aj,Yx,aj,CG,aj];unfold nS;cases h:gH d with
 |false=>rfl
 |true =>
  have h1:=dY.1 h;have h2:=afp h keep;have e1:ak ((d.1.length:Int)-d.2)=(d.1.length:Int)-d.2:=aJ (by omega) (by omega);have e2:ak (d.2+tV 0 (Gn keep ((d.1.length:Int)-d.2)))=LB d keep:=aJ (by unfold LB at h2;omega) (by unfold LB at h2;omega);rw[aO,aa,ai rfl];dsimp only;rw[e1,e2,aqy (by omega) (by omega) h2.2,ae,az (a:=0) (by omega) (by omega) (by first|omega|(simp only[aL,aZ,bE];omega)|(rw[bB,bV];omega)),ae];rfl
def azN {d:qQ}(hd:d.1.length<=1048576)(keep:Int):NO F0 d keep=some (nS d keep,()):=by
 rw[apM,IY hd,aj,NW,aj];unfold nS;cases h:gH d with
 |false=>rfl
 |true =>
  have h1:=dY.1 h;have h2:=afp h keep;have e1:ak ((d.1.length:Int)-d.2)=(d.1.length:Int)-d.2:=aJ (by omega) (by omega);have e2:ak (d.2+(if (d.1.length:Int)-d.2<(if 0>keep then 0 else keep) then (d.1.length:Int)-d.2 else (if 0>keep then 0 else keep)))=LB d keep:=by
   have:d.2+(if (d.1.length:Int)-d.2<(if 0>keep then 0 else keep) then (d.1.length:Int)-d.2 else (if 0>keep then 0 else keep))=LB d keep:=by unfold LB tV Gn;split<;>split<;>split<;>split<;>omega
   rw[this];exact aJ (by omega) (by omega)
  rw[af,ai rfl];dsimp only;rw[e1,e2,show okT (LB d keep) (d.1.length:Int)=true by simp[okT];omega,ae]
def aqM (s:bG):Int:=Gn 60 (tV (tV s.1 (ak (s.2.2.1.1+1))) 1)
def azO (c:Int×Int)(r:aC):aC:=(r.1,aqM (iQ c r.2.2.2.2.2.2.1.1).1,0,(iQ c r.2.2.2.2.2.2.1.1).1,[],[],(r.2.2.2.2.2.2.1.1.take (iQ c r.2.2.2.2.2.2.1.1).2,((iQ c r.2.2.2.2.2.2.1.1).2:Int)),[])
def azP (c:Int×Int){b:List Int}(hb:eQ b):∀(f:Nat) (s:bG) (a:Nat),a<=b.length->(Hp c b f s a).2<=b.length
 |0,s,a,ha=>ha|f+1,s,a,ha=>by
  cases h:Lv c b a with
  |none=>rw[kv h];exact ha
  |some z =>
   obtain⟨s',a'⟩:=z;rw[Lw h];exact azP c hb f s' a' (aIq hb ha h).2.1
def XP (c:Int×Int){b:List Int}(hb:eQ b):(iQ c b).2<=b.length:=azP c hb _ _ _ (aT _)
def aIz {r:aC}(h:aF2 r){c:Int×Int}(hr:qP c r=true):P2 F0 c r=some (azO c r,()):=by have hl:=XP c h.d;have hd:=h.d.1;rw[awb,jc h.l,aj,hr,aO,aa,awY h.d,aj,CG,aj,CG,aj,Yx,aj];dsimp only;rw[aqy (by omega) (by omega) (by omega),ae,az (a:=0) (by omega) (by omega) (by first|omega|(simp only[aL,aZ,bE];omega)|(rw[bB,bV];omega)),ae];rfl
def aF7 {r:aC}(h:aF2 r){c:Int×Int}(hr:qP c r=true):QK F0 c r=some (azO c r,()):=by have hl:=XP c h.d;have hd:=h.d.1;rw[awB,fe h.l,aj,hr,aO,aa,asR h.d,aj];dsimp only;rw[aqy (by omega) (by omega) (by omega),ae,az (a:=0) (by omega) (by omega) (by first|omega|(simp only[aL,aZ,bE];omega)|(rw[bB,bV];omega)),ae];rfl
end Go.Am.Tryz
