/- No condition. -/
import Derived.Test.YtfapcfpkbahneaaGreatDoorQpVJL3
set_option linter.all false
namespace Go.Am.Tryz
open Go.Am
def sameAt (a b:cY):Bool:=(a.1==b.1)&&(a.2.1.toList==b.2.1.toList)
def afq (a b:cY):cY:=(a.1,a.2.1,aeZ a.2.2 b.2.2)
def axc {a b:cY}(h:a.2.2.length+b.2.2.length<=1048576):Dp F0 a b=some (if sameAt a b=true then afq a b else cM,sameAt a b,()):=by rw[agE,aza h,aj];unfold sameAt afq bne;cases (a.1==b.1)<;>cases (a.2.1.toList==b.2.1.toList)<;>rfl
def asY {a b:cY}(h:a.2.2.length+b.2.2.length<=1048576):DZ F0 a b=some (if sameAt a b=true then afq a b else cM,sameAt a b,()):=by rw[ahk,awQ h,aj];unfold sameAt afq bne;cases (a.1==b.1)<;>cases (a.2.1.toList==b.2.1.toList)<;>rfl
def fT (p:cY):List cY->List cY
 |[]=>[p]|x::l=>if gw x p=true then x::fT p l else if sameAt x p=true then afq x p::l else p::x::l
def bN (c:Int×Int)(l:List cY)(p:cY):List cY×Bool:=if ju c p=true/\fH c (fT p l)=true then (fT p l,true) else (l,false)
def acn (p:cY):∀l:List cY,(fT p l).length<=l.length+1
 |[]=>bZ _|x::l=>by
  have:=acn p l;unfold fT;split
  .simp only[aZ];omega
  .split<;>simp
def N8 (p:cY):∀(k:Nat) (l:List cY),(∀x∈l.take k,gw x p=true)->fT p l=l.take k++fT p (l.drop k)
 |0,l,_=>rfl|k+1,[],_=>rfl|k+1,x::l,h=>by rw[fT,ai (h x (by simp)),N8 p k l fun y hy=>h y (by simp[hy])];rfl
def aCs (l:List cY):Prop:=l.length<=1000/\∀q∈l,q.2.1.size<=1048576/\q.2.2.length<=1000
def aCs.l {l:List cY}(h:aCs l){q:cY}(hq:q∈l):u6 q:=⟨(h.2 q hq).1,cR (h.2 q hq).2 (by omega)⟩
def aKC {a b:cY}(ha:a.2.1.size<=1048576/\a.2.2.length<=1000)(hb:b.2.2.length<=1000):u6 (afq a b):=⟨ha.1,by have:=aFK a.2.2 b.2.2;show(aeZ a.2.2 b.2.2).length<=_;omega⟩
def aqN {p:cY}(hp:p.2.1.size<=1048576/\p.2.2.length<=1000):∀{l:List cY},aCs l->∀q∈fT p l,u6 q
 |[],_,q,hq=>by rw[hU.1 hq];exact⟨hp.1,by omega⟩
 |x::l,h,q,hq=>by
  have hx:=h.2 x qU;have hl:aCs l:=⟨by have:=h.1;rw[aZ]at this;omega,fun y hy=>h.2 y (ka _ hy)⟩;unfold fT at hq;split at hq
  .rcases dE.1 hq with rfl|hq
   .exact h.l qU
   .exact aqN hp hl q hq
  .split at hq
   .rcases dE.1 hq with rfl|hq
    .exact aKC hx hp.2
    .exact hl.l hq
   .rcases dE.1 hq with rfl|hq
    .exact⟨hp.1,by omega⟩
    .exact h.l hq
def aCt {V:Type}(c:Int×Int)(l:List cY)(p:cY)(x y:Option V):br (!fH c (fT p l)) y (br (!ju c p) y x)=if ju c p=true/\fH c (fT p l)=true then x else y:=by cases fH c (fT p l)<;>cases ju c p<;>rfl
def I0 {l:List cY}(h:aCs l){p:cY}(hp:p.2.1.size<=1048576/\p.2.2.length<=1000)(c:Int×Int):fX F0 c l p=some ((bN c l p).1,(bN c l p).2,()):=by
 have hl:=h.1;have hpl:u6 p:=⟨hp.1,by omega⟩;have aJ2:=acn p l;have dZ:ot F0 (c.1,c.2) (fT p l)=some (fH c (fT p l),()):=ajK (by omega) (aqN hp h) c;rw[agG];refine dp (fun n k (z:Bool×List cY)=>jm F0 (zC F0) n (gk l z.1 k c.1 c.2 p.1 p.2.1 p.2.2 z.2)) l.length
  (fun k z=>(z.1=false/\z.2=l.take k/\∀x∈l.take k,gw x p=true)\/(z.1=true/\z.2++l.drop k=fT p l)) _ (fun n k z hk hI=>.inr ?_) (fun n z hI=>?_) F0.n 0 (false,[]) (aT _) (.inl ⟨rfl,rfl,fun x hx=>by simp at hx⟩) (by rw[cl];omega)
 .have hx:=h.2 _ (cX hk);have hd:l.drop k=l[k]::l.drop (k+1):=UT hk;rcases hI with ⟨h1,h2,h3⟩|⟨h1,h2⟩
  .have hz:z.2.length<=1000:=by rw[h2,bV];omega
   have aiO:=N8 p k l h3;rw[hd,fT]at aiO;rw[h1,lz,aX hk,af,av hk,ae,bF hk,n8 (by omega),aj];dsimp only;rw[show((p.1,p.2.1,p.2.2):cY)=p from rfl,aaR,aj,axc (by omega),aj,n8 (q:=p) (by omega),aj];cases hb:gw l[k] p with
   |true =>
    refine⟨(false,z.2++[l[k]]),?_,.inl ⟨rfl,?_,?_⟩⟩
    .rw[ff,af,aO,aa,az (by omega) (by omega) (by first|omega|(simp only[aL,aZ,bE];omega)|(rw[bB,bV];omega)),ae,ao (by omega)]
    .show z.2++[l[k]]=_;rw[iy hk,h2]
    .intro x hx';rw[iy hk]at hx';rcases jx.1 hx' with h4|h4
     .exact h3 x h4
     .rw[hU.1 h4];exact hb
   |false =>
    rw[hb,ah (by decide)]at aiO;cases hs:sameAt l[k] p with
    |true =>
     rw[hs,ai rfl]at aiO;refine⟨(true,z.2++[afq l[k] p]),?_,.inr ⟨rfl,?_⟩⟩
     .rw[ff,af,af,ai rfl,af,az (by omega) (by omega) (by first|omega|(simp only[aL,aZ,bE];omega)|(rw[bB,bV];omega)),ae,ao (by omega)]
     .show(z.2++[afq l[k] p])++_=_;rw[aiO,h2,iT];rfl
    |false =>
     rw[hs,ah (by decide)]at aiO;refine⟨(true,z.2++[p]++[l[k]]),?_,.inr ⟨rfl,?_⟩⟩
     .rw[ff,af,af,aa,az (by omega) (by omega) (by first|omega|(simp only[aL,aZ,bE];omega)|(rw[bB,bV];omega)),ae,az (by omega) (by omega) (by first|omega|(simp only[aL,aZ,bE];omega)|(rw[bB,bV];omega)),ae,ao (by omega)]
     .show(z.2++[p]++[l[k]])++_=_;rw[aiO,h2,iT,iT];rfl
  .have hz:z.2.length<=1001:=by have:=qd List.length h2;rw[aL]at this;omega
   refine⟨(true,z.2++[l[k]]),?_,.inr ⟨rfl,?_⟩⟩
   .rw[h1,lz,aX hk,af,av hk,ae,bF hk,n8 (by omega),aj];dsimp only;rw[aO,aa,az (by omega) (by omega) (by first|omega|(simp only[aL,aZ,bE];omega)|(rw[bB,bV];omega)),ae,ao (by omega)]
   .show(z.2++[l[k]])++_=_;rw[iT,<-h2,hd];rfl
 .have e0:lq F0 (c.1,c.2) (p.1,p.2.1,p.2.2)=some (ju c p,()):=Sg hpl c;have hc:iq F0 l=some (l,()):=afk (by omega) fun q hq=>h.l hq
  have hR:br (!fH c (fT p l)) (some (l,false,())) (br (!ju c p) (some (l,false,())) (some (fT p l,true,())))=some ((bN c l p).1,(bN c l p).2,()):=by rw[aCt];unfold bN;split<;>rfl
  rcases hI with ⟨h1,h2,h3⟩|⟨h1,h2⟩
  .have hs:=N8 p l.length l h3;rw[UW,mB]at hs;rw[mB]at h2;rw[h1,lz,aK,aa,GP,ff,af,show((p.1,(p.2.1,p.2.2)):cY)=p from rfl,n8 (by omega),aj,h2,az (by omega) (by omega) (by first|omega|(simp only[aL,aZ,bE];omega)|(rw[bB,bV];omega)),ae,
    show l++[p]=fT p l from hs.symm,dZ,aj,e0,aj,hc,aj]
   exact hR
  .rw[UW,iz]at h2;rw[h1,lz,aK,aa,GP,aO,aa,h2,dZ,aj,e0,aj,hc,aj];exact hR
def aKD (a b:cY):Int:=if gw a b=true then -1 else if sameAt a b=true then 0 else 1
def Uw (a b:cY):gq F0 a b=some (aKD a b,()):=by
 rw[E6,ajJ,aj,ae3,aj];unfold aKD gw sameAt aKk aKl;dsimp only;by_cases h:a.1<b.1
 .rw[ai h,aN h];rfl
 .rw[ah h,aR h,Jq];by_cases h2:a.1>b.1
  .rw[ai h2,ct.2 (show a.1≠b.1 by omega)];rfl
  .rw[ah h2,show a.1=b.1 by omega,Zc,hY,hY];cases Op.bytesLess a.2.1.toList b.2.1.toList<;>cases (a.2.1.toList==b.2.1.toList)<;>rfl
def amw {γ:Type}(X:Nat->Int->Option γ)(L:Nat)(p:Nat->Bool)(E:Nat->Option γ)(hs:∀n k,k<L->X (n+1) (k:Int)=if p k=true then X n ((k+1:Nat):Int) else E k)(he:∀n,X (n+1) (L:Int)=E L) :
  ∀(j k n:Nat),k+j=L->(∀i,i<k->p i=true)->j<n->∃i,i<=L/\(∀j,j<i->p j=true)/\(i<L->p i=false)/\X n (k:Int)=E i
 |0,k,n+1,hk,hp,hn=>⟨L,bZ _,fun j hj=>hp j (by omega),fun h=>absurd h (U0 _),by rw[show k=L by omega];exact he n⟩
 |j+1,k,n+1,hk,hp,hn=>by
  cases h:p k with
  |true =>
   obtain⟨i,h1,h2,h3,h4⟩:=amw X L p E hs he j (k+1) n (by omega) (fun i hi=>by
    by_cases e:i=k
    .rw[e];exact h
    .exact hp i (by omega)) (by omega)
   exact⟨i,h1,h2,h3,by rw[hs n k (by omega),h,ai rfl];exact h4⟩
  |false=>exact⟨k,by omega,hp,fun _=>h,by rw[hs n k (by omega),h,ah (by decide)]⟩
def aF8 {p:cY}{l:List cY}{i:Nat}(hi:i<=l.length)(h1:∀j (h:j<l.length),j<i->gw l[j] p=true)(h2:∀h:i<l.length,gw l[i] p=false) :
  fT p l=if h:i<l.length then (if sameAt l[i] p=true then l.set i (afq l[i] p) else l.take i++[p]++l.drop i) else l.take i++[p]++l.drop i:=by
 rw[N8 p i l fun x hx=>by obtain⟨j,hj,rfl⟩:=aiq hx;rw[bV]at hj;rw[List.getElem_take];exact h1 j (by omega) (by omega)]
 by_cases h:i<l.length
 .rw[dif_pos h,UT h,fT,h2 h,ah (by decide)];split
  .rw[List.set_eq_take_append_cons_drop,ai h]
  .simp
 .rw[dif_neg h,auP (by omega)];simp[fT]
def Ep {l:List cY}(h:aCs l){p:cY}(hp:p.2.1.size<=1048576/\p.2.2.length<=1000)(c:Int×Int):fB F0 c l p=some ((bN c l p).1,(bN c l p).2,()):=by
 have hl:=h.1;have hpl:u6 p:=⟨hp.1,by omega⟩;have aJ2:=acn p l;have dZ:lF F0 (c.1,c.2) (fT p l)=some (fH c (fT p l),()):=ae4 (by omega) (aqN hp h) c;have hc:fz F0 l=some (l,()):=aaT (by omega) fun q hq=>h.l hq
 have hcp:fY F0 (p.1,p.2.1,p.2.2)=some (p,()):=A6 (q:=p) (by omega);rw[ahm,NV hpl,aj,hc,aj,aj];cases hpo:ju c p with
 |false =>
  unfold bN;rw[hpo,ah (by simp)];rfl
 |true =>
  have hR:br (!fH c (fT p l)) (some (l,false,())) (some (fT p l,true,()))=some ((bN c l p).1,(bN c l p).2,()):=by unfold bN;rw[hpo];cases fH c (fT p l)<;>simp[br]
  rw[aO,aa];obtain⟨i,h1,h2,h3,h4⟩:=amw (fun n k=>wJ F0 (qK F0) n (qJ l k c.1 c.2 p.1 p.2.1 p.2.2 l)) l.length (fun k=>gw (l.getD k cM) p) (fun k=>qK F0 (.exit 0) (oV l (k:Int) c.1 c.2 p.1 p.2.1 p.2.2 l))
   (fun n k hk=>by rw[Fe,aX hk,af,av hk,ae,bF hk,show((p.1,p.2.1,p.2.2):cY)=p from rfl,Uw,aj,ao (by omega),bm hk];unfold aKD;cases gw l[k] p<;>cases sameAt l[k] p<;>rfl)
   (fun n=>by rw[Fe,aK,aa]) l.length 0 F0.n (by omega) (fun i hi=>absurd hi (SE _)) (by rw[cl];omega)
  have h5:=aF8 (p:=p) h1 (fun j hj Zf=>by have:=h2 j Zf;rw[bm hj]at this;exact this) (fun hi=>by have:=h3 hi;rw[bm hi]at this;exact this);refine BC h4 ?_;rw[Y3,hcp,aj,hc,aj];by_cases hi:i<l.length
  .rw[dif_pos hi]at h5;have hj:=h.2 _ (cX hi);rw[aX hi,af,av hi,ae,bF hi,show((p.1,p.2.1,p.2.2):cY)=p from rfl,Uw,aj];unfold aKD;have hb:=h3 hi;rw[bm hi]at hb;rw[hb,ah (by decide)];cases hs:sameAt l[i] p with
   |true =>
    rw[hs,ai rfl]at h5;rw[ai rfl,show((0:Int)==0)=true from rfl,af,asY (by omega),aj,hs,ai rfl,ae,ae,jw];dsimp only;rw[<-h5,dZ,aj];exact hR
   |false =>
    rw[hs,ah (by decide)]at h5;rw[ah (by decide),show((1:Int)==0)=false from rfl,aa,Jg h1 (by simp) (by simp only[aZ,bE];omega),ae,jw,<-h5,dZ,aj];exact hR
  .rw[dif_neg hi]at h5;rw[aR (show ¬(i:Int)<(l.length:Int) by omega),aa,Jg h1 (by simp) (by simp only[aZ,bE];omega),ae,jw,<-h5,dZ,aj];exact hR
def ei (l:List cY)(view:Int)(name:ByteArray):cY:=match l.find? fun x=>(x.1==view)&&(x.2.1.toList==name.toList) with
 |some x=>x|none=>(view,name,[])
def aun {U:Type}{p:U->Bool}{l:List U}{k:Nat}(hk:k<l.length):(l.drop k).find? p=if p l[k]=true then some l[k] else (l.drop (k+1)).find? p:=by rw[UT hk,List.find?_cons];cases p l[k]<;>rfl
def Sr {l:List cY}(h:l.length<=1048576)(hq:∀q∈l,u6 q)(view:Int)(name:ByteArray):pP F0 l view name=some (ei l view name,()):=by
 rw[agq];refine dp (fun n k (z:Unit)=>px F0 (qk F0) n (lx l view name k 0 al [])) l.length (fun k _=>l.find? (fun x=>(x.1==view)&&(x.2.1.toList==name.toList))=(l.drop k).find? fun x=>(x.1==view)&&(x.2.1.toList==name.toList)) _ (fun n k z hk hI=>?_) (fun n z hI=>?_) F0.n 0 () (aT _) rfl (by rw[cl];omega)
 .rw[aun hk]at hI;rw[EO,aX hk,af,av hk,ae,ae,ae,bF hk,n8 (hq _ (cX hk)).2,aj,abw,ao (by omega)];cases h1:(l[k].1==view) with
  |false =>
   rw[h1,Zd,ah (by decide)]at hI;exact .inr ⟨(),aa _ _,hI⟩
  |true =>
   cases h2:(l[k].2.1.toList==name.toList) with
   |false =>
    rw[h1,h2,hY,ah (by decide)]at hI;exact .inr ⟨(),by rw[af,aa],hI⟩
   |true =>
    rw[h1,h2,hY,ai rfl]at hI;refine .inl ?_;unfold ei;rw[hI];rfl
 .rw[UW]at hI;rw[EO,aK,aa,YR];unfold ei;rw[hI];rfl
def aaV {l:List cY}(h:l.length<=1048576)(hq:∀q∈l,u6 q)(view:Int)(name:ByteArray):uY F0 l view name=some (ei l view name,()):=by
 rw[ahn];refine dp (fun n k (z:Unit)=>pG F0 (qL F0) n (lP view name l (l.length:Int) k 0 al [])) l.length (fun k _=>l.find? (fun x=>(x.1==view)&&(x.2.1.toList==name.toList))=(l.drop k).find? fun x=>(x.1==view)&&(x.2.1.toList==name.toList)) _ (fun n k z hk hI=>?_) (fun n z hI=>?_) F0.n 0 () (aT _) rfl (by rw[cl];omega)
 .rw[aun hk]at hI;rw[Ff,aX hk,af,av hk,ae,bF hk,A6 (hq _ (cX hk)).2,aj,abX,ao (by omega)];cases h1:(l[k].1==view) with
  |false =>
   rw[h1,Zd,ah (by decide)]at hI;exact .inr ⟨(),aa _ _,hI⟩
  |true =>
   cases h2:(l[k].2.1.toList==name.toList) with
   |false =>
    rw[h1,h2,hY,ah (by decide)]at hI;exact .inr ⟨(),by rw[af,aa],hI⟩
   |true =>
    rw[h1,h2,hY,ai rfl]at hI;refine .inl ?_;unfold ei;rw[hI];rfl
 .rw[UW]at hI;rw[Ff,aK,aa,Y4];unfold ei;rw[hI];rfl
def afr (l:List cY)(view:Int):List cY:=l.filter fun x=>decide (x.1>=view)
def asZ {l:List cY}(h:l.length<=1048576)(hq:∀q∈l,u6 q)(view:Int):zI F0 l view=some (afr l view,()):=by
 rw[adW];refine amv (fun n k xs=>ni F0 (xi F0) n (kp l view k xs)) l (fun x=>decide (x.1>=view)) _ (fun n k xs hk hx=>?_) (fun n=>?_) _ (by rw[cl];omega)
 .rw[Bs,aX hk,af,av hk,ae,ae,bF hk,n8 (hq _ (cX hk)).2,aj,az (by omega) (by omega) (by first|omega|(simp only[aL,aZ,bE];omega)|(rw[bB,bV];omega)),ae,ao (by omega)];cases decide (l[k].1>=view)<;>rfl
 .rw[Bs,aK,aa,Wr];rfl
def aqO {l:List cY}(h:l.length<=1048576)(hq:∀q∈l,u6 q)(view:Int):iO F0 l view=some (afr l view,()):=by
 rw[aeD];refine amv (fun n k xs=>nM F0 (xz F0) n (kt view l (l.length:Int) k xs)) l (fun x=>decide (x.1>=view)) _ (fun n k xs hk hx=>?_) (fun n=>?_) _ (by rw[cl];omega)
 .rw[By,aX hk,af,av hk,ae,bF hk,A6 (hq _ (cX hk)).2,aj,az (by omega) (by omega) (by first|omega|(simp only[aL,aZ,bE];omega)|(rw[bB,bV];omega)),ae,ao (by omega)];cases decide (l[k].1>=view)<;>rfl
 .rw[By,aK,aa,Xi];rfl
def N9 {a b c:fE}(h1:fV a b=true)(h2:fV b c=true):fV a c=true:=by simp only[fV,kE,aI,cA,bC]at *;omega
def aF9 (a:fE):fV a a=false:=by simp[fV]
def ah7 {U:Type}(d:U)(p:U->Bool)(q:U->U->Bool)(l:List U):XD d p q l=true↔(∀k (h:k<l.length),p l[k]=true)/\∀k (h:k+1<l.length),q l[k] l[k+1]=true:=by
 unfold XD;rw[iU];constructor
 .intro h;refine⟨fun k hk=>?_,fun k hk=>?_⟩
  .have:=h k (kb.2 hk);rw[bm hk,aI]at this;exact this.1
  .have:=h (k+1) (kb.2 hk);rw[bm hk,show k+1-1=k from rfl,bm (show k<l.length by omega),aI,kE]at this;rcases this.2 with h0|h0
   .exact absurd (nW h0) (by omega)
   .exact h0
 .intro h k hk;have hk:=kb.1 hk;rw[bm hk,aI,kE];refine⟨h.1 k hk,?_⟩;cases k with
  |zero=>exact .inl (aN rfl)|succ k=>rw[show k+1-1=k from rfl,bm (show k<l.length by omega)];exact .inr (h.2 k hk)
def axd {U:Type}{q:U->U->Bool}(tr:∀a b c,q a b=true->q b c=true->q a c=true){l:List U}(h:∀k (h:k+1<l.length),q l[k] l[k+1]=true){i:Nat}:∀(j:Nat) (hij:i<j) (hj:j<l.length),q (l[i]'(by omega)) l[j]=true
 |0,hij,_=>absurd hij (SE _)|j+1,hij,hj=>by
  by_cases e:i=j
  .subst e;exact h i hj
  .exact tr _ _ _ (axd tr h j (by omega) (by omega)) (h j hj)
def Es (x:fE):List fE->List fE
 |[]=>[x]|y::l=>if fV y x=true then y::Es x l else x::y::l
def mz (l:List fE)(x:fE):List fE×Bool:=if fS (Es x l)=true then (Es x l,true) else (l,false)
def ajX (x:fE):∀l:List fE,(Es x l).length=l.length+1
 |[]=>rfl|y::l=>by
  unfold Es;split
  .rw[aZ,ajX x l,aZ]
  .rfl
def aco {x:fE}:∀{l:List fE} {i:Nat},i<=l.length->(∀j (h:j<l.length),j<i->fV l[j] x=true)->(∀h:i<l.length,fV l[i] x=false)->Es x l=l.take i++[x]++l.drop i
 |[],i,hi,_,_=>by rw[show i=0 by simpa using hi];rfl
 |y::l,0,_,_,h2=>by have:=h2 (by simp);rw[Es,ah (by rw[show fV y x=false from this];decide)];rfl
 |y::l,i+1,hi,h1,h2=>by have h0:fV y x=true:=h1 0 (by simp) (by omega);rw[Es,ai h0,aco (l:=l) (i:=i) (by simpa using hi) (fun j hj Zf=>h1 (j+1) (by simpa using hj) (by omega)) (fun h=>h2 (by simpa using h))];rfl
set_option maxRecDepth 20000 in
def azQ {l:List fE}(h:l.length<=1000000)(x:fE):H7 F0 l x=some ((mz l x).1,(mz l x).2,()):=by
 rw[ak4];obtain⟨i,h1,h2,h3,h4⟩:=amw (γ:=List fE×Bool×Unit) (fun n k=>zH F0 (sP F0) n (sO l k x.1 x.2.1 x.2.2.1 x.2.2.2)) l.length (fun k=>fV (l.getD k qS) x) (fun k=>sP F0 (.exit 0) (qw l (k:Int) x.1 x.2.1 x.2.2.1 x.2.2.2))
  (fun n k hk=>by
   rw[GQ,aX hk,af,av hk,ae,bF hk,show((x.1,x.2.1,x.2.2.1,x.2.2.2):fE)=x from rfl,ae2,aj,ao (by omega),bm hk];cases hb:fV l[k] x with
   |true=>rw[af,ai rfl]|false=>rw[aa,ah (by decide)])
  (fun n=>by rw[GQ,aK,aa]) l.length 0 F0.n (by omega) (fun i hi=>absurd hi (SE _)) (by rw[cl];omega)
 have h5:=aco (x:=x) h1 (fun j hj Zf=>by have:=h2 j Zf;rw[bm hj]at this;exact this) (fun hi=>by have:=h3 hi;rw[bm hi]at this;exact this);have hp:=ajX x l;refine BC h4 ?_;have e1:(l.take (i:Int).toNat).drop (0:Int).toNat=l.take i:=by rw[jw];rfl
 have e2:(l.take (l.length:Int).toNat).drop (i:Int).toNat=l.drop i:=by rw[jw,jw,mB]
 have l1:(l.take i).length<=l.length:=by rw[bV];omega
 have l2:(l.drop i).length<=l.length:=by rw[bB];omega
 rw[abE,e1,e2,Bk,aIk h1,ae,az (a:=0) (by omega) (by omega) (by first|omega|(simp only[aL,aZ,bE];omega)|(rw[bB,bV];omega)),ae,az (by omega) (by omega) (by first|omega|(simp only[aL,aZ,bE];omega)|(rw[bB,bV];omega)),ae,Yp h1 (bZ _),ae,az (by omega) (by omega) (by first|omega|(simp only[aL,aZ,bE];omega)|(rw[bB,bV];omega)),ae,show((x.1,(x.2.1,(x.2.2.1,x.2.2.2))):fE)=x from rfl,<-h5,aqf (by omega),aj,
  az (a:=0) (by omega) (by omega) (by first|omega|(simp only[aL,aZ,bE];omega)|(rw[bB,bV];omega)),ae]
 unfold mz;cases fS (Es x l)<;>rfl
def aEy {x:fE}{l:List fE}{i:Nat}(hi:i<=l.length)(h:fS (l.take i++[x]++l.drop i)=true):(∀j (hj:j<l.length),j<i->fV l[j] x=true)/\∀j (hj:j<l.length),i<=j->fV x l[j]=true:=by
 unfold fS at h;rw[aI,ah7]at h;have hr:=h.1.2;have hlen:(l.take i++[x]++l.drop i).length=l.length+1:=by simp;omega
 have e0:∀j (hj:j<l.length) (Zf:j<i),(l.take i++[x]++l.drop i)[j]'(by omega)=l[j]:=fun j hj Zf=>by rw[aAU (by simp;omega),aAU (by simp;omega),List.getElem_take]
 have e1:(l.take i++[x]++l.drop i)[i]'(by omega)=x:=by rw[aAU (by simp;omega),List.getElem_append_right (by simp;omega)];simp
 have e2:∀j (hj:j<l.length) (Zf:i<=j),(l.take i++[x]++l.drop i)[j+1]'(by omega)=l[j]:=fun j hj Zf=>by
  rw[List.getElem_append_right (by simp;omega),List.getElem_drop]
  congr 1
  simp;omega
 refine⟨fun j hj Zf=>?_,fun j hj Zf=>?_⟩
 .have:=axd (q:=fV) (l:=l.take i++[x]++l.drop i) (fun a b c h1 h2=>N9 h1 h2) hr (i:=j) i Zf (by omega);rw[e0 j hj Zf,e1]at this;exact this
 .have:=axd (q:=fV) (l:=l.take i++[x]++l.drop i) (fun a b c h1 h2=>N9 h1 h2) hr (i:=i) (j+1) (by omega) (by omega);rw[e1,e2 j hj Zf]at this;exact this
def aqP {a b:fE}(h:fV a b=true):fV b a=false:=by
 cases h2:fV b a with
 |false=>rfl
 |true =>
  have:=N9 h h2;rw[aF9]at this;cases this
def aIA {x:fE}{l:List fE}{i k:Nat}(hi:i<=l.length)(hk:k<=l.length)(h1:∀j (h:j<l.length),j<i->fV l[j] x=true)(h2:∀h:i<l.length,fV l[i] x=false)
  (h3:∀j (h:j<l.length),j<k->fV x l[j]=false) (h4:∀h:k<l.length,fV x l[k]=true):fS (l.take k++[x]++l.drop k)=fS (l.take i++[x]++l.drop i)/\(fS (l.take i++[x]++l.drop i)=true->k=i):=by
 by_cases e:k=i
 .subst e;exact⟨rfl,fun _=>rfl⟩
 .have n1:fS (l.take i++[x]++l.drop i)=false:=by
   cases h:fS (l.take i++[x]++l.drop i) with
   |false=>rfl
   |true =>
    have g:=(aEy hi h).2;exfalso;rcases Nat.lt_or_gt_of_ne e with h5|h5
    .have a:=h4 (by omega);have b:=h1 k (by omega) h5;rw[aqP a]at b;cases b
    .have a:=g i (by omega) (bZ _);have b:=h3 i (by omega) h5;rw[a]at b;cases b
  have n2:fS (l.take k++[x]++l.drop k)=false:=by
   cases h:fS (l.take k++[x]++l.drop k) with
   |false=>rfl
   |true =>
    have g:=(aEy hk h).1;exfalso;rcases Nat.lt_or_gt_of_ne e with h5|h5
    .have a:=h4 (by omega);have b:=h1 k (by omega) h5;rw[aqP a]at b;cases b
    .have a:=g i (by omega) h5;have b:=h2 (by omega);rw[a]at b;cases b
  exact⟨by rw[n1,n2],fun h=>by rw[n1]at h;cases h⟩
def azR {x:fE}{l:List fE}(h:l.length<=1000000){k:Nat}(hk:k<=l.length)(h3:∀j (h:j<l.length),j<k->fV x l[j]=false)(h4:∀h:k<l.length,fV x l[k]=true) :
  br (!fS (l.take k++[x]++l.drop k)) (some (l,false,())) (some (l.take k++[x]++l.drop k,true,()))=some ((mz l x).1,(mz l x).2,()):=by
 obtain⟨i,h1,h2,h5,_⟩:=amw (fun n (k:Int)=>(some ():Option Unit)) l.length (fun k=>fV (l.getD k qS) x) (fun k=>some ()) (fun n k hk=>by cases fV (l.getD k qS) x<;>rfl) (fun n=>rfl) l.length 0 (l.length+1) (by omega) (fun i hi=>absurd hi (SE _)) (by omega);have g1:∀j (h:j<l.length),j<i->fV l[j] x=true:=fun j hj Zf=>by have:=h2 j Zf;rw[bm hj]at this;exact this
 have g2:∀h:i<l.length,fV l[i] x=false:=fun hi=>by have:=h5 hi;rw[bm hi]at this;exact this
 have hp:=aco (x:=x) h1 g1 g2;obtain⟨e1,e2⟩:=aIA h1 hk g1 g2 h3 h4;unfold mz;rw[hp,e1];cases ho:fS (l.take i++[x]++l.drop i) with
 |false=>rfl|true=>rw[e2 ho];rfl
def axe {l:List fE}(h:l.length<=1000000)(x:fE):IE F0 l x=some ((mz l x).1,(mz l x).2,()):=by
 rw[alU,XL (by omega),aj,aj];have hc:jL F0 l=some (l,()):=XL (by omega);rcases ahQ (fun e=>RC e x) l 0 with ⟨h1,h2⟩|⟨k,hk,h1,h2,h3⟩
 .have h1:qW (fun e=>RC e x) l 0=-1:=h1;have hl:([x]:List fE).length=1:=rfl;rw[h1,show decide ((-1:Int)<0)=true from rfl,af,Jg (bZ _) (by simp) (by rw[hl];omega),ae,jw];dsimp only;rw[XE (by simp only[aL,aZ,bE,bB,bV];omega),aj];exact azR h (bZ _) (fun j hj _=>h2 l[j] (cX hj)) (fun h=>absurd h (U0 _))
 .have h1:qW (fun e=>RC e x) l 0=((0+k:Nat):Int):=h1;rw[xK]at h1;have hl:([x]:List fE).length=1:=rfl;rw[h1,show decide (((k:Nat):Int)<0)=false from aR (by omega),aa,aj,Jg (k:=k) (a:=l.length) (b:=([x]:List fE).length) (by omega) (by simp) (by rw[hl];omega),ae,jw];dsimp only;rw[XE (by simp only[aL,aZ,bE,bB,bV];omega),aj];exact azR h (by omega) (fun j hj hjk=>h3 j hj hjk) (fun _=>h2)
def aGa {l:nU}{x:fE}(h:azx (lT l x).2=false):(lT l x).1=l:=by
 revert h
 unfold lT;split
 .split
  .intro _;rfl
  .split
   .intro _;rfl
   .split
    .intro h;cases h
    .split
     .intro h;cases h
     .intro _;rfl
 .intro _;rfl
def jC:nU->Nat->List fE->List fE
 |_,_,[]=>[]|_,0,_=>[]|l,n+1,x::p=>if azx (lT l x).2=true then x::jC (lT l x).1 n p else jC l (n+1) p
def aaW (l:nU):∀p:List fE,jC l 0 p=[]
 |[]=>rfl|_::_=>rfl
def aaX {l:nU}{n:Nat}{p:List fE}{k:Nat}(hk:k<p.length):jC l (n+1) (p.drop k)=if azx (lT l p[k]).2=true then p[k]::jC (lT l p[k]).1 n (p.drop (k+1)) else jC l (n+1) (p.drop (k+1)):=by rw[UT hk,jC]
def ah8 {p:List fE}(hp:p.length<=1048576):∀(j k:Nat) (xs:List fE) (l:nU) (n:Nat),k+j=p.length->xs.length<=2->ab3 l->j<n ->
  kO F0 (zm F0) n (iY p (k:Int) xs l.1 l.2)=some (xs++jC l (2-xs.length) (p.drop k),())
 |0,k,xs,l,n+1,hk,hx,h4,hn=>by
  obtain rfl:k=p.length:=by omega
  rw[ER,aK,aa,GI,UW];cases 2-xs.length<;>simp[jC]
 |j+1,k,xs,l,n+1,hk,hx,h4,hn=>by
  have hk':k<p.length:=by omega
  rw[ER,aX hk',af,GI];by_cases h2:xs.length<2
  .obtain⟨m,hm⟩:∃m,2-xs.length=m+1:=⟨1-xs.length,by omega⟩;have aMK:J8 F0 (l.1,l.2) p[k]=some ((lT l p[k]).1,(lT l p[k]).2,()):=awK (l:=l) (by have:=h4.1;omega) (by have:=h4.2;omega) _;rw[aN (show(xs.length:Int)<2 by omega),af,av hk',ae,bF hk',aMK,aj,ae,az (by omega) (by omega) (by first|omega|(simp only[aL,aZ,bE];omega)|(rw[bB,bV];omega)),ae,ao (by omega),hm,aaX hk'];dsimp only;rw[ah8 hp j (k+1) (xs++[p[k]]) (lT l p[k]).1 n (by omega) (by simp;omega) (aKi h4 _) (by omega),ah8 hp j (k+1) xs l n (by omega) hx h4 (by omega),hm,show 2-(xs++[p[k]]).length=m by simp;omega];unfold azx;cases (lT l p[k]).2==0<;>cases (lT l p[k]).2==4<;>simp[br]
  .rw[aR (show ¬(xs.length:Int)<2 by omega),aa,show 2-xs.length=0 by omega,aaW,iz]
def ah9 {p:List fE}(hp:p.length<=1048576):∀(j k:Nat) (xs:List fE) (l:nU) (n:Nat),k+j=p.length->xs.length<=2->ab3 l->j<n ->
  kW F0 (AR F0) n (jb p (p.length:Int) (k:Int) l.1 l.2 xs)=some (xs++jC l (2-xs.length) (p.drop k),())
 |0,k,xs,l,n+1,hk,hx,h4,hn=>by
  obtain rfl:k=p.length:=by omega
  rw[Fi,aK,aa,Hm,UW];cases 2-xs.length<;>simp[jC]
 |j+1,k,xs,l,n+1,hk,hx,h4,hn=>by
  have hk':k<p.length:=by omega
  rw[Fi,aX hk',af,Hm,av hk',ae];by_cases h2:xs.length<2
  .obtain⟨m,hm⟩:∃m,2-xs.length=m+1:=⟨1-xs.length,by omega⟩;have aMK:La F0 (l.1,l.2) p[k]=some ((lT l p[k]).1,(lT l p[k]).2,()):=ap8 (l:=l) (by have:=h4.1;omega) (by have:=h4.2;omega) _;rw[ct.2 (show(xs.length:Int)≠2 by omega),aa,bF hk',aMK,aj,az (by omega) (by omega) (by first|omega|(simp only[aL,aZ,bE];omega)|(rw[bB,bV];omega)),ae,ao (by omega),hm,aaX hk'];dsimp only;rw[ah9 hp j (k+1) (xs++[p[k]]) (lT l p[k]).1 n (by omega) (by simp;omega) (aKi h4 _) (by omega),ah9 hp j (k+1) xs (lT l p[k]).1 n (by omega) hx (aKi h4 _) (by omega),hm,show 2-(xs++[p[k]]).length=m by simp;omega];have aIB:=aGa (l:=l) (x:=p[k]);unfold azx at aIB ⊢;cases h0:(lT l p[k]).2==0<;>cases h4:(lT l p[k]).2==4<;>simp[br]
   rw[h0,h4]at aIB;rw[aIB rfl]
  .rw[bC.2 (show(xs.length:Int)=2 by omega),af,show 2-xs.length=0 by omega,aaW,iz]
def axf {p:List fE}(hp:p.length<=1048576){l:nU}(h4:ab3 l):pQ F0 p l=some (jC l 2 p,()):=by rw[agu,ab2 (by have:=h4.1;omega) (by have:=h4.2;omega),aj];exact ah8 hp p.length 0 [] l F0.n (by omega) (by simp) h4 (by rw[cl];omega)
def as0 {p:List fE}(hp:p.length<=1048576){l:nU}(h4:ab3 l):pY F0 p l=some (jC l 2 p,()):=by rw[ahy];exact ah9 hp p.length 0 [] l F0.n (by omega) (by simp) h4 (by rw[cl];omega)
def Ss:∀(p:List fE) (l:nU) (n:Nat),(jC l n p).length<=n
 |[],l,n=>by cases n<;>exact aT _
 |x::p,l,0=>bZ _|x::p,l,n+1=>by
  unfold jC;split
  .rw[aZ];have:=Ss p (lT l x).1 n;omega
  .exact Ss p l (n+1)
def aqQ (p:List fE)(l:nU):List fE:=p.filter fun x=>(lT l x).2 != 2
def axg {p:List fE}(hp:p.length<=1048576){l:nU}(h1:l.1.length<=1048576)(h2:l.2.length<=1048576):Dx F0 p l=some (aqQ p l,()):=by
 rw[agM];refine amv (fun n k xs=>py F0 (zJ F0) n (lB p k l.1 l.2 xs)) p (fun x=>(lT l x).2 != 2) _ (fun n k xs hk hx=>?_) (fun n=>?_) _ (by rw[cl];omega)
 .rw[EW,aX hk,af,av hk,ae,ae,bF hk,show((l.1,l.2):nU)=l from rfl,awK h1 h2,aj,az (by omega) (by omega) (by first|omega|(simp only[aL,aZ,bE];omega)|(rw[bB,bV];omega)),ae,ao (by omega)];cases (lT l p[k]).2 != 2<;>rfl
 .rw[EW,aK,aa,YW];rfl
def as1 {p:List fE}(hp:p.length<=1048576){l:nU}(h1:l.1.length<=1048576)(h2:l.2.length<=1048576):jY F0 p l=some (aqQ p l,()):=by
 rw[ahv];refine amv (fun n k xs=>pI F0 (AQ F0) n (lQ p (p.length:Int) k l.1 l.2 xs)) p (fun x=>(lT l x).2 != 2) _ (fun n k xs hk hx=>?_) (fun n=>?_) _ (by rw[cl];omega)
 .rw[Fh,aX hk,af,av hk,ae,bF hk,show((l.1,l.2):nU)=l from rfl,ap8 h1 h2,aj,az (by omega) (by omega) (by first|omega|(simp only[aL,aZ,bE];omega)|(rw[bB,bV];omega)),ae,ao (by omega)];cases (lT l p[k]).2 != 2<;>rfl
 .rw[Fh,aK,aa,Y6];rfl
def eI (c:Int×Int)(view i:Int):List Int:=if 0<=cc c view i then ((List.range c.1.toNat).filter fun k:Nat=>decide (i∈ae0 c view (k:Int))).map fun k:Nat=>(k:Int) else []
def ajY {c:Int×Int}(hc:bL c=true)(view i:Int):(eI c view i).length<=7:=by
 have:=cF hc;unfold eI;split
 .rw[qV];have:=amF (fun k:Nat=>decide (i∈ae0 c view (k:Int))) (List.range c.1.toNat);rw[SD]at this;omega
 .exact aT _
def azS {γ:Type}(X:Nat->Int->List Int->Option γ)(N:Nat)(p:Nat->Bool)(R:Option γ)(hs:∀n k xs,k<N->xs.length<=k->X (n+1) (k:Int) xs=X n ((k+1:Nat):Int) (if p k=true then xs++[(k:Int)] else xs))
  (he:∀n,X (n+1) (N:Int) (((List.range N).filter p).map fun k:Nat=>(k:Int))=R) (n:Nat) (hn:N<n):X n 0 []=R:=by
 refine dp X N (fun k xs=>xs=((List.range k).filter p).map fun k:Nat=>(k:Int)) R (fun n k xs hk h=>.inr ⟨_,hs n k xs hk (by rw[h,qV];exact cR (amF _ _) (by rw[SD];omega)),?_⟩) (fun n xs h=>?_) n 0 [] (aT _) rfl (by omega)
 .rw[List.range_succ,List.filter_append,ait,h];cases hp:p k<;>simp[hp]
 .rw[h];exact he n
def aGb {c:Int×Int}(hc:bL c=true)(view i:Int):RP F0 c view i=some (eI c view i,()):=by
 have hn:=cF hc;have hN:(c.1.toNat:Int)=c.1:=by omega
 rw[asb,jt,aj,hc,aO,aa];unfold eI;by_cases hs:0<=cc c view i
 .rw[ai hs];refine azS (fun n k xs=>zD F0 (Ki F0) n (rp view i k c.1 c.2 xs)) c.1.toNat (fun k:Nat=>decide (i∈ae0 c view (k:Int))) _ (fun n k xs hk hx=>?_) (fun n=>?_) F0.n (by rw[cl];omega)
  .rw[zE,aN (show(k:Int)<c.1 by omega),af,show((c.1,c.2):Int×Int)=c from rfl,XC,aj,aN (show cc c view i>=0 from hs),af,aKj,aj,gv (by have:=at6 c view k;dsimp only;omega),aj,az (by omega) (by omega) (by first|omega|(simp only[aL,aZ,bE];omega)|(rw[bB,bV];omega)),ae,ao (by omega)];dsimp only;cases decide (i∈ae0 c view (k:Int))<;>rfl
  .rw[zE,aR (show ¬(c.1.toNat:Int)<c.1 by omega),aa,PK]
 .obtain⟨m,hm⟩:∃m,F0.n=m+1:=⟨F0.n-1,by rw[cl]⟩;rw[ah hs,hm,zE,aN (show(0:Int)<c.1 by omega),af,show((c.1,c.2):Int×Int)=c from rfl,XC,aj,aR (show ¬cc c view i>=0 from hs),aa,PK]
def aCu {c:Int×Int}(hc:bL c=true)(view i:Int):R2 F0 c view i=some (eI c view i,()):=by
 have hn:=cF hc;have hN:(c.1.toNat:Int)=c.1:=by omega
 rw[asD];unfold eI;by_cases hs:0<=cc c view i
 .rw[ai hs];refine azS (fun n k xs=>AM F0 (KT F0) n (rN view i k c.1 c.2 xs)) c.1.toNat (fun k:Nat=>decide (i∈ae0 c view (k:Int))) _ (fun n k xs hk hx=>?_) (fun n=>?_) F0.n (by rw[cl];omega)
  .rw[AN,show((c.1,c.2):Int×Int)=c from rfl,Ji,aj,aN (show cc c view i>=0 from hs),af,aN (show(k:Int)<c.1 by omega),af,aIh,aj,fN (by have:=at6 c view k;dsimp only;omega),aj,az (by omega) (by omega) (by first|omega|(simp only[aL,aZ,bE];omega)|(rw[bB,bV];omega)),ae,ao (by omega)];dsimp only;cases decide (i∈ae0 c view (k:Int))<;>rfl
  .rw[AN,show((c.1,c.2):Int×Int)=c from rfl,Ji,aj,aN (show cc c view i>=0 from hs),af,aR (show ¬(c.1.toNat:Int)<c.1 by omega),aa,Qw]
 .obtain⟨m,hm⟩:∃m,F0.n=m+1:=⟨F0.n-1,by rw[cl]⟩;rw[ah hs,hm,AN,show((c.1,c.2):Int×Int)=c from rfl,Ji,aj,aR (show ¬cc c view i>=0 from hs),aa,Qw]
def OM {c:Int×Int}{q:cY}(h:fO c q=true):u6 q:=⟨(tU h).1.n,(tU h).1.w⟩
def Ft {c:Int×Int}{q:cY}(h:ju c q=true):q.2.1.size<=1048576/\q.2.2.length<=1000:=⟨(Yv h).1.n,cR (Yv h).2.1 (by omega)⟩
def azT {c:Int×Int}{s:bG}(h:bM c s=true):nQ s:=⟨OM (dX h).2.2.1,cR (kY (dX h).2.2.2) (by omega)⟩
def Jm {c:Int×Int}{b:dd}(h:gx c b=true):b.1.size<=1048576/\u6 b.2:=by simp only[gx,aI]at h;exact⟨cR (kY h.2.1) (by omega),OM h.1⟩
def gz:u6 cM:=⟨aT _,aT _⟩
def axh {c:Int×Int}{m:cQ}(h:dR c m=true):gI m:=by
 unfold dR at h;simp only[aI]at h;obtain⟨hc,hs,hk⟩:=h;have hn:=aci hs;rw[<-hn];by_cases k1:m.1=1
 .rw[ai (by simpa using k1)]at hk;have:=Jm hk;simp only[named,k1];exact⟨this.1,this.2,gz,gz⟩
 .by_cases k2:m.1=2
  .rw[ah (by simpa using k1),ai (by simpa using k2)]at hk;simp only[aI]at hk;have:=Ft hk.1;simp only[named,k2];exact⟨aT _,gz,⟨this.1,by show m.2.2.2.1.2.2.length<=_;omega⟩,gz⟩
  .by_cases k3:m.1=3
   .rw[ah (by simpa using k1),ah (by simpa using k2),ai (by simpa using k3)]at hk;simp only[aI]at hk;simp only[named,k3];exact⟨aT _,gz,gz,OM hk.2.1⟩
   .rw[ah (by simpa using k1),ah (by simpa using k2),ah (by simpa using k3)]at hk;simp only[aI,bC]at hk;simp only[named,hk.1];exact⟨aT _,gz,gz,gz⟩
def auo {U:Type}{d:U}{p:U->Bool}{q:U->U->Bool}{l:List U}(h:XD d p q l=true):∀x∈l,p x=true:=fun x hx=>by obtain⟨k,hk,rfl⟩:=aiq hx;exact((ah7 d p q l).1 h).1 k hk
def w7 {c:Int×Int}{l:List cY}(h:fH c l=true):aCs l:=by simp only[fH,aI,cA]at h;exact⟨by omega,fun q hq=>Ft (auo h.1 q hq)⟩
def acp {l:List fE}(h:fS l=true):l.length<=12/\∀x∈l,iP x=true:=by simp only[fS,aI,cA]at h;exact⟨by omega,auo h.1⟩
structure aIC (c:Int×Int) (r:aC):Prop where
 cf:bL c=true
 i:ix 0 (ak (c.1-1)) r.1=true
 v:ix 1 60 r.2.1=true
 a:ix 0 60 r.2.2.1=true
 s:bM c r.2.2.2.1=true
 p:fS r.2.2.2.2.1=true
 t:fH c r.2.2.2.2.2.1=true
 d:gH r.2.2.2.2.2.2.1=true
 n:r.2.2.2.2.2.2.2.length<=30
 h:∀x∈r.2.2.2.2.2.2.2,Ls c r.1 x=true
def CH {c:Int×Int}{r:aC}:qP c r=true↔aIC c r:=by
 unfold qP;simp only[aI,ais,axQ,iU];constructor
 .rintro⟨h1,h2,h3,h4,h5,h6,h7,h8,h9,Rc⟩;exact⟨h1,h2,h3,h4,h5,h6,h7,h8,by omega,Rc⟩
 .intro h;exact⟨h.cf,h.i,h.v,h.a,h.s,h.p,h.t,h.d,by have:=h.n;omega,h.h⟩
structure bc (c:Int×Int) (r:aC):Prop where
 f:aIC c r
 b:∀x∈r.2.2.2.2.2.2.1.1,0<=x/\x<=255
def bc.ok {c:Int×Int}{r:aC}(h:bc c r):qP c r=true:=CH.2 h.f
def azU {c:Int×Int}{i:Int}{x:kG}(h:Ls c i x=true):dR c x.2=true:=by simp only[Ls,aI]at h;exact h.1
def aIC.l {c:Int×Int}{r:aC}(h:aIC c r):asP r :=
 ⟨azT h.s,cR (acp h.p).1 (by omega),cR (w7 h.t).1 (by omega),fun q hq=>(w7 h.t).l hq,cR h.n (by omega),fun q hq=>axh (azU (h.h q hq))⟩
def bc.bt {c:Int×Int}{r:aC}(h:bc c r):aF2 r:=⟨h.f.l,⟨cR (dY.1 h.f.d).1 (by omega),h.b⟩⟩
def bc.l {c:Int×Int}{r:aC}(h:bc c r):asP r:=h.f.l
def XQ (c:Int×Int)(r:aC)(sN:Int)(m:cQ):Bool:=decide (r.2.2.2.2.2.2.2.length<30)&&(dR c m&&(ix 0 (ak (c.1-1)) sN&& !(sN==r.1)))
def w8 (r:aC)(p:kG):aC:=(r.1,r.2.1,r.2.2.1,r.2.2.2.1,r.2.2.2.2.1,r.2.2.2.2.2.1,r.2.2.2.2.2.2.1,r.2.2.2.2.2.2.2++[p])
def nV (c:Int×Int)(r:aC)(sN:Int)(m:cQ):aC×Bool:=if XQ c r sN m=true then (w8 r (sN,m),true) else (r,false)
def Oa {r:aC}(hl:r.2.2.2.2.2.2.2.length<=1048576){m:cQ}(hm:gI m)(c:Int×Int)(sN:Int):gl F0 c r sN m=some (((nV c r sN m).1,(nV c r sN m).2,()),()):=by
 rw[ak3,Jk hm,aj,dG,aj,ajS hm,aj,az (by omega) (by omega) (by first|omega|(simp only[aL,aZ,bE];omega)|(rw[bB,bV];omega)),ae];unfold nV XQ;by_cases h:r.2.2.2.2.2.2.2.length<30
 .rw[aR (show ¬(r.2.2.2.2.2.2.2.length:Int)>=30 by omega),aN h];cases dR c m<;>cases ix 0 (ak (c.1-1)) sN<;>cases (sN==r.1)<;>rfl
 .rw[aN (show(r.2.2.2.2.2.2.2.length:Int)>=30 by omega),aR h];rfl
def aqR {c:Int×Int}{r:aC}(h:aIC c r)(sN:Int)(m:cQ):qP c (w8 r (sN,m))=XQ c r sN m:=by
 unfold XQ;by_cases hn:r.2.2.2.2.2.2.2.length<30
 .rw[aN hn,hY];have e:(dR c m&&(ix 0 (ak (c.1-1)) sN&& !(sN==r.1)))=Ls c r.1 (sN,m):=rfl;rw[e];cases hp:Ls c r.1 (sN,m) with
  |true=>exact CH.2 ⟨h.cf,h.i,h.v,h.a,h.s,h.p,h.t,h.d,by simp[w8];omega,fun x hx=>by
    rcases jx.1 hx with hx|hx
    .exact h.h x hx
    .rw[hU.1 hx];exact hp⟩
  |false =>
   cases hr:qP c (w8 r (sN,m)) with
   |false=>rfl
   |true =>
    have:=(CH.1 hr).h (sN,m) (by simp[w8]);exact absurd this (by show ¬Ls c r.1 (sN,m)=true;rw[hp];decide)
 .rw[aR hn];cases hr:qP c (w8 r (sN,m)) with
  |false=>rfl
  |true =>
   have:=(CH.1 hr).n;simp[w8]at this;omega
def bc.told {c:Int×Int}{r:aC}(h:bc c r)(sN:Int)(m:cQ):bc c (nV c r sN m).1:=by
 unfold nV;cases ht:XQ c r sN m with
 |false=>exact h
 |true =>
  have:=aqR h.f sN m;rw[ht]at this;exact⟨CH.1 this,h.b⟩
def Yy {c:Int×Int}{r:aC}(h:bc c r){m:cQ}(hm:gI m)(sN:Int):nL F0 c r sN m=some ((nV c r sN m).1,(nV c r sN m).2,()):=by
 have hn:=h.f.n;have hl:asP (w8 r (sN,m)):=⟨h.l.s,h.l.p,h.l.t,h.l.tq,by simp[w8];omega,fun q hq=>by
  rcases jx.1 hq with hq|hq
  .exact h.l.hm q hq
  .rw[hU.1 hq];exact hm⟩
 have dZ:db F0 c (w8 r (sN,m))=some (XQ c r sN m,()):=by rw[fe hl,aqR h.f]
 rw[awt,eT h.bt,aj,ajT hm,aj,az (by omega) (by omega) (by first|omega|(simp only[aL,aZ,bE];omega)|(rw[bB,bV];omega)),ae];dsimp only;rw[show((r.1,r.2.1,r.2.2.1,r.2.2.2.1,r.2.2.2.2.1,r.2.2.2.2.2.1,r.2.2.2.2.2.2.1,r.2.2.2.2.2.2.2++[(sN,m)]):aC)=w8 r (sN,m) from rfl,dZ,aj,aj];unfold nV;cases XQ c r sN m<;>rfl
def put (r:aC)(s:bG):aC:=(r.1,r.2.1,r.2.2.1,s,r.2.2.2.2.1,r.2.2.2.2.2.1,(r.2.2.2.2.2.2.1.1++eE s,r.2.2.2.2.2.2.1.2),r.2.2.2.2.2.2.2)
def j1 (c:Int×Int)(r:aC)(s:bG):aC×Bool :=
 if iR r.2.2.2.1 s=true then (r,true) else if bM c s=true/\r.2.2.2.2.2.2.1.1.length+(eE s).length<=100000 then (put r s,true) else (r,false)
def aqS (c:Int×Int)(s:bG):(XO c s).length<=12010:=by
 unfold XO;split
 .rename_i h;exact(ah4 h).2
 .exact aT _
def aqT {c:Int×Int}{r:aC}{s:bG}(h:iR r.2.2.2.1 s=true):j1 c r s=(r,true):=ai h
def aup {c:Int×Int}{r:aC}{s:bG}(h:iR r.2.2.2.1 s=false)(h2:bM c s=true)(h3:r.2.2.2.2.2.2.1.1.length+(eE s).length<=100000):j1 c r s=(put r s,true):=by unfold j1;rw[h,ah (by decide),ai ⟨h2,h3⟩]
def afs {c:Int×Int}{r:aC}{s:bG}(h:iR r.2.2.2.1 s=false)(h2:¬(bM c s=true/\r.2.2.2.2.2.2.1.1.length+(eE s).length<=100000)):j1 c r s=(r,false):=by unfold j1;rw[h,ah (by decide),ah h2]
def aft {d:qQ}{b:List Int}(h:gH d=true)(h2:d.1.length+b.length<=100000):N7 d b=((d.1++b,d.2),true):=ai ⟨h,h2⟩
def aEz {d:qQ}{b:List Int}(h2:¬d.1.length+b.length<=100000):N7 d b=(d,false):=ah fun h=>h2 h.2
def Su {c:Int×Int}{s:bG}(h:bM c s=true):XO c s=eE s:=ai h
def auq {c:Int×Int}{s:bG}(h:bM c s=false):XO c s=[]:=ah (by rw[h];decide)
def Sv {c:Int×Int}{r:aC}(h:bc c r){s:bG}(hs:nQ s):fy F0 c r s=some (if (j1 c r s).2=true then ((j1 c r s).1,true,ajL) else (ajL,false,r)):=by
 have hn:=aqS c s;have hd:=h.bt.d.1;have hd2:=(dY.1 h.f.d).1;rw[agD,awZ h.l.s hs,aj,asX hs,aj,aCq hd (cR hn (by omega)),aj,CA hs,aj,N2 hs,aj];cases h1:iR r.2.2.2.1 s with
 |true =>
  rw[aqT h1];rfl
 |false =>
  cases h2:bM c s with
  |false =>
   rw[afs h1 (fun h=>by rw[h2]at h;cases h.1),auq h2,aft h.f.d (by rw[bE];omega)];rfl
  |true =>
   by_cases h3:r.2.2.2.2.2.2.1.1.length+(eE s).length<=100000
   .rw[aup h1 h2 h3,Su h2,aft h.f.d h3];rfl
   .rw[afs h1 (fun h=>h3 h.2),Su h2,aEz h3];rfl
def as2 (a b:bG):iR a b=iR b a:=by unfold iR;rw[NX,show(a.1==b.1)=(b.1==a.1) from uf,show(a.2.1==b.2.1)=(b.2.1==a.2.1) from uf,show(a.2.2.2.toList==b.2.2.2.toList)=(b.2.2.2.toList==a.2.2.2.toList) from uf]
def bc.put {c:Int×Int}{r:aC}(h:bc c r){s:bG}(hs:bM c s=true)(hd:r.2.2.2.2.2.2.1.1.length+(eE s).length<=100000):bc c (put r s):=by
 refine⟨⟨h.f.cf,h.f.i,h.f.v,h.f.a,hs,h.f.p,h.f.t,dY.2 ⟨?_,(dY.1 h.f.d).2.1,?_⟩,h.f.n,h.f.h⟩,fP h.b (azG s)⟩
 .show(r.2.2.2.2.2.2.1.1++eE s).length<=_;rw[aL];exact hd
 .show r.2.2.2.2.2.2.1.2<=((r.2.2.2.2.2.2.1.1++eE s).length:Int);have:=(dY.1 h.f.d).2.2;rw[aL];omega
def bc.wrote {c:Int×Int}{r:aC}(h:bc c r)(s:bG):bc c (j1 c r s).1:=by
 unfold j1;split
 .exact h
 .split
  .rename_i h2;exact h.put h2.1 h2.2
  .exact h
def acq {c:Int×Int}{r:aC}(h:bc c r){s:bG}(hs:nQ s):xw F0 c r s=some ((j1 c r s).1,(j1 c r s).2,()):=by
 have hn:=aqS c s;have hd:=h.bt.d.1;have hd2:=(dY.1 h.f.d).1;rw[asA,eT h.bt,aj,fe h.l,aj,h.ok,aO,aa,asS hs,aj,aqK hs,aj,azM hd (cR hn (by omega)),aj,IX hs,aj,aj,as2];dsimp only;have hb:∀d:qQ,db F0 c (r.1,r.2.1,r.2.2.1,s,r.2.2.2.2.1,r.2.2.2.2.2.1,d,r.2.2.2.2.2.2.2)=some (qP c (r.1,r.2.1,r.2.2.1,s,r.2.2.2.2.1,r.2.2.2.2.2.1,d,r.2.2.2.2.2.2.2),()):=fun d =>
  fe (r:=(r.1,r.2.1,r.2.2.1,s,r.2.2.2.2.1,r.2.2.2.2.2.1,d,r.2.2.2.2.2.2.2)) ⟨hs,h.l.p,h.l.t,h.l.tq,h.l.h,h.l.hm⟩ c
 rw[hb,aj];cases h1:iR r.2.2.2.1 s with
 |true =>
  rw[aqT h1];rfl
 |false =>
  cases h2:bM c s with
  |false =>
   have bad:∀d:qQ,qP c (r.1,r.2.1,r.2.2.1,s,r.2.2.2.2.1,r.2.2.2.2.2.1,d,r.2.2.2.2.2.2.2)=false:=fun d=>by
    cases hr:qP c (r.1,r.2.1,r.2.2.1,s,r.2.2.2.2.1,r.2.2.2.2.2.1,d,r.2.2.2.2.2.2.2) with
    |false=>rfl
    |true =>
     have:=(CH.1 hr).s;exact absurd this (by show ¬bM c s=true;rw[h2];decide)
   rw[afs h1 (fun h=>by rw[h2]at h;cases h.1),auq h2,aft h.f.d (by rw[bE];omega),bad];rfl
  |true =>
   by_cases h3:r.2.2.2.2.2.2.1.1.length+(eE s).length<=100000
   .have hg:=(h.put h2 h3).ok;rw[aup h1 h2 h3,Su h2,aft h.f.d h3];dsimp only;rw[show qP c (r.1,r.2.1,r.2.2.1,s,r.2.2.2.2.1,r.2.2.2.2.2.1,(r.2.2.2.2.2.2.1.1++eE s,r.2.2.2.2.2.2.1.2),r.2.2.2.2.2.2.2)=true from hg];rfl
   .rw[afs h1 (fun h=>h3 h.2),Su h2,aEz h3];rfl
def aCv {b:ByteArray}(h:(jd b).2=true):bu (jd b).1.data.toList=true:=by
 unfold jd at h ⊢;split at h
 .rename_i hs;rw[ai hs];have h1:bu b.data.toList=true:=by
   unfold Jl at hs;cases h2:(bj b.data.toList).2 with
   |true=>exact h2|false=>rw[Xy h2]at hs;cases hs
  show bu (upB (upB b)).data.toList=true;unfold upB;rw[gb,gb];exact xF (xF h1)
 .cases h
def aML {c:Int×Int}{s:bG}(h:bM c s=true)(q:cY):bM c (Sq c s q)=true:=by
 unfold Sq;split
 .rename_i hh;obtain⟨h1,h2,h3,h4⟩:=dX h;have hv:=pZ (fQ q.2.1.data.toList);simp only[bM,ix,aI,cA];refine⟨h1,?_,?_,?_⟩
  .unfold tV;split<;>omega
  .unfold N6;split
   .exact hh.2
   .exact h3
  .split
   .rename_i hx;exact aCv hx.1
   .exact h4
 .exact h
def u7 (r:aC)(v:Int):aC:=(r.1,tV r.2.1 v,r.2.2)
def bc.raised {c:Int×Int}{r:aC}(h:bc c r){v:Int}(hv:v<=60):bc c (u7 r v):=by refine⟨⟨h.f.cf,h.f.i,?_,h.f.a,h.f.s,h.f.p,h.f.t,h.f.d,h.f.n,h.f.h⟩,h.b⟩;have:=h.f.v;simp only[ix,aI,cA]at this;show ix 1 60 (tV r.2.1 v)=true;simp only[ix,aI,cA];unfold tV;split<;>omega
def kC (v:Int)(q:cY)(dk:Int):cQ:=(3,v,(al,cM),cM,q,dk,qS)
def A8 (p:cY):cQ:=(2,0,(al,cM),p,cM,0,qS)
def aqU (b:dd):cQ:=(1,0,b,cM,cM,0,qS)
def Q2 {v:Int}{q:cY}(h:u6 q)(dk:Int):gI (kC v q dk):=⟨aT _,gz,gz,h⟩
def aia {p:cY}(h:u6 p):gI (A8 p):=⟨aT _,gz,h,gz⟩
def acr {b:dd}(h1:b.1.size<=1048576)(h2:u6 b.2):gI (aqU b):=⟨h1,h2,gz,gz⟩
def written (c:Int×Int)(r:aC)(q:cY):aC×Bool:=j1 c r (Sq c r.2.2.2.1 q)
def ue (c:Int×Int)(r:aC)(q:cY):aC×Bool :=
 if (written c r q).2=true then
  if ak (q.1+1)>60 then ((written c r q).1,true)
  else if cG c (ak (q.1+1))=r.1 then (u7 (written c r q).1 (ak (q.1+1)),true)
  else nV c (u7 (written c r q).1 (ak (q.1+1))) (cG c (ak (q.1+1))) (kC (ak (q.1+1)) q r.1)
 else (r,false)
def afu {c:Int×Int}{r:aC}{s:bG}:(j1 c r s).1.1=r.1:=by
 unfold j1;split
 .rfl
 .split<;>rfl
def XR (c:Int×Int)(p:cY):Bool:= !eh p.2.1&&fO c p
def aur (b:ByteArray):eh b=decide (b.data.toList=[]):=by
 cases h:eh b with
 |true=>rw[aN ((rY b).1 h)]
 |false =>
  rw[aR];intro h2;rw[(rY b).2 h2]at h;cases h
def aGc {p:cY}(h:u6 p)(c:Int×Int):EV F0 c p=some (if XR c p=true then p else cM,XR c p,()):=by
 have:=aBZ (v:=p.1) (l:=p.2.1.data.toList) (s:=p.2.2) (Uu h.1) (cR h.2 (by omega)) c;rw[show((p.1,tx p.2.1.data.toList,p.2.2):cY)=p from rfl]at this;rw[this];unfold XR fO Xz;rw[aur];by_cases h0:p.2.1.data.toList=[]
 .rw[ah (fun hh=>hh.1 h0),aN h0];rfl
 .rw[aR h0];cases hq:Y9 c (p.1,p.2.1.data.toList,p.2.2) with
  |true=>rw[ai ⟨h0,rfl⟩];rfl|false=>rw[ah (fun hh=>by cases hh.2)];rfl
def aCw {p:cY}(h:u6 p)(c:Int×Int):Fg F0 c p=some (if XR c p=true then p else cM,XR c p,()):=by
 have:=ay9 (v:=p.1) (l:=p.2.1.data.toList) (s:=p.2.2) (Uu h.1) (cR h.2 (by omega)) c;rw[show((p.1,tx p.2.1.data.toList,p.2.2):cY)=p from rfl]at this;rw[this];unfold XR fO Xz;rw[aur];by_cases h0:p.2.1.data.toList=[]
 .rw[ah (fun hh=>hh.1 h0),aN h0];rfl
 .rw[aR h0];cases hq:Y9 c (p.1,p.2.1.data.toList,p.2.2) with
  |true=>rw[ai ⟨h0,rfl⟩];rfl|false=>rw[ah (fun hh=>by cases hh.2)];rfl
def bc.w {c:Int×Int}{r:aC}(h:bc c r)(q:cY):bc c (written c r q).1:=h.wrote _
def aqV {c:Int×Int}{r:aC}(h:bc c r)(q:cY):nQ (Sq c r.2.2.2.1 q):=azT (aML h.f.s q)
def aCx {c:Int×Int}{r:aC}(h:bc c r){p:cY}(hp:u6 p):My F0 c r p=some (if XR c p=true then ((ue c r p).1,(ue c r p).2,()) else (r,false,()),()):=by
 rw[aor,aGc hp,aj];cases hq:XR c p with
 |false=>rfl
 |true =>
  dsimp only;rw[aO,aa,ai rfl,ai rfl,axa h.l.s hp,aj,Sv h (aqV h p),aj];have hw:bc c (written c r p).1:=h.w p;unfold ue;unfold written at hw ⊢;generalize j1 c r (Sq c r.2.2.2.1 p)=W at hw ⊢;cases h2:W.2 with
  |false=>rw[ah (by decide),ah (by decide)];rfl
  |true =>
   have ht:gl F0 c (W.1.1,tV W.1.2.1 (ak (p.1+1)),W.1.2.2) (cG c (ak (p.1+1))) (3,ak (p.1+1),(al,0,al,[]),(0,al,[]),p,r.1,0,0,0,0)=some (((nV c (u7 W.1 (ak (p.1+1))) (cG c (ak (p.1+1))) (kC (ak (p.1+1)) p r.1)).1,(nV c (u7 W.1 (ak (p.1+1))) (cG c (ak (p.1+1))) (kC (ak (p.1+1)) p r.1)).2,()),()) :=
    Oa (r:=u7 W.1 (ak (p.1+1))) (cR hw.f.n (by omega)) (Q2 (v:=ak (p.1+1)) hp r.1) c (cG c (ak (p.1+1)))
   rw[ai rfl,ai rfl];simp only[aj,Ln,CG,ht,af];by_cases h3:ak (p.1+1)>60
   .rw[aN h3,af,ai h3]
   .rw[aR h3,aa,ah h3];by_cases h4:cG c (ak (p.1+1))=r.1
    .rw[ai h4,bC.2 h4,af];rfl
    .rw[ah h4,ct.2 h4,aa]
def aCy {c:Int×Int}{r:aC}(h:bc c r){q:cY}(hq:u6 q):KS F0 c r q=some ((ue c r q).1,(ue c r q).2,()):=by
 have hw:bc c (written c r q).1:=h.w q;rw[asB,aqL h.l.s hq,aj,acq h (aqV h q),aj];unfold ue;unfold written at hw ⊢;generalize j1 c r (Sq c r.2.2.2.1 q)=W at hw ⊢;obtain⟨W1,W2⟩:=W;cases W2 with
 |false=>rfl
 |true =>
  show _=some ((if ak (q.1+1)>60 then (W1,true) else if cG c (ak (q.1+1))=r.1 then (u7 W1 (ak (q.1+1)),true) else nV c (u7 W1 (ak (q.1+1))) (cG c (ak (q.1+1))) (kC (ak (q.1+1)) q r.1)).1,(if ak (q.1+1)>60 then (W1,true) else if cG c (ak (q.1+1))=r.1 then (u7 W1 (ak (q.1+1)),true) else nV c (u7 W1 (ak (q.1+1))) (cG c (ak (q.1+1))) (kC (ak (q.1+1)) q r.1)).2,());by_cases h3:ak (q.1+1)>60
  .rw[aN h3,ai h3];rfl
  .have ht:nL F0 c (W1.1,(if ak (q.1+1)>W1.2.1 then ak (q.1+1) else W1.2.1,W1.2.2)) (cG c (ak (q.1+1))) (3,ak (q.1+1),(al,0,al,[]),(0,al,[]),q,r.1,0,0,0,0)=some ((nV c (u7 W1 (ak (q.1+1))) (cG c (ak (q.1+1))) (kC (ak (q.1+1)) q r.1)).1,(nV c (u7 W1 (ak (q.1+1))) (cG c (ak (q.1+1))) (kC (ak (q.1+1)) q r.1)).2,()) :=
    Yy (hw.raised (v:=ak (q.1+1)) (by omega)) (Q2 (v:=ak (q.1+1)) hq r.1) (cG c (ak (q.1+1)))
   rw[aR h3,ah h3];simp only[aj,Jh,ht,aa,aO];by_cases h4:cG c (ak (q.1+1))=r.1
   .rw[ai h4,show(cG c (ak (q.1+1)) != r.1)=false by simp[h4],aa];rfl
   .rw[ah h4,show(cG c (ak (q.1+1)) != r.1)=true by simp[h4],af]
def bc.aKE {c:Int×Int}{r:aC}(h:bc c r)(q:cY):bc c (ue c r q).1:=by
 unfold ue;split
 .split
  .exact h.w q
  .split
   .exact(h.w q).raised (by omega)
   .exact((h.w q).raised (by omega)).told _ _
 .exact h
def gM (c:Int×Int)(r:aC)(view:Int)(name:ByteArray)(push:Bool):aC×Bool :=
 if (ei r.2.2.2.2.2.1 view name).2.2.length=0\/eh name=true then (r,false)
 else if cG c view=r.1 then
  if XR c (ei r.2.2.2.2.2.1 view name)=true/\(ue c r (ei r.2.2.2.2.2.1 view name)).2=true then ((ue c r (ei r.2.2.2.2.2.1 view name)).1,true) else (r,false)
 else if push=false/\cmn (ei r.2.2.2.2.2.1 view name).2.2 (eI c view r.1)<(eI c view r.1).length then (r,false)
 else nV c r (QS c view r.1) (A8 (ei r.2.2.2.2.2.1 view name))
section
variable {c:Int×Int} {r:aC} {view:Int} {name:ByteArray} {push:Bool} {p:cY} (hP:ei r.2.2.2.2.2.1 view name=p)
include hP
def afv (h:p.2.2.length=0\/eh name=true):gM c r view name push=(r,false):=by subst hP;exact ai h
def axi (h1:¬(p.2.2.length=0\/eh name=true))(h3:cG c view=r.1)(h:XR c p=true/\(ue c r p).2=true):gM c r view name push=((ue c r p).1,true):=by subst hP;unfold gM;rw[ah h1,ai h3,ai h]
def afw (h1:¬(p.2.2.length=0\/eh name=true))(h3:cG c view=r.1)(h:¬(XR c p=true/\(ue c r p).2=true)):gM c r view name push=(r,false):=by subst hP;unfold gM;rw[ah h1,ai h3,ah h]
def axj (h1:¬(p.2.2.length=0\/eh name=true))(h3:¬cG c view=r.1)(h:push=false/\cmn p.2.2 (eI c view r.1)<(eI c view r.1).length):gM c r view name push=(r,false):=by subst hP;unfold gM;rw[ah h1,ah h3,ai h]
def afx (h1:¬(p.2.2.length=0\/eh name=true))(h3:¬cG c view=r.1)(h:¬(push=false/\cmn p.2.2 (eI c view r.1)<(eI c view r.1).length)):gM c r view name push=nV c r (QS c view r.1) (A8 p):=by subst hP;unfold gM;rw[ah h1,ah h3,ah h]
end
def azV {l:List cY}(hl:∀q∈l,u6 q){name:ByteArray}(hn:name.size<=1048576)(view:Int):u6 (ei l view name):=by
 unfold ei;cases h:l.find? (fun x=>(x.1==view)&&(x.2.1.toList==name.toList)) with
 |none=>exact⟨hn,aT _⟩|some x=>exact hl x (US h)
def bc.axk {c:Int×Int}{r:aC}(h:bc c r)(view:Int)(name:ByteArray)(push:Bool):bc c (gM c r view name push).1:=by
 unfold gM;split
 .exact h
 .split
  .split
   .exact h.aKE _
   .exact h
  .split
   .exact h
   .exact h.told _ _
def Sw {c:Int×Int}{r:aC}(h:bc c r)(view:Int){name:ByteArray}(hn:name.size<=1048576)(push:Bool) :
  ∃x,pT F0 c r view name push=some ((x,(gM c r view name push).2,()),())/\((gM c r view name push).2=true->x=(gM c r view name push).1):=by
 have hp:=azV h.l.tq hn view;have hu:=ajY h.f.cf view r.1;have ht:=Oa (r:=r) (cR h.f.n (by omega)) (aia hp) c (QS c view r.1);have ht':((gl F0 c r (QS c view r.1) (2,0,(al,0,al,[]),ei r.2.2.2.2.2.1 view name,(0,al,[]),0,0,0,0,0)).bind fun r74=>some ((r74.1.1,r74.1.2.1,()),()))=some (((nV c r (QS c view r.1) (A8 (ei r.2.2.2.2.2.1 view name))).1,(nV c r (QS c view r.1) (A8 (ei r.2.2.2.2.2.1 view name))).2,()),()):=by refine BC (qd (fun x=>Option.bind x _) ht) ?_;rfl
 rw[agH,Sr h.l.t h.l.tq,aj,Ln,aj,aCx h hp,aj,aGb h.f.cf,aj,aB0 (a:=eI c view r.1) (by omega) hp.2,aj,aIf];simp only[aj,ht'];generalize hP:ei r.2.2.2.2.2.1 view name=p at *;by_cases h1:p.2.2.length=0
 .rw[afv hP (.inl h1),show((p.2.2.length:Int)==0)=true from bC.2 (by omega),af];exact⟨r,rfl,fun h=>by cases h⟩
 .rw[show((p.2.2.length:Int)==0)=false from ct.2 (by omega),aa];cases h2:eh name with
  |true =>
   rw[afv hP (.inr h2),show(name.toList==al.toList)=true from h2,af];exact⟨r,rfl,fun h=>by cases h⟩
  |false =>
   have n1:¬(p.2.2.length=0\/eh name=true):=fun hh=>hh.elim h1 (by rw[h2];decide)
   rw[show(name.toList==al.toList)=false from h2,aa];by_cases h3:cG c view=r.1
   .rw[bC.2 h3,af];cases h4:XR c p with
    |false =>
     rw[afw hP n1 h3 (fun hh=>by rw[h4]at hh;cases hh.1)];exact⟨r,rfl,fun h=>by cases h⟩
    |true =>
     cases h5:(ue c r p).2 with
     |false =>
      rw[afw hP n1 h3 (fun hh=>by rw[h5]at hh;cases hh.2)];exact⟨_,rfl,fun h=>by cases h⟩
     |true =>
      rw[axi hP n1 h3 ⟨h4,h5⟩];exact⟨_,rfl,fun _=>rfl⟩
   .rw[ct.2 h3,aa];cases push with
    |true =>
     rw[afx hP n1 h3 (fun hh=>by cases hh.1)];exact⟨_,rfl,fun _=>rfl⟩
    |false =>
     by_cases h6:cmn p.2.2 (eI c view r.1)<(eI c view r.1).length
     .rw[axj hP n1 h3 ⟨rfl,h6⟩,ff,af,aN (show(cmn p.2.2 (eI c view r.1):Int)<(eI c view r.1).length by omega),af];exact⟨r,rfl,fun h=>by cases h⟩
     .rw[afx hP n1 h3 (fun hh=>h6 hh.2),ff,af,aR (show ¬(cmn p.2.2 (eI c view r.1):Int)<(eI c view r.1).length by omega),aa];exact⟨_,rfl,fun _=>rfl⟩
def aGd {c:Int×Int}{r:aC}(h:bc c r)(view:Int){name:ByteArray}(hn:name.size<=1048576)(push:Bool):RQ F0 c r view name push=some (if (gM c r view name push).2=true then ((gM c r view name push).1,true,()) else (r,false,())):=by
 obtain⟨x,h1,h2⟩:=Sw h view hn push;rw[asm,jc h.l,aj,h.ok,aO,aa,eS h.bt,aj,h1,aj,aj];cases h3:(gM c r view name push).2 with
 |true=>rw[h2 h3];rfl|false=>rfl
def acs {c:Int×Int}{r:aC}(h:bc c r)(view:Int){name:ByteArray}(hn:name.size<=1048576)(push:Bool):oW F0 c r view name push=some ((gM c r view name push).1,(gM c r view name push).2,()):=by
 have hp:=azV h.l.tq hn view;have hu:=ajY h.f.cf view r.1;have ht:=Yy h (aia hp) (QS c view r.1);have ht':((nL F0 c r (QS c view r.1) (2,0,(al,0,al,[]),ei r.2.2.2.2.2.1 view name,(0,al,[]),0,0,0,0,0)).bind fun r93=>some (r93.1,r93.2.1,()))=some ((nV c r (QS c view r.1) (A8 (ei r.2.2.2.2.2.1 view name))).1,(nV c r (QS c view r.1) (A8 (ei r.2.2.2.2.2.1 view name))).2,()):=by refine BC (qd (fun x=>Option.bind x _) ht) ?_;rfl
 have hcr:KS F0 c r (if XR c (ei r.2.2.2.2.2.1 view name)=true then ei r.2.2.2.2.2.1 view name else cM)=some ((ue c r (if XR c (ei r.2.2.2.2.2.1 view name)=true then ei r.2.2.2.2.2.1 view name else cM)).1,(ue c r (if XR c (ei r.2.2.2.2.2.1 view name)=true then ei r.2.2.2.2.2.1 view name else cM)).2,()):=aCy h (by split;exact hp;exact gz);rw[asF,aaV h.l.t h.l.tq,aj,eT h.bt,aj,fe h.l,aj,h.ok,aO,aa,Jh,aj,aCw hp,aj,aCu h.f.cf,aj,aze (a:=eI c view r.1) (by omega) hp.2,aj,aEs];simp only[aj,ht',hcr];generalize hP:ei r.2.2.2.2.2.1 view name=p at *;by_cases h1:p.2.2.length=0
 .rw[afv hP (.inl h1),show((p.2.2.length:Int)==0)=true from bC.2 (by omega),af]
 .rw[show((p.2.2.length:Int)==0)=false from ct.2 (by omega),aa];cases h2:eh name with
  |true =>
   rw[afv hP (.inr h2),show(name.toList==al.toList)=true from h2,af]
  |false =>
   have n1:¬(p.2.2.length=0\/eh name=true):=fun hh=>hh.elim h1 (by rw[h2];decide)
   rw[show(name.toList==al.toList)=false from h2,aa];by_cases h3:cG c view=r.1
   .rw[bC.2 h3,af];cases h4:XR c p with
    |false =>
     rw[afw hP n1 h3 (fun hh=>by rw[h4]at hh;cases hh.1)];rfl
    |true =>
     rw[ai rfl,aO,aa];cases h5:(ue c r p).2 with
     |false =>
      rw[afw hP n1 h3 (fun hh=>by rw[h5]at hh;cases hh.2)];rfl
     |true =>
      rw[axi hP n1 h3 ⟨h4,h5⟩];rfl
   .rw[ct.2 h3,aa];cases push with
    |true =>
     rw[afx hP n1 h3 (fun hh=>by cases hh.1)];rfl
    |false =>
     by_cases h6:cmn p.2.2 (eI c view r.1)<(eI c view r.1).length
     .rw[axj hP n1 h3 ⟨rfl,h6⟩,ff,af,aN (show(cmn p.2.2 (eI c view r.1):Int)<(eI c view r.1).length by omega),af]
     .rw[afx hP n1 h3 (fun hh=>h6 hh.2),ff,af,aR (show ¬(cmn p.2.2 (eI c view r.1):Int)<(eI c view r.1).length by omega),aa]
def aEA:dd:=(al,cM)
def Q3 (q:cY)(view:Int)(l:List fE):ByteArray:=tx (Sl q.2.1.data.toList view l)
def jD (c:Int×Int)(q:cY)(view:Int)(l:List fE):dd×Bool:=if gx c (Q3 q view l,q)=true/\aH (Q3 q view l).data.toList=view then ((Q3 q view l,q),true) else (aEA,false)
def aqW {c:Int×Int}{q:cY}(hq:fO c q=true){view:Int}(hv:I64 view){l:List fE}(hl:l.length<=100):(Q3 q view l).size<=1048576:=by have h1:=(tU hq).2.2;have h2:=auj (up:=q.2.1.data.toList) hv l;unfold Q3;rw[bT];have:q.2.1.data.toList.length=q.2.1.size:=rfl;omega
def Yz (a b:Int):(a != b)= !decide (a=b):=by
 by_cases h:a=b
 .simp[h]
 .simp[h]
def afy {c:Int×Int}{q:cY}(hq:fO c q=true){view:Int}(hv:I64 view){l:List fE}(hl:l.length<=100):pR F0 c q view l=some ((jD c q view l).1,(jD c q view l).2,()):=by
 have h1:=(tU hq).2.2;have hs:=aqW hq hv hl;have hN:ly F0 q.2.1 view l=some (Q3 q view l,()):=aqx (up:=q.2.1.data.toList) (by show q.2.1.size<=_;omega) hv (by omega);rw[agx,hN,aj,xH (OM hq).2,aj,NY (b:=(Q3 q view l,q)) hs (OM hq),aj,p4 hs,aj];unfold jD;dsimp only;rw[Yz];cases gx c (Q3 q view l,q) with
 |false=>rw[ah (fun h=>by cases h.1)];rfl
 |true =>
  by_cases h:aH (Q3 q view l).data.toList=view
  .rw[ai ⟨rfl,h⟩,aN h];rfl
  .rw[ah (fun hh=>h hh.2),aR h];rfl
def as3 {c:Int×Int}{q:cY}(hq:fO c q=true){view:Int}(hv:I64 view){l:List fE}(hl:l.length<=2):u4 F0 c q view l=some ((jD c q view l).1,(jD c q view l).2,()):=by
 have h1:=(tU hq).2.2;have hs:=aqW hq hv (l:=l) (by omega);have hN:Fj F0 q.2.1 view l=some (Q3 q view l,()):=azA (up:=q.2.1.data.toList) (by show q.2.1.size<=_;omega) hv (by omega);rw[ahB,hN,aj,yj (OM hq).2,aj,IT (b:=(Q3 q view l,q)) hs (OM hq),aj,rW hs,aj];unfold jD;dsimp only;rw[Yz];cases gx c (Q3 q view l,q) with
 |false=>rw[ah (fun h=>by cases h.1)];rfl
 |true =>
  by_cases h:aH (Q3 q view l).data.toList=view
  .rw[ai ⟨rfl,h⟩,aN h];rfl
  .rw[ah (fun hh=>h hh.2),aR h];rfl
def azW {c:Int×Int}{q:cY}{view:Int}{l:List fE}(h:(jD c q view l).2=true):gx c (jD c q view l).1=true/\aH (jD c q view l).1.1.data.toList=view/\(jD c q view l).1.2=q:=by
 unfold jD at h ⊢;split at h
 .rename_i hh;rw[ai hh];exact⟨hh.1,hh.2,rfl⟩
 .cases h
def Ob (c:Int×Int)(l:List cY)(view:Int):Bool:=decide (((ei l view al).2.2.length:Int)>=uw c)
def aEB (c:Int×Int)(r:aC):Bool:=decide (cG c r.2.1=r.1)&&(!decide (r.2.2.1>=r.2.1)&&(decide (r.2.2.2.1.2.2.1.1=ak (r.2.1-1)) || Ob c r.2.2.2.2.2.1 r.2.1))
def aib (r:aC):List fE:=jC (rV awL (aqu r.2.2.2.1.2.2.1.2.1)) 2 r.2.2.2.2.1
def ask (c:Int×Int)(r:aC):dd×Bool:=if aEB c r=true then jD c r.2.2.2.1.2.2.1 r.2.1 (aib r) else (aEA,false)
def bc.view {c:Int×Int}{r:aC}(h:bc c r):1<=r.2.1/\r.2.1<=60:=by have:=h.f.v;simp only[ix,aI,cA]at this;exact this
def aID (a b:Int):decide (a<b)= !decide (a>=b):=by
 by_cases h:a<b
 .rw[aN h,aR (by omega)];rfl
 .rw[aR h,aN (by omega)];rfl
def aqX (r:aC):(aib r).length<=2:=Ss _ _ _
def aEC {c:Int×Int}{r:aC}(h:bc c r):V9 F0 c r=some ((ask c r).1,(ask c r).2,()):=by have hv:=h.view;have hq:=(dX h.f.s).2.2.1;have hp4:ab3 (rV awL (aqu r.2.2.2.1.2.2.1.2.1)):=Yo acf;have hB:=afy (c:=c) (q:=r.2.2.2.1.2.2.1) hq (view:=r.2.1) ⟨by omega,by omega⟩ (l:=aib r) (by have:=aqX r;omega);have hT:pQ F0 r.2.2.2.2.1 (rV awL (aqu r.2.2.2.1.2.2.1.2.1))=some (aib r,()):=axf h.l.p hp4;have hq2:u6 r.2.2.2.1.2.2.1:=h.l.s.1;rw[ayK,jc h.l,aj,h.ok,aO,aa,Ln,aj,Sr h.l.t h.l.tq,aj,ab5,aj,aaP,aj,azw hq2.1,aj,ap9 acf (cR (QX _) (by omega))];simp only[aj,hT,hB];unfold ask aEB Ob;rw[Yz,Yz,aID];cases decide (cG c r.2.1=r.1)<;>cases decide (r.2.2.1>=r.2.1)<;>cases decide (r.2.2.2.1.2.2.1.1=ak (r.2.1-1))<;>cases decide (((ei r.2.2.2.2.2.1 r.2.1 al).2.2.length:Int)>=uw c)<;>rfl
def aqY {c:Int×Int}{r:aC}(h:asP r)(view:Int):tF F0 c r view=some (Ob c r.2.2.2.2.2.1 view,()):=by rw[awx,aaV h.t h.tq,aj,ajG,aj];rfl
def aIE {c:Int×Int}{r:aC}(h:bc c r):aeO F0 c r=some ((ask c r).1,(ask c r).2,()):=by have hv:=h.view;have hq:=(dX h.f.s).2.2.1;have hp4:ab3 (rV awL (aqu r.2.2.2.1.2.2.1.2.1)):=Yo acf;have hB:=as3 (c:=c) (q:=r.2.2.2.1.2.2.1) hq (view:=r.2.1) ⟨by omega,by omega⟩ (l:=aib r) (aqX r);have hT:pY F0 r.2.2.2.2.1 (rV awL (aqu r.2.2.2.1.2.2.1.2.1))=some (aib r,()):=as0 h.l.p hp4;have hq2:u6 r.2.2.2.1.2.2.1:=h.l.s.1;rw[ayV,fe h.l,aj,h.ok,aO,aa,Jh,aj,aqY h.l,aj,Xw,aj,aug hq2.1,aj,ajO acf (cR (QX _) (by omega))];simp only[aj,hT,hB];unfold ask aEB;rw[Yz,Yz];cases decide (cG c r.2.1=r.1)<;>cases decide (r.2.2.1>=r.2.1)<;>cases decide (r.2.2.2.1.2.2.1.1=ak (r.2.1-1))<;>cases Ob c r.2.2.2.2.2.1 r.2.1<;>rfl
def aIF {c:Int×Int}{r:aC}(h:(ask c r).2=true):aEB c r=true/\gx c (ask c r).1=true/\aH (ask c r).1.1.data.toList=r.2.1/\(ask c r).1.2=r.2.2.2.1.2.2.1:=by
 unfold ask at h ⊢;split at h
 .rename_i hh;rw[ai hh];exact⟨hh,azW h⟩
 .cases h
def Ux (r:aC):aC:=(r.1,r.2.1,r.2.2.1,r.2.2.2.1,r.2.2.2.2.1,r.2.2.2.2.2.1,lW r.2.2.2.2.2.2.1,[])
def azX {c:Int×Int}{r:aC}(h:bc c r):H9 F0 c r=some (Ux r,r.2.2.2.2.2.2.2,()):=by rw[ald,eS h.bt,aj,jc h.l,aj,h.ok,aO,aa,aIy h.bt.d.1,aj,afl h.l.h h.l.hm,aj];rfl
def axl {c:Int×Int}{r:aC}(h:bc c r):It F0 c r=some (Ux r,r.2.2.2.2.2.2.2,()):=by rw[alE,eT h.bt,aj,fe h.l,aj,h.ok,aO,aa,aF6 h.bt.d.1,aj];rfl
def azY {d:qQ}(h:gH d=true):gH (lW d)=true:=by unfold lW;rw[ai h];have:=dY.1 h;exact dY.2 ⟨this.1,by dsimp only;omega,by dsimp only;omega⟩
def axm (d:qQ):(lW d).1=d.1:=by unfold lW;split<;>rfl
def bc.Ux {c:Int×Int}{r:aC}(h:bc c r):bc c (Ux r) :=
 ⟨⟨h.f.cf,h.f.i,h.f.v,h.f.a,h.f.s,h.f.p,h.f.t,azY h.f.d,aT _,fun x hx=>by cases hx⟩,by show ∀x∈(lW r.2.2.2.2.2.2.1).1,_;rw[axm];exact h.b⟩
def lX (r:aC)(v:Int):aC:=(r.1,v,r.2.2)
def gK (r:aC)(t:List cY):aC:=(r.1,r.2.1,r.2.2.1,r.2.2.2.1,r.2.2.2.2.1,t,r.2.2.2.2.2.2)
def bc.lX {c:Int×Int}{r:aC}(h:bc c r){v:Int}(h1:1<=v)(h2:v<=60):bc c (lX r v) :=
 ⟨⟨h.f.cf,h.f.i,by show ix 1 60 v=true;simp[ix,h1,h2],h.f.a,h.f.s,h.f.p,h.f.t,h.f.d,h.f.n,h.f.h⟩,h.b⟩
def bc.gK {c:Int×Int}{r:aC}(h:bc c r){t:List cY}(ht:fH c t=true):bc c (gK r t) :=
 ⟨⟨h.f.cf,h.f.i,h.f.v,h.f.a,h.f.s,h.f.p,ht,h.f.d,h.f.n,h.f.h⟩,h.b⟩
def p6 {c:Int×Int}{l:List cY}(h:fH c l=true)(p:cY):fH c (bN c l p).1=true:=by
 unfold bN;split
 .rename_i hh;exact hh.2
 .exact h
def one (v:Int)(name:ByteArray)(i:Int):cY:=(v,name,[i])
def Hq (c:Int×Int)(r:aC):aC×Bool :=
 if r.2.1>=60 then (r,false)
 else if cG c (ak (r.2.1+1))=r.1 then
  if (bN c r.2.2.2.2.2.1 (one (ak (r.2.1+1)) al r.1)).2=true then (gK (lX r (ak (r.2.1+1))) (bN c r.2.2.2.2.2.1 (one (ak (r.2.1+1)) al r.1)).1,true) else (r,false)
 else if (nV c (lX r (ak (r.2.1+1))) (cG c (ak (r.2.1+1))) (kC (ak (r.2.1+1)) r.2.2.2.1.2.2.1 r.1)).2=true then ((nV c (lX r (ak (r.2.1+1))) (cG c (ak (r.2.1+1))) (kC (ak (r.2.1+1)) r.2.2.2.1.2.2.1 r.1)).1,true) else (r,false)
def aIG {c:Int×Int}{r:aC}(h:bc c r):Ye F0 c r=some ((Hq c r).1,(Hq c r).2,()):=by
 have hv:=h.view;have hq:=(dX h.f.s).2.2.1;have hT:fX F0 c r.2.2.2.2.2.1 (ak (r.2.1+1),al,[r.1])=some ((bN c r.2.2.2.2.2.1 (one (ak (r.2.1+1)) al r.1)).1,(bN c r.2.2.2.2.2.1 (one (ak (r.2.1+1)) al r.1)).2,()):=I0 (w7 h.f.t) ⟨aT _,by show 1<=1000;omega⟩ c;have ht:gl F0 c (r.1,ak (r.2.1+1),r.2.2) (cG c (ak (r.2.1+1))) (3,ak (r.2.1+1),(al,0,al,[]),(0,al,[]),r.2.2.2.1.2.2.1,r.1,0,0,0,0)=some (((nV c (lX r (ak (r.2.1+1))) (cG c (ak (r.2.1+1))) (kC (ak (r.2.1+1)) r.2.2.2.1.2.2.1 r.1)).1,(nV c (lX r (ak (r.2.1+1))) (cG c (ak (r.2.1+1))) (kC (ak (r.2.1+1)) r.2.2.2.1.2.2.1 r.1)).2,()),()) :=
  Oa (r:=lX r (ak (r.2.1+1))) h.l.h (Q2 h.l.s.1 r.1) c _
 rw[awd,eS h.bt,aj,jc h.l,aj,h.ok,aO,aa,Ln,aj];simp only[aj,hT,ht];unfold Hq;by_cases h1:r.2.1>=60
 .rw[ai h1,aN h1,af]
 .rw[ah h1,aR h1,aa];by_cases h2:cG c (ak (r.2.1+1))=r.1
  .rw[ai h2,bC.2 h2,af];cases (bN c r.2.2.2.2.2.1 (one (ak (r.2.1+1)) al r.1)).2<;>rfl
  .rw[ah h2,ct.2 h2,aa];cases (nV c (lX r (ak (r.2.1+1))) (cG c (ak (r.2.1+1))) (kC (ak (r.2.1+1)) r.2.2.2.1.2.2.1 r.1)).2<;>rfl
def aGe {c:Int×Int}{r:aC}(h:bc c r):Yl F0 c r=some ((Hq c r).1,(Hq c r).2,()):=by
 have hv:=h.view;have hT:fB F0 c r.2.2.2.2.2.1 (ak (r.2.1+1),al,[r.1])=some ((bN c r.2.2.2.2.2.1 (one (ak (r.2.1+1)) al r.1)).1,(bN c r.2.2.2.2.2.1 (one (ak (r.2.1+1)) al r.1)).2,()):=Ep (w7 h.f.t) ⟨aT _,by show 1<=1000;omega⟩ c;rw[awz,eT h.bt,aj,fe h.l,aj,h.ok,aO,aa];unfold Hq;by_cases h1:r.2.1>=60
 .rw[ai h1,bC.2 (show r.2.1=60 by omega),af]
 .have hw:ak (r.2.1+1)=r.2.1+1:=aJ (by omega) (by omega);have ht:nL F0 c (r.1,ak (r.2.1+1),r.2.2) (cG c (ak (r.2.1+1))) (3,ak (r.2.1+1),(al,0,al,[]),(0,al,[]),r.2.2.2.1.2.2.1,r.1,0,0,0,0)=some ((nV c (lX r (ak (r.2.1+1))) (cG c (ak (r.2.1+1))) (kC (ak (r.2.1+1)) r.2.2.2.1.2.2.1 r.1)).1,(nV c (lX r (ak (r.2.1+1))) (cG c (ak (r.2.1+1))) (kC (ak (r.2.1+1)) r.2.2.2.1.2.2.1 r.1)).2,()) :=
   Yy (h.lX (v:=ak (r.2.1+1)) (by omega) (by omega)) (Q2 h.l.s.1 r.1) _
  rw[ah h1,ct.2 (show r.2.1≠60 by omega),aa];simp only[aj,hT,ht,Jh];by_cases h2:cG c (ak (r.2.1+1))=r.1
  .rw[ai h2,bC.2 h2,af];cases (bN c r.2.2.2.2.2.1 (one (ak (r.2.1+1)) al r.1)).2<;>rfl
  .rw[ah h2,ct.2 h2,aa];cases (nV c (lX r (ak (r.2.1+1))) (cG c (ak (r.2.1+1))) (kC (ak (r.2.1+1)) r.2.2.2.1.2.2.1 r.1)).2<;>rfl
def bc.aOO {c:Int×Int}{r:aC}(h:bc c r):bc c (Hq c r).1:=by
 have hv:=h.view;unfold Hq;split
 .exact h
 .rename_i h1;have hw:ak (r.2.1+1)=r.2.1+1:=aJ (by omega) (by omega);have hs:=h.lX (v:=ak (r.2.1+1)) (by omega) (by omega);split
  .split
   .exact hs.gK (p6 h.f.t _)
   .exact h
  .split
   .exact hs.told _ _
   .exact h
def xI (c:Int×Int)(r:aC)(m:cQ):Nat->Nat->aC->aC×Bool
 |0,_,o=>(o,true)|j+1,k,o=>if (k:Int)=r.1 then xI c r m j (k+1) o else if (nV c o (k:Int) m).2=true then xI c r m j (k+1) (nV c o (k:Int) m).1 else (r,false)
def YA (c:Int×Int)(r:aC)(m:cQ):aC×Bool:=xI c r m c.1.toNat 0 r
def aqZ {c:Int×Int}{r:aC}(h:bc c r)(m:cQ):∀(j k:Nat) (o:aC),bc c o->bc c (xI c r m j k o).1
 |0,_,_,ho=>ho|j+1,k,o,ho=>by
  unfold xI;split
  .exact aqZ h m j (k+1) o ho
  .split
   .exact aqZ h m j (k+1) _ (ho.told _ _)
   .exact h
def bc.aKF {c:Int×Int}{r:aC}(h:bc c r)(m:cQ):bc c (YA c r m).1:=aqZ h m _ _ _ h
def aic {c:Int×Int}{r:aC}(h:bc c r){m:cQ}(hm:gI m):∀(j k:Nat) (z:aC) (n:Nat),(k:Int)+j=c.1->bc c z->j<n->c.1<=100 ->
  rz F0 (sV F0) n (nm (k:Int) c.1 c.2 r.1 r.2.1 r.2.2.1 r.2.2.2.1.1 r.2.2.2.1.2.1 r.2.2.2.1.2.2.1.1 r.2.2.2.1.2.2.1.2.1 r.2.2.2.1.2.2.1.2.2 r.2.2.2.1.2.2.2 r.2.2.2.2.1 r.2.2.2.2.2.1 r.2.2.2.2.2.2.1.1 r.2.2.2.2.2.2.1.2 r.2.2.2.2.2.2.2 m.1 m.2.1 m.2.2.1.1 m.2.2.1.2.1 m.2.2.1.2.2.1 m.2.2.1.2.2.2 m.2.2.2.1.1 m.2.2.2.1.2.1 m.2.2.2.1.2.2 m.2.2.2.2.1.1 m.2.2.2.2.1.2.1 m.2.2.2.2.1.2.2 m.2.2.2.2.2.1 m.2.2.2.2.2.2.1 m.2.2.2.2.2.2.2.1 m.2.2.2.2.2.2.2.2.1 m.2.2.2.2.2.2.2.2.2 0 0 0 0 0 0 al al 0 z.1 z.2.1 z.2.2.1 z.2.2.2.1.1 z.2.2.2.1.2.1 z.2.2.2.1.2.2.1.1 z.2.2.2.1.2.2.1.2.1 z.2.2.2.1.2.2.2 z.2.2.2.2.2.2.1.2 [] [] [] [] [] z.2.2.2.1.2.2.1.2.2 z.2.2.2.2.1 z.2.2.2.2.2.1 z.2.2.2.2.2.2.1.1 z.2.2.2.2.2.2.2)
   = some ((xI c r m j k z).1,(xI c r m j k z).2,())
 |0,k,z,n+1,hk,hz,hn,hc=>by rw[GV,aR (show ¬(k:Int)<c.1 by omega),aa,abH];rfl
 |j+1,k,z,n+1,hk,hz,hn,hc=>by
  have ht:=Oa (r:=z) hz.l.h hm c (k:Int);have hcp:=eS h.bt;rw[GV,aN (show(k:Int)<c.1 by omega),af,show((c.1,c.2):Int×Int)=c from rfl];refine BC (qd (fun x=>br ((k:Int)==r.1) _ (Option.bind x _)) ht) ?_;rw[aj];dsimp only;unfold xI;by_cases h1:(k:Int)=r.1
  .rw[ai h1,bC.2 h1,af,ao (by omega)];exact aic h hm j (k+1) z n (by omega) hz (by omega) hc
  .rw[ah h1,ct.2 h1,aa];cases h2:(nV c z (k:Int) m).2 with
   |true =>
    rw[aO,aa,ai rfl,ao (by omega)];exact aic h hm j (k+1) _ n (by omega) (hz.told _ _) (by omega) hc
   |false =>
    rw[ff,af,ah (by decide)];refine BC (qd (fun x=>Option.bind x _) hcp) ?_;rw[aj,ad3]
def azZ {c:Int×Int}{r:aC}(h:bc c r){m:cQ}(hm:gI m):zS F0 c r m=some ((YA c r m).1,(YA c r m).2,()):=by have hn:=cF h.f.cf;rw[alb,eS h.bt,aj,jc h.l,aj,h.ok,aO,aa];exact aic h hm c.1.toNat 0 r F0.n (by omega) h (by rw[cl];omega) (by omega)
def acu {c:Int×Int}{r:aC}(h:bc c r){m:cQ}(hm:gI m):∀(j k:Nat) (z:aC) (n:Nat),(k:Int)+j=c.1->bc c z->j<n->c.1<=100 ->
  rQ F0 (tO F0) n (nO (k:Int) c.1 c.2 r.1 r.2.1 r.2.2.1 r.2.2.2.1.1 r.2.2.2.1.2.1 r.2.2.2.1.2.2.1.1 r.2.2.2.1.2.2.1.2.1 r.2.2.2.1.2.2.1.2.2 r.2.2.2.1.2.2.2 r.2.2.2.2.1 r.2.2.2.2.2.1 r.2.2.2.2.2.2.1.1 r.2.2.2.2.2.2.1.2 r.2.2.2.2.2.2.2 m.1 m.2.1 m.2.2.1.1 m.2.2.1.2.1 m.2.2.1.2.2.1 m.2.2.1.2.2.2 m.2.2.2.1.1 m.2.2.2.1.2.1 m.2.2.2.1.2.2 m.2.2.2.2.1.1 m.2.2.2.2.1.2.1 m.2.2.2.2.1.2.2 m.2.2.2.2.2.1 m.2.2.2.2.2.2.1 m.2.2.2.2.2.2.2.1 m.2.2.2.2.2.2.2.2.1 m.2.2.2.2.2.2.2.2.2 0 0 0 0 0 0 al al 0 z.1 z.2.1 z.2.2.1 z.2.2.2.1.1 z.2.2.2.1.2.1 z.2.2.2.1.2.2.1.1 z.2.2.2.1.2.2.1.2.1 z.2.2.2.1.2.2.2 z.2.2.2.2.2.2.1.2 [] [] [] [] [] z.2.2.2.1.2.2.1.2.2 z.2.2.2.2.1 z.2.2.2.2.2.1 z.2.2.2.2.2.2.1.1 z.2.2.2.2.2.2.2)
   = some ((xI c r m j k z).1,(xI c r m j k z).2,())
 |0,k,z,n+1,hk,hz,hn,hc=>by rw[Ho,aR (show ¬(k:Int)<c.1 by omega),aa,ab0];rfl
 |j+1,k,z,n+1,hk,hz,hn,hc=>by
  have ht:=Yy hz hm (k:Int);have hcp:=eT h.bt;rw[Ho,aN (show(k:Int)<c.1 by omega),af,show((c.1,c.2):Int×Int)=c from rfl];refine BC (qd (fun x=>br ((k:Int)==r.1) _ (Option.bind x _)) ht) ?_;rw[aj];dsimp only;unfold xI;by_cases h1:(k:Int)=r.1
  .rw[ai h1,bC.2 h1,af,ao (by omega)];exact acu h hm j (k+1) z n (by omega) hz (by omega) hc
  .rw[ah h1,ct.2 h1,aa];cases h2:(nV c z (k:Int) m).2 with
   |true =>
    rw[aO,aa,ai rfl,ao (by omega)];exact acu h hm j (k+1) _ n (by omega) (hz.told _ _) (by omega) hc
   |false =>
    rw[ff,af,ah (by decide)];refine BC (qd (fun x=>Option.bind x _) hcp) ?_;rw[aj,aeQ]
def axn {c:Int×Int}{r:aC}(h:bc c r){m:cQ}(hm:gI m):AY F0 c r m=some ((YA c r m).1,(YA c r m).2,()):=by have hn:=cF h.f.cf;rw[al0,eT h.bt,aj,fe h.l,aj,h.ok,aO,aa];exact acu h hm c.1.toNat 0 r F0.n (by omega) h (by rw[cl];omega) (by omega)
def afz {U:Type}{d:U}{p:U->Bool}{q:U->U->Bool}(tr:∀a b c,q a b=true->q b c=true->q a c=true){l:List U}(h:XD d p q l=true)(f:U->Bool):XD d p q (l.filter f)=true:=by
 rw[ah7]at h ⊢;have hp:l.Pairwise fun a b=>q a b=true:=aAT.2 fun i j hi hj hij=>axd tr h.2 j hij hj
 have hf:=hp.filter f;refine⟨fun k hk=>?_,fun k hk=>aAT.1 hf k (k+1) (by omega) hk (by omega)⟩;have hm:=(List.mem_filter.1 (cX hk)).1;obtain⟨i,hi,he⟩:=aiq hm;rw[<-he];exact h.1 i hi
def aq0:∀{a b c:List UInt8},Op.bytesLess a b=true->Op.bytesLess b c=true->Op.bytesLess a c=true
 |[],[],_,h,_=>by cases h
 |_::_,[],_,h,_=>by cases h
 |_,_::_,[],_,h=>by cases h
 |[],_::_,_::_,_,_=>rfl|x::a,y::b,z::c,h1,h2=>by
  simp only[Op.bytesLess,kE,aI,cA,bC]at h1 h2 ⊢;rcases h1 with h1|⟨rfl,h1⟩
  .rcases h2 with h2|⟨rfl,h2⟩
   .exact .inl (UInt8.lt_trans h1 h2)
   .exact .inl h1
  .rcases h2 with h2|⟨rfl,h2⟩
   .exact .inl h2
   .exact .inr ⟨rfl,aq0 h1 h2⟩
def as4 (a b c:cY)(h1:gw a b=true)(h2:gw b c=true):gw a c=true:=by
 simp only[gw,kE,aI,cA,bC]at *;rcases h1 with h1|⟨e1,h1⟩
 .rcases h2 with h2|⟨e2,h2⟩
  .exact .inl (by omega)
  .exact .inl (by omega)
 .rcases h2 with h2|⟨e2,h2⟩
  .exact .inl (by omega)
  .exact .inr ⟨by omega,aq0 h1 h2⟩
def aq1 {c:Int×Int}{l:List cY}(h:fH c l=true)(f:cY->Bool):fH c (l.filter f)=true:=by simp only[fH,aI,cA]at h ⊢;have:=amF f l;exact⟨afz as4 h.1 f,by omega⟩
def as5 {l:List fE}(h:fS l=true)(f:fE->Bool):fS (l.filter f)=true:=by simp only[fS,aI,cA]at h ⊢;have:=amF f l;exact⟨afz (q:=fV) (fun a b c h1 h2=>N9 h1 h2) h.1 f,by omega⟩
def aCz {l:List fE}(h:fS l=true)(x:fE):fS (mz l x).1=true:=by
 unfold mz;split
 .rename_i hh;exact hh
 .exact h
def oa (b:dd):Int:=aH b.1.data.toList
def own (c:Int×Int)(r:aC)(name:ByteArray):aC×Bool :=
 if (bN c r.2.2.2.2.2.1 (one (aH name.data.toList) name r.1)).2=true then ((gM c (gK r (bN c r.2.2.2.2.2.1 (one (aH name.data.toList) name r.1)).1) (aH name.data.toList) name false).1,true) else (r,false)
def aKG {c:Int×Int}{r:aC}{sN:Int}{m:cQ}(h:(nV c r sN m).2=false):(nV c r sN m).1=r:=by
 unfold nV at h ⊢;cases ht:XQ c r sN m with
 |true=>rw[ht,ai rfl]at h;cases h|false=>rfl
def az0 {c:Int×Int}{r:aC}{view:Int}{name:ByteArray}{push:Bool}(h:(gM c r view name push).2=false):(gM c r view name push).1=r:=by
 by_cases h1:(ei r.2.2.2.2.2.1 view name).2.2.length=0\/eh name=true
 .rw[afv rfl h1]
 .by_cases h3:cG c view=r.1
  .by_cases h4:XR c (ei r.2.2.2.2.2.1 view name)=true/\(ue c r (ei r.2.2.2.2.2.1 view name)).2=true
   .rw[axi rfl h1 h3 h4]at h;cases h
   .rw[afw rfl h1 h3 h4]
  .by_cases h4:push=false/\cmn (ei r.2.2.2.2.2.1 view name).2.2 (eI c view r.1)<(eI c view r.1).length
   .rw[axj rfl h1 h3 h4]
   .rw[afx rfl h1 h3 h4]at h ⊢;exact aKG h
def bc.owned {c:Int×Int}{r:aC}(h:bc c r)(name:ByteArray):bc c (own c r name).1:=by
 unfold own;split
 .exact(h.gK (p6 h.f.t _)).axk _ _ _
 .exact h
def aCA {c:Int×Int}{r:aC}(h:bc c r){name:ByteArray}(hn:name.size<=1048576):n4 F0 c r name=some (((own c r name).1,(own c r name).2,()),()):=by
 have hT:fX F0 c r.2.2.2.2.2.1 (aH name.data.toList,name,[r.1])=some ((bN c r.2.2.2.2.2.1 (one (aH name.data.toList) name r.1)).1,(bN c r.2.2.2.2.2.1 (one (aH name.data.toList) name r.1)).2,()):=I0 (w7 h.f.t) ⟨hn,by show 1<=1000;omega⟩ c;have hg:=h.gK (p6 h.f.t (one (aH name.data.toList) name r.1));have hc:bo F0 (r.1,r.2.1,r.2.2.1,r.2.2.2.1,r.2.2.2.2.1,(bN c r.2.2.2.2.2.1 (one (aH name.data.toList) name r.1)).1,r.2.2.2.2.2.2)=some (gK r (bN c r.2.2.2.2.2.1 (one (aH name.data.toList) name r.1)).1,()):=eS hg.bt;obtain⟨x,hx,hx2⟩:=Sw hg (aH name.data.toList) hn false;rw[aoz,p4 hn];simp only[aj,hT,hc,hx,p4 hn];unfold own;cases h1:(bN c r.2.2.2.2.2.1 (one (aH name.data.toList) name r.1)).2 with
 |false=>rfl
 |true =>
  rw[ai rfl,aO,aa];cases h2:(gM c (gK r (bN c r.2.2.2.2.2.1 (one (aH name.data.toList) name r.1)).1) (aH name.data.toList) name false).2 with
  |true=>rw[hx2 h2];rfl|false=>rw[az0 h2];rfl
def kH (r:aC)(b:dd):aC:=if oa b>=r.2.1 then lX r (oa b) else r
def jO (c:Int×Int)(r:aC)(b:dd):Bool:=decide (oa b>=r.2.1)&&je c (Sq c r.2.2.2.1 b.2) b
def uy (c:Int×Int)(r:aC)(b:dd):bG:=if jO c r b=true then (oa b,(Sq c r.2.2.2.1 b.2).2) else Sq c r.2.2.2.1 b.2
def Fu (c:Int×Int)(r:aC)(b:dd)(Q4:Bool)(W:aC×Bool):aC×Bool :=
 if W.2=true then (if Q4=true then (if (own c W.1 b.1).2=true then ((own c W.1 b.1).1,true) else (r,false)) else (W.1,true)) else (r,false)
def gZ (c:Int×Int)(r:aC)(b:dd):aC×Bool:=Fu c r b (jO c r b) (j1 c (kH r b) (uy c r b))
def bc.kH {c:Int×Int}{r:aC}(h:bc c r)(b:dd):bc c (kH r b):=by
 unfold Tryz.kH;have:=h.view;have hv:=pZ b.1.data.toList;split
 .exact h.lX (by unfold oa at *;omega) (by unfold oa at *;omega)
 .exact h
def az1 {c:Int×Int}{r:aC}(h:bc c r)(b:dd):nQ (uy c r b):=by
 have:=aqV h b.2;unfold uy;split
 .exact this
 .exact this
def bc.Fu {c:Int×Int}{r:aC}(h:bc c r)(b:dd)(Q4:Bool){W:aC×Bool}(hw:bc c W.1):bc c (Fu c r b Q4 W).1:=by
 unfold Tryz.Fu;split
 .split
  .split
   .exact hw.owned _
   .exact h
  .exact hw
 .exact h
def bc.aq2 {c:Int×Int}{r:aC}(h:bc c r)(b:dd):bc c (gZ c r b).1:=h.Fu b _ ((h.kH b).wrote _)
def aCB {c:Int×Int}{r:aC}{b:dd}(hb1:b.1.size<=1048576)(Q4:Bool){W:aC×Bool}(hw:bc c W.1)(x:aC) :
  ((some (if W.2=true then (W.1,true,ajL) else (ajL,false,x)):Option (aC×Bool×aC)).bind fun ZU=>br ZU.2.1 (br Q4 ((n4 F0 c ZU.1 b.1).bind fun r80=>br (!r80.1.2.1) (some (r,false,())) (some (r80.1.1,true,()))) (some (ZU.1,true,()))) (some (r,false,())))=some ((Fu c r b Q4 W).1,(Fu c r b Q4 W).2,()):=by
 have hO:=aCA hw hb1;obtain⟨W1,W2⟩:=W;unfold Fu;cases W2 with
 |false=>rfl
 |true =>
  cases Q4 with
  |false=>rfl
  |true =>
   dsimp only at hO ⊢;rw[ai rfl,ai rfl,ai rfl,aj];dsimp only;rw[af,af,hO,aj];cases h:(own c W1 b.1).2<;>rfl
def az2 {c:Int×Int}{s:bG}{b:dd}(h:je c s b=true):azL c s b=((oa b,s.2),true):=ai h
def aKH {c:Int×Int}{s:bG}{b:dd}(h:je c s b=false):azL c s b=(s,false):=ah (by rw[h];decide)
def aIH {c:Int×Int}{r:aC}{b:dd}(h1:oa b>=r.2.1)(h2:je c (Sq c r.2.2.2.1 b.2) b=true):jO c r b=true/\uy c r b=(oa b,(Sq c r.2.2.2.1 b.2).2):=by
 have:jO c r b=true:=by unfold jO;rw[aN h1,h2];rfl
 exact⟨this,ai this⟩
def aED {c:Int×Int}{r:aC}{b:dd}(h:¬(oa b>=r.2.1/\je c (Sq c r.2.2.2.1 b.2) b=true)):jO c r b=false/\uy c r b=Sq c r.2.2.2.1 b.2:=by
 have:jO c r b=false:=by
  unfold jO;by_cases h1:oa b>=r.2.1
  .cases h2:je c (Sq c r.2.2.2.1 b.2) b with
   |true=>exact absurd ⟨h1,h2⟩ h|false=>rw[UZ]
  .rw[aR h1];rfl
 exact⟨this,ah (by rw[this];decide)⟩
def aaY {c:Int×Int}{r:aC}(h:bc c r){b:dd}(hb:gx c b=true):rq F0 c r b=some ((gZ c r b).1,(gZ c r b).2,()):=by
 obtain⟨hb1,hb2⟩:=Jm hb;have hsl:=aqV h b.2;have hM:=ajW (c:=c) hsl hb1 hb2;have hV:=aIx (c:=c) hsl hb1 hb2;have hW:=Sv (h.kH b) (az1 h b);have hw:bc c (j1 c (kH r b) (uy c r b)).1:=(h.kH b).wrote _;have aBT:=aCB (r:=r) hb1 (jO c r b) hw (kH r b);rw[adV,eS h.bt,aj,jc h.l,aj,h.ok,aO,aa,NY hb1 hb2,aj,hb,aO,aa,axa h.l.s hb2,p4 hb1];simp only[aj,hM,hV];rw[show aH b.1.data.toList=oa b from rfl];show _=some ((Fu c r b (jO c r b) (j1 c (kH r b) (uy c r b))).1,(Fu c r b (jO c r b) (j1 c (kH r b) (uy c r b))).2,());rw[<-aBT,<-hW];by_cases h1:oa b>=r.2.1
 .have hr:kH r b=(r.1,oa b,r.2.2):=ai h1;rw[aN h1,af,af];cases h2:je c (Sq c r.2.2.2.1 b.2) b with
  |true =>
   obtain⟨e1,e2⟩:=aIH h1 h2;rw[e1,e2,hr,az2 h2,af]
  |false =>
   obtain⟨e1,e2⟩:=aED (c:=c) (r:=r) (b:=b) (fun hh=>by rw[h2]at hh;cases hh.2);rw[e1,e2,hr,aa]
 .have hr:kH r b=r:=ah h1;obtain⟨e1,e2⟩:=aED (c:=c) (r:=r) (b:=b) (fun hh=>h1 hh.1);rw[aR h1,aa,aa,e1,e2,hr];rfl
def aCC {c:Int×Int}{r:aC}{b:dd}(hb1:b.1.size<=1048576)(Q4:Bool){W:aC×Bool}(hw:bc c W.1)(hid:W.1.1=r.1) :
  br (!W.2) (some (r,false,())) (br (!Q4) (some (W.1,true,())) ((fB F0 c W.1.2.2.2.2.2.1 (oa b,b.1,[r.1])).bind fun r74=>br (!r74.2.1) (some (r,false,())) ((oW F0 c (W.1.1,W.1.2.1,W.1.2.2.1,W.1.2.2.2.1,W.1.2.2.2.2.1,r74.1,W.1.2.2.2.2.2.2) (oa b) b.1 false).bind fun r88=>some (r88.1,true,()))))=some ((Fu c r b Q4 W).1,(Fu c r b Q4 W).2,()):=by
 obtain⟨W1,W2⟩:=W;dsimp only at hw hid ⊢;unfold Fu;cases W2 with
 |false=>rfl
 |true =>
  cases Q4 with
  |false=>rfl
  |true =>
   have hT:fB F0 c W1.2.2.2.2.2.1 (oa b,b.1,[r.1])=some ((bN c W1.2.2.2.2.2.1 (one (aH b.1.data.toList) b.1 W1.1)).1,(bN c W1.2.2.2.2.2.1 (one (aH b.1.data.toList) b.1 W1.1)).2,()):=by rw[hid];exact Ep (w7 hw.f.t) ⟨hb1,by show 1<=1000;omega⟩ c
   have hg:=hw.gK (p6 hw.f.t (one (aH b.1.data.toList) b.1 W1.1));have hC:=acs hg (oa b) hb1 false;have hC':oW F0 c (W1.1,W1.2.1,W1.2.2.1,W1.2.2.2.1,W1.2.2.2.2.1,(bN c W1.2.2.2.2.2.1 (one (aH b.1.data.toList) b.1 W1.1)).1,W1.2.2.2.2.2.2) (oa b) b.1 false=some ((gM c (gK W1 (bN c W1.2.2.2.2.2.1 (one (aH b.1.data.toList) b.1 W1.1)).1) (oa b) b.1 false).1,(gM c (gK W1 (bN c W1.2.2.2.2.2.1 (one (aH b.1.data.toList) b.1 W1.1)).1) (oa b) b.1 false).2,()):=hC;rw[hT,aj,ai rfl,ai rfl];unfold own;dsimp only;cases h4:(bN c W1.2.2.2.2.2.1 (one (aH b.1.data.toList) b.1 W1.1)).2 with
   |false=>rfl
   |true =>
    rw[hC',aj];rfl
def XS {c:Int×Int}{r:aC}(h:bc c r){b:dd}(hb:gx c b=true):rO F0 c r b=some ((gZ c r b).1,(gZ c r b).2,()):=by
 obtain⟨hb1,hb2⟩:=Jm hb;have hsl:=aqV h b.2;have hV:=aF5 (c:=c) hsl hb1 hb2;have hW:=acq (h.kH b) (az1 h b);have hw:bc c (j1 c (kH r b) (uy c r b)).1:=(h.kH b).wrote _;have hid:(j1 c (kH r b) (uy c r b)).1.1=r.1:=by rw[afu];unfold kH;split<;>rfl
 have aBT:=aCC (r:=r) hb1 (jO c r b) hw hid;rw[aeB,fe h.l,aj,h.ok,aO,aa,IT hb1 hb2,aj,hb,aO,aa,aqL h.l.s hb2,rW hb1,eT h.bt];simp only[aj,hV];rw[show aH b.1.data.toList=oa b from rfl];show _=some ((Fu c r b (jO c r b) (j1 c (kH r b) (uy c r b))).1,(Fu c r b (jO c r b) (j1 c (kH r b) (uy c r b))).2,());rw[<-aBT];by_cases h1:oa b>=r.2.1
 .have hr:kH r b=(r.1,oa b,r.2.2):=ai h1;rw[aN h1,af];cases h2:je c (Sq c r.2.2.2.1 b.2) b with
  |true =>
   obtain⟨e1,e2⟩:=aIH h1 h2;rw[hr,e2]at hW;rw[e1,e2,hr,az2 h2];dsimp only;rw[hW,aj]
  |false =>
   obtain⟨e1,e2⟩:=aED (c:=c) (r:=r) (b:=b) (fun hh=>by rw[h2]at hh;cases hh.2);rw[hr,e2]at hW;rw[e1,e2,hr,aKH h2];dsimp only;rw[hW,aj]
 .have hr:kH r b=r:=ah h1;obtain⟨e1,e2⟩:=aED (c:=c) (r:=r) (b:=b) (fun hh=>h1 hh.1);rw[hr,e2]at hW;rw[aR h1,aa,e1,e2,hr,hW,aj];rfl
def aMM (r:aC)(p:cY):Bool:= !eh p.2.1&& !decide (p.1<r.2.1)
def lY (c:Int×Int)(r:aC)(p:cY):aC×Bool :=
 if aMM r p=true/\(bN c r.2.2.2.2.2.1 p).2=true then ((gM c (gK r (bN c r.2.2.2.2.2.1 p).1) p.1 p.2.1 false).1,true) else (r,false)
def bc.aGf {c:Int×Int}{r:aC}(h:bc c r)(p:cY):bc c (lY c r p).1:=by
 unfold lY;split
 .exact(h.gK (p6 h.f.t _)).axk _ _ _
 .exact h
def aII {c:Int×Int}{p:cY}(h:ju c p=true):u6 p:=⟨(Ft h).1,by have:=(Ft h).2;omega⟩
def axo {c:Int×Int}{r:aC}(h:bc c r){p:cY}(hp:ju c p=true):Dv F0 c r p=some ((lY c r p).1,(lY c r p).2,()):=by
 have hT:=I0 (w7 h.f.t) (Ft hp) c;have hg:=h.gK (p6 h.f.t p);have hc:bo F0 (r.1,r.2.1,r.2.2.1,r.2.2.2.1,r.2.2.2.2.1,(bN c r.2.2.2.2.2.1 p).1,r.2.2.2.2.2.2)=some (gK r (bN c r.2.2.2.2.2.1 p).1,()):=eS hg.bt;obtain⟨x,hx,hx2⟩:=Sw hg p.1 (Ft hp).1 false;rw[agI,eS h.bt,aj,jc h.l,aj,h.ok,aO,aa,Sg (aII hp),aj,hp,aO,aa];simp only[aj,hT,hc,hx];unfold lY aMM eh;cases (p.2.1.toList==al.toList)<;>cases decide (p.1<r.2.1)
 .cases h1:(bN c r.2.2.2.2.2.1 p).2 with
  |false=>rfl
  |true =>
   rw[ai ⟨rfl,rfl⟩];cases h2:(gM c (gK r (bN c r.2.2.2.2.2.1 p).1) p.1 p.2.1 false).2 with
   |true=>rw[hx2 h2];rfl|false=>rw[az0 h2];rfl
 .rfl
 .rfl
 .rfl
def as6 {c:Int×Int}{r:aC}(h:bc c r){p:cY}(hp:ju c p=true):Ec F0 c r p=some ((lY c r p).1,(lY c r p).2,()):=by
 have hT:=Ep (w7 h.f.t) (Ft hp) c;have hg:=h.gK (p6 h.f.t p);have hC:oW F0 c (r.1,r.2.1,r.2.2.1,r.2.2.2.1,r.2.2.2.2.1,(bN c r.2.2.2.2.2.1 p).1,r.2.2.2.2.2.2) p.1 p.2.1 false=some ((gM c (gK r (bN c r.2.2.2.2.2.1 p).1) p.1 p.2.1 false).1,(gM c (gK r (bN c r.2.2.2.2.2.1 p).1) p.1 p.2.1 false).2,()):=acs hg p.1 (Ft hp).1 false;rw[aho,fe h.l,aj,h.ok,aO,aa,NV (aII hp),aj,hp,aO,aa,eT h.bt];simp only[aj,hT,hC];unfold lY aMM eh;cases (p.2.1.toList==al.toList)<;>cases decide (p.1<r.2.1)
 .cases h1:(bN c r.2.2.2.2.2.1 p).2<;>rfl
 .rfl
 .rfl
 .rfl
def axp (q:cY):Int:=Gn 60 (ak (q.1+1))
def uz (c:Int×Int)(r:aC)(view:Int):Bool:=decide (cG c view=r.1)&&decide (view>=r.2.1)
def Q5 (l:Bool)(o:aC)(view:Int)(q:cY):aC:=if l=true then u7 (u7 o (axp q)) view else u7 o (axp q)
def uA (imp:Bool)(c:Int×Int)(r:aC)(view:Int)(q:cY)(dk:Int)(o:aC):aC×Bool :=
 if uz c r view=true then
  if (bN c o.2.2.2.2.2.1 (one view al dk)).2=true then
   (Q5 (Ob c (bN c o.2.2.2.2.2.1 (one view al dk)).1 view) (gK o (bN c o.2.2.2.2.2.1 (one view al dk)).1) view q,true)
  else (r,false)
 else (Q5 (imp&&Ob c o.2.2.2.2.2.1 view) o view q,true)
def lZ (imp:Bool)(c:Int×Int)(r:aC)(view:Int)(q:cY)(dk:Int):aC×Bool:=if (written c r q).2=true then uA imp c r view q dk (written c r q).1 else (r,false)
def YB {imp:Bool}{c:Int×Int}{r:aC}{view:Int}{q:cY}{dk:Int}{o:aC}(h:uz c r view=false):uA imp c r view q dk o=(Q5 (imp&&Ob c o.2.2.2.2.2.1 view) o view q,true):=ah (by rw[h];decide)
def aq3 {imp:Bool}{c:Int×Int}{r:aC}{view:Int}{q:cY}{dk:Int}{o:aC}(h:uz c r view=true)(h2:(bN c o.2.2.2.2.2.1 (one view al dk)).2=false):uA imp c r view q dk o=(r,false):=by unfold uA;rw[ai h,ah (by rw[h2];decide)]
def aq4 {imp:Bool}{c:Int×Int}{r:aC}{view:Int}{q:cY}{dk:Int}{o:aC}(h:uz c r view=true)(h2:(bN c o.2.2.2.2.2.1 (one view al dk)).2=true) :
  uA imp c r view q dk o=(Q5 (Ob c (bN c o.2.2.2.2.2.1 (one view al dk)).1 view) (gK o (bN c o.2.2.2.2.2.1 (one view al dk)).1) view q,true):=by
 unfold uA;rw[ai h,ai h2]
def amx (x:Int):Gn 60 x<=60:=by unfold Gn;split<;>omega
def YC (x:Int):Gn x 60=Gn 60 x:=by unfold Gn;split<;>split<;>omega
def aGg (a b c:Int):tV (tV a b) c=tV (tV a c) b:=by
 unfold tV
 repeat' split
 all_goals omega
def bc.Q5 {c:Int×Int}{o:aC}(h:bc c o)(l:Bool){view:Int}(hv:view<=60)(q:cY):bc c (Q5 l o view q):=by
 unfold Tryz.Q5;split
 .exact(h.raised (amx _)).raised hv
 .exact h.raised (amx _)
def bc.uA {c:Int×Int}{r o:aC}(h:bc c r)(ho:bc c o)(imp:Bool){view:Int}(hv:view<=60)(q:cY)(dk:Int):bc c (uA imp c r view q dk o).1:=by
 unfold Tryz.uA;split
 .split
  .exact(ho.gK (p6 ho.f.t _)).Q5 _ hv q
  .exact h
 .exact ho.Q5 _ hv q
def bc.aGh {c:Int×Int}{r:aC}(h:bc c r)(imp:Bool){view:Int}(hv:view<=60)(q:cY)(dk:Int):bc c (lZ imp c r view q dk).1:=by
 unfold lZ;split
 .exact h.uA (h.w q) imp hv q dk
 .exact h
def axq {c:Int×Int}{r:aC}(h:bc c r){view:Int}(hv:ix 1 60 view=true){q:cY}(hq:fO c q=true){dk:Int}(hw:ix 0 (ak (c.1-1)) dk=true) :
  Dw F0 c r view q dk=some ((lZ false c r view q dk).1,(lZ false c r view q dk).2,()):=by
 have hql:=OM hq;have hg:bc c (written c r q).1:=h.w q;rw[agK,eS h.bt,aj,jc h.l,aj,h.ok,aO,aa,dG,aj,hv,aO,aa,Sf hql,aj,hq,aO,aa,dG,aj,hw,aO,aa,axa h.l.s hql];simp only[aj];rw[Sv h (aqV h q),aj];unfold lZ;unfold written at hg ⊢;generalize j1 c r (Sq c r.2.2.2.1 q)=W at hg ⊢;obtain⟨W1,W2⟩:=W;dsimp only at hg ⊢;cases W2 with
 |false=>rfl
 |true =>
  have hT:fX F0 c W1.2.2.2.2.2.1 (view,al,[dk])=some ((bN c W1.2.2.2.2.2.1 (one view al dk)).1,(bN c W1.2.2.2.2.2.1 (one view al dk)).2,()):=I0 (w7 hg.f.t) ⟨aT _,by show 1<=1000;omega⟩ c;have ht:=p6 hg.f.t (one view al dk);have hGt:=Sr (l:=(bN c W1.2.2.2.2.2.1 (one view al dk)).1) (cR (w7 ht).1 (by omega)) (fun q hq=>(w7 ht).l hq) view al;show _=some ((uA false c r view q dk W1).1,(uA false c r view q dk W1).2,());rw[ai rfl];simp only[aj,Ln,hT,hGt,ab5,CG,Yx,af];by_cases h1:cG c view=r.1
  .rw[bC.2 h1,af];by_cases h2:view>=r.2.1
   .have ha:uz c r view=true:=by unfold uz;rw[aN h1,aN h2];rfl
    rw[aN h2,af];cases h3:(bN c W1.2.2.2.2.2.1 (one view al dk)).2 with
    |false=>rw[aq3 ha h3];rfl
    |true =>
     rw[aq4 ha h3,aO,aa];unfold Ob;cases h4:decide (((ei (bN c W1.2.2.2.2.2.1 (one view al dk)).1 view al).2.2.length:Int)>=uw c) with
     |false=>rw[aa,YC];rfl|true=>rw[af,YC,aGg];rfl
   .have ha:uz c r view=false:=by unfold uz;rw[aR h2,UZ]
    rw[YB ha,aR h2,aa,YC];rfl
  .have ha:uz c r view=false:=by unfold uz;rw[aR h1,Zd]
   rw[YB ha,ct.2 h1,aa,YC];rfl
def as7 {c:Int×Int}{r:aC}(h:bc c r){view:Int}(hv:ix 1 60 view=true){q:cY}(hq:fO c q=true){dk:Int}(hw:ix 0 (ak (c.1-1)) dk=true) :
  Ed F0 c r view q dk=some ((lZ true c r view q dk).1,(lZ true c r view q dk).2,()):=by
 have hql:=OM hq;have hg:bc c (written c r q).1:=h.w q;rw[ahq,fe h.l,aj,h.ok,aO,aa,cm,aj,hv,aO,aa,QT hql,aj,hq,aO,aa,cm,aj,hw,aO,aa,aqL h.l.s hql,eT h.bt];simp only[aj];rw[acq h (aqV h q),aj];unfold lZ;unfold written at hg ⊢;generalize j1 c r (Sq c r.2.2.2.1 q)=W at hg ⊢;obtain⟨W1,W2⟩:=W;dsimp only at hg ⊢;cases W2 with
 |false=>rfl
 |true =>
  have hT:fB F0 c W1.2.2.2.2.2.1 (view,al,[dk])=some ((bN c W1.2.2.2.2.2.1 (one view al dk)).1,(bN c W1.2.2.2.2.2.1 (one view al dk)).2,()):=Ep (w7 hg.f.t) ⟨aT _,by show 1<=1000;omega⟩ c;have ht:=p6 hg.f.t (one view al dk);have hcap:(if 60<ak (q.1+1) then 60 else ak (q.1+1))=axp q:=rfl;have hL1:tF F0 c (W1.1,(if axp q>W1.2.1 then axp q else W1.2.1,(W1.2.2.1,W1.2.2.2.1,W1.2.2.2.2.1,(bN c W1.2.2.2.2.2.1 (one view al dk)).1,W1.2.2.2.2.2.2))) view=some (Ob c (bN c W1.2.2.2.2.2.1 (one view al dk)).1 view,()) :=
   aqY (r:=u7 (gK W1 (bN c W1.2.2.2.2.2.1 (one view al dk)).1) (axp q)) ((hg.gK ht).raised (amx _)).l view
  have hL2:tF F0 c (W1.1,(if axp q>W1.2.1 then axp q else W1.2.1,W1.2.2)) view=some (Ob c W1.2.2.2.2.2.1 view,()):=aqY (r:=u7 W1 (axp q)) (hg.raised (amx _)).l view;show _=some ((uA true c r view q dk W1).1,(uA true c r view q dk W1).2,());rw[aO,aa,hcap];simp only[aj,Jh,hT,hL1,hL2];by_cases h1:cG c view=r.1
  .rw[bC.2 h1,af];by_cases h2:view>=r.2.1
   .have ha:uz c r view=true:=by unfold uz;rw[aN h1,aN h2];rfl
    rw[aN h2,af];cases h3:(bN c W1.2.2.2.2.2.1 (one view al dk)).2 with
    |false=>rw[aq3 ha h3];rfl
    |true =>
     rw[aq4 ha h3,aO,aa];cases h4:Ob c (bN c W1.2.2.2.2.2.1 (one view al dk)).1 view<;>rfl
   .have ha:uz c r view=false:=by unfold uz;rw[aR h2,UZ]
    rw[YB ha,aR h2,aa,hY];cases h4:Ob c W1.2.2.2.2.2.1 view<;>rfl
  .have ha:uz c r view=false:=by unfold uz;rw[aR h1,Zd]
   rw[YB ha,ct.2 h1,aa,hY];cases h4:Ob c W1.2.2.2.2.2.1 view<;>rfl
def Sx (r:aC)(p:List fE):aC:=(r.1,r.2.1,r.2.2.1,r.2.2.2.1,p,r.2.2.2.2.2)
def XT (r:aC)(x:fE):aC×Bool:=(Sx r (mz r.2.2.2.2.1 x).1,(mz r.2.2.2.2.1 x).2)
def bc.Sx {c:Int×Int}{r:aC}(h:bc c r){p:List fE}(hp:fS p=true):bc c (Sx r p) :=
 ⟨⟨h.f.cf,h.f.i,h.f.v,h.f.a,h.f.s,hp,h.f.t,h.f.d,h.f.n,h.f.h⟩,h.b⟩
def bc.aKI {c:Int×Int}{r:aC}(h:bc c r)(x:fE):bc c (XT r x).1:=h.Sx (aCz h.f.p x)
def aCD {l:List fE}{x:fE}(h:(mz l x).2=false):(mz l x).1=l:=by
 unfold mz at h ⊢;cases ho:fS (Es x l) with
 |true=>rw[ho,ai rfl]at h;cases h|false=>rfl
def aCE {c:Int×Int}{r:aC}(h:bc c r)(x:fE):MD F0 c r x=some ((XT r x).1,(XT r x).2,()):=by
 have hp:=(acp h.f.p).1;rw[aoB,eS h.bt,aj,jc h.l,aj,h.ok,aO,aa,azQ (by omega),aj];unfold XT;cases h1:(mz r.2.2.2.2.1 x).2 with
 |true=>rfl|false=>rw[aCD h1];rfl
def az3 {c:Int×Int}{r:aC}(h:bc c r)(x:fE):NB F0 c r x=some ((XT r x).1,(XT r x).2,()):=by have hp:=(acp h.f.p).1;rw[apA,eT h.bt,aj,fe h.l,aj,h.ok,aO,aa,axe (by omega),aj];rfl
def A9 (imp:Bool)(c:Int×Int)(r:aC)(m:cQ):aC×Bool :=
 if m.1=1 then gZ c r m.2.2.1 else if m.1=2 then lY c r m.2.2.2.1 else if m.1=3 then lZ imp c r m.2.1 m.2.2.2.2.1 m.2.2.2.2.2.1 else XT r m.2.2.2.2.2.2
def Q6 (r:aC):aC:=gK r (afr r.2.2.2.2.2.1 (ak (r.2.1-1)))
def finish (c:Int×Int)(r:aC):aC:=Sx (Q6 r) (aqQ r.2.2.2.2.1 (w6 c (Q6 r)))
def LC (imp:Bool)(c:Int×Int)(r:aC)(m:cQ):aC×Bool:=if dR c m=true/\(A9 imp c r m).2=true then (finish c (A9 imp c r m).1,true) else (r,false)
def bc.Q6 {c:Int×Int}{r:aC}(h:bc c r):bc c (Q6 r):=h.gK (aq1 h.f.t _)
def bc.finish {c:Int×Int}{r:aC}(h:bc c r):bc c (finish c r):=h.Q6.Sx (as5 h.f.p _)
def afA (c:Int×Int)(r:aC):(w6 c r).1.length<=4/\(w6 c r).2.length<=4:=by
 unfold w6;split
 .have:=Yo acf (xs:=aqu r.2.2.2.1.2.2.2);exact⟨Nat.le_of_eq this.1,Nat.le_of_eq this.2⟩
 .exact⟨aT _,aT _⟩
structure aQV (c:Int×Int) (m:cQ):Prop where
 k:m.1=1\/m.1=2\/m.1=3\/m.1=4
 b:m.1=1->gx c m.2.2.1=true
 p:m.1=2->ju c m.2.2.2.1=true/\eh m.2.2.2.1.2.1=false
 v:m.1=3->ix 1 60 m.2.1=true/\fO c m.2.2.2.2.1=true/\ix 0 (ak (c.1-1)) m.2.2.2.2.2.1=true
 t:m.1=4->iP m.2.2.2.2.2.2=true
 s:named m=m
def afB {c:Int×Int}{m:cQ}(h:dR c m=true):aQV c m:=by
 unfold dR at h;simp only[aI]at h;obtain⟨hc,hs,hk⟩:=h;have hn:=aci hs;by_cases k1:m.1=1
 .rw[ai (by simpa using k1)]at hk;exact⟨.inl k1,fun _=>hk,fun h=>by omega,fun h=>by omega,fun h=>by omega,hn⟩
 .by_cases k2:m.1=2
  .rw[ah (by simpa using k1),ai (by simpa using k2)]at hk;simp only[aI,ais]at hk;exact⟨.inr (.inl k2),fun h=>by omega,fun _=>hk,fun h=>by omega,fun h=>by omega,hn⟩
  .by_cases k3:m.1=3
   .rw[ah (by simpa using k1),ah (by simpa using k2),ai (by simpa using k3)]at hk;simp only[aI]at hk;exact⟨.inr (.inr (.inl k3)),fun h=>by omega,fun h=>by omega,fun _=>hk,fun h=>by omega,hn⟩
   .rw[ah (by simpa using k1),ah (by simpa using k2),ah (by simpa using k3)]at hk;simp only[aI,bC]at hk;exact⟨.inr (.inr (.inr hk.1)),fun h=>by omega,fun h=>by omega,fun h=>by omega,fun _=>hk.2,hn⟩
def bc.aCF {c:Int×Int}{r:aC}(h:bc c r)(imp:Bool){m:cQ}(hm:dR c m=true):bc c (A9 imp c r m).1:=by
 have hf:=afB hm;unfold A9;split
 .exact h.aq2 _
 .split
  .exact h.aGf _
  .split
   .rename_i h3;have:=(hf.v h3).1;simp only[ix,aI,cA]at this;exact h.aGh imp this.2 _ _
   .exact h.aKI _
def bc.heard {c:Int×Int}{r:aC}(h:bc c r)(imp:Bool)(m:cQ):bc c (LC imp c r m).1:=by
 unfold LC;split
 .rename_i hh;exact(h.aCF imp hh.1).finish
 .exact h
def az4 {c:Int×Int}{r:aC}(h:bc c r){m:cQ}(hm:dR c m=true):H8 F0 c r m=some ((A9 false c r m).1,(A9 false c r m).2,()):=by
 have hf:=afB hm;rw[ak6];unfold A9;rcases hf.k with k|k|k|k
 .rw[bC.2 k,af,ai k,aaY h (hf.b k),aj]
 .rw[ct.2 (show m.1≠1 by omega),aa,bC.2 k,af,ah (by omega),ai k,axo h (hf.p k).1,aj]
 .rw[ct.2 (show m.1≠1 by omega),aa,ct.2 (show m.1≠2 by omega),aa,bC.2 k,af,ah (by omega),ah (by omega),ai k,axq h (hf.v k).1 (hf.v k).2.1 (hf.v k).2.2,aj]
 .rw[ct.2 (show m.1≠1 by omega),aa,ct.2 (show m.1≠2 by omega),aa,ct.2 (show m.1≠3 by omega),aa,ah (by omega),ah (by omega),ah (by omega),aCE h,aj]
def az5 {c:Int×Int}{r:aC}(h:bc c r){m:cQ}(hml:gI m):PR F0 c r m=some ((LC false c r m).1,(LC false c r m).2,()):=by
 rw[av8,jc h.l,aj,h.ok,aO,aa,Jk hml,aj,eS h.bt,aj];unfold LC;cases hm:dR c m with
 |false=>rfl
 |true =>
  rw[az4 h hm,aj];have hg:=h.aCF false hm;generalize A9 false c r m=X at hg ⊢;obtain⟨o,ok⟩:=X;dsimp only at hg ⊢;cases ok with
  |false=>rfl
  |true =>
   have hS:Kl F0 c (o.1,o.2.1,o.2.2.1,o.2.2.2.1,o.2.2.2.2.1,afr o.2.2.2.2.2.1 (ak (o.2.1-1)),o.2.2.2.2.2.2)=some (w6 c (Q6 o),()):=aFV hg.Q6.l c;have hl:=afA c (Q6 o);have hD:=axg (p:=o.2.2.2.2.1) hg.l.p (l:=w6 c (Q6 o)) (by omega) (by omega);rw[asZ hg.l.t hg.l.tq,aj,hS,aj,hD,aj];rfl
def aus {c:Int×Int}{r:aC}(h:bc c r){m:cQ}(hml:gI m):Je F0 c r m=some ((LC true c r m).1,(LC true c r m).2,()):=by
 rw[awy,Lr hml,aj,eT h.bt,aj];unfold LC;cases hm:dR c m with
 |false=>rfl
 |true =>
  have hf:=afB hm;have tail:∀o:aC,bc c o->∀ok:Bool,br (!ok) (some (r,false,())) ((iO F0 o.2.2.2.2.2.1 (ak (o.2.1-1))).bind fun r69=>(oZ F0 c (o.1,o.2.1,o.2.2.1,o.2.2.2.1,o.2.2.2.2.1,r69.1,o.2.2.2.2.2.2)).bind fun Mg=>(jY F0 o.2.2.2.2.1 Mg.1).bind fun r76=>some ((o.1,o.2.1,o.2.2.1,o.2.2.2.1,r76.1,r69.1,o.2.2.2.2.2.2),true,())) =
    some ((if true=true/\ok=true then (finish c o,true) else (r,false)).1,(if true=true/\ok=true then (finish c o,true) else (r,false)).2,()):=fun o hg ok=>by
   cases ok with
   |false=>rfl
   |true =>
    have hS:oZ F0 c (o.1,o.2.1,o.2.2.1,o.2.2.2.1,o.2.2.2.2.1,afr o.2.2.2.2.2.1 (ak (o.2.1-1)),o.2.2.2.2.2.2)=some (w6 c (Q6 o),()):=aCg hg.Q6.l c;have hl:=afA c (Q6 o);have hD:=as1 (p:=o.2.2.2.2.1) hg.l.p (l:=w6 c (Q6 o)) (by omega) (by omega);rw[aqO hg.l.t hg.l.tq,aj,hS,aj,hD,aj];rfl
  have hg:=h.aCF true hm;rw[aO,aa];rcases hf.k with k|k|k|k
  .have e:A9 true c r m=gZ c r m.2.2.1:=ai k;rw[e]at hg ⊢;rw[bC.2 k,af,XS h (hf.b k),aj];exact tail _ hg _
  .have e:A9 true c r m=lY c r m.2.2.2.1:=by unfold A9;rw[ah (by omega),ai k]
   rw[e]at hg ⊢;rw[ct.2 (show m.1≠1 by omega),aa,bC.2 k,af,as6 h (hf.p k).1,aj];exact tail _ hg _
  .have e:A9 true c r m=lZ true c r m.2.1 m.2.2.2.2.1 m.2.2.2.2.2.1:=by unfold A9;rw[ah (by omega),ah (by omega),ai k]
   rw[e]at hg ⊢;rw[ct.2 (show m.1≠1 by omega),aa,ct.2 (show m.1≠2 by omega),aa,bC.2 k,af,as7 h (hf.v k).1 (hf.v k).2.1 (hf.v k).2.2,aj];exact tail _ hg _
  .have e:A9 true c r m=XT r m.2.2.2.2.2.2:=by unfold A9;rw[ah (by omega),ah (by omega),ah (by omega)]
   rw[e]at hg ⊢;rw[ct.2 (show m.1≠1 by omega),aa,ct.2 (show m.1≠2 by omega),aa,ct.2 (show m.1≠3 by omega),aa,az3 h,aj];exact tail _ hg _
end Go.Am.Tryz
