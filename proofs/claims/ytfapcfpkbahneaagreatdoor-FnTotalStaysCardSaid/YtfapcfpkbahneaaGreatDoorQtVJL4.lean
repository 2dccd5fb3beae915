/- Lemmas for the claim. No condition. -/
import Derived.Test.YtfapcfpkbahneaaGreatDoorQtVJL3
set_option linter.all false
namespace Go.Am.Tryz
open Go.Am
def sameAt (a b:dp):Bool:=(a.1==b.1)&&(a.2.1.toList==b.2.1.toList)
def aeX (a b:dp):dp:=(a.1,a.2.1,as1 a.2.2 b.2.2)
theorem av2 {a b:dp}(h:a.2.2.length+b.2.2.length<=1048576):C3 F0 a b=some (if sameAt a b=true then aeX a b else cQ,sameAt a b,()):=by rw[aga,axU h,ai];unfold sameAt aeX bne;cases (a.1==b.1)<;>cases (a.2.1.toList==b.2.1.toList)<;>rfl
theorem arP {a b:dp}(h:a.2.2.length+b.2.2.length<=1048576):DF F0 a b=some (if sameAt a b=true then aeX a b else cQ,sameAt a b,()):=by rw[agR,avF h,ai];unfold sameAt aeX bne;cases (a.1==b.1)<;>cases (a.2.1.toList==b.2.1.toList)<;>rfl
def gz (p:dp):List dp->List dp
 |[]=>[p]
 |x::l=>if gk x p=true then x::gz p l else if sameAt x p=true then aeX x p::l else p::x::l
def bM (c:Int×Int)(l:List dp)(p:dp):List dp×Bool:=if jg c p=true/\fz c (gz p l)=true then (gz p l,true) else (l,false)
theorem abY (p:dp):∀l:List dp,(gz p l).length<=l.length+1
 |[]=>cp _
 |x::l=>by
  have:=abY p l;unfold gz;split
  ·simp only[bg];omega
  ·split<;>simp
theorem NO (p:dp):∀(k:Nat) (l:List dp),(∀x∈l.take k,gk x p=true)->gz p l=l.take k++gz p (l.drop k)
 |0,l,_=>rfl
 |k+1,[],_=>rfl
 |k+1,x::l,h=>by rw[gz,ak (h x (by simp)),NO p k l fun y hy=>h y (by simp[hy])];rfl
def aA0 (l:List dp):Prop:=l.length<=1000/\∀q∈l,q.2.1.size<=1048576/\q.2.2.length<=1000
theorem aA0.l {l:List dp}(h:aA0 l){q:dp}(hq:q∈l):uN q:=⟨(h.2 q hq).1,cN (h.2 q hq).2 (by omega)⟩
theorem aIM {a b:dp}(ha:a.2.1.size<=1048576/\a.2.2.length<=1000)(hb:b.2.2.length<=1000):uN (aeX a b):=⟨ha.1,by have:=aEb a.2.2 b.2.2;show(as1 a.2.2 b.2.2).length<=_;omega⟩
theorem apS {p:dp}(hp:p.2.1.size<=1048576/\p.2.2.length<=1000):∀{l:List dp},aA0 l->∀q∈gz p l,uN q
 |[],_,q,hq=>by rw[ml.1 hq];exact⟨hp.1,by omega⟩
 |x::l,h,q,hq=>by
  have hx:=h.2 x OD;have hl:aA0 l:=⟨by have:=h.1;rw[bg]at this;omega,fun y hy=>h.2 y (tI _ hy)⟩;unfold gz at hq;split at hq
  ·rcases gS.1 hq with rfl|hq
   ·exact h.l OD
   ·exact apS hp hl q hq
  ·split at hq
   ·rcases gS.1 hq with rfl|hq
    ·exact aIM hx hp.2
    ·exact hl.l hq
   ·rcases gS.1 hq with rfl|hq
    ·exact⟨hp.1,by omega⟩
    ·exact h.l hq
theorem aA1 {β:Type}(c:Int×Int)(l:List dp)(p:dp)(x y:Option β):br (!fz c (gz p l)) y (br (!jg c p) y x)=if jg c p=true/\fz c (gz p l)=true then x else y:=by cases fz c (gz p l)<;>cases jg c p<;>rfl
theorem IH {l:List dp}(h:aA0 l){p:dp}(hp:p.2.1.size<=1048576/\p.2.2.length<=1000)(c:Int×Int):fO F0 c l p=some ((bM c l p).1,(bM c l p).2,()):=by
 have hl:=h.1;have hpl:uN p:=⟨hp.1,by omega⟩;have aIa:=abY p l;have dO:n6 F0 (c.1,c.2) (gz p l)=some (fz c (gz p l),()):=ajg (by omega) (apS hp h) c;rw[agc];refine df (fun n k (z:Bool×List dp)=>iZ F0 (za F0) n (fY l z.1 k c.1 c.2 p.1 p.2.1 p.2.2 z.2)) l.length
  (fun k z=>(z.1=false/\z.2=l.take k/\∀x∈l.take k,gk x p=true)\/(z.1=true/\z.2++l.drop k=gz p l)) _ (fun n k z hk hI=>.inr ?_) (fun n z hI=>?_) F0.n 0 (false,[]) (aX _) (.inl ⟨rfl,rfl,fun x hx=>by simp at hx⟩) (by rw[bT];omega)
 ·have hx:=h.2 _ (di hk);have hd:l.drop k=l[k]::l.drop (k+1):=YM hk;rcases hI with ⟨h1,h2,h3⟩|⟨h1,h2⟩
  ·have hz:z.2.length<=1000:=by rw[h2,bQ];omega
   have aif:=NO p k l h3;rw[hd,gz]at aif;rw[h1,ld,aS hk,af,av hk,ae,bp hk,nV (by omega),ai];dsimp only;rw[show((p.1,p.2.1,p.2.2):dp)=p from rfl,aas,ai,av2 (by omega),ai,nV (q:=p) (by omega),ai];cases hb:gk l[k] p with
   |true =>
    refine⟨(false,z.2++[l[k]]),?_,.inl ⟨rfl,?_,?_⟩⟩
    ·rw[eX,af,aL,aa,az (by omega) (by omega) (by first|omega|(simp only[aT,bg,bB];omega)|(rw[bz,bQ];omega)),ae,ao (by omega)]
    ·show z.2++[l[k]]=_;rw[gj hk,h2]
    ·intro x hx';rw[gj hk]at hx';rcases lX.1 hx' with h4|h4
     ·exact h3 x h4
     ·rw[ml.1 h4];exact hb
   |false =>
    rw[hb,ah (by decide)]at aif;cases hs:sameAt l[k] p with
    |true =>
     rw[hs,ak rfl]at aif;refine⟨(true,z.2++[aeX l[k] p]),?_,.inr ⟨rfl,?_⟩⟩
     ·rw[eX,af,af,ak rfl,af,az (by omega) (by omega) (by first|omega|(simp only[aT,bg,bB];omega)|(rw[bz,bQ];omega)),ae,ao (by omega)]
     ·show(z.2++[aeX l[k] p])++_=_;rw[aif,h2,jZ];rfl
    |false =>
     rw[hs,ah (by decide)]at aif;refine⟨(true,z.2++[p]++[l[k]]),?_,.inr ⟨rfl,?_⟩⟩
     ·rw[eX,af,af,aa,az (by omega) (by omega) (by first|omega|(simp only[aT,bg,bB];omega)|(rw[bz,bQ];omega)),ae,az (by omega) (by omega) (by first|omega|(simp only[aT,bg,bB];omega)|(rw[bz,bQ];omega)),ae,ao (by omega)]
     ·show(z.2++[p]++[l[k]])++_=_;rw[aif,h2,jZ,jZ];rfl
  ·have hz:z.2.length<=1001:=by have:=AT List.length h2;rw[aT]at this;omega
   refine⟨(true,z.2++[l[k]]),?_,.inr ⟨rfl,?_⟩⟩
   ·rw[h1,ld,aS hk,af,av hk,ae,bp hk,nV (by omega),ai];dsimp only;rw[aL,aa,az (by omega) (by omega) (by first|omega|(simp only[aT,bg,bB];omega)|(rw[bz,bQ];omega)),ae,ao (by omega)]
   ·show(z.2++[l[k]])++_=_;rw[jZ,<-h2,hd];rfl
 ·have e0:kX F0 (c.1,c.2) (p.1,p.2.1,p.2.2)=some (jg c p,()):=RP hpl c;have hc:hY F0 l=some (l,()):=aeS (by omega) fun q hq=>h.l hq
  have hR:br (!fz c (gz p l)) (some (l,false,())) (br (!jg c p) (some (l,false,())) (some (gz p l,true,())))=some ((bM c l p).1,(bM c l p).2,()):=by rw[aA1];unfold bM;split<;>rfl
  rcases hI with ⟨h1,h2,h3⟩|⟨h1,h2⟩
  ·have hs:=NO p l.length l h3;rw[YN,nN]at hs;rw[nN]at h2;rw[h1,ld,aH,aa,Gt,eX,af,show((p.1,(p.2.1,p.2.2)):dp)=p from rfl,nV (by omega),ai,h2,az (by omega) (by omega) (by first|omega|(simp only[aT,bg,bB];omega)|(rw[bz,bQ];omega)),ae,
    show l++[p]=gz p l from hs.symm,dO,ai,e0,ai,hc,ai]
   exact hR
  ·rw[YN,ie]at h2;rw[h1,ld,aH,aa,Gt,aL,aa,h2,dO,ai,e0,ai,hc,ai];exact hR
def aIN (a b:dp):Int:=if gk a b=true then -1 else if sameAt a b=true then 0 else 1
theorem T2 (a b:dp):gd F0 a b=some (aIN a b,()):=by
 rw[EL,ajf,ai,aeF,ai];unfold aIN gk sameAt aIs aIt;dsimp only;by_cases h:a.1<b.1
 ·rw[ak h,aM h];rfl
 ·rw[ah h,aQ h,I6];by_cases h2:a.1>b.1
  ·rw[ak h2,cj.2 (show a.1≠b.1 by omega)];rfl
  ·rw[ah h2,show a.1=b.1 by omega,ack,ji,ji];cases Op.bytesLess a.2.1.toList b.2.1.toList<;>cases (a.2.1.toList==b.2.1.toList)<;>rfl
theorem alX {γ:Type}(X:Nat->Int->Option γ)(L:Nat)(p:Nat->Bool)(E:Nat->Option γ)(hs:∀n k,k<L->X (n+1) (k:Int)=if p k=true then X n ((k+1:Nat):Int) else E k)(he:∀n,X (n+1) (L:Int)=E L) :
  ∀(j k n:Nat),k+j=L->(∀i,i<k->p i=true)->j<n->∃i,i<=L/\(∀j,j<i->p j=true)/\(i<L->p i=false)/\X n (k:Int)=E i
 |0,k,n+1,hk,hp,hn=>⟨L,cp _,fun j hj=>hp j (by omega),fun h=>absurd h (Uq _),by rw[show k=L by omega];exact he n⟩
 |j+1,k,n+1,hk,hp,hn=>by
  cases h:p k with
  |true =>
   obtain⟨i,h1,h2,h3,h4⟩:=alX X L p E hs he j (k+1) n (by omega) (fun i hi=>by
    by_cases e:i=k
    ·rw[e];exact h
    ·exact hp i (by omega)) (by omega)
   exact⟨i,h1,h2,h3,by rw[hs n k (by omega),h,ak rfl];exact h4⟩
  |false=>exact⟨k,by omega,hp,fun _=>h,by rw[hs n k (by omega),h,ah (by decide)]⟩
theorem aEy {p:dp}{l:List dp}{i:Nat}(hi:i<=l.length)(h1:∀j (h:j<l.length),j<i->gk l[j] p=true)(h2:∀h:i<l.length,gk l[i] p=false) :
  gz p l=if h:i<l.length then (if sameAt l[i] p=true then l.set i (aeX l[i] p) else l.take i++[p]++l.drop i) else l.take i++[p]++l.drop i:=by
 rw[NO p i l fun x hx=>by obtain⟨j,hj,rfl⟩:=ahS hx;rw[bQ]at hj;rw[List.getElem_take];exact h1 j (by omega) (by omega)]
 by_cases h:i<l.length
 ·rw[dif_pos h,YM h,gz,h2 h,ah (by decide)];split
  ·rw[List.set_eq_take_append_cons_drop,ak h]
  ·simp
 ·rw[dif_neg h,atz (by omega)];simp[gz]
theorem DW {l:List dp}(h:aA0 l){p:dp}(hp:p.2.1.size<=1048576/\p.2.2.length<=1000)(c:Int×Int):fp F0 c l p=some ((bM c l p).1,(bM c l p).2,()):=by
 have hl:=h.1;have hpl:uN p:=⟨hp.1,by omega⟩;have aIa:=abY p l;have dO:lq F0 (c.1,c.2) (gz p l)=some (fz c (gz p l),()):=aeG (by omega) (apS hp h) c;have hc:fm F0 l=some (l,()):=aau (by omega) fun q hq=>h.l hq
 have hcp:fP F0 (p.1,p.2.1,p.2.2)=some (p,()):=AK (q:=p) (by omega);rw[agT,NA hpl,ai,hc,ai,ai];cases hpo:jg c p with
 |false =>
  unfold bM;rw[hpo,ah (by simp)];rfl
 |true =>
  have hR:br (!fz c (gz p l)) (some (l,false,())) (some (gz p l,true,()))=some ((bM c l p).1,(bM c l p).2,()):=by unfold bM;rw[hpo];cases fz c (gz p l)<;>simp[br]
  rw[aL,aa];obtain⟨i,h1,h2,h3,h4⟩:=alX (fun n k=>wh F0 (qD F0) n (qC l k c.1 c.2 p.1 p.2.1 p.2.2 l)) l.length (fun k=>gk (l.getD k cQ) p) (fun k=>qD F0 (.exit 0) (oK l (k:Int) c.1 c.2 p.1 p.2.1 p.2.2 l))
   (fun n k hk=>by rw[ET,aS hk,af,av hk,ae,bp hk,show((p.1,p.2.1,p.2.2):dp)=p from rfl,T2,ai,ao (by omega),bc hk];unfold aIN;cases gk l[k] p<;>cases sameAt l[k] p<;>rfl)
   (fun n=>by rw[ET,aH,aa]) l.length 0 F0.n (by omega) (fun i hi=>absurd hi (Sb _)) (by rw[bT];omega)
  have h5:=aEy (p:=p) h1 (fun j hj YQ=>by have:=h2 j YQ;rw[bc hj]at this;exact this) (fun hi=>by have:=h3 hi;rw[bc hi]at this;exact this);refine Bl h4 ?_;rw[Yz,hcp,ai,hc,ai];by_cases hi:i<l.length
  ·rw[dif_pos hi]at h5;have hj:=h.2 _ (di hi);rw[aS hi,af,av hi,ae,bp hi,show((p.1,p.2.1,p.2.2):dp)=p from rfl,T2,ai];unfold aIN;have hb:=h3 hi;rw[bc hi]at hb;rw[hb,ah (by decide)];cases hs:sameAt l[i] p with
   |true =>
    rw[hs,ak rfl]at h5;rw[ak rfl,show((0:Int)==0)=true from rfl,af,arP (by omega),ai,hs,ak rfl,ae,ae,mm];dsimp only;rw[<-h5,dO,ai];exact hR
   |false =>
    rw[hs,ah (by decide)]at h5;rw[ah (by decide),show((1:Int)==0)=false from rfl,aa,IY h1 (by simp) (by simp only[bg,bB];omega),ae,mm,<-h5,dO,ai];exact hR
  ·rw[dif_neg hi]at h5;rw[aQ (show ¬(i:Int)<(l.length:Int) by omega),aa,IY h1 (by simp) (by simp only[bg,bB];omega),ae,mm,<-h5,dO,ai];exact hR
def ei (l:List dp)(view:Int)(name:ByteArray):dp:=match l.find? fun x=>(x.1==view)&&(x.2.1.toList==name.toList) with
 |some x=>x
 |none=>(view,name,[])
theorem ate {α:Type}{p:α->Bool}{l:List α}{k:Nat}(hk:k<l.length):(l.drop k).find? p=if p l[k]=true then some l[k] else (l.drop (k+1)).find? p:=by rw[YM hk,List.find?_cons];cases p l[k]<;>rfl
theorem R3 {l:List dp}(h:l.length<=1048576)(hq:∀q∈l,uN q)(view:Int)(name:ByteArray):pK F0 l view name=some (ei l view name,()):=by
 rw[afX];refine df (fun n k (z:Unit)=>pc F0 (qe F0) n (k9 l view name k 0 al [])) l.length (fun k _=>l.find? (fun x=>(x.1==view)&&(x.2.1.toList==name.toList))=(l.drop k).find? fun x=>(x.1==view)&&(x.2.1.toList==name.toList)) _ (fun n k z hk hI=>?_) (fun n z hI=>?_) F0.n 0 () (aX _) rfl (by rw[bT];omega)
 ·rw[ate hk]at hI;rw[Et,aS hk,af,av hk,ae,ae,ae,bp hk,nV (hq _ (di hk)).2,ai,aa8,ao (by omega)];cases h1:(l[k].1==view) with
  |false =>
   rw[h1,YO,ah (by decide)]at hI;exact .inr ⟨(),aa _ _,hI⟩
  |true =>
   cases h2:(l[k].2.1.toList==name.toList) with
   |false =>
    rw[h1,h2,ji,ah (by decide)]at hI;exact .inr ⟨(),by rw[af,aa],hI⟩
   |true =>
    rw[h1,h2,ji,ak rfl]at hI;refine .inl ?_;unfold ei;rw[hI];rfl
 ·rw[YN]at hI;rw[Et,aH,aa,Ym];unfold ei;rw[hI];rfl
theorem aaw {l:List dp}(h:l.length<=1048576)(hq:∀q∈l,uN q)(view:Int)(name:ByteArray):uG F0 l view name=some (ei l view name,()):=by
 rw[agU];refine df (fun n k (z:Unit)=>pt F0 (qE F0) n (lD view name l (l.length:Int) k 0 al [])) l.length (fun k _=>l.find? (fun x=>(x.1==view)&&(x.2.1.toList==name.toList))=(l.drop k).find? fun x=>(x.1==view)&&(x.2.1.toList==name.toList)) _ (fun n k z hk hI=>?_) (fun n z hI=>?_) F0.n 0 () (aX _) rfl (by rw[bT];omega)
 ·rw[ate hk]at hI;rw[EU,aS hk,af,av hk,ae,bp hk,AK (hq _ (di hk)).2,ai,abA,ao (by omega)];cases h1:(l[k].1==view) with
  |false =>
   rw[h1,YO,ah (by decide)]at hI;exact .inr ⟨(),aa _ _,hI⟩
  |true =>
   cases h2:(l[k].2.1.toList==name.toList) with
   |false =>
    rw[h1,h2,ji,ah (by decide)]at hI;exact .inr ⟨(),by rw[af,aa],hI⟩
   |true =>
    rw[h1,h2,ji,ak rfl]at hI;refine .inl ?_;unfold ei;rw[hI];rfl
 ·rw[YN]at hI;rw[EU,aH,aa,YA];unfold ei;rw[hI];rfl
def aeY (l:List dp)(view:Int):List dp:=l.filter fun x=>decide (x.1>=view)
theorem arQ {l:List dp}(h:l.length<=1048576)(hq:∀q∈l,uN q)(view:Int):zg F0 l view=some (aeY l view,()):=by
 rw[adx];refine alW (fun n k xs=>mT F0 (wR F0) n (j9 l view k xs)) l (fun x=>decide (x.1>=view)) _ (fun n k xs hk hx=>?_) (fun n=>?_) _ (by rw[bT];omega)
 ·rw[A3,aS hk,af,av hk,ae,ae,bp hk,nV (hq _ (di hk)).2,ai,az (by omega) (by omega) (by first|omega|(simp only[aT,bg,bB];omega)|(rw[bz,bQ];omega)),ae,ao (by omega)];cases decide (l[k].1>=view)<;>rfl
 ·rw[A3,aH,aa,VO];rfl
theorem apT {l:List dp}(h:l.length<=1048576)(hq:∀q∈l,uN q)(view:Int):iD F0 l view=some (aeY l view,()):=by
 rw[aee];refine alW (fun n k xs=>nx F0 (xa F0) n (kc view l (l.length:Int) k xs)) l (fun x=>decide (x.1>=view)) _ (fun n k xs hk hx=>?_) (fun n=>?_) _ (by rw[bT];omega)
 ·rw[A9,aS hk,af,av hk,ae,bp hk,AK (hq _ (di hk)).2,ai,az (by omega) (by omega) (by first|omega|(simp only[aT,bg,bB];omega)|(rw[bz,bQ];omega)),ae,ao (by omega)];cases decide (l[k].1>=view)<;>rfl
 ·rw[A9,aH,aa,WB];rfl
theorem NP {a b c:eO}(h1:fN a b=true)(h2:fN b c=true):fN a c=true:=by simp only[fN,mn,aJ,cD,bC]at *;omega
theorem aEz (a:eO):fN a a=false:=by simp[fN]
theorem ahD {α:Type}(d:α)(p:α->Bool)(q:α->α->Bool)(l:List α):W0 d p q l=true↔(∀k (h:k<l.length),p l[k]=true)/\∀k (h:k+1<l.length),q l[k] l[k+1]=true:=by
 unfold W0;rw[iJ];constructor
 ·intro h;refine⟨fun k hk=>?_,fun k hk=>?_⟩
  ·have:=h k (jC.2 hk);rw[bc hk,aJ]at this;exact this.1
  ·have:=h (k+1) (jC.2 hk);rw[bc hk,show k+1-1=k from rfl,bc (show k<l.length by omega),aJ,mn]at this;rcases this.2 with h0|h0
   ·exact absurd (uf h0) (by omega)
   ·exact h0
 ·intro h k hk;have hk:=jC.1 hk;rw[bc hk,aJ,mn];refine⟨h.1 k hk,?_⟩;cases k with
  |zero=>exact .inl (aM rfl)
  |succ k=>rw[show k+1-1=k from rfl,bc (show k<l.length by omega)];exact .inr (h.2 k hk)
theorem av3 {α:Type}{q:α->α->Bool}(tr:∀a b c,q a b=true->q b c=true->q a c=true){l:List α}(h:∀k (h:k+1<l.length),q l[k] l[k+1]=true){i:Nat}:∀(j:Nat) (hij:i<j) (hj:j<l.length),q (l[i]'(by omega)) l[j]=true
 |0,hij,_=>absurd hij (Sb _)
 |j+1,hij,hj=>by
  by_cases e:i=j
  ·subst e;exact h i hj
  ·exact tr _ _ _ (av3 tr h j (by omega) (by omega)) (h j hj)
def DX (x:eO):List eO->List eO
 |[]=>[x]
 |y::l=>if fN y x=true then y::DX x l else x::y::l
def mg (l:List eO)(x:eO):List eO×Bool:=if fK (DX x l)=true then (DX x l,true) else (l,false)
theorem ajq (x:eO):∀l:List eO,(DX x l).length=l.length+1
 |[]=>rfl
 |y::l=>by
  unfold DX;split
  ·rw[bg,ajq x l,bg]
  ·rfl
theorem abZ {x:eO}:∀{l:List eO} {i:Nat},i<=l.length->(∀j (h:j<l.length),j<i->fN l[j] x=true)->(∀h:i<l.length,fN l[i] x=false)->DX x l=l.take i++[x]++l.drop i
 |[],i,hi,_,_=>by rw[show i=0 by simpa using hi];rfl
 |y::l,0,_,_,h2=>by have:=h2 (by simp);rw[DX,ah (by rw[show fN y x=false from this];decide)];rfl
 |y::l,i+1,hi,h1,h2=>by have h0:fN y x=true:=h1 0 (by simp) (by omega);rw[DX,ak h0,abZ (l:=l) (i:=i) (by simpa using hi) (fun j hj YQ=>h1 (j+1) (by simpa using hj) (by omega)) (fun h=>h2 (by simpa using h))];rfl
set_option maxRecDepth 20000 in
theorem ayz {l:List eO}(h:l.length<=1000000)(x:eO):HM F0 l x=some ((mg l x).1,(mg l x).2,()):=by
 rw[akt];obtain⟨i,h1,h2,h3,h4⟩:=alX (γ:=List eO×Bool×Unit) (fun n k=>zf F0 (sE F0) n (sD l k x.1 x.2.1 x.2.2.1 x.2.2.2)) l.length (fun k=>fN (l.getD k nM) x) (fun k=>sE F0 (.exit 0) (qn l (k:Int) x.1 x.2.1 x.2.2.1 x.2.2.2))
  (fun n k hk=>by
   rw[Gu,aS hk,af,av hk,ae,bp hk,show((x.1,x.2.1,x.2.2.1,x.2.2.2):eO)=x from rfl,aeE,ai,ao (by omega),bc hk];cases hb:fN l[k] x with
   |true=>rw[af,ak rfl]
   |false=>rw[aa,ah (by decide)])
  (fun n=>by rw[Gu,aH,aa]) l.length 0 F0.n (by omega) (fun i hi=>absurd hi (Sb _)) (by rw[bT];omega)
 have h5:=abZ (x:=x) h1 (fun j hj YQ=>by have:=h2 j YQ;rw[bc hj]at this;exact this) (fun hi=>by have:=h3 hi;rw[bc hi]at this;exact this);have hp:=ajq x l;refine Bl h4 ?_;have e1:(l.take (i:Int).toNat).drop (0:Int).toNat=l.take i:=by rw[mm];rfl
 have e2:(l.take (l.length:Int).toNat).drop (i:Int).toNat=l.drop i:=by rw[mm,mm,nN]
 have l1:(l.take i).length<=l.length:=by rw[bQ];omega
 have l2:(l.drop i).length<=l.length:=by rw[bz];omega
 rw[abg,e1,e2,F6,aGG h1,ae,az (a:=0) (by omega) (by omega) (by first|omega|(simp only[aT,bg,bB];omega)|(rw[bz,bQ];omega)),ae,az (by omega) (by omega) (by first|omega|(simp only[aT,bg,bB];omega)|(rw[bz,bQ];omega)),ae,XP h1 (cp _),ae,az (by omega) (by omega) (by first|omega|(simp only[aT,bg,bB];omega)|(rw[bz,bQ];omega)),ae,show((x.1,(x.2.1,(x.2.2.1,x.2.2.2))):eO)=x from rfl,<-h5,apm (by omega),ai,
  az (a:=0) (by omega) (by omega) (by first|omega|(simp only[aT,bg,bB];omega)|(rw[bz,bQ];omega)),ae]
 unfold mg;cases fK (DX x l)<;>rfl
theorem aC5 {x:eO}{l:List eO}{i:Nat}(hi:i<=l.length)(h:fK (l.take i++[x]++l.drop i)=true):(∀j (hj:j<l.length),j<i->fN l[j] x=true)/\∀j (hj:j<l.length),i<=j->fN x l[j]=true:=by
 unfold fK at h;rw[aJ,ahD]at h;have hr:=h.1.2;have hlen:(l.take i++[x]++l.drop i).length=l.length+1:=by simp;omega
 have e0:∀j (hj:j<l.length) (YQ:j<i),(l.take i++[x]++l.drop i)[j]'(by omega)=l[j]:=fun j hj YQ=>by rw[azq (by simp;omega),azq (by simp;omega),List.getElem_take]
 have e1:(l.take i++[x]++l.drop i)[i]'(by omega)=x:=by rw[azq (by simp;omega),List.getElem_append_right (by simp;omega)];simp
 have e2:∀j (hj:j<l.length) (YQ:i<=j),(l.take i++[x]++l.drop i)[j+1]'(by omega)=l[j]:=fun j hj YQ=>by
  rw[List.getElem_append_right (by simp;omega),List.getElem_drop]
  congr 1
  simp;omega
 refine⟨fun j hj YQ=>?_,fun j hj YQ=>?_⟩
 ·have:=av3 (q:=fN) (l:=l.take i++[x]++l.drop i) (fun a b c h1 h2=>NP h1 h2) hr (i:=j) i YQ (by omega);rw[e0 j hj YQ,e1]at this;exact this
 ·have:=av3 (q:=fN) (l:=l.take i++[x]++l.drop i) (fun a b c h1 h2=>NP h1 h2) hr (i:=i) (j+1) (by omega) (by omega);rw[e1,e2 j hj YQ]at this;exact this
theorem apU {a b:eO}(h:fN a b=true):fN b a=false:=by
 cases h2:fN b a with
 |false=>rfl
 |true =>
  have:=NP h h2;rw[aEz]at this;cases this
theorem aGX {x:eO}{l:List eO}{i k:Nat}(hi:i<=l.length)(hk:k<=l.length)(h1:∀j (h:j<l.length),j<i->fN l[j] x=true)(h2:∀h:i<l.length,fN l[i] x=false)
  (h3:∀j (h:j<l.length),j<k->fN x l[j]=false) (h4:∀h:k<l.length,fN x l[k]=true):fK (l.take k++[x]++l.drop k)=fK (l.take i++[x]++l.drop i)/\(fK (l.take i++[x]++l.drop i)=true->k=i):=by
 by_cases e:k=i
 ·subst e;exact⟨rfl,fun _=>rfl⟩
 ·have n1:fK (l.take i++[x]++l.drop i)=false:=by
   cases h:fK (l.take i++[x]++l.drop i) with
   |false=>rfl
   |true =>
    have g:=(aC5 hi h).2;exfalso;rcases Nat.lt_or_gt_of_ne e with h5|h5
    ·have a:=h4 (by omega);have b:=h1 k (by omega) h5;rw[apU a]at b;cases b
    ·have a:=g i (by omega) (cp _);have b:=h3 i (by omega) h5;rw[a]at b;cases b
  have n2:fK (l.take k++[x]++l.drop k)=false:=by
   cases h:fK (l.take k++[x]++l.drop k) with
   |false=>rfl
   |true =>
    have g:=(aC5 hk h).1;exfalso;rcases Nat.lt_or_gt_of_ne e with h5|h5
    ·have a:=h4 (by omega);have b:=h1 k (by omega) h5;rw[apU a]at b;cases b
    ·have a:=g i (by omega) h5;have b:=h2 (by omega);rw[a]at b;cases b
  exact⟨by rw[n1,n2],fun h=>by rw[n1]at h;cases h⟩
theorem ayA {x:eO}{l:List eO}(h:l.length<=1000000){k:Nat}(hk:k<=l.length)(h3:∀j (h:j<l.length),j<k->fN x l[j]=false)(h4:∀h:k<l.length,fN x l[k]=true) :
  br (!fK (l.take k++[x]++l.drop k)) (some (l,false,())) (some (l.take k++[x]++l.drop k,true,()))=some ((mg l x).1,(mg l x).2,()):=by
 obtain⟨i,h1,h2,h5,_⟩:=alX (fun n (k:Int)=>(some ():Option Unit)) l.length (fun k=>fN (l.getD k nM) x) (fun k=>some ()) (fun n k hk=>by cases fN (l.getD k nM) x<;>rfl) (fun n=>rfl) l.length 0 (l.length+1) (by omega) (fun i hi=>absurd hi (Sb _)) (by omega);have g1:∀j (h:j<l.length),j<i->fN l[j] x=true:=fun j hj YQ=>by have:=h2 j YQ;rw[bc hj]at this;exact this
 have g2:∀h:i<l.length,fN l[i] x=false:=fun hi=>by have:=h5 hi;rw[bc hi]at this;exact this
 have hp:=abZ (x:=x) h1 g1 g2;obtain⟨e1,e2⟩:=aGX h1 hk g1 g2 h3 h4;unfold mg;rw[hp,e1];cases ho:fK (l.take i++[x]++l.drop i) with
 |false=>rfl
 |true=>rw[e2 ho];rfl
theorem av4 {l:List eO}(h:l.length<=1000000)(x:eO):Ik F0 l x=some ((mg l x).1,(mg l x).2,()):=by
 rw[ali,Xb (by omega),ai,ai];have hc:jx F0 l=some (l,()):=Xb (by omega);rcases ahl (fun e=>Re e x) l 0 with ⟨h1,h2⟩|⟨k,hk,h1,h2,h3⟩
 ·have h1:qO (fun e=>Re e x) l 0=-1:=h1;have hl:([x]:List eO).length=1:=rfl;rw[h1,show decide ((-1:Int)<0)=true from rfl,af,IY (cp _) (by simp) (by rw[hl];omega),ae,mm];dsimp only;rw[W3 (by simp only[aT,bg,bB,bz,bQ];omega),ai];exact ayA h (cp _) (fun j hj _=>h2 l[j] (di hj)) (fun h=>absurd h (Uq _))
 ·have h1:qO (fun e=>Re e x) l 0=((0+k:Nat):Int):=h1;rw[xf]at h1;have hl:([x]:List eO).length=1:=rfl;rw[h1,show decide (((k:Nat):Int)<0)=false from aQ (by omega),aa,ai,IY (k:=k) (a:=l.length) (b:=([x]:List eO).length) (by omega) (by simp) (by rw[hl];omega),ae,mm];dsimp only;rw[W3 (by simp only[aT,bg,bB,bz,bQ];omega),ai];exact ayA h (by omega) (fun j hj hjk=>h3 j hj hjk) (fun _=>h2)
theorem ahE {l:iE}{x:eO}(h:QM (eU l x).2=false):(eU l x).1=l:=by
 revert h
 unfold eU;split
 ·split
  ·intro _;rfl
  ·split
   ·intro _;rfl
   ·split
    ·intro h;cases h
    ·split
     ·intro h;cases h
     ·intro _;rfl
 ·intro _;rfl
def jo:iE->Nat->List eO->List eO
 |_,_,[]=>[]
 |_,0,_=>[]
 |l,n+1,x::p=>if QM (eU l x).2=true then x::jo (eU l x).1 n p else jo l (n+1) p
theorem aax (l:iE):∀p:List eO,jo l 0 p=[]
 |[]=>rfl
 |_::_=>rfl
theorem aay {l:iE}{n:Nat}{p:List eO}{k:Nat}(hk:k<p.length):jo l (n+1) (p.drop k)=if QM (eU l p[k]).2=true then p[k]::jo (eU l p[k]).1 n (p.drop (k+1)) else jo l (n+1) (p.drop (k+1)):=by rw[YM hk,jo]
theorem ahF {p:List eO}(hp:p.length<=1048576):∀(j k:Nat) (xs:List eO) (l:iE) (n:Nat),k+j=p.length->xs.length<=2->Ui l->j<n ->
  kG F0 (yT F0) n (iO p (k:Int) xs l.1 l.2)=some (xs++jo l (2-xs.length) (p.drop k),())
 |0,k,xs,l,n+1,hk,hx,h4,hn=>by
  obtain rfl:k=p.length:=by omega
  rw[Ev,aH,aa,Gl,YN];cases 2-xs.length<;>simp[jo]
 |j+1,k,xs,l,n+1,hk,hx,h4,hn=>by
  have hk':k<p.length:=by omega
  rw[Ev,aS hk',af,Gl];by_cases h2:xs.length<2
  ·obtain⟨m,hm⟩:∃m,2-xs.length=m+1:=⟨1-xs.length,by omega⟩;have aKG:JN F0 (l.1,l.2) p[k]=some ((eU l p[k]).1,(eU l p[k]).2,()):=avz (l:=l) (by have:=h4.1;omega) (by have:=h4.2;omega) _;rw[aM (show(xs.length:Int)<2 by omega),af,av hk',ae,bp hk',aKG,ai,ae,az (by omega) (by omega) (by first|omega|(simp only[aT,bg,bB];omega)|(rw[bz,bQ];omega)),ae,ao (by omega),hm,aay hk'];dsimp only;rw[ahF hp j (k+1) (xs++[p[k]]) (eU l p[k]).1 n (by omega) (by simp;omega) (aGy h4 _) (by omega),ahF hp j (k+1) xs l n (by omega) hx h4 (by omega),hm,show 2-(xs++[p[k]]).length=m by simp;omega];unfold QM;cases (eU l p[k]).2==0<;>cases (eU l p[k]).2==4<;>simp[br]
  ·rw[aQ (show ¬(xs.length:Int)<2 by omega),aa,show 2-xs.length=0 by omega,aax,ie]
theorem ahG {p:List eO}(hp:p.length<=1048576):∀(j k:Nat) (xs:List eO) (l:iE) (n:Nat),k+j=p.length->xs.length<=2->Ui l->j<n ->
  kO F0 (As F0) n (iR p (p.length:Int) (k:Int) l.1 l.2 xs)=some (xs++jo l (2-xs.length) (p.drop k),())
 |0,k,xs,l,n+1,hk,hx,h4,hn=>by
  obtain rfl:k=p.length:=by omega
  rw[EX,aH,aa,GW,YN];cases 2-xs.length<;>simp[jo]
 |j+1,k,xs,l,n+1,hk,hx,h4,hn=>by
  have hk':k<p.length:=by omega
  rw[EX,aS hk',af,GW,av hk',ae];by_cases h2:xs.length<2
  ·obtain⟨m,hm⟩:∃m,2-xs.length=m+1:=⟨1-xs.length,by omega⟩;have aKG:KF F0 (l.1,l.2) p[k]=some ((eU l p[k]).1,(eU l p[k]).2,()):=apf (l:=l) (by have:=h4.1;omega) (by have:=h4.2;omega) _;rw[cj.2 (show(xs.length:Int)≠2 by omega),aa,bp hk',aKG,ai,az (by omega) (by omega) (by first|omega|(simp only[aT,bg,bB];omega)|(rw[bz,bQ];omega)),ae,ao (by omega),hm,aay hk'];dsimp only;rw[ahG hp j (k+1) (xs++[p[k]]) (eU l p[k]).1 n (by omega) (by simp;omega) (aGy h4 _) (by omega),ahG hp j (k+1) xs (eU l p[k]).1 n (by omega) hx (aGy h4 _) (by omega),hm,show 2-(xs++[p[k]]).length=m by simp;omega];have aGY:=ahE (l:=l) (x:=p[k]);unfold QM at aGY ⊢;cases h0:(eU l p[k]).2==0<;>cases h4:(eU l p[k]).2==4<;>simp[br]
   rw[h0,h4]at aGY;rw[aGY rfl]
  ·rw[bC.2 (show(xs.length:Int)=2 by omega),af,show 2-xs.length=0 by omega,aax,ie]
theorem av5 {p:List eO}(hp:p.length<=1048576){l:iE}(h4:Ui l):pL F0 p l=some (jo l 2 p,()):=by rw[af1,abG (by have:=h4.1;omega) (by have:=h4.2;omega),ai];exact ahF hp p.length 0 [] l F0.n (by omega) (by simp) h4 (by rw[bT];omega)
theorem arR {p:List eO}(hp:p.length<=1048576){l:iE}(h4:Ui l):pU F0 p l=some (jo l 2 p,()):=by rw[ag4];exact ahG hp p.length 0 [] l F0.n (by omega) (by simp) h4 (by rw[bT];omega)
theorem R4:∀(p:List eO) (l:iE) (n:Nat),(jo l n p).length<=n
 |[],l,n=>by cases n<;>exact aX _
 |x::p,l,0=>cp _
 |x::p,l,n+1=>by
  unfold jo;split
  ·rw[bg];have:=R4 p (eU l x).1 n;omega
  ·exact R4 p l (n+1)
def apV (p:List eO)(l:iE):List eO:=p.filter fun x=>(eU l x).2 != 2
theorem av6 {p:List eO}(hp:p.length<=1048576){l:iE}(h1:l.1.length<=1048576)(h2:l.2.length<=1048576):Da F0 p l=some (apV p l,()):=by
 rw[agj];refine alW (fun n k xs=>pe F0 (zh F0) n (lh p k l.1 l.2 xs)) p (fun x=>(eU l x).2 != 2) _ (fun n k xs hk hx=>?_) (fun n=>?_) _ (by rw[bT];omega)
 ·rw[EB,aS hk,af,av hk,ae,ae,bp hk,show((l.1,l.2):iE)=l from rfl,avz h1 h2,ai,az (by omega) (by omega) (by first|omega|(simp only[aT,bg,bB];omega)|(rw[bz,bQ];omega)),ae,ao (by omega)];cases (eU l p[k]).2 != 2<;>rfl
 ·rw[EB,aH,aa,Ys];rfl
theorem arS {p:List eO}(hp:p.length<=1048576){l:iE}(h1:l.1.length<=1048576)(h2:l.2.length<=1048576):jM F0 p l=some (apV p l,()):=by
 rw[ag1];refine alW (fun n k xs=>py F0 (Ar F0) n (lE p (p.length:Int) k l.1 l.2 xs)) p (fun x=>(eU l x).2 != 2) _ (fun n k xs hk hx=>?_) (fun n=>?_) _ (by rw[bT];omega)
 ·rw[EW,aS hk,af,av hk,ae,bp hk,show((l.1,l.2):iE)=l from rfl,apf h1 h2,ai,az (by omega) (by omega) (by first|omega|(simp only[aT,bg,bB];omega)|(rw[bz,bQ];omega)),ae,ao (by omega)];cases (eU l p[k]).2 != 2<;>rfl
 ·rw[EW,aH,aa,YC];rfl
def eu (c:Int×Int)(view i:Int):List Int:=if 0<=bW c view i then ((List.range c.1.toNat).filter fun k:Nat=>decide (i∈aeC c view (k:Int))).map fun k:Nat=>(k:Int) else []
theorem ajr {c:Int×Int}(hc:bO c=true)(view i:Int):(eu c view i).length<=7:=by
 have:=cP hc;unfold eu;split
 ·rw[ug];have:=awz (fun k:Nat=>decide (i∈aeC c view (k:Int))) (List.range c.1.toNat);rw[aci]at this;omega
 ·exact aX _
theorem ayB {γ:Type}(X:Nat->Int->List Int->Option γ)(N:Nat)(p:Nat->Bool)(R:Option γ)(hs:∀n k xs,k<N->xs.length<=k->X (n+1) (k:Int) xs=X n ((k+1:Nat):Int) (if p k=true then xs++[(k:Int)] else xs))
  (he:∀n,X (n+1) (N:Int) (((List.range N).filter p).map fun k:Nat=>(k:Int))=R) (n:Nat) (hn:N<n):X n 0 []=R:=by
 refine df X N (fun k xs=>xs=((List.range k).filter p).map fun k:Nat=>(k:Int)) R (fun n k xs hk h=>.inr ⟨_,hs n k xs hk (by rw[h,ug];exact cN (awz _ _) (by rw[aci];omega)),?_⟩) (fun n xs h=>?_) n 0 [] (aX _) rfl (by omega)
 ·rw[List.range_succ,List.filter_append,afm,h];cases hp:p k<;>simp[hp]
 ·rw[h];exact he n
theorem aEA {c:Int×Int}(hc:bO c=true)(view i:Int):Rq F0 c view i=some (eu c view i,()):=by
 have hn:=cP hc;have hN:(c.1.toNat:Int)=c.1:=by omega
 rw[aq4,jf,ai,hc,aL,aa];unfold eu;by_cases hs:0<=bW c view i
 ·rw[ak hs];refine ayB (fun n k xs=>zb F0 (JX F0) n (re view i k c.1 c.2 xs)) c.1.toNat (fun k:Nat=>decide (i∈aeC c view (k:Int))) _ (fun n k xs hk hx=>?_) (fun n=>?_) F0.n (by rw[bT];omega)
  ·rw[zc,aM (show(k:Int)<c.1 by omega),af,show((c.1,c.2):Int×Int)=c from rfl,WZ,ai,aM (show bW c view i>=0 from hs),af,aIr,ai,gi (by have:=as2 c view k;dsimp only;omega),ai,az (by omega) (by omega) (by first|omega|(simp only[aT,bg,bB];omega)|(rw[bz,bQ];omega)),ae,ao (by omega)];dsimp only;cases decide (i∈aeC c view (k:Int))<;>rfl
  ·rw[zc,aQ (show ¬(c.1.toNat:Int)<c.1 by omega),aa,Py]
 ·obtain⟨m,hm⟩:∃m,F0.n=m+1:=⟨F0.n-1,by rw[bT]⟩;rw[ah hs,hm,zc,aM (show(0:Int)<c.1 by omega),af,show((c.1,c.2):Int×Int)=c from rfl,WZ,ai,aQ (show ¬bW c view i>=0 from hs),aa,Py]
theorem aA2 {c:Int×Int}(hc:bO c=true)(view i:Int):RC F0 c view i=some (eu c view i,()):=by
 have hn:=cP hc;have hN:(c.1.toNat:Int)=c.1:=by omega
 rw[arx];unfold eu;by_cases hs:0<=bW c view i
 ·rw[ak hs];refine ayB (fun n k xs=>Ai F0 (Ky F0) n (rI view i k c.1 c.2 xs)) c.1.toNat (fun k:Nat=>decide (i∈aeC c view (k:Int))) _ (fun n k xs hk hx=>?_) (fun n=>?_) F0.n (by rw[bT];omega)
  ·rw[Aj,show((c.1,c.2):Int×Int)=c from rfl,I0,ai,aM (show bW c view i>=0 from hs),af,aM (show(k:Int)<c.1 by omega),af,aGE,ai,fH (by have:=as2 c view k;dsimp only;omega),ai,az (by omega) (by omega) (by first|omega|(simp only[aT,bg,bB];omega)|(rw[bz,bQ];omega)),ae,ao (by omega)];dsimp only;cases decide (i∈aeC c view (k:Int))<;>rfl
  ·rw[Aj,show((c.1,c.2):Int×Int)=c from rfl,I0,ai,aM (show bW c view i>=0 from hs),af,aQ (show ¬(c.1.toNat:Int)<c.1 by omega),aa,Ql]
 ·obtain⟨m,hm⟩:∃m,F0.n=m+1:=⟨F0.n-1,by rw[bT]⟩;rw[ah hs,hm,Aj,show((c.1,c.2):Int×Int)=c from rfl,I0,ai,aQ (show ¬bW c view i>=0 from hs),aa,Ql]
theorem Ow {c:Int×Int}{q:dp}(h:fM c q=true):uN q:=⟨(wH h).1.n,(wH h).1.w⟩
theorem E7 {c:Int×Int}{q:dp}(h:jg c q=true):q.2.1.size<=1048576/\q.2.2.length<=1000:=⟨(XW h).1.n,cN (XW h).2.1 (by omega)⟩
theorem ayC {c:Int×Int}{s:ct}(h:cW c s=true):nD s:=⟨Ow (gm h).2.2.1,cN (tH (gm h).2.2.2) (by omega)⟩
theorem I3 {c:Int×Int}{b:dr}(h:gC c b=true):b.1.size<=1048576/\uN b.2:=by simp only[gC,aJ]at h;exact⟨cN (tH h.2.1) (by omega),Ow h.1⟩
theorem gn:uN cQ:=⟨aX _,aX _⟩
theorem av7 {c:Int×Int}{m:da}(h:eh c m=true):gy m:=by
 unfold eh at h;simp only[aJ]at h;obtain⟨hc,hs,hk⟩:=h;have hn:=abV hs;rw[<-hn];by_cases k1:m.1=1
 ·rw[ak (by simpa using k1)]at hk;have:=I3 hk;simp only[named,k1];exact⟨this.1,this.2,gn,gn⟩
 ·by_cases k2:m.1=2
  ·rw[ah (by simpa using k1),ak (by simpa using k2)]at hk;simp only[aJ]at hk;have:=E7 hk.1;simp only[named,k2];exact⟨aX _,gn,⟨this.1,by show m.2.2.2.1.2.2.length<=_;omega⟩,gn⟩
  ·by_cases k3:m.1=3
   ·rw[ah (by simpa using k1),ah (by simpa using k2),ak (by simpa using k3)]at hk;simp only[aJ]at hk;simp only[named,k3];exact⟨aX _,gn,gn,Ow hk.2.1⟩
   ·rw[ah (by simpa using k1),ah (by simpa using k2),ah (by simpa using k3)]at hk;simp only[aJ,bC]at hk;simp only[named,hk.1];exact⟨aX _,gn,gn,gn⟩
theorem atf {α:Type}{d:α}{p:α->Bool}{q:α->α->Bool}{l:List α}(h:W0 d p q l=true):∀x∈l,p x=true:=fun x hx=>by obtain⟨k,hk,rfl⟩:=ahS hx;exact((ahD d p q l).1 h).1 k hk
theorem wI {c:Int×Int}{l:List dp}(h:fz c l=true):aA0 l:=by simp only[fz,aJ,cD]at h;exact⟨by omega,fun q hq=>E7 (atf h.1 q hq)⟩
theorem ab0 {l:List eO}(h:fK l=true):l.length<=12/\∀x∈l,gQ x=true:=by simp only[fK,aJ,cD]at h;exact⟨by omega,atf h.1⟩
structure aGZ (c:Int×Int) (r:aD):Prop where
 cf:bO c=true
 i:iG 0 (aj (c.1-1)) r.1=true
 v:iG 1 60 r.2.1=true
 a:iG 0 60 r.2.2.1=true
 s:cW c r.2.2.2.1=true
 p:fK r.2.2.2.2.1=true
 t:fz c r.2.2.2.2.2.1=true
 d:gx r.2.2.2.2.2.2.1=true
 n:r.2.2.2.2.2.2.2.length<=30
 h:∀x∈r.2.2.2.2.2.2.2,Lc c r.1 x=true
theorem Cm {c:Int×Int}{r:aD}:qJ c r=true↔aGZ c r:=by
 unfold qJ;simp only[aJ,afl,aty,iJ];constructor
 ·rintro⟨h1,h2,h3,h4,h5,h6,h7,h8,h9,Sf⟩;exact⟨h1,h2,h3,h4,h5,h6,h7,h8,by omega,Sf⟩
 ·intro h;exact⟨h.cf,h.i,h.v,h.a,h.s,h.p,h.t,h.d,by have:=h.n;omega,h.h⟩
structure ba (c:Int×Int) (r:aD):Prop where
 f:aGZ c r
 b:∀x∈r.2.2.2.2.2.2.1.1,0<=x/\x<=255
theorem ba.ok {c:Int×Int}{r:aD}(h:ba c r):qJ c r=true:=Cm.2 h.f
theorem ayD {c:Int×Int}{i:Int}{x:l6}(h:Lc c i x=true):eh c x.2=true:=by simp only[Lc,aJ]at h;exact h.1
theorem aGZ.l {c:Int×Int}{r:aD}(h:aGZ c r):arH r :=
 ⟨ayC h.s,cN (ab0 h.p).1 (by omega),cN (wI h.t).1 (by omega),fun q hq=>(wI h.t).l hq,cN h.n (by omega),fun q hq=>av7 (ayD (h.h q hq))⟩
theorem ba.bt {c:Int×Int}{r:aD}(h:ba c r):aEs r:=⟨h.f.l,⟨cN (ee.1 h.f.d).1 (by omega),h.b⟩⟩
theorem ba.l {c:Int×Int}{r:aD}(h:ba c r):arH r:=h.f.l
def Xh (c:Int×Int)(r:aD)(ue:Int)(m:da):Bool:=decide (r.2.2.2.2.2.2.2.length<30)&&(eh c m&&(iG 0 (aj (c.1-1)) ue&& !(ue==r.1)))
def AM (r:aD)(p:l6):aD:=(r.1,r.2.1,r.2.2.1,r.2.2.2.1,r.2.2.2.2.1,r.2.2.2.2.2.1,r.2.2.2.2.2.2.1,r.2.2.2.2.2.2.2++[p])
def pC (c:Int×Int)(r:aD)(ue:Int)(m:da):aD×Bool:=if Xh c r ue m=true then (AM r (ue,m),true) else (r,false)
theorem NQ {r:aD}(hl:r.2.2.2.2.2.2.2.length<=1048576){m:da}(hm:gy m)(c:Int×Int)(ue:Int):fZ F0 c r ue m=some (((pC c r ue m).1,(pC c r ue m).2,()),()):=by
 rw[aks,I2 hm,ai,dB,ai,ajl hm,ai,az (by omega) (by omega) (by first|omega|(simp only[aT,bg,bB];omega)|(rw[bz,bQ];omega)),ae];unfold pC Xh;by_cases h:r.2.2.2.2.2.2.2.length<30
 ·rw[aQ (show ¬(r.2.2.2.2.2.2.2.length:Int)>=30 by omega),aM h];cases eh c m<;>cases iG 0 (aj (c.1-1)) ue<;>cases (ue==r.1)<;>rfl
 ·rw[aM (show(r.2.2.2.2.2.2.2.length:Int)>=30 by omega),aQ h];rfl
theorem apW {c:Int×Int}{r:aD}(h:aGZ c r)(ue:Int)(m:da):qJ c (AM r (ue,m))=Xh c r ue m:=by
 unfold Xh;by_cases hn:r.2.2.2.2.2.2.2.length<30
 ·rw[aM hn,ji];have e:(eh c m&&(iG 0 (aj (c.1-1)) ue&& !(ue==r.1)))=Lc c r.1 (ue,m):=rfl;rw[e];cases hp:Lc c r.1 (ue,m) with
  |true=>exact Cm.2 ⟨h.cf,h.i,h.v,h.a,h.s,h.p,h.t,h.d,by simp[AM];omega,fun x hx=>by
    rcases lX.1 hx with hx|hx
    ·exact h.h x hx
    ·rw[ml.1 hx];exact hp⟩
  |false =>
   cases hr:qJ c (AM r (ue,m)) with
   |false=>rfl
   |true =>
    have:=(Cm.1 hr).h (ue,m) (by simp[AM]);exact absurd this (by show ¬Lc c r.1 (ue,m)=true;rw[hp];decide)
 ·rw[aQ hn];cases hr:qJ c (AM r (ue,m)) with
  |false=>rfl
  |true =>
   have:=(Cm.1 hr).n;simp[AM]at this;omega
theorem ba.told {c:Int×Int}{r:aD}(h:ba c r)(ue:Int)(m:da):ba c (pC c r ue m).1:=by
 unfold pC;cases ht:Xh c r ue m with
 |false=>exact h
 |true =>
  have:=apW h.f ue m;rw[ht]at this;exact⟨Cm.1 this,h.b⟩
theorem X1 {c:Int×Int}{r:aD}(h:ba c r){m:da}(hm:gy m)(ue:Int):nv F0 c r ue m=some ((pC c r ue m).1,(pC c r ue m).2,()):=by
 have hn:=h.f.n;have hl:arH (AM r (ue,m)):=⟨h.l.s,h.l.p,h.l.t,h.l.tq,by simp[AM];omega,fun q hq=>by
  rcases lX.1 hq with hq|hq
  ·exact h.l.hm q hq
  ·rw[ml.1 hq];exact hm⟩
 have dO:c9 F0 c (AM r (ue,m))=some (Xh c r ue m,()):=by rw[eW hl,apW h.f]
 rw[avf,eK h.bt,ai,ajm hm,ai,az (by omega) (by omega) (by first|omega|(simp only[aT,bg,bB];omega)|(rw[bz,bQ];omega)),ae];dsimp only;rw[show((r.1,r.2.1,r.2.2.1,r.2.2.2.1,r.2.2.2.2.1,r.2.2.2.2.2.1,r.2.2.2.2.2.2.1,r.2.2.2.2.2.2.2++[(ue,m)]):aD)=AM r (ue,m) from rfl,dO,ai,ai];unfold pC;cases Xh c r ue m<;>rfl
def put (r:aD)(s:ct):aD:=(r.1,r.2.1,r.2.2.1,s,r.2.2.2.2.1,r.2.2.2.2.2.1,(r.2.2.2.2.2.2.1.1++Bj s,r.2.2.2.2.2.2.1.2),r.2.2.2.2.2.2.2)
def nI (c:Int×Int)(r:aD)(s:ct):aD×Bool :=
 if nG r.2.2.2.1 s=true then (r,true) else if cW c s=true/\r.2.2.2.2.2.2.1.1.length+(Bj s).length<=100000 then (put r s,true) else (r,false)
theorem apX (c:Int×Int)(s:ct):(Xe c s).length<=12010:=by
 unfold Xe;split
 ·rename_i h;exact(aEr h).2
 ·exact aX _
theorem apY {c:Int×Int}{r:aD}{s:ct}(h:nG r.2.2.2.1 s=true):nI c r s=(r,true):=ak h
theorem atg {c:Int×Int}{r:aD}{s:ct}(h:nG r.2.2.2.1 s=false)(h2:cW c s=true)(h3:r.2.2.2.2.2.2.1.1.length+(Bj s).length<=100000):nI c r s=(put r s,true):=by unfold nI;rw[h,ah (by decide),ak ⟨h2,h3⟩]
theorem aeZ {c:Int×Int}{r:aD}{s:ct}(h:nG r.2.2.2.1 s=false)(h2:¬(cW c s=true/\r.2.2.2.2.2.2.1.1.length+(Bj s).length<=100000)):nI c r s=(r,false):=by unfold nI;rw[h,ah (by decide),ah h2]
theorem ae0 {d:tQ}{b:List Int}(h:gx d=true)(h2:d.1.length+b.length<=100000):NM d b=((d.1++b,d.2),true):=ak ⟨h,h2⟩
theorem aC6 {d:tQ}{b:List Int}(h2:¬d.1.length+b.length<=100000):NM d b=(d,false):=ah fun h=>h2 h.2
theorem R5 {c:Int×Int}{s:ct}(h:cW c s=true):Xe c s=Bj s:=ak h
theorem ath {c:Int×Int}{s:ct}(h:cW c s=false):Xe c s=[]:=ah (by rw[h];decide)
theorem R6 {c:Int×Int}{r:aD}(h:ba c r){s:ct}(hs:nD s):fk F0 c r s=some (if (nI c r s).2=true then ((nI c r s).1,true,ajh) else (ajh,false,r)):=by
 have hn:=apX c s;have hd:=h.bt.d.1;have hd2:=(ee.1 h.f.d).1;rw[af9,avP h.l.s hs,ai,arO hs,ai,aAY hd (cN hn (by omega)),ai,Ck hs,ai,NI hs,ai];cases h1:nG r.2.2.2.1 s with
 |true =>
  rw[apY h1];rfl
 |false =>
  cases h2:cW c s with
  |false =>
   rw[aeZ h1 (fun h=>by rw[h2]at h;cases h.1),ath h2,ae0 h.f.d (by rw[bB];omega)];rfl
  |true =>
   by_cases h3:r.2.2.2.2.2.2.1.1.length+(Bj s).length<=100000
   ·rw[atg h1 h2 h3,R5 h2,ae0 h.f.d h3];rfl
   ·rw[aeZ h1 (fun h=>h3 h.2),R5 h2,aC6 h3];rfl
theorem arT (a b:ct):nG a b=nG b a:=by unfold nG;rw[NC,show(a.1==b.1)=(b.1==a.1) from F7,show(a.2.1==b.2.1)=(b.2.1==a.2.1) from F7,show(a.2.2.2.toList==b.2.2.2.toList)=(b.2.2.2.toList==a.2.2.2.toList) from F7]
theorem ba.put {c:Int×Int}{r:aD}(h:ba c r){s:ct}(hs:cW c s=true)(hd:r.2.2.2.2.2.2.1.1.length+(Bj s).length<=100000):ba c (put r s):=by
 refine⟨⟨h.f.cf,h.f.i,h.f.v,h.f.a,hs,h.f.p,h.f.t,ee.2 ⟨?_,(ee.1 h.f.d).2.1,?_⟩,h.f.n,h.f.h⟩,fI h.b (ayq s)⟩
 ·show(r.2.2.2.2.2.2.1.1++Bj s).length<=_;rw[aT];exact hd
 ·show r.2.2.2.2.2.2.1.2<=((r.2.2.2.2.2.2.1.1++Bj s).length:Int);have:=(ee.1 h.f.d).2.2;rw[aT];omega
theorem ba.wrote {c:Int×Int}{r:aD}(h:ba c r)(s:ct):ba c (nI c r s).1:=by
 unfold nI;split
 ·exact h
 ·split
  ·rename_i h2;exact h.put h2.1 h2.2
  ·exact h
theorem ab1 {c:Int×Int}{r:aD}(h:ba c r){s:ct}(hs:nD s):w8 F0 c r s=some ((nI c r s).1,(nI c r s).2,()):=by
 have hn:=apX c s;have hd:=h.bt.d.1;have hd2:=(ee.1 h.f.d).1;rw[aru,eK h.bt,ai,eW h.l,ai,h.ok,aL,aa,arJ hs,ai,apN hs,ai,ayw hd (cN hn (by omega)),ai,IE hs,ai,ai,arT];dsimp only;have hb:∀d:tQ,c9 F0 c (r.1,r.2.1,r.2.2.1,s,r.2.2.2.2.1,r.2.2.2.2.2.1,d,r.2.2.2.2.2.2.2)=some (qJ c (r.1,r.2.1,r.2.2.1,s,r.2.2.2.2.1,r.2.2.2.2.2.1,d,r.2.2.2.2.2.2.2),()):=fun d =>
  eW (r:=(r.1,r.2.1,r.2.2.1,s,r.2.2.2.2.1,r.2.2.2.2.2.1,d,r.2.2.2.2.2.2.2)) ⟨hs,h.l.p,h.l.t,h.l.tq,h.l.h,h.l.hm⟩ c
 rw[hb,ai];cases h1:nG r.2.2.2.1 s with
 |true =>
  rw[apY h1];rfl
 |false =>
  cases h2:cW c s with
  |false =>
   have bad:∀d:tQ,qJ c (r.1,r.2.1,r.2.2.1,s,r.2.2.2.2.1,r.2.2.2.2.2.1,d,r.2.2.2.2.2.2.2)=false:=fun d=>by
    cases hr:qJ c (r.1,r.2.1,r.2.2.1,s,r.2.2.2.2.1,r.2.2.2.2.2.1,d,r.2.2.2.2.2.2.2) with
    |false=>rfl
    |true =>
     have:=(Cm.1 hr).s;exact absurd this (by show ¬cW c s=true;rw[h2];decide)
   rw[aeZ h1 (fun h=>by rw[h2]at h;cases h.1),ath h2,ae0 h.f.d (by rw[bB];omega),bad];rfl
  |true =>
   by_cases h3:r.2.2.2.2.2.2.1.1.length+(Bj s).length<=100000
   ·have hg:=(h.put h2 h3).ok;rw[atg h1 h2 h3,R5 h2,ae0 h.f.d h3];dsimp only;rw[show qJ c (r.1,r.2.1,r.2.2.1,s,r.2.2.2.2.1,r.2.2.2.2.2.1,(r.2.2.2.2.2.2.1.1++Bj s,r.2.2.2.2.2.2.1.2),r.2.2.2.2.2.2.2)=true from hg];rfl
   ·rw[aeZ h1 (fun h=>h3 h.2),R5 h2,aC6 h3];rfl
theorem aA3 {b:ByteArray}(h:(kx b).2=true):cq (kx b).1.data.toList=true:=by
 unfold kx at h ⊢;split at h
 ·rename_i hs;rw[ak hs];have h1:cq b.data.toList=true:=by
   unfold X0 at hs;cases h2:(cC b.data.toList).2 with
   |true=>exact h2
   |false=>rw[WV h2]at hs;cases hs
  show cq (upB (upB b)).data.toList=true;unfold upB;rw[iK,iK];exact aGN (aGN h1)
 ·cases h
theorem aKH {c:Int×Int}{s:ct}(h:cW c s=true)(q:dp):cW c (see c s q)=true:=by
 unfold see;split
 ·rename_i hh;obtain⟨h1,h2,h3,h4⟩:=gm h;have hv:=QI (upL q.2.1.data.toList);simp only[cW,iG,aJ,cD];refine⟨h1,?_,?_,?_⟩
  ·unfold xU;split<;>omega
  ·unfold XZ;split
   ·exact hh.2
   ·exact h3
  ·split
   ·rename_i hx;exact aA3 hx.1
   ·exact h4
 ·exact h
def E8 (r:aD)(v:Int):aD:=(r.1,xU r.2.1 v,r.2.2)
theorem ba.raised {c:Int×Int}{r:aD}(h:ba c r){v:Int}(hv:v<=60):ba c (E8 r v):=by refine⟨⟨h.f.cf,h.f.i,?_,h.f.a,h.f.s,h.f.p,h.f.t,h.f.d,h.f.n,h.f.h⟩,h.b⟩;have:=h.f.v;simp only[iG,aJ,cD]at this;show iG 1 60 (xU r.2.1 v)=true;simp only[iG,aJ,cD];unfold xU;split<;>omega
def mh (v:Int)(q:dp)(dk:Int):da:=(3,v,(al,cQ),cQ,q,dk,nM)
def AN (p:dp):da:=(2,0,(al,cQ),p,cQ,0,nM)
def ayE (b:dr):da:=(1,0,b,cQ,cQ,0,nM)
theorem QN {v:Int}{q:dp}(h:uN q)(dk:Int):gy (mh v q dk):=⟨aX _,gn,gn,h⟩
theorem ahH {p:dp}(h:uN p):gy (AN p):=⟨aX _,gn,h,gn⟩
theorem ab2 {b:dr}(h1:b.1.size<=1048576)(h2:uN b.2):gy (ayE b):=⟨h1,h2,gn,gn⟩
def written (c:Int×Int)(r:aD)(q:dp):aD×Bool:=nI c r (see c r.2.2.2.1 q)
def xM (c:Int×Int)(r:aD)(q:dp):aD×Bool :=
 if (written c r q).2=true then
  if aj (q.1+1)>60 then ((written c r q).1,true)
  else if cF c (aj (q.1+1))=r.1 then (E8 (written c r q).1 (aj (q.1+1)),true)
  else pC c (E8 (written c r q).1 (aj (q.1+1))) (cF c (aj (q.1+1))) (mh (aj (q.1+1)) q r.1)
 else (r,false)
theorem ae1 {c:Int×Int}{r:aD}{s:ct}:(nI c r s).1.1=r.1:=by
 unfold nI;split
 ·rfl
 ·split<;>rfl
def Xi (c:Int×Int)(p:dp):Bool:= !ec p.2.1&&fM c p
theorem ati (b:ByteArray):ec b=decide (b.data.toList=[]):=by
 cases h:ec b with
 |true=>rw[aM ((Li b).1 h)]
 |false =>
  rw[aQ];intro h2;rw[(Li b).2 h2]at h;cases h
theorem aEB {p:dp}(h:uN p)(c:Int×Int):EA F0 c p=some (if Xi c p=true then p else cQ,Xi c p,()):=by
 have:=aAy (v:=p.1) (l:=p.2.1.data.toList) (s:=p.2.2) (T0 h.1) (cN h.2 (by omega)) c;rw[show((p.1,tx p.2.1.data.toList,p.2.2):dp)=p from rfl]at this;rw[this];unfold Xi fM WW;rw[ati];by_cases h0:p.2.1.data.toList=[]
 ·rw[ah (fun hh=>hh.1 h0),aM h0];rfl
 ·rw[aQ h0];cases hq:YI c (p.1,p.2.1.data.toList,p.2.2) with
  |true=>rw[ak ⟨h0,rfl⟩];rfl
  |false=>rw[ah (fun hh=>by cases hh.2)];rfl
theorem aA4 {p:dp}(h:uN p)(c:Int×Int):EV F0 c p=some (if Xi c p=true then p else cQ,Xi c p,()):=by
 have:=axT (v:=p.1) (l:=p.2.1.data.toList) (s:=p.2.2) (T0 h.1) (cN h.2 (by omega)) c;rw[show((p.1,tx p.2.1.data.toList,p.2.2):dp)=p from rfl]at this;rw[this];unfold Xi fM WW;rw[ati];by_cases h0:p.2.1.data.toList=[]
 ·rw[ah (fun hh=>hh.1 h0),aM h0];rfl
 ·rw[aQ h0];cases hq:YI c (p.1,p.2.1.data.toList,p.2.2) with
  |true=>rw[ak ⟨h0,rfl⟩];rfl
  |false=>rw[ah (fun hh=>by cases hh.2)];rfl
theorem ba.w {c:Int×Int}{r:aD}(h:ba c r)(q:dp):ba c (written c r q).1:=h.wrote _
theorem apZ {c:Int×Int}{r:aD}(h:ba c r)(q:dp):nD (see c r.2.2.2.1 q):=ayC (aKH h.f.s q)
theorem aA5 {c:Int×Int}{r:aD}(h:ba c r){p:dp}(hp:uN p):Mg F0 c r p=some (if Xi c p=true then ((xM c r p).1,(xM c r p).2,()) else (r,false,()),()):=by
 rw[anG,aEB hp,ai];cases hq:Xi c p with
 |false=>rfl
 |true =>
  dsimp only;rw[aL,aa,ak rfl,ak rfl,av0 h.l.s hp,ai,R6 h (apZ h p),ai];have hw:ba c (written c r p).1:=h.w p;unfold xM;unfold written at hw ⊢;generalize nI c r (see c r.2.2.2.1 p)=W at hw ⊢;cases h2:W.2 with
  |false=>rw[ah (by decide),ah (by decide)];rfl
  |true =>
   have ht:fZ F0 c (W.1.1,xU W.1.2.1 (aj (p.1+1)),W.1.2.2) (cF c (aj (p.1+1))) (3,aj (p.1+1),(al,0,al,[]),(0,al,[]),p,r.1,0,0,0,0)=some (((pC c (E8 W.1 (aj (p.1+1))) (cF c (aj (p.1+1))) (mh (aj (p.1+1)) p r.1)).1,(pC c (E8 W.1 (aj (p.1+1))) (cF c (aj (p.1+1))) (mh (aj (p.1+1)) p r.1)).2,()),()) :=
    NQ (r:=E8 W.1 (aj (p.1+1))) (cN hw.f.n (by omega)) (QN (v:=aj (p.1+1)) hp r.1) c (cF c (aj (p.1+1)))
   rw[ak rfl,ak rfl];simp only[ai,KZ,Cl,ht,af];by_cases h3:aj (p.1+1)>60
   ·rw[aM h3,af,ak h3]
   ·rw[aQ h3,aa,ah h3];by_cases h4:cF c (aj (p.1+1))=r.1
    ·rw[ak h4,bC.2 h4,af];rfl
    ·rw[ah h4,cj.2 h4,aa]
theorem aA6 {c:Int×Int}{r:aD}(h:ba c r){q:dp}(hq:uN q):Kx F0 c r q=some ((xM c r q).1,(xM c r q).2,()):=by
 have hw:ba c (written c r q).1:=h.w q;rw[arv,apP h.l.s hq,ai,ab1 h (apZ h q),ai];unfold xM;unfold written at hw ⊢;generalize nI c r (see c r.2.2.2.1 q)=W at hw ⊢;obtain⟨W1,W2⟩:=W;cases W2 with
 |false=>rfl
 |true =>
  show _=some ((if aj (q.1+1)>60 then (W1,true) else if cF c (aj (q.1+1))=r.1 then (E8 W1 (aj (q.1+1)),true) else pC c (E8 W1 (aj (q.1+1))) (cF c (aj (q.1+1))) (mh (aj (q.1+1)) q r.1)).1,(if aj (q.1+1)>60 then (W1,true) else if cF c (aj (q.1+1))=r.1 then (E8 W1 (aj (q.1+1)),true) else pC c (E8 W1 (aj (q.1+1))) (cF c (aj (q.1+1))) (mh (aj (q.1+1)) q r.1)).2,());by_cases h3:aj (q.1+1)>60
  ·rw[aM h3,ak h3];rfl
  ·have ht:nv F0 c (W1.1,(if aj (q.1+1)>W1.2.1 then aj (q.1+1) else W1.2.1,W1.2.2)) (cF c (aj (q.1+1))) (3,aj (q.1+1),(al,0,al,[]),(0,al,[]),q,r.1,0,0,0,0)=some ((pC c (E8 W1 (aj (q.1+1))) (cF c (aj (q.1+1))) (mh (aj (q.1+1)) q r.1)).1,(pC c (E8 W1 (aj (q.1+1))) (cF c (aj (q.1+1))) (mh (aj (q.1+1)) q r.1)).2,()) :=
    X1 (hw.raised (v:=aj (q.1+1)) (by omega)) (QN (v:=aj (q.1+1)) hq r.1) (cF c (aj (q.1+1)))
   rw[aQ h3,ah h3];simp only[ai,IZ,ht,aa,aL];by_cases h4:cF c (aj (q.1+1))=r.1
   ·rw[ak h4,show(cF c (aj (q.1+1)) != r.1)=false by simp[h4],aa];rfl
   ·rw[ah h4,show(cF c (aj (q.1+1)) != r.1)=true by simp[h4],af]
theorem ba.aIO {c:Int×Int}{r:aD}(h:ba c r)(q:dp):ba c (xM c r q).1:=by
 unfold xM;split
 ·split
  ·exact h.w q
  ·split
   ·exact(h.w q).raised (by omega)
   ·exact((h.w q).raised (by omega)).told _ _
 ·exact h
def iI (c:Int×Int)(r:aD)(view:Int)(name:ByteArray)(push:Bool):aD×Bool :=
 if (ei r.2.2.2.2.2.1 view name).2.2.length=0\/ec name=true then (r,false)
 else if cF c view=r.1 then
  if Xi c (ei r.2.2.2.2.2.1 view name)=true/\(xM c r (ei r.2.2.2.2.2.1 view name)).2=true then ((xM c r (ei r.2.2.2.2.2.1 view name)).1,true) else (r,false)
 else if push=false/\cmn (ei r.2.2.2.2.2.1 view name).2.2 (eu c view r.1)<(eu c view r.1).length then (r,false)
 else pC c r (QJ c view r.1) (AN (ei r.2.2.2.2.2.1 view name))
section
variable {c:Int×Int} {r:aD} {view:Int} {name:ByteArray} {push:Bool} {p:dp} (hP:ei r.2.2.2.2.2.1 view name=p)
include hP
theorem ae2 (h:p.2.2.length=0\/ec name=true):iI c r view name push=(r,false):=by subst hP;exact ak h
theorem av8 (h1:¬(p.2.2.length=0\/ec name=true))(h3:cF c view=r.1)(h:Xi c p=true/\(xM c r p).2=true):iI c r view name push=((xM c r p).1,true):=by subst hP;unfold iI;rw[ah h1,ak h3,ak h]
theorem ae3 (h1:¬(p.2.2.length=0\/ec name=true))(h3:cF c view=r.1)(h:¬(Xi c p=true/\(xM c r p).2=true)):iI c r view name push=(r,false):=by subst hP;unfold iI;rw[ah h1,ak h3,ah h]
theorem av9 (h1:¬(p.2.2.length=0\/ec name=true))(h3:¬cF c view=r.1)(h:push=false/\cmn p.2.2 (eu c view r.1)<(eu c view r.1).length):iI c r view name push=(r,false):=by subst hP;unfold iI;rw[ah h1,ah h3,ak h]
theorem ae4 (h1:¬(p.2.2.length=0\/ec name=true))(h3:¬cF c view=r.1)(h:¬(push=false/\cmn p.2.2 (eu c view r.1)<(eu c view r.1).length)):iI c r view name push=pC c r (QJ c view r.1) (AN p):=by subst hP;unfold iI;rw[ah h1,ah h3,ah h]
end
theorem ayF {l:List dp}(hl:∀q∈l,uN q){name:ByteArray}(hn:name.size<=1048576)(view:Int):uN (ei l view name):=by
 unfold ei;cases h:l.find? (fun x=>(x.1==view)&&(x.2.1.toList==name.toList)) with
 |none=>exact⟨hn,aX _⟩
 |some x=>exact hl x (YL h)
theorem ba.awa {c:Int×Int}{r:aD}(h:ba c r)(view:Int)(name:ByteArray)(push:Bool):ba c (iI c r view name push).1:=by
 unfold iI;split
 ·exact h
 ·split
  ·split
   ·exact h.aIO _
   ·exact h
  ·split
   ·exact h
   ·exact h.told _ _
theorem R7 {c:Int×Int}{r:aD}(h:ba c r)(view:Int){name:ByteArray}(hn:name.size<=1048576)(push:Bool) :
  ∃x,pO F0 c r view name push=some ((x,(iI c r view name push).2,()),())/\((iI c r view name push).2=true->x=(iI c r view name push).1):=by
 have hp:=ayF h.l.tq hn view;have hu:=ajr h.f.cf view r.1;have ht:=NQ (r:=r) (cN h.f.n (by omega)) (ahH hp) c (QJ c view r.1);have ht':((fZ F0 c r (QJ c view r.1) (2,0,(al,0,al,[]),ei r.2.2.2.2.2.1 view name,(0,al,[]),0,0,0,0,0)).bind fun r74=>some ((r74.1.1,r74.1.2.1,()),()))=some (((pC c r (QJ c view r.1) (AN (ei r.2.2.2.2.2.1 view name))).1,(pC c r (QJ c view r.1) (AN (ei r.2.2.2.2.2.1 view name))).2,()),()):=by refine Bl (AT (fun x=>Option.bind x _) ht) ?_;rfl
 rw[agd,R3 h.l.t h.l.tq,ai,KZ,ai,aA5 h hp,ai,aEA h.f.cf,ai,aAz (a:=eu c view r.1) (by omega) hp.2,ai,aGC];simp only[ai,ht'];generalize hP:ei r.2.2.2.2.2.1 view name=p at *;by_cases h1:p.2.2.length=0
 ·rw[ae2 hP (.inl h1),show((p.2.2.length:Int)==0)=true from bC.2 (by omega),af];exact⟨r,rfl,fun h=>by cases h⟩
 ·rw[show((p.2.2.length:Int)==0)=false from cj.2 (by omega),aa];cases h2:ec name with
  |true =>
   rw[ae2 hP (.inr h2),show(name.toList==al.toList)=true from h2,af];exact⟨r,rfl,fun h=>by cases h⟩
  |false =>
   have n1:¬(p.2.2.length=0\/ec name=true):=fun hh=>hh.elim h1 (by rw[h2];decide)
   rw[show(name.toList==al.toList)=false from h2,aa];by_cases h3:cF c view=r.1
   ·rw[bC.2 h3,af];cases h4:Xi c p with
    |false =>
     rw[ae3 hP n1 h3 (fun hh=>by rw[h4]at hh;cases hh.1)];exact⟨r,rfl,fun h=>by cases h⟩
    |true =>
     cases h5:(xM c r p).2 with
     |false =>
      rw[ae3 hP n1 h3 (fun hh=>by rw[h5]at hh;cases hh.2)];exact⟨_,rfl,fun h=>by cases h⟩
     |true =>
      rw[av8 hP n1 h3 ⟨h4,h5⟩];exact⟨_,rfl,fun _=>rfl⟩
   ·rw[cj.2 h3,aa];cases push with
    |true =>
     rw[ae4 hP n1 h3 (fun hh=>by cases hh.1)];exact⟨_,rfl,fun _=>rfl⟩
    |false =>
     by_cases h6:cmn p.2.2 (eu c view r.1)<(eu c view r.1).length
     ·rw[av9 hP n1 h3 ⟨rfl,h6⟩,eX,af,aM (show(cmn p.2.2 (eu c view r.1):Int)<(eu c view r.1).length by omega),af];exact⟨r,rfl,fun h=>by cases h⟩
     ·rw[ae4 hP n1 h3 (fun hh=>h6 hh.2),eX,af,aQ (show ¬(cmn p.2.2 (eu c view r.1):Int)<(eu c view r.1).length by omega),aa];exact⟨_,rfl,fun _=>rfl⟩
theorem aEC {c:Int×Int}{r:aD}(h:ba c r)(view:Int){name:ByteArray}(hn:name.size<=1048576)(push:Bool):Rr F0 c r view name push=some (if (iI c r view name push).2=true then ((iI c r view name push).1,true,()) else (r,false,())):=by
 obtain⟨x,h1,h2⟩:=R7 h view hn push;rw[ard,iS h.l,ai,h.ok,aL,aa,eJ h.bt,ai,h1,ai,ai];cases h3:(iI c r view name push).2 with
 |true=>rw[h2 h3];rfl
 |false=>rfl
theorem ab3 {c:Int×Int}{r:aD}(h:ba c r)(view:Int){name:ByteArray}(hn:name.size<=1048576)(push:Bool):oL F0 c r view name push=some ((iI c r view name push).1,(iI c r view name push).2,()):=by
 have hp:=ayF h.l.tq hn view;have hu:=ajr h.f.cf view r.1;have ht:=X1 h (ahH hp) (QJ c view r.1);have ht':((nv F0 c r (QJ c view r.1) (2,0,(al,0,al,[]),ei r.2.2.2.2.2.1 view name,(0,al,[]),0,0,0,0,0)).bind fun r93=>some (r93.1,r93.2.1,()))=some ((pC c r (QJ c view r.1) (AN (ei r.2.2.2.2.2.1 view name))).1,(pC c r (QJ c view r.1) (AN (ei r.2.2.2.2.2.1 view name))).2,()):=by refine Bl (AT (fun x=>Option.bind x _) ht) ?_;rfl
 have hcr:Kx F0 c r (if Xi c (ei r.2.2.2.2.2.1 view name)=true then ei r.2.2.2.2.2.1 view name else cQ)=some ((xM c r (if Xi c (ei r.2.2.2.2.2.1 view name)=true then ei r.2.2.2.2.2.1 view name else cQ)).1,(xM c r (if Xi c (ei r.2.2.2.2.2.1 view name)=true then ei r.2.2.2.2.2.1 view name else cQ)).2,()):=aA6 h (by split;exact hp;exact gn);rw[arz,aaw h.l.t h.l.tq,ai,eK h.bt,ai,eW h.l,ai,h.ok,aL,aa,IZ,ai,aA4 hp,ai,aA2 h.f.cf,ai,axY (a:=eu c view r.1) (by omega) hp.2,ai,aCY];simp only[ai,ht',hcr];generalize hP:ei r.2.2.2.2.2.1 view name=p at *;by_cases h1:p.2.2.length=0
 ·rw[ae2 hP (.inl h1),show((p.2.2.length:Int)==0)=true from bC.2 (by omega),af]
 ·rw[show((p.2.2.length:Int)==0)=false from cj.2 (by omega),aa];cases h2:ec name with
  |true =>
   rw[ae2 hP (.inr h2),show(name.toList==al.toList)=true from h2,af]
  |false =>
   have n1:¬(p.2.2.length=0\/ec name=true):=fun hh=>hh.elim h1 (by rw[h2];decide)
   rw[show(name.toList==al.toList)=false from h2,aa];by_cases h3:cF c view=r.1
   ·rw[bC.2 h3,af];cases h4:Xi c p with
    |false =>
     rw[ae3 hP n1 h3 (fun hh=>by rw[h4]at hh;cases hh.1)];rfl
    |true =>
     rw[ak rfl,aL,aa];cases h5:(xM c r p).2 with
     |false =>
      rw[ae3 hP n1 h3 (fun hh=>by rw[h5]at hh;cases hh.2)];rfl
     |true =>
      rw[av8 hP n1 h3 ⟨h4,h5⟩];rfl
   ·rw[cj.2 h3,aa];cases push with
    |true =>
     rw[ae4 hP n1 h3 (fun hh=>by cases hh.1)];rfl
    |false =>
     by_cases h6:cmn p.2.2 (eu c view r.1)<(eu c view r.1).length
     ·rw[av9 hP n1 h3 ⟨rfl,h6⟩,eX,af,aM (show(cmn p.2.2 (eu c view r.1):Int)<(eu c view r.1).length by omega),af]
     ·rw[ae4 hP n1 h3 (fun hh=>h6 hh.2),eX,af,aQ (show ¬(cmn p.2.2 (eu c view r.1):Int)<(eu c view r.1).length by omega),aa]
def aC7:dr:=(al,cQ)
def QO (q:dp)(view:Int)(l:List eO):ByteArray:=tx (RY q.2.1.data.toList view l)
def kq (c:Int×Int)(q:dp)(view:Int)(l:List eO):dr×Bool:=if gC c (QO q view l,q)=true/\bA (QO q view l).data.toList=view then ((QO q view l,q),true) else (aC7,false)
theorem ap0 {c:Int×Int}{q:dp}(hq:fM c q=true){view:Int}(hv:I64 view){l:List eO}(hl:l.length<=100):(QO q view l).size<=1048576:=by have h1:=(wH hq).2.2;have h2:=atc (up:=q.2.1.data.toList) hv l;unfold QO;rw[bP];have:q.2.1.data.toList.length=q.2.1.size:=rfl;omega
theorem X2 (a b:Int):(a != b)= !decide (a=b):=by
 by_cases h:a=b
 ·simp[h]
 ·simp[h]
theorem ae5 {c:Int×Int}{q:dp}(hq:fM c q=true){view:Int}(hv:I64 view){l:List eO}(hl:l.length<=100):pM F0 c q view l=some ((kq c q view l).1,(kq c q view l).2,()):=by
 have h1:=(wH hq).2.2;have hs:=ap0 hq hv hl;have hN:la F0 q.2.1 view l=some (QO q view l,()):=apE (up:=q.2.1.data.toList) (by show q.2.1.size<=_;omega) hv (by omega);rw[af4,hN,ai,xd (Ow hq).2,ai,ND (b:=(QO q view l,q)) hs (Ow hq),ai,pV hs,ai];unfold kq;dsimp only;rw[X2];cases gC c (QO q view l,q) with
 |false=>rw[ah (fun h=>by cases h.1)];rfl
 |true =>
  by_cases h:bA (QO q view l).data.toList=view
  ·rw[ak ⟨rfl,h⟩,aM h];rfl
  ·rw[ah (fun hh=>h hh.2),aQ h];rfl
theorem arU {c:Int×Int}{q:dp}(hq:fM c q=true){view:Int}(hv:I64 view){l:List eO}(hl:l.length<=2):uK F0 c q view l=some ((kq c q view l).1,(kq c q view l).2,()):=by
 have h1:=(wH hq).2.2;have hs:=ap0 hq hv (l:=l) (by omega);have hN:EY F0 q.2.1 view l=some (QO q view l,()):=ayj (up:=q.2.1.data.toList) (by show q.2.1.size<=_;omega) hv (by omega);rw[ag7,hN,ai,xL (Ow hq).2,ai,Iz (b:=(QO q view l,q)) hs (Ow hq),ai,rQ hs,ai];unfold kq;dsimp only;rw[X2];cases gC c (QO q view l,q) with
 |false=>rw[ah (fun h=>by cases h.1)];rfl
 |true =>
  by_cases h:bA (QO q view l).data.toList=view
  ·rw[ak ⟨rfl,h⟩,aM h];rfl
  ·rw[ah (fun hh=>h hh.2),aQ h];rfl
theorem ayG {c:Int×Int}{q:dp}{view:Int}{l:List eO}(h:(kq c q view l).2=true):gC c (kq c q view l).1=true/\bA (kq c q view l).1.1.data.toList=view/\(kq c q view l).1.2=q:=by
 unfold kq at h ⊢;split at h
 ·rename_i hh;rw[ak hh];exact⟨hh.1,hh.2,rfl⟩
 ·cases h
def NR (c:Int×Int)(l:List dp)(view:Int):Bool:=decide (((ei l view al).2.2.length:Int)>=KX c)
def aC8 (c:Int×Int)(r:aD):Bool:=decide (cF c r.2.1=r.1)&&(!decide (r.2.2.1>=r.2.1)&&(decide (r.2.2.2.1.2.2.1.1=aj (r.2.1-1)) || NR c r.2.2.2.2.2.1 r.2.1))
def ahI (r:aD):List eO:=jo (fA RI (Uk r.2.2.2.1.2.2.1.2.1)) 2 r.2.2.2.2.1
def ask (c:Int×Int)(r:aD):dr×Bool:=if aC8 c r=true then kq c r.2.2.2.1.2.2.1 r.2.1 (ahI r) else (aC7,false)
theorem ba.view {c:Int×Int}{r:aD}(h:ba c r):1<=r.2.1/\r.2.1<=60:=by have:=h.f.v;simp only[iG,aJ,cD]at this;exact this
theorem aG0 (a b:Int):decide (a<b)= !decide (a>=b):=by
 by_cases h:a<b
 ·rw[aM h,aQ (by omega)];rfl
 ·rw[aQ h,aM (by omega)];rfl
theorem ap1 (r:aD):(ahI r).length<=2:=R4 _ _ _
theorem aC9 {c:Int×Int}{r:aD}(h:ba c r):Vz F0 c r=some ((ask c r).1,(ask c r).2,()):=by have hv:=h.view;have hq:=(gm h.f.s).2.2.1;have hp4:Ui (fA RI (Uk r.2.2.2.1.2.2.1.2.1)):=Ix Lg;have hB:=ae5 (c:=c) (q:=r.2.2.2.1.2.2.1) hq (view:=r.2.1) ⟨by omega,by omega⟩ (l:=ahI r) (by have:=ap1 r;omega);have hT:pL F0 r.2.2.2.2.1 (fA RI (Uk r.2.2.2.1.2.2.1.2.1))=some (ahI r,()):=av5 h.l.p hp4;have hq2:uN r.2.2.2.1.2.2.1:=h.l.s.1;rw[axu,iS h.l,ai,h.ok,aL,aa,KZ,ai,R3 h.l.t h.l.tq,ai,abI,ai,aaq,ai,aye hq2.1,ai,apg Lg (cN (AI _) (by omega))];simp only[ai,hT,hB];unfold ask aC8 NR;rw[X2,X2,aG0];cases decide (cF c r.2.1=r.1)<;>cases decide (r.2.2.1>=r.2.1)<;>cases decide (r.2.2.2.1.2.2.1.1=aj (r.2.1-1))<;>cases decide (((ei r.2.2.2.2.2.1 r.2.1 al).2.2.length:Int)>=KX c)<;>rfl
theorem ap2 {c:Int×Int}{r:aD}(h:arH r)(view:Int):tk F0 c r view=some (NR c r.2.2.2.2.2.1 view,()):=by rw[avj,aaw h.t h.tq,ai,ajc,ai];rfl
theorem aG1 {c:Int×Int}{r:aD}(h:ba c r):aep F0 c r=some ((ask c r).1,(ask c r).2,()):=by have hv:=h.view;have hq:=(gm h.f.s).2.2.1;have hp4:Ui (fA RI (Uk r.2.2.2.1.2.2.1.2.1)):=Ix Lg;have hB:=arU (c:=c) (q:=r.2.2.2.1.2.2.1) hq (view:=r.2.1) ⟨by omega,by omega⟩ (l:=ahI r) (ap1 r);have hT:pU F0 r.2.2.2.2.1 (fA RI (Uk r.2.2.2.1.2.2.1.2.1))=some (ahI r,()):=arR h.l.p hp4;have hq2:uN r.2.2.2.1.2.2.1:=h.l.s.1;rw[axF,eW h.l,ai,h.ok,aL,aa,IZ,ai,ap2 h.l,ai,KV,ai,ahu hq2.1,ai,W7 Lg (cN (AI _) (by omega))];simp only[ai,hT,hB];unfold ask aC8;rw[X2,X2];cases decide (cF c r.2.1=r.1)<;>cases decide (r.2.2.1>=r.2.1)<;>cases decide (r.2.2.2.1.2.2.1.1=aj (r.2.1-1))<;>cases NR c r.2.2.2.2.2.1 r.2.1<;>rfl
theorem aG2 {c:Int×Int}{r:aD}(h:(ask c r).2=true):aC8 c r=true/\gC c (ask c r).1=true/\bA (ask c r).1.1.data.toList=r.2.1/\(ask c r).1.2=r.2.2.2.1.2.2.1:=by
 unfold ask at h ⊢;split at h
 ·rename_i hh;rw[ak hh];exact⟨hh,ayG h⟩
 ·cases h
def ae6 (r:aD):aD:=(r.1,r.2.1,r.2.2.1,r.2.2.2.1,r.2.2.2.2.1,r.2.2.2.2.2.1,uP r.2.2.2.2.2.2.1,[])
theorem ayH {c:Int×Int}{r:aD}(h:ba c r):HO F0 c r=some (ae6 r,r.2.2.2.2.2.2.2,()):=by rw[akC,eJ h.bt,ai,iS h.l,ai,h.ok,aL,aa,aGV h.bt.d.1,ai,aeT h.l.h h.l.hm,ai];rfl
theorem awb {c:Int×Int}{r:aD}(h:ba c r):H6 F0 c r=some (ae6 r,r.2.2.2.2.2.2.2,()):=by rw[ak1,eK h.bt,ai,eW h.l,ai,h.ok,aL,aa,aEw h.bt.d.1,ai];rfl
theorem ayI {d:tQ}(h:gx d=true):gx (uP d)=true:=by unfold uP;rw[ak h];have:=ee.1 h;exact ee.2 ⟨this.1,by dsimp only;omega,by dsimp only;omega⟩
theorem awc (d:tQ):(uP d).1=d.1:=by unfold uP;split<;>rfl
theorem ba.ae6 {c:Int×Int}{r:aD}(h:ba c r):ba c (ae6 r) :=
 ⟨⟨h.f.cf,h.f.i,h.f.v,h.f.a,h.f.s,h.f.p,h.f.t,ayI h.f.d,aX _,fun x hx=>by cases hx⟩,by show ∀x∈(uP r.2.2.2.2.2.2.1).1,_;rw[awc];exact h.b⟩
def mi (r:aD)(v:Int):aD:=(r.1,v,r.2.2)
def gR (r:aD)(t:List dp):aD:=(r.1,r.2.1,r.2.2.1,r.2.2.2.1,r.2.2.2.2.1,t,r.2.2.2.2.2.2)
theorem ba.mi {c:Int×Int}{r:aD}(h:ba c r){v:Int}(h1:1<=v)(h2:v<=60):ba c (mi r v) :=
 ⟨⟨h.f.cf,h.f.i,by show iG 1 60 v=true;simp[iG,h1,h2],h.f.a,h.f.s,h.f.p,h.f.t,h.f.d,h.f.n,h.f.h⟩,h.b⟩
theorem ba.gR {c:Int×Int}{r:aD}(h:ba c r){t:List dp}(ht:fz c t=true):ba c (gR r t) :=
 ⟨⟨h.f.cf,h.f.i,h.f.v,h.f.a,h.f.s,h.f.p,ht,h.f.d,h.f.n,h.f.h⟩,h.b⟩
theorem pX {c:Int×Int}{l:List dp}(h:fz c l=true)(p:dp):fz c (bM c l p).1=true:=by
 unfold bM;split
 ·rename_i hh;exact hh.2
 ·exact h
def one (v:Int)(name:ByteArray)(i:Int):dp:=(v,name,[i])
def NS (c:Int×Int)(r:aD):aD×Bool :=
 if r.2.1>=60 then (r,false)
 else if cF c (aj (r.2.1+1))=r.1 then
  if (bM c r.2.2.2.2.2.1 (one (aj (r.2.1+1)) al r.1)).2=true then (gR (mi r (aj (r.2.1+1))) (bM c r.2.2.2.2.2.1 (one (aj (r.2.1+1)) al r.1)).1,true) else (r,false)
 else if (pC c (mi r (aj (r.2.1+1))) (cF c (aj (r.2.1+1))) (mh (aj (r.2.1+1)) r.2.2.2.1.2.2.1 r.1)).2=true then ((pC c (mi r (aj (r.2.1+1))) (cF c (aj (r.2.1+1))) (mh (aj (r.2.1+1)) r.2.2.2.1.2.2.1 r.1)).1,true) else (r,false)
theorem aG3 {c:Int×Int}{r:aD}(h:ba c r):XF F0 c r=some ((NS c r).1,(NS c r).2,()):=by
 have hv:=h.view;have hq:=(gm h.f.s).2.2.1;have hT:fO F0 c r.2.2.2.2.2.1 (aj (r.2.1+1),al,[r.1])=some ((bM c r.2.2.2.2.2.1 (one (aj (r.2.1+1)) al r.1)).1,(bM c r.2.2.2.2.2.1 (one (aj (r.2.1+1)) al r.1)).2,()):=IH (wI h.f.t) ⟨aX _,by show 1<=1000;omega⟩ c;have ht:fZ F0 c (r.1,aj (r.2.1+1),r.2.2) (cF c (aj (r.2.1+1))) (3,aj (r.2.1+1),(al,0,al,[]),(0,al,[]),r.2.2.2.1.2.2.1,r.1,0,0,0,0)=some (((pC c (mi r (aj (r.2.1+1))) (cF c (aj (r.2.1+1))) (mh (aj (r.2.1+1)) r.2.2.2.1.2.2.1 r.1)).1,(pC c (mi r (aj (r.2.1+1))) (cF c (aj (r.2.1+1))) (mh (aj (r.2.1+1)) r.2.2.2.1.2.2.1 r.1)).2,()),()) :=
  NQ (r:=mi r (aj (r.2.1+1))) h.l.h (QN h.l.s.1 r.1) c _
 rw[auZ,eJ h.bt,ai,iS h.l,ai,h.ok,aL,aa,KZ,ai];simp only[ai,hT,ht];unfold NS;by_cases h1:r.2.1>=60
 ·rw[ak h1,aM h1,af]
 ·rw[ah h1,aQ h1,aa];by_cases h2:cF c (aj (r.2.1+1))=r.1
  ·rw[ak h2,bC.2 h2,af];cases (bM c r.2.2.2.2.2.1 (one (aj (r.2.1+1)) al r.1)).2<;>rfl
  ·rw[ah h2,cj.2 h2,aa];cases (pC c (mi r (aj (r.2.1+1))) (cF c (aj (r.2.1+1))) (mh (aj (r.2.1+1)) r.2.2.2.1.2.2.1 r.1)).2<;>rfl
theorem aED {c:Int×Int}{r:aD}(h:ba c r):XM F0 c r=some ((NS c r).1,(NS c r).2,()):=by
 have hv:=h.view;have hT:fp F0 c r.2.2.2.2.2.1 (aj (r.2.1+1),al,[r.1])=some ((bM c r.2.2.2.2.2.1 (one (aj (r.2.1+1)) al r.1)).1,(bM c r.2.2.2.2.2.1 (one (aj (r.2.1+1)) al r.1)).2,()):=DW (wI h.f.t) ⟨aX _,by show 1<=1000;omega⟩ c;rw[avl,eK h.bt,ai,eW h.l,ai,h.ok,aL,aa];unfold NS;by_cases h1:r.2.1>=60
 ·rw[ak h1,bC.2 (show r.2.1=60 by omega),af]
 ·have hw:aj (r.2.1+1)=r.2.1+1:=aI (by omega) (by omega);have ht:nv F0 c (r.1,aj (r.2.1+1),r.2.2) (cF c (aj (r.2.1+1))) (3,aj (r.2.1+1),(al,0,al,[]),(0,al,[]),r.2.2.2.1.2.2.1,r.1,0,0,0,0)=some ((pC c (mi r (aj (r.2.1+1))) (cF c (aj (r.2.1+1))) (mh (aj (r.2.1+1)) r.2.2.2.1.2.2.1 r.1)).1,(pC c (mi r (aj (r.2.1+1))) (cF c (aj (r.2.1+1))) (mh (aj (r.2.1+1)) r.2.2.2.1.2.2.1 r.1)).2,()) :=
   X1 (h.mi (v:=aj (r.2.1+1)) (by omega) (by omega)) (QN h.l.s.1 r.1) _
  rw[ah h1,cj.2 (show r.2.1≠60 by omega),aa];simp only[ai,hT,ht,IZ];by_cases h2:cF c (aj (r.2.1+1))=r.1
  ·rw[ak h2,bC.2 h2,af];cases (bM c r.2.2.2.2.2.1 (one (aj (r.2.1+1)) al r.1)).2<;>rfl
  ·rw[ah h2,cj.2 h2,aa];cases (pC c (mi r (aj (r.2.1+1))) (cF c (aj (r.2.1+1))) (mh (aj (r.2.1+1)) r.2.2.2.1.2.2.1 r.1)).2<;>rfl
theorem ba.aMI {c:Int×Int}{r:aD}(h:ba c r):ba c (NS c r).1:=by
 have hv:=h.view;unfold NS;split
 ·exact h
 ·rename_i h1;have hw:aj (r.2.1+1)=r.2.1+1:=aI (by omega) (by omega);have hs:=h.mi (v:=aj (r.2.1+1)) (by omega) (by omega);split
  ·split
   ·exact hs.gR (pX h.f.t _)
   ·exact h
  ·split
   ·exact hs.told _ _
   ·exact h
def Cn (c:Int×Int)(r:aD)(m:da):Nat->Nat->aD->aD×Bool
 |0,_,o=>(o,true)
 |j+1,k,o=>if (k:Int)=r.1 then Cn c r m j (k+1) o else if (pC c o (k:Int) m).2=true then Cn c r m j (k+1) (pC c o (k:Int) m).1 else (r,false)
def X3 (c:Int×Int)(r:aD)(m:da):aD×Bool:=Cn c r m c.1.toNat 0 r
theorem ap3 {c:Int×Int}{r:aD}(h:ba c r)(m:da):∀(j k:Nat) (o:aD),ba c o->ba c (Cn c r m j k o).1
 |0,_,_,ho=>ho
 |j+1,k,o,ho=>by
  unfold Cn;split
  ·exact ap3 h m j (k+1) o ho
  ·split
   ·exact ap3 h m j (k+1) _ (ho.told _ _)
   ·exact h
theorem ba.aIP {c:Int×Int}{r:aD}(h:ba c r)(m:da):ba c (X3 c r m).1:=ap3 h m _ _ _ h
theorem ahJ {c:Int×Int}{r:aD}(h:ba c r){m:da}(hm:gy m):∀(j k:Nat) (z:aD) (n:Nat),(k:Int)+j=c.1->ba c z->j<n->c.1<=100 ->
  rm F0 (sJ F0) n (mU (k:Int) c.1 c.2 r.1 r.2.1 r.2.2.1 r.2.2.2.1.1 r.2.2.2.1.2.1 r.2.2.2.1.2.2.1.1 r.2.2.2.1.2.2.1.2.1 r.2.2.2.1.2.2.1.2.2 r.2.2.2.1.2.2.2 r.2.2.2.2.1 r.2.2.2.2.2.1 r.2.2.2.2.2.2.1.1 r.2.2.2.2.2.2.1.2 r.2.2.2.2.2.2.2 m.1 m.2.1 m.2.2.1.1 m.2.2.1.2.1 m.2.2.1.2.2.1 m.2.2.1.2.2.2 m.2.2.2.1.1 m.2.2.2.1.2.1 m.2.2.2.1.2.2 m.2.2.2.2.1.1 m.2.2.2.2.1.2.1 m.2.2.2.2.1.2.2 m.2.2.2.2.2.1 m.2.2.2.2.2.2.1 m.2.2.2.2.2.2.2.1 m.2.2.2.2.2.2.2.2.1 m.2.2.2.2.2.2.2.2.2 0 0 0 0 0 0 al al 0 z.1 z.2.1 z.2.2.1 z.2.2.2.1.1 z.2.2.2.1.2.1 z.2.2.2.1.2.2.1.1 z.2.2.2.1.2.2.1.2.1 z.2.2.2.1.2.2.2 z.2.2.2.2.2.2.1.2 [] [] [] [] [] z.2.2.2.1.2.2.1.2.2 z.2.2.2.2.1 z.2.2.2.2.2.1 z.2.2.2.2.2.2.1.1 z.2.2.2.2.2.2.2)
   = some ((Cn c r m j k z).1,(Cn c r m j k z).2,())
 |0,k,z,n+1,hk,hz,hn,hc=>by rw[Gy,aQ (show ¬(k:Int)<c.1 by omega),aa,abj];rfl
 |j+1,k,z,n+1,hk,hz,hn,hc=>by
  have ht:=NQ (r:=z) hz.l.h hm c (k:Int);have hcp:=eJ h.bt;rw[Gy,aM (show(k:Int)<c.1 by omega),af,show((c.1,c.2):Int×Int)=c from rfl];refine Bl (AT (fun x=>br ((k:Int)==r.1) _ (Option.bind x _)) ht) ?_;rw[ai];dsimp only;unfold Cn;by_cases h1:(k:Int)=r.1
  ·rw[ak h1,bC.2 h1,af,ao (by omega)];exact ahJ h hm j (k+1) z n (by omega) hz (by omega) hc
  ·rw[ah h1,cj.2 h1,aa];cases h2:(pC c z (k:Int) m).2 with
   |true =>
    rw[aL,aa,ak rfl,ao (by omega)];exact ahJ h hm j (k+1) _ n (by omega) (hz.told _ _) (by omega) hc
   |false =>
    rw[eX,af,ah (by decide)];refine Bl (AT (fun x=>Option.bind x _) hcp) ?_;rw[ai,adE]
theorem ayJ {c:Int×Int}{r:aD}(h:ba c r){m:da}(hm:gy m):zq F0 c r m=some ((X3 c r m).1,(X3 c r m).2,()):=by have hn:=cP h.f.cf;rw[akA,eJ h.bt,ai,iS h.l,ai,h.ok,aL,aa];exact ahJ h hm c.1.toNat 0 r F0.n (by omega) h (by rw[bT];omega) (by omega)
theorem ab4 {c:Int×Int}{r:aD}(h:ba c r){m:da}(hm:gy m):∀(j k:Nat) (z:aD) (n:Nat),(k:Int)+j=c.1->ba c z->j<n->c.1<=100 ->
  rN F0 (tB F0) n (ny (k:Int) c.1 c.2 r.1 r.2.1 r.2.2.1 r.2.2.2.1.1 r.2.2.2.1.2.1 r.2.2.2.1.2.2.1.1 r.2.2.2.1.2.2.1.2.1 r.2.2.2.1.2.2.1.2.2 r.2.2.2.1.2.2.2 r.2.2.2.2.1 r.2.2.2.2.2.1 r.2.2.2.2.2.2.1.1 r.2.2.2.2.2.2.1.2 r.2.2.2.2.2.2.2 m.1 m.2.1 m.2.2.1.1 m.2.2.1.2.1 m.2.2.1.2.2.1 m.2.2.1.2.2.2 m.2.2.2.1.1 m.2.2.2.1.2.1 m.2.2.2.1.2.2 m.2.2.2.2.1.1 m.2.2.2.2.1.2.1 m.2.2.2.2.1.2.2 m.2.2.2.2.2.1 m.2.2.2.2.2.2.1 m.2.2.2.2.2.2.2.1 m.2.2.2.2.2.2.2.2.1 m.2.2.2.2.2.2.2.2.2 0 0 0 0 0 0 al al 0 z.1 z.2.1 z.2.2.1 z.2.2.2.1.1 z.2.2.2.1.2.1 z.2.2.2.1.2.2.1.1 z.2.2.2.1.2.2.1.2.1 z.2.2.2.1.2.2.2 z.2.2.2.2.2.2.1.2 [] [] [] [] [] z.2.2.2.1.2.2.1.2.2 z.2.2.2.2.1 z.2.2.2.2.2.1 z.2.2.2.2.2.2.1.1 z.2.2.2.2.2.2.2)
   = some ((Cn c r m j k z).1,(Cn c r m j k z).2,())
 |0,k,z,n+1,hk,hz,hn,hc=>by rw[GY,aQ (show ¬(k:Int)<c.1 by omega),aa,abD];rfl
 |j+1,k,z,n+1,hk,hz,hn,hc=>by
  have ht:=X1 hz hm (k:Int);have hcp:=eK h.bt;rw[GY,aM (show(k:Int)<c.1 by omega),af,show((c.1,c.2):Int×Int)=c from rfl];refine Bl (AT (fun x=>br ((k:Int)==r.1) _ (Option.bind x _)) ht) ?_;rw[ai];dsimp only;unfold Cn;by_cases h1:(k:Int)=r.1
  ·rw[ak h1,bC.2 h1,af,ao (by omega)];exact ab4 h hm j (k+1) z n (by omega) hz (by omega) hc
  ·rw[ah h1,cj.2 h1,aa];cases h2:(pC c z (k:Int) m).2 with
   |true =>
    rw[aL,aa,ak rfl,ao (by omega)];exact ab4 h hm j (k+1) _ n (by omega) (hz.told _ _) (by omega) hc
   |false =>
    rw[eX,af,ah (by decide)];refine Bl (AT (fun x=>Option.bind x _) hcp) ?_;rw[ai,aer]
theorem awd {c:Int×Int}{r:aD}(h:ba c r){m:da}(hm:gy m):Az F0 c r m=some ((X3 c r m).1,(X3 c r m).2,()):=by have hn:=cP h.f.cf;rw[alp,eK h.bt,ai,eW h.l,ai,h.ok,aL,aa];exact ab4 h hm c.1.toNat 0 r F0.n (by omega) h (by rw[bT];omega) (by omega)
theorem ae7 {α:Type}{d:α}{p:α->Bool}{q:α->α->Bool}(tr:∀a b c,q a b=true->q b c=true->q a c=true){l:List α}(h:W0 d p q l=true)(f:α->Bool):W0 d p q (l.filter f)=true:=by
 rw[ahD]at h ⊢;have hp:l.Pairwise fun a b=>q a b=true:=List.pairwise_iff_getElem.2 fun i j hi hj hij=>av3 tr h.2 j hij hj
 have hf:=hp.filter f;refine⟨fun k hk=>?_,fun k hk=>List.pairwise_iff_getElem.1 hf k (k+1) (by omega) hk (by omega)⟩;have hm:=(List.mem_filter.1 (di hk)).1;obtain⟨i,hi,he⟩:=ahS hm;rw[<-he];exact h.1 i hi
theorem ap4:∀{a b c:List UInt8},Op.bytesLess a b=true->Op.bytesLess b c=true->Op.bytesLess a c=true
 |[],[],_,h,_=>by cases h
 |_::_,[],_,h,_=>by cases h
 |_,_::_,[],_,h=>by cases h
 |[],_::_,_::_,_,_=>rfl
 |x::a,y::b,z::c,h1,h2=>by
  simp only[Op.bytesLess,mn,aJ,cD,bC]at h1 h2 ⊢;rcases h1 with h1|⟨rfl,h1⟩
  ·rcases h2 with h2|⟨rfl,h2⟩
   ·exact .inl (UInt8.lt_trans h1 h2)
   ·exact .inl h1
  ·rcases h2 with h2|⟨rfl,h2⟩
   ·exact .inl h2
   ·exact .inr ⟨rfl,ap4 h1 h2⟩
theorem arV (a b c:dp)(h1:gk a b=true)(h2:gk b c=true):gk a c=true:=by
 simp only[gk,mn,aJ,cD,bC]at *;rcases h1 with h1|⟨e1,h1⟩
 ·rcases h2 with h2|⟨e2,h2⟩
  ·exact .inl (by omega)
  ·exact .inl (by omega)
 ·rcases h2 with h2|⟨e2,h2⟩
  ·exact .inl (by omega)
  ·exact .inr ⟨by omega,ap4 h1 h2⟩
theorem ap5 {c:Int×Int}{l:List dp}(h:fz c l=true)(f:dp->Bool):fz c (l.filter f)=true:=by simp only[fz,aJ,cD]at h ⊢;have:=awz f l;exact⟨ae7 arV h.1 f,by omega⟩
theorem arW {l:List eO}(h:fK l=true)(f:eO->Bool):fK (l.filter f)=true:=by simp only[fK,aJ,cD]at h ⊢;have:=awz f l;exact⟨ae7 (q:=fN) (fun a b c h1 h2=>NP h1 h2) h.1 f,by omega⟩
theorem aA7 {l:List eO}(h:fK l=true)(x:eO):fK (mg l x).1=true:=by
 unfold mg;split
 ·rename_i hh;exact hh
 ·exact h
def qK (b:dr):Int:=bA b.1.data.toList
def own (c:Int×Int)(r:aD)(name:ByteArray):aD×Bool :=
 if (bM c r.2.2.2.2.2.1 (one (bA name.data.toList) name r.1)).2=true then ((iI c (gR r (bM c r.2.2.2.2.2.1 (one (bA name.data.toList) name r.1)).1) (bA name.data.toList) name false).1,true) else (r,false)
theorem aIQ {c:Int×Int}{r:aD}{ue:Int}{m:da}(h:(pC c r ue m).2=false):(pC c r ue m).1=r:=by
 unfold pC at h ⊢;cases ht:Xh c r ue m with
 |true=>rw[ht,ak rfl]at h;cases h
 |false=>rfl
theorem ayK {c:Int×Int}{r:aD}{view:Int}{name:ByteArray}{push:Bool}(h:(iI c r view name push).2=false):(iI c r view name push).1=r:=by
 by_cases h1:(ei r.2.2.2.2.2.1 view name).2.2.length=0\/ec name=true
 ·rw[ae2 rfl h1]
 ·by_cases h3:cF c view=r.1
  ·by_cases h4:Xi c (ei r.2.2.2.2.2.1 view name)=true/\(xM c r (ei r.2.2.2.2.2.1 view name)).2=true
   ·rw[av8 rfl h1 h3 h4]at h;cases h
   ·rw[ae3 rfl h1 h3 h4]
  ·by_cases h4:push=false/\cmn (ei r.2.2.2.2.2.1 view name).2.2 (eu c view r.1)<(eu c view r.1).length
   ·rw[av9 rfl h1 h3 h4]
   ·rw[ae4 rfl h1 h3 h4]at h ⊢;exact aIQ h
theorem ba.owned {c:Int×Int}{r:aD}(h:ba c r)(name:ByteArray):ba c (own c r name).1:=by
 unfold own;split
 ·exact(h.gR (pX h.f.t _)).awa _ _ _
 ·exact h
theorem aA8 {c:Int×Int}{r:aD}(h:ba c r){name:ByteArray}(hn:name.size<=1048576):nS F0 c r name=some (((own c r name).1,(own c r name).2,()),()):=by
 have hT:fO F0 c r.2.2.2.2.2.1 (bA name.data.toList,name,[r.1])=some ((bM c r.2.2.2.2.2.1 (one (bA name.data.toList) name r.1)).1,(bM c r.2.2.2.2.2.1 (one (bA name.data.toList) name r.1)).2,()):=IH (wI h.f.t) ⟨hn,by show 1<=1000;omega⟩ c;have hg:=h.gR (pX h.f.t (one (bA name.data.toList) name r.1));have hc:bj F0 (r.1,r.2.1,r.2.2.1,r.2.2.2.1,r.2.2.2.2.1,(bM c r.2.2.2.2.2.1 (one (bA name.data.toList) name r.1)).1,r.2.2.2.2.2.2)=some (gR r (bM c r.2.2.2.2.2.1 (one (bA name.data.toList) name r.1)).1,()):=eJ hg.bt;obtain⟨x,hx,hx2⟩:=R7 hg (bA name.data.toList) hn false;rw[anO,pV hn];simp only[ai,hT,hc,hx,pV hn];unfold own;cases h1:(bM c r.2.2.2.2.2.1 (one (bA name.data.toList) name r.1)).2 with
 |false=>rfl
 |true =>
  rw[ak rfl,aL,aa];cases h2:(iI c (gR r (bM c r.2.2.2.2.2.1 (one (bA name.data.toList) name r.1)).1) (bA name.data.toList) name false).2 with
  |true=>rw[hx2 h2];rfl
  |false=>rw[ayK h2];rfl
def pD (r:aD)(b:dr):aD:=if qK b>=r.2.1 then mi r (qK b) else r
def qL (c:Int×Int)(r:aD)(b:dr):Bool:=decide (qK b>=r.2.1)&&oU c (see c r.2.2.2.1 b.2) b
def Co (c:Int×Int)(r:aD)(b:dr):ct:=if qL c r b=true then (qK b,(see c r.2.2.2.1 b.2).2) else see c r.2.2.2.1 b.2
def G7 (c:Int×Int)(r:aD)(b:dr)(QP:Bool)(W:aD×Bool):aD×Bool :=
 if W.2=true then (if QP=true then (if (own c W.1 b.1).2=true then ((own c W.1 b.1).1,true) else (r,false)) else (W.1,true)) else (r,false)
def jX (c:Int×Int)(r:aD)(b:dr):aD×Bool:=G7 c r b (qL c r b) (nI c (pD r b) (Co c r b))
theorem ba.pD {c:Int×Int}{r:aD}(h:ba c r)(b:dr):ba c (pD r b):=by
 unfold Tryz.pD;have:=h.view;have hv:=QI b.1.data.toList;split
 ·exact h.mi (by unfold qK at *;omega) (by unfold qK at *;omega)
 ·exact h
theorem ayL {c:Int×Int}{r:aD}(h:ba c r)(b:dr):nD (Co c r b):=by
 have:=apZ h b.2;unfold Co;split
 ·exact this
 ·exact this
theorem ba.G7 {c:Int×Int}{r:aD}(h:ba c r)(b:dr)(QP:Bool){W:aD×Bool}(hw:ba c W.1):ba c (G7 c r b QP W).1:=by
 unfold Tryz.G7;split
 ·split
  ·split
   ·exact hw.owned _
   ·exact h
  ·exact hw
 ·exact h
theorem ba.ap6 {c:Int×Int}{r:aD}(h:ba c r)(b:dr):ba c (jX c r b).1:=h.G7 b _ ((h.pD b).wrote _)
theorem aA9 {c:Int×Int}{r:aD}{b:dr}(hb1:b.1.size<=1048576)(QP:Bool){W:aD×Bool}(hw:ba c W.1)(x:aD) :
  ((some (if W.2=true then (W.1,true,ajh) else (ajh,false,x)):Option (aD×Bool×aD)).bind fun XB=>br XB.2.1 (br QP ((nS F0 c XB.1 b.1).bind fun r80=>br (!r80.1.2.1) (some (r,false,())) (some (r80.1.1,true,()))) (some (XB.1,true,()))) (some (r,false,())))=some ((G7 c r b QP W).1,(G7 c r b QP W).2,()):=by
 have hO:=aA8 hw hb1;obtain⟨W1,W2⟩:=W;unfold G7;cases W2 with
 |false=>rfl
 |true =>
  cases QP with
  |false=>rfl
  |true =>
   dsimp only at hO ⊢;rw[ak rfl,ak rfl,ak rfl,ai];dsimp only;rw[af,af,hO,ai];cases h:(own c W1 b.1).2<;>rfl
theorem ayM {c:Int×Int}{s:ct}{b:dr}(h:oU c s b=true):ayv c s b=((qK b,s.2),true):=ak h
theorem aIR {c:Int×Int}{s:ct}{b:dr}(h:oU c s b=false):ayv c s b=(s,false):=ah (by rw[h];decide)
theorem aG4 {c:Int×Int}{r:aD}{b:dr}(h1:qK b>=r.2.1)(h2:oU c (see c r.2.2.2.1 b.2) b=true):qL c r b=true/\Co c r b=(qK b,(see c r.2.2.2.1 b.2).2):=by
 have:qL c r b=true:=by unfold qL;rw[aM h1,h2];rfl
 exact⟨this,ak this⟩
theorem aDa {c:Int×Int}{r:aD}{b:dr}(h:¬(qK b>=r.2.1/\oU c (see c r.2.2.2.1 b.2) b=true)):qL c r b=false/\Co c r b=see c r.2.2.2.1 b.2:=by
 have:qL c r b=false:=by
  unfold qL;by_cases h1:qK b>=r.2.1
  ·cases h2:oU c (see c r.2.2.2.1 b.2) b with
   |true=>exact absurd ⟨h1,h2⟩ h
   |false=>rw[ahX]
  ·rw[aQ h1];rfl
 exact⟨this,ah (by rw[this];decide)⟩
theorem aaz {c:Int×Int}{r:aD}(h:ba c r){b:dr}(hb:gC c b=true):rf F0 c r b=some ((jX c r b).1,(jX c r b).2,()):=by
 obtain⟨hb1,hb2⟩:=I3 hb;have hsl:=apZ h b.2;have hM:=ajp (c:=c) hsl hb1 hb2;have hV:=aGU (c:=c) hsl hb1 hb2;have hW:=R6 (h.pD b) (ayL h b);have hw:ba c (nI c (pD r b) (Co c r b)).1:=(h.pD b).wrote _;have aAr:=aA9 (r:=r) hb1 (qL c r b) hw (pD r b);rw[adw,eJ h.bt,ai,iS h.l,ai,h.ok,aL,aa,ND hb1 hb2,ai,hb,aL,aa,av0 h.l.s hb2,pV hb1];simp only[ai,hM,hV];rw[show bA b.1.data.toList=qK b from rfl];show _=some ((G7 c r b (qL c r b) (nI c (pD r b) (Co c r b))).1,(G7 c r b (qL c r b) (nI c (pD r b) (Co c r b))).2,());rw[<-aAr,<-hW];by_cases h1:qK b>=r.2.1
 ·have hr:pD r b=(r.1,qK b,r.2.2):=ak h1;rw[aM h1,af,af];cases h2:oU c (see c r.2.2.2.1 b.2) b with
  |true =>
   obtain⟨e1,e2⟩:=aG4 h1 h2;rw[e1,e2,hr,ayM h2,af]
  |false =>
   obtain⟨e1,e2⟩:=aDa (c:=c) (r:=r) (b:=b) (fun hh=>by rw[h2]at hh;cases hh.2);rw[e1,e2,hr,aa]
 ·have hr:pD r b=r:=ah h1;obtain⟨e1,e2⟩:=aDa (c:=c) (r:=r) (b:=b) (fun hh=>h1 hh.1);rw[aQ h1,aa,aa,e1,e2,hr];rfl
theorem aBa {c:Int×Int}{r:aD}{b:dr}(hb1:b.1.size<=1048576)(QP:Bool){W:aD×Bool}(hw:ba c W.1)(hid:W.1.1=r.1) :
  br (!W.2) (some (r,false,())) (br (!QP) (some (W.1,true,())) ((fp F0 c W.1.2.2.2.2.2.1 (qK b,b.1,[r.1])).bind fun r74=>br (!r74.2.1) (some (r,false,())) ((oL F0 c (W.1.1,W.1.2.1,W.1.2.2.1,W.1.2.2.2.1,W.1.2.2.2.2.1,r74.1,W.1.2.2.2.2.2.2) (qK b) b.1 false).bind fun r88=>some (r88.1,true,()))))=some ((G7 c r b QP W).1,(G7 c r b QP W).2,()):=by
 obtain⟨W1,W2⟩:=W;dsimp only at hw hid ⊢;unfold G7;cases W2 with
 |false=>rfl
 |true =>
  cases QP with
  |false=>rfl
  |true =>
   have hT:fp F0 c W1.2.2.2.2.2.1 (qK b,b.1,[r.1])=some ((bM c W1.2.2.2.2.2.1 (one (bA b.1.data.toList) b.1 W1.1)).1,(bM c W1.2.2.2.2.2.1 (one (bA b.1.data.toList) b.1 W1.1)).2,()):=by rw[hid];exact DW (wI hw.f.t) ⟨hb1,by show 1<=1000;omega⟩ c
   have hg:=hw.gR (pX hw.f.t (one (bA b.1.data.toList) b.1 W1.1));have hC:=ab3 hg (qK b) hb1 false;have hC':oL F0 c (W1.1,W1.2.1,W1.2.2.1,W1.2.2.2.1,W1.2.2.2.2.1,(bM c W1.2.2.2.2.2.1 (one (bA b.1.data.toList) b.1 W1.1)).1,W1.2.2.2.2.2.2) (qK b) b.1 false=some ((iI c (gR W1 (bM c W1.2.2.2.2.2.1 (one (bA b.1.data.toList) b.1 W1.1)).1) (qK b) b.1 false).1,(iI c (gR W1 (bM c W1.2.2.2.2.2.1 (one (bA b.1.data.toList) b.1 W1.1)).1) (qK b) b.1 false).2,()):=hC;rw[hT,ai,ak rfl,ak rfl];unfold own;dsimp only;cases h4:(bM c W1.2.2.2.2.2.1 (one (bA b.1.data.toList) b.1 W1.1)).2 with
   |false=>rfl
   |true =>
    rw[hC',ai];rfl
theorem Xj {c:Int×Int}{r:aD}(h:ba c r){b:dr}(hb:gC c b=true):rJ F0 c r b=some ((jX c r b).1,(jX c r b).2,()):=by
 obtain⟨hb1,hb2⟩:=I3 hb;have hsl:=apZ h b.2;have hV:=aEv (c:=c) hsl hb1 hb2;have hW:=ab1 (h.pD b) (ayL h b);have hw:ba c (nI c (pD r b) (Co c r b)).1:=(h.pD b).wrote _;have hid:(nI c (pD r b) (Co c r b)).1.1=r.1:=by rw[ae1];unfold pD;split<;>rfl
 have aAr:=aBa (r:=r) hb1 (qL c r b) hw hid;rw[aec,eW h.l,ai,h.ok,aL,aa,Iz hb1 hb2,ai,hb,aL,aa,apP h.l.s hb2,rQ hb1,eK h.bt];simp only[ai,hV];rw[show bA b.1.data.toList=qK b from rfl];show _=some ((G7 c r b (qL c r b) (nI c (pD r b) (Co c r b))).1,(G7 c r b (qL c r b) (nI c (pD r b) (Co c r b))).2,());rw[<-aAr];by_cases h1:qK b>=r.2.1
 ·have hr:pD r b=(r.1,qK b,r.2.2):=ak h1;rw[aM h1,af];cases h2:oU c (see c r.2.2.2.1 b.2) b with
  |true =>
   obtain⟨e1,e2⟩:=aG4 h1 h2;rw[hr,e2]at hW;rw[e1,e2,hr,ayM h2];dsimp only;rw[hW,ai]
  |false =>
   obtain⟨e1,e2⟩:=aDa (c:=c) (r:=r) (b:=b) (fun hh=>by rw[h2]at hh;cases hh.2);rw[hr,e2]at hW;rw[e1,e2,hr,aIR h2];dsimp only;rw[hW,ai]
 ·have hr:pD r b=r:=ah h1;obtain⟨e1,e2⟩:=aDa (c:=c) (r:=r) (b:=b) (fun hh=>h1 hh.1);rw[hr,e2]at hW;rw[aQ h1,aa,e1,e2,hr,hW,ai];rfl
def aKI (r:aD)(p:dp):Bool:= !ec p.2.1&& !decide (p.1<r.2.1)
def pE (c:Int×Int)(r:aD)(p:dp):aD×Bool :=
 if aKI r p=true/\(bM c r.2.2.2.2.2.1 p).2=true then ((iI c (gR r (bM c r.2.2.2.2.2.1 p).1) p.1 p.2.1 false).1,true) else (r,false)
theorem ba.aEE {c:Int×Int}{r:aD}(h:ba c r)(p:dp):ba c (pE c r p).1:=by
 unfold pE;split
 ·exact(h.gR (pX h.f.t _)).awa _ _ _
 ·exact h
theorem aG5 {c:Int×Int}{p:dp}(h:jg c p=true):uN p:=⟨(E7 h).1,by have:=(E7 h).2;omega⟩
theorem awe {c:Int×Int}{r:aD}(h:ba c r){p:dp}(hp:jg c p=true):C8 F0 c r p=some ((pE c r p).1,(pE c r p).2,()):=by
 have hT:=IH (wI h.f.t) (E7 hp) c;have hg:=h.gR (pX h.f.t p);have hc:bj F0 (r.1,r.2.1,r.2.2.1,r.2.2.2.1,r.2.2.2.2.1,(bM c r.2.2.2.2.2.1 p).1,r.2.2.2.2.2.2)=some (gR r (bM c r.2.2.2.2.2.1 p).1,()):=eJ hg.bt;obtain⟨x,hx,hx2⟩:=R7 hg p.1 (E7 hp).1 false;rw[age,eJ h.bt,ai,iS h.l,ai,h.ok,aL,aa,RP (aG5 hp),ai,hp,aL,aa];simp only[ai,hT,hc,hx];unfold pE aKI ec;cases (p.2.1.toList==al.toList)<;>cases decide (p.1<r.2.1)
 ·cases h1:(bM c r.2.2.2.2.2.1 p).2 with
  |false=>rfl
  |true =>
   rw[ak ⟨rfl,rfl⟩];cases h2:(iI c (gR r (bM c r.2.2.2.2.2.1 p).1) p.1 p.2.1 false).2 with
   |true=>rw[hx2 h2];rfl
   |false=>rw[ayK h2];rfl
 ·rfl
 ·rfl
 ·rfl
theorem arX {c:Int×Int}{r:aD}(h:ba c r){p:dp}(hp:jg c p=true):DJ F0 c r p=some ((pE c r p).1,(pE c r p).2,()):=by
 have hT:=DW (wI h.f.t) (E7 hp) c;have hg:=h.gR (pX h.f.t p);have hC:oL F0 c (r.1,r.2.1,r.2.2.1,r.2.2.2.1,r.2.2.2.2.1,(bM c r.2.2.2.2.2.1 p).1,r.2.2.2.2.2.2) p.1 p.2.1 false=some ((iI c (gR r (bM c r.2.2.2.2.2.1 p).1) p.1 p.2.1 false).1,(iI c (gR r (bM c r.2.2.2.2.2.1 p).1) p.1 p.2.1 false).2,()):=ab3 hg p.1 (E7 hp).1 false;rw[agV,eW h.l,ai,h.ok,aL,aa,NA (aG5 hp),ai,hp,aL,aa,eK h.bt];simp only[ai,hT,hC];unfold pE aKI ec;cases (p.2.1.toList==al.toList)<;>cases decide (p.1<r.2.1)
 ·cases h1:(bM c r.2.2.2.2.2.1 p).2<;>rfl
 ·rfl
 ·rfl
 ·rfl
def awf (q:dp):Int:=F2 60 (aj (q.1+1))
def ua (c:Int×Int)(r:aD)(view:Int):Bool:=decide (cF c view=r.1)&&decide (view>=r.2.1)
def Xk (l:Bool)(o:aD)(view:Int)(q:dp):aD:=if l=true then E8 (E8 o (awf q)) view else E8 o (awf q)
def xe (imp:Bool)(c:Int×Int)(r:aD)(view:Int)(q:dp)(dk:Int)(o:aD):aD×Bool :=
 if ua c r view=true then
  if (bM c o.2.2.2.2.2.1 (one view al dk)).2=true then
   (Xk (NR c (bM c o.2.2.2.2.2.1 (one view al dk)).1 view) (gR o (bM c o.2.2.2.2.2.1 (one view al dk)).1) view q,true)
  else (r,false)
 else (Xk (imp&&NR c o.2.2.2.2.2.1 view) o view q,true)
def pF (imp:Bool)(c:Int×Int)(r:aD)(view:Int)(q:dp)(dk:Int):aD×Bool:=if (written c r q).2=true then xe imp c r view q dk (written c r q).1 else (r,false)
theorem X4 {imp:Bool}{c:Int×Int}{r:aD}{view:Int}{q:dp}{dk:Int}{o:aD}(h:ua c r view=false):xe imp c r view q dk o=(Xk (imp&&NR c o.2.2.2.2.2.1 view) o view q,true):=ah (by rw[h];decide)
theorem ap7 {imp:Bool}{c:Int×Int}{r:aD}{view:Int}{q:dp}{dk:Int}{o:aD}(h:ua c r view=true)(h2:(bM c o.2.2.2.2.2.1 (one view al dk)).2=false):xe imp c r view q dk o=(r,false):=by unfold xe;rw[ak h,ah (by rw[h2];decide)]
theorem ap8 {imp:Bool}{c:Int×Int}{r:aD}{view:Int}{q:dp}{dk:Int}{o:aD}(h:ua c r view=true)(h2:(bM c o.2.2.2.2.2.1 (one view al dk)).2=true) :
  xe imp c r view q dk o=(Xk (NR c (bM c o.2.2.2.2.2.1 (one view al dk)).1 view) (gR o (bM c o.2.2.2.2.2.1 (one view al dk)).1) view q,true):=by
 unfold xe;rw[ak h,ak h2]
theorem alY (x:Int):F2 60 x<=60:=by unfold F2;split<;>omega
theorem X5 (x:Int):F2 x 60=F2 60 x:=by unfold F2;split<;>split<;>omega
theorem aEF (a b c:Int):xU (xU a b) c=xU (xU a c) b:=by
 unfold xU
 repeat' split
 all_goals omega
theorem ba.Xk {c:Int×Int}{o:aD}(h:ba c o)(l:Bool){view:Int}(hv:view<=60)(q:dp):ba c (Xk l o view q):=by
 unfold Tryz.Xk;split
 ·exact(h.raised (alY _)).raised hv
 ·exact h.raised (alY _)
theorem ba.xe {c:Int×Int}{r o:aD}(h:ba c r)(ho:ba c o)(imp:Bool){view:Int}(hv:view<=60)(q:dp)(dk:Int):ba c (xe imp c r view q dk o).1:=by
 unfold Tryz.xe;split
 ·split
  ·exact(ho.gR (pX ho.f.t _)).Xk _ hv q
  ·exact h
 ·exact ho.Xk _ hv q
theorem ba.aEG {c:Int×Int}{r:aD}(h:ba c r)(imp:Bool){view:Int}(hv:view<=60)(q:dp)(dk:Int):ba c (pF imp c r view q dk).1:=by
 unfold pF;split
 ·exact h.xe (h.w q) imp hv q dk
 ·exact h
theorem awg {c:Int×Int}{r:aD}(h:ba c r){view:Int}(hv:iG 1 60 view=true){q:dp}(hq:fM c q=true){dk:Int}(hw:iG 0 (aj (c.1-1)) dk=true) :
  C9 F0 c r view q dk=some ((pF false c r view q dk).1,(pF false c r view q dk).2,()):=by
 have hql:=Ow hq;have hg:ba c (written c r q).1:=h.w q;rw[agh,eJ h.bt,ai,iS h.l,ai,h.ok,aL,aa,dB,ai,hv,aL,aa,RN hql,ai,hq,aL,aa,dB,ai,hw,aL,aa,av0 h.l.s hql];simp only[ai];rw[R6 h (apZ h q),ai];unfold pF;unfold written at hg ⊢;generalize nI c r (see c r.2.2.2.1 q)=W at hg ⊢;obtain⟨W1,W2⟩:=W;dsimp only at hg ⊢;cases W2 with
 |false=>rfl
 |true =>
  have hT:fO F0 c W1.2.2.2.2.2.1 (view,al,[dk])=some ((bM c W1.2.2.2.2.2.1 (one view al dk)).1,(bM c W1.2.2.2.2.2.1 (one view al dk)).2,()):=IH (wI hg.f.t) ⟨aX _,by show 1<=1000;omega⟩ c;have ht:=pX hg.f.t (one view al dk);have hGt:=R3 (l:=(bM c W1.2.2.2.2.2.1 (one view al dk)).1) (cN (wI ht).1 (by omega)) (fun q hq=>(wI ht).l hq) view al;show _=some ((xe false c r view q dk W1).1,(xe false c r view q dk W1).2,());rw[ak rfl];simp only[ai,KZ,hT,hGt,abI,Cl,XY,af];by_cases h1:cF c view=r.1
  ·rw[bC.2 h1,af];by_cases h2:view>=r.2.1
   ·have ha:ua c r view=true:=by unfold ua;rw[aM h1,aM h2];rfl
    rw[aM h2,af];cases h3:(bM c W1.2.2.2.2.2.1 (one view al dk)).2 with
    |false=>rw[ap7 ha h3];rfl
    |true =>
     rw[ap8 ha h3,aL,aa];unfold NR;cases h4:decide (((ei (bM c W1.2.2.2.2.2.1 (one view al dk)).1 view al).2.2.length:Int)>=KX c) with
     |false=>rw[aa,X5];rfl
     |true=>rw[af,X5,aEF];rfl
   ·have ha:ua c r view=false:=by unfold ua;rw[aQ h2,ahX]
    rw[X4 ha,aQ h2,aa,X5];rfl
  ·have ha:ua c r view=false:=by unfold ua;rw[aQ h1,YO]
   rw[X4 ha,cj.2 h1,aa,X5];rfl
theorem arY {c:Int×Int}{r:aD}(h:ba c r){view:Int}(hv:iG 1 60 view=true){q:dp}(hq:fM c q=true){dk:Int}(hw:iG 0 (aj (c.1-1)) dk=true) :
  DK F0 c r view q dk=some ((pF true c r view q dk).1,(pF true c r view q dk).2,()):=by
 have hql:=Ow hq;have hg:ba c (written c r q).1:=h.w q;rw[agX,eW h.l,ai,h.ok,aL,aa,b9,ai,hv,aL,aa,QK hql,ai,hq,aL,aa,b9,ai,hw,aL,aa,apP h.l.s hql,eK h.bt];simp only[ai];rw[ab1 h (apZ h q),ai];unfold pF;unfold written at hg ⊢;generalize nI c r (see c r.2.2.2.1 q)=W at hg ⊢;obtain⟨W1,W2⟩:=W;dsimp only at hg ⊢;cases W2 with
 |false=>rfl
 |true =>
  have hT:fp F0 c W1.2.2.2.2.2.1 (view,al,[dk])=some ((bM c W1.2.2.2.2.2.1 (one view al dk)).1,(bM c W1.2.2.2.2.2.1 (one view al dk)).2,()):=DW (wI hg.f.t) ⟨aX _,by show 1<=1000;omega⟩ c;have ht:=pX hg.f.t (one view al dk);have hcap:(if 60<aj (q.1+1) then 60 else aj (q.1+1))=awf q:=rfl;have hL1:tk F0 c (W1.1,(if awf q>W1.2.1 then awf q else W1.2.1,(W1.2.2.1,W1.2.2.2.1,W1.2.2.2.2.1,(bM c W1.2.2.2.2.2.1 (one view al dk)).1,W1.2.2.2.2.2.2))) view=some (NR c (bM c W1.2.2.2.2.2.1 (one view al dk)).1 view,()) :=
   ap2 (r:=E8 (gR W1 (bM c W1.2.2.2.2.2.1 (one view al dk)).1) (awf q)) ((hg.gR ht).raised (alY _)).l view
  have hL2:tk F0 c (W1.1,(if awf q>W1.2.1 then awf q else W1.2.1,W1.2.2)) view=some (NR c W1.2.2.2.2.2.1 view,()):=ap2 (r:=E8 W1 (awf q)) (hg.raised (alY _)).l view;show _=some ((xe true c r view q dk W1).1,(xe true c r view q dk W1).2,());rw[aL,aa,hcap];simp only[ai,IZ,hT,hL1,hL2];by_cases h1:cF c view=r.1
  ·rw[bC.2 h1,af];by_cases h2:view>=r.2.1
   ·have ha:ua c r view=true:=by unfold ua;rw[aM h1,aM h2];rfl
    rw[aM h2,af];cases h3:(bM c W1.2.2.2.2.2.1 (one view al dk)).2 with
    |false=>rw[ap7 ha h3];rfl
    |true =>
     rw[ap8 ha h3,aL,aa];cases h4:NR c (bM c W1.2.2.2.2.2.1 (one view al dk)).1 view<;>rfl
   ·have ha:ua c r view=false:=by unfold ua;rw[aQ h2,ahX]
    rw[X4 ha,aQ h2,aa,ji];cases h4:NR c W1.2.2.2.2.2.1 view<;>rfl
  ·have ha:ua c r view=false:=by unfold ua;rw[aQ h1,YO]
   rw[X4 ha,cj.2 h1,aa,ji];cases h4:NR c W1.2.2.2.2.2.1 view<;>rfl
def X6 (r:aD)(p:List eO):aD:=(r.1,r.2.1,r.2.2.1,r.2.2.2.1,p,r.2.2.2.2.2)
def Xl (r:aD)(x:eO):aD×Bool:=(X6 r (mg r.2.2.2.2.1 x).1,(mg r.2.2.2.2.1 x).2)
theorem ba.X6 {c:Int×Int}{r:aD}(h:ba c r){p:List eO}(hp:fK p=true):ba c (X6 r p) :=
 ⟨⟨h.f.cf,h.f.i,h.f.v,h.f.a,h.f.s,hp,h.f.t,h.f.d,h.f.n,h.f.h⟩,h.b⟩
theorem ba.aIS {c:Int×Int}{r:aD}(h:ba c r)(x:eO):ba c (Xl r x).1:=h.X6 (aA7 h.f.p x)
theorem aBb {l:List eO}{x:eO}(h:(mg l x).2=false):(mg l x).1=l:=by
 unfold mg at h ⊢;cases ho:fK (DX x l) with
 |true=>rw[ho,ak rfl]at h;cases h
 |false=>rfl
theorem aBc {c:Int×Int}{r:aD}(h:ba c r)(x:eO):Ml F0 c r x=some ((Xl r x).1,(Xl r x).2,()):=by
 have hp:=(ab0 h.f.p).1;rw[anQ,eJ h.bt,ai,iS h.l,ai,h.ok,aL,aa,ayz (by omega),ai];unfold Xl;cases h1:(mg r.2.2.2.2.1 x).2 with
 |true=>rfl
 |false=>rw[aBb h1];rfl
theorem ayN {c:Int×Int}{r:aD}(h:ba c r)(x:eO):Ni F0 c r x=some ((Xl r x).1,(Xl r x).2,()):=by have hp:=(ab0 h.f.p).1;rw[aoO,eK h.bt,ai,eW h.l,ai,h.ok,aL,aa,av4 (by omega),ai];rfl
def E9 (imp:Bool)(c:Int×Int)(r:aD)(m:da):aD×Bool :=
 if m.1=1 then jX c r m.2.2.1 else if m.1=2 then pE c r m.2.2.2.1 else if m.1=3 then pF imp c r m.2.1 m.2.2.2.2.1 m.2.2.2.2.2.1 else Xl r m.2.2.2.2.2.2
def QQ (r:aD):aD:=gR r (aeY r.2.2.2.2.2.1 (aj (r.2.1-1)))
def finish (c:Int×Int)(r:aD):aD:=X6 (QQ r) (apV r.2.2.2.2.1 (jB c (QQ r)))
def Ox (imp:Bool)(c:Int×Int)(r:aD)(m:da):aD×Bool:=if eh c m=true/\(E9 imp c r m).2=true then (finish c (E9 imp c r m).1,true) else (r,false)
theorem ba.QQ {c:Int×Int}{r:aD}(h:ba c r):ba c (QQ r):=h.gR (ap5 h.f.t _)
theorem ba.finish {c:Int×Int}{r:aD}(h:ba c r):ba c (finish c r):=h.QQ.X6 (arW h.f.p _)
theorem ae8 (c:Int×Int)(r:aD):(jB c r).1.length<=4/\(jB c r).2.length<=4:=by
 unfold jB;split
 ·have:=Ix Lg (xs:=Uk r.2.2.2.1.2.2.2);exact⟨Nat.le_of_eq this.1,Nat.le_of_eq this.2⟩
 ·exact⟨aX _,aX _⟩
structure aOP (c:Int×Int) (m:da):Prop where
 k:m.1=1\/m.1=2\/m.1=3\/m.1=4
 b:m.1=1->gC c m.2.2.1=true
 p:m.1=2->jg c m.2.2.2.1=true/\ec m.2.2.2.1.2.1=false
 v:m.1=3->iG 1 60 m.2.1=true/\fM c m.2.2.2.2.1=true/\iG 0 (aj (c.1-1)) m.2.2.2.2.2.1=true
 t:m.1=4->gQ m.2.2.2.2.2.2=true
 s:named m=m
theorem ae9 {c:Int×Int}{m:da}(h:eh c m=true):aOP c m:=by
 unfold eh at h;simp only[aJ]at h;obtain⟨hc,hs,hk⟩:=h;have hn:=abV hs;by_cases k1:m.1=1
 ·rw[ak (by simpa using k1)]at hk;exact⟨.inl k1,fun _=>hk,fun h=>by omega,fun h=>by omega,fun h=>by omega,hn⟩
 ·by_cases k2:m.1=2
  ·rw[ah (by simpa using k1),ak (by simpa using k2)]at hk;simp only[aJ,afl]at hk;exact⟨.inr (.inl k2),fun h=>by omega,fun _=>hk,fun h=>by omega,fun h=>by omega,hn⟩
  ·by_cases k3:m.1=3
   ·rw[ah (by simpa using k1),ah (by simpa using k2),ak (by simpa using k3)]at hk;simp only[aJ]at hk;exact⟨.inr (.inr (.inl k3)),fun h=>by omega,fun h=>by omega,fun _=>hk,fun h=>by omega,hn⟩
   ·rw[ah (by simpa using k1),ah (by simpa using k2),ah (by simpa using k3)]at hk;simp only[aJ,bC]at hk;exact⟨.inr (.inr (.inr hk.1)),fun h=>by omega,fun h=>by omega,fun h=>by omega,fun _=>hk.2,hn⟩
theorem ba.aBd {c:Int×Int}{r:aD}(h:ba c r)(imp:Bool){m:da}(hm:eh c m=true):ba c (E9 imp c r m).1:=by
 have hf:=ae9 hm;unfold E9;split
 ·exact h.ap6 _
 ·split
  ·exact h.aEE _
  ·split
   ·rename_i h3;have:=(hf.v h3).1;simp only[iG,aJ,cD]at this;exact h.aEG imp this.2 _ _
   ·exact h.aIS _
theorem ba.heard {c:Int×Int}{r:aD}(h:ba c r)(imp:Bool)(m:da):ba c (Ox imp c r m).1:=by
 unfold Ox;split
 ·rename_i hh;exact(h.aBd imp hh.1).finish
 ·exact h
theorem ayO {c:Int×Int}{r:aD}(h:ba c r){m:da}(hm:eh c m=true):HN F0 c r m=some ((E9 false c r m).1,(E9 false c r m).2,()):=by
 have hf:=ae9 hm;rw[akv];unfold E9;rcases hf.k with k|k|k|k
 ·rw[bC.2 k,af,ak k,aaz h (hf.b k),ai]
 ·rw[cj.2 (show m.1≠1 by omega),aa,bC.2 k,af,ah (by omega),ak k,awe h (hf.p k).1,ai]
 ·rw[cj.2 (show m.1≠1 by omega),aa,cj.2 (show m.1≠2 by omega),aa,bC.2 k,af,ah (by omega),ah (by omega),ak k,awg h (hf.v k).1 (hf.v k).2.1 (hf.v k).2.2,ai]
 ·rw[cj.2 (show m.1≠1 by omega),aa,cj.2 (show m.1≠2 by omega),aa,cj.2 (show m.1≠3 by omega),aa,ah (by omega),ah (by omega),ah (by omega),aBc h,ai]
theorem ayP {c:Int×Int}{r:aD}(h:ba c r){m:da}(hml:gy m):PD F0 c r m=some ((Ox false c r m).1,(Ox false c r m).2,()):=by
 rw[auU,iS h.l,ai,h.ok,aL,aa,I2 hml,ai,eJ h.bt,ai];unfold Ox;cases hm:eh c m with
 |false=>rfl
 |true =>
  rw[ayO h hm,ai];have hg:=h.aBd false hm;generalize E9 false c r m=X at hg ⊢;obtain⟨o,ok⟩:=X;dsimp only at hg ⊢;cases ok with
  |false=>rfl
  |true =>
   have hS:J0 F0 c (o.1,o.2.1,o.2.2.1,o.2.2.2.1,o.2.2.2.2.1,aeY o.2.2.2.2.2.1 (aj (o.2.1-1)),o.2.2.2.2.2.2)=some (jB c (QQ o),()):=aEl hg.QQ.l c;have hl:=ae8 c (QQ o);have hD:=av6 (p:=o.2.2.2.2.1) hg.l.p (l:=jB c (QQ o)) (by omega) (by omega);rw[arQ hg.l.t hg.l.tq,ai,hS,ai,hD,ai];rfl
theorem atj {c:Int×Int}{r:aD}(h:ba c r){m:da}(hml:gy m):IW F0 c r m=some ((Ox true c r m).1,(Ox true c r m).2,()):=by
 rw[avk,Lb hml,ai,eK h.bt,ai];unfold Ox;cases hm:eh c m with
 |false=>rfl
 |true =>
  have hf:=ae9 hm;have tail:∀o:aD,ba c o->∀ok:Bool,br (!ok) (some (r,false,())) ((iD F0 o.2.2.2.2.2.1 (aj (o.2.1-1))).bind fun r69=>(kh F0 c (o.1,o.2.1,o.2.2.1,o.2.2.2.1,o.2.2.2.2.1,r69.1,o.2.2.2.2.2.2)).bind fun LW=>(jM F0 o.2.2.2.2.1 LW.1).bind fun r76=>some ((o.1,o.2.1,o.2.2.1,o.2.2.2.1,r76.1,r69.1,o.2.2.2.2.2.2),true,())) =
    some ((if true=true/\ok=true then (finish c o,true) else (r,false)).1,(if true=true/\ok=true then (finish c o,true) else (r,false)).2,()):=fun o hg ok=>by
   cases ok with
   |false=>rfl
   |true =>
    have hS:kh F0 c (o.1,o.2.1,o.2.2.1,o.2.2.2.1,o.2.2.2.2.1,aeY o.2.2.2.2.2.1 (aj (o.2.1-1)),o.2.2.2.2.2.2)=some (jB c (QQ o),()):=abR hg.QQ.l c;have hl:=ae8 c (QQ o);have hD:=arS (p:=o.2.2.2.2.1) hg.l.p (l:=jB c (QQ o)) (by omega) (by omega);rw[apT hg.l.t hg.l.tq,ai,hS,ai,hD,ai];rfl
  have hg:=h.aBd true hm;rw[aL,aa];rcases hf.k with k|k|k|k
  ·have e:E9 true c r m=jX c r m.2.2.1:=ak k;rw[e]at hg ⊢;rw[bC.2 k,af,Xj h (hf.b k),ai];exact tail _ hg _
  ·have e:E9 true c r m=pE c r m.2.2.2.1:=by unfold E9;rw[ah (by omega),ak k]
   rw[e]at hg ⊢;rw[cj.2 (show m.1≠1 by omega),aa,bC.2 k,af,arX h (hf.p k).1,ai];exact tail _ hg _
  ·have e:E9 true c r m=pF true c r m.2.1 m.2.2.2.2.1 m.2.2.2.2.2.1:=by unfold E9;rw[ah (by omega),ah (by omega),ak k]
   rw[e]at hg ⊢;rw[cj.2 (show m.1≠1 by omega),aa,cj.2 (show m.1≠2 by omega),aa,bC.2 k,af,arY h (hf.v k).1 (hf.v k).2.1 (hf.v k).2.2,ai];exact tail _ hg _
  ·have e:E9 true c r m=Xl r m.2.2.2.2.2.2:=by unfold E9;rw[ah (by omega),ah (by omega),ah (by omega)]
   rw[e]at hg ⊢;rw[cj.2 (show m.1≠1 by omega),aa,cj.2 (show m.1≠2 by omega),aa,cj.2 (show m.1≠3 by omega),aa,ayN h,ai];exact tail _ hg _
end Go.Am.Tryz
