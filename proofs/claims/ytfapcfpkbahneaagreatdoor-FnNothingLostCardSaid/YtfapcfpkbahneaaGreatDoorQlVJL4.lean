/- Lemmas for the claim. No condition. -/
import Derived.Test.YtfapcfpkbahneaaGreatDoorQlVJL3
set_option linter.all false
namespace Go.Am.Tryz
open Go.Am
def sameAt (a b:di):Bool:=(a.1==b.1)&&(a.2.1.toList==b.2.1.toList)
def aep (a b:di):di:=(a.1,a.2.1,asu a.2.2 b.2.2)
theorem avu {a b:di}(h:a.2.2.length+b.2.2.length≤1048576):CR F0 a b=some (if sameAt a b=true then aep a b else cP,sameAt a b,()):=by
 rw[afB,axl h,ai]
 unfold sameAt aep bne
 cases (a.1==b.1)<;>cases (a.2.1.toList==b.2.1.toList)<;>rfl
theorem ard {a b:di}(h:a.2.2.length+b.2.2.length≤1048576):Dt F0 a b=some (if sameAt a b=true then aep a b else cP,sameAt a b,()):=by
 rw[agi,au9 h,ai]
 unfold sameAt aep bne
 cases (a.1==b.1)<;>cases (a.2.1.toList==b.2.1.toList)<;>rfl
def gB (p:di):List di→List di
 |[]=>[p]
 |x::l=>if gl x p=true then x::gB p l else if sameAt x p=true then aep x p::l else p::x::l
def bM (c:Int×Int)(l:List di)(p:di):List di×Bool:=if jh c p=true∧fC c (gB p l)=true then (gB p l,true) else (l,false)
theorem abk (p:di):∀l:List di,(gB p l).length≤l.length+1
 |[]=>b9 _
 |x::l=>by
  have:=abk p l
  unfold gB
  split
  ·simp only[ba];omega
  ·split<;>simp
theorem Nj (p:di):∀(k:Nat) (l:List di),(∀x∈l.take k,gl x p=true)→gB p l=l.take k++gB p (l.drop k)
 |0,l,_=>rfl
 |k+1,[],_=>rfl
 |k+1,x::l,h=>by
  rw[gB,ak (h x (by simp)),Nj p k l fun y hy=>h y (by simp[hy])]
  rfl
def aAu (l:List di):Prop:=l.length≤1000∧∀q∈l,q.2.1.size≤1048576∧q.2.2.length≤1000
theorem aAu.l {l:List di}(h:aAu l){q:di}(hq:q∈l):uG q:=⟨(h.2 q hq).1,cT (h.2 q hq).2 (by omega)⟩
theorem aIp {a b:di}(ha:a.2.1.size≤1048576∧a.2.2.length≤1000)(hb:b.2.2.length≤1000):uG (aep a b):=⟨ha.1,by have:=aDN a.2.2 b.2.2;show(asu a.2.2 b.2.2).length≤_;omega⟩
theorem apl {p:di}(hp:p.2.1.size≤1048576∧p.2.2.length≤1000):∀{l:List di},aAu l→∀q∈gB p l,uG q
 |[],_,q,hq=>by
  rw[lZ.1 hq]
  exact⟨hp.1,by omega⟩
 |x::l,h,q,hq=>by
  have hx:=h.2 x IL
  have hl:aAu l:=⟨by have:=h.1;rw[ba]at this;omega,fun y hy=>h.2 y (pW _ hy)⟩
  unfold gB at hq
  split at hq
  ·rcases gU.1 hq with rfl|hq
   ·exact h.l IL
   ·exact apl hp hl q hq
  ·split at hq
   ·rcases gU.1 hq with rfl|hq
    ·exact aIp hx hp.2
    ·exact hl.l hq
   ·rcases gU.1 hq with rfl|hq
    ·exact⟨hp.1,by omega⟩
    ·exact h.l hq
theorem aAv {β:Type}(c:Int×Int)(l:List di)(p:di)(x y:Option β):br (!fC c (gB p l)) y (br (!jh c p) y x)=if jh c p=true∧fC c (gB p l)=true then x else y:=by
 cases fC c (gB p l)<;>cases jh c p<;>rfl
theorem Io {l:List di}(h:aAu l){p:di}(hp:p.2.1.size≤1048576∧p.2.2.length≤1000)(c:Int×Int):fP F0 c l p=some ((bM c l p).1,(bM c l p).2,()):=by
 have hl:=h.1
 have hpl:uG p:=⟨hp.1,by omega⟩
 have aHP:=abk p l
 have dS:nT F0 (c.1,c.2) (gB p l)=some (fC c (gB p l),()):=aiD (by omega) (apl hp h) c
 rw[afD]
 refine dp (fun n k (z:Bool×List di)=>ja F0 (y5 F0) n (ga l z.1 k c.1 c.2 p.1 p.2.1 p.2.2 z.2)) l.length
  (fun k z=>(z.1=false∧z.2=l.take k∧∀x∈l.take k,gl x p=true)∨(z.1=true∧z.2++l.drop k=gB p l)) _ (fun n k z hk hI=>.inr ?_) (fun n z hI=>?_) F0.n 0 (false,[]) (aV _) (.inl ⟨rfl,rfl,fun x hx=>by simp at hx⟩) (by rw[ch];omega)
 ·have hx:=h.2 _ (dr hk)
  have hd:l.drop k=l[k]::l.drop (k+1):=X8 hk
  rcases hI with ⟨h1,h2,h3⟩|⟨h1,h2⟩
  ·have hz:z.2.length≤1000:=by rw[h2,bQ];omega
   have ahE:=Nj p k l h3
   rw[hd,gB]at ahE
   rw[h1,kX,aW hk,af,av hk,ae,bC hk,nL (by omega),ai]
   dsimp only
   rw[show((p.1,p.2.1,p.2.2):di)=p from rfl,ZP,ai,avu (by omega),ai,nL (q:=p) (by omega),ai]
   cases hb:gl l[k] p with
   |true =>
    refine⟨(false,z.2++[l[k]]),?_,.inl ⟨rfl,?_,?_⟩⟩
    ·rw[eZ,af,aK,aa,az (by omega) (by omega) (by first|omega|(simp only[aM,ba,bA];omega)|(rw[bo,bQ];omega)),ae,ao (by omega)]
    ·show z.2++[l[k]]=_
     rw[jA hk,h2]
    ·intro x hx'
     rw[jA hk]at hx'
     rcases kI.1 hx' with h4|h4
     ·exact h3 x h4
     ·rw[lZ.1 h4];exact hb
   |false =>
    rw[hb,ah (by decide)]at ahE
    cases hs:sameAt l[k] p with
    |true =>
     rw[hs,ak rfl]at ahE
     refine⟨(true,z.2++[aep l[k] p]),?_,.inr ⟨rfl,?_⟩⟩
     ·rw[eZ,af,af,ak rfl,af,az (by omega) (by omega) (by first|omega|(simp only[aM,ba,bA];omega)|(rw[bo,bQ];omega)),ae,ao (by omega)]
     ·show(z.2++[aep l[k] p])++_=_
      rw[ahE,h2,iK]
      rfl
    |false =>
     rw[hs,ah (by decide)]at ahE
     refine⟨(true,z.2++[p]++[l[k]]),?_,.inr ⟨rfl,?_⟩⟩
     ·rw[eZ,af,af,aa,az (by omega) (by omega) (by first|omega|(simp only[aM,ba,bA];omega)|(rw[bo,bQ];omega)),ae,az (by omega) (by omega) (by first|omega|(simp only[aM,ba,bA];omega)|(rw[bo,bQ];omega)),ae,ao (by omega)]
     ·show(z.2++[p]++[l[k]])++_=_
      rw[ahE,h2,iK,iK]
      rfl
  ·have hz:z.2.length≤1001:=by
    have:=AJ List.length h2
    rw[aM]at this
    omega
   refine⟨(true,z.2++[l[k]]),?_,.inr ⟨rfl,?_⟩⟩
   ·rw[h1,kX,aW hk,af,av hk,ae,bC hk,nL (by omega),ai]
    dsimp only
    rw[aK,aa,az (by omega) (by omega) (by first|omega|(simp only[aM,ba,bA];omega)|(rw[bo,bQ];omega)),ae,ao (by omega)]
   ·show(z.2++[l[k]])++_=_
    rw[iK,←h2,hd]
    rfl
 ·have e0:kS F0 (c.1,c.2) (p.1,p.2.1,p.2.2)=some (jh c p,()):=Rl hpl c
  have hc:ib F0 l=some (l,()):=aej (by omega) fun q hq=>h.l hq
  have hR:br (!fC c (gB p l)) (some (l,false,())) (br (!jh c p) (some (l,false,())) (some (gB p l,true,())))=some ((bM c l p).1,(bM c l p).2,()):=by
   rw[aAv]
   unfold bM
   split<;>rfl
  rcases hI with ⟨h1,h2,h3⟩|⟨h1,h2⟩
  ·have hs:=Nj p l.length l h3
   rw[TR,nF]at hs
   rw[nF]at h2
   rw[h1,kX,aI,aa,Gf,eZ,af,show((p.1,(p.2.1,p.2.2)):di)=p from rfl,nL (by omega),ai,h2,az (by omega) (by omega) (by first|omega|(simp only[aM,ba,bA];omega)|(rw[bo,bQ];omega)),ae,
    show l++[p]=gB p l from hs.symm,dS,ai,e0,ai,hc,ai]
   exact hR
  ·rw[TR,gE]at h2
   rw[h1,kX,aI,aa,Gf,aK,aa,h2,dS,ai,e0,ai,hc,ai]
   exact hR
def aIq (a b:di):Int:=if gl a b=true then -1 else if sameAt a b=true then 0 else 1
theorem Tw (a b:di):gh F0 a b=some (aIq a b,()):=by
 rw[Ey,aiC,ai,ad3,ai]
 unfold aIq gl sameAt aH7 aH8
 dsimp only
 by_cases h:a.1<b.1
 ·rw[ak h,aL h]
  rfl
 ·rw[ah h,aR h,IM]
  by_cases h2:a.1>b.1
  ·rw[ak h2,cp.2 (show a.1≠b.1 by omega)]
   rfl
  ·rw[ah h2,show a.1=b.1 by omega,abJ,jB,jB]
   cases Op.bytesLess a.2.1.toList b.2.1.toList<;>cases (a.2.1.toList==b.2.1.toList)<;>rfl
theorem aln {γ:Type}(X:Nat→Int→Option γ)(L:Nat)(p:Nat→Bool)(E:Nat→Option γ)(hs:∀n k,k<L→X (n+1) (k:Int)=if p k=true then X n ((k+1:Nat):Int) else E k)(he:∀n,X (n+1) (L:Int)=E L) :
  ∀(j k n:Nat),k+j=L→(∀i,i<k→p i=true)→j<n→∃i,i≤L∧(∀j,j<i→p j=true)∧(i<L→p i=false)∧X n (k:Int)=E i
 |0,k,n+1,hk,hp,hn=>⟨L,b9 _,fun j hj=>hp j (by omega),fun h=>absurd h (TT _),by rw[show k=L by omega];exact he n⟩
 |j+1,k,n+1,hk,hp,hn=>by
  cases h:p k with
  |true =>
   obtain⟨i,h1,h2,h3,h4⟩:=aln X L p E hs he j (k+1) n (by omega) (fun i hi=>by
    by_cases e:i=k
    ·rw[e];exact h
    ·exact hp i (by omega)) (by omega)
   exact⟨i,h1,h2,h3,by rw[hs n k (by omega),h,ak rfl];exact h4⟩
  |false=>exact⟨k,by omega,hp,fun _=>h,by rw[hs n k (by omega),h,ah (by decide)]⟩
theorem aEc {p:di}{l:List di}{i:Nat}(hi:i≤l.length)(h1:∀j (h:j<l.length),j<i→gl l[j] p=true)(h2:∀h:i<l.length,gl l[i] p=false) :
  gB p l=if h:i<l.length then (if sameAt l[i] p=true then l.set i (aep l[i] p) else l.take i++[p]++l.drop i) else l.take i++[p]++l.drop i:=by
 rw[Nj p i l fun x hx=>by
  obtain⟨j,hj,rfl⟩:=ahh hx
  rw[bQ]at hj
  rw[List.getElem_take]
  exact h1 j (by omega) (by omega)]
 by_cases h:i<l.length
 ·rw[dif_pos h,X8 h,gB,h2 h,ah (by decide)]
  split
  ·rw[List.set_eq_take_append_cons_drop,ak h]
  ·simp
 ·rw[dif_neg h,as1 (by omega)]
  simp[gB]
theorem DJ {l:List di}(h:aAu l){p:di}(hp:p.2.1.size≤1048576∧p.2.2.length≤1000)(c:Int×Int):fv F0 c l p=some ((bM c l p).1,(bM c l p).2,()):=by
 have hl:=h.1
 have hpl:uG p:=⟨hp.1,by omega⟩
 have aHP:=abk p l
 have dS:lg F0 (c.1,c.2) (gB p l)=some (fC c (gB p l),()):=ad4 (by omega) (apl hp h) c
 have hc:fq F0 l=some (l,()):=ZS (by omega) fun q hq=>h.l hq
 have hcp:fQ F0 (p.1,p.2.1,p.2.2)=some (p,()):=Ay (q:=p) (by omega)
 rw[agk,M6 hpl,ai,hc,ai,ai]
 cases hpo:jh c p with
 |false =>
  unfold bM
  rw[hpo,ah (by simp)]
  rfl
 |true =>
  have hR:br (!fC c (gB p l)) (some (l,false,())) (some (gB p l,true,()))=some ((bM c l p).1,(bM c l p).2,()):=by
   unfold bM
   rw[hpo]
   cases fC c (gB p l)<;>simp[br]
  rw[aK,aa]
  obtain⟨i,h1,h2,h3,h4⟩:=aln (fun n k=>vZ F0 (qz F0) n (qy l k c.1 c.2 p.1 p.2.1 p.2.2 l)) l.length (fun k=>gl (l.getD k cP) p) (fun k=>qz F0 (.exit 0) (oB l (k:Int) c.1 c.2 p.1 p.2.1 p.2.2 l))
   (fun n k hk=>by
    rw[EF,aW hk,af,av hk,ae,bC hk,show((p.1,p.2.1,p.2.2):di)=p from rfl,Tw,ai,ao (by omega),bp hk]
    unfold aIq
    cases gl l[k] p<;>cases sameAt l[k] p<;>rfl)
   (fun n=>by rw[EF,aI,aa]) l.length 0 F0.n (by omega) (fun i hi=>absurd hi (RH _)) (by rw[ch];omega)
  have h5:=aEc (p:=p) h1 (fun j hj Yb=>by have:=h2 j Yb;rw[bp hj]at this;exact this) (fun hi=>by have:=h3 hi;rw[bp hi]at this;exact this)
  refine A5 h4 ?_
  rw[XY,hcp,ai,hc,ai]
  by_cases hi:i<l.length
  ·rw[dif_pos hi]at h5
   have hj:=h.2 _ (dr hi)
   rw[aW hi,af,av hi,ae,bC hi,show((p.1,p.2.1,p.2.2):di)=p from rfl,Tw,ai]
   unfold aIq
   have hb:=h3 hi
   rw[bp hi]at hb
   rw[hb,ah (by decide)]
   cases hs:sameAt l[i] p with
   |true =>
    rw[hs,ak rfl]at h5
    rw[ak rfl,show((0:Int)==0)=true from rfl,af,ard (by omega),ai,hs,ak rfl,ae,ae,kH]
    dsimp only
    rw[←h5,dS,ai]
    exact hR
   |false =>
    rw[hs,ah (by decide)]at h5
    rw[ah (by decide),show((1:Int)==0)=false from rfl,aa,IE h1 (by simp) (by simp only[ba,bA];omega),ae,kH,←h5,dS,ai]
    exact hR
  ·rw[dif_neg hi]at h5
   rw[aR (show ¬(i:Int)<(l.length:Int) by omega),aa,IE h1 (by simp) (by simp only[ba,bA];omega),ae,kH,←h5,dS,ai]
   exact hR
def ep (l:List di)(view:Int)(name:ByteArray):di:=match l.find? fun x=>(x.1==view)&&(x.2.1.toList==name.toList) with
 |some x=>x
 |none=>(view,name,[])
theorem asK {α:Type}{p:α→Bool}{l:List α}{k:Nat}(hk:k<l.length):(l.drop k).find? p=if p l[k]=true then some l[k] else (l.drop (k+1)).find? p:=by
 rw[X8 hk,List.find?_cons]
 cases p l[k]<;>rfl
theorem Rw {l:List di}(h:l.length≤1048576)(hq:∀q∈l,uG q)(view:Int)(name:ByteArray):pA F0 l view name=some (ep l view name,()):=by
 rw[afo]
 refine dp (fun n k (z:Unit)=>oY F0 (p7 F0) n (kV l view name k 0 al [])) l.length (fun k _=>l.find? (fun x=>(x.1==view)&&(x.2.1.toList==name.toList))=(l.drop k).find? fun x=>(x.1==view)&&(x.2.1.toList==name.toList)) _ (fun n k z hk hI=>?_) (fun n z hI=>?_) F0.n 0 () (aV _) rfl (by rw[ch];omega)
 ·rw[asK hk]at hI
  rw[Ee,aW hk,af,av hk,ae,ae,ae,bC hk,nL (hq _ (dr hk)).2,ai,aaw,ao (by omega)]
  cases h1:(l[k].1==view) with
  |false =>
   rw[h1,X9,ah (by decide)]at hI
   exact .inr ⟨(),aa _ _,hI⟩
  |true =>
   cases h2:(l[k].2.1.toList==name.toList) with
   |false =>
    rw[h1,h2,jB,ah (by decide)]at hI
    exact .inr ⟨(),by rw[af,aa],hI⟩
   |true =>
    rw[h1,h2,jB,ak rfl]at hI
    refine .inl ?_
    unfold ep
    rw[hI]
    rfl
 ·rw[TR]at hI
  rw[Ee,aI,aa,XL]
  unfold ep
  rw[hI]
  rfl
theorem ZU {l:List di}(h:l.length≤1048576)(hq:∀q∈l,uG q)(view:Int)(name:ByteArray):uz F0 l view name=some (ep l view name,()):=by
 rw[agl]
 refine dp (fun n k (z:Unit)=>pb F0 (qA F0) n (ly view name l (l.length:Int) k 0 al [])) l.length (fun k _=>l.find? (fun x=>(x.1==view)&&(x.2.1.toList==name.toList))=(l.drop k).find? fun x=>(x.1==view)&&(x.2.1.toList==name.toList)) _ (fun n k z hk hI=>?_) (fun n z hI=>?_) F0.n 0 () (aV _) rfl (by rw[ch];omega)
 ·rw[asK hk]at hI
  rw[EG,aW hk,af,av hk,ae,bC hk,Ay (hq _ (dr hk)).2,ai,aaY,ao (by omega)]
  cases h1:(l[k].1==view) with
  |false =>
   rw[h1,X9,ah (by decide)]at hI
   exact .inr ⟨(),aa _ _,hI⟩
  |true =>
   cases h2:(l[k].2.1.toList==name.toList) with
   |false =>
    rw[h1,h2,jB,ah (by decide)]at hI
    exact .inr ⟨(),by rw[af,aa],hI⟩
   |true =>
    rw[h1,h2,jB,ak rfl]at hI
    refine .inl ?_
    unfold ep
    rw[hI]
    rfl
 ·rw[TR]at hI
  rw[EG,aI,aa,XZ]
  unfold ep
  rw[hI]
  rfl
def aeq (l:List di)(view:Int):List di:=l.filter fun x=>decide (x.1≥view)
theorem are {l:List di}(h:l.length≤1048576)(hq:∀q∈l,uG q)(view:Int):zb F0 l view=some (aeq l view,()):=by
 rw[acV]
 refine alm (fun n k xs=>mP F0 (wI F0) n (j4 l view k xs)) l (fun x=>decide (x.1≥view)) _ (fun n k xs hk hx=>?_) (fun n=>?_) _ (by rw[ch];omega)
 ·rw[AR,aW hk,af,av hk,ae,ae,bC hk,nL (hq _ (dr hk)).2,ai,az (by omega) (by omega) (by first|omega|(simp only[aM,ba,bA];omega)|(rw[bo,bQ];omega)),ae,ao (by omega)]
  cases decide (l[k].1≥view)<;>rfl
 ·rw[AR,aI,aa,Vh]
  rfl
theorem apm {l:List di}(h:l.length≤1048576)(hq:∀q∈l,uG q)(view:Int):iF F0 l view=some (aeq l view,()):=by
 rw[adE]
 refine alm (fun n k xs=>ns F0 (wV F0) n (j7 view l (l.length:Int) k xs)) l (fun x=>decide (x.1≥view)) _ (fun n k xs hk hx=>?_) (fun n=>?_) _ (by rw[ch];omega)
 ·rw[AY,aW hk,af,av hk,ae,bC hk,Ay (hq _ (dr hk)).2,ai,az (by omega) (by omega) (by first|omega|(simp only[aM,ba,bA];omega)|(rw[bo,bQ];omega)),ae,ao (by omega)]
  cases decide (l[k].1≥view)<;>rfl
 ·rw[AY,aI,aa,V3]
  rfl
theorem Nk {a b c:fy}(h1:fO a b=true)(h2:fO b c=true):fO a c=true:=by
 simp only[fO,mh,aJ,cH,bB]at *
 omega
theorem aEd (a:fy):fO a a=false:=by simp[fO]
theorem ag2 {α:Type}(d:α)(p:α→Bool)(q:α→α→Bool)(l:List α):Ws d p q l=true↔(∀k (h:k<l.length),p l[k]=true)∧∀k (h:k+1<l.length),q l[k] l[k+1]=true:=by
 unfold Ws
 rw[kj]
 constructor
 ·intro h
  refine⟨fun k hk=>?_,fun k hk=>?_⟩
  ·have:=h k (kJ.2 hk)
   rw[bp hk,aJ]at this
   exact this.1
  ·have:=h (k+1) (kJ.2 hk)
   rw[bp hk,show k+1-1=k from rfl,bp (show k<l.length by omega),aJ,mh]at this
   rcases this.2 with h0|h0
   ·exact absurd (tY h0) (by omega)
   ·exact h0
 ·intro h k hk
  have hk:=kJ.1 hk
  rw[bp hk,aJ,mh]
  refine⟨h.1 k hk,?_⟩
  cases k with
  |zero=>exact .inl (aL rfl)
  |succ k=>rw[show k+1-1=k from rfl,bp (show k<l.length by omega)];exact .inr (h.2 k hk)
theorem avv {α:Type}{q:α→α→Bool}(tr:∀a b c,q a b=true→q b c=true→q a c=true){l:List α}(h:∀k (h:k+1<l.length),q l[k] l[k+1]=true){i:Nat}:∀(j:Nat) (hij:i<j) (hj:j<l.length),q (l[i]'(by omega)) l[j]=true
 |0,hij,_=>absurd hij (RH _)
 |j+1,hij,hj=>by
  by_cases e:i=j
  ·subst e
   exact h i hj
  ·exact tr _ _ _ (avv tr h j (by omega) (by omega)) (h j hj)
def DK (x:fy):List fy→List fy
 |[]=>[x]
 |y::l=>if fO y x=true then y::DK x l else x::y::l
def me (l:List fy)(x:fy):List fy×Bool:=if fL (DK x l)=true then (DK x l,true) else (l,false)
theorem aiP (x:fy):∀l:List fy,(DK x l).length=l.length+1
 |[]=>rfl
 |y::l=>by
  unfold DK
  split
  ·rw[ba,aiP x l,ba]
  ·rfl
theorem abl {x:fy}:∀{l:List fy} {i:Nat},i≤l.length→(∀j (h:j<l.length),j<i→fO l[j] x=true)→(∀h:i<l.length,fO l[i] x=false)→DK x l=l.take i++[x]++l.drop i
 |[],i,hi,_,_=>by
  rw[show i=0 by simpa using hi]
  rfl
 |y::l,0,_,_,h2=>by
  have:=h2 (by simp)
  rw[DK,ah (by rw[show fO y x=false from this];decide)]
  rfl
 |y::l,i+1,hi,h1,h2=>by
  have h0:fO y x=true:=h1 0 (by simp) (by omega)
  rw[DK,ak h0,abl (l:=l) (i:=i) (by simpa using hi) (fun j hj Yb=>h1 (j+1) (by simpa using hj) (by omega)) (fun h=>h2 (by simpa using h))]
  rfl
set_option maxRecDepth 20000 in
theorem axY {l:List fy}(h:l.length≤1000000)(x:fy):Hw F0 l x=some ((me l x).1,(me l x).2,()):=by
 rw[ajW]
 obtain⟨i,h1,h2,h3,h4⟩:=aln (γ:=List fy×Bool×Unit) (fun n k=>za F0 (sB F0) n (sA l k x.1 x.2.1 x.2.2.1 x.2.2.2)) l.length (fun k=>fO (l.getD k qJ) x) (fun k=>sB F0 (.exit 0) (qi l (k:Int) x.1 x.2.1 x.2.2.1 x.2.2.2))
  (fun n k hk=>by
   rw[Gg,aW hk,af,av hk,ae,bC hk,show((x.1,x.2.1,x.2.2.1,x.2.2.2):fy)=x from rfl,ad2,ai,ao (by omega),bp hk]
   cases hb:fO l[k] x with
   |true=>rw[af,ak rfl]
   |false=>rw[aa,ah (by decide)])
  (fun n=>by rw[Gg,aI,aa]) l.length 0 F0.n (by omega) (fun i hi=>absurd hi (RH _)) (by rw[ch];omega)
 have h5:=abl (x:=x) h1 (fun j hj Yb=>by have:=h2 j Yb;rw[bp hj]at this;exact this) (fun hi=>by have:=h3 hi;rw[bp hi]at this;exact this)
 have hp:=aiP x l
 refine A5 h4 ?_
 have e1:(l.take (i:Int).toNat).drop (0:Int).toNat=l.take i:=by rw[kH];rfl
 have e2:(l.take (l.length:Int).toNat).drop (i:Int).toNat=l.drop i:=by rw[kH,kH,nF]
 have l1:(l.take i).length≤l.length:=by rw[bQ];omega
 have l2:(l.drop i).length≤l.length:=by rw[bo];omega
 rw[aaF,e1,e2,AI,aGl h1,ae,az (a:=0) (by omega) (by omega) (by first|omega|(simp only[aM,ba,bA];omega)|(rw[bo,bQ];omega)),ae,az (by omega) (by omega) (by first|omega|(simp only[aM,ba,bA];omega)|(rw[bo,bQ];omega)),ae,Xi h1 (b9 _),ae,az (by omega) (by omega) (by first|omega|(simp only[aM,ba,bA];omega)|(rw[bo,bQ];omega)),ae,show((x.1,(x.2.1,(x.2.2.1,x.2.2.2))):fy)=x from rfl,←h5,aoN (by omega),ai,
  az (a:=0) (by omega) (by omega) (by first|omega|(simp only[aM,ba,bA];omega)|(rw[bo,bQ];omega)),ae]
 unfold me
 cases fL (DK x l)<;>rfl
theorem aCH {x:fy}{l:List fy}{i:Nat}(hi:i≤l.length)(h:fL (l.take i++[x]++l.drop i)=true):(∀j (hj:j<l.length),j<i→fO l[j] x=true)∧∀j (hj:j<l.length),i≤j→fO x l[j]=true:=by
 unfold fL at h
 rw[aJ,ag2]at h
 have hr:=h.1.2
 have hlen:(l.take i++[x]++l.drop i).length=l.length+1:=by simp;omega
 have e0:∀j (hj:j<l.length) (Yb:j<i),(l.take i++[x]++l.drop i)[j]'(by omega)=l[j]:=fun j hj Yb=>by
  rw[ayU (by simp;omega),ayU (by simp;omega),List.getElem_take]
 have e1:(l.take i++[x]++l.drop i)[i]'(by omega)=x:=by
  rw[ayU (by simp;omega),List.getElem_append_right (by simp;omega)]
  simp
 have e2:∀j (hj:j<l.length) (Yb:i≤j),(l.take i++[x]++l.drop i)[j+1]'(by omega)=l[j]:=fun j hj Yb=>by
  rw[List.getElem_append_right (by simp;omega),List.getElem_drop]
  congr 1
  simp
  omega
 refine⟨fun j hj Yb=>?_,fun j hj Yb=>?_⟩
 ·have:=avv (q:=fO) (l:=l.take i++[x]++l.drop i) (fun a b c h1 h2=>Nk h1 h2) hr (i:=j) i Yb (by omega)
  rw[e0 j hj Yb,e1]at this
  exact this
 ·have:=avv (q:=fO) (l:=l.take i++[x]++l.drop i) (fun a b c h1 h2=>Nk h1 h2) hr (i:=i) (j+1) (by omega) (by omega)
  rw[e1,e2 j hj Yb]at this
  exact this
theorem apn {a b:fy}(h:fO a b=true):fO b a=false:=by
 cases h2:fO b a with
 |false=>rfl
 |true =>
  have:=Nk h h2
  rw[aEd]at this
  cases this
theorem aGB {x:fy}{l:List fy}{i k:Nat}(hi:i≤l.length)(hk:k≤l.length)(h1:∀j (h:j<l.length),j<i→fO l[j] x=true)(h2:∀h:i<l.length,fO l[i] x=false)
  (h3:∀j (h:j<l.length),j<k→fO x l[j]=false) (h4:∀h:k<l.length,fO x l[k]=true):fL (l.take k++[x]++l.drop k)=fL (l.take i++[x]++l.drop i)∧(fL (l.take i++[x]++l.drop i)=true→k=i):=by
 by_cases e:k=i
 ·subst e
  exact⟨rfl,fun _=>rfl⟩
 ·have n1:fL (l.take i++[x]++l.drop i)=false:=by
   cases h:fL (l.take i++[x]++l.drop i) with
   |false=>rfl
   |true =>
    have g:=(aCH hi h).2
    exfalso
    rcases Nat.lt_or_gt_of_ne e with h5|h5
    ·have a:=h4 (by omega)
     have b:=h1 k (by omega) h5
     rw[apn a]at b
     cases b
    ·have a:=g i (by omega) (b9 _)
     have b:=h3 i (by omega) h5
     rw[a]at b
     cases b
  have n2:fL (l.take k++[x]++l.drop k)=false:=by
   cases h:fL (l.take k++[x]++l.drop k) with
   |false=>rfl
   |true =>
    have g:=(aCH hk h).1
    exfalso
    rcases Nat.lt_or_gt_of_ne e with h5|h5
    ·have a:=h4 (by omega)
     have b:=h1 k (by omega) h5
     rw[apn a]at b
     cases b
    ·have a:=g i (by omega) h5
     have b:=h2 (by omega)
     rw[a]at b
     cases b
  exact⟨by rw[n1,n2],fun h=>by rw[n1]at h;cases h⟩
theorem axZ {x:fy}{l:List fy}(h:l.length≤1000000){k:Nat}(hk:k≤l.length)(h3:∀j (h:j<l.length),j<k→fO x l[j]=false)(h4:∀h:k<l.length,fO x l[k]=true) :
  br (!fL (l.take k++[x]++l.drop k)) (some (l,false,())) (some (l.take k++[x]++l.drop k,true,()))=some ((me l x).1,(me l x).2,()):=by
 obtain⟨i,h1,h2,h5,_⟩:=aln (fun n (k:Int)=>(some ():Option Unit)) l.length (fun k=>fO (l.getD k qJ) x) (fun k=>some ()) (fun n k hk=>by cases fO (l.getD k qJ) x<;>rfl) (fun n=>rfl) l.length 0 (l.length+1) (by omega) (fun i hi=>absurd hi (RH _)) (by omega)
 have g1:∀j (h:j<l.length),j<i→fO l[j] x=true:=fun j hj Yb=>by have:=h2 j Yb;rw[bp hj]at this;exact this
 have g2:∀h:i<l.length,fO l[i] x=false:=fun hi=>by have:=h5 hi;rw[bp hi]at this;exact this
 have hp:=abl (x:=x) h1 g1 g2
 obtain⟨e1,e2⟩:=aGB h1 hk g1 g2 h3 h4
 unfold me
 rw[hp,e1]
 cases ho:fL (l.take i++[x]++l.drop i) with
 |false=>rfl
 |true=>rw[e2 ho];rfl
theorem avw {l:List fy}(h:l.length≤1000000)(x:fy):H3 F0 l x=some ((me l x).1,(me l x).2,()):=by
 rw[akL,WA (by omega),ai,ai]
 have hc:jv F0 l=some (l,()):=WA (by omega)
 rcases agM (fun e=>QL e x) l 0 with ⟨h1,h2⟩|⟨k,hk,h1,h2,h3⟩
 ·have h1:qL (fun e=>QL e x) l 0=-1:=h1
  have hl:([x]:List fy).length=1:=rfl
  rw[h1,show decide ((-1:Int)<0)=true from rfl,af,IE (b9 _) (by simp) (by rw[hl];omega),ae,kH]
  dsimp only
  rw[Wt (by simp only[aM,ba,bA,bo,bQ];omega),ai]
  exact axZ h (b9 _) (fun j hj _=>h2 l[j] (dr hj)) (fun h=>absurd h (TT _))
 ·have h1:qL (fun e=>QL e x) l 0=((0+k:Nat):Int):=h1
  rw[w8]at h1
  have hl:([x]:List fy).length=1:=rfl
  rw[h1,show decide (((k:Nat):Int)<0)=false from aR (by omega),aa,ai,IE (k:=k) (a:=l.length) (b:=([x]:List fy).length) (by omega) (by simp) (by rw[hl];omega),ae,kH]
  dsimp only
  rw[Wt (by simp only[aM,ba,bA,bo,bQ];omega),ai]
  exact axZ h (by omega) (fun j hj hjk=>h3 j hj hjk) (fun _=>h2)
theorem aEe {l:nD}{x:fy}(h:axH (lE l x).2=false):(lE l x).1=l:=by
 revert h
 unfold lE
 split
 ·split
  ·intro _;rfl
  ·split
   ·intro _;rfl
   ·split
    ·intro h;cases h
    ·split
     ·intro h;cases h
     ·intro _;rfl
 ·intro _;rfl
def jn:nD→Nat→List fy→List fy
 |_,_,[]=>[]
 |_,0,_=>[]
 |l,n+1,x::p=>if axH (lE l x).2=true then x::jn (lE l x).1 n p else jn l (n+1) p
theorem ZV (l:nD):∀p:List fy,jn l 0 p=[]
 |[]=>rfl
 |_::_=>rfl
theorem ZW {l:nD}{n:Nat}{p:List fy}{k:Nat}(hk:k<p.length):jn l (n+1) (p.drop k)=if axH (lE l p[k]).2=true then p[k]::jn (lE l p[k]).1 n (p.drop (k+1)) else jn l (n+1) (p.drop (k+1)):=by
 rw[X8 hk,jn]
theorem ag3 {p:List fy}(hp:p.length≤1048576):∀(j k:Nat) (xs:List fy) (l:nD) (n:Nat),k+j=p.length→xs.length≤2→aa4 l→j<n →
  kx F0 (yO F0) n (iP p (k:Int) xs l.1 l.2)=some (xs++jn l (2-xs.length) (p.drop k),())
 |0,k,xs,l,n+1,hk,hx,h4,hn=>by
  obtain rfl:k=p.length:=by omega
  rw[Eg,aI,aa,F7,TR]
  cases 2-xs.length<;>simp[jn]
 |j+1,k,xs,l,n+1,hk,hx,h4,hn=>by
  have hk':k<p.length:=by omega
  rw[Eg,aW hk',af,F7]
  by_cases h2:xs.length<2
  ·obtain⟨m,hm⟩:∃m,2-xs.length=m+1:=⟨1-xs.length,by omega⟩
   have aKt:Jv F0 (l.1,l.2) p[k]=some ((lE l p[k]).1,(lE l p[k]).2,()):=au2 (l:=l) (by have:=h4.1;omega) (by have:=h4.2;omega) _
   rw[aL (show(xs.length:Int)<2 by omega),af,av hk',ae,bC hk',aKt,ai,ae,az (by omega) (by omega) (by first|omega|(simp only[aM,ba,bA];omega)|(rw[bo,bQ];omega)),ae,ao (by omega),hm,ZW hk']
   dsimp only
   rw[ag3 hp j (k+1) (xs++[p[k]]) (lE l p[k]).1 n (by omega) (by simp;omega) (aH5 h4 _) (by omega),ag3 hp j (k+1) xs l n (by omega) hx h4 (by omega),hm,show 2-(xs++[p[k]]).length=m by simp;omega]
   unfold axH
   cases (lE l p[k]).2==0<;>cases (lE l p[k]).2==4<;>simp[br]
  ·rw[aR (show ¬(xs.length:Int)<2 by omega),aa,show 2-xs.length=0 by omega,ZV,gE]
theorem ag4 {p:List fy}(hp:p.length≤1048576):∀(j k:Nat) (xs:List fy) (l:nD) (n:Nat),k+j=p.length→xs.length≤2→aa4 l→j<n →
  kF F0 (Aj F0) n (iS p (p.length:Int) (k:Int) l.1 l.2 xs)=some (xs++jn l (2-xs.length) (p.drop k),())
 |0,k,xs,l,n+1,hk,hx,h4,hn=>by
  obtain rfl:k=p.length:=by omega
  rw[EJ,aI,aa,GJ,TR]
  cases 2-xs.length<;>simp[jn]
 |j+1,k,xs,l,n+1,hk,hx,h4,hn=>by
  have hk':k<p.length:=by omega
  rw[EJ,aW hk',af,GJ,av hk',ae]
  by_cases h2:xs.length<2
  ·obtain⟨m,hm⟩:∃m,2-xs.length=m+1:=⟨1-xs.length,by omega⟩
   have aKt:Ko F0 (l.1,l.2) p[k]=some ((lE l p[k]).1,(lE l p[k]).2,()):=aoG (l:=l) (by have:=h4.1;omega) (by have:=h4.2;omega) _
   rw[cp.2 (show(xs.length:Int)≠2 by omega),aa,bC hk',aKt,ai,az (by omega) (by omega) (by first|omega|(simp only[aM,ba,bA];omega)|(rw[bo,bQ];omega)),ae,ao (by omega),hm,ZW hk']
   dsimp only
   rw[ag4 hp j (k+1) (xs++[p[k]]) (lE l p[k]).1 n (by omega) (by simp;omega) (aH5 h4 _) (by omega),ag4 hp j (k+1) xs (lE l p[k]).1 n (by omega) hx (aH5 h4 _) (by omega),hm,show 2-(xs++[p[k]]).length=m by simp;omega]
   have aGC:=aEe (l:=l) (x:=p[k])
   unfold axH at aGC ⊢
   cases h0:(lE l p[k]).2==0<;>cases h4:(lE l p[k]).2==4<;>simp[br]
   rw[h0,h4]at aGC
   rw[aGC rfl]
  ·rw[bB.2 (show(xs.length:Int)=2 by omega),af,show 2-xs.length=0 by omega,ZV,gE]
theorem avx {p:List fy}(hp:p.length≤1048576){l:nD}(h4:aa4 l):pB F0 p l=some (jn l 2 p,()):=by
 rw[afs,aa3 (by have:=h4.1;omega) (by have:=h4.2;omega),ai]
 exact ag3 hp p.length 0 [] l F0.n (by omega) (by simp) h4 (by rw[ch];omega)
theorem arf {p:List fy}(hp:p.length≤1048576){l:nD}(h4:aa4 l):pK F0 p l=some (jn l 2 p,()):=by
 rw[agw]
 exact ag4 hp p.length 0 [] l F0.n (by omega) (by simp) h4 (by rw[ch];omega)
theorem Rx:∀(p:List fy) (l:nD) (n:Nat),(jn l n p).length≤n
 |[],l,n=>by cases n<;>exact aV _
 |x::p,l,0=>b9 _
 |x::p,l,n+1=>by
  unfold jn
  split
  ·rw[ba]
   have:=Rx p (lE l x).1 n
   omega
  ·exact Rx p l (n+1)
def apo (p:List fy)(l:nD):List fy:=p.filter fun x=>(lE l x).2 != 2
theorem avy {p:List fy}(hp:p.length≤1048576){l:nD}(h1:l.1.length≤1048576)(h2:l.2.length≤1048576):CZ F0 p l=some (apo p l,()):=by
 rw[afK]
 refine alm (fun n k xs=>oZ F0 (zc F0) n (kZ p k l.1 l.2 xs)) p (fun x=>(lE l x).2 != 2) _ (fun n k xs hk hx=>?_) (fun n=>?_) _ (by rw[ch];omega)
 ·rw[El,aW hk,af,av hk,ae,ae,bC hk,show((l.1,l.2):nD)=l from rfl,au2 h1 h2,ai,az (by omega) (by omega) (by first|omega|(simp only[aM,ba,bA];omega)|(rw[bo,bQ];omega)),ae,ao (by omega)]
  cases (lE l p[k]).2 != 2<;>rfl
 ·rw[El,aI,aa,XR]
  rfl
theorem arh {p:List fy}(hp:p.length≤1048576){l:nD}(h1:l.1.length≤1048576)(h2:l.2.length≤1048576):jM F0 p l=some (apo p l,()):=by
 rw[agt]
 refine alm (fun n k xs=>pe F0 (Ai F0) n (lz p (p.length:Int) k l.1 l.2 xs)) p (fun x=>(lE l x).2 != 2) _ (fun n k xs hk hx=>?_) (fun n=>?_) _ (by rw[ch];omega)
 ·rw[EI,aW hk,af,av hk,ae,bC hk,show((l.1,l.2):nD)=l from rfl,aoG h1 h2,ai,az (by omega) (by omega) (by first|omega|(simp only[aM,ba,bA];omega)|(rw[bo,bQ];omega)),ae,ao (by omega)]
  cases (lE l p[k]).2 != 2<;>rfl
 ·rw[EI,aI,aa,X1]
  rfl
def eB (c:Int×Int)(view i:Int):List Int:=if 0≤bX c view i then ((List.range c.1.toNat).filter fun k:Nat=>decide (i∈ad0 c view (k:Int))).map fun k:Nat=>(k:Int) else []
theorem aiQ {c:Int×Int}(hc:bO c=true)(view i:Int):(eB c view i).length≤7:=by
 have:=cO hc
 unfold eB
 split
 ·rw[tZ]
  have:=av2 (fun k:Nat=>decide (i∈ad0 c view (k:Int))) (List.range c.1.toNat)
  rw[abH]at this
  omega
 ·exact aV _
theorem ax0 {γ:Type}(X:Nat→Int→List Int→Option γ)(N:Nat)(p:Nat→Bool)(R:Option γ)(hs:∀n k xs,k<N→xs.length≤k→X (n+1) (k:Int) xs=X n ((k+1:Nat):Int) (if p k=true then xs++[(k:Int)] else xs))
  (he:∀n,X (n+1) (N:Int) (((List.range N).filter p).map fun k:Nat=>(k:Int))=R) (n:Nat) (hn:N<n):X n 0 []=R:=by
 refine dp X N (fun k xs=>xs=((List.range k).filter p).map fun k:Nat=>(k:Int)) R (fun n k xs hk h=>.inr ⟨_,hs n k xs hk (by rw[h,tZ];exact cT (av2 _ _) (by rw[abH];omega)),?_⟩) (fun n xs h=>?_) n 0 [] (aV _) rfl (by omega)
 ·rw[List.range_succ,List.filter_append,aeO,h]
  cases hp:p k<;>simp[hp]
 ·rw[h]
  exact he n
theorem aEf {c:Int×Int}(hc:bO c=true)(view i:Int):QW F0 c view i=some (eB c view i,()):=by
 have hn:=cO hc
 have hN:(c.1.toNat:Int)=c.1:=by omega
 rw[aqx,jg,ai,hc,aK,aa]
 unfold eB
 by_cases hs:0≤bX c view i
 ·rw[ak hs]
  refine ax0 (fun n k xs=>y6 F0 (JF F0) n (ra view i k c.1 c.2 xs)) c.1.toNat (fun k:Nat=>decide (i∈ad0 c view (k:Int))) _ (fun n k xs hk hx=>?_) (fun n=>?_) F0.n (by rw[ch];omega)
  ·rw[y7,aL (show(k:Int)<c.1 by omega),af,show((c.1,c.2):Int×Int)=c from rfl,Wr,ai,aL (show bX c view i≥0 from hs),af,aH6,ai,gk (by have:=asv c view k;dsimp only;omega),ai,az (by omega) (by omega) (by first|omega|(simp only[aM,ba,bA];omega)|(rw[bo,bQ];omega)),ae,ao (by omega)]
   dsimp only
   cases decide (i∈ad0 c view (k:Int))<;>rfl
  ·rw[y7,aR (show ¬(c.1.toNat:Int)<c.1 by omega),aa,OZ]
 ·obtain⟨m,hm⟩:∃m,F0.n=m+1:=⟨F0.n-1,by rw[ch]⟩
  rw[ah hs,hm,y7,aL (show(0:Int)<c.1 by omega),af,show((c.1,c.2):Int×Int)=c from rfl,Wr,ai,aR (show ¬bX c view i≥0 from hs),aa,OZ]
theorem aAw {c:Int×Int}(hc:bO c=true)(view i:Int):Q7 F0 c view i=some (eB c view i,()):=by
 have hn:=cO hc
 have hN:(c.1.toNat:Int)=c.1:=by omega
 rw[aqY]
 unfold eB
 by_cases hs:0≤bX c view i
 ·rw[ak hs]
  refine ax0 (fun n k xs=>Ae F0 (Kg F0) n (rF view i k c.1 c.2 xs)) c.1.toNat (fun k:Nat=>decide (i∈ad0 c view (k:Int))) _ (fun n k xs hk hx=>?_) (fun n=>?_) F0.n (by rw[ch];omega)
  ·rw[Af,show((c.1,c.2):Int×Int)=c from rfl,IG,ai,aL (show bX c view i≥0 from hs),af,aL (show(k:Int)<c.1 by omega),af,aGj,ai,fI (by have:=asv c view k;dsimp only;omega),ai,az (by omega) (by omega) (by first|omega|(simp only[aM,ba,bA];omega)|(rw[bo,bQ];omega)),ae,ao (by omega)]
   dsimp only
   cases decide (i∈ad0 c view (k:Int))<;>rfl
  ·rw[Af,show((c.1,c.2):Int×Int)=c from rfl,IG,ai,aL (show bX c view i≥0 from hs),af,aR (show ¬(c.1.toNat:Int)<c.1 by omega),aa,PN]
 ·obtain⟨m,hm⟩:∃m,F0.n=m+1:=⟨F0.n-1,by rw[ch]⟩
  rw[ah hs,hm,Af,show((c.1,c.2):Int×Int)=c from rfl,IG,ai,aR (show ¬bX c view i≥0 from hs),aa,PN]
theorem NY {c:Int×Int}{q:di}(h:fN c q=true):uG q:=⟨(tC h).1.n,(tC h).1.w⟩
theorem EV {c:Int×Int}{q:di}(h:jh c q=true):q.2.1.size≤1048576∧q.2.2.length≤1000:=⟨(Xp h).1.n,cT (Xp h).2.1 (by omega)⟩
theorem ax1 {c:Int×Int}{s:bH}(h:bS c s=true):ko s:=⟨NY (fD h).2.2.1,cT (pO (fD h).2.2.2) (by omega)⟩
theorem IJ {c:Int×Int}{b:dk}(h:gD c b=true):b.1.size≤1048576∧uG b.2:=by
 simp only[gD,aJ]at h
 exact⟨cT (pO h.2.1) (by omega),NY h.1⟩
theorem gp:uG cP:=⟨aV _,aV _⟩
theorem avz {c:Int×Int}{m:cX}(h:en c m=true):gz m:=by
 unfold en at h
 simp only[aJ]at h
 obtain⟨hc,hs,hk⟩:=h
 have hn:=abh hs
 rw[←hn]
 by_cases k1:m.1=1
 ·rw[ak (by simpa using k1)]at hk
  have:=IJ hk
  simp only[named,k1]
  exact⟨this.1,this.2,gp,gp⟩
 ·by_cases k2:m.1=2
  ·rw[ah (by simpa using k1),ak (by simpa using k2)]at hk
   simp only[aJ]at hk
   have:=EV hk.1
   simp only[named,k2]
   exact⟨aV _,gp,⟨this.1,by show m.2.2.2.1.2.2.length≤_;omega⟩,gp⟩
  ·by_cases k3:m.1=3
   ·rw[ah (by simpa using k1),ah (by simpa using k2),ak (by simpa using k3)]at hk
    simp only[aJ]at hk
    simp only[named,k3]
    exact⟨aV _,gp,gp,NY hk.2.1⟩
   ·rw[ah (by simpa using k1),ah (by simpa using k2),ah (by simpa using k3)]at hk
    simp only[aJ,bB]at hk
    simp only[named,hk.1]
    exact⟨aV _,gp,gp,gp⟩
theorem asL {α:Type}{d:α}{p:α→Bool}{q:α→α→Bool}{l:List α}(h:Ws d p q l=true):∀x∈l,p x=true:=fun x hx=>by
 obtain⟨k,hk,rfl⟩:=ahh hx
 exact((ag2 d p q l).1 h).1 k hk
theorem wz {c:Int×Int}{l:List di}(h:fC c l=true):aAu l:=by
 simp only[fC,aJ,cH]at h
 exact⟨by omega,fun q hq=>EV (asL h.1 q hq)⟩
theorem abm {l:List fy}(h:fL l=true):l.length≤12∧∀x∈l,iG x=true:=by
 simp only[fL,aJ,cH]at h
 exact⟨by omega,asL h.1⟩
structure aGD (c:Int×Int) (r:aD):Prop where
 cf:bO c=true
 i:iH 0 (aj (c.1-1)) r.1=true
 v:iH 1 60 r.2.1=true
 a:iH 0 60 r.2.2.1=true
 s:bS c r.2.2.2.1=true
 p:fL r.2.2.2.2.1=true
 t:fC c r.2.2.2.2.2.1=true
 d:gm r.2.2.2.2.2.2.1=true
 n:r.2.2.2.2.2.2.2.length≤30
 h:∀x∈r.2.2.2.2.2.2.2,KF c r.1 x=true
theorem Cc {c:Int×Int}{r:aD}:nz c r=true↔aGD c r:=by
 unfold nz
 simp only[aJ,arz,as0,kj]
 constructor
 ·rintro⟨h1,h2,h3,h4,h5,h6,h7,h8,h9,Qr⟩
  exact⟨h1,h2,h3,h4,h5,h6,h7,h8,by omega,Qr⟩
 ·intro h
  exact⟨h.cf,h.i,h.v,h.a,h.s,h.p,h.t,h.d,by have:=h.n;omega,h.h⟩
structure bc (c:Int×Int) (r:aD):Prop where
 f:aGD c r
 b:∀x∈r.2.2.2.2.2.2.1.1,0≤x∧x≤255
theorem bc.ok {c:Int×Int}{r:aD}(h:bc c r):nz c r=true:=Cc.2 h.f
theorem ax2 {c:Int×Int}{i:Int}{x:km}(h:KF c i x=true):en c x.2=true:=by
 simp only[KF,aJ]at h
 exact h.1
theorem aGD.l {c:Int×Int}{r:aD}(h:aGD c r):aoS r :=
 ⟨ax1 h.s,cT (abm h.p).1 (by omega),cT (wz h.t).1 (by omega),fun q hq=>(wz h.t).l hq,cT h.n (by omega),fun q hq=>avz (ax2 (h.h q hq))⟩
theorem bc.bt {c:Int×Int}{r:aD}(h:bc c r):aD6 r:=⟨h.f.l,⟨cT (ef.1 h.f.d).1 (by omega),h.b⟩⟩
theorem bc.l {c:Int×Int}{r:aD}(h:bc c r):aoS r:=h.f.l
def WH (c:Int×Int)(r:aD)(tX:Int)(m:cX):Bool:=decide (r.2.2.2.2.2.2.2.length<30)&&(en c m&&(iH 0 (aj (c.1-1)) tX&& !(tX==r.1)))
def AA (r:aD)(p:km):aD:=(r.1,r.2.1,r.2.2.1,r.2.2.2.1,r.2.2.2.2.1,r.2.2.2.2.2.1,r.2.2.2.2.2.2.1,r.2.2.2.2.2.2.2++[p])
def nE (c:Int×Int)(r:aD)(tX:Int)(m:cX):aD×Bool:=if WH c r tX m=true then (AA r (tX,m),true) else (r,false)
theorem Nl {r:aD}(hl:r.2.2.2.2.2.2.2.length≤1048576){m:cX}(hm:gz m)(c:Int×Int)(tX:Int):gb F0 c r tX m=some (((nE c r tX m).1,(nE c r tX m).2,()),()):=by
 rw[ajV,II hm,ai,dz,ai,aiJ hm,ai,az (by omega) (by omega) (by first|omega|(simp only[aM,ba,bA];omega)|(rw[bo,bQ];omega)),ae]
 unfold nE WH
 by_cases h:r.2.2.2.2.2.2.2.length<30
 ·rw[aR (show ¬(r.2.2.2.2.2.2.2.length:Int)≥30 by omega),aL h]
  cases en c m<;>cases iH 0 (aj (c.1-1)) tX<;>cases (tX==r.1)<;>rfl
 ·rw[aL (show(r.2.2.2.2.2.2.2.length:Int)≥30 by omega),aR h]
  rfl
theorem apq {c:Int×Int}{r:aD}(h:aGD c r)(tX:Int)(m:cX):nz c (AA r (tX,m))=WH c r tX m:=by
 unfold WH
 by_cases hn:r.2.2.2.2.2.2.2.length<30
 ·rw[aL hn,jB]
  have e:(en c m&&(iH 0 (aj (c.1-1)) tX&& !(tX==r.1)))=KF c r.1 (tX,m):=rfl
  rw[e]
  cases hp:KF c r.1 (tX,m) with
  |true=>exact Cc.2 ⟨h.cf,h.i,h.v,h.a,h.s,h.p,h.t,h.d,by simp[AA];omega,fun x hx=>by
    rcases kI.1 hx with hx|hx
    ·exact h.h x hx
    ·rw[lZ.1 hx];exact hp⟩
  |false =>
   cases hr:nz c (AA r (tX,m)) with
   |false=>rfl
   |true =>
    have:=(Cc.1 hr).h (tX,m) (by simp[AA])
    exact absurd this (by show ¬KF c r.1 (tX,m)=true;rw[hp];decide)
 ·rw[aR hn]
  cases hr:nz c (AA r (tX,m)) with
  |false=>rfl
  |true =>
   have:=(Cc.1 hr).n
   simp[AA]at this
   omega
theorem bc.told {c:Int×Int}{r:aD}(h:bc c r)(tX:Int)(m:cX):bc c (nE c r tX m).1:=by
 unfold nE
 cases ht:WH c r tX m with
 |false=>exact h
 |true =>
  have:=apq h.f tX m
  rw[ht]at this
  exact⟨Cc.1 this,h.b⟩
theorem Xu {c:Int×Int}{r:aD}(h:bc c r){m:cX}(hm:gz m)(tX:Int):nr F0 c r tX m=some ((nE c r tX m).1,(nE c r tX m).2,()):=by
 have hn:=h.f.n
 have hl:aoS (AA r (tX,m)):=⟨h.l.s,h.l.p,h.l.t,h.l.tq,by simp[AA];omega,fun q hq=>by
  rcases kI.1 hq with hq|hq
  ·exact h.l.hm q hq
  ·rw[lZ.1 hq];exact hm⟩
 have dS:c8 F0 c (AA r (tX,m))=some (WH c r tX m,()):=by rw[eL hl,apq h.f]
 rw[auJ,eP h.bt,ai,aiK hm,ai,az (by omega) (by omega) (by first|omega|(simp only[aM,ba,bA];omega)|(rw[bo,bQ];omega)),ae]
 dsimp only
 rw[show((r.1,r.2.1,r.2.2.1,r.2.2.2.1,r.2.2.2.2.1,r.2.2.2.2.2.1,r.2.2.2.2.2.2.1,r.2.2.2.2.2.2.2++[(tX,m)]):aD)=AA r (tX,m) from rfl,dS,ai,ai]
 unfold nE
 cases WH c r tX m<;>rfl
def put (r:aD)(s:bH):aD:=(r.1,r.2.1,r.2.2.1,s,r.2.2.2.2.1,r.2.2.2.2.2.1,(r.2.2.2.2.2.2.1.1++eN s,r.2.2.2.2.2.2.1.2),r.2.2.2.2.2.2.2)
def lF (c:Int×Int)(r:aD)(s:bH):aD×Bool :=
 if iI r.2.2.2.1 s=true then (r,true) else if bS c s=true∧r.2.2.2.2.2.2.1.1.length+(eN s).length≤100000 then (put r s,true) else (r,false)
theorem apr (c:Int×Int)(s:bH):(WD c s).length≤12010:=by
 unfold WD
 split
 ·rename_i h;exact(agZ h).2
 ·exact aV _
theorem aps {c:Int×Int}{r:aD}{s:bH}(h:iI r.2.2.2.1 s=true):lF c r s=(r,true):=ak h
theorem asM {c:Int×Int}{r:aD}{s:bH}(h:iI r.2.2.2.1 s=false)(h2:bS c s=true)(h3:r.2.2.2.2.2.2.1.1.length+(eN s).length≤100000):lF c r s=(put r s,true):=by
 unfold lF
 rw[h,ah (by decide),ak ⟨h2,h3⟩]
theorem aer {c:Int×Int}{r:aD}{s:bH}(h:iI r.2.2.2.1 s=false)(h2:¬(bS c s=true∧r.2.2.2.2.2.2.1.1.length+(eN s).length≤100000)):lF c r s=(r,false):=by
 unfold lF
 rw[h,ah (by decide),ah h2]
theorem aes {d:pj}{b:List Int}(h:gm d=true)(h2:d.1.length+b.length≤100000):Ni d b=((d.1++b,d.2),true):=ak ⟨h,h2⟩
theorem aCI {d:pj}{b:List Int}(h2:¬d.1.length+b.length≤100000):Ni d b=(d,false):=ah fun h=>h2 h.2
theorem Ry {c:Int×Int}{s:bH}(h:bS c s=true):WD c s=eN s:=ak h
theorem asN {c:Int×Int}{s:bH}(h:bS c s=false):WD c s=[]:=ah (by rw[h];decide)
theorem Rz {c:Int×Int}{r:aD}(h:bc c r){s:bH}(hs:ko s):fp F0 c r s=some (if (lF c r s).2=true then ((lF c r s).1,true,aoW) else (aoW,false,r)):=by
 have hn:=apr c s
 have hd:=h.bt.d.1
 have hd2:=(ef.1 h.f.d).1
 rw[afA,avj h.l.s hs,ai,arc hs,ai,aAs hd (cT hn (by omega)),ai,B7 hs,ai,Nd hs,ai]
 cases h1:iI r.2.2.2.1 s with
 |true =>
  rw[aps h1]
  rfl
 |false =>
  cases h2:bS c s with
  |false =>
   rw[aer h1 (fun h=>by rw[h2]at h;cases h.1),asN h2,aes h.f.d (by rw[bA];omega)]
   rfl
  |true =>
   by_cases h3:r.2.2.2.2.2.2.1.1.length+(eN s).length≤100000
   ·rw[asM h1 h2 h3,Ry h2,aes h.f.d h3]
    rfl
   ·rw[aer h1 (fun h=>h3 h.2),Ry h2,aCI h3]
    rfl
theorem ari (a b:bH):iI a b=iI b a:=by
 unfold iI
 rw[M8,show(a.1==b.1)=(b.1==a.1) from FU,show(a.2.1==b.2.1)=(b.2.1==a.2.1) from FU,show(a.2.2.2.toList==b.2.2.2.toList)=(b.2.2.2.toList==a.2.2.2.toList) from FU]
theorem bc.put {c:Int×Int}{r:aD}(h:bc c r){s:bH}(hs:bS c s=true)(hd:r.2.2.2.2.2.2.1.1.length+(eN s).length≤100000):bc c (put r s):=by
 refine⟨⟨h.f.cf,h.f.i,h.f.v,h.f.a,hs,h.f.p,h.f.t,ef.2 ⟨?_,(ef.1 h.f.d).2.1,?_⟩,h.f.n,h.f.h⟩,fJ h.b (axQ s)⟩
 ·show(r.2.2.2.2.2.2.1.1++eN s).length≤_
  rw[aM]
  exact hd
 ·show r.2.2.2.2.2.2.1.2≤((r.2.2.2.2.2.2.1.1++eN s).length:Int)
  have:=(ef.1 h.f.d).2.2
  rw[aM]
  omega
theorem bc.wrote {c:Int×Int}{r:aD}(h:bc c r)(s:bH):bc c (lF c r s).1:=by
 unfold lF
 split
 ·exact h
 ·split
  ·rename_i h2
   exact h.put h2.1 h2.2
  ·exact h
theorem abn {c:Int×Int}{r:aD}(h:bc c r){s:bH}(hs:ko s):wT F0 c r s=some ((lF c r s).1,(lF c r s).2,()):=by
 have hn:=apr c s
 have hd:=h.bt.d.1
 have hd2:=(ef.1 h.f.d).1
 rw[aqV,eP h.bt,ai,eL h.l,ai,h.ok,aK,aa,NU hs,ai,aph hs,ai,axW hd (cT hn (by omega)),ai,Ik hs,ai,ai,ari]
 dsimp only
 have hb:∀d:pj,c8 F0 c (r.1,r.2.1,r.2.2.1,s,r.2.2.2.2.1,r.2.2.2.2.2.1,d,r.2.2.2.2.2.2.2)=some (nz c (r.1,r.2.1,r.2.2.1,s,r.2.2.2.2.1,r.2.2.2.2.2.1,d,r.2.2.2.2.2.2.2),()):=fun d =>
  eL (r:=(r.1,r.2.1,r.2.2.1,s,r.2.2.2.2.1,r.2.2.2.2.2.1,d,r.2.2.2.2.2.2.2)) ⟨hs,h.l.p,h.l.t,h.l.tq,h.l.h,h.l.hm⟩ c
 rw[hb,ai]
 cases h1:iI r.2.2.2.1 s with
 |true =>
  rw[aps h1]
  rfl
 |false =>
  cases h2:bS c s with
  |false =>
   have bad:∀d:pj,nz c (r.1,r.2.1,r.2.2.1,s,r.2.2.2.2.1,r.2.2.2.2.2.1,d,r.2.2.2.2.2.2.2)=false:=fun d=>by
    cases hr:nz c (r.1,r.2.1,r.2.2.1,s,r.2.2.2.2.1,r.2.2.2.2.2.1,d,r.2.2.2.2.2.2.2) with
    |false=>rfl
    |true =>
     have:=(Cc.1 hr).s
     exact absurd this (by show ¬bS c s=true;rw[h2];decide)
   rw[aer h1 (fun h=>by rw[h2]at h;cases h.1),asN h2,aes h.f.d (by rw[bA];omega),bad]
   rfl
  |true =>
   by_cases h3:r.2.2.2.2.2.2.1.1.length+(eN s).length≤100000
   ·have hg:=(h.put h2 h3).ok
    rw[asM h1 h2 h3,Ry h2,aes h.f.d h3]
    dsimp only
    rw[show nz c (r.1,r.2.1,r.2.2.1,s,r.2.2.2.2.1,r.2.2.2.2.2.1,(r.2.2.2.2.2.2.1.1++eN s,r.2.2.2.2.2.2.1.2),r.2.2.2.2.2.2.2)=true from hg]
    rfl
   ·rw[aer h1 (fun h=>h3 h.2),Ry h2,aCI h3]
    rfl
theorem aAx {b:ByteArray}(h:(kg b).2=true):cr (kg b).1.data.toList=true:=by
 unfold kg at h ⊢
 split at h
 ·rename_i hs
  rw[ak hs]
  have h1:cr b.data.toList=true:=by
   unfold Xt at hs
   cases h2:(cD b.data.toList).2 with
   |true=>exact h2
   |false=>rw[Wn h2]at hs;cases hs
  show cr (upB (upB b)).data.toList=true
  unfold upB
  rw[iL,iL]
  exact aGq (aGq h1)
 ·cases h
theorem aKu {c:Int×Int}{s:bH}(h:bS c s=true)(q:di):bS c (see c s q)=true:=by
 unfold see
 split
 ·rename_i hh
  obtain⟨h1,h2,h3,h4⟩:=fD h
  have hv:=P8 (upL q.2.1.data.toList)
  simp only[bS,iH,aJ,cH]
  refine⟨h1,?_,?_,?_⟩
  ·unfold xP
   split<;>omega
  ·unfold Xs
   split
   ·exact hh.2
   ·exact h3
  ·split
   ·rename_i hx;exact aAx hx.1
   ·exact h4
 ·exact h
def A3 (r:aD)(v:Int):aD:=(r.1,xP r.2.1 v,r.2.2)
theorem bc.raised {c:Int×Int}{r:aD}(h:bc c r){v:Int}(hv:v≤60):bc c (A3 r v):=by
 refine⟨⟨h.f.cf,h.f.i,?_,h.f.a,h.f.s,h.f.p,h.f.t,h.f.d,h.f.n,h.f.h⟩,h.b⟩
 have:=h.f.v
 simp only[iH,aJ,cH]at this
 show iH 1 60 (xP r.2.1 v)=true
 simp only[iH,aJ,cH]
 unfold xP
 split<;>omega
def mf (v:Int)(q:di)(dm:Int):cX:=(3,v,(al,cP),cP,q,dm,qJ)
def AB (p:di):cX:=(2,0,(al,cP),p,cP,0,qJ)
def ax3 (b:dk):cX:=(1,0,b,cP,cP,0,qJ)
theorem Qg {v:Int}{q:di}(h:uG q)(dm:Int):gz (mf v q dm):=⟨aV _,gp,gp,h⟩
theorem ag5 {p:di}(h:uG p):gz (AB p):=⟨aV _,gp,h,gp⟩
theorem abo {b:dk}(h1:b.1.size≤1048576)(h2:uG b.2):gz (ax3 b):=⟨h1,h2,gp,gp⟩
def written (c:Int×Int)(r:aD)(q:di):aD×Bool:=lF c r (see c r.2.2.2.1 q)
def tL (c:Int×Int)(r:aD)(q:di):aD×Bool :=
 if (written c r q).2=true then
  if aj (q.1+1)>60 then ((written c r q).1,true)
  else if cG c (aj (q.1+1))=r.1 then (A3 (written c r q).1 (aj (q.1+1)),true)
  else nE c (A3 (written c r q).1 (aj (q.1+1))) (cG c (aj (q.1+1))) (mf (aj (q.1+1)) q r.1)
 else (r,false)
theorem aet {c:Int×Int}{r:aD}{s:bH}:(lF c r s).1.1=r.1:=by
 unfold lF
 split
 ·rfl
 ·split<;>rfl
def WI (c:Int×Int)(p:di):Bool:= !ed p.2.1&&fN c p
theorem asO (b:ByteArray):ed b=decide (b.data.toList=[]):=by
 cases h:ed b with
 |true=>rw[aL ((KJ b).1 h)]
 |false =>
  rw[aR]
  intro h2
  rw[(KJ b).2 h2]at h
  cases h
theorem aEg {p:di}(h:uG p)(c:Int×Int):Ek F0 c p=some (if WI c p=true then p else cP,WI c p,()):=by
 have:=az0 (v:=p.1) (l:=p.2.1.data.toList) (s:=p.2.2) (Tv h.1) (cT h.2 (by omega)) c
 rw[show((p.1,tx p.2.1.data.toList,p.2.2):di)=p from rfl]at this
 rw[this]
 unfold WI fN Wo
 rw[asO]
 by_cases h0:p.2.1.data.toList=[]
 ·rw[ah (fun hh=>hh.1 h0),aL h0]
  rfl
 ·rw[aR h0]
  cases hq:X4 c (p.1,p.2.1.data.toList,p.2.2) with
  |true=>rw[ak ⟨h0,rfl⟩];rfl
  |false=>rw[ah (fun hh=>by cases hh.2)];rfl
theorem aAy {p:di}(h:uG p)(c:Int×Int):EH F0 c p=some (if WI c p=true then p else cP,WI c p,()):=by
 have:=axk (v:=p.1) (l:=p.2.1.data.toList) (s:=p.2.2) (Tv h.1) (cT h.2 (by omega)) c
 rw[show((p.1,tx p.2.1.data.toList,p.2.2):di)=p from rfl]at this
 rw[this]
 unfold WI fN Wo
 rw[asO]
 by_cases h0:p.2.1.data.toList=[]
 ·rw[ah (fun hh=>hh.1 h0),aL h0]
  rfl
 ·rw[aR h0]
  cases hq:X4 c (p.1,p.2.1.data.toList,p.2.2) with
  |true=>rw[ak ⟨h0,rfl⟩];rfl
  |false=>rw[ah (fun hh=>by cases hh.2)];rfl
theorem bc.w {c:Int×Int}{r:aD}(h:bc c r)(q:di):bc c (written c r q).1:=h.wrote _
theorem apt {c:Int×Int}{r:aD}(h:bc c r)(q:di):ko (see c r.2.2.2.1 q):=ax1 (aKu h.f.s q)
theorem aAz {c:Int×Int}{r:aD}(h:bc c r){p:di}(hp:uG p):LO F0 c r p=some (if WI c p=true then ((tL c r p).1,(tL c r p).2,()) else (r,false,()),()):=by
 rw[am5,aEg hp,ai]
 cases hq:WI c p with
 |false=>rfl
 |true =>
  dsimp only
  rw[aK,aa,ak rfl,ak rfl,avs h.l.s hp,ai,Rz h (apt h p),ai]
  have hw:bc c (written c r p).1:=h.w p
  unfold tL
  unfold written at hw ⊢
  generalize lF c r (see c r.2.2.2.1 p)=W at hw ⊢
  cases h2:W.2 with
  |false=>rw[ah (by decide),ah (by decide)];rfl
  |true =>
   have ht:gb F0 c (W.1.1,xP W.1.2.1 (aj (p.1+1)),W.1.2.2) (cG c (aj (p.1+1))) (3,aj (p.1+1),(al,0,al,[]),(0,al,[]),p,r.1,0,0,0,0)=some (((nE c (A3 W.1 (aj (p.1+1))) (cG c (aj (p.1+1))) (mf (aj (p.1+1)) p r.1)).1,(nE c (A3 W.1 (aj (p.1+1))) (cG c (aj (p.1+1))) (mf (aj (p.1+1)) p r.1)).2,()),()) :=
    Nl (r:=A3 W.1 (aj (p.1+1))) (cT hw.f.n (by omega)) (Qg (v:=aj (p.1+1)) hp r.1) c (cG c (aj (p.1+1)))
   rw[ak rfl,ak rfl]
   simp only[ai,KB,Cb,ht,af]
   by_cases h3:aj (p.1+1)>60
   ·rw[aL h3,af,ak h3]
   ·rw[aR h3,aa,ah h3]
    by_cases h4:cG c (aj (p.1+1))=r.1
    ·rw[ak h4,bB.2 h4,af]
     rfl
    ·rw[ah h4,cp.2 h4,aa]
theorem aAA {c:Int×Int}{r:aD}(h:bc c r){q:di}(hq:uG q):Kf F0 c r q=some ((tL c r q).1,(tL c r q).2,()):=by
 have hw:bc c (written c r q).1:=h.w q
 rw[aqW,apj h.l.s hq,ai,abn h (apt h q),ai]
 unfold tL
 unfold written at hw ⊢
 generalize lF c r (see c r.2.2.2.1 q)=W at hw ⊢
 obtain⟨W1,W2⟩:=W
 cases W2 with
 |false=>rfl
 |true =>
  show _=some ((if aj (q.1+1)>60 then (W1,true) else if cG c (aj (q.1+1))=r.1 then (A3 W1 (aj (q.1+1)),true) else nE c (A3 W1 (aj (q.1+1))) (cG c (aj (q.1+1))) (mf (aj (q.1+1)) q r.1)).1,(if aj (q.1+1)>60 then (W1,true) else if cG c (aj (q.1+1))=r.1 then (A3 W1 (aj (q.1+1)),true) else nE c (A3 W1 (aj (q.1+1))) (cG c (aj (q.1+1))) (mf (aj (q.1+1)) q r.1)).2,())
  by_cases h3:aj (q.1+1)>60
  ·rw[aL h3,ak h3]
   rfl
  ·have ht:nr F0 c (W1.1,(if aj (q.1+1)>W1.2.1 then aj (q.1+1) else W1.2.1,W1.2.2)) (cG c (aj (q.1+1))) (3,aj (q.1+1),(al,0,al,[]),(0,al,[]),q,r.1,0,0,0,0)=some ((nE c (A3 W1 (aj (q.1+1))) (cG c (aj (q.1+1))) (mf (aj (q.1+1)) q r.1)).1,(nE c (A3 W1 (aj (q.1+1))) (cG c (aj (q.1+1))) (mf (aj (q.1+1)) q r.1)).2,()) :=
    Xu (hw.raised (v:=aj (q.1+1)) (by omega)) (Qg (v:=aj (q.1+1)) hq r.1) (cG c (aj (q.1+1)))
   rw[aR h3,ah h3]
   simp only[ai,IF,ht,aa,aK]
   by_cases h4:cG c (aj (q.1+1))=r.1
   ·rw[ak h4,show(cG c (aj (q.1+1)) != r.1)=false by simp[h4],aa]
    rfl
   ·rw[ah h4,show(cG c (aj (q.1+1)) != r.1)=true by simp[h4],af]
theorem bc.aIr {c:Int×Int}{r:aD}(h:bc c r)(q:di):bc c (tL c r q).1:=by
 unfold tL
 split
 ·split
  ·exact h.w q
  ·split
   ·exact(h.w q).raised (by omega)
   ·exact((h.w q).raised (by omega)).told _ _
 ·exact h
def gG (c:Int×Int)(r:aD)(view:Int)(name:ByteArray)(push:Bool):aD×Bool :=
 if (ep r.2.2.2.2.2.1 view name).2.2.length=0∨ed name=true then (r,false)
 else if cG c view=r.1 then
  if WI c (ep r.2.2.2.2.2.1 view name)=true∧(tL c r (ep r.2.2.2.2.2.1 view name)).2=true then ((tL c r (ep r.2.2.2.2.2.1 view name)).1,true) else (r,false)
 else if push=false∧cmn (ep r.2.2.2.2.2.1 view name).2.2 (eB c view r.1)<(eB c view r.1).length then (r,false)
 else nE c r (P9 c view r.1) (AB (ep r.2.2.2.2.2.1 view name))
section
variable {c:Int×Int} {r:aD} {view:Int} {name:ByteArray} {push:Bool} {p:di} (hP:ep r.2.2.2.2.2.1 view name=p)
include hP
theorem aeu (h:p.2.2.length=0∨ed name=true):gG c r view name push=(r,false):=by
 subst hP
 exact ak h
theorem avA (h1:¬(p.2.2.length=0∨ed name=true))(h3:cG c view=r.1)(h:WI c p=true∧(tL c r p).2=true):gG c r view name push=((tL c r p).1,true):=by
 subst hP
 unfold gG
 rw[ah h1,ak h3,ak h]
theorem aev (h1:¬(p.2.2.length=0∨ed name=true))(h3:cG c view=r.1)(h:¬(WI c p=true∧(tL c r p).2=true)):gG c r view name push=(r,false):=by
 subst hP
 unfold gG
 rw[ah h1,ak h3,ah h]
theorem avB (h1:¬(p.2.2.length=0∨ed name=true))(h3:¬cG c view=r.1)(h:push=false∧cmn p.2.2 (eB c view r.1)<(eB c view r.1).length):gG c r view name push=(r,false):=by
 subst hP
 unfold gG
 rw[ah h1,ah h3,ak h]
theorem aew (h1:¬(p.2.2.length=0∨ed name=true))(h3:¬cG c view=r.1)(h:¬(push=false∧cmn p.2.2 (eB c view r.1)<(eB c view r.1).length)):gG c r view name push=nE c r (P9 c view r.1) (AB p):=by
 subst hP
 unfold gG
 rw[ah h1,ah h3,ah h]
end
theorem ax4 {l:List di}(hl:∀q∈l,uG q){name:ByteArray}(hn:name.size≤1048576)(view:Int):uG (ep l view name):=by
 unfold ep
 cases h:l.find? (fun x=>(x.1==view)&&(x.2.1.toList==name.toList)) with
 |none=>exact⟨hn,aV _⟩
 |some x=>exact hl x (X7 h)
theorem bc.avC {c:Int×Int}{r:aD}(h:bc c r)(view:Int)(name:ByteArray)(push:Bool):bc c (gG c r view name push).1:=by
 unfold gG
 split
 ·exact h
 ·split
  ·split
   ·exact h.aIr _
   ·exact h
  ·split
   ·exact h
   ·exact h.told _ _
theorem RA {c:Int×Int}{r:aD}(h:bc c r)(view:Int){name:ByteArray}(hn:name.size≤1048576)(push:Bool) :
  ∃x,pE F0 c r view name push=some ((x,(gG c r view name push).2,()),())∧((gG c r view name push).2=true→x=(gG c r view name push).1):=by
 have hp:=ax4 h.l.tq hn view
 have hu:=aiQ h.f.cf view r.1
 have ht:=Nl (r:=r) (cT h.f.n (by omega)) (ag5 hp) c (P9 c view r.1)
 have ht':((gb F0 c r (P9 c view r.1) (2,0,(al,0,al,[]),ep r.2.2.2.2.2.1 view name,(0,al,[]),0,0,0,0,0)).bind fun r74=>some ((r74.1.1,r74.1.2.1,()),()))=some (((nE c r (P9 c view r.1) (AB (ep r.2.2.2.2.2.1 view name))).1,(nE c r (P9 c view r.1) (AB (ep r.2.2.2.2.2.1 view name))).2,()),()):=by
  refine A5 (AJ (fun x=>Option.bind x _) ht) ?_
  rfl
 rw[afE,Rw h.l.t h.l.tq,ai,KB,ai,aAz h hp,ai,aEf h.f.cf,ai,az1 (a:=eB c view r.1) (by omega) hp.2,ai,aGh]
 simp only[ai,ht']
 generalize hP:ep r.2.2.2.2.2.1 view name=p at *
 by_cases h1:p.2.2.length=0
 ·rw[aeu hP (.inl h1),show((p.2.2.length:Int)==0)=true from bB.2 (by omega),af]
  exact⟨r,rfl,fun h=>by cases h⟩
 ·rw[show((p.2.2.length:Int)==0)=false from cp.2 (by omega),aa]
  cases h2:ed name with
  |true =>
   rw[aeu hP (.inr h2),show(name.toList==al.toList)=true from h2,af]
   exact⟨r,rfl,fun h=>by cases h⟩
  |false =>
   have n1:¬(p.2.2.length=0∨ed name=true):=fun hh=>hh.elim h1 (by rw[h2];decide)
   rw[show(name.toList==al.toList)=false from h2,aa]
   by_cases h3:cG c view=r.1
   ·rw[bB.2 h3,af]
    cases h4:WI c p with
    |false =>
     rw[aev hP n1 h3 (fun hh=>by rw[h4]at hh;cases hh.1)]
     exact⟨r,rfl,fun h=>by cases h⟩
    |true =>
     cases h5:(tL c r p).2 with
     |false =>
      rw[aev hP n1 h3 (fun hh=>by rw[h5]at hh;cases hh.2)]
      exact⟨_,rfl,fun h=>by cases h⟩
     |true =>
      rw[avA hP n1 h3 ⟨h4,h5⟩]
      exact⟨_,rfl,fun _=>rfl⟩
   ·rw[cp.2 h3,aa]
    cases push with
    |true =>
     rw[aew hP n1 h3 (fun hh=>by cases hh.1)]
     exact⟨_,rfl,fun _=>rfl⟩
    |false =>
     by_cases h6:cmn p.2.2 (eB c view r.1)<(eB c view r.1).length
     ·rw[avB hP n1 h3 ⟨rfl,h6⟩,eZ,af,aL (show(cmn p.2.2 (eB c view r.1):Int)<(eB c view r.1).length by omega),af]
      exact⟨r,rfl,fun h=>by cases h⟩
     ·rw[aew hP n1 h3 (fun hh=>h6 hh.2),eZ,af,aR (show ¬(cmn p.2.2 (eB c view r.1):Int)<(eB c view r.1).length by omega),aa]
      exact⟨_,rfl,fun _=>rfl⟩
theorem aEh {c:Int×Int}{r:aD}(h:bc c r)(view:Int){name:ByteArray}(hn:name.size≤1048576)(push:Bool):QX F0 c r view name push=some (if (gG c r view name push).2=true then ((gG c r view name push).1,true,()) else (r,false,())):=by
 obtain⟨x,h1,h2⟩:=RA h view hn push
 rw[aqH,iT h.l,ai,h.ok,aK,aa,eO h.bt,ai,h1,ai,ai]
 cases h3:(gG c r view name push).2 with
 |true=>rw[h2 h3];rfl
 |false=>rfl
theorem abp {c:Int×Int}{r:aD}(h:bc c r)(view:Int){name:ByteArray}(hn:name.size≤1048576)(push:Bool):oC F0 c r view name push=some ((gG c r view name push).1,(gG c r view name push).2,()):=by
 have hp:=ax4 h.l.tq hn view
 have hu:=aiQ h.f.cf view r.1
 have ht:=Xu h (ag5 hp) (P9 c view r.1)
 have ht':((nr F0 c r (P9 c view r.1) (2,0,(al,0,al,[]),ep r.2.2.2.2.2.1 view name,(0,al,[]),0,0,0,0,0)).bind fun r93=>some (r93.1,r93.2.1,()))=some ((nE c r (P9 c view r.1) (AB (ep r.2.2.2.2.2.1 view name))).1,(nE c r (P9 c view r.1) (AB (ep r.2.2.2.2.2.1 view name))).2,()):=by
  refine A5 (AJ (fun x=>Option.bind x _) ht) ?_
  rfl
 have hcr:Kf F0 c r (if WI c (ep r.2.2.2.2.2.1 view name)=true then ep r.2.2.2.2.2.1 view name else cP)=some ((tL c r (if WI c (ep r.2.2.2.2.2.1 view name)=true then ep r.2.2.2.2.2.1 view name else cP)).1,(tL c r (if WI c (ep r.2.2.2.2.2.1 view name)=true then ep r.2.2.2.2.2.1 view name else cP)).2,()):=aAA h (by split;exact hp;exact gp)
 rw[aq0,ZU h.l.t h.l.tq,ai,eP h.bt,ai,eL h.l,ai,h.ok,aK,aa,IF,ai,aAy hp,ai,aAw h.f.cf,ai,axp (a:=eB c view r.1) (by omega) hp.2,ai,aCy]
 simp only[ai,ht',hcr]
 generalize hP:ep r.2.2.2.2.2.1 view name=p at *
 by_cases h1:p.2.2.length=0
 ·rw[aeu hP (.inl h1),show((p.2.2.length:Int)==0)=true from bB.2 (by omega),af]
 ·rw[show((p.2.2.length:Int)==0)=false from cp.2 (by omega),aa]
  cases h2:ed name with
  |true =>
   rw[aeu hP (.inr h2),show(name.toList==al.toList)=true from h2,af]
  |false =>
   have n1:¬(p.2.2.length=0∨ed name=true):=fun hh=>hh.elim h1 (by rw[h2];decide)
   rw[show(name.toList==al.toList)=false from h2,aa]
   by_cases h3:cG c view=r.1
   ·rw[bB.2 h3,af]
    cases h4:WI c p with
    |false =>
     rw[aev hP n1 h3 (fun hh=>by rw[h4]at hh;cases hh.1)]
     rfl
    |true =>
     rw[ak rfl,aK,aa]
     cases h5:(tL c r p).2 with
     |false =>
      rw[aev hP n1 h3 (fun hh=>by rw[h5]at hh;cases hh.2)]
      rfl
     |true =>
      rw[avA hP n1 h3 ⟨h4,h5⟩]
      rfl
   ·rw[cp.2 h3,aa]
    cases push with
    |true =>
     rw[aew hP n1 h3 (fun hh=>by cases hh.1)]
     rfl
    |false =>
     by_cases h6:cmn p.2.2 (eB c view r.1)<(eB c view r.1).length
     ·rw[avB hP n1 h3 ⟨rfl,h6⟩,eZ,af,aL (show(cmn p.2.2 (eB c view r.1):Int)<(eB c view r.1).length by omega),af]
     ·rw[aew hP n1 h3 (fun hh=>h6 hh.2),eZ,af,aR (show ¬(cmn p.2.2 (eB c view r.1):Int)<(eB c view r.1).length by omega),aa]
def aCJ:dk:=(al,cP)
def Qh (q:di)(view:Int)(l:List fy):ByteArray:=tx (Rr q.2.1.data.toList view l)
def ka (c:Int×Int)(q:di)(view:Int)(l:List fy):dk×Bool:=if gD c (Qh q view l,q)=true∧bu (Qh q view l).data.toList=view then ((Qh q view l,q),true) else (aCJ,false)
theorem apu {c:Int×Int}{q:di}(hq:fN c q=true){view:Int}(hv:I64 view){l:List fy}(hl:l.length≤100):(Qh q view l).size≤1048576:=by
 have h1:=(tC hq).2.2
 have h2:=asH (up:=q.2.1.data.toList) hv l
 unfold Qh
 rw[bP]
 have:q.2.1.data.toList.length=q.2.1.size:=rfl
 omega
theorem Xv (a b:Int):(a != b)= !decide (a=b):=by
 by_cases h:a=b
 ·simp[h]
 ·simp[h]
theorem aex {c:Int×Int}{q:di}(hq:fN c q=true){view:Int}(hv:I64 view){l:List fy}(hl:l.length≤100):pC F0 c q view l=some ((ka c q view l).1,(ka c q view l).2,()):=by
 have h1:=(tC hq).2.2
 have hs:=apu hq hv hl
 have hN:kW F0 q.2.1 view l=some (Qh q view l,()):=ao5 (up:=q.2.1.data.toList) (by show q.2.1.size≤_;omega) hv (by omega)
 rw[afv,hN,ai,w6 (NY hq).2,ai,M9 (b:=(Qh q view l,q)) hs (NY hq),ai,pM hs,ai]
 unfold ka
 dsimp only
 rw[Xv]
 cases gD c (Qh q view l,q) with
 |false=>rw[ah (fun h=>by cases h.1)];rfl
 |true =>
  by_cases h:bu (Qh q view l).data.toList=view
  ·rw[ak ⟨rfl,h⟩,aL h];rfl
  ·rw[ah (fun hh=>h hh.2),aR h];rfl
theorem arj {c:Int×Int}{q:di}(hq:fN c q=true){view:Int}(hv:I64 view){l:List fy}(hl:l.length≤2):uE F0 c q view l=some ((ka c q view l).1,(ka c q view l).2,()):=by
 have h1:=(tC hq).2.2
 have hs:=apu hq hv (l:=l) (by omega)
 have hN:EK F0 q.2.1 view l=some (Qh q view l,()):=axK (up:=q.2.1.data.toList) (by show q.2.1.size≤_;omega) hv (by omega)
 rw[agz,hN,ai,xH (NY hq).2,ai,Ie (b:=(Qh q view l,q)) hs (NY hq),ai,rN hs,ai]
 unfold ka
 dsimp only
 rw[Xv]
 cases gD c (Qh q view l,q) with
 |false=>rw[ah (fun h=>by cases h.1)];rfl
 |true =>
  by_cases h:bu (Qh q view l).data.toList=view
  ·rw[ak ⟨rfl,h⟩,aL h];rfl
  ·rw[ah (fun hh=>h hh.2),aR h];rfl
theorem ax5 {c:Int×Int}{q:di}{view:Int}{l:List fy}(h:(ka c q view l).2=true):gD c (ka c q view l).1=true∧bu (ka c q view l).1.1.data.toList=view∧(ka c q view l).1.2=q:=by
 unfold ka at h ⊢
 split at h
 ·rename_i hh
  rw[ak hh]
  exact⟨hh.1,hh.2,rfl⟩
 ·cases h
def Nn (c:Int×Int)(l:List di)(view:Int):Bool:=decide (((ep l view al).2.2.length:Int)≥Kz c)
def aCK (c:Int×Int)(r:aD):Bool:=decide (cG c r.2.1=r.1)&&(!decide (r.2.2.1≥r.2.1)&&(decide (r.2.2.2.1.2.2.1.1=aj (r.2.1-1)) || Nn c r.2.2.2.2.2.1 r.2.1))
def ag6 (r:aD):List fy:=jn (rM au3 (ao3 r.2.2.2.1.2.2.1.2.1)) 2 r.2.2.2.2.1
def ask (c:Int×Int)(r:aD):dk×Bool:=if aCK c r=true then ka c r.2.2.2.1.2.2.1 r.2.1 (ag6 r) else (aCJ,false)
theorem bc.view {c:Int×Int}{r:aD}(h:bc c r):1≤r.2.1∧r.2.1≤60:=by
 have:=h.f.v
 simp only[iH,aJ,cH]at this
 exact this
theorem aGE (a b:Int):decide (a<b)= !decide (a≥b):=by
 by_cases h:a<b
 ·rw[aL h,aR (by omega)];rfl
 ·rw[aR h,aL (by omega)];rfl
theorem apv (r:aD):(ag6 r).length≤2:=Rx _ _ _
theorem aCL {c:Int×Int}{r:aD}(h:bc c r):U2 F0 c r=some ((ask c r).1,(ask c r).2,()):=by
 have hv:=h.view
 have hq:=(fD h.f.s).2.2.1
 have hp4:aa4 (rM au3 (ao3 r.2.2.2.1.2.2.1.2.1)):=Xh abe
 have hB:=aex (c:=c) (q:=r.2.2.2.1.2.2.1) hq (view:=r.2.1) ⟨by omega,by omega⟩ (l:=ag6 r) (by have:=apv r;omega)
 have hT:pB F0 r.2.2.2.2.1 (rM au3 (ao3 r.2.2.2.1.2.2.1.2.1))=some (ag6 r,()):=avx h.l.p hp4
 have hq2:uG r.2.2.2.1.2.2.1:=h.l.s.1
 rw[awX,iT h.l,ai,h.ok,aK,aa,KB,ai,Rw h.l.t h.l.tq,ai,aa6,ai,ZN,ai,axG hq2.1,ai,aoH abe (cT (Qe _) (by omega))]
 simp only[ai,hT,hB]
 unfold ask aCK Nn
 rw[Xv,Xv,aGE]
 cases decide (cG c r.2.1=r.1)<;>cases decide (r.2.2.1≥r.2.1)<;>cases decide (r.2.2.2.1.2.2.1.1=aj (r.2.1-1))<;>cases decide (((ep r.2.2.2.2.2.1 r.2.1 al).2.2.length:Int)≥Kz c)<;>rfl
theorem apw {c:Int×Int}{r:aD}(h:aoS r)(view:Int):th F0 c r view=some (Nn c r.2.2.2.2.2.1 view,()):=by
 rw[auN,ZU h.t h.tq,ai,aiz,ai]
 rfl
theorem aGF {c:Int×Int}{r:aD}(h:bc c r):adP F0 c r=some ((ask c r).1,(ask c r).2,()):=by
 have hv:=h.view
 have hq:=(fD h.f.s).2.2.1
 have hp4:aa4 (rM au3 (ao3 r.2.2.2.1.2.2.1.2.1)):=Xh abe
 have hB:=arj (c:=c) (q:=r.2.2.2.1.2.2.1) hq (view:=r.2.1) ⟨by omega,by omega⟩ (l:=ag6 r) (apv r)
 have hT:pK F0 r.2.2.2.2.1 (rM au3 (ao3 r.2.2.2.1.2.2.1.2.1))=some (ag6 r,()):=arf h.l.p hp4
 have hq2:uG r.2.2.2.1.2.2.1:=h.l.s.1
 rw[aw8,eL h.l,ai,h.ok,aK,aa,IF,ai,apw h.l,ai,Wk,ai,asE hq2.1,ai,aiF abe (cT (Qe _) (by omega))]
 simp only[ai,hT,hB]
 unfold ask aCK
 rw[Xv,Xv]
 cases decide (cG c r.2.1=r.1)<;>cases decide (r.2.2.1≥r.2.1)<;>cases decide (r.2.2.2.1.2.2.1.1=aj (r.2.1-1))<;>cases Nn c r.2.2.2.2.2.1 r.2.1<;>rfl
theorem aGG {c:Int×Int}{r:aD}(h:(ask c r).2=true):aCK c r=true∧gD c (ask c r).1=true∧bu (ask c r).1.1.data.toList=r.2.1∧(ask c r).1.2=r.2.2.2.1.2.2.1:=by
 unfold ask at h ⊢
 split at h
 ·rename_i hh
  rw[ak hh]
  exact⟨hh,ax5 h⟩
 ·cases h
def ZX (r:aD):aD:=(r.1,r.2.1,r.2.2.1,r.2.2.2.1,r.2.2.2.2.1,r.2.2.2.2.2.1,po r.2.2.2.2.2.2.1,[])
theorem ax6 {c:Int×Int}{r:aD}(h:bc c r):Hz F0 c r=some (ZX r,r.2.2.2.2.2.2.2,()):=by
 rw[aj5,eO h.bt,ai,iT h.l,ai,h.ok,aK,aa,aGy h.bt.d.1,ai,aek h.l.h h.l.hm,ai]
 rfl
theorem avD {c:Int×Int}{r:aD}(h:bc c r):HQ F0 c r=some (ZX r,r.2.2.2.2.2.2.2,()):=by
 rw[aku,eP h.bt,ai,eL h.l,ai,h.ok,aK,aa,aEa h.bt.d.1,ai]
 rfl
theorem ax7 {d:pj}(h:gm d=true):gm (po d)=true:=by
 unfold po
 rw[ak h]
 have:=ef.1 h
 exact ef.2 ⟨this.1,by dsimp only;omega,by dsimp only;omega⟩
theorem avE (d:pj):(po d).1=d.1:=by unfold po;split<;>rfl
theorem bc.ZX {c:Int×Int}{r:aD}(h:bc c r):bc c (ZX r) :=
 ⟨⟨h.f.cf,h.f.i,h.f.v,h.f.a,h.f.s,h.f.p,h.f.t,ax7 h.f.d,aV _,fun x hx=>by cases hx⟩,by show ∀x∈(po r.2.2.2.2.2.2.1).1,_;rw[avE];exact h.b⟩
def lG (r:aD)(v:Int):aD:=(r.1,v,r.2.2)
def gC (r:aD)(t:List di):aD:=(r.1,r.2.1,r.2.2.1,r.2.2.2.1,r.2.2.2.2.1,t,r.2.2.2.2.2.2)
theorem bc.lG {c:Int×Int}{r:aD}(h:bc c r){v:Int}(h1:1≤v)(h2:v≤60):bc c (lG r v) :=
 ⟨⟨h.f.cf,h.f.i,by show iH 1 60 v=true;simp[iH,h1,h2],h.f.a,h.f.s,h.f.p,h.f.t,h.f.d,h.f.n,h.f.h⟩,h.b⟩
theorem bc.gC {c:Int×Int}{r:aD}(h:bc c r){t:List di}(ht:fC c t=true):bc c (gC r t) :=
 ⟨⟨h.f.cf,h.f.i,h.f.v,h.f.a,h.f.s,h.f.p,ht,h.f.d,h.f.n,h.f.h⟩,h.b⟩
theorem pP {c:Int×Int}{l:List di}(h:fC c l=true)(p:di):fC c (bM c l p).1=true:=by
 unfold bM
 split
 ·rename_i hh;exact hh.2
 ·exact h
def one (v:Int)(name:ByteArray)(i:Int):di:=(v,name,[i])
def GN (c:Int×Int)(r:aD):aD×Bool :=
 if r.2.1≥60 then (r,false)
 else if cG c (aj (r.2.1+1))=r.1 then
  if (bM c r.2.2.2.2.2.1 (one (aj (r.2.1+1)) al r.1)).2=true then (gC (lG r (aj (r.2.1+1))) (bM c r.2.2.2.2.2.1 (one (aj (r.2.1+1)) al r.1)).1,true) else (r,false)
 else if (nE c (lG r (aj (r.2.1+1))) (cG c (aj (r.2.1+1))) (mf (aj (r.2.1+1)) r.2.2.2.1.2.2.1 r.1)).2=true then ((nE c (lG r (aj (r.2.1+1))) (cG c (aj (r.2.1+1))) (mf (aj (r.2.1+1)) r.2.2.2.1.2.2.1 r.1)).1,true) else (r,false)
theorem aGH {c:Int×Int}{r:aD}(h:bc c r):W7 F0 c r=some ((GN c r).1,(GN c r).2,()):=by
 have hv:=h.view
 have hq:=(fD h.f.s).2.2.1
 have hT:fP F0 c r.2.2.2.2.2.1 (aj (r.2.1+1),al,[r.1])=some ((bM c r.2.2.2.2.2.1 (one (aj (r.2.1+1)) al r.1)).1,(bM c r.2.2.2.2.2.1 (one (aj (r.2.1+1)) al r.1)).2,()):=Io (wz h.f.t) ⟨aV _,by show 1≤1000;omega⟩ c
 have ht:gb F0 c (r.1,aj (r.2.1+1),r.2.2) (cG c (aj (r.2.1+1))) (3,aj (r.2.1+1),(al,0,al,[]),(0,al,[]),r.2.2.2.1.2.2.1,r.1,0,0,0,0)=some (((nE c (lG r (aj (r.2.1+1))) (cG c (aj (r.2.1+1))) (mf (aj (r.2.1+1)) r.2.2.2.1.2.2.1 r.1)).1,(nE c (lG r (aj (r.2.1+1))) (cG c (aj (r.2.1+1))) (mf (aj (r.2.1+1)) r.2.2.2.1.2.2.1 r.1)).2,()),()) :=
  Nl (r:=lG r (aj (r.2.1+1))) h.l.h (Qg h.l.s.1 r.1) c _
 rw[aus,eO h.bt,ai,iT h.l,ai,h.ok,aK,aa,KB,ai]
 simp only[ai,hT,ht]
 unfold GN
 by_cases h1:r.2.1≥60
 ·rw[ak h1,aL h1,af]
 ·rw[ah h1,aR h1,aa]
  by_cases h2:cG c (aj (r.2.1+1))=r.1
  ·rw[ak h2,bB.2 h2,af]
   cases (bM c r.2.2.2.2.2.1 (one (aj (r.2.1+1)) al r.1)).2<;>rfl
  ·rw[ah h2,cp.2 h2,aa]
   cases (nE c (lG r (aj (r.2.1+1))) (cG c (aj (r.2.1+1))) (mf (aj (r.2.1+1)) r.2.2.2.1.2.2.1 r.1)).2<;>rfl
theorem aEi {c:Int×Int}{r:aD}(h:bc c r):Xe F0 c r=some ((GN c r).1,(GN c r).2,()):=by
 have hv:=h.view
 have hT:fv F0 c r.2.2.2.2.2.1 (aj (r.2.1+1),al,[r.1])=some ((bM c r.2.2.2.2.2.1 (one (aj (r.2.1+1)) al r.1)).1,(bM c r.2.2.2.2.2.1 (one (aj (r.2.1+1)) al r.1)).2,()):=DJ (wz h.f.t) ⟨aV _,by show 1≤1000;omega⟩ c
 rw[auP,eP h.bt,ai,eL h.l,ai,h.ok,aK,aa]
 unfold GN
 by_cases h1:r.2.1≥60
 ·rw[ak h1,bB.2 (show r.2.1=60 by omega),af]
 ·have hw:aj (r.2.1+1)=r.2.1+1:=aH (by omega) (by omega)
  have ht:nr F0 c (r.1,aj (r.2.1+1),r.2.2) (cG c (aj (r.2.1+1))) (3,aj (r.2.1+1),(al,0,al,[]),(0,al,[]),r.2.2.2.1.2.2.1,r.1,0,0,0,0)=some ((nE c (lG r (aj (r.2.1+1))) (cG c (aj (r.2.1+1))) (mf (aj (r.2.1+1)) r.2.2.2.1.2.2.1 r.1)).1,(nE c (lG r (aj (r.2.1+1))) (cG c (aj (r.2.1+1))) (mf (aj (r.2.1+1)) r.2.2.2.1.2.2.1 r.1)).2,()) :=
   Xu (h.lG (v:=aj (r.2.1+1)) (by omega) (by omega)) (Qg h.l.s.1 r.1) _
  rw[ah h1,cp.2 (show r.2.1≠60 by omega),aa]
  simp only[ai,hT,ht,IF]
  by_cases h2:cG c (aj (r.2.1+1))=r.1
  ·rw[ak h2,bB.2 h2,af]
   cases (bM c r.2.2.2.2.2.1 (one (aj (r.2.1+1)) al r.1)).2<;>rfl
  ·rw[ah h2,cp.2 h2,aa]
   cases (nE c (lG r (aj (r.2.1+1))) (cG c (aj (r.2.1+1))) (mf (aj (r.2.1+1)) r.2.2.2.1.2.2.1 r.1)).2<;>rfl
theorem bc.aMC {c:Int×Int}{r:aD}(h:bc c r):bc c (GN c r).1:=by
 have hv:=h.view
 unfold GN
 split
 ·exact h
 ·rename_i h1
  have hw:aj (r.2.1+1)=r.2.1+1:=aH (by omega) (by omega)
  have hs:=h.lG (v:=aj (r.2.1+1)) (by omega) (by omega)
  split
  ·split
   ·exact hs.gC (pP h.f.t _)
   ·exact h
  ·split
   ·exact hs.told _ _
   ·exact h
def w7 (c:Int×Int)(r:aD)(m:cX):Nat→Nat→aD→aD×Bool
 |0,_,o=>(o,true)
 |j+1,k,o=>if (k:Int)=r.1 then w7 c r m j (k+1) o else if (nE c o (k:Int) m).2=true then w7 c r m j (k+1) (nE c o (k:Int) m).1 else (r,false)
def RB (c:Int×Int)(r:aD)(m:cX):aD×Bool:=w7 c r m c.1.toNat 0 r
theorem apx {c:Int×Int}{r:aD}(h:bc c r)(m:cX):∀(j k:Nat) (o:aD),bc c o→bc c (w7 c r m j k o).1
 |0,_,_,ho=>ho
 |j+1,k,o,ho=>by
  unfold w7
  split
  ·exact apx h m j (k+1) o ho
  ·split
   ·exact apx h m j (k+1) _ (ho.told _ _)
   ·exact h
theorem bc.aIs {c:Int×Int}{r:aD}(h:bc c r)(m:cX):bc c (RB c r m).1:=apx h m _ _ _ h
theorem ag7 {c:Int×Int}{r:aD}(h:bc c r){m:cX}(hm:gz m):∀(j k:Nat) (z:aD) (n:Nat),(k:Int)+j=c.1→bc c z→j<n→c.1≤100 →
  rj F0 (sG F0) n (mQ (k:Int) c.1 c.2 r.1 r.2.1 r.2.2.1 r.2.2.2.1.1 r.2.2.2.1.2.1 r.2.2.2.1.2.2.1.1 r.2.2.2.1.2.2.1.2.1 r.2.2.2.1.2.2.1.2.2 r.2.2.2.1.2.2.2 r.2.2.2.2.1 r.2.2.2.2.2.1 r.2.2.2.2.2.2.1.1 r.2.2.2.2.2.2.1.2 r.2.2.2.2.2.2.2 m.1 m.2.1 m.2.2.1.1 m.2.2.1.2.1 m.2.2.1.2.2.1 m.2.2.1.2.2.2 m.2.2.2.1.1 m.2.2.2.1.2.1 m.2.2.2.1.2.2 m.2.2.2.2.1.1 m.2.2.2.2.1.2.1 m.2.2.2.2.1.2.2 m.2.2.2.2.2.1 m.2.2.2.2.2.2.1 m.2.2.2.2.2.2.2.1 m.2.2.2.2.2.2.2.2.1 m.2.2.2.2.2.2.2.2.2 0 0 0 0 0 0 al al 0 z.1 z.2.1 z.2.2.1 z.2.2.2.1.1 z.2.2.2.1.2.1 z.2.2.2.1.2.2.1.1 z.2.2.2.1.2.2.1.2.1 z.2.2.2.1.2.2.2 z.2.2.2.2.2.2.1.2 [] [] [] [] [] z.2.2.2.1.2.2.1.2.2 z.2.2.2.2.1 z.2.2.2.2.2.1 z.2.2.2.2.2.2.1.1 z.2.2.2.2.2.2.2)
   = some ((w7 c r m j k z).1,(w7 c r m j k z).2,())
 |0,k,z,n+1,hk,hz,hn,hc=>by
  rw[Gl,aR (show ¬(k:Int)<c.1 by omega),aa,aaI]
  rfl
 |j+1,k,z,n+1,hk,hz,hn,hc=>by
  have ht:=Nl (r:=z) hz.l.h hm c (k:Int)
  have hcp:=eO h.bt
  rw[Gl,aL (show(k:Int)<c.1 by omega),af,show((c.1,c.2):Int×Int)=c from rfl]
  refine A5 (AJ (fun x=>br ((k:Int)==r.1) _ (Option.bind x _)) ht) ?_
  rw[ai]
  dsimp only
  unfold w7
  by_cases h1:(k:Int)=r.1
  ·rw[ak h1,bB.2 h1,af,ao (by omega)]
   exact ag7 h hm j (k+1) z n (by omega) hz (by omega) hc
  ·rw[ah h1,cp.2 h1,aa]
   cases h2:(nE c z (k:Int) m).2 with
   |true =>
    rw[aK,aa,ak rfl,ao (by omega)]
    exact ag7 h hm j (k+1) _ n (by omega) (hz.told _ _) (by omega) hc
   |false =>
    rw[eZ,af,ah (by decide)]
    refine A5 (AJ (fun x=>Option.bind x _) hcp) ?_
    rw[ai,ac2]
theorem ax8 {c:Int×Int}{r:aD}(h:bc c r){m:cX}(hm:gz m):zl F0 c r m=some ((RB c r m).1,(RB c r m).2,()):=by
 have hn:=cO h.f.cf
 rw[aj3,eO h.bt,ai,iT h.l,ai,h.ok,aK,aa]
 exact ag7 h hm c.1.toNat 0 r F0.n (by omega) h (by rw[ch];omega) (by omega)
theorem abq {c:Int×Int}{r:aD}(h:bc c r){m:cX}(hm:gz m):∀(j k:Nat) (z:aD) (n:Nat),(k:Int)+j=c.1→bc c z→j<n→c.1≤100 →
  rI F0 (tv F0) n (nv (k:Int) c.1 c.2 r.1 r.2.1 r.2.2.1 r.2.2.2.1.1 r.2.2.2.1.2.1 r.2.2.2.1.2.2.1.1 r.2.2.2.1.2.2.1.2.1 r.2.2.2.1.2.2.1.2.2 r.2.2.2.1.2.2.2 r.2.2.2.2.1 r.2.2.2.2.2.1 r.2.2.2.2.2.2.1.1 r.2.2.2.2.2.2.1.2 r.2.2.2.2.2.2.2 m.1 m.2.1 m.2.2.1.1 m.2.2.1.2.1 m.2.2.1.2.2.1 m.2.2.1.2.2.2 m.2.2.2.1.1 m.2.2.2.1.2.1 m.2.2.2.1.2.2 m.2.2.2.2.1.1 m.2.2.2.2.1.2.1 m.2.2.2.2.1.2.2 m.2.2.2.2.2.1 m.2.2.2.2.2.2.1 m.2.2.2.2.2.2.2.1 m.2.2.2.2.2.2.2.2.1 m.2.2.2.2.2.2.2.2.2 0 0 0 0 0 0 al al 0 z.1 z.2.1 z.2.2.1 z.2.2.2.1.1 z.2.2.2.1.2.1 z.2.2.2.1.2.2.1.1 z.2.2.2.1.2.2.1.2.1 z.2.2.2.1.2.2.2 z.2.2.2.2.2.2.1.2 [] [] [] [] [] z.2.2.2.1.2.2.1.2.2 z.2.2.2.2.1 z.2.2.2.2.2.1 z.2.2.2.2.2.2.1.1 z.2.2.2.2.2.2.2)
   = some ((w7 c r m j k z).1,(w7 c r m j k z).2,())
 |0,k,z,n+1,hk,hz,hn,hc=>by
  rw[GL,aR (show ¬(k:Int)<c.1 by omega),aa,aa1]
  rfl
 |j+1,k,z,n+1,hk,hz,hn,hc=>by
  have ht:=Xu hz hm (k:Int)
  have hcp:=eP h.bt
  rw[GL,aL (show(k:Int)<c.1 by omega),af,show((c.1,c.2):Int×Int)=c from rfl]
  refine A5 (AJ (fun x=>br ((k:Int)==r.1) _ (Option.bind x _)) ht) ?_
  rw[ai]
  dsimp only
  unfold w7
  by_cases h1:(k:Int)=r.1
  ·rw[ak h1,bB.2 h1,af,ao (by omega)]
   exact abq h hm j (k+1) z n (by omega) hz (by omega) hc
  ·rw[ah h1,cp.2 h1,aa]
   cases h2:(nE c z (k:Int) m).2 with
   |true =>
    rw[aK,aa,ak rfl,ao (by omega)]
    exact abq h hm j (k+1) _ n (by omega) (hz.told _ _) (by omega) hc
   |false =>
    rw[eZ,af,ah (by decide)]
    refine A5 (AJ (fun x=>Option.bind x _) hcp) ?_
    rw[ai,adR]
theorem avF {c:Int×Int}{r:aD}(h:bc c r){m:cX}(hm:gz m):Aq F0 c r m=some ((RB c r m).1,(RB c r m).2,()):=by
 have hn:=cO h.f.cf
 rw[akR,eP h.bt,ai,eL h.l,ai,h.ok,aK,aa]
 exact abq h hm c.1.toNat 0 r F0.n (by omega) h (by rw[ch];omega) (by omega)
theorem aey {α:Type}{d:α}{p:α→Bool}{q:α→α→Bool}(tr:∀a b c,q a b=true→q b c=true→q a c=true){l:List α}(h:Ws d p q l=true)(f:α→Bool):Ws d p q (l.filter f)=true:=by
 rw[ag2]at h ⊢
 have hp:l.Pairwise fun a b=>q a b=true:=List.pairwise_iff_getElem.2 fun i j hi hj hij=>avv tr h.2 j hij hj
 have hf:=hp.filter f
 refine⟨fun k hk=>?_,fun k hk=>List.pairwise_iff_getElem.1 hf k (k+1) (by omega) hk (by omega)⟩
 have hm:=(List.mem_filter.1 (dr hk)).1
 obtain⟨i,hi,he⟩:=ahh hm
 rw[←he]
 exact h.1 i hi
theorem apy:∀{a b c:List UInt8},Op.bytesLess a b=true→Op.bytesLess b c=true→Op.bytesLess a c=true
 |[],[],_,h,_=>by cases h
 |_::_,[],_,h,_=>by cases h
 |_,_::_,[],_,h=>by cases h
 |[],_::_,_::_,_,_=>rfl
 |x::a,y::b,z::c,h1,h2=>by
  simp only[Op.bytesLess,mh,aJ,cH,bB]at h1 h2 ⊢
  rcases h1 with h1|⟨rfl,h1⟩
  ·rcases h2 with h2|⟨rfl,h2⟩
   ·exact .inl (UInt8.lt_trans h1 h2)
   ·exact .inl h1
  ·rcases h2 with h2|⟨rfl,h2⟩
   ·exact .inl h2
   ·exact .inr ⟨rfl,apy h1 h2⟩
theorem ark (a b c:di)(h1:gl a b=true)(h2:gl b c=true):gl a c=true:=by
 simp only[gl,mh,aJ,cH,bB]at *
 rcases h1 with h1|⟨e1,h1⟩
 ·rcases h2 with h2|⟨e2,h2⟩
  ·exact .inl (by omega)
  ·exact .inl (by omega)
 ·rcases h2 with h2|⟨e2,h2⟩
  ·exact .inl (by omega)
  ·exact .inr ⟨by omega,apy h1 h2⟩
theorem apz {c:Int×Int}{l:List di}(h:fC c l=true)(f:di→Bool):fC c (l.filter f)=true:=by
 simp only[fC,aJ,cH]at h ⊢
 have:=av2 f l
 exact⟨aey ark h.1 f,by omega⟩
theorem arl {l:List fy}(h:fL l=true)(f:fy→Bool):fL (l.filter f)=true:=by
 simp only[fL,aJ,cH]at h ⊢
 have:=av2 f l
 exact⟨aey (q:=fO) (fun a b c h1 h2=>Nk h1 h2) h.1 f,by omega⟩
theorem aAB {l:List fy}(h:fL l=true)(x:fy):fL (me l x).1=true:=by
 unfold me
 split
 ·rename_i hh;exact hh
 ·exact h
def qG (b:dk):Int:=bu b.1.data.toList
def own (c:Int×Int)(r:aD)(name:ByteArray):aD×Bool :=
 if (bM c r.2.2.2.2.2.1 (one (bu name.data.toList) name r.1)).2=true then ((gG c (gC r (bM c r.2.2.2.2.2.1 (one (bu name.data.toList) name r.1)).1) (bu name.data.toList) name false).1,true) else (r,false)
theorem aIt {c:Int×Int}{r:aD}{tX:Int}{m:cX}(h:(nE c r tX m).2=false):(nE c r tX m).1=r:=by
 unfold nE at h ⊢
 cases ht:WH c r tX m with
 |true=>rw[ht,ak rfl]at h;cases h
 |false=>rfl
theorem ax9 {c:Int×Int}{r:aD}{view:Int}{name:ByteArray}{push:Bool}(h:(gG c r view name push).2=false):(gG c r view name push).1=r:=by
 by_cases h1:(ep r.2.2.2.2.2.1 view name).2.2.length=0∨ed name=true
 ·rw[aeu rfl h1]
 ·by_cases h3:cG c view=r.1
  ·by_cases h4:WI c (ep r.2.2.2.2.2.1 view name)=true∧(tL c r (ep r.2.2.2.2.2.1 view name)).2=true
   ·rw[avA rfl h1 h3 h4]at h
    cases h
   ·rw[aev rfl h1 h3 h4]
  ·by_cases h4:push=false∧cmn (ep r.2.2.2.2.2.1 view name).2.2 (eB c view r.1)<(eB c view r.1).length
   ·rw[avB rfl h1 h3 h4]
   ·rw[aew rfl h1 h3 h4]at h ⊢
    exact aIt h
theorem bc.owned {c:Int×Int}{r:aD}(h:bc c r)(name:ByteArray):bc c (own c r name).1:=by
 unfold own
 split
 ·exact(h.gC (pP h.f.t _)).avC _ _ _
 ·exact h
theorem aAC {c:Int×Int}{r:aD}(h:bc c r){name:ByteArray}(hn:name.size≤1048576):nJ F0 c r name=some (((own c r name).1,(own c r name).2,()),()):=by
 have hT:fP F0 c r.2.2.2.2.2.1 (bu name.data.toList,name,[r.1])=some ((bM c r.2.2.2.2.2.1 (one (bu name.data.toList) name r.1)).1,(bM c r.2.2.2.2.2.1 (one (bu name.data.toList) name r.1)).2,()):=Io (wz h.f.t) ⟨hn,by show 1≤1000;omega⟩ c
 have hg:=h.gC (pP h.f.t (one (bu name.data.toList) name r.1))
 have hc:bh F0 (r.1,r.2.1,r.2.2.1,r.2.2.2.1,r.2.2.2.2.1,(bM c r.2.2.2.2.2.1 (one (bu name.data.toList) name r.1)).1,r.2.2.2.2.2.2)=some (gC r (bM c r.2.2.2.2.2.1 (one (bu name.data.toList) name r.1)).1,()):=eO hg.bt
 obtain⟨x,hx,hx2⟩:=RA hg (bu name.data.toList) hn false
 rw[ane,pM hn]
 simp only[ai,hT,hc,hx,pM hn]
 unfold own
 cases h1:(bM c r.2.2.2.2.2.1 (one (bu name.data.toList) name r.1)).2 with
 |false=>rfl
 |true =>
  rw[ak rfl,aK,aa]
  cases h2:(gG c (gC r (bM c r.2.2.2.2.2.1 (one (bu name.data.toList) name r.1)).1) (bu name.data.toList) name false).2 with
  |true=>rw[hx2 h2];rfl
  |false=>rw[ax9 h2];rfl
def nB (r:aD)(b:dk):aD:=if qG b≥r.2.1 then lG r (qG b) else r
def qH (c:Int×Int)(r:aD)(b:dk):Bool:=decide (qG b≥r.2.1)&&oL c (see c r.2.2.2.1 b.2) b
def Cd (c:Int×Int)(r:aD)(b:dk):bH:=if qH c r b=true then (qG b,(see c r.2.2.2.1 b.2).2) else see c r.2.2.2.1 b.2
def EW (c:Int×Int)(r:aD)(b:dk)(Qi:Bool)(W:aD×Bool):aD×Bool :=
 if W.2=true then (if Qi=true then (if (own c W.1 b.1).2=true then ((own c W.1 b.1).1,true) else (r,false)) else (W.1,true)) else (r,false)
def gT (c:Int×Int)(r:aD)(b:dk):aD×Bool:=EW c r b (qH c r b) (lF c (nB r b) (Cd c r b))
theorem bc.nB {c:Int×Int}{r:aD}(h:bc c r)(b:dk):bc c (nB r b):=by
 unfold Tryz.nB
 have:=h.view
 have hv:=P8 b.1.data.toList
 split
 ·exact h.lG (by unfold qG at *;omega) (by unfold qG at *;omega)
 ·exact h
theorem aya {c:Int×Int}{r:aD}(h:bc c r)(b:dk):ko (Cd c r b):=by
 have:=apt h b.2
 unfold Cd
 split
 ·exact this
 ·exact this
theorem bc.EW {c:Int×Int}{r:aD}(h:bc c r)(b:dk)(Qi:Bool){W:aD×Bool}(hw:bc c W.1):bc c (EW c r b Qi W).1:=by
 unfold Tryz.EW
 split
 ·split
  ·split
   ·exact hw.owned _
   ·exact h
  ·exact hw
 ·exact h
theorem bc.apA {c:Int×Int}{r:aD}(h:bc c r)(b:dk):bc c (gT c r b).1:=h.EW b _ ((h.nB b).wrote _)
theorem aAD {c:Int×Int}{r:aD}{b:dk}(hb1:b.1.size≤1048576)(Qi:Bool){W:aD×Bool}(hw:bc c W.1)(x:aD) :
  ((some (if W.2=true then (W.1,true,aoW) else (aoW,false,x)):Option (aD×Bool×aD)).bind fun YS=>br YS.2.1 (br Qi ((nJ F0 c YS.1 b.1).bind fun r80=>br (!r80.1.2.1) (some (r,false,())) (some (r80.1.1,true,()))) (some (YS.1,true,()))) (some (r,false,())))=some ((EW c r b Qi W).1,(EW c r b Qi W).2,()):=by
 have hO:=aAC hw hb1
 obtain⟨W1,W2⟩:=W
 unfold EW
 cases W2 with
 |false=>rfl
 |true =>
  cases Qi with
  |false=>rfl
  |true =>
   dsimp only at hO ⊢
   rw[ak rfl,ak rfl,ak rfl,ai]
   dsimp only
   rw[af,af,hO,ai]
   cases h:(own c W1 b.1).2<;>rfl
theorem ayb {c:Int×Int}{s:bH}{b:dk}(h:oL c s b=true):axV c s b=((qG b,s.2),true):=ak h
theorem aIu {c:Int×Int}{s:bH}{b:dk}(h:oL c s b=false):axV c s b=(s,false):=ah (by rw[h];decide)
theorem aGI {c:Int×Int}{r:aD}{b:dk}(h1:qG b≥r.2.1)(h2:oL c (see c r.2.2.2.1 b.2) b=true):qH c r b=true∧Cd c r b=(qG b,(see c r.2.2.2.1 b.2).2):=by
 have:qH c r b=true:=by unfold qH;rw[aL h1,h2];rfl
 exact⟨this,ak this⟩
theorem aCM {c:Int×Int}{r:aD}{b:dk}(h:¬(qG b≥r.2.1∧oL c (see c r.2.2.2.1 b.2) b=true)):qH c r b=false∧Cd c r b=see c r.2.2.2.1 b.2:=by
 have:qH c r b=false:=by
  unfold qH
  by_cases h1:qG b≥r.2.1
  ·cases h2:oL c (see c r.2.2.2.1 b.2) b with
   |true=>exact absurd ⟨h1,h2⟩ h
   |false=>rw[ahm]
  ·rw[aR h1];rfl
 exact⟨this,ah (by rw[this];decide)⟩
theorem ZY {c:Int×Int}{r:aD}(h:bc c r){b:dk}(hb:gD c b=true):rb F0 c r b=some ((gT c r b).1,(gT c r b).2,()):=by
 obtain⟨hb1,hb2⟩:=IJ hb
 have hsl:=apt h b.2
 have hM:=aiN (c:=c) hsl hb1 hb2
 have hV:=aGx (c:=c) hsl hb1 hb2
 have hW:=Rz (h.nB b) (aya h b)
 have hw:bc c (lF c (nB r b) (Cd c r b)).1:=(h.nB b).wrote _
 have azT:=aAD (r:=r) hb1 (qH c r b) hw (nB r b)
 rw[acU,eO h.bt,ai,iT h.l,ai,h.ok,aK,aa,M9 hb1 hb2,ai,hb,aK,aa,avs h.l.s hb2,pM hb1]
 simp only[ai,hM,hV]
 rw[show bu b.1.data.toList=qG b from rfl]
 show _=some ((EW c r b (qH c r b) (lF c (nB r b) (Cd c r b))).1,(EW c r b (qH c r b) (lF c (nB r b) (Cd c r b))).2,())
 rw[←azT,←hW]
 by_cases h1:qG b≥r.2.1
 ·have hr:nB r b=(r.1,qG b,r.2.2):=ak h1
  rw[aL h1,af,af]
  cases h2:oL c (see c r.2.2.2.1 b.2) b with
  |true =>
   obtain⟨e1,e2⟩:=aGI h1 h2
   rw[e1,e2,hr,ayb h2,af]
  |false =>
   obtain⟨e1,e2⟩:=aCM (c:=c) (r:=r) (b:=b) (fun hh=>by rw[h2]at hh;cases hh.2)
   rw[e1,e2,hr,aa]
 ·have hr:nB r b=r:=ah h1
  obtain⟨e1,e2⟩:=aCM (c:=c) (r:=r) (b:=b) (fun hh=>h1 hh.1)
  rw[aR h1,aa,aa,e1,e2,hr]
  rfl
theorem aAE {c:Int×Int}{r:aD}{b:dk}(hb1:b.1.size≤1048576)(Qi:Bool){W:aD×Bool}(hw:bc c W.1)(hid:W.1.1=r.1) :
  br (!W.2) (some (r,false,())) (br (!Qi) (some (W.1,true,())) ((fv F0 c W.1.2.2.2.2.2.1 (qG b,b.1,[r.1])).bind fun r74=>br (!r74.2.1) (some (r,false,())) ((oC F0 c (W.1.1,W.1.2.1,W.1.2.2.1,W.1.2.2.2.1,W.1.2.2.2.2.1,r74.1,W.1.2.2.2.2.2.2) (qG b) b.1 false).bind fun r88=>some (r88.1,true,()))))=some ((EW c r b Qi W).1,(EW c r b Qi W).2,()):=by
 obtain⟨W1,W2⟩:=W
 dsimp only at hw hid ⊢
 unfold EW
 cases W2 with
 |false=>rfl
 |true =>
  cases Qi with
  |false=>rfl
  |true =>
   have hT:fv F0 c W1.2.2.2.2.2.1 (qG b,b.1,[r.1])=some ((bM c W1.2.2.2.2.2.1 (one (bu b.1.data.toList) b.1 W1.1)).1,(bM c W1.2.2.2.2.2.1 (one (bu b.1.data.toList) b.1 W1.1)).2,()):=by
    rw[hid]
    exact DJ (wz hw.f.t) ⟨hb1,by show 1≤1000;omega⟩ c
   have hg:=hw.gC (pP hw.f.t (one (bu b.1.data.toList) b.1 W1.1))
   have hC:=abp hg (qG b) hb1 false
   have hC':oC F0 c (W1.1,W1.2.1,W1.2.2.1,W1.2.2.2.1,W1.2.2.2.2.1,(bM c W1.2.2.2.2.2.1 (one (bu b.1.data.toList) b.1 W1.1)).1,W1.2.2.2.2.2.2) (qG b) b.1 false=some ((gG c (gC W1 (bM c W1.2.2.2.2.2.1 (one (bu b.1.data.toList) b.1 W1.1)).1) (qG b) b.1 false).1,(gG c (gC W1 (bM c W1.2.2.2.2.2.1 (one (bu b.1.data.toList) b.1 W1.1)).1) (qG b) b.1 false).2,()):=hC
   rw[hT,ai,ak rfl,ak rfl]
   unfold own
   dsimp only
   cases h4:(bM c W1.2.2.2.2.2.1 (one (bu b.1.data.toList) b.1 W1.1)).2 with
   |false=>rfl
   |true =>
    rw[hC',ai]
    rfl
theorem WJ {c:Int×Int}{r:aD}(h:bc c r){b:dk}(hb:gD c b=true):rG F0 c r b=some ((gT c r b).1,(gT c r b).2,()):=by
 obtain⟨hb1,hb2⟩:=IJ hb
 have hsl:=apt h b.2
 have hV:=aD9 (c:=c) hsl hb1 hb2
 have hW:=abn (h.nB b) (aya h b)
 have hw:bc c (lF c (nB r b) (Cd c r b)).1:=(h.nB b).wrote _
 have hid:(lF c (nB r b) (Cd c r b)).1.1=r.1:=by rw[aet];unfold nB;split<;>rfl
 have azT:=aAE (r:=r) hb1 (qH c r b) hw hid
 rw[adC,eL h.l,ai,h.ok,aK,aa,Ie hb1 hb2,ai,hb,aK,aa,apj h.l.s hb2,rN hb1,eP h.bt]
 simp only[ai,hV]
 rw[show bu b.1.data.toList=qG b from rfl]
 show _=some ((EW c r b (qH c r b) (lF c (nB r b) (Cd c r b))).1,(EW c r b (qH c r b) (lF c (nB r b) (Cd c r b))).2,())
 rw[←azT]
 by_cases h1:qG b≥r.2.1
 ·have hr:nB r b=(r.1,qG b,r.2.2):=ak h1
  rw[aL h1,af]
  cases h2:oL c (see c r.2.2.2.1 b.2) b with
  |true =>
   obtain⟨e1,e2⟩:=aGI h1 h2
   rw[hr,e2]at hW
   rw[e1,e2,hr,ayb h2]
   dsimp only
   rw[hW,ai]
  |false =>
   obtain⟨e1,e2⟩:=aCM (c:=c) (r:=r) (b:=b) (fun hh=>by rw[h2]at hh;cases hh.2)
   rw[hr,e2]at hW
   rw[e1,e2,hr,aIu h2]
   dsimp only
   rw[hW,ai]
 ·have hr:nB r b=r:=ah h1
  obtain⟨e1,e2⟩:=aCM (c:=c) (r:=r) (b:=b) (fun hh=>h1 hh.1)
  rw[hr,e2]at hW
  rw[aR h1,aa,e1,e2,hr,hW,ai]
  rfl
def aKv (r:aD)(p:di):Bool:= !ed p.2.1&& !decide (p.1<r.2.1)
def lH (c:Int×Int)(r:aD)(p:di):aD×Bool :=
 if aKv r p=true∧(bM c r.2.2.2.2.2.1 p).2=true then ((gG c (gC r (bM c r.2.2.2.2.2.1 p).1) p.1 p.2.1 false).1,true) else (r,false)
theorem bc.aEj {c:Int×Int}{r:aD}(h:bc c r)(p:di):bc c (lH c r p).1:=by
 unfold lH
 split
 ·exact(h.gC (pP h.f.t _)).avC _ _ _
 ·exact h
theorem aGJ {c:Int×Int}{p:di}(h:jh c p=true):uG p:=⟨(EV h).1,by have:=(EV h).2;omega⟩
theorem avG {c:Int×Int}{r:aD}(h:bc c r){p:di}(hp:jh c p=true):CX F0 c r p=some ((lH c r p).1,(lH c r p).2,()):=by
 have hT:=Io (wz h.f.t) (EV hp) c
 have hg:=h.gC (pP h.f.t p)
 have hc:bh F0 (r.1,r.2.1,r.2.2.1,r.2.2.2.1,r.2.2.2.2.1,(bM c r.2.2.2.2.2.1 p).1,r.2.2.2.2.2.2)=some (gC r (bM c r.2.2.2.2.2.1 p).1,()):=eO hg.bt
 obtain⟨x,hx,hx2⟩:=RA hg p.1 (EV hp).1 false
 rw[afF,eO h.bt,ai,iT h.l,ai,h.ok,aK,aa,Rl (aGJ hp),ai,hp,aK,aa]
 simp only[ai,hT,hc,hx]
 unfold lH aKv ed
 cases (p.2.1.toList==al.toList)<;>cases decide (p.1<r.2.1)
 ·cases h1:(bM c r.2.2.2.2.2.1 p).2 with
  |false=>rfl
  |true =>
   rw[ak ⟨rfl,rfl⟩]
   cases h2:(gG c (gC r (bM c r.2.2.2.2.2.1 p).1) p.1 p.2.1 false).2 with
   |true=>rw[hx2 h2];rfl
   |false=>rw[ax9 h2];rfl
 ·rfl
 ·rfl
 ·rfl
theorem arn {c:Int×Int}{r:aD}(h:bc c r){p:di}(hp:jh c p=true):Dx F0 c r p=some ((lH c r p).1,(lH c r p).2,()):=by
 have hT:=DJ (wz h.f.t) (EV hp) c
 have hg:=h.gC (pP h.f.t p)
 have hC:oC F0 c (r.1,r.2.1,r.2.2.1,r.2.2.2.1,r.2.2.2.2.1,(bM c r.2.2.2.2.2.1 p).1,r.2.2.2.2.2.2) p.1 p.2.1 false=some ((gG c (gC r (bM c r.2.2.2.2.2.1 p).1) p.1 p.2.1 false).1,(gG c (gC r (bM c r.2.2.2.2.2.1 p).1) p.1 p.2.1 false).2,()):=abp hg p.1 (EV hp).1 false
 rw[agm,eL h.l,ai,h.ok,aK,aa,M6 (aGJ hp),ai,hp,aK,aa,eP h.bt]
 simp only[ai,hT,hC]
 unfold lH aKv ed
 cases (p.2.1.toList==al.toList)<;>cases decide (p.1<r.2.1)
 ·cases h1:(bM c r.2.2.2.2.2.1 p).2<;>rfl
 ·rfl
 ·rfl
 ·rfl
def avH (q:di):Int:=FQ 60 (aj (q.1+1))
def tT (c:Int×Int)(r:aD)(view:Int):Bool:=decide (cG c view=r.1)&&decide (view≥r.2.1)
def Qj (l:Bool)(o:aD)(view:Int)(q:di):aD:=if l=true then A3 (A3 o (avH q)) view else A3 o (avH q)
def tU (imp:Bool)(c:Int×Int)(r:aD)(view:Int)(q:di)(dm:Int)(o:aD):aD×Bool :=
 if tT c r view=true then
  if (bM c o.2.2.2.2.2.1 (one view al dm)).2=true then
   (Qj (Nn c (bM c o.2.2.2.2.2.1 (one view al dm)).1 view) (gC o (bM c o.2.2.2.2.2.1 (one view al dm)).1) view q,true)
  else (r,false)
 else (Qj (imp&&Nn c o.2.2.2.2.2.1 view) o view q,true)
def lI (imp:Bool)(c:Int×Int)(r:aD)(view:Int)(q:di)(dm:Int):aD×Bool:=if (written c r q).2=true then tU imp c r view q dm (written c r q).1 else (r,false)
theorem Xw {imp:Bool}{c:Int×Int}{r:aD}{view:Int}{q:di}{dm:Int}{o:aD}(h:tT c r view=false):tU imp c r view q dm o=(Qj (imp&&Nn c o.2.2.2.2.2.1 view) o view q,true):=ah (by rw[h];decide)
theorem apB {imp:Bool}{c:Int×Int}{r:aD}{view:Int}{q:di}{dm:Int}{o:aD}(h:tT c r view=true)(h2:(bM c o.2.2.2.2.2.1 (one view al dm)).2=false):tU imp c r view q dm o=(r,false):=by
 unfold tU
 rw[ak h,ah (by rw[h2];decide)]
theorem apC {imp:Bool}{c:Int×Int}{r:aD}{view:Int}{q:di}{dm:Int}{o:aD}(h:tT c r view=true)(h2:(bM c o.2.2.2.2.2.1 (one view al dm)).2=true) :
  tU imp c r view q dm o=(Qj (Nn c (bM c o.2.2.2.2.2.1 (one view al dm)).1 view) (gC o (bM c o.2.2.2.2.2.1 (one view al dm)).1) view q,true):=by
 unfold tU
 rw[ak h,ak h2]
theorem alo (x:Int):FQ 60 x≤60:=by unfold FQ;split<;>omega
theorem Xx (x:Int):FQ x 60=FQ 60 x:=by unfold FQ;split<;>split<;>omega
theorem aEk (a b c:Int):xP (xP a b) c=xP (xP a c) b:=by
 unfold xP
 repeat' split
 all_goals omega
theorem bc.Qj {c:Int×Int}{o:aD}(h:bc c o)(l:Bool){view:Int}(hv:view≤60)(q:di):bc c (Qj l o view q):=by
 unfold Tryz.Qj
 split
 ·exact(h.raised (alo _)).raised hv
 ·exact h.raised (alo _)
theorem bc.tU {c:Int×Int}{r o:aD}(h:bc c r)(ho:bc c o)(imp:Bool){view:Int}(hv:view≤60)(q:di)(dm:Int):bc c (tU imp c r view q dm o).1:=by
 unfold Tryz.tU
 split
 ·split
  ·exact(ho.gC (pP ho.f.t _)).Qj _ hv q
  ·exact h
 ·exact ho.Qj _ hv q
theorem bc.aEl {c:Int×Int}{r:aD}(h:bc c r)(imp:Bool){view:Int}(hv:view≤60)(q:di)(dm:Int):bc c (lI imp c r view q dm).1:=by
 unfold lI
 split
 ·exact h.tU (h.w q) imp hv q dm
 ·exact h
theorem avI {c:Int×Int}{r:aD}(h:bc c r){view:Int}(hv:iH 1 60 view=true){q:di}(hq:fN c q=true){dm:Int}(hw:iH 0 (aj (c.1-1)) dm=true) :
  CY F0 c r view q dm=some ((lI false c r view q dm).1,(lI false c r view q dm).2,()):=by
 have hql:=NY hq
 have hg:bc c (written c r q).1:=h.w q
 rw[afH,eO h.bt,ai,iT h.l,ai,h.ok,aK,aa,dz,ai,hv,aK,aa,Rk hql,ai,hq,aK,aa,dz,ai,hw,aK,aa,avs h.l.s hql]
 simp only[ai]
 rw[Rz h (apt h q),ai]
 unfold lI
 unfold written at hg ⊢
 generalize lF c r (see c r.2.2.2.1 q)=W at hg ⊢
 obtain⟨W1,W2⟩:=W
 dsimp only at hg ⊢
 cases W2 with
 |false=>rfl
 |true =>
  have hT:fP F0 c W1.2.2.2.2.2.1 (view,al,[dm])=some ((bM c W1.2.2.2.2.2.1 (one view al dm)).1,(bM c W1.2.2.2.2.2.1 (one view al dm)).2,()):=Io (wz hg.f.t) ⟨aV _,by show 1≤1000;omega⟩ c
  have ht:=pP hg.f.t (one view al dm)
  have hGt:=Rw (l:=(bM c W1.2.2.2.2.2.1 (one view al dm)).1) (cT (wz ht).1 (by omega)) (fun q hq=>(wz ht).l hq) view al
  show _=some ((tU false c r view q dm W1).1,(tU false c r view q dm W1).2,())
  rw[ak rfl]
  simp only[ai,KB,hT,hGt,aa6,Cb,Xr,af]
  by_cases h1:cG c view=r.1
  ·rw[bB.2 h1,af]
   by_cases h2:view≥r.2.1
   ·have ha:tT c r view=true:=by unfold tT;rw[aL h1,aL h2];rfl
    rw[aL h2,af]
    cases h3:(bM c W1.2.2.2.2.2.1 (one view al dm)).2 with
    |false=>rw[apB ha h3];rfl
    |true =>
     rw[apC ha h3,aK,aa]
     unfold Nn
     cases h4:decide (((ep (bM c W1.2.2.2.2.2.1 (one view al dm)).1 view al).2.2.length:Int)≥Kz c) with
     |false=>rw[aa,Xx];rfl
     |true=>rw[af,Xx,aEk];rfl
   ·have ha:tT c r view=false:=by unfold tT;rw[aR h2,ahm]
    rw[Xw ha,aR h2,aa,Xx]
    rfl
  ·have ha:tT c r view=false:=by unfold tT;rw[aR h1,X9]
   rw[Xw ha,cp.2 h1,aa,Xx]
   rfl
theorem aro {c:Int×Int}{r:aD}(h:bc c r){view:Int}(hv:iH 1 60 view=true){q:di}(hq:fN c q=true){dm:Int}(hw:iH 0 (aj (c.1-1)) dm=true) :
  Dy F0 c r view q dm=some ((lI true c r view q dm).1,(lI true c r view q dm).2,()):=by
 have hql:=NY hq
 have hg:bc c (written c r q).1:=h.w q
 rw[ago,eL h.l,ai,h.ok,aK,aa,cg,ai,hv,aK,aa,Qa hql,ai,hq,aK,aa,cg,ai,hw,aK,aa,apj h.l.s hql,eP h.bt]
 simp only[ai]
 rw[abn h (apt h q),ai]
 unfold lI
 unfold written at hg ⊢
 generalize lF c r (see c r.2.2.2.1 q)=W at hg ⊢
 obtain⟨W1,W2⟩:=W
 dsimp only at hg ⊢
 cases W2 with
 |false=>rfl
 |true =>
  have hT:fv F0 c W1.2.2.2.2.2.1 (view,al,[dm])=some ((bM c W1.2.2.2.2.2.1 (one view al dm)).1,(bM c W1.2.2.2.2.2.1 (one view al dm)).2,()):=DJ (wz hg.f.t) ⟨aV _,by show 1≤1000;omega⟩ c
  have ht:=pP hg.f.t (one view al dm)
  have hcap:(if 60<aj (q.1+1) then 60 else aj (q.1+1))=avH q:=rfl
  have hL1:th F0 c (W1.1,(if avH q>W1.2.1 then avH q else W1.2.1,(W1.2.2.1,W1.2.2.2.1,W1.2.2.2.2.1,(bM c W1.2.2.2.2.2.1 (one view al dm)).1,W1.2.2.2.2.2.2))) view=some (Nn c (bM c W1.2.2.2.2.2.1 (one view al dm)).1 view,()) :=
   apw (r:=A3 (gC W1 (bM c W1.2.2.2.2.2.1 (one view al dm)).1) (avH q)) ((hg.gC ht).raised (alo _)).l view
  have hL2:th F0 c (W1.1,(if avH q>W1.2.1 then avH q else W1.2.1,W1.2.2)) view=some (Nn c W1.2.2.2.2.2.1 view,()):=apw (r:=A3 W1 (avH q)) (hg.raised (alo _)).l view
  show _=some ((tU true c r view q dm W1).1,(tU true c r view q dm W1).2,())
  rw[aK,aa,hcap]
  simp only[ai,IF,hT,hL1,hL2]
  by_cases h1:cG c view=r.1
  ·rw[bB.2 h1,af]
   by_cases h2:view≥r.2.1
   ·have ha:tT c r view=true:=by unfold tT;rw[aL h1,aL h2];rfl
    rw[aL h2,af]
    cases h3:(bM c W1.2.2.2.2.2.1 (one view al dm)).2 with
    |false=>rw[apB ha h3];rfl
    |true =>
     rw[apC ha h3,aK,aa]
     cases h4:Nn c (bM c W1.2.2.2.2.2.1 (one view al dm)).1 view<;>rfl
   ·have ha:tT c r view=false:=by unfold tT;rw[aR h2,ahm]
    rw[Xw ha,aR h2,aa,jB]
    cases h4:Nn c W1.2.2.2.2.2.1 view<;>rfl
  ·have ha:tT c r view=false:=by unfold tT;rw[aR h1,X9]
   rw[Xw ha,cp.2 h1,aa,jB]
   cases h4:Nn c W1.2.2.2.2.2.1 view<;>rfl
def RC (r:aD)(p:List fy):aD:=(r.1,r.2.1,r.2.2.1,r.2.2.2.1,p,r.2.2.2.2.2)
def WK (r:aD)(x:fy):aD×Bool:=(RC r (me r.2.2.2.2.1 x).1,(me r.2.2.2.2.1 x).2)
theorem bc.RC {c:Int×Int}{r:aD}(h:bc c r){p:List fy}(hp:fL p=true):bc c (RC r p) :=
 ⟨⟨h.f.cf,h.f.i,h.f.v,h.f.a,h.f.s,hp,h.f.t,h.f.d,h.f.n,h.f.h⟩,h.b⟩
theorem bc.aIv {c:Int×Int}{r:aD}(h:bc c r)(x:fy):bc c (WK r x).1:=h.RC (aAB h.f.p x)
theorem aAF {l:List fy}{x:fy}(h:(me l x).2=false):(me l x).1=l:=by
 unfold me at h ⊢
 cases ho:fL (DK x l) with
 |true=>rw[ho,ak rfl]at h;cases h
 |false=>rfl
theorem aAG {c:Int×Int}{r:aD}(h:bc c r)(x:fy):LU F0 c r x=some ((WK r x).1,(WK r x).2,()):=by
 have hp:=(abm h.f.p).1
 rw[ang,eO h.bt,ai,iT h.l,ai,h.ok,aK,aa,axY (by omega),ai]
 unfold WK
 cases h1:(me r.2.2.2.2.1 x).2 with
 |true=>rfl
 |false=>rw[aAF h1];rfl
theorem ayc {c:Int×Int}{r:aD}(h:bc c r)(x:fy):MQ F0 c r x=some ((WK r x).1,(WK r x).2,()):=by
 have hp:=(abm h.f.p).1
 rw[aof,eP h.bt,ai,eL h.l,ai,h.ok,aK,aa,avw (by omega),ai]
 rfl
def AD (imp:Bool)(c:Int×Int)(r:aD)(m:cX):aD×Bool :=
 if m.1=1 then gT c r m.2.2.1 else if m.1=2 then lH c r m.2.2.2.1 else if m.1=3 then lI imp c r m.2.1 m.2.2.2.2.1 m.2.2.2.2.2.1 else WK r m.2.2.2.2.2.2
def Qk (r:aD):aD:=gC r (aeq r.2.2.2.2.2.1 (aj (r.2.1-1)))
def finish (c:Int×Int)(r:aD):aD:=RC (Qk r) (apo r.2.2.2.2.1 (wy c (Qk r)))
def KN (imp:Bool)(c:Int×Int)(r:aD)(m:cX):aD×Bool:=if en c m=true∧(AD imp c r m).2=true then (finish c (AD imp c r m).1,true) else (r,false)
theorem bc.Qk {c:Int×Int}{r:aD}(h:bc c r):bc c (Qk r):=h.gC (apz h.f.t _)
theorem bc.finish {c:Int×Int}{r:aD}(h:bc c r):bc c (finish c r):=h.Qk.RC (arl h.f.p _)
theorem aez (c:Int×Int)(r:aD):(wy c r).1.length≤4∧(wy c r).2.length≤4:=by
 unfold wy
 split
 ·have:=Xh abe (xs:=ao3 r.2.2.2.1.2.2.2)
  exact⟨Nat.le_of_eq this.1,Nat.le_of_eq this.2⟩
 ·exact⟨aV _,aV _⟩
structure aOI (c:Int×Int) (m:cX):Prop where
 k:m.1=1∨m.1=2∨m.1=3∨m.1=4
 b:m.1=1→gD c m.2.2.1=true
 p:m.1=2→jh c m.2.2.2.1=true∧ed m.2.2.2.1.2.1=false
 v:m.1=3→iH 1 60 m.2.1=true∧fN c m.2.2.2.2.1=true∧iH 0 (aj (c.1-1)) m.2.2.2.2.2.1=true
 t:m.1=4→iG m.2.2.2.2.2.2=true
 s:named m=m
theorem aeA {c:Int×Int}{m:cX}(h:en c m=true):aOI c m:=by
 unfold en at h
 simp only[aJ]at h
 obtain⟨hc,hs,hk⟩:=h
 have hn:=abh hs
 by_cases k1:m.1=1
 ·rw[ak (by simpa using k1)]at hk
  exact⟨.inl k1,fun _=>hk,fun h=>by omega,fun h=>by omega,fun h=>by omega,hn⟩
 ·by_cases k2:m.1=2
  ·rw[ah (by simpa using k1),ak (by simpa using k2)]at hk
   simp only[aJ,arz]at hk
   exact⟨.inr (.inl k2),fun h=>by omega,fun _=>hk,fun h=>by omega,fun h=>by omega,hn⟩
  ·by_cases k3:m.1=3
   ·rw[ah (by simpa using k1),ah (by simpa using k2),ak (by simpa using k3)]at hk
    simp only[aJ]at hk
    exact⟨.inr (.inr (.inl k3)),fun h=>by omega,fun h=>by omega,fun _=>hk,fun h=>by omega,hn⟩
   ·rw[ah (by simpa using k1),ah (by simpa using k2),ah (by simpa using k3)]at hk
    simp only[aJ,bB]at hk
    exact⟨.inr (.inr (.inr hk.1)),fun h=>by omega,fun h=>by omega,fun h=>by omega,fun _=>hk.2,hn⟩
theorem bc.aAH {c:Int×Int}{r:aD}(h:bc c r)(imp:Bool){m:cX}(hm:en c m=true):bc c (AD imp c r m).1:=by
 have hf:=aeA hm
 unfold AD
 split
 ·exact h.apA _
 ·split
  ·exact h.aEj _
  ·split
   ·rename_i h3
    have:=(hf.v h3).1
    simp only[iH,aJ,cH]at this
    exact h.aEl imp this.2 _ _
   ·exact h.aIv _
theorem bc.heard {c:Int×Int}{r:aD}(h:bc c r)(imp:Bool)(m:cX):bc c (KN imp c r m).1:=by
 unfold KN
 split
 ·rename_i hh
  exact(h.aAH imp hh.1).finish
 ·exact h
theorem ayd {c:Int×Int}{r:aD}(h:bc c r){m:cX}(hm:en c m=true):Hy F0 c r m=some ((AD false c r m).1,(AD false c r m).2,()):=by
 have hf:=aeA hm
 rw[ajY]
 unfold AD
 rcases hf.k with k|k|k|k
 ·rw[bB.2 k,af,ak k,ZY h (hf.b k),ai]
 ·rw[cp.2 (show m.1≠1 by omega),aa,bB.2 k,af,ah (by omega),ak k,avG h (hf.p k).1,ai]
 ·rw[cp.2 (show m.1≠1 by omega),aa,cp.2 (show m.1≠2 by omega),aa,bB.2 k,af,ah (by omega),ah (by omega),ak k,avI h (hf.v k).1 (hf.v k).2.1 (hf.v k).2.2,ai]
 ·rw[cp.2 (show m.1≠1 by omega),aa,cp.2 (show m.1≠2 by omega),aa,cp.2 (show m.1≠3 by omega),aa,ah (by omega),ah (by omega),ah (by omega),aAG h,ai]
theorem aye {c:Int×Int}{r:aD}(h:bc c r){m:cX}(hml:gz m):O4 F0 c r m=some ((KN false c r m).1,(KN false c r m).2,()):=by
 rw[aun,iT h.l,ai,h.ok,aK,aa,II hml,ai,eO h.bt,ai]
 unfold KN
 cases hm:en c m with
 |false=>rfl
 |true =>
  rw[ayd h hm,ai]
  have hg:=h.aAH false hm
  generalize AD false c r m=X at hg ⊢
  obtain⟨o,ok⟩:=X
  dsimp only at hg ⊢
  cases ok with
  |false=>rfl
  |true =>
   have hS:JI F0 c (o.1,o.2.1,o.2.2.1,o.2.2.2.1,o.2.2.2.2.1,aeq o.2.2.2.2.2.1 (aj (o.2.1-1)),o.2.2.2.2.2.2)=some (wy c (Qk o),()):=aDY hg.Qk.l c
   have hl:=aez c (Qk o)
   have hD:=avy (p:=o.2.2.2.2.1) hg.l.p (l:=wy c (Qk o)) (by omega) (by omega)
   rw[are hg.l.t hg.l.tq,ai,hS,ai,hD,ai]
   rfl
theorem asP {c:Int×Int}{r:aD}(h:bc c r){m:cX}(hml:gz m):IB F0 c r m=some ((KN true c r m).1,(KN true c r m).2,()):=by
 rw[auO,KE hml,ai,eP h.bt,ai]
 unfold KN
 cases hm:en c m with
 |false=>rfl
 |true =>
  have hf:=aeA hm
  have tail:∀o:aD,bc c o→∀ok:Bool,br (!ok) (some (r,false,())) ((iF F0 o.2.2.2.2.2.1 (aj (o.2.1-1))).bind fun r69=>(oF F0 c (o.1,o.2.1,o.2.2.1,o.2.2.2.1,o.2.2.2.2.1,r69.1,o.2.2.2.2.2.2)).bind fun Lu=>(jM F0 o.2.2.2.2.1 Lu.1).bind fun r76=>some ((o.1,o.2.1,o.2.2.1,o.2.2.2.1,r76.1,r69.1,o.2.2.2.2.2.2),true,())) =
    some ((if true=true∧ok=true then (finish c o,true) else (r,false)).1,(if true=true∧ok=true then (finish c o,true) else (r,false)).2,()):=fun o hg ok=>by
   cases ok with
   |false=>rfl
   |true =>
    have hS:oF F0 c (o.1,o.2.1,o.2.2.1,o.2.2.2.1,o.2.2.2.2.1,aeq o.2.2.2.2.2.1 (aj (o.2.1-1)),o.2.2.2.2.2.2)=some (wy c (Qk o),()):=aAh hg.Qk.l c
    have hl:=aez c (Qk o)
    have hD:=arh (p:=o.2.2.2.2.1) hg.l.p (l:=wy c (Qk o)) (by omega) (by omega)
    rw[apm hg.l.t hg.l.tq,ai,hS,ai,hD,ai]
    rfl
  have hg:=h.aAH true hm
  rw[aK,aa]
  rcases hf.k with k|k|k|k
  ·have e:AD true c r m=gT c r m.2.2.1:=ak k
   rw[e]at hg ⊢
   rw[bB.2 k,af,WJ h (hf.b k),ai]
   exact tail _ hg _
  ·have e:AD true c r m=lH c r m.2.2.2.1:=by unfold AD;rw[ah (by omega),ak k]
   rw[e]at hg ⊢
   rw[cp.2 (show m.1≠1 by omega),aa,bB.2 k,af,arn h (hf.p k).1,ai]
   exact tail _ hg _
  ·have e:AD true c r m=lI true c r m.2.1 m.2.2.2.2.1 m.2.2.2.2.2.1:=by unfold AD;rw[ah (by omega),ah (by omega),ak k]
   rw[e]at hg ⊢
   rw[cp.2 (show m.1≠1 by omega),aa,cp.2 (show m.1≠2 by omega),aa,bB.2 k,af,aro h (hf.v k).1 (hf.v k).2.1 (hf.v k).2.2,ai]
   exact tail _ hg _
  ·have e:AD true c r m=WK r m.2.2.2.2.2.2:=by unfold AD;rw[ah (by omega),ah (by omega),ah (by omega)]
   rw[e]at hg ⊢
   rw[cp.2 (show m.1≠1 by omega),aa,cp.2 (show m.1≠2 by omega),aa,cp.2 (show m.1≠3 by omega),aa,ayc h,ai]
   exact tail _ hg _
end Go.Am.Tryz
