/- No condition. -/
import Derived.Test.YtfapcfpkbahneaaGreatDoorQpVJL5
set_option linter.all false
namespace Go.Am.Tryz
open Go.Am
abbrev Bc:=List (bG×Option Nm)
def nmQ (q:cY):Nm:=q.2.1.data.toList
def Tag (h:Bc)(n:Nm):Prop:=∃s,(s,some n)∈h
def Bi:Bc->bG
 |[]=>lV|x::_=>x.1
def LF (S:Nm->Int->Prop)(i:Int)(h:Bc)(q:cY):Prop:=nmQ q≠[]->∀m∈q.2.2,S (nmQ q) m\/(m=i/\Tag h (nmQ q))
def Crt (c:Int×Int)(S:Nm->Int->Prop)(i:Int)(h:Bc)(n:Nm):Prop:=∃q,fO c q=true/\nmQ q=n/\LF S i h q
structure aMU (c:Int×Int) (S:Nm->Int->Prop) (i:Int) (h:Bc) (s:bG) (n:Nm):Prop where
 ok:bu n=true
 ne:n≠[]
 v:s.1=aH n
 up:(Bi h).1<aH n
 lk:aH (fQ (fQ n))<=s.2.1
 lu:s.2.1<=aH (fQ n)
 crt:Crt c S i h (fQ n)
def auI (n:Nm):Prop:=bu n=true/\n≠[]/\fQ n≠[]/\fQ (fQ n)≠[]/\aH n=aH (fQ n)+1/\aH (fQ n)=aH (fQ (fQ n))+1
structure axA (c:Int×Int) (S:Nm->Int->Prop) (i:Int) (h:Bc) (s:bG) (t:Option Nm):Prop where
 ok:bM c s=true
 v:(Bi h).1<=s.1
 l:(Bi h).2.1<=s.2.1
 vt:∀n,t=some n->aMU c S i h s n
 hi:LF S i ((s,t)::h) s.2.2.1
 dn:s.2.2.2.data.toList=[]\/∃n3,auI n3/\Crt c S i ((s,t)::h) n3/\s.2.2.2.data.toList=fQ (fQ n3)
def Fair (c:Int×Int)(S:Nm->Int->Prop)(i:Int):Bc->Prop
 |[]=>True|x::h=>Fair c S i h/\axA c S i h x.1 x.2
def Sub (h h':Bc):Prop:=∃p,h'=p++h
def Sub.refl (h:Bc):Sub h h:=⟨[],rfl⟩
def Sub.trans {a b d:Bc}(h:Sub a b)(h2:Sub b d):Sub a d:=by obtain⟨p,rfl⟩:=h;obtain⟨q,rfl⟩:=h2;exact⟨q++p,by simp⟩
def Sub.cons (x:bG×Option Nm)(h:Bc):Sub h (x::h):=⟨[x],rfl⟩
def Tag.mono {h h':Bc}{n:Nm}(t:Tag h n)(s:Sub h h'):Tag h' n:=by obtain⟨p,rfl⟩:=s;obtain⟨x,hx⟩:=t;exact⟨x,aAW p hx⟩
section
variable {c:Int×Int} {S S':Nm->Int->Prop} {i:Int}
def LF.mono {h h':Bc}{q:cY}(e:LF S i h q)(s:Sub h h'):LF S i h' q:=fun h0 m hm=>(e h0 m hm).imp id fun x=>⟨x.1,x.2.mono s⟩
def Crt.mono {h h':Bc}{n:Nm}(e:Crt c S i h n)(s:Sub h h'):Crt c S i h' n:=by obtain⟨q,a,b,d⟩:=e;exact⟨q,a,b,d.mono s⟩
def LF.said {h:Bc}{q:cY}(hS:∀n m,S n m->S' n m)(e:LF S i h q):LF S' i h q:=fun h0 m hm=>(e h0 m hm).imp (hS _ _) id
def Crt.said {h:Bc}{n:Nm}(hS:∀n m,S n m->S' n m)(e:Crt c S i h n):Crt c S' i h n:=by obtain⟨q,a,b,d⟩:=e;exact⟨q,a,b,d.said hS⟩
def Fair.said (hS:∀n m,S n m->S' n m):∀{h:Bc},Fair c S i h->Fair c S' i h
 |[],_=>trivial|x::h,g=>⟨Fair.said hS g.1,⟨g.2.ok,g.2.v,g.2.l,fun n hn=>{g.2.vt n hn with crt:=(g.2.vt n hn).crt.said hS},g.2.hi.said hS,g.2.dn.imp id fun ⟨n3,a,b,d⟩=>⟨n3,a,b.said hS,d⟩⟩⟩
def Fair.sub:∀{p h:Bc},Fair c S i (p++h)->Fair c S i h
 |[],_,g=>g|_::p,_,g=>Fair.sub (p:=p) g.1
def axB:∀{h:Bc} {n:Nm},Fair c S i h->Tag h n->aH n<=(Bi h).1
 |[],_,_,⟨_,ht⟩=>by cases ht
 |x::h,n,g,⟨s,ht⟩=>by
  rcases dE.1 ht with e|hu
  .subst e;exact Int.le_of_eq (g.2.vt n rfl).v.symm
  .exact amT (axB g.1 ⟨s,hu⟩) g.2.v
def aAt:∀{h:Bc} {n:Nm},Fair c S i h->Tag h n->aH (fQ (fQ n))<=(Bi h).2.1
 |[],_,_,⟨_,ht⟩=>by cases ht
 |x::h,n,g,⟨s,ht⟩=>by
  rcases dE.1 ht with e|hu
  .subst e;exact(g.2.vt n rfl).lk
  .exact amT (aAt g.1 ⟨s,hu⟩) g.2.l
def aAu:∀{h:Bc} {n n':Nm},Fair c S i h->Tag h n->Tag h n'->aH n=aH n'->n=n'
 |[],_,_,_,⟨_,ht⟩,_,_=>by cases ht
 |x::h,n,n',g,⟨s,ht⟩,⟨s',ht'⟩,e=>by
  rcases dE.1 ht with e1|hu
  .rcases dE.1 ht' with e2|hu'
   .exact fJ (qd Prod.snd (e1.trans e2.symm))
   .subst e1;have h1:=(g.2.vt n rfl).up;have h2:=axB g.1 ⟨s',hu'⟩;omega
  .rcases dE.1 ht' with e2|hu'
   .subst e2;have h1:=(g.2.vt n' rfl).up;have h2:=axB g.1 ⟨s,hu⟩;omega
   .exact aAu g.1 ⟨s,hu⟩ ⟨s',hu'⟩ e
def axC:∀{h:Bc} {n:Nm},Fair c S i h->Tag h n->bu n=true/\n≠[]/\∃b,Sub b h/\Crt c S i b (fQ n)
 |[],_,_,⟨_,ht⟩=>by cases ht
 |x::h,n,g,⟨s,ht⟩=>by
  rcases dE.1 ht with e|hu
  .subst e;exact⟨(g.2.vt n rfl).ok,(g.2.vt n rfl).ne,h,Sub.cons _ h,(g.2.vt n rfl).crt⟩
  .obtain⟨a,b,d,hd,he⟩:=axC g.1 ⟨s,hu⟩;exact⟨a,b,d,hd.trans (Sub.cons _ h),he⟩
def auJ:∀{h:Bc} {n n':Nm},Fair c S i h->Tag h n->Tag h n'->aH n<aH n'->aH (fQ (fQ n))<=aH (fQ n')
 |[],_,_,_,⟨_,ht⟩,_,_=>by cases ht
 |x::h,n,n',g,⟨s,ht⟩,⟨s',ht'⟩,e=>by
  rcases dE.1 ht' with e2|hu'
  .rcases dE.1 ht with e1|hu
   .have:=fJ (qd Prod.snd (e1.trans e2.symm));rw[this]at e;omega
   .subst e2;have h1:=aAt g.1 ⟨s,hu⟩;have h2:=g.2.l;have h3:=(g.2.vt n' rfl).lu;dsimp only at h2 h3;omega
  .rcases dE.1 ht with e1|hu
   .subst e1;have h1:=(g.2.vt n rfl).up;have h2:=axB g.1 ⟨s',hu'⟩;omega
   .exact auJ g.1 ⟨s,hu⟩ ⟨s',hu'⟩ e
end
structure aI4 (c:Int×Int) (liars:List Int) (S:Nm->Int->Prop) (hs:Int->Bc):Prop where
 cf:bL c=true
 l:(liars.length:Int)<=uv c
 s:∀n m,S n m->m∈liars\/Tag (hs m) n
 g:∀i,Fair c S i (hs i)
section
variable {c:Int×Int} {liars:List Int} {S:Nm->Int->Prop} {hs:Int->Bc} (H:aI4 c liars S hs)
include H
def aEH {i:Int}{h:Bc}(hh:Sub h (hs i)){q:cY}(e:LF S i h q)(h0:nmQ q≠[]){m:Int}(hm:m∈q.2.2)(hn:m ∉ liars):Tag (hs m) (nmQ q):=by
 rcases e h0 m hm with h1|⟨h1,h2⟩
 .rcases H.s _ _ h1 with h3|h3
  .exact absurd h3 hn
  .exact h3
 .subst h1;exact h2.mono hh
def axD {i1 i2:Int}{h1 h2:Bc}(s1:Sub h1 (hs i1))(s2:Sub h2 (hs i2)){n1 n2:Nm}(c1:Crt c S i1 h1 n1)(c2:Crt c S i2 h2 n2)(z1:n1≠[])(z2:n2≠[]) :
  ∃m,Tag (hs m) n1/\Tag (hs m) n2:=by
 obtain⟨q1,a1,b1,d1⟩:=c1;obtain⟨q2,a2,b2,d2⟩:=c2;subst b1;subst b2;obtain⟨_,_,_,_,f1⟩:=xG a1;obtain⟨_,_,_,_,f2⟩:=xG a2;obtain⟨m,m1,m2,m3⟩:=aAs H.cf H.l (f1 z1).1 (f2 z2).1 (f1 z1).2 (f2 z2).2;exact⟨m,aEH H s1 d1 z1 m1 m3,aEH H s2 d2 z2 m2 m3⟩
def arj {i1 i2:Int}{h1 h2:Bc}(s1:Sub h1 (hs i1))(s2:Sub h2 (hs i2)){n1 n2:Nm}(c1:Crt c S i1 h1 n1)(c2:Crt c S i2 h2 n2)(z1:n1≠[])(z2:n2≠[])(e:aH n1=aH n2):n1=n2:=by obtain⟨m,t1,t2⟩:=axD H s1 s2 c1 c2 z1 z2;exact aAu (H.g m) t1 t2 e
def aI5 {i:Int}{h:Bc}(s:Sub h (hs i)){n:Nm}(d:Crt c S i h n)(z:n≠[]):bu n=true/\∃m b,Sub b (hs m)/\Crt c S m b (fQ n):=by obtain⟨m,t1,_⟩:=axD H s s d d z z;obtain⟨a,_,b,hb,hd⟩:=axC (H.g m) t1;exact⟨a,m,b,hb,hd⟩
def aI6 {i:Int}{h:Bc}(s:Sub h (hs i)){n3:Nm}(d:Crt c S i h n3)(t:auI n3):∀(k:Nat) {i':Int} {h':Bc} {n:Nm},Sub h' (hs i')->Crt c S i' h' n->aH n=k->aH (fQ (fQ n3))<=aH n->Anc (fQ (fQ n3)) n:=by
 obtain⟨o3,z3,z2,z1,e3,e2⟩:=t;obtain⟨_,m2,b2,s2,d2⟩:=aI5 H s d z3;obtain⟨o2,m1,b1,s1,d1⟩:=aI5 H s2 d2 z2;intro k
 induction k using Nat.strongRecOn with
 |_ k ih =>
  intro i' h' n sn dn ek hv;have hz:n≠[]:=fun e0=>by subst e0;have h1:=aw3 (xF o2) z1;have h2:=pZ (fQ (fQ (fQ n3)));rw[aqe]at hv;omega
  by_cases v1:aH n=aH (fQ (fQ n3))
  .rw[arj H sn s1 dn d1 hz z1 v1];exact Anc.refl _
  .by_cases v2:aH n=aH (fQ n3)
   .rw[arj H sn s2 dn d2 hz z2 v2];exact Sz o2
   .by_cases v3:aH n=aH n3
    .rw[arj H sn s dn d hz z3 v3];exact(Sz o2).trans (Sz o3)
    .obtain⟨m,t3,tn⟩:=axD H s sn d dn z3 hz;have ho:=auJ (H.g m) t3 tn (by omega);obtain⟨on,_,b,hb,hd⟩:=axC (H.g m) tn;have hu:=aw3 on hz;have h0:=pZ (fQ n);exact(ih (aH (fQ n)).toNat (by omega) hb hd (by omega) ho).trans (Sz on)
def auK {i1 i2:Int}{h1 h2:Bc}(s1:Sub h1 (hs i1))(s2:Sub h2 (hs i2)){a b:Nm}(c1:Crt c S i1 h1 a)(c2:Crt c S i2 h2 b)(t1:auI a)(t2:auI b)(hle:aH (fQ (fQ a))<=aH (fQ (fQ b))):Anc (fQ (fQ a)) (fQ (fQ b)):=by
 have hb2:=Sz t2.1;have hb1:=Sz (xF t2.1);have hv:=t2.2.2.2.2.1;have hv':=t2.2.2.2.2.2;have h:=aI6 H s1 c1 t1 (aH b).toNat s2 c2 (by have:=pZ b;omega) (by omega);have hbb:Anc (fQ (fQ b)) b:=hb1.trans hb2;rcases Nat.le_total (fQ (fQ a)).length (fQ (fQ b)).length with hl|hl
 .exact afG h hbb hl
 .have hm:=afG hbb h hl;by_cases e:fQ (fQ b)=fQ (fQ a)
  .rw[e];exact Anc.refl _
  .have:=aI3 (xF (xF t1.1)) (xF (xF t2.1)) hm e;omega
end
def Oc (m:cQ):cY:=if m.1=1 then m.2.2.1.2 else if m.1=2 then m.2.2.2.1 else if m.1=3 then m.2.2.2.2.1 else cM
def afH (S:Nm->Int->Prop)(i:Int)(h:Bc)(m:cQ):Prop:=LF S i h (Oc m)
structure RI (c:Int×Int) (S:Nm->Int->Prop) (r:aC) (h:Bc):Prop where
 g:Fair c S r.1 h
 s:r.2.2.2.1=Bi h
 d:r.2.2.2.2.2.2.1.1=de (h.map (·.1)).reverse
 t:∀p∈r.2.2.2.2.2.1,LF S r.1 h p
 m:∀p∈r.2.2.2.2.2.2.2,afH S r.1 h p.2
def Up (c:Int×Int)(S:Nm->Int->Prop)(i su:Int)(h:Bc)(r:aC):Prop:=∃h',RI c S r h'/\Sub h h'/\r.1=i/\r.2.2.2.2.2.2.1.2=su
section
variable {c:Int×Int} {S:Nm->Int->Prop} {i su:Int} {h:Bc} {r:aC}
def RI.up (R:RI c S r h):Up c S r.1 r.2.2.2.2.2.2.1.2 h r:=⟨h,R,Sub.refl h,rfl,rfl⟩
def RI.up' (R:RI c S r h)(e1:r.1=i)(e2:r.2.2.2.2.2.2.1.2=su):Up c S i su h r:=⟨h,R,Sub.refl h,e1,e2⟩
def Up.bind {r':aC}(u:Up c S i su h r)(k:∀h',RI c S r h'->Sub h h'->r.1=i->r.2.2.2.2.2.2.1.2=su->Up c S i su h' r'):Up c S i su h r':=by obtain⟨h',a,b,d,e⟩:=u;obtain⟨h2,a2,b2,d2,e2⟩:=k h' a b d e;exact⟨h2,a2,b.trans b2,d2,e2⟩
def aEI (q:cY)(h0:nmQ q=[]):LF S i h q:=fun h1=>absurd h0 h1
def aI7 (q:cY)(h0:q.2.2=[]):LF S i h q:=fun _ m hm=>by rw[h0]at hm;cases hm
def ark:LF S i h cM:=aEI _ rfl
def RI.same (R:RI c S r h){r':aC}(e0:r'.1=r.1)(e1:r'.2.2.2.1=r.2.2.2.1)(e2:r'.2.2.2.2.2.2.1.1=r.2.2.2.2.2.2.1.1)(ht:∀p∈r'.2.2.2.2.2.1,LF S r.1 h p)(hm:∀p∈r'.2.2.2.2.2.2.2,afH S r.1 h p.2):RI c S r' h :=
 ⟨by rw[e0];exact R.g,e1.trans R.s,e2.trans R.d,by rw[e0];exact ht,by rw[e0];exact hm⟩
def aC2:∀{h:Bc},Fair c S i h->LF S i h (Bi h).2.2.1
 |[],_=>ark|_::_,g=>g.2.hi
def arl (c:Int×Int)(S:Nm->Int->Prop)(i:Int)(h:Bc)(d:ByteArray):Prop:=d.data.toList=[]\/∃n3,auI n3/\Crt c S i h n3/\d.data.toList=fQ (fQ n3)
def arl.mono {h':Bc}{d:ByteArray}(e:arl c S i h d)(s:Sub h h'):arl c S i h' d:=e.imp id fun ⟨n,a,b,e⟩=>⟨n,a,b.mono s,e⟩
def axE:∀{h:Bc},Fair c S i h->arl c S i h (Bi h).2.2.2
 |[],_=>.inl rfl|_::_,g=>g.2.dn
def aI8 {n:Nm}(h:bu n=true)(hs:Ly (bj n).1=true):auI n:=by
 unfold Ly at hs;simp only[aI,cA,bC]at hs;obtain⟨h3,h4,h5⟩:=hs;have z:∀l:Nm,0<(bj l).1.length->l≠[]:=fun l hl e=>by subst e;exact absurd hl (by decide)
 have z0:=z n (by omega);obtain⟨x,ex,vx⟩:=QZ h z0;have l1:(bj n).1.length=(bj (fQ n)).1.length+1:=by rw[ex,aL];rfl
 have z1:=z (fQ n) (by omega);obtain⟨y,ey,vy⟩:=QZ (xF h) z1;have l2:(bj (fQ n)).1.length=(bj (fQ (fQ n))).1.length+1:=by rw[ey,aL];rfl
 have z2:=z (fQ (fQ n)) (by omega);obtain⟨w,ew,vw⟩:=QZ (xF (xF h)) z2;have l3:(bj (fQ (fQ n))).1.length=(bj (fQ (fQ (fQ n)))).1.length+1:=by rw[ew,aL];rfl
 generalize (bj (fQ (fQ (fQ n)))).1=L at ew l3;rw[ew]at ey;rw[ey]at ex;have e:(bj n).1=L++[w,y,x]:=by rw[ex];simp
 have len:(bj n).1.length=L.length+3:=by rw[e,aL];rfl
 have g0:(bj n).1.getD ((bj n).1.length-1) (0,[])=x:=by rw[len,e,Gr,as9 (by omega),show L.length+3-1-L.length=2 by omega];rfl
 have g1:(bj n).1.getD ((bj n).1.length-2) (0,[])=y:=by rw[len,e,Gr,as9 (by omega),show L.length+3-2-L.length=1 by omega];rfl
 have g2:(bj n).1.getD ((bj n).1.length-3) (0,[])=w:=by rw[len,e,Gr,as9 (by omega),show L.length+3-3-L.length=0 by omega];rfl
 rw[g0,g1]at h4;rw[g1,g2]at h5;have b1:=pZ (fQ n);have b2:=pZ (fQ (fQ n));rw[aJ (by omega) (by omega)]at h4 h5;exact⟨h,z0,z1,z2,by omega,by omega⟩
def arn (g:Fair c S i h){q:cY}(e:LF S i h q):(Sq c (Bi h) q).1=(Bi h).1/\(Bi h).2.1<=(Sq c (Bi h) q).2.1/\LF S i h (Sq c (Bi h) q).2.2.1/\arl c S i h (Sq c (Bi h) q).2.2.2:=by
 unfold Sq;split
 .rename_i hk;refine⟨rfl,?_,?_,?_⟩
  .show(Bi h).2.1<=tV _ _;unfold tV;split<;>omega
  .show LF S i h (N6 q _);unfold N6;split
   .exact e
   .exact aC2 g
  .dsimp only;split
   .rename_i h2;have hs:Jl q.2.1=true:=by
     cases hx:Jl q.2.1 with
     |true=>rfl
     |false =>
      have h3:=h2.1;rw[jd,hx,ah Bool.false_ne_true]at h3;cases h3
    rw[jd,ai hs];exact .inr ⟨nmQ q,aI8 (xG hk.2).2.1 hs,⟨q,hk.2,rfl,e⟩,by show(tx (fQ (tx (fQ (nmQ q))).data.toList)).data.toList=_;rw[gb,gb]⟩
   .exact axE g
 .exact⟨rfl,UY _,aC2 g,axE g⟩
def aAv (g:Fair c S i h){q:cY}(e:LF S i h q)(hk:bM c (Sq c (Bi h) q)=true):axA c S i h (Sq c (Bi h) q) none:=by obtain⟨a,b,d,f⟩:=arn g e;exact⟨hk,Int.le_of_eq a.symm,b,fun _ hn=>(by cases hn),d.mono (Sub.cons _ h),f.mono (Sub.cons _ h)⟩
def aAw (R:RI c S r h)(s:bG)(t:Option Nm)(N:bM c s=true->axA c S r.1 h s t)(hs:iR r.2.2.2.1 s=true->t=none) :
  ∃h',RI c S (j1 c r s).1 h'/\Sub h h'/\(j1 c r s).1.1=r.1/\(j1 c r s).1.2.2.2.2.2.2.1.2=r.2.2.2.2.2.2.1.2/\((j1 c r s).2=true->∀n,t=some n->Tag h' n):=by
 unfold j1;by_cases h1:iR r.2.2.2.1 s=true
 .rw[ai h1];exact⟨h,R,Sub.refl h,rfl,rfl,fun _ n hn=>by rw[hs h1]at hn;cases hn⟩
 .rw[ah h1];by_cases h2:bM c s=true/\r.2.2.2.2.2.2.1.1.length+(eE s).length<=100000
  .rw[ai h2];refine⟨(s,t)::h,⟨⟨R.g,N h2.1⟩,rfl,?_,fun p hp=>(R.t p hp).mono (Sub.cons _ h),fun p hp=>(R.m p hp).mono (Sub.cons _ h)⟩,Sub.cons _ h,rfl,rfl,fun _ n hn=>⟨s,by rw[hn];exact qU⟩⟩;show r.2.2.2.2.2.2.1.1++eE s=_;rw[R.d,tW,List.reverse_cons,de,de,List.flatMap_append];simp
  .rw[ah h2];exact⟨h,R,Sub.refl h,rfl,rfl,fun hf=>by cases hf⟩
def LG (R:RI c S r h){q:cY}(e:LF S r.1 h q):Up c S r.1 r.2.2.2.2.2.2.1.2 h (written c r q).1:=by obtain⟨h',a,b,d,f,_⟩:=aAw R (Sq c r.2.2.2.1 q) none (fun hk=>by rw[R.s]at hk ⊢;exact aAv R.g e hk) (fun _=>rfl);exact⟨h',a,b,d,f⟩
def amz (R:RI c S r h)(sN:Int){m:cQ}(hm:afH S r.1 h m):Up c S r.1 r.2.2.2.2.2.2.1.2 h (nV c r sN m).1:=by
 unfold nV;split
 .refine(R.same (r':=w8 r (sN,m)) rfl rfl rfl R.t fun p hp=>?_).up;rcases jx.1 hp with h1|h1
  .exact R.m p h1
  .rw[hU.1 h1];exact hm
 .exact R.up
def XY (R:RI c S r h)(v:Int):RI c S (u7 r v) h:=R.same rfl rfl rfl R.t R.m
def acD (R:RI c S r h)(v:Int):RI c S (lX r v) h:=R.same rfl rfl rfl R.t R.m
def aro (R:RI c S r h)(p:List fE):RI c S (Sx r p) h:=R.same rfl rfl rfl R.t R.m
def aj8 (R:RI c S r h):RI c S (LD r) h:=R.same rfl rfl rfl R.t R.m
def Rb (R:RI c S r h){t:List cY}(ht:∀p∈t,LF S r.1 h p):RI c S (gK r t) h:=R.same rfl rfl rfl ht R.m
def aI9 (R:RI c S r h){q:cY}(e:LF S r.1 h q):Up c S r.1 r.2.2.2.2.2.2.1.2 h (ue c r q).1:=by
 unfold ue;split
 .split
  .exact LG R e
  .split
   .exact(LG R e).bind fun h' R' s' e1 e2=>(XY R' _).up' e1 e2
   .refine(LG R e).bind fun h' R' s' e1 e2=>?_
    have:=amz (XY R' (ak (q.1+1))) (cG c (ak (q.1+1))) (m:=kC (ak (q.1+1)) q r.1) (by show LF S _ h' q;rw[show(u7 (written c r q).1 (ak (q.1+1))).1=r.1 from e1];exact e.mono s');rw[show(u7 (written c r q).1 (ak (q.1+1))).1=r.1 from e1,show(u7 (written c r q).1 (ak (q.1+1))).2.2.2.2.2.2.1.2=r.2.2.2.2.2.2.1.2 from e2]at this;exact this
 .exact R.up
def arp {t:List cY}(ht:∀p∈t,LF S i h p)(v:Int)(n:ByteArray):LF S i h (ei t v n):=by
 unfold ei;split
 .rename_i x hx;exact ht x (US hx)
 .exact aI7 _ rfl
def YH {a b:ByteArray}(h:(a.toList==b.toList)=true):a.data.toList=b.data.toList:=by have:=Ut a.data.toList b.data.toList;rw[<-VB,<-VB]at this;exact nW (this.symm.trans h)
def arq {p:cY}(hp:LF S i h p):∀{t:List cY},(∀x∈t,LF S i h x)->∀x∈fT p t,LF S i h x
 |[],_,x,hx=>by rw[hU.1 hx];exact hp
 |y::t,ht,x,hx=>by
  unfold fT at hx;split at hx
  .rcases dE.1 hx with h1|h1
   .rw[h1];exact ht y qU
   .exact arq hp (fun z hz=>ht z (ka y hz)) x h1
  .split at hx
   .rename_i hs;rcases dE.1 hx with h1|h1
    .rw[h1];unfold sameAt at hs;simp only[aI]at hs;have hn:nmQ y=nmQ p:=YH hs.2;intro h0 m hm;rcases aFM.1 (show m∈aeZ y.2.2 p.2.2 from hm) with h2|h2
     .exact ht y qU h0 m h2
     .have:=hp (by rw[<-hn];exact h0) m h2;rw[<-hn]at this;exact this
    .exact ht x (ka y h1)
   .rcases dE.1 hx with h1|h1
    .rw[h1];exact hp
    .exact ht x h1
def SA {p:cY}(hp:LF S i h p){t:List cY}(ht:∀x∈t,LF S i h x):∀x∈(bN c t p).1,LF S i h x:=by
 unfold bN;split
 .exact arq hp ht
 .exact ht
def ars (R:RI c S r h)(v:Int)(n:ByteArray)(p:Bool):Up c S r.1 r.2.2.2.2.2.2.1.2 h (gM c r v n p).1:=by
 unfold gM;split
 .exact R.up
 .split
  .split
   .exact aI9 R (arp R.t _ _)
   .exact R.up
  .split
   .exact R.up
   .exact amz R _ (arp R.t _ _)
end
section
variable {c:Int×Int} {S:Nm->Int->Prop} {i su:Int} {h:Bc} {r:aC}
def aKU (v:Int)(n:ByteArray)(ht:Tag h n.data.toList):LF S i h (one v n i):=fun _ m hm=>.inr ⟨hU.1 hm,ht⟩
def aAx (v dk:Int):LF S i h (one v al dk):=aEI _ rfl
def aMV (R:RI c S r h)(n:ByteArray)(ht:Tag h n.data.toList):Up c S r.1 r.2.2.2.2.2.2.1.2 h (own c r n).1:=by
 unfold own;split
 .exact ars (Rb R (SA (aKU _ n ht) R.t)) _ _ _
 .exact R.up
def aGp (g:Fair c S i h){b:dd}(e:LF S i h b.2)(hm:je c (Sq c (Bi h) b.2) b=true)(hk:bM c (oa b,(Sq c (Bi h) b.2).2)=true) :
  axA c S i h (oa b,(Sq c (Bi h) b.2).2) (some b.1.data.toList):=by
 obtain⟨a1,a2,a3,a4⟩:=arn (c:=c) g e;unfold je at hm;simp only[aI,cA]at hm;obtain⟨m1,m2,m3,m4⟩:=hm;unfold gx at m2;simp only[aI,ais]at m2;obtain⟨b1,b2,b3,b4⟩:=m2;have hn:fQ b.1.data.toList=nmQ b.2:=by have:=YH b4;rw[gb]at this;exact this
 have hne:b.1.data.toList≠[]:=fun e0=>by rw[(rY b.1).2 e0]at b3;cases b3
 have hs:bM c (Bi h)=true:=by
  cases hx:bM c (Bi h) with
  |true=>rfl
  |false =>
   unfold Sq at m1;rw[ah (fun hh=>by rw[hx]at hh;cases hh.1),hx]at m1;exact m1
 have hl:aH (fQ (nmQ b.2))<=(Sq c (Bi h) b.2).2.1:=by unfold Sq;rw[ai ⟨hs,b1⟩];show _<=tV _ (aH (fQ (nmQ b.2)));unfold tV;split<;>omega
 have hq:=(xG b1).2.2.1;refine⟨hk,?_,a2,fun n hn'=>?_,a3.mono (Sub.cons _ h),a4.mono (Sub.cons _ h)⟩
 .show(Bi h).1<=aH b.1.data.toList;omega
 .cases hn';refine⟨b2,hne,rfl,?_,?_,?_,?_⟩
  .omega
  .rw[hn];exact hl
  .rw[hn];show(Sq c (Bi h) b.2).2.1<=aH b.2.2.1.data.toList;omega
  .rw[hn];exact⟨b.2,b1,rfl,e⟩
def aJa (R:RI c S r h)(b:dd):RI c S (kH r b) h/\(kH r b).1=r.1/\(kH r b).2.2.2.2.2.2.1.2=r.2.2.2.2.2.2.1.2/\(kH r b).2.2.2.1=r.2.2.2.1:=by
 unfold kH;split
 .exact⟨acD R _,rfl,rfl,rfl⟩
 .exact⟨R,rfl,rfl,rfl⟩
def afI (R:RI c S r h){b:dd}(e:LF S r.1 h b.2):Up c S r.1 r.2.2.2.2.2.2.1.2 h (gZ c r b).1:=by
 obtain⟨R1,e1,e2,e3⟩:=aJa R b;have hW:=aAw R1 (uy c r b) (if jO c r b=true then some b.1.data.toList else none) (fun hk=>?_) (fun hsame=>?_)
 .unfold gZ Fu;obtain⟨h',a,s',f1,f2,f3⟩:=hW;rw[e1]at f1;rw[e2]at f2;split
  .rename_i hw;split
   .rename_i hv;split
    .have ht:=f3 hw b.1.data.toList (by rw[ai hv]);obtain⟨h2,x1,x2,x3,x4⟩:=aMV a b.1 ht;exact⟨h2,x1,s'.trans x2,x3.trans f1,x4.trans f2⟩
    .exact R.up
   .exact⟨h',a,s',f1,f2⟩
  .exact R.up
 .rw[e1];have hs:r.2.2.2.1=Bi h:=R.s;unfold uy at hk ⊢;by_cases hv:jO c r b=true
  .rw[ai hv]at hk ⊢;rw[ai hv];have hm:je c (Sq c r.2.2.2.1 b.2) b=true:=by unfold jO at hv;exact(aI _ _▸hv:_/\_).2
   rw[hs]at hk hm ⊢;exact aGp R.g e hm hk
  .rw[ah hv]at hk ⊢;rw[ah hv];rw[hs]at hk ⊢;exact aAv R.g e hk
 .by_cases hv:jO c r b=true
  .exfalso;rw[e3]at hsame;have:=azC hsame;unfold uy at this;rw[ai hv]at this;have hm:je c (Sq c r.2.2.2.1 b.2) b=true:=by unfold jO at hv;exact(aI _ _▸hv:_/\_).2
   unfold je at hm;simp only[aI,cA]at hm;have h1:=hm.2.2.1;have h2:=(arn (c:=c) R.g e).1;rw[<-R.s]at h2;have h3:=qd Prod.fst this;have h4:r.2.2.2.1.1=aH b.1.data.toList:=h3;omega
  .rw[ah hv]
def aAy (R:RI c S r h){p:cY}(e:LF S r.1 h p):Up c S r.1 r.2.2.2.2.2.2.1.2 h (lY c r p).1:=by
 unfold lY;split
 .exact ars (Rb R (SA e R.t)) _ _ _
 .exact R.up
def aAz (R:RI c S r h)(l:Bool)(v:Int)(q:cY)(e1:r.1=i)(e2:r.2.2.2.2.2.2.1.2=su):Up c S i su h (Q5 l r v q):=by
 unfold Q5;split
 .exact(XY (XY R _) _).up' e1 e2
 .exact(XY R _).up' e1 e2
def aAA (R:RI c S r h)(imp:Bool)(v:Int){q:cY}(dk:Int)(e:LF S r.1 h q):Up c S r.1 r.2.2.2.2.2.2.1.2 h (lZ imp c r v q dk).1:=by
 unfold lZ;split
 .unfold uA;split
  .split
   .exact(LG R e).bind fun h' R' s' e1 e2=>aAz (Rb R' (SA (aAx _ _) R'.t)) _ _ _ e1 e2
   .exact R.up
  .exact(LG R e).bind fun h' R' s' e1 e2=>aAz R' _ _ _ e1 e2
 .exact R.up
def aJb (R:RI c S r h)(imp:Bool){m:cQ}(e:afH S r.1 h m):Up c S r.1 r.2.2.2.2.2.2.1.2 h (A9 imp c r m).1:=by
 unfold afH Oc at e;unfold A9;split
 .rename_i h1;rw[ai h1]at e;exact afI R e
 .rename_i h1;rw[ah h1]at e;split
  .rename_i h2;rw[ai h2]at e;exact aAy R e
  .rename_i h2;rw[ah h2]at e;split
   .rename_i h3;rw[ai h3]at e;exact aAA R imp _ _ e
   .exact(aro R _).up
def aEJ (R:RI c S r h)(imp:Bool){m:cQ}(e:afH S r.1 h m):Up c S r.1 r.2.2.2.2.2.2.1.2 h (LC imp c r m).1:=by
 unfold LC;split
 .exact(aJb R imp e).bind fun h' R' s' e1 e2=>(aro (Rb R' fun p hp=>R'.t p (List.mem_filter.1 hp).1) _).up' e1 e2
 .exact R.up
def aLJ (R:RI c S r h):LF S r.1 h r.2.2.2.1.2.2.1:=by rw[R.s];exact aC2 R.g
def aJc (R:RI c S r h):Up c S r.1 r.2.2.2.2.2.2.1.2 h (Hq c r).1:=by
 unfold Hq;split
 .exact R.up
 .split
  .split
   .exact(Rb (acD R (ak (r.2.1+1))) (SA (aAx _ _) R.t)).up' rfl rfl
   .exact R.up
  .split
   .have he:LF S r.1 h r.2.2.2.1.2.2.1:=aLJ R;exact amz (acD R (ak (r.2.1+1))) _ (m:=kC _ r.2.2.2.1.2.2.1 r.1) he
   .exact R.up
def ain (R:RI c S r h){m:cQ}(e:afH S r.1 h m):∀(j k:Nat) {o:aC},Up c S r.1 r.2.2.2.2.2.2.1.2 h o->Up c S r.1 r.2.2.2.2.2.2.1.2 h (xI c r m j k o).1
 |0,_,o,ho=>ho|j+1,k,o,ho=>by
  unfold xI;split
  .exact ain R e j (k+1) ho
  .split
   .refine ain R e j (k+1) (ho.bind fun h' R' s' e1 e2=>?_);have:=amz (c:=c) R' (k:Int) (m:=m) (by rw[e1];exact LF.mono e s');rw[e1,e2]at this;exact this
   .exact R.up
def aEK (R:RI c S r h):LF S r.1 h (ask c r).1.2:=by
 unfold ask;split
 .unfold jD;split
  .exact aLJ R
  .exact ark
 .exact ark
def aKV (R:RI c S r h):Up c S r.1 r.2.2.2.2.2.2.1.2 h (acy c r).1:=by
 unfold acy;split
 .split
  .have ht:Up c S r.1 r.2.2.2.2.2.2.1.2 h (aif c r).1:=ain (aj8 R) (m:=aqU (ask c r).1) (aEK R) _ _ (aj8 R).up;refine ht.bind fun h' R' s' e1 e2=>?_
   have:=afI (c:=c) R' (b:=(ask c r).1) (by rw[e1];exact(aEK R).mono s');rw[e1,e2]at this;exact this
  .exact R.up
 .exact R.up
def auL (R:RI c S r h):∀k,Up c S r.1 r.2.2.2.2.2.2.1.2 h (Bb c r k).1
 |0=>R.up|k+1=>by
  unfold Bb;split
  .exact auL R k
  .split
   .exact ars R _ _ _
   .exact R.up
def aKW (R:RI c S r h)(imp:Bool)(m:cQ):Up c S r.1 r.2.2.2.2.2.2.1.2 h (aCL imp c r m).1:=by
 unfold aCL;split
 .rename_i hm;refine aEJ R imp ?_;unfold afH Oc;rw[ah (by omega),ah (by omega),ah (by omega)];exact ark
 .exact R.up
def art (a b:List bG):de (a++b)=de a++de b:=by simp[de]
def aEL:∀{h:Bc},Fair c S i h->∀x∈h,bM c x.1=true
 |[],_,x,hx=>by cases hx
 |y::h,g,x,hx=>by
  rcases dE.1 hx with h1|h1
  .rw[h1];exact g.2.ok
  .exact aEL g.1 x h1
def aGq (h:Bc):(h.map (·.1)).reverse.getLastD lV=Bi h:=by
 cases h with
 |nil=>rfl|cons x h=>simp[Bi]
def aKX (R:RI c S r h){d:qQ}{k:Nat}(hd:d.1=r.2.2.2.2.2.2.1.1.take k) :
  ∃h',RI c S (azO c (Et r d)) h'/\Sub h' h/\(∀h1,Sub h1 h->(de (h1.map (·.1)).reverse).length<=k->Sub h1 h')/\(azO c (Et r d)).1=r.1/\(azO c (Et r d)).2.2.2.2.2.2.1.2=((de (h'.map (·.1)).reverse).length:Int):=by
 have hl:∀x∈(h.map (·.1)).reverse,bM c x=true:=fun x hx=>by obtain⟨y,hy,rfl⟩:=Jr.1 (List.mem_reverse.1 hx);exact aEL R.g y hy
 obtain⟨j,t,hj,ht,e,hk,hmax⟩:=aqI k hl;have hlen:(h.map (·.1)).reverse.length=h.length:=by simp
 have aJd:(h.map (·.1)).reverse.take j=((h.drop (h.length-j)).map (·.1)).reverse:=by rw[List.take_reverse,List.map_drop];simp
 have aMI:Sub (h.drop (h.length-j)) h:=⟨h.take (h.length-j),(acL _ _).symm⟩;have hg:Fair c S r.1 (h.drop (h.length-j)):=by have:=R.g;rw[<-acL (h.length-j) h]at this;exact this.sub
 have hn:=aqH ht (l:=(h.map (·.1)).reverse.take j) (fun x hx=>hl x (Zb hx));have hb:(Et r d).2.2.2.2.2.2.1.1=de ((h.map (·.1)).reverse.take j)++t:=by show d.1=_;rw[hd,R.d,e]
 refine⟨h.drop (h.length-j),⟨hg,?_,?_,fun p hp=>absurd hp amK,fun p hp=>absurd hp amK⟩,aMI,fun h1 hs1 hle=>?_,rfl,?_⟩
 .show(iQ c (Et r d).2.2.2.2.2.2.1.1).1=_;rw[hb,hn,aJd];exact aGq _
 .show(Et r d).2.2.2.2.2.2.1.1.take (iQ c (Et r d).2.2.2.2.2.2.1.1).2=_;rw[hb,hn,<-aJd];exact afQ
 .obtain⟨p,hp⟩:=hs1;have hh1:h1.length<=h.length:=by rw[hp,aL];omega
  have e1:(h.map (·.1)).reverse.take h1.length=(h1.map (·.1)).reverse:=by rw[hp,ait,List.reverse_append];exact amM (by simp)
  have h3:=hmax h1.length (by rw[hlen];exact hh1) (by rw[e1];exact hle);have h4:h1.length<=j:=by
   rcases h3 with h3|h3
   .exact h3
   .rcases LO j h1.length with hlt|hge
    .exfalso;have aQ2:(h.map (·.1)).reverse.take h1.length=(h.map (·.1)).reverse.take j++((h.map (·.1)).reverse.take h1.length).drop j:=by have:=acL j ((h.map (·.1)).reverse.take h1.length);rw[List.take_take,aiv (by omega)]at this;exact this.symm
     rw[aQ2,art]at h3;have h5:=qd List.length h3;rw[aL]at h5;have h6:=ack (c:=c) (l:=((h.map (·.1)).reverse.take h1.length).drop j) fun x hx=>hl x (Zb (auS hx))
     rw[bB,bV,hlen]at h6;omega
    .exact hge
  refine⟨(h.drop (h.length-j)).take ((h.drop (h.length-j)).length-h1.length),?_⟩;have e2:h1=(h.drop (h.length-j)).drop ((h.drop (h.length-j)).length-h1.length):=by rw[amN,bB,hp,aL];rw[show p.length+h1.length-j+(p.length+h1.length-(p.length+h1.length-j)-h1.length)=p.length by rw[hp,aL]at hh1;rw[hlen,hp,aL]at hj;omega];exact amO.symm
  conv=>rhs;rhs;rw[e2]
  exact(acL _ _).symm
 .show((iQ c (Et r d).2.2.2.2.2.2.1.1).2:Int)=_;rw[hb,hn,aJd]
end
def Sd (w:an):Nm->Int->Prop:=fun n m=>m∈w.2.1\/∃x∈w.2.2.2.2,x.2.1.data.toList=n/\x.2.2=m
def szG (h:Bc):Nat:=(de (h.map (·.1)).reverse).length
structure WI (w:an) (hs:Nat->Bc):Prop where
 r:∀(k:Nat) (hk:k<w.2.2.1.length),RI w.1 (Sd w) w.2.2.1[k] (hs k)
 s:∀x∈w.2.2.2.2,∃(k:Nat) (hk:k<w.2.2.1.length),x.2.2=(k:Int)/\∃h1,Sub h1 (hs k)/\Tag h1 x.2.1.data.toList/\(szG h1:Int)<=(w.2.2.1[k]).2.2.2.2.2.2.1.2
 n:∀x∈w.2.2.2.1,afH (Sd w) (-1) [] (n7 w.1 x.2).1
def aru (l:List Int):∀k,∀x∈lU l k,x ∉ l
 |0,x,h=>by cases h
 |k+1,x,h=>by
  unfold lU at h;rcases jx.1 h with h1|h1
  .exact aru l k x h1
  .split at h1
   .cases h1
   .rename_i hn;rw[hU.1 h1];exact hn
def aEM {c:Int×Int}{S:Nm->Int->Prop}{i:Int}{h1 h:Bc}(s:Sub h1 h):szG h1<=szG h:=by obtain⟨p,rfl⟩:=s;unfold szG;rw[ait,List.reverse_append,art,aL];omega
def aKY {S:Nm->Int->Prop}{i:Int}{h:Bc}{q:cY}(e:LF S (-1) [] q):LF S i h q:=fun h0 m hm=>.inl (by
 rcases e h0 m hm with h1|⟨_,x,h2⟩
 .exact h1
 .cases h2)
def RI.said {c:Int×Int}{S S':Nm->Int->Prop}{r:aC}{h:Bc}(hS:∀n m,S n m->S' n m)(R:RI c S r h):RI c S' r h:=⟨R.g.said hS,R.s,R.d,fun p hp=>(R.t p hp).said hS,fun p hp=>LF.said hS (R.m p hp)⟩
section
variable {w:an} {hs:Nat->Bc}
def WI.set (W:WI w hs){k:Nat}(hk:k<w.2.2.1.length){r':aC}{h':Bc}(R:RI w.1 (Sd w) r' h')
  (aAB:∀h1,Sub h1 (hs k)->(szG h1:Int)<=(w.2.2.1[k]).2.2.2.2.2.2.1.2->Sub h1 h'/\(szG h1:Int)<=r'.2.2.2.2.2.2.1.2) :
  WI (hJ w (k:Int) r') (fun j=>if j=k then h' else hs j):=by
 have hlen:(hJ w (k:Int) r').2.2.1=w.2.2.1.set k r':=rfl;refine⟨fun j hj=>?_,fun x hx=>?_,W.n⟩
 .by_cases e:j=k
  .subst e;have:(hJ w (j:Int) r').2.2.1[j]=r':=by simp[hlen]
   rw[this,ai rfl];exact R
  .have hj':j<w.2.2.1.length:=by rw[hlen,Gv]at hj;exact hj
   have:(hJ w (k:Int) r').2.2.1[j]=w.2.2.1[j]:=by simp only[hlen];exact List.getElem_set_ne (fun h=>e h.symm) _
   rw[this,ah e];exact W.r j hj'
 .obtain⟨j,hj,ej,h1,s1,t1,z1⟩:=W.s x hx;refine⟨j,by rw[hlen,Gv];exact hj,ej,h1,?_,t1,?_⟩
  .by_cases e:j=k
   .subst e;rw[ai rfl];exact(aAB h1 s1 z1).1
   .rw[ah e];exact s1
  .by_cases e:j=k
   .subst e;have:(hJ w (j:Int) r').2.2.1[j]'(by rw[hlen,Gv];exact hj)=r':=by simp[hlen]
    rw[this];exact(aAB h1 s1 z1).2
   .have:(hJ w (k:Int) r').2.2.1[j]'(by rw[hlen,Gv];exact hj)=w.2.2.1[j]:=by simp only[hlen];exact List.getElem_set_ne (fun h=>e h.symm) _
    rw[this];exact z1
def WI.up (W:WI w hs){k:Nat}(hk:k<w.2.2.1.length){r':aC}(u:Up w.1 (Sd w) (w.2.2.1[k]).1 (w.2.2.1[k]).2.2.2.2.2.2.1.2 (hs k) r'):∃hs',WI (hJ w (k:Int) r') hs':=by obtain⟨h',R,s,_,e⟩:=u;exact⟨_,W.set hk R fun h1 s1 z1=>⟨s1.trans s,by rw[e];exact z1⟩⟩
def arv {a:Int}{k:Nat}(e:a=(k:Int))(hk:k<w.2.2.1.length):cN w a=w.2.2.1[k]:=by subst e;unfold cN;rw[jw];exact bm hk _
def WI.UR (W:WI w hs){UR:List mn}(hn:∀x∈UR,afH (Sd w) (-1) [] (n7 w.1 x.2).1):WI (XX w UR) hs:=⟨W.r,W.s,hn⟩
def aKZ (G:aM w)(W:WI w hs){k:Nat}(hk:k<w.2.2.1.length)(imp:Bool){d:eU}(e:d.2.1=(k:Int)):∃hs',WI (arc imp w d).1 hs':=by
 have R:=W.r k hk;unfold arc;rw[arv e hk,e];dsimp only;unfold aih;split
 .exact W.up hk (aKV R)
 .split
  .exact W.up hk (auL R _)
  .split
   .split
    .exact W.up hk (aJc R)
    .exact W.up hk R.up
   .split
    .have hdk:=(G.g _ (cX hk)).f.d;have hK:=afp hdk d.2.2.1;have hD:=dY.1 hdk;have hsz:(nS (w.2.2.1[k]).2.2.2.2.2.2.1 d.2.2.1).1=(w.2.2.1[k]).2.2.2.2.2.2.1.1.take (LB (w.2.2.1[k]).2.2.2.2.2.2.1 d.2.2.1).toNat:=by unfold nS;rw[ai hdk]
     obtain⟨h',R',s',hmax,_,esz⟩:=aKX R hsz;refine⟨_,W.set hk R' fun h1 s1 z1=>?_⟩;have h2:=hmax h1 s1 (by show szG h1<=_;omega);refine⟨h2,?_⟩;show(szG h1:Int)<=(azO w.1 (Et (w.2.2.1[k]) (nS (w.2.2.1[k]).2.2.2.2.2.2.1 d.2.2.1))).2.2.2.2.2.2.1.2;rw[esz];have:=aEM (c:=w.1) (S:=Sd w) (i:=0) h2;unfold szG at this ⊢;omega
    .exact W.up hk (aKW R imp _)
def aJf (W:WI w hs){a:Int}(h0:0<=a)(h1:a<w.2.2.2.1.length):∃hs',WI (aj3 true w a) hs':=by
 have hx:dJ w a∈w.2.2.2.1:=by unfold dJ;rw[bm (show a.toNat<w.2.2.2.1.length by omega)];exact cX _
 have Wd:WI (Q9 w a) hs:=W.UR fun x hx=>W.n x (acB hx)
 unfold aj3;split
 .rename_i hi;have hr:=fI hi;obtain⟨k,e,hk⟩:∃k:Nat,(dJ w a).1=(k:Int)/\k<w.2.2.1.length:=⟨(dJ w a).1.toNat,(LM hr.1).symm,by omega⟩;unfold aii;rw[arv e hk,e];exact Wd.up (k:=k) hk (aEJ (Wd.r _ hk) true (aKY (W.n _ hx)))
 .exact⟨hs,Wd⟩
def acE {q:cY}(h:I1 w.2.1 w.2.2.2.2 q=true):LF (Sd w) (-1) [] q:=fun h0 m hm=>.inl (by
 have:=iU.1 h m hm;unfold Q7 at this;rcases(kE _ _).mp this with h1|h1
 .exact .inl (nW h1)
 .obtain⟨x,hx,h2⟩:=auW.1 h1;unfold isSaid at h2;simp only[aI]at h2;exact .inr ⟨x,hx,YH h2.2.1,eq_of_beq h2.2.2⟩)
def aK0 {m:cQ}(h:Gp w.1 w.2.1 w.2.2.2.2 m=true):dR w.1 m=true/\afH (Sd w) (-1) [] m:=by
 unfold Gp at h;simp only[aI]at h;refine⟨h.1,?_⟩;have h2:=h.2;unfold afH Oc;split
 .rename_i h1;rw[ai h1]at h2;exact acE ((aI _ _).mp h2).2
 .rename_i h1;rw[ah h1]at h2;split
  .rename_i h3;rw[ai h3]at h2;exact acE h2
  .rename_i h3;rw[ah h3]at h2;split
   .rename_i h4;rw[ai h4]at h2;exact acE ((aI _ _).mp h2).2
   .exact ark
def aEN (W:WI w hs){d:eU}(hr:Hr d=true->0<=d.2.1/\d.2.1<w.2.2.2.1.length):∃hs',WI (axw w d).1 hs':=by
 unfold axw;split
 .rename_i h3;obtain⟨a,b⟩:=hr (gA.2 (.inl h3));exact aJf W a b
 .split
  .exact⟨hs,W.UR fun x hx=>W.n x (acB hx)⟩
  .split
   .rename_i h5;obtain⟨a,b⟩:=hr (gA.2 (.inr (.inr h5)));refine⟨hs,W.UR fun x hx=>?_⟩;rcases jx.1 hx with h1|h1
    .exact W.n x h1
    .rw[hU.1 h1];refine W.n _ ?_;unfold dJ;rw[bm (show d.2.1.toNat<w.2.2.2.1.length by omega)];exact cX _
   .split
    .rename_i hm;obtain⟨hk,he⟩:=aK0 hm;refine⟨hs,W.UR fun x hx=>?_⟩;rcases jx.1 hx with h1|h1
     .exact W.n x h1
     .rw[hU.1 h1];show afH _ _ _ (n7 w.1 (CF d.2.2.2)).1;rw[ah3 hk];exact he
    .exact⟨hs,W⟩
end
def aAC {l:List dI}{x:dI}(h:x∈l)(y:dI):x∈CJ l y:=by
 unfold CJ;split
 .exact List.mem_append_left _ h
 .exact h
def acF {U V:Type}{f:List U->V->List U}(hf:∀l y x,x∈l->x∈f l y):∀(ys:List V) {l:List U} {x:U},x∈l->x∈ys.foldl f l
 |[],_,_,h=>h|y::ys,l,x,h=>acF hf ys (hf l y x h)
def axF (id:Int)(ps:List kG){l:List dI}{x:dI}(h:x∈l):x∈YE id ps l :=
 acF (fun l p x h=>acF (fun l y x h=>aAC h y) _ h) ps h
def aj9 {c:Int×Int}:∀{ps:List kG} {l:List mn} {x:mn},x∈aq6 c ps l->x∈l\/∃p∈ps,dR c p.2=true/\x=(p.1,CF p.2)
 |[],_,_,h=>.inl h|p::ps,l,x,h=>by
  rcases aj9 (ps:=ps) (l:=aaZ c l p) h with h1|⟨q,hq,h2⟩
  .unfold aaZ at h1;split at h1
   .rename_i hh;rcases jx.1 h1 with h3|h3
    .exact .inl h3
    .exact .inr ⟨p,qU,hh.2.1,hU.1 h3⟩
   .exact .inl h1
  .exact .inr ⟨q,ka p hq,h2⟩
def arw {id:Int}{q:cY}{x:dI}:x∈Uy id q↔x=(q.1,q.2.1,id)/\nmQ q≠[]/\id∈q.2.2:=by
 unfold Uy;by_cases h1:eh q.2.1=true
 .rw[ai h1];have:=(rY q.2.1).1 h1;exact⟨fun h=>(by cases h),fun h=>absurd this h.2.1⟩
 .rw[ah h1];have hne:nmQ q≠[]:=fun e=>h1 ((rY q.2.1).2 e)
  by_cases h2:id∈q.2.2
  .rw[ai h2,hU];exact⟨fun h=>⟨h,hne,h2⟩,fun h=>h.1⟩
  .rw[ah h2];exact⟨fun h=>(by cases h),fun h=>absurd h.2.2 h2⟩
def auM {c:Int×Int}{id:Int}{m:cQ}(hm:dR c m=true){x:dI}:x∈dv id m↔x=((Oc m).1,(Oc m).2.1,id)/\nmQ (Oc m)≠[]/\id∈(Oc m).2.2:=by
 unfold dv Oc;rcases acm hm with ⟨h,_⟩|h|⟨h,_⟩|h
 .rw[ah (by omega),ah (by omega),ai h,ai h];exact arw
 .rw[ah (by omega),ai h,ah (by omega),ai h];exact arw
 .rw[ah (by omega),ah (by omega),ah (by omega),ah (by omega),ah (by omega),ai h];exact arw
 .rw[ai h,ah (by omega),ah (by omega),ah (by omega)];exact⟨fun h=>(by cases h),fun h=>absurd rfl h.2.1⟩
section
variable {w:an} {hs:Nat->Bc}
def aJg (G:aM w)(W:WI w hs){a:Int}{k:Nat}(hk:k<w.2.2.1.length)(e:a=(k:Int))(hh:a∈bU w):∃hs',WI (aj2 w a).1 hs':=by
 have hR:=arv (w:=w) e hk;have hl:a ∉ w.2.1:=aru _ _ a hh;have hw1:yl w a (bA w a)=(w.1,w.2.1,w.2.2.1,w.2.2.2.1,YE a (bA w a) w.2.2.2.2):=ai hh;have aJh:bA w a=(w.2.2.1[k]).2.2.2.2.2.2.2:=by unfold bA;rw[hR]
 have Rk:=W.r k hk;have Gk:=G.g _ (cX hk);have hid:(w.2.2.1[k]).1=(k:Int):=G.id k hk;unfold aj2;split
 .rename_i mr;split
  .rw[hw1]at mr;have hS:∀n m,Sd w n m->Sd (Ba (mo w a) (bA w a)) n m:=by
    intro n m h;unfold mo;rw[hw1];rcases h with h|⟨x,hx,h⟩
    .exact .inl h
    .exact .inr ⟨x,axF a _ hx,h⟩
   have aJi:(Ba (mo w a) (bA w a)).2.2.1=w.2.2.1.set k (Ux w.2.2.1[k]):=by unfold mo;rw[hw1,hR,e];rfl
   have aAB:(Ba (mo w a) (bA w a)).2.2.2.2=YE a (bA w a) w.2.2.2.2:=by unfold mo;rw[hw1];rfl
   have aQ4:(Ba (mo w a) (bA w a)).2.2.2.1=aq6 w.1 (bA w a) w.2.2.2.1:=by unfold mo;rw[hw1];rfl
   have aLK:(Ba (mo w a) (bA w a)).1=w.1:=by unfold mo;rw[hw1];rfl
   have aLL:((Ux w.2.2.1[k]).2.2.2.2.2.2.1.2:Int)=(szG (hs k):Int):=by show(lW _).2=_;unfold lW szG;rw[ai Gk.f.d,<-Rk.d]
   have aK1:∀p∈bA w a,nmQ (Oc p.2)≠[]->a∈(Oc p.2).2.2->Tag (hs k) (nmQ (Oc p.2)):=by
    intro p hp h0 hm;rw[aJh]at hp;rcases Rk.m p hp h0 a hm with (h1|⟨x,hx,h2,h3⟩)|h1
    .exact absurd h1 hl
    .obtain⟨j,hj,ej,h1,s1,t1,_⟩:=W.s x hx;have:j=k:=by omega
     subst this;rw[<-h2];exact t1.mono s1
    .exact h1.2
   have w9:∀(j:Nat) (hj:j<(Ba (mo w a) (bA w a)).2.2.1.length),(j=k/\(Ba (mo w a) (bA w a)).2.2.1[j]=Ux w.2.2.1[k])\/(j≠k/\∃hj':j<w.2.2.1.length,(Ba (mo w a) (bA w a)).2.2.1[j]=w.2.2.1[j]):=by
    intro j hj;simp only[aJi]at hj ⊢;rw[Gv]at hj;by_cases ej:j=k
    .subst ej;exact .inl ⟨rfl,by simp⟩
    .exact .inr ⟨ej,hj,List.getElem_set_ne (fun h=>ej h.symm) _⟩
   refine⟨hs,⟨fun j hj=>?_,fun x hx=>?_,fun x hx=>?_⟩⟩
   .rw[aLK];rcases w9 j hj with ⟨rfl,e2⟩|⟨_,hj',e2⟩
    .rw[e2];refine((W.r j hk).said hS).same rfl rfl (aC1 _) ((W.r j hk).said hS).t fun p hp=>absurd hp amK
    .rw[e2];exact(W.r j hj').said hS
   .rw[aAB]at hx;have aLM:k<(Ba (mo w a) (bA w a)).2.2.1.length:=by rw[aJi,Gv];exact hk
    rcases XW hx with hx|⟨p,hp,hx⟩
    .obtain⟨j,hj,ej,h1,s1,t1,z1⟩:=W.s x hx;have hjl:j<(Ba (mo w a) (bA w a)).2.2.1.length:=by rw[aJi,Gv];exact hj
     refine⟨j,hjl,ej,h1,s1,t1,?_⟩;rcases w9 j hjl with ⟨rfl,e2⟩|⟨_,hj',e2⟩
     .rw[e2,aLL];have:=aEM (c:=w.1) (S:=Sd w) (i:=0) s1;omega
     .rw[e2];exact z1
    .have Ol:dR w.1 p.2=true:=by rw[aJh]at hp;exact Gk.axu p hp
     obtain⟨rfl,h0,hm⟩:=(auM Ol).1 hx;refine⟨k,aLM,e,hs k,Sub.refl _,aK1 p hp h0 hm,?_⟩;rcases w9 k aLM with ⟨_,e2⟩|⟨hne,_⟩
     .rw[e2,aLL];exact UY _
     .exact absurd rfl hne
   .rw[aLK];rw[aQ4]at hx;rcases aj9 hx with hx|⟨p,hp,Ol,rfl⟩
    .exact LF.said hS (W.n x hx)
    .show afH _ _ _ (n7 w.1 (CF p.2)).1;rw[ah3 Ol];intro h0 m hm;have hp':=hp;rw[aJh]at hp';rcases Rk.m p hp' h0 m hm with h1|⟨h1,h2⟩
     .exact .inl (hS _ _ h1)
     .refine .inl (.inr ?_);rw[aAB];have hma:m=a:=by omega
      subst hma;have h3:((Oc p.2).1,(Oc p.2).2.1,m)∈dv m p.2:=(auM Ol).2 ⟨rfl,h0,hm⟩;have h4:=iU.1 (iU.1 mr p hp) _ h3;obtain⟨x,hx,h5⟩:=auW.1 h4;unfold isSaid at h5;simp only[aI]at h5;exact⟨x,hx,YH h5.2.1,eq_of_beq h5.2.2⟩
  .exact⟨hs,W⟩
 .exact⟨hs,W⟩
def aJj (h:aM w)(W:WI w hs)(d:eU):∃hs',WI (aj5 w d) hs':=by
 unfold aj5;split
 .rename_i h0;unfold doI at h0 ⊢;cases hk:ix 1 10 d.1 with
  |false=>rw[hk,ah (by decide)]at h0;exact absurd (show(1:Int)=0 from h0) (by decide)
  |true =>
   rw[hk,ai rfl]at h0;rw[ai rfl];cases ht:ON w d with
   |false=>rw[ht,ah (by decide)]at h0;exact absurd (show(2:Int)=0 from h0) (by decide)
   |true =>
    rw[ht,ai rfl]at h0;rw[ai rfl];have hG:∃hs',WI (axx w d).1 hs':=by
     unfold axx;by_cases k2:d.1=2
     .have hh:d.2.1∈bU w:=by rw[CK (fun hh=>by have:=gA.1 hh;omega) (by omega)]at ht;exact nW ht
      obtain⟨r0,r1⟩:=fI hh;rw[ai k2];exact aJg h W (k:=d.2.1.toNat) (by omega) (LM r0).symm hh
     .rw[ah k2];by_cases kn:Hr d=true
      .have hr:ix 0 (ak ((w.2.2.2.1.length:Int)-1)) d.2.1=true:=by rw[Jo kn]at ht;exact ht
       rw[ai (.inl kn)];exact aEN W fun _=>Ra h hr
      .by_cases k10:d.1=10
       .rw[ai (.inr k10)];exact aEN W fun hh=>absurd hh kn
       .have hh:d.2.1∈bU w:=by rw[CK kn k10]at ht;exact nW ht
        obtain⟨r0,r1⟩:=fI hh;rw[ah (fun hh=>hh.elim kn k10)];exact aKZ h W (k:=d.2.1.toNat) (by omega) true (LM r0).symm
    unfold aGl;by_cases hx:(axx w d).2=0
    .rw[ai hx];split
     .exact hG
     .exact⟨hs,W⟩
    .rw[ah hx];exact⟨hs,W⟩
 .exact⟨hs,W⟩
end
def auN:∀(list:List eU) {w:an} {hs:Nat->Bc},aM w->WI w hs->∃hs',WI (aik w list) hs'
 |[],_,hs,_,W=>⟨hs,W⟩|d::list,w,hs,G,W=>by obtain⟨hs',W'⟩:=aJj G W d;exact auN list (axy G d) W'
def aK2 (c:Int×Int)(liars:List Int):WI (UN c liars) fun _=>[]:=by
 refine⟨fun k hk=>?_,fun x hx=>(by cases hx),fun x hx=>(by cases hx)⟩;have:(UN c liars).2.2.1[k]=Gq (k:Int):=by simp[UN]
 rw[this];exact⟨trivial,rfl,rfl,fun p hp=>(by cases hp),fun p hp=>(by cases hp)⟩
def SB (w:an)(hs:Nat->Bc)(i:Int):Bc:=if 0<=i/\i<w.2.2.1.length then hs i.toNat else []
def WI.aMW {w:an}{hs:Nat->Bc}(G:aM w)(W:WI w hs):aI4 w.1 w.2.1 (Sd w) (SB w hs):=by
 refine⟨G.c,G.lf,fun n m h=>?_,fun i=>?_⟩
 .rcases h with h|⟨x,hx,h1,h2⟩
  .exact .inl h
  .obtain⟨k,hk,ek,h3,s3,t3,_⟩:=W.s x hx;refine .inr ?_;subst h1;rw[<-h2,ek];unfold SB;rw[ai ⟨by omega,by omega⟩];exact t3.mono s3
 .unfold SB;split
  .rename_i hi;have hk:i.toNat<w.2.2.1.length:=by omega
   have:=(W.r i.toNat hk).g;rw[G.id i.toNat hk,LM hi.1]at this;exact this
  .exact trivial
def WI.at {w:an}{hs:Nat->Bc}(G:aM w)(W:WI w hs){k:Nat}(hk:k<w.2.2.1.length):SB w hs (k:Int)=hs k:=by unfold SB;rw[ai ⟨by omega,by omega⟩];rfl
def WI.meet {w:an}{hs:Nat->Bc}(G:aM w)(W:WI w hs){j k:Nat}(hj:j<w.2.2.1.length)(hk:k<w.2.2.1.length) :
  Anc (w.2.2.1[j]).2.2.2.1.2.2.2.data.toList (w.2.2.1[k]).2.2.2.1.2.2.2.data.toList\/Anc (w.2.2.1[k]).2.2.2.1.2.2.2.data.toList (w.2.2.1[j]).2.2.2.1.2.2.2.data.toList:=by
 have H:=W.aMW G;have Rj:=W.r j hj;have Rk:=W.r k hk;have nj:=(dX (Rj.s▸(G.g _ (cX hj)).f.s)).2.2.2;have nk:=(dX (Rk.s▸(G.g _ (cX hk)).f.s)).2.2.2;have root:∀n:Nm,bu n=true->Anc [] n:=fun n hn=>by
  generalize hl:n.length=l
  induction l using Nat.strongRecOn generalizing n with
  |_ l ih =>
   by_cases h0:n=[]
   .exact .inl h0
   .exact(ih _ (by rw[<-hl];exact aCi hn h0) (fQ n) (xF hn) rfl).trans (Sz hn)
 rw[Rj.s,Rk.s];rcases axE Rj.g with e1|⟨a,ta,ca,ea⟩
 .rw[e1];exact .inl (root _ nk)
 .rcases axE Rk.g with e2|⟨b,tb,cb,eb⟩
  .rw[e2];exact .inr (root _ nj)
  .rw[ea,eb];have ida:=G.id j hj;have idb:=G.id k hk;rw[ida]at ca;rw[idb]at cb;have sa:Sub (hs j) (SB w hs (j:Int)):=by rw[W.at G hj];exact Sub.refl _
   have sb:Sub (hs k) (SB w hs (k:Int)):=by rw[W.at G hk];exact Sub.refl _
   rcases Int.le_total (aH (fQ (fQ a))) (aH (fQ (fQ b))) with hle|hle
   .exact .inl (auK H sa sb ca cb ta tb hle)
   .exact .inr (auK H sb sa cb ca tb ta hle)
end Go.Am.Tryz
