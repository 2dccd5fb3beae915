/- No condition. -/
import Derived.Test.YtnllfndlcahalaaGreatDoorQvWJL5
set_option linter.all false
namespace Go.Am.Tryz
open Go.Am
def cd (c:Int×Int)(r:aw):Prop:=∃l:List bf,(∀x∈l,bh c x=true)/\r.2.2.2.2.2.2.1.1=cc l/\r.2.2.2.1=l.getLastD kg
section
variable {c:Int×Int} {r:aw}
def cd.same {r':aw}(h:cd c r)(e:r'.2.2.2.1=r.2.2.2.1)(f:r'.2.2.2.2.2.2.1.1=r.2.2.2.2.2.2.1.1):cd c r':=by obtain⟨l,a,b,d⟩:=h;exact⟨l,a,f.trans b,e.trans d⟩
def cd.put (h:cd c r){s:bf}(hs:bh c s=true):cd c (put r s):=by
 obtain⟨l,a,b,d⟩:=h;refine⟨l++[s],fun x e=>?_,?_,?_⟩
 .rcases gQ.1 e with h|h
  .exact a x h
  .rw[fq.1 h];exact hs
 .show r.2.2.2.2.2.2.1.1++dA s=_;rw[b,cc,cc,avF];simp
 .show s=_;simp
def ayl (h:cd c r)(s:bf):cd c (ie c r s).1:=by
 unfold ie;split
 .exact h
 .split
  .rename_i a;exact h.put a.1
  .exact h
def aym (h:cd c r)(t:Int)(m:b1):cd c (lV c r t m).1:=by
 unfold lV;split
 .exact h.same rfl rfl
 .exact h
def ahb (h:cd c r)(v:Int):cd c (tp r v):=h.same rfl rfl
def YX (h:cd c r)(t:List bZ):cd c (fQ r t):=h.same rfl rfl
def ajN (h:cd c r)(v:Int):cd c (ki r v):=h.same rfl rfl
def avl (h:cd c r)(p:List dH):cd c (O8 r p):=h.same rfl rfl
def aDm (h:cd c r):cd c (Gl r):=h.same rfl rfl
def R9 (h:cd c r)(q:bZ):cd c (written c r q).1:=ayl h _
def aJ3 (h:cd c r)(q:bZ):cd c (p1 c r q).1:=by
 unfold p1;split
 .split
  .exact R9 h q
  .split
   .exact ahb (R9 h q) _
   .exact aym (ahb (R9 h q) _) _ _
 .exact h
def ayn (h:cd c r)(v:Int)(n:ByteArray)(p:Bool):cd c (fP c r v n p).1:=by
 unfold fP;split
 .exact h
 .split
  .split
   .exact aJ3 h _
   .exact h
  .split
   .exact h
   .exact aym h _ _
def aL9 (h:cd c r)(n:ByteArray):cd c (own c r n).1:=by
 unfold own;split
 .exact ayn (YX h _) _ _ _
 .exact h
def aEV (h:cd c r)(b:cr):cd c (jE r b):=by
 unfold jE;split
 .exact ajN h _
 .exact h
def alj (h:cd c r)(b:cr):cd c (fc c r b).1:=by
 unfold fc Cg;split
 .split
  .split
   .exact aL9 (ayl (aEV h b) _) _
   .exact h
  .exact ayl (aEV h b) _
 .exact h
def aDn (h:cd c r)(p:bZ):cd c (iN c r p).1:=by
 unfold iN;split
 .exact ayn (YX h _) _ _ _
 .exact h
def aEW (h:cd c r)(l:Bool)(v:Int)(q:bZ):cd c (MA l r v q):=by
 unfold MA;split
 .exact ahb (ahb h _) _
 .exact ahb h _
def aDo (h:cd c r)(imp:Bool)(v:Int)(q:bZ)(cw:Int):cd c (iO imp c r v q cw).1:=by
 unfold iO;split
 .unfold rK;split
  .split
   .exact aEW (YX (R9 h q) _) _ _ _
   .exact h
  .exact aEW (R9 h q) _ _ _
 .exact h
def aJ4 (h:cd c r)(imp:Bool)(m:b1):cd c (uu imp c r m).1:=by
 unfold uu;split
 .exact alj h _
 .split
  .exact aDn h _
  .split
   .exact aDo h imp _ _ _
   .exact avl h _
def aIt (h:cd c r)(imp:Bool)(m:b1):cd c (Hd imp c r m).1:=by
 unfold Hd;split
 .exact avl (YX (aJ4 h imp m) _) _
 .exact h
def ar7 (d:p0):(lC d).1=d.1:=by unfold lC;split<;>rfl
def aJ5 (h:cd c r):cd c (R3 r):=h.same rfl (ar7 _)
def aJ6 (h:cd c r):cd c (Cf c r).1:=by
 unfold Cf;split
 .exact h
 .split
  .split
   .exact YX (ajN h _) _
   .exact h
  .split
   .exact aym (ajN h _) _ _
   .exact h
def ar8 (h:cd c r)(m:b1):∀(j k:Nat) {o:aw},cd c o->cd c (rJ c r m j k o).1
 |0,_,o,a=>a|j+1,k,o,a=>by
  unfold rJ;split
  .exact ar8 h m j (k+1) a
  .split
   .exact ar8 h m j (k+1) (aym a _ _)
   .exact h
def aGq (h:cd c r)(m:b1):cd c (To c r m).1:=ar8 h m _ _ h
def aLf (h:cd c r):cd c (YS c r).1:=by
 unfold YS;split
 .split
  .exact alj (aGq (aDm h) _) _
  .exact h
 .exact h
def aAZ (h:cd c r):∀k,cd c (tN c r k).1
 |0=>h|k+1=>by
  unfold tN;split
  .exact aAZ h k
  .split
   .exact ayn h _ _ _
   .exact h
def aIu {l:List bf}{k:Nat}(a:∀x∈l,bh c x=true)(b:r.2.2.2.2.2.2.1.1=(cc l).take k):cd c (axZ c r):=by
 obtain⟨i,t,n,j,e,_⟩:=adP k a;have d:∀x∈l.take i,bh c x=true:=fun x m=>a x (aam m)
 have f:=Mw j d;refine⟨l.take i,d,?_,?_⟩
 .show r.2.2.2.2.2.2.1.1.take (dV c r.2.2.2.2.2.2.1.1).2=_;rw[b,e,f];exact acj
 .show(dV c r.2.2.2.2.2.2.1.1).1=_;rw[b,e,f]
def aJ7 (h:cd c r)(keep:Int):cd c (jF c r keep):=by
 obtain⟨l,a,b,d⟩:=h;unfold jF;by_cases e:fJ r.2.2.2.2.2.2.1=true
 .refine aIu (l:=l) (k:=(Gi r.2.2.2.2.2.2.1 keep).toNat) a ?_;show(fN r.2.2.2.2.2.2.1 keep).1=_;unfold fN;rw[ag e,b]
 .refine aIu (l:=l) (k:=(cc l).length) a ?_;show(fN r.2.2.2.2.2.2.1 keep).1=_;unfold fN;rw[af e,b,kl]
def aLg (h:cd c r)(imp:Bool)(m:b1):cd c (ayi imp c r m).1:=by
 unfold ayi;split
 .exact aIt h imp m
 .exact h
def aLh (h:cd c r)(imp:Bool)(d:db):cd c (ad2 imp c r d).1:=by
 unfold ad2;split
 .exact aLf h
 .split
  .exact aAZ h _
  .split
   .split
    .exact aJ6 h
    .exact h
   .split
    .exact aJ7 h _
    .exact aLg h imp _
def cd.ok (h:cd c r)(f:ng c r=true):auZ c r=true:=by obtain⟨l,a,b,d⟩:=h;have e:=Mw (c:=c) (t:=[]) (.inl rfl) a;rw[fs]at e;unfold auZ;rw[f,b,e,d];simp[atH]
end
def oj (w:ah):Prop:=∀r∈w.2.2.1,cd w.1 r
def ayo {w:ah}(h:oj w)(a:Int):cd w.1 (bT w a):=by
 unfold bT;rw[Fa];cases e:w.2.2.1[a.toNat]? with
 |none=>exact⟨[],fun _ b=>absurd b aci,rfl,rfl⟩
 |some r=>exact h r (atZ e)
def ar9 {w:ah}(h:oj w)(a:Int){r:aw}(b:cd w.1 r):oj (dB w a r):=fun x d=>by
 rcases aBg d with h1|h1
 .exact h x h1
 .rw[h1];exact b
def aJ8 {w:ah}(h:oj w)(i:Int)(l:List jC):oj (oR w i l):=by
 unfold oR;split
 .exact h
 .exact h
def aDp (w:ah)(i:Int)(l:List jC):(oR w i l).1=w.1:=by unfold oR;split<;>rfl
def aJ9 {w:ah}(h:oj w)(a:Int):oj (ach w a).1:=by
 unfold ach;split
 .split
  .exact ar9 (w:=oR w a (bb w a)) (aJ8 h _ _) a (by rw[aDp];exact aJ5 (ayo h a))
  .exact h
 .exact h
def aLi {w:ah}(h:oj w)(d:db):oj (ar1 w d).1:=by
 unfold ar1;split
 .unfold ag8;split
  .exact ar9 (w:=O9 w d.2.1) h _ (aIt (ayo h _) true _)
  .exact h
 .split
  .exact h
  .split
   .exact h
   .split
    .exact h
    .exact h
def aLj {w:ah}(h:oj w)(imp:Bool)(d:db):oj (ag9 imp w d).1:=ar9 h _ (aLh (ayo h _) imp d)
def aKa {w:ah}(h:oj w)(d:db):oj (Vm w d):=by
 unfold Vm;split
 .rename_i a;unfold doI at a ⊢;split at a
  .rename_i b;rw[ag b];split at a
   .rename_i e;rw[ag e];have f:oj (ano w d).1:=by
     unfold ano;split
     .exact aJ9 h _
     .split
      .exact aLi h d
      .exact aLj h true d
    unfold aAN;split
    .split
     .exact f
     .exact h
    .exact h
   .cases a
  .cases a
 .exact h
def aA0:∀(list:List db) {w:ah},oj w->oj (YW w list)
 |[],_,h=>h|d::list,w,h=>aA0 list (aKa h d)
def aLk (c:Int×Int)(liars:List Int):oj (R8 c liars):=fun r a=>by obtain⟨i,_,rfl⟩:=Fc.1 a;exact⟨[],fun _ b=>absurd b aci,rfl,rfl⟩
abbrev Nm:=List UInt8
def Anc (t s:Nm):Prop:=s=t\/∃r,s=t++47::r
def Anc.refl (t:Nm):Anc t t:=.inl rfl
def Anc.trans {a b c:Nm}(h:Anc a b)(d:Anc b c):Anc a c:=by
 rcases d with rfl|⟨r,rfl⟩
 .exact h
 .rcases h with rfl|⟨q,rfl⟩
  .exact .inr ⟨r,rfl⟩
  .exact .inr ⟨q++47::r,by simp⟩
def YY {s:Nm}(h:bg s=true):Anc (fV s) s:=by
 by_cases a:s=[]
 .subst a;exact .inl rfl
 .obtain⟨t,_,e⟩:=YD h a;exact .inr ⟨t,e⟩
def aKb {t s:Nm}(h:Anc t s):t.length<=s.length:=by
 rcases h with rfl|⟨r,rfl⟩
 .exact bF _
 .rw[aK];omega
def asa {a b s:Nm}(f:Anc a s)(l:Anc b s)(h:a.length<=b.length):Anc a b:=by
 rcases l with rfl|⟨q,rfl⟩
 .exact f
 .rcases f with e|⟨r,e⟩
  .have:=nk List.length e;rw[aK,aW]at this;omega
  .by_cases m:a.length=b.length
   .have:=List.append_inj_left e m.symm;exact .inl this
   .refine .inr ⟨b.drop (a.length+1),?_⟩;have j:(b++47::q).take a.length=a:=by rw[e];exact acj
    have d:(b++47::q)[a.length]?=some 47:=by rw[e];simp
    rw[aDv h]at j;rw[List.getElem?_append_left (by omega)]at d;obtain⟨n,d⟩:=wR.1 d;have k:=aal a.length b;rw[VK n,d,j]at k;exact k.symm
def aIv {a s:Nm}(hs:bg s=true)(z:bg a=true):Anc a s->a≠s->aE a<aE s:=by
 intro h f;generalize l:s.length=n
 induction n using Nat.strongRecOn generalizing s with
 |_ n m =>
  subst l;have b:s≠[]:=fun e=>by
   subst e;rcases h with h|⟨r,h⟩
   .exact f h.symm
   .simp at h
  have o:=anG hs b;by_cases j:a=fV s
  .rw[j];exact o
  .have p:a.length<=(fV s).length:=by
    rcases h with h|⟨r,h⟩
    .exact absurd h.symm f
    .rcases Tt (fV s).length a.length with hlt|q
     .exfalso;obtain⟨t,u,e⟩:=YD hs b;have d:s[a.length]?=some 47:=by rw[h];simp
      rw[e,ayy (by omega)]at d;have v:(47::t)[a.length-(fV s).length]?=t[a.length-(fV s).length-1]?:=by obtain⟨k,x⟩:∃k,a.length-(fV s).length=k+1:=⟨a.length-(fV s).length-1,by omega⟩;rw[x];simp
      rw[v]at d;exact u (atZ d)
     .exact q
   have y:=asa h (YY hs) p;have:=m (fV s).length (aHS hs b) (Di hs) y j rfl;omega
def aEX {s t:ByteArray}(hs:bg s.data.toList=true)(b:bg t.data.toList=true)(h:Anc t.data.toList s.data.toList):anm s t=true:=by
 have j:=aKb h;have d:s.size=s.data.toList.length:=rfl;have a:t.size=t.data.toList.length:=rfl;unfold anm;rw[hs,b,eF,eF,aL (show(s.size:Int)>=(t.size:Int) by omega),eF];have e:s.extract 0 t.size=t:=by
  have:=OO s.data.toList 0 t.data.toList.length;rw[aed,VS]at this;rw[<-Ku]at this;refine this.trans ?_;rcases h with h|⟨r,h⟩
  .rw[h,kl];rfl
  .rw[h,acj];rfl
 rw[e,aao,eF];rcases h with h|⟨r,h⟩
 .rw[show((s.size:Int)==(t.size:Int))=true from bd.2 (by rw[d,a,h])];rfl
 .have:jP s (t.size:Int)=47:=by
   have f:s.data.toList[t.data.toList.length]?=some 47:=by rw[h];simp
   unfold jP;rw[gz,a,Fa,f];rfl
  rw[this];simp
def avm (A B:Nat->Bool):∀l:List Nat,l.countP A+l.countP B<=l.length+l.countP fun k=>A k&&B k
 |[]=>bF _|x::l=>by have:=avm A B l;rw[Hi,Hi,Hi,aW];cases A x<;>cases B x<;>simp<;>omega
def avn (A L:Nat->Bool):∀l:List Nat,l.countP A<=l.countP L+l.countP fun k=>A k&& !L k
 |[]=>bF _|x::l=>by have:=avn A L l;rw[Hi,Hi,Hi];cases A x<;>cases L x<;>simp<;>omega
def avo {x:Nat}(p:Nat->Bool)(a:p x=false):∀l:List Nat,x∈l->l.countP p+1<=l.countP fun k=>p k || k==x
 |y::l,h=>by
  rw[Hi,Hi];by_cases e:y=x
  .subst e;have:l.countP p<=l.countP fun k=>p k || k==y:=aBn fun k _ b=>by rw[b];rfl
   rw[a];simp;omega
  .have:=avo p a l (by rcases cS.1 h with h|h;exact absurd h.symm e;exact h);rw[show(y==x)=false by simp[e],an0];omega
def ajO {n:Nat}:∀{w:List Int},w.Nodup->(∀x∈w,0<=x/\x<n)->w.length<=(List.range n).countP fun k:Nat=>decide ((k:Int)∈w)
 |[],_,_=>aR _|x::w,b,d=>by
  have l:=ajO (n:=n) (avM.1 b).2 fun y f=>d y (jO x f)
  have e:=d x p3;have a:x.toNat∈List.range n:=eZ.2 (by omega);have j:decide (((x.toNat:Nat):Int)∈w)=false:=aQ (by rw[MH e.1];exact(avM.1 b).1);have m:=avo (fun k:Nat=>decide ((k:Int)∈w)) j _ a;have o:((List.range n).countP fun k:Nat=>decide ((k:Int)∈w) || k==x.toNat)<=(List.range n).countP fun k:Nat=>decide ((k:Int)∈x::w):=aBn fun k _ a=>by
   rcases(kK _ _).mp a with h|h
   .exact aL (jO x (nj h))
   .have:=eq_of_beq h;exact aL (by rw[this,MH e.1];exact p3)
  rw[aW];omega
def count_le {n:Nat}{w:List Int}:((List.range n).countP fun k:Nat=>decide ((k:Int)∈w))<=w.length:=by
  induction w with
  |nil=>simp
  |cons x w a =>
   have:((List.range n).countP fun k:Nat=>decide ((k:Int)∈x::w))<=((List.range n).countP fun k:Nat=>decide ((k:Int)∈w))+(List.range n).countP fun k:Nat=>decide ((k:Int)=x):=by
    generalize List.range n=l
    induction l with
    |nil=>simp
    |cons y l a =>
     rw[Hi,Hi,Hi];by_cases b:(y:Int)=x<;>by_cases d:(y:Int)∈w<;>simp[b,d]at a ⊢<;>omega
   have b:∀m,((List.range m).countP fun k:Nat=>decide ((k:Int)=x))<=1/\(((m:Int)<=x)->((List.range m).countP fun k:Nat=>decide ((k:Int)=x))=0):=by
    intro m
    induction m with
    |zero=>simp
    |succ m a =>
     rw[List.range_succ,List.countP_append,Hi,List.countP_nil];by_cases h:(m:Int)=x
     .have:=a.2 (by omega);rw[this,aL h];exact⟨by simp,fun d=>by omega⟩
     .rw[aQ h];refine⟨by simp;exact a.1,fun d=>?_⟩;rw[a.2 (by omega)];simp
   have:=(b n).1;rw[aW];omega
def alk {n:Int}{s:List Int}(h:ko n s=true):s.Nodup:=by
 have hlt:∀(a i:Nat) (b:a<s.length) (d:i<a),s[i]<s[a]:=by
  intro a
  induction a with
  |zero=>intro i b d;omega
  |succ a f =>
   intro i b d;have j:=arx h b;rcases Tt i a with e|e
   .have:=f i (by omega) e;omega
   .have:i=a:=by omega
    subst this;exact j
 refine aBh.2 fun i a d b k l=>?_
 have:=hlt a i b k;omega
def aIw {c:Int×Int}{liars w1 a:List Int}(o:bw c=true)(t:(liars.length:Int)<=wO c)(p:ko c.1 w1=true)(q:ko c.1 a=true)(u:(w1.length:Int)>=BE c)(v:(a.length:Int)>=BE c) :
  ∃m,m∈w1/\m∈a/\m ∉ liars:=by
 obtain⟨y,z,_,_⟩:=b5 o;have e:(c.1.toNat:Int)=c.1:=MH (by omega);have A:=ajO (n:=c.1.toNat) (alk p) (fun x l=>by have:=J8 p x l;omega);have B:=ajO (n:=c.1.toNat) (alk q) (fun x l=>by have:=J8 q x l;omega);have b:=avm (fun k:Nat=>decide ((k:Int)∈w1)) (fun k:Nat=>decide ((k:Int)∈a)) (List.range c.1.toNat);have d:=avn (fun k:Nat=>decide ((k:Int)∈w1)&&decide ((k:Int)∈a)) (fun k:Nat=>decide ((k:Int)∈liars)) (List.range c.1.toNat);have f:=count_le (n:=c.1.toNat) (w:=liars);rw[aan]at b;have s:0<(List.range c.1.toNat).countP fun k:Nat=>(decide ((k:Int)∈w1)&&decide ((k:Int)∈a))&& !decide ((k:Int)∈liars):=by
  unfold BE wO at *;rw[ag o]at *;have:(Int.tdiv (c.1-1) 3)*3<=c.1-1:=by rw[anP (by omega)];omega
  omega
 obtain⟨k,C,j⟩:=List.countP_pos_iff.1 s;simp only[aG,ajX,bV,ayA]at j;exact⟨(k:Int),j.1.1,j.1.2,j.2⟩
abbrev ya:=List (bf×Option Nm)
def nmQ (q:bZ):Nm:=q.2.1.data.toList
def Tag (h:ya)(n:Nm):Prop:=∃s,(s,some n)∈h
def BL:ya->bf
 |[]=>kg|x::_=>x.1
def Kd (S:Nm->Int->Prop)(i:Int)(h:ya)(q:bZ):Prop:=nmQ q≠[]->∀m∈q.2.2,S (nmQ q) m\/(m=i/\Tag h (nmQ q))
def Crt (c:Int×Int)(S:Nm->Int->Prop)(i:Int)(h:ya)(n:Nm):Prop:=∃q,eW c q=true/\nmQ q=n/\Kd S i h q
structure aLl (c:Int×Int) (S:Nm->Int->Prop) (i:Int) (h:ya) (s:bf) (n:Nm):Prop where
 ok:bg n=true
 ne:n≠[]
 v:s.1=aE n
 up:(BL h).1<aE n
 lk:aE (fV (fV n))<=s.2.1
 lu:s.2.1<=aE (fV n)
 crt:Crt c S i h (fV n)
def avq (n:Nm):Prop:=bg n=true/\n≠[]/\fV n≠[]/\fV (fV n)≠[]/\aE n=aE (fV n)+1/\aE (fV n)=aE (fV (fV n))+1
structure ayp (c:Int×Int) (S:Nm->Int->Prop) (i:Int) (h:ya) (s:bf) (t:Option Nm):Prop where
 ok:bh c s=true
 v:(BL h).1<=s.1
 l:(BL h).2.1<=s.2.1
 vt:∀n,t=some n->aLl c S i h s n
 hi:Kd S i ((s,t)::h) s.2.2.1
 dn:s.2.2.2.data.toList=[]\/∃n3,avq n3/\Crt c S i ((s,t)::h) n3/\s.2.2.2.data.toList=fV (fV n3)
def Fair (c:Int×Int)(S:Nm->Int->Prop)(i:Int):ya->Prop
 |[]=>True|x::h=>Fair c S i h/\ayp c S i h x.1 x.2
def Sub (h a:ya):Prop:=∃p,a=p++h
def Sub.refl (h:ya):Sub h h:=⟨[],rfl⟩
def Sub.trans {a b d:ya}(h:Sub a b)(e:Sub b d):Sub a d:=by obtain⟨p,rfl⟩:=h;obtain⟨q,rfl⟩:=e;exact⟨q++p,by simp⟩
def Sub.cons (x:bf×Option Nm)(h:ya):Sub h (x::h):=⟨[x],rfl⟩
def Tag.mono {h a:ya}{n:Nm}(t:Tag h n)(s:Sub h a):Tag a n:=by obtain⟨p,rfl⟩:=s;obtain⟨x,b⟩:=t;exact⟨x,aBm p b⟩
section
variable {c:Int×Int} {S S':Nm->Int->Prop} {i:Int}
def Kd.mono {h a:ya}{q:bZ}(e:Kd S i h q)(s:Sub h a):Kd S i a q:=fun b m d=>(e b m d).imp id fun x=>⟨x.1,x.2.mono s⟩
def Crt.mono {h f:ya}{n:Nm}(e:Crt c S i h n)(s:Sub h f):Crt c S i f n:=by obtain⟨q,a,b,d⟩:=e;exact⟨q,a,b,d.mono s⟩
def Kd.said {h:ya}{q:bZ}(a:∀n m,S n m->S' n m)(e:Kd S i h q):Kd S' i h q:=fun b m d=>(e b m d).imp (a _ _) id
def Crt.said {h:ya}{n:Nm}(f:∀n m,S n m->S' n m)(e:Crt c S i h n):Crt c S' i h n:=by obtain⟨q,a,b,d⟩:=e;exact⟨q,a,b,d.said f⟩
def Fair.said (e:∀n m,S n m->S' n m):∀{h:ya},Fair c S i h->Fair c S' i h
 |[],_=>trivial|x::h,g=>⟨Fair.said e g.1,⟨g.2.ok,g.2.v,g.2.l,fun n f=>{g.2.vt n f with crt:=(g.2.vt n f).crt.said e},g.2.hi.said e,g.2.dn.imp id fun ⟨j,a,b,d⟩=>⟨j,a,b.said e,d⟩⟩⟩
def Fair.sub:∀{p h:ya},Fair c S i (p++h)->Fair c S i h
 |[],_,g=>g|_::p,_,g=>Fair.sub (p:=p) g.1
def ajP:∀{h:ya} {n:Nm},Fair c S i h->Tag h n->aE n<=(BL h).1
 |[],_,_,⟨_,a⟩=>by cases a
 |x::h,n,g,⟨s,a⟩=>by
  rcases cS.1 a with e|b
  .subst e;exact Int.le_of_eq (g.2.vt n rfl).v.symm
  .exact Int.le_trans (ajP g.1 ⟨s,b⟩) g.2.v
def aA1:∀{h:ya} {n:Nm},Fair c S i h->Tag h n->aE (fV (fV n))<=(BL h).2.1
 |[],_,_,⟨_,a⟩=>by cases a
 |x::h,n,g,⟨s,a⟩=>by
  rcases cS.1 a with e|b
  .subst e;exact(g.2.vt n rfl).lk
  .exact Int.le_trans (aA1 g.1 ⟨s,b⟩) g.2.l
def asb:∀{h:ya} {n a:Nm},Fair c S i h->Tag h n->Tag h a->aE n=aE a->n=a
 |[],_,_,_,⟨_,b⟩,_,_=>by cases b
 |x::h,n,a,g,⟨s,b⟩,⟨j,k⟩,e=>by
  rcases cS.1 b with l|m
  .rcases cS.1 k with d|f
   .exact eV (nk Prod.snd (l.trans d.symm))
   .subst l;have o:=(g.2.vt n rfl).up;have p:=ajP g.1 ⟨j,f⟩;omega
  .rcases cS.1 k with d|f
   .subst d;have o:=(g.2.vt a rfl).up;have p:=ajP g.1 ⟨s,m⟩;omega
   .exact asb g.1 ⟨s,m⟩ ⟨j,f⟩ e
def ayq:∀{h:ya} {n:Nm},Fair c S i h->Tag h n->bg n=true/\n≠[]/\∃b,Sub b h/\Crt c S i b (fV n)
 |[],_,_,⟨_,f⟩=>by cases f
 |x::h,n,g,⟨s,f⟩=>by
  rcases cS.1 f with e|j
  .subst e;exact⟨(g.2.vt n rfl).ok,(g.2.vt n rfl).ne,h,Sub.cons _ h,(g.2.vt n rfl).crt⟩
  .obtain⟨a,b,d,k,l⟩:=ayq g.1 ⟨s,j⟩;exact⟨a,b,d,k.trans (Sub.cons _ h),l⟩
def avr:∀{h:ya} {n a:Nm},Fair c S i h->Tag h n->Tag h a->aE n<aE a->aE (fV (fV n))<=aE (fV a)
 |[],_,_,_,⟨_,b⟩,_,_=>by cases b
 |x::h,n,a,g,⟨s,b⟩,⟨j,o⟩,e=>by
  rcases cS.1 o with k|l
  .rcases cS.1 b with d|f
   .have:=eV (nk Prod.snd (d.trans k.symm));rw[this]at e;omega
   .subst k;have p:=aA1 g.1 ⟨s,f⟩;have m:=g.2.l;have q:=(g.2.vt a rfl).lu;dsimp only at m q;omega
  .rcases cS.1 b with d|f
   .subst d;have p:=(g.2.vt n rfl).up;have m:=ajP g.1 ⟨j,l⟩;omega
   .exact avr g.1 ⟨s,f⟩ ⟨j,l⟩ e
end
structure aIx (c:Int×Int) (liars:List Int) (S:Nm->Int->Prop) (hs:Int->ya):Prop where
 cf:bw c=true
 l:(liars.length:Int)<=wO c
 s:∀n m,S n m->m∈liars\/Tag (hs m) n
 g:∀i,Fair c S i (hs i)
section
variable {c:Int×Int} {liars:List Int} {S:Nm->Int->Prop} {hs:Int->ya} (H:aIx c liars S hs)
include H
def aEY {i:Int}{h:ya}(d:Sub h (hs i)){q:bZ}(e:Kd S i h q)(f:nmQ q≠[]){m:Int}(j:m∈q.2.2)(k:m ∉ liars):Tag (hs m) (nmQ q):=by
 rcases e f m j with a|⟨a,l⟩
 .rcases H.s _ _ a with b|b
  .exact absurd b k
  .exact b
 .subst a;exact l.mono d
def ayr {k l:Int}{f j:ya}(n:Sub f (hs k))(o:Sub j (hs l)){a b:Nm}(p:Crt c S k f a)(q:Crt c S l j b)(d:a≠[])(e:b≠[]) :
  ∃m,Tag (hs m) a/\Tag (hs m) b:=by
 obtain⟨z,s,t,u⟩:=p;obtain⟨A,v,x,y⟩:=q;subst t;subst x;obtain⟨_,_,_,_,f1⟩:=ka s;obtain⟨_,_,_,_,f2⟩:=ka v;obtain⟨m,m1,m2,m3⟩:=aIw H.cf H.l (f1 d).1 (f2 e).1 (f1 d).2 (f2 e).2;exact⟨m,aEY H n u d m1 m3,aEY H o y e m2 m3⟩
def ahc {j k:Int}{d f:ya}(l:Sub d (hs j))(n:Sub f (hs k)){a b:Nm}(o:Crt c S j d a)(p:Crt c S k f b)(q:a≠[])(s:b≠[])(e:aE a=aE b):a=b:=by obtain⟨m,t1,t2⟩:=ayr H l n o p q s;exact asb (H.g m) t1 t2 e
def aIy {i:Int}{h:ya}(s:Sub h (hs i)){n:Nm}(d:Crt c S i h n)(z:n≠[]):bg n=true/\∃m b,Sub b (hs m)/\Crt c S m b (fV n):=by obtain⟨m,t1,_⟩:=ayr H s s d d z z;obtain⟨a,_,b,e,f⟩:=ayq (H.g m) t1;exact⟨a,m,b,e,f⟩
def aIz {i:Int}{h:ya}(s:Sub h (hs i)){a:Nm}(d:Crt c S i h a)(t:avq a):∀(k:Nat) {j:Int} {l:ya} {n:Nm},Sub l (hs j)->Crt c S j l n->aE n=k->aE (fV (fV a))<=aE n->Anc (fV (fV a)) n:=by
 obtain⟨z,o,q,u,N,O⟩:=t;obtain⟨_,m2,P,v,x⟩:=aIy H s d o;obtain⟨p,m1,Q,A,B⟩:=aIy H v x q;intro k
 induction k using Nat.strongRecOn with
 |_ k C =>
  intro j l n f dn R D;have e:n≠[]:=fun E=>by subst E;have T:=anG (Di p) u;have W:=kI (fV (fV (fV a)));rw[S4]at D;omega
  by_cases F:aE n=aE (fV (fV a))
  .rw[ahc H f A dn B e u F];exact Anc.refl _
  .by_cases G:aE n=aE (fV a)
   .rw[ahc H f v dn x e q G];exact YY p
   .by_cases I:aE n=aE a
    .rw[ahc H f s dn d e o I];exact(YY p).trans (YY z)
    .obtain⟨m,t3,y⟩:=ayr H s f d dn o e;have K:=avr (H.g m) t3 y (by omega);obtain⟨on,_,b,L,M⟩:=ayq (H.g m) y;have X:=anG on e;have Y:=kI (fV n);exact(C (aE (fV n)).toNat (by omega) L M (by omega) K).trans (YY on)
def avs {m n:Int}{j k:ya}(p:Sub j (hs m))(q:Sub k (hs n)){a b:Nm}(s:Crt c S m j a)(t:Crt c S n k b)(o:avq a)(d:avq b)(y:aE (fV (fV a))<=aE (fV (fV b))):Anc (fV (fV a)) (fV (fV b)):=by
 have u:=YY d.1;have v:=YY (Di d.1);have z:=d.2.2.2.2.1;have A:=d.2.2.2.2.2;have h:=aIz H p s o (aE b).toNat q t (by have:=kI b;omega) (by omega);have l:Anc (fV (fV b)) b:=v.trans u;rcases Nat.le_total (fV (fV a)).length (fV (fV b)).length with f|f
 .exact asa h l f
 .have x:=asa l h f;by_cases e:fV (fV b)=fV (fV a)
  .rw[e];exact Anc.refl _
  .have:=aIv (Di (Di o.1)) (Di (Di d.1)) x e;omega
end
def MC (m:b1):bZ:=if m.1=1 then m.2.2.1.2 else if m.1=2 then m.2.2.2.1 else if m.1=3 then m.2.2.2.2.1 else b9
def ad6 (S:Nm->Int->Prop)(i:Int)(h:ya)(m:b1):Prop:=Kd S i h (MC m)
structure RI (c:Int×Int) (S:Nm->Int->Prop) (r:aw) (h:ya):Prop where
 g:Fair c S r.1 h
 s:r.2.2.2.1=BL h
 d:r.2.2.2.2.2.2.1.1=cc (h.map (·.1)).reverse
 t:∀p∈r.2.2.2.2.2.1,Kd S r.1 h p
 m:∀p∈r.2.2.2.2.2.2.2,ad6 S r.1 h p.2
def Up (c:Int×Int)(S:Nm->Int->Prop)(i su:Int)(h:ya)(r:aw):Prop:=∃a,RI c S r a/\Sub h a/\r.1=i/\r.2.2.2.2.2.2.1.2=su
section
variable {c:Int×Int} {S:Nm->Int->Prop} {i su:Int} {h:ya} {r:aw}
def RI.up (R:RI c S r h):Up c S r.1 r.2.2.2.2.2.2.1.2 h r:=⟨h,R,Sub.refl h,rfl,rfl⟩
def RI.up' (R:RI c S r h)(a:r.1=i)(b:r.2.2.2.2.2.2.1.2=su):Up c S i su h r:=⟨h,R,Sub.refl h,a,b⟩
def Up.bind {r':aw}(u:Up c S i su h r)(k:∀f,RI c S r f->Sub h f->r.1=i->r.2.2.2.2.2.2.1.2=su->Up c S i su f r'):Up c S i su h r':=by obtain⟨f,a,b,d,e⟩:=u;obtain⟨j,l,m,n,o⟩:=k f a b d e;exact⟨j,l,b.trans m,n,o⟩
def aEZ (q:bZ)(a:nmQ q=[]):Kd S i h q:=fun b=>absurd a b
def aIA (q:bZ)(b:q.2.2=[]):Kd S i h q:=fun _ m a=>by rw[b]at a;cases a
def asc:Kd S i h b9:=aEZ _ rfl
def RI.same (R:RI c S r h){r':aw}(a:r'.1=r.1)(b:r'.2.2.2.1=r.2.2.2.1)(d:r'.2.2.2.2.2.2.1.1=r.2.2.2.2.2.2.1.1)(e:∀p∈r'.2.2.2.2.2.1,Kd S r.1 h p)(f:∀p∈r'.2.2.2.2.2.2.2,ad6 S r.1 h p.2):RI c S r' h :=
 ⟨by rw[a];exact R.g,b.trans R.s,d.trans R.d,by rw[a];exact e,by rw[a];exact f⟩
def aDq:∀{h:ya},Fair c S i h->Kd S i h (BL h).2.2.1
 |[],_=>asc|_::_,g=>g.2.hi
def asd (c:Int×Int)(S:Nm->Int->Prop)(i:Int)(h:ya)(d:ByteArray):Prop:=d.data.toList=[]\/∃a,avq a/\Crt c S i h a/\d.data.toList=fV (fV a)
def asd.mono {f:ya}{d:ByteArray}(e:asd c S i h d)(s:Sub h f):asd c S i f d:=e.imp id fun ⟨n,a,b,e⟩=>⟨n,a,b.mono s,e⟩
def ays:∀{h:ya},Fair c S i h->asd c S i h (BL h).2.2.2
 |[],_=>.inl rfl|_::_,g=>g.2.dn
def aIB {n:Nm}(h:bg n=true)(hs:Mx (a6 n).1=true):avq n:=by
 unfold Mx at hs;simp only[aG,bV,bd]at hs;obtain⟨u,d,f⟩:=hs;have z:∀l:Nm,0<(a6 l).1.length->l≠[]:=fun l p e=>by subst e;exact absurd p (by decide)
 have j:=z n (by omega);obtain⟨x,ex,v⟩:=agJ h j;have A:(a6 n).1.length=(a6 (fV n)).1.length+1:=by rw[ex,aK];rfl
 have k:=z (fV n) (by omega);obtain⟨y,a,B⟩:=agJ (Di h) k;have C:(a6 (fV n)).1.length=(a6 (fV (fV n))).1.length+1:=by rw[a,aK];rfl
 have m:=z (fV (fV n)) (by omega);obtain⟨w,b,D⟩:=agJ (Di (Di h)) m;have q:(a6 (fV (fV n))).1.length=(a6 (fV (fV (fV n)))).1.length+1:=by rw[b,aK];rfl
 generalize (a6 (fV (fV (fV n)))).1=L at b q;rw[b]at a;rw[a]at ex;have e:(a6 n).1=L++[w,y,x]:=by rw[ex];simp
 have len:(a6 n).1.length=L.length+3:=by rw[e,aK];rfl
 have s:(a6 n).1.getD ((a6 n).1.length-1) (0,[])=x:=by rw[len,e,Fa,ayy (by omega),show L.length+3-1-L.length=2 by omega];rfl
 have o:(a6 n).1.getD ((a6 n).1.length-2) (0,[])=y:=by rw[len,e,Fa,ayy (by omega),show L.length+3-2-L.length=1 by omega];rfl
 have t:(a6 n).1.getD ((a6 n).1.length-3) (0,[])=w:=by rw[len,e,Fa,ayy (by omega),show L.length+3-3-L.length=0 by omega];rfl
 rw[s,o]at d;rw[o,t]at f;have E:=kI (fV n);have F:=kI (fV (fV n));rw[aH (by omega) (by omega)]at d f;exact⟨h,j,k,m,by omega,by omega⟩
def ase (g:Fair c S i h){q:bZ}(e:Kd S i h q):(Ti c (BL h) q).1=(BL h).1/\(BL h).2.1<=(Ti c (BL h) q).2.1/\Kd S i h (Ti c (BL h) q).2.2.1/\asd c S i h (Ti c (BL h) q).2.2.2:=by
 unfold Ti;split
 .rename_i a;refine⟨rfl,?_,?_,?_⟩
  .show(BL h).2.1<=te _ _;unfold te;split<;>omega
  .show Kd S i h (O1 q _);unfold O1;split
   .exact e
   .exact aDq g
  .dsimp only;split
   .rename_i d;have hs:J9 q.2.1=true:=by
     cases f:J9 q.2.1 with
     |true=>rfl
     |false =>
      have b:=d.1;rw[ic,f,af Bool.false_ne_true]at b;cases b
    rw[ic,ag hs];exact .inr ⟨nmQ q,aIB (ka a.2).2.1 hs,⟨q,a.2,rfl,e⟩,by show(tx (fV (tx (fV (nmQ q))).data.toList)).data.toList=_;rw[fv,fv]⟩
   .exact ays g
 .exact⟨rfl,MK _,aDq g,ays g⟩
def aA2 (g:Fair c S i h){q:bZ}(e:Kd S i h q)(j:bh c (Ti c (BL h) q)=true):ayp c S i h (Ti c (BL h) q) none:=by obtain⟨a,b,d,f⟩:=ase g e;exact⟨j,Int.le_of_eq a.symm,b,fun _ k=>(by cases k),d.mono (Sub.cons _ h),f.mono (Sub.cons _ h)⟩
def aA3 (R:RI c S r h)(s:bf)(t:Option Nm)(N:bh c s=true->ayp c S r.1 h s t)(hs:eO r.2.2.2.1 s=true->t=none) :
  ∃b,RI c S (ie c r s).1 b/\Sub h b/\(ie c r s).1.1=r.1/\(ie c r s).1.2.2.2.2.2.2.1.2=r.2.2.2.2.2.2.1.2/\((ie c r s).2=true->∀n,t=some n->Tag b n):=by
 unfold ie;by_cases d:eO r.2.2.2.1 s=true
 .rw[ag d];exact⟨h,R,Sub.refl h,rfl,rfl,fun _ n a=>by rw[hs d]at a;cases a⟩
 .rw[af d];by_cases e:bh c s=true/\r.2.2.2.2.2.2.1.1.length+(dA s).length<=100000
  .rw[ag e];refine⟨(s,t)::h,⟨⟨R.g,N e.1⟩,rfl,?_,fun p f=>(R.t p f).mono (Sub.cons _ h),fun p f=>(R.m p f).mono (Sub.cons _ h)⟩,Sub.cons _ h,rfl,rfl,fun _ n a=>⟨s,by rw[a];exact p3⟩⟩;show r.2.2.2.2.2.2.1.1++dA s=_;rw[R.d,tf,List.reverse_cons,cc,cc,avF];simp
  .rw[af e];exact⟨h,R,Sub.refl h,rfl,rfl,fun j=>by cases j⟩
def MD (R:RI c S r h){q:bZ}(e:Kd S r.1 h q):Up c S r.1 r.2.2.2.2.2.2.1.2 h (written c r q).1:=by obtain⟨k,a,b,d,f,_⟩:=aA3 R (Ti c r.2.2.2.1 q) none (fun j=>by rw[R.s]at j ⊢;exact aA2 R.g e j) (fun _=>rfl);exact⟨k,a,b,d,f⟩
def anM (R:RI c S r h)(a:Int){m:b1}(b:ad6 S r.1 h m):Up c S r.1 r.2.2.2.2.2.2.1.2 h (lV c r a m).1:=by
 unfold lV;split
 .refine(R.same (r':=wg r (a,m)) rfl rfl rfl R.t fun p d=>?_).up;rcases gQ.1 d with h1|h1
  .exact R.m p h1
  .rw[fq.1 h1];exact b
 .exact R.up
def YZ (R:RI c S r h)(v:Int):RI c S (tp r v) h:=R.same rfl rfl rfl R.t R.m
def ad7 (R:RI c S r h)(v:Int):RI c S (ki r v) h:=R.same rfl rfl rfl R.t R.m
def asf (R:RI c S r h)(p:List dH):RI c S (O8 r p) h:=R.same rfl rfl rfl R.t R.m
def alm (R:RI c S r h):RI c S (Gl r) h:=R.same rfl rfl rfl R.t R.m
def Sa (R:RI c S r h){t:List bZ}(a:∀p∈t,Kd S r.1 h p):RI c S (fQ r t) h:=R.same rfl rfl rfl a R.m
def aIC (R:RI c S r h){q:bZ}(e:Kd S r.1 h q):Up c S r.1 r.2.2.2.2.2.2.1.2 h (p1 c r q).1:=by
 unfold p1;split
 .split
  .exact MD R e
  .split
   .exact(MD R e).bind fun f b j a d=>(YZ b _).up' a d
   .refine(MD R e).bind fun f b j a d=>?_
    have:=anM (YZ b (aj (q.1+1))) (b3 c (aj (q.1+1))) (m:=kh (aj (q.1+1)) q r.1) (by show Kd S _ f q;rw[show(tp (written c r q).1 (aj (q.1+1))).1=r.1 from a];exact e.mono j);rw[show(tp (written c r q).1 (aj (q.1+1))).1=r.1 from a,show(tp (written c r q).1 (aj (q.1+1))).2.2.2.2.2.2.1.2=r.2.2.2.2.2.2.1.2 from d]at this;exact this
 .exact R.up
def asg {t:List bZ}(a:∀p∈t,Kd S i h p)(v:Int)(n:ByteArray):Kd S i h (dj t v n):=by
 unfold dj;split
 .rename_i x b;exact a x (VJ b)
 .exact aIA _ rfl
def ZH {a b:ByteArray}(h:(a.toList==b.toList)=true):a.data.toList=b.data.toList:=by have:=Vh a.data.toList b.data.toList;rw[<-Ku,<-Ku]at this;exact nj (this.symm.trans h)
def ash {p:bZ}(d:Kd S i h p):∀{t:List bZ},(∀x∈t,Kd S i h x)->∀x∈fj p t,Kd S i h x
 |[],_,x,a=>by rw[fq.1 a];exact d
 |y::t,b,x,a=>by
  unfold fj at a;split at a
  .rcases cS.1 a with h1|h1
   .rw[h1];exact b y p3
   .exact ash d (fun z k=>b z (jO y k)) x h1
  .split at a
   .rename_i hs;rcases cS.1 a with h1|h1
    .rw[h1];unfold sameAt at hs;simp only[aG]at hs;have f:nmQ y=nmQ p:=ZH hs.2;intro j m l;rcases aFJ.1 (show m∈agr y.2.2 p.2.2 from l) with e|e
     .exact b y p3 j m e
     .have:=d (by rw[<-f];exact j) m e;rw[<-f]at this;exact this
    .exact b x (jO y h1)
   .rcases cS.1 a with h1|h1
    .rw[h1];exact d
    .exact b x h1
def Tq {p:bZ}(b:Kd S i h p){t:List bZ}(a:∀x∈t,Kd S i h x):∀x∈(bq c t p).1,Kd S i h x:=by
 unfold bq;split
 .exact ash b a
 .exact a
def asi (R:RI c S r h)(v:Int)(n:ByteArray)(p:Bool):Up c S r.1 r.2.2.2.2.2.2.1.2 h (fP c r v n p).1:=by
 unfold fP;split
 .exact R.up
 .split
  .split
   .exact aIC R (asg R.t _ _)
   .exact R.up
  .split
   .exact R.up
   .exact anM R _ (asg R.t _ _)
end
section
variable {c:Int×Int} {S:Nm->Int->Prop} {i su:Int} {h:ya} {r:aw}
def aKc (v:Int)(n:ByteArray)(a:Tag h n.data.toList):Kd S i h (one v n i):=fun _ m b=>.inr ⟨fq.1 b,a⟩
def aA4 (v cw:Int):Kd S i h (one v ak cw):=aEZ _ rfl
def aLm (R:RI c S r h)(n:ByteArray)(a:Tag h n.data.toList):Up c S r.1 r.2.2.2.2.2.2.1.2 h (own c r n).1:=by
 unfold own;split
 .exact asi (Sa R (Tq (aKc _ n a) R.t)) _ _ _
 .exact R.up
def aGr (g:Fair c S i h){b:cr}(e:Kd S i h b.2)(a:fM c (Ti c (BL h) b.2) b=true)(m:bh c (ny b,(Ti c (BL h) b.2).2)=true) :
  ayp c S i h (ny b,(Ti c (BL h) b.2).2) (some b.1.data.toList):=by
 obtain⟨z,o,p,q⟩:=ase (c:=c) g e;unfold fM at a;simp only[aG,bV]at a;obtain⟨m1,m2,m3,m4⟩:=a;unfold fK at m2;simp only[aG,ajX]at m2;obtain⟨d,s,j,t⟩:=m2;have f:fV b.1.data.toList=nmQ b.2:=by have:=ZH t;rw[fv]at this;exact this
 have u:b.1.data.toList≠[]:=fun v=>by rw[(rI b.1).2 v]at j;cases j
 have hs:bh c (BL h)=true:=by
  cases k:bh c (BL h) with
  |true=>rfl
  |false =>
   unfold Ti at m1;rw[af (fun l=>by rw[k]at l;cases l.1),k]at m1;exact m1
 have x:aE (fV (nmQ b.2))<=(Ti c (BL h) b.2).2.1:=by unfold Ti;rw[ag ⟨hs,d⟩];show _<=te _ (aE (fV (nmQ b.2)));unfold te;split<;>omega
 have A:=(ka d).2.2.1;refine⟨m,?_,o,fun n y=>?_,p.mono (Sub.cons _ h),q.mono (Sub.cons _ h)⟩
 .show(BL h).1<=aE b.1.data.toList;omega
 .cases y;refine⟨s,u,rfl,?_,?_,?_,?_⟩
  .omega
  .rw[f];exact x
  .rw[f];show(Ti c (BL h) b.2).2.1<=aE b.2.2.1.data.toList;omega
  .rw[f];exact⟨b.2,d,rfl,e⟩
def aID (R:RI c S r h)(b:cr):RI c S (jE r b) h/\(jE r b).1=r.1/\(jE r b).2.2.2.2.2.2.1.2=r.2.2.2.2.2.2.1.2/\(jE r b).2.2.2.1=r.2.2.2.1:=by
 unfold jE;split
 .exact⟨ad7 R _,rfl,rfl,rfl⟩
 .exact⟨R,rfl,rfl,rfl⟩
def ahd (R:RI c S r h){b:cr}(e:Kd S r.1 h b.2):Up c S r.1 r.2.2.2.2.2.2.1.2 h (fc c r b).1:=by
 obtain⟨o,l,p,q⟩:=aID R b;have s:=aA3 o (tL c r b) (if iZ c r b=true then some b.1.data.toList else none) (fun f=>?_) (fun m=>?_)
 .unfold fc Cg;obtain⟨t,a,n,f1,f2,f3⟩:=s;rw[l]at f1;rw[p]at f2;split
  .rename_i u;split
   .rename_i d;split
    .have v:=f3 u b.1.data.toList (by rw[ag d]);obtain⟨k,x,y,z,A⟩:=aLm a b.1 v;exact⟨k,x,n.trans y,z.trans f1,A.trans f2⟩
    .exact R.up
   .exact⟨t,a,n,f1,f2⟩
  .exact R.up
 .rw[l];have hs:r.2.2.2.1=BL h:=R.s;unfold tL at f ⊢;by_cases d:iZ c r b=true
  .rw[ag d]at f ⊢;rw[ag d];have j:fM c (Ti c r.2.2.2.1 b.2) b=true:=by unfold iZ at d;exact(aG _ _▸d:_/\_).2
   rw[hs]at f j ⊢;exact aGr R.g e j f
  .rw[af d]at f ⊢;rw[af d];rw[hs]at f ⊢;exact aA2 R.g e f
 .by_cases d:iZ c r b=true
  .exfalso;rw[q]at m;have:=az9 m;unfold tL at this;rw[ag d]at this;have j:fM c (Ti c r.2.2.2.1 b.2) b=true:=by unfold iZ at d;exact(aG _ _▸d:_/\_).2
   unfold fM at j;simp only[aG,bV]at j;have C:=j.2.2.1;have k:=(ase (c:=c) R.g e).1;rw[<-R.s]at k;have B:=nk Prod.fst this;have D:r.2.2.2.1.1=aE b.1.data.toList:=B;omega
  .rw[af d]
def aA5 (R:RI c S r h){p:bZ}(e:Kd S r.1 h p):Up c S r.1 r.2.2.2.2.2.2.1.2 h (iN c r p).1:=by
 unfold iN;split
 .exact asi (Sa R (Tq e R.t)) _ _ _
 .exact R.up
def aA6 (R:RI c S r h)(l:Bool)(v:Int)(q:bZ)(a:r.1=i)(b:r.2.2.2.2.2.2.1.2=su):Up c S i su h (MA l r v q):=by
 unfold MA;split
 .exact(YZ (YZ R _) _).up' a b
 .exact(YZ R _).up' a b
def aA7 (R:RI c S r h)(imp:Bool)(v:Int){q:bZ}(cw:Int)(e:Kd S r.1 h q):Up c S r.1 r.2.2.2.2.2.2.1.2 h (iO imp c r v q cw).1:=by
 unfold iO;split
 .unfold rK;split
  .split
   .exact(MD R e).bind fun f a j b d=>aA6 (Sa a (Tq (aA4 _ _) a.t)) _ _ _ b d
   .exact R.up
  .exact(MD R e).bind fun f a j b d=>aA6 a _ _ _ b d
 .exact R.up
def aIE (R:RI c S r h)(imp:Bool){m:b1}(e:ad6 S r.1 h m):Up c S r.1 r.2.2.2.2.2.2.1.2 h (uu imp c r m).1:=by
 unfold ad6 MC at e;unfold uu;split
 .rename_i a;rw[ag a]at e;exact ahd R e
 .rename_i a;rw[af a]at e;split
  .rename_i b;rw[ag b]at e;exact aA5 R e
  .rename_i b;rw[af b]at e;split
   .rename_i d;rw[ag d]at e;exact aA7 R imp _ _ e
   .exact(asf R _).up
def aE0 (R:RI c S r h)(imp:Bool){m:b1}(e:ad6 S r.1 h m):Up c S r.1 r.2.2.2.2.2.2.1.2 h (Hd imp c r m).1:=by
 unfold Hd;split
 .exact(aIE R imp e).bind fun j a k b d=>(asf (Sa a fun p f=>a.t p (List.mem_filter.1 f).1) _).up' b d
 .exact R.up
def aIF (R:RI c S r h):Kd S r.1 h r.2.2.2.1.2.2.1:=by rw[R.s];exact aDq R.g
def aIG (R:RI c S r h):Up c S r.1 r.2.2.2.2.2.2.1.2 h (Cf c r).1:=by
 unfold Cf;split
 .exact R.up
 .split
  .split
   .exact(Sa (ad7 R (aj (r.2.1+1))) (Tq (aA4 _ _) R.t)).up' rfl rfl
   .exact R.up
  .split
   .have a:Kd S r.1 h r.2.2.2.1.2.2.1:=aIF R;exact anM (ad7 R (aj (r.2.1+1))) _ (m:=kh _ r.2.2.2.1.2.2.1 r.1) a
   .exact R.up
def ajQ (R:RI c S r h){m:b1}(e:ad6 S r.1 h m):∀(j k:Nat) {o:aw},Up c S r.1 r.2.2.2.2.2.2.1.2 h o->Up c S r.1 r.2.2.2.2.2.2.1.2 h (rJ c r m j k o).1
 |0,_,o,a=>a|j+1,k,o,a=>by
  unfold rJ;split
  .exact ajQ R e j (k+1) a
  .split
   .refine ajQ R e j (k+1) (a.bind fun n d f b l=>?_);have:=anM (c:=c) d (k:Int) (m:=m) (by rw[b];exact Kd.mono e f);rw[b,l]at this;exact this
   .exact R.up
def aE1 (R:RI c S r h):Kd S r.1 h (ask c r).1.2:=by
 unfold ask;split
 .unfold eP;split
  .exact aIF R
  .exact asc
 .exact asc
def aKd (R:RI c S r h):Up c S r.1 r.2.2.2.2.2.2.1.2 h (YS c r).1:=by
 unfold YS;split
 .split
  .have d:Up c S r.1 r.2.2.2.2.2.2.1.2 h (ajJ c r).1:=ajQ (alm R) (m:=arK (ask c r).1) (aE1 R) _ _ (alm R).up;refine d.bind fun k e f a j=>?_
   have:=ahd (c:=c) e (b:=(ask c r).1) (by rw[a];exact(aE1 R).mono f);rw[a,j]at this;exact this
  .exact R.up
 .exact R.up
def avt (R:RI c S r h):∀k,Up c S r.1 r.2.2.2.2.2.2.1.2 h (tN c r k).1
 |0=>R.up|k+1=>by
  unfold tN;split
  .exact avt R k
  .split
   .exact asi R _ _ _
   .exact R.up
def aKe (R:RI c S r h)(imp:Bool)(m:b1):Up c S r.1 r.2.2.2.2.2.2.1.2 h (ayi imp c r m).1:=by
 unfold ayi;split
 .rename_i a;refine aE0 R imp ?_;unfold ad6 MC;rw[af (by omega),af (by omega),af (by omega)];exact asc
 .exact R.up
def asj (a b:List bf):cc (a++b)=cc a++cc b:=by simp[cc]
def aE2:∀{h:ya},Fair c S i h->∀x∈h,bh c x.1=true
 |[],_,x,a=>by cases a
 |y::h,g,x,a=>by
  rcases cS.1 a with h1|h1
  .rw[h1];exact g.2.ok
  .exact aE2 g.1 x h1
def aGs (h:ya):(h.map (·.1)).reverse.getLastD kg=BL h:=by
 cases h with
 |nil=>rfl|cons x h=>simp[BL]
def aE3 (R:RI c S r h){d:p0}{k:Nat}(z:d.1=r.2.2.2.2.2.2.1.1.take k) :
  ∃n,RI c S (axZ c (E7 r d)) n/\Sub n h/\(∀a,Sub a h->(cc (a.map (·.1)).reverse).length<=k->Sub a n)/\(axZ c (E7 r d)).1=r.1/\(axZ c (E7 r d)).2.2.2.2.2.2.1.2=((cc (n.map (·.1)).reverse).length:Int):=by
 have o:∀x∈(h.map (·.1)).reverse,bh c x=true:=fun x m=>by obtain⟨y,A,rfl⟩:=Fc.1 (List.mem_reverse.1 m);exact aE2 R.g y A
 obtain⟨b,t,B,C,e,Q,D⟩:=adP k o;have hlen:(h.map (·.1)).reverse.length=h.length:=by simp
 have q:(h.map (·.1)).reverse.take b=((h.drop (h.length-b)).map (·.1)).reverse:=by rw[List.take_reverse,List.map_drop];simp
 have E:Sub (h.drop (h.length-b)) h:=⟨h.take (h.length-b),(aal _ _).symm⟩;have F:Fair c S r.1 (h.drop (h.length-b)):=by have:=R.g;rw[<-aal (h.length-b) h]at this;exact this.sub
 have s:=Mw C (l:=(h.map (·.1)).reverse.take b) (fun x m=>o x (aam m));have u:(E7 r d).2.2.2.2.2.2.1.1=cc ((h.map (·.1)).reverse.take b)++t:=by show d.1=_;rw[z,R.d,e]
 refine⟨h.drop (h.length-b),⟨F,?_,?_,fun p f=>absurd f aci,fun p f=>absurd f aci⟩,E,fun a G I=>?_,rfl,?_⟩
 .show(dV c (E7 r d).2.2.2.2.2.2.1.1).1=_;rw[u,s,q];exact aGs _
 .show(E7 r d).2.2.2.2.2.2.1.1.take (dV c (E7 r d).2.2.2.2.2.2.1.1).2=_;rw[u,s,<-q];exact acj
 .obtain⟨p,f⟩:=G;have v:a.length<=h.length:=by rw[f,aK];omega
  have K:(h.map (·.1)).reverse.take a.length=(a.map (·.1)).reverse:=by rw[f,aeb,List.reverse_append];exact anX (by simp)
  have j:=D a.length (by rw[hlen];exact v) (by rw[K];exact I);have T:a.length<=b:=by
   rcases j with j|j
   .exact j
   .rcases Tt b a.length with hlt|L
    .exfalso;have M:(h.map (·.1)).reverse.take a.length=(h.map (·.1)).reverse.take b++((h.map (·.1)).reverse.take a.length).drop b:=by have:=aal b ((h.map (·.1)).reverse.take a.length);rw[List.take_take,aec (by omega)]at this;exact this.symm
     rw[M,asj]at j;have N:=nk List.length j;rw[aK]at N;have O:=adO (c:=c) (l:=((h.map (·.1)).reverse.take a.length).drop b) fun x m=>o x (aam (avD m))
     rw[bc,bB,hlen]at O;omega
    .exact L
  refine⟨(h.drop (h.length-b)).take ((h.drop (h.length-b)).length-a.length),?_⟩;have P:a=(h.drop (h.length-b)).drop ((h.drop (h.length-b)).length-a.length):=by rw[anY,bc,f,aK];rw[show p.length+a.length-b+(p.length+a.length-(p.length+a.length-b)-a.length)=p.length by rw[f,aK]at v;rw[hlen,f,aK]at B;omega];exact anZ.symm
  conv=>rhs;rhs;rw[P]
  exact(aal _ _).symm
 .show((dV c (E7 r d).2.2.2.2.2.2.1.1).2:Int)=_;rw[u,s,q]
end
def Sd (w:ah):Nm->Int->Prop:=fun n m=>m∈w.2.1\/∃x∈w.2.2.2.2,x.2.1.data.toList=n/\x.2.2=m
def szG (h:ya):Nat:=(cc (h.map (·.1)).reverse).length
structure WI (w:ah) (hs:Nat->ya):Prop where
 r:∀(k:Nat) (hk:k<w.2.2.1.length),RI w.1 (Sd w) w.2.2.1[k] (hs k)
 s:∀x∈w.2.2.2.2,∃(k:Nat) (hk:k<w.2.2.1.length),x.2.2=(k:Int)/\∃h1,Sub h1 (hs k)/\Tag h1 x.2.1.data.toList/\(szG h1:Int)<=(w.2.2.1[k]).2.2.2.2.2.2.1.2
 n:∀x∈w.2.2.2.1,ad6 (Sd w) (-1) [] (gF w.1 x.2).1
def asl (l:List Int):∀k,∀x∈lB l k,x ∉ l
 |0,x,h=>by cases h
 |k+1,x,h=>by
  unfold lB at h;rcases gQ.1 h with h1|h1
  .exact asl l k x h1
  .split at h1
   .cases h1
   .rename_i a;rw[fq.1 h1];exact a
def aE4 {c:Int×Int}{S:Nm->Int->Prop}{i:Int}{a h:ya}(s:Sub a h):szG a<=szG h:=by obtain⟨p,rfl⟩:=s;unfold szG;rw[aeb,List.reverse_append,asj,aK];omega
def aKf {S:Nm->Int->Prop}{i:Int}{h:ya}{q:bZ}(e:Kd S (-1) [] q):Kd S i h q:=fun a m b=>.inl (by
 rcases e a m b with d|⟨_,x,f⟩
 .exact d
 .cases f)
def RI.said {c:Int×Int}{S S':Nm->Int->Prop}{r:aw}{h:ya}(a:∀n m,S n m->S' n m)(R:RI c S r h):RI c S' r h:=⟨R.g.said a,R.s,R.d,fun p b=>(R.t p b).said a,fun p b=>Kd.said a (R.m p b)⟩
section
variable {w:ah} {hs:Nat->ya}
def WI.set (W:WI w hs){k:Nat}(q:k<w.2.2.1.length){r':aw}{f:ya}(R:RI w.1 (Sd w) r' f)
  (m:∀b,Sub b (hs k)->(szG b:Int)<=(w.2.2.1[k]).2.2.2.2.2.2.1.2->Sub b f/\(szG b:Int)<=r'.2.2.2.2.2.2.1.2) :
  WI (dB w (k:Int) r') (fun a=>if a=k then f else hs a):=by
 have hlen:(dB w (k:Int) r').2.2.1=w.2.2.1.set k r':=rfl;refine⟨fun a d=>?_,fun x n=>?_,W.n⟩
 .by_cases e:a=k
  .subst e;have:(dB w (a:Int) r').2.2.1[a]=r':=by simp[hlen]
   rw[this,ag rfl];exact R
  .have o:a<w.2.2.1.length:=by rw[hlen,oo]at d;exact d
   have:(dB w (k:Int) r').2.2.1[a]=w.2.2.1[a]:=by simp only[hlen];exact avG (fun h=>e h.symm) _
   rw[this,af e];exact W.r a o
 .obtain⟨a,d,p,b,j,t1,l⟩:=W.s x n;refine⟨a,by rw[hlen,oo];exact d,p,b,?_,t1,?_⟩
  .by_cases e:a=k
   .subst e;rw[ag rfl];exact(m b j l).1
   .rw[af e];exact j
  .by_cases e:a=k
   .subst e;have:(dB w (a:Int) r').2.2.1[a]'(by rw[hlen,oo];exact d)=r':=by simp[hlen]
    rw[this];exact(m b j l).2
   .have:(dB w (k:Int) r').2.2.1[a]'(by rw[hlen,oo];exact d)=w.2.2.1[a]:=by simp only[hlen];exact avG (fun h=>e h.symm) _
    rw[this];exact l
def WI.up (W:WI w hs){k:Nat}(a:k<w.2.2.1.length){r':aw}(u:Up w.1 (Sd w) (w.2.2.1[k]).1 (w.2.2.1[k]).2.2.2.2.2.2.1.2 (hs k) r'):∃b,WI (dB w (k:Int) r') b:=by obtain⟨l,d,s,_,e⟩:=u;exact⟨_,W.set a d fun m f j=>⟨f.trans s,by rw[e];exact j⟩⟩
def Y0 {a:Int}{k:Nat}(e:a=(k:Int))(b:k<w.2.2.1.length):bT w a=w.2.2.1[k]:=by subst e;unfold bT;rw[gz];exact aJ b _
def WI.net (W:WI w hs){a:List gD}(b:∀x∈a,ad6 (Sd w) (-1) [] (gF w.1 x.2).1):WI (YV w a) hs:=⟨W.r,W.s,b⟩
def aKg (G:aF w)(W:WI w hs){k:Nat}(a:k<w.2.2.1.length)(imp:Bool){d:db}(e:d.2.1=(k:Int)):∃m,WI (ag9 imp w d).1 m:=by
 have b:=W.r k a;unfold ag9;rw[Y0 e a,e];dsimp only;unfold ad2;split
 .exact W.up a (aKd b)
 .split
  .exact W.up a (avt b _)
  .split
   .split
    .exact W.up a (aIG b)
    .exact W.up a b.up
   .split
    .have f:=(G.g _ (bJ a)).f.d;have t:=YL f d.2.2.1;have u:=cP.1 f;have n:(fN (w.2.2.1[k]).2.2.2.2.2.2.1 d.2.2.1).1=(w.2.2.1[k]).2.2.2.2.2.2.1.1.take (Gi (w.2.2.1[k]).2.2.2.2.2.2.1 d.2.2.1).toNat:=by unfold fN;rw[ag f]
     obtain⟨v,o,x,p,_,q⟩:=aE3 b n;refine⟨_,W.set a o fun j s y=>?_⟩;have l:=p j s (by show szG j<=_;omega);refine⟨l,?_⟩;show(szG j:Int)<=(axZ w.1 (E7 (w.2.2.1[k]) (fN (w.2.2.1[k]).2.2.2.2.2.2.1 d.2.2.1))).2.2.2.2.2.2.1.2;rw[q];have:=aE4 (c:=w.1) (S:=Sd w) (i:=0) l;unfold szG at this ⊢;omega
    .exact W.up a (aKe b imp _)
def aIH (W:WI w hs){a:Int}(n:0<=a)(o:a<w.2.2.2.1.length):∃j,WI (ag8 true w a) j:=by
 have b:cU w a∈w.2.2.2.1:=by unfold cU;rw[aJ (show a.toNat<w.2.2.2.1.length by omega)];exact bJ _
 have d:WI (O9 w a) hs:=W.net fun x b=>W.n x (ad4 b)
 unfold ag8;split
 .rename_i l;have m:=ej l;obtain⟨k,e,f⟩:∃k:Nat,(cU w a).1=(k:Int)/\k<w.2.2.1.length:=⟨(cU w a).1.toNat,(MH m.1).symm,by omega⟩;unfold ajK;rw[Y0 e f,e];exact d.up (k:=k) f (aE0 (d.r _ f) true (aKf (W.n _ b)))
 .exact⟨hs,d⟩
def ad8 {q:bZ}(h:JR w.2.1 w.2.2.2.2 q=true):Kd (Sd w) (-1) [] q:=fun e m b=>.inl (by
 have:=ek.1 h m b;unfold R5 at this;rcases(kK _ _).mp this with h1|h1
 .exact .inl (nj h1)
 .obtain⟨x,d,a⟩:=avJ.1 h1;unfold isSaid at a;simp only[aG]at a;exact .inr ⟨x,d,ZH a.2.1,eq_of_beq a.2.2⟩)
def aKh {m:b1}(h:He w.1 w.2.1 w.2.2.2.2 m=true):c8 w.1 m=true/\ad6 (Sd w) (-1) [] m:=by
 unfold He at h;simp only[aG]at h;refine⟨h.1,?_⟩;have a:=h.2;unfold ad6 MC;split
 .rename_i b;rw[ag b]at a;exact ad8 ((aG _ _).mp a).2
 .rename_i b;rw[af b]at a;split
  .rename_i d;rw[ag d]at a;exact ad8 a
  .rename_i d;rw[af d]at a;split
   .rename_i e;rw[ag e]at a;exact ad8 ((aG _ _).mp a).2
   .exact asc
def aE5 (W:WI w hs){d:db}(f:Il d=true->0<=d.2.1/\d.2.1<w.2.2.2.1.length):∃j,WI (ar1 w d).1 j:=by
 unfold ar1;split
 .rename_i k;obtain⟨a,b⟩:=f (fe.2 (.inl k));exact aIH W a b
 .split
  .exact⟨hs,W.net fun x e=>W.n x (ad4 e)⟩
  .split
   .rename_i l;obtain⟨a,b⟩:=f (fe.2 (.inr (.inr l)));refine⟨hs,W.net fun x e=>?_⟩;rcases gQ.1 e with h1|h1
    .exact W.n x h1
    .rw[fq.1 h1];refine W.n _ ?_;unfold cU;rw[aJ (show d.2.1.toNat<w.2.2.2.1.length by omega)];exact bJ _
   .split
    .rename_i m;obtain⟨n,o⟩:=aKh m;refine⟨hs,W.net fun x e=>?_⟩;rcases gQ.1 e with h1|h1
     .exact W.n x h1
     .rw[fq.1 h1];show ad6 _ _ _ (gF w.1 (Dj d.2.2.2)).1;rw[ajw n];exact o
    .exact⟨hs,W⟩
end
def aA8 {l:List cD}{x:cD}(h:x∈l)(y:cD):x∈Dn l y:=by
 unfold Dn;split
 .exact List.mem_append_left _ h
 .exact h
def ad9 {U V:Type}{f:List U->V->List U}(a:∀l y x,x∈l->x∈f l y):∀(ys:List V) {l:List U} {x:U},x∈l->x∈ys.foldl f l
 |[],_,_,h=>h|y::ys,l,x,h=>ad9 a ys (a l y x h)
def ayt (id:Int)(ps:List jC){l:List cD}{x:cD}(h:x∈l):x∈ZE id ps l :=
 ad9 (fun l p x h=>ad9 (fun l y x h=>aA8 h y) _ h) ps h
def aln {c:Int×Int}:∀{ps:List jC} {l:List gD} {x:gD},x∈arV c ps l->x∈l\/∃p∈ps,c8 c p.2=true/\x=(p.1,Dj p.2)
 |[],_,_,h=>.inl h|p::ps,l,x,h=>by
  rcases aln (ps:=ps) (l:=acg c l p) h with a|⟨q,d,e⟩
  .unfold acg at a;split at a
   .rename_i f;rcases gQ.1 a with b|b
    .exact .inl b
    .exact .inr ⟨p,p3,f.2.1,fq.1 b⟩
   .exact .inl a
  .exact .inr ⟨q,jO p d,e⟩
def asm {id:Int}{q:bZ}{x:cD}:x∈Vl id q↔x=(q.1,q.2.1,id)/\nmQ q≠[]/\id∈q.2.2:=by
 unfold Vl;by_cases a:dh q.2.1=true
 .rw[ag a];have:=(rI q.2.1).1 a;exact⟨fun h=>(by cases h),fun h=>absurd this h.2.1⟩
 .rw[af a];have d:nmQ q≠[]:=fun e=>a ((rI q.2.1).2 e)
  by_cases b:id∈q.2.2
  .rw[ag b,fq];exact⟨fun h=>⟨h,d,b⟩,fun h=>h.1⟩
  .rw[af b];exact⟨fun h=>(by cases h),fun h=>absurd h.2.2 b⟩
def avu {c:Int×Int}{id:Int}{m:b1}(a:c8 c m=true){x:cD}:x∈cH id m↔x=((MC m).1,(MC m).2.1,id)/\nmQ (MC m)≠[]/\id∈(MC m).2.2:=by
 unfold cH MC;rcases Th a with ⟨h,_⟩|h|⟨h,_⟩|h
 .rw[af (by omega),af (by omega),ag h,ag h];exact asm
 .rw[af (by omega),ag h,af (by omega),ag h];exact asm
 .rw[af (by omega),af (by omega),af (by omega),af (by omega),af (by omega),ag h];exact asm
 .rw[ag h,af (by omega),af (by omega),af (by omega)];exact⟨fun h=>(by cases h),fun h=>absurd rfl h.2.1⟩
section
variable {w:ah} {hs:Nat->ya}
def aII (G:aF w)(W:WI w hs){a:Int}{k:Nat}(o:k<w.2.2.1.length)(e:a=(k:Int))(I:a∈aD w):∃Z,WI (ach w a).1 Z:=by
 have K:=Y0 (w:=w) e o;have qd:a ∉ w.2.1:=asl _ _ a I;have q:oR w a (bb w a)=(w.1,w.2.1,w.2.2.1,w.2.2.2.1,ZE a (bb w a) w.2.2.2.2):=ag I;have B:bb w a=(w.2.2.1[k]).2.2.2.2.2.2.2:=by unfold bb;rw[K]
 have C:=W.r k o;have L:=G.g _ (bJ o);have hid:(w.2.2.1[k]).1=(k:Int):=G.id k o;unfold ach;split
 .rename_i M;split
  .rw[q]at M;have v:∀n m,Sd w n m->Sd (BK (lT w a) (bb w a)) n m:=by
    intro n m h;unfold lT;rw[q];rcases h with h|⟨x,d,h⟩
    .exact .inl h
    .exact .inr ⟨x,ayt a _ d,h⟩
   have D:(BK (lT w a) (bb w a)).2.2.1=w.2.2.1.set k (R3 w.2.2.1[k]):=by unfold lT;rw[q,K,e];rfl
   have N:(BK (lT w a) (bb w a)).2.2.2.2=ZE a (bb w a) w.2.2.2.2:=by unfold lT;rw[q];rfl
   have qe:(BK (lT w a) (bb w a)).2.2.2.1=arV w.1 (bb w a) w.2.2.2.1:=by unfold lT;rw[q];rfl
   have O:(BK (lT w a) (bb w a)).1=w.1:=by unfold lT;rw[q];rfl
   have P:((R3 w.2.2.1[k]).2.2.2.2.2.2.1.2:Int)=(szG (hs k):Int):=by show(lC _).2=_;unfold lC szG;rw[ag L.f.d,<-C.d]
   have qf:∀p∈bb w a,nmQ (MC p.2)≠[]->a∈(MC p.2).2.2->Tag (hs k) (nmQ (MC p.2)):=by
    intro p f s t;rw[B]at f;rcases C.m p f s a t with (h1|⟨x,d,Q,R⟩)|h1
    .exact absurd h1 qd
    .obtain⟨b,j,u,h1,y,t1,_⟩:=W.s x d;have:b=k:=by omega
     subst this;rw[<-Q];exact t1.mono y
    .exact h1.2
   have E:∀(b:Nat) (j:b<(BK (lT w a) (bb w a)).2.2.1.length),(b=k/\(BK (lT w a) (bb w a)).2.2.1[b]=R3 w.2.2.1[k])\/(b≠k/\∃F:b<w.2.2.1.length,(BK (lT w a) (bb w a)).2.2.1[b]=w.2.2.1[b]):=by
    intro b j;simp only[D]at j ⊢;rw[oo]at j;by_cases u:b=k
    .subst u;exact .inl ⟨rfl,by simp⟩
    .exact .inr ⟨u,j,avG (fun h=>u h.symm) _⟩
   refine⟨hs,⟨fun b j=>?_,fun x d=>?_,fun x d=>?_⟩⟩
   .rw[O];rcases E b j with ⟨rfl,l⟩|⟨_,F,l⟩
    .rw[l];refine((W.r b o).said v).same rfl rfl (ar7 _) ((W.r b o).said v).t fun p f=>absurd f aci
    .rw[l];exact(W.r b F).said v
   .rw[N]at d;have T:k<(BK (lT w a) (bb w a)).2.2.1.length:=by rw[D,oo];exact o
    rcases YU d with d|⟨p,f,d⟩
    .obtain⟨b,j,u,h1,y,t1,qg⟩:=W.s x d;have X:b<(BK (lT w a) (bb w a)).2.2.1.length:=by rw[D,oo];exact j
     refine⟨b,X,u,h1,y,t1,?_⟩;rcases E b X with ⟨rfl,l⟩|⟨_,F,l⟩
     .rw[l,P];have:=aE4 (c:=w.1) (S:=Sd w) (i:=0) y;omega
     .rw[l];exact qg
    .have z:c8 w.1 p.2=true:=by rw[B]at f;exact L.ayj p f
     obtain⟨rfl,s,t⟩:=(avu z).1 d;refine⟨k,T,e,hs k,Sub.refl _,qf p f s t,?_⟩;rcases E k T with ⟨_,l⟩|⟨qh,_⟩
     .rw[l,P];exact MK _
     .exact absurd rfl qh
   .rw[O];rw[qe]at d;rcases aln d with d|⟨p,f,z,rfl⟩
    .exact Kd.said v (W.n x d)
    .show ad6 _ _ _ (gF w.1 (Dj p.2)).1;rw[ajw z];intro s m t;have Y:=f;rw[B]at Y;rcases C.m p Y s m t with h1|⟨h1,Q⟩
     .exact .inl (v _ _ h1)
     .refine .inl (.inr ?_);rw[N];have qi:m=a:=by omega
      subst qi;have R:((MC p.2).1,(MC p.2).2.1,m)∈cH m p.2:=(avu z).2 ⟨rfl,s,t⟩;have qj:=ek.1 (ek.1 M p f) _ R;obtain⟨x,d,A⟩:=avJ.1 qj;unfold isSaid at A;simp only[aG]at A;exact⟨x,d,ZH A.2.1,eq_of_beq A.2.2⟩
  .exact⟨hs,W⟩
 .exact⟨hs,W⟩
def aIJ (h:aF w)(W:WI w hs)(d:db):∃j,WI (Vm w d) j:=by
 unfold Vm;split
 .rename_i e;unfold doI at e ⊢;cases n:gC 1 10 d.1 with
  |false=>rw[n,af (by decide)]at e;exact absurd (show(1:Int)=0 from e) (by decide)
  |true =>
   rw[n,ag rfl]at e;rw[ag rfl];cases b:MB w d with
   |false=>rw[b,af (by decide)]at e;exact absurd (show(2:Int)=0 from e) (by decide)
   |true =>
    rw[b,ag rfl]at e;rw[ag rfl];have q:∃j,WI (ano w d).1 j:=by
     unfold ano;by_cases o:d.1=2
     .have a:d.2.1∈aD w:=by rw[x6 (fun a=>by have:=fe.1 a;omega) (by omega)]at b;exact nj b
      obtain⟨l,s⟩:=ej a;rw[ag o];exact aII h W (k:=d.2.1.toNat) (by omega) (MH l).symm a
     .rw[af o];by_cases f:Il d=true
      .have t:gC 0 (aj ((w.2.2.2.1.length:Int)-1)) d.2.1=true:=by rw[Kc f]at b;exact b
       rw[ag (.inl f)];exact aE5 W fun _=>R7 h t
      .by_cases m:d.1=10
       .rw[ag (.inr m)];exact aE5 W fun a=>absurd a f
       .have a:d.2.1∈aD w:=by rw[x6 f m]at b;exact nj b
        obtain⟨l,s⟩:=ej a;rw[af (fun a=>a.elim f m)];exact aKg h W (k:=d.2.1.toNat) (by omega) true (MH l).symm
    unfold aAN;by_cases p:(ano w d).2=0
    .rw[ag p];split
     .exact q
     .exact⟨hs,W⟩
    .rw[af p];exact⟨hs,W⟩
 .exact⟨hs,W⟩
end
def avv:∀(list:List db) {w:ah} {hs:Nat->ya},aF w->WI w hs->∃a,WI (YW w list) a
 |[],_,hs,_,W=>⟨hs,W⟩|d::list,w,hs,G,W=>by obtain⟨a,b⟩:=aIJ G W d;exact avv list (anL G d) b
def aKi (c:Int×Int)(liars:List Int):WI (R8 c liars) fun _=>[]:=by
 refine⟨fun k d=>?_,fun x a=>(by cases a),fun x a=>(by cases a)⟩;have:(R8 c liars).2.2.1[k]=Hf (k:Int):=by simp[R8]
 rw[this];exact⟨trivial,rfl,rfl,fun p b=>(by cases b),fun p b=>(by cases b)⟩
def Pb (w:ah)(hs:Nat->ya)(i:Int):ya:=if 0<=i/\i<w.2.2.1.length then hs i.toNat else []
def WI.aIK {w:ah}{hs:Nat->ya}(G:aF w)(W:WI w hs):aIx w.1 w.2.1 (Sd w) (Pb w hs):=by
 refine⟨G.c,G.lf,fun n m h=>?_,fun i=>?_⟩
 .rcases h with h|⟨x,b,d,e⟩
  .exact .inl h
  .obtain⟨k,a,f,o,j,t3,_⟩:=W.s x b;refine .inr ?_;subst d;rw[<-e,f];unfold Pb;rw[ag ⟨by omega,by omega⟩];exact t3.mono j
 .unfold Pb;split
  .rename_i l;have a:i.toNat<w.2.2.1.length:=by omega
   have:=(W.r i.toNat a).g;rw[G.id i.toNat a,MH l.1]at this;exact this
  .exact trivial
def WI.at {w:ah}{hs:Nat->ya}(G:aF w)(W:WI w hs){k:Nat}(a:k<w.2.2.1.length):Pb w hs (k:Int)=hs k:=by unfold Pb;rw[ag ⟨by omega,by omega⟩];rfl
def WI.meet {w:ah}{hs:Nat->ya}(G:aF w)(W:WI w hs){j k:Nat}(d:j<w.2.2.1.length)(e:k<w.2.2.1.length) :
  Anc (w.2.2.1[j]).2.2.2.1.2.2.2.data.toList (w.2.2.1[k]).2.2.2.1.2.2.2.data.toList\/Anc (w.2.2.1[k]).2.2.2.1.2.2.2.data.toList (w.2.2.1[j]).2.2.2.1.2.2.2.data.toList:=by
 have H:=W.aIK G;have f:=W.r j d;have m:=W.r k e;have z:=(cC (f.s▸(G.g _ (bJ d)).f.s)).2.2.2;have A:=(cC (m.s▸(G.g _ (bJ e)).f.s)).2.2.2;have root:∀n:Nm,bg n=true->Anc [] n:=fun n o=>by
  generalize B:n.length=l
  induction l using Nat.strongRecOn generalizing n with
  |_ l C =>
   by_cases t:n=[]
   .exact .inl t
   .exact(C _ (by rw[<-B];exact aHS o t) (fV n) (Di o) rfl).trans (YY o)
 rw[f.s,m.s];rcases ays f.g with D|⟨a,u,p,E⟩
 .rw[D];exact .inl (root _ A)
 .rcases ays m.g with F|⟨b,v,q,I⟩
  .rw[F];exact .inr (root _ z)
  .rw[E,I];have K:=G.id j d;have L:=G.id k e;rw[K]at p;rw[L]at q;have x:Sub (hs j) (Pb w hs (j:Int)):=by rw[W.at G d];exact Sub.refl _
   have y:Sub (hs k) (Pb w hs (k:Int)):=by rw[W.at G e];exact Sub.refl _
   rcases Int.le_total (aE (fV (fV a))) (aE (fV (fV b))) with s|s
   .exact .inl (avs H x y p q u v s)
   .exact .inr (avs H y x q p v u s)
def ajR {l:hJ}:Cd l=true↔l.1.length=4/\l.2.length=4/\(∀x∈l.1,0<=x/\x<=400)/\∀x∈l.2,0<=x/\x<=100:=by
 constructor
 .exact ady
 .rintro⟨a,b,d,e⟩;simp only[Cd,inB,aG,bV,ek];exact⟨a,b,d,e⟩
def ayu:∀(l:List Int) (i:Nat) (h:i<l.length) (v:Int),(l.set i v).sum=l.sum-l[i]+v
 |x::l,0,_,v=>by simp only[List.set_cons_zero,VR,aBk];omega
 |x::l,i+1,h,v=>by have:=ayu l i (by simpa using h) v;simp only[List.set_cons_succ,VR,List.getElem_cons_succ];omega
def acH {l:List Int}{i:Int}(a:0<=i)(h:i.toNat<l.length):aI l i 0=l[i.toNat]:=aJ h 0
structure aLn (l:hJ) (x:dH):Prop where
 lo:Cd l=true
 xo:gx x=true
 n:x.2.2.2=aI l.2 x.1 0
 r:(en l x).1.2=l.2.set x.1.toNat (x.2.2.2+1)
 k:Cd (en l x).1=true
 s:(en l x).1.1.sum=l.1.sum
def ZI {l:hJ}{x:dH}(h:RZ (en l x).2=true):aLn l x:=by
 by_cases m:Cd l=true/\gx x=true
 .obtain⟨a,b⟩:=m;obtain⟨⟨f0,f1⟩,⟨t0,t1⟩,⟨m0,m1⟩,⟨v,y⟩⟩:=nc b;obtain⟨q,s,t,u⟩:=ajR.1 a;have n:x.1.toNat<l.1.length:=by omega
  have z:x.1.toNat<l.2.length:=by omega
  by_cases d:x.2.2.2<aI l.2 x.1 0
  .have e:en l x=(l,2):=by unfold en;rw[ag ⟨a,b⟩,ag d]
   rw[e]at h;cases h
  .by_cases f:x.2.2.2>aI l.2 x.1 0
   .have e:en l x=(l,3):=by unfold en;rw[ag ⟨a,b⟩,af d,ag f]
    rw[e]at h;cases h
   .have o:x.2.2.2=aI l.2 x.1 0:=by omega
    by_cases j:x.2.2.1>aI l.1 x.1 0
    .have e:en l x=((l.1,l.2.set x.1.toNat (x.2.2.2+1)),4):=by unfold en;rw[ag ⟨a,b⟩,af d,af f,ag j]
     refine⟨a,b,o,by rw[e],?_,by rw[e]⟩;rw[e];refine ajR.2 ⟨q,by dsimp only;rw[oo];exact s,t,?_⟩;exact axx (lo:=0) (hi:=100) u (by omega)
    .by_cases k:Cd ((l.1.set x.1.toNat (aI l.1 x.1 0-x.2.2.1)).set x.2.1.toNat (aI (l.1.set x.1.toNat (aI l.1 x.1 0-x.2.2.1)) x.2.1 0+x.2.2.1),l.2.set x.1.toNat (x.2.2.2+1))=true
     .have e:en l x=(((l.1.set x.1.toNat (aI l.1 x.1 0-x.2.2.1)).set x.2.1.toNat (aI (l.1.set x.1.toNat (aI l.1 x.1 0-x.2.2.1)) x.2.1 0+x.2.2.1),l.2.set x.1.toNat (x.2.2.2+1)),0):=by unfold en;rw[ag ⟨a,b⟩,af d,af f,af j,ag k]
      have p:x.2.1.toNat<(l.1.set x.1.toNat (aI l.1 x.1 0-x.2.2.1)).length:=by rw[oo];omega
      refine⟨a,b,o,by rw[e],by rw[e];exact k,?_⟩;rw[e];dsimp only;rw[ayu _ _ p,acH t0 p,ayu _ _ n];have A:=acH f0 n;omega
     .have e:en l x=(l,1):=by unfold en;rw[ag ⟨a,b⟩,af d,af f,af j,af k]
      rw[e]at h;cases h
 .have e:en l x=(l,1):=by unfold en;rw[af m]
  rw[e]at h;cases h
def asn (l:hJ):Prop:=Cd l=true/\l.1.sum=400
def aKj {l:hJ}(h:asn l)(x:dH):asn (en l x).1:=by
 cases a:RZ (en l x).2 with
 |false=>rw[ajB a];exact h
 |true =>
  have b:=ZI a;exact⟨b.k,by rw[b.s];exact h.2⟩
def aE6:∀(xs:List dH) {l:hJ},asn l->asn (eY l xs)
 |[],_,h=>h|x::xs,l,h=>aE6 xs (aKj h x)
def aMP:asn S0:=⟨by decide,by decide⟩
def alo:∀{l:List Int} {n:Int},(∀x∈l,0<=x/\x<=400)->0<=n->n+400*l.length<=1000000->Vj l n=n+l.sum
 |[],n,_,_,_=>by simp[Vj]
 |x::l,n,h,d,a=>by have e:=h x p3;rw[aW]at a;rw[Vj,aH (by omega) (by omega),alo (fun y b=>h y (jO _ b)) (by omega) (by omega),VR];omega
def aKk {l:hJ}(h:asn l):Vj l.1 0=400:=by obtain⟨b,d,a,e⟩:=ajR.1 h.1;rw[alo a (MK _) (by omega),h.2];rfl
def aGu {l:hJ}{x:dH}(i:Int)(hi:0<=i)(j:l.2.length=4)(k:i<=3):aI l.2 i 0<=aI (en l x).1.2 i 0:=by
 cases d:RZ (en l x).2 with
 |false=>rw[ajB d];exact MK _
 |true =>
  have a:=ZI d;obtain⟨⟨f0,f1⟩,_⟩:=nc a.xo;rw[a.r];by_cases e:x.1=i
  .subst e;have b:x.1.toNat<(l.2.set x.1.toNat (x.2.2.2+1)).length:=by rw[oo];omega
   rw[acH hi b,avA,a.n];omega
  .have b:i.toNat<(l.2.set x.1.toNat (x.2.2.2+1)).length:=by rw[oo];omega
   have f:i.toNat<l.2.length:=by omega
   rw[acH hi b,acH hi f,avG (by omega)];exact MK _
def aA9:∀(xs:List dH) {l:hJ} (i:Int),0<=i->i<=3->VG l->aI l.2 i 0<=aI (eY l xs).2 i 0
 |[],_,_,_,_,_=>MK _|x::xs,l,i,a,b,d=>Int.le_trans (aGu i a d.2 b) (aA9 xs i a b (aHA d x))
def aso {xs:List dH}{l:hJ}{j:Nat}(h:j<xs.length):(hK l xs).getD j 0=(en (eY l (xs.take j)) xs[j]).2:=by rw[Fa,agp xs l j h];rfl
def asp:∀(a b:List dH) (l:hJ),eY l (a++b)=eY (eY l a) b
 |[],_,_=>rfl|x::a,b,l=>asp a b _
def aGv (xs:List dH){i k:Nat}(s:k<i)(hi:i<xs.length):okP xs (hK S0 xs) i k=true:=by
 have a:k<xs.length:=by omega
 unfold okP;rw[aso hi,aso a,aJ hi,aJ a];cases f:RZ (en (eY S0 (xs.take i)) xs[i]).2 with
 |false=>rfl
 |true =>
  cases j:RZ (en (eY S0 (xs.take k)) xs[k]).2 with
  |false=>rfl
  |true =>
   have m:=ZI f;have d:=ZI j;by_cases e:xs[i].1=xs[k].1
   .by_cases n:xs[i].2.2.2=xs[k].2.2.2
    .exfalso;obtain⟨⟨f0,f1⟩,_⟩:=nc d.xo;have hs:xs.take i=xs.take (k+1)++(xs.take i).drop (k+1):=by have:=aal (k+1) (xs.take i);rw[List.take_take,aec (by omega)]at this;exact this.symm
     have o:VG (eY S0 (xs.take (k+1))):=JH Mu;have b:=aA9 ((xs.take i).drop (k+1)) (l:=eY S0 (xs.take (k+1))) xs[k].1 f0 f1 o;rw[<-asp,<-hs]at b;have p:xs.take (k+1)=xs.take k++[xs[k]]:=ei a;rw[p,OP,d.r]at b;have q:VG (eY S0 (xs.take k)):=JH Mu;have hlen:(xs[k].1).toNat<((eY S0 (xs.take k)).2.set xs[k].1.toNat (xs[k].2.2.2+1)).length:=by rw[oo];have:=q.2;omega
     rw[acH f0 hlen,avA]at b;have:=m.n;rw[e]at this;omega
    .simp[n]
   .simp[e]
def aDr (b:ByteArray):az4 b=true:=by unfold az4;rw[ek];intro i a;rw[ek];intro k d;exact aGv (VH b) (eZ.1 d) (eZ.1 a)
def aGw {c:Int×Int}{r:aw}(h:aY c r):asn (iY c r):=by unfold iY;rw[ag h.ok];exact aE6 _ aMP
def aF.rp {w:ah}(h:aF w){i:Nat}(hi:i<(aD w).length):aY w.1 (rp w i):=by obtain⟨b,e,a⟩:=o9 hi;rw[au0 hi e a];exact h.g _ (bJ a)
def aF.aMQ {w:ah}(h:aF w):adJ w=true:=by unfold adJ;rw[h.ok,eF,ek];intro i a;have a:=eZ.1 a;unfold axP;rw[aKk (aGw (h.rp a)),aDr];rfl
def aKl {w:ah}(h:aF w):adJ w=true:=h.aMQ
section
variable {w:ah} {hs:Nat->ya}
def anN (G:aF w){k:Nat}(a:k<w.2.2.1.length):bg (w.2.2.1[k]).2.2.2.1.2.2.2.data.toList=true:=(cC (G.g _ (bJ a)).f.s).2.2.2
def aLo (G:aF w)(W:WI w hs):auW w=true:=by
 unfold auW;rw[G.ok,eF,ek];intro i d;rw[ek];intro k e;have d:=eZ.1 d;have e:=eZ.1 e;obtain⟨a,l,f⟩:=o9 d;obtain⟨b,m,j⟩:=o9 e;rw[aEI d l f,aEI e m j];unfold ak2;rcases W.meet G f j with h|h
 .rw[aEX (anN G j) (anN G f) h,Bool.or_true]
 .rw[aEX (anN G f) (anN G j) h,ahl]
def asq (W:WI w hs){x:cD}(a:x∈w.2.2.2.2){k:Nat}(f:k<w.2.2.1.length)(e:x.2.2=(k:Int)):Tag (hs k) x.2.1.data.toList:=by
 obtain⟨b,j,l,m,d,t1,_⟩:=W.s x a;have:b=k:=by omega
 subst this;exact t1.mono d
def aIL (G:aF w)(W:WI w hs):Zu w=true:=by
 unfold Zu;rw[G.ok,eF,ek];intro i a;rw[ek];intro k b;have a:=eZ.1 a;have b:=eZ.1 b;unfold okV;rw[aJ a,aJ b];have d:=bJ a;have e:=bJ b;generalize w.2.2.2.2[i]=x at d;generalize w.2.2.2.2[k]=y at e;obtain⟨j,f,l,_⟩:=W.s x d;unfold aK2;by_cases m:x.2.2=y.2.2
 .by_cases n:x.1=y.1
  .have o:=asq W d f l;have p:=asq W e f (by omega);have t:=(G.sb x d).2.2;have u:=(G.sb y e).2.2;have q:=asb (W.r j f).g o p (by omega);have s:x.2.1=y.2.1:=by rw[Ku x.2.1,Ku y.2.1,q]
   rw[s];simp
  .simp[n]
 .simp[m]
def avw:∀{c:Int×Int} {l:List gD} {xs:List bZ} {q:bZ},q∈E4 c l xs->q∈xs\/∃x∈l,q∈Ta c x
 |_,[],_,_,h=>.inl h|c,x::l,xs,q,h=>by
  rcases avw (c:=c) (l:=l) h with a|⟨y,d,a⟩
  .rcases gQ.1 a with b|b
   .exact .inl b
   .exact .inr ⟨x,p3,b⟩
  .exact .inr ⟨y,jO x d,a⟩
def avx (G:aF w)(W:WI w hs){q:bZ}(m:q∈Ms w):eW w.1 q=true/\∃i h,Sub h (Pb w hs i)/\Kd (Sd w) i h q:=by
 rcases avw m with b|⟨x,l,b⟩
 .obtain⟨a,n,rfl⟩:=Fc.1 b;have s:=ej n;have d:a.toNat<w.2.2.1.length:=by omega
  have e:Yz w a=(w.2.2.1[a.toNat]).2.2.2.1.2.2.1:=by unfold Yz;rw[aJ d]
  rw[e];have o:=G.g _ (bJ d);refine⟨(cC o.f.s).2.2.1,((a.toNat:Nat):Int),hs a.toNat,by rw[W.at G d];exact Sub.refl _,?_⟩;have:=aIF (W.r a.toNat d);rw[G.id a.toNat d]at this;exact this
 .have f:=W.n x l;have p:=(ar2 (G.nb x l).2.1).2;unfold Ta at b;unfold ad6 MC at f;rcases Th p with ⟨k,j⟩|k|⟨k,j⟩|k
  .rw[k]at b;rw[ag k]at f;have:=fq.1 b;rw[this];exact⟨j,-1,[],⟨_,(fs _).symm⟩,f⟩
  .rw[k]at b;cases b
  .rw[k]at b;rw[af (by omega),af (by omega),ag k]at f;have:=fq.1 b;rw[this];exact⟨j,-1,[],⟨_,(fs _).symm⟩,f⟩
  .rw[k]at b;cases b
def aIM (G:aF w)(W:WI w hs):Zv w=true:=by
 unfold Zv;rw[G.ok,eF,ek];intro i e;rw[ek];intro k f;have e:=eZ.1 e;have f:=eZ.1 f;unfold Vo;rw[aJ e,aJ f];have p:=bJ e;have q:=bJ f;generalize (Ms w)[i]=a at p;generalize (Ms w)[k]=b at q;obtain⟨l,D,E,s,t⟩:=avx G W p;obtain⟨m,F,I,u,v⟩:=avx G W q;obtain⟨_,_,K,L,_⟩:=ka l;obtain⟨_,_,M,N,_⟩:=ka m;unfold aK3;by_cases x:a.1=b.1
 .have y:nmQ a=nmQ b:=by
   have o:aE (nmQ a)=aE (nmQ b):=by show aE a.2.1.data.toList=aE b.2.1.data.toList;omega
   have pos:∀{n:Nm},bg n=true->n≠[]->0<aE n:=fun {n} z A=>by have:=anG z A;have:=kI (fV n);omega
   by_cases j:nmQ a=[]
   .by_cases d:nmQ b=[]
    .rw[j,d]
    .exfalso;have:=pos (ka m).2.1 d;rw[j,S4]at o;have B:aE (nmQ b)=aE b.2.1.data.toList:=rfl;omega
   .by_cases d:nmQ b=[]
    .exfalso;have:=pos (ka l).2.1 j;rw[d,S4]at o;have B:aE (nmQ a)=aE a.2.1.data.toList:=rfl;omega
    .exact ahc (W.aIK G) s u ⟨a,l,rfl,t⟩ ⟨b,m,rfl,v⟩ j d o
  have C:a.2.1=b.2.1:=by rw[Ku a.2.1,Ku b.2.1];exact nk tx y
  rw[C];simp
 .simp[x]
def aKm (G:aF w)(W:WI w hs)(K:oj w):arf w=true:=by
 unfold arf;rw[G.ok,eF,ek];intro i a;have a:=eZ.1 a;obtain⟨f,e,b⟩:=o9 a;have l:=bJ b;unfold axO;rw[au0 a e b,(K _ l).ok (G.g _ l).ok,eF,ek];intro k d;have d:=eZ.1 d;unfold are;rw[au0 a e b,aJ d,aJ a,e];have j:=bJ d;generalize w.2.2.2.2[k]=x at j;by_cases m:x.2.2=(f:Int)
 .have n:=asq W j b m;have o:=ajP (W.r f b).g n;have p:=(G.sb x j).2.2;rw[<-(W.r f b).s]at o;rw[aQ (by omega),aee];rfl
 .rw[bU.2 m];rfl
def aLp (G:aF w)(W:WI w hs)(K:oj w):aEK w=true:=by unfold aEK;rw[aLo G W,aIL G W,aIM G W,aKl G,aKm G W K];rfl
end
def asr (l:List Int){k:Nat}(a:(k:Int) ∉ l):∀n:Nat,k<n->(k:Int)∈lB l n
 |0,h=>by omega
 |n+1,h=>by
  unfold lB;by_cases e:k=n
  .subst e;rw[af a];exact aBm _ (fq.2 rfl)
  .exact List.mem_append_left _ (asr l a n (by omega))
section
variable {w:ah} {hs:Nat->ya}
def aBa (h:aF w){a:Int}(e:a∈aD w)(b:Int)(m:b1):doI w (8,a,b,m)=(dB w a (jF w.1 (bT w a) b),0):=by
 obtain⟨k,l⟩:=ej e;have n:gC 1 10 (8:Int)=true:=by decide
 have o:MB w (8,a,b,m)=true:=by rw[x6 (d:=(8,a,b,m)) (fun p=>by have:=fe.1 p;dsimp only at this;omega) (by show ¬(8:Int)=10;decide)];exact aL e
 have f:ag9 true w (8,a,b,m)=(dB w a (jF w.1 (bT w a) b),0):=rfl;have q:ano w (8,a,b,m)=(dB w a (jF w.1 (bT w a) b),0):=f;have j:=h.ag9 true (d:=(8,a,b,m)) k l;rw[f]at j;unfold doI;rw[ag n,ag o,q];unfold aAN;rw[ag rfl,ag j.ok]
def aDs (h:aF w){a:Int}(d:a∈aD w)(b:Int)(m:b1):Vm w (8,a,b,m)=dB w a (jF w.1 (bT w a) b):=by unfold Vm;rw[aBa h d b m];exact ag rfl
def aDt (G:aF w)(W:WI w hs){k:Nat}(e:k<w.2.2.1.length)(keep:Int) :
  ∃a,Fair w.1 (Sd w) (w.2.2.1[k]).1 a/\(jF w.1 (w.2.2.1[k]) keep).2.2.2.1=BL a/\Sub a (hs k)/\∀b,Sub b (hs k)->(szG b:Int)<=(w.2.2.1[k]).2.2.2.2.2.2.1.2->Sub b a:=by
 have j:=W.r k e;have d:=(G.g _ (bJ e)).f.d;have p:=YL d keep;have q:=cP.1 d;have l:(fN (w.2.2.1[k]).2.2.2.2.2.2.1 keep).1=(w.2.2.1[k]).2.2.2.2.2.2.1.1.take (Gi (w.2.2.1[k]).2.2.2.2.2.2.1 keep).toNat:=by unfold fN;rw[ag d]
 obtain⟨a,f,m,n,_,s⟩:=aE3 j l;refine⟨a,f.g,f.s,m,fun b o t=>n b o ?_⟩;show szG b<=_;omega
def aGx (G:aF w)(W:WI w hs){x:cD}(a:x∈w.2.2.2.2){k:Nat}(b:k<w.2.2.1.length)(e:x.2.2=(k:Int))(keep:Int):x.1<=(jF w.1 (w.2.2.1[k]) keep).2.2.2.1.1:=by
 obtain⟨q,d,f,s,j⟩:=aDt G W b keep;obtain⟨l,t,u,m,n,t1,o⟩:=W.s x a;obtain rfl:l=k:=by omega
 have p:=t1.mono (j m n o);have:=ajP d p;have v:=(G.sb x a).2.2;rw[f];omega
end
def aKn {code:List Int}(f:∀x∈code,0<=x/\x<=255)(m:code.length<=1048576){i:Int}(b:0<=i)(o:i<=9):∃v:Int,JG F0 code i=some (v,())/\0<=v/\v<=255:=by
 rw[aB7];by_cases h:i<(code.length:Int)
 .have d:i.toNat<code.length:=by omega
  have j:=f _ (bJ d);have e:aI code i 0=code[i.toNat]:=by have:=aV d (0:Int);rw[MH b]at this;exact this
  rw[aL h,ae,kf b h,ab,e,aH (by omega) (by omega)];exact⟨_,rfl,j⟩
 .rw[aQ h,aa];have k:aj (i*7)=i*7:=aH (by omega) (by omega);have l:aj (i*7+(code.length:Int))=i*7+(code.length:Int):=aH (by omega) (by omega);have:=agH (a:=i*7+(code.length:Int)) (n:=256) (by omega) (by omega);rw[k,l];refine⟨_,rfl,this.1,?_⟩;have p:=this.2;omega
def aBb {l:List Int}(h:l.length<=1048576)(x:Int):lA F0 l x=some (decide (x∈l),()):=by
 rw[aqH,er (fun n k=>E2 F0 (wb F0) n (wa l x k)) l.length (fun k=> !(l.getD k 0==x)) (some (false,())) (some (true,())) (fun n k a=>?_) (fun n=>?_) _ (by rw[bz];omega),Gc l (fun y=> !(y==x)),aHB,ite_not]
 .split<;>simp_all
 .rw[Me,aM a,ae,an a,ab,kq,al (by omega),ite_not,axz,ai8]
 .rw[Me,aC,aa,agi]
section
variable {g:ah} {hs:Nat->ya}
def aKo {k:Nat}(a:k<g.2.2.1.length)(R d:aw):aI (dB g (k:Int) R).2.2.1 (k:Int) d=R:=by show aI (g.2.2.1.set ((k:Int)).toNat R) (k:Int) d=R;rw[gz,aV (by rw[oo];exact a)];exact avA _
def aIN (a:Int)(R:aw):((dB g a R).2.2.1.length:Int)=g.2.2.1.length:=by show((g.2.2.1.set a.toNat R).length:Int)=_;rw[oo]
def aLq (G:aF g){k:Nat}(e:(k:Int)∈aD g)(a:k<g.2.2.1.length)(b:Int):aF (dB g (k:Int) (jF g.1 g.2.2.1[k] b))/\aY g.1 (jF g.1 g.2.2.1[k] b):=by
 have d:=anL G (8,(k:Int),b,aAY);rw[aDs G e,Y0 rfl a]at d;refine⟨d,?_⟩;have f:=d.g _ (bJ (show k<(g.2.2.1.set ((k:Int)).toNat (jF g.1 g.2.2.1[k] b)).length by rw[oo];exact a));have j:(g.2.2.1.set ((k:Int)).toNat (jF g.1 g.2.2.1[k] b))[k]'(by rw[oo];exact a)=jF g.1 g.2.2.1[k] b:=by simp only[gz];exact avA _
 exact Eq.mp (nk (aY g.1) j) f
def aKp (G:aF g){k:Nat}(a:(k:Int)∈aD g)(e:k<g.2.2.1.length)(b:Int):vZ F0 g (8,(k:Int),b,aAY)=some (dB g (k:Int) (jF g.1 g.2.2.1[k] b),0,()):=by have h:=aIf G (d:=(8,(k:Int),b,aAY)) E9;rw[aBa G a b aAY,Y0 rfl e]at h;exact h
def aKq (G:aF g)(W:WI g hs){x:cD}(f:x∈g.2.2.2.2){k:Nat}(j:k<g.2.2.1.length)(e:x.2.2=(k:Int))(q:(k:Int)∈aD g) :
  ((ec F0 g.1 (jF g.1 g.2.2.1[k] 0).2.2.2.1.2.2.1 x.1 []).bind fun m=>br (decide ((jF g.1 g.2.2.1[k] 0).2.2.2.1.1>=x.1)) (br (!m.2.1) (some (true,())) ((fD F0 g.1 (jF g.1 g.2.2.1[k] 0).2.2.2.1 m.1).bind fun s=>some (!s.1,()))) (some (false,())))=some (true,()):=by
 have t:=aGx G W f j e 0;have n:=(aLq G q j 0).2;have b:=(cC n.f.s).2.2.1;have z:=(G.sb x f).2.2;have A:=kI x.2.1.data.toList;have o:I64 x.1:=⟨by omega,by omega⟩;rw[ace b o (l:=[]) (by simp),ai];dsimp only;rw[aL (show(jF g.1 g.2.2.1[k] 0).2.2.2.1.1>=x.1 from t),ae];cases a:(eP g.1 (jF g.1 g.2.2.1[k] 0).2.2.2.1.2.2.1 x.1 []).2 with
 |false=>rw[ed,ae]
 |true =>
  have u:=ald a;have p:(eP g.1 (jF g.1 g.2.2.1[k] 0).2.2.2.1.2.2.1 x.1 []).1=(O6 (jF g.1 g.2.2.1[k] 0).2.2.2.1.2.2.1 x.1 [],(jF g.1 g.2.2.1[k] 0).2.2.2.1.2.2.1):=by
   unfold eP at a ⊢;split at a
   .rename_i v;rw[ag v]
   .cases a
  rw[aN,aa,agS n.l.s (by rw[p];exact adW b o (by simp)) (by rw[p];exact Mz b) g.1,ai];have:fM g.1 (jF g.1 g.2.2.1[k] 0).2.2.2.1 (eP g.1 (jF g.1 g.2.2.1[k] 0).2.2.2.1.2.2.1 x.1 []).1=false:=by
   cases d:fM g.1 (jF g.1 g.2.2.1[k] 0).2.2.2.1 (eP g.1 (jF g.1 g.2.2.1[k] 0).2.2.2.1.2.2.1 x.1 []).1 with
   |false=>rfl
   |true =>
    exfalso;unfold fM at d;simp only[aG,bV]at d;have y:=d.2.2.1;rw[u.2.1]at y;omega
  dsimp only;rw[this];rfl
end
end Go.Am.Tryz
