/- No condition. -/
import Derived.Test.YtaheoongenkdbaaGreatDoorQeXJL5
set_option linter.all false
namespace Go.Am.Tryz
open Go.Am
def cd (c:Int×Int)(r:ar):Prop:=∃l:List a1,(∀x∈l,bh c x=true)/\r.2.2.2.2.2.2.1.1=cc l/\r.2.2.2.1=l.getLastD jD
section
variable {c:Int×Int} {r:ar}
def cd.same {r':ar}(h:cd c r)(e:r'.2.2.2.1=r.2.2.2.1)(f:r'.2.2.2.2.2.2.1.1=r.2.2.2.2.2.2.1.1):cd c r':=by obtain⟨l,a,b,d⟩:=h;exact⟨l,a,f.trans b,e.trans d⟩
def cd.put (h:cd c r){s:a1}(hs:bh c s=true):cd c (put r s):=by
 obtain⟨l,a,b,d⟩:=h;refine⟨l++[s],fun x e=>?_,?_,?_⟩
 .rcases gK.1 e with h|h
  .exact a x h
  .rw[fA.1 h];exact hs
 .show r.2.2.2.2.2.2.1.1++dv s=_;rw[b,cc,cc,asY];simp
 .show s=_;simp
def avE (h:cd c r)(s:a1):cd c (fD c r s).1:=by
 unfold fD;split
 .exact h
 .split
  .rename_i a;exact h.put a.1
  .exact h
def avF (h:cd c r)(t:Int)(m:bW):cd c (jN c r t m).1:=by
 unfold jN;split
 .exact h.same rfl rfl
 .exact h
def aeC (h:cd c r)(v:Int):cd c (q4 r v):=h.same rfl rfl
def WV (h:cd c r)(t:List b1):cd c (dZ r t):=h.same rfl rfl
def ag6 (h:cd c r)(v:Int):cd c (gT r v):=h.same rfl rfl
def asF (h:cd c r)(p:List ej):cd c (ND r p):=h.same rfl rfl
def aAt (h:cd c r):cd c (Bc r):=h.same rfl rfl
def QC (h:cd c r)(q:b1):cd c (written c r q).1:=avE h _
def aG8 (h:cd c r)(q:b1):cd c (my c r q).1:=by
 unfold my;split
 .split
  .exact QC h q
  .split
   .exact aeC (QC h q) _
   .exact avF (aeC (QC h q) _) _ _
 .exact h
def avG (h:cd c r)(v:Int)(n:ByteArray)(p:Bool):cd c (ez c r v n p).1:=by
 unfold ez;split
 .exact h
 .split
  .split
   .exact aG8 h _
   .exact h
  .split
   .exact h
   .exact avF h _ _
def aJt (h:cd c r)(n:ByteArray):cd c (own c r n).1:=by
 unfold own;split
 .exact avG (WV h _) _ _ _
 .exact h
def aB4 (h:cd c r)(b:ca):cd c (gH r b):=by
 unfold gH;split
 .exact ag6 h _
 .exact h
def aiJ (h:cd c r)(b:ca):cd c (dV c r b).1:=by
 unfold dV Ba;split
 .split
  .split
   .exact aJt (avE (aB4 h b) _) _
   .exact h
  .exact avE (aB4 h b) _
 .exact h
def aAu (h:cd c r)(p:b1):cd c (fE c r p).1:=by
 unfold fE;split
 .exact avG (WV h _) _ _ _
 .exact h
def aB5 (h:cd c r)(l:Bool)(v:Int)(q:b1):cd c (Fl l r v q):=by
 unfold Fl;split
 .exact aeC (aeC h _) _
 .exact aeC h _
def aAv (h:cd c r)(imp:Bool)(v:Int)(q:b1)(cu:Int):cd c (fF imp c r v q cu).1:=by
 unfold fF;split
 .unfold oD;split
  .split
   .exact aB5 (WV (QC h q) _) _ _ _
   .exact h
  .exact aB5 (QC h q) _ _ _
 .exact h
def aG9 (h:cd c r)(imp:Bool)(m:bW):cd c (q5 imp c r m).1:=by
 unfold q5;split
 .exact aiJ h _
 .split
  .exact aAu h _
  .split
   .exact aAv h imp _ _ _
   .exact asF h _
def aFt (h:cd c r)(imp:Bool)(m:bW):cd c (CG imp c r m).1:=by
 unfold CG;split
 .exact asF (WV (aG9 h imp m) _) _
 .exact h
def apv (d:pr):(kH d).1=d.1:=by unfold kH;split<;>rfl
def aHa (h:cd c r):cd c (NC r):=h.same rfl (apv _)
def aHb (h:cd c r):cd c (wV c r).1:=by
 unfold wV;split
 .exact h
 .split
  .split
   .exact WV (ag6 h _) _
   .exact h
  .split
   .exact avF (ag6 h _) _ _
   .exact h
def apw (h:cd c r)(m:bW):∀(j k:Nat) {o:ar},cd c o->cd c (nx c r m j k o).1
 |0,_,o,a=>a|j+1,k,o,a=>by
  unfold nx;split
  .exact apw h m j (k+1) a
  .split
   .exact apw h m j (k+1) (avF a _ _)
   .exact h
def aDu (h:cd c r)(m:bW):cd c (RM c r m).1:=apw h m _ _ h
def aIt (h:cd c r):cd c (Ob c r).1:=by
 unfold Ob;split
 .split
  .exact aiJ (aDu (aAt h) _) _
  .exact h
 .exact h
def ayd (h:cd c r):∀k,cd c (ml c r k).1
 |0=>h|k+1=>by
  unfold ml;split
  .exact ayd h k
  .split
   .exact avG h _ _ _
   .exact h
def aFu {l:List a1}{k:Nat}(a:∀x∈l,bh c x=true)(b:r.2.2.2.2.2.2.1.1=(cc l).take k):cd c (avi c r):=by
 obtain⟨i,t,m,g,e,_⟩:=abi k a;have d:∀x∈l.take i,bh c x=true:=fun x j=>a x (TY j)
 have f:=KZ g d;refine⟨l.take i,d,?_,?_⟩
 .show r.2.2.2.2.2.2.1.1.take (dL c r.2.2.2.2.2.2.1.1).2=_;rw[b,e,f];exact Z3
 .show(dL c r.2.2.2.2.2.2.1.1).1=_;rw[b,e,f]
def aHc (h:cd c r)(keep:Int):cd c (aiH c r keep):=by
 obtain⟨l,a,b,d⟩:=h;unfold aiH;by_cases e:fi r.2.2.2.2.2.2.1=true
 .refine aFu (l:=l) (k:=(Hc r.2.2.2.2.2.2.1 keep).toNat) a ?_;show(gG r.2.2.2.2.2.2.1 keep).1=_;unfold gG;rw[ag e,b]
 .refine aFu (l:=l) (k:=(cc l).length) a ?_;show(gG r.2.2.2.2.2.2.1 keep).1=_;unfold gG;rw[af e,b,k5]
def aIu (h:cd c r)(imp:Bool)(m:bW):cd c (akH imp c r m).1:=by
 unfold akH;split
 .exact aFt h imp m
 .exact h
def aIv (h:cd c r)(imp:Bool)(d:cC):cd c (RP imp c r d).1:=by
 unfold RP;split
 .exact aIt h
 .split
  .exact ayd h _
  .split
   .split
    .exact aHb h
    .exact h
   .split
    .exact aHc h _
    .exact aIu h imp _
def cd.ok (h:cd c r)(f:mh c r=true):asi c r=true:=by obtain⟨l,a,b,d⟩:=h;have e:=KZ (c:=c) (t:=[]) (.inl rfl) a;rw[fU]at e;unfold asi;rw[f,b,e,d];simp[aq3]
end
def oE (w:ah):Prop:=∀r∈w.2.2.1,cd w.1 r
def avH {w:ah}(h:oE w)(a:Int):cd w.1 (bU w a):=by
 unfold bU;rw[Em];cases e:w.2.2.1[a.toNat]? with
 |none=>exact⟨[],fun _ b=>absurd b Z2,rfl,rfl⟩
 |some r=>exact h r (arl e)
def apx {w:ah}(h:oE w)(a:Int){r:ar}(b:cd w.1 r):oE (eR w a r):=fun x d=>by
 rcases ayx d with h1|h1
 .exact h x h1
 .rw[h1];exact b
def aHd {w:ah}(h:oE w)(i:Int)(l:List gQ):oE (mj w i l):=by
 unfold mj;split
 .exact h
 .exact h
def aAw (w:ah)(i:Int)(l:List gQ):(mj w i l).1=w.1:=by unfold mj;split<;>rfl
def aHe {w:ah}(h:oE w)(a:Int):oE (QA w a).1:=by
 unfold QA;split
 .split
  .exact apx (w:=mj w a (a6 w a)) (aHd h _ _) a (by rw[aAw];exact aHa (avH h a))
  .exact h
 .exact h
def aIw {w:ah}(h:oE w)(d:cC):oE (aez w d).1:=by
 unfold aez;split
 .unfold Z1;split
  .exact apx (w:=Hd w d.2.1) h _ (aFt (avH h _) true _)
  .exact h
 .split
  .exact h
  .split
   .exact h
   .split
    .exact h
    .exact h
def aIx {w:ah}(h:oE w)(imp:Bool)(d:cC):oE (ag4 imp w d).1:=apx h _ (aIv (avH h _) imp d)
def aHf {w:ah}(h:oE w)(d:cC):oE (kX w d):=by
 unfold kX;split
 .rename_i a;unfold doI at a ⊢;split at a
  .rename_i b;rw[ag b];split at a
   .rename_i e;rw[ag e];have f:oE (aby w d).1:=by
     unfold aby
     split
     .exact aHe h _
     .split
      .exact aIw h d
      .exact aIx h true d
    unfold apq;split
    .split
     .exact f
     .exact h
    .exact h
   .cases a
  .cases a
 .exact h
def aFv (c:Int×Int)(liars:List Int):oE (RQ c liars):=fun r a=>by obtain⟨i,_,rfl⟩:=Ep.1 a;exact⟨[],fun _ b=>absurd b Z2,rfl,rfl⟩
abbrev Nm:=List UInt8
def Anc (t s:Nm):Prop:=s=t\/∃r,s=t++47::r
def Anc.refl (t:Nm):Anc t t:=.inl rfl
def Anc.trans {a b c:Nm}(h:Anc a b)(d:Anc b c):Anc a c:=by
 rcases d with rfl|⟨r,rfl⟩
 .exact h
 .rcases h with rfl|⟨q,rfl⟩
  .exact .inr ⟨r,rfl⟩
  .exact .inr ⟨q++47::r,by simp⟩
def WW {s:Nm}(h:bd s=true):Anc (fv s) s:=by
 by_cases a:s=[]
 .subst a;exact .inl rfl
 .obtain⟨t,_,e⟩:=WA h a;exact .inr ⟨t,e⟩
def aHg {t s:Nm}(h:Anc t s):t.length<=s.length:=by
 rcases h with rfl|⟨r,rfl⟩
 .exact bf _
 .rw[aG];omega
def apy {a b s:Nm}(f:Anc a s)(k:Anc b s)(h:a.length<=b.length):Anc a b:=by
 rcases k with rfl|⟨q,rfl⟩
 .exact f
 .rcases f with e|⟨r,e⟩
  .have:=oF List.length e;rw[aG,aW]at this;omega
  .by_cases l:a.length=b.length
   .have:=List.append_inj_left e l.symm;exact .inl this
   .refine .inr ⟨b.drop (a.length+1),?_⟩;have g:(b++47::q).take a.length=a:=by rw[e];exact Z3
    have d:(b++47::q)[a.length]?=some 47:=by rw[e];simp
    rw[aAz h]at g;rw[List.getElem?_append_left (by omega)]at d;obtain⟨m,d⟩:=wb.1 d;have j:=Yb a.length b;rw[TX m,d,g]at j;exact j.symm
def aFw {a s:Nm}(hs:bd s=true)(y:bd a=true):Anc a s->a≠s->aD a<aD s:=by
 intro h f;generalize j:s.length=n
 induction n using Nat.strongRecOn generalizing s with
 |_ n l =>
  subst j;have b:s≠[]:=fun e=>by
   subst e;rcases h with h|⟨r,h⟩
   .exact f h.symm
   .simp at h
  have m:=au9 hs b;by_cases g:a=fv s
  .rw[g];exact m
  .have o:a.length<=(fv s).length:=by
    rcases h with h|⟨r,h⟩
    .exact absurd h.symm f
    .rcases Lh (fv s).length a.length with hlt|p
     .exfalso;obtain⟨t,q,e⟩:=WA hs b;have d:s[a.length]?=some 47:=by rw[h];simp
      rw[e,avR (by omega)]at d;have u:(47::t)[a.length-(fv s).length]?=t[a.length-(fv s).length-1]?:=by obtain⟨k,v⟩:∃k,a.length-(fv s).length=k+1:=⟨a.length-(fv s).length-1,by omega⟩;rw[v];simp
      rw[u]at d;exact q (arl d)
     .exact p
   have x:=apy h (WW hs) o;have:=l (fv s).length (aES hs b) (CC hs) x g rfl;omega
def avI {s t:ByteArray}(hs:bd s.data.toList=true)(b:bd t.data.toList=true)(h:Anc t.data.toList s.data.toList):ad5 s t=true:=by
 have g:=aHg h;have d:s.size=s.data.toList.length:=rfl;have a:t.size=t.data.toList.length:=rfl;unfold ad5;rw[hs,b,eS,eS,aI (show(s.size:Int)>=(t.size:Int) by omega),eS];have e:s.extract 0 t.size=t:=by
  have:=Ff s.data.toList 0 t.data.toList.length;rw[T0,QE]at this;rw[<-Ou]at this;refine this.trans ?_;rcases h with h|⟨r,h⟩
  .rw[h,k5];rfl
  .rw[h,Z3];rfl
 rw[e,Ye,eS];rcases h with h|⟨r,h⟩
 .rw[show((s.size:Int)==(t.size:Int))=true from bg.2 (by rw[d,a,h])];rfl
 .have:gV s (t.size:Int)=47:=by
   have f:s.data.toList[t.data.toList.length]?=some 47:=by rw[h];simp
   unfold gV;rw[gJ,a,Em,f];rfl
  rw[this];simp
def aFx {s t:ByteArray}(h:ad5 s t=true):bd s.data.toList=true/\bd t.data.toList=true/\Anc t.data.toList s.data.toList:=by
 have n:s.size=s.data.toList.length:=rfl;have e:t.size=t.data.toList.length:=rfl;unfold ad5 at h;simp only[aA,iS,bR]at h;obtain⟨hs,k,o,f,a⟩:=h;refine⟨hs,k,?_⟩;have g:=Ff s.data.toList 0 t.data.toList.length;rw[T0,QE,<-Ou]at g;have b:s.data.toList.take t.data.toList.length=t.data.toList:=by have:=Qh (s.data.toList.take t.data.toList.length) t.data.toList;rw[<-g,<-Ou]at this;rw[e]at f;exact k4 (this.symm.trans f)
 rcases a with a|a
 .have:=eq_of_beq a;refine .inl ?_;rw[<-b,abD (by omega)]
 .rcases Lh t.data.toList.length s.data.toList.length with hlt|l
  .refine .inr ⟨s.data.toList.drop (t.data.toList.length+1),?_⟩;have d:=Yb t.data.toList.length s.data.toList;rw[TX hlt,b]at d;have j:gV s (t.size:Int)=47:=eq_of_beq a;unfold gV at j;rw[gJ,e,Em,mm hlt,Option.getD_some]at j;have m:s.data.toList[t.data.toList.length]=47:=as2.1 (by rw[show(47:UInt8).toNat=47 from rfl];omega);rw[m]at d;exact d.symm
  .refine .inl ?_;rw[<-b,abD l]
def asG (A B:Nat->Bool):∀l:List Nat,l.countP A+l.countP B<=l.length+l.countP fun k=>A k&&B k
 |[]=>bf _|x::l=>by have:=asG A B l;rw[Gj,Gj,Gj,aW];cases A x<;>cases B x<;>simp<;>omega
def asH (A L:Nat->Bool):∀l:List Nat,l.countP A<=l.countP L+l.countP fun k=>A k&& !L k
 |[]=>bf _|x::l=>by have:=asH A L l;rw[Gj,Gj,Gj];cases A x<;>cases L x<;>simp<;>omega
def asI {x:Nat}(p:Nat->Bool)(a:p x=false):∀l:List Nat,x∈l->l.countP p+1<=l.countP fun k=>p k || k==x
 |y::l,h=>by
  rw[Gj,Gj];by_cases e:y=x
  .subst e;have:l.countP p<=l.countP fun k=>p k || k==y:=ayC fun k _ b=>by rw[b];rfl
   rw[a];simp;omega
  .have:=asI p a l (by rcases cN.1 h with h|h;exact absurd h.symm e;exact h);rw[show(y==x)=false by simp[e],alm];omega
def ag7 {n:Nat}:∀{w:List Int},w.Nodup->(∀x∈w,0<=x/\x<n)->w.length<=(List.range n).countP fun k:Nat=>decide ((k:Int)∈w)
 |[],_,_=>aO _|x::w,b,d=>by
  have j:=ag7 (n:=n) (alh.1 b).2 fun y f=>d y (jG x f)
  have e:=d x py;have a:x.toNat∈List.range n:=fV.2 (by omega);have g:decide (((x.toNat:Nat):Int)∈w)=false:=aL (by rw[Oe e.1];exact(alh.1 b).1);have l:=asI (fun k:Nat=>decide ((k:Int)∈w)) g _ a;have m:((List.range n).countP fun k:Nat=>decide ((k:Int)∈w) || k==x.toNat)<=(List.range n).countP fun k:Nat=>decide ((k:Int)∈x::w):=ayC fun k _ a=>by
   rcases(iS _ _).mp a with h|h
   .exact aI (jG x (k4 h))
   .have:=eq_of_beq h;exact aI (by rw[this,Oe e.1];exact py)
  rw[aW];omega
def count_le {n:Nat}{w:List Int}:((List.range n).countP fun k:Nat=>decide ((k:Int)∈w))<=w.length:=by
  induction w with
  |nil=>simp
  |cons x w a =>
   have:((List.range n).countP fun k:Nat=>decide ((k:Int)∈x::w))<=((List.range n).countP fun k:Nat=>decide ((k:Int)∈w))+(List.range n).countP fun k:Nat=>decide ((k:Int)=x):=by
    generalize List.range n=l
    induction l with
    |nil=>simp
    |cons y l a =>
     rw[Gj,Gj,Gj];by_cases b:(y:Int)=x<;>by_cases d:(y:Int)∈w<;>simp[b,d]at a ⊢<;>omega
   have b:∀m,((List.range m).countP fun k:Nat=>decide ((k:Int)=x))<=1/\(((m:Int)<=x)->((List.range m).countP fun k:Nat=>decide ((k:Int)=x))=0):=by
    intro m
    induction m with
    |zero=>simp
    |succ m a =>
     rw[List.range_succ,List.countP_append,Gj,List.countP_nil];by_cases h:(m:Int)=x
     .have:=a.2 (by omega);rw[this,aI h];exact⟨by simp,fun d=>by omega⟩
     .rw[aL h];refine⟨by simp;exact a.1,fun d=>?_⟩;rw[a.2 (by omega)];simp
   have:=(b n).1;rw[aW];omega
def aiK {n:Int}{s:List Int}(h:jI n s=true):s.Nodup:=by
 have hlt:∀(a i:Nat) (b:a<s.length) (d:i<a),s[i]<s[a]:=by
  intro a
  induction a with
  |zero=>intro i b d;omega
  |succ a f =>
   intro i b d;have g:=aoV h b;rcases Lh i a with e|e
   .have:=f i (by omega) e;omega
   .have:i=a:=by omega
    subst this;exact g
 refine ayy.2 fun i a d b j k=>?_
 have:=hlt a i b j;omega
def aFy {c:Int×Int}{liars w1 a:List Int}(l:bw c=true)(s:(liars.length:Int)<=vY c)(o:jI c.1 w1=true)(p:jI c.1 a=true)(t:(w1.length:Int)>=A5 c)(u:(a.length:Int)>=A5 c) :
  ∃m,m∈w1/\m∈a/\m ∉ liars:=by
 obtain⟨n0,v,_,_⟩:=b4 l;have e:(c.1.toNat:Int)=c.1:=Oe (by omega);have y:=ag7 (n:=c.1.toNat) (aiK o) (fun x j=>by have:=I2 o x j;omega);have z:=ag7 (n:=c.1.toNat) (aiK p) (fun x j=>by have:=I2 p x j;omega);have b:=asG (fun k:Nat=>decide ((k:Int)∈w1)) (fun k:Nat=>decide ((k:Int)∈a)) (List.range c.1.toNat);have d:=asH (fun k:Nat=>decide ((k:Int)∈w1)&&decide ((k:Int)∈a)) (fun k:Nat=>decide ((k:Int)∈liars)) (List.range c.1.toNat);have f:=count_le (n:=c.1.toNat) (w:=liars);rw[Yd]at b;have q:0<(List.range c.1.toNat).countP fun k:Nat=>(decide ((k:Int)∈w1)&&decide ((k:Int)∈a))&& !decide ((k:Int)∈liars):=by
  unfold A5 vY at *;rw[ag l]at *;have:(Int.tdiv (c.1-1) 3)*3<=c.1-1:=by rw[ak9 (by omega)];omega
  omega
 obtain⟨k,A,g⟩:=List.countP_pos_iff.1 q;simp only[aA,Yc,bR,avT]at g;exact⟨(k:Int),g.1.1,g.1.2,g.2⟩
abbrev Bd:=List (a1×Option Nm)
def nmQ (q:b1):Nm:=q.2.1.data.toList
def Tag (h:Bd)(n:Nm):Prop:=∃s,(s,some n)∈h
def Bh:Bd->a1
 |[]=>jD|x::_=>x.1
def Lb (S:Nm->Int->Prop)(i:Int)(h:Bd)(q:b1):Prop:=nmQ q≠[]->∀m∈q.2.2,S (nmQ q) m\/(m=i/\Tag h (nmQ q))
def Crt (c:Int×Int)(S:Nm->Int->Prop)(i:Int)(h:Bd)(n:Nm):Prop:=∃q,eN c q=true/\nmQ q=n/\Lb S i h q
structure aIy (c:Int×Int) (S:Nm->Int->Prop) (i:Int) (h:Bd) (s:a1) (n:Nm):Prop where
 ok:bd n=true
 ne:n≠[]
 v:s.1=aD n
 up:(Bh h).1<aD n
 lk:aD (fv (fv n))<=s.2.1
 lu:s.2.1<=aD (fv n)
 crt:Crt c S i h (fv n)
def asK (n:Nm):Prop:=bd n=true/\n≠[]/\fv n≠[]/\fv (fv n)≠[]/\aD n=aD (fv n)+1/\aD (fv n)=aD (fv (fv n))+1
structure avK (c:Int×Int) (S:Nm->Int->Prop) (i:Int) (h:Bd) (s:a1) (t:Option Nm):Prop where
 ok:bh c s=true
 v:(Bh h).1<=s.1
 l:(Bh h).2.1<=s.2.1
 vt:∀n,t=some n->aIy c S i h s n
 hi:Lb S i ((s,t)::h) s.2.2.1
 dn:s.2.2.2.data.toList=[]\/∃n3,asK n3/\Crt c S i ((s,t)::h) n3/\s.2.2.2.data.toList=fv (fv n3)
def Fair (c:Int×Int)(S:Nm->Int->Prop)(i:Int):Bd->Prop
 |[]=>True|x::h=>Fair c S i h/\avK c S i h x.1 x.2
def Sub (h a:Bd):Prop:=∃p,a=p++h
def Sub.refl (h:Bd):Sub h h:=⟨[],rfl⟩
def Sub.trans {a b d:Bd}(h:Sub a b)(e:Sub b d):Sub a d:=by obtain⟨p,rfl⟩:=h;obtain⟨q,rfl⟩:=e;exact⟨q++p,by simp⟩
def Sub.cons (x:a1×Option Nm)(h:Bd):Sub h (x::h):=⟨[x],rfl⟩
def Tag.mono {h a:Bd}{n:Nm}(t:Tag h n)(s:Sub h a):Tag a n:=by obtain⟨p,rfl⟩:=s;obtain⟨x,b⟩:=t;exact⟨x,List.mem_append_right p b⟩
section
variable {c:Int×Int} {S S':Nm->Int->Prop} {i:Int}
def Lb.mono {h a:Bd}{q:b1}(e:Lb S i h q)(s:Sub h a):Lb S i a q:=fun b m d=>(e b m d).imp id fun x=>⟨x.1,x.2.mono s⟩
def Crt.mono {h f:Bd}{n:Nm}(e:Crt c S i h n)(s:Sub h f):Crt c S i f n:=by obtain⟨q,a,b,d⟩:=e;exact⟨q,a,b,d.mono s⟩
def Lb.said {h:Bd}{q:b1}(a:∀n m,S n m->S' n m)(e:Lb S i h q):Lb S' i h q:=fun b m d=>(e b m d).imp (a _ _) id
def Crt.said {h:Bd}{n:Nm}(f:∀n m,S n m->S' n m)(e:Crt c S i h n):Crt c S' i h n:=by obtain⟨q,a,b,d⟩:=e;exact⟨q,a,b,d.said f⟩
def Fair.said (e:∀n m,S n m->S' n m):∀{h:Bd},Fair c S i h->Fair c S' i h
 |[],_=>trivial|x::h,g=>⟨Fair.said e g.1,⟨g.2.ok,g.2.v,g.2.l,fun n f=>{g.2.vt n f with crt:=(g.2.vt n f).crt.said e},g.2.hi.said e,g.2.dn.imp id fun ⟨n3,a,b,d⟩=>⟨n3,a,b.said e,d⟩⟩⟩
def Fair.sub:∀{p h:Bd},Fair c S i (p++h)->Fair c S i h
 |[],_,g=>g|_::p,_,g=>Fair.sub (p:=p) g.1
def apz:∀{h:Bd} {n:Nm},Fair c S i h->Tag h n->aD n<=(Bh h).1
 |[],_,_,⟨_,a⟩=>by cases a
 |x::h,n,g,⟨s,a⟩=>by
  rcases cN.1 a with e|b
  .subst e;exact Int.le_of_eq (g.2.vt n rfl).v.symm
  .exact aeO (apz g.1 ⟨s,b⟩) g.2.v
def aye:∀{h:Bd} {n:Nm},Fair c S i h->Tag h n->aD (fv (fv n))<=(Bh h).2.1
 |[],_,_,⟨_,a⟩=>by cases a
 |x::h,n,g,⟨s,a⟩=>by
  rcases cN.1 a with e|b
  .subst e;exact(g.2.vt n rfl).lk
  .exact aeO (aye g.1 ⟨s,b⟩) g.2.l
def ayf:∀{h:Bd} {n a:Nm},Fair c S i h->Tag h n->Tag h a->aD n=aD a->n=a
 |[],_,_,_,⟨_,b⟩,_,_=>by cases b
 |x::h,n,a,g,⟨s,b⟩,⟨j,k⟩,e=>by
  rcases cN.1 b with l|m
  .rcases cN.1 k with d|f
   .exact eE (oF Prod.snd (l.trans d.symm))
   .subst l;have o:=(g.2.vt n rfl).up;have p:=apz g.1 ⟨j,f⟩;omega
  .rcases cN.1 k with d|f
   .subst d;have o:=(g.2.vt a rfl).up;have p:=apz g.1 ⟨s,m⟩;omega
   .exact ayf g.1 ⟨s,m⟩ ⟨j,f⟩ e
def avL:∀{h:Bd} {n:Nm},Fair c S i h->Tag h n->bd n=true/\n≠[]/\∃b,Sub b h/\Crt c S i b (fv n)
 |[],_,_,⟨_,f⟩=>by cases f
 |x::h,n,g,⟨s,f⟩=>by
  rcases cN.1 f with e|j
  .subst e;exact⟨(g.2.vt n rfl).ok,(g.2.vt n rfl).ne,h,Sub.cons _ h,(g.2.vt n rfl).crt⟩
  .obtain⟨a,b,d,k,l⟩:=avL g.1 ⟨s,j⟩;exact⟨a,b,d,k.trans (Sub.cons _ h),l⟩
def asL:∀{h:Bd} {n a:Nm},Fair c S i h->Tag h n->Tag h a->aD n<aD a->aD (fv (fv n))<=aD (fv a)
 |[],_,_,_,⟨_,b⟩,_,_=>by cases b
 |x::h,n,a,g,⟨s,b⟩,⟨j,o⟩,e=>by
  rcases cN.1 o with k|l
  .rcases cN.1 b with d|f
   .have:=eE (oF Prod.snd (d.trans k.symm));rw[this]at e;omega
   .subst k;have p:=aye g.1 ⟨s,f⟩;have m:=g.2.l;have q:=(g.2.vt a rfl).lu;dsimp only at m q;omega
  .rcases cN.1 b with d|f
   .subst d;have p:=(g.2.vt n rfl).up;have m:=apz g.1 ⟨j,l⟩;omega
   .exact asL g.1 ⟨s,f⟩ ⟨j,l⟩ e
end
structure aFz (c:Int×Int) (liars:List Int) (S:Nm->Int->Prop) (hs:Int->Bd):Prop where
 cf:bw c=true
 l:(liars.length:Int)<=vY c
 s:∀n m,S n m->m∈liars\/Tag (hs m) n
 g:∀i,Fair c S i (hs i)
section
variable {c:Int×Int} {liars:List Int} {S:Nm->Int->Prop} {hs:Int->Bd} (H:aFz c liars S hs)
include H
def aB6 {i:Int}{h:Bd}(d:Sub h (hs i)){q:b1}(e:Lb S i h q)(f:nmQ q≠[]){m:Int}(g:m∈q.2.2)(j:m ∉ liars):Tag (hs m) (nmQ q):=by
 rcases e f m g with a|⟨a,k⟩
 .rcases H.s _ _ a with b|b
  .exact absurd b j
  .exact b
 .subst a;exact k.mono d
def avM {g j:Int}{e f:Bd}(k:Sub e (hs g))(l:Sub f (hs j)){a n2:Nm}(n:Crt c S g e a)(o:Crt c S j f n2)(b:a≠[])(d:n2≠[]) :
  ∃m,Tag (hs m) a/\Tag (hs m) n2:=by
 obtain⟨x,p,q,s⟩:=n;obtain⟨y,t,u,v⟩:=o;subst q;subst u;obtain⟨_,_,_,_,f1⟩:=v8 p;obtain⟨_,_,_,_,f2⟩:=v8 t;obtain⟨m,m1,m2,m3⟩:=aFy H.cf H.l (f1 b).1 (f2 d).1 (f1 b).2 (f2 d).2;exact⟨m,aB6 H k s b m1 m3,aB6 H l v d m2 m3⟩
def apA {f g:Int}{b d:Bd}(j:Sub b (hs f))(k:Sub d (hs g)){a n2:Nm}(l:Crt c S f b a)(n:Crt c S g d n2)(o:a≠[])(p:n2≠[])(e:aD a=aD n2):a=n2:=by obtain⟨m,t1,t2⟩:=avM H j k l n o p;exact ayf (H.g m) t1 t2 e
def aFA {i:Int}{h:Bd}(s:Sub h (hs i)){n:Nm}(d:Crt c S i h n)(z:n≠[]):bd n=true/\∃m b,Sub b (hs m)/\Crt c S m b (fv n):=by obtain⟨m,t1,_⟩:=avM H s s d d z z;obtain⟨a,_,b,e,f⟩:=avL (H.g m) t1;exact⟨a,m,b,e,f⟩
def aFB {i:Int}{h:Bd}(s:Sub h (hs i)){n3:Nm}(d:Crt c S i h n3)(t:asK n3):∀(k:Nat) {f:Int} {g:Bd} {n:Nm},Sub g (hs f)->Crt c S f g n->aD n=k->aD (fv (fv n3))<=aD n->Anc (fv (fv n3)) n:=by
 obtain⟨x,j,o,p,L,M⟩:=t;obtain⟨_,m2,N,q,u⟩:=aFA H s d j;obtain⟨l,m1,O,y,z⟩:=aFA H q u o;intro k
 induction k using Nat.strongRecOn with
 |_ k A =>
  intro f g n e dn P B;have a:n≠[]:=fun C=>by subst C;have Q:=au9 (CC l) p;have R:=oq (fv (fv (fv n3)));rw[aot]at B;omega
  by_cases D:aD n=aD (fv (fv n3))
  .rw[apA H e y dn z a p D];exact Anc.refl _
  .by_cases E:aD n=aD (fv n3)
   .rw[apA H e q dn u a o E];exact WW l
   .by_cases F:aD n=aD n3
    .rw[apA H e s dn d a j F];exact(WW l).trans (WW x)
    .obtain⟨m,t3,v⟩:=avM H s e d dn j a;have G:=asL (H.g m) t3 v (by omega);obtain⟨on,_,b,I,K⟩:=avL (H.g m) v;have T:=au9 on a;have W:=oq (fv n);exact(A (aD (fv n)).toNat (by omega) I K (by omega) G).trans (WW on)
def asM {l m:Int}{g j:Bd}(o:Sub g (hs l))(p:Sub j (hs m)){a b:Nm}(q:Crt c S l g a)(s:Crt c S m j b)(n:asK a)(d:asK b)(x:aD (fv (fv a))<=aD (fv (fv b))):Anc (fv (fv a)) (fv (fv b)):=by
 have t:=WW d.1;have u:=WW (CC d.1);have y:=d.2.2.2.2.1;have z:=d.2.2.2.2.2;have h:=aFB H o q n (aD b).toNat p s (by have:=oq b;omega) (by omega);have k:Anc (fv (fv b)) b:=u.trans t;rcases Nat.le_total (fv (fv a)).length (fv (fv b)).length with f|f
 .exact apy h k f
 .have v:=apy k h f;by_cases e:fv (fv b)=fv (fv a)
  .rw[e];exact Anc.refl _
  .have:=aFw (CC (CC n.1)) (CC (CC d.1)) v e;omega
end
def NF (m:bW):b1:=if m.1=1 then m.2.2.1.2 else if m.1=2 then m.2.2.2.1 else if m.1=3 then m.2.2.2.2.1 else b8
def aeD (S:Nm->Int->Prop)(i:Int)(h:Bd)(m:bW):Prop:=Lb S i h (NF m)
structure RI (c:Int×Int) (S:Nm->Int->Prop) (r:ar) (h:Bd):Prop where
 g:Fair c S r.1 h
 s:r.2.2.2.1=Bh h
 d:r.2.2.2.2.2.2.1.1=cc (h.map (·.1)).reverse
 t:∀p∈r.2.2.2.2.2.1,Lb S r.1 h p
 m:∀p∈r.2.2.2.2.2.2.2,aeD S r.1 h p.2
def Up (c:Int×Int)(S:Nm->Int->Prop)(i su:Int)(h:Bd)(r:ar):Prop:=∃a,RI c S r a/\Sub h a/\r.1=i/\r.2.2.2.2.2.2.1.2=su
section
variable {c:Int×Int} {S:Nm->Int->Prop} {i su:Int} {h:Bd} {r:ar}
def RI.up (R:RI c S r h):Up c S r.1 r.2.2.2.2.2.2.1.2 h r:=⟨h,R,Sub.refl h,rfl,rfl⟩
def RI.up' (R:RI c S r h)(a:r.1=i)(b:r.2.2.2.2.2.2.1.2=su):Up c S i su h r:=⟨h,R,Sub.refl h,a,b⟩
def Up.bind {r':ar}(u:Up c S i su h r)(k:∀f,RI c S r f->Sub h f->r.1=i->r.2.2.2.2.2.2.1.2=su->Up c S i su f r'):Up c S i su h r':=by obtain⟨f,a,b,d,e⟩:=u;obtain⟨g,j,l,m,n⟩:=k f a b d e;exact⟨g,j,b.trans l,m,n⟩
def aB7 (q:b1)(a:nmQ q=[]):Lb S i h q:=fun b=>absurd a b
def aFC (q:b1)(b:q.2.2=[]):Lb S i h q:=fun _ m a=>by rw[b]at a;cases a
def apB:Lb S i h b8:=aB7 _ rfl
def RI.same (R:RI c S r h){r':ar}(a:r'.1=r.1)(b:r'.2.2.2.1=r.2.2.2.1)(d:r'.2.2.2.2.2.2.1.1=r.2.2.2.2.2.2.1.1)(e:∀p∈r'.2.2.2.2.2.1,Lb S r.1 h p)(f:∀p∈r'.2.2.2.2.2.2.2,aeD S r.1 h p.2):RI c S r' h :=
 ⟨by rw[a];exact R.g,b.trans R.s,d.trans R.d,by rw[a];exact e,by rw[a];exact f⟩
def aAx:∀{h:Bd},Fair c S i h->Lb S i h (Bh h).2.2.1
 |[],_=>apB|_::_,g=>g.2.hi
def apC (c:Int×Int)(S:Nm->Int->Prop)(i:Int)(h:Bd)(d:ByteArray):Prop:=d.data.toList=[]\/∃n3,asK n3/\Crt c S i h n3/\d.data.toList=fv (fv n3)
def apC.mono {f:Bd}{d:ByteArray}(e:apC c S i h d)(s:Sub h f):apC c S i f d:=e.imp id fun ⟨n,a,b,e⟩=>⟨n,a,b.mono s,e⟩
def avN:∀{h:Bd},Fair c S i h->apC c S i h (Bh h).2.2.2
 |[],_=>.inl rfl|_::_,g=>g.2.dn
def aFD {n:Nm}(h:bd n=true)(hs:K0 (aZ n).1=true):asK n:=by
 unfold K0 at hs;simp only[aA,bR,bg]at hs;obtain⟨t,d,f⟩:=hs;have z:∀l:Nm,0<(aZ l).1.length->l≠[]:=fun l o e=>by subst e;exact absurd o (by decide)
 have g:=z n (by omega);obtain⟨x,ex,u⟩:=ad8 h g;have v:(aZ n).1.length=(aZ (fv n)).1.length+1:=by rw[ex,aG];rfl
 have j:=z (fv n) (by omega);obtain⟨y,a,A⟩:=ad8 (CC h) j;have B:(aZ (fv n)).1.length=(aZ (fv (fv n))).1.length+1:=by rw[a,aG];rfl
 have k:=z (fv (fv n)) (by omega);obtain⟨w,b,C⟩:=ad8 (CC (CC h)) k;have p:(aZ (fv (fv n))).1.length=(aZ (fv (fv (fv n)))).1.length+1:=by rw[b,aG];rfl
 generalize (aZ (fv (fv (fv n)))).1=L at b p;rw[b]at a;rw[a]at ex;have e:(aZ n).1=L++[w,y,x]:=by rw[ex];simp
 have len:(aZ n).1.length=L.length+3:=by rw[e,aG];rfl
 have q:(aZ n).1.getD ((aZ n).1.length-1) (0,[])=x:=by rw[len,e,Em,avR (by omega),show L.length+3-1-L.length=2 by omega];rfl
 have m:(aZ n).1.getD ((aZ n).1.length-2) (0,[])=y:=by rw[len,e,Em,avR (by omega),show L.length+3-2-L.length=1 by omega];rfl
 have s:(aZ n).1.getD ((aZ n).1.length-3) (0,[])=w:=by rw[len,e,Em,avR (by omega),show L.length+3-3-L.length=0 by omega];rfl
 rw[q,m]at d;rw[m,s]at f;have D:=oq (fv n);have E:=oq (fv (fv n));rw[aF (by omega) (by omega)]at d f;exact⟨h,g,j,k,by omega,by omega⟩
def apD (g:Fair c S i h){q:b1}(e:Lb S i h q):(Nw c (Bh h) q).1=(Bh h).1/\(Bh h).2.1<=(Nw c (Bh h) q).2.1/\Lb S i h (Nw c (Bh h) q).2.2.1/\apC c S i h (Nw c (Bh h) q).2.2.2:=by
 unfold Nw;split
 .rename_i a;refine⟨rfl,?_,?_,?_⟩
  .show(Bh h).2.1<=pw _ _;unfold pw;split<;>omega
  .show Lb S i h (Eh q _);unfold Eh;split
   .exact e
   .exact aAx g
  .dsimp only;split
   .rename_i d;have hs:I3 q.2.1=true:=by
     cases f:I3 q.2.1 with
     |true=>rfl
     |false =>
      have b:=d.1;rw[gS,f,af Bool.false_ne_true]at b;cases b
    rw[gS,ag hs];exact .inr ⟨nmQ q,aFD (v8 a.2).2.1 hs,⟨q,a.2,rfl,e⟩,by show(tx (fv (tx (fv (nmQ q))).data.toList)).data.toList=_;rw[e3,e3]⟩
   .exact avN g
 .exact⟨rfl,Lj _,aAx g,avN g⟩
def ayg (g:Fair c S i h){q:b1}(e:Lb S i h q)(j:bh c (Nw c (Bh h) q)=true):avK c S i h (Nw c (Bh h) q) none:=by obtain⟨a,b,d,f⟩:=apD g e;exact⟨j,Int.le_of_eq a.symm,b,fun _ k=>(by cases k),d.mono (Sub.cons _ h),f.mono (Sub.cons _ h)⟩
def ayh (R:RI c S r h)(s:a1)(t:Option Nm)(N:bh c s=true->avK c S r.1 h s t)(hs:ey r.2.2.2.1 s=true->t=none) :
  ∃b,RI c S (fD c r s).1 b/\Sub h b/\(fD c r s).1.1=r.1/\(fD c r s).1.2.2.2.2.2.2.1.2=r.2.2.2.2.2.2.1.2/\((fD c r s).2=true->∀n,t=some n->Tag b n):=by
 unfold fD;by_cases d:ey r.2.2.2.1 s=true
 .rw[ag d];exact⟨h,R,Sub.refl h,rfl,rfl,fun _ n a=>by rw[hs d]at a;cases a⟩
 .rw[af d];by_cases e:bh c s=true/\r.2.2.2.2.2.2.1.1.length+(dv s).length<=100000
  .rw[ag e];refine⟨(s,t)::h,⟨⟨R.g,N e.1⟩,rfl,?_,fun p f=>(R.t p f).mono (Sub.cons _ h),fun p f=>(R.m p f).mono (Sub.cons _ h)⟩,Sub.cons _ h,rfl,rfl,fun _ n a=>⟨s,by rw[a];exact py⟩⟩;show r.2.2.2.2.2.2.1.1++dv s=_;rw[R.d,sG,List.reverse_cons,cc,cc,asY];simp
  .rw[af e];exact⟨h,R,Sub.refl h,rfl,rfl,fun g=>by cases g⟩
def Lc (R:RI c S r h){q:b1}(e:Lb S r.1 h q):Up c S r.1 r.2.2.2.2.2.2.1.2 h (written c r q).1:=by obtain⟨j,a,b,d,f,_⟩:=ayh R (Nw c r.2.2.2.1 q) none (fun g=>by rw[R.s]at g ⊢;exact ayg R.g e g) (fun _=>rfl);exact⟨j,a,b,d,f⟩
def ak5 (R:RI c S r h)(a:Int){m:bW}(b:aeD S r.1 h m):Up c S r.1 r.2.2.2.2.2.2.1.2 h (jN c r a m).1:=by
 unfold jN;split
 .refine(R.same (r':=vy r (a,m)) rfl rfl rfl R.t fun p d=>?_).up;rcases gK.1 d with h1|h1
  .exact R.m p h1
  .rw[fA.1 h1];exact b
 .exact R.up
def WX (R:RI c S r h)(v:Int):RI c S (q4 r v) h:=R.same rfl rfl rfl R.t R.m
def abA (R:RI c S r h)(v:Int):RI c S (gT r v) h:=R.same rfl rfl rfl R.t R.m
def apE (R:RI c S r h)(p:List ej):RI c S (ND r p) h:=R.same rfl rfl rfl R.t R.m
def aiL (R:RI c S r h):RI c S (Bc r) h:=R.same rfl rfl rfl R.t R.m
def QD (R:RI c S r h){t:List b1}(a:∀p∈t,Lb S r.1 h p):RI c S (dZ r t) h:=R.same rfl rfl rfl a R.m
def aFE (R:RI c S r h){q:b1}(e:Lb S r.1 h q):Up c S r.1 r.2.2.2.2.2.2.1.2 h (my c r q).1:=by
 unfold my;split
 .split
  .exact Lc R e
  .split
   .exact(Lc R e).bind fun f b g a d=>(WX b _).up' a d
   .refine(Lc R e).bind fun f b g a d=>?_
    have:=ak5 (WX b (aj (q.1+1))) (bY c (aj (q.1+1))) (m:=jE (aj (q.1+1)) q r.1) (by show Lb S _ f q;rw[show(q4 (written c r q).1 (aj (q.1+1))).1=r.1 from a];exact e.mono g);rw[show(q4 (written c r q).1 (aj (q.1+1))).1=r.1 from a,show(q4 (written c r q).1 (aj (q.1+1))).2.2.2.2.2.2.1.2=r.2.2.2.2.2.2.1.2 from d]at this;exact this
 .exact R.up
def apF {t:List b1}(a:∀p∈t,Lb S i h p)(v:Int)(n:ByteArray):Lb S i h (df t v n):=by
 unfold df;split
 .rename_i x b;exact a x (TW b)
 .exact aFC _ rfl
def XD {a b:ByteArray}(h:(a.toList==b.toList)=true):a.data.toList=b.data.toList:=by have:=Qh a.data.toList b.data.toList;rw[<-Ou,<-Ou]at this;exact k4 (this.symm.trans h)
def apG {p:b1}(d:Lb S i h p):∀{t:List b1},(∀x∈t,Lb S i h x)->∀x∈eQ p t,Lb S i h x
 |[],_,x,a=>by rw[fA.1 a];exact d
 |y::t,b,x,a=>by
  unfold eQ at a;split at a
  .rcases cN.1 a with h1|h1
   .rw[h1];exact b y py
   .exact apG d (fun z j=>b z (jG y j)) x h1
  .split at a
   .rename_i hs;rcases cN.1 a with h1|h1
    .rw[h1];unfold sameAt at hs;simp only[aA]at hs;have f:nmQ y=nmQ p:=XD hs.2;intro g m k;rcases aCU.1 (show m∈adQ y.2.2 p.2.2 from k) with e|e
     .exact b y py g m e
     .have:=d (by rw[<-f];exact g) m e;rw[<-f]at this;exact this
    .exact b x (jG y h1)
   .rcases cN.1 a with h1|h1
    .rw[h1];exact d
    .exact b x h1
def RS {p:b1}(b:Lb S i h p){t:List b1}(a:∀x∈t,Lb S i h x):∀x∈(bs c t p).1,Lb S i h x:=by
 unfold bs;split
 .exact apG b a
 .exact a
def apH (R:RI c S r h)(v:Int)(n:ByteArray)(p:Bool):Up c S r.1 r.2.2.2.2.2.2.1.2 h (ez c r v n p).1:=by
 unfold ez;split
 .exact R.up
 .split
  .split
   .exact aFE R (apF R.t _ _)
   .exact R.up
  .split
   .exact R.up
   .exact ak5 R _ (apF R.t _ _)
end
section
variable {c:Int×Int} {S:Nm->Int->Prop} {i su:Int} {h:Bd} {r:ar}
def aHh (v:Int)(n:ByteArray)(a:Tag h n.data.toList):Lb S i h (one v n i):=fun _ m b=>.inr ⟨fA.1 b,a⟩
def ayi (v cu:Int):Lb S i h (one v ak cu):=aB7 _ rfl
def aIz (R:RI c S r h)(n:ByteArray)(a:Tag h n.data.toList):Up c S r.1 r.2.2.2.2.2.2.1.2 h (own c r n).1:=by
 unfold own;split
 .exact apH (QD R (RS (aHh _ n a) R.t)) _ _ _
 .exact R.up
def aDv (g:Fair c S i h){b:ca}(e:Lb S i h b.2)(a:fz c (Nw c (Bh h) b.2) b=true)(m:bh c (mz b,(Nw c (Bh h) b.2).2)=true) :
  avK c S i h (mz b,(Nw c (Bh h) b.2).2) (some b.1.data.toList):=by
 obtain⟨z,o,p,q⟩:=apD (c:=c) g e;unfold fz at a;simp only[aA,bR]at a;obtain⟨m1,m2,m3,m4⟩:=a;unfold fj at m2;simp only[aA,Yc]at m2;obtain⟨d,s,j,t⟩:=m2;have f:fv b.1.data.toList=nmQ b.2:=by have:=XD t;rw[e3]at this;exact this
 have u:b.1.data.toList≠[]:=fun v=>by rw[(q3 b.1).2 v]at j;cases j
 have hs:bh c (Bh h)=true:=by
  cases k:bh c (Bh h) with
  |true=>rfl
  |false =>
   unfold Nw at m1;rw[af (fun l=>by rw[k]at l;cases l.1),k]at m1;exact m1
 have x:aD (fv (nmQ b.2))<=(Nw c (Bh h) b.2).2.1:=by unfold Nw;rw[ag ⟨hs,d⟩];show _<=pw _ (aD (fv (nmQ b.2)));unfold pw;split<;>omega
 have A:=(v8 d).2.2.1;refine⟨m,?_,o,fun n y=>?_,p.mono (Sub.cons _ h),q.mono (Sub.cons _ h)⟩
 .show(Bh h).1<=aD b.1.data.toList;omega
 .cases y;refine⟨s,u,rfl,?_,?_,?_,?_⟩
  .omega
  .rw[f];exact x
  .rw[f];show(Nw c (Bh h) b.2).2.1<=aD b.2.2.1.data.toList;omega
  .rw[f];exact⟨b.2,d,rfl,e⟩
def aFF (R:RI c S r h)(b:ca):RI c S (gH r b) h/\(gH r b).1=r.1/\(gH r b).2.2.2.2.2.2.1.2=r.2.2.2.2.2.2.1.2/\(gH r b).2.2.2.1=r.2.2.2.1:=by
 unfold gH;split
 .exact⟨abA R _,rfl,rfl,rfl⟩
 .exact⟨R,rfl,rfl,rfl⟩
def aeE (R:RI c S r h){b:ca}(e:Lb S r.1 h b.2):Up c S r.1 r.2.2.2.2.2.2.1.2 h (dV c r b).1:=by
 obtain⟨n,k,o,p⟩:=aFF R b;have q:=ayh n (ny c r b) (if gU c r b=true then some b.1.data.toList else none) (fun f=>?_) (fun l=>?_)
 .unfold dV Ba;obtain⟨s,a,m,f1,f2,f3⟩:=q;rw[k]at f1;rw[o]at f2;split
  .rename_i t;split
   .rename_i d;split
    .have u:=f3 t b.1.data.toList (by rw[ag d]);obtain⟨j,v,x,y,z⟩:=aIz a b.1 u;exact⟨j,v,m.trans x,y.trans f1,z.trans f2⟩
    .exact R.up
   .exact⟨s,a,m,f1,f2⟩
  .exact R.up
 .rw[k];have hs:r.2.2.2.1=Bh h:=R.s;unfold ny at f ⊢;by_cases d:gU c r b=true
  .rw[ag d]at f ⊢;rw[ag d];have g:fz c (Nw c r.2.2.2.1 b.2) b=true:=by unfold gU at d;exact(aA _ _▸d:_/\_).2
   rw[hs]at f g ⊢;exact aDv R.g e g f
  .rw[af d]at f ⊢;rw[af d];rw[hs]at f ⊢;exact ayg R.g e f
 .by_cases d:gU c r b=true
  .exfalso;rw[p]at l;have:=axo l;unfold ny at this;rw[ag d]at this;have g:fz c (Nw c r.2.2.2.1 b.2) b=true:=by unfold gU at d;exact(aA _ _▸d:_/\_).2
   unfold fz at g;simp only[aA,bR]at g;have B:=g.2.2.1;have j:=(apD (c:=c) R.g e).1;rw[<-R.s]at j;have A:=oF Prod.fst this;have C:r.2.2.2.1.1=aD b.1.data.toList:=A;omega
  .rw[af d]
def ayj (R:RI c S r h){p:b1}(e:Lb S r.1 h p):Up c S r.1 r.2.2.2.2.2.2.1.2 h (fE c r p).1:=by
 unfold fE;split
 .exact apH (QD R (RS e R.t)) _ _ _
 .exact R.up
def ayk (R:RI c S r h)(l:Bool)(v:Int)(q:b1)(a:r.1=i)(b:r.2.2.2.2.2.2.1.2=su):Up c S i su h (Fl l r v q):=by
 unfold Fl;split
 .exact(WX (WX R _) _).up' a b
 .exact(WX R _).up' a b
def ayl (R:RI c S r h)(imp:Bool)(v:Int){q:b1}(cu:Int)(e:Lb S r.1 h q):Up c S r.1 r.2.2.2.2.2.2.1.2 h (fF imp c r v q cu).1:=by
 unfold fF;split
 .unfold oD;split
  .split
   .exact(Lc R e).bind fun f a g b d=>ayk (QD a (RS (ayi _ _) a.t)) _ _ _ b d
   .exact R.up
  .exact(Lc R e).bind fun f a g b d=>ayk a _ _ _ b d
 .exact R.up
def aFG (R:RI c S r h)(imp:Bool){m:bW}(e:aeD S r.1 h m):Up c S r.1 r.2.2.2.2.2.2.1.2 h (q5 imp c r m).1:=by
 unfold aeD NF at e;unfold q5;split
 .rename_i a;rw[ag a]at e;exact aeE R e
 .rename_i a;rw[af a]at e;split
  .rename_i b;rw[ag b]at e;exact ayj R e
  .rename_i b;rw[af b]at e;split
   .rename_i d;rw[ag d]at e;exact ayl R imp _ _ e
   .exact(apE R _).up
def aB8 (R:RI c S r h)(imp:Bool){m:bW}(e:aeD S r.1 h m):Up c S r.1 r.2.2.2.2.2.2.1.2 h (CG imp c r m).1:=by
 unfold CG;split
 .exact(aFG R imp e).bind fun g a j b d=>(apE (QD a fun p f=>a.t p (List.mem_filter.1 f).1) _).up' b d
 .exact R.up
def aHU (R:RI c S r h):Lb S r.1 h r.2.2.2.1.2.2.1:=by rw[R.s];exact aAx R.g
def aFH (R:RI c S r h):Up c S r.1 r.2.2.2.2.2.2.1.2 h (wV c r).1:=by
 unfold wV;split
 .exact R.up
 .split
  .split
   .exact(QD (abA R (aj (r.2.1+1))) (RS (ayi _ _) R.t)).up' rfl rfl
   .exact R.up
  .split
   .have a:Lb S r.1 h r.2.2.2.1.2.2.1:=aHU R;exact ak5 (abA R (aj (r.2.1+1))) _ (m:=jE _ r.2.2.2.1.2.2.1 r.1) a
   .exact R.up
def ag8 (R:RI c S r h){m:bW}(e:aeD S r.1 h m):∀(j k:Nat) {o:ar},Up c S r.1 r.2.2.2.2.2.2.1.2 h o->Up c S r.1 r.2.2.2.2.2.2.1.2 h (nx c r m j k o).1
 |0,_,o,a=>a|j+1,k,o,a=>by
  unfold nx;split
  .exact ag8 R e j (k+1) a
  .split
   .refine ag8 R e j (k+1) (a.bind fun l d f b g=>?_);have:=ak5 (c:=c) d (k:Int) (m:=m) (by rw[b];exact Lb.mono e f);rw[b,g]at this;exact this
   .exact R.up
def aB9 (R:RI c S r h):Lb S r.1 h (ask c r).1.2:=by
 unfold ask;split
 .unfold ib;split
  .exact aHU R
  .exact apB
 .exact apB
def aHi (R:RI c S r h):Up c S r.1 r.2.2.2.2.2.2.1.2 h (Ob c r).1:=by
 unfold Ob;split
 .split
  .have d:Up c S r.1 r.2.2.2.2.2.2.1.2 h (aey c r).1:=ag8 (aiL R) (m:=aem (ask c r).1) (aB9 R) _ _ (aiL R).up;refine d.bind fun j e f a g=>?_
   have:=aeE (c:=c) e (b:=(ask c r).1) (by rw[a];exact(aB9 R).mono f);rw[a,g]at this;exact this
  .exact R.up
 .exact R.up
def asN (R:RI c S r h):∀k,Up c S r.1 r.2.2.2.2.2.2.1.2 h (ml c r k).1
 |0=>R.up|k+1=>by
  unfold ml;split
  .exact asN R k
  .split
   .exact apH R _ _ _
   .exact R.up
def aHj (R:RI c S r h)(imp:Bool)(m:bW):Up c S r.1 r.2.2.2.2.2.2.1.2 h (akH imp c r m).1:=by
 unfold akH;split
 .rename_i a;refine aB8 R imp ?_;unfold aeD NF;rw[af (by omega),af (by omega),af (by omega)];exact apB
 .exact R.up
def apI (a b:List a1):cc (a++b)=cc a++cc b:=by simp[cc]
def aCa:∀{h:Bd},Fair c S i h->∀x∈h,bh c x.1=true
 |[],_,x,a=>by cases a
 |y::h,g,x,a=>by
  rcases cN.1 a with h1|h1
  .rw[h1];exact g.2.ok
  .exact aCa g.1 x h1
def aDw (h:Bd):(h.map (·.1)).reverse.getLastD jD=Bh h:=by
 cases h with
 |nil=>rfl|cons x h=>simp[Bh]
def aHk (R:RI c S r h){d:pr}{k:Nat}(v:d.1=r.2.2.2.2.2.2.1.1.take k) :
  ∃m,RI c S (avi c (Ek r d)) m/\Sub m h/\(∀a,Sub a h->(cc (a.map (·.1)).reverse).length<=k->Sub a m)/\(avi c (Ek r d)).1=r.1/\(avi c (Ek r d)).2.2.2.2.2.2.1.2=((cc (m.map (·.1)).reverse).length:Int):=by
 have n:∀x∈(h.map (·.1)).reverse,bh c x=true:=fun x j=>by obtain⟨y,z,rfl⟩:=Ep.1 (List.mem_reverse.1 j);exact aCa R.g y z
 obtain⟨b,t,A,B,e,P,C⟩:=abi k n;have hlen:(h.map (·.1)).reverse.length=h.length:=by simp
 have o:(h.map (·.1)).reverse.take b=((h.drop (h.length-b)).map (·.1)).reverse:=by rw[List.take_reverse,List.map_drop];simp
 have D:Sub (h.drop (h.length-b)) h:=⟨h.take (h.length-b),(Yb _ _).symm⟩;have E:Fair c S r.1 (h.drop (h.length-b)):=by have:=R.g;rw[<-Yb (h.length-b) h]at this;exact this.sub
 have q:=KZ B (l:=(h.map (·.1)).reverse.take b) (fun x j=>n x (TY j));have s:(Ek r d).2.2.2.2.2.2.1.1=cc ((h.map (·.1)).reverse.take b)++t:=by show d.1=_;rw[v,R.d,e]
 refine⟨h.drop (h.length-b),⟨E,?_,?_,fun p f=>absurd f Z2,fun p f=>absurd f Z2⟩,D,fun a F G=>?_,rfl,?_⟩
 .show(dL c (Ek r d).2.2.2.2.2.2.1.1).1=_;rw[s,q,o];exact aDw _
 .show(Ek r d).2.2.2.2.2.2.1.1.take (dL c (Ek r d).2.2.2.2.2.2.1.1).2=_;rw[s,q,<-o];exact Z3
 .obtain⟨p,f⟩:=F;have u:a.length<=h.length:=by rw[f,aG];omega
  have I:(h.map (·.1)).reverse.take a.length=(a.map (·.1)).reverse:=by rw[f,ahg,List.reverse_append];exact ali (by simp)
  have g:=C a.length (by rw[hlen];exact u) (by rw[I];exact G);have Q:a.length<=b:=by
   rcases g with g|g
   .exact g
   .rcases Lh b a.length with hlt|K
    .exfalso;have L:(h.map (·.1)).reverse.take a.length=(h.map (·.1)).reverse.take b++((h.map (·.1)).reverse.take a.length).drop b:=by have:=Yb b ((h.map (·.1)).reverse.take a.length);rw[List.take_take,ahi (by omega)]at this;exact this.symm
     rw[L,apI]at g;have M:=oF List.length g;rw[aG]at M;have N:=abh (c:=c) (l:=((h.map (·.1)).reverse.take a.length).drop b) fun x j=>n x (TY (asX j))
     rw[bc,bC,hlen]at N;omega
    .exact K
  refine⟨(h.drop (h.length-b)).take ((h.drop (h.length-b)).length-a.length),?_⟩;have O:a=(h.drop (h.length-b)).drop ((h.drop (h.length-b)).length-a.length):=by rw[alj,bc,f,aG];rw[show p.length+a.length-b+(p.length+a.length-(p.length+a.length-b)-a.length)=p.length by rw[f,aG]at u;rw[hlen,f,aG]at A;omega];exact alk.symm
  conv=>rhs;rhs;rw[O]
  exact(Yb _ _).symm
 .show((dL c (Ek r d).2.2.2.2.2.2.1.1).2:Int)=_;rw[s,q,o]
end
def Sd (w:ah):Nm->Int->Prop:=fun n m=>m∈w.2.1\/∃x∈w.2.2.2.2,x.2.1.data.toList=n/\x.2.2=m
def szG (h:Bd):Nat:=(cc (h.map (·.1)).reverse).length
structure WI (w:ah) (hs:Nat->Bd):Prop where
 r:∀(k:Nat) (hk:k<w.2.2.1.length),RI w.1 (Sd w) w.2.2.1[k] (hs k)
 s:∀x∈w.2.2.2.2,∃(k:Nat) (hk:k<w.2.2.1.length),x.2.2=(k:Int)/\∃h1,Sub h1 (hs k)/\Tag h1 x.2.1.data.toList/\(szG h1:Int)<=(w.2.2.1[k]).2.2.2.2.2.2.1.2
 n:∀x∈w.2.2.2.1,aeD (Sd w) (-1) [] (mv w.1 x.2).1
def apJ (l:List Int):∀k,∀x∈nZ l k,x ∉ l
 |0,x,h=>by cases h
 |k+1,x,h=>by
  unfold nZ at h;rcases gK.1 h with h1|h1
  .exact apJ l k x h1
  .split at h1
   .cases h1
   .rename_i a;rw[fA.1 h1];exact a
def aCb {c:Int×Int}{S:Nm->Int->Prop}{i:Int}{a h:Bd}(s:Sub a h):szG a<=szG h:=by obtain⟨p,rfl⟩:=s;unfold szG;rw[ahg,List.reverse_append,apI,aG];omega
def aHl {S:Nm->Int->Prop}{i:Int}{h:Bd}{q:b1}(e:Lb S (-1) [] q):Lb S i h q:=fun a m b=>.inl (by
 rcases e a m b with d|⟨_,x,f⟩
 .exact d
 .cases f)
def RI.said {c:Int×Int}{S S':Nm->Int->Prop}{r:ar}{h:Bd}(a:∀n m,S n m->S' n m)(R:RI c S r h):RI c S' r h:=⟨R.g.said a,R.s,R.d,fun p b=>(R.t p b).said a,fun p b=>Lb.said a (R.m p b)⟩
section
variable {w:ah} {hs:Nat->Bd}
def WI.set (W:WI w hs){k:Nat}(p:k<w.2.2.1.length){r':ar}{f:Bd}(R:RI w.1 (Sd w) r' f)
  (l:∀b,Sub b (hs k)->(szG b:Int)<=(w.2.2.1[k]).2.2.2.2.2.2.1.2->Sub b f/\(szG b:Int)<=r'.2.2.2.2.2.2.1.2) :
  WI (eR w (k:Int) r') (fun a=>if a=k then f else hs a):=by
 have hlen:(eR w (k:Int) r').2.2.1=w.2.2.1.set k r':=rfl;refine⟨fun a d=>?_,fun x m=>?_,W.n⟩
 .by_cases e:a=k
  .subst e;have:(eR w (a:Int) r').2.2.1[a]=r':=by simp[hlen]
   rw[this,ag rfl];exact R
  .have n:a<w.2.2.1.length:=by rw[hlen,Eo]at d;exact d
   have:(eR w (k:Int) r').2.2.1[a]=w.2.2.1[a]:=by simp only[hlen];exact List.getElem_set_ne (fun h=>e h.symm) _
   rw[this,af e];exact W.r a n
 .obtain⟨a,d,o,b,g,t1,j⟩:=W.s x m;refine⟨a,by rw[hlen,Eo];exact d,o,b,?_,t1,?_⟩
  .by_cases e:a=k
   .subst e;rw[ag rfl];exact(l b g j).1
   .rw[af e];exact g
  .by_cases e:a=k
   .subst e;have:(eR w (a:Int) r').2.2.1[a]'(by rw[hlen,Eo];exact d)=r':=by simp[hlen]
    rw[this];exact(l b g j).2
   .have:(eR w (k:Int) r').2.2.1[a]'(by rw[hlen,Eo];exact d)=w.2.2.1[a]:=by simp only[hlen];exact List.getElem_set_ne (fun h=>e h.symm) _
    rw[this];exact j
def WI.up (W:WI w hs){k:Nat}(a:k<w.2.2.1.length){r':ar}(u:Up w.1 (Sd w) (w.2.2.1[k]).1 (w.2.2.1[k]).2.2.2.2.2.2.1.2 (hs k) r'):∃b,WI (eR w (k:Int) r') b:=by obtain⟨j,d,s,_,e⟩:=u;exact⟨_,W.set a d fun l f g=>⟨f.trans s,by rw[e];exact g⟩⟩
def apK {a:Int}{k:Nat}(e:a=(k:Int))(b:k<w.2.2.1.length):bU w a=w.2.2.1[k]:=by subst e;unfold bU;rw[gJ];exact aV b _
def WI.net (W:WI w hs){a:List kV}(b:∀x∈a,aeD (Sd w) (-1) [] (mv w.1 x.2).1):WI (WT w a) hs:=⟨W.r,W.s,b⟩
def aHm (G:aK w)(W:WI w hs){k:Nat}(a:k<w.2.2.1.length)(imp:Bool){d:cC}(e:d.2.1=(k:Int)):∃l,WI (ag4 imp w d).1 l:=by
 have b:=W.r k a;unfold ag4;rw[apK e a,e];dsimp only;unfold RP;split
 .exact W.up a (aHi b)
 .split
  .exact W.up a (asN b _)
  .split
   .split
    .exact W.up a (aFH b)
    .exact W.up a b.up
   .split
    .have f:=(G.g _ (b2 a)).f.d;have s:=aeh f d.2.2.1;have t:=c8.1 f;have m:(gG (w.2.2.1[k]).2.2.2.2.2.2.1 d.2.2.1).1=(w.2.2.1[k]).2.2.2.2.2.2.1.1.take (Hc (w.2.2.1[k]).2.2.2.2.2.2.1 d.2.2.1).toNat:=by unfold gG;rw[ag f]
     obtain⟨u,n,v,o,_,p⟩:=aHk b m;refine⟨_,W.set a n fun g q x=>?_⟩;have j:=o g q (by show szG g<=_;omega);refine⟨j,?_⟩;show(szG g:Int)<=(avi w.1 (Ek (w.2.2.1[k]) (gG (w.2.2.1[k]).2.2.2.2.2.2.1 d.2.2.1))).2.2.2.2.2.2.1.2;rw[p];have:=aCb (c:=w.1) (S:=Sd w) (i:=0) j;unfold szG at this ⊢;omega
    .exact W.up a (aHj b imp _)
def aFJ (W:WI w hs){a:Int}(m:0<=a)(n:a<w.2.2.2.1.length):∃g,WI (Z1 true w a) g:=by
 have b:cE w a∈w.2.2.2.1:=by unfold cE;rw[aV (show a.toNat<w.2.2.2.1.length by omega)];exact b2 _
 have d:WI (Hd w a) hs:=W.net fun x b=>W.n x (abx b)
 unfold Z1;split
 .rename_i j;have l:=fm j;obtain⟨k,e,f⟩:∃k:Nat,(cE w a).1=(k:Int)/\k<w.2.2.1.length:=⟨(cE w a).1.toNat,(Oe l.1).symm,by omega⟩;unfold WU;rw[apK e f,e];exact d.up (k:=k) f (aB8 (d.r _ f) true (aHl (W.n _ b)))
 .exact⟨hs,d⟩
def abB {q:b1}(h:IH w.2.1 w.2.2.2.2 q=true):Lb (Sd w) (-1) [] q:=fun e m b=>.inl (by
 have:=fq.1 h m b;unfold Qy at this;rcases(iS _ _).mp this with h1|h1
 .exact .inl (k4 h1)
 .obtain⟨x,d,a⟩:=alg.1 h1;unfold isSaid at a;simp only[aA]at a;exact .inr ⟨x,d,XD a.2.1,eq_of_beq a.2.2⟩)
def aHn {m:bW}(h:Ge w.1 w.2.1 w.2.2.2.2 m=true):cV w.1 m=true/\aeD (Sd w) (-1) [] m:=by
 unfold Ge at h;simp only[aA]at h;refine⟨h.1,?_⟩;have a:=h.2;unfold aeD NF;split
 .rename_i b;rw[ag b]at a;exact abB ((aA _ _).mp a).2
 .rename_i b;rw[af b]at a;split
  .rename_i d;rw[ag d]at a;exact abB a
  .rename_i d;rw[af d]at a;split
   .rename_i e;rw[ag e]at a;exact abB ((aA _ _).mp a).2
   .exact apB
def aCc (W:WI w hs){d:cC}(f:He d=true->0<=d.2.1/\d.2.1<w.2.2.2.1.length):∃g,WI (aez w d).1 g:=by
 unfold aez;split
 .rename_i j;obtain⟨a,b⟩:=f (fp.2 (.inl j));exact aFJ W a b
 .split
  .exact⟨hs,W.net fun x e=>W.n x (abx e)⟩
  .split
   .rename_i k;obtain⟨a,b⟩:=f (fp.2 (.inr (.inr k)));refine⟨hs,W.net fun x e=>?_⟩;rcases gK.1 e with h1|h1
    .exact W.n x h1
    .rw[fA.1 h1];refine W.n _ ?_;unfold cE;rw[aV (show d.2.1.toNat<w.2.2.2.1.length by omega)];exact b2 _
   .split
    .rename_i l;obtain⟨m,n⟩:=aHn l;refine⟨hs,W.net fun x e=>?_⟩;rcases gK.1 e with h1|h1
     .exact W.n x h1
     .rw[fA.1 h1];show aeD _ _ _ (mv w.1 (CD d.2.2.2)).1;rw[agR m];exact n
    .exact⟨hs,W⟩
end
def aym {l:List cv}{x:cv}(h:x∈l)(y:cv):x∈s4 l y:=by
 unfold s4;split
 .exact List.mem_append_left _ h
 .exact h
def abC {U V:Type}{f:List U->V->List U}(a:∀l y x,x∈l->x∈f l y):∀(ys:List V) {l:List U} {x:U},x∈l->x∈ys.foldl f l
 |[],_,_,h=>h|y::ys,l,x,h=>abC a ys (a l y x h)
def avO (id:Int)(ps:List gQ){l:List cv}{x:cv}(h:x∈l):x∈RN id ps l :=
 abC (fun l p x h=>abC (fun l y x h=>aym h y) _ h) ps h
def aiM {c:Int×Int}:∀{ps:List gQ} {l:List kV} {x:kV},x∈apj c ps l->x∈l\/∃p∈ps,cV c p.2=true/\x=(p.1,CD p.2)
 |[],_,_,h=>.inl h|p::ps,l,x,h=>by
  rcases aiM (ps:=ps) (l:=Z0 c l p) h with a|⟨q,d,e⟩
  .unfold Z0 at a;split at a
   .rename_i f;rcases gK.1 a with b|b
    .exact .inl b
    .exact .inr ⟨p,py,f.2.1,fA.1 b⟩
   .exact .inl a
  .exact .inr ⟨q,jG p d,e⟩
def apL {id:Int}{q:b1}{x:cv}:x∈TH id q↔x=(q.1,q.2.1,id)/\nmQ q≠[]/\id∈q.2.2:=by
 unfold TH;by_cases a:dd q.2.1=true
 .rw[ag a];have:=(q3 q.2.1).1 a;exact⟨fun h=>(by cases h),fun h=>absurd this h.2.1⟩
 .rw[af a];have d:nmQ q≠[]:=fun e=>a ((q3 q.2.1).2 e)
  by_cases b:id∈q.2.2
  .rw[ag b,fA];exact⟨fun h=>⟨h,d,b⟩,fun h=>h.1⟩
  .rw[af b];exact⟨fun h=>(by cases h),fun h=>absurd h.2.2 b⟩
def asO {c:Int×Int}{id:Int}{m:bW}(a:cV c m=true){x:cv}:x∈cD id m↔x=((NF m).1,(NF m).2.1,id)/\nmQ (NF m)≠[]/\id∈(NF m).2.2:=by
 unfold cD NF;rcases abj a with ⟨h,_⟩|h|⟨h,_⟩|h
 .rw[af (by omega),af (by omega),ag h,ag h];exact apL
 .rw[af (by omega),ag h,af (by omega),ag h];exact apL
 .rw[af (by omega),af (by omega),af (by omega),af (by omega),af (by omega),ag h];exact apL
 .rw[ag h,af (by omega),af (by omega),af (by omega)];exact⟨fun h=>(by cases h),fun h=>absurd rfl h.2.1⟩
section
variable {w:ah} {hs:Nat->Bd}
def aFK (G:aK w)(W:WI w hs){a:Int}{k:Nat}(l:k<w.2.2.1.length)(e:a=(k:Int))(F:a∈aM w):∃Y,WI (QA w a).1 Y:=by
 have I:=apK (w:=w) e l;have Z:a ∉ w.2.1:=apJ _ _ a F;have o:mj w a (a6 w a)=(w.1,w.2.1,w.2.2.1,w.2.2.2.1,RN a (a6 w a) w.2.2.2.2):=ag F;have A:a6 w a=(w.2.2.1[k]).2.2.2.2.2.2.2:=by unfold a6;rw[I]
 have B:=W.r k l;have K:=G.g _ (b2 l);have hid:(w.2.2.1[k]).1=(k:Int):=G.id k l;unfold QA;split
 .rename_i L;split
  .rw[o]at L;have u:∀n m,Sd w n m->Sd (Bb (kW w a) (a6 w a)) n m:=by
    intro n m h;unfold kW;rw[o];rcases h with h|⟨x,d,h⟩
    .exact .inl h
    .exact .inr ⟨x,avO a _ d,h⟩
   have C:(Bb (kW w a) (a6 w a)).2.2.1=w.2.2.1.set k (NC w.2.2.1[k]):=by unfold kW;rw[o,I,e];rfl
   have M:(Bb (kW w a) (a6 w a)).2.2.2.2=RN a (a6 w a) w.2.2.2.2:=by unfold kW;rw[o];rfl
   have qa:(Bb (kW w a) (a6 w a)).2.2.2.1=apj w.1 (a6 w a) w.2.2.2.1:=by unfold kW;rw[o];rfl
   have N:(Bb (kW w a) (a6 w a)).1=w.1:=by unfold kW;rw[o];rfl
   have O:((NC w.2.2.1[k]).2.2.2.2.2.2.1.2:Int)=(szG (hs k):Int):=by show(kH _).2=_;unfold kH szG;rw[ag K.f.d,<-B.d]
   have qb:∀p∈a6 w a,nmQ (NF p.2)≠[]->a∈(NF p.2).2.2->Tag (hs k) (nmQ (NF p.2)):=by
    intro p f q s;rw[A]at f;rcases B.m p f q a s with (h1|⟨x,d,P,Q⟩)|h1
    .exact absurd h1 Z
    .obtain⟨b,g,t,h1,v,t1,_⟩:=W.s x d;have:b=k:=by omega
     subst this;rw[<-P];exact t1.mono v
    .exact h1.2
   have D:∀(b:Nat) (g:b<(Bb (kW w a) (a6 w a)).2.2.1.length),(b=k/\(Bb (kW w a) (a6 w a)).2.2.1[b]=NC w.2.2.1[k])\/(b≠k/\∃E:b<w.2.2.1.length,(Bb (kW w a) (a6 w a)).2.2.1[b]=w.2.2.1[b]):=by
    intro b g;simp only[C]at g ⊢;rw[Eo]at g;by_cases t:b=k
    .subst t;exact .inl ⟨rfl,by simp⟩
    .exact .inr ⟨t,g,List.getElem_set_ne (fun h=>t h.symm) _⟩
   refine⟨hs,⟨fun b g=>?_,fun x d=>?_,fun x d=>?_⟩⟩
   .rw[N];rcases D b g with ⟨rfl,j⟩|⟨_,E,j⟩
    .rw[j];refine((W.r b l).said u).same rfl rfl (apv _) ((W.r b l).said u).t fun p f=>absurd f Z2
    .rw[j];exact(W.r b E).said u
   .rw[M]at d;have R:k<(Bb (kW w a) (a6 w a)).2.2.1.length:=by rw[C,Eo];exact l
    rcases WS d with d|⟨p,f,d⟩
    .obtain⟨b,g,t,h1,v,t1,qd⟩:=W.s x d;have T:b<(Bb (kW w a) (a6 w a)).2.2.1.length:=by rw[C,Eo];exact g
     refine⟨b,T,t,h1,v,t1,?_⟩;rcases D b T with ⟨rfl,j⟩|⟨_,E,j⟩
     .rw[j,O];have:=aCb (c:=w.1) (S:=Sd w) (i:=0) v;omega
     .rw[j];exact qd
    .have y:cV w.1 p.2=true:=by rw[A]at f;exact K.avC p f
     obtain⟨rfl,q,s⟩:=(asO y).1 d;refine⟨k,R,e,hs k,Sub.refl _,qb p f q s,?_⟩;rcases D k R with ⟨_,j⟩|⟨qe,_⟩
     .rw[j,O];exact Lj _
     .exact absurd rfl qe
   .rw[N];rw[qa]at d;rcases aiM d with d|⟨p,f,y,rfl⟩
    .exact Lb.said u (W.n x d)
    .show aeD _ _ _ (mv w.1 (CD p.2)).1;rw[agR y];intro q m s;have X:=f;rw[A]at X;rcases B.m p X q m s with h1|⟨h1,P⟩
     .exact .inl (u _ _ h1)
     .refine .inl (.inr ?_);rw[M];have qf:m=a:=by omega
      subst qf;have Q:((NF p.2).1,(NF p.2).2.1,m)∈cD m p.2:=(asO y).2 ⟨rfl,q,s⟩;have qg:=fq.1 (fq.1 L p f) _ Q;obtain⟨x,d,z⟩:=alg.1 qg;unfold isSaid at z;simp only[aA]at z;exact⟨x,d,XD z.2.1,eq_of_beq z.2.2⟩
  .exact⟨hs,W⟩
 .exact⟨hs,W⟩
def aFL (h:aK w)(W:WI w hs)(d:cC):∃g,WI (kX w d) g:=by
 unfold kX;split
 .rename_i e;unfold doI at e ⊢;cases m:eF 1 10 d.1 with
  |false=>rw[m,af (by decide)]at e;exact absurd (show(1:Int)=0 from e) (by decide)
  |true =>
   rw[m,ag rfl]at e;rw[ag rfl];cases b:Oc w d with
   |false=>rw[b,af (by decide)]at e;exact absurd (show(2:Int)=0 from e) (by decide)
   |true =>
    rw[b,ag rfl]at e;rw[ag rfl];have p:∃g,WI (aby w d).1 g:=by
     unfold aby
     by_cases n:d.1=2
     .have a:d.2.1∈aM w:=by rw[CI (fun a=>by have:=fp.1 a;omega) (by omega)]at b;exact k4 b
      obtain⟨j,q⟩:=fm a;rw[ag n];exact aFK h W (k:=d.2.1.toNat) (by omega) (Oe j).symm a
     .rw[af n];by_cases f:He d=true
      .have s:eF 0 (aj ((w.2.2.2.1.length:Int)-1)) d.2.1=true:=by rw[I6 f]at b;exact b
       rw[ag (.inl f)];exact aCc W fun _=>QB h s
      .by_cases l:d.1=10
       .rw[ag (.inr l)];exact aCc W fun a=>absurd a f
       .have a:d.2.1∈aM w:=by rw[CI f l]at b;exact k4 b
        obtain⟨j,q⟩:=fm a;rw[af (fun a=>a.elim f l)];exact aHm h W (k:=d.2.1.toNat) (by omega) true (Oe j).symm
    unfold apq;by_cases o:(aby w d).2=0
    .rw[ag o];split
     .exact p
     .exact⟨hs,W⟩
    .rw[af o];exact⟨hs,W⟩
 .exact⟨hs,W⟩
end
def aCd (c:Int×Int)(liars:List Int):WI (RQ c liars) fun _=>[]:=by
 refine⟨fun k d=>?_,fun x a=>(by cases a),fun x a=>(by cases a)⟩;have:(RQ c liars).2.2.1[k]=Gf (k:Int):=by simp[RQ]
 rw[this];exact⟨trivial,rfl,rfl,fun p b=>(by cases b),fun p b=>(by cases b)⟩
def RT (w:ah)(hs:Nat->Bd)(i:Int):Bd:=if 0<=i/\i<w.2.2.1.length then hs i.toNat else []
def WI.aIA {w:ah}{hs:Nat->Bd}(G:aK w)(W:WI w hs):aFz w.1 w.2.1 (Sd w) (RT w hs):=by
 refine⟨G.c,G.lf,fun n m h=>?_,fun i=>?_⟩
 .rcases h with h|⟨x,b,d,e⟩
  .exact .inl h
  .obtain⟨k,a,f,l,g,t3,_⟩:=W.s x b;refine .inr ?_;subst d;rw[<-e,f];unfold RT;rw[ag ⟨by omega,by omega⟩];exact t3.mono g
 .unfold RT;split
  .rename_i j;have a:i.toNat<w.2.2.1.length:=by omega
   have:=(W.r i.toNat a).g;rw[G.id i.toNat a,Oe j.1]at this;exact this
  .exact trivial
def WI.at {w:ah}{hs:Nat->Bd}(G:aK w)(W:WI w hs){k:Nat}(a:k<w.2.2.1.length):RT w hs (k:Int)=hs k:=by unfold RT;rw[ag ⟨by omega,by omega⟩];rfl
def WI.meet {w:ah}{hs:Nat->Bd}(G:aK w)(W:WI w hs){j k:Nat}(d:j<w.2.2.1.length)(e:k<w.2.2.1.length) :
  Anc (w.2.2.1[j]).2.2.2.1.2.2.2.data.toList (w.2.2.1[k]).2.2.2.1.2.2.2.data.toList\/Anc (w.2.2.1[k]).2.2.2.1.2.2.2.data.toList (w.2.2.1[j]).2.2.2.1.2.2.2.data.toList:=by
 have H:=W.aIA G;have f:=W.r j d;have g:=W.r k e;have y:=(cB (f.s▸(G.g _ (b2 d)).f.s)).2.2.2;have z:=(cB (g.s▸(G.g _ (b2 e)).f.s)).2.2.2;have root:∀n:Nm,bd n=true->Anc [] n:=fun n m=>by
  generalize A:n.length=l
  induction l using Nat.strongRecOn generalizing n with
  |_ l B =>
   by_cases s:n=[]
   .exact .inl s
   .exact(B _ (by rw[<-A];exact aES m s) (fv n) (CC m) rfl).trans (WW m)
 rw[f.s,g.s];rcases avN f.g with C|⟨a,t,o,D⟩
 .rw[C];exact .inl (root _ z)
 .rcases avN g.g with E|⟨b,u,p,F⟩
  .rw[E];exact .inr (root _ y)
  .rw[D,F];have I:=G.id j d;have K:=G.id k e;rw[I]at o;rw[K]at p;have v:Sub (hs j) (RT w hs (j:Int)):=by rw[W.at G d];exact Sub.refl _
   have x:Sub (hs k) (RT w hs (k:Int)):=by rw[W.at G e];exact Sub.refl _
   rcases Int.le_total (aD (fv (fv a))) (aD (fv (fv b))) with q|q
   .exact .inl (asM H v x o p t u q)
   .exact .inr (asM H x v p o u t q)
structure aKk (l:mf) (x:ej):Prop where
 lo:Qm l=true
 xo:gm x=true
 n:x.2.2.2=aN l.2 x.1 0
 r:(jw l x).1.2=l.2.set x.1.toNat (x.2.2.2+1)
 k:Qm (jw l x).1=true
 s:(jw l x).1.1.sum=l.1.sum
section
variable {w:ah} {hs:Nat->Bd}
def ak6 (G:aK w){k:Nat}(a:k<w.2.2.1.length):bd (w.2.2.1[k]).2.2.2.1.2.2.2.data.toList=true:=(cB (G.g _ (b2 a)).f.s).2.2.2
def aIB (G:aK w)(W:WI w hs):aBQ w=true:=by
 unfold aBQ;rw[G.ok,eS,fq];intro i d;rw[fq];intro k e;have d:=fV.1 d;have e:=fV.1 e;obtain⟨a,j,f⟩:=Cy d;obtain⟨b,l,g⟩:=Cy e;rw[aBP d j f,aBP e l g];unfold ais;rcases W.meet G f g with h|h
 .rw[avI (ak6 G g) (ak6 G f) h,Bool.or_true]
 .rw[avI (ak6 G f) (ak6 G g) h,T3]
def aFM (W:WI w hs){x:cv}(a:x∈w.2.2.2.2){k:Nat}(f:k<w.2.2.1.length)(e:x.2.2=(k:Int)):Tag (hs k) x.2.1.data.toList:=by
 obtain⟨b,g,j,l,d,t1,_⟩:=W.s x a;have:b=k:=by omega
 subst this;exact t1.mono d
def aHo (G:aK w)(W:WI w hs)(K:oE w):au5 w=true:=by
 unfold au5;rw[G.ok,eS,fq];intro i a;have a:=fV.1 a;obtain⟨f,e,b⟩:=Cy a;have j:=b2 b;unfold au4;rw[aBS a e b,(K _ j).ok (G.g _ j).ok,eS,fq];intro k d;have d:=fV.1 d;unfold aoJ;rw[aBS a e b,aV d,aV a,e];have g:=b2 d;generalize w.2.2.2.2[k]=x at g;by_cases l:x.2.2=(f:Int)
 .have m:=aFM W g b l;have n:=apz (W.r f b).g m;have o:=(G.sb x g).2.2;rw[<-(W.r f b).s]at n;rw[aL (by omega),abF];rfl
 .rw[bQ.2 l];rfl
end
structure Le (a b:a1):Prop where
 v:a.1<=b.1
 l:a.2.1<=b.2.1
 h:a.2.2.1.1<=b.2.2.1.1
 d:Anc a.2.2.2.data.toList b.2.2.2.data.toList
def Le.refl (a:a1):Le a a:=⟨Lj _,Lj _,Lj _,Anc.refl _⟩
def Le.trans {a b d:a1}(h:Le a b)(g:Le b d):Le a d:=⟨aeO h.v g.v,aeO h.l g.l,aeO h.h g.h,h.d.trans g.d⟩
def aFN (c:Int×Int)(s:a1)(q:b1):Le s (Nw c s q):=by
 unfold Nw;split
 .refine⟨Lj _,?_,?_,?_⟩
  .show s.2.1<=pw _ _;unfold pw;split<;>omega
  .show s.2.2.1.1<=(Eh q s.2.2.1).1;unfold Eh;split<;>omega
  .dsimp only;split
   .rename_i a;exact(aFx a.2).2.2
   .exact Anc.refl _
 .exact Le.refl _
def aDx (c:Int×Int)(s:a1)(q:b1):(Nw c s q).1=s.1:=by unfold Nw;split<;>rfl
section
variable {c:Int×Int} {r:ar} {s0:a1}
def aDy (c:Int×Int)(r:ar)(b:ca):Le r.2.2.2.1 (ny c r b):=by
 have hs:=aFN c r.2.2.2.1 b.2;unfold ny;split
 .rename_i d;have a:fz c (Nw c r.2.2.2.1 b.2) b=true:=by unfold gU at d;exact(aA _ _▸d:_/\_).2
  unfold fz at a;simp only[aA,bR]at a;have e:=a.2.2.1;rw[aDx]at e;refine⟨?_,hs.l,hs.h,hs.d⟩;show r.2.2.2.1.1<=aD b.1.data.toList;omega
 .exact hs
def ayn (h:Le s0 r.2.2.2.1){s:a1}(hs:Le r.2.2.2.1 s):Le s0 (fD c r s).1.2.2.2.1:=by
 unfold fD;split
 .exact h
 .split
  .exact h.trans hs
  .exact h
def ak7 (h:Le s0 r.2.2.2.1)(t:Int)(m:bW):Le s0 (jN c r t m).1.2.2.2.1:=by
 unfold jN;split
 .exact h
 .exact h
def RU (h:Le s0 r.2.2.2.1)(q:b1):Le s0 (written c r q).1.2.2.2.1:=ayn h (aFN c _ q)
def aFO (h:Le s0 r.2.2.2.1)(q:b1):Le s0 (my c r q).1.2.2.2.1:=by
 unfold my;split
 .split
  .exact RU h q
  .split
   .exact RU (c:=c) h q
   .exact ak7 (r:=q4 (written c r q).1 (aj (q.1+1))) (RU (c:=c) h q) _ _
 .exact h
def apM (h:Le s0 r.2.2.2.1)(v:Int)(n:ByteArray)(p:Bool):Le s0 (ez c r v n p).1.2.2.2.1:=by
 unfold ez;split
 .exact h
 .split
  .split
   .exact aFO h _
   .exact h
  .split
   .exact h
   .exact ak7 h _ _
def aIC (h:Le s0 r.2.2.2.1)(n:ByteArray):Le s0 (own c r n).1.2.2.2.1:=by
 unfold own;split
 .show Le s0 (ez c (dZ r _) _ _ _).1.2.2.2.1;refine apM (r:=dZ r _) ?_ _ _ _;exact h
 .exact h
def apN (r:ar)(b:ca):(gH r b).2.2.2.1=r.2.2.2.1:=by unfold gH;split<;>rfl
def aeF (h:Le s0 r.2.2.2.1)(b:ca):Le s0 (dV c r b).1.2.2.2.1:=by
 have a:Le s0 (fD c (gH r b) (ny c r b)).1.2.2.2.1:=ayn (by rw[apN];exact h) (by rw[apN];exact aDy c r b);unfold dV Ba;split
 .split
  .split
   .exact aIC a _
   .exact h
  .exact a
 .exact h
def ayo (h:Le s0 r.2.2.2.1)(p:b1):Le s0 (fE c r p).1.2.2.2.1:=by
 unfold fE;split
 .show Le s0 (ez c (dZ r _) _ _ _).1.2.2.2.1;refine apM (r:=dZ r _) ?_ _ _ _;exact h
 .exact h
def apO (l:Bool)(o:ar)(v:Int)(q:b1):(Fl l o v q).2.2.2.1=o.2.2.2.1:=by unfold Fl;split<;>rfl
def ayp (h:Le s0 r.2.2.2.1)(imp:Bool)(v:Int)(q:b1)(cu:Int):Le s0 (fF imp c r v q cu).1.2.2.2.1:=by
 have a:=RU (c:=c) h q;unfold fF;split
 .unfold oD;split
  .split
   .rw[apO];exact a
   .exact h
  .rw[apO];exact a
 .exact h
def aFP (h:Le s0 r.2.2.2.1)(imp:Bool)(m:bW):Le s0 (q5 imp c r m).1.2.2.2.1:=by
 unfold q5;split
 .exact aeF h _
 .split
  .exact ayo h _
  .split
   .exact ayp h imp _ _ _
   .exact h
def aCe (h:Le s0 r.2.2.2.1)(imp:Bool)(m:bW):Le s0 (CG imp c r m).1.2.2.2.1:=by
 unfold CG;split
 .exact aFP (c:=c) h imp m
 .exact h
def aFQ (h:Le s0 r.2.2.2.1):Le s0 (wV c r).1.2.2.2.1:=by
 unfold wV;split
 .exact h
 .split
  .split
   .exact h
   .exact h
  .split
   .show Le s0 (jN c (gT r _) _ _).1.2.2.2.1;refine ak7 (r:=gT r _) ?_ _ _;exact h
   .exact h
def ag9 (h:Le s0 r.2.2.2.1)(m:bW):∀(j k:Nat) {o:ar},Le s0 o.2.2.2.1->Le s0 (nx c r m j k o).1.2.2.2.1
 |0,_,o,a=>a|j+1,k,o,a=>by
  unfold nx;split
  .exact ag9 h m j (k+1) a
  .split
   .exact ag9 h m j (k+1) (ak7 a _ _)
   .exact h
def aHp (h:Le s0 r.2.2.2.1):Le s0 (Ob c r).1.2.2.2.1:=by
 have a:Le s0 (aey c r).1.2.2.2.1:=ag9 (c:=c) (r:=Bc r) h (aem (ask c r).1) c.1.toNat 0 h;unfold Ob;split
 .split
  .exact aeF a _
  .exact h
 .exact h
def asP (h:Le s0 r.2.2.2.1):∀k,Le s0 (ml c r k).1.2.2.2.1
 |0=>h|k+1=>by
  unfold ml;split
  .exact asP h k
  .split
   .exact apM h _ _ _
   .exact h
def aHq (h:Le s0 r.2.2.2.1)(imp:Bool)(m:bW):Le s0 (akH imp c r m).1.2.2.2.1:=by
 unfold akH;split
 .exact aCe h imp m
 .exact h
def aHr (h:Le s0 r.2.2.2.1)(imp:Bool){d:cC}(a:¬d.1=8):Le s0 (RP imp c r d).1.2.2.2.1:=by
 unfold RP;split
 .exact aHp h
 .split
  .exact asP h _
  .split
   .split
    .exact aFQ h
    .exact h
   .exact aHq h imp _
end
structure ix (w w':ah):Prop where
 n:w'.2.2.1.length=w.2.2.1.length
 r:∀(k:Nat) (hk:k<w.2.2.1.length) (hk':k<w'.2.2.1.length),Le (w.2.2.1[k]).2.2.2.1 (w'.2.2.1[k]).2.2.2.1
 s:w.2.2.2.2.length<=w'.2.2.2.2.length
def ix.refl (w:ah):ix w w:=⟨rfl,fun _ _ _=>Le.refl _,bf _⟩
def aha {w o:ah}(h:ix w o){a:Int}{r:ar}(d:∀(k:Nat) (b:k<w.2.2.1.length),a.toNat=k->Le (w.2.2.1[k]).2.2.2.1 r.2.2.2.1):ix w (eR o a r):=by
 refine⟨by show(o.2.2.1.set a.toNat r).length=_;rw[Eo];exact h.n,fun k b hk'=>?_,h.s⟩;have f:k<(o.2.2.1.set a.toNat r).length:=hk';show Le _ ((o.2.2.1.set a.toNat r)[k]'f).2.2.2.1;rw[List.getElem_set];split
 .rename_i e;exact d k b e
 .exact h.r k b (by have:=h.n;omega)
def apP {w:ah}{a:Int}{k:Nat}(b:k<w.2.2.1.length)(e:a.toNat=k):bU w a=w.2.2.1[k]:=by unfold bU;rw[e];exact aV b _
def aDz (l:List cv)(x:cv):l.length<=(s4 l x).length:=by
 unfold s4;split
 .rw[aG];omega
 .exact bf _
def apQ (id:Int):∀(ps:List gQ) (l:List cv),l.length<=(RN id ps l).length
 |[],l=>bf _|p::ps,l=>by
  have a:∀(xs:List cv) (l:List cv),l.length<=(xs.foldl s4 l).length:=by
   intro xs
   induction xs with
   |nil=>exact fun l=>bf _
   |cons x xs b=>exact fun l=>bZ (aDz l x) (b _)
  exact bZ (a (cD id p.2) l) (apQ id ps (avz id l p))
def aFR (w:ah)(i:Int)(l:List gQ):ix w (mj w i l):=by
 unfold mj;split
 .exact⟨rfl,fun _ _ _=>Le.refl _,apQ i l _⟩
 .exact ix.refl w
def ayq (w:ah)(a:Int):ix w (QA w a).1:=by
 unfold QA;split
 .split
  .have h:=aha (aFR w a (a6 w a)) (a:=a) (r:=NC (bU w a)) fun k b e=>by rw[apP b e];exact Le.refl _
   exact⟨h.n,h.r,h.s⟩
  .exact ix.refl w
 .exact ix.refl w
def aCf (w:ah)(d:cC):ix w (aez w d).1:=by
 unfold aez;split
 .unfold Z1;split
  .have a:ix w (Hd w d.2.1):=⟨rfl,fun _ _ _=>Le.refl _,bf _⟩;show ix w (eR (Hd w d.2.1) (cE w d.2.1).1 (WU true w (cE w d.2.1)));refine aha a fun k b e=>?_
   unfold WU;rw[apP b e];exact aCe (Le.refl _) true _
  .exact⟨rfl,fun _ _ _=>Le.refl _,bf _⟩
 .split
  .exact⟨rfl,fun _ _ _=>Le.refl _,bf _⟩
  .split
   .exact⟨rfl,fun _ _ _=>Le.refl _,bf _⟩
   .split
    .exact⟨rfl,fun _ _ _=>Le.refl _,bf _⟩
    .exact ix.refl w
def aHs (w:ah){d:cC}(a:¬d.1=8):ix w (ag4 true w d).1:=by
 refine aha (ix.refl w) fun k b e=>?_
 rw[apP b e];exact aHr (Le.refl _) true a
def aFS (w:ah){d:cC}(a:eF 1 10 d.1=true):w.2.2.2.2.length<=(doI w d).1.2.2.2.2.length:=by
 unfold doI;rw[ag a];split
 .unfold apq;split
  .split
   .unfold aby
    split
    .exact(ayq w _).s
    .split
     .exact(aCf w d).s
     .exact bf _
   .exact bf _
  .exact bf _
 .exact bf _
def n0:(0:Int)≠1:=by decide
def n2:(2:Int)≠1:=by decide
def n3:(3:Int)≠1:=by decide
def n4:(4:Int)≠1:=by decide
def n5:(5:Int)≠1:=by decide
def aHt (c:Int×Int)(r:ar):(Ob c r).2≠1:=by
 unfold Ob;split
 .split
  .exact n0
  .exact n4
 .exact n3
def asQ (c:Int×Int)(r:ar):∀k,(ml c r k).2≠1
 |0=>n3|k+1=>by
  unfold ml;split
  .exact asQ c r k
  .split
   .exact n0
   .exact n3
def aHu (imp:Bool)(c:Int×Int)(r:ar)(d:cC):(RP imp c r d).2≠1:=by
 unfold RP;split
 .exact aHt c r
 .split
  .exact asQ c r _
  .split
   .split
    .exact n0
    .exact n3
   .split
    .exact n0
    .unfold akH;split
     .exact n0
     .exact n3
def aHv (w:ah)(d:cC):(aby w d).2≠1:=by
 unfold aby
 split
 .unfold QA;split
  .split
   .exact n0
   .exact n4
  .exact n4
 .split
  .unfold aez;split
   .exact n0
   .split
    .exact n0
    .split
     .exact n0
     .split
      .exact n0
      .exact n5
  .exact aHu true w.1 _ d
def aFT (w:ah){d:cC}(a:eF 1 10 d.1=true):(doI w d).2≠1:=by
 unfold doI;rw[ag a];split
 .unfold apq;split
  .split
   .exact n0
   .exact n4
  .exact aHv w d
 .exact n2
def aID (w:ah){d:cC}(a:eF 1 10 d.1=true)(b:¬d.1=8):ix w (doI w d).1:=by
 unfold doI;rw[ag a];split
 .unfold apq;split
  .split
   .unfold aby
    split
    .exact ayq w _
    .split
     .exact aCf w d
     .exact aHs w b
   .exact ix.refl w
  .exact ix.refl w
 .exact ix.refl w
end Go.Am.Tryz
