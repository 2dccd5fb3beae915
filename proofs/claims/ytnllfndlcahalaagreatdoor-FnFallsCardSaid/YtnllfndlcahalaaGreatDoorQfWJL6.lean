/- No condition. -/
import Derived.Test.YtnllfndlcahalaaGreatDoorQfWJL5
set_option linter.all false
namespace Go.Am.Tryz
open Go.Am
def b5 (c:Int×Int)(r:aw):Prop:=∃l:List bd,(∀x∈l,bh c x=true)/\r.2.2.2.2.2.2.1.1=cd l/\r.2.2.2.1=l.getLastD kd
section
variable {c:Int×Int} {r:aw}
def b5.same {r':aw}(h:b5 c r)(e:r'.2.2.2.1=r.2.2.2.1)(f:r'.2.2.2.2.2.2.1.1=r.2.2.2.2.2.2.1.1):b5 c r':=by obtain⟨l,a,b,d⟩:=h;exact⟨l,a,f.trans b,e.trans d⟩
def b5.put (h:b5 c r){s:bd}(hs:bh c s=true):b5 c (put r s):=by
 obtain⟨l,a,b,d⟩:=h;refine⟨l++[s],fun x e=>?_,?_,?_⟩
 .rcases gK.1 e with h|h
  .exact a x h
  .rw[fm.1 h];exact hs
 .show r.2.2.2.2.2.2.1.1++dA s=_;rw[b,cd,cd,auM];simp
 .show s=_;simp
def axs (h:b5 c r)(s:bd):b5 c (h8 c r s).1:=by
 unfold h8;split
 .exact h
 .split
  .rename_i a;exact h.put a.1
  .exact h
def axt (h:b5 c r)(t:Int)(m:b0):b5 c (lQ c r t m).1:=by
 unfold lQ;split
 .exact h.same rfl rfl
 .exact h
def agl (h:b5 c r)(v:Int):b5 c (tp r v):=h.same rfl rfl
def Yr (h:b5 c r)(t:List bZ):b5 c (fJ r t):=h.same rfl rfl
def aiX (h:b5 c r)(v:Int):b5 c (kg r v):=h.same rfl rfl
def aur (h:b5 c r)(p:List dH):b5 c (OK r p):=h.same rfl rfl
def aCA (h:b5 c r):b5 c (F5 r):=h.same rfl rfl
def RE (h:b5 c r)(q:bZ):b5 c (written c r q).1:=axs h _
def aJm (h:b5 c r)(q:bZ):b5 c (pX c r q).1:=by
 unfold pX;split
 .split
  .exact RE h q
  .split
   .exact agl (RE h q) _
   .exact axt (agl (RE h q) _) _ _
 .exact h
def axu (h:b5 c r)(v:Int)(n:ByteArray)(p:Bool):b5 c (fI c r v n p).1:=by
 unfold fI;split
 .exact h
 .split
  .split
   .exact aJm h _
   .exact h
  .split
   .exact h
   .exact axt h _ _
def aLm (h:b5 c r)(n:ByteArray):b5 c (own c r n).1:=by
 unfold own;split
 .exact axu (Yr h _) _ _ _
 .exact h
def aEc (h:b5 c r)(b:cq):b5 c (jD r b):=by
 unfold jD;split
 .exact aiX h _
 .exact h
def akt (h:b5 c r)(b:cq):b5 c (e9 c r b).1:=by
 unfold e9 B8;split
 .split
  .split
   .exact aLm (axs (aEc h b) _) _
   .exact h
  .exact axs (aEc h b) _
 .exact h
def aCB (h:b5 c r)(p:bZ):b5 c (iL c r p).1:=by
 unfold iL;split
 .exact axu (Yr h _) _ _ _
 .exact h
def aEd (h:b5 c r)(l:Bool)(v:Int)(q:bZ):b5 c (Me l r v q):=by
 unfold Me;split
 .exact agl (agl h _) _
 .exact agl h _
def aCC (h:b5 c r)(imp:Bool)(v:Int)(q:bZ)(cw:Int):b5 c (iM imp c r v q cw).1:=by
 unfold iM;split
 .unfold rG;split
  .split
   .exact aEd (Yr (RE h q) _) _ _ _
   .exact h
  .exact aEd (RE h q) _ _ _
 .exact h
def aJn (h:b5 c r)(imp:Bool)(m:b0):b5 c (uo imp c r m).1:=by
 unfold uo;split
 .exact akt h _
 .split
  .exact aCB h _
  .split
   .exact aCC h imp _ _ _
   .exact aur h _
def aHP (h:b5 c r)(imp:Bool)(m:b0):b5 c (GU imp c r m).1:=by
 unfold GU;split
 .exact aur (Yr (aJn h imp m) _) _
 .exact h
def aq9 (d:oN):(hD d).1=d.1:=by unfold hD;split<;>rfl
def aJo (h:b5 c r):b5 c (HZ r):=h.same rfl (aq9 _)
def aJp (h:b5 c r):b5 c (B7 c r).1:=by
 unfold B7;split
 .exact h
 .split
  .split
   .exact Yr (aiX h _) _
   .exact h
  .split
   .exact axt (aiX h _) _ _
   .exact h
def ara (h:b5 c r)(m:b0):∀(j k:Nat) {o:aw},b5 c o->b5 c (rF c r m j k o).1
 |0,_,o,a=>a|j+1,k,o,a=>by
  unfold rF;split
  .exact ara h m j (k+1) a
  .split
   .exact ara h m j (k+1) (axt a _ _)
   .exact h
def aFM (h:b5 c r)(m:b0):b5 c (SW c r m).1:=ara h m _ _ h
def aKu (h:b5 c r):b5 c (Ym c r).1:=by
 unfold Ym;split
 .split
  .exact akt (aFM (aCA h) _) _
  .exact h
 .exact h
def az7 (h:b5 c r):∀k,b5 c (tK c r k).1
 |0=>h|k+1=>by
  unfold tK;split
  .exact az7 h k
  .split
   .exact axu h _ _ _
   .exact h
def aHQ {l:List bd}{k:Nat}(a:∀x∈l,bh c x=true)(b:r.2.2.2.2.2.2.1.1=(cd l).take k):b5 c (aw5 c r):=by
 obtain⟨i,t,n,j,e,_⟩:=ac3 k a;have d:∀x∈l.take i,bh c x=true:=fun x m=>a x (Vi m)
 have f:=Bz j d;refine⟨l.take i,d,?_,?_⟩
 .show r.2.2.2.2.2.2.1.1.take (cD c r.2.2.2.2.2.2.1.1).2=_;rw[b,e,f];exact abE
 .show(cD c r.2.2.2.2.2.2.1.1).1=_;rw[b,e,f]
def aJq (h:b5 c r)(keep:Int):b5 c (ur c r keep):=by
 obtain⟨l,a,b,d⟩:=h;unfold ur;by_cases e:fE r.2.2.2.2.2.2.1=true
 .refine aHQ (l:=l) (k:=(F3 r.2.2.2.2.2.2.1 keep).toNat) a ?_;show(ej r.2.2.2.2.2.2.1 keep).1=_;unfold ej;rw[ag e,b]
 .refine aHQ (l:=l) (k:=(cd l).length) a ?_;show(ej r.2.2.2.2.2.2.1 keep).1=_;unfold ej;rw[af e,b,ki]
def aKv (h:b5 c r)(imp:Bool)(m:b0):b5 c (axo imp c r m).1:=by
 unfold axo;split
 .exact aHP h imp m
 .exact h
def aKw (h:b5 c r)(imp:Bool)(d:de):b5 c (adh imp c r d).1:=by
 unfold adh;split
 .exact aKu h
 .split
  .exact az7 h _
  .split
   .split
    .exact aJp h
    .exact h
   .split
    .exact aJq h _
    .exact aKv h imp _
def b5.ok (h:b5 c r)(f:mZ c r=true):at3 c r=true:=by obtain⟨l,a,b,d⟩:=h;have e:=Bz (c:=c) (t:=[]) (.inl rfl) a;rw[fh]at e;unfold at3;rw[f,b,e,d];simp[abu]
end
def lJ (w:ah):Prop:=∀r∈w.2.2.1,b5 w.1 r
def axv {w:ah}(h:lJ w)(a:Int):b5 w.1 (bP w a):=by
 unfold bP;rw[BG];cases e:w.2.2.1[a.toNat]? with
 |none=>exact⟨[],fun _ b=>absurd b abD,rfl,rfl⟩
 |some r=>exact h r (as5 e)
def arb {w:ah}(h:lJ w)(a:Int){r:aw}(b:b5 w.1 r):lJ (dX w a r):=fun x d=>by
 rcases aAs d with h1|h1
 .exact h x h1
 .rw[h1];exact b
def aJr {w:ah}(h:lJ w)(i:Int)(l:List jB):lJ (lN w i l):=by
 unfold lN;split
 .exact h
 .exact h
def aCD (w:ah)(i:Int)(l:List jB):(lN w i l).1=w.1:=by unfold lN;split<;>rfl
def aEe {w:ah}(h:lJ w)(a:Int):lJ (lO w a).1:=by
 unfold lO;split
 .split
  .exact arb (w:=lN w a (a1 w a)) (aJr h _ _) a (by rw[aCD];exact aJo (axv h a))
  .exact h
 .exact h
def aKx {w:ah}(h:lJ w)(d:de):lJ (aq3 w d).1:=by
 unfold aq3;split
 .unfold agh;split
  .exact arb (w:=OL w d.2.1) h _ (aHP (axv h _) true _)
  .exact h
 .split
  .exact h
  .split
   .exact h
   .split
    .exact h
    .exact h
def aKy {w:ah}(h:lJ w)(imp:Bool)(d:de):lJ (agi imp w d).1:=arb h _ (aKw (axv h _) imp d)
def axw {w:ah}(h:lJ w)(d:de):lJ (US w d):=by
 unfold US;split
 .rename_i a;unfold doI at a ⊢;split at a
  .rename_i b;rw[ag b];split at a
   .rename_i e;rw[ag e];have f:lJ (aiV w d).1:=by
     unfold aiV;split
     .exact aEe h _
     .split
      .exact aKx h d
      .exact aKy h true d
    unfold axr;split
    .split
     .exact f
     .exact h
    .exact h
   .cases a
  .cases a
 .exact h
def az8:∀(list:List de) {w:ah},lJ w->lJ (Yq w list)
 |[],_,h=>h|d::list,w,h=>az8 list (axw h d)
def aKz (c:Int×Int)(liars:List Int):lJ (RD c liars):=fun r a=>by obtain⟨i,_,rfl⟩:=E2.1 a;exact⟨[],fun _ b=>absurd b abD,rfl,rfl⟩
abbrev Nm:=List UInt8
def Anc (t s:Nm):Prop:=s=t\/∃r,s=t++47::r
def Anc.refl (t:Nm):Anc t t:=.inl rfl
def Anc.trans {a b c:Nm}(h:Anc a b)(d:Anc b c):Anc a c:=by
 rcases d with rfl|⟨r,rfl⟩
 .exact h
 .rcases h with rfl|⟨q,rfl⟩
  .exact .inr ⟨r,rfl⟩
  .exact .inr ⟨q++47::r,by simp⟩
def Ys {s:Nm}(h:bg s=true):Anc (fO s) s:=by
 by_cases a:s=[]
 .subst a;exact .inl rfl
 .obtain⟨t,_,e⟩:=X9 h a;exact .inr ⟨t,e⟩
def aJs {t s:Nm}(h:Anc t s):t.length<=s.length:=by
 rcases h with rfl|⟨r,rfl⟩
 .exact bG _
 .rw[aK];omega
def arc {a b s:Nm}(f:Anc a s)(l:Anc b s)(h:a.length<=b.length):Anc a b:=by
 rcases l with rfl|⟨q,rfl⟩
 .exact f
 .rcases f with e|⟨r,e⟩
  .have:=oh List.length e;rw[aK,aW]at this;omega
  .by_cases m:a.length=b.length
   .have:=List.append_inj_left e m.symm;exact .inl this
   .refine .inr ⟨b.drop (a.length+1),?_⟩;have j:(b++47::q).take a.length=a:=by rw[e];exact abE
    have d:(b++47::q)[a.length]?=some 47:=by rw[e];simp
    rw[aCL h]at j;rw[List.getElem?_append_left (by omega)]at d;obtain⟨n,d⟩:=wN.1 d;have k:=ZM a.length b;rw[Vh n,d,j]at k;exact k.symm
def aHR {a s:Nm}(hs:bg s=true)(z:bg a=true):Anc a s->a≠s->aD a<aD s:=by
 intro h f;generalize l:s.length=n
 induction n using Nat.strongRecOn generalizing s with
 |_ n m =>
  subst l;have b:s≠[]:=fun e=>by
   subst e;rcases h with h|⟨r,h⟩
   .exact f h.symm
   .simp at h
  have o:=amN hs b;by_cases j:a=fO s
  .rw[j];exact o
  .have p:a.length<=(fO s).length:=by
    rcases h with h|⟨r,h⟩
    .exact absurd h.symm f
    .rcases S2 (fO s).length a.length with hlt|q
     .exfalso;obtain⟨t,u,e⟩:=X9 hs b;have d:s[a.length]?=some 47:=by rw[h];simp
      rw[e,axI (by omega)]at d;have v:(47::t)[a.length-(fO s).length]?=t[a.length-(fO s).length-1]?:=by obtain⟨k,x⟩:∃k,a.length-(fO s).length=k+1:=⟨a.length-(fO s).length-1,by omega⟩;rw[x];simp
      rw[v]at d;exact u (as5 d)
     .exact q
   have y:=arc h (Ys hs) p;have:=m (fO s).length (aHe hs b) (Db hs) y j rfl;omega
def aEf {s t:ByteArray}(hs:bg s.data.toList=true)(b:bg t.data.toList=true)(h:Anc t.data.toList s.data.toList):amw s t=true:=by
 have j:=aJs h;have d:s.size=s.data.toList.length:=rfl;have a:t.size=t.data.toList.length:=rfl;unfold amw;rw[hs,b,eD,eD,aL (show(s.size:Int)>=(t.size:Int) by omega),eD];have e:s.extract 0 t.size=t:=by
  have:=On s.data.toList 0 t.data.toList.length;rw[ZO,Vq]at this;rw[<-Kd]at this;refine this.trans ?_;rcases h with h|⟨r,h⟩
  .rw[h,ki];rfl
  .rw[h,abE];rfl
 rw[e,ZN,eD];rcases h with h|⟨r,h⟩
 .rw[show((s.size:Int)==(t.size:Int))=true from bf.2 (by rw[d,a,h])];rfl
 .have:jO s (t.size:Int)=47:=by
   have f:s.data.toList[t.data.toList.length]?=some 47:=by rw[h];simp
   unfold jO;rw[gr,a,BG,f];rfl
  rw[this];simp
def aus (A B:Nat->Bool):∀l:List Nat,l.countP A+l.countP B<=l.length+l.countP fun k=>A k&&B k
 |[]=>bG _|x::l=>by have:=aus A B l;rw[G0,G0,G0,aW];cases A x<;>cases B x<;>simp<;>omega
def aut (A L:Nat->Bool):∀l:List Nat,l.countP A<=l.countP L+l.countP fun k=>A k&& !L k
 |[]=>bG _|x::l=>by have:=aut A L l;rw[G0,G0,G0];cases A x<;>cases L x<;>simp<;>omega
def auu {x:Nat}(p:Nat->Bool)(a:p x=false):∀l:List Nat,x∈l->l.countP p+1<=l.countP fun k=>p k || k==x
 |y::l,h=>by
  rw[G0,G0];by_cases e:y=x
  .subst e;have:l.countP p<=l.countP fun k=>p k || k==y:=aAz fun k _ b=>by rw[b];rfl
   rw[a];simp;omega
  .have:=auu p a l (by rcases cT.1 h with h|h;exact absurd h.symm e;exact h);rw[show(y==x)=false by simp[e],am7];omega
def aiY {n:Nat}:∀{w:List Int},w.Nodup->(∀x∈w,0<=x/\x<n)->w.length<=(List.range n).countP fun k:Nat=>decide ((k:Int)∈w)
 |[],_,_=>aR _|x::w,b,d=>by
  have l:=aiY (n:=n) (auV.1 b).2 fun y f=>d y (jN x f)
  have e:=d x pZ;have a:x.toNat∈List.range n:=eU.2 (by omega);have j:decide (((x.toNat:Nat):Int)∈w)=false:=aQ (by rw[JW e.1];exact(auV.1 b).1);have m:=auu (fun k:Nat=>decide ((k:Int)∈w)) j _ a;have o:((List.range n).countP fun k:Nat=>decide ((k:Int)∈w) || k==x.toNat)<=(List.range n).countP fun k:Nat=>decide ((k:Int)∈x::w):=aAz fun k _ a=>by
   rcases(kj _ _).mp a with h|h
   .exact aL (jN x (ng h))
   .have:=eq_of_beq h;exact aL (by rw[this,JW e.1];exact pZ)
  rw[aW];omega
def count_le {n:Nat}{w:List Int}:((List.range n).countP fun k:Nat=>decide ((k:Int)∈w))<=w.length:=by
  induction w with
  |nil=>simp
  |cons x w a =>
   have:((List.range n).countP fun k:Nat=>decide ((k:Int)∈x::w))<=((List.range n).countP fun k:Nat=>decide ((k:Int)∈w))+(List.range n).countP fun k:Nat=>decide ((k:Int)=x):=by
    generalize List.range n=l
    induction l with
    |nil=>simp
    |cons y l a =>
     rw[G0,G0,G0];by_cases b:(y:Int)=x<;>by_cases d:(y:Int)∈w<;>simp[b,d]at a ⊢<;>omega
   have b:∀m,((List.range m).countP fun k:Nat=>decide ((k:Int)=x))<=1/\(((m:Int)<=x)->((List.range m).countP fun k:Nat=>decide ((k:Int)=x))=0):=by
    intro m
    induction m with
    |zero=>simp
    |succ m a =>
     rw[List.range_succ,List.countP_append,G0,List.countP_nil];by_cases h:(m:Int)=x
     .have:=a.2 (by omega);rw[this,aL h];exact⟨by simp,fun d=>by omega⟩
     .rw[aQ h];refine⟨by simp;exact a.1,fun d=>?_⟩;rw[a.2 (by omega)];simp
   have:=(b n).1;rw[aW];omega
def aku {n:Int}{s:List Int}(h:iH n s=true):s.Nodup:=by
 have hlt:∀(a i:Nat) (b:a<s.length) (d:i<a),s[i]<s[a]:=by
  intro a
  induction a with
  |zero=>intro i b d;omega
  |succ a f =>
   intro i b d;have j:=aqz h b;rcases S2 i a with e|e
   .have:=f i (by omega) e;omega
   .have:i=a:=by omega
    subst this;exact j
 refine aAt.2 fun i a d b k l=>?_
 have:=hlt a i b k;omega
def az9 {c:Int×Int}{liars w1 a:List Int}(o:bq c=true)(t:(liars.length:Int)<=tG c)(p:iH c.1 w1=true)(q:iH c.1 a=true)(u:(w1.length:Int)>=tH c)(v:(a.length:Int)>=tH c) :
  ∃m,m∈w1/\m∈a/\m ∉ liars:=by
 obtain⟨y,z,_,_⟩:=b3 o;have e:(c.1.toNat:Int)=c.1:=JW (by omega);have A:=aiY (n:=c.1.toNat) (aku p) (fun x l=>by have:=Dc p x l;omega);have B:=aiY (n:=c.1.toNat) (aku q) (fun x l=>by have:=Dc q x l;omega);have b:=aus (fun k:Nat=>decide ((k:Int)∈w1)) (fun k:Nat=>decide ((k:Int)∈a)) (List.range c.1.toNat);have d:=aut (fun k:Nat=>decide ((k:Int)∈w1)&&decide ((k:Int)∈a)) (fun k:Nat=>decide ((k:Int)∈liars)) (List.range c.1.toNat);have f:=count_le (n:=c.1.toNat) (w:=liars);rw[S0]at b;have s:0<(List.range c.1.toNat).countP fun k:Nat=>(decide ((k:Int)∈w1)&&decide ((k:Int)∈a))&& !decide ((k:Int)∈liars):=by
  unfold tH tG at *;rw[ag o]at *;have:(Int.tdiv (c.1-1) 3)*3<=c.1-1:=by rw[amW (by omega)];omega
  omega
 obtain⟨k,C,j⟩:=List.countP_pos_iff.1 s;simp only[aG,ai6,bV,axK]at j;exact⟨(k:Int),j.1.1,j.1.2,j.2⟩
def aJt {c:Int×Int}{liars w1:List Int}(f:bq c=true)(j:(liars.length:Int)<=tG c)(d:iH c.1 w1=true)(e:(w1.length:Int)>=tH c):∃m,m∈w1/\m ∉ liars:=by obtain⟨m,a,_,b⟩:=az9 f j d d e e;exact⟨m,a,b⟩
abbrev wM:=List (bd×Option Nm)
def nmQ (q:bZ):Nm:=q.2.1.data.toList
def Tag (h:wM)(n:Nm):Prop:=∃s,(s,some n)∈h
def te:wM->bd
 |[]=>kd|x::_=>x.1
def JV (S:Nm->Int->Prop)(i:Int)(h:wM)(q:bZ):Prop:=nmQ q≠[]->∀m∈q.2.2,S (nmQ q) m\/(m=i/\Tag h (nmQ q))
def Crt (c:Int×Int)(S:Nm->Int->Prop)(i:Int)(h:wM)(n:Nm):Prop:=∃q,eV c q=true/\nmQ q=n/\JV S i h q
structure aKA (c:Int×Int) (S:Nm->Int->Prop) (i:Int) (h:wM) (s:bd) (n:Nm):Prop where
 ok:bg n=true
 ne:n≠[]
 v:s.1=aD n
 up:(te h).1<aD n
 lk:aD (fO (fO n))<=s.2.1
 lu:s.2.1<=aD (fO n)
 crt:Crt c S i h (fO n)
def auw (n:Nm):Prop:=bg n=true/\n≠[]/\fO n≠[]/\fO (fO n)≠[]/\aD n=aD (fO n)+1/\aD (fO n)=aD (fO (fO n))+1
structure axx (c:Int×Int) (S:Nm->Int->Prop) (i:Int) (h:wM) (s:bd) (t:Option Nm):Prop where
 ok:bh c s=true
 v:(te h).1<=s.1
 l:(te h).2.1<=s.2.1
 vt:∀n,t=some n->aKA c S i h s n
 hi:JV S i ((s,t)::h) s.2.2.1
 dn:s.2.2.2.data.toList=[]\/∃n3,auw n3/\Crt c S i ((s,t)::h) n3/\s.2.2.2.data.toList=fO (fO n3)
def Fair (c:Int×Int)(S:Nm->Int->Prop)(i:Int):wM->Prop
 |[]=>True|x::h=>Fair c S i h/\axx c S i h x.1 x.2
def Sub (h a:wM):Prop:=∃p,a=p++h
def Sub.refl (h:wM):Sub h h:=⟨[],rfl⟩
def Sub.trans {a b d:wM}(h:Sub a b)(e:Sub b d):Sub a d:=by obtain⟨p,rfl⟩:=h;obtain⟨q,rfl⟩:=e;exact⟨q++p,by simp⟩
def Sub.cons (x:bd×Option Nm)(h:wM):Sub h (x::h):=⟨[x],rfl⟩
def Tag.mono {h a:wM}{n:Nm}(t:Tag h n)(s:Sub h a):Tag a n:=by obtain⟨p,rfl⟩:=s;obtain⟨x,b⟩:=t;exact⟨x,aAy p b⟩
section
variable {c:Int×Int} {S S':Nm->Int->Prop} {i:Int}
def JV.mono {h a:wM}{q:bZ}(e:JV S i h q)(s:Sub h a):JV S i a q:=fun b m d=>(e b m d).imp id fun x=>⟨x.1,x.2.mono s⟩
def Crt.mono {h f:wM}{n:Nm}(e:Crt c S i h n)(s:Sub h f):Crt c S i f n:=by obtain⟨q,a,b,d⟩:=e;exact⟨q,a,b,d.mono s⟩
def JV.said {h:wM}{q:bZ}(a:∀n m,S n m->S' n m)(e:JV S i h q):JV S' i h q:=fun b m d=>(e b m d).imp (a _ _) id
def Crt.said {h:wM}{n:Nm}(f:∀n m,S n m->S' n m)(e:Crt c S i h n):Crt c S' i h n:=by obtain⟨q,a,b,d⟩:=e;exact⟨q,a,b,d.said f⟩
def Fair.said (e:∀n m,S n m->S' n m):∀{h:wM},Fair c S i h->Fair c S' i h
 |[],_=>trivial|x::h,g=>⟨Fair.said e g.1,⟨g.2.ok,g.2.v,g.2.l,fun n f=>{g.2.vt n f with crt:=(g.2.vt n f).crt.said e},g.2.hi.said e,g.2.dn.imp id fun ⟨j,a,b,d⟩=>⟨j,a,b.said e,d⟩⟩⟩
def Fair.sub:∀{p h:wM},Fair c S i (p++h)->Fair c S i h
 |[],_,g=>g|_::p,_,g=>Fair.sub (p:=p) g.1
def ard:∀{h:wM} {n:Nm},Fair c S i h->Tag h n->aD n<=(te h).1
 |[],_,_,⟨_,a⟩=>by cases a
 |x::h,n,g,⟨s,a⟩=>by
  rcases cT.1 a with e|b
  .subst e;exact Int.le_of_eq (g.2.vt n rfl).v.symm
  .exact agv (ard g.1 ⟨s,b⟩) g.2.v
def aAa:∀{h:wM} {n:Nm},Fair c S i h->Tag h n->aD (fO (fO n))<=(te h).2.1
 |[],_,_,⟨_,a⟩=>by cases a
 |x::h,n,g,⟨s,a⟩=>by
  rcases cT.1 a with e|b
  .subst e;exact(g.2.vt n rfl).lk
  .exact agv (aAa g.1 ⟨s,b⟩) g.2.l
def are:∀{h:wM} {n a:Nm},Fair c S i h->Tag h n->Tag h a->aD n=aD a->n=a
 |[],_,_,_,⟨_,b⟩,_,_=>by cases b
 |x::h,n,a,g,⟨s,b⟩,⟨j,k⟩,e=>by
  rcases cT.1 b with l|m
  .rcases cT.1 k with d|f
   .exact eT (oh Prod.snd (l.trans d.symm))
   .subst l;have o:=(g.2.vt n rfl).up;have p:=ard g.1 ⟨j,f⟩;omega
  .rcases cT.1 k with d|f
   .subst d;have o:=(g.2.vt a rfl).up;have p:=ard g.1 ⟨s,m⟩;omega
   .exact are g.1 ⟨s,m⟩ ⟨j,f⟩ e
def axy:∀{h:wM} {n:Nm},Fair c S i h->Tag h n->bg n=true/\n≠[]/\∃b,Sub b h/\Crt c S i b (fO n)
 |[],_,_,⟨_,f⟩=>by cases f
 |x::h,n,g,⟨s,f⟩=>by
  rcases cT.1 f with e|j
  .subst e;exact⟨(g.2.vt n rfl).ok,(g.2.vt n rfl).ne,h,Sub.cons _ h,(g.2.vt n rfl).crt⟩
  .obtain⟨a,b,d,k,l⟩:=axy g.1 ⟨s,j⟩;exact⟨a,b,d,k.trans (Sub.cons _ h),l⟩
def auy:∀{h:wM} {n a:Nm},Fair c S i h->Tag h n->Tag h a->aD n<aD a->aD (fO (fO n))<=aD (fO a)
 |[],_,_,_,⟨_,b⟩,_,_=>by cases b
 |x::h,n,a,g,⟨s,b⟩,⟨j,o⟩,e=>by
  rcases cT.1 o with k|l
  .rcases cT.1 b with d|f
   .have:=eT (oh Prod.snd (d.trans k.symm));rw[this]at e;omega
   .subst k;have p:=aAa g.1 ⟨s,f⟩;have m:=g.2.l;have q:=(g.2.vt a rfl).lu;dsimp only at m q;omega
  .rcases cT.1 b with d|f
   .subst d;have p:=(g.2.vt n rfl).up;have m:=ard g.1 ⟨j,l⟩;omega
   .exact auy g.1 ⟨s,f⟩ ⟨j,l⟩ e
end
structure aHS (c:Int×Int) (liars:List Int) (S:Nm->Int->Prop) (hs:Int->wM):Prop where
 cf:bq c=true
 l:(liars.length:Int)<=tG c
 s:∀n m,S n m->m∈liars\/Tag (hs m) n
 g:∀i,Fair c S i (hs i)
section
variable {c:Int×Int} {liars:List Int} {S:Nm->Int->Prop} {hs:Int->wM} (H:aHS c liars S hs)
include H
def aEg {i:Int}{h:wM}(d:Sub h (hs i)){q:bZ}(e:JV S i h q)(f:nmQ q≠[]){m:Int}(j:m∈q.2.2)(k:m ∉ liars):Tag (hs m) (nmQ q):=by
 rcases e f m j with a|⟨a,l⟩
 .rcases H.s _ _ a with b|b
  .exact absurd b k
  .exact b
 .subst a;exact l.mono d
def axz {k l:Int}{f j:wM}(n:Sub f (hs k))(o:Sub j (hs l)){a b:Nm}(p:Crt c S k f a)(q:Crt c S l j b)(d:a≠[])(e:b≠[]) :
  ∃m,Tag (hs m) a/\Tag (hs m) b:=by
 obtain⟨z,s,t,u⟩:=p;obtain⟨A,v,x,y⟩:=q;subst t;subst x;obtain⟨_,_,_,_,f1⟩:=j9 s;obtain⟨_,_,_,_,f2⟩:=j9 v;obtain⟨m,m1,m2,m3⟩:=az9 H.cf H.l (f1 d).1 (f2 e).1 (f1 d).2 (f2 e).2;exact⟨m,aEg H n u d m1 m3,aEg H o y e m2 m3⟩
def agm {j k:Int}{d f:wM}(l:Sub d (hs j))(n:Sub f (hs k)){a b:Nm}(o:Crt c S j d a)(p:Crt c S k f b)(q:a≠[])(s:b≠[])(e:aD a=aD b):a=b:=by obtain⟨m,t1,t2⟩:=axz H l n o p q s;exact are (H.g m) t1 t2 e
def aHT {i:Int}{h:wM}(s:Sub h (hs i)){n:Nm}(d:Crt c S i h n)(z:n≠[]):bg n=true/\∃m b,Sub b (hs m)/\Crt c S m b (fO n):=by obtain⟨m,t1,_⟩:=axz H s s d d z z;obtain⟨a,_,b,e,f⟩:=axy (H.g m) t1;exact⟨a,m,b,e,f⟩
def aHU {i:Int}{h:wM}(s:Sub h (hs i)){a:Nm}(d:Crt c S i h a)(t:auw a):∀(k:Nat) {j:Int} {l:wM} {n:Nm},Sub l (hs j)->Crt c S j l n->aD n=k->aD (fO (fO a))<=aD n->Anc (fO (fO a)) n:=by
 obtain⟨z,o,q,u,N,O⟩:=t;obtain⟨_,m2,P,v,x⟩:=aHT H s d o;obtain⟨p,m1,Q,A,B⟩:=aHT H v x q;intro k
 induction k using Nat.strongRecOn with
 |_ k C =>
  intro j l n f dn R D;have e:n≠[]:=fun E=>by subst E;have T:=amN (Db p) u;have W:=mX (fO (fO (fO a)));rw[SA]at D;omega
  by_cases F:aD n=aD (fO (fO a))
  .rw[agm H f A dn B e u F];exact Anc.refl _
  .by_cases G:aD n=aD (fO a)
   .rw[agm H f v dn x e q G];exact Ys p
   .by_cases I:aD n=aD a
    .rw[agm H f s dn d e o I];exact(Ys p).trans (Ys z)
    .obtain⟨m,t3,y⟩:=axz H s f d dn o e;have K:=auy (H.g m) t3 y (by omega);obtain⟨on,_,b,L,M⟩:=axy (H.g m) y;have X:=amN on e;have Y:=mX (fO n);exact(C (aD (fO n)).toNat (by omega) L M (by omega) K).trans (Ys on)
def auz {m n:Int}{j k:wM}(p:Sub j (hs m))(q:Sub k (hs n)){a b:Nm}(s:Crt c S m j a)(t:Crt c S n k b)(o:auw a)(d:auw b)(y:aD (fO (fO a))<=aD (fO (fO b))):Anc (fO (fO a)) (fO (fO b)):=by
 have u:=Ys d.1;have v:=Ys (Db d.1);have z:=d.2.2.2.2.1;have A:=d.2.2.2.2.2;have h:=aHU H p s o (aD b).toNat q t (by have:=mX b;omega) (by omega);have l:Anc (fO (fO b)) b:=v.trans u;rcases Nat.le_total (fO (fO a)).length (fO (fO b)).length with f|f
 .exact arc h l f
 .have x:=arc l h f;by_cases e:fO (fO b)=fO (fO a)
  .rw[e];exact Anc.refl _
  .have:=aHR (Db (Db o.1)) (Db (Db d.1)) x e;omega
end
def Mf (m:b0):bZ:=if m.1=1 then m.2.2.1.2 else if m.1=2 then m.2.2.2.1 else if m.1=3 then m.2.2.2.2.1 else cc
def adm (S:Nm->Int->Prop)(i:Int)(h:wM)(m:b0):Prop:=JV S i h (Mf m)
structure RI (c:Int×Int) (S:Nm->Int->Prop) (r:aw) (h:wM):Prop where
 g:Fair c S r.1 h
 s:r.2.2.2.1=te h
 d:r.2.2.2.2.2.2.1.1=cd (h.map (·.1)).reverse
 t:∀p∈r.2.2.2.2.2.1,JV S r.1 h p
 m:∀p∈r.2.2.2.2.2.2.2,adm S r.1 h p.2
def Up (c:Int×Int)(S:Nm->Int->Prop)(i su:Int)(h:wM)(r:aw):Prop:=∃a,RI c S r a/\Sub h a/\r.1=i/\r.2.2.2.2.2.2.1.2=su
section
variable {c:Int×Int} {S:Nm->Int->Prop} {i su:Int} {h:wM} {r:aw}
def RI.up (R:RI c S r h):Up c S r.1 r.2.2.2.2.2.2.1.2 h r:=⟨h,R,Sub.refl h,rfl,rfl⟩
def RI.up' (R:RI c S r h)(a:r.1=i)(b:r.2.2.2.2.2.2.1.2=su):Up c S i su h r:=⟨h,R,Sub.refl h,a,b⟩
def Up.bind {r':aw}(u:Up c S i su h r)(k:∀f,RI c S r f->Sub h f->r.1=i->r.2.2.2.2.2.2.1.2=su->Up c S i su f r'):Up c S i su h r':=by obtain⟨f,a,b,d,e⟩:=u;obtain⟨j,l,m,n,o⟩:=k f a b d e;exact⟨j,l,b.trans m,n,o⟩
def aEh (q:bZ)(a:nmQ q=[]):JV S i h q:=fun b=>absurd a b
def aHV (q:bZ)(b:q.2.2=[]):JV S i h q:=fun _ m a=>by rw[b]at a;cases a
def arf:JV S i h cc:=aEh _ rfl
def RI.same (R:RI c S r h){r':aw}(a:r'.1=r.1)(b:r'.2.2.2.1=r.2.2.2.1)(d:r'.2.2.2.2.2.2.1.1=r.2.2.2.2.2.2.1.1)(e:∀p∈r'.2.2.2.2.2.1,JV S r.1 h p)(f:∀p∈r'.2.2.2.2.2.2.2,adm S r.1 h p.2):RI c S r' h :=
 ⟨by rw[a];exact R.g,b.trans R.s,d.trans R.d,by rw[a];exact e,by rw[a];exact f⟩
def aCE:∀{h:wM},Fair c S i h->JV S i h (te h).2.2.1
 |[],_=>arf|_::_,g=>g.2.hi
def arh (c:Int×Int)(S:Nm->Int->Prop)(i:Int)(h:wM)(d:ByteArray):Prop:=d.data.toList=[]\/∃a,auw a/\Crt c S i h a/\d.data.toList=fO (fO a)
def arh.mono {f:wM}{d:ByteArray}(e:arh c S i h d)(s:Sub h f):arh c S i f d:=e.imp id fun ⟨n,a,b,e⟩=>⟨n,a,b.mono s,e⟩
def axA:∀{h:wM},Fair c S i h->arh c S i h (te h).2.2.2
 |[],_=>.inl rfl|_::_,g=>g.2.dn
def aHW {n:Nm}(h:bg n=true)(hs:Mc (a6 n).1=true):auw n:=by
 unfold Mc at hs;simp only[aG,bV,bf]at hs;obtain⟨u,d,f⟩:=hs;have z:∀l:Nm,0<(a6 l).1.length->l≠[]:=fun l p e=>by subst e;exact absurd p (by decide)
 have j:=z n (by omega);obtain⟨x,ex,v⟩:=afS h j;have A:(a6 n).1.length=(a6 (fO n)).1.length+1:=by rw[ex,aK];rfl
 have k:=z (fO n) (by omega);obtain⟨y,a,B⟩:=afS (Db h) k;have C:(a6 (fO n)).1.length=(a6 (fO (fO n))).1.length+1:=by rw[a,aK];rfl
 have m:=z (fO (fO n)) (by omega);obtain⟨w,b,D⟩:=afS (Db (Db h)) m;have q:(a6 (fO (fO n))).1.length=(a6 (fO (fO (fO n)))).1.length+1:=by rw[b,aK];rfl
 generalize (a6 (fO (fO (fO n)))).1=L at b q;rw[b]at a;rw[a]at ex;have e:(a6 n).1=L++[w,y,x]:=by rw[ex];simp
 have len:(a6 n).1.length=L.length+3:=by rw[e,aK];rfl
 have s:(a6 n).1.getD ((a6 n).1.length-1) (0,[])=x:=by rw[len,e,BG,axI (by omega),show L.length+3-1-L.length=2 by omega];rfl
 have o:(a6 n).1.getD ((a6 n).1.length-2) (0,[])=y:=by rw[len,e,BG,axI (by omega),show L.length+3-2-L.length=1 by omega];rfl
 have t:(a6 n).1.getD ((a6 n).1.length-3) (0,[])=w:=by rw[len,e,BG,axI (by omega),show L.length+3-3-L.length=0 by omega];rfl
 rw[s,o]at d;rw[o,t]at f;have E:=mX (fO n);have F:=mX (fO (fO n));rw[aI (by omega) (by omega)]at d f;exact⟨h,j,k,m,by omega,by omega⟩
def ari (g:Fair c S i h){q:bZ}(e:JV S i h q):(SP c (te h) q).1=(te h).1/\(te h).2.1<=(SP c (te h) q).2.1/\JV S i h (SP c (te h) q).2.2.1/\arh c S i h (SP c (te h) q).2.2.2:=by
 unfold SP;split
 .rename_i a;refine⟨rfl,?_,?_,?_⟩
  .show(te h).2.1<=tc _ _;unfold tc;split<;>omega
  .show JV S i h (OD q _);unfold OD;split
   .exact e
   .exact aCE g
  .dsimp only;split
   .rename_i d;have hs:JR q.2.1=true:=by
     cases f:JR q.2.1 with
     |true=>rfl
     |false =>
      have b:=d.1;rw[hZ,f,af Bool.false_ne_true]at b;cases b
    rw[hZ,ag hs];exact .inr ⟨nmQ q,aHW (j9 a.2).2.1 hs,⟨q,a.2,rfl,e⟩,by show(tx (fO (tx (fO (nmQ q))).data.toList)).data.toList=_;rw[fq,fq]⟩
   .exact axA g
 .exact⟨rfl,G1 _,aCE g,axA g⟩
def aAb (g:Fair c S i h){q:bZ}(e:JV S i h q)(j:bh c (SP c (te h) q)=true):axx c S i h (SP c (te h) q) none:=by obtain⟨a,b,d,f⟩:=ari g e;exact⟨j,Int.le_of_eq a.symm,b,fun _ k=>(by cases k),d.mono (Sub.cons _ h),f.mono (Sub.cons _ h)⟩
def aAc (R:RI c S r h)(s:bd)(t:Option Nm)(N:bh c s=true->axx c S r.1 h s t)(hs:eN r.2.2.2.1 s=true->t=none) :
  ∃b,RI c S (h8 c r s).1 b/\Sub h b/\(h8 c r s).1.1=r.1/\(h8 c r s).1.2.2.2.2.2.2.1.2=r.2.2.2.2.2.2.1.2/\((h8 c r s).2=true->∀n,t=some n->Tag b n):=by
 unfold h8;by_cases d:eN r.2.2.2.1 s=true
 .rw[ag d];exact⟨h,R,Sub.refl h,rfl,rfl,fun _ n a=>by rw[hs d]at a;cases a⟩
 .rw[af d];by_cases e:bh c s=true/\r.2.2.2.2.2.2.1.1.length+(dA s).length<=100000
  .rw[ag e];refine⟨(s,t)::h,⟨⟨R.g,N e.1⟩,rfl,?_,fun p f=>(R.t p f).mono (Sub.cons _ h),fun p f=>(R.m p f).mono (Sub.cons _ h)⟩,Sub.cons _ h,rfl,rfl,fun _ n a=>⟨s,by rw[a];exact pZ⟩⟩;show r.2.2.2.2.2.2.1.1++dA s=_;rw[R.d,tf,List.reverse_cons,cd,cd,auM];simp
  .rw[af e];exact⟨h,R,Sub.refl h,rfl,rfl,fun j=>by cases j⟩
def Mg (R:RI c S r h){q:bZ}(e:JV S r.1 h q):Up c S r.1 r.2.2.2.2.2.2.1.2 h (written c r q).1:=by obtain⟨k,a,b,d,f,_⟩:=aAc R (SP c r.2.2.2.1 q) none (fun j=>by rw[R.s]at j ⊢;exact aAb R.g e j) (fun _=>rfl);exact⟨k,a,b,d,f⟩
def amT (R:RI c S r h)(a:Int){m:b0}(b:adm S r.1 h m):Up c S r.1 r.2.2.2.2.2.2.1.2 h (lQ c r a m).1:=by
 unfold lQ;split
 .refine(R.same (r':=wb r (a,m)) rfl rfl rfl R.t fun p d=>?_).up;rcases gK.1 d with h1|h1
  .exact R.m p h1
  .rw[fm.1 h1];exact b
 .exact R.up
def Yt (R:RI c S r h)(v:Int):RI c S (tp r v) h:=R.same rfl rfl rfl R.t R.m
def adn (R:RI c S r h)(v:Int):RI c S (kg r v) h:=R.same rfl rfl rfl R.t R.m
def arj (R:RI c S r h)(p:List dH):RI c S (OK r p) h:=R.same rfl rfl rfl R.t R.m
def akv (R:RI c S r h):RI c S (F5 r) h:=R.same rfl rfl rfl R.t R.m
def RF (R:RI c S r h){t:List bZ}(a:∀p∈t,JV S r.1 h p):RI c S (fJ r t) h:=R.same rfl rfl rfl a R.m
def aHX (R:RI c S r h){q:bZ}(e:JV S r.1 h q):Up c S r.1 r.2.2.2.2.2.2.1.2 h (pX c r q).1:=by
 unfold pX;split
 .split
  .exact Mg R e
  .split
   .exact(Mg R e).bind fun f b j a d=>(Yt b _).up' a d
   .refine(Mg R e).bind fun f b j a d=>?_
    have:=amT (Yt b (aj (q.1+1))) (b4 c (aj (q.1+1))) (m:=kf (aj (q.1+1)) q r.1) (by show JV S _ f q;rw[show(tp (written c r q).1 (aj (q.1+1))).1=r.1 from a];exact e.mono j);rw[show(tp (written c r q).1 (aj (q.1+1))).1=r.1 from a,show(tp (written c r q).1 (aj (q.1+1))).2.2.2.2.2.2.1.2=r.2.2.2.2.2.2.1.2 from d]at this;exact this
 .exact R.up
def ark {t:List bZ}(a:∀p∈t,JV S i h p)(v:Int)(n:ByteArray):JV S i h (dk t v n):=by
 unfold dk;split
 .rename_i x b;exact a x (Vg b)
 .exact aHV _ rfl
def Zb {a b:ByteArray}(h:(a.toList==b.toList)=true):a.data.toList=b.data.toList:=by have:=UN a.data.toList b.data.toList;rw[<-Kd,<-Kd]at this;exact ng (this.symm.trans h)
def arl {p:bZ}(d:JV S i h p):∀{t:List bZ},(∀x∈t,JV S i h x)->∀x∈fg p t,JV S i h x
 |[],_,x,a=>by rw[fm.1 a];exact d
 |y::t,b,x,a=>by
  unfold fg at a;split at a
  .rcases cT.1 a with h1|h1
   .rw[h1];exact b y pZ
   .exact arl d (fun z k=>b z (jN y k)) x h1
  .split at a
   .rename_i hs;rcases cT.1 a with h1|h1
    .rw[h1];unfold sameAt at hs;simp only[aG]at hs;have f:nmQ y=nmQ p:=Zb hs.2;intro j m l;rcases aE5.1 (show m∈afA y.2.2 p.2.2 from l) with e|e
     .exact b y pZ j m e
     .have:=d (by rw[<-f];exact j) m e;rw[<-f]at this;exact this
    .exact b x (jN y h1)
   .rcases cT.1 a with h1|h1
    .rw[h1];exact d
    .exact b x h1
def SY {p:bZ}(b:JV S i h p){t:List bZ}(a:∀x∈t,JV S i h x):∀x∈(bs c t p).1,JV S i h x:=by
 unfold bs;split
 .exact arl b a
 .exact a
def arn (R:RI c S r h)(v:Int)(n:ByteArray)(p:Bool):Up c S r.1 r.2.2.2.2.2.2.1.2 h (fI c r v n p).1:=by
 unfold fI;split
 .exact R.up
 .split
  .split
   .exact aHX R (ark R.t _ _)
   .exact R.up
  .split
   .exact R.up
   .exact amT R _ (ark R.t _ _)
end
section
variable {c:Int×Int} {S:Nm->Int->Prop} {i su:Int} {h:wM} {r:aw}
def aJu (v:Int)(n:ByteArray)(a:Tag h n.data.toList):JV S i h (one v n i):=fun _ m b=>.inr ⟨fm.1 b,a⟩
def aAd (v cw:Int):JV S i h (one v ak cw):=aEh _ rfl
def aKB (R:RI c S r h)(n:ByteArray)(a:Tag h n.data.toList):Up c S r.1 r.2.2.2.2.2.2.1.2 h (own c r n).1:=by
 unfold own;split
 .exact arn (RF R (SY (aJu _ n a) R.t)) _ _ _
 .exact R.up
def aFN (g:Fair c S i h){b:cq}(e:JV S i h b.2)(a:h7 c (SP c (te h) b.2) b=true)(m:bh c (nu b,(SP c (te h) b.2).2)=true) :
  axx c S i h (nu b,(SP c (te h) b.2).2) (some b.1.data.toList):=by
 obtain⟨z,o,p,q⟩:=ari (c:=c) g e;unfold h7 at a;simp only[aG,bV]at a;obtain⟨m1,m2,m3,m4⟩:=a;unfold fF at m2;simp only[aG,ai6]at m2;obtain⟨d,s,j,t⟩:=m2;have f:fO b.1.data.toList=nmQ b.2:=by have:=Zb t;rw[fq]at this;exact this
 have u:b.1.data.toList≠[]:=fun v=>by rw[(rE b.1).2 v]at j;cases j
 have hs:bh c (te h)=true:=by
  cases k:bh c (te h) with
  |true=>rfl
  |false =>
   unfold SP at m1;rw[af (fun l=>by rw[k]at l;cases l.1),k]at m1;exact m1
 have x:aD (fO (nmQ b.2))<=(SP c (te h) b.2).2.1:=by unfold SP;rw[ag ⟨hs,d⟩];show _<=tc _ (aD (fO (nmQ b.2)));unfold tc;split<;>omega
 have A:=(j9 d).2.2.1;refine⟨m,?_,o,fun n y=>?_,p.mono (Sub.cons _ h),q.mono (Sub.cons _ h)⟩
 .show(te h).1<=aD b.1.data.toList;omega
 .cases y;refine⟨s,u,rfl,?_,?_,?_,?_⟩
  .omega
  .rw[f];exact x
  .rw[f];show(SP c (te h) b.2).2.1<=aD b.2.2.1.data.toList;omega
  .rw[f];exact⟨b.2,d,rfl,e⟩
def aHY (R:RI c S r h)(b:cq):RI c S (jD r b) h/\(jD r b).1=r.1/\(jD r b).2.2.2.2.2.2.1.2=r.2.2.2.2.2.2.1.2/\(jD r b).2.2.2.1=r.2.2.2.1:=by
 unfold jD;split
 .exact⟨adn R _,rfl,rfl,rfl⟩
 .exact⟨R,rfl,rfl,rfl⟩
def agn (R:RI c S r h){b:cq}(e:JV S r.1 h b.2):Up c S r.1 r.2.2.2.2.2.2.1.2 h (e9 c r b).1:=by
 obtain⟨o,l,p,q⟩:=aHY R b;have s:=aAc o (tI c r b) (if iY c r b=true then some b.1.data.toList else none) (fun f=>?_) (fun m=>?_)
 .unfold e9 B8;obtain⟨t,a,n,f1,f2,f3⟩:=s;rw[l]at f1;rw[p]at f2;split
  .rename_i u;split
   .rename_i d;split
    .have v:=f3 u b.1.data.toList (by rw[ag d]);obtain⟨k,x,y,z,A⟩:=aKB a b.1 v;exact⟨k,x,n.trans y,z.trans f1,A.trans f2⟩
    .exact R.up
   .exact⟨t,a,n,f1,f2⟩
  .exact R.up
 .rw[l];have hs:r.2.2.2.1=te h:=R.s;unfold tI at f ⊢;by_cases d:iY c r b=true
  .rw[ag d]at f ⊢;rw[ag d];have j:h7 c (SP c r.2.2.2.1 b.2) b=true:=by unfold iY at d;exact(aG _ _▸d:_/\_).2
   rw[hs]at f j ⊢;exact aFN R.g e j f
  .rw[af d]at f ⊢;rw[af d];rw[hs]at f ⊢;exact aAb R.g e f
 .by_cases d:iY c r b=true
  .exfalso;rw[q]at m;have:=azi m;unfold tI at this;rw[ag d]at this;have j:h7 c (SP c r.2.2.2.1 b.2) b=true:=by unfold iY at d;exact(aG _ _▸d:_/\_).2
   unfold h7 at j;simp only[aG,bV]at j;have C:=j.2.2.1;have k:=(ari (c:=c) R.g e).1;rw[<-R.s]at k;have B:=oh Prod.fst this;have D:r.2.2.2.1.1=aD b.1.data.toList:=B;omega
  .rw[af d]
def aAe (R:RI c S r h){p:bZ}(e:JV S r.1 h p):Up c S r.1 r.2.2.2.2.2.2.1.2 h (iL c r p).1:=by
 unfold iL;split
 .exact arn (RF R (SY e R.t)) _ _ _
 .exact R.up
def aAf (R:RI c S r h)(l:Bool)(v:Int)(q:bZ)(a:r.1=i)(b:r.2.2.2.2.2.2.1.2=su):Up c S i su h (Me l r v q):=by
 unfold Me;split
 .exact(Yt (Yt R _) _).up' a b
 .exact(Yt R _).up' a b
def aAg (R:RI c S r h)(imp:Bool)(v:Int){q:bZ}(cw:Int)(e:JV S r.1 h q):Up c S r.1 r.2.2.2.2.2.2.1.2 h (iM imp c r v q cw).1:=by
 unfold iM;split
 .unfold rG;split
  .split
   .exact(Mg R e).bind fun f a j b d=>aAf (RF a (SY (aAd _ _) a.t)) _ _ _ b d
   .exact R.up
  .exact(Mg R e).bind fun f a j b d=>aAf a _ _ _ b d
 .exact R.up
def aHZ (R:RI c S r h)(imp:Bool){m:b0}(e:adm S r.1 h m):Up c S r.1 r.2.2.2.2.2.2.1.2 h (uo imp c r m).1:=by
 unfold adm Mf at e;unfold uo;split
 .rename_i a;rw[ag a]at e;exact agn R e
 .rename_i a;rw[af a]at e;split
  .rename_i b;rw[ag b]at e;exact aAe R e
  .rename_i b;rw[af b]at e;split
   .rename_i d;rw[ag d]at e;exact aAg R imp _ _ e
   .exact(arj R _).up
def aEi (R:RI c S r h)(imp:Bool){m:b0}(e:adm S r.1 h m):Up c S r.1 r.2.2.2.2.2.2.1.2 h (GU imp c r m).1:=by
 unfold GU;split
 .exact(aHZ R imp e).bind fun j a k b d=>(arj (RF a fun p f=>a.t p (List.mem_filter.1 f).1) _).up' b d
 .exact R.up
def aH0 (R:RI c S r h):JV S r.1 h r.2.2.2.1.2.2.1:=by rw[R.s];exact aCE R.g
def aH1 (R:RI c S r h):Up c S r.1 r.2.2.2.2.2.2.1.2 h (B7 c r).1:=by
 unfold B7;split
 .exact R.up
 .split
  .split
   .exact(RF (adn R (aj (r.2.1+1))) (SY (aAd _ _) R.t)).up' rfl rfl
   .exact R.up
  .split
   .have a:JV S r.1 h r.2.2.2.1.2.2.1:=aH0 R;exact amT (adn R (aj (r.2.1+1))) _ (m:=kf _ r.2.2.2.1.2.2.1 r.1) a
   .exact R.up
def aiZ (R:RI c S r h){m:b0}(e:adm S r.1 h m):∀(j k:Nat) {o:aw},Up c S r.1 r.2.2.2.2.2.2.1.2 h o->Up c S r.1 r.2.2.2.2.2.2.1.2 h (rF c r m j k o).1
 |0,_,o,a=>a|j+1,k,o,a=>by
  unfold rF;split
  .exact aiZ R e j (k+1) a
  .split
   .refine aiZ R e j (k+1) (a.bind fun n d f b l=>?_);have:=amT (c:=c) d (k:Int) (m:=m) (by rw[b];exact JV.mono e f);rw[b,l]at this;exact this
   .exact R.up
def aEj (R:RI c S r h):JV S r.1 h (ask c r).1.2:=by
 unfold ask;split
 .unfold iK;split
  .exact aH0 R
  .exact arf
 .exact arf
def aJv (R:RI c S r h):Up c S r.1 r.2.2.2.2.2.2.1.2 h (Ym c r).1:=by
 unfold Ym;split
 .split
  .have d:Up c S r.1 r.2.2.2.2.2.2.1.2 h (aiS c r).1:=aiZ (akv R) (m:=aqM (ask c r).1) (aEj R) _ _ (akv R).up;refine d.bind fun k e f a j=>?_
   have:=agn (c:=c) e (b:=(ask c r).1) (by rw[a];exact(aEj R).mono f);rw[a,j]at this;exact this
  .exact R.up
 .exact R.up
def auA (R:RI c S r h):∀k,Up c S r.1 r.2.2.2.2.2.2.1.2 h (tK c r k).1
 |0=>R.up|k+1=>by
  unfold tK;split
  .exact auA R k
  .split
   .exact arn R _ _ _
   .exact R.up
def aJw (R:RI c S r h)(imp:Bool)(m:b0):Up c S r.1 r.2.2.2.2.2.2.1.2 h (axo imp c r m).1:=by
 unfold axo;split
 .rename_i a;refine aEi R imp ?_;unfold adm Mf;rw[af (by omega),af (by omega),af (by omega)];exact arf
 .exact R.up
def aro (a b:List bd):cd (a++b)=cd a++cd b:=by simp[cd]
def aEk:∀{h:wM},Fair c S i h->∀x∈h,bh c x.1=true
 |[],_,x,a=>by cases a
 |y::h,g,x,a=>by
  rcases cT.1 a with h1|h1
  .rw[h1];exact g.2.ok
  .exact aEk g.1 x h1
def aFO (h:wM):(h.map (·.1)).reverse.getLastD kd=te h:=by
 cases h with
 |nil=>rfl|cons x h=>simp[te]
def axB (R:RI c S r h){d:oN}{k:Nat}(z:d.1=r.2.2.2.2.2.2.1.1.take k) :
  ∃n,RI c S (aw5 c (EZ r d)) n/\Sub n h/\(∀a,Sub a h->(cd (a.map (·.1)).reverse).length<=k->Sub a n)/\(aw5 c (EZ r d)).1=r.1/\(aw5 c (EZ r d)).2.2.2.2.2.2.1.2=((cd (n.map (·.1)).reverse).length:Int):=by
 have o:∀x∈(h.map (·.1)).reverse,bh c x=true:=fun x m=>by obtain⟨y,A,rfl⟩:=E2.1 (List.mem_reverse.1 m);exact aEk R.g y A
 obtain⟨b,t,B,C,e,Q,D⟩:=ac3 k o;have hlen:(h.map (·.1)).reverse.length=h.length:=by simp
 have q:(h.map (·.1)).reverse.take b=((h.drop (h.length-b)).map (·.1)).reverse:=by rw[List.take_reverse,List.map_drop];simp
 have E:Sub (h.drop (h.length-b)) h:=⟨h.take (h.length-b),(ZM _ _).symm⟩;have F:Fair c S r.1 (h.drop (h.length-b)):=by have:=R.g;rw[<-ZM (h.length-b) h]at this;exact this.sub
 have s:=Bz C (l:=(h.map (·.1)).reverse.take b) (fun x m=>o x (Vi m));have u:(EZ r d).2.2.2.2.2.2.1.1=cd ((h.map (·.1)).reverse.take b)++t:=by show d.1=_;rw[z,R.d,e]
 refine⟨h.drop (h.length-b),⟨F,?_,?_,fun p f=>absurd f abD,fun p f=>absurd f abD⟩,E,fun a G I=>?_,rfl,?_⟩
 .show(cD c (EZ r d).2.2.2.2.2.2.1.1).1=_;rw[u,s,q];exact aFO _
 .show(EZ r d).2.2.2.2.2.2.1.1.take (cD c (EZ r d).2.2.2.2.2.2.1.1).2=_;rw[u,s,<-q];exact abE
 .obtain⟨p,f⟩:=G;have v:a.length<=h.length:=by rw[f,aK];omega
  have K:(h.map (·.1)).reverse.take a.length=(a.map (·.1)).reverse:=by rw[f,adr,List.reverse_append];exact am4 (by simp)
  have j:=D a.length (by rw[hlen];exact v) (by rw[K];exact I);have T:a.length<=b:=by
   rcases j with j|j
   .exact j
   .rcases S2 b a.length with hlt|L
    .exfalso;have M:(h.map (·.1)).reverse.take a.length=(h.map (·.1)).reverse.take b++((h.map (·.1)).reverse.take a.length).drop b:=by have:=ZM b ((h.map (·.1)).reverse.take a.length);rw[List.take_take,ads (by omega)]at this;exact this.symm
     rw[M,aro]at j;have N:=oh List.length j;rw[aK]at N;have O:=ac2 (c:=c) (l:=((h.map (·.1)).reverse.take a.length).drop b) fun x m=>o x (Vi (auK m))
     rw[bc,bz,hlen]at O;omega
    .exact L
  refine⟨(h.drop (h.length-b)).take ((h.drop (h.length-b)).length-a.length),?_⟩;have P:a=(h.drop (h.length-b)).drop ((h.drop (h.length-b)).length-a.length):=by rw[am5,bc,f,aK];rw[show p.length+a.length-b+(p.length+a.length-(p.length+a.length-b)-a.length)=p.length by rw[f,aK]at v;rw[hlen,f,aK]at B;omega];exact am6.symm
  conv=>rhs;rhs;rw[P]
  exact(ZM _ _).symm
 .show((cD c (EZ r d).2.2.2.2.2.2.1.1).2:Int)=_;rw[u,s,q]
end
def Sd (w:ah):Nm->Int->Prop:=fun n m=>m∈w.2.1\/∃x∈w.2.2.2.2,x.2.1.data.toList=n/\x.2.2=m
def szG (h:wM):Nat:=(cd (h.map (·.1)).reverse).length
structure WI (w:ah) (hs:Nat->wM):Prop where
 r:∀(k:Nat) (hk:k<w.2.2.1.length),RI w.1 (Sd w) w.2.2.1[k] (hs k)
 s:∀x∈w.2.2.2.2,∃(k:Nat) (hk:k<w.2.2.1.length),x.2.2=(k:Int)/\∃h1,Sub h1 (hs k)/\Tag h1 x.2.1.data.toList/\(szG h1:Int)<=(w.2.2.1[k]).2.2.2.2.2.2.1.2
 n:∀x∈w.2.2.2.1,adm (Sd w) (-1) [] (gy w.1 x.2).1
def arp (l:List Int):∀k,∀x∈j7 l k,x ∉ l
 |0,x,h=>by cases h
 |k+1,x,h=>by
  unfold j7 at h;rcases gK.1 h with h1|h1
  .exact arp l k x h1
  .split at h1
   .cases h1
   .rename_i a;rw[fm.1 h1];exact a
def aEm {c:Int×Int}{S:Nm->Int->Prop}{i:Int}{a h:wM}(s:Sub a h):szG a<=szG h:=by obtain⟨p,rfl⟩:=s;unfold szG;rw[adr,List.reverse_append,aro,aK];omega
def aJx {S:Nm->Int->Prop}{i:Int}{h:wM}{q:bZ}(e:JV S (-1) [] q):JV S i h q:=fun a m b=>.inl (by
 rcases e a m b with d|⟨_,x,f⟩
 .exact d
 .cases f)
def RI.said {c:Int×Int}{S S':Nm->Int->Prop}{r:aw}{h:wM}(a:∀n m,S n m->S' n m)(R:RI c S r h):RI c S' r h:=⟨R.g.said a,R.s,R.d,fun p b=>(R.t p b).said a,fun p b=>JV.said a (R.m p b)⟩
section
variable {w:ah} {hs:Nat->wM}
def WI.set (W:WI w hs){k:Nat}(q:k<w.2.2.1.length){r':aw}{f:wM}(R:RI w.1 (Sd w) r' f)
  (m:∀b,Sub b (hs k)->(szG b:Int)<=(w.2.2.1[k]).2.2.2.2.2.2.1.2->Sub b f/\(szG b:Int)<=r'.2.2.2.2.2.2.1.2) :
  WI (dX w (k:Int) r') (fun a=>if a=k then f else hs a):=by
 have hlen:(dX w (k:Int) r').2.2.1=w.2.2.1.set k r':=rfl;refine⟨fun a d=>?_,fun x n=>?_,W.n⟩
 .by_cases e:a=k
  .subst e;have:(dX w (a:Int) r').2.2.1[a]=r':=by simp[hlen]
   rw[this,ag rfl];exact R
  .have o:a<w.2.2.1.length:=by rw[hlen,ni]at d;exact d
   have:(dX w (k:Int) r').2.2.1[a]=w.2.2.1[a]:=by simp only[hlen];exact auN (fun h=>e h.symm) _
   rw[this,af e];exact W.r a o
 .obtain⟨a,d,p,b,j,t1,l⟩:=W.s x n;refine⟨a,by rw[hlen,ni];exact d,p,b,?_,t1,?_⟩
  .by_cases e:a=k
   .subst e;rw[ag rfl];exact(m b j l).1
   .rw[af e];exact j
  .by_cases e:a=k
   .subst e;have:(dX w (a:Int) r').2.2.1[a]'(by rw[hlen,ni];exact d)=r':=by simp[hlen]
    rw[this];exact(m b j l).2
   .have:(dX w (k:Int) r').2.2.1[a]'(by rw[hlen,ni];exact d)=w.2.2.1[a]:=by simp only[hlen];exact auN (fun h=>e h.symm) _
    rw[this];exact l
def WI.up (W:WI w hs){k:Nat}(a:k<w.2.2.1.length){r':aw}(u:Up w.1 (Sd w) (w.2.2.1[k]).1 (w.2.2.1[k]).2.2.2.2.2.2.1.2 (hs k) r'):∃b,WI (dX w (k:Int) r') b:=by obtain⟨l,d,s,_,e⟩:=u;exact⟨_,W.set a d fun m f j=>⟨f.trans s,by rw[e];exact j⟩⟩
def Mh {a:Int}{k:Nat}(e:a=(k:Int))(b:k<w.2.2.1.length):bP w a=w.2.2.1[k]:=by subst e;unfold bP;rw[gr];exact aJ b _
def WI.net (W:WI w hs){a:List gw}(b:∀x∈a,adm (Sd w) (-1) [] (gy w.1 x.2).1):WI (Yp w a) hs:=⟨W.r,W.s,b⟩
def aJy (G:aF w)(W:WI w hs){k:Nat}(a:k<w.2.2.1.length)(imp:Bool){d:de}(e:d.2.1=(k:Int)):∃m,WI (agi imp w d).1 m:=by
 have b:=W.r k a;unfold agi;rw[Mh e a,e];dsimp only;unfold adh;split
 .exact W.up a (aJv b)
 .split
  .exact W.up a (auA b _)
  .split
   .split
    .exact W.up a (aH1 b)
    .exact W.up a b.up
   .split
    .have f:=(G.g _ (bH a)).f.d;have t:=Rw f d.2.2.1;have u:=cv.1 f;have n:(ej (w.2.2.1[k]).2.2.2.2.2.2.1 d.2.2.1).1=(w.2.2.1[k]).2.2.2.2.2.2.1.1.take (F3 (w.2.2.1[k]).2.2.2.2.2.2.1 d.2.2.1).toNat:=by unfold ej;rw[ag f]
     obtain⟨v,o,x,p,_,q⟩:=axB b n;refine⟨_,W.set a o fun j s y=>?_⟩;have l:=p j s (by show szG j<=_;omega);refine⟨l,?_⟩;show(szG j:Int)<=(aw5 w.1 (EZ (w.2.2.1[k]) (ej (w.2.2.1[k]).2.2.2.2.2.2.1 d.2.2.1))).2.2.2.2.2.2.1.2;rw[q];have:=aEm (c:=w.1) (S:=Sd w) (i:=0) l;unfold szG at this ⊢;omega
    .exact W.up a (aJw b imp _)
def aH2 (W:WI w hs){a:Int}(n:0<=a)(o:a<w.2.2.2.1.length):∃j,WI (agh true w a) j:=by
 have b:cV w a∈w.2.2.2.1:=by unfold cV;rw[aJ (show a.toNat<w.2.2.2.1.length by omega)];exact bH _
 have d:WI (OL w a) hs:=W.net fun x b=>W.n x (adk b)
 unfold agh;split
 .rename_i l;have m:=dB l;obtain⟨k,e,f⟩:∃k:Nat,(cV w a).1=(k:Int)/\k<w.2.2.1.length:=⟨(cV w a).1.toNat,(JW m.1).symm,by omega⟩;unfold aiT;rw[Mh e f,e];exact d.up (k:=k) f (aEi (d.r _ f) true (aJx (W.n _ b)))
 .exact⟨hs,d⟩
def ado {q:bZ}(h:Jz w.2.1 w.2.2.2.2 q=true):JV (Sd w) (-1) [] q:=fun e m b=>.inl (by
 have:=eb.1 h m b;unfold RA at this;rcases(kj _ _).mp this with h1|h1
 .exact .inl (ng h1)
 .obtain⟨x,d,a⟩:=auS.1 h1;unfold isSaid at a;simp only[aG]at a;exact .inr ⟨x,d,Zb a.2.1,eq_of_beq a.2.2⟩)
def aJz {m:b0}(h:GV w.1 w.2.1 w.2.2.2.2 m=true):c9 w.1 m=true/\adm (Sd w) (-1) [] m:=by
 unfold GV at h;simp only[aG]at h;refine⟨h.1,?_⟩;have a:=h.2;unfold adm Mf;split
 .rename_i b;rw[ag b]at a;exact ado ((aG _ _).mp a).2
 .rename_i b;rw[af b]at a;split
  .rename_i d;rw[ag d]at a;exact ado a
  .rename_i d;rw[af d]at a;split
   .rename_i e;rw[ag e]at a;exact ado ((aG _ _).mp a).2
   .exact arf
def aEn (W:WI w hs){d:de}(f:H0 d=true->0<=d.2.1/\d.2.1<w.2.2.2.1.length):∃j,WI (aq3 w d).1 j:=by
 unfold aq3;split
 .rename_i k;obtain⟨a,b⟩:=f (eC.2 (.inl k));exact aH2 W a b
 .split
  .exact⟨hs,W.net fun x e=>W.n x (adk e)⟩
  .split
   .rename_i l;obtain⟨a,b⟩:=f (eC.2 (.inr (.inr l)));refine⟨hs,W.net fun x e=>?_⟩;rcases gK.1 e with h1|h1
    .exact W.n x h1
    .rw[fm.1 h1];refine W.n _ ?_;unfold cV;rw[aJ (show d.2.1.toNat<w.2.2.2.1.length by omega)];exact bH _
   .split
    .rename_i m;obtain⟨n,o⟩:=aJz m;refine⟨hs,W.net fun x e=>?_⟩;rcases gK.1 e with h1|h1
     .exact W.n x h1
     .rw[fm.1 h1];show adm _ _ _ (gy w.1 (Dd d.2.2.2)).1;rw[aiF n];exact o
    .exact⟨hs,W⟩
end
def aAh {l:List cJ}{x:cJ}(h:x∈l)(y:cJ):x∈Dh l y:=by
 unfold Dh;split
 .exact List.mem_append_left _ h
 .exact h
def adp {U V:Type}{f:List U->V->List U}(a:∀l y x,x∈l->x∈f l y):∀(ys:List V) {l:List U} {x:U},x∈l->x∈ys.foldl f l
 |[],_,_,h=>h|y::ys,l,x,h=>adp a ys (a l y x h)
def axC (id:Int)(ps:List jB){l:List cJ}{x:cJ}(h:x∈l):x∈Y8 id ps l :=
 adp (fun l p x h=>adp (fun l y x h=>aAh h y) _ h) ps h
def akw {c:Int×Int}:∀{ps:List jB} {l:List gw} {x:gw},x∈aqY c ps l->x∈l\/∃p∈ps,c9 c p.2=true/\x=(p.1,Dd p.2)
 |[],_,_,h=>.inl h|p::ps,l,x,h=>by
  rcases akw (ps:=ps) (l:=abC c l p) h with a|⟨q,d,e⟩
  .unfold abC at a;split at a
   .rename_i f;rcases gK.1 a with b|b
    .exact .inl b
    .exact .inr ⟨p,pZ,f.2.1,fm.1 b⟩
   .exact .inl a
  .exact .inr ⟨q,jN p d,e⟩
def arq {id:Int}{q:bZ}{x:cJ}:x∈UR id q↔x=(q.1,q.2.1,id)/\nmQ q≠[]/\id∈q.2.2:=by
 unfold UR;by_cases a:dj q.2.1=true
 .rw[ag a];have:=(rE q.2.1).1 a;exact⟨fun h=>(by cases h),fun h=>absurd this h.2.1⟩
 .rw[af a];have d:nmQ q≠[]:=fun e=>a ((rE q.2.1).2 e)
  by_cases b:id∈q.2.2
  .rw[ag b,fm];exact⟨fun h=>⟨h,d,b⟩,fun h=>h.1⟩
  .rw[af b];exact⟨fun h=>(by cases h),fun h=>absurd h.2.2 b⟩
def auB {c:Int×Int}{id:Int}{m:b0}(a:c9 c m=true){x:cJ}:x∈cH id m↔x=((Mf m).1,(Mf m).2.1,id)/\nmQ (Mf m)≠[]/\id∈(Mf m).2.2:=by
 unfold cH Mf;rcases SO a with ⟨h,_⟩|h|⟨h,_⟩|h
 .rw[af (by omega),af (by omega),ag h,ag h];exact arq
 .rw[af (by omega),ag h,af (by omega),ag h];exact arq
 .rw[af (by omega),af (by omega),af (by omega),af (by omega),af (by omega),ag h];exact arq
 .rw[ag h,af (by omega),af (by omega),af (by omega)];exact⟨fun h=>(by cases h),fun h=>absurd rfl h.2.1⟩
section
variable {w:ah} {hs:Nat->wM}
def aAi (G:aF w)(W:WI w hs){a:Int}{k:Nat}(o:k<w.2.2.1.length)(e:a=(k:Int))(I:a∈av w):∃Z,WI (lO w a).1 Z:=by
 have K:=Mh (w:=w) e o;have qd:a ∉ w.2.1:=arp _ _ a I;have q:lN w a (a1 w a)=(w.1,w.2.1,w.2.2.1,w.2.2.2.1,Y8 a (a1 w a) w.2.2.2.2):=ag I;have B:a1 w a=(w.2.2.1[k]).2.2.2.2.2.2.2:=by unfold a1;rw[K]
 have C:=W.r k o;have L:=G.g _ (bH o);have hid:(w.2.2.1[k]).1=(k:Int):=G.id k o;unfold lO;split
 .rename_i M;split
  .rw[q]at M;have v:∀n m,Sd w n m->Sd (uq (gz w a) (a1 w a)) n m:=by
    intro n m h;unfold gz;rw[q];rcases h with h|⟨x,d,h⟩
    .exact .inl h
    .exact .inr ⟨x,axC a _ d,h⟩
   have D:(uq (gz w a) (a1 w a)).2.2.1=w.2.2.1.set k (HZ w.2.2.1[k]):=by unfold gz;rw[q,K,e];rfl
   have N:(uq (gz w a) (a1 w a)).2.2.2.2=Y8 a (a1 w a) w.2.2.2.2:=by unfold gz;rw[q];rfl
   have qe:(uq (gz w a) (a1 w a)).2.2.2.1=aqY w.1 (a1 w a) w.2.2.2.1:=by unfold gz;rw[q];rfl
   have O:(uq (gz w a) (a1 w a)).1=w.1:=by unfold gz;rw[q];rfl
   have P:((HZ w.2.2.1[k]).2.2.2.2.2.2.1.2:Int)=(szG (hs k):Int):=by show(hD _).2=_;unfold hD szG;rw[ag L.f.d,<-C.d]
   have qf:∀p∈a1 w a,nmQ (Mf p.2)≠[]->a∈(Mf p.2).2.2->Tag (hs k) (nmQ (Mf p.2)):=by
    intro p f s t;rw[B]at f;rcases C.m p f s a t with (h1|⟨x,d,Q,R⟩)|h1
    .exact absurd h1 qd
    .obtain⟨b,j,u,h1,y,t1,_⟩:=W.s x d;have:b=k:=by omega
     subst this;rw[<-Q];exact t1.mono y
    .exact h1.2
   have E:∀(b:Nat) (j:b<(uq (gz w a) (a1 w a)).2.2.1.length),(b=k/\(uq (gz w a) (a1 w a)).2.2.1[b]=HZ w.2.2.1[k])\/(b≠k/\∃F:b<w.2.2.1.length,(uq (gz w a) (a1 w a)).2.2.1[b]=w.2.2.1[b]):=by
    intro b j;simp only[D]at j ⊢;rw[ni]at j;by_cases u:b=k
    .subst u;exact .inl ⟨rfl,by simp⟩
    .exact .inr ⟨u,j,auN (fun h=>u h.symm) _⟩
   refine⟨hs,⟨fun b j=>?_,fun x d=>?_,fun x d=>?_⟩⟩
   .rw[O];rcases E b j with ⟨rfl,l⟩|⟨_,F,l⟩
    .rw[l];refine((W.r b o).said v).same rfl rfl (aq9 _) ((W.r b o).said v).t fun p f=>absurd f abD
    .rw[l];exact(W.r b F).said v
   .rw[N]at d;have T:k<(uq (gz w a) (a1 w a)).2.2.1.length:=by rw[D,ni];exact o
    rcases Yo d with d|⟨p,f,d⟩
    .obtain⟨b,j,u,h1,y,t1,qg⟩:=W.s x d;have X:b<(uq (gz w a) (a1 w a)).2.2.1.length:=by rw[D,ni];exact j
     refine⟨b,X,u,h1,y,t1,?_⟩;rcases E b X with ⟨rfl,l⟩|⟨_,F,l⟩
     .rw[l,P];have:=aEm (c:=w.1) (S:=Sd w) (i:=0) y;omega
     .rw[l];exact qg
    .have z:c9 w.1 p.2=true:=by rw[B]at f;exact L.axp p f
     obtain⟨rfl,s,t⟩:=(auB z).1 d;refine⟨k,T,e,hs k,Sub.refl _,qf p f s t,?_⟩;rcases E k T with ⟨_,l⟩|⟨qh,_⟩
     .rw[l,P];exact G1 _
     .exact absurd rfl qh
   .rw[O];rw[qe]at d;rcases akw d with d|⟨p,f,z,rfl⟩
    .exact JV.said v (W.n x d)
    .show adm _ _ _ (gy w.1 (Dd p.2)).1;rw[aiF z];intro s m t;have Y:=f;rw[B]at Y;rcases C.m p Y s m t with h1|⟨h1,Q⟩
     .exact .inl (v _ _ h1)
     .refine .inl (.inr ?_);rw[N];have qi:m=a:=by omega
      subst qi;have R:((Mf p.2).1,(Mf p.2).2.1,m)∈cH m p.2:=(auB z).2 ⟨rfl,s,t⟩;have qj:=eb.1 (eb.1 M p f) _ R;obtain⟨x,d,A⟩:=auS.1 qj;unfold isSaid at A;simp only[aG]at A;exact⟨x,d,Zb A.2.1,eq_of_beq A.2.2⟩
  .exact⟨hs,W⟩
 .exact⟨hs,W⟩
def ars (h:aF w)(W:WI w hs)(d:de):∃j,WI (US w d) j:=by
 unfold US;split
 .rename_i e;unfold doI at e ⊢;cases n:gp 1 10 d.1 with
  |false=>rw[n,af (by decide)]at e;exact absurd (show(1:Int)=0 from e) (by decide)
  |true =>
   rw[n,ag rfl]at e;rw[ag rfl];cases b:GW w d with
   |false=>rw[b,af (by decide)]at e;exact absurd (show(2:Int)=0 from e) (by decide)
   |true =>
    rw[b,ag rfl]at e;rw[ag rfl];have q:∃j,WI (aiV w d).1 j:=by
     unfold aiV;by_cases o:d.1=2
     .have a:d.2.1∈av w:=by rw[td (fun a=>by have:=eC.1 a;omega) (by omega)]at b;exact ng b
      obtain⟨l,s⟩:=dB a;rw[ag o];exact aAi h W (k:=d.2.1.toNat) (by omega) (JW l).symm a
     .rw[af o];by_cases f:H0 d=true
      .have t:gp 0 (aj ((w.2.2.2.1.length:Int)-1)) d.2.1=true:=by rw[JU f]at b;exact b
       rw[ag (.inl f)];exact aEn W fun _=>RC h t
      .by_cases m:d.1=10
       .rw[ag (.inr m)];exact aEn W fun a=>absurd a f
       .have a:d.2.1∈av w:=by rw[td f m]at b;exact ng b
        obtain⟨l,s⟩:=dB a;rw[af (fun a=>a.elim f m)];exact aJy h W (k:=d.2.1.toNat) (by omega) true (JW l).symm
    unfold axr;by_cases p:(aiV w d).2=0
    .rw[ag p];split
     .exact q
     .exact⟨hs,W⟩
    .rw[af p];exact⟨hs,W⟩
 .exact⟨hs,W⟩
end
def auC:∀(list:List de) {w:ah} {hs:Nat->wM},aF w->WI w hs->∃a,WI (Yq w list) a
 |[],_,hs,_,W=>⟨hs,W⟩|d::list,w,hs,G,W=>by obtain⟨a,b⟩:=ars G W d;exact auC list (agj G d) b
def aJA (c:Int×Int)(liars:List Int):WI (RD c liars) fun _=>[]:=by
 refine⟨fun k d=>?_,fun x a=>(by cases a),fun x a=>(by cases a)⟩;have:(RD c liars).2.2.1[k]=GX (k:Int):=by simp[RD]
 rw[this];exact⟨trivial,rfl,rfl,fun p b=>(by cases b),fun p b=>(by cases b)⟩
def ON (w:ah)(hs:Nat->wM)(i:Int):wM:=if 0<=i/\i<w.2.2.1.length then hs i.toNat else []
def WI.aH3 {w:ah}{hs:Nat->wM}(G:aF w)(W:WI w hs):aHS w.1 w.2.1 (Sd w) (ON w hs):=by
 refine⟨G.c,G.lf,fun n m h=>?_,fun i=>?_⟩
 .rcases h with h|⟨x,b,d,e⟩
  .exact .inl h
  .obtain⟨k,a,f,o,j,t3,_⟩:=W.s x b;refine .inr ?_;subst d;rw[<-e,f];unfold ON;rw[ag ⟨by omega,by omega⟩];exact t3.mono j
 .unfold ON;split
  .rename_i l;have a:i.toNat<w.2.2.1.length:=by omega
   have:=(W.r i.toNat a).g;rw[G.id i.toNat a,JW l.1]at this;exact this
  .exact trivial
def WI.at {w:ah}{hs:Nat->wM}(G:aF w)(W:WI w hs){k:Nat}(a:k<w.2.2.1.length):ON w hs (k:Int)=hs k:=by unfold ON;rw[ag ⟨by omega,by omega⟩];rfl
def WI.meet {w:ah}{hs:Nat->wM}(G:aF w)(W:WI w hs){j k:Nat}(d:j<w.2.2.1.length)(e:k<w.2.2.1.length) :
  Anc (w.2.2.1[j]).2.2.2.1.2.2.2.data.toList (w.2.2.1[k]).2.2.2.1.2.2.2.data.toList\/Anc (w.2.2.1[k]).2.2.2.1.2.2.2.data.toList (w.2.2.1[j]).2.2.2.1.2.2.2.data.toList:=by
 have H:=W.aH3 G;have f:=W.r j d;have m:=W.r k e;have z:=(cM (f.s▸(G.g _ (bH d)).f.s)).2.2.2;have A:=(cM (m.s▸(G.g _ (bH e)).f.s)).2.2.2;have root:∀n:Nm,bg n=true->Anc [] n:=fun n o=>by
  generalize B:n.length=l
  induction l using Nat.strongRecOn generalizing n with
  |_ l C =>
   by_cases t:n=[]
   .exact .inl t
   .exact(C _ (by rw[<-B];exact aHe o t) (fO n) (Db o) rfl).trans (Ys o)
 rw[f.s,m.s];rcases axA f.g with D|⟨a,u,p,E⟩
 .rw[D];exact .inl (root _ A)
 .rcases axA m.g with F|⟨b,v,q,I⟩
  .rw[F];exact .inr (root _ z)
  .rw[E,I];have K:=G.id j d;have L:=G.id k e;rw[K]at p;rw[L]at q;have x:Sub (hs j) (ON w hs (j:Int)):=by rw[W.at G d];exact Sub.refl _
   have y:Sub (hs k) (ON w hs (k:Int)):=by rw[W.at G e];exact Sub.refl _
   rcases Int.le_total (aD (fO (fO a))) (aD (fO (fO b))) with s|s
   .exact .inl (auz H x y p q u v s)
   .exact .inr (auz H y x q p v u s)
def ai0 {l:hl}:B5 l=true↔l.1.length=4/\l.2.length=4/\(∀x∈l.1,0<=x/\x<=400)/\∀x∈l.2,0<=x/\x<=100:=by
 constructor
 .exact acM
 .rintro⟨a,b,d,e⟩;simp only[B5,inB,aG,bV,eb];exact⟨a,b,d,e⟩
def axD:∀(l:List Int) (i:Nat) (h:i<l.length) (v:Int),(l.set i v).sum=l.sum-l[i]+v
 |x::l,0,_,v=>by simp only[List.set_cons_zero,Vp,aAw];omega
 |x::l,i+1,h,v=>by have:=axD l i (by simpa using h) v;simp only[List.set_cons_succ,Vp,List.getElem_cons_succ];omega
def ab0 {l:List Int}{i:Int}(a:0<=i)(h:i.toNat<l.length):aH l i 0=l[i.toNat]:=aJ h 0
structure aKC (l:hl) (x:dH):Prop where
 lo:B5 l=true
 xo:gn x=true
 n:x.2.2.2=aH l.2 x.1 0
 r:(ei l x).1.2=l.2.set x.1.toNat (x.2.2.2+1)
 k:B5 (ei l x).1=true
 s:(ei l x).1.1.sum=l.1.sum
def Zc {l:hl}{x:dH}(h:Rt (ei l x).2=true):aKC l x:=by
 by_cases m:B5 l=true/\gn x=true
 .obtain⟨a,b⟩:=m;obtain⟨⟨f0,f1⟩,⟨t0,t1⟩,⟨m0,m1⟩,⟨v,y⟩⟩:=mW b;obtain⟨q,s,t,u⟩:=ai0.1 a;have n:x.1.toNat<l.1.length:=by omega
  have z:x.1.toNat<l.2.length:=by omega
  by_cases d:x.2.2.2<aH l.2 x.1 0
  .have e:ei l x=(l,2):=by unfold ei;rw[ag ⟨a,b⟩,ag d]
   rw[e]at h;cases h
  .by_cases f:x.2.2.2>aH l.2 x.1 0
   .have e:ei l x=(l,3):=by unfold ei;rw[ag ⟨a,b⟩,af d,ag f]
    rw[e]at h;cases h
   .have o:x.2.2.2=aH l.2 x.1 0:=by omega
    by_cases j:x.2.2.1>aH l.1 x.1 0
    .have e:ei l x=((l.1,l.2.set x.1.toNat (x.2.2.2+1)),4):=by unfold ei;rw[ag ⟨a,b⟩,af d,af f,ag j]
     refine⟨a,b,o,by rw[e],?_,by rw[e]⟩;rw[e];refine ai0.2 ⟨q,by dsimp only;rw[ni];exact s,t,?_⟩;exact awD (lo:=0) (hi:=100) u (by omega)
    .by_cases k:B5 ((l.1.set x.1.toNat (aH l.1 x.1 0-x.2.2.1)).set x.2.1.toNat (aH (l.1.set x.1.toNat (aH l.1 x.1 0-x.2.2.1)) x.2.1 0+x.2.2.1),l.2.set x.1.toNat (x.2.2.2+1))=true
     .have e:ei l x=(((l.1.set x.1.toNat (aH l.1 x.1 0-x.2.2.1)).set x.2.1.toNat (aH (l.1.set x.1.toNat (aH l.1 x.1 0-x.2.2.1)) x.2.1 0+x.2.2.1),l.2.set x.1.toNat (x.2.2.2+1)),0):=by unfold ei;rw[ag ⟨a,b⟩,af d,af f,af j,ag k]
      have p:x.2.1.toNat<(l.1.set x.1.toNat (aH l.1 x.1 0-x.2.2.1)).length:=by rw[ni];omega
      refine⟨a,b,o,by rw[e],by rw[e];exact k,?_⟩;rw[e];dsimp only;rw[axD _ _ p,ab0 t0 p,axD _ _ n];have A:=ab0 f0 n;omega
     .have e:ei l x=(l,1):=by unfold ei;rw[ag ⟨a,b⟩,af d,af f,af j,af k]
      rw[e]at h;cases h
 .have e:ei l x=(l,1):=by unfold ei;rw[af m]
  rw[e]at h;cases h
def art (l:hl):Prop:=B5 l=true/\l.1.sum=400
def aJB {l:hl}(h:art l)(x:dH):art (ei l x).1:=by
 cases a:Rt (ei l x).2 with
 |false=>rw[aiK a];exact h
 |true =>
  have b:=Zc a;exact⟨b.k,by rw[b.s];exact h.2⟩
def aEo:∀(xs:List dH) {l:hl},art l->art (eX l xs)
 |[],_,h=>h|x::xs,l,h=>aEo xs (aJB h x)
def aL2:art Sw:=⟨by decide,by decide⟩
def akx:∀{l:List Int} {n:Int},(∀x∈l,0<=x/\x<=400)->0<=n->n+400*l.length<=1000000->UP l n=n+l.sum
 |[],n,_,_,_=>by simp[UP]
 |x::l,n,h,d,a=>by have e:=h x pZ;rw[aW]at a;rw[UP,aI (by omega) (by omega),akx (fun y b=>h y (jN _ b)) (by omega) (by omega),Vp];omega
def aJC {l:hl}(h:art l):UP l.1 0=400:=by obtain⟨b,d,a,e⟩:=ai0.1 h.1;rw[akx a (G1 _) (by omega),h.2];rfl
def aFP {l:hl}{x:dH}(i:Int)(hi:0<=i)(j:l.2.length=4)(k:i<=3):aH l.2 i 0<=aH (ei l x).1.2 i 0:=by
 cases d:Rt (ei l x).2 with
 |false=>rw[aiK d];exact G1 _
 |true =>
  have a:=Zc d;obtain⟨⟨f0,f1⟩,_⟩:=mW a.xo;rw[a.r];by_cases e:x.1=i
  .subst e;have b:x.1.toNat<(l.2.set x.1.toNat (x.2.2.2+1)).length:=by rw[ni];omega
   rw[ab0 hi b,auH,a.n];omega
  .have b:i.toNat<(l.2.set x.1.toNat (x.2.2.2+1)).length:=by rw[ni];omega
   have f:i.toNat<l.2.length:=by omega
   rw[ab0 hi b,ab0 hi f,auN (by omega)];exact G1 _
def aAj:∀(xs:List dH) {l:hl} (i:Int),0<=i->i<=3->Vd l->aH l.2 i 0<=aH (eX l xs).2 i 0
 |[],_,_,_,_,_=>G1 _|x::xs,l,i,a,b,d=>agv (aFP i a d.2 b) (aAj xs i a b (aGX d x))
def aru {xs:List dH}{l:hl}{j:Nat}(h:j<xs.length):(ho l xs).getD j 0=(ei (eX l (xs.take j)) xs[j]).2:=by rw[BG,afy xs l j h];rfl
def arv:∀(a b:List dH) (l:hl),eX l (a++b)=eX (eX l a) b
 |[],_,_=>rfl|x::a,b,l=>arv a b _
def aFQ (xs:List dH){i k:Nat}(s:k<i)(hi:i<xs.length):okP xs (ho Sw xs) i k=true:=by
 have a:k<xs.length:=by omega
 unfold okP;rw[aru hi,aru a,aJ hi,aJ a];cases f:Rt (ei (eX Sw (xs.take i)) xs[i]).2 with
 |false=>rfl
 |true =>
  cases j:Rt (ei (eX Sw (xs.take k)) xs[k]).2 with
  |false=>rfl
  |true =>
   have m:=Zc f;have d:=Zc j;by_cases e:xs[i].1=xs[k].1
   .by_cases n:xs[i].2.2.2=xs[k].2.2.2
    .exfalso;obtain⟨⟨f0,f1⟩,_⟩:=mW d.xo;have hs:xs.take i=xs.take (k+1)++(xs.take i).drop (k+1):=by have:=ZM (k+1) (xs.take i);rw[List.take_take,ads (by omega)]at this;exact this.symm
     have o:Vd (eX Sw (xs.take (k+1))):=Jp Ma;have b:=aAj ((xs.take i).drop (k+1)) (l:=eX Sw (xs.take (k+1))) xs[k].1 f0 f1 o;rw[<-arv,<-hs]at b;have p:xs.take (k+1)=xs.take k++[xs[k]]:=ef a;rw[p,Oo,d.r]at b;have q:Vd (eX Sw (xs.take k)):=Jp Ma;have hlen:(xs[k].1).toNat<((eX Sw (xs.take k)).2.set xs[k].1.toNat (xs[k].2.2.2+1)).length:=by rw[ni];have:=q.2;omega
     rw[ab0 f0 hlen,auH]at b;have:=m.n;rw[e]at this;omega
    .simp[n]
   .simp[e]
def aCF (b:ByteArray):azd b=true:=by unfold azd;rw[eb];intro i a;rw[eb];intro k d;exact aFQ (Ve b) (eU.1 d) (eU.1 a)
def aFR {c:Int×Int}{r:aw}(h:aY c r):art (iX c r):=by unfold iX;rw[ag h.ok];exact aEo _ aL2
def aF.rp {w:ah}(h:aF w){i:Nat}(hi:i<(av w).length):aY w.1 (rp w i):=by obtain⟨b,e,a⟩:=nc hi;rw[at4 hi e a];exact h.g _ (bH a)
def aF.aL3 {w:ah}(h:aF w):acX w=true:=by unfold acX;rw[h.ok,eD,eb];intro i a;have a:=eU.1 a;unfold awU;rw[aJC (aFR (h.rp a)),aCF];rfl
def aJD {w:ah}(h:aF w):acX w=true:=h.aL3
section
variable {w:ah} {hs:Nat->wM}
def amU (G:aF w){k:Nat}(a:k<w.2.2.1.length):bg (w.2.2.1[k]).2.2.2.1.2.2.2.data.toList=true:=(cM (G.g _ (bH a)).f.s).2.2.2
def aKD (G:aF w)(W:WI w hs):at0 w=true:=by
 unfold at0;rw[G.ok,eD,eb];intro i d;rw[eb];intro k e;have d:=eU.1 d;have e:=eU.1 e;obtain⟨a,l,f⟩:=nc d;obtain⟨b,m,j⟩:=nc e;rw[aDZ d l f,aDZ e m j];unfold akd;rcases W.meet G f j with h|h
 .rw[aEf (amU G j) (amU G f) h,Bool.or_true]
 .rw[aEf (amU G f) (amU G j) h,agu]
def arw (W:WI w hs){x:cJ}(a:x∈w.2.2.2.2){k:Nat}(f:k<w.2.2.1.length)(e:x.2.2=(k:Int)):Tag (hs k) x.2.1.data.toList:=by
 obtain⟨b,j,l,m,d,t1,_⟩:=W.s x a;have:b=k:=by omega
 subst this;exact t1.mono d
def aH4 (G:aF w)(W:WI w hs):YY w=true:=by
 unfold YY;rw[G.ok,eD,eb];intro i a;rw[eb];intro k b;have a:=eU.1 a;have b:=eU.1 b;unfold okV;rw[aJ a,aJ b];have d:=bH a;have e:=bH b;generalize w.2.2.2.2[i]=x at d;generalize w.2.2.2.2[k]=y at e;obtain⟨j,f,l,_⟩:=W.s x d;unfold aKh;by_cases m:x.2.2=y.2.2
 .by_cases n:x.1=y.1
  .have o:=arw W d f l;have p:=arw W e f (by omega);have t:=(G.sb x d).2.2;have u:=(G.sb y e).2.2;have q:=are (W.r j f).g o p (by omega);have s:x.2.1=y.2.1:=by rw[Kd x.2.1,Kd y.2.1,q]
   rw[s];simp
  .simp[n]
 .simp[m]
def auD:∀{c:Int×Int} {l:List gw} {xs:List bZ} {q:bZ},q∈EW c l xs->q∈xs\/∃x∈l,q∈SG c x
 |_,[],_,_,h=>.inl h|c,x::l,xs,q,h=>by
  rcases auD (c:=c) (l:=l) h with a|⟨y,d,a⟩
  .rcases gK.1 a with b|b
   .exact .inl b
   .exact .inr ⟨x,pZ,b⟩
  .exact .inr ⟨y,jN x d,a⟩
def auE (G:aF w)(W:WI w hs){q:bZ}(m:q∈L8 w):eV w.1 q=true/\∃i h,Sub h (ON w hs i)/\JV (Sd w) i h q:=by
 rcases auD m with b|⟨x,l,b⟩
 .obtain⟨a,n,rfl⟩:=E2.1 b;have s:=dB n;have d:a.toNat<w.2.2.1.length:=by omega
  have e:X5 w a=(w.2.2.1[a.toNat]).2.2.2.1.2.2.1:=by unfold X5;rw[aJ d]
  rw[e];have o:=G.g _ (bH d);refine⟨(cM o.f.s).2.2.1,((a.toNat:Nat):Int),hs a.toNat,by rw[W.at G d];exact Sub.refl _,?_⟩;have:=aH0 (W.r a.toNat d);rw[G.id a.toNat d]at this;exact this
 .have f:=W.n x l;have p:=(aq4 (G.nb x l).2.1).2;unfold SG at b;unfold adm Mf at f;rcases SO p with ⟨k,j⟩|k|⟨k,j⟩|k
  .rw[k]at b;rw[ag k]at f;have:=fm.1 b;rw[this];exact⟨j,-1,[],⟨_,(fh _).symm⟩,f⟩
  .rw[k]at b;cases b
  .rw[k]at b;rw[af (by omega),af (by omega),ag k]at f;have:=fm.1 b;rw[this];exact⟨j,-1,[],⟨_,(fh _).symm⟩,f⟩
  .rw[k]at b;cases b
def aH5 (G:aF w)(W:WI w hs):YZ w=true:=by
 unfold YZ;rw[G.ok,eD,eb];intro i e;rw[eb];intro k f;have e:=eU.1 e;have f:=eU.1 f;unfold UU;rw[aJ e,aJ f];have p:=bH e;have q:=bH f;generalize (L8 w)[i]=a at p;generalize (L8 w)[k]=b at q;obtain⟨l,D,E,s,t⟩:=auE G W p;obtain⟨m,F,I,u,v⟩:=auE G W q;obtain⟨_,_,K,L,_⟩:=j9 l;obtain⟨_,_,M,N,_⟩:=j9 m;unfold aKi;by_cases x:a.1=b.1
 .have y:nmQ a=nmQ b:=by
   have o:aD (nmQ a)=aD (nmQ b):=by show aD a.2.1.data.toList=aD b.2.1.data.toList;omega
   have pos:∀{n:Nm},bg n=true->n≠[]->0<aD n:=fun {n} z A=>by have:=amN z A;have:=mX (fO n);omega
   by_cases j:nmQ a=[]
   .by_cases d:nmQ b=[]
    .rw[j,d]
    .exfalso;have:=pos (j9 m).2.1 d;rw[j,SA]at o;have B:aD (nmQ b)=aD b.2.1.data.toList:=rfl;omega
   .by_cases d:nmQ b=[]
    .exfalso;have:=pos (j9 l).2.1 j;rw[d,SA]at o;have B:aD (nmQ a)=aD a.2.1.data.toList:=rfl;omega
    .exact agm (W.aH3 G) s u ⟨a,l,rfl,t⟩ ⟨b,m,rfl,v⟩ j d o
  have C:a.2.1=b.2.1:=by rw[Kd a.2.1,Kd b.2.1];exact oh tx y
  rw[C];simp
 .simp[x]
def aJE (G:aF w)(W:WI w hs)(K:lJ w):aql w=true:=by
 unfold aql;rw[G.ok,eD,eb];intro i a;have a:=eU.1 a;obtain⟨f,e,b⟩:=nc a;have l:=bH b;unfold awT;rw[at4 a e b,(K _ l).ok (G.g _ l).ok,eD,eb];intro k d;have d:=eU.1 d;unfold aqk;rw[at4 a e b,aJ d,aJ a,e];have j:=bH d;generalize w.2.2.2.2[k]=x at j;by_cases m:x.2.2=(f:Int)
 .have n:=arw W j b m;have o:=ard (W.r f b).g n;have p:=(G.sb x j).2.2;rw[<-(W.r f b).s]at o;rw[aQ (by omega),adt];rfl
 .rw[bT.2 m];rfl
def aH6 (G:aF w)(W:WI w hs)(K:lJ w):aD1 w=true:=by unfold aD1;rw[aKD G W,aH4 G W,aH5 G W,aJD G,aJE G W K];rfl
end
def aEp {c:Int×Int}{S:Nm->Int->Prop}{i:Int}:∀{p h:wM},Fair c S i (p++h)->(te h).1<=(te (p++h)).1/\(te h).2.1<=(te (p++h)).2.1
 |[],_,_=>⟨G1 _,G1 _⟩|x::p,h,g=>by obtain⟨a,b⟩:=aEp (p:=p) g.1;exact⟨agv a g.2.v,agv b g.2.l⟩
def arx (l:List Int){k:Nat}(a:(k:Int) ∉ l):∀n:Nat,k<n->(k:Int)∈j7 l n
 |0,h=>by omega
 |n+1,h=>by
  unfold j7;by_cases e:k=n
  .subst e;rw[af a];exact aAy _ (fm.2 rfl)
  .exact List.mem_append_left _ (arx l a n (by omega))
def ary {b:List Int}(h:da b)(k:Nat):da (b.take k):=⟨bX (by rw[bz];omega) h.1,fun x a=>h.2 x (Vi a)⟩
def aCG {d:oN}(h:d.2=(d.1.length:Int))(keep:Int):(ej d keep).1=d.1:=by
 unfold ej;split
 .rename_i a;have:=(Rw a keep).1;show d.1.take _=_;exact ai2 (by omega)
 .rfl
def b5.Bw {c:Int×Int}{r:aw}(h:b5 c r):(cD c r.2.2.2.2.2.2.1.1).1=r.2.2.2.1:=by obtain⟨l,a,b,d⟩:=h;have e:=Bz (c:=c) (t:=[]) (.inl rfl) a;rw[fh]at e;rw[b,e,d]
section
variable {w:ah} {hs:Nat->wM}
def aAk (w:ah)(a:Int):(lO w a).2=0/\(lO w a).1=uq (gz w a) (a1 w a)\/lO w a=(w,4):=by
 unfold lO;split
 .split
  .exact .inl ⟨rfl,rfl⟩
  .exact .inr rfl
 .exact .inr rfl
def aH7 (h:aF w){a:Int}(f:a∈av w)(b:Int)(m:b0):doI w (2,a,b,m)=lO w a:=by
 obtain⟨j,k⟩:=dB f;have l:gp 1 10 (2:Int)=true:=by decide
 have n:GW w (2,a,b,m)=true:=by rw[td (d:=(2,a,b,m)) (fun o=>by have:=eC.1 o;dsimp only at this;omega) (by show ¬(2:Int)=10;decide)];exact aL f
 have p:aiV w (2,a,b,m)=lO w a:=ag rfl;have q:=amS h j k;unfold doI;rw[ag l,ag n,p];unfold axr;rcases aAk w a with e|e
 .rw[ag e.1,ag q.ok];exact p0 rfl e.1.symm
 .rw[e];exact af (show ¬(4:Int)=0 by decide)
def aAl (h:aF w){a:Int}(e:a∈av w)(b:Int)(m:b0):doI w (8,a,b,m)=(dX w a (ur w.1 (bP w a) b),0):=by
 obtain⟨k,l⟩:=dB e;have n:gp 1 10 (8:Int)=true:=by decide
 have o:GW w (8,a,b,m)=true:=by rw[td (d:=(8,a,b,m)) (fun p=>by have:=eC.1 p;dsimp only at this;omega) (by show ¬(8:Int)=10;decide)];exact aL e
 have f:agi true w (8,a,b,m)=(dX w a (ur w.1 (bP w a) b),0):=rfl;have q:aiV w (8,a,b,m)=(dX w a (ur w.1 (bP w a) b),0):=f;have j:=h.agi true (d:=(8,a,b,m)) k l;rw[f]at j;unfold doI;rw[ag n,ag o,q];unfold axr;rw[ag rfl,ag j.ok]
def arz (h:aF w){a:Int}(d:a∈av w)(b:Int)(m:b0):US w (8,a,b,m)=dX w a (ur w.1 (bP w a) b):=by unfold US;rw[aAl h d b m];exact ag rfl
def aCH (G:aF w)(W:WI w hs){k:Nat}(e:k<w.2.2.1.length)(keep:Int) :
  ∃a,Fair w.1 (Sd w) (w.2.2.1[k]).1 a/\(ur w.1 (w.2.2.1[k]) keep).2.2.2.1=te a/\Sub a (hs k)/\∀b,Sub b (hs k)->(szG b:Int)<=(w.2.2.1[k]).2.2.2.2.2.2.1.2->Sub b a:=by
 have j:=W.r k e;have d:=(G.g _ (bH e)).f.d;have p:=Rw d keep;have q:=cv.1 d;have l:(ej (w.2.2.1[k]).2.2.2.2.2.2.1 keep).1=(w.2.2.1[k]).2.2.2.2.2.2.1.1.take (F3 (w.2.2.1[k]).2.2.2.2.2.2.1 keep).toNat:=by unfold ej;rw[ag d]
 obtain⟨a,f,m,n,_,s⟩:=axB j l;refine⟨a,f.g,f.s,m,fun b o t=>n b o ?_⟩;show szG b<=_;omega
def aFS (G:aF w)(W:WI w hs){k:Nat}(a:k<w.2.2.1.length)(keep:Int) :
  (cD w.1 ((w.2.2.1[k]).2.2.2.2.2.2.1.1.take (w.2.2.1[k]).2.2.2.2.2.2.1.2.toNat)).1.1<=(ur w.1 (w.2.2.1[k]) keep).2.2.2.1.1 /\
  (cD w.1 ((w.2.2.1[k]).2.2.2.2.2.2.1.1.take (w.2.2.1[k]).2.2.2.2.2.2.1.2.toNat)).1.2.1<=(ur w.1 (w.2.2.1[k]) keep).2.2.2.1.2.1:=by
 obtain⟨u,f,j,v,l⟩:=aCH G W a keep;have m:=W.r k a;have e:=G.g _ (bH a);have x:=cv.1 e.f.d;obtain⟨b,n,o,_,_,q⟩:=axB m (d:=((w.2.2.1[k]).2.2.2.2.2.2.1.1.take (w.2.2.1[k]).2.2.2.2.2.2.1.2.toNat,0)) rfl;have s:=OF w.1 (ary e.bt.2 (w.2.2.1[k]).2.2.2.2.2.2.1.2.toNat);have t:(cD w.1 ((w.2.2.1[k]).2.2.2.2.2.2.1.1.take (w.2.2.1[k]).2.2.2.2.2.2.1.2.toNat)).1=te b:=n.s;have y:((cD w.1 ((w.2.2.1[k]).2.2.2.2.2.2.1.1.take (w.2.2.1[k]).2.2.2.2.2.2.1.2.toNat)).2:Int)=(szG b:Int):=q;rw[bz]at s;obtain⟨p,rfl⟩:=l b o (by omega);rw[t,j];exact aEp f
def aFT {c:Int×Int}{r:aw}(h:b5 c r)(a:r.2.2.2.2.2.2.1.2=(r.2.2.2.2.2.2.1.1.length:Int))(keep:Int):(ur c r keep).2.2.2.1=r.2.2.2.1:=by show(cD c (ej r.2.2.2.2.2.2.1 keep).1).1=_;rw[aCG a,h.Bw]
end
def aEq {code:List Int}(f:∀x∈code,0<=x/\x<=255)(m:code.length<=1048576){i:Int}(b:0<=i)(o:i<=9):∃v:Int,YQ F0 code i=some (v,())/\0<=v/\v<=255:=by
 rw[aBj];by_cases h:i<(code.length:Int)
 .have d:i.toNat<code.length:=by omega
  have j:=f _ (bH d);have e:aH code i 0=code[i.toNat]:=by have:=aT d (0:Int);rw[JW b]at this;exact this
  rw[aL h,ae,iW b h,ab,e,aI (by omega) (by omega)];exact⟨_,rfl,j⟩
 .rw[aQ h,aa];have k:aj (i*7)=i*7:=aI (by omega) (by omega);have l:aj (i*7+(code.length:Int))=i*7+(code.length:Int):=aI (by omega) (by omega);have:=afQ (a:=i*7+(code.length:Int)) (n:=256) (by omega) (by omega);rw[k,l];refine⟨_,rfl,this.1,?_⟩;have p:=this.2;omega
section
variable {g:ah} {hs:Nat->wM}
def aEr {k:Nat}(a:k<g.2.2.1.length)(R d:aw):aH (dX g (k:Int) R).2.2.1 (k:Int) d=R:=by show aH (g.2.2.1.set ((k:Int)).toNat R) (k:Int) d=R;rw[gr,aT (by rw[ni];exact a)];exact auH _
def aAm (a:Int)(R:aw):((dX g a R).2.2.1.length:Int)=g.2.2.1.length:=by show((g.2.2.1.set a.toNat R).length:Int)=_;rw[ni]
def aEs (G:aF g){k:Nat}(a:(k:Int)∈av g)(e:k<g.2.2.1.length)(b:Int):s5 F0 g (8,(k:Int),b,OM)=some (dX g (k:Int) (ur g.1 g.2.2.1[k] b),0,()):=by have h:=aCq G (d:=(8,(k:Int),b,OM)) BD;rw[aAl G a b OM,Mh rfl e]at h;exact h
end
end Go.Am.Tryz
