/- No condition. -/
import Derived.Test.YtnllfndlcahalaaGreatDoorQoWJL5
set_option linter.all false
namespace Go.Am.Tryz
open Go.Am
def cc (c:Int×Int)(r:aw):Prop:=∃l:List bd,(∀x∈l,bh c x=true)/\r.2.2.2.2.2.2.1.1=ca l/\r.2.2.2.1=l.getLastD j8
section
variable {c:Int×Int} {r:aw}
def cc.same {r':aw}(h:cc c r)(e:r'.2.2.2.1=r.2.2.2.1)(f:r'.2.2.2.2.2.2.1.1=r.2.2.2.2.2.2.1.1):cc c r':=by obtain⟨l,a,b,d⟩:=h;exact⟨l,a,f.trans b,e.trans d⟩
def cc.put (h:cc c r){s:bd}(hs:bh c s=true):cc c (put r s):=by
 obtain⟨l,a,b,d⟩:=h;refine⟨l++[s],fun x e=>?_,?_,?_⟩
 .rcases gF.1 e with h|h
  .exact a x h
  .rw[fM.1 h];exact hs
 .show r.2.2.2.2.2.2.1.1++dA s=_;rw[b,ca,ca,auT];simp
 .show s=_;simp
def axC (h:cc c r)(s:bd):cc c (hY c r s).1:=by
 unfold hY;split
 .exact h
 .split
  .rename_i a;exact h.put a.1
  .exact h
def axD (h:cc c r)(t:Int)(m:b4):cc c (lK c r t m).1:=by
 unfold lK;split
 .exact h.same rfl rfl
 .exact h
def agm (h:cc c r)(v:Int):cc c (tc r v):=h.same rfl rfl
def Yo (h:cc c r)(t:List bZ):cc c (fF r t):=h.same rfl rfl
def aiY (h:cc c r)(v:Int):cc c (ka r v):=h.same rfl rfl
def auA (h:cc c r)(p:List dG):cc c (OI r p):=h.same rfl rfl
def aCA (h:cc c r):cc c (F2 r):=h.same rfl rfl
def RD (h:cc c r)(q:bZ):cc c (written c r q).1:=axC h _
def aJd (h:cc c r)(q:bZ):cc c (pR c r q).1:=by
 unfold pR;split
 .split
  .exact RD h q
  .split
   .exact agm (RD h q) _
   .exact axD (agm (RD h q) _) _ _
 .exact h
def axE (h:cc c r)(v:Int)(n:ByteArray)(p:Bool):cc c (fE c r v n p).1:=by
 unfold fE;split
 .exact h
 .split
  .split
   .exact aJd h _
   .exact h
  .split
   .exact h
   .exact axD h _ _
def aLj (h:cc c r)(n:ByteArray):cc c (own c r n).1:=by
 unfold own;split
 .exact axE (Yo h _) _ _ _
 .exact h
def aD8 (h:cc c r)(b:cq):cc c (jy r b):=by
 unfold jy;split
 .exact aiY h _
 .exact h
def akw (h:cc c r)(b:cq):cc c (e8 c r b).1:=by
 unfold e8 B0;split
 .split
  .split
   .exact aLj (axC (aD8 h b) _) _
   .exact h
  .exact axC (aD8 h b) _
 .exact h
def aCB (h:cc c r)(p:bZ):cc c (iH c r p).1:=by
 unfold iH;split
 .exact axE (Yo h _) _ _ _
 .exact h
def aD9 (h:cc c r)(l:Bool)(v:Int)(q:bZ):cc c (Ma l r v q):=by
 unfold Ma;split
 .exact agm (agm h _) _
 .exact agm h _
def aCC (h:cc c r)(imp:Bool)(v:Int)(q:bZ)(cv:Int):cc c (iI imp c r v q cv).1:=by
 unfold iI;split
 .unfold ry;split
  .split
   .exact aD9 (Yo (RD h q) _) _ _ _
   .exact h
  .exact aD9 (RD h q) _ _ _
 .exact h
def aJe (h:cc c r)(imp:Bool)(m:b4):cc c (ud imp c r m).1:=by
 unfold ud;split
 .exact akw h _
 .split
  .exact aCB h _
  .split
   .exact aCC h imp _ _ _
   .exact auA h _
def aHC (h:cc c r)(imp:Bool)(m:b4):cc c (GQ imp c r m).1:=by
 unfold GQ;split
 .exact auA (Yo (aJe h imp m) _) _
 .exact h
def ari (d:pQ):(lj d).1=d.1:=by unfold lj;split<;>rfl
def aJf (h:cc c r):cc c (Ry r):=h.same rfl (ari _)
def aJg (h:cc c r):cc c (BZ c r).1:=by
 unfold BZ;split
 .exact h
 .split
  .split
   .exact Yo (aiY h _) _
   .exact h
  .split
   .exact axD (aiY h _) _ _
   .exact h
def arj (h:cc c r)(m:b4):∀(j k:Nat) {o:aw},cc c o->cc c (rv c r m j k o).1
 |0,_,o,a=>a|j+1,k,o,a=>by
  unfold rv;split
  .exact arj h m j (k+1) a
  .split
   .exact arj h m j (k+1) (axD a _ _)
   .exact h
def aFB (h:cc c r)(m:b4):cc c (SV c r m).1:=arj h m _ _ h
def aKp (h:cc c r):cc c (Yk c r).1:=by
 unfold Yk;split
 .split
  .exact akw (aFB (aCA h) _) _
  .exact h
 .exact h
def aAf (h:cc c r):∀k,cc c (tv c r k).1
 |0=>h|k+1=>by
  unfold tv;split
  .exact aAf h k
  .split
   .exact axE h _ _ _
   .exact h
def aHD {l:List bd}{k:Nat}(a:∀x∈l,bh c x=true)(b:r.2.2.2.2.2.2.1.1=(ca l).take k):cc c (axf c r):=by
 obtain⟨i,t,m,g,e,_⟩:=ac4 k a;have d:∀x∈l.take i,bh c x=true:=fun x j=>a x (ZL j)
 have f:=L7 g d;refine⟨l.take i,d,?_,?_⟩
 .show r.2.2.2.2.2.2.1.1.take (dU c r.2.2.2.2.2.2.1.1).2=_;rw[b,e,f];exact abD
 .show(dU c r.2.2.2.2.2.2.1.1).1=_;rw[b,e,f]
def aJh (h:cc c r)(keep:Int):cc c (akt c r keep):=by
 obtain⟨l,a,b,d⟩:=h;unfold akt;by_cases e:fA r.2.2.2.2.2.2.1=true
 .refine aHD (l:=l) (k:=(HU r.2.2.2.2.2.2.1 keep).toNat) a ?_;show(ha r.2.2.2.2.2.2.1 keep).1=_;unfold ha;rw[ag e,b]
 .refine aHD (l:=l) (k:=(ca l).length) a ?_;show(ha r.2.2.2.2.2.2.1 keep).1=_;unfold ha;rw[af e,b,kc]
def aKq (h:cc c r)(imp:Bool)(m:b4):cc c (axy imp c r m).1:=by
 unfold axy;split
 .exact aHC h imp m
 .exact h
def aKr (h:cc c r)(imp:Bool)(d:dm):cc c (adi imp c r d).1:=by
 unfold adi;split
 .exact aKp h
 .split
  .exact aAf h _
  .split
   .split
    .exact aJg h
    .exact h
   .split
    .exact aJh h _
    .exact aKq h imp _
def cc.ok (h:cc c r)(f:mU c r=true):aud c r=true:=by obtain⟨l,a,b,d⟩:=h;have e:=L7 (c:=c) (t:=[]) (.inl rfl) a;rw[fi]at e;unfold aud;rw[f,b,e,d];simp[asV]
end
def n5 (w:ah):Prop:=∀r∈w.2.2.1,cc w.1 r
def axF {w:ah}(h:n5 w)(a:Int):cc w.1 (b3 w a):=by
 unfold b3;rw[EW];cases e:w.2.2.1[a.toNat]? with
 |none=>exact⟨[],fun _ b=>absurd b abC,rfl,rfl⟩
 |some r=>exact h r (atd e)
def ark {w:ah}(h:n5 w)(a:Int){r:aw}(b:cc w.1 r):n5 (fT w a r):=fun x d=>by
 rcases aAu d with h1|h1
 .exact h x h1
 .rw[h1];exact b
def aJi {w:ah}(h:n5 w)(i:Int)(l:List jw):n5 (oI w i l):=by
 unfold oI;split
 .exact h
 .exact h
def aCD (w:ah)(i:Int)(l:List jw):(oI w i l).1=w.1:=by unfold oI;split<;>rfl
def aJj {w:ah}(h:n5 w)(a:Int):n5 (abA w a).1:=by
 unfold abA;split
 .split
  .exact ark (w:=oI w a (bb w a)) (aJi h _ _) a (by rw[aCD];exact aJf (axF h a))
  .exact h
 .exact h
def aKs {w:ah}(h:n5 w)(d:dm):n5 (ara w d).1:=by
 unfold ara;split
 .unfold agk;split
  .exact ark (w:=OJ w d.2.1) h _ (aHC (axF h _) true _)
  .exact h
 .split
  .exact h
  .split
   .exact h
   .split
    .exact h
    .exact h
def aKt {w:ah}(h:n5 w)(imp:Bool)(d:dm):n5 (amA imp w d).1:=ark h _ (aKr (axF h _) imp d)
def aJk {w:ah}(h:n5 w)(d:dm):n5 (abB w d):=by
 unfold abB;split
 .rename_i a;unfold doI at a ⊢;split at a
  .rename_i b;rw[ag b];split at a
   .rename_i e;rw[ag e];have f:n5 (arc w d).1:=by
     unfold arc;split
     .exact aJj h _
     .split
      .exact aKs h d
      .exact aKt h true d
    unfold aCq;split
    .split
     .exact f
     .exact h
    .exact h
   .cases a
  .cases a
 .exact h
def aAg:∀(list:List dm) {w:ah},n5 w->n5 (aiW w list)
 |[],_,h=>h|d::list,w,h=>aAg list (aJk h d)
def aKu (c:Int×Int)(liars:List Int):n5 (SW c liars):=fun r a=>by obtain⟨i,_,rfl⟩:=EY.1 a;exact⟨[],fun _ b=>absurd b abC,rfl,rfl⟩
abbrev Nm:=List UInt8
def Anc (t s:Nm):Prop:=s=t\/∃r,s=t++47::r
def Anc.refl (t:Nm):Anc t t:=.inl rfl
def Anc.trans {a b c:Nm}(h:Anc a b)(d:Anc b c):Anc a c:=by
 rcases d with rfl|⟨r,rfl⟩
 .exact h
 .rcases h with rfl|⟨q,rfl⟩
  .exact .inr ⟨r,rfl⟩
  .exact .inr ⟨q++47::r,by simp⟩
def Yp {s:Nm}(h:bg s=true):Anc (fL s) s:=by
 by_cases a:s=[]
 .subst a;exact .inl rfl
 .obtain⟨t,_,e⟩:=X6 h a;exact .inr ⟨t,e⟩
def aJl {t s:Nm}(h:Anc t s):t.length<=s.length:=by
 rcases h with rfl|⟨r,rfl⟩
 .exact bF _
 .rw[aJ];omega
def arl {a b s:Nm}(f:Anc a s)(k:Anc b s)(h:a.length<=b.length):Anc a b:=by
 rcases k with rfl|⟨q,rfl⟩
 .exact f
 .rcases f with e|⟨r,e⟩
  .have:=n7 List.length e;rw[aJ,aW]at this;omega
  .by_cases l:a.length=b.length
   .have:=List.append_inj_left e l.symm;exact .inl this
   .refine .inr ⟨b.drop (a.length+1),?_⟩;have g:(b++47::q).take a.length=a:=by rw[e];exact abD
    have d:(b++47::q)[a.length]?=some 47:=by rw[e];simp
    rw[aCH h]at g;rw[List.getElem?_append_left (by omega)]at d;obtain⟨m,d⟩:=wF.1 d;have j:=ZK a.length b;rw[Vi m,d,g]at j;exact j.symm
def aHE {a s:Nm}(hs:bg s=true)(y:bg a=true):Anc a s->a≠s->aC a<aC s:=by
 intro h f;generalize j:s.length=n
 induction n using Nat.strongRecOn generalizing s with
 |_ n l =>
  subst j;have b:s≠[]:=fun e=>by
   subst e;rcases h with h|⟨r,h⟩
   .exact f h.symm
   .simp at h
  have m:=amS hs b;by_cases g:a=fL s
  .rw[g];exact m
  .have o:a.length<=(fL s).length:=by
    rcases h with h|⟨r,h⟩
    .exact absurd h.symm f
    .rcases S1 (fL s).length a.length with hlt|p
     .exfalso;obtain⟨t,q,e⟩:=X6 hs b;have d:s[a.length]?=some 47:=by rw[h];simp
      rw[e,axP (by omega)]at d;have u:(47::t)[a.length-(fL s).length]?=t[a.length-(fL s).length-1]?:=by obtain⟨k,v⟩:∃k,a.length-(fL s).length=k+1:=⟨a.length-(fL s).length-1,by omega⟩;rw[v];simp
      rw[u]at d;exact q (atd d)
     .exact p
   have x:=arl h (Yp hs) o;have:=l (fL s).length (aG2 hs b) (C2 hs) x g rfl;omega
def aEa {s t:ByteArray}(hs:bg s.data.toList=true)(b:bg t.data.toList=true)(h:Anc t.data.toList s.data.toList):amy s t=true:=by
 have g:=aJl h;have d:s.size=s.data.toList.length:=rfl;have a:t.size=t.data.toList.length:=rfl;unfold amy;rw[hs,b,en,en,aL (show(s.size:Int)>=(t.size:Int) by omega),en];have e:s.extract 0 t.size=t:=by
  have:=Om s.data.toList 0 t.data.toList.length;rw[adt,Vq]at this;rw[<-J8]at this;refine this.trans ?_;rcases h with h|⟨r,h⟩
  .rw[h,kc];rfl
  .rw[h,abD];rfl
 rw[e,Vk,en];rcases h with h|⟨r,h⟩
 .rw[show((s.size:Int)==(t.size:Int))=true from bf.2 (by rw[d,a,h])];rfl
 .have:jI s (t.size:Int)=47:=by
   have f:s.data.toList[t.data.toList.length]?=some 47:=by rw[h];simp
   unfold jI;rw[ho,a,EW,f];rfl
  rw[this];simp
def auB (A B:Nat->Bool):∀l:List Nat,l.countP A+l.countP B<=l.length+l.countP fun k=>A k&&B k
 |[]=>bF _|x::l=>by have:=auB A B l;rw[GW,GW,GW,aW];cases A x<;>cases B x<;>simp<;>omega
def auC (A L:Nat->Bool):∀l:List Nat,l.countP A<=l.countP L+l.countP fun k=>A k&& !L k
 |[]=>bF _|x::l=>by have:=auC A L l;rw[GW,GW,GW];cases A x<;>cases L x<;>simp<;>omega
def auD {x:Nat}(p:Nat->Bool)(a:p x=false):∀l:List Nat,x∈l->l.countP p+1<=l.countP fun k=>p k || k==x
 |y::l,h=>by
  rw[GW,GW];by_cases e:y=x
  .subst e;have:l.countP p<=l.countP fun k=>p k || k==y:=aAA fun k _ b=>by rw[b];rfl
   rw[a];simp;omega
  .have:=auD p a l (by rcases cS.1 h with h|h;exact absurd h.symm e;exact h);rw[show(y==x)=false by simp[e],anb];omega
def aiZ {n:Nat}:∀{w:List Int},w.Nodup->(∀x∈w,0<=x/\x<n)->w.length<=(List.range n).countP fun k:Nat=>decide ((k:Int)∈w)
 |[],_,_=>aR _|x::w,b,d=>by
  have j:=aiZ (n:=n) (au0.1 b).2 fun y f=>d y (jH x f)
  have e:=d x pT;have a:x.toNat∈List.range n:=eS.2 (by omega);have g:decide (((x.toNat:Nat):Int)∈w)=false:=aQ (by rw[Pl e.1];exact(au0.1 b).1);have l:=auD (fun k:Nat=>decide ((k:Int)∈w)) g _ a;have m:((List.range n).countP fun k:Nat=>decide ((k:Int)∈w) || k==x.toNat)<=(List.range n).countP fun k:Nat=>decide ((k:Int)∈x::w):=aAA fun k _ a=>by
   rcases(kB _ _).mp a with h|h
   .exact aL (jH x (lE h))
   .have:=eq_of_beq h;exact aL (by rw[this,Pl e.1];exact pT)
  rw[aW];omega
def count_le {n:Nat}{w:List Int}:((List.range n).countP fun k:Nat=>decide ((k:Int)∈w))<=w.length:=by
  induction w with
  |nil=>simp
  |cons x w a =>
   have:((List.range n).countP fun k:Nat=>decide ((k:Int)∈x::w))<=((List.range n).countP fun k:Nat=>decide ((k:Int)∈w))+(List.range n).countP fun k:Nat=>decide ((k:Int)=x):=by
    generalize List.range n=l
    induction l with
    |nil=>simp
    |cons y l a =>
     rw[GW,GW,GW];by_cases b:(y:Int)=x<;>by_cases d:(y:Int)∈w<;>simp[b,d]at a ⊢<;>omega
   have b:∀m,((List.range m).countP fun k:Nat=>decide ((k:Int)=x))<=1/\(((m:Int)<=x)->((List.range m).countP fun k:Nat=>decide ((k:Int)=x))=0):=by
    intro m
    induction m with
    |zero=>simp
    |succ m a =>
     rw[List.range_succ,List.countP_append,GW,List.countP_nil];by_cases h:(m:Int)=x
     .have:=a.2 (by omega);rw[this,aL h];exact⟨by simp,fun d=>by omega⟩
     .rw[aQ h];refine⟨by simp;exact a.1,fun d=>?_⟩;rw[a.2 (by omega)];simp
   have:=(b n).1;rw[aW];omega
def akx {n:Int}{s:List Int}(h:kf n s=true):s.Nodup:=by
 have hlt:∀(a i:Nat) (b:a<s.length) (d:i<a),s[i]<s[a]:=by
  intro a
  induction a with
  |zero=>intro i b d;omega
  |succ a f =>
   intro i b d;have g:=aqF h b;rcases S1 i a with e|e
   .have:=f i (by omega) e;omega
   .have:i=a:=by omega
    subst this;exact g
 refine aAv.2 fun i a d b j k=>?_
 have:=hlt a i b j;omega
def aHF {c:Int×Int}{liars w1 a:List Int}(l:bw c=true)(s:(liars.length:Int)<=wC c)(o:kf c.1 w1=true)(p:kf c.1 a=true)(t:(w1.length:Int)>=Bp c)(u:(a.length:Int)>=Bp c) :
  ∃m,m∈w1/\m∈a/\m ∉ liars:=by
 obtain⟨v,y,_,_⟩:=b5 l;have e:(c.1.toNat:Int)=c.1:=Pl (by omega);have z:=aiZ (n:=c.1.toNat) (akx o) (fun x j=>by have:=JM o x j;omega);have A:=aiZ (n:=c.1.toNat) (akx p) (fun x j=>by have:=JM p x j;omega);have b:=auB (fun k:Nat=>decide ((k:Int)∈w1)) (fun k:Nat=>decide ((k:Int)∈a)) (List.range c.1.toNat);have d:=auC (fun k:Nat=>decide ((k:Int)∈w1)&&decide ((k:Int)∈a)) (fun k:Nat=>decide ((k:Int)∈liars)) (List.range c.1.toNat);have f:=count_le (n:=c.1.toNat) (w:=liars);rw[ZM]at b;have q:0<(List.range c.1.toNat).countP fun k:Nat=>(decide ((k:Int)∈w1)&&decide ((k:Int)∈a))&& !decide ((k:Int)∈liars):=by
  unfold Bp wC at *;rw[ag l]at *;have:(Int.tdiv (c.1-1) 3)*3<=c.1-1:=by rw[am0 (by omega)];omega
  omega
 obtain⟨k,B,g⟩:=List.countP_pos_iff.1 q;simp only[aF,ai6,bW,axR]at g;exact⟨(k:Int),g.1.1,g.1.2,g.2⟩
abbrev Bw:=List (bd×Option Nm)
def nmQ (q:bZ):Nm:=q.2.1.data.toList
def Tag (h:Bw)(n:Nm):Prop:=∃s,(s,some n)∈h
def By:Bw->bd
 |[]=>j8|x::_=>x.1
def JR (S:Nm->Int->Prop)(i:Int)(h:Bw)(q:bZ):Prop:=nmQ q≠[]->∀m∈q.2.2,S (nmQ q) m\/(m=i/\Tag h (nmQ q))
def Crt (c:Int×Int)(S:Nm->Int->Prop)(i:Int)(h:Bw)(n:Nm):Prop:=∃q,eT c q=true/\nmQ q=n/\JR S i h q
structure aKv (c:Int×Int) (S:Nm->Int->Prop) (i:Int) (h:Bw) (s:bd) (n:Nm):Prop where
 ok:bg n=true
 ne:n≠[]
 v:s.1=aC n
 up:(By h).1<aC n
 lk:aC (fL (fL n))<=s.2.1
 lu:s.2.1<=aC (fL n)
 crt:Crt c S i h (fL n)
def auF (n:Nm):Prop:=bg n=true/\n≠[]/\fL n≠[]/\fL (fL n)≠[]/\aC n=aC (fL n)+1/\aC (fL n)=aC (fL (fL n))+1
structure axG (c:Int×Int) (S:Nm->Int->Prop) (i:Int) (h:Bw) (s:bd) (t:Option Nm):Prop where
 ok:bh c s=true
 v:(By h).1<=s.1
 l:(By h).2.1<=s.2.1
 vt:∀n,t=some n->aKv c S i h s n
 hi:JR S i ((s,t)::h) s.2.2.1
 dn:s.2.2.2.data.toList=[]\/∃n3,auF n3/\Crt c S i ((s,t)::h) n3/\s.2.2.2.data.toList=fL (fL n3)
def Fair (c:Int×Int)(S:Nm->Int->Prop)(i:Int):Bw->Prop
 |[]=>True|x::h=>Fair c S i h/\axG c S i h x.1 x.2
def Sub (h a:Bw):Prop:=∃p,a=p++h
def Sub.refl (h:Bw):Sub h h:=⟨[],rfl⟩
def Sub.trans {a b d:Bw}(h:Sub a b)(e:Sub b d):Sub a d:=by obtain⟨p,rfl⟩:=h;obtain⟨q,rfl⟩:=e;exact⟨q++p,by simp⟩
def Sub.cons (x:bd×Option Nm)(h:Bw):Sub h (x::h):=⟨[x],rfl⟩
def Tag.mono {h a:Bw}{n:Nm}(t:Tag h n)(s:Sub h a):Tag a n:=by obtain⟨p,rfl⟩:=s;obtain⟨x,b⟩:=t;exact⟨x,List.mem_append_right p b⟩
section
variable {c:Int×Int} {S S':Nm->Int->Prop} {i:Int}
def JR.mono {h a:Bw}{q:bZ}(e:JR S i h q)(s:Sub h a):JR S i a q:=fun b m d=>(e b m d).imp id fun x=>⟨x.1,x.2.mono s⟩
def Crt.mono {h f:Bw}{n:Nm}(e:Crt c S i h n)(s:Sub h f):Crt c S i f n:=by obtain⟨q,a,b,d⟩:=e;exact⟨q,a,b,d.mono s⟩
def JR.said {h:Bw}{q:bZ}(a:∀n m,S n m->S' n m)(e:JR S i h q):JR S' i h q:=fun b m d=>(e b m d).imp (a _ _) id
def Crt.said {h:Bw}{n:Nm}(f:∀n m,S n m->S' n m)(e:Crt c S i h n):Crt c S' i h n:=by obtain⟨q,a,b,d⟩:=e;exact⟨q,a,b,d.said f⟩
def Fair.said (e:∀n m,S n m->S' n m):∀{h:Bw},Fair c S i h->Fair c S' i h
 |[],_=>trivial|x::h,g=>⟨Fair.said e g.1,⟨g.2.ok,g.2.v,g.2.l,fun n f=>{g.2.vt n f with crt:=(g.2.vt n f).crt.said e},g.2.hi.said e,g.2.dn.imp id fun ⟨j,a,b,d⟩=>⟨j,a,b.said e,d⟩⟩⟩
def Fair.sub:∀{p h:Bw},Fair c S i (p++h)->Fair c S i h
 |[],_,g=>g|_::p,_,g=>Fair.sub (p:=p) g.1
def arn:∀{h:Bw} {n:Nm},Fair c S i h->Tag h n->aC n<=(By h).1
 |[],_,_,⟨_,a⟩=>by cases a
 |x::h,n,g,⟨s,a⟩=>by
  rcases cS.1 a with e|b
  .subst e;exact Int.le_of_eq (g.2.vt n rfl).v.symm
  .exact Int.le_trans (arn g.1 ⟨s,b⟩) g.2.v
def aAh:∀{h:Bw} {n:Nm},Fair c S i h->Tag h n->aC (fL (fL n))<=(By h).2.1
 |[],_,_,⟨_,a⟩=>by cases a
 |x::h,n,g,⟨s,a⟩=>by
  rcases cS.1 a with e|b
  .subst e;exact(g.2.vt n rfl).lk
  .exact Int.le_trans (aAh g.1 ⟨s,b⟩) g.2.l
def aro:∀{h:Bw} {n a:Nm},Fair c S i h->Tag h n->Tag h a->aC n=aC a->n=a
 |[],_,_,_,⟨_,b⟩,_,_=>by cases b
 |x::h,n,a,g,⟨s,b⟩,⟨j,k⟩,e=>by
  rcases cS.1 b with l|m
  .rcases cS.1 k with d|f
   .exact eR (n7 Prod.snd (l.trans d.symm))
   .subst l;have o:=(g.2.vt n rfl).up;have p:=arn g.1 ⟨j,f⟩;omega
  .rcases cS.1 k with d|f
   .subst d;have o:=(g.2.vt a rfl).up;have p:=arn g.1 ⟨s,m⟩;omega
   .exact aro g.1 ⟨s,m⟩ ⟨j,f⟩ e
def axH:∀{h:Bw} {n:Nm},Fair c S i h->Tag h n->bg n=true/\n≠[]/\∃b,Sub b h/\Crt c S i b (fL n)
 |[],_,_,⟨_,f⟩=>by cases f
 |x::h,n,g,⟨s,f⟩=>by
  rcases cS.1 f with e|j
  .subst e;exact⟨(g.2.vt n rfl).ok,(g.2.vt n rfl).ne,h,Sub.cons _ h,(g.2.vt n rfl).crt⟩
  .obtain⟨a,b,d,k,l⟩:=axH g.1 ⟨s,j⟩;exact⟨a,b,d,k.trans (Sub.cons _ h),l⟩
def auG:∀{h:Bw} {n a:Nm},Fair c S i h->Tag h n->Tag h a->aC n<aC a->aC (fL (fL n))<=aC (fL a)
 |[],_,_,_,⟨_,b⟩,_,_=>by cases b
 |x::h,n,a,g,⟨s,b⟩,⟨j,o⟩,e=>by
  rcases cS.1 o with k|l
  .rcases cS.1 b with d|f
   .have:=eR (n7 Prod.snd (d.trans k.symm));rw[this]at e;omega
   .subst k;have p:=aAh g.1 ⟨s,f⟩;have m:=g.2.l;have q:=(g.2.vt a rfl).lu;dsimp only at m q;omega
  .rcases cS.1 b with d|f
   .subst d;have p:=(g.2.vt n rfl).up;have m:=arn g.1 ⟨j,l⟩;omega
   .exact auG g.1 ⟨s,f⟩ ⟨j,l⟩ e
end
structure aHG (c:Int×Int) (liars:List Int) (S:Nm->Int->Prop) (hs:Int->Bw):Prop where
 cf:bw c=true
 l:(liars.length:Int)<=wC c
 s:∀n m,S n m->m∈liars\/Tag (hs m) n
 g:∀i,Fair c S i (hs i)
section
variable {c:Int×Int} {liars:List Int} {S:Nm->Int->Prop} {hs:Int->Bw} (H:aHG c liars S hs)
include H
def aEb {i:Int}{h:Bw}(d:Sub h (hs i)){q:bZ}(e:JR S i h q)(f:nmQ q≠[]){m:Int}(g:m∈q.2.2)(j:m ∉ liars):Tag (hs m) (nmQ q):=by
 rcases e f m g with a|⟨a,k⟩
 .rcases H.s _ _ a with b|b
  .exact absurd b j
  .exact b
 .subst a;exact k.mono d
def axI {j k:Int}{f g:Bw}(l:Sub f (hs j))(n:Sub g (hs k)){a b:Nm}(o:Crt c S j f a)(p:Crt c S k g b)(d:a≠[])(e:b≠[]) :
  ∃m,Tag (hs m) a/\Tag (hs m) b:=by
 obtain⟨y,q,s,t⟩:=o;obtain⟨z,u,v,x⟩:=p;subst s;subst v;obtain⟨_,_,_,_,f1⟩:=j4 q;obtain⟨_,_,_,_,f2⟩:=j4 u;obtain⟨m,m1,m2,m3⟩:=aHF H.cf H.l (f1 d).1 (f2 e).1 (f1 d).2 (f2 e).2;exact⟨m,aEb H l t d m1 m3,aEb H n x e m2 m3⟩
def agn {g j:Int}{d f:Bw}(k:Sub d (hs g))(l:Sub f (hs j)){a b:Nm}(n:Crt c S g d a)(o:Crt c S j f b)(p:a≠[])(q:b≠[])(e:aC a=aC b):a=b:=by obtain⟨m,t1,t2⟩:=axI H k l n o p q;exact aro (H.g m) t1 t2 e
def aHH {i:Int}{h:Bw}(s:Sub h (hs i)){n:Nm}(d:Crt c S i h n)(z:n≠[]):bg n=true/\∃m b,Sub b (hs m)/\Crt c S m b (fL n):=by obtain⟨m,t1,_⟩:=axI H s s d d z z;obtain⟨a,_,b,e,f⟩:=axH (H.g m) t1;exact⟨a,m,b,e,f⟩
def aHI {i:Int}{h:Bw}(s:Sub h (hs i)){a:Nm}(d:Crt c S i h a)(t:auF a):∀(k:Nat) {g:Int} {j:Bw} {n:Nm},Sub j (hs g)->Crt c S g j n->aC n=k->aC (fL (fL a))<=aC n->Anc (fL (fL a)) n:=by
 obtain⟨y,l,p,q,M,N⟩:=t;obtain⟨_,m2,O,u,v⟩:=aHH H s d l;obtain⟨o,m1,P,z,A⟩:=aHH H u v p;intro k
 induction k using Nat.strongRecOn with
 |_ k B =>
  intro g j n f dn Q C;have e:n≠[]:=fun D=>by subst D;have R:=amS (C2 o) q;have T:=mS (fL (fL (fL a)));rw[Sz]at C;omega
  by_cases E:aC n=aC (fL (fL a))
  .rw[agn H f z dn A e q E];exact Anc.refl _
  .by_cases F:aC n=aC (fL a)
   .rw[agn H f u dn v e p F];exact Yp o
   .by_cases G:aC n=aC a
    .rw[agn H f s dn d e l G];exact(Yp o).trans (Yp y)
    .obtain⟨m,t3,x⟩:=axI H s f d dn l e;have I:=auG (H.g m) t3 x (by omega);obtain⟨on,_,b,K,L⟩:=axH (H.g m) x;have W:=amS on e;have X:=mS (fL n);exact(B (aC (fL n)).toNat (by omega) K L (by omega) I).trans (Yp on)
def auH {l m:Int}{g j:Bw}(o:Sub g (hs l))(p:Sub j (hs m)){a b:Nm}(q:Crt c S l g a)(s:Crt c S m j b)(n:auF a)(d:auF b)(x:aC (fL (fL a))<=aC (fL (fL b))):Anc (fL (fL a)) (fL (fL b)):=by
 have t:=Yp d.1;have u:=Yp (C2 d.1);have y:=d.2.2.2.2.1;have z:=d.2.2.2.2.2;have h:=aHI H o q n (aC b).toNat p s (by have:=mS b;omega) (by omega);have k:Anc (fL (fL b)) b:=u.trans t;rcases Nat.le_total (fL (fL a)).length (fL (fL b)).length with f|f
 .exact arl h k f
 .have v:=arl k h f;by_cases e:fL (fL b)=fL (fL a)
  .rw[e];exact Anc.refl _
  .have:=aHE (C2 (C2 n.1)) (C2 (C2 d.1)) v e;omega
end
def Mb (m:b4):bZ:=if m.1=1 then m.2.2.1.2 else if m.1=2 then m.2.2.2.1 else if m.1=3 then m.2.2.2.2.1 else b9
def adm (S:Nm->Int->Prop)(i:Int)(h:Bw)(m:b4):Prop:=JR S i h (Mb m)
structure RI (c:Int×Int) (S:Nm->Int->Prop) (r:aw) (h:Bw):Prop where
 g:Fair c S r.1 h
 s:r.2.2.2.1=By h
 d:r.2.2.2.2.2.2.1.1=ca (h.map (·.1)).reverse
 t:∀p∈r.2.2.2.2.2.1,JR S r.1 h p
 m:∀p∈r.2.2.2.2.2.2.2,adm S r.1 h p.2
def Up (c:Int×Int)(S:Nm->Int->Prop)(i su:Int)(h:Bw)(r:aw):Prop:=∃a,RI c S r a/\Sub h a/\r.1=i/\r.2.2.2.2.2.2.1.2=su
section
variable {c:Int×Int} {S:Nm->Int->Prop} {i su:Int} {h:Bw} {r:aw}
def RI.up (R:RI c S r h):Up c S r.1 r.2.2.2.2.2.2.1.2 h r:=⟨h,R,Sub.refl h,rfl,rfl⟩
def RI.up' (R:RI c S r h)(a:r.1=i)(b:r.2.2.2.2.2.2.1.2=su):Up c S i su h r:=⟨h,R,Sub.refl h,a,b⟩
def Up.bind {r':aw}(u:Up c S i su h r)(k:∀f,RI c S r f->Sub h f->r.1=i->r.2.2.2.2.2.2.1.2=su->Up c S i su f r'):Up c S i su h r':=by obtain⟨f,a,b,d,e⟩:=u;obtain⟨g,j,l,m,n⟩:=k f a b d e;exact⟨g,j,b.trans l,m,n⟩
def aEc (q:bZ)(a:nmQ q=[]):JR S i h q:=fun b=>absurd a b
def aHJ (q:bZ)(b:q.2.2=[]):JR S i h q:=fun _ m a=>by rw[b]at a;cases a
def arp:JR S i h b9:=aEc _ rfl
def RI.same (R:RI c S r h){r':aw}(a:r'.1=r.1)(b:r'.2.2.2.1=r.2.2.2.1)(d:r'.2.2.2.2.2.2.1.1=r.2.2.2.2.2.2.1.1)(e:∀p∈r'.2.2.2.2.2.1,JR S r.1 h p)(f:∀p∈r'.2.2.2.2.2.2.2,adm S r.1 h p.2):RI c S r' h :=
 ⟨by rw[a];exact R.g,b.trans R.s,d.trans R.d,by rw[a];exact e,by rw[a];exact f⟩
def aCE:∀{h:Bw},Fair c S i h->JR S i h (By h).2.2.1
 |[],_=>arp|_::_,g=>g.2.hi
def arq (c:Int×Int)(S:Nm->Int->Prop)(i:Int)(h:Bw)(d:ByteArray):Prop:=d.data.toList=[]\/∃a,auF a/\Crt c S i h a/\d.data.toList=fL (fL a)
def arq.mono {f:Bw}{d:ByteArray}(e:arq c S i h d)(s:Sub h f):arq c S i f d:=e.imp id fun ⟨n,a,b,e⟩=>⟨n,a,b.mono s,e⟩
def axJ:∀{h:Bw},Fair c S i h->arq c S i h (By h).2.2.2
 |[],_=>.inl rfl|_::_,g=>g.2.dn
def aHK {n:Nm}(h:bg n=true)(hs:L8 (a7 n).1=true):auF n:=by
 unfold L8 at hs;simp only[aF,bW,bf]at hs;obtain⟨t,d,f⟩:=hs;have z:∀l:Nm,0<(a7 l).1.length->l≠[]:=fun l o e=>by subst e;exact absurd o (by decide)
 have g:=z n (by omega);obtain⟨x,ex,u⟩:=afU h g;have v:(a7 n).1.length=(a7 (fL n)).1.length+1:=by rw[ex,aJ];rfl
 have j:=z (fL n) (by omega);obtain⟨y,a,A⟩:=afU (C2 h) j;have B:(a7 (fL n)).1.length=(a7 (fL (fL n))).1.length+1:=by rw[a,aJ];rfl
 have k:=z (fL (fL n)) (by omega);obtain⟨w,b,C⟩:=afU (C2 (C2 h)) k;have p:(a7 (fL (fL n))).1.length=(a7 (fL (fL (fL n)))).1.length+1:=by rw[b,aJ];rfl
 generalize (a7 (fL (fL (fL n)))).1=L at b p;rw[b]at a;rw[a]at ex;have e:(a7 n).1=L++[w,y,x]:=by rw[ex];simp
 have len:(a7 n).1.length=L.length+3:=by rw[e,aJ];rfl
 have q:(a7 n).1.getD ((a7 n).1.length-1) (0,[])=x:=by rw[len,e,EW,axP (by omega),show L.length+3-1-L.length=2 by omega];rfl
 have m:(a7 n).1.getD ((a7 n).1.length-2) (0,[])=y:=by rw[len,e,EW,axP (by omega),show L.length+3-2-L.length=1 by omega];rfl
 have s:(a7 n).1.getD ((a7 n).1.length-3) (0,[])=w:=by rw[len,e,EW,axP (by omega),show L.length+3-3-L.length=0 by omega];rfl
 rw[q,m]at d;rw[m,s]at f;have D:=mS (fL n);have E:=mS (fL (fL n));rw[aG (by omega) (by omega)]at d f;exact⟨h,g,j,k,by omega,by omega⟩
def ars (g:Fair c S i h){q:bZ}(e:JR S i h q):(SO c (By h) q).1=(By h).1/\(By h).2.1<=(SO c (By h) q).2.1/\JR S i h (SO c (By h) q).2.2.1/\arq c S i h (SO c (By h) q).2.2.2:=by
 unfold SO;split
 .rename_i a;refine⟨rfl,?_,?_,?_⟩
  .show(By h).2.1<=sY _ _;unfold sY;split<;>omega
  .show JR S i h (OC q _);unfold OC;split
   .exact e
   .exact aCE g
  .dsimp only;split
   .rename_i d;have hs:JN q.2.1=true:=by
     cases f:JN q.2.1 with
     |true=>rfl
     |false =>
      have b:=d.1;rw[hV,f,af Bool.false_ne_true]at b;cases b
    rw[hV,ag hs];exact .inr ⟨nmQ q,aHK (j4 a.2).2.1 hs,⟨q,a.2,rfl,e⟩,by show(tx (fL (tx (fL (nmQ q))).data.toList)).data.toList=_;rw[fl,fl]⟩
   .exact axJ g
 .exact⟨rfl,Mi _,aCE g,axJ g⟩
def aAi (g:Fair c S i h){q:bZ}(e:JR S i h q)(j:bh c (SO c (By h) q)=true):axG c S i h (SO c (By h) q) none:=by obtain⟨a,b,d,f⟩:=ars g e;exact⟨j,Int.le_of_eq a.symm,b,fun _ k=>(by cases k),d.mono (Sub.cons _ h),f.mono (Sub.cons _ h)⟩
def aAj (R:RI c S r h)(s:bd)(t:Option Nm)(N:bh c s=true->axG c S r.1 h s t)(hs:eM r.2.2.2.1 s=true->t=none) :
  ∃b,RI c S (hY c r s).1 b/\Sub h b/\(hY c r s).1.1=r.1/\(hY c r s).1.2.2.2.2.2.2.1.2=r.2.2.2.2.2.2.1.2/\((hY c r s).2=true->∀n,t=some n->Tag b n):=by
 unfold hY;by_cases d:eM r.2.2.2.1 s=true
 .rw[ag d];exact⟨h,R,Sub.refl h,rfl,rfl,fun _ n a=>by rw[hs d]at a;cases a⟩
 .rw[af d];by_cases e:bh c s=true/\r.2.2.2.2.2.2.1.1.length+(dA s).length<=100000
  .rw[ag e];refine⟨(s,t)::h,⟨⟨R.g,N e.1⟩,rfl,?_,fun p f=>(R.t p f).mono (Sub.cons _ h),fun p f=>(R.m p f).mono (Sub.cons _ h)⟩,Sub.cons _ h,rfl,rfl,fun _ n a=>⟨s,by rw[a];exact pT⟩⟩;show r.2.2.2.2.2.2.1.1++dA s=_;rw[R.d,sZ,List.reverse_cons,ca,ca,auT];simp
  .rw[af e];exact⟨h,R,Sub.refl h,rfl,rfl,fun g=>by cases g⟩
def Mc (R:RI c S r h){q:bZ}(e:JR S r.1 h q):Up c S r.1 r.2.2.2.2.2.2.1.2 h (written c r q).1:=by obtain⟨j,a,b,d,f,_⟩:=aAj R (SO c r.2.2.2.1 q) none (fun g=>by rw[R.s]at g ⊢;exact aAi R.g e g) (fun _=>rfl);exact⟨j,a,b,d,f⟩
def amX (R:RI c S r h)(a:Int){m:b4}(b:adm S r.1 h m):Up c S r.1 r.2.2.2.2.2.2.1.2 h (lK c r a m).1:=by
 unfold lK;split
 .refine(R.same (r':=vV r (a,m)) rfl rfl rfl R.t fun p d=>?_).up;rcases gF.1 d with h1|h1
  .exact R.m p h1
  .rw[fM.1 h1];exact b
 .exact R.up
def Yq (R:RI c S r h)(v:Int):RI c S (tc r v) h:=R.same rfl rfl rfl R.t R.m
def adn (R:RI c S r h)(v:Int):RI c S (ka r v) h:=R.same rfl rfl rfl R.t R.m
def art (R:RI c S r h)(p:List dG):RI c S (OI r p) h:=R.same rfl rfl rfl R.t R.m
def aky (R:RI c S r h):RI c S (F2 r) h:=R.same rfl rfl rfl R.t R.m
def RE (R:RI c S r h){t:List bZ}(a:∀p∈t,JR S r.1 h p):RI c S (fF r t) h:=R.same rfl rfl rfl a R.m
def aHL (R:RI c S r h){q:bZ}(e:JR S r.1 h q):Up c S r.1 r.2.2.2.2.2.2.1.2 h (pR c r q).1:=by
 unfold pR;split
 .split
  .exact Mc R e
  .split
   .exact(Mc R e).bind fun f b g a d=>(Yq b _).up' a d
   .refine(Mc R e).bind fun f b g a d=>?_
    have:=amX (Yq b (aj (q.1+1))) (b2 c (aj (q.1+1))) (m:=j9 (aj (q.1+1)) q r.1) (by show JR S _ f q;rw[show(tc (written c r q).1 (aj (q.1+1))).1=r.1 from a];exact e.mono g);rw[show(tc (written c r q).1 (aj (q.1+1))).1=r.1 from a,show(tc (written c r q).1 (aj (q.1+1))).2.2.2.2.2.2.1.2=r.2.2.2.2.2.2.1.2 from d]at this;exact this
 .exact R.up
def aru {t:List bZ}(a:∀p∈t,JR S i h p)(v:Int)(n:ByteArray):JR S i h (dk t v n):=by
 unfold dk;split
 .rename_i x b;exact a x (Vh b)
 .exact aHJ _ rfl
def Y8 {a b:ByteArray}(h:(a.toList==b.toList)=true):a.data.toList=b.data.toList:=by have:=UO a.data.toList b.data.toList;rw[<-J8,<-J8]at this;exact lE (this.symm.trans h)
def arv {p:bZ}(d:JR S i h p):∀{t:List bZ},(∀x∈t,JR S i h x)->∀x∈fc p t,JR S i h x
 |[],_,x,a=>by rw[fM.1 a];exact d
 |y::t,b,x,a=>by
  unfold fc at a;split at a
  .rcases cS.1 a with h1|h1
   .rw[h1];exact b y pT
   .exact arv d (fun z j=>b z (jH y j)) x h1
  .split at a
   .rename_i hs;rcases cS.1 a with h1|h1
    .rw[h1];unfold sameAt at hs;simp only[aF]at hs;have f:nmQ y=nmQ p:=Y8 hs.2;intro g m k;rcases aEV.1 (show m∈afD y.2.2 p.2.2 from k) with e|e
     .exact b y pT g m e
     .have:=d (by rw[<-f];exact g) m e;rw[<-f]at this;exact this
    .exact b x (jH y h1)
   .rcases cS.1 a with h1|h1
    .rw[h1];exact d
    .exact b x h1
def SY {p:bZ}(b:JR S i h p){t:List bZ}(a:∀x∈t,JR S i h x):∀x∈(bq c t p).1,JR S i h x:=by
 unfold bq;split
 .exact arv b a
 .exact a
def arw (R:RI c S r h)(v:Int)(n:ByteArray)(p:Bool):Up c S r.1 r.2.2.2.2.2.2.1.2 h (fE c r v n p).1:=by
 unfold fE;split
 .exact R.up
 .split
  .split
   .exact aHL R (aru R.t _ _)
   .exact R.up
  .split
   .exact R.up
   .exact amX R _ (aru R.t _ _)
end
section
variable {c:Int×Int} {S:Nm->Int->Prop} {i su:Int} {h:Bw} {r:aw}
def aJm (v:Int)(n:ByteArray)(a:Tag h n.data.toList):JR S i h (one v n i):=fun _ m b=>.inr ⟨fM.1 b,a⟩
def aAk (v cv:Int):JR S i h (one v ak cv):=aEc _ rfl
def aKw (R:RI c S r h)(n:ByteArray)(a:Tag h n.data.toList):Up c S r.1 r.2.2.2.2.2.2.1.2 h (own c r n).1:=by
 unfold own;split
 .exact arw (RE R (SY (aJm _ n a) R.t)) _ _ _
 .exact R.up
def aFC (g:Fair c S i h){b:cq}(e:JR S i h b.2)(a:hX c (SO c (By h) b.2) b=true)(m:bh c (nj b,(SO c (By h) b.2).2)=true) :
  axG c S i h (nj b,(SO c (By h) b.2).2) (some b.1.data.toList):=by
 obtain⟨z,o,p,q⟩:=ars (c:=c) g e;unfold hX at a;simp only[aF,bW]at a;obtain⟨m1,m2,m3,m4⟩:=a;unfold fB at m2;simp only[aF,ai6]at m2;obtain⟨d,s,j,t⟩:=m2;have f:fL b.1.data.toList=nmQ b.2:=by have:=Y8 t;rw[fl]at this;exact this
 have u:b.1.data.toList≠[]:=fun v=>by rw[(ru b.1).2 v]at j;cases j
 have hs:bh c (By h)=true:=by
  cases k:bh c (By h) with
  |true=>rfl
  |false =>
   unfold SO at m1;rw[af (fun l=>by rw[k]at l;cases l.1),k]at m1;exact m1
 have x:aC (fL (nmQ b.2))<=(SO c (By h) b.2).2.1:=by unfold SO;rw[ag ⟨hs,d⟩];show _<=sY _ (aC (fL (nmQ b.2)));unfold sY;split<;>omega
 have A:=(j4 d).2.2.1;refine⟨m,?_,o,fun n y=>?_,p.mono (Sub.cons _ h),q.mono (Sub.cons _ h)⟩
 .show(By h).1<=aC b.1.data.toList;omega
 .cases y;refine⟨s,u,rfl,?_,?_,?_,?_⟩
  .omega
  .rw[f];exact x
  .rw[f];show(SO c (By h) b.2).2.1<=aC b.2.2.1.data.toList;omega
  .rw[f];exact⟨b.2,d,rfl,e⟩
def aHM (R:RI c S r h)(b:cq):RI c S (jy r b) h/\(jy r b).1=r.1/\(jy r b).2.2.2.2.2.2.1.2=r.2.2.2.2.2.2.1.2/\(jy r b).2.2.2.1=r.2.2.2.1:=by
 unfold jy;split
 .exact⟨adn R _,rfl,rfl,rfl⟩
 .exact⟨R,rfl,rfl,rfl⟩
def ago (R:RI c S r h){b:cq}(e:JR S r.1 h b.2):Up c S r.1 r.2.2.2.2.2.2.1.2 h (e8 c r b).1:=by
 obtain⟨n,k,o,p⟩:=aHM R b;have q:=aAj n (tt c r b) (if iT c r b=true then some b.1.data.toList else none) (fun f=>?_) (fun l=>?_)
 .unfold e8 B0;obtain⟨s,a,m,f1,f2,f3⟩:=q;rw[k]at f1;rw[o]at f2;split
  .rename_i t;split
   .rename_i d;split
    .have u:=f3 t b.1.data.toList (by rw[ag d]);obtain⟨j,v,x,y,z⟩:=aKw a b.1 u;exact⟨j,v,m.trans x,y.trans f1,z.trans f2⟩
    .exact R.up
   .exact⟨s,a,m,f1,f2⟩
  .exact R.up
 .rw[k];have hs:r.2.2.2.1=By h:=R.s;unfold tt at f ⊢;by_cases d:iT c r b=true
  .rw[ag d]at f ⊢;rw[ag d];have g:hX c (SO c r.2.2.2.1 b.2) b=true:=by unfold iT at d;exact(aF _ _▸d:_/\_).2
   rw[hs]at f g ⊢;exact aFC R.g e g f
  .rw[af d]at f ⊢;rw[af d];rw[hs]at f ⊢;exact aAi R.g e f
 .by_cases d:iT c r b=true
  .exfalso;rw[p]at l;have:=azq l;unfold tt at this;rw[ag d]at this;have g:hX c (SO c r.2.2.2.1 b.2) b=true:=by unfold iT at d;exact(aF _ _▸d:_/\_).2
   unfold hX at g;simp only[aF,bW]at g;have B:=g.2.2.1;have j:=(ars (c:=c) R.g e).1;rw[<-R.s]at j;have A:=n7 Prod.fst this;have C:r.2.2.2.1.1=aC b.1.data.toList:=A;omega
  .rw[af d]
def aAl (R:RI c S r h){p:bZ}(e:JR S r.1 h p):Up c S r.1 r.2.2.2.2.2.2.1.2 h (iH c r p).1:=by
 unfold iH;split
 .exact arw (RE R (SY e R.t)) _ _ _
 .exact R.up
def aAm (R:RI c S r h)(l:Bool)(v:Int)(q:bZ)(a:r.1=i)(b:r.2.2.2.2.2.2.1.2=su):Up c S i su h (Ma l r v q):=by
 unfold Ma;split
 .exact(Yq (Yq R _) _).up' a b
 .exact(Yq R _).up' a b
def aAn (R:RI c S r h)(imp:Bool)(v:Int){q:bZ}(cv:Int)(e:JR S r.1 h q):Up c S r.1 r.2.2.2.2.2.2.1.2 h (iI imp c r v q cv).1:=by
 unfold iI;split
 .unfold ry;split
  .split
   .exact(Mc R e).bind fun f a g b d=>aAm (RE a (SY (aAk _ _) a.t)) _ _ _ b d
   .exact R.up
  .exact(Mc R e).bind fun f a g b d=>aAm a _ _ _ b d
 .exact R.up
def aHN (R:RI c S r h)(imp:Bool){m:b4}(e:adm S r.1 h m):Up c S r.1 r.2.2.2.2.2.2.1.2 h (ud imp c r m).1:=by
 unfold adm Mb at e;unfold ud;split
 .rename_i a;rw[ag a]at e;exact ago R e
 .rename_i a;rw[af a]at e;split
  .rename_i b;rw[ag b]at e;exact aAl R e
  .rename_i b;rw[af b]at e;split
   .rename_i d;rw[ag d]at e;exact aAn R imp _ _ e
   .exact(art R _).up
def aEd (R:RI c S r h)(imp:Bool){m:b4}(e:adm S r.1 h m):Up c S r.1 r.2.2.2.2.2.2.1.2 h (GQ imp c r m).1:=by
 unfold GQ;split
 .exact(aHN R imp e).bind fun g a j b d=>(art (RE a fun p f=>a.t p (List.mem_filter.1 f).1) _).up' b d
 .exact R.up
def aHO (R:RI c S r h):JR S r.1 h r.2.2.2.1.2.2.1:=by rw[R.s];exact aCE R.g
def aHP (R:RI c S r h):Up c S r.1 r.2.2.2.2.2.2.1.2 h (BZ c r).1:=by
 unfold BZ;split
 .exact R.up
 .split
  .split
   .exact(RE (adn R (aj (r.2.1+1))) (SY (aAk _ _) R.t)).up' rfl rfl
   .exact R.up
  .split
   .have a:JR S r.1 h r.2.2.2.1.2.2.1:=aHO R;exact amX (adn R (aj (r.2.1+1))) _ (m:=j9 _ r.2.2.2.1.2.2.1 r.1) a
   .exact R.up
def ai0 (R:RI c S r h){m:b4}(e:adm S r.1 h m):∀(j k:Nat) {o:aw},Up c S r.1 r.2.2.2.2.2.2.1.2 h o->Up c S r.1 r.2.2.2.2.2.2.1.2 h (rv c r m j k o).1
 |0,_,o,a=>a|j+1,k,o,a=>by
  unfold rv;split
  .exact ai0 R e j (k+1) a
  .split
   .refine ai0 R e j (k+1) (a.bind fun l d f b g=>?_);have:=amX (c:=c) d (k:Int) (m:=m) (by rw[b];exact JR.mono e f);rw[b,g]at this;exact this
   .exact R.up
def aEe (R:RI c S r h):JR S r.1 h (ask c r).1.2:=by
 unfold ask;split
 .unfold iG;split
  .exact aHO R
  .exact arp
 .exact arp
def aJn (R:RI c S r h):Up c S r.1 r.2.2.2.2.2.2.1.2 h (Yk c r).1:=by
 unfold Yk;split
 .split
  .have d:Up c S r.1 r.2.2.2.2.2.2.1.2 h (aiT c r).1:=ai0 (aky R) (m:=aqS (ask c r).1) (aEe R) _ _ (aky R).up;refine d.bind fun j e f a g=>?_
   have:=ago (c:=c) e (b:=(ask c r).1) (by rw[a];exact(aEe R).mono f);rw[a,g]at this;exact this
  .exact R.up
 .exact R.up
def auI (R:RI c S r h):∀k,Up c S r.1 r.2.2.2.2.2.2.1.2 h (tv c r k).1
 |0=>R.up|k+1=>by
  unfold tv;split
  .exact auI R k
  .split
   .exact arw R _ _ _
   .exact R.up
def aJo (R:RI c S r h)(imp:Bool)(m:b4):Up c S r.1 r.2.2.2.2.2.2.1.2 h (axy imp c r m).1:=by
 unfold axy;split
 .rename_i a;refine aEd R imp ?_;unfold adm Mb;rw[af (by omega),af (by omega),af (by omega)];exact arp
 .exact R.up
def arx (a b:List bd):ca (a++b)=ca a++ca b:=by simp[ca]
def aEf:∀{h:Bw},Fair c S i h->∀x∈h,bh c x.1=true
 |[],_,x,a=>by cases a
 |y::h,g,x,a=>by
  rcases cS.1 a with h1|h1
  .rw[h1];exact g.2.ok
  .exact aEf g.1 x h1
def aFD (h:Bw):(h.map (·.1)).reverse.getLastD j8=By h:=by
 cases h with
 |nil=>rfl|cons x h=>simp[By]
def aJp (R:RI c S r h){d:pQ}{k:Nat}(v:d.1=r.2.2.2.2.2.2.1.1.take k) :
  ∃m,RI c S (axf c (EU r d)) m/\Sub m h/\(∀a,Sub a h->(ca (a.map (·.1)).reverse).length<=k->Sub a m)/\(axf c (EU r d)).1=r.1/\(axf c (EU r d)).2.2.2.2.2.2.1.2=((ca (m.map (·.1)).reverse).length:Int):=by
 have n:∀x∈(h.map (·.1)).reverse,bh c x=true:=fun x j=>by obtain⟨y,z,rfl⟩:=EY.1 (List.mem_reverse.1 j);exact aEf R.g y z
 obtain⟨b,t,A,B,e,P,C⟩:=ac4 k n;have hlen:(h.map (·.1)).reverse.length=h.length:=by simp
 have o:(h.map (·.1)).reverse.take b=((h.drop (h.length-b)).map (·.1)).reverse:=by rw[List.take_reverse,List.map_drop];simp
 have D:Sub (h.drop (h.length-b)) h:=⟨h.take (h.length-b),(ZK _ _).symm⟩;have E:Fair c S r.1 (h.drop (h.length-b)):=by have:=R.g;rw[<-ZK (h.length-b) h]at this;exact this.sub
 have q:=L7 B (l:=(h.map (·.1)).reverse.take b) (fun x j=>n x (ZL j));have s:(EU r d).2.2.2.2.2.2.1.1=ca ((h.map (·.1)).reverse.take b)++t:=by show d.1=_;rw[v,R.d,e]
 refine⟨h.drop (h.length-b),⟨E,?_,?_,fun p f=>absurd f abC,fun p f=>absurd f abC⟩,D,fun a F G=>?_,rfl,?_⟩
 .show(dU c (EU r d).2.2.2.2.2.2.1.1).1=_;rw[s,q,o];exact aFD _
 .show(EU r d).2.2.2.2.2.2.1.1.take (dU c (EU r d).2.2.2.2.2.2.1.1).2=_;rw[s,q,<-o];exact abD
 .obtain⟨p,f⟩:=F;have u:a.length<=h.length:=by rw[f,aJ];omega
  have I:(h.map (·.1)).reverse.take a.length=(a.map (·.1)).reverse:=by rw[f,adr,List.reverse_append];exact am8 (by simp)
  have g:=C a.length (by rw[hlen];exact u) (by rw[I];exact G);have Q:a.length<=b:=by
   rcases g with g|g
   .exact g
   .rcases S1 b a.length with hlt|K
    .exfalso;have L:(h.map (·.1)).reverse.take a.length=(h.map (·.1)).reverse.take b++((h.map (·.1)).reverse.take a.length).drop b:=by have:=ZK b ((h.map (·.1)).reverse.take a.length);rw[List.take_take,ads (by omega)]at this;exact this.symm
     rw[L,arx]at g;have M:=n7 List.length g;rw[aJ]at M;have N:=ac3 (c:=c) (l:=((h.map (·.1)).reverse.take a.length).drop b) fun x j=>n x (ZL (auR j))
     rw[bc,bB,hlen]at N;omega
    .exact K
  refine⟨(h.drop (h.length-b)).take ((h.drop (h.length-b)).length-a.length),?_⟩;have O:a=(h.drop (h.length-b)).drop ((h.drop (h.length-b)).length-a.length):=by rw[am9,bc,f,aJ];rw[show p.length+a.length-b+(p.length+a.length-(p.length+a.length-b)-a.length)=p.length by rw[f,aJ]at u;rw[hlen,f,aJ]at A;omega];exact ana.symm
  conv=>rhs;rhs;rw[O]
  exact(ZK _ _).symm
 .show((dU c (EU r d).2.2.2.2.2.2.1.1).2:Int)=_;rw[s,q,o]
end
def Sd (w:ah):Nm->Int->Prop:=fun n m=>m∈w.2.1\/∃x∈w.2.2.2.2,x.2.1.data.toList=n/\x.2.2=m
def szG (h:Bw):Nat:=(ca (h.map (·.1)).reverse).length
structure WI (w:ah) (hs:Nat->Bw):Prop where
 r:∀(k:Nat) (hk:k<w.2.2.1.length),RI w.1 (Sd w) w.2.2.1[k] (hs k)
 s:∀x∈w.2.2.2.2,∃(k:Nat) (hk:k<w.2.2.1.length),x.2.2=(k:Int)/\∃h1,Sub h1 (hs k)/\Tag h1 x.2.1.data.toList/\(szG h1:Int)<=(w.2.2.1[k]).2.2.2.2.2.2.1.2
 n:∀x∈w.2.2.2.1,adm (Sd w) (-1) [] (gv w.1 x.2).1
def ary (l:List Int):∀k,∀x∈oH l k,x ∉ l
 |0,x,h=>by cases h
 |k+1,x,h=>by
  unfold oH at h;rcases gF.1 h with h1|h1
  .exact ary l k x h1
  .split at h1
   .cases h1
   .rename_i a;rw[fM.1 h1];exact a
def aEg {c:Int×Int}{S:Nm->Int->Prop}{i:Int}{a h:Bw}(s:Sub a h):szG a<=szG h:=by obtain⟨p,rfl⟩:=s;unfold szG;rw[adr,List.reverse_append,arx,aJ];omega
def aJq {S:Nm->Int->Prop}{i:Int}{h:Bw}{q:bZ}(e:JR S (-1) [] q):JR S i h q:=fun a m b=>.inl (by
 rcases e a m b with d|⟨_,x,f⟩
 .exact d
 .cases f)
def RI.said {c:Int×Int}{S S':Nm->Int->Prop}{r:aw}{h:Bw}(a:∀n m,S n m->S' n m)(R:RI c S r h):RI c S' r h:=⟨R.g.said a,R.s,R.d,fun p b=>(R.t p b).said a,fun p b=>JR.said a (R.m p b)⟩
section
variable {w:ah} {hs:Nat->Bw}
def WI.set (W:WI w hs){k:Nat}(p:k<w.2.2.1.length){r':aw}{f:Bw}(R:RI w.1 (Sd w) r' f)
  (l:∀b,Sub b (hs k)->(szG b:Int)<=(w.2.2.1[k]).2.2.2.2.2.2.1.2->Sub b f/\(szG b:Int)<=r'.2.2.2.2.2.2.1.2) :
  WI (fT w (k:Int) r') (fun a=>if a=k then f else hs a):=by
 have hlen:(fT w (k:Int) r').2.2.1=w.2.2.1.set k r':=rfl;refine⟨fun a d=>?_,fun x m=>?_,W.n⟩
 .by_cases e:a=k
  .subst e;have:(fT w (a:Int) r').2.2.1[a]=r':=by simp[hlen]
   rw[this,ag rfl];exact R
  .have n:a<w.2.2.1.length:=by rw[hlen,tw]at d;exact d
   have:(fT w (k:Int) r').2.2.1[a]=w.2.2.1[a]:=by simp only[hlen];exact auU (fun h=>e h.symm) _
   rw[this,af e];exact W.r a n
 .obtain⟨a,d,o,b,g,t1,j⟩:=W.s x m;refine⟨a,by rw[hlen,tw];exact d,o,b,?_,t1,?_⟩
  .by_cases e:a=k
   .subst e;rw[ag rfl];exact(l b g j).1
   .rw[af e];exact g
  .by_cases e:a=k
   .subst e;have:(fT w (a:Int) r').2.2.1[a]'(by rw[hlen,tw];exact d)=r':=by simp[hlen]
    rw[this];exact(l b g j).2
   .have:(fT w (k:Int) r').2.2.1[a]'(by rw[hlen,tw];exact d)=w.2.2.1[a]:=by simp only[hlen];exact auU (fun h=>e h.symm) _
    rw[this];exact j
def WI.up (W:WI w hs){k:Nat}(a:k<w.2.2.1.length){r':aw}(u:Up w.1 (Sd w) (w.2.2.1[k]).1 (w.2.2.1[k]).2.2.2.2.2.2.1.2 (hs k) r'):∃b,WI (fT w (k:Int) r') b:=by obtain⟨j,d,s,_,e⟩:=u;exact⟨_,W.set a d fun l f g=>⟨f.trans s,by rw[e];exact g⟩⟩
def arz {a:Int}{k:Nat}(e:a=(k:Int))(b:k<w.2.2.1.length):b3 w a=w.2.2.1[k]:=by subst e;unfold b3;rw[ho];exact aI b _
def WI.net (W:WI w hs){a:List gr}(b:∀x∈a,adm (Sd w) (-1) [] (gv w.1 x.2).1):WI (Yn w a) hs:=⟨W.r,W.s,b⟩
def aJr (G:aH w)(W:WI w hs){k:Nat}(a:k<w.2.2.1.length)(imp:Bool){d:dm}(e:d.2.1=(k:Int)):∃l,WI (amA imp w d).1 l:=by
 have b:=W.r k a;unfold amA;rw[arz e a,e];dsimp only;unfold adi;split
 .exact W.up a (aJn b)
 .split
  .exact W.up a (auI b _)
  .split
   .split
    .exact W.up a (aHP b)
    .exact W.up a b.up
   .split
    .have f:=(G.g _ (bP a)).f.d;have s:=af3 f d.2.2.1;have t:=db.1 f;have m:(ha (w.2.2.1[k]).2.2.2.2.2.2.1 d.2.2.1).1=(w.2.2.1[k]).2.2.2.2.2.2.1.1.take (HU (w.2.2.1[k]).2.2.2.2.2.2.1 d.2.2.1).toNat:=by unfold ha;rw[ag f]
     obtain⟨u,n,v,o,_,p⟩:=aJp b m;refine⟨_,W.set a n fun g q x=>?_⟩;have j:=o g q (by show szG g<=_;omega);refine⟨j,?_⟩;show(szG g:Int)<=(axf w.1 (EU (w.2.2.1[k]) (ha (w.2.2.1[k]).2.2.2.2.2.2.1 d.2.2.1))).2.2.2.2.2.2.1.2;rw[p];have:=aEg (c:=w.1) (S:=Sd w) (i:=0) j;unfold szG at this ⊢;omega
    .exact W.up a (aJo b imp _)
def aHR (W:WI w hs){a:Int}(m:0<=a)(n:a<w.2.2.2.1.length):∃g,WI (agk true w a) g:=by
 have b:cU w a∈w.2.2.2.1:=by unfold cU;rw[aI (show a.toNat<w.2.2.2.1.length by omega)];exact bP _
 have d:WI (OJ w a) hs:=W.net fun x b=>W.n x (adk b)
 unfold agk;split
 .rename_i j;have l:=eQ j;obtain⟨k,e,f⟩:∃k:Nat,(cU w a).1=(k:Int)/\k<w.2.2.1.length:=⟨(cU w a).1.toNat,(Pl l.1).symm,by omega⟩;unfold aiU;rw[arz e f,e];exact d.up (k:=k) f (aEd (d.r _ f) true (aJq (W.n _ b)))
 .exact⟨hs,d⟩
def ado {q:bZ}(h:Ju w.2.1 w.2.2.2.2 q=true):JR (Sd w) (-1) [] q:=fun e m b=>.inl (by
 have:=ea.1 h m b;unfold RA at this;rcases(kB _ _).mp this with h1|h1
 .exact .inl (lE h1)
 .obtain⟨x,d,a⟩:=auX.1 h1;unfold isSaid at a;simp only[aF]at a;exact .inr ⟨x,d,Y8 a.2.1,eq_of_beq a.2.2⟩)
def aJs {m:b4}(h:GR w.1 w.2.1 w.2.2.2.2 m=true):c8 w.1 m=true/\adm (Sd w) (-1) [] m:=by
 unfold GR at h;simp only[aF]at h;refine⟨h.1,?_⟩;have a:=h.2;unfold adm Mb;split
 .rename_i b;rw[ag b]at a;exact ado ((aF _ _).mp a).2
 .rename_i b;rw[af b]at a;split
  .rename_i d;rw[ag d]at a;exact ado a
  .rename_i d;rw[af d]at a;split
   .rename_i e;rw[ag e]at a;exact ado ((aF _ _).mp a).2
   .exact arp
def aEh (W:WI w hs){d:dm}(f:HV d=true->0<=d.2.1/\d.2.1<w.2.2.2.1.length):∃g,WI (ara w d).1 g:=by
 unfold ara;split
 .rename_i j;obtain⟨a,b⟩:=f (fJ.2 (.inl j));exact aHR W a b
 .split
  .exact⟨hs,W.net fun x e=>W.n x (adk e)⟩
  .split
   .rename_i k;obtain⟨a,b⟩:=f (fJ.2 (.inr (.inr k)));refine⟨hs,W.net fun x e=>?_⟩;rcases gF.1 e with h1|h1
    .exact W.n x h1
    .rw[fM.1 h1];refine W.n _ ?_;unfold cU;rw[aI (show d.2.1.toNat<w.2.2.2.1.length by omega)];exact bP _
   .split
    .rename_i l;obtain⟨m,n⟩:=aJs l;refine⟨hs,W.net fun x e=>?_⟩;rcases gF.1 e with h1|h1
     .exact W.n x h1
     .rw[fM.1 h1];show adm _ _ _ (gv w.1 (C3 d.2.2.2)).1;rw[aiG m];exact n
    .exact⟨hs,W⟩
end
def aAo {l:List cI}{x:cI}(h:x∈l)(y:cI):x∈C7 l y:=by
 unfold C7;split
 .exact List.mem_append_left _ h
 .exact h
def adp {U V:Type}{f:List U->V->List U}(a:∀l y x,x∈l->x∈f l y):∀(ys:List V) {l:List U} {x:U},x∈l->x∈ys.foldl f l
 |[],_,_,h=>h|y::ys,l,x,h=>adp a ys (a l y x h)
def axK (id:Int)(ps:List jw){l:List cI}{x:cI}(h:x∈l):x∈Y5 id ps l :=
 adp (fun l p x h=>adp (fun l y x h=>aAo h y) _ h) ps h
def akz {c:Int×Int}:∀{ps:List jw} {l:List gr} {x:gr},x∈aq4 c ps l->x∈l\/∃p∈ps,c8 c p.2=true/\x=(p.1,C3 p.2)
 |[],_,_,h=>.inl h|p::ps,l,x,h=>by
  rcases akz (ps:=ps) (l:=abz c l p) h with a|⟨q,d,e⟩
  .unfold abz at a;split at a
   .rename_i f;rcases gF.1 a with b|b
    .exact .inl b
    .exact .inr ⟨p,pT,f.2.1,fM.1 b⟩
   .exact .inl a
  .exact .inr ⟨q,jH p d,e⟩
def arA {id:Int}{q:bZ}{x:cI}:x∈UT id q↔x=(q.1,q.2.1,id)/\nmQ q≠[]/\id∈q.2.2:=by
 unfold UT;by_cases a:di q.2.1=true
 .rw[ag a];have:=(ru q.2.1).1 a;exact⟨fun h=>(by cases h),fun h=>absurd this h.2.1⟩
 .rw[af a];have d:nmQ q≠[]:=fun e=>a ((ru q.2.1).2 e)
  by_cases b:id∈q.2.2
  .rw[ag b,fM];exact⟨fun h=>⟨h,d,b⟩,fun h=>h.1⟩
  .rw[af b];exact⟨fun h=>(by cases h),fun h=>absurd h.2.2 b⟩
def auJ {c:Int×Int}{id:Int}{m:b4}(a:c8 c m=true){x:cI}:x∈cG id m↔x=((Mb m).1,(Mb m).2.1,id)/\nmQ (Mb m)≠[]/\id∈(Mb m).2.2:=by
 unfold cG Mb;rcases SN a with ⟨h,_⟩|h|⟨h,_⟩|h
 .rw[af (by omega),af (by omega),ag h,ag h];exact arA
 .rw[af (by omega),ag h,af (by omega),ag h];exact arA
 .rw[af (by omega),af (by omega),af (by omega),af (by omega),af (by omega),ag h];exact arA
 .rw[ag h,af (by omega),af (by omega),af (by omega)];exact⟨fun h=>(by cases h),fun h=>absurd rfl h.2.1⟩
section
variable {w:ah} {hs:Nat->Bw}
def aHS (G:aH w)(W:WI w hs){a:Int}{k:Nat}(l:k<w.2.2.1.length)(e:a=(k:Int))(F:a∈aE w):∃Y,WI (abA w a).1 Y:=by
 have I:=arz (w:=w) e l;have Z:a ∉ w.2.1:=ary _ _ a F;have o:oI w a (bb w a)=(w.1,w.2.1,w.2.2.1,w.2.2.2.1,Y5 a (bb w a) w.2.2.2.2):=ag F;have A:bb w a=(w.2.2.1[k]).2.2.2.2.2.2.2:=by unfold bb;rw[I]
 have B:=W.r k l;have K:=G.g _ (bP l);have hid:(w.2.2.1[k]).1=(k:Int):=G.id k l;unfold abA;split
 .rename_i L;split
  .rw[o]at L;have u:∀n m,Sd w n m->Sd (Bv (lI w a) (bb w a)) n m:=by
    intro n m h;unfold lI;rw[o];rcases h with h|⟨x,d,h⟩
    .exact .inl h
    .exact .inr ⟨x,axK a _ d,h⟩
   have C:(Bv (lI w a) (bb w a)).2.2.1=w.2.2.1.set k (Ry w.2.2.1[k]):=by unfold lI;rw[o,I,e];rfl
   have M:(Bv (lI w a) (bb w a)).2.2.2.2=Y5 a (bb w a) w.2.2.2.2:=by unfold lI;rw[o];rfl
   have qd:(Bv (lI w a) (bb w a)).2.2.2.1=aq4 w.1 (bb w a) w.2.2.2.1:=by unfold lI;rw[o];rfl
   have N:(Bv (lI w a) (bb w a)).1=w.1:=by unfold lI;rw[o];rfl
   have O:((Ry w.2.2.1[k]).2.2.2.2.2.2.1.2:Int)=(szG (hs k):Int):=by show(lj _).2=_;unfold lj szG;rw[ag K.f.d,<-B.d]
   have qe:∀p∈bb w a,nmQ (Mb p.2)≠[]->a∈(Mb p.2).2.2->Tag (hs k) (nmQ (Mb p.2)):=by
    intro p f q s;rw[A]at f;rcases B.m p f q a s with (h1|⟨x,d,P,Q⟩)|h1
    .exact absurd h1 Z
    .obtain⟨b,g,t,h1,v,t1,_⟩:=W.s x d;have:b=k:=by omega
     subst this;rw[<-P];exact t1.mono v
    .exact h1.2
   have D:∀(b:Nat) (g:b<(Bv (lI w a) (bb w a)).2.2.1.length),(b=k/\(Bv (lI w a) (bb w a)).2.2.1[b]=Ry w.2.2.1[k])\/(b≠k/\∃E:b<w.2.2.1.length,(Bv (lI w a) (bb w a)).2.2.1[b]=w.2.2.1[b]):=by
    intro b g;simp only[C]at g ⊢;rw[tw]at g;by_cases t:b=k
    .subst t;exact .inl ⟨rfl,by simp⟩
    .exact .inr ⟨t,g,auU (fun h=>t h.symm) _⟩
   refine⟨hs,⟨fun b g=>?_,fun x d=>?_,fun x d=>?_⟩⟩
   .rw[N];rcases D b g with ⟨rfl,j⟩|⟨_,E,j⟩
    .rw[j];refine((W.r b l).said u).same rfl rfl (ari _) ((W.r b l).said u).t fun p f=>absurd f abC
    .rw[j];exact(W.r b E).said u
   .rw[M]at d;have R:k<(Bv (lI w a) (bb w a)).2.2.1.length:=by rw[C,tw];exact l
    rcases Ym d with d|⟨p,f,d⟩
    .obtain⟨b,g,t,h1,v,t1,qf⟩:=W.s x d;have T:b<(Bv (lI w a) (bb w a)).2.2.1.length:=by rw[C,tw];exact g
     refine⟨b,T,t,h1,v,t1,?_⟩;rcases D b T with ⟨rfl,j⟩|⟨_,E,j⟩
     .rw[j,O];have:=aEg (c:=w.1) (S:=Sd w) (i:=0) v;omega
     .rw[j];exact qf
    .have y:c8 w.1 p.2=true:=by rw[A]at f;exact K.axz p f
     obtain⟨rfl,q,s⟩:=(auJ y).1 d;refine⟨k,R,e,hs k,Sub.refl _,qe p f q s,?_⟩;rcases D k R with ⟨_,j⟩|⟨qg,_⟩
     .rw[j,O];exact Mi _
     .exact absurd rfl qg
   .rw[N];rw[qd]at d;rcases akz d with d|⟨p,f,y,rfl⟩
    .exact JR.said u (W.n x d)
    .show adm _ _ _ (gv w.1 (C3 p.2)).1;rw[aiG y];intro q m s;have X:=f;rw[A]at X;rcases B.m p X q m s with h1|⟨h1,P⟩
     .exact .inl (u _ _ h1)
     .refine .inl (.inr ?_);rw[M];have qh:m=a:=by omega
      subst qh;have Q:((Mb p.2).1,(Mb p.2).2.1,m)∈cG m p.2:=(auJ y).2 ⟨rfl,q,s⟩;have qi:=ea.1 (ea.1 L p f) _ Q;obtain⟨x,d,z⟩:=auX.1 qi;unfold isSaid at z;simp only[aF]at z;exact⟨x,d,Y8 z.2.1,eq_of_beq z.2.2⟩
  .exact⟨hs,W⟩
 .exact⟨hs,W⟩
def aHT (h:aH w)(W:WI w hs)(d:dm):∃g,WI (abB w d) g:=by
 unfold abB;split
 .rename_i e;unfold doI at e ⊢;cases m:gE 1 10 d.1 with
  |false=>rw[m,af (by decide)]at e;exact absurd (show(1:Int)=0 from e) (by decide)
  |true =>
   rw[m,ag rfl]at e;rw[ag rfl];cases b:Pj w d with
   |false=>rw[b,af (by decide)]at e;exact absurd (show(2:Int)=0 from e) (by decide)
   |true =>
    rw[b,ag rfl]at e;rw[ag rfl];have p:∃g,WI (arc w d).1 g:=by
     unfold arc;by_cases n:d.1=2
     .have a:d.2.1∈aE w:=by rw[C8 (fun a=>by have:=fJ.1 a;omega) (by omega)]at b;exact lE b
      obtain⟨j,q⟩:=eQ a;rw[ag n];exact aHS h W (k:=d.2.1.toNat) (by omega) (Pl j).symm a
     .rw[af n];by_cases f:HV d=true
      .have s:gE 0 (aj ((w.2.2.2.1.length:Int)-1)) d.2.1=true:=by rw[JQ f]at b;exact b
       rw[ag (.inl f)];exact aEh W fun _=>RC h s
      .by_cases l:d.1=10
       .rw[ag (.inr l)];exact aEh W fun a=>absurd a f
       .have a:d.2.1∈aE w:=by rw[C8 f l]at b;exact lE b
        obtain⟨j,q⟩:=eQ a;rw[af (fun a=>a.elim f l)];exact aJr h W (k:=d.2.1.toNat) (by omega) true (Pl j).symm
    unfold aCq;by_cases o:(arc w d).2=0
    .rw[ag o];split
     .exact p
     .exact⟨hs,W⟩
    .rw[af o];exact⟨hs,W⟩
 .exact⟨hs,W⟩
end
def auK:∀(list:List dm) {w:ah} {hs:Nat->Bw},aH w->WI w hs->∃a,WI (aiW w list) a
 |[],_,hs,_,W=>⟨hs,W⟩|d::list,w,hs,G,W=>by obtain⟨a,b⟩:=aHT G W d;exact auK list (axB G d) b
def aJt (c:Int×Int)(liars:List Int):WI (SW c liars) fun _=>[]:=by
 refine⟨fun k d=>?_,fun x a=>(by cases a),fun x a=>(by cases a)⟩;have:(SW c liars).2.2.1[k]=GS (k:Int):=by simp[SW]
 rw[this];exact⟨trivial,rfl,rfl,fun p b=>(by cases b),fun p b=>(by cases b)⟩
def OK (w:ah)(hs:Nat->Bw)(i:Int):Bw:=if 0<=i/\i<w.2.2.1.length then hs i.toNat else []
def WI.aHU {w:ah}{hs:Nat->Bw}(G:aH w)(W:WI w hs):aHG w.1 w.2.1 (Sd w) (OK w hs):=by
 refine⟨G.c,G.lf,fun n m h=>?_,fun i=>?_⟩
 .rcases h with h|⟨x,b,d,e⟩
  .exact .inl h
  .obtain⟨k,a,f,l,g,t3,_⟩:=W.s x b;refine .inr ?_;subst d;rw[<-e,f];unfold OK;rw[ag ⟨by omega,by omega⟩];exact t3.mono g
 .unfold OK;split
  .rename_i j;have a:i.toNat<w.2.2.1.length:=by omega
   have:=(W.r i.toNat a).g;rw[G.id i.toNat a,Pl j.1]at this;exact this
  .exact trivial
def WI.at {w:ah}{hs:Nat->Bw}(G:aH w)(W:WI w hs){k:Nat}(a:k<w.2.2.1.length):OK w hs (k:Int)=hs k:=by unfold OK;rw[ag ⟨by omega,by omega⟩];rfl
def WI.meet {w:ah}{hs:Nat->Bw}(G:aH w)(W:WI w hs){j k:Nat}(d:j<w.2.2.1.length)(e:k<w.2.2.1.length) :
  Anc (w.2.2.1[j]).2.2.2.1.2.2.2.data.toList (w.2.2.1[k]).2.2.2.1.2.2.2.data.toList\/Anc (w.2.2.1[k]).2.2.2.1.2.2.2.data.toList (w.2.2.1[j]).2.2.2.1.2.2.2.data.toList:=by
 have H:=W.aHU G;have f:=W.r j d;have g:=W.r k e;have y:=(cL (f.s▸(G.g _ (bP d)).f.s)).2.2.2;have z:=(cL (g.s▸(G.g _ (bP e)).f.s)).2.2.2;have root:∀n:Nm,bg n=true->Anc [] n:=fun n m=>by
  generalize A:n.length=l
  induction l using Nat.strongRecOn generalizing n with
  |_ l B =>
   by_cases s:n=[]
   .exact .inl s
   .exact(B _ (by rw[<-A];exact aG2 m s) (fL n) (C2 m) rfl).trans (Yp m)
 rw[f.s,g.s];rcases axJ f.g with C|⟨a,t,o,D⟩
 .rw[C];exact .inl (root _ z)
 .rcases axJ g.g with E|⟨b,u,p,F⟩
  .rw[E];exact .inr (root _ y)
  .rw[D,F];have I:=G.id j d;have K:=G.id k e;rw[I]at o;rw[K]at p;have v:Sub (hs j) (OK w hs (j:Int)):=by rw[W.at G d];exact Sub.refl _
   have x:Sub (hs k) (OK w hs (k:Int)):=by rw[W.at G e];exact Sub.refl _
   rcases Int.le_total (aC (fL (fL a))) (aC (fL (fL b))) with q|q
   .exact .inl (auH H v x o p t u q)
   .exact .inr (auH H x v p o u t q)
def ai1 {l:gX}:BX l=true↔l.1.length=4/\l.2.length=4/\(∀x∈l.1,0<=x/\x<=400)/\∀x∈l.2,0<=x/\x<=100:=by
 constructor
 .exact acN
 .rintro⟨a,b,d,e⟩;simp only[BX,inB,aF,bW,ea];exact⟨a,b,d,e⟩
def axL:∀(l:List Int) (i:Nat) (h:i<l.length) (v:Int),(l.set i v).sum=l.sum-l[i]+v
 |x::l,0,_,v=>by simp only[List.set_cons_zero,Vp,aAy];omega
 |x::l,i+1,h,v=>by have:=axL l i (by simpa using h) v;simp only[List.set_cons_succ,Vp,List.getElem_cons_succ];omega
def abZ {l:List Int}{i:Int}(a:0<=i)(h:i.toNat<l.length):aK l i 0=l[i.toNat]:=aI h 0
structure aKx (l:gX) (x:dG):Prop where
 lo:BX l=true
 xo:gm x=true
 n:x.2.2.2=aK l.2 x.1 0
 r:(ef l x).1.2=l.2.set x.1.toNat (x.2.2.2+1)
 k:BX (ef l x).1=true
 s:(ef l x).1.1.sum=l.1.sum
def Y9 {l:gX}{x:dG}(h:Rt (ef l x).2=true):aKx l x:=by
 by_cases k:BX l=true/\gm x=true
 .obtain⟨a,b⟩:=k;obtain⟨⟨f0,f1⟩,⟨t0,t1⟩,⟨m0,m1⟩,⟨u,v⟩⟩:=mR b;obtain⟨p,q,s,t⟩:=ai1.1 a;have m:x.1.toNat<l.1.length:=by omega
  have y:x.1.toNat<l.2.length:=by omega
  by_cases d:x.2.2.2<aK l.2 x.1 0
  .have e:ef l x=(l,2):=by unfold ef;rw[ag ⟨a,b⟩,ag d]
   rw[e]at h;cases h
  .by_cases f:x.2.2.2>aK l.2 x.1 0
   .have e:ef l x=(l,3):=by unfold ef;rw[ag ⟨a,b⟩,af d,ag f]
    rw[e]at h;cases h
   .have n:x.2.2.2=aK l.2 x.1 0:=by omega
    by_cases g:x.2.2.1>aK l.1 x.1 0
    .have e:ef l x=((l.1,l.2.set x.1.toNat (x.2.2.2+1)),4):=by unfold ef;rw[ag ⟨a,b⟩,af d,af f,ag g]
     refine⟨a,b,n,by rw[e],?_,by rw[e]⟩;rw[e];refine ai1.2 ⟨p,by dsimp only;rw[tw];exact q,s,?_⟩;exact awK (lo:=0) (hi:=100) t (by omega)
    .by_cases j:BX ((l.1.set x.1.toNat (aK l.1 x.1 0-x.2.2.1)).set x.2.1.toNat (aK (l.1.set x.1.toNat (aK l.1 x.1 0-x.2.2.1)) x.2.1 0+x.2.2.1),l.2.set x.1.toNat (x.2.2.2+1))=true
     .have e:ef l x=(((l.1.set x.1.toNat (aK l.1 x.1 0-x.2.2.1)).set x.2.1.toNat (aK (l.1.set x.1.toNat (aK l.1 x.1 0-x.2.2.1)) x.2.1 0+x.2.2.1),l.2.set x.1.toNat (x.2.2.2+1)),0):=by unfold ef;rw[ag ⟨a,b⟩,af d,af f,af g,ag j]
      have o:x.2.1.toNat<(l.1.set x.1.toNat (aK l.1 x.1 0-x.2.2.1)).length:=by rw[tw];omega
      refine⟨a,b,n,by rw[e],by rw[e];exact j,?_⟩;rw[e];dsimp only;rw[axL _ _ o,abZ t0 o,axL _ _ m];have z:=abZ f0 m;omega
     .have e:ef l x=(l,1):=by unfold ef;rw[ag ⟨a,b⟩,af d,af f,af g,af j]
      rw[e]at h;cases h
 .have e:ef l x=(l,1):=by unfold ef;rw[af k]
  rw[e]at h;cases h
def arB (l:gX):Prop:=BX l=true/\l.1.sum=400
def aJu {l:gX}(h:arB l)(x:dG):arB (ef l x).1:=by
 cases a:Rt (ef l x).2 with
 |false=>rw[aiL a];exact h
 |true =>
  have b:=Y9 a;exact⟨b.k,by rw[b.s];exact h.2⟩
def aEi:∀(xs:List dG) {l:gX},arB l->arB (eV l xs)
 |[],_,h=>h|x::xs,l,h=>aEi xs (aJu h x)
def aLZ:arB Sv:=⟨by decide,by decide⟩
def akA:∀{l:List Int} {n:Int},(∀x∈l,0<=x/\x<=400)->0<=n->n+400*l.length<=1000000->UR l n=n+l.sum
 |[],n,_,_,_=>by simp[UR]
 |x::l,n,h,d,a=>by have e:=h x pT;rw[aW]at a;rw[UR,aG (by omega) (by omega),akA (fun y b=>h y (jH _ b)) (by omega) (by omega),Vp];omega
def aJv {l:gX}(h:arB l):UR l.1 0=400:=by obtain⟨b,d,a,e⟩:=ai1.1 h.1;rw[akA a (Mi _) (by omega),h.2];rfl
def aFE {l:gX}{x:dG}(i:Int)(hi:0<=i)(g:l.2.length=4)(j:i<=3):aK l.2 i 0<=aK (ef l x).1.2 i 0:=by
 cases d:Rt (ef l x).2 with
 |false=>rw[aiL d];exact Mi _
 |true =>
  have a:=Y9 d;obtain⟨⟨f0,f1⟩,_⟩:=mR a.xo;rw[a.r];by_cases e:x.1=i
  .subst e;have b:x.1.toNat<(l.2.set x.1.toNat (x.2.2.2+1)).length:=by rw[tw];omega
   rw[abZ hi b,List.getElem_set_self,a.n];omega
  .have b:i.toNat<(l.2.set x.1.toNat (x.2.2.2+1)).length:=by rw[tw];omega
   have f:i.toNat<l.2.length:=by omega
   rw[abZ hi b,abZ hi f,auU (by omega)];exact Mi _
def aAp:∀(xs:List dG) {l:gX} (i:Int),0<=i->i<=3->Ve l->aK l.2 i 0<=aK (eV l xs).2 i 0
 |[],_,_,_,_,_=>Mi _|x::xs,l,i,a,b,d=>Int.le_trans (aFE i a d.2 b) (aAp xs i a b (aGJ d x))
def arC {xs:List dG}{l:gX}{j:Nat}(h:j<xs.length):(gY l xs).getD j 0=(ef (eV l (xs.take j)) xs[j]).2:=by rw[EW,afB xs l j h];rfl
def arD:∀(a b:List dG) (l:gX),eV l (a++b)=eV (eV l a) b
 |[],_,_=>rfl|x::a,b,l=>arD a b _
def aFF (xs:List dG){i k:Nat}(q:k<i)(hi:i<xs.length):okP xs (gY Sv xs) i k=true:=by
 have a:k<xs.length:=by omega
 unfold okP;rw[arC hi,arC a,aI hi,aI a];cases f:Rt (ef (eV Sv (xs.take i)) xs[i]).2 with
 |false=>rfl
 |true =>
  cases g:Rt (ef (eV Sv (xs.take k)) xs[k]).2 with
  |false=>rfl
  |true =>
   have j:=Y9 f;have d:=Y9 g;by_cases e:xs[i].1=xs[k].1
   .by_cases m:xs[i].2.2.2=xs[k].2.2.2
    .exfalso;obtain⟨⟨f0,f1⟩,_⟩:=mR d.xo;have hs:xs.take i=xs.take (k+1)++(xs.take i).drop (k+1):=by have:=ZK (k+1) (xs.take i);rw[List.take_take,ads (by omega)]at this;exact this.symm
     have n:Ve (eV Sv (xs.take (k+1))):=Jk L5;have b:=aAp ((xs.take i).drop (k+1)) (l:=eV Sv (xs.take (k+1))) xs[k].1 f0 f1 n;rw[<-arD,<-hs]at b;have o:xs.take (k+1)=xs.take k++[xs[k]]:=ee a;rw[o,On,d.r]at b;have p:Ve (eV Sv (xs.take k)):=Jk L5;have hlen:(xs[k].1).toNat<((eV Sv (xs.take k)).2.set xs[k].1.toNat (xs[k].2.2.2+1)).length:=by rw[tw];have:=p.2;omega
     rw[abZ f0 hlen,List.getElem_set_self]at b;have:=j.n;rw[e]at this;omega
    .simp[m]
   .simp[e]
def aCF (b:ByteArray):azl b=true:=by unfold azl;rw[ea];intro i a;rw[ea];intro k d;exact aFF (Vf b) (eS.1 d) (eS.1 a)
def aFG {c:Int×Int}{r:aw}(h:aY c r):arB (iS c r):=by unfold iS;rw[ag h.ok];exact aEi _ aLZ
def aH.rp {w:ah}(h:aH w){i:Nat}(hi:i<(aE w).length):aY w.1 (rp w i):=by obtain⟨b,e,a⟩:=oY hi;rw[aue hi e a];exact h.g _ (bP a)
def aH.aL0 {w:ah}(h:aH w):acY w=true:=by unfold acY;rw[h.ok,en,ea];intro i a;have a:=eS.1 a;unfold aw3;rw[aJv (aFG (h.rp a)),aCF];rfl
def aJw {w:ah}(h:aH w):acY w=true:=h.aL0
section
variable {w:ah} {hs:Nat->Bw}
def amY (G:aH w){k:Nat}(a:k<w.2.2.1.length):bg (w.2.2.1[k]).2.2.2.1.2.2.2.data.toList=true:=(cL (G.g _ (bP a)).f.s).2.2.2
def aKy (G:aH w)(W:WI w hs):aua w=true:=by
 unfold aua;rw[G.ok,en,ea];intro i d;rw[ea];intro k e;have d:=eS.1 d;have e:=eS.1 e;obtain⟨a,j,f⟩:=oY d;obtain⟨b,l,g⟩:=oY e;rw[aDV d j f,aDV e l g];unfold akf;rcases W.meet G f g with h|h
 .rw[aEa (amY G g) (amY G f) h,Bool.or_true]
 .rw[aEa (amY G f) (amY G g) h,agx]
def arE (W:WI w hs){x:cI}(a:x∈w.2.2.2.2){k:Nat}(f:k<w.2.2.1.length)(e:x.2.2=(k:Int)):Tag (hs k) x.2.1.data.toList:=by
 obtain⟨b,g,j,l,d,t1,_⟩:=W.s x a;have:b=k:=by omega
 subst this;exact t1.mono d
def aHV (G:aH w)(W:WI w hs):YV w=true:=by
 unfold YV;rw[G.ok,en,ea];intro i a;rw[ea];intro k b;have a:=eS.1 a;have b:=eS.1 b;unfold okV;rw[aI a,aI b];have d:=bP a;have e:=bP b;generalize w.2.2.2.2[i]=x at d;generalize w.2.2.2.2[k]=y at e;obtain⟨g,f,j,_⟩:=W.s x d;unfold aKb;by_cases l:x.2.2=y.2.2
 .by_cases m:x.1=y.1
  .have n:=arE W d f j;have o:=arE W e f (by omega);have s:=(G.sb x d).2.2;have t:=(G.sb y e).2.2;have p:=aro (W.r g f).g n o (by omega);have q:x.2.1=y.2.1:=by rw[J8 x.2.1,J8 y.2.1,p]
   rw[q];simp
  .simp[m]
 .simp[l]
def auL:∀{c:Int×Int} {l:List gr} {xs:List bZ} {q:bZ},q∈ER c l xs->q∈xs\/∃x∈l,q∈SF c x
 |_,[],_,_,h=>.inl h|c,x::l,xs,q,h=>by
  rcases auL (c:=c) (l:=l) h with a|⟨y,d,a⟩
  .rcases gF.1 a with b|b
   .exact .inl b
   .exact .inr ⟨x,pT,b⟩
  .exact .inr ⟨y,jH x d,a⟩
def auM (G:aH w)(W:WI w hs){q:bZ}(l:q∈L3 w):eT w.1 q=true/\∃i h,Sub h (OK w hs i)/\JR (Sd w) i h q:=by
 rcases auL l with b|⟨x,j,b⟩
 .obtain⟨a,m,rfl⟩:=EY.1 b;have p:=eQ m;have d:a.toNat<w.2.2.1.length:=by omega
  have e:X2 w a=(w.2.2.1[a.toNat]).2.2.2.1.2.2.1:=by unfold X2;rw[aI d]
  rw[e];have n:=G.g _ (bP d);refine⟨(cL n.f.s).2.2.1,((a.toNat:Nat):Int),hs a.toNat,by rw[W.at G d];exact Sub.refl _,?_⟩;have:=aHO (W.r a.toNat d);rw[G.id a.toNat d]at this;exact this
 .have f:=W.n x j;have o:=(arb (G.nb x j).2.1).2;unfold SF at b;unfold adm Mb at f;rcases SN o with ⟨k,g⟩|k|⟨k,g⟩|k
  .rw[k]at b;rw[ag k]at f;have:=fM.1 b;rw[this];exact⟨g,-1,[],⟨_,(fi _).symm⟩,f⟩
  .rw[k]at b;cases b
  .rw[k]at b;rw[af (by omega),af (by omega),ag k]at f;have:=fM.1 b;rw[this];exact⟨g,-1,[],⟨_,(fi _).symm⟩,f⟩
  .rw[k]at b;cases b
def aHW (G:aH w)(W:WI w hs):YW w=true:=by
 unfold YW;rw[G.ok,en,ea];intro i e;rw[ea];intro k f;have e:=eS.1 e;have f:=eS.1 f;unfold UW;rw[aI e,aI f];have o:=bP e;have p:=bP f;generalize (L3 w)[i]=a at o;generalize (L3 w)[k]=b at p;obtain⟨j,C,D,q,s⟩:=auM G W o;obtain⟨l,E,F,t,u⟩:=auM G W p;obtain⟨_,_,I,K,_⟩:=j4 j;obtain⟨_,_,L,M,_⟩:=j4 l;unfold aKc;by_cases v:a.1=b.1
 .have x:nmQ a=nmQ b:=by
   have m:aC (nmQ a)=aC (nmQ b):=by show aC a.2.1.data.toList=aC b.2.1.data.toList;omega
   have pos:∀{n:Nm},bg n=true->n≠[]->0<aC n:=fun {n} y z=>by have:=amS y z;have:=mS (fL n);omega
   by_cases g:nmQ a=[]
   .by_cases d:nmQ b=[]
    .rw[g,d]
    .exfalso;have:=pos (j4 l).2.1 d;rw[g,Sz]at m;have A:aC (nmQ b)=aC b.2.1.data.toList:=rfl;omega
   .by_cases d:nmQ b=[]
    .exfalso;have:=pos (j4 j).2.1 g;rw[d,Sz]at m;have A:aC (nmQ a)=aC a.2.1.data.toList:=rfl;omega
    .exact agn (W.aHU G) q t ⟨a,j,rfl,s⟩ ⟨b,l,rfl,u⟩ g d m
  have B:a.2.1=b.2.1:=by rw[J8 a.2.1,J8 b.2.1];exact n7 tx x
  rw[B];simp
 .simp[v]
def aJx (G:aH w)(W:WI w hs)(K:n5 w):aqq w=true:=by
 unfold aqq;rw[G.ok,en,ea];intro i a;have a:=eS.1 a;obtain⟨f,e,b⟩:=oY a;have j:=bP b;unfold aw2;rw[aue a e b,(K _ j).ok (G.g _ j).ok,en,ea];intro k d;have d:=eS.1 d;unfold aqp;rw[aue a e b,aI d,aI a,e];have g:=bP d;generalize w.2.2.2.2[k]=x at g;by_cases l:x.2.2=(f:Int)
 .have m:=arE W g b l;have n:=arn (W.r f b).g m;have o:=(G.sb x g).2.2;rw[<-(W.r f b).s]at n;rw[aQ (by omega),adu];rfl
 .rw[bU.2 l];rfl
def aKz (G:aH w)(W:WI w hs)(K:n5 w):aDX w=true:=by unfold aDX;rw[aKy G W,aHV G W,aHW G W,aJw G,aJx G W K];rfl
def aJy (G:aH w):awZ w=true:=by unfold awZ awY;have f:=G.nl;have g:=G.sl;rw[G.ok,en,aL (show(w.2.2.2.1.length:Int)<=60 by omega),aL (show(w.2.2.2.2.length:Int)<=300 by omega),agw,agw,ea];intro k a;have a:=eS.1 a;rw[aI a];have b:=(G.g _ (bP a)).f;have d:=b.p;have e:=b.t;have j:=b.n;unfold eW at d;unfold eB at e;have d:=lE ((aF _ _).mp d).2;have e:=lE ((aF _ _).mp e).2;unfold aql;rw[aQ (by omega)];rfl
end
end Go.Am.Tryz
