/- No condition. -/
import Derived.Test.YtaheoongenkdbaaGreatDoorQeAmDraw
import Derived.Test.YtaheoongenkdbaaGreatDoorQeAmKeep
import Derived.OrdersHeld
set_option linter.all false
namespace Go.Am
open Go.RowKit
section
variable {N:Nat} {P:Program} {C:FuncId->Option Any} {w0:eH} {w:World} {G:Gh} {st:St} {a:Act} {U:Type} {r:U} {o:Oper}
def Sup (ops:Array Oper)(l b:Array Bool):Prop :=
 l.size=b.size/\(∀i,l.getD i false=true->b.getD i false=true) /\
  ∀i o,ops[i]?=some o->l.getD i false=false->b.getD i false=true->∀e∈o.after,Region.binds .any e=true->b.getD e.on false=true
def Sup.refl (ops:Array Oper)(l:Array Bool):Sup ops l l:=⟨rfl,fun _ h=>h,fun _ _ _ h b=>by rw[h]at b;cases b⟩
def Sup.trans {ops:Array Oper}{a b c:Array Bool}(h:Sup ops a b)(k:Sup ops b c):Sup ops a c :=
 ⟨h.1.trans k.1,fun i l=>k.2.1 i (h.2.1 i l),fun i o d m n e f g=>by
  cases j:b.getD i false with
  |true=>exact k.2.1 _ (h.2.2 i o d m j e f g)|false=>exact k.2.2 i o d j n e f g⟩
def Sup.set {ops:Array Oper}{l:Array Bool}{i:Nat}(f:i∈Region.ready .any ops l):Sup ops l (l.setIfInBounds i true):=by
 refine⟨by simp,fun _ h=>getD_set_true h,fun g o j k b e m n=>?_⟩;by_cases c:i=g
 .subst c;obtain⟨_,q,d,p⟩:=mem_ready.1 f;rw[j]at d;cases d;exact getD_set_true (p e m n)
 .rw[getD_set_ne false c,k]at b;cases b
def tN {l:Array Bool}{i:Nat}(h:i<l.size):l.getD i true=l.getD i false:=by simp[Od,h]
def Fv (P:Program)(ops:Array Oper)(Q:Exit->Act->World->Prop)(S:Array Bool->World->Prop):Nat->Array Bool->Act->World->Prop
 |0,l,a,w=>Region.ready .any ops l=[]/\Q .normal a w
 |n+1,l,a,w =>
  (Region.ready .any ops l=[]->Q .normal a w) /\
  ∀i∈Region.ready .any ops l,wpOp P ops Q i (fun c b=>S (l.setIfInBounds i true) b/\Fv P ops Q S n (l.setIfInBounds i true) c b) a w
def alX {ops:Array Oper}{Q:Exit->Act->World->Prop}{S:Array Bool->World->Prop}:∀(n:Nat) (l:Array Bool) (a:Act) (w:World),Fv P ops Q S n l a w->wpAny P .any ops Q n l a w
 |0,_,_,_,h=>h|n+1,_,_,_,h=>⟨h.1,fun i b=>wpOp_mono (fun c d e=>alX n _ c d e.2) (h.2 i b)⟩
def wu {ops:Array Oper}{Q:Exit->Act->World->Prop}{S e:Array Bool->World->Prop}:∀(n:Nat) {l:Array Bool} {a:Act} {w:World},(∀b c,Sup ops l b->e b c->S b c)->Fv P ops Q e n l a w->Fv P ops Q S n l a w
 |0,_,_,_,_,h=>h|n+1,l,_,_,f,h=>⟨h.1,fun i d=>wpOp_mono (fun k c g=>⟨f _ _ (Sup.set d) g.1,wu n (fun b c j=>f b c ((Sup.set d).trans j)) g.2⟩) (h.2 i d)⟩
def awd {ops:Array Oper}{Q:Exit->Act->World->Prop}{S:Array Bool->World->Prop}{l:Array Bool}{a:Act}{w:World}(b:Region.ready .any ops l=[])(h:Q .normal a w):∀n,Fv P ops Q S n l a w
 |0=>⟨b,h⟩|_+1=>⟨fun _=>h,by rw[b];simp⟩
def atA {ops:Array Oper}{Q:Exit->Act->World->Prop}{S:Array Bool->World->Prop}{I:World->Prop}{i:Nat}{g:Oper}{v:Value}(z:ops[i]?=some g)
  (K:∀(j:Nat) (o:Oper) cs b,ops[j]?=some o->o.op≠.select cs b) (Z:∀c a w,Q (.panic c) (a.put g.dst v) w->Q (.panic c) a w) (A:∀l w,S (l.setIfInBounds i true) w↔S l w) :
  ∀(u:Nat) (l:Array Bool) (a:Act) (w:World),
   (∀j m,ops[j]?=some m->j≠i->l.getD j true=false->(∀e∈m.after,Region.binds .any e=true->e.on≠i)->g.apart ops m=true) ->
   i∈Region.ready .any ops l->YieldsIf P ops I g v a->(∀p q,Sup ops l p->p.getD i true=false->S p q->I q)->S l w ->
   Fv P ops Q S u (l.setIfInBounds i true) (a.put g.dst v) w->Fv P ops Q S (u+1) l a w:=by
 intro u
 induction u with
 |zero =>
  intro l a w _ d x y s H;refine⟨fun h=>(by rw[h]at d;cases d),fun j t=>?_⟩;by_cases f:j=i
  .subst f;exact x.wpOp z (y l w (Sup.refl ops l) (mem_ready.1 d).1 s) ⟨(A l w).2 s,H⟩
  .have:=ready_mono t f;rw[H.1]at this;cases this
 |succ u qa =>
  intro l a w L d x y s H;refine⟨fun h=>(by rw[h]at d;cases d),fun j t=>?_⟩;by_cases f:j=i
  .subst f;exact x.wpOp z (y l w (Sup.refl ops l) (mem_ready.1 d).1 s) ⟨(A l w).2 s,H⟩
  .have n:=H.2 j (ready_mono t f);obtain⟨O,m,B,qb⟩:=mem_ready.1 t;have qd:∀e∈m.after,Region.binds .any e=true->e.on≠i:=fun e qe qf qg=>by
    have n:=qb e qe qf;have T:=(mem_ready.1 d).1;rw[qg]at n;rcases Lh i l.size with D|D
    .rw[tN D]at T;rw[T]at n;cases n
    .simp[ayA D]at n
   have qh:=wpOp_putIf B (L j m B f O qd) (fun cs b=>K i g cs b z) (fun cs b=>K j m cs b B) Z x n;have qi:∀k ok,ops[k]?=some ok->k≠i->(l.setIfInBounds j true).getD k true=false ->
     (∀e∈ok.after,Region.binds .any e=true->e.on≠i)->g.apart ops ok=true:=fun k ok qj qk W ql=>by
    refine L k ok qj qk ?_ ql;by_cases X:j=k
    .subst X;exact O
    .rw[getD_set_ne true X]at W;exact W
   refine wpOp_mono (fun qm q F=>?_) qh;have Y:S (l.setIfInBounds j true) q:=by have:=F.2.1;rw[Array.setIfInBounds_comm _ _ (Ne.symm f)]at this;exact(A _ _).1 this
   refine⟨Y,qa (l.setIfInBounds j true) qm q qi (ready_mono d (Ne.symm f)) F.1 (fun p qn qo=>y p qn ((Sup.set t).trans qo)) Y ?_⟩;rw[Array.setIfInBounds_comm _ _ f];exact F.2.2
def Off (C:FuncId->Option Any)(ops:Array Oper)(a:Act)(d:Array Bool)(k:Nat)(e:Oper):Prop :=
 ∃t g,T7 C e=some t/\(∀b c,ops[b]?=some c->d.getD b false=false->c.dst≠some t)/\a.tmps.getD t undef=.pointer (some ⟨g,0,none⟩)/\g≠k
def FrB (P:Program)(C:FuncId->Option Any)(ops:Array Oper)(d:Array Bool)(c:Oper):Prop :=
 ∃t x b,T7 C c=some t/\ops[x]?=some b/\bE P b=true/\QH b=true/\b.dst=some t/\d.getD x false=false/\∃e∈c.after,Region.binds .any e=true/\e.on=x
def SI (P:Program)(C:FuncId->Option Any)(ops:Array Oper)(G:Gh)(w:World)(a:Act)(d l:Array Bool)(w':World):Prop :=
 w.heap.size<=w'.heap.size/\(∀g,g<w.heap.size->G.own g=none->w'.heap[g]?=w.heap[g]?) /\
  ((∀c b,ops[c]?=some b->pA P C ops b=false->l.getD c true=d.getD c true)->Below w.heap.size w w') /\
  ∀k,k<w.heap.size->(∀c b,ops[c]?=some b->pA P C ops b=false->d.getD c false=false->l.getD c false=true->Off C ops a d k b\/FrB P C ops d b)->w'.heap[k]?=w.heap[k]?
def SI.refl {ops:Array Oper}(b l:Array Bool):SI P C ops G w a b l w:=⟨bf _,fun _ _ _=>rfl,fun _=>Below.refl _ w,fun _ _ _=>rfl⟩
def SI.set {ops:Array Oper}{n:Array Bool}{i:Nat}{p:Oper}(s:ops[i]?=some p)(t:pA P C ops p=true)(l:Array Bool)(w':World):SI P C ops G w a n (l.setIfInBounds i true) w'↔SI P C ops G w a n l w':=by
 have ne:∀c b,ops[c]?=some b->pA P C ops b=false->i≠c:=by intro c b d e;rintro rfl;rw[s]at d;cases d;rw[t]at e;cases e
 have key:∀c b,ops[c]?=some b->pA P C ops b=false->(l.setIfInBounds i true).getD c true=l.getD c true:=fun c b d e=>getD_set_ne true (ne c b d e)
 have q:∀c b,ops[c]?=some b->pA P C ops b=false->(l.setIfInBounds i true).getD c false=l.getD c false:=fun c b d e=>getD_set_ne false (ne c b d e)
 refine⟨fun h=>⟨h.1,h.2.1,fun f=>h.2.2.1 fun c b d e=>(key c b d e).trans (f c b d e),fun k g f=>h.2.2.2 k g fun c b d e j m=>f c b d e j (by rw[<-q c b d e];exact m)⟩,
  fun h=>⟨h.1,h.2.1,fun f=>h.2.2.1 fun c b d e=>((key c b d e).symm.trans (f c b d e)),fun k g f=>h.2.2.2 k g fun c b d e j m=>f c b d e j (by rw[q c b d e];exact m)⟩⟩
def SI.step {ops:Array Oper}{f d y:Array Bool}{w1 S:World}{T:Gh}{F:Act}(Y:f.size=ops.size)(h:SI P C ops G w a f d w1)(Z:∀g,g<w.heap.size->G.own g=none->T.own g=none)
  (qa:∀t,(∀i l,ops[i]?=some l->f.getD i false=false->l.dst≠some t)->F.tmps.getD t undef=a.tmps.getD t undef) (qb:∀x m t,ops[x]?=some m->bE P m=true->QH m=true->m.dst=some t->f.getD x false=false->d.getD x false=true->(∃g,w.heap.size<=g/\F.tmps.getD t undef=.pointer (some ⟨g,0,none⟩))/\∀i l,ops[i]?=some l->d.getD i false=false->l.dst≠some t)
  (H:Sup ops f d) (I:Sup ops d y) (z:SI P C ops T w1 F d y S):SI P C ops G w a f y S:=by
 refine⟨bZ h.1 z.1,fun g K W=>(z.2.1 g (En K h.1) (Z g K W)).trans (h.2.1 g K W),fun q=>?_,fun k s q=>?_⟩
 .have mid:∀c e,ops[c]?=some e->pA P C ops e=false->d.getD c true=f.getD c true:=by
   intro c e b j;have hlt:c<ops.size:=(wZ.1 b).1;have L:=q c e b j;have qd:d.size=ops.size:=H.1.symm.trans Y;have ql:y.size=ops.size:=I.1.symm.trans qd;rw[tN (by omega),tN (by omega)]at L ⊢;cases n:f.getD c false with
   |true=>exact H.2.1 c n
   |false =>
    cases qe:d.getD c false with
    |false=>rfl
    |true =>
     rw[I.2.1 c qe,n]at L;cases L
  have p:=h.2.2.1 mid;have u:=z.2.2.1 fun c e b j=>(q c e b j).trans (mid c e b j).symm
  exact⟨u.os.trans p.os,u.tape.trans p.tape,u.output.trans p.output,bZ p.size u.size,fun k s=>(u.block k (En s p.size)).trans (p.block k s)⟩
 .have aJa:∀c,d.getD c false=false->f.getD c false=false:=by
   intro c b;cases n:f.getD c false with
   |false=>rfl|true=>rw[H.2.1 c n]at b;cases b
  refine(z.2.2.2 k (En s h.1) fun c e b j O Q=>?_).trans (h.2.2.2 k s fun c e b j O Q=>q c e b j O (I.2.1 c Q));rcases q c e b j (aJa c O) Q with ⟨t,g,A,v,B,D⟩|⟨t,x,m,A,v,B,D,X,qf,qg⟩
  .exact .inl ⟨t,g,A,fun i l qh qi=>v i l qh (aJa i qi),(qa t v).trans B,D⟩
  .cases n:d.getD x false with
   |false=>exact .inr ⟨t,x,m,A,v,B,D,X,n,qg⟩
   |true =>
    obtain⟨⟨g,qm,qj⟩,qk⟩:=qb x m t v B D X qf n;exact .inl ⟨t,g,A,qk,qj,by omega⟩
def Inv.aCy (h:Inv w0 G st a w){d g:Nat}(z:look st.bx d=none)(qe:d<st.nt)(p:G.own g=some .hid)(K:w0.hd g=none){cs:Array Value}{e:TypeId}(L:w.heap[g]?=some (.cells cs e (0,0))){l:List AC}
  (O:cg (bz G w st.bx st.bl) l cs.toList) (Q:a.tmps.getD d undef=.pointer (some ⟨g,0,none⟩)) :
  Inv w0 (G.box d g) {(st.put d (.v (.c (.ptr d 0)))) with bx:=(d,l)::st.bx} a w:=by
 have q:alz G w (G.box d g) w:=⟨rfl,rfl,bf _,fun b D A=>⟨by
  have:b≠g:=by rintro rfl;rw[p]at A;cases A
  simp[Gh.box,this,A],rfl⟩⟩
 have S:∀x,(look st.bx x).isSome=true->x≠d:=by rintro x c rfl;rw[z]at c;cases c
 have c:j5 G st.bx st.bl (G.box d g) ((d,l)::st.bx) st.bl:=by refine⟨fun x c=>⟨wj _ trivial c,by simp[Gh.box,S x c]⟩,fun id z=>⟨z,rfl,fun T W=>⟨T,W,rfl⟩⟩⟩
 refine⟨h.nw,h.rok,h.below,h.defers,h.size,iy.k6 q c h.sp,fun f b o i=>?_,fun t v s=>?_,fun x m i=>?_,fun id b D=>?_,fun f k y=>?_⟩
 .obtain⟨u,j,n⟩:=h.hd f b o i;refine⟨?_,j,n⟩;have:f≠g:=by rintro rfl;rw[K]at i;cases i
  simp only[Gh.box,this,fW];exact u
 .simp only[St.put,aq]at s;by_cases F:d=t
  .subst F;rw[ag rfl]at s;cases s;rw[Q];exact⟨by simp[aq],by simp[Gh.box]⟩
  .rw[af F]at s;exact iy.k6 q c (h.tm t v s)
 .simp only[aq]at i;by_cases B:d=x
  .subst B;rw[ag rfl]at i;cases i;exact⟨cs,e,by simpa [Gh.box]using L,by simp[Gh.box],O.imp fun _ _=>bz.k6 q c⟩
  .rw[af B]at i;obtain⟨X,Y,u,j,n⟩:=h.bx x m i;have H:x≠d:=fun e=>B e.symm
   have Z:G.hb x≠g:=by intro qa;rw[qa,p]at j;cases j
   exact⟨X,Y,by simpa [Gh.box,H]using u,by simp[Gh.box,H,Z,j],n.imp fun _ _=>bz.k6 q c⟩
 .refine(h.bl id b D).k6 q rfl fun qf f qg bm=>⟨?_,rfl⟩
  have:f≠g:=by rintro rfl;rw[p]at bm;cases bm
  simp[Gh.box,this,bm]
 .by_cases I:f=g
  .subst I;simp only[Gh.box,fX]at y;cases y;exact⟨(h.own f _ p).1,(h.own f _ p).2.1,by simp[aq],by simp[Gh.box]⟩
  .simp only[Gh.box,I,fW]at y;obtain⟨u,j,n⟩:=h.own f k y;refine⟨u,j,?_⟩;cases k with
   |hid=>trivial
   |bx x =>
    obtain⟨qb,qd⟩:=c.bx x n.1;exact⟨qb,by rw[qd];exact n.2⟩
   |bl id=>exact n
def Gh.rowAt (G:Gh)(id g:Nat)(v:Value):Gh :=
 {nw:=G.nw,ok:=G.ok,hb:=G.hb,hv:=fun x=>if x=id then v else G.hv x,own:=fun x=>if x=g then some (.bl id) else G.own x}
def Inv.aCz (h:Inv w0 G st a w){d g:Nat}(W:look st.bl (d*64)=none)(qm:d<st.nt)(q:G.own g=some .hid)(X:w0.hd g=none){e:TypeId}{cs:List Value}(Y:w.heap[g]?=some (.cells cs.toArray e (0,0))){u:Ty}(Z:0<u.n){n:Nat}{xs:List u.D}{f:Bool}
  (I:xs.length=n) (D:cs.length=xs.length*u.n) (qa:n<=maxLen) (qb:eT w (RO G f) u cs xs)
  (qd:a.tmps.getD d undef=.slice (some ⟨g,0,none⟩) n n) :
  Inv w0 (G.rowAt (d*64) g (.slice (some ⟨g,0,none⟩) n n)) {(st.put d (.v (.c (.own (d*64) none)))) with bl:=(d*64,some ⟨e,u,xs,f,true⟩)::st.bl} a w:=by
 have s:alz G w (G.rowAt (d*64) g (.slice (some ⟨g,0,none⟩) n n)) w:=⟨rfl,rfl,bf _,fun b p F=>⟨by
  have:b≠g:=by rintro rfl;rw[q]at F;cases F
  simp[Gh.rowAt,this,F],rfl⟩⟩
 have K:∀x,(look st.bl x).isSome=true->x≠d*64:=by rintro x c rfl;rw[W]at c;cases c
 have c:j5 G st.bx st.bl (G.rowAt (d*64) g (.slice (some ⟨g,0,none⟩) n n)) st.bx ((d*64,some ⟨e,u,xs,f,true⟩)::st.bl):=by refine⟨fun x c=>⟨c,rfl⟩,fun id c=>⟨wj _ trivial c,by simp[Gh.rowAt,K id c],fun qe L=>?_⟩⟩;rw[aq,af (fun e=>K id c e.symm)]at L;exact⟨qe,L,rfl⟩
 refine⟨h.nw,h.rok,h.below,h.defers,h.size,iy.k6 s c h.sp,fun i b o y=>?_,fun t v z=>?_,fun x m y=>?_,fun id b p=>?_,fun i k B=>?_⟩
 .obtain⟨A,j,l⟩:=h.hd i b o y;refine⟨?_,j,l⟩;have:i≠g:=by rintro rfl;rw[X]at y;cases y
  simp only[Gh.rowAt,this,fW];exact A
 .simp only[St.put,aq]at z;by_cases O:d=t
  .subst O;rw[ag rfl]at z;cases z;rw[qd];exact⟨by simp[aq],⟨some ⟨g,0,none⟩,n,n,by simp[Gh.rowAt]⟩,by simp[Gh.rowAt]⟩
  .rw[af O]at z;exact iy.k6 s c (h.tm t v z)
 .obtain⟨qf,qg,A,j,l⟩:=h.bx x m y;have qh:G.hb x≠g:=by intro qi;rw[qi,q]at j;cases j
  exact⟨qf,qg,A,by simp[Gh.rowAt,qh,j],l.imp fun _ _=>bz.k6 s c⟩
 .simp only[aq]at p;by_cases H:d*64=id
  .subst H;rw[ag rfl]at p;cases p;refine⟨fun _=>⟨cs,⟨D,.inr ⟨g,n,cs.toArray,by simp[Gh.rowAt,I],aO _,Y,by show xs.length<=n;omega,qa,by simp[D,I],?_⟩⟩,fun i Q=>?_,qb.k6 s⟩,(fun S=>by cases S),Z⟩
   .show List.take (xs.length*u.n) cs.toArray.toList=cs;rw[<-D];simp
   .simp only[Gh.rowAt,fX,Value.ownBlock]at Q ⊢;cases Q;simp
  .rw[af H]at p;have qj:id≠d*64:=fun e=>H e.symm
   refine(h.bl id b p).k6 s (by simp[Gh.rowAt,qj]) fun S i qn bm=>⟨?_,rfl⟩
   have:i≠g:=by rintro rfl;rw[q]at bm;cases bm
   simp[Gh.rowAt,this,bm]
 .by_cases T:i=g
  .subst T;simp only[Gh.rowAt,fX]at B;cases B;exact⟨(h.own i _ q).1,(h.own i _ q).2.1,by simp[aq],by simp[Gh.rowAt,Value.ownBlock]⟩
  .simp only[Gh.rowAt,T,fW]at B;obtain⟨A,j,l⟩:=h.own i k B;refine⟨A,j,?_⟩;cases k with
   |hid=>trivial|bx x=>exact l
   |bl id =>
    obtain⟨qk,ql,_⟩:=c.bl id l.1;exact⟨qk,by rw[ql];exact l.2⟩
def mC {d t:Nat}(h:t≠d)(u:Value):(a.put (some d) u).tmps.getD t undef=a.tmps.getD t undef:=by simp[Act.put,Od,aAA,Ne.symm h]
def Inv.aJQ (h:Inv w0 G st a w){d:Nat}(c:look st.tm d=none)(u:Value):Inv w0 G st (a.put (some d) u) w:=by refine {h with defers:=h.defers,size:=by simp[Act.put,h.size],tm:=fun t v b=>?_};rw[mC (by rintro rfl;rw[c]at b;cases b)];exact h.tm t v b
def Inv.aJR (h:Inv w0 G st a w)(o:Obj) :
  Inv {w0 with hd:=fun g=>if g=w.heap.size then some (true,o) else w0.hd g} {G with own:=fun g=>if g=w.heap.size then some .hid else G.own g} st a (w.alloc o):=by
 have q:∀b,b<w.heap.size->b≠w.heap.size:=fun b f=>alp f
 have hold:∀b,b<w.heap.size->(w.alloc o).heap[b]?=w.heap[b]?:=fun b f=>by show(w.heap.push o)[b]?=_;rw[Array.getElem?_push,af (q b f)]
 have H:(w.alloc o).heap.size=w.heap.size+1:=by show(w.heap.push o).size=_;rw[Array.size_push]
 have s:alz G w {G with own:=fun g=>if g=w.heap.size then some .hid else G.own g} (w.alloc o):=⟨rfl,rfl,by omega,fun b f u=>⟨by simp[q b f,u],hold b f⟩⟩;have y:j5 G st.bx st.bl {G with own:=fun g=>if g=w.heap.size then some .hid else G.own g} st.bx st.bl:=⟨fun _ h=>⟨h,rfl⟩,fun _ h=>⟨h,rfl,fun z A=>⟨z,A,rfl⟩⟩⟩;refine⟨h.nw,h.rok,h.below.step rfl rfl rfl (by omega) fun k i _=>hold k (En i h.below.size),h.defers,h.size,iy.k6 s y h.sp,fun g b B m=>?_,fun t v D=>iy.k6 s y (h.tm t v D),fun d l F=>?_,fun id b f=>?_,fun g k i=>?_⟩
 .dsimp only at m;by_cases c:g=w.heap.size
  .rw[ag c]at m;cases m;subst c;exact⟨by simp[aAJ],by omega,by show(w.heap.push o)[w.heap.size]?=_;rw[Array.getElem?_push,ag rfl]⟩
  .rw[af c]at m;obtain⟨n,p,j⟩:=h.hd g b B m;exact⟨by simp[c,n],by omega,(hold g p).trans j⟩
 .obtain⟨cs,e,n,p,j⟩:=h.bx d l F;have hlt:=(h.own _ _ p).2.1;exact⟨cs,e,(hold _ hlt).trans n,by simp[q _ hlt,p],j.imp fun _ _=>bz.k6 s y⟩
 .exact Et.k6 s rfl (fun I g c u=>by have hlt:=(h.own _ _ u).2.1;exact⟨by simp[q _ hlt,u],hold _ hlt⟩) (h.bl id b f)
 .dsimp only at i;by_cases c:g=w.heap.size
  .rw[ag c]at i;cases i;exact⟨.inl (by rw[c];exact h.below.size),by omega,trivial⟩
  .rw[af c]at i;obtain⟨n,p,j⟩:=h.own g k i;refine⟨n,by omega,?_⟩;cases k with
   |hid=>trivial|bx x=>exact j|bl id=>exact j
def IS {V:Type}(t s:Nat):∀l:List (Nat×V),look (l.filter fun p=> !Nat.beq p.1 t) s=if s=t then none else look l s
 |[]=>by simp[look]
 |(k,v)::l=>by
  have d:=IS t s l;by_cases c:k=t
  .have:(!Nat.beq (k,v).1 t)=false:=by simp[c]
   rw[List.filter_cons_of_neg (by simp[this]),d,aq];by_cases b:s=t
   .simp[b]
   .simp[b,c,Ne.symm b]
  .have e:(!Nat.beq (k,v).1 t)=true:=by
    cases h:Nat.beq k t with
    |true=>exact absurd (aJ h) c|false=>simp[h]
   rw[List.filter_cons_of_pos (p:=fun p:Nat×V=> !Nat.beq p.1 t) e,aq,aq,d];by_cases b:s=t
   .simp[b,c]
   .simp[b]
def Inv.aGj (h:Inv w0 G st a w)(t:Tmp):Inv w0 G (st.drop t) a w:=by
 refine {h with tm:=fun s v b=>h.tm s v ?_};unfold St.drop at b;dsimp only at b;rw[IS]at b;split at b
 .cases b
 .exact b
def kJ {ops:Array Oper}{l:Array Bool}:∀(b:List Nat) {st:St},Inv w0 G st a w->Inv w0 G (gW P ops l b st) a w
 |[],_,h=>h|i::b,st,h=>by
  unfold gW;split
  .split
   .exact(kJ b h).aGj _
   .exact kJ b h
  .exact kJ b h
def aht {ops:Array Oper}{l:Array Bool}{x:Nat}{o:Oper}{d:Tmp}(e:ops[x]?=some o)(f:bE P o=true)(g:l.getD x true=false)(j:o.dst=some d):∀(b:List Nat) (st:St),x∈b->look (gW P ops l b st).tm d=none
 |[],_,h=>by cases h
 |i::b,st,h=>by
  unfold gW;rcases cN.1 h with rfl|h
  .rw[e];simp only[f,g,j,ea,Bool.and_self];show look (List.filter _ _) d=none;rw[IS,ag rfl]
  .have c:=aht e f g j b st h;split
   .split
    .show look (List.filter _ _) d=none;rw[IS];split
     .rfl
     .exact c
    .exact c
   .exact c
def mkF (o:Oper)(g:Nat):Value:=match o.op with
 |.alloc _=>.pointer (some ⟨g,0,none⟩)|.buildSlice _ len _=>.slice (some ⟨g,0,none⟩) len len|_=>undef
def alY (P:Program)(o:Oper)(a:Act)(b:Obj):Prop:=match o.op with
 |.alloc t=>∃i v,P.info? t=some i/\i.zero=some v/\b=.cells v.cells t (0,0)|.buildSlice t _ parts=>∃e,Es P t=some e/\b=.cells (aeW a parts.toList).toArray e (0,0)|_=>False
def ahu {a a':Act}:∀{l:List (Nat×Operand)},(∀p∈l,∀s,p.2=.tmp s->a'.tmps.getD s undef=a.tmps.getD s undef)->aeW a' l=aeW a l
 |[],_=>rfl|(b,x)::l,h=>by
  have c:a'.eval x=a.eval x:=by
   cases x with
   |tmp s=>exact h (b,.tmp s) (by simp) s rfl
   |_=>rfl
  simp only[aeW,c,ahu fun p d=>h p (jG _ d)]
def alY.same {a a':Act}{c:Obj}(h:alY P o a c)(b:∀t,abJ o t=true->a'.tmps.getD t undef=a.tmps.getD t undef):alY P o a' c:=by
 unfold alY at h ⊢;unfold abJ at b;split at h
 .exact h
 .rename_i t len parts d;simp only[d]at b;obtain⟨e,f,g⟩:=h;refine⟨e,f,?_⟩;rw[ahu (a:=a)]
  .exact g
  .intro p i s j;exact b s (alg.2 ⟨p,i,by rw[j];simp⟩)
 .exact h
def aHE (P:Program)(C:FuncId->Option Any)(N:Nat)(o:Oper)(d:Tmp):Prop :=
 ∀{w0:eH} {G:Gh} {st:St} {a:Act} {w:World} {g:Nat} {e:Obj} {U:Type} {k:St->Option U} {r:U},Inv w0 G st a w->G.own g=some .hid->w0.hd g=none->w.heap[g]?=some e->alY P o a e->a.tmps.getD d undef=mkF o g ->
  fB P C (oH.Ll N) o st k=some r->∃c cy,Inv w0 c cy a w/\k cy=some r/\(∀b,G.own b=none->c.own b=none)
def ab3:∀{l:List AC} {st:St},wh l=true->st.freeze l=st
 |[],_,_=>rfl|c::l,st,h=>by
  have b:st.dx c=st:=by cases c<;>first|rfl|(simp[wh]at h)
  have d:wh l=true:=by cases c<;>first|exact h|(simp[wh]at h)
  show List.foldl St.dx (st.dx c) l=st;rw[b];exact ab3 d
def arF {l m:List AC}(b:wh l=true)(d:wh m=true):wh (l++m)=true:=by
 induction l with
 |nil=>exact d|cons c l e=>cases c<;>first|exact e b|(simp[wh]at b)
def aak:∀{t:Ty} {l r:List AC} {x:t.D},flat t=true->im st t l=some (x,r)->∃p,l=p++r/\wh p=true
 |.int k,[],_,_,_,h=>by simp[im]at h
 |.int k,c::l,_,_,_,h=>by
  cases c<;>simp[im]at h
  exact⟨[_],by rw[h.2.2];rfl,rfl⟩
 |.bool,[],_,_,_,h=>by simp[im]at h
 |.bool,c::l,_,_,_,h=>by
  cases c<;>simp[im]at h
  exact⟨[_],by rw[h.2];rfl,rfl⟩
 |.str,[],_,_,_,h=>by simp[im]at h
 |.str,c::l,_,_,_,h=>by
  cases c<;>simp[im]at h
  exact⟨[_],by rw[h.2];rfl,rfl⟩
 |.unit,l,r,x,_,h=>by simp only[im]at h;cases h;exact⟨[],rfl,rfl⟩
 |.pair t u,l,r,x,b,h=>by
  simp only[flat,aA]at b;simp only[im]at h;split at h
  .rename_i y j d;split at h
   .rename_i z m e;cases h;obtain⟨p,f,g⟩:=aak b.1 d;obtain⟨q,i,n2⟩:=aak b.2 e;exact⟨p++q,by rw[f,i,gI],arF g n2⟩
   .cases h
  .cases h
 |.sl _ _,_,_,_,b,_=>by simp[flat]at b
def arG {u:Ty}(b:flat u=true):∀{l:List (Nat×Operand)} {i:Nat} {xs:List u.D},hZ st u i l=some xs->wh (cn st l)=true
 |[],_,_,_=>rfl|(f,x)::l,i,xs,h=>by
  simp only[hZ]at h;split at h
  .split at h
   .rename_i y c;split at h
    .rename_i g d;obtain⟨p,e,n⟩:=aak b c;rw[fU]at e;exact arF (by rw[e];exact n) (arG b d)
    .cases h
   .cases h
  .cases h
def QR (l:bE P o=true):∃d,o.dst=some d/\o.guard=none/\(∀{w0:eH} {G:Gh} {st:St} {a:Act} {w:World},Inv w0 G st a w->Lm P st o=true->∃obj,(execOp a.eval o).run P w=.ok (.value (mkF o w.heap.size)) (w.alloc obj)/\alY P o a obj)/\aHE P C N o d:=by
 unfold bE at l;split at l
 .rename_i d t S A j;split at l
  .rename_i z I;obtain⟨i,v,y,T,rfl⟩:=iz I;refine⟨d,A,S,fun _ _=>⟨.cells v.cells t (0,0),?_,?_⟩,?_⟩
   .unfold execOp mkF;rw[j];simp[Instr.alloc,zeroValue,typeInfo,y,T,BG]
   .unfold alY;rw[j];exact⟨i,v,y,T,rfl⟩
   .intro w0 G st a w g obj U k r h B W K s X f;unfold alY at s;simp only[j]at s;obtain⟨qk,qA,D,qe,rfl⟩:=s;rw[y]at D;cases D;rw[T]at qe;cases qe;simp only[fB,j,A,I]at f;split at f
    .rename_i m;obtain⟨F,Y⟩:=aU f;rw[aA]at F;refine⟨_,_,h.aCy m (gq F.1) B W K ((pB v).cells F.2) (by rw[X];unfold mkF;rw[j]),Y,fun b m=>?_⟩;have:b≠g:=by rintro rfl;rw[B]at m;cases m
     simp[Gh.box,this,m]
    .cases f
  .cases l
 .rename_i d t len parts S A j;split at l
  .rename_i e p;split at l
   .rename_i u L;simp only[aA]at l;obtain⟨⟨h1,ql⟩,⟨⟨⟨qm,qn⟩,qo⟩,qp⟩⟩:=l;have hlen:=aJ ql;have H:0<u.n:=TZ (bD qn);have qB:=Fs qo;obtain⟨i,y,qf⟩:=n6 (aJ qm) H;obtain⟨z,I⟩:=iR.1 qp;obtain⟨qk,O,D,qq,_⟩:=iz I;rw[y]at D;cases D;have qt:P.underlying t=some (.slice e):=by
     unfold Es at p;split at p
     .rename_i qu L;cases p;exact L
     .cases p
    refine⟨d,A,S,?_,?_⟩
    .intro w0 G st a w h Z;unfold Lm at Z;simp only[j,p,L]at Z;obtain⟨xs,Q⟩:=iR.1 Z;have qa:((Array.range (len*u.n)).map (fun q=>(if len*u.n=0 then #[] else O.cells)[q%(if len*u.n=0 then #[] else O.cells).size]!)).size=(0+parts.toList.length)*u.n:=by simp[<-hlen]
     obtain⟨cs,qg,qh,qv,qi,qb⟩:=Uh (ok:=fun _=>True) h H parts.toList 0 _ xs (fun t c v qd _=>Uj h t c v qd) qa Q;simp only[alo,List.take_zero,Bi]at qg;refine⟨.cells cs.toArray e (0,0),?_,?_⟩
     .unfold execOp mkF;rw[j];dsimp only;have:=Jh (P:=P) (w:=w) qt y qq (len:=len) (parts:=parts.map fun (i,x)=>(i,a.eval x)) (cells:=cs.toArray) (by rw[qf];omega) (by rw[qf,abE];exact qg);simp only[Sem.run_bind,this,Result.andThen_ok];rfl
     .unfold alY;rw[j];exact⟨e,p,by rw[qb]⟩
    .intro w0 G st a w g obj U k r h B W K s X f;unfold alY at s;simp only[j]at s;obtain⟨qu,qj,rfl⟩:=s;rw[p]at qj;cases qj;simp only[fB,j,A,p,L]at f;split at f
     .rename_i xs Q;split at f
      .rename_i qC;have qa:((Array.range (len*u.n)).map (fun q=>(if len*u.n=0 then #[] else O.cells)[q%(if len*u.n=0 then #[] else O.cells).size]!)).size=(0+parts.toList.length)*u.n:=by simp[<-hlen]
       obtain⟨cs,_,qh,qv,qi,qb⟩:=Uh (ok:=fun _=>True) h H parts.toList 0 _ xs (fun t c v qd _=>Uj h t c v qd) qa Q;have qw:wh (cn st parts.toList)=true:=by
        rw[iS]at h1;rcases h1 with h1|h1
        .exact arG h1 Q
        .have qx:=aJ h1;have:parts.toList=[]:=Ya (by omega);rw[this];rfl
       have qy:eT w (RO G (cj (cn st parts.toList))) u cs xs:=by
        rw[iS]at h1;rcases h1 with h1|h1
        .exact alL h1 qi
        .have qx:=aJ h1;have:xs=[]:=Ya (by omega);subst this;exact fun qD x qz=>by simp at qz
       rw[ab3 qw]at f;unfold St.row at f;split at f
       .cases f
       .rename_i m;obtain⟨F,Y⟩:=aU f;rw[<-qb]at K;have qE:len<=len*u.n:=asT _ H;have qF:maxLen=9223372036854775807:=rfl;refine⟨_,_,Inv.aCz (e:=e) (u:=u) (n:=len) h m (gq F) B W K H (by omega) qh (by omega) qy (by rw[X];unfold mkF;rw[j]),Y,fun b m=>?_⟩;have:b≠g:=by rintro rfl;rw[B]at m;cases m
        simp[Gh.rowAt,this,m]
      .cases f
     .cases f
   .cases l
  .cases l
 .cases l
def aCA {k:St->Option U}(b:bE P o=true)(c:fB P C (oH.Ll N) o st k=some r):Lm P st o=true:=by
 unfold bE at b;split at b
 .rename_i d t h g f;unfold Lm;rw[f]
 .rename_i d t len parts h g f;unfold Lm;simp only[f];simp only[fB,f,g]at c;split at b
  .rename_i e i;split at b
   .rename_i u j;simp only[i,j]at c ⊢;split at c
    .rename_i xs l;rw[l];rfl
    .cases c
   .cases b
  .cases b
 .cases b
def eH.from (w0:eH)(G:Gh)(w:World)(d:w0.w.heap.size<=w.heap.size)(e:∀g k,G.own g=some k->w0.nw g):eH where
 w:=w
 ok:=w0.ok
 nw:=w0.nw
 fr g:=(G.own g).isSome=true
 hnw b c:=w0.hnw b (bZ d c)
 hfr b c:=by obtain⟨k,f⟩:=iR.1 c;exact e b k f
 pv:=w0.pv
 hd g:=match w0.hd g with
  |some x=>some x|none=>match G.own g with
   |none=>(w.heap[g]?).map fun o=>(false,o)
   |some _=>none
def Inv.aJb (h:Inv w0 G st a w):∀g k,G.own g=some k->w0.nw g:=fun g k b=>by rw[<-h.nw];exact h.Uc b
abbrev Inv.root (h:Inv w0 G st a w):eH:=w0.from G w h.below.size h.aJb
def Inv.from (h:Inv w0 G st a w):Inv h.root G st a w:=by
 refine⟨h.nw,h.rok,eG.refl _ _,h.defers,h.size,h.sp,fun g b o c=>?_,h.tm,h.bx,h.bl,fun g k e=>?_⟩
 .simp only[Inv.root,eH.from]at c;split at c
  .rename_i x f;cases c;exact h.hd g b o f
  .split at c
   .rename_i i;cases d:w.heap[g]? with
    |none=>rw[d]at c;cases c
    |some m =>
     rw[d]at c;cases c;exact⟨i,(wZ.1 d).1,rfl⟩
   .cases c
 .obtain⟨_,j,l⟩:=h.own g k e;exact⟨.inr (by simp[Inv.root,eH.from,e]),j,l⟩
def Inv.BJ (h:Inv w0 G st a w){w1:World}(b:eG h.root.fr w w1):eG w0.fr w0.w w1 :=
 h.below.step b.os b.tape b.output b.size fun k c d=>b.block k (En c h.below.size) fun hfr=>by
  obtain⟨q,e⟩:=iR.1 (show(G.own k).isSome=true from hfr);rcases(h.own k q e).1 with h1|h1
  .omega
  .exact d h1
def Inv.alZ (h:Inv w0 G st a w){d:Gh}{cy:St}{a':Act}{w':World}(c:Inv h.root d cy a' w') :
  Inv w0 d cy a' w'/\w.heap.size<=w'.heap.size/\∀g,g<w.heap.size->G.own g=none->d.own g=none/\w'.heap[g]?=w.heap[g]?:=by
 refine⟨⟨c.nw,c.rok,h.BJ c.below,c.defers,c.size,c.sp,fun g b o p=>c.hd g b o ?_,c.tm,c.bx,c.bl,fun g k s=>?_⟩,c.below.size,fun g t l=>?_⟩
 .simp only[Inv.root,eH.from,p]
 .obtain⟨h1,m,e⟩:=c.own g k s;refine⟨?_,m,e⟩;rcases h1 with h1|h1
  .exact .inl (bZ h.below.size h1)
  .obtain⟨q,u⟩:=iR.1 (show(G.own g).isSome=true from h1);exact(h.own g q u).1
 .cases f:w0.hd g with
  |some x =>
   obtain⟨b,o⟩:=x;obtain⟨h1,m,e⟩:=h.hd g b o f;obtain⟨i,v,j⟩:=c.hd g b o (by simp only[Inv.root,eH.from,f]);cases b with
   |true =>
    rw[l]at h1;cases h1
   |false=>exact⟨i,j.trans e.symm⟩
  |none =>
   have n:w.heap[g]?=some w.heap[g]:=asS t;obtain⟨i,v,j⟩:=c.hd g false w.heap[g] (by simp only[Inv.root,eH.from,f,l,n,Option.map_some]);exact⟨i,j.trans n.symm⟩
def Inv.aHF (h:Inv w0 G st a w){f:FuncId}{con:Any}(b:Oo P w0 f con):Oo P h.root f con:=by
 cases con with
 |one c=>exact⟨b.1,fun x r l m d=>b.2 x r l m (h.BJ d)⟩
 |idx i=>exact⟨b.1,fun W d=>b.2 W (h.BJ d)⟩
 |ins e u=>exact⟨b.1,fun W d=>b.2 W (h.BJ d)⟩
 |del e u=>exact⟨b.1,fun W d=>b.2 W (h.BJ d)⟩
 |sel c =>
  refine⟨b.1,b.2.1,fun x r l m d ok n own p s u k t=>b.2.2 x r l m (h.BJ d) ok n own p s u ⟨k.k7,fun g v y=>?_,k.cW⟩ t⟩;obtain⟨z,A,j⟩:=k.bm g v y;refine⟨z,A,?_⟩;rcases j with j|j
  .exact .inl (bZ h.below.size j)
  .obtain⟨q,B⟩:=iR.1 (show(G.own g).isSome=true from j);exact(h.own g q B).1
 |two c =>
  refine⟨b.1,b.2.1,fun x r l m d ok n own p s u k t=>b.2.2 x r l m (h.BJ d) ok n own p s u ⟨k.k7,fun g v y=>?_,k.cW⟩ t⟩;obtain⟨z,A,j⟩:=k.bm g v y;refine⟨z,A,?_⟩;rcases j with j|j
  .exact .inl (bZ h.below.size j)
  .obtain⟨q,B⟩:=iR.1 (show(G.own g).isSome=true from j);exact(h.own g q B).1
def aGk {K:Act->World->Prop}{Q:Exit->Act->World->Prop}(h:o.wp P a w K Q) :
  o.wp P a w (fun i j=>K i j/\i.tmps.size=a.tmps.size/\∀t,o.dst≠some t->i.tmps.getD t undef=a.tmps.getD t undef) Q:=by
 have key:∀(b:Act) u,b.tmps=a.tmps->(b.put o.dst u).tmps.size=a.tmps.size/\∀t,o.dst≠some t->(b.put o.dst u).tmps.getD t undef=a.tmps.getD t undef:=by
  intro b u g;cases m:o.dst with
  |none=>exact⟨by simp[Act.put,g],fun t _=>by simp[Act.put,g]⟩
  |some d =>
   refine⟨by simp[Act.put,g],fun t k=>?_⟩;have l:t≠d:=fun e=>k (by rw[e])
   rw[mC l,g]
 unfold Oper.wp Oper.upon at h ⊢;split at h
 .exact⟨h,key a _ rfl⟩
 .exact⟨h,key a _ rfl⟩
 .exact⟨h,key _ _ rfl⟩
 .refine Calls.mono h fun e j f=>?_
  cases e with
  |returned v=>exact⟨f,key a _ rfl⟩|panicked c=>exact f|_=>exact f
 .exact Rows.mono h fun v j f=>⟨f,key a _ rfl⟩
 all_goals exact h
def w9 (c:oz P o=true):bE P o=false:=by
 unfold bE;split
 .rename_i b;simp[oz,b]at c
 .rename_i b;simp[oz,b]at c
 .rfl
def aCB {k:St->Option U}(h:Inv w0 G st a w)(b:fB P C (oH.Ll N) o st k=some r)(f:as8 o=true) :
  ∃v g,(execOp a.eval o).run P w=.ok (.value v) (w.alloc g):=by
 unfold as8 at f;split at f
 .rename_i t c;simp only[fB,c]at b;split at b
  .split at b
   .split at b
    .rename_i z j;obtain⟨i,v,l,m,rfl⟩:=iz j;refine⟨.pointer (some ⟨w.heap.size,0,none⟩),.cells v.cells t (0,0),?_⟩;unfold execOp;rw[c];simp[Instr.alloc,zeroValue,typeInfo,l,m,BG]
    .cases b
   .cases b
  .cases b
 .rename_i t x c;refine⟨.pointer (some ⟨w.heap.size,0,none⟩),.cells (a.eval x).cells t (0,0),?_⟩;unfold execOp;rw[c];simp[Instr.box,BG]
 .rename_i t len parts c;simp only[fB,c]at b;split at b
  .rename_i d e y n;split at b
   .rename_i u A;split at b
    .rename_i xs p;split at b
     .rename_i q;obtain⟨cs,s⟩:=aiS h t len parts c n p q;exact⟨_,_,s⟩
     .cases b
    .cases b
   .cases b
  .cases b
 .cases f
def aD5 {ops:Array Oper}{k:St->Option U}(h:Inv w0 G st a w)(b:fB P C (oH.Ll N) o st k=some r){t:Tmp}(c:Z6 o=some t){g0:Nat}(n:a.tmps.getD t undef=.slice (some ⟨g0,0,none⟩) 0 0) :
  ∃v f,(execOp a.eval o).run P w=.ok (.value v) f/\Below w.heap.size w f:=by
 unfold Z6 at c;split at c
 .rename_i args B g;split at c
  .rename_i D y t1 t2 i j;split at c
   .rename_i p;cases c;have:=aJ p;subst this;simp only[fB,g]at b;split at b
    .rename_i d s x F H I l m;rw[i]at l;rw[j]at m;cases l;cases m;split at b
     .rename_i e q;split at b
      .rename_i u z K A;exact ayV h g i j q A (d:=d) n b
      .cases b
     .cases b
    .cases b
   .cases c
  .cases c
 .cases c
def iA (h:Hg P o=true):bE P o=true:=by unfold Hg at h;rw[aA]at h;exact h.1
def al0 (h:Hg P o=true)(g:Nat):mkF o g=.slice (some ⟨g,0,none⟩) 0 0:=by
 unfold Hg at h;rw[aA]at h;unfold mkF;split at h
 .rename_i b;rw[b]
 .cases h.2
def atB (C:FuncId->Option Any)(o:Oper)(a:Act)(w w':World):Prop :=
 ∀t g k,T7 C o=some t->a.tmps.getD t undef=.pointer (some ⟨g,0,none⟩)->k<w.heap.size->k≠g->w'.heap[k]?=w.heap[k]?
def atB.below {w':World}(h:Below w.heap.size w w'):atB C o a w w':=fun _ _ k _ _ b _=>h.block k b
def awe {g o:Nat}{v:Value}{w w':World}{cs:Array Value}{e:TypeId}{p:Nat×Nat}(b:w.heap[g]?=some (.cells cs e p))(h:(store ⟨g,o,none⟩ v).run P w=.ok () w'):(∃c,w'.heap[g]?=some (.cells c e p))/\∀k,k≠g->w'.heap[k]?=w.heap[k]?:=by
 have key:(match w.cell? ⟨g,o,none⟩ with
   | some _ => if w.frozen? ⟨g, o, none⟩ then Result.halt (.unsupported (.unsafePointer "a write to bytes that a string shares")) w else Result.ok () (w.setCell ⟨g, o, none⟩ v)
   |none=>match w.farStore P ⟨g,o,none⟩ v (Mode.plain==Mode.atomic) with
    |.ok (w,_)=>Result.ok () w|.error h=>.halt h w)=.ok () w'\/False:=by
  cases v with
  |agg _=>exact .inr (by simp[store,Sem.run]at h)
  |tuple _=>exact .inr (by simp[store,Sem.run]at h)
  |_=>exact .inl h
 rcases key with key|key
 .split at key
  .split at key
   .cases key
   .injection key with _ key
    subst key;unfold World.setCell;refine⟨⟨cs.setIfInBounds o v,?_⟩,fun k d=>?_⟩
    .simp only[Array.getElem?_modify,fX,b,Option.map_some];rfl
    .simp only[Array.getElem?_modify];rw[af (fun e=>d e.symm)]
  .unfold World.farStore at key;simp only[b]at key;cases key
 .exact key.elim
def Ot {g:Nat}:∀(vs:List Value) (o i:Nat) (w w':World) {cs:Array Value} {e:TypeId} {p:Nat×Nat},w.heap[g]?=some (.cells cs e p)->(storeCells ⟨g,o,none⟩ vs i).run P w=.ok () w'->∀k,k≠g->w'.heap[k]?=w.heap[k]?
 |[],o,i,w,w',_,_,_,_,h=>by
  have h:Result.ok () w=.ok () w':=h;injection h with _ h
  subst h;exact fun _ _=>rfl
 |v::vs,o,i,w,w',cs,e,p,l,h=>by
  have h:((store (Addr.add ⟨g,o,none⟩ i) v).run P w).andThen (fun _ d=>(storeCells ⟨g,o,none⟩ vs (i+1)).run P d)=.ok () w':=by rw[<-h];simp only[storeCells,Sem.run_bind]
  cases b:(store (Addr.add ⟨g,o,none⟩ i) v).run P w with
  |halt c d=>rw[b]at h;cases h
  |ok u d =>
   rw[b]at h;have b:(store ⟨g,o+i,none⟩ v).run P w=.ok () d:=by
    cases u;by_cases f:i=0
    .subst f;simpa [Addr.add]using b
    .simpa [Addr.add,f]using b
   obtain⟨⟨q,m⟩,n⟩:=awe l b;exact fun k j=>(Ot vs o (i+1) d w' m h k j).trans (n k j)
def aD6 {t:TypeId}{x y:Operand}{g m:Nat}{cs:Array Value}{e:TypeId}{p:Nat×Nat}{K:Act->World->Prop}{Q:Exit->Act->World->Prop}(n:o.op=.store t x y)(q:a.eval x=.pointer (some ⟨g,m,none⟩))(s:w.heap[g]?=some (.cells cs e p))(d:(P.info? t).isSome=true)
  (h:o.wp P a w K Q):o.wp P a w (fun v l=>K v l/\∀k,k≠g->l.heap[k]?=w.heap[k]?) Q:=by
 obtain⟨i,d⟩:=iR.1 d;unfold Oper.wp execOp at h ⊢;rw[n]at h ⊢;dsimp only at h ⊢;rw[q]at h ⊢;simp only[Instr.storeAt,Instr.sureAddr,Sem.run_bind,Sem.run_pure,Result.andThen_ok]at h ⊢;cases b:(storeVar t ⟨g,m,none⟩ (a.eval y)).run P w with
 |halt c j =>
  rw[b]at h;have e:∀f:Unit->World->Result Next,(Result.halt c j:Result Unit).andThen f=.halt c j:=fun _=>rfl
  rw[e]at h ⊢;cases c<;>exact h
 |ok u j =>
  rw[b]at h;refine⟨h,fun k z=>?_⟩;unfold storeVar at b;simp only[Sem.run_bind,run_sizeOf w d,Result.andThen_ok]at b;split at b
  .cases b
  .exact Ot _ _ _ _ _ s b k z
def ay6 {ops:Array Oper}{Q:Exit->Act->World->Prop}{k:St->Option U}(S:∀f x,C f=some x->Oo P w0 f x)(h:Inv w0 G st a w)(c:fB P C (oH.Ll N) o st k=some r)
  (qt:∀t,Z6 o=some t->Oi P ops o=true->∃g,a.tmps.getD t undef=.slice (some ⟨g,0,none⟩) 0 0) (qu:∀d,bE P o=true->o.dst=some d->d<a.tmps.size) :
  o.wp P a w (fun D F=>(((∃L cy,Inv w0 L cy D F/\k cy=some r)/\(pA P C ops o=true->Below w.heap.size w F))/\(Hg P o=true->∀d,o.dst=some d->∃g,D.tmps.getD d undef=.slice (some ⟨g,0,none⟩) 0 0)/\atB C o a w F)/\D.tmps.size=a.tmps.size/\∀t,o.dst≠some t->D.tmps.getD t undef=a.tmps.getD t undef) Q:=by
 refine aGk ?_;have W:ra w0 k r (fun D F=>∃L cy,Inv w0 L cy D F/\k cy=some r):=fun L cy D F H qb=>⟨L,cy,H,qb⟩
 by_cases j:pA P C ops o=true
 .by_cases qd:oz P o=true
  .obtain⟨v,L,cy,s,qv,B⟩:=aaj qd h c;exact Jd (s w (w7 (Below.refl _ w))) ⟨⟨⟨L,cy,qv,B⟩,fun _=>Below.refl _ w⟩,fun u=>absurd (iA u) (by rw[w9 qd];simp),.below (Below.refl _ w)⟩
  .by_cases T:bE P o=true
   .obtain⟨d,qG,qj,s,_⟩:=QR (C:=C) (N:=N) T;obtain⟨obj,s,_⟩:=s h (aCA T c);have:=wq (Q:=Q) S h c W;unfold Oper.wp at this ⊢;rw[s]at this ⊢;refine⟨⟨this,fun _=>⟨rfl,rfl,rfl,by simp,fun k B=>Below.heap_alloc _ _ _ B⟩⟩,fun u qw qk=>⟨w.heap.size,?_⟩,.below ⟨rfl,rfl,rfl,by simp,fun k B=>Below.heap_alloc _ _ _ B⟩⟩;have hlt:=qu qw T qk;rw[qk,al0 u];simp[Act.put,Od,hlt]
   .by_cases ql:as8 o=true
    .obtain⟨v,qH,s⟩:=aCB h c ql;have:=wq (Q:=Q) S h c W;unfold Oper.wp at this ⊢;rw[s]at this ⊢;exact⟨⟨this,fun _=>⟨rfl,rfl,rfl,by simp,fun k B=>Below.heap_alloc _ _ _ B⟩⟩,fun u=>absurd (iA u) T,.below ⟨rfl,rfl,rfl,by simp,fun k B=>Below.heap_alloc _ _ _ B⟩⟩
    by_cases qe:Oi P ops o=true
    .obtain⟨t,I⟩:∃t,Z6 o=some t:=by
      cases qx:Z6 o with
      |none=>simp[Oi,qx]at qe|some t=>exact⟨t,rfl⟩
     obtain⟨g,qj⟩:=qt t I qe;obtain⟨v,F,s,Y⟩:=aD5 (ops:=ops) h c I qj;have:=wq (Q:=Q) S h c W;unfold Oper.wp at this ⊢;rw[s]at this ⊢;exact⟨⟨this,fun _=>Y⟩,fun u=>absurd (iA u) T,.below Y⟩
    have A:ayK C o=true:=by
     unfold pA at j;simp only[iS]at j;rcases j with (((j|j)|j)|j)|j
     .exact absurd j qd
     .exact absurd j T
     .exact j
     .exact absurd j ql
     .exact absurd j qe
    unfold ayK at A;split at A
    .rename_i f args qy O;simp only[fB,O]at c;split at c
     .rename_i x z;exact ahs (show ahp P w0 f x from S f (.one x) z) h O c fun L cy D F H qb Y=>⟨⟨⟨L,cy,H,qb⟩,fun _=>Y⟩,fun u=>absurd (iA u) T,.below Y⟩
     .rename_i x z;rw[z]at A;cases A
     .rename_i x z;rw[z]at A;cases A
     .rename_i z;rw[z]at A;cases A
     .rename_i z;rw[z]at A;cases A
     .rename_i z;rw[z]at A;cases A
     .cases c
    .cases A
 .have u:∀{U:Prop},Hg P o=true->U:=fun u=>absurd (show pA P C ops o=true by unfold pA;rw[iA u];simp) j
  cases m:T7 C o with
  |none=>exact Oper.wp_mono (fun D F H=>⟨⟨H,fun h=>absurd h j⟩,fun h=>u h,fun t g k I=>(by rw[m]at I;cases I)⟩) (wq (Q:=Q) S h c W)
  |some t =>
   have qm:=m;unfold T7 at m;split at m
   .rename_i f args qy O;split at m
    .rename_i x z;have qn:(x.pm=.box\/x.pm=.cur)/\mA args.toList x.i=some (.tmp t):=by
      cases X:x.pm with
      |box =>
       rw[X]at m;dsimp only at m;split at m
       .rename_i qa qf;cases m;exact⟨.inl rfl,qf⟩
       .cases m
      |cur =>
       rw[X]at m;dsimp only at m;split at m
       .rename_i qa qf;cases m;exact⟨.inr rfl,qf⟩
       .cases m
      |rd=>rw[X]at m;cases m|own f=>rw[X]at m;cases m
     simp only[fB,O,z]at c;refine Oper.wp_mono (fun D F H=>⟨⟨H.1,fun h=>absurd h j⟩,fun h=>u h,fun qa g k I K B qg=>?_⟩) (ab1 (show aad P w0 f x from S f (.two x) z) h O c W);rw[qm]at I;cases I;exact H.2 (.tmp t) g qn.1 qn.2 K k B qg
    .cases m
   .rename_i ty qa y O;cases m;have qz:=wq (Q:=Q) S h c W;simp only[fB,O]at c;split at c
    .rename_i qo;simp only[aA]at qo;have qA:∃g off cs e p,a.eval (.tmp t)=.pointer (some ⟨g,off,none⟩)/\w.heap[g]?=some (.cells cs e p):=by
      have hrel:=h.ac (.tmp t);split at c
      .rename_i b off qh;rw[qh]at hrel;obtain⟨qB,K⟩:=hrel;obtain⟨l,j⟩:=iR.1 qB;obtain⟨cs,e,Z,_⟩:=h.bx b l j;exact⟨_,off,cs,e,_,K,Z⟩
      .rename_i id i off qh;rw[qh]at hrel;obtain⟨_,_,_,g,q,n,cap,K,qI,X⟩:=hrel;split at c
       .rename_i qp qC;split at c
        .rename_i qq;simp only[aA]at qq;have j:=dA qC;obtain⟨rows,bm,qK,_⟩:=(h.bl id qp j).wr qq.1.1;rcases bm.2 with ⟨s,_⟩|⟨qD,qL,cur,s,_,Z,_⟩
         .rw[K]at s;cases s
         .rw[K]at s;injection s with qi _ _
          injection qi with qi
          injection qi with qE _ _
          subst qE;exact⟨g,_,cur,_,_,X qp j,Z⟩
        .cases c
       .cases c
      .cases c
     obtain⟨g,off,cs,e,p,K,Z⟩:=qA;refine Oper.wp_mono (fun D F H=>⟨⟨H.1,fun h=>absurd h j⟩,fun h=>u h,fun qa qD k I qF B qg=>H.2 k ?_⟩) (aD6 O K Z qo.2 qz);rw[qm]at I;cases I;rw[show a.eval (.tmp t)=a.tmps.getD t undef from rfl,qF]at K;cases K;exact qg
    .cases c
   .cases m
def QS {ops:Array Oper}{j:Nat}{c:Oper}{d:Tmp}{tmps:Array Value}(e:mA ops.toList j=some c)(f:c.dst=some d) :
  yielded ops tmps j=match tmps.getD d undef with|.bool b=>some b|_=>none:=by
 have g:ops[j]?=some c:=by rw[atl]at e;simpa using e
 unfold yielded;rw[g];simp only[alf,f];rw[Od];cases tmps[d]? with
 |none=>rfl|some v=>cases v<;>rfl
def Yl {ops:Array Oper}{k:St->Option U}(h:Inv w0 G st a w)(c:QG P C (oH.Ll N) ops.toList o st k=some r) :
  (Region.wanted o (yielded ops a.tmps)=true/\∃cy,(cy=st\/∃d b j,st.get d=.v (.c (.bool b))/\cy=st.put d (.v (.c (.bool j))))/\Inv w0 G cy a w/\fB P C (oH.Ll N) o cy k=some r) \/
  (Region.wanted o (yielded ops a.tmps)=false/\∃e cy,Inv w0 e cy (a.put o.dst undef) w/\k cy=some r):=by
 have p:∀{st:St},Inv w0 G st a w->St.pk st o.dst (.TV []) k=some r->∃e cy,Inv w0 e cy (a.put o.dst undef) w/\k cy=some r:=by
  intro st h c;obtain⟨e,cy,x,y⟩:=w6 (K:=fun s t=>∃e cy,Inv w0 e cy s t/\k cy=some r) h (v:=.TV []) (u:=undef) ⟨#[],rfl,trivial⟩ c fun e cy s t z A=>⟨e,cy,z,A⟩
  exact⟨e,cy,x,y⟩
 unfold QG at c;split at c
 .rename_i f;exact .inl ⟨by simp[Region.wanted,f],st,.inl rfl,h,c⟩
 .rename_i I T6 f;split at c
  .rename_i L B;split at c
   .rename_i d D;have g:=QS (tmps:=a.tmps) B D;have l:=h.ev (.tmp d);rw[show st.ev (.tmp d)=st.get d from rfl]at l;split at c
    .rename_i b m;rw[m]at l;have i:a.tmps.getD d undef=.bool b:=l;rw[i]at g;have n:∀j,b=j->Inv w0 G (st.put d (.v (.c (.bool j)))) a w:=by intro j F;subst F;exact h.lit (.tmp d) b i
     rcases abN c with ⟨q,c⟩|⟨q,c⟩
     .subst q;cases T6 with
      |true=>exact .inl ⟨by simp[Region.wanted,f,g],_,.inr ⟨d,_,_,m,rfl⟩,n true rfl,c⟩
      |false=>exact .inr ⟨by simp[Region.wanted,f,g],p (n true rfl) c⟩
     .subst q;cases T6 with
      |true=>exact .inr ⟨by simp[Region.wanted,f,g],p (n false rfl) c⟩
      |false=>exact .inl ⟨by simp[Region.wanted,f,g],_,.inr ⟨d,_,_,m,rfl⟩,n false rfl,c⟩
    .rename_i m;rw[m]at l;obtain⟨H,i,O⟩:=l;have i:a.tmps.getD d undef=.tuple H:=i;rw[i]at g;exact .inr ⟨by simp[Region.wanted,f,g],p h c⟩
    .cases c
   .cases c
  .cases c
def Ym {ops:Array Oper}{M:Array Bool}:∀{l:List Nat} {j:Nat} {o:Oper},T8 P C ops M st l=some (j,o)->j∈l/\ops[j]?=some o/\oz P o=true/\Region.free .any ops M j=true/\((Ja st o=true\/aAE ops.toList st o=true)\/(abK P C ops M j=true\/as9 P C ops M st j o=true))
 |[],_,_,h=>by simp[T8]at h
 |i::l,j,o,h=>by
  simp only[T8]at h;split at h
  .rename_i f c;split at h
   .rename_i b;cases h;simp only[aA,iS]at b;exact⟨by simp,c,b.1.1,b.1.2,b.2.elim (fun h=>h.elim (fun h=>h.elim (fun h=>.inl (.inl h)) fun h=>.inr (.inl h)) fun h=>.inl (.inr h)) fun h=>.inr (.inr h)⟩
   .obtain⟨d,e⟩:=Ym h;exact⟨by simp[d],e⟩
  .cases h
def Yn {ops:Array Oper}{M:Array Bool}:∀{l:List Nat} {j:Nat} {o:Oper},T9 P ops M st l=some (j,o)->j∈l/\ops[j]?=some o/\aDJ j (Region.ready .any ops (j3 P ops j (List.range ops.size) M))=true/\alw P ops M st (List.range ops.size)=true
 |[],_,_,h=>by simp[T9]at h
 |i::l,j,o,h=>by
  simp only[T9]at h;split at h
  .rename_i f c;split at h
   .rename_i b;cases h;rw[aA]at b;exact⟨by simp,c,b.1,b.2⟩
   .obtain⟨d,e⟩:=Yn h;exact⟨by simp[d],e⟩
  .cases h
def al1 {ops:Array Oper}{M:Array Bool}:∀{l:List Nat},alw P ops M st l=true->∀i∈l,∀o,ops[i]?=some o->bE P o=true->M.getD i true=false->waits P ops M o=true\/Lm P st o=true
 |[],_,i,h=>by cases h
 |j::l,h,i,hi=>by
  simp only[alw,aA]at h;intro o b c d;rcases cN.1 hi with rfl|hi
  .have:=h.1;rw[b]at this;simpa [c,d]using this
  .exact al1 h.2 i hi o b c d
def ay7 {ops:Array Oper}{M:Array Bool}(h:waits P ops M o=true):∃e∈o.after,Region.binds .any e=true/\∃c,ops[e.on]?=some c/\bE P c=false/\M.getD e.on true=false:=by
 unfold waits at h;obtain⟨e,f,d⟩:=aeL.1 h;rw[aA]at d;refine⟨e,f,d.1,?_⟩;have b:=d.2;split at b
 .rename_i c g;rw[aA]at b;exact⟨c,g,by simpa using b.1,by simpa using b.2⟩
 .cases b
def arH {x:Nat}:∀{l:List Nat},aDJ x l=true->∀i∈l,i=x
 |[],_,i,h=>by cases h
 |j::l,h,i,hi=>by
  simp only[aDJ,aA]at h;rcases cN.1 hi with rfl|hi
  .exact aJ h.1
  .exact arH h.2 i hi
def xt {ops:Array Oper}{x:Nat}:∀(b:List Nat) {l:Array Bool} {i:Nat},l.getD i false=true->(j3 P ops x b l).getD i false=true
 |[],_,_,h=>h|j::b,l,i,h=>by
  unfold j3;split
  .split
   .exact xt b (getD_set_true h)
   .exact xt b h
  .exact xt b h
def Hi {ops:Array Oper}{x:Nat}:∀(b:List Nat) {l:Array Bool},(j3 P ops x b l).size=l.size
 |[],_=>rfl|j::b,l=>by
  unfold j3;split
  .split
   .rw[Hi b];simp
   .exact Hi b
  .exact Hi b
def Hj {ops:Array Oper}{x y:Nat}(h:ops[y]?=none):∀(b:List Nat) {l:Array Bool},(j3 P ops x b l).getD y false=l.getD y false
 |[],_=>rfl|j::b,l=>by
  unfold j3;split
  .rename_i o c;have d:j≠y:=fun e=>by rw[e,h]at c;cases c
   split
   .rw[Hj h b,getD_set_ne false d]
   .exact Hj h b
  .exact Hj h b
def s7 {ops:Array Oper}{x y:Nat}{o:Oper}(c:ops[y]?=some o)(d:bE P o=true)(e:y≠x):∀(b:List Nat) {l:Array Bool},y<l.size->y∈b->(j3 P ops x b l).getD y false=true
 |[],_,_,h=>by cases h
 |j::b,l,f,h=>by
  have g:Nat.beq y x=false:=by
   cases g:Nat.beq y x with
   |true=>exact absurd (aJ g) e|false=>rfl
  unfold j3;rcases cN.1 h with rfl|h
  .rw[c];simp only[d,g,ea,Bool.and_self];exact xt b (by simp[Od,f])
  .split
   .split
    .exact s7 c d e b (by simpa using f) h
    .exact s7 c d e b f h
   .exact s7 c d e b f h
def n7 {ops:Array Oper}{x y:Nat}{o:Oper}(d:ops[y]?=some o)(b:bE P o=false\/y=x):∀(c:List Nat) {l:Array Bool},(j3 P ops x c l).getD y true=l.getD y true
 |[],_=>rfl|j::c,l=>by
  unfold j3;split
  .rename_i g f;split
   .rename_i e;rw[n7 d b c];refine getD_set_ne true ?_;rintro rfl;rw[d]at f;cases f;rw[aA]at e;rcases b with b|rfl
    .rw[b]at e;cases e.1
    .simp at e
   .exact n7 d b c
  .exact n7 d b c
def Us {ops:Array Oper}{M:Array Bool}:∀{l:List Nat},IL P ops M l=true->∀i∈l,∀o,ops[i]?=some o->bE P o=true->M.getD i true=true
 |[],_,i,h=>by cases h
 |j::l,h,i,hi=>by
  simp only[IL,aA]at h;intro o b c;rcases cN.1 hi with rfl|hi
  .have:=h.1;rw[b]at this;simpa [c]using this
  .exact Us h.2 i hi o b c
def ahv {ops:Array Oper}{M:Array Bool}:∀{l:List Nat} {st:St},(∀i∈l,∀o,ops[i]?=some o->bE P o=true->M.getD i true=true)->gW P ops M l st=st
 |[],_,_=>rfl|i::l,st,h=>by
  have c:=ahv (st:=st) fun d e=>h d (jG _ e)
  unfold gW;split
  .rename_i o f;split
   .rename_i b _;rw[aA]at b;have:=h i py o f b.1;rw[this]at b;cases b.2
   .exact c
  .exact c
def ap4 {ops:Array Oper}{M:Array Bool}{i:Nat}(h:abK P C ops M i=true){c:Nat}{b:Oper}(d:ops[c]?=some b)(e:pA P C ops b=false):M.getD c true=true\/nA ops M i 3 b=true:=by unfold abK at h;rw[fq]at h;have:=h c (fV.2 (wZ.1 d).1);rw[d]at this;simpa only[e,wc,iS]using this
def Yo {ops:Array Oper}{M:Array Bool}{i n:Nat}(h:nA ops M i (n+1) o=true):∃e∈o.after,Region.binds .any e=true/\(e.on=i\/(M.getD e.on true=false/\∃d,ops[e.on]?=some d/\nA ops M i n d=true)):=by
 unfold nA at h;obtain⟨e,f,b⟩:=aeL.1 h;rw[aA,iS]at b;refine⟨e,f,b.1,?_⟩;rcases b.2 with h1|h1
 .exact .inl (by simpa using h1)
 .rw[aA]at h1;refine .inr ⟨by simpa using h1.1,?_⟩;have c:=h1.2;split at c
  .exact⟨_,by assumption,c⟩
  .cases c
def ahw {ops:Array Oper}{M R:Array Bool}{i:Nat}(g:∀d b,ops[d]?=some b->M.getD d true=false->R.getD d false=true->∀e∈b.after,Region.binds .any e=true->R.getD e.on false=true)(j:R.getD i false=false) :
  ∀(n d:Nat) (b:Oper),ops[d]?=some b->M.getD d true=false->R.getD d false=true->nA ops M i n b=true->False
 |0,_,_,_,_,_,h=>by simp[nA]at h
 |n+1,d,b,k,l,m,h=>by
  obtain⟨e,p,q,c⟩:=Yo h;have f:=g d b k l m e p q;rcases c with c|⟨c,s,t,u⟩
  .rw[c,j]at f;cases f
  .exact ahw g j n e.on s t c f u
def QT {ops:Array Oper}{M R l:Array Bool}{i:Nat}(j:∀d k,ops[d]?=some k->M.getD d true=false->R.getD d false=true->∀e∈k.after,Region.binds .any e=true->R.getD e.on false=true)(m:R.getD i false=false)(hs:Sup ops R l)(p:l.getD i false=false) :
  ∀(n c:Nat) (f:Oper),ops[c]?=some f->R.getD c false=false->l.getD c false=true->nA ops M i n f=true->False
 |0,_,_,_,_,_,h=>by simp[nA]at h
 |n+1,c,f,v,x,y,h=>by
  obtain⟨e,z,A,b⟩:=Yo h;have g:=hs.2.2 c f v x y e z A;rcases b with b|⟨b,q,s,t⟩
  .rw[b,p]at g;cases g
  .cases u:R.getD e.on false with
   |true=>exact ahw j m n e.on q s b u t|false=>exact QT j m hs p n e.on q s u g t
def k9 {ops:Array Oper}{nt:Nat}(h:q7 P ops nt=true){x:Nat}{o:Oper}(e:ops[x]?=some o)(i:bE P o=true){d:Tmp}(j:o.dst=some d):d<nt/\∀y b,ops[y]?=some b->y≠x->b.dst≠some d:=by
 unfold q7 at h;rw[aA]at h
 replace h:=h.2
 rw[fq]at h;have:=h x (fV.2 (wZ.1 e).1);rw[e]at this;simp only[i,aH,wc,aA,j]at this;refine⟨gq this.1,fun y b f k l=>?_⟩;have g:=this.2;rw[fq]at g;have:=g y (fV.2 (wZ.1 f).1);rw[f]at this;simp only[l]at this;have c:Nat.beq y x=false:=by
  cases c:Nat.beq y x with
  |true=>exact absurd (aJ c) k|false=>rfl
 rw[c]at this;simp[alv]at this
def RY {ops:Array Oper}{nt:Nat}(h:q7 P ops nt=true){x:Nat}{o:Oper}(d:ops[x]?=some o)(g:bE P o=true){y:Nat}{b:Oper}(f:ops[y]?=some b){t:Tmp}(i:b.dst=some t)(j:abJ o t=true) :
  bE P b=false/\∃e∈o.after,Region.binds .any e=true/\e.on=y:=by
 unfold q7 at h;rw[aA]at h
 replace h:=h.1
 unfold alx at h;rw[fq]at h;have:=h x (fV.2 (wZ.1 d).1);rw[d]at this;simp only[g,aH,wc]at this;rw[fq]at this;have:=this y (fV.2 (wZ.1 f).1);rw[f]at this;simp only[i,j,aH,wc,aA]at this;refine⟨by simpa using this.1,?_⟩;obtain⟨e,k,c⟩:=aeL.1 this.2;rw[aA]at c;exact⟨e,k,c.1,aJ c.2⟩
def unl (R:Array Bool)(n:Nat):Nat:=(List.range n).countP fun i=> !R.getD i true
def arI {p q:Nat->Bool}{i:Nat}(b:∀x,q x=true->p x=true)(c:p i=true)(d:q i=false):∀{l:List Nat},i∈l->l.countP q<l.countP p
 |[],h=>by cases h
 |j::l,h=>by
  have g:l.countP q<=l.countP p:=ayC fun x _ e=>b x e
  rcases cN.1 h with rfl|h
  .rw[Gj,Gj,c,d];simp;omega
  .have k:=arI b c d h;rw[Gj,Gj];cases f:q j with
   |false=>simp;omega|true=>rw[b j f];simp;omega
def atC {R:Array Bool}{n i:Nat}(b:i<n)(f:R.size=n)(c:R.getD i true=false):unl (R.setIfInBounds i true) n<unl R n:=by
 refine arI (i:=i) (fun x d=>?_) (by simp[c]) ?_ (fV.2 b)
 .by_cases e:i=x
  .subst e;simp[c]
  .rw[getD_set_ne true e]at d;exact d
 .have:(R.setIfInBounds i true).getD i true=true:=by simp[Od,aAA,f,b]
  simp[this]
def atD {R:Array Bool}{n i:Nat}(b:i<n)(c:R.getD i true=false):0<unl R n :=
 List.countP_pos_iff.2 ⟨i,fV.2 b,by simp[c]⟩
structure xx (P:Program) (C:FuncId->Option Any) (N:Nat) (ops:Array Oper) (hd0 hd1:Nat->Option (Bool×Obj)) (M R:Array Bool) (E:Nat->Option Nat) (a:Act):Prop where
 szM:M.size=ops.size
 szR:R.size=ops.size
 rel:∀i,R.getD i false=(M.getD i false || (E i).isSome)
 early:∀x g,E x=some g->M.getD x false=false/\∃o d obj,ops[x]?=some o/\bE P o=true/\o.dst=some d/\(aHE P C N o d/\alY P o a obj/\∀e∈o.after,Region.binds .any e=true->R.getD e.on false=true)/\a.tmps.getD d undef=mkF o g/\hd1 g=some (true,obj)/\hd0 g=none
 inj:∀x y g,E x=some g->E y=some g->x=y
 z:∀x ox d,ops[x]?=some ox->Hg P ox=true->ox.dst=some d->R.getD x false=true->∃g,a.tmps.getD d undef=.slice (some ⟨g,0,none⟩) 0 0
 hd:∀g v,hd0 g=some v->hd1 g=some v
section
variable {ops:Array Oper} {hd0 hd1:Nat->Option (Bool×Obj)} {M R:Array Bool} {E:Nat->Option Nat}
def ga {l:Array Bool}{i:Nat}(h:l.getD i true=false):l.getD i false=false:=by
 rcases Lh i l.size with b|b
 .rw[<-tN b];exact h
 .simp[ayA b,Od]
def QU {l:Array Bool}{i:Nat}(h:l.getD i false=false)(b:i<l.size):l.getD i true=false:=by rw[tN b];exact h
def Jl {l:Array Bool}{i:Nat}(b:i<l.size):(l.setIfInBounds i true).getD i false=true:=by simp[Od,aAA,b]
def xx.ready (b:xx P C N ops hd0 hd1 M R E a){j:Nat}(d:j∈Region.ready .any ops M)(f:E j=none):j∈Region.ready .any ops R:=by
 obtain⟨g,o,c,h⟩:=mem_ready.1 d;have hlt:j<ops.size:=(wZ.1 c).1;refine mem_ready.2 ⟨QU ?_ (by rw[b.szR];exact hlt),o,c,fun e i k=>?_⟩
 .rw[b.rel,ga g,f];rfl
 .rw[b.rel,h e i k,T3]
def xx.unM (c:xx P C N ops hd0 hd1 M R E a){j:Nat}(h:R.getD j true=false)(hlt:j<ops.size):M.getD j true=false/\E j=none:=by
 have b:=ga h;rw[c.rel]at b;simp only[ahd]at b;refine⟨QU b.1 (by rw[c.szM];exact hlt),?_⟩;cases d:E j with
 |none=>rfl
 |some g =>
  rw[d]at b;cases b.2
def xx.next (b:xx P C N ops hd0 hd1 M R E a){nt:Nat}(hfd:q7 P ops nt=true){j:Nat}{o:Oper}(f:ops[j]?=some o)(D:E j=none)(F:R.getD j true=false){a':Act}(l:∀t,o.dst≠some t->a'.tmps.getD t undef=a.tmps.getD t undef)
  (H:Hg P o=true->∀d,o.dst=some d->∃g,a'.tmps.getD d undef=.slice (some ⟨g,0,none⟩) 0 0) :
  xx P C N ops hd0 hd1 (M.setIfInBounds j true) (R.setIfInBounds j true) E a':=by
 have hlt:j<ops.size:=(wZ.1 f).1;refine⟨by simpa using b.szM,by simpa using b.szR,fun i=>?_,fun x g c=>?_,b.inj,fun x m d h n p c=>?_,b.hd⟩
 .by_cases q:j=i
  .subst q;rw[Jl (by rw[b.szR];exact hlt),Jl (by rw[b.szM];exact hlt)];rfl
  .rw[getD_set_ne false q,getD_set_ne false q];exact b.rel i
 .obtain⟨I,m,d,obj,s,u,A,k,K,L,O⟩:=b.early x g c;have B:j≠x:=by rintro rfl;rw[D]at c;cases c
  refine⟨by rw[getD_set_ne false B];exact I,m,d,obj,s,u,A,⟨k.1,k.2.1.same fun t Q=>l t fun S=>?_,fun e v y=>getD_set_true (k.2.2 e v y)⟩,?_,L,O⟩
  .obtain⟨_,e,v,y,T⟩:=RY hfd s u f S Q;have:=k.2.2 e v y;rw[T,ga F]at this;cases this
  rw[l d ((k9 hfd s u A).2 j o f B)];exact K
 .by_cases z:j=x
  .subst z;rw[f]at h;cases h;exact H n d p
  .rw[l d ((k9 hfd h (iA n) p).2 j o f z)];rw[getD_set_ne false z]at c;exact b.z x m d h n p c
def aD7 (n x:Nat):(Array.replicate n false).getD x false=false:=by rw[Od,Array.getElem?_replicate];split<;>rfl
def ay8 (a:Act)(o:Oper)(v:Value)(t:Tmp)(b:o.dst≠some t):(a.put o.dst v).tmps.getD t undef=a.tmps.getD t undef:=by
 cases c:o.dst with
 |none=>simp[Act.put]|some d=>exact mC (fun e=>b (by rw[c,e])) v
def aGl {f:St}(h:f=st\/∃c b g,st.get c=.v (.c (.bool b))/\f=st.put c (.v (.c (.bool g)))){x:Operand}{d j:Nat}(e:st.ac x=.ptr d j):f.ac x=.ptr d j:=by
 rcases h with rfl|⟨c,b,g,k,rfl⟩
 .exact e
 .cases x with
  |tmp s =>
   by_cases i:c=s
   .subst i;simp only[St.ac,St.dR,St.ev,k]at e;cases e
   .have:(st.put c (.v (.c (.bool g)))).ac (.tmp s)=st.ac (.tmp s):=by simp only[St.ac,St.dR,St.ev,St.get,St.put,aq,af i]
    rw[this];exact e
  |_=>exact e
def atE {k:St->Option U}(h:Inv w0 G st a w){t:TypeId}{x:Operand}(e:o.op=.load t x){d j:Nat}(f:st.ac x=.ptr d j)(c:fB P C (oH.Ll N) o st k=some r):alC P w0 G w d a o k r:=by
 simp only[fB,e]at c;split at c
 .rename_i l off g;split at c
  .rename_i i;split at c
   .exact aAO h t x e g i (b:=true) ‹_› (v:=.agg _) rfl f c
   .split at c
    .rename_i m _ y n;exact aAO h t x e g i (b:=false) m (v:=.c y) ⟨y,n,rfl⟩ f c
    .cases c
   .cases c
  .cases c
 .cases c
def awf {M:Array Bool}{t:Tmp}(h:ayL ops M t=true){j:Nat}{b:Oper}(c:ops[j]?=some b)(d:M.getD j true=false):b.dst≠some t:=by have:=fq.1 h j (fV.2 (wZ.1 c).1);rw[c]at this;dsimp only at this;rw[d,wc]at this;intro e;rw[e]at this;simp[alv]at this
def al2 {x:Option Tmp}{t:Tmp}(h:alv x (some t)=true):x=some t:=by
 cases x with
 |none=>cases h|some s=>rw[aJ (show Nat.beq s t=true from h)]
def al3 {M:Array Bool}{i:Nat}{ok:Nat->Bool}(h:IK P C ops M st i ok=true){c:Nat}{d:Oper}(n:ops[c]?=some d)(q:pA P C ops d=false):M.getD c true=true\/nA ops M i 3 d=true \/
  (∃b j,T7 C d=some b/\st.get b=.v (.c (.ptr j 0))/\ok j=true/\ayL ops M b=true)\/∃b x f,T7 C d=some b/\ops[x]?=some f/\bE P f=true/\QH f=true/\f.dst=some b/\M.getD x true=false/\∃e∈d.after,Region.binds .any e=true/\e.on=x:=by
 have:=fq.1 h c (fV.2 (wZ.1 n).1);rw[n]at this;dsimp only at this;rw[q,wc,iS,iS]at this;rcases this with (h1|h1)|h1
 .exact .inl h1
 .exact .inr (.inl h1)
 .refine .inr (.inr ?_);split at h1
  .rename_i b p;rw[iS]at h1;rcases h1 with h1|h1
   .rw[aA]at h1;obtain⟨g,l⟩:=h1;split at g
    .rename_i j s;exact .inl ⟨b,j,p,s,g,l⟩
    .cases g
   .obtain⟨x,_,k⟩:=alg.1 h1;split at k
    .rename_i f t;simp only[aA,Yc]at k;obtain⟨⟨⟨⟨g,l⟩,u⟩,v⟩,y⟩:=k;obtain⟨e,z,m⟩:=aeL.1 y;rw[aA]at m;exact .inr ⟨b,x,f,p,t,g,l,al2 u,v,e,z,m.1,aJ m.2⟩
    .cases k
  .cases h1
def awg {M:Array Bool}{i:Nat}(h:as9 P C ops M st i o=true):∃t x,o.op=.load t x/\((∃b off,st.ac x=.ptr b off/\IK P C ops M st i (fun d=> !Nat.beq d b)=true)\/∃id e off b,st.ac x=.Be id e off/\st.oG id=some b/\b.w=true/\IK P C ops M st i (fun _=>true)=true):=by
 unfold as9 at h;split at h
 .rename_i t x c;split at h
  .exact⟨t,x,c,.inl ⟨_,_,by assumption,h⟩⟩
  .split at h
   .rw[aA]at h;exact⟨t,x,c,.inr ⟨_,_,_,_,by assumption,by assumption,h.1,h.2⟩⟩
   .cases h
  .cases h
 .cases h
def aGm {f:St}(h:f=st\/∃c b g,st.get c=.v (.c (.bool b))/\f=st.put c (.v (.c (.bool g)))){x:Operand}{d k:Nat}{i:Int}(e:st.ac x=.Be d i k):f.ac x=.Be d i k/\∀id,f.oG id=st.oG id:=by
 rcases h with rfl|⟨c,b,g,l,rfl⟩
 .exact⟨e,fun _=>rfl⟩
 .refine⟨?_,fun _=>rfl⟩;cases x with
  |tmp s =>
   by_cases j:c=s
   .subst j;simp only[St.ac,St.dR,St.ev,l]at e;cases e
   .have:(st.put c (.v (.c (.bool g)))).ac (.tmp s)=st.ac (.tmp s):=by simp only[St.ac,St.dR,St.ev,St.get,St.put,aq,af j]
    rw[this];exact e
  |_=>exact e
def al4 (P:Program)(w0:eH)(w:World)(g:Nat)(a:Act)(o:Oper){U:Type}(k:St->Option U)(r:U):Prop :=
 ∃v c cy,(∀b:World,b.heap[g]?=w.heap[g]?->(execOp a.eval o).run P b=.ok (.value v) b)/\Inv w0 c cy (a.put o.dst v) w/\k cy=some r
def aAX {k:St->Option U}(h:Inv w0 G st a w){g:Nat}{v:AV}{u:Value}(f:iy G w st.bx st.bl v u)(i:st.pk o.dst v k=some r)(j:∀c:World,c.heap[g]?=w.heap[g]?->(execOp a.eval o).run P c=.ok (.value u) c):al4 P w0 w g a o k r:=by
 obtain⟨b,cy,l,m⟩:=w6 (K:=fun d e=>∃b cy,Inv w0 b cy d e/\k cy=some r) h f i fun b cy d e n p=>⟨b,cy,n,p⟩
 exact⟨u,b,cy,j,l,m⟩
def aAY {k:St->Option U}(h:Inv w0 G st a w)(t:TypeId)(x:Operand)(s:o.op=.load t x){l:List AC}{c g q:Nat}{vs:List Value}(z:a.eval x=.pointer (some ⟨g,q+c,none⟩))(L:cY w g q vs)(hrel:cg (bz G w st.bx st.bl) l vs)
  (O:Nat.beq (sH (P.cellsOf t) (sI c l)).length (P.cellsOf t)=true)
  {b:Bool} (A:XE P t=some b)
  {v:CV} (B:match b with|true=>v=.agg (sH (P.cellsOf t) (sI c l))|false=>∃y,sH (P.cellsOf t) (sI c l)=[y]/\v=.c y)
  (D:st.pk o.dst (.v v) k=some r):al4 P w0 w g a o k r:=by
 have e:=(hrel.drop c).take (P.cellsOf t);have F:cY w g (q+c) ((vs.drop c).take (P.cellsOf t)):=L.drop.take;have hlen:=e.len;have T:=aJ O;have H:∀d:World,d.heap[g]?=w.heap[g]?->cY d g (q+c) ((vs.drop c).take (P.cellsOf t)):=fun d f i u j=>by rw[cell_of_heap f];exact F i u j
 have n:=fun d f=>wm (P:=P) (H d f) (by omega) (.inr trivial) A
 obtain⟨i,Q⟩:=wo A;cases b with
 |true =>
  subst B;simp only[Q]at n;refine aAX (u:=.agg ((vs.drop c).take (P.cellsOf t)).toArray) h (v:=.v (.agg _)) ⟨_,rfl,e⟩ D fun d f=>?_
  have p:=n d f;unfold execOp;rw[s];simp[Instr.loadAt,Instr.sureAddr,z,p]
 |false =>
  obtain⟨y,S,rfl⟩:=B;rw[S]at e;obtain⟨u,j⟩:∃u,(vs.drop c).take (P.cellsOf t)=[u]:=by
   cases I:(vs.drop c).take (P.cellsOf t) with
   |nil=>rw[I]at e;exact e.elim
   |cons u m =>
    rw[I]at e;cases m with
    |nil=>exact⟨u,rfl⟩|cons _ _=>exact e.2.elim
  rw[j]at e F;refine aAX (u:=u) h (v:=.v (.c y)) e.1 D fun d f=>?_
  have p:=n d f;have K:=H d f 0 u (by rw[j];rfl);rw[NG]at K;unfold execOp;rw[s];simp[Instr.loadAt,Instr.sureAddr,z,p,K]
def atF {k:St->Option U}(h:Inv w0 G st a w){t:TypeId}{x:Operand}(e:o.op=.load t x){id j:Nat}{i:Int}(A:st.ac x=.Be id i j){b:fo}(B:st.oG id=some b)(D:b.w=true)(c:fB P C (oH.Ll N) o st k=some r) :
  ∃g,G.own g=some (.bl id)/\g<w.heap.size/\al4 P w0 w g a o k r:=by
 have hrel:=h.ac x;have m:=dA B;obtain⟨_,_,_,g,S,n,cap,F,T,f⟩:=(show bz G w st.bx st.bl (.Be id i j) (a.eval x) from by rw[<-A];exact hrel);have f:=f b m;obtain⟨rows,bm,H,_⟩:=(h.bl id b m).wr D;have p:=H g (by rw[F];rfl);refine⟨g,p,(h.own g _ p).2.1,?_⟩;simp only[fB,e]at c;split at c
 .rename_i l off I;obtain⟨K,q,W,d,s,u⟩:=Ln h hrel I;have L:K=g:=by
   rw[f]at d;injection d with d
   injection d with d
   injection d with d _ _
   exact d.symm
  subst L;split at c
  .rename_i z;split at c
   .exact aAY h t x e d s u z (b:=true) ‹_› (v:=.agg _) rfl c
   .split at c
    .rename_i O _ y Q;exact aAY h t x e d s u z (b:=false) O (v:=.c y) ⟨y,Q,rfl⟩ c
    .cases c
   .cases c
  .cases c
 .cases c
def xx.fresh (h:xx P C N ops hd0 hd1 M R E a){i:Nat}(j:i∈Region.ready .any ops R)(k:ops[i]?=some o)(t:Tmp)(l:Z6 o=some t)(c:Oi P ops o=true):∃g,a.tmps.getD t undef=.slice (some ⟨g,0,none⟩) 0 0:=by
 obtain⟨_,z,f,m⟩:=mem_ready.1 j;rw[k]at f;cases f;unfold Oi at c;rw[l]at c;obtain⟨x,_,b⟩:=alg.1 (show(List.range ops.size).any _=true from c);split at b
 .rename_i n p;simp only[aA]at b;obtain⟨⟨q,s⟩,u⟩:=b;obtain⟨e,v,d⟩:=aeL.1 u;rw[aA]at d;have y:=aJ d.2;have:=m e v d.1;rw[y]at this;exact h.z x n t p q (al2 s) this
 .cases b
def xx.dlt (_:xx P C N ops hd0 hd1 M R E a){nt:Nat}(hfd:q7 P ops nt=true)(b:a.tmps.size=nt){i:Nat}(c:ops[i]?=some o)(d:Tmp)(e:bE P o=true)(f:o.dst=some d):d<a.tmps.size:=by rw[b];exact(k9 hfd c e f).1
def awh {e:St}(h:e=st\/∃d b f,st.get d=.v (.c (.bool b))/\e=st.put d (.v (.c (.bool f))))(c:Ja st o=true):Ja e o=true:=by
 rcases h with rfl|⟨d,b,f,j,rfl⟩
 .exact c
 .cases g:o.op with
  |load t x =>
   simp only[Ja,g]at c ⊢;cases x with
   |const _=>exact c
   |tmp s =>
    by_cases i:d=s
    .subst i;simp only[St.ac,St.dR,St.ev,j]at c;cases c
    .have:(st.put d (.v (.c (.bool f)))).ac (.tmp s)=st.ac (.tmp s):=by simp only[St.ac,St.dR,St.ev,St.get,St.put,aq,af i]
     rw[this];exact c
   |_=>exact c
  |convert _ _ _=>simp[Ja,g]at c|_=>simp[Ja,g]
def ay9 (h:Inv w0 G st a w)(hs:aAE ops.toList st o=true):Region.wanted o (yielded ops a.tmps)=false:=by
 unfold aAE at hs;split at hs
 .cases hs
 .rename_i l T6 f;split at hs
  .rename_i m i;split at hs
   .rename_i c j;have d:=QS (tmps:=a.tmps) i j;have b:=h.ev (.tmp c);rw[show st.ev (.tmp c)=st.get c from rfl]at b;split at hs
    .rename_i e;rw[e]at b;rw[show a.tmps.getD c undef=.bool true from b]at d;simp[Region.wanted,f,d]
    .rename_i e;rw[e]at b;rw[show a.tmps.getD c undef=.bool false from b]at d;simp[Region.wanted,f,d]
    .rename_i e;rw[e]at b;obtain⟨k,g,n⟩:=b;have g:a.tmps.getD c undef=.tuple k:=g;rw[g]at d;simp[Region.wanted,f,d]
    .cases hs
   .cases hs
  .cases hs
def aAZ {nt:Nat}(f:xx P C N ops w0.hd hd1 M R E a)(e:Inv {w0 with hd:=hd1} G (gW P ops M (List.range ops.size) st) a w){x g:Nat}(q:E x=some g)(A:ops[x]?=some o){k:St->Option U}
  (H:fB P C (oH.Ll N) o (gW P ops M (List.range ops.size) st) k=some r) :
  ∃B l m,xx P C N ops w0.hd B (M.setIfInBounds x true) R (fun y=>if y=x then none else E y) a/\Inv {w0 with hd:=B} l m a w/\k m=some r/\∀b,G.own b=none->l.own b=none:=by
 have hlt:∀{i:Nat} {o:Oper},ops[i]?=some o->i<ops.size:=fun h=>(wZ.1 h).1
 obtain⟨qv,D,d,obj,F,qw,qx,⟨I,K,_⟩,L,O,Q⟩:=f.early x g q;rw[A]at F;cases F;obtain⟨S,qy,T⟩:=e.hd g true obj O;have W:Inv {w0 with hd:=fun c=>if c=g then none else hd1 c} G (gW P ops M (List.range ops.size) st) a w :=
  ⟨e.nw,e.rok,e.below,e.defers,e.size,e.sp,fun c b D n=>e.hd c b D (by
   dsimp only at n;split at n
   .cases n
   .exact n),e.tm,e.bx,e.bl,e.own⟩
 obtain⟨l,m,X,Y,Z⟩:=I W S (by simp) T K L H;have qa:xx P C N ops w0.hd (fun c=>if c=g then none else hd1 c) (M.setIfInBounds x true) R (fun y=>if y=x then none else E y) a:=by
  refine⟨by simpa using f.szM,f.szR,fun i=>?_,fun y c j=>?_,fun y z c j s=>?_,fun y qb qd qe qf qg qh=>?_,fun c v t=>?_⟩
  .by_cases u:i=x
   .subst u;rw[Jl (by rw[f.szM];exact hlt A),f.rel,q];simp
   .rw[getD_set_ne false (Ne.symm u),f.rel,af u]
  .by_cases p:y=x
   .rw[ag p]at j;cases j
   .rw[af p]at j;obtain⟨qi,qj,qk,ql,qm,qn,qo,qp,qq,qt,qu⟩:=f.early y c j;refine⟨by rw[getD_set_ne false (Ne.symm p)];exact qi,qj,qk,ql,qm,qn,qo,qp,qq,?_,qu⟩;have:c≠g:=by rintro rfl;exact p (f.inj y x c j q)
    rw[af this];exact qt
  .split at j
   .cases j
   .split at s
    .cases s
    .exact f.inj y z c j s
  .exact f.z y qb qd qe qf qg qh
  .have:c≠g:=by rintro rfl;rw[Q]at t;cases t
   rw[af this];exact f.hd c v t
 exact⟨_,l,m,qa,X,Y,Z⟩
def al5:∀(xs:List Nat) {M:Array Bool} {E:Nat->Option Nat} {hd1:Nat->Option (Bool×Obj)} {G:Gh} {st:St} {J:Array Bool->St->Option U},xs.Nodup->(∀x∈xs,(E x).isSome=true)->xx P C N ops w0.hd hd1 M R E a->Inv {w0 with hd:=hd1} G (gW P ops M (List.range ops.size) st) a w ->
  ata P C (oH.Ll N) ops xs M st J=some r->∃c d f j cy,xx P C N ops w0.hd f c R d a/\Inv {w0 with hd:=f} j (gW P ops c (List.range ops.size) cy) a w/\J c cy=some r/\(∀g,G.own g=none->j.own g=none)/\∀i,E i=none->d i=none
 |[],M,E,hd1,G,st,J,_,_,k,l,b=>⟨M,E,hd1,G,st,k,l,b,fun _ h=>h,fun _ h=>h⟩
 |x::xs,M,E,hd1,G,st,J,q,m,k,l,b=>by
  unfold ata at b;split at b
  .rename_i L s;obtain⟨g,t⟩:=iR.1 (m x py);obtain⟨O,Q,S,u,v,z,A⟩:=aAZ (nt:=0) k l t s b;have n:=alh.1 q;obtain⟨c,d,f,j,cy,B,D,F,H,I⟩:=al5 xs n.2 (fun y p=>by
    have K:y≠x:=fun e=>n.1 (by rw[<-e];exact p)
    rw[af K];exact m y (jG x p)) u (kJ _ v) z
   refine⟨c,d,f,j,cy,B,D,F,fun g h=>H g (A g h),fun i h=>I i ?_⟩;split
   .rfl
   .exact h
  .cases b
def aCD {x y:Option U}(h:aF2 x y=some r):x=some r/\y=some r:=by
 unfold aF2 at h;split at h
 .rename_i e;exact⟨h,by rw[<-e];exact h⟩
 .cases h
def al6:∀{l:List (Option U)},aAF l=some r->l≠[]/\∀x∈l,x=some r
 |[],h=>by cases h
 |[x],h=>⟨by simp,fun y c=>by rw[fA.1 c];exact h⟩
 |x::y::l,h=>by
  obtain⟨d,f⟩:=aCD (show aF2 x (aAF (y::l))=some r from h);refine⟨by simp,fun z b=>?_⟩;rcases cN.1 b with e|b
  .rw[e];exact d
  .exact(al6 f).2 z b
def aH4 {ops:Array Oper}{R:Array Bool}{i:Nat}{c:Oper}{X:Nat->Oper->Tmp->Prop}(hs:R.size=ops.size)(h:ops[i]?=some c)(j:bE P c=false):∀(x:Nat) (b:Oper) (t:Tmp),ops[x]?=some b->bE P b=true->QH b=true->b.dst=some t->R.getD x false=false->(R.setIfInBounds i true).getD x false=true->X x b t:=by
 intro x b t d f _ _ k g;exfalso;by_cases e:i=x
 .subst e;rw[h]at d;cases d;rw[j]at f;cases f
 .rw[getD_set_ne false e,k]at g;cases g
def aD8 (zA:∀f qy,C f=some qy->Oo P w0 f qy){Q:Exit->Act->World->Prop}(jk:∀c a a' w,Q (.panic c) a w->Q (.panic c) a' w)(hs:Region.noSelect ops=true){nt:Nat}(hfd:q7 P ops nt=true){k:St->Option U}(jl:ra w0 k r (Q .normal)) :
  ∀(s m n:Nat),m+n=s->∀{M R:Array Bool} {E:Nat->Option Nat} {hd1:Nat->Option (Bool×Obj)} {G:Gh} {st:St} {a:Act} {w:World},unl R ops.size<=n->a.tmps.size=nt->xx P C N ops w0.hd hd1 M R E a ->
   Inv {w0 with hd:=hd1} G (gW P ops M (List.range ops.size) st) a w->w5 P C (oH.Ll N) ops m M st k=some r->Fv P ops Q (SI P C ops G w a R) n R a w:=by
 intro s
 induction s using Nat.strongRecOn with
 |ind s xi =>
 intro m n hmn M R E hd1 G st a w jm qI j A O;have hlt:∀{i:Nat} {o:Oper},ops[i]?=some o->i<ops.size:=fun h=>(wZ.1 h).1
 have zB:Region.ready .any ops M=[]->ck (IL P ops M (List.range ops.size)) (k st)=some r->Fv P ops Q (SI P C ops G w a R) n R a w:=by
  intro qz O;obtain⟨xM,O⟩:=aU O;have zC:=fun i u=>Us xM i (fV.2 u)
  have jn:∀x,E x=none:=by
   intro x;cases qm:E x with
   |none=>rfl
   |some g =>
    obtain⟨qd,o,d,obj,T,qj,_⟩:=j.early x g qm;have:=zC x (hlt T) o T qj;rw[QU qd (by rw[j.szM];exact hlt T)]at this;cases this
  rw[ahv (fun i u o D hf=>zC i (fV.1 u) o D hf)]at A;have hI0:Inv w0 G st a w:=⟨A.nw,A.rok,A.below,A.defers,A.size,A.sp,fun g b o xj=>A.hd g b o (j.hd g _ xj),A.tm,A.bx,A.bl,A.own⟩;refine awd (List.eq_nil_iff_forall_not_mem.2 fun i u=>?_) (jl _ _ _ _ hI0 O) n;obtain⟨qd,o,D,qk⟩:=mem_ready.1 u;have:i∈Region.ready .any ops M:=by refine mem_ready.2 ⟨(j.unM qd (hlt D)).1,o,D,fun e F K=>?_⟩;have:=qk e F K;rw[j.rel,jn]at this;simpa using this
  rw[qz]at this;cases this
 cases m with
 |zero =>
  simp only[w5]at O;split at O
  .rename_i qz;exact zB qz O
  .cases O
 |succ m =>
  have hr0:=O;simp only[w5]at O;split at O
  .rename_i qz;exact zB qz O
  .rename_i i0 rest qz;have hCF:=fun f qy h=>A.aHF (zA f qy h:Oo P {w0 with hd:=hd1} f qy)
   split at O
   ·
    rename_i qg o hp;obtain⟨qd,D,qT,aJc,aJS⟩:=Ym hp;rw[<-qz]at qd;have zD:E qg=none:=by
     cases qm:E qg with
     |none=>rfl
     |some g =>
      obtain⟨_,zE,d,obj,T,qj,_⟩:=j.early qg g qm;rw[D]at T;cases T;rw[w9 qT]at qj;cases qj
    have xN:=j.ready qd zD;have qA:=(mem_ready.1 xN).1;have xO:pA P C ops o=true:=by unfold pA;rw[qT];rfl
    cases n with
    |zero=>exact absurd (atD (hlt D) qA) (by omega)
    |succ n =>
     have zF:=atC (hlt D) j.szR qA;have fin:∀{v:Value} {qK:Gh} {qB:St},Inv A.root qK qB (a.put o.dst v) w->w5 P C (oH.Ll N) ops m (M.setIfInBounds qg true) qB k=some r->(∃xP:World->Prop,YieldsIf P ops xP o v a/\∀W B,Sup ops R W->W.getD qg true=false->SI P C ops G w a R W B->xP B) ->
       Fv P ops Q (SI P C ops G w a R) (n+1) R a w:=by
      intro v qK qB ql qe ⟨xP,H,hS0⟩;obtain⟨xk,xQ,qW⟩:=A.alZ ql;have qt:=xi (m+n) (by omega) m n rfl (M:=M.setIfInBounds qg true) (R:=R.setIfInBounds qg true) (by omega) (by rw[<-qI];cases o.dst<;>simp[Act.put])
       (j.next hfd D zD qA (a':=a.put o.dst v) (fun t qa=>by
        cases hd:o.dst with
        |none=>simp[Act.put]|some d=>exact mC (fun e=>qa (by rw[hd,e])) v) fun qX=>absurd (iA qX) (by rw[w9 qT];simp)) (kJ _ xk) qe
      refine atA D (Region.noSelect_spec hs) (fun c a w hq=>jk c _ _ w hq) (fun l B=>SI.set D xO l B) n R a w ?_ xN H hS0 (SI.refl R R) (wu n (fun W B qL X=>?_) qt)
      .intro qY qZ qn qo xR aJT;exact Region.free_spec D aJc qY qZ qn qo ((j.unM xR (hlt qn)).1) aJT
      .exact SI.step j.szR ((SI.set D xO R w).2 (SI.refl R R)) (fun g I D=>(qW g I D).1) (fun t qa=>ay8 a o v t (qa qg o D (ga qA))) (aH4 j.szR D (w9 qT)) (Sup.set xN) qL X
     rcases Yl A.from O with ⟨qb,xm,xS,u,qh⟩|⟨qb,zG,xm,u,qh⟩
     .rcases aJS with (hro|aJd)|(aJU|hbx)
      .have aJV:Ja xm o=true:=awh xS hro;obtain⟨v,qK,qB,F,ql,qe⟩:=atz qT aJV u qh;exact fin ql qe ⟨_,.inl ⟨qb,F⟩,fun W B _ _ X=>X.2.1⟩
      .rw[ay9 A aJd]at qb;cases qb
      .obtain⟨v,qK,qB,F,ql,qe⟩:=aaj qT u qh;refine fin ql qe ⟨fun B=>Below w.heap.size w B,.inl ⟨qb,fun B xa=>F B (w7 xa)⟩,fun W B xb xT X=>X.2.2.1 fun c xW qu xX=>?_⟩;have l's:W.size=ops.size:=xb.1.symm.trans j.szR;rw[tN (by rw[l's];exact hlt qu),tN (by rw[j.szR];exact hlt qu)];rcases ap4 aJU qu xX with xY|xZ
       .have zH:R.getD c false=true:=by rw[j.rel,<-tN (by rw[j.szM];exact hlt qu),xY,T3]
        rw[zH,xb.2.1 c zH]
       .cases qm:R.getD c false with
        |true=>rw[xb.2.1 c qm]
        |false =>
         cases H:W.getD c false with
         |false=>rfl
         |true =>
          refine(QT (R:=R) (i:=qg) (fun d od hd za xn e F K=>?_) (ga qA) xb (ga xT) 3 c xW qu qm H xZ).elim;rw[j.rel,ga za,wc]at xn;obtain⟨g,I⟩:=iR.1 xn;obtain⟨_,od',_,_,xp,_,_,xq,_⟩:=j.early d g I;rw[hd]at xp;cases xp;exact xq.2.2 e F K
      .obtain⟨t,x,zI,aJe⟩:=awg hbx;have zK:∀{zz:Nat->Bool} {qM:Nat},IK P C ops M (gW P ops M (List.range ops.size) st) qg zz=true->qM<w.heap.size->G.own qM≠some .hid->(∀qp zb,zz qp=true->look (gW P ops M (List.range ops.size) st).bx qp=some zb->G.hb qp≠qM) ->
         ∀W B,Sup ops R W->W.getD qg true=false->SI P C ops G w a R W B->B.heap[qM]?=w.heap[qM]?:=by
        intro zz qM xr hg0 hnh qo W B xb xT X;refine X.2.2.2 qM hg0 fun c xW qu xX zc hcl=>?_
        rcases al3 xr qu xX with xY|xZ|⟨qN,qp,xE,hbb,cW,aJW⟩|⟨qN,y,S,xE,H,qO,qC,qD,hMy,hey⟩
        .have:R.getD c false=true:=by rw[j.rel,<-tN (by rw[j.szM];exact hlt qu),xY,T3]
         rw[this]at zc;cases zc
        .refine(QT (R:=R) (i:=qg) (fun d od hd za xn e F K=>?_) (ga qA) xb (ga xT) 3 c xW qu zc hcl xZ).elim;rw[j.rel,ga za,wc]at xn;obtain⟨g,I⟩:=iR.1 xn;obtain⟨_,od',_,_,xp,_,_,xq,_⟩:=j.early d g I;rw[hd]at xp;cases xp;exact xq.2.2 e F K
        .have zL:=A.ev (.tmp qN);rw[show(gW P ops M (List.range ops.size) st).ev (.tmp qN)=(gW P ops M (List.range ops.size) st).get qN from rfl,hbb]at zL;obtain⟨aH5,hvt⟩:=(show _/\_ from zL);obtain⟨xu,xv⟩:=iR.1 aH5;exact .inl ⟨qN,G.hb qp,xE,fun qY qZ qn qP=>awf aJW qn ((j.unM (QU qP (by rw[j.szR];exact hlt qn)) (hlt qn)).1),hvt,qo qp xu cW xv⟩
        .cases qv:R.getD y false with
         |false=>exact .inr ⟨qN,y,S,xE,H,qO,qC,qD,qv,hey⟩
         |true =>
          rw[j.rel,ga hMy,wc]at qv;obtain⟨g,I⟩:=iR.1 qv;obtain⟨_,oy',zd,obj,zM,_,qf,_,aJX,hh1,_⟩:=j.early y g I;rw[H]at zM;cases zM;rw[qD]at qf;cases qf;have hgh:G.own g=some .hid:=(A.hd g true obj hh1).1;refine .inl ⟨qN,g,xE,fun qY qZ qn qP=>?_,?_,fun e=>hnh (by rw[<-e];exact hgh)⟩
          .refine(k9 hfd H qO qD).2 qY qZ qn fun e=>?_
           subst e;rw[j.rel,I]at qP;simp at qP
          .rw[aJX];unfold QH at qC;unfold mkF;split at qC
           .rename_i ze;rw[ze]
           .cases qC
       rcases aJe with ⟨b,off,zN,xr⟩|⟨id,i,off,b,heo,hbk,hbw,xr⟩
       .obtain⟨v,qK,qB,F,ql,qe⟩:=atE u zI (aGl xS zN) qh;have hrel:=A.ac x;rw[zN]at hrel;obtain⟨aJf,_⟩:=hrel;obtain⟨zb,hlb⟩:=iR.1 aJf;obtain⟨_,_,_,zf,_⟩:=A.bx b zb hlb;have zg:=(A.own _ _ zf).2.1;refine fin ql qe ⟨fun B=>B.heap[G.hb b]?=w.heap[G.hb b]?,.inl ⟨qb,F⟩,zK xr zg (by rw[zf];simp) fun qp xu cW xv e=>?_⟩;obtain⟨_,_,_,xw,_⟩:=A.bx qp xu xv;rw[e,zf]at xw;injection xw with qQ
        injection qQ with qQ
        subst qQ;simp at cW
       .obtain⟨aJY,hbs⟩:=aGm xS heo;obtain⟨g,zO,zg,v,qK,qB,F,ql,qe⟩:=atF u zI aJY ((hbs id).trans hbk) hbw qh;refine fin ql qe ⟨fun B=>B.heap[g]?=w.heap[g]?,.inl ⟨qb,F⟩,zK xr zg (by rw[zO];simp) fun qp xu _ xv e=>?_⟩;obtain⟨_,_,_,xw,_⟩:=A.bx qp xu xv;rw[e,zO]at xw;injection xw with qQ
        cases qQ
     .exact fin u qh ⟨fun _=>True,.inr ⟨qb,rfl⟩,fun _ _ _ _ _=>trivial⟩
   .rename_i hpn;have zh:∀{B:World},w.heap.size<=B.heap.size->(∀g,g<w.heap.size->G.own g=none->B.heap[g]?=w.heap[g]?)->∀{i:Nat} {q:Oper},ops[i]?=some q->i∈Region.ready .any ops R->(pA P C ops q=true->Below w.heap.size w B)->atB C q a w B->SI P C ops G w a R (R.setIfInBounds i true) B:=by
     intro B qd T i q p u qj h4;refine⟨qd,T,fun xj=>?_,fun k hk xj=>?_⟩
     .cases xy:pA P C ops q with
      |true=>exact qj xy
      |false =>
       have:=xj i q p xy;rw[tN (by simp[j.szR,hlt p]),Jl (by rw[j.szR];exact hlt p),(mem_ready.1 u).1]at this;cases this
     .cases xy:pA P C ops q with
      |true=>exact(qj xy).block k hk
      |false =>
       rcases xj i q p xy (ga (mem_ready.1 u).1) (Jl (by rw[j.szR];exact hlt p)) with ⟨t,g,zi,_,zj,zk⟩|⟨t,y,S,_,_,_,_,_,e6,e,F,K,zl⟩
       .exact h4 t g k zi zj hk (Ne.symm zk)
       .obtain⟨_,zP,qE,qk⟩:=mem_ready.1 u;rw[p]at qE;cases qE;have:=qk e F K;rw[zl,e6]at this;cases this
    have ahead:alw P ops M (gW P ops M (List.range ops.size) st) (List.range ops.size)=true->∀Y,n=Y+1->∀(i:Nat) (q:Oper),i∈Region.ready .any ops R->ops[i]?=some q->bE P q=true ->
      wpOp P ops Q i (fun a' B=>SI P C ops G w a R (R.setIfInBounds i true) B/\Fv P ops Q (SI P C ops G w a R) Y (R.setIfInBounds i true) a' B) a w:=by
     intro xz Y zm i q u p L;subst zm;obtain⟨qi,zP,qE,qk⟩:=mem_ready.1 u;rw[p]at qE;cases qE;have zF:=atC (hlt p) j.szR qi;obtain⟨xA,xc⟩:=j.unM qi (hlt p);obtain⟨d,hd,zn,zo,aJg⟩:=QR (C:=C) (N:=N) L;have hpk:Lm P (gW P ops M (List.range ops.size) st) q=true:=by
      rcases al1 xz i (fV.2 (hlt p)) q p L xA with qb|hk
      .exfalso;obtain⟨e,F,K,xd,qw,xe,hMe⟩:=ay7 qb;have:=qk e F K;rw[j.rel,ga hMe,wc]at this;obtain⟨g,I⟩:=iR.1 this;obtain⟨_,oe',_,_,zQ,zR,_⟩:=j.early e.on g I;rw[qw]at zQ;cases zQ;rw[xe]at zR;cases zR
      .exact hk
     obtain⟨obj,zo,aJZ⟩:=zo A hpk;have zS:∀(y:Nat) (S:Oper),ops[y]?=some S->bE P S=true->(∀e∈S.after,Region.binds .any e=true->R.getD e.on false=true)->abJ S d=true->False:=by intro y S qR qO qD xR;obtain⟨_,e,F,K,zl⟩:=RY hfd qR qO p hd xR;have:=qD e F K;rw[zl,ga qi]at this;cases this
     obtain⟨aJ0,zT⟩:=k9 hfd p L hd;have xO:pA P C ops q=true:=by unfold pA;rw[L];simp
     unfold Go.wpOp;simp only[p];rw[show Region.wanted q (yielded ops a.tmps)=true by simp[Region.wanted,zn]];simp only[fX];refine .inl (Jd zo ?_);have xa:Below w.heap.size w (w.alloc obj):=⟨rfl,rfl,rfl,by simp,fun k hk=>Below.heap_alloc _ _ _ hk⟩;have qF:=zh xa.size (fun g I _=>xa.block g I) p u (fun _=>xa) (.below xa);have hI2:=(A.aJR obj).aJQ (aht p L xA hd _ st (fV.2 (hlt p))) (mkF q w.heap.size);have zp:(a.put q.dst (mkF q w.heap.size)).tmps.size=nt:=by rw[hd,<-qI];simp[Act.put]
     have zq:(a.put q.dst (mkF q w.heap.size)).tmps.getD d undef=mkF q w.heap.size:=by rw[hd];simp[Act.put,Od,qI,aJ0]
     have qG:xx P C N ops w0.hd (fun g=>if g=w.heap.size then some (true,obj) else hd1 g) M (R.setIfInBounds i true) (fun y=>if y=i then some w.heap.size else E y) (a.put q.dst (mkF q w.heap.size)):=by
      refine⟨j.szM,by simpa using j.szR,fun y=>?_,fun y g H=>?_,fun y z g H qH=>?_,fun y S zd qR qX qf qv=>?_,fun g v hv=>?_⟩
      .by_cases Z:y=i
       .subst Z;rw[Jl (by rw[j.szR];exact hlt p),ag rfl];simp
       .rw[getD_set_ne false (Ne.symm Z),j.rel,af Z]
      .by_cases Z:y=i
       .rw[ag Z]at H;cases H;subst Z;refine⟨ga xA,q,d,obj,p,L,hd,⟨aJg,aJZ.same fun t qa=>?_,fun e F K=>getD_set_true (qk e F K)⟩,zq,by simp,?_⟩
        .rw[hd];exact mC (fun e=>zS y q p L qk (by rw[<-e];exact qa)) _
        cases qH:w0.hd w.heap.size with
        |none=>rfl
        |some v =>
         obtain⟨b,ob⟩:=v;have:=(A.hd _ _ _ (j.hd _ _ qH)).2.1;omega
       .rw[af Z]at H;obtain⟨q1,S,zW,aJ1,zr,zX,zY,xF,q6,xf,q8⟩:=j.early y g H;refine⟨q1,S,zW,aJ1,zr,zX,zY,⟨xF.1,xF.2.1.same fun t qa=>?_,fun e F K=>getD_set_true (xF.2.2 e F K)⟩,?_,?_,q8⟩
        .rw[hd];exact mC (fun e=>zS y S zr zX xF.2.2 (by rw[<-e];exact qa)) _
        .have qo:zW≠d:=fun e=>zT y S zr Z (by rw[zY,e])
         rw[hd,mC qo];exact q6
        .have:g≠w.heap.size:=alp (A.hd _ _ _ xf).2.1;rw[af this];exact xf
      .by_cases Z:y=i
       .rw[ag Z]at H;cases H;by_cases xB:z=i
        .rw[Z,xB]
        .rw[af xB]at qH;obtain⟨_,_,_,_,_,_,_,_,_,xf,_⟩:=j.early z _ qH;exact absurd (A.hd _ _ _ xf).2.1 (T2 _)
       .rw[af Z]at H;by_cases xB:z=i
        .rw[ag xB]at qH;cases qH;obtain⟨_,_,_,_,_,_,_,_,_,xf,_⟩:=j.early y _ H;exact absurd (A.hd _ _ _ xf).2.1 (T2 _)
        .rw[af xB]at qH;exact j.inj y z g H qH
      .by_cases Z:y=i
       .subst Z;rw[p]at qR;cases qR;rw[hd]at qf;cases qf;exact⟨_,zq.trans (al0 qX _)⟩
       .rw[getD_set_ne false (Ne.symm Z)]at qv;have qo:zd≠d:=fun e=>zT y S qR Z (by rw[qf,e])
        rw[hd,mC qo];exact j.z y S zd qR qX qf qv
      .obtain⟨b,ob⟩:=v;have zZ:=j.hd g _ hv;have:g≠w.heap.size:=alp (A.hd _ _ _ zZ).2.1;rw[af this];exact zZ
     have qt:=xi (m+1+Y) (by omega) (m+1) Y rfl (M:=M) (R:=R.setIfInBounds i true) (by omega) zp qG (by rw[hd]at *;exact hI2) hr0;refine⟨qF,wu Y (fun W ja qL X=>SI.step j.szR qF (fun g I D=>?_) (fun t qa=>ay8 a q _ t (qa i q p (ga qi))) (fun y S t H qO qC qD xg qd=>?_) (Sup.set u) qL X) qt⟩
     .show(if g=w.heap.size then some Key.hid else G.own g)=none;rw[af (alp I)];exact D
     .by_cases e:i=y
      .subst e;rw[p]at H;cases H;rw[hd]at qD;cases qD;refine⟨⟨w.heap.size,bf _,zq.trans ?_⟩,fun qY qZ qn qP=>(k9 hfd p L hd).2 qY qZ qn fun e=>?_⟩
       .unfold QH at qC;unfold mkF;split at qC
        .rename_i ze;rw[ze]
        .cases qC
       .subst e;rw[Jl (by rw[j.szR];exact hlt p)]at qP;cases qP
      .rw[getD_set_ne false e,xg]at qd;cases qd
    have aJh:∀{xh:Array Bool} {xG:Nat->Option Nat} {qf:Nat->Option (Bool×Obj)} {xH:Gh} {cy:St},xx P C N ops w0.hd qf xh R xG a->Inv {w0 with hd:=qf} xH cy a w->(∀g,g<w.heap.size->G.own g=none->xH.own g=none)->∀Y,n=Y+1->∀(i:Nat) (q:Oper),i∈Region.ready .any ops R->ops[i]?=some q->bE P q=false->xG i=none ->
      QG P C (oH.Ll N) ops.toList q cy (fun st=>w5 P C (oH.Ll N) ops m (xh.setIfInBounds i true) st k)=some r ->
      wpOp P ops Q i (fun a' B=>SI P C ops G w a R (R.setIfInBounds i true) B/\Fv P ops Q (SI P C ops G w a R) Y (R.setIfInBounds i true) a' B) a w:=by
     intro xh xG qf xH cy qG xI zt Y zm i q u p L xc hr';subst zm;have aJ2:=fun f qy h=>xI.aHF (zA f qy h:Oo P {w0 with hd:=qf} f qy)
     have qi:=(mem_ready.1 u).1;have zF:=atC (hlt p) j.szR qi;unfold Go.wpOp;simp only[p];rcases Yl xI.from hr' with ⟨qb,xm,_,xC,qh⟩|⟨qb,zG,xm,xC,qh⟩
     .rw[qb];simp only[fX];refine .inl (Oper.wp_mono (fun a' B h'=>?_) (ay6 aJ2 xC qh (qG.fresh u p) (qG.dlt hfd qI p)));obtain⟨⟨⟨⟨qK,qB,ql,qe⟩,aJ3⟩,jb⟩,zp,jc⟩:=h';obtain⟨xk,xQ,qW⟩:=xI.alZ ql;have qF:=zh xQ (fun g I D=>(qW g I (zt g I D)).2) p u aJ3 jb.2;have qt:=xi (m+Y) (by omega) m Y rfl (M:=xh.setIfInBounds i true) (R:=R.setIfInBounds i true) (by omega) (zp.trans qI) (qG.next hfd p xc qi jc jb.1) (kJ _ xk) qe;exact⟨qF,wu Y (fun W ja qL X=>SI.step j.szR qF (fun g I D=>(qW g I (zt g I D)).1) (fun t qa=>jc t (qa i q p (ga qi))) (aH4 j.szR p L) (Sup.set u) qL X) qt⟩
     .rw[qb];simp only[aeJ,fW];obtain⟨xk,xQ,qW⟩:=xI.alZ xC;have qF:=zh (bf _) (fun g I D=>rfl) p u (fun _=>Below.refl _ w) (.below (Below.refl _ w));have qt:=xi (m+Y) (by omega) m Y rfl (M:=xh.setIfInBounds i true) (R:=R.setIfInBounds i true) (by omega) (by rw[<-qI];cases q.dst<;>simp[Act.put])
       (qG.next hfd p xc qi (a':=a.put q.dst undef) (fun t qa=>by
        cases hd:q.dst with
        |none=>simp[Act.put]|some d=>exact mC (fun e=>qa (by rw[hd,e])) undef) fun qX=>by obtain⟨_,_,hgd,_⟩:=QR (C:=C) (N:=N) (iA qX);simp[Region.wanted,hgd]at qb) (kJ _ xk) qh
      exact⟨qF,wu Y (fun W ja qL X=>SI.step j.szR qF (fun g I D=>(qW g I (zt g I D)).1) (fun t qa=>ay8 a q undef t (qa i q p (ga qi))) (aH4 j.szR p L) (Sup.set u) qL X) qt⟩
    have jd:∀(x i:Nat) (q:Oper),E x=none\/ops.size<=x->i∈Region.ready .any ops R->ops[i]?=some q->bE P q=false->i∈Region.ready .any ops (j3 P ops x (List.range ops.size) M):=by
     intro x i q qq u p L;obtain⟨qi,zP,qE,qk⟩:=mem_ready.1 u;rw[p]at qE;cases qE;obtain⟨xA,xc⟩:=j.unM qi (hlt p);refine mem_ready.2 ⟨?_,q,p,fun e F K=>?_⟩
     .rw[n7 p (.inl L)];exact xA
     .have:=qk e F K;rw[j.rel,iS]at this;rcases this with xD|hEe
      .exact xt _ xD
      .obtain⟨g,I⟩:=iR.1 hEe;obtain⟨_,xd,_,_,qw,xe,_⟩:=j.early e.on g I;refine s7 qw xe (fun e'=>?_) _ (by rw[j.szM];exact hlt qw) (fV.2 (hlt qw));rcases qq with qq|qq
       .rw[e',qq]at I;cases I
       .have:=hlt qw;omega
    split at O
    ·
     rename_i x o qm;obtain⟨qd,D,xM,xz⟩:=Yn qm;rw[<-qz]at qd;cases qq:E x with
     |some g =>
      obtain⟨T,zE,d,obj,qS,L,_⟩:=j.early x g qq;rw[D]at qS;cases qS;obtain⟨_,_,zn,_,_⟩:=QR (C:=C) (N:=N) L;have qh:fB P C (oH.Ll N) o (gW P ops M (List.range ops.size) st) (fun st=>w5 P C (oH.Ll N) ops m (M.setIfInBounds x true) st k)=some r:=by unfold QG at O;rw[zn]at O;exact O
      obtain⟨hd2,zG,xm,qG,xC,qe,aJ4⟩:=aAZ (nt:=nt) j A qq D qh;have qt:=xi (m+n) (by omega) m n rfl (M:=M.setIfInBounds x true) (R:=R) jm qI qG (kJ _ xC) qe;exact wu n (fun W B _ X=>⟨X.1,fun je hg' qS=>X.2.1 je hg' (aJ4 je qS),X.2.2⟩) qt
     |none =>
      have zu:=j.ready qd qq;have qA:=(mem_ready.1 zu).1;cases n with
      |zero=>exact absurd (atD (hlt D) qA) (by omega)
      |succ n =>
       refine⟨fun xg=>by(rw[xg]at zu;cases zu),fun i u=>?_⟩;obtain⟨_,q,p,_⟩:=mem_ready.1 u;cases L:bE P q with
       |true=>exact ahead xz n rfl i q u p L
       |false =>
        have hix:=arH xM i (jd x i q (.inl qq) u p L);subst hix;rw[D]at p;cases p;exact aJh j A (fun _ _ h=>h) n rfl i o u D L qq O
    ·
     obtain⟨jf,O⟩:=aU O;rw[aA]at jf;obtain⟨xz,hff⟩:=jf;obtain⟨qo,hbr⟩:=al6 O;obtain⟨i0,hi0⟩:∃i0,i0∈akL P ops M:=by
      cases hrn:akL P ops M with
      |nil=>rw[hrn]at qo;exact absurd rfl qo|cons i0 _=>exact⟨i0,py⟩
     obtain⟨zw,zx,qx,aH6⟩:=mem_ready.1 hi0;have xK:bE P zx=false:=by
      cases xK:bE P zx with
      |false=>rfl
      |true =>
       have:=s7 qx xK (alp (hlt qx)) (List.range ops.size) (by rw[j.szM];exact hlt qx) (fV.2 (hlt qx));rw[ga zw]at this;cases this
     have jg:R.getD i0 true=false:=by
      rw[n7 qx (.inl xK)]at zw;refine QU ?_ (by rw[j.szR];exact hlt qx);rw[j.rel,ga zw,wc];cases qm:E i0 with
      |none=>rfl
      |some g =>
       obtain⟨_,zE,_,_,qS,jh,_⟩:=j.early i0 g qm;rw[qx]at qS;cases qS;rw[xK]at jh;cases jh
     cases n with
     |zero=>exact absurd (atD (hlt qx) jg) (by omega)
     |succ n =>
      refine⟨fun xg=>?_,fun i u=>?_⟩
      .exfalso;have aJ5:∀(y:Nat) (S:Oper),ops[y]?=some S->bE P S=true->R.getD y false=true:=by
        intro y S H qO;cases qv:R.getD y false with
        |true=>rfl
        |false =>
         exfalso;have hy1:=j.unM (QU qv (by rw[j.szR];exact hlt H)) (hlt H);have:=fq.1 hff y (fV.2 (hlt H));rw[H]at this;dsimp only at this;rw[qO,hy1.1]at this;simp only[aH,wc]at this;have:y∈Region.ready .any ops R:=mem_ready.2 ⟨QU qv (by rw[j.szR];exact hlt H),S,H,fun e F K=>by have T:=Array.all_eq_true'.1 this e F;rw[K]at T;simp only[aH,wc]at T;rw[j.rel,T,T3]⟩
         rw[xg]at this;cases this
       have:i0∈Region.ready .any ops R:=mem_ready.2 ⟨jg,zx,qx,fun e F K=>by
        have T:=aH6 e F K;cases xD:M.getD e.on false with
        |true=>rw[j.rel,xD,T3]
        |false =>
         have zy:e.on<ops.size:=by
          rcases Lh e.on ops.size with h|h
          .exact h
          .exfalso;rw[Hj (ayA h),xD]at T;cases T
         obtain⟨xd,qw⟩:∃xd,ops[e.on]?=some xd:=⟨_,asS zy⟩;cases xe:bE P xd with
         |true=>exact aJ5 e.on xd qw xe
         |false =>
          exfalso;rw[<-tN (by rw[Hi,j.szM];exact zy),n7 qw (.inl xe),tN (by rw[j.szM];exact zy),xD]at T;cases T⟩
       rw[xg]at this;cases this
      .obtain⟨_,q,p,qk⟩:=mem_ready.1 u;cases L:bE P q with
       |true=>exact ahead xz n rfl i q u p L
       |false =>
        have hnf:i∈akL P ops M:=jd ops.size i q (.inr (bf _)) u p L;have qj:=hbr _ (Ep.2 ⟨i,hnf,rfl⟩);rw[p]at qj;dsimp only at qj;have xc:E i=none:=(j.unM (mem_ready.1 u).1 (hlt p)).2;obtain⟨xh,xG,qf,xH,cy,zi,qQ,zj,zk,e5⟩:=al5 (aDK P ops M q) (List.nodup_range.filter _) (fun y H=>by
         obtain⟨_,xL⟩:=List.mem_filter.1 H;split at xL
         .rename_i S qR;simp only[aA,Yc]at xL;obtain⟨⟨_,xq⟩,h6⟩:=xL;obtain⟨e,F,K⟩:=aeL.1 h6;rw[aA]at K;have ji:=qk e F K.1;rw[aJ K.2,j.rel,ga xq,wc]at ji;exact ji
         .cases xL) j (kJ _ A) qj
        exact aJh zi qQ (fun g _ h=>zk g h) n rfl i q u p L (e5 i xc) zj
def ap5 (j:∀f e,C f=some e->Oo P w0 f e){Q:Exit->Act->World->Prop}(l:∀c a m w,Q (.panic c) a w->Q (.panic c) m w)(hs:Region.noSelect ops=true)(hfd:q7 P ops st.nt=true){k:St->Option U}(n:ra w0 k r (Q .normal))
  (h:Inv w0 G st a w) (p:w5 P C (oH.Ll N) ops ops.size (Array.replicate ops.size false) st k=some r):wpAny P .any ops Q ops.size (Array.replicate ops.size false) a w:=by
 refine alX _ _ _ _ (aD8 (hd1:=w0.hd) (E:=fun _=>none) j l hs hfd n _ _ _ rfl ?_ h.size ⟨by simp,by simp,fun i=>(by simp),fun x g b=>(by cases b),fun x y g b=>(by cases b),fun x q d _ _ _ b=>absurd b (by rw[aD7];simp),fun _ _ h=>h⟩ (kJ _ h) p);refine bZ List.countP_le_length ?_;simp
end
end
end Go.Am
