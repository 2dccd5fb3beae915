/- No condition. -/
import Derived.Test.YtpkabclplaibaaaGreatDoorQwAmDraw
import Derived.Test.YtpkabclplaibaaaGreatDoorQwAmKeep
import Derived.OrdersHeld
set_option linter.all false
namespace Go.Am
open Go.RowKit
variable [ei]
section
variable {N:Nat} {P:Program} {C:FuncId->Option Any} {w0:dY} {w:World} {G:Gh} {st:St} {a:Act} {U:Type} {r:U} {o:Oper}
def Sup (ops:Array Oper)(l b:Array Bool):Prop :=
 l.size=b.size/\(∀i,l.getD i false=true->b.getD i false=true) /\
  ∀i o,ops[i]?=some o->l.getD i false=false->b.getD i false=true->∀e∈o.after,Region.binds .any e=true->b.getD e.on false=true
def Sup.refl (ops:Array Oper)(l:Array Bool):Sup ops l l:=⟨rfl,fun _ h=>h,fun _ _ _ h b=>by rw[h]at b;cases b⟩
def Sup.trans {ops:Array Oper}{a b c:Array Bool}(h:Sup ops a b)(k:Sup ops b c):Sup ops a c :=
 ⟨h.1.trans k.1,fun i l=>k.2.1 i (h.2.1 i l),fun i o d m n e f g=>by
  cases j:b.getD i false with
  |true=>exact k.2.1 _ (h.2.2 i o d m j e f g)|false=>exact k.2.2 i o d j n e f g⟩
def Sup.set {ops:Array Oper}{l:Array Bool}{i:Nat}(hi:i∈Region.ready .any ops l):Sup ops l (l.setIfInBounds i true):=by
 refine⟨by simp,fun _ h=>getD_set_true h,fun f o g j b e k m=>?_⟩;by_cases c:i=f
 .subst c;obtain⟨_,p,d,n⟩:=mem_ready.1 hi;rw[g]at d;cases d;exact getD_set_true (n e k m)
 .rw[getD_set_ne false c,j]at b;cases b
def tI {l:Array Bool}{i:Nat}(h:i<l.size):l.getD i true=l.getD i false:=by simp[Oc,h]
def FB (P:Program)(ops:Array Oper)(Q:Exit->Act->World->Prop)(S:Array Bool->World->Prop):Nat->Array Bool->Act->World->Prop
 |0,l,a,w=>Region.ready .any ops l=[]/\Q .normal a w
 |n+1,l,a,w =>
  (Region.ready .any ops l=[]->Q .normal a w) /\
  ∀i∈Region.ready .any ops l,wpOp P ops Q i (fun c b=>S (l.setIfInBounds i true) b/\FB P ops Q S n (l.setIfInBounds i true) c b) a w
def akd {ops:Array Oper}{Q:Exit->Act->World->Prop}{S:Array Bool->World->Prop}:∀(n:Nat) (l:Array Bool) (a:Act) (w:World),FB P ops Q S n l a w->wpAny P .any ops Q n l a w
 |0,_,_,_,h=>h|n+1,_,_,_,h=>⟨h.1,fun i b=>wpOp_mono (fun c d e=>akd n _ c d e.2) (h.2 i b)⟩
def vY {ops:Array Oper}{Q:Exit->Act->World->Prop}{S e:Array Bool->World->Prop}:∀(n:Nat) {l:Array Bool} {a:Act} {w:World},(∀b c,Sup ops l b->e b c->S b c)->FB P ops Q e n l a w->FB P ops Q S n l a w
 |0,_,_,_,_,h=>h|n+1,l,_,_,f,h=>⟨h.1,fun i d=>wpOp_mono (fun k c g=>⟨f _ _ (Sup.set d) g.1,vY n (fun b c j=>f b c ((Sup.set d).trans j)) g.2⟩) (h.2 i d)⟩
def atA {ops:Array Oper}{Q:Exit->Act->World->Prop}{S:Array Bool->World->Prop}{l:Array Bool}{a:Act}{w:World}(b:Region.ready .any ops l=[])(h:Q .normal a w):∀n,FB P ops Q S n l a w
 |0=>⟨b,h⟩|_+1=>⟨fun _=>h,by rw[b];simp⟩
def arf {ops:Array Oper}{Q:Exit->Act->World->Prop}{S:Array Bool->World->Prop}{F:World->Prop}{i:Nat}{g:Oper}{v:Value}(hi:ops[i]?=some g)
  (I:∀(j:Nat) (o:Oper) cs b,ops[j]?=some o->o.op≠.select cs b) (Y:∀c a w,Q (.panic c) (a.put g.dst v) w->Q (.panic c) a w) (z:∀l w,S (l.setIfInBounds i true) w↔S l w) :
  ∀(u:Nat) (l:Array Bool) (a:Act) (w:World),
   (∀j m,ops[j]?=some m->j≠i->l.getD j true=false->(∀e∈m.after,Region.binds .any e=true->e.on≠i)->g.apart ops m=true) ->
   i∈Region.ready .any ops l->YieldsIf P ops F g v a->(∀p q,Sup ops l p->p.getD i true=false->S p q->F q)->S l w ->
   FB P ops Q S u (l.setIfInBounds i true) (a.put g.dst v) w->FB P ops Q S (u+1) l a w:=by
 intro u
 induction u with
 |zero =>
  intro l a w _ d x y s H;refine⟨fun h=>(by rw[h]at d;cases d),fun j t=>?_⟩;by_cases f:j=i
  .subst f;exact x.wpOp hi (y l w (Sup.refl ops l) (mem_ready.1 d).1 s) ⟨(z l w).2 s,H⟩
  .have:=ready_mono t f;rw[H.1]at this;cases this
 |succ u Z =>
  intro l a w K d x y s H;refine⟨fun h=>(by rw[h]at d;cases d),fun j t=>?_⟩;by_cases f:j=i
  .subst f;exact x.wpOp hi (y l w (Sup.refl ops l) (mem_ready.1 d).1 s) ⟨(z l w).2 s,H⟩
  .have n:=H.2 j (ready_mono t f);obtain⟨L,m,A,qd⟩:=mem_ready.1 t;have qe:∀e∈m.after,Region.binds .any e=true->e.on≠i:=fun e qf qg qh=>by
    have n:=qd e qf qg;have O:=(mem_ready.1 d).1;rw[qh]at n;rcases Rr i l.size with B|B
    .rw[tI B]at O;rw[O]at n;cases n
    .simp[av2 B]at n
   have qi:=wpOp_putIf A (K j m A f L qe) (fun cs b=>I i g cs b hi) (fun cs b=>I j m cs b A) Y x n;have qj:∀k ok,ops[k]?=some ok->k≠i->(l.setIfInBounds j true).getD k true=false ->
     (∀e∈ok.after,Region.binds .any e=true->e.on≠i)->g.apart ops ok=true:=fun k ok qk ql T qm=>by
    refine K k ok qk ql ?_ qm;by_cases W:j=k
    .subst W;exact L
    .rw[getD_set_ne true W]at T;exact T
   refine wpOp_mono (fun qn q D=>?_) qi;have X:S (l.setIfInBounds j true) q:=by have:=D.2.1;rw[Array.setIfInBounds_comm _ _ (Ne.symm f)]at this;exact(z _ _).1 this
   refine⟨X,Z (l.setIfInBounds j true) qn q qj (ready_mono d (Ne.symm f)) D.1 (fun p qo qp=>y p qo ((Sup.set t).trans qp)) X ?_⟩;rw[Array.setIfInBounds_comm _ _ f];exact D.2.2
def Off (C:FuncId->Option Any)(ops:Array Oper)(a:Act)(d:Array Bool)(k:Nat)(e:Oper):Prop :=
 ∃t g,TC C e=some t/\(∀b c,ops[b]?=some c->d.getD b false=false->c.dst≠some t)/\a.tmps.getD t undef=.pointer (some ⟨g,0,none⟩)/\g≠k
def FrB (P:Program)(C:FuncId->Option Any)(ops:Array Oper)(d:Array Bool)(c:Oper):Prop :=
 ∃t x b,TC C c=some t/\ops[x]?=some b/\bz P b=true/\Qg b=true/\b.dst=some t/\d.getD x false=false/\∃e∈c.after,Region.binds .any e=true/\e.on=x
def SI (P:Program)(C:FuncId->Option Any)(ops:Array Oper)(G:Gh)(w:World)(a:Act)(d l:Array Bool)(w':World):Prop :=
 w.heap.size<=w'.heap.size/\(∀g,g<w.heap.size->G.own g=none->w'.heap[g]?=w.heap[g]?) /\
  ((∀c b,ops[c]?=some b->px P C ops b=false->l.getD c true=d.getD c true)->Below w.heap.size w w') /\
  ∀k,k<w.heap.size->(∀c b,ops[c]?=some b->px P C ops b=false->d.getD c false=false->l.getD c false=true->Off C ops a d k b\/FrB P C ops d b)->w'.heap[k]?=w.heap[k]?
def SI.refl {ops:Array Oper}(b l:Array Bool):SI P C ops G w a b l w:=⟨bh _,fun _ _ _=>rfl,fun _=>Below.refl _ w,fun _ _ _=>rfl⟩
def SI.set {ops:Array Oper}{n:Array Bool}{i:Nat}{p:Oper}(hi:ops[i]?=some p)(s:px P C ops p=true)(l:Array Bool)(w':World):SI P C ops G w a n (l.setIfInBounds i true) w'↔SI P C ops G w a n l w':=by
 have ne:∀c b,ops[c]?=some b->px P C ops b=false->i≠c:=by intro c b d e;rintro rfl;rw[hi]at d;cases d;rw[s]at e;cases e
 have key:∀c b,ops[c]?=some b->px P C ops b=false->(l.setIfInBounds i true).getD c true=l.getD c true:=fun c b d e=>getD_set_ne true (ne c b d e)
 have q:∀c b,ops[c]?=some b->px P C ops b=false->(l.setIfInBounds i true).getD c false=l.getD c false:=fun c b d e=>getD_set_ne false (ne c b d e)
 refine⟨fun h=>⟨h.1,h.2.1,fun f=>h.2.2.1 fun c b d e=>(key c b d e).trans (f c b d e),fun k g f=>h.2.2.2 k g fun c b d e j m=>f c b d e j (by rw[<-q c b d e];exact m)⟩,
  fun h=>⟨h.1,h.2.1,fun f=>h.2.2.1 fun c b d e=>((key c b d e).symm.trans (f c b d e)),fun k g f=>h.2.2.2 k g fun c b d e j m=>f c b d e j (by rw[q c b d e];exact m)⟩⟩
def SI.step {ops:Array Oper}{f d y:Array Bool}{w1 S:World}{T:Gh}{F:Act}(Y:f.size=ops.size)(h:SI P C ops G w a f d w1)(Z:∀g,g<w.heap.size->G.own g=none->T.own g=none)
  (qd:∀t,(∀i l,ops[i]?=some l->f.getD i false=false->l.dst≠some t)->F.tmps.getD t undef=a.tmps.getD t undef) (qe:∀x m t,ops[x]?=some m->bz P m=true->Qg m=true->m.dst=some t->f.getD x false=false->d.getD x false=true->(∃g,w.heap.size<=g/\F.tmps.getD t undef=.pointer (some ⟨g,0,none⟩))/\∀i l,ops[i]?=some l->d.getD i false=false->l.dst≠some t)
  (H:Sup ops f d) (I:Sup ops d y) (z:SI P C ops T w1 F d y S):SI P C ops G w a f y S:=by
 refine⟨aU h.1 z.1,fun g K W=>(z.2.1 g (Ew K h.1) (Z g K W)).trans (h.2.1 g K W),fun q=>?_,fun k s q=>?_⟩
 .have mid:∀c e,ops[c]?=some e->px P C ops e=false->d.getD c true=f.getD c true:=by
   intro c e b j;have hlt:c<ops.size:=(sC.1 b).1;have L:=q c e b j;have qf:d.size=ops.size:=H.1.symm.trans Y;have qn:y.size=ops.size:=I.1.symm.trans qf;rw[tI (by omega),tI (by omega)]at L ⊢;cases n:f.getD c false with
   |true=>exact H.2.1 c n
   |false =>
    cases qg:d.getD c false with
    |false=>rfl
    |true =>
     rw[I.2.1 c qg,n]at L;cases L
  have p:=h.2.2.1 mid;have u:=z.2.2.1 fun c e b j=>(q c e b j).trans (mid c e b j).symm
  exact⟨u.os.trans p.os,u.tape.trans p.tape,u.output.trans p.output,aU p.size u.size,fun k s=>(u.block k (Ew s p.size)).trans (p.block k s)⟩
 .have aG0:∀c,d.getD c false=false->f.getD c false=false:=by
   intro c b;cases n:f.getD c false with
   |false=>rfl|true=>rw[H.2.1 c n]at b;cases b
  refine(z.2.2.2 k (Ew s h.1) fun c e b j O Q=>?_).trans (h.2.2.2 k s fun c e b j O Q=>q c e b j O (I.2.1 c Q));rcases q c e b j (aG0 c O) Q with ⟨t,g,A,v,B,D⟩|⟨t,x,m,A,v,B,D,X,qh,qi⟩
  .exact .inl ⟨t,g,A,fun i l qj qk=>v i l qj (aG0 i qk),(qd t v).trans B,D⟩
  .cases n:d.getD x false with
   |false=>exact .inr ⟨t,x,m,A,v,B,D,X,n,qi⟩
   |true =>
    obtain⟨⟨g,qo,ql⟩,qm⟩:=qe x m t v B D X qh n;exact .inl ⟨t,g,A,qm,ql,by omega⟩
def Inv.azX (h:Inv w0 G st a w){d g:Nat}(z:look st.bx d=none)(qg:d<st.nt)(p:G.own g=some .hid)(K:w0.hd g=none){cs:Array Value}{e:TypeId}(L:w.heap[g]?=some (.cells cs e (0,0))){l:List AC}
  (O:bY (bo G w st.bx st.bl) l cs.toList) (Q:a.tmps.getD d undef=.pointer (some ⟨g,0,none⟩)) :
  Inv w0 (G.box d g) {(st.put d (.v (.c (.ptr d 0)))) with bx:=(d,l)::st.bx} a w:=by
 have q:ajP G w (G.box d g) w:=⟨rfl,rfl,bh _,fun b D A=>⟨by
  have:b≠g:=by rintro rfl;rw[p]at A;cases A
  simp[Gh.box,this,A],rfl⟩⟩
 have S:∀x,(look st.bx x).isSome=true->x≠d:=by rintro x c rfl;rw[z]at c;cases c
 have c:jL G st.bx st.bl (G.box d g) ((d,l)::st.bx) st.bl:=by refine⟨fun x c=>⟨l4 _ trivial c,by simp[Gh.box,S x c]⟩,fun id z=>⟨z,rfl,fun T W=>⟨T,W,rfl⟩⟩⟩
 refine⟨h.nw,h.rok,h.below,h.defers,h.size,gu.kX q c h.sp,fun f b o i=>?_,fun t v s=>?_,fun x m i=>?_,fun id b D=>?_,fun f k y=>?_⟩
 .obtain⟨u,j,n⟩:=h.hd f b o i;refine⟨?_,j,n⟩;have:f≠g:=by rintro rfl;rw[K]at i;cases i
  simp only[Gh.box,this,fG];exact u
 .simp only[St.put,ar]at s;by_cases F:d=t
  .subst F;rw[ak rfl]at s;cases s;rw[Q];exact⟨by simp[ar],by simp[Gh.box]⟩
  .rw[ag F]at s;exact gu.kX q c (h.tm t v s)
 .simp only[ar]at i;by_cases B:d=x
  .subst B;rw[ak rfl]at i;cases i;exact⟨cs,e,by simpa [Gh.box]using L,by simp[Gh.box],O.imp fun _ _=>bo.kX q c⟩
  .rw[ag B]at i;obtain⟨X,Y,u,j,n⟩:=h.bx x m i;have H:x≠d:=fun e=>B e.symm
   have Z:G.hb x≠g:=by intro qd;rw[qd,p]at j;cases j
   exact⟨X,Y,by simpa [Gh.box,H]using u,by simp[Gh.box,H,Z,j],n.imp fun _ _=>bo.kX q c⟩
 .refine(h.bl id b D).kX q rfl fun qh f qi bf=>⟨?_,rfl⟩
  have:f≠g:=by rintro rfl;rw[p]at bf;cases bf
  simp[Gh.box,this,bf]
 .by_cases I:f=g
  .subst I;simp only[Gh.box,gr]at y;cases y;exact⟨(h.own f _ p).1,(h.own f _ p).2.1,by simp[ar],by simp[Gh.box]⟩
  .simp only[Gh.box,I,fG]at y;obtain⟨u,j,n⟩:=h.own f k y;refine⟨u,j,?_⟩;cases k with
   |hid=>trivial
   |bx x =>
    obtain⟨qe,qf⟩:=c.bx x n.1;exact⟨qe,by rw[qf];exact n.2⟩
   |bl id=>exact n
def Gh.rowAt (G:Gh)(id g:Nat)(v:Value):Gh :=
 {nw:=G.nw,ok:=G.ok,hb:=G.hb,hv:=fun x=>if x=id then v else G.hv x,own:=fun x=>if x=g then some (.bl id) else G.own x}
def Inv.azY (h:Inv w0 G st a w){d g:Nat}(W:look st.bl (d*64)=none)(qo:d<st.nt)(q:G.own g=some .hid)(X:w0.hd g=none){e:TypeId}{cs:List Value}(Y:w.heap[g]?=some (.cells cs.toArray e (0,0))){u:Ty}(Z:0<u.n){n:Nat}{xs:List u.D}{f:Bool}
  (I:xs.length=n) (D:cs.length=xs.length*u.n) (qd:n<=maxLen) (qe:et w (RO G f) u cs xs)
  (qf:a.tmps.getD d undef=.slice (some ⟨g,0,none⟩) n n) :
  Inv w0 (G.rowAt (d*64) g (.slice (some ⟨g,0,none⟩) n n)) {(st.put d (.v (.c (.own (d*64) none)))) with bl:=(d*64,some ⟨e,u,xs,f,true⟩)::st.bl} a w:=by
 have s:ajP G w (G.rowAt (d*64) g (.slice (some ⟨g,0,none⟩) n n)) w:=⟨rfl,rfl,bh _,fun b p F=>⟨by
  have:b≠g:=by rintro rfl;rw[q]at F;cases F
  simp[Gh.rowAt,this,F],rfl⟩⟩
 have K:∀x,(look st.bl x).isSome=true->x≠d*64:=by rintro x c rfl;rw[W]at c;cases c
 have c:jL G st.bx st.bl (G.rowAt (d*64) g (.slice (some ⟨g,0,none⟩) n n)) st.bx ((d*64,some ⟨e,u,xs,f,true⟩)::st.bl):=by refine⟨fun x c=>⟨c,rfl⟩,fun id c=>⟨l4 _ trivial c,by simp[Gh.rowAt,K id c],fun qg L=>?_⟩⟩;rw[ar,ag (fun e=>K id c e.symm)]at L;exact⟨qg,L,rfl⟩
 refine⟨h.nw,h.rok,h.below,h.defers,h.size,gu.kX s c h.sp,fun i b o y=>?_,fun t v z=>?_,fun x m y=>?_,fun id b p=>?_,fun i k B=>?_⟩
 .obtain⟨A,j,l⟩:=h.hd i b o y;refine⟨?_,j,l⟩;have:i≠g:=by rintro rfl;rw[X]at y;cases y
  simp only[Gh.rowAt,this,fG];exact A
 .simp only[St.put,ar]at z;by_cases O:d=t
  .subst O;rw[ak rfl]at z;cases z;rw[qf];exact⟨by simp[ar],⟨some ⟨g,0,none⟩,n,n,by simp[Gh.rowAt]⟩,by simp[Gh.rowAt]⟩
  .rw[ag O]at z;exact gu.kX s c (h.tm t v z)
 .obtain⟨qh,qi,A,j,l⟩:=h.bx x m y;have qj:G.hb x≠g:=by intro qk;rw[qk,q]at j;cases j
  exact⟨qh,qi,A,by simp[Gh.rowAt,qj,j],l.imp fun _ _=>bo.kX s c⟩
 .simp only[ar]at p;by_cases H:d*64=id
  .subst H;rw[ak rfl]at p;cases p;refine⟨fun _=>⟨cs,⟨D,.inr ⟨g,n,cs.toArray,by simp[Gh.rowAt,I],a7 _,Y,by show xs.length<=n;omega,qd,by simp[D,I],?_⟩⟩,fun i Q=>?_,qe.kX s⟩,(fun S=>by cases S),Z⟩
   .show List.take (xs.length*u.n) cs.toArray.toList=cs;rw[<-D];simp
   .simp only[Gh.rowAt,gr,Value.ownBlock]at Q ⊢;cases Q;simp
  .rw[ag H]at p;have ql:id≠d*64:=fun e=>H e.symm
   refine(h.bl id b p).kX s (by simp[Gh.rowAt,ql]) fun S i qp bf=>⟨?_,rfl⟩
   have:i≠g:=by rintro rfl;rw[q]at bf;cases bf
   simp[Gh.rowAt,this,bf]
 .by_cases T:i=g
  .subst T;simp only[Gh.rowAt,gr]at B;cases B;exact⟨(h.own i _ q).1,(h.own i _ q).2.1,by simp[ar],by simp[Gh.rowAt,Value.ownBlock]⟩
  .simp only[Gh.rowAt,T,fG]at B;obtain⟨A,j,l⟩:=h.own i k B;refine⟨A,j,?_⟩;cases k with
   |hid=>trivial|bx x=>exact l
   |bl id =>
    obtain⟨qm,qn,_⟩:=c.bl id l.1;exact⟨qm,by rw[qn];exact l.2⟩
def mi {d t:Nat}(h:t≠d)(u:Value):(a.put (some d) u).tmps.getD t undef=a.tmps.getD t undef:=by simp[Act.put,Oc,aye,Ne.symm h]
def Inv.aHJ (h:Inv w0 G st a w){d:Nat}(c:look st.tm d=none)(u:Value):Inv w0 G st (a.put (some d) u) w:=by refine {h with defers:=h.defers,size:=by simp[Act.put,h.size],tm:=fun t v b=>?_};rw[mi (by rintro rfl;rw[c]at b;cases b)];exact h.tm t v b
def Inv.aHK (h:Inv w0 G st a w)(o:Obj) :
  Inv {w0 with hd:=fun g=>if g=w.heap.size then some (true,o) else w0.hd g} {G with own:=fun g=>if g=w.heap.size then some .hid else G.own g} st a (w.alloc o):=by
 have q:∀b,b<w.heap.size->b≠w.heap.size:=fun b f=>ajE f
 have Qi:∀b,b<w.heap.size->(w.alloc o).heap[b]?=w.heap[b]?:=fun b f=>by show(w.heap.push o)[b]?=_;rw[Array.getElem?_push,ag (q b f)]
 have H:(w.alloc o).heap.size=w.heap.size+1:=by show(w.heap.push o).size=_;rw[Array.size_push]
 have s:ajP G w {G with own:=fun g=>if g=w.heap.size then some .hid else G.own g} (w.alloc o):=⟨rfl,rfl,by omega,fun b f u=>⟨by simp[q b f,u],Qi b f⟩⟩;have y:jL G st.bx st.bl {G with own:=fun g=>if g=w.heap.size then some .hid else G.own g} st.bx st.bl:=⟨fun _ h=>⟨h,rfl⟩,fun _ h=>⟨h,rfl,fun z A=>⟨z,A,rfl⟩⟩⟩;refine⟨h.nw,h.rok,h.below.step rfl rfl rfl (by omega) fun k i _=>Qi k (Ew i h.below.size),h.defers,h.size,gu.kX s y h.sp,fun g b B m=>?_,fun t v D=>gu.kX s y (h.tm t v D),fun d l F=>?_,fun id b f=>?_,fun g k i=>?_⟩
 .dsimp only at m;by_cases c:g=w.heap.size
  .rw[ak c]at m;cases m;subst c;exact⟨by simp[ayr],by omega,by show(w.heap.push o)[w.heap.size]?=_;rw[Array.getElem?_push,ak rfl]⟩
  .rw[ag c]at m;obtain⟨n,p,j⟩:=h.hd g b B m;exact⟨by simp[c,n],by omega,(Qi g p).trans j⟩
 .obtain⟨cs,e,n,p,j⟩:=h.bx d l F;have hlt:=(h.own _ _ p).2.1;exact⟨cs,e,(Qi _ hlt).trans n,by simp[q _ hlt,p],j.imp fun _ _=>bo.kX s y⟩
 .exact EB.kX s rfl (fun I g c u=>by have hlt:=(h.own _ _ u).2.1;exact⟨by simp[q _ hlt,u],Qi _ hlt⟩) (h.bl id b f)
 .dsimp only at i;by_cases c:g=w.heap.size
  .rw[ak c]at i;cases i;exact⟨.inl (by rw[c];exact h.below.size),by omega,trivial⟩
  .rw[ag c]at i;obtain⟨n,p,j⟩:=h.own g k i;refine⟨n,by omega,?_⟩;cases k with
   |hid=>trivial|bx x=>exact j|bl id=>exact j
def I3 {V:Type}(t s:Nat):∀l:List (Nat×V),look (l.filter fun p=> !Nat.beq p.1 t) s=if s=t then none else look l s
 |[]=>by simp[look]
 |(k,v)::l=>by
  have d:=I3 t s l;by_cases c:k=t
  .have:(!Nat.beq (k,v).1 t)=false:=by simp[c]
   rw[List.filter_cons_of_neg (by simp[this]),d,ar];by_cases b:s=t
   .simp[b]
   .simp[b,c,Ne.symm b]
  .have e:(!Nat.beq (k,v).1 t)=true:=by
    cases h:Nat.beq k t with
    |true=>exact absurd (aK h) c|false=>simp[h]
   rw[List.filter_cons_of_pos (p:=fun p:Nat×V=> !Nat.beq p.1 t) e,ar,ar,d];by_cases b:s=t
   .simp[b,c]
   .simp[b]
def Inv.aDY (h:Inv w0 G st a w)(t:Tmp):Inv w0 G (st.drop t) a w:=by
 refine {h with tm:=fun s v b=>h.tm s v ?_};unfold St.drop at b;dsimp only at b;rw[I3]at b;split at b
 .cases b
 .exact b
def kk {ops:Array Oper}{l:Array Bool}:∀(b:List Nat) {st:St},Inv w0 G st a w->Inv w0 G (gK P ops l b st) a w
 |[],_,h=>h|i::b,st,h=>by
  unfold gK;split
  .split
   .exact(kk b h).aDY _
   .exact kk b h
  .exact kk b h
def agq {ops:Array Oper}{l:Array Bool}{x:Nat}{o:Oper}{d:Tmp}(e:ops[x]?=some o)(f:bz P o=true)(g:l.getD x true=false)(j:o.dst=some d):∀(b:List Nat) (st:St),x∈b->look (gK P ops l b st).tm d=none
 |[],_,h=>by cases h
 |i::b,st,h=>by
  unfold gK;rcases cK.1 h with rfl|h
  .rw[e];simp only[f,g,j,fE,Bool.and_self];show look (List.filter _ _) d=none;rw[I3,ak rfl]
  .have c:=agq e f g j b st h;split
   .split
    .show look (List.filter _ _) d=none;rw[I3];split
     .rfl
     .exact c
    .exact c
   .exact c
def mkF (o:Oper)(g:Nat):Value:=match o.op with
 |.alloc _=>.pointer (some ⟨g,0,none⟩)|.buildSlice _ len _=>.slice (some ⟨g,0,none⟩) len len|_=>undef
def ake (P:Program)(o:Oper)(a:Act)(b:Obj):Prop:=match o.op with
 |.alloc t=>∃i v,P.info? t=some i/\i.zero=some v/\b=.cells v.cells t (0,0)|.buildSlice t _ parts=>∃e,EA P t=some e/\b=.cells (ad4 a parts.toList).toArray e (0,0)|_=>False
def agr {a a':Act}:∀{l:List (Nat×Operand)},(∀p∈l,∀s,p.2=.tmp s->a'.tmps.getD s undef=a.tmps.getD s undef)->ad4 a' l=ad4 a l
 |[],_=>rfl|(b,x)::l,h=>by
  have c:a'.eval x=a.eval x:=by
   cases x with
   |tmp s=>exact h (b,.tmp s) (by simp) s rfl
   |_=>rfl
  simp only[ad4,c,agr fun p d=>h p (jG _ d)]
def ake.same {a a':Act}{c:Obj}(h:ake P o a c)(b:∀t,abi o t=true->a'.tmps.getD t undef=a.tmps.getD t undef):ake P o a' c:=by
 unfold ake at h ⊢;unfold abi at b;split at h
 .exact h
 .rename_i t len parts d;simp only[d]at b;obtain⟨e,f,g⟩:=h;refine⟨e,f,?_⟩;rw[agr (a:=a)]
  .exact g
  .intro p i s j;exact b s (List.any_eq_true.2 ⟨p,i,by rw[j];simp⟩)
 .exact h
def aFa (P:Program)(C:FuncId->Option Any)(N:Nat)(o:Oper)(d:Tmp):Prop :=
 ∀{w0:dY} {G:Gh} {st:St} {a:Act} {w:World} {g:Nat} {e:Obj} {U:Type} {k:St->Option U} {r:U},Inv w0 G st a w->G.own g=some .hid->w0.hd g=none->w.heap[g]?=some e->ake P o a e->a.tmps.getD d undef=mkF o g ->
  fk P C (nY.Lm N) o st k=some r->∃c cp,Inv w0 c cp a w/\k cp=some r/\(∀b,G.own b=none->c.own b=none)
def abD:∀{l:List AC} {st:St},vT l=true->st.freeze l=st
 |[],_,_=>rfl|c::l,st,h=>by
  have b:st.di c=st:=by cases c<;>first|rfl|(simp[vT]at h)
  have d:vT l=true:=by cases c<;>first|exact h|(simp[vT]at h)
  show List.foldl St.di (st.di c) l=st;rw[b];exact abD d
def apr {l m:List AC}(b:vT l=true)(d:vT m=true):vT (l++m)=true:=by
 induction l with
 |nil=>exact d|cons c l e=>cases c<;>first|exact e b|(simp[vT]at b)
def ZO:∀{t:Ty} {l r:List AC} {x:t.D},flat t=true->im st t l=some (x,r)->∃p,l=p++r/\vT p=true
 |.int k,[],_,_,_,h=>by simp[im]at h
 |.int k,c::l,_,_,_,h=>by
  cases c<;>simp[im]at h
  exact⟨[_],by rw[h.2.2];rfl,rfl⟩
 |.bool,[],_,_,_,h=>by simp[im]at h
 |.bool,c::l,_,_,_,h=>by
  cases c<;>simp[im]at h
  exact⟨[_],by rw[h.2];rfl,rfl⟩
 |.str,[],_,_,_,h=>by simp[im]at h
 |.str,c::l,_,_,_,h=>by
  cases c<;>simp[im]at h
  exact⟨[_],by rw[h.2];rfl,rfl⟩
 |.unit,l,r,x,_,h=>by simp only[im]at h;cases h;exact⟨[],rfl,rfl⟩
 |.pair t u,l,r,x,b,h=>by
  simp only[flat,aE]at b;simp only[im]at h;split at h
  .rename_i y m d;split at h
   .rename_i z n e;cases h;obtain⟨p,f,g⟩:=ZO b.1 d;obtain⟨q,i,j⟩:=ZO b.2 e;exact⟨p++q,by rw[f,i,ku],apr g j⟩
   .cases h
  .cases h
 |.sl _ _,_,_,_,b,_=>by simp[flat]at b
def aps {u:Ty}(b:flat u=true):∀{l:List (Nat×Operand)} {i:Nat} {xs:List u.D},gX st u i l=some xs->vT (cb st l)=true
 |[],_,_,_=>rfl|(f,x)::l,i,xs,h=>by
  simp only[gX]at h;split at h
  .split at h
   .rename_i y c;split at h
    .rename_i g d;obtain⟨p,e,n⟩:=ZO b c;rw[fD]at e;exact apr (by rw[e];exact n) (aps b d)
    .cases h
   .cases h
  .cases h
def Qr (l:bz P o=true):∃d,o.dst=some d/\o.guard=none/\(∀{w0:dY} {G:Gh} {st:St} {a:Act} {w:World},Inv w0 G st a w->Lx P st o=true->∃obj,(execOp a.eval o).run P w=.ok (.value (mkF o w.heap.size)) (w.alloc obj)/\ake P o a obj)/\aFa P C N o d:=by
 unfold bz at l;split at l
 .rename_i d t S A j;split at l
  .rename_i z I;obtain⟨i,v,y,T,rfl⟩:=hN I;refine⟨d,A,S,fun _ _=>⟨.cells v.cells t (0,0),?_,?_⟩,?_⟩
   .unfold execOp mkF;rw[j];simp[Instr.alloc,zeroValue,typeInfo,y,T,BR]
   .unfold ake;rw[j];exact⟨i,v,y,T,rfl⟩
   .intro w0 G st a w g obj U k r h B W K s X f;unfold ake at s;simp only[j]at s;obtain⟨qm,qC,D,qg,rfl⟩:=s;rw[y]at D;cases D;rw[T]at qg;cases qg;simp only[fk,j,A,I]at f;split at f
    .rename_i m;obtain⟨F,Y⟩:=aT f;rw[aE]at F;refine⟨_,_,h.azX m (fs F.1) B W K ((py v).cells F.2) (by rw[X];unfold mkF;rw[j]),Y,fun b m=>?_⟩;have:b≠g:=by rintro rfl;rw[B]at m;cases m
     simp[Gh.box,this,m]
    .cases f
  .cases l
 .rename_i d t len parts S A j;split at l
  .rename_i e p;split at l
   .rename_i u L;simp only[aE]at l;obtain⟨⟨h1,qn⟩,⟨⟨⟨qo,qp⟩,qq⟩,qt⟩⟩:=l;have hlen:=aK qn;have H:0<u.n:=To (bu qp);have qD:=BQ qq;obtain⟨i,y,qh⟩:=n0 (aK qo) H;obtain⟨z,I⟩:=fC.1 qt;obtain⟨qm,O,D,qu,_⟩:=hN I;rw[y]at D;cases D;have qv:P.underlying t=some (.slice e):=by
     unfold EA at p;split at p
     .rename_i qw L;cases p;exact L
     .cases p
    refine⟨d,A,S,?_,?_⟩
    .intro w0 G st a w h Z;unfold Lx at Z;simp only[j,p,L]at Z;obtain⟨xs,Q⟩:=fC.1 Z;have qd:((Array.range (len*u.n)).map (fun q=>(if len*u.n=0 then #[] else O.cells)[q%(if len*u.n=0 then #[] else O.cells).size]!)).size=(0+parts.toList.length)*u.n:=by simp[<-hlen]
     obtain⟨cs,qi,qj,qx,qk,qe⟩:=TN (ok:=fun _=>True) h H parts.toList 0 _ xs (fun e t c v qf _=>TO h e t c v qf) qd Q;simp only[ajD,List.take_zero,s4]at qi;refine⟨.cells cs.toArray e (0,0),?_,?_⟩
     .unfold execOp mkF;rw[j];dsimp only;have:=Jn (P:=P) (w:=w) qv y qu (len:=len) (parts:=parts.map fun (i,x)=>(i,a.eval x)) (cells:=cs.toArray) (by rw[qh];omega) (by rw[qh,agb];exact qi);simp only[Sem.run_bind,this,Result.andThen_ok];rfl
     .unfold ake;rw[j];exact⟨e,p,by rw[qe]⟩
    .intro w0 G st a w g obj U k r h B W K s X f;unfold ake at s;simp only[j]at s;obtain⟨qw,ql,rfl⟩:=s;rw[p]at ql;cases ql;simp only[fk,j,A,p,L]at f;split at f
     .rename_i xs Q;split at f
      .rename_i qE;have qd:((Array.range (len*u.n)).map (fun q=>(if len*u.n=0 then #[] else O.cells)[q%(if len*u.n=0 then #[] else O.cells).size]!)).size=(0+parts.toList.length)*u.n:=by simp[<-hlen]
       obtain⟨cs,_,qj,qx,qk,qe⟩:=TN (ok:=fun _=>True) h H parts.toList 0 _ xs (fun e t c v qf _=>TO h e t c v qf) qd Q;have qy:vT (cb st parts.toList)=true:=by
        rw[jH]at h1;rcases h1 with h1|h1
        .exact aps h1 Q
        .have qz:=aK h1;have:parts.toList=[]:=XO (by omega);rw[this];rfl
       have qA:et w (RO G (b5 (cb st parts.toList))) u cs xs:=by
        rw[jH]at h1;rcases h1 with h1|h1
        .exact aj1 h1 qk
        .have qz:=aK h1;have:xs=[]:=XO (by omega);subst this;exact fun qF x qB=>by simp at qB
       rw[abD qy]at f;unfold St.row at f;split at f
       .cases f
       .rename_i m;obtain⟨F,Y⟩:=aT f;rw[<-qe]at K;have qG:len<=len*u.n:=aqz _ H;have qH:maxLen=9223372036854775807:=rfl;refine⟨_,_,Inv.azY (e:=e) (u:=u) (n:=len) h m (fs F) B W K H (by omega) qj (by omega) qA (by rw[X];unfold mkF;rw[j]),Y,fun b m=>?_⟩;have:b≠g:=by rintro rfl;rw[B]at m;cases m
        simp[Gh.rowAt,this,m]
      .cases f
     .cases f
   .cases l
  .cases l
 .cases l
def azZ {k:St->Option U}(b:bz P o=true)(c:fk P C (nY.Lm N) o st k=some r):Lx P st o=true:=by
 unfold bz at b;split at b
 .rename_i d t h g f;unfold Lx;rw[f]
 .rename_i d t len parts h g f;unfold Lx;simp only[f];simp only[fk,f,g]at c;split at b
  .rename_i e i;split at b
   .rename_i u j;simp only[i,j]at c ⊢;split at c
    .rename_i xs l;rw[l];rfl
    .cases c
   .cases b
  .cases b
 .cases b
def dY.from (w0:dY)(G:Gh)(w:World)(e:w0.w.heap.size<=w.heap.size)(f:∀g k,G.own g=some k->w0.nw g)(h:∀g k,G.own g=some k->ei.n<=g):dY where
 w:=w
 ok:=w0.ok
 nw:=w0.nw
 fr g:=(G.own g).isSome=true
 hnw b c:=w0.hnw b (aU e c)
 hfr b c:=by obtain⟨k,d⟩:=fC.1 c;exact f b k d
 hB:=aU w0.hB e
 hBf b c:=by obtain⟨k,d⟩:=fC.1 c;exact h b k d
 pv:=w0.pv
 hd g:=match w0.hd g with
  |some x=>some x|none=>match G.own g with
   |none=>(w.heap[g]?).map fun o=>(false,o)
   |some _=>none
def Inv.aG1 (h:Inv w0 G st a w):∀g k,G.own g=some k->w0.nw g:=fun g k b=>by rw[<-h.nw];exact h.TI b
abbrev Inv.root (h:Inv w0 G st a w):dY:=w0.from G w h.below.size h.aG1 fun _ _ b=>h.aDO b
def Inv.from (h:Inv w0 G st a w):Inv h.root G st a w:=by
 refine⟨h.nw,h.rok,dX.refl _ _,h.defers,h.size,h.sp,fun g b o c=>?_,h.tm,h.bx,h.bl,fun g k e=>?_⟩
 .simp only[Inv.root,dY.from]at c;split at c
  .rename_i x f;cases c;exact h.hd g b o f
  .split at c
   .rename_i i;cases d:w.heap[g]? with
    |none=>rw[d]at c;cases c
    |some m =>
     rw[d]at c;cases c;exact⟨i,(sC.1 d).1,rfl⟩
   .cases c
 .obtain⟨_,j,l⟩:=h.own g k e;exact⟨.inr (by simp[Inv.root,dY.from,e]),j,l⟩
def Inv.BY (h:Inv w0 G st a w){w1:World}(b:dX h.root.fr w w1):dX w0.fr w0.w w1 :=
 h.below.step b.os b.tape b.output b.size fun k c d=>b.block k (Ew c h.below.size) fun hfr=>by
  obtain⟨q,e⟩:=fC.1 (show(G.own k).isSome=true from hfr);rcases(h.own k q e).1 with h1|h1
  .omega
  .exact d h1
def Inv.akf (h:Inv w0 G st a w){d:Gh}{cp:St}{a':Act}{w':World}(c:Inv h.root d cp a' w') :
  Inv w0 d cp a' w'/\w.heap.size<=w'.heap.size/\∀g,g<w.heap.size->G.own g=none->d.own g=none/\w'.heap[g]?=w.heap[g]?:=by
 refine⟨⟨c.nw,c.rok,h.BY c.below,c.defers,c.size,c.sp,fun g b o p=>c.hd g b o ?_,c.tm,c.bx,c.bl,fun g k s=>?_⟩,c.below.size,fun g t l=>?_⟩
 .simp only[Inv.root,dY.from,p]
 .obtain⟨h1,m,e⟩:=c.own g k s;refine⟨?_,m,e⟩;rcases h1 with h1|h1
  .exact .inl (aU h.below.size h1)
  .obtain⟨q,u⟩:=fC.1 (show(G.own g).isSome=true from h1);exact(h.own g q u).1
 .cases f:w0.hd g with
  |some x =>
   obtain⟨b,o⟩:=x;obtain⟨h1,m,e⟩:=h.hd g b o f;obtain⟨i,v,j⟩:=c.hd g b o (by simp only[Inv.root,dY.from,f]);cases b with
   |true =>
    rw[l]at h1;cases h1
   |false=>exact⟨i,j.trans e.symm⟩
  |none =>
   have n:w.heap[g]?=some w.heap[g]:=avY t;obtain⟨i,v,j⟩:=c.hd g false w.heap[g] (by simp only[Inv.root,dY.from,f,l,n,Option.map_some]);exact⟨i,j.trans n.symm⟩
def Inv.aFb (h:Inv w0 G st a w){f:FuncId}{con:Any}(b:Om P w0 f con):Om P h.root f con:=by
 cases con with
 |one c=>exact⟨b.1,fun x r l m d=>b.2 x r l m (h.BY d)⟩
 |idx i=>exact⟨b.1,fun W d=>b.2 W (h.BY d)⟩
 |ins e u=>exact⟨b.1,fun W d=>b.2 W (h.BY d)⟩
 |del e u=>exact⟨b.1,fun W d=>b.2 W (h.BY d)⟩
 |sel c =>
  refine⟨b.1,b.2.1,fun x r l m d ok n own p s u k t=>b.2.2 x r l m (h.BY d) ok n own p s u ⟨k.kC,fun g v y=>?_,k.cz,k.hb⟩ t⟩;obtain⟨z,A,j⟩:=k.bf g v y;refine⟨z,A,?_⟩;rcases j with j|j
  .exact .inl (aU h.below.size j)
  .obtain⟨q,B⟩:=fC.1 (show(G.own g).isSome=true from j);exact(h.own g q B).1
 |two c =>
  refine⟨b.1,b.2.1,fun x r l m d ok n own p s u k t=>b.2.2 x r l m (h.BY d) ok n own p s u ⟨k.kC,fun g v y=>?_,k.cz,k.hb⟩ t⟩;obtain⟨z,A,j⟩:=k.bf g v y;refine⟨z,A,?_⟩;rcases j with j|j
  .exact .inl (aU h.below.size j)
  .obtain⟨q,B⟩:=fC.1 (show(G.own g).isSome=true from j);exact(h.own g q B).1
def aDZ {K:Act->World->Prop}{Q:Exit->Act->World->Prop}(h:o.wp P a w K Q) :
  o.wp P a w (fun i j=>K i j/\i.tmps.size=a.tmps.size/\∀t,o.dst≠some t->i.tmps.getD t undef=a.tmps.getD t undef) Q:=by
 have key:∀(b:Act) u,b.tmps=a.tmps->(b.put o.dst u).tmps.size=a.tmps.size/\∀t,o.dst≠some t->(b.put o.dst u).tmps.getD t undef=a.tmps.getD t undef:=by
  intro b u g;cases m:o.dst with
  |none=>exact⟨by simp[Act.put,g],fun t _=>by simp[Act.put,g]⟩
  |some d =>
   refine⟨by simp[Act.put,g],fun t k=>?_⟩;have l:t≠d:=fun e=>k (by rw[e])
   rw[mi l,g]
 unfold Oper.wp Oper.upon at h ⊢;split at h
 .exact⟨h,key a _ rfl⟩
 .exact⟨h,key a _ rfl⟩
 .exact⟨h,key _ _ rfl⟩
 .refine Calls.mono h fun e j f=>?_
  cases e with
  |returned v=>exact⟨f,key a _ rfl⟩|panicked c=>exact f|_=>exact f
 .exact Rows.mono h fun v j f=>⟨f,key a _ rfl⟩
 all_goals exact h
def wZ (c:om P o=true):bz P o=false:=by
 unfold bz;split
 .rename_i b;simp[om,b]at c
 .rename_i b;simp[om,b]at c
 .rfl
def az0 {k:St->Option U}(h:Inv w0 G st a w)(b:fk P C (nY.Lm N) o st k=some r)(f:aqM o=true) :
  ∃v g,(execOp a.eval o).run P w=.ok (.value v) (w.alloc g):=by
 unfold aqM at f;split at f
 .rename_i t c;simp only[fk,c]at b;split at b
  .split at b
   .split at b
    .rename_i z j;obtain⟨i,v,l,m,rfl⟩:=hN j;refine⟨.pointer (some ⟨w.heap.size,0,none⟩),.cells v.cells t (0,0),?_⟩;unfold execOp;rw[c];simp[Instr.alloc,zeroValue,typeInfo,l,m,BR]
    .cases b
   .cases b
  .cases b
 .rename_i t x c;refine⟨.pointer (some ⟨w.heap.size,0,none⟩),.cells (a.eval x).cells t (0,0),?_⟩;unfold execOp;rw[c];simp[Instr.box,BR]
 .rename_i t len parts c;simp only[fk,c]at b;split at b
  .rename_i d e y n;split at b
   .rename_i u A;split at b
    .rename_i xs p;split at b
     .rename_i q;obtain⟨cs,s⟩:=ahp h t len parts c n p q;exact⟨_,_,s⟩
     .cases b
    .cases b
   .cases b
  .cases b
 .cases f
def aBK {ops:Array Oper}{k:St->Option U}(h:Inv w0 G st a w)(b:fk P C (nY.Lm N) o st k=some r){t:Tmp}(c:Zy o=some t){g0:Nat}(n:a.tmps.getD t undef=.slice (some ⟨g0,0,none⟩) 0 0) :
  ∃v f,(execOp a.eval o).run P w=.ok (.value v) f/\Below w.heap.size w f:=by
 unfold Zy at c;split at c
 .rename_i args B g;split at c
  .rename_i D y t1 t2 i j;split at c
   .rename_i p;cases c;have:=aK p;subst this;simp only[fk,g]at b;split at b
    .rename_i d s x F H I l m;rw[i]at l;rw[j]at m;cases l;cases m;split at b
     .rename_i e q;split at b
      .rename_i u z K A;exact awq h g i j q A (d:=d) n b
      .cases b
     .cases b
    .cases b
   .cases c
  .cases c
 .cases c
def hO (h:Hy P o=true):bz P o=true:=by unfold Hy at h;rw[aE]at h;exact h.1
def akg (h:Hy P o=true)(g:Nat):mkF o g=.slice (some ⟨g,0,none⟩) 0 0:=by
 unfold Hy at h;rw[aE]at h;unfold mkF;split at h
 .rename_i b;rw[b]
 .cases h.2
def arh (C:FuncId->Option Any)(o:Oper)(a:Act)(w w':World):Prop :=
 ∀t g k,TC C o=some t->a.tmps.getD t undef=.pointer (some ⟨g,0,none⟩)->k<w.heap.size->k≠g->w'.heap[k]?=w.heap[k]?
def arh.below {w':World}(h:Below w.heap.size w w'):arh C o a w w':=fun _ _ k _ _ b _=>h.block k b
def atB {g o:Nat}{v:Value}{w w':World}{cs:Array Value}{e:TypeId}{p:Nat×Nat}(b:w.heap[g]?=some (.cells cs e p))(h:(store ⟨g,o,none⟩ v).run P w=.ok () w'):(∃c,w'.heap[g]?=some (.cells c e p))/\∀k,k≠g->w'.heap[k]?=w.heap[k]?:=by
 have key:(match w.cell? ⟨g,o,none⟩ with
   | some _ => if w.frozen? ⟨g, o, none⟩ then Result.halt (.unsupported (.unsafePointer "a write to bytes that a string shares")) w else Result.ok () (w.setCell ⟨g, o, none⟩ v)
   |none=>match w.farStore P ⟨g,o,none⟩ v (Mode.plain==Mode.atomic) with
    |.ok (w,_)=>Result.ok () w|.error h=>.halt h w)=.ok () w'\/False:=by
  cases v with
  |agg _=>exact .inr (by simp[store,Sem.run]at h)
  |tuple _=>exact .inr (by simp[store,Sem.run]at h)
  |_=>exact .inl h
 rcases key with key|key
 .split at key
  .split at key
   .cases key
   .injection key with _ key
    subst key;unfold World.setCell;refine⟨⟨cs.setIfInBounds o v,?_⟩,fun k d=>?_⟩
    .simp only[Array.getElem?_modify,gr,b,Option.map_some];rfl
    .simp only[Array.getElem?_modify];rw[ag (fun e=>d e.symm)]
  .unfold World.farStore at key;simp only[b]at key;cases key
 .exact key.elim
def Oq {g:Nat}:∀(vs:List Value) (o i:Nat) (w w':World) {cs:Array Value} {e:TypeId} {p:Nat×Nat},w.heap[g]?=some (.cells cs e p)->(storeCells ⟨g,o,none⟩ vs i).run P w=.ok () w'->∀k,k≠g->w'.heap[k]?=w.heap[k]?
 |[],o,i,w,w',_,_,_,_,h=>by
  have h:Result.ok () w=.ok () w':=h;injection h with _ h
  subst h;exact fun _ _=>rfl
 |v::vs,o,i,w,w',cs,e,p,l,h=>by
  have h:((store (Addr.add ⟨g,o,none⟩ i) v).run P w).andThen (fun _ d=>(storeCells ⟨g,o,none⟩ vs (i+1)).run P d)=.ok () w':=by rw[<-h];simp only[storeCells,Sem.run_bind]
  cases b:(store (Addr.add ⟨g,o,none⟩ i) v).run P w with
  |halt c d=>rw[b]at h;cases h
  |ok u d =>
   rw[b]at h;have b:(store ⟨g,o+i,none⟩ v).run P w=.ok () d:=by
    cases u;by_cases f:i=0
    .subst f;simpa [Addr.add]using b
    .simpa [Addr.add,f]using b
   obtain⟨⟨q,m⟩,n⟩:=atB l b;exact fun k j=>(Oq vs o (i+1) d w' m h k j).trans (n k j)
def aBL {t:TypeId}{x y:Operand}{g l:Nat}{cs:Array Value}{e:TypeId}{p:Nat×Nat}{K:Act->World->Prop}{Q:Exit->Act->World->Prop}(m:o.op=.store t x y)(n:a.eval x=.pointer (some ⟨g,l,none⟩))(q:w.heap[g]?=some (.cells cs e p))(hi:(P.info? t).isSome=true)
  (h:o.wp P a w K Q):o.wp P a w (fun s j=>K s j/\∀k,k≠g->j.heap[k]?=w.heap[k]?) Q:=by
 obtain⟨i,hi⟩:=fC.1 hi;unfold Oper.wp execOp at h ⊢;rw[m]at h ⊢;dsimp only at h ⊢;rw[n]at h ⊢;simp only[Instr.storeAt,Instr.sureAddr,Sem.run_bind,Sem.run_pure,Result.andThen_ok]at h ⊢;cases b:(storeVar t ⟨g,l,none⟩ (a.eval y)).run P w with
 |halt c d =>
  rw[b]at h;have e:∀f:Unit->World->Result Next,(Result.halt c d:Result Unit).andThen f=.halt c d:=fun _=>rfl
  rw[e]at h ⊢;cases c<;>exact h
 |ok u d =>
  rw[b]at h;refine⟨h,fun k v=>?_⟩;unfold storeVar at b;simp only[Sem.run_bind,run_sizeOf w hi,Result.andThen_ok]at b;split at b
  .cases b
  .exact Oq _ _ _ _ _ q b k v
def awC {ops:Array Oper}{Q:Exit->Act->World->Prop}{k:St->Option U}(S:∀f x,C f=some x->Om P w0 f x)(h:Inv w0 G st a w)(c:fk P C (nY.Lm N) o st k=some r)
  (qv:∀t,Zy o=some t->Og P ops o=true->∃g,a.tmps.getD t undef=.slice (some ⟨g,0,none⟩) 0 0) (qw:∀d,bz P o=true->o.dst=some d->d<a.tmps.size) :
  o.wp P a w (fun D F=>(((∃L cp,Inv w0 L cp D F/\k cp=some r)/\(px P C ops o=true->Below w.heap.size w F))/\(Hy P o=true->∀d,o.dst=some d->∃g,D.tmps.getD d undef=.slice (some ⟨g,0,none⟩) 0 0)/\arh C o a w F)/\D.tmps.size=a.tmps.size/\∀t,o.dst≠some t->D.tmps.getD t undef=a.tmps.getD t undef) Q:=by
 refine aDZ ?_;have W:q9 w0 k r (fun D F=>∃L cp,Inv w0 L cp D F/\k cp=some r):=fun L cp D F H qe=>⟨L,cp,H,qe⟩
 by_cases j:px P C ops o=true
 .by_cases qf:om P o=true
  .obtain⟨v,L,cp,s,qx,B⟩:=ZN qf h c;exact Jj (s w (wX (Below.refl _ w))) ⟨⟨⟨L,cp,qx,B⟩,fun _=>Below.refl _ w⟩,fun u=>absurd (hO u) (by rw[wZ qf];simp),.below (Below.refl _ w)⟩
  .by_cases T:bz P o=true
   .obtain⟨d,qI,ql,s,_⟩:=Qr (C:=C) (N:=N) T;obtain⟨obj,s,_⟩:=s h (azZ T c);have:=vX (Q:=Q) S h c W;unfold Oper.wp at this ⊢;rw[s]at this ⊢;refine⟨⟨this,fun _=>⟨rfl,rfl,rfl,by simp,fun k B=>Below.heap_alloc _ _ _ B⟩⟩,fun u qy qm=>⟨w.heap.size,?_⟩,.below ⟨rfl,rfl,rfl,by simp,fun k B=>Below.heap_alloc _ _ _ B⟩⟩;have hlt:=qw qy T qm;rw[qm,akg u];simp[Act.put,Oc,hlt]
   .by_cases qn:aqM o=true
    .obtain⟨v,qK,s⟩:=az0 h c qn;have:=vX (Q:=Q) S h c W;unfold Oper.wp at this ⊢;rw[s]at this ⊢;exact⟨⟨this,fun _=>⟨rfl,rfl,rfl,by simp,fun k B=>Below.heap_alloc _ _ _ B⟩⟩,fun u=>absurd (hO u) T,.below ⟨rfl,rfl,rfl,by simp,fun k B=>Below.heap_alloc _ _ _ B⟩⟩
    by_cases qg:Og P ops o=true
    .obtain⟨t,I⟩:∃t,Zy o=some t:=by
      cases qz:Zy o with
      |none=>simp[Og,qz]at qg|some t=>exact⟨t,rfl⟩
     obtain⟨g,ql⟩:=qv t I qg;obtain⟨v,F,s,Y⟩:=aBK (ops:=ops) h c I ql;have:=vX (Q:=Q) S h c W;unfold Oper.wp at this ⊢;rw[s]at this ⊢;exact⟨⟨this,fun _=>Y⟩,fun u=>absurd (hO u) T,.below Y⟩
    have A:awe C o=true:=by
     unfold px at j;simp only[jH]at j;rcases j with (((j|j)|j)|j)|j
     .exact absurd j qf
     .exact absurd j T
     .exact j
     .exact absurd j qn
     .exact absurd j qg
    unfold awe at A;split at A
    .rename_i f args qA O;simp only[fk,O]at c;split at c
     .rename_i x z;exact agp (show agm P w0 f x from S f (.one x) z) h O c fun L cp D F H qe Y=>⟨⟨⟨L,cp,H,qe⟩,fun _=>Y⟩,fun u=>absurd (hO u) T,.below Y⟩
     .rename_i x z;rw[z]at A;cases A
     .rename_i x z;rw[z]at A;cases A
     .rename_i z;rw[z]at A;cases A
     .rename_i z;rw[z]at A;cases A
     .rename_i z;rw[z]at A;cases A
     .cases c
    .cases A
 .have u:∀{U:Prop},Hy P o=true->U:=fun u=>absurd (show px P C ops o=true by unfold px;rw[hO u];simp) j
  cases m:TC C o with
  |none=>exact Oper.wp_mono (fun D F H=>⟨⟨H,fun h=>absurd h j⟩,fun h=>u h,fun t g k I=>(by rw[m]at I;cases I)⟩) (vX (Q:=Q) S h c W)
  |some t =>
   have qo:=m;unfold TC at m;split at m
   .rename_i f args qA O;split at m
    .rename_i x z;have qp:(x.pm=.box\/x.pm=.cur)/\kj args.toList x.i=some (.tmp t):=by
      cases X:x.pm with
      |box =>
       rw[X]at m;dsimp only at m;split at m
       .rename_i qd qh;cases m;exact⟨.inl rfl,qh⟩
       .cases m
      |cur =>
       rw[X]at m;dsimp only at m;split at m
       .rename_i qd qh;cases m;exact⟨.inr rfl,qh⟩
       .cases m
      |rd=>rw[X]at m;cases m|own f=>rw[X]at m;cases m
     simp only[fk,O,z]at c;refine Oper.wp_mono (fun D F H=>⟨⟨H.1,fun h=>absurd h j⟩,fun h=>u h,fun qd g k I K B qi=>?_⟩) (abB (show ZH P w0 f x from S f (.two x) z) h O c W);rw[qo]at I;cases I;exact H.2 (.tmp t) g qp.1 qp.2 K k B qi
    .cases m
   .rename_i ty qd y O;cases m;have qB:=vX (Q:=Q) S h c W;simp only[fk,O]at c;split at c
    .rename_i qq;simp only[aE]at qq;have qC:∃g off cs e p,a.eval (.tmp t)=.pointer (some ⟨g,off,none⟩)/\w.heap[g]?=some (.cells cs e p):=by
      have hrel:=h.ac (.tmp t);split at c
      .rename_i b off qj;rw[qj]at hrel;obtain⟨qD,K⟩:=hrel;obtain⟨l,j⟩:=fC.1 qD;obtain⟨cs,e,Z,_⟩:=h.bx b l j;exact⟨_,off,cs,e,_,K,Z⟩
      .rename_i id i off qj;rw[qj]at hrel;obtain⟨_,_,_,g,q,n,cap,K,qL,X⟩:=hrel;split at c
       .rename_i qt qE;split at c
        .rename_i qu;simp only[aE]at qu;have j:=dm qE;obtain⟨rows,bf,qM,_⟩:=(h.bl id qt j).wr qu.1.1;rcases bf.2 with ⟨s,_⟩|⟨qF,qN,cur,s,_,Z,_⟩
         .rw[K]at s;cases s
         .rw[K]at s;injection s with qk _ _
          injection qk with qk
          injection qk with qG _ _
          subst qG;exact⟨g,_,cur,_,_,X qt j,Z⟩
        .cases c
       .cases c
      .cases c
     obtain⟨g,off,cs,e,p,K,Z⟩:=qC;refine Oper.wp_mono (fun D F H=>⟨⟨H.1,fun h=>absurd h j⟩,fun h=>u h,fun qd qF k I qH B qi=>H.2 k ?_⟩) (aBL O K Z qq.2 qB);rw[qo]at I;cases I;rw[show a.eval (.tmp t)=a.tmps.getD t undef from rfl,qH]at K;cases K;exact qi
    .cases c
   .cases m
def Qs {ops:Array Oper}{j:Nat}{c:Oper}{d:Tmp}{tmps:Array Value}(e:kj ops.toList j=some c)(f:c.dst=some d) :
  yielded ops tmps j=match tmps.getD d undef with|.bool b=>some b|_=>none:=by
 have g:ops[j]?=some c:=by rw[aq0]at e;simpa using e
 unfold yielded;rw[g];simp only[ajz,f];rw[Oc];cases tmps[d]? with
 |none=>rfl|some v=>cases v<;>rfl
def XV {ops:Array Oper}{k:St->Option U}(h:Inv w0 G st a w)(c:Qf P C (nY.Lm N) ops.toList o st k=some r) :
  (Region.wanted o (yielded ops a.tmps)=true/\∃cp,(cp=st\/∃d b j,st.get d=.v (.c (.bool b))/\cp=st.put d (.v (.c (.bool j))))/\Inv w0 G cp a w/\fk P C (nY.Lm N) o cp k=some r) \/
  (Region.wanted o (yielded ops a.tmps)=false/\∃e cp,Inv w0 e cp (a.put o.dst undef) w/\k cp=some r):=by
 have p:∀{st:St},Inv w0 G st a w->St.pk st o.dst (.Qe []) k=some r->∃e cp,Inv w0 e cp (a.put o.dst undef) w/\k cp=some r:=by
  intro st h c;obtain⟨e,cp,x,y⟩:=wW (K:=fun s t=>∃e cp,Inv w0 e cp s t/\k cp=some r) h (v:=.Qe []) (u:=undef) ⟨#[],rfl,trivial⟩ c fun e cp s t z A=>⟨e,cp,z,A⟩
  exact⟨e,cp,x,y⟩
 unfold Qf at c;split at c
 .rename_i f;exact .inl ⟨by simp[Region.wanted,f],st,.inl rfl,h,c⟩
 .rename_i I TA f;split at c
  .rename_i L B;split at c
   .rename_i d D;have g:=Qs (tmps:=a.tmps) B D;have l:=h.ev (.tmp d);rw[show st.ev (.tmp d)=st.get d from rfl]at l;split at c
    .rename_i b m;rw[m]at l;have i:a.tmps.getD d undef=.bool b:=l;rw[i]at g;have n:∀j,b=j->Inv w0 G (st.put d (.v (.c (.bool j)))) a w:=by intro j F;subst F;exact h.lit (.tmp d) b i
     rcases abm c with ⟨q,c⟩|⟨q,c⟩
     .subst q;cases TA with
      |true=>exact .inl ⟨by simp[Region.wanted,f,g],_,.inr ⟨d,_,_,m,rfl⟩,n true rfl,c⟩
      |false=>exact .inr ⟨by simp[Region.wanted,f,g],p (n true rfl) c⟩
     .subst q;cases TA with
      |true=>exact .inr ⟨by simp[Region.wanted,f,g],p (n false rfl) c⟩
      |false=>exact .inl ⟨by simp[Region.wanted,f,g],_,.inr ⟨d,_,_,m,rfl⟩,n false rfl,c⟩
    .rename_i m;rw[m]at l;obtain⟨H,i,O⟩:=l;have i:a.tmps.getD d undef=.tuple H:=i;rw[i]at g;exact .inr ⟨by simp[Region.wanted,f,g],p h c⟩
    .cases c
   .cases c
  .cases c
def XW {ops:Array Oper}{M:Array Bool}:∀{l:List Nat} {j:Nat} {o:Oper},TD P C ops M st l=some (j,o)->j∈l/\ops[j]?=some o/\om P o=true/\Region.free .any ops M j=true/\((Jg st o=true\/ayj ops.toList st o=true)\/(abj P C ops M j=true\/aqN P C ops M st j o=true))
 |[],_,_,h=>by simp[TD]at h
 |i::l,j,o,h=>by
  simp only[TD]at h;split at h
  .rename_i f c;split at h
   .rename_i b;cases h;simp only[aE,jH]at b;exact⟨by simp,c,b.1.1,b.1.2,b.2.elim (fun h=>h.elim (fun h=>h.elim (fun h=>.inl (.inl h)) fun h=>.inr (.inl h)) fun h=>.inl (.inr h)) fun h=>.inr (.inr h)⟩
   .obtain⟨d,e⟩:=XW h;exact⟨by simp[d],e⟩
  .cases h
def XX {ops:Array Oper}{M:Array Bool}:∀{l:List Nat} {j:Nat} {o:Oper},TE P ops M st l=some (j,o)->j∈l/\ops[j]?=some o/\aBi j (Region.ready .any ops (jJ P ops j (List.range ops.size) M))=true/\ajL P ops M st (List.range ops.size)=true
 |[],_,_,h=>by simp[TE]at h
 |i::l,j,o,h=>by
  simp only[TE]at h;split at h
  .rename_i f c;split at h
   .rename_i b;cases h;rw[aE]at b;exact⟨by simp,c,b.1,b.2⟩
   .obtain⟨d,e⟩:=XX h;exact⟨by simp[d],e⟩
  .cases h
def akh {ops:Array Oper}{M:Array Bool}:∀{l:List Nat},ajL P ops M st l=true->∀i∈l,∀o,ops[i]?=some o->bz P o=true->M.getD i true=false->waits P ops M o=true\/Lx P st o=true
 |[],_,i,h=>by cases h
 |j::l,h,i,hi=>by
  simp only[ajL,aE]at h;intro o b c d;rcases cK.1 hi with rfl|hi
  .have:=h.1;rw[b]at this;simpa [c,d]using this
  .exact akh h.2 i hi o b c d
def awD {ops:Array Oper}{M:Array Bool}(h:waits P ops M o=true):∃e∈o.after,Region.binds .any e=true/\∃c,ops[e.on]?=some c/\bz P c=false/\M.getD e.on true=false:=by
 unfold waits at h;obtain⟨e,f,d⟩:=apc.1 h;rw[aE]at d;refine⟨e,f,d.1,?_⟩;have b:=d.2;split at b
 .rename_i c g;rw[aE]at b;exact⟨c,g,by simpa using b.1,by simpa using b.2⟩
 .cases b
def apt {x:Nat}:∀{l:List Nat},aBi x l=true->∀i∈l,i=x
 |[],_,i,h=>by cases h
 |j::l,h,i,hi=>by
  simp only[aBi,aE]at h;rcases cK.1 hi with rfl|hi
  .exact aK h.1
  .exact apt h.2 i hi
def w2 {ops:Array Oper}{x:Nat}:∀(b:List Nat) {l:Array Bool} {i:Nat},l.getD i false=true->(jJ P ops x b l).getD i false=true
 |[],_,_,h=>h|j::b,l,i,h=>by
  unfold jJ;split
  .split
   .exact w2 b (getD_set_true h)
   .exact w2 b h
  .exact w2 b h
def HA {ops:Array Oper}{x:Nat}:∀(b:List Nat) {l:Array Bool},(jJ P ops x b l).size=l.size
 |[],_=>rfl|j::b,l=>by
  unfold jJ;split
  .split
   .rw[HA b];simp
   .exact HA b
  .exact HA b
def HB {ops:Array Oper}{x y:Nat}(h:ops[y]?=none):∀(b:List Nat) {l:Array Bool},(jJ P ops x b l).getD y false=l.getD y false
 |[],_=>rfl|j::b,l=>by
  unfold jJ;split
  .rename_i o c;have d:j≠y:=fun e=>by rw[e,h]at c;cases c
   split
   .rw[HB h b,getD_set_ne false d]
   .exact HB h b
  .exact HB h b
def s6 {ops:Array Oper}{x y:Nat}{o:Oper}(c:ops[y]?=some o)(d:bz P o=true)(e:y≠x):∀(b:List Nat) {l:Array Bool},y<l.size->y∈b->(jJ P ops x b l).getD y false=true
 |[],_,_,h=>by cases h
 |j::b,l,f,h=>by
  have g:Nat.beq y x=false:=by
   cases g:Nat.beq y x with
   |true=>exact absurd (aK g) e|false=>rfl
  unfold jJ;rcases cK.1 h with rfl|h
  .rw[c];simp only[d,g,fE,Bool.and_self];exact w2 b (by simp[Oc,f])
  .split
   .split
    .exact s6 c d e b (by simpa using f) h
    .exact s6 c d e b f h
   .exact s6 c d e b f h
def n1 {ops:Array Oper}{x y:Nat}{o:Oper}(d:ops[y]?=some o)(b:bz P o=false\/y=x):∀(c:List Nat) {l:Array Bool},(jJ P ops x c l).getD y true=l.getD y true
 |[],_=>rfl|j::c,l=>by
  unfold jJ;split
  .rename_i g f;split
   .rename_i e;rw[n1 d b c];refine getD_set_ne true ?_;rintro rfl;rw[d]at f;cases f;rw[aE]at e;rcases b with b|rfl
    .rw[b]at e;cases e.1
    .simp at e
   .exact n1 d b c
  .exact n1 d b c
def TV {ops:Array Oper}{M:Array Bool}:∀{l:List Nat},IY P ops M l=true->∀i∈l,∀o,ops[i]?=some o->bz P o=true->M.getD i true=true
 |[],_,i,h=>by cases h
 |j::l,h,i,hi=>by
  simp only[IY,aE]at h;intro o b c;rcases cK.1 hi with rfl|hi
  .have:=h.1;rw[b]at this;simpa [c]using this
  .exact TV h.2 i hi o b c
def ags {ops:Array Oper}{M:Array Bool}:∀{l:List Nat} {st:St},(∀i∈l,∀o,ops[i]?=some o->bz P o=true->M.getD i true=true)->gK P ops M l st=st
 |[],_,_=>rfl|i::l,st,h=>by
  have c:=ags (st:=st) fun d e=>h d (jG _ e)
  unfold gK;split
  .rename_i o f;split
   .rename_i b _;rw[aE]at b;have:=h i vR o f b.1;rw[this]at b;cases b.2
   .exact c
  .exact c
def anU {ops:Array Oper}{M:Array Bool}{i:Nat}(h:abj P C ops M i=true){c:Nat}{b:Oper}(d:ops[c]?=some b)(e:px P C ops b=false):M.getD c true=true\/nv ops M i 3 b=true:=by unfold abj at h;rw[dh]at h;have:=h c (dk.2 (sC.1 d).1);rw[d]at this;simpa only[e,wR,jH]using this
def XY {ops:Array Oper}{M:Array Bool}{i n:Nat}(h:nv ops M i (n+1) o=true):∃e∈o.after,Region.binds .any e=true/\(e.on=i\/(M.getD e.on true=false/\∃d,ops[e.on]?=some d/\nv ops M i n d=true)):=by
 unfold nv at h;obtain⟨e,f,b⟩:=apc.1 h;rw[aE,jH]at b;refine⟨e,f,b.1,?_⟩;rcases b.2 with h1|h1
 .exact .inl (by simpa using h1)
 .rw[aE]at h1;refine .inr ⟨by simpa using h1.1,?_⟩;have c:=h1.2;split at c
  .exact⟨_,by assumption,c⟩
  .cases c
def agt {ops:Array Oper}{M R:Array Bool}{i:Nat}(g:∀d b,ops[d]?=some b->M.getD d true=false->R.getD d false=true->∀e∈b.after,Region.binds .any e=true->R.getD e.on false=true)(hi:R.getD i false=false) :
  ∀(n d:Nat) (b:Oper),ops[d]?=some b->M.getD d true=false->R.getD d false=true->nv ops M i n b=true->False
 |0,_,_,_,_,_,h=>by simp[nv]at h
 |n+1,d,b,j,k,l,h=>by
  obtain⟨e,m,p,c⟩:=XY h;have f:=g d b j k l e m p;rcases c with c|⟨c,q,s,t⟩
  .rw[c,hi]at f;cases f
  .exact agt g hi n e.on q s c f t
def Qt {ops:Array Oper}{M R l:Array Bool}{i:Nat}(j:∀d k,ops[d]?=some k->M.getD d true=false->R.getD d false=true->∀e∈k.after,Region.binds .any e=true->R.getD e.on false=true)(hi:R.getD i false=false)(m:Sup ops R l)(p:l.getD i false=false) :
  ∀(n c:Nat) (f:Oper),ops[c]?=some f->R.getD c false=false->l.getD c false=true->nv ops M i n f=true->False
 |0,_,_,_,_,_,h=>by simp[nv]at h
 |n+1,c,f,v,x,y,h=>by
  obtain⟨e,z,A,b⟩:=XY h;have g:=m.2.2 c f v x y e z A;rcases b with b|⟨b,q,s,t⟩
  .rw[b,p]at g;cases g
  .cases u:R.getD e.on false with
   |true=>exact agt j hi n e.on q s b u t|false=>exact Qt j hi m p n e.on q s u g t
def kZ {ops:Array Oper}{nt:Nat}(h:q5 P ops nt=true){x:Nat}{o:Oper}(e:ops[x]?=some o)(i:bz P o=true){d:Tmp}(j:o.dst=some d):d<nt/\∀y b,ops[y]?=some b->y≠x->b.dst≠some d:=by
 unfold q5 at h;rw[aE]at h
 replace h:=h.2
 rw[dh]at h;have:=h x (dk.2 (sC.1 e).1);rw[e]at this;simp only[i,aX,wR,aE,j]at this;refine⟨fs this.1,fun y b f k l=>?_⟩;have g:=this.2;rw[dh]at g;have:=g y (dk.2 (sC.1 f).1);rw[f]at this;simp only[l]at this;have c:Nat.beq y x=false:=by
  cases c:Nat.beq y x with
  |true=>exact absurd (aK c) k|false=>rfl
 rw[c]at this;simp[ajK]at this
def Rt {ops:Array Oper}{nt:Nat}(h:q5 P ops nt=true){x:Nat}{o:Oper}(d:ops[x]?=some o)(g:bz P o=true){y:Nat}{b:Oper}(f:ops[y]?=some b){t:Tmp}(i:b.dst=some t)(j:abi o t=true) :
  bz P b=false/\∃e∈o.after,Region.binds .any e=true/\e.on=y:=by
 unfold q5 at h;rw[aE]at h
 replace h:=h.1
 unfold ajM at h;rw[dh]at h;have:=h x (dk.2 (sC.1 d).1);rw[d]at this;simp only[g,aX,wR]at this;rw[dh]at this;have:=this y (dk.2 (sC.1 f).1);rw[f]at this;simp only[i,j,aX,wR,aE]at this;refine⟨by simpa using this.1,?_⟩;obtain⟨e,k,c⟩:=apc.1 this.2;rw[aE]at c;exact⟨e,k,c.1,aK c.2⟩
def unl (R:Array Bool)(n:Nat):Nat:=(List.range n).countP fun i=> !R.getD i true
def apu {p q:Nat->Bool}{i:Nat}(b:∀x,q x=true->p x=true)(c:p i=true)(d:q i=false):∀{l:List Nat},i∈l->l.countP q<l.countP p
 |[],h=>by cases h
 |j::l,h=>by
  have g:l.countP q<=l.countP p:=aju fun x _ e=>b x e
  rcases cK.1 h with rfl|h
  .rw[Bc,Bc,c,d];simp;omega
  .have k:=apu b c d h;rw[Bc,Bc];cases f:q j with
   |false=>simp;omega|true=>rw[b j f];simp;omega
def ari {R:Array Bool}{n i:Nat}(hi:i<n)(e:R.size=n)(b:R.getD i true=false):unl (R.setIfInBounds i true) n<unl R n:=by
 refine apu (i:=i) (fun x c=>?_) (by simp[b]) ?_ (dk.2 hi)
 .by_cases d:i=x
  .subst d;simp[b]
  .rw[getD_set_ne true d]at c;exact c
 .have:(R.setIfInBounds i true).getD i true=true:=by simp[Oc,aye,e,hi]
  simp[this]
def arj {R:Array Bool}{n i:Nat}(hi:i<n)(b:R.getD i true=false):0<unl R n :=
 List.countP_pos_iff.2 ⟨i,dk.2 hi,by simp[b]⟩
structure w3 (P:Program) (C:FuncId->Option Any) (N:Nat) (ops:Array Oper) (hd0 hd1:Nat->Option (Bool×Obj)) (M R:Array Bool) (E:Nat->Option Nat) (a:Act):Prop where
 szM:M.size=ops.size
 szR:R.size=ops.size
 rel:∀i,R.getD i false=(M.getD i false || (E i).isSome)
 early:∀x g,E x=some g->M.getD x false=false/\∃o d obj,ops[x]?=some o/\bz P o=true/\o.dst=some d/\(aFa P C N o d/\ake P o a obj/\∀e∈o.after,Region.binds .any e=true->R.getD e.on false=true)/\a.tmps.getD d undef=mkF o g/\hd1 g=some (true,obj)/\hd0 g=none
 inj:∀x y g,E x=some g->E y=some g->x=y
 z:∀x ox d,ops[x]?=some ox->Hy P ox=true->ox.dst=some d->R.getD x false=true->∃g,a.tmps.getD d undef=.slice (some ⟨g,0,none⟩) 0 0
 hd:∀g v,hd0 g=some v->hd1 g=some v
section
variable {ops:Array Oper} {hd0 hd1:Nat->Option (Bool×Obj)} {M R:Array Bool} {E:Nat->Option Nat}
def fI {l:Array Bool}{i:Nat}(h:l.getD i true=false):l.getD i false=false:=by
 rcases Rr i l.size with b|b
 .rw[<-tI b];exact h
 .simp[av2 b,Oc]
def Qu {l:Array Bool}{i:Nat}(h:l.getD i false=false)(hi:i<l.size):l.getD i true=false:=by rw[tI hi];exact h
def Jr {l:Array Bool}{i:Nat}(hi:i<l.size):(l.setIfInBounds i true).getD i false=true:=by simp[Oc,aye,hi]
def w3.ready (b:w3 P C N ops hd0 hd1 M R E a){j:Nat}(d:j∈Region.ready .any ops M)(f:E j=none):j∈Region.ready .any ops R:=by
 obtain⟨g,o,c,h⟩:=mem_ready.1 d;have hlt:j<ops.size:=(sC.1 c).1;refine mem_ready.2 ⟨Qu ?_ (by rw[b.szR];exact hlt),o,c,fun e i k=>?_⟩
 .rw[b.rel,fI g,f];rfl
 .rw[b.rel,h e i k,Tv]
def w3.unM (c:w3 P C N ops hd0 hd1 M R E a){j:Nat}(h:R.getD j true=false)(hlt:j<ops.size):M.getD j true=false/\E j=none:=by
 have b:=fI h;rw[c.rel]at b;simp only[Rq]at b;refine⟨Qu b.1 (by rw[c.szM];exact hlt),?_⟩;cases d:E j with
 |none=>rfl
 |some g =>
  rw[d]at b;cases b.2
def w3.next (b:w3 P C N ops hd0 hd1 M R E a){nt:Nat}(hfd:q5 P ops nt=true){j:Nat}{o:Oper}(f:ops[j]?=some o)(D:E j=none)(F:R.getD j true=false){a':Act}(l:∀t,o.dst≠some t->a'.tmps.getD t undef=a.tmps.getD t undef)
  (H:Hy P o=true->∀d,o.dst=some d->∃g,a'.tmps.getD d undef=.slice (some ⟨g,0,none⟩) 0 0) :
  w3 P C N ops hd0 hd1 (M.setIfInBounds j true) (R.setIfInBounds j true) E a':=by
 have hlt:j<ops.size:=(sC.1 f).1;refine⟨by simpa using b.szM,by simpa using b.szR,fun i=>?_,fun x g c=>?_,b.inj,fun x m d h n p c=>?_,b.hd⟩
 .by_cases q:j=i
  .subst q;rw[Jr (by rw[b.szR];exact hlt),Jr (by rw[b.szM];exact hlt)];rfl
  .rw[getD_set_ne false q,getD_set_ne false q];exact b.rel i
 .obtain⟨I,m,d,obj,s,u,A,k,K,L,O⟩:=b.early x g c;have B:j≠x:=by rintro rfl;rw[D]at c;cases c
  refine⟨by rw[getD_set_ne false B];exact I,m,d,obj,s,u,A,⟨k.1,k.2.1.same fun t Q=>l t fun S=>?_,fun e v y=>getD_set_true (k.2.2 e v y)⟩,?_,L,O⟩
  .obtain⟨_,e,v,y,T⟩:=Rt hfd s u f S Q;have:=k.2.2 e v y;rw[T,fI F]at this;cases this
  rw[l d ((kZ hfd s u A).2 j o f B)];exact K
 .by_cases z:j=x
  .subst z;rw[f]at h;cases h;exact H n d p
  .rw[l d ((kZ hfd h (hO n) p).2 j o f z)];rw[getD_set_ne false z]at c;exact b.z x m d h n p c
def aBM (n x:Nat):(Array.replicate n false).getD x false=false:=by rw[Oc,Array.getElem?_replicate];split<;>rfl
def awE (a:Act)(o:Oper)(v:Value)(t:Tmp)(b:o.dst≠some t):(a.put o.dst v).tmps.getD t undef=a.tmps.getD t undef:=by
 cases c:o.dst with
 |none=>simp[Act.put]|some d=>exact mi (fun e=>b (by rw[c,e])) v
def aD0 {f:St}(h:f=st\/∃c b g,st.get c=.v (.c (.bool b))/\f=st.put c (.v (.c (.bool g)))){x:Operand}{d j:Nat}(e:st.ac x=.ptr d j):f.ac x=.ptr d j:=by
 rcases h with rfl|⟨c,b,g,k,rfl⟩
 .exact e
 .cases x with
  |tmp s =>
   by_cases i:c=s
   .subst i;simp only[St.ac,St.dB,St.ev,k]at e;cases e
   .have:(st.put c (.v (.c (.bool g)))).ac (.tmp s)=st.ac (.tmp s):=by simp only[St.ac,St.dB,St.ev,St.get,St.put,ar,ag i]
    rw[this];exact e
  |_=>exact e
def ark {k:St->Option U}(h:Inv w0 G st a w){t:TypeId}{x:Operand}(e:o.op=.load t x){d j:Nat}(f:st.ac x=.ptr d j)(c:fk P C (nY.Lm N) o st k=some r):ajS P w0 G w d a o k r:=by
 simp only[fk,e]at c;split at c
 .rename_i l off g;split at c
  .rename_i i;split at c
   .exact ayw h t x e g i (b:=true) ‹_› (v:=.agg _) rfl f c
   .split at c
    .rename_i m _ y n;exact ayw h t x e g i (b:=false) m (v:=.c y) ⟨y,n,rfl⟩ f c
    .cases c
   .cases c
  .cases c
 .cases c
def atC {M:Array Bool}{t:Tmp}(h:awf ops M t=true){j:Nat}{b:Oper}(c:ops[j]?=some b)(d:M.getD j true=false):b.dst≠some t:=by have:=dh.1 h j (dk.2 (sC.1 c).1);rw[c]at this;dsimp only at this;rw[d,wR]at this;intro e;rw[e]at this;simp[ajK]at this
def aki {x:Option Tmp}{t:Tmp}(h:ajK x (some t)=true):x=some t:=by
 cases x with
 |none=>cases h|some s=>rw[aK (show Nat.beq s t=true from h)]
def akj {M:Array Bool}{i:Nat}{ok:Nat->Bool}(h:IX P C ops M st i ok=true){c:Nat}{d:Oper}(n:ops[c]?=some d)(q:px P C ops d=false):M.getD c true=true\/nv ops M i 3 d=true \/
  (∃b j,TC C d=some b/\st.get b=.v (.c (.ptr j 0))/\ok j=true/\awf ops M b=true)\/∃b x f,TC C d=some b/\ops[x]?=some f/\bz P f=true/\Qg f=true/\f.dst=some b/\M.getD x true=false/\∃e∈d.after,Region.binds .any e=true/\e.on=x:=by
 have:=dh.1 h c (dk.2 (sC.1 n).1);rw[n]at this;dsimp only at this;rw[q,wR,jH,jH]at this;rcases this with (h1|h1)|h1
 .exact .inl h1
 .exact .inr (.inl h1)
 .refine .inr (.inr ?_);split at h1
  .rename_i b p;rw[jH]at h1;rcases h1 with h1|h1
   .rw[aE]at h1;obtain⟨g,l⟩:=h1;split at g
    .rename_i j s;exact .inl ⟨b,j,p,s,g,l⟩
    .cases g
   .obtain⟨x,_,k⟩:=List.any_eq_true.1 h1;split at k
    .rename_i f t;simp only[aE,abc]at k;obtain⟨⟨⟨⟨g,l⟩,u⟩,v⟩,y⟩:=k;obtain⟨e,z,m⟩:=apc.1 y;rw[aE]at m;exact .inr ⟨b,x,f,p,t,g,l,aki u,v,e,z,m.1,aK m.2⟩
    .cases k
  .cases h1
def atD {M:Array Bool}{i:Nat}(h:aqN P C ops M st i o=true):∃t x,o.op=.load t x/\((∃b off,st.ac x=.ptr b off/\IX P C ops M st i (fun d=> !Nat.beq d b)=true)\/∃id e off b,st.ac x=.wS id e off/\st.oi id=some b/\b.w=true/\IX P C ops M st i (fun _=>true)=true):=by
 unfold aqN at h;split at h
 .rename_i t x c;split at h
  .exact⟨t,x,c,.inl ⟨_,_,by assumption,h⟩⟩
  .split at h
   .rw[aE]at h;exact⟨t,x,c,.inr ⟨_,_,_,_,by assumption,by assumption,h.1,h.2⟩⟩
   .cases h
  .cases h
 .cases h
def aD1 {f:St}(h:f=st\/∃c b g,st.get c=.v (.c (.bool b))/\f=st.put c (.v (.c (.bool g)))){x:Operand}{d k:Nat}{i:Int}(e:st.ac x=.wS d i k):f.ac x=.wS d i k/\∀id,f.oi id=st.oi id:=by
 rcases h with rfl|⟨c,b,g,l,rfl⟩
 .exact⟨e,fun _=>rfl⟩
 .refine⟨?_,fun _=>rfl⟩;cases x with
  |tmp s =>
   by_cases j:c=s
   .subst j;simp only[St.ac,St.dB,St.ev,l]at e;cases e
   .have:(st.put c (.v (.c (.bool g)))).ac (.tmp s)=st.ac (.tmp s):=by simp only[St.ac,St.dB,St.ev,St.get,St.put,ar,ag j]
    rw[this];exact e
  |_=>exact e
def akk (P:Program)(w0:dY)(w:World)(g:Nat)(a:Act)(o:Oper){U:Type}(k:St->Option U)(r:U):Prop :=
 ∃v c cp,(∀b:World,b.heap[g]?=w.heap[g]?->(execOp a.eval o).run P b=.ok (.value v) b)/\Inv w0 c cp (a.put o.dst v) w/\k cp=some r
def ayF {k:St->Option U}(h:Inv w0 G st a w){g:Nat}{v:AV}{u:Value}(f:gu G w st.bx st.bl v u)(i:st.pk o.dst v k=some r)(j:∀c:World,c.heap[g]?=w.heap[g]?->(execOp a.eval o).run P c=.ok (.value u) c):akk P w0 w g a o k r:=by
 obtain⟨b,cp,l,m⟩:=wW (K:=fun d e=>∃b cp,Inv w0 b cp d e/\k cp=some r) h f i fun b cp d e n p=>⟨b,cp,n,p⟩
 exact⟨u,b,cp,j,l,m⟩
def ayG {k:St->Option U}(h:Inv w0 G st a w)(t:TypeId)(x:Operand)(s:o.op=.load t x){l:List AC}{c g q:Nat}{vs:List Value}(z:a.eval x=.pointer (some ⟨g,q+c,none⟩))(L:cX w g q vs)(hrel:bY (bo G w st.bx st.bl) l vs)
  (O:Nat.beq (sF (P.cellsOf t) (sG c l)).length (P.cellsOf t)=true)
  {b:Bool} (A:Xi P t=some b)
  {v:CV} (B:match b with|true=>v=.agg (sF (P.cellsOf t) (sG c l))|false=>∃y,sF (P.cellsOf t) (sG c l)=[y]/\v=.c y)
  (D:st.pk o.dst (.v v) k=some r):akk P w0 w g a o k r:=by
 have e:=(hrel.drop c).take (P.cellsOf t);have F:cX w g (q+c) ((vs.drop c).take (P.cellsOf t)):=L.drop.take;have hlen:=e.len;have T:=aK O;have H:∀d:World,d.heap[g]?=w.heap[g]?->cX d g (q+c) ((vs.drop c).take (P.cellsOf t)):=fun d f i u j=>by rw[cell_of_heap f];exact F i u j
 have n:=fun d f=>vV (P:=P) (H d f) (by omega) (.inr trivial) A
 obtain⟨i,Q⟩:=vW A;cases b with
 |true =>
  subst B;simp only[Q]at n;refine ayF (u:=.agg ((vs.drop c).take (P.cellsOf t)).toArray) h (v:=.v (.agg _)) ⟨_,rfl,e⟩ D fun d f=>?_
  have p:=n d f;unfold execOp;rw[s];simp[Instr.loadAt,Instr.sureAddr,z,p]
 |false =>
  obtain⟨y,S,rfl⟩:=B;rw[S]at e;obtain⟨u,j⟩:∃u,(vs.drop c).take (P.cellsOf t)=[u]:=by
   cases I:(vs.drop c).take (P.cellsOf t) with
   |nil=>rw[I]at e;exact e.elim
   |cons u m =>
    rw[I]at e;cases m with
    |nil=>exact⟨u,rfl⟩|cons _ _=>exact e.2.elim
  rw[j]at e F;refine ayF (u:=u) h (v:=.v (.c y)) e.1 D fun d f=>?_
  have p:=n d f;have K:=H d f 0 u (by rw[j];rfl);rw[XR]at K;unfold execOp;rw[s];simp[Instr.loadAt,Instr.sureAddr,z,p,K]
def arl {k:St->Option U}(h:Inv w0 G st a w){t:TypeId}{x:Operand}(e:o.op=.load t x){id j:Nat}{i:Int}(A:st.ac x=.wS id i j){b:eF}(B:st.oi id=some b)(D:b.w=true)(c:fk P C (nY.Lm N) o st k=some r) :
  ∃g,G.own g=some (.bl id)/\g<w.heap.size/\akk P w0 w g a o k r:=by
 have hrel:=h.ac x;have m:=dm B;obtain⟨_,_,_,g,S,n,cap,F,T,f⟩:=(show bo G w st.bx st.bl (.wS id i j) (a.eval x) from by rw[<-A];exact hrel);have f:=f b m;obtain⟨rows,bf,H,_⟩:=(h.bl id b m).wr D;have p:=H g (by rw[F];rfl);refine⟨g,p,(h.own g _ p).2.1,?_⟩;simp only[fk,e]at c;split at c
 .rename_i l off I;obtain⟨K,q,W,d,s,u⟩:=Ly h hrel I;have L:K=g:=by
   rw[f]at d;injection d with d
   injection d with d
   injection d with d _ _
   exact d.symm
  subst L;split at c
  .rename_i z;split at c
   .exact ayG h t x e d s u z (b:=true) ‹_› (v:=.agg _) rfl c
   .split at c
    .rename_i O _ y Q;exact ayG h t x e d s u z (b:=false) O (v:=.c y) ⟨y,Q,rfl⟩ c
    .cases c
   .cases c
  .cases c
 .cases c
def w3.fresh (h:w3 P C N ops hd0 hd1 M R E a){i:Nat}(hi:i∈Region.ready .any ops R)(j:ops[i]?=some o)(t:Tmp)(k:Zy o=some t)(c:Og P ops o=true):∃g,a.tmps.getD t undef=.slice (some ⟨g,0,none⟩) 0 0:=by
 obtain⟨_,y,f,l⟩:=mem_ready.1 hi;rw[j]at f;cases f;unfold Og at c;rw[k]at c;obtain⟨x,_,b⟩:=List.any_eq_true.1 (show(List.range ops.size).any _=true from c);split at b
 .rename_i m n;simp only[aE]at b;obtain⟨⟨p,q⟩,s⟩:=b;obtain⟨e,u,d⟩:=apc.1 s;rw[aE]at d;have v:=aK d.2;have:=l e u d.1;rw[v]at this;exact h.z x m t n p (aki q) this
 .cases b
def w3.dlt (_:w3 P C N ops hd0 hd1 M R E a){nt:Nat}(hfd:q5 P ops nt=true)(b:a.tmps.size=nt){i:Nat}(c:ops[i]?=some o)(d:Tmp)(e:bz P o=true)(f:o.dst=some d):d<a.tmps.size:=by rw[b];exact(kZ hfd c e f).1
def atE {e:St}(h:e=st\/∃d b f,st.get d=.v (.c (.bool b))/\e=st.put d (.v (.c (.bool f))))(c:Jg st o=true):Jg e o=true:=by
 rcases h with rfl|⟨d,b,f,j,rfl⟩
 .exact c
 .cases g:o.op with
  |load t x =>
   simp only[Jg,g]at c ⊢;cases x with
   |const _=>exact c
   |tmp s =>
    by_cases i:d=s
    .subst i;simp only[St.ac,St.dB,St.ev,j]at c;cases c
    .have:(st.put d (.v (.c (.bool f)))).ac (.tmp s)=st.ac (.tmp s):=by simp only[St.ac,St.dB,St.ev,St.get,St.put,ar,ag i]
     rw[this];exact c
   |_=>exact c
  |convert _ _ _=>simp[Jg,g]at c|_=>simp[Jg,g]
def awF (h:Inv w0 G st a w)(b:ayj ops.toList st o=true):Region.wanted o (yielded ops a.tmps)=false:=by
 unfold ayj at b;split at b
 .cases b
 .rename_i m TA g;split at b
  .rename_i n j;split at b
   .rename_i d k;have e:=Qs (tmps:=a.tmps) j k;have c:=h.ev (.tmp d);rw[show st.ev (.tmp d)=st.get d from rfl]at c;split at b
    .rename_i f;rw[f]at c;rw[show a.tmps.getD d undef=.bool true from c]at e;simp[Region.wanted,g,e]
    .rename_i f;rw[f]at c;rw[show a.tmps.getD d undef=.bool false from c]at e;simp[Region.wanted,g,e]
    .rename_i f;rw[f]at c;obtain⟨l,i,p⟩:=c;have i:a.tmps.getD d undef=.tuple l:=i;rw[i]at e;simp[Region.wanted,g,e]
    .cases b
   .cases b
  .cases b
def ayH {nt:Nat}(f:w3 P C N ops w0.hd hd1 M R E a)(e:Inv {w0 with hd:=hd1} G (gK P ops M (List.range ops.size) st) a w){x g:Nat}(q:E x=some g)(A:ops[x]?=some o){k:St->Option U}
  (H:fk P C (nY.Lm N) o (gK P ops M (List.range ops.size) st) k=some r) :
  ∃B l m,w3 P C N ops w0.hd B (M.setIfInBounds x true) R (fun y=>if y=x then none else E y) a/\Inv {w0 with hd:=B} l m a w/\k m=some r/\∀b,G.own b=none->l.own b=none:=by
 have hlt:∀{i:Nat} {o:Oper},ops[i]?=some o->i<ops.size:=fun h=>(sC.1 h).1
 obtain⟨qx,D,d,obj,F,qy,qz,⟨I,K,_⟩,L,O,Q⟩:=f.early x g q;rw[A]at F;cases F;obtain⟨S,qA,T⟩:=e.hd g true obj O;have W:Inv {w0 with hd:=fun c=>if c=g then none else hd1 c} G (gK P ops M (List.range ops.size) st) a w :=
  ⟨e.nw,e.rok,e.below,e.defers,e.size,e.sp,fun c b D n=>e.hd c b D (by
   dsimp only at n;split at n
   .cases n
   .exact n),e.tm,e.bx,e.bl,e.own⟩
 obtain⟨l,m,X,Y,Z⟩:=I W S (by simp) T K L H;have qd:w3 P C N ops w0.hd (fun c=>if c=g then none else hd1 c) (M.setIfInBounds x true) R (fun y=>if y=x then none else E y) a:=by
  refine⟨by simpa using f.szM,f.szR,fun i=>?_,fun y c j=>?_,fun y z c j s=>?_,fun y qe qf qg qh qi qj=>?_,fun c v t=>?_⟩
  .by_cases u:i=x
   .subst u;rw[Jr (by rw[f.szM];exact hlt A),f.rel,q];simp
   .rw[getD_set_ne false (Ne.symm u),f.rel,ag u]
  .by_cases p:y=x
   .rw[ak p]at j;cases j
   .rw[ag p]at j;obtain⟨qk,ql,qm,qn,qo,qp,qq,qt,qu,qv,qw⟩:=f.early y c j;refine⟨by rw[getD_set_ne false (Ne.symm p)];exact qk,ql,qm,qn,qo,qp,qq,qt,qu,?_,qw⟩;have:c≠g:=by rintro rfl;exact p (f.inj y x c j q)
    rw[ag this];exact qv
  .split at j
   .cases j
   .split at s
    .cases s
    .exact f.inj y z c j s
  .exact f.z y qe qf qg qh qi qj
  .have:c≠g:=by rintro rfl;rw[Q]at t;cases t
   rw[ag this];exact f.hd c v t
 exact⟨_,l,m,qd,X,Y,Z⟩
def akl:∀(xs:List Nat) {M:Array Bool} {E:Nat->Option Nat} {hd1:Nat->Option (Bool×Obj)} {G:Gh} {st:St} {J:Array Bool->St->Option U},xs.Nodup->(∀x∈xs,(E x).isSome=true)->w3 P C N ops w0.hd hd1 M R E a->Inv {w0 with hd:=hd1} G (gK P ops M (List.range ops.size) st) a w ->
  aqO P C (nY.Lm N) ops xs M st J=some r->∃c d f j cp,w3 P C N ops w0.hd f c R d a/\Inv {w0 with hd:=f} j (gK P ops c (List.range ops.size) cp) a w/\J c cp=some r/\(∀g,G.own g=none->j.own g=none)/\∀i,E i=none->d i=none
 |[],M,E,hd1,G,st,J,_,_,k,l,b=>⟨M,E,hd1,G,st,k,l,b,fun _ h=>h,fun _ h=>h⟩
 |x::xs,M,E,hd1,G,st,J,q,m,k,l,b=>by
  unfold aqO at b;split at b
  .rename_i L s;obtain⟨g,t⟩:=fC.1 (m x vR);obtain⟨O,Q,S,u,v,z,A⟩:=ayH (nt:=0) k l t s b;have n:=ajA.1 q;obtain⟨c,d,f,j,cp,B,D,F,H,I⟩:=akl xs n.2 (fun y p=>by
    have K:y≠x:=fun e=>n.1 (by rw[<-e];exact p)
    rw[ag K];exact m y (jG x p)) u (kk _ v) z
   refine⟨c,d,f,j,cp,B,D,F,fun g h=>H g (A g h),fun i h=>I i ?_⟩;split
   .rfl
   .exact h
  .cases b
def az2 {x y:Option U}(h:aDG x y=some r):x=some r/\y=some r:=by
 unfold aDG at h;split at h
 .rename_i e;exact⟨h,by rw[<-e];exact h⟩
 .cases h
def akm:∀{l:List (Option U)},ayk l=some r->l≠[]/\∀x∈l,x=some r
 |[],h=>by cases h
 |[x],h=>⟨by simp,fun y c=>by rw[fj.1 c];exact h⟩
 |x::y::l,h=>by
  obtain⟨d,f⟩:=az2 (show aDG x (ayk (y::l))=some r from h);refine⟨by simp,fun z b=>?_⟩;rcases cK.1 b with e|b
  .rw[e];exact d
  .exact(akm f).2 z b
def aFN {ops:Array Oper}{R:Array Bool}{i:Nat}{c:Oper}{X:Nat->Oper->Tmp->Prop}(k:R.size=ops.size)(hi:ops[i]?=some c)(h:bz P c=false):∀(x:Nat) (b:Oper) (t:Tmp),ops[x]?=some b->bz P b=true->Qg b=true->b.dst=some t->R.getD x false=false->(R.setIfInBounds i true).getD x false=true->X x b t:=by
 intro x b t d f _ _ j g;exfalso;by_cases e:i=x
 .subst e;rw[hi]at d;cases d;rw[h]at f;cases f
 .rw[getD_set_ne false e,j]at g;cases g
def aBN (zE:∀f qA,C f=some qA->Om P w0 f qA){Q:Exit->Act->World->Prop}(jq:∀c a a' w,Q (.panic c) a w->Q (.panic c) a' w)(jr:Region.noSelect ops=true){nt:Nat}(hfd:q5 P ops nt=true){k:St->Option U}(js:q9 w0 k r (Q .normal)) :
  ∀(s m n:Nat),m+n=s->∀{M R:Array Bool} {E:Nat->Option Nat} {hd1:Nat->Option (Bool×Obj)} {G:Gh} {st:St} {a:Act} {w:World},unl R ops.size<=n->a.tmps.size=nt->w3 P C N ops w0.hd hd1 M R E a ->
   Inv {w0 with hd:=hd1} G (gK P ops M (List.range ops.size) st) a w->wV P C (nY.Lm N) ops m M st k=some r->FB P ops Q (SI P C ops G w a R) n R a w:=by
 intro s
 induction s using Nat.strongRecOn with
 |ind s xk =>
 intro m n hmn M R E hd1 G st a w jt qL j A O;have hlt:∀{i:Nat} {o:Oper},ops[i]?=some o->i<ops.size:=fun h=>(sC.1 h).1
 have zF:Region.ready .any ops M=[]->ck (IY P ops M (List.range ops.size)) (k st)=some r->FB P ops Q (SI P C ops G w a R) n R a w:=by
  intro qB O;obtain⟨xO,O⟩:=aT O;have zG:=fun i u=>TV xO i (dk.2 u)
  have hEn:∀x,E x=none:=by
   intro x;cases qo:E x with
   |none=>rfl
   |some g =>
    obtain⟨qf,o,d,obj,T,ql,_⟩:=j.early x g qo;have:=zG x (hlt T) o T ql;rw[Qu qf (by rw[j.szM];exact hlt T)]at this;cases this
  rw[ags (fun i u o D hf=>zG i (dk.1 u) o D hf)]at A;have hI0:Inv w0 G st a w:=⟨A.nw,A.rok,A.below,A.defers,A.size,A.sp,fun g b o xm=>A.hd g b o (j.hd g _ xm),A.tm,A.bx,A.bl,A.own⟩;refine atA (List.eq_nil_iff_forall_not_mem.2 fun i u=>?_) (js _ _ _ _ hI0 O) n;obtain⟨qf,o,D,qm⟩:=mem_ready.1 u;have:i∈Region.ready .any ops M:=by refine mem_ready.2 ⟨(j.unM qf (hlt D)).1,o,D,fun e F K=>?_⟩;have:=qm e F K;rw[j.rel,hEn]at this;simpa using this
  rw[qB]at this;cases this
 cases m with
 |zero =>
  simp only[wV]at O;split at O
  .rename_i qB;exact zF qB O
  .cases O
 |succ m =>
  have hr0:=O;simp only[wV]at O;split at O
  .rename_i qB;exact zF qB O
  .rename_i i0 rest qB;have hCF:=fun f qA h=>A.aFb (zE f qA h:Om P {w0 with hd:=hd1} f qA)
   split at O
   ·
    rename_i qi o hp;obtain⟨qf,D,qX,aG2,aHL⟩:=XW hp;rw[<-qB]at qf;have zH:E qi=none:=by
     cases qo:E qi with
     |none=>rfl
     |some g =>
      obtain⟨_,zI,d,obj,T,ql,_⟩:=j.early qi g qo;rw[D]at T;cases T;rw[wZ qX]at ql;cases ql
    have xP:=j.ready qf zH;have qC:=(mem_ready.1 xP).1;have xQ:px P C ops o=true:=by unfold px;rw[qX];rfl
    cases n with
    |zero=>exact absurd (arj (hlt D) qC) (by omega)
    |succ n =>
     have zK:=ari (hlt D) j.szR qC;have TH:∀{v:Value} {qM:Gh} {qD:St},Inv A.root qM qD (a.put o.dst v) w->wV P C (nY.Lm N) ops m (M.setIfInBounds qi true) qD k=some r->(∃xR:World->Prop,YieldsIf P ops xR o v a/\∀W B,Sup ops R W->W.getD qi true=false->SI P C ops G w a R W B->xR B) ->
       FB P ops Q (SI P C ops G w a R) (n+1) R a w:=by
      intro v qM qD qn qg ⟨xR,H,hS0⟩;obtain⟨xn,xS,qY⟩:=A.akf qn;have qv:=xk (m+n) (by omega) m n rfl (M:=M.setIfInBounds qi true) (R:=R.setIfInBounds qi true) (by omega) (by rw[<-qL];cases o.dst<;>simp[Act.put])
       (j.next hfd D zH qC (a':=a.put o.dst v) (fun t qd=>by
        cases hd:o.dst with
        |none=>simp[Act.put]|some d=>exact mi (fun e=>qd (by rw[hd,e])) v) fun qZ=>absurd (hO qZ) (by rw[wZ qX];simp)) (kk _ xn) qg
      refine arf D (Region.noSelect_spec jr) (fun c a w hq=>jq c _ _ w hq) (fun l B=>SI.set D xQ l B) n R a w ?_ xP H hS0 (SI.refl R R) (vY n (fun W B qN X=>?_) qv)
      .intro xa xb qp qq xT aHM;exact Region.free_spec D aG2 xa xb qp qq ((j.unM xT (hlt qp)).1) aHM
      .exact SI.step j.szR ((SI.set D xQ R w).2 (SI.refl R R)) (fun g I D=>(qY g I D).1) (fun t qd=>awE a o v t (qd qi o D (fI qC))) (aFN j.szR D (wZ qX)) (Sup.set xP) qN X
     rcases XV A.from O with ⟨qe,xp,xW,u,qj⟩|⟨qe,zL,xp,u,qj⟩
     .rcases aHL with (hro|aG3)|(aHN|hbx)
      .have aHO:Jg xp o=true:=atE xW hro;obtain⟨v,qM,qD,F,qn,qg⟩:=are qX aHO u qj;exact TH qn qg ⟨_,.inl ⟨qe,F⟩,fun W B _ _ X=>X.2.1⟩
      .rw[awF A aG3]at qe;cases qe
      .obtain⟨v,qM,qD,F,qn,qg⟩:=ZN qX u qj;refine TH qn qg ⟨fun B=>Below w.heap.size w B,.inl ⟨qe,fun B xc=>F B (wX xc)⟩,fun W B xd xX X=>X.2.2.1 fun c xY qw xZ=>?_⟩;have l's:W.size=ops.size:=xd.1.symm.trans j.szR;rw[tI (by rw[l's];exact hlt qw),tI (by rw[j.szR];exact hlt qw)];rcases anU aHN qw xZ with zc|zd
       .have zM:R.getD c false=true:=by rw[j.rel,<-tI (by rw[j.szM];exact hlt qw),zc,Tv]
        rw[zM,xd.2.1 c zM]
       .cases qo:R.getD c false with
        |true=>rw[xd.2.1 c qo]
        |false =>
         cases H:W.getD c false with
         |false=>rfl
         |true =>
          refine(Qt (R:=R) (i:=qi) (fun d od hd ze xq e F K=>?_) (fI qC) xd (fI xX) 3 c xY qw qo H zd).elim;rw[j.rel,fI ze,wR]at xq;obtain⟨g,I⟩:=fC.1 xq;obtain⟨_,od',_,_,xr,_,_,xu,_⟩:=j.early d g I;rw[hd]at xr;cases xr;exact xu.2.2 e F K
      .obtain⟨t,x,zN,aG4⟩:=atD hbx;have zO:∀{zD:Nat->Bool} {qO:Nat},IX P C ops M (gK P ops M (List.range ops.size) st) qi zD=true->qO<w.heap.size->G.own qO≠some .hid->(∀qt zf,zD qt=true->look (gK P ops M (List.range ops.size) st).bx qt=some zf->G.hb qt≠qO) ->
         ∀W B,Sup ops R W->W.getD qi true=false->SI P C ops G w a R W B->B.heap[qO]?=w.heap[qO]?:=by
        intro zD qO xv hg0 hnh qq W B xd xX X;refine X.2.2.2 qO hg0 fun c xY qw xZ zg hcl=>?_
        rcases akj xv qw xZ with zc|zd|⟨qP,qt,xG,hbb,cz,aHP⟩|⟨qP,y,S,xG,H,qQ,qE,qF,hMy,hey⟩
        .have:R.getD c false=true:=by rw[j.rel,<-tI (by rw[j.szM];exact hlt qw),zc,Tv]
         rw[this]at zg;cases zg
        .refine(Qt (R:=R) (i:=qi) (fun d od hd ze xq e F K=>?_) (fI qC) xd (fI xX) 3 c xY qw zg hcl zd).elim;rw[j.rel,fI ze,wR]at xq;obtain⟨g,I⟩:=fC.1 xq;obtain⟨_,od',_,_,xr,_,_,xu,_⟩:=j.early d g I;rw[hd]at xr;cases xr;exact xu.2.2 e F K
        .have zP:=A.ev (.tmp qP);rw[show(gK P ops M (List.range ops.size) st).ev (.tmp qP)=(gK P ops M (List.range ops.size) st).get qP from rfl,hbb]at zP;obtain⟨aFO,hvt⟩:=(show _/\_ from zP);obtain⟨xw,xy⟩:=fC.1 aFO;exact .inl ⟨qP,G.hb qt,xG,fun xa xb qp qR=>atC aHP qp ((j.unM (Qu qR (by rw[j.szR];exact hlt qp)) (hlt qp)).1),hvt,qq qt xw cz xy⟩
        .cases qx:R.getD y false with
         |false=>exact .inr ⟨qP,y,S,xG,H,qQ,qE,qF,qx,hey⟩
         |true =>
          rw[j.rel,fI hMy,wR]at qx;obtain⟨g,I⟩:=fC.1 qx;obtain⟨_,oy',zh,obj,zQ,_,qh,_,aHQ,hh1,_⟩:=j.early y g I;rw[H]at zQ;cases zQ;rw[qF]at qh;cases qh;have hgh:G.own g=some .hid:=(A.hd g true obj hh1).1;refine .inl ⟨qP,g,xG,fun xa xb qp qR=>?_,?_,fun e=>hnh (by rw[<-e];exact hgh)⟩
          .refine(kZ hfd H qQ qF).2 xa xb qp fun e=>?_
           subst e;rw[j.rel,I]at qR;simp at qR
          .rw[aHQ];unfold Qg at qE;unfold mkF;split at qE
           .rename_i zi;rw[zi]
           .cases qE
       rcases aG4 with ⟨b,off,zR,xv⟩|⟨id,i,off,b,heo,hbk,hbw,xv⟩
       .obtain⟨v,qM,qD,F,qn,qg⟩:=ark u zN (aD0 xW zR) qj;have hrel:=A.ac x;rw[zR]at hrel;obtain⟨aG5,_⟩:=hrel;obtain⟨zf,hlb⟩:=fC.1 aG5;obtain⟨_,_,_,zj,_⟩:=A.bx b zf hlb;have zk:=(A.own _ _ zj).2.1;refine TH qn qg ⟨fun B=>B.heap[G.hb b]?=w.heap[G.hb b]?,.inl ⟨qe,F⟩,zO xv zk (by rw[zj];simp) fun qt xw cz xy e=>?_⟩;obtain⟨_,_,_,xz,_⟩:=A.bx qt xw xy;rw[e,zj]at xz;injection xz with qS
        injection qS with qS
        subst qS;simp at cz
       .obtain⟨aHR,hbs⟩:=aD1 xW heo;obtain⟨g,zS,zk,v,qM,qD,F,qn,qg⟩:=arl u zN aHR ((hbs id).trans hbk) hbw qj;refine TH qn qg ⟨fun B=>B.heap[g]?=w.heap[g]?,.inl ⟨qe,F⟩,zO xv zk (by rw[zS];simp) fun qt xw _ xy e=>?_⟩;obtain⟨_,_,_,xz,_⟩:=A.bx qt xw xy;rw[e,zS]at xz;injection xz with qS
        cases qS
     .exact TH u qj ⟨fun _=>True,.inr ⟨qe,rfl⟩,fun _ _ _ _ _=>trivial⟩
   .rename_i hpn;have zl:∀{B:World},w.heap.size<=B.heap.size->(∀g,g<w.heap.size->G.own g=none->B.heap[g]?=w.heap[g]?)->∀{i:Nat} {q:Oper},ops[i]?=some q->i∈Region.ready .any ops R->(px P C ops q=true->Below w.heap.size w B)->arh C q a w B->SI P C ops G w a R (R.setIfInBounds i true) B:=by
     intro B qf T i q p u ql h4;refine⟨qf,T,fun xm=>?_,fun k hk xm=>?_⟩
     .cases xA:px P C ops q with
      |true=>exact ql xA
      |false =>
       have:=xm i q p xA;rw[tI (by simp[j.szR,hlt p]),Jr (by rw[j.szR];exact hlt p),(mem_ready.1 u).1]at this;cases this
     .cases xA:px P C ops q with
      |true=>exact(ql xA).block k hk
      |false =>
       rcases xm i q p xA (fI (mem_ready.1 u).1) (Jr (by rw[j.szR];exact hlt p)) with ⟨t,g,zm,_,zn,zo⟩|⟨t,y,S,_,_,_,_,_,e6,e,F,K,zp⟩
       .exact h4 t g k zm zn hk (Ne.symm zo)
       .obtain⟨_,zT,qG,qm⟩:=mem_ready.1 u;rw[p]at qG;cases qG;have:=qm e F K;rw[zp,e6]at this;cases this
    have ahead:ajL P ops M (gK P ops M (List.range ops.size) st) (List.range ops.size)=true->∀Y,n=Y+1->∀(i:Nat) (q:Oper),i∈Region.ready .any ops R->ops[i]?=some q->bz P q=true ->
      wpOp P ops Q i (fun a' B=>SI P C ops G w a R (R.setIfInBounds i true) B/\FB P ops Q (SI P C ops G w a R) Y (R.setIfInBounds i true) a' B) a w:=by
     intro xB Y zq i q u p L;subst zq;obtain⟨qk,zT,qG,qm⟩:=mem_ready.1 u;rw[p]at qG;cases qG;have zK:=ari (hlt p) j.szR qk;obtain⟨xC,xe⟩:=j.unM qk (hlt p);obtain⟨d,hd,zr,zt,aG6⟩:=Qr (C:=C) (N:=N) L;have hpk:Lx P (gK P ops M (List.range ops.size) st) q=true:=by
      rcases akh xB i (dk.2 (hlt p)) q p L xC with qe|hk
      .exfalso;obtain⟨e,F,K,xf,qy,xg,hMe⟩:=awD qe;have:=qm e F K;rw[j.rel,fI hMe,wR]at this;obtain⟨g,I⟩:=fC.1 this;obtain⟨_,oe',_,_,zW,zX,_⟩:=j.early e.on g I;rw[qy]at zW;cases zW;rw[xg]at zX;cases zX
      .exact hk
     obtain⟨obj,zt,aHS⟩:=zt A hpk;have zY:∀(y:Nat) (S:Oper),ops[y]?=some S->bz P S=true->(∀e∈S.after,Region.binds .any e=true->R.getD e.on false=true)->abi S d=true->False:=by intro y S qT qQ qF xT;obtain⟨_,e,F,K,zp⟩:=Rt hfd qT qQ p hd xT;have:=qF e F K;rw[zp,fI qk]at this;cases this
     obtain⟨aHT,zZ⟩:=kZ hfd p L hd;have xQ:px P C ops q=true:=by unfold px;rw[L];simp
     unfold Go.wpOp;simp only[p];rw[show Region.wanted q (yielded ops a.tmps)=true by simp[Region.wanted,zr]];simp only[gr];refine .inl (Jj zt ?_);have xc:Below w.heap.size w (w.alloc obj):=⟨rfl,rfl,rfl,by simp,fun k hk=>Below.heap_alloc _ _ _ hk⟩;have qH:=zl xc.size (fun g I _=>xc.block g I) p u (fun _=>xc) (.below xc);have hI2:=(A.aHK obj).aHJ (agq p L xC hd _ st (dk.2 (hlt p))) (mkF q w.heap.size);have zu:(a.put q.dst (mkF q w.heap.size)).tmps.size=nt:=by rw[hd,<-qL];simp[Act.put]
     have zw:(a.put q.dst (mkF q w.heap.size)).tmps.getD d undef=mkF q w.heap.size:=by rw[hd];simp[Act.put,Oc,qL,aHT]
     have qI:w3 P C N ops w0.hd (fun g=>if g=w.heap.size then some (true,obj) else hd1 g) M (R.setIfInBounds i true) (fun y=>if y=i then some w.heap.size else E y) (a.put q.dst (mkF q w.heap.size)):=by
      refine⟨j.szM,by simpa using j.szR,fun y=>?_,fun y g H=>?_,fun y z g H qK=>?_,fun y S zh qT qZ qh qx=>?_,fun g v hv=>?_⟩
      .by_cases Z:y=i
       .subst Z;rw[Jr (by rw[j.szR];exact hlt p),ak rfl];simp
       .rw[getD_set_ne false (Ne.symm Z),j.rel,ag Z]
      .by_cases Z:y=i
       .rw[ak Z]at H;cases H;subst Z;refine⟨fI xC,q,d,obj,p,L,hd,⟨aG6,aHS.same fun t qd=>?_,fun e F K=>getD_set_true (qm e F K)⟩,zw,by simp,?_⟩
        .rw[hd];exact mi (fun e=>zY y q p L qm (by rw[<-e];exact qd)) _
        cases qK:w0.hd w.heap.size with
        |none=>rfl
        |some v =>
         obtain⟨b,ob⟩:=v;have:=(A.hd _ _ _ (j.hd _ _ qK)).2.1;omega
       .rw[ag Z]at H;obtain⟨q1,S,ja,aHU,zx,jb,jc,xH,q6,xh,q8⟩:=j.early y g H;refine⟨q1,S,ja,aHU,zx,jb,jc,⟨xH.1,xH.2.1.same fun t qd=>?_,fun e F K=>getD_set_true (xH.2.2 e F K)⟩,?_,?_,q8⟩
        .rw[hd];exact mi (fun e=>zY y S zx jb xH.2.2 (by rw[<-e];exact qd)) _
        .have qq:ja≠d:=fun e=>zZ y S zx Z (by rw[jc,e])
         rw[hd,mi qq];exact q6
        .have:g≠w.heap.size:=ajE (A.hd _ _ _ xh).2.1;rw[ag this];exact xh
      .by_cases Z:y=i
       .rw[ak Z]at H;cases H;by_cases xD:z=i
        .rw[Z,xD]
        .rw[ag xD]at qK;obtain⟨_,_,_,_,_,_,_,_,_,xh,_⟩:=j.early z _ qK;exact absurd (A.hd _ _ _ xh).2.1 (Ts _)
       .rw[ag Z]at H;by_cases xD:z=i
        .rw[ak xD]at qK;cases qK;obtain⟨_,_,_,_,_,_,_,_,_,xh,_⟩:=j.early y _ H;exact absurd (A.hd _ _ _ xh).2.1 (Ts _)
        .rw[ag xD]at qK;exact j.inj y z g H qK
      .by_cases Z:y=i
       .subst Z;rw[p]at qT;cases qT;rw[hd]at qh;cases qh;exact⟨_,zw.trans (akg qZ _)⟩
       .rw[getD_set_ne false (Ne.symm Z)]at qx;have qq:zh≠d:=fun e=>zZ y S qT Z (by rw[qh,e])
        rw[hd,mi qq];exact j.z y S zh qT qZ qh qx
      .obtain⟨b,ob⟩:=v;have jd:=j.hd g _ hv;have:g≠w.heap.size:=ajE (A.hd _ _ _ jd).2.1;rw[ag this];exact jd
     have qv:=xk (m+1+Y) (by omega) (m+1) Y rfl (M:=M) (R:=R.setIfInBounds i true) (by omega) zu qI (by rw[hd]at *;exact hI2) hr0;refine⟨qH,vY Y (fun W je qN X=>SI.step j.szR qH (fun g I D=>?_) (fun t qd=>awE a q _ t (qd i q p (fI qk))) (fun y S t H qQ qE qF xi qf=>?_) (Sup.set u) qN X) qv⟩
     .show(if g=w.heap.size then some Key.hid else G.own g)=none;rw[ag (ajE I)];exact D
     .by_cases e:i=y
      .subst e;rw[p]at H;cases H;rw[hd]at qF;cases qF;refine⟨⟨w.heap.size,bh _,zw.trans ?_⟩,fun xa xb qp qR=>(kZ hfd p L hd).2 xa xb qp fun e=>?_⟩
       .unfold Qg at qE;unfold mkF;split at qE
        .rename_i zi;rw[zi]
        .cases qE
       .subst e;rw[Jr (by rw[j.szR];exact hlt p)]at qR;cases qR
      .rw[getD_set_ne false e,xi]at qf;cases qf
    have aG7:∀{xj:Array Bool} {xI:Nat->Option Nat} {qh:Nat->Option (Bool×Obj)} {xK:Gh} {cp:St},w3 P C N ops w0.hd qh xj R xI a->Inv {w0 with hd:=qh} xK cp a w->(∀g,g<w.heap.size->G.own g=none->xK.own g=none)->∀Y,n=Y+1->∀(i:Nat) (q:Oper),i∈Region.ready .any ops R->ops[i]?=some q->bz P q=false->xI i=none ->
      Qf P C (nY.Lm N) ops.toList q cp (fun st=>wV P C (nY.Lm N) ops m (xj.setIfInBounds i true) st k)=some r ->
      wpOp P ops Q i (fun a' B=>SI P C ops G w a R (R.setIfInBounds i true) B/\FB P ops Q (SI P C ops G w a R) Y (R.setIfInBounds i true) a' B) a w:=by
     intro xj xI qh xK cp qI xL zy Y zq i q u p L xe hr';subst zq;have aHV:=fun f qA h=>xL.aFb (zE f qA h:Om P {w0 with hd:=qh} f qA)
     have qk:=(mem_ready.1 u).1;have zK:=ari (hlt p) j.szR qk;unfold Go.wpOp;simp only[p];rcases XV xL.from hr' with ⟨qe,xp,_,xE,qj⟩|⟨qe,zL,xp,xE,qj⟩
     .rw[qe];simp only[gr];refine .inl (Oper.wp_mono (fun a' B h'=>?_) (awC aHV xE qj (qI.fresh u p) (qI.dlt hfd qL p)));obtain⟨⟨⟨⟨qM,qD,qn,qg⟩,aHW⟩,jf⟩,zu,jg⟩:=h';obtain⟨xn,xS,qY⟩:=xL.akf qn;have qH:=zl xS (fun g I D=>(qY g I (zy g I D)).2) p u aHW jf.2;have qv:=xk (m+Y) (by omega) m Y rfl (M:=xj.setIfInBounds i true) (R:=R.setIfInBounds i true) (by omega) (zu.trans qL) (qI.next hfd p xe qk jg jf.1) (kk _ xn) qg;exact⟨qH,vY Y (fun W je qN X=>SI.step j.szR qH (fun g I D=>(qY g I (zy g I D)).1) (fun t qd=>jg t (qd i q p (fI qk))) (aFN j.szR p L) (Sup.set u) qN X) qv⟩
     .rw[qe];simp only[apb,fG];obtain⟨xn,xS,qY⟩:=xL.akf xE;have qH:=zl (bh _) (fun g I D=>rfl) p u (fun _=>Below.refl _ w) (.below (Below.refl _ w));have qv:=xk (m+Y) (by omega) m Y rfl (M:=xj.setIfInBounds i true) (R:=R.setIfInBounds i true) (by omega) (by rw[<-qL];cases q.dst<;>simp[Act.put])
       (qI.next hfd p xe qk (a':=a.put q.dst undef) (fun t qd=>by
        cases hd:q.dst with
        |none=>simp[Act.put]|some d=>exact mi (fun e=>qd (by rw[hd,e])) undef) fun qZ=>by obtain⟨_,_,hgd,_⟩:=Qr (C:=C) (N:=N) (hO qZ);simp[Region.wanted,hgd]at qe) (kk _ xn) qj
      exact⟨qH,vY Y (fun W je qN X=>SI.step j.szR qH (fun g I D=>(qY g I (zy g I D)).1) (fun t qd=>awE a q undef t (qd i q p (fI qk))) (aFN j.szR p L) (Sup.set u) qN X) qv⟩
    have ji:∀(x i:Nat) (q:Oper),E x=none\/ops.size<=x->i∈Region.ready .any ops R->ops[i]?=some q->bz P q=false->i∈Region.ready .any ops (jJ P ops x (List.range ops.size) M):=by
     intro x i q qu u p L;obtain⟨qk,zT,qG,qm⟩:=mem_ready.1 u;rw[p]at qG;cases qG;obtain⟨xC,xe⟩:=j.unM qk (hlt p);refine mem_ready.2 ⟨?_,q,p,fun e F K=>?_⟩
     .rw[n1 p (.inl L)];exact xC
     .have:=qm e F K;rw[j.rel,jH]at this;rcases this with xF|hEe
      .exact w2 _ xF
      .obtain⟨g,I⟩:=fC.1 hEe;obtain⟨_,xf,_,_,qy,xg,_⟩:=j.early e.on g I;refine s6 qy xg (fun e'=>?_) _ (by rw[j.szM];exact hlt qy) (dk.2 (hlt qy));rcases qu with qu|qu
       .rw[e',qu]at I;cases I
       .have:=hlt qy;omega
    split at O
    ·
     rename_i x o qo;obtain⟨qf,D,xO,xB⟩:=XX qo;rw[<-qB]at qf;cases qu:E x with
     |some g =>
      obtain⟨T,zI,d,obj,qW,L,_⟩:=j.early x g qu;rw[D]at qW;cases qW;obtain⟨_,_,zr,_,_⟩:=Qr (C:=C) (N:=N) L;have qj:fk P C (nY.Lm N) o (gK P ops M (List.range ops.size) st) (fun st=>wV P C (nY.Lm N) ops m (M.setIfInBounds x true) st k)=some r:=by unfold Qf at O;rw[zr]at O;exact O
      obtain⟨hd2,zL,xp,qI,xE,qg,aHX⟩:=ayH (nt:=nt) j A qu D qj;have qv:=xk (m+n) (by omega) m n rfl (M:=M.setIfInBounds x true) (R:=R) jt qL qI (kk _ xE) qg;exact vY n (fun W B _ X=>⟨X.1,fun jk hg' qW=>X.2.1 jk hg' (aHX jk qW),X.2.2⟩) qv
     |none =>
      have zz:=j.ready qf qu;have qC:=(mem_ready.1 zz).1;cases n with
      |zero=>exact absurd (arj (hlt D) qC) (by omega)
      |succ n =>
       refine⟨fun xi=>by(rw[xi]at zz;cases zz),fun i u=>?_⟩;obtain⟨_,q,p,_⟩:=mem_ready.1 u;cases L:bz P q with
       |true=>exact ahead xB n rfl i q u p L
       |false =>
        have hix:=apt xO i (ji x i q (.inl qu) u p L);subst hix;rw[D]at p;cases p;exact aG7 j A (fun _ _ h=>h) n rfl i o u D L qu O
    ·
     obtain⟨jl,O⟩:=aT O;rw[aE]at jl;obtain⟨xB,hff⟩:=jl;obtain⟨qq,hbr⟩:=akm O;obtain⟨i0,hi0⟩:∃i0,i0∈ai9 P ops M:=by
      cases hrn:ai9 P ops M with
      |nil=>rw[hrn]at qq;exact absurd rfl qq|cons i0 _=>exact⟨i0,vR⟩
     obtain⟨zA,zB,qz,aFP⟩:=mem_ready.1 hi0;have xM:bz P zB=false:=by
      cases xM:bz P zB with
      |false=>rfl
      |true =>
       have:=s6 qz xM (ajE (hlt qz)) (List.range ops.size) (by rw[j.szM];exact hlt qz) (dk.2 (hlt qz));rw[fI zA]at this;cases this
     have jm:R.getD i0 true=false:=by
      rw[n1 qz (.inl xM)]at zA;refine Qu ?_ (by rw[j.szR];exact hlt qz);rw[j.rel,fI zA,wR];cases qo:E i0 with
      |none=>rfl
      |some g =>
       obtain⟨_,zI,_,_,qW,jn,_⟩:=j.early i0 g qo;rw[qz]at qW;cases qW;rw[xM]at jn;cases jn
     cases n with
     |zero=>exact absurd (arj (hlt qz) jm) (by omega)
     |succ n =>
      refine⟨fun xi=>?_,fun i u=>?_⟩
      .exfalso;have aHY:∀(y:Nat) (S:Oper),ops[y]?=some S->bz P S=true->R.getD y false=true:=by
        intro y S H qQ;cases qx:R.getD y false with
        |true=>rfl
        |false =>
         exfalso;have hy1:=j.unM (Qu qx (by rw[j.szR];exact hlt H)) (hlt H);have:=dh.1 hff y (dk.2 (hlt H));rw[H]at this;dsimp only at this;rw[qQ,hy1.1]at this;simp only[aX,wR]at this;have:y∈Region.ready .any ops R:=mem_ready.2 ⟨Qu qx (by rw[j.szR];exact hlt H),S,H,fun e F K=>by have T:=Array.all_eq_true'.1 this e F;rw[K]at T;simp only[aX,wR]at T;rw[j.rel,T,Tv]⟩
         rw[xi]at this;cases this
       have:i0∈Region.ready .any ops R:=mem_ready.2 ⟨jm,zB,qz,fun e F K=>by
        have T:=aFP e F K;cases xF:M.getD e.on false with
        |true=>rw[j.rel,xF,Tv]
        |false =>
         have zC:e.on<ops.size:=by
          rcases Rr e.on ops.size with h|h
          .exact h
          .exfalso;rw[HB (av2 h),xF]at T;cases T
         obtain⟨xf,qy⟩:∃xf,ops[e.on]?=some xf:=⟨_,avY zC⟩;cases xg:bz P xf with
         |true=>exact aHY e.on xf qy xg
         |false =>
          exfalso;rw[<-tI (by rw[HA,j.szM];exact zC),n1 qy (.inl xg),tI (by rw[j.szM];exact zC),xF]at T;cases T⟩
       rw[xi]at this;cases this
      .obtain⟨_,q,p,qm⟩:=mem_ready.1 u;cases L:bz P q with
       |true=>exact ahead xB n rfl i q u p L
       |false =>
        have hnf:i∈ai9 P ops M:=ji ops.size i q (.inr (bh _)) u p L;have ql:=hbr _ (Ey.2 ⟨i,hnf,rfl⟩);rw[p]at ql;dsimp only at ql;have xe:E i=none:=(j.unM (mem_ready.1 u).1 (hlt p)).2;obtain⟨xj,xI,qh,xK,cp,zm,qS,zn,zo,e5⟩:=akl (aBj P ops M q) (List.nodup_range.filter _) (fun y H=>by
         obtain⟨_,xN⟩:=List.mem_filter.1 H;split at xN
         .rename_i S qT;simp only[aE,abc]at xN;obtain⟨⟨_,xu⟩,h6⟩:=xN;obtain⟨e,F,K⟩:=apc.1 h6;rw[aE]at K;have jo:=qm e F K.1;rw[aK K.2,j.rel,fI xu,wR]at jo;exact jo
         .cases xN) j (kk _ A) ql
        exact aG7 zm qS (fun g _ h=>zo g h) n rfl i q u p L (e5 i xe) zn
def anV (j:∀f e,C f=some e->Om P w0 f e){Q:Exit->Act->World->Prop}(l:∀c a m w,Q (.panic c) a w->Q (.panic c) m w)(n:Region.noSelect ops=true)(hfd:q5 P ops st.nt=true){k:St->Option U}(p:q9 w0 k r (Q .normal))
  (h:Inv w0 G st a w) (q:wV P C (nY.Lm N) ops ops.size (Array.replicate ops.size false) st k=some r):wpAny P .any ops Q ops.size (Array.replicate ops.size false) a w:=by
 refine akd _ _ _ _ (aBN (hd1:=w0.hd) (E:=fun _=>none) j l n hfd p _ _ _ rfl ?_ h.size ⟨by simp,by simp,fun i=>(by simp),fun x g b=>(by cases b),fun x y g b=>(by cases b),fun x s d _ _ _ b=>absurd b (by rw[aBM];simp),fun _ _ h=>h⟩ (kk _ h) q);refine aU av7 ?_;simp
end
end
end Go.Am
