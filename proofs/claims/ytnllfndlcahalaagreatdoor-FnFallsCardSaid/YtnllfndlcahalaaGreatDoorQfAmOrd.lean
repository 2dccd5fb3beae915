/- No condition. -/
import Derived.Test.YtnllfndlcahalaaGreatDoorQfAmDraw
import Derived.Test.YtnllfndlcahalaaGreatDoorQfAmKeep
import Derived.OrdersHeld
set_option linter.all false
namespace Go.Am
open Go.RowKit
section
variable {N:Nat} {P:Program} {C:FuncId->Option Any} {w0:fc} {w:World} {G:Gh} {st:St} {a:Act} {U:Type} {r:U} {o:Oper}
def Sup (ops:Array Oper)(l b:Array Bool):Prop :=
 l.size=b.size/\(∀i,l.getD i false=true->b.getD i false=true) /\
  ∀i o,ops[i]?=some o->l.getD i false=false->b.getD i false=true->∀e∈o.after,Region.binds .any e=true->b.getD e.on false=true
def Sup.refl (ops:Array Oper)(l:Array Bool):Sup ops l l:=⟨rfl,fun _ h=>h,fun _ _ _ h b=>by rw[h]at b;cases b⟩
def Sup.trans {ops:Array Oper}{a b c:Array Bool}(h:Sup ops a b)(k:Sup ops b c):Sup ops a c :=
 ⟨h.1.trans k.1,fun i l=>k.2.1 i (h.2.1 i l),fun i o d m n e f g=>by
  cases j:b.getD i false with
  |true=>exact k.2.1 _ (h.2.2 i o d m j e f g)|false=>exact k.2.2 i o d j n e f g⟩
def Sup.set {ops:Array Oper}{l:Array Bool}{i:Nat}(hi:i∈Region.ready .any ops l):Sup ops l (l.setIfInBounds i true):=by
 refine⟨by simp,fun _ h=>getD_set_true h,fun f o g j b e k m=>?_⟩;by_cases c:i=f
 .subst c;obtain⟨_,p,d,n⟩:=mem_ready.1 hi;rw[g]at d;cases d;exact getD_set_true (n e k m)
 .rw[getD_set_ne false c,j]at b;cases b
def Dm {l:Array Bool}{i:Nat}(h:i<l.size):l.getD i true=l.getD i false:=by simp[Po,h]
def OX (P:Program)(ops:Array Oper)(Q:Exit->Act->World->Prop)(S:Array Bool->World->Prop):Nat->Array Bool->Act->World->Prop
 |0,l,a,w=>Region.ready .any ops l=[]/\Q .normal a w
 |n+1,l,a,w =>
  (Region.ready .any ops l=[]->Q .normal a w) /\
  ∀i∈Region.ready .any ops l,wpOp P ops Q i (fun c b=>S (l.setIfInBounds i true) b/\OX P ops Q S n (l.setIfInBounds i true) c b) a w
def anG {ops:Array Oper}{Q:Exit->Act->World->Prop}{S:Array Bool->World->Prop}:∀(n:Nat) (l:Array Bool) (a:Act) (w:World),OX P ops Q S n l a w->wpAny P .any ops Q n l a w
 |0,_,_,_,h=>h|n+1,_,_,_,h=>⟨h.1,fun i b=>wpOp_mono (fun c d e=>anG n _ c d e.2) (h.2 i b)⟩
def wT {ops:Array Oper}{Q:Exit->Act->World->Prop}{S e:Array Bool->World->Prop}:∀(n:Nat) {l:Array Bool} {a:Act} {w:World},(∀b c,Sup ops l b->e b c->S b c)->OX P ops Q e n l a w->OX P ops Q S n l a w
 |0,_,_,_,_,h=>h|n+1,l,_,_,f,h=>⟨h.1,fun i d=>wpOp_mono (fun k c g=>⟨f _ _ (Sup.set d) g.1,wT n (fun b c j=>f b c ((Sup.set d).trans j)) g.2⟩) (h.2 i d)⟩
def ax5 {ops:Array Oper}{Q:Exit->Act->World->Prop}{S:Array Bool->World->Prop}{l:Array Bool}{a:Act}{w:World}(b:Region.ready .any ops l=[])(h:Q .normal a w):∀n,OX P ops Q S n l a w
 |0=>⟨b,h⟩|_+1=>⟨fun _=>h,by rw[b];simp⟩
def avs {ops:Array Oper}{Q:Exit->Act->World->Prop}{S:Array Bool->World->Prop}{F:World->Prop}{i:Nat}{g:Oper}{v:Value}(hi:ops[i]?=some g)
  (I:∀(j:Nat) (o:Oper) cs b,ops[j]?=some o->o.op≠.select cs b) (Y:∀c a w,Q (.panic c) (a.put g.dst v) w->Q (.panic c) a w) (z:∀l w,S (l.setIfInBounds i true) w↔S l w) :
  ∀(u:Nat) (l:Array Bool) (a:Act) (w:World),
   (∀j m,ops[j]?=some m->j≠i->l.getD j true=false->(∀e∈m.after,Region.binds .any e=true->e.on≠i)->g.apart ops m=true) ->
   i∈Region.ready .any ops l->YieldsIf P ops F g v a->(∀p q,Sup ops l p->p.getD i true=false->S p q->F q)->S l w ->
   OX P ops Q S u (l.setIfInBounds i true) (a.put g.dst v) w->OX P ops Q S (u+1) l a w:=by
 intro u
 induction u with
 |zero =>
  intro l a w _ d x y s H;refine⟨fun h=>(by rw[h]at d;cases d),fun j t=>?_⟩;by_cases f:j=i
  .subst f;exact x.wpOp hi (y l w (Sup.refl ops l) (mem_ready.1 d).1 s) ⟨(z l w).2 s,H⟩
  .have:=ready_mono t f;rw[H.1]at this;cases this
 |succ u Z =>
  intro l a w K d x y s H;refine⟨fun h=>(by rw[h]at d;cases d),fun j t=>?_⟩;by_cases f:j=i
  .subst f;exact x.wpOp hi (y l w (Sup.refl ops l) (mem_ready.1 d).1 s) ⟨(z l w).2 s,H⟩
  .have n:=H.2 j (ready_mono t f);obtain⟨L,m,A,qd⟩:=mem_ready.1 t;have qe:∀e∈m.after,Region.binds .any e=true->e.on≠i:=fun e qf qg qh=>by
    have n:=qd e qf qg;have O:=(mem_ready.1 d).1;rw[qh]at n;rcases S2 i l.size with B|B
    .rw[Dm B]at O;rw[O]at n;cases n
    .simp[Array.getElem?_eq_none B]at n
   have qi:=wpOp_putIf A (K j m A f L qe) (fun cs b=>I i g cs b hi) (fun cs b=>I j m cs b A) Y x n;have qj:∀k ok,ops[k]?=some ok->k≠i->(l.setIfInBounds j true).getD k true=false ->
     (∀e∈ok.after,Region.binds .any e=true->e.on≠i)->g.apart ops ok=true:=fun k ok qk ql T qm=>by
    refine K k ok qk ql ?_ qm;by_cases W:j=k
    .subst W;exact L
    .rw[getD_set_ne true W]at T;exact T
   refine wpOp_mono (fun qn q D=>?_) qi;have X:S (l.setIfInBounds j true) q:=by have:=D.2.1;rw[Array.setIfInBounds_comm _ _ (Ne.symm f)]at this;exact(z _ _).1 this
   refine⟨X,Z (l.setIfInBounds j true) qn q qj (ready_mono d (Ne.symm f)) D.1 (fun p qo qp=>y p qo ((Sup.set t).trans qp)) X ?_⟩;rw[Array.setIfInBounds_comm _ _ f];exact D.2.2
def Off (C:FuncId->Option Any)(ops:Array Oper)(a:Act)(d:Array Bool)(k:Nat)(e:Oper):Prop :=
 ∃t g,agx C e=some t/\(∀b c,ops[b]?=some c->d.getD b false=false->c.dst≠some t)/\a.tmps.getD t undef=.pointer (some ⟨g,0,none⟩)/\g≠k
def SI (P:Program)(C:FuncId->Option Any)(ops:Array Oper)(G:Gh)(w:World)(a:Act)(d l:Array Bool)(w':World):Prop :=
 w.heap.size<=w'.heap.size/\(∀g,g<w.heap.size->G.own g=none->w'.heap[g]?=w.heap[g]?) /\
  ((∀c b,ops[c]?=some b->p2 P C ops b=false->l.getD c true=d.getD c true)->Below w.heap.size w w') /\
  ∀k,k<w.heap.size->(∀c b,ops[c]?=some b->p2 P C ops b=false->d.getD c false=false->l.getD c false=true->Off C ops a d k b)->w'.heap[k]?=w.heap[k]?
def SI.refl {ops:Array Oper}(b l:Array Bool):SI P C ops G w a b l w:=⟨bG _,fun _ _ _=>rfl,fun _=>Below.refl _ w,fun _ _ _=>rfl⟩
def SI.set {ops:Array Oper}{n:Array Bool}{i:Nat}{p:Oper}(hi:ops[i]?=some p)(s:p2 P C ops p=true)(l:Array Bool)(w':World):SI P C ops G w a n (l.setIfInBounds i true) w'↔SI P C ops G w a n l w':=by
 have ne:∀c b,ops[c]?=some b->p2 P C ops b=false->i≠c:=by intro c b d e;rintro rfl;rw[hi]at d;cases d;rw[s]at e;cases e
 have key:∀c b,ops[c]?=some b->p2 P C ops b=false->(l.setIfInBounds i true).getD c true=l.getD c true:=fun c b d e=>getD_set_ne true (ne c b d e)
 have q:∀c b,ops[c]?=some b->p2 P C ops b=false->(l.setIfInBounds i true).getD c false=l.getD c false:=fun c b d e=>getD_set_ne false (ne c b d e)
 refine⟨fun h=>⟨h.1,h.2.1,fun f=>h.2.2.1 fun c b d e=>(key c b d e).trans (f c b d e),fun k g f=>h.2.2.2 k g fun c b d e j m=>f c b d e j (by rw[<-q c b d e];exact m)⟩,
  fun h=>⟨h.1,h.2.1,fun f=>h.2.2.1 fun c b d e=>((key c b d e).symm.trans (f c b d e)),fun k g f=>h.2.2.2 k g fun c b d e j m=>f c b d e j (by rw[q c b d e];exact m)⟩⟩
def SI.step {ops:Array Oper}{e f q:Array Bool}{w1 F:World}{H:Gh}{I:Act}(O:e.size=ops.size)(h:SI P C ops G w a e f w1)(Q:∀g,g<w.heap.size->G.own g=none->H.own g=none)
  (S:∀t,(∀l s,ops[l]?=some s->e.getD l false=false->s.dst≠some t)->I.tmps.getD t undef=a.tmps.getD t undef) (x:Sup ops e f) (y:Sup ops f q) (u:SI P C ops H w1 I f q F):SI P C ops G w a e q F:=by
 refine⟨bX h.1 u.1,fun g z K=>(u.2.1 g (E1 z h.1) (Q g z K)).trans (h.2.1 g z K),fun m=>?_,fun k n m=>?_⟩
 .have mid:∀c d,ops[c]?=some d->p2 P C ops d=false->f.getD c true=e.getD c true:=by
   intro c d b i;have hlt:c<ops.size:=(BF.1 b).1;have A:=m c d b i;have T:f.size=ops.size:=x.1.symm.trans O;have qf:q.size=ops.size:=y.1.symm.trans T;rw[Dm (by omega),Dm (by omega)]at A ⊢;cases v:e.getD c false with
   |true=>exact x.2.1 c v
   |false =>
    cases W:f.getD c false with
    |false=>rfl
    |true =>
     rw[y.2.1 c W,v]at A;cases A
  have j:=h.2.2.1 mid;have p:=u.2.2.1 fun c d b i=>(m c d b i).trans (mid c d b i).symm
  exact⟨p.os.trans j.os,p.tape.trans j.tape,p.output.trans j.output,bX j.size p.size,fun k n=>(p.block k (E1 n j.size)).trans (j.block k n)⟩
 .have aK9:∀c,f.getD c false=false->e.getD c false=false:=by
   intro c b;cases v:e.getD c false with
   |false=>rfl|true=>rw[x.2.1 c v]at b;cases b
  refine(u.2.2.2 k (E1 n h.1) fun c d b i B D=>?_).trans (h.2.2.2 k n fun c d b i B D=>m c d b i B (y.2.1 c D));obtain⟨t,g,X,L,Y,Z⟩:=m c d b i (aK9 c B) D;exact⟨t,g,X,fun l s qd qe=>L l s qd (aK9 l qe),(S t L).trans Y,Z⟩
def Inv.aEL (h:Inv w0 G st a w){d g:Nat}(z:look st.bx d=none)(qg:d<st.nt)(p:G.own g=some .hid)(K:w0.hd g=none){cs:Array Value}{e:TypeId}(L:w.heap[g]?=some (.cells cs e (0,0))){l:List AC}
  (O:ch (bC G w st.bx st.bl) l cs.toList) (Q:a.tmps.getD d undef=.pointer (some ⟨g,0,none⟩)) :
  Inv w0 (G.box d g) {(st.put d (.v (.c (.ptr d 0)))) with bx:=(d,l)::st.bx} a w:=by
 have q:ang G w (G.box d g) w:=⟨rfl,rfl,bG _,fun b D A=>⟨by
  have:b≠g:=by rintro rfl;rw[p]at A;cases A
  simp[Gh.box,this,A],rfl⟩⟩
 have S:∀x,(look st.bx x).isSome=true->x≠d:=by rintro x c rfl;rw[z]at c;cases c
 have c:kI G st.bx st.bl (G.box d g) ((d,l)::st.bx) st.bl:=by refine⟨fun x c=>⟨wS _ trivial c,by simp[Gh.box,S x c]⟩,fun id z=>⟨z,rfl,fun T W=>⟨T,W,rfl⟩⟩⟩
 refine⟨h.nw,h.rok,h.below,h.defers,h.size,jP.lY q c h.sp,fun f b o i=>?_,fun t v s=>?_,fun x m i=>?_,fun id b D=>?_,fun f k y=>?_⟩
 .obtain⟨u,j,n⟩:=h.hd f b o i;refine⟨?_,j,n⟩;have:f≠g:=by rintro rfl;rw[K]at i;cases i
  simp only[Gh.box,this,gu];exact u
 .simp only[St.put,au]at s;by_cases F:d=t
  .subst F;rw[ag rfl]at s;cases s;rw[Q];exact⟨by simp[au],by simp[Gh.box]⟩
  .rw[af F]at s;exact jP.lY q c (h.tm t v s)
 .simp only[au]at i;by_cases B:d=x
  .subst B;rw[ag rfl]at i;cases i;exact⟨cs,e,by simpa [Gh.box]using L,by simp[Gh.box],O.imp fun _ _=>bC.lY q c⟩
  .rw[af B]at i;obtain⟨X,Y,u,j,n⟩:=h.bx x m i;have H:x≠d:=fun e=>B e.symm
   have Z:G.hb x≠g:=by intro qd;rw[qd,p]at j;cases j
   exact⟨X,Y,by simpa [Gh.box,H]using u,by simp[Gh.box,H,Z,j],n.imp fun _ _=>bC.lY q c⟩
 .refine(h.bl id b D).lY q rfl fun qh f qi bp=>⟨?_,rfl⟩
  have:f≠g:=by rintro rfl;rw[p]at bp;cases bp
  simp[Gh.box,this,bp]
 .by_cases I:f=g
  .subst I;simp only[Gh.box,gL]at y;cases y;exact⟨(h.own f _ p).1,(h.own f _ p).2.1,by simp[au],by simp[Gh.box]⟩
  .simp only[Gh.box,I,gu]at y;obtain⟨u,j,n⟩:=h.own f k y;refine⟨u,j,?_⟩;cases k with
   |hid=>trivial
   |bx x =>
    obtain⟨qe,qf⟩:=c.bx x n.1;exact⟨qe,by rw[qf];exact n.2⟩
   |bl id=>exact n
def Gh.rowAt (G:Gh)(id g:Nat)(v:Value):Gh :=
 {nw:=G.nw,ok:=G.ok,hb:=G.hb,hv:=fun x=>if x=id then v else G.hv x,own:=fun x=>if x=g then some (.bl id) else G.own x}
def Inv.aEM (h:Inv w0 G st a w){d g:Nat}(W:look st.bl (d*64)=none)(qo:d<st.nt)(q:G.own g=some .hid)(X:w0.hd g=none){e:TypeId}{cs:List Value}(Y:w.heap[g]?=some (.cells cs.toArray e (0,0))){u:Ty}(Z:0<u.n){n:Nat}{xs:List u.D}{f:Bool}
  (I:xs.length=n) (D:cs.length=xs.length*u.n) (qd:n<=maxLen) (qe:fi w (RO G f) u cs xs)
  (qf:a.tmps.getD d undef=.slice (some ⟨g,0,none⟩) n n) :
  Inv w0 (G.rowAt (d*64) g (.slice (some ⟨g,0,none⟩) n n)) {(st.put d (.v (.c (.own (d*64) none)))) with bl:=(d*64,some ⟨e,u,xs,f,true⟩)::st.bl} a w:=by
 have s:ang G w (G.rowAt (d*64) g (.slice (some ⟨g,0,none⟩) n n)) w:=⟨rfl,rfl,bG _,fun b p F=>⟨by
  have:b≠g:=by rintro rfl;rw[q]at F;cases F
  simp[Gh.rowAt,this,F],rfl⟩⟩
 have K:∀x,(look st.bl x).isSome=true->x≠d*64:=by rintro x c rfl;rw[W]at c;cases c
 have c:kI G st.bx st.bl (G.rowAt (d*64) g (.slice (some ⟨g,0,none⟩) n n)) st.bx ((d*64,some ⟨e,u,xs,f,true⟩)::st.bl):=by refine⟨fun x c=>⟨c,rfl⟩,fun id c=>⟨wS _ trivial c,by simp[Gh.rowAt,K id c],fun qg L=>?_⟩⟩;rw[au,af (fun e=>K id c e.symm)]at L;exact⟨qg,L,rfl⟩
 refine⟨h.nw,h.rok,h.below,h.defers,h.size,jP.lY s c h.sp,fun i b o y=>?_,fun t v z=>?_,fun x m y=>?_,fun id b p=>?_,fun i k B=>?_⟩
 .obtain⟨A,j,l⟩:=h.hd i b o y;refine⟨?_,j,l⟩;have:i≠g:=by rintro rfl;rw[X]at y;cases y
  simp only[Gh.rowAt,this,gu];exact A
 .simp only[St.put,au]at z;by_cases O:d=t
  .subst O;rw[ag rfl]at z;cases z;rw[qf];exact⟨by simp[au],⟨some ⟨g,0,none⟩,n,n,by simp[Gh.rowAt]⟩,by simp[Gh.rowAt]⟩
  .rw[af O]at z;exact jP.lY s c (h.tm t v z)
 .obtain⟨qh,qi,A,j,l⟩:=h.bx x m y;have qj:G.hb x≠g:=by intro qk;rw[qk,q]at j;cases j
  exact⟨qh,qi,A,by simp[Gh.rowAt,qj,j],l.imp fun _ _=>bC.lY s c⟩
 .simp only[au]at p;by_cases H:d*64=id
  .subst H;rw[ag rfl]at p;cases p;refine⟨fun _=>⟨cs,⟨D,.inr ⟨g,n,cs.toArray,by simp[Gh.rowAt,I],aR _,Y,by show xs.length<=n;omega,qd,by simp[D,I],?_⟩⟩,fun i Q=>?_,qe.lY s⟩,(fun S=>by cases S),Z⟩
   .show List.take (xs.length*u.n) cs.toArray.toList=cs;rw[<-D];simp
   .simp only[Gh.rowAt,gL,Value.ownBlock]at Q ⊢;cases Q;simp
  .rw[af H]at p;have ql:id≠d*64:=fun e=>H e.symm
   refine(h.bl id b p).lY s (by simp[Gh.rowAt,ql]) fun S i qp bp=>⟨?_,rfl⟩
   have:i≠g:=by rintro rfl;rw[q]at bp;cases bp
   simp[Gh.rowAt,this,bp]
 .by_cases T:i=g
  .subst T;simp only[Gh.rowAt,gL]at B;cases B;exact⟨(h.own i _ q).1,(h.own i _ q).2.1,by simp[au],by simp[Gh.rowAt,Value.ownBlock]⟩
  .simp only[Gh.rowAt,T,gu]at B;obtain⟨A,j,l⟩:=h.own i k B;refine⟨A,j,?_⟩;cases k with
   |hid=>trivial|bx x=>exact l
   |bl id =>
    obtain⟨qm,qn,_⟩:=c.bl id l.1;exact⟨qm,by rw[qn];exact l.2⟩
def ny {d t:Nat}(h:t≠d)(u:Value):(a.put (some d) u).tmps.getD t undef=a.tmps.getD t undef:=by simp[Act.put,Po,aCM,Ne.symm h]
def Inv.aLK (h:Inv w0 G st a w){d:Nat}(c:look st.tm d=none)(u:Value):Inv w0 G st (a.put (some d) u) w:=by refine {h with defers:=h.defers,size:=by simp[Act.put,h.size],tm:=fun t v b=>?_};rw[ny (by rintro rfl;rw[c]at b;cases b)];exact h.tm t v b
def Inv.aLL (h:Inv w0 G st a w)(o:Obj) :
  Inv {w0 with hd:=fun g=>if g=w.heap.size then some (true,o) else w0.hd g} {G with own:=fun g=>if g=w.heap.size then some .hid else G.own g} st a (w.alloc o):=by
 have q:∀b,b<w.heap.size->b≠w.heap.size:=fun b f=>Nat.ne_of_lt f
 have hold:∀b,b<w.heap.size->(w.alloc o).heap[b]?=w.heap[b]?:=fun b f=>by show(w.heap.push o)[b]?=_;rw[Array.getElem?_push,af (q b f)]
 have H:(w.alloc o).heap.size=w.heap.size+1:=by show(w.heap.push o).size=_;rw[Array.size_push]
 have s:ang G w {G with own:=fun g=>if g=w.heap.size then some .hid else G.own g} (w.alloc o):=⟨rfl,rfl,by omega,fun b f u=>⟨by simp[q b f,u],hold b f⟩⟩;have y:kI G st.bx st.bl {G with own:=fun g=>if g=w.heap.size then some .hid else G.own g} st.bx st.bl:=⟨fun _ h=>⟨h,rfl⟩,fun _ h=>⟨h,rfl,fun z A=>⟨z,A,rfl⟩⟩⟩;refine⟨h.nw,h.rok,h.below.step rfl rfl rfl (by omega) fun k i _=>hold k (E1 i h.below.size),h.defers,h.size,jP.lY s y h.sp,fun g b B m=>?_,fun t v D=>jP.lY s y (h.tm t v D),fun d l F=>?_,fun id b f=>?_,fun g k i=>?_⟩
 .dsimp only at m;by_cases c:g=w.heap.size
  .rw[ag c]at m;cases m;subst c;exact⟨by simp[aCU],by omega,by show(w.heap.push o)[w.heap.size]?=_;rw[Array.getElem?_push,ag rfl]⟩
  .rw[af c]at m;obtain⟨n,p,j⟩:=h.hd g b B m;exact⟨by simp[c,n],by omega,(hold g p).trans j⟩
 .obtain⟨cs,e,n,p,j⟩:=h.bx d l F;have hlt:=(h.own _ _ p).2.1;exact⟨cs,e,(hold _ hlt).trans n,by simp[q _ hlt,p],j.imp fun _ _=>bC.lY s y⟩
 .exact E5.lY s rfl (fun I g c u=>by have hlt:=(h.own _ _ u).2.1;exact⟨by simp[q _ hlt,u],hold _ hlt⟩) (h.bl id b f)
 .dsimp only at i;by_cases c:g=w.heap.size
  .rw[ag c]at i;cases i;exact⟨.inl (by rw[c];exact h.below.size),by omega,trivial⟩
  .rw[af c]at i;obtain⟨n,p,j⟩:=h.own g k i;refine⟨n,by omega,?_⟩;cases k with
   |hid=>trivial|bx x=>exact j|bl id=>exact j
def JG {V:Type}(t s:Nat):∀l:List (Nat×V),look (l.filter fun p=> !Nat.beq p.1 t) s=if s=t then none else look l s
 |[]=>by simp[look]
 |(k,v)::l=>by
  have d:=JG t s l;by_cases c:k=t
  .have:(!Nat.beq (k,v).1 t)=false:=by simp[c]
   rw[List.filter_cons_of_neg (by simp[this]),d,au];by_cases b:s=t
   .simp[b]
   .simp[b,c,Ne.symm b]
  .have e:(!Nat.beq (k,v).1 t)=true:=by
    cases h:Nat.beq k t with
    |true=>exact absurd (aO h) c|false=>simp[h]
   rw[List.filter_cons_of_pos (p:=fun p:Nat×V=> !Nat.beq p.1 t) e,au,au,d];by_cases b:s=t
   .simp[b,c]
   .simp[b]
def Inv.aIx (h:Inv w0 G st a w)(t:Tmp):Inv w0 G (st.drop t) a w:=by
 refine {h with tm:=fun s v b=>h.tm s v ?_};unfold St.drop at b;dsimp only at b;rw[JG]at b;split at b
 .cases b
 .exact b
def p5 {ops:Array Oper}{l:Array Bool}:∀(b:List Nat) {st:St},Inv w0 G st a w->Inv w0 G (tv P ops l b st) a w
 |[],_,h=>h|i::b,st,h=>by
  unfold tv;split
  .split
   .exact(p5 b h).aIx _
   .exact p5 b h
  .exact p5 b h
def ajg {ops:Array Oper}{l:Array Bool}{x:Nat}{o:Oper}{d:Tmp}(e:ops[x]?=some o)(f:cE P o=true)(g:l.getD x true=false)(j:o.dst=some d):∀(b:List Nat) (st:St),x∈b->look (tv P ops l b st).tm d=none
 |[],_,h=>by cases h
 |i::b,st,h=>by
  unfold tv;rcases cT.1 h with rfl|h
  .rw[e];simp only[f,g,j,eh,Bool.and_self];show look (List.filter _ _) d=none;rw[JG,ag rfl]
  .have c:=ajg e f g j b st h;split
   .split
    .show look (List.filter _ _) d=none;rw[JG];split
     .rfl
     .exact c
    .exact c
   .exact c
def mkF (o:Oper)(g:Nat):Value:=match o.op with
 |.alloc _=>.pointer (some ⟨g,0,none⟩)|.buildSlice _ len _=>.slice (some ⟨g,0,none⟩) len len|_=>undef
def anH (P:Program)(o:Oper)(a:Act)(b:Obj):Prop:=match o.op with
 |.alloc t=>∃i v,P.info? t=some i/\i.zero=some v/\b=.cells v.cells t (0,0)|.buildSlice t _ parts=>∃e,E4 P t=some e/\b=.cells (agF a parts.toList).toArray e (0,0)|_=>False
def ajh {a a':Act}:∀{l:List (Nat×Operand)},(∀p∈l,∀s,p.2=.tmp s->a'.tmps.getD s undef=a.tmps.getD s undef)->agF a' l=agF a l
 |[],_=>rfl|(b,x)::l,h=>by
  have c:a'.eval x=a.eval x:=by
   cases x with
   |tmp s=>exact h (b,.tmp s) (by simp) s rfl
   |_=>rfl
  simp only[agF,c,ajh fun p d=>h p (jN _ d)]
def anH.same {a a':Act}{c:Obj}(h:anH P o a c)(b:∀t,ady o t=true->a'.tmps.getD t undef=a.tmps.getD t undef):anH P o a' c:=by
 unfold anH at h ⊢;unfold ady at b;split at h
 .exact h
 .rename_i t len parts d;simp only[d]at b;obtain⟨e,f,g⟩:=h;refine⟨e,f,?_⟩;rw[ajh (a:=a)]
  .exact g
  .intro p i s j;exact b s (auS.2 ⟨p,i,by rw[j];simp⟩)
 .exact h
def aJM (P:Program)(C:FuncId->Option Any)(N:Nat)(o:Oper)(d:Tmp):Prop :=
 ∀{w0:fc} {G:Gh} {st:St} {a:Act} {w:World} {g:Nat} {e:Obj} {U:Type} {k:St->Option U} {r:U},Inv w0 G st a w->G.own g=some .hid->w0.hd g=none->w.heap[g]?=some e->anH P o a e->a.tmps.getD d undef=mkF o g ->
  iZ P C (rH.RJ N) o st k=some r->∃c dd,Inv w0 c dd a w/\k dd=some r/\(∀b,G.own b=none->c.own b=none)
def adQ:∀{l:List AC} {st:St},wQ l=true->st.freeze l=st
 |[],_,_=>rfl|c::l,st,h=>by
  have b:st.dD c=st:=by cases c<;>first|rfl|(simp[wQ]at h)
  have d:wQ l=true:=by cases c<;>first|exact h|(simp[wQ]at h)
  show List.foldl St.dD (st.dD c) l=st;rw[b];exact adQ d
def ato {l m:List AC}(b:wQ l=true)(d:wQ m=true):wQ (l++m)=true:=by
 induction l with
 |nil=>exact d|cons c l e=>cases c<;>first|exact e b|(simp[wQ]at b)
def abW:∀{t:Ty} {l r:List AC} {x:t.D},flat t=true->im st t l=some (x,r)->∃p,l=p++r/\wQ p=true
 |.int k,[],_,_,_,h=>by simp[im]at h
 |.int k,c::l,_,_,_,h=>by
  cases c<;>simp[im]at h
  exact⟨[_],by rw[h.2.2];rfl,rfl⟩
 |.bool,[],_,_,_,h=>by simp[im]at h
 |.bool,c::l,_,_,_,h=>by
  cases c<;>simp[im]at h
  exact⟨[_],by rw[h.2];rfl,rfl⟩
 |.str,[],_,_,_,h=>by simp[im]at h
 |.str,c::l,_,_,_,h=>by
  cases c<;>simp[im]at h
  exact⟨[_],by rw[h.2];rfl,rfl⟩
 |.unit,l,r,x,_,h=>by simp only[im]at h;cases h;exact⟨[],rfl,rfl⟩
 |.pair t u,l,r,x,b,h=>by
  simp only[flat,aG]at b;simp only[im]at h;split at h
  .rename_i y m d;split at h
   .rename_i z n e;cases h;obtain⟨p,f,g⟩:=abW b.1 d;obtain⟨q,i,j⟩:=abW b.2 e;exact⟨p++q,by rw[f,i,hI],ato g j⟩
   .cases h
  .cases h
 |.sl _ _,_,_,_,b,_=>by simp[flat]at b
def atp {u:Ty}(b:flat u=true):∀{l:List (Nat×Operand)} {i:Nat} {xs:List u.D},iA st u i l=some xs->wQ (cm st l)=true
 |[],_,_,_=>rfl|(f,x)::l,i,xs,h=>by
  simp only[iA]at h;split at h
  .split at h
   .rename_i y c;split at h
    .rename_i g d;obtain⟨p,e,n⟩:=abW b c;rw[fh]at e;exact ato (by rw[e];exact n) (atp b d)
    .cases h
   .cases h
  .cases h
def RV (l:cE P o=true):∃d,o.dst=some d/\o.guard=none/\(∀{w0:fc} {G:Gh} {st:St} {a:Act} {w:World},Inv w0 G st a w->Mo P st o=true->∃obj,(execOp a.eval o).run P w=.ok (.value (mkF o w.heap.size)) (w.alloc obj)/\anH P o a obj)/\aJM P C N o d:=by
 unfold cE at l;split at l
 .rename_i d t S A j;split at l
  .rename_i z I;obtain⟨i,v,y,T,rfl⟩:=jb I;refine⟨d,A,S,fun _ _=>⟨.cells v.cells t (0,0),?_,?_⟩,?_⟩
   .unfold execOp mkF;rw[j];simp[Instr.alloc,zeroValue,typeInfo,y,T,Cc]
   .unfold anH;rw[j];exact⟨i,v,y,T,rfl⟩
   .intro w0 G st a w g obj U k r h B W K s X f;unfold anH at s;simp only[j]at s;obtain⟨qm,qC,D,qg,rfl⟩:=s;rw[y]at D;cases D;rw[T]at qg;cases qg;simp only[iZ,j,A,I]at f;split at f
    .rename_i m;obtain⟨F,Y⟩:=aX f;rw[aG]at F;refine⟨_,_,h.aEL m (gO F.1) B W K ((p3 v).cells F.2) (by rw[X];unfold mkF;rw[j]),Y,fun b m=>?_⟩;have:b≠g:=by rintro rfl;rw[B]at m;cases m
     simp[Gh.box,this,m]
    .cases f
  .cases l
 .rename_i d t len parts S A j;split at l
  .rename_i e p;split at l
   .rename_i u L;simp only[aG]at l;obtain⟨⟨h1,qn⟩,⟨⟨⟨qo,qp⟩,qq⟩,qt⟩⟩:=l;have hlen:=aO qn;have H:0<u.n:=Vj (bu qp);have qD:=F9 qq;obtain⟨i,y,qh⟩:=oP (aO qo) H;obtain⟨z,I⟩:=lX.1 qt;obtain⟨qm,O,D,qu,_⟩:=jb I;rw[y]at D;cases D;have qv:P.underlying t=some (.slice e):=by
     unfold E4 at p;split at p
     .rename_i qw L;cases p;exact L
     .cases p
    refine⟨d,A,S,?_,?_⟩
    .intro w0 G st a w h Z;unfold Mo at Z;simp only[j,p,L]at Z;obtain⟨xs,Q⟩:=lX.1 Z;have qd:((Array.range (len*u.n)).map (fun q=>(if len*u.n=0 then #[] else O.cells)[q%(if len*u.n=0 then #[] else O.cells).size]!)).size=(0+parts.toList.length)*u.n:=by simp[<-hlen]
     obtain⟨cs,qi,qj,qx,qk,qe⟩:=VG (ok:=fun _=>True) h H parts.toList 0 _ xs (fun t c v qf _=>VI h t c v qf) qd Q;simp only[am8,List.take_zero,BH]at qi;refine⟨.cells cs.toArray e (0,0),?_,?_⟩
     .unfold execOp mkF;rw[j];dsimp only;have:=J8 (P:=P) (w:=w) qv y qu (len:=len) (parts:=parts.map fun (i,x)=>(i,a.eval x)) (cells:=cs.toArray) (by rw[qh];omega) (by rw[qh,adq];exact qi);simp only[Sem.run_bind,this,Result.andThen_ok];rfl
     .unfold anH;rw[j];exact⟨e,p,by rw[qe]⟩
    .intro w0 G st a w g obj U k r h B W K s X f;unfold anH at s;simp only[j]at s;obtain⟨qw,ql,rfl⟩:=s;rw[p]at ql;cases ql;simp only[iZ,j,A,p,L]at f;split at f
     .rename_i xs Q;split at f
      .rename_i qE;have qd:((Array.range (len*u.n)).map (fun q=>(if len*u.n=0 then #[] else O.cells)[q%(if len*u.n=0 then #[] else O.cells).size]!)).size=(0+parts.toList.length)*u.n:=by simp[<-hlen]
       obtain⟨cs,_,qj,qx,qk,qe⟩:=VG (ok:=fun _=>True) h H parts.toList 0 _ xs (fun t c v qf _=>VI h t c v qf) qd Q;have qy:wQ (cm st parts.toList)=true:=by
        rw[kj]at h1;rcases h1 with h1|h1
        .exact atp h1 Q
        .have qz:=aO h1;have:parts.toList=[]:=ZL (by omega);rw[this];rfl
       have qA:fi w (RO G (cj (cm st parts.toList))) u cs xs:=by
        rw[kj]at h1;rcases h1 with h1|h1
        .exact ans h1 qk
        .have qz:=aO h1;have:xs=[]:=ZL (by omega);subst this;exact fun qF x qB=>by simp at qB
       rw[adQ qy]at f;unfold St.row at f;split at f
       .cases f
       .rename_i m;obtain⟨F,Y⟩:=aX f;rw[<-qe]at K;have qG:len<=len*u.n:=auF _ H;have qH:maxLen=9223372036854775807:=rfl;refine⟨_,_,Inv.aEM (e:=e) (u:=u) (n:=len) h m (gO F) B W K H (by omega) qj (by omega) qA (by rw[X];unfold mkF;rw[j]),Y,fun b m=>?_⟩;have:b≠g:=by rintro rfl;rw[B]at m;cases m
        simp[Gh.rowAt,this,m]
      .cases f
     .cases f
   .cases l
  .cases l
 .cases l
def aEN {k:St->Option U}(b:cE P o=true)(c:iZ P C (rH.RJ N) o st k=some r):Mo P st o=true:=by
 unfold cE at b;split at b
 .rename_i d t h g f;unfold Mo;rw[f]
 .rename_i d t len parts h g f;unfold Mo;simp only[f];simp only[iZ,f,g]at c;split at b
  .rename_i e i;split at b
   .rename_i u j;simp only[i,j]at c ⊢;split at c
    .rename_i xs l;rw[l];rfl
    .cases c
   .cases b
  .cases b
 .cases b
def fc.from (w0:fc)(G:Gh)(w:World)(d:w0.w.heap.size<=w.heap.size)(e:∀g k,G.own g=some k->w0.nw g):fc where
 w:=w
 ok:=w0.ok
 nw:=w0.nw
 fr g:=(G.own g).isSome=true
 hnw b c:=w0.hnw b (bX d c)
 hfr b c:=by obtain⟨k,f⟩:=lX.1 c;exact e b k f
 pv:=w0.pv
 hd g:=match w0.hd g with
  |some x=>some x|none=>match G.own g with
   |none=>(w.heap[g]?).map fun o=>(false,o)
   |some _=>none
def Inv.aLa (h:Inv w0 G st a w):∀g k,G.own g=some k->w0.nw g:=fun g k b=>by rw[<-h.nw];exact h.Vz b
abbrev Inv.root (h:Inv w0 G st a w):fc:=w0.from G w h.below.size h.aLa
def Inv.from (h:Inv w0 G st a w):Inv h.root G st a w:=by
 refine⟨h.nw,h.rok,eY.refl _ _,h.defers,h.size,h.sp,fun g b o c=>?_,h.tm,h.bx,h.bl,fun g k e=>?_⟩
 .simp only[Inv.root,fc.from]at c;split at c
  .rename_i x f;cases c;exact h.hd g b o f
  .split at c
   .rename_i i;cases d:w.heap[g]? with
    |none=>rw[d]at c;cases c
    |some m =>
     rw[d]at c;cases c;exact⟨i,(BF.1 d).1,rfl⟩
   .cases c
 .obtain⟨_,j,l⟩:=h.own g k e;exact⟨.inr (by simp[Inv.root,fc.from,e]),j,l⟩
def Inv.Cg (h:Inv w0 G st a w){w1:World}(b:eY h.root.fr w w1):eY w0.fr w0.w w1 :=
 h.below.step b.os b.tape b.output b.size fun k c d=>b.block k (E1 c h.below.size) fun hfr=>by
  obtain⟨q,e⟩:=lX.1 (show(G.own k).isSome=true from hfr);rcases(h.own k q e).1 with h1|h1
  .omega
  .exact d h1
def Inv.anI (h:Inv w0 G st a w){d:Gh}{dd:St}{a':Act}{w':World}(c:Inv h.root d dd a' w') :
  Inv w0 d dd a' w'/\w.heap.size<=w'.heap.size/\∀g,g<w.heap.size->G.own g=none->d.own g=none/\w'.heap[g]?=w.heap[g]?:=by
 refine⟨⟨c.nw,c.rok,h.Cg c.below,c.defers,c.size,c.sp,fun g b o p=>c.hd g b o ?_,c.tm,c.bx,c.bl,fun g k s=>?_⟩,c.below.size,fun g t l=>?_⟩
 .simp only[Inv.root,fc.from,p]
 .obtain⟨h1,m,e⟩:=c.own g k s;refine⟨?_,m,e⟩;rcases h1 with h1|h1
  .exact .inl (bX h.below.size h1)
  .obtain⟨q,u⟩:=lX.1 (show(G.own g).isSome=true from h1);exact(h.own g q u).1
 .cases f:w0.hd g with
  |some x =>
   obtain⟨b,o⟩:=x;obtain⟨h1,m,e⟩:=h.hd g b o f;obtain⟨i,v,j⟩:=c.hd g b o (by simp only[Inv.root,fc.from,f]);cases b with
   |true =>
    rw[l]at h1;cases h1
   |false=>exact⟨i,j.trans e.symm⟩
  |none =>
   have n:w.heap[g]?=some w.heap[g]:=aAr t;obtain⟨i,v,j⟩:=c.hd g false w.heap[g] (by simp only[Inv.root,fc.from,f,l,n,Option.map_some]);exact⟨i,j.trans n.symm⟩
def Inv.aLb (h:Inv w0 G st a w){f:FuncId}{con:Any}(b:S4 P w0 f con):S4 P h.root f con:=by
 cases con with
 |one c=>exact⟨b.1,fun x r l m d=>b.2 x r l m (h.Cg d)⟩
 |idx i=>exact⟨b.1,fun W d=>b.2 W (h.Cg d)⟩
 |ins e u=>exact⟨b.1,fun W d=>b.2 W (h.Cg d)⟩
 |del e u=>exact⟨b.1,fun W d=>b.2 W (h.Cg d)⟩
 |sel c =>
  refine⟨b.1,b.2.1,fun x r l m d ok n own p s u k t=>b.2.2 x r l m (h.Cg d) ok n own p s u ⟨k.lZ,fun g v y=>?_,k.df⟩ t⟩;obtain⟨z,A,j⟩:=k.bp g v y;refine⟨z,A,?_⟩;rcases j with j|j
  .exact .inl (bX h.below.size j)
  .obtain⟨q,B⟩:=lX.1 (show(G.own g).isSome=true from j);exact(h.own g q B).1
 |two c =>
  refine⟨b.1,b.2.1,fun x r l m d ok n own p s u k t=>b.2.2 x r l m (h.Cg d) ok n own p s u ⟨k.lZ,fun g v y=>?_,k.df⟩ t⟩;obtain⟨z,A,j⟩:=k.bp g v y;refine⟨z,A,?_⟩;rcases j with j|j
  .exact .inl (bX h.below.size j)
  .obtain⟨q,B⟩:=lX.1 (show(G.own g).isSome=true from j);exact(h.own g q B).1
def aIy {K:Act->World->Prop}{Q:Exit->Act->World->Prop}(h:o.wp P a w K Q) :
  o.wp P a w (fun i j=>K i j/\i.tmps.size=a.tmps.size/\∀t,o.dst≠some t->i.tmps.getD t undef=a.tmps.getD t undef) Q:=by
 have key:∀(b:Act) u,b.tmps=a.tmps->(b.put o.dst u).tmps.size=a.tmps.size/\∀t,o.dst≠some t->(b.put o.dst u).tmps.getD t undef=a.tmps.getD t undef:=by
  intro b u g;cases m:o.dst with
  |none=>exact⟨by simp[Act.put,g],fun t _=>by simp[Act.put,g]⟩
  |some d =>
   refine⟨by simp[Act.put,g],fun t k=>?_⟩;have l:t≠d:=fun e=>k (by rw[e])
   rw[ny l,g]
 unfold Oper.wp Oper.upon at h ⊢;split at h
 .exact⟨h,key a _ rfl⟩
 .exact⟨h,key a _ rfl⟩
 .exact⟨h,key _ _ rfl⟩
 .refine Calls.mono h fun e j f=>?_
  cases e with
  |returned v=>exact⟨f,key a _ rfl⟩|panicked c=>exact f|_=>exact f
 .exact Rows.mono h fun v j f=>⟨f,key a _ rfl⟩
 all_goals exact h
def Kc (c:pa P o=true):cE P o=false:=by
 unfold cE;split
 .rename_i b;simp[pa,b]at c
 .rename_i b;simp[pa,b]at c
 .rfl
def aEO {k:St->Option U}(h:Inv w0 G st a w)(b:iZ P C (rH.RJ N) o st k=some r)(f:au1 o=true) :
  ∃v g,(execOp a.eval o).run P w=.ok (.value v) (w.alloc g):=by
 unfold au1 at f;split at f
 .rename_i t c;simp only[iZ,c]at b;split at b
  .split at b
   .split at b
    .rename_i z j;obtain⟨i,v,l,m,rfl⟩:=jb j;refine⟨.pointer (some ⟨w.heap.size,0,none⟩),.cells v.cells t (0,0),?_⟩;unfold execOp;rw[c];simp[Instr.alloc,zeroValue,typeInfo,l,m,Cc]
    .cases b
   .cases b
  .cases b
 .rename_i t x c;refine⟨.pointer (some ⟨w.heap.size,0,none⟩),.cells (a.eval x).cells t (0,0),?_⟩;unfold execOp;rw[c];simp[Instr.box,Cc]
 .rename_i t len parts c;simp only[iZ,c]at b;split at b
  .rename_i d e y n;split at b
   .rename_i u A;split at b
    .rename_i xs p;split at b
     .rename_i q;obtain⟨cs,s⟩:=akC h t len parts c n p q;exact⟨_,_,s⟩
     .cases b
    .cases b
   .cases b
  .cases b
 .cases f
def aGo {ops:Array Oper}{k:St->Option U}(h:Inv w0 G st a w)(b:iZ P C (rH.RJ N) o st k=some r){t:Tmp}(c:abI o=some t){g0:Nat}(n:a.tmps.getD t undef=.slice (some ⟨g0,0,none⟩) 0 0) :
  ∃v f,(execOp a.eval o).run P w=.ok (.value v) f/\Below w.heap.size w f:=by
 unfold abI at c;split at c
 .rename_i args B g;split at c
  .rename_i D y t1 t2 i j;split at c
   .rename_i p;cases c;have:=aO p;subst this;simp only[iZ,g]at b;split at b
    .rename_i d s x F H I l m;rw[i]at l;rw[j]at m;cases l;cases m;split at b
     .rename_i e q;split at b
      .rename_i u z K A;exact aAS h g i j q A (d:=d) n b
      .cases b
     .cases b
    .cases b
   .cases c
  .cases c
 .cases c
def jd (h:H3 P o=true):cE P o=true:=by unfold H3 at h;rw[aG]at h;exact h.1
def anJ (h:H3 P o=true)(g:Nat):mkF o g=.slice (some ⟨g,0,none⟩) 0 0:=by
 unfold H3 at h;rw[aG]at h;unfold mkF;split at h
 .rename_i b;rw[b]
 .cases h.2
def avu (C:FuncId->Option Any)(o:Oper)(a:Act)(w w':World):Prop :=
 ∀t g k,agx C o=some t->a.tmps.getD t undef=.pointer (some ⟨g,0,none⟩)->k<w.heap.size->k≠g->w'.heap[k]?=w.heap[k]?
def avu.below {w':World}(h:Below w.heap.size w w'):avu C o a w w':=fun _ _ k _ _ b _=>h.block k b
def aA3 {ops:Array Oper}{Q:Exit->Act->World->Prop}{k:St->Option U}(A:∀f e,C f=some e->S4 P w0 f e)(h:Inv w0 G st a w)(i:iZ P C (rH.RJ N) o st k=some r)
  (Z:∀t,abI o=some t->Pt P ops o=true->∃g,a.tmps.getD t undef=.slice (some ⟨g,0,none⟩) 0 0) (qd:∀d,cE P o=true->o.dst=some d->d<a.tmps.size) :
  o.wp P a w (fun p q=>(((∃s dd,Inv w0 s dd p q/\k dd=some r)/\(p2 P C ops o=true->Below w.heap.size w q))/\(H3 P o=true->∀d,o.dst=some d->∃g,p.tmps.getD d undef=.slice (some ⟨g,0,none⟩) 0 0)/\avu C o a w q)/\p.tmps.size=a.tmps.size/\∀t,o.dst≠some t->p.tmps.getD t undef=a.tmps.getD t undef) Q:=by
 refine aIy ?_;have B:rL w0 k r (fun p q=>∃s dd,Inv w0 s dd p q/\k dd=some r):=fun s dd p q x I=>⟨s,dd,x,I⟩
 by_cases c:p2 P C ops o=true
 .by_cases K:pa P o=true
  .obtain⟨v,s,dd,u,qe,n⟩:=abV K h i;exact J4 (u w (yd (Below.refl _ w))) ⟨⟨⟨s,dd,qe,n⟩,fun _=>Below.refl _ w⟩,fun j=>absurd (jd j) (by rw[Kc K];simp),.below (Below.refl _ w)⟩
  .by_cases z:cE P o=true
   .obtain⟨d,ql,S,u,_⟩:=RV (C:=C) (N:=N) z;obtain⟨obj,u,_⟩:=u h (aEN z i);have:=E8 (Q:=Q) A h i B;unfold Oper.wp at this ⊢;rw[u]at this ⊢;refine⟨⟨this,fun _=>⟨rfl,rfl,rfl,by simp,fun k n=>Below.heap_alloc _ _ _ n⟩⟩,fun j qf T=>⟨w.heap.size,?_⟩,.below ⟨rfl,rfl,rfl,by simp,fun k n=>Below.heap_alloc _ _ _ n⟩⟩;have hlt:=qd qf z T;rw[T,anJ j];simp[Act.put,Po,hlt]
   .by_cases W:au1 o=true
    .obtain⟨v,qm,u⟩:=aEO h i W;have:=E8 (Q:=Q) A h i B;unfold Oper.wp at this ⊢;rw[u]at this ⊢;exact⟨⟨this,fun _=>⟨rfl,rfl,rfl,by simp,fun k n=>Below.heap_alloc _ _ _ n⟩⟩,fun j=>absurd (jd j) z,.below ⟨rfl,rfl,rfl,by simp,fun k n=>Below.heap_alloc _ _ _ n⟩⟩
    by_cases L:Pt P ops o=true
    .obtain⟨t,y⟩:∃t,abI o=some t:=by
      cases qg:abI o with
      |none=>simp[Pt,qg]at L|some t=>exact⟨t,rfl⟩
     obtain⟨g,S⟩:=Z t y L;obtain⟨v,q,u,D⟩:=aGo (ops:=ops) h i y S;have:=E8 (Q:=Q) A h i B;unfold Oper.wp at this ⊢;rw[u]at this ⊢;exact⟨⟨this,fun _=>D⟩,fun j=>absurd (jd j) z,.below D⟩
    have m:aAH C o=true:=by
     unfold p2 at c;simp only[kj]at c;rcases c with (((c|c)|c)|c)|c
     .exact absurd c K
     .exact absurd c z
     .exact c
     .exact absurd c W
     .exact absurd c L
    unfold aAH at m;split at m
    .rename_i f args qh F;simp only[iZ,F]at i;split at i
     .rename_i e l;exact ajf (show ajc P w0 f e from A f (.one e) l) h F i fun s dd p q x I D=>⟨⟨⟨s,dd,x,I⟩,fun _=>D⟩,fun j=>absurd (jd j) z,.below D⟩
     .rename_i e l;rw[l]at m;cases m
     .rename_i e l;rw[l]at m;cases m
     .rename_i l;rw[l]at m;cases m
     .rename_i l;rw[l]at m;cases m
     .rename_i l;rw[l]at m;cases m
     .cases i
    .cases m
 .have j:∀{U:Prop},H3 P o=true->U:=fun j=>absurd (show p2 P C ops o=true by unfold p2;rw[jd j];simp) c
  cases b:agx C o with
  |none=>exact Oper.wp_mono (fun p q x=>⟨⟨x,fun h=>absurd h c⟩,fun h=>j h,fun t g k y=>(by rw[b]at y;cases y)⟩) (E8 (Q:=Q) A h i B)
  |some t =>
   have qi:=b;unfold agx at b;split at b
   .rename_i f args qh F;split at b
    .rename_i e l;have X:(e.pm=.box\/e.pm=.cur)/\nv args.toList e.i=some (.tmp t):=by
      cases H:e.pm with
      |box =>
       rw[H]at b;dsimp only at b;split at b
       .rename_i Y O;cases b;exact⟨.inl rfl,O⟩
       .cases b
      |cur =>
       rw[H]at b;dsimp only at b;split at b
       .rename_i Y O;cases b;exact⟨.inr rfl,O⟩
       .cases b
      |rd=>rw[H]at b;cases b|own f=>rw[H]at b;cases b
     simp only[iZ,F,l]at i;refine Oper.wp_mono (fun p q x=>⟨⟨x.1,fun h=>absurd h c⟩,fun h=>j h,fun Y g k y qj n qk=>?_⟩) (adO (show abP P w0 f e from A f (.two e) l) h F i B);rw[qi]at y;cases y;exact x.2 (.tmp t) g X.1 X.2 qj k n qk
    .cases b
   .cases b
def RW {ops:Array Oper}{j:Nat}{c:Oper}{d:Tmp}{tmps:Array Value}(e:nv ops.toList j=some c)(f:c.dst=some d) :
  yielded ops tmps j=match tmps.getD d undef with|.bool b=>some b|_=>none:=by
 have g:ops[j]?=some c:=by rw[avd]at e;simpa using e
 unfold yielded;rw[g];simp only[am3,f];rw[Po];cases tmps[d]? with
 |none=>rfl|some v=>cases v<;>rfl
def ZU {ops:Array Oper}{k:St->Option U}(h:Inv w0 G st a w)(c:adx P C (rH.RJ N) ops.toList o st k=some r) :
  (Region.wanted o (yielded ops a.tmps)=true/\∃dd,(dd=st\/∃d b j,st.get d=.v (.c (.bool b))/\dd=st.put d (.v (.c (.bool j))))/\Inv w0 G dd a w/\iZ P C (rH.RJ N) o dd k=some r) \/
  (Region.wanted o (yielded ops a.tmps)=false/\∃e dd,Inv w0 e dd (a.put o.dst undef) w/\k dd=some r):=by
 have p:∀{st:St},Inv w0 G st a w->St.pk st o.dst (.Vf []) k=some r->∃e dd,Inv w0 e dd (a.put o.dst undef) w/\k dd=some r:=by
  intro st h c;obtain⟨e,dd,x,y⟩:=Di (K:=fun s t=>∃e dd,Inv w0 e dd s t/\k dd=some r) h (v:=.Vf []) (u:=undef) ⟨#[],rfl,trivial⟩ c fun e dd s t z A=>⟨e,dd,z,A⟩
  exact⟨e,dd,x,y⟩
 unfold adx at c;split at c
 .rename_i f;exact .inl ⟨by simp[Region.wanted,f],st,.inl rfl,h,c⟩
 .rename_i I Vt f;split at c
  .rename_i L B;split at c
   .rename_i d D;have g:=RW (tmps:=a.tmps) B D;have l:=h.ev (.tmp d);rw[show st.ev (.tmp d)=st.get d from rfl]at l;split at c
    .rename_i b m;rw[m]at l;have i:a.tmps.getD d undef=.bool b:=l;rw[i]at g;have n:∀j,b=j->Inv w0 G (st.put d (.v (.c (.bool j)))) a w:=by intro j F;subst F;exact h.lit (.tmp d) b i
     rcases adB c with ⟨q,c⟩|⟨q,c⟩
     .subst q;cases Vt with
      |true=>exact .inl ⟨by simp[Region.wanted,f,g],_,.inr ⟨d,_,_,m,rfl⟩,n true rfl,c⟩
      |false=>exact .inr ⟨by simp[Region.wanted,f,g],p (n true rfl) c⟩
     .subst q;cases Vt with
      |true=>exact .inr ⟨by simp[Region.wanted,f,g],p (n false rfl) c⟩
      |false=>exact .inl ⟨by simp[Region.wanted,f,g],_,.inr ⟨d,_,_,m,rfl⟩,n false rfl,c⟩
    .rename_i m;rw[m]at l;obtain⟨H,i,O⟩:=l;have i:a.tmps.getD d undef=.tuple H:=i;rw[i]at g;exact .inr ⟨by simp[Region.wanted,f,g],p h c⟩
    .cases c
   .cases c
  .cases c
def ZV {ops:Array Oper}{M:Array Bool}:∀{l:List Nat} {j:Nat} {o:Oper},Vu P C ops M st l=some (j,o)->j∈l/\ops[j]?=some o/\pa P o=true/\Region.free .any ops M j=true/\((J1 st o=true\/aCQ ops.toList st o=true)\/(adz P C ops M j=true\/au2 P C ops M st j o=true))
 |[],_,_,h=>by simp[Vu]at h
 |i::l,j,o,h=>by
  simp only[Vu]at h;split at h
  .rename_i f c;split at h
   .rename_i b;cases h;simp only[aG,kj]at b;exact⟨by simp,c,b.1.1,b.1.2,b.2.elim (fun h=>h.elim (fun h=>h.elim (fun h=>.inl (.inl h)) fun h=>.inr (.inl h)) fun h=>.inl (.inr h)) fun h=>.inr (.inr h)⟩
   .obtain⟨d,e⟩:=ZV h;exact⟨by simp[d],e⟩
  .cases h
def ZW {ops:Array Oper}{M:Array Bool}:∀{l:List Nat} {j:Nat} {o:Oper},Vv P ops M st l=some (j,o)->j∈l/\ops[j]?=some o/\aF3 j (Region.ready .any ops (yb P ops j (List.range ops.size) M))=true/\axN P ops M st (List.range ops.size)=true
 |[],_,_,h=>by simp[Vv]at h
 |i::l,j,o,h=>by
  simp only[Vv]at h;split at h
  .rename_i f c;split at h
   .rename_i b;cases h;rw[aG]at b;exact⟨by simp,c,b.1,b.2⟩
   .obtain⟨d,e⟩:=ZW h;exact⟨by simp[d],e⟩
  .cases h
def anK {ops:Array Oper}{M:Array Bool}:∀{l:List Nat},axN P ops M st l=true->∀i∈l,∀o,ops[i]?=some o->cE P o=true->M.getD i true=false->waits P ops M o=true\/Mo P st o=true
 |[],_,i,h=>by cases h
 |j::l,h,i,hi=>by
  simp only[axN,aG]at h;intro o b c d;rcases cT.1 hi with rfl|hi
  .have:=h.1;rw[b]at this;simpa [c,d]using this
  .exact anK h.2 i hi o b c d
def aA4 {ops:Array Oper}{M:Array Bool}(h:waits P ops M o=true):∃e∈o.after,Region.binds .any e=true/\∃c,ops[e.on]?=some c/\cE P c=false/\M.getD e.on true=false:=by
 unfold waits at h;obtain⟨e,f,d⟩:=auO.1 h;rw[aG]at d;refine⟨e,f,d.1,?_⟩;have b:=d.2;split at b
 .rename_i c g;rw[aG]at b;exact⟨c,g,by simpa using b.1,by simpa using b.2⟩
 .cases b
def atq {x:Nat}:∀{l:List Nat},aF3 x l=true->∀i∈l,i=x
 |[],_,i,h=>by cases h
 |j::l,h,i,hi=>by
  simp only[aF3,aG]at h;rcases cT.1 hi with rfl|hi
  .exact aO h.1
  .exact atq h.2 i hi
def yf {ops:Array Oper}{x:Nat}:∀(b:List Nat) {l:Array Bool} {i:Nat},l.getD i false=true->(yb P ops x b l).getD i false=true
 |[],_,_,h=>h|j::b,l,i,h=>by
  unfold yb;split
  .split
   .exact yf b (getD_set_true h)
   .exact yf b h
  .exact yf b h
def Dn {ops:Array Oper}{x y:Nat}{o:Oper}(c:ops[y]?=some o)(d:cE P o=true)(e:y≠x):∀(b:List Nat) {l:Array Bool},y<l.size->y∈b->(yb P ops x b l).getD y false=true
 |[],_,_,h=>by cases h
 |j::b,l,f,h=>by
  have g:Nat.beq y x=false:=by
   cases g:Nat.beq y x with
   |true=>exact absurd (aO g) e|false=>rfl
  unfold yb;rcases cT.1 h with rfl|h
  .rw[c];simp only[d,g,eh,Bool.and_self];exact yf b (by simp[Po,f])
  .split
   .split
    .exact Dn c d e b (by simpa using f) h
    .exact Dn c d e b f h
   .exact Dn c d e b f h
def Dp {ops:Array Oper}{x y:Nat}{o:Oper}(d:ops[y]?=some o)(b:cE P o=false\/y=x):∀(c:List Nat) {l:Array Bool},(yb P ops x c l).getD y true=l.getD y true
 |[],_=>rfl|j::c,l=>by
  unfold yb;split
  .rename_i g f;split
   .rename_i e;rw[Dp d b c];refine getD_set_ne true ?_;rintro rfl;rw[d]at f;cases f;rw[aG]at e;rcases b with b|rfl
    .rw[b]at e;cases e.1
    .simp at e
   .exact Dp d b c
  .exact Dp d b c
def VQ {ops:Array Oper}{M:Array Bool}:∀{l:List Nat},JB P ops M l=true->∀i∈l,∀o,ops[i]?=some o->cE P o=true->M.getD i true=true
 |[],_,i,h=>by cases h
 |j::l,h,i,hi=>by
  simp only[JB,aG]at h;intro o b c;rcases cT.1 hi with rfl|hi
  .have:=h.1;rw[b]at this;simpa [c]using this
  .exact VQ h.2 i hi o b c
def aji {ops:Array Oper}{M:Array Bool}:∀{l:List Nat} {st:St},(∀i∈l,∀o,ops[i]?=some o->cE P o=true->M.getD i true=true)->tv P ops M l st=st
 |[],_,_=>rfl|i::l,st,h=>by
  have c:=aji (st:=st) fun d e=>h d (jN _ e)
  unfold tv;split
  .rename_i o f;split
   .rename_i b _;rw[aG]at b;have:=h i pZ o f b.1;rw[this]at b;cases b.2
   .exact c
  .exact c
def arL {ops:Array Oper}{M:Array Bool}{i:Nat}(h:adz P C ops M i=true){c:Nat}{b:Oper}(d:ops[c]?=some b)(e:p2 P C ops b=false):M.getD c true=true\/oi ops M i 3 b=true:=by unfold adz at h;rw[eb]at h;have:=h c (eU.2 (BF.1 d).1);rw[d]at this;simpa only[e,JY,kj]using this
def ZX {ops:Array Oper}{M:Array Bool}{i n:Nat}(h:oi ops M i (n+1) o=true):∃e∈o.after,Region.binds .any e=true/\(e.on=i\/(M.getD e.on true=false/\∃d,ops[e.on]?=some d/\oi ops M i n d=true)):=by
 unfold oi at h;obtain⟨e,f,b⟩:=auO.1 h;rw[aG,kj]at b;refine⟨e,f,b.1,?_⟩;rcases b.2 with h1|h1
 .exact .inl (by simpa using h1)
 .rw[aG]at h1;refine .inr ⟨by simpa using h1.1,?_⟩;have c:=h1.2;split at c
  .exact⟨_,by assumption,c⟩
  .cases c
def ajj {ops:Array Oper}{M R:Array Bool}{i:Nat}(g:∀d b,ops[d]?=some b->M.getD d true=false->R.getD d false=true->∀e∈b.after,Region.binds .any e=true->R.getD e.on false=true)(hi:R.getD i false=false) :
  ∀(n d:Nat) (b:Oper),ops[d]?=some b->M.getD d true=false->R.getD d false=true->oi ops M i n b=true->False
 |0,_,_,_,_,_,h=>by simp[oi]at h
 |n+1,d,b,j,k,l,h=>by
  obtain⟨e,m,p,c⟩:=ZX h;have f:=g d b j k l e m p;rcases c with c|⟨c,q,s,t⟩
  .rw[c,hi]at f;cases f
  .exact ajj g hi n e.on q s c f t
def RX {ops:Array Oper}{M R l:Array Bool}{i:Nat}(j:∀d k,ops[d]?=some k->M.getD d true=false->R.getD d false=true->∀e∈k.after,Region.binds .any e=true->R.getD e.on false=true)(hi:R.getD i false=false)(m:Sup ops R l)(p:l.getD i false=false) :
  ∀(n c:Nat) (f:Oper),ops[c]?=some f->R.getD c false=false->l.getD c false=true->oi ops M i n f=true->False
 |0,_,_,_,_,_,h=>by simp[oi]at h
 |n+1,c,f,v,x,y,h=>by
  obtain⟨e,z,A,b⟩:=ZX h;have g:=m.2.2 c f v x y e z A;rcases b with b|⟨b,q,s,t⟩
  .rw[b,p]at g;cases g
  .cases u:R.getD e.on false with
   |true=>exact ajj j hi n e.on q s b u t|false=>exact RX j hi m p n e.on q s u g t
def yg {ops:Array Oper}{e:Nat}(h:rJ P ops e=true){x:Nat}{o:Oper}(f:ops[x]?=some o)(j:cE P o=true){d:Tmp}(k:o.dst=some d):d<e/\∀y b,ops[y]?=some b->y≠x->b.dst≠some d:=by
 unfold rJ at h;rw[aG]at h
 replace h:=h.2
 rw[eb]at h;have:=h x (eU.2 (BF.1 f).1);rw[f]at this;simp only[j,aN,JY,aG,k]at this;refine⟨gO this.1,fun y b g l m=>?_⟩;have i:=this.2;rw[eb]at i;have:=i y (eU.2 (BF.1 g).1);rw[g]at this;simp only[m]at this;have c:Nat.beq y x=false:=by
  cases c:Nat.beq y x with
  |true=>exact absurd (aO c) l|false=>rfl
 rw[c]at this;simp[as6]at this
def S5 {ops:Array Oper}{g:Nat}(h:rJ P ops g=true){x:Nat}{o:Oper}(d:ops[x]?=some o)(i:cE P o=true){y:Nat}{b:Oper}(f:ops[y]?=some b){t:Tmp}(j:b.dst=some t)(k:ady o t=true) :
  cE P b=false/\∃e∈o.after,Region.binds .any e=true/\e.on=y:=by
 unfold rJ at h;rw[aG]at h
 replace h:=h.1
 unfold ane at h;rw[eb]at h;have:=h x (eU.2 (BF.1 d).1);rw[d]at this;simp only[i,aN,JY]at this;rw[eb]at this;have:=this y (eU.2 (BF.1 f).1);rw[f]at this;simp only[j,k,aN,JY,aG]at this;refine⟨by simpa using this.1,?_⟩;obtain⟨e,l,c⟩:=auO.1 this.2;rw[aG]at c;exact⟨e,l,c.1,aO c.2⟩
def unl (R:Array Bool)(n:Nat):Nat:=(List.range n).countP fun i=> !R.getD i true
def atr {p q:Nat->Bool}{i:Nat}(b:∀x,q x=true->p x=true)(c:p i=true)(d:q i=false):∀{l:List Nat},i∈l->l.countP q<l.countP p
 |[],h=>by cases h
 |j::l,h=>by
  have g:l.countP q<=l.countP p:=aAz fun x _ e=>b x e
  rcases cT.1 h with rfl|h
  .rw[G0,G0,c,d];simp;omega
  .have k:=atr b c d h;rw[G0,G0];cases f:q j with
   |false=>simp;omega|true=>rw[b j f];simp;omega
def aC9 {R:Array Bool}{n i:Nat}(hi:i<n)(e:R.size=n)(b:R.getD i true=false):unl (R.setIfInBounds i true) n<unl R n:=by
 refine atr (i:=i) (fun x c=>?_) (by simp[b]) ?_ (eU.2 hi)
 .by_cases d:i=x
  .subst d;simp[b]
  .rw[getD_set_ne true d]at c;exact c
 .have:(R.setIfInBounds i true).getD i true=true:=by simp[Po,aCM,e,hi]
  simp[this]
def aDa {R:Array Bool}{n i:Nat}(hi:i<n)(b:R.getD i true=false):0<unl R n :=
 List.countP_pos_iff.2 ⟨i,eU.2 hi,by simp[b]⟩
structure Mq (P:Program) (C:FuncId->Option Any) (N:Nat) (ops:Array Oper) (hd0 hd1:Nat->Option (Bool×Obj)) (M R:Array Bool) (E:Nat->Option Nat) (a:Act):Prop where
 szM:M.size=ops.size
 szR:R.size=ops.size
 rel:∀i,R.getD i false=(M.getD i false || (E i).isSome)
 early:∀x g,E x=some g->M.getD x false=false/\∃o d obj,ops[x]?=some o/\cE P o=true/\o.dst=some d/\(aJM P C N o d/\anH P o a obj/\∀e∈o.after,Region.binds .any e=true->R.getD e.on false=true)/\a.tmps.getD d undef=mkF o g/\hd1 g=some (true,obj)/\hd0 g=none
 inj:∀x y g,E x=some g->E y=some g->x=y
 z:∀x ox d,ops[x]?=some ox->H3 P ox=true->ox.dst=some d->R.getD x false=true->∃g,a.tmps.getD d undef=.slice (some ⟨g,0,none⟩) 0 0
 hd:∀g v,hd0 g=some v->hd1 g=some v
section
variable {ops:Array Oper} {hd0 hd1:Nat->Option (Bool×Obj)} {M R:Array Bool} {E:Nat->Option Nat}
def kK {l:Array Bool}{i:Nat}(h:l.getD i true=false):l.getD i false=false:=by
 rcases S2 i l.size with b|b
 .rw[<-Dm b];exact h
 .simp[Array.getElem?_eq_none b,Po]
def amE {l:Array Bool}{i:Nat}(h:l.getD i false=false)(hi:i<l.size):l.getD i true=false:=by rw[Dm hi];exact h
def PA {l:Array Bool}{i:Nat}(hi:i<l.size):(l.setIfInBounds i true).getD i false=true:=by simp[Po,aCM,hi]
def Mq.ready (b:Mq P C N ops hd0 hd1 M R E a){j:Nat}(d:j∈Region.ready .any ops M)(f:E j=none):j∈Region.ready .any ops R:=by
 obtain⟨g,o,c,h⟩:=mem_ready.1 d;have hlt:j<ops.size:=(BF.1 c).1;refine mem_ready.2 ⟨amE ?_ (by rw[b.szR];exact hlt),o,c,fun e i k=>?_⟩
 .rw[b.rel,kK g,f];rfl
 .rw[b.rel,h e i k,agu]
def Mq.unM (c:Mq P C N ops hd0 hd1 M R E a){j:Nat}(h:R.getD j true=false)(hlt:j<ops.size):M.getD j true=false/\E j=none:=by
 have b:=kK h;rw[c.rel]at b;simp only[ai3]at b;refine⟨amE b.1 (by rw[c.szM];exact hlt),?_⟩;cases d:E j with
 |none=>rfl
 |some g =>
  rw[d]at b;cases b.2
def Mq.next (b:Mq P C N ops hd0 hd1 M R E a){D:Nat}(hfd:rJ P ops D=true){j:Nat}{o:Oper}(f:ops[j]?=some o)(F:E j=none)(H:R.getD j true=false){a':Act}(l:∀t,o.dst≠some t->a'.tmps.getD t undef=a.tmps.getD t undef)
  (I:H3 P o=true->∀d,o.dst=some d->∃g,a'.tmps.getD d undef=.slice (some ⟨g,0,none⟩) 0 0) :
  Mq P C N ops hd0 hd1 (M.setIfInBounds j true) (R.setIfInBounds j true) E a':=by
 have hlt:j<ops.size:=(BF.1 f).1;refine⟨by simpa using b.szM,by simpa using b.szR,fun i=>?_,fun x g c=>?_,b.inj,fun x m d h n p c=>?_,b.hd⟩
 .by_cases q:j=i
  .subst q;rw[PA (by rw[b.szR];exact hlt),PA (by rw[b.szM];exact hlt)];rfl
  .rw[getD_set_ne false q,getD_set_ne false q];exact b.rel i
 .obtain⟨K,m,d,obj,s,u,A,k,L,O,Q⟩:=b.early x g c;have B:j≠x:=by rintro rfl;rw[F]at c;cases c
  refine⟨by rw[getD_set_ne false B];exact K,m,d,obj,s,u,A,⟨k.1,k.2.1.same fun t S=>l t fun T=>?_,fun e v y=>getD_set_true (k.2.2 e v y)⟩,?_,O,Q⟩
  .obtain⟨_,e,v,y,W⟩:=S5 hfd s u f T S;have:=k.2.2 e v y;rw[W,kK H]at this;cases this
  rw[l d ((yg hfd s u A).2 j o f B)];exact L
 .by_cases z:j=x
  .subst z;rw[f]at h;cases h;exact I n d p
  .rw[l d ((yg hfd h (jd n) p).2 j o f z)];rw[getD_set_ne false z]at c;exact b.z x m d h n p c
def aGp (n x:Nat):(Array.replicate n false).getD x false=false:=by rw[Po,Array.getElem?_replicate];split<;>rfl
def aA5 (a:Act)(o:Oper)(v:Value)(t:Tmp)(b:o.dst≠some t):(a.put o.dst v).tmps.getD t undef=a.tmps.getD t undef:=by
 cases c:o.dst with
 |none=>simp[Act.put]|some d=>exact ny (fun e=>b (by rw[c,e])) v
def aIz {f:St}(h:f=st\/∃c b g,st.get c=.v (.c (.bool b))/\f=st.put c (.v (.c (.bool g)))){x:Operand}{d j:Nat}(e:st.ac x=.ptr d j):f.ac x=.ptr d j:=by
 rcases h with rfl|⟨c,b,g,k,rfl⟩
 .exact e
 .cases x with
  |tmp s =>
   by_cases i:c=s
   .subst i;simp only[St.ac,St.ec,St.ev,k]at e;cases e
   .have:(st.put c (.v (.c (.bool g)))).ac (.tmp s)=st.ac (.tmp s):=by simp only[St.ac,St.ec,St.ev,St.get,St.put,au,af i]
    rw[this];exact e
  |_=>exact e
def avv {k:St->Option U}(h:Inv w0 G st a w){t:TypeId}{x:Operand}(e:o.op=.load t x){d j:Nat}(f:st.ac x=.ptr d j)(c:iZ P C (rH.RJ N) o st k=some r):anj P w0 G w d a o k r:=by
 simp only[iZ,e]at c;split at c
 .rename_i l off g;split at c
  .rename_i i;split at c
   .exact aCZ h t x e g i (b:=true) ‹_› (v:=.agg _) rfl f c
   .split at c
    .rename_i m _ y n;exact aCZ h t x e g i (b:=false) m (v:=.c y) ⟨y,n,rfl⟩ f c
    .cases c
   .cases c
  .cases c
 .cases c
def ax6 {M:Array Bool}{t:Tmp}(h:aAI ops M t=true){j:Nat}{b:Oper}(c:ops[j]?=some b)(d:M.getD j true=false):b.dst≠some t:=by have:=eb.1 h j (eU.2 (BF.1 c).1);rw[c]at this;dsimp only at this;rw[d,JY]at this;intro e;rw[e]at this;simp[as6]at this
def ax7 {M:Array Bool}{i:Nat}(h:au2 P C ops M st i o=true):∃t x b off,o.op=.load t x/\st.ac x=.ptr b off/\∀c d,ops[c]?=some d->p2 P C ops d=false->M.getD c true=true\/oi ops M i 3 d=true \/
  ∃e f,agx C d=some e/\st.get e=.v (.c (.ptr f 0))/\f≠b/\aAI ops M e=true:=by
 unfold au2 at h;split at h
 .rename_i t x k;split at h
  .rename_i b off l;refine⟨t,x,b,off,k,l,fun c d j m=>?_⟩;have:=eb.1 h c (eU.2 (BF.1 j).1);rw[j]at this;dsimp only at this;rw[m,JY,kj,kj]at this;rcases this with (h1|h1)|h1
   .exact .inl h1
   .exact .inr (.inl h1)
   .refine .inr (.inr ?_);split at h1
    .rename_i e n;rw[aG]at h1;obtain⟨g,p⟩:=h1;split at g
     .rename_i f q;exact⟨e,f,n,q,bu g,p⟩
     .cases g
    .cases h1
  .cases h
 .cases h
def aA6 {x:Option Tmp}{t:Tmp}(h:as6 x (some t)=true):x=some t:=by
 cases x with
 |none=>cases h|some s=>rw[aO (show Nat.beq s t=true from h)]
def Mq.fresh (h:Mq P C N ops hd0 hd1 M R E a){i:Nat}(hi:i∈Region.ready .any ops R)(j:ops[i]?=some o)(t:Tmp)(k:abI o=some t)(c:Pt P ops o=true):∃g,a.tmps.getD t undef=.slice (some ⟨g,0,none⟩) 0 0:=by
 obtain⟨_,y,f,l⟩:=mem_ready.1 hi;rw[j]at f;cases f;unfold Pt at c;rw[k]at c;obtain⟨x,_,b⟩:=auS.1 (show(List.range ops.size).any _=true from c);split at b
 .rename_i m n;simp only[aG]at b;obtain⟨⟨p,q⟩,s⟩:=b;obtain⟨e,u,d⟩:=auO.1 s;rw[aG]at d;have v:=aO d.2;have:=l e u d.1;rw[v]at this;exact h.z x m t n p (aA6 q) this
 .cases b
def Mq.dlt (_:Mq P C N ops hd0 hd1 M R E a){b:Nat}(hfd:rJ P ops b=true)(c:a.tmps.size=b){i:Nat}(e:ops[i]?=some o)(d:Tmp)(f:cE P o=true)(g:o.dst=some d):d<a.tmps.size:=by rw[c];exact(yg hfd e f g).1
def ax8 {e:St}(h:e=st\/∃d b f,st.get d=.v (.c (.bool b))/\e=st.put d (.v (.c (.bool f))))(c:J1 st o=true):J1 e o=true:=by
 rcases h with rfl|⟨d,b,f,j,rfl⟩
 .exact c
 .cases g:o.op with
  |load t x =>
   simp only[J1,g]at c ⊢;cases x with
   |const _=>exact c
   |tmp s =>
    by_cases i:d=s
    .subst i;simp only[St.ac,St.ec,St.ev,j]at c;cases c
    .have:(st.put d (.v (.c (.bool f)))).ac (.tmp s)=st.ac (.tmp s):=by simp only[St.ac,St.ec,St.ev,St.get,St.put,au,af i]
     rw[this];exact c
   |_=>exact c
  |convert _ _ _=>simp[J1,g]at c|_=>simp[J1,g]
def aA7 (h:Inv w0 G st a w)(b:aCQ ops.toList st o=true):Region.wanted o (yielded ops a.tmps)=false:=by
 unfold aCQ at b;split at b
 .cases b
 .rename_i m Vt g;split at b
  .rename_i n j;split at b
   .rename_i d k;have e:=RW (tmps:=a.tmps) j k;have c:=h.ev (.tmp d);rw[show st.ev (.tmp d)=st.get d from rfl]at c;split at b
    .rename_i f;rw[f]at c;rw[show a.tmps.getD d undef=.bool true from c]at e;simp[Region.wanted,g,e]
    .rename_i f;rw[f]at c;rw[show a.tmps.getD d undef=.bool false from c]at e;simp[Region.wanted,g,e]
    .rename_i f;rw[f]at c;obtain⟨l,i,p⟩:=c;have i:a.tmps.getD d undef=.tuple l:=i;rw[i]at e;simp[Region.wanted,g,e]
    .cases b
   .cases b
  .cases b
def aGq (zz:∀f qN,C f=some qN->S4 P w0 f qN){Q:Exit->Act->World->Prop}(zA:∀c a a' w,Q (.panic c) a w->Q (.panic c) a' w)(zB:Region.noSelect ops=true){xq:Nat}(hfd:rJ P ops xq=true){k:St->Option U}(zC:rL w0 k r (Q .normal)) :
  ∀(s m n:Nat),m+n=s->∀{M R:Array Bool} {E:Nat->Option Nat} {hd1:Nat->Option (Bool×Obj)} {G:Gh} {st:St} {a:Act} {w:World},unl R ops.size<=n->a.tmps.size=xq->Mq P C N ops w0.hd hd1 M R E a ->
   Inv {w0 with hd:=hd1} G (tv P ops M (List.range ops.size) st) a w->H4 P C (rH.RJ N) ops m M st k=some r->OX P ops Q (SI P C ops G w a R) n R a w:=by
 intro s
 induction s using Nat.strongRecOn with
 |ind s qO =>
 intro m n hmn M R E hd1 G st a w zD qw j p K;have hlt:∀{i:Nat} {o:Oper},ops[i]?=some o->i<ops.size:=fun h=>(BF.1 h).1
 have xZ:Region.ready .any ops M=[]->ck (JB P ops M (List.range ops.size)) (k st)=some r->OX P ops Q (SI P C ops G w a R) n R a w:=by
  intro qp K;obtain⟨qP,K⟩:=aX K;have zc:=fun i D=>VQ qP i (eU.2 D)
  have zE:∀x,E x=none:=by
   intro x;cases qq:E x with
   |none=>rfl
   |some g =>
    obtain⟨qf,o,d,obj,ql,qx,_⟩:=j.early x g qq;have:=zc x (hlt ql) o ql qx;rw[amE qf (by rw[j.szM];exact hlt ql)]at this;cases this
  rw[aji (fun i D o q zF=>zc i (eU.1 D) o q zF)]at p;have zG:Inv w0 G st a w:=⟨p.nw,p.rok,p.below,p.defers,p.size,p.sp,fun g b o qj=>p.hd g b o (j.hd g _ qj),p.tm,p.bx,p.bl,p.own⟩;refine ax5 (List.eq_nil_iff_forall_not_mem.2 fun i D=>?_) (zC _ _ _ _ zG K) n;obtain⟨qf,o,q,qC⟩:=mem_ready.1 D;have:i∈Region.ready .any ops M:=by refine mem_ready.2 ⟨(j.unM qf (hlt q)).1,o,q,fun e I T=>?_⟩;have:=qC e I T;rw[j.rel,zE]at this;simpa using this
  rw[qp]at this;cases this
 cases m with
 |zero =>
  simp only[H4]at K;split at K
  .rename_i qp;exact xZ qp K
  .cases K
 |succ m =>
  have zH:=K;simp only[H4]at K;split at K
  .rename_i qp;exact xZ qp K
  .rename_i i0 rest qp;have zI:=fun f qN h=>p.aLb (zz f qN h:S4 P {w0 with hd:=hd1} f qN)
   split at K
   ·
    rename_i qk o zK;obtain⟨qf,q,qQ,zL,zM⟩:=ZV zK;rw[<-qp]at qf;have zd:E qk=none:=by
     cases qq:E qk with
     |none=>rfl
     |some g =>
      obtain⟨_,xr,d,obj,ql,qx,_⟩:=j.early qk g qq;rw[q]at ql;cases ql;rw[Kc qQ]at qx;cases qx
    have xu:=j.ready qf zd;have qd:=(mem_ready.1 xu).1;have xv:p2 P C ops o=true:=by unfold p2;rw[qQ];rfl
    cases n with
    |zero=>exact absurd (aDa (hlt q) qd) (by omega)
    |succ n =>
     have zN:=aC9 (hlt q) j.szR qd;have fin:∀{v:Value} {qD:Gh} {qy:St},Inv p.root qD qy (a.put o.dst v) w->H4 P C (rH.RJ N) ops m (M.setIfInBounds qk true) qy k=some r->(∃xw:World->Prop,YieldsIf P ops xw o v a/\∀Z F,Sup ops R Z->Z.getD qk true=false->SI P C ops G w a R Z F->xw F) ->
       OX P ops Q (SI P C ops G w a R) (n+1) R a w:=by
      intro v qD qy qm qg ⟨xw,B,zO⟩;obtain⟨qR,xy,qE⟩:=p.anI qm;have qn:=qO (m+n) (by omega) m n rfl (M:=M.setIfInBounds qk true) (R:=R.setIfInBounds qk true) (by omega) (by rw[<-qw];cases o.dst<;>simp[Act.put])
       (j.next hfd q zd qd (a':=a.put o.dst v) (fun t W=>by
        cases hd:o.dst with
        |none=>simp[Act.put]|some d=>exact ny (fun e=>W (by rw[hd,e])) v) fun qt=>absurd (jd qt) (by rw[Kc qQ];simp)) (p5 _ qR) qg
      refine avs q (Region.noSelect_spec zB) (fun c a w zP=>zA c _ _ w zP) (fun l F=>SI.set q xv l F) n R a w ?_ xu B zO (SI.refl R R) (wT n (fun Z F qz O=>?_) qn)
      .intro ze zf qF qA xz zQ;exact Region.free_spec q zL ze zf qF qA ((j.unM xz (hlt qF)).1) zQ
      .exact SI.step j.szR ((SI.set q xv R w).2 (SI.refl R R)) (fun g H q=>(qE g H q).1) (fun t W=>aA5 a o v t (W qk o q (kK qd))) (Sup.set xu) qz O
     rcases ZU p.from K with ⟨X,qS,zg,D,qh⟩|⟨X,zh,qS,D,qh⟩
     .rcases zM with (zR|zS)|(zT|zW)
      .have zX:J1 qS o=true:=ax8 zg zR;obtain⟨v,qD,qy,I,qm,qg⟩:=avr qQ zX D qh;exact fin qm qg ⟨_,.inl ⟨X,I⟩,fun Z F _ _ O=>O.2.1⟩
      .rw[aA7 p zS]at X;cases X
      .obtain⟨v,qD,qy,I,qm,qg⟩:=abV qQ D qh;refine fin qm qg ⟨fun F=>Below w.heap.size w F,.inl ⟨X,fun F qG=>I F (yd qG)⟩,fun Z F qH xA O=>O.2.2.1 fun c xd qo xB=>?_⟩;have zY:Z.size=ops.size:=qH.1.symm.trans j.szR;rw[Dm (by rw[zY];exact hlt qo),Dm (by rw[j.szR];exact hlt qo)];rcases arL zT qo xB with xC|xD
       .have zi:R.getD c false=true:=by rw[j.rel,<-Dm (by rw[j.szM];exact hlt qo),xC,agu]
        rw[zi,qH.2.1 c zi]
       .cases qq:R.getD c false with
        |true=>rw[qH.2.1 c qq]
        |false =>
         cases B:Z.getD c false with
         |false=>rfl
         |true =>
          refine(RX (R:=R) (i:=qk) (fun d zZ hd xE qT e I T=>?_) (kK qd) qH (kK xA) 3 c xd qo qq B xD).elim;rw[j.rel,kK xE,JY]at qT;obtain⟨g,H⟩:=lX.1 qT;obtain⟨_,ja,_,_,qW,_,_,xF,_⟩:=j.early d g H;rw[hd]at qW;cases qW;exact xF.2.2 e I T
      .obtain⟨t,x,b,off,jc,zj,qP⟩:=ax7 zW;obtain⟨v,qD,qy,I,qm,qg⟩:=avv D jc (aIz zg zj) qh;have hrel:=p.ac x;rw[zj]at hrel;obtain⟨je,_⟩:=hrel;obtain⟨jf,jg⟩:=lX.1 je;obtain⟨_,_,_,zk,_⟩:=p.bx b jf jg;have jh:=(p.own _ _ zk).2.1;refine fin qm qg ⟨fun F=>F.heap[G.hb b]?=w.heap[G.hb b]?,.inl ⟨X,I⟩,fun Z F qH xA O=>O.2.2.2 (G.hb b) jh fun c xd qo xB xG ji=>?_⟩;rcases qP c xd qo xB with xC|xD|⟨xe,zl,jk,jl,qA,jm⟩
       .have:R.getD c false=true:=by rw[j.rel,<-Dm (by rw[j.szM];exact hlt qo),xC,agu]
        rw[this]at xG;cases xG
       .refine(RX (R:=R) (i:=qk) (fun d zZ hd xE qT e I T=>?_) (kK qd) qH (kK xA) 3 c xd qo xG ji xD).elim;rw[j.rel,kK xE,JY]at qT;obtain⟨g,H⟩:=lX.1 qT;obtain⟨_,ja,_,_,qW,_,_,xF,_⟩:=j.early d g H;rw[hd]at qW;cases qW;exact xF.2.2 e I T
       .have zm:=p.ev (.tmp xe);rw[show(tv P ops M (List.range ops.size) st).ev (.tmp xe)=(tv P ops M (List.range ops.size) st).get xe from rfl,jl]at zm;obtain⟨jn,jo⟩:=(show _/\_ from zm);obtain⟨jq,jr⟩:=lX.1 jn;obtain⟨_,_,_,zn,_⟩:=p.bx zl jq jr;refine⟨xe,G.hb zl,jk,fun ze zf qF js=>ax6 jm qF ((j.unM (amE js (by rw[j.szR];exact hlt qF)) (hlt qF)).1),jo,fun e=>qA ?_⟩;rw[e,zk]at zn;injection zn with xH
        injection xH with xH
        exact xH.symm
     .exact fin D qh ⟨fun _=>True,.inr ⟨X,rfl⟩,fun _ _ _ _ _=>trivial⟩
   .rename_i hpn;split at K
    ·
     rename_i x o qq;obtain⟨qf,q,qP,jt⟩:=ZW qq;rw[<-qp]at qf;cases qB:E x with
     |some g =>
      obtain⟨ql,xr,d,obj,xf,qi,aMh,⟨xI,xK,_⟩,xg,ju,hh0⟩:=j.early x g qB;rw[q]at xf;cases xf;obtain⟨_,_,xL,_,_⟩:=RV (C:=C) (N:=N) qi;have qh:iZ P C (rH.RJ N) o (tv P ops M (List.range ops.size) st) (fun st=>H4 P C (rH.RJ N) ops m (M.setIfInBounds x true) st k)=some r:=by unfold adx at K;rw[xL]at K;exact K
      obtain⟨hg1,hg2,hg3⟩:=p.hd g true obj ju;have xM:Inv {w0 with hd:=fun L=>if L=g then none else hd1 L} G (tv P ops M (List.range ops.size) st) a w :=
       ⟨p.nw,p.rok,p.below,p.defers,p.size,p.sp,fun L b xr qj=>p.hd L b xr (by
        dsimp only at qj;split at qj
        .cases qj
        .exact qj),p.tm,p.bx,p.bl,p.own⟩
      obtain⟨zh,qS,qX,qg,aLM⟩:=xI xM hg1 (by simp) hg3 xK xg qh;have xN:Mq P C N ops w0.hd (fun L=>if L=g then none else hd1 L) (M.setIfInBounds x true) R (fun y=>if y=x then none else E y) a:=by
       refine⟨by simpa using j.szM,j.szR,fun i=>?_,fun y L B=>?_,fun y z L B qe=>?_,fun y ox xh hox qt qI hRx=>?_,fun L v qY=>?_⟩
       .by_cases qK:i=x
        .subst qK;rw[PA (by rw[j.szM];exact hlt q),j.rel,qB];simp
        .rw[getD_set_ne false (Ne.symm qK),j.rel,af qK]
       .by_cases xi:y=x
        .rw[ag xi]at B;cases B
        .rw[af xi]at B;obtain⟨xO,Y,xj,xP,qZ,xk,xm,qL,xQ,qu,xR⟩:=j.early y L B;refine⟨by rw[getD_set_ne false (Ne.symm xi)];exact xO,Y,xj,xP,qZ,xk,xm,qL,xQ,?_,xR⟩;have:L≠g:=by rintro rfl;exact xi (j.inj y x L B qB)
         rw[af this];exact qu
       .split at B
        .cases B
        .split at qe
         .cases qe
         .exact j.inj y z L B qe
       .exact j.z y ox xh hox qt qI hRx
       .have:L≠g:=by rintro rfl;rw[hh0]at qY;cases qY
        rw[af this];exact j.hd L v qY
      have qn:=qO (m+n) (by omega) m n rfl (M:=M.setIfInBounds x true) (R:=R) zD qw xN (p5 _ qX) qg;exact wT n (fun Z F _ O=>⟨O.1,fun L hg' xf=>O.2.1 L hg' (aLM L xf),O.2.2⟩) qn
     |none =>
      have xS:=j.ready qf qB;have qd:=(mem_ready.1 xS).1;cases n with
      |zero=>exact absurd (aDa (hlt q) qd) (by omega)
      |succ n =>
       have xT:∀{F:World},w.heap.size<=F.heap.size->(∀g,g<w.heap.size->G.own g=none->F.heap[g]?=w.heap[g]?)->∀{i:Nat} {u:Oper},ops[i]?=some u->i∈Region.ready .any ops R->(p2 P C ops u=true->Below w.heap.size w F)->avu C u a w F->SI P C ops G w a R (R.setIfInBounds i true) F:=by
        intro F qf ql i u A D qx h4;refine⟨qf,ql,fun qj=>?_,fun k hk qj=>?_⟩
        .cases xa:p2 P C ops u with
         |true=>exact qx xa
         |false =>
          have:=qj i u A xa;rw[Dm (by simp[j.szR,hlt A]),PA (by rw[j.szR];exact hlt A),(mem_ready.1 D).1]at this;cases this
        .cases xa:p2 P C ops u with
         |true=>exact(qx xa).block k hk
         |false =>
          obtain⟨t,g,e1,_,e3,e4⟩:=qj i u A xa (kK (mem_ready.1 D).1) (PA (by rw[j.szR];exact hlt A));exact h4 t g k e1 e3 hk (Ne.symm e4)
       refine⟨fun h0=>by(rw[h0]at xS;cases xS),fun i D=>?_⟩;obtain⟨xn,u,A,qC⟩:=mem_ready.1 D;have zN:=aC9 (hlt A) j.szR xn;by_cases qK:i=x
       .subst qK;rw[q]at A;cases A;unfold Go.wpOp;simp only[q];rcases ZU p.from K with ⟨X,qS,_,qX,qh⟩|⟨X,zh,qS,qX,qh⟩
        .rw[X];simp only[gL];refine .inl (Oper.wp_mono (fun a' F h'=>?_) (aA3 zI qX qh (j.fresh D q) (j.dlt hfd qw q)));obtain⟨⟨⟨⟨qD,qy,qm,qg⟩,aLN⟩,zo⟩,xW,xg⟩:=h';obtain⟨qR,xy,qE⟩:=p.anI qm;have qv:=xT xy (fun g H q=>(qE g H q).2) q D aLN zo.2;have qn:=qO (m+n) (by omega) m n rfl (M:=M.setIfInBounds i true) (R:=R.setIfInBounds i true) (by omega) (xW.trans qw) (j.next hfd q qB qd xg zo.1) (p5 _ qR) qg;exact⟨qv,wT n (fun Z zp qz O=>SI.step j.szR qv (fun g H q=>(qE g H q).1) (fun t W=>xg t (W i o q (kK qd))) (Sup.set D) qz O) qn⟩
        .rw[X];simp only[agr,gu];obtain⟨qR,xy,qE⟩:=p.anI qX;have qv:=xT (bG _) (fun g H q=>rfl) q D (fun _=>Below.refl _ w) (.below (Below.refl _ w));have qn:=qO (m+n) (by omega) m n rfl (M:=M.setIfInBounds i true) (R:=R.setIfInBounds i true) (by omega) (by rw[<-qw];cases o.dst<;>simp[Act.put])
          (j.next hfd q qB qd (a':=a.put o.dst undef) (fun t W=>by
           cases hd:o.dst with
           |none=>simp[Act.put]|some d=>exact ny (fun e=>W (by rw[hd,e])) undef) fun qt=>by obtain⟨_,_,hgd,_⟩:=RV (C:=C) (N:=N) (jd qt);simp[Region.wanted,hgd]at X) (p5 _ qR) qh
         exact⟨qv,wT n (fun Z zp qz O=>SI.step j.szR qv (fun g H q=>(qE g H q).1) (fun t W=>aA5 a o undef t (W i o q (kK qd))) (Sup.set D) qz O) qn⟩
       ·
        obtain⟨xp,hEi⟩:=j.unM xn (hlt A);have qi:cE P u=true:=by
         cases qi:cE P u with
         |true=>rfl
         |false =>
          refine absurd (atq qP i (mem_ready.2 ⟨?_,u,A,fun e I T=>?_⟩)) qK
          .rw[Dp A (.inl qi)];exact xp
          .have:=qC e I T;rw[j.rel,kj]at this;rcases this with hM|hEe
           .exact yf _ hM
           .obtain⟨g,H⟩:=lX.1 hEe;obtain⟨_,oe,_,_,xb,xX,_⟩:=j.early e.on g H;refine Dn xb xX (fun e'=>?_) _ (by rw[j.szM];exact hlt xb) (eU.2 (hlt xb));rw[e',qB]at H;cases H
        obtain⟨d,hd,xL,xY,xI⟩:=RV (C:=C) (N:=N) qi;have hpk:Mo P (tv P ops M (List.range ops.size) st) u=true:=by
         rcases anK jt i (eU.2 (hlt A)) u A qi xp with X|hk
         .exfalso;obtain⟨e,I,T,oe,xb,xX,hMe⟩:=aA4 X;have:=qC e I T;rw[j.rel,kK hMe,JY]at this;obtain⟨g,H⟩:=lX.1 this;obtain⟨_,oe',_,_,zq,zr,_⟩:=j.early e.on g H;rw[xb]at zq;cases zq;rw[xX]at zr;cases zr
         .exact hk
        obtain⟨obj,xY,xK⟩:=xY p hpk;have zt:∀(y:Nat) (Y:Oper),ops[y]?=some Y->cE P Y=true->(∀e∈Y.after,Region.binds .any e=true->R.getD e.on false=true)->ady Y d=true->False:=by intro y Y qM hfy hdy xz;obtain⟨_,e,I,T,hon⟩:=S5 hfd qM hfy A hd xz;have:=hdy e I T;rw[hon,kK xn]at this;cases this
        obtain⟨aLO,zu⟩:=yg hfd A qi hd;have xv:p2 P C ops u=true:=by unfold p2;rw[qi];simp
        unfold Go.wpOp;simp only[A];rw[show Region.wanted u (yielded ops a.tmps)=true by simp[Region.wanted,xL]];simp only[gL];refine .inl (J4 xY ?_);have qG:Below w.heap.size w (w.alloc obj):=⟨rfl,rfl,rfl,by simp,fun k hk=>Below.heap_alloc _ _ _ hk⟩;have qv:=xT qG.size (fun g H _=>qG.block g H) A D (fun _=>qG) (.below qG);have xM:=(p.aLL obj).aLK (ajg A qi xp hd _ st (eU.2 (hlt A))) (mkF u w.heap.size);have xW:(a.put u.dst (mkF u w.heap.size)).tmps.size=xq:=by rw[hd,<-qw];simp[Act.put]
        have zw:(a.put u.dst (mkF u w.heap.size)).tmps.getD d undef=mkF u w.heap.size:=by rw[hd];simp[Act.put,Po,qw,aLO]
        have xN:Mq P C N ops w0.hd (fun g=>if g=w.heap.size then some (true,obj) else hd1 g) M (R.setIfInBounds i true) (fun y=>if y=i then some w.heap.size else E y) (a.put u.dst (mkF u w.heap.size)):=by
         refine⟨j.szM,by simpa using j.szR,fun y=>?_,fun y g B=>?_,fun y z g B qe=>?_,fun y Y xh qM qt qI zx=>?_,fun g v qY=>?_⟩
         .by_cases S:y=i
          .subst S;rw[PA (by rw[j.szR];exact hlt A),ag rfl];simp
          .rw[getD_set_ne false (Ne.symm S),j.rel,af S]
         .by_cases S:y=i
          .rw[ag S]at B;cases B;subst S;refine⟨kK xp,u,d,obj,A,qi,hd,⟨xI,xK.same fun t W=>?_,fun e I T=>getD_set_true (qC e I T)⟩,zw,by simp,?_⟩
           .rw[hd];exact ny (fun e=>zt y u A qi qC (by rw[<-e];exact W)) _
           cases qe:w0.hd w.heap.size with
           |none=>rfl
           |some v =>
            obtain⟨b,ob⟩:=v;have:=(p.hd _ _ _ (j.hd _ _ qe)).2.1;omega
          .rw[af S]at B;obtain⟨xO,Y,xj,xP,qZ,xk,xm,qL,xQ,qu,xR⟩:=j.early y g B;refine⟨xO,Y,xj,xP,qZ,xk,xm,⟨qL.1,qL.2.1.same fun t W=>?_,fun e I T=>getD_set_true (qL.2.2 e I T)⟩,?_,?_,xR⟩
           .rw[hd];exact ny (fun e=>zt y Y qZ xk qL.2.2 (by rw[<-e];exact W)) _
           .have qA:xj≠d:=fun e=>zu y Y qZ S (by rw[xm,e])
            rw[hd,ny qA];exact xQ
           .have:g≠w.heap.size:=Nat.ne_of_lt (p.hd _ _ _ qu).2.1;rw[af this];exact qu
         .by_cases S:y=i
          .rw[ag S]at B;cases B;by_cases xc:z=i
           .rw[S,xc]
           .rw[af xc]at qe;obtain⟨_,_,_,_,_,_,_,_,_,qu,_⟩:=j.early z _ qe;exact absurd (p.hd _ _ _ qu).2.1 (Vo _)
          .rw[af S]at B;by_cases xc:z=i
           .rw[ag xc]at qe;cases qe;obtain⟨_,_,_,_,_,_,_,_,_,qu,_⟩:=j.early y _ B;exact absurd (p.hd _ _ _ qu).2.1 (Vo _)
           .rw[af xc]at qe;exact j.inj y z g B qe
         .by_cases S:y=i
          .subst S;rw[A]at qM;cases qM;rw[hd]at qI;cases qI;exact⟨_,zw.trans (anJ qt _)⟩
          .rw[getD_set_ne false (Ne.symm S)]at zx;have qA:xh≠d:=fun e=>zu y Y qM S (by rw[qI,e])
           rw[hd,ny qA];exact j.z y Y xh qM qt qI zx
         .obtain⟨b,ob⟩:=v;have zy:=j.hd g _ qY;have:g≠w.heap.size:=Nat.ne_of_lt (p.hd _ _ _ zy).2.1;rw[af this];exact zy
        have qn:=qO (m+1+n) (by omega) (m+1) n rfl (M:=M) (R:=R.setIfInBounds i true) (by omega) xW xN (by rw[hd]at *;exact xM) zH;refine⟨qv,wT n (fun Z zp qz O=>SI.step j.szR qv (fun g H q=>?_) (fun t W=>aA5 a u _ t (W i u A (kK xn))) (Sup.set D) qz O) qn⟩;show(if g=w.heap.size then some Key.hid else G.own g)=none;rw[af (Nat.ne_of_lt H)];exact q
    .cases K
def arM (j:∀f e,C f=some e->S4 P w0 f e){Q:Exit->Act->World->Prop}(l:∀c a m w,Q (.panic c) a w->Q (.panic c) m w)(n:Region.noSelect ops=true)(hfd:rJ P ops st.nt=true){k:St->Option U}(p:rL w0 k r (Q .normal))
  (h:Inv w0 G st a w) (q:H4 P C (rH.RJ N) ops ops.size (Array.replicate ops.size false) st k=some r):wpAny P .any ops Q ops.size (Array.replicate ops.size false) a w:=by
 refine anG _ _ _ _ (aGq (hd1:=w0.hd) (E:=fun _=>none) j l n hfd p _ _ _ rfl ?_ h.size ⟨by simp,by simp,fun i=>(by simp),fun x g b=>(by cases b),fun x y g b=>(by cases b),fun x s d _ _ _ b=>absurd b (by rw[aGp];simp),fun _ _ h=>h⟩ (p5 _ h) q);refine bX List.countP_le_length ?_;simp
end
end
end Go.Am
