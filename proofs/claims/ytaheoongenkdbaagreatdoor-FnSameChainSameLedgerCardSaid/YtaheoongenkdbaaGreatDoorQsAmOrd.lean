/- No condition. -/
import Derived.Test.YtaheoongenkdbaaGreatDoorQsAmDraw
import Derived.Test.YtaheoongenkdbaaGreatDoorQsAmKeep
import Derived.OrdersHeld
set_option linter.all false
namespace Go.Am
open Go.RowKit
section
variable {N:Nat} {P:Program} {C:FuncId->Option Any} {w0:eA} {w:World} {G:Gh} {st:St} {a:Act} {U:Type} {r:U} {o:Oper}
def Sup (ops:Array Oper)(l b:Array Bool):Prop :=
 l.size=b.size/\(∀i,l.getD i false=true->b.getD i false=true) /\
  ∀i o,ops[i]?=some o->l.getD i false=false->b.getD i false=true->∀e∈o.after,Region.binds .any e=true->b.getD e.on false=true
def Sup.refl (ops:Array Oper)(l:Array Bool):Sup ops l l:=⟨rfl,fun _ h=>h,fun _ _ _ h b=>by rw[h]at b;cases b⟩
def Sup.trans {ops:Array Oper}{a b c:Array Bool}(h:Sup ops a b)(k:Sup ops b c):Sup ops a c :=
 ⟨h.1.trans k.1,fun i l=>k.2.1 i (h.2.1 i l),fun i o d m n e f g=>by
  cases j:b.getD i false with
  |true=>exact k.2.1 _ (h.2.2 i o d m j e f g)|false=>exact k.2.2 i o d j n e f g⟩
def Sup.set {ops:Array Oper}{l:Array Bool}{i:Nat}(hi:i∈Region.ready .any ops l):Sup ops l (l.setIfInBounds i true):=by
 refine⟨by simp,fun _ h=>getD_set_true h,fun f o g j b e k m=>?_⟩;by_cases c:i=f
 .subst c;obtain⟨_,p,d,n⟩:=mem_ready.1 hi;rw[g]at d;cases d;exact getD_set_true (n e k m)
 .rw[getD_set_ne false c,j]at b;cases b
def sM {l:Array Bool}{i:Nat}(h:i<l.size):l.getD i true=l.getD i false:=by simp[Nb,h]
def Et (P:Program)(ops:Array Oper)(Q:Exit->Act->World->Prop)(S:Array Bool->World->Prop):Nat->Array Bool->Act->World->Prop
 |0,l,a,w=>Region.ready .any ops l=[]/\Q .normal a w
 |n+1,l,a,w =>
  (Region.ready .any ops l=[]->Q .normal a w) /\
  ∀i∈Region.ready .any ops l,wpOp P ops Q i (fun c b=>S (l.setIfInBounds i true) b/\Et P ops Q S n (l.setIfInBounds i true) c b) a w
def aj6 {ops:Array Oper}{Q:Exit->Act->World->Prop}{S:Array Bool->World->Prop}:∀(n:Nat) (l:Array Bool) (a:Act) (w:World),Et P ops Q S n l a w->wpAny P .any ops Q n l a w
 |0,_,_,_,h=>h|n+1,_,_,_,h=>⟨h.1,fun i b=>wpOp_mono (fun c d e=>aj6 n _ c d e.2) (h.2 i b)⟩
def vm {ops:Array Oper}{Q:Exit->Act->World->Prop}{S e:Array Bool->World->Prop}:∀(n:Nat) {l:Array Bool} {a:Act} {w:World},(∀b c,Sup ops l b->e b c->S b c)->Et P ops Q e n l a w->Et P ops Q S n l a w
 |0,_,_,_,_,h=>h|n+1,l,_,_,f,h=>⟨h.1,fun i d=>wpOp_mono (fun k c g=>⟨f _ _ (Sup.set d) g.1,vm n (fun b c j=>f b c ((Sup.set d).trans j)) g.2⟩) (h.2 i d)⟩
def atB {ops:Array Oper}{Q:Exit->Act->World->Prop}{S:Array Bool->World->Prop}{l:Array Bool}{a:Act}{w:World}(b:Region.ready .any ops l=[])(h:Q .normal a w):∀n,Et P ops Q S n l a w
 |0=>⟨b,h⟩|_+1=>⟨fun _=>h,by rw[b];simp⟩
def are {ops:Array Oper}{Q:Exit->Act->World->Prop}{S:Array Bool->World->Prop}{F:World->Prop}{i:Nat}{g:Oper}{v:Value}(hi:ops[i]?=some g)
  (I:∀(j:Nat) (o:Oper) cs b,ops[j]?=some o->o.op≠.select cs b) (Y:∀c a w,Q (.panic c) (a.put g.dst v) w->Q (.panic c) a w) (z:∀l w,S (l.setIfInBounds i true) w↔S l w) :
  ∀(u:Nat) (l:Array Bool) (a:Act) (w:World),
   (∀j m,ops[j]?=some m->j≠i->l.getD j true=false->(∀e∈m.after,Region.binds .any e=true->e.on≠i)->g.apart ops m=true) ->
   i∈Region.ready .any ops l->YieldsIf P ops F g v a->(∀p q,Sup ops l p->p.getD i true=false->S p q->F q)->S l w ->
   Et P ops Q S u (l.setIfInBounds i true) (a.put g.dst v) w->Et P ops Q S (u+1) l a w:=by
 intro u
 induction u with
 |zero =>
  intro l a w _ d x y s H;refine⟨fun h=>(by rw[h]at d;cases d),fun j t=>?_⟩;by_cases f:j=i
  .subst f;exact x.wpOp hi (y l w (Sup.refl ops l) (mem_ready.1 d).1 s) ⟨(z l w).2 s,H⟩
  .have:=ready_mono t f;rw[H.1]at this;cases this
 |succ u Z =>
  intro l a w K d x y s H;refine⟨fun h=>(by rw[h]at d;cases d),fun j t=>?_⟩;by_cases f:j=i
  .subst f;exact x.wpOp hi (y l w (Sup.refl ops l) (mem_ready.1 d).1 s) ⟨(z l w).2 s,H⟩
  .have n:=H.2 j (ready_mono t f);obtain⟨L,m,A,qa⟩:=mem_ready.1 t;have qb:∀e∈m.after,Region.binds .any e=true->e.on≠i:=fun e qd qe qf=>by
    have n:=qa e qd qe;have O:=(mem_ready.1 d).1;rw[qf]at n;rcases QJ i l.size with B|B
    .rw[sM B]at O;rw[O]at n;cases n
    .simp[avL B]at n
   have qg:=wpOp_putIf A (K j m A f L qb) (fun cs b=>I i g cs b hi) (fun cs b=>I j m cs b A) Y x n;have qh:∀k ok,ops[k]?=some ok->k≠i->(l.setIfInBounds j true).getD k true=false ->
     (∀e∈ok.after,Region.binds .any e=true->e.on≠i)->g.apart ops ok=true:=fun k ok qi qj T qk=>by
    refine K k ok qi qj ?_ qk;by_cases W:j=k
    .subst W;exact L
    .rw[getD_set_ne true W]at T;exact T
   refine wpOp_mono (fun ql q D=>?_) qg;have X:S (l.setIfInBounds j true) q:=by have:=D.2.1;rw[Array.setIfInBounds_comm _ _ (Ne.symm f)]at this;exact(z _ _).1 this
   refine⟨X,Z (l.setIfInBounds j true) ql q qh (ready_mono d (Ne.symm f)) D.1 (fun p qm qn=>y p qm ((Sup.set t).trans qn)) X ?_⟩;rw[Array.setIfInBounds_comm _ _ f];exact D.2.2
def Off (C:FuncId->Option Any)(ops:Array Oper)(a:Act)(d:Array Bool)(k:Nat)(e:Oper):Prop :=
 ∃t g,SW C e=some t/\(∀b c,ops[b]?=some c->d.getD b false=false->c.dst≠some t)/\a.tmps.getD t undef=.pointer (some ⟨g,0,none⟩)/\g≠k
def FrB (P:Program)(C:FuncId->Option Any)(ops:Array Oper)(d:Array Bool)(c:Oper):Prop :=
 ∃t x b,SW C c=some t/\ops[x]?=some b/\bA P b=true/\Pz b=true/\b.dst=some t/\d.getD x false=false/\∃e∈c.after,Region.binds .any e=true/\e.on=x
def SI (P:Program)(C:FuncId->Option Any)(ops:Array Oper)(G:Gh)(w:World)(a:Act)(d l:Array Bool)(w':World):Prop :=
 w.heap.size<=w'.heap.size/\(∀g,g<w.heap.size->G.own g=none->w'.heap[g]?=w.heap[g]?) /\
  ((∀c b,ops[c]?=some b->oL P C ops b=false->l.getD c true=d.getD c true)->Below w.heap.size w w') /\
  ∀k,k<w.heap.size->(∀c b,ops[c]?=some b->oL P C ops b=false->d.getD c false=false->l.getD c false=true->Off C ops a d k b\/FrB P C ops d b)->w'.heap[k]?=w.heap[k]?
def SI.refl {ops:Array Oper}(b l:Array Bool):SI P C ops G w a b l w:=⟨bP _,fun _ _ _=>rfl,fun _=>Below.refl _ w,fun _ _ _=>rfl⟩
def SI.set {ops:Array Oper}{n:Array Bool}{i:Nat}{p:Oper}(hi:ops[i]?=some p)(s:oL P C ops p=true)(l:Array Bool)(w':World):SI P C ops G w a n (l.setIfInBounds i true) w'↔SI P C ops G w a n l w':=by
 have ne:∀c b,ops[c]?=some b->oL P C ops b=false->i≠c:=by intro c b d e;rintro rfl;rw[hi]at d;cases d;rw[s]at e;cases e
 have key:∀c b,ops[c]?=some b->oL P C ops b=false->(l.setIfInBounds i true).getD c true=l.getD c true:=fun c b d e=>getD_set_ne true (ne c b d e)
 have q:∀c b,ops[c]?=some b->oL P C ops b=false->(l.setIfInBounds i true).getD c false=l.getD c false:=fun c b d e=>getD_set_ne false (ne c b d e)
 refine⟨fun h=>⟨h.1,h.2.1,fun f=>h.2.2.1 fun c b d e=>(key c b d e).trans (f c b d e),fun k g f=>h.2.2.2 k g fun c b d e j m=>f c b d e j (by rw[<-q c b d e];exact m)⟩,
  fun h=>⟨h.1,h.2.1,fun f=>h.2.2.1 fun c b d e=>((key c b d e).symm.trans (f c b d e)),fun k g f=>h.2.2.2 k g fun c b d e j m=>f c b d e j (by rw[q c b d e];exact m)⟩⟩
def SI.step {ops:Array Oper}{f d y:Array Bool}{w1 S:World}{T:Gh}{F:Act}(Y:f.size=ops.size)(h:SI P C ops G w a f d w1)(Z:∀g,g<w.heap.size->G.own g=none->T.own g=none)
  (qa:∀t,(∀i l,ops[i]?=some l->f.getD i false=false->l.dst≠some t)->F.tmps.getD t undef=a.tmps.getD t undef) (qb:∀x m t,ops[x]?=some m->bA P m=true->Pz m=true->m.dst=some t->f.getD x false=false->d.getD x false=true->(∃g,w.heap.size<=g/\F.tmps.getD t undef=.pointer (some ⟨g,0,none⟩))/\∀i l,ops[i]?=some l->d.getD i false=false->l.dst≠some t)
  (H:Sup ops f d) (I:Sup ops d y) (z:SI P C ops T w1 F d y S):SI P C ops G w a f y S:=by
 refine⟨cj h.1 z.1,fun g K W=>(z.2.1 g (Dj K h.1) (Z g K W)).trans (h.2.1 g K W),fun q=>?_,fun k s q=>?_⟩
 .have mid:∀c e,ops[c]?=some e->oL P C ops e=false->d.getD c true=f.getD c true:=by
   intro c e b j;have hlt:c<ops.size:=(vQ.1 b).1;have L:=q c e b j;have qd:d.size=ops.size:=H.1.symm.trans Y;have ql:y.size=ops.size:=I.1.symm.trans qd;rw[sM (by omega),sM (by omega)]at L ⊢;cases n:f.getD c false with
   |true=>exact H.2.1 c n
   |false =>
    cases qe:d.getD c false with
    |false=>rfl
    |true =>
     rw[I.2.1 c qe,n]at L;cases L
  have p:=h.2.2.1 mid;have u:=z.2.2.1 fun c e b j=>(q c e b j).trans (mid c e b j).symm
  exact⟨u.os.trans p.os,u.tape.trans p.tape,u.output.trans p.output,cj p.size u.size,fun k s=>(u.block k (Dj s p.size)).trans (p.block k s)⟩
 .have aFf:∀c,d.getD c false=false->f.getD c false=false:=by
   intro c b;cases n:f.getD c false with
   |false=>rfl|true=>rw[H.2.1 c n]at b;cases b
  refine(z.2.2.2 k (Dj s h.1) fun c e b j O Q=>?_).trans (h.2.2.2 k s fun c e b j O Q=>q c e b j O (I.2.1 c Q));rcases q c e b j (aFf c O) Q with ⟨t,g,A,v,B,D⟩|⟨t,x,m,A,v,B,D,X,qf,qg⟩
  .exact .inl ⟨t,g,A,fun i l qh qi=>v i l qh (aFf i qi),(qa t v).trans B,D⟩
  .cases n:d.getD x false with
   |false=>exact .inr ⟨t,x,m,A,v,B,D,X,n,qg⟩
   |true =>
    obtain⟨⟨g,qm,qj⟩,qk⟩:=qb x m t v B D X qf n;exact .inl ⟨t,g,A,qk,qj,by omega⟩
def Inv.azv (h:Inv w0 G st a w){d g:Nat}(z:look st.bx d=none)(qe:d<st.nt)(p:G.own g=some .hid)(K:w0.hd g=none){cs:Array Value}{e:TypeId}(L:w.heap[g]?=some (.cells cs e (0,0))){l:List AC}
  (O:b6 (bm G w st.bx st.bl) l cs.toList) (Q:a.tmps.getD d undef=.pointer (some ⟨g,0,none⟩)) :
  Inv w0 (G.box d g) {(st.put d (.v (.c (.ptr d 0)))) with bx:=(d,l)::st.bx} a w:=by
 have q:ajI G w (G.box d g) w:=⟨rfl,rfl,bP _,fun b D A=>⟨by
  have:b≠g:=by rintro rfl;rw[p]at A;cases A
  simp[Gh.box,this,A],rfl⟩⟩
 have S:∀x,(look st.bx x).isSome=true->x≠d:=by rintro x c rfl;rw[z]at c;cases c
 have c:jy G st.bx st.bl (G.box d g) ((d,l)::st.bx) st.bl:=by refine⟨fun x c=>⟨vi _ trivial c,by simp[Gh.box,S x c]⟩,fun id z=>⟨z,rfl,fun T W=>⟨T,W,rfl⟩⟩⟩
 refine⟨h.nw,h.rok,h.below,h.defers,h.size,hI.kD q c h.sp,fun f b o i=>?_,fun t v s=>?_,fun x m i=>?_,fun id b D=>?_,fun f k y=>?_⟩
 .obtain⟨u,j,n⟩:=h.hd f b o i;refine⟨?_,j,n⟩;have:f≠g:=by rintro rfl;rw[K]at i;cases i
  simp only[Gh.box,this,fD];exact u
 .simp only[St.put,ar]at s;by_cases F:d=t
  .subst F;rw[ah rfl]at s;cases s;rw[Q];exact⟨by simp[ar],by simp[Gh.box]⟩
  .rw[af F]at s;exact hI.kD q c (h.tm t v s)
 .simp only[ar]at i;by_cases B:d=x
  .subst B;rw[ah rfl]at i;cases i;exact⟨cs,e,by simpa [Gh.box]using L,by simp[Gh.box],O.imp fun _ _=>bm.kD q c⟩
  .rw[af B]at i;obtain⟨X,Y,u,j,n⟩:=h.bx x m i;have H:x≠d:=fun e=>B e.symm
   have Z:G.hb x≠g:=by intro qa;rw[qa,p]at j;cases j
   exact⟨X,Y,by simpa [Gh.box,H]using u,by simp[Gh.box,H,Z,j],n.imp fun _ _=>bm.kD q c⟩
 .refine(h.bl id b D).kD q rfl fun qf f qg bd=>⟨?_,rfl⟩
  have:f≠g:=by rintro rfl;rw[p]at bd;cases bd
  simp[Gh.box,this,bd]
 .by_cases I:f=g
  .subst I;simp only[Gh.box,fE]at y;cases y;exact⟨(h.own f _ p).1,(h.own f _ p).2.1,by simp[ar],by simp[Gh.box]⟩
  .simp only[Gh.box,I,fD]at y;obtain⟨u,j,n⟩:=h.own f k y;refine⟨u,j,?_⟩;cases k with
   |hid=>trivial
   |bx x =>
    obtain⟨qb,qd⟩:=c.bx x n.1;exact⟨qb,by rw[qd];exact n.2⟩
   |bl id=>exact n
def Gh.rowAt (G:Gh)(id g:Nat)(v:Value):Gh :=
 {nw:=G.nw,ok:=G.ok,hb:=G.hb,hv:=fun x=>if x=id then v else G.hv x,own:=fun x=>if x=g then some (.bl id) else G.own x}
def Inv.azw (h:Inv w0 G st a w){d g:Nat}(W:look st.bl (d*64)=none)(qm:d<st.nt)(q:G.own g=some .hid)(X:w0.hd g=none){e:TypeId}{cs:List Value}(Y:w.heap[g]?=some (.cells cs.toArray e (0,0))){u:Ty}(Z:0<u.n){n:Nat}{xs:List u.D}{f:Bool}
  (I:xs.length=n) (D:cs.length=xs.length*u.n) (qa:n<=maxLen) (qb:eJ w (RO G f) u cs xs)
  (qd:a.tmps.getD d undef=.slice (some ⟨g,0,none⟩) n n) :
  Inv w0 (G.rowAt (d*64) g (.slice (some ⟨g,0,none⟩) n n)) {(st.put d (.v (.c (.own (d*64) none)))) with bl:=(d*64,some ⟨e,u,xs,f,true⟩)::st.bl} a w:=by
 have s:ajI G w (G.rowAt (d*64) g (.slice (some ⟨g,0,none⟩) n n)) w:=⟨rfl,rfl,bP _,fun b p F=>⟨by
  have:b≠g:=by rintro rfl;rw[q]at F;cases F
  simp[Gh.rowAt,this,F],rfl⟩⟩
 have K:∀x,(look st.bl x).isSome=true->x≠d*64:=by rintro x c rfl;rw[W]at c;cases c
 have c:jy G st.bx st.bl (G.rowAt (d*64) g (.slice (some ⟨g,0,none⟩) n n)) st.bx ((d*64,some ⟨e,u,xs,f,true⟩)::st.bl):=by refine⟨fun x c=>⟨c,rfl⟩,fun id c=>⟨vi _ trivial c,by simp[Gh.rowAt,K id c],fun qe L=>?_⟩⟩;rw[ar,af (fun e=>K id c e.symm)]at L;exact⟨qe,L,rfl⟩
 refine⟨h.nw,h.rok,h.below,h.defers,h.size,hI.kD s c h.sp,fun i b o y=>?_,fun t v z=>?_,fun x m y=>?_,fun id b p=>?_,fun i k B=>?_⟩
 .obtain⟨A,j,l⟩:=h.hd i b o y;refine⟨?_,j,l⟩;have:i≠g:=by rintro rfl;rw[X]at y;cases y
  simp only[Gh.rowAt,this,fD];exact A
 .simp only[St.put,ar]at z;by_cases O:d=t
  .subst O;rw[ah rfl]at z;cases z;rw[qd];exact⟨by simp[ar],⟨some ⟨g,0,none⟩,n,n,by simp[Gh.rowAt]⟩,by simp[Gh.rowAt]⟩
  .rw[af O]at z;exact hI.kD s c (h.tm t v z)
 .obtain⟨qf,qg,A,j,l⟩:=h.bx x m y;have qh:G.hb x≠g:=by intro qi;rw[qi,q]at j;cases j
  exact⟨qf,qg,A,by simp[Gh.rowAt,qh,j],l.imp fun _ _=>bm.kD s c⟩
 .simp only[ar]at p;by_cases H:d*64=id
  .subst H;rw[ah rfl]at p;cases p;refine⟨fun _=>⟨cs,⟨D,.inr ⟨g,n,cs.toArray,by simp[Gh.rowAt,I],aQ _,Y,by show xs.length<=n;omega,qa,by simp[D,I],?_⟩⟩,fun i Q=>?_,qb.kD s⟩,(fun S=>by cases S),Z⟩
   .show List.take (xs.length*u.n) cs.toArray.toList=cs;rw[<-D];simp
   .simp only[Gh.rowAt,fE,Value.ownBlock]at Q ⊢;cases Q;simp
  .rw[af H]at p;have qj:id≠d*64:=fun e=>H e.symm
   refine(h.bl id b p).kD s (by simp[Gh.rowAt,qj]) fun S i qn bd=>⟨?_,rfl⟩
   have:i≠g:=by rintro rfl;rw[q]at bd;cases bd
   simp[Gh.rowAt,this,bd]
 .by_cases T:i=g
  .subst T;simp only[Gh.rowAt,fE]at B;cases B;exact⟨(h.own i _ q).1,(h.own i _ q).2.1,by simp[ar],by simp[Gh.rowAt,Value.ownBlock]⟩
  .simp only[Gh.rowAt,T,fD]at B;obtain⟨A,j,l⟩:=h.own i k B;refine⟨A,j,?_⟩;cases k with
   |hid=>trivial|bx x=>exact l
   |bl id =>
    obtain⟨qk,ql,_⟩:=c.bl id l.1;exact⟨qk,by rw[ql];exact l.2⟩
def l3 {d t:Nat}(h:t≠d)(u:Value):(a.put (some d) u).tmps.getD t undef=a.tmps.getD t undef:=by simp[Act.put,Nb,axL,Ne.symm h]
def Inv.aFS (h:Inv w0 G st a w){d:Nat}(c:look st.tm d=none)(u:Value):Inv w0 G st (a.put (some d) u) w:=by refine {h with defers:=h.defers,size:=by simp[Act.put,h.size],tm:=fun t v b=>?_};rw[l3 (by rintro rfl;rw[c]at b;cases b)];exact h.tm t v b
def Inv.aFT (h:Inv w0 G st a w)(o:Obj) :
  Inv {w0 with hd:=fun g=>if g=w.heap.size then some (true,o) else w0.hd g} {G with own:=fun g=>if g=w.heap.size then some .hid else G.own g} st a (w.alloc o):=by
 have q:∀b,b<w.heap.size->b≠w.heap.size:=fun b f=>ajz f
 have hold:∀b,b<w.heap.size->(w.alloc o).heap[b]?=w.heap[b]?:=fun b f=>by show(w.heap.push o)[b]?=_;rw[Array.getElem?_push,af (q b f)]
 have H:(w.alloc o).heap.size=w.heap.size+1:=by show(w.heap.push o).size=_;rw[Array.size_push]
 have s:ajI G w {G with own:=fun g=>if g=w.heap.size then some .hid else G.own g} (w.alloc o):=⟨rfl,rfl,by omega,fun b f u=>⟨by simp[q b f,u],hold b f⟩⟩;have y:jy G st.bx st.bl {G with own:=fun g=>if g=w.heap.size then some .hid else G.own g} st.bx st.bl:=⟨fun _ h=>⟨h,rfl⟩,fun _ h=>⟨h,rfl,fun z A=>⟨z,A,rfl⟩⟩⟩;refine⟨h.nw,h.rok,h.below.step rfl rfl rfl (by omega) fun k i _=>hold k (Dj i h.below.size),h.defers,h.size,hI.kD s y h.sp,fun g b B m=>?_,fun t v D=>hI.kD s y (h.tm t v D),fun d l F=>?_,fun id b f=>?_,fun g k i=>?_⟩
 .dsimp only at m;by_cases c:g=w.heap.size
  .rw[ah c]at m;cases m;subst c;exact⟨by simp[axV],by omega,by show(w.heap.push o)[w.heap.size]?=_;rw[Array.getElem?_push,ah rfl]⟩
  .rw[af c]at m;obtain⟨n,p,j⟩:=h.hd g b B m;exact⟨by simp[c,n],by omega,(hold g p).trans j⟩
 .obtain⟨cs,e,n,p,j⟩:=h.bx d l F;have hlt:=(h.own _ _ p).2.1;exact⟨cs,e,(hold _ hlt).trans n,by simp[q _ hlt,p],j.imp fun _ _=>bm.kD s y⟩
 .exact Dm.kD s rfl (fun I g c u=>by have hlt:=(h.own _ _ u).2.1;exact⟨by simp[q _ hlt,u],hold _ hlt⟩) (h.bl id b f)
 .dsimp only at i;by_cases c:g=w.heap.size
  .rw[ah c]at i;cases i;exact⟨.inl (by rw[c];exact h.below.size),by omega,trivial⟩
  .rw[af c]at i;obtain⟨n,p,j⟩:=h.own g k i;refine⟨n,by omega,?_⟩;cases k with
   |hid=>trivial|bx x=>exact j|bl id=>exact j
def HL {V:Type}(t s:Nat):∀l:List (Nat×V),look (l.filter fun p=> !Nat.beq p.1 t) s=if s=t then none else look l s
 |[]=>by simp[look]
 |(k,v)::l=>by
  have d:=HL t s l;by_cases c:k=t
  .have:(!Nat.beq (k,v).1 t)=false:=by simp[c]
   rw[List.filter_cons_of_neg (by simp[this]),d,ar];by_cases b:s=t
   .simp[b]
   .simp[b,c,Ne.symm b]
  .have e:(!Nat.beq (k,v).1 t)=true:=by
    cases h:Nat.beq k t with
    |true=>exact absurd (aI h) c|false=>simp[h]
   rw[List.filter_cons_of_pos (p:=fun p:Nat×V=> !Nat.beq p.1 t) e,ar,ar,d];by_cases b:s=t
   .simp[b,c]
   .simp[b]
def Inv.aCS (h:Inv w0 G st a w)(t:Tmp):Inv w0 G (st.drop t) a w:=by
 refine {h with tm:=fun s v b=>h.tm s v ?_};unfold St.drop at b;dsimp only at b;rw[HL]at b;split at b
 .cases b
 .exact b
def j4 {ops:Array Oper}{l:Array Bool}:∀(b:List Nat) {st:St},Inv w0 G st a w->Inv w0 G (gy P ops l b st) a w
 |[],_,h=>h|i::b,st,h=>by
  unfold gy;split
  .split
   .exact(j4 b h).aCS _
   .exact j4 b h
  .exact j4 b h
def afQ {ops:Array Oper}{l:Array Bool}{x:Nat}{o:Oper}{d:Tmp}(e:ops[x]?=some o)(f:bA P o=true)(g:l.getD x true=false)(j:o.dst=some d):∀(b:List Nat) (st:St),x∈b->look (gy P ops l b st).tm d=none
 |[],_,h=>by cases h
 |i::b,st,h=>by
  unfold gy;rcases fe.1 h with rfl|h
  .rw[e];simp only[f,g,j,dW,Bool.and_self];show look (List.filter _ _) d=none;rw[HL,ah rfl]
  .have c:=afQ e f g j b st h;split
   .split
    .show look (List.filter _ _) d=none;rw[HL];split
     .rfl
     .exact c
    .exact c
   .exact c
def mkF (o:Oper)(g:Nat):Value:=match o.op with
 |.alloc _=>.pointer (some ⟨g,0,none⟩)|.buildSlice _ len _=>.slice (some ⟨g,0,none⟩) len len|_=>undef
def aj7 (P:Program)(o:Oper)(a:Act)(b:Obj):Prop:=match o.op with
 |.alloc t=>∃i v,P.info? t=some i/\i.zero=some v/\b=.cells v.cells t (0,0)|.buildSlice t _ parts=>∃e,Dl P t=some e/\b=.cells (adp a parts.toList).toArray e (0,0)|_=>False
def afR {a a':Act}:∀{l:List (Nat×Operand)},(∀p∈l,∀s,p.2=.tmp s->a'.tmps.getD s undef=a.tmps.getD s undef)->adp a' l=adp a l
 |[],_=>rfl|(b,x)::l,h=>by
  have c:a'.eval x=a.eval x:=by
   cases x with
   |tmp s=>exact h (b,.tmp s) (by simp) s rfl
   |_=>rfl
  simp only[adp,c,afR fun p d=>h p (rL _ d)]
def aj7.same {a a':Act}{c:Obj}(h:aj7 P o a c)(b:∀t,aaq o t=true->a'.tmps.getD t undef=a.tmps.getD t undef):aj7 P o a' c:=by
 unfold aj7 at h ⊢;unfold aaq at b;split at h
 .exact h
 .rename_i t len parts d;simp only[d]at b;obtain⟨e,f,g⟩:=h;refine⟨e,f,?_⟩;rw[afR (a:=a)]
  .exact g
  .intro p i s j;exact b s (List.any_eq_true.2 ⟨p,i,by rw[j];simp⟩)
 .exact h
def aDR (P:Program)(C:FuncId->Option Any)(N:Nat)(o:Oper)(d:Tmp):Prop :=
 ∀{w0:eA} {G:Gh} {st:St} {a:Act} {w:World} {g:Nat} {e:Obj} {U:Type} {k:St->Option U} {r:U},Inv w0 G st a w->G.own g=some .hid->w0.hd g=none->w.heap[g]?=some e->aj7 P o a e->a.tmps.getD d undef=mkF o g ->
  fo P C (nT.J9 N) o st k=some r->∃c cA,Inv w0 c cA a w/\k cA=some r/\(∀b,G.own b=none->c.own b=none)
def aaJ:∀{l:List AC} {st:St},vg l=true->st.freeze l=st
 |[],_,_=>rfl|c::l,st,h=>by
  have b:st.du c=st:=by cases c<;>first|rfl|(simp[vg]at h)
  have d:vg l=true:=by cases c<;>first|exact h|(simp[vg]at h)
  show List.foldl St.du (st.du c) l=st;rw[b];exact aaJ d
def apw {l m:List AC}(b:vg l=true)(d:vg m=true):vg (l++m)=true:=by
 induction l with
 |nil=>exact d|cons c l e=>cases c<;>first|exact e b|(simp[vg]at b)
def Y3:∀{t:Ty} {l r:List AC} {x:t.D},flat t=true->im st t l=some (x,r)->∃p,l=p++r/\vg p=true
 |.int k,[],_,_,_,h=>by simp[im]at h
 |.int k,c::l,_,_,_,h=>by
  cases c<;>simp[im]at h
  exact⟨[_],by rw[h.2.2];rfl,rfl⟩
 |.bool,[],_,_,_,h=>by simp[im]at h
 |.bool,c::l,_,_,_,h=>by
  cases c<;>simp[im]at h
  exact⟨[_],by rw[h.2];rfl,rfl⟩
 |.str,[],_,_,_,h=>by simp[im]at h
 |.str,c::l,_,_,_,h=>by
  cases c<;>simp[im]at h
  exact⟨[_],by rw[h.2];rfl,rfl⟩
 |.unit,l,r,x,_,h=>by simp only[im]at h;cases h;exact⟨[],rfl,rfl⟩
 |.pair t u,l,r,x,b,h=>by
  simp only[flat,aD]at b;simp only[im]at h;split at h
  .rename_i y m d;split at h
   .rename_i z n e;cases h;obtain⟨p,f,g⟩:=Y3 b.1 d;obtain⟨q,i,j⟩:=Y3 b.2 e;exact⟨p++q,by rw[f,i,ik],apw g j⟩
   .cases h
  .cases h
 |.sl _ _,_,_,_,b,_=>by simp[flat]at b
def apx {u:Ty}(b:flat u=true):∀{l:List (Nat×Operand)} {i:Nat} {xs:List u.D},gO st u i l=some xs->vg (cm st l)=true
 |[],_,_,_=>rfl|(f,x)::l,i,xs,h=>by
  simp only[gO]at h;split at h
  .split at h
   .rename_i y c;split at h
    .rename_i g d;obtain⟨p,e,n⟩:=Y3 b c;rw[fS]at e;exact apw (by rw[e];exact n) (apx b d)
    .cases h
   .cases h
  .cases h
def PJ (m:bA P o=true):∃d,o.dst=some d/\o.guard=none/\(∀{w0:eA} {G:Gh} {st:St} {a:Act} {w:World},Inv w0 G st a w->Ka P st o=true->∃obj,(execOp a.eval o).run P w=.ok (.value (mkF o w.heap.size)) (w.alloc obj)/\aj7 P o a obj)/\aDR P C N o d:=by
 unfold bA at m;split at m
 .rename_i d t T B j;split at m
  .rename_i z K;obtain⟨i,v,A,W,rfl⟩:=hJ K;refine⟨d,B,T,fun _ _=>⟨.cells v.cells t (0,0),?_,?_⟩,?_⟩
   .unfold execOp mkF;rw[j];simp[Instr.alloc,zeroValue,typeInfo,A,W,AM]
   .unfold aj7;rw[j];exact⟨i,v,A,W,rfl⟩
   .intro w0 G st a w g obj U k r h D X L y Y f;unfold aj7 at y;simp only[j]at y;obtain⟨ql,qB,F,qf,rfl⟩:=y;rw[A]at F;cases F;rw[W]at qf;cases qf;simp only[fo,j,B,K]at f;split at f
    .rename_i p;obtain⟨H,Z⟩:=aR f;rw[aD]at H;refine⟨_,_,h.azv p (fV H.1) D X L ((oM v).cells H.2) (by rw[Y];unfold mkF;rw[j]),Z,fun b p=>?_⟩;have:b≠g:=by rintro rfl;rw[D]at p;cases p
     simp[Gh.box,this,p]
    .cases f
  .cases m
 .rename_i d t len parts T B j;split at m
  .rename_i e s;split at m
   .rename_i u O;simp only[aD]at m;obtain⟨⟨l,qm⟩,⟨⟨⟨qn,qo⟩,qp⟩,qq⟩⟩:=m;have hlen:=aI qm;have I:0<u.n:=SO (bu qo);have qC:=Ep qp;obtain⟨i,A,qg⟩:=nu (aI qn) I;obtain⟨z,K⟩:=ij.1 qq;obtain⟨ql,Q,F,qt,_⟩:=hJ K;rw[A]at F;cases F;have qu:P.underlying t=some (.slice e):=by
     unfold Dl at s;split at s
     .rename_i qv O;cases s;exact O
     .cases s
    refine⟨d,B,T,?_,?_⟩
    .intro w0 G st a w h qa;unfold Ka at qa;simp only[j,s,O]at qa;obtain⟨xs,S⟩:=ij.1 qa;have qb:((Array.range (len*u.n)).map (fun q=>(if len*u.n=0 then #[] else Q.cells)[q%(if len*u.n=0 then #[] else Q.cells).size]!)).size=(0+parts.toList.length)*u.n:=by simp[<-hlen]
     obtain⟨cs,qh,qi,qw,qj,qd⟩:=S6 (ok:=fun _=>True) h I parts.toList 0 _ xs (fun t c v qe _=>S8 h t c v qe) qb S;simp only[ajy,List.take_zero,Fc]at qh;refine⟨.cells cs.toArray e (0,0),?_,?_⟩
     .unfold execOp mkF;rw[j];dsimp only;have:=H9 (P:=P) (w:=w) qu A qt (len:=len) (parts:=parts.map fun (i,x)=>(i,a.eval x)) (cells:=cs.toArray) (by rw[qg];omega) (by rw[qg,aak];exact qh);simp only[Sem.run_bind,this,Result.andThen_ok];rfl
     .unfold aj7;rw[j];exact⟨e,s,by rw[qd]⟩
    .intro w0 G st a w g obj U k r h D X L y Y f;unfold aj7 at y;simp only[j]at y;obtain⟨qv,qk,rfl⟩:=y;rw[s]at qk;cases qk;simp only[fo,j,B,s,O]at f;split at f
     .rename_i xs S;split at f
      .rename_i qD;have qb:((Array.range (len*u.n)).map (fun q=>(if len*u.n=0 then #[] else Q.cells)[q%(if len*u.n=0 then #[] else Q.cells).size]!)).size=(0+parts.toList.length)*u.n:=by simp[<-hlen]
       obtain⟨cs,_,qi,qw,qj,qd⟩:=S6 (ok:=fun _=>True) h I parts.toList 0 _ xs (fun t c v qe _=>S8 h t c v qe) qb S;have qx:vg (cm st parts.toList)=true:=by
        rw[ju]at l;rcases l with l|l
        .exact apx l S
        .have qy:=aI l;have:parts.toList=[]:=WS (by omega);rw[this];rfl
       have qz:eJ w (RO G (ca (cm st parts.toList))) u cs xs:=by
        rw[ju]at l;rcases l with l|l
        .exact ajU l qj
        .have qy:=aI l;have:xs=[]:=WS (by omega);subst this;exact fun qE x qA=>by simp at qA
       rw[aaJ qx]at f;unfold St.row at f;split at f
       .cases f
       .rename_i p;obtain⟨H,Z⟩:=aR f;rw[<-qd]at L;have qF:len<=len*u.n:=aqz _ I;have qG:maxLen=9223372036854775807:=rfl;refine⟨_,_,Inv.azw (e:=e) (u:=u) (n:=len) h p (fV H) D X L I (by omega) qi (by omega) qz (by rw[Y];unfold mkF;rw[j]),Z,fun b p=>?_⟩;have:b≠g:=by rintro rfl;rw[D]at p;cases p
        simp[Gh.rowAt,this,p]
      .cases f
     .cases f
   .cases m
  .cases m
 .cases m
def azx {k:St->Option U}(b:bA P o=true)(c:fo P C (nT.J9 N) o st k=some r):Ka P st o=true:=by
 unfold bA at b;split at b
 .rename_i d t h g f;unfold Ka;rw[f]
 .rename_i d t len parts h g f;unfold Ka;simp only[f];simp only[fo,f,g]at c;split at b
  .rename_i e i;split at b
   .rename_i u j;simp only[i,j]at c ⊢;split at c
    .rename_i xs l;rw[l];rfl
    .cases c
   .cases b
  .cases b
 .cases b
def eA.from (w0:eA)(G:Gh)(w:World)(d:w0.w.heap.size<=w.heap.size)(e:∀g k,G.own g=some k->w0.nw g):eA where
 w:=w
 ok:=w0.ok
 nw:=w0.nw
 fr g:=(G.own g).isSome=true
 hnw b c:=w0.hnw b (cj d c)
 hfr b c:=by obtain⟨k,f⟩:=ij.1 c;exact e b k f
 pv:=w0.pv
 hd g:=match w0.hd g with
  |some x=>some x|none=>match G.own g with
   |none=>(w.heap[g]?).map fun o=>(false,o)
   |some _=>none
def Inv.aFg (h:Inv w0 G st a w):∀g k,G.own g=some k->w0.nw g:=fun g k b=>by rw[<-h.nw];exact h.S1 b
abbrev Inv.root (h:Inv w0 G st a w):eA:=w0.from G w h.below.size h.aFg
def Inv.from (h:Inv w0 G st a w):Inv h.root G st a w:=by
 refine⟨h.nw,h.rok,ez.refl _ _,h.defers,h.size,h.sp,fun g b o c=>?_,h.tm,h.bx,h.bl,fun g k e=>?_⟩
 .simp only[Inv.root,eA.from]at c;split at c
  .rename_i x f;cases c;exact h.hd g b o f
  .split at c
   .rename_i i;cases d:w.heap[g]? with
    |none=>rw[d]at c;cases c
    |some m =>
     rw[d]at c;cases c;exact⟨i,(vQ.1 d).1,rfl⟩
   .cases c
 .obtain⟨_,j,l⟩:=h.own g k e;exact⟨.inr (by simp[Inv.root,eA.from,e]),j,l⟩
def Inv.AP (h:Inv w0 G st a w){w1:World}(b:ez h.root.fr w w1):ez w0.fr w0.w w1 :=
 h.below.step b.os b.tape b.output b.size fun k d e=>b.block k (Dj d h.below.size) fun hfr=>by
  obtain⟨q,f⟩:=ij.1 (show(G.own k).isSome=true from hfr);rcases(h.own k q f).1 with c|c
  .omega
  .exact e c
def Inv.aj8 (h:Inv w0 G st a w){e:Gh}{cA:St}{a':Act}{w':World}(c:Inv h.root e cA a' w') :
  Inv w0 e cA a' w'/\w.heap.size<=w'.heap.size/\∀g,g<w.heap.size->G.own g=none->e.own g=none/\w'.heap[g]?=w.heap[g]?:=by
 refine⟨⟨c.nw,c.rok,h.AP c.below,c.defers,c.size,c.sp,fun g b o s=>c.hd g b o ?_,c.tm,c.bx,c.bl,fun g k t=>?_⟩,c.below.size,fun g u m=>?_⟩
 .simp only[Inv.root,eA.from,s]
 .obtain⟨d,n,f⟩:=c.own g k t;refine⟨?_,n,f⟩;rcases d with d|d
  .exact .inl (cj h.below.size d)
  .obtain⟨q,v⟩:=ij.1 (show(G.own g).isSome=true from d);exact(h.own g q v).1
 .cases i:w0.hd g with
  |some x =>
   obtain⟨b,o⟩:=x;obtain⟨d,n,f⟩:=h.hd g b o i;obtain⟨j,y,l⟩:=c.hd g b o (by simp only[Inv.root,eA.from,i]);cases b with
   |true =>
    rw[m]at d;cases d
   |false=>exact⟨j,l.trans f.symm⟩
  |none =>
   have p:w.heap[g]?=some w.heap[g]:=axM u;obtain⟨j,y,l⟩:=c.hd g false w.heap[g] (by simp only[Inv.root,eA.from,i,m,p,Option.map_some]);exact⟨j,l.trans p.symm⟩
def Inv.aDS (h:Inv w0 G st a w){f:FuncId}{con:Any}(b:No P w0 f con):No P h.root f con:=by
 cases con with
 |one c=>exact⟨b.1,fun x r l m d=>b.2 x r l m (h.AP d)⟩
 |idx i=>exact⟨b.1,fun W d=>b.2 W (h.AP d)⟩
 |ins e u=>exact⟨b.1,fun W d=>b.2 W (h.AP d)⟩
 |del e u=>exact⟨b.1,fun W d=>b.2 W (h.AP d)⟩
 |sel c =>
  refine⟨b.1,b.2.1,fun x r l m d ok n own p s u k t=>b.2.2 x r l m (h.AP d) ok n own p s u ⟨k.kE,fun g v y=>?_,k.cU⟩ t⟩;obtain⟨z,A,j⟩:=k.bd g v y;refine⟨z,A,?_⟩;rcases j with j|j
  .exact .inl (cj h.below.size j)
  .obtain⟨q,B⟩:=ij.1 (show(G.own g).isSome=true from j);exact(h.own g q B).1
 |two c =>
  refine⟨b.1,b.2.1,fun x r l m d ok n own p s u k t=>b.2.2 x r l m (h.AP d) ok n own p s u ⟨k.kE,fun g v y=>?_,k.cU⟩ t⟩;obtain⟨z,A,j⟩:=k.bd g v y;refine⟨z,A,?_⟩;rcases j with j|j
  .exact .inl (cj h.below.size j)
  .obtain⟨q,B⟩:=ij.1 (show(G.own g).isSome=true from j);exact(h.own g q B).1
def aCT {K:Act->World->Prop}{Q:Exit->Act->World->Prop}(h:o.wp P a w K Q) :
  o.wp P a w (fun i j=>K i j/\i.tmps.size=a.tmps.size/\∀t,o.dst≠some t->i.tmps.getD t undef=a.tmps.getD t undef) Q:=by
 have key:∀(b:Act) u,b.tmps=a.tmps->(b.put o.dst u).tmps.size=a.tmps.size/\∀t,o.dst≠some t->(b.put o.dst u).tmps.getD t undef=a.tmps.getD t undef:=by
  intro b u g;cases m:o.dst with
  |none=>exact⟨by simp[Act.put,g],fun t _=>by simp[Act.put,g]⟩
  |some d =>
   refine⟨by simp[Act.put,g],fun t k=>?_⟩;have l:t≠d:=fun e=>k (by rw[e])
   rw[l3 l,g]
 unfold Oper.wp Oper.upon at h ⊢;split at h
 .exact⟨h,key a _ rfl⟩
 .exact⟨h,key a _ rfl⟩
 .exact⟨h,key _ _ rfl⟩
 .refine Calls.mono h fun e j f=>?_
  cases e with
  |returned v=>exact⟨f,key a _ rfl⟩|panicked c=>exact f|_=>exact f
 .exact Rows.mono h fun v j f=>⟨f,key a _ rfl⟩
 all_goals exact h
def v7 (c:nO P o=true):bA P o=false:=by
 unfold bA;split
 .rename_i b;simp[nO,b]at c
 .rename_i b;simp[nO,b]at c
 .rfl
def azy {k:St->Option U}(h:Inv w0 G st a w)(b:fo P C (nT.J9 N) o st k=some r)(f:aqM o=true) :
  ∃v g,(execOp a.eval o).run P w=.ok (.value v) (w.alloc g):=by
 unfold aqM at f;split at f
 .rename_i t c;simp only[fo,c]at b;split at b
  .split at b
   .split at b
    .rename_i z j;obtain⟨i,v,l,m,rfl⟩:=hJ j;refine⟨.pointer (some ⟨w.heap.size,0,none⟩),.cells v.cells t (0,0),?_⟩;unfold execOp;rw[c];simp[Instr.alloc,zeroValue,typeInfo,l,m,AM]
    .cases b
   .cases b
  .cases b
 .rename_i t x c;refine⟨.pointer (some ⟨w.heap.size,0,none⟩),.cells (a.eval x).cells t (0,0),?_⟩;unfold execOp;rw[c];simp[Instr.box,AM]
 .rename_i t len parts c;simp only[fo,c]at b;split at b
  .rename_i d e y n;split at b
   .rename_i u A;split at b
    .rename_i xs p;split at b
     .rename_i q;obtain⟨cs,s⟩:=ag9 h t len parts c n p q;exact⟨_,_,s⟩
     .cases b
    .cases b
   .cases b
  .cases b
 .cases f
def aA0 {ops:Array Oper}{k:St->Option U}(h:Inv w0 G st a w)(b:fo P C (nT.J9 N) o st k=some r){t:Tmp}(c:YP o=some t){g0:Nat}(n:a.tmps.getD t undef=.slice (some ⟨g0,0,none⟩) 0 0) :
  ∃v f,(execOp a.eval o).run P w=.ok (.value v) f/\Below w.heap.size w f:=by
 unfold YP at c;split at c
 .rename_i args B g;split at c
  .rename_i D y t1 t2 i j;split at c
   .rename_i p;cases c;have:=aI p;subst this;simp only[fo,g]at b;split at b
    .rename_i d s x F H I l m;rw[i]at l;rw[j]at m;cases l;cases m;split at b
     .rename_i e q;split at b
      .rename_i u z K A;exact av9 h g i j q A (d:=d) n b
      .cases b
     .cases b
    .cases b
   .cases c
  .cases c
 .cases c
def hK (h:F7 P o=true):bA P o=true:=by unfold F7 at h;rw[aD]at h;exact h.1
def aj9 (h:F7 P o=true)(g:Nat):mkF o g=.slice (some ⟨g,0,none⟩) 0 0:=by
 unfold F7 at h;rw[aD]at h;unfold mkF;split at h
 .rename_i b;rw[b]
 .cases h.2
def arf (C:FuncId->Option Any)(o:Oper)(a:Act)(w w':World):Prop :=
 ∀t g k,SW C o=some t->a.tmps.getD t undef=.pointer (some ⟨g,0,none⟩)->k<w.heap.size->k≠g->w'.heap[k]?=w.heap[k]?
def arf.below {w':World}(h:Below w.heap.size w w'):arf C o a w w':=fun _ _ k _ _ b _=>h.block k b
def atC {g o:Nat}{v:Value}{w w':World}{cs:Array Value}{e:TypeId}{p:Nat×Nat}(b:w.heap[g]?=some (.cells cs e p))(h:(store ⟨g,o,none⟩ v).run P w=.ok () w'):(∃c,w'.heap[g]?=some (.cells c e p))/\∀k,k≠g->w'.heap[k]?=w.heap[k]?:=by
 have key:(match w.cell? ⟨g,o,none⟩ with
   | some _ => if w.frozen? ⟨g, o, none⟩ then Result.halt (.unsupported (.unsafePointer "a write to bytes that a string shares")) w else Result.ok () (w.setCell ⟨g, o, none⟩ v)
   |none=>match w.farStore P ⟨g,o,none⟩ v (Mode.plain==Mode.atomic) with
    |.ok (w,_)=>Result.ok () w|.error h=>.halt h w)=.ok () w'\/False:=by
  cases v with
  |agg _=>exact .inr (by simp[store,Sem.run]at h)
  |tuple _=>exact .inr (by simp[store,Sem.run]at h)
  |_=>exact .inl h
 rcases key with key|key
 .split at key
  .split at key
   .cases key
   .injection key with _ key
    subst key;unfold World.setCell;refine⟨⟨cs.setIfInBounds o v,?_⟩,fun k d=>?_⟩
    .simp only[Array.getElem?_modify,fE,b,Option.map_some];rfl
    .simp only[Array.getElem?_modify];rw[af (fun e=>d e.symm)]
  .unfold World.farStore at key;simp only[b]at key;cases key
 .exact key.elim
def Nq {g:Nat}:∀(vs:List Value) (o i:Nat) (w w':World) {cs:Array Value} {e:TypeId} {p:Nat×Nat},w.heap[g]?=some (.cells cs e p)->(storeCells ⟨g,o,none⟩ vs i).run P w=.ok () w'->∀k,k≠g->w'.heap[k]?=w.heap[k]?
 |[],o,i,w,w',_,_,_,_,h=>by
  have h:Result.ok () w=.ok () w':=h;injection h with _ h
  subst h;exact fun _ _=>rfl
 |v::vs,o,i,w,w',cs,e,p,l,h=>by
  have h:((store (Addr.add ⟨g,o,none⟩ i) v).run P w).andThen (fun _ d=>(storeCells ⟨g,o,none⟩ vs (i+1)).run P d)=.ok () w':=by rw[<-h];simp only[storeCells,Sem.run_bind]
  cases b:(store (Addr.add ⟨g,o,none⟩ i) v).run P w with
  |halt c d=>rw[b]at h;cases h
  |ok u d =>
   rw[b]at h;have b:(store ⟨g,o+i,none⟩ v).run P w=.ok () d:=by
    cases u;by_cases f:i=0
    .subst f;simpa [Addr.add]using b
    .simpa [Addr.add,f]using b
   obtain⟨⟨q,m⟩,n⟩:=atC l b;exact fun k j=>(Nq vs o (i+1) d w' m h k j).trans (n k j)
def aA1 {t:TypeId}{x y:Operand}{g l:Nat}{cs:Array Value}{e:TypeId}{p:Nat×Nat}{K:Act->World->Prop}{Q:Exit->Act->World->Prop}(m:o.op=.store t x y)(n:a.eval x=.pointer (some ⟨g,l,none⟩))(q:w.heap[g]?=some (.cells cs e p))(hi:(P.info? t).isSome=true)
  (h:o.wp P a w K Q):o.wp P a w (fun s j=>K s j/\∀k,k≠g->j.heap[k]?=w.heap[k]?) Q:=by
 obtain⟨i,hi⟩:=ij.1 hi;unfold Oper.wp execOp at h ⊢;rw[m]at h ⊢;dsimp only at h ⊢;rw[n]at h ⊢;simp only[Instr.storeAt,Instr.sureAddr,Sem.run_bind,Sem.run_pure,Result.andThen_ok]at h ⊢;cases b:(storeVar t ⟨g,l,none⟩ (a.eval y)).run P w with
 |halt c d =>
  rw[b]at h;have e:∀f:Unit->World->Result Next,(Result.halt c d:Result Unit).andThen f=.halt c d:=fun _=>rfl
  rw[e]at h ⊢;cases c<;>exact h
 |ok u d =>
  rw[b]at h;refine⟨h,fun k v=>?_⟩;unfold storeVar at b;simp only[Sem.run_bind,run_sizeOf w hi,Result.andThen_ok]at b;split at b
  .cases b
  .exact Nq _ _ _ _ _ q b k v
def awk {ops:Array Oper}{Q:Exit->Act->World->Prop}{k:St->Option U}(S:∀f x,C f=some x->No P w0 f x)(h:Inv w0 G st a w)(c:fo P C (nT.J9 N) o st k=some r)
  (qt:∀t,YP o=some t->Nh P ops o=true->∃g,a.tmps.getD t undef=.slice (some ⟨g,0,none⟩) 0 0) (qu:∀d,bA P o=true->o.dst=some d->d<a.tmps.size) :
  o.wp P a w (fun D F=>(((∃L cA,Inv w0 L cA D F/\k cA=some r)/\(oL P C ops o=true->Below w.heap.size w F))/\(F7 P o=true->∀d,o.dst=some d->∃g,D.tmps.getD d undef=.slice (some ⟨g,0,none⟩) 0 0)/\arf C o a w F)/\D.tmps.size=a.tmps.size/\∀t,o.dst≠some t->D.tmps.getD t undef=a.tmps.getD t undef) Q:=by
 refine aCT ?_;have W:pD w0 k r (fun D F=>∃L cA,Inv w0 L cA D F/\k cA=some r):=fun L cA D F H qb=>⟨L,cA,H,qb⟩
 by_cases j:oL P C ops o=true
 .by_cases qd:nO P o=true
  .obtain⟨v,L,cA,s,qv,B⟩:=Y2 qd h c;exact H5 (s w (vY (Below.refl _ w))) ⟨⟨⟨L,cA,qv,B⟩,fun _=>Below.refl _ w⟩,fun u=>absurd (hK u) (by rw[v7 qd];simp),.below (Below.refl _ w)⟩
  .by_cases T:bA P o=true
   .obtain⟨d,qG,qj,s,_⟩:=PJ (C:=C) (N:=N) T;obtain⟨obj,s,_⟩:=s h (azx T c);have:=vl (Q:=Q) S h c W;unfold Oper.wp at this ⊢;rw[s]at this ⊢;refine⟨⟨this,fun _=>⟨rfl,rfl,rfl,by simp,fun k B=>Below.heap_alloc _ _ _ B⟩⟩,fun u qw qk=>⟨w.heap.size,?_⟩,.below ⟨rfl,rfl,rfl,by simp,fun k B=>Below.heap_alloc _ _ _ B⟩⟩;have hlt:=qu qw T qk;rw[qk,aj9 u];simp[Act.put,Nb,hlt]
   .by_cases ql:aqM o=true
    .obtain⟨v,qH,s⟩:=azy h c ql;have:=vl (Q:=Q) S h c W;unfold Oper.wp at this ⊢;rw[s]at this ⊢;exact⟨⟨this,fun _=>⟨rfl,rfl,rfl,by simp,fun k B=>Below.heap_alloc _ _ _ B⟩⟩,fun u=>absurd (hK u) T,.below ⟨rfl,rfl,rfl,by simp,fun k B=>Below.heap_alloc _ _ _ B⟩⟩
    by_cases qe:Nh P ops o=true
    .obtain⟨t,I⟩:∃t,YP o=some t:=by
      cases qx:YP o with
      |none=>simp[Nh,qx]at qe|some t=>exact⟨t,rfl⟩
     obtain⟨g,qj⟩:=qt t I qe;obtain⟨v,F,s,Y⟩:=aA0 (ops:=ops) h c I qj;have:=vl (Q:=Q) S h c W;unfold Oper.wp at this ⊢;rw[s]at this ⊢;exact⟨⟨this,fun _=>Y⟩,fun u=>absurd (hK u) T,.below Y⟩
    have A:avY C o=true:=by
     unfold oL at j;simp only[ju]at j;rcases j with (((j|j)|j)|j)|j
     .exact absurd j qd
     .exact absurd j T
     .exact j
     .exact absurd j ql
     .exact absurd j qe
    unfold avY at A;split at A
    .rename_i f args qy O;simp only[fo,O]at c;split at c
     .rename_i x z;exact afP (show afM P w0 f x from S f (.one x) z) h O c fun L cA D F H qb Y=>⟨⟨⟨L,cA,H,qb⟩,fun _=>Y⟩,fun u=>absurd (hK u) T,.below Y⟩
     .rename_i x z;rw[z]at A;cases A
     .rename_i x z;rw[z]at A;cases A
     .rename_i z;rw[z]at A;cases A
     .rename_i z;rw[z]at A;cases A
     .rename_i z;rw[z]at A;cases A
     .cases c
    .cases A
 .have u:∀{U:Prop},F7 P o=true->U:=fun u=>absurd (show oL P C ops o=true by unfold oL;rw[hK u];simp) j
  cases m:SW C o with
  |none=>exact Oper.wp_mono (fun D F H=>⟨⟨H,fun h=>absurd h j⟩,fun h=>u h,fun t g k I=>(by rw[m]at I;cases I)⟩) (vl (Q:=Q) S h c W)
  |some t =>
   have qm:=m;unfold SW at m;split at m
   .rename_i f args qy O;split at m
    .rename_i x z;have qn:(x.pm=.box\/x.pm=.cur)/\l1 args.toList x.i=some (.tmp t):=by
      cases X:x.pm with
      |box =>
       rw[X]at m;dsimp only at m;split at m
       .rename_i qa qf;cases m;exact⟨.inl rfl,qf⟩
       .cases m
      |cur =>
       rw[X]at m;dsimp only at m;split at m
       .rename_i qa qf;cases m;exact⟨.inr rfl,qf⟩
       .cases m
      |rd=>rw[X]at m;cases m|own f=>rw[X]at m;cases m
     simp only[fo,O,z]at c;refine Oper.wp_mono (fun D F H=>⟨⟨H.1,fun h=>absurd h j⟩,fun h=>u h,fun qa g k I K B qg=>?_⟩) (aaH (show YW P w0 f x from S f (.two x) z) h O c W);rw[qm]at I;cases I;exact H.2 (.tmp t) g qn.1 qn.2 K k B qg
    .cases m
   .rename_i ty qa y O;cases m;have qz:=vl (Q:=Q) S h c W;simp only[fo,O]at c;split at c
    .rename_i qo;simp only[aD]at qo;have qA:∃g off cs e p,a.eval (.tmp t)=.pointer (some ⟨g,off,none⟩)/\w.heap[g]?=some (.cells cs e p):=by
      have hrel:=h.ac (.tmp t);split at c
      .rename_i b off qh;rw[qh]at hrel;obtain⟨qB,K⟩:=hrel;obtain⟨l,j⟩:=ij.1 qB;obtain⟨cs,e,Z,_⟩:=h.bx b l j;exact⟨_,off,cs,e,_,K,Z⟩
      .rename_i id i off qh;rw[qh]at hrel;obtain⟨_,_,_,g,q,n,cap,K,qI,X⟩:=hrel;split at c
       .rename_i qp qC;split at c
        .rename_i qq;simp only[aD]at qq;have j:=dx qC;obtain⟨rows,bd,qK,_⟩:=(h.bl id qp j).wr qq.1.1;rcases bd.2 with ⟨s,_⟩|⟨qD,qL,cur,s,_,Z,_⟩
         .rw[K]at s;cases s
         .rw[K]at s;injection s with qi _ _
          injection qi with qi
          injection qi with qE _ _
          subst qE;exact⟨g,_,cur,_,_,X qp j,Z⟩
        .cases c
       .cases c
      .cases c
     obtain⟨g,off,cs,e,p,K,Z⟩:=qA;refine Oper.wp_mono (fun D F H=>⟨⟨H.1,fun h=>absurd h j⟩,fun h=>u h,fun qa qD k I qF B qg=>H.2 k ?_⟩) (aA1 O K Z qo.2 qz);rw[qm]at I;cases I;rw[show a.eval (.tmp t)=a.tmps.getD t undef from rfl,qF]at K;cases K;exact qg
    .cases c
   .cases m
def PK {ops:Array Oper}{j:Nat}{c:Oper}{d:Tmp}{tmps:Array Value}(e:l1 ops.toList j=some c)(f:c.dst=some d) :
  yielded ops tmps j=match tmps.getD d undef with|.bool b=>some b|_=>none:=by
 have g:ops[j]?=some c:=by rw[aqZ]at e;simpa using e
 unfold yielded;rw[g];simp only[ajx,f];rw[Nb];cases tmps[d]? with
 |none=>rfl|some v=>cases v<;>rfl
def W2 {ops:Array Oper}{k:St->Option U}(h:Inv w0 G st a w)(c:Py P C (nT.J9 N) ops.toList o st k=some r) :
  (Region.wanted o (yielded ops a.tmps)=true/\∃cA,(cA=st\/∃d b j,st.get d=.v (.c (.bool b))/\cA=st.put d (.v (.c (.bool j))))/\Inv w0 G cA a w/\fo P C (nT.J9 N) o cA k=some r) \/
  (Region.wanted o (yielded ops a.tmps)=false/\∃e cA,Inv w0 e cA (a.put o.dst undef) w/\k cA=some r):=by
 have p:∀{st:St},Inv w0 G st a w->St.pk st o.dst (.SL []) k=some r->∃e cA,Inv w0 e cA (a.put o.dst undef) w/\k cA=some r:=by
  intro st h c;obtain⟨e,cA,x,y⟩:=vX (K:=fun s t=>∃e cA,Inv w0 e cA s t/\k cA=some r) h (v:=.SL []) (u:=undef) ⟨#[],rfl,trivial⟩ c fun e cA s t z A=>⟨e,cA,z,A⟩
  exact⟨e,cA,x,y⟩
 unfold Py at c;split at c
 .rename_i f;exact .inl ⟨by simp[Region.wanted,f],st,.inl rfl,h,c⟩
 .rename_i I SV f;split at c
  .rename_i L B;split at c
   .rename_i d D;have g:=PK (tmps:=a.tmps) B D;have l:=h.ev (.tmp d);rw[show st.ev (.tmp d)=st.get d from rfl]at l;split at c
    .rename_i b m;rw[m]at l;have i:a.tmps.getD d undef=.bool b:=l;rw[i]at g;have n:∀j,b=j->Inv w0 G (st.put d (.v (.c (.bool j)))) a w:=by intro j F;subst F;exact h.lit (.tmp d) b i
     rcases aat c with ⟨q,c⟩|⟨q,c⟩
     .subst q;cases SV with
      |true=>exact .inl ⟨by simp[Region.wanted,f,g],_,.inr ⟨d,_,_,m,rfl⟩,n true rfl,c⟩
      |false=>exact .inr ⟨by simp[Region.wanted,f,g],p (n true rfl) c⟩
     .subst q;cases SV with
      |true=>exact .inr ⟨by simp[Region.wanted,f,g],p (n false rfl) c⟩
      |false=>exact .inl ⟨by simp[Region.wanted,f,g],_,.inr ⟨d,_,_,m,rfl⟩,n false rfl,c⟩
    .rename_i m;rw[m]at l;obtain⟨H,i,O⟩:=l;have i:a.tmps.getD d undef=.tuple H:=i;rw[i]at g;exact .inr ⟨by simp[Region.wanted,f,g],p h c⟩
    .cases c
   .cases c
  .cases c
def W3 {ops:Array Oper}{M:Array Bool}:∀{l:List Nat} {j:Nat} {o:Oper},SX P C ops M st l=some (j,o)->j∈l/\ops[j]?=some o/\nO P o=true/\Region.free .any ops M j=true/\((H2 st o=true\/axQ ops.toList st o=true)\/(aar P C ops M j=true\/aqN P C ops M st j o=true))
 |[],_,_,h=>by simp[SX]at h
 |i::l,j,o,h=>by
  simp only[SX]at h;split at h
  .rename_i f c;split at h
   .rename_i b;cases h;simp only[aD,ju]at b;exact⟨by simp,c,b.1.1,b.1.2,b.2.elim (fun h=>h.elim (fun h=>h.elim (fun h=>.inl (.inl h)) fun h=>.inr (.inl h)) fun h=>.inl (.inr h)) fun h=>.inr (.inr h)⟩
   .obtain⟨d,e⟩:=W3 h;exact⟨by simp[d],e⟩
  .cases h
def W4 {ops:Array Oper}{M:Array Bool}:∀{l:List Nat} {j:Nat} {o:Oper},SY P ops M st l=some (j,o)->j∈l/\ops[j]?=some o/\aAE j (Region.ready .any ops (jw P ops j (List.range ops.size) M))=true/\ajF P ops M st (List.range ops.size)=true
 |[],_,_,h=>by simp[SY]at h
 |i::l,j,o,h=>by
  simp only[SY]at h;split at h
  .rename_i f c;split at h
   .rename_i b;cases h;rw[aD]at b;exact⟨by simp,c,b.1,b.2⟩
   .obtain⟨d,e⟩:=W4 h;exact⟨by simp[d],e⟩
  .cases h
def aka {ops:Array Oper}{M:Array Bool}:∀{l:List Nat},ajF P ops M st l=true->∀i∈l,∀o,ops[i]?=some o->bA P o=true->M.getD i true=false->waits P ops M o=true\/Ka P st o=true
 |[],_,i,h=>by cases h
 |j::l,h,i,hi=>by
  simp only[ajF,aD]at h;intro o b c d;rcases fe.1 hi with rfl|hi
  .have:=h.1;rw[b]at this;simpa [c,d]using this
  .exact aka h.2 i hi o b c d
def awl {ops:Array Oper}{M:Array Bool}(h:waits P ops M o=true):∃e∈o.after,Region.binds .any e=true/\∃c,ops[e.on]?=some c/\bA P c=false/\M.getD e.on true=false:=by
 unfold waits at h;obtain⟨e,f,d⟩:=apc.1 h;rw[aD]at d;refine⟨e,f,d.1,?_⟩;have b:=d.2;split at b
 .rename_i c g;rw[aD]at b;exact⟨c,g,by simpa using b.1,by simpa using b.2⟩
 .cases b
def apy {x:Nat}:∀{l:List Nat},aAE x l=true->∀i∈l,i=x
 |[],_,i,h=>by cases h
 |j::l,h,i,hi=>by
  simp only[aAE,aD]at h;rcases fe.1 hi with rfl|hi
  .exact aI h.1
  .exact apy h.2 i hi
def v8 {ops:Array Oper}{x:Nat}:∀(b:List Nat) {l:Array Bool} {i:Nat},l.getD i false=true->(jw P ops x b l).getD i false=true
 |[],_,_,h=>h|j::b,l,i,h=>by
  unfold jw;split
  .split
   .exact v8 b (getD_set_true h)
   .exact v8 b h
  .exact v8 b h
def F9 {ops:Array Oper}{x:Nat}:∀(b:List Nat) {l:Array Bool},(jw P ops x b l).size=l.size
 |[],_=>rfl|j::b,l=>by
  unfold jw;split
  .split
   .rw[F9 b];simp
   .exact F9 b
  .exact F9 b
def Ga {ops:Array Oper}{x y:Nat}(h:ops[y]?=none):∀(b:List Nat) {l:Array Bool},(jw P ops x b l).getD y false=l.getD y false
 |[],_=>rfl|j::b,l=>by
  unfold jw;split
  .rename_i o c;have d:j≠y:=fun e=>by rw[e,h]at c;cases c
   split
   .rw[Ga h b,getD_set_ne false d]
   .exact Ga h b
  .exact Ga h b
def r9 {ops:Array Oper}{x y:Nat}{o:Oper}(c:ops[y]?=some o)(d:bA P o=true)(e:y≠x):∀(b:List Nat) {l:Array Bool},y<l.size->y∈b->(jw P ops x b l).getD y false=true
 |[],_,_,h=>by cases h
 |j::b,l,f,h=>by
  have g:Nat.beq y x=false:=by
   cases g:Nat.beq y x with
   |true=>exact absurd (aI g) e|false=>rfl
  unfold jw;rcases fe.1 h with rfl|h
  .rw[c];simp only[d,g,dW,Bool.and_self];exact v8 b (by simp[Nb,f])
  .split
   .split
    .exact r9 c d e b (by simpa using f) h
    .exact r9 c d e b f h
   .exact r9 c d e b f h
def nv {ops:Array Oper}{x y:Nat}{o:Oper}(d:ops[y]?=some o)(b:bA P o=false\/y=x):∀(c:List Nat) {l:Array Bool},(jw P ops x c l).getD y true=l.getD y true
 |[],_=>rfl|j::c,l=>by
  unfold jw;split
  .rename_i g f;split
   .rename_i e;rw[nv d b c];refine getD_set_ne true ?_;rintro rfl;rw[d]at f;cases f;rw[aD]at e;rcases b with b|rfl
    .rw[b]at e;cases e.1
    .simp at e
   .exact nv d b c
  .exact nv d b c
def Tg {ops:Array Oper}{M:Array Bool}:∀{l:List Nat},HG P ops M l=true->∀i∈l,∀o,ops[i]?=some o->bA P o=true->M.getD i true=true
 |[],_,i,h=>by cases h
 |j::l,h,i,hi=>by
  simp only[HG,aD]at h;intro o b c;rcases fe.1 hi with rfl|hi
  .have:=h.1;rw[b]at this;simpa [c]using this
  .exact Tg h.2 i hi o b c
def afS {ops:Array Oper}{M:Array Bool}:∀{l:List Nat} {st:St},(∀i∈l,∀o,ops[i]?=some o->bA P o=true->M.getD i true=true)->gy P ops M l st=st
 |[],_,_=>rfl|i::l,st,h=>by
  have c:=afS (st:=st) fun d e=>h d (rL _ e)
  unfold gy;split
  .rename_i o f;split
   .rename_i b _;rw[aD]at b;have:=h i J5 o f b.1;rw[this]at b;cases b.2
   .exact c
  .exact c
def anR {ops:Array Oper}{M:Array Bool}{i:Nat}(h:aar P C ops M i=true){c:Nat}{b:Oper}(d:ops[c]?=some b)(e:oL P C ops b=false):M.getD c true=true\/mI ops M i 3 b=true:=by unfold aar at h;rw[hD]at h;have:=h c (il.2 (vQ.1 d).1);rw[d]at this;simpa only[e,va,ju]using this
def W5 {ops:Array Oper}{M:Array Bool}{i n:Nat}(h:mI ops M i (n+1) o=true):∃e∈o.after,Region.binds .any e=true/\(e.on=i\/(M.getD e.on true=false/\∃f,ops[e.on]?=some f/\mI ops M i n f=true)):=by
 unfold mI at h;obtain⟨e,g,c⟩:=apc.1 h;rw[aD,ju]at c;refine⟨e,g,c.1,?_⟩;rcases c.2 with b|b
 .exact .inl (by simpa using b)
 .rw[aD]at b;refine .inr ⟨by simpa using b.1,?_⟩;have d:=b.2;split at d
  .exact⟨_,by assumption,d⟩
  .cases d
def afT {ops:Array Oper}{M R:Array Bool}{i:Nat}(g:∀d b,ops[d]?=some b->M.getD d true=false->R.getD d false=true->∀e∈b.after,Region.binds .any e=true->R.getD e.on false=true)(hi:R.getD i false=false) :
  ∀(n d:Nat) (b:Oper),ops[d]?=some b->M.getD d true=false->R.getD d false=true->mI ops M i n b=true->False
 |0,_,_,_,_,_,h=>by simp[mI]at h
 |n+1,d,b,j,k,l,h=>by
  obtain⟨e,m,p,c⟩:=W5 h;have f:=g d b j k l e m p;rcases c with c|⟨c,q,s,t⟩
  .rw[c,hi]at f;cases f
  .exact afT g hi n e.on q s c f t
def PL {ops:Array Oper}{M R l:Array Bool}{i:Nat}(j:∀d k,ops[d]?=some k->M.getD d true=false->R.getD d false=true->∀e∈k.after,Region.binds .any e=true->R.getD e.on false=true)(hi:R.getD i false=false)(m:Sup ops R l)(p:l.getD i false=false) :
  ∀(n c:Nat) (f:Oper),ops[c]?=some f->R.getD c false=false->l.getD c false=true->mI ops M i n f=true->False
 |0,_,_,_,_,_,h=>by simp[mI]at h
 |n+1,c,f,v,x,y,h=>by
  obtain⟨e,z,A,b⟩:=W5 h;have g:=m.2.2 c f v x y e z A;rcases b with b|⟨b,q,s,t⟩
  .rw[b,p]at g;cases g
  .cases u:R.getD e.on false with
   |true=>exact afT j hi n e.on q s b u t|false=>exact PL j hi m p n e.on q s u g t
def kG {ops:Array Oper}{nt:Nat}(h:pB P ops nt=true){x:Nat}{o:Oper}(e:ops[x]?=some o)(i:bA P o=true){d:Tmp}(j:o.dst=some d):d<nt/\∀y b,ops[y]?=some b->y≠x->b.dst≠some d:=by
 unfold pB at h;rw[aD]at h
 replace h:=h.2
 rw[hD]at h;have:=h x (il.2 (vQ.1 e).1);rw[e]at this;simp only[i,aG,va,aD,j]at this;refine⟨fV this.1,fun y b f k l=>?_⟩;have g:=this.2;rw[hD]at g;have:=g y (il.2 (vQ.1 f).1);rw[f]at this;simp only[l]at this;have c:Nat.beq y x=false:=by
  cases c:Nat.beq y x with
  |true=>exact absurd (aI c) k|false=>rfl
 rw[c]at this;simp[ajE]at this
def QM {ops:Array Oper}{nt:Nat}(h:pB P ops nt=true){x:Nat}{o:Oper}(d:ops[x]?=some o)(g:bA P o=true){y:Nat}{b:Oper}(f:ops[y]?=some b){t:Tmp}(i:b.dst=some t)(j:aaq o t=true) :
  bA P b=false/\∃e∈o.after,Region.binds .any e=true/\e.on=y:=by
 unfold pB at h;rw[aD]at h
 replace h:=h.1
 unfold ajG at h;rw[hD]at h;have:=h x (il.2 (vQ.1 d).1);rw[d]at this;simp only[g,aG,va]at this;rw[hD]at this;have:=this y (il.2 (vQ.1 f).1);rw[f]at this;simp only[i,j,aG,va,aD]at this;refine⟨by simpa using this.1,?_⟩;obtain⟨e,k,c⟩:=apc.1 this.2;rw[aD]at c;exact⟨e,k,c.1,aI c.2⟩
def unl (R:Array Bool)(n:Nat):Nat:=(List.range n).countP fun i=> !R.getD i true
def apz {p q:Nat->Bool}{i:Nat}(b:∀x,q x=true->p x=true)(c:p i=true)(d:q i=false):∀{l:List Nat},i∈l->l.countP q<l.countP p
 |[],h=>by cases h
 |j::l,h=>by
  have g:l.countP q<=l.countP p:=avO fun x _ e=>b x e
  rcases fe.1 h with rfl|h
  .rw[adf,adf,c,d];simp;omega
  .have k:=apz b c d h;rw[adf,adf];cases f:q j with
   |false=>simp;omega|true=>rw[b j f];simp;omega
def arh {R:Array Bool}{n i:Nat}(hi:i<n)(e:R.size=n)(b:R.getD i true=false):unl (R.setIfInBounds i true) n<unl R n:=by
 refine apz (i:=i) (fun x c=>?_) (by simp[b]) ?_ (il.2 hi)
 .by_cases d:i=x
  .subst d;simp[b]
  .rw[getD_set_ne true d]at c;exact c
 .have:(R.setIfInBounds i true).getD i true=true:=by simp[Nb,axL,e,hi]
  simp[this]
def ari {R:Array Bool}{n i:Nat}(hi:i<n)(b:R.getD i true=false):0<unl R n :=
 List.countP_pos_iff.2 ⟨i,il.2 hi,by simp[b]⟩
structure wa (P:Program) (C:FuncId->Option Any) (N:Nat) (ops:Array Oper) (hd0 hd1:Nat->Option (Bool×Obj)) (M R:Array Bool) (E:Nat->Option Nat) (a:Act):Prop where
 szM:M.size=ops.size
 szR:R.size=ops.size
 rel:∀i,R.getD i false=(M.getD i false || (E i).isSome)
 early:∀x g,E x=some g->M.getD x false=false/\∃o d obj,ops[x]?=some o/\bA P o=true/\o.dst=some d/\(aDR P C N o d/\aj7 P o a obj/\∀e∈o.after,Region.binds .any e=true->R.getD e.on false=true)/\a.tmps.getD d undef=mkF o g/\hd1 g=some (true,obj)/\hd0 g=none
 inj:∀x y g,E x=some g->E y=some g->x=y
 z:∀x ox d,ops[x]?=some ox->F7 P ox=true->ox.dst=some d->R.getD x false=true->∃g,a.tmps.getD d undef=.slice (some ⟨g,0,none⟩) 0 0
 hd:∀g v,hd0 g=some v->hd1 g=some v
section
variable {ops:Array Oper} {hd0 hd1:Nat->Option (Bool×Obj)} {M R:Array Bool} {E:Nat->Option Nat}
def fI {l:Array Bool}{i:Nat}(h:l.getD i true=false):l.getD i false=false:=by
 rcases QJ i l.size with b|b
 .rw[<-sM b];exact h
 .simp[avL b,Nb]
def PN {l:Array Bool}{i:Nat}(h:l.getD i false=false)(hi:i<l.size):l.getD i true=false:=by rw[sM hi];exact h
def Ie {l:Array Bool}{i:Nat}(hi:i<l.size):(l.setIfInBounds i true).getD i false=true:=by simp[Nb,axL,hi]
def wa.ready (b:wa P C N ops hd0 hd1 M R E a){j:Nat}(d:j∈Region.ready .any ops M)(f:E j=none):j∈Region.ready .any ops R:=by
 obtain⟨g,o,c,h⟩:=mem_ready.1 d;have hlt:j<ops.size:=(vQ.1 c).1;refine mem_ready.2 ⟨PN ?_ (by rw[b.szR];exact hlt),o,c,fun e i k=>?_⟩
 .rw[b.rel,fI g,f];rfl
 .rw[b.rel,h e i k,YM]
def wa.unM (c:wa P C N ops hd0 hd1 M R E a){j:Nat}(h:R.getD j true=false)(hlt:j<ops.size):M.getD j true=false/\E j=none:=by
 have b:=fI h;rw[c.rel]at b;simp only[afA]at b;refine⟨PN b.1 (by rw[c.szM];exact hlt),?_⟩;cases d:E j with
 |none=>rfl
 |some g =>
  rw[d]at b;cases b.2
def wa.next (b:wa P C N ops hd0 hd1 M R E a){nt:Nat}(hfd:pB P ops nt=true){j:Nat}{o:Oper}(f:ops[j]?=some o)(D:E j=none)(F:R.getD j true=false){a':Act}(l:∀t,o.dst≠some t->a'.tmps.getD t undef=a.tmps.getD t undef)
  (H:F7 P o=true->∀d,o.dst=some d->∃g,a'.tmps.getD d undef=.slice (some ⟨g,0,none⟩) 0 0) :
  wa P C N ops hd0 hd1 (M.setIfInBounds j true) (R.setIfInBounds j true) E a':=by
 have hlt:j<ops.size:=(vQ.1 f).1;refine⟨by simpa using b.szM,by simpa using b.szR,fun i=>?_,fun x g c=>?_,b.inj,fun x m d h n p c=>?_,b.hd⟩
 .by_cases q:j=i
  .subst q;rw[Ie (by rw[b.szR];exact hlt),Ie (by rw[b.szM];exact hlt)];rfl
  .rw[getD_set_ne false q,getD_set_ne false q];exact b.rel i
 .obtain⟨I,m,d,obj,s,u,A,k,K,L,O⟩:=b.early x g c;have B:j≠x:=by rintro rfl;rw[D]at c;cases c
  refine⟨by rw[getD_set_ne false B];exact I,m,d,obj,s,u,A,⟨k.1,k.2.1.same fun t Q=>l t fun S=>?_,fun e v y=>getD_set_true (k.2.2 e v y)⟩,?_,L,O⟩
  .obtain⟨_,e,v,y,T⟩:=QM hfd s u f S Q;have:=k.2.2 e v y;rw[T,fI F]at this;cases this
  rw[l d ((kG hfd s u A).2 j o f B)];exact K
 .by_cases z:j=x
  .subst z;rw[f]at h;cases h;exact H n d p
  .rw[l d ((kG hfd h (hK n) p).2 j o f z)];rw[getD_set_ne false z]at c;exact b.z x m d h n p c
def aA2 (n x:Nat):(Array.replicate n false).getD x false=false:=by rw[Nb,Array.getElem?_replicate];split<;>rfl
def awm (a:Act)(o:Oper)(v:Value)(t:Tmp)(b:o.dst≠some t):(a.put o.dst v).tmps.getD t undef=a.tmps.getD t undef:=by
 cases c:o.dst with
 |none=>simp[Act.put]|some d=>exact l3 (fun e=>b (by rw[c,e])) v
def aCU {f:St}(h:f=st\/∃c b g,st.get c=.v (.c (.bool b))/\f=st.put c (.v (.c (.bool g)))){x:Operand}{d j:Nat}(e:st.ac x=.ptr d j):f.ac x=.ptr d j:=by
 rcases h with rfl|⟨c,b,g,k,rfl⟩
 .exact e
 .cases x with
  |tmp s =>
   by_cases i:c=s
   .subst i;simp only[St.ac,St.dO,St.ev,k]at e;cases e
   .have:(st.put c (.v (.c (.bool g)))).ac (.tmp s)=st.ac (.tmp s):=by simp only[St.ac,St.dO,St.ev,St.get,St.put,ar,af i]
    rw[this];exact e
  |_=>exact e
def arj {k:St->Option U}(h:Inv w0 G st a w){t:TypeId}{x:Operand}(e:o.op=.load t x){d j:Nat}(f:st.ac x=.ptr d j)(c:fo P C (nT.J9 N) o st k=some r):ajL P w0 G w d a o k r:=by
 simp only[fo,e]at c;split at c
 .rename_i l off g;split at c
  .rename_i i;split at c
   .exact ax0 h t x e g i (b:=true) ‹_› (v:=.agg _) rfl f c
   .split at c
    .rename_i m _ y n;exact ax0 h t x e g i (b:=false) m (v:=.c y) ⟨y,n,rfl⟩ f c
    .cases c
   .cases c
  .cases c
 .cases c
def atD {M:Array Bool}{t:Tmp}(h:avZ ops M t=true){j:Nat}{b:Oper}(c:ops[j]?=some b)(d:M.getD j true=false):b.dst≠some t:=by have:=hD.1 h j (il.2 (vQ.1 c).1);rw[c]at this;dsimp only at this;rw[d,va]at this;intro e;rw[e]at this;simp[ajE]at this
def akb {x:Option Tmp}{t:Tmp}(h:ajE x (some t)=true):x=some t:=by
 cases x with
 |none=>cases h|some s=>rw[aI (show Nat.beq s t=true from h)]
def akc {M:Array Bool}{i:Nat}{ok:Nat->Bool}(h:HF P C ops M st i ok=true){c:Nat}{f:Oper}(p:ops[c]?=some f)(s:oL P C ops f=false):M.getD c true=true\/mI ops M i 3 f=true \/
  (∃d k,SW C f=some d/\st.get d=.v (.c (.ptr k 0))/\ok k=true/\avZ ops M d=true)\/∃d x g,SW C f=some d/\ops[x]?=some g/\bA P g=true/\Pz g=true/\g.dst=some d/\M.getD x true=false/\∃e∈f.after,Region.binds .any e=true/\e.on=x:=by
 have:=hD.1 h c (il.2 (vQ.1 p).1);rw[p]at this;dsimp only at this;rw[s,va,ju,ju]at this;rcases this with (b|b)|b
 .exact .inl b
 .exact .inr (.inl b)
 .refine .inr (.inr ?_);split at b
  .rename_i d q;rw[ju]at b;rcases b with b|b
   .rw[aD]at b;obtain⟨j,m⟩:=b;split at j
    .rename_i k t;exact .inl ⟨d,k,q,t,j,m⟩
    .cases j
   .obtain⟨x,_,l⟩:=List.any_eq_true.1 b;split at l
    .rename_i g u;simp only[aD,afD]at l;obtain⟨⟨⟨⟨j,m⟩,v⟩,y⟩,z⟩:=l;obtain⟨e,A,n⟩:=apc.1 z;rw[aD]at n;exact .inr ⟨d,x,g,q,u,j,m,akb v,y,e,A,n.1,aI n.2⟩
    .cases l
  .cases b
def atE {M:Array Bool}{i:Nat}(h:aqN P C ops M st i o=true):∃t x,o.op=.load t x/\((∃b off,st.ac x=.ptr b off/\HF P C ops M st i (fun d=> !Nat.beq d b)=true)\/∃id e off b,st.ac x=.Ak id e off/\st.nS id=some b/\b.w=true/\HF P C ops M st i (fun _=>true)=true):=by
 unfold aqN at h;split at h
 .rename_i t x c;split at h
  .exact⟨t,x,c,.inl ⟨_,_,by assumption,h⟩⟩
  .split at h
   .rw[aD]at h;exact⟨t,x,c,.inr ⟨_,_,_,_,by assumption,by assumption,h.1,h.2⟩⟩
   .cases h
  .cases h
 .cases h
def aCV {f:St}(h:f=st\/∃c b g,st.get c=.v (.c (.bool b))/\f=st.put c (.v (.c (.bool g)))){x:Operand}{d k:Nat}{i:Int}(e:st.ac x=.Ak d i k):f.ac x=.Ak d i k/\∀id,f.nS id=st.nS id:=by
 rcases h with rfl|⟨c,b,g,l,rfl⟩
 .exact⟨e,fun _=>rfl⟩
 .refine⟨?_,fun _=>rfl⟩;cases x with
  |tmp s =>
   by_cases j:c=s
   .subst j;simp only[St.ac,St.dO,St.ev,l]at e;cases e
   .have:(st.put c (.v (.c (.bool g)))).ac (.tmp s)=st.ac (.tmp s):=by simp only[St.ac,St.dO,St.ev,St.get,St.put,ar,af j]
    rw[this];exact e
  |_=>exact e
def akd (P:Program)(w0:eA)(w:World)(g:Nat)(a:Act)(o:Oper){U:Type}(k:St->Option U)(r:U):Prop :=
 ∃v c cA,(∀b:World,b.heap[g]?=w.heap[g]?->(execOp a.eval o).run P b=.ok (.value v) b)/\Inv w0 c cA (a.put o.dst v) w/\k cA=some r
def ax9 {k:St->Option U}(h:Inv w0 G st a w){g:Nat}{v:AV}{u:Value}(f:hI G w st.bx st.bl v u)(i:st.pk o.dst v k=some r)(j:∀c:World,c.heap[g]?=w.heap[g]?->(execOp a.eval o).run P c=.ok (.value u) c):akd P w0 w g a o k r:=by
 obtain⟨b,cA,l,m⟩:=vX (K:=fun d e=>∃b cA,Inv w0 b cA d e/\k cA=some r) h f i fun b cA d e n p=>⟨b,cA,n,p⟩
 exact⟨u,b,cA,j,l,m⟩
def aya {k:St->Option U}(h:Inv w0 G st a w)(t:TypeId)(x:Operand)(s:o.op=.load t x){l:List AC}{c g q:Nat}{vs:List Value}(z:a.eval x=.pointer (some ⟨g,q+c,none⟩))(L:cW w g q vs)(hrel:b6 (bm G w st.bx st.bl) l vs)
  (O:Nat.beq (rM (P.cellsOf t) (rN c l)).length (P.cellsOf t)=true)
  {b:Bool} (A:Wm P t=some b)
  {v:CV} (B:match b with|true=>v=.agg (rM (P.cellsOf t) (rN c l))|false=>∃y,rM (P.cellsOf t) (rN c l)=[y]/\v=.c y)
  (D:st.pk o.dst (.v v) k=some r):akd P w0 w g a o k r:=by
 have e:=(hrel.drop c).take (P.cellsOf t);have F:cW w g (q+c) ((vs.drop c).take (P.cellsOf t)):=L.drop.take;have hlen:=e.len;have T:=aI O;have H:∀d:World,d.heap[g]?=w.heap[g]?->cW d g (q+c) ((vs.drop c).take (P.cellsOf t)):=fun d f i u j=>by rw[cell_of_heap f];exact F i u j
 have n:=fun d f=>vj (P:=P) (H d f) (by omega) (.inr trivial) A
 obtain⟨i,Q⟩:=vk A;cases b with
 |true =>
  subst B;simp only[Q]at n;refine ax9 (u:=.agg ((vs.drop c).take (P.cellsOf t)).toArray) h (v:=.v (.agg _)) ⟨_,rfl,e⟩ D fun d f=>?_
  have p:=n d f;unfold execOp;rw[s];simp[Instr.loadAt,Instr.sureAddr,z,p]
 |false =>
  obtain⟨y,S,rfl⟩:=B;rw[S]at e;obtain⟨u,j⟩:∃u,(vs.drop c).take (P.cellsOf t)=[u]:=by
   cases I:(vs.drop c).take (P.cellsOf t) with
   |nil=>rw[I]at e;exact e.elim
   |cons u m =>
    rw[I]at e;cases m with
    |nil=>exact⟨u,rfl⟩|cons _ _=>exact e.2.elim
  rw[j]at e F;refine ax9 (u:=u) h (v:=.v (.c y)) e.1 D fun d f=>?_
  have p:=n d f;have K:=H d f 0 u (by rw[j];rfl);rw[WW]at K;unfold execOp;rw[s];simp[Instr.loadAt,Instr.sureAddr,z,p,K]
def ark {k:St->Option U}(h:Inv w0 G st a w){t:TypeId}{x:Operand}(e:o.op=.load t x){id j:Nat}{i:Int}(A:st.ac x=.Ak id i j){b:fa}(B:st.nS id=some b)(D:b.w=true)(c:fo P C (nT.J9 N) o st k=some r) :
  ∃g,G.own g=some (.bl id)/\g<w.heap.size/\akd P w0 w g a o k r:=by
 have hrel:=h.ac x;have m:=dx B;obtain⟨_,_,_,g,S,n,cap,F,T,f⟩:=(show bm G w st.bx st.bl (.Ak id i j) (a.eval x) from by rw[<-A];exact hrel);have f:=f b m;obtain⟨rows,bd,H,_⟩:=(h.bl id b m).wr D;have p:=H g (by rw[F];rfl);refine⟨g,p,(h.own g _ p).2.1,?_⟩;simp only[fo,e]at c;split at c
 .rename_i l off I;obtain⟨K,q,W,d,s,u⟩:=Kb h hrel I;have L:K=g:=by
   rw[f]at d;injection d with d
   injection d with d
   injection d with d _ _
   exact d.symm
  subst L;split at c
  .rename_i z;split at c
   .exact aya h t x e d s u z (b:=true) ‹_› (v:=.agg _) rfl c
   .split at c
    .rename_i O _ y Q;exact aya h t x e d s u z (b:=false) O (v:=.c y) ⟨y,Q,rfl⟩ c
    .cases c
   .cases c
  .cases c
 .cases c
def wa.fresh (h:wa P C N ops hd0 hd1 M R E a){i:Nat}(hi:i∈Region.ready .any ops R)(j:ops[i]?=some o)(t:Tmp)(k:YP o=some t)(c:Nh P ops o=true):∃g,a.tmps.getD t undef=.slice (some ⟨g,0,none⟩) 0 0:=by
 obtain⟨_,y,f,l⟩:=mem_ready.1 hi;rw[j]at f;cases f;unfold Nh at c;rw[k]at c;obtain⟨x,_,b⟩:=List.any_eq_true.1 (show(List.range ops.size).any _=true from c);split at b
 .rename_i m n;simp only[aD]at b;obtain⟨⟨p,q⟩,s⟩:=b;obtain⟨e,u,d⟩:=apc.1 s;rw[aD]at d;have v:=aI d.2;have:=l e u d.1;rw[v]at this;exact h.z x m t n p (akb q) this
 .cases b
def wa.dlt (_:wa P C N ops hd0 hd1 M R E a){nt:Nat}(hfd:pB P ops nt=true)(b:a.tmps.size=nt){i:Nat}(c:ops[i]?=some o)(d:Tmp)(e:bA P o=true)(f:o.dst=some d):d<a.tmps.size:=by rw[b];exact(kG hfd c e f).1
def atF {e:St}(h:e=st\/∃d b f,st.get d=.v (.c (.bool b))/\e=st.put d (.v (.c (.bool f))))(c:H2 st o=true):H2 e o=true:=by
 rcases h with rfl|⟨d,b,f,j,rfl⟩
 .exact c
 .cases g:o.op with
  |load t x =>
   simp only[H2,g]at c ⊢;cases x with
   |const _=>exact c
   |tmp s =>
    by_cases i:d=s
    .subst i;simp only[St.ac,St.dO,St.ev,j]at c;cases c
    .have:(st.put d (.v (.c (.bool f)))).ac (.tmp s)=st.ac (.tmp s):=by simp only[St.ac,St.dO,St.ev,St.get,St.put,ar,af i]
     rw[this];exact c
   |_=>exact c
  |convert _ _ _=>simp[H2,g]at c|_=>simp[H2,g]
def awn (h:Inv w0 G st a w)(b:axQ ops.toList st o=true):Region.wanted o (yielded ops a.tmps)=false:=by
 unfold axQ at b;split at b
 .cases b
 .rename_i m SV g;split at b
  .rename_i n j;split at b
   .rename_i d k;have e:=PK (tmps:=a.tmps) j k;have c:=h.ev (.tmp d);rw[show st.ev (.tmp d)=st.get d from rfl]at c;split at b
    .rename_i f;rw[f]at c;rw[show a.tmps.getD d undef=.bool true from c]at e;simp[Region.wanted,g,e]
    .rename_i f;rw[f]at c;rw[show a.tmps.getD d undef=.bool false from c]at e;simp[Region.wanted,g,e]
    .rename_i f;rw[f]at c;obtain⟨l,i,p⟩:=c;have i:a.tmps.getD d undef=.tuple l:=i;rw[i]at e;simp[Region.wanted,g,e]
    .cases b
   .cases b
  .cases b
def ayb {nt:Nat}(f:wa P C N ops w0.hd hd1 M R E a)(e:Inv {w0 with hd:=hd1} G (gy P ops M (List.range ops.size) st) a w){x g:Nat}(q:E x=some g)(A:ops[x]?=some o){k:St->Option U}
  (H:fo P C (nT.J9 N) o (gy P ops M (List.range ops.size) st) k=some r) :
  ∃B l m,wa P C N ops w0.hd B (M.setIfInBounds x true) R (fun y=>if y=x then none else E y) a/\Inv {w0 with hd:=B} l m a w/\k m=some r/\∀b,G.own b=none->l.own b=none:=by
 have hlt:∀{i:Nat} {o:Oper},ops[i]?=some o->i<ops.size:=fun h=>(vQ.1 h).1
 obtain⟨qv,D,d,obj,F,qw,qx,⟨I,K,_⟩,L,O,Q⟩:=f.early x g q;rw[A]at F;cases F;obtain⟨S,qy,T⟩:=e.hd g true obj O;have W:Inv {w0 with hd:=fun c=>if c=g then none else hd1 c} G (gy P ops M (List.range ops.size) st) a w :=
  ⟨e.nw,e.rok,e.below,e.defers,e.size,e.sp,fun c b D n=>e.hd c b D (by
   dsimp only at n;split at n
   .cases n
   .exact n),e.tm,e.bx,e.bl,e.own⟩
 obtain⟨l,m,X,Y,Z⟩:=I W S (by simp) T K L H;have qa:wa P C N ops w0.hd (fun c=>if c=g then none else hd1 c) (M.setIfInBounds x true) R (fun y=>if y=x then none else E y) a:=by
  refine⟨by simpa using f.szM,f.szR,fun i=>?_,fun y c j=>?_,fun y z c j s=>?_,fun y qb qd qe qf qg qh=>?_,fun c v t=>?_⟩
  .by_cases u:i=x
   .subst u;rw[Ie (by rw[f.szM];exact hlt A),f.rel,q];simp
   .rw[getD_set_ne false (Ne.symm u),f.rel,af u]
  .by_cases p:y=x
   .rw[ah p]at j;cases j
   .rw[af p]at j;obtain⟨qi,qj,qk,ql,qm,qn,qo,qp,qq,qt,qu⟩:=f.early y c j;refine⟨by rw[getD_set_ne false (Ne.symm p)];exact qi,qj,qk,ql,qm,qn,qo,qp,qq,?_,qu⟩;have:c≠g:=by rintro rfl;exact p (f.inj y x c j q)
    rw[af this];exact qt
  .split at j
   .cases j
   .split at s
    .cases s
    .exact f.inj y z c j s
  .exact f.z y qb qd qe qf qg qh
  .have:c≠g:=by rintro rfl;rw[Q]at t;cases t
   rw[af this];exact f.hd c v t
 exact⟨_,l,m,qa,X,Y,Z⟩
def ake:∀(xs:List Nat) {M:Array Bool} {E:Nat->Option Nat} {hd1:Nat->Option (Bool×Obj)} {G:Gh} {st:St} {J:Array Bool->St->Option U},xs.Nodup->(∀x∈xs,(E x).isSome=true)->wa P C N ops w0.hd hd1 M R E a->Inv {w0 with hd:=hd1} G (gy P ops M (List.range ops.size) st) a w ->
  aqO P C (nT.J9 N) ops xs M st J=some r->∃c d f j cA,wa P C N ops w0.hd f c R d a/\Inv {w0 with hd:=f} j (gy P ops c (List.range ops.size) cA) a w/\J c cA=some r/\(∀g,G.own g=none->j.own g=none)/\∀i,E i=none->d i=none
 |[],M,E,hd1,G,st,J,_,_,k,l,b=>⟨M,E,hd1,G,st,k,l,b,fun _ h=>h,fun _ h=>h⟩
 |x::xs,M,E,hd1,G,st,J,q,m,k,l,b=>by
  unfold aqO at b;split at b
  .rename_i L s;obtain⟨g,t⟩:=ij.1 (m x J5);obtain⟨O,Q,S,u,v,z,A⟩:=ayb (nt:=0) k l t s b;have n:=List.nodup_cons.1 q;obtain⟨c,d,f,j,cA,B,D,F,H,I⟩:=ake xs n.2 (fun y p=>by
    have K:y≠x:=fun e=>n.1 (by rw[<-e];exact p)
    rw[af K];exact m y (rL x p)) u (j4 _ v) z
   refine⟨c,d,f,j,cA,B,D,F,fun g h=>H g (A g h),fun i h=>I i ?_⟩;split
   .rfl
   .exact h
  .cases b
def azA {x y:Option U}(h:aCB x y=some r):x=some r/\y=some r:=by
 unfold aCB at h;split at h
 .rename_i e;exact⟨h,by rw[<-e];exact h⟩
 .cases h
def akf:∀{l:List (Option U)},axR l=some r->l≠[]/\∀x∈l,x=some r
 |[],h=>by cases h
 |[x],h=>⟨by simp,fun y c=>by rw[ki.1 c];exact h⟩
 |x::y::l,h=>by
  obtain⟨d,f⟩:=azA (show aCB x (axR (y::l))=some r from h);refine⟨by simp,fun z b=>?_⟩;rcases fe.1 b with e|b
  .rw[e];exact d
  .exact(akf f).2 z b
def aEh {ops:Array Oper}{R:Array Bool}{i:Nat}{c:Oper}{X:Nat->Oper->Tmp->Prop}(k:R.size=ops.size)(hi:ops[i]?=some c)(h:bA P c=false):∀(x:Nat) (b:Oper) (t:Tmp),ops[x]?=some b->bA P b=true->Pz b=true->b.dst=some t->R.getD x false=false->(R.setIfInBounds i true).getD x false=true->X x b t:=by
 intro x b t d f _ _ j g;exfalso;by_cases e:i=x
 .subst e;rw[hi]at d;cases d;rw[h]at f;cases f
 .rw[getD_set_ne false e,j]at g;cases g
def aA3 (zB:∀f qy,C f=some qy->No P w0 f qy){Q:Exit->Act->World->Prop}(jl:∀c a a' w,Q (.panic c) a w->Q (.panic c) a' w)(jm:Region.noSelect ops=true){nt:Nat}(hfd:pB P ops nt=true){k:St->Option U}(jn:pD w0 k r (Q .normal)) :
  ∀(s m n:Nat),m+n=s->∀{M R:Array Bool} {E:Nat->Option Nat} {hd1:Nat->Option (Bool×Obj)} {G:Gh} {st:St} {a:Act} {w:World},unl R ops.size<=n->a.tmps.size=nt->wa P C N ops w0.hd hd1 M R E a ->
   Inv {w0 with hd:=hd1} G (gy P ops M (List.range ops.size) st) a w->vV P C (nT.J9 N) ops m M st k=some r->Et P ops Q (SI P C ops G w a R) n R a w:=by
 intro s
 induction s using Nat.strongRecOn with
 |ind s xj =>
 intro m n hmn M R E hd1 G st a w aFU qI j A O;have hlt:∀{i:Nat} {o:Oper},ops[i]?=some o->i<ops.size:=fun h=>(vQ.1 h).1
 have zC:Region.ready .any ops M=[]->ck (HG P ops M (List.range ops.size)) (k st)=some r->Et P ops Q (SI P C ops G w a R) n R a w:=by
  intro qz O;obtain⟨xN,O⟩:=aR O;have zD:=fun i u=>Tg xN i (il.2 u)
  have hEn:∀x,E x=none:=by
   intro x;cases qm:E x with
   |none=>rfl
   |some g =>
    obtain⟨qd,o,d,obj,T,qj,_⟩:=j.early x g qm;have:=zD x (hlt T) o T qj;rw[PN qd (by rw[j.szM];exact hlt T)]at this;cases this
  rw[afS (fun i u o D hf=>zD i (il.1 u) o D hf)]at A;have hI0:Inv w0 G st a w:=⟨A.nw,A.rok,A.below,A.defers,A.size,A.sp,fun g b o xk=>A.hd g b o (j.hd g _ xk),A.tm,A.bx,A.bl,A.own⟩;refine atB (List.eq_nil_iff_forall_not_mem.2 fun i u=>?_) (jn _ _ _ _ hI0 O) n;obtain⟨qd,o,D,qk⟩:=mem_ready.1 u;have:i∈Region.ready .any ops M:=by refine mem_ready.2 ⟨(j.unM qd (hlt D)).1,o,D,fun e F K=>?_⟩;have:=qk e F K;rw[j.rel,hEn]at this;simpa using this
  rw[qz]at this;cases this
 cases m with
 |zero =>
  simp only[vV]at O;split at O
  .rename_i qz;exact zC qz O
  .cases O
 |succ m =>
  have hr0:=O;simp only[vV]at O;split at O
  .rename_i qz;exact zC qz O
  .rename_i i0 rest qz;have hCF:=fun f qy h=>A.aDS (zB f qy h:No P {w0 with hd:=hd1} f qy)
   split at O
   ·
    rename_i qg o hp;obtain⟨qd,D,qT,aFh,aFV⟩:=W3 hp;rw[<-qz]at qd;have zE:E qg=none:=by
     cases qm:E qg with
     |none=>rfl
     |some g =>
      obtain⟨_,zF,d,obj,T,qj,_⟩:=j.early qg g qm;rw[D]at T;cases T;rw[v7 qT]at qj;cases qj
    have xO:=j.ready qd zE;have qA:=(mem_ready.1 xO).1;have xP:oL P C ops o=true:=by unfold oL;rw[qT];rfl
    cases n with
    |zero=>exact absurd (ari (hlt D) qA) (by omega)
    |succ n =>
     have zG:=arh (hlt D) j.szR qA;have fin:∀{v:Value} {qK:Gh} {qB:St},Inv A.root qK qB (a.put o.dst v) w->vV P C (nT.J9 N) ops m (M.setIfInBounds qg true) qB k=some r->(∃xQ:World->Prop,YieldsIf P ops xQ o v a/\∀W B,Sup ops R W->W.getD qg true=false->SI P C ops G w a R W B->xQ B) ->
       Et P ops Q (SI P C ops G w a R) (n+1) R a w:=by
      intro v qK qB ql qe ⟨xQ,H,hS0⟩;obtain⟨xm,xR,qW⟩:=A.aj8 ql;have qt:=xj (m+n) (by omega) m n rfl (M:=M.setIfInBounds qg true) (R:=R.setIfInBounds qg true) (by omega) (by rw[<-qI];cases o.dst<;>simp[Act.put])
       (j.next hfd D zE qA (a':=a.put o.dst v) (fun t qa=>by
        cases hd:o.dst with
        |none=>simp[Act.put]|some d=>exact l3 (fun e=>qa (by rw[hd,e])) v) fun qX=>absurd (hK qX) (by rw[v7 qT];simp)) (j4 _ xm) qe
      refine are D (Region.noSelect_spec jm) (fun c a w hq=>jl c _ _ w hq) (fun l B=>SI.set D xP l B) n R a w ?_ xO H hS0 (SI.refl R R) (vm n (fun W B qL X=>?_) qt)
      .intro qY qZ qn qo xS aFW;exact Region.free_spec D aFh qY qZ qn qo ((j.unM xS (hlt qn)).1) aFW
      .exact SI.step j.szR ((SI.set D xP R w).2 (SI.refl R R)) (fun g I D=>(qW g I D).1) (fun t qa=>awm a o v t (qa qg o D (fI qA))) (aEh j.szR D (v7 qT)) (Sup.set xO) qL X
     rcases W2 A.from O with ⟨qb,xn,xT,u,qh⟩|⟨qb,zH,xn,u,qh⟩
     .rcases aFV with (hro|aFi)|(aFX|hbx)
      .have aFY:H2 xn o=true:=atF xT hro;obtain⟨v,qK,qB,F,ql,qe⟩:=ard qT aFY u qh;exact fin ql qe ⟨_,.inl ⟨qb,F⟩,fun W B _ _ X=>X.2.1⟩
      .rw[awn A aFi]at qb;cases qb
      .obtain⟨v,qK,qB,F,ql,qe⟩:=Y2 qT u qh;refine fin ql qe ⟨fun B=>Below w.heap.size w B,.inl ⟨qb,fun B xa=>F B (vY xa)⟩,fun W B xb xW X=>X.2.2.1 fun c xX qu xY=>?_⟩;have l's:W.size=ops.size:=xb.1.symm.trans j.szR;rw[sM (by rw[l's];exact hlt qu),sM (by rw[j.szR];exact hlt qu)];rcases anR aFX qu xY with xZ|za
       .have zI:R.getD c false=true:=by rw[j.rel,<-sM (by rw[j.szM];exact hlt qu),xZ,YM]
        rw[zI,xb.2.1 c zI]
       .cases qm:R.getD c false with
        |true=>rw[xb.2.1 c qm]
        |false =>
         cases H:W.getD c false with
         |false=>rfl
         |true =>
          refine(PL (R:=R) (i:=qg) (fun d od hd zb xp e F K=>?_) (fI qA) xb (fI xW) 3 c xX qu qm H za).elim;rw[j.rel,fI zb,va]at xp;obtain⟨g,I⟩:=ij.1 xp;obtain⟨_,od',_,_,xq,_,_,xr,_⟩:=j.early d g I;rw[hd]at xq;cases xq;exact xr.2.2 e F K
      .obtain⟨t,x,zK,aFj⟩:=atE hbx;have zL:∀{zA:Nat->Bool} {qM:Nat},HF P C ops M (gy P ops M (List.range ops.size) st) qg zA=true->qM<w.heap.size->G.own qM≠some .hid->(∀qp zc,zA qp=true->look (gy P ops M (List.range ops.size) st).bx qp=some zc->G.hb qp≠qM) ->
         ∀W B,Sup ops R W->W.getD qg true=false->SI P C ops G w a R W B->B.heap[qM]?=w.heap[qM]?:=by
        intro zA qM xu hg0 hnh qo W B xb xW X;refine X.2.2.2 qM hg0 fun c xX qu xY zd hcl=>?_
        rcases akc xu qu xY with xZ|za|⟨qN,qp,xF,hbb,cU,aFZ⟩|⟨qN,y,S,xF,H,qO,qC,qD,hMy,hey⟩
        .have:R.getD c false=true:=by rw[j.rel,<-sM (by rw[j.szM];exact hlt qu),xZ,YM]
         rw[this]at zd;cases zd
        .refine(PL (R:=R) (i:=qg) (fun d od hd zb xp e F K=>?_) (fI qA) xb (fI xW) 3 c xX qu zd hcl za).elim;rw[j.rel,fI zb,va]at xp;obtain⟨g,I⟩:=ij.1 xp;obtain⟨_,od',_,_,xq,_,_,xr,_⟩:=j.early d g I;rw[hd]at xq;cases xq;exact xr.2.2 e F K
        .have zM:=A.ev (.tmp qN);rw[show(gy P ops M (List.range ops.size) st).ev (.tmp qN)=(gy P ops M (List.range ops.size) st).get qN from rfl,hbb]at zM;obtain⟨aEi,hvt⟩:=(show _/\_ from zM);obtain⟨xv,xw⟩:=ij.1 aEi;exact .inl ⟨qN,G.hb qp,xF,fun qY qZ qn qP=>atD aFZ qn ((j.unM (PN qP (by rw[j.szR];exact hlt qn)) (hlt qn)).1),hvt,qo qp xv cU xw⟩
        .cases qv:R.getD y false with
         |false=>exact .inr ⟨qN,y,S,xF,H,qO,qC,qD,qv,hey⟩
         |true =>
          rw[j.rel,fI hMy,va]at qv;obtain⟨g,I⟩:=ij.1 qv;obtain⟨_,oy',ze,obj,zN,_,qf,_,aF0,hh1,_⟩:=j.early y g I;rw[H]at zN;cases zN;rw[qD]at qf;cases qf;have hgh:G.own g=some .hid:=(A.hd g true obj hh1).1;refine .inl ⟨qN,g,xF,fun qY qZ qn qP=>?_,?_,fun e=>hnh (by rw[<-e];exact hgh)⟩
          .refine(kG hfd H qO qD).2 qY qZ qn fun e=>?_
           subst e;rw[j.rel,I]at qP;simp at qP
          .rw[aF0];unfold Pz at qC;unfold mkF;split at qC
           .rename_i zf;rw[zf]
           .cases qC
       rcases aFj with ⟨b,off,zO,xu⟩|⟨id,i,off,b,heo,hbk,hbw,xu⟩
       .obtain⟨v,qK,qB,F,ql,qe⟩:=arj u zK (aCU xT zO) qh;have hrel:=A.ac x;rw[zO]at hrel;obtain⟨aFk,_⟩:=hrel;obtain⟨zc,hlb⟩:=ij.1 aFk;obtain⟨_,_,_,zg,_⟩:=A.bx b zc hlb;have zh:=(A.own _ _ zg).2.1;refine fin ql qe ⟨fun B=>B.heap[G.hb b]?=w.heap[G.hb b]?,.inl ⟨qb,F⟩,zL xu zh (by rw[zg];simp) fun qp xv cU xw e=>?_⟩;obtain⟨_,_,_,xy,_⟩:=A.bx qp xv xw;rw[e,zg]at xy;injection xy with qQ
        injection qQ with qQ
        subst qQ;simp at cU
       .obtain⟨aF1,hbs⟩:=aCV xT heo;obtain⟨g,zP,zh,v,qK,qB,F,ql,qe⟩:=ark u zK aF1 ((hbs id).trans hbk) hbw qh;refine fin ql qe ⟨fun B=>B.heap[g]?=w.heap[g]?,.inl ⟨qb,F⟩,zL xu zh (by rw[zP];simp) fun qp xv _ xw e=>?_⟩;obtain⟨_,_,_,xy,_⟩:=A.bx qp xv xw;rw[e,zP]at xy;injection xy with qQ
        cases qQ
     .exact fin u qh ⟨fun _=>True,.inr ⟨qb,rfl⟩,fun _ _ _ _ _=>trivial⟩
   .rename_i hpn;have zi:∀{B:World},w.heap.size<=B.heap.size->(∀g,g<w.heap.size->G.own g=none->B.heap[g]?=w.heap[g]?)->∀{i:Nat} {q:Oper},ops[i]?=some q->i∈Region.ready .any ops R->(oL P C ops q=true->Below w.heap.size w B)->arf C q a w B->SI P C ops G w a R (R.setIfInBounds i true) B:=by
     intro B qd T i q p u qj h4;refine⟨qd,T,fun xk=>?_,fun k xc xk=>?_⟩
     .cases xz:oL P C ops q with
      |true=>exact qj xz
      |false =>
       have:=xk i q p xz;rw[sM (by simp[j.szR,hlt p]),Ie (by rw[j.szR];exact hlt p),(mem_ready.1 u).1]at this;cases this
     .cases xz:oL P C ops q with
      |true=>exact(qj xz).block k xc
      |false =>
       rcases xk i q p xz (fI (mem_ready.1 u).1) (Ie (by rw[j.szR];exact hlt p)) with ⟨t,g,zj,_,zk,zl⟩|⟨t,y,S,_,_,_,_,_,e6,e,F,K,zm⟩
       .exact h4 t g k zj zk xc (Ne.symm zl)
       .obtain⟨_,zQ,qE,qk⟩:=mem_ready.1 u;rw[p]at qE;cases qE;have:=qk e F K;rw[zm,e6]at this;cases this
    have ahead:ajF P ops M (gy P ops M (List.range ops.size) st) (List.range ops.size)=true->∀Y,n=Y+1->∀(i:Nat) (q:Oper),i∈Region.ready .any ops R->ops[i]?=some q->bA P q=true ->
      wpOp P ops Q i (fun a' B=>SI P C ops G w a R (R.setIfInBounds i true) B/\Et P ops Q (SI P C ops G w a R) Y (R.setIfInBounds i true) a' B) a w:=by
     intro xA Y zn i q u p L;subst zn;obtain⟨qi,zQ,qE,qk⟩:=mem_ready.1 u;rw[p]at qE;cases qE;have zG:=arh (hlt p) j.szR qi;obtain⟨xB,xd⟩:=j.unM qi (hlt p);obtain⟨d,hd,zo,zp,aFl⟩:=PJ (C:=C) (N:=N) L;have hpk:Ka P (gy P ops M (List.range ops.size) st) q=true:=by
      rcases aka xA i (il.2 (hlt p)) q p L xB with qb|xc
      .exfalso;obtain⟨e,F,K,xe,qw,xf,hMe⟩:=awl qb;have:=qk e F K;rw[j.rel,fI hMe,va]at this;obtain⟨g,I⟩:=ij.1 this;obtain⟨_,oe',_,_,zR,zS,_⟩:=j.early e.on g I;rw[qw]at zR;cases zR;rw[xf]at zS;cases zS
      .exact xc
     obtain⟨obj,zp,aF2⟩:=zp A hpk;have zT:∀(y:Nat) (S:Oper),ops[y]?=some S->bA P S=true->(∀e∈S.after,Region.binds .any e=true->R.getD e.on false=true)->aaq S d=true->False:=by intro y S qR qO qD xS;obtain⟨_,e,F,K,zm⟩:=QM hfd qR qO p hd xS;have:=qD e F K;rw[zm,fI qi]at this;cases this
     obtain⟨aF3,zW⟩:=kG hfd p L hd;have xP:oL P C ops q=true:=by unfold oL;rw[L];simp
     unfold Go.wpOp;simp only[p];rw[show Region.wanted q (yielded ops a.tmps)=true by simp[Region.wanted,zo]];simp only[fE];refine .inl (H5 zp ?_);have xa:Below w.heap.size w (w.alloc obj):=⟨rfl,rfl,rfl,by simp,fun k xc=>Below.heap_alloc _ _ _ xc⟩;have qF:=zi xa.size (fun g I _=>xa.block g I) p u (fun _=>xa) (.below xa);have hI2:=(A.aFT obj).aFS (afQ p L xB hd _ st (il.2 (hlt p))) (mkF q w.heap.size);have zq:(a.put q.dst (mkF q w.heap.size)).tmps.size=nt:=by rw[hd,<-qI];simp[Act.put]
     have zr:(a.put q.dst (mkF q w.heap.size)).tmps.getD d undef=mkF q w.heap.size:=by rw[hd];simp[Act.put,Nb,qI,aF3]
     have qG:wa P C N ops w0.hd (fun g=>if g=w.heap.size then some (true,obj) else hd1 g) M (R.setIfInBounds i true) (fun y=>if y=i then some w.heap.size else E y) (a.put q.dst (mkF q w.heap.size)):=by
      refine⟨j.szM,by simpa using j.szR,fun y=>?_,fun y g H=>?_,fun y z g H qH=>?_,fun y S ze qR qX qf qv=>?_,fun g v hv=>?_⟩
      .by_cases Z:y=i
       .subst Z;rw[Ie (by rw[j.szR];exact hlt p),ah rfl];simp
       .rw[getD_set_ne false (Ne.symm Z),j.rel,af Z]
      .by_cases Z:y=i
       .rw[ah Z]at H;cases H;subst Z;refine⟨fI xB,q,d,obj,p,L,hd,⟨aFl,aF2.same fun t qa=>?_,fun e F K=>getD_set_true (qk e F K)⟩,zr,by simp,?_⟩
        .rw[hd];exact l3 (fun e=>zT y q p L qk (by rw[<-e];exact qa)) _
        cases qH:w0.hd w.heap.size with
        |none=>rfl
        |some v =>
         obtain⟨b,ob⟩:=v;have:=(A.hd _ _ _ (j.hd _ _ qH)).2.1;omega
       .rw[af Z]at H;obtain⟨q1,S,zX,aF4,zt,zY,zZ,xG,q6,xg,q8⟩:=j.early y g H;refine⟨q1,S,zX,aF4,zt,zY,zZ,⟨xG.1,xG.2.1.same fun t qa=>?_,fun e F K=>getD_set_true (xG.2.2 e F K)⟩,?_,?_,q8⟩
        .rw[hd];exact l3 (fun e=>zT y S zt zY xG.2.2 (by rw[<-e];exact qa)) _
        .have qo:zX≠d:=fun e=>zW y S zt Z (by rw[zZ,e])
         rw[hd,l3 qo];exact q6
        .have:g≠w.heap.size:=ajz (A.hd _ _ _ xg).2.1;rw[af this];exact xg
      .by_cases Z:y=i
       .rw[ah Z]at H;cases H;by_cases xC:z=i
        .rw[Z,xC]
        .rw[af xC]at qH;obtain⟨_,_,_,_,_,_,_,_,_,xg,_⟩:=j.early z _ qH;exact absurd (A.hd _ _ _ xg).2.1 (SQ _)
       .rw[af Z]at H;by_cases xC:z=i
        .rw[ah xC]at qH;cases qH;obtain⟨_,_,_,_,_,_,_,_,_,xg,_⟩:=j.early y _ H;exact absurd (A.hd _ _ _ xg).2.1 (SQ _)
        .rw[af xC]at qH;exact j.inj y z g H qH
      .by_cases Z:y=i
       .subst Z;rw[p]at qR;cases qR;rw[hd]at qf;cases qf;exact⟨_,zr.trans (aj9 qX _)⟩
       .rw[getD_set_ne false (Ne.symm Z)]at qv;have qo:ze≠d:=fun e=>zW y S qR Z (by rw[qf,e])
        rw[hd,l3 qo];exact j.z y S ze qR qX qf qv
      .obtain⟨b,ob⟩:=v;have ja:=j.hd g _ hv;have:g≠w.heap.size:=ajz (A.hd _ _ _ ja).2.1;rw[af this];exact ja
     have qt:=xj (m+1+Y) (by omega) (m+1) Y rfl (M:=M) (R:=R.setIfInBounds i true) (by omega) zq qG (by rw[hd]at *;exact hI2) hr0;refine⟨qF,vm Y (fun W jb qL X=>SI.step j.szR qF (fun g I D=>?_) (fun t qa=>awm a q _ t (qa i q p (fI qi))) (fun y S t H qO qC qD xh qd=>?_) (Sup.set u) qL X) qt⟩
     .show(if g=w.heap.size then some Key.hid else G.own g)=none;rw[af (ajz I)];exact D
     .by_cases e:i=y
      .subst e;rw[p]at H;cases H;rw[hd]at qD;cases qD;refine⟨⟨w.heap.size,bP _,zr.trans ?_⟩,fun qY qZ qn qP=>(kG hfd p L hd).2 qY qZ qn fun e=>?_⟩
       .unfold Pz at qC;unfold mkF;split at qC
        .rename_i zf;rw[zf]
        .cases qC
       .subst e;rw[Ie (by rw[j.szR];exact hlt p)]at qP;cases qP
      .rw[getD_set_ne false e,xh]at qd;cases qd
    have aFm:∀{xi:Array Bool} {xH:Nat->Option Nat} {qf:Nat->Option (Bool×Obj)} {xI:Gh} {cA:St},wa P C N ops w0.hd qf xi R xH a->Inv {w0 with hd:=qf} xI cA a w->(∀g,g<w.heap.size->G.own g=none->xI.own g=none)->∀Y,n=Y+1->∀(i:Nat) (q:Oper),i∈Region.ready .any ops R->ops[i]?=some q->bA P q=false->xH i=none ->
      Py P C (nT.J9 N) ops.toList q cA (fun st=>vV P C (nT.J9 N) ops m (xi.setIfInBounds i true) st k)=some r ->
      wpOp P ops Q i (fun a' B=>SI P C ops G w a R (R.setIfInBounds i true) B/\Et P ops Q (SI P C ops G w a R) Y (R.setIfInBounds i true) a' B) a w:=by
     intro xi xH qf xI cA qG xK zu Y zn i q u p L xd hr';subst zn;have aF5:=fun f qy h=>xK.aDS (zB f qy h:No P {w0 with hd:=qf} f qy)
     have qi:=(mem_ready.1 u).1;have zG:=arh (hlt p) j.szR qi;unfold Go.wpOp;simp only[p];rcases W2 xK.from hr' with ⟨qb,xn,_,xD,qh⟩|⟨qb,zH,xn,xD,qh⟩
     .rw[qb];simp only[fE];refine .inl (Oper.wp_mono (fun a' B h'=>?_) (awk aF5 xD qh (qG.fresh u p) (qG.dlt hfd qI p)));obtain⟨⟨⟨⟨qK,qB,ql,qe⟩,aF6⟩,jc⟩,zq,jd⟩:=h';obtain⟨xm,xR,qW⟩:=xK.aj8 ql;have qF:=zi xR (fun g I D=>(qW g I (zu g I D)).2) p u aF6 jc.2;have qt:=xj (m+Y) (by omega) m Y rfl (M:=xi.setIfInBounds i true) (R:=R.setIfInBounds i true) (by omega) (zq.trans qI) (qG.next hfd p xd qi jd jc.1) (j4 _ xm) qe;exact⟨qF,vm Y (fun W jb qL X=>SI.step j.szR qF (fun g I D=>(qW g I (zu g I D)).1) (fun t qa=>jd t (qa i q p (fI qi))) (aEh j.szR p L) (Sup.set u) qL X) qt⟩
     .rw[qb];simp only[apa,fD];obtain⟨xm,xR,qW⟩:=xK.aj8 xD;have qF:=zi (bP _) (fun g I D=>rfl) p u (fun _=>Below.refl _ w) (.below (Below.refl _ w));have qt:=xj (m+Y) (by omega) m Y rfl (M:=xi.setIfInBounds i true) (R:=R.setIfInBounds i true) (by omega) (by rw[<-qI];cases q.dst<;>simp[Act.put])
       (qG.next hfd p xd qi (a':=a.put q.dst undef) (fun t qa=>by
        cases hd:q.dst with
        |none=>simp[Act.put]|some d=>exact l3 (fun e=>qa (by rw[hd,e])) undef) fun qX=>by obtain⟨_,_,hgd,_⟩:=PJ (C:=C) (N:=N) (hK qX);simp[Region.wanted,hgd]at qb) (j4 _ xm) qh
      exact⟨qF,vm Y (fun W jb qL X=>SI.step j.szR qF (fun g I D=>(qW g I (zu g I D)).1) (fun t qa=>awm a q undef t (qa i q p (fI qi))) (aEh j.szR p L) (Sup.set u) qL X) qt⟩
    have je:∀(x i:Nat) (q:Oper),E x=none\/ops.size<=x->i∈Region.ready .any ops R->ops[i]?=some q->bA P q=false->i∈Region.ready .any ops (jw P ops x (List.range ops.size) M):=by
     intro x i q qq u p L;obtain⟨qi,zQ,qE,qk⟩:=mem_ready.1 u;rw[p]at qE;cases qE;obtain⟨xB,xd⟩:=j.unM qi (hlt p);refine mem_ready.2 ⟨?_,q,p,fun e F K=>?_⟩
     .rw[nv p (.inl L)];exact xB
     .have:=qk e F K;rw[j.rel,ju]at this;rcases this with xE|hEe
      .exact v8 _ xE
      .obtain⟨g,I⟩:=ij.1 hEe;obtain⟨_,xe,_,_,qw,xf,_⟩:=j.early e.on g I;refine r9 qw xf (fun e'=>?_) _ (by rw[j.szM];exact hlt qw) (il.2 (hlt qw));rcases qq with qq|qq
       .rw[e',qq]at I;cases I
       .have:=hlt qw;omega
    split at O
    ·
     rename_i x o qm;obtain⟨qd,D,xN,xA⟩:=W4 qm;rw[<-qz]at qd;cases qq:E x with
     |some g =>
      obtain⟨T,zF,d,obj,qS,L,_⟩:=j.early x g qq;rw[D]at qS;cases qS;obtain⟨_,_,zo,_,_⟩:=PJ (C:=C) (N:=N) L;have qh:fo P C (nT.J9 N) o (gy P ops M (List.range ops.size) st) (fun st=>vV P C (nT.J9 N) ops m (M.setIfInBounds x true) st k)=some r:=by unfold Py at O;rw[zo]at O;exact O
      obtain⟨hd2,zH,xn,qG,xD,qe,aF7⟩:=ayb (nt:=nt) j A qq D qh;have qt:=xj (m+n) (by omega) m n rfl (M:=M.setIfInBounds x true) (R:=R) aFU qI qG (j4 _ xD) qe;exact vm n (fun W B _ X=>⟨X.1,fun jf hg' qS=>X.2.1 jf hg' (aF7 jf qS),X.2.2⟩) qt
     |none =>
      have zw:=j.ready qd qq;have qA:=(mem_ready.1 zw).1;cases n with
      |zero=>exact absurd (ari (hlt D) qA) (by omega)
      |succ n =>
       refine⟨fun xh=>by(rw[xh]at zw;cases zw),fun i u=>?_⟩;obtain⟨_,q,p,_⟩:=mem_ready.1 u;cases L:bA P q with
       |true=>exact ahead xA n rfl i q u p L
       |false =>
        have hix:=apy xN i (je x i q (.inl qq) u p L);subst hix;rw[D]at p;cases p;exact aFm j A (fun _ _ h=>h) n rfl i o u D L qq O
    ·
     obtain⟨jg,O⟩:=aR O;rw[aD]at jg;obtain⟨xA,hff⟩:=jg;obtain⟨qo,hbr⟩:=akf O;obtain⟨i0,hi0⟩:∃i0,i0∈ai5 P ops M:=by
      cases hrn:ai5 P ops M with
      |nil=>rw[hrn]at qo;exact absurd rfl qo|cons i0 _=>exact⟨i0,J5⟩
     obtain⟨zx,zy,qx,aEj⟩:=mem_ready.1 hi0;have xL:bA P zy=false:=by
      cases xL:bA P zy with
      |false=>rfl
      |true =>
       have:=r9 qx xL (ajz (hlt qx)) (List.range ops.size) (by rw[j.szM];exact hlt qx) (il.2 (hlt qx));rw[fI zx]at this;cases this
     have jh:R.getD i0 true=false:=by
      rw[nv qx (.inl xL)]at zx;refine PN ?_ (by rw[j.szR];exact hlt qx);rw[j.rel,fI zx,va];cases qm:E i0 with
      |none=>rfl
      |some g =>
       obtain⟨_,zF,_,_,qS,ji,_⟩:=j.early i0 g qm;rw[qx]at qS;cases qS;rw[xL]at ji;cases ji
     cases n with
     |zero=>exact absurd (ari (hlt qx) jh) (by omega)
     |succ n =>
      refine⟨fun xh=>?_,fun i u=>?_⟩
      .exfalso;have aF8:∀(y:Nat) (S:Oper),ops[y]?=some S->bA P S=true->R.getD y false=true:=by
        intro y S H qO;cases qv:R.getD y false with
        |true=>rfl
        |false =>
         exfalso;have hy1:=j.unM (PN qv (by rw[j.szR];exact hlt H)) (hlt H);have:=hD.1 hff y (il.2 (hlt H));rw[H]at this;dsimp only at this;rw[qO,hy1.1]at this;simp only[aG,va]at this;have:y∈Region.ready .any ops R:=mem_ready.2 ⟨PN qv (by rw[j.szR];exact hlt H),S,H,fun e F K=>by have T:=Array.all_eq_true'.1 this e F;rw[K]at T;simp only[aG,va]at T;rw[j.rel,T,YM]⟩
         rw[xh]at this;cases this
       have:i0∈Region.ready .any ops R:=mem_ready.2 ⟨jh,zy,qx,fun e F K=>by
        have T:=aEj e F K;cases xE:M.getD e.on false with
        |true=>rw[j.rel,xE,YM]
        |false =>
         have zz:e.on<ops.size:=by
          rcases QJ e.on ops.size with h|h
          .exact h
          .exfalso;rw[Ga (avL h),xE]at T;cases T
         obtain⟨xe,qw⟩:∃xe,ops[e.on]?=some xe:=⟨_,axM zz⟩;cases xf:bA P xe with
         |true=>exact aF8 e.on xe qw xf
         |false =>
          exfalso;rw[<-sM (by rw[F9,j.szM];exact zz),nv qw (.inl xf),sM (by rw[j.szM];exact zz),xE]at T;cases T⟩
       rw[xh]at this;cases this
      .obtain⟨_,q,p,qk⟩:=mem_ready.1 u;cases L:bA P q with
       |true=>exact ahead xA n rfl i q u p L
       |false =>
        have hnf:i∈ai5 P ops M:=je ops.size i q (.inr (bP _)) u p L;have qj:=hbr _ (HY.2 ⟨i,hnf,rfl⟩);rw[p]at qj;dsimp only at qj;have xd:E i=none:=(j.unM (mem_ready.1 u).1 (hlt p)).2;obtain⟨xi,xH,qf,xI,cA,zj,qQ,zk,zl,e5⟩:=ake (aAF P ops M q) (List.nodup_range.filter _) (fun y H=>by
         obtain⟨_,xM⟩:=List.mem_filter.1 H;split at xM
         .rename_i S qR;simp only[aD,afD]at xM;obtain⟨⟨_,xr⟩,h6⟩:=xM;obtain⟨e,F,K⟩:=apc.1 h6;rw[aD]at K;have jk:=qk e F K.1;rw[aI K.2,j.rel,fI xr,va]at jk;exact jk
         .cases xM) j (j4 _ A) qj
        exact aFm zj qQ (fun g _ h=>zl g h) n rfl i q u p L (e5 i xd) zk
def anS (j:∀f e,C f=some e->No P w0 f e){Q:Exit->Act->World->Prop}(l:∀c a m w,Q (.panic c) a w->Q (.panic c) m w)(n:Region.noSelect ops=true)(hfd:pB P ops st.nt=true){k:St->Option U}(p:pD w0 k r (Q .normal))
  (h:Inv w0 G st a w) (q:vV P C (nT.J9 N) ops ops.size (Array.replicate ops.size false) st k=some r):wpAny P .any ops Q ops.size (Array.replicate ops.size false) a w:=by
 refine aj6 _ _ _ _ (aA3 (hd1:=w0.hd) (E:=fun _=>none) j l n hfd p _ _ _ rfl ?_ h.size ⟨by simp,by simp,fun i=>(by simp),fun x g b=>(by cases b),fun x y g b=>(by cases b),fun x s d _ _ _ b=>absurd b (by rw[aA2];simp),fun _ _ h=>h⟩ (j4 _ h) q);refine cj avP ?_;simp
end
end
end Go.Am
