/- No condition. -/
import Derived.Test.YtpkabclplaibaaaGreatDoorQhAmDraw
import Derived.Test.YtpkabclplaibaaaGreatDoorQhAmKeep
import Derived.OrdersHeld
set_option linter.all false
namespace Go.Am
open Go.RowKit
variable [ds]
section
variable {N:Nat} {P:Program} {C:FuncId->Option Any} {w0:di} {w:World} {G:Gh} {st:St} {a:Act} {U:Type} {r:U} {o:Oper}
def VH (ops:Array Oper)(l b:Array Bool):Prop :=
 l.size=b.size/\(∀i,l.getD i false=true->b.getD i false=true) /\
  ∀i o,ops[i]?=some o->l.getD i false=false->b.getD i false=true->∀e∈o.after,Region.binds .any e=true->b.getD e.on false=true
def VH.refl (ops:Array Oper)(l:Array Bool):VH ops l l:=⟨rfl,fun _ h=>h,fun _ _ _ h b=>by rw[h]at b;cases b⟩
def VH.trans {ops:Array Oper}{a b c:Array Bool}(h:VH ops a b)(k:VH ops b c):VH ops a c :=
 ⟨h.1.trans k.1,fun i l=>k.2.1 i (h.2.1 i l),fun i o d m n e f g=>by
  cases j:b.getD i false with
  |true=>exact k.2.1 _ (h.2.2 i o d m j e f g)|false=>exact k.2.2 i o d j n e f g⟩
def VH.set {ops:Array Oper}{l:Array Bool}{i:Nat}(f:i∈Region.ready .any ops l):VH ops l (l.setIfInBounds i true):=by
 refine⟨by simp,fun _ h=>getD_set_true h,fun g o j k b e m n=>?_⟩;by_cases c:i=g
 .subst c;obtain⟨_,q,d,p⟩:=mem_ready.1 f;rw[j]at d;cases d;exact getD_set_true (p e m n)
 .rw[getD_set_ne false c,k]at b;cases b
def n0 {l:Array Bool}{i:Nat}(h:i<l.size):l.getD i true=l.getD i false:=by simp[E8,h]
def x6 (P:Program)(ops:Array Oper)(Q:Exit->Act->World->Prop)(S:Array Bool->World->Prop):Nat->Array Bool->Act->World->Prop
 |0,l,a,w=>Region.ready .any ops l=[]/\Q .normal a w
 |n+1,l,a,w =>
  (Region.ready .any ops l=[]->Q .normal a w) /\
  ∀i∈Region.ready .any ops l,wpOp P ops Q i (fun c b=>S (l.setIfInBounds i true) b/\x6 P ops Q S n (l.setIfInBounds i true) c b) a w
def WK {ops:Array Oper}{Q:Exit->Act->World->Prop}{S:Array Bool->World->Prop}:∀(n:Nat) (l:Array Bool) (a:Act) (w:World),x6 P ops Q S n l a w->wpAny P .any ops Q n l a w
 |0,_,_,_,h=>h|n+1,_,_,_,h=>⟨h.1,fun i b=>wpOp_mono (fun c d e=>WK n _ c d e.2) (h.2 i b)⟩
def pL {ops:Array Oper}{Q:Exit->Act->World->Prop}{S e:Array Bool->World->Prop}:∀(n:Nat) {l:Array Bool} {a:Act} {w:World},(∀b c,VH ops l b->e b c->S b c)->x6 P ops Q e n l a w->x6 P ops Q S n l a w
 |0,_,_,_,_,h=>h|n+1,l,_,_,f,h=>⟨h.1,fun i d=>wpOp_mono (fun k c g=>⟨f _ _ (VH.set d) g.1,pL n (fun b c j=>f b c ((VH.set d).trans j)) g.2⟩) (h.2 i d)⟩
def aey {ops:Array Oper}{Q:Exit->Act->World->Prop}{S:Array Bool->World->Prop}{l:Array Bool}{a:Act}{w:World}(b:Region.ready .any ops l=[])(h:Q .normal a w):∀n,x6 P ops Q S n l a w
 |0=>⟨b,h⟩|_+1=>⟨fun _=>h,by rw[b];simp⟩
def acA {ops:Array Oper}{Q:Exit->Act->World->Prop}{S:Array Bool->World->Prop}{I:World->Prop}{i:Nat}{g:Oper}{v:Value}(z:ops[i]?=some g)
  (K:∀(j:Nat) (o:Oper) cs b,ops[j]?=some o->o.op≠.select cs b) (Z:∀c a w,Q (.panic c) (a.put g.dst v) w->Q (.panic c) a w) (A:∀l w,S (l.setIfInBounds i true) w↔S l w) :
  ∀(u:Nat) (l:Array Bool) (a:Act) (w:World),
   (∀j m,ops[j]?=some m->j≠i->l.getD j true=false->(∀e∈m.after,Region.binds .any e=true->e.on≠i)->g.apart ops m=true) ->
   i∈Region.ready .any ops l->YieldsIf P ops I g v a->(∀p q,VH ops l p->p.getD i true=false->S p q->I q)->S l w ->
   x6 P ops Q S u (l.setIfInBounds i true) (a.put g.dst v) w->x6 P ops Q S (u+1) l a w:=by
 intro u
 induction u with
 |zero =>
  intro l a w _ d x y s H;refine⟨fun h=>(by rw[h]at d;cases d),fun j t=>?_⟩;by_cases f:j=i
  .subst f;exact x.wpOp z (y l w (VH.refl ops l) (mem_ready.1 d).1 s) ⟨(A l w).2 s,H⟩
  .have:=ready_mono t f;rw[H.1]at this;cases this
 |succ u qa =>
  intro l a w L d x y s H;refine⟨fun h=>(by rw[h]at d;cases d),fun j t=>?_⟩;by_cases f:j=i
  .subst f;exact x.wpOp z (y l w (VH.refl ops l) (mem_ready.1 d).1 s) ⟨(A l w).2 s,H⟩
  .have n:=H.2 j (ready_mono t f);obtain⟨O,m,B,qb⟩:=mem_ready.1 t;have qd:∀e∈m.after,Region.binds .any e=true->e.on≠i:=fun e qe qf qg=>by
    have n:=qb e qe qf;have T:=(mem_ready.1 d).1;rw[qg]at n;rcases Tj i l.size with D|D
    .rw[n0 D]at T;rw[T]at n;cases n
    .simp[agI D]at n
   have qh:=wpOp_putIf B (L j m B f O qd) (fun cs b=>K i g cs b z) (fun cs b=>K j m cs b B) Z x n;have qi:∀k ok,ops[k]?=some ok->k≠i->(l.setIfInBounds j true).getD k true=false ->
     (∀e∈ok.after,Region.binds .any e=true->e.on≠i)->g.apart ops ok=true:=fun k ok qj qk W ql=>by
    refine L k ok qj qk ?_ ql;by_cases X:j=k
    .subst X;exact O
    .rw[getD_set_ne true X]at W;exact W
   refine wpOp_mono (fun qm q F=>?_) qh;have Y:S (l.setIfInBounds j true) q:=by have:=F.2.1;rw[Array.setIfInBounds_comm _ _ (Ne.symm f)]at this;exact(A _ _).1 this
   refine⟨Y,qa (l.setIfInBounds j true) qm q qi (ready_mono d (Ne.symm f)) F.1 (fun p qn qo=>y p qn ((VH.set t).trans qo)) Y ?_⟩;rw[Array.setIfInBounds_comm _ _ f];exact F.2.2
def Off (C:FuncId->Option Any)(ops:Array Oper)(a:Act)(d:Array Bool)(k:Nat)(e:Oper):Prop :=
 ∃t g,Jf C e=some t/\(∀b c,ops[b]?=some c->d.getD b false=false->c.dst≠some t)/\a.tmps.getD t undef=.pointer (some ⟨g,0,none⟩)/\g≠k
def FrB (P:Program)(C:FuncId->Option Any)(ops:Array Oper)(d:Array Bool)(c:Oper):Prop :=
 ∃t x b,Jf C c=some t/\ops[x]?=some b/\bb P b=true/\GH b=true/\b.dst=some t/\d.getD x false=false/\∃e∈c.after,Region.binds .any e=true/\e.on=x
def SI (P:Program)(C:FuncId->Option Any)(ops:Array Oper)(G:Gh)(w:World)(a:Act)(d l:Array Bool)(w':World):Prop :=
 w.heap.size<=w'.heap.size/\(∀g,g<w.heap.size->G.own g=none->w'.heap[g]?=w.heap[g]?) /\
  ((∀c b,ops[c]?=some b->lv P C ops b=false->l.getD c true=d.getD c true)->Below w.heap.size w w') /\
  ∀k,k<w.heap.size->(∀c b,ops[c]?=some b->lv P C ops b=false->d.getD c false=false->l.getD c false=true->Off C ops a d k b\/FrB P C ops d b)->w'.heap[k]?=w.heap[k]?
def SI.refl {ops:Array Oper}(b l:Array Bool):SI P C ops G w a b l w:=⟨bq _,fun _ _ _=>rfl,fun _=>Below.refl _ w,fun _ _ _=>rfl⟩
def SI.set {ops:Array Oper}{n:Array Bool}{i:Nat}{p:Oper}(s:ops[i]?=some p)(t:lv P C ops p=true)(l:Array Bool)(w':World):SI P C ops G w a n (l.setIfInBounds i true) w'↔SI P C ops G w a n l w':=by
 have ne:∀c b,ops[c]?=some b->lv P C ops b=false->i≠c:=by intro c b d e;rintro rfl;rw[s]at d;cases d;rw[t]at e;cases e
 have key:∀c b,ops[c]?=some b->lv P C ops b=false->(l.setIfInBounds i true).getD c true=l.getD c true:=fun c b d e=>getD_set_ne true (ne c b d e)
 have q:∀c b,ops[c]?=some b->lv P C ops b=false->(l.setIfInBounds i true).getD c false=l.getD c false:=fun c b d e=>getD_set_ne false (ne c b d e)
 refine⟨fun h=>⟨h.1,h.2.1,fun f=>h.2.2.1 fun c b d e=>(key c b d e).trans (f c b d e),fun k g f=>h.2.2.2 k g fun c b d e j m=>f c b d e j (by rw[<-q c b d e];exact m)⟩,
  fun h=>⟨h.1,h.2.1,fun f=>h.2.2.1 fun c b d e=>((key c b d e).symm.trans (f c b d e)),fun k g f=>h.2.2.2 k g fun c b d e j m=>f c b d e j (by rw[q c b d e];exact m)⟩⟩
def SI.step {ops:Array Oper}{f d y:Array Bool}{w1 S:World}{T:Gh}{F:Act}(Y:f.size=ops.size)(h:SI P C ops G w a f d w1)(Z:∀g,g<w.heap.size->G.own g=none->T.own g=none)
  (qa:∀t,(∀i l,ops[i]?=some l->f.getD i false=false->l.dst≠some t)->F.tmps.getD t undef=a.tmps.getD t undef) (qb:∀x m t,ops[x]?=some m->bb P m=true->GH m=true->m.dst=some t->f.getD x false=false->d.getD x false=true->(∃g,w.heap.size<=g/\F.tmps.getD t undef=.pointer (some ⟨g,0,none⟩))/\∀i l,ops[i]?=some l->d.getD i false=false->l.dst≠some t)
  (H:VH ops f d) (I:VH ops d y) (z:SI P C ops T w1 F d y S):SI P C ops G w a f y S:=by
 refine⟨aL h.1 z.1,fun g K W=>(z.2.1 g (wa K h.1) (Z g K W)).trans (h.2.1 g K W),fun q=>?_,fun k s q=>?_⟩
 .have mid:∀c e,ops[c]?=some e->lv P C ops e=false->d.getD c true=f.getD c true:=by
   intro c e b j;have hlt:c<ops.size:=(nj.1 b).1;have L:=q c e b j;have qd:d.size=ops.size:=H.1.symm.trans Y;have ql:y.size=ops.size:=I.1.symm.trans qd;rw[n0 (by omega),n0 (by omega)]at L ⊢;cases n:f.getD c false with
   |true=>exact H.2.1 c n
   |false =>
    cases qe:d.getD c false with
    |false=>rfl
    |true =>
     rw[I.2.1 c qe,n]at L;cases L
  have p:=h.2.2.1 mid;have u:=z.2.2.1 fun c e b j=>(q c e b j).trans (mid c e b j).symm
  exact⟨u.os.trans p.os,u.tape.trans p.tape,u.output.trans p.output,aL p.size u.size,fun k s=>(u.block k (wa s p.size)).trans (p.block k s)⟩
 .have aqP:∀c,d.getD c false=false->f.getD c false=false:=by
   intro c b;cases n:f.getD c false with
   |false=>rfl|true=>rw[H.2.1 c n]at b;cases b
  refine(z.2.2.2 k (wa s h.1) fun c e b j O Q=>?_).trans (h.2.2.2 k s fun c e b j O Q=>q c e b j O (I.2.1 c Q));rcases q c e b j (aqP c O) Q with ⟨t,g,A,v,B,D⟩|⟨t,x,m,A,v,B,D,X,qf,qg⟩
  .exact .inl ⟨t,g,A,fun i l qh qi=>v i l qh (aqP i qi),(qa t v).trans B,D⟩
  .cases n:d.getD x false with
   |false=>exact .inr ⟨t,x,m,A,v,B,D,X,n,qg⟩
   |true =>
    obtain⟨⟨g,qm,qj⟩,qk⟩:=qb x m t v B D X qf n;exact .inl ⟨t,g,A,qk,qj,by omega⟩
def Inv.akk (h:Inv w0 G st a w){d g:Nat}(z:look st.bx d=none)(qe:d<st.nt)(p:G.own g=some .hid)(K:w0.hd g=none){cs:Array Value}{e:TypeId}(L:w.heap[g]?=some (.cells cs e (0,0))){l:List AC}
  (O:bD (a7 G w st.bx st.bl) l cs.toList) (Q:a.tmps.getD d undef=.pointer (some ⟨g,0,none⟩)) :
  Inv w0 (G.box d g) {(st.put d (.v (.c (.ptr d 0)))) with bx:=(d,l)::st.bx} a w:=by
 have q:Wl G w (G.box d g) w:=⟨rfl,rfl,bq _,fun b D A=>⟨by
  have:b≠g:=by rintro rfl;rw[p]at A;cases A
  simp[Gh.box,this,A],rfl⟩⟩
 have S:∀x,(look st.bx x).isSome=true->x≠d:=by rintro x c rfl;rw[z]at c;cases c
 have c:gw G st.bx st.bl (G.box d g) ((d,l)::st.bx) st.bl:=by refine⟨fun x c=>⟨iY _ trivial c,by simp[Gh.box,S x c]⟩,fun id z=>⟨z,rfl,fun T W=>⟨T,W,rfl⟩⟩⟩
 refine⟨h.nw,h.Pt,h.below,h.defers,h.size,eK.ib q c h.sp,fun f b o i=>?_,fun t v s=>?_,fun x m i=>?_,fun id b D=>?_,fun f k y=>?_⟩
 .obtain⟨u,j,n⟩:=h.hd f b o i;refine⟨?_,j,n⟩;have:f≠g:=by rintro rfl;rw[K]at i;cases i
  simp only[Gh.box,this,eo];exact u
 .simp only[St.put,ai]at s;by_cases F:d=t
  .subst F;rw[aj rfl]at s;cases s;rw[Q];exact⟨by simp[ai],by simp[Gh.box]⟩
  .rw[ag F]at s;exact eK.ib q c (h.tm t v s)
 .simp only[ai]at i;by_cases B:d=x
  .subst B;rw[aj rfl]at i;cases i;exact⟨cs,e,by simpa [Gh.box]using L,by simp[Gh.box],O.imp fun _ _=>a7.ib q c⟩
  .rw[ag B]at i;obtain⟨X,Y,u,j,n⟩:=h.bx x m i;have H:x≠d:=fun e=>B e.symm
   have Z:G.hb x≠g:=by intro qa;rw[qa,p]at j;cases j
   exact⟨X,Y,by simpa [Gh.box,H]using u,by simp[Gh.box,H,Z,j],n.imp fun _ _=>a7.ib q c⟩
 .refine(h.bl id b D).ib q rfl fun qf f qg aS=>⟨?_,rfl⟩
  have:f≠g:=by rintro rfl;rw[p]at aS;cases aS
  simp[Gh.box,this,aS]
 .by_cases I:f=g
  .subst I;simp only[Gh.box,eJ]at y;cases y;exact⟨(h.own f _ p).1,(h.own f _ p).2.1,by simp[ai],by simp[Gh.box]⟩
  .simp only[Gh.box,I,eo]at y;obtain⟨u,j,n⟩:=h.own f k y;refine⟨u,j,?_⟩;cases k with
   |hid=>trivial
   |bx x =>
    obtain⟨qb,qd⟩:=c.bx x n.1;exact⟨qb,by rw[qd];exact n.2⟩
   |bl id=>exact n
def Gh.rowAt (G:Gh)(id g:Nat)(v:Value):Gh :=
 {nw:=G.nw,ok:=G.ok,hb:=G.hb,hv:=fun x=>if x=id then v else G.hv x,own:=fun x=>if x=g then some (.bl id) else G.own x}
def Inv.akl (h:Inv w0 G st a w){d g:Nat}(W:look st.bl (d*64)=none)(qm:d<st.nt)(q:G.own g=some .hid)(X:w0.hd g=none){e:TypeId}{cs:List Value}(Y:w.heap[g]?=some (.cells cs.toArray e (0,0))){u:Ty}(Z:0<u.n){n:Nat}{xs:List u.D}{f:Bool}
  (I:xs.length=n) (D:cs.length=xs.length*u.n) (qa:n<=maxLen) (qb:dx w (RO G f) u cs xs)
  (qd:a.tmps.getD d undef=.slice (some ⟨g,0,none⟩) n n) :
  Inv w0 (G.rowAt (d*64) g (.slice (some ⟨g,0,none⟩) n n)) {(st.put d (.v (.c (.own (d*64) none)))) with bl:=(d*64,some ⟨e,u,xs,f,true⟩)::st.bl} a w:=by
 have s:Wl G w (G.rowAt (d*64) g (.slice (some ⟨g,0,none⟩) n n)) w:=⟨rfl,rfl,bq _,fun b p F=>⟨by
  have:b≠g:=by rintro rfl;rw[q]at F;cases F
  simp[Gh.rowAt,this,F],rfl⟩⟩
 have K:∀x,(look st.bl x).isSome=true->x≠d*64:=by rintro x c rfl;rw[W]at c;cases c
 have c:gw G st.bx st.bl (G.rowAt (d*64) g (.slice (some ⟨g,0,none⟩) n n)) st.bx ((d*64,some ⟨e,u,xs,f,true⟩)::st.bl):=by refine⟨fun x c=>⟨c,rfl⟩,fun id c=>⟨iY _ trivial c,by simp[Gh.rowAt,K id c],fun qe L=>?_⟩⟩;rw[ai,ag (fun e=>K id c e.symm)]at L;exact⟨qe,L,rfl⟩
 refine⟨h.nw,h.Pt,h.below,h.defers,h.size,eK.ib s c h.sp,fun i b o y=>?_,fun t v z=>?_,fun x m y=>?_,fun id b p=>?_,fun i k B=>?_⟩
 .obtain⟨A,j,l⟩:=h.hd i b o y;refine⟨?_,j,l⟩;have:i≠g:=by rintro rfl;rw[X]at y;cases y
  simp only[Gh.rowAt,this,eo];exact A
 .simp only[St.put,ai]at z;by_cases O:d=t
  .subst O;rw[aj rfl]at z;cases z;rw[qd];exact⟨by simp[ai],⟨some ⟨g,0,none⟩,n,n,by simp[Gh.rowAt]⟩,by simp[Gh.rowAt]⟩
  .rw[ag O]at z;exact eK.ib s c (h.tm t v z)
 .obtain⟨qf,qg,A,j,l⟩:=h.bx x m y;have qh:G.hb x≠g:=by intro qi;rw[qi,q]at j;cases j
  exact⟨qf,qg,A,by simp[Gh.rowAt,qh,j],l.imp fun _ _=>a7.ib s c⟩
 .simp only[ai]at p;by_cases H:d*64=id
  .subst H;rw[aj rfl]at p;cases p;refine⟨fun _=>⟨cs,⟨D,.inr ⟨g,n,cs.toArray,by simp[Gh.rowAt,I],a1 _,Y,by show xs.length<=n;omega,qa,by simp[D,I],?_⟩⟩,fun i Q=>?_,qb.ib s⟩,(fun S=>by cases S),Z⟩
   .show List.take (xs.length*u.n) cs.toArray.toList=cs;rw[<-D];simp
   .simp only[Gh.rowAt,eJ,Value.ownBlock]at Q ⊢;cases Q;simp
  .rw[ag H]at p;have qj:id≠d*64:=fun e=>H e.symm
   refine(h.bl id b p).ib s (by simp[Gh.rowAt,qj]) fun S i qn aS=>⟨?_,rfl⟩
   have:i≠g:=by rintro rfl;rw[q]at aS;cases aS
   simp[Gh.rowAt,this,aS]
 .by_cases T:i=g
  .subst T;simp only[Gh.rowAt,eJ]at B;cases B;exact⟨(h.own i _ q).1,(h.own i _ q).2.1,by simp[ai],by simp[Gh.rowAt,Value.ownBlock]⟩
  .simp only[Gh.rowAt,T,eo]at B;obtain⟨A,j,l⟩:=h.own i k B;refine⟨A,j,?_⟩;cases k with
   |hid=>trivial|bx x=>exact l
   |bl id =>
    obtain⟨qk,ql,_⟩:=c.bl id l.1;exact⟨qk,by rw[ql];exact l.2⟩
def ju {d t:Nat}(h:t≠d)(u:Value):(a.put (some d) u).tmps.getD t undef=a.tmps.getD t undef:=by simp[Act.put,E8,aiD,Ne.symm h]
def Inv.arE (h:Inv w0 G st a w){d:Nat}(c:look st.tm d=none)(u:Value):Inv w0 G st (a.put (some d) u) w:=by refine {h with defers:=h.defers,size:=by simp[Act.put,h.size],tm:=fun t v b=>?_};rw[ju (by rintro rfl;rw[c]at b;cases b)];exact h.tm t v b
def Inv.arF (h:Inv w0 G st a w)(o:Obj) :
  Inv {w0 with hd:=fun g=>if g=w.heap.size then some (true,o) else w0.hd g} {G with own:=fun g=>if g=w.heap.size then some .hid else G.own g} st a (w.alloc o):=by
 have q:∀b,b<w.heap.size->b≠w.heap.size:=fun b f=>V8 f
 have GJ:∀b,b<w.heap.size->(w.alloc o).heap[b]?=w.heap[b]?:=fun b f=>by show(w.heap.push o)[b]?=_;rw[Array.getElem?_push,ag (q b f)]
 have H:(w.alloc o).heap.size=w.heap.size+1:=by show(w.heap.push o).size=_;rw[Array.size_push]
 have s:Wl G w {G with own:=fun g=>if g=w.heap.size then some .hid else G.own g} (w.alloc o):=⟨rfl,rfl,by omega,fun b f u=>⟨by simp[q b f,u],GJ b f⟩⟩;have y:gw G st.bx st.bl {G with own:=fun g=>if g=w.heap.size then some .hid else G.own g} st.bx st.bl:=⟨fun _ h=>⟨h,rfl⟩,fun _ h=>⟨h,rfl,fun z A=>⟨z,A,rfl⟩⟩⟩;refine⟨h.nw,h.Pt,h.below.step rfl rfl rfl (by omega) fun k i _=>GJ k (wa i h.below.size),h.defers,h.size,eK.ib s y h.sp,fun g b B m=>?_,fun t v D=>eK.ib s y (h.tm t v D),fun d l F=>?_,fun id b f=>?_,fun g k i=>?_⟩
 .dsimp only at m;by_cases c:g=w.heap.size
  .rw[aj c]at m;cases m;subst c;exact⟨by simp[aiS],by omega,by show(w.heap.push o)[w.heap.size]?=_;rw[Array.getElem?_push,aj rfl]⟩
  .rw[ag c]at m;obtain⟨n,p,j⟩:=h.hd g b B m;exact⟨by simp[c,n],by omega,(GJ g p).trans j⟩
 .obtain⟨cs,e,n,p,j⟩:=h.bx d l F;have hlt:=(h.own _ _ p).2.1;exact⟨cs,e,(GJ _ hlt).trans n,by simp[q _ hlt,p],j.imp fun _ _=>a7.ib s y⟩
 .exact wh.ib s rfl (fun I g c u=>by have hlt:=(h.own _ _ u).2.1;exact⟨by simp[q _ hlt,u],GJ _ hlt⟩) (h.bl id b f)
 .dsimp only at i;by_cases c:g=w.heap.size
  .rw[aj c]at i;cases i;exact⟨.inl (by rw[c];exact h.below.size),by omega,trivial⟩
  .rw[ag c]at i;obtain⟨n,p,j⟩:=h.own g k i;refine⟨n,by omega,?_⟩;cases k with
   |hid=>trivial|bx x=>exact j|bl id=>exact j
def Bn {V:Type}(t s:Nat):∀l:List (Nat×V),look (l.filter fun p=> !Nat.beq p.1 t) s=if s=t then none else look l s
 |[]=>by simp[look]
 |(k,v)::l=>by
  have d:=Bn t s l;by_cases c:k=t
  .have:(!Nat.beq (k,v).1 t)=false:=by simp[c]
   rw[List.filter_cons_of_neg (by simp[this]),d,ai];by_cases b:s=t
   .simp[b]
   .simp[b,c,Ne.symm b]
  .have e:(!Nat.beq (k,v).1 t)=true:=by
    cases h:Nat.beq k t with
    |true=>exact absurd (aA h) c|false=>simp[h]
   rw[List.filter_cons_of_pos (p:=fun p:Nat×V=> !Nat.beq p.1 t) e,ai,ai,d];by_cases b:s=t
   .simp[b,c]
   .simp[b]
def Inv.an1 (h:Inv w0 G st a w)(t:Tmp):Inv w0 G (st.drop t) a w:=by
 refine {h with tm:=fun s v b=>h.tm s v ?_};unfold St.drop at b;dsimp only at b;rw[Bn]at b;split at b
 .cases b
 .exact b
def gV {ops:Array Oper}{l:Array Bool}:∀(b:List Nat) {st:St},Inv w0 G st a w->Inv w0 G (eW P ops l b st) a w
 |[],_,h=>h|i::b,st,h=>by
  unfold eW;split
  .split
   .exact(gV b h).an1 _
   .exact gV b h
  .exact gV b h
def Tt {ops:Array Oper}{l:Array Bool}{x:Nat}{o:Oper}{d:Tmp}(e:ops[x]?=some o)(f:bb P o=true)(g:l.getD x true=false)(j:o.dst=some d):∀(b:List Nat) (st:St),x∈b->look (eW P ops l b st).tm d=none
 |[],_,h=>by cases h
 |i::b,st,h=>by
  unfold eW;rcases c7.1 h with rfl|h
  .rw[e];simp only[f,g,j,h9,Bool.and_self];show look (List.filter _ _) d=none;rw[Bn,aj rfl]
  .have c:=Tt e f g j b st h;split
   .split
    .show look (List.filter _ _) d=none;rw[Bn];split
     .rfl
     .exact c
    .exact c
   .exact c
def mkF (o:Oper)(g:Nat):Value:=match o.op with
 |.alloc _=>.pointer (some ⟨g,0,none⟩)|.buildSlice _ len _=>.slice (some ⟨g,0,none⟩) len len|_=>undef
def WL (P:Program)(o:Oper)(a:Act)(b:Obj):Prop:=match o.op with
 |.alloc t=>∃i v,P.info? t=some i/\i.zero=some v/\b=.cells v.cells t (0,0)|.buildSlice t _ parts=>∃e,wg P t=some e/\b=.cells (RE a parts.toList).toArray e (0,0)|_=>False
def Tu {a a':Act}:∀{l:List (Nat×Operand)},(∀p∈l,∀s,p.2=.tmp s->a'.tmps.getD s undef=a.tmps.getD s undef)->RE a' l=RE a l
 |[],_=>rfl|(b,x)::l,h=>by
  have c:a'.eval x=a.eval x:=by
   cases x with
   |tmp s=>exact h (b,.tmp s) (by simp) s rfl
   |_=>rfl
  simp only[RE,c,Tu fun p d=>h p (h8 _ d)]
def WL.same {a a':Act}{c:Obj}(h:WL P o a c)(b:∀t,Pr o t=true->a'.tmps.getD t undef=a.tmps.getD t undef):WL P o a' c:=by
 unfold WL at h ⊢;unfold Pr at b;split at h
 .exact h
 .rename_i t len parts d;simp only[d]at b;obtain⟨e,f,g⟩:=h;refine⟨e,f,?_⟩;rw[Tu (a:=a)]
  .exact g
  .intro p i s j;exact b s (List.any_eq_true.2 ⟨p,i,by rw[j];simp⟩)
 .exact h
def ao3 (P:Program)(C:FuncId->Option Any)(N:Nat)(o:Oper)(d:Tmp):Prop :=
 ∀{w0:di} {G:Gh} {st:St} {a:Act} {w:World} {g:Nat} {e:Obj} {U:Type} {k:St->Option U} {r:U},Inv w0 G st a w->G.own g=some .hid->w0.hd g=none->w.heap[g]?=some e->WL P o a e->a.tmps.getD d undef=mkF o g ->
  ec P C (kk.CX N) o st k=some r->∃c bV,Inv w0 c bV a w/\k bV=some r/\(∀b,G.own b=none->c.own b=none)
def PL:∀{l:List AC} {st:St},pG l=true->st.freeze l=st
 |[],_,_=>rfl|c::l,st,h=>by
  have b:st.cU c=st:=by cases c<;>first|rfl|(simp[pG]at h)
  have d:pG l=true:=by cases c<;>first|exact h|(simp[pG]at h)
  show List.foldl St.cU (st.cU c) l=st;rw[b];exact PL d
def aa0 {l m:List AC}(b:pG l=true)(d:pG m=true):pG (l++m)=true:=by
 induction l with
 |nil=>exact d|cons c l e=>cases c<;>first|exact e b|(simp[pG]at b)
def Oe:∀{t:Ty} {l r:List AC} {x:t.D},flat t=true->im st t l=some (x,r)->∃p,l=p++r/\pG p=true
 |.int k,[],_,_,_,h=>by simp[im]at h
 |.int k,c::l,_,_,_,h=>by
  cases c<;>simp[im]at h
  exact⟨[_],by rw[h.2.2];rfl,rfl⟩
 |.bool,[],_,_,_,h=>by simp[im]at h
 |.bool,c::l,_,_,_,h=>by
  cases c<;>simp[im]at h
  exact⟨[_],by rw[h.2];rfl,rfl⟩
 |.str,[],_,_,_,h=>by simp[im]at h
 |.str,c::l,_,_,_,h=>by
  cases c<;>simp[im]at h
  exact⟨[_],by rw[h.2];rfl,rfl⟩
 |.unit,l,r,x,_,h=>by simp only[im]at h;cases h;exact⟨[],rfl,rfl⟩
 |.pair t u,l,r,x,b,h=>by
  simp only[flat,az]at b;simp only[im]at h;split at h
  .rename_i y m d;split at h
   .rename_i z n e;cases h;obtain⟨p,f,g⟩:=Oe b.1 d;obtain⟨q,i,j⟩:=Oe b.2 e;exact⟨p++q,by rw[f,i,ha],aa0 g j⟩
   .cases h
  .cases h
 |.sl _ _,_,_,_,b,_=>by simp[flat]at b
def aa1 {u:Ty}(b:flat u=true):∀{l:List (Nat×Operand)} {i:Nat} {xs:List u.D},fa st u i l=some xs->pG (bM st l)=true
 |[],_,_,_=>rfl|(f,x)::l,i,xs,h=>by
  simp only[fa]at h;split at h
  .split at h
   .rename_i y c;split at h
    .rename_i g d;obtain⟨p,e,n⟩:=Oe b c;rw[fo]at e;exact aa0 (by rw[e];exact n) (aa1 b d)
    .cases h
   .cases h
  .cases h
def GS (m:bb P o=true):∃d,o.dst=some d/\o.guard=none/\(∀{w0:di} {G:Gh} {st:St} {a:Act} {w:World},Inv w0 G st a w->C4 P st o=true->∃ZJ,(execOp a.eval o).run P w=.ok (.value (mkF o w.heap.size)) (w.alloc ZJ)/\WL P o a ZJ)/\ao3 P C N o d:=by
 unfold bb at m;split at m
 .rename_i d t T B j;split at m
  .rename_i z K;obtain⟨i,v,A,W,rfl⟩:=fp K;refine⟨d,B,T,fun _ _=>⟨.cells v.cells t (0,0),?_,?_⟩,?_⟩
   .unfold execOp mkF;rw[j];simp[Instr.alloc,zeroValue,typeInfo,A,W,tV]
   .unfold WL;rw[j];exact⟨i,v,A,W,rfl⟩
   .intro w0 G st a w g ZJ U k r h D X L y Y f;unfold WL at y;simp only[j]at y;obtain⟨ql,qB,F,qf,rfl⟩:=y;rw[A]at F;cases F;rw[W]at qf;cases qf;simp only[ec,j,B,K]at f;split at f
    .rename_i p;obtain⟨H,Z⟩:=aG f;rw[az]at H;refine⟨_,_,h.akk p (ef H.1) D X L ((lx v).cells H.2) (by rw[Y];unfold mkF;rw[j]),Z,fun b p=>?_⟩;have:b≠g:=by rintro rfl;rw[D]at p;cases p
     simp[Gh.box,this,p]
    .cases f
  .cases m
 .rename_i d t len parts T B j;split at m
  .rename_i e s;split at m
   .rename_i u O;simp only[az]at m;obtain⟨⟨l,qm⟩,⟨⟨⟨qn,qo⟩,qp⟩,qq⟩⟩:=m;have hlen:=aA qm;have I:0<u.n:=I7 (ba qo);have qC:=tU qp;obtain⟨i,A,qg⟩:=km (aA qn) I;obtain⟨z,K⟩:=ek.1 qq;obtain⟨ql,Q,F,qt,_⟩:=fp K;rw[A]at F;cases F;have qu:P.underlying t=some (.slice e):=by
     unfold wg at s;split at s
     .rename_i qv O;cases s;exact O
     .cases s
    refine⟨d,B,T,?_,?_⟩
    .intro w0 G st a w h qa;unfold C4 at qa;simp only[j,s,O]at qa;obtain⟨xs,S⟩:=ek.1 qa;have qb:((Array.range (len*u.n)).map (fun q=>(if len*u.n=0 then #[] else Q.cells)[q%(if len*u.n=0 then #[] else Q.cells).size]!)).size=(0+parts.toList.length)*u.n:=by simp[<-hlen]
     obtain⟨cs,qh,qi,qw,qj,qd⟩:=Jp (ok:=fun _=>True) h I parts.toList 0 _ xs (fun e t c v qe _=>Jr h e t c v qe) qb S;simp only[V7,List.take_zero,nD]at qh;refine⟨.cells cs.toArray e (0,0),?_,?_⟩
     .unfold execOp mkF;rw[j];dsimp only;have:=BI (P:=P) (w:=w) qu A qt (len:=len) (parts:=parts.map fun (i,x)=>(i,a.eval x)) (cells:=cs.toArray) (by rw[qg];omega) (by rw[qg,Td];exact qh);simp only[Sem.run_bind,this,Result.andThen_ok];rfl
     .unfold WL;rw[j];exact⟨e,s,by rw[qd]⟩
    .intro w0 G st a w g ZJ U k r h D X L y Y f;unfold WL at y;simp only[j]at y;obtain⟨qv,qk,rfl⟩:=y;rw[s]at qk;cases qk;simp only[ec,j,B,s,O]at f;split at f
     .rename_i xs S;split at f
      .rename_i qD;have qb:((Array.range (len*u.n)).map (fun q=>(if len*u.n=0 then #[] else Q.cells)[q%(if len*u.n=0 then #[] else Q.cells).size]!)).size=(0+parts.toList.length)*u.n:=by simp[<-hlen]
       obtain⟨cs,_,qi,qw,qj,qd⟩:=Jp (ok:=fun _=>True) h I parts.toList 0 _ xs (fun e t c v qe _=>Jr h e t c v qe) qb S;have qx:pG (bM st parts.toList)=true:=by
        rw[hh]at l;rcases l with l|l
        .exact aa1 l S
        .have qy:=aA l;have:parts.toList=[]:=Pn (by omega);rw[this];rfl
       have qz:dx w (RO G (bI (bM st parts.toList))) u cs xs:=by
        rw[hh]at l;rcases l with l|l
        .exact Wx l qj
        .have qy:=aA l;have:xs=[]:=Pn (by omega);subst this;exact fun qE x qA=>by simp at qA
       rw[PL qx]at f;unfold St.row at f;split at f
       .cases f
       .rename_i p;obtain⟨H,Z⟩:=aG f;rw[<-qd]at L;have qF:len<=len*u.n:=aiF _ I;have qG:maxLen=9223372036854775807:=rfl;refine⟨_,_,Inv.akl (e:=e) (u:=u) (n:=len) h p (ef H) D X L I (by omega) qi (by omega) qz (by rw[Y];unfold mkF;rw[j]),Z,fun b p=>?_⟩;have:b≠g:=by rintro rfl;rw[D]at p;cases p
        simp[Gh.rowAt,this,p]
      .cases f
     .cases f
   .cases m
  .cases m
 .cases m
def akm {k:St->Option U}(b:bb P o=true)(c:ec P C (kk.CX N) o st k=some r):C4 P st o=true:=by
 unfold bb at b;split at b
 .rename_i d t h g f;unfold C4;rw[f]
 .rename_i d t len parts h g f;unfold C4;simp only[f];simp only[ec,f,g]at c;split at b
  .rename_i e i;split at b
   .rename_i u j;simp only[i,j]at c ⊢;split at c
    .rename_i xs l;rw[l];rfl
    .cases c
   .cases b
  .cases b
 .cases b
def di.from (w0:di)(G:Gh)(w:World)(e:w0.w.heap.size<=w.heap.size)(f:∀g k,G.own g=some k->w0.nw g)(h:∀g k,G.own g=some k->ds.n<=g):di where
 w:=w
 ok:=w0.ok
 nw:=w0.nw
 fr g:=(G.own g).isSome=true
 Rz b c:=w0.Rz b (aL e c)
 Ud b c:=by obtain⟨k,d⟩:=ek.1 c;exact f b k d
 hB:=aL w0.hB e
 hBf b c:=by obtain⟨k,d⟩:=ek.1 c;exact h b k d
 pv:=w0.pv
 hd g:=match w0.hd g with
  |some x=>some x|none=>match G.own g with
   |none=>(w.heap[g]?).map fun o=>(false,o)
   |some _=>none
def Inv.aqQ (h:Inv w0 G st a w):∀g k,G.own g=some k->w0.nw g:=fun g k b=>by rw[<-h.nw];exact h.Jk b
abbrev Inv.root (h:Inv w0 G st a w):di:=w0.from G w h.below.size h.aqQ fun _ _ b=>h.anR b
def Inv.from (h:Inv w0 G st a w):Inv h.root G st a w:=by
 refine⟨h.nw,h.Pt,dh.refl _ _,h.defers,h.size,h.sp,fun g b o c=>?_,h.tm,h.bx,h.bl,fun g k e=>?_⟩
 .simp only[Inv.root,di.from]at c;split at c
  .rename_i x f;cases c;exact h.hd g b o f
  .split at c
   .rename_i i;cases d:w.heap[g]? with
    |none=>rw[d]at c;cases c
    |some m =>
     rw[d]at c;cases c;exact⟨i,(nj.1 d).1,rfl⟩
   .cases c
 .obtain⟨_,j,l⟩:=h.own g k e;exact⟨.inr (by simp[Inv.root,di.from,e]),j,l⟩
def Inv.ub (h:Inv w0 G st a w){w1:World}(b:dh h.root.fr w w1):dh w0.fr w0.w w1 :=
 h.below.step b.os b.tape b.output b.size fun k d e=>b.block k (wa d h.below.size) fun Ud=>by
  obtain⟨q,f⟩:=ek.1 (show(G.own k).isSome=true from Ud);rcases(h.own k q f).1 with c|c
  .omega
  .exact e c
def Inv.WM (h:Inv w0 G st a w){e:Gh}{bV:St}{a':Act}{w':World}(c:Inv h.root e bV a' w') :
  Inv w0 e bV a' w'/\w.heap.size<=w'.heap.size/\∀g,g<w.heap.size->G.own g=none->e.own g=none/\w'.heap[g]?=w.heap[g]?:=by
 refine⟨⟨c.nw,c.Pt,h.ub c.below,c.defers,c.size,c.sp,fun g b o s=>c.hd g b o ?_,c.tm,c.bx,c.bl,fun g k t=>?_⟩,c.below.size,fun g u m=>?_⟩
 .simp only[Inv.root,di.from,s]
 .obtain⟨d,n,f⟩:=c.own g k t;refine⟨?_,n,f⟩;rcases d with d|d
  .exact .inl (aL h.below.size d)
  .obtain⟨q,v⟩:=ek.1 (show(G.own g).isSome=true from d);exact(h.own g q v).1
 .cases i:w0.hd g with
  |some x =>
   obtain⟨b,o⟩:=x;obtain⟨d,n,f⟩:=h.hd g b o i;obtain⟨j,y,l⟩:=c.hd g b o (by simp only[Inv.root,di.from,i]);cases b with
   |true =>
    rw[m]at d;cases d
   |false=>exact⟨j,l.trans f.symm⟩
  |none =>
   have p:w.heap[g]?=some w.heap[g]:=agF u;obtain⟨j,y,l⟩:=c.hd g false w.heap[g] (by simp only[Inv.root,di.from,i,m,p,Option.map_some]);exact⟨j,l.trans p.symm⟩
def Inv.ao4 (h:Inv w0 G st a w){f:FuncId}{con:Any}(b:Fi P w0 f con):Fi P h.root f con:=by
 cases con with
 |one c=>exact⟨b.1,fun x r l m d=>b.2 x r l m (h.ub d)⟩
 |idx i=>exact⟨b.1,fun W d=>b.2 W (h.ub d)⟩
 |ins e u=>exact⟨b.1,fun W d=>b.2 W (h.ub d)⟩
 |del e u=>exact⟨b.1,fun W d=>b.2 W (h.ub d)⟩
 |sel c =>
  refine⟨b.1,b.2.1,fun x r l m d ok n own p s u k t=>b.2.2 x r l m (h.ub d) ok n own p s u ⟨k.hz,fun g v y=>?_,k.cR,k.hb⟩ t⟩;obtain⟨z,A,j⟩:=k.aS g v y;refine⟨z,A,?_⟩;rcases j with j|j
  .exact .inl (aL h.below.size j)
  .obtain⟨q,B⟩:=ek.1 (show(G.own g).isSome=true from j);exact(h.own g q B).1
 |two c =>
  refine⟨b.1,b.2.1,fun x r l m d ok n own p s u k t=>b.2.2 x r l m (h.ub d) ok n own p s u ⟨k.hz,fun g v y=>?_,k.cR,k.hb⟩ t⟩;obtain⟨z,A,j⟩:=k.aS g v y;refine⟨z,A,?_⟩;rcases j with j|j
  .exact .inl (aL h.below.size j)
  .obtain⟨q,B⟩:=ek.1 (show(G.own g).isSome=true from j);exact(h.own g q B).1
def an2 {K:Act->World->Prop}{Q:Exit->Act->World->Prop}(h:o.wp P a w K Q) :
  o.wp P a w (fun i j=>K i j/\i.tmps.size=a.tmps.size/\∀t,o.dst≠some t->i.tmps.getD t undef=a.tmps.getD t undef) Q:=by
 have key:∀(b:Act) u,b.tmps=a.tmps->(b.put o.dst u).tmps.size=a.tmps.size/\∀t,o.dst≠some t->(b.put o.dst u).tmps.getD t undef=a.tmps.getD t undef:=by
  intro b u g;cases m:o.dst with
  |none=>exact⟨by simp[Act.put,g],fun t _=>by simp[Act.put,g]⟩
  |some d =>
   refine⟨by simp[Act.put,g],fun t k=>?_⟩;have l:t≠d:=fun e=>k (by rw[e])
   rw[ju l,g]
 unfold Oper.wp Oper.upon at h ⊢;split at h
 .exact⟨h,key a _ rfl⟩
 .exact⟨h,key a _ rfl⟩
 .exact⟨h,key _ _ rfl⟩
 .refine Calls.mono h fun e j f=>?_
  cases e with
  |returned v=>exact⟨f,key a _ rfl⟩|panicked c=>exact f|_=>exact f
 .exact Rows.mono h fun v j f=>⟨f,key a _ rfl⟩
 all_goals exact h
def q9 (c:kC P o=true):bb P o=false:=by
 unfold bb;split
 .rename_i b;simp[kC,b]at c
 .rename_i b;simp[kC,b]at c
 .rfl
def akn {k:St->Option U}(h:Inv w0 G st a w)(b:ec P C (kk.CX N) o st k=some r)(f:ab4 o=true) :
  ∃v g,(execOp a.eval o).run P w=.ok (.value v) (w.alloc g):=by
 unfold ab4 at f;split at f
 .rename_i t c;simp only[ec,c]at b;split at b
  .split at b
   .split at b
    .rename_i z j;obtain⟨i,v,l,m,rfl⟩:=fp j;refine⟨.pointer (some ⟨w.heap.size,0,none⟩),.cells v.cells t (0,0),?_⟩;unfold execOp;rw[c];simp[Instr.alloc,zeroValue,typeInfo,l,m,tV]
    .cases b
   .cases b
  .cases b
 .rename_i t x c;refine⟨.pointer (some ⟨w.heap.size,0,none⟩),.cells (a.eval x).cells t (0,0),?_⟩;unfold execOp;rw[c];simp[Instr.box,tV]
 .rename_i t len parts c;simp only[ec,c]at b;split at b
  .rename_i d e y n;split at b
   .rename_i u A;split at b
    .rename_i xs p;split at b
     .rename_i q;obtain⟨cs,s⟩:=Ug h t len parts c n p q;exact⟨_,_,s⟩
     .cases b
    .cases b
   .cases b
  .cases b
 .cases f
def alP {ops:Array Oper}{k:St->Option U}(h:Inv w0 G st a w)(b:ec P C (kk.CX N) o st k=some r){t:Tmp}(c:NX o=some t){g0:Nat}(n:a.tmps.getD t undef=.slice (some ⟨g0,0,none⟩) 0 0) :
  ∃v f,(execOp a.eval o).run P w=.ok (.value v) f/\Below w.heap.size w f:=by
 unfold NX at c;split at c
 .rename_i args B g;split at c
  .rename_i D y t1 t2 i j;split at c
   .rename_i p;cases c;have:=aA p;subst this;simp only[ec,g]at b;split at b
    .rename_i d s x F H I l m;rw[i]at l;rw[j]at m;cases l;cases m;split at b
     .rename_i e q;split at b
      .rename_i u z K A;exact ag3 h g i j q A (d:=d) n b
      .cases b
     .cases b
    .cases b
   .cases c
  .cases c
 .cases c
def fq (h:Af P o=true):bb P o=true:=by unfold Af at h;rw[az]at h;exact h.1
def WN (h:Af P o=true)(g:Nat):mkF o g=.slice (some ⟨g,0,none⟩) 0 0:=by
 unfold Af at h;rw[az]at h;unfold mkF;split at h
 .rename_i b;rw[b]
 .cases h.2
def acB (C:FuncId->Option Any)(o:Oper)(a:Act)(w w':World):Prop :=
 ∀t g k,Jf C o=some t->a.tmps.getD t undef=.pointer (some ⟨g,0,none⟩)->k<w.heap.size->k≠g->w'.heap[k]?=w.heap[k]?
def acB.below {w':World}(h:Below w.heap.size w w'):acB C o a w w':=fun _ _ k _ _ b _=>h.block k b
def aez {g o:Nat}{v:Value}{w w':World}{cs:Array Value}{e:TypeId}{p:Nat×Nat}(b:w.heap[g]?=some (.cells cs e p))(h:(store ⟨g,o,none⟩ v).run P w=.ok () w'):(∃c,w'.heap[g]?=some (.cells c e p))/\∀k,k≠g->w'.heap[k]?=w.heap[k]?:=by
 have key:(match w.cell? ⟨g,o,none⟩ with
   | some _ => if w.frozen? ⟨g, o, none⟩ then Result.halt (.unsupported (.unsafePointer "a write to bytes that a string shares")) w else Result.ok () (w.setCell ⟨g, o, none⟩ v)
   |none=>match w.farStore P ⟨g,o,none⟩ v (Mode.plain==Mode.atomic) with
    |.ok (w,_)=>Result.ok () w|.error h=>.halt h w)=.ok () w'\/False:=by
  cases v with
  |agg _=>exact .inr (by simp[store,Sem.run]at h)
  |tuple _=>exact .inr (by simp[store,Sem.run]at h)
  |_=>exact .inl h
 rcases key with key|key
 .split at key
  .split at key
   .cases key
   .injection key with _ key
    subst key;unfold World.setCell;refine⟨⟨cs.setIfInBounds o v,?_⟩,fun k d=>?_⟩
    .simp only[Array.getElem?_modify,eJ,b,Option.map_some];rfl
    .simp only[Array.getElem?_modify];rw[ag (fun e=>d e.symm)]
  .unfold World.farStore at key;simp only[b]at key;cases key
 .exact key.elim
def Fl {g:Nat}:∀(vs:List Value) (o i:Nat) (w w':World) {cs:Array Value} {e:TypeId} {p:Nat×Nat},w.heap[g]?=some (.cells cs e p)->(storeCells ⟨g,o,none⟩ vs i).run P w=.ok () w'->∀k,k≠g->w'.heap[k]?=w.heap[k]?
 |[],o,i,w,w',_,_,_,_,h=>by
  have h:Result.ok () w=.ok () w':=h;injection h with _ h
  subst h;exact fun _ _=>rfl
 |v::vs,o,i,w,w',cs,e,p,l,h=>by
  have h:((store (Addr.add ⟨g,o,none⟩ i) v).run P w).andThen (fun _ d=>(storeCells ⟨g,o,none⟩ vs (i+1)).run P d)=.ok () w':=by rw[<-h];simp only[storeCells,Sem.run_bind]
  cases b:(store (Addr.add ⟨g,o,none⟩ i) v).run P w with
  |halt c d=>rw[b]at h;cases h
  |ok u d =>
   rw[b]at h;have b:(store ⟨g,o+i,none⟩ v).run P w=.ok () d:=by
    cases u;by_cases f:i=0
    .subst f;simpa [Addr.add]using b
    .simpa [Addr.add,f]using b
   obtain⟨⟨q,m⟩,n⟩:=aez l b;exact fun k j=>(Fl vs o (i+1) d w' m h k j).trans (n k j)
def alQ {t:TypeId}{x y:Operand}{g m:Nat}{cs:Array Value}{e:TypeId}{p:Nat×Nat}{K:Act->World->Prop}{Q:Exit->Act->World->Prop}(n:o.op=.store t x y)(q:a.eval x=.pointer (some ⟨g,m,none⟩))(s:w.heap[g]?=some (.cells cs e p))(d:(P.info? t).isSome=true)
  (h:o.wp P a w K Q):o.wp P a w (fun v l=>K v l/\∀k,k≠g->l.heap[k]?=w.heap[k]?) Q:=by
 obtain⟨i,d⟩:=ek.1 d;unfold Oper.wp execOp at h ⊢;rw[n]at h ⊢;dsimp only at h ⊢;rw[q]at h ⊢;simp only[Instr.storeAt,Instr.sureAddr,Sem.run_bind,Sem.run_pure,Result.andThen_ok]at h ⊢;cases b:(storeVar t ⟨g,m,none⟩ (a.eval y)).run P w with
 |halt c j =>
  rw[b]at h;have e:∀f:Unit->World->Result Next,(Result.halt c j:Result Unit).andThen f=.halt c j:=fun _=>rfl
  rw[e]at h ⊢;cases c<;>exact h
 |ok u j =>
  rw[b]at h;refine⟨h,fun k z=>?_⟩;unfold storeVar at b;simp only[Sem.run_bind,run_sizeOf w d,Result.andThen_ok]at b;split at b
  .cases b
  .exact Fl _ _ _ _ _ s b k z
def ahf {ops:Array Oper}{Q:Exit->Act->World->Prop}{k:St->Option U}(S:∀f x,C f=some x->Fi P w0 f x)(h:Inv w0 G st a w)(c:ec P C (kk.CX N) o st k=some r)
  (qt:∀t,NX o=some t->Fb P ops o=true->∃g,a.tmps.getD t undef=.slice (some ⟨g,0,none⟩) 0 0) (qu:∀d,bb P o=true->o.dst=some d->d<a.tmps.size) :
  o.wp P a w (fun D F=>(((∃L bV,Inv w0 L bV D F/\k bV=some r)/\(lv P C ops o=true->Below w.heap.size w F))/\(Af P o=true->∀d,o.dst=some d->∃g,D.tmps.getD d undef=.slice (some ⟨g,0,none⟩) 0 0)/\acB C o a w F)/\D.tmps.size=a.tmps.size/\∀t,o.dst≠some t->D.tmps.getD t undef=a.tmps.getD t undef) Q:=by
 refine an2 ?_;have W:l4 w0 k r (fun D F=>∃L bV,Inv w0 L bV D F/\k bV=some r):=fun L bV D F H qb=>⟨L,bV,H,qb⟩
 by_cases j:lv P C ops o=true
 .by_cases qd:kC P o=true
  .obtain⟨v,L,bV,s,qv,B⟩:=Od qd h c;exact BE (s w (q5 (Below.refl _ w))) ⟨⟨⟨L,bV,qv,B⟩,fun _=>Below.refl _ w⟩,fun u=>absurd (fq u) (by rw[q9 qd];simp),.below (Below.refl _ w)⟩
  .by_cases T:bb P o=true
   .obtain⟨d,qG,qj,s,_⟩:=GS (C:=C) (N:=N) T;obtain⟨ZJ,s,_⟩:=s h (akm T c);have:=pK (Q:=Q) S h c W;unfold Oper.wp at this ⊢;rw[s]at this ⊢;refine⟨⟨this,fun _=>⟨rfl,rfl,rfl,by simp,fun k B=>Below.heap_alloc _ _ _ B⟩⟩,fun u qw qk=>⟨w.heap.size,?_⟩,.below ⟨rfl,rfl,rfl,by simp,fun k B=>Below.heap_alloc _ _ _ B⟩⟩;have hlt:=qu qw T qk;rw[qk,WN u];simp[Act.put,E8,hlt]
   .by_cases ql:ab4 o=true
    .obtain⟨v,qH,s⟩:=akn h c ql;have:=pK (Q:=Q) S h c W;unfold Oper.wp at this ⊢;rw[s]at this ⊢;exact⟨⟨this,fun _=>⟨rfl,rfl,rfl,by simp,fun k B=>Below.heap_alloc _ _ _ B⟩⟩,fun u=>absurd (fq u) T,.below ⟨rfl,rfl,rfl,by simp,fun k B=>Below.heap_alloc _ _ _ B⟩⟩
    by_cases qe:Fb P ops o=true
    .obtain⟨t,I⟩:∃t,NX o=some t:=by
      cases qx:NX o with
      |none=>simp[Fb,qx]at qe|some t=>exact⟨t,rfl⟩
     obtain⟨g,qj⟩:=qt t I qe;obtain⟨v,F,s,Y⟩:=alP (ops:=ops) h c I qj;have:=pK (Q:=Q) S h c W;unfold Oper.wp at this ⊢;rw[s]at this ⊢;exact⟨⟨this,fun _=>Y⟩,fun u=>absurd (fq u) T,.below Y⟩
    have A:agS C o=true:=by
     unfold lv at j;simp only[hh]at j;rcases j with (((j|j)|j)|j)|j
     .exact absurd j qd
     .exact absurd j T
     .exact j
     .exact absurd j ql
     .exact absurd j qe
    unfold agS at A;split at A
    .rename_i f args qy O;simp only[ec,O]at c;split at c
     .rename_i x z;exact Ts (show Tp P w0 f x from S f (.one x) z) h O c fun L bV D F H qb Y=>⟨⟨⟨L,bV,H,qb⟩,fun _=>Y⟩,fun u=>absurd (fq u) T,.below Y⟩
     .rename_i x z;rw[z]at A;cases A
     .rename_i x z;rw[z]at A;cases A
     .rename_i z;rw[z]at A;cases A
     .rename_i z;rw[z]at A;cases A
     .rename_i z;rw[z]at A;cases A
     .cases c
    .cases A
 .have u:∀{U:Prop},Af P o=true->U:=fun u=>absurd (show lv P C ops o=true by unfold lv;rw[fq u];simp) j
  cases m:Jf C o with
  |none=>exact Oper.wp_mono (fun D F H=>⟨⟨H,fun h=>absurd h j⟩,fun h=>u h,fun t g k I=>(by rw[m]at I;cases I)⟩) (pK (Q:=Q) S h c W)
  |some t =>
   have qm:=m;unfold Jf at m;split at m
   .rename_i f args qy O;split at m
    .rename_i x z;have qn:(x.pm=.box\/x.pm=.cur)/\gU args.toList x.i=some (.tmp t):=by
      cases X:x.pm with
      |box =>
       rw[X]at m;dsimp only at m;split at m
       .rename_i qa qf;cases m;exact⟨.inl rfl,qf⟩
       .cases m
      |cur =>
       rw[X]at m;dsimp only at m;split at m
       .rename_i qa qf;cases m;exact⟨.inr rfl,qf⟩
       .cases m
      |rd=>rw[X]at m;cases m|own f=>rw[X]at m;cases m
     simp only[ec,O,z]at c;refine Oper.wp_mono (fun D F H=>⟨⟨H.1,fun h=>absurd h j⟩,fun h=>u h,fun qa g k I K B qg=>?_⟩) (PJ (show N7 P w0 f x from S f (.two x) z) h O c W);rw[qm]at I;cases I;exact H.2 (.tmp t) g qn.1 qn.2 K k B qg
    .cases m
   .rename_i ty qa y O;cases m;have qz:=pK (Q:=Q) S h c W;simp only[ec,O]at c;split at c
    .rename_i qo;simp only[az]at qo;have qA:∃g off cs e p,a.eval (.tmp t)=.pointer (some ⟨g,off,none⟩)/\w.heap[g]?=some (.cells cs e p):=by
      have hrel:=h.ac (.tmp t);split at c
      .rename_i b off qh;rw[qh]at hrel;obtain⟨qB,K⟩:=hrel;obtain⟨l,j⟩:=ek.1 qB;obtain⟨cs,e,Z,_⟩:=h.bx b l j;exact⟨_,off,cs,e,_,K,Z⟩
      .rename_i id i off qh;rw[qh]at hrel;obtain⟨_,_,_,g,q,n,cap,K,qI,X⟩:=hrel;split at c
       .rename_i qp qC;split at c
        .rename_i qq;simp only[az]at qq;have j:=cV qC;obtain⟨rows,aS,qK,_⟩:=(h.bl id qp j).wr qq.1.1;rcases aS.2 with ⟨s,_⟩|⟨qD,qL,cur,s,_,Z,_⟩
         .rw[K]at s;cases s
         .rw[K]at s;injection s with qi _ _
          injection qi with qi
          injection qi with qE _ _
          subst qE;exact⟨g,_,cur,_,_,X qp j,Z⟩
        .cases c
       .cases c
      .cases c
     obtain⟨g,off,cs,e,p,K,Z⟩:=qA;refine Oper.wp_mono (fun D F H=>⟨⟨H.1,fun h=>absurd h j⟩,fun h=>u h,fun qa qD k I qF B qg=>H.2 k ?_⟩) (alQ O K Z qo.2 qz);rw[qm]at I;cases I;rw[show a.eval (.tmp t)=a.tmps.getD t undef from rfl,qF]at K;cases K;exact qg
    .cases c
   .cases m
def GU {ops:Array Oper}{j:Nat}{c:Oper}{d:Tmp}{tmps:Array Value}(e:gU ops.toList j=some c)(f:c.dst=some d) :
  yielded ops tmps j=match tmps.getD d undef with|.bool b=>some b|_=>none:=by
 have g:ops[j]?=some c:=by rw[acj]at e;simpa using e
 unfold yielded;rw[g];simp only[V5,f];rw[E8];cases tmps[d]? with
 |none=>rfl|some v=>cases v<;>rfl
def ME {ops:Array Oper}{k:St->Option U}(h:Inv w0 G st a w)(c:GG P C (kk.CX N) ops.toList o st k=some r) :
  (Region.wanted o (yielded ops a.tmps)=true/\∃bV,(bV=st\/∃d b j,st.get d=.v (.c (.bool b))/\bV=st.put d (.v (.c (.bool j))))/\Inv w0 G bV a w/\ec P C (kk.CX N) o bV k=some r) \/
  (Region.wanted o (yielded ops a.tmps)=false/\∃e bV,Inv w0 e bV (a.put o.dst undef) w/\k bV=some r):=by
 have p:∀{st:St},Inv w0 G st a w->St.pk st o.dst (.GF []) k=some r->∃e bV,Inv w0 e bV (a.put o.dst undef) w/\k bV=some r:=by
  intro st h c;obtain⟨e,bV,x,y⟩:=q4 (K:=fun s t=>∃e bV,Inv w0 e bV s t/\k bV=some r) h (v:=.GF []) (u:=undef) ⟨#[],rfl,trivial⟩ c fun e bV s t z A=>⟨e,bV,z,A⟩
  exact⟨e,bV,x,y⟩
 unfold GG at c;split at c
 .rename_i f;exact .inl ⟨by simp[Region.wanted,f],st,.inl rfl,h,c⟩
 .rename_i I Je f;split at c
  .rename_i L B;split at c
   .rename_i d D;have g:=GU (tmps:=a.tmps) B D;have l:=h.ev (.tmp d);rw[show st.ev (.tmp d)=st.get d from rfl]at l;split at c
    .rename_i b m;rw[m]at l;have i:a.tmps.getD d undef=.bool b:=l;rw[i]at g;have n:∀j,b=j->Inv w0 G (st.put d (.v (.c (.bool j)))) a w:=by intro j F;subst F;exact h.lit (.tmp d) b i
     rcases Pv c with ⟨q,c⟩|⟨q,c⟩
     .subst q;cases Je with
      |true=>exact .inl ⟨by simp[Region.wanted,f,g],_,.inr ⟨d,_,_,m,rfl⟩,n true rfl,c⟩
      |false=>exact .inr ⟨by simp[Region.wanted,f,g],p (n true rfl) c⟩
     .subst q;cases Je with
      |true=>exact .inr ⟨by simp[Region.wanted,f,g],p (n false rfl) c⟩
      |false=>exact .inl ⟨by simp[Region.wanted,f,g],_,.inr ⟨d,_,_,m,rfl⟩,n false rfl,c⟩
    .rename_i m;rw[m]at l;obtain⟨H,i,O⟩:=l;have i:a.tmps.getD d undef=.tuple H:=i;rw[i]at g;exact .inr ⟨by simp[Region.wanted,f,g],p h c⟩
    .cases c
   .cases c
  .cases c
def MF {ops:Array Oper}{M:Array Bool}:∀{l:List Nat} {j:Nat} {o:Oper},Jg P C ops M st l=some (j,o)->j∈l/\ops[j]?=some o/\kC P o=true/\Region.free .any ops M j=true/\((BB st o=true\/aiK ops.toList st o=true)\/(Ps P C ops M j=true\/ab5 P C ops M st j o=true))
 |[],_,_,h=>by simp[Jg]at h
 |i::l,j,o,h=>by
  simp only[Jg]at h;split at h
  .rename_i f c;split at h
   .rename_i b;cases h;simp only[az,hh]at b;exact⟨by simp,c,b.1.1,b.1.2,b.2.elim (fun h=>h.elim (fun h=>h.elim (fun h=>.inl (.inl h)) fun h=>.inr (.inl h)) fun h=>.inl (.inr h)) fun h=>.inr (.inr h)⟩
   .obtain⟨d,e⟩:=MF h;exact⟨by simp[d],e⟩
  .cases h
def MG {ops:Array Oper}{M:Array Bool}:∀{l:List Nat} {j:Nat} {o:Oper},Jh P ops M st l=some (j,o)->j∈l/\ops[j]?=some o/\alm j (Region.ready .any ops (gu P ops j (List.range ops.size) M))=true/\Wg P ops M st (List.range ops.size)=true
 |[],_,_,h=>by simp[Jh]at h
 |i::l,j,o,h=>by
  simp only[Jh]at h;split at h
  .rename_i f c;split at h
   .rename_i b;cases h;rw[az]at b;exact⟨by simp,c,b.1,b.2⟩
   .obtain⟨d,e⟩:=MG h;exact⟨by simp[d],e⟩
  .cases h
def WO {ops:Array Oper}{M:Array Bool}:∀{l:List Nat},Wg P ops M st l=true->∀i∈l,∀o,ops[i]?=some o->bb P o=true->M.getD i true=false->waits P ops M o=true\/C4 P st o=true
 |[],_,i,h=>by cases h
 |j::l,h,i,hi=>by
  simp only[Wg,az]at h;intro o b c d;rcases c7.1 hi with rfl|hi
  .have:=h.1;rw[b]at this;simpa [c,d]using this
  .exact WO h.2 i hi o b c d
def ahg {ops:Array Oper}{M:Array Bool}(h:waits P ops M o=true):∃e∈o.after,Region.binds .any e=true/\∃c,ops[e.on]?=some c/\bb P c=false/\M.getD e.on true=false:=by
 unfold waits at h;obtain⟨e,f,d⟩:=aaK.1 h;rw[az]at d;refine⟨e,f,d.1,?_⟩;have b:=d.2;split at b
 .rename_i c g;rw[az]at b;exact⟨c,g,by simpa using b.1,by simpa using b.2⟩
 .cases b
def aa2 {x:Nat}:∀{l:List Nat},alm x l=true->∀i∈l,i=x
 |[],_,i,h=>by cases h
 |j::l,h,i,hi=>by
  simp only[alm,az]at h;rcases c7.1 hi with rfl|hi
  .exact aA h.1
  .exact aa2 h.2 i hi
def ra {ops:Array Oper}{x:Nat}:∀(b:List Nat) {l:Array Bool} {i:Nat},l.getD i false=true->(gu P ops x b l).getD i false=true
 |[],_,_,h=>h|j::b,l,i,h=>by
  unfold gu;split
  .split
   .exact ra b (getD_set_true h)
   .exact ra b h
  .exact ra b h
def Ah {ops:Array Oper}{x:Nat}:∀(b:List Nat) {l:Array Bool},(gu P ops x b l).size=l.size
 |[],_=>rfl|j::b,l=>by
  unfold gu;split
  .split
   .rw[Ah b];simp
   .exact Ah b
  .exact Ah b
def Ai {ops:Array Oper}{x y:Nat}(h:ops[y]?=none):∀(b:List Nat) {l:Array Bool},(gu P ops x b l).getD y false=l.getD y false
 |[],_=>rfl|j::b,l=>by
  unfold gu;split
  .rename_i o c;have d:j≠y:=fun e=>by rw[e,h]at c;cases c
   split
   .rw[Ai h b,getD_set_ne false d]
   .exact Ai h b
  .exact Ai h b
def nF {ops:Array Oper}{x y:Nat}{o:Oper}(c:ops[y]?=some o)(d:bb P o=true)(e:y≠x):∀(b:List Nat) {l:Array Bool},y<l.size->y∈b->(gu P ops x b l).getD y false=true
 |[],_,_,h=>by cases h
 |j::b,l,f,h=>by
  have g:Nat.beq y x=false:=by
   cases g:Nat.beq y x with
   |true=>exact absurd (aA g) e|false=>rfl
  unfold gu;rcases c7.1 h with rfl|h
  .rw[c];simp only[d,g,h9,Bool.and_self];exact ra b (by simp[E8,f])
  .split
   .split
    .exact nF c d e b (by simpa using f) h
    .exact nF c d e b f h
   .exact nF c d e b f h
def ko {ops:Array Oper}{x y:Nat}{o:Oper}(d:ops[y]?=some o)(b:bb P o=false\/y=x):∀(c:List Nat) {l:Array Bool},(gu P ops x c l).getD y true=l.getD y true
 |[],_=>rfl|j::c,l=>by
  unfold gu;split
  .rename_i g f;split
   .rename_i e;rw[ko d b c];refine getD_set_ne true ?_;rintro rfl;rw[d]at f;cases f;rw[az]at e;rcases b with b|rfl
    .rw[b]at e;cases e.1
    .simp at e
   .exact ko d b c
  .exact ko d b c
def Jy {ops:Array Oper}{M:Array Bool}:∀{l:List Nat},Bi P ops M l=true->∀i∈l,∀o,ops[i]?=some o->bb P o=true->M.getD i true=true
 |[],_,i,h=>by cases h
 |j::l,h,i,hi=>by
  simp only[Bi,az]at h;intro o b c;rcases c7.1 hi with rfl|hi
  .have:=h.1;rw[b]at this;simpa [c]using this
  .exact Jy h.2 i hi o b c
def Tv {ops:Array Oper}{M:Array Bool}:∀{l:List Nat} {st:St},(∀i∈l,∀o,ops[i]?=some o->bb P o=true->M.getD i true=true)->eW P ops M l st=st
 |[],_,_=>rfl|i::l,st,h=>by
  have c:=Tv (st:=st) fun d e=>h d (h8 _ e)
  unfold eW;split
  .rename_i o f;split
   .rename_i b _;rw[az]at b;have:=h i tu o f b.1;rw[this]at b;cases b.2
   .exact c
  .exact c
def ZU {ops:Array Oper}{M:Array Bool}{i:Nat}(h:Ps P C ops M i=true){c:Nat}{b:Oper}(d:ops[c]?=some b)(e:lv P C ops b=false):M.getD c true=true\/j3 ops M i 3 b=true:=by unfold Ps at h;rw[gb]at h;have:=h c (gd.2 (nj.1 d).1);rw[d]at this;simpa only[e,yI,hh]using this
def MH {ops:Array Oper}{M:Array Bool}{i n:Nat}(h:j3 ops M i (n+1) o=true):∃e∈o.after,Region.binds .any e=true/\(e.on=i\/(M.getD e.on true=false/\∃f,ops[e.on]?=some f/\j3 ops M i n f=true)):=by
 unfold j3 at h;obtain⟨e,g,c⟩:=aaK.1 h;rw[az,hh]at c;refine⟨e,g,c.1,?_⟩;rcases c.2 with b|b
 .exact .inl (by simpa using b)
 .rw[az]at b;refine .inr ⟨by simpa using b.1,?_⟩;have d:=b.2;split at d
  .exact⟨_,by assumption,d⟩
  .cases d
def Tw {ops:Array Oper}{M R:Array Bool}{i:Nat}(g:∀d b,ops[d]?=some b->M.getD d true=false->R.getD d false=true->∀e∈b.after,Region.binds .any e=true->R.getD e.on false=true)(j:R.getD i false=false) :
  ∀(n d:Nat) (b:Oper),ops[d]?=some b->M.getD d true=false->R.getD d false=true->j3 ops M i n b=true->False
 |0,_,_,_,_,_,h=>by simp[j3]at h
 |n+1,d,b,k,l,m,h=>by
  obtain⟨e,p,q,c⟩:=MH h;have f:=g d b k l m e p q;rcases c with c|⟨c,s,t,u⟩
  .rw[c,j]at f;cases f
  .exact Tw g j n e.on s t c f u
def GV {ops:Array Oper}{M R l:Array Bool}{i:Nat}(j:∀d k,ops[d]?=some k->M.getD d true=false->R.getD d false=true->∀e∈k.after,Region.binds .any e=true->R.getD e.on false=true)(m:R.getD i false=false)(p:VH ops R l)(q:l.getD i false=false) :
  ∀(n c:Nat) (f:Oper),ops[c]?=some f->R.getD c false=false->l.getD c false=true->j3 ops M i n f=true->False
 |0,_,_,_,_,_,h=>by simp[j3]at h
 |n+1,c,f,x,y,z,h=>by
  obtain⟨e,A,B,b⟩:=MH h;have g:=p.2.2 c f x y z e A B;rcases b with b|⟨b,s,t,u⟩
  .rw[b,q]at g;cases g
  .cases v:R.getD e.on false with
   |true=>exact Tw j m n e.on s t b v u|false=>exact GV j m p q n e.on s t v g u
def ie {ops:Array Oper}{nt:Nat}(h:l2 P ops nt=true){x:Nat}{o:Oper}(e:ops[x]?=some o)(i:bb P o=true){d:Tmp}(j:o.dst=some d):d<nt/\∀y b,ops[y]?=some b->y≠x->b.dst≠some d:=by
 unfold l2 at h;rw[az]at h
 replace h:=h.2
 rw[gb]at h;have:=h x (gd.2 (nj.1 e).1);rw[e]at this;simp only[i,bc,yI,az,j]at this;refine⟨ef this.1,fun y b f k l=>?_⟩;have g:=this.2;rw[gb]at g;have:=g y (gd.2 (nj.1 f).1);rw[f]at this;simp only[l]at this;have c:Nat.beq y x=false:=by
  cases c:Nat.beq y x with
  |true=>exact absurd (aA c) k|false=>rfl
 rw[c]at this;simp[We]at this
def HB {ops:Array Oper}{nt:Nat}(h:l2 P ops nt=true){x:Nat}{o:Oper}(d:ops[x]?=some o)(g:bb P o=true){y:Nat}{b:Oper}(f:ops[y]?=some b){t:Tmp}(i:b.dst=some t)(j:Pr o t=true) :
  bb P b=false/\∃e∈o.after,Region.binds .any e=true/\e.on=y:=by
 unfold l2 at h;rw[az]at h
 replace h:=h.1
 unfold Wh at h;rw[gb]at h;have:=h x (gd.2 (nj.1 d).1);rw[d]at this;simp only[g,bc,yI]at this;rw[gb]at this;have:=this y (gd.2 (nj.1 f).1);rw[f]at this;simp only[i,j,bc,yI,az]at this;refine⟨by simpa using this.1,?_⟩;obtain⟨e,k,c⟩:=aaK.1 this.2;rw[az]at c;exact⟨e,k,c.1,aA c.2⟩
def unl (R:Array Bool)(n:Nat):Nat:=(List.range n).countP fun i=> !R.getD i true
def aa3 {p q:Nat->Bool}{i:Nat}(b:∀x,q x=true->p x=true)(c:p i=true)(d:q i=false):∀{l:List Nat},i∈l->l.countP q<l.countP p
 |[],h=>by cases h
 |j::l,h=>by
  have g:l.countP q<=l.countP p:=List.countP_mono_left fun x _ e=>b x e
  rcases c7.1 h with rfl|h
  .rw[abY,abY,c,d];simp;omega
  .have k:=aa3 b c d h;rw[abY,abY];cases f:q j with
   |false=>simp;omega|true=>rw[b j f];simp;omega
def acC {R:Array Bool}{n i:Nat}(b:i<n)(f:R.size=n)(c:R.getD i true=false):unl (R.setIfInBounds i true) n<unl R n:=by
 refine aa3 (i:=i) (fun x d=>?_) (by simp[c]) ?_ (gd.2 b)
 .by_cases e:i=x
  .subst e;simp[c]
  .rw[getD_set_ne true e]at d;exact d
 .have:(R.setIfInBounds i true).getD i true=true:=by simp[E8,aiD,f,b]
  simp[this]
def acD {R:Array Bool}{n i:Nat}(b:i<n)(c:R.getD i true=false):0<unl R n :=
 List.countP_pos_iff.2 ⟨i,gd.2 b,by simp[c]⟩
structure rb (P:Program) (C:FuncId->Option Any) (N:Nat) (ops:Array Oper) (hd0 hd1:Nat->Option (Bool×Obj)) (M R:Array Bool) (E:Nat->Option Nat) (a:Act):Prop where
 szM:M.size=ops.size
 Tx:R.size=ops.size
 rel:∀i,R.getD i false=(M.getD i false || (E i).isSome)
 early:∀x g,E x=some g->M.getD x false=false/\∃o d ZJ,ops[x]?=some o/\bb P o=true/\o.dst=some d/\(ao3 P C N o d/\WL P o a ZJ/\∀e∈o.after,Region.binds .any e=true->R.getD e.on false=true)/\a.tmps.getD d undef=mkF o g/\hd1 g=some (true,ZJ)/\hd0 g=none
 inj:∀x y g,E x=some g->E y=some g->x=y
 z:∀x ox d,ops[x]?=some ox->Af P ox=true->ox.dst=some d->R.getD x false=true->∃g,a.tmps.getD d undef=.slice (some ⟨g,0,none⟩) 0 0
 hd:∀g v,hd0 g=some v->hd1 g=some v
section
variable {ops:Array Oper} {hd0 hd1:Nat->Option (Bool×Obj)} {M R:Array Bool} {E:Nat->Option Nat}
def er {l:Array Bool}{i:Nat}(h:l.getD i true=false):l.getD i false=false:=by
 rcases Tj i l.size with b|b
 .rw[<-n0 b];exact h
 .simp[agI b,E8]
def GW {l:Array Bool}{i:Nat}(h:l.getD i false=false)(b:i<l.size):l.getD i true=false:=by rw[n0 b];exact h
def BM {l:Array Bool}{i:Nat}(b:i<l.size):(l.setIfInBounds i true).getD i false=true:=by simp[E8,aiD,b]
def rb.ready (b:rb P C N ops hd0 hd1 M R E a){j:Nat}(d:j∈Region.ready .any ops M)(f:E j=none):j∈Region.ready .any ops R:=by
 obtain⟨g,o,c,h⟩:=mem_ready.1 d;have hlt:j<ops.size:=(nj.1 c).1;refine mem_ready.2 ⟨GW ?_ (by rw[b.Tx];exact hlt),o,c,fun e i k=>?_⟩
 .rw[b.rel,er g,f];rfl
 .rw[b.rel,h e i k,NV]
def rb.unM (c:rb P C N ops hd0 hd1 M R E a){j:Nat}(h:R.getD j true=false)(hlt:j<ops.size):M.getD j true=false/\E j=none:=by
 have b:=er h;rw[c.rel]at b;simp only[HA]at b;refine⟨GW b.1 (by rw[c.szM];exact hlt),?_⟩;cases d:E j with
 |none=>rfl
 |some g =>
  rw[d]at b;cases b.2
def rb.next (b:rb P C N ops hd0 hd1 M R E a){nt:Nat}(hfd:l2 P ops nt=true){j:Nat}{o:Oper}(f:ops[j]?=some o)(D:E j=none)(F:R.getD j true=false){a':Act}(l:∀t,o.dst≠some t->a'.tmps.getD t undef=a.tmps.getD t undef)
  (H:Af P o=true->∀d,o.dst=some d->∃g,a'.tmps.getD d undef=.slice (some ⟨g,0,none⟩) 0 0) :
  rb P C N ops hd0 hd1 (M.setIfInBounds j true) (R.setIfInBounds j true) E a':=by
 have hlt:j<ops.size:=(nj.1 f).1;refine⟨by simpa using b.szM,by simpa using b.Tx,fun i=>?_,fun x g c=>?_,b.inj,fun x m d h n p c=>?_,b.hd⟩
 .by_cases q:j=i
  .subst q;rw[BM (by rw[b.Tx];exact hlt),BM (by rw[b.szM];exact hlt)];rfl
  .rw[getD_set_ne false q,getD_set_ne false q];exact b.rel i
 .obtain⟨I,m,d,ZJ,s,u,A,k,K,L,O⟩:=b.early x g c;have B:j≠x:=by rintro rfl;rw[D]at c;cases c
  refine⟨by rw[getD_set_ne false B];exact I,m,d,ZJ,s,u,A,⟨k.1,k.2.1.same fun t Q=>l t fun S=>?_,fun e v y=>getD_set_true (k.2.2 e v y)⟩,?_,L,O⟩
  .obtain⟨_,e,v,y,T⟩:=HB hfd s u f S Q;have:=k.2.2 e v y;rw[T,er F]at this;cases this
  rw[l d ((ie hfd s u A).2 j o f B)];exact K
 .by_cases z:j=x
  .subst z;rw[f]at h;cases h;exact H n d p
  .rw[l d ((ie hfd h (fq n) p).2 j o f z)];rw[getD_set_ne false z]at c;exact b.z x m d h n p c
def alR (n x:Nat):(Array.replicate n false).getD x false=false:=by rw[E8,Array.getElem?_replicate];split<;>rfl
def ahh (a:Act)(o:Oper)(v:Value)(t:Tmp)(b:o.dst≠some t):(a.put o.dst v).tmps.getD t undef=a.tmps.getD t undef:=by
 cases c:o.dst with
 |none=>simp[Act.put]|some d=>exact ju (fun e=>b (by rw[c,e])) v
def an3 {f:St}(h:f=st\/∃c b g,st.get c=.v (.c (.bool b))/\f=st.put c (.v (.c (.bool g)))){x:Operand}{d j:Nat}(e:st.ac x=.ptr d j):f.ac x=.ptr d j:=by
 rcases h with rfl|⟨c,b,g,k,rfl⟩
 .exact e
 .cases x with
  |tmp s =>
   by_cases i:c=s
   .subst i;simp only[St.ac,St.c6,St.ev,k]at e;cases e
   .have:(st.put c (.v (.c (.bool g)))).ac (.tmp s)=st.ac (.tmp s):=by simp only[St.ac,St.c6,St.ev,St.get,St.put,ai,ag i]
    rw[this];exact e
  |_=>exact e
def acE {k:St->Option U}(h:Inv w0 G st a w){t:TypeId}{x:Operand}(e:o.op=.load t x){d j:Nat}(f:st.ac x=.ptr d j)(c:ec P C (kk.CX N) o st k=some r):Wo P w0 G w d a o k r:=by
 simp only[ec,e]at c;split at c
 .rename_i l off g;split at c
  .rename_i i;split at c
   .exact aiX h t x e g i (b:=true) ‹_› (v:=.agg _) rfl f c
   .split at c
    .rename_i m _ y n;exact aiX h t x e g i (b:=false) m (v:=.c y) ⟨y,n,rfl⟩ f c
    .cases c
   .cases c
  .cases c
 .cases c
def aeA {M:Array Bool}{t:Tmp}(h:agT ops M t=true){j:Nat}{b:Oper}(c:ops[j]?=some b)(d:M.getD j true=false):b.dst≠some t:=by have:=gb.1 h j (gd.2 (nj.1 c).1);rw[c]at this;dsimp only at this;rw[d,yI]at this;intro e;rw[e]at this;simp[We]at this
def WQ {x:Option Tmp}{t:Tmp}(h:We x (some t)=true):x=some t:=by
 cases x with
 |none=>cases h|some s=>rw[aA (show Nat.beq s t=true from h)]
def WR {M:Array Bool}{i:Nat}{ok:Nat->Bool}(h:Bh P C ops M st i ok=true){c:Nat}{f:Oper}(p:ops[c]?=some f)(s:lv P C ops f=false):M.getD c true=true\/j3 ops M i 3 f=true \/
  (∃d k,Jf C f=some d/\st.get d=.v (.c (.ptr k 0))/\ok k=true/\agT ops M d=true)\/∃d x g,Jf C f=some d/\ops[x]?=some g/\bb P g=true/\GH g=true/\g.dst=some d/\M.getD x true=false/\∃e∈f.after,Region.binds .any e=true/\e.on=x:=by
 have:=gb.1 h c (gd.2 (nj.1 p).1);rw[p]at this;dsimp only at this;rw[s,yI,hh,hh]at this;rcases this with (b|b)|b
 .exact .inl b
 .exact .inr (.inl b)
 .refine .inr (.inr ?_);split at b
  .rename_i d q;rw[hh]at b;rcases b with b|b
   .rw[az]at b;obtain⟨j,m⟩:=b;split at j
    .rename_i k t;exact .inl ⟨d,k,q,t,j,m⟩
    .cases j
   .obtain⟨x,_,l⟩:=List.any_eq_true.1 b;split at l
    .rename_i g u;simp only[az,V1]at l;obtain⟨⟨⟨⟨j,m⟩,v⟩,y⟩,z⟩:=l;obtain⟨e,A,n⟩:=aaK.1 z;rw[az]at n;exact .inr ⟨d,x,g,q,u,j,m,WQ v,y,e,A,n.1,aA n.2⟩
    .cases l
  .cases b
def aeB {M:Array Bool}{i:Nat}(h:ab5 P C ops M st i o=true):∃t x,o.op=.load t x/\((∃b off,st.ac x=.ptr b off/\Bh P C ops M st i (fun d=> !Nat.beq d b)=true)\/∃id e off b,st.ac x=.qV id e off/\st.kA id=some b/\b.w=true/\Bh P C ops M st i (fun _=>true)=true):=by
 unfold ab5 at h;split at h
 .rename_i t x c;split at h
  .exact⟨t,x,c,.inl ⟨_,_,by assumption,h⟩⟩
  .split at h
   .rw[az]at h;exact⟨t,x,c,.inr ⟨_,_,_,_,by assumption,by assumption,h.1,h.2⟩⟩
   .cases h
  .cases h
 .cases h
def an4 {f:St}(h:f=st\/∃c b g,st.get c=.v (.c (.bool b))/\f=st.put c (.v (.c (.bool g)))){x:Operand}{d k:Nat}{i:Int}(e:st.ac x=.qV d i k):f.ac x=.qV d i k/\∀id,f.kA id=st.kA id:=by
 rcases h with rfl|⟨c,b,g,l,rfl⟩
 .exact⟨e,fun _=>rfl⟩
 .refine⟨?_,fun _=>rfl⟩;cases x with
  |tmp s =>
   by_cases j:c=s
   .subst j;simp only[St.ac,St.c6,St.ev,l]at e;cases e
   .have:(st.put c (.v (.c (.bool g)))).ac (.tmp s)=st.ac (.tmp s):=by simp only[St.ac,St.c6,St.ev,St.get,St.put,ai,ag j]
    rw[this];exact e
  |_=>exact e
def WS (P:Program)(w0:di)(w:World)(g:Nat)(a:Act)(o:Oper){U:Type}(k:St->Option U)(r:U):Prop :=
 ∃v c bV,(∀b:World,b.heap[g]?=w.heap[g]?->(execOp a.eval o).run P b=.ok (.value v) b)/\Inv w0 c bV (a.put o.dst v) w/\k bV=some r
def ai6 {k:St->Option U}(h:Inv w0 G st a w){g:Nat}{v:AV}{u:Value}(f:eK G w st.bx st.bl v u)(i:st.pk o.dst v k=some r)(j:∀c:World,c.heap[g]?=w.heap[g]?->(execOp a.eval o).run P c=.ok (.value u) c):WS P w0 w g a o k r:=by
 obtain⟨b,bV,l,m⟩:=q4 (K:=fun d e=>∃b bV,Inv w0 b bV d e/\k bV=some r) h f i fun b bV d e n p=>⟨b,bV,n,p⟩
 exact⟨u,b,bV,j,l,m⟩
def ai7 {k:St->Option U}(h:Inv w0 G st a w)(t:TypeId)(x:Operand)(s:o.op=.load t x){l:List AC}{c g q:Nat}{vs:List Value}(z:a.eval x=.pointer (some ⟨g,q+c,none⟩))(L:cA w g q vs)(hrel:bD (a7 G w st.bx st.bl) l vs)
  (O:Nat.beq (nk (P.cellsOf t) (nm c l)).length (P.cellsOf t)=true)
  {b:Bool} (A:L5 P t=some b)
  {v:CV} (B:match b with|true=>v=.agg (nk (P.cellsOf t) (nm c l))|false=>∃y,nk (P.cellsOf t) (nm c l)=[y]/\v=.c y)
  (D:st.pk o.dst (.v v) k=some r):WS P w0 w g a o k r:=by
 have e:=(hrel.drop c).take (P.cellsOf t);have F:cA w g (q+c) ((vs.drop c).take (P.cellsOf t)):=L.drop.take;have hlen:=e.len;have T:=aA O;have H:∀d:World,d.heap[g]?=w.heap[g]?->cA d g (q+c) ((vs.drop c).take (P.cellsOf t)):=fun d f i u j=>by rw[cell_of_heap f];exact F i u j
 have n:=fun d f=>pI (P:=P) (H d f) (by omega) (.inr trivial) A
 obtain⟨i,Q⟩:=pJ A;cases b with
 |true =>
  subst B;simp only[Q]at n;refine ai6 (u:=.agg ((vs.drop c).take (P.cellsOf t)).toArray) h (v:=.v (.agg _)) ⟨_,rfl,e⟩ D fun d f=>?_
  have p:=n d f;unfold execOp;rw[s];simp[Instr.loadAt,Instr.sureAddr,z,p]
 |false =>
  obtain⟨y,S,rfl⟩:=B;rw[S]at e;obtain⟨u,j⟩:∃u,(vs.drop c).take (P.cellsOf t)=[u]:=by
   cases I:(vs.drop c).take (P.cellsOf t) with
   |nil=>rw[I]at e;exact e.elim
   |cons u m =>
    rw[I]at e;cases m with
    |nil=>exact⟨u,rfl⟩|cons _ _=>exact e.2.elim
  rw[j]at e F;refine ai6 (u:=u) h (v:=.v (.c y)) e.1 D fun d f=>?_
  have p:=n d f;have K:=H d f 0 u (by rw[j];rfl);rw[Mz]at K;unfold execOp;rw[s];simp[Instr.loadAt,Instr.sureAddr,z,p,K]
def acF {k:St->Option U}(h:Inv w0 G st a w){t:TypeId}{x:Operand}(e:o.op=.load t x){id j:Nat}{i:Int}(A:st.ac x=.qV id i j){b:dD}(B:st.kA id=some b)(D:b.w=true)(c:ec P C (kk.CX N) o st k=some r) :
  ∃g,G.own g=some (.bl id)/\g<w.heap.size/\WS P w0 w g a o k r:=by
 have hrel:=h.ac x;have m:=cV B;obtain⟨_,_,_,g,S,n,cap,F,T,f⟩:=(show a7 G w st.bx st.bl (.qV id i j) (a.eval x) from by rw[<-A];exact hrel);have f:=f b m;obtain⟨rows,aS,H,_⟩:=(h.bl id b m).wr D;have p:=H g (by rw[F];rfl);refine⟨g,p,(h.own g _ p).2.1,?_⟩;simp only[ec,e]at c;split at c
 .rename_i l off I;obtain⟨K,q,W,d,s,u⟩:=C5 h hrel I;have L:K=g:=by
   rw[f]at d;injection d with d
   injection d with d
   injection d with d _ _
   exact d.symm
  subst L;split at c
  .rename_i z;split at c
   .exact ai7 h t x e d s u z (b:=true) ‹_› (v:=.agg _) rfl c
   .split at c
    .rename_i O _ y Q;exact ai7 h t x e d s u z (b:=false) O (v:=.c y) ⟨y,Q,rfl⟩ c
    .cases c
   .cases c
  .cases c
 .cases c
def rb.fresh (h:rb P C N ops hd0 hd1 M R E a){i:Nat}(j:i∈Region.ready .any ops R)(k:ops[i]?=some o)(t:Tmp)(l:NX o=some t)(c:Fb P ops o=true):∃g,a.tmps.getD t undef=.slice (some ⟨g,0,none⟩) 0 0:=by
 obtain⟨_,z,f,m⟩:=mem_ready.1 j;rw[k]at f;cases f;unfold Fb at c;rw[l]at c;obtain⟨x,_,b⟩:=List.any_eq_true.1 (show(List.range ops.size).any _=true from c);split at b
 .rename_i n p;simp only[az]at b;obtain⟨⟨q,s⟩,u⟩:=b;obtain⟨e,v,d⟩:=aaK.1 u;rw[az]at d;have y:=aA d.2;have:=m e v d.1;rw[y]at this;exact h.z x n t p q (WQ s) this
 .cases b
def rb.dlt (_:rb P C N ops hd0 hd1 M R E a){nt:Nat}(hfd:l2 P ops nt=true)(b:a.tmps.size=nt){i:Nat}(c:ops[i]?=some o)(d:Tmp)(e:bb P o=true)(f:o.dst=some d):d<a.tmps.size:=by rw[b];exact(ie hfd c e f).1
def aeC {e:St}(h:e=st\/∃d b f,st.get d=.v (.c (.bool b))/\e=st.put d (.v (.c (.bool f))))(c:BB st o=true):BB e o=true:=by
 rcases h with rfl|⟨d,b,f,j,rfl⟩
 .exact c
 .cases g:o.op with
  |load t x =>
   simp only[BB,g]at c ⊢;cases x with
   |const _=>exact c
   |tmp s =>
    by_cases i:d=s
    .subst i;simp only[St.ac,St.c6,St.ev,j]at c;cases c
    .have:(st.put d (.v (.c (.bool f)))).ac (.tmp s)=st.ac (.tmp s):=by simp only[St.ac,St.c6,St.ev,St.get,St.put,ai,ag i]
     rw[this];exact c
   |_=>exact c
  |convert _ _ _=>simp[BB,g]at c|_=>simp[BB,g]
def ahi (h:Inv w0 G st a w)(b:aiK ops.toList st o=true):Region.wanted o (yielded ops a.tmps)=false:=by
 unfold aiK at b;split at b
 .cases b
 .rename_i m Je g;split at b
  .rename_i n j;split at b
   .rename_i d k;have e:=GU (tmps:=a.tmps) j k;have c:=h.ev (.tmp d);rw[show st.ev (.tmp d)=st.get d from rfl]at c;split at b
    .rename_i f;rw[f]at c;rw[show a.tmps.getD d undef=.bool true from c]at e;simp[Region.wanted,g,e]
    .rename_i f;rw[f]at c;rw[show a.tmps.getD d undef=.bool false from c]at e;simp[Region.wanted,g,e]
    .rename_i f;rw[f]at c;obtain⟨l,i,p⟩:=c;have i:a.tmps.getD d undef=.tuple l:=i;rw[i]at e;simp[Region.wanted,g,e]
    .cases b
   .cases b
  .cases b
def ai8 {nt:Nat}(f:rb P C N ops w0.hd hd1 M R E a)(e:Inv {w0 with hd:=hd1} G (eW P ops M (List.range ops.size) st) a w){x g:Nat}(q:E x=some g)(A:ops[x]?=some o){k:St->Option U}
  (H:ec P C (kk.CX N) o (eW P ops M (List.range ops.size) st) k=some r) :
  ∃B l m,rb P C N ops w0.hd B (M.setIfInBounds x true) R (fun y=>if y=x then none else E y) a/\Inv {w0 with hd:=B} l m a w/\k m=some r/\∀b,G.own b=none->l.own b=none:=by
 have hlt:∀{i:Nat} {o:Oper},ops[i]?=some o->i<ops.size:=fun h=>(nj.1 h).1
 obtain⟨qv,D,d,ZJ,F,qw,qx,⟨I,K,_⟩,L,O,Q⟩:=f.early x g q;rw[A]at F;cases F;obtain⟨S,qy,T⟩:=e.hd g true ZJ O;have W:Inv {w0 with hd:=fun c=>if c=g then none else hd1 c} G (eW P ops M (List.range ops.size) st) a w :=
  ⟨e.nw,e.Pt,e.below,e.defers,e.size,e.sp,fun c b D n=>e.hd c b D (by
   dsimp only at n;split at n
   .cases n
   .exact n),e.tm,e.bx,e.bl,e.own⟩
 obtain⟨l,m,X,Y,Z⟩:=I W S (by simp) T K L H;have qa:rb P C N ops w0.hd (fun c=>if c=g then none else hd1 c) (M.setIfInBounds x true) R (fun y=>if y=x then none else E y) a:=by
  refine⟨by simpa using f.szM,f.Tx,fun i=>?_,fun y c j=>?_,fun y z c j s=>?_,fun y qb qd qe qf qg qh=>?_,fun c v t=>?_⟩
  .by_cases u:i=x
   .subst u;rw[BM (by rw[f.szM];exact hlt A),f.rel,q];simp
   .rw[getD_set_ne false (Ne.symm u),f.rel,ag u]
  .by_cases p:y=x
   .rw[aj p]at j;cases j
   .rw[ag p]at j;obtain⟨qi,qj,qk,ql,qm,qn,qo,qp,qq,qt,qu⟩:=f.early y c j;refine⟨by rw[getD_set_ne false (Ne.symm p)];exact qi,qj,qk,ql,qm,qn,qo,qp,qq,?_,qu⟩;have:c≠g:=by rintro rfl;exact p (f.inj y x c j q)
    rw[ag this];exact qt
  .split at j
   .cases j
   .split at s
    .cases s
    .exact f.inj y z c j s
  .exact f.z y qb qd qe qf qg qh
  .have:c≠g:=by rintro rfl;rw[Q]at t;cases t
   rw[ag this];exact f.hd c v t
 exact⟨_,l,m,qa,X,Y,Z⟩
def WT:∀(xs:List Nat) {M:Array Bool} {E:Nat->Option Nat} {hd1:Nat->Option (Bool×Obj)} {G:Gh} {st:St} {J:Array Bool->St->Option U},xs.Nodup->(∀x∈xs,(E x).isSome=true)->rb P C N ops w0.hd hd1 M R E a->Inv {w0 with hd:=hd1} G (eW P ops M (List.range ops.size) st) a w ->
  ab6 P C (kk.CX N) ops xs M st J=some r->∃c d f j bV,rb P C N ops w0.hd f c R d a/\Inv {w0 with hd:=f} j (eW P ops c (List.range ops.size) bV) a w/\J c bV=some r/\(∀g,G.own g=none->j.own g=none)/\∀i,E i=none->d i=none
 |[],M,E,hd1,G,st,J,_,_,k,l,b=>⟨M,E,hd1,G,st,k,l,b,fun _ h=>h,fun _ h=>h⟩
 |x::xs,M,E,hd1,G,st,J,q,m,k,l,b=>by
  unfold ab6 at b;split at b
  .rename_i L s;obtain⟨g,t⟩:=ek.1 (m x tu);obtain⟨O,Q,S,u,v,z,A⟩:=ai8 (nt:=0) k l t s b;have n:=List.nodup_cons.1 q;obtain⟨c,d,f,j,bV,B,D,F,H,I⟩:=WT xs n.2 (fun y p=>by
    have K:y≠x:=fun e=>n.1 (by rw[<-e];exact p)
    rw[ag K];exact m y (h8 x p)) u (gV _ v) z
   refine⟨c,d,f,j,bV,B,D,F,fun g h=>H g (A g h),fun i h=>I i ?_⟩;split
   .rfl
   .exact h
  .cases b
def akp {x y:Option U}(h:anJ x y=some r):x=some r/\y=some r:=by
 unfold anJ at h;split at h
 .rename_i e;exact⟨h,by rw[<-e];exact h⟩
 .cases h
def WU:∀{l:List (Option U)},aiL l=some r->l≠[]/\∀x∈l,x=some r
 |[],h=>by cases h
 |[x],h=>⟨by simp,fun y c=>by rw[fA.1 c];exact h⟩
 |x::y::l,h=>by
  obtain⟨d,f⟩:=akp (show anJ x (aiL (y::l))=some r from h);refine⟨by simp,fun z b=>?_⟩;rcases c7.1 b with e|b
  .rw[e];exact d
  .exact(WU f).2 z b
def apK {ops:Array Oper}{R:Array Bool}{i:Nat}{c:Oper}{X:Nat->Oper->Tmp->Prop}(l:R.size=ops.size)(h:ops[i]?=some c)(j:bb P c=false):∀(x:Nat) (b:Oper) (t:Tmp),ops[x]?=some b->bb P b=true->GH b=true->b.dst=some t->R.getD x false=false->(R.setIfInBounds i true).getD x false=true->X x b t:=by
 intro x b t d f _ _ k g;exfalso;by_cases e:i=x
 .subst e;rw[h]at d;cases d;rw[j]at f;cases f
 .rw[getD_set_ne false e,k]at g;cases g
def alS (zA:∀f qy,C f=some qy->Fi P w0 f qy){Q:Exit->Act->World->Prop}(jl:∀c a a' w,Q (.panic c) a w->Q (.panic c) a' w)(jm:Region.noSelect ops=true){nt:Nat}(hfd:l2 P ops nt=true){k:St->Option U}(jn:l4 w0 k r (Q .normal)) :
  ∀(s m n:Nat),m+n=s->∀{M R:Array Bool} {E:Nat->Option Nat} {hd1:Nat->Option (Bool×Obj)} {G:Gh} {st:St} {a:Act} {w:World},unl R ops.size<=n->a.tmps.size=nt->rb P C N ops w0.hd hd1 M R E a ->
   Inv {w0 with hd:=hd1} G (eW P ops M (List.range ops.size) st) a w->q3 P C (kk.CX N) ops m M st k=some r->x6 P ops Q (SI P C ops G w a R) n R a w:=by
 intro s
 induction s using Nat.strongRecOn with
 |ind s xj =>
 intro m n hmn M R E hd1 G st a w arG qI j A O;have hlt:∀{i:Nat} {o:Oper},ops[i]?=some o->i<ops.size:=fun h=>(nj.1 h).1
 have zB:Region.ready .any ops M=[]->ck (Bi P ops M (List.range ops.size)) (k st)=some r->x6 P ops Q (SI P C ops G w a R) n R a w:=by
  intro qz O;obtain⟨xM,O⟩:=aG O;have zC:=fun i u=>Jy xM i (gd.2 u)
  have hEn:∀x,E x=none:=by
   intro x;cases qm:E x with
   |none=>rfl
   |some g =>
    obtain⟨qd,o,d,ZJ,T,qj,_⟩:=j.early x g qm;have:=zC x (hlt T) o T qj;rw[GW qd (by rw[j.szM];exact hlt T)]at this;cases this
  rw[Tv (fun i u o D hf=>zC i (gd.1 u) o D hf)]at A;have hI0:Inv w0 G st a w:=⟨A.nw,A.Pt,A.below,A.defers,A.size,A.sp,fun g b o xk=>A.hd g b o (j.hd g _ xk),A.tm,A.bx,A.bl,A.own⟩;refine aey (List.eq_nil_iff_forall_not_mem.2 fun i u=>?_) (jn _ _ _ _ hI0 O) n;obtain⟨qd,o,D,qk⟩:=mem_ready.1 u;have:i∈Region.ready .any ops M:=by refine mem_ready.2 ⟨(j.unM qd (hlt D)).1,o,D,fun e F K=>?_⟩;have:=qk e F K;rw[j.rel,hEn]at this;simpa using this
  rw[qz]at this;cases this
 cases m with
 |zero =>
  simp only[q3]at O;split at O
  .rename_i qz;exact zB qz O
  .cases O
 |succ m =>
  have hr0:=O;simp only[q3]at O;split at O
  .rename_i qz;exact zB qz O
  .rename_i i0 rest qz;have hCF:=fun f qy h=>A.ao4 (zA f qy h:Fi P {w0 with hd:=hd1} f qy)
   split at O
   ·
    rename_i qg o hp;obtain⟨qd,D,qT,aqR,arH⟩:=MF hp;rw[<-qz]at qd;have zD:E qg=none:=by
     cases qm:E qg with
     |none=>rfl
     |some g =>
      obtain⟨_,zE,d,ZJ,T,qj,_⟩:=j.early qg g qm;rw[D]at T;cases T;rw[q9 qT]at qj;cases qj
    have xN:=j.ready qd zD;have qA:=(mem_ready.1 xN).1;have xO:lv P C ops o=true:=by unfold lv;rw[qT];rfl
    cases n with
    |zero=>exact absurd (acD (hlt D) qA) (by omega)
    |succ n =>
     have zF:=acC (hlt D) j.Tx qA;have MB:∀{v:Value} {qK:Gh} {qB:St},Inv A.root qK qB (a.put o.dst v) w->q3 P C (kk.CX N) ops m (M.setIfInBounds qg true) qB k=some r->(∃xP:World->Prop,YieldsIf P ops xP o v a/\∀W B,VH ops R W->W.getD qg true=false->SI P C ops G w a R W B->xP B) ->
       x6 P ops Q (SI P C ops G w a R) (n+1) R a w:=by
      intro v qK qB ql qe ⟨xP,H,hS0⟩;obtain⟨xm,xQ,qW⟩:=A.WM ql;have qt:=xj (m+n) (by omega) m n rfl (M:=M.setIfInBounds qg true) (R:=R.setIfInBounds qg true) (by omega) (by rw[<-qI];cases o.dst<;>simp[Act.put])
       (j.next hfd D zD qA (a':=a.put o.dst v) (fun t qa=>by
        cases hd:o.dst with
        |none=>simp[Act.put]|some d=>exact ju (fun e=>qa (by rw[hd,e])) v) fun qX=>absurd (fq qX) (by rw[q9 qT];simp)) (gV _ xm) qe
      refine acA D (Region.noSelect_spec jm) (fun c a w hq=>jl c _ _ w hq) (fun l B=>SI.set D xO l B) n R a w ?_ xN H hS0 (SI.refl R R) (pL n (fun W B qL X=>?_) qt)
      .intro qY qZ qn qo xR arI;exact Region.free_spec D aqR qY qZ qn qo ((j.unM xR (hlt qn)).1) arI
      .exact SI.step j.Tx ((SI.set D xO R w).2 (SI.refl R R)) (fun g I D=>(qW g I D).1) (fun t qa=>ahh a o v t (qa qg o D (er qA))) (apK j.Tx D (q9 qT)) (VH.set xN) qL X
     rcases ME A.from O with ⟨qb,xn,xS,u,qh⟩|⟨qb,zG,xn,u,qh⟩
     .rcases arH with (hro|aqS)|(arJ|hbx)
      .have arK:BB xn o=true:=aeC xS hro;obtain⟨v,qK,qB,F,ql,qe⟩:=acz qT arK u qh;exact MB ql qe ⟨_,.inl ⟨qb,F⟩,fun W B _ _ X=>X.2.1⟩
      .rw[ahi A aqS]at qb;cases qb
      .obtain⟨v,qK,qB,F,ql,qe⟩:=Od qT u qh;refine MB ql qe ⟨fun B=>Below w.heap.size w B,.inl ⟨qb,fun B xa=>F B (q5 xa)⟩,fun W B xb xT X=>X.2.2.1 fun c xW qu xX=>?_⟩;have l's:W.size=ops.size:=xb.1.symm.trans j.Tx;rw[n0 (by rw[l's];exact hlt qu),n0 (by rw[j.Tx];exact hlt qu)];rcases ZU arJ qu xX with xY|xZ
       .have zH:R.getD c false=true:=by rw[j.rel,<-n0 (by rw[j.szM];exact hlt qu),xY,NV]
        rw[zH,xb.2.1 c zH]
       .cases qm:R.getD c false with
        |true=>rw[xb.2.1 c qm]
        |false =>
         cases H:W.getD c false with
         |false=>rfl
         |true =>
          refine(GV (R:=R) (i:=qg) (fun d od hd za xo e F K=>?_) (er qA) xb (er xT) 3 c xW qu qm H xZ).elim;rw[j.rel,er za,yI]at xo;obtain⟨g,I⟩:=ek.1 xo;obtain⟨_,od',_,_,xp,_,_,xq,_⟩:=j.early d g I;rw[hd]at xp;cases xp;exact xq.2.2 e F K
      .obtain⟨t,x,zI,aqT⟩:=aeB hbx;have zK:∀{zz:Nat->Bool} {qM:Nat},Bh P C ops M (eW P ops M (List.range ops.size) st) qg zz=true->qM<w.heap.size->G.own qM≠some .hid->(∀qp zb,zz qp=true->look (eW P ops M (List.range ops.size) st).bx qp=some zb->G.hb qp≠qM) ->
         ∀W B,VH ops R W->W.getD qg true=false->SI P C ops G w a R W B->B.heap[qM]?=w.heap[qM]?:=by
        intro zz qM xr hg0 hnh qo W B xb xT X;refine X.2.2.2 qM hg0 fun c xW qu xX zc hcl=>?_
        rcases WR xr qu xX with xY|xZ|⟨qN,qp,xE,hbb,cR,arL⟩|⟨qN,y,S,xE,H,qO,qC,qD,hMy,hey⟩
        .have:R.getD c false=true:=by rw[j.rel,<-n0 (by rw[j.szM];exact hlt qu),xY,NV]
         rw[this]at zc;cases zc
        .refine(GV (R:=R) (i:=qg) (fun d od hd za xo e F K=>?_) (er qA) xb (er xT) 3 c xW qu zc hcl xZ).elim;rw[j.rel,er za,yI]at xo;obtain⟨g,I⟩:=ek.1 xo;obtain⟨_,od',_,_,xp,_,_,xq,_⟩:=j.early d g I;rw[hd]at xp;cases xp;exact xq.2.2 e F K
        .have zL:=A.ev (.tmp qN);rw[show(eW P ops M (List.range ops.size) st).ev (.tmp qN)=(eW P ops M (List.range ops.size) st).get qN from rfl,hbb]at zL;obtain⟨apL,hvt⟩:=(show _/\_ from zL);obtain⟨xu,xv⟩:=ek.1 apL;exact .inl ⟨qN,G.hb qp,xE,fun qY qZ qn qP=>aeA arL qn ((j.unM (GW qP (by rw[j.Tx];exact hlt qn)) (hlt qn)).1),hvt,qo qp xu cR xv⟩
        .cases qv:R.getD y false with
         |false=>exact .inr ⟨qN,y,S,xE,H,qO,qC,qD,qv,hey⟩
         |true =>
          rw[j.rel,er hMy,yI]at qv;obtain⟨g,I⟩:=ek.1 qv;obtain⟨_,oy',zd,ZJ,zM,_,qf,_,arM,hh1,_⟩:=j.early y g I;rw[H]at zM;cases zM;rw[qD]at qf;cases qf;have hgh:G.own g=some .hid:=(A.hd g true ZJ hh1).1;refine .inl ⟨qN,g,xE,fun qY qZ qn qP=>?_,?_,fun e=>hnh (by rw[<-e];exact hgh)⟩
          .refine(ie hfd H qO qD).2 qY qZ qn fun e=>?_
           subst e;rw[j.rel,I]at qP;simp at qP
          .rw[arM];unfold GH at qC;unfold mkF;split at qC
           .rename_i ze;rw[ze]
           .cases qC
       rcases aqT with ⟨b,off,zN,xr⟩|⟨id,i,off,b,heo,hbk,hbw,xr⟩
       .obtain⟨v,qK,qB,F,ql,qe⟩:=acE u zI (an3 xS zN) qh;have hrel:=A.ac x;rw[zN]at hrel;obtain⟨aqU,_⟩:=hrel;obtain⟨zb,hlb⟩:=ek.1 aqU;obtain⟨_,_,_,zf,_⟩:=A.bx b zb hlb;have zg:=(A.own _ _ zf).2.1;refine MB ql qe ⟨fun B=>B.heap[G.hb b]?=w.heap[G.hb b]?,.inl ⟨qb,F⟩,zK xr zg (by rw[zf];simp) fun qp xu cR xv e=>?_⟩;obtain⟨_,_,_,xw,_⟩:=A.bx qp xu xv;rw[e,zf]at xw;injection xw with qQ
        injection qQ with qQ
        subst qQ;simp at cR
       .obtain⟨arN,hbs⟩:=an4 xS heo;obtain⟨g,zO,zg,v,qK,qB,F,ql,qe⟩:=acF u zI arN ((hbs id).trans hbk) hbw qh;refine MB ql qe ⟨fun B=>B.heap[g]?=w.heap[g]?,.inl ⟨qb,F⟩,zK xr zg (by rw[zO];simp) fun qp xu _ xv e=>?_⟩;obtain⟨_,_,_,xw,_⟩:=A.bx qp xu xv;rw[e,zO]at xw;injection xw with qQ
        cases qQ
     .exact MB u qh ⟨fun _=>True,.inr ⟨qb,rfl⟩,fun _ _ _ _ _=>trivial⟩
   .rename_i hpn;have zh:∀{B:World},w.heap.size<=B.heap.size->(∀g,g<w.heap.size->G.own g=none->B.heap[g]?=w.heap[g]?)->∀{i:Nat} {q:Oper},ops[i]?=some q->i∈Region.ready .any ops R->(lv P C ops q=true->Below w.heap.size w B)->acB C q a w B->SI P C ops G w a R (R.setIfInBounds i true) B:=by
     intro B qd T i q p u qj h4;refine⟨qd,T,fun xk=>?_,fun k xc xk=>?_⟩
     .cases xy:lv P C ops q with
      |true=>exact qj xy
      |false =>
       have:=xk i q p xy;rw[n0 (by simp[j.Tx,hlt p]),BM (by rw[j.Tx];exact hlt p),(mem_ready.1 u).1]at this;cases this
     .cases xy:lv P C ops q with
      |true=>exact(qj xy).block k xc
      |false =>
       rcases xk i q p xy (er (mem_ready.1 u).1) (BM (by rw[j.Tx];exact hlt p)) with ⟨t,g,zi,_,zj,zk⟩|⟨t,y,S,_,_,_,_,_,e6,e,F,K,zl⟩
       .exact h4 t g k zi zj xc (Ne.symm zk)
       .obtain⟨_,zP,qE,qk⟩:=mem_ready.1 u;rw[p]at qE;cases qE;have:=qk e F K;rw[zl,e6]at this;cases this
    have ahead:Wg P ops M (eW P ops M (List.range ops.size) st) (List.range ops.size)=true->∀Y,n=Y+1->∀(i:Nat) (q:Oper),i∈Region.ready .any ops R->ops[i]?=some q->bb P q=true ->
      wpOp P ops Q i (fun a' B=>SI P C ops G w a R (R.setIfInBounds i true) B/\x6 P ops Q (SI P C ops G w a R) Y (R.setIfInBounds i true) a' B) a w:=by
     intro xz Y zm i q u p L;subst zm;obtain⟨qi,zP,qE,qk⟩:=mem_ready.1 u;rw[p]at qE;cases qE;have zF:=acC (hlt p) j.Tx qi;obtain⟨xA,xd⟩:=j.unM qi (hlt p);obtain⟨d,hd,zn,zo,aqV⟩:=GS (C:=C) (N:=N) L;have hpk:C4 P (eW P ops M (List.range ops.size) st) q=true:=by
      rcases WO xz i (gd.2 (hlt p)) q p L xA with qb|xc
      .exfalso;obtain⟨e,F,K,xe,qw,xf,hMe⟩:=ahg qb;have:=qk e F K;rw[j.rel,er hMe,yI]at this;obtain⟨g,I⟩:=ek.1 this;obtain⟨_,oe',_,_,zQ,zR,_⟩:=j.early e.on g I;rw[qw]at zQ;cases zQ;rw[xf]at zR;cases zR
      .exact xc
     obtain⟨ZJ,zo,arO⟩:=zo A hpk;have zS:∀(y:Nat) (S:Oper),ops[y]?=some S->bb P S=true->(∀e∈S.after,Region.binds .any e=true->R.getD e.on false=true)->Pr S d=true->False:=by intro y S qR qO qD xR;obtain⟨_,e,F,K,zl⟩:=HB hfd qR qO p hd xR;have:=qD e F K;rw[zl,er qi]at this;cases this
     obtain⟨arP,zT⟩:=ie hfd p L hd;have xO:lv P C ops q=true:=by unfold lv;rw[L];simp
     unfold Go.wpOp;simp only[p];rw[show Region.wanted q (yielded ops a.tmps)=true by simp[Region.wanted,zn]];simp only[eJ];refine .inl (BE zo ?_);have xa:Below w.heap.size w (w.alloc ZJ):=⟨rfl,rfl,rfl,by simp,fun k xc=>Below.heap_alloc _ _ _ xc⟩;have qF:=zh xa.size (fun g I _=>xa.block g I) p u (fun _=>xa) (.below xa);have hI2:=(A.arF ZJ).arE (Tt p L xA hd _ st (gd.2 (hlt p))) (mkF q w.heap.size);have zp:(a.put q.dst (mkF q w.heap.size)).tmps.size=nt:=by rw[hd,<-qI];simp[Act.put]
     have zq:(a.put q.dst (mkF q w.heap.size)).tmps.getD d undef=mkF q w.heap.size:=by rw[hd];simp[Act.put,E8,qI,arP]
     have qG:rb P C N ops w0.hd (fun g=>if g=w.heap.size then some (true,ZJ) else hd1 g) M (R.setIfInBounds i true) (fun y=>if y=i then some w.heap.size else E y) (a.put q.dst (mkF q w.heap.size)):=by
      refine⟨j.szM,by simpa using j.Tx,fun y=>?_,fun y g H=>?_,fun y z g H qH=>?_,fun y S zd qR qX qf qv=>?_,fun g v hv=>?_⟩
      .by_cases Z:y=i
       .subst Z;rw[BM (by rw[j.Tx];exact hlt p),aj rfl];simp
       .rw[getD_set_ne false (Ne.symm Z),j.rel,ag Z]
      .by_cases Z:y=i
       .rw[aj Z]at H;cases H;subst Z;refine⟨er xA,q,d,ZJ,p,L,hd,⟨aqV,arO.same fun t qa=>?_,fun e F K=>getD_set_true (qk e F K)⟩,zq,by simp,?_⟩
        .rw[hd];exact ju (fun e=>zS y q p L qk (by rw[<-e];exact qa)) _
        cases qH:w0.hd w.heap.size with
        |none=>rfl
        |some v =>
         obtain⟨b,ob⟩:=v;have:=(A.hd _ _ _ (j.hd _ _ qH)).2.1;omega
       .rw[ag Z]at H;obtain⟨q1,S,zW,arQ,zr,zX,zY,xF,q6,xg,q8⟩:=j.early y g H;refine⟨q1,S,zW,arQ,zr,zX,zY,⟨xF.1,xF.2.1.same fun t qa=>?_,fun e F K=>getD_set_true (xF.2.2 e F K)⟩,?_,?_,q8⟩
        .rw[hd];exact ju (fun e=>zS y S zr zX xF.2.2 (by rw[<-e];exact qa)) _
        .have qo:zW≠d:=fun e=>zT y S zr Z (by rw[zY,e])
         rw[hd,ju qo];exact q6
        .have:g≠w.heap.size:=V8 (A.hd _ _ _ xg).2.1;rw[ag this];exact xg
      .by_cases Z:y=i
       .rw[aj Z]at H;cases H;by_cases xB:z=i
        .rw[Z,xB]
        .rw[ag xB]at qH;obtain⟨_,_,_,_,_,_,_,_,_,xg,_⟩:=j.early z _ qH;exact absurd (A.hd _ _ _ xg).2.1 (Ti _)
       .rw[ag Z]at H;by_cases xB:z=i
        .rw[aj xB]at qH;cases qH;obtain⟨_,_,_,_,_,_,_,_,_,xg,_⟩:=j.early y _ H;exact absurd (A.hd _ _ _ xg).2.1 (Ti _)
        .rw[ag xB]at qH;exact j.inj y z g H qH
      .by_cases Z:y=i
       .subst Z;rw[p]at qR;cases qR;rw[hd]at qf;cases qf;exact⟨_,zq.trans (WN qX _)⟩
       .rw[getD_set_ne false (Ne.symm Z)]at qv;have qo:zd≠d:=fun e=>zT y S qR Z (by rw[qf,e])
        rw[hd,ju qo];exact j.z y S zd qR qX qf qv
      .obtain⟨b,ob⟩:=v;have zZ:=j.hd g _ hv;have:g≠w.heap.size:=V8 (A.hd _ _ _ zZ).2.1;rw[ag this];exact zZ
     have qt:=xj (m+1+Y) (by omega) (m+1) Y rfl (M:=M) (R:=R.setIfInBounds i true) (by omega) zp qG (by rw[hd]at *;exact hI2) hr0;refine⟨qF,pL Y (fun W ja qL X=>SI.step j.Tx qF (fun g I D=>?_) (fun t qa=>ahh a q _ t (qa i q p (er qi))) (fun y S t H qO qC qD xh qd=>?_) (VH.set u) qL X) qt⟩
     .show(if g=w.heap.size then some Key.hid else G.own g)=none;rw[ag (V8 I)];exact D
     .by_cases e:i=y
      .subst e;rw[p]at H;cases H;rw[hd]at qD;cases qD;refine⟨⟨w.heap.size,bq _,zq.trans ?_⟩,fun qY qZ qn qP=>(ie hfd p L hd).2 qY qZ qn fun e=>?_⟩
       .unfold GH at qC;unfold mkF;split at qC
        .rename_i ze;rw[ze]
        .cases qC
       .subst e;rw[BM (by rw[j.Tx];exact hlt p)]at qP;cases qP
      .rw[getD_set_ne false e,xh]at qd;cases qd
    have aqW:∀{xi:Array Bool} {xG:Nat->Option Nat} {qf:Nat->Option (Bool×Obj)} {xH:Gh} {bV:St},rb P C N ops w0.hd qf xi R xG a->Inv {w0 with hd:=qf} xH bV a w->(∀g,g<w.heap.size->G.own g=none->xH.own g=none)->∀Y,n=Y+1->∀(i:Nat) (q:Oper),i∈Region.ready .any ops R->ops[i]?=some q->bb P q=false->xG i=none ->
      GG P C (kk.CX N) ops.toList q bV (fun st=>q3 P C (kk.CX N) ops m (xi.setIfInBounds i true) st k)=some r ->
      wpOp P ops Q i (fun a' B=>SI P C ops G w a R (R.setIfInBounds i true) B/\x6 P ops Q (SI P C ops G w a R) Y (R.setIfInBounds i true) a' B) a w:=by
     intro xi xG qf xH bV qG xI zt Y zm i q u p L xd hr';subst zm;have arR:=fun f qy h=>xI.ao4 (zA f qy h:Fi P {w0 with hd:=qf} f qy)
     have qi:=(mem_ready.1 u).1;have zF:=acC (hlt p) j.Tx qi;unfold Go.wpOp;simp only[p];rcases ME xI.from hr' with ⟨qb,xn,_,xC,qh⟩|⟨qb,zG,xn,xC,qh⟩
     .rw[qb];simp only[eJ];refine .inl (Oper.wp_mono (fun a' B h'=>?_) (ahf arR xC qh (qG.fresh u p) (qG.dlt hfd qI p)));obtain⟨⟨⟨⟨qK,qB,ql,qe⟩,arS⟩,jb⟩,zp,jc⟩:=h';obtain⟨xm,xQ,qW⟩:=xI.WM ql;have qF:=zh xQ (fun g I D=>(qW g I (zt g I D)).2) p u arS jb.2;have qt:=xj (m+Y) (by omega) m Y rfl (M:=xi.setIfInBounds i true) (R:=R.setIfInBounds i true) (by omega) (zp.trans qI) (qG.next hfd p xd qi jc jb.1) (gV _ xm) qe;exact⟨qF,pL Y (fun W ja qL X=>SI.step j.Tx qF (fun g I D=>(qW g I (zt g I D)).1) (fun t qa=>jc t (qa i q p (er qi))) (apK j.Tx p L) (VH.set u) qL X) qt⟩
     .rw[qb];simp only[aaJ,eo];obtain⟨xm,xQ,qW⟩:=xI.WM xC;have qF:=zh (bq _) (fun g I D=>rfl) p u (fun _=>Below.refl _ w) (.below (Below.refl _ w));have qt:=xj (m+Y) (by omega) m Y rfl (M:=xi.setIfInBounds i true) (R:=R.setIfInBounds i true) (by omega) (by rw[<-qI];cases q.dst<;>simp[Act.put])
       (qG.next hfd p xd qi (a':=a.put q.dst undef) (fun t qa=>by
        cases hd:q.dst with
        |none=>simp[Act.put]|some d=>exact ju (fun e=>qa (by rw[hd,e])) undef) fun qX=>by obtain⟨_,_,hgd,_⟩:=GS (C:=C) (N:=N) (fq qX);simp[Region.wanted,hgd]at qb) (gV _ xm) qh
      exact⟨qF,pL Y (fun W ja qL X=>SI.step j.Tx qF (fun g I D=>(qW g I (zt g I D)).1) (fun t qa=>ahh a q undef t (qa i q p (er qi))) (apK j.Tx p L) (VH.set u) qL X) qt⟩
    have jd:∀(x i:Nat) (q:Oper),E x=none\/ops.size<=x->i∈Region.ready .any ops R->ops[i]?=some q->bb P q=false->i∈Region.ready .any ops (gu P ops x (List.range ops.size) M):=by
     intro x i q qq u p L;obtain⟨qi,zP,qE,qk⟩:=mem_ready.1 u;rw[p]at qE;cases qE;obtain⟨xA,xd⟩:=j.unM qi (hlt p);refine mem_ready.2 ⟨?_,q,p,fun e F K=>?_⟩
     .rw[ko p (.inl L)];exact xA
     .have:=qk e F K;rw[j.rel,hh]at this;rcases this with xD|hEe
      .exact ra _ xD
      .obtain⟨g,I⟩:=ek.1 hEe;obtain⟨_,xe,_,_,qw,xf,_⟩:=j.early e.on g I;refine nF qw xf (fun e'=>?_) _ (by rw[j.szM];exact hlt qw) (gd.2 (hlt qw));rcases qq with qq|qq
       .rw[e',qq]at I;cases I
       .have:=hlt qw;omega
    split at O
    ·
     rename_i x o qm;obtain⟨qd,D,xM,xz⟩:=MG qm;rw[<-qz]at qd;cases qq:E x with
     |some g =>
      obtain⟨T,zE,d,ZJ,qS,L,_⟩:=j.early x g qq;rw[D]at qS;cases qS;obtain⟨_,_,zn,_,_⟩:=GS (C:=C) (N:=N) L;have qh:ec P C (kk.CX N) o (eW P ops M (List.range ops.size) st) (fun st=>q3 P C (kk.CX N) ops m (M.setIfInBounds x true) st k)=some r:=by unfold GG at O;rw[zn]at O;exact O
      obtain⟨hd2,zG,xn,qG,xC,qe,arT⟩:=ai8 (nt:=nt) j A qq D qh;have qt:=xj (m+n) (by omega) m n rfl (M:=M.setIfInBounds x true) (R:=R) arG qI qG (gV _ xC) qe;exact pL n (fun W B _ X=>⟨X.1,fun je hg' qS=>X.2.1 je hg' (arT je qS),X.2.2⟩) qt
     |none =>
      have zu:=j.ready qd qq;have qA:=(mem_ready.1 zu).1;cases n with
      |zero=>exact absurd (acD (hlt D) qA) (by omega)
      |succ n =>
       refine⟨fun xh=>by(rw[xh]at zu;cases zu),fun i u=>?_⟩;obtain⟨_,q,p,_⟩:=mem_ready.1 u;cases L:bb P q with
       |true=>exact ahead xz n rfl i q u p L
       |false =>
        have hix:=aa2 xM i (jd x i q (.inl qq) u p L);subst hix;rw[D]at p;cases p;exact aqW j A (fun _ _ h=>h) n rfl i o u D L qq O
    ·
     obtain⟨jf,O⟩:=aG O;rw[az]at jf;obtain⟨xz,hff⟩:=jf;obtain⟨qo,hbr⟩:=WU O;obtain⟨i0,hi0⟩:∃i0,i0∈VC P ops M:=by
      cases hrn:VC P ops M with
      |nil=>rw[hrn]at qo;exact absurd rfl qo|cons i0 _=>exact⟨i0,tu⟩
     obtain⟨zw,zx,qx,apM⟩:=mem_ready.1 hi0;have xK:bb P zx=false:=by
      cases xK:bb P zx with
      |false=>rfl
      |true =>
       have:=nF qx xK (V8 (hlt qx)) (List.range ops.size) (by rw[j.szM];exact hlt qx) (gd.2 (hlt qx));rw[er zw]at this;cases this
     have jg:R.getD i0 true=false:=by
      rw[ko qx (.inl xK)]at zw;refine GW ?_ (by rw[j.Tx];exact hlt qx);rw[j.rel,er zw,yI];cases qm:E i0 with
      |none=>rfl
      |some g =>
       obtain⟨_,zE,_,_,qS,ji,_⟩:=j.early i0 g qm;rw[qx]at qS;cases qS;rw[xK]at ji;cases ji
     cases n with
     |zero=>exact absurd (acD (hlt qx) jg) (by omega)
     |succ n =>
      refine⟨fun xh=>?_,fun i u=>?_⟩
      .exfalso;have arU:∀(y:Nat) (S:Oper),ops[y]?=some S->bb P S=true->R.getD y false=true:=by
        intro y S H qO;cases qv:R.getD y false with
        |true=>rfl
        |false =>
         exfalso;have hy1:=j.unM (GW qv (by rw[j.Tx];exact hlt H)) (hlt H);have:=gb.1 hff y (gd.2 (hlt H));rw[H]at this;dsimp only at this;rw[qO,hy1.1]at this;simp only[bc,yI]at this;have:y∈Region.ready .any ops R:=mem_ready.2 ⟨GW qv (by rw[j.Tx];exact hlt H),S,H,fun e F K=>by have T:=Array.all_eq_true'.1 this e F;rw[K]at T;simp only[bc,yI]at T;rw[j.rel,T,NV]⟩
         rw[xh]at this;cases this
       have:i0∈Region.ready .any ops R:=mem_ready.2 ⟨jg,zx,qx,fun e F K=>by
        have T:=apM e F K;cases xD:M.getD e.on false with
        |true=>rw[j.rel,xD,NV]
        |false =>
         have zy:e.on<ops.size:=by
          rcases Tj e.on ops.size with h|h
          .exact h
          .exfalso;rw[Ai (agI h),xD]at T;cases T
         obtain⟨xe,qw⟩:∃xe,ops[e.on]?=some xe:=⟨_,agF zy⟩;cases xf:bb P xe with
         |true=>exact arU e.on xe qw xf
         |false =>
          exfalso;rw[<-n0 (by rw[Ah,j.szM];exact zy),ko qw (.inl xf),n0 (by rw[j.szM];exact zy),xD]at T;cases T⟩
       rw[xh]at this;cases this
      .obtain⟨_,q,p,qk⟩:=mem_ready.1 u;cases L:bb P q with
       |true=>exact ahead xz n rfl i q u p L
       |false =>
        have hnf:i∈VC P ops M:=jd ops.size i q (.inr (bq _)) u p L;have qj:=hbr _ (Bx.2 ⟨i,hnf,rfl⟩);rw[p]at qj;dsimp only at qj;have xd:E i=none:=(j.unM (mem_ready.1 u).1 (hlt p)).2;obtain⟨xi,xG,qf,xH,bV,zi,qQ,zj,zk,e5⟩:=WT (aln P ops M q) (List.nodup_range.filter _) (fun y H=>by
         obtain⟨_,xL⟩:=List.mem_filter.1 H;split at xL
         .rename_i S qR;simp only[az,V1]at xL;obtain⟨⟨_,xq⟩,h6⟩:=xL;obtain⟨e,F,K⟩:=aaK.1 h6;rw[az]at K;have jk:=qk e F K.1;rw[aA K.2,j.rel,er xq,yI]at jk;exact jk
         .cases xL) j (gV _ A) qj
        exact aqW zi qQ (fun g _ h=>zk g h) n rfl i q u p L (e5 i xd) zj
def ZV (j:∀f e,C f=some e->Fi P w0 f e){Q:Exit->Act->World->Prop}(l:∀c a m w,Q (.panic c) a w->Q (.panic c) m w)(n:Region.noSelect ops=true)(hfd:l2 P ops st.nt=true){k:St->Option U}(p:l4 w0 k r (Q .normal))
  (h:Inv w0 G st a w) (q:q3 P C (kk.CX N) ops ops.size (Array.replicate ops.size false) st k=some r):wpAny P .any ops Q ops.size (Array.replicate ops.size false) a w:=by
 refine WK _ _ _ _ (alS (hd1:=w0.hd) (E:=fun _=>none) j l n hfd p _ _ _ rfl ?_ h.size ⟨by simp,by simp,fun i=>(by simp),fun x g b=>(by cases b),fun x y g b=>(by cases b),fun x s d _ _ _ b=>absurd b (by rw[alR];simp),fun _ _ h=>h⟩ (gV _ h) q);refine aL List.countP_le_length ?_;simp
end
end
end Go.Am
