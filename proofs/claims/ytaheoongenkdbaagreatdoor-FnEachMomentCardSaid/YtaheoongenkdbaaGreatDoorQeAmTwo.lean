/- No condition. -/
import Derived.Test.YtaheoongenkdbaaGreatDoorQeAmCall
set_option linter.all false
namespace Go.Am
open Go.RowKit
section
variable {P:Program} {w0:eH} {w:World} {G:Gh} {st:St} {a:Act} {U:Type} {k:St->Option U} {r:U} {K:Act->World->Prop} {Q:Exit->Act->World->Prop} {o:Oper}
def Ji {f:FuncId}(c:XG P f){args:Array Operand}{ts:Array TypeId}(d:o.op=.call {callee:=.value (.func f),args:=args,argTypes:=ts}) :
  (execOp a.eval o).run P w=.ok (.enter f (args.map a.eval)) w:=by
 obtain⟨fn,g,h,b⟩:=c;unfold execOp;rw[d]
 have i : ¬ fn.name = "runtime.NumGoroutine" := by simpa using h
 have j:¬fn.body=none:=by intro e;rw[e]at b;cases b
 simp[resolve,Act.eval,Deferred.ofValue,invoke,callFunc,g,i,j]
def Ft:∀(l:List AC) (st:St),gr st (st.freeze l)
 |[],st=>.refl st|c::l,st=>(rb st c).trans (Ft l (st.dx c))
def aae {i:Gh}{l:List AC}(y:Inv w0 i (st.freeze l) a w){nf:Bool}(z:nf=true->oy st l=true)(A:nf=true->cj l=true) :
  ∀t c v xs,c∈l->bz i w (st.freeze l).bx (st.freeze l).bl c v->cx (st.freeze l) t c=some xs->∀e,Rd w (RO i nf) (.sl e t) xs [v]:=by
 intro t c v xs d B C e;refine jO y B C (fun id len b j h=>?_) (fun f e u D j=>?_) e
 .subst j;have E:b.w=false:=by
   rcases(Ft l st).bl id with p|⟨q,p,s⟩
   .have:=Jf l st id len b d (p.symm.trans h);rw[h]at this;have:=eE (eE this);rw[this]
   .rw[h]at s;have:=eE (eE s);rw[this]
  refine⟨fun g m=>m.Jc fun n=>?_,fun x=>by rw[E]at x;cases x⟩;obtain⟨q,F,H⟩:=alK (z n) id len d;have:=Jf l st id len q d (dA F);rw[h]at this;cases this;exact H
 .subst j;exact fun g m=>m.Jc fun n=>Ol (A n) f e u D d
def ab0 {cy:St}(h:cy.tm=st.tm)(x:Operand):cy.dR x=st.dR x:=by
 have:cy.ev x=st.ev x:=by
  cases x with
  |tmp t =>
   show cy.get t=st.get t;unfold St.get;rw[h]
  |_=>rfl
 unfold St.dR;rw[this]
def aDZ {cy:St}(h:gr st cy)(p:Ty×Bool)(o:Operand):im1 cy p o=im1 st p o:=by
 unfold im1 imV;rw[ab0 h.tm];split
 .rw[tM h]
 .rw[tM h]
 .rfl
def ahr {cy:St}(h:gr st cy):∀(ps:List (Ty×Bool)) (os:List Operand),NI cy ps os=NI st ps os
 |[],[]=>rfl|[],_::_=>rfl|_::_,[]=>rfl|p::ps,o::os=>by
  simp only[NI];rw[aDZ h];split
  .rw[ahr h ps os]
  .rfl
def NN {cy:St}(h:gr st cy):∀(os:List Operand),j2 cy os=j2 st os
 |[]=>rfl|o::os=>by simp only[j2];rw[ab0 h.tm,NN h os]
def aD0 (G:Gh)(bx:List (Nat×List AC))(bl:List (Nat×Option fo))(g:Nat):Key->Prop
 |.bx d=>(look bx d).isSome=true/\g=G.hb d|.bl id=>(look bl id).isSome=true/\(G.hv id).ownBlock=some g|.hid=>False
def Inv.aJO (h:Inv w0 G st a w){w':World}{f:Nat->Prop}(i:eG f w w')(hfr:∀g,f g->(G.own g).isSome=true)(B:∀g,f g->G.own g≠some .hid)
  {G2:Gh} {bx2:List (Nat×List AC)} {bl2:List (Nat×Option fo)} (hnw:G2.nw=G.nw) (cW:G2.ok=G.ok) (y:∀g,g<w.heap.size->¬f g->G2.own g=G.own g)
  (hs:j5 G st.bx st.bl G2 bx2 bl2)
  (C:W0 G w G2 w'->∀d l,look bx2 d=some l->(look st.bx d=some l/\G2.hb d=G.hb d/\¬f (G.hb d))\/(∃cs e,w'.heap[G2.hb d]?=some (.cells cs e (0,0))/\G2.own (G2.hb d)=some (.bx d)/\cg (bz G2 w' bx2 bl2) l cs.toList))
  (D:∀id b,look bl2 id=some (some b)->(look st.bl id=some (some b)/\G2.hv id=G.hv id/\∀g,G.own g=some (.bl id)->¬f g)\/Et G2 w' id b)
  (bm:∀g k,G2.own g=some k->(w.heap.size<=g\/f g)->g<w'.heap.size/\aD0 G2 bx2 bl2 g k) :
  Inv w0 G2 {st with bx:=bx2,bl:=bl2} a w'/\W0 G w G2 w':=by
 have p:W0 G w G2 w':=by
  refine⟨hnw,cW,i.size,fun b q j=>?_,fun b q j=>?_⟩
  .have u:¬f b:=fun s=>by have:=hfr b s;rw[j]at this;cases this
   exact⟨(y b q u).trans j,i.block b q u⟩
  .have u:¬f b:=fun s=>B b s j
   exact⟨(y b q u).trans j,i.block b q u⟩
 refine⟨⟨hnw.trans h.nw,cW.trans h.rok,?_,h.defers,h.size,h.sp.mono p hs,h.Fq p,fun t v E=>(h.tm t v E).mono p hs,?_,?_,?_⟩,p⟩
 .refine h.below.step i.os i.tape i.output i.size fun k x s=>i.block k (En x h.below.size) fun F=>?_
  obtain⟨key,z⟩:=iR.1 (hfr k F);rcases(h.own k key z).1 with h1|h1
  .omega
  .exact s h1
 .intro d l H;rcases C p d l H with ⟨h1,m,c⟩|h1
  .obtain⟨cs,e,I,A,L⟩:=h.bx d l h1;have hlt:=(h.own _ _ A).2.1;refine⟨cs,e,?_,?_,L.imp fun _ _=>bz.mono p hs⟩
   .rw[m,i.block _ hlt c];exact I
   .rw[m,y _ hlt c];exact A
  .exact h1
 .intro id b q;rcases D id b q with ⟨h1,m,c⟩|h1
  .refine(h.bl id b h1).mono p m fun O g R j=>?_
   have hlt:=(h.own _ _ j).2.1;exact⟨(y g hlt (c g j)).trans j,i.block g hlt (c g j)⟩
  .exact h1
 .intro g k x;by_cases n:w.heap.size<=g\/f g
  .obtain⟨h1,m⟩:=bm g k x n;refine⟨?_,h1,by cases k with|bx d=>exact m|bl id=>exact m|hid=>exact m.elim⟩;rcases n with n|n
   .exact .inl (bZ h.below.size n)
   .obtain⟨key,z⟩:=iR.1 (hfr g n);exact(h.own g key z).1
  .have hlt:g<w.heap.size:=by
    by_cases M:g<w.heap.size
    .exact M
    .exact absurd (.inl (by omega)) n
   have N:¬f g:=fun s=>n (.inr s)
   rw[y g hlt N]at x;obtain⟨h1,m,c⟩:=h.own g k x;refine⟨h1,En m i.size,?_⟩;cases k with
   |hid=>trivial|bx d=>exact⟨(hs.bx d c.1).1,by rw[(hs.bx d c.1).2];exact c.2⟩
   |bl id=>exact⟨(hs.bl id c.1).1,by rw[(hs.bl id c.1).2.1];exact c.2⟩
def NO (L:List (Nat×fo×Value))(g:Nat):Option Key:=(L.find? fun z=>z.2.2.ownBlock==some g).map fun z=>.bl z.1
def CL (L:List (Nat×fo×Value))(B:Option (Nat×Nat×List AC))(g:Nat):Option Key:=match B with
 |some (d,b,_)=>if g=b then some (.bx d) else NO L g|none=>NO L g
def Gh.back (G:Gh)(c:Nat)(own0 bN:Nat->Option Nat)(L:List (Nat×fo×Value))(B:Option (Nat×Nat×List AC)):Gh :=
 {nw:=G.nw,ok:=G.ok,
  hb:=fun x=>match B with|some (d,b,_)=>if x=d then b else G.hb x|none=>G.hb x,
  hv:=fun i=>match L.find? (·.1==i) with|some z=>z.2.2|none=>G.hv i,
  own:=fun g=>if g<c/\own0 g=none then G.own g else match bN g with|none=>none|some _=>CL L B g}
structure alQ (w w':World) (G:Gh) (st:St) (own0 bN:Nat->Option Nat) (okE:Bool->Nat->Prop) (L:List (Nat×fo×Value)) (B:Option (Nat×Nat×List AC))
  (bx2:List (Nat×List AC)) (bl2:List (Nat×Option fo)):Prop where
 keeps:eG (fun g=>(own0 g).isSome=true) w w'
 pass:∀g j,own0 g=some j->(G.own g).isSome=true
 aI9:∀g j,own0 g=some j->G.own g≠some .hid
 new:∀g j,bN g=some j->w.heap.size<=g\/(own0 g).isSome=true
 els:∀f g,okE f g->RO (G.back w.heap.size own0 bN L B) f g
 row:∀z∈L,z.2.1.w=true/\0<z.2.1.t.n/\(∃rows,w'.ownsRow 0 z.2.1.e z.2.1.t.n z.2.2 z.2.1.xs.length rows/\eT w' (okE z.2.1.f) z.2.1.t rows z.2.1.xs)/\∀g,z.2.2.ownBlock=some g->(bN g).isSome=true
 inj:∀z∈L,∀z'∈L,∀g,z.2.2.ownBlock=some g->z'.2.2.ownBlock=some g->z=z'
 uniq:∀z∈L,∀z'∈L,z.1=z'.1->z=z'
 name:∀z∈L,look st.bl z.1=none\/(z.2.2=G.hv z.1/\∃b,look st.bl z.1=some (some b)/\b.t=z.2.1.t)
 bl:∀i b,look bl2 i=some (some b)->(∃v,(i,b,v)∈L)\/((∀z∈L,z.1≠i)/\look st.bl i=some (some b)/\∀g,G.own g=some (.bl i)->own0 g=none)
 bls:∀i,(look st.bl i).isSome=true->(look bl2 i).isSome=true
 blL:∀z∈L,(look bl2 z.1).isSome=true
 bx:∀d l,look bx2 d=some l->(∃g0,B=some (d,g0,l))\/((∀d' g l',B=some (d',g,l')->d'≠d)/\look st.bx d=some l/\own0 (G.hb d)=none)
 bxs:∀d,(look st.bx d).isSome=true->(look bx2 d).isSome=true
 bxB:∀d g l,B=some (d,g,l)->(look bx2 d).isSome=true/\(look st.bx d=none\/G.hb d=g)/\((bN g).isSome=true/\∀z∈L,z.2.2.ownBlock≠some g) /\
  ∃cs e f t x,w'.heap[g]?=some (.cells cs e (0,0))/\l=ex f t x/\Rd w' (okE f) t x cs.toList
def alQ.find {w w':World}{G:Gh}{st:St}{own0 bN:Nat->Option Nat}{okE:Bool->Nat->Prop}{L:List (Nat×fo×Value)}{B:Option (Nat×Nat×List AC)}
  {bx2:List (Nat×List AC)} {bl2:List (Nat×Option fo)} (h:alQ w w' G st own0 bN okE L B bx2 bl2) {z:Nat×fo×Value} (b:z∈L) {g:Nat} (c:z.2.2.ownBlock=some g) :
  (G.back w.heap.size own0 bN L B).own g=some (.bl z.1):=by
 obtain⟨t,j⟩:=iR.1 ((h.row z b).2.2.2 g c);have m:NO L g=some (.bl z.1):=by
  unfold NO;cases e:L.find? fun z=>z.2.2.ownBlock==some g with
  |none =>
   have:=alc.1 e z b;simp[c]at this
  |some y =>
   have n:=ahh e;have f:=TW e;have:=h.inj z b y f g c (by simpa using n);rw[<-this];rfl
 have p:¬(g<w.heap.size/\own0 g=none):=by
  rintro⟨n,f⟩;rcases h.new g _ j with i|i
  .omega
  .rw[f]at i;cases i
 unfold Gh.back;dsimp only;rw[af p,j];dsimp only;unfold CL;split
 .rename_i d u l;split
  .rename_i q;subst q;obtain⟨_,_,⟨v,s⟩,_⟩:=h.bxB d g l rfl;exact absurd c (s z b)
  .exact m
 .exact m
def Inv.back (h:Inv w0 G st a w){w':World}{own0 bN:Nat->Option Nat}{okE:Bool->Nat->Prop}{L:List (Nat×fo×Value)}{B:Option (Nat×Nat×List AC)}
  {bx2:List (Nat×List AC)} {bl2:List (Nat×Option fo)} (j:alQ w w' G st own0 bN okE L B bx2 bl2) :
  Inv w0 (G.back w.heap.size own0 bN L B) {st with bx:=bx2,bl:=bl2} a w'/\∀c v,sU L c v->bz (G.back w.heap.size own0 bN L B) w' bx2 bl2 c v:=by
 have hvL:∀z∈L,(G.back w.heap.size own0 bN L B).hv z.1=z.2.2:=by
  intro z I;show(match L.find? (·.1==z.1) with|some z=>z.2.2|none=>G.hv z.1)=_;cases C:L.find? (·.1==z.1) with
  |none =>
   have:=alc.1 C z I;simp at this
  |some y =>
   have h1:=ahh C;have D:=TW C;rw[j.uniq y D z I (by simpa using h1)]
 have qf:∀i,(∀z∈L,z.1≠i)->(G.back w.heap.size own0 bN L B).hv i=G.hv i:=by
  intro i M;show(match L.find? (·.1==i) with|some z=>z.2.2|none=>G.hv i)=_;cases C:L.find? (·.1==i) with
  |none=>rfl
  |some y =>
   have h1:=ahh C;exact absurd (by simpa using h1) (M y (TW C))
 have qg:∀d,(∀F g l,B=some (F,g,l)->F≠d)->(G.back w.heap.size own0 bN L B).hb d=G.hb d:=by
  intro d N;show(match B with|some (F,E,_)=>if d=F then E else G.hb d|none=>G.hb d)=_;cases B with
  |none=>rfl
  |some q =>
   obtain⟨F,g,l⟩:=q;have:=N F g l rfl;show(if d=F then g else G.hb d)=_;rw[af fun e=>this e.symm]
 have qa:∀d g l,B=some (d,g,l)->(G.back w.heap.size own0 bN L B).hb d=g:=by intro d g l u;subst u;simp[Gh.back]
 have qm:j5 G st.bx st.bl (G.back w.heap.size own0 bN L B) bx2 bl2:=by
  refine⟨fun d N=>⟨j.bxs d N,?_⟩,fun i M=>⟨j.bls i M,?_,fun qh qn=>?_⟩⟩
  .by_cases H:∃g l,B=some (d,g,l)
   .obtain⟨g,l,H⟩:=H;rw[qa d g l H];rcases(j.bxB d g l H).2.1 with h1|h1
    .rw[h1]at N;cases N
    .exact h1.symm
   .exact qg d fun F g l u qo=>H ⟨g,l,by rw[u,qo]⟩
  .by_cases H:∃z∈L,z.1=i
   .obtain⟨z,I,rfl⟩:=H;rw[hvL z I];rcases j.name z I with h1|⟨h1,_⟩
    .rw[h1]at M;cases M
    .exact h1
   .exact qf i fun z I qp=>H ⟨z,I,qp⟩
  .rcases j.bl i qh qn with ⟨v,W⟩|⟨_,h1,_⟩
   .rcases j.name _ W with h1|⟨_,b,D,m⟩
    .rw[h1]at M;cases M
    .exact⟨b,D,m⟩
   .exact⟨qh,h1,rfl⟩
 have qq:=h.aJO (G2:=G.back w.heap.size own0 bN L B) (bx2:=bx2) (bl2:=bl2) j.keeps (fun g p=>by
   obtain⟨O,qd⟩:=iR.1 p;exact j.pass g O qd) (fun g p=>by
   obtain⟨O,qd⟩:=iR.1 p;exact j.aI9 g O qd) rfl rfl (fun g p C=>by
   have:own0 g=none:=by
    cases R:own0 g with
    |none=>rfl|some O=>rw[R]at C;exact absurd rfl C
   simp[Gh.back,p,this]) qm (fun qA d l N=>by
   rcases j.bx d l N with ⟨E,p⟩|⟨h1,D,m⟩
   .refine .inr ?_;obtain⟨_,_,⟨qt,qi⟩,cs,e,f,t,x,qb,rfl,qu⟩:=j.bxB d E l p;obtain⟨O,S⟩:=iR.1 qt;refine⟨cs,e,by rw[qa d E _ p];exact qb,?_,Ud (ic (fun g p=>j.els f g p) qu)⟩;rw[qa d E _ p];have qe:¬(E<w.heap.size/\own0 E=none):=by
     rintro⟨qB,qv⟩;rcases j.new E O S with m|m
     .omega
     .rw[qv]at m;cases m
    subst p;unfold Gh.back;dsimp only;rw[af qe,S];simp[CL]
   .exact .inl ⟨D,qg d h1,by rw[m];simp⟩) (fun i b X=>by
   rcases j.bl i b X with ⟨v,W⟩|⟨h1,D,m⟩
   .refine .inr ?_;obtain⟨qw,qx,⟨rows,S,qi⟩,qb⟩:=j.row _ W;have Y:=hvL _ W;refine⟨fun _=>⟨rows,?_,?_,?_⟩,fun qj=>?_,qx⟩
    .rw[Y];exact S
    .rw[Y];exact fun g p=>j.find W p
    .exact k8 (fun g p=>j.els _ g p) qi
    .rw[show b.w=true from qw]at qj;cases qj
   .exact .inl ⟨D,qf i h1,fun g p=>by rw[m g p];simp⟩) (fun g key A qy=>by
   have qe:¬(g<w.heap.size/\own0 g=none):=by
    rintro⟨h1,D⟩;rcases qy with m|m
    .omega
    .rw[D]at m;cases m
   have qC:=A;unfold Gh.back at A;dsimp only at A;rw[af qe]at A;cases R:bN g with
   |none=>rw[R]at A;cases A
   |some O =>
    rw[R]at A;dsimp only at A;have qk:NO L g=some key->g<w'.heap.size/\aD0 (G.back w.heap.size own0 bN L B) bx2 bl2 g key:=by
     intro Z;unfold NO at Z;cases C:L.find? fun z=>z.2.2.ownBlock==some g with
     |none=>rw[C]at Z;cases Z
     |some y =>
      rw[C]at Z;cases Z;have h1:=ahh C;have D:=TW C;have m:y.2.2.ownBlock=some g:=by simpa using h1
      refine⟨?_,j.blL y D,by rw[hvL y D];exact m⟩;obtain⟨_,_,⟨rows,S,_⟩,_⟩:=j.row y D;rcases S.2 with ⟨u,_⟩|⟨ql,cap,cur,u,_,qz,_⟩
      .rw[u]at m;simp[Value.ownBlock]at m
      .rw[u]at m;have:ql=g:=by simpa [Value.ownBlock]using m
       subst this;exact(wZ.1 qz).1
    unfold CL at A;split at A
    .rename_i d E l;by_cases u:g=E
     .rw[ag u]at A;cases A;obtain⟨h1,_,_,cs,e,f,t,x,qb,_⟩:=j.bxB d E l rfl;subst u;exact⟨(wZ.1 qb).1,h1,(qa d g l rfl).symm⟩
     .rw[af u]at A;exact qk A
    .exact qk A)
 refine⟨qq.1,fun c v T=>?_⟩;cases c with
 |own i len =>
  cases len with
  |some l=>exact T.elim
  |none =>
   obtain⟨b,X⟩:=T;have Y:=hvL _ X;refine⟨j.blL _ X,?_,Y.symm⟩;rw[show(G.back w.heap.size own0 bN L B).hv i=v from Y];obtain⟨_,_,⟨rows,R,_⟩,_⟩:=j.row _ X;rcases R.2 with ⟨u,_⟩|⟨ql,cap,cur,u,_⟩
   .exact⟨_,_,_,u⟩
   .exact⟨_,_,_,u⟩
 |int k n=>exact T|bool b=>exact T|str s=>exact T|_=>exact T.elim
def ie:List AC->List Nat
 |[]=>[]|.own id _::l=>id::ie l|_::l=>ie l
def aCr {m:Nat}(i:m=2\/m=3){seen:List Nat}{id:Nat}{len:Option Int}{l:List AC}(h:gn st m seen (.own id len::l)=true) :
  ∃b,st.oG id=some b/\(m=2->b.f=true)/\b.w=true/\id ∉ seen/\len=none/\gn st m (id::seen) l=true:=by
 simp only[gn]at h;split at h
 .rename_i b d;have hlen:∀o:Option Int,(match o with|none=>true|some _=>false)=true->o=none:=by
   intro o j;cases o with
   |none=>rfl|some _=>cases j
  have e:∀c:Bool,(!c)=true->c=false:=by intro c n;cases c with|false=>rfl|true=>cases n
  have f:XF seen id=false->id ∉ seen:=fun g p=>by rw[Uk.2 p]at g;cases g
  rcases i with rfl|rfl
  .simp only[aA,iS]at h;exact⟨b,d,fun _=>h.1.1.elim (fun h=>h.elim (fun h=>h) (fun h=>by cases h)) (fun h=>by cases h),h.1.2.1.1,f (e _ h.1.2.1.2),hlen _ h.1.2.2,h.2⟩
  .simp only[aA]at h;exact⟨b,d,fun q=>(by cases q),h.1.2.1.1,f (e _ h.1.2.1.2),hlen _ h.1.2.2,h.2⟩
 .cases h
def ayZ {m:Nat}{seen:List Nat}{c:AC}{l:List AC}(b:∀id len,c≠.own id len)(h:gn st m seen (c::l)=true):gn st m seen l=true:=by
 cases c with
 |own id len=>exact absurd rfl (b id len)|ro f e t xs=>simp only[gn,aA]at h;exact h.2|_=>exact h
def W5 {m:Nat}(g:m=2\/m=3):∀{l:List AC} {seen:List Nat},gn st m seen l=true->(ie l).Nodup/\(∀id∈ie l,id ∉ seen)/\∀id len,AC.own id len∈l->len=none/\∃b,st.oG id=some b
 |[],seen,_=>⟨List.nodup_nil,fun id hi=>by simp[ie]at hi,fun id len hi=>by simp at hi⟩
 |c::l,seen,h=>by
  by_cases q:∃id len,c=.own id len
  .obtain⟨id,len,rfl⟩:=q;obtain⟨b,s,_,_,t,hlen,u⟩:=aCr g h;obtain⟨j,e,n⟩:=W5 g u;refine⟨alh.2 ⟨fun hi=>e id hi (by simp),j⟩,fun i hi=>?_,fun i f hi=>?_⟩
   .rcases cN.1 (show i∈id::ie l from hi) with rfl|hi
    .exact t
    .exact fun v=>e i hi (by simp[v])
   .rcases cN.1 hi with d|hi
    .cases d;exact⟨hlen,b,s⟩
    .exact n i f hi
  .have p:∀id len,c≠.own id len:=fun id len d=>q ⟨id,len,d⟩
   obtain⟨j,e,n⟩:=W5 g (ayZ p h);have d:ie (c::l)=ie l:=by
    cases c with
    |own id len=>exact absurd rfl (p id len)|_=>rfl
   rw[d];refine⟨j,e,fun i f hi=>?_⟩;rcases cN.1 hi with x|hi
   .exact absurd x.symm (p i f)
   .exact n i f hi
def aeY (id:Nat):∀(l:List AC),look (st.gone l).bl id=if id∈ie l then some none else look st.bl id
 |[]=>by simp[ie,St.gone]
 |c::l=>by
  have d:=aeY id l;cases c with
  |own i len =>
   show look ((i,none)::(st.gone l).bl) id=_;rw[aq];by_cases b:i=id
   .simp[b,ie]
   .rw[af b,d];have f:¬id=i:=fun e=>b e.symm
    simp[ie,f]
  |_=>exact d
structure att (w':World) (okE:Nat->Prop) (f:Bool) (bN:Nat->Option Nat) (G:Gh) (st:St) (z:Nat×Nat×fo×Value):Prop where
 wr:z.2.2.1.w=true
 nf:z.2.2.1.f=f
 pos:0<z.2.2.1.t.n
 row:∃rows,w'.ownsRow 0 z.2.2.1.e z.2.2.1.t.n z.2.2.2 z.2.2.1.xs.length rows/\eT w' okE z.2.2.1.t rows z.2.2.1.xs
 oG:∀g,z.2.2.2.ownBlock=some g->bN g=some z.1
 hv:z.2.2.2=G.hv z.2.1
 old:∃b,look st.bl z.2.1=some (some b)/\b.t=z.2.2.1.t
def FrC.len {w:World}{okE:Nat->Prop}{own:Nat->Option Nat}:∀{t:Ty} {x:t.D} {j:Nat} {cs:List Value},FrC w okE own t x j cs->cs.length=t.n
 |.int _,_,_,_,h=>by rw[show _=_ from h];rfl
 |.bool,_,_,_,h=>by rw[show _=_ from h];rfl
 |.str,_,_,_,h=>by rw[show _=_ from h];rfl
 |.unit,_,_,_,h=>by rw[show _=_ from h];rfl
 |.pair a b,_,_,_,h=>by obtain⟨f,g,rfl,c,d⟩:=h;simp[Ty.n,FrC.len c,FrC.len d]
 |.sl e t,_,_,_,h=>by obtain⟨v,rows,rfl,_⟩:=h;rfl
def FrC.els {w:World}{okE alR:Nat->Prop}{own:Nat->Option Nat}:∀{t:Ty} {x:t.D} {j:Nat} {cs:List Value},FrC w okE own t x j cs->(∀g,okE g->alR g)->FrC w alR own t x j cs
 |.int _,_,_,_,h,_=>h|.bool,_,_,_,h,_=>h|.str,_,_,_,h,_=>h|.unit,_,_,_,h,_=>h|.pair a b,_,_,_,h,c=>by obtain⟨i,l,e,d,f⟩:=h;exact⟨i,l,e,FrC.els d c,FrC.els f c⟩
 |.sl e t,_,_,_,h,c=>by obtain⟨v,rows,d,f,m,n,p⟩:=h;exact⟨v,rows,d,f,m,n,k8 c p⟩
def oI.aHD {w:World}{okE alR:Nat->Prop}{own:Nat->Option Nat}(b:∀g,okE g->alR g):∀{rs:List (Ty×Bool)} {x:Args rs} {j:Nat} {vs:List Value},oI w okE own rs x j vs->oI w alR own rs x j vs
 |[],_,_,_,h=>h|_::_,_,_,_,h=>by obtain⟨v,c,e,⟨cs,d,f⟩,i⟩:=h;exact⟨v,c,e,⟨cs,FrC.els d b,f⟩,oI.aHD b i⟩
def aGg (h:Inv w0 G st a w){l:List AC}:∀t c v xs,c∈l->bz G w st.bx st.bl c v->cx st t c=some xs->∀e,Rd w (fun _=>True) (.sl e t) xs [v]:=fun t c v xs _=>Uj h t c v xs
def aeZ {w':World}{okE:Nat->Prop}{f:Bool}{bN:Nat->Option Nat}:∀{t:Ty} {B x:t.D} {j:Nat} {l h:List AC} {vs u cs:List Value},
  im st t l=some (B,h)->cg (bz G w st.bx st.bl) l vs->(∀id len,AC.own id len∈l->len=none/\∃b,st.oG id=some b)->FrC w' okE bN t x j cs->vs=cs++u ->
  ∃(C:List AC) (L:List (Nat×Nat×fo×Value)),l=C++h/\cg (bz G w st.bx st.bl) h u/\(sT f t x l).2=h/\(sT f t x l).1=L.map (fun z=>(z.2.1,some z.2.2.1))/\L.map (·.2.1)=ie C /\
   (∀z∈L,j<=z.1/\z.1<j+t.n/\att w' okE f bN G st z)/\(∀z∈L,∀A∈L,z.1=A.1->z=A)
 |.int k,B,x,j,l,h,vs,u,cs,g,hrel,bm,i,m=>by
  cases l with
  |nil=>simp[im]at g
  |cons c l =>
   cases c with
   |int q n =>
    simp only[im]at g;split at g
    .cases g;subst m;rw[show cs=_ from i]at hrel;exact⟨[_],[],rfl,hrel.2,rfl,rfl,rfl,fun z d=>by simp at d,fun z d=>by simp at d⟩
    .cases g
   |_=>simp[im]at g
 |.bool,B,x,j,l,h,vs,u,cs,g,hrel,bm,i,m=>by
  cases l with
  |nil=>simp[im]at g
  |cons c l =>
   cases c with
   |bool b =>
    simp only[im]at g;cases g;subst m;rw[show cs=_ from i]at hrel;exact⟨[_],[],rfl,hrel.2,rfl,rfl,rfl,fun z d=>by simp at d,fun z d=>by simp at d⟩
   |_=>simp[im]at g
 |.str,B,x,j,l,h,vs,u,cs,g,hrel,bm,i,m=>by
  cases l with
  |nil=>simp[im]at g
  |cons c l =>
   cases c with
   |str b =>
    simp only[im]at g;cases g;subst m;rw[show cs=_ from i]at hrel;exact⟨[_],[],rfl,hrel.2,rfl,rfl,rfl,fun z d=>by simp at d,fun z d=>by simp at d⟩
   |_=>simp[im]at g
 |.unit,B,x,j,l,h,vs,u,cs,g,hrel,bm,i,m=>by simp only[im]at g;cases g;subst m;rw[show cs=[] from i]at hrel;exact⟨[],[],rfl,hrel,by simp[sT],by simp[sT],rfl,fun z d=>by simp at d,fun z d=>by simp at d⟩
 |.pair p q,B,x,j,l,h,vs,u,cs,g,hrel,bm,i,m=>by
  simp only[im]at g;split at g
  .rename_i y W X;split at g
   .rename_i z qy d;cases g;obtain⟨qz,qA,rfl,Y,Z⟩:=i;obtain⟨C,qa,M,qb,N,qd,qe,E,qf⟩:=aeZ (f:=f) X hrel bm Y (by rw[m,gI]);obtain⟨qg,qh,qi,qj,qk,ql,qm,F,qn⟩:=aeZ (f:=f) (l:=W) d qb (fun id len qo=>bm id len (by rw[M];simp[qo])) Z rfl;refine⟨C++qg,qa++qh,by rw[M,qi,gI],qj,?_,?_,?_,fun z d=>?_,fun z d A s O=>?_⟩
    .simp only[sT,N,qk]
    .simp only[sT,N,qd,ql,ahg]
    .rw[ahg,qe,qm];have app:∀(a b:List AC),ie (a++b)=ie a++ie b:=by
      intro a b
      induction a with
      |nil=>rfl
      |cons c a R =>
       cases c with
       |own id len=>simp[ie,R]|_=>simp[ie,R]
     rw[app]
    .rcases gK.1 d with d|d
     .obtain⟨S,qp,H⟩:=E z d;exact⟨S,by simp only[Ty.n];omega,H⟩
     .obtain⟨S,qp,H⟩:=F z d;exact⟨by omega,by simp only[Ty.n];omega,H⟩
    .rcases gK.1 d with d|d<;>rcases gK.1 s with s|s
     .exact qf z d A s O
     .have:=(E z d).2.1;have:=(F A s).1;omega
     .have:=(F z d).1;have:=(E A s).2.1;omega
     .exact qn z d A s O
   .cases g
  .cases g
 |.sl e t,B,x,j,l,h,vs,u,cs,g,hrel,bm,i,m=>by
  cases l with
  |nil=>simp[im]at g
  |cons c l =>
   simp only[im]at g;split at g
   .rename_i qB D;cases g;obtain⟨v,rows,rfl,qq,qt,qu,qv⟩:=i;subst m;have qw:bz G w st.bx st.bl c v:=hrel.1;have I:cg (bz G w st.bx st.bl) h u:=hrel.2;cases c with
    |own id len =>
     obtain⟨hlen,b,T⟩:=bm id len (by simp);subst hlen;simp only[cx,T]at D;split at D
     .rename_i qx;refine⟨[.own id none],[(j,id,⟨e,t,x,f,true⟩,v)],rfl,I,rfl,rfl,rfl,fun z d=>?_,fun z d A s _=>?_⟩
      .simp at d;subst d;refine⟨bf _,by simp[Ty.n],rfl,rfl,qq,⟨rows,qt,qv⟩,qu,qw.2.2,b,dA T,Ty.beq_eq qx⟩
      .simp at d s;rw[d,s]
     .cases D
    |nil=>exact⟨[_],[],rfl,I,rfl,rfl,rfl,fun z d=>by simp at d,fun z d=>by simp at d⟩
    |ro qC qD qE qF=>exact⟨[_],[],rfl,I,rfl,rfl,rfl,fun z d=>by simp at d,fun z d=>by simp at d⟩
    |_=>simp[cx]at D
   .cases g
def Um {cy:St}(h:gr st cy)(pm:PM):∀(i:Nat) (os:List Operand),gp cy pm i os=gp st pm i os
 |0,[]=>rfl|_+1,[]=>rfl|0,o::os=>by simp only[gp];rw[ab0 h.tm,NN h os,h.bx]
 |i+1,o::os=>by simp only[gp];rw[ab0 h.tm,Um h pm i os]
def BI (h:Inv w0 G st a w){ok nw:Nat->Prop}{own0:Nat->Option Nat}{g0:Nat}{pm:PM}:∀(i:Nat) (ps:List (Ty×Bool)) (os:List Operand) (x:Args ps),
  (∀t c v xs,c∈gp st pm i os->bz G w st.bx st.bl c v->cx st t c=some xs->∀e,Rd w ok (.sl e t) xs [v])->jy st pm i ps os=some x ->
  (∀p o y,mA os i=some o->mA ps i=some p->im2 st pm p o=some y->(pm=.rd->∀t c v xs,c∈(st.dR o).cells->bz G w st.bx st.bl c v->cx st t c=some xs->∀e,Rd w ok (.sl e t) xs [v])->aI6 w ok nw own0 g0 pm p y (a.eval o)) ->
  ∃o p,mA os i=some o/\mA ps i=some p/\(∃y,im2 st pm p o=some y)/\Ui w ok nw own0 g0 pm i ps x (os.map a.eval) (a.eval o)
 |0,[],os,x,_,b,_=>by cases os<;>simp[jy]at b
 |_+1,[],os,x,_,b,_=>by cases os<;>simp[jy]at b
 |0,p::ps,[],x,_,b,_=>by simp[jy]at b
 |_+1,p::ps,[],x,_,b,_=>by simp[jy]at b
 |0,p::ps,o::os,x,f,b,j=>by
  simp only[jy]at b;split at b
  .rename_i y g;split at b
   .rename_i l m;cases b;refine⟨o,p,rfl,rfl,⟨y,g⟩,os.map a.eval,rfl,j p o y rfl rfl g (fun s t c v xs d=>f t c v xs ?_),IQ h ps os l (fun t c v xs d=>f t c v xs ?_) m⟩
    .subst s;simp[gp,d]
    .simp[gp,d]
   .cases b
  .cases b
 |i+1,p::ps,o::os,x,f,b,j=>by
  simp only[jy]at b;split at b
  .rename_i y g;split at b
   .rename_i l m;cases b;obtain⟨u,z,n,q,A,B⟩:=BI h i ps os l (fun t c v xs d=>f t c v xs (by simp[gp,d])) m (fun p o y n q=>j p o y n q);exact⟨u,z,n,q,A,a.eval o,os.map a.eval,rfl,ats h (fun t c v xs d=>f t c v xs (by simp[gp,d])) g,B⟩
   .cases b
  .cases b
def Jj (h:Inv w0 G st a w){own0 bN:Nat->Option Nat}(n:∀g i,own0 g=some i->(G.own g).isSome=true)(L:List (Nat×fo×Value))(B:Option (Nat×Nat×List AC))(f:Bool)(g:Nat)
  (j:bN g=none/\((G.nw g/\(G.own g=none\/(own0 g).isSome=true))\/(f=false/\RO G false g))):RO (G.back w.heap.size own0 bN L B) f g:=by
 obtain⟨l,e⟩:=j;have bm:(G.back w.heap.size own0 bN L B).own g=none:=by
  show(if g<w.heap.size/\own0 g=none then G.own g else match bN g with|none=>none|some _=>CL L B g)=none;by_cases c:g<w.heap.size/\own0 g=none
  .rw[ag c];rcases e with ⟨_,b|b⟩|⟨_,b⟩
   .exact b
   .rw[c.2]at b;cases b
   .exact b.1
  .rw[af c,l]
 refine⟨bm,?_⟩;rcases e with ⟨b,_⟩|⟨b,m⟩
 .exact .inl b
 .rcases m.2 with d|d
  .exact .inl d
  .exact .inr ⟨b,d.2⟩
def Oq (h:Inv w0 G st a w){own0:Nat->Option Nat}(e:∀g b,own0 g=some b->(G.own g).isSome=true) :
  Handed w (fun g=>w0.w.heap.size<=g\/w0.fr g) (RO G false) (fun g=>G.nw g/\(G.own g=none\/(own0 g).isSome=true)) own0 where
 k7 g c:=by
  refine⟨h.avX c,.inl ?_⟩;cases d:G.own g with
  |none=>rfl|some k=>have:=(h.own g k d).2.1;omega
 bm g b f:=by obtain⟨k,i⟩:=iR.1 (e g b f);obtain⟨j,l,_⟩:=h.own g k i;exact⟨⟨h.Uc i,.inr (by rw[f];rfl)⟩,l,j⟩
 cW g c:=by
  cases d:own0 g with
  |none=>rfl
  |some b =>
   have:=e g b d;rw[c.1]at this;cases this
def ay0 {ok:Nat->Prop}{p:Ty×Bool}(c:p.2=true){x:Args [p]}{cs:Array Value}(h:dS w ok [p] x [.agg cs]):Rd w ok p.1 x.1 cs.toList:=by obtain⟨v,i,d,⟨e,f,b⟩,_⟩:=h;rw[c]at b;have:v=.agg cs:=(s6 d).1.symm;rw[this]at b;have g:cs=e.toArray:=Value.agg.inj b;rw[g];exact f
def Un {G:Gh}{bx:List (Nat×List AC)}{bl:List (Nat×Option fo)}{L:List (Nat×fo×Value)}(h:∀c v,sU L c v->bz G w bx bl c v){c:CV}{v:Value}(b:av4 L c v):en G w bx bl c v:=by
 cases c with
 |c x=>exact h x v b
 |agg l =>
  obtain⟨cs,d,e⟩:=b;exact⟨cs,d,e.imp h⟩
def aGh (h:Inv w0 G st a w){con:Og}{ok:Nat->Prop}{w':World}{g0:Nat}{u:Value}{y:Args con.rs×Args con.qs}{us:List Value}(cW:∀g,ok g->RO G false g)
  {t:Bool} (x:rdM con.m=some t) (n:alN con w w' ok (fun g=>G.nw g/\(G.own g=none\/(none:Option Nat).isSome=true)) (fun _=>none) g0 u y us) (N:eG (fun g=>(none:Option Nat).isSome=true) w w') {d:Tmp}
  (p:as5 t con.rs st d y.1 k=some r) (O:ra w0 k r K):K (a.put (some d) (eZ us)) w':=by
 obtain⟨bN,k7,_,n⟩:=n;have n:∃b cs e,us=[.pointer (some ⟨b,0,none⟩)]/\w.heap.size<=b/\(bN b).isSome=true/\w'.heap[b]?=some (.cells cs e (0,0)) /\
   dS w' (fun g=>bN g=none/\((G.nw g/\(G.own g=none\/(none:Option Nat).isSome=true))\/(t=false/\ok g))) con.rs y.1 [.agg cs]:=by
  unfold rdM at x;split at x
  .rename_i q;cases x;rw[q]at n;obtain⟨b,cs,e,B,A,C,q,D⟩:=n;exact⟨b,cs,e,B,A,C,q,jP (fun g c=>⟨c.1,.inl c.2⟩) D⟩
  .rename_i q;cases x;rw[q]at n;obtain⟨b,cs,e,B,A,C,q,D⟩:=n;exact⟨b,cs,e,B,A,C,q,jP (fun g c=>⟨c.1,c.2.imp_right fun h=>⟨rfl,h⟩⟩) D⟩
  .cases x
 obtain⟨b,cs,e,rfl,qb,R,S,T⟩:=n;obtain⟨qd,i,pm,rs,m,qe,g⟩:=con;dsimp only at *;unfold as5 at p;split at p
 .rename_i E qf;split at p
  .rename_i W;obtain⟨F,p⟩:=aU p;rw[aA]at F;have X:=ay0 F.2 T;have Y:alQ w w' G st (fun _=>none) bN (fun f g=>bN g=none/\((G.nw g/\(G.own g=none\/(none:Option Nat).isSome=true))\/(f=false/\RO G false g))) [] (some (d,b,ex t E.1 y.1.1))
     ((d,ex t E.1 y.1.1)::st.bx) st.bl:=by
    refine⟨N,fun g M c=>(by cases c),fun g M c=>(by cases c),k7,fun f g c=>Jj h (fun g M c=>by cases c) [] _ f g c,fun z j=>(by simp at j),fun z j=>(by simp at j),fun z j=>(by simp at j),fun z j=>(by simp at j),
     fun i b Z=>.inr ⟨fun z j=>(by simp at j),Z,fun _ _=>rfl⟩,fun i qa=>qa,fun z j=>(by simp at j),fun H l s=>?_,fun H s=>wj _ trivial s,fun H g l I=>?_⟩
    .rw[aq]at s;by_cases L:d=H
     .subst L;rw[ag rfl]at s;cases s;exact .inl ⟨b,rfl⟩
     .rw[af L]at s;exact .inr ⟨fun qg g qh I=>(by cases I;exact L),s,rfl⟩
    .cases I;refine⟨by simp[aq],.inl W,⟨R,fun z j=>(by simp at j)⟩,cs,e,t,E.1,y.1.1,S,rfl,ic (fun g c=>⟨c.1,c.2.imp_right fun h=>⟨h.1,cW g h.2⟩⟩) X⟩
   obtain⟨hinv,_⟩:=h.back Y;have A:=hinv.put d (gq F.1) (v:=.v (.c (.ptr d 0))) (u:=.pointer (some ⟨b,0,none⟩)) ⟨by simp[aq],by simp[Gh.back]⟩;exact O _ _ _ _ A p
  .cases p
 .cases p
def aaf {id:Nat}:∀{l:List AC} {k:Nat},id ∉ ie l->Ul l id k=none
 |[],_,_=>rfl|c::l,k,h=>by
  cases c with
  |own i len =>
   have b:i≠id:=fun e=>h (by simp[ie,e])
   have d:id ∉ ie l:=fun f=>h (by simp[ie,f])
   simp[Ul,b,aaf d]
  |_=>exact aaf (l:=l) h
def W6 {all:List AC}{g j:Nat}(h:ch G all g=some j):(G.own g).isSome=true:=by
 unfold ch at h;split at h
 .rename_i id hid;rw[hid];rfl
 .cases h
def aD1 {all:List AC}{g j:Nat}(h:ch G all g=some j):G.own g≠some .hid:=by
 unfold ch at h;split at h
 .rename_i id hid;rw[hid];simp
 .cases h
def Yk (h:Inv w0 G st a w){ok:Nat->Prop}{w':World}{rs:List (Ty×Bool)}{m:Nat}{y:Args rs}{us:List Value}(cW:∀g,ok g->RO G false g){all:List AC}{bN:Nat->Option Nat}
  (k7:∀g C,bN g=some C->w.heap.size<=g\/(ch G all g).isSome=true) (Z:ek rs=true)
  (qa:oI w' (fun g=>bN g=none/\((G.nw g/\(G.own g=none\/(ch G all g).isSome=true))\/(m2 m=false/\ok g))) bN rs y 0 us) (qb:eG (fun g=>(ch G all g).isSome=true) w w') {d:Tmp}
  (qd:fG (kY d (m2 m) rs y 0).2 st=true) {bl3:List (Nat×Option fo)} {L2:List (Nat×Nat×fo×Value)}
  (qe:∀i b,look bl3 i=some (some b)->(∃z∈L2,z.2.1=i/\z.2.2.1=b)\/((∀z∈L2,z.2.1≠i)/\i ∉ ie all/\look st.bl i=some (some b))) (qf:∀i,(look st.bl i).isSome=true->(look bl3 i).isSome=true)
  (qg:∀z∈L2,(look bl3 z.2.1).isSome=true) (qh:∀z∈L2,∀B∈L2,z.2.1=B.2.1->z=B)
  (E:∀z∈L2,nOf rs<=z.1/\att w' (fun g=>bN g=none/\((G.nw g/\(G.own g=none\/(ch G all g).isSome=true))\/(m2 m=false/\ok g))) (m2 m) bN G st z) (qi:∀z∈L2,∀B∈L2,z.1=B.1->z=B) :
  ∃Y,Inv w0 Y {st with bl:=(kY d (m2 m) rs y 0).2++bl3} a w'/\cg (en Y w' st.bx ((kY d (m2 m) rs y 0).2++bl3)) (kY d (m2 m) rs y 0).1 us:=by
 obtain⟨L,M,qj⟩:=abY (id:=d) (f:=m2 m) Z qa;have N:=M.q;have R:∀z∈L,look st.bl z.1=none:=fun z j=>CJ qd z.1 (by rw[N];exact j6 j)
 have F:∀z,z∈L++L2.map (·.2)->z∈L\/∃p,(p,z)∈L2:=by
  intro z j;rcases gK.1 j with j|j
  .exact .inl j
  .obtain⟨q,N,rfl⟩:=Ep.1 j;exact .inr ⟨q.1,N⟩
 have S:∀z∈L,∀g,z.2.2.ownBlock=some g->∃C,bN g=some C/\C<nOf rs/\z.1=d*64+C:=by intro z j g n;obtain⟨A,t,s⟩:=M.rows z j;exact⟨_,s.oG g n,by omega,by omega⟩
 have qk:alQ w w' G st (ch G all) bN (fun f g=>bN g=none/\((G.nw g/\(G.own g=none\/(ch G all g).isSome=true))\/(f=false/\RO G false g))) (L++L2.map (·.2)) none st.bx ((kY d (m2 m) rs y 0).2++bl3):=by
  refine⟨qb,fun g C n=>W6 n,fun g C n=>aD1 n,k7,fun f g n=>Jj h (fun g C n=>W6 n) _ _ f g n,fun z j=>?_,fun z j B u g n T=>?_,fun z j B u H=>?_,fun z j=>?_,fun i b O=>?_,fun i ql=>?_,fun z j=>?_,fun W l D=>?_,
   fun W qm=>qm,fun W g l H=>by cases H⟩
  .rcases F z j with j|⟨p,j⟩
   .obtain⟨A,t,s⟩:=M.rows z j;obtain⟨rows,I,X⟩:=s.row;refine⟨s.wr,s.pos,⟨rows,I,aeV (fun qn g n=>⟨n.1,?_⟩) X⟩,fun g n=>by rw[s.oG g n];rfl⟩;rw[s.nf,qn,alm];exact n.2.imp_right fun h=>⟨h.1,cW g h.2⟩
   .obtain⟨A,s⟩:=E _ j;obtain⟨rows,I,X⟩:=s.row;refine⟨s.wr,s.pos,⟨rows,I,k8 (fun g n=>⟨n.1,?_⟩) X⟩,fun g n=>by rw[s.oG g n];rfl⟩;rw[show z.2.1.f=m2 m from s.nf];exact n.2.imp_right fun h=>⟨h.1,cW g h.2⟩
  .rcases F z j with j|⟨p,j⟩<;>rcases F B u with u|⟨qo,u⟩
   .obtain⟨C,A,_,t⟩:=S z j g n;obtain⟨qu,s,_,I⟩:=S B u g T;rw[A]at s;cases s;exact M.uniq z j B u (by omega)
   .obtain⟨C,A,t,_⟩:=S z j g n;obtain⟨s,I⟩:=E _ u;have:=I.oG g T;rw[A]at this;cases this;dsimp only at s;omega
   .obtain⟨C,A,t,_⟩:=S B u g T;obtain⟨s,I⟩:=E _ j;have:=I.oG g n;rw[A]at this;cases this;dsimp only at s;omega
   .have A:=(E _ j).2.oG g n;have t:=(E _ u).2.oG g T;rw[A]at t;have:=qi _ j _ u (eE t);exact oF (·.2) this
  .rcases F z j with j|⟨p,j⟩<;>rcases F B u with u|⟨qo,u⟩
   .exact M.uniq z j B u H
   .obtain⟨b,A,_⟩:=(E _ u).2.old;have t:=R z j;rw[H]at t;rw[show look st.bl B.1=_ from A]at t;cases t
   .obtain⟨b,A,_⟩:=(E _ j).2.old;have t:=R B u;rw[<-H]at t;rw[show look st.bl z.1=_ from A]at t;cases t
   .exact oF (·.2) (qh _ j _ u H)
  .rcases F z j with j|⟨p,j⟩
   .exact .inl (R z j)
   .exact .inr ⟨(E _ j).2.hv,(E _ j).2.old⟩
  .rw[dj]at O;cases D:look (kY d (m2 m) rs y 0).2 i with
   |some x =>
    rw[D]at O;cases O;rw[N]at D;obtain⟨v,qp⟩:=abZ D;exact .inl ⟨v,by simp[qp]⟩
   |none =>
    rw[D]at O;rcases qe i b O with ⟨z,j,rfl,rfl⟩|⟨A,t,s⟩
    .exact .inl ⟨z.2.2.2,List.mem_append_right _ (Ep.2 ⟨z,j,rfl⟩)⟩
    .refine .inr ⟨fun z j=>?_,s,fun g n=>?_⟩
     .rcases F z j with j|⟨p,j⟩
      .rintro rfl;rw[R z j]at s;cases s
      .exact A _ j
     .unfold ch;rw[n];exact aaf t
  .rw[dj];cases D:look (kY d (m2 m) rs y 0).2 i with
   |some x=>rfl|none=>exact qf i ql
  .rcases F z j with j|⟨p,j⟩
   .rw[dj,N];have:=j6 j;cases D:look (L.map fun z=>(z.1,some z.2.1)) z.1 with
    |some x=>rfl|none=>rw[D]at this;cases this
   .rw[dj];cases D:look (kY d (m2 m) rs y 0).2 z.1 with
    |some x=>rfl|none=>exact qg _ j
  .refine .inr ⟨fun qv g qw H=>(by cases H),D,?_⟩;obtain⟨cs,e,_,t,_⟩:=h.bx W l D;unfold ch;rw[t]
 obtain⟨hinv,qq⟩:=h.back qk;have hrel:=qj.imp fun c v qt=>Un qq (av4.Jc (L':=L++L2.map (·.2)) (fun z j=>by simp[j]) qt)
 exact⟨_,hinv,hrel⟩
def alS (h:Inv w0 G st a w){ok:Nat->Prop}{w':World}{rs:List (Ty×Bool)}{m:Nat}{y:Args rs}{us:List Value}(cW:∀g,ok g->RO G false g){all:List AC}{bN:Nat->Option Nat}
  (k7:∀g e,bN g=some e->w.heap.size<=g\/(ch G all g).isSome=true) (f:ek rs=true)
  (j:oI w' (fun g=>bN g=none/\((G.nw g/\(G.own g=none\/(ch G all g).isSome=true))\/(m2 m=false/\ok g))) bN rs y 0 us) (l:eG (fun g=>(ch G all g).isSome=true) w w') {d:Tmp}
  (n:Nat.blt d st.nt=true) (p:fG (kY d (m2 m) rs y 0).2 st=true) {bl3:List (Nat×Option fo)} {L2:List (Nat×Nat×fo×Value)}
  (q:∀i b,look bl3 i=some (some b)->(∃z∈L2,z.2.1=i/\z.2.2.1=b)\/((∀z∈L2,z.2.1≠i)/\i ∉ ie all/\look st.bl i=some (some b))) (s:∀i,(look st.bl i).isSome=true->(look bl3 i).isSome=true)
  (t:∀z∈L2,(look bl3 z.2.1).isSome=true) (u:∀z∈L2,∀c∈L2,z.2.1=c.2.1->z=c)
  (v:∀z∈L2,nOf rs<=z.1/\att w' (fun g=>bN g=none/\((G.nw g/\(G.own g=none\/(ch G all g).isSome=true))\/(m2 m=false/\ok g))) (m2 m) bN G st z) (x:∀z∈L2,∀c∈L2,z.1=c.1->z=c)
  (A:k {(st.put d (I9 (kY d (m2 m) rs y 0).1)) with bl:=(kY d (m2 m) rs y 0).2++bl3}=some r) (B:ra w0 k r K):K (a.put (some d) (eZ us)) w':=by
 obtain⟨D,hinv,hrel⟩:=Yk h cW k7 f j l p q s t u v x;have C:=hinv.put d (gq n) (w8 (R:=fun _ _=>True) hrel);exact B _ _ _ _ C A
def aCs {L:List (Nat×Nat×fo×Value)}{i:Nat}:∀{x:Option fo},look (L.map fun z=>(z.2.1,some z.2.2.1)) i=some x->∃z∈L,z.2.1=i/\x=some z.2.2.1:=by
 induction L with
 |nil=>intro x h;simp[look]at h
 |cons z L c =>
  intro x h;rw[sG,aq]at h;by_cases b:z.2.1=i
  .rw[ag b]at h;exact⟨z,by simp,b,(eE h).symm⟩
  .rw[af b]at h;obtain⟨y,d,e⟩:=c h;exact⟨y,by simp[d],e⟩
def Uo {L:List (Nat×Nat×fo×Value)}{i:Nat}(h:look (L.map fun z=>(z.2.1,some z.2.2.1)) i=none):∀z∈L,z.2.1≠i:=by
 induction L with
 |nil=>intro z b;simp at b
 |cons y L d =>
  rw[sG,aq]at h;by_cases c:y.2.1=i
  .rw[ag c]at h;cases h
  .rw[af c]at h;intro z b;rcases cN.1 b with rfl|b
   .exact c
   .exact d h z b
def aCt {bx:List (Nat×List AC)}{bl:List (Nat×Option fo)}{p:Ty×Bool}{c:CV}{u:Value}{g:p.1.D}(h:en G w bx bl c u)(d:imV st p c=some g) :
  ∃e,im st p.1 c.cells=some (g,[])/\cg (bz G w bx bl) c.cells e/\u=(match p.2 with|true=>.agg e.toArray|false=>e.headD undef)/\(p.2=false->e.length=1):=by
 obtain⟨t,b⟩:=p;cases c with
 |agg l =>
  cases b with
  |false=>simp[imV]at d
  |true =>
   simp only[imV]at d;split at d
   .rename_i z f;cases d;obtain⟨e,i,hrel⟩:=h;exact⟨e.toList,f,hrel,by rw[i,w2],fun j=>by cases j⟩
   .cases d
 |c x =>
  cases b with
  |true=>simp[imV]at d
  |false =>
   simp only[imV]at d;split at d
   .rename_i z f;cases d;exact⟨[u],f,⟨h,trivial⟩,rfl,fun _=>rfl⟩
   .cases d
def Lo (c:CV):aR [c]=c.cells:=by simp[aR]
def av6 (h:Inv w0 G st a w){ok:Nat->Prop}{w':World}{rs:List (Ty×Bool)}{m:Nat}{q:Ty×Bool}{y:Args rs}{y2:q.1.D}{us:List Value}{u:Value}(cW:∀g,ok g->RO G false g){c:CV}{f:Bool}{bN:Nat->Option Nat}
  (Z:en G w st.bx st.bl c u) {qa:q.1.D} (qb:imV st q c=some qa) (qd:gn st (pmM f) [] c.cells=true)
  (k7:∀g qe,bN g=some qe->w.heap.size<=g\/(ch G (aR [c]) g).isSome=true)
  (qf:oI w' (fun g=>bN g=none/\((G.nw g/\(G.own g=none\/(ch G (aR [c]) g).isSome=true))\/(m2 m=false/\ok g))) bN [q] (y2,()) (nOf rs) [u])
  (qg:oI w' (fun g=>bN g=none/\((G.nw g/\(G.own g=none\/(ch G (aR [c]) g).isSome=true))\/(m2 m=false/\ok g))) bN rs y 0 us)
  (qh:eG (fun g=>(ch G (aR [c]) g).isSome=true) w w') (qi:ek rs=true) {d:Tmp} (qj:fG (kY d (m2 m) rs y 0).2 st=true) :
  ∃N,Inv w0 N {st with bl:=(kY d (m2 m) rs y 0).2++((sT (m2 m) q.1 y2 c.cells).1++st.bl)} a w'/\cg (en N w' st.bx ((kY d (m2 m) rs y 0).2++((sT (m2 m) q.1 y2 c.cells).1++st.bl))) (kY d (m2 m) rs y 0).1 us:=by
 have O:=W5 (st:=st) (m:=pmM f) (by cases f<;>simp[pmM]) qd;have qk:=Lo c;obtain⟨v,qz,C,⟨cs,hfr,j⟩,_⟩:=qf;have ql:v=u:=(s6 C).1.symm;subst ql;obtain⟨R,S,hrel,p,hlen⟩:=aCt Z qb;have qm:R=cs++[]:=by
  rw[fU];cases H:q.2 with
  |true =>
   rw[H]at p j;rw[p]at j;have:=Value.agg.inj j;simpa using oF Array.toList this
  |false =>
   rw[H]at p j;have h1:=hlen H;have s:cs.length=1:=by have qn:=FrC.len hfr;obtain⟨qA,qo,B,qp,qq,_⟩:=Ok (ok:=fun _=>True) (aGg h) hrel S;have qt:=qp.len;have qu:=cg.len qq;have:qo=[]:=Ya qu.symm;subst this;rw[fU]at B;subst B;rw[qn,<-qt];exact h1
   match R,cs,h1,s,p,j with
   |[T],[W],_,_,p,j =>
    have:T=W:=by have qv:v=T:=p;have t:v=W:=j;rw[<-qv,<-t]
    rw[this]
 obtain⟨qB,L,A,_,_,t,I,M,X⟩:=aeZ (f:=m2 m) S hrel O.2.2 hfr qm;rw[fU]at A;have qw:∀z∈L,∀D∈L,z.2.1=D.2.1->z=D:=by
  have E:(L.map (·.2.1)).Nodup:=by rw[I,<-A];exact O.1
  intro z e D qx C;clear t I M X
  induction L with
  |nil=>simp at e
  |cons q L qy =>
   rw[sG,alh]at E;rcases cN.1 e with A|h1<;>rcases cN.1 qx with B|s
   .rw[A,B]
   .exact absurd (Ep.2 ⟨D,s,by rw[<-C,A]⟩) E.1
   .exact absurd (Ep.2 ⟨z,h1,by rw[C,B]⟩) E.1
   .exact qy E.2 h1 s
 refine Yk h cW k7 qi qg qh qj (L2:=L) (bl3:=(sT (m2 m) q.1 y2 c.cells).1++st.bl) (fun i b l=>?_) (fun i F=>?_) (fun z e=>?_) qw (fun z e=>⟨(M z e).1,(M z e).2.2⟩) X
 .rw[t,dj]at l;cases n:look (L.map fun z=>(z.2.1,some z.2.2.1)) i with
  |some x =>
   rw[n]at l;dsimp only at l;obtain⟨z,e,h1,s⟩:=aCs n;rw[s]at l;exact .inl ⟨z,e,h1,eE (eE l)⟩
  |none =>
   rw[n]at l;have Y:=Uo n;refine .inr ⟨Y,fun F=>?_,l⟩;rw[qk,A,<-I]at F;obtain⟨z,e,rfl⟩:=Ep.1 F;exact Y z e rfl
 .rw[t,dj];cases n:look (L.map fun z=>(z.2.1,some z.2.2.1)) i with
  |some x=>rfl|none=>exact F
 .rw[t,dj];cases n:look (L.map fun z=>(z.2.1,some z.2.2.1)) z.2.1 with
  |some x=>rfl|none=>exact absurd rfl (Uo n z e)
def ary (h:Inv w0 G st a w){con:Og}{f:Bool}(I:con.pm=.own f){ok:Nat->Prop}{w':World}{g0:Nat}{u:Value}{y:Args con.rs×Args con.qs}{us:List Value}(cW:∀g,ok g->RO G false g){c:CV}
  (L:en G w st.bx st.bl c u) {p:Ty×Bool} (M:mA con.ps con.i=some p) (N:aCq con) {O:p.1.D} (S:imV st p c=some O) (t:gn st (pmM f) [] c.cells=true)
  (n:alN con w w' ok (fun g=>G.nw g/\(G.own g=none\/(ch G (aR [c]) g).isSome=true)) (ch G (aR [c])) g0 u y us) (v:eG (fun g=>(ch G (aR [c]) g).isSome=true) w w') {d:Tmp}
  (j:abH con.rs con.qs con.m st c d y k=some r) (x:ra w0 k r K):K (a.put (some d) (eZ us)) w':=by
 obtain⟨bN,k7,A,n⟩:=n;rw[I]at A;obtain⟨qb,i,pm,rs,m,qd,g⟩:=con;dsimp only at *;unfold abH at j;obtain⟨B,j⟩:=aU j;simp only[aA,iS]at B;obtain⟨⟨⟨T,C⟩,D⟩,E⟩:=B;have W:m=2\/m=3:=T.imp aJ aJ;have F:oI w' (fun g=>bN g=none/\((G.nw g/\(G.own g=none\/(ch G (aR [c]) g).isSome=true))\/(m2 m=false/\ok g))) bN rs y.1 0 us:=by rcases W with rfl|rfl<;>exact n
 have qe:=W5 (st:=st) (m:=pmM f) (by cases f<;>simp[pmM]) t;have X:=Lo c;split at j
 ·
  refine alS h cW k7 E F v D C (L2:=[]) (bl3:=(st.gone c.cells).bl) (fun i b l=>.inr ?_) (fun i Y=>?_) (fun z e=>by simp at e) (fun z e=>by simp at e) (fun z e=>by simp at e) (fun z e=>by simp at e) j x
  .rw[aeY]at l;split at l
   .cases l
   .exact⟨fun z e=>by simp at e,by rw[X];assumption,l⟩
  .rw[aeY];split
   .rfl
   .exact Y
 ·
  rename_i q y qf;have Z:q=p:=by
   rcases N with s|⟨qg,s,H⟩
   .cases s
   .cases s;rw[M]at H;exact(eE H).symm
  subst Z;obtain⟨qh,hinv,hrel⟩:=av6 (q:=q) (y2:=y.2.1) h cW L S t k7 A F v E C;have qa:=hinv.put d (gq D) (w8 (R:=fun _ _=>True) hrel);exact x _ _ _ _ qa j
 .cases j
def cF (g0:Nat)(g:Nat):Option Nat:=if g=g0 then some 0 else none
def pC {g0 g:Nat}(h:g≠g0):cF g0 g=none:=by simp[cF,h]
def re (h:Inv w0 G st a w){b:Nat}{O:List AC}(qd:look st.bx b=some O){w':World}{bN:Nat->Option Nat}
  (k7:∀g m,bN g=some m->w.heap.size<=g\/(cF (G.hb b) g).isSome=true) (qe:eG (fun g=>(cF (G.hb b) g).isSome=true) w w') {p:Ty×Bool} {z:p.1.D} {cs:Array Value} {e:TypeId} {n:Nat}
  (qf:∃m,bN (G.hb b)=some m/\n<=m) (qg:w'.heap[G.hb b]?=some (.cells cs e (0,0)))
  {R S:Nat->Prop} {fb f:Bool} (qh:∀g,R g->(G.nw g/\(G.own g=none\/(cF (G.hb b) g).isSome=true))\/(fb=false/\RO G false g))
  (qi:∀g,S g->(G.nw g/\(G.own g=none\/(cF (G.hb b) g).isSome=true))\/(f=false/\RO G false g))
  (qj:Rd w' (fun g=>bN g=none/\R g) p.1 z cs.toList) {q:List (Nat×Option fo)} {B:List (Nat×fo×Value)} {d:Nat}
  (F:Fr w' (fun g=>bN g=none/\S g) f bN d 0 (0+n) q B) (qk:fG q st=true) :
  Inv w0 (G.back w.heap.size (cF (G.hb b)) bN B (some (b,G.hb b,ex fb p.1 z))) {st with bx:=(b,ex fb p.1 z)::st.bx,bl:=q++st.bl} a w' /\
   ∀c v,sU B c v->bz (G.back w.heap.size (cF (G.hb b)) bN B (some (b,G.hb b,ex fb p.1 z))) w' ((b,ex fb p.1 z)::st.bx) (q++st.bl) c v:=by
 obtain⟨qw,qx,_,bm,_⟩:=h.bx b O qd;have L:=F.q;have T:∀g m,cF (G.hb b) g=some m->(G.own g).isSome=true:=by
  intro g m j;unfold cF at j;split at j
  .rename_i A;rw[A,bm];rfl
  .cases j
 have ql:∀g m,cF (G.hb b) g=some m->G.own g≠some .hid:=by
  intro g m j;unfold cF at j;split at j
  .rename_i A;rw[A,bm];simp
  .cases j
 have W:∀z∈B,look st.bl z.1=none:=fun z M=>CJ qk z.1 (by rw[L];exact j6 M)
 have N:∀z∈B,∀g,z.2.2.ownBlock=some g->∃m,bN g=some m/\m<n/\z.1=d*64+m:=by intro z M g j;obtain⟨C,D,u⟩:=F.rows z M;exact⟨_,u.oG g j,by omega,by omega⟩
 refine h.back (okE:=fun f g=>bN g=none/\((G.nw g/\(G.own g=none\/(cF (G.hb b) g).isSome=true))\/(f=false/\RO G false g))) ⟨qe,T,ql,k7,fun f g j=>Jj h T _ _ f g j,fun y t=>?_,fun y t X Y g j qm=>?_,F.uniq,
  fun y t=>.inl (W y t),fun i qn E=>?_,fun i qo=>?_,fun y t=>?_,fun H l s=>?_,fun H qp=>wj _ trivial qp,fun H g l A=>?_⟩
 .obtain⟨C,D,u⟩:=F.rows y t;obtain⟨rows,Z,qq⟩:=u.row;refine⟨u.wr,u.pos,⟨rows,Z,aeV (fun qt g j=>⟨j.1,?_⟩) qq⟩,fun g j=>by rw[u.oG g j];rfl⟩;rw[u.nf,qt,alm];exact qi g j.2
 .obtain⟨m,C,_,D⟩:=N y t g j;obtain⟨qu,u,_,Z⟩:=N X Y g qm;rw[C]at u;cases u;exact F.uniq y t X Y (by omega)
 .rw[dj]at E;cases s:look q i with
  |some x =>
   rw[s]at E;cases E;rw[L]at s;obtain⟨v,qv⟩:=abZ s;exact .inl ⟨v,qv⟩
  |none =>
   rw[s]at E;refine .inr ⟨fun y t=>?_,E,fun g j=>?_⟩
   .rintro rfl;have qa:look st.bl y.1=some (some qn):=E;rw[W y t]at qa;cases qa
   .refine pC ?_;rintro rfl;rw[bm]at j;cases j
 .rw[dj];cases s:look q i with
  |some x=>rfl|none=>exact qo
 .rw[dj,L];have:=j6 t;cases s:look (B.map fun z=>(z.1,some z.2.1)) y.1 with
  |some x=>rfl|none=>rw[s]at this;cases this
 .rw[aq]at s;by_cases I:b=H
  .subst I;rw[ag rfl]at s;cases s;exact .inl ⟨_,rfl⟩
  .rw[af I]at s;refine .inr ⟨fun qy g qz A=>(by cases A;exact I),s,?_⟩;obtain⟨cs,e,_,D,_⟩:=h.bx H l s;refine pC ?_;intro A;rw[A,bm]at D;cases D;exact I rfl
 .cases A;obtain⟨m,qb,qA⟩:=qf;refine⟨by simp[aq],.inr rfl,⟨by rw[qb];rfl,fun y t j=>?_⟩,cs,e,fb,p.1,z,qg,rfl,ic (fun g j=>⟨j.1,qh g j.2⟩) qj⟩;obtain⟨qu,C,D,_⟩:=N y t _ j;rw[qb]at C;cases C;omega
def aD2 (h:Inv w0 G st a w){con:Og}(N:con.pm=.box){ok:Nat->Prop}{w':World}{u:Value}{y:Args con.rs×Args con.qs}{us:List Value}(cW:∀g,ok g->RO G false g){b qh:Nat}{A:List AC}(t:look st.bx b=some A)
  {p:Ty×Bool} (O:mA con.ps con.i=some p) (S:p.2=true) (T:aCq con)
  (x:alN con w w' ok (fun g=>G.nw g/\(G.own g=none\/(cF (G.hb b) g).isSome=true)) (cF (G.hb b)) (G.hb b) u y us) (B:eG (fun g=>(cF (G.hb b) g).isSome=true) w w') {d:Tmp}
  (l:akJ con.rs con.qs con.m st (.c (.ptr b qh)) d y k=some r) (C:ra w0 k r K):K (a.put (some d) (eZ us)) w':=by
 obtain⟨bN,k7,I,x⟩:=x;rw[N]at I;obtain⟨D,cs,e,E,W⟩:=I;obtain⟨qi,i,pm,rs,m,qj,g⟩:=con;dsimp only at *;unfold akJ at l;split at l
 .rename_i _ q y qk ql F;cases F;have X:q=p:=by
   rcases T with s|⟨qm,s,M⟩
   .cases s
   .cases s;rw[O]at M;exact(eE M).symm
  subst X;have H:=ay0 S W;have nil:Fr w' (fun g=>bN g=none/\((G.nw g/\(G.own g=none\/(cF (G.hb b) g).isSome=true))\/(false=false/\ok g))) false bN d 0 (0+nOf rs) [] []:=Fr.nil;split at l
  .obtain⟨n,l⟩:=aU l;rw[aA]at n;obtain⟨hinv,_⟩:=re (fb:=false) (f:=false) h t k7 B D E (fun g j=>j.imp_right fun h=>⟨rfl,cW g h⟩) (fun g j=>j.imp_right fun h=>⟨h.1,cW g h.2⟩) H nil rfl;have hrel:=CK (f:=false) (bx:=(b,ex false q.1 y.2.1)::st.bx) (bl:=[]++st.bl) n.2 (jP (fun g j=>Jj (bN:=bN) h (own0:=cF (G.hb b)) (fun g Y j=>by
    obtain⟨_,_,_,bm,_⟩:=h.bx b A t;unfold cF at j;split at j
    .rename_i s;rw[s,bm];rfl
    .cases j) [] (some (b,G.hb b,ex false q.1 y.2.1)) false g ⟨j.1,j.2.imp_right fun h=>⟨rfl,cW g h⟩⟩) x)
   have z:=hinv.put d (gq n.1) (w8 (R:=fun _ _=>True) hrel);exact C _ _ _ _ z l
  .obtain⟨n,l⟩:=aU l;rw[aA]at n;obtain⟨hinv,_⟩:=re (fb:=false) (f:=false) h t k7 B D E (fun g j=>j.imp_right fun h=>⟨rfl,cW g h⟩) (fun g j=>j.imp_right fun h=>⟨h.1,cW g h.2⟩) H nil rfl;have hrel:=CK (f:=true) (bx:=(b,ex false q.1 y.2.1)::st.bx) (bl:=[]++st.bl) n.2 (jP (fun g j=>Jj (bN:=bN) h (own0:=cF (G.hb b)) (fun g Y j=>by
    obtain⟨_,_,_,bm,_⟩:=h.bx b A t;unfold cF at j;split at j
    .rename_i s;rw[s,bm];rfl
    .cases j) [] (some (b,G.hb b,ex false q.1 y.2.1)) true g ⟨j.1,.inl j.2⟩) x)
   have z:=hinv.put d (gq n.1) (w8 (R:=fun _ _=>True) hrel);exact C _ _ _ _ z l
  .obtain⟨n,l⟩:=aU l;simp only[aA,iS]at n;obtain⟨⟨⟨Z,qa⟩,qb⟩,qd⟩:=n;have qe:oI w' (fun g=>bN g=none/\((G.nw g/\(G.own g=none\/(cF (G.hb b) g).isSome=true))\/(m2 m=false/\ok g))) bN rs y.1 0 us:=by rcases Z.imp aJ aJ with rfl|rfl<;>exact x
   obtain⟨L,qf,F⟩:=abY (id:=d) (f:=m2 m) qd qe;obtain⟨hinv,qg⟩:=re (fb:=false) h t k7 B D E (fun g j=>j.imp_right fun h=>⟨rfl,cW g h⟩) (fun g j=>j.imp_right fun h=>⟨h.1,cW g h.2⟩) H qf qa;have hrel:=F.imp fun c v n=>Un qg n
   have z:=hinv.put d (gq qb) (w8 (R:=fun _ _=>True) hrel);exact C _ _ _ _ z l
 .cases l
def nwC (G:Gh)(c:Bool)(b g:Nat):Prop:=(G.nw g/\(G.own g=none\/(cF (G.hb b) g).isSome=true))\/(c=false/\RO G false g)
def aD3 (h:Inv w0 G st a w){con:Og}(W:con.pm=.cur){ok:Nat->Prop}{w':World}{u:Value}{y:Args con.rs×Args con.qs}{us:List Value}(cW:con.m=1\/con.m=2\/∀g,ok g->RO G false g){b ql:Nat}{B:List AC}(x:look st.bx b=some B)
  {p:Ty×Bool} (X:mA con.ps con.i=some p) (Y:p.2=true) (Z:aCq con)
  (t:alN con w w' ok (nwC G (cj B) b) (cF (G.hb b)) (G.hb b) u y us) (D:eG (fun g=>(cF (G.hb b) g).isSome=true) w w') {d:Tmp}
  (n:akK con.rs con.qs con.m st (.c (.ptr b ql)) d y k=some r) (E:ra w0 k r K):K (a.put (some d) (eZ us)) w':=by
 obtain⟨bN,k7,M,t⟩:=t;rw[W]at M;obtain⟨F,cs,e,H,N⟩:=M;obtain⟨qm,i,pm,rs,m,qn,g⟩:=con;dsimp only at *;have O:∀g S,cF (G.hb b) g=some S->(G.own g).isSome=true:=by
  intro g S j;obtain⟨_,_,_,bm,_⟩:=h.bx b B x;unfold cF at j;split at j
  .rename_i z;rw[z,bm];rfl
  .cases j
 unfold akK at n;split at n
 .rename_i _ q y qo qp I;cases I;have qa:q=p:=by
   rcases Z with z|⟨qq,z,T⟩
   .cases z
   .cases z;rw[X]at T;exact(eE T).symm
  subst qa;have C:=ay0 Y N;rw[x]at n;dsimp only at n;generalize cj B=l at n C t N;have nil:Fr w' (fun g=>bN g=none/\(nwC G l b g)) l bN d 0 (0+nOf rs) [] []:=Fr.nil;split at n
  .obtain⟨s,n⟩:=aU n;rw[aA]at s;obtain⟨hinv,_⟩:=re (fb:=l) (f:=l) h x k7 D F H (fun g j=>j) (fun g j=>j) C nil rfl;have qb:∀g,ok g->RO G false g:=by
    rcases cW with h1|h1|h1
    .cases h1
    .cases h1
    .exact h1
   have hrel:=CK (f:=false) (bx:=(b,ex l q.1 y.2.1)::st.bx) (bl:=[]++st.bl) s.2 (jP (fun g j=>Jj (bN:=bN) h (own0:=cF (G.hb b)) O [] (some (b,G.hb b,ex l q.1 y.2.1)) false g ⟨j.1,by
    rcases j.2 with h1|h1
    .exact h1.imp_right fun h=>⟨rfl,h.2⟩
    .exact .inr ⟨rfl,qb g h1⟩⟩) t)
   have A:=hinv.put d (gq s.1) (w8 (R:=fun _ _=>True) hrel);exact E _ _ _ _ A n
  .obtain⟨s,n⟩:=aU n;rw[aA]at s;obtain⟨hinv,_⟩:=re (fb:=l) (f:=l) h x k7 D F H (fun g j=>j) (fun g j=>j) C nil rfl;have hrel:=CK (f:=l) (bx:=(b,ex l q.1 y.2.1)::st.bx) (bl:=[]++st.bl) s.2 (jP (fun g j=>Jj (bN:=bN) h (own0:=cF (G.hb b)) O [] (some (b,G.hb b,ex l q.1 y.2.1)) l g ⟨j.1,j.2⟩) t);have A:=hinv.put d (gq s.1) (w8 (R:=fun _ _=>True) hrel);exact E _ _ _ _ A n
  .obtain⟨s,qd⟩:=aU n;simp only[aA]at s;obtain⟨⟨⟨qe,qf⟩,qg⟩,qh⟩:=s;cases aJ qe;have qi:oI w' (fun g=>bN g=none/\nwC G l b g) bN rs y.1 0 us :=
    oI.aHD (fun g j=>⟨j.1,j.2.elim (fun h=>h) fun h=>by cases h.1⟩) t
   obtain⟨L,qj,I⟩:=abY (id:=d) (f:=l) qh qi;obtain⟨hinv,qk⟩:=re (fb:=l) h x k7 D F H (fun g j=>j) (fun g j=>j) C qj qf;have hrel:=I.imp fun c v s=>Un qk s
   have A:=hinv.put d (gq qg) (w8 (R:=fun _ _=>True) hrel);exact E _ _ _ _ A qd
 .cases n
def aAV {i:Nat}{os:List Operand}{o:Operand}(h:mA os i=some o):apV st i os=st.dR o:=by unfold apV;rw[h]
def akP {st:St}{p:Ty×Bool}{l:List AC}{y:p.1.D}(h:imV st p (.agg l)=some y):p.2=true/\im st p.1 l=some (y,[]):=by
 obtain⟨t,b⟩:=p;cases b with
 |false=>simp[imV]at h
 |true =>
  simp only[imV]at h;split at h
  .rename_i z c;cases h;exact⟨rfl,c⟩
  .cases h
def aag {st:St}{pm:PM}:∀(i:Nat) (ps:List (Ty×Bool)) (os:List Operand) (x:Args ps),jy st pm i ps os=some x->∃op p y,mA os i=some op/\mA ps i=some p/\im2 st pm p op=some y
 |0,[],os,x,b=>by cases os<;>simp[jy]at b
 |_+1,[],os,x,b=>by cases os<;>simp[jy]at b
 |0,p::ps,[],x,b=>by simp[jy]at b
 |_+1,p::ps,[],x,b=>by simp[jy]at b
 |0,p::ps,o::os,x,b=>by
  simp only[jy]at b;split at b
  .rename_i y c;exact⟨o,p,y,rfl,rfl,c⟩
  .cases b
 |i+1,p::ps,o::os,x,b=>by
  simp only[jy]at b;split at b
  .split at b
   .rename_i d e;exact aag i ps os d e
   .cases b
  .cases b
def ae0:∀{l:List AC},wh l=true->∀id len,AC.own id len ∉ l
 |[],_,id,len=>by simp
 |c::l,h,id,len=>by
  cases c with
  |own i b=>simp[wh]at h|_=>simp[ae0 (l:=l) h]
def ay1 {f:FuncId}{con:Og}(qj:aad P w0 f con)(h:Inv w0 G st a w){args:List Operand}{d:Tmp}{x:Args con.ps}{y:Args con.rs×Args con.qs}(j:con.g x=some y)(qf:jy st con.pm con.i con.ps args=some x)
  (D:(con.pm=.cur/\(con.m=1\/con.m=2))\/∀t c v xs,c∈gp st con.pm con.i args->bz G w st.bx st.bl c v->cx st t c=some xs->∀e,Rd w (RO G false) (.sl e t) xs [v])
  (z:(match con.pm with
   |.rd=>match rdM con.m with
    |some f=>as5 f con.rs st d y.1 k|none=>none
   |.own _=>abH con.rs con.qs con.m st (apV st con.i args) d y k|.box=>akJ con.rs con.qs con.m st (apV st con.i args) d y k|.cur=>akK con.rs con.qs con.m st (apV st con.i args) d y k)=some r) (qp:ra w0 k r K) :
  Calls P f (args.map a.eval).toArray w fun e qg=>∃v,e=.returned v/\K (a.put (some d) v) qg/\∀(s:Operand) (g0:Nat),(con.pm=.box\/con.pm=.cur)->mA args con.i=some s->a.eval s=.pointer (some ⟨g0,0,none⟩)->∀k,k<w.heap.size->k≠g0->qg.heap[k]?=w.heap[k]?:=by
 have qu:=qj.2.1;obtain⟨s,p,qv,S,qw,qq⟩:=aag con.i con.ps args x qf;rw[aAV S]at z;cases A:con.pm with
 |rd =>
  have D:=D.resolve_left fun h=>by rw[A]at h;cases h.1
  rw[A]at z qq;dsimp only at z;split at z
  .rename_i qd qa;obtain⟨_,_,_,_,_,qb⟩:=BI (ok:=RO G false) (nw:=fun g=>G.nw g/\(G.own g=none\/(none:Option Nat).isSome=true)) (own0:=fun _=>none) (g0:=0) h con.i con.ps args x D qf (fun p s y I qh n N=>by have N:=N A;rw[A]at n ⊢;exact ats h N n)
   obtain⟨O,L,T,_,_,qb⟩:=BI (ok:=RO G false) (nw:=fun g=>G.nw g/\(G.own g=none\/(none:Option Nat).isSome=true)) (own0:=fun _=>none) (g0:=0) h con.i con.ps args x D qf (fun p s y I qh n N=>by have N:=N A;rw[A]at n ⊢;exact ats h N n)
   refine Calls.mono (qj.2.2 x y j w h.below _ _ _ 0 _ _ (Oq h (own0:=fun _=>none) fun g R qi=>by cases qi) qb) fun e qg C=>?_
   obtain⟨us,rfl,W,X⟩:=C;exact⟨_,rfl,aGh h (fun g j=>j) qa W X z qp,fun _ _ q=>by rcases q with q|q<;>cases q⟩
  .cases z
 |own qd =>
  have D:=D.resolve_left fun h=>by rw[A]at h;cases h.1
  rw[A]at z;dsimp only at z;have key:∀p s y,im2 st con.pm p s=some y->gn st (pmM qd) [] (st.dR s).cells=true/\w3 st [p] [st.dR s]=true/\im1 st p s=some y:=by
   intro p s y n;rw[A]at n;simp only[im2]at n;split at n
   .rename_i M;rw[aA]at M;exact⟨M.1,M.2,n⟩
   .cases n
  obtain⟨O,L,T,_,_,qb⟩:=BI (ok:=RO G false) (nw:=fun g=>G.nw g/\(G.own g=none\/(ch G (aR [st.dR s]) g).isSome=true)) (own0:=ch G (aR [st.dR s])) (g0:=0) h con.i con.ps args x D qf (fun L B y I qh n N=>by
   obtain⟨qx,qM,qy⟩:=key L B y n;have:B=s:=by rw[S]at I;exact(eE I).symm
   subst this;rw[A];have qP:∀g,RO G (m2 (pmM qd)) g->ch G (aR [st.dR B]) g=none/\((G.nw g/\(G.own g=none\/(ch G (aR [st.dR B]) g).isSome=true))\/(qd=false/\RO G false g)):=by
    intro g j;refine⟨by simp[ch,j.1],?_⟩;rcases j.2 with qt|qt
    .exact .inl ⟨qt,.inl j.1⟩
    .refine .inr ⟨?_,j.1,.inr ⟨rfl,qt.2⟩⟩;cases qd with
     |false=>rfl|true=>cases qt.1
   obtain⟨W,_⟩:=Hh (m:=pmM qd) (by cases qd<;>simp[pmM]) qP h (aR [st.dR B]) [] [L] [st.dR B] [a.eval B] (y,()) (pre:=[]) (seen:=[]) ⟨h.dR B,trivial⟩ (by simp) (fun id len qa=>by simp at qa) (by rw[fU,Lo];exact qx) qM (by have:imV st L (st.dR B)=some y:=qy;simp[BF,this])
   obtain⟨v,xc,C,Y,_⟩:=W;cases C;exact Y)
  obtain⟨qx,qM,qy⟩:=key p s qv qq;have:O=s:=by rw[S]at T;exact(eE T).symm
  subst this;refine Calls.mono (qj.2.2 x y j w h.below _ _ _ 0 _ _ (Oq h (own0:=ch G (aR [st.dR O])) fun g R qi=>W6 qi) qb) fun e qg C=>?_
  obtain⟨us,rfl,W,X⟩:=C;exact⟨_,rfl,ary h A (fun g j=>j) (h.dR O) qw qu qy qx W X z qp,fun _ _ q=>by rcases q with q|q<;>cases q⟩
 |cur =>
  rw[A]at z;dsimp only at z;have key:∀p s y,im2 st con.pm p s=some y->∃b l,st.dR s=.c (.ptr b 0)/\look st.bx b=some l/\wh l=true/\imV st p (.agg l)=some y:=by
   intro p s y n;rw[A]at n;simp only[im2]at n;split at n
   .rename_i b E;split at n
    .rename_i l F;split at n
     .rename_i qz;exact⟨b,l,E,F,qz,n⟩
     .cases n
    .cases n
   .cases n
  obtain⟨b,l,E,F,qz,qA⟩:=key p s qv qq;have qB:p.2=true:=(akP qA).1;obtain⟨cs,e,qC,bm,hrel⟩:=h.bx b l F;have qD:∀g R,cF (G.hb b) g=some R->(G.own g).isSome=true:=by
   intro g R j;unfold cF at j;split at j
   .rename_i C;rw[C,bm];rfl
   .cases j
  obtain⟨ok,qQ,qR,D⟩:∃ok:Nat->Prop,(∀g,ok g->cF (G.hb b) g=none)/\(con.m=1\/con.m=2\/∀g,ok g->RO G false g)/\∀t c v xs,c∈gp st con.pm con.i args->bz G w st.bx st.bl c v->cx st t c=some xs->∀e,Rd w ok (.sl e t) xs [v]:=by
   rcases D with ⟨_,h1⟩|h1
   .refine⟨fun g=>∀d,G.own g≠some (.bx d),fun g j=>pC fun C=>j b (by rw[C,bm]),h1.elim .inl fun h=>.inr (.inl h),fun t c v xs _ z H=>jO h z H (fun id len qN _ qS=>⟨fun g j d H=>?_,fun qT g j d H=>?_⟩) fun f e u qO _ g j d H=>?_⟩
    .rw[j.1]at H;cases H
    .obtain⟨_,_,qh,_⟩:=(h.bl id qN qS).wr qT;rw[qh g j]at H;cases H
    .rw[j.1]at H;cases H
   .refine⟨RO G false,fun g j=>pC fun C=>?_,.inr (.inr fun g j=>j),h1⟩;have:=j.1;rw[C,bm]at this;cases this
  obtain⟨O,L,T,_,_,qb⟩:=BI (ok:=ok) (nw:=nwC G (cj l) b) (own0:=cF (G.hb b)) (g0:=G.hb b) h con.i con.ps args x D qf (fun L B y I qh n N=>by
   have:B=s:=by rw[S]at I;exact(eE I).symm
   subst this;obtain⟨qW,qX,qk,ql,_,qE⟩:=key L B y n;rw[E]at qk;cases qk;rw[F]at ql;cases ql;rw[A];have Y:a.eval B=.pointer (some ⟨G.hb b,0,none⟩):=by have:=h.dR B;rw[E]at this;exact this.2
   refine⟨Y,by simp[cF],cs,e,qC,?_⟩;have qF:∀t c v xs,c∈l->bz G w st.bx st.bl c v->cx st t c=some xs->∀e,Rd w (fun g=>cF (G.hb b) g=none/\nwC G (cj l) b g) (.sl e t) xs [v]:=by
    intro t c v xs qa z H;refine jO h z H (fun id len qN M _=>?_) fun f e u qO M g j=>?_
    .subst M;exact absurd qa (ae0 qz id len)
    .subst M;refine⟨pC fun C=>?_,?_⟩
     .have:=j.1;rw[C,bm]at this;cases this
     .cases qY:cj l with
      |true =>
       have:=Ol qY f e u qO qa;subst this;exact .inl ⟨j.2.elim (fun h=>h) fun h=>(by cases h.1),.inl j.1⟩
      |false=>exact .inr ⟨rfl,j.1,j.2.imp_right fun h=>⟨rfl,h.2⟩⟩
   obtain⟨qZ,qG,qm,qH,qI,_⟩:=Ok qF hrel (akP qE).2;have:qG=[]:=Ya qI.len.symm;subst this;rw[fU]at qm;rw[qm];exact qH)
  have:O=s:=by rw[S]at T;exact(eE T).symm
  subst this;have hd0:=Oq h (own0:=cF (G.hb b)) qD;refine Calls.mono (qj.2.2 x y j w h.below ok (nwC G (cj l) b) (cF (G.hb b)) (G.hb b) _ _ ⟨fun g j=>.inl (hd0.k7 g j),fun g R qi=>⟨.inl (hd0.bm g R qi).1,(hd0.bm g R qi).2⟩,qQ⟩ qb) fun e qg C=>?_
  obtain⟨us,rfl,W,X⟩:=C;rw[E]at z;exact⟨_,rfl,aD3 h A qR F qw qB qu W X z qp,fun qe g0 _ qn Y k qK qL=>X.block k qK (by
   have:qe=O:=by rw[S]at qn;exact(eE qn).symm
   subst this;have q:=h.dR qe;rw[E]at q;have q:a.eval qe=.pointer (some ⟨G.hb b,0,none⟩):=q.2;rw[Y]at q;injection q with q
   injection q with q
   injection q with q
   rw[pC (fun e=>qL (by rw[e,q]))];simp)⟩
 |box =>
  have D:=D.resolve_left fun h=>by rw[A]at h;cases h.1
  rw[A]at z;dsimp only at z;have key:∀p s y,im2 st con.pm p s=some y->∃b l,st.dR s=.c (.ptr b 0)/\look st.bx b=some l/\imV st p (.agg l)=some y:=by
   intro p s y n;rw[A]at n;simp only[im2]at n;split at n
   .rename_i b E;split at n
    .rename_i l F;exact⟨b,l,E,F,n⟩
    .cases n
   .cases n
  obtain⟨b,l,E,F,qA⟩:=key p s qv qq;have qB:p.2=true:=(akP qA).1;have qD:∀g R,cF (G.hb b) g=some R->(G.own g).isSome=true:=by
   intro g R j;obtain⟨_,_,_,bm,_⟩:=h.bx b l F;unfold cF at j;split at j
   .rename_i C;rw[C,bm];rfl
   .cases j
  obtain⟨O,L,T,_,_,qb⟩:=BI (ok:=RO G false) (nw:=fun g=>G.nw g/\(G.own g=none\/(cF (G.hb b) g).isSome=true)) (own0:=cF (G.hb b)) (g0:=G.hb b) h con.i con.ps args x D qf (fun L B y I qh n N=>by
   have:B=s:=by rw[S]at I;exact(eE I).symm
   subst this;obtain⟨qW,qX,qk,ql,qE⟩:=key L B y n;rw[E]at qk;cases qk;rw[F]at ql;cases ql;rw[A];obtain⟨cs,e,qC,bm,hrel⟩:=h.bx b l F;have Y:a.eval B=.pointer (some ⟨G.hb b,0,none⟩):=by have:=h.dR B;rw[E]at this;exact this.2
   refine⟨Y,by simp[cF],cs,e,qC,?_⟩;have qF:∀t c v xs,c∈l->bz G w st.bx st.bl c v->cx st t c=some xs->∀e,Rd w (RO G false) (.sl e t) xs [v]:=by
    have xa:∀(i:Nat) (Z:List Operand),mA Z i=some B->∀c∈l,c∈gp st .box i Z:=by
     intro i
     induction i with
     |zero =>
      intro Z qo c M;cases Z with
      |nil=>cases qo
      |cons o Z =>
       cases qo;simp[gp,E,F,M]
     |succ i xb =>
      intro Z qo c M;cases Z with
      |nil=>cases qo|cons o Z=>simp[gp,xb Z qo c M]
    exact fun t c v xs qa=>D t c v xs (by rw[A];exact xa con.i args I c qa)
   obtain⟨qZ,qG,qm,qH,qI,_⟩:=Ok qF hrel (akP qE).2;have:qG=[]:=Ya qI.len.symm;subst this;rw[fU]at qm;rw[qm];exact qH)
  have:O=s:=by rw[S]at T;exact(eE T).symm
  subst this;refine Calls.mono (qj.2.2 x y j w h.below _ _ _ _ _ _ (Oq h qD) qb) fun e qg C=>?_
  obtain⟨us,rfl,W,X⟩:=C;rw[E]at z;exact⟨_,rfl,aD2 h A (fun g j=>j) F qw qB qu W X z qp,fun qe g0 _ qn Y k qK qL=>X.block k qK (by
   have:qe=O:=by rw[S]at qn;exact(eE qn).symm
   subst this;have q:=h.dR qe;rw[E]at q;have q:a.eval qe=.pointer (some ⟨G.hb b,0,none⟩):=q.2;rw[Y]at q;injection q with q
   injection q with q
   injection q with q
   rw[pC (fun e=>qL (by rw[e,q]))];simp)⟩
def aGi {con:Og}{args:List Operand}(h:¬(con.pm=.cur/\(con.m=1\/con.m=2))):aF1 st con args=gp st con.pm con.i args:=by
 unfold aF1;split
 .rename_i b;rw[b]at h ⊢;split
  .exact absurd ⟨rfl,.inl ‹_›⟩ h
  .exact absurd ⟨rfl,.inr ‹_›⟩ h
  .rfl
 .rfl
def ab1 {f:FuncId}{con:Og}(m:aad P w0 f con)(h:Inv w0 G st a w){args:Array Operand}{ts:Array TypeId}(A:o.op=.call {callee:=.value (.func f),args:=args,argTypes:=ts})
  (b:abI con st o.dst args.toList k=some r) (B:ra w0 k r K):o.wp P a w (fun C g=>K C g/\∀(z:Operand) (n:Nat),(con.pm=.box\/con.pm=.cur)->mA args.toList con.i=some z->a.eval z=.pointer (some ⟨n,0,none⟩)->∀k,k<w.heap.size->k≠n->g.heap[k]?=w.heap[k]?) Q:=by
 unfold Oper.wp;rw[Ji m.1 A];unfold abI at b;dsimp only at b;obtain⟨I,p,L,M,D⟩:=h.freeze (aF1 st con args.toList);split at b
 .rename_i x i;cases j:con.g x with
  |none=>rw[j]at b;cases b
  |some y =>
   rw[j]at b;simp only[alf]at b;have E:(args.map a.eval)=(args.toList.map a.eval).toArray:=by rw[<-abE,w2]
   show Calls P f _ w _;rw[E];cases q:o.dst with
   |none=>rw[q]at b;cases b
   |some d =>
    rw[q]at b;dsimp only at b;refine Calls.mono (ay1 m p j i (by
     by_cases s:con.pm=.cur/\(con.m=1\/con.m=2)
     .exact .inl s
     .refine .inr fun t c v xs u=>aae p (nf:=false) (fun l=>by cases l) (fun l=>by cases l) t c v xs ?_
      rw[Um D]at u;rw[aGi s];exact u) b B) fun e g F=>?_
    obtain⟨v,rfl,H,i⟩:=F;exact⟨H,i⟩
 .cases b
def av7 {f:FuncId}{con:Og}(b:aad P w0 f con)(h:Inv w0 G st a w){args:Array Operand}{ts:Array TypeId}(c:o.op=.call {callee:=.value (.func f),args:=args,argTypes:=ts})
  (d:abI con st o.dst args.toList k=some r) (e:ra w0 k r K):o.wp P a w K Q:=by
 exact Oper.wp_mono (fun _ _ h=>h.1) (ab1 b h c d e)
def ay2:∀{t:Ty} {x:t.D},alq t x=true->aIY t x=x
 |.bool,x,h=>Eq.symm h|.int _,x,h=>(bg.1 h).symm|.str,_,h|.unit,_,h|.pair _ _,_,h|.sl _ _,_,h=>by cases h
def ay3:∀{t:Ty} {x:t.D},alq t x=false->aIZ t x=x
 |.bool,x,h=>Eq.symm h|.int _,x,_=>rfl|.str,_,_|.unit,_,_|.pair _ _,_,_|.sl _ _,_,_=>rfl
def av8 {bx:List (Nat×List AC)}{bl:List (Nat×Option fo)}:∀{n:Nat} {vs:List Value},vs.length=n->(∀c∈vs,c.oneCell'=true)->cg (bz G w bx bl) (List.replicate n .any) vs
 |0,[],_,_=>trivial|n+1,v::vs,h,b=>by rw[List.replicate_succ];exact⟨b v (by simp),av8 (by simpa using h) fun c d=>b c (by simp[d])⟩
 |0,_::_,h,_=>by simp at h
 |_+1,[],h,_=>by simp at h
def av9 {f:FuncId}{con:Sel}(M:atr P w0 f con)(h:Inv w0 G st a w){args:Array Operand}{ts:Array TypeId}(qh:o.op=.call {callee:=.value (.func f),args:=args,argTypes:=ts})
  (b:as6 con st o.dst args.toList k=some r) (W:ra w0 k r K):o.wp P a w K Q:=by
 unfold Oper.wp;rw[Ji M.1 qh];unfold as6 at b;dsimp only at b;obtain⟨j,l,qi,qj,X⟩:=h.freeze (gp st (.own true) con.i args.toList);have Y:∀t c v xs,c∈gp (st.freeze (gp st (.own true) con.i args.toList)) (.own true) con.i args.toList->bz j w (st.freeze (gp st (.own true) con.i args.toList)).bx (st.freeze (gp st (.own true) con.i args.toList)).bl c v->cx (st.freeze (gp st (.own true) con.i args.toList)) t c=some xs->∀e,Rd w (RO j false) (.sl e t) xs [v] :=
  fun t c v xs C=>aae l (nf:=false) (fun N=>by cases N) (fun N=>by cases N) t c v xs (by rw[Um X]at C;exact C)
 generalize st.freeze (gp st (.own true) con.i args.toList)=i at b l Y;clear qi qj X h;split at b
 .rename_i x Z;cases n:con.g x with
  |none=>rw[n]at b;cases b
  |some y =>
   rw[n]at b;simp only[alf]at b;have qk:(args.map a.eval)=(args.toList.map a.eval).toArray:=by rw[<-abE,w2]
   show Calls P f _ w _;rw[qk];cases qa:o.dst with
   |none=>rw[qa]at b;cases b
   |some d =>
    rw[qa]at b;dsimp only at b;obtain⟨op,p,ql,O,qb,qm⟩:=aag con.i con.ps args.toList x Z;rw[aAV O]at b;have key:∀p op y,im2 i (.own true) p op=some y->gn i (pmM true) [] (i.dR op).cells=true/\w3 i [p] [i.dR op]=true/\im1 i p op=some y:=by
     intro p op y A;simp only[im2]at A;split at A
     .rename_i B;rw[aA]at B;exact⟨B.1,B.2,A⟩
     .cases A
    obtain⟨D,E,qd,_,_,qn⟩:=BI (ok:=RO j false) (nw:=fun g=>j.nw g/\(j.own g=none\/(ch j (aR [i.dR op]) g).isSome=true)) (own0:=ch j (aR [i.dR op])) (g0:=0) l con.i con.ps args.toList x Y Z (fun E s y qe qD A qE=>by
     obtain⟨F,qf,H⟩:=key E s y A;have:s=op:=by rw[O]at qe;exact(eE qe).symm
     subst this;have qo:∀g,RO j (m2 (pmM true)) g->ch j (aR [i.dR s]) g=none/\((j.nw g/\(j.own g=none\/(ch j (aR [i.dR s]) g).isSome=true))\/(true=false/\RO j false g)):=by
      intro g n;refine⟨by simp[ch,n.1],?_⟩;rcases n.2 with R|R
      .exact .inl ⟨R,.inl n.1⟩
      .cases R.1
     obtain⟨z,_⟩:=Hh (m:=pmM true) (by simp[pmM]) qo l (aR [i.dR s]) [] [E] [i.dR s] [a.eval s] (y,()) (pre:=[]) (seen:=[]) ⟨l.dR s,trivial⟩ (by simp) (fun id len C=>by simp at C) (by rw[fU,Lo];exact F) qf (by have:imV i E (i.dR s)=some y:=H;simp[BF,this])
     obtain⟨v,qF,S,qp,_⟩:=z;cases S;exact qp)
    obtain⟨F,qf,H⟩:=key p op ql qm;have:D=op:=by rw[O]at qd;exact(eE qd).symm
    subst this;have qq:p=con.q:=by have:=M.2.1;rw[qb]at this;exact eE this
    subst qq;refine Calls.mono (M.2.2 x y n w l.below _ _ _ 0 _ _ (Oq l (own0:=ch j (aR [i.dR D])) fun g qG qt=>W6 qt) qn) fun e qu S=>?_
    obtain⟨us,rfl,⟨T,I,rfl,z⟩,qg⟩:=S;show K (a.put (some d) (eZ [T,I])) qu;cases L:alq con.b.1 y.2.1 with
    |true =>
     rw[L]at b z;rw[ay2 L]at b;exact ary (con:=aH2 con) (f:=true) l rfl (fun g n=>n) (l.dR D) qb (.inl rfl) H F z qg b W
    |false =>
     rw[L]at b z;rw[ay3 L]at b;obtain⟨B,b⟩:=aU (show ck _ _=some r from b);simp only[aA]at B;obtain⟨⟨hd1,qv⟩,qw⟩:=B;obtain⟨⟨bN,k7,qx,z⟩,qy⟩:=z;obtain⟨qH,hinv,hrel⟩:=av6 (q:=con.q) (y2:=y.2.2) (m:=2) (rs:=[con.b]) (y:=(y.2.1,())) (us:=[I]) l (fun g n=>n) (l.dR D) H F k7 qx z qg qv qw;refine W _ _ _ _ (hinv.put d (gq hd1) (v:=.TV (aDG con.a::(kY d true [con.b] (y.2.1,()) 0).1)) (u:=eZ [T,I]) ⟨#[T,I],rfl,?_,hrel⟩) b;unfold aDG;split
     .rename_i qz;obtain⟨qA,rfl,qB,qC⟩:=qy qz;exact⟨qA,rfl,av8 qB qC⟩
     .exact trivial
 .cases b
end
end Go.Am
