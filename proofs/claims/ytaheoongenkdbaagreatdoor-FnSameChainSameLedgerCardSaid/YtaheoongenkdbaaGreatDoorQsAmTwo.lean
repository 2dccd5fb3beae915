/- No condition. -/
import Derived.Test.YtaheoongenkdbaaGreatDoorQsAmCall
set_option linter.all false
namespace Go.Am
open Go.RowKit
section
variable {P:Program} {w0:eA} {w:World} {G:Gh} {st:St} {a:Act} {U:Type} {k:St->Option U} {r:U} {K:Act->World->Prop} {Q:Exit->Act->World->Prop} {o:Oper}
def Ia {f:FuncId}(c:Wo P f){args:Array Operand}{ts:Array TypeId}(d:o.op=.call {callee:=.value (.func f),args:=args,argTypes:=ts}) :
  (execOp a.eval o).run P w=.ok (.enter f (args.map a.eval)) w:=by
 obtain⟨fn,g,h,b⟩:=c;unfold execOp;rw[d]
 have i : ¬ fn.name = "runtime.NumGoroutine" := by simpa using h
 have j:¬fn.body=none:=by intro e;rw[e]at b;cases b
 simp[resolve,Act.eval,Deferred.ofValue,invoke,callFunc,g,i,j]
def Er:∀(l:List AC) (st:St),fW st (st.freeze l)
 |[],st=>.refl st|c::l,st=>(pE st c).trans (Er l (st.du c))
def YX {i:Gh}{l:List AC}(y:Inv w0 i (st.freeze l) a w){nf:Bool}(z:nf=true->nN st l=true)(A:nf=true->ca l=true) :
  ∀t c v xs,c∈l->bm i w (st.freeze l).bx (st.freeze l).bl c v->cz (st.freeze l) t c=some xs->∀e,Rd w (RO i nf) (.sl e t) xs [v]:=by
 intro t c v xs d B C e;refine iV y B C (fun id len b j h=>?_) (fun f e u D j=>?_) e
 .subst j;have E:b.w=false:=by
   rcases(Er l st).bl id with p|⟨q,p,s⟩
   .have:=H7 l st id len b d (p.symm.trans h);rw[h]at this;have:=eO (eO this);rw[this]
   .rw[h]at s;have:=eO (eO s);rw[this]
  refine⟨fun g m=>m.H4 fun n=>?_,fun x=>by rw[E]at x;cases x⟩;obtain⟨q,F,H⟩:=ajT (z n) id len d;have:=H7 l st id len q d (dx F);rw[h]at this;cases this;exact H
 .subst j;exact fun g m=>m.H4 fun n=>Nk (A n) f e u D d
def aaG {cA:St}(h:cA.tm=st.tm)(x:Operand):cA.dO x=st.dO x:=by
 have:cA.ev x=st.ev x:=by
  cases x with
  |tmp t =>
   show cA.get t=st.get t;unfold St.get;rw[h]
  |_=>rfl
 unfold St.dO;rw[this]
def aAU {cA:St}(h:fW st cA)(p:Ty×Bool)(o:Operand):im1 cA p o=im1 st p o:=by
 unfold im1 imV;rw[aaG h.tm];split
 .rw[sL h]
 .rw[sL h]
 .rfl
def afO {cA:St}(h:fW st cA):∀(ps:List (Ty×Bool)) (os:List Operand),MG cA ps os=MG st ps os
 |[],[]=>rfl|[],_::_=>rfl|_::_,[]=>rfl|p::ps,o::os=>by
  simp only[MG];rw[aAU h];split
  .rw[afO h ps os]
  .rfl
def ML {cA:St}(h:fW st cA):∀(os:List Operand),jv cA os=jv st os
 |[]=>rfl|o::os=>by simp only[jv];rw[aaG h.tm,ML h os]
def aAV (G:Gh)(bx:List (Nat×List AC))(bl:List (Nat×Option fa))(g:Nat):Key->Prop
 |.bx d=>(look bx d).isSome=true/\g=G.hb d|.bl id=>(look bl id).isSome=true/\(G.hv id).ownBlock=some g|.hid=>False
def Inv.aFQ (h:Inv w0 G st a w){w':World}{i:Nat->Prop}(j:ez i w w')(hfr:∀g,i g->(G.own g).isSome=true)(D:∀g,i g->G.own g≠some .hid)
  {G2:Gh} {bx2:List (Nat×List AC)} {bl2:List (Nat×Option fa)} (hnw:G2.nw=G.nw) (cU:G2.ok=G.ok) (A:∀g,g<w.heap.size->¬i g->G2.own g=G.own g)
  (q:jy G st.bx st.bl G2 bx2 bl2)
  (E:VE G w G2 w'->∀d l,look bx2 d=some l->(look st.bx d=some l/\G2.hb d=G.hb d/\¬i (G.hb d))\/(∃cs e,w'.heap[G2.hb d]?=some (.cells cs e (0,0))/\G2.own (G2.hb d)=some (.bx d)/\b6 (bm G2 w' bx2 bl2) l cs.toList))
  (F:∀id b,look bl2 id=some (some b)->(look st.bl id=some (some b)/\G2.hv id=G.hv id/\∀g,G.own g=some (.bl id)->¬i g)\/Dm G2 w' id b)
  (bd:∀g k,G2.own g=some k->(w.heap.size<=g\/i g)->g<w'.heap.size/\aAV G2 bx2 bl2 g k) :
  Inv w0 G2 {st with bx:=bx2,bl:=bl2} a w'/\VE G w G2 w':=by
 have s:VE G w G2 w':=by
  refine⟨hnw,cU,j.size,fun b u m=>?_,fun b u m=>?_⟩
  .have y:¬i b:=fun x=>by have:=hfr b x;rw[m]at this;cases this
   exact⟨(A b u y).trans m,j.block b u y⟩
  .have y:¬i b:=fun x=>D b x m
   exact⟨(A b u y).trans m,j.block b u y⟩
 refine⟨⟨hnw.trans h.nw,cU.trans h.rok,?_,h.defers,h.size,h.sp.mono s q,h.Eo s,fun t v H=>(h.tm t v H).mono s q,?_,?_,?_⟩,s⟩
 .refine h.below.step j.os j.tape j.output j.size fun k z x=>j.block k (Dj z h.below.size) fun I=>?_
  obtain⟨key,B⟩:=ij.1 (hfr k I);rcases(h.own k key B).1 with c|c
  .omega
  .exact x c
 .intro d l L;rcases E s d l L with ⟨c,n,f⟩|c
  .obtain⟨cs,e,M,C,N⟩:=h.bx d l c;have hlt:=(h.own _ _ C).2.1;refine⟨cs,e,?_,?_,N.imp fun _ _=>bm.mono s q⟩
   .rw[n,j.block _ hlt f];exact M
   .rw[n,A _ hlt f];exact C
  .exact c
 .intro id b u;rcases F id b u with ⟨c,n,f⟩|c
  .refine(h.bl id b c).mono s n fun S g T m=>?_
   have hlt:=(h.own _ _ m).2.1;exact⟨(A g hlt (f g m)).trans m,j.block g hlt (f g m)⟩
  .exact c
 .intro g k z;by_cases p:w.heap.size<=g\/i g
  .obtain⟨c,n⟩:=bd g k z p;refine⟨?_,c,by cases k with|bx d=>exact n|bl id=>exact n|hid=>exact n.elim⟩;rcases p with p|p
   .exact .inl (cj h.below.size p)
   .obtain⟨key,B⟩:=ij.1 (hfr g p);exact(h.own g key B).1
  .have hlt:g<w.heap.size:=by
    by_cases O:g<w.heap.size
    .exact O
    .exact absurd (.inl (by omega)) p
   have R:¬i g:=fun x=>p (.inr x)
   rw[A g hlt R]at z;obtain⟨c,n,f⟩:=h.own g k z;refine⟨c,Dj n j.size,?_⟩;cases k with
   |hid=>trivial|bx d=>exact⟨(q.bx d f.1).1,by rw[(q.bx d f.1).2];exact f.2⟩
   |bl id=>exact⟨(q.bl id f.1).1,by rw[(q.bl id f.1).2.1];exact f.2⟩
def MM (L:List (Nat×fa×Value))(g:Nat):Option Key:=(L.find? fun z=>z.2.2.ownBlock==some g).map fun z=>.bl z.1
def BR (L:List (Nat×fa×Value))(B:Option (Nat×Nat×List AC))(g:Nat):Option Key:=match B with
 |some (d,b,_)=>if g=b then some (.bx d) else MM L g|none=>MM L g
def Gh.back (G:Gh)(c:Nat)(own0 bL:Nat->Option Nat)(L:List (Nat×fa×Value))(B:Option (Nat×Nat×List AC)):Gh :=
 {nw:=G.nw,ok:=G.ok,
  hb:=fun x=>match B with|some (d,b,_)=>if x=d then b else G.hb x|none=>G.hb x,
  hv:=fun i=>match L.find? (·.1==i) with|some z=>z.2.2|none=>G.hv i,
  own:=fun g=>if g<c/\own0 g=none then G.own g else match bL g with|none=>none|some _=>BR L B g}
structure ajZ (w w':World) (G:Gh) (st:St) (own0 bL:Nat->Option Nat) (okE:Bool->Nat->Prop) (L:List (Nat×fa×Value)) (B:Option (Nat×Nat×List AC))
  (bx2:List (Nat×List AC)) (bl2:List (Nat×Option fa)):Prop where
 keeps:ez (fun g=>(own0 g).isSome=true) w w'
 pass:∀g j,own0 g=some j->(G.own g).isSome=true
 aFe:∀g j,own0 g=some j->G.own g≠some .hid
 new:∀g j,bL g=some j->w.heap.size<=g\/(own0 g).isSome=true
 els:∀f g,okE f g->RO (G.back w.heap.size own0 bL L B) f g
 row:∀z∈L,z.2.1.w=true/\0<z.2.1.t.n/\(∃rows,w'.ownsRow 0 z.2.1.e z.2.1.t.n z.2.2 z.2.1.xs.length rows/\eJ w' (okE z.2.1.f) z.2.1.t rows z.2.1.xs)/\∀g,z.2.2.ownBlock=some g->(bL g).isSome=true
 inj:∀z∈L,∀z'∈L,∀g,z.2.2.ownBlock=some g->z'.2.2.ownBlock=some g->z=z'
 uniq:∀z∈L,∀z'∈L,z.1=z'.1->z=z'
 name:∀z∈L,look st.bl z.1=none\/(z.2.2=G.hv z.1/\∃b,look st.bl z.1=some (some b)/\b.t=z.2.1.t)
 bl:∀i b,look bl2 i=some (some b)->(∃v,(i,b,v)∈L)\/((∀z∈L,z.1≠i)/\look st.bl i=some (some b)/\∀g,G.own g=some (.bl i)->own0 g=none)
 bls:∀i,(look st.bl i).isSome=true->(look bl2 i).isSome=true
 blL:∀z∈L,(look bl2 z.1).isSome=true
 bx:∀d l,look bx2 d=some l->(∃g0,B=some (d,g0,l))\/((∀d' g l',B=some (d',g,l')->d'≠d)/\look st.bx d=some l/\own0 (G.hb d)=none)
 bxs:∀d,(look st.bx d).isSome=true->(look bx2 d).isSome=true
 bxB:∀d g l,B=some (d,g,l)->(look bx2 d).isSome=true/\(look st.bx d=none\/G.hb d=g)/\((bL g).isSome=true/\∀z∈L,z.2.2.ownBlock≠some g) /\
  ∃cs e f t x,w'.heap[g]?=some (.cells cs e (0,0))/\l=ex f t x/\Rd w' (okE f) t x cs.toList
def ajZ.find {w w':World}{G:Gh}{st:St}{own0 bL:Nat->Option Nat}{okE:Bool->Nat->Prop}{L:List (Nat×fa×Value)}{B:Option (Nat×Nat×List AC)}
  {bx2:List (Nat×List AC)} {bl2:List (Nat×Option fa)} (h:ajZ w w' G st own0 bL okE L B bx2 bl2) {z:Nat×fa×Value} (b:z∈L) {g:Nat} (c:z.2.2.ownBlock=some g) :
  (G.back w.heap.size own0 bL L B).own g=some (.bl z.1):=by
 obtain⟨t,j⟩:=ij.1 ((h.row z b).2.2.2 g c);have m:MM L g=some (.bl z.1):=by
  unfold MM;cases e:L.find? fun z=>z.2.2.ownBlock==some g with
  |none =>
   have:=aju.1 e z b;simp[c]at this
  |some y =>
   have n:=afE e;have f:=WT e;have:=h.inj z b y f g c (by simpa using n);rw[<-this];rfl
 have p:¬(g<w.heap.size/\own0 g=none):=by
  rintro⟨n,f⟩;rcases h.new g _ j with i|i
  .omega
  .rw[f]at i;cases i
 unfold Gh.back;dsimp only;rw[af p,j];dsimp only;unfold BR;split
 .rename_i d u l;split
  .rename_i q;subst q;obtain⟨_,_,⟨v,s⟩,_⟩:=h.bxB d g l rfl;exact absurd c (s z b)
  .exact m
 .exact m
def Inv.back (h:Inv w0 G st a w){w':World}{own0 bL:Nat->Option Nat}{okE:Bool->Nat->Prop}{L:List (Nat×fa×Value)}{B:Option (Nat×Nat×List AC)}
  {bx2:List (Nat×List AC)} {bl2:List (Nat×Option fa)} (m:ajZ w w' G st own0 bL okE L B bx2 bl2) :
  Inv w0 (G.back w.heap.size own0 bL L B) {st with bx:=bx2,bl:=bl2} a w'/\∀c v,rY L c v->bm (G.back w.heap.size own0 bL L B) w' bx2 bl2 c v:=by
 have hvL:∀z∈L,(G.back w.heap.size own0 bL L B).hv z.1=z.2.2:=by
  intro z M;show(match L.find? (·.1==z.1) with|some z=>z.2.2|none=>G.hv z.1)=_;cases D:L.find? (·.1==z.1) with
  |none =>
   have:=aju.1 D z M;simp at this
  |some y =>
   have j:=afE D;have E:=WT D;rw[m.uniq y E z M (by simpa using j)]
 have qg:∀i,(∀z∈L,z.1≠i)->(G.back w.heap.size own0 bL L B).hv i=G.hv i:=by
  intro i N;show(match L.find? (·.1==i) with|some z=>z.2.2|none=>G.hv i)=_;cases D:L.find? (·.1==i) with
  |none=>rfl
  |some y =>
   have j:=afE D;exact absurd (by simpa using j) (N y (WT D))
 have qh:∀d,(∀H g l,B=some (H,g,l)->H≠d)->(G.back w.heap.size own0 bL L B).hb d=G.hb d:=by
  intro d O;show(match B with|some (H,F,_)=>if d=H then F else G.hb d|none=>G.hb d)=_;cases B with
  |none=>rfl
  |some q =>
   obtain⟨H,g,l⟩:=q;have:=O H g l rfl;show(if d=H then g else G.hb d)=_;rw[af fun e=>this e.symm]
 have qb:∀d g l,B=some (d,g,l)->(G.back w.heap.size own0 bL L B).hb d=g:=by intro d g l A;subst A;simp[Gh.back]
 have qn:jy G st.bx st.bl (G.back w.heap.size own0 bL L B) bx2 bl2:=by
  refine⟨fun d O=>⟨m.bxs d O,?_⟩,fun i N=>⟨m.bls i N,?_,fun qi qo=>?_⟩⟩
  .by_cases I:∃g l,B=some (d,g,l)
   .obtain⟨g,l,I⟩:=I;rw[qb d g l I];rcases(m.bxB d g l I).2.1 with j|j
    .rw[j]at O;cases O
    .exact j.symm
   .exact qh d fun H g l A qp=>I ⟨g,l,by rw[A,qp]⟩
  .by_cases I:∃z∈L,z.1=i
   .obtain⟨z,M,rfl⟩:=I;rw[hvL z M];rcases m.name z M with j|⟨j,_⟩
    .rw[j]at N;cases N
    .exact j
   .exact qg i fun z M qq=>I ⟨z,M,qq⟩
  .rcases m.bl i qi qo with ⟨v,X⟩|⟨_,j,_⟩
   .rcases m.name _ X with j|⟨_,b,E,p⟩
    .rw[j]at N;cases N
    .exact⟨b,E,p⟩
   .exact⟨qi,j,rfl⟩
 have qt:=h.aFQ (G2:=G.back w.heap.size own0 bL L B) (bx2:=bx2) (bl2:=bl2) m.keeps (fun g u=>by
   obtain⟨R,qe⟩:=ij.1 u;exact m.pass g R qe) (fun g u=>by
   obtain⟨R,qe⟩:=ij.1 u;exact m.aFe g R qe) rfl rfl (fun g u D=>by
   have:own0 g=none:=by
    cases S:own0 g with
    |none=>rfl|some R=>rw[S]at D;exact absurd rfl D
   simp[Gh.back,u,this]) qn (fun qB d l O=>by
   rcases m.bx d l O with ⟨F,u⟩|⟨j,E,p⟩
   .refine .inr ?_;obtain⟨_,_,⟨qu,qj⟩,cs,e,f,t,x,qd,rfl,qv⟩:=m.bxB d F l u;obtain⟨R,T⟩:=ij.1 qu;refine⟨cs,e,by rw[qb d F _ u];exact qd,?_,S2 (gS (fun g u=>m.els f g u) qv)⟩;rw[qb d F _ u];have qf:¬(F<w.heap.size/\own0 F=none):=by
     rintro⟨qC,qw⟩;rcases m.new F R T with p|p
     .omega
     .rw[qw]at p;cases p
    subst u;unfold Gh.back;dsimp only;rw[af qf,T];simp[BR]
   .exact .inl ⟨E,qh d j,by rw[p];simp⟩) (fun i b Y=>by
   rcases m.bl i b Y with ⟨v,X⟩|⟨j,E,p⟩
   .refine .inr ?_;obtain⟨qx,qy,⟨rows,T,qj⟩,qd⟩:=m.row _ X;have Z:=hvL _ X;refine⟨fun _=>⟨rows,?_,?_,?_⟩,fun qk=>?_,qy⟩
    .rw[Z];exact T
    .rw[Z];exact fun g u=>m.find X u
    .exact kF (fun g u=>m.els _ g u) qj
    .rw[show b.w=true from qx]at qk;cases qk
   .exact .inl ⟨E,qg i j,fun g u=>by rw[p g u];simp⟩) (fun g key C qz=>by
   have qf:¬(g<w.heap.size/\own0 g=none):=by
    rintro⟨j,E⟩;rcases qz with p|p
    .omega
    .rw[E]at p;cases p
   have qD:=C;unfold Gh.back at C;dsimp only at C;rw[af qf]at C;cases S:bL g with
   |none=>rw[S]at C;cases C
   |some R =>
    rw[S]at C;dsimp only at C;have ql:MM L g=some key->g<w'.heap.size/\aAV (G.back w.heap.size own0 bL L B) bx2 bl2 g key:=by
     intro qa;unfold MM at qa;cases D:L.find? fun z=>z.2.2.ownBlock==some g with
     |none=>rw[D]at qa;cases qa
     |some y =>
      rw[D]at qa;cases qa;have j:=afE D;have E:=WT D;have p:y.2.2.ownBlock=some g:=by simpa using j
      refine⟨?_,m.blL y E,by rw[hvL y E];exact p⟩;obtain⟨_,_,⟨rows,T,_⟩,_⟩:=m.row y E;rcases T.2 with ⟨A,_⟩|⟨qm,cap,cur,A,_,qA,_⟩
      .rw[A]at p;simp[Value.ownBlock]at p
      .rw[A]at p;have:qm=g:=by simpa [Value.ownBlock]using p
       subst this;exact(vQ.1 qA).1
    unfold BR at C;split at C
    .rename_i d F l;by_cases A:g=F
     .rw[ah A]at C;cases C;obtain⟨j,_,_,cs,e,f,t,x,qd,_⟩:=m.bxB d F l rfl;subst A;exact⟨(vQ.1 qd).1,j,(qb d g l rfl).symm⟩
     .rw[af A]at C;exact ql C
    .exact ql C)
 refine⟨qt.1,fun c v W=>?_⟩;cases c with
 |own i len =>
  cases len with
  |some l=>exact W.elim
  |none =>
   obtain⟨b,Y⟩:=W;have Z:=hvL _ Y;refine⟨m.blL _ Y,?_,Z.symm⟩;rw[show(G.back w.heap.size own0 bL L B).hv i=v from Z];obtain⟨_,_,⟨rows,S,_⟩,_⟩:=m.row _ Y;rcases S.2 with ⟨A,_⟩|⟨qm,cap,cur,A,_⟩
   .exact⟨_,_,_,A⟩
   .exact⟨_,_,_,A⟩
 |int k n=>exact W|bool b=>exact W|str s=>exact W|_=>exact W.elim
def gT:List AC->List Nat
 |[]=>[]|.own id _::l=>id::gT l|_::l=>gT l
def azo {m:Nat}(i:m=2\/m=3){seen:List Nat}{id:Nat}{len:Option Int}{l:List AC}(h:fT st m seen (.own id len::l)=true) :
  ∃b,st.nS id=some b/\(m=2->b.f=true)/\b.w=true/\id ∉ seen/\len=none/\fT st m (id::seen) l=true:=by
 simp only[fT]at h;split at h
 .rename_i b d;have hlen:∀o:Option Int,(match o with|none=>true|some _=>false)=true->o=none:=by
   intro o j;cases o with
   |none=>rfl|some _=>cases j
  have e:∀c:Bool,(!c)=true->c=false:=by intro c n;cases c with|false=>rfl|true=>cases n
  have f:Wn seen id=false->id ∉ seen:=fun g p=>by rw[S9.2 p]at g;cases g
  rcases i with rfl|rfl
  .simp only[aD,ju]at h;exact⟨b,d,fun _=>h.1.1.elim (fun h=>h.elim (fun h=>h) (fun h=>by cases h)) (fun h=>by cases h),h.1.2.1.1,f (e _ h.1.2.1.2),hlen _ h.1.2.2,h.2⟩
  .simp only[aD]at h;exact⟨b,d,fun q=>(by cases q),h.1.2.1.1,f (e _ h.1.2.1.2),hlen _ h.1.2.2,h.2⟩
 .cases h
def awd {m:Nat}{seen:List Nat}{c:AC}{l:List AC}(b:∀id len,c≠.own id len)(h:fT st m seen (c::l)=true):fT st m seen l=true:=by
 cases c with
 |own id len=>exact absurd rfl (b id len)|ro f e t xs=>simp only[fT,aD]at h;exact h.2|_=>exact h
def VI {m:Nat}(g:m=2\/m=3):∀{l:List AC} {seen:List Nat},fT st m seen l=true->(gT l).Nodup/\(∀id∈gT l,id ∉ seen)/\∀id len,AC.own id len∈l->len=none/\∃b,st.nS id=some b
 |[],seen,_=>⟨List.nodup_nil,fun id hi=>by simp[gT]at hi,fun id len hi=>by simp at hi⟩
 |c::l,seen,h=>by
  by_cases q:∃id len,c=.own id len
  .obtain⟨id,len,rfl⟩:=q;obtain⟨b,s,_,_,t,hlen,u⟩:=azo g h;obtain⟨j,e,n⟩:=VI g u;refine⟨List.nodup_cons.2 ⟨fun hi=>e id hi (by simp),j⟩,fun i hi=>?_,fun i f hi=>?_⟩
   .rcases fe.1 (show i∈id::gT l from hi) with rfl|hi
    .exact t
    .exact fun v=>e i hi (by simp[v])
   .rcases fe.1 hi with d|hi
    .cases d;exact⟨hlen,b,s⟩
    .exact n i f hi
  .have p:∀id len,c≠.own id len:=fun id len d=>q ⟨id,len,d⟩
   obtain⟨j,e,n⟩:=VI g (awd p h);have d:gT (c::l)=gT l:=by
    cases c with
    |own id len=>exact absurd rfl (p id len)|_=>rfl
   rw[d];refine⟨j,e,fun i f hi=>?_⟩;rcases fe.1 hi with x|hi
   .exact absurd x.symm (p i f)
   .exact n i f hi
def adr (id:Nat):∀(l:List AC),look (st.gone l).bl id=if id∈gT l then some none else look st.bl id
 |[]=>by simp[gT,St.gone]
 |c::l=>by
  have d:=adr id l;cases c with
  |own i len =>
   show look ((i,none)::(st.gone l).bl) id=_;rw[ar];by_cases b:i=id
   .simp[b,gT]
   .rw[af b,d];have f:¬id=i:=fun e=>b e.symm
    simp[gT,f]
  |_=>exact d
structure aq7 (w':World) (okE:Nat->Prop) (f:Bool) (bL:Nat->Option Nat) (G:Gh) (st:St) (z:Nat×Nat×fa×Value):Prop where
 wr:z.2.2.1.w=true
 nf:z.2.2.1.f=f
 pos:0<z.2.2.1.t.n
 row:∃rows,w'.ownsRow 0 z.2.2.1.e z.2.2.1.t.n z.2.2.2 z.2.2.1.xs.length rows/\eJ w' okE z.2.2.1.t rows z.2.2.1.xs
 nS:∀g,z.2.2.2.ownBlock=some g->bL g=some z.1
 hv:z.2.2.2=G.hv z.2.1
 old:∃b,look st.bl z.2.1=some (some b)/\b.t=z.2.2.1.t
def FrC.len {w:World}{okE:Nat->Prop}{own:Nat->Option Nat}:∀{t:Ty} {x:t.D} {j:Nat} {cs:List Value},FrC w okE own t x j cs->cs.length=t.n
 |.int _,_,_,_,h=>by rw[show _=_ from h];rfl
 |.bool,_,_,_,h=>by rw[show _=_ from h];rfl
 |.str,_,_,_,h=>by rw[show _=_ from h];rfl
 |.unit,_,_,_,h=>by rw[show _=_ from h];rfl
 |.pair a b,_,_,_,h=>by obtain⟨f,g,rfl,c,d⟩:=h;simp[Ty.n,FrC.len c,FrC.len d]
 |.sl e t,_,_,_,h=>by obtain⟨v,rows,rfl,_⟩:=h;rfl
def FrC.els {w:World}{okE aj0:Nat->Prop}{own:Nat->Option Nat}:∀{t:Ty} {x:t.D} {j:Nat} {cs:List Value},FrC w okE own t x j cs->(∀g,okE g->aj0 g)->FrC w aj0 own t x j cs
 |.int _,_,_,_,h,_=>h|.bool,_,_,_,h,_=>h|.str,_,_,_,h,_=>h|.unit,_,_,_,h,_=>h|.pair a b,_,_,_,h,c=>by obtain⟨i,l,e,d,f⟩:=h;exact⟨i,l,e,FrC.els d c,FrC.els f c⟩
 |.sl e t,_,_,_,h,c=>by obtain⟨v,rows,d,f,m,n,p⟩:=h;exact⟨v,rows,d,f,m,n,kF c p⟩
def nU.aDQ {w:World}{okE aj0:Nat->Prop}{own:Nat->Option Nat}(b:∀g,okE g->aj0 g):∀{rs:List (Ty×Bool)} {x:Args rs} {j:Nat} {vs:List Value},nU w okE own rs x j vs->nU w aj0 own rs x j vs
 |[],_,_,_,h=>h|_::_,_,_,_,h=>by obtain⟨v,c,e,⟨cs,d,f⟩,i⟩:=h;exact⟨v,c,e,⟨cs,FrC.els d b,f⟩,nU.aDQ b i⟩
def aCP (h:Inv w0 G st a w){l:List AC}:∀t c v xs,c∈l->bm G w st.bx st.bl c v->cz st t c=some xs->∀e,Rd w (fun _=>True) (.sl e t) xs [v]:=fun t c v xs _=>S8 h t c v xs
def ads {w':World}{okE:Nat->Prop}{f:Bool}{bL:Nat->Option Nat}:∀{t:Ty} {B x:t.D} {j:Nat} {l h:List AC} {vs u cs:List Value},
  im st t l=some (B,h)->b6 (bm G w st.bx st.bl) l vs->(∀id len,AC.own id len∈l->len=none/\∃b,st.nS id=some b)->FrC w' okE bL t x j cs->vs=cs++u ->
  ∃(C:List AC) (L:List (Nat×Nat×fa×Value)),l=C++h/\b6 (bm G w st.bx st.bl) h u/\(rX f t x l).2=h/\(rX f t x l).1=L.map (fun z=>(z.2.1,some z.2.2.1))/\L.map (·.2.1)=gT C /\
   (∀z∈L,j<=z.1/\z.1<j+t.n/\aq7 w' okE f bL G st z)/\(∀z∈L,∀A∈L,z.1=A.1->z=A)
 |.int k,B,x,j,l,h,vs,u,cs,g,hrel,bd,i,m=>by
  cases l with
  |nil=>simp[im]at g
  |cons c l =>
   cases c with
   |int q n =>
    simp only[im]at g;split at g
    .cases g;subst m;rw[show cs=_ from i]at hrel;exact⟨[_],[],rfl,hrel.2,rfl,rfl,rfl,fun z d=>by simp at d,fun z d=>by simp at d⟩
    .cases g
   |_=>simp[im]at g
 |.bool,B,x,j,l,h,vs,u,cs,g,hrel,bd,i,m=>by
  cases l with
  |nil=>simp[im]at g
  |cons c l =>
   cases c with
   |bool b =>
    simp only[im]at g;cases g;subst m;rw[show cs=_ from i]at hrel;exact⟨[_],[],rfl,hrel.2,rfl,rfl,rfl,fun z d=>by simp at d,fun z d=>by simp at d⟩
   |_=>simp[im]at g
 |.str,B,x,j,l,h,vs,u,cs,g,hrel,bd,i,m=>by
  cases l with
  |nil=>simp[im]at g
  |cons c l =>
   cases c with
   |str b =>
    simp only[im]at g;cases g;subst m;rw[show cs=_ from i]at hrel;exact⟨[_],[],rfl,hrel.2,rfl,rfl,rfl,fun z d=>by simp at d,fun z d=>by simp at d⟩
   |_=>simp[im]at g
 |.unit,B,x,j,l,h,vs,u,cs,g,hrel,bd,i,m=>by simp only[im]at g;cases g;subst m;rw[show cs=[] from i]at hrel;exact⟨[],[],rfl,hrel,by simp[rX],by simp[rX],rfl,fun z d=>by simp at d,fun z d=>by simp at d⟩
 |.pair p q,B,x,j,l,h,vs,u,cs,g,hrel,bd,i,m=>by
  simp only[im]at g;split at g
  .rename_i y W X;split at g
   .rename_i z qy d;cases g;obtain⟨qz,qA,rfl,Y,Z⟩:=i;obtain⟨C,qa,M,qb,N,qd,qe,E,qf⟩:=ads (f:=f) X hrel bd Y (by rw[m,ik]);obtain⟨qg,qh,qi,qj,qk,ql,qm,F,qn⟩:=ads (f:=f) (l:=W) d qb (fun id len qo=>bd id len (by rw[M];simp[qo])) Z rfl;refine⟨C++qg,qa++qh,by rw[M,qi,ik],qj,?_,?_,?_,fun z d=>?_,fun z d A s O=>?_⟩
    .simp only[rX,N,qk]
    .simp only[rX,N,qd,ql,adg]
    .rw[adg,qe,qm];have app:∀(a b:List AC),gT (a++b)=gT a++gT b:=by
      intro a b
      induction a with
      |nil=>rfl
      |cons c a R =>
       cases c with
       |own id len=>simp[gT,R]|_=>simp[gT,R]
     rw[app]
    .rcases kj.1 d with d|d
     .obtain⟨S,qp,H⟩:=E z d;exact⟨S,by simp only[Ty.n];omega,H⟩
     .obtain⟨S,qp,H⟩:=F z d;exact⟨by omega,by simp only[Ty.n];omega,H⟩
    .rcases kj.1 d with d|d<;>rcases kj.1 s with s|s
     .exact qf z d A s O
     .have:=(E z d).2.1;have:=(F A s).1;omega
     .have:=(F z d).1;have:=(E A s).2.1;omega
     .exact qn z d A s O
   .cases g
  .cases g
 |.sl e t,B,x,j,l,h,vs,u,cs,g,hrel,bd,i,m=>by
  cases l with
  |nil=>simp[im]at g
  |cons c l =>
   simp only[im]at g;split at g
   .rename_i qB D;cases g;obtain⟨v,rows,rfl,qq,qt,qu,qv⟩:=i;subst m;have qw:bm G w st.bx st.bl c v:=hrel.1;have I:b6 (bm G w st.bx st.bl) h u:=hrel.2;cases c with
    |own id len =>
     obtain⟨hlen,b,T⟩:=bd id len (by simp);subst hlen;simp only[cz,T]at D;split at D
     .rename_i qx;refine⟨[.own id none],[(j,id,⟨e,t,x,f,true⟩,v)],rfl,I,rfl,rfl,rfl,fun z d=>?_,fun z d A s _=>?_⟩
      .simp at d;subst d;refine⟨bP _,by simp[Ty.n],rfl,rfl,qq,⟨rows,qt,qv⟩,qu,qw.2.2,b,dx T,Ty.beq_eq qx⟩
      .simp at d s;rw[d,s]
     .cases D
    |nil=>exact⟨[_],[],rfl,I,rfl,rfl,rfl,fun z d=>by simp at d,fun z d=>by simp at d⟩
    |ro qC qD qE qF=>exact⟨[_],[],rfl,I,rfl,rfl,rfl,fun z d=>by simp at d,fun z d=>by simp at d⟩
    |_=>simp[cz]at D
   .cases g
def Tb {cA:St}(h:fW st cA)(pm:PM):∀(i:Nat) (os:List Operand),fU cA pm i os=fU st pm i os
 |0,[]=>rfl|_+1,[]=>rfl|0,o::os=>by simp only[fU];rw[aaG h.tm,ML h os,h.bx]
 |i+1,o::os=>by simp only[fU];rw[aaG h.tm,Tb h pm i os]
def AO (h:Inv w0 G st a w){ok nw:Nat->Prop}{own0:Nat->Option Nat}{g0:Nat}{pm:PM}:∀(i:Nat) (ps:List (Ty×Bool)) (os:List Operand) (x:Args ps),
  (∀t c v xs,c∈fU st pm i os->bm G w st.bx st.bl c v->cz st t c=some xs->∀e,Rd w ok (.sl e t) xs [v])->iK st pm i ps os=some x ->
  (∀p o y,l1 os i=some o->l1 ps i=some p->im2 st pm p o=some y->(pm=.rd->∀t c v xs,c∈(st.dO o).cells->bm G w st.bx st.bl c v->cz st t c=some xs->∀e,Rd w ok (.sl e t) xs [v])->aFb w ok nw own0 g0 pm p y (a.eval o)) ->
  ∃o p,l1 os i=some o/\l1 ps i=some p/\(∃y,im2 st pm p o=some y)/\S7 w ok nw own0 g0 pm i ps x (os.map a.eval) (a.eval o)
 |0,[],os,x,_,b,_=>by cases os<;>simp[iK]at b
 |_+1,[],os,x,_,b,_=>by cases os<;>simp[iK]at b
 |0,p::ps,[],x,_,b,_=>by simp[iK]at b
 |_+1,p::ps,[],x,_,b,_=>by simp[iK]at b
 |0,p::ps,o::os,x,f,b,j=>by
  simp only[iK]at b;split at b
  .rename_i y g;split at b
   .rename_i l m;cases b;refine⟨o,p,rfl,rfl,⟨y,g⟩,os.map a.eval,rfl,j p o y rfl rfl g (fun s t c v xs d=>f t c v xs ?_),HK h ps os l (fun t c v xs d=>f t c v xs ?_) m⟩
    .subst s;simp[fU,d]
    .simp[fU,d]
   .cases b
  .cases b
 |i+1,p::ps,o::os,x,f,b,j=>by
  simp only[iK]at b;split at b
  .rename_i y g;split at b
   .rename_i l m;cases b;obtain⟨u,z,n,q,A,B⟩:=AO h i ps os l (fun t c v xs d=>f t c v xs (by simp[fU,d])) m (fun p o y n q=>j p o y n q);exact⟨u,z,n,q,A,a.eval o,os.map a.eval,rfl,aq6 h (fun t c v xs d=>f t c v xs (by simp[fU,d])) g,B⟩
   .cases b
  .cases b
def Ib (h:Inv w0 G st a w){own0 bL:Nat->Option Nat}(n:∀g i,own0 g=some i->(G.own g).isSome=true)(L:List (Nat×fa×Value))(B:Option (Nat×Nat×List AC))(f:Bool)(g:Nat)
  (j:bL g=none/\((G.nw g/\(G.own g=none\/(own0 g).isSome=true))\/(f=false/\RO G false g))):RO (G.back w.heap.size own0 bL L B) f g:=by
 obtain⟨l,e⟩:=j;have bd:(G.back w.heap.size own0 bL L B).own g=none:=by
  show(if g<w.heap.size/\own0 g=none then G.own g else match bL g with|none=>none|some _=>BR L B g)=none;by_cases c:g<w.heap.size/\own0 g=none
  .rw[ah c];rcases e with ⟨_,b|b⟩|⟨_,b⟩
   .exact b
   .rw[c.2]at b;cases b
   .exact b.1
  .rw[af c,l]
 refine⟨bd,?_⟩;rcases e with ⟨b,_⟩|⟨b,m⟩
 .exact .inl b
 .rcases m.2 with d|d
  .exact .inl d
  .exact .inr ⟨b,d.2⟩
def Np (h:Inv w0 G st a w){own0:Nat->Option Nat}(e:∀g b,own0 g=some b->(G.own g).isSome=true) :
  Handed w (fun g=>w0.w.heap.size<=g\/w0.fr g) (RO G false) (fun g=>G.nw g/\(G.own g=none\/(own0 g).isSome=true)) own0 where
 kE g c:=by
  refine⟨h.atl c,.inl ?_⟩;cases d:G.own g with
  |none=>rfl|some k=>have:=(h.own g k d).2.1;omega
 bd g b f:=by obtain⟨k,i⟩:=ij.1 (e g b f);obtain⟨j,l,_⟩:=h.own g k i;exact⟨⟨h.S1 i,.inr (by rw[f];rfl)⟩,l,j⟩
 cU g c:=by
  cases d:own0 g with
  |none=>rfl
  |some b =>
   have:=e g b d;rw[c.1]at this;cases this
def awe {ok:Nat->Prop}{p:Ty×Bool}(c:p.2=true){x:Args [p]}{cs:Array Value}(h:dP w ok [p] x [.agg cs]):Rd w ok p.1 x.1 cs.toList:=by obtain⟨v,i,d,⟨e,f,b⟩,_⟩:=h;rw[c]at b;have:v=.agg cs:=(vS d).1.symm;rw[this]at b;have g:cs=e.toArray:=Value.agg.inj b;rw[g];exact f
def Tc {G:Gh}{bx:List (Nat×List AC)}{bl:List (Nat×Option fa)}{L:List (Nat×fa×Value)}(h:∀c v,rY L c v->bm G w bx bl c v){c:CV}{v:Value}(b:ats L c v):ei G w bx bl c v:=by
 cases c with
 |c x=>exact h x v b
 |agg l =>
  obtain⟨cs,d,e⟩:=b;exact⟨cs,d,e.imp h⟩
def aCQ (h:Inv w0 G st a w){con:Nf}{ok:Nat->Prop}{w':World}{g0:Nat}{u:Value}{y:Args con.rs×Args con.qs}{us:List Value}(cU:∀g,ok g->RO G false g)
  {t:Bool} (x:rdM con.m=some t) (n:ajW con w w' ok (fun g=>G.nw g/\(G.own g=none\/(none:Option Nat).isSome=true)) (fun _=>none) g0 u y us) (N:ez (fun g=>(none:Option Nat).isSome=true) w w') {d:Tmp}
  (p:aqJ t con.rs st d y.1 k=some r) (O:pD w0 k r K):K (a.put (some d) (eQ us)) w':=by
 obtain⟨bL,kE,_,n⟩:=n;have n:∃b cs e,us=[.pointer (some ⟨b,0,none⟩)]/\w.heap.size<=b/\(bL b).isSome=true/\w'.heap[b]?=some (.cells cs e (0,0)) /\
   dP w' (fun g=>bL g=none/\((G.nw g/\(G.own g=none\/(none:Option Nat).isSome=true))\/(t=false/\ok g))) con.rs y.1 [.agg cs]:=by
  unfold rdM at x;split at x
  .rename_i q;cases x;rw[q]at n;obtain⟨b,cs,e,B,A,C,q,D⟩:=n;exact⟨b,cs,e,B,A,C,q,iW (fun g c=>⟨c.1,.inl c.2⟩) D⟩
  .rename_i q;cases x;rw[q]at n;obtain⟨b,cs,e,B,A,C,q,D⟩:=n;exact⟨b,cs,e,B,A,C,q,iW (fun g c=>⟨c.1,c.2.imp_right fun h=>⟨rfl,h⟩⟩) D⟩
  .cases x
 obtain⟨b,cs,e,rfl,qb,R,S,T⟩:=n;obtain⟨qd,i,pm,rs,m,qe,g⟩:=con;dsimp only at *;unfold aqJ at p;split at p
 .rename_i E qf;split at p
  .rename_i W;obtain⟨F,p⟩:=aR p;rw[aD]at F;have X:=awe F.2 T;have Y:ajZ w w' G st (fun _=>none) bL (fun f g=>bL g=none/\((G.nw g/\(G.own g=none\/(none:Option Nat).isSome=true))\/(f=false/\RO G false g))) [] (some (d,b,ex t E.1 y.1.1))
     ((d,ex t E.1 y.1.1)::st.bx) st.bl:=by
    refine⟨N,fun g M c=>(by cases c),fun g M c=>(by cases c),kE,fun f g c=>Ib h (fun g M c=>by cases c) [] _ f g c,fun z j=>(by simp at j),fun z j=>(by simp at j),fun z j=>(by simp at j),fun z j=>(by simp at j),
     fun i b Z=>.inr ⟨fun z j=>(by simp at j),Z,fun _ _=>rfl⟩,fun i qa=>qa,fun z j=>(by simp at j),fun H l s=>?_,fun H s=>vi _ trivial s,fun H g l I=>?_⟩
    .rw[ar]at s;by_cases L:d=H
     .subst L;rw[ah rfl]at s;cases s;exact .inl ⟨b,rfl⟩
     .rw[af L]at s;exact .inr ⟨fun qg g qh I=>(by cases I;exact L),s,rfl⟩
    .cases I;refine⟨by simp[ar],.inl W,⟨R,fun z j=>(by simp at j)⟩,cs,e,t,E.1,y.1.1,S,rfl,gS (fun g c=>⟨c.1,c.2.imp_right fun h=>⟨h.1,cU g h.2⟩⟩) X⟩
   obtain⟨hinv,_⟩:=h.back Y;have A:=hinv.put d (fV F.1) (v:=.v (.c (.ptr d 0))) (u:=.pointer (some ⟨b,0,none⟩)) ⟨by simp[ar],by simp[Gh.back]⟩;exact O _ _ _ _ A p
  .cases p
 .cases p
def YY {id:Nat}:∀{l:List AC} {k:Nat},id ∉ gT l->Ta l id k=none
 |[],_,_=>rfl|c::l,k,h=>by
  cases c with
  |own i len =>
   have b:i≠id:=fun e=>h (by simp[gT,e])
   have d:id ∉ gT l:=fun f=>h (by simp[gT,f])
   simp[Ta,b,YY d]
  |_=>exact YY (l:=l) h
def VJ {all:List AC}{g j:Nat}(h:b7 G all g=some j):(G.own g).isSome=true:=by
 unfold b7 at h;split at h
 .rename_i id hid;rw[hid];rfl
 .cases h
def aAW {all:List AC}{g j:Nat}(h:b7 G all g=some j):G.own g≠some .hid:=by
 unfold b7 at h;split at h
 .rename_i id hid;rw[hid];simp
 .cases h
def W0 (h:Inv w0 G st a w){ok:Nat->Prop}{w':World}{rs:List (Ty×Bool)}{m:Nat}{y:Args rs}{us:List Value}(cU:∀g,ok g->RO G false g){all:List AC}{bL:Nat->Option Nat}
  (kE:∀g C,bL g=some C->w.heap.size<=g\/(b7 G all g).isSome=true) (Z:eh rs=true)
  (qa:nU w' (fun g=>bL g=none/\((G.nw g/\(G.own g=none\/(b7 G all g).isSome=true))\/(m2 m=false/\ok g))) bL rs y 0 us) (qb:ez (fun g=>(b7 G all g).isSome=true) w w') {d:Tmp}
  (qd:fq (ks d (m2 m) rs y 0).2 st=true) {bl3:List (Nat×Option fa)} {L2:List (Nat×Nat×fa×Value)}
  (qe:∀i b,look bl3 i=some (some b)->(∃z∈L2,z.2.1=i/\z.2.2.1=b)\/((∀z∈L2,z.2.1≠i)/\i ∉ gT all/\look st.bl i=some (some b))) (qf:∀i,(look st.bl i).isSome=true->(look bl3 i).isSome=true)
  (qg:∀z∈L2,(look bl3 z.2.1).isSome=true) (qh:∀z∈L2,∀B∈L2,z.2.1=B.2.1->z=B)
  (E:∀z∈L2,nOf rs<=z.1/\aq7 w' (fun g=>bL g=none/\((G.nw g/\(G.own g=none\/(b7 G all g).isSome=true))\/(m2 m=false/\ok g))) (m2 m) bL G st z) (qi:∀z∈L2,∀B∈L2,z.1=B.1->z=B) :
  ∃Y,Inv w0 Y {st with bl:=(ks d (m2 m) rs y 0).2++bl3} a w'/\b6 (ei Y w' st.bx ((ks d (m2 m) rs y 0).2++bl3)) (ks d (m2 m) rs y 0).1 us:=by
 obtain⟨L,M,qj⟩:=aaE (id:=d) (f:=m2 m) Z qa;have N:=M.q;have R:∀z∈L,look st.bl z.1=none:=fun z j=>BP qd z.1 (by rw[N];exact jz j)
 have F:∀z,z∈L++L2.map (·.2)->z∈L\/∃p,(p,z)∈L2:=by
  intro z j;rcases kj.1 j with j|j
  .exact .inl j
  .obtain⟨q,N,rfl⟩:=HY.1 j;exact .inr ⟨q.1,N⟩
 have S:∀z∈L,∀g,z.2.2.ownBlock=some g->∃C,bL g=some C/\C<nOf rs/\z.1=d*64+C:=by intro z j g n;obtain⟨A,t,s⟩:=M.rows z j;exact⟨_,s.nS g n,by omega,by omega⟩
 have qk:ajZ w w' G st (b7 G all) bL (fun f g=>bL g=none/\((G.nw g/\(G.own g=none\/(b7 G all g).isSome=true))\/(f=false/\RO G false g))) (L++L2.map (·.2)) none st.bx ((ks d (m2 m) rs y 0).2++bl3):=by
  refine⟨qb,fun g C n=>VJ n,fun g C n=>aAW n,kE,fun f g n=>Ib h (fun g C n=>VJ n) _ _ f g n,fun z j=>?_,fun z j B u g n T=>?_,fun z j B u H=>?_,fun z j=>?_,fun i b O=>?_,fun i ql=>?_,fun z j=>?_,fun W l D=>?_,
   fun W qm=>qm,fun W g l H=>by cases H⟩
  .rcases F z j with j|⟨p,j⟩
   .obtain⟨A,t,s⟩:=M.rows z j;obtain⟨rows,I,X⟩:=s.row;refine⟨s.wr,s.pos,⟨rows,I,ado (fun qn g n=>⟨n.1,?_⟩) X⟩,fun g n=>by rw[s.nS g n];rfl⟩;rw[s.nf,qn,Bool.or_false];exact n.2.imp_right fun h=>⟨h.1,cU g h.2⟩
   .obtain⟨A,s⟩:=E _ j;obtain⟨rows,I,X⟩:=s.row;refine⟨s.wr,s.pos,⟨rows,I,kF (fun g n=>⟨n.1,?_⟩) X⟩,fun g n=>by rw[s.nS g n];rfl⟩;rw[show z.2.1.f=m2 m from s.nf];exact n.2.imp_right fun h=>⟨h.1,cU g h.2⟩
  .rcases F z j with j|⟨p,j⟩<;>rcases F B u with u|⟨qo,u⟩
   .obtain⟨C,A,_,t⟩:=S z j g n;obtain⟨qu,s,_,I⟩:=S B u g T;rw[A]at s;cases s;exact M.uniq z j B u (by omega)
   .obtain⟨C,A,t,_⟩:=S z j g n;obtain⟨s,I⟩:=E _ u;have:=I.nS g T;rw[A]at this;cases this;dsimp only at s;omega
   .obtain⟨C,A,t,_⟩:=S B u g T;obtain⟨s,I⟩:=E _ j;have:=I.nS g n;rw[A]at this;cases this;dsimp only at s;omega
   .have A:=(E _ j).2.nS g n;have t:=(E _ u).2.nS g T;rw[A]at t;have:=qi _ j _ u (eO t);exact ve (·.2) this
  .rcases F z j with j|⟨p,j⟩<;>rcases F B u with u|⟨qo,u⟩
   .exact M.uniq z j B u H
   .obtain⟨b,A,_⟩:=(E _ u).2.old;have t:=R z j;rw[H]at t;rw[show look st.bl B.1=_ from A]at t;cases t
   .obtain⟨b,A,_⟩:=(E _ j).2.old;have t:=R B u;rw[<-H]at t;rw[show look st.bl z.1=_ from A]at t;cases t
   .exact ve (·.2) (qh _ j _ u H)
  .rcases F z j with j|⟨p,j⟩
   .exact .inl (R z j)
   .exact .inr ⟨(E _ j).2.hv,(E _ j).2.old⟩
  .rw[de]at O;cases D:look (ks d (m2 m) rs y 0).2 i with
   |some x =>
    rw[D]at O;cases O;rw[N]at D;obtain⟨v,qp⟩:=aaF D;exact .inl ⟨v,by simp[qp]⟩
   |none =>
    rw[D]at O;rcases qe i b O with ⟨z,j,rfl,rfl⟩|⟨A,t,s⟩
    .exact .inl ⟨z.2.2.2,List.mem_append_right _ (HY.2 ⟨z,j,rfl⟩)⟩
    .refine .inr ⟨fun z j=>?_,s,fun g n=>?_⟩
     .rcases F z j with j|⟨p,j⟩
      .rintro rfl;rw[R z j]at s;cases s
      .exact A _ j
     .unfold b7;rw[n];exact YY t
  .rw[de];cases D:look (ks d (m2 m) rs y 0).2 i with
   |some x=>rfl|none=>exact qf i ql
  .rcases F z j with j|⟨p,j⟩
   .rw[de,N];have:=jz j;cases D:look (L.map fun z=>(z.1,some z.2.1)) z.1 with
    |some x=>rfl|none=>rw[D]at this;cases this
   .rw[de];cases D:look (ks d (m2 m) rs y 0).2 z.1 with
    |some x=>rfl|none=>exact qg _ j
  .refine .inr ⟨fun qv g qw H=>(by cases H),D,?_⟩;obtain⟨cs,e,_,t,_⟩:=h.bx W l D;unfold b7;rw[t]
 obtain⟨hinv,qq⟩:=h.back qk;have hrel:=qj.imp fun c v qt=>Tc qq (ats.H4 (L':=L++L2.map (·.2)) (fun z j=>by simp[j]) qt)
 exact⟨_,hinv,hrel⟩
def aj1 (h:Inv w0 G st a w){ok:Nat->Prop}{w':World}{rs:List (Ty×Bool)}{m:Nat}{y:Args rs}{us:List Value}(cU:∀g,ok g->RO G false g){all:List AC}{bL:Nat->Option Nat}
  (kE:∀g e,bL g=some e->w.heap.size<=g\/(b7 G all g).isSome=true) (f:eh rs=true)
  (j:nU w' (fun g=>bL g=none/\((G.nw g/\(G.own g=none\/(b7 G all g).isSome=true))\/(m2 m=false/\ok g))) bL rs y 0 us) (l:ez (fun g=>(b7 G all g).isSome=true) w w') {d:Tmp}
  (n:Nat.blt d st.nt=true) (p:fq (ks d (m2 m) rs y 0).2 st=true) {bl3:List (Nat×Option fa)} {L2:List (Nat×Nat×fa×Value)}
  (q:∀i b,look bl3 i=some (some b)->(∃z∈L2,z.2.1=i/\z.2.2.1=b)\/((∀z∈L2,z.2.1≠i)/\i ∉ gT all/\look st.bl i=some (some b))) (s:∀i,(look st.bl i).isSome=true->(look bl3 i).isSome=true)
  (t:∀z∈L2,(look bl3 z.2.1).isSome=true) (u:∀z∈L2,∀c∈L2,z.2.1=c.2.1->z=c)
  (v:∀z∈L2,nOf rs<=z.1/\aq7 w' (fun g=>bL g=none/\((G.nw g/\(G.own g=none\/(b7 G all g).isSome=true))\/(m2 m=false/\ok g))) (m2 m) bL G st z) (x:∀z∈L2,∀c∈L2,z.1=c.1->z=c)
  (A:k {(st.put d (H0 (ks d (m2 m) rs y 0).1)) with bl:=(ks d (m2 m) rs y 0).2++bl3}=some r) (B:pD w0 k r K):K (a.put (some d) (eQ us)) w':=by
 obtain⟨D,hinv,hrel⟩:=W0 h cU kE f j l p q s t u v x;have C:=hinv.put d (fV n) (vZ (R:=fun _ _=>True) hrel);exact B _ _ _ _ C A
def azp {L:List (Nat×Nat×fa×Value)}{i:Nat}:∀{x:Option fa},look (L.map fun z=>(z.2.1,some z.2.2.1)) i=some x->∃z∈L,z.2.1=i/\x=some z.2.2.1:=by
 induction L with
 |nil=>intro x h;simp[look]at h
 |cons z L c =>
  intro x h;rw[r8,ar]at h;by_cases b:z.2.1=i
  .rw[ah b]at h;exact⟨z,by simp,b,(eO h).symm⟩
  .rw[af b]at h;obtain⟨y,d,e⟩:=c h;exact⟨y,by simp[d],e⟩
def Td {L:List (Nat×Nat×fa×Value)}{i:Nat}(h:look (L.map fun z=>(z.2.1,some z.2.2.1)) i=none):∀z∈L,z.2.1≠i:=by
 induction L with
 |nil=>intro z b;simp at b
 |cons y L d =>
  rw[r8,ar]at h;by_cases c:y.2.1=i
  .rw[ah c]at h;cases h
  .rw[af c]at h;intro z b;rcases fe.1 b with rfl|b
   .exact c
   .exact d h z b
def azq {bx:List (Nat×List AC)}{bl:List (Nat×Option fa)}{p:Ty×Bool}{c:CV}{u:Value}{f:p.1.D}(g:ei G w bx bl c u)(hi:imV st p c=some f) :
  ∃d,im st p.1 c.cells=some (f,[])/\b6 (bm G w bx bl) c.cells d/\u=(match p.2 with|true=>.agg d.toArray|false=>d.headD undef)/\(p.2=false->d.length=1):=by
 obtain⟨t,b⟩:=p;cases c with
 |agg l =>
  cases b with
  |false=>simp[imV]at hi
  |true =>
   simp only[imV]at hi;split at hi
   .rename_i z e;cases hi;obtain⟨d,h,hrel⟩:=g;exact⟨d.toList,e,hrel,by rw[h,vR],fun i=>by cases i⟩
   .cases hi
 |c x =>
  cases b with
  |true=>simp[imV]at hi
  |false =>
   simp only[imV]at hi;split at hi
   .rename_i z e;cases hi;exact⟨[u],e,⟨g,trivial⟩,rfl,fun _=>rfl⟩
   .cases hi
def Kc (c:CV):aN [c]=c.cells:=by simp[aN]
def atu (h:Inv w0 G st a w){ok:Nat->Prop}{w':World}{rs:List (Ty×Bool)}{m:Nat}{q:Ty×Bool}{y:Args rs}{y2:q.1.D}{us:List Value}{u:Value}(cU:∀g,ok g->RO G false g){c:CV}{f:Bool}{bL:Nat->Option Nat}
  (qa:ei G w st.bx st.bl c u) {qb:q.1.D} (qd:imV st q c=some qb) (qe:fT st (pmM f) [] c.cells=true)
  (kE:∀g qf,bL g=some qf->w.heap.size<=g\/(b7 G (aN [c]) g).isSome=true)
  (qg:nU w' (fun g=>bL g=none/\((G.nw g/\(G.own g=none\/(b7 G (aN [c]) g).isSome=true))\/(m2 m=false/\ok g))) bL [q] (y2,()) (nOf rs) [u])
  (qh:nU w' (fun g=>bL g=none/\((G.nw g/\(G.own g=none\/(b7 G (aN [c]) g).isSome=true))\/(m2 m=false/\ok g))) bL rs y 0 us)
  (qi:ez (fun g=>(b7 G (aN [c]) g).isSome=true) w w') (qj:eh rs=true) {d:Tmp} (qk:fq (ks d (m2 m) rs y 0).2 st=true) :
  ∃O,Inv w0 O {st with bl:=(ks d (m2 m) rs y 0).2++((rX (m2 m) q.1 y2 c.cells).1++st.bl)} a w'/\b6 (ei O w' st.bx ((ks d (m2 m) rs y 0).2++((rX (m2 m) q.1 y2 c.cells).1++st.bl))) (ks d (m2 m) rs y 0).1 us:=by
 have R:=VI (st:=st) (m:=pmM f) (by cases f<;>simp[pmM]) qe;have ql:=Kc c;obtain⟨v,qA,D,⟨cs,hfr,j⟩,_⟩:=qg;have qm:v=u:=(vS D).1.symm;subst qm;obtain⟨S,T,hrel,s,hlen⟩:=azq qa qd;have qn:S=cs++[]:=by
  rw[fS];cases I:q.2 with
  |true =>
   rw[I]at s j;rw[s]at j;have:=Value.agg.inj j;simpa using ve Array.toList this
  |false =>
   rw[I]at s j;have l:=hlen I;have t:cs.length=1:=by have qo:=FrC.len hfr;obtain⟨qB,qp,C,qq,qt,_⟩:=Nj (ok:=fun _=>True) (aCP h) hrel T;have qu:=qq.len;have qv:=b6.len qt;have:qp=[]:=WS qv.symm;subst this;rw[fS]at C;subst C;rw[qo,<-qu];exact l
   match S,cs,l,t,s,j with
   |[W],[X],_,_,s,j =>
    have:W=X:=by have qw:v=W:=s;have A:v=X:=j;rw[<-qw,<-A]
    rw[this]
 obtain⟨qC,L,B,_,_,A,M,N,Y⟩:=ads (f:=m2 m) T hrel R.2.2 hfr qn;rw[fS]at B;have qx:∀z∈L,∀E∈L,z.2.1=E.2.1->z=E:=by
  have F:(L.map (·.2.1)).Nodup:=by rw[M,<-B];exact R.1
  intro z e E qy D;clear A M N Y
  induction L with
  |nil=>simp at e
  |cons q L qz =>
   rw[r8,List.nodup_cons]at F;rcases fe.1 e with B|l<;>rcases fe.1 qy with C|t
   .rw[B,C]
   .exact absurd (HY.2 ⟨E,t,by rw[<-D,B]⟩) F.1
   .exact absurd (HY.2 ⟨z,l,by rw[D,C]⟩) F.1
   .exact qz F.2 l t
 refine W0 h cU kE qj qh qi qk (L2:=L) (bl3:=(rX (m2 m) q.1 y2 c.cells).1++st.bl) (fun i b n=>?_) (fun i H=>?_) (fun z e=>?_) qx (fun z e=>⟨(N z e).1,(N z e).2.2⟩) Y
 .rw[A,de]at n;cases p:look (L.map fun z=>(z.2.1,some z.2.2.1)) i with
  |some x =>
   rw[p]at n;dsimp only at n;obtain⟨z,e,l,t⟩:=azp p;rw[t]at n;exact .inl ⟨z,e,l,eO (eO n)⟩
  |none =>
   rw[p]at n;have Z:=Td p;refine .inr ⟨Z,fun H=>?_,n⟩;rw[ql,B,<-M]at H;obtain⟨z,e,rfl⟩:=HY.1 H;exact Z z e rfl
 .rw[A,de];cases p:look (L.map fun z=>(z.2.1,some z.2.2.1)) i with
  |some x=>rfl|none=>exact H
 .rw[A,de];cases p:look (L.map fun z=>(z.2.1,some z.2.2.1)) z.2.1 with
  |some x=>rfl|none=>exact absurd rfl (Td p z e)
def apo (h:Inv w0 G st a w){con:Nf}{f:Bool}(I:con.pm=.own f){ok:Nat->Prop}{w':World}{g0:Nat}{u:Value}{y:Args con.rs×Args con.qs}{us:List Value}(cU:∀g,ok g->RO G false g){c:CV}
  (L:ei G w st.bx st.bl c u) {p:Ty×Bool} (M:l1 con.ps con.i=some p) (N:azn con) {O:p.1.D} (S:imV st p c=some O) (t:fT st (pmM f) [] c.cells=true)
  (n:ajW con w w' ok (fun g=>G.nw g/\(G.own g=none\/(b7 G (aN [c]) g).isSome=true)) (b7 G (aN [c])) g0 u y us) (v:ez (fun g=>(b7 G (aN [c]) g).isSome=true) w w') {d:Tmp}
  (j:aao con.rs con.qs con.m st c d y k=some r) (x:pD w0 k r K):K (a.put (some d) (eQ us)) w':=by
 obtain⟨bL,kE,A,n⟩:=n;rw[I]at A;obtain⟨qb,i,pm,rs,m,qd,g⟩:=con;dsimp only at *;unfold aao at j;obtain⟨B,j⟩:=aR j;simp only[aD,ju]at B;obtain⟨⟨⟨T,C⟩,D⟩,E⟩:=B;have W:m=2\/m=3:=T.imp aI aI;have F:nU w' (fun g=>bL g=none/\((G.nw g/\(G.own g=none\/(b7 G (aN [c]) g).isSome=true))\/(m2 m=false/\ok g))) bL rs y.1 0 us:=by rcases W with rfl|rfl<;>exact n
 have qe:=VI (st:=st) (m:=pmM f) (by cases f<;>simp[pmM]) t;have X:=Kc c;split at j
 ·
  refine aj1 h cU kE E F v D C (L2:=[]) (bl3:=(st.gone c.cells).bl) (fun i b l=>.inr ?_) (fun i Y=>?_) (fun z e=>by simp at e) (fun z e=>by simp at e) (fun z e=>by simp at e) (fun z e=>by simp at e) j x
  .rw[adr]at l;split at l
   .cases l
   .exact⟨fun z e=>by simp at e,by rw[X];assumption,l⟩
  .rw[adr];split
   .rfl
   .exact Y
 ·
  rename_i q y qf;have Z:q=p:=by
   rcases N with s|⟨qg,s,H⟩
   .cases s
   .cases s;rw[M]at H;exact(eO H).symm
  subst Z;obtain⟨qh,hinv,hrel⟩:=atu (q:=q) (y2:=y.2.1) h cU L S t kE A F v E C;have qa:=hinv.put d (fV D) (vZ (R:=fun _ _=>True) hrel);exact x _ _ _ _ qa j
 .cases j
def cF (g0:Nat)(g:Nat):Option Nat:=if g=g0 then some 0 else none
def oN {g0 g:Nat}(h:g≠g0):cF g0 g=none:=by simp[cF,h]
def pF (h:Inv w0 G st a w){b:Nat}{O:List AC}(qd:look st.bx b=some O){w':World}{bL:Nat->Option Nat}
  (kE:∀g m,bL g=some m->w.heap.size<=g\/(cF (G.hb b) g).isSome=true) (qe:ez (fun g=>(cF (G.hb b) g).isSome=true) w w') {p:Ty×Bool} {z:p.1.D} {cs:Array Value} {e:TypeId} {n:Nat}
  (qf:∃m,bL (G.hb b)=some m/\n<=m) (qg:w'.heap[G.hb b]?=some (.cells cs e (0,0)))
  {R S:Nat->Prop} {fb f:Bool} (qh:∀g,R g->(G.nw g/\(G.own g=none\/(cF (G.hb b) g).isSome=true))\/(fb=false/\RO G false g))
  (qi:∀g,S g->(G.nw g/\(G.own g=none\/(cF (G.hb b) g).isSome=true))\/(f=false/\RO G false g))
  (qj:Rd w' (fun g=>bL g=none/\R g) p.1 z cs.toList) {q:List (Nat×Option fa)} {B:List (Nat×fa×Value)} {d:Nat}
  (F:Fr w' (fun g=>bL g=none/\S g) f bL d 0 (0+n) q B) (qk:fq q st=true) :
  Inv w0 (G.back w.heap.size (cF (G.hb b)) bL B (some (b,G.hb b,ex fb p.1 z))) {st with bx:=(b,ex fb p.1 z)::st.bx,bl:=q++st.bl} a w' /\
   ∀c v,rY B c v->bm (G.back w.heap.size (cF (G.hb b)) bL B (some (b,G.hb b,ex fb p.1 z))) w' ((b,ex fb p.1 z)::st.bx) (q++st.bl) c v:=by
 obtain⟨qw,qx,_,bd,_⟩:=h.bx b O qd;have L:=F.q;have T:∀g m,cF (G.hb b) g=some m->(G.own g).isSome=true:=by
  intro g m j;unfold cF at j;split at j
  .rename_i A;rw[A,bd];rfl
  .cases j
 have ql:∀g m,cF (G.hb b) g=some m->G.own g≠some .hid:=by
  intro g m j;unfold cF at j;split at j
  .rename_i A;rw[A,bd];simp
  .cases j
 have W:∀z∈B,look st.bl z.1=none:=fun z M=>BP qk z.1 (by rw[L];exact jz M)
 have N:∀z∈B,∀g,z.2.2.ownBlock=some g->∃m,bL g=some m/\m<n/\z.1=d*64+m:=by intro z M g j;obtain⟨C,D,u⟩:=F.rows z M;exact⟨_,u.nS g j,by omega,by omega⟩
 refine h.back (okE:=fun f g=>bL g=none/\((G.nw g/\(G.own g=none\/(cF (G.hb b) g).isSome=true))\/(f=false/\RO G false g))) ⟨qe,T,ql,kE,fun f g j=>Ib h T _ _ f g j,fun y t=>?_,fun y t X Y g j qm=>?_,F.uniq,
  fun y t=>.inl (W y t),fun i qn E=>?_,fun i qo=>?_,fun y t=>?_,fun H l s=>?_,fun H qp=>vi _ trivial qp,fun H g l A=>?_⟩
 .obtain⟨C,D,u⟩:=F.rows y t;obtain⟨rows,Z,qq⟩:=u.row;refine⟨u.wr,u.pos,⟨rows,Z,ado (fun qt g j=>⟨j.1,?_⟩) qq⟩,fun g j=>by rw[u.nS g j];rfl⟩;rw[u.nf,qt,Bool.or_false];exact qi g j.2
 .obtain⟨m,C,_,D⟩:=N y t g j;obtain⟨qu,u,_,Z⟩:=N X Y g qm;rw[C]at u;cases u;exact F.uniq y t X Y (by omega)
 .rw[de]at E;cases s:look q i with
  |some x =>
   rw[s]at E;cases E;rw[L]at s;obtain⟨v,qv⟩:=aaF s;exact .inl ⟨v,qv⟩
  |none =>
   rw[s]at E;refine .inr ⟨fun y t=>?_,E,fun g j=>?_⟩
   .rintro rfl;have qa:look st.bl y.1=some (some qn):=E;rw[W y t]at qa;cases qa
   .refine oN ?_;rintro rfl;rw[bd]at j;cases j
 .rw[de];cases s:look q i with
  |some x=>rfl|none=>exact qo
 .rw[de,L];have:=jz t;cases s:look (B.map fun z=>(z.1,some z.2.1)) y.1 with
  |some x=>rfl|none=>rw[s]at this;cases this
 .rw[ar]at s;by_cases I:b=H
  .subst I;rw[ah rfl]at s;cases s;exact .inl ⟨_,rfl⟩
  .rw[af I]at s;refine .inr ⟨fun qy g qz A=>(by cases A;exact I),s,?_⟩;obtain⟨cs,e,_,D,_⟩:=h.bx H l s;refine oN ?_;intro A;rw[A,bd]at D;cases D;exact I rfl
 .cases A;obtain⟨m,qb,qA⟩:=qf;refine⟨by simp[ar],.inr rfl,⟨by rw[qb];rfl,fun y t j=>?_⟩,cs,e,fb,p.1,z,qg,rfl,gS (fun g j=>⟨j.1,qh g j.2⟩) qj⟩;obtain⟨qu,C,D,_⟩:=N y t _ j;rw[qb]at C;cases C;omega
def aAX (h:Inv w0 G st a w){con:Nf}(N:con.pm=.box){ok:Nat->Prop}{w':World}{u:Value}{y:Args con.rs×Args con.qs}{us:List Value}(cU:∀g,ok g->RO G false g){b qh:Nat}{A:List AC}(t:look st.bx b=some A)
  {p:Ty×Bool} (O:l1 con.ps con.i=some p) (S:p.2=true) (T:azn con)
  (x:ajW con w w' ok (fun g=>G.nw g/\(G.own g=none\/(cF (G.hb b) g).isSome=true)) (cF (G.hb b)) (G.hb b) u y us) (B:ez (fun g=>(cF (G.hb b) g).isSome=true) w w') {d:Tmp}
  (l:ai3 con.rs con.qs con.m st (.c (.ptr b qh)) d y k=some r) (C:pD w0 k r K):K (a.put (some d) (eQ us)) w':=by
 obtain⟨bL,kE,I,x⟩:=x;rw[N]at I;obtain⟨D,cs,e,E,W⟩:=I;obtain⟨qi,i,pm,rs,m,qj,g⟩:=con;dsimp only at *;unfold ai3 at l;split at l
 .rename_i _ q y qk ql F;cases F;have X:q=p:=by
   rcases T with s|⟨qm,s,M⟩
   .cases s
   .cases s;rw[O]at M;exact(eO M).symm
  subst X;have H:=awe S W;have nil:Fr w' (fun g=>bL g=none/\((G.nw g/\(G.own g=none\/(cF (G.hb b) g).isSome=true))\/(false=false/\ok g))) false bL d 0 (0+nOf rs) [] []:=Fr.nil;split at l
  .obtain⟨n,l⟩:=aR l;rw[aD]at n;obtain⟨hinv,_⟩:=pF (fb:=false) (f:=false) h t kE B D E (fun g j=>j.imp_right fun h=>⟨rfl,cU g h⟩) (fun g j=>j.imp_right fun h=>⟨h.1,cU g h.2⟩) H nil rfl;have hrel:=BQ (f:=false) (bx:=(b,ex false q.1 y.2.1)::st.bx) (bl:=[]++st.bl) n.2 (iW (fun g j=>Ib (bL:=bL) h (own0:=cF (G.hb b)) (fun g Y j=>by
    obtain⟨_,_,_,bd,_⟩:=h.bx b A t;unfold cF at j;split at j
    .rename_i s;rw[s,bd];rfl
    .cases j) [] (some (b,G.hb b,ex false q.1 y.2.1)) false g ⟨j.1,j.2.imp_right fun h=>⟨rfl,cU g h⟩⟩) x)
   have z:=hinv.put d (fV n.1) (vZ (R:=fun _ _=>True) hrel);exact C _ _ _ _ z l
  .obtain⟨n,l⟩:=aR l;rw[aD]at n;obtain⟨hinv,_⟩:=pF (fb:=false) (f:=false) h t kE B D E (fun g j=>j.imp_right fun h=>⟨rfl,cU g h⟩) (fun g j=>j.imp_right fun h=>⟨h.1,cU g h.2⟩) H nil rfl;have hrel:=BQ (f:=true) (bx:=(b,ex false q.1 y.2.1)::st.bx) (bl:=[]++st.bl) n.2 (iW (fun g j=>Ib (bL:=bL) h (own0:=cF (G.hb b)) (fun g Y j=>by
    obtain⟨_,_,_,bd,_⟩:=h.bx b A t;unfold cF at j;split at j
    .rename_i s;rw[s,bd];rfl
    .cases j) [] (some (b,G.hb b,ex false q.1 y.2.1)) true g ⟨j.1,.inl j.2⟩) x)
   have z:=hinv.put d (fV n.1) (vZ (R:=fun _ _=>True) hrel);exact C _ _ _ _ z l
  .obtain⟨n,l⟩:=aR l;simp only[aD,ju]at n;obtain⟨⟨⟨Z,qa⟩,qb⟩,qd⟩:=n;have qe:nU w' (fun g=>bL g=none/\((G.nw g/\(G.own g=none\/(cF (G.hb b) g).isSome=true))\/(m2 m=false/\ok g))) bL rs y.1 0 us:=by rcases Z.imp aI aI with rfl|rfl<;>exact x
   obtain⟨L,qf,F⟩:=aaE (id:=d) (f:=m2 m) qd qe;obtain⟨hinv,qg⟩:=pF (fb:=false) h t kE B D E (fun g j=>j.imp_right fun h=>⟨rfl,cU g h⟩) (fun g j=>j.imp_right fun h=>⟨h.1,cU g h.2⟩) H qf qa;have hrel:=F.imp fun c v n=>Tc qg n
   have z:=hinv.put d (fV qb) (vZ (R:=fun _ _=>True) hrel);exact C _ _ _ _ z l
 .cases l
def nwC (G:Gh)(c:Bool)(b g:Nat):Prop:=(G.nw g/\(G.own g=none\/(cF (G.hb b) g).isSome=true))\/(c=false/\RO G false g)
def aAY (h:Inv w0 G st a w){con:Nf}(X:con.pm=.cur){ok:Nat->Prop}{w':World}{u:Value}{y:Args con.rs×Args con.qs}{us:List Value}(cU:con.m=1\/con.m=2\/∀g,ok g->RO G false g){b qm:Nat}{C:List AC}(z:look st.bx b=some C)
  {p:Ty×Bool} (Y:l1 con.ps con.i=some p) (Z:p.2=true) (qa:azn con)
  (x:ajW con w w' ok (nwC G (ca C) b) (cF (G.hb b)) (G.hb b) u y us) (E:ez (fun g=>(cF (G.hb b) g).isSome=true) w w') {d:Tmp}
  (n:ai4 con.rs con.qs con.m st (.c (.ptr b qm)) d y k=some r) (F:pD w0 k r K):K (a.put (some d) (eQ us)) w':=by
 obtain⟨bL,kE,N,x⟩:=x;rw[X]at N;obtain⟨H,cs,e,I,O⟩:=N;obtain⟨qn,i,pm,rs,m,qo,g⟩:=con;dsimp only at *;have S:∀g T,cF (G.hb b) g=some T->(G.own g).isSome=true:=by
  intro g T j;obtain⟨_,_,_,bd,_⟩:=h.bx b C z;unfold cF at j;split at j
  .rename_i A;rw[A,bd];rfl
  .cases j
 unfold ai4 at n;split at n
 .rename_i _ q y qp qq M;cases M;have qb:q=p:=by
   rcases qa with A|⟨qt,A,W⟩
   .cases A
   .cases A;rw[Y]at W;exact(eO W).symm
  subst qb;have D:=awe Z O;rw[z]at n;dsimp only at n;generalize ca C=l at n D x O;have nil:Fr w' (fun g=>bL g=none/\(nwC G l b g)) l bL d 0 (0+nOf rs) [] []:=Fr.nil;split at n
  .obtain⟨s,n⟩:=aR n;rw[aD]at s;obtain⟨hinv,_⟩:=pF (fb:=l) (f:=l) h z kE E H I (fun g j=>j) (fun g j=>j) D nil rfl;have qd:∀g,ok g->RO G false g:=by
    rcases cU with t|t|t
    .cases t
    .cases t
    .exact t
   have hrel:=BQ (f:=false) (bx:=(b,ex l q.1 y.2.1)::st.bx) (bl:=[]++st.bl) s.2 (iW (fun g j=>Ib (bL:=bL) h (own0:=cF (G.hb b)) S [] (some (b,G.hb b,ex l q.1 y.2.1)) false g ⟨j.1,by
    rcases j.2 with t|t
    .exact t.imp_right fun h=>⟨rfl,h.2⟩
    .exact .inr ⟨rfl,qd g t⟩⟩) x)
   have B:=hinv.put d (fV s.1) (vZ (R:=fun _ _=>True) hrel);exact F _ _ _ _ B n
  .obtain⟨s,n⟩:=aR n;rw[aD]at s;obtain⟨hinv,_⟩:=pF (fb:=l) (f:=l) h z kE E H I (fun g j=>j) (fun g j=>j) D nil rfl;have hrel:=BQ (f:=l) (bx:=(b,ex l q.1 y.2.1)::st.bx) (bl:=[]++st.bl) s.2 (iW (fun g j=>Ib (bL:=bL) h (own0:=cF (G.hb b)) S [] (some (b,G.hb b,ex l q.1 y.2.1)) l g ⟨j.1,j.2⟩) x);have B:=hinv.put d (fV s.1) (vZ (R:=fun _ _=>True) hrel);exact F _ _ _ _ B n
  .obtain⟨s,qe⟩:=aR n;simp only[aD]at s;obtain⟨⟨⟨qf,qg⟩,qh⟩,qi⟩:=s;cases aI qf;have qj:nU w' (fun g=>bL g=none/\nwC G l b g) bL rs y.1 0 us :=
    nU.aDQ (fun g j=>⟨j.1,j.2.elim (fun h=>h) fun h=>by cases h.1⟩) x
   obtain⟨L,qk,M⟩:=aaE (id:=d) (f:=l) qi qj;obtain⟨hinv,ql⟩:=pF (fb:=l) h z kE E H I (fun g j=>j) (fun g j=>j) D qk qg;have hrel:=M.imp fun c v s=>Tc ql s
   have B:=hinv.put d (fV qh) (vZ (R:=fun _ _=>True) hrel);exact F _ _ _ _ B qe
 .cases n
def ax7 {i:Nat}{os:List Operand}{o:Operand}(h:l1 os i=some o):anI st i os=st.dO o:=by unfold anI;rw[h]
def ai9 {st:St}{p:Ty×Bool}{l:List AC}{y:p.1.D}(h:imV st p (.agg l)=some y):p.2=true/\im st p.1 l=some (y,[]):=by
 obtain⟨t,b⟩:=p;cases b with
 |false=>simp[imV]at h
 |true =>
  simp only[imV]at h;split at h
  .rename_i z c;cases h;exact⟨rfl,c⟩
  .cases h
def YZ {st:St}{pm:PM}:∀(i:Nat) (ps:List (Ty×Bool)) (os:List Operand) (x:Args ps),iK st pm i ps os=some x->∃op p y,l1 os i=some op/\l1 ps i=some p/\im2 st pm p op=some y
 |0,[],os,x,b=>by cases os<;>simp[iK]at b
 |_+1,[],os,x,b=>by cases os<;>simp[iK]at b
 |0,p::ps,[],x,b=>by simp[iK]at b
 |_+1,p::ps,[],x,b=>by simp[iK]at b
 |0,p::ps,o::os,x,b=>by
  simp only[iK]at b;split at b
  .rename_i y c;exact⟨o,p,y,rfl,rfl,c⟩
  .cases b
 |i+1,p::ps,o::os,x,b=>by
  simp only[iK]at b;split at b
  .split at b
   .rename_i d e;exact YZ i ps os d e
   .cases b
  .cases b
def adt:∀{l:List AC},vg l=true->∀id len,AC.own id len ∉ l
 |[],_,id,len=>by simp
 |c::l,h,id,len=>by
  cases c with
  |own i b=>simp[vg]at h|_=>simp[adt (l:=l) h]
def awf {f:FuncId}{con:Nf}(qj:YW P w0 f con)(h:Inv w0 G st a w){args:List Operand}{d:Tmp}{x:Args con.ps}{y:Args con.rs×Args con.qs}(j:con.g x=some y)(qf:iK st con.pm con.i con.ps args=some x)
  (D:(con.pm=.cur/\(con.m=1\/con.m=2))\/∀t c v xs,c∈fU st con.pm con.i args->bm G w st.bx st.bl c v->cz st t c=some xs->∀e,Rd w (RO G false) (.sl e t) xs [v])
  (z:(match con.pm with
   |.rd=>match rdM con.m with
    |some f=>aqJ f con.rs st d y.1 k|none=>none
   |.own _=>aao con.rs con.qs con.m st (anI st con.i args) d y k|.box=>ai3 con.rs con.qs con.m st (anI st con.i args) d y k|.cur=>ai4 con.rs con.qs con.m st (anI st con.i args) d y k)=some r) (qp:pD w0 k r K) :
  Calls P f (args.map a.eval).toArray w fun e qg=>∃v,e=.returned v/\K (a.put (some d) v) qg/\∀(s:Operand) (g0:Nat),(con.pm=.box\/con.pm=.cur)->l1 args con.i=some s->a.eval s=.pointer (some ⟨g0,0,none⟩)->∀k,k<w.heap.size->k≠g0->qg.heap[k]?=w.heap[k]?:=by
 have qu:=qj.2.1;obtain⟨s,p,qv,S,qw,qq⟩:=YZ con.i con.ps args x qf;rw[ax7 S]at z;cases A:con.pm with
 |rd =>
  have D:=D.resolve_left fun h=>by rw[A]at h;cases h.1
  rw[A]at z qq;dsimp only at z;split at z
  .rename_i qd qa;obtain⟨_,_,_,_,_,qb⟩:=AO (ok:=RO G false) (nw:=fun g=>G.nw g/\(G.own g=none\/(none:Option Nat).isSome=true)) (own0:=fun _=>none) (g0:=0) h con.i con.ps args x D qf (fun p s y I qh n N=>by have N:=N A;rw[A]at n ⊢;exact aq6 h N n)
   obtain⟨O,L,T,_,_,qb⟩:=AO (ok:=RO G false) (nw:=fun g=>G.nw g/\(G.own g=none\/(none:Option Nat).isSome=true)) (own0:=fun _=>none) (g0:=0) h con.i con.ps args x D qf (fun p s y I qh n N=>by have N:=N A;rw[A]at n ⊢;exact aq6 h N n)
   refine Calls.mono (qj.2.2 x y j w h.below _ _ _ 0 _ _ (Np h (own0:=fun _=>none) fun g R qi=>by cases qi) qb) fun e qg C=>?_
   obtain⟨us,rfl,W,X⟩:=C;exact⟨_,rfl,aCQ h (fun g j=>j) qa W X z qp,fun _ _ q=>by rcases q with q|q<;>cases q⟩
  .cases z
 |own qd =>
  have D:=D.resolve_left fun h=>by rw[A]at h;cases h.1
  rw[A]at z;dsimp only at z;have key:∀p s y,im2 st con.pm p s=some y->fT st (pmM qd) [] (st.dO s).cells=true/\vT st [p] [st.dO s]=true/\im1 st p s=some y:=by
   intro p s y n;rw[A]at n;simp only[im2]at n;split at n
   .rename_i M;rw[aD]at M;exact⟨M.1,M.2,n⟩
   .cases n
  obtain⟨O,L,T,_,_,qb⟩:=AO (ok:=RO G false) (nw:=fun g=>G.nw g/\(G.own g=none\/(b7 G (aN [st.dO s]) g).isSome=true)) (own0:=b7 G (aN [st.dO s])) (g0:=0) h con.i con.ps args x D qf (fun L B y I qh n N=>by
   obtain⟨qx,qN,qy⟩:=key L B y n;have:B=s:=by rw[S]at I;exact(eO I).symm
   subst this;rw[A];have qQ:∀g,RO G (m2 (pmM qd)) g->b7 G (aN [st.dO B]) g=none/\((G.nw g/\(G.own g=none\/(b7 G (aN [st.dO B]) g).isSome=true))\/(qd=false/\RO G false g)):=by
    intro g j;refine⟨by simp[b7,j.1],?_⟩;rcases j.2 with qt|qt
    .exact .inl ⟨qt,.inl j.1⟩
    .refine .inr ⟨?_,j.1,.inr ⟨rfl,qt.2⟩⟩;cases qd with
     |false=>rfl|true=>cases qt.1
   obtain⟨W,_⟩:=F8 (m:=pmM qd) (by cases qd<;>simp[pmM]) qQ h (aN [st.dO B]) [] [L] [st.dO B] [a.eval B] (y,()) (pre:=[]) (seen:=[]) ⟨h.dO B,trivial⟩ (by simp) (fun id len qa=>by simp at qa) (by rw[fS,Kc];exact qx) qN (by have:imV st L (st.dO B)=some y:=qy;simp[AL,this])
   obtain⟨v,xd,C,Y,_⟩:=W;cases C;exact Y)
  obtain⟨qx,qN,qy⟩:=key p s qv qq;have:O=s:=by rw[S]at T;exact(eO T).symm
  subst this;refine Calls.mono (qj.2.2 x y j w h.below _ _ _ 0 _ _ (Np h (own0:=b7 G (aN [st.dO O])) fun g R qi=>VJ qi) qb) fun e qg C=>?_
  obtain⟨us,rfl,W,X⟩:=C;exact⟨_,rfl,apo h A (fun g j=>j) (h.dO O) qw qu qy qx W X z qp,fun _ _ q=>by rcases q with q|q<;>cases q⟩
 |cur =>
  rw[A]at z;dsimp only at z;have key:∀p s y,im2 st con.pm p s=some y->∃b l,st.dO s=.c (.ptr b 0)/\look st.bx b=some l/\vg l=true/\imV st p (.agg l)=some y:=by
   intro p s y n;rw[A]at n;simp only[im2]at n;split at n
   .rename_i b E;split at n
    .rename_i l F;split at n
     .rename_i qz;exact⟨b,l,E,F,qz,n⟩
     .cases n
    .cases n
   .cases n
  obtain⟨b,l,E,F,qz,qA⟩:=key p s qv qq;have qB:p.2=true:=(ai9 qA).1;obtain⟨cs,e,qC,bd,hrel⟩:=h.bx b l F;have qD:∀g R,cF (G.hb b) g=some R->(G.own g).isSome=true:=by
   intro g R j;unfold cF at j;split at j
   .rename_i C;rw[C,bd];rfl
   .cases j
  obtain⟨ok,qR,qS,D⟩:∃ok:Nat->Prop,(∀g,ok g->cF (G.hb b) g=none)/\(con.m=1\/con.m=2\/∀g,ok g->RO G false g)/\∀t c v xs,c∈fU st con.pm con.i args->bm G w st.bx st.bl c v->cz st t c=some xs->∀e,Rd w ok (.sl e t) xs [v]:=by
   rcases D with ⟨_,qE⟩|qE
   .refine⟨fun g=>∀d,G.own g≠some (.bx d),fun g j=>oN fun C=>j b (by rw[C,bd]),qE.elim .inl fun h=>.inr (.inl h),fun t c v xs _ z H=>iV h z H (fun id len qO _ qT=>⟨fun g j d H=>?_,fun qW g j d H=>?_⟩) fun f e u qP _ g j d H=>?_⟩
    .rw[j.1]at H;cases H
    .obtain⟨_,_,qh,_⟩:=(h.bl id qO qT).wr qW;rw[qh g j]at H;cases H
    .rw[j.1]at H;cases H
   .refine⟨RO G false,fun g j=>oN fun C=>?_,.inr (.inr fun g j=>j),qE⟩;have:=j.1;rw[C,bd]at this;cases this
  obtain⟨O,L,T,_,_,qb⟩:=AO (ok:=ok) (nw:=nwC G (ca l) b) (own0:=cF (G.hb b)) (g0:=G.hb b) h con.i con.ps args x D qf (fun L B y I qh n N=>by
   have:B=s:=by rw[S]at I;exact(eO I).symm
   subst this;obtain⟨qX,qY,qk,ql,_,qF⟩:=key L B y n;rw[E]at qk;cases qk;rw[F]at ql;cases ql;rw[A];have Y:a.eval B=.pointer (some ⟨G.hb b,0,none⟩):=by have:=h.dO B;rw[E]at this;exact this.2
   refine⟨Y,by simp[cF],cs,e,qC,?_⟩;have qG:∀t c v xs,c∈l->bm G w st.bx st.bl c v->cz st t c=some xs->∀e,Rd w (fun g=>cF (G.hb b) g=none/\nwC G (ca l) b g) (.sl e t) xs [v]:=by
    intro t c v xs qa z H;refine iV h z H (fun id len qO M _=>?_) fun f e u qP M g j=>?_
    .subst M;exact absurd qa (adt qz id len)
    .subst M;refine⟨oN fun C=>?_,?_⟩
     .have:=j.1;rw[C,bd]at this;cases this
     .cases qZ:ca l with
      |true =>
       have:=Nk qZ f e u qP qa;subst this;exact .inl ⟨j.2.elim (fun h=>h) fun h=>(by cases h.1),.inl j.1⟩
      |false=>exact .inr ⟨rfl,j.1,j.2.imp_right fun h=>⟨rfl,h.2⟩⟩
   obtain⟨xa,qH,qm,qI,qK,_⟩:=Nj qG hrel (ai9 qF).2;have:qH=[]:=WS qK.len.symm;subst this;rw[fS]at qm;rw[qm];exact qI)
  have:O=s:=by rw[S]at T;exact(eO T).symm
  subst this;have hd0:=Np h (own0:=cF (G.hb b)) qD;refine Calls.mono (qj.2.2 x y j w h.below ok (nwC G (ca l) b) (cF (G.hb b)) (G.hb b) _ _ ⟨fun g j=>.inl (hd0.kE g j),fun g R qi=>⟨.inl (hd0.bd g R qi).1,(hd0.bd g R qi).2⟩,qR⟩ qb) fun e qg C=>?_
  obtain⟨us,rfl,W,X⟩:=C;rw[E]at z;exact⟨_,rfl,aAY h A qS F qw qB qu W X z qp,fun qe g0 _ qn Y k qL qM=>X.block k qL (by
   have:qe=O:=by rw[S]at qn;exact(eO qn).symm
   subst this;have q:=h.dO qe;rw[E]at q;have q:a.eval qe=.pointer (some ⟨G.hb b,0,none⟩):=q.2;rw[Y]at q;injection q with q
   injection q with q
   injection q with q
   rw[oN (fun e=>qM (by rw[e,q]))];simp)⟩
 |box =>
  have D:=D.resolve_left fun h=>by rw[A]at h;cases h.1
  rw[A]at z;dsimp only at z;have key:∀p s y,im2 st con.pm p s=some y->∃b l,st.dO s=.c (.ptr b 0)/\look st.bx b=some l/\imV st p (.agg l)=some y:=by
   intro p s y n;rw[A]at n;simp only[im2]at n;split at n
   .rename_i b E;split at n
    .rename_i l F;exact⟨b,l,E,F,n⟩
    .cases n
   .cases n
  obtain⟨b,l,E,F,qA⟩:=key p s qv qq;have qB:p.2=true:=(ai9 qA).1;have qD:∀g R,cF (G.hb b) g=some R->(G.own g).isSome=true:=by
   intro g R j;obtain⟨_,_,_,bd,_⟩:=h.bx b l F;unfold cF at j;split at j
   .rename_i C;rw[C,bd];rfl
   .cases j
  obtain⟨O,L,T,_,_,qb⟩:=AO (ok:=RO G false) (nw:=fun g=>G.nw g/\(G.own g=none\/(cF (G.hb b) g).isSome=true)) (own0:=cF (G.hb b)) (g0:=G.hb b) h con.i con.ps args x D qf (fun L B y I qh n N=>by
   have:B=s:=by rw[S]at I;exact(eO I).symm
   subst this;obtain⟨qX,qY,qk,ql,qF⟩:=key L B y n;rw[E]at qk;cases qk;rw[F]at ql;cases ql;rw[A];obtain⟨cs,e,qC,bd,hrel⟩:=h.bx b l F;have Y:a.eval B=.pointer (some ⟨G.hb b,0,none⟩):=by have:=h.dO B;rw[E]at this;exact this.2
   refine⟨Y,by simp[cF],cs,e,qC,?_⟩;have qG:∀t c v xs,c∈l->bm G w st.bx st.bl c v->cz st t c=some xs->∀e,Rd w (RO G false) (.sl e t) xs [v]:=by
    have xb:∀(i:Nat) (Z:List Operand),l1 Z i=some B->∀c∈l,c∈fU st .box i Z:=by
     intro i
     induction i with
     |zero =>
      intro Z qo c M;cases Z with
      |nil=>cases qo
      |cons o Z =>
       cases qo;simp[fU,E,F,M]
     |succ i xc =>
      intro Z qo c M;cases Z with
      |nil=>cases qo|cons o Z=>simp[fU,xc Z qo c M]
    exact fun t c v xs qa=>D t c v xs (by rw[A];exact xb con.i args I c qa)
   obtain⟨xa,qH,qm,qI,qK,_⟩:=Nj qG hrel (ai9 qF).2;have:qH=[]:=WS qK.len.symm;subst this;rw[fS]at qm;rw[qm];exact qI)
  have:O=s:=by rw[S]at T;exact(eO T).symm
  subst this;refine Calls.mono (qj.2.2 x y j w h.below _ _ _ _ _ _ (Np h qD) qb) fun e qg C=>?_
  obtain⟨us,rfl,W,X⟩:=C;rw[E]at z;exact⟨_,rfl,aAX h A (fun g j=>j) F qw qB qu W X z qp,fun qe g0 _ qn Y k qL qM=>X.block k qL (by
   have:qe=O:=by rw[S]at qn;exact(eO qn).symm
   subst this;have q:=h.dO qe;rw[E]at q;have q:a.eval qe=.pointer (some ⟨G.hb b,0,none⟩):=q.2;rw[Y]at q;injection q with q
   injection q with q
   injection q with q
   rw[oN (fun e=>qM (by rw[e,q]))];simp)⟩
def aCR {con:Nf}{args:List Operand}(h:¬(con.pm=.cur/\(con.m=1\/con.m=2))):aCA st con args=fU st con.pm con.i args:=by
 unfold aCA;split
 .rename_i b;rw[b]at h ⊢;split
  .exact absurd ⟨rfl,.inl ‹_›⟩ h
  .exact absurd ⟨rfl,.inr ‹_›⟩ h
  .rfl
 .rfl
def aaH {f:FuncId}{con:Nf}(m:YW P w0 f con)(h:Inv w0 G st a w){args:Array Operand}{ts:Array TypeId}(A:o.op=.call {callee:=.value (.func f),args:=args,argTypes:=ts})
  (b:aap con st o.dst args.toList k=some r) (B:pD w0 k r K):o.wp P a w (fun C g=>K C g/\∀(z:Operand) (n:Nat),(con.pm=.box\/con.pm=.cur)->l1 args.toList con.i=some z->a.eval z=.pointer (some ⟨n,0,none⟩)->∀k,k<w.heap.size->k≠n->g.heap[k]?=w.heap[k]?) Q:=by
 unfold Oper.wp;rw[Ia m.1 A];unfold aap at b;dsimp only at b;obtain⟨I,p,L,M,D⟩:=h.freeze (aCA st con args.toList);split at b
 .rename_i x i;cases j:con.g x with
  |none=>rw[j]at b;cases b
  |some y =>
   rw[j]at b;simp only[ajx]at b;have E:(args.map a.eval)=(args.toList.map a.eval).toArray:=by rw[<-aak,vR]
   show Calls P f _ w _;rw[E];cases q:o.dst with
   |none=>rw[q]at b;cases b
   |some d =>
    rw[q]at b;dsimp only at b;refine Calls.mono (awf m p j i (by
     by_cases s:con.pm=.cur/\(con.m=1\/con.m=2)
     .exact .inl s
     .refine .inr fun t c v xs u=>YX p (nf:=false) (fun l=>by cases l) (fun l=>by cases l) t c v xs ?_
      rw[Tb D]at u;rw[aCR s];exact u) b B) fun e g F=>?_
    obtain⟨v,rfl,H,i⟩:=F;exact⟨H,i⟩
 .cases b
def atv {f:FuncId}{con:Nf}(b:YW P w0 f con)(h:Inv w0 G st a w){args:Array Operand}{ts:Array TypeId}(c:o.op=.call {callee:=.value (.func f),args:=args,argTypes:=ts})
  (d:aap con st o.dst args.toList k=some r) (e:pD w0 k r K):o.wp P a w K Q:=by
 exact Oper.wp_mono (fun _ _ h=>h.1) (aaH b h c d e)
def awg:∀{t:Ty} {x:t.D},ajA t x=true->aE2 t x=x
 |.bool,x,h=>Eq.symm h|.int _,x,h=>(bc.1 h).symm|.str,_,h|.unit,_,h|.pair _ _,_,h|.sl _ _,_,h=>by cases h
def awh:∀{t:Ty} {x:t.D},ajA t x=false->aE3 t x=x
 |.bool,x,h=>Eq.symm h|.int _,x,_=>rfl|.str,_,_|.unit,_,_|.pair _ _,_,_|.sl _ _,_,_=>rfl
def atw {bx:List (Nat×List AC)}{bl:List (Nat×Option fa)}:∀{n:Nat} {vs:List Value},vs.length=n->(∀c∈vs,c.oneCell'=true)->b6 (bm G w bx bl) (List.replicate n .any) vs
 |0,[],_,_=>trivial|n+1,v::vs,h,b=>by rw[List.replicate_succ];exact⟨b v (by simp),atw (by simpa using h) fun c d=>b c (by simp[d])⟩
 |0,_::_,h,_=>by simp at h
 |_+1,[],h,_=>by simp at h
def atx {f:FuncId}{con:Sel}(M:aq5 P w0 f con)(h:Inv w0 G st a w){args:Array Operand}{ts:Array TypeId}(qh:o.op=.call {callee:=.value (.func f),args:=args,argTypes:=ts})
  (b:aqK con st o.dst args.toList k=some r) (W:pD w0 k r K):o.wp P a w K Q:=by
 unfold Oper.wp;rw[Ia M.1 qh];unfold aqK at b;dsimp only at b;obtain⟨j,l,qi,qj,X⟩:=h.freeze (fU st (.own true) con.i args.toList);have Y:∀t c v xs,c∈fU (st.freeze (fU st (.own true) con.i args.toList)) (.own true) con.i args.toList->bm j w (st.freeze (fU st (.own true) con.i args.toList)).bx (st.freeze (fU st (.own true) con.i args.toList)).bl c v->cz (st.freeze (fU st (.own true) con.i args.toList)) t c=some xs->∀e,Rd w (RO j false) (.sl e t) xs [v] :=
  fun t c v xs C=>YX l (nf:=false) (fun N=>by cases N) (fun N=>by cases N) t c v xs (by rw[Tb X]at C;exact C)
 generalize st.freeze (fU st (.own true) con.i args.toList)=i at b l Y;clear qi qj X h;split at b
 .rename_i x Z;cases n:con.g x with
  |none=>rw[n]at b;cases b
  |some y =>
   rw[n]at b;simp only[ajx]at b;have qk:(args.map a.eval)=(args.toList.map a.eval).toArray:=by rw[<-aak,vR]
   show Calls P f _ w _;rw[qk];cases qa:o.dst with
   |none=>rw[qa]at b;cases b
   |some d =>
    rw[qa]at b;dsimp only at b;obtain⟨op,p,ql,O,qb,qm⟩:=YZ con.i con.ps args.toList x Z;rw[ax7 O]at b;have key:∀p op y,im2 i (.own true) p op=some y->fT i (pmM true) [] (i.dO op).cells=true/\vT i [p] [i.dO op]=true/\im1 i p op=some y:=by
     intro p op y A;simp only[im2]at A;split at A
     .rename_i B;rw[aD]at B;exact⟨B.1,B.2,A⟩
     .cases A
    obtain⟨D,E,qd,_,_,qn⟩:=AO (ok:=RO j false) (nw:=fun g=>j.nw g/\(j.own g=none\/(b7 j (aN [i.dO op]) g).isSome=true)) (own0:=b7 j (aN [i.dO op])) (g0:=0) l con.i con.ps args.toList x Y Z (fun E s y qe qD A qE=>by
     obtain⟨F,qf,H⟩:=key E s y A;have:s=op:=by rw[O]at qe;exact(eO qe).symm
     subst this;have qo:∀g,RO j (m2 (pmM true)) g->b7 j (aN [i.dO s]) g=none/\((j.nw g/\(j.own g=none\/(b7 j (aN [i.dO s]) g).isSome=true))\/(true=false/\RO j false g)):=by
      intro g n;refine⟨by simp[b7,n.1],?_⟩;rcases n.2 with R|R
      .exact .inl ⟨R,.inl n.1⟩
      .cases R.1
     obtain⟨z,_⟩:=F8 (m:=pmM true) (by simp[pmM]) qo l (aN [i.dO s]) [] [E] [i.dO s] [a.eval s] (y,()) (pre:=[]) (seen:=[]) ⟨l.dO s,trivial⟩ (by simp) (fun id len C=>by simp at C) (by rw[fS,Kc];exact F) qf (by have:imV i E (i.dO s)=some y:=H;simp[AL,this])
     obtain⟨v,qF,S,qp,_⟩:=z;cases S;exact qp)
    obtain⟨F,qf,H⟩:=key p op ql qm;have:D=op:=by rw[O]at qd;exact(eO qd).symm
    subst this;have qq:p=con.q:=by have:=M.2.1;rw[qb]at this;exact eO this
    subst qq;refine Calls.mono (M.2.2 x y n w l.below _ _ _ 0 _ _ (Np l (own0:=b7 j (aN [i.dO D])) fun g qG qt=>VJ qt) qn) fun e qu S=>?_
    obtain⟨us,rfl,⟨T,I,rfl,z⟩,qg⟩:=S;show K (a.put (some d) (eQ [T,I])) qu;cases L:ajA con.b.1 y.2.1 with
    |true =>
     rw[L]at b z;rw[awg L]at b;exact apo (con:=aEf con) (f:=true) l rfl (fun g n=>n) (l.dO D) qb (.inl rfl) H F z qg b W
    |false =>
     rw[L]at b z;rw[awh L]at b;obtain⟨B,b⟩:=aR (show ck _ _=some r from b);simp only[aD]at B;obtain⟨⟨hd1,qv⟩,qw⟩:=B;obtain⟨⟨bL,kE,qx,z⟩,qy⟩:=z;obtain⟨qH,hinv,hrel⟩:=atu (q:=con.q) (y2:=y.2.2) (m:=2) (rs:=[con.b]) (y:=(y.2.1,())) (us:=[I]) l (fun g n=>n) (l.dO D) H F kE qx z qg qv qw;refine W _ _ _ _ (hinv.put d (fV hd1) (v:=.SL (aAB con.a::(ks d true [con.b] (y.2.1,()) 0).1)) (u:=eQ [T,I]) ⟨#[T,I],rfl,?_,hrel⟩) b;unfold aAB;split
     .rename_i qz;obtain⟨qA,rfl,qB,qC⟩:=qy qz;exact⟨qA,rfl,atw qB qC⟩
     .exact trivial
 .cases b
end
end Go.Am
