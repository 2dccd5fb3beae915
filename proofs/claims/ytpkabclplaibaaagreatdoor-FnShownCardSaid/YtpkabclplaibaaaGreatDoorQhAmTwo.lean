/- No condition. -/
import Derived.Test.YtpkabclplaibaaaGreatDoorQhAmCall
set_option linter.all false
namespace Go.Am
open Go.RowKit
variable [ds]
section
variable {P:Program} {w0:di} {w:World} {G:Gh} {st:St} {a:Act} {U:Type} {k:St->Option U} {r:U} {K:Act->World->Prop} {Q:Exit->Act->World->Prop} {o:Oper}
def BJ {f:FuncId}(c:L6 P f){args:Array Operand}{ts:Array TypeId}(d:o.op=.call {callee:=.value (.func f),args:=args,argTypes:=ts}) :
  (execOp a.eval o).run P w=.ok (.enter f (args.map a.eval)) w:=by
 obtain⟨fn,g,h,b⟩:=c;unfold execOp;rw[d]
 have i : ¬ fn.name = "runtime.NumGoroutine" := by simpa using h
 have j:¬fn.body=none:=by intro e;rw[e]at b;cases b
 simp[resolve,Act.eval,Deferred.ofValue,invoke,callFunc,g,i,j]
def x4:∀(l:List AC) (st:St),eC st (st.freeze l)
 |[],st=>.refl st|c::l,st=>(l5 st c).trans (x4 l (st.cU c))
def N8 {i:Gh}{l:List AC}(y:Inv w0 i (st.freeze l) a w){nf:Bool}(z:nf=true->kB st l=true)(A:nf=true->bI l=true) :
  ∀e t c v xs,c∈l->a7 i w (st.freeze l).bx (st.freeze l).bl c v->bU (st.freeze l) e t c=some xs->Rd w (RO i nf) (.sl e t) xs [v]:=by
 intro e t c v xs d B C;refine gi y B C (fun id len b j h=>?_) (fun f e u D j=>?_)
 .subst j;have E:b.w=false:=by
   rcases(x4 l st).bl id with p|⟨q,p,s⟩
   .have:=BG l st id len b d (p.symm.trans h);rw[h]at this;have:=dI (dI this);rw[this]
   .rw[h]at s;have:=dI (dI s);rw[this]
  refine⟨fun g m=>m.BD fun n=>?_,fun x=>by rw[E]at x;cases x⟩;obtain⟨q,F,H⟩:=Ww (z n) id len d;have:=BG l st id len q d (cV F);rw[h]at this;cases this;exact H
 .subst j;exact fun g m=>m.BD fun n=>Ff (A n) f e u D d
def PI {bV:St}(h:bV.tm=st.tm)(x:Operand):bV.c6 x=st.c6 x:=by
 have:bV.ev x=st.ev x:=by
  cases x with
  |tmp t =>
   show bV.get t=st.get t;unfold St.get;rw[h]
  |_=>rfl
 unfold St.c6;rw[this]
def alH {bV:St}(h:eC st bV)(p:Ty×Bool)(o:Operand):im1 bV p o=im1 st p o:=by
 unfold im1 Ua;rw[PI h.tm];split
 .rw[nY h]
 .rw[nY h]
 .rfl
def Tr {bV:St}(h:eC st bV):∀(ps:List (Ty×Bool)) (os:List Operand),EN bV ps os=EN st ps os
 |[],[]=>rfl|[],_::_=>rfl|_::_,[]=>rfl|p::ps,o::os=>by
  simp only[EN];rw[alH h];split
  .rw[Tr h ps os]
  .rfl
def ET {bV:St}(h:eC st bV):∀(os:List Operand),gr bV os=gr st os
 |[]=>rfl|o::os=>by simp only[gr];rw[PI h.tm,ET h os]
def alI (G:Gh)(bx:List (Nat×List AC))(bl:List (Nat×Option dD))(g:Nat):Key->Prop
 |.bx d=>(look bx d).isSome=true/\g=G.hb d|.bl id=>(look bl id).isSome=true/\(G.hv id).ownBlock=some g|.hid=>False
def Inv.arC (h:Inv w0 G st a w){w':World}{i:Nat->Prop}(j:dh i w w')(Ud:∀g,i g->(G.own g).isSome=true)(D:∀g,i g->G.own g≠some .hid)
  {G2:Gh} {bx2:List (Nat×List AC)} {bl2:List (Nat×Option dD)} (Rz:G2.nw=G.nw) (cR:G2.ok=G.ok) (A:∀g,g<w.heap.size->¬i g->G2.own g=G.own g)
  (q:gw G st.bx st.bl G2 bx2 bl2)
  (E:LB G w G2 w'->∀d l,look bx2 d=some l->(look st.bx d=some l/\G2.hb d=G.hb d/\¬i (G.hb d))\/(∃cs e,w'.heap[G2.hb d]?=some (.cells cs e (0,0))/\G2.own (G2.hb d)=some (.bx d)/\bD (a7 G2 w' bx2 bl2) l cs.toList))
  (F:∀id b,look bl2 id=some (some b)->(look st.bl id=some (some b)/\G2.hv id=G.hv id/\∀g,G.own g=some (.bl id)->¬i g)\/wh G2 w' id b)
  (aS:∀g k,G2.own g=some k->(w.heap.size<=g\/i g)->g<w'.heap.size/\alI G2 bx2 bl2 g k) :
  Inv w0 G2 {st with bx:=bx2,bl:=bl2} a w'/\LB G w G2 w':=by
 have s:LB G w G2 w':=by
  refine⟨Rz,cR,j.size,fun b u m=>?_,fun b u m=>?_⟩
  .have y:¬i b:=fun x=>by have:=Ud b x;rw[m]at this;cases this
   exact⟨(A b u y).trans m,j.block b u y⟩
  .have y:¬i b:=fun x=>D b x m
   exact⟨(A b u y).trans m,j.block b u y⟩
 refine⟨⟨Rz.trans h.nw,cR.trans h.Pt,?_,h.defers,h.size,h.sp.mono s q,h.x3 s,fun t v H=>(h.tm t v H).mono s q,?_,?_,?_⟩,s⟩
 .refine h.below.step j.os j.tape j.output j.size fun k z x=>j.block k (wa z h.below.size) fun I=>?_
  obtain⟨key,B⟩:=ek.1 (Ud k I);rcases(h.own k key B).1 with c|c
  .omega
  .exact x c
 .intro d l L;rcases E s d l L with ⟨c,n,f⟩|c
  .obtain⟨cs,e,M,C,N⟩:=h.bx d l c;have hlt:=(h.own _ _ C).2.1;refine⟨cs,e,?_,?_,N.imp fun _ _=>a7.mono s q⟩
   .rw[n,j.block _ hlt f];exact M
   .rw[n,A _ hlt f];exact C
  .exact c
 .intro id b u;rcases F id b u with ⟨c,n,f⟩|c
  .refine(h.bl id b c).mono s n fun S g T m=>?_
   have hlt:=(h.own _ _ m).2.1;exact⟨(A g hlt (f g m)).trans m,j.block g hlt (f g m)⟩
  .exact c
 .intro g k z;by_cases p:w.heap.size<=g\/i g
  .obtain⟨c,n⟩:=aS g k z p;refine⟨?_,c,by cases k with|bx d=>exact n|bl id=>exact n|hid=>exact n.elim⟩;rcases p with p|p
   .exact .inl (aL h.below.size p)
   .obtain⟨key,B⟩:=ek.1 (Ud g p);exact(h.own g key B).1
  .have hlt:g<w.heap.size:=by
    by_cases O:g<w.heap.size
    .exact O
    .exact absurd (.inl (by omega)) p
   have R:¬i g:=fun x=>p (.inr x)
   rw[A g hlt R]at z;obtain⟨c,n,f⟩:=h.own g k z;refine⟨c,wa n j.size,?_⟩;cases k with
   |hid=>trivial|bx d=>exact⟨(q.bx d f.1).1,by rw[(q.bx d f.1).2];exact f.2⟩
   |bl id=>exact⟨(q.bl id f.1).1,by rw[(q.bl id f.1).2.1];exact f.2⟩
def EU (L:List (Nat×dD×Value))(g:Nat):Option Key:=(L.find? fun z=>z.2.2.ownBlock==some g).map fun z=>.bl z.1
def nZ (L:List (Nat×dD×Value))(B:Option (Nat×Nat×List AC))(g:Nat):Option Key:=match B with
 |some (d,b,_)=>if g=b then some (.bx d) else EU L g|none=>EU L g
def Gh.back (G:Gh)(c:Nat)(own0 bm:Nat->Option Nat)(L:List (Nat×dD×Value))(B:Option (Nat×Nat×List AC)):Gh :=
 {nw:=G.nw,ok:=G.ok,
  hb:=fun x=>match B with|some (d,b,_)=>if x=d then b else G.hb x|none=>G.hb x,
  hv:=fun i=>match L.find? (·.1==i) with|some z=>z.2.2|none=>G.hv i,
  own:=fun g=>if g<c/\own0 g=none then G.own g else match bm g with|none=>none|some _=>nZ L B g}
structure WC (w w':World) (G:Gh) (st:St) (own0 bm:Nat->Option Nat) (okE:Bool->Nat->Prop) (L:List (Nat×dD×Value)) (B:Option (Nat×Nat×List AC))
  (bx2:List (Nat×List AC)) (bl2:List (Nat×Option dD)):Prop where
 keeps:dh (fun g=>(own0 g).isSome=true) w w'
 pass:∀g j,own0 g=some j->(G.own g).isSome=true
 aqO:∀g j,own0 g=some j->G.own g≠some .hid
 new:∀g j,bm g=some j->w.heap.size<=g\/(own0 g).isSome=true
 els:∀f g,okE f g->RO (G.back w.heap.size own0 bm L B) f g
 row:∀z∈L,z.2.1.w=true/\0<z.2.1.t.n/\(∃rows,w'.ownsRow 0 z.2.1.e z.2.1.t.n z.2.2 z.2.1.xs.length rows/\dx w' (okE z.2.1.f) z.2.1.t rows z.2.1.xs)/\∀g,z.2.2.ownBlock=some g->(bm g).isSome=true
 inj:∀z∈L,∀z'∈L,∀g,z.2.2.ownBlock=some g->z'.2.2.ownBlock=some g->z=z'
 uniq:∀z∈L,∀z'∈L,z.1=z'.1->z=z'
 name:∀z∈L,look st.bl z.1=none\/(z.2.2=G.hv z.1/\∃b,look st.bl z.1=some (some b)/\b.t=z.2.1.t)
 bl:∀i b,look bl2 i=some (some b)->(∃v,(i,b,v)∈L)\/((∀z∈L,z.1≠i)/\look st.bl i=some (some b)/\∀g,G.own g=some (.bl i)->own0 g=none)
 bls:∀i,(look st.bl i).isSome=true->(look bl2 i).isSome=true
 blL:∀z∈L,(look bl2 z.1).isSome=true
 bx:∀d l,look bx2 d=some l->(∃g0,B=some (d,g0,l))\/((∀d' g l',B=some (d',g,l')->d'≠d)/\look st.bx d=some l/\own0 (G.hb d)=none)
 bxs:∀d,(look st.bx d).isSome=true->(look bx2 d).isSome=true
 bxB:∀d g l,B=some (d,g,l)->(look bx2 d).isSome=true/\(look st.bx d=none\/G.hb d=g)/\((bm g).isSome=true/\∀z∈L,z.2.2.ownBlock≠some g) /\
  ∃cs e f t x,w'.heap[g]?=some (.cells cs e (0,0))/\l=ex f t x/\Rd w' (okE f) t x cs.toList
def WC.find {w w':World}{G:Gh}{st:St}{own0 bm:Nat->Option Nat}{okE:Bool->Nat->Prop}{L:List (Nat×dD×Value)}{B:Option (Nat×Nat×List AC)}
  {bx2:List (Nat×List AC)} {bl2:List (Nat×Option dD)} (h:WC w w' G st own0 bm okE L B bx2 bl2) {z:Nat×dD×Value} (b:z∈L) {g:Nat} (c:z.2.2.ownBlock=some g) :
  (G.back w.heap.size own0 bm L B).own g=some (.bl z.1):=by
 obtain⟨t,j⟩:=ek.1 ((h.row z b).2.2.2 g c);have m:EU L g=some (.bl z.1):=by
  unfold EU;cases e:L.find? fun z=>z.2.2.ownBlock==some g with
  |none =>
   have:=aec.1 e z b;simp[c]at this
  |some y =>
   have n:=Tf e;have f:=Mv e;have:=h.inj z b y f g c (by simpa using n);rw[<-this];rfl
 have p:¬(g<w.heap.size/\own0 g=none):=by
  rintro⟨n,f⟩;rcases h.new g _ j with i|i
  .omega
  .rw[f]at i;cases i
 unfold Gh.back;dsimp only;rw[ag p,j];dsimp only;unfold nZ;split
 .rename_i d u l;split
  .rename_i q;subst q;obtain⟨_,_,⟨v,s⟩,_⟩:=h.bxB d g l rfl;exact absurd c (s z b)
  .exact m
 .exact m
def Inv.back (h:Inv w0 G st a w){w':World}{own0 bm:Nat->Option Nat}{okE:Bool->Nat->Prop}{L:List (Nat×dD×Value)}{B:Option (Nat×Nat×List AC)}
  {bx2:List (Nat×List AC)} {bl2:List (Nat×Option dD)} (m:WC w w' G st own0 bm okE L B bx2 bl2) :
  Inv w0 (G.back w.heap.size own0 bm L B) {st with bx:=bx2,bl:=bl2} a w'/\∀c v,ns L c v->a7 (G.back w.heap.size own0 bm L B) w' bx2 bl2 c v:=by
 have hvL:∀z∈L,(G.back w.heap.size own0 bm L B).hv z.1=z.2.2:=by
  intro z M;show(match L.find? (·.1==z.1) with|some z=>z.2.2|none=>G.hv z.1)=_;cases D:L.find? (·.1==z.1) with
  |none =>
   have:=aec.1 D z M;simp at this
  |some y =>
   have j:=Tf D;have E:=Mv D;rw[m.uniq y E z M (by simpa using j)]
 have qg:∀i,(∀z∈L,z.1≠i)->(G.back w.heap.size own0 bm L B).hv i=G.hv i:=by
  intro i N;show(match L.find? (·.1==i) with|some z=>z.2.2|none=>G.hv i)=_;cases D:L.find? (·.1==i) with
  |none=>rfl
  |some y =>
   have j:=Tf D;exact absurd (by simpa using j) (N y (Mv D))
 have qh:∀d,(∀H g l,B=some (H,g,l)->H≠d)->(G.back w.heap.size own0 bm L B).hb d=G.hb d:=by
  intro d O;show(match B with|some (H,F,_)=>if d=H then F else G.hb d|none=>G.hb d)=_;cases B with
  |none=>rfl
  |some q =>
   obtain⟨H,g,l⟩:=q;have:=O H g l rfl;show(if d=H then g else G.hb d)=_;rw[ag fun e=>this e.symm]
 have qb:∀d g l,B=some (d,g,l)->(G.back w.heap.size own0 bm L B).hb d=g:=by intro d g l A;subst A;simp[Gh.back]
 have qn:gw G st.bx st.bl (G.back w.heap.size own0 bm L B) bx2 bl2:=by
  refine⟨fun d O=>⟨m.bxs d O,?_⟩,fun i N=>⟨m.bls i N,?_,fun qi qo=>?_⟩⟩
  .by_cases I:∃g l,B=some (d,g,l)
   .obtain⟨g,l,I⟩:=I;rw[qb d g l I];rcases(m.bxB d g l I).2.1 with j|j
    .rw[j]at O;cases O
    .exact j.symm
   .exact qh d fun H g l A qp=>I ⟨g,l,by rw[A,qp]⟩
  .by_cases I:∃z∈L,z.1=i
   .obtain⟨z,M,rfl⟩:=I;rw[hvL z M];rcases m.name z M with j|⟨j,_⟩
    .rw[j]at N;cases N
    .exact j
   .exact qg i fun z M qq=>I ⟨z,M,qq⟩
  .rcases m.bl i qi qo with ⟨v,X⟩|⟨_,j,_⟩
   .rcases m.name _ X with j|⟨_,b,E,p⟩
    .rw[j]at N;cases N
    .exact⟨b,E,p⟩
   .exact⟨qi,j,rfl⟩
 have qt:=h.arC (G2:=G.back w.heap.size own0 bm L B) (bx2:=bx2) (bl2:=bl2) m.keeps (fun g u=>by
   obtain⟨R,qe⟩:=ek.1 u;exact m.pass g R qe) (fun g u=>by
   obtain⟨R,qe⟩:=ek.1 u;exact m.aqO g R qe) rfl rfl (fun g u D=>by
   have:own0 g=none:=by
    cases S:own0 g with
    |none=>rfl|some R=>rw[S]at D;exact absurd rfl D
   simp[Gh.back,u,this]) qn (fun qB d l O=>by
   rcases m.bx d l O with ⟨F,u⟩|⟨j,E,p⟩
   .refine .inr ?_;obtain⟨_,_,⟨qu,qj⟩,cs,e,f,t,x,qd,rfl,qv⟩:=m.bxB d F l u;obtain⟨R,T⟩:=ek.1 qu;refine⟨cs,e,by rw[qb d F _ u];exact qd,?_,Jl (eL (fun g u=>m.els f g u) qv)⟩;rw[qb d F _ u];have qf:¬(F<w.heap.size/\own0 F=none):=by
     rintro⟨qC,qw⟩;rcases m.new F R T with p|p
     .omega
     .rw[qw]at p;cases p
    subst u;unfold Gh.back;dsimp only;rw[ag qf,T];simp[nZ]
   .exact .inl ⟨E,qh d j,by rw[p];simp⟩) (fun i b Y=>by
   rcases m.bl i b Y with ⟨v,X⟩|⟨j,E,p⟩
   .refine .inr ?_;obtain⟨qx,qy,⟨rows,T,qj⟩,qd⟩:=m.row _ X;have Z:=hvL _ X;refine⟨fun _=>⟨rows,?_,?_,?_⟩,fun qk=>?_,qy⟩
    .rw[Z];exact T
    .rw[Z];exact fun g u=>m.find X u
    .exact ic (fun g u=>m.els _ g u) qj
    .rw[show b.w=true from qx]at qk;cases qk
   .exact .inl ⟨E,qg i j,fun g u=>by rw[p g u];simp⟩) (fun g key C qz=>by
   have qf:¬(g<w.heap.size/\own0 g=none):=by
    rintro⟨j,E⟩;rcases qz with p|p
    .omega
    .rw[E]at p;cases p
   have qD:=C;unfold Gh.back at C;dsimp only at C;rw[ag qf]at C;cases S:bm g with
   |none=>rw[S]at C;cases C
   |some R =>
    rw[S]at C;dsimp only at C;have ql:EU L g=some key->g<w'.heap.size/\alI (G.back w.heap.size own0 bm L B) bx2 bl2 g key:=by
     intro qa;unfold EU at qa;cases D:L.find? fun z=>z.2.2.ownBlock==some g with
     |none=>rw[D]at qa;cases qa
     |some y =>
      rw[D]at qa;cases qa;have j:=Tf D;have E:=Mv D;have p:y.2.2.ownBlock=some g:=by simpa using j
      refine⟨?_,m.blL y E,by rw[hvL y E];exact p⟩;obtain⟨_,_,⟨rows,T,_⟩,_⟩:=m.row y E;rcases T.2 with ⟨A,_⟩|⟨qm,cap,cur,A,_,qA,_⟩
      .rw[A]at p;simp[Value.ownBlock]at p
      .rw[A]at p;have:qm=g:=by simpa [Value.ownBlock]using p
       subst this;exact(nj.1 qA).1
    unfold nZ at C;split at C
    .rename_i d F l;by_cases A:g=F
     .rw[aj A]at C;cases C;obtain⟨j,_,_,cs,e,f,t,x,qd,_⟩:=m.bxB d F l rfl;subst A;exact⟨(nj.1 qd).1,j,(qb d g l rfl).symm⟩
     .rw[ag A]at C;exact ql C
    .exact ql C)
 refine⟨qt.1,fun c v W=>?_⟩;cases c with
 |own i len =>
  cases len with
  |some l=>exact W.elim
  |none =>
   obtain⟨b,Y⟩:=W;have Z:=hvL _ Y;refine⟨m.blL _ Y,?_,Z.symm⟩;rw[show(G.back w.heap.size own0 bm L B).hv i=v from Z];obtain⟨_,_,⟨rows,S,_⟩,_⟩:=m.row _ Y;rcases S.2 with ⟨A,_⟩|⟨qm,cap,cur,A,_⟩
   .exact⟨_,_,_,A⟩
   .exact⟨_,_,_,A⟩
 |int k n=>exact W|bool b=>exact W|str s=>exact W|_=>exact W.elim
def fh:List AC->List Nat
 |[]=>[]|.own id _::l=>id::fh l|_::l=>fh l
def ake {m:Nat}(i:m=2\/m=3){seen:List Nat}{id:Nat}{len:Option Int}{l:List AC}(h:eA st m seen (.own id len::l)=true) :
  ∃b,st.kA id=some b/\(m=2->b.f=true)/\b.w=true/\id ∉ seen/\len=none/\eA st m (id::seen) l=true:=by
 simp only[eA]at h;split at h
 .rename_i b d;have hlen:∀o:Option Int,(match o with|none=>true|some _=>false)=true->o=none:=by
   intro o j;cases o with
   |none=>rfl|some _=>cases j
  have e:∀c:Bool,(!c)=true->c=false:=by intro c n;cases c with|false=>rfl|true=>cases n
  have f:EM seen id=false->id ∉ seen:=fun g p=>by rw[Fj.2 p]at g;cases g
  rcases i with rfl|rfl
  .simp only[az,hh]at h;exact⟨b,d,fun _=>h.1.1.elim (fun h=>h.elim (fun h=>h) (fun h=>by cases h)) (fun h=>by cases h),h.1.2.1.1,f (e _ h.1.2.1.2),hlen _ h.1.2.2,h.2⟩
  .simp only[az]at h;exact⟨b,d,fun q=>(by cases q),h.1.2.1.1,f (e _ h.1.2.1.2),hlen _ h.1.2.2,h.2⟩
 .cases h
def ag7 {m:Nat}{seen:List Nat}{c:AC}{l:List AC}(b:∀id len,c≠.own id len)(h:eA st m seen (c::l)=true):eA st m seen l=true:=by
 cases c with
 |own id len=>exact absurd rfl (b id len)|ro f e t xs=>simp only[eA,az]at h;exact h.2|_=>exact h
def LG {m:Nat}(g:m=2\/m=3):∀{l:List AC} {seen:List Nat},eA st m seen l=true->(fh l).Nodup/\(∀id∈fh l,id ∉ seen)/\∀id len,AC.own id len∈l->len=none/\∃b,st.kA id=some b
 |[],seen,_=>⟨List.nodup_nil,fun id hi=>by simp[fh]at hi,fun id len hi=>by simp at hi⟩
 |c::l,seen,h=>by
  by_cases q:∃id len,c=.own id len
  .obtain⟨id,len,rfl⟩:=q;obtain⟨b,s,_,_,t,hlen,u⟩:=ake g h;obtain⟨j,e,n⟩:=LG g u;refine⟨List.nodup_cons.2 ⟨fun hi=>e id hi (by simp),j⟩,fun i hi=>?_,fun i f hi=>?_⟩
   .rcases c7.1 (show i∈id::fh l from hi) with rfl|hi
    .exact t
    .exact fun v=>e i hi (by simp[v])
   .rcases c7.1 hi with d|hi
    .cases d;exact⟨hlen,b,s⟩
    .exact n i f hi
  .have p:∀id len,c≠.own id len:=fun id len d=>q ⟨id,len,d⟩
   obtain⟨j,e,n⟩:=LG g (ag7 p h);have d:fh (c::l)=fh l:=by
    cases c with
    |own id len=>exact absurd rfl (p id len)|_=>rfl
   rw[d];refine⟨j,e,fun i f hi=>?_⟩;rcases c7.1 hi with x|hi
   .exact absurd x.symm (p i f)
   .exact n i f hi
def RG (id:Nat):∀(l:List AC),look (st.gone l).bl id=if id∈fh l then some none else look st.bl id
 |[]=>by simp[fh,St.gone]
 |c::l=>by
  have d:=RG id l;cases c with
  |own i len =>
   show look ((i,none)::(st.gone l).bl) id=_;rw[ai];by_cases b:i=id
   .simp[b,fh]
   .rw[ag b,d];have f:¬id=i:=fun e=>b e.symm
    simp[fh,f]
  |_=>exact d
structure acs (w':World) (okE:Nat->Prop) (f:Bool) (bm:Nat->Option Nat) (G:Gh) (st:St) (z:Nat×Nat×dD×Value):Prop where
 wr:z.2.2.1.w=true
 nf:z.2.2.1.f=f
 pos:0<z.2.2.1.t.n
 row:∃rows,w'.ownsRow 0 z.2.2.1.e z.2.2.1.t.n z.2.2.2 z.2.2.1.xs.length rows/\dx w' okE z.2.2.1.t rows z.2.2.1.xs
 kA:∀g,z.2.2.2.ownBlock=some g->bm g=some z.1
 hv:z.2.2.2=G.hv z.2.1
 old:∃b,look st.bl z.2.1=some (some b)/\b.t=z.2.2.1.t
def FrC.len {w:World}{okE:Nat->Prop}{own:Nat->Option Nat}:∀{t:Ty} {x:t.D} {j:Nat} {cs:List Value},FrC w okE own t x j cs->cs.length=t.n
 |.int _,_,_,_,h=>by rw[show _=_ from h];rfl
 |.bool,_,_,_,h=>by rw[show _=_ from h];rfl
 |.str,_,_,_,h=>by rw[show _=_ from h];rfl
 |.unit,_,_,_,h=>by rw[show _=_ from h];rfl
 |.pair a b,_,_,_,h=>by obtain⟨f,g,rfl,c,d⟩:=h;simp[Ty.n,FrC.len c,FrC.len d]
 |.sl e t,_,_,_,h=>by obtain⟨v,rows,rfl,_⟩:=h;rfl
def FrC.els {w:World}{okE WD:Nat->Prop}{own:Nat->Option Nat}:∀{t:Ty} {x:t.D} {j:Nat} {cs:List Value},FrC w okE own t x j cs->(∀g,okE g->WD g)->FrC w WD own t x j cs
 |.int _,_,_,_,h,_=>h|.bool,_,_,_,h,_=>h|.str,_,_,_,h,_=>h|.unit,_,_,_,h,_=>h|.pair a b,_,_,_,h,c=>by obtain⟨i,l,e,d,f⟩:=h;exact⟨i,l,e,FrC.els d c,FrC.els f c⟩
 |.sl e t,_,_,_,h,c=>by obtain⟨v,rows,d,f,m,n,p⟩:=h;exact⟨v,rows,d,f,m,n,ic c p⟩
def j5.alJ {w:World}{okE WD:Nat->Prop}{own:Nat->Option Nat}(b:∀g,okE g->WD g):∀{rs:List (Ty×Bool)} {x:Args rs} {j:Nat} {vs:List Value},j5 w okE own rs x j vs->j5 w WD own rs x j vs
 |[],_,_,_,h=>h|_::_,_,_,_,h=>by obtain⟨v,c,e,⟨cs,d,f⟩,i⟩:=h;exact⟨v,c,e,⟨cs,FrC.els d b,f⟩,j5.alJ b i⟩
def anY (h:Inv w0 G st a w){l:List AC}:∀e t c v xs,c∈l->a7 G w st.bx st.bl c v->bU st e t c=some xs->Rd w (fun _=>True) (.sl e t) xs [v]:=fun e t c v xs _=>Jr h e t c v xs
def RH {w':World}{okE:Nat->Prop}{f:Bool}{bm:Nat->Option Nat}:∀{t:Ty} {B x:t.D} {j:Nat} {l h:List AC} {vs u cs:List Value},
  im st t l=some (B,h)->bD (a7 G w st.bx st.bl) l vs->(∀id len,AC.own id len∈l->len=none/\∃b,st.kA id=some b)->FrC w' okE bm t x j cs->vs=cs++u ->
  ∃(D:List AC) (L:List (Nat×Nat×dD×Value)),l=D++h/\bD (a7 G w st.bx st.bl) h u/\(nr f t x l).2=h/\(nr f t x l).1=L.map (fun z=>(z.2.1,some z.2.2.1))/\L.map (·.2.1)=fh D /\
   (∀z∈L,j<=z.1/\z.1<j+t.n/\acs w' okE f bm G st z)/\(∀z∈L,∀A∈L,z.1=A.1->z=A)
 |.int k,B,x,j,l,h,vs,u,cs,g,hrel,aS,i,m=>by
  cases l with
  |nil=>simp[im]at g
  |cons c l =>
   cases c with
   |int q n =>
    simp only[im]at g;split at g
    .cases g;subst m;rw[show cs=_ from i]at hrel;exact⟨[_],[],rfl,hrel.2,rfl,rfl,rfl,fun z d=>by simp at d,fun z d=>by simp at d⟩
    .cases g
   |_=>simp[im]at g
 |.bool,B,x,j,l,h,vs,u,cs,g,hrel,aS,i,m=>by
  cases l with
  |nil=>simp[im]at g
  |cons c l =>
   cases c with
   |bool b =>
    simp only[im]at g;cases g;subst m;rw[show cs=_ from i]at hrel;exact⟨[_],[],rfl,hrel.2,rfl,rfl,rfl,fun z d=>by simp at d,fun z d=>by simp at d⟩
   |_=>simp[im]at g
 |.str,B,x,j,l,h,vs,u,cs,g,hrel,aS,i,m=>by
  cases l with
  |nil=>simp[im]at g
  |cons c l =>
   cases c with
   |str b =>
    simp only[im]at g;cases g;subst m;rw[show cs=_ from i]at hrel;exact⟨[_],[],rfl,hrel.2,rfl,rfl,rfl,fun z d=>by simp at d,fun z d=>by simp at d⟩
   |_=>simp[im]at g
 |.unit,B,x,j,l,h,vs,u,cs,g,hrel,aS,i,m=>by simp only[im]at g;cases g;subst m;rw[show cs=[] from i]at hrel;exact⟨[],[],rfl,hrel,by simp[nr],by simp[nr],rfl,fun z d=>by simp at d,fun z d=>by simp at d⟩
 |.pair p q,B,x,j,l,h,vs,u,cs,g,hrel,aS,i,m=>by
  simp only[im]at g;split at g
  .rename_i y W X;split at g
   .rename_i z qy d;cases g;obtain⟨qz,qA,rfl,Y,Z⟩:=i;obtain⟨D,qa,M,qb,N,qd,qe,E,qf⟩:=RH (f:=f) X hrel aS Y (by rw[m,ha]);obtain⟨qg,qh,qi,qj,qk,ql,qm,F,qn⟩:=RH (f:=f) (l:=W) d qb (fun id len qo=>aS id len (by rw[M];simp[qo])) Z rfl;refine⟨D++qg,qa++qh,by rw[M,qi,ha],qj,?_,?_,?_,fun z d=>?_,fun z d A s O=>?_⟩
    .simp only[nr,N,qk]
    .simp only[nr,N,qd,ql,My]
    .rw[My,qe,qm];have app:∀(a b:List AC),fh (a++b)=fh a++fh b:=by
      intro a b
      induction a with
      |nil=>rfl
      |cons c a R =>
       cases c with
       |own id len=>simp[fh,R]|_=>simp[fh,R]
     rw[app]
    .rcases en.1 d with d|d
     .obtain⟨S,qp,H⟩:=E z d;exact⟨S,by simp only[Ty.n];omega,H⟩
     .obtain⟨S,qp,H⟩:=F z d;exact⟨by omega,by simp only[Ty.n];omega,H⟩
    .rcases en.1 d with d|d<;>rcases en.1 s with s|s
     .exact qf z d A s O
     .have:=(E z d).2.1;have:=(F A s).1;omega
     .have:=(F z d).1;have:=(E A s).2.1;omega
     .exact qn z d A s O
   .cases g
  .cases g
 |.sl e t,B,x,j,l,h,vs,u,cs,g,hrel,aS,i,m=>by
  cases l with
  |nil=>simp[im]at g
  |cons c l =>
   simp only[im]at g;split at g
   .rename_i qB C;cases g;obtain⟨v,rows,rfl,qq,qt,qu,qv⟩:=i;subst m;have qw:a7 G w st.bx st.bl c v:=hrel.1;have I:bD (a7 G w st.bx st.bl) h u:=hrel.2;cases c with
    |own id len =>
     obtain⟨hlen,b,T⟩:=aS id len (by simp);subst hlen;simp only[bU,T]at C;split at C
     .split at C
      .rename_i qx;refine⟨[.own id none],[(j,id,⟨e,t,x,f,true⟩,v)],rfl,I,rfl,rfl,rfl,fun z d=>?_,fun z d A s _=>?_⟩
       .simp at d;subst d;refine⟨bq _,by simp[Ty.n],rfl,rfl,qq,⟨rows,qt,qv⟩,qu,qw.2.2,b,cV T,Ty.beq_eq qx⟩
       .simp at d s;rw[d,s]
      .cases C
     .cases C
    |nil=>exact⟨[_],[],rfl,I,rfl,rfl,rfl,fun z d=>by simp at d,fun z d=>by simp at d⟩
    |ro qC qD qE qF=>exact⟨[_],[],rfl,I,rfl,rfl,rfl,fun z d=>by simp at d,fun z d=>by simp at d⟩
    |_=>simp[bU]at C
   .cases g
def Jt {bV:St}(h:eC st bV)(pm:PM):∀(i:Nat) (os:List Operand),eB bV pm i os=eB st pm i os
 |0,[]=>rfl|_+1,[]=>rfl|0,o::os=>by simp only[eB];rw[PI h.tm,ET h os,h.bx]
 |i+1,o::os=>by simp only[eB];rw[PI h.tm,Jt h pm i os]
def tZ (h:Inv w0 G st a w){ok nw:Nat->Prop}{own0:Nat->Option Nat}{g0:Nat}{pm:PM}:∀(i:Nat) (ps:List (Ty×Bool)) (os:List Operand) (x:Args ps),
  (∀e t c v xs,c∈eB st pm i os->a7 G w st.bx st.bl c v->bU st e t c=some xs->Rd w ok (.sl e t) xs [v])->fU st pm i ps os=some x ->
  (∀p o y,gU os i=some o->gU ps i=some p->im2 st pm p o=some y->(pm=.rd->∀e t c v xs,c∈(st.c6 o).cells->a7 G w st.bx st.bl c v->bU st e t c=some xs->Rd w ok (.sl e t) xs [v])->aqL w ok nw own0 g0 pm p y (a.eval o)) ->
  ∃o p,gU os i=some o/\gU ps i=some p/\(∃y,im2 st pm p o=some y)/\tY w ok nw own0 g0 pm i ps x (os.map a.eval) (a.eval o)
 |0,[],os,x,_,b,_=>by cases os<;>simp[fU]at b
 |_+1,[],os,x,_,b,_=>by cases os<;>simp[fU]at b
 |0,p::ps,[],x,_,b,_=>by simp[fU]at b
 |_+1,p::ps,[],x,_,b,_=>by simp[fU]at b
 |0,p::ps,o::os,x,f,b,j=>by
  simp only[fU]at b;split at b
  .rename_i y g;split at b
   .rename_i l m;cases b;refine⟨o,p,rfl,rfl,⟨y,g⟩,os.map a.eval,rfl,j p o y rfl rfl g (fun s e t c v xs d=>f e t c v xs ?_),Bm h ps os l (fun e t c v xs d=>f e t c v xs ?_) m⟩
    .subst s;simp[eB,d]
    .simp[eB,d]
   .cases b
  .cases b
 |i+1,p::ps,o::os,x,f,b,j=>by
  simp only[fU]at b;split at b
  .rename_i y g;split at b
   .rename_i l m;cases b;obtain⟨u,z,n,q,A,B⟩:=tZ h i ps os l (fun e t c v xs d=>f e t c v xs (by simp[eB,d])) m (fun p o y n q=>j p o y n q);exact⟨u,z,n,q,A,a.eval o,os.map a.eval,rfl,acr h (fun e t c v xs d=>f e t c v xs (by simp[eB,d])) g,B⟩
   .cases b
  .cases b
def BK (h:Inv w0 G st a w){own0 bm:Nat->Option Nat}(n:∀g i,own0 g=some i->(G.own g).isSome=true)(L:List (Nat×dD×Value))(B:Option (Nat×Nat×List AC))(f:Bool)(g:Nat)
  (j:bm g=none/\((G.nw g/\(G.own g=none\/(own0 g).isSome=true))\/(f=false/\RO G false g))):RO (G.back w.heap.size own0 bm L B) f g:=by
 obtain⟨l,e⟩:=j;have aS:(G.back w.heap.size own0 bm L B).own g=none:=by
  show(if g<w.heap.size/\own0 g=none then G.own g else match bm g with|none=>none|some _=>nZ L B g)=none;by_cases c:g<w.heap.size/\own0 g=none
  .rw[aj c];rcases e with ⟨_,b|b⟩|⟨_,b⟩
   .exact b
   .rw[c.2]at b;cases b
   .exact b.1
  .rw[ag c,l]
 refine⟨aS,?_⟩;rcases e with ⟨b,_⟩|⟨b,m⟩
 .exact .inl b
 .rcases m.2 with d|d
  .exact .inl d
  .exact .inr ⟨b,d.2⟩
def Fk (h:Inv w0 G st a w){own0:Nat->Option Nat}(e:∀g b,own0 g=some b->(G.own g).isSome=true) :
  Handed w (fun g=>w0.w.heap.size<=g\/w0.fr g) (RO G false) (fun g=>G.nw g/\(G.own g=none\/(own0 g).isSome=true)) own0 where
 hz g f:=by
  refine⟨h.aei f,.inl ?_⟩;cases i:G.own g with
  |none=>rfl|some k=>have:=(h.own g k i).2.1;omega
 aS g b c:=by obtain⟨k,d⟩:=ek.1 (e g b c);obtain⟨j,l,_⟩:=h.own g k d;exact⟨⟨h.Jk d,.inr (by rw[c];rfl)⟩,l,j⟩
 hb g b c:=by obtain⟨k,d⟩:=ek.1 (e g b c);exact h.anR d
 cR g f:=by
  cases i:own0 g with
  |none=>rfl
  |some b =>
   have:=e g b i;rw[f.1]at this;cases this
def ag8 {ok:Nat->Prop}{p:Ty×Bool}(c:p.2=true){x:Args [p]}{cs:Array Value}(h:cT w ok [p] x [.agg cs]):Rd w ok p.1 x.1 cs.toList:=by obtain⟨v,i,d,⟨e,f,b⟩,_⟩:=h;rw[c]at b;have:v=.agg cs:=(we d).1.symm;rw[this]at b;have g:cs=e.toArray:=Value.agg.inj b;rw[g];exact f
def Ju {G:Gh}{bx:List (Nat×List AC)}{bl:List (Nat×Option dD)}{L:List (Nat×dD×Value)}(h:∀c v,ns L c v->a7 G w bx bl c v){c:CV}{v:Value}(b:aep L c v):da G w bx bl c v:=by
 cases c with
 |c x=>exact h x v b
 |agg l =>
  obtain⟨cs,d,e⟩:=b;exact⟨cs,d,e.imp h⟩
def anZ (h:Inv w0 G st a w){con:CW}{ok:Nat->Prop}{w':World}{g0:Nat}{u:Value}{y:Args con.rs×Args con.qs}{us:List Value}(cR:∀g,ok g->RO G false g)
  {t:Bool} (x:rdM con.m=some t) (n:N6 con w w' ok (fun g=>G.nw g/\(G.own g=none\/(none:Option Nat).isSome=true)) (fun _=>none) g0 u y us) (N:dh (fun g=>(none:Option Nat).isSome=true) w w') {d:Tmp}
  (p:ab1 t con.rs st d y.1 k=some r) (O:l4 w0 k r K):K (a.put (some d) (dj us)) w':=by
 obtain⟨bm,hz,_,n⟩:=n;have n:∃b cs e,us=[.pointer (some ⟨b,0,none⟩)]/\w.heap.size<=b/\(bm b).isSome=true/\w'.heap[b]?=some (.cells cs e (0,0)) /\
   cT w' (fun g=>bm g=none/\((G.nw g/\(G.own g=none\/(none:Option Nat).isSome=true))\/(t=false/\ok g))) con.rs y.1 [.agg cs]:=by
  unfold rdM at x;split at x
  .rename_i q;cases x;rw[q]at n;obtain⟨b,cs,e,B,A,C,q,D⟩:=n;exact⟨b,cs,e,B,A,C,q,dy (fun g c=>⟨c.1,.inl c.2⟩) D⟩
  .rename_i q;cases x;rw[q]at n;obtain⟨b,cs,e,B,A,C,q,D⟩:=n;exact⟨b,cs,e,B,A,C,q,dy (fun g c=>⟨c.1,c.2.imp_right fun h=>⟨rfl,h⟩⟩) D⟩
  .cases x
 obtain⟨b,cs,e,rfl,qb,R,S,T⟩:=n;obtain⟨qd,i,pm,rs,m,qe,g⟩:=con;dsimp only at *;unfold ab1 at p;split at p
 .rename_i E qf;split at p
  .rename_i W;obtain⟨F,p⟩:=aG p;rw[az]at F;have X:=ag8 F.2 T;have Y:WC w w' G st (fun _=>none) bm (fun f g=>bm g=none/\((G.nw g/\(G.own g=none\/(none:Option Nat).isSome=true))\/(f=false/\RO G false g))) [] (some (d,b,ex t E.1 y.1.1))
     ((d,ex t E.1 y.1.1)::st.bx) st.bl:=by
    refine⟨N,fun g M c=>(by cases c),fun g M c=>(by cases c),hz,fun f g c=>BK h (fun g M c=>by cases c) [] _ f g c,fun z j=>(by simp at j),fun z j=>(by simp at j),fun z j=>(by simp at j),fun z j=>(by simp at j),
     fun i b Z=>.inr ⟨fun z j=>(by simp at j),Z,fun _ _=>rfl⟩,fun i qa=>qa,fun z j=>(by simp at j),fun H l s=>?_,fun H s=>iY _ trivial s,fun H g l I=>?_⟩
    .rw[ai]at s;by_cases L:d=H
     .subst L;rw[aj rfl]at s;cases s;exact .inl ⟨b,rfl⟩
     .rw[ag L]at s;exact .inr ⟨fun qg g qh I=>(by cases I;exact L),s,rfl⟩
    .cases I;refine⟨by simp[ai],.inl W,⟨R,fun z j=>(by simp at j)⟩,cs,e,t,E.1,y.1.1,S,rfl,eL (fun g c=>⟨c.1,c.2.imp_right fun h=>⟨h.1,cR g h.2⟩⟩) X⟩
   obtain⟨hinv,_⟩:=h.back Y;have A:=hinv.put d (ef F.1) (v:=.v (.c (.ptr d 0))) (u:=.pointer (some ⟨b,0,none⟩)) ⟨by simp[ai],by simp[Gh.back]⟩;exact O _ _ _ _ A p
  .cases p
 .cases p
def N9 {id:Nat}:∀{l:List AC} {k:Nat},id ∉ fh l->Js l id k=none
 |[],_,_=>rfl|c::l,k,h=>by
  cases c with
  |own i len =>
   have b:i≠id:=fun e=>h (by simp[fh,e])
   have d:id ∉ fh l:=fun f=>h (by simp[fh,f])
   simp[Js,b,N9 d]
  |_=>exact N9 (l:=l) h
def LH {all:List AC}{g j:Nat}(h:bG G all g=some j):(G.own g).isSome=true:=by
 unfold bG at h;split at h
 .rename_i id hid;rw[hid];rfl
 .cases h
def alK {all:List AC}{g j:Nat}(h:bG G all g=some j):G.own g≠some .hid:=by
 unfold bG at h;split at h
 .rename_i id hid;rw[hid];simp
 .cases h
def MD (h:Inv w0 G st a w){ok:Nat->Prop}{w':World}{rs:List (Ty×Bool)}{m:Nat}{y:Args rs}{us:List Value}(cR:∀g,ok g->RO G false g){all:List AC}{bm:Nat->Option Nat}
  (hz:∀g C,bm g=some C->w.heap.size<=g\/(bG G all g).isSome=true) (Z:db rs=true)
  (qa:j5 w' (fun g=>bm g=none/\((G.nw g/\(G.own g=none\/(bG G all g).isSome=true))\/(m2 m=false/\ok g))) bm rs y 0 us) (qb:dh (fun g=>(bG G all g).isSome=true) w w') {d:Tmp}
  (qd:ee (hy d (m2 m) rs y 0).2 st=true) {bl3:List (Nat×Option dD)} {L2:List (Nat×Nat×dD×Value)}
  (qe:∀i b,look bl3 i=some (some b)->(∃z∈L2,z.2.1=i/\z.2.2.1=b)\/((∀z∈L2,z.2.1≠i)/\i ∉ fh all/\look st.bl i=some (some b))) (qf:∀i,(look st.bl i).isSome=true->(look bl3 i).isSome=true)
  (qg:∀z∈L2,(look bl3 z.2.1).isSome=true) (qh:∀z∈L2,∀B∈L2,z.2.1=B.2.1->z=B)
  (E:∀z∈L2,Tq rs<=z.1/\acs w' (fun g=>bm g=none/\((G.nw g/\(G.own g=none\/(bG G all g).isSome=true))\/(m2 m=false/\ok g))) (m2 m) bm G st z) (qi:∀z∈L2,∀B∈L2,z.1=B.1->z=B) :
  ∃Y,Inv w0 Y {st with bl:=(hy d (m2 m) rs y 0).2++bl3} a w'/\bD (da Y w' st.bx ((hy d (m2 m) rs y 0).2++bl3)) (hy d (m2 m) rs y 0).1 us:=by
 obtain⟨L,M,qj⟩:=PG (id:=d) (f:=m2 m) Z qa;have N:=M.q;have R:∀z∈L,look st.bl z.1=none:=fun z j=>u2 qd z.1 (by rw[N];exact gx j)
 have F:∀z,z∈L++L2.map (·.2)->z∈L\/∃p,(p,z)∈L2:=by
  intro z j;rcases en.1 j with j|j
  .exact .inl j
  .obtain⟨q,N,rfl⟩:=Bx.1 j;exact .inr ⟨q.1,N⟩
 have S:∀z∈L,∀g,z.2.2.ownBlock=some g->∃C,bm g=some C/\C<Tq rs/\z.1=d*64+C:=by intro z j g n;obtain⟨A,t,s⟩:=M.rows z j;exact⟨_,s.kA g n,by omega,by omega⟩
 have qk:WC w w' G st (bG G all) bm (fun f g=>bm g=none/\((G.nw g/\(G.own g=none\/(bG G all g).isSome=true))\/(f=false/\RO G false g))) (L++L2.map (·.2)) none st.bx ((hy d (m2 m) rs y 0).2++bl3):=by
  refine⟨qb,fun g C n=>LH n,fun g C n=>alK n,hz,fun f g n=>BK h (fun g C n=>LH n) _ _ f g n,fun z j=>?_,fun z j B u g n T=>?_,fun z j B u H=>?_,fun z j=>?_,fun i b O=>?_,fun i ql=>?_,fun z j=>?_,fun W l D=>?_,
   fun W qm=>qm,fun W g l H=>by cases H⟩
  .rcases F z j with j|⟨p,j⟩
   .obtain⟨A,t,s⟩:=M.rows z j;obtain⟨rows,I,X⟩:=s.row;refine⟨s.wr,s.pos,⟨rows,I,RD (fun qn g n=>⟨n.1,?_⟩) X⟩,fun g n=>by rw[s.kA g n];rfl⟩;rw[s.nf,qn,Bool.or_false];exact n.2.imp_right fun h=>⟨h.1,cR g h.2⟩
   .obtain⟨A,s⟩:=E _ j;obtain⟨rows,I,X⟩:=s.row;refine⟨s.wr,s.pos,⟨rows,I,ic (fun g n=>⟨n.1,?_⟩) X⟩,fun g n=>by rw[s.kA g n];rfl⟩;rw[show z.2.1.f=m2 m from s.nf];exact n.2.imp_right fun h=>⟨h.1,cR g h.2⟩
  .rcases F z j with j|⟨p,j⟩<;>rcases F B u with u|⟨qo,u⟩
   .obtain⟨C,A,_,t⟩:=S z j g n;obtain⟨qu,s,_,I⟩:=S B u g T;rw[A]at s;cases s;exact M.uniq z j B u (by omega)
   .obtain⟨C,A,t,_⟩:=S z j g n;obtain⟨s,I⟩:=E _ u;have:=I.kA g T;rw[A]at this;cases this;dsimp only at s;omega
   .obtain⟨C,A,t,_⟩:=S B u g T;obtain⟨s,I⟩:=E _ j;have:=I.kA g n;rw[A]at this;cases this;dsimp only at s;omega
   .have A:=(E _ j).2.kA g n;have t:=(E _ u).2.kA g T;rw[A]at t;have:=qi _ j _ u (dI t);exact C2 (·.2) this
  .rcases F z j with j|⟨p,j⟩<;>rcases F B u with u|⟨qo,u⟩
   .exact M.uniq z j B u H
   .obtain⟨b,A,_⟩:=(E _ u).2.old;have t:=R z j;rw[H]at t;rw[show look st.bl B.1=_ from A]at t;cases t
   .obtain⟨b,A,_⟩:=(E _ j).2.old;have t:=R B u;rw[<-H]at t;rw[show look st.bl z.1=_ from A]at t;cases t
   .exact C2 (·.2) (qh _ j _ u H)
  .rcases F z j with j|⟨p,j⟩
   .exact .inl (R z j)
   .exact .inr ⟨(E _ j).2.hv,(E _ j).2.old⟩
  .rw[cK]at O;cases D:look (hy d (m2 m) rs y 0).2 i with
   |some x =>
    rw[D]at O;cases O;rw[N]at D;obtain⟨v,qp⟩:=PH D;exact .inl ⟨v,by simp[qp]⟩
   |none =>
    rw[D]at O;rcases qe i b O with ⟨z,j,rfl,rfl⟩|⟨A,t,s⟩
    .exact .inl ⟨z.2.2.2,List.mem_append_right _ (Bx.2 ⟨z,j,rfl⟩)⟩
    .refine .inr ⟨fun z j=>?_,s,fun g n=>?_⟩
     .rcases F z j with j|⟨p,j⟩
      .rintro rfl;rw[R z j]at s;cases s
      .exact A _ j
     .unfold bG;rw[n];exact N9 t
  .rw[cK];cases D:look (hy d (m2 m) rs y 0).2 i with
   |some x=>rfl|none=>exact qf i ql
  .rcases F z j with j|⟨p,j⟩
   .rw[cK,N];have:=gx j;cases D:look (L.map fun z=>(z.1,some z.2.1)) z.1 with
    |some x=>rfl|none=>rw[D]at this;cases this
   .rw[cK];cases D:look (hy d (m2 m) rs y 0).2 z.1 with
    |some x=>rfl|none=>exact qg _ j
  .refine .inr ⟨fun qv g qw H=>(by cases H),D,?_⟩;obtain⟨cs,e,_,t,_⟩:=h.bx W l D;unfold bG;rw[t]
 obtain⟨hinv,qq⟩:=h.back qk;have hrel:=qj.imp fun c v qt=>Ju qq (aep.BD (L':=L++L2.map (·.2)) (fun z j=>by simp[j]) qt)
 exact⟨_,hinv,hrel⟩
def WE (h:Inv w0 G st a w){ok:Nat->Prop}{w':World}{rs:List (Ty×Bool)}{m:Nat}{y:Args rs}{us:List Value}(cR:∀g,ok g->RO G false g){all:List AC}{bm:Nat->Option Nat}
  (hz:∀g e,bm g=some e->w.heap.size<=g\/(bG G all g).isSome=true) (f:db rs=true)
  (j:j5 w' (fun g=>bm g=none/\((G.nw g/\(G.own g=none\/(bG G all g).isSome=true))\/(m2 m=false/\ok g))) bm rs y 0 us) (l:dh (fun g=>(bG G all g).isSome=true) w w') {d:Tmp}
  (n:Nat.blt d st.nt=true) (p:ee (hy d (m2 m) rs y 0).2 st=true) {bl3:List (Nat×Option dD)} {L2:List (Nat×Nat×dD×Value)}
  (q:∀i b,look bl3 i=some (some b)->(∃z∈L2,z.2.1=i/\z.2.2.1=b)\/((∀z∈L2,z.2.1≠i)/\i ∉ fh all/\look st.bl i=some (some b))) (s:∀i,(look st.bl i).isSome=true->(look bl3 i).isSome=true)
  (t:∀z∈L2,(look bl3 z.2.1).isSome=true) (u:∀z∈L2,∀c∈L2,z.2.1=c.2.1->z=c)
  (v:∀z∈L2,Tq rs<=z.1/\acs w' (fun g=>bm g=none/\((G.nw g/\(G.own g=none\/(bG G all g).isSome=true))\/(m2 m=false/\ok g))) (m2 m) bm G st z) (x:∀z∈L2,∀c∈L2,z.1=c.1->z=c)
  (A:k {(st.put d (BA (hy d (m2 m) rs y 0).1)) with bl:=(hy d (m2 m) rs y 0).2++bl3}=some r) (B:l4 w0 k r K):K (a.put (some d) (dj us)) w':=by
 obtain⟨D,hinv,hrel⟩:=MD h cR hz f j l p q s t u v x;have C:=hinv.put d (ef n) (q7 (R:=fun _ _=>True) hrel);exact B _ _ _ _ C A
def akf {L:List (Nat×Nat×dD×Value)}{i:Nat}:∀{x:Option dD},look (L.map fun z=>(z.2.1,some z.2.2.1)) i=some x->∃z∈L,z.2.1=i/\x=some z.2.2.1:=by
 induction L with
 |nil=>intro x h;simp[look]at h
 |cons z L c =>
  intro x h;rw[kL,ai]at h;by_cases b:z.2.1=i
  .rw[aj b]at h;exact⟨z,by simp,b,(dI h).symm⟩
  .rw[ag b]at h;obtain⟨y,d,e⟩:=c h;exact⟨y,by simp[d],e⟩
def Jv {L:List (Nat×Nat×dD×Value)}{i:Nat}(h:look (L.map fun z=>(z.2.1,some z.2.2.1)) i=none):∀z∈L,z.2.1≠i:=by
 induction L with
 |nil=>intro z b;simp at b
 |cons y L d =>
  rw[kL,ai]at h;by_cases c:y.2.1=i
  .rw[aj c]at h;cases h
  .rw[ag c]at h;intro z b;rcases c7.1 b with rfl|b
   .exact c
   .exact d h z b
def akg {bx:List (Nat×List AC)}{bl:List (Nat×Option dD)}{p:Ty×Bool}{c:CV}{u:Value}{g:p.1.D}(h:da G w bx bl c u)(d:Ua st p c=some g) :
  ∃e,im st p.1 c.cells=some (g,[])/\bD (a7 G w bx bl) c.cells e/\u=(match p.2 with|true=>.agg e.toArray|false=>e.headD undef)/\(p.2=false->e.length=1):=by
 obtain⟨t,b⟩:=p;cases c with
 |agg l =>
  cases b with
  |false=>simp[Ua]at d
  |true =>
   simp only[Ua]at d;split at d
   .rename_i z f;cases d;obtain⟨e,i,hrel⟩:=h;exact⟨e.toList,f,hrel,by rw[i,qU],fun j=>by cases j⟩
   .cases d
 |c x =>
  cases b with
  |true=>simp[Ua]at d
  |false =>
   simp only[Ua]at d;split at d
   .rename_i z f;cases d;exact⟨[u],f,⟨h,trivial⟩,rfl,fun _=>rfl⟩
   .cases d
def C6 (c:CV):aF [c]=c.cells:=by simp[aF]
def aer (h:Inv w0 G st a w){ok:Nat->Prop}{w':World}{rs:List (Ty×Bool)}{m:Nat}{q:Ty×Bool}{y:Args rs}{y2:q.1.D}{us:List Value}{u:Value}(cR:∀g,ok g->RO G false g){c:CV}{f:Bool}{bm:Nat->Option Nat}
  (qa:da G w st.bx st.bl c u) {qb:q.1.D} (qd:Ua st q c=some qb) (qe:eA st (pmM f) [] c.cells=true)
  (hz:∀g qf,bm g=some qf->w.heap.size<=g\/(bG G (aF [c]) g).isSome=true)
  (qg:j5 w' (fun g=>bm g=none/\((G.nw g/\(G.own g=none\/(bG G (aF [c]) g).isSome=true))\/(m2 m=false/\ok g))) bm [q] (y2,()) (Tq rs) [u])
  (qh:j5 w' (fun g=>bm g=none/\((G.nw g/\(G.own g=none\/(bG G (aF [c]) g).isSome=true))\/(m2 m=false/\ok g))) bm rs y 0 us)
  (qi:dh (fun g=>(bG G (aF [c]) g).isSome=true) w w') (qj:db rs=true) {d:Tmp} (qk:ee (hy d (m2 m) rs y 0).2 st=true) :
  ∃O,Inv w0 O {st with bl:=(hy d (m2 m) rs y 0).2++((nr (m2 m) q.1 y2 c.cells).1++st.bl)} a w'/\bD (da O w' st.bx ((hy d (m2 m) rs y 0).2++((nr (m2 m) q.1 y2 c.cells).1++st.bl))) (hy d (m2 m) rs y 0).1 us:=by
 have R:=LG (st:=st) (m:=pmM f) (by cases f<;>simp[pmM]) qe;have ql:=C6 c;obtain⟨v,qA,D,⟨cs,Ud,j⟩,_⟩:=qg;have qm:v=u:=(we D).1.symm;subst qm;obtain⟨S,T,hrel,s,hlen⟩:=akg qa qd;have qn:S=cs++[]:=by
  rw[fo];cases I:q.2 with
  |true =>
   rw[I]at s j;rw[s]at j;have:=Value.agg.inj j;simpa using C2 Array.toList this
  |false =>
   rw[I]at s j;have l:=hlen I;have t:cs.length=1:=by have qo:=FrC.len Ud;obtain⟨qB,qp,C,qq,qt,_⟩:=Fe (ok:=fun _=>True) (anY h) hrel T;have qu:=qq.len;have qv:=bD.len qt;have:qp=[]:=Pn qv.symm;subst this;rw[fo]at C;subst C;rw[qo,<-qu];exact l
   match S,cs,l,t,s,j with
   |[W],[X],_,_,s,j =>
    have:W=X:=by have qw:v=W:=s;have A:v=X:=j;rw[<-qw,<-A]
    rw[this]
 obtain⟨qC,L,B,_,_,A,M,N,Y⟩:=RH (f:=m2 m) T hrel R.2.2 Ud qn;rw[fo]at B;have qx:∀z∈L,∀E∈L,z.2.1=E.2.1->z=E:=by
  have F:(L.map (·.2.1)).Nodup:=by rw[M,<-B];exact R.1
  intro z e E qy D;clear A M N Y
  induction L with
  |nil=>simp at e
  |cons q L qz =>
   rw[kL,List.nodup_cons]at F;rcases c7.1 e with B|l<;>rcases c7.1 qy with C|t
   .rw[B,C]
   .exact absurd (Bx.2 ⟨E,t,by rw[<-D,B]⟩) F.1
   .exact absurd (Bx.2 ⟨z,l,by rw[D,C]⟩) F.1
   .exact qz F.2 l t
 refine MD h cR hz qj qh qi qk (L2:=L) (bl3:=(nr (m2 m) q.1 y2 c.cells).1++st.bl) (fun i b n=>?_) (fun i H=>?_) (fun z e=>?_) qx (fun z e=>⟨(N z e).1,(N z e).2.2⟩) Y
 .rw[A,cK]at n;cases p:look (L.map fun z=>(z.2.1,some z.2.2.1)) i with
  |some x =>
   rw[p]at n;dsimp only at n;obtain⟨z,e,l,t⟩:=akf p;rw[t]at n;exact .inl ⟨z,e,l,dI (dI n)⟩
  |none =>
   rw[p]at n;have Z:=Jv p;refine .inr ⟨Z,fun H=>?_,n⟩;rw[ql,B,<-M]at H;obtain⟨z,e,rfl⟩:=Bx.1 H;exact Z z e rfl
 .rw[A,cK];cases p:look (L.map fun z=>(z.2.1,some z.2.2.1)) i with
  |some x=>rfl|none=>exact H
 .rw[A,cK];cases p:look (L.map fun z=>(z.2.1,some z.2.2.1)) z.2.1 with
  |some x=>rfl|none=>exact absurd rfl (Jv p z e)
def aaT (h:Inv w0 G st a w){con:CW}{f:Bool}(I:con.pm=.own f){ok:Nat->Prop}{w':World}{g0:Nat}{u:Value}{y:Args con.rs×Args con.qs}{us:List Value}(cR:∀g,ok g->RO G false g){c:CV}
  (L:da G w st.bx st.bl c u) {p:Ty×Bool} (M:gU con.ps con.i=some p) (N:akd con) {O:p.1.D} (S:Ua st p c=some O) (t:eA st (pmM f) [] c.cells=true)
  (n:N6 con w w' ok (fun g=>G.nw g/\(G.own g=none\/(bG G (aF [c]) g).isSome=true)) (bG G (aF [c])) g0 u y us) (v:dh (fun g=>(bG G (aF [c]) g).isSome=true) w w') {d:Tmp}
  (j:Pp con.rs con.qs con.m st c d y k=some r) (x:l4 w0 k r K):K (a.put (some d) (dj us)) w':=by
 obtain⟨bm,hz,A,n⟩:=n;rw[I]at A;obtain⟨qb,i,pm,rs,m,qd,g⟩:=con;dsimp only at *;unfold Pp at j;obtain⟨B,j⟩:=aG j;simp only[az,hh]at B;obtain⟨⟨⟨T,C⟩,D⟩,E⟩:=B;have W:m=2\/m=3:=T.imp aA aA;have F:j5 w' (fun g=>bm g=none/\((G.nw g/\(G.own g=none\/(bG G (aF [c]) g).isSome=true))\/(m2 m=false/\ok g))) bm rs y.1 0 us:=by rcases W with rfl|rfl<;>exact n
 have qe:=LG (st:=st) (m:=pmM f) (by cases f<;>simp[pmM]) t;have X:=C6 c;split at j
 ·
  refine WE h cR hz E F v D C (L2:=[]) (bl3:=(st.gone c.cells).bl) (fun i b l=>.inr ?_) (fun i Y=>?_) (fun z e=>by simp at e) (fun z e=>by simp at e) (fun z e=>by simp at e) (fun z e=>by simp at e) j x
  .rw[RG]at l;split at l
   .cases l
   .exact⟨fun z e=>by simp at e,by rw[X];assumption,l⟩
  .rw[RG];split
   .rfl
   .exact Y
 ·
  rename_i q y qf;have Z:q=p:=by
   rcases N with s|⟨qg,s,H⟩
   .cases s
   .cases s;rw[M]at H;exact(dI H).symm
  subst Z;obtain⟨qh,hinv,hrel⟩:=aer (q:=q) (y2:=y.2.1) h cR L S t hz A F v E C;have qa:=hinv.put d (ef D) (q7 (R:=fun _ _=>True) hrel);exact x _ _ _ _ qa j
 .cases j
def b4 (g0:Nat)(g:Nat):Option Nat:=if g=g0 then some 0 else none
def lz {g0 g:Nat}(h:g≠g0):b4 g0 g=none:=by simp[b4,h]
def l6 (h:Inv w0 G st a w){b:Nat}{O:List AC}(qd:look st.bx b=some O){w':World}{bm:Nat->Option Nat}
  (hz:∀g m,bm g=some m->w.heap.size<=g\/(b4 (G.hb b) g).isSome=true) (qe:dh (fun g=>(b4 (G.hb b) g).isSome=true) w w') {p:Ty×Bool} {z:p.1.D} {cs:Array Value} {e:TypeId} {n:Nat}
  (qf:∃m,bm (G.hb b)=some m/\n<=m) (qg:w'.heap[G.hb b]?=some (.cells cs e (0,0)))
  {R S:Nat->Prop} {fb f:Bool} (qh:∀g,R g->(G.nw g/\(G.own g=none\/(b4 (G.hb b) g).isSome=true))\/(fb=false/\RO G false g))
  (qi:∀g,S g->(G.nw g/\(G.own g=none\/(b4 (G.hb b) g).isSome=true))\/(f=false/\RO G false g))
  (qj:Rd w' (fun g=>bm g=none/\R g) p.1 z cs.toList) {q:List (Nat×Option dD)} {B:List (Nat×dD×Value)} {d:Nat}
  (F:Fr w' (fun g=>bm g=none/\S g) f bm d 0 (0+n) q B) (qk:ee q st=true) :
  Inv w0 (G.back w.heap.size (b4 (G.hb b)) bm B (some (b,G.hb b,ex fb p.1 z))) {st with bx:=(b,ex fb p.1 z)::st.bx,bl:=q++st.bl} a w' /\
   ∀c v,ns B c v->a7 (G.back w.heap.size (b4 (G.hb b)) bm B (some (b,G.hb b,ex fb p.1 z))) w' ((b,ex fb p.1 z)::st.bx) (q++st.bl) c v:=by
 obtain⟨qw,qx,_,aS,_⟩:=h.bx b O qd;have L:=F.q;have T:∀g m,b4 (G.hb b) g=some m->(G.own g).isSome=true:=by
  intro g m j;unfold b4 at j;split at j
  .rename_i A;rw[A,aS];rfl
  .cases j
 have ql:∀g m,b4 (G.hb b) g=some m->G.own g≠some .hid:=by
  intro g m j;unfold b4 at j;split at j
  .rename_i A;rw[A,aS];simp
  .cases j
 have W:∀z∈B,look st.bl z.1=none:=fun z M=>u2 qk z.1 (by rw[L];exact gx M)
 have N:∀z∈B,∀g,z.2.2.ownBlock=some g->∃m,bm g=some m/\m<n/\z.1=d*64+m:=by intro z M g j;obtain⟨C,D,u⟩:=F.rows z M;exact⟨_,u.kA g j,by omega,by omega⟩
 refine h.back (okE:=fun f g=>bm g=none/\((G.nw g/\(G.own g=none\/(b4 (G.hb b) g).isSome=true))\/(f=false/\RO G false g))) ⟨qe,T,ql,hz,fun f g j=>BK h T _ _ f g j,fun y t=>?_,fun y t X Y g j qm=>?_,F.uniq,
  fun y t=>.inl (W y t),fun i qn E=>?_,fun i qo=>?_,fun y t=>?_,fun H l s=>?_,fun H qp=>iY _ trivial qp,fun H g l A=>?_⟩
 .obtain⟨C,D,u⟩:=F.rows y t;obtain⟨rows,Z,qq⟩:=u.row;refine⟨u.wr,u.pos,⟨rows,Z,RD (fun qt g j=>⟨j.1,?_⟩) qq⟩,fun g j=>by rw[u.kA g j];rfl⟩;rw[u.nf,qt,Bool.or_false];exact qi g j.2
 .obtain⟨m,C,_,D⟩:=N y t g j;obtain⟨qu,u,_,Z⟩:=N X Y g qm;rw[C]at u;cases u;exact F.uniq y t X Y (by omega)
 .rw[cK]at E;cases s:look q i with
  |some x =>
   rw[s]at E;cases E;rw[L]at s;obtain⟨v,qv⟩:=PH s;exact .inl ⟨v,qv⟩
  |none =>
   rw[s]at E;refine .inr ⟨fun y t=>?_,E,fun g j=>?_⟩
   .rintro rfl;have qa:look st.bl y.1=some (some qn):=E;rw[W y t]at qa;cases qa
   .refine lz ?_;rintro rfl;rw[aS]at j;cases j
 .rw[cK];cases s:look q i with
  |some x=>rfl|none=>exact qo
 .rw[cK,L];have:=gx t;cases s:look (B.map fun z=>(z.1,some z.2.1)) y.1 with
  |some x=>rfl|none=>rw[s]at this;cases this
 .rw[ai]at s;by_cases I:b=H
  .subst I;rw[aj rfl]at s;cases s;exact .inl ⟨_,rfl⟩
  .rw[ag I]at s;refine .inr ⟨fun qy g qz A=>(by cases A;exact I),s,?_⟩;obtain⟨cs,e,_,D,_⟩:=h.bx H l s;refine lz ?_;intro A;rw[A,aS]at D;cases D;exact I rfl
 .cases A;obtain⟨m,qb,qA⟩:=qf;refine⟨by simp[ai],.inr rfl,⟨by rw[qb];rfl,fun y t j=>?_⟩,cs,e,fb,p.1,z,qg,rfl,eL (fun g j=>⟨j.1,qh g j.2⟩) qj⟩;obtain⟨qu,C,D,_⟩:=N y t _ j;rw[qb]at C;cases C;omega
def alL (h:Inv w0 G st a w){con:CW}(N:con.pm=.box){ok:Nat->Prop}{w':World}{u:Value}{y:Args con.rs×Args con.qs}{us:List Value}(cR:∀g,ok g->RO G false g){b qh:Nat}{A:List AC}(t:look st.bx b=some A)
  {p:Ty×Bool} (O:gU con.ps con.i=some p) (S:p.2=true) (T:akd con)
  (x:N6 con w w' ok (fun g=>G.nw g/\(G.own g=none\/(b4 (G.hb b) g).isSome=true)) (b4 (G.hb b)) (G.hb b) u y us) (B:dh (fun g=>(b4 (G.hb b) g).isSome=true) w w') {d:Tmp}
  (l:VA con.rs con.qs con.m st (.c (.ptr b qh)) d y k=some r) (C:l4 w0 k r K):K (a.put (some d) (dj us)) w':=by
 obtain⟨bm,hz,I,x⟩:=x;rw[N]at I;obtain⟨D,cs,e,E,W⟩:=I;obtain⟨qi,i,pm,rs,m,qj,g⟩:=con;dsimp only at *;unfold VA at l;split at l
 .rename_i _ q y qk ql F;cases F;have X:q=p:=by
   rcases T with s|⟨qm,s,M⟩
   .cases s
   .cases s;rw[O]at M;exact(dI M).symm
  subst X;have H:=ag8 S W;have nil:Fr w' (fun g=>bm g=none/\((G.nw g/\(G.own g=none\/(b4 (G.hb b) g).isSome=true))\/(false=false/\ok g))) false bm d 0 (0+Tq rs) [] []:=Fr.nil;split at l
  .obtain⟨n,l⟩:=aG l;rw[az]at n;obtain⟨hinv,_⟩:=l6 (fb:=false) (f:=false) h t hz B D E (fun g j=>j.imp_right fun h=>⟨rfl,cR g h⟩) (fun g j=>j.imp_right fun h=>⟨h.1,cR g h.2⟩) H nil rfl;have hrel:=u3 (f:=false) (bx:=(b,ex false q.1 y.2.1)::st.bx) (bl:=[]++st.bl) n.2 (dy (fun g j=>BK (bm:=bm) h (own0:=b4 (G.hb b)) (fun g Y j=>by
    obtain⟨_,_,_,aS,_⟩:=h.bx b A t;unfold b4 at j;split at j
    .rename_i s;rw[s,aS];rfl
    .cases j) [] (some (b,G.hb b,ex false q.1 y.2.1)) false g ⟨j.1,j.2.imp_right fun h=>⟨rfl,cR g h⟩⟩) x)
   have z:=hinv.put d (ef n.1) (q7 (R:=fun _ _=>True) hrel);exact C _ _ _ _ z l
  .obtain⟨n,l⟩:=aG l;rw[az]at n;obtain⟨hinv,_⟩:=l6 (fb:=false) (f:=false) h t hz B D E (fun g j=>j.imp_right fun h=>⟨rfl,cR g h⟩) (fun g j=>j.imp_right fun h=>⟨h.1,cR g h.2⟩) H nil rfl;have hrel:=u3 (f:=true) (bx:=(b,ex false q.1 y.2.1)::st.bx) (bl:=[]++st.bl) n.2 (dy (fun g j=>BK (bm:=bm) h (own0:=b4 (G.hb b)) (fun g Y j=>by
    obtain⟨_,_,_,aS,_⟩:=h.bx b A t;unfold b4 at j;split at j
    .rename_i s;rw[s,aS];rfl
    .cases j) [] (some (b,G.hb b,ex false q.1 y.2.1)) true g ⟨j.1,.inl j.2⟩) x)
   have z:=hinv.put d (ef n.1) (q7 (R:=fun _ _=>True) hrel);exact C _ _ _ _ z l
  .obtain⟨n,l⟩:=aG l;simp only[az,hh]at n;obtain⟨⟨⟨Z,qa⟩,qb⟩,qd⟩:=n;have qe:j5 w' (fun g=>bm g=none/\((G.nw g/\(G.own g=none\/(b4 (G.hb b) g).isSome=true))\/(m2 m=false/\ok g))) bm rs y.1 0 us:=by rcases Z.imp aA aA with rfl|rfl<;>exact x
   obtain⟨L,qf,F⟩:=PG (id:=d) (f:=m2 m) qd qe;obtain⟨hinv,qg⟩:=l6 (fb:=false) h t hz B D E (fun g j=>j.imp_right fun h=>⟨rfl,cR g h⟩) (fun g j=>j.imp_right fun h=>⟨h.1,cR g h.2⟩) H qf qa;have hrel:=F.imp fun c v n=>Ju qg n
   have z:=hinv.put d (ef qb) (q7 (R:=fun _ _=>True) hrel);exact C _ _ _ _ z l
 .cases l
def nwC (G:Gh)(c:Bool)(b g:Nat):Prop:=(G.nw g/\(G.own g=none\/(b4 (G.hb b) g).isSome=true))\/(c=false/\RO G false g)
def alM (h:Inv w0 G st a w){con:CW}(X:con.pm=.cur){ok:Nat->Prop}{w':World}{u:Value}{y:Args con.rs×Args con.qs}{us:List Value}(cR:con.m=1\/con.m=2\/∀g,ok g->RO G false g){b qm:Nat}{C:List AC}(z:look st.bx b=some C)
  {p:Ty×Bool} (Y:gU con.ps con.i=some p) (Z:p.2=true) (qa:akd con)
  (x:N6 con w w' ok (nwC G (bI C) b) (b4 (G.hb b)) (G.hb b) u y us) (E:dh (fun g=>(b4 (G.hb b) g).isSome=true) w w') {d:Tmp}
  (n:VB con.rs con.qs con.m st (.c (.ptr b qm)) d y k=some r) (F:l4 w0 k r K):K (a.put (some d) (dj us)) w':=by
 obtain⟨bm,hz,N,x⟩:=x;rw[X]at N;obtain⟨H,cs,e,I,O⟩:=N;obtain⟨qn,i,pm,rs,m,qo,g⟩:=con;dsimp only at *;have S:∀g T,b4 (G.hb b) g=some T->(G.own g).isSome=true:=by
  intro g T j;obtain⟨_,_,_,aS,_⟩:=h.bx b C z;unfold b4 at j;split at j
  .rename_i A;rw[A,aS];rfl
  .cases j
 unfold VB at n;split at n
 .rename_i _ q y qp qq M;cases M;have qb:q=p:=by
   rcases qa with A|⟨qt,A,W⟩
   .cases A
   .cases A;rw[Y]at W;exact(dI W).symm
  subst qb;have D:=ag8 Z O;rw[z]at n;dsimp only at n;generalize bI C=l at n D x O;have nil:Fr w' (fun g=>bm g=none/\(nwC G l b g)) l bm d 0 (0+Tq rs) [] []:=Fr.nil;split at n
  .obtain⟨s,n⟩:=aG n;rw[az]at s;obtain⟨hinv,_⟩:=l6 (fb:=l) (f:=l) h z hz E H I (fun g j=>j) (fun g j=>j) D nil rfl;have qd:∀g,ok g->RO G false g:=by
    rcases cR with t|t|t
    .cases t
    .cases t
    .exact t
   have hrel:=u3 (f:=false) (bx:=(b,ex l q.1 y.2.1)::st.bx) (bl:=[]++st.bl) s.2 (dy (fun g j=>BK (bm:=bm) h (own0:=b4 (G.hb b)) S [] (some (b,G.hb b,ex l q.1 y.2.1)) false g ⟨j.1,by
    rcases j.2 with t|t
    .exact t.imp_right fun h=>⟨rfl,h.2⟩
    .exact .inr ⟨rfl,qd g t⟩⟩) x)
   have B:=hinv.put d (ef s.1) (q7 (R:=fun _ _=>True) hrel);exact F _ _ _ _ B n
  .obtain⟨s,n⟩:=aG n;rw[az]at s;obtain⟨hinv,_⟩:=l6 (fb:=l) (f:=l) h z hz E H I (fun g j=>j) (fun g j=>j) D nil rfl;have hrel:=u3 (f:=l) (bx:=(b,ex l q.1 y.2.1)::st.bx) (bl:=[]++st.bl) s.2 (dy (fun g j=>BK (bm:=bm) h (own0:=b4 (G.hb b)) S [] (some (b,G.hb b,ex l q.1 y.2.1)) l g ⟨j.1,j.2⟩) x);have B:=hinv.put d (ef s.1) (q7 (R:=fun _ _=>True) hrel);exact F _ _ _ _ B n
  .obtain⟨s,qe⟩:=aG n;simp only[az]at s;obtain⟨⟨⟨qf,qg⟩,qh⟩,qi⟩:=s;cases aA qf;have qj:j5 w' (fun g=>bm g=none/\nwC G l b g) bm rs y.1 0 us :=
    j5.alJ (fun g j=>⟨j.1,j.2.elim (fun h=>h) fun h=>by cases h.1⟩) x
   obtain⟨L,qk,M⟩:=PG (id:=d) (f:=l) qi qj;obtain⟨hinv,ql⟩:=l6 (fb:=l) h z hz E H I (fun g j=>j) (fun g j=>j) D qk qg;have hrel:=M.imp fun c v s=>Ju ql s
   have B:=hinv.put d (ef qh) (q7 (R:=fun _ _=>True) hrel);exact F _ _ _ _ B qe
 .cases n
def ai3 {i:Nat}{os:List Operand}{o:Operand}(h:gU os i=some o):ZL st i os=st.c6 o:=by unfold ZL;rw[h]
def VG {st:St}{p:Ty×Bool}{l:List AC}{y:p.1.D}(h:Ua st p (.agg l)=some y):p.2=true/\im st p.1 l=some (y,[]):=by
 obtain⟨t,b⟩:=p;cases b with
 |false=>simp[Ua]at h
 |true =>
  simp only[Ua]at h;split at h
  .rename_i z c;cases h;exact⟨rfl,c⟩
  .cases h
def Oa {st:St}{pm:PM}:∀(i:Nat) (ps:List (Ty×Bool)) (os:List Operand) (x:Args ps),fU st pm i ps os=some x->∃op p y,gU os i=some op/\gU ps i=some p/\im2 st pm p op=some y
 |0,[],os,x,b=>by cases os<;>simp[fU]at b
 |_+1,[],os,x,b=>by cases os<;>simp[fU]at b
 |0,p::ps,[],x,b=>by simp[fU]at b
 |_+1,p::ps,[],x,b=>by simp[fU]at b
 |0,p::ps,o::os,x,b=>by
  simp only[fU]at b;split at b
  .rename_i y c;exact⟨o,p,y,rfl,rfl,c⟩
  .cases b
 |i+1,p::ps,o::os,x,b=>by
  simp only[fU]at b;split at b
  .split at b
   .rename_i d e;exact Oa i ps os d e
   .cases b
  .cases b
def RI:∀{l:List AC},pG l=true->∀id len,AC.own id len ∉ l
 |[],_,id,len=>by simp
 |c::l,h,id,len=>by
  cases c with
  |own i b=>simp[pG]at h|_=>simp[RI (l:=l) h]
def ag9 {f:FuncId}{con:CW}(qj:N7 P w0 f con)(h:Inv w0 G st a w){args:List Operand}{d:Tmp}{x:Args con.ps}{y:Args con.rs×Args con.qs}(j:con.g x=some y)(qf:fU st con.pm con.i con.ps args=some x)
  (D:(con.pm=.cur/\(con.m=1\/con.m=2))\/∀e t c v xs,c∈eB st con.pm con.i args->a7 G w st.bx st.bl c v->bU st e t c=some xs->Rd w (RO G false) (.sl e t) xs [v])
  (z:(match con.pm with
   |.rd=>match rdM con.m with
    |some f=>ab1 f con.rs st d y.1 k|none=>none
   |.own _=>Pp con.rs con.qs con.m st (ZL st con.i args) d y k|.box=>VA con.rs con.qs con.m st (ZL st con.i args) d y k|.cur=>VB con.rs con.qs con.m st (ZL st con.i args) d y k)=some r) (qp:l4 w0 k r K) :
  Calls P f (args.map a.eval).toArray w fun e qg=>∃v,e=.returned v/\K (a.put (some d) v) qg/\∀(s:Operand) (g0:Nat),(con.pm=.box\/con.pm=.cur)->gU args con.i=some s->a.eval s=.pointer (some ⟨g0,0,none⟩)->∀k,k<w.heap.size->k≠g0->qg.heap[k]?=w.heap[k]?:=by
 have qu:=qj.2.1;obtain⟨s,p,qv,S,qw,qq⟩:=Oa con.i con.ps args x qf;rw[ai3 S]at z;cases A:con.pm with
 |rd =>
  have D:=D.resolve_left fun h=>by rw[A]at h;cases h.1
  rw[A]at z qq;dsimp only at z;split at z
  .rename_i qd qa;obtain⟨_,_,_,_,_,qb⟩:=tZ (ok:=RO G false) (nw:=fun g=>G.nw g/\(G.own g=none\/(none:Option Nat).isSome=true)) (own0:=fun _=>none) (g0:=0) h con.i con.ps args x D qf (fun p s y I qh n N=>by have N:=N A;rw[A]at n ⊢;exact acr h N n)
   obtain⟨O,L,T,_,_,qb⟩:=tZ (ok:=RO G false) (nw:=fun g=>G.nw g/\(G.own g=none\/(none:Option Nat).isSome=true)) (own0:=fun _=>none) (g0:=0) h con.i con.ps args x D qf (fun p s y I qh n N=>by have N:=N A;rw[A]at n ⊢;exact acr h N n)
   refine Calls.mono (qj.2.2 x y j w h.below _ _ _ 0 _ _ (Fk h (own0:=fun _=>none) fun g R qi=>by cases qi) qb) fun e qg C=>?_
   obtain⟨us,rfl,W,X⟩:=C;exact⟨_,rfl,anZ h (fun g j=>j) qa W X z qp,fun _ _ q=>by rcases q with q|q<;>cases q⟩
  .cases z
 |own qd =>
  have D:=D.resolve_left fun h=>by rw[A]at h;cases h.1
  rw[A]at z;dsimp only at z;have key:∀p s y,im2 st con.pm p s=some y->eA st (pmM qd) [] (st.c6 s).cells=true/\q0 st [p] [st.c6 s]=true/\im1 st p s=some y:=by
   intro p s y n;rw[A]at n;simp only[im2]at n;split at n
   .rename_i M;rw[az]at M;exact⟨M.1,M.2,n⟩
   .cases n
  obtain⟨O,L,T,_,_,qb⟩:=tZ (ok:=RO G false) (nw:=fun g=>G.nw g/\(G.own g=none\/(bG G (aF [st.c6 s]) g).isSome=true)) (own0:=bG G (aF [st.c6 s])) (g0:=0) h con.i con.ps args x D qf (fun L B y I qh n N=>by
   obtain⟨qx,qN,qy⟩:=key L B y n;have:B=s:=by rw[S]at I;exact(dI I).symm
   subst this;rw[A];have qQ:∀g,RO G (m2 (pmM qd)) g->bG G (aF [st.c6 B]) g=none/\((G.nw g/\(G.own g=none\/(bG G (aF [st.c6 B]) g).isSome=true))\/(qd=false/\RO G false g)):=by
    intro g j;refine⟨by simp[bG,j.1],?_⟩;rcases j.2 with qt|qt
    .exact .inl ⟨qt,.inl j.1⟩
    .refine .inr ⟨?_,j.1,.inr ⟨rfl,qt.2⟩⟩;cases qd with
     |false=>rfl|true=>cases qt.1
   obtain⟨W,_⟩:=Ag (m:=pmM qd) (by cases qd<;>simp[pmM]) qQ h (aF [st.c6 B]) [] [L] [st.c6 B] [a.eval B] (y,()) (pre:=[]) (seen:=[]) ⟨h.c6 B,trivial⟩ (by simp) (fun id len qa=>by simp at qa) (by rw[fo,C6];exact qx) qN (by have:Ua st L (st.c6 B)=some y:=qy;simp[tT,this])
   obtain⟨v,xd,C,Y,_⟩:=W;cases C;exact Y)
  obtain⟨qx,qN,qy⟩:=key p s qv qq;have:O=s:=by rw[S]at T;exact(dI T).symm
  subst this;refine Calls.mono (qj.2.2 x y j w h.below _ _ _ 0 _ _ (Fk h (own0:=bG G (aF [st.c6 O])) fun g R qi=>LH qi) qb) fun e qg C=>?_
  obtain⟨us,rfl,W,X⟩:=C;exact⟨_,rfl,aaT h A (fun g j=>j) (h.c6 O) qw qu qy qx W X z qp,fun _ _ q=>by rcases q with q|q<;>cases q⟩
 |cur =>
  rw[A]at z;dsimp only at z;have key:∀p s y,im2 st con.pm p s=some y->∃b l,st.c6 s=.c (.ptr b 0)/\look st.bx b=some l/\pG l=true/\Ua st p (.agg l)=some y:=by
   intro p s y n;rw[A]at n;simp only[im2]at n;split at n
   .rename_i b E;split at n
    .rename_i l F;split at n
     .rename_i qz;exact⟨b,l,E,F,qz,n⟩
     .cases n
    .cases n
   .cases n
  obtain⟨b,l,E,F,qz,qA⟩:=key p s qv qq;have qB:p.2=true:=(VG qA).1;obtain⟨cs,e,qC,aS,hrel⟩:=h.bx b l F;have qD:∀g R,b4 (G.hb b) g=some R->(G.own g).isSome=true:=by
   intro g R j;unfold b4 at j;split at j
   .rename_i C;rw[C,aS];rfl
   .cases j
  obtain⟨ok,qR,qS,D⟩:∃ok:Nat->Prop,(∀g,ok g->b4 (G.hb b) g=none)/\(con.m=1\/con.m=2\/∀g,ok g->RO G false g)/\∀e t c v xs,c∈eB st con.pm con.i args->a7 G w st.bx st.bl c v->bU st e t c=some xs->Rd w ok (.sl e t) xs [v]:=by
   rcases D with ⟨_,qE⟩|qE
   .refine⟨fun g=>∀d,G.own g≠some (.bx d),fun g j=>lz fun C=>j b (by rw[C,aS]),qE.elim .inl fun h=>.inr (.inl h),fun e t c v xs _ z H=>gi h z H (fun id len qO _ qT=>⟨fun g j d H=>?_,fun qW g j d H=>?_⟩) fun f e u qP _ g j d H=>?_⟩
    .rw[j.1]at H;cases H
    .obtain⟨_,_,qh,_⟩:=(h.bl id qO qT).wr qW;rw[qh g j]at H;cases H
    .rw[j.1]at H;cases H
   .refine⟨RO G false,fun g j=>lz fun C=>?_,.inr (.inr fun g j=>j),qE⟩;have:=j.1;rw[C,aS]at this;cases this
  obtain⟨O,L,T,_,_,qb⟩:=tZ (ok:=ok) (nw:=nwC G (bI l) b) (own0:=b4 (G.hb b)) (g0:=G.hb b) h con.i con.ps args x D qf (fun L B y I qh n N=>by
   have:B=s:=by rw[S]at I;exact(dI I).symm
   subst this;obtain⟨qX,qY,qk,ql,_,qF⟩:=key L B y n;rw[E]at qk;cases qk;rw[F]at ql;cases ql;rw[A];have Y:a.eval B=.pointer (some ⟨G.hb b,0,none⟩):=by have:=h.c6 B;rw[E]at this;exact this.2
   refine⟨Y,by simp[b4],cs,e,qC,?_⟩;have qG:∀e t c v xs,c∈l->a7 G w st.bx st.bl c v->bU st e t c=some xs->Rd w (fun g=>b4 (G.hb b) g=none/\nwC G (bI l) b g) (.sl e t) xs [v]:=by
    intro e t c v xs qa z H;refine gi h z H (fun id len qO M _=>?_) fun f e u qP M g j=>?_
    .subst M;exact absurd qa (RI qz id len)
    .subst M;refine⟨lz fun C=>?_,?_⟩
     .have:=j.1;rw[C,aS]at this;cases this
     .cases qZ:bI l with
      |true =>
       have:=Ff qZ f e u qP qa;subst this;exact .inl ⟨j.2.elim (fun h=>h) fun h=>(by cases h.1),.inl j.1⟩
      |false=>exact .inr ⟨rfl,j.1,j.2.imp_right fun h=>⟨rfl,h.2⟩⟩
   obtain⟨xa,qH,qm,qI,qK,_⟩:=Fe qG hrel (VG qF).2;have:qH=[]:=Pn qK.len.symm;subst this;rw[fo]at qm;rw[qm];exact qI)
  have:O=s:=by rw[S]at T;exact(dI T).symm
  subst this;have hd0:=Fk h (own0:=b4 (G.hb b)) qD;refine Calls.mono (qj.2.2 x y j w h.below ok (nwC G (bI l) b) (b4 (G.hb b)) (G.hb b) _ _ ⟨fun g j=>.inl (hd0.hz g j),fun g R qi=>⟨.inl (hd0.aS g R qi).1,(hd0.aS g R qi).2⟩,qR,hd0.hb⟩ qb) fun e qg C=>?_
  obtain⟨us,rfl,W,X⟩:=C;rw[E]at z;exact⟨_,rfl,alM h A qS F qw qB qu W X z qp,fun qe g0 _ qn Y k qL qM=>X.block k qL (by
   have:qe=O:=by rw[S]at qn;exact(dI qn).symm
   subst this;have q:=h.c6 qe;rw[E]at q;have q:a.eval qe=.pointer (some ⟨G.hb b,0,none⟩):=q.2;rw[Y]at q;injection q with q
   injection q with q
   injection q with q
   rw[lz (fun e=>qM (by rw[e,q]))];simp)⟩
 |box =>
  have D:=D.resolve_left fun h=>by rw[A]at h;cases h.1
  rw[A]at z;dsimp only at z;have key:∀p s y,im2 st con.pm p s=some y->∃b l,st.c6 s=.c (.ptr b 0)/\look st.bx b=some l/\Ua st p (.agg l)=some y:=by
   intro p s y n;rw[A]at n;simp only[im2]at n;split at n
   .rename_i b E;split at n
    .rename_i l F;exact⟨b,l,E,F,n⟩
    .cases n
   .cases n
  obtain⟨b,l,E,F,qA⟩:=key p s qv qq;have qB:p.2=true:=(VG qA).1;have qD:∀g R,b4 (G.hb b) g=some R->(G.own g).isSome=true:=by
   intro g R j;obtain⟨_,_,_,aS,_⟩:=h.bx b l F;unfold b4 at j;split at j
   .rename_i C;rw[C,aS];rfl
   .cases j
  obtain⟨O,L,T,_,_,qb⟩:=tZ (ok:=RO G false) (nw:=fun g=>G.nw g/\(G.own g=none\/(b4 (G.hb b) g).isSome=true)) (own0:=b4 (G.hb b)) (g0:=G.hb b) h con.i con.ps args x D qf (fun L B y I qh n N=>by
   have:B=s:=by rw[S]at I;exact(dI I).symm
   subst this;obtain⟨qX,qY,qk,ql,qF⟩:=key L B y n;rw[E]at qk;cases qk;rw[F]at ql;cases ql;rw[A];obtain⟨cs,e,qC,aS,hrel⟩:=h.bx b l F;have Y:a.eval B=.pointer (some ⟨G.hb b,0,none⟩):=by have:=h.c6 B;rw[E]at this;exact this.2
   refine⟨Y,by simp[b4],cs,e,qC,?_⟩;have qG:∀e t c v xs,c∈l->a7 G w st.bx st.bl c v->bU st e t c=some xs->Rd w (RO G false) (.sl e t) xs [v]:=by
    have xb:∀(i:Nat) (Z:List Operand),gU Z i=some B->∀c∈l,c∈eB st .box i Z:=by
     intro i
     induction i with
     |zero =>
      intro Z qo c M;cases Z with
      |nil=>cases qo
      |cons o Z =>
       cases qo;simp[eB,E,F,M]
     |succ i xc =>
      intro Z qo c M;cases Z with
      |nil=>cases qo|cons o Z=>simp[eB,xc Z qo c M]
    exact fun e t c v xs qa=>D e t c v xs (by rw[A];exact xb con.i args I c qa)
   obtain⟨xa,qH,qm,qI,qK,_⟩:=Fe qG hrel (VG qF).2;have:qH=[]:=Pn qK.len.symm;subst this;rw[fo]at qm;rw[qm];exact qI)
  have:O=s:=by rw[S]at T;exact(dI T).symm
  subst this;refine Calls.mono (qj.2.2 x y j w h.below _ _ _ _ _ _ (Fk h qD) qb) fun e qg C=>?_
  obtain⟨us,rfl,W,X⟩:=C;rw[E]at z;exact⟨_,rfl,alL h A (fun g j=>j) F qw qB qu W X z qp,fun qe g0 _ qn Y k qL qM=>X.block k qL (by
   have:qe=O:=by rw[S]at qn;exact(dI qn).symm
   subst this;have q:=h.c6 qe;rw[E]at q;have q:a.eval qe=.pointer (some ⟨G.hb b,0,none⟩):=q.2;rw[Y]at q;injection q with q
   injection q with q
   injection q with q
   rw[lz (fun e=>qM (by rw[e,q]))];simp)⟩
def an0 {con:CW}{args:List Operand}(h:¬(con.pm=.cur/\(con.m=1\/con.m=2))):anI st con args=eB st con.pm con.i args:=by
 unfold anI;split
 .rename_i b;rw[b]at h ⊢;split
  .exact absurd ⟨rfl,.inl ‹_›⟩ h
  .exact absurd ⟨rfl,.inr ‹_›⟩ h
  .rfl
 .rfl
def PJ {f:FuncId}{con:CW}(m:N7 P w0 f con)(h:Inv w0 G st a w){args:Array Operand}{ts:Array TypeId}(A:o.op=.call {callee:=.value (.func f),args:=args,argTypes:=ts})
  (b:Pq con st o.dst args.toList k=some r) (B:l4 w0 k r K):o.wp P a w (fun C g=>K C g/\∀(z:Operand) (n:Nat),(con.pm=.box\/con.pm=.cur)->gU args.toList con.i=some z->a.eval z=.pointer (some ⟨n,0,none⟩)->∀k,k<w.heap.size->k≠n->g.heap[k]?=w.heap[k]?) Q:=by
 unfold Oper.wp;rw[BJ m.1 A];unfold Pq at b;dsimp only at b;obtain⟨I,p,L,M,D⟩:=h.freeze (anI st con args.toList);split at b
 .rename_i x i;cases j:con.g x with
  |none=>rw[j]at b;cases b
  |some y =>
   rw[j]at b;simp only[V5]at b;have E:(args.map a.eval)=(args.toList.map a.eval).toArray:=by rw[<-Td,qU]
   show Calls P f _ w _;rw[E];cases q:o.dst with
   |none=>rw[q]at b;cases b
   |some d =>
    rw[q]at b;dsimp only at b;refine Calls.mono (ag9 m p j i (by
     by_cases s:con.pm=.cur/\(con.m=1\/con.m=2)
     .exact .inl s
     .refine .inr fun e t c v xs u=>N8 p (nf:=false) (fun l=>by cases l) (fun l=>by cases l) e t c v xs ?_
      rw[Jt D]at u;rw[an0 s];exact u) b B) fun e g F=>?_
    obtain⟨v,rfl,H,i⟩:=F;exact⟨H,i⟩
 .cases b
def aes {f:FuncId}{con:CW}(b:N7 P w0 f con)(h:Inv w0 G st a w){args:Array Operand}{ts:Array TypeId}(c:o.op=.call {callee:=.value (.func f),args:=args,argTypes:=ts})
  (d:Pq con st o.dst args.toList k=some r) (e:l4 w0 k r K):o.wp P a w K Q:=by
 exact Oper.wp_mono (fun _ _ h=>h.1) (PJ b h c d e)
def aha:∀{t:Ty} {x:t.D},Wa t x=true->aqD t x=x
 |.bool,x,h=>Eq.symm h|.int _,x,h=>(cS.1 h).symm|.str,_,h|.unit,_,h|.pair _ _,_,h|.sl _ _,_,h=>by cases h
def ahb:∀{t:Ty} {x:t.D},Wa t x=false->aqE t x=x
 |.bool,x,h=>Eq.symm h|.int _,x,_=>rfl|.str,_,_|.unit,_,_|.pair _ _,_,_|.sl _ _,_,_=>rfl
def aet {bx:List (Nat×List AC)}{bl:List (Nat×Option dD)}:∀{n:Nat} {vs:List Value},vs.length=n->(∀c∈vs,c.oneCell'=true)->bD (a7 G w bx bl) (List.replicate n .any) vs
 |0,[],_,_=>trivial|n+1,v::vs,h,b=>by rw[List.replicate_succ];exact⟨b v (by simp),aet (by simpa using h) fun c d=>b c (by simp[d])⟩
 |0,_::_,h,_=>by simp at h
 |_+1,[],h,_=>by simp at h
def aeu {f:FuncId}{con:Sel}(M:acq P w0 f con)(h:Inv w0 G st a w){args:Array Operand}{ts:Array TypeId}(qh:o.op=.call {callee:=.value (.func f),args:=args,argTypes:=ts})
  (b:ab2 con st o.dst args.toList k=some r) (W:l4 w0 k r K):o.wp P a w K Q:=by
 unfold Oper.wp;rw[BJ M.1 qh];unfold ab2 at b;dsimp only at b;obtain⟨j,l,qi,qj,X⟩:=h.freeze (eB st (.own true) con.i args.toList);have Y:∀e t c v xs,c∈eB (st.freeze (eB st (.own true) con.i args.toList)) (.own true) con.i args.toList->a7 j w (st.freeze (eB st (.own true) con.i args.toList)).bx (st.freeze (eB st (.own true) con.i args.toList)).bl c v->bU (st.freeze (eB st (.own true) con.i args.toList)) e t c=some xs->Rd w (RO j false) (.sl e t) xs [v] :=
  fun e t c v xs C=>N8 l (nf:=false) (fun N=>by cases N) (fun N=>by cases N) e t c v xs (by rw[Jt X]at C;exact C)
 generalize st.freeze (eB st (.own true) con.i args.toList)=i at b l Y;clear qi qj X h;split at b
 .rename_i x Z;cases n:con.g x with
  |none=>rw[n]at b;cases b
  |some y =>
   rw[n]at b;simp only[V5]at b;have qk:(args.map a.eval)=(args.toList.map a.eval).toArray:=by rw[<-Td,qU]
   show Calls P f _ w _;rw[qk];cases qa:o.dst with
   |none=>rw[qa]at b;cases b
   |some d =>
    rw[qa]at b;dsimp only at b;obtain⟨op,p,ql,O,qb,qm⟩:=Oa con.i con.ps args.toList x Z;rw[ai3 O]at b;have key:∀p op y,im2 i (.own true) p op=some y->eA i (pmM true) [] (i.c6 op).cells=true/\q0 i [p] [i.c6 op]=true/\im1 i p op=some y:=by
     intro p op y A;simp only[im2]at A;split at A
     .rename_i B;rw[az]at B;exact⟨B.1,B.2,A⟩
     .cases A
    obtain⟨D,E,qd,_,_,qn⟩:=tZ (ok:=RO j false) (nw:=fun g=>j.nw g/\(j.own g=none\/(bG j (aF [i.c6 op]) g).isSome=true)) (own0:=bG j (aF [i.c6 op])) (g0:=0) l con.i con.ps args.toList x Y Z (fun E s y qe qD A qE=>by
     obtain⟨F,qf,H⟩:=key E s y A;have:s=op:=by rw[O]at qe;exact(dI qe).symm
     subst this;have qo:∀g,RO j (m2 (pmM true)) g->bG j (aF [i.c6 s]) g=none/\((j.nw g/\(j.own g=none\/(bG j (aF [i.c6 s]) g).isSome=true))\/(true=false/\RO j false g)):=by
      intro g n;refine⟨by simp[bG,n.1],?_⟩;rcases n.2 with R|R
      .exact .inl ⟨R,.inl n.1⟩
      .cases R.1
     obtain⟨z,_⟩:=Ag (m:=pmM true) (by simp[pmM]) qo l (aF [i.c6 s]) [] [E] [i.c6 s] [a.eval s] (y,()) (pre:=[]) (seen:=[]) ⟨l.c6 s,trivial⟩ (by simp) (fun id len C=>by simp at C) (by rw[fo,C6];exact F) qf (by have:Ua i E (i.c6 s)=some y:=H;simp[tT,this])
     obtain⟨v,qF,S,qp,_⟩:=z;cases S;exact qp)
    obtain⟨F,qf,H⟩:=key p op ql qm;have:D=op:=by rw[O]at qd;exact(dI qd).symm
    subst this;have qq:p=con.q:=by have:=M.2.1;rw[qb]at this;exact dI this
    subst qq;refine Calls.mono (M.2.2 x y n w l.below _ _ _ 0 _ _ (Fk l (own0:=bG j (aF [i.c6 D])) fun g qG qt=>LH qt) qn) fun e qu S=>?_
    obtain⟨us,rfl,⟨T,I,rfl,z⟩,qg⟩:=S;show K (a.put (some d) (dj [T,I])) qu;cases L:Wa con.b.1 y.2.1 with
    |true =>
     rw[L]at b z;rw[aha L]at b;exact aaT (con:=apI con) (f:=true) l rfl (fun g n=>n) (l.c6 D) qb (.inl rfl) H F z qg b W
    |false =>
     rw[L]at b z;rw[ahb L]at b;obtain⟨B,b⟩:=aG (show ck _ _=some r from b);simp only[az]at B;obtain⟨⟨hd1,qv⟩,qw⟩:=B;obtain⟨⟨bm,hz,qx,z⟩,qy⟩:=z;obtain⟨qH,hinv,hrel⟩:=aer (q:=con.q) (y2:=y.2.2) (m:=2) (rs:=[con.b]) (y:=(y.2.1,())) (us:=[I]) l (fun g n=>n) (l.c6 D) H F hz qx z qg qv qw;refine W _ _ _ _ (hinv.put d (ef hd1) (v:=.GF (ali con.a::(hy d true [con.b] (y.2.1,()) 0).1)) (u:=dj [T,I]) ⟨#[T,I],rfl,?_,hrel⟩) b;unfold ali;split
     .rename_i qz;obtain⟨qA,rfl,qB,qC⟩:=qy qz;exact⟨qA,rfl,aet qB qC⟩
     .exact trivial
 .cases b
end
end Go.Am
